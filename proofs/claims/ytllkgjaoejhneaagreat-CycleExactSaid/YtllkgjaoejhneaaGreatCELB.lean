/- New variables; Hv WQ variables. -/
import Derived.Test.YtllkgjaoejhneaaGreatCELA
import Derived.MapKept
open Option renaming some->D,none->M,isNone_iff_eq_none->è
open _root_ renaming List->F,Nat->H,Option->Á,Array->È,Bool->Ö
open Go renaming Value->G,Program->À,World->Â,TypeId->Æ,Act->Þ,Operand->þ
open Go.Result renaming andThen_ok->I,andThen->à
open Go.Sem renaming run_bind->J,run_pure->Ã,run_ite->ý
open List renaming replicate->O,take->W,take_of_length_le->Y,drop->Ë,length->Î,take_append->Ø,take_left'->Ü,take_take->ß,set_cons_zero->â,any_cons->ä,getElem?_append_left->å,ext_getElem?->æ,getElem_cons_drop->ë,any_append->ì,set_append_right->î,mem_map_of_mem->ô,range_succ->ÿ
open Bool renaming false->U,true->Ä
open Go.Value.slice renaming injEq->Z
open Go.Addr renaming add_lit->Å
open Nat renaming add_mul->Ç,min_eq_left->É,add_zero->ö,one_mul->ü
open Go.Instr renaming buildSlice->Ê,fill->Ñ,build->Ù,findNow->Ú,mapUpdate->Ý,sliceAt->ç,sameBits->ð,storeAt->ò,sameNow->õ,lookup->ø
open Go.Builtin renaming append_->Ì,firstCells->Ó,clear_->á,copy_->é,lenOf->ó
open Go.MapKept renaming run_getObj_map->Í,run_findKey->Ò,bytes_beq->ê,run_setObj_map->í,run_checkKey->ñ
open Array renaming range->Ï,getElem?_toList->Û,getElem?_modify->ï,toList_push->û
open Go.World renaming cell?_of_block->Ð,alloc_eq->Ô,ownsRow_nil->Õ,ownsRow_lit->ú
open Iff renaming rfl->ã
set_option linter.unusedVariables false
namespace Go.Lft
section
variable{N:NT}{np:H}{S0:aM}{w0:Â}{refs:Refs}{σ:St}{a:Þ}{w:Â}{S:aM}{γ:H->G}
def gset(γ:H->G)(n:H)(v:G):H->Value:=λk=>if k=n then v else γ k
theorem dH(γ:H->G)(n:H)(v:G):gset γ n v n=v:=by simp[gset]
theorem eG(γ:H->G){n k:H}(v:G)(h:k≠n):gset γ n v k=γ k:=by simp[gset,h]
theorem uR(hR:Rel N np S0 w0 refs σ a w S γ)(o:Obj):db S w S (w.alloc o):=
 λg i h=>⟨h,World.cell?_alloc_lt w o ⟨g,i,M⟩ (hR.here g i h)⟩
theorem iu{bx:H->BS}{k:H}{b:Bx}(h:dQ S w γ bx k b){g:H}(hg:blk (γ k)=D g):g<w.heap.size:=by
 cases b with
 |cell ls frz=>obtain⟨g',cur,e,h1,h2,_⟩:=h;rw[h1]at hg;simp[blk]at hg;subst hg;exact(jn.1 h2).1
 |lst e t xs frz=>exact h.1.lt hg
 |arr n t xs=>obtain⟨g',cur,e,h1,h2,_⟩:=h;rw[h1]at hg;simp[blk]at hg;subst hg;exact(jn.1 h2).1
 |row e t n ls=>
  obtain⟨_,⟨cs,h1,_⟩,_⟩:=h;rcases h1.2 with⟨hn,_⟩|⟨g',cap,cur,hv,_,hh,_⟩
  .rw[hn]at hg;simp[blk]at hg
  .rw[hv]at hg;simp[blk]at hg;subst hg;exact(jn.1 hh).1
theorem DU(hR:Rel N np S0 w0 refs σ a w S γ){n:H}(hn:σ.bx n = .free){o:Obj}{b:Bx}{v:G}(hv:∀g,blk v=D g->g=w.heap.size)
  (hb:BxLe γ σ.bx (gset γ n v) (σ.setB n (.live b)).bx->dQ S (w.alloc o) (gset γ n v) (σ.setB n (.live b)).bx n b) :
  Rel N np S0 w0 refs (σ.setB n (.live b)) a (w.alloc o) S (gset γ n v)/\BxLe γ σ.bx (gset γ n v) (σ.setB n (.live b)).bx:=by
 have hle:BxLe γ σ.bx (gset γ n v) (σ.setB n (.live b)).bx:=by
  intro k hk;have br:k≠n:=by rintro rfl;exact hk hn
  rw[bQ σ _ br,eG γ v br];exact⟨hk,rfl,λb hb=>⟨b,hb,.refl b⟩⟩
 have aL:=uR hR o
 refine⟨Rel.step (bx':=(σ.setB n (.live b)).bx) hR aL hle ?_ ?_ ?_ hR.new ?_ ?_ ?_ hR.os hR.tape hR.output (λg hg _ h=>⟨heap_alloc_old w o hg,λk b' aG cC=>by
  by_cases hk:k=n
  .subst hk;rw[dH]at cC;have:=hv g cC;omega
  .rw[bQ σ _ hk]at aG;rw[eG γ v hk]at cC;exact h k b' aG cC⟩),hle⟩
 .intro k b' aG;by_cases hk:k=n
  .subst hk;rw[ee]at aG;simp at aG;subst aG;exact hb hle
  .rw[bQ σ _ hk]at aG;refine dQ.keep aL hle (eG γ v hk) (λg hg=>⟨?_,λ_=>ã⟩) (hR.box k b' aG);exact heap_alloc_old w o (iu (hR.box k b' aG) hg)
 .intro k b' g aG hg;by_cases hk:k=n
  .subst hk;rw[dH]at hg;exact .inl (.inl (by rw[hv g hg];exact hR.grow))
  .rw[bQ σ _ hk]at aG;rw[eG γ v hk]at hg;exact hR.own k b' g aG hg
 .intro k k' b1 b2 g br h1 h2 hg ao;by_cases hk:k=n
  .subst hk;have bg:k'≠k:=λh=>br h.symm;rw[dH]at hg;rw[bQ σ _ bg]at h2;rw[eG γ v bg]at ao;have:=iu (hR.box k' b2 h2) ao;rw[hv g hg]at this;omega
  .by_cases bg:k'=n
   .subst bg;rw[dH]at ao;rw[bQ σ _ hk]at h1;rw[eG γ v hk]at hg;have:=iu (hR.box k b1 h1) hg;rw[hv g ao]at this;omega
   .rw[bQ σ _ hk]at h1;rw[bQ σ _ bg]at h2;rw[eG γ v hk]at hg;rw[eG γ v bg]at ao;exact hR.apart k k' b1 b2 g br h1 h2 hg ao
 .intro g i h;have:=hR.here g i h;simp;omega
 .intro g hg hr;rw[heap_alloc_old w o (by have:=hR.grow;omega)];exact hR.below g hg hr
 .have:=hR.grow;simp;omega
theorem xJ(hR:Rel N np S0 w0 refs σ a w S γ)(o:H):¬S w.heap.size o:=λh=>by have:=hR.here _ _ h;omega
theorem Hw(hR:Rel N np S0 w0 refs σ a w S γ){n:H}(hn:σ.bx n = .free){ls:F Leaf}{cur:È G}{e:Æ}
  (hl:All2 (bj S w γ σ.bx) ls cur.toList)(h1:∀u∈cur.toList,One u) :
  Rel N np S0 w0 refs (σ.setB n (.live (.cell ls U))) a (w.alloc (.cells cur e)) S (gset γ n (.pointer (D ⟨w.heap.size,0,M⟩)))/\
   bE S (w.alloc (.cells cur e)) (gset γ n (.pointer (D ⟨w.heap.size,0,M⟩))) (σ.setB n (.live (.cell ls U))).bx (.one (.bp n 0)) (.pointer (D ⟨w.heap.size,0,M⟩)):=by
 obtain⟨h,hle⟩:=DU hR hn (o:= .cells cur e) (b:= .cell ls U) (v:= .pointer (D ⟨w.heap.size,0,M⟩)) (λg hg=>by simp[blk]at hg;exact hg.symm) (λhle=>
  ⟨w.heap.size,cur,e,dH _ _ _,heap_alloc_new w _,by rw[Y (Nat.le_of_eq hl.length.symm)];exact hl.mono (λx u hx=>bj.keep (uR hR _) hle hx),λu hu=>h1 u (qd hu),λ_ o=>xJ hR o,af⟩)
 refine⟨h,⟨by rw[ee];simp,rfl,λb _=>⟨w.heap.size,dH _ _ _,rfl⟩⟩,λ_=>rfl⟩
theorem OE(hR:Rel N np S0 w0 refs σ a w S γ){n m:H}(hn:σ.bx n = .free){t:Ty}{xs:F t.den}{cur:È G}{e:Æ}
  (hl:Rep S w (.arr m t) xs cur.toList) :
  Rel N np S0 w0 refs (σ.setB n (.live (.arr m t xs))) a (w.alloc (.cells cur e)) S (gset γ n (.pointer (D ⟨w.heap.size,0,M⟩)))/\
   bE S (w.alloc (.cells cur e)) (gset γ n (.pointer (D ⟨w.heap.size,0,M⟩))) (σ.setB n (.live (.arr m t xs))).bx (.one (.bp n 0)) (.pointer (D ⟨w.heap.size,0,M⟩)):=by
 obtain⟨h,hle⟩:=DU hR hn (o:= .cells cur e) (b:= .arr m t xs) (v:= .pointer (D ⟨w.heap.size,0,M⟩)) (λg hg=>by simp[blk]at hg;exact hg.symm) (λ_=>
  ⟨w.heap.size,cur,e,dH _ _ _,heap_alloc_new w _,Rep.keep (uR hR _) _ _ _ hl,λo=>xJ hR o⟩)
 refine⟨h,⟨by rw[ee];simp,rfl,λb _=>⟨w.heap.size,dH _ _ _,rfl⟩⟩,λ_=>rfl⟩
theorem tg{bx:H->BS}:∀(t:Ty),All2 (bj S w γ bx) (mz t) (iM t)
 |.int _=>⟨rfl,trivial⟩
 |.bool=>⟨rfl,trivial⟩
 |.str=>⟨rfl,trivial⟩
 |.unit=>trivial
 |.wrap a=>tg a
 |.pair a b=>(tg a).append (tg b)
 |.list _=>⟨rfl,trivial⟩
 |.arr n a=>by
  show All2 _ ((List.range n).flatMap λ_=>mz a) ((O n (iM a)).flatten);induction n with
  |zero=>simp[All2]
  |succ n ih=>rw[ÿ,List.flatMap_append,List.replicate_succ',vf];refine ih.append ?_;simpa using tg a
theorem nU:∀(t:Ty),Rep S w t t.dflt (iM t)
 |.int _=>rfl
 |.bool=>rfl
 |.str=>rfl
 |.unit=>rfl
 |.wrap a=>nU a
 |.pair a b=>⟨_,_,rfl,nU a,nU b⟩
 |.list _=>⟨M,0,rfl,jz _,by simp[maxLen],λ_=>rfl,λb hb=>by simp at hb⟩
 |.arr n a=>by
  refine⟨qn,O n (iM a),?_,rfl⟩;have hz:=nU a
  have:∀n,All2 (λx c=>Rep S w a x c) (O n a.dflt) (O n (iM a)):=by
   intro n;induction n with
   |zero=>exact trivial
   |succ n ih=>exact⟨hz,ih⟩
  exact this n
theorem xK(hR:Rel N np S0 w0 refs σ a w S γ){k:H}{b b':Bx}(hk:σ.bx k = .live b){g:H}(hg:blk (γ k)=D g)(hS:∀o,¬S g o)(sW:iL b b')
  {old new:È G}{e:Æ}(hh:w.heap[g]? = D (.cells old e (0,0)))
  (hb:BxLe γ σ.bx γ (σ.setB k (.live b')).bx->db S w S (w.setRow g new)->dQ S (w.setRow g new) γ (σ.setB k (.live b')).bx k b') :
  Rel N np S0 w0 refs (σ.setB k (.live b')) a (w.setRow g new) S γ:=by
 have hle:BxLe γ σ.bx γ (σ.setB k (.live b')).bx:=by
  intro k' bg;by_cases bI:k'=k
  .subst bI;rw[ee];exact⟨af,rfl,λb1 dg=>by simp at dg;subst dg;exact⟨b,hk,sW⟩⟩
  .rw[bQ σ _ bI];exact⟨bg,rfl,λb hb=>⟨b,hb,.refl b⟩⟩
 have aL:db S w S (w.setRow g new):=by
  intro g' o h;refine⟨h,cell_setRow_other w g new ⟨g',o,M⟩ ?_⟩
  rintro rfl
  exact hS o h
 have bF:∀k' b1,(σ.setB k (.live b')).bx k' = .live b1->∃b2,σ.bx k' = .live b2:=by
  intro k' b1 h1;by_cases bI:k'=k
  .subst bI;exact⟨b,hk⟩
  .rw[bQ σ _ bI]at h1;exact⟨b1,h1⟩
 have ay:=(jn.1 hh).1
 refine Rel.step (bx':=(σ.setB k (.live b')).bx) hR aL hle ?_ ?_ ?_ hR.new ?_ ?_ ?_ hR.os hR.tape hR.output (λg' _ _ h=>⟨setRow_other w g g' new (λe=>h k b hk (e▸hg)),λk' b1 h1=>by
  obtain⟨b2,h2⟩:=bF k' b1 h1;exact h k' b2 h2⟩)
 .intro k' b1 h1;by_cases bI:k'=k
  .subst bI;rw[ee]at h1;simp at h1;subst h1;exact hb hle aL
  .rw[bQ σ _ bI]at h1;refine dQ.keep aL hle rfl (λg' ao=>⟨?_,λ_=>ã⟩) (hR.box k' b1 h1);exact setRow_other w g g' new (λh=>hR.apart k' k b1 b g bI h1 hk (h▸ao) hg)
 .intro k' b1 g' h1 ao;obtain⟨b2,h2⟩:=bF k' b1 h1;exact hR.own k' b2 g' h2 ao
 .intro k1 k2 b1 b2 g' br h1 h2 ao;obtain⟨rm,kB⟩:=bF k1 b1 h1;obtain⟨rq,jA⟩:=bF k2 b2 h2;exact hR.apart k1 k2 rm rq g' br kB jA ao
 .intro g' o h;rw[size_setRow];exact hR.here g' o h
 .intro g' ao hr;rw[setRow_other w g g' new ?_]
  .exact hR.below g' ao hr
  .rintro rfl
   rcases hR.own k b _ hk hg with h|h
   .exact h.no aa hr
   .exact hr h.1
 .rw[size_setRow];exact hR.grow
theorem Ah{R:Leaf->G->Prop}{ls new:F Leaf}{cs zs:F G}{c:H}(h:All2 R ls cs)(h':All2 R new zs) :
  All2 R (mX ls c new) (cs.take c++zs++cs.drop (c+zs.length)):=by
 unfold mX;rw[h'.length];exact((h.take c).append h').append (h.drop _)
theorem Hx{X zs:F G}{c n:H}(h:c+zs.length<=n)(h':n<=X.length):(X.take c++zs++X.drop (c+zs.length)).take n=(X.take n).take c++zs++(X.take n).drop (c+zs.length):=by
 have e1:(X.take n).take c=X.take c:=by rw[ß,É aa]
 have e2:(X.take c++zs).length=c+zs.length:=aN;rw[e1,Ø,Y (by rw[e2];exact h),e2,List.drop_take]
theorem OG{bx:H->BS}{b:Ty}:∀{ys:F (F b.den)}{css:F (F G)},All2 (λx c=>Rep S w (.list b) x c) ys css->All2 (bj S w γ bx) (ys.map λy=> .d (.list b) y) css.flatten
 |[],[],_=>trivial
 |[],_::_,h=>h.elim
 |_::_,[],h=>h.elim
 |y::ys,c::css,h=>by
  have h1:Rep S w (.list b) y c:=h.1;have h2:c.length=1:=Rep.length _ _ _ h1;match c,h2 with
  |[v],_=>exact⟨h1,OG h.2⟩
theorem OH{α β:Type}(f:α->β)(d:α)(ys:F α):((List.range ys.length).map λi=>f (List.getD ys i d))=ys.map f:=by
 refine List.ext_getElem af λi h1 h2=>?_;have h3:i<ys.length:=by simpa using h2
 simp[List.getD,h3]
theorem uS{bx:H->BS}{c:Cel}{ls:F Leaf}{z:G}(h:c.leaves=D ls)(hc:bE S w γ bx c z) :
  All2 (bj S w γ bx) ls z.cells.toList/\∀u∈z.cells.toList,One u:=by
 unfold Cel.leaves at h;split at h
 .simp at h
 .rename_i l hd;simp at h;subst h;have h1:=hc.2 hd;rw[xI h1];exact⟨⟨hc.1,trivial⟩,λu hu=>by simp at hu;subst hu;exact h1⟩
 .simp at h;subst h;obtain⟨cs,rfl,ha,h1⟩:=hc;exact⟨ha,h1⟩
 .rename_i n b ys;simp only[jb]at h;obtain⟨cs,rfl,hn,css,ha,dR⟩:=hc;have h0:Î ys=n:=hn;subst h0;have e:ls=ys.map λy=> .d (.list b) y:=h.symm.trans (OH (λy:F b.den=>Leaf.d (.list b) y) [] ys);have e2:(Value.agg cs).cells.toList=cs.toList:=rfl;rw[e,e2];refine⟨?_,Rep.one (.arr _ (.list b)) ys cs.toList ⟨rfl,css,ha,dR⟩⟩;rw[dR];exact OG ha
 .simp at h
end
theorem uT{m:H}:∀{l:F (F G)},(∀c∈l,c.length=m)->l.flatten.length=l.length*m
 |[],_=>af
 |c::l,h=>by
  have h1:=h c af;have h2:=uT (l:=l) (λd hd=>h d (z6 _ hd));simp only[kx,jv,ju,Ç,ü];omega
section
variable{N:NT}{np:H}{S0:aM}{w0:Â}{refs:Refs}{σ:St}{a:Þ}{w:Â}{S:aM}{γ:H->G}
theorem iv:∀(u:Ups)(σ:St){k:H},u.any (λy=>y.1==k)=U->(σ.upd u).bx k=σ.bx k
 |[],_,_,_=>rfl
 |e::u,σ,k,h=>by
  simp only[ä,zw,beq_eq_false_iff_ne]at h;show ((σ.setB e.1 e.2).upd u).bx k=_;rw[iv u _ h.2,bQ σ _ (λhh=>h.1 hh.symm)]
theorem All2.all_len{t:Ty}{xs:F t.den}{css:F (F G)}(h:All2 (λx c=>Rep S w t x c) xs css):∀c∈css,c.length=t.size:=by
 intro c hc;obtain⟨x,_,hx⟩:=h.mem_right c hc;exact Rep.length _ _ _ hx
theorem Hy{cur:F G}{css:F (F G)}{m n i c:H}{ci zs:F G}(hm:∀c∈css,c.length=m)(hn:css.length=n)(dF:cur.take (n*m)=css.flatten)
  (hi:css[i]? = D ci)(hc:c+zs.length<=m) :
  (cur.take (i*m+c)++zs++cur.drop (i*m+c+zs.length)).take (n*m)=(css.set i (ci.take c++zs++ci.drop (c+zs.length))).flatten:=by
 have ay:i<css.length:=(jt.1 hi).1;have lQ:css[i]=ci:=(jt.1 hi).2;have dq:ci.length=m:=hm ci (kb hi);obtain⟨A,B,hA,hB,DV⟩:∃A B:F (F G),A.length=i/\A.length+1+B.length=n/\css=A++ci::B:=by refine⟨css.take i,css.drop (i+1),aN,aN,?_⟩;rw[<-lQ,ë ay,qu]
 have WR:∀c∈A,c.length=m:=λd hd=>hm d (by rw[DV];simp[hd]);have WS:∀c∈B,c.length=m:=λd hd=>hm d (by rw[DV];simp[hd]);have lA:A.flatten.length=i*m:=by rw[uT WR,hA]
 have lB:=uT WS;have uU:css.set i (ci.take c++zs++ci.drop (c+zs.length))=A++(ci.take c++zs++ci.drop (c+zs.length))::B:=by rw[DV,î _ _ aa,hA,Nat.sub_self,â]
 have Aj:cur=A.flatten++(ci++(B.flatten++cur.drop (n*m))):=by have:=qu (n*m) cur;rw[dF,DV,vf,kx]at this;rw[<-kc ci,<-kc];exact this.symm
 have dp:ci=ci.take c++((ci.drop c).take zs.length++ci.drop (c+zs.length)):=by have h1:=qu c ci;have h2:=qu zs.length (ci.drop c);rw[vu]at h2;rw[h2,h1]
 have lp:(ci.take c).length=c:=aN;have lq:((ci.drop c).take zs.length).length=zs.length:=aN;have lr:(ci.drop (c+zs.length)).length=m-(c+zs.length):=by simp[dq]
 generalize ci.take c=p at *
 generalize (ci.drop c).take zs.length=q at *
 generalize ci.drop (c+zs.length)=r at *
 generalize cur.drop (n*m)=tl at *
 have e1:cur.take (i*m+c)=A.flatten++p:=by rw[Aj,dp];simp only[<-kc];rw[kc,kc,kc];exact Ü (by simp[lA,lp])
 have e2:cur.drop (i*m+c+zs.length)=r++(B.flatten++tl):=by rw[Aj,dp];have:A.flatten++(p++(q++r)++(B.flatten++tl))=(A.flatten++p++q)++(r++(B.flatten++tl)):=af;rw[this];exact List.drop_left' (by simp[lA,lp,lq];omega)
 rw[e1,e2,uU,vf,kx];have:A.flatten++p++zs++(r++(B.flatten++tl))=(A.flatten++(p++zs++r++B.flatten))++tl:=af;rw[this];refine Ü ?_;simp only[jv,lA,lp,lr,lB];have:n*m=i*m+m+B.length*m:=by rw[<-hB,hA,Ç,Ç,ü]
 omega
theorem Ak{P:À}{T:H->Á TyI}(hT:ca P T){t:Æ}{ti:TyI}(ht:T t=D ti){g o:H}{z:G}{cur:È G}{e:Æ}
  (hh:w.heap[g]? = D (.cells cur e (0,0)))(hs:z.cells.toList.length=ti.size)(hl:o+z.cells.toList.length<=cur.size)(h1:∀u∈z.cells.toList,One u) :
  (ò t (.pointer (D ⟨g,o,M⟩)) z).run P w = .ok () (w.setRow g (cur.toList.take o++z.cells.toList++cur.toList.drop (o+z.cells.toList.length)).toArray):=by
 have aL:=run_storeCells_at P g o e z.cells.toList 0 cur w hh (by simpa using hl) h1;simp only[ö]at aL;have br:¬z.cells.size≠ti.size:=by simpa using hs
 simp only[ò,J,Instr.sureAddr,Ã,I,storeVar,gL hT ht,ý,if_neg br,aL]
theorem WT{P:À}{E:Env}(hT:ca P E.T)(hR:Rel N np S0 w0 refs σ a w S γ){rd rdf:H->BS}(aO:RdOk σ rd)(bc:RdF np σ rdf){t:Æ}{ti:TyI}(ht:E.T t=D ti)
  {x:Leaf}{val:Cel}{u:Ups}{ux z:G}(h:sH rd rdf ti.size val x=D u)(hx:bj S w γ σ.bx x ux)(hz:bE S w γ σ.bx val z) :
  ∃w' S',(ò t ux z).run P w = .ok () w'/\Rel N np S0 w0 refs (σ.upd u) a w' S' γ:=by
 unfold sH at h;split at h
 .rename_i k c;split at h
  .rename_i ls hk;have hk:=aO.live hk;split at h
   .rename_i new dG;split at h
    .rename_i hc;simp only[jb]at h;subst h;obtain⟨bW,hle⟩:=hc;obtain⟨ha,h1⟩:=uS dG hz;obtain⟨g,hg,hu⟩:=hx.2.2 _ hk;obtain⟨g',cur,e,ao,hh,dF,eg,hS,_⟩:=hR.box k _ hk;rw[hg]at ao;simp at ao;subst ao;subst hu;have hlen:=ha.length;have mD:=dF.length;simp at mD;refine⟨_,S,Ak hT ht hh aa (by simp at hlen ⊢;omega) h1,?_⟩;refine xK hR hk (by rw[hg];rfl) (hS rfl) (b':= .cell (mX ls c new) U) trivial hh (λhle aL=>?_);refine⟨g,_,e,hg,setRow_heap w g cur _ e (0,0) hh,?_,?_,λ_=>hS rfl,af⟩
     .have:=Ah (c:=c) (dF.mono (λx u hx=>bj.keep aL hle hx)) (ha.mono (λx u hx=>bj.keep aL hle hx));have eh:(mX ls c new).length=ls.length:=by simp[mX];omega
      rw[eh];have:=Hx (X:=cur.toList) (zs:=z.cells.toList) (c:=c) (n:=ls.length) aa aN;simp only[this];assumption
     .intro v hv;have eh:(mX ls c new).length=ls.length:=by simp[mX];omega
      rw[eh]at hv;have Hz:=Hx (X:=cur.toList) (zs:=z.cells.toList) (c:=c) (n:=ls.length) aa aN;simp only[Hz]at hv;simp only[jx]at hv;rcases hv with (hv|hv)|hv
      .exact eg v (qd hv)
      .exact h1 v hv
      .exact eg v (z5 hv)
    .simp at h
   .simp at h
  .rename_i n el xs hk;have hk:=aO.live hk;split at h
   .rename_i gn;subst gn;split at h
    .rename_i n' a' ys;split at h
     .rename_i G3 iO;split at h
      .rename_i bW;simp only[jb]at h;subst h;have ru:=lv iO;simp only[TV.mk.injEq,Ty.arr.injEq]at ru;obtain⟨⟨rfl,rfl⟩,ru⟩:=ru;obtain rfl:=eq_of_heq ru;obtain⟨cs,rfl,hr⟩:=hz;obtain⟨g,hg,hu⟩:=hx.2.2 _ hk;obtain⟨g',cur,e,ao,hh,bB,hS⟩:=hR.box k _ hk;rw[hg]at ao;simp at ao;subst ao;subst hu;have kD:=Rep.length _ _ _ hr;have Al:=Rep.length _ _ _ bB;have e1:(Value.agg cs).cells.toList=cs.toList:=rfl;refine⟨_,S,Ak hT ht hh (by rw[e1,kD,bW];rfl) (by rw[e1,kD,<-Al];simp) (by rw[e1];exact Rep.one _ _ _ hr),?_⟩;refine xK hR hk (by rw[hg];rfl) hS (b':= .arr _ _ _) ⟨rfl,rfl⟩ hh (λhle aL=>?_);refine⟨g,_,e,hg,setRow_heap w g cur _ e (0,0) hh,?_,hS⟩;have hd:cur.toList.drop (0+cs.toList.length)=[]:=jk (by rw[kD,Al];omega);have hX:(cur.toList.take 0++(Value.agg cs).cells.toList++cur.toList.drop (0+(Value.agg cs).cells.toList.length)).toArray.toList=cs.toList:=by rw[e1,hd];simp
       rw[hX];exact Rep.keep aL _ _ _ hr
      .simp at h
     .simp at h
    .simp at h
   .simp at h
  .simp at h
 .rename_i k i c;split at h
  .rename_i el at_ xs hk;have bO:=aO.nm hk;have hk:=aO.live hk;split at h
   .rename_i new dG;split at h
    .rename_i hc;obtain⟨bW,hle⟩:=hc;split at h
     .rename_i en u1 HA;split at h
      .simp at h
      .rename_i qC;simp only[jb]at h;subst h;obtain⟨ha,h1⟩:=uS dG hz;have hlen:=ha.length;have nV:z.cells.toList.length=z.cells.size:=qh;obtain⟨_,hi,g,cap,hg,hu⟩:=hx.2.2 _ hk;obtain⟨css,aD,ar,OI⟩:=gB bO (hR.box k _ hk);rcases aD.2 with⟨_,h0⟩|⟨g',fC,cur,ao,ea,hh,gm,gl,dR,dk⟩
       .omega
       rw[hg]at ao;simp at ao;obtain⟨rfl,rfl⟩:=ao;subst hu;obtain⟨ci,lQ,bB,dj⟩:=uO (λx c hx=>Rep.length at_ x c hx) ar i at_.dflt hi;have dq:=Rep.length _ _ _ bB;have dp:=Ah (c:=c) (oz (ni at_ _ ci bB)) ha;obtain⟨hf,he,hp⟩:=td bc hR.box at_ HA dp;obtain⟨S1,bm,cg,dN,dm⟩:=lO u1 σ S hR hf;have df:(σ.upd u1).bx k = .live (.lst el at_ xs U):=by rw[iv u1 σ (qc.2 qC)];exact hk
       obtain⟨WU,OJ,OL,OM⟩:=gB bO (bm.box k _ df);have th:∀o,¬S1 g o:=(OM g (by rw[hg];rfl)).1 rfl;have HB:i*at_.size+at_.size<=xs.length*at_.size:=by have:(i+1)*at_.size<=xs.length*at_.size:=kf _ aa;rwa[zq]at this
       have WV:xs.length*at_.size<=cap*at_.size:=kf _ gm;have eN:c+z.cells.toList.length<=at_.size:=aa;refine⟨_,S1,Ak hT ht hh aa (by rw[dR];omega) h1,?_⟩;rw[gN];refine xK bm df (by rw[hg];rfl) th (b':= .lst el at_ (xs.set i en) U) ⟨rfl,rfl,λ_=>af⟩ hh (λdV cS=>?_);have oF:Rep S1 w at_ en (ci.take c++z.cells.toList++ci.drop (c+z.cells.toList.length)):=by have:=hp S1 w cg dN;rwa[Y aN]at this
       refine xC bO ⟨css.set i (ci.take c++z.cells.toList++ci.drop (c+z.cells.toList.length)),⟨?_,.inr ⟨g,cap,_,?_,ko _,setRow_heap w g cur _ el (0,0) hh,by simpa using gm,gl,?_,?_⟩⟩,?_,λg' ao=>?_⟩
       .rw[uT (m:=at_.size)]
        .simp[ar.length]
        .intro d hd;rcases List.mem_or_eq_of_mem_set hd with hd|rfl
         .exact All2.all_len ar d hd
         .simp;omega
       .simpa using hg
       .simp only[zv,jv,ql,qv,qh];omega
       .simp only[qo];exact Hy (All2.all_len ar) ar.length.symm dk lQ eN
       .exact(ar.mono (λx c hx=>Rep.keep (cg.trans cS) _ _ _ hx)).set i _ _ (Rep.keep cS _ _ _ oF)
       .rw[hg]at ao;simp[blk]at ao;subst ao;exact⟨λ_=>th,af⟩
     .simp at h
    .simp at h
   .simp at h
  .rename_i n at_ xs hk;have hk:=aO.live hk;split at h
   .rename_i new dG;split at h
    .rename_i hc;obtain⟨bW,hle⟩:=hc;split at h
     .rename_i en u1 HA;split at h
      .simp at h
      .rename_i qC;simp only[jb]at h;subst h;obtain⟨ha,h1⟩:=uS dG hz;have hlen:=ha.length;have nV:z.cells.toList.length=z.cells.size:=qh;obtain⟨hi,g,hg,hu⟩:=hx.2.2 _ hk;obtain⟨g',cur,e,ao,hh,⟨hn,css,ar,dF⟩,hS⟩:=hR.box k _ hk;rw[hg]at ao;simp at ao;subst ao;subst hu;obtain⟨ci,lQ,bB,dj⟩:=uO (λx c hx=>Rep.length at_ x c hx) ar i at_.dflt aa;have dq:=Rep.length _ _ _ bB;have dp:=Ah (c:=c) (oz (ni at_ _ ci bB)) ha;obtain⟨hf,he,hp⟩:=td bc hR.box at_ HA dp;obtain⟨S1,bm,cg,dN,dm⟩:=lO u1 σ S hR hf;have df:(σ.upd u1).bx k = .live (.arr n at_ xs):=by rw[iv u1 σ (qc.2 qC)];exact hk
       obtain⟨g1,WW,e1,oG,hh1,_,th⟩:=bm.box k _ df;rw[hg]at oG;simp at oG;subst oG;have Am:cur.toList.length=n*at_.size:=by rw[dF,uT (All2.all_len ar),<-ar.length,hn]
       have HB:i*at_.size+at_.size<=n*at_.size:=by have:(i+1)*at_.size<=n*at_.size:=kf _ aa;rwa[zq]at this
       have eN:c+z.cells.toList.length<=at_.size:=aa;refine⟨_,S1,Ak hT ht hh aa (by rw[<-qh,Am];omega) h1,?_⟩;rw[gN];refine xK bm df (by rw[hg];rfl) th (b':= .arr n at_ (xs.set i en)) ⟨rfl,rfl⟩ hh (λdV cS=>?_);have oF:Rep S1 w at_ en (ci.take c++z.cells.toList++ci.drop (c+z.cells.toList.length)):=by have:=hp S1 w cg dN;rwa[Y aN]at this
       refine⟨g,_,e,hg,setRow_heap w g cur _ e (0,0) hh,⟨?_,css.set i (ci.take c++z.cells.toList++ci.drop (c+z.cells.toList.length)),?_,?_⟩,th⟩
       .show Î (List.set xs i en)=n;rw[qo];exact hn
       .exact(ar.mono (λx c hx=>Rep.keep (cg.trans cS) _ _ _ hx)).set i _ _ (Rep.keep cS _ _ _ oF)
       .have xL:=Hy (cur:=cur.toList) (n:=n) (zs:=z.cells.toList) (All2.all_len ar) (by rw[<-ar.length,hn]) (by rw[<-Am,List.take_length,dF]) lQ eN;rw[<-xL];symm;refine(Y ?_).trans af;simp only[jv,ql,qv];omega
     .simp at h
    .simp at h
   .simp at h
  .rename_i e0 el n ls hk;have hk:=aO.live hk;split at h
   .rename_i new dG;split at h
    .rename_i hc;simp only[jb]at h;subst h;obtain⟨bW,hle⟩:=hc;obtain⟨ha,h1⟩:=uS dG hz;have hlen:=ha.length;have nV:z.cells.toList.length=z.cells.size:=qh;obtain⟨_,hi,g,cap,hg,hu⟩:=hx.2.2 _ hk;obtain⟨bO,⟨cs,aD,ar,ON⟩,hS⟩:=hR.box k _ hk;rcases aD.2 with⟨_,h0⟩|⟨g',fC,cur,ao,ea,hh,gm,gl,dR,dk⟩
     .omega
     rw[hg]at ao;simp at ao;obtain⟨rfl,rfl⟩:=ao;subst hu;have HB:i*el.size+el.size<=n*el.size:=by have:(i+1)*el.size<=n*el.size:=kf _ aa;rwa[zq]at this
     have WV:n*el.size<=cap*el.size:=kf _ gm;have dq:cur.toList.length=cap*el.size:=by rw[qh,dR]
     have An:cs.length=n*el.size:=aD.1;have dp:=Hx (X:=cur.toList) (zs:=z.cells.toList) (c:=i*el.size+c) (n:=n*el.size) aa aa;refine⟨_,S,Ak hT ht hh aa (by rw[dR];omega) h1,?_⟩;refine xK hR hk (by rw[hg];rfl) (hS g (by rw[hg];rfl)) (b':= .row e0 el n (mX ls (i*el.size+c) new)) ⟨rfl,rfl,rfl⟩ hh (λdV cS=>?_);refine⟨bO,⟨cs.take (i*el.size+c)++z.cells.toList++cs.drop (i*el.size+c+z.cells.toList.length),⟨?_,.inr ⟨g,cap,_,hg,ko _,setRow_heap w g cur _ e0 (0,0) hh,gm,gl,?_,?_⟩⟩,?_,?_⟩,λg' ao=>hS g' ao⟩
     .simp only[jv,ql,qv];omega
     .simp only[zv,jv,ql,qv];omega
     .show W _ (_++_++_)=_;rw[dp,dk]
     .exact Ah (ar.mono (λx u hx=>bj.keep cS dV hx)) (ha.mono (λx u hx=>bj.keep cS dV hx))
     .intro v hv;simp only[jx]at hv;rcases hv with (hv|hv)|hv
      .exact ON v (qd hv)
      .exact h1 v hv
      .exact ON v (z5 hv)
    .simp at h
   .simp at h
  .simp at h
 .simp at h
end
theorem tj{m:H}:∀{l:F (F G)}(i:H),(∀c∈l,c.length=m)->(l.take i).flatten=l.flatten.take (i*m)
 |[],i,_=>af
 |c::l,0,_=>af
 |c::l,i+1,h=>by
  have hc:=h c af;have ih:=tj (l:=l) i (λd hd=>h d (by simp[hd]));rw[List.take_succ_cons,kx,ih,kx,zq,Nat.add_comm,Ø,hc];rw[Y (l:=c) aa,show m+i*m-m=i*m by omega]
theorem Ao{m:H}:∀{l:F (F G)}(i:H),(∀c∈l,c.length=m)->(l.drop i).flatten=l.flatten.drop (i*m)
 |[],i,_=>af
 |c::l,0,_=>af
 |c::l,i+1,h=>by
  have hc:=h c af;have ih:=Ao (l:=l) i (λd hd=>h d (by simp[hd]));rw[List.drop_succ_cons,ih,kx,zq,Nat.add_comm,List.drop_append,hc];rw[jk (l:=c) aa,qj,show m+i*m-m=i*m by omega]
section
variable{N:NT}{np:H}{S0:aM}{w0:Â}{refs:Refs}{σ:St}{a:Þ}{w:Â}{S:aM}{γ:H->G}
theorem xM(hR:Rel N np S0 w0 refs σ a w S γ){k:H}{b:Bx}(hk:σ.bx k = .live b):Rel N np S0 w0 refs (σ.setB k .gone) a w S γ:=by
 have hle:BxLe γ σ.bx γ (σ.setB k .gone).bx:=by
  intro k' bg;by_cases bI:k'=k
  .subst bI;rw[ee];exact⟨af,rfl,λb hb=>by simp at hb⟩
  .rw[bQ σ _ bI];exact⟨bg,rfl,λb hb=>⟨b,hb,.refl b⟩⟩
 have bF:∀k' b1,(σ.setB k .gone).bx k' = .live b1->σ.bx k' = .live b1:=by
  intro k' b1 h1;by_cases bI:k'=k
  .subst bI;rw[ee]at h1;simp at h1
  .rwa[bQ σ _ bI]at h1
 exact Rel.step (bx':=(σ.setB k .gone).bx) hR (.refl S w) hle (λk' b' h=>dQ.keep (.refl S w) hle rfl (λ_ _=>⟨rfl,λ_=>ã⟩) (hR.box k' b' (bF k' b' h)))
  (λk' b' g h=>hR.own k' b' g (bF k' b' h)) (λk1 k2 b1 b2 g br h1 h2=>hR.apart k1 k2 b1 b2 g br (bF _ _ h1) (bF _ _ h2)) hR.new hR.here hR.below hR.grow hR.os hR.tape hR.output
  (λg _ _ h=>⟨rfl,λk' b' aG=>h k' b' (bF k' b' aG)⟩)
theorem WX(hR:Rel N np S0 w0 refs σ a w S γ){d:H}(hd:σ.bx d = .free){w':Â}{v':G}{b:Bx}
  (aL:db S w S w')(fv:∀g,g<w.heap.size->blk v'≠D g->w'.heap[g]? = w.heap[g]?)(bW:w.heap.size<=w'.heap.size)
  (hv:∀g,blk v'=D g->Own w0 refs g/\(∀k b,σ.bx k = .live b->blk (γ k)≠D g)/\g<w'.heap.size)
  (os:w'.os=w.os)(tape:w'.tape=w.tape)(output:w'.output=w.output)
  (hb:BxLe γ σ.bx (gset γ d v') (σ.setB d (.live b)).bx->dQ S w' (gset γ d v') (σ.setB d (.live b)).bx d b)(uV:∀g,blk v'=D g->refs.kw g=M) :
  Rel N np S0 w0 refs (σ.setB d (.live b)) a w' S (gset γ d v')/\BxLe γ σ.bx (gset γ d v') (σ.setB d (.live b)).bx:=by
 have hle:BxLe γ σ.bx (gset γ d v') (σ.setB d (.live b)).bx:=by
  intro k hk;have br:k≠d:=by rintro rfl;exact hk hd
  rw[bQ σ _ br,eG γ v' br];exact⟨hk,rfl,λb hb=>⟨b,hb,.refl b⟩⟩
 refine⟨Rel.step (bx':=(σ.setB d (.live b)).bx) hR aL hle ?_ ?_ ?_ hR.new ?_ ?_ (qw hR.grow bW) (os.trans hR.os) (tape.trans hR.tape) (output.trans hR.output) (λg hg lR h=>⟨fv g hg (λhh=>lR (uV g hh)),λk b' aG cC=>by
  by_cases hk:k=d
  .subst hk;rw[dH]at cC;exact lR (uV g cC)
  .rw[bQ σ _ hk]at aG;rw[eG γ v' hk]at cC;exact h k b' aG cC⟩),hle⟩
 .intro k b' aG;by_cases hk:k=d
  .subst hk;rw[ee]at aG;simp at aG;subst aG;exact hb hle
  .rw[bQ σ _ hk]at aG;refine dQ.keep aL hle (eG γ v' hk) (λg hg=>⟨?_,λ_=>ã⟩) (hR.box k b' aG);exact fv g (iu (hR.box k b' aG) hg) (λhh=>(hv g hh).2.1 k b' aG hg)
 .intro k b' g aG hg;by_cases hk:k=d
  .subst hk;rw[dH]at hg;exact .inl (hv g hg).1
  .rw[bQ σ _ hk]at aG;rw[eG γ v' hk]at hg;exact hR.own k b' g aG hg
 .intro k k' b1 b2 g br h1 h2 hg ao;by_cases hk:k=d
  .subst hk;have bg:k'≠k:=λh=>br h.symm;rw[dH]at hg;rw[bQ σ _ bg]at h2;rw[eG γ v' bg]at ao;exact(hv g hg).2.1 k' b2 h2 ao
  .by_cases bg:k'=d
   .subst bg;rw[dH]at ao;rw[bQ σ _ hk]at h1;rw[eG γ v' hk]at hg;exact(hv g ao).2.1 k b1 h1 hg
   .rw[bQ σ _ hk]at h1;rw[bQ σ _ bg]at h2;rw[eG γ v' hk]at hg;rw[eG γ v' bg]at ao;exact hR.apart k k' b1 b2 g br h1 h2 hg ao
 .intro g o hs;have:=hR.here g o hs;omega
 .intro g hg hr;by_cases hb:blk v'=D g
  .exact((hv g hb).1.no hg hr).elim
  .rw[fv g (by have:=hR.grow;omega) hb];exact hR.below g hg hr
theorem xN(hR:Rel N np S0 w0 refs σ a w S γ){d:H}(hd:σ.bx d = .free){w':Â}{S':aM}{v':G}{e:H}(hm:isM e=U){el:Ty}{zs:F el.den}{frz:Ö}{css:F (F G)}
  (aL:db S w S' w')(fv:∀g,g<w.heap.size->blk v'≠D g->w'.heap[g]? = w.heap[g]?)(bW:w.heap.size<=w'.heap.size)
  (hv:∀g,blk v'=D g->Own w0 refs g/\(∀k b,σ.bx k = .live b->blk (γ k)≠D g)/\g<w'.heap.size)
  (hS:∀g o,S' g o->S g o\/blk v'=D g)(os:w'.os=w.os)(tape:w'.tape=w.tape)(output:w'.output=w.output)
  (bX:w'.ownsRow 0 e el.size v' zs.length css.flatten)(ar:All2 (λx c=>Rep S' w' el x c) zs css)
  (HC:∀g,blk v'=D g->(frz=U->∀o,¬S' g o)/\(frz=Ä->∀o,S' g o↔o<zs.length*el.size))(uV:∀g,blk v'=D g->refs.kw g=M) :
  Rel N np S0 w0 refs (σ.setB d (.live (.lst e el zs frz))) a w' S' (gset γ d v')/\
   bE S' w' (gset γ d v') (σ.setB d (.live (.lst e el zs frz))).bx (.one (.ol d)) v':=by
 have hle:BxLe γ σ.bx (gset γ d v') (σ.setB d (.live (.lst e el zs frz))).bx:=by
  intro k hk;have br:k≠d:=by rintro rfl;exact hk hd
  rw[bQ σ _ br,eG γ v' br];exact⟨hk,rfl,λb hb=>⟨b,hb,.refl b⟩⟩
 have cu:One v':=by rcases bX.2 with⟨rfl,_⟩|⟨g,cap,cur,rfl,_⟩<;>rfl
 refine⟨Rel.step (bx':=(σ.setB d (.live (.lst e el zs frz))).bx) hR aL hle ?_ ?_ ?_ ?_ ?_ ?_ (qw hR.grow bW) (os.trans hR.os) (tape.trans hR.tape) (output.trans hR.output) (λg hg lR h=>⟨fv g hg (λhh=>lR (uV g hh)),λk b' aG cC=>by
  by_cases hk:k=d
  .subst hk;rw[dH]at cC;exact lR (uV g cC)
  .rw[bQ σ _ hk]at aG;rw[eG γ v' hk]at cC;exact h k b' aG cC⟩),?_⟩
 .intro k b hb;by_cases hk:k=d
  .subst hk;rw[ee]at hb;simp at hb;subst hb;refine xC hm ⟨css,by rw[dH];exact bX,ar,λg hg=>?_⟩;rw[dH]at hg;exact HC g hg
  .rw[bQ σ _ hk]at hb;refine dQ.keep aL hle (eG γ v' hk) (λg hg=>?_) (hR.box k b hb);have uW:=iu (hR.box k b hb) hg;have br:blk v'≠D g:=λhh=>(hv g hh).2.1 k b hb hg;exact⟨fv g uW br,λo=>⟨λhs=>(hS g o hs).resolve_right br,λhs=>(aL g o hs).1⟩⟩
 .intro k b g hb hg;by_cases hk:k=d
  .subst hk;rw[dH]at hg;exact .inl (hv g hg).1
  .rw[bQ σ _ hk]at hb;rw[eG γ v' hk]at hg;exact hR.own k b g hb hg
 .intro k k' b1 b2 g br h1 h2 hg ao;by_cases hk:k=d
  .subst hk;have bg:k'≠k:=λh=>br h.symm;rw[dH]at hg;rw[bQ σ _ bg]at h2;rw[eG γ v' bg]at ao;exact(hv g hg).2.1 k' b2 h2 ao
  .by_cases bg:k'=d
   .subst bg;rw[dH]at ao;rw[bQ σ _ hk]at h1;rw[eG γ v' hk]at hg;exact(hv g ao).2.1 k b1 h1 hg
   .rw[bQ σ _ hk]at h1;rw[bQ σ _ bg]at h2;rw[eG γ v' hk]at hg;rw[eG γ v' bg]at ao;exact hR.apart k k' b1 b2 g br h1 h2 hg ao
 .intro g o hs;rcases hS g o hs with hs|hs
  .exact hR.new g o hs
  .exact .inr (hv g hs).1
 .intro g o hs;rcases hS g o hs with hs|hs
  .have:=hR.here g o hs;omega
  .exact(hv g hs).2.2
 .intro g hg hr;by_cases hb:blk v'=D g
  .exact((hv g hb).1.no hg hr).elim
  .rw[fv g (by have:=hR.grow;omega) hb];exact hR.below g hg hr
 .refine⟨⟨by rw[ee];simp,cu,λb hb=>(dH γ d v').symm⟩,λ_=>cu⟩
theorem OO{P:À}{T:H->Á TyI}(hT:ca P T){t ty:Æ}{ti:TyI}(ht:T t=D ti){el:Ty}(bn:ti.ty=D (.list el))
  {v:G}{n:H}{xs:F G}(aD:w.ownsRow 0 ti.elem el.size v n xs){ad:Á Addr}{m c:H}{news:F G}(eI:ad=M->m=0/\c=0)(hl:news.length=m*el.size)
  (fP:∀b,ad=D b->∀(j:H)(u:G),news[j]? = D u->w.cell? (b.add j)=D u)(h1:∀u∈news,One u)(ei:n+m<=aR) :
  ∃v' w',(Ì #[t,t] ty #[v,.slice ad m c]).run P w = .ok v' w'/\w'.ownsRow 0 ti.elem el.size v' (n+m) (xs++news)/\w'.os=w.os/\w'.tape=w.tape/\w'.output=w.output/\w.heap.size<=w'.heap.size/\
   ((v'=v/\w'=w)\/(blk v'=blk v/\(∃g,blk v=D g)/\∀g,blk v≠D g->w'.heap[g]? = w.heap[g]?)\/(blk v'=D w.heap.size/\∀g,g<w.heap.size->w'.heap[g]? = w.heap[g]?)):=by
 obtain⟨hd,cI,te,cF,cf⟩:=lM hT ht bn;have bW:=jY hT cF cf;obtain⟨i,de,hi,hde,his,WY,_,_,hz⟩:=lu hT cF;obtain⟨_,⟨z,hz,fX⟩,_⟩:=hz el cf;have eQ:i.size=el.size:=aa;have jS:z.cells.size=el.size:=by have h:=Rep.length el el.dflt _ (nU (S:=λ_ _=>False) (w:=w) el);rw[<-fX]at h;simpa using h
 have Ap:n+m<=maxLen:=by simp only[maxLen,aR]at *;omega
 have jB:(n+m)*i.bytes<=140737488355328:=by have:(n+m)*i.bytes<=aR*32768:=Nat.mul_le_mul ei WY;simp only[aR]at this;omega
 have hlen:(xs++news).length=(n+m)*el.size:=by rw[jv,aD.1,hl,Ç]
 cases ad with
 |none=>obtain⟨rfl,rfl⟩:=eI rfl;have h9:news=[]:=js (by simpa using hl);subst h9;exact⟨v,w,run_append_owned_none (P:=P) w 0 t ty ti.elem i el.size hd hi v n xs aD,by simpa using aD,rfl,rfl,rfl,jz _,.inl ⟨rfl,rfl⟩⟩
 |some b=>
  have fP:=fP b rfl;rcases aD.2 with⟨rfl,rfl⟩|⟨g,cap,cur,rfl,_,hg,gm,gl,dR,dk⟩
  .have tn:w.ownsRow w.heap.size ti.elem el.size (.slice M 0 0) 0 xs:=⟨aD.1,.inl ⟨rfl,rfl⟩⟩;obtain⟨v',w',hr,ho,mE,hv⟩:=run_append_own (P:=P) w w.heap.size t ty ti.elem i z el.size i.bytes hd hi hz eQ rfl jS cI _ 0 xs tn b m c news hl fP h1 Ap jB (jz _);refine⟨v',w',hr,⟨ho.1,ho.2.imp id (λ⟨g,cap,cur,h1,_,h3⟩=>⟨g,cap,cur,h1,ko _,h3⟩)⟩,mE.os,mE.tape,mE.output,mE.size,?_⟩;by_cases hm:m=0
   .subst hm;have h9:news=[]:=js (by simpa using hl);subst h9;have:=run_append_own (P:=P) w w.heap.size t ty ti.elem i z el.size i.bytes hd hi hz eQ rfl jS cI _ 0 xs tn b 0 c [] hl fP h1 Ap jB (jz _);left;have hx:(Ì #[t,t] ty #[.slice M 0 0,.slice (D b) 0 c]).run P w = .ok (.slice M 0 0) w:=by simp[Ì,run_underlying hd,sizeOf,typeInfo,hi,ó,Ó,loadCells,loadCellsFrom]
    rw[hx]at hr;simp at hr;exact⟨hr.1.symm,hr.2.symm⟩
   .have rv:=run_append_nil (P:=P) w t ty ti.elem i z hd hi hz b m c news (by rw[eQ];exact hl) fP aa (by simp only[maxLen]at Ap;omega) (by have:=jB;simp only[ke]at this;omega);rw[rv]at hr;simp at hr;obtain⟨rfl,rfl⟩:=hr;exact .inr (.inr ⟨rfl,λg hg=>heap_alloc_old w.drew _ hg⟩)
  .by_cases oH:n+m<=cap
   .have Aq:n*i.size+news.length<=cur.size:=by rw[eQ,hl,dR,<-Ç];exact kf _ oH
    have hr:=run_append_room (P:=P) w t ty ti.elem i hd hi g n cap cur hg b m c news (by rw[eQ];exact hl) fP h1 oH Aq;rw[eQ]at hr Aq;refine⟨_,_,hr,⟨hlen,.inr ⟨g,cap,_,rfl,ko _,setRow_heap w g cur _ ti.elem _ hg,oH,gl,?_,?_⟩⟩,rfl,rfl,rfl,by rw[size_setRow];exact jz _,.inr (.inl ⟨rfl,⟨g,rfl⟩,λg' ao=>?_⟩)⟩
    .simp only[zv,jv,ql,qv,qh];omega
    .rw[dk,<-hlen];exact List.take_left
    .exact setRow_other w g g' _ (λh=>ao (by rw[h];rfl))
   .have holds:∀(j:H)(u:G),xs[j]? = D u->w.cell? ((⟨g,0,M⟩:Addr).add j)=D u:=aD.cells (g:=g) rfl;have hr:=run_append_grow (P:=P) w t ty ti.elem i z hd hi hz ⟨g,0,M⟩ n cap xs (by rw[eQ];exact aD.1) holds b m c news (by rw[eQ];exact hl) fP aa (by simp only[maxLen]at Ap;omega) (growslice_fits aa jB);have qD:=grownCap_ge w (n+m) cap ti.elem;refine⟨_,_,hr,⟨hlen,.inr ⟨w.heap.size,_,_,rfl,ko _,heap_alloc_new w.drew _,qD,grownCap_le_maxLen w (n+m) cap ti.elem Ap,?_,?_⟩⟩,rfl,rfl,rfl,af,.inr (.inr ⟨rfl,λg' ao=>heap_alloc_old w.drew _ ao⟩)⟩
    .simp only[Array.size_append,zv,size_zeroCells,jS,aD.1,hl,<-Ç];congr 1;omega
    .simp only[Array.toList_append,kc];rw[<-kc,<-hlen];exact List.take_left
theorem OP(hR:Rel N np S0 w0 refs σ a w S γ){rd:H->BS}(aO:RdOk σ rd){el:Ty}{y:Leaf}{ys:F el.den}{z:G}(h:appX rd el y=D ys)(hy:bj S w γ σ.bx y z) :
  ∃ad c css,z = .slice ad ys.length c/\(ad=M->ys.length=0/\c=0)/\All2 (λx c=>Rep S w el x c) ys css/\
   ∀b,ad=D b->∀(j:H)(u:G),css.flatten[j]? = D u->w.cell? (b.add j)=D u:=by
 unfold appX at h;split at h
 .rename_i k;split at h
  .rename_i e DW xs f hk;have:=lv h;cases this;have bO:=aO.nm hk;have hk:=aO.live hk;have hz:=hy.2.2 _ hk;obtain⟨css,aD,ar,_⟩:=gB bO (hR.box k _ hk);rcases aD.2 with⟨hg,h0⟩|⟨g,cap,cur,hg,_⟩
   .exact⟨M,0,css,by rw[hz,hg,h0],λ_=>⟨h0,rfl⟩,ar,λb hb=>by simp at hb⟩
   .refine⟨D ⟨g,0,M⟩,cap,css,by rw[hz,hg],af,ar,λb hb j u hu=>?_⟩;simp at hb;subst hb;exact aD.cells (g:=g) (by rw[hg];rfl) j u hu
  .simp at h
 .rename_i t xs;have:=lv h;cases this;obtain⟨ad,cap,hz,hle,gl,hn,hb⟩:=hy;simp at hz;cases ad with
  |none=>have h0:=hn rfl;have kE:Î ys=0:=aa;have:ys=[]:=js kE;subst this;exact⟨M,cap,[],hz,λ_=>⟨rfl,h0⟩,trivial,λb hb=>by simp at hb⟩
  |some b=>
   obtain⟨dp,css,ha,hl⟩:=hb b rfl;refine⟨D b,cap,css,hz,af,ha,λb' aG j u hu=>?_⟩;simp at aG;subst aG
   have dp:=dp (λe=>by
    rw[e]at ha;cases css with
    |nil=>simp at hu
    |cons c cs=>exact ha)
   obtain⟨g,o,sp⟩:=b;simp at dp;subst dp;rw[Å];exact(hl j u hu).2
 .simp at h;subst h;exact⟨M,0,[],hy,λ_=>⟨rfl,rfl⟩,trivial,λb hb=>by simp at hb⟩
 .rename_i k j;split at h
  .rename_i e DW xs f hk;split at h
   .rename_i cE iO;have:=lv iO;cases this;simp only[jb]at h;subst h;have bO:=aO.nm hk;have hk:=aO.live hk;obtain⟨_,hj,ad,fC,ao,hu⟩:=hy.2.2 _ hk;obtain⟨css,aD,ar,_⟩:=gB bO (hR.box k _ hk);have dq:=All2.all_len ar;have hlen:(Ë j cE).length=cE.length-j:=af;rcases aD.2 with⟨hg,h0⟩|⟨g,cap,cur,hg,_,hh,gm,_⟩
    .rw[hg]at ao;simp only[Z]at ao;obtain⟨rfl,_,rfl⟩:=ao;have uX:cE=[]:=js h0;subst uX;refine⟨M,0,[],by rw[hu];simp,λ_=>⟨af,rfl⟩,by simp;trivial,λb hb=>by simp at hb⟩
    .rw[hg]at ao;simp only[Z,kn]at ao;obtain⟨rfl,rfl⟩:=ao;by_cases hc:cap=j
     .have uX:Ë j cE=[]:=jk aa;rw[uX];rw[if_pos hc]at hu;exact⟨D ⟨g,0,M⟩,cap-j,[],by rw[hu];simp;omega,af,trivial,λb hb q v hq=>by simp at hq⟩
     .rw[if_neg hc]at hu;simp only[qa,Å,ke]at hu;refine⟨D ⟨g,j*el.size,M⟩,cap-j,css.drop j,by rw[hu,hlen],af,ar.drop j,λb hb q v hq=>?_⟩;simp at hb;subst hb;have WZ:(css.drop j).flatten=css.flatten.drop (j*el.size):=Ao j dq;rw[WZ,zr]at hq;have:=aD.cells (g:=g) (by rw[hg];rfl) _ v hq;rw[Å]at this ⊢;simpa using this
   .simp at h
  .simp at h
 .simp at h
theorem W0{P:À}{E:Env}(hT:ca P E.T)(hR:Rel N np S0 w0 refs σ a w S γ){rd rdf:H->BS}(aO:RdOk σ rd)(bc:RdF np σ rdf){t ty:Æ}{ti:TyI}(ht:E.T t=D ti)
  {el:Ty}(bn:ti.ty=D (.list el)){x y:Leaf}{xs ys:F el.den}{frz:Ö}{u:Ups}{d:H}{vx vy:G}(h1:appS rdf ti.elem el x=D (xs,frz,u))(h2:appX rd el y=D ys)
  (hd:σ.bx d = .free)(ei:xs.length+ys.length<=aR)(hx:bj S w γ σ.bx x vx)(hy:bj S w γ σ.bx y vy) :
  ∃v' w' S' γ',(Ì #[t,t] ty #[vx,vy]).run P w = .ok v' w'/\Rel N np S0 w0 refs (σ.upd (u++[(d,.live (.lst ti.elem el (xs++ys) frz))])) a w' S' γ'/\
   bE S' w' γ' (σ.upd (u++[(d,.live (.lst ti.elem el (xs++ys) frz))])).bx (.one (.ol d)) v':=by
 obtain⟨ad,c,cy,HD,eI,uY,dj⟩:=OP hR aO h2 hy;subst HD;have HE:cy.flatten.length=ys.length*el.size:=All2.flatten_length (λx c hx=>Rep.length el x c hx) uY;have W7:∀u∈cy.flatten,One u:=by intro u hu;obtain⟨c,hc,rj⟩:=List.mem_flatten.1 hu;obtain⟨x,_,hx⟩:=uY.mem_right c hc;exact Rep.one el x c hx u rj
 obtain⟨nh,cI,te,cF,cf⟩:=lM hT ht bn
 have src:∃σ1,σ.upd u=σ1/\Rel N np S0 w0 refs σ1 a w S γ/\σ1.bx d = .free/\∃cx,w.ownsRow 0 ti.elem el.size vx xs.length cx.flatten/\All2 (λx c=>Rep S w el x c) xs cx/\
   ∀g,blk vx=D g->Own w0 refs g/\g<w.heap.size/\(∀k b,σ1.bx k = .live b->blk (γ k)≠D g)/\(frz=U->∀o,¬S g o)/\(frz=Ä->∀o,S g o↔o<xs.length*el.size)/\refs.kw g=none:=by
  unfold appS at h1;split at h1
  .rename_i k;split at h1
   .rename_i e' DW cE f hk;split at h1
    .rename_i OC iO;split at h1
     .rename_i he;simp only[jb,jf]at h1;obtain⟨rfl,rfl,rfl⟩:=h1;have:=lv iO;cases this;subst he;have mF:=bc.par hk;have bO:=bc.ok.nm hk;have hk:=bc.ok.live hk;have hz:=hx.2.2 _ hk;obtain⟨css,aD,ar,hS⟩:=gB bO (hR.box k _ hk);have qE:d≠k:=by rintro rfl;rw[hd]at hk;simp at hk
      refine⟨σ.setB k .gone,rfl,xM hR hk,by rw[bQ σ _ qE];exact hd,css,by rw[hz];exact aD,ar,λg hg=>?_⟩;rw[hz]at hg;refine⟨?_,iu (hR.box k _ hk) hg,λk' b' aG ao=>?_,(hS g hg).1,(hS g hg).2,hR.kw_live hk hg⟩
      .rcases hR.own k _ g hk hg with h|h
       .exact h
       .rw[mF]at h;simp at h
      .have bI:k'≠k:=by rintro rfl;rw[ee]at aG;simp at aG
       rw[bQ σ _ bI]at aG;exact hR.apart k' k _ _ g bI aG hk ao hg
     .simp at h1
    .simp at h1
   .simp at h1
  .simp only[jb,jf]at h1;obtain⟨rfl,rfl,rfl⟩:=h1;have hz:vx = .slice M 0 0:=hx;subst hz;exact⟨σ,rfl,hR,hd,[],Õ w 0 ti.elem el.size,trivial,λg hg=>by simp[blk]at hg⟩
  .simp at h1
 obtain⟨σ1,W8,bm,nS,cx,aD,tp,hblk⟩:=src;rw[gN,W8];obtain⟨v',w',hr,bX,os,tape,output,bW,cB⟩:=OO hT ht bn (ty:=ty) aD eI HE dj W7 ei;have hlx:cx.flatten.length=xs.length*el.size:=aD.1;let S':aM:=λg o=>S g o\/(frz=Ä/\blk v'=D g/\o<(xs++ys).length*el.size)
 have aL:db S w S' w':=by
  intro g o hs;refine⟨.inl hs,?_⟩;rcases cB with⟨rfl,rfl⟩|⟨hb,⟨g0,jC⟩,hh⟩|⟨hb,hh⟩
  .rfl
  .by_cases hg:g=g0
   .subst hg;obtain⟨_,_,_,hf,xO,_⟩:=hblk g jC;cases frz with
    |false=>exact absurd hs (hf rfl o)
    |true=>
     have ho:=(xO rfl o).1 hs
     have gp:v'.ownBlock=D g:=by
      rw[jC]at hb;rcases bX.2 with⟨hn,_⟩|⟨g1,cap,cur,hn,_⟩
      .rw[hn]at hb;simp[blk]at hb
      .rw[hn]at hb ⊢;simp[blk]at hb;simp[Value.ownBlock,hb]
     have DX:vx.ownBlock=D g:=by
      rcases aD.2 with⟨hn,_⟩|⟨g1,cap,cur,hn,_⟩
      .rw[hn]at jC;simp[blk]at jC
      .rw[hn]at jC ⊢;simp[blk]at jC;simp[Value.ownBlock,jC]
     have Ar:(cx.flatten)[o]? = D (cx.flatten[o]'aa):=ka aa;have e1:=aD.cells DX o _ Ar;have e2:=bX.cells gp o (cx.flatten[o]'aa) (by rw[å aa];exact Ar);rw[Å,ke]at e1 e2;rw[e1,e2]
   .have:=hh g (by rw[jC];simpa using λh=>hg h.symm);exact Ð (a:=⟨g,o,M⟩) this
  .exact Ð (a:=⟨g,o,M⟩) (hh g (hR.here g o hs))
 have W9:∀g,blk v'=D g->Own w0 refs g/\(∀k b,σ1.bx k = .live b->blk (γ k)≠D g)/\g<w'.heap.size:=by
  intro g hg
  have ay:g<w'.heap.size:=by
   rcases bX.2 with⟨hn,_⟩|⟨g1,cap,cur,hn,_,hh,_⟩
   .rw[hn]at hg;simp[blk]at hg
   .rw[hn]at hg;simp[blk]at hg;subst hg;exact(jn.1 hh).1
  rcases cB with⟨rfl,rfl⟩|⟨hb,⟨g0,jC⟩,hh⟩|⟨hb,hh⟩
  .obtain⟨q1,q2,q3,_⟩:=hblk g hg;exact⟨q1,q3,ay⟩
  .rw[hb]at hg;obtain⟨q1,q2,q3,_⟩:=hblk g hg;exact⟨q1,q3,ay⟩
  .rw[hb]at hg;simp at hg;subst hg;exact⟨.inl hR.grow,λk b hk ao=>by have:=iu (bm.box k b hk) ao;omega,ay⟩
 obtain⟨cJ,ia⟩:=xN bm nS (hm:=Hj hT ht) (w':=w') (S':=S') (v':=v') (e:=ti.elem) (el:=el) (zs:=xs++ys) (frz:=frz) (css:=cx++cy) aL (λg hg br=>by
   rcases cB with⟨rfl,rfl⟩|⟨hb,_,hh⟩|⟨hb,hh⟩
   .rfl
   .exact hh g (by rw[<-hb];exact br)
   .exact hh g hg) bW W9 (λg o hs=>hs.imp id (λh=>h.2.1)) os tape output (by rw[vf,jv];exact bX)
  ((
   tp.mono (λx c hx=>Rep.keep aL _ _ _ hx)).append (uY.mono (λx c hx=>Rep.keep aL _ _ _ hx))) (λg hg=>by
   have hold:∀o,S g o->frz=Ä/\o<xs.length*el.size:=by
    intro o hs;rcases cB with⟨rfl,rfl⟩|⟨hb,⟨g0,jC⟩,hh⟩|⟨hb,hh⟩
    .obtain⟨_,_,_,hf,xO,_⟩:=hblk g hg;cases frz with
     |false=>exact absurd hs (hf rfl o)
     |true=>exact⟨rfl,(xO rfl o).1 hs⟩
    .rw[hb]at hg;obtain⟨_,_,_,hf,xO,_⟩:=hblk g hg;cases frz with
     |false=>exact absurd hs (hf rfl o)
     |true=>exact⟨rfl,(xO rfl o).1 hs⟩
    .rw[hb]at hg;simp at hg;subst hg;exact absurd hs (xJ hR o)
   refine⟨λhf o hs=>?_,λhf o=>⟨λhs=>?_,λho=> .inr ⟨hf,hg,ho⟩⟩⟩
   .rcases hs with hs|hs
    .rw[hf]at hold;simp at hold;exact hold o hs
    .rw[hf]at hs;simp at hs
   .rcases hs with hs|hs
    .have:=(hold o hs).2;rw[jv,Ç];omega
    .exact hs.2.2) (λg hg=>by
   rcases cB with⟨rfl,rfl⟩|⟨hb,⟨g0,jC⟩,hh⟩|⟨hb,hh⟩
   .exact(hblk g hg).2.2.2.2.2
   .rw[hb]at hg;exact(hblk g hg).2.2.2.2.2
   .rw[hb]at hg;simp at hg;subst hg;exact hR.kw_new (jz _))
 exact⟨v',w',S',_,hr,cJ,ia⟩
end
theorem Xa(L l:F G)(v:G)(n:H)(h:n<L.length) :
  (L.set n v).take (n+1)++l++(L.set n v).drop (n+1+l.length)=L.take n++v::l++L.drop (n+(l.length+1)):=by
 obtain⟨A,x,B,hA,rfl⟩:∃A x B,Î A=n/\L=A++x::B:=⟨L.take n,L[n],L.drop (n+1),aN,by rw[ë h,qu]⟩;subst hA;rw[î _ _ (jz _),Nat.sub_self,â];have e1:(A++v::B).take (A.length+1)=A++[v]:=by rw[show A++v::B=(A++[v])++B by simp];exact Ü af
 have e2:(A++x::B).take A.length=A:=Ü rfl;have e3:∀y,(A++y::B).drop (A.length+1+l.length)=B.drop l.length:=by intro y;rw[show A++y::B=(A++[y])++B by simp,<-vu,List.drop_left' af]
 rw[e1,e2,e3,show A.length+(l.length+1)=A.length+1+l.length by omega,e3];simp
theorem OQ(off:H):∀(l:F G)(k:H)(cells:È G),off+k+l.length<=cells.size->
  ((l.zipIdx k).foldl (λcs x=>cs.setIfInBounds (off+x.2) x.1) cells).toList=cells.toList.take (off+k)++l++cells.toList.drop (off+k+l.length)
 |[],k,cells,_=>af
 |v::l,k,cells,h=>by
  simp only[ju]at h;rw[List.zipIdx_cons,List.foldl_cons,OQ off l (k+1) _ aN];simp only[Array.toList_setIfInBounds];rw[show off+(k+1)=off+k+1 by omega];exact Xa cells.toList l v (off+k) aN
theorem HF(cells:È G)(off:H)(zs:È G)(h:off+zs.size<=cells.size) :
  (zs.zipIdx.foldl (λcs (x:G×H)=>cs.setIfInBounds (off+x.2) x.1) cells).toList=cells.toList.take off++zs.toList++cells.toList.drop (off+zs.size):=by
 rw[<-Array.foldl_toList,Array.toList_zipIdx];have:=OQ off zs.toList 0 cells (by simpa using h);simpa using this
theorem OR(z:F G):∀(n p:H),p<n*z.length->(O n z).flatten[p]? = z[p%z.length]?
 |0,p,h=>by simp at h
 |n+1,p,h=>by
  rw[List.replicate_succ,kx];by_cases hp:p<z.length
  .rw[å hp,Nat.mod_eq_of_lt hp]
  .rw[ki aa,OR z n (p-z.length) (by rw[Ç]at h;omega)];congr 1;exact(Nat.mod_eq_sub_mod aa).symm
theorem OS(z:È G)(n:H)(hz:0<z.size):((Ï (n*z.size)).map (λi=>z[i%z.size]!)).toList=(O n z.toList).flatten:=by
 apply æ;intro p;by_cases hp:p<n*z.size
 .rw[OR z.toList n p (by simpa using hp)];have hm:p%z.size<z.size:=Nat.mod_lt _ hz;simp[hp,hm]
 .rw[zu aN,zu (by rw[List.length_flatten];simp;omega)]
section
variable{N:NT}{np:H}{S0:aM}{w0:Â}{refs:Refs}{σ:St}{a:Þ}{w:Â}{S:aM}{γ:H->G}
theorem DY{t:Ty}{z:G}(h:z.cells.toList=iM t):z.cells.size=t.size:=by
 have:=Rep.length t t.dflt _ (nU (S:=λ_ _=>False) (w:=(default:Â)) t);rw[<-h]at this;simpa using this
theorem DZ{t:Ty}{z:G}(h:z.cells.toList=iM t):∀u∈z.cells.toList,One u:=by
 rw[h];exact Rep.one t t.dflt _ (nU (S:=λ_ _=>False) (w:=(default:Â)) t)
theorem HG{P:À}{T:H->Á TyI}(hT:ca P T){t:Æ}{ti:TyI}(ht:T t=D ti){ty:Ty}(bn:ti.ty=D ty) :
  ∃z:G,z.cells.toList=iM ty/\(Instr.alloc t Ä (.tuple #[])).run P w = .ok (.pointer (D ⟨w.heap.size,0,M⟩)) (w.alloc (.cells z.cells t)):=by
 obtain⟨z,hz,hc⟩:=uM hT ht w bn;refine⟨z,hc,?_⟩;simp only[Instr.alloc,J,hz,I,newVar,newRow,run_newObj,Ã,Ô]
theorem OT{P:À}(t:Æ)(v:G):(Instr.box t v).run P w = .ok (.pointer (D ⟨w.heap.size,0,M⟩)) (w.alloc (.cells v.cells t)):=by
 simp only[Instr.box,J,newVar,newRow,run_newObj,I,Ã,Ô]
theorem OU{P:À}{α β:Type}(f:α->Sem β)(g:α->β):∀(l:F α),(∀x∈l,(f x).run P w = .ok (g x) w)->(l.mapM f).run P w = .ok (l.map g) w
 |[],_=>af
 |x::l,h=>by
  rw[zd];simp only[J,h x af,I,OU f g l (λy hy=>h y (by simp[hy])),Ã,qq]
theorem OV{bx:H->BS}{ti:TyI}{sz:H->Á H}{place:H->Á (H×H)}(hp:∀i f n,ti.flds[i]? = D f->sz f.2=D n->place i=D (f.1,n)) :
  ∀(ps:F (H×Cel))(vs:F (H×G)){ls fw:F Leaf}{cells:È G},All2 (λp v=>p.1=v.1/\bE S w γ bx p.2 v.2) ps vs->xm ti sz ls ps=D fw->
   All2 (bj S w γ bx) ls cells.toList->(∀u∈cells.toList,One u)->∃bq,Ñ place cells vs=D bq/\All2 (bj S w γ bx) fw bq.toList/\∀u∈bq.toList,One u
 |[],[],ls,fw,cells,_,h,ha,h1=>by
  simp[xm]at h;subst h;exact⟨cells,rfl,ha,h1⟩
 |(i,c)::ps,(j,v)::vs,ls,fw,cells,⟨⟨eJ,hc⟩,ib⟩,h,ha,h1=>by
  simp only at eJ;subst eJ;simp only[xm]at h;split at h
  .rename_i f hf;split at h
   .rename_i new dG;split at h
    .rename_i bP;obtain⟨bW,hle⟩:=bP;obtain⟨hl,kD⟩:=uS dG hc;have hlen:=hl.length;have mD:=ha.length;have gD:v.cells.size=new.length:=by rw[hlen];simp
     have dR:cells.size=ls.length:=by rw[mD];simp
     have xP:=HF cells f.1 v.cells aa;have dp:=Ah (c:=f.1) ha hl
     obtain⟨bq,eS,h2,h3⟩:=OV hp ps vs (cells:=(v.cells.zipIdx.foldl (λcs (x:G×H)=>cs.setIfInBounds (f.1+x.2) x.1) cells)) ib h
      (by rw[xP];simpa using dp) (by
       rw[xP];intro u hu;simp only[jx]at hu;rcases hu with (hu|hu)|hu
       .exact h1 u (qd hu)
       .exact kD u hu
       .exact h1 u (z5 hu))
     refine⟨bq,?_,h2,h3⟩;simp only[Ñ,hp i f _ hf bW];rw[if_neg (by simp[gD];omega)];exact eS
    .simp at h
   .simp at h
  .simp at h
 |[],_::_,_,_,_,h,_,_,_=>h.elim
 |_::_,[],_,_,_,h,_,_,_=>h.elim
theorem Xb{P:À}{E:Env}(hT:ca P E.T){bx:H->BS}{t:Æ}{ti:TyI}(ht:E.T t=D ti){ty:Ty}(bn:ti.ty=D ty)(lN:ty.agg=Ä)
  {ps:F (H×Cel)}{vs:È (H×G)}{ls:F Leaf}(ib:All2 (λp v=>p.1=v.1/\bE S w γ bx p.2 v.2) ps vs.toList)
  (h:xm ti (λt=>(E.T t).map (·.size)) (mz ty) ps=D ls) :
  ∃z,(Ù t vs).run P w = .ok z w/\bE S w γ bx (.st ls) z:=by
 obtain⟨z,hz,fX⟩:=uM hT ht w bn;obtain⟨i,d,hi,hd,_,_,_,gM,dU⟩:=lu hT ht;have nh:=(dU ty bn).2.2;cases d with
 |struct fs=>
  simp only[zZ,jh,jp]at gM;obtain⟨lP,oE⟩:=gM
  have ry:(fs.mapM (λf=>do pure (f.offset,<-sizeOf f.type):Field->Sem (H×H))).run P w = .ok (fs.map λf=>(f.offset,((E.T f.type).map (·.size)).getD 0)) w:=by
   rw[va]
   have:=OU (P:=P) (w:=w) (λf=>(do pure (f.offset,<-sizeOf f.type):Sem (H×H))) (λf:Field=>(f.offset,((E.T f.type).map (·.size)).getD 0)) fs.toList (λf hf=>by
    have:=jr.1 oE f hf;split at this
    .rename_i tf ox;simp only[J,gL hT ox,I,Ã,ox,qa,qf]
    .simp at this)
   simp only[Sem.run_map,this,I];congr 1;apply kr;simp
  have hp:∀(i:H)(f:H×H)(n:H),ti.flds[i]? = D f->(E.T f.2).map (·.size)=D n->(fs.map λf=>(f.offset,((E.T f.type).map (·.size)).getD 0))[i]? = D (f.1,n):=by
   intro i f n hf hn;rw[<-lP,qm]at hf;cases hq:fs.toList[i]? with
   |none=>simp[hq]at hf
   |some fl=>
    simp only[hq,qa,jb]at hf;subst hf;have As:fs[i]? = D fl:=by simpa using hq
    simp only at hn;simp[As,hn]
  obtain⟨bq,eS,ha,h1⟩:=OV (S:=S) (w:=w) (γ:=γ) (place:=λi=>(fs.map λf=>(f.offset,((E.T f.type).map (·.size)).getD 0))[i]?) hp ps vs.toList (cells:=z.cells) ib h (by rw[fX];exact tg ty) (DZ fX);refine⟨.agg bq,?_,bq,rfl,ha,h1⟩;simp only[Ù,J,hz,I,run_underlying hd,ry,eS,Ã]
 |_=>exfalso;revert nh lN;cases ty<;>simp[iX,Ty.agg]
theorem OW{rd:H->BS}{el:Ty}:∀(ps:F (H×Cel)){xs cE:F el.den}{u u':Ups},iJ rd el xs u ps=D (cE,u')->∃u2,u'=u++u2
 |[],_,_,u,u',h=>by simp[iJ]at h;exact⟨[],by simp[h.2]⟩
 |(i,c)::ps,xs,cE,u,u',h=>by
  simp only[iJ]at h;split at h
  .split at h
   .obtain⟨u2,hu⟩:=OW ps h;exact⟨_,by rw[hu,kc]⟩
   .simp at h
  .simp at h
theorem HH{rd:H->BS}(aO:RdF np σ rd)(hB:sZ S w γ σ.bx){el:Ty}(cI:0<el.size):∀(ps:F (H×Cel))(vs:F (H×G)){xs cE:F el.den}{u u':Ups},
  All2 (λp v=>p.1=v.1/\bE S w γ σ.bx p.2 v.2) ps vs->iJ rd el xs u ps=D (cE,u')->FrzL np σ.bx u->
  FrzL np σ.bx u'/\∀S',db S w S' w->Froz σ.bx γ S' w u'->∀(css:F (F G))(cells:È G),All2 (λx c=>Rep S' w el x c) xs css->cells.toList=css.flatten->
   ∃bq jD,Ñ (λi=>D (i*el.size,el.size)) cells vs=D bq/\All2 (λx c=>Rep S' w el x c) cE jD/\bq.toList=jD.flatten
 |[],[],xs,cE,u,u',_,h,hf=>by
  simp[iJ]at h;obtain⟨rfl,rfl⟩:=h;exact⟨hf,λS' _ _ css cells ha hc=>⟨cells,css,rfl,ha,hc⟩⟩
 |(i,c)::ps,(j,v)::vs,xs,cE,u,u',⟨⟨eJ,hc⟩,ib⟩,h,hf=>by
  simp only at eJ;subst eJ;simp only[iJ]at h;split at h
  .rename_i x u1 hx;split at h
   .rename_i hi;obtain⟨lP,Xc,kD⟩:=Ag aO hB hx hc;obtain⟨Xd,cU⟩:=HH aO hB cI ps vs ib h (FrzL.app.2 ⟨hf,lP⟩);obtain⟨u2,HI⟩:=OW ps h;refine⟨Xd,λS' aL dN css cells ha cT=>?_⟩;have Xe:=(Xc S' w aL (Froz.app.1 (Froz.app.1 (HI▸dN)).1).2).1;have An:cells.size=xs.length*el.size:=by have:=All2.flatten_length (λx c hx=>Rep.length el x c hx) ha;rw[<-cT]at this;simpa using this
    have HB:i*el.size+el.size<=xs.length*el.size:=by have:(i+1)*el.size<=xs.length*el.size:=kf _ aa;rwa[zq]at this
    have kD:v.cells.toList.length=el.size:=kD;have gD:v.cells.size=el.size:=by simpa using kD
    have nV:v.cells.toList.length=v.cells.size:=qh;have xP:=HF cells (i*el.size) v.cells aa;obtain⟨ci,lQ⟩:∃ci,css[i]? = D ci:=⟨css[i]'(by rw[<-ha.length];exact hi),ka _⟩;have xL:=Hy (cur:=cells.toList) (n:=xs.length) (c:=0) (zs:=v.cells.toList) (All2.all_len ha) ha.length.symm (by rw[cT,<-cT];exact Y (by simp[An])) lQ aa;have dq:ci.length=el.size:=All2.all_len ha ci (kb lQ)
    have dG:cells.toList.take (i*el.size)++v.cells.toList++cells.toList.drop (i*el.size+v.cells.size)=(css.set i v.cells.toList).flatten:=by
     have e1:ci.take 0++v.cells.toList++ci.drop (0+v.cells.toList.length)=v.cells.toList:=by rw[jk aa];simp
     rw[e1]at xL;rw[<-xL];symm;refine(Y ?_).trans ?_
     .simp;omega
     .simp
    obtain⟨bq,jD,h1,h2,h3⟩:=cU S' aL dN (css.set i v.cells.toList) _ (ha.set i x v.cells.toList Xe) (xP.trans dG);refine⟨bq,jD,?_,h2,h3⟩;simp only[Ñ];rw[if_neg (by simp[gD];omega)];exact h1
   .simp at h
  .simp at h
 |[],_::_,_,_,_,_,h,_,_=>h.elim
 |_::_,[],_,_,_,_,h,_,_=>h.elim
end
theorem OX{P:À}{t e:Æ}(h:P.underlying t=D (.slice e)):P.elem t=e:=by simp[Program.elem,h]
def VB(d:H)(o:Á G)(i:H):Prop:=(o=M/\i=d)\/∃k,o=D (.int k (i:Int))
theorem uZ{P:À}{w:Â}{t:Æ}{e s:H}(hd:P.underlying t=D (.slice e))(hs:(sizeOf e).run P w = .ok s w){ad:Á Addr}{len cap i j:H}{lo hi:Á G}
  (kF:VB 0 lo i)(jE:VB len hi j)(eJ:i<=j)(hj:j<=cap) :
  (ç t (.slice ad len cap) lo hi M).run P w = .ok (.slice (if cap=i then ad else ad.map (·.add (i*s))) (j-i) (cap-i)) w:=by
 have he:=OX hd;have fL:P.underlying t=D (.slice (P.elem t)):=by rw[he];exact hd
 rw[run_sliceAt_slice w t _ _ _ _ fL];have eU:(sizeOf (P.elem t)).run P w = .ok s w:=by rw[he];exact hs
 rcases kF with⟨rfl,rfl⟩|⟨kl,rfl⟩
 .rcases jE with⟨rfl,rfl⟩|⟨kh,rfl⟩
  .rw[run_slice_all w t ad _ cap fL,eU];simp[à,sliced]
  .rw[run_slice_h w t ad len cap fL kh _ aa aa,eU];simp[à,sliced]
 .rcases jE with⟨rfl,rfl⟩|⟨kh,rfl⟩
  .rw[run_slice_l w t ad _ cap fL kl _ aa aa,eU];simp[à,sliced]
  .rw[run_slice_lh w t ad len cap fL kl kh _ _ aa aa aa,eU];simp[à,sliced]
section
variable{N:NT}{np:H}{S0:aM}{w0:Â}{refs:Refs}{σ:St}{a:Þ}{w:Â}{S:aM}{γ:H->G}
theorem OY{el:Ty}{xs:F el.den}{ad:Á Addr}{cap:H}(h:Rep S w (.list el) xs [.slice ad (Î xs) cap]){i j:H}(eJ:i<=j)(hj:j<=Î xs) :
  Rep S w (.list el) ((xs.take j).drop i) [.slice (if cap=i then ad else ad.map (·.add (i*el.size))) (j-i) (cap-i)]:=by
 obtain⟨Xf,fC,he,hle,gl,hn,hb⟩:=h;simp only[List.cons.injEq,Z,vq,kn]at he;obtain⟨rfl,rfl⟩:=he;have hlen:((xs.take j).drop i).length=j-i:=aN;refine⟨_,_,by rw[hlen],by rw[hlen];omega,aa,λh=>?_,λb aG=>?_⟩
 .have:ad=none:=by
   split at h
   .exact h
   .simpa using h
  have:=hn this;omega
 .by_cases hc:cap=i
  .rw[if_pos hc]at aG;have hz:(xs.take j).drop i=[]:=js aa;rw[hz];exact⟨λh=>absurd rfl h,[],trivial,λj v hv=>by simp at hv⟩
  .rw[if_neg hc]at aG;cases ad with
   |none=>simp at aG
   |some b0=>
    simp only[qa,jb]at aG;subst aG;obtain⟨dp,css,ha,hl⟩:=hb b0 rfl;by_cases hx:(xs.take j).drop i=[]
    .rw[hx];exact⟨λh=>absurd rfl h,[],trivial,λj v hv=>by simp at hv⟩
    .have fj:xs≠[]:=λh=>hx (by rw[h];simp);obtain⟨g,o,sp⟩:=b0;have dp:=dp fj;simp at dp;subst dp;have vz:(⟨g,o,M⟩:Addr).add (i*el.size)=⟨g,o+i*el.size,M⟩:=Å _ _ _;rw[vz];refine⟨λ_=>rfl,(css.take j).drop i,(ha.take j).drop i,λq v hq=>?_⟩;have dq:=All2.all_len ha;rw[Ao i (λc hc=>dq c (qd hc)),tj j dq,zr,qp]at hq;split at hq
     .have:=hl _ v hq;simpa[Nat.add_assoc]using this
     .simp at hq
def ORep(R:Leaf->G->Prop):Á Leaf->Á G->Prop
 |none,M=>True
 |some l,D v=>R l v
 |_,_=>False
theorem rz{d:H}{o:Á Leaf}{vo:Á G}{i:Int}{bx:H->BS}(h:bnd d o=D i)(ho:ORep (bj S w γ bx) o vo)(hi:0<=i):VB d vo i.toNat:=by
 unfold bnd at h;split at h
 .cases vo with
  |none=>simp at h;exact .inl ⟨rfl,aa⟩
  |some v=>exact ho.elim
 .cases vo with
  |none=>exact ho.elim
  |some v=>simp at h;rename_i k n;have hv:v = .int k n:=ng (S:=S) (w:=w) ho;refine .inr ⟨k,?_⟩;rw[hv,show (n:Int)=i from h,Int.toNat_of_nonneg hi]
 .simp at h
theorem Xg{P:À}{E:Env}(hT:ca P E.T)(hR:Rel N np S0 w0 refs σ a w S γ){rd:H->BS}(aO:RdOk σ rd){t:Æ}{ti:TyI}(ht:E.T t=D ti)
  {d:H}{x l:Leaf}{lo hi:Á Leaf}{vx:G}{oI qF:Á G}{u:Ups}(aV:∀k,fV (rd k)=Ä->σ.bx k = .free)(h:xn (parK np) rd ti d x lo hi=D (Ä,l,u))
  (hx:bj S w γ σ.bx x vx)(kF:ORep (bj S w γ σ.bx) lo oI)(jE:ORep (bj S w γ σ.bx) hi qF) :
  ∃v S' γ',(ç t vx oI qF M).run P w = .ok v w/\Rel N np S0 w0 refs (σ.upd u) a w S' γ'/\bE S' w γ' (σ.upd u).bx (.one l) v:=by
 unfold xn at h;split at h
 ·-- a datum
  rename_i el xs;split at h
  .rename_i bn;obtain⟨hd,_,te,cF,cf⟩:=lM hT ht bn;have bW:=jY hT cF cf;split at h
   .rename_i i j cH mG;simp only[jb,jf,jh,jp]at h;obtain⟨⟨h0,h1,h2⟩,rfl,rfl⟩:=h;have nT:=hx;obtain⟨ad,cap,hv,hle,_⟩:=hx;simp at hv;subst hv;have hlen:((Î xs:H):Int)=Int.ofNat (Î xs):=rfl;refine⟨_,S,γ,uZ hd (s:=el.size) ?_ (rz cH kF h0) (rz mG jE aa) aa aa,hR,OY nT aa aa,λ_=>rfl⟩;rw[gL hT cF,bW]
   .simp at h
  .simp at h
 .rename_i k;split at h
  ·-- the tail
   split at h
   .rename_i e el xs f hk;split at h
    .rename_i bn;obtain⟨hd,_,te,cF,cf⟩:=lM hT ht bn;have bW:=jY hT cF cf;split at h
     .rename_i i cH;simp only[jb,jf,jh,jp]at h;obtain⟨⟨h0,h1⟩,rfl,rfl⟩:=h;have bO:=aO.nm hk;have hk:=aO.live hk;have hz:=hx.2.2 _ hk;obtain⟨css,aD,_⟩:=gB bO (hR.box k _ hk)
      obtain⟨ad,cap,hg,ej⟩:∃ad cap,γ k = .slice ad xs.length cap/\xs.length<=cap:=by
       rcases aD.2 with⟨hg,hn⟩|⟨g,cap,cur,hg,_,_,gm,_⟩
       .exact⟨M,0,by rw[hg,hn],aa⟩
       .exact⟨_,cap,hg,gm⟩
      have rA:VB xs.length qF xs.length:=by
       cases qF with
       |none=>exact .inl ⟨rfl,rfl⟩
       |some v=>exact jE.elim
      subst hz;have aE:=uZ (ad:=ad) (w:=w) hd (s:=el.size) (by rw[gL hT cF,bW]) (rz cH kF h0) rA aa ej;rw[<-hg]at aE;refine⟨_,S,γ,aE,hR,⟨hx.1,rfl,λb hb=>?_⟩,λ_=>rfl⟩;rw[show (σ.upd []).bx k=σ.bx k from rfl,hk]at hb;cases hb;exact⟨bO,aa,ad,cap,hg,rfl⟩
     .simp at h
    .simp at h
   .simp at h
  .rename_i hh;split at h
   .rename_i e el xs f hk;split at h
    .rename_i bn;obtain⟨hd,_,te,cF,cf⟩:=lM hT ht bn;have bW:=jY hT cF cf;split at h
     .rename_i i j cH mG;have bO:=aO.nm hk;have hk:=aO.live hk;have hz:=hx.2.2 _ hk;split at h
      ·-- a tq: its head
       split at h
       .rename_i xQ;simp only[è]at xQ;subst xQ;simp only[jb,jf,jh,jp]at h;obtain⟨⟨h0,h1⟩,rfl,rfl⟩:=h;obtain⟨css,aD,_⟩:=gB bO (hR.box k _ hk)
        have tt:VB 0 oI 0:=by
         cases oI with
         |none=>exact .inl ⟨rfl,rfl⟩
         |some v=>exact kF.elim
        have rA:=rz mG jE h0
        obtain⟨ad,cap,hg,ej,Xh⟩:∃ad cap,γ k = .slice ad xs.length cap/\xs.length<=cap/\(if cap=0 then ad else ad.map (·.add (0*el.size)))=ad:=by
         rcases aD.2 with⟨hg,hn⟩|⟨g,cap,cur,hg,_,_,gm,_⟩
         .exact⟨M,0,by rw[hg,hn],aa,rfl⟩
         .exact⟨_,cap,hg,gm,by simp[Å]⟩
        have aE:=uZ (ad:=ad) (w:=w) hd (s:=el.size) (by rw[gL hT cF,bW]) tt rA aa (show j.toNat<=cap by omega);rw[<-hg,Xh]at aE;subst hz;refine⟨_,S,γ,aE,hR,⟨hx.1,rfl,λb hb=>?_⟩,λ_=>rfl⟩;rw[show (σ.upd []).bx k=σ.bx k from rfl,hk]at hb;cases hb;exact⟨bO,aa,ad,cap,hg,rfl⟩
       .simp at h
      rename_i mF;have mF:parK np k=false:=by simpa using mF
      split at h
      ·-- cut short
       rename_i dW;simp only[jh,è,Bool.not_eq_eq_eq_not,jl]at dW;obtain⟨rfl,rfl⟩:=dW;split at h
       .rename_i gC;simp only[jb,jf,jh,jp]at h;obtain⟨⟨h0,h1⟩,rfl,rfl⟩:=h;have Au:=aV d gC;have qE:d≠k:=by rintro rfl;rw[Au]at hk;simp at hk
        obtain⟨css,aD,ar,hS⟩:=gB bO (hR.box k _ hk);have dq:=All2.all_len ar
        have tt:VB 0 oI 0:=by
         cases oI with
         |none=>exact .inl ⟨rfl,rfl⟩
         |some v=>exact kF.elim
        have rA:=rz mG jE h0;have bm:=xM hR hk;have nS:(σ.setB k .gone).bx d = .free:=by rw[bQ σ _ qE];exact Au
        have oJ:j.toNat<=xs.length:=aa;have Av:css.length=xs.length:=ar.length.symm
        have key:∃v',(ç t vx oI qF M).run P w = .ok v' w/\w.ownsRow 0 e el.size v' (W j.toNat xs).length (W j.toNat css).flatten/\blk v'=blk vx:=by
         rw[hz];have ay:(W j.toNat xs).length=j.toNat:=aN;rcases aD.2 with⟨hg,hn⟩|⟨g,cap,cur,hg,_,hh,gm,gl,dR,dk⟩
         .rw[hg];have HJ:j.toNat=0:=aa;refine⟨_,uZ hd (s:=el.size) (len:=0) (by rw[gL hT cF,bW]) tt (by rw[hn]at rA;exact rA) aa aa,?_,by simp;rfl⟩;rw[HJ];simpa using Õ w 0 e el.size
         .rw[hg];refine⟨_,uZ hd (s:=el.size) (by rw[gL hT cF,bW]) tt rA aa aa,?_,?_⟩
          .refine⟨?_,.inr ⟨g,cap,cur,?_,ko _,hh,aa,gl,dR,?_⟩⟩
           .rw[tj _ dq,ql,aD.1,ay];exact É (kf _ oJ)
           .rw[ay];by_cases hc:cap=0
            .simp[hc]
            .simp[hc,Å]
           .rw[ay,tj _ dq,<-dk,ß,É (kf _ oJ)]
          .by_cases hc:cap=0
           .simp[hc];rfl
           .simp[hc,Å];rfl
        obtain⟨v',aE,bX,hblk⟩:=key
        have lS:∀g,blk v'=D g->Own w0 refs g/\(∀k' b,(σ.setB k .gone).bx k' = .live b->blk (γ k')≠D g)/\g<w.heap.size:=by
         intro g hg;rw[hblk,hz]at hg;refine⟨?_,λk' b' aG ao=>?_,iu (hR.box k _ hk) hg⟩
         .rcases hR.own k _ g hk hg with h|h
          .exact h
          .rw[mF]at h;simp at h
         .have bI:k'≠k:=by rintro rfl;rw[ee]at aG;simp at aG
          rw[bQ σ _ bI]at aG;exact hR.apart k' k _ _ g bI aG hk ao hg
        obtain⟨cJ,ia⟩:=xN bm nS (hm:=bO) (w':=w) (S':=S) (v':=v') (e:=e) (el:=el) (zs:=W j.toNat xs) (frz:=U) (css:=W j.toNat css) (.refl S w) (λg hg br=>rfl) (jz _) lS
         (λg o hs=> .inl hs) rfl rfl rfl bX (ar.take _) (λg hg=>⟨λ_=>(hS g (by rw[<-hz,<-hblk];exact hg)).1 rfl,af⟩) (λg hg=>hR.kw_live hk (by rw[<-hz,<-hblk];exact hg))
        exact⟨v',S,_,aE,cJ,ia⟩
       .simp at h
      ·-- shared
       simp only[jb,jf,jh,jp]at h;obtain⟨⟨h0,h1,h2⟩,rfl,rfl⟩:=h;obtain⟨S',ct,aL,bB⟩:=Hu hR bO hk mF;have kG:=bB;obtain⟨ad,cap,hv,hle,_⟩:=bB;simp at hv;rw[hv]at kG;refine⟨_,S',γ,by rw[hz,hv];exact uZ hd (s:=el.size) (by rw[gL hT cF,bW]) (rz cH kF h0) (rz mG jE aa) aa aa,ct,OY kG aa aa,λ_=>rfl⟩
     .simp at h
    .simp at h
   .simp at h
 ·-- of a head
  rename_i k m;split at h
  .rename_i e el xs f hk;split at h
   .rename_i bn;obtain⟨bn,Xi⟩:=bn;obtain⟨hd,_,te,cF,cf⟩:=lM hT ht bn;have bW:=jY hT cF cf;split at h
    .rename_i i j cH mG;simp only[jb,jf,jh,jp]at h;obtain⟨⟨h0,h1,h2⟩,rfl,rfl⟩:=h;have bO:=aO.nm hk;have hk:=aO.live hk;obtain⟨_,hm,ad,cap,hg,hz⟩:=hx.2.2 _ hk;obtain⟨css,aD,_⟩:=DP hg (hR.box k _ hk)
     have ej:xs.length<=cap:=by
      rcases aD.2 with⟨ao,hn⟩|⟨g,fC,cur,ao,_,_,gm,_⟩
      .omega
      .rw[hg]at ao;simp only[Z,kn]at ao;omega
     have rA:VB m qF xs.length:=by
      have:=rz mG jE aa;rw[h2,je]at this;rcases this with⟨h3,_⟩|h3
      .cases hi with
       |none=>simp at Xi
       |some y=>subst h3;exact jE.elim
      .exact .inr h3
     have aE:=uZ (ad:=ad) (w:=w) hd (s:=el.size) (by rw[gL hT cF,bW]) (rz cH kF h0) rA aa ej;subst hz;refine⟨_,S,γ,aE,hR,⟨hx.1,rfl,λb hb=>?_⟩,λ_=>rfl⟩;rw[show (σ.upd []).bx k=σ.bx k from rfl,hk]at hb;cases hb;exact⟨bO,aa,ad,cap,hg,rfl⟩
    .simp at h
   .simp at h
  .simp at h
 .simp at h
theorem Xj{P:À}{E:Env}(hT:ca P E.T)(hR:Rel N np S0 w0 refs σ a w S γ){rd:H->BS}(aO:RdOk σ rd){t:Æ}{ti:TyI}(ht:E.T t=D ti)
  {x mx:Leaf}{lo hi:Á Leaf}{vx vm:G}{oI qF:Á G}(h:xo rd ti x lo hi mx=D Ä)
  (hx:bj S w γ σ.bx x vx)(kF:ORep (bj S w γ σ.bx) lo oI)(jE:ORep (bj S w γ σ.bx) hi qF)(vA:bj S w γ σ.bx mx vm) :
  ∃v,(ç t vx oI qF (D vm)).run P w = .ok v w:=by
 unfold xo at h;split at h
 case h_2=>simp at h
 rename_i k k1 i k2 j k3 m;split at h
 case h_2=>simp at h
 rename_i e el xs f hk;split at h
 case isFalse=>simp at h
 rename_i bn;simp only[jb,jh,jp]at h;obtain⟨h0,h1,h2,h3⟩:=h;obtain⟨hd,_,te,cF,cf⟩:=lM hT ht bn;have bW:=jY hT cF cf;have bO:=aO.nm hk;have hk:=aO.live hk;have hz:=hx.2.2 _ hk;cases oI with
 |none=>exact kF.elim
 |some vl=>
 cases qF with
 |none=>exact jE.elim
 |some vh=>
 have e1:vl = .int k1 i:=ng (S:=S) (w:=w) kF;have e2:vh = .int k2 j:=ng (S:=S) (w:=w) jE;have e3:vm = .int k3 m:=ng (S:=S) (w:=w) vA;subst e1 e2 e3;obtain⟨css,aD,_⟩:=gB bO (hR.box k _ hk);have he:=OX hd;have fL:P.underlying t=D (.slice (P.elem t)):=by rw[he];exact hd
 rw[run_sliceAt_slice w t _ _ _ _ fL];have eU:(sizeOf (P.elem t)).run P w = .ok el.size w:=by rw[he];rw[gL hT cF,bW]
 have key:∀ad n cap,(m:Int)<=(cap:H)->∃v,(Instr.slice t (.slice ad n cap) (D (.int k1 i)) (D (.int k2 j)) (D (.int k3 m))).run P w = .ok v w:=by intro ad n cap hc;rw[run_slice_lhm w t ad n cap fL _ _ _ _ _ _ h0 h1 h2 hc,eU];exact⟨_,rfl⟩
 rcases aD.2 with⟨hg,hn⟩|⟨g,cap,cur,hg,_,hh,gm,_⟩
 .rw[hz,hg];exact key _ _ _ (Int.le_trans h3 aa)
 .rw[hz,hg];exact key _ _ _ (Int.le_trans h3 aa)
theorem OZ(hR:Rel N np S0 w0 refs σ a w S γ){x:Leaf}{k i e:H}{el:Ty}{xs:F el.den}{f:Ö}{vx:G}(h:DF x=D (k,i))(bO:isM e=U)(hk:σ.bx k = .live (.lst e el xs f))
  (hx:bj S w γ σ.bx x vx):i<=xs.length/\((xs.length=0/\vx = .slice M 0 0)\/
   ∃g cap,γ k = .slice (D ⟨g,0,M⟩) xs.length cap/\xs.length<=cap/\vx = .slice (D ⟨g,if cap=i then 0 else i*el.size,M⟩) (xs.length-i) (cap-i)):=by
 obtain⟨css,aD,ar,hS⟩:=gB bO (hR.box k _ hk);unfold DF at h;split at h
 .simp only[jb,jf]at h;obtain⟨rfl,rfl⟩:=h;have hz:=hx.2.2 _ hk;refine⟨ko _,?_⟩;rcases aD.2 with⟨hg,hn⟩|⟨g,cap,cur,hg,_,hh,gm,gl,dR,dk⟩
  .exact .inl ⟨hn,by rw[hz,hg]⟩
  .exact .inr ⟨g,cap,hg,gm,by rw[hz,hg];simp⟩
 .rename_i k' i';simp only[jb,jf]at h;obtain⟨rfl,rfl⟩:=h;obtain⟨_,hi,ad,cap,ao,hv⟩:=hx.2.2 _ hk;refine⟨hi,?_⟩;rcases aD.2 with⟨hg,hn⟩|⟨g,fC,cur,hg,_,hh,gm,gl,dR,dk⟩
  .rw[hg]at ao;simp only[Z]at ao;obtain⟨rfl,_,rfl⟩:=ao;exact .inl ⟨hn,by rw[hv];simp;omega⟩
  .rw[hg]at ao;simp only[Z,kn]at ao;obtain⟨rfl,rfl⟩:=ao;refine .inr ⟨g,fC,hg,gm,?_⟩;rw[hv];by_cases hc:fC=i'
   .rw[if_pos hc,if_pos hc]
   .rw[if_neg hc,if_neg hc];simp[Å]
 .simp at h
theorem HK{P:À}(hR:Rel N np S0 w0 refs σ a w S γ){k i e g cap:H}{el:Ty}{xs zs:F el.den}(hk:σ.bx k = .live (.lst e el xs U))(hg:γ k = .slice (D ⟨g,0,M⟩) xs.length cap)
  {cz:F (F G)}(hz:All2 (λx c=>Rep S w el x c) zs cz)(hl:i+zs.length<=xs.length) :
  ∃w',(storeCells ⟨g,i*el.size,M⟩ cz.flatten).run P w = .ok () w'/\Rel N np S0 w0 refs (σ.setB k (.live (.lst e el (W i xs++(zs++Ë (i+zs.length) xs)) U))) a w' S γ:=by
 have bO:=Oh hg (hR.box k _ hk);obtain⟨css,aD,ar,hS⟩:=gB bO (hR.box k _ hk);have nW:cz.flatten.length=zs.length*el.size:=All2.flatten_length (λx c hx=>Rep.length el x c hx) hz;have h1:∀u∈cz.flatten,One u:=by intro u hu;obtain⟨c,hc,rj⟩:=List.mem_flatten.1 hu;obtain⟨x,_,hx⟩:=hz.mem_right c hc;exact Rep.one el x c hx u rj
 rcases aD.2 with⟨ao,hn⟩|⟨g',fC,cur,ao,_,hh,gm,gl,dR,dk⟩
 .rw[hg]at ao;simp at ao
 rw[hg]at ao;simp only[Z,jb,Addr.mk.injEq,vq,kn]at ao;obtain⟨rfl,rfl⟩:=ao;have gq:i*el.size+zs.length*el.size<=xs.length*el.size:=by rw[<-Ç];exact kf _ hl
 have gO:xs.length*el.size<=cap*el.size:=kf _ gm;have aL:=run_storeCells_at P g (i*el.size) e cz.flatten 0 cur w hh (by rw[nW,dR];omega) h1;simp only[ö]at aL;refine⟨_,aL,?_⟩;have dq:=All2.all_len ar;have HM:=All2.all_len hz;have th:∀o,¬S g o:=(hS g (by rw[hg];rfl)).1 rfl;refine xK hR hk (by rw[hg];rfl) th (b':= .lst e el _ U) ⟨rfl,rfl,λ_=>aN⟩ hh (λdV cS=>?_);have hlen:(W i xs++(zs++Ë (i+zs.length) xs)).length=xs.length:=aN;refine xC bO ⟨css.take i++(cz++css.drop (i+zs.length)),⟨?_,.inr ⟨g,cap,_,?_,ko _,setRow_heap w g cur _ e (0,0) hh,by rw[hlen];exact gm,gl,?_,?_⟩⟩,?_,λg' ao=>?_⟩
 .rw[hlen,uT (m:=el.size)]
  .have:=ar.length;have:=hz.length;simp only[jv,ql,qv];congr 1;omega
  .intro d hd;simp only[jx]at hd;rcases hd with hd|hd|hd
   .exact dq d (qd hd)
   .exact HM d hd
   .exact dq d (z5 hd)
 .rw[hlen];exact hg
 .simp only[zv,jv,ql,qv,qh];omega
 .rw[hlen];simp only[vf,tj i dq,Ao _ dq,<-dk];have hA:(cur.toList.take (i*el.size)).length=i*el.size:=aN;rw[kc,Ø,hA,Y aa,ß,É aa];congr 1;rw[Ø,nW,Y aa,Ç];congr 1;rw[List.drop_take];congr 1;omega
 .exact((ar.mono (λx c hx=>Rep.keep cS _ _ _ hx)).take _).append ((hz.mono (λx c hx=>Rep.keep cS _ _ _ hx)).append ((ar.mono (λx c hx=>Rep.keep cS _ _ _ hx)).drop _))
 .rw[hg]at ao;simp[blk]at ao;subst ao;exact⟨λ_=>th,af⟩
theorem O0{σ:St}{k:H}{b:BS}(h:σ.bx k=b):σ.setB k b=σ:=by
 unfold St.setB;congr 1;funext j;split
 .rename_i hj;subst hj;exact h.symm
 .rfl
theorem Xk{P:À}{E:Env}(hT:ca P E.T)(hR:Rel N np S0 w0 refs σ a w S γ){rd:H->BS}(aO:RdOk σ rd){t ty:Æ}{ti:TyI}(ht:E.T t=D ti)
  {x y l:Leaf}{u:Ups}{vx vy:G}(h:xp rd ti.ty x y=D (l,u))(hx:bj S w γ σ.bx x vx)(hy:bj S w γ σ.bx y vy) :
  ∃v w',(é #[t,t] ty #[vx,vy]).run P w = .ok v w'/\Rel N np S0 w0 refs (σ.upd u) a w' S γ/\bE S w' γ (σ.upd u).bx (.one l) v:=by
 unfold xp at h;split at h
 .rename_i k i Aw;split at h
  .rename_i e el xs hk;split at h
   .rename_i bn;split at h
    .rename_i ys Ax;simp only[jb,jf]at h;obtain⟨rfl,rfl⟩:=h;have bO:=aO.nm hk;have hk:=aO.live hk;obtain⟨hd,cI,te,cF,cf⟩:=lM hT ht bn;have bW:=jY hT cF cf;have eQ:(sizeOf ti.elem).run P w = .ok el.size w:=by rw[gL hT cF,bW]
     obtain⟨ad,c,cy,HD,eI,uY,dj⟩:=OP hR aO Ax hy;subst HD;obtain⟨hi,cB⟩:=OZ hR Aw bO hk hx;have Ay:=All2.all_len uY;have Az:cy.length=ys.length:=uY.length.symm;have eN:(W (xs.length-i) ys).length=min ys.length (xs.length-i):=aN
     have vB:over xs i ys=W i xs++(W (xs.length-i) ys++Ë (i+(W (xs.length-i) ys).length) xs):=by
      unfold over;congr 2;rw[eN];by_cases h:ys.length<=xs.length-i
      .rw[É h]
      .rw[Nat.min_eq_right aa,jk aa,jk aa]
     have tu:(Ó el.size (min ys.length (xs.length-i)) (.slice ad ys.length c)).run P w = .ok (W (xs.length-i) cy).flatten.toArray w:=by
      cases ad with
      |none=>have h0:=(eI rfl).1;have:cy=[]:=js aa;subst this;simp[Ó]
      |some b=>
       have e1:(W (xs.length-i) cy).flatten.length=min ys.length (xs.length-i)*el.size:=by rw[uT (m:=el.size) (λc hc=>Ay c (qd hc)),ql,Az,Nat.min_comm]
       have:=run_loadCells_list (P:=P) w b (W (xs.length-i) cy).flatten (λj v hj=>by
        rw[tj _ Ay,qp]at hj;split at hj
        .exact dj b rfl j v hj
        .simp at hj)
       rw[e1]at this;simpa[Ó]using this
     have aE:∀base dl dc w',vx = .slice base dl dc->dl=xs.length-i->(base=M->w'=w)->(∀ab,base=D ab->(storeCells ab (W (xs.length-i) cy).flatten).run P w = .ok () w')->
       (é #[t,t] ty #[vx,.slice ad ys.length c]).run P w = .ok (goInt ((min ys.length (xs.length-i):H):Int)) w':=by
      intro base dl dc w' hv rB dg dM;subst hv rB;have rC:Nat.min ys.length (xs.length-i)=min ys.length (xs.length-i):=rfl;cases base with
      |none=>simp[é,run_underlying hd,ó,eQ,rC,tu,dg rfl]
      |some ab=>simp[é,run_underlying hd,ó,eQ,rC,tu,dM ab rfl]
     by_cases hn:min ys.length (xs.length-i)=0
     .have hz:W (xs.length-i) ys=[]:=js (by rw[eN];exact hn);have fX:(W (xs.length-i) cy).flatten=[]:=by have:W (xs.length-i) cy=[]:=js (by rw[ql,Az];omega);rw[this];rfl
      have HN:over xs i ys=xs:=by rw[vB,hz];simp
      refine⟨_,w,?_,?_,⟨rfl,λ_=>rfl⟩⟩
      .rcases cB with⟨h0,hv⟩|⟨g,cap,hg,ej,hv⟩
       .exact aE M 0 0 w hv aa (λ_=>rfl) (λab oK=>by simp at oK)
       .refine aE _ _ _ w hv rfl (λ_=>rfl) (λab oK=>?_);rw[fX];rfl
      .show Rel N np S0 w0 refs (σ.setB k (.live (.lst e el (over xs i ys) U))) a w S γ;rw[HN,O0 hk];exact hR
     .rcases cB with⟨h0,hv⟩|⟨g,cap,hg,ej,hv⟩
      .omega
      .have lQ:cap≠i:=aa;rw[if_neg lQ]at hv;obtain⟨w',aL,cJ⟩:=HK (P:=P) hR hk hg (i:=i) (uY.take (xs.length-i)) (by rw[eN];omega);refine⟨_,w',aE _ _ _ w' hv rfl (λh=>by simp at h) (λab oK=>?_),?_,⟨rfl,λ_=>rfl⟩⟩
       .simp only[jb]at oK;subst oK;exact aL
       .show Rel N np S0 w0 refs (σ.setB k (.live (.lst e el (over xs i ys) U))) a w' S γ;rw[vB];exact cJ
    .simp at h
   .simp at h
  .simp at h
 .simp at h
theorem Xl{P:À}{E:Env}(hT:ca P E.T)(hR:Rel N np S0 w0 refs σ a w S γ){rd:H->BS}(aO:RdOk σ rd){t ty:Æ}{ti:TyI}(ht:E.T t=D ti)
  {x:Leaf}{u:Ups}{vx:G}(h:xq rd ti.ty x=D u)(hx:bj S w γ σ.bx x vx) :
  ∃v w',(á #[t] ty #[vx]).run P w = .ok v w'/\Rel N np S0 w0 refs (σ.upd u) a w' S γ:=by
 unfold xq at h;split at h
 .rename_i k i Aw;split at h
  .rename_i e el xs hk;split at h
   .rename_i bn;simp only[jb]at h;subst h;have bO:=aO.nm hk;have hk:=aO.live hk;obtain⟨hd,cI,te,cF,cf⟩:=lM hT ht bn;have bW:=jY hT cF cf;obtain⟨z,hz,fX⟩:=uM hT cF w cf;obtain⟨hi,cB⟩:=OZ hR Aw bO hk hx;by_cases hn:xs.length-i=0
    .have vB:W i xs++O (xs.length-i) el.dflt=xs:=by rw[hn];simp[Y (show xs.length<=i by omega)]
     refine⟨.tuple #[],w,?_,?_⟩
     .rcases cB with⟨h0,hv⟩|⟨g,cap,hg,ej,hv⟩
      .simp[á,run_underlying hd,hv]
      .rw[hn]at hv;simp[á,run_underlying hd,hv]
     .show Rel N np S0 w0 refs (σ.setB k (.live (.lst e el (W i xs++O (xs.length-i) el.dflt) U))) a w S γ;rw[vB,O0 hk];exact hR
    .rcases cB with⟨h0,hv⟩|⟨g,cap,hg,ej,hv⟩
     .omega
     .have lQ:cap≠i:=aa;rw[if_neg lQ]at hv
      have O1:All2 (λx c=>Rep S w el x c) (O (xs.length-i) el.dflt) (O (xs.length-i) (iM el)):=by
       have h0:=nU (S:=S) (w:=w) el
       have:∀n,All2 (λx c=>Rep S w el x c) (O n el.dflt) (O n (iM el)):=by
        intro n;induction n with
        |zero=>exact trivial
        |succ n ih=>exact⟨h0,ih⟩
       exact this _
      obtain⟨w',aL,cJ⟩:=HK (P:=P) hR hk hg (i:=i) O1 aN;refine⟨.tuple #[],w',?_,?_⟩
      .have Xm:0<z.cells.size:=by have:=DY fX;omega
       have cT:(Builtin.zeroCells z.cells (xs.length-i)).toList=(O (xs.length-i) (iM el)).flatten:=by rw[<-fX];exact OS z.cells (xs.length-i) Xm
       rw[hv];obtain⟨m,hm⟩:∃m,xs.length-i=m+1:=⟨xs.length-i-1,aa⟩;rw[hm]at cT aL ⊢;simp[á,run_underlying hd,hz,cT,aL]
      .show Rel N np S0 w0 refs (σ.setB k (.live (.lst e el (W i xs++O (xs.length-i) el.dflt) U))) a w' S γ;have:Ë (i+(O (xs.length-i) el.dflt).length) xs=[]:=jk aN;rw[this,zh]at cJ;exact cJ
   .simp at h
  .simp at h
 .simp at h
theorem Xn{P:À}{E:Env}(hT:ca P E.T)(hR:Rel N np S0 w0 refs σ a w S γ){rd:H->BS}(aO:RdOk σ rd){t ty:Æ}{ti:TyI}(ht:E.T t=D ti){el:Ty}(bn:ti.ty=D (.list el))
  {s x v:Leaf}{u:Ups}{vs vx:G}(h:appH rd ti.elem el s x=D (Ä,v,u))(hs:bj S w γ σ.bx s vs)(hx:bj S w γ σ.bx x vx) :
  ∃z w',(Ì #[t,t] ty #[vs,vx]).run P w = .ok z w'/\Rel N np S0 w0 refs (σ.upd u) a w' S γ/\bj S w' γ (σ.upd u).bx v z/\One z:=by
 unfold appH at h;split at h
 case h_2=>simp at h
 rename_i k i k' j;split at h
 case isFalse=>simp at h
 rename_i bI;subst bI;split at h
 case h_2=>simp at h
 rename_i e b xs hk;split at h
 case isFalse=>simp at h
 rename_i hb;obtain⟨hb,he⟩:=hb;subst hb;subst he;simp only[jb,jf,jp]at h;obtain⟨eJ,rfl,rfl⟩:=h;obtain⟨hd,_,te,cF,cf⟩:=lM hT ht bn;have bW:=jY hT cF cf;obtain⟨inf,d,hi,_,kC,_⟩:=lu hT cF;have jF:inf.size=b.size:=by rw[kC,<-bW]
 have bO:=aO.nm hk;have hk:=aO.live hk;obtain⟨_,nj,ad,cap,hg,gD⟩:=hs.2.2 _ hk;obtain⟨_,tw,Xf,fC,ao,DX⟩:=hx.2.2 _ hk;rw[hg]at ao;simp only[Z,kn]at ao;obtain⟨rfl,rfl⟩:=ao;obtain⟨css,aD,ar,hS⟩:=DP hg (hR.box k _ hk);have dq:=All2.all_len ar;have mH:(W i xs++(Ë j xs++Ë (i+(xs.length-j)) xs)).length=xs.length:=aN;have iP:∀(w':Â),bj S w' γ (σ.setB k (.live (.lst ti.elem b (W i xs++(Ë j xs++Ë (i+(xs.length-j)) xs)) U))).bx (.hd k (i+(xs.length-j))) (.slice ad (i+(xs.length-j)) cap):=by intro w';refine⟨by rw[ee];simp,rfl,λb' aG=>?_⟩;rw[ee]at aG;cases aG;exact⟨bO,by rw[mH];omega,ad,cap,by rw[mH];exact hg,rfl⟩
 rcases aD.2 with⟨gh,hn⟩|⟨g,AA,cur,gh,_,hh,gm,gl,dR,dk⟩
 .rw[hg]at gh;simp only[Z]at gh;obtain⟨rfl,_,rfl⟩:=gh;have uX:xs=[]:=js hn;subst uX;have AB:i=0:=by simpa using nj
  have HJ:j=0:=by simpa using tw
  subst AB HJ;have aE:=run_append_owned_none (P:=P) w 0 t ty ti.elem inf b.size hd hi (.slice M 0 0) 0 [] (Õ w 0 ti.elem b.size)
  have Xo:σ.setB k (.live (.lst ti.elem b ([]:F b.den) U))=σ:=by
   show St.mk σ.sl _=σ
   have:(λj=>if j=k then BS.live (.lst ti.elem b ([]:F b.den) U) else σ.bx j)=σ.bx:=by
    funext j
    by_cases hj:j=k
    .subst hj;simp[hk]
    .simp[hj]
   rw[this]
  refine⟨_,w,by rw[gD,DX];exact aE,?_,iP w,rfl⟩;show Rel N np S0 w0 refs (σ.setB k (.live (.lst ti.elem b ([]:F b.den) U))) a w S γ;rw[Xo];exact hR
 .rw[hg]at gh;simp only[Z,kn]at gh;obtain⟨rfl,rfl⟩:=gh;obtain⟨w',aL,cJ⟩:=HK (P:=P) (i:=i) hR hk hg (ar.drop j) aN;have nW:(css.drop j).flatten.length=(xs.length-j)*b.size:=by have:=All2.flatten_length (λx c hx=>Rep.length b x c hx) (ar.drop j);simpa using this
  have h1:∀u∈(css.drop j).flatten,One u:=by intro u hu;obtain⟨c,hc,rj⟩:=List.mem_flatten.1 hu;obtain⟨x,_,hx⟩:=(ar.drop j).mem_right c hc;exact Rep.one b x c hx u rj
  have gq:i*b.size+(xs.length-j)*b.size<=xs.length*b.size:=by rw[<-Ç];exact kf _ aa
  have gO:xs.length*b.size<=cap*b.size:=kf _ gm;have cS:=run_storeCells_at P g (i*b.size) _ (css.drop j).flatten 0 cur w hh (by rw[nW,dR];omega) h1;simp only[ö]at cS;have hw:w'=w.setRow g (cur.toList.take (i*b.size)++(css.drop j).flatten++cur.toList.drop (i*b.size+(css.drop j).flatten.length)).toArray:=by have:=aL.symm.trans cS;simpa using this
  have cT:∀q u,(css.drop j).flatten[q]? = D u->w.cell? ((⟨g,if cap=j then 0 else j*b.size,M⟩:Addr).add q)=D u:=by
   intro q u hq;have O2:q<(xs.length-j)*b.size:=by rw[<-nW];exact(jt.1 hq).1
   have hc:¬cap=j:=by intro hc;have:xs.length-j=0:=aa;rw[this]at O2;simp at O2
   rw[if_neg hc,Å];rw[Ao j dq,zr]at hq;have:=aD.cells (g:=g) (by rw[hg];rfl) _ u hq;rwa[Å,ke]at this
  have aE:=run_append_room (P:=P) w t ty ti.elem inf hd hi g i cap cur (by exact hh) ⟨g,if cap=j then 0 else j*b.size,M⟩ (xs.length-j) (cap-j) (css.drop j).flatten (by rw[jF];exact nW) cT h1 aa
   (by rw[jF,nW,dR];omega)
  have HO:vx = .slice (D ⟨g,if cap=j then 0 else j*b.size,M⟩) (xs.length-j) (cap-j):=by
   rw[DX];by_cases hc:cap=j
   .rw[if_pos hc,if_pos hc]
   .rw[if_neg hc,if_neg hc];simp[Å]
  refine⟨_,w',by rw[gD,HO,aE,hw,jF],?_,iP w',rfl⟩;have:(Ë j xs).length=xs.length-j:=af;rw[this]at cJ;exact cJ
theorem Xp(hR:Rel N np S0 w0 refs σ a w S γ){rdf:H->BS}(bc:RdF np σ rdf){e:H}{el:Ty}{s:Leaf}{m:H}{ls:F Leaf}{u:Ups}{vs:G}(h:rowS rdf e el s=D (m,ls,u))(hs:bj S w γ σ.bx s vs) :
  ∃cs,w.ownsRow 0 e el.size vs m cs/\All2 (bj S w γ σ.bx) ls cs/\(∀u∈cs,One u)/\Rel N np S0 w0 refs (σ.upd u) a w S γ/\BxLe γ σ.bx γ (σ.upd u).bx/\
   (∀k,σ.bx k = .free->(σ.upd u).bx k = .free)/\∀g,blk vs=D g->(∀o,¬S g o)/\Own w0 refs g/\refs.kw g=M/\g<w.heap.size/\∀k b,(σ.upd u).bx k = .live b->blk (γ k)≠D g:=by
 unfold rowS at h;split at h
 .simp only[jb,jf]at h;obtain⟨rfl,rfl,rfl⟩:=h;have hz:vs = .slice M 0 0:=hs;subst hz;exact⟨[],Õ w 0 e el.size,trivial,af,hR,.refl _ _,λk h=>h,λg hg=>by simp[blk]at hg⟩
 .rename_i k;split at h
  case h_2=>simp at h
  rename_i e' a' m' fw hk;split at h
  case isFalse=>simp at h
  rename_i hc;obtain⟨rfl,rfl⟩:=hc;simp only[jb,jf]at h;obtain⟨rfl,rfl,rfl⟩:=h;have bg:=bc.ok.live hk;have hz:vs=γ k:=hs.2.2 _ bg;subst hz;obtain⟨_,⟨cs,aD,ar,h1⟩,hS⟩:=hR.box k _ bg;refine⟨cs,aD,ar,h1,xM hR bg,?_,?_,λg hg=>⟨hS g hg,?_,hR.kw_live bg hg,iu (hR.box k _ bg) hg,?_⟩⟩
  .intro k' eb;show (σ.setB k .gone).bx k'≠_/\_;by_cases bI:k'=k
   .subst bI;exact⟨by rw[ee];simp,rfl,λb hb=>by have hb:(σ.setB k' .gone).bx k' = .live b:=hb;rw[ee]at hb;simp at hb⟩
   .exact⟨by rw[bQ _ _ bI];exact eb,rfl,λb hb=>by have hb:(σ.setB k .gone).bx k' = .live b:=hb;rw[bQ _ _ bI]at hb;exact⟨b,hb,.refl b⟩⟩
  .intro k' h;show (σ.setB k .gone).bx k'=_;rw[bQ _ _ (by rintro rfl;rw[h]at bg;simp at bg)];exact h
  .rcases hR.own k _ g bg hg with h|h
   .exact h
   .rw[bc.par hk]at h;simp at h
  .intro k' b hb ao;have hb:(σ.setB k .gone).bx k' = .live b:=hb;by_cases bI:k'=k
   .subst bI;rw[ee]at hb;simp at hb
   .rw[bQ _ _ bI]at hb;exact hR.apart k' k _ _ g bI hb bg ao hg
 .simp at h
theorem Xq{P:À}{E:Env}(hT:ca P E.T)(hR:Rel N np S0 w0 refs σ a w S γ){rd rdf:H->BS}(aO:RdOk σ rd)(bc:RdF np σ rdf){t ty:Æ}{ti:TyI}(ht:E.T t=D ti){el:Ty}(bn:ti.ty=D (.list el)){n:H}
  {s x v:Leaf}{u:Ups}{vs vx:G}(h:appN rd rdf ti.elem el n s x=D (v,u))(hs:bj S w γ σ.bx s vs)(hx:bj S w γ σ.bx x vx) :
  ∃z w' γ',(Ì #[t,t] ty #[vs,vx]).run P w = .ok z w'/\Rel N np S0 w0 refs (σ.upd u) a w' S γ'/\bj S w' γ' (σ.upd u).bx v z/\One z:=by
 unfold appN at h;split at h
 case h_2=>simp at h
 rename_i k;split at h
 case h_2=>simp at h
 rename_i e' a' m ls hk;split at h
 case h_2=>simp at h
 rename_i m0 DI u0 xL;split at h
 case isFalse=>simp at h
 rename_i hc;obtain⟨⟨rfl,rfl⟩,fE,ei,gC⟩:=hc;simp only[jb,jf]at h;obtain⟨rfl,rfl⟩:=h;have hn:=aO.free gC;have bg:=bc.ok.live hk;have hz:vx=γ k:=hx.2.2 _ bg;subst hz;obtain⟨bO,⟨cs,aD,ar,h1⟩,OI⟩:=hR.box k _ bg;obtain⟨Xr,AD,oL,Xs,bm,fQ,vC,gD⟩:=Xp hR bc xL hs;have df:(σ.upd u0).bx k = .live (.row ti.elem a' m ls):=(iv u0 σ fE).trans bg;have bS:=xM bm df;have xR:((σ.upd u0).setB k .gone).bx n = .free:=by rw[bQ _ _ (by rintro rfl;rw[hn]at bg;simp at bg)];exact vC n hn
 have dV:BxLe γ σ.bx γ ((σ.upd u0).setB k .gone).bx:=by
  intro k' eb;obtain⟨q1,q2,q3⟩:=fQ k' eb;by_cases bI:k'=k
  .subst bI;exact⟨by rw[ee];simp,rfl,λb hb=>by rw[ee]at hb;simp at hb⟩
  .rw[bQ _ _ bI];exact⟨q1,q2,q3⟩
 obtain⟨ad,c,HP,eI,fP⟩:∃ad c,γ k = .slice ad m c/\(ad=M->m=0/\c=0)/\∀b,ad=D b->∀(j:H)(u:G),cs[j]? = D u->w.cell? (b.add j)=D u:=by
  rcases aD.2 with⟨h2,h3⟩|⟨g,cap,cur,h2,_,hh,_,_,_,dk⟩
  .exact⟨M,0,by rw[h2,h3],λ_=>⟨h3,rfl⟩,λb hb=>by simp at hb⟩
  .exact⟨D ⟨g,0,M⟩,cap,h2,λh=>by simp at h,λb hb j u hu=>by
    simp at hb;subst hb;exact aD.cells (g:=g) (by rw[h2];rfl) j u hu⟩
 obtain⟨v',w',hr,bX,os,tape,output,bW,cB⟩:=OO (ty:=ty) hT ht bn AD (ad:=ad) (m:=m) (c:=c) (news:=cs) eI aD.1 fP h1 (by simp only[aR];omega)
 have fv:∀g,g<w.heap.size->blk v'≠D g->w'.heap[g]? = w.heap[g]? := by
  intro g hg br;rcases cB with⟨_,rfl⟩|⟨h2,_,h3⟩|⟨_,h3⟩
  .rfl
  .exact h3 g (by rw[<-h2];exact br)
  .exact h3 g hg
 have fD:∀g,blk v'=D g->g<w'.heap.size:=λg hg=>by
  rcases bX.2 with⟨h2,_⟩|⟨g2,AA,HQ,h2,_,Xt,_⟩
  .rw[h2]at hg;simp[blk]at hg
  .rw[h2]at hg;simp[blk]at hg;subst hg;exact(jn.1 Xt).1
 have hv:∀g,blk v'=D g->(∀o,¬S g o)/\Own w0 refs g/\refs.kw g=M/\∀k' b,((σ.upd u0).setB k .gone).bx k' = .live b->blk (γ k')≠D g:=by
  intro g hg
  have old:blk vs=D g->(∀o,¬S g o)/\Own w0 refs g/\refs.kw g=M/\∀k' b,((σ.upd u0).setB k .gone).bx k' = .live b->blk (γ k')≠D g:=by
   intro h2;obtain⟨q1,q2,q3,_,q4⟩:=gD g h2;refine⟨q1,q2,q3,λk' b hb=>?_⟩;by_cases bI:k'=k
   .subst bI;rw[ee]at hb;simp at hb
   .rw[bQ _ _ bI]at hb;exact q4 k' b hb
  rcases cB with⟨rfl,_⟩|⟨h2,_,_⟩|⟨h2,_⟩
  .exact old hg
  .exact old (by rw[<-h2];exact hg)
  .rw[hg]at h2;simp at h2;subst h2;exact⟨λo=>xJ hR o,.inl hR.grow,hR.kw_new (jz _),λk' b hb aG=>by have:=iu (bS.box k' b hb) aG;omega⟩
 have aL:db S w S w':=λg o h=>⟨h,Ð (fv g (hR.here g o h) (λhb=>(hv g hb).1 o h))⟩
 obtain⟨cJ,_⟩:=WX bS xR (b:= .row ti.elem a' (m0+m) (DI++ls)) aL fv bW (λg hg=>⟨(hv g hg).2.1,(hv g hg).2.2.2,fD g hg⟩) os tape output (λhle=>by
  have nk:BxLe γ σ.bx (gset γ n v') (((σ.upd u0).setB k .gone).setB n (.live (.row ti.elem a' (m0+m) (DI++ls)))).bx:=λk' eb=>by
   obtain⟨q1,q2,q3⟩:=dV k' eb;obtain⟨p1,p2,p3⟩:=hle k' q1
   exact⟨p1,p2.trans q2,λb' aG=>by
    obtain⟨b1,dg,iN⟩:=p3 b' aG;obtain⟨b2,dM,kC⟩:=q3 b1 dg;exact⟨b2,dM,kC.trans iN⟩⟩
  refine⟨bO,⟨Xr++cs,by rw[dH];exact bX,(oL.append ar).mono (λx u hx=>bj.keep aL nk hx),λu hu=>(jx.1 hu).elim (Xs u) (h1 u)⟩,λg hg o=>?_⟩;rw[dH]at hg;exact(hv g hg).1 o) (λg hg=>(hv g hg).2.2.1)
 have cu:One v':=by rcases bX.2 with⟨h2,_⟩|⟨g2,AA,HQ,h2,_⟩<;>rw[h2]<;>rfl
 refine⟨v',w',gset γ n v',by rw[HP];exact hr,?_,?_,cu⟩
 .rw[gN];exact cJ
 .rw[gN];exact⟨by show (((σ.upd u0).setB k .gone).setB n _).bx n≠_;rw[ee];simp,cu,λb _=>(dH γ n v').symm⟩
theorem Xu(hR:Rel N np S0 w0 refs σ a w S γ){k d e m:H}{el:Ty}{xs:F el.den}(hk:σ.bx k = .live (.lst e el xs U))(mF:parK np k=U)(Au:σ.bx d = .free){ad:Á Addr}{cap:H}(hm:m<=xs.length)
  (hg:γ k = .slice ad xs.length cap) :
  ∃γ',Rel N np S0 w0 refs (σ.upd [(k,.gone),(d,.live (.lst e el (W m xs) U))]) a w S γ'/\bE S w γ' (σ.upd [(k,.gone),(d,.live (.lst e el (W m xs) U))]).bx (.one (.ol d)) (.slice ad m cap):=by
 have qE:d≠k:=by rintro rfl;rw[Au]at hk;simp at hk
 have bO:=Oh hg (hR.box k _ hk);obtain⟨css,aD,ar,hS⟩:=gB bO (hR.box k _ hk);have dq:=All2.all_len ar;have bm:=xM hR hk;have nS:(σ.setB k .gone).bx d = .free:=by rw[bQ σ _ qE];exact Au
 have ay:(W m xs).length=m:=aN;have hblk:blk (.slice ad m cap)=blk (γ k):=by rw[hg];cases ad<;>rfl
 have bX:w.ownsRow 0 e el.size (.slice ad m cap) (W m xs).length (W m css).flatten:=by
  refine⟨?_,?_⟩
  .rw[tj _ dq,ql,aD.1,ay];exact É (kf _ hm)
  .rcases aD.2 with⟨ao,hn⟩|⟨g,fC,cur,ao,_,hh,gm,gl,dR,dk⟩
   .rw[hg]at ao;simp only[Z]at ao;obtain⟨rfl,_,rfl⟩:=ao;exact .inl ⟨by rw[show m=0 by omega],aa⟩
   .rw[hg]at ao;simp only[Z,kn]at ao;obtain⟨rfl,rfl⟩:=ao;refine .inr ⟨g,cap,cur,by rw[ay],ko _,hh,aa,gl,dR,?_⟩;rw[ay,tj _ dq,<-dk,ß,É (kf _ hm)]
 have lS:∀g,blk (.slice ad m cap)=D g->Own w0 refs g/\(∀k' b,(σ.setB k .gone).bx k' = .live b->blk (γ k')≠D g)/\g<w.heap.size:=by
  intro g hg;rw[hblk]at hg;refine⟨?_,λk' b' aG ao=>?_,iu (hR.box k _ hk) hg⟩
  .rcases hR.own k _ g hk hg with h|h
   .exact h
   .rw[mF]at h;simp at h
  .have bI:k'≠k:=by rintro rfl;rw[ee]at aG;simp at aG
   rw[bQ σ _ bI]at aG;exact hR.apart k' k _ _ g bI aG hk ao hg
 obtain⟨cJ,ia⟩:=xN bm nS (hm:=bO) (w':=w) (S':=S) (v':= .slice ad m cap) (e:=e) (el:=el) (zs:=W m xs) (frz:=U) (css:=W m css) (.refl S w) (λg hg br=>rfl) (jz _) lS
  (λg o hs=> .inl hs) rfl rfl rfl bX (ar.take _) (λg hg=>⟨λ_=>(hS g (by rw[<-hblk];exact hg)).1 rfl,af⟩) (λg hg=>hR.kw_live hk (by rw[<-hblk];exact hg))
 exact⟨_,cJ,ia⟩
end
section
variable{N:NT}{np:H}{S0:aM}{w0:Â}{refs:Refs}{σ:St}{a:Þ}{w:Â}{S:aM}{γ:H->G}
theorem Xv{el:Ty}{z:G}(hz:z.cells.toList=iM el)(n:H)(cI:0<el.size) :
  ∃css,All2 (λx c=>Rep S w el x c) (O n el.dflt) css/\((Ï (n*z.cells.size)).map (λi=>z.cells[i%z.cells.size]!)).toList=css.flatten:=by
 refine⟨O n (iM el),?_,?_⟩
 .have hz:=nU (S:=S) (w:=w) el;induction n with
  |zero=>exact trivial
  |succ n ih=>exact⟨hz,ih⟩
 .rw[OS z.cells n (by rw[DY hz];exact cI),hz]
theorem Xw{P:À}{E:Env}(hT:ca P E.T)(hR:Rel N np S0 w0 refs σ a w S γ){rdf:H->BS}(bc:RdF np σ rdf){t:Æ}{ti:TyI}(ht:E.T t=D ti)
  {el:Ty}(bn:ti.ty=D (.list el)){len d:H}{ps:F (H×Cel)}{vs:È (H×G)}{xs:F el.den}{u:Ups}(hlen:len*el.size<=16777216)
  (ib:All2 (λp v=>p.1=v.1/\bE S w γ σ.bx p.2 v.2) ps vs.toList)(h:iJ rdf el (O len el.dflt) [] ps=D (xs,u))(hd:σ.bx d = .free) :
  ∃v' w' S' γ',(Ê t len vs).run P w = .ok v' w'/\Rel N np S0 w0 refs (σ.upd (u++[(d,.live (.lst ti.elem el xs U))])) a w' S' γ'/\
   bE S' w' γ' (σ.upd (u++[(d,.live (.lst ti.elem el xs U))])).bx (.one (.ol d)) v':=by
 obtain⟨nh,cI,te,cF,cf⟩:=lM hT ht bn;have bW:=jY hT cF cf;obtain⟨hf,cU⟩:=HH bc hR.box cI ps vs.toList ib h .nil;obtain⟨S1,bm,cg,dN,dm⟩:=lO u σ S hR hf;obtain⟨z,hz,fX⟩:=uM hT cF w cf;have jS:z.cells.size=el.size:=DY fX;obtain⟨HR,oL,gn⟩:=Xv (S:=S1) (w:=w) fX len cI;obtain⟨bq,jD,eS,ar,cT⟩:=cU S1 cg dN HR _ oL gn
 have nX:xs.length=len:=by
  have key:∀(ps:F (H×Cel)){xs cE:F el.den}{u u':Ups},iJ rdf el xs u ps=D (cE,u')->cE.length=xs.length:=by
   intro ps;induction ps with
   |nil=>intro xs cE u u' h;simp[iJ]at h;rw[h.1]
   |cons p ps ih=>
    intro xs cE u u' h;obtain⟨i,c⟩:=p;simp only[iJ]at h;split at h
    .split at h
     .rw[ih h];simp
     .simp at h
    .simp at h
  rw[key ps h];simp
 have dR:bq.size=len*el.size:=by have:=All2.flatten_length (λx c hx=>Rep.length el x c hx) ar;rw[<-cT,nX]at this;simpa using this
 have hzero:(if len*ti.size=0 then (Pure.pure #[]:Sem (È G)) else (do pure (<-zeroValue ti.elem).cells))=(if len*ti.size=0 then Pure.pure #[] else (do pure (<-zeroValue ti.elem).cells)):=rfl
 have aE:(Ê t len vs).run P w = .ok (.slice (D ⟨w.heap.size,0,M⟩) len len) (w.alloc (.cells bq ti.elem)):=by
  have cX:¬len*te.size>2^24:=by rw[<-bW];omega
  simp only[Ê,J,run_underlying nh,I,gL hT cF,ý,if_neg cX];by_cases h0:len*te.size=0
  .have kE:len=0:=by
    rw[<-bW]at h0;rcases Nat.mul_eq_zero.1 h0 with h|h
    .exact h
    .omega
   subst kE
   have oM:Ñ (λi=>D (i*te.size,te.size)) ((Ï (0*te.size)).map (λi=>(#[]:È G)[i%(#[]:È G).size]!)) vs.toList=D bq:=by
    rw[<-bW];have:((Ï (0*el.size)).map (λi=>(#[]:È G)[i%(#[]:È G).size]!))=((Ï (0*z.cells.size)).map (λi=>z.cells[i%z.cells.size]!)):=by apply kr;simp
    rw[this];exact eS
   rw[Nat.zero_mul]at oM;simp only[h0,if_true,Ã,I,oM,J,newRow,run_newObj,Ô]
  .have vD:Ñ (λi=>D (i*te.size,te.size)) ((Ï (len*te.size)).map (λi=>z.cells[i%z.cells.size]!)) vs.toList=D bq:=by rw[<-bW];rw[jS]at eS ⊢;exact eS
   simp only[h0,z8,J,hz,Ã,I,vD,newRow,run_newObj,Ô]
 rw[gN];have aL:=uR bm (.cells bq ti.elem)
 obtain⟨cJ,ia⟩:=xN bm (dm.free hd) (hm:=Hj hT ht) (w':=w.alloc (.cells bq ti.elem)) (S':=S1) (v':= .slice (D ⟨w.heap.size,0,M⟩) len len) (e:=ti.elem) (el:=el) (zs:=xs) (frz:=U) (css:=jD)
  aL (λg hg _=>heap_alloc_old w _ hg) af (λg hg=>by
   simp[blk]at hg;subst hg;exact⟨.inl hR.grow,λk b hk ao=>by have:=iu (bm.box k b hk) ao;omega,af⟩) (λg o hs=> .inl hs) rfl rfl rfl
  (by
   rw[nX,<-cT];have hle:len<=maxLen:=by have:len*1<=len*el.size:=Nat.mul_le_mul_left _ cI;simp only[maxLen];omega
   exact ú w bq len (ko _) hle dR) (ar.mono (λx c hx=>Rep.keep aL _ _ _ hx)) (λg hg=>by
   simp[blk]at hg;subst hg;exact⟨λ_ o=>xJ bm o,af⟩) (λg hg=>by simp[blk]at hg;subst hg;exact bm.kw_new (jz _))
 exact⟨_,_,S1,_,aE,cJ,ia⟩
theorem Xx{P:À}{E:Env}(hT:ca P E.T)(hR:Rel N np S0 w0 refs σ a w S γ){t:Æ}{ti:TyI}(ht:E.T t=D ti)
  {el:Ty}(bn:ti.ty=D (.list el)){n len:H}{fr:Ö}{ps:F (H×Cel)}{vs:È (H×G)}{b:Ö}{s:Slot}{u:Ups}(hn:fr=Ä->σ.bx n = .free)
  (ib:All2 (λp v=>p.1=v.1/\bE S w γ σ.bx p.2 v.2) ps vs.toList)(h:one1 fr ti.elem el n len ps=D (.val b s u)) :
  b=Ä/\s = .one (.one (.ol n))/\∃v' w' γ',(Ê t len vs).run P w = .ok v' w'/\Rel N np S0 w0 refs (σ.upd u) a w' S γ'/\bE S w' γ' (σ.upd u).bx (.one (.ol n)) v':=by
 unfold one1 at h;split at h
 case h_2=>simp at h
 rename_i c;split at h
 case h_2=>simp at h
 rename_i ls lT;split at h
 case isFalse=>simp at h
 rename_i hc;obtain⟨rfl,xQ,ei,gC,bO⟩:=hc;simp only[jb,Act.val.injEq]at h;obtain⟨rfl,rfl,rfl⟩:=h;refine⟨rfl,rfl,?_⟩
 obtain⟨⟨j,z⟩,gD⟩:∃p,vs.toList=[p]:=by
  match hv:vs.toList,ib with
  |[p],_=>exact⟨p,rfl⟩
 rw[gD]at ib;obtain⟨⟨hj,gg⟩,_⟩:=ib;simp only at hj gg;subst hj;obtain⟨ha,h1⟩:=uS lT gg;have eN:z.cells.toList.length=el.size:=by rw[<-ha.length,xQ]
 have jS:z.cells.size=el.size:=by simpa using eN
 obtain⟨nh,cI,te,cF,cf⟩:=lM hT ht bn;have bW:=jY hT cF cf;obtain⟨z0,oO,fX⟩:=uM hT cF w cf;have Xy:z0.cells.size=el.size:=DY fX;have eS:Ñ (λi=>D (i*te.size,te.size)) ((Ï (1*te.size)).map (λi=>z0.cells[i%z0.cells.size]!)) vs.toList=D z.cells:=by have xP:=HF ((Ï (1*te.size)).map (λi=>z0.cells[i%z0.cells.size]!)) 0 z.cells aN;rw[gD];simp only[Ñ];rw[if_neg aN];congr 1;apply kr;rw[Nat.zero_mul,xP];simp only[List.take_zero,qj];rw[jk aN,zh]
 have aE:(Ê t 1 vs).run P w = .ok (.slice (D ⟨w.heap.size,0,M⟩) 1 1) (w.alloc (.cells z.cells ti.elem)):=by
  have cX:¬1*te.size>2^24:=by rw[<-bW];omega
  have h0:¬1*te.size=0:=aa;simp only[Ê,J,run_underlying nh,I,gL hT cF,ý,if_neg cX];simp only[h0,z8,J,oO,Ã,I,eS,newRow,run_newObj,Ô]
 obtain⟨cJ,_⟩:=DU hR (hn gC) (o:= .cells z.cells ti.elem) (b:= .row ti.elem el 1 ls) (v:= .slice (D ⟨w.heap.size,0,M⟩) 1 1) (λg hg=>by simp[blk]at hg;exact hg.symm) (λhle=>
  ⟨bO,⟨z.cells.toList,by rw[dH];exact ú w z.cells 1 (ko _) (by simp[maxLen]) (by rw[jS,ü]),ha.mono (λx u hx=>bj.keep (uR hR _) hle hx),h1⟩,
   λg hg o=>by rw[dH]at hg;simp[blk]at hg;subst hg;exact xJ hR o⟩)
 refine⟨_,_,_,aE,cJ,⟨by show (σ.setB n _).bx n≠_;rw[ee];simp,rfl,λb' aG=>(dH _ _ _).symm⟩,λ_=>rfl⟩
theorem vE{rd:H->BS}(aO:RdF np σ rd):∀{ls:F Leaf}{xs:F TV}{u:Ups}{zs:F G},tvs rd ls=D (xs,u)->All2 (bj S w γ σ.bx) ls zs->
  FrzL np σ.bx u/\∀S' w',db S w S' w'->Froz σ.bx γ S' w' u->All2 (λx z=>Rep S' w' x.t x.v [z]) xs zs
 |[],xs,u,zs,h,ha=>by
  simp[tvs]at h;obtain⟨rfl,rfl⟩:=h;cases zs with
  |nil=>exact⟨.nil,λ_ _ _ _=>trivial⟩
  |cons _ _=>exact ha.elim
 |l::ls,xs,u,zs,h,ha=>by
  cases zs with
  |nil=>exact ha.elim
  |cons z zs=>
   simp only[tvs]at h;split at h
   .rename_i D0 u1 h1;obtain⟨f1,p1⟩:=vE aO h1 ha.2;split at h
    .rename_i t v;simp only[jb,jf]at h;obtain⟨rfl,rfl⟩:=h;exact⟨f1,λS' w' hk hf=>⟨Rep.keep hk _ _ _ ha.1,p1 S' w' hk hf⟩⟩
    .rename_i k;split at h
     .rename_i e t es f hk;simp only[jb,jf]at h;obtain⟨rfl,rfl⟩:=h;have bg:=aO.ok.live hk;refine⟨λx hx=>?_,λS' w' aL hf=>⟨?_,p1 S' w' aL (λx hx=>hf x (z6 _ hx))⟩⟩
      .rcases jm.1 hx with rfl|hx
       .exact⟨aO.par hk,e,t,es,f,bg,rfl,aO.ok.nm hk⟩
       .exact f1 x hx
      .have:=hf (k,_) (vi ..) e t es f bg;rw[ha.1.2.2 _ bg];exact this
     .simp at h
    .simp at h
   .simp at h
theorem O3(hR:Rel N np S0 w0 refs σ a w S γ){k:H}{ls:F Leaf}{f:Ö}(hk:σ.bx k = .live (.cell ls f))(hp:parK np k=U){xs:F TV}
  (hx:∀g cur e,γ k = .pointer (D ⟨g,0,M⟩)->w.heap[g]? = D (.cells cur e (0,0))->All2 (bj S w γ σ.bx) ls (cur.toList.take ls.length)->All2 (λx z=>Rep S w x.t x.v [z]) xs (cur.toList.take ls.length)) :
  ∃S' g,Rel N np S0 w0 refs (σ.setB k (.live (.cell (xs.map TV.leaf) Ä))) a w S' γ/\db S w S' w/\γ k = .pointer (D ⟨g,0,M⟩)/\iq S' w (.p xs) (.pointer (D ⟨g,0,M⟩)):=by
 obtain⟨g,cur,e,hg,hh,dF,h1,OM,hS2⟩:=hR.box k _ hk;have fj:=hx g cur e hg hh dF;let S':aM:=λg' o=>S g' o\/(g'=g/\o<cur.size)
 have aL:db S w S' w:=λg o h=>⟨.inl h,rfl⟩
 have hle:BxLe γ σ.bx γ (σ.setB k (.live (.cell (xs.map TV.leaf) Ä))).bx:=by
  intro k' bg;by_cases bI:k'=k
  .subst bI;rw[ee];exact⟨af,rfl,λb hb=>by simp at hb;subst hb;exact⟨_,hk,trivial⟩⟩
  .rw[bQ σ _ bI];exact⟨bg,rfl,λb hb=>⟨b,hb,.refl b⟩⟩
 have bF:∀k' b,(σ.setB k (.live (.cell (xs.map TV.leaf) Ä))).bx k' = .live b->∃b',σ.bx k' = .live b':=by
  intro k' b hb;by_cases bI:k'=k
  .subst bI;exact⟨_,hk⟩
  .rw[bQ σ _ bI]at hb;exact⟨b,hb⟩
 refine⟨S',g,Rel.step (bx':=(σ.setB k (.live (.cell (xs.map TV.leaf) Ä))).bx) hR aL hle ?_ ?_ ?_ ?_ ?_ hR.below hR.grow hR.os hR.tape hR.output (λg _ _ h=>⟨rfl,λk' b' aG=>by obtain⟨b2,dM⟩:=bF k' b' aG;exact h k' b2 dM⟩),aL,hg,?_⟩
 .intro k' b hb;by_cases bI:k'=k
  .subst bI;rw[ee]at hb;simp at hb;subst hb;have hl:=DO dF fj;exact⟨g,cur,e,hg,hh,by rw[zi,hl];exact oz (fj.mono (λx z hz=>Rep.keep aL _ _ _ hz)),by rw[zi,hl];exact h1,af,λ_ o ho=> .inr ⟨rfl,ho⟩⟩
  .rw[bQ σ _ bI]at hb;refine dQ.keep aL hle rfl (λg' ao=>⟨rfl,λo=>⟨λhs=>?_,.inl⟩⟩) (hR.box k' b hb);rcases hs with hs|hs
   .exact hs
   .exact absurd (by rw[hg,hs.1];rfl) (hR.apart k' k b _ g' bI hb hk ao)
 .intro k' b g' hb ao;obtain⟨b',aG⟩:=bF k' b hb;exact hR.own k' b' g' aG ao
 .intro k1 k2 b1 b2 g' br h1 h2 ao;obtain⟨rm,kB⟩:=bF k1 b1 h1;obtain⟨rq,jA⟩:=bF k2 b2 h2;exact hR.apart k1 k2 rm rq g' br kB jA ao
 .intro g' o hs;rcases hs with hs|hs
  .exact hR.new g' o hs
  .rcases hR.own k _ g hk (by rw[hg];rfl) with h|h
   .refine .inr ?_;have:g'=g:=aa;rw[this];exact h
   .rw[hp]at h;simp at h
 .intro g' o hs;rcases hs with hs|hs
  .exact hR.here g' o hs
  .rw[hs.1];exact(jn.1 hh).1
 .refine⟨g,0,cur.toList.take ls.length,rfl,fj.mono (λx z hz=>Rep.keep aL _ _ _ hz),λj v hv=>?_⟩
  have hv:cur.toList[j]? = D v:=by
   rw[qp]at hv;split at hv
   .exact hv
   .simp at hv
  have hj:j<cur.size:=by simpa using (jt.1 hv).1
  rw[ke];refine⟨.inr ⟨rfl,hj⟩,?_⟩;rw[cell_of_row w g j cur e (0,0) hh];simpa using hv
theorem O4{rd:H->BS}(aO:RdF np σ rd):∀{cs:F Cel}{l:F Cap}{u:Ups}{zs:F G},sJ rd cs=D (l,u)->Rel N np S0 w0 refs σ a w S γ->All2 (bE S w γ σ.bx) cs zs->
  ∃S',Rel N np S0 w0 refs (σ.upd u) a w S' γ/\db S w S' w/\All2 (iq S' w) l zs/\(∀k e t xs f,σ.bx k = .live (.lst e t xs f)->∃f',(σ.upd u).bx k = .live (.lst e t xs f'))/\BxLe γ σ.bx γ (σ.upd u).bx/\∀k,σ.bx k = .free->(σ.upd u).bx k = .free
 |[],l,u,zs,h,hR,ha=>by
  simp[sJ]at h;obtain⟨rfl,rfl⟩:=h;cases zs with
  |nil=>exact⟨S,hR,.refl S w,trivial,λk e t xs f h=>⟨f,h⟩,.refl _ _,λ_ h=>h⟩
  |cons _ _=>exact ha.elim
 |c::r,l,u,zs,h,hR,ha=>by
  cases zs with
  |nil=>exact ha.elim
  |cons z zs=>
   simp only[sJ]at h;split at h
   .rename_i l1 u1 h1;obtain⟨S1,bm,cg,eg,kD,fQ,AE⟩:=O4 aO h1 hR ha.2;split at h
    .rename_i t v;split at h
     .rename_i dW;simp only[jb,jf]at h;obtain⟨rfl,rfl⟩:=h;exact⟨S1,bm,cg,⟨⟨dW,Rep.keep cg _ _ _ ha.1.1⟩,eg⟩,kD,fQ,AE⟩
     .simp at h
    .rename_i k;split at h
     .rename_i ls f hk;split at h
      .rename_i xs u2 h2;split at h
       .simp at h
       .rename_i fE;simp only[jb,jf]at h;obtain⟨rfl,rfl⟩:=h;have mF:=aO.par hk;have hk:=aO.ok.live hk;have fE:(u1++u2).any (λy=>y.1==k)=false:=qc.2 fE;rw[ì,zw]at fE;obtain⟨g,cur,e,hg,hh,dF,_⟩:=hR.box k _ hk;obtain⟨oE,DR⟩:=vE aO h2 dF;have HS:FrzL np (σ.upd u1).bx u2:=by intro x hx;obtain⟨xS,e',t',cE,f',aG,nT⟩:=oE x hx;obtain⟨f2,h2⟩:=kD _ e' t' cE f' aG;exact⟨xS,e',t',cE,f2,h2,nT⟩
        obtain⟨S2,bS,cS,oP,lU⟩:=lO u2 (σ.upd u1) S1 bm HS;have AF:Froz σ.bx γ S2 w u2:=by intro x hx e' t' cE f' aG;obtain⟨f2,h2⟩:=kD _ e' t' cE f' aG;exact oP x hx e' t' cE f2 h2
        have eb:((σ.upd u1).upd u2).bx k = .live (.cell ls f):=by rw[iv u2 _ fE.2,iv u1 _ fE.1,hk]
        obtain⟨S3,g3,eV,AG,AH,ej⟩:=O3 bS eb mF (xs:=xs) (λg' vF e' ao sX _=>by
         rw[hg]at ao;simp at ao;subst ao;rw[hh]at sX;simp at sX;obtain⟨rfl,_⟩:=sX;exact DR S2 w (cg.trans cS) AF)
        have hz:z=γ k:=by obtain⟨g4,h4,h5⟩:=ha.1.1.2.2 _ hk;rw[h5,h4]
        rw[gN,gN];refine⟨S3,eV,(cg.trans cS).trans AG,⟨by rw[hz,AH];exact ej,eg.mono (λx z hx=>iq.keep (cS.trans AG) hx)⟩,λk' e' t' cE f' aG=>?_,?_,λk' bg=>?_⟩
        .obtain⟨f2,h2⟩:=kD _ e' t' cE f' aG;obtain⟨f3,h3⟩:=lU.lst h2;have bI:k'≠k:=by rintro rfl;rw[eb]at h3;simp at h3
         exact⟨f3,by show (((σ.upd u1).upd u2).setB k _).bx k'=_;rw[bQ _ _ bI];exact h3⟩
        .have dV:BxLe γ (σ.upd u1).bx γ ((σ.upd u1).upd u2).bx:=lU.le
         have nk:BxLe γ ((σ.upd u1).upd u2).bx γ ((((σ.upd u1).upd u2)).setB k (.live (.cell (xs.map TV.leaf) Ä))).bx:=by
          intro k' bg;by_cases bI:k'=k
          .subst bI;rw[ee];exact⟨af,rfl,λb hb=>by simp at hb;subst hb;exact⟨_,eb,trivial⟩⟩
          .rw[bQ _ _ bI];exact⟨bg,rfl,λb hb=>⟨b,hb,.refl b⟩⟩
         have tr:∀{b1 b2 b3:H->BS},BxLe γ b1 γ b2->BxLe γ b2 γ b3->BxLe γ b1 γ b3:=by intro b1 b2 b3 nn Xz k' bg;obtain⟨q1,q2,q3⟩:=nn k' bg;obtain⟨r1,r2,r3⟩:=Xz k' q1;refine⟨r1,rfl,λb hb=>?_⟩;obtain⟨b',aG,eU⟩:=r3 b hb;obtain⟨AJ,oQ,oT⟩:=q3 b' aG;refine⟨AJ,oQ,?_⟩;exact oT.trans eU
         exact tr (tr fQ dV) nk
        .have h3:=lU.free (AE k' bg);have bI:k'≠k:=by rintro rfl;rw[hk]at bg;simp at bg
         show (((σ.upd u1).upd u2).setB k _).bx k'=_;rw[bQ _ _ bI];exact h3
      .simp at h
     .simp at h
    .simp at h
   .simp at h
theorem O5:∀{cs:F Cel}{ks:F H}{zs:F G},zE cs=D ks->All2 (bE S w γ σ.bx) cs zs->All2 (zX γ σ.bx) ks zs
 |[],ks,zs,h,ha=>by
  simp[zE]at h;subst h;cases zs with
  |nil=>trivial
  |cons _ _=>exact ha.elim
 |c::r,ks,zs,h,ha=>by
  cases zs with
  |nil=>exact ha.elim
  |cons z zs=>
   unfold zE at h;split at h
   .rename_i h0;simp at h0
   .rename_i k r' h0;simp only[List.cons.injEq]at h0;obtain⟨rfl,rfl⟩:=h0;split at h
    .rename_i Hd hk;simp only[jb]at h;subst h;obtain⟨⟨h1,h2,h3⟩,_⟩:=ha.1;exact⟨⟨h1,h2,h3⟩,O5 hk ha.2⟩
    .simp at h
   .simp at h
theorem O6:∀{ks:F H}{zs:F G},All2 (zX γ σ.bx) ks zs->All2 (bE S w γ σ.bx) (ks.map λk=> .one (.bp k 0)) zs
 |[],[],_=>trivial
 |k::ks,z::zs,h=>⟨⟨h.1,λ_=>h.1.2.1⟩,O6 h.2⟩
 |[],_::_,h=>h.elim
 |_::_,[],h=>h.elim
end
section
variable(S:aM)(w:Â)
def AK(ls:F TV)(u:G):Prop:=
 ∃g cur e,u = .pointer (D ⟨g,0,M⟩)/\w.heap[g]? = D (.cells cur e (0,0))/\All2 (λx z=>Rep S w x.t x.v [z]) ls (cur.toList.take ls.length)/\∀o,¬S g o
def tx(e:H)(x:TV)(u:G):Prop:=
 ∃(a:Ty)(xs:F a.den),x=⟨.list a,xs⟩/\ow S w e a xs u/\∀g,blk u=D g->∀o,¬S g o
def nr:Arg->G->Prop
 |.v x,u=>VRep S w x u
 |.ref ls,u=>AK S w ls u
 |.rl e x,u=>tx S w e x u
 |.ip ls,u=>∃g o cs,u = .pointer (D ⟨g,o,M⟩)/\All2 (λx z=>Rep S w x.t x.v [z]) ls cs/\Lies S w g o cs
 |.clo f caps,u=>∃cv:È G,u = .func (.func f) #[] cv/\All2 (iq S w) caps cv.toList
 |.mv e x,u=>tx S w e x u/\isM e=U
def jT:Arg->G->Á H
 |.ref _,u=>blk u
 |.rl _ _,u=>blk u
 |.mv _ _,u=>blk u
 |_,_=>M
def dI:F Arg->F G->F H
 |a::as,u::us=>(jT a u).toList++dI as us
 |_,_=>[]
def mvOf:F Arg->F G->F H
 |.mv _ _::as,u::us=>(blk u).toList++mvOf as us
 |_::as,_::us=>mvOf as us
 |_,_=>[]
def D1:RL->G->Prop
 |.d x,z=>One z/\Rep S w x.t x.v [z]
 |.own e x,z=>tx S w e x z
def nY:RV->G->Prop
 |.v x,u=>VRep S w x u
 |.own e x,u=>tx S w e x u
 |.box ls,u=>AK S w ls u
 |.hd _,u=>One u
 |.clo f caps,u=>∃cv:È G,u = .func (.func f) #[] cv/\All2 (iq S w) caps cv.toList
 |.so ls,u=>∃cs:È G,u = .agg cs/\All2 (D1 S w) ls cs.toList
 |.raw _ _,_=>True
 |.vn x ns,u=>VRep S w x u/\∀cs,u = .agg cs->∀i∈ns,∀z,cs.toList[i]? = D z->z = .slice M 0 0
def lx:RV->G->Á H
 |.v _,_=>M
 |.hd _,_=>M
 |.vn _ _,_=>M
 |.clo _ _,_=>M
 |.so _,_=>M
 |.raw _ _,_=>M
 |_,u=>blk u
def mI:F RL->F G->F H
 |.own _ _::ls,z::zs=>(blk z).toList++mI ls zs
 |.d _::ls,_::zs=>mI ls zs
 |_,_=>[]
def jG:RV->G->F H
 |.so ls,u=>mI ls u.cells.toList
 |r,u=>(lx r u).toList
def gr:F RV->F G->F H
 |r::rs,u::us=>jG r u++gr rs us
 |_,_=>[]
def jH:F Arg->F G->F Out->Prop
 |[],[],[]=>True
 |.ref _::as,u::us,.ref ys::os=>AK S w ys u/\jH as us os
 |.rl e x::as,u::us,.rl y::os=>tx S w e y u/\y.t=x.t/\jH as us os
 |.v _::as,_::us,os=>jH as us os
 |.ip _::as,_::us,os=>jH as us os
 |.clo _ _::as,_::us,os=>jH as us os
 |.mv _ _::as,_::us,os=>jH as us os
 |_,_,_=>False
end
def kH(vs:F G):Value:=match vs with
 |[v]=>v
 |vs=> .tuple vs.toArray
def D2:F Arg->F G->Á G
 |.ref _::_,u::_=>D u
 |.rl _ _::_,u::_=>D u
 |_::as,_::us=>D2 as us
 |_,_=>M
def emp:St:=⟨λ_=> .one (.one .dead),λ_=> .free⟩
def HT(h0:H)(S:aM)(w:Â)(ns:F H)(s:Snap)(v:G):Prop:=
 ∃γ zs,v=kH zs/\All2 (bE S w γ (emp.upd (rawU ns s)).bx) (rawC ns s) zs/\(∀k b,(emp.upd (rawU ns s)).bx k = .live b->dQ S w γ (emp.upd (rawU ns s)).bx k b)/\
  (∀k b g,(emp.upd (rawU ns s)).bx k = .live b->blk (γ k)=D g->h0<=g)/\
  ∀k k' b b' g,k≠k'->(emp.upd (rawU ns s)).bx k = .live b->(emp.upd (rawU ns s)).bx k' = .live b'->blk (γ k)=D g->blk (γ k')≠D g
structure D3(w:Â)(S:aM)(args:F Arg)(vals:F G)(ret:Ret)(v:G)(w':Â)(S':aM)(vs:F G):Prop where
 val:v=kH vs
 rep:All2 (nY S' w') ret.vals vs
 fresh:∀g∈gr ret.vals vs,w.heap.size<=g\/g∈mvOf args vals
 apart:(gr ret.vals vs).Nodup
 outs:jH S' w' args vals ret.outs
 stays:db S w S' w'
 new:∀g o,S' g o->S g o\/w.heap.size<=g\/g∈mvOf args vals
 here:∀g o,S' g o->g<w'.heap.size
 below:∀g,g<w.heap.size->g∉dI args vals->w'.heap[g]? = w.heap[g]?
 grow:w.heap.size<=w'.heap.size
 os:w'.os=w.os
 tape:w'.tape=w.tape
 output:w'.output=w.output
 raw:∀ns s,ret.vals=[.raw ns s]->HT w.heap.size S' w' ns s v
 head:∀m,ret.vals=[.hd m]->∃ad len cap,D2 args vals=D (.slice ad len cap)/\m<=len/\vs=[.slice ad m cap]
def D4(P:À)(f:H)(args:F Arg)(K:Ret->Prop):Prop:=
 ∀(w:Â)(S:aM)(vals:F G),All2 (nr S w) args vals->(dI args vals).Nodup->(∀g o,S g o->g<w.heap.size)->
  Calls P f vals.toArray w λe w'=>∃ret,K ret/\∃v S' vs,e = .returned v/\D3 w S args vals ret v w' S' vs
def Fun(P:À)(f:H):Prop:=
 ∃ fn, P.funcs[f]? = D fn ∧ fn.body.isNone = U ∧ (fn.name == "runtime.NumGoroutine") = U
def FnOK(P:À)(f:H)(c:F Arg->(R:Type)->(Ret->Á R)->Á R):Prop:=
 ∀(args:F Arg)(R:Type)(k:Ret->Á R)(r:R),c args R k=D r->Fun P f/\D4 P f args λret=>k ret=D r
def iQ(P:À)(C:H->F Arg->(R:Type)->(Ret->Á R)->Á R):Prop:=∀f,FnOK P f (C f)
section
variable{N:NT}{np:H}{S0:aM}{w0:Â}{refs:Refs}{σ:St}{a:Þ}{w:Â}{S:aM}{γ:H->G}
theorem rD{S':aM}{w':Â}:∀(t:Ty)(v:t.den)(cs:F G),t.flat=Ä->Rep S w t v cs->Rep S' w' t v cs
 |.int _,_,_,_,h=>h
 |.bool,_,_,_,h=>h
 |.str,_,_,_,h=>h
 |.unit,_,_,_,h=>h
 |.wrap a,v,cs,hf,h=>rD a v cs hf h
 |.pair a b,_,_,hf,⟨c1,c2,e,h1,h2⟩=>by
  simp only[Ty.flat,jh]at hf;exact⟨c1,c2,e,rD a _ _ hf.1 h1,rD b _ _ hf.2 h2⟩
 |.list _,_,_,hf,_=>by simp[Ty.flat]at hf
 |.arr _ a,_,_,hf,⟨hn,css,ha,e⟩=>⟨hn,css,ha.mono (λx c hx=>rD a x c hf hx),e⟩
def fM(bx:H->BS)(γ:H->G):F Arg->F G->F Bk->Prop
 |[],[],[]=>True
 |.ref ls::as,u::us,.ref k::fs=>u=γ k/\(∃fw,bx k = .live (.cell fw U))/\fM bx γ as us fs
 |.rl e x::as,u::us,.rl k e' t::fs=>e=e'/\u=γ k/\(∃xs,bx k = .live (.lst e t xs U)/\x=⟨.list t,xs⟩)/\fM bx γ as us fs
 |.v _::as,_::us,fs=>fM bx γ as us fs
 |.ip _::as,_::us,fs=>fM bx γ as us fs
 |.clo _ _::as,_::us,fs=>fM bx γ as us fs
 |.mv e x::as,u::us,.mv k e' t::fs=>e=e'/\u=γ k/\(∃xs,bx k = .live (.lst e t xs U)/\x=⟨.list t,xs⟩)/\fM bx γ as us fs
 |_,_,_=>False
theorem XA{rd rdf:H->BS}(hR:Rel N np S0 w0 refs σ a w S γ)(aO:RdR σ rd)(bc:RdF np σ rdf){t:Á TyI}{mv rl:Ö}{c:Cel}{arg:Arg}{u:Ups}{f:Á Bk}{z:G}
  (h:sK rd rdf t mv rl c=D (arg,u,f))(hc:bE S w γ σ.bx c z) :
  FrzL np σ.bx u/\fM σ.bx γ [arg] [z] f.toList/\∀S',db S w S' w->Froz σ.bx γ S' w u->(∀k b,f.toList.any (λy=>y.name==k)=Ä->σ.bx k = .live b->∀g,blk (γ k)=D g->∀o,¬S' g o)->nr S' w arg z:=by
 unfold sK at h;split at h
 .rename_i k;split at h
  .rename_i ls hk;split at h
   .rename_i xs u1 h1;simp only[jb,jf]at h;obtain⟨rfl,rfl,rfl⟩:=h;have hk:=aO.live hk;obtain⟨g,hg,hz⟩:=hc.1.2.2 _ hk;obtain⟨g',cur,e,ao,hh,dF,_,_,hS⟩:=hR.box k _ hk;rw[hg]at ao;simp at ao;subst ao;obtain⟨hf,hp⟩:=vE bc h1 dF;refine⟨hf,trivial,λS' aL dN _=>⟨g,0,cur.toList.take ls.length,hz,hp S' w aL dN,λj v hv=>?_⟩⟩
    have hv:cur.toList[j]? = D v:=by
     rw[qp]at hv;split at hv
     .exact hv
     .simp at hv
    have hj:j<cur.size:=by simpa using (jt.1 hv).1
    rw[ke];refine⟨(aL _ _ (hS rfl j hj)).1,?_⟩;rw[cell_of_row w g j cur e (0,0) hh];simpa using hv
   .simp at h
  .rename_i ls hk;split at h
   .rename_i xs u1 h1;simp only[jb,jf]at h;obtain⟨rfl,rfl,rfl⟩:=h;have hk:=aO.live hk;obtain⟨g,hg,hz⟩:=hc.1.2.2 _ hk;obtain⟨g',cur,e,ao,hh,dF,_⟩:=hR.box k _ hk;rw[hg]at ao;simp at ao;subst ao;obtain⟨hf,hp⟩:=vE bc h1 dF;refine⟨hf,⟨hz.trans hg.symm,⟨ls,hk⟩,trivial⟩,λS' aL dN hn=>⟨g,cur,e,hz,hh,by rw[DO dF (hp S' w aL dN)];exact hp S' w aL dN,?_⟩⟩;exact hn k _ (by simp[Bk.name]) hk g (by rw[hg];rfl)
   .simp at h
  .simp at h
 .simp only[jb,jf]at h;obtain⟨rfl,rfl,rfl⟩:=h;refine⟨.nil,trivial,λS' aL _ _=>?_⟩;obtain⟨g,o,cs,hz,ha,hl⟩:=hc.1;exact⟨g,o,cs,hz,ha.mono (λx z hx=>Rep.keep aL _ _ _ hx),hl.keep aL⟩
 .simp only[jb,jf]at h;obtain⟨rfl,rfl,rfl⟩:=h;refine⟨.nil,trivial,λS' aL _ _=>?_⟩;obtain⟨cv,hz,ha⟩:=hc.1;exact⟨cv,hz,ha.mono (λx z hx=>iq.keep aL hx)⟩
 .rename_i k;split at h
  .cases mv with
   |true=>
    rw[jc]at h;split at h
    .rename_i e t xs hk;simp only[jb,jf]at h;obtain⟨rfl,rfl,rfl⟩:=h;have bO:=bc.ok.nm hk;have hk:=bc.ok.live hk;have hz:=hc.1.2.2 _ hk;refine⟨.nil,⟨rfl,hz,⟨xs,hk,rfl⟩,trivial⟩,λS' aL _ hn=>?_⟩;have eu:=(hR.box k _ hk).1;exact⟨⟨t,xs,rfl,by rw[hz];exact eu.keep aL (λ_ _=>rfl),λg hg=>hn k _ (by simp[Bk.name]) hk g (by rw[<-hz];exact hg)⟩,bO⟩
    .simp at h
   |false=>
   rw[jd]at h;split at h
   .rename_i e t xs hk;simp only[jb,jf]at h;obtain⟨rfl,rfl,rfl⟩:=h;have hk:=aO.live hk;have hz:=hc.1.2.2 _ hk;refine⟨.nil,⟨rfl,hz,⟨xs,hk,rfl⟩,trivial⟩,λS' aL _ hn=>?_⟩;have eu:=(hR.box k _ hk).1;exact⟨t,xs,rfl,by rw[hz];exact eu.keep aL (λ_ _=>rfl),λg hg=>hn k _ (by simp[Bk.name]) hk g (by rw[<-hz];exact hg)⟩
   .simp at h
  .split at h
   .rename_i e t xs fz hk;simp only[jb,jf]at h;obtain⟨rfl,rfl,rfl⟩:=h;have mF:=bc.par hk;have bO:=bc.ok.nm hk;have hk:=bc.ok.live hk;have hz:=hc.1.2.2 _ hk;refine⟨λx hx=>?_,trivial,λS' aL dN _=>?_⟩
    .have:=kz.1 hx;subst this;exact⟨mF,e,t,xs,fz,hk,rfl,bO⟩
    .have h1:One z:=hc.2 af;have:=dN (k,_) (kz.2 rfl) e t xs fz hk;rw[<-hz]at this;exact⟨by rw[xI h1];exact this,by simp[gK,Ty.agg],λ_=>h1⟩
   .simp at h
 .split at h
  .split at h
   .rename_i ty bn;split at h
    .rename_i x u1 hx;simp only[jb,jf]at h;obtain⟨rfl,rfl,rfl⟩:=h;obtain⟨hf,hp,_⟩:=Ag bc hR.box hx hc;exact⟨hf,trivial,λS' aL dN _=>hp S' w aL dN⟩
    .simp at h
   .simp at h
  .simp at h
theorem fM.app{bx:H->BS}{arg:Arg}{z:G}{f:F Bk}:fM bx γ [arg] [z] f->∀{as:F Arg}{us:F G}{fs:F Bk},fM bx γ as us fs->fM bx γ (arg::as) (z::us) (f++fs):=by
 intro h as us fs h';cases arg with
 |v x=>cases f with|nil=>exact h'|cons _ _=>exact h.elim
 |ip x=>cases f with|nil=>exact h'|cons _ _=>exact h.elim
 |clo x y=>cases f with|nil=>exact h'|cons _ _=>exact h.elim
 |ref ls=>
  match f,h with
  |[.ref k],⟨h1,h2,_⟩=>exact⟨h1,h2,h'⟩
  |.ref k::_::_,⟨_,_,h3⟩=>exact h3.elim
 |rl e x=>
  match f,h with
  |[.rl k e' t],⟨h0,h1,h2,_⟩=>exact⟨h0,h1,h2,h'⟩
  |.rl k e' t::_::_,⟨_,_,_,h3⟩=>exact h3.elim
 |mv e x=>
  match f,h with
  |[.mv k e' t],⟨h0,h1,h2,_⟩=>exact⟨h0,h1,h2,h'⟩
  |.mv k e' t::_::_,⟨_,_,_,h3⟩=>exact h3.elim
theorem O7{rd rdf:H->BS}(hR:Rel N np S0 w0 refs σ a w S γ)(aO:RdR σ rd)(bc:RdF np σ rdf){T:H->Á TyI}{mv:Ö}:∀{cs:F Cel}{ts:F H}{ms:F Ö}{as:F Arg}{u:Ups}{fs:F Bk}{zs:F G},
  mY rd rdf T mv ts ms cs=D (as,u,fs)->All2 (bE S w γ σ.bx) cs zs->
  FrzL np σ.bx u/\fM σ.bx γ as zs fs/\∀S',db S w S' w->Froz σ.bx γ S' w u->(∀k b,fs.any (λy=>y.name==k)=Ä->σ.bx k = .live b->∀g,blk (γ k)=D g->∀o,¬S' g o)->All2 (nr S' w) as zs
 |[],ts,ms,as,u,fs,zs,h,ha=>by
  simp[mY]at h;obtain⟨rfl,rfl,rfl⟩:=h;cases zs with
  |nil=>exact⟨.nil,trivial,λ_ _ _ _=>trivial⟩
  |cons _ _=>exact ha.elim
 |c::cs,ts,ms,as,u,fs,zs,h,ha=>by
  cases zs with
  |nil=>exact ha.elim
  |cons z zs=>
   simp only[mY]at h;split at h
   .rename_i a1 u1 f1 h1;split at h
    .rename_i DN HU O8 h2;simp only[jb,jf]at h;obtain⟨rfl,rfl,rfl⟩:=h;obtain⟨p1,q1,r1⟩:=XA hR aO bc h1 ha.1;obtain⟨p2,q2,r2⟩:=O7 hR aO bc h2 ha.2;refine⟨FrzL.app.2 ⟨p1,p2⟩,q1.app q2,λS' aL dN hn=>?_⟩;obtain⟨z1,z2⟩:=Froz.app.1 dN;exact⟨r1 S' aL z1 (λk b hk=>hn k b (by rw[ì,hk];rfl)),r2 S' aL z2 (λk b hk=>hn k b (by rw[ì,hk];simp))⟩
    .simp at h
   .simp at h
theorem O9:∀{cs:F Cap}{zs:F G},All2 (iq S w) cs zs->All2 (nr S w) (cs.map mZ) zs
 |[],[],_=>trivial
 |c::cs,z::zs,h=>by
  refine⟨?_,O9 h.2⟩;cases c with
  |v x=>obtain⟨hl,hr⟩:=h.1;have h1:One z:=Rep.one _ _ _ hr z af;refine⟨by rw[xI h1];exact hr,λhm=>?_,λ_=>h1⟩;exfalso;obtain⟨t,v⟩:=x;cases t<;>simp_all[Ty.leafy,gK,Ty.agg]
  |p ls=>exact h.1
 |[],_::_,h=>h.elim
 |_::_,[],h=>h.elim
theorem Pa:∀(cs:F Cap)(zs:F G),dI (cs.map mZ) zs=[]
 |[],_=>by cases ‹F G› <;> rfl
 |c::cs,[]=>rfl
 |c::cs,z::zs=>by cases c<;>simp[dI,jT,mZ,Pa cs zs]
theorem Pb:∀(as:F Arg)(us:F G)(bs:F Arg)(vs:F G),as.length=us.length->dI (as++bs) (us++vs)=dI as us++dI bs vs
 |[],[],bs,vs,_=>rfl
 |a::as,u::us,bs,vs,h=>by simp[dI,Pb as us bs vs (by simpa using h)]
 |[],_::_,_,_,h=>by simp at h
 |_::_,[],_,_,h=>by simp at h
theorem tz{bx:H->BS}:∀{as:F Arg}{us:F G}{fs:F Bk},fM bx γ as us fs->dI as us=fs.filterMap λf=>blk (γ f.name)
 |[],[],[],_=>rfl
 |.ref ls::as,u::us,.ref k::fs,⟨h1,_,h3⟩=>by
  simp only[dI,jT,zm,Bk.name,h1,tz h3];cases blk (γ k)<;>rfl
 |.rl e x::as,u::us,.rl k e' t::fs,⟨_,h1,_,h3⟩=>by
  simp only[dI,jT,zm,Bk.name,h1,tz h3];cases blk (γ k)<;>rfl
 |.mv e x::as,u::us,.mv k e' t::fs,⟨_,h1,_,h3⟩=>by
  simp only[dI,jT,zm,Bk.name,h1,tz h3];cases blk (γ k)<;>rfl
 |.v _::as,_::us,fs,h=>by simp[dI,jT,tz (as:=as) (us:=us) (fs:=fs) h]
 |.ip _::as,_::us,fs,h=>by simp[dI,jT,tz (as:=as) (us:=us) (fs:=fs) h]
 |.clo _ _::as,_::us,fs,h=>by simp[dI,jT,tz (as:=as) (us:=us) (fs:=fs) h]
theorem Pc:∀{as:F Arg}{us:F G}{g:H},g∈mvOf as us->g∈dI as us
 |[],_,g,h=>by simp[mvOf]at h
 |_::_,[],g,h=>by rename_i a _;cases a<;>simp[mvOf]at h
 |a::as,u::us,g,h=>by
  have ih:=Pc (as:=as) (us:=us) (g:=g);cases a with
  |mv e x=>simp only[mvOf,dI,jT,jx]at h ⊢;exact h.imp id ih
  |_=>simp only[mvOf]at h;simp only[dI,jx];exact .inr (ih h)
theorem tA{bx:H->BS}:∀{as:F Arg}{us:F G}{fs:F Bk}{g:H},fM bx γ as us fs->g∈mvOf as us->∃f∈fs,f.isMv=Ä/\blk (γ f.name)=D g
 |[],[],[],g,_,h=>by simp[mvOf]at h
 |.ref ls::as,u::us,.ref k::fs,g,⟨_,_,h3⟩,h=>by
  obtain⟨f,hf,h1⟩:=tA (g:=g) h3 (by simpa only[mvOf]using h);exact⟨f,by simp[hf],h1⟩
 |.rl e x::as,u::us,.rl k e' t::fs,g,⟨_,_,_,h3⟩,h=>by
  obtain⟨f,hf,h1⟩:=tA (g:=g) h3 (by simpa only[mvOf]using h);exact⟨f,by simp[hf],h1⟩
 |.mv e x::as,u::us,.mv k e' t::fs,g,⟨_,h1,_,h3⟩,h=>by
  simp only[mvOf,jx,Option.mem_toList]at h;rcases h with h|h
  .exact⟨.mv k e' t,af,rfl,by rw[<-h];show blk (γ k)=blk u;rw[h1]⟩
  .obtain⟨f,hf,h1⟩:=tA (g:=g) h3 h;exact⟨f,by simp[hf],h1⟩
 |.v _::as,_::us,fs,g,hb,h=>tA (as:=as) (us:=us) (fs:=fs) hb (by simpa only[mvOf]using h)
 |.ip _::as,_::us,fs,g,hb,h=>tA (as:=as) (us:=us) (fs:=fs) hb (by simpa only[mvOf]using h)
 |.clo _ _::as,_::us,fs,g,hb,h=>tA (as:=as) (us:=us) (fs:=fs) hb (by simpa only[mvOf]using h)
theorem XB{rd rdf:H->BS}(bc:RdF np σ rdf){t:Á TyI}{mv rl:Ö}{c:Cel}{arg:Arg}{u:Ups}{f:Á Bk}(h:sK rd rdf t mv rl c=D (arg,u,f)):∀x∈f.toList,x.isMv=Ä->parK np x.name=false:=by
 intro x hx hm;unfold sK at h;split at h
 .split at h
  .split at h
   .simp only[jb,jf]at h;obtain⟨_,_,rfl⟩:=h;simp at hx
   .simp at h
  .split at h
   .simp only[jb,jf]at h;obtain⟨_,_,rfl⟩:=h;simp at hx;subst hx;simp[Bk.isMv]at hm
   .simp at h
  .simp at h
 .simp only[jb,jf]at h;obtain⟨_,_,rfl⟩:=h;simp at hx
 .simp only[jb,jf]at h;obtain⟨_,_,rfl⟩:=h;simp at hx
 .split at h
  .cases mv with
   |true=>
    rw[jc]at h;split at h
    .rename_i hk;simp only[jb,jf]at h;obtain⟨_,_,rfl⟩:=h;simp at hx;subst hx;exact bc.par hk
    .simp at h
   |false=>
    rw[jd]at h;split at h
    .simp only[jb,jf]at h;obtain⟨_,_,rfl⟩:=h;simp at hx;subst hx;simp[Bk.isMv]at hm
    .simp at h
  .split at h
   .simp only[jb,jf]at h;obtain⟨_,_,rfl⟩:=h;simp at hx
   .simp at h
 .split at h
  .split at h
   .split at h
    .simp only[jb,jf]at h;obtain⟨_,_,rfl⟩:=h;simp at hx
    .simp at h
   .simp at h
  .simp at h
theorem Pd{rd rdf:H->BS}(bc:RdF np σ rdf){T:H->Á TyI}{mv:Ö}:∀{cs:F Cel}{ts:F H}{ms:F Ö}{as:F Arg}{u:Ups}{fs:F Bk},
  mY rd rdf T mv ts ms cs=D (as,u,fs)->∀x∈fs,x.isMv=Ä->parK np x.name=U
 |[],ts,ms,as,u,fs,h,x,hx,hm=>by
  simp[mY]at h;obtain⟨rfl,rfl,rfl⟩:=h;simp at hx
 |c::cs,ts,ms,as,u,fs,h,x,hx,hm=>by
  simp only[mY]at h;split at h
  .rename_i a1 u1 f1 h1;split at h
   .rename_i DN HU O8 h2;simp only[jb,jf]at h;obtain⟨rfl,rfl,rfl⟩:=h;rcases jx.1 hx with hx|hx
    .exact XB bc h1 x hx hm
    .exact Pd bc h2 x hx hm
   .simp at h
  .simp at h
theorem qG{bx:H->BS}:∀{as:F Arg}{us:F G}{fs:F Bk},fM bx γ as us fs->∀f∈fs,∃b,bx f.name = .live b
 |[],[],[],_,f,hf=>by simp at hf
 |.ref ls::as,u::us,.ref k::fs,⟨_,⟨fw,h2⟩,h3⟩,f,hf=>by
  rcases jm.1 hf with rfl|hf
  .exact⟨_,h2⟩
  .exact qG h3 f hf
 |.rl e x::as,u::us,.rl k e' t::fs,⟨_,_,⟨xs,h2,_⟩,h3⟩,f,hf=>by
  rcases jm.1 hf with rfl|hf
  .exact⟨_,h2⟩
  .exact qG h3 f hf
 |.mv e x::as,u::us,.mv k e' t::fs,⟨_,_,⟨xs,h2,_⟩,h3⟩,f,hf=>by
  rcases jm.1 hf with rfl|hf
  .exact⟨_,h2⟩
  .exact qG h3 f hf
 |.v _::as,_::us,fs,h,f,hf=>qG (as:=as) (us:=us) (fs:=fs) h f hf
 |.ip _::as,_::us,fs,h,f,hf=>qG (as:=as) (us:=us) (fs:=fs) h f hf
 |.clo _ _::as,_::us,fs,h,f,hf=>qG (as:=as) (us:=us) (fs:=fs) h f hf
theorem vG:∀{l:F H},mB l=Ä->l.Nodup
 |[],_=>List.nodup_nil
 |x::l,h=>by
  simp only[mB,jh,qb,qe,kg]at h;exact qt.2 ⟨h.1,vG h.2⟩
theorem HV(hR:Rel N np S0 w0 refs σ a w S γ):∀{l:F H},l.Nodup->(∀k∈l,∃b,σ.bx k = .live b)->(l.filterMap λk=>blk (γ k)).Nodup
 |[],_,_=>af
 |k::l,h,hl=>by
  obtain⟨h1,h2⟩:=qt.1 h;have ih:=HV hR h2 (λk hk=>hl k (by simp[hk]));rw[zm];cases hb:blk (γ k) with
  |none=>exact ih
  |some g=>refine qt.2 ⟨λhm=>?_,ih⟩;obtain⟨k',bg,ao⟩:=zt.1 hm;obtain⟨b,dg⟩:=hl k af;obtain⟨b',dM⟩:=hl k' (by simp[bg]);exact hR.apart k k' b b' g (by rintro rfl;exact h1 bg) dg dM hb ao
end
section
variable{N:NT}{np:H}{S0:aM}{w0:Â}{refs:Refs}{σ:St}{a:Þ}{w:Â}{S:aM}{γ:H->G}
theorem tB:∀(u:Ups)(σ:St){k:H}{b:BS},(u.map (·.1)).Nodup->(k,b)∈u->(σ.upd u).bx k=b
 |[],_,_,_,_,h=>by simp at h
 |e::u,σ,k,b,hn,h=>by
  simp only[qq,qt]at hn;show ((σ.setB e.1 e.2).upd u).bx k=_;rcases jm.1 h with h|h
  .subst h;rw[iv u,ee];simp only[qi,zb];intro x hx he;exact hn.1 (qg.2 ⟨x,hx,he⟩)
  .exact tB u _ hn.2 h
theorem XC{e:H}{m n n':H}{v:G}{w':Â}{xs ys:F G}(h:w.ownsRow 0 e m v n xs)(h':w'.ownsRow 0 e m v n' ys):n=n':=by
 rcases h.2 with⟨e1,e2⟩|⟨g,cap,cur,e1,_⟩<;>rcases h'.2 with⟨f1,f2⟩|⟨g',fC,vF,f1,_⟩
 .rw[e2,f2]
 .rw[e1]at f1;simp at f1
 .rw[e1]at f1;simp at f1
 .rw[e1]at f1;simp at f1;exact f1.2.1
theorem HW{bx:H->BS}{S':aM}{w':Â}{ys:F TV}{k:H}{v:G}(hg:γ k=v)(h:AK S' w' ys v):dQ S' w' γ bx k (.cell (ys.map TV.leaf) U):=by
 obtain⟨g,cur,e,hu,hh,ar,hS⟩:=h;exact⟨g,cur,e,hg.trans hu,hh,by rw[zi];exact oz ar,λu dL=>by rw[zi]at dL;obtain⟨x,_,hx⟩:=ar.mem_right u dL;exact Rep.one _ _ _ hx u af,λ_=>hS,af⟩
theorem xT{bx:H->BS}{S':aM}{w':Â}{e:H}{t:Ty}{ys:F t.den}{k:H}{v:G}(hg:γ k=v)(h:tx S' w' e ⟨.list t,ys⟩ v):dQ S' w' γ bx k (.lst e t ys U):=by
 obtain⟨t',xs,hx,bX,hS⟩:=h;cases hx;exact⟨by rw[hg];exact bX,λg ao=>⟨λ_=>hS g (by rw[<-hg];exact ao),af⟩⟩
theorem rF{S':aM}{w':Â}(hR:Rel N np S0 w0 refs σ a w S γ):∀{as:F Arg}{zs:F G}{fs:F Bk}{os:F Out}{uo:Ups},fM σ.bx γ as zs fs->jW fs os=D uo->jH S' w' as zs os->
  uo.map (·.1)=fs.map Bk.name/\∀x∈uo,∃b,σ.bx x.1 = .live b/\(x.2 = .gone\/∃b',x.2 = .live b'/\iL b b'/\∀bx',dQ S' w' γ bx' x.1 b')
 |[],[],[],[],uo,_,h,_=>by simp[jW]at h;subst h;simp
 |.ref ls::as,u::us,.ref k::fs,.ref ys::os,uo,⟨h1,⟨fw,h2⟩,h3⟩,h,⟨q1,q2⟩=>by
  simp only[jW,DG]at h;split at h
  .rename_i u' dL;simp only[jb]at h;subst h;obtain⟨i1,i2⟩:=rF hR h3 dL q2;refine⟨by simp[i1,Bk.name],λx hx=>?_⟩;rcases jm.1 hx with rfl|hx
   .exact⟨_,h2,.inr ⟨_,rfl,trivial,λbx'=>HW h1.symm q1⟩⟩
   .exact i2 x hx
  .simp at h
 |.rl e x::as,u::us,.rl k e' t::fs,.rl y::os,uo,⟨h0,h1,⟨xs,h2,jA⟩,h3⟩,h,⟨q1,q1',q2⟩=>by
  simp only[jW,DG]at h;split at h
  .rename_i y' xH;split at xH
   .rename_i ys Ax;simp only[jb]at xH;subst xH;split at h
    .rename_i u' dL;simp only[jb]at h;subst h;obtain⟨i1,i2⟩:=rF hR h3 dL q2;refine⟨by simp[i1,Bk.name],λx hx=>?_⟩;rcases jm.1 hx with rfl|hx
     .have:=lv Ax;subst this;subst h0;refine⟨_,h2,.inr ⟨_,rfl,⟨rfl,rfl,λhm=>?_⟩,λbx'=>xT h1.symm q1⟩⟩;obtain⟨css,aD,_⟩:=gB hm (hR.box k _ h2);obtain⟨jD,bX,_⟩:=gB (bx:=σ.bx) hm (xT h1.symm q1);exact XC aD bX
     .exact i2 x hx
    .simp at h
   .simp at xH
  .simp at h
 |.mv e x::as,u::us,.mv k e' t::fs,os,uo,⟨h0,h1,⟨xs,h2,jA⟩,h3⟩,h,q=>by
  simp only[jW]at h;split at h
  .rename_i u' dL;simp only[jb]at h;subst h;obtain⟨i1,i2⟩:=rF hR h3 dL (by simpa only[jH]using q);refine⟨by simp[i1,Bk.name],λx hx=>?_⟩;rcases jm.1 hx with rfl|hx
   .exact⟨_,h2,.inl rfl⟩
   .exact i2 x hx
  .simp at h
 |.v _::as,_::us,fs,os,uo,h,h',q=>rF (as:=as) (zs:=us) (fs:=fs) hR h h' q
 |.ip _::as,_::us,fs,os,uo,h,h',q=>rF (as:=as) (zs:=us) (fs:=fs) hR h h' q
 |.clo _ _::as,_::us,fs,os,uo,h,h',q=>rF (as:=as) (zs:=us) (fs:=fs) hR h h' q
theorem HX(hR:Rel N np S0 w0 refs σ a w S γ){Pe:F H}{S':aM}{w':Â}(aL:db S w S' w')(dG:∀g o,S' g o->S g o\/w.heap.size<=g\/g∈Pe)(eW:∀g o,S' g o->g<w'.heap.size)
  {as:F Arg}{zs:F G}{fs:F Bk}{os:F Out}{uo:Ups}(AL:∀g∈Pe,g∈mvOf as zs)(iw:∀f∈fs,f.isMv=Ä->parK np f.name=U)(cC:fM σ.bx γ as zs fs)(dA:(fs.map Bk.name).Nodup)(ho:jW fs os=D uo)(hq:jH S' w' as zs os)
  (eX:∀g,g<w.heap.size->g∉dI as zs->w'.heap[g]? = w.heap[g]?)(iR:w.heap.size<=w'.heap.size)(nt:w'.os=w.os)(kI:w'.tape=w.tape)(dX:w'.output=w.output) :
  Rel N np S0 w0 refs (σ.upd uo) a w' S' γ:=by
 obtain⟨iS,vH⟩:=rF hR cC ho hq;have qC:(uo.map (·.1)).Nodup:=by rw[iS];exact dA
 have eh:σ.upd uo={ σ with bx:=(σ.upd uo).bx }:=by have:=rr uo σ;cases h:σ.upd uo;rw[h]at this;simp only at this;rw[this]
 have cB:∀k,(uo.any (λy=>y.1==k)=U/\(σ.upd uo).bx k=σ.bx k)\/(∃b,σ.bx k = .live b/\(σ.upd uo).bx k = .gone)\/(∃b b',σ.bx k = .live b/\(σ.upd uo).bx k = .live b'/\iL b b'/\∀bx',dQ S' w' γ bx' k b'):=by
  intro k;by_cases hk:uo.any (λy=>y.1==k)=Ä
  .right;obtain⟨x,hx,he⟩:=List.any_eq_true.1 hk;have he:x.1=k:=by simpa using he
   subst he;obtain⟨b,h1,h2|⟨b',h2,h3,h4⟩⟩:=vH x hx
   .exact .inl ⟨b,h1,by rw[tB uo σ qC (b:=x.2) hx,h2]⟩
   .exact .inr ⟨b,b',h1,by rw[tB uo σ qC (b:=x.2) hx,h2],h3,h4⟩
  .left;have bg:uo.any (λy=>y.1==k)=false:=qc.2 hk;exact⟨bg,iv uo σ bg⟩
 have eY:∀k b,(σ.upd uo).bx k = .live b->∃b',σ.bx k = .live b':=by
  intro k b hb;rcases cB k with⟨_,h⟩|⟨b1,h1,_⟩|⟨b1,b2,h1,_⟩
  .exact⟨b,h▸hb⟩
  .exact⟨b1,h1⟩
  .exact⟨b1,h1⟩
 have hle:BxLe γ σ.bx γ (σ.upd uo).bx:=by
  intro k hk;rcases cB k with⟨_,h⟩|⟨b1,h1,h2⟩|⟨b1,b2,h1,h2,h3,_⟩
  .rw[h];exact⟨hk,rfl,λb hb=>⟨b,hb,.refl b⟩⟩
  .rw[h2];exact⟨af,rfl,λb hb=>by simp at hb⟩
  .rw[h2];exact⟨af,rfl,λb hb=>by simp at hb;subst hb;exact⟨b1,h1,h3⟩⟩
 have hrefs:∀g,g∈dI as zs->∃f∈fs,blk (γ f.name)=D g/\∃b,σ.bx f.name = .live b:=by intro g hg;rw[tz cC]at hg;obtain⟨f,hf,nu⟩:=zt.1 hg;exact⟨f,hf,nu,qG cC f hf⟩
 rw[eh]
 refine Rel.step hR aL hle ?_ ?_ ?_ ?_ eW ?_ (qw hR.grow iR) (nt.trans hR.os) (kI.trans hR.tape) (dX.trans hR.output) (λg hg _ h=>⟨eX g hg (λhm=>by
  obtain⟨f,hf,nu,b',aG⟩:=hrefs g hm;exact h f.name b' aG nu),λk b hb=>by
  obtain⟨b',aG⟩:=eY k b hb;exact h k b' aG⟩)
 .intro k b hb;rcases cB k with⟨hk,h⟩|⟨b1,h1,h2⟩|⟨b1,b2,h1,h2,h3,h4⟩
  case inr.inl=>rw[h2]at hb;simp at hb
  .rw[h]at hb;refine dQ.keep aL hle rfl (λg hg=>?_) (hR.box k b hb);have uW:=iu (hR.box k b hb) hg;suffices cX:g∉dI as zs from⟨eX g uW cX,λo=>⟨λhs=>(dG g o hs).resolve_right (λh=>h.elim (λh=>aa) λh=>cX (Pc (AL g h))),λhs=>(aL g o hs).1⟩⟩
   intro hm;obtain⟨f,hf,nu,b',aG⟩:=hrefs g hm
   have br:k≠f.name:=by
    rintro rfl
    have:f.name∈uo.map (·.1):=by rw[iS];exact ô hf
    obtain⟨x,hx,he⟩:=qg.1 this;have:=(qi.1 hk) x hx;simp[he]at this
   exact hR.apart k f.name b b' g br hb aG hg nu
  .rw[h2]at hb;simp at hb;subst hb;exact h4 _
 .intro k b g hb hg;obtain⟨b',aG⟩:=eY k b hb;exact hR.own k b' g aG hg
 .intro k k' b1 b2 g br h1 h2 hg;obtain⟨rm,kB⟩:=eY k b1 h1;obtain⟨rq,jA⟩:=eY k' b2 h2;exact hR.apart k k' rm rq g br kB jA hg
 .intro g o hs;rcases dG g o hs with h|h|h
  .exact hR.new g o h
  .exact .inr (.inl (qw hR.grow h))
  .obtain⟨f,hf,D5,nu⟩:=tA cC (AL g h);obtain⟨b',aG⟩:=qG cC f hf;rcases hR.own f.name b' g aG nu with h|h
   .exact .inr h
   .rw[iw f hf D5]at h;simp at h
 .intro g hg hr;rw[eX g (qx hg hR.grow) (λhm=>?_)]
  .exact hR.below g hg hr
  .obtain⟨f,hf,nu,b',aG⟩:=hrefs g hm;rcases hR.own f.name b' g aG nu with h|h
   .exact h.no aa hr
   .exact hr h.1
theorem HY(hR:Rel N np S0 w0 refs σ a w S γ){d:H}(hd:σ.bx d = .free){v':G}{b:Bx}
  (hv:∀g,blk v'=D g->(Own w0 refs g/\refs.kw g=M)/\∀k b,σ.bx k = .live b->blk (γ k)≠D g)(hb:dQ S w (gset γ d v') (σ.setB d (.live b)).bx d b) :
  Rel N np S0 w0 refs (σ.setB d (.live b)) a w S (gset γ d v')/\BxLe γ σ.bx (gset γ d v') (σ.setB d (.live b)).bx:=by
 have hle:BxLe γ σ.bx (gset γ d v') (σ.setB d (.live b)).bx:=by
  intro k hk;have br:k≠d:=by rintro rfl;exact hk hd
  rw[bQ σ _ br,eG γ v' br];exact⟨hk,rfl,λb hb=>⟨b,hb,.refl b⟩⟩
 refine⟨Rel.step (bx':=(σ.setB d (.live b)).bx) hR (.refl S w) hle ?_ ?_ ?_ hR.new hR.here hR.below hR.grow hR.os hR.tape hR.output (λg _ lR h=>⟨rfl,λk b' aG cC=>by
  by_cases hk:k=d
  .subst hk;rw[dH]at cC;exact lR (hv g cC).1.2
  .rw[bQ σ _ hk]at aG;rw[eG γ v' hk]at cC;exact h k b' aG cC⟩),hle⟩
 .intro k b' aG;by_cases hk:k=d
  .subst hk;rw[ee]at aG;simp at aG;subst aG;exact hb
  .rw[bQ σ _ hk]at aG;exact dQ.keep (.refl S w) hle (eG γ v' hk) (λg hg=>⟨rfl,λ_=>ã⟩) (hR.box k b' aG)
 .intro k b' g aG hg;by_cases hk:k=d
  .subst hk;rw[dH]at hg;exact .inl (hv g hg).1.1
  .rw[bQ σ _ hk]at aG;rw[eG γ v' hk]at hg;exact hR.own k b' g aG hg
 .intro k k' b1 b2 g br h1 h2 hg ao;by_cases hk:k=d
  .subst hk;have bg:k'≠k:=λh=>br h.symm;rw[dH]at hg;rw[bQ σ _ bg]at h2;rw[eG γ v' bg]at ao;exact(hv g hg).2 k' b2 h2 ao
  .by_cases bg:k'=d
   .subst bg;rw[dH]at ao;rw[bQ σ _ hk]at h1;rw[eG γ v' hk]at hg;exact(hv g ao).2 k b1 h1 hg
   .rw[bQ σ _ hk]at h1;rw[bQ σ _ bg]at h2;rw[eG γ v' hk]at hg;rw[eG γ v' bg]at ao;exact hR.apart k k' b1 b2 g br h1 h2 hg ao
theorem xU{bx:H->BS}{x:TV}{u:G}(h:VRep S w x u):bE S w γ bx (mV x.t x.v) u:=by
 obtain⟨t,v⟩:=x;obtain⟨h1,h2,h3⟩:=h;refine Hp t v _ u h1 (λhm=>?_) (λha hn=>?_)
 .have:gK t=true:=by
   rcases hm with hm|⟨n,b,rfl⟩
   .cases t<;>simp_all[gK,Ty.agg]
   .rfl
  obtain⟨cs,rfl⟩:=h2 this;simp[Value.cells]
 .have:gK t=false:=by cases t<;>simp_all[gK,Ty.agg]
  exact xI (h3 this)
theorem D6:∀{ls:F RL}{n:H}{l:F Leaf}{u:Ups},soL n ls=D (l,u)->∀x∈u,n<=x.1/\x.1<n+ls.length
 |[],n,l,u,h=>by simp[soL]at h;obtain⟨rfl,rfl⟩:=h;simp
 |.d x::r,n,l,u,h=>by
  simp only[soL]at h;split at h
  .rename_i l' u' h';simp only[jb,jf]at h;obtain⟨rfl,rfl⟩:=h;intro y hy;have:=D6 h' y hy;simp only[ju];omega
  .simp at h
 |.own e ⟨.list a,xs⟩::r,n,l,u,h=>by
  simp only[soL]at h;split at h
  .rename_i l' u' h';simp only[jb,jf]at h;obtain⟨rfl,rfl⟩:=h;intro y hy;rcases jm.1 hy with rfl|hy
   .simp only[ju];omega
   .have:=D6 h' y hy;simp only[ju];omega
  .simp at h
 |.own e ⟨.int _,xs⟩::r,n,l,u,h=>by simp[soL]at h
 |.own e ⟨.bool,xs⟩::r,n,l,u,h=>by simp[soL]at h
 |.own e ⟨.str,xs⟩::r,n,l,u,h=>by simp[soL]at h
 |.own e ⟨.unit,xs⟩::r,n,l,u,h=>by simp[soL]at h
 |.own e ⟨.wrap _,xs⟩::r,n,l,u,h=>by simp[soL]at h
 |.own e ⟨.pair _ _,xs⟩::r,n,l,u,h=>by simp[soL]at h
 |.own e ⟨.arr _ _,xs⟩::r,n,l,u,h=>by simp[soL]at h
theorem Pg{n:H}{r:RV}{c:Cel}{u:Ups}(h:DH n r=D (c,u)):∀x∈u,n<=x.1/\x.1<n+rvW r:=by
 unfold DH at h;split at h
 .simp only[jb,jf]at h;obtain⟨rfl,rfl⟩:=h;simp
 .simp only[jb,jf]at h;obtain⟨rfl,rfl⟩:=h;simp[rvW]
 .simp at h
 .simp only[jb,jf]at h;obtain⟨rfl,rfl⟩:=h;simp[rvW]
 .simp at h
 .split at h<;>(simp only[jb,jf]at h;obtain⟨rfl,rfl⟩:=h;simp)
 .simp only[jb,jf]at h;obtain⟨rfl,rfl⟩:=h;simp
 .split at h
  .rename_i l u' h';simp only[jb,jf]at h;obtain⟨rfl,rfl⟩:=h;exact D6 h'
  .simp at h
 .simp at h
theorem Pj:∀{n:H}{rs:F RV}{cs:F Cel}{u:Ups},sL n rs=D (cs,u)->∀x∈u,n<=x.1
 |n,[],cs,u,h=>by simp[sL]at h;obtain⟨rfl,rfl⟩:=h;simp
 |n,r::rs,cs,u,h=>by
  simp only[sL]at h;split at h
  .rename_i c u1 h1;split at h
   .rename_i HZ u2 h2;simp only[jb,jf]at h;obtain⟨rfl,rfl⟩:=h;intro x hx;rcases jx.1 hx with hx|hx
    .exact(Pg h1 x hx).1
    .have:=Pj h2 x hx;omega
   .simp at h
  .simp at h
theorem Pl{bx:H->BS}{ns:F H}:∀(k:H){ls:F Leaf}{cs:F G},All2 (bj S w γ bx) ls cs->(∀i∈ns,∀z,k<=i->cs[i-k]? = D z->z = .slice M 0 0)->
  All2 (bj S w γ bx) ((ls.zipIdx k).map λy=>if ns.contains y.2 then .nil else y.1) cs
 |_,[],[],_,_=>trivial
 |k,l::ls,c::cs,h,hn=>by
  refine⟨?_,Pl (k+1) h.2 λi hi z hk hz=>hn i hi z aa ?_⟩
  .by_cases hc:ns.contains k=Ä
   .simp only[hc,if_true];exact hn k (by simpa using hc) c (jz _) af
   .simp only[hc];exact h.1
  .rw[show i-k=(i-(k+1))+1 by omega];simpa using hz
 |_,[],_::_,h,_=>h.elim
 |_,_::_,[],h,_=>h.elim
theorem XE(hR:Rel N np S0 w0 refs σ a w S γ){h0:H}(H0:w0.heap.size<=h0)(eY:∀k b g,σ.bx k = .live b->blk (γ k)=D g->g<h0)(uV:∀g,h0<=g->refs.kw g=M)
  {ns:F H}{s:Snap}{v:G}(gP:HT h0 S w ns s v)(aV:∀x∈rawU ns s,σ.bx x.1 = .free)(dA:((rawU ns s).map (·.1)).Nodup) :
  ∃γ',Rel N np S0 w0 refs (σ.upd (rawU ns s)) a w S γ'/\∃zs,v=kH zs/\All2 (bE S w γ' (σ.upd (rawU ns s)).bx) (rawC ns s) zs:=by
 obtain⟨γr,zs,hv,hc,hb,qD,XF⟩:=gP;generalize rawU ns s=u at *;let γ':H->Value:=λk=>if u.any (λy=>y.1==k) then γr k else γ k
 have nj:∀k,u.any (λy=>y.1==k)=Ä->(σ.upd u).bx k=(emp.upd u).bx k/\γ' k=γr k/\σ.bx k = .free:=by
  intro k hk;have vI:=hk;obtain⟨x,hx,he⟩:=List.any_eq_true.1 hk;have he:x.1=k:=by simpa using he
  subst he;exact⟨(tB u σ dA (b:=x.2) hx).trans (tB u emp dA (b:=x.2) hx).symm,if_pos vI,aV x hx⟩
 have dX:∀k,u.any (λy=>y.1==k)=U->(σ.upd u).bx k=σ.bx k/\(emp.upd u).bx k = .free/\γ' k=γ k:=by intro k hk;exact⟨iv u σ hk,iv u emp hk,if_neg (by rw[hk];simp)⟩
 have Pm:BxLe γr (emp.upd u).bx γ' (σ.upd u).bx:=by
  intro k hk;cases hu:u.any (λy=>y.1==k) with
  |false=>exact absurd (dX k hu).2.1 hk
  |true=>obtain⟨h1,h2,_⟩:=nj k hu;rw[h1];exact⟨hk,h2,λb hb=>⟨b,hb,.refl b⟩⟩
 have Pn:BxLe γ σ.bx γ' (σ.upd u).bx:=by
  intro k hk;cases hu:u.any (λy=>y.1==k) with
  |true=>exact absurd (nj k hu).2.2 hk
  |false=>obtain⟨h1,_,h2⟩:=dX k hu;rw[h1];exact⟨hk,h2,λb hb=>⟨b,hb,.refl b⟩⟩
 have eh:σ.upd u={ σ with bx:=(σ.upd u).bx }:=by have:=rr u σ;cases h:σ.upd u;rw[h]at this;simp only at this;rw[this]
 refine⟨γ',?_,zs,hv,hc.mono λx z hx=>bE.keep (.refl S w) Pm hx⟩;rw[eh];refine Rel.step hR (.refl S w) Pn ?_ ?_ ?_ hR.new hR.here hR.below hR.grow hR.os hR.tape hR.output (λg _ lR h=>⟨rfl,λk b hb cC=>?_⟩)
 .intro k b aG;cases hu:u.any (λy=>y.1==k) with
  |true=>obtain⟨h1,h2,_⟩:=nj k hu;rw[h1]at aG;exact dQ.keep (.refl S w) Pm h2 (λg hg=>⟨rfl,λ_=>ã⟩) (hb k b aG)
  |false=>obtain⟨h1,_,h2⟩:=dX k hu;rw[h1]at aG;exact dQ.keep (.refl S w) Pn h2 (λg hg=>⟨rfl,λ_=>ã⟩) (hR.box k b aG)
 .intro k b g aG hg;cases hu:u.any (λy=>y.1==k) with
  |true=>obtain⟨h1,h2,_⟩:=nj k hu;rw[h1]at aG;rw[h2]at hg;exact .inl (.inl (qw H0 (qD k b g aG hg)))
  |false=>obtain⟨h1,_,h2⟩:=dX k hu;rw[h1]at aG;rw[h2]at hg;exact hR.own k b g aG hg
 .intro k k' b b' g br dg dM oG gh;cases hu:u.any (λy=>y.1==k) with
  |true=>
   obtain⟨h1,h2,_⟩:=nj k hu;rw[h1]at dg;rw[h2]at oG;cases dL:u.any (λy=>y.1==k') with
   |true=>obtain⟨h3,h4,_⟩:=nj k' dL;rw[h3]at dM;rw[h4]at gh;exact XF k k' b b' g br dg dM oG gh
   |false=>obtain⟨h3,_,h4⟩:=dX k' dL;rw[h3]at dM;rw[h4]at gh;have:=eY k' b' g dM gh;have:=qD k b g dg oG;omega
  |false=>
   obtain⟨h1,_,h2⟩:=dX k hu;rw[h1]at dg;rw[h2]at oG;cases dL:u.any (λy=>y.1==k') with
   |true=>obtain⟨h3,h4,_⟩:=nj k' dL;rw[h3]at dM;rw[h4]at gh;have:=eY k b g dg oG;have:=qD k' b' g dM gh;omega
   |false=>obtain⟨h3,_,h4⟩:=dX k' dL;rw[h3]at dM;rw[h4]at gh;exact hR.apart k k' b b' g br dg dM oG gh
 .cases hu:u.any (λy=>y.1==k) with
  |true=>obtain⟨h1,h2,_⟩:=nj k hu;rw[h1]at hb;rw[h2]at cC;exact lR (uV g (qD k b g hb cC))
  |false=>obtain⟨h1,_,h2⟩:=dX k hu;rw[h1]at hb;rw[h2]at cC;exact h k b hb cC
theorem H2:∀{ls:F RL}{zs:F G}{n:H}{l:F Leaf}{u:Ups}{σ:St}{γ:H->G},Rel N np S0 w0 refs σ a w S γ->soL n ls=D (l,u)->All2 (D1 S w) ls zs->
  (∀x∈u,σ.bx x.1 = .free)->(mI ls zs).Nodup->(∀g∈mI ls zs,(Own w0 refs g/\refs.kw g=M)/\∀k b,σ.bx k = .live b->blk (γ k)≠D g)->
  ∃γ',Rel N np S0 w0 refs (σ.upd u) a w S γ'/\BxLe γ σ.bx γ' (σ.upd u).bx/\All2 (bj S w γ' (σ.upd u).bx) l zs/\(∀z∈zs,One z)/\
   ∀k b g,(σ.upd u).bx k = .live b->blk (γ' k)=D g->(∃b',σ.bx k = .live b'/\blk (γ k)=D g)\/g∈mI ls zs
 |[],[],n,l,u,σ,γ,hR,h,_,_,_,_=>by
  simp[soL]at h;obtain⟨rfl,rfl⟩:=h;exact⟨γ,hR,.refl _ _,trivial,af,λk b g h1 h2=> .inl ⟨b,h1,h2⟩⟩
 |.d x::ls,z::zs,n,l,u,σ,γ,hR,h,ha,aV,dA,hblk=>by
  simp only[soL]at h;split at h
  .rename_i l' u' h';simp only[jb,jf]at h;obtain⟨rfl,rfl⟩:=h;obtain⟨γ',q1,q2,q3,q4,q5⟩:=H2 hR h' ha.2 aV dA hblk;exact⟨γ',q1,q2,⟨ha.1.2,q3⟩,λy hy=>(jm.1 hy).elim (λe=>e▸ha.1.1) (q4 y),q5⟩
  .simp at h
 |.own e ⟨.list t,xs⟩::ls,z::zs,n,l,u,σ,γ,hR,h,ha,aV,dA,hblk=>by
  simp only[soL]at h;split at h
  .rename_i l' u' h';simp only[jb,jf]at h;obtain⟨rfl,rfl⟩:=h;have aD:tx S w e ⟨.list t,xs⟩ z:=ha.1;have cu:One z:=by obtain⟨t',ys,_,bX,_⟩:=aD;exact bX.one
   have AM:σ.bx n = .free:=aV _ (vi ..);simp only[mI]at dA hblk;obtain⟨bm,hle⟩:=HY hR AM (v':=z) (b:= .lst e t xs U) (λg hg=>hblk g (by simp[hg])) (xT (dH _ _ _) aD);have iU:=D6 h'
   obtain⟨γ',q1,q2,q3,q4,q5⟩:=H2 bm h' ha.2 (λx hx=>by
    have:=iU x hx;rw[bQ σ _ aa];exact aV x (by simp[hx])) (z9.1 dA).2.1 (λg hg=>by
    obtain⟨p1,p2⟩:=hblk g (by simp[hg]);refine⟨p1,λk b' aG he=>?_⟩;by_cases hk:k=n
    .subst hk;rw[dH]at he;exact(z9.1 dA).2.2 g (by simp[he]) g hg rfl
    .rw[bQ σ _ hk]at aG;rw[eG γ z hk]at he;exact p2 k b' aG he)
   refine⟨γ',q1,λk hk=>?_,⟨bj.keep (.refl S w) q2 ⟨by rw[ee];simp,cu,λb _=>(dH γ n z).symm⟩,q3⟩,λy hy=>(jm.1 hy).elim (λe=>e▸cu) (q4 y),λk b g h1 h2=>?_⟩
   .obtain⟨a1,a2,a3⟩:=hle k hk;obtain⟨b1,b2,b3⟩:=q2 k a1;refine⟨b1,b2.trans a2,λb hb=>?_⟩;obtain⟨b',aG,eU⟩:=b3 b hb;obtain⟨AJ,oQ,oT⟩:=a3 b' aG;exact⟨AJ,oQ,oT.trans eU⟩
   .rcases q5 k b g h1 h2 with⟨b',aG,he⟩|h3
    .by_cases hk:k=n
     .subst hk;rw[dH]at he;exact .inr (by simp[mI,he])
     .rw[bQ σ _ hk]at aG;rw[eG γ z hk]at he;exact .inl ⟨b',aG,he⟩
    .exact .inr (by simp[mI,h3])
  .simp at h
 |.own e ⟨.int _,xs⟩::r,_,n,l,u,_,_,_,h,_,_,_,_=>by simp[soL]at h
 |.own e ⟨.bool,xs⟩::r,_,n,l,u,_,_,_,h,_,_,_,_=>by simp[soL]at h
 |.own e ⟨.str,xs⟩::r,_,n,l,u,_,_,_,h,_,_,_,_=>by simp[soL]at h
 |.own e ⟨.unit,xs⟩::r,_,n,l,u,_,_,_,h,_,_,_,_=>by simp[soL]at h
 |.own e ⟨.wrap _,xs⟩::r,_,n,l,u,_,_,_,h,_,_,_,_=>by simp[soL]at h
 |.own e ⟨.pair _ _,xs⟩::r,_,n,l,u,_,_,_,h,_,_,_,_=>by simp[soL]at h
 |.own e ⟨.arr _ _,xs⟩::r,_,n,l,u,_,_,_,h,_,_,_,_=>by simp[soL]at h
 |[],_::_,_,_,_,_,_,_,_,ha,_,_,_=>ha.elim
 |.d _::_,[],_,_,_,_,_,_,_,ha,_,_,_=>ha.elim
 |.own _ ⟨.list _,_⟩::_,[],_,_,_,_,_,_,_,ha,_,_,_=>ha.elim
theorem Po:∀{rs:F RV}{vs:F G}{n:H}{cs:F Cel}{un:Ups}{σ:St}{γ:H->G},Rel N np S0 w0 refs σ a w S γ->sL n rs=D (cs,un)->All2 (nY S w) rs vs->
  (∀x∈un,σ.bx x.1 = .free)->(gr rs vs).Nodup->(∀g∈gr rs vs,(Own w0 refs g/\refs.kw g=M)/\∀k b,σ.bx k = .live b->blk (γ k)≠D g)->
  ∃γ',Rel N np S0 w0 refs (σ.upd un) a w S γ'/\BxLe γ σ.bx γ' (σ.upd un).bx/\All2 (bE S w γ' (σ.upd un).bx) cs vs
 |[],[],n,cs,un,σ,γ,hR,h,_,_,_,_=>by
  simp[sL]at h;obtain⟨rfl,rfl⟩:=h;exact⟨γ,hR,.refl _ _,trivial⟩
 |r::rs,u::us,n,cs,un,σ,γ,hR,h,ha,aV,dA,hblk=>by
  simp only[sL]at h;split at h
  .rename_i c u1 h1;split at h
   .rename_i HZ u2 h2;simp only[jb,jf]at h;obtain⟨rfl,rfl⟩:=h
    have AN:∀(σ1:St)(γ1:H->G),Rel N np S0 w0 refs σ1 a w S γ1->σ1=σ.upd u1->BxLe γ σ.bx γ1 σ1.bx->bE S w γ1 σ1.bx c u->(∀x∈u2,σ1.bx x.1 = .free)->
      (gr rs us).Nodup->(∀g∈gr rs us,(Own w0 refs g/\refs.kw g=M)/\∀k b,σ1.bx k = .live b->blk (γ1 k)≠D g)->
      ∃γ',Rel N np S0 w0 refs (σ.upd (u1++u2)) a w S γ'/\BxLe γ σ.bx γ' (σ.upd (u1++u2)).bx/\All2 (bE S w γ' (σ.upd (u1++u2)).bx) (c::HZ) (u::us):=by
     intro σ1 γ1 bm he hle hc hf hn hb;obtain⟨γ',q1,q2,q3⟩:=Po (σ:=σ1) (γ:=γ1) bm h2 ha.2 hf hn hb;subst he;rw[gN];refine⟨γ',q1,?_,bE.keep (.refl S w) q2 hc,q3⟩;intro k hk;obtain⟨a1,a2,a3⟩:=hle k hk;obtain⟨b1,b2,b3⟩:=q2 k a1;refine⟨b1,b2.trans a2,λb hb=>?_⟩;obtain⟨b',aG,eU⟩:=b3 b hb;obtain⟨AJ,oQ,oT⟩:=a3 b' aG;refine⟨AJ,oQ,?_⟩;exact oT.trans eU
    have iU:=Pg h1;have lV:=Pj h2
    have dG:∀(v':G)(b:Bx),jG r u=(blk v').toList->rvW r=1->u1=[(n,.live b)]->(∀bx',dQ S w (gset γ n v') bx' n b)->(∀bx',(bx' n = .live b)->bE S w (gset γ n v') bx' c u)->
      ∃γ',Rel N np S0 w0 refs (σ.upd (u1++u2)) a w S γ'/\BxLe γ σ.bx γ' (σ.upd (u1++u2)).bx/\All2 (bE S w γ' (σ.upd (u1++u2)).bx) (c::HZ) (u::us):=by
     intro v' b gp H3 vJ cj lW;subst vJ;rw[H3]at lV;have AM:σ.bx n = .free:=aV (n,.live b) af;simp only[gr,gp]at dA hblk;obtain⟨bm,hle⟩:=HY hR AM (v':=v') (b:=b) (λg hg=>hblk g (by simp[hg])) (cj _);refine AN _ _ bm rfl hle (lW _ (ee _ _ _)) (λx hx=>?_) ?_ (λg hg=>?_)
     .have:=lV x hx;rw[bQ σ _ aa];exact aV x (by simp[hx])
     .exact(z9.1 dA).2.1
     .obtain⟨p1,p2⟩:=hblk g (by simp[hg]);refine⟨p1,λk b' aG he=>?_⟩;by_cases hk:k=n
      .subst hk;rw[dH]at he;have:=(z9.1 dA).2.2 g (by simp[he]) g hg;exact this rfl
      .rw[bQ σ _ hk]at aG;rw[eG γ v' hk]at he;exact p2 k b' aG he
    unfold DH at h1;split at h1
    .rename_i x;simp only[jb,jf]at h1;obtain⟨rfl,rfl⟩:=h1;refine AN σ γ hR rfl (.refl _ _) (xU ha.1) (λx hx=>aV x (by simp[hx])) ?_ ?_
     .simpa[gr,lx,jG]using dA
     .simpa[gr,lx,jG]using hblk
    .rename_i e el xs;simp only[jb,jf]at h1;obtain⟨rfl,rfl⟩:=h1;have aD:tx S w e ⟨.list el,xs⟩ u:=ha.1;have cu:One u:=by obtain⟨t',ys,_,bX,_⟩:=aD;exact bX.one
     exact dG u _ rfl rfl rfl (λbx'=>xT (dH _ _ _) aD) (λbx' hb=>⟨⟨by rw[hb];simp,cu,λb _=>(dH γ n u).symm⟩,λ_=>cu⟩)
    .simp at h1
    .rename_i ls;simp only[jb,jf]at h1;obtain⟨rfl,rfl⟩:=h1;have AO:AK S w ls u:=ha.1;obtain⟨g,cur,e,hu,_⟩:=id AO;have cu:One u:=by rw[hu];rfl
     exact dG u _ rfl rfl rfl (λbx'=>HW (dH _ _ _) AO) (λbx' hb=>⟨⟨by rw[hb];simp,cu,λb _=>⟨g,by rw[dH,hu],hu⟩⟩,λ_=>cu⟩)
    .simp at h1
    .rename_i x ns;have hv:VRep S w x u/\∀cs,u = .agg cs->∀i∈ns,∀z,cs.toList[i]? = D z->z = .slice M 0 0:=ha.1;have oU:bE S w γ σ.bx (mV x.t x.v) u:=xU hv.1
     have hc:bE S w γ σ.bx c u/\u1=[]:=by
      split at h1
      .rename_i ls he;simp only[jb,jf]at h1;obtain⟨rfl,rfl⟩:=h1;rw[he]at oU;obtain⟨cs,hu,ar,cu⟩:=oU;exact⟨⟨cs,hu,Pl 0 ar λi hi z _ hz=>hv.2 cs hu i hi z (by simpa using hz),cu⟩,rfl⟩
      .simp only[jb,jf]at h1;obtain⟨rfl,rfl⟩:=h1;exact⟨oU,rfl⟩
     obtain⟨hc,rfl⟩:=hc;refine AN σ γ hR rfl (.refl _ _) hc (λx hx=>aV x (by simp[hx])) ?_ ?_
     .simpa[gr,lx,jG]using dA
     .simpa[gr,lx,jG]using hblk
    .rename_i f caps;simp only[jb,jf]at h1;obtain⟨rfl,rfl⟩:=h1;obtain⟨cv,hu,ar⟩:∃cv:È G,u = .func (.func f) #[] cv/\All2 (iq S w) caps cv.toList:=ha.1;refine AN σ γ hR rfl (.refl _ _) ⟨⟨cv,hu,ar⟩,λ_=>by rw[hu];rfl⟩ (λx hx=>aV x (by simp[hx])) ?_ ?_
     .simpa[gr,lx,jG]using dA
     .simpa[gr,lx,jG]using hblk
    .rename_i ls;split at h1
     .rename_i l HU hl;simp only[jb,jf]at h1;obtain⟨rfl,rfl⟩:=h1;obtain⟨kJ,hu,ar⟩:∃cs:È G,u = .agg cs/\All2 (D1 S w) ls cs.toList:=ha.1;subst hu;have xV:jG (.so ls) (.agg kJ)=mI ls kJ.toList:=rfl;simp only[gr,xV]at dA hblk;obtain⟨γ1,q1,q2,q3,q4,q5⟩:=H2 hR hl ar (λx hx=>aV x (by simp[hx])) (z9.1 dA).1 (λg hg=>hblk g (by simp[hg]));refine AN _ γ1 q1 rfl q2 ⟨kJ,rfl,q3,q4⟩ (λx hx=>?_) (z9.1 dA).2.1 (λg hg=>?_)
      .have h2:=lV x hx;rw[iv HU σ]
       .exact aV x (by simp[hx])
       .rw[qi];intro y hy he;simp only[zb]at he;have:=iU y hy;omega
      .obtain⟨p1,p2⟩:=hblk g (by simp[hg]);refine⟨p1,λk b' aG he=>?_⟩;rcases q5 k b' g aG he with⟨b2,dM,XG⟩|h3
       .exact p2 k b2 dM XG
       .exact(z9.1 dA).2.2 g h3 g hg rfl
     .simp at h1
    .simp at h1
   .simp at h
  .simp at h
 |[],_::_,_,_,_,_,_,_,_,ha,_,_,_=>ha.elim
 |_::_,[],_,_,_,_,_,_,_,ha,_,_,_=>ha.elim
end
section
variable{N:NT}{np:H}{S0:aM}{w0:Â}{refs:Refs}{σ:St}{a:Þ}{w:Â}{S:aM}{γ:H->G}
theorem H4{S':aM}{w':Â}:∀(cs:F Cap)(cv:F G)(os:F Out),jH S' w' (cs.map mZ) cv os->os=[]
 |[],[],[],_=>rfl
 |[],[],_::_,h=>h.elim
 |[],_::_,_,h=>h.elim
 |c::cs,[],_,h=>by cases c<;>exact h.elim
 |.v _::cs,_::cv,os,h=>H4 cs cv os h
 |.p _::cs,_::cv,os,h=>H4 cs cv os h
theorem vK{S':aM}{w':Â}{cs:F Cap}{cv:F G}:∀{as:F Arg}{zs:F G}{os:F Out},as.length=zs.length->
  jH S' w' (as++cs.map mZ) (zs++cv) os->jH S' w' as zs os
 |[],[],os,_,h=>by
  have:=H4 cs cv os h;subst this;trivial
 |.ref ls::as,u::us,.ref ys::os,hl,⟨h1,h2⟩=>⟨h1,vK (by simpa using hl) h2⟩
 |.rl e x::as,u::us,.rl y::os,hl,⟨h1,h2,h3⟩=>⟨h1,h2,vK (by simpa using hl) h3⟩
 |.v _::as,_::us,os,hl,h=>vK (as:=as) (zs:=us) (by simpa using hl) h
 |.ip _::as,_::us,os,hl,h=>vK (as:=as) (zs:=us) (by simpa using hl) h
 |.clo _ _::as,_::us,os,hl,h=>vK (as:=as) (zs:=us) (by simpa using hl) h
 |.mv _ _::as,_::us,os,hl,h=>vK (as:=as) (zs:=us) (by simpa using hl) h
 |[],_::_,_,hl,_=>by simp at hl
 |_::_,[],_,hl,_=>by simp at hl
 |.ref _::_,_::_,[],_,h=>h.elim
 |.ref _::_,_::_,.rl _::_,_,h=>h.elim
 |.rl _ _::_,_::_,[],_,h=>h.elim
 |.rl _ _::_,_::_,.ref _::_,_,h=>h.elim
theorem fM.congr{bx bx':H->BS}:∀{as:F Arg}{us:F G}{fs:F Bk},(∀f∈fs,bx' f.name=bx f.name)->fM bx γ as us fs->fM bx' γ as us fs
 |[],[],[],_,_=>trivial
 |.ref ls::as,u::us,.ref k::fs,hc,⟨h1,⟨fw,h2⟩,h3⟩=>
  ⟨h1,⟨fw,(hc (.ref k) af).trans h2⟩,fM.congr (λf hf=>hc f (by simp[hf])) h3⟩
 |.rl e x::as,u::us,.rl k e' t::fs,hc,⟨h0,h1,⟨xs,h2,hx⟩,h3⟩=>
  ⟨h0,h1,⟨xs,(hc (.rl k e' t) af).trans h2,hx⟩,fM.congr (λf hf=>hc f (by simp[hf])) h3⟩
 |.mv e x::as,u::us,.mv k e' t::fs,hc,⟨h0,h1,⟨xs,h2,hx⟩,h3⟩=>
  ⟨h0,h1,⟨xs,(hc (.mv k e' t) af).trans h2,hx⟩,fM.congr (λf hf=>hc f (by simp[hf])) h3⟩
 |.v _::as,_::us,fs,hc,h=>fM.congr (as:=as) (us:=us) hc h
 |.ip _::as,_::us,fs,hc,h=>fM.congr (as:=as) (us:=us) hc h
 |.clo _ _::as,_::us,fs,hc,h=>fM.congr (as:=as) (us:=us) hc h
theorem xW{S1 S':aM}{w':Â}(dY:∀g o,S g o->S' g o):∀{as:F Arg}{zs:F G}{os:F Out},os.all Out.flat=Ä->jH S' w' as zs os->jH S w' as zs os
 |[],[],[],_,_=>trivial
 |.ref ls::as,u::us,.ref ys::os,hf,⟨⟨g,cur,e,h1,h2,h3,h4⟩,h5⟩=>by
  simp only[qz,jh,Out.flat]at hf;refine⟨⟨g,cur,e,h1,h2,?_,λo hs=>h4 o (dY g o hs)⟩,xW (S1:=S1) dY hf.2 h5⟩;have hl:=hf.1;clear h1 h2 hf h4 h5;generalize cur.toList.take ys.length=l at h3;induction ys generalizing l with
  |nil=>cases l with|nil=>trivial|cons _ _=>exact h3.elim
  |cons y ys ih=>
   cases l with
   |nil=>exact h3.elim
   |cons z l=>simp only[qz,jh]at hl;exact⟨rD _ _ _ hl.1 h3.1,ih hl.2 l h3.2⟩
 |.rl e x::as,u::us,.rl y::os,hf,⟨⟨t,xs,h1,_⟩,_,_⟩=>by
  simp only[qz,jh,Out.flat,h1,Ty.flat]at hf;exact absurd hf.1 af
 |.v _::as,_::us,os,hf,h=>xW (S1:=S1) (as:=as) (zs:=us) dY hf h
 |.ip _::as,_::us,os,hf,h=>xW (S1:=S1) (as:=as) (zs:=us) dY hf h
 |.clo _ _::as,_::us,os,hf,h=>xW (S1:=S1) (as:=as) (zs:=us) dY hf h
 |.mv _ _::as,_::us,os,hf,h=>xW (S1:=S1) (as:=as) (zs:=us) dY hf h
theorem XH{S S':aM}{w:Â}{e:H}{a:Ty}{xs:F a.den}{u:G}(hf:a.flat=Ä)(h:ow S' w e a xs u):ow S w e a xs u:=by
 rcases h with⟨hm,css,h1,h2⟩|⟨hm,h1⟩
 .exact .inl ⟨hm,css,h1,h2.mono λx c hx=>rD _ _ _ hf hx⟩
 .refine .inr ⟨hm,?_⟩;revert hf h1;cases a with
  |pair k b=>intro hf h1;simp only[Ty.flat,jh]at hf;obtain⟨g,es,clock,hu,hh,ha,hq⟩:=h1;exact⟨g,es,clock,hu,hh,ha.mono λx e hx=>⟨rD _ _ _ hf.1 hx.1,rD _ _ _ hf.2 hx.2.1,hx.2.2⟩,hq⟩
  |_=>intro _ h1;exact h1.elim
theorem Pp{S':aM}{w':Â}(dY:∀g o,S g o->S' g o):∀{rs:F RV}{vs:F G},rs.all RV.flat=Ä->All2 (nY S' w') rs vs->All2 (nY S w') rs vs
 |[],[],_,_=>trivial
 |r::rs,v::vs,hf,h=>by
  simp only[qz,jh]at hf;have i1:=Pp dY hf.2 h.2;cases r with
  |v x=>obtain⟨h1,h2,h3⟩:=h.1;exact⟨⟨rD _ _ _ hf.1 h1,h2,h3⟩,i1⟩
  |own e x=>obtain⟨a,xs,rfl,h1,h2⟩:=h.1;exact⟨⟨a,xs,rfl,XH hf.1 h1,λg hg o hs=>h2 g hg o (dY g o hs)⟩,i1⟩
  |so ls=>simp[RV.flat]at hf
  |box ls=>simp[RV.flat]at hf
  |hd n=>simp[RV.flat]at hf
  |vn x ns=>simp[RV.flat]at hf
  |clo f cs=>simp[RV.flat]at hf
  |raw ns s=>simp[RV.flat]at hf
 |[],_::_,_,h=>h.elim
 |_::_,[],_,h=>h.elim
theorem XI{rd:H->BS}(aO:RdOk σ rd){un:Ups}(h:un.all (λe=>fV (rd e.1))=Ä):∀x∈un,σ.bx x.1 = .free:=
 λx hx=>aO.free (jr.1 h x hx)
theorem All2.len{α β:Type}{R:α->β->Prop}{as:F α}{bs:F β}(h:All2 R as bs):as.length=bs.length:=h.length
theorem Pq{γ':H->G}{bx:H->BS}{S':aM}{w':Â}{XJ:H->G}{cs:F Cel}{vs:F G}(h:All2 (bE S' w' γ' bx) cs vs) :
  gA S' w' γ' bx XJ (zF cs) (kH vs):=by
 match cs,vs,h with
 |[c],[v],h=>exact h.1
 |[],[],h=>exact⟨#[],rfl,trivial⟩
 |c::c'::cs,v::v'::vs,h=>exact⟨(v::v'::vs).toArray,rfl,by simpa using h⟩
 |[c],v::v'::vs,h=>exact h.2.elim
 |c::c'::cs,[v],h=>exact h.2.elim
 |[],v::vs,h=>exact h.elim
 |c::cs,[],h=>exact h.elim
theorem D7{bx:H->BS}{k e:H}{t:Ty}:∀{as:F Arg}{us:F G}{fs:F Bk},fM bx γ as us (.rl k e t::fs)->∀(bs:F Arg)(vs:F G),D2 (as++bs) (us++vs)=D (γ k)
 |.rl e x::as,u::us,fs,⟨_,h1,_,_⟩,bs,vs=>by rw[<-h1];rfl
 |.v _::as,_::us,fs,h,bs,vs=>D7 (as:=as) (us:=us) (fs:=fs) h bs vs
 |.ip _::as,_::us,fs,h,bs,vs=>D7 (as:=as) (us:=us) (fs:=fs) h bs vs
 |.clo _ _::as,_::us,fs,h,bs,vs=>D7 (as:=as) (us:=us) (fs:=fs) h bs vs
 |[],[],fs,h,_,_=>h.elim
 |.ref _::as,_::us,fs,h,_,_=>h.elim
 |.mv _ _::as,_::us,fs,h,_,_=>h.elim
 |[],_::_,fs,h,_,_=>h.elim
 |_::_,[],fs,h,_,_=>by cases ‹Arg› <;> exact h.elim
theorem Pr{α β:Type}:∀(l:F α)(l':F β),List.Sublist ((l.zip l').map (·.1)) l
 |[],_=>af
 |_::_,[]=>af
 |x::l,y::l'=>by simpa using Pr l l'
theorem Ps:∀(as:F Arg)(us:F G)(bs:F Arg)(vs:F G),as.length=us.length->mvOf (as++bs) (us++vs)=mvOf as us++mvOf bs vs
 |[],[],bs,vs,_=>rfl
 |a::as,u::us,bs,vs,h=>by
  have ih:=Ps as us bs vs (by simpa using h);cases a<;>simp[mvOf,ih]
 |[],_::_,_,_,h=>by simp at h
 |_::_,[],_,_,h=>by simp at h
theorem Pt:∀(cs:F Cap)(zs:F G),mvOf (cs.map mZ) zs=[]
 |[],_=>by cases ‹F G› <;> rfl
 |c::cs,[]=>by cases c<;>rfl
 |c::cs,z::zs=>by cases c<;>simp[mvOf,mZ,Pt cs zs]
theorem D8:∀{fs:F Bk}{os:F Out}{uo:Ups}{f:Bk},jW fs os=D uo->f∈fs->f.isMv=Ä->(f.name,BS.gone)∈uo
 |[],os,uo,f,_,hf,_=>by simp at hf
 |.mv k e a::fs,os,uo,f,h,hf,hm=>by
  simp only[jW]at h;split at h
  .rename_i u' dL;simp only[jb]at h;subst h;rcases jm.1 hf with rfl|hf
   .exact vi
   .exact z6 _ (D8 dL hf hm)
  .simp at h
 |.ref k::fs,[],uo,f,h,hf,hm=>by simp[jW]at h
 |.rl k e a::fs,[],uo,f,h,hf,hm=>by simp[jW]at h
 |.ref k::fs,o::os,uo,f,h,hf,hm=>by
  simp only[jW]at h;split at h
  .split at h
   .rename_i u' dL;simp only[jb]at h;subst h;rcases jm.1 hf with rfl|hf
    .simp[Bk.isMv]at hm
    .exact z6 _ (D8 dL hf hm)
   .simp at h
  .simp at h
 |.rl k e a::fs,o::os,uo,f,h,hf,hm=>by
  simp only[jW]at h;split at h
  .split at h
   .rename_i u' dL;simp only[jb]at h;subst h;rcases jm.1 hf with rfl|hf
    .simp[Bk.isMv]at hm
    .exact z6 _ (D8 dL hf hm)
   .simp at h
  .simp at h
theorem Pu{P:À}(hR:Rel N np S0 w0 refs σ a w S γ){rw rd rdf:H->BS}(gQ:RdR σ rw)(aO:RdOk σ rd)(bc:RdF np σ rdf){T:H->Á TyI}{ts:F H}{ms:F Ö}{cs:F Cel}{as:F Arg}{us:Ups}{fs:F Bk}{zs:F G}
  {mv:Ö}(h:mY rw rdf T mv ts ms cs=D (as,us,fs))(ha:All2 (bE S w γ σ.bx) cs zs)(bA:bkOk us fs=Ä)
  {caps:F Cap}{cv:F G}(lz:All2 (iq S w) caps cv){g:H}{K:Ret->Prop}
  (dB:D4 P g (as++caps.map mZ) K)(n:H) :
  Calls P g (zs++cv).toArray w λe w'=>∃ret,K ret/\∀s u,qY rd rdf n us fs ret=D (s,u)->∃v S' γ',e = .returned v/\Rel N np S0 w0 refs (σ.upd u) a w' S' γ'/\gA S' w' γ' (σ.upd u).bx (tm a) s v:=by
 obtain⟨gM,cC,oD⟩:=O7 hR gQ bc h ha;simp only[bkOk,jh]at bA;obtain⟨dA,vL⟩:=bA;have dA:=vG dA
 have hlen:as.length=zs.length:=by
  have:∀{as:F Arg}{us:F G}{fs:F Bk},fM σ.bx γ as us fs->as.length=us.length:=by
   intro as;induction as with
   |nil=>intro us fs hh;cases us with|nil=>rfl|cons _ _=>exact hh.elim
   |cons a as ih=>
    intro us fs hh;cases us with
    |nil=>cases a<;>exact hh.elim
    |cons u us=>
     cases a with
     |v x=>have:=ih (us:=us) (fs:=fs) hh;simp[this]
     |ip x=>have:=ih (us:=us) (fs:=fs) hh;simp[this]
     |clo x y=>have:=ih (us:=us) (fs:=fs) hh;simp[this]
     |ref ls=>match fs,hh with|.ref k::fs,⟨_,_,h3⟩=>have:=ih h3;simp[this]
     |rl e x=>match fs,hh with|.rl k e' t::fs,⟨_,_,_,h3⟩=>have:=ih h3;simp[this]
     |mv e x=>match fs,hh with|.mv k e' t::fs,⟨_,_,_,h3⟩=>have:=ih h3;simp[this]
  exact this cC
 obtain⟨S1,bm,cg,fF,dm⟩:=lO us σ S hR gM;have AP:∀k,k∈fs.map Bk.name->us.any (λy=>y.1==k)=false:=by intro k hk;rw[qi];intro x hx he;have:=jr.1 vL x hx;simp only[zb]at he;subst he;simp only[qb,qe,kg]at this;exact this hk
 have oV:∀f∈fs,(σ.upd us).bx f.name=σ.bx f.name:=λf hf=>iv us σ (AP _ (ô hf));have rG:=cC.congr oV
 have nv:∀k b,fs.any (λy=>y.name==k)=Ä->σ.bx k = .live b->∀g,blk (γ k)=D g->∀o,¬S1 g o:=by
  intro k b hk hb g hg o;obtain⟨f,hf,he⟩:=List.any_eq_true.1 hk;have he:f.name=k:=by simpa using he
  subst he;have dg:(σ.upd us).bx f.name = .live b:=(oV f hf).trans hb;have cj:=bm.box f.name b dg
  have kK:(∃fw,b = .cell fw U)\/(∃e t xs,b = .lst e t xs U):=by
   have:∀{as:F Arg}{us:F G}{fs:F Bk},fM σ.bx γ as us fs->f∈fs->(∃fw,σ.bx f.name = .live (.cell fw U))\/(∃e t xs,σ.bx f.name = .live (.lst e t xs U)):=by
    intro as;induction as with
    |nil=>intro us fs hh hm;match us,fs,hh with|[],[],_=>simp at hm
    |cons a as ih=>
     intro us fs hh hm;cases us with
     |nil=>cases a<;>exact hh.elim
     |cons u us=>
      cases a with
      |v x=>exact ih (us:=us) (fs:=fs) hh hm
      |ip x=>exact ih (us:=us) (fs:=fs) hh hm
      |clo x y=>exact ih (us:=us) (fs:=fs) hh hm
      |ref ls=>
       match fs,hh with
       |.ref k::fs,⟨_,⟨fw,h2⟩,h3⟩=>
        rcases jm.1 hm with rfl|hm
        .exact .inl ⟨fw,h2⟩
        .exact ih h3 hm
      |rl e x=>
       match fs,hh with
       |.rl k e' t::fs,⟨_,_,⟨xs,h2,_⟩,h3⟩=>
        rcases jm.1 hm with rfl|hm
        .exact .inr ⟨_,t,xs,h2⟩
        .exact ih h3 hm
      |mv e x=>
       match fs,hh with
       |.mv k e' t::fs,⟨_,_,⟨xs,h2,_⟩,h3⟩=>
        rcases jm.1 hm with rfl|hm
        .exact .inr ⟨_,t,xs,h2⟩
        .exact ih h3 hm
   rcases this cC hf with⟨fw,h2⟩|⟨e,t,xs,h2⟩
   .rw[hb]at h2;simp at h2;exact .inl ⟨fw,h2⟩
   .rw[hb]at h2;simp at h2;exact .inr ⟨e,t,xs,h2⟩
  rcases kK with⟨fw,rfl⟩|⟨e,t,xs,rfl⟩
  .obtain⟨g',cur,e,ao,_,_,_,hS,_⟩:=cj;rw[ao]at hg;simp[blk]at hg;subst hg;exact hS rfl o
  .exact(cj.2 g hg).1 rfl o
 have cm:All2 (nr S1 w) as zs:=oD S1 cg fF nv;have AQ:All2 (nr S1 w) (caps.map mZ) cv:=O9 (lz.mono (λx z hx=>iq.keep cg hx));have hrefs:dI (as++caps.map mZ) (zs++cv)=dI as zs:=by rw[Pb _ _ _ _ hlen,Pa,zh]
 have rH:(dI as zs).Nodup:=by rw[tz cC];have:=HV hR dA (λk hk=>by obtain⟨f,hf,rfl⟩:=qg.1 hk;exact qG cC f hf);rwa[List.filterMap_map]at this
 refine(dB w S1 (zs++cv) (cm.append AQ) (by rw[hrefs];exact rH) bm.here).mono ?_
 rintro e w' ⟨ret,hK,v,S',vs,rfl,bM⟩
 refine⟨ret,hK,λs u bk=>?_⟩;obtain⟨eE,bB,oW,vM,dC,gR,dG,eW,eX,iR,nt,kI,dX,gP,oX⟩:=bM;rw[hrefs]at eX;have H5:mvOf (as++caps.map mZ) (zs++cv)=mvOf as zs:=by rw[Ps _ _ _ _ hlen,Pt,zh]
 rw[H5]at oW dG;have iw:∀f∈fs,f.isMv=Ä->parK np f.name=false:=Pd bc h;have dC:=vK hlen dC;refine⟨v,?_⟩;unfold qY at bk;split at bk
 ·-- the list H6 first,cut short
  rename_i m H7;unfold mkHd at bk;generalize fH:ret.outs=ro at bk dC;split at bk
  .rename_i k e el O8 y Pv _;split at bk
   .rename_i uo ys oY Ax;split at bk
    .rename_i bP;simp only[jh]at bP;simp only[jb,jf]at bk;obtain⟨rfl,rfl⟩:=bk;have bS:=HX bm gR dG eW (λ_ h=>h) iw rG dA oY dC eX iR nt kI dX;obtain⟨iS,mJ⟩:=rF bm rG oY dC;have qC:(uo.map (·.1)).Nodup:=by rw[iS];exact dA
     have H8:(k,BS.live (.lst e el ys U))∈uo:=by
      simp only[jW,DG,Ax]at oY;split at oY
      .simp only[jb]at oY;rw[<-oY];exact vi
      .simp at oY
     have eb:=tB uo (σ.upd us) qC H8;obtain⟨bl,xV⟩:=Ad bP.2;have mF:=bc.par xV;have h0:=aO.free bP.1;have h1:(σ.upd us).bx n = .free:=dm.free h0;have lX:((σ.upd us).upd uo).bx n = .free:=by rw[iv uo,h1];rw[qi];intro y hy he;simp only[zb]at he;obtain⟨b0,h2,_⟩:=mJ y hy;rw[he,h1]at h2;simp at h2
     obtain⟨ad,len,cap,gC,AR,gD⟩:=oX m H7;have vN:γ k = .slice ad len cap:=by have:=D7 cC (caps.map mZ) cv;rw[gC]at this;simpa using this.symm
     have mH:len=ys.length:=by
      obtain⟨css,aD,_⟩:=DP vN (bS.box k _ eb);rcases aD.2 with⟨ao,hn⟩|⟨g,fC,cur,ao,_⟩
      .rw[vN]at ao;simp only[Z]at ao;omega
      .rw[vN]at ao;simp only[Z]at ao;omega
     obtain⟨γ',cJ,ia⟩:=Xu bS eb mF lX (m:=m) aa (by rw[vN,mH]);refine⟨S',γ',rfl,by rw[gN,gN];exact cJ,?_⟩;rw[eE,gD,gN,gN];exact ia
    .simp at bk
   .simp at bk
  .simp at bk
 ·-- the results as H9 lie
  rename_i ns sn H7;unfold zG at bk;generalize fH:ret.outs=ro at bk dC;split at bk
  case h_2=>simp at bk
  split at bk
  case isFalse=>simp at bk
  rename_i bP;simp only[jh]at bP;simp only[jb,jf]at bk;obtain⟨rfl,rfl⟩:=bk;have bS:=HX bm gR dG eW (λ_ h=>h) iw rG dA (uo:=[]) rfl dC eX iR nt kI dX;have dY:∀x∈rawU ns sn,x.1∈ns:=λx hx=>(List.of_mem_zip hx).1
  obtain⟨γ',eV,xX,gp,dh⟩:=XE (h0:=w.heap.size) bS hR.grow (λk b g hb hg=>iu (bm.box k b hb) hg) (λg hg=>hR.kw_new hg) (gP ns sn H7)
   (λx hx=>dm.free (aO.free (jr.1 bP.2 x.1 (dY x hx)))) (by
    exact List.Nodup.sublist (Pr _ _) (vG bP.1))
  refine⟨S',γ',rfl,by rw[gN];exact eV,?_⟩;rw[gp,gN];exact Pq dh
 split at bk
 .rename_i uo oY;split at bk
  .rename_i kJ un ix;split at bk
   .rename_i aV;have aV:=XI aO aV
    have eL:∀(jI:Ups)(Sx Sy:aM),(jI=us\/jI=[])->Rel N np S0 w0 refs (σ.upd jI) a w Sx γ->db Sx w Sy w'->(∀g o,Sy g o->Sx g o\/w.heap.size<=g\/g∈mvOf as zs)->(∀g o,Sy g o->g<w'.heap.size)->
      jH Sy w' as zs ret.outs->All2 (nY Sy w') ret.vals vs->
      ∃S' γ',Rel N np S0 w0 refs (σ.upd (jI++uo++un)) a w' S' γ'/\All2 (bE S' w' γ' (σ.upd (jI++uo++un)).bx) kJ vs:=by
     intro jI Sx Sy rI rJ vO AS vP tC AU
     have rK:fM (σ.upd jI).bx γ as zs fs:=by
      rcases rI with rfl|rfl
      .exact rG
      .exact cC
     have bS:=HX rJ vO AS vP (λ_ h=>h) iw rK dA oY tC eX iR nt kI dX;obtain⟨iS,mJ⟩:=rF rJ rK oY tC
     have oZ:∀k b,((σ.upd jI).upd uo).bx k = .live b->∃b',(σ.upd jI).bx k = .live b':=by
      intro k b hb;by_cases hk:uo.any (λy=>y.1==k)=Ä
      .obtain⟨x,hx,he⟩:=List.any_eq_true.1 hk;have he:x.1=k:=by simpa using he
       subst he;obtain⟨b0,h0,_⟩:=mJ x hx;exact⟨b0,h0⟩
      .rw[iv uo _ (qc.2 hk)]at hb;exact⟨b,hb⟩
     have lX:∀x∈un,((σ.upd jI).upd uo).bx x.1 = .free:=by
      intro x hx;have h0:=aV x hx
      have h1:(σ.upd jI).bx x.1 = .free:=by
       rcases rI with rfl|rfl
       .exact dm.free h0
       .exact h0
      rw[iv uo,h1];rw[qi];intro y hy he;simp only[zb]at he;obtain⟨b0,h2,_⟩:=mJ y hy;rw[he,h1]at h2;simp at h2
     obtain⟨γ',eV,_,lW⟩:=Po bS ix AU lX vM (λg hg=>by
      rcases oW g hg with qD|XK
      .refine⟨⟨.inl (qw hR.grow qD),hR.kw_new qD⟩,λk b hb he=>?_⟩;obtain⟨b',aG⟩:=oZ k b hb;have:=iu (rJ.box k b' aG) he;omega
      .obtain⟨f,hf,D5,nu⟩:=tA rK XK;obtain⟨bf,xY⟩:=qG rK f hf;refine⟨⟨?_,rJ.kw_live xY nu⟩,λk b hb he=>?_⟩
       .rcases rJ.own f.name bf g xY nu with h|h
        .exact h
        .rw[iw f hf D5]at h;simp at h
       .obtain⟨b',aG⟩:=oZ k b hb
        have XL:k≠f.name:=by
         rintro rfl
         have AV:=D8 oY hf D5;rw[tB uo (σ.upd jI) (by rw[iS];exact dA) AV]at hb;simp at hb
        exact rJ.apart k f.name b' bf g XL aG xY he nu)
     refine⟨Sy,γ',?_,?_⟩
     .rw[gN,gN];exact eV
     .rw[gN,gN];exact lW
    have cB:∃jI,(jI=us\/jI=[])/\jI=(if ret.vals.all RV.flat&&ret.outs.all Out.flat then [] else us)/\
      ∃S' γ',Rel N np S0 w0 refs (σ.upd (jI++uo++un)) a w' S' γ'/\All2 (bE S' w' γ' (σ.upd (jI++uo++un)).bx) kJ vs:=by
     by_cases kL:(ret.vals.all RV.flat&&ret.outs.all Out.flat)=Ä
     .refine⟨[],.inr rfl,by rw[if_pos kL],?_⟩;obtain⟨lP,oE⟩:=Bool.and_eq_true_iff.1 kL;have dY:∀g o,S g o->S' g o:=λg o hs=>(gR g o (cg g o hs).1).1
      refine eL [] S S (.inr rfl) hR (λg o hs=>⟨hs,(gR g o (cg g o hs).1).2⟩) (λg o hs=> .inl hs) (λg o hs=>qx (hR.here g o hs) iR)
       (xW (S1:=S1) dY oE dC) (Pp dY lP bB)
     .exact⟨us,.inl rfl,by rw[if_neg kL],eL us S1 S' (.inl rfl) bm gR dG eW dC bB⟩
    obtain⟨jI,_,rI,S2,γ2,bS,tD⟩:=cB
    have hs:s=zF kJ/\u=(if ret.vals.all RV.flat&&ret.outs.all Out.flat then [] else us)++uo++un:=by
     clear tD eL bS ix;revert bk;match kJ with
     |[c]=>simp only[jb,jf];rintro⟨rfl,rfl⟩;exact⟨rfl,rfl⟩
     |[]=>simp only[jb,jf];rintro⟨rfl,rfl⟩;exact⟨rfl,rfl⟩
     |c::c'::r=>simp only[jb,jf];rintro⟨rfl,rfl⟩;exact⟨rfl,rfl⟩
    obtain⟨rfl,rfl⟩:=hs;rw[<-rI];exact⟨S2,γ2,rfl,bS,by rw[eE];exact Pq tD⟩
   .simp at bk
  .simp at bk
 .simp at bk
theorem AW{P:À}{f:H}(hf:Fun P f){o:Oper}{cl:Call}(ho:o.op = .call cl){x:þ}(hc:cl.callee = .value x){cv:È G}(hx:a.eval x = .func (.func f) #[] cv) :
  (execOp a.eval o).run P w = .ok (.enter f (cl.args.map a.eval++cv)) w:=by
 obtain⟨fn,h1,h2,h3⟩:=hf;have jA:¬fn.body=none:=λhn=>by rw[hn]at h2;simp at h2
 have tE : ¬ fn.name = "runtime.NumGoroutine" := by simpa using h3
 simp[execOp,ho,resolve,hc,Deferred.ofValue,hx,invoke,callFunc,h1,jA,tE]
end
section
variable{N:NT}{np:H}{S0:aM}{w0:Â}{refs:Refs}{σ:St}{a:Þ}{w:Â}{S:aM}{γ:H->G}
def keyV:(k:Ty)->k.den->G
 |.int q,n=> .int q n
 |.str,s=> .string s
 |_,_=>undef
theorem xZ:∀{k:Ty}{x:k.den}{u:G},k.isKey=Ä->(Rep S w k x [u]↔u=keyV k x)
 |.int q,x,u,_=>by simp[Rep,keyV]
 |.str,x,u,_=>by simp[Rep,keyV]
 |.bool,_,_,h=>by simp[Ty.isKey]at h
 |.unit,_,_,h=>by simp[Ty.isKey]at h
 |.wrap _,_,_,h=>by simp[Ty.isKey]at h
 |.pair _ _,_,_,h=>by simp[Ty.isKey]at h
 |.list _,_,_,h=>by simp[Ty.isKey]at h
 |.arr _ _,_,_,h=>by simp[Ty.isKey]at h
def keyD:Ty->TypeDesc
 |.int q=> .int q
 |_=> .string
theorem XM{P:À}{T:H->Á TyI}(hT:ca P T){n:H}{ti:TyI}(hn:T n=D ti){k:Ty}(bn:ti.ty=D k)(hk:k.isKey=Ä):P.underlying n=D (keyD k):=by
 cases k with
 |int q=>exact Hk hT hn bn
 |str=>exact Ht hT hn bn
 |_=>simp[Ty.isKey]at hk
theorem Px{k:Ty}(hk:k.isKey=Ä)(x:k.den):MapKept.IsKey (keyD k) (keyV k x):=by
 cases k with
 |int q=>rfl
 |str=>trivial
 |_=>simp[Ty.isKey]at hk
theorem Ia{k:Ty}(hk:k.isKey=Ä)(x y:k.den):õ (keyD k) (keyV k x) (keyV k y)=D (@BEq.beq _ k.keq x y):=by
 cases k with
 |int q=>simp[keyD,keyV,õ]
 |str=>simp[keyD,keyV,õ]
 |_=>simp[Ty.isKey]at hk
theorem XN{k:Ty}(hk:k.isKey=Ä){x y:k.den}(h:@BEq.beq _ k.keq x y=Ä):x=y:=by
 cases k with
 |int q=>simpa[Ty.keq]using h
 |str=>exact(ê x y).1 h
 |_=>simp[Ty.isKey]at hk
theorem Py{k:Ty}(hk:k.isKey=Ä)(x:k.den):ð 10000 (keyV k x) (keyV k x)=true:=by
 cases k with
 |int q=>simp[keyV,ð]
 |str=>simp only[keyV,ð];exact(ê x x).2 rfl
 |_=>simp[Ty.isKey]at hk
def AX(S:aM)(w:Â)(k v:Ty)(x:k.den×v.den)(e:MapEntry):Prop:=Rep S w k x.1 [e.key]/\VRep S w ⟨v,x.2⟩ e.val
theorem Ib{k v:Ty}(hk:k.isKey=Ä)(q:k.den):∀{xs:F (k.den×v.den)}{es:F MapEntry},All2 (AX S w k v) xs es->∀i:H,
  (@pX _ _ k.keq xs q=Ä/\∃j e,Ú (keyD k) (keyV k q) es i=D (D (i+j,e.val))/\es[j]? = D e/\e.key=keyV k q/\VRep S w ⟨v,@lK _ _ k.keq v.dflt xs q⟩ e.val/\
   ∀(z:v.den)(e':MapEntry),e'.key=keyV k q->VRep S w ⟨v,z⟩ e'.val->All2 (AX S w k v) (@lk _ _ k.keq xs q z) (es.set j e'))\/
  (@pX _ _ k.keq xs q=U/\Ú (keyD k) (keyV k q) es i=D M/\@lK _ _ k.keq v.dflt xs q=v.dflt/\∀z,@lk _ _ k.keq xs q z=xs++[(q,z)])
 |[],[],_,i=> .inr ⟨rfl,rfl,rfl,λ_=>rfl⟩
 |x::xs,e::es,h,i=>by
  have qH:e.key=keyV k x.1:=(xZ hk).1 h.1.1;have hs:=Ia hk q x.1;rw[<-qH]at hs;cases hb:@BEq.beq _ k.keq q x.1 with
  |true=>
   rw[hb]at hs;have XO:=XN hk hb;refine .inl ⟨by simp[pX,hb],0,e,by simp[Ú,hs],rfl,by rw[qH,XO],?_,λz e' h1 h2=>?_⟩
   .simp only[lK,hb,jc];exact h.1.2
   .simp only[lk,hb,jc,â];exact⟨⟨(xZ hk).2 h1,h2⟩,h.2⟩
  |false=>
   rw[hb]at hs;rcases Ib hk q h.2 (i+1) with⟨h1,j,e',h2,h3,h4,h5,h6⟩|⟨h1,h2,h3,h4⟩
   .refine .inl ⟨by simp only[pX,ä,hb,Bool.false_or];exact h1,j+1,e',by simp only[Ú,hs,h2];congr 3;omega,by simpa using h3,h4,?_,λz e2 g1 g2=>?_⟩
    .simp only[lK,hb,jd];exact h5
    .simp only[lk,hb,jd,List.set_cons_succ];exact⟨h.1,h6 z e2 g1 g2⟩
   .refine .inr ⟨by simp only[pX,ä,hb,Bool.false_or];exact h1,by simp only[Ú,hs,h2],?_,λz=>?_⟩
    .simp only[lK,hb,jd];exact h3
    .simp only[lk,hb,jd,h4 z];rfl
 |[],_::_,h,_=>h.elim
 |_::_,[],h,_=>h.elim
theorem Pz{k v:Ty}(hk:k.isKey=Ä){q:k.den}:∀{xs:F (k.den×v.den)}{es:F MapEntry},All2 (AX S w k v) xs es->@pX _ _ k.keq xs q=U->∀e∈es,e.key≠keyV k q
 |[],[],_,_=>af
 |x::xs,e::es,h,hn=>by
  simp only[pX,ä,zw]at hn;intro e' Ic;rcases jm.1 Ic with rfl|Ic
  .intro hq;have qH:=(xZ hk).1 h.1.1;have hs:=Ia hk q x.1;rw[<-qH,hq,Ia hk q q,hn.1]at hs;simp only[jb]at hs;have:=Py hk q;cases k with
   |int z=>simp at hs
   |str=>have:=(ê q q).2 rfl;exact absurd (hs.symm.trans this) af
   |_=>simp[Ty.isKey]at hk
  .exact Pz hk h.2 hn.2 e' Ic
 |[],_::_,h,_=>h.elim
 |_::_,[],h,_=>h.elim
theorem PA{P:À}{T:H->Á TyI}(hT:ca P T){t:H}{k v:Ty}(h:uE T t=D (k,v)) :
  ∃kt vt tv,P.underlying t=D (.map kt vt)/\P.underlying kt=D (keyD k)/\k.isKey=Ä/\T vt=D tv/\tv.ty=D v:=by
 unfold uE at h;split at h
 .rename_i ti xG;split at h
  .rename_i k0 v0 XP;split at h
   .rename_i tk tv XQ D9;split at h
    .rename_i k1 v1 df XR;split at h
     .rename_i nw;simp only[jb,jf]at h;obtain⟨rfl,rfl⟩:=h;exact⟨k0,v0,tv,Wd hT xG XP,XM hT XQ df nw,nw,D9,XR⟩
     .simp at h
    .simp at h
   .simp at h
  .simp at h
 .simp at h
theorem PB{rw:H->BS}(gQ:RdR σ rw){t:H}{k v:Ty}{x y:Leaf}{b:H}{ys:F (k.den×v.den)}{q:k.den}(h:mapC rw t k v x y=D (b,ys,q)) :
  x = .ol b/\y = .d k q/\σ.bx b = .live (.lst (4294967296+t) (.pair k v) ys U):=by
 unfold mapC at h;split at h
 .rename_i b0 tk key;split at h
  .rename_i e a0 xs hb;split at h
   .rename_i he;split at h
    .rename_i G3 q' h1 h2;simp only[jb,jf]at h;obtain⟨rfl,rfl,rfl⟩:=h;have e1:=lv h1;have e2:=lv h2;cases e1;cases e2;subst he;exact⟨rfl,rfl,gQ.live hb⟩
    .simp at h
   .simp at h
  .simp at h
 .simp at h
theorem AY(t:H):isM (4294967296+t)=true:=by
 unfold isM;rw[Nat.ble_eq];exact Nat.le_add_right _ _
theorem PC(hR:Rel N np S0 w0 refs σ a w S γ){b t:H}{k v:Ty}{ys:F (k.den×v.den)}{f:Ö}(hb:σ.bx b = .live (.lst (4294967296+t) (.pair k v) ys f)) :
  ∃g es clock,γ b = .map (D g)/\w.heap[g]? = D (.map es clock)/\All2 (AX S w k v) ys es.toList/\Hg es clock:=by
 have h:=(hR.box b _ hb).1;rcases h with⟨hm,_⟩|⟨_,g,es,clock,h1,h2,h3,h4⟩
 .rw[AY]at hm;simp at hm
 .exact⟨g,es,clock,h1,h2,h3,h4⟩
theorem XS{P:À}{T:H->Á TyI}(hT:ca P T){n:H}{ti:TyI}(hn:T n=D ti){t:Ty}(bn:ti.ty=D t):∃z,(zeroValue n).run P w = .ok z w/\VRep S w ⟨t,t.dflt⟩ z:=by
 obtain⟨i,d,hi,hd,hs,_,ha,_,h⟩:=lu hT hn;obtain⟨_,⟨z,hz,hc⟩,hdo⟩:=h t bn;have PD:=We hT hn hi hd;refine⟨z,by simp[zeroValue,typeInfo,hi,hz],?_,?_,?_⟩
 .rw[hc];exact nU t
 .intro hm;have:aggD d=true:=by cases d<;>cases t<;>simp_all[iX,gK,aggD,Ty.agg]
  simp only[zOk,hz]at PD;cases z<;>simp_all
 .intro hm;have:aggD d=false:=by cases d<;>cases t<;>simp_all[iX,gK,aggD,Ty.agg]
  simp only[zOk,hz]at PD;cases z<;>first|rfl|simp_all
theorem XU{P:À}{E:Env}(hT:ca P E.T)(hR:Rel N np S0 w0 refs σ a w S γ){rw:H->BS}(gQ:RdR σ rw){t:H}{k v:Ty}(ht:uE E.T t=D (k,v)){x y:Leaf}{b:H}{ys:F (k.den×v.den)}{q:k.den}
  (h:mapC rw t k v x y=D (b,ys,q)){zx zy:G}(hx:bj S w γ σ.bx x zx)(hy:bj S w γ σ.bx y zy) :
  ∃z,VRep S w ⟨v,@lK _ _ k.keq v.dflt ys q⟩ z/\∀ok,(ø t zx zy ok).run P w = .ok (if ok then .tuple #[z,.bool (@pX _ _ k.keq ys q)] else z) w:=by
 obtain⟨kt,vt,tv,fY,vQ,nw,D9,AZ⟩:=PA hT ht;obtain⟨rfl,rfl,hb⟩:=PB gQ h;obtain⟨g,es,clock,hg,hh,ha,_⟩:=PC hR hb;have A9:zx = .map (D g):=(hx.2.2 _ hb).trans hg;have Ba:zy=keyV k q:=(xZ nw).1 hy;subst A9;subst Ba;have Bb:=ñ (w:=w) vQ (Px nw q) es.isEmpty 9999;rcases Ib nw q ha 0 with⟨h1,j,e,h2,h3,h4,h5,h6⟩|⟨h1,h2,h3,h4⟩
 .refine⟨e.val,h5,λok=>?_⟩;have hf:=Ò (w:=w) vQ h2;simp only[ø,J,run_underlying fY,I,Í hh,Ã,Bb,hf,h1]
 .obtain⟨z,hz,XV⟩:=XS (S:=S) (w:=w) hT D9 AZ;refine⟨z,by rw[h3];exact XV,λok=>?_⟩;have hf:=Ò (w:=w) vQ h2;simp only[ø,J,run_underlying fY,I,Í hh,Ã,Bb,hf,h1,hz]
theorem XW(hR:Rel N np S0 w0 refs σ a w S γ){k:H}{b b':Bx}(hk:σ.bx k = .live b){g:H}(hg:blk (γ k)=D g)(hS:∀o,¬S g o)(sW:iL b b')
  {w':Â}(rL:∀i,i≠g->w'.heap[i]? = w.heap[i]?)(bW:w'.heap.size=w.heap.size)(nt:w'.os=w.os)(Ea:w'.tape=w.tape)(dX:w'.output=w.output)
  (hb:BxLe γ σ.bx γ (σ.setB k (.live b')).bx->db S w S w'->dQ S w' γ (σ.setB k (.live b')).bx k b') :
  Rel N np S0 w0 refs (σ.setB k (.live b')) a w' S γ:=by
 have hle:BxLe γ σ.bx γ (σ.setB k (.live b')).bx:=by
  intro k' bg;by_cases bI:k'=k
  .subst bI;rw[ee];exact⟨af,rfl,λb1 dg=>by simp at dg;subst dg;exact⟨b,hk,sW⟩⟩
  .rw[bQ σ _ bI];exact⟨bg,rfl,λb hb=>⟨b,hb,.refl b⟩⟩
 have aL:db S w S w':=by
  intro g' o h;refine⟨h,Ð (rL g' ?_)⟩
  rintro rfl
  exact hS o h
 have bF:∀k' b1,(σ.setB k (.live b')).bx k' = .live b1->∃b2,σ.bx k' = .live b2:=by
  intro k' b1 h1;by_cases bI:k'=k
  .subst bI;exact⟨b,hk⟩
  .rw[bQ σ _ bI]at h1;exact⟨b1,h1⟩
 refine Rel.step (bx':=(σ.setB k (.live b')).bx) hR aL hle ?_ ?_ ?_ hR.new ?_ ?_ ?_ (nt.trans hR.os) (Ea.trans hR.tape) (dX.trans hR.output) (λg' _ _ h=>⟨rL g' (λe=>h k b hk (e▸hg)),λk' b1 h1=>by
  obtain⟨b2,h2⟩:=bF k' b1 h1;exact h k' b2 h2⟩)
 .intro k' b1 h1;by_cases bI:k'=k
  .subst bI;rw[ee]at h1;simp at h1;subst h1;exact hb hle aL
  .rw[bQ σ _ bI]at h1;refine dQ.keep aL hle rfl (λg' ao=>⟨?_,λ_=>ã⟩) (hR.box k' b1 h1);exact rL g' (λh=>hR.apart k' k b1 b g bI h1 hk (h▸ao) hg)
 .intro k' b1 g' h1 ao;obtain⟨b2,h2⟩:=bF k' b1 h1;exact hR.own k' b2 g' h2 ao
 .intro k1 k2 b1 b2 g' br h1 h2 ao;obtain⟨rm,kB⟩:=bF k1 b1 h1;obtain⟨rq,jA⟩:=bF k2 b2 h2;exact hR.apart k1 k2 rm rq g' br kB jA ao
 .intro g' o h;rw[bW];exact hR.here g' o h
 .intro g' ao hr;rw[rL g' ?_]
  .exact hR.below g' ao hr
  .rintro rfl
   rcases hR.own k b _ hk hg with h|h
   .exact h.no aa hr
   .exact hr h.1
 .rw[bW];exact hR.grow
theorem XX{P:À}{E:Env}(hT:ca P E.T)(hR:Rel N np S0 w0 refs σ a w S γ){rw:H->BS}(gQ:RdR σ rw){t:H}{k v:Ty}(ht:uE E.T t=D (k,v)){x y:Leaf}{b:H}{ys:F (k.den×v.den)}{q:k.den}
  (h:mapC rw t k v x y=D (b,ys,q)){zx zy zz:G}(hx:bj S w γ σ.bx x zx)(hy:bj S w γ σ.bx y zy){rdf:H->BS}(bc:RdF np σ rdf){c:Cel}{z:v.den}{u:Ups}(hd:nM rdf v c=D (z,u))(hz:bE S w γ σ.bx c zz) :
  ∃w' S',(Ý t zx zy zz).run P w = .ok () w'/\Rel N np S0 w0 refs (σ.upd (u++[(b,.live (.lst (4294967296+t) (.pair k v) (@lk _ _ k.keq ys q z) U))])) a w' S' γ:=by
 obtain⟨kt,vt,tv,fY,vQ,nw,D9,AZ⟩:=PA hT ht;obtain⟨rfl,rfl,hb⟩:=PB gQ h;obtain⟨gM,bB,_⟩:=Ag bc hR.box hd hz;obtain⟨S1,bm,cg,fF,dm⟩:=lO u σ S hR gM;have Bc:u.any (λy=>y.1==b)=false:=by rw[qi];intro y hy XY;obtain⟨_,e,t',xs,f,h1,_,hm⟩:=gM y hy;rw[show y.1=b by simpa using XY,hb]at h1;cases h1;rw[AY]at hm;simp at hm
 have dg:(σ.upd u).bx b = .live (.lst (4294967296+t) (.pair k v) ys U):=(iv u σ Bc).trans hb;obtain⟨g,es,clock,hg,hh,ha,hq⟩:=PC bm dg;have A9:zx = .map (D g):=(hx.2.2 _ hb).trans hg;have Ba:zy=keyV k q:=(xZ nw).1 hy;subst A9;subst Ba;have PE:=bB S1 w cg fF;have vR:blk (γ b)=D g:=by rw[hg];rfl
 have hS:∀o,¬S1 g o:=((bm.box b _ dg).2 g vR).1 rfl;have Bb:=ñ (w:=w) vQ (Px nw q) U 9999
 have main:∃rM jJ,(Ý t (.map (D g)) (keyV k q) zz).run P w = .ok () { w with heap:=w.heap.setIfInBounds g (.map rM jJ) }/\All2 (AX S1 w k v) (@lk _ _ k.keq ys q z) rM.toList/\Hg rM jJ:=by
  rcases Ib nw q ha 0 with⟨h1,j,e,h2,h3,h4,h5,h6⟩|⟨h1,h2,h3,h4⟩
  .have hf:=Ò (w:=w) vQ h2;rw[ke]at hf;refine⟨es.modify j λe=>{ e with key:=keyV k q,val:=zz },clock,?_,?_,MapKept.stamped_modify hq.1 j _ (λ_ _=>rfl) (λe1 _ tF=>?_),?_⟩
   .have Ie:((es[j]?).map (·.key)).getD (keyV k q)=keyV k q:=by rw[show es[j]? = D e by simpa using h3];exact h4
    simp only[Ý,J,run_underlying fY,I,Í hh,Bb,hf,Instr.keyThatStays,Ie,Py nw q,if_true,Ã,í _ hh]
   .have e1:(es.modify j λe=>{ e with key:=keyV k q,val:=zz }).toList=es.toList.set j { e with key:=keyV k q,val:=zz }:=by
     refine æ λi=>?_;rw[Û,ï,List.getElem?_set];have tE:es[j]? = D e:=by simpa using h3
     by_cases eJ:j=i
     .subst eJ;simp only[if_true,tE,qa];rw[if_pos (by simpa using (jn.1 tE).1)]
     .simp[eJ]
    rw[e1];exact h6 z _ rfl PE
   .rw[show es[j]? = D e by simpa using h3]at tF;cases tF;exact h4.symm
   .rw[<-hq.2];refine æ λi=>?_;rw[qm,qm,Û,Û,ï];split
    .rename_i eJ;subst eJ;cases es[j]? <;> rfl
    .rfl
  .have hf:=Ò (w:=w) vQ h2;refine⟨es.push { key:=keyV k q,val:=zz,born:=clock },clock+1,?_,?_,MapKept.stamped_push hq.1 (Pz nw ha h1),by rw[û,List.map_append,hq.2,ÿ];rfl⟩
   .simp only[Ý,J,run_underlying fY,I,Í hh,Bb,hf,í _ hh]
   .rw[h4 z,û];exact ha.append ⟨⟨(xZ nw).2 rfl,PE⟩,trivial⟩
 obtain⟨rM,jJ,aE,ar,As⟩:=main;have ay:g<w.heap.size:=(jn.1 hh).1;refine⟨_,S1,aE,?_⟩;rw[gN];refine XW bm dg vR hS (b':= .lst (4294967296+t) (.pair k v) (@lk _ _ k.keq ys q z) U) ⟨rfl,rfl,λhm=>by rw[AY]at hm;simp at hm⟩ (λi hi=>by simp[Ne.symm hi]) af rfl rfl rfl λhle aL=>?_;refine⟨.inr ⟨AY t,g,rM,jJ,hg,by simp[ay],ar.mono λx e hx=>⟨Rep.keep aL _ _ _ hx.1,VRep.keep aL hx.2⟩,As⟩,λg' ao=>?_⟩;rw[vR]at ao;simp at ao;subst ao;exact⟨λ_=>hS,λh=>by simp at h⟩
theorem XZ{P:À}(hR:Rel N np S0 w0 refs σ a w S γ){n t:H}{k v:Ty}(hn:σ.bx n = .free) :
  ∃γ',(Instr.makeMap t M).run P w = .ok (.map (D w.heap.size)) (w.alloc (.map #[] 0))/\Rel N np S0 w0 refs (σ.setB n (.live (.lst (4294967296+t) (.pair k v) [] U))) a (w.alloc (.map #[] 0)) S γ'/\
   bE S (w.alloc (.map #[] 0)) γ' (σ.setB n (.live (.lst (4294967296+t) (.pair k v) [] U))).bx (.one (.ol n)) (.map (D w.heap.size)):=by
 have Bc:=DU hR hn (o:= .map #[] 0) (b:= .lst (4294967296+t) (.pair k v) [] U) (v:= .map (D w.heap.size)) (λg hg=>by simp[blk]at hg;exact hg.symm) (λhle=>by
  refine⟨.inr ⟨AY t,w.heap.size, #[],0,dH _ _ _,heap_alloc_new w _,trivial,MapKept.stamped_empty 0,rfl⟩,λg hg=>?_⟩;rw[dH]at hg;simp[blk]at hg;subst hg;exact⟨λ_ o ho=>by have:=hR.here _ o ho;omega,λh=>by simp at h⟩)
 refine⟨_,rfl,Bc.1,⟨?_,rfl,λb hb=>(dH _ _ _).symm⟩,λ_=>rfl⟩;rw[ee];simp
end
section
variable{N:NT}{np:H}{S0:aM}{w0:Â}{refs:Refs}{σ:St}{a:Þ}{w:Â}{S:aM}{γ:H->G}
theorem X0{P:À}{E:Env}(hT:ca P E.T)(hR:Rel N np S0 w0 refs σ a w S γ){rdf:H->BS}(bc:RdF np σ rdf){t:Æ}{ti:TyI}(ht:E.T t=D ti)
  {m:H}{el:Ty}(bn:ti.ty=D (.arr m el)){ps:F (H×Cel)}{vs:È (H×G)}{xs:F el.den}{u:Ups}
  (ib:All2 (λp v=>p.1=v.1/\bE S w γ σ.bx p.2 v.2) ps vs.toList)(h:iJ rdf el (O m el.dflt) [] ps=D (xs,u)) :
  ∃v S',(Ù t vs).run P w = .ok v w/\Rel N np S0 w0 refs (σ.upd u) a w S' γ/\bE S' w γ (σ.upd u).bx (.av m el xs) v:=by
 obtain⟨fY,cI,te,cF,tG⟩:=xF hT ht bn;have bW:=jY hT cF tG;obtain⟨z,hz,fX⟩:=uM hT ht w bn;obtain⟨gM,cU⟩:=HH bc hR.box cI ps vs.toList ib h .nil;obtain⟨S1,bm,cg,fF,dm⟩:=lO u σ S hR gM;obtain⟨O1,css,ar,kL⟩:=nU (S:=S1) (w:=w) (.arr m el);obtain⟨bq,jD,eS,gi,cT⟩:=cU S1 cg fF css z.cells ar (by rw[fX];exact kL)
 have hlen:∀(ps:F (H×Cel)){xs cE:F el.den}{u u':Ups},iJ rdf el xs u ps=D (cE,u')->cE.length=xs.length:=by
  intro ps;induction ps with
  |nil=>intro xs cE u u' h;simp[iJ]at h;rw[h.1]
  |cons p ps ih=>
   intro xs cE u u' h;obtain⟨i,c⟩:=p;simp only[iJ]at h;split at h
   .split at h
    .rw[ih h];simp
    .simp at h
   .simp at h
 have nX:xs.length=m:=by rw[hlen ps h];simp
 refine⟨.agg bq,S1,?_,bm,bq,rfl,nX,jD,gi,cT⟩;simp only[Ù,J,hz,I,run_underlying fY,gL hT cF,<-bW,eS,Ã]
theorem X1{P:À}{E:Env}(hT:ca P E.T){bx:H->BS}{t:Æ}{ti:TyI}(ht:E.T t=D ti){m:H}{el:Ty}(bn:ti.ty=D (.arr m el)) :
  ∃v,(Ù t #[]).run P w = .ok v w/\bE S w γ bx (.st (mz (.arr m el))) v:=by
 obtain⟨fY,cI,te,cF,tG⟩:=xF hT ht bn;obtain⟨z,hz,fX⟩:=uM hT ht w bn;refine⟨.agg z.cells,?_,z.cells,rfl,by rw[fX];exact tg (.arr m el),λu hu=>DZ fX u (by simpa using hu)⟩;simp only[Ù,J,hz,I,run_underlying fY,gL hT cF];rfl
theorem PF{rd:H->BS}(aO:RdF np σ rd)(hB:sZ S w γ σ.bx){el:Ty}:∀{ls:F Leaf}{xs:F el.den}{u:Ups}{zs:F G},qV rd el ls=D (xs,u)->All2 (bj S w γ σ.bx) ls zs->
  FrzL np σ.bx u/\∀S' w',db S w S' w'->Froz σ.bx γ S' w' u->All2 (λx z=>Rep S' w' el x [z]) xs zs
 |[],xs,u,zs,h,ha=>by
  simp[qV]at h;obtain⟨rfl,rfl⟩:=h;cases zs with
  |nil=>exact⟨.nil,λ_ _ _ _=>trivial⟩
  |cons _ _=>exact ha.elim
 |l::ls,xs,u,zs,h,ha=>by
  cases zs with
  |nil=>exact ha.elim
  |cons z zs=>
   simp only[qV]at h;split at h
   .rename_i x u1 D0 u2 h1 h2;simp only[jb,jf]at h;obtain⟨rfl,rfl⟩:=h;obtain⟨f1,p1⟩:=tc aO hB h1 ha.1;obtain⟨f2,p2⟩:=PF aO hB h2 ha.2;exact⟨FrzL.app.2 ⟨f1,f2⟩,λS' w' hk hf=>⟨p1 S' w' hk (Froz.app.1 hf).1,p2 S' w' hk (Froz.app.1 hf).2⟩⟩
   .simp at h
theorem PG{el:Ty}{S':aM}{w':Â}:∀{xs:F el.den}{zs:F G},All2 (λx z=>Rep S' w' el x [z]) xs zs->∃css,All2 (λx c=>Rep S' w' el x c) xs css/\zs=css.flatten
 |[],[],_=>⟨[],trivial,rfl⟩
 |x::xs,z::zs,h=>by
  obtain⟨css,h1,h2⟩:=PG h.2;exact⟨[z]::css,⟨h.1,h1⟩,by simp[h2]⟩
 |[],_::_,h=>h.elim
 |_::_,[],h=>h.elim
theorem X2{P:À}{E:Env}(hT:ca P E.T)(hR:Rel N np S0 w0 refs σ a w S γ){rd rdf:H->BS}(aO:RdOk σ rd)(bc:RdF np σ rdf){t:Æ}{ti:TyI}(ht:E.T t=D ti)
  {x:Leaf}{m:H}{el:Ty}{ls:F Leaf}{xs:F el.den}{u:Ups}{v:G}(h:qW rd ti.ty x=D (m,el,ls))(hg:qV rdf el ls=D (xs,u))(hl:xs.length=m)(hx:bj S w γ σ.bx x v) :
  ∃z S',(Instr.loadAt t v).run P w = .ok z w/\Rel N np S0 w0 refs (σ.upd u) a w S' γ/\bE S' w γ (σ.upd u).bx (.av m el xs) z:=by
 unfold qW at h;split at h
 .rename_i k;split at h
  .rename_i m' DW bn;split at h
   .split at h
    .rename_i fw hk;simp only[jb,jf]at h;obtain⟨rfl,rfl,rfl⟩:=h;have hk:=aO.live hk;obtain⟨g,ao,hu⟩:=hx.2.2 _ hk;obtain⟨g',cur,e,gh,hh,ha,h1,_⟩:=hR.box k _ hk;rw[ao]at gh;simp at gh;subst gh;obtain⟨gM,cU⟩:=PF bc hR.box hg ha;obtain⟨S1,bm,cg,fF,dm⟩:=lO u σ S hR gM;obtain⟨css,ar,dR⟩:=PG (cU S1 w cg fF);have bB:Rep S1 w (.arr m' DW) xs (cur.toList.take fw.length):=⟨hl,css,ar,dR⟩;obtain⟨Hq,_,_⟩:=xF hT ht bn;have bW:(cur.toList.take fw.length).length=ti.size:=by have:=Rep.length _ _ _ bB;rw[jY hT ht bn]at this;exact this
     refine⟨.agg (cur.toList.take fw.length).toArray,S1,?_,bm,(cur.toList.take fw.length).toArray,rfl,by simpa using bB⟩;subst hu
     have Eb:=Ox (w:=w) (g:=g) (o:=0) (cs:=cur.toList.take fw.length) (λj v hv=>by
      rw[ke,cell_of_row w g j cur e (0,0) hh];rw[qp]at hv;split at hv
      .simpa using hv
      .simp at hv) P
     rw[bW]at Eb;have iZ:(isAgg t).run P w = .ok Ä w:=by simp[isAgg,run_underlying Hq]
     simp only[Instr.loadAt,J,Instr.sureAddr,Ã,I,loadVar,iZ,if_true,gL hT ht,Eb]
    .simp at h
   .simp at h
  .simp at h
 .simp at h
def Slot.bare:Slot->Ö
 |.cnd _ _ _=>U
 |_=>Ä
theorem X3{fr:Ö}{e:H}{b:Ty}{n len:H}{ps:F (H×Cel)}{f:H}{args:F Arg}{mk:Ret->Á (Slot×Ups)}:one1 fr e b n len ps≠D (.call f args mk):=by
 unfold one1;split
 .split
  .split<;>simp
  .simp
 .simp
theorem PH(cs:F Cel):(zF cs).bare=true:=by
 unfold zF;split<;>rfl
theorem PI(hR:Rel N np S0 w0 refs σ a w S γ){act:F (H×Ö)}(aS:oy (tm a) act)(ps:F (H×þ)) :
  All2 (λp v=>p.1=v.1/\bE S w γ σ.bx p.2 v.2) (ps.map λp=>(p.1,(σ.ev p.2).cel act)) (ps.map λp=>(p.1,a.eval p.2)):=by
 induction ps with
 |nil=>trivial
 |cons p ps ih=>exact⟨⟨rfl,dK hR aS p.2⟩,ih⟩
theorem Ec(hR:Rel N np S0 w0 refs σ a w S γ){act:F (H×Ö)}(aS:oy (tm a) act)(ps:F þ) :
  All2 (bE S w γ σ.bx) (ps.map λp=>(σ.ev p).cel act) (ps.map a.eval):=by
 induction ps with
 |nil=>trivial
 |cons p ps ih=>exact⟨dK hR aS p,ih⟩
theorem vS{rd:H->BS}(aO:RdOk σ rd):RdF np σ (λk=>if parK np k then .gone else rd k):=by
 refine⟨λk=>?_,λk e a xs f h=>?_⟩
 rotate_left
 .dsimp only at h
  split at h
  .simp at h
  .exact aO.2 k e a xs f h
 dsimp only
 split
 .exact .inr rfl
 .rename_i hp;rcases aO.1 k with h|h
  .exact .inl ⟨h,by simpa using hp⟩
  .exact .inr h
theorem tH{P:À}{o:Oper}{l:Leaf}{v:G}(hR:Rel N np S0 w0 refs σ a w S γ)(hr:(execOp a.eval o).run P w = .ok (.value v) w)
  (hs:bj S w γ σ.bx l v)(h1:One v):Hl P N np S0 w0 refs o σ a w S γ (.one (.one l)) []:=
 iY hR hr ⟨hs,λ_=>h1⟩
theorem vT{c:Cel}{l:Leaf}(h:lf c=l)(hd:l ≠ .dead):c = .one l:=by
 cases c with
 |one x=>simp[lf]at h;rw[h]
 |st ls=>simp[lf]at h;exact absurd h.symm hd
 |av n a xs=>simp[lf]at h;exact absurd h.symm hd
theorem Ig{P:À}{E:Env}(hT:ca P E.T)(hR:Rel N E.np S0 w0 refs σ a w S γ){act:F (H×Ö)}(aS:oy (tm a) act){rw:H->BS}(gQ:RdR σ rw)
  {o:Oper}{s:Slot}{u:Ups}(h:dE E σ.ev rw act o=D (.val Ä s u)):Hl P N E.np S0 w0 refs o σ a w S γ s u/\s.bare=true:=by
 have aO:RdOk σ (mskM rw):=gQ.msk;have bc:=vS (np:=E.np) aO;have hex:∀op,o.op=op->execOp a.eval o=execOp a.eval { o with op:=op }:=λop h=>by subst h;rfl
 unfold dE at h;dsimp only at h;split at h
 ·-- move
  rename_i x bK;split at h
  .rename_i l hl;simp only[jb,Act.val.injEq]at h;obtain⟨_,rfl,rfl⟩:=h;have:=jZ hR x;rw[hl]at this;exact⟨iY hR (v:=a.eval x) (by simp[execOp,bK]) this,rfl⟩
  .simp only[jb,Act.cel,Act.val.injEq]at h;obtain⟨_,rfl,rfl⟩:=h;exact⟨iY hR (v:=a.eval x) (by simp[execOp,bK]) (dK hR aS x),rfl⟩
 ·-- assign
  rename_i x bK;split at h
  .rename_i l hl;simp only[jb,Act.val.injEq]at h;obtain⟨_,rfl,rfl⟩:=h;have:=jZ hR x;rw[hl]at this;exact⟨iY hR (v:=a.eval x) (by simp[execOp,bK]) this,rfl⟩
  .simp only[jb,Act.cel,Act.val.injEq]at h;obtain⟨_,rfl,rfl⟩:=h;exact⟨iY hR (v:=a.eval x) (by simp[execOp,bK]) (dK hR aS x),rfl⟩
 ·-- pick
  rename_i x y z bK;split at h
  .rename_i v hv;have hx:=dK hR aS x;have Ih:a.eval x = .bool v:=by have:=vT hv af;rw[this]at hx;exact qA hx
   have aE:(execOp a.eval o).run P w = .ok (.value (if v then a.eval y else a.eval z)) w:=by simp[execOp,bK,Ih,asBool]
   have hy:v=Ä->bE S w γ σ.bx ((σ.ev y).cel (DJ x Ä act)) (a.eval y):=by
    intro ya;refine Hm ?_ (jZ hR y);cases x with
    |tmp t=>
     intro g hg;rcases jm.1 hg with rfl|hg
     .simp only;rw[<-ya];exact Ih
     .exact aS g hg
    |_=>exact aS
   have hz:v=U->bE S w γ σ.bx ((σ.ev z).cel (DJ x U act)) (a.eval z):=by
    intro ya;refine Hm ?_ (jZ hR z);cases x with
    |tmp t=>
     intro g hg;rcases jm.1 hg with rfl|hg
     .simp only;rw[<-ya];exact Ih
     .exact aS g hg
    |_=>exact aS
   split at h
   .rename_i t p t' q hp hq;split at h
    .rename_i q' iO;simp only[jb,Act.leaf,Act.val.injEq]at h;obtain⟨_,rfl,rfl⟩:=h;have:=lv iO;cases this;refine⟨iY hR aE ?_,rfl⟩;cases v with
     |true=>have:=hy rfl;rw[hp]at this;exact this
     |false=>have:=hz rfl;rw[hq]at this;exact this
    .simp at h
   .rename_i t p hp hq;simp only[jb,Act.val.injEq]at h;obtain⟨gp,rfl,rfl⟩:=h;have gp:v=true:=gp;subst gp;refine⟨iY hR aE ?_,rfl⟩;have:=hy rfl;rw[hp]at this;exact this
   .rename_i t q hp hq;simp only[jb,Act.val.injEq]at h;obtain⟨gp,rfl,rfl⟩:=h;have gp:v=false:=by simpa using gp
    subst gp;refine⟨iY hR aE ?_,rfl⟩;have:=hz rfl;rw[hq]at this;exact this
   .simp at h
  .simp at h
 ·-- alloc
  rename_i t bK;split at h
  .rename_i ti ht;split at h
   .rename_i aV;have hd:=aO.free aV;split at h
    .rename_i k el bn;split at h
     .simp only[jb,Act.val.injEq]at h;obtain⟨_,rfl,rfl⟩:=h;obtain⟨z,fX,hz⟩:=HG (w:=w) hT ht bn;obtain⟨cJ,hc⟩:=Hw hR hd (ls:=mz (.arr k el)) (cur:=z.cells) (e:=t) (by rw[fX];exact tg (.arr k el)) (DZ fX);exact⟨⟨_,_,S,_,.inl (by simp[execOp,bK,hz]),cJ,hc⟩,rfl⟩
     simp only[jb,Act.val.injEq]at h;obtain⟨_,rfl,rfl⟩:=h;obtain⟨z,fX,hz⟩:=HG (w:=w) hT ht bn;obtain⟨cJ,hc⟩:=OE hR hd (m:=k) (t:=el) (xs:=O k el.dflt) (cur:=z.cells) (e:=t) (by rw[fX];exact nU (.arr k el));exact⟨⟨_,_,S,_,.inl (by simp[execOp,bK,hz]),cJ,hc⟩,rfl⟩
    .rename_i ty br bn;simp only[jb,Act.val.injEq]at h;obtain⟨_,rfl,rfl⟩:=h;obtain⟨z,fX,hz⟩:=HG (w:=w) hT ht bn;obtain⟨cJ,hc⟩:=Hw hR hd (ls:=mz ty) (cur:=z.cells) (e:=t) (by rw[fX];exact tg ty) (DZ fX);exact⟨⟨_,_,S,_,.inl (by simp[execOp,bK,hz]),cJ,hc⟩,rfl⟩
    .simp at h
   .simp at h
  .simp at h
 ·-- box
  rename_i t x bK;split at h
  .rename_i aV;have hd:=aO.free aV;have hx:=dK hR aS x;split at h
   .rename_i k el xs hc;simp only[jb,Act.val.injEq]at h;obtain⟨_,rfl,rfl⟩:=h;rw[hc]at hx;obtain⟨cs,hu,bB⟩:=hx;obtain⟨cJ,ia⟩:=OE hR hd (m:=k) (t:=el) (xs:=xs) (cur:=(a.eval x).cells) (e:=t) (by rw[hu];exact bB);exact⟨⟨_,_,S,_,.inl (by simp[execOp,bK,OT]),cJ,ia⟩,rfl⟩
   .split at h
    .rename_i ls lT;simp only[jb,Act.val.injEq]at h;obtain⟨_,rfl,rfl⟩:=h;obtain⟨hl,h1⟩:=uS lT hx;obtain⟨cJ,ia⟩:=Hw hR hd (ls:=ls) (cur:=(a.eval x).cells) (e:=t) hl h1;exact⟨⟨_,_,S,_,.inl (by simp[execOp,bK,OT]),cJ,ia⟩,rfl⟩
    .simp at h
  .simp at h
 ·-- build
  rename_i t ps bK;have ib:=PI hR aS ps.toList;have pb:All2 (λp v=>p.1=v.1/\bE S w γ σ.bx p.2 v.2) (ps.toList.map λp=>(p.1,(σ.ev p.2).cel act)) (ps.map λp=>(p.1,a.eval p.2)).toList:=by simpa using ib
  split at h
  .rename_i ti ht;split at h
   .rename_i k el bn;split at h
    .rename_i Ed;simp only[jb,Act.cel,Act.val.injEq]at h;obtain⟨_,rfl,rfl⟩:=h;obtain⟨v,aE,hc⟩:=X1 (w:=w) (S:=S) (γ:=γ) (bx:=σ.bx) hT ht bn;have mK:ps = #[]:=by simp only[jh,List.isEmpty_iff]at Ed;exact vg.1 Ed.2
     subst mK;exact⟨iY hR (v:=v) (by simp[execOp,bK,aE]) hc,rfl⟩
    split at h
    .rename_i xs u' hb;simp only[jb,Act.val.injEq]at h;obtain⟨_,rfl,rfl⟩:=h;obtain⟨v,S',aE,cJ,hc⟩:=X0 hT hR bc ht bn pb hb;exact⟨⟨v,w,S',γ,.inl (by simp[execOp,bK,aE]),cJ,hc⟩,rfl⟩
    .simp at h
   .rename_i ty br bn;split at h
    .rename_i lN;split at h
     .rename_i ls hb;simp only[jb,Act.cel,Act.val.injEq]at h;obtain⟨_,rfl,rfl⟩:=h;obtain⟨v,aE,hc⟩:=Xb hT ht bn lN pb hb;exact⟨iY hR (v:=v) (by simp[execOp,bK,aE]) hc,rfl⟩
     .simp at h
    .simp at h
   .simp at h
  .simp at h
 ·-- buildSlice
  rename_i t len ps bK;have ib:=PI hR aS ps.toList;have pb:All2 (λp v=>p.1=v.1/\bE S w γ σ.bx p.2 v.2) (ps.toList.map λp=>(p.1,(σ.ev p.2).cel act)) (ps.map λp=>(p.1,a.eval p.2)).toList:=by simpa using ib
  split at h
  .rename_i ti ht;split at h
   .rename_i el bn;split at h
    .obtain⟨_,rfl,v',w',γ',aE,cJ,hc⟩:=Xx hT hR ht bn aO.free pb h;exact⟨⟨v',w',S,γ',.inl (by simp[execOp,bK,aE]),cJ,hc⟩,rfl⟩
    split at h
    .simp at h
    .rename_i hlen;split at h
     .rename_i xs u' hb;split at h
      .rename_i aV;simp only[jb,Act.val.injEq]at h;obtain⟨_,rfl,rfl⟩:=h;obtain⟨v',w',S',γ',aE,cJ,hc⟩:=Xw hT hR bc ht bn aa pb hb (aO.free aV);exact⟨⟨v',w',S',γ',.inl (by simp[execOp,bK,aE]),cJ,hc⟩,rfl⟩
      .simp at h
     .simp at h
   .simp at h
  .simp at h
 ·-- load
  rename_i t x bK;split at h
  .rename_i ti ht;split at h
   .rename_i m el ls pd;split at h
    .rename_i xs u' hg;split at h
     .rename_i hlen;simp only[jb,Act.val.injEq]at h;obtain⟨_,rfl,rfl⟩:=h;obtain⟨z,S',hz,cJ,gg⟩:=X2 hT hR aO bc ht pd hg hlen (gf (dK hR aS x));exact⟨⟨z,w,S',γ,.inl (by simp[execOp,bK,hz]),cJ,gg⟩,rfl⟩
     .simp at h
    .simp at h
   unfold oCel at h;split at h
   .rename_i c hc;simp only[jb,Act.cel,Act.val.injEq]at h;obtain⟨_,rfl,rfl⟩:=h;obtain⟨z,hz,gg⟩:=Oz hT hR aO ht hc (gf (dK hR aS x));exact⟨iY hR (v:=z) (by simp[execOp,bK,hz]) gg,rfl⟩
   .simp at h
  .simp at h
 ·-- store
  rename_i t x y bK;split at h
  .rename_i ti ht;split at h
   .rename_i u' hu;simp only[jb,Act.val.injEq]at h;obtain⟨_,rfl,rfl⟩:=h;obtain⟨w',S',aE,cJ⟩:=WT hT hR aO bc ht hu (gf (dK hR aS x)) (dK hR aS y);exact⟨⟨undef,w',S',γ,.inr ⟨by simp[execOp,bK,aE],rfl⟩,cJ,⟨trivial,λh=>absurd rfl h⟩⟩,rfl⟩
   .simp at h
  .simp at h
 ·-- nilCheck
  rename_i x bK;have hx:=dK hR aS x;split at h
  .rename_i k p hl;split at h
   .rename_i eY;simp only[jb,Act.leaf,Act.val.injEq]at h;obtain⟨_,rfl,rfl⟩:=h;rw[vT hl af]at hx;obtain⟨b,hb⟩:=Ad eY;obtain⟨g,_,hu⟩:=hx.1.2.2 b (aO.live hb);exact⟨iY hR (v:=a.eval x) (by simp[execOp,bK,hu]) hx,rfl⟩
   .simp at h
  .rename_i k i p hl;split at h
   .rename_i eY;simp only[jb,Act.leaf,Act.val.injEq]at h;obtain⟨_,rfl,rfl⟩:=h;rw[vT hl af]at hx;obtain⟨b,hb⟩:=Ad eY;have h3:=hx.1.2.2 b (aO.live hb)
    have hu:∃g o,a.eval x = .pointer (D ⟨g,o,M⟩):=by
     cases b with
     |cell ls f=>exact h3.elim
     |lst e t xs f=>obtain⟨_,_,g,cap,_,hu⟩:=h3;exact⟨_,_,hu⟩
     |arr n t xs=>obtain⟨_,g,_,hu⟩:=h3;exact⟨_,_,hu⟩
     |row e t n ls=>obtain⟨_,_,g,cap,_,hu⟩:=h3;exact⟨_,_,hu⟩
    obtain⟨g,X4,hu⟩:=hu;exact⟨iY hR (v:=a.eval x) (by simp[execOp,bK,hu]) hx,rfl⟩
   .simp at h
  .rename_i ls hl;simp only[jb,Act.leaf,Act.val.injEq]at h;obtain⟨_,rfl,rfl⟩:=h;rw[vT hl af]at hx;obtain⟨g,X4,cs,hu,_⟩:=hx.1;exact⟨iY hR (v:=a.eval x) (by simp[execOp,bK,hu]) hx,rfl⟩
  .simp at h
 ·-- binOp
  rename_i op t x y rest bK;unfold oChk at h;split at h
  .rename_i b c hc;simp only[jb,Act.val.injEq]at h;obtain⟨rfl,rfl,rfl⟩:=h;obtain⟨z,hz,hl,h1⟩:=Wo (x:=x) (y:=y) hT hc (dK hR aS x) (dK hR aS y);refine⟨tH hR ?_ hl h1,rfl⟩;simp only[execOp,bK];rw[J,hz];rfl
  .simp at h
 ·-- unOp
  rename_i op t x bK;unfold lL at h;split at h
  .rename_i c hc;simp only[jb,Act.leaf,Act.val.injEq]at h;obtain⟨_,rfl,rfl⟩:=h;obtain⟨z,hz,hl,h1⟩:=Wp hc (dK hR aS x);refine⟨tH hR ?_ hl h1,rfl⟩;simp only[execOp,bK];rw[J,hz];rfl
  .simp at h
 ·-- convert
  rename_i src dst x bK;split at h
  .rename_i ts ti lY ht;split at h
   .rename_i k v k0 k' hl Ii bn;simp only[jb,Act.leaf,Act.val.injEq]at h;obtain⟨_,rfl,rfl⟩:=h;have hx:=dK hR aS x;rw[vT hl af]at hx;have hu:=rk hx;have fY:=Hk hT ht bn;refine⟨tH hR (v:= .int k' (k'.wrap v)) ?_ rfl rfl,rfl⟩;have Bd:=Hk hT lY Ii;simp only[execOp,bK];rw[J];have:(convert src dst (a.eval x)).run P w = .ok (.int k' (k'.wrap v)) w:=by simp only[hu,convert,J,run_underlying Bd,run_underlying fY,I];simp[Conv.intToInt]
    rw[this];rfl
   .simp at h
  .simp at h
 ·-- makeFunc
  rename_i f first caps bK
  split at h
  .rename_i gS;split at h
   .split at h
    .rename_i ks hl;simp only[jb,Act.val.injEq]at h;obtain⟨_,rfl,rfl⟩:=h;have cm:=Ec hR aS caps.toList;have pg:first = #[]:=by simpa using gS
     refine⟨⟨.func (.func f) #[] (caps.map a.eval),w,S,γ,.inl ?_,hR,⟨⟨_,rfl,by
      have:=O5 hl cm;rw[<-Array.toList_map]at this;exact this⟩,λ_=>rfl⟩⟩,rfl⟩
     simp[execOp,bK,pg,Instr.makeFunc]
    .simp at h
   split at h
   .rename_i l u' hl;simp only[jb,Act.val.injEq]at h;obtain⟨_,rfl,rfl⟩:=h;have cm:=Ec hR aS caps.toList;obtain⟨S',cJ,_,ej,_⟩:=O4 bc hl hR cm;have pg:first = #[]:=by simpa using gS
    refine⟨⟨.func (.func f) #[] (caps.map a.eval),w,S',γ,.inl ?_,cJ,⟨⟨_,rfl,by simpa using ej⟩,λ_=>rfl⟩⟩,rfl⟩;simp[execOp,bK,pg,Instr.makeFunc]
   .simp at h
  .simp at h
 ·-- fieldAddr
  rename_i t x i bK;split at h
  .rename_i ti ht;unfold lL at h;split at h
   .rename_i c hc;simp only[jb,Act.leaf,Act.val.injEq]at h;obtain⟨_,rfl,rfl⟩:=h;obtain⟨z,hz,hl,h1⟩:=Wz hT aO ht hc (gf (dK hR aS x));exact⟨tH hR (by simp[execOp,bK,hz]) hl h1,rfl⟩
   .simp at h
  .simp at h
 ·-- field
  rename_i t x i bK;split at h
  .rename_i ti ht;split at h
   .rename_i ls f hc hf;split at h
    .rename_i tf ox;unfold oCel at h;split at h
     .rename_i c bk;simp only[jb,Act.cel,Act.val.injEq]at h;obtain⟨_,rfl,rfl⟩:=h;have hx:=dK hR aS x;rw[hc]at hx;obtain⟨cs,hu,ar,h1⟩:=hx;obtain⟨fs,fY,fl,gM,iV,Be,tf',X5,cI⟩:=Oj hT ht hf;rw[<-Be]at ox;have gi:=(ar.drop fl.offset).take tf.size;have kB:∀u∈(cs.toList.drop fl.offset).take tf.size,One u:=λu dL=>h1 u (z5 (qd dL));rw[<-iV]at bk
      have oA:∃z,(part fl.type cs fl.offset).run P w = .ok z w/\bE S w γ σ.bx c z:=by
       unfold pY at bk;split at bk
       .rename_i iZ;split at bk
        .rename_i hlen;simp only[jb]at bk;subst bk;refine⟨.agg (cs.extract fl.offset (fl.offset+tf.size)),?_,_,rfl,?_,?_⟩
         .simp only[part,J,xE hT ox,iZ,I,if_true,gL hT ox,Ã]
         .have:(cs.extract fl.offset (fl.offset+tf.size)).toList=(cs.toList.drop fl.offset).take tf.size:=by simp[List.take_drop]
          rw[this];exact gi
         .have:(cs.extract fl.offset (fl.offset+tf.size)).toList=(cs.toList.drop fl.offset).take tf.size:=by simp[List.take_drop]
          rw[this];exact kB
        .simp at bk
       .rename_i iZ;split at bk
        .rename_i l' lZ;simp only[jb]at bk;subst bk;rw[lZ]at gi;cases hq:(cs.toList.drop fl.offset).take tf.size with
         |nil=>rw[hq]at gi;exact gi.elim
         |cons z zs=>
          rw[hq]at gi kB
          have hz:cs[fl.offset]? = D z:=by
           have:((cs.toList.drop fl.offset).take tf.size)[0]? = D z:=by rw[hq];rfl
           have:=Ac this;simpa using this
          refine⟨z,?_,gi.1,λ_=>kB z af⟩;simp only[part,J,xE hT ox,I,if_neg iZ,hz,Ã]
        .simp at bk
      obtain⟨z,hz,gg⟩:=oA;refine⟨iY hR (v:=z) ?_ gg,rfl⟩;simp only[execOp,bK,hu];rw[J];have:(Instr.field t (.agg cs) i).run P w = .ok z w:=by simp only[Instr.field,J,run_underlying fY,I,gM,asAgg,Ã,hz]
      rw[this];rfl
     .simp at h
    .simp at h
   .simp at h
  .simp at h
 ·-- indexAddr
  rename_i t x i bK;split at h
  .rename_i ti ht;unfold oChk at h;split at h
   .rename_i b c hc;simp only[jb,Act.val.injEq]at h;obtain⟨rfl,rfl,rfl⟩:=h;obtain⟨z,hz,hl,h1⟩:=WA hT hR aO ht hc (gf (dK hR aS x)) (gf (dK hR aS i));exact⟨tH hR (by simp[execOp,bK,hz]) hl h1,rfl⟩
   .simp at h
  .simp at h
 ·-- index
  rename_i t x i bK;split at h
  .rename_i ti ht;split at h
   .rename_i b c hc;simp only[jb,Act.val.injEq]at h;obtain⟨rfl,rfl,rfl⟩:=h;obtain⟨z,hz,gg⟩:=WD hT ht hc (dK hR aS x) (gf (dK hR aS i));exact⟨iY hR (v:=z) (by simp[execOp,bK,hz]) gg,rfl⟩
   .simp at h
  .simp at h
 ·-- makeMap
  rename_i t bK;split at h
  .rename_i k v ht;split at h
   .rename_i gC;simp only[jb,Act.val.injEq]at h;obtain⟨_,rfl,rfl⟩:=h;obtain⟨γ',aE,cJ,ia⟩:=XZ (P:=P) (t:=t) (k:=k) (v:=v) hR (aO.free gC);exact⟨⟨_,_,S,γ',.inl (by simp[execOp,bK,aE]),cJ,ia⟩,rfl⟩
   .simp at h
  .simp at h
 ·-- lookup
  rename_i t x i ok bK;split at h
  .rename_i k v ht;split at h
   .rename_i b ys q hm;obtain⟨z,hz,aE⟩:=XU hT hR gQ ht hm (gf (dK hR aS x)) (gf (dK hR aS i));split at h
    .simp only[jb,Act.val.injEq]at h;obtain⟨_,rfl,rfl⟩:=h;have hr:=aE Ä;simp only[if_true]at hr;refine⟨iY hR (v:= .tuple #[z,.bool (@pX _ _ k.keq ys q)]) (by simp[execOp,bK,hr]) ?_,rfl⟩;exact⟨_,rfl,xU hz,⟨rfl,λ_=>rfl⟩,trivial⟩
    .simp only[jb,Act.cel,Act.val.injEq]at h;obtain⟨_,rfl,rfl⟩:=h;have hr:=aE U;simp only[kp,z8]at hr;exact⟨iY hR (v:=z) (by simp[execOp,bK,hr]) (xU hz),rfl⟩
   .simp at h
  .simp at h
 ·-- mapUpdate
  rename_i t x i y bK;split at h
  .rename_i k v ht;split at h
   .rename_i b ys q z u' hm hd;simp only[jb,Act.val.injEq]at h;obtain⟨_,rfl,rfl⟩:=h;obtain⟨w',S',aE,cJ⟩:=XX hT hR gQ ht hm (gf (dK hR aS x)) (gf (dK hR aS i)) bc hd (dK hR aS y);exact⟨⟨undef,w',S',γ,.inr ⟨by simp[execOp,bK,aE],rfl⟩,cJ,⟨trivial,λh=>absurd rfl h⟩⟩,rfl⟩
   .simp at h
  .simp at h
 ·-- extract
  rename_i x i bK;split at h
  .rename_i l hl;split at h
   .rename_i c hc;simp only[jb,Act.cel,Act.val.injEq]at h;obtain⟨_,rfl,rfl⟩:=h;have hx:=jZ hR x;rw[hl]at hx;obtain⟨vs,hu,ar⟩:=hx;obtain⟨z,hz,gg⟩:=ar.get i c hc;refine⟨iY hR (v:=z) ?_ gg,rfl⟩;have Ij:vs[i]? = D z:=by simpa using hz
    simp[execOp,bK,hu,Instr.extract,Ij]
   .simp at h
  .simp at h
 ·-- call
  rename_i cl bK;have cm:=Ec hR aS cl.args.toList;split at h
  ·-- len
   rename_i cV;split at h
   .rename_i x t fj lY;split at h
    .rename_i ti ht;unfold lL at h;split at h
     .rename_i c hc;simp only[jb,Act.leaf,Act.val.injEq]at h;obtain⟨_,rfl,rfl⟩:=h;obtain⟨z,hz,hl,h1⟩:=WG (ty:=o.type) hT hR aO ht hc (gf (dK hR aS x));have e1:cl.args = #[x]:=by apply kr;simpa using fj
      have e2:cl.argTypes = #[t]:=by apply kr;simpa using lY
      refine⟨tH hR (v:=z) ?_ hl h1,rfl⟩;simp[execOp,bK,resolve,cV,invoke,builtin,e1,e2,hz]
     .simp at h
    .simp at h
   .simp at h
  ·-- min
   rename_i cV;unfold lL at h;split at h
   .rename_i c hc;simp only[jb,Act.leaf,Act.val.injEq]at h;obtain⟨_,rfl,rfl⟩:=h;obtain⟨z,hz,hl,h1⟩:=Wq (P:=P) (ts:=cl.argTypes) (ty:=o.type) hc cm;refine⟨tH hR (v:=z) ?_ hl h1,rfl⟩;have e1:cl.args.map a.eval=(cl.args.toList.map a.eval).toArray:=by apply kr;simp
    simp[execOp,bK,resolve,cV,invoke,builtin,e1,hz]
   .simp at h
  ·-- max
   rename_i cV;unfold lL at h;split at h
   .rename_i c hc;simp only[jb,Act.leaf,Act.val.injEq]at h;obtain⟨_,rfl,rfl⟩:=h;obtain⟨z,hz,hl,h1⟩:=Wr (P:=P) (ts:=cl.argTypes) (ty:=o.type) hc cm;refine⟨tH hR (v:=z) ?_ hl h1,rfl⟩;have e1:cl.args.map a.eval=(cl.args.toList.map a.eval).toArray:=by apply kr;simp
    simp[execOp,bK,resolve,cV,invoke,builtin,e1,hz]
   .simp at h
  ·-- append
   rename_i cV;split at h
   .rename_i t t' s' x lY fj;split at h
    .rename_i ph;subst ph;split at h
     .rename_i ti ht;split at h
      .rename_i el bn;split at h
       .rename_i b' v' u' hh;simp only[jb,Act.val.injEq]at h;obtain⟨rfl,rfl,rfl⟩:=h;obtain⟨z,w',aE,cJ,hl,h1⟩:=Xn (ty:=o.type) hT hR aO ht bn hh (gf (dK hR aS s')) (gf (dK hR aS x));have e1:cl.args = #[s',x]:=by apply kr;simpa using fj
        have e2:cl.argTypes = #[t,t]:=by apply kr;simpa using lY
        refine⟨⟨z,w',S,γ,.inl ?_,cJ,hl,λ_=>h1⟩,rfl⟩;simp[execOp,bK,resolve,cV,invoke,builtin,e1,e2,aE]
       split at h
       .rename_i v' u' hh;simp only[jb,Act.val.injEq]at h;obtain⟨_,rfl,rfl⟩:=h;obtain⟨z,w',γ',aE,cJ,hl,h1⟩:=Xq (ty:=o.type) hT hR aO bc ht bn hh (gf (dK hR aS s')) (gf (dK hR aS x));have e1:cl.args = #[s',x]:=by apply kr;simpa using fj
        have e2:cl.argTypes = #[t,t]:=by apply kr;simpa using lY
        refine⟨⟨z,w',S,γ',.inl ?_,cJ,hl,λ_=>h1⟩,rfl⟩;simp[execOp,bK,resolve,cV,invoke,builtin,e1,e2,aE]
       split at h
       .rename_i xs frz u' ys hs hx;split at h
        .rename_i aV;simp only[jb,Act.val.injEq,jp]at h;obtain⟨ei,rfl,rfl⟩:=h;obtain⟨v',w',S',γ',aE,cJ,ia⟩:=W0 (ty:=o.type) hT hR aO bc ht bn hs hx (aO.free aV) ei (gf (dK hR aS s')) (gf (dK hR aS x));have e1:cl.args = #[s',x]:=by apply kr;simpa using fj
         have e2:cl.argTypes = #[t,t]:=by apply kr;simpa using lY
         refine⟨⟨v',w',S',γ',.inl ?_,cJ,ia⟩,rfl⟩;simp[execOp,bK,resolve,cV,invoke,builtin,e1,e2,aE]
        .simp at h
       .simp at h
      .simp at h
     .simp at h
    .simp at h
   .simp at h
  ·-- value
   split at h
   .split at h
    .split at h
     .simp at h
     .simp at h
    .simp at h
   .split at h
    .split at h
     .simp at h
     .simp at h
    .simp at h
   .simp at h
  ·-- copy
   rename_i cV;split at h
   .rename_i t t' x y lY fj;split at h
    .rename_i ph;subst ph;split at h
     .rename_i ti ht;split at h
      .rename_i c u' hc;simp only[jb,Act.val.injEq]at h;obtain⟨_,rfl,rfl⟩:=h;obtain⟨v',w',aE,cJ,ia⟩:=Xk (ty:=o.type) hT hR aO ht hc (gf (dK hR aS x)) (gf (dK hR aS y));have e1:cl.args = #[x,y]:=by apply kr;simpa using fj
       have e2:cl.argTypes = #[t,t]:=by apply kr;simpa using lY
       refine⟨⟨v',w',S,γ,.inl ?_,cJ,ia⟩,rfl⟩;simp[execOp,bK,resolve,cV,invoke,builtin,e1,e2,aE]
      .simp at h
     .simp at h
    .simp at h
   .simp at h
  ·-- clear
   rename_i cV;split at h
   .rename_i t x lY fj;split at h
    .rename_i ti ht;split at h
     .rename_i u' hc;simp only[jb,Act.val.injEq]at h;obtain⟨_,rfl,rfl⟩:=h;obtain⟨v',w',aE,cJ⟩:=Xl (ty:=o.type) hT hR aO ht hc (gf (dK hR aS x));have e1:cl.args = #[x]:=by apply kr;simpa using fj
      have e2:cl.argTypes = #[t]:=by apply kr;simpa using lY
      refine⟨⟨v',w',S,γ,.inl ?_,cJ,⟨trivial,λh=>absurd rfl h⟩⟩,rfl⟩;simp[execOp,bK,resolve,cV,invoke,builtin,e1,e2,aE]
     .simp at h
    .simp at h
   .simp at h
  .simp at h
 ·-- slice
  rename_i t x lo hi bK;split at h
  .rename_i ti ht;split at h
   .rename_i b c u' hc;simp only[jb,Act.val.injEq]at h;obtain⟨rfl,rfl,rfl⟩:=h
    have ho:∀y:Á þ,ORep (bj S w γ σ.bx) (y.map λx=>lf ((σ.ev x).cel act)) (y.map a.eval):=by
     intro y;cases y with
     |none=>trivial
     |some y=>exact gf (dK hR aS y)
    obtain⟨v',S',γ',aE,cJ,ia⟩:=Xg hT hR aO ht (λk hk=>aO.free hk) hc (gf (dK hR aS x)) (ho lo) (ho hi);refine⟨⟨v',w,S',γ',.inl ?_,cJ,ia⟩,rfl⟩;simp[execOp,bK,aE]
   .simp at h
  .simp at h
 ·-- slice with a capacity
  rename_i t x lo hi mx bK;split at h
  .rename_i ti ht;split at h
   .rename_i b hc;simp only[jb,Act.val.injEq]at h;obtain⟨rfl,rfl,rfl⟩:=h
    have ho:∀y:Á þ,ORep (bj S w γ σ.bx) (y.map λx=>lf ((σ.ev x).cel act)) (y.map a.eval):=by
     intro y;cases y with
     |none=>trivial
     |some y=>exact gf (dK hR aS y)
    obtain⟨v',aE⟩:=Xj hT hR aO ht hc (gf (dK hR aS x)) (ho lo) (ho hi) (gf (dK hR aS mx));refine⟨⟨v',w,S,γ,.inl ?_,hR,⟨trivial,λh=>absurd rfl h⟩⟩,rfl⟩;simp[execOp,bK,aE]
   .simp at h
  .simp at h
 .simp at h
theorem PJ{P:À}{E:Env}(hR:Rel N E.np S0 w0 refs σ a w S γ){act:F (H×Ö)}(aS:oy (tm a) act){rw:H->BS}(gQ:RdR σ rw)
  {o:Oper}{f:H}{args:F Arg}{mk:Ret->Á (Slot×Ups)}(h:dE E σ.ev rw act o=D (.call f args mk))(hf:Fun P f){K:Ret->Prop}(dB:D4 P f args K) :
  ∃vals,(execOp a.eval o).run P w = .ok (.enter f vals) w/\
   (Calls P f vals w λe w'=>∃ret,K ret/\∀s u,mk ret=D (s,u)->∃v S' γ',e = .returned v/\Rel N E.np S0 w0 refs (σ.upd u) a w' S' γ'/\gA S' w' γ' (σ.upd u).bx (tm a) s v)/\
   ∀ret s u,mk ret=D (s,u)->s.bare=true:=by
 have aO:RdOk σ (mskM rw):=gQ.msk;have bc:=vS (np:=E.np) aO;unfold dE at h;dsimp only at h;split at h
 case h_23 cl bK=>
  have cm:=Ec hR aS cl.args.toList;split at h
  case h_5 x cV=>
   split at h
   .rename_i g caps hl;split at h
    .rename_i as us fs has;split at h
     .rename_i bA;simp only[jb,Act.call.injEq]at h;obtain⟨rfl,rfl,rfl⟩:=h;have hx:=dK hR aS x;rw[vT hl af]at hx;obtain⟨cv,hu,lz⟩:=hx.1;refine⟨_,AW hf bK cV hu,?_,?_⟩
      .have:=Pu hR gQ aO bc has cm bA lz dB ((o.dst.getD 0)*64+E.off);have e1:(cl.args.toList.map a.eval++cv.toList).toArray=cl.args.map a.eval++cv:=by apply kr;simp
       rwa[e1]at this
      .intro ret s u bk;unfold qY at bk;split at bk
       .unfold mkHd at bk;split at bk
        .split at bk
         .split at bk
          .simp only[jb,jf]at bk;rw[<-bk.1];rfl
          .simp at bk
         .simp at bk
        .simp at bk
       .unfold zG at bk;split at bk
        .split at bk
         .simp only[jb,jf]at bk;rw[<-bk.1];exact PH _
         .simp at bk
        .simp at bk
       split at bk
       .split at bk
        .split at bk
         .revert bk;dsimp only;split<;>(intro bk;simp only[jb,jf]at bk;rw[<-bk.1];rfl)
         .simp at bk
        .simp at bk
       .simp at bk
     .simp at h
    .simp at h
   .rename_i g ks hl;split at h
    .rename_i as us fs has;split at h
     .rename_i bA;simp only[jb,Act.call.injEq]at h;obtain⟨rfl,rfl,rfl⟩:=h;have hx:=dK hR aS x;rw[vT hl af]at hx;obtain⟨cv,hu,lz⟩:=hx.1;refine⟨_,AW hf bK cV hu,?_,?_⟩
      .have:=Pu hR gQ aO bc has (cm.append (O6 lz)) bA (caps:=[]) (cv:=[]) trivial (by simpa using dB) ((o.dst.getD 0)*64+E.off);have e1:((cl.args.toList.map a.eval++cv.toList)++[]).toArray=cl.args.map a.eval++cv:=by apply kr;simp
       rwa[e1]at this
      .intro ret s u bk;unfold qY at bk;split at bk
       .unfold mkHd at bk;split at bk
        .split at bk
         .split at bk
          .simp only[jb,jf]at bk;rw[<-bk.1];rfl
          .simp at bk
         .simp at bk
        .simp at bk
       .unfold zG at bk;split at bk
        .split at bk
         .simp only[jb,jf]at bk;rw[<-bk.1];exact PH _
         .simp at bk
        .simp at bk
       split at bk
       .split at bk
        .split at bk
         .revert bk;dsimp only;split<;>(intro bk;simp only[jb,jf]at bk;rw[<-bk.1];rfl)
         .simp at bk
        .simp at bk
       .simp at bk
     .simp at h
    .simp at h
   .simp at h
  all_goals (first|(simp at h;done)|skip)
  all_goals (exfalso;revert h;try simp only[lL])
  all_goals (repeat' split)
  all_goals simp[Act.leaf]
 all_goals (first|(simp at h;done)|skip)
 all_goals (repeat' (first|(simp at h;done)|(exact absurd h X3)|split at h))<;>simp_all[lL,oCel,oChk,Act.leaf,Act.cel]
 all_goals (repeat' (split at h))<;>simp_all
end
end Go.Lft
