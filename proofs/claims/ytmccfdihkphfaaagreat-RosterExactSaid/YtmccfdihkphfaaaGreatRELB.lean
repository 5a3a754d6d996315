/- New variables; LH ŋ variables. -/
import Derived.Test.YtmccfdihkphfaaaGreatRELA
import Derived.MapKept
open Option renaming some->D,none->M,isNone_iff_eq_none->ç
open _root_ renaming List->F,Nat->H,Option->À,Array->Ë,Bool->Ø
open Go renaming Value->G,Program->Z,World->Á,TypeId->È,Act->ß,Operand->ý
open Go.Result renaming andThen_ok->I
open Bool renaming false->J,true->Ä
open List renaming replicate->O,take->W,take_of_length_le->Y,length_append->Â,drop_of_length_le->Ç,length_take->É,length->Ï,drop->Ð,take_append->Ù,take_left'->Ý,set_cons_zero->à,getElem?_drop->á,any_cons->ã,getElem?_append_left->å,getElem_cons_drop->ê,any_append->ë,mem_map_of_mem->ó,range_succ->þ,drop_left'->ÿ
open Go.Sem renaming run_bind->U,run_pure->Ã,run_ite->ü
open Go.Value.slice renaming injEq->Å
open Go.Addr renaming add_lit->Æ
open Nat renaming add_mul->Ê,min_eq_left->Ü,add_zero->õ,one_mul->û
open Go.Instr renaming buildSlice->Ì,fill->Ó,build->Ú,findNow->Û,mapUpdate->Þ,sliceAt->æ,sameBits->ï,storeAt->ñ,sameNow->ô,lookup->ö
open Go.Builtin renaming append_->Í,firstCells->Õ,copy_->è,clear_->î,lenOf->ò
open Go.MapKept renaming run_getObj_map->Î,run_findKey->Ô,bytes_beq->é,run_setObj_map->ì,run_checkKey->ð
open Array renaming range->Ñ,getElem?_modify->í,toList_push->ú
open Go.World renaming cell?_of_block->Ò,alloc_eq->Ö,ownsRow_nil->ä,ownsRow_lit->ù
open Iff renaming rfl->â
set_option linter.unusedVariables false
namespace Go.Lft
section
variable{N:NT}{np:H}{S0:aY}{w0:Á}{refs:Refs}{σ:St}{a:ß}{w:Á}{S:aY}{γ:H->G}
def gset(γ:H->G)(n:H)(v:G):H->Value:=λk=>if k=n then v else γ k
theorem eN(γ:H->G)(n:H)(v:G):gset γ n v n=v:=by simp[gset]
theorem fM(γ:H->G){n k:H}(v:G)(h:k≠n):gset γ n v k=γ k:=by simp[gset,h]
theorem xT(hR:Rel N np S0 w0 refs σ a w S γ)(o:Obj):dH S w S (w.alloc o):=
 λg i h=>⟨h,World.cell?_alloc_lt w o ⟨g,i,M⟩ (hR.here g i h)⟩
theorem kK{bx:H->BS}{k:H}{b:Bx}(h:eZ S w γ bx k b){g:H}(hg:blk (γ k)=D g):g<w.heap.size:=by
 cases b with
 |cell ls frz=>obtain⟨g',cur,e,h1,h2,_⟩:=h;rw[h1]at hg;simp[blk]at hg;subst hg;exact(jh.1 h2).1
 |lst e t xs frz=>exact h.1.lt hg
 |arr n t xs=>obtain⟨g',cur,e,h1,h2,_⟩:=h;rw[h1]at hg;simp[blk]at hg;subst hg;exact(jh.1 h2).1
 |row e t n ls=>
  obtain⟨_,⟨cs,h1,_⟩,_⟩:=h;rcases h1.2 with⟨hn,_⟩|⟨g',cap,cur,hv,_,hh,_⟩
  .rw[hn]at hg;simp[blk]at hg
  .rw[hv]at hg;simp[blk]at hg;subst hg;exact(jh.1 hh).1
theorem Ha(hR:Rel N np S0 w0 refs σ a w S γ){n:H}(hn:σ.bx n = .free){o:Obj}{b:Bx}{v:G}(hv:∀g,blk v=D g->g=w.heap.size)
  (hb:BxLe γ σ.bx (gset γ n v) (σ.setB n (.live b)).bx->eZ S (w.alloc o) (gset γ n v) (σ.setB n (.live b)).bx n b) :
  Rel N np S0 w0 refs (σ.setB n (.live b)) a (w.alloc o) S (gset γ n v)/\BxLe γ σ.bx (gset γ n v) (σ.setB n (.live b)).bx:=by
 have hle:BxLe γ σ.bx (gset γ n v) (σ.setB n (.live b)).bx:=by
  intro k hk;have br:k≠n:=by rintro rfl;exact hk hn
  rw[cE σ _ br,fM γ v br];exact⟨hk,rfl,λb hb=>⟨b,hb,.refl b⟩⟩
 have aV:=xT hR o
 refine⟨Rel.step (bx':=(σ.setB n (.live b)).bx) hR aV hle ?_ ?_ ?_ hR.new ?_ ?_ ?_ hR.os hR.tape hR.output (λg hg _ h=>⟨heap_alloc_old w o hg,λk b' aU dm=>by
  by_cases hk:k=n
  .subst hk;rw[eN]at dm;have:=hv g dm;omega
  .rw[cE σ _ hk]at aU;rw[fM γ v hk]at dm;exact h k b' aU dm⟩),hle⟩
 .intro k b' aU;by_cases hk:k=n
  .subst hk;rw[fD]at aU;simp at aU;subst aU;exact hb hle
  .rw[cE σ _ hk]at aU;refine eZ.keep aV hle (fM γ v hk) (λg hg=>⟨?_,λ_=>â⟩) (hR.box k b' aU);exact heap_alloc_old w o (kK (hR.box k b' aU) hg)
 .intro k b' g aU hg;by_cases hk:k=n
  .subst hk;rw[eN]at hg;exact .inl (.inl (by rw[hv g hg];exact hR.grow))
  .rw[cE σ _ hk]at aU;rw[fM γ v hk]at hg;exact hR.own k b' g aU hg
 .intro k k' b1 b2 g br h1 h2 hg aC;by_cases hk:k=n
  .subst hk;have bn:k'≠k:=λh=>br h.symm;rw[eN]at hg;rw[cE σ _ bn]at h2;rw[fM γ v bn]at aC;have:=kK (hR.box k' b2 h2) aC;rw[hv g hg]at this;omega
  .by_cases bn:k'=n
   .subst bn;rw[eN]at aC;rw[cE σ _ hk]at h1;rw[fM γ v hk]at hg;have:=kK (hR.box k b1 h1) hg;rw[hv g aC]at this;omega
   .rw[cE σ _ hk]at h1;rw[cE σ _ bn]at h2;rw[fM γ v hk]at hg;rw[fM γ v bn]at aC;exact hR.apart k k' b1 b2 g br h1 h2 hg aC
 .intro g i h;have:=hR.here g i h;simp;omega
 .intro g hg hr;rw[heap_alloc_old w o (by have:=hR.grow;omega)];exact hR.below g hg hr
 .have:=hR.grow;simp;omega
theorem Bo(hR:Rel N np S0 w0 refs σ a w S γ)(o:H):¬S w.heap.size o:=λh=>by have:=hR.here _ _ h;omega
theorem LI(hR:Rel N np S0 w0 refs σ a w S γ){n:H}(hn:σ.bx n = .free){ls:F Leaf}{cur:Ë G}{e:È}
  (hl:All2 (bF S w γ σ.bx) ls cur.toList)(h1:∀u∈cur.toList,One u) :
  Rel N np S0 w0 refs (σ.setB n (.live (.cell ls J))) a (w.alloc (.cells cur e)) S (gset γ n (.pointer (D ⟨w.heap.size,0,M⟩)))/\
   bQ S (w.alloc (.cells cur e)) (gset γ n (.pointer (D ⟨w.heap.size,0,M⟩))) (σ.setB n (.live (.cell ls J))).bx (.one (.bp n 0)) (.pointer (D ⟨w.heap.size,0,M⟩)):=by
 obtain⟨h,hle⟩:=Ha hR hn (o:= .cells cur e) (b:= .cell ls J) (v:= .pointer (D ⟨w.heap.size,0,M⟩)) (λg hg=>by simp[blk]at hg;exact hg.symm) (λhle=>
  ⟨w.heap.size,cur,e,eN _ _ _,heap_alloc_new w _,by rw[Y (Nat.le_of_eq hl.length.symm)];exact hl.mono (λx u hx=>bF.keep (xT hR _) hle hx),λu hu=>h1 u (qq hu),λ_ o=>Bo hR o,ae⟩)
 refine⟨h,⟨by rw[fD];simp,rfl,λb _=>⟨w.heap.size,eN _ _ _,rfl⟩⟩,λ_=>rfl⟩
theorem Uk(hR:Rel N np S0 w0 refs σ a w S γ){n m:H}(hn:σ.bx n = .free){t:Ty}{xs:F t.den}{cur:Ë G}{e:È}
  (hl:Rep S w (.arr m t) xs cur.toList) :
  Rel N np S0 w0 refs (σ.setB n (.live (.arr m t xs))) a (w.alloc (.cells cur e)) S (gset γ n (.pointer (D ⟨w.heap.size,0,M⟩)))/\
   bQ S (w.alloc (.cells cur e)) (gset γ n (.pointer (D ⟨w.heap.size,0,M⟩))) (σ.setB n (.live (.arr m t xs))).bx (.one (.bp n 0)) (.pointer (D ⟨w.heap.size,0,M⟩)):=by
 obtain⟨h,hle⟩:=Ha hR hn (o:= .cells cur e) (b:= .arr m t xs) (v:= .pointer (D ⟨w.heap.size,0,M⟩)) (λg hg=>by simp[blk]at hg;exact hg.symm) (λ_=>
  ⟨w.heap.size,cur,e,eN _ _ _,heap_alloc_new w _,Rep.keep (xT hR _) _ _ _ hl,λo=>Bo hR o⟩)
 refine⟨h,⟨by rw[fD];simp,rfl,λb _=>⟨w.heap.size,eN _ _ _,rfl⟩⟩,λ_=>rfl⟩
theorem wo{bx:H->BS}:∀(t:Ty),All2 (bF S w γ bx) (oD t) (la t)
 |.int _=>⟨rfl,trivial⟩
 |.bool=>⟨rfl,trivial⟩
 |.str=>⟨rfl,trivial⟩
 |.unit=>trivial
 |.wrap a=>wo a
 |.pair a b=>(wo a).append (wo b)
 |.list _=>⟨rfl,trivial⟩
 |.arr n a=>by
  show All2 _ ((List.range n).flatMap λ_=>oD a) ((O n (la a)).flatten);induction n with
  |zero=>simp[All2]
  |succ n ih=>rw[þ,List.flatMap_append,List.replicate_succ',yc];refine ih.append ?_;simpa using wo a
theorem qE:∀(t:Ty),Rep S w t t.dflt (la t)
 |.int _=>rfl
 |.bool=>rfl
 |.str=>rfl
 |.unit=>rfl
 |.wrap a=>qE a
 |.pair a b=>⟨_,_,rfl,qE a,qE b⟩
 |.list _=>⟨M,0,rfl,jq _,by simp[maxLen],λ_=>rfl,λb hb=>by simp at hb⟩
 |.arr n a=>by
  refine⟨zi,O n (la a),?_,rfl⟩;have hz:=qE a
  have:∀n,All2 (λx c=>Rep S w a x c) (O n a.dflt) (O n (la a)):=by
   intro n;induction n with
   |zero=>exact trivial
   |succ n ih=>exact⟨hz,ih⟩
  exact this n
theorem Bp(hR:Rel N np S0 w0 refs σ a w S γ){k:H}{b b':Bx}(hk:σ.bx k = .live b){g:H}(hg:blk (γ k)=D g)(hS:∀o,¬S g o)(oH:kZ b b')
  {old new:Ë G}{e:È}(hh:w.heap[g]? = D (.cells old e (0,0)))
  (hb:BxLe γ σ.bx γ (σ.setB k (.live b')).bx->dH S w S (w.setRow g new)->eZ S (w.setRow g new) γ (σ.setB k (.live b')).bx k b') :
  Rel N np S0 w0 refs (σ.setB k (.live b')) a (w.setRow g new) S γ:=by
 have hle:BxLe γ σ.bx γ (σ.setB k (.live b')).bx:=by
  intro k' bn;by_cases cg:k'=k
  .subst cg;rw[fD];exact⟨ae,rfl,λb1 dF=>by simp at dF;subst dF;exact⟨b,hk,oH⟩⟩
  .rw[cE σ _ cg];exact⟨bn,rfl,λb hb=>⟨b,hb,.refl b⟩⟩
 have aV:dH S w S (w.setRow g new):=by
  intro g' o h;refine⟨h,cell_setRow_other w g new ⟨g',o,M⟩ ?_⟩
  rintro rfl
  exact hS o h
 have bS:∀k' b1,(σ.setB k (.live b')).bx k' = .live b1->∃b2,σ.bx k' = .live b2:=by
  intro k' b1 h1;by_cases cg:k'=k
  .subst cg;exact⟨b,hk⟩
  .rw[cE σ _ cg]at h1;exact⟨b1,h1⟩
 have aq:=(jh.1 hh).1
 refine Rel.step (bx':=(σ.setB k (.live b')).bx) hR aV hle ?_ ?_ ?_ hR.new ?_ ?_ ?_ hR.os hR.tape hR.output (λg' _ _ h=>⟨setRow_other w g g' new (λe=>h k b hk (e▸hg)),λk' b1 h1=>by
  obtain⟨b2,h2⟩:=bS k' b1 h1;exact h k' b2 h2⟩)
 .intro k' b1 h1;by_cases cg:k'=k
  .subst cg;rw[fD]at h1;simp at h1;subst h1;exact hb hle aV
  .rw[cE σ _ cg]at h1;refine eZ.keep aV hle rfl (λg' aC=>⟨?_,λ_=>â⟩) (hR.box k' b1 h1);exact setRow_other w g g' new (λh=>hR.apart k' k b1 b g cg h1 hk (h▸aC) hg)
 .intro k' b1 g' h1 aC;obtain⟨b2,h2⟩:=bS k' b1 h1;exact hR.own k' b2 g' h2 aC
 .intro k1 k2 b1 b2 g' br h1 h2 aC;obtain⟨ud,nw⟩:=bS k1 b1 h1;obtain⟨ue,lP⟩:=bS k2 b2 h2;exact hR.apart k1 k2 ud ue g' br nw lP aC
 .intro g' o h;rw[size_setRow];exact hR.here g' o h
 .intro g' aC hr;rw[setRow_other w g g' new ?_]
  .exact hR.below g' aC hr
  .rintro rfl
   rcases hR.own k b _ hk hg with h|h
   .exact h.no aa hr
   .exact hr h.1
 .rw[size_setRow];exact hR.grow
theorem Dr{R:Leaf->G->Prop}{ls new:F Leaf}{cs zs:F G}{c:H}(h:All2 R ls cs)(h':All2 R new zs) :
  All2 R (ph ls c new) (cs.take c++zs++cs.drop (c+zs.length)):=by
 unfold ph;rw[h'.length];exact((h.take c).append h').append (h.drop _)
theorem LJ{X zs:F G}{c n:H}(h:c+zs.length<=n)(h':n<=X.length):(X.take c++zs++X.drop (c+zs.length)).take n=(X.take n).take c++zs++(X.take n).drop (c+zs.length):=by
 have e1:(X.take n).take c=X.take c:=by rw[vz,Ü aa]
 have e2:(X.take c++zs).length=c+zs.length:=az;rw[e1,Ù,Y (by rw[e2];exact h),e2,List.drop_take]
theorem Ul{bx:H->BS}{b:Ty}:∀{ys:F (F b.den)}{css:F (F G)},All2 (λx c=>Rep S w (.list b) x c) ys css->All2 (bF S w γ bx) (ys.map λy=> .d (.list b) y) css.flatten
 |[],[],_=>trivial
 |[],_::_,h=>h.elim
 |_::_,[],h=>h.elim
 |y::ys,c::css,h=>by
  have h1:Rep S w (.list b) y c:=h.1;have h2:c.length=1:=Rep.length _ _ _ h1;match c,h2 with
  |[v],_=>exact⟨h1,Ul h.2⟩
theorem Um{α β:Type}(f:α->β)(d:α)(ys:F α):((List.range ys.length).map λi=>f (List.getD ys i d))=ys.map f:=by
 refine List.ext_getElem ae λi h1 h2=>?_;have h3:i<ys.length:=by simpa using h2
 simp[List.getD,h3]
theorem xU{bx:H->BS}{c:Cel}{ls:F Leaf}{z:G}(h:c.leaves=D ls)(hc:bQ S w γ bx c z) :
  All2 (bF S w γ bx) ls z.cells.toList/\∀u∈z.cells.toList,One u:=by
 unfold Cel.leaves at h;split at h
 .simp at h
 .rename_i l hd;simp at h;subst h;have h1:=hc.2 hd;rw[Bm h1];exact⟨⟨hc.1,trivial⟩,λu hu=>by simp at hu;subst hu;exact h1⟩
 .simp at h;subst h;obtain⟨cs,rfl,ha,h1⟩:=hc;exact⟨ha,h1⟩
 .rename_i n b ys;simp only[j5]at h;obtain⟨cs,rfl,hn,css,ha,c9⟩:=hc;have h0:Ï ys=n:=hn;subst h0;have e:ls=ys.map λy=> .d (.list b) y:=h.symm.trans (Um (λy:F b.den=>Leaf.d (.list b) y) [] ys);have e2:(Value.agg cs).cells.toList=cs.toList:=rfl;rw[e,e2];refine⟨?_,Rep.one (.arr _ (.list b)) ys cs.toList ⟨rfl,css,ha,c9⟩⟩;rw[c9];exact Ul ha
 .simp at h
end
theorem xV{m:H}:∀{l:F (F G)},(∀c∈l,c.length=m)->l.flatten.length=l.length*m
 |[],_=>ae
 |c::l,h=>by
  have h1:=h c ae;have h2:=xV (l:=l) (λd hd=>h d (qi _ hd));simp only[kq,Â,ji,Ê,û];omega
section
variable{N:NT}{np:H}{S0:aY}{w0:Á}{refs:Refs}{σ:St}{a:ß}{w:Á}{S:aY}{γ:H->G}
theorem kL:∀(u:Ups)(σ:St){k:H},u.any (λy=>y.1==k)=J->(σ.upd u).bx k=σ.bx k
 |[],_,_,_=>rfl
 |e::u,σ,k,h=>by
  simp only[ã,vv,beq_eq_false_iff_ne]at h;show ((σ.setB e.1 e.2).upd u).bx k=_;rw[kL u _ h.2,cE σ _ (λhh=>h.1 hh.symm)]
theorem All2.all_len{t:Ty}{xs:F t.den}{css:F (F G)}(h:All2 (λx c=>Rep S w t x c) xs css):∀c∈css,c.length=t.size:=by
 intro c hc;obtain⟨x,_,hx⟩:=h.mem_right c hc;exact Rep.length _ _ _ hx
theorem LK{cur:F G}{css:F (F G)}{m n i c:H}{ci zs:F G}(hm:∀c∈css,c.length=m)(hn:css.length=n)(eV:cur.take (n*m)=css.flatten)
  (hi:css[i]? = D ci)(hc:c+zs.length<=m) :
  (cur.take (i*m+c)++zs++cur.drop (i*m+c+zs.length)).take (n*m)=(css.set i (ci.take c++zs++ci.drop (c+zs.length))).flatten:=by
 have aq:i<css.length:=(List.getElem?_eq_some_iff.1 hi).1;have nT:css[i]=ci:=(List.getElem?_eq_some_iff.1 hi).2;have dR:ci.length=m:=hm ci (k9 hi);obtain⟨A,B,hA,hB,Hb⟩:∃A B:F (F G),A.length=i/\A.length+1+B.length=n/\css=A++ci::B:=by refine⟨css.take i,css.drop (i+1),az,az,?_⟩;rw[<-nT,ê aq,qx]
 have Ō:∀c∈A,c.length=m:=λd hd=>hm d (by rw[Hb];simp[hd]);have ō:∀c∈B,c.length=m:=λd hd=>hm d (by rw[Hb];simp[hd]);have lA:A.flatten.length=i*m:=by rw[xV Ō,hA]
 have lB:=xV ō;have mJ:css.set i (ci.take c++zs++ci.drop (c+zs.length))=A++(ci.take c++zs++ci.drop (c+zs.length))::B:=by rw[Hb,vp _ _ aa,hA,Nat.sub_self,à]
 have Ds:cur=A.flatten++(ci++(B.flatten++cur.drop (n*m))):=by have:=qx (n*m) cur;rw[eV,Hb,yc,kq]at this;rw[<-jg ci,<-jg];exact this.symm
 have dE:ci=ci.take c++((ci.drop c).take zs.length++ci.drop (c+zs.length)):=by have h1:=qx c ci;have h2:=qx zs.length (ci.drop c);rw[List.drop_drop]at h2;rw[h2,h1]
 have lp:(ci.take c).length=c:=az;have lq:((ci.drop c).take zs.length).length=zs.length:=az;have lr:(ci.drop (c+zs.length)).length=m-(c+zs.length):=by simp[dR]
 generalize ci.take c=p at *
 generalize (ci.drop c).take zs.length=q at *
 generalize ci.drop (c+zs.length)=r at *
 generalize cur.drop (n*m)=tl at *
 have e1:cur.take (i*m+c)=A.flatten++p:=by rw[Ds,dE];simp only[<-jg];rw[jg,jg,jg];exact Ý (by simp[lA,lp])
 have e2:cur.drop (i*m+c+zs.length)=r++(B.flatten++tl):=by rw[Ds,dE];have:A.flatten++(p++(q++r)++(B.flatten++tl))=(A.flatten++p++q)++(r++(B.flatten++tl)):=ae;rw[this];exact ÿ (by simp[lA,lp,lq];omega)
 rw[e1,e2,mJ,yc,kq];have:A.flatten++p++zs++(r++(B.flatten++tl))=(A.flatten++(p++zs++r++B.flatten))++tl:=ae;rw[this];refine Ý ?_;simp only[Â,lA,lp,lr,lB];have:n*m=i*m+m+B.length*m:=by rw[<-hB,hA,Ê,Ê,û]
 omega
theorem Dt{P:Z}{T:H->À TyI}(hT:cJ P T){t:È}{ti:TyI}(ht:T t=D ti){g o:H}{z:G}{cur:Ë G}{e:È}
  (hh:w.heap[g]? = D (.cells cur e (0,0)))(hs:z.cells.toList.length=ti.size)(hl:o+z.cells.toList.length<=cur.size)(h1:∀u∈z.cells.toList,One u) :
  (ñ t (.pointer (D ⟨g,o,M⟩)) z).run P w = .ok () (w.setRow g (cur.toList.take o++z.cells.toList++cur.toList.drop (o+z.cells.toList.length)).toArray):=by
 have aV:=run_storeCells_at P g o e z.cells.toList 0 cur w hh (by simpa using hl) h1;simp only[õ]at aV;have br:¬z.cells.size≠ti.size:=by simpa using hs
 simp only[ñ,U,Instr.sureAddr,Ã,I,storeVar,jJ hT ht,ü,if_neg br,aV]
theorem Ŏ{P:Z}{E:Env}(hT:cJ P E.T)(hR:Rel N np S0 w0 refs σ a w S γ){rd rdf:H->BS}(aZ:RdOk σ rd)(bz:RdF np σ rdf){t:È}{ti:TyI}(ht:E.T t=D ti)
  {x:Leaf}{val:Cel}{u:Ups}{ux z:G}(h:vP rd rdf ti.size val x=D u)(hx:bF S w γ σ.bx x ux)(hz:bQ S w γ σ.bx val z) :
  ∃w' S',(ñ t ux z).run P w = .ok () w'/\Rel N np S0 w0 refs (σ.upd u) a w' S' γ:=by
 unfold vP at h;split at h
 .rename_i k c;split at h
  .rename_i ls hk;have hk:=aZ.live hk;split at h
   .rename_i new eJ;split at h
    .rename_i hc;simp only[j5]at h;subst h;obtain⟨cm,hle⟩:=hc;obtain⟨ha,h1⟩:=xU eJ hz;obtain⟨g,hg,hu⟩:=hx.2.2 _ hk;obtain⟨g',cur,e,aC,hh,eV,eU,hS,_⟩:=hR.box k _ hk;rw[hg]at aC;simp at aC;subst aC;subst hu;have hlen:=ha.length;have ug:=eV.length;simp at ug;refine⟨_,S,Dt hT ht hh aa (by simp at hlen ⊢;omega) h1,?_⟩;refine Bp hR hk (by rw[hg];rfl) (hS rfl) (b':= .cell (ph ls c new) J) trivial hh (λhle aV=>?_);refine⟨g,_,e,hg,setRow_heap w g cur _ e (0,0) hh,?_,?_,λ_=>hS rfl,ae⟩
     .have:=Dr (c:=c) (eV.mono (λx u hx=>bF.keep aV hle hx)) (ha.mono (λx u hx=>bF.keep aV hle hx));have eL:(ph ls c new).length=ls.length:=by simp[ph];omega
      rw[eL];have:=LJ (X:=cur.toList) (zs:=z.cells.toList) (c:=c) (n:=ls.length) aa az;simp only[this];assumption
     .intro v hv;have eL:(ph ls c new).length=ls.length:=by simp[ph];omega
      rw[eL]at hv;have LL:=LJ (X:=cur.toList) (zs:=z.cells.toList) (c:=c) (n:=ls.length) aa az;simp only[LL]at hv;simp only[jm]at hv;rcases hv with (hv|hv)|hv
      .exact eU v (qq hv)
      .exact h1 v hv
      .exact eU v (zt hv)
    .simp at h
   .simp at h
  .rename_i n el xs hk;have hk:=aZ.live hk;split at h
   .rename_i gT;subst gT;split at h
    .rename_i n' a' ys;split at h
     .rename_i Lh iD;split at h
      .rename_i cm;simp only[j5]at h;subst h;have uh:=nv iD;simp only[TV.mk.injEq,Ty.arr.injEq]at uh;obtain⟨⟨rfl,rfl⟩,uh⟩:=uh;obtain rfl:=eq_of_heq uh;obtain⟨cs,rfl,hr⟩:=hz;obtain⟨g,hg,hu⟩:=hx.2.2 _ hk;obtain⟨g',cur,e,aC,hh,bO,hS⟩:=hR.box k _ hk;rw[hg]at aC;simp at aC;subst aC;subst hu;have lQ:=Rep.length _ _ _ hr;have tc:=Rep.length _ _ _ bO;have e1:(Value.agg cs).cells.toList=cs.toList:=rfl;refine⟨_,S,Dt hT ht hh (by rw[e1,lQ,cm];rfl) (by rw[e1,lQ,<-tc];simp) (by rw[e1];exact Rep.one _ _ _ hr),?_⟩;refine Bp hR hk (by rw[hg];rfl) hS (b':= .arr _ _ _) ⟨rfl,rfl⟩ hh (λhle aV=>?_);refine⟨g,_,e,hg,setRow_heap w g cur _ e (0,0) hh,?_,hS⟩;have hd:cur.toList.drop (0+cs.toList.length)=[]:=Ç (by rw[lQ,tc];omega);have hX:(cur.toList.take 0++(Value.agg cs).cells.toList++cur.toList.drop (0+(Value.agg cs).cells.toList.length)).toArray.toList=cs.toList:=by rw[e1,hd];simp
       rw[hX];exact Rep.keep aV _ _ _ hr
      .simp at h
     .simp at h
    .simp at h
   .simp at h
  .simp at h
 .rename_i k i c;split at h
  .rename_i el at_ xs hk;have ca:=aZ.nm hk;have hk:=aZ.live hk;split at h
   .rename_i new eJ;split at h
    .rename_i hc;obtain⟨cm,hle⟩:=hc;split at h
     .rename_i en u1 xW;split at h
      .simp at h
      .rename_i ui;simp only[j5]at h;subst h;obtain⟨ha,h1⟩:=xU eJ hz;have hlen:=ha.length;have uj:z.cells.toList.length=z.cells.size:=qe;obtain⟨_,hi,g,cap,hg,hu⟩:=hx.2.2 _ hk;obtain⟨css,aQ,ay,Un⟩:=iY ca (hR.box k _ hk);rcases aQ.2 with⟨_,h0⟩|⟨g',ik,cur,aC,fA,hh,kJ,iK,c9,dS⟩
       .omega
       rw[hg]at aC;simp at aC;obtain⟨rfl,rfl⟩:=aC;subst hu;obtain⟨ci,nT,bO,ee⟩:=xS (λx c hx=>Rep.length at_ x c hx) ay i at_.dflt hi;have dR:=Rep.length _ _ _ bO;have dE:=Dr (c:=c) (ri (pr at_ _ ci bO)) ha;obtain⟨hf,he,hp⟩:=wm bz hR.box at_ xW dE;obtain⟨S1,bu,cS,ff,dt⟩:=nR u1 σ S hR hf;have dj:(σ.upd u1).bx k = .live (.lst el at_ xs J):=by rw[kL u1 σ (ky.2 ui)];exact hk
       obtain⟨ŏ,Uo,Up,Uq⟩:=iY ca (bu.box k _ dj);have xX:∀o,¬S1 g o:=(Uq g (by rw[hg];rfl)).1 rfl;have LM:i*at_.size+at_.size<=xs.length*at_.size:=by have:(i+1)*at_.size<=xs.length*at_.size:=ka _ aa;rwa[zr]at this
       have Ő:xs.length*at_.size<=cap*at_.size:=ka _ kJ;have fE:c+z.cells.toList.length<=at_.size:=aa;refine⟨_,S1,Dt hT ht hh aa (by rw[c9];omega) h1,?_⟩;rw[jK];refine Bp bu dj (by rw[hg];rfl) xX (b':= .lst el at_ (xs.set i en) J) ⟨rfl,rfl,λ_=>ae⟩ hh (λfg dp=>?_);have rq:Rep S1 w at_ en (ci.take c++z.cells.toList++ci.drop (c+z.cells.toList.length)):=by have:=hp S1 w cS ff;rwa[Y az]at this
       refine Bf ca ⟨css.set i (ci.take c++z.cells.toList++ci.drop (c+z.cells.toList.length)),⟨?_,.inr ⟨g,cap,_,?_,k7 _,setRow_heap w g cur _ el (0,0) hh,by simpa using kJ,iK,?_,?_⟩⟩,?_,λg' aC=>?_⟩
       .rw[xV (m:=at_.size)]
        .simp[ay.length]
        .intro d hd;rcases vw hd with hd|rfl
         .exact All2.all_len ay d hd
         .simp;omega
       .simpa using hg
       .simp only[yl,Â,É,zf,qe];omega
       .simp only[zu];exact LK (All2.all_len ay) ay.length.symm dS nT fE
       .exact(ay.mono (λx c hx=>Rep.keep (cS.trans dp) _ _ _ hx)).set i _ _ (Rep.keep dp _ _ _ rq)
       .rw[hg]at aC;simp[blk]at aC;subst aC;exact⟨λ_=>xX,ae⟩
     .simp at h
    .simp at h
   .simp at h
  .rename_i n at_ xs hk;have hk:=aZ.live hk;split at h
   .rename_i new eJ;split at h
    .rename_i hc;obtain⟨cm,hle⟩:=hc;split at h
     .rename_i en u1 xW;split at h
      .simp at h
      .rename_i ui;simp only[j5]at h;subst h;obtain⟨ha,h1⟩:=xU eJ hz;have hlen:=ha.length;have uj:z.cells.toList.length=z.cells.size:=qe;obtain⟨hi,g,hg,hu⟩:=hx.2.2 _ hk;obtain⟨g',cur,e,aC,hh,⟨hn,css,ay,eV⟩,hS⟩:=hR.box k _ hk;rw[hg]at aC;simp at aC;subst aC;subst hu;obtain⟨ci,nT,bO,ee⟩:=xS (λx c hx=>Rep.length at_ x c hx) ay i at_.dflt aa;have dR:=Rep.length _ _ _ bO;have dE:=Dr (c:=c) (ri (pr at_ _ ci bO)) ha;obtain⟨hf,he,hp⟩:=wm bz hR.box at_ xW dE;obtain⟨S1,bu,cS,ff,dt⟩:=nR u1 σ S hR hf;have dj:(σ.upd u1).bx k = .live (.arr n at_ xs):=by rw[kL u1 σ (ky.2 ui)];exact hk
       obtain⟨g1,ő,e1,iM,hh1,_,xX⟩:=bu.box k _ dj;rw[hg]at iM;simp at iM;subst iM;have Du:cur.toList.length=n*at_.size:=by rw[eV,xV (All2.all_len ay),<-ay.length,hn]
       have LM:i*at_.size+at_.size<=n*at_.size:=by have:(i+1)*at_.size<=n*at_.size:=ka _ aa;rwa[zr]at this
       have fE:c+z.cells.toList.length<=at_.size:=aa;refine⟨_,S1,Dt hT ht hh aa (by rw[<-qe,Du];omega) h1,?_⟩;rw[jK];refine Bp bu dj (by rw[hg];rfl) xX (b':= .arr n at_ (xs.set i en)) ⟨rfl,rfl⟩ hh (λfg dp=>?_);have rq:Rep S1 w at_ en (ci.take c++z.cells.toList++ci.drop (c+z.cells.toList.length)):=by have:=hp S1 w cS ff;rwa[Y az]at this
       refine⟨g,_,e,hg,setRow_heap w g cur _ e (0,0) hh,⟨?_,css.set i (ci.take c++z.cells.toList++ci.drop (c+z.cells.toList.length)),?_,?_⟩,xX⟩
       .show Ï (List.set xs i en)=n;rw[zu];exact hn
       .exact(ay.mono (λx c hx=>Rep.keep (cS.trans dp) _ _ _ hx)).set i _ _ (Rep.keep dp _ _ _ rq)
       .have Bq:=LK (cur:=cur.toList) (n:=n) (zs:=z.cells.toList) (All2.all_len ay) (by rw[<-ay.length,hn]) (by rw[<-Du,List.take_length,eV]) nT fE;rw[<-Bq];symm;refine(Y ?_).trans ae;simp only[Â,É,zf];omega
     .simp at h
    .simp at h
   .simp at h
  .rename_i e0 el n ls hk;have hk:=aZ.live hk;split at h
   .rename_i new eJ;split at h
    .rename_i hc;simp only[j5]at h;subst h;obtain⟨cm,hle⟩:=hc;obtain⟨ha,h1⟩:=xU eJ hz;have hlen:=ha.length;have uj:z.cells.toList.length=z.cells.size:=qe;obtain⟨_,hi,g,cap,hg,hu⟩:=hx.2.2 _ hk;obtain⟨ca,⟨cs,aQ,ay,Ur⟩,hS⟩:=hR.box k _ hk;rcases aQ.2 with⟨_,h0⟩|⟨g',ik,cur,aC,fA,hh,kJ,iK,c9,dS⟩
     .omega
     rw[hg]at aC;simp at aC;obtain⟨rfl,rfl⟩:=aC;subst hu;have LM:i*el.size+el.size<=n*el.size:=by have:(i+1)*el.size<=n*el.size:=ka _ aa;rwa[zr]at this
     have Ő:n*el.size<=cap*el.size:=ka _ kJ;have dR:cur.toList.length=cap*el.size:=by rw[qe,c9]
     have Dv:cs.length=n*el.size:=aQ.1;have dE:=LJ (X:=cur.toList) (zs:=z.cells.toList) (c:=i*el.size+c) (n:=n*el.size) aa aa;refine⟨_,S,Dt hT ht hh aa (by rw[c9];omega) h1,?_⟩;refine Bp hR hk (by rw[hg];rfl) (hS g (by rw[hg];rfl)) (b':= .row e0 el n (ph ls (i*el.size+c) new)) ⟨rfl,rfl,rfl⟩ hh (λfg dp=>?_);refine⟨ca,⟨cs.take (i*el.size+c)++z.cells.toList++cs.drop (i*el.size+c+z.cells.toList.length),⟨?_,.inr ⟨g,cap,_,hg,k7 _,setRow_heap w g cur _ e0 (0,0) hh,kJ,iK,?_,?_⟩⟩,?_,?_⟩,λg' aC=>hS g' aC⟩
     .simp only[Â,É,zf];omega
     .simp only[yl,Â,É,zf];omega
     .show W _ (_++_++_)=_;rw[dE,dS]
     .exact Dr (ay.mono (λx u hx=>bF.keep dp fg hx)) (ha.mono (λx u hx=>bF.keep dp fg hx))
     .intro v hv;simp only[jm]at hv;rcases hv with (hv|hv)|hv
      .exact Ur v (qq hv)
      .exact h1 v hv
      .exact Ur v (zt hv)
    .simp at h
   .simp at h
  .simp at h
 .simp at h
end
theorem wq{m:H}:∀{l:F (F G)}(i:H),(∀c∈l,c.length=m)->(l.take i).flatten=l.flatten.take (i*m)
 |[],i,_=>ae
 |c::l,0,_=>ae
 |c::l,i+1,h=>by
  have hc:=h c ae;have ih:=wq (l:=l) i (λd hd=>h d (by simp[hd]));rw[List.take_succ_cons,kq,ih,kq,zr,Nat.add_comm,Ù,hc];rw[Y (l:=c) aa,show m+i*m-m=i*m by omega]
theorem Dw{m:H}:∀{l:F (F G)}(i:H),(∀c∈l,c.length=m)->(l.drop i).flatten=l.flatten.drop (i*m)
 |[],i,_=>ae
 |c::l,0,_=>ae
 |c::l,i+1,h=>by
  have hc:=h c ae;have ih:=Dw (l:=l) i (λd hd=>h d (by simp[hd]));rw[List.drop_succ_cons,ih,kq,zr,Nat.add_comm,List.drop_append,hc];rw[Ç (l:=c) aa,jw,show m+i*m-m=i*m by omega]
section
variable{N:NT}{np:H}{S0:aY}{w0:Á}{refs:Refs}{σ:St}{a:ß}{w:Á}{S:aY}{γ:H->G}
theorem Br(hR:Rel N np S0 w0 refs σ a w S γ){k:H}{b:Bx}(hk:σ.bx k = .live b):Rel N np S0 w0 refs (σ.setB k .gone) a w S γ:=by
 have hle:BxLe γ σ.bx γ (σ.setB k .gone).bx:=by
  intro k' bn;by_cases cg:k'=k
  .subst cg;rw[fD];exact⟨ae,rfl,λb hb=>by simp at hb⟩
  .rw[cE σ _ cg];exact⟨bn,rfl,λb hb=>⟨b,hb,.refl b⟩⟩
 have bS:∀k' b1,(σ.setB k .gone).bx k' = .live b1->σ.bx k' = .live b1:=by
  intro k' b1 h1;by_cases cg:k'=k
  .subst cg;rw[fD]at h1;simp at h1
  .rwa[cE σ _ cg]at h1
 exact Rel.step (bx':=(σ.setB k .gone).bx) hR (.refl S w) hle (λk' b' h=>eZ.keep (.refl S w) hle rfl (λ_ _=>⟨rfl,λ_=>â⟩) (hR.box k' b' (bS k' b' h)))
  (λk' b' g h=>hR.own k' b' g (bS k' b' h)) (λk1 k2 b1 b2 g br h1 h2=>hR.apart k1 k2 b1 b2 g br (bS _ _ h1) (bS _ _ h2)) hR.new hR.here hR.below hR.grow hR.os hR.tape hR.output
  (λg _ _ h=>⟨rfl,λk' b' aU=>h k' b' (bS k' b' aU)⟩)
theorem Œ(hR:Rel N np S0 w0 refs σ a w S γ){d:H}(hd:σ.bx d = .free){w':Á}{v':G}{b:Bx}
  (aV:dH S w S w')(gu:∀g,g<w.heap.size->blk v'≠D g->w'.heap[g]? = w.heap[g]?)(cm:w.heap.size<=w'.heap.size)
  (hv:∀g,blk v'=D g->Own w0 refs g/\(∀k b,σ.bx k = .live b->blk (γ k)≠D g)/\g<w'.heap.size)
  (os:w'.os=w.os)(tape:w'.tape=w.tape)(output:w'.output=w.output)
  (hb:BxLe γ σ.bx (gset γ d v') (σ.setB d (.live b)).bx->eZ S w' (gset γ d v') (σ.setB d (.live b)).bx d b)(xY:∀g,blk v'=D g->refs.kw g=M) :
  Rel N np S0 w0 refs (σ.setB d (.live b)) a w' S (gset γ d v')/\BxLe γ σ.bx (gset γ d v') (σ.setB d (.live b)).bx:=by
 have hle:BxLe γ σ.bx (gset γ d v') (σ.setB d (.live b)).bx:=by
  intro k hk;have br:k≠d:=by rintro rfl;exact hk hd
  rw[cE σ _ br,fM γ v' br];exact⟨hk,rfl,λb hb=>⟨b,hb,.refl b⟩⟩
 refine⟨Rel.step (bx':=(σ.setB d (.live b)).bx) hR aV hle ?_ ?_ ?_ hR.new ?_ ?_ (ko hR.grow cm) (os.trans hR.os) (tape.trans hR.tape) (output.trans hR.output) (λg hg nU h=>⟨gu g hg (λhh=>nU (xY g hh)),λk b' aU dm=>by
  by_cases hk:k=d
  .subst hk;rw[eN]at dm;exact nU (xY g dm)
  .rw[cE σ _ hk]at aU;rw[fM γ v' hk]at dm;exact h k b' aU dm⟩),hle⟩
 .intro k b' aU;by_cases hk:k=d
  .subst hk;rw[fD]at aU;simp at aU;subst aU;exact hb hle
  .rw[cE σ _ hk]at aU;refine eZ.keep aV hle (fM γ v' hk) (λg hg=>⟨?_,λ_=>â⟩) (hR.box k b' aU);exact gu g (kK (hR.box k b' aU) hg) (λhh=>(hv g hh).2.1 k b' aU hg)
 .intro k b' g aU hg;by_cases hk:k=d
  .subst hk;rw[eN]at hg;exact .inl (hv g hg).1
  .rw[cE σ _ hk]at aU;rw[fM γ v' hk]at hg;exact hR.own k b' g aU hg
 .intro k k' b1 b2 g br h1 h2 hg aC;by_cases hk:k=d
  .subst hk;have bn:k'≠k:=λh=>br h.symm;rw[eN]at hg;rw[cE σ _ bn]at h2;rw[fM γ v' bn]at aC;exact(hv g hg).2.1 k' b2 h2 aC
  .by_cases bn:k'=d
   .subst bn;rw[eN]at aC;rw[cE σ _ hk]at h1;rw[fM γ v' hk]at hg;exact(hv g aC).2.1 k b1 h1 hg
   .rw[cE σ _ hk]at h1;rw[cE σ _ bn]at h2;rw[fM γ v' hk]at hg;rw[fM γ v' bn]at aC;exact hR.apart k k' b1 b2 g br h1 h2 hg aC
 .intro g o hs;have:=hR.here g o hs;omega
 .intro g hg hr;by_cases hb:blk v'=D g
  .exact((hv g hb).1.no hg hr).elim
  .rw[gu g (by have:=hR.grow;omega) hb];exact hR.below g hg hr
theorem Bs(hR:Rel N np S0 w0 refs σ a w S γ){d:H}(hd:σ.bx d = .free){w':Á}{S':aY}{v':G}{e:H}(hm:isM e=J){el:Ty}{zs:F el.den}{frz:Ø}{css:F (F G)}
  (aV:dH S w S' w')(gu:∀g,g<w.heap.size->blk v'≠D g->w'.heap[g]? = w.heap[g]?)(cm:w.heap.size<=w'.heap.size)
  (hv:∀g,blk v'=D g->Own w0 refs g/\(∀k b,σ.bx k = .live b->blk (γ k)≠D g)/\g<w'.heap.size)
  (hS:∀g o,S' g o->S g o\/blk v'=D g)(os:w'.os=w.os)(tape:w'.tape=w.tape)(output:w'.output=w.output)
  (bZ:w'.ownsRow 0 e el.size v' zs.length css.flatten)(ay:All2 (λx c=>Rep S' w' el x c) zs css)
  (LN:∀g,blk v'=D g->(frz=J->∀o,¬S' g o)/\(frz=Ä->∀o,S' g o↔o<zs.length*el.size))(xY:∀g,blk v'=D g->refs.kw g=M) :
  Rel N np S0 w0 refs (σ.setB d (.live (.lst e el zs frz))) a w' S' (gset γ d v')/\
   bQ S' w' (gset γ d v') (σ.setB d (.live (.lst e el zs frz))).bx (.one (.ol d)) v':=by
 have hle:BxLe γ σ.bx (gset γ d v') (σ.setB d (.live (.lst e el zs frz))).bx:=by
  intro k hk;have br:k≠d:=by rintro rfl;exact hk hd
  rw[cE σ _ br,fM γ v' br];exact⟨hk,rfl,λb hb=>⟨b,hb,.refl b⟩⟩
 have cZ:One v':=by rcases bZ.2 with⟨rfl,_⟩|⟨g,cap,cur,rfl,_⟩<;>rfl
 refine⟨Rel.step (bx':=(σ.setB d (.live (.lst e el zs frz))).bx) hR aV hle ?_ ?_ ?_ ?_ ?_ ?_ (ko hR.grow cm) (os.trans hR.os) (tape.trans hR.tape) (output.trans hR.output) (λg hg nU h=>⟨gu g hg (λhh=>nU (xY g hh)),λk b' aU dm=>by
  by_cases hk:k=d
  .subst hk;rw[eN]at dm;exact nU (xY g dm)
  .rw[cE σ _ hk]at aU;rw[fM γ v' hk]at dm;exact h k b' aU dm⟩),?_⟩
 .intro k b hb;by_cases hk:k=d
  .subst hk;rw[fD]at hb;simp at hb;subst hb;refine Bf hm ⟨css,by rw[eN];exact bZ,ay,λg hg=>?_⟩;rw[eN]at hg;exact LN g hg
  .rw[cE σ _ hk]at hb;refine eZ.keep aV hle (fM γ v' hk) (λg hg=>?_) (hR.box k b hb);have xZ:=kK (hR.box k b hb) hg;have br:blk v'≠D g:=λhh=>(hv g hh).2.1 k b hb hg;exact⟨gu g xZ br,λo=>⟨λhs=>(hS g o hs).resolve_right br,λhs=>(aV g o hs).1⟩⟩
 .intro k b g hb hg;by_cases hk:k=d
  .subst hk;rw[eN]at hg;exact .inl (hv g hg).1
  .rw[cE σ _ hk]at hb;rw[fM γ v' hk]at hg;exact hR.own k b g hb hg
 .intro k k' b1 b2 g br h1 h2 hg aC;by_cases hk:k=d
  .subst hk;have bn:k'≠k:=λh=>br h.symm;rw[eN]at hg;rw[cE σ _ bn]at h2;rw[fM γ v' bn]at aC;exact(hv g hg).2.1 k' b2 h2 aC
  .by_cases bn:k'=d
   .subst bn;rw[eN]at aC;rw[cE σ _ hk]at h1;rw[fM γ v' hk]at hg;exact(hv g aC).2.1 k b1 h1 hg
   .rw[cE σ _ hk]at h1;rw[cE σ _ bn]at h2;rw[fM γ v' hk]at hg;rw[fM γ v' bn]at aC;exact hR.apart k k' b1 b2 g br h1 h2 hg aC
 .intro g o hs;rcases hS g o hs with hs|hs
  .exact hR.new g o hs
  .exact .inr (hv g hs).1
 .intro g o hs;rcases hS g o hs with hs|hs
  .have:=hR.here g o hs;omega
  .exact(hv g hs).2.2
 .intro g hg hr;by_cases hb:blk v'=D g
  .exact((hv g hb).1.no hg hr).elim
  .rw[gu g (by have:=hR.grow;omega) hb];exact hR.below g hg hr
 .refine⟨⟨by rw[fD];simp,cZ,λb hb=>(eN γ d v').symm⟩,λ_=>cZ⟩
theorem Us{P:Z}{T:H->À TyI}(hT:cJ P T){t ty:È}{ti:TyI}(ht:T t=D ti){el:Ty}(bG:ti.ty=D (.list el))
  {v:G}{n:H}{xs:F G}(aQ:w.ownsRow 0 ti.elem el.size v n xs){ad:À Addr}{m c:H}{news:F G}(dO:ad=M->m=0/\c=0)(hl:news.length=m*el.size)
  (gU:∀b,ad=D b->∀(j:H)(u:G),news[j]? = D u->w.cell? (b.add j)=D u)(h1:∀u∈news,One u)(eX:n+m<=aG) :
  ∃v' w',(Í #[t,t] ty #[v,.slice ad m c]).run P w = .ok v' w'/\w'.ownsRow 0 ti.elem el.size v' (n+m) (xs++news)/\w'.os=w.os/\w'.tape=w.tape/\w'.output=w.output/\w.heap.size<=w'.heap.size/\
   ((v'=v/\w'=w)\/(blk v'=blk v/\(∃g,blk v=D g)/\∀g,blk v≠D g->w'.heap[g]? = w.heap[g]?)\/(blk v'=D w.heap.size/\∀g,g<w.heap.size->w'.heap[g]? = w.heap[g]?)):=by
 obtain⟨hd,bK,te,dy,cR⟩:=nN hT ht bG;have cm:=mG hT dy cR;obtain⟨i,de,hi,hde,his,Dx,_,_,hz⟩:=nu hT dy;obtain⟨_,⟨z,hz,ia⟩,_⟩:=hz el cR;have fW:i.size=el.size:=aa;have iZ:z.cells.size=el.size:=by have h:=Rep.length el el.dflt _ (qE (S:=λ_ _=>False) (w:=w) el);rw[<-ia]at h;simpa using h
 have Dy:n+m<=maxLen:=by simp only[maxLen,aG]at *;omega
 have lR:(n+m)*i.bytes<=140737488355328:=by have:(n+m)*i.bytes<=aG*32768:=qm eX Dx;simp only[aG]at this;omega
 have hlen:(xs++news).length=(n+m)*el.size:=by rw[Â,aQ.1,hl,Ê]
 cases ad with
 |none=>obtain⟨rfl,rfl⟩:=dO rfl;have iE:news=[]:=jy (by simpa using hl);subst iE;exact⟨v,w,run_append_owned_none (P:=P) w 0 t ty ti.elem i el.size hd hi v n xs aQ,by simpa using aQ,rfl,rfl,rfl,jq _,.inl ⟨rfl,rfl⟩⟩
 |some b=>
  have gU:=gU b rfl;rcases aQ.2 with⟨rfl,rfl⟩|⟨g,cap,cur,rfl,_,hg,kJ,iK,c9,dS⟩
  .have wu:w.ownsRow w.heap.size ti.elem el.size (.slice M 0 0) 0 xs:=⟨aQ.1,.inl ⟨rfl,rfl⟩⟩;obtain⟨v',w',hr,ho,oI,hv⟩:=run_append_own (P:=P) w w.heap.size t ty ti.elem i z el.size i.bytes hd hi hz fW rfl iZ bK _ 0 xs wu b m c news hl gU h1 Dy lR (jq _);refine⟨v',w',hr,⟨ho.1,ho.2.imp id (λ⟨g,cap,cur,h1,_,h3⟩=>⟨g,cap,cur,h1,k7 _,h3⟩)⟩,oI.os,oI.tape,oI.output,oI.size,?_⟩;by_cases hm:m=0
   .subst hm;have iE:news=[]:=jy (by simpa using hl);subst iE;have:=run_append_own (P:=P) w w.heap.size t ty ti.elem i z el.size i.bytes hd hi hz fW rfl iZ bK _ 0 xs wu b 0 c [] hl gU h1 Dy lR (jq _);left;have hx:(Í #[t,t] ty #[.slice M 0 0,.slice (D b) 0 c]).run P w = .ok (.slice M 0 0) w:=by simp[Í,run_underlying hd,sizeOf,typeInfo,hi,ò,Õ,loadCells,loadCellsFrom]
    rw[hx]at hr;simp at hr;exact⟨hr.1.symm,hr.2.symm⟩
   .have Bt:=run_append_nil (P:=P) w t ty ti.elem i z hd hi hz b m c news (by rw[fW];exact hl) gU aa (by simp only[maxLen]at Dy;omega) (by have:=lR;simp only[kb]at this;omega);rw[Bt]at hr;simp at hr;obtain⟨rfl,rfl⟩:=hr;exact .inr (.inr ⟨rfl,λg hg=>heap_alloc_old w.drew _ hg⟩)
  .by_cases rr:n+m<=cap
   .have Dz:n*i.size+news.length<=cur.size:=by rw[fW,hl,c9,<-Ê];exact ka _ rr
    have hr:=run_append_room (P:=P) w t ty ti.elem i hd hi g n cap cur hg b m c news (by rw[fW];exact hl) gU h1 rr Dz;rw[fW]at hr Dz;refine⟨_,_,hr,⟨hlen,.inr ⟨g,cap,_,rfl,k7 _,setRow_heap w g cur _ ti.elem _ hg,rr,iK,?_,?_⟩⟩,rfl,rfl,rfl,by rw[size_setRow];exact jq _,.inr (.inl ⟨rfl,⟨g,rfl⟩,λg' aC=>?_⟩)⟩
    .simp only[yl,Â,É,zf,qe];omega
    .rw[dS,<-hlen];exact List.take_left
    .exact setRow_other w g g' _ (λh=>aC (by rw[h];rfl))
   .have holds:∀(j:H)(u:G),xs[j]? = D u->w.cell? ((⟨g,0,M⟩:Addr).add j)=D u:=aQ.cells (g:=g) rfl;have hr:=run_append_grow (P:=P) w t ty ti.elem i z hd hi hz ⟨g,0,M⟩ n cap xs (by rw[fW];exact aQ.1) holds b m c news (by rw[fW];exact hl) gU aa (by simp only[maxLen]at Dy;omega) (growslice_fits aa lR);have mu:=grownCap_ge w (n+m) cap ti.elem;refine⟨_,_,hr,⟨hlen,.inr ⟨w.heap.size,_,_,rfl,k7 _,heap_alloc_new w.drew _,mu,grownCap_le_maxLen w (n+m) cap ti.elem Dy,?_,?_⟩⟩,rfl,rfl,rfl,ae,.inr (.inr ⟨rfl,λg' aC=>heap_alloc_old w.drew _ aC⟩)⟩
    .simp only[Array.size_append,yl,size_zeroCells,iZ,aQ.1,hl,<-Ê];congr 1;omega
    .simp only[Array.toList_append,jg];rw[<-jg,<-hlen];exact List.take_left
theorem Ut(hR:Rel N np S0 w0 refs σ a w S γ){rd:H->BS}(aZ:RdOk σ rd){el:Ty}{y:Leaf}{ys:F el.den}{z:G}(h:appX rd el y=D ys)(hy:bF S w γ σ.bx y z) :
  ∃ad c css,z = .slice ad ys.length c/\(ad=M->ys.length=0/\c=0)/\All2 (λx c=>Rep S w el x c) ys css/\
   ∀b,ad=D b->∀(j:H)(u:G),css.flatten[j]? = D u->w.cell? (b.add j)=D u:=by
 unfold appX at h;split at h
 .rename_i k;split at h
  .rename_i e Hc xs f hk;have:=nv h;cases this;have ca:=aZ.nm hk;have hk:=aZ.live hk;have hz:=hy.2.2 _ hk;obtain⟨css,aQ,ay,_⟩:=iY ca (hR.box k _ hk);rcases aQ.2 with⟨hg,h0⟩|⟨g,cap,cur,hg,_⟩
   .exact⟨M,0,css,by rw[hz,hg,h0],λ_=>⟨h0,rfl⟩,ay,λb hb=>by simp at hb⟩
   .refine⟨D ⟨g,0,M⟩,cap,css,by rw[hz,hg],ae,ay,λb hb j u hu=>?_⟩;simp at hb;subst hb;exact aQ.cells (g:=g) (by rw[hg];rfl) j u hu
  .simp at h
 .rename_i t xs;have:=nv h;cases this;obtain⟨ad,cap,hz,hle,iK,hn,hb⟩:=hy;simp at hz;cases ad with
  |none=>have h0:=hn rfl;have gv:Ï ys=0:=aa;have:ys=[]:=jy gv;subst this;exact⟨M,cap,[],hz,λ_=>⟨rfl,h0⟩,trivial,λb hb=>by simp at hb⟩
  |some b=>
   obtain⟨dE,css,ha,hl⟩:=hb b rfl;refine⟨D b,cap,css,hz,ae,ha,λb' aU j u hu=>?_⟩;simp at aU;subst aU
   have dE:=dE (λe=>by
    rw[e]at ha;cases css with
    |nil=>simp at hu
    |cons c cs=>exact ha)
   obtain⟨g,o,sp⟩:=b;simp at dE;subst dE;rw[Æ];exact(hl j u hu).2
 .simp at h;subst h;exact⟨M,0,[],hy,λ_=>⟨rfl,rfl⟩,trivial,λb hb=>by simp at hb⟩
 .rename_i k j;split at h
  .rename_i e Hc xs f hk;split at h
   .rename_i du iD;have:=nv iD;cases this;simp only[j5]at h;subst h;have ca:=aZ.nm hk;have hk:=aZ.live hk;obtain⟨_,hj,ad,ik,aC,hu⟩:=hy.2.2 _ hk;obtain⟨css,aQ,ay,_⟩:=iY ca (hR.box k _ hk);have dR:=All2.all_len ay;have hlen:(Ð j du).length=du.length-j:=ae;rcases aQ.2 with⟨hg,h0⟩|⟨g,cap,cur,hg,_,hh,kJ,_⟩
    .rw[hg]at aC;simp only[Å]at aC;obtain⟨rfl,_,rfl⟩:=aC;have um:du=[]:=jy h0;subst um;refine⟨M,0,[],by rw[hu];simp,λ_=>⟨ae,rfl⟩,by simp;trivial,λb hb=>by simp at hb⟩
    .rw[hg]at aC;simp only[Å,q7]at aC;obtain⟨rfl,rfl⟩:=aC;by_cases hc:cap=j
     .have um:Ð j du=[]:=Ç aa;rw[um];rw[if_pos hc]at hu;exact⟨D ⟨g,0,M⟩,cap-j,[],by rw[hu];simp;omega,ae,trivial,λb hb q v hq=>by simp at hq⟩
     .rw[if_neg hc]at hu;simp only[kn,Æ,kb]at hu;refine⟨D ⟨g,j*el.size,M⟩,cap-j,css.drop j,by rw[hu,hlen],ae,ay.drop j,λb hb q v hq=>?_⟩;simp at hb;subst hb;have œ:(css.drop j).flatten=css.flatten.drop (j*el.size):=Dw j dR;rw[œ,á]at hq;have:=aQ.cells (g:=g) (by rw[hg];rfl) _ v hq;rw[Æ]at this ⊢;simpa using this
   .simp at h
  .simp at h
 .simp at h
theorem Ŕ{P:Z}{E:Env}(hT:cJ P E.T)(hR:Rel N np S0 w0 refs σ a w S γ){rd rdf:H->BS}(aZ:RdOk σ rd)(bz:RdF np σ rdf){t ty:È}{ti:TyI}(ht:E.T t=D ti)
  {el:Ty}(bG:ti.ty=D (.list el)){x y:Leaf}{xs ys:F el.den}{frz:Ø}{u:Ups}{d:H}{vx vy:G}(h1:appS rdf ti.elem el x=D (xs,frz,u))(h2:appX rd el y=D ys)
  (hd:σ.bx d = .free)(eX:xs.length+ys.length<=aG)(hx:bF S w γ σ.bx x vx)(hy:bF S w γ σ.bx y vy) :
  ∃v' w' S' γ',(Í #[t,t] ty #[vx,vy]).run P w = .ok v' w'/\Rel N np S0 w0 refs (σ.upd (u++[(d,.live (.lst ti.elem el (xs++ys) frz))])) a w' S' γ'/\
   bQ S' w' γ' (σ.upd (u++[(d,.live (.lst ti.elem el (xs++ys) frz))])).bx (.one (.ol d)) v':=by
 obtain⟨ad,c,cy,Hd,dO,x8,ee⟩:=Ut hR aZ h2 hy;subst Hd;have LO:cy.flatten.length=ys.length*el.size:=All2.flatten_length (λx c hx=>Rep.length el x c hx) x8;have ŕ:∀u∈cy.flatten,One u:=by intro u hu;obtain⟨c,hc,xO⟩:=List.mem_flatten.1 hu;obtain⟨x,_,hx⟩:=x8.mem_right c hc;exact Rep.one el x c hx u xO
 obtain⟨nP,bK,te,dy,cR⟩:=nN hT ht bG
 have src:∃σ1,σ.upd u=σ1/\Rel N np S0 w0 refs σ1 a w S γ/\σ1.bx d = .free/\∃cx,w.ownsRow 0 ti.elem el.size vx xs.length cx.flatten/\All2 (λx c=>Rep S w el x c) xs cx/\
   ∀g,blk vx=D g->Own w0 refs g/\g<w.heap.size/\(∀k b,σ1.bx k = .live b->blk (γ k)≠D g)/\(frz=J->∀o,¬S g o)/\(frz=Ä->∀o,S g o↔o<xs.length*el.size)/\refs.kw g=none:=by
  unfold appS at h1;split at h1
  .rename_i k;split at h1
   .rename_i e' Hc du f hk;split at h1
    .rename_i Ui iD;split at h1
     .rename_i he;simp only[j5,j9]at h1;obtain⟨rfl,rfl,rfl⟩:=h1;have:=nv iD;cases this;subst he;have qF:=bz.par hk;have ca:=bz.ok.nm hk;have hk:=bz.ok.live hk;have hz:=hx.2.2 _ hk;obtain⟨css,aQ,ay,hS⟩:=iY ca (hR.box k _ hk);have td:d≠k:=by rintro rfl;rw[hd]at hk;simp at hk
      refine⟨σ.setB k .gone,rfl,Br hR hk,by rw[cE σ _ td];exact hd,css,by rw[hz];exact aQ,ay,λg hg=>?_⟩;rw[hz]at hg;refine⟨?_,kK (hR.box k _ hk) hg,λk' b' aU aC=>?_,(hS g hg).1,(hS g hg).2,hR.kw_live hk hg⟩
      .rcases hR.own k _ g hk hg with h|h
       .exact h
       .rw[qF]at h;simp at h
      .have cg:k'≠k:=by rintro rfl;rw[fD]at aU;simp at aU
       rw[cE σ _ cg]at aU;exact hR.apart k' k _ _ g cg aU hk aC hg
     .simp at h1
    .simp at h1
   .simp at h1
  .simp only[j5,j9]at h1;obtain⟨rfl,rfl,rfl⟩:=h1;have hz:vx = .slice M 0 0:=hx;subst hz;exact⟨σ,rfl,hR,hd,[],ä w 0 ti.elem el.size,trivial,λg hg=>by simp[blk]at hg⟩
  .simp at h1
 obtain⟨σ1,Ŗ,bu,qD,cx,aQ,He,hblk⟩:=src;rw[jK,Ŗ];obtain⟨v',w',hr,bZ,os,tape,output,cm,cP⟩:=Us hT ht bG (ty:=ty) aQ dO LO ee ŕ eX;have hlx:cx.flatten.length=xs.length*el.size:=aQ.1;let S':aY:=λg o=>S g o\/(frz=Ä/\blk v'=D g/\o<(xs++ys).length*el.size)
 have aV:dH S w S' w':=by
  intro g o hs;refine⟨.inl hs,?_⟩;rcases cP with⟨rfl,rfl⟩|⟨hb,⟨g0,kM⟩,hh⟩|⟨hb,hh⟩
  .rfl
  .by_cases hg:g=g0
   .subst hg;obtain⟨_,_,_,hf,tg,_⟩:=hblk g kM;cases frz with
    |false=>exact absurd hs (hf rfl o)
    |true=>
     have ho:=(tg rfl o).1 hs
     have gC:v'.ownBlock=D g:=by
      rw[kM]at hb;rcases bZ.2 with⟨hn,_⟩|⟨g1,cap,cur,hn,_⟩
      .rw[hn]at hb;simp[blk]at hb
      .rw[hn]at hb ⊢;simp[blk]at hb;simp[Value.ownBlock,hb]
     have Bu:vx.ownBlock=D g:=by
      rcases aQ.2 with⟨hn,_⟩|⟨g1,cap,cur,hn,_⟩
      .rw[hn]at kM;simp[blk]at kM
      .rw[hn]at kM ⊢;simp[blk]at kM;simp[Value.ownBlock,kM]
     have DA:(cx.flatten)[o]? = D (cx.flatten[o]'aa):=jo aa;have e1:=aQ.cells Bu o _ DA;have e2:=bZ.cells gC o (cx.flatten[o]'aa) (by rw[å aa];exact DA);rw[Æ,kb]at e1 e2;rw[e1,e2]
   .have:=hh g (by rw[kM];simpa using λh=>hg h.symm);exact Ò (a:=⟨g,o,M⟩) this
  .exact Ò (a:=⟨g,o,M⟩) (hh g (hR.here g o hs))
 have Hf:∀g,blk v'=D g->Own w0 refs g/\(∀k b,σ1.bx k = .live b->blk (γ k)≠D g)/\g<w'.heap.size:=by
  intro g hg
  have aq:g<w'.heap.size:=by
   rcases bZ.2 with⟨hn,_⟩|⟨g1,cap,cur,hn,_,hh,_⟩
   .rw[hn]at hg;simp[blk]at hg
   .rw[hn]at hg;simp[blk]at hg;subst hg;exact(jh.1 hh).1
  rcases cP with⟨rfl,rfl⟩|⟨hb,⟨g0,kM⟩,hh⟩|⟨hb,hh⟩
  .obtain⟨q1,q2,q3,_⟩:=hblk g hg;exact⟨q1,q3,aq⟩
  .rw[hb]at hg;obtain⟨q1,q2,q3,_⟩:=hblk g hg;exact⟨q1,q3,aq⟩
  .rw[hb]at hg;simp at hg;subst hg;exact⟨.inl hR.grow,λk b hk aC=>by have:=kK (bu.box k b hk) aC;omega,aq⟩
 obtain⟨dv,gL⟩:=Bs bu qD (hm:=Lv hT ht) (w':=w') (S':=S') (v':=v') (e:=ti.elem) (el:=el) (zs:=xs++ys) (frz:=frz) (css:=cx++cy) aV (λg hg br=>by
   rcases cP with⟨rfl,rfl⟩|⟨hb,_,hh⟩|⟨hb,hh⟩
   .rfl
   .exact hh g (by rw[<-hb];exact br)
   .exact hh g hg) cm Hf (λg o hs=>hs.imp id (λh=>h.2.1)) os tape output (by rw[yc,Â];exact bZ)
  ((
   He.mono (λx c hx=>Rep.keep aV _ _ _ hx)).append (x8.mono (λx c hx=>Rep.keep aV _ _ _ hx))) (λg hg=>by
   have hold:∀o,S g o->frz=Ä/\o<xs.length*el.size:=by
    intro o hs;rcases cP with⟨rfl,rfl⟩|⟨hb,⟨g0,kM⟩,hh⟩|⟨hb,hh⟩
    .obtain⟨_,_,_,hf,tg,_⟩:=hblk g hg;cases frz with
     |false=>exact absurd hs (hf rfl o)
     |true=>exact⟨rfl,(tg rfl o).1 hs⟩
    .rw[hb]at hg;obtain⟨_,_,_,hf,tg,_⟩:=hblk g hg;cases frz with
     |false=>exact absurd hs (hf rfl o)
     |true=>exact⟨rfl,(tg rfl o).1 hs⟩
    .rw[hb]at hg;simp at hg;subst hg;exact absurd hs (Bo hR o)
   refine⟨λhf o hs=>?_,λhf o=>⟨λhs=>?_,λho=> .inr ⟨hf,hg,ho⟩⟩⟩
   .rcases hs with hs|hs
    .rw[hf]at hold;simp at hold;exact hold o hs
    .rw[hf]at hs;simp at hs
   .rcases hs with hs|hs
    .have:=(hold o hs).2;rw[Â,Ê];omega
    .exact hs.2.2) (λg hg=>by
   rcases cP with⟨rfl,rfl⟩|⟨hb,⟨g0,kM⟩,hh⟩|⟨hb,hh⟩
   .exact(hblk g hg).2.2.2.2.2
   .rw[hb]at hg;exact(hblk g hg).2.2.2.2.2
   .rw[hb]at hg;simp at hg;subst hg;exact hR.kw_new (jq _))
 exact⟨v',w',S',_,hr,dv,gL⟩
end
theorem ŗ(L l:F G)(v:G)(n:H)(h:n<L.length) :
  (L.set n v).take (n+1)++l++(L.set n v).drop (n+1+l.length)=L.take n++v::l++L.drop (n+(l.length+1)):=by
 obtain⟨A,x,B,hA,rfl⟩:∃A x B,Ï A=n/\L=A++x::B:=⟨L.take n,L[n],L.drop (n+1),az,by rw[ê h,qx]⟩;subst hA;rw[vp _ _ (jq _),Nat.sub_self,à];have e1:(A++v::B).take (A.length+1)=A++[v]:=by rw[show A++v::B=(A++[v])++B by simp];exact Ý ae
 have e2:(A++x::B).take A.length=A:=Ý rfl;have e3:∀y,(A++y::B).drop (A.length+1+l.length)=B.drop l.length:=by intro y;rw[show A++y::B=(A++[y])++B by simp,<-List.drop_drop,ÿ ae]
 rw[e1,e2,e3,show A.length+(l.length+1)=A.length+1+l.length by omega,e3];simp
theorem Uu(off:H):∀(l:F G)(k:H)(cells:Ë G),off+k+l.length<=cells.size->
  ((l.zipIdx k).foldl (λcs x=>cs.setIfInBounds (off+x.2) x.1) cells).toList=cells.toList.take (off+k)++l++cells.toList.drop (off+k+l.length)
 |[],k,cells,_=>ae
 |v::l,k,cells,h=>by
  simp only[ji]at h;rw[List.zipIdx_cons,List.foldl_cons,Uu off l (k+1) _ az];simp only[Array.toList_setIfInBounds];rw[show off+(k+1)=off+k+1 by omega];exact ŗ cells.toList l v (off+k) az
theorem LQ(cells:Ë G)(off:H)(zs:Ë G)(h:off+zs.size<=cells.size) :
  (zs.zipIdx.foldl (λcs (x:G×H)=>cs.setIfInBounds (off+x.2) x.1) cells).toList=cells.toList.take off++zs.toList++cells.toList.drop (off+zs.size):=by
 rw[<-Array.foldl_toList,Array.toList_zipIdx];have:=Uu off zs.toList 0 cells (by simpa using h);simpa using this
theorem Uv(z:F G):∀(n p:H),p<n*z.length->(O n z).flatten[p]? = z[p%z.length]?
 |0,p,h=>by simp at h
 |n+1,p,h=>by
  rw[List.replicate_succ,kq];by_cases hp:p<z.length
  .rw[å hp,Nat.mod_eq_of_lt hp]
  .rw[ke aa,Uv z n (p-z.length) (by rw[Ê]at h;omega)];congr 1;exact(Nat.mod_eq_sub_mod aa).symm
theorem Uw(z:Ë G)(n:H)(hz:0<z.size):((Ñ (n*z.size)).map (λi=>z[i%z.size]!)).toList=(O n z.toList).flatten:=by
 apply vu;intro p;by_cases hp:p<n*z.size
 .rw[Uv z.toList n p (by simpa using hp)];have hm:p%z.size<z.size:=Nat.mod_lt _ hz;simp[hp,hm]
 .rw[qf az,qf (by rw[List.length_flatten];simp;omega)]
section
variable{N:NT}{np:H}{S0:aY}{w0:Á}{refs:Refs}{σ:St}{a:ß}{w:Á}{S:aY}{γ:H->G}
theorem Hg{t:Ty}{z:G}(h:z.cells.toList=la t):z.cells.size=t.size:=by
 have:=Rep.length t t.dflt _ (qE (S:=λ_ _=>False) (w:=(default:Á)) t);rw[<-h]at this;simpa using this
theorem Hh{t:Ty}{z:G}(h:z.cells.toList=la t):∀u∈z.cells.toList,One u:=by
 rw[h];exact Rep.one t t.dflt _ (qE (S:=λ_ _=>False) (w:=(default:Á)) t)
theorem LS{P:Z}{T:H->À TyI}(hT:cJ P T){t:È}{ti:TyI}(ht:T t=D ti){ty:Ty}(bG:ti.ty=D ty) :
  ∃z:G,z.cells.toList=la ty/\(Instr.alloc t Ä (.tuple #[])).run P w = .ok (.pointer (D ⟨w.heap.size,0,M⟩)) (w.alloc (.cells z.cells t)):=by
 obtain⟨z,hz,hc⟩:=xP hT ht w bG;refine⟨z,hc,?_⟩;simp only[Instr.alloc,U,hz,I,newVar,newRow,run_newObj,Ã,Ö]
theorem Ux{P:Z}(t:È)(v:G):(Instr.box t v).run P w = .ok (.pointer (D ⟨w.heap.size,0,M⟩)) (w.alloc (.cells v.cells t)):=by
 simp only[Instr.box,U,newVar,newRow,run_newObj,I,Ã,Ö]
theorem Uy{P:Z}{α β:Type}(f:α->Sem β)(g:α->β):∀(l:F α),(∀x∈l,(f x).run P w = .ok (g x) w)->(l.mapM f).run P w = .ok (l.map g) w
 |[],_=>ae
 |x::l,h=>by
  rw[List.mapM_cons];simp only[U,h x ae,I,Uy f g l (λy hy=>h y (by simp[hy])),Ã,kj]
theorem Uz{bx:H->BS}{ti:TyI}{sz:H->À H}{place:H->À (H×H)}(hp:∀i f n,ti.flds[i]? = D f->sz f.2=D n->place i=D (f.1,n)) :
  ∀(ps:F (H×Cel))(vs:F (H×G)){ls ls':F Leaf}{cells:Ë G},All2 (λp v=>p.1=v.1/\bQ S w γ bx p.2 v.2) ps vs->AS ti sz ls ps=D ls'->
   All2 (bF S w γ bx) ls cells.toList->(∀u∈cells.toList,One u)->∃bL,Ó place cells vs=D bL/\All2 (bF S w γ bx) ls' bL.toList/\∀u∈bL.toList,One u
 |[],[],ls,ls',cells,_,h,ha,h1=>by
  simp[AS]at h;subst h;exact⟨cells,rfl,ha,h1⟩
 |(i,c)::ps,(j,v)::vs,ls,ls',cells,⟨⟨eh,hc⟩,ib⟩,h,ha,h1=>by
  simp only at eh;subst eh;simp only[AS]at h;split at h
  .rename_i f hf;split at h
   .rename_i new eJ;split at h
    .rename_i cU;obtain⟨cm,hle⟩:=cU;obtain⟨hl,lQ⟩:=xU eJ hc;have hlen:=hl.length;have ug:=ha.length;have mK:v.cells.size=new.length:=by rw[hlen];simp
     have c9:cells.size=ls.length:=by rw[ug];simp
     have Bv:=LQ cells f.1 v.cells aa;have dE:=Dr (c:=f.1) ha hl
     obtain⟨bL,fX,h2,h3⟩:=Uz hp ps vs (cells:=(v.cells.zipIdx.foldl (λcs (x:G×H)=>cs.setIfInBounds (f.1+x.2) x.1) cells)) ib h
      (by rw[Bv];simpa using dE) (by
       rw[Bv];intro u hu;simp only[jm]at hu;rcases hu with (hu|hu)|hu
       .exact h1 u (qq hu)
       .exact lQ u hu
       .exact h1 u (zt hu))
     refine⟨bL,?_,h2,h3⟩;simp only[Ó,hp i f _ hf cm];rw[if_neg (by simp[mK];omega)];exact fX
    .simp at h
   .simp at h
  .simp at h
 |[],_::_,_,_,_,h,_,_,_=>h.elim
 |_::_,[],_,_,_,h,_,_,_=>h.elim
theorem Ř{P:Z}{E:Env}(hT:cJ P E.T){bx:H->BS}{t:È}{ti:TyI}(ht:E.T t=D ti){ty:Ty}(bG:ti.ty=D ty)(nO:ty.agg=Ä)
  {ps:F (H×Cel)}{vs:Ë (H×G)}{ls:F Leaf}(ib:All2 (λp v=>p.1=v.1/\bQ S w γ bx p.2 v.2) ps vs.toList)
  (h:AS ti (λt=>(E.T t).map (·.size)) (oD ty) ps=D ls) :
  ∃z,(Ú t vs).run P w = .ok z w/\bQ S w γ bx (.st ls) z:=by
 obtain⟨z,hz,ia⟩:=xP hT ht w bG;obtain⟨i,d,hi,hd,_,_,_,fB,fe⟩:=nu hT ht;have nP:=(fe ty bG).2.2;cases d with
 |struct fs=>
  simp only[Dk,jd,jj]at fB;obtain⟨nS,rm⟩:=fB
  have uq:(fs.mapM (λf=>do pure (f.offset,<-sizeOf f.type):Field->Sem (H×H))).run P w = .ok (fs.map λf=>(f.offset,((E.T f.type).map (·.size)).getD 0)) w:=by
   rw[Array.mapM_eq_mapM_toList]
   have:=Uy (P:=P) (w:=w) (λf=>(do pure (f.offset,<-sizeOf f.type):Sem (H×H))) (λf:Field=>(f.offset,((E.T f.type).map (·.size)).getD 0)) fs.toList (λf hf=>by
    have:=jv.1 rm f hf;split at this
    .rename_i tf wg;simp only[U,jJ hT wg,I,Ã,wg,kn,z6]
    .simp at this)
   simp only[Sem.run_map,this,I];congr 1;apply vf;simp
  have hp:∀(i:H)(f:H×H)(n:H),ti.flds[i]? = D f->(E.T f.2).map (·.size)=D n->(fs.map λf=>(f.offset,((E.T f.type).map (·.size)).getD 0))[i]? = D (f.1,n):=by
   intro i f n hf hn;rw[<-nS,qg]at hf;cases hq:fs.toList[i]? with
   |none=>simp[hq]at hf
   |some fl=>
    simp only[hq,kn,j5]at hf;subst hf;have DB:fs[i]? = D fl:=by simpa using hq
    simp only at hn;simp[DB,hn]
  obtain⟨bL,fX,ha,h1⟩:=Uz (S:=S) (w:=w) (γ:=γ) (place:=λi=>(fs.map λf=>(f.offset,((E.T f.type).map (·.size)).getD 0))[i]?) hp ps vs.toList (cells:=z.cells) ib h (by rw[ia];exact wo ty) (Hh ia);refine⟨.agg bL,?_,bL,rfl,ha,h1⟩;simp only[Ú,U,hz,I,run_underlying hd,uq,fX,Ã]
 |_=>exfalso;revert nP nO;cases ty<;>simp[lN,Ty.agg]
theorem UA{rd:H->BS}{el:Ty}:∀(ps:F (H×Cel)){xs du:F el.den}{u u':Ups},lI rd el xs u ps=D (du,u')->∃u2,u'=u++u2
 |[],_,_,u,u',h=>by simp[lI]at h;exact⟨[],by simp[h.2]⟩
 |(i,c)::ps,xs,du,u,u',h=>by
  simp only[lI]at h;split at h
  .split at h
   .obtain⟨u2,hu⟩:=UA ps h;exact⟨_,by rw[hu,jg]⟩
   .simp at h
  .simp at h
theorem LU{rd:H->BS}(aZ:RdF np σ rd)(hB:wj S w γ σ.bx){el:Ty}(bK:0<el.size):∀(ps:F (H×Cel))(vs:F (H×G)){xs du:F el.den}{u u':Ups},
  All2 (λp v=>p.1=v.1/\bQ S w γ σ.bx p.2 v.2) ps vs->lI rd el xs u ps=D (du,u')->FrzL np σ.bx u->
  FrzL np σ.bx u'/\∀S',dH S w S' w->Froz σ.bx γ S' w u'->∀(css:F (F G))(cells:Ë G),All2 (λx c=>Rep S' w el x c) xs css->cells.toList=css.flatten->
   ∃bL lT,Ó (λi=>D (i*el.size,el.size)) cells vs=D bL/\All2 (λx c=>Rep S' w el x c) du lT/\bL.toList=lT.flatten
 |[],[],xs,du,u,u',_,h,hf=>by
  simp[lI]at h;obtain⟨rfl,rfl⟩:=h;exact⟨hf,λS' _ _ css cells ha hc=>⟨cells,css,rfl,ha,hc⟩⟩
 |(i,c)::ps,(j,v)::vs,xs,du,u,u',⟨⟨eh,hc⟩,ib⟩,h,hf=>by
  simp only at eh;subst eh;simp only[lI]at h;split at h
  .rename_i x u1 hx;split at h
   .rename_i hi;obtain⟨nS,x9,lQ⟩:=Bn aZ hB hx hc;obtain⟨ř,fh⟩:=LU aZ hB bK ps vs ib h (FrzL.app.2 ⟨hf,nS⟩);obtain⟨u2,Bw⟩:=UA ps h;refine⟨ř,λS' aV ff css cells ha ei=>?_⟩;have Ś:=(x9 S' w aV (Froz.app.1 (Froz.app.1 (Bw▸ff)).1).2).1;have Dv:cells.size=xs.length*el.size:=by have:=All2.flatten_length (λx c hx=>Rep.length el x c hx) ha;rw[<-ei]at this;simpa using this
    have LM:i*el.size+el.size<=xs.length*el.size:=by have:(i+1)*el.size<=xs.length*el.size:=ka _ aa;rwa[zr]at this
    have lQ:v.cells.toList.length=el.size:=lQ;have mK:v.cells.size=el.size:=by simpa using lQ
    have uj:v.cells.toList.length=v.cells.size:=qe;have Bv:=LQ cells (i*el.size) v.cells aa;obtain⟨ci,nT⟩:∃ci,css[i]? = D ci:=⟨css[i]'(by rw[<-ha.length];exact hi),jo _⟩;have Bq:=LK (cur:=cells.toList) (n:=xs.length) (c:=0) (zs:=v.cells.toList) (All2.all_len ha) ha.length.symm (by rw[ei,<-ei];exact Y (by simp[Dv])) nT aa;have dR:ci.length=el.size:=All2.all_len ha ci (k9 nT)
    have eJ:cells.toList.take (i*el.size)++v.cells.toList++cells.toList.drop (i*el.size+v.cells.size)=(css.set i v.cells.toList).flatten:=by
     have e1:ci.take 0++v.cells.toList++ci.drop (0+v.cells.toList.length)=v.cells.toList:=by rw[Ç aa];simp
     rw[e1]at Bq;rw[<-Bq];symm;refine(Y ?_).trans ?_
     .simp;omega
     .simp
    obtain⟨bL,lT,h1,h2,h3⟩:=fh S' aV ff (css.set i v.cells.toList) _ (ha.set i x v.cells.toList Ś) (Bv.trans eJ);refine⟨bL,lT,?_,h2,h3⟩;simp only[Ó];rw[if_neg (by simp[mK];omega)];exact h1
   .simp at h
  .simp at h
 |[],_::_,_,_,_,_,h,_,_=>h.elim
 |_::_,[],_,_,_,_,h,_,_=>h.elim
end
theorem UB{P:Z}{t e:È}(h:P.underlying t=D (.slice e)):P.elem t=e:=by simp[Program.elem,h]
def VB(d:H)(o:À G)(i:H):Prop:=(o=M/\i=d)\/∃k,o=D (.int k (i:Int))
theorem yn{P:Z}{w:Á}{t:È}{e s:H}(hd:P.underlying t=D (.slice e))(hs:(sizeOf e).run P w = .ok s w){ad:À Addr}{len cap i j:H}{lo hi:À G}
  (jA:VB 0 lo i)(jB:VB len hi j)(eh:i<=j)(hj:j<=cap) :
  (æ t (.slice ad len cap) lo hi M).run P w = .ok (.slice (if cap=i then ad else ad.map (·.add (i*s))) (j-i) (cap-i)) w:=by
 have he:=UB hd;have h9:P.underlying t=D (.slice (P.elem t)):=by rw[he];exact hd
 rw[run_sliceAt_slice w t _ _ _ _ h9];have eE:(sizeOf (P.elem t)).run P w = .ok s w:=by rw[he];exact hs
 rcases jA with⟨rfl,rfl⟩|⟨kl,rfl⟩
 .rcases jB with⟨rfl,rfl⟩|⟨kh,rfl⟩;all_goals grind[run_slice_all,Result.andThen,sliced,run_slice_h]
 .rcases jB with⟨rfl,rfl⟩|⟨kh,rfl⟩;all_goals grind[run_slice_l,Result.andThen,sliced,run_slice_lh]
section
variable{N:NT}{np:H}{S0:aY}{w0:Á}{refs:Refs}{σ:St}{a:ß}{w:Á}{S:aY}{γ:H->G}
theorem UC{el:Ty}{xs:F el.den}{ad:À Addr}{cap:H}(h:Rep S w (.list el) xs [.slice ad (Ï xs) cap]){i j:H}(eh:i<=j)(hj:j<=Ï xs) :
  Rep S w (.list el) ((xs.take j).drop i) [.slice (if cap=i then ad else ad.map (·.add (i*el.size))) (j-i) (cap-i)]:=by
 obtain⟨ś,ik,he,hle,iK,hn,hb⟩:=h;simp only[yh,Å,and_true,q7]at he;obtain⟨rfl,rfl⟩:=he;have hlen:((xs.take j).drop i).length=j-i:=az;refine⟨_,_,by rw[hlen],by rw[hlen];omega,aa,λh=>?_,λb aU=>?_⟩
 .have:ad=none:=by
   split at h
   .exact h
   .simpa using h
  have:=hn this;omega
 .by_cases hc:cap=i
  .rw[if_pos hc]at aU;have hz:(xs.take j).drop i=[]:=jy aa;rw[hz];exact⟨λh=>absurd rfl h,[],trivial,λj v hv=>by simp at hv⟩
  .rw[if_neg hc]at aU;cases ad with
   |none=>simp at aU
   |some b0=>
    simp only[kn,j5]at aU;subst aU;obtain⟨dE,css,ha,hl⟩:=hb b0 rfl;by_cases hx:(xs.take j).drop i=[]
    .rw[hx];exact⟨λh=>absurd rfl h,[],trivial,λj v hv=>by simp at hv⟩
    .have il:xs≠[]:=λh=>hx (by rw[h];simp);obtain⟨g,o,sp⟩:=b0;have dE:=dE il;simp at dE;subst dE;have yo:(⟨g,o,M⟩:Addr).add (i*el.size)=⟨g,o+i*el.size,M⟩:=Æ _ _ _;rw[yo];refine⟨λ_=>rfl,(css.take j).drop i,(ha.take j).drop i,λq v hq=>?_⟩;have dR:=All2.all_len ha;rw[Dw i (λc hc=>dR c (qq hc)),wq j dR,á,qp]at hq;split at hq
     .have:=hl _ v hq;grind
     .simp at hq
def ORep(R:Leaf->G->Prop):À Leaf->À G->Prop
 |none,M=>True
 |some l,D v=>R l v
 |_,_=>False
theorem ur{d:H}{o:À Leaf}{vo:À G}{i:Int}{bx:H->BS}(h:bnd d o=D i)(ho:ORep (bF S w γ bx) o vo)(hi:0<=i):VB d vo i.toNat:=by
 unfold bnd at h;split at h
 .cases vo with
  |none=>simp at h;exact .inl ⟨rfl,aa⟩
  |some v=>exact ho.elim
 .cases vo with
  |none=>exact ho.elim
  |some v=>simp at h;rename_i k n;have hv:v = .int k n:=pq (S:=S) (w:=w) ho;refine .inr ⟨k,?_⟩;grind
 .simp at h
theorem Ŝ{P:Z}{E:Env}(hT:cJ P E.T)(hR:Rel N np S0 w0 refs σ a w S γ){rd:H->BS}(aZ:RdOk σ rd){t:È}{ti:TyI}(ht:E.T t=D ti)
  {d:H}{x l:Leaf}{lo hi:À Leaf}{vx:G}{ru th:À G}{u:Ups}(bq:∀k,iz (rd k)=Ä->σ.bx k = .free)(h:AU (parK np) rd ti d x lo hi=D (Ä,l,u))
  (hx:bF S w γ σ.bx x vx)(jA:ORep (bF S w γ σ.bx) lo ru)(jB:ORep (bF S w γ σ.bx) hi th) :
  ∃v S' γ',(æ t vx ru th M).run P w = .ok v w/\Rel N np S0 w0 refs (σ.upd u) a w S' γ'/\bQ S' w γ' (σ.upd u).bx (.one l) v:=by
 unfold AU at h;split at h
 ·-- a datum
  rename_i el xs;split at h
  .rename_i bG;obtain⟨hd,_,te,dy,cR⟩:=nN hT ht bG;have cm:=mG hT dy cR;split at h
   .rename_i i j bY im;simp only[j5,j9,jd,jj]at h;obtain⟨⟨h0,h1,h2⟩,rfl,rfl⟩:=h;have ny:=hx;obtain⟨ad,cap,hv,hle,_⟩:=hx;simp at hv;subst hv;have hlen:((Ï xs:H):Int)=Int.ofNat (Ï xs):=rfl;refine⟨_,S,γ,yn hd (s:=el.size) ?_ (ur bY jA h0) (ur im jB aa) aa aa,hR,UC ny aa aa,λ_=>rfl⟩;grind[jJ]
   .simp at h
  .simp at h
 .rename_i k;split at h
  ·-- the tail
   split at h
   .rename_i e el xs f hk;split at h
    .rename_i bG;obtain⟨hd,_,te,dy,cR⟩:=nN hT ht bG;have cm:=mG hT dy cR;split at h
     .rename_i i bY;simp only[j5,j9,jd,jj]at h;obtain⟨⟨h0,h1⟩,rfl,rfl⟩:=h;have ca:=aZ.nm hk;have hk:=aZ.live hk;have hz:=hx.2.2 _ hk;obtain⟨css,aQ,_⟩:=iY ca (hR.box k _ hk);obtain⟨ad,cap,hg,cK⟩:∃ad cap,γ k = .slice ad xs.length cap/\xs.length<=cap:=by rcases aQ.2 with⟨hg,hn⟩|⟨g,cap,cur,hg,_,_,kJ,_⟩;all_goals grind
      have uu:VB xs.length th xs.length:=by
       cases th with
       |none=>exact .inl ⟨rfl,rfl⟩
       |some v=>exact jB.elim
      subst hz;have aR:=yn (ad:=ad) (w:=w) hd (s:=el.size) (by grind[jJ]) (ur bY jA h0) uu aa cK;rw[<-hg]at aR;refine⟨_,S,γ,aR,hR,⟨hx.1,rfl,λb hb=>?_⟩,λ_=>rfl⟩;rw[show (σ.upd []).bx k=σ.bx k from rfl,hk]at hb;grind
     .simp at h
    .simp at h
   .simp at h
  .rename_i hh;split at h
   .rename_i e el xs f hk;split at h
    .rename_i bG;obtain⟨hd,_,te,dy,cR⟩:=nN hT ht bG;have cm:=mG hT dy cR;split at h
     .rename_i i j bY im;have ca:=aZ.nm hk;have hk:=aZ.live hk;have hz:=hx.2.2 _ hk;split at h
      ·-- a wv: its head
       split at h
       .rename_i Bz;simp only[ç]at Bz;subst Bz;simp only[j5,j9,jd,jj]at h;obtain⟨⟨h0,h1⟩,rfl,rfl⟩:=h;obtain⟨css,aQ,_⟩:=iY ca (hR.box k _ hk)
        have wx:VB 0 ru 0:=by
         cases ru with
         |none=>exact .inl ⟨rfl,rfl⟩
         |some v=>exact jA.elim
        have uu:=ur im jB h0;obtain⟨ad,cap,hg,cK,ŝ⟩:∃ad cap,γ k = .slice ad xs.length cap/\xs.length<=cap/\(if cap=0 then ad else ad.map (·.add (0*el.size)))=ad:=by rcases aQ.2 with⟨hg,hn⟩|⟨g,cap,cur,hg,_,_,kJ,_⟩;all_goals grind[Æ]
        have aR:=yn (ad:=ad) (w:=w) hd (s:=el.size) (by grind[jJ]) wx uu aa (show j.toNat<=cap by omega);rw[<-hg,ŝ]at aR;subst hz;refine⟨_,S,γ,aR,hR,⟨hx.1,rfl,λb hb=>?_⟩,λ_=>rfl⟩;rw[show (σ.upd []).bx k=σ.bx k from rfl,hk]at hb;grind
       .simp at h
      rename_i qF;have qF:parK np k=false:=by simpa using qF
      split at h
      ·-- cut short
       rename_i fi;simp only[jd,ç,Bool.not_eq_eq_eq_not,jc]at fi;obtain⟨rfl,rfl⟩:=fi;split at h
       .rename_i fT;simp only[j5,j9,jd,jj]at h;obtain⟨⟨h0,h1⟩,rfl,rfl⟩:=h;have Ş:=bq d fT;have td:d≠k:=by grind
        obtain⟨css,aQ,ay,hS⟩:=iY ca (hR.box k _ hk);have dR:=All2.all_len ay
        have wx:VB 0 ru 0:=by
         cases ru with
         |none=>exact .inl ⟨rfl,rfl⟩
         |some v=>exact jA.elim
        have uu:=ur im jB h0;have bu:=Br hR hk;have qD:(σ.setB k .gone).bx d = .free:=by grind[cE]
        have tj:j.toNat<=xs.length:=aa;have DC:css.length=xs.length:=ay.length.symm
        have key:∃v',(æ t vx ru th M).run P w = .ok v' w/\w.ownsRow 0 e el.size v' (W j.toNat xs).length (W j.toNat css).flatten/\blk v'=blk vx:=by
         rw[hz];have aq:(W j.toNat xs).length=j.toNat:=az;rcases aQ.2 with⟨hg,hn⟩|⟨g,cap,cur,hg,_,hh,kJ,iK,c9,dS⟩
         .rw[hg];have UD:j.toNat=0:=aa;refine⟨_,yn hd (s:=el.size) (len:=0) (by grind[jJ]) wx (by rw[hn]at uu;exact uu) aa aa,?_,by simp;rfl⟩
          simp_all
         .rw[hg];refine⟨_,yn hd (s:=el.size) (by grind[jJ]) wx uu aa aa,?_,?_⟩
          .refine⟨?_,.inr ⟨g,cap,cur,?_,k7 _,hh,aa,iK,c9,?_⟩⟩
           .rw[wq _ dR,É,aQ.1,aq]
            simp_all
           .grind[Æ]
           .rw[aq,wq _ dR,<-dS,vz,Ü (ka _ tj)]
          .by_cases hc:cap=0
           .simp[hc];rfl
           .simp[hc,Æ];rfl
        obtain⟨v',aR,bZ,hblk⟩:=key
        have nV:∀g,blk v'=D g->Own w0 refs g/\(∀k' b,(σ.setB k .gone).bx k' = .live b->blk (γ k')≠D g)/\g<w.heap.size:=by
         intro g hg;rw[hblk,hz]at hg;refine⟨?_,λk' b' aU aC=>?_,kK (hR.box k _ hk) hg⟩
         .rcases hR.own k _ g hk hg with h|h;all_goals simp_all
         .have cg:k'≠k:=by grind[fD]
          rw[cE σ _ cg]at aU;exact hR.apart k' k _ _ g cg aU hk aC hg
        obtain⟨dv,gL⟩:=Bs bu qD (hm:=ca) (w':=w) (S':=S) (v':=v') (e:=e) (el:=el) (zs:=W j.toNat xs) (frz:=J) (css:=W j.toNat css) (.refl S w) (λg hg br=>rfl) (jq _) nV
         (λg o hs=> .inl hs) rfl rfl rfl bZ (ay.take _) (λg hg=>⟨λ_=>(hS g (by simp_all)).1 rfl,ae⟩) (λg hg=>hR.kw_live hk (by simp_all))
        exact⟨v',S,_,aR,dv,gL⟩
       .simp at h
      ·-- shared
       simp only[j5,j9,jd,jj]at h;obtain⟨⟨h0,h1,h2⟩,rfl,rfl⟩:=h;obtain⟨S',cT,aV,bO⟩:=LG hR ca hk qF;have mL:=bO;obtain⟨ad,cap,hv,hle,_⟩:=bO;simp at hv;rw[hv]at mL;refine⟨_,S',γ,by rw[hz,hv];exact yn hd (s:=el.size) (by grind[jJ]) (ur bY jA h0) (ur im jB aa) aa aa,cT,UC mL aa aa,λ_=>rfl⟩
     .simp at h
    .simp at h
   .simp at h
 ·-- of a head
  rename_i k m;split at h
  .rename_i e el xs f hk;split at h
   .rename_i bG;obtain⟨bG,ş⟩:=bG;obtain⟨hd,_,te,dy,cR⟩:=nN hT ht bG;have cm:=mG hT dy cR;split at h
    .rename_i i j bY im;simp only[j5,j9,jd,jj]at h;obtain⟨⟨h0,h1,h2⟩,rfl,rfl⟩:=h;have ca:=aZ.nm hk;have hk:=aZ.live hk;obtain⟨_,hm,ad,cap,hg,hz⟩:=hx.2.2 _ hk;obtain⟨css,aQ,_⟩:=G4 hg (hR.box k _ hk);have cK:xs.length<=cap:=by rcases aQ.2 with⟨aC,hn⟩|⟨g,ik,cur,aC,_,_,kJ,_⟩;all_goals simp_all
     have uu:VB m th xs.length:=by
      have:=ur im jB aa;rw[h2,j8]at this;rcases this with⟨h3,_⟩|h3
      .cases hi with
       |none=>simp at ş
       |some y=>subst h3;exact jB.elim
      .exact .inr h3
     have aR:=yn (ad:=ad) (w:=w) hd (s:=el.size) (by grind[jJ]) (ur bY jA h0) uu aa cK;subst hz;refine⟨_,S,γ,aR,hR,⟨hx.1,rfl,λb hb=>?_⟩,λ_=>rfl⟩;rw[show (σ.upd []).bx k=σ.bx k from rfl,hk]at hb;grind
    .simp at h
   .simp at h
  .simp at h
 .simp at h
theorem Š{P:Z}{E:Env}(hT:cJ P E.T)(hR:Rel N np S0 w0 refs σ a w S γ){rd:H->BS}(aZ:RdOk σ rd){t:È}{ti:TyI}(ht:E.T t=D ti)
  {x mx:Leaf}{lo hi:À Leaf}{vx vm:G}{ru th:À G}(h:AV rd ti x lo hi mx=D Ä)
  (hx:bF S w γ σ.bx x vx)(jA:ORep (bF S w γ σ.bx) lo ru)(jB:ORep (bF S w γ σ.bx) hi th)(nW:bF S w γ σ.bx mx vm) :
  ∃v,(æ t vx ru th (D vm)).run P w = .ok v w:=by
 unfold AV at h;split at h
 case h_2=>simp at h
 rename_i k k1 i k2 j k3 m;split at h
 case h_2=>simp at h
 rename_i e el xs f hk;split at h
 case isFalse=>simp at h
 rename_i bG;simp only[j5,jd,jj]at h;obtain⟨h0,h1,h2,h3⟩:=h;obtain⟨hd,_,te,dy,cR⟩:=nN hT ht bG;have cm:=mG hT dy cR;have ca:=aZ.nm hk;have hk:=aZ.live hk;have hz:=hx.2.2 _ hk;cases ru with
 |none=>exact jA.elim
 |some vl=>
 cases th with
 |none=>exact jB.elim
 |some vh=>
 have e1:vl = .int k1 i:=pq (S:=S) (w:=w) jA;have e2:vh = .int k2 j:=pq (S:=S) (w:=w) jB;have e3:vm = .int k3 m:=pq (S:=S) (w:=w) nW;subst e1 e2 e3;obtain⟨css,aQ,_⟩:=iY ca (hR.box k _ hk);have he:=UB hd;have h9:P.underlying t=D (.slice (P.elem t)):=by rw[he];exact hd
 rw[run_sliceAt_slice w t _ _ _ _ h9];have eE:(sizeOf (P.elem t)).run P w = .ok el.size w:=by grind[jJ]
 have key:∀ad n cap,(m:Int)<=(cap:H)->∃v,(Instr.slice t (.slice ad n cap) (D (.int k1 i)) (D (.int k2 j)) (D (.int k3 m))).run P w = .ok v w:=by intro ad n cap hc;rw[run_slice_lhm w t ad n cap h9 _ _ _ _ _ _ h0 h1 h2 hc,eE];exact⟨_,rfl⟩
 rcases aQ.2 with⟨hg,hn⟩|⟨g,cap,cur,hg,_,hh,kJ,_⟩
 .simp_all
 .rw[hz,hg];exact key _ _ _ (qs h3 aa)
theorem UE(hR:Rel N np S0 w0 refs σ a w S γ){x:Leaf}{k i e:H}{el:Ty}{xs:F el.den}{f:Ø}{vx:G}(h:GS x=D (k,i))(ca:isM e=J)(hk:σ.bx k = .live (.lst e el xs f))
  (hx:bF S w γ σ.bx x vx):i<=xs.length/\((xs.length=0/\vx = .slice M 0 0)\/
   ∃g cap,γ k = .slice (D ⟨g,0,M⟩) xs.length cap/\xs.length<=cap/\vx = .slice (D ⟨g,if cap=i then 0 else i*el.size,M⟩) (xs.length-i) (cap-i)):=by
 obtain⟨css,aQ,ay,hS⟩:=iY ca (hR.box k _ hk);unfold GS at h;split at h
 .simp only[j5,j9]at h;obtain⟨rfl,rfl⟩:=h;have hz:=hx.2.2 _ hk;refine⟨k7 _,?_⟩;rcases aQ.2 with⟨hg,hn⟩|⟨g,cap,cur,hg,_,hh,kJ,iK,c9,dS⟩;all_goals grind
 .rename_i k' i';simp only[j5,j9]at h;obtain⟨rfl,rfl⟩:=h;obtain⟨_,hi,ad,cap,aC,hv⟩:=hx.2.2 _ hk;refine⟨hi,?_⟩;rcases aQ.2 with⟨hg,hn⟩|⟨g,ik,cur,hg,_,hh,kJ,iK,c9,dS⟩;all_goals grind[Æ]
 .simp at h
theorem LV{P:Z}(hR:Rel N np S0 w0 refs σ a w S γ){k i e g cap:H}{el:Ty}{xs zs:F el.den}(hk:σ.bx k = .live (.lst e el xs J))(hg:γ k = .slice (D ⟨g,0,M⟩) xs.length cap)
  {cz:F (F G)}(hz:All2 (λx c=>Rep S w el x c) zs cz)(hl:i+zs.length<=xs.length) :
  ∃w',(storeCells ⟨g,i*el.size,M⟩ cz.flatten).run P w = .ok () w'/\Rel N np S0 w0 refs (σ.setB k (.live (.lst e el (W i xs++(zs++Ð (i+zs.length) xs)) J))) a w' S γ:=by
 have ca:=T1 hg (hR.box k _ hk);obtain⟨css,aQ,ay,hS⟩:=iY ca (hR.box k _ hk);have tn:cz.flatten.length=zs.length*el.size:=All2.flatten_length (λx c hx=>Rep.length el x c hx) hz;have h1:∀u∈cz.flatten,One u:=by intro u hu;obtain⟨c,hc,xO⟩:=List.mem_flatten.1 hu;obtain⟨x,_,hx⟩:=hz.mem_right c hc;grind[Rep.one]
 rcases aQ.2 with⟨aC,hn⟩|⟨g',ik,cur,aC,_,hh,kJ,iK,c9,dS⟩
 .simp_all
 rw[hg]at aC;simp only[Å,j5,Addr.mk.injEq,and_true,q7]at aC;obtain⟨rfl,rfl⟩:=aC;have ic:i*el.size+zs.length*el.size<=xs.length*el.size:=by rw[<-Ê];exact ka _ hl
 have ie:xs.length*el.size<=cap*el.size:=ka _ kJ;have aV:=run_storeCells_at P g (i*el.size) e cz.flatten 0 cur w hh (by rw[tn,c9];omega) h1;simp only[õ]at aV;refine⟨_,aV,?_⟩;have dR:=All2.all_len ay;have š:=All2.all_len hz;have xX:∀o,¬S g o:=(hS g (by rw[hg];rfl)).1 rfl;refine Bp hR hk (by rw[hg];rfl) xX (b':= .lst e el _ J) ⟨rfl,rfl,λ_=>az⟩ hh (λfg dp=>?_);have hlen:(W i xs++(zs++Ð (i+zs.length) xs)).length=xs.length:=az;refine Bf ca ⟨css.take i++(cz++css.drop (i+zs.length)),⟨?_,.inr ⟨g,cap,_,?_,k7 _,setRow_heap w g cur _ e (0,0) hh,by rw[hlen];exact kJ,iK,?_,?_⟩⟩,?_,λg' aC=>?_⟩
 .grind[xV,All2.length,Â]
 .rw[hlen];exact hg
 .grind
 .rw[hlen];simp only[yc,wq i dR,Dw _ dR,<-dS];have hA:(cur.toList.take (i*el.size)).length=i*el.size:=az;rw[jg,Ù,hA,Y aa,vz,Ü aa];congr 1;rw[Ù,tn,Y aa,Ê];congr 1;grind[List.drop_take]
 .exact((ay.mono (λx c hx=>Rep.keep dp _ _ _ hx)).take _).append ((hz.mono (λx c hx=>Rep.keep dp _ _ _ hx)).append ((ay.mono (λx c hx=>Rep.keep dp _ _ _ hx)).drop _))
 simp_all
theorem UF{σ:St}{k:H}{b:BS}(h:σ.bx k=b):σ.setB k b=σ:=by
 unfold St.setB;congr 1;grind
theorem Ţ{P:Z}{E:Env}(hT:cJ P E.T)(hR:Rel N np S0 w0 refs σ a w S γ){rd:H->BS}(aZ:RdOk σ rd){t ty:È}{ti:TyI}(ht:E.T t=D ti)
  {x y l:Leaf}{u:Ups}{vx vy:G}(h:AW rd ti.ty x y=D (l,u))(hx:bF S w γ σ.bx x vx)(hy:bF S w γ σ.bx y vy) :
  ∃v w',(è #[t,t] ty #[vx,vy]).run P w = .ok v w'/\Rel N np S0 w0 refs (σ.upd u) a w' S γ/\bQ S w' γ (σ.upd u).bx (.one l) v:=by
 unfold AW at h;split at h
 .rename_i k i DD;split at h
  .rename_i e el xs hk;split at h
   .rename_i bG;split at h
    .rename_i ys iq;simp only[j5,j9]at h;obtain⟨rfl,rfl⟩:=h;have ca:=aZ.nm hk;have hk:=aZ.live hk;obtain⟨hd,bK,te,dy,cR⟩:=nN hT ht bG;have cm:=mG hT dy cR;have fW:(sizeOf ti.elem).run P w = .ok el.size w:=by grind[jJ]
     obtain⟨ad,c,cy,Hd,dO,x8,ee⟩:=Ut hR aZ iq hy;subst Hd;obtain⟨hi,cP⟩:=UE hR DD ca hk hx;have LW:=All2.all_len x8;have nX:cy.length=ys.length:=x8.length.symm;have fE:(W (xs.length-i) ys).length=min ys.length (xs.length-i):=az;have BA:over xs i ys=W i xs++(W (xs.length-i) ys++Ð (i+(W (xs.length-i) ys).length) xs):=by unfold over;grind[Ç]
     have wy:(Õ el.size (min ys.length (xs.length-i)) (.slice ad ys.length c)).run P w = .ok (W (xs.length-i) cy).flatten.toArray w:=by
      cases ad with
      |none=>
       have h0:=(dO rfl).1
       simp_all[Õ]
      |some b=>
       have e1:(W (xs.length-i) cy).flatten.length=min ys.length (xs.length-i)*el.size:=by grind[xV,É]
       have:=run_loadCells_list (P:=P) w b (W (xs.length-i) cy).flatten (λj v hj=>by
        rw[wq _ LW,qp]at hj;split at hj;all_goals simp_all)
       grind[Õ]
     have aR:∀base dl dc w',vx = .slice base dl dc->dl=xs.length-i->(base=M->w'=w)->(∀ab,base=D ab->(storeCells ab (W (xs.length-i) cy).flatten).run P w = .ok () w')->
       (è #[t,t] ty #[vx,.slice ad ys.length c]).run P w = .ok (goInt ((min ys.length (xs.length-i):H):Int)) w':=by
      intro base dl dc w' hv uv dF eI;subst hv uv;have nY:Nat.min ys.length (xs.length-i)=min ys.length (xs.length-i):=rfl;cases base with
      |none=>simp[è,run_underlying hd,ò,fW,nY,wy,dF rfl]
      |some ab=>simp[è,run_underlying hd,ò,fW,nY,wy,eI ab rfl]
     by_cases hn:min ys.length (xs.length-i)=0
     .have hz:W (xs.length-i) ys=[]:=jy (by rw[fE];exact hn);have ia:(W (xs.length-i) cy).flatten=[]:=by grind
      have ţ:over xs i ys=xs:=by rw[BA,hz];simp
      refine⟨_,w,?_,?_,⟨rfl,λ_=>rfl⟩⟩
      .rcases cP with⟨h0,hv⟩|⟨g,cap,hg,cK,hv⟩
       .exact aR M 0 0 w hv aa (λ_=>rfl) (λab cF=>by simp at cF)
       .refine aR _ _ _ w hv rfl (λ_=>rfl) (λab cF=>?_);rw[ia];rfl
      .show Rel N np S0 w0 refs (σ.setB k (.live (.lst e el (over xs i ys) J))) a w S γ;grind[UF]
     .rcases cP with⟨h0,hv⟩|⟨g,cap,hg,cK,hv⟩
      .omega
      .have nT:cap≠i:=aa;rw[if_neg nT]at hv;obtain⟨w',aV,dv⟩:=LV (P:=P) hR hk hg (i:=i) (x8.take (xs.length-i)) (by rw[fE];omega);refine⟨_,w',aR _ _ _ w' hv rfl (λh=>by simp at h) (λab cF=>?_),?_,⟨rfl,λ_=>rfl⟩⟩
       .simp_all
       .show Rel N np S0 w0 refs (σ.setB k (.live (.lst e el (over xs i ys) J))) a w' S γ;rw[BA];exact dv
    .simp at h
   .simp at h
  .simp at h
 .simp at h
theorem Ť{P:Z}{E:Env}(hT:cJ P E.T)(hR:Rel N np S0 w0 refs σ a w S γ){rd:H->BS}(aZ:RdOk σ rd){t ty:È}{ti:TyI}(ht:E.T t=D ti)
  {x:Leaf}{u:Ups}{vx:G}(h:AX rd ti.ty x=D u)(hx:bF S w γ σ.bx x vx) :
  ∃v w',(î #[t] ty #[vx]).run P w = .ok v w'/\Rel N np S0 w0 refs (σ.upd u) a w' S γ:=by
 unfold AX at h;split at h
 .rename_i k i DD;split at h
  .rename_i e el xs hk;split at h
   .rename_i bG;simp only[j5]at h;subst h;have ca:=aZ.nm hk;have hk:=aZ.live hk;obtain⟨hd,bK,te,dy,cR⟩:=nN hT ht bG;have cm:=mG hT dy cR;obtain⟨z,hz,ia⟩:=xP hT dy w cR;obtain⟨hi,cP⟩:=UE hR DD ca hk hx;by_cases hn:xs.length-i=0
    .have BA:W i xs++O (xs.length-i) el.dflt=xs:=by grind[Y]
     refine⟨.tuple #[],w,?_,?_⟩
     .rcases cP with⟨h0,hv⟩|⟨g,cap,hg,cK,hv⟩;all_goals simp_all[î,run_underlying]
     .show Rel N np S0 w0 refs (σ.setB k (.live (.lst e el (W i xs++O (xs.length-i) el.dflt) J))) a w S γ;grind[UF]
    .rcases cP with⟨h0,hv⟩|⟨g,cap,hg,cK,hv⟩
     .omega
     .have nT:cap≠i:=aa;rw[if_neg nT]at hv
      have UG:All2 (λx c=>Rep S w el x c) (O (xs.length-i) el.dflt) (O (xs.length-i) (la el)):=by
       have h0:=qE (S:=S) (w:=w) el
       have:∀n,All2 (λx c=>Rep S w el x c) (O n el.dflt) (O n (la el)):=by
        intro n;induction n with
        |zero=>exact trivial
        |succ n ih=>exact⟨h0,ih⟩
       exact this _
      obtain⟨w',aV,dv⟩:=LV (P:=P) hR hk hg (i:=i) UG az;refine⟨.tuple #[],w',?_,?_⟩
      .have ť:0<z.cells.size:=by have:=Hg ia;omega
       have ei:(Builtin.zeroCells z.cells (xs.length-i)).toList=(O (xs.length-i) (la el)).flatten:=by rw[<-ia];exact Uw z.cells (xs.length-i) ť
       simp_all[î,run_underlying]
      .show Rel N np S0 w0 refs (σ.setB k (.live (.lst e el (W i xs++O (xs.length-i) el.dflt) J))) a w' S γ
       simp_all
   .simp at h
  .simp at h
 .simp at h
theorem Ŧ{P:Z}{E:Env}(hT:cJ P E.T)(hR:Rel N np S0 w0 refs σ a w S γ){rd:H->BS}(aZ:RdOk σ rd){t ty:È}{ti:TyI}(ht:E.T t=D ti){el:Ty}(bG:ti.ty=D (.list el))
  {s x v:Leaf}{u:Ups}{vs vx:G}(h:appH rd ti.elem el s x=D (Ä,v,u))(hs:bF S w γ σ.bx s vs)(hx:bF S w γ σ.bx x vx) :
  ∃z w',(Í #[t,t] ty #[vs,vx]).run P w = .ok z w'/\Rel N np S0 w0 refs (σ.upd u) a w' S γ/\bF S w' γ (σ.upd u).bx v z/\One z:=by
 unfold appH at h;split at h
 case h_2=>simp at h
 rename_i k i k' j;split at h
 case isFalse=>simp at h
 rename_i cg;subst cg;split at h
 case h_2=>simp at h
 rename_i e b xs hk;split at h
 case isFalse=>simp at h
 rename_i hb;obtain⟨hb,he⟩:=hb;subst hb;subst he;simp only[j5,j9,jj]at h;obtain⟨eh,rfl,rfl⟩:=h;obtain⟨hd,_,te,dy,cR⟩:=nN hT ht bG;have cm:=mG hT dy cR;obtain⟨inf,d,hi,_,mq,_⟩:=nu hT dy;have nZ:inf.size=b.size:=by rw[mq,<-cm]
 have ca:=aZ.nm hk;have hk:=aZ.live hk;obtain⟨_,fY,ad,cap,hg,mK⟩:=hs.2.2 _ hk;obtain⟨_,wz,ś,ik,aC,Bu⟩:=hx.2.2 _ hk;rw[hg]at aC;simp only[Å,q7]at aC;obtain⟨rfl,rfl⟩:=aC;obtain⟨css,aQ,ay,hS⟩:=G4 hg (hR.box k _ hk);have dR:=All2.all_len ay;have wA:(W i xs++(Ð j xs++Ð (i+(xs.length-j)) xs)).length=xs.length:=az;have lg:∀(w':Á),bF S w' γ (σ.setB k (.live (.lst ti.elem b (W i xs++(Ð j xs++Ð (i+(xs.length-j)) xs)) J))).bx (.hd k (i+(xs.length-j))) (.slice ad (i+(xs.length-j)) cap):=by intro w';refine⟨by rw[fD];simp,rfl,λb' aU=>?_⟩;grind[fD]
 rcases aQ.2 with⟨gw,hn⟩|⟨g,DE,cur,gw,_,hh,kJ,iK,c9,dS⟩
 .rw[hg]at gw;simp only[Å]at gw;obtain⟨rfl,_,rfl⟩:=gw;have um:xs=[]:=jy hn;subst um;have Hi:i=0:=by simpa using fY
  have UD:j=0:=by simpa using wz
  subst Hi UD;have aR:=run_append_owned_none (P:=P) w 0 t ty ti.elem inf b.size hd hi (.slice M 0 0) 0 [] (ä w 0 ti.elem b.size)
  have ŧ:σ.setB k (.live (.lst ti.elem b ([]:F b.den) J))=σ:=by
   show St.mk σ.sl _=σ;have:(λj=>if j=k then BS.live (.lst ti.elem b ([]:F b.den) J) else σ.bx j)=σ.bx:=by grind
   rw[this]
  refine⟨_,w,by simp_all,?_,lg w,rfl⟩;show Rel N np S0 w0 refs (σ.setB k (.live (.lst ti.elem b ([]:F b.den) J))) a w S γ;rw[ŧ];exact hR
 .rw[hg]at gw;simp only[Å,q7]at gw;obtain⟨rfl,rfl⟩:=gw;obtain⟨w',aV,dv⟩:=LV (P:=P) (i:=i) hR hk hg (ay.drop j) az;have tn:(css.drop j).flatten.length=(xs.length-j)*b.size:=by have:=All2.flatten_length (λx c hx=>Rep.length b x c hx) (ay.drop j);simpa using this
  have h1:∀u∈(css.drop j).flatten,One u:=by intro u hu;obtain⟨c,hc,xO⟩:=List.mem_flatten.1 hu;obtain⟨x,_,hx⟩:=(ay.drop j).mem_right c hc;grind[Rep.one]
  have ic:i*b.size+(xs.length-j)*b.size<=xs.length*b.size:=by grind[Ê]
  have ie:xs.length*b.size<=cap*b.size:=ka _ kJ;have dp:=run_storeCells_at P g (i*b.size) _ (css.drop j).flatten 0 cur w hh (by rw[tn,c9];omega) h1;simp only[õ]at dp
  have hw:w'=w.setRow g (cur.toList.take (i*b.size)++(css.drop j).flatten++cur.toList.drop (i*b.size+(css.drop j).flatten.length)).toArray:=by
   simp_all
  have ei:∀q u,(css.drop j).flatten[q]? = D u->w.cell? ((⟨g,if cap=j then 0 else j*b.size,M⟩:Addr).add q)=D u:=by
   intro q u hq;have hql:q<(xs.length-j)*b.size:=by grind
   have hc:¬cap=j:=by grind
   rw[if_neg hc,Æ];rw[Dw j dR,á]at hq;have:=aQ.cells (g:=g) (by rw[hg];rfl) _ u hq;grind[Æ]
  have aR:=run_append_room (P:=P) w t ty ti.elem inf hd hi g i cap cur (by exact hh) ⟨g,if cap=j then 0 else j*b.size,M⟩ (xs.length-j) (cap-j) (css.drop j).flatten (by rw[nZ];exact tn) ei h1 aa
   (by grind)
  have Ũ:vx = .slice (D ⟨g,if cap=j then 0 else j*b.size,M⟩) (xs.length-j) (cap-j):=by grind[Æ]
  refine⟨_,w',by simp_all,?_,lg w',rfl⟩;have:(Ð j xs).length=xs.length-j:=ae;rw[this]at dv;exact dv
theorem ũ(hR:Rel N np S0 w0 refs σ a w S γ){rdf:H->BS}(bz:RdF np σ rdf){e:H}{el:Ty}{s:Leaf}{m:H}{ls:F Leaf}{u:Ups}{vs:G}(h:rowS rdf e el s=D (m,ls,u))(hs:bF S w γ σ.bx s vs) :
  ∃cs,w.ownsRow 0 e el.size vs m cs/\All2 (bF S w γ σ.bx) ls cs/\(∀u∈cs,One u)/\Rel N np S0 w0 refs (σ.upd u) a w S γ/\BxLe γ σ.bx γ (σ.upd u).bx/\
   (∀k,σ.bx k = .free->(σ.upd u).bx k = .free)/\∀g,blk vs=D g->(∀o,¬S g o)/\Own w0 refs g/\refs.kw g=M/\g<w.heap.size/\∀k b,(σ.upd u).bx k = .live b->blk (γ k)≠D g:=by
 unfold rowS at h;split at h
 .simp only[j5,j9]at h;obtain⟨rfl,rfl,rfl⟩:=h;have hz:vs = .slice M 0 0:=hs;subst hz;exact⟨[],ä w 0 e el.size,trivial,ae,hR,.refl _ _,λk h=>h,λg hg=>by simp[blk]at hg⟩
 .rename_i k;split at h
  case h_2=>simp at h
  rename_i e' a' m' ls' hk;split at h
  case isFalse=>simp at h
  rename_i hc;obtain⟨rfl,rfl⟩:=hc;simp only[j5,j9]at h;obtain⟨rfl,rfl,rfl⟩:=h;have bn:=bz.ok.live hk;have hz:vs=γ k:=hs.2.2 _ bn;subst hz;obtain⟨_,⟨cs,aQ,ay,h1⟩,hS⟩:=hR.box k _ bn;refine⟨cs,aQ,ay,h1,Br hR bn,?_,?_,λg hg=>⟨hS g hg,?_,hR.kw_live bn hg,kK (hR.box k _ bn) hg,?_⟩⟩
  .intro k' fp;show (σ.setB k .gone).bx k'≠_/\_;by_cases cg:k'=k
   .subst cg;exact⟨by rw[fD];simp,rfl,λb hb=>by have hb:(σ.setB k' .gone).bx k' = .live b:=hb;grind[fD]⟩
   .exact⟨by grind[cE],rfl,λb hb=>by have hb:(σ.setB k .gone).bx k' = .live b:=hb;rw[cE _ _ cg]at hb;exact⟨b,hb,.refl b⟩⟩
  .intro k' h;show (σ.setB k .gone).bx k'=_;grind[cE]
  .rcases hR.own k _ g bn hg with h|h
   .exact h
   .rw[bz.par hk]at h;simp at h
  .intro k' b hb aC;have hb:(σ.setB k .gone).bx k' = .live b:=hb;by_cases cg:k'=k
   .grind[fD]
   .rw[cE _ _ cg]at hb;exact hR.apart k' k _ _ g cg hb bn aC hg
 .simp at h
theorem Ū{P:Z}{E:Env}(hT:cJ P E.T)(hR:Rel N np S0 w0 refs σ a w S γ){rd rdf:H->BS}(aZ:RdOk σ rd)(bz:RdF np σ rdf){t ty:È}{ti:TyI}(ht:E.T t=D ti){el:Ty}(bG:ti.ty=D (.list el)){n:H}
  {s x v:Leaf}{u:Ups}{vs vx:G}(h:appN rd rdf ti.elem el n s x=D (v,u))(hs:bF S w γ σ.bx s vs)(hx:bF S w γ σ.bx x vx) :
  ∃z w' γ',(Í #[t,t] ty #[vs,vx]).run P w = .ok z w'/\Rel N np S0 w0 refs (σ.upd u) a w' S γ'/\bF S w' γ' (σ.upd u).bx v z/\One z:=by
 unfold appN at h;split at h
 case h_2=>simp at h
 rename_i k;split at h
 case h_2=>simp at h
 rename_i e' a' m ls hk;split at h
 case h_2=>simp at h
 rename_i m0 GW u0 Bq;split at h
 case isFalse=>simp at h
 rename_i hc;obtain⟨⟨rfl,rfl⟩,gD,eX,fT⟩:=hc;simp only[j5,j9]at h;obtain⟨rfl,rfl⟩:=h;have hn:=aZ.free fT;have bn:=bz.ok.live hk;have hz:vx=γ k:=hx.2.2 _ bn;subst hz;obtain⟨ca,⟨cs,aQ,ay,h1⟩,Un⟩:=hR.box k _ bn;obtain⟨ū,DF,rv,tp,bu,gV,LX,mK⟩:=ũ hR bz Bq hs;have dj:(σ.upd u0).bx k = .live (.row ti.elem a' m ls):=(kL u0 σ gD).trans bn;have cI:=Br bu dj;have yp:((σ.upd u0).setB k .gone).bx n = .free:=by grind[cE]
 have fg:BxLe γ σ.bx γ ((σ.upd u0).setB k .gone).bx:=by intro k' fp;obtain⟨q1,q2,q3⟩:=gV k' fp;grind[fD,cE]
 obtain⟨ad,c,LY,dO,gU⟩:∃ad c,γ k = .slice ad m c/\(ad=M->m=0/\c=0)/\∀b,ad=D b->∀(j:H)(u:G),cs[j]? = D u->w.cell? (b.add j)=D u:=by
  rcases aQ.2 with⟨h2,h3⟩|⟨g,cap,cur,h2,_,hh,_,_,_,dS⟩
  .grind
  .exact⟨D ⟨g,0,M⟩,cap,h2,λh=>by simp at h,λb hb j u hu=>by
    simp at hb;subst hb;exact aQ.cells (g:=g) (by rw[h2];rfl) j u hu⟩
 obtain⟨v',w',hr,bZ,os,tape,output,cm,cP⟩:=Us (ty:=ty) hT ht bG DF (ad:=ad) (m:=m) (c:=c) (news:=cs) dO aQ.1 gU h1 (by simp only[aG];omega)
 have gu:∀g,g<w.heap.size->blk v'≠D g->w'.heap[g]? = w.heap[g]? := by
  grind
 have fv:∀g,blk v'=D g->g<w'.heap.size:=λg hg=>by
  rcases bZ.2 with⟨h2,_⟩|⟨g2,DE,LZ,h2,_,hh2,_⟩;all_goals grind[blk]
 have hv:∀g,blk v'=D g->(∀o,¬S g o)/\Own w0 refs g/\refs.kw g=M/\∀k' b,((σ.upd u0).setB k .gone).bx k' = .live b->blk (γ k')≠D g:=by
  intro g hg;have old:blk vs=D g->(∀o,¬S g o)/\Own w0 refs g/\refs.kw g=M/\∀k' b,((σ.upd u0).setB k .gone).bx k' = .live b->blk (γ k')≠D g:=by grind[cE]
  rcases cP with⟨rfl,_⟩|⟨h2,_,_⟩|⟨h2,_⟩
  .exact old hg
  .simp_all
  .rw[hg]at h2;simp at h2;subst h2;exact⟨λo=>Bo hR o,.inl hR.grow,hR.kw_new (jq _),λk' b hb aU=>by have:=kK (cI.box k' b hb) aU;omega⟩
 have aV:dH S w S w':=λg o h=>⟨h,Ò (gu g (hR.here g o h) (λhb=>(hv g hb).1 o h))⟩
 obtain⟨dv,_⟩:=Œ cI yp (b:= .row ti.elem a' (m0+m) (GW++ls)) aV gu cm (λg hg=>⟨(hv g hg).2.1,(hv g hg).2.2.2,fv g hg⟩) os tape output (λhle=>by
  have pt:BxLe γ σ.bx (gset γ n v') (((σ.upd u0).setB k .gone).setB n (.live (.row ti.elem a' (m0+m) (GW++ls)))).bx:=λk' fp=>by
   obtain⟨q1,q2,q3⟩:=fg k' fp;obtain⟨p1,p2,p3⟩:=hle k' q1
   exact⟨p1,p2.trans q2,λb' aU=>by
    obtain⟨b1,dF,lb⟩:=p3 b' aU;obtain⟨b2,eI,mq⟩:=q3 b1 dF;exact⟨b2,eI,mq.trans lb⟩⟩
  refine⟨ca,⟨ū++cs,by rw[eN];exact bZ,(rv.append ay).mono (λx u hx=>bF.keep aV pt hx),λu hu=>(jm.1 hu).elim (tp u) (h1 u)⟩,λg hg o=>?_⟩;grind[eN]) (λg hg=>(hv g hg).2.2.1)
 have cZ:One v':=by rcases bZ.2 with⟨h2,_⟩|⟨g2,DE,LZ,h2,_⟩<;>rw[h2]<;>rfl
 refine⟨v',w',gset γ n v',by rw[LY];exact hr,?_,?_,cZ⟩
 .rw[jK];exact dv
 .rw[jK];exact⟨by show (((σ.upd u0).setB k .gone).setB n _).bx n≠_;rw[fD];simp,cZ,λb _=>(eN γ n v').symm⟩
theorem Ŭ(hR:Rel N np S0 w0 refs σ a w S γ){k d e m:H}{el:Ty}{xs:F el.den}(hk:σ.bx k = .live (.lst e el xs J))(qF:parK np k=J)(Ş:σ.bx d = .free){ad:À Addr}{cap:H}(hm:m<=xs.length)
  (hg:γ k = .slice ad xs.length cap) :
  ∃γ',Rel N np S0 w0 refs (σ.upd [(k,.gone),(d,.live (.lst e el (W m xs) J))]) a w S γ'/\bQ S w γ' (σ.upd [(k,.gone),(d,.live (.lst e el (W m xs) J))]).bx (.one (.ol d)) (.slice ad m cap):=by
 have td:d≠k:=by grind
 have ca:=T1 hg (hR.box k _ hk);obtain⟨css,aQ,ay,hS⟩:=iY ca (hR.box k _ hk);have dR:=All2.all_len ay;have bu:=Br hR hk;have qD:(σ.setB k .gone).bx d = .free:=by grind[cE]
 have aq:(W m xs).length=m:=az;have hblk:blk (.slice ad m cap)=blk (γ k):=by rw[hg];cases ad<;>rfl
 have bZ:w.ownsRow 0 e el.size (.slice ad m cap) (W m xs).length (W m css).flatten:=by
  refine⟨?_,?_⟩
  .rw[wq _ dR,É,aQ.1,aq]
   simp_all
  .rcases aQ.2 with⟨aC,hn⟩|⟨g,ik,cur,aC,_,hh,kJ,iK,c9,dS⟩
   .simp_all
   .rw[hg]at aC;simp only[Å,q7]at aC;obtain⟨rfl,rfl⟩:=aC;refine .inr ⟨g,cap,cur,by rw[aq],k7 _,hh,aa,iK,c9,?_⟩;rw[aq,wq _ dR,<-dS,vz,Ü (ka _ hm)]
 have nV:∀g,blk (.slice ad m cap)=D g->Own w0 refs g/\(∀k' b,(σ.setB k .gone).bx k' = .live b->blk (γ k')≠D g)/\g<w.heap.size:=by
  intro g hg;rw[hblk]at hg;refine⟨?_,λk' b' aU aC=>?_,kK (hR.box k _ hk) hg⟩
  .rcases hR.own k _ g hk hg with h|h;all_goals simp_all
  .have cg:k'≠k:=by grind[fD]
   rw[cE σ _ cg]at aU;exact hR.apart k' k _ _ g cg aU hk aC hg
 obtain⟨dv,gL⟩:=Bs bu qD (hm:=ca) (w':=w) (S':=S) (v':= .slice ad m cap) (e:=e) (el:=el) (zs:=W m xs) (frz:=J) (css:=W m css) (.refl S w) (λg hg br=>rfl) (jq _) nV
  (λg o hs=> .inl hs) rfl rfl rfl bZ (ay.take _) (λg hg=>⟨λ_=>(hS g (by rw[<-hblk];exact hg)).1 rfl,ae⟩) (λg hg=>hR.kw_live hk (by rw[<-hblk];exact hg))
 exact⟨_,dv,gL⟩
end
section
variable{N:NT}{np:H}{S0:aY}{w0:Á}{refs:Refs}{σ:St}{a:ß}{w:Á}{S:aY}{γ:H->G}
theorem ŭ{el:Ty}{z:G}(hz:z.cells.toList=la el)(n:H)(bK:0<el.size) :
  ∃css,All2 (λx c=>Rep S w el x c) (O n el.dflt) css/\((Ñ (n*z.cells.size)).map (λi=>z.cells[i%z.cells.size]!)).toList=css.flatten:=by
 refine⟨O n (la el),?_,?_⟩
 .have hz:=qE (S:=S) (w:=w) el;induction n with
  |zero=>exact trivial
  |succ n ih=>exact⟨hz,ih⟩
 .rw[Uw z.cells n (by rw[Hg hz];exact bK),hz]
theorem Ů{P:Z}{E:Env}(hT:cJ P E.T)(hR:Rel N np S0 w0 refs σ a w S γ){rdf:H->BS}(bz:RdF np σ rdf){t:È}{ti:TyI}(ht:E.T t=D ti)
  {el:Ty}(bG:ti.ty=D (.list el)){len d:H}{ps:F (H×Cel)}{vs:Ë (H×G)}{xs:F el.den}{u:Ups}(hlen:len*el.size<=16777216)
  (ib:All2 (λp v=>p.1=v.1/\bQ S w γ σ.bx p.2 v.2) ps vs.toList)(h:lI rdf el (O len el.dflt) [] ps=D (xs,u))(hd:σ.bx d = .free) :
  ∃v' w' S' γ',(Ì t len vs).run P w = .ok v' w'/\Rel N np S0 w0 refs (σ.upd (u++[(d,.live (.lst ti.elem el xs J))])) a w' S' γ'/\
   bQ S' w' γ' (σ.upd (u++[(d,.live (.lst ti.elem el xs J))])).bx (.one (.ol d)) v':=by
 obtain⟨nP,bK,te,dy,cR⟩:=nN hT ht bG;have cm:=mG hT dy cR;obtain⟨hf,fh⟩:=LU bz hR.box bK ps vs.toList ib h .nil;obtain⟨S1,bu,cS,ff,dt⟩:=nR u σ S hR hf;obtain⟨z,hz,ia⟩:=xP hT dy w cR;have iZ:z.cells.size=el.size:=Hg ia;obtain⟨L0,rv,gT⟩:=ŭ (S:=S1) (w:=w) ia len bK;obtain⟨bL,lT,fX,ay,ei⟩:=fh S1 cS ff L0 _ rv gT
 have oJ:xs.length=len:=by
  have key:∀(ps:F (H×Cel)){xs du:F el.den}{u u':Ups},lI rdf el xs u ps=D (du,u')->du.length=xs.length:=by
   intro ps;induction ps with
   |nil=>intro xs du u u' h;simp[lI]at h;rw[h.1]
   |cons p ps ih=>
    intro xs du u u' h;obtain⟨i,c⟩:=p;simp only[lI]at h;split at h
    .split at h
     .rw[ih h];simp
     .simp at h
    .simp at h
  rw[key ps h];simp
 have c9:bL.size=len*el.size:=by have:=All2.flatten_length (λx c hx=>Rep.length el x c hx) ay;rw[<-ei,oJ]at this;simpa using this
 have hzero:(if len*ti.size=0 then (Pure.pure #[]:Sem (Ë G)) else (do pure (<-zeroValue ti.elem).cells))=(if len*ti.size=0 then Pure.pure #[] else (do pure (<-zeroValue ti.elem).cells)):=rfl
 have aR:(Ì t len vs).run P w = .ok (.slice (D ⟨w.heap.size,0,M⟩) len len) (w.alloc (.cells bL ti.elem)):=by
  have cY:¬len*te.size>2^24:=by rw[<-cm];omega
  simp only[Ì,U,run_underlying nP,I,jJ hT dy,ü,if_neg cY];by_cases h0:len*te.size=0
  .have gv:len=0:=by
    rw[<-cm]at h0;rcases Nat.mul_eq_zero.1 h0 with h|h
    .exact h
    .omega
   subst gv
   have ry:Ó (λi=>D (i*te.size,te.size)) ((Ñ (0*te.size)).map (λi=>(#[]:Ë G)[i%(#[]:Ë G).size]!)) vs.toList=D bL:=by
    rw[<-cm];have:((Ñ (0*el.size)).map (λi=>(#[]:Ë G)[i%(#[]:Ë G).size]!))=((Ñ (0*z.cells.size)).map (λi=>z.cells[i%z.cells.size]!)):=by apply vf;simp
    rw[this];exact fX
   rw[Nat.zero_mul]at ry;simp only[h0,if_true,Ã,I,ry,U,newRow,run_newObj,Ö]
  .have yq:Ó (λi=>D (i*te.size,te.size)) ((Ñ (len*te.size)).map (λi=>z.cells[i%z.cells.size]!)) vs.toList=D bL:=by rw[<-cm];rw[iZ]at fX ⊢;exact fX
   simp only[h0,qz,U,hz,Ã,I,yq,newRow,run_newObj,Ö]
 rw[jK];have aV:=xT bu (.cells bL ti.elem)
 obtain⟨dv,gL⟩:=Bs bu (dt.free hd) (hm:=Lv hT ht) (w':=w.alloc (.cells bL ti.elem)) (S':=S1) (v':= .slice (D ⟨w.heap.size,0,M⟩) len len) (e:=ti.elem) (el:=el) (zs:=xs) (frz:=J) (css:=lT)
  aV (λg hg _=>heap_alloc_old w _ hg) ae (λg hg=>by
   simp[blk]at hg;subst hg;exact⟨.inl hR.grow,λk b hk aC=>by have:=kK (bu.box k b hk) aC;omega,ae⟩) (λg o hs=> .inl hs) rfl rfl rfl
  (by
   rw[oJ,<-ei];have hle:len<=maxLen:=by have:len*1<=len*el.size:=Nat.mul_le_mul_left _ bK;simp only[maxLen];omega
   exact ù w bL len (k7 _) hle c9) (ay.mono (λx c hx=>Rep.keep aV _ _ _ hx)) (λg hg=>by
   simp[blk]at hg;subst hg;exact⟨λ_ o=>Bo bu o,ae⟩) (λg hg=>by simp[blk]at hg;subst hg;exact bu.kw_new (jq _))
 exact⟨_,_,S1,_,aR,dv,gL⟩
theorem ů{P:Z}{E:Env}(hT:cJ P E.T)(hR:Rel N np S0 w0 refs σ a w S γ){t:È}{ti:TyI}(ht:E.T t=D ti)
  {el:Ty}(bG:ti.ty=D (.list el)){n len:H}{fr:Ø}{ps:F (H×Cel)}{vs:Ë (H×G)}{b:Ø}{s:Slot}{u:Ups}(hn:fr=Ä->σ.bx n = .free)
  (ib:All2 (λp v=>p.1=v.1/\bQ S w γ σ.bx p.2 v.2) ps vs.toList)(h:one1 fr ti.elem el n len ps=D (.val b s u)) :
  b=Ä/\s = .one (.one (.ol n))/\∃v' w' γ',(Ì t len vs).run P w = .ok v' w'/\Rel N np S0 w0 refs (σ.upd u) a w' S γ'/\bQ S w' γ' (σ.upd u).bx (.one (.ol n)) v':=by
 unfold one1 at h;split at h
 case h_2=>simp at h
 rename_i c;split at h
 case h_2=>simp at h
 rename_i ls DG;split at h
 case isFalse=>simp at h
 rename_i hc;obtain⟨rfl,Bz,eX,fT,ca⟩:=hc;simp only[j5,Act.val.injEq]at h;obtain⟨rfl,rfl,rfl⟩:=h;refine⟨rfl,rfl,?_⟩
 obtain⟨⟨j,z⟩,mK⟩:∃p,vs.toList=[p]:=by
  match hv:vs.toList,ib with
  |[p],_=>exact⟨p,rfl⟩
 rw[mK]at ib;obtain⟨⟨hj,iL⟩,_⟩:=ib;simp only at hj iL;subst hj;obtain⟨ha,h1⟩:=xU DG iL;have fE:z.cells.toList.length=el.size:=by rw[<-ha.length,Bz]
 have iZ:z.cells.size=el.size:=by simpa using fE
 obtain⟨nP,bK,te,dy,cR⟩:=nN hT ht bG;have cm:=mG hT dy cR;obtain⟨z0,oK,ia⟩:=xP hT dy w cR;have Ű:z0.cells.size=el.size:=Hg ia;have fX:Ó (λi=>D (i*te.size,te.size)) ((Ñ (1*te.size)).map (λi=>z0.cells[i%z0.cells.size]!)) vs.toList=D z.cells:=by have Bv:=LQ ((Ñ (1*te.size)).map (λi=>z0.cells[i%z0.cells.size]!)) 0 z.cells az;rw[mK];simp only[Ó];rw[if_neg az];congr 1;apply vf;rw[Nat.zero_mul,Bv];simp only[List.take_zero,jw];rw[Ç az,kx]
 have aR:(Ì t 1 vs).run P w = .ok (.slice (D ⟨w.heap.size,0,M⟩) 1 1) (w.alloc (.cells z.cells ti.elem)):=by
  have cY:¬1*te.size>2^24:=by rw[<-cm];omega
  have h0:¬1*te.size=0:=aa;simp only[Ì,U,run_underlying nP,I,jJ hT dy,ü,if_neg cY];simp only[h0,qz,U,oK,Ã,I,fX,newRow,run_newObj,Ö]
 obtain⟨dv,_⟩:=Ha hR (hn fT) (o:= .cells z.cells ti.elem) (b:= .row ti.elem el 1 ls) (v:= .slice (D ⟨w.heap.size,0,M⟩) 1 1) (λg hg=>by simp[blk]at hg;exact hg.symm) (λhle=>
  ⟨ca,⟨z.cells.toList,by rw[eN];exact ù w z.cells 1 (k7 _) (by simp[maxLen]) (by rw[iZ,û]),ha.mono (λx u hx=>bF.keep (xT hR _) hle hx),h1⟩,
   λg hg o=>by rw[eN]at hg;simp[blk]at hg;subst hg;exact Bo hR o⟩)
 refine⟨_,_,_,aR,dv,⟨by show (σ.setB n _).bx n≠_;rw[fD];simp,rfl,λb' aU=>(eN _ _ _).symm⟩,λ_=>rfl⟩
theorem yt{rd:H->BS}(aZ:RdF np σ rd):∀{ls:F Leaf}{xs:F TV}{u:Ups}{zs:F G},tvs rd ls=D (xs,u)->All2 (bF S w γ σ.bx) ls zs->
  FrzL np σ.bx u/\∀S' w',dH S w S' w'->Froz σ.bx γ S' w' u->All2 (λx z=>Rep S' w' x.t x.v [z]) xs zs
 |[],xs,u,zs,h,ha=>by
  simp[tvs]at h;obtain⟨rfl,rfl⟩:=h;cases zs with
  |nil=>exact⟨.nil,λ_ _ _ _=>trivial⟩
  |cons _ _=>exact ha.elim
 |l::ls,xs,u,zs,h,ha=>by
  cases zs with
  |nil=>exact ha.elim
  |cons z zs=>
   simp only[tvs]at h;split at h
   .rename_i Hj u1 h1;obtain⟨f1,p1⟩:=yt aZ h1 ha.2;split at h
    .rename_i t v;simp only[j5,j9]at h;obtain⟨rfl,rfl⟩:=h;exact⟨f1,λS' w' hk hf=>⟨Rep.keep hk _ _ _ ha.1,p1 S' w' hk hf⟩⟩
    .rename_i k;split at h
     .rename_i e t es f hk;simp only[j5,j9]at h;obtain⟨rfl,rfl⟩:=h;have bn:=aZ.ok.live hk;refine⟨λx hx=>?_,λS' w' aV hf=>⟨?_,p1 S' w' aV (λx hx=>hf x (qi _ hx))⟩⟩
      .rcases je.1 hx with rfl|hx
       .exact⟨aZ.par hk,e,t,es,f,bn,rfl,aZ.ok.nm hk⟩
       .exact f1 x hx
      .have:=hf (k,_) (z7 ..) e t es f bn;rw[ha.1.2.2 _ bn];exact this
     .simp at h
    .simp at h
   .simp at h
theorem UH(hR:Rel N np S0 w0 refs σ a w S γ){k:H}{ls:F Leaf}{f:Ø}(hk:σ.bx k = .live (.cell ls f))(hp:parK np k=J){xs:F TV}
  (hx:∀g cur e,γ k = .pointer (D ⟨g,0,M⟩)->w.heap[g]? = D (.cells cur e (0,0))->All2 (bF S w γ σ.bx) ls (cur.toList.take ls.length)->All2 (λx z=>Rep S w x.t x.v [z]) xs (cur.toList.take ls.length)) :
  ∃S' g,Rel N np S0 w0 refs (σ.setB k (.live (.cell (xs.map TV.leaf) Ä))) a w S' γ/\dH S w S' w/\γ k = .pointer (D ⟨g,0,M⟩)/\iX S' w (.p xs) (.pointer (D ⟨g,0,M⟩)):=by
 obtain⟨g,cur,e,hg,hh,eV,h1,Uq,hS2⟩:=hR.box k _ hk;have il:=hx g cur e hg hh eV;let S':aY:=λg' o=>S g' o\/(g'=g/\o<cur.size)
 have aV:dH S w S' w:=λg o h=>⟨.inl h,rfl⟩
 have hle:BxLe γ σ.bx γ (σ.setB k (.live (.cell (xs.map TV.leaf) Ä))).bx:=by
  intro k' bn;by_cases cg:k'=k
  .subst cg;rw[fD];exact⟨ae,rfl,λb hb=>by simp at hb;subst hb;exact⟨_,hk,trivial⟩⟩
  .rw[cE σ _ cg];exact⟨bn,rfl,λb hb=>⟨b,hb,.refl b⟩⟩
 have bS:∀k' b,(σ.setB k (.live (.cell (xs.map TV.leaf) Ä))).bx k' = .live b->∃b',σ.bx k' = .live b':=by
  intro k' b hb;by_cases cg:k'=k
  .subst cg;exact⟨_,hk⟩
  .rw[cE σ _ cg]at hb;exact⟨b,hb⟩
 refine⟨S',g,Rel.step (bx':=(σ.setB k (.live (.cell (xs.map TV.leaf) Ä))).bx) hR aV hle ?_ ?_ ?_ ?_ ?_ hR.below hR.grow hR.os hR.tape hR.output (λg _ _ h=>⟨rfl,λk' b' aU=>by obtain⟨b2,eI⟩:=bS k' b' aU;exact h k' b2 eI⟩),aV,hg,?_⟩
 .intro k' b hb;by_cases cg:k'=k
  .subst cg;rw[fD]at hb;simp at hb;subst hb;have hl:=G3 eV il;exact⟨g,cur,e,hg,hh,by rw[kc,hl];exact ri (il.mono (λx z hz=>Rep.keep aV _ _ _ hz)),by rw[kc,hl];exact h1,ae,λ_ o ho=> .inr ⟨rfl,ho⟩⟩
  .rw[cE σ _ cg]at hb;refine eZ.keep aV hle rfl (λg' aC=>⟨rfl,λo=>⟨λhs=>?_,.inl⟩⟩) (hR.box k' b hb);rcases hs with hs|hs
   .exact hs
   .exact absurd (by rw[hg,hs.1];rfl) (hR.apart k' k b _ g' cg hb hk aC)
 .intro k' b g' hb aC;obtain⟨b',aU⟩:=bS k' b hb;exact hR.own k' b' g' aU aC
 .intro k1 k2 b1 b2 g' br h1 h2 aC;obtain⟨ud,nw⟩:=bS k1 b1 h1;obtain⟨ue,lP⟩:=bS k2 b2 h2;exact hR.apart k1 k2 ud ue g' br nw lP aC
 .intro g' o hs;rcases hs with hs|hs
  .exact hR.new g' o hs
  .rcases hR.own k _ g hk (by rw[hg];rfl) with h|h
   .refine .inr ?_;have:g'=g:=aa;rw[this];exact h
   .rw[hp]at h;simp at h
 .intro g' o hs;rcases hs with hs|hs
  .exact hR.here g' o hs
  .rw[hs.1];exact(jh.1 hh).1
 .refine⟨g,0,cur.toList.take ls.length,rfl,il.mono (λx z hz=>Rep.keep aV _ _ _ hz),λj v hv=>?_⟩
  have hv:cur.toList[j]? = D v:=by
   rw[qp]at hv;split at hv
   .exact hv
   .simp at hv
  have hj:j<cur.size:=by simpa using (List.getElem?_eq_some_iff.1 hv).1
  rw[kb];refine⟨.inr ⟨rfl,hj⟩,?_⟩;rw[cell_of_row w g j cur e (0,0) hh];simpa using hv
theorem UI{rd:H->BS}(aZ:RdF np σ rd):∀{cs:F Cel}{l:F Cap}{u:Ups}{zs:F G},vQ rd cs=D (l,u)->Rel N np S0 w0 refs σ a w S γ->All2 (bQ S w γ σ.bx) cs zs->
  ∃S',Rel N np S0 w0 refs (σ.upd u) a w S' γ/\dH S w S' w/\All2 (iX S' w) l zs/\(∀k e t xs f,σ.bx k = .live (.lst e t xs f)->∃f',(σ.upd u).bx k = .live (.lst e t xs f'))/\BxLe γ σ.bx γ (σ.upd u).bx/\∀k,σ.bx k = .free->(σ.upd u).bx k = .free
 |[],l,u,zs,h,hR,ha=>by
  simp[vQ]at h;obtain⟨rfl,rfl⟩:=h;cases zs with
  |nil=>exact⟨S,hR,.refl S w,trivial,λk e t xs f h=>⟨f,h⟩,.refl _ _,λ_ h=>h⟩
  |cons _ _=>exact ha.elim
 |c::r,l,u,zs,h,hR,ha=>by
  cases zs with
  |nil=>exact ha.elim
  |cons z zs=>
   simp only[vQ]at h;split at h
   .rename_i l1 u1 h1;obtain⟨S1,bu,cS,eU,lQ,gV,DH⟩:=UI aZ h1 hR ha.2;split at h
    .rename_i t v;split at h
     .rename_i fi;simp only[j5,j9]at h;obtain⟨rfl,rfl⟩:=h;exact⟨S1,bu,cS,⟨⟨fi,Rep.keep cS _ _ _ ha.1.1⟩,eU⟩,lQ,gV,DH⟩
     .simp at h
    .rename_i k;split at h
     .rename_i ls f hk;split at h
      .rename_i xs u2 h2;split at h
       .simp at h
       .rename_i gD;simp only[j5,j9]at h;obtain⟨rfl,rfl⟩:=h;have qF:=aZ.par hk;have hk:=aZ.ok.live hk;have gD:(u1++u2).any (λy=>y.1==k)=false:=ky.2 gD;rw[ë,vv]at gD;obtain⟨g,cur,e,hg,hh,eV,_⟩:=hR.box k _ hk;obtain⟨rm,xR⟩:=yt aZ h2 eV;have L1:FrzL np (σ.upd u1).bx u2:=by intro x hx;obtain⟨wB,e',t',du,f',aU,ny⟩:=rm x hx;obtain⟨f2,h2⟩:=lQ _ e' t' du f' aU;exact⟨wB,e',t',du,f2,h2,ny⟩
        obtain⟨S2,cI,dp,rz,n4⟩:=nR u2 (σ.upd u1) S1 bu L1;have DI:Froz σ.bx γ S2 w u2:=by intro x hx e' t' du f' aU;obtain⟨f2,h2⟩:=lQ _ e' t' du f' aU;exact rz x hx e' t' du f2 h2
        have fp:((σ.upd u1).upd u2).bx k = .live (.cell ls f):=by rw[kL u2 _ gD.2,kL u1 _ gD.1,hk]
        obtain⟨S3,g3,dU,DJ,DK,cK⟩:=UH cI fp qF (xs:=xs) (λg' jL e' aC wh _=>by
         rw[hg]at aC;simp at aC;subst aC;rw[hh]at wh;simp at wh;obtain⟨rfl,_⟩:=wh;exact xR S2 w (cS.trans dp) DI)
        have hz:z=γ k:=by obtain⟨g4,h4,h5⟩:=ha.1.1.2.2 _ hk;rw[h5,h4]
        rw[jK,jK];refine⟨S3,dU,(cS.trans dp).trans DJ,⟨by rw[hz,DK];exact cK,eU.mono (λx z hx=>iX.keep (dp.trans DJ) hx)⟩,λk' e' t' du f' aU=>?_,?_,λk' bn=>?_⟩
        .obtain⟨f2,h2⟩:=lQ _ e' t' du f' aU;obtain⟨f3,h3⟩:=n4.lst h2;have cg:k'≠k:=by rintro rfl;rw[fp]at h3;simp at h3
         exact⟨f3,by show (((σ.upd u1).upd u2).setB k _).bx k'=_;rw[cE _ _ cg];exact h3⟩
        .have fg:BxLe γ (σ.upd u1).bx γ ((σ.upd u1).upd u2).bx:=n4.le
         have pt:BxLe γ ((σ.upd u1).upd u2).bx γ ((((σ.upd u1).upd u2)).setB k (.live (.cell (xs.map TV.leaf) Ä))).bx:=by
          intro k' bn;by_cases cg:k'=k
          .subst cg;rw[fD];exact⟨ae,rfl,λb hb=>by simp at hb;subst hb;exact⟨_,fp,trivial⟩⟩
          .rw[cE _ _ cg];exact⟨bn,rfl,λb hb=>⟨b,hb,.refl b⟩⟩
         have tr:∀{b1 b2 b3:H->BS},BxLe γ b1 γ b2->BxLe γ b2 γ b3->BxLe γ b1 γ b3:=by intro b1 b2 b3 nA ű k' bn;obtain⟨q1,q2,q3⟩:=nA k' bn;obtain⟨r1,r2,r3⟩:=ű k' q1;refine⟨r1,rfl,λb hb=>?_⟩;obtain⟨b',aU,eE⟩:=r3 b hb;obtain⟨DL,rA,rB⟩:=q3 b' aU;refine⟨DL,rA,?_⟩;exact rB.trans eE
         exact tr (tr gV fg) pt
        .have h3:=n4.free (DH k' bn);have cg:k'≠k:=by rintro rfl;rw[hk]at bn;simp at bn
         show (((σ.upd u1).upd u2).setB k _).bx k'=_;rw[cE _ _ cg];exact h3
      .simp at h
     .simp at h
    .simp at h
   .simp at h
theorem UJ:∀{cs:F Cel}{ks:F H}{zs:F G},C1 cs=D ks->All2 (bQ S w γ σ.bx) cs zs->All2 (Di γ σ.bx) ks zs
 |[],ks,zs,h,ha=>by
  simp[C1]at h;subst h;cases zs with
  |nil=>trivial
  |cons _ _=>exact ha.elim
 |c::r,ks,zs,h,ha=>by
  cases zs with
  |nil=>exact ha.elim
  |cons z zs=>
   unfold C1 at h;split at h
   .rename_i h0;simp at h0
   .rename_i k r' h0;simp only[yh]at h0;obtain⟨rfl,rfl⟩:=h0;split at h
    .rename_i Lp hk;simp only[j5]at h;subst h;obtain⟨⟨h1,h2,h3⟩,_⟩:=ha.1;exact⟨⟨h1,h2,h3⟩,UJ hk ha.2⟩
    .simp at h
   .simp at h
theorem UK:∀{ks:F H}{zs:F G},All2 (Di γ σ.bx) ks zs->All2 (bQ S w γ σ.bx) (ks.map λk=> .one (.bp k 0)) zs
 |[],[],_=>trivial
 |k::ks,z::zs,h=>⟨⟨h.1,λ_=>h.1.2.1⟩,UK h.2⟩
 |[],_::_,h=>h.elim
 |_::_,[],h=>h.elim
end
section
variable(S:aY)(w:Á)
def DM(ls:F TV)(u:G):Prop:=
 ∃g cur e,u = .pointer (D ⟨g,0,M⟩)/\w.heap[g]? = D (.cells cur e (0,0))/\All2 (λx z=>Rep S w x.t x.v [z]) ls (cur.toList.take ls.length)/\∀o,¬S g o
def wC(e:H)(x:TV)(u:G):Prop:=
 ∃(a:Ty)(xs:F a.den),x=⟨.list a,xs⟩/\rb S w e a xs u/\∀g,blk u=D g->∀o,¬S g o
def oa:Arg->G->Prop
 |.v x,u=>VRep S w x u
 |.ref ls,u=>DM S w ls u
 |.rl e x,u=>wC S w e x u
 |.ip ls,u=>∃g o cs,u = .pointer (D ⟨g,o,M⟩)/\All2 (λx z=>Rep S w x.t x.v [z]) ls cs/\Lies S w g o cs
 |.clo f caps,u=>∃cv:Ë G,u = .func (.func f) #[] cv/\All2 (iX S w) caps cv.toList
 |.mv e x,u=>wC S w e x u/\isM e=J
def lh:Arg->G->À H
 |.ref _,u=>blk u
 |.rl _ _,u=>blk u
 |.mv _ _,u=>blk u
 |_,_=>M
def eF:F Arg->F G->F H
 |a::as,u::us=>(lh a u).toList++eF as us
 |_,_=>[]
def mvOf:F Arg->F G->F H
 |.mv _ _::as,u::us=>(blk u).toList++mvOf as us
 |_::as,_::us=>mvOf as us
 |_,_=>[]
def Hk:RL->G->Prop
 |.d x,z=>One z/\Rep S w x.t x.v [z]
 |.own e x,z=>wC S w e x z
def qG:RV->G->Prop
 |.v x,u=>VRep S w x u
 |.own e x,u=>wC S w e x u
 |.box ls,u=>DM S w ls u
 |.hd _,u=>One u
 |.clo f caps,u=>∃cv:Ë G,u = .func (.func f) #[] cv/\All2 (iX S w) caps cv.toList
 |.so ls,u=>∃cs:Ë G,u = .agg cs/\All2 (Hk S w) ls cs.toList
 |.raw _ _,_=>True
 |.vn x ns,u=>VRep S w x u/\∀cs,u = .agg cs->∀i∈ns,∀z,cs.toList[i]? = D z->z = .slice M 0 0
def nB:RV->G->À H
 |.v _,_=>M
 |.hd _,_=>M
 |.vn _ _,_=>M
 |.clo _ _,_=>M
 |.so _,_=>M
 |.raw _ _,_=>M
 |_,u=>blk u
def oL:F RL->F G->F H
 |.own _ _::ls,z::zs=>(blk z).toList++oL ls zs
 |.d _::ls,_::zs=>oL ls zs
 |_,_=>[]
def lU:RV->G->F H
 |.so ls,u=>oL ls u.cells.toList
 |r,u=>(nB r u).toList
def gq:F RV->F G->F H
 |r::rs,u::us=>lU r u++gq rs us
 |_,_=>[]
def lV:F Arg->F G->F Out->Prop
 |[],[],[]=>True
 |.ref _::as,u::us,.ref ys::os=>DM S w ys u/\lV as us os
 |.rl e x::as,u::us,.rl y::os=>wC S w e y u/\y.t=x.t/\lV as us os
 |.v _::as,_::us,os=>lV as us os
 |.ip _::as,_::us,os=>lV as us os
 |.clo _ _::as,_::us,os=>lV as us os
 |.mv _ _::as,_::us,os=>lV as us os
 |_,_,_=>False
end
def mM(vs:F G):Value:=match vs with
 |[v]=>v
 |vs=> .tuple vs.toArray
def Hl:F Arg->F G->À G
 |.ref _::_,u::_=>D u
 |.rl _ _::_,u::_=>D u
 |_::as,_::us=>Hl as us
 |_,_=>M
def emp:St:=⟨λ_=> .one (.one .dead),λ_=> .free⟩
def L2(h0:H)(S:aY)(w:Á)(ns:F H)(s:Snap)(v:G):Prop:=
 ∃γ zs,v=mM zs/\All2 (bQ S w γ (emp.upd (rawU ns s)).bx) (rawC ns s) zs/\(∀k b,(emp.upd (rawU ns s)).bx k = .live b->eZ S w γ (emp.upd (rawU ns s)).bx k b)/\
  (∀k b g,(emp.upd (rawU ns s)).bx k = .live b->blk (γ k)=D g->h0<=g)/\
  ∀k k' b b' g,k≠k'->(emp.upd (rawU ns s)).bx k = .live b->(emp.upd (rawU ns s)).bx k' = .live b'->blk (γ k)=D g->blk (γ k')≠D g
structure Hm(w:Á)(S:aY)(args:F Arg)(vals:F G)(ret:Ret)(v:G)(w':Á)(S':aY)(vs:F G):Prop where
 val:v=mM vs
 rep:All2 (qG S' w') ret.vals vs
 fresh:∀g∈gq ret.vals vs,w.heap.size<=g\/g∈mvOf args vals
 apart:(gq ret.vals vs).Nodup
 outs:lV S' w' args vals ret.outs
 stays:dH S w S' w'
 new:∀g o,S' g o->S g o\/w.heap.size<=g\/g∈mvOf args vals
 here:∀g o,S' g o->g<w'.heap.size
 below:∀g,g<w.heap.size->g∉eF args vals->w'.heap[g]? = w.heap[g]?
 grow:w.heap.size<=w'.heap.size
 os:w'.os=w.os
 tape:w'.tape=w.tape
 output:w'.output=w.output
 raw:∀ns s,ret.vals=[.raw ns s]->L2 w.heap.size S' w' ns s v
 head:∀m,ret.vals=[.hd m]->∃ad len cap,Hl args vals=D (.slice ad len cap)/\m<=len/\vs=[.slice ad m cap]
def Hn(P:Z)(f:H)(args:F Arg)(K:Ret->Prop):Prop:=
 ∀(w:Á)(S:aY)(vals:F G),All2 (oa S w) args vals->(eF args vals).Nodup->(∀g o,S g o->g<w.heap.size)->
  Calls P f vals.toArray w λe w'=>∃ret,K ret/\∃v S' vs,e = .returned v/\Hm w S args vals ret v w' S' vs
def Fun(P:Z)(f:H):Prop:=
 ∃ fn, P.funcs[f]? = D fn ∧ fn.body.isNone = J ∧ (fn.name == "runtime.NumGoroutine") = J
def FnOK(P:Z)(f:H)(c:F Arg->(R:Type)->(Ret->À R)->À R):Prop:=
 ∀(args:F Arg)(R:Type)(k:Ret->À R)(r:R),c args R k=D r->Fun P f/\Hn P f args λret=>k ret=D r
def kD(P:Z)(C:H->F Arg->(R:Type)->(Ret->À R)->À R):Prop:=∀f,FnOK P f (C f)
section
variable{N:NT}{np:H}{S0:aY}{w0:Á}{refs:Refs}{σ:St}{a:ß}{w:Á}{S:aY}{γ:H->G}
theorem uw{S':aY}{w':Á}:∀(t:Ty)(v:t.den)(cs:F G),t.flat=Ä->Rep S w t v cs->Rep S' w' t v cs
 |.int _,_,_,_,h=>h
 |.bool,_,_,_,h=>h
 |.str,_,_,_,h=>h
 |.unit,_,_,_,h=>h
 |.wrap a,v,cs,hf,h=>uw a v cs hf h
 |.pair a b,_,_,hf,⟨c1,c2,e,h1,h2⟩=>by
  simp only[Ty.flat,jd]at hf;exact⟨c1,c2,e,uw a _ _ hf.1 h1,uw b _ _ hf.2 h2⟩
 |.list _,_,_,hf,_=>by simp[Ty.flat]at hf
 |.arr _ a,_,_,hf,⟨hn,css,ha,e⟩=>⟨hn,css,ha.mono (λx c hx=>uw a x c hf hx),e⟩
def gM(bx:H->BS)(γ:H->G):F Arg->F G->F Bk->Prop
 |[],[],[]=>True
 |.ref ls::as,u::us,.ref k::fs=>u=γ k/\(∃ls',bx k = .live (.cell ls' J))/\gM bx γ as us fs
 |.rl e x::as,u::us,.rl k e' t::fs=>e=e'/\u=γ k/\(∃xs,bx k = .live (.lst e t xs J)/\x=⟨.list t,xs⟩)/\gM bx γ as us fs
 |.v _::as,_::us,fs=>gM bx γ as us fs
 |.ip _::as,_::us,fs=>gM bx γ as us fs
 |.clo _ _::as,_::us,fs=>gM bx γ as us fs
 |.mv e x::as,u::us,.mv k e' t::fs=>e=e'/\u=γ k/\(∃xs,bx k = .live (.lst e t xs J)/\x=⟨.list t,xs⟩)/\gM bx γ as us fs
 |_,_,_=>False
theorem Ų{rd rdf:H->BS}(hR:Rel N np S0 w0 refs σ a w S γ)(aZ:RdR σ rd)(bz:RdF np σ rdf){t:À TyI}{mv rl:Ø}{c:Cel}{arg:Arg}{u:Ups}{f:À Bk}{z:G}
  (h:vR rd rdf t mv rl c=D (arg,u,f))(hc:bQ S w γ σ.bx c z) :
  FrzL np σ.bx u/\gM σ.bx γ [arg] [z] f.toList/\∀S',dH S w S' w->Froz σ.bx γ S' w u->(∀k b,f.toList.any (λy=>y.name==k)=Ä->σ.bx k = .live b->∀g,blk (γ k)=D g->∀o,¬S' g o)->oa S' w arg z:=by
 unfold vR at h;split at h
 .rename_i k;split at h
  .rename_i ls hk;split at h
   .rename_i xs u1 h1;simp only[j5,j9]at h;obtain⟨rfl,rfl,rfl⟩:=h;have hk:=aZ.live hk;obtain⟨g,hg,hz⟩:=hc.1.2.2 _ hk;obtain⟨g',cur,e,aC,hh,eV,_,_,hS⟩:=hR.box k _ hk;rw[hg]at aC;simp at aC;subst aC;obtain⟨hf,hp⟩:=yt bz h1 eV;refine⟨hf,trivial,λS' aV ff _=>⟨g,0,cur.toList.take ls.length,hz,hp S' w aV ff,λj v hv=>?_⟩⟩
    have hv:cur.toList[j]? = D v:=by
     rw[qp]at hv;split at hv
     .exact hv
     .simp at hv
    have hj:j<cur.size:=by simpa using (List.getElem?_eq_some_iff.1 hv).1
    rw[kb];refine⟨(aV _ _ (hS rfl j hj)).1,?_⟩;rw[cell_of_row w g j cur e (0,0) hh];simpa using hv
   .simp at h
  .rename_i ls hk;split at h
   .rename_i xs u1 h1;simp only[j5,j9]at h;obtain⟨rfl,rfl,rfl⟩:=h;have hk:=aZ.live hk;obtain⟨g,hg,hz⟩:=hc.1.2.2 _ hk;obtain⟨g',cur,e,aC,hh,eV,_⟩:=hR.box k _ hk;rw[hg]at aC;simp at aC;subst aC;obtain⟨hf,hp⟩:=yt bz h1 eV;refine⟨hf,⟨hz.trans hg.symm,⟨ls,hk⟩,trivial⟩,λS' aV ff hn=>⟨g,cur,e,hz,hh,by rw[G3 eV (hp S' w aV ff)];exact hp S' w aV ff,?_⟩⟩;exact hn k _ (by simp[Bk.name]) hk g (by rw[hg];rfl)
   .simp at h
  .simp at h
 .simp only[j5,j9]at h;obtain⟨rfl,rfl,rfl⟩:=h;refine⟨.nil,trivial,λS' aV _ _=>?_⟩;obtain⟨g,o,cs,hz,ha,hl⟩:=hc.1;exact⟨g,o,cs,hz,ha.mono (λx z hx=>Rep.keep aV _ _ _ hx),hl.keep aV⟩
 .simp only[j5,j9]at h;obtain⟨rfl,rfl,rfl⟩:=h;refine⟨.nil,trivial,λS' aV _ _=>?_⟩;obtain⟨cv,hz,ha⟩:=hc.1;exact⟨cv,hz,ha.mono (λx z hx=>iX.keep aV hx)⟩
 .rename_i k;split at h
  .cases mv with
   |true=>
    rw[j6]at h;split at h
    .rename_i e t xs hk;simp only[j5,j9]at h;obtain⟨rfl,rfl,rfl⟩:=h;have ca:=bz.ok.nm hk;have hk:=bz.ok.live hk;have hz:=hc.1.2.2 _ hk;refine⟨.nil,⟨rfl,hz,⟨xs,hk,rfl⟩,trivial⟩,λS' aV _ hn=>?_⟩;have fq:=(hR.box k _ hk).1;exact⟨⟨t,xs,rfl,by rw[hz];exact fq.keep aV (λ_ _=>rfl),λg hg=>hn k _ (by simp[Bk.name]) hk g (by rw[<-hz];exact hg)⟩,ca⟩
    .simp at h
   |false=>
   rw[j7]at h;split at h
   .rename_i e t xs hk;simp only[j5,j9]at h;obtain⟨rfl,rfl,rfl⟩:=h;have hk:=aZ.live hk;have hz:=hc.1.2.2 _ hk;refine⟨.nil,⟨rfl,hz,⟨xs,hk,rfl⟩,trivial⟩,λS' aV _ hn=>?_⟩;have fq:=(hR.box k _ hk).1;exact⟨t,xs,rfl,by rw[hz];exact fq.keep aV (λ_ _=>rfl),λg hg=>hn k _ (by simp[Bk.name]) hk g (by rw[<-hz];exact hg)⟩
   .simp at h
  .split at h
   .rename_i e t xs fz hk;simp only[j5,j9]at h;obtain⟨rfl,rfl,rfl⟩:=h;have qF:=bz.par hk;have ca:=bz.ok.nm hk;have hk:=bz.ok.live hk;have hz:=hc.1.2.2 _ hk;refine⟨λx hx=>?_,trivial,λS' aV ff _=>?_⟩
    .have:=ki.1 hx;subst this;exact⟨qF,e,t,xs,fz,hk,rfl,ca⟩
    .have h1:One z:=hc.2 ae;have:=ff (k,_) (ki.2 rfl) e t xs fz hk;rw[<-hz]at this;exact⟨by rw[Bm h1];exact this,by simp[kI,Ty.agg],λ_=>h1⟩
   .simp at h
 .split at h
  .split at h
   .rename_i ty bG;split at h
    .rename_i x u1 hx;simp only[j5,j9]at h;obtain⟨rfl,rfl,rfl⟩:=h;obtain⟨hf,hp,_⟩:=Bn bz hR.box hx hc;exact⟨hf,trivial,λS' aV ff _=>hp S' w aV ff⟩
    .simp at h
   .simp at h
  .simp at h
theorem gM.app{bx:H->BS}{arg:Arg}{z:G}{f:F Bk}:gM bx γ [arg] [z] f->∀{as:F Arg}{us:F G}{fs:F Bk},gM bx γ as us fs->gM bx γ (arg::as) (z::us) (f++fs):=by
 intro h as us fs h';cases arg with
 |v x=>cases f with|nil=>exact h'|cons _ _=>exact h.elim
 |ip x=>cases f with|nil=>exact h'|cons _ _=>exact h.elim
 |clo x y=>cases f with|nil=>exact h'|cons _ _=>exact h.elim
 |ref ls=>
  match f,h with
  |[.ref k],⟨h1,h2,_⟩=>exact⟨h1,h2,h'⟩
  |.ref k::_::_,⟨_,_,h3⟩=>exact h3.elim
 |rl e x=>
  match f,h with
  |[.rl k e' t],⟨h0,h1,h2,_⟩=>exact⟨h0,h1,h2,h'⟩
  |.rl k e' t::_::_,⟨_,_,_,h3⟩=>exact h3.elim
 |mv e x=>
  match f,h with
  |[.mv k e' t],⟨h0,h1,h2,_⟩=>exact⟨h0,h1,h2,h'⟩
  |.mv k e' t::_::_,⟨_,_,_,h3⟩=>exact h3.elim
theorem UL{rd rdf:H->BS}(hR:Rel N np S0 w0 refs σ a w S γ)(aZ:RdR σ rd)(bz:RdF np σ rdf){T:H->À TyI}{mv:Ø}:∀{cs:F Cel}{ts:F H}{ms:F Ø}{as:F Arg}{u:Ups}{fs:F Bk}{zs:F G},
  pj rd rdf T mv ts ms cs=D (as,u,fs)->All2 (bQ S w γ σ.bx) cs zs->
  FrzL np σ.bx u/\gM σ.bx γ as zs fs/\∀S',dH S w S' w->Froz σ.bx γ S' w u->(∀k b,fs.any (λy=>y.name==k)=Ä->σ.bx k = .live b->∀g,blk (γ k)=D g->∀o,¬S' g o)->All2 (oa S' w) as zs
 |[],ts,ms,as,u,fs,zs,h,ha=>by
  simp[pj]at h;obtain⟨rfl,rfl,rfl⟩:=h;cases zs with
  |nil=>exact⟨.nil,trivial,λ_ _ _ _=>trivial⟩
  |cons _ _=>exact ha.elim
 |c::cs,ts,ms,as,u,fs,zs,h,ha=>by
  cases zs with
  |nil=>exact ha.elim
  |cons z zs=>
   simp only[pj]at h;split at h
   .rename_i a1 u1 f1 h1;split at h
    .rename_i G2 L3 UM h2;simp only[j5,j9]at h;obtain⟨rfl,rfl,rfl⟩:=h;obtain⟨p1,q1,r1⟩:=Ų hR aZ bz h1 ha.1;obtain⟨p2,q2,r2⟩:=UL hR aZ bz h2 ha.2;refine⟨FrzL.app.2 ⟨p1,p2⟩,q1.app q2,λS' aV ff hn=>?_⟩;obtain⟨z1,z2⟩:=Froz.app.1 ff;exact⟨r1 S' aV z1 (λk b hk=>hn k b (by rw[ë,hk];rfl)),r2 S' aV z2 (λk b hk=>hn k b (by rw[ë,hk];simp))⟩
    .simp at h
   .simp at h
theorem UN:∀{cs:F Cap}{zs:F G},All2 (iX S w) cs zs->All2 (oa S w) (cs.map pk) zs
 |[],[],_=>trivial
 |c::cs,z::zs,h=>by
  refine⟨?_,UN h.2⟩;cases c with
  |v x=>obtain⟨hl,hr⟩:=h.1;have h1:One z:=Rep.one _ _ _ hr z ae;refine⟨by rw[Bm h1];exact hr,λhm=>?_,λ_=>h1⟩;exfalso;obtain⟨t,v⟩:=x;cases t<;>simp_all[Ty.leafy,kI,Ty.agg]
  |p ls=>exact h.1
 |[],_::_,h=>h.elim
 |_::_,[],h=>h.elim
theorem UO:∀(cs:F Cap)(zs:F G),eF (cs.map pk) zs=[]
 |[],_=>by cases ‹F G› <;> rfl
 |c::cs,[]=>rfl
 |c::cs,z::zs=>by cases c<;>simp[eF,lh,pk,UO cs zs]
theorem UP:∀(as:F Arg)(us:F G)(bs:F Arg)(vs:F G),as.length=us.length->eF (as++bs) (us++vs)=eF as us++eF bs vs
 |[],[],bs,vs,_=>rfl
 |a::as,u::us,bs,vs,h=>by simp[eF,UP as us bs vs (by simpa using h)]
 |[],_::_,_,_,h=>by simp at h
 |_::_,[],_,_,h=>by simp at h
theorem wD{bx:H->BS}:∀{as:F Arg}{us:F G}{fs:F Bk},gM bx γ as us fs->eF as us=fs.filterMap λf=>blk (γ f.name)
 |[],[],[],_=>rfl
 |.ref ls::as,u::us,.ref k::fs,⟨h1,_,h3⟩=>by
  simp only[eF,lh,yd,Bk.name,h1,wD h3];cases blk (γ k)<;>rfl
 |.rl e x::as,u::us,.rl k e' t::fs,⟨_,h1,_,h3⟩=>by
  simp only[eF,lh,yd,Bk.name,h1,wD h3];cases blk (γ k)<;>rfl
 |.mv e x::as,u::us,.mv k e' t::fs,⟨_,h1,_,h3⟩=>by
  simp only[eF,lh,yd,Bk.name,h1,wD h3];cases blk (γ k)<;>rfl
 |.v _::as,_::us,fs,h=>by simp[eF,lh,wD (as:=as) (us:=us) (fs:=fs) h]
 |.ip _::as,_::us,fs,h=>by simp[eF,lh,wD (as:=as) (us:=us) (fs:=fs) h]
 |.clo _ _::as,_::us,fs,h=>by simp[eF,lh,wD (as:=as) (us:=us) (fs:=fs) h]
theorem UQ:∀{as:F Arg}{us:F G}{g:H},g∈mvOf as us->g∈eF as us
 |[],_,g,h=>by simp[mvOf]at h
 |_::_,[],g,h=>by rename_i a _;cases a<;>simp[mvOf]at h
 |a::as,u::us,g,h=>by
  have ih:=UQ (as:=as) (us:=us) (g:=g);cases a with
  |mv e x=>simp only[mvOf,eF,lh,jm]at h ⊢;exact h.imp id ih
  |_=>simp only[mvOf]at h;simp only[eF,jm];exact .inr (ih h)
theorem wE{bx:H->BS}:∀{as:F Arg}{us:F G}{fs:F Bk}{g:H},gM bx γ as us fs->g∈mvOf as us->∃f∈fs,f.isMv=Ä/\blk (γ f.name)=D g
 |[],[],[],g,_,h=>by simp[mvOf]at h
 |.ref ls::as,u::us,.ref k::fs,g,⟨_,_,h3⟩,h=>by
  obtain⟨f,hf,h1⟩:=wE (g:=g) h3 (by simpa only[mvOf]using h);exact⟨f,by simp[hf],h1⟩
 |.rl e x::as,u::us,.rl k e' t::fs,g,⟨_,_,_,h3⟩,h=>by
  obtain⟨f,hf,h1⟩:=wE (g:=g) h3 (by simpa only[mvOf]using h);exact⟨f,by simp[hf],h1⟩
 |.mv e x::as,u::us,.mv k e' t::fs,g,⟨_,h1,_,h3⟩,h=>by
  simp only[mvOf,jm,Option.mem_toList]at h;rcases h with h|h
  .exact⟨.mv k e' t,ae,rfl,by rw[<-h];show blk (γ k)=blk u;rw[h1]⟩
  .obtain⟨f,hf,h1⟩:=wE (g:=g) h3 h;exact⟨f,by simp[hf],h1⟩
 |.v _::as,_::us,fs,g,hb,h=>wE (as:=as) (us:=us) (fs:=fs) hb (by simpa only[mvOf]using h)
 |.ip _::as,_::us,fs,g,hb,h=>wE (as:=as) (us:=us) (fs:=fs) hb (by simpa only[mvOf]using h)
 |.clo _ _::as,_::us,fs,g,hb,h=>wE (as:=as) (us:=us) (fs:=fs) hb (by simpa only[mvOf]using h)
theorem ų{rd rdf:H->BS}(bz:RdF np σ rdf){t:À TyI}{mv rl:Ø}{c:Cel}{arg:Arg}{u:Ups}{f:À Bk}(h:vR rd rdf t mv rl c=D (arg,u,f)):∀x∈f.toList,x.isMv=Ä->parK np x.name=false:=by
 intro x hx hm;unfold vR at h;split at h
 .split at h
  .split at h
   .simp only[j5,j9]at h;obtain⟨_,_,rfl⟩:=h;simp at hx
   .simp at h
  .split at h
   .simp only[j5,j9]at h;obtain⟨_,_,rfl⟩:=h;simp at hx;subst hx;simp[Bk.isMv]at hm
   .simp at h
  .simp at h
 .simp only[j5,j9]at h;obtain⟨_,_,rfl⟩:=h;simp at hx
 .simp only[j5,j9]at h;obtain⟨_,_,rfl⟩:=h;simp at hx
 .split at h
  .cases mv with
   |true=>
    rw[j6]at h;split at h
    .rename_i hk;simp only[j5,j9]at h;obtain⟨_,_,rfl⟩:=h;simp at hx;subst hx;exact bz.par hk
    .simp at h
   |false=>
    rw[j7]at h;split at h
    .simp only[j5,j9]at h;obtain⟨_,_,rfl⟩:=h;simp at hx;subst hx;simp[Bk.isMv]at hm
    .simp at h
  .split at h
   .simp only[j5,j9]at h;obtain⟨_,_,rfl⟩:=h;simp at hx
   .simp at h
 .split at h
  .split at h
   .split at h
    .simp only[j5,j9]at h;obtain⟨_,_,rfl⟩:=h;simp at hx
    .simp at h
   .simp at h
  .simp at h
theorem UR{rd rdf:H->BS}(bz:RdF np σ rdf){T:H->À TyI}{mv:Ø}:∀{cs:F Cel}{ts:F H}{ms:F Ø}{as:F Arg}{u:Ups}{fs:F Bk},
  pj rd rdf T mv ts ms cs=D (as,u,fs)->∀x∈fs,x.isMv=Ä->parK np x.name=J
 |[],ts,ms,as,u,fs,h,x,hx,hm=>by
  simp[pj]at h;obtain⟨rfl,rfl,rfl⟩:=h;simp at hx
 |c::cs,ts,ms,as,u,fs,h,x,hx,hm=>by
  simp only[pj]at h;split at h
  .rename_i a1 u1 f1 h1;split at h
   .rename_i G2 L3 UM h2;simp only[j5,j9]at h;obtain⟨rfl,rfl,rfl⟩:=h;rcases jm.1 hx with hx|hx
    .exact ų bz h1 x hx hm
    .exact UR bz h2 x hx hm
   .simp at h
  .simp at h
theorem tq{bx:H->BS}:∀{as:F Arg}{us:F G}{fs:F Bk},gM bx γ as us fs->∀f∈fs,∃b,bx f.name = .live b
 |[],[],[],_,f,hf=>by simp at hf
 |.ref ls::as,u::us,.ref k::fs,⟨_,⟨ls',h2⟩,h3⟩,f,hf=>by
  rcases je.1 hf with rfl|hf
  .exact⟨_,h2⟩
  .exact tq h3 f hf
 |.rl e x::as,u::us,.rl k e' t::fs,⟨_,_,⟨xs,h2,_⟩,h3⟩,f,hf=>by
  rcases je.1 hf with rfl|hf
  .exact⟨_,h2⟩
  .exact tq h3 f hf
 |.mv e x::as,u::us,.mv k e' t::fs,⟨_,_,⟨xs,h2,_⟩,h3⟩,f,hf=>by
  rcases je.1 hf with rfl|hf
  .exact⟨_,h2⟩
  .exact tq h3 f hf
 |.v _::as,_::us,fs,h,f,hf=>tq (as:=as) (us:=us) (fs:=fs) h f hf
 |.ip _::as,_::us,fs,h,f,hf=>tq (as:=as) (us:=us) (fs:=fs) h f hf
 |.clo _ _::as,_::us,fs,h,f,hf=>tq (as:=as) (us:=us) (fs:=fs) h f hf
theorem yu:∀{l:F H},oG l=Ä->l.Nodup
 |[],_=>y8
 |x::l,h=>by
  simp only[oG,jd,q9,qj,kg]at h;exact qo.2 ⟨h.1,yu h.2⟩
theorem L4(hR:Rel N np S0 w0 refs σ a w S γ):∀{l:F H},l.Nodup->(∀k∈l,∃b,σ.bx k = .live b)->(l.filterMap λk=>blk (γ k)).Nodup
 |[],_,_=>ae
 |k::l,h,hl=>by
  obtain⟨h1,h2⟩:=qo.1 h;have ih:=L4 hR h2 (λk hk=>hl k (by simp[hk]));rw[yd];cases hb:blk (γ k) with
  |none=>exact ih
  |some g=>refine qo.2 ⟨λhm=>?_,ih⟩;obtain⟨k',bn,aC⟩:=vj.1 hm;obtain⟨b,dF⟩:=hl k ae;obtain⟨b',eI⟩:=hl k' (by simp[bn]);exact hR.apart k k' b b' g (by rintro rfl;exact h1 bn) dF eI hb aC
end
section
variable{N:NT}{np:H}{S0:aY}{w0:Á}{refs:Refs}{σ:St}{a:ß}{w:Á}{S:aY}{γ:H->G}
theorem wF:∀(u:Ups)(σ:St){k:H}{b:BS},(u.map (·.1)).Nodup->(k,b)∈u->(σ.upd u).bx k=b
 |[],_,_,_,_,h=>by simp at h
 |e::u,σ,k,b,hn,h=>by
  simp only[kj,qo]at hn;show ((σ.setB e.1 e.2).upd u).bx k=_;rcases je.1 h with h|h
  .subst h;rw[kL u,fD];simp only[qv,vg];intro x hx he;exact hn.1 (jx.2 ⟨x,hx,he⟩)
  .exact wF u _ hn.2 h
theorem Ŵ{e:H}{m n n':H}{v:G}{w':Á}{xs ys:F G}(h:w.ownsRow 0 e m v n xs)(h':w'.ownsRow 0 e m v n' ys):n=n':=by
 rcases h.2 with⟨e1,e2⟩|⟨g,cap,cur,e1,_⟩<;>rcases h'.2 with⟨f1,f2⟩|⟨g',ik,jL,f1,_⟩
 .rw[e2,f2]
 .rw[e1]at f1;simp at f1
 .rw[e1]at f1;simp at f1
 .rw[e1]at f1;simp at f1;exact f1.2.1
theorem L5{bx:H->BS}{S':aY}{w':Á}{ys:F TV}{k:H}{v:G}(hg:γ k=v)(h:DM S' w' ys v):eZ S' w' γ bx k (.cell (ys.map TV.leaf) J):=by
 obtain⟨g,cur,e,hu,hh,ay,hS⟩:=h;exact⟨g,cur,e,hg.trans hu,hh,by rw[kc];exact ri ay,λu eb=>by rw[kc]at eb;obtain⟨x,_,hx⟩:=ay.mem_right u eb;exact Rep.one _ _ _ hx u ae,λ_=>hS,ae⟩
theorem BB{bx:H->BS}{S':aY}{w':Á}{e:H}{t:Ty}{ys:F t.den}{k:H}{v:G}(hg:γ k=v)(h:wC S' w' e ⟨.list t,ys⟩ v):eZ S' w' γ bx k (.lst e t ys J):=by
 obtain⟨t',xs,hx,bZ,hS⟩:=h;cases hx;exact⟨by rw[hg];exact bZ,λg aC=>⟨λ_=>hS g (by rw[<-hg];exact aC),ae⟩⟩
theorem uy{S':aY}{w':Á}(hR:Rel N np S0 w0 refs σ a w S γ):∀{as:F Arg}{zs:F G}{fs:F Bk}{os:F Out}{uo:Ups},gM σ.bx γ as zs fs->mE fs os=D uo->lV S' w' as zs os->
  uo.map (·.1)=fs.map Bk.name/\∀x∈uo,∃b,σ.bx x.1 = .live b/\(x.2 = .gone\/∃b',x.2 = .live b'/\kZ b b'/\∀bx',eZ S' w' γ bx' x.1 b')
 |[],[],[],[],uo,_,h,_=>by simp[mE]at h;subst h;simp
 |.ref ls::as,u::us,.ref k::fs,.ref ys::os,uo,⟨h1,⟨ls',h2⟩,h3⟩,h,⟨q1,q2⟩=>by
  simp only[mE,GU]at h;split at h
  .rename_i u' eb;simp only[j5]at h;subst h;obtain⟨i1,i2⟩:=uy hR h3 eb q2;refine⟨by simp[i1,Bk.name],λx hx=>?_⟩;rcases je.1 hx with rfl|hx
   .exact⟨_,h2,.inr ⟨_,rfl,trivial,λbx'=>L5 h1.symm q1⟩⟩
   .exact i2 x hx
  .simp at h
 |.rl e x::as,u::us,.rl k e' t::fs,.rl y::os,uo,⟨h0,h1,⟨xs,h2,lP⟩,h3⟩,h,⟨q1,q1',q2⟩=>by
  simp only[mE,GU]at h;split at h
  .rename_i y' Bl;split at Bl
   .rename_i ys iq;simp only[j5]at Bl;subst Bl;split at h
    .rename_i u' eb;simp only[j5]at h;subst h;obtain⟨i1,i2⟩:=uy hR h3 eb q2;refine⟨by simp[i1,Bk.name],λx hx=>?_⟩;rcases je.1 hx with rfl|hx
     .have:=nv iq;subst this;subst h0;refine⟨_,h2,.inr ⟨_,rfl,⟨rfl,rfl,λhm=>?_⟩,λbx'=>BB h1.symm q1⟩⟩;obtain⟨css,aQ,_⟩:=iY hm (hR.box k _ h2);obtain⟨lT,bZ,_⟩:=iY (bx:=σ.bx) hm (BB h1.symm q1);exact Ŵ aQ bZ
     .exact i2 x hx
    .simp at h
   .simp at Bl
  .simp at h
 |.mv e x::as,u::us,.mv k e' t::fs,os,uo,⟨h0,h1,⟨xs,h2,lP⟩,h3⟩,h,q=>by
  simp only[mE]at h;split at h
  .rename_i u' eb;simp only[j5]at h;subst h;obtain⟨i1,i2⟩:=uy hR h3 eb (by simpa only[lV]using q);refine⟨by simp[i1,Bk.name],λx hx=>?_⟩;rcases je.1 hx with rfl|hx
   .exact⟨_,h2,.inl rfl⟩
   .exact i2 x hx
  .simp at h
 |.v _::as,_::us,fs,os,uo,h,h',q=>uy (as:=as) (zs:=us) (fs:=fs) hR h h' q
 |.ip _::as,_::us,fs,os,uo,h,h',q=>uy (as:=as) (zs:=us) (fs:=fs) hR h h' q
 |.clo _ _::as,_::us,fs,os,uo,h,h',q=>uy (as:=as) (zs:=us) (fs:=fs) hR h h' q
theorem L6(hR:Rel N np S0 w0 refs σ a w S γ){US:F H}{S':aY}{w':Á}(aV:dH S w S' w')(eJ:∀g o,S' g o->S g o\/w.heap.size<=g\/g∈US)(dA:∀g o,S' g o->g<w'.heap.size)
  {as:F Arg}{zs:F G}{fs:F Bk}{os:F Out}{uo:Ups}(DN:∀g∈US,g∈mvOf as zs)(lX:∀f∈fs,f.isMv=Ä->parK np f.name=J)(dm:gM σ.bx γ as zs fs)(dZ:(fs.map Bk.name).Nodup)(ho:mE fs os=D uo)(hq:lV S' w' as zs os)
  (fZ:∀g,g<w.heap.size->g∉eF as zs->w'.heap[g]? = w.heap[g]?)(fF:w.heap.size<=w'.heap.size)(rC:w'.os=w.os)(mN:w'.tape=w.tape)(cL:w'.output=w.output) :
  Rel N np S0 w0 refs (σ.upd uo) a w' S' γ:=by
 obtain⟨lj,yw⟩:=uy hR dm ho hq;have ui:(uo.map (·.1)).Nodup:=by rw[lj];exact dZ
 have eL:σ.upd uo={ σ with bx:=(σ.upd uo).bx }:=by have:=uf uo σ;cases h:σ.upd uo;rw[h]at this;simp only at this;rw[this]
 have cP:∀k,(uo.any (λy=>y.1==k)=J/\(σ.upd uo).bx k=σ.bx k)\/(∃b,σ.bx k = .live b/\(σ.upd uo).bx k = .gone)\/(∃b b',σ.bx k = .live b/\(σ.upd uo).bx k = .live b'/\kZ b b'/\∀bx',eZ S' w' γ bx' k b'):=by
  intro k;by_cases hk:uo.any (λy=>y.1==k)=Ä
  .right;obtain⟨x,hx,he⟩:=zg.1 hk;have he:x.1=k:=by simpa using he
   subst he;obtain⟨b,h1,h2|⟨b',h2,h3,h4⟩⟩:=yw x hx
   .exact .inl ⟨b,h1,by rw[wF uo σ ui (b:=x.2) hx,h2]⟩
   .exact .inr ⟨b,b',h1,by rw[wF uo σ ui (b:=x.2) hx,h2],h3,h4⟩
  .left;have bn:uo.any (λy=>y.1==k)=false:=ky.2 hk;exact⟨bn,kL uo σ bn⟩
 have ga:∀k b,(σ.upd uo).bx k = .live b->∃b',σ.bx k = .live b':=by
  intro k b hb;rcases cP k with⟨_,h⟩|⟨b1,h1,_⟩|⟨b1,b2,h1,_⟩
  .exact⟨b,h▸hb⟩
  .exact⟨b1,h1⟩
  .exact⟨b1,h1⟩
 have hle:BxLe γ σ.bx γ (σ.upd uo).bx:=by
  intro k hk;rcases cP k with⟨_,h⟩|⟨b1,h1,h2⟩|⟨b1,b2,h1,h2,h3,_⟩
  .rw[h];exact⟨hk,rfl,λb hb=>⟨b,hb,.refl b⟩⟩
  .rw[h2];exact⟨ae,rfl,λb hb=>by simp at hb⟩
  .rw[h2];exact⟨ae,rfl,λb hb=>by simp at hb;subst hb;exact⟨b1,h1,h3⟩⟩
 have hrefs:∀g,g∈eF as zs->∃f∈fs,blk (γ f.name)=D g/\∃b,σ.bx f.name = .live b:=by intro g hg;rw[wD dm]at hg;obtain⟨f,hf,px⟩:=vj.1 hg;exact⟨f,hf,px,tq dm f hf⟩
 rw[eL]
 refine Rel.step hR aV hle ?_ ?_ ?_ ?_ dA ?_ (ko hR.grow fF) (rC.trans hR.os) (mN.trans hR.tape) (cL.trans hR.output) (λg hg _ h=>⟨fZ g hg (λhm=>by
  obtain⟨f,hf,px,b',aU⟩:=hrefs g hm;exact h f.name b' aU px),λk b hb=>by
  obtain⟨b',aU⟩:=ga k b hb;exact h k b' aU⟩)
 .intro k b hb;rcases cP k with⟨hk,h⟩|⟨b1,h1,h2⟩|⟨b1,b2,h1,h2,h3,h4⟩
  case inr.inl=>rw[h2]at hb;simp at hb
  .rw[h]at hb;refine eZ.keep aV hle rfl (λg hg=>?_) (hR.box k b hb);have xZ:=kK (hR.box k b hb) hg;suffices cY:g∉eF as zs from⟨fZ g xZ cY,λo=>⟨λhs=>(eJ g o hs).resolve_right (λh=>h.elim (λh=>aa) λh=>cY (UQ (DN g h))),λhs=>(aV g o hs).1⟩⟩
   intro hm;obtain⟨f,hf,px,b',aU⟩:=hrefs g hm
   have br:k≠f.name:=by
    rintro rfl
    have:f.name∈uo.map (·.1):=by rw[lj];exact ó hf
    obtain⟨x,hx,he⟩:=jx.1 this;have:=(qv.1 hk) x hx;simp[he]at this
   exact hR.apart k f.name b b' g br hb aU hg px
  .rw[h2]at hb;simp at hb;subst hb;exact h4 _
 .intro k b g hb hg;obtain⟨b',aU⟩:=ga k b hb;exact hR.own k b' g aU hg
 .intro k k' b1 b2 g br h1 h2 hg;obtain⟨ud,nw⟩:=ga k b1 h1;obtain⟨ue,lP⟩:=ga k' b2 h2;exact hR.apart k k' ud ue g br nw lP hg
 .intro g o hs;rcases eJ g o hs with h|h|h
  .exact hR.new g o h
  .exact .inr (.inl (ko hR.grow h))
  .obtain⟨f,hf,Ho,px⟩:=wE dm (DN g h);obtain⟨b',aU⟩:=tq dm f hf;rcases hR.own f.name b' g aU px with h|h
   .exact .inr h
   .rw[lX f hf Ho]at h;simp at h
 .intro g hg hr;rw[fZ g (qd hg hR.grow) (λhm=>?_)]
  .exact hR.below g hg hr
  .obtain⟨f,hf,px,b',aU⟩:=hrefs g hm;rcases hR.own f.name b' g aU px with h|h
   .exact h.no aa hr
   .exact hr h.1
theorem L7(hR:Rel N np S0 w0 refs σ a w S γ){d:H}(hd:σ.bx d = .free){v':G}{b:Bx}
  (hv:∀g,blk v'=D g->(Own w0 refs g/\refs.kw g=M)/\∀k b,σ.bx k = .live b->blk (γ k)≠D g)(hb:eZ S w (gset γ d v') (σ.setB d (.live b)).bx d b) :
  Rel N np S0 w0 refs (σ.setB d (.live b)) a w S (gset γ d v')/\BxLe γ σ.bx (gset γ d v') (σ.setB d (.live b)).bx:=by
 have hle:BxLe γ σ.bx (gset γ d v') (σ.setB d (.live b)).bx:=by
  intro k hk;have br:k≠d:=by rintro rfl;exact hk hd
  rw[cE σ _ br,fM γ v' br];exact⟨hk,rfl,λb hb=>⟨b,hb,.refl b⟩⟩
 refine⟨Rel.step (bx':=(σ.setB d (.live b)).bx) hR (.refl S w) hle ?_ ?_ ?_ hR.new hR.here hR.below hR.grow hR.os hR.tape hR.output (λg _ nU h=>⟨rfl,λk b' aU dm=>by
  by_cases hk:k=d
  .subst hk;rw[eN]at dm;exact nU (hv g dm).1.2
  .rw[cE σ _ hk]at aU;rw[fM γ v' hk]at dm;exact h k b' aU dm⟩),hle⟩
 .intro k b' aU;by_cases hk:k=d
  .subst hk;rw[fD]at aU;simp at aU;subst aU;exact hb
  .rw[cE σ _ hk]at aU;exact eZ.keep (.refl S w) hle (fM γ v' hk) (λg hg=>⟨rfl,λ_=>â⟩) (hR.box k b' aU)
 .intro k b' g aU hg;by_cases hk:k=d
  .subst hk;rw[eN]at hg;exact .inl (hv g hg).1.1
  .rw[cE σ _ hk]at aU;rw[fM γ v' hk]at hg;exact hR.own k b' g aU hg
 .intro k k' b1 b2 g br h1 h2 hg aC;by_cases hk:k=d
  .subst hk;have bn:k'≠k:=λh=>br h.symm;rw[eN]at hg;rw[cE σ _ bn]at h2;rw[fM γ v' bn]at aC;exact(hv g hg).2 k' b2 h2 aC
  .by_cases bn:k'=d
   .subst bn;rw[eN]at aC;rw[cE σ _ hk]at h1;rw[fM γ v' hk]at hg;exact(hv g aC).2 k b1 h1 hg
   .rw[cE σ _ hk]at h1;rw[cE σ _ bn]at h2;rw[fM γ v' hk]at hg;rw[fM γ v' bn]at aC;exact hR.apart k k' b1 b2 g br h1 h2 hg aC
theorem BC{bx:H->BS}{x:TV}{u:G}(h:VRep S w x u):bQ S w γ bx (pb x.t x.v) u:=by
 obtain⟨t,v⟩:=x;obtain⟨h1,h2,h3⟩:=h;refine LB t v _ u h1 (λhm=>?_) (λha hn=>?_)
 .have:kI t=true:=by
   rcases hm with hm|⟨n,b,rfl⟩
   .cases t<;>simp_all[kI,Ty.agg]
   .rfl
  obtain⟨cs,rfl⟩:=h2 this;simp[Value.cells]
 .have:kI t=false:=by cases t<;>simp_all[kI,Ty.agg]
  exact Bm (h3 this)
theorem Hp:∀{ls:F RL}{n:H}{l:F Leaf}{u:Ups},soL n ls=D (l,u)->∀x∈u,n<=x.1/\x.1<n+ls.length
 |[],n,l,u,h=>by simp[soL]at h;obtain⟨rfl,rfl⟩:=h;simp
 |.d x::r,n,l,u,h=>by
  simp only[soL]at h;split at h
  .rename_i l' u' h';simp only[j5,j9]at h;obtain⟨rfl,rfl⟩:=h;intro y hy;have:=Hp h' y hy;simp only[ji];omega
  .simp at h
 |.own e ⟨.list a,xs⟩::r,n,l,u,h=>by
  simp only[soL]at h;split at h
  .rename_i l' u' h';simp only[j5,j9]at h;obtain⟨rfl,rfl⟩:=h;intro y hy;rcases je.1 hy with rfl|hy
   .simp only[ji];omega
   .have:=Hp h' y hy;simp only[ji];omega
  .simp at h
 |.own e ⟨.int _,xs⟩::r,n,l,u,h=>by simp[soL]at h
 |.own e ⟨.bool,xs⟩::r,n,l,u,h=>by simp[soL]at h
 |.own e ⟨.str,xs⟩::r,n,l,u,h=>by simp[soL]at h
 |.own e ⟨.unit,xs⟩::r,n,l,u,h=>by simp[soL]at h
 |.own e ⟨.wrap _,xs⟩::r,n,l,u,h=>by simp[soL]at h
 |.own e ⟨.pair _ _,xs⟩::r,n,l,u,h=>by simp[soL]at h
 |.own e ⟨.arr _ _,xs⟩::r,n,l,u,h=>by simp[soL]at h
theorem jps{n:H}{r:RV}{c:Cel}{u:Ups}(h:GV n r=D (c,u)):∀x∈u,n<=x.1/\x.1<n+rvW r:=by
 unfold GV at h;split at h
 .simp only[j5,j9]at h;obtain⟨rfl,rfl⟩:=h;simp
 .simp only[j5,j9]at h;obtain⟨rfl,rfl⟩:=h;simp[rvW]
 .simp at h
 .simp only[j5,j9]at h;obtain⟨rfl,rfl⟩:=h;simp[rvW]
 .simp at h
 .split at h<;>(simp only[j5,j9]at h;obtain⟨rfl,rfl⟩:=h;simp)
 .simp only[j5,j9]at h;obtain⟨rfl,rfl⟩:=h;simp
 .split at h
  .rename_i l u' h';simp only[j5,j9]at h;obtain⟨rfl,rfl⟩:=h;exact Hp h'
  .simp at h
 .simp at h
theorem UT:∀{n:H}{rs:F RV}{cs:F Cel}{u:Ups},vS n rs=D (cs,u)->∀x∈u,n<=x.1
 |n,[],cs,u,h=>by simp[vS]at h;obtain⟨rfl,rfl⟩:=h;simp
 |n,r::rs,cs,u,h=>by
  simp only[vS]at h;split at h
  .rename_i c u1 h1;split at h
   .rename_i L8 u2 h2;simp only[j5,j9]at h;obtain⟨rfl,rfl⟩:=h;intro x hx;rcases jm.1 hx with hx|hx
    .exact(jps h1 x hx).1
    .have:=UT h2 x hx;omega
   .simp at h
  .simp at h
theorem UU{bx:H->BS}{ns:F H}:∀(k:H){ls:F Leaf}{cs:F G},All2 (bF S w γ bx) ls cs->(∀i∈ns,∀z,k<=i->cs[i-k]? = D z->z = .slice M 0 0)->
  All2 (bF S w γ bx) ((ls.zipIdx k).map λy=>if ns.contains y.2 then .nil else y.1) cs
 |_,[],[],_,_=>trivial
 |k,l::ls,c::cs,h,hn=>by
  refine⟨?_,UU (k+1) h.2 λi hi z hk hz=>hn i hi z aa ?_⟩
  .by_cases hc:ns.contains k=Ä
   .simp only[hc,if_true];exact hn k (by simpa using hc) c (jq _) ae
   .simp only[hc];exact h.1
  .rw[show i-k=(i-(k+1))+1 by omega];simpa using hz
 |_,[],_::_,h,_=>h.elim
 |_,_::_,[],h,_=>h.elim
theorem ŵ(hR:Rel N np S0 w0 refs σ a w S γ){h0:H}(L9:w0.heap.size<=h0)(ga:∀k b g,σ.bx k = .live b->blk (γ k)=D g->g<h0)(xY:∀g,h0<=g->refs.kw g=M)
  {ns:F H}{s:Snap}{v:G}(py:L2 h0 S w ns s v)(bq:∀x∈rawU ns s,σ.bx x.1 = .free)(dZ:((rawU ns s).map (·.1)).Nodup) :
  ∃γ',Rel N np S0 w0 refs (σ.upd (rawU ns s)) a w S γ'/\∃zs,v=mM zs/\All2 (bQ S w γ' (σ.upd (rawU ns s)).bx) (rawC ns s) zs:=by
 obtain⟨γr,zs,hv,hc,hb,mu,Ŷ⟩:=py;generalize rawU ns s=u at *;let γ':H->Value:=λk=>if u.any (λy=>y.1==k) then γr k else γ k
 have fY:∀k,u.any (λy=>y.1==k)=Ä->(σ.upd u).bx k=(emp.upd u).bx k/\γ' k=γr k/\σ.bx k = .free:=by
  intro k hk;have lk:=hk;obtain⟨x,hx,he⟩:=zg.1 hk;have he:x.1=k:=by simpa using he
  subst he;exact⟨(wF u σ dZ (b:=x.2) hx).trans (wF u emp dZ (b:=x.2) hx).symm,if_pos lk,bq x hx⟩
 have cL:∀k,u.any (λy=>y.1==k)=J->(σ.upd u).bx k=σ.bx k/\(emp.upd u).bx k = .free/\γ' k=γ k:=by intro k hk;exact⟨kL u σ hk,kL u emp hk,if_neg (by rw[hk];simp)⟩
 have UW:BxLe γr (emp.upd u).bx γ' (σ.upd u).bx:=by
  intro k hk;cases hu:u.any (λy=>y.1==k) with
  |false=>exact absurd (cL k hu).2.1 hk
  |true=>obtain⟨h1,h2,_⟩:=fY k hu;rw[h1];exact⟨hk,h2,λb hb=>⟨b,hb,.refl b⟩⟩
 have UX:BxLe γ σ.bx γ' (σ.upd u).bx:=by
  intro k hk;cases hu:u.any (λy=>y.1==k) with
  |true=>exact absurd (fY k hu).2.2 hk
  |false=>obtain⟨h1,_,h2⟩:=cL k hu;rw[h1];exact⟨hk,h2,λb hb=>⟨b,hb,.refl b⟩⟩
 have eL:σ.upd u={ σ with bx:=(σ.upd u).bx }:=by have:=uf u σ;cases h:σ.upd u;rw[h]at this;simp only at this;rw[this]
 refine⟨γ',?_,zs,hv,hc.mono λx z hx=>bQ.keep (.refl S w) UW hx⟩;rw[eL];refine Rel.step hR (.refl S w) UX ?_ ?_ ?_ hR.new hR.here hR.below hR.grow hR.os hR.tape hR.output (λg _ nU h=>⟨rfl,λk b hb dm=>?_⟩)
 .intro k b aU;cases hu:u.any (λy=>y.1==k) with
  |true=>obtain⟨h1,h2,_⟩:=fY k hu;rw[h1]at aU;exact eZ.keep (.refl S w) UW h2 (λg hg=>⟨rfl,λ_=>â⟩) (hb k b aU)
  |false=>obtain⟨h1,_,h2⟩:=cL k hu;rw[h1]at aU;exact eZ.keep (.refl S w) UX h2 (λg hg=>⟨rfl,λ_=>â⟩) (hR.box k b aU)
 .intro k b g aU hg;cases hu:u.any (λy=>y.1==k) with
  |true=>obtain⟨h1,h2,_⟩:=fY k hu;rw[h1]at aU;rw[h2]at hg;exact .inl (.inl (ko L9 (mu k b g aU hg)))
  |false=>obtain⟨h1,_,h2⟩:=cL k hu;rw[h1]at aU;rw[h2]at hg;exact hR.own k b g aU hg
 .intro k k' b b' g br dF eI iM gw;cases hu:u.any (λy=>y.1==k) with
  |true=>
   obtain⟨h1,h2,_⟩:=fY k hu;rw[h1]at dF;rw[h2]at iM;cases eb:u.any (λy=>y.1==k') with
   |true=>obtain⟨h3,h4,_⟩:=fY k' eb;rw[h3]at eI;rw[h4]at gw;exact Ŷ k k' b b' g br dF eI iM gw
   |false=>obtain⟨h3,_,h4⟩:=cL k' eb;rw[h3]at eI;rw[h4]at gw;have:=ga k' b' g eI gw;have:=mu k b g dF iM;omega
  |false=>
   obtain⟨h1,_,h2⟩:=cL k hu;rw[h1]at dF;rw[h2]at iM;cases eb:u.any (λy=>y.1==k') with
   |true=>obtain⟨h3,h4,_⟩:=fY k' eb;rw[h3]at eI;rw[h4]at gw;have:=ga k b g dF iM;have:=mu k' b' g eI gw;omega
   |false=>obtain⟨h3,_,h4⟩:=cL k' eb;rw[h3]at eI;rw[h4]at gw;exact hR.apart k k' b b' g br dF eI iM gw
 .cases hu:u.any (λy=>y.1==k) with
  |true=>obtain⟨h1,h2,_⟩:=fY k hu;rw[h1]at hb;rw[h2]at dm;exact nU (xY g (mu k b g hb dm))
  |false=>obtain⟨h1,_,h2⟩:=cL k hu;rw[h1]at hb;rw[h2]at dm;exact h k b hb dm
theorem Ma:∀{ls:F RL}{zs:F G}{n:H}{l:F Leaf}{u:Ups}{σ:St}{γ:H->G},Rel N np S0 w0 refs σ a w S γ->soL n ls=D (l,u)->All2 (Hk S w) ls zs->
  (∀x∈u,σ.bx x.1 = .free)->(oL ls zs).Nodup->(∀g∈oL ls zs,(Own w0 refs g/\refs.kw g=M)/\∀k b,σ.bx k = .live b->blk (γ k)≠D g)->
  ∃γ',Rel N np S0 w0 refs (σ.upd u) a w S γ'/\BxLe γ σ.bx γ' (σ.upd u).bx/\All2 (bF S w γ' (σ.upd u).bx) l zs/\(∀z∈zs,One z)/\
   ∀k b g,(σ.upd u).bx k = .live b->blk (γ' k)=D g->(∃b',σ.bx k = .live b'/\blk (γ k)=D g)\/g∈oL ls zs
 |[],[],n,l,u,σ,γ,hR,h,_,_,_,_=>by
  simp[soL]at h;obtain⟨rfl,rfl⟩:=h;exact⟨γ,hR,.refl _ _,trivial,ae,λk b g h1 h2=> .inl ⟨b,h1,h2⟩⟩
 |.d x::ls,z::zs,n,l,u,σ,γ,hR,h,ha,bq,dZ,hblk=>by
  simp only[soL]at h;split at h
  .rename_i l' u' h';simp only[j5,j9]at h;obtain⟨rfl,rfl⟩:=h;obtain⟨γ',q1,q2,q3,q4,q5⟩:=Ma hR h' ha.2 bq dZ hblk;exact⟨γ',q1,q2,⟨ha.1.2,q3⟩,λy hy=>(je.1 hy).elim (λe=>e▸ha.1.1) (q4 y),q5⟩
  .simp at h
 |.own e ⟨.list t,xs⟩::ls,z::zs,n,l,u,σ,γ,hR,h,ha,bq,dZ,hblk=>by
  simp only[soL]at h;split at h
  .rename_i l' u' h';simp only[j5,j9]at h;obtain⟨rfl,rfl⟩:=h;have aQ:wC S w e ⟨.list t,xs⟩ z:=ha.1;have cZ:One z:=by obtain⟨t',ys,_,bZ,_⟩:=aQ;exact bZ.one
   have rD:σ.bx n = .free:=bq _ (z7 ..);simp only[oL]at dZ hblk;obtain⟨bu,hle⟩:=L7 hR rD (v':=z) (b:= .lst e t xs J) (λg hg=>hblk g (by simp[hg])) (BB (eN _ _ _) aQ);have ln:=Hp h'
   obtain⟨γ',q1,q2,q3,q4,q5⟩:=Ma bu h' ha.2 (λx hx=>by
    have:=ln x hx;rw[cE σ _ aa];exact bq x (by simp[hx])) (zd.1 dZ).2.1 (λg hg=>by
    obtain⟨p1,p2⟩:=hblk g (by simp[hg]);refine⟨p1,λk b' aU he=>?_⟩;by_cases hk:k=n
    .subst hk;rw[eN]at he;exact(zd.1 dZ).2.2 g (by simp[he]) g hg rfl
    .rw[cE σ _ hk]at aU;rw[fM γ z hk]at he;exact p2 k b' aU he)
   refine⟨γ',q1,λk hk=>?_,⟨bF.keep (.refl S w) q2 ⟨by rw[fD];simp,cZ,λb _=>(eN γ n z).symm⟩,q3⟩,λy hy=>(je.1 hy).elim (λe=>e▸cZ) (q4 y),λk b g h1 h2=>?_⟩
   .obtain⟨a1,a2,a3⟩:=hle k hk;obtain⟨b1,b2,b3⟩:=q2 k a1;refine⟨b1,b2.trans a2,λb hb=>?_⟩;obtain⟨b',aU,eE⟩:=b3 b hb;obtain⟨DL,rA,rB⟩:=a3 b' aU;exact⟨DL,rA,rB.trans eE⟩
   .rcases q5 k b g h1 h2 with⟨b',aU,he⟩|h3
    .by_cases hk:k=n
     .subst hk;rw[eN]at he;exact .inr (by simp[oL,he])
     .rw[cE σ _ hk]at aU;rw[fM γ z hk]at he;exact .inl ⟨b',aU,he⟩
    .exact .inr (by simp[oL,h3])
  .simp at h
 |.own e ⟨.int _,xs⟩::r,_,n,l,u,_,_,_,h,_,_,_,_=>by simp[soL]at h
 |.own e ⟨.bool,xs⟩::r,_,n,l,u,_,_,_,h,_,_,_,_=>by simp[soL]at h
 |.own e ⟨.str,xs⟩::r,_,n,l,u,_,_,_,h,_,_,_,_=>by simp[soL]at h
 |.own e ⟨.unit,xs⟩::r,_,n,l,u,_,_,_,h,_,_,_,_=>by simp[soL]at h
 |.own e ⟨.wrap _,xs⟩::r,_,n,l,u,_,_,_,h,_,_,_,_=>by simp[soL]at h
 |.own e ⟨.pair _ _,xs⟩::r,_,n,l,u,_,_,_,h,_,_,_,_=>by simp[soL]at h
 |.own e ⟨.arr _ _,xs⟩::r,_,n,l,u,_,_,_,h,_,_,_,_=>by simp[soL]at h
 |[],_::_,_,_,_,_,_,_,_,ha,_,_,_=>ha.elim
 |.d _::_,[],_,_,_,_,_,_,_,ha,_,_,_=>ha.elim
 |.own _ ⟨.list _,_⟩::_,[],_,_,_,_,_,_,_,ha,_,_,_=>ha.elim
theorem UY:∀{rs:F RV}{vs:F G}{n:H}{cs:F Cel}{un:Ups}{σ:St}{γ:H->G},Rel N np S0 w0 refs σ a w S γ->vS n rs=D (cs,un)->All2 (qG S w) rs vs->
  (∀x∈un,σ.bx x.1 = .free)->(gq rs vs).Nodup->(∀g∈gq rs vs,(Own w0 refs g/\refs.kw g=M)/\∀k b,σ.bx k = .live b->blk (γ k)≠D g)->
  ∃γ',Rel N np S0 w0 refs (σ.upd un) a w S γ'/\BxLe γ σ.bx γ' (σ.upd un).bx/\All2 (bQ S w γ' (σ.upd un).bx) cs vs
 |[],[],n,cs,un,σ,γ,hR,h,_,_,_,_=>by
  simp[vS]at h;obtain⟨rfl,rfl⟩:=h;exact⟨γ,hR,.refl _ _,trivial⟩
 |r::rs,u::us,n,cs,un,σ,γ,hR,h,ha,bq,dZ,hblk=>by
  simp only[vS]at h;split at h
  .rename_i c u1 h1;split at h
   .rename_i L8 u2 h2;simp only[j5,j9]at h;obtain⟨rfl,rfl⟩:=h
    have yx:∀(σ1:St)(γ1:H->G),Rel N np S0 w0 refs σ1 a w S γ1->σ1=σ.upd u1->BxLe γ σ.bx γ1 σ1.bx->bQ S w γ1 σ1.bx c u->(∀x∈u2,σ1.bx x.1 = .free)->
      (gq rs us).Nodup->(∀g∈gq rs us,(Own w0 refs g/\refs.kw g=M)/\∀k b,σ1.bx k = .live b->blk (γ1 k)≠D g)->
      ∃γ',Rel N np S0 w0 refs (σ.upd (u1++u2)) a w S γ'/\BxLe γ σ.bx γ' (σ.upd (u1++u2)).bx/\All2 (bQ S w γ' (σ.upd (u1++u2)).bx) (c::L8) (u::us):=by
     intro σ1 γ1 bu he hle hc hf hn hb;obtain⟨γ',q1,q2,q3⟩:=UY (σ:=σ1) (γ:=γ1) bu h2 ha.2 hf hn hb;subst he;rw[jK];refine⟨γ',q1,?_,bQ.keep (.refl S w) q2 hc,q3⟩;intro k hk;obtain⟨a1,a2,a3⟩:=hle k hk;obtain⟨b1,b2,b3⟩:=q2 k a1;refine⟨b1,b2.trans a2,λb hb=>?_⟩;obtain⟨b',aU,eE⟩:=b3 b hb;obtain⟨DL,rA,rB⟩:=a3 b' aU;refine⟨DL,rA,?_⟩;exact rB.trans eE
    have ln:=jps h1;have ob:=UT h2
    have eJ:∀(v':G)(b:Bx),lU r u=(blk v').toList->rvW r=1->u1=[(n,.live b)]->(∀bx',eZ S w (gset γ n v') bx' n b)->(∀bx',(bx' n = .live b)->bQ S w (gset γ n v') bx' c u)->
      ∃γ',Rel N np S0 w0 refs (σ.upd (u1++u2)) a w S γ'/\BxLe γ σ.bx γ' (σ.upd (u1++u2)).bx/\All2 (bQ S w γ' (σ.upd (u1++u2)).bx) (c::L8) (u::us):=by
     intro v' b gC Mb BD dn od;subst BD;rw[Mb]at ob;have rD:σ.bx n = .free:=bq (n,.live b) ae;simp only[gq,gC]at dZ hblk;obtain⟨bu,hle⟩:=L7 hR rD (v':=v') (b:=b) (λg hg=>hblk g (by simp[hg])) (dn _);refine yx _ _ bu rfl hle (od _ (fD _ _ _)) (λx hx=>?_) ?_ (λg hg=>?_)
     .have:=ob x hx;rw[cE σ _ aa];exact bq x (by simp[hx])
     .exact(zd.1 dZ).2.1
     .obtain⟨p1,p2⟩:=hblk g (by simp[hg]);refine⟨p1,λk b' aU he=>?_⟩;by_cases hk:k=n
      .subst hk;rw[eN]at he;have:=(zd.1 dZ).2.2 g (by simp[he]) g hg;exact this rfl
      .rw[cE σ _ hk]at aU;rw[fM γ v' hk]at he;exact p2 k b' aU he
    unfold GV at h1;split at h1
    .rename_i x;simp only[j5,j9]at h1;obtain⟨rfl,rfl⟩:=h1;refine yx σ γ hR rfl (.refl _ _) (BC ha.1) (λx hx=>bq x (by simp[hx])) ?_ ?_
     .simpa[gq,nB,lU]using dZ
     .simpa[gq,nB,lU]using hblk
    .rename_i e el xs;simp only[j5,j9]at h1;obtain⟨rfl,rfl⟩:=h1;have aQ:wC S w e ⟨.list el,xs⟩ u:=ha.1;have cZ:One u:=by obtain⟨t',ys,_,bZ,_⟩:=aQ;exact bZ.one
     exact eJ u _ rfl rfl rfl (λbx'=>BB (eN _ _ _) aQ) (λbx' hb=>⟨⟨by rw[hb];simp,cZ,λb _=>(eN γ n u).symm⟩,λ_=>cZ⟩)
    .simp at h1
    .rename_i ls;simp only[j5,j9]at h1;obtain⟨rfl,rfl⟩:=h1;have DO:DM S w ls u:=ha.1;obtain⟨g,cur,e,hu,_⟩:=id DO;have cZ:One u:=by rw[hu];rfl
     exact eJ u _ rfl rfl rfl (λbx'=>L5 (eN _ _ _) DO) (λbx' hb=>⟨⟨by rw[hb];simp,cZ,λb _=>⟨g,by rw[eN,hu],hu⟩⟩,λ_=>cZ⟩)
    .simp at h1
    .rename_i x ns;have hv:VRep S w x u/\∀cs,u = .agg cs->∀i∈ns,∀z,cs.toList[i]? = D z->z = .slice M 0 0:=ha.1;have rF:bQ S w γ σ.bx (pb x.t x.v) u:=BC hv.1
     have hc:bQ S w γ σ.bx c u/\u1=[]:=by
      split at h1
      .rename_i ls he;simp only[j5,j9]at h1;obtain⟨rfl,rfl⟩:=h1;rw[he]at rF;obtain⟨cs,hu,ay,cZ⟩:=rF;exact⟨⟨cs,hu,UU 0 ay λi hi z _ hz=>hv.2 cs hu i hi z (by simpa using hz),cZ⟩,rfl⟩
      .simp only[j5,j9]at h1;obtain⟨rfl,rfl⟩:=h1;exact⟨rF,rfl⟩
     obtain⟨hc,rfl⟩:=hc;refine yx σ γ hR rfl (.refl _ _) hc (λx hx=>bq x (by simp[hx])) ?_ ?_
     .simpa[gq,nB,lU]using dZ
     .simpa[gq,nB,lU]using hblk
    .rename_i f caps;simp only[j5,j9]at h1;obtain⟨rfl,rfl⟩:=h1;obtain⟨cv,hu,ay⟩:∃cv:Ë G,u = .func (.func f) #[] cv/\All2 (iX S w) caps cv.toList:=ha.1;refine yx σ γ hR rfl (.refl _ _) ⟨⟨cv,hu,ay⟩,λ_=>by rw[hu];rfl⟩ (λx hx=>bq x (by simp[hx])) ?_ ?_
     .simpa[gq,nB,lU]using dZ
     .simpa[gq,nB,lU]using hblk
    .rename_i ls;split at h1
     .rename_i l L3 hl;simp only[j5,j9]at h1;obtain⟨rfl,rfl⟩:=h1;obtain⟨mO,hu,ay⟩:∃cs:Ë G,u = .agg cs/\All2 (Hk S w) ls cs.toList:=ha.1;subst hu;have wG:lU (.so ls) (.agg mO)=oL ls mO.toList:=rfl;simp only[gq,wG]at dZ hblk;obtain⟨γ1,q1,q2,q3,q4,q5⟩:=Ma hR hl ay (λx hx=>bq x (by simp[hx])) (zd.1 dZ).1 (λg hg=>hblk g (by simp[hg]));refine yx _ γ1 q1 rfl q2 ⟨mO,rfl,q3,q4⟩ (λx hx=>?_) (zd.1 dZ).2.1 (λg hg=>?_)
      .have h2:=ob x hx;rw[kL L3 σ]
       .exact bq x (by simp[hx])
       .rw[qv];intro y hy he;simp only[vg]at he;have:=ln y hy;omega
      .obtain⟨p1,p2⟩:=hblk g (by simp[hg]);refine⟨p1,λk b' aU he=>?_⟩;rcases q5 k b' g aU he with⟨b2,eI,ŷ⟩|h3
       .exact p2 k b2 eI ŷ
       .exact(zd.1 dZ).2.2 g h3 g hg rfl
     .simp at h1
    .simp at h1
   .simp at h
  .simp at h
 |[],_::_,_,_,_,_,_,_,_,ha,_,_,_=>ha.elim
 |_::_,[],_,_,_,_,_,_,_,ha,_,_,_=>ha.elim
end
section
variable{N:NT}{np:H}{S0:aY}{w0:Á}{refs:Refs}{σ:St}{a:ß}{w:Á}{S:aY}{γ:H->G}
theorem Mc{S':aY}{w':Á}:∀(cs:F Cap)(cv:F G)(os:F Out),lV S' w' (cs.map pk) cv os->os=[]
 |[],[],[],_=>rfl
 |[],[],_::_,h=>h.elim
 |[],_::_,_,h=>h.elim
 |c::cs,[],_,h=>by cases c<;>exact h.elim
 |.v _::cs,_::cv,os,h=>Mc cs cv os h
 |.p _::cs,_::cv,os,h=>Mc cs cv os h
theorem yy{S':aY}{w':Á}{cs:F Cap}{cv:F G}:∀{as:F Arg}{zs:F G}{os:F Out},as.length=zs.length->
  lV S' w' (as++cs.map pk) (zs++cv) os->lV S' w' as zs os
 |[],[],os,_,h=>by
  have:=Mc cs cv os h;subst this;trivial
 |.ref ls::as,u::us,.ref ys::os,hl,⟨h1,h2⟩=>⟨h1,yy (by simpa using hl) h2⟩
 |.rl e x::as,u::us,.rl y::os,hl,⟨h1,h2,h3⟩=>⟨h1,h2,yy (by simpa using hl) h3⟩
 |.v _::as,_::us,os,hl,h=>yy (as:=as) (zs:=us) (by simpa using hl) h
 |.ip _::as,_::us,os,hl,h=>yy (as:=as) (zs:=us) (by simpa using hl) h
 |.clo _ _::as,_::us,os,hl,h=>yy (as:=as) (zs:=us) (by simpa using hl) h
 |.mv _ _::as,_::us,os,hl,h=>yy (as:=as) (zs:=us) (by simpa using hl) h
 |[],_::_,_,hl,_=>by simp at hl
 |_::_,[],_,hl,_=>by simp at hl
 |.ref _::_,_::_,[],_,h=>h.elim
 |.ref _::_,_::_,.rl _::_,_,h=>h.elim
 |.rl _ _::_,_::_,[],_,h=>h.elim
 |.rl _ _::_,_::_,.ref _::_,_,h=>h.elim
theorem gM.congr{bx bx':H->BS}:∀{as:F Arg}{us:F G}{fs:F Bk},(∀f∈fs,bx' f.name=bx f.name)->gM bx γ as us fs->gM bx' γ as us fs
 |[],[],[],_,_=>trivial
 |.ref ls::as,u::us,.ref k::fs,hc,⟨h1,⟨ls',h2⟩,h3⟩=>
  ⟨h1,⟨ls',(hc (.ref k) ae).trans h2⟩,gM.congr (λf hf=>hc f (by simp[hf])) h3⟩
 |.rl e x::as,u::us,.rl k e' t::fs,hc,⟨h0,h1,⟨xs,h2,hx⟩,h3⟩=>
  ⟨h0,h1,⟨xs,(hc (.rl k e' t) ae).trans h2,hx⟩,gM.congr (λf hf=>hc f (by simp[hf])) h3⟩
 |.mv e x::as,u::us,.mv k e' t::fs,hc,⟨h0,h1,⟨xs,h2,hx⟩,h3⟩=>
  ⟨h0,h1,⟨xs,(hc (.mv k e' t) ae).trans h2,hx⟩,gM.congr (λf hf=>hc f (by simp[hf])) h3⟩
 |.v _::as,_::us,fs,hc,h=>gM.congr (as:=as) (us:=us) hc h
 |.ip _::as,_::us,fs,hc,h=>gM.congr (as:=as) (us:=us) hc h
 |.clo _ _::as,_::us,fs,hc,h=>gM.congr (as:=as) (us:=us) hc h
theorem BE{S1 S':aY}{w':Á}(fj:∀g o,S g o->S' g o):∀{as:F Arg}{zs:F G}{os:F Out},os.all Out.flat=Ä->lV S' w' as zs os->lV S w' as zs os
 |[],[],[],_,_=>trivial
 |.ref ls::as,u::us,.ref ys::os,hf,⟨⟨g,cur,e,h1,h2,h3,h4⟩,h5⟩=>by
  simp only[zb,jd,Out.flat]at hf;refine⟨⟨g,cur,e,h1,h2,?_,λo hs=>h4 o (fj g o hs)⟩,BE (S1:=S1) fj hf.2 h5⟩;have hl:=hf.1;clear h1 h2 hf h4 h5;generalize cur.toList.take ys.length=l at h3;induction ys generalizing l with
  |nil=>cases l with|nil=>trivial|cons _ _=>exact h3.elim
  |cons y ys ih=>
   cases l with
   |nil=>exact h3.elim
   |cons z l=>simp only[zb,jd]at hl;exact⟨uw _ _ _ hl.1 h3.1,ih hl.2 l h3.2⟩
 |.rl e x::as,u::us,.rl y::os,hf,⟨⟨t,xs,h1,_⟩,_,_⟩=>by
  simp only[zb,jd,Out.flat,h1,Ty.flat]at hf;exact absurd hf.1 ae
 |.v _::as,_::us,os,hf,h=>BE (S1:=S1) (as:=as) (zs:=us) fj hf h
 |.ip _::as,_::us,os,hf,h=>BE (S1:=S1) (as:=as) (zs:=us) fj hf h
 |.clo _ _::as,_::us,os,hf,h=>BE (S1:=S1) (as:=as) (zs:=us) fj hf h
 |.mv _ _::as,_::us,os,hf,h=>BE (S1:=S1) (as:=as) (zs:=us) fj hf h
theorem Ÿ{S S':aY}{w:Á}{e:H}{a:Ty}{xs:F a.den}{u:G}(hf:a.flat=Ä)(h:rb S' w e a xs u):rb S w e a xs u:=by
 rcases h with⟨hm,css,h1,h2⟩|⟨hm,h1⟩
 .exact .inl ⟨hm,css,h1,h2.mono λx c hx=>uw _ _ _ hf hx⟩
 .refine .inr ⟨hm,?_⟩;revert hf h1;cases a with
  |pair k b=>intro hf h1;simp only[Ty.flat,jd]at hf;obtain⟨g,es,clock,hu,hh,ha,hq⟩:=h1;exact⟨g,es,clock,hu,hh,ha.mono λx e hx=>⟨uw _ _ _ hf.1 hx.1,uw _ _ _ hf.2 hx.2.1,hx.2.2⟩,hq⟩
  |_=>intro _ h1;exact h1.elim
theorem UZ{S':aY}{w':Á}(fj:∀g o,S g o->S' g o):∀{rs:F RV}{vs:F G},rs.all RV.flat=Ä->All2 (qG S' w') rs vs->All2 (qG S w') rs vs
 |[],[],_,_=>trivial
 |r::rs,v::vs,hf,h=>by
  simp only[zb,jd]at hf;have i1:=UZ fj hf.2 h.2;cases r with
  |v x=>obtain⟨h1,h2,h3⟩:=h.1;exact⟨⟨uw _ _ _ hf.1 h1,h2,h3⟩,i1⟩
  |own e x=>obtain⟨a,xs,rfl,h1,h2⟩:=h.1;exact⟨⟨a,xs,rfl,Ÿ hf.1 h1,λg hg o hs=>h2 g hg o (fj g o hs)⟩,i1⟩
  |so ls=>simp[RV.flat]at hf
  |box ls=>simp[RV.flat]at hf
  |hd n=>simp[RV.flat]at hf
  |vn x ns=>simp[RV.flat]at hf
  |clo f cs=>simp[RV.flat]at hf
  |raw ns s=>simp[RV.flat]at hf
 |[],_::_,_,h=>h.elim
 |_::_,[],_,h=>h.elim
theorem Ź{rd:H->BS}(aZ:RdOk σ rd){un:Ups}(h:un.all (λe=>iz (rd e.1))=Ä):∀x∈un,σ.bx x.1 = .free:=
 λx hx=>aZ.free (jv.1 h x hx)
theorem All2.len{α β:Type}{R:α->β->Prop}{as:F α}{bs:F β}(h:All2 R as bs):as.length=bs.length:=h.length
theorem U0{γ':H->G}{bx:H->BS}{S':aY}{w':Á}{ź:H->G}{cs:F Cel}{vs:F G}(h:All2 (bQ S' w' γ' bx) cs vs) :
  iA S' w' γ' bx ź (C2 cs) (mM vs):=by
 match cs,vs,h with
 |[c],[v],h=>exact h.1
 |[],[],h=>exact⟨#[],rfl,trivial⟩
 |c::c'::cs,v::v'::vs,h=>exact⟨(v::v'::vs).toArray,rfl,by simpa using h⟩
 |[c],v::v'::vs,h=>exact h.2.elim
 |c::c'::cs,[v],h=>exact h.2.elim
 |[],v::vs,h=>exact h.elim
 |c::cs,[],h=>exact h.elim
theorem Hq{bx:H->BS}{k e:H}{t:Ty}:∀{as:F Arg}{us:F G}{fs:F Bk},gM bx γ as us (.rl k e t::fs)->∀(bs:F Arg)(vs:F G),Hl (as++bs) (us++vs)=D (γ k)
 |.rl e x::as,u::us,fs,⟨_,h1,_,_⟩,bs,vs=>by rw[<-h1];rfl
 |.v _::as,_::us,fs,h,bs,vs=>Hq (as:=as) (us:=us) (fs:=fs) h bs vs
 |.ip _::as,_::us,fs,h,bs,vs=>Hq (as:=as) (us:=us) (fs:=fs) h bs vs
 |.clo _ _::as,_::us,fs,h,bs,vs=>Hq (as:=as) (us:=us) (fs:=fs) h bs vs
 |[],[],fs,h,_,_=>h.elim
 |.ref _::as,_::us,fs,h,_,_=>h.elim
 |.mv _ _::as,_::us,fs,h,_,_=>h.elim
 |[],_::_,fs,h,_,_=>h.elim
 |_::_,[],fs,h,_,_=>by cases ‹Arg› <;> exact h.elim
theorem U1{α β:Type}:∀(l:F α)(l':F β),List.Sublist ((l.zip l').map (·.1)) l
 |[],_=>ae
 |_::_,[]=>ae
 |x::l,y::l'=>by simpa using U1 l l'
theorem U2:∀(as:F Arg)(us:F G)(bs:F Arg)(vs:F G),as.length=us.length->mvOf (as++bs) (us++vs)=mvOf as us++mvOf bs vs
 |[],[],bs,vs,_=>rfl
 |a::as,u::us,bs,vs,h=>by
  have ih:=U2 as us bs vs (by simpa using h);cases a<;>simp[mvOf,ih]
 |[],_::_,_,_,h=>by simp at h
 |_::_,[],_,_,h=>by simp at h
theorem U3:∀(cs:F Cap)(zs:F G),mvOf (cs.map pk) zs=[]
 |[],_=>by cases ‹F G› <;> rfl
 |c::cs,[]=>by cases c<;>rfl
 |c::cs,z::zs=>by cases c<;>simp[mvOf,pk,U3 cs zs]
theorem Hr:∀{fs:F Bk}{os:F Out}{uo:Ups}{f:Bk},mE fs os=D uo->f∈fs->f.isMv=Ä->(f.name,BS.gone)∈uo
 |[],os,uo,f,_,hf,_=>by simp at hf
 |.mv k e a::fs,os,uo,f,h,hf,hm=>by
  simp only[mE]at h;split at h
  .rename_i u' eb;simp only[j5]at h;subst h;rcases je.1 hf with rfl|hf
   .exact z7
   .exact qi _ (Hr eb hf hm)
  .simp at h
 |.ref k::fs,[],uo,f,h,hf,hm=>by simp[mE]at h
 |.rl k e a::fs,[],uo,f,h,hf,hm=>by simp[mE]at h
 |.ref k::fs,o::os,uo,f,h,hf,hm=>by
  simp only[mE]at h;split at h
  .split at h
   .rename_i u' eb;simp only[j5]at h;subst h;rcases je.1 hf with rfl|hf
    .simp[Bk.isMv]at hm
    .exact qi _ (Hr eb hf hm)
   .simp at h
  .simp at h
 |.rl k e a::fs,o::os,uo,f,h,hf,hm=>by
  simp only[mE]at h;split at h
  .split at h
   .rename_i u' eb;simp only[j5]at h;subst h;rcases je.1 hf with rfl|hf
    .simp[Bk.isMv]at hm
    .exact qi _ (Hr eb hf hm)
   .simp at h
  .simp at h
theorem U4{P:Z}(hR:Rel N np S0 w0 refs σ a w S γ){rw rd rdf:H->BS}(kE:RdR σ rw)(aZ:RdOk σ rd)(bz:RdF np σ rdf){T:H->À TyI}{ts:F H}{ms:F Ø}{cs:F Cel}{as:F Arg}{us:Ups}{fs:F Bk}{zs:F G}
  {mv:Ø}(h:pj rw rdf T mv ts ms cs=D (as,us,fs))(ha:All2 (bQ S w γ σ.bx) cs zs)(bT:bkOk us fs=Ä)
  {caps:F Cap}{cv:F G}(lY:All2 (iX S w) caps cv){g:H}{K:Ret->Prop}
  (ej:Hn P g (as++caps.map pk) K)(n:H) :
  Calls P g (zs++cv).toArray w λe w'=>∃ret,K ret/\∀s u,tS rd rdf n us fs ret=D (s,u)->∃v S' γ',e = .returned v/\Rel N np S0 w0 refs (σ.upd u) a w' S' γ'/\iA S' w' γ' (σ.upd u).bx (tm a) s v:=by
 obtain⟨fB,dm,rk⟩:=UL hR kE bz h ha;simp only[bkOk,jd]at bT;obtain⟨dZ,DP⟩:=bT;have dZ:=yu dZ
 have hlen:as.length=zs.length:=by
  have:∀{as:F Arg}{us:F G}{fs:F Bk},gM σ.bx γ as us fs->as.length=us.length:=by
   intro as;induction as with
   |nil=>intro us fs hh;cases us with|nil=>rfl|cons _ _=>exact hh.elim
   |cons a as ih=>
    intro us fs hh;cases us with
    |nil=>cases a<;>exact hh.elim
    |cons u us=>
     cases a with
     |v x=>have:=ih (us:=us) (fs:=fs) hh;simp[this]
     |ip x=>have:=ih (us:=us) (fs:=fs) hh;simp[this]
     |clo x y=>have:=ih (us:=us) (fs:=fs) hh;simp[this]
     |ref ls=>match fs,hh with|.ref k::fs,⟨_,_,h3⟩=>have:=ih h3;simp[this]
     |rl e x=>match fs,hh with|.rl k e' t::fs,⟨_,_,_,h3⟩=>have:=ih h3;simp[this]
     |mv e x=>match fs,hh with|.mv k e' t::fs,⟨_,_,_,h3⟩=>have:=ih h3;simp[this]
  exact this dm
 obtain⟨S1,bu,cS,gE,dt⟩:=nR us σ S hR fB;have DQ:∀k,k∈fs.map Bk.name->us.any (λy=>y.1==k)=false:=by intro k hk;rw[qv];intro x hx he;have:=jv.1 DP x hx;simp only[vg]at he;subst he;simp only[q9,qj,kg]at this;exact this hk
 have rG:∀f∈fs,(σ.upd us).bx f.name=σ.bx f.name:=λf hf=>kL us σ (DQ _ (ó hf));have uz:=dm.congr rG
 have uA:∀k b,fs.any (λy=>y.name==k)=Ä->σ.bx k = .live b->∀g,blk (γ k)=D g->∀o,¬S1 g o:=by
  intro k b hk hb g hg o;obtain⟨f,hf,he⟩:=zg.1 hk;have he:f.name=k:=by simpa using he
  subst he;have dF:(σ.upd us).bx f.name = .live b:=(rG f hf).trans hb;have dn:=bu.box f.name b dF
  have mP:(∃ls',b = .cell ls' J)\/(∃e t xs,b = .lst e t xs J):=by
   have:∀{as:F Arg}{us:F G}{fs:F Bk},gM σ.bx γ as us fs->f∈fs->(∃ls',σ.bx f.name = .live (.cell ls' J))\/(∃e t xs,σ.bx f.name = .live (.lst e t xs J)):=by
    intro as;induction as with
    |nil=>intro us fs hh hm;match us,fs,hh with|[],[],_=>simp at hm
    |cons a as ih=>
     intro us fs hh hm;cases us with
     |nil=>cases a<;>exact hh.elim
     |cons u us=>
      cases a with
      |v x=>exact ih (us:=us) (fs:=fs) hh hm
      |ip x=>exact ih (us:=us) (fs:=fs) hh hm
      |clo x y=>exact ih (us:=us) (fs:=fs) hh hm
      |ref ls=>
       match fs,hh with
       |.ref k::fs,⟨_,⟨ls',h2⟩,h3⟩=>
        rcases je.1 hm with rfl|hm
        .exact .inl ⟨ls',h2⟩
        .exact ih h3 hm
      |rl e x=>
       match fs,hh with
       |.rl k e' t::fs,⟨_,_,⟨xs,h2,_⟩,h3⟩=>
        rcases je.1 hm with rfl|hm
        .exact .inr ⟨_,t,xs,h2⟩
        .exact ih h3 hm
      |mv e x=>
       match fs,hh with
       |.mv k e' t::fs,⟨_,_,⟨xs,h2,_⟩,h3⟩=>
        rcases je.1 hm with rfl|hm
        .exact .inr ⟨_,t,xs,h2⟩
        .exact ih h3 hm
   rcases this dm hf with⟨ls',h2⟩|⟨e,t,xs,h2⟩
   .rw[hb]at h2;simp at h2;exact .inl ⟨ls',h2⟩
   .rw[hb]at h2;simp at h2;exact .inr ⟨e,t,xs,h2⟩
  rcases mP with⟨ls',rfl⟩|⟨e,t,xs,rfl⟩
  .obtain⟨g',cur,e,aC,_,_,_,hS,_⟩:=dn;rw[aC]at hg;simp[blk]at hg;subst hg;exact hS rfl o
  .exact(dn.2 g hg).1 rfl o
 have cV:All2 (oa S1 w) as zs:=rk S1 cS gE uA;have DR:All2 (oa S1 w) (caps.map pk) cv:=UN (lY.mono (λx z hx=>iX.keep cS hx));have hrefs:eF (as++caps.map pk) (zs++cv)=eF as zs:=by rw[UP _ _ _ _ hlen,UO,kx]
 have uB:(eF as zs).Nodup:=by rw[wD dm];have:=L4 hR dZ (λk hk=>by obtain⟨f,hf,rfl⟩:=jx.1 hk;exact tq dm f hf);rwa[List.filterMap_map]at this
 refine(ej w S1 (zs++cv) (cV.append DR) (by rw[hrefs];exact uB) bu.here).mono ?_
 rintro e w' ⟨ret,hK,v,S',vs,rfl,db⟩
 refine⟨ret,hK,λs u bR=>?_⟩;obtain⟨eR,bO,rH,oe,eu,jM,eJ,dA,fZ,fF,rC,mN,cL,py,rI⟩:=db;rw[hrefs]at fZ;have Md:mvOf (as++caps.map pk) (zs++cv)=mvOf as zs:=by rw[U2 _ _ _ _ hlen,U3,kx]
 rw[Md]at rH eJ;have lX:∀f∈fs,f.isMv=Ä->parK np f.name=false:=UR bz h;have eu:=yy hlen eu;refine⟨v,?_⟩;unfold tS at bR;split at bR
 ·-- the list yz first,cut short
  rename_i m Me;unfold mkHd at bR;generalize gF:ret.outs=ro at bR eu;split at bR
  .rename_i k e el UM y qH _;split at bR
   .rename_i uo ys rJ iq;split at bR
    .rename_i cU;simp only[jd]at cU;simp only[j5,j9]at bR;obtain⟨rfl,rfl⟩:=bR;have cI:=L6 bu jM eJ dA (λ_ h=>h) lX uz dZ rJ eu fZ fF rC mN cL;obtain⟨lj,oM⟩:=uy bu uz rJ eu;have ui:(uo.map (·.1)).Nodup:=by rw[lj];exact dZ
     have Mf:(k,BS.live (.lst e el ys J))∈uo:=by
      simp only[mE,GU,iq]at rJ;split at rJ
      .simp only[j5]at rJ;rw[<-rJ];exact z7
      .simp at rJ
     have fp:=wF uo (σ.upd us) ui Mf;obtain⟨bl,wG⟩:=Dn cU.2;have qF:=bz.par wG;have h0:=aZ.free cU.1;have h1:(σ.upd us).bx n = .free:=dt.free h0;have og:((σ.upd us).upd uo).bx n = .free:=by rw[kL uo,h1];rw[qv];intro y hy he;simp only[vg]at he;obtain⟨b0,h2,_⟩:=oM y hy;rw[he,h1]at h2;simp at h2
     obtain⟨ad,len,cap,fT,BF,mK⟩:=rI m Me;have yA:γ k = .slice ad len cap:=by have:=Hq dm (caps.map pk) cv;rw[fT]at this;simpa using this.symm
     have wA:len=ys.length:=by
      obtain⟨css,aQ,_⟩:=G4 yA (cI.box k _ fp);rcases aQ.2 with⟨aC,hn⟩|⟨g,ik,cur,aC,_⟩
      .rw[yA]at aC;simp only[Å]at aC;omega
      .rw[yA]at aC;simp only[Å]at aC;omega
     obtain⟨γ',dv,gL⟩:=Ŭ cI fp qF og (m:=m) aa (by rw[yA,wA]);refine⟨S',γ',rfl,by rw[jK,jK];exact dv,?_⟩;rw[eR,mK,jK,jK];exact gL
    .simp at bR
   .simp at bR
  .simp at bR
 ·-- the results as Mg lie
  rename_i ns sn Me;unfold C3 at bR;generalize gF:ret.outs=ro at bR eu;split at bR
  case h_2=>simp at bR
  split at bR
  case isFalse=>simp at bR
  rename_i cU;simp only[jd]at cU;simp only[j5,j9]at bR;obtain⟨rfl,rfl⟩:=bR;have cI:=L6 bu jM eJ dA (λ_ h=>h) lX uz dZ (uo:=[]) rfl eu fZ fF rC mN cL;have fj:∀x∈rawU ns sn,x.1∈ns:=λx hx=>(List.of_mem_zip hx).1
  obtain⟨γ',dU,BG,gC,dz⟩:=ŵ (h0:=w.heap.size) cI hR.grow (λk b g hb hg=>kK (bu.box k b hb) hg) (λg hg=>hR.kw_new hg) (py ns sn Me)
   (λx hx=>dt.free (aZ.free (jv.1 cU.2 x.1 (fj x hx)))) (by
    exact List.Nodup.sublist (U1 _ _) (yu cU.1))
  refine⟨S',γ',rfl,by rw[jK];exact dU,?_⟩;rw[gC,jK];exact U0 dz
 split at bR
 .rename_i uo rJ;split at bR
  .rename_i mO un jC;split at bR
   .rename_i bq;have bq:=Ź aZ bq
    have dP:∀(lZ:Ups)(Sx Sy:aY),(lZ=us\/lZ=[])->Rel N np S0 w0 refs (σ.upd lZ) a w Sx γ->dH Sx w Sy w'->(∀g o,Sy g o->Sx g o\/w.heap.size<=g\/g∈mvOf as zs)->(∀g o,Sy g o->g<w'.heap.size)->
      lV Sy w' as zs ret.outs->All2 (qG Sy w') ret.vals vs->
      ∃S' γ',Rel N np S0 w0 refs (σ.upd (lZ++uo++un)) a w' S' γ'/\All2 (bQ S' w' γ' (σ.upd (lZ++uo++un)).bx) mO vs:=by
     intro lZ Sx Sy uC uD rK DS yB wH DT
     have uE:gM (σ.upd lZ).bx γ as zs fs:=by
      rcases uC with rfl|rfl
      .exact uz
      .exact dm
     have cI:=L6 uD rK DS yB (λ_ h=>h) lX uE dZ rJ wH fZ fF rC mN cL;obtain⟨lj,oM⟩:=uy uD uE rJ wH
     have rL:∀k b,((σ.upd lZ).upd uo).bx k = .live b->∃b',(σ.upd lZ).bx k = .live b':=by
      intro k b hb;by_cases hk:uo.any (λy=>y.1==k)=Ä
      .obtain⟨x,hx,he⟩:=zg.1 hk;have he:x.1=k:=by simpa using he
       subst he;obtain⟨b0,h0,_⟩:=oM x hx;exact⟨b0,h0⟩
      .rw[kL uo _ (ky.2 hk)]at hb;exact⟨b,hb⟩
     have og:∀x∈un,((σ.upd lZ).upd uo).bx x.1 = .free:=by
      intro x hx;have h0:=bq x hx
      have h1:(σ.upd lZ).bx x.1 = .free:=by
       rcases uC with rfl|rfl
       .exact dt.free h0
       .exact h0
      rw[kL uo,h1];rw[qv];intro y hy he;simp only[vg]at he;obtain⟨b0,h2,_⟩:=oM y hy;rw[he,h1]at h2;simp at h2
     obtain⟨γ',dU,_,od⟩:=UY cI jC DT og oe (λg hg=>by
      rcases rH g hg with mu|Ż
      .refine⟨⟨.inl (ko hR.grow mu),hR.kw_new mu⟩,λk b hb he=>?_⟩;obtain⟨b',aU⟩:=rL k b hb;have:=kK (uD.box k b' aU) he;omega
      .obtain⟨f,hf,Ho,px⟩:=wE uE Ż;obtain⟨bf,BH⟩:=tq uE f hf;refine⟨⟨?_,uD.kw_live BH px⟩,λk b hb he=>?_⟩
       .rcases uD.own f.name bf g BH px with h|h
        .exact h
        .rw[lX f hf Ho]at h;simp at h
       .obtain⟨b',aU⟩:=rL k b hb
        have ż:k≠f.name:=by
         rintro rfl
         have DU:=Hr rJ hf Ho;rw[wF uo (σ.upd lZ) (by rw[lj];exact dZ) DU]at hb;simp at hb
        exact uD.apart k f.name b' bf g ż aU BH he px)
     refine⟨Sy,γ',?_,?_⟩
     .rw[jK,jK];exact dU
     .rw[jK,jK];exact od
    have cP:∃lZ,(lZ=us\/lZ=[])/\lZ=(if ret.vals.all RV.flat&&ret.outs.all Out.flat then [] else us)/\
      ∃S' γ',Rel N np S0 w0 refs (σ.upd (lZ++uo++un)) a w' S' γ'/\All2 (bQ S' w' γ' (σ.upd (lZ++uo++un)).bx) mO vs:=by
     by_cases mQ:(ret.vals.all RV.flat&&ret.outs.all Out.flat)=Ä
     .refine⟨[],.inr rfl,by rw[if_pos mQ],?_⟩;obtain⟨nS,rm⟩:=Bool.and_eq_true_iff.1 mQ;have fj:∀g o,S g o->S' g o:=λg o hs=>(jM g o (cS g o hs).1).1
      refine dP [] S S (.inr rfl) hR (λg o hs=>⟨hs,(jM g o (cS g o hs).1).2⟩) (λg o hs=> .inl hs) (λg o hs=>qd (hR.here g o hs) fF)
       (BE (S1:=S1) fj rm eu) (UZ fj nS bO)
     .exact⟨us,.inl rfl,by rw[if_neg mQ],dP us S1 S' (.inl rfl) bu jM eJ dA eu bO⟩
    obtain⟨lZ,_,uC,S2,γ2,cI,wI⟩:=cP
    have hs:s=C2 mO/\u=(if ret.vals.all RV.flat&&ret.outs.all Out.flat then [] else us)++uo++un:=by
     clear wI dP cI jC;revert bR;match mO with
     |[c]=>simp only[j5,j9];rintro⟨rfl,rfl⟩;exact⟨rfl,rfl⟩
     |[]=>simp only[j5,j9];rintro⟨rfl,rfl⟩;exact⟨rfl,rfl⟩
     |c::c'::r=>simp only[j5,j9];rintro⟨rfl,rfl⟩;exact⟨rfl,rfl⟩
    obtain⟨rfl,rfl⟩:=hs;rw[<-uC];exact⟨S2,γ2,rfl,cI,by rw[eR];exact U0 wI⟩
   .simp at bR
  .simp at bR
 .simp at bR
theorem DV{P:Z}{f:H}(hf:Fun P f){o:Oper}{cl:Call}(ho:o.op = .call cl){x:ý}(hc:cl.callee = .value x){cv:Ë G}(hx:a.eval x = .func (.func f) #[] cv) :
  (execOp a.eval o).run P w = .ok (.enter f (cl.args.map a.eval++cv)) w:=by
 obtain⟨fn,h1,h2,h3⟩:=hf;have lP:¬fn.body=none:=λhn=>by rw[hn]at h2;simp at h2
 have rM : ¬ fn.name = "runtime.NumGoroutine" := by simpa using h3
 simp[execOp,ho,resolve,hc,Deferred.ofValue,hx,invoke,callFunc,h1,lP,rM]
end
section
variable{N:NT}{np:H}{S0:aY}{w0:Á}{refs:Refs}{σ:St}{a:ß}{w:Á}{S:aY}{γ:H->G}
def keyV:(k:Ty)->k.den->G
 |.int q,n=> .int q n
 |.str,s=> .string s
 |_,_=>undef
theorem BI:∀{k:Ty}{x:k.den}{u:G},k.isKey=Ä->(Rep S w k x [u]↔u=keyV k x)
 |.int q,x,u,_=>by simp[Rep,keyV]
 |.str,x,u,_=>by simp[Rep,keyV]
 |.bool,_,_,h=>by simp[Ty.isKey]at h
 |.unit,_,_,h=>by simp[Ty.isKey]at h
 |.wrap _,_,_,h=>by simp[Ty.isKey]at h
 |.pair _ _,_,_,h=>by simp[Ty.isKey]at h
 |.list _,_,_,h=>by simp[Ty.isKey]at h
 |.arr _ _,_,_,h=>by simp[Ty.isKey]at h
def keyD:Ty->TypeDesc
 |.int q=> .int q
 |_=> .string
theorem Ž{P:Z}{T:H->À TyI}(hT:cJ P T){n:H}{ti:TyI}(hn:T n=D ti){k:Ty}(bG:ti.ty=D k)(hk:k.isKey=Ä):P.underlying n=D (keyD k):=by
 cases k with
 |int q=>exact Lw hT hn bG
 |str=>exact LF hT hn bG
 |_=>simp[Ty.isKey]at hk
theorem U5{k:Ty}(hk:k.isKey=Ä)(x:k.den):MapKept.IsKey (keyD k) (keyV k x):=by
 cases k with
 |int q=>rfl
 |str=>trivial
 |_=>simp[Ty.isKey]at hk
theorem Mh{k:Ty}(hk:k.isKey=Ä)(x y:k.den):ô (keyD k) (keyV k x) (keyV k y)=D (@BEq.beq _ k.keq x y):=by
 cases k with
 |int q=>simp[keyD,keyV,ô]
 |str=>simp[keyD,keyV,ô]
 |_=>simp[Ty.isKey]at hk
theorem ž{k:Ty}(hk:k.isKey=Ä){x y:k.den}(h:@BEq.beq _ k.keq x y=Ä):x=y:=by
 cases k with
 |int q=>simpa[Ty.keq]using h
 |str=>exact(é x y).1 h
 |_=>simp[Ty.isKey]at hk
theorem U6{k:Ty}(hk:k.isKey=Ä)(x:k.den):ï 10000 (keyV k x) (keyV k x)=true:=by
 cases k with
 |int q=>simp[keyV,ï]
 |str=>simp only[keyV,ï];exact(é x x).2 rfl
 |_=>simp[Ty.isKey]at hk
def DW(S:aY)(w:Á)(k v:Ty)(x:k.den×v.den)(e:MapEntry):Prop:=Rep S w k x.1 [e.key]/\VRep S w ⟨v,x.2⟩ e.val
theorem Mi{k v:Ty}(hk:k.isKey=Ä)(q:k.den):∀{xs:F (k.den×v.den)}{es:F MapEntry},All2 (DW S w k v) xs es->∀i:H,
  (@jH _ _ k.keq xs q=Ä/\∃j e,Û (keyD k) (keyV k q) es i=D (D (i+j,e.val))/\es[j]? = D e/\e.key=keyV k q/\VRep S w ⟨v,@hQ _ _ k.keq v.dflt xs q⟩ e.val/\
   ∀(z:v.den)(e':MapEntry),e'.key=keyV k q->VRep S w ⟨v,z⟩ e'.val->All2 (DW S w k v) (@iI _ _ k.keq xs q z) (es.set j e'))\/
  (@jH _ _ k.keq xs q=J/\Û (keyD k) (keyV k q) es i=D M/\@hQ _ _ k.keq v.dflt xs q=v.dflt/\∀z,@iI _ _ k.keq xs q z=xs++[(q,z)])
 |[],[],_,i=> .inr ⟨rfl,rfl,rfl,λ_=>rfl⟩
 |x::xs,e::es,h,i=>by
  have tt:e.key=keyV k x.1:=(BI hk).1 h.1.1;have hs:=Mh hk q x.1;rw[<-tt]at hs;cases hb:@BEq.beq _ k.keq q x.1 with
  |true=>
   rw[hb]at hs;have ſ:=ž hk hb;refine .inl ⟨by simp[jH,hb],0,e,by simp[Û,hs],rfl,by rw[tt,ſ],?_,λz e' h1 h2=>?_⟩
   .simp only[hQ,hb,j6];exact h.1.2
   .simp only[iI,hb,j6,à];exact⟨⟨(BI hk).2 h1,h2⟩,h.2⟩
  |false=>
   rw[hb]at hs;rcases Mi hk q h.2 (i+1) with⟨h1,j,e',h2,h3,h4,h5,h6⟩|⟨h1,h2,h3,h4⟩
   .refine .inl ⟨by simp only[jH,ã,hb,yg];exact h1,j+1,e',by simp only[Û,hs,h2];congr 3;omega,by simpa using h3,h4,?_,λz e2 g1 g2=>?_⟩
    .simp only[hQ,hb,j7];exact h5
    .simp only[iI,hb,j7,List.set_cons_succ];exact⟨h.1,h6 z e2 g1 g2⟩
   .refine .inr ⟨by simp only[jH,ã,hb,yg];exact h1,by simp only[Û,hs,h2],?_,λz=>?_⟩
    .simp only[hQ,hb,j7];exact h3
    .simp only[iI,hb,j7,h4 z];rfl
 |[],_::_,h,_=>h.elim
 |_::_,[],h,_=>h.elim
theorem U7{k v:Ty}(hk:k.isKey=Ä){q:k.den}:∀{xs:F (k.den×v.den)}{es:F MapEntry},All2 (DW S w k v) xs es->@jH _ _ k.keq xs q=J->∀e∈es,e.key≠keyV k q
 |[],[],_,_=>ae
 |x::xs,e::es,h,hn=>by
  simp only[jH,ã,vv]at hn;intro e' Mj;rcases je.1 Mj with rfl|Mj
  .intro hq;have tt:=(BI hk).1 h.1.1;have hs:=Mh hk q x.1;rw[<-tt,hq,Mh hk q q,hn.1]at hs;simp only[j5]at hs;have:=U6 hk q;cases k with
   |int z=>simp at hs
   |str=>have:=(é q q).2 rfl;exact absurd (hs.symm.trans this) ae
   |_=>simp[Ty.isKey]at hk
  .exact U7 hk h.2 hn.2 e' Mj
 |[],_::_,h,_=>h.elim
 |_::_,[],h,_=>h.elim
theorem U8{P:Z}{T:H->À TyI}(hT:cJ P T){t:H}{k v:Ty}(h:xF T t=D (k,v)) :
  ∃kt vt tv,P.underlying t=D (.map kt vt)/\P.underlying kt=D (keyD k)/\k.isKey=Ä/\T vt=D tv/\tv.ty=D v:=by
 unfold xF at h;split at h
 .rename_i ti Bj;split at h
  .rename_i k0 v0 hmp;split at h
   .rename_i tk tv pz BJ;split at h
    .rename_i k1 v1 dj hv1;split at h
     .rename_i mR;simp only[j5,j9]at h;obtain⟨rfl,rfl⟩:=h;exact⟨k0,v0,tv,Ĭ hT Bj hmp,Ž hT pz dj mR,mR,BJ,hv1⟩
     .simp at h
    .simp at h
   .simp at h
  .simp at h
 .simp at h
theorem U9{rw:H->BS}(kE:RdR σ rw){t:H}{k v:Ty}{x y:Leaf}{b:H}{ys:F (k.den×v.den)}{q:k.den}(h:mapC rw t k v x y=D (b,ys,q)) :
  x = .ol b/\y = .d k q/\σ.bx b = .live (.lst (4294967296+t) (.pair k v) ys J):=by
 unfold mapC at h;split at h
 .rename_i b0 tk key;split at h
  .rename_i e a0 xs hb;split at h
   .rename_i he;split at h
    .rename_i Lh q' h1 h2;simp only[j5,j9]at h;obtain⟨rfl,rfl,rfl⟩:=h;have e1:=nv h1;have e2:=nv h2;cases e1;cases e2;subst he;exact⟨rfl,rfl,kE.live hb⟩
    .simp at h
   .simp at h
  .simp at h
 .simp at h
theorem DX(t:H):isM (4294967296+t)=true:=by
 unfold isM;rw[Nat.ble_eq];exact Nat.le_add_right _ _
theorem Va(hR:Rel N np S0 w0 refs σ a w S γ){b t:H}{k v:Ty}{ys:F (k.den×v.den)}{f:Ø}(hb:σ.bx b = .live (.lst (4294967296+t) (.pair k v) ys f)) :
  ∃g es clock,γ b = .map (D g)/\w.heap[g]? = D (.map es clock)/\All2 (DW S w k v) ys es.toList/\Ls es clock:=by
 have h:=(hR.box b _ hb).1;rcases h with⟨hm,_⟩|⟨_,g,es,clock,h1,h2,h3,h4⟩
 .rw[DX]at hm;simp at hm
 .exact⟨g,es,clock,h1,h2,h3,h4⟩
theorem jyx{P:Z}{T:H->À TyI}(hT:cJ P T){n:H}{ti:TyI}(hn:T n=D ti){t:Ty}(bG:ti.ty=D t):∃z,(zeroValue n).run P w = .ok z w/\VRep S w ⟨t,t.dflt⟩ z:=by
 obtain⟨i,d,hi,hd,hs,_,ha,_,h⟩:=nu hT hn;obtain⟨_,⟨z,hz,hc⟩,hdo⟩:=h t bG;have Vb:=ĭ hT hn hi hd;refine⟨z,by simp[zeroValue,typeInfo,hi,hz],?_,?_,?_⟩
 .rw[hc];exact qE t
 .intro hm;have:aggD d=true:=by cases d<;>cases t<;>simp_all[lN,kI,aggD,Ty.agg]
  simp only[zOk,hz]at Vb;cases z<;>simp_all
 .intro hm;have:aggD d=false:=by cases d<;>cases t<;>simp_all[lN,kI,aggD,Ty.agg]
  simp only[zOk,hz]at Vb;cases z<;>first|rfl|simp_all
theorem jtU{P:Z}{E:Env}(hT:cJ P E.T)(hR:Rel N np S0 w0 refs σ a w S γ){rw:H->BS}(kE:RdR σ rw){t:H}{k v:Ty}(ht:xF E.T t=D (k,v)){x y:Leaf}{b:H}{ys:F (k.den×v.den)}{q:k.den}
  (h:mapC rw t k v x y=D (b,ys,q)){zx zy:G}(hx:bF S w γ σ.bx x zx)(hy:bF S w γ σ.bx y zy) :
  ∃z,VRep S w ⟨v,@hQ _ _ k.keq v.dflt ys q⟩ z/\∀ok,(ö t zx zy ok).run P w = .ok (if ok then .tuple #[z,.bool (@jH _ _ k.keq ys q)] else z) w:=by
 obtain⟨kt,vt,tv,jN,yC,mR,BJ,DY⟩:=U8 hT ht;obtain⟨rfl,rfl,hb⟩:=U9 kE h;obtain⟨g,es,clock,hg,hh,ha,_⟩:=Va hR hb;have Mk:zx = .map (D g):=(hx.2.2 _ hb).trans hg;have Ml:zy=keyV k q:=(BI mR).1 hy;subst Mk;subst Ml;have rN:=ð (w:=w) yC (U5 mR q) es.isEmpty 9999;rcases Mi mR q ha 0 with⟨h1,j,e,h2,h3,h4,h5,h6⟩|⟨h1,h2,h3,h4⟩
 .refine⟨e.val,h5,λok=>?_⟩;have hf:=Ô (w:=w) yC h2;simp only[ö,U,run_underlying jN,I,Î hh,Ã,rN,hf,h1]
 .obtain⟨z,hz,hzv⟩:=jyx (S:=S) (w:=w) hT BJ DY;refine⟨z,by rw[h3];exact hzv,λok=>?_⟩;have hf:=Ô (w:=w) yC h2;simp only[ö,U,run_underlying jN,I,Î hh,Ã,rN,hf,h1,hz]
theorem jyy(hR:Rel N np S0 w0 refs σ a w S γ){k:H}{b b':Bx}(hk:σ.bx k = .live b){g:H}(hg:blk (γ k)=D g)(hS:∀o,¬S g o)(oH:kZ b b')
  {w':Á}(uF:∀i,i≠g->w'.heap[i]? = w.heap[i]?)(cm:w'.heap.size=w.heap.size)(rC:w'.os=w.os)(Hs:w'.tape=w.tape)(cL:w'.output=w.output)
  (hb:BxLe γ σ.bx γ (σ.setB k (.live b')).bx->dH S w S w'->eZ S w' γ (σ.setB k (.live b')).bx k b') :
  Rel N np S0 w0 refs (σ.setB k (.live b')) a w' S γ:=by
 have hle:BxLe γ σ.bx γ (σ.setB k (.live b')).bx:=by
  intro k' bn;by_cases cg:k'=k
  .subst cg;rw[fD];exact⟨ae,rfl,λb1 dF=>by simp at dF;subst dF;exact⟨b,hk,oH⟩⟩
  .rw[cE σ _ cg];exact⟨bn,rfl,λb hb=>⟨b,hb,.refl b⟩⟩
 have aV:dH S w S w':=by
  intro g' o h;refine⟨h,Ò (uF g' ?_)⟩
  rintro rfl
  exact hS o h
 have bS:∀k' b1,(σ.setB k (.live b')).bx k' = .live b1->∃b2,σ.bx k' = .live b2:=by
  intro k' b1 h1;by_cases cg:k'=k
  .subst cg;exact⟨b,hk⟩
  .rw[cE σ _ cg]at h1;exact⟨b1,h1⟩
 refine Rel.step (bx':=(σ.setB k (.live b')).bx) hR aV hle ?_ ?_ ?_ hR.new ?_ ?_ ?_ (rC.trans hR.os) (Hs.trans hR.tape) (cL.trans hR.output) (λg' _ _ h=>⟨uF g' (λe=>h k b hk (e▸hg)),λk' b1 h1=>by
  obtain⟨b2,h2⟩:=bS k' b1 h1;exact h k' b2 h2⟩)
 .intro k' b1 h1;by_cases cg:k'=k
  .subst cg;rw[fD]at h1;simp at h1;subst h1;exact hb hle aV
  .rw[cE σ _ cg]at h1;refine eZ.keep aV hle rfl (λg' aC=>⟨?_,λ_=>â⟩) (hR.box k' b1 h1);exact uF g' (λh=>hR.apart k' k b1 b g cg h1 hk (h▸aC) hg)
 .intro k' b1 g' h1 aC;obtain⟨b2,h2⟩:=bS k' b1 h1;exact hR.own k' b2 g' h2 aC
 .intro k1 k2 b1 b2 g' br h1 h2 aC;obtain⟨ud,nw⟩:=bS k1 b1 h1;obtain⟨ue,lP⟩:=bS k2 b2 h2;exact hR.apart k1 k2 ud ue g' br nw lP aC
 .intro g' o h;rw[cm];exact hR.here g' o h
 .intro g' aC hr;rw[uF g' ?_]
  .exact hR.below g' aC hr
  .rintro rfl
   rcases hR.own k b _ hk hg with h|h
   .exact h.no aa hr
   .exact hr h.1
 .rw[cm];exact hR.grow
theorem jwT{P:Z}{E:Env}(hT:cJ P E.T)(hR:Rel N np S0 w0 refs σ a w S γ){rw:H->BS}(kE:RdR σ rw){t:H}{k v:Ty}(ht:xF E.T t=D (k,v)){x y:Leaf}{b:H}{ys:F (k.den×v.den)}{q:k.den}
  (h:mapC rw t k v x y=D (b,ys,q)){zx zy zz:G}(hx:bF S w γ σ.bx x zx)(hy:bF S w γ σ.bx y zy){rdf:H->BS}(bz:RdF np σ rdf){c:Cel}{z:v.den}{u:Ups}(hd:oE rdf v c=D (z,u))(hz:bQ S w γ σ.bx c zz) :
  ∃w' S',(Þ t zx zy zz).run P w = .ok () w'/\Rel N np S0 w0 refs (σ.upd (u++[(b,.live (.lst (4294967296+t) (.pair k v) (@iI _ _ k.keq ys q z) J))])) a w' S' γ:=by
 obtain⟨kt,vt,tv,jN,yC,mR,BJ,DY⟩:=U8 hT ht;obtain⟨rfl,rfl,hb⟩:=U9 kE h;obtain⟨fB,bO,_⟩:=Bn bz hR.box hd hz;obtain⟨S1,bu,cS,gE,dt⟩:=nR u σ S hR fB;have DZ:u.any (λy=>y.1==b)=false:=by rw[qv];intro y hy Mm;obtain⟨_,e,t',xs,f,h1,_,hm⟩:=fB y hy;rw[show y.1=b by simpa using Mm,hb]at h1;cases h1;rw[DX]at hm;simp at hm
 have dF:(σ.upd u).bx b = .live (.lst (4294967296+t) (.pair k v) ys J):=(kL u σ DZ).trans hb;obtain⟨g,es,clock,hg,hh,ha,hq⟩:=Va bu dF;have Mk:zx = .map (D g):=(hx.2.2 _ hb).trans hg;have Ml:zy=keyV k q:=(BI mR).1 hy;subst Mk;subst Ml;have Vc:=bO S1 w cS gE;have wJ:blk (γ b)=D g:=by rw[hg];rfl
 have hS:∀o,¬S1 g o:=((bu.box b _ dF).2 g wJ).1 rfl;have rN:=ð (w:=w) yC (U5 mR q) J 9999
 have main:∃uG l5,(Þ t (.map (D g)) (keyV k q) zz).run P w = .ok () { w with heap:=w.heap.setIfInBounds g (.map uG l5) }/\All2 (DW S1 w k v) (@iI _ _ k.keq ys q z) uG.toList/\Ls uG l5:=by
  rcases Mi mR q ha 0 with⟨h1,j,e,h2,h3,h4,h5,h6⟩|⟨h1,h2,h3,h4⟩
  .have hf:=Ô (w:=w) yC h2;rw[kb]at hf;refine⟨es.modify j λe=>{ e with key:=keyV k q,val:=zz },clock,?_,?_,MapKept.stamped_modify hq.1 j _ (λ_ _=>rfl) (λe1 _ yD=>?_),?_⟩
   .have rO:((es[j]?).map (·.key)).getD (keyV k q)=keyV k q:=by rw[show es[j]? = D e by simpa using h3];exact h4
    simp only[Þ,U,run_underlying jN,I,Î hh,rN,hf,Instr.keyThatStays,rO,U6 mR q,if_true,Ã,ì _ hh]
   .have e1:(es.modify j λe=>{ e with key:=keyV k q,val:=zz }).toList=es.toList.set j { e with key:=keyV k q,val:=zz }:=by
     refine vu λi=>?_;rw[kv,í,List.getElem?_set];have rM:es[j]? = D e:=by simpa using h3
     by_cases eh:j=i
     .subst eh;simp only[if_true,rM,kn];rw[if_pos (by simpa using (jh.1 rM).1)]
     .simp[eh]
    rw[e1];exact h6 z _ rfl Vc
   .rw[show es[j]? = D e by simpa using h3]at yD;cases yD;exact h4.symm
   .rw[<-hq.2];refine vu λi=>?_;rw[qg,qg,kv,kv,í];split
    .rename_i eh;subst eh;cases es[j]? <;> rfl
    .rfl
  .have hf:=Ô (w:=w) yC h2;refine⟨es.push { key:=keyV k q,val:=zz,born:=clock },clock+1,?_,?_,MapKept.stamped_push hq.1 (U7 mR ha h1),by rw[ú,List.map_append,hq.2,þ];rfl⟩
   .simp only[Þ,U,run_underlying jN,I,Î hh,rN,hf,ì _ hh]
   .rw[h4 z,ú];exact ha.append ⟨⟨(BI mR).2 rfl,Vc⟩,trivial⟩
 obtain⟨uG,l5,aR,ay,DB⟩:=main;have aq:g<w.heap.size:=(jh.1 hh).1;refine⟨_,S1,aR,?_⟩;rw[jK];refine jyy bu dF wJ hS (b':= .lst (4294967296+t) (.pair k v) (@iI _ _ k.keq ys q z) J) ⟨rfl,rfl,λhm=>by rw[DX]at hm;simp at hm⟩ (λi hi=>by simp[Ne.symm hi]) ae rfl rfl rfl λhle aV=>?_;refine⟨.inr ⟨DX t,g,uG,l5,hg,by simp[aq],ay.mono λx e hx=>⟨Rep.keep aV _ _ _ hx.1,VRep.keep aV hx.2⟩,DB⟩,λg' aC=>?_⟩;rw[wJ]at aC;simp at aC;subst aC;exact⟨λ_=>hS,λh=>by simp at h⟩
theorem jwU{P:Z}(hR:Rel N np S0 w0 refs σ a w S γ){n t:H}{k v:Ty}(hn:σ.bx n = .free) :
  ∃γ',(Instr.makeMap t M).run P w = .ok (.map (D w.heap.size)) (w.alloc (.map #[] 0))/\Rel N np S0 w0 refs (σ.setB n (.live (.lst (4294967296+t) (.pair k v) [] J))) a (w.alloc (.map #[] 0)) S γ'/\
   bQ S (w.alloc (.map #[] 0)) γ' (σ.setB n (.live (.lst (4294967296+t) (.pair k v) [] J))).bx (.one (.ol n)) (.map (D w.heap.size)):=by
 have DZ:=Ha hR hn (o:= .map #[] 0) (b:= .lst (4294967296+t) (.pair k v) [] J) (v:= .map (D w.heap.size)) (λg hg=>by simp[blk]at hg;exact hg.symm) (λhle=>by
  refine⟨.inr ⟨DX t,w.heap.size, #[],0,eN _ _ _,heap_alloc_new w _,trivial,MapKept.stamped_empty 0,rfl⟩,λg hg=>?_⟩;rw[eN]at hg;simp[blk]at hg;subst hg;exact⟨λ_ o ho=>by have:=hR.here _ o ho;omega,λh=>by simp at h⟩)
 refine⟨_,rfl,DZ.1,⟨?_,rfl,λb hb=>(eN _ _ _).symm⟩,λ_=>rfl⟩;rw[fD];simp
end
section
variable{N:NT}{np:H}{S0:aY}{w0:Á}{refs:Refs}{σ:St}{a:ß}{w:Á}{S:aY}{γ:H->G}
theorem jwV{P:Z}{E:Env}(hT:cJ P E.T)(hR:Rel N np S0 w0 refs σ a w S γ){rdf:H->BS}(bz:RdF np σ rdf){t:È}{ti:TyI}(ht:E.T t=D ti)
  {m:H}{el:Ty}(bG:ti.ty=D (.arr m el)){ps:F (H×Cel)}{vs:Ë (H×G)}{xs:F el.den}{u:Ups}
  (ib:All2 (λp v=>p.1=v.1/\bQ S w γ σ.bx p.2 v.2) ps vs.toList)(h:lI rdf el (O m el.dflt) [] ps=D (xs,u)) :
  ∃v S',(Ú t vs).run P w = .ok v w/\Rel N np S0 w0 refs (σ.upd u) a w S' γ/\bQ S' w γ (σ.upd u).bx (.av m el xs) v:=by
 obtain⟨jN,bK,te,dy,wK⟩:=Bi hT ht bG;have cm:=mG hT dy wK;obtain⟨z,hz,ia⟩:=xP hT ht w bG;obtain⟨fB,fh⟩:=LU bz hR.box bK ps vs.toList ib h .nil;obtain⟨S1,bu,cS,gE,dt⟩:=nR u σ S hR fB;obtain⟨UG,css,ay,mQ⟩:=qE (S:=S1) (w:=w) (.arr m el);obtain⟨bL,lT,fX,jO,ei⟩:=fh S1 cS gE css z.cells ay (by rw[ia];exact mQ);have hlen:∀(ps:F (H×Cel)){xs du:F el.den}{u u':Ups},lI rdf el xs u ps=D (du,u')->du.length=xs.length:=by intro ps;induction ps<;>grind[lI]
 have oJ:xs.length=m:=by grind
 refine⟨.agg bL,S1,?_,bu,bL,rfl,oJ,lT,jO,ei⟩;simp only[Ú,U,hz,I,run_underlying jN,jJ hT dy,<-cm,fX,Ã]
theorem jwW{P:Z}{E:Env}(hT:cJ P E.T){bx:H->BS}{t:È}{ti:TyI}(ht:E.T t=D ti){m:H}{el:Ty}(bG:ti.ty=D (.arr m el)) :
  ∃v,(Ú t #[]).run P w = .ok v w/\bQ S w γ bx (.st (oD (.arr m el))) v:=by
 obtain⟨jN,bK,te,dy,wK⟩:=Bi hT ht bG;obtain⟨z,hz,ia⟩:=xP hT ht w bG;refine⟨.agg z.cells,?_,z.cells,rfl,by grind[wo],λu hu=>Hh ia u (by simpa using hu)⟩;simp only[Ú,U,hz,I,run_underlying jN,jJ hT dy];rfl
theorem Vd{rd:H->BS}(aZ:RdF np σ rd)(hB:wj S w γ σ.bx){el:Ty}:∀{ls:F Leaf}{xs:F el.den}{u:Ups}{zs:F G},tP rd el ls=D (xs,u)->All2 (bF S w γ σ.bx) ls zs->
  FrzL np σ.bx u/\∀S' w',dH S w S' w'->Froz σ.bx γ S' w' u->All2 (λx z=>Rep S' w' el x [z]) xs zs
 |[],xs,u,zs,h,ha=>by
  simp[tP]at h;obtain⟨rfl,rfl⟩:=h;cases zs with
  |nil=>exact⟨.nil,λ_ _ _ _=>trivial⟩
  |cons _ _=>exact ha.elim
 |l::ls,xs,u,zs,h,ha=>by
  cases zs with
  |nil=>exact ha.elim
  |cons z zs=>
   simp only[tP]at h;split at h
   .rename_i x u1 Hj u2 h1 h2;simp only[j5,j9]at h;obtain⟨rfl,rfl⟩:=h;obtain⟨f1,p1⟩:=wk aZ hB h1 ha.1;obtain⟨f2,p2⟩:=Vd aZ hB h2 ha.2;exact⟨FrzL.app.2 ⟨f1,f2⟩,λS' w' hk hf=>⟨p1 S' w' hk (Froz.app.1 hf).1,p2 S' w' hk (Froz.app.1 hf).2⟩⟩
   .simp at h
theorem Ve{el:Ty}{S':aY}{w':Á}:∀{xs:F el.den}{zs:F G},All2 (λx z=>Rep S' w' el x [z]) xs zs->∃css,All2 (λx c=>Rep S' w' el x c) xs css/\zs=css.flatten
 |[],[],_=>⟨[],trivial,rfl⟩
 |x::xs,z::zs,h=>by
  obtain⟨css,h1,h2⟩:=Ve h.2;exact⟨[z]::css,⟨h.1,h1⟩,by simp[h2]⟩
 |[],_::_,h=>h.elim
 |_::_,[],h=>h.elim
theorem jyz{P:Z}{E:Env}(hT:cJ P E.T)(hR:Rel N np S0 w0 refs σ a w S γ){rd rdf:H->BS}(aZ:RdOk σ rd)(bz:RdF np σ rdf){t:È}{ti:TyI}(ht:E.T t=D ti)
  {x:Leaf}{m:H}{el:Ty}{ls:F Leaf}{xs:F el.den}{u:Ups}{v:G}(h:tQ rd ti.ty x=D (m,el,ls))(hg:tP rdf el ls=D (xs,u))(hl:xs.length=m)(hx:bF S w γ σ.bx x v) :
  ∃z S',(Instr.loadAt t v).run P w = .ok z w/\Rel N np S0 w0 refs (σ.upd u) a w S' γ/\bQ S' w γ (σ.upd u).bx (.av m el xs) z:=by
 unfold tQ at h;split at h
 .rename_i k;split at h
  .rename_i m' Hc bG;split at h
   .split at h
    .rename_i ls' hk;simp only[j5,j9]at h;obtain⟨rfl,rfl,rfl⟩:=h;have hk:=aZ.live hk;obtain⟨g,aC,hu⟩:=hx.2.2 _ hk;obtain⟨g',cur,e,gw,hh,ha,h1,_⟩:=hR.box k _ hk;rw[aC]at gw;simp at gw;subst gw;obtain⟨fB,fh⟩:=Vd bz hR.box hg ha;obtain⟨S1,bu,cS,gE,dt⟩:=nR u σ S hR fB;obtain⟨css,ay,c9⟩:=Ve (fh S1 w cS gE);have bO:Rep S1 w (.arr m' Hc) xs (cur.toList.take ls'.length):=⟨hl,css,ay,c9⟩;obtain⟨LC,_,_⟩:=Bi hT ht bG;have cm:(cur.toList.take ls'.length).length=ti.size:=by have:=Rep.length _ _ _ bO;rw[mG hT ht bG]at this;exact this
     refine⟨.agg (cur.toList.take ls'.length).toArray,S1,?_,bu,(cur.toList.take ls'.length).toArray,rfl,by simpa using bO⟩;subst hu
     have Ht:=Ud (w:=w) (g:=g) (o:=0) (cs:=cur.toList.take ls'.length) (λj v hv=>by
      grind[cell_of_row]) P
     rw[cm]at Ht;have nQ:(isAgg t).run P w = .ok Ä w:=by simp[isAgg,run_underlying LC]
     simp only[Instr.loadAt,U,Instr.sureAddr,Ã,I,loadVar,nQ,if_true,jJ hT ht,Ht]
    .simp at h
   .simp at h
  .simp at h
 .simp at h
def Slot.bare:Slot->Ø
 |.cnd _ _ _=>J
 |_=>Ä
theorem jsc{fr:Ø}{e:H}{b:Ty}{n len:H}{ps:F (H×Cel)}{f:H}{args:F Arg}{mk:Ret->À (Slot×Ups)}:one1 fr e b n len ps≠D (.call f args mk):=by
 unfold one1;grind
theorem Vf(cs:F Cel):(C2 cs).bare=true:=by
 unfold C2;split<;>rfl
theorem Vg(hR:Rel N np S0 w0 refs σ a w S γ){act:F (H×Ø)}(bg:re (tm a) act)(ps:F (H×ý)) :
  All2 (λp v=>p.1=v.1/\bQ S w γ σ.bx p.2 v.2) (ps.map λp=>(p.1,(σ.ev p.2).cel act)) (ps.map λp=>(p.1,a.eval p.2)):=by
 induction ps with
 |nil=>trivial
 |cons p ps ih=>exact⟨⟨rfl,eQ hR bg p.2⟩,ih⟩
theorem Hu(hR:Rel N np S0 w0 refs σ a w S γ){act:F (H×Ø)}(bg:re (tm a) act)(ps:F ý) :
  All2 (bQ S w γ σ.bx) (ps.map λp=>(σ.ev p).cel act) (ps.map a.eval):=by
 induction ps with
 |nil=>trivial
 |cons p ps ih=>exact⟨eQ hR bg p,ih⟩
theorem yE{rd:H->BS}(aZ:RdOk σ rd):RdF np σ (λk=>if parK np k then .gone else rd k):=by
 refine⟨λk=>?_,λk e a xs f h=>?_⟩
 rotate_left
 .dsimp only at h
  split at h
  .simp at h
  .exact aZ.2 k e a xs f h
 dsimp only
 split
 .exact .inr rfl
 .rename_i hp;rcases aZ.1 k with h|h;all_goals simp_all
theorem wL{P:Z}{o:Oper}{l:Leaf}{v:G}(hR:Rel N np S0 w0 refs σ a w S γ)(hr:(execOp a.eval o).run P w = .ok (.value v) w)
  (hs:bF S w γ σ.bx l v)(h1:One v):Lx P N np S0 w0 refs o σ a w S γ (.one (.one l)) []:=
 lO hR hr ⟨hs,λ_=>h1⟩
theorem yF{c:Cel}{l:Leaf}(h:lf c=l)(hd:l ≠ .dead):c = .one l:=by
 cases c<;>grind[lf]
theorem Mn{P:Z}{E:Env}(hT:cJ P E.T)(hR:Rel N E.np S0 w0 refs σ a w S γ){act:F (H×Ø)}(bg:re (tm a) act){rw:H->BS}(kE:RdR σ rw)
  {o:Oper}{s:Slot}{u:Ups}(h:eG E σ.ev rw act o=D (.val Ä s u)):Lx P N E.np S0 w0 refs o σ a w S γ s u/\s.bare=true:=by
 have aZ:RdOk σ (mskM rw):=kE.msk;have bz:=yE (np:=E.np) aZ;have hex:∀op,o.op=op->execOp a.eval o=execOp a.eval { o with op:=op }:=λop h=>by subst h;rfl
 unfold eG at h;dsimp only at h;split at h
 ·-- move
  rename_i x cj;split at h
  .rename_i l hl;simp only[j5,Act.val.injEq]at h;obtain⟨_,rfl,rfl⟩:=h;have:=mI hR x;rw[hl]at this;exact⟨lO hR (v:=a.eval x) (by simp[execOp,cj]) this,rfl⟩
  .simp only[j5,Act.cel,Act.val.injEq]at h;obtain⟨_,rfl,rfl⟩:=h;exact⟨lO hR (v:=a.eval x) (by simp[execOp,cj]) (eQ hR bg x),rfl⟩
 ·-- assign
  rename_i x cj;split at h
  .rename_i l hl;simp only[j5,Act.val.injEq]at h;obtain⟨_,rfl,rfl⟩:=h;have:=mI hR x;rw[hl]at this;exact⟨lO hR (v:=a.eval x) (by simp[execOp,cj]) this,rfl⟩
  .simp only[j5,Act.cel,Act.val.injEq]at h;obtain⟨_,rfl,rfl⟩:=h;exact⟨lO hR (v:=a.eval x) (by simp[execOp,cj]) (eQ hR bg x),rfl⟩
 ·-- pick
  rename_i x y z cj;split at h
  .rename_i v hv;have hx:=eQ hR bg x;have Mo:a.eval x = .bool v:=by have:=yF hv ae;grind[sX]
   have aR:(execOp a.eval o).run P w = .ok (.value (if v then a.eval y else a.eval z)) w:=by simp[execOp,cj,Mo,asBool]
   have hy:v=Ä->bQ S w γ σ.bx ((σ.ev y).cel (GX x Ä act)) (a.eval y):=by
    intro uH;refine Ly ?_ (mI hR y);cases x with
    |tmp t=>
     intro g hg;rcases je.1 hg with rfl|hg
     .simp only;rw[<-uH];exact Mo
     .exact bg g hg
    |_=>exact bg
   have hz:v=J->bQ S w γ σ.bx ((σ.ev z).cel (GX x J act)) (a.eval z):=by
    intro uH;refine Ly ?_ (mI hR z);cases x with
    |tmp t=>
     intro g hg;rcases je.1 hg with rfl|hg
     .simp only;rw[<-uH];exact Mo
     .exact bg g hg
    |_=>exact bg
   split at h
   .rename_i t p t' q hp hq;split at h
    .rename_i q' iD;simp only[j5,Act.leaf,Act.val.injEq]at h;obtain⟨_,rfl,rfl⟩:=h;have:=nv iD;cases this;refine⟨lO hR aR ?_,rfl⟩;cases v with
     |true=>have:=hy rfl;rw[hp]at this;exact this
     |false=>have:=hz rfl;rw[hq]at this;exact this
    .simp at h
   .rename_i t p hp hq;simp only[j5,Act.val.injEq]at h;obtain⟨gC,rfl,rfl⟩:=h;have gC:v=true:=gC;subst gC;refine⟨lO hR aR ?_,rfl⟩;have:=hy rfl;rw[hp]at this;exact this
   .rename_i t q hp hq;simp only[j5,Act.val.injEq]at h;obtain⟨gC,rfl,rfl⟩:=h;have gC:v=false:=by simpa using gC
    subst gC;refine⟨lO hR aR ?_,rfl⟩;have:=hz rfl;rw[hq]at this;exact this
   .simp at h
  .simp at h
 ·-- alloc
  rename_i t cj;split at h
  .rename_i ti ht;split at h
   .rename_i bq;have hd:=aZ.free bq;split at h
    .rename_i k el bG;split at h
     .simp only[j5,Act.val.injEq]at h;obtain⟨_,rfl,rfl⟩:=h;obtain⟨z,ia,hz⟩:=LS (w:=w) hT ht bG;obtain⟨dv,hc⟩:=LI hR hd (ls:=oD (.arr k el)) (cur:=z.cells) (e:=t) (by grind[wo]) (Hh ia);exact⟨⟨_,_,S,_,.inl (by simp[execOp,cj,hz]),dv,hc⟩,rfl⟩
     simp only[j5,Act.val.injEq]at h;obtain⟨_,rfl,rfl⟩:=h;obtain⟨z,ia,hz⟩:=LS (w:=w) hT ht bG;obtain⟨dv,hc⟩:=Uk hR hd (m:=k) (t:=el) (xs:=O k el.dflt) (cur:=z.cells) (e:=t) (by rw[ia];exact qE (.arr k el));exact⟨⟨_,_,S,_,.inl (by simp[execOp,cj,hz]),dv,hc⟩,rfl⟩
    .rename_i ty br bG;simp only[j5,Act.val.injEq]at h;obtain⟨_,rfl,rfl⟩:=h;obtain⟨z,ia,hz⟩:=LS (w:=w) hT ht bG;obtain⟨dv,hc⟩:=LI hR hd (ls:=oD ty) (cur:=z.cells) (e:=t) (by grind[wo]) (Hh ia);exact⟨⟨_,_,S,_,.inl (by simp[execOp,cj,hz]),dv,hc⟩,rfl⟩
    .simp at h
   .simp at h
  .simp at h
 ·-- box
  rename_i t x cj;split at h
  .rename_i bq;have hd:=aZ.free bq;have hx:=eQ hR bg x;split at h
   .rename_i k el xs hc;simp only[j5,Act.val.injEq]at h;obtain⟨_,rfl,rfl⟩:=h;rw[hc]at hx;obtain⟨cs,hu,bO⟩:=hx;obtain⟨dv,gL⟩:=Uk hR hd (m:=k) (t:=el) (xs:=xs) (cur:=(a.eval x).cells) (e:=t) (by rw[hu];exact bO);exact⟨⟨_,_,S,_,.inl (by simp[execOp,cj,Ux]),dv,gL⟩,rfl⟩
   .split at h
    .rename_i ls DG;simp only[j5,Act.val.injEq]at h;obtain⟨_,rfl,rfl⟩:=h;obtain⟨hl,h1⟩:=xU DG hx;obtain⟨dv,gL⟩:=LI hR hd (ls:=ls) (cur:=(a.eval x).cells) (e:=t) hl h1;exact⟨⟨_,_,S,_,.inl (by simp[execOp,cj,Ux]),dv,gL⟩,rfl⟩
    .simp at h
  .simp at h
 ·-- build
  rename_i t ps cj;have ib:=Vg hR bg ps.toList;have rP:All2 (λp v=>p.1=v.1/\bQ S w γ σ.bx p.2 v.2) (ps.toList.map λp=>(p.1,(σ.ev p.2).cel act)) (ps.map λp=>(p.1,a.eval p.2)).toList:=by simpa using ib
  split at h
  .rename_i ti ht;split at h
   .rename_i k el bG;split at h
    .rename_i hem;simp only[j5,Act.cel,Act.val.injEq]at h;obtain⟨_,rfl,rfl⟩:=h;obtain⟨v,aR,hc⟩:=jwW (w:=w) (S:=S) (γ:=γ) (bx:=σ.bx) hT ht bG
     have kN:ps = #[]:=by
      simp_all
     subst kN;exact⟨lO hR (v:=v) (by simp[execOp,cj,aR]) hc,rfl⟩
    split at h
    .rename_i xs u' hb;simp only[j5,Act.val.injEq]at h;obtain⟨_,rfl,rfl⟩:=h;obtain⟨v,S',aR,dv,hc⟩:=jwV hT hR bz ht bG rP hb;exact⟨⟨v,w,S',γ,.inl (by simp[execOp,cj,aR]),dv,hc⟩,rfl⟩
    .simp at h
   .rename_i ty br bG;split at h
    .rename_i nO;split at h
     .rename_i ls hb;simp only[j5,Act.cel,Act.val.injEq]at h;obtain⟨_,rfl,rfl⟩:=h;obtain⟨v,aR,hc⟩:=Ř hT ht bG nO rP hb;exact⟨lO hR (v:=v) (by simp[execOp,cj,aR]) hc,rfl⟩
     .simp at h
    .simp at h
   .simp at h
  .simp at h
 ·-- buildSlice
  rename_i t len ps cj;have ib:=Vg hR bg ps.toList;have rP:All2 (λp v=>p.1=v.1/\bQ S w γ σ.bx p.2 v.2) (ps.toList.map λp=>(p.1,(σ.ev p.2).cel act)) (ps.map λp=>(p.1,a.eval p.2)).toList:=by simpa using ib
  split at h
  .rename_i ti ht;split at h
   .rename_i el bG;split at h
    .obtain⟨_,rfl,v',w',γ',aR,dv,hc⟩:=ů hT hR ht bG aZ.free rP h;exact⟨⟨v',w',S,γ',.inl (by simp[execOp,cj,aR]),dv,hc⟩,rfl⟩
    split at h
    .simp at h
    .rename_i hlen;split at h
     .rename_i xs u' hb;split at h
      .rename_i bq;simp only[j5,Act.val.injEq]at h;obtain⟨_,rfl,rfl⟩:=h;obtain⟨v',w',S',γ',aR,dv,hc⟩:=Ů hT hR bz ht bG aa rP hb (aZ.free bq);exact⟨⟨v',w',S',γ',.inl (by simp[execOp,cj,aR]),dv,hc⟩,rfl⟩
      .simp at h
     .simp at h
   .simp at h
  .simp at h
 ·-- load
  rename_i t x cj;split at h
  .rename_i ti ht;split at h
   .rename_i m el ls rQ;split at h
    .rename_i xs u' hg;split at h
     .rename_i hlen;simp only[j5,Act.val.injEq]at h;obtain⟨_,rfl,rfl⟩:=h;obtain⟨z,S',hz,dv,iL⟩:=jyz hT hR aZ bz ht rQ hg hlen (iB (eQ hR bg x));exact⟨⟨z,w,S',γ,.inl (by simp[execOp,cj,hz]),dv,iL⟩,rfl⟩
     .simp at h
    .simp at h
   unfold oCel at h;split at h
   .rename_i c hc;simp only[j5,Act.cel,Act.val.injEq]at h;obtain⟨_,rfl,rfl⟩:=h;obtain⟨z,hz,iL⟩:=Uf hT hR aZ ht hc (iB (eQ hR bg x));exact⟨lO hR (v:=z) (by simp[execOp,cj,hz]) iL,rfl⟩
   .simp at h
  .simp at h
 ·-- store
  rename_i t x y cj;split at h
  .rename_i ti ht;split at h
   .rename_i u' hu;simp only[j5,Act.val.injEq]at h;obtain⟨_,rfl,rfl⟩:=h;obtain⟨w',S',aR,dv⟩:=Ŏ hT hR aZ bz ht hu (iB (eQ hR bg x)) (eQ hR bg y);exact⟨⟨undef,w',S',γ,.inr ⟨by simp[execOp,cj,aR],rfl⟩,dv,⟨trivial,λh=>absurd rfl h⟩⟩,rfl⟩
   .simp at h
  .simp at h
 ·-- nilCheck
  rename_i x cj;have hx:=eQ hR bg x;split at h
  .rename_i k p hl;split at h
   .rename_i ga;simp only[j5,Act.leaf,Act.val.injEq]at h;obtain⟨_,rfl,rfl⟩:=h;rw[yF hl ae]at hx;obtain⟨b,hb⟩:=Dn ga;obtain⟨g,_,hu⟩:=hx.1.2.2 b (aZ.live hb);exact⟨lO hR (v:=a.eval x) (by simp[execOp,cj,hu]) hx,rfl⟩
   .simp at h
  .rename_i k i p hl;split at h
   .rename_i ga;simp only[j5,Act.leaf,Act.val.injEq]at h;obtain⟨_,rfl,rfl⟩:=h;rw[yF hl ae]at hx;obtain⟨b,hb⟩:=Dn ga;have h3:=hx.1.2.2 b (aZ.live hb);have hu:∃g o,a.eval x = .pointer (D ⟨g,o,M⟩):=by grind
    obtain⟨g,ofs,hu⟩:=hu;exact⟨lO hR (v:=a.eval x) (by simp[execOp,cj,hu]) hx,rfl⟩
   .simp at h
  .rename_i ls hl;simp only[j5,Act.leaf,Act.val.injEq]at h;obtain⟨_,rfl,rfl⟩:=h;rw[yF hl ae]at hx;obtain⟨g,ofs,cs,hu,_⟩:=hx.1;exact⟨lO hR (v:=a.eval x) (by simp[execOp,cj,hu]) hx,rfl⟩
  .simp at h
 ·-- binOp
  rename_i op t x y rest cj;unfold oChk at h;split at h
  .rename_i b c hc;simp only[j5,Act.val.injEq]at h;obtain⟨rfl,rfl,rfl⟩:=h;obtain⟨z,hz,hl,h1⟩:=ĵ (x:=x) (y:=y) hT hc (eQ hR bg x) (eQ hR bg y);refine⟨wL hR ?_ hl h1,rfl⟩;simp only[execOp,cj];rw[U,hz];rfl
  .simp at h
 ·-- unOp
  rename_i op t x cj;unfold nL at h;split at h
  .rename_i c hc;simp only[j5,Act.leaf,Act.val.injEq]at h;obtain⟨_,rfl,rfl⟩:=h;obtain⟨z,hz,hl,h1⟩:=Ķ hc (eQ hR bg x);refine⟨wL hR ?_ hl h1,rfl⟩;simp only[execOp,cj];rw[U,hz];rfl
  .simp at h
 ·-- convert
  rename_i src dst x cj;split at h
  .rename_i ts ti uI ht;split at h
   .rename_i k v k0 k' hl Mp bG;simp only[j5,Act.leaf,Act.val.injEq]at h;obtain⟨_,rfl,rfl⟩:=h;have hx:=eQ hR bg x;rw[yF hl ae]at hx;have hu:=ub hx;have jN:=Lw hT ht bG;refine⟨wL hR (v:= .int k' (k'.wrap v)) ?_ rfl rfl,rfl⟩;have Vh:=Lw hT uI Mp;simp only[execOp,cj]
    simp_all[convert,run_underlying,Conv.intToInt]
   .simp at h
  .simp at h
 ·-- makeFunc
  rename_i f first caps cj
  split at h
  .rename_i jP;split at h
   .split at h
    .rename_i ks hl;simp only[j5,Act.val.injEq]at h;obtain⟨_,rfl,rfl⟩:=h;have cV:=Hu hR bg caps.toList;have l7:first = #[]:=by simpa using jP
     refine⟨⟨.func (.func f) #[] (caps.map a.eval),w,S,γ,.inl ?_,hR,⟨⟨_,rfl,by
      have:=UJ hl cV;rw[<-Array.toList_map]at this;exact this⟩,λ_=>rfl⟩⟩,rfl⟩
     simp[execOp,cj,l7,Instr.makeFunc]
    .simp at h
   split at h
   .rename_i l u' hl;simp only[j5,Act.val.injEq]at h;obtain⟨_,rfl,rfl⟩:=h;have cV:=Hu hR bg caps.toList;obtain⟨S',dv,_,cK,_⟩:=UI bz hl hR cV;have l7:first = #[]:=by simpa using jP
    refine⟨⟨.func (.func f) #[] (caps.map a.eval),w,S',γ,.inl ?_,dv,⟨⟨_,rfl,by simpa using cK⟩,λ_=>rfl⟩⟩,rfl⟩;simp[execOp,cj,l7,Instr.makeFunc]
   .simp at h
  .simp at h
 ·-- fieldAddr
  rename_i t x i cj;split at h
  .rename_i ti ht;unfold nL at h;split at h
   .rename_i c hc;simp only[j5,Act.leaf,Act.val.injEq]at h;obtain⟨_,rfl,rfl⟩:=h;obtain⟨z,hz,hl,h1⟩:=Ŀ hT aZ ht hc (iB (eQ hR bg x));exact⟨wL hR (by simp[execOp,cj,hz]) hl h1,rfl⟩
   .simp at h
  .simp at h
 ·-- field
  rename_i t x i cj;split at h
  .rename_i ti ht;split at h
   .rename_i ls f hc hf;split at h
    .rename_i tf wg;unfold oCel at h;split at h
     .rename_i c bR;simp only[j5,Act.cel,Act.val.injEq]at h;obtain⟨_,rfl,rfl⟩:=h;have hx:=eQ hR bg x;rw[hc]at hx;obtain⟨cs,hu,ay,h1⟩:=hx;obtain⟨fs,jN,fl,fB,lu,D0,tf',htf',bK⟩:=T3 hT ht hf;rw[<-D0]at wg;have jO:=(ay.drop fl.offset).take tf.size;have nw:∀u∈(cs.toList.drop fl.offset).take tf.size,One u:=λu eb=>h1 u (zt (qq eb));rw[<-lu]at bR
      have rj:∃z,(part fl.type cs fl.offset).run P w = .ok z w/\bQ S w γ σ.bx c z:=by
       unfold sW at bR;split at bR
       .rename_i nQ;split at bR
        .rename_i hlen;simp only[j5]at bR;subst bR;refine⟨.agg (cs.extract fl.offset (fl.offset+tf.size)),?_,_,rfl,?_,?_⟩
         .grind[part,U,Bh,I,jJ,Ã]
         all_goals simp_all
        .simp at bR
       .rename_i nQ;split at bR
        .rename_i l' oO;simp only[j5]at bR;subst bR;rw[oO]at jO;cases hq:(cs.toList.drop fl.offset).take tf.size with
         |nil=>rw[hq]at jO;exact jO.elim
         |cons z zs=>
          rw[hq]at jO nw
          have hz:cs[fl.offset]? = D z:=by
           have:((cs.toList.drop fl.offset).take tf.size)[0]? = D z:=by rw[hq];rfl
           grind
          refine⟨z,?_,jO.1,λ_=>nw z ae⟩;grind[part,U,Bh,I,Ã]
        .simp at bR
      obtain⟨z,hz,iL⟩:=rj;refine⟨lO hR (v:=z) ?_ iL,rfl⟩
      simp_all[execOp,Instr.field,run_underlying,asAgg]
     .simp at h
    .simp at h
   .simp at h
  .simp at h
 ·-- indexAddr
  rename_i t x i cj;split at h
  .rename_i ti ht;unfold oChk at h;split at h
   .rename_i b c hc;simp only[j5,Act.val.injEq]at h;obtain⟨rfl,rfl,rfl⟩:=h;obtain⟨z,hz,hl,h1⟩:=ŀ hT hR aZ ht hc (iB (eQ hR bg x)) (iB (eQ hR bg i));exact⟨wL hR (by simp[execOp,cj,hz]) hl h1,rfl⟩
   .simp at h
  .simp at h
 ·-- index
  rename_i t x i cj;split at h
  .rename_i ti ht;split at h
   .rename_i b c hc;simp only[j5,Act.val.injEq]at h;obtain⟨rfl,rfl,rfl⟩:=h;obtain⟨z,hz,iL⟩:=ł hT ht hc (eQ hR bg x) (iB (eQ hR bg i));exact⟨lO hR (v:=z) (by simp[execOp,cj,hz]) iL,rfl⟩
   .simp at h
  .simp at h
 ·-- makeMap
  rename_i t cj;split at h
  .rename_i k v ht;split at h
   .rename_i fT;simp only[j5,Act.val.injEq]at h;obtain⟨_,rfl,rfl⟩:=h;obtain⟨γ',aR,dv,gL⟩:=jwU (P:=P) (t:=t) (k:=k) (v:=v) hR (aZ.free fT);exact⟨⟨_,_,S,γ',.inl (by simp[execOp,cj,aR]),dv,gL⟩,rfl⟩
   .simp at h
  .simp at h
 ·-- lookup
  rename_i t x i ok cj;split at h
  .rename_i k v ht;split at h
   .rename_i b ys q hm;obtain⟨z,hz,aR⟩:=jtU hT hR kE ht hm (iB (eQ hR bg x)) (iB (eQ hR bg i));split at h
    .simp only[j5,Act.val.injEq]at h;obtain⟨_,rfl,rfl⟩:=h;have hr:=aR Ä;simp only[if_true]at hr;refine⟨lO hR (v:= .tuple #[z,.bool (@jH _ _ k.keq ys q)]) (by simp[execOp,cj,hr]) ?_,rfl⟩;exact⟨_,rfl,BC hz,⟨rfl,λ_=>rfl⟩,trivial⟩
    .simp only[j5,Act.cel,Act.val.injEq]at h;obtain⟨_,rfl,rfl⟩:=h;have hr:=aR J;simp only[ku,qz]at hr;exact⟨lO hR (v:=z) (by simp[execOp,cj,hr]) (BC hz),rfl⟩
   .simp at h
  .simp at h
 ·-- mapUpdate
  rename_i t x i y cj;split at h
  .rename_i k v ht;split at h
   .rename_i b ys q z u' hm hd;simp only[j5,Act.val.injEq]at h;obtain⟨_,rfl,rfl⟩:=h;obtain⟨w',S',aR,dv⟩:=jwT hT hR kE ht hm (iB (eQ hR bg x)) (iB (eQ hR bg i)) bz hd (eQ hR bg y);exact⟨⟨undef,w',S',γ,.inr ⟨by simp[execOp,cj,aR],rfl⟩,dv,⟨trivial,λh=>absurd rfl h⟩⟩,rfl⟩
   .simp at h
  .simp at h
 ·-- extract
  rename_i x i cj;split at h
  .rename_i l hl;split at h
   .rename_i c hc;simp only[j5,Act.cel,Act.val.injEq]at h;obtain⟨_,rfl,rfl⟩:=h;have hx:=mI hR x;rw[hl]at hx;obtain⟨vs,hu,ay⟩:=hx;obtain⟨z,hz,iL⟩:=ay.get i c hc;refine⟨lO hR (v:=z) ?_ iL,rfl⟩
    simp_all[execOp,Instr.extract]
   .simp at h
  .simp at h
 ·-- call
  rename_i cl cj;have cV:=Hu hR bg cl.args.toList;split at h
  ·-- len
   rename_i cH;split at h
   .rename_i x t il uI;split at h
    .rename_i ti ht;unfold nL at h;split at h
     .rename_i c hc;simp only[j5,Act.leaf,Act.val.injEq]at h;obtain⟨_,rfl,rfl⟩:=h;obtain⟨z,hz,hl,h1⟩:=ń (ty:=o.type) hT hR aZ ht hc (iB (eQ hR bg x));have e1:cl.args = #[x]:=by grind
      have e2:cl.argTypes = #[t]:=by grind
      refine⟨wL hR (v:=z) ?_ hl h1,rfl⟩;simp[execOp,cj,resolve,cH,invoke,builtin,e1,e2,hz]
     .simp at h
    .simp at h
   .simp at h
  ·-- min
   rename_i cH;unfold nL at h;split at h
   .rename_i c hc;simp only[j5,Act.leaf,Act.val.injEq]at h;obtain⟨_,rfl,rfl⟩:=h;obtain⟨z,hz,hl,h1⟩:=ķ (P:=P) (ts:=cl.argTypes) (ty:=o.type) hc cV;refine⟨wL hR (v:=z) ?_ hl h1,rfl⟩;have e1:cl.args.map a.eval=(cl.args.toList.map a.eval).toArray:=by apply vf;simp
    simp[execOp,cj,resolve,cH,invoke,builtin,e1,hz]
   .simp at h
  ·-- max
   rename_i cH;unfold nL at h;split at h
   .rename_i c hc;simp only[j5,Act.leaf,Act.val.injEq]at h;obtain⟨_,rfl,rfl⟩:=h;obtain⟨z,hz,hl,h1⟩:=ĸ (P:=P) (ts:=cl.argTypes) (ty:=o.type) hc cV;refine⟨wL hR (v:=z) ?_ hl h1,rfl⟩;have e1:cl.args.map a.eval=(cl.args.toList.map a.eval).toArray:=by apply vf;simp
    simp[execOp,cj,resolve,cH,invoke,builtin,e1,hz]
   .simp at h
  ·-- append
   rename_i cH;split at h
   .rename_i t t' s' x uI il;split at h
    .rename_i rR;subst rR;split at h
     .rename_i ti ht;split at h
      .rename_i el bG;split at h
       .rename_i b' v' u' hh;simp only[j5,Act.val.injEq]at h;obtain⟨rfl,rfl,rfl⟩:=h;obtain⟨z,w',aR,dv,hl,h1⟩:=Ŧ (ty:=o.type) hT hR aZ ht bG hh (iB (eQ hR bg s')) (iB (eQ hR bg x));have e1:cl.args = #[s',x]:=by grind
        have e2:cl.argTypes = #[t,t]:=by grind
        refine⟨⟨z,w',S,γ,.inl ?_,dv,hl,λ_=>h1⟩,rfl⟩;simp[execOp,cj,resolve,cH,invoke,builtin,e1,e2,aR]
       split at h
       .rename_i v' u' hh;simp only[j5,Act.val.injEq]at h;obtain⟨_,rfl,rfl⟩:=h;obtain⟨z,w',γ',aR,dv,hl,h1⟩:=Ū (ty:=o.type) hT hR aZ bz ht bG hh (iB (eQ hR bg s')) (iB (eQ hR bg x));have e1:cl.args = #[s',x]:=by grind
        have e2:cl.argTypes = #[t,t]:=by grind
        refine⟨⟨z,w',S,γ',.inl ?_,dv,hl,λ_=>h1⟩,rfl⟩;simp[execOp,cj,resolve,cH,invoke,builtin,e1,e2,aR]
       split at h
       .rename_i xs frz u' ys hs hx;split at h
        .rename_i bq;simp only[j5,Act.val.injEq,jj]at h;obtain⟨eX,rfl,rfl⟩:=h;obtain⟨v',w',S',γ',aR,dv,gL⟩:=Ŕ (ty:=o.type) hT hR aZ bz ht bG hs hx (aZ.free bq) eX (iB (eQ hR bg s')) (iB (eQ hR bg x));have e1:cl.args = #[s',x]:=by grind
         have e2:cl.argTypes = #[t,t]:=by grind
         refine⟨⟨v',w',S',γ',.inl ?_,dv,gL⟩,rfl⟩;simp[execOp,cj,resolve,cH,invoke,builtin,e1,e2,aR]
        .simp at h
       .simp at h
      .simp at h
     .simp at h
    .simp at h
   .simp at h
  ·-- value
   grind
  ·-- copy
   rename_i cH;split at h
   .rename_i t t' x y uI il;split at h
    .rename_i rR;subst rR;split at h
     .rename_i ti ht;split at h
      .rename_i c u' hc;simp only[j5,Act.val.injEq]at h;obtain⟨_,rfl,rfl⟩:=h;obtain⟨v',w',aR,dv,gL⟩:=Ţ (ty:=o.type) hT hR aZ ht hc (iB (eQ hR bg x)) (iB (eQ hR bg y));have e1:cl.args = #[x,y]:=by grind
       have e2:cl.argTypes = #[t,t]:=by grind
       refine⟨⟨v',w',S,γ,.inl ?_,dv,gL⟩,rfl⟩;simp[execOp,cj,resolve,cH,invoke,builtin,e1,e2,aR]
      .simp at h
     .simp at h
    .simp at h
   .simp at h
  ·-- clear
   rename_i cH;split at h
   .rename_i t x uI il;split at h
    .rename_i ti ht;split at h
     .rename_i u' hc;simp only[j5,Act.val.injEq]at h;obtain⟨_,rfl,rfl⟩:=h;obtain⟨v',w',aR,dv⟩:=Ť (ty:=o.type) hT hR aZ ht hc (iB (eQ hR bg x));have e1:cl.args = #[x]:=by grind
      have e2:cl.argTypes = #[t]:=by grind
      refine⟨⟨v',w',S,γ,.inl ?_,dv,⟨trivial,λh=>absurd rfl h⟩⟩,rfl⟩;simp[execOp,cj,resolve,cH,invoke,builtin,e1,e2,aR]
     .simp at h
    .simp at h
   .simp at h
  .simp at h
 ·-- slice
  rename_i t x lo hi cj;split at h
  .rename_i ti ht;split at h
   .rename_i b c u' hc;simp only[j5,Act.val.injEq]at h;obtain⟨rfl,rfl,rfl⟩:=h
    have ho:∀y:À ý,ORep (bF S w γ σ.bx) (y.map λx=>lf ((σ.ev x).cel act)) (y.map a.eval):=by
     intro y;cases y with
     |none=>trivial
     |some y=>exact iB (eQ hR bg y)
    obtain⟨v',S',γ',aR,dv,gL⟩:=Ŝ hT hR aZ ht (λk hk=>aZ.free hk) hc (iB (eQ hR bg x)) (ho lo) (ho hi);refine⟨⟨v',w,S',γ',.inl ?_,dv,gL⟩,rfl⟩;simp[execOp,cj,aR]
   .simp at h
  .simp at h
 ·-- slice with a capacity
  rename_i t x lo hi mx cj;split at h
  .rename_i ti ht;split at h
   .rename_i b hc;simp only[j5,Act.val.injEq]at h;obtain⟨rfl,rfl,rfl⟩:=h
    have ho:∀y:À ý,ORep (bF S w γ σ.bx) (y.map λx=>lf ((σ.ev x).cel act)) (y.map a.eval):=by
     intro y;cases y with
     |none=>trivial
     |some y=>exact iB (eQ hR bg y)
    obtain⟨v',aR⟩:=Š hT hR aZ ht hc (iB (eQ hR bg x)) (ho lo) (ho hi) (iB (eQ hR bg mx));refine⟨⟨v',w,S,γ,.inl ?_,hR,⟨trivial,λh=>absurd rfl h⟩⟩,rfl⟩;simp[execOp,cj,aR]
   .simp at h
  .simp at h
 .simp at h
theorem Vi{P:Z}{E:Env}(hR:Rel N E.np S0 w0 refs σ a w S γ){act:F (H×Ø)}(bg:re (tm a) act){rw:H->BS}(kE:RdR σ rw)
  {o:Oper}{f:H}{args:F Arg}{mk:Ret->À (Slot×Ups)}(h:eG E σ.ev rw act o=D (.call f args mk))(hf:Fun P f){K:Ret->Prop}(ej:Hn P f args K) :
  ∃vals,(execOp a.eval o).run P w = .ok (.enter f vals) w/\
   (Calls P f vals w λe w'=>∃ret,K ret/\∀s u,mk ret=D (s,u)->∃v S' γ',e = .returned v/\Rel N E.np S0 w0 refs (σ.upd u) a w' S' γ'/\iA S' w' γ' (σ.upd u).bx (tm a) s v)/\
   ∀ret s u,mk ret=D (s,u)->s.bare=true:=by
 have aZ:RdOk σ (mskM rw):=kE.msk;have bz:=yE (np:=E.np) aZ;unfold eG at h;dsimp only at h;split at h
 case h_23 cl cj=>
  have cV:=Hu hR bg cl.args.toList;split at h
  case h_5 x cH=>
   split at h
   .rename_i g caps hl;split at h
    .rename_i as us fs has;split at h
     .rename_i bT;simp only[j5,Act.call.injEq]at h;obtain⟨rfl,rfl,rfl⟩:=h;have hx:=eQ hR bg x;rw[yF hl ae]at hx;obtain⟨cv,hu,lY⟩:=hx.1;refine⟨_,DV hf cj cH hu,?_,?_⟩
      .have:=U4 hR kE aZ bz has cV bT lY ej ((o.dst.getD 0)*64+E.off);have e1:(cl.args.toList.map a.eval++cv.toList).toArray=cl.args.map a.eval++cv:=by apply vf;simp
       rwa[e1]at this
      .intro ret s u bR;unfold tS at bR;split at bR
       .unfold mkHd at bR;split at bR
        .split at bR
         .split at bR
          .simp only[j5,j9]at bR;rw[<-bR.1];rfl
          .simp at bR
         .simp at bR
        .simp at bR
       .grind[C3,Vf]
       split at bR
       .split at bR
        .split at bR
         .revert bR;dsimp only;split<;>(intro bR;simp only[j5,j9]at bR;rw[<-bR.1];rfl)
         .simp at bR
        .simp at bR
       .simp at bR
     .simp at h
    .simp at h
   .rename_i g ks hl;split at h
    .rename_i as us fs has;split at h
     .rename_i bT;simp only[j5,Act.call.injEq]at h;obtain⟨rfl,rfl,rfl⟩:=h;have hx:=eQ hR bg x;rw[yF hl ae]at hx;obtain⟨cv,hu,lY⟩:=hx.1;refine⟨_,DV hf cj cH hu,?_,?_⟩
      .have:=U4 hR kE aZ bz has (cV.append (UK lY)) bT (caps:=[]) (cv:=[]) trivial (by simpa using ej) ((o.dst.getD 0)*64+E.off);have e1:((cl.args.toList.map a.eval++cv.toList)++[]).toArray=cl.args.map a.eval++cv:=by apply vf;simp
       rwa[e1]at this
      .intro ret s u bR;unfold tS at bR;split at bR
       .unfold mkHd at bR;split at bR
        .split at bR
         .split at bR
          .simp only[j5,j9]at bR;rw[<-bR.1];rfl
          .simp at bR
         .simp at bR
        .simp at bR
       .grind[C3,Vf]
       split at bR
       .split at bR
        .split at bR
         .revert bR;dsimp only;split<;>(intro bR;simp only[j5,j9]at bR;rw[<-bR.1];rfl)
         .simp at bR
        .simp at bR
       .simp at bR
     .simp at h
    .simp at h
   .simp at h
  all_goals (first|(simp at h;done)|skip)
  all_goals (exfalso;revert h;try simp only[nL])
  all_goals (repeat' split)
  all_goals simp[Act.leaf]
 all_goals (first|(simp at h;done)|skip)
 all_goals (repeat' (first|(simp at h;done)|(exact absurd h jsc)|split at h))<;>simp_all[nL,oCel,oChk,Act.leaf,Act.cel]
 all_goals grind
end
end Go.Lft
