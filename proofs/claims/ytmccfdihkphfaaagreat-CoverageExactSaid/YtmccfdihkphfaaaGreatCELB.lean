/- New variables; Mg into variables. -/
import Derived.Test.YtmccfdihkphfaaaGreatCELA
import Derived.MapKept
open Option renaming some->D,none->O,isNone_iff_eq_none->è
open _root_ renaming List->F,Nat->H,Option->À,Array->Ë,Bool->Ö
open Go renaming Value->G,Program->Y,World->Á,TypeId->Ç,Act->ß,Operand->þ
open Go.Result renaming andThen_ok->I
open Bool renaming false->J,true->Â
open List renaming replicate->M,take->U,take_of_length_le->W,length_append->Ä,drop_of_length_le->Æ,length_take->Ê,length->Ï,drop->Ð,flatten_append->Ò,take_append->Ø,take_left'->Ý,set_cons_zero->á,getElem?_drop->â,any_cons->ä,size_toArray->å,getElem_cons_drop->ë,any_append->ì,mem_map_of_mem->ô,getElem?_take->ö,range_succ->ÿ
open Go.Sem renaming run_bind->Z,run_pure->Ã,run_ite->ý
open Go.Addr renaming add_lit->Å
open Go.Value.slice renaming injEq->È
open Nat renaming add_mul->É,min_eq_left->Ü,add_zero->ø
open Go.Instr renaming buildSlice->Ì,fill->Ó,build->Ú,findNow->Û,mapUpdate->Þ,sliceAt->ç,sameBits->ð,storeAt->ò,sameNow->õ,lookup->ù
open Go.Builtin renaming append_->Í,firstCells->Õ,copy_->é,clear_->ï,lenOf->ó
open Go.MapKept renaming run_getObj_map->Î,run_findKey->Ô,bytes_beq->ê,run_setObj_map->í,run_checkKey->ñ
open Go.World renaming cell?_of_block->Ñ,ownsRow_nil->æ,ownsRow_lit->û
open Array renaming range->Ù,ext'->à,getElem?_modify->î,toList_push->ü
open Iff renaming rfl->ã
set_option linter.unusedVariables false
namespace Go.Lft
section
variable{N:NT}{np:H}{S0:aX}{w0:Á}{refs:Refs}{σ:St}{a:ß}{w:Á}{S:aX}{γ:H->G}
def gset(γ:H->G)(n:H)(v:G):H->Value:=λk=>if k=n then v else γ k
theorem eQ(γ:H->G)(n:H)(v:G):gset γ n v n=v:=by simp[gset]
theorem fR(γ:H->G){n k:H}(v:G)(h:k≠n):gset γ n v k=γ k:=by simp[gset,h]
theorem zK(hR:Rel N np S0 w0 refs σ a w S γ)(o:Obj):dI S w S (w.alloc o):=
 λg i h=>⟨h,World.cell?_alloc_lt w o ⟨g,i,O⟩ (hR.here g i h)⟩
theorem lj{bx:H->BS}{k:H}{b:Bx}(h:eZ S w γ bx k b){g:H}(hg:blk (γ k)=D g):g<w.heap.size:=by
 cases b with
 |cell ls frz=>obtain⟨g',cur,e,h1,h2,_⟩:=h;rw[h1]at hg;simp[blk]at hg;subst hg;exact(jq.1 h2).1
 |lst e t xs frz=>exact h.1.lt hg
 |arr n t xs=>obtain⟨g',cur,e,h1,h2,_⟩:=h;rw[h1]at hg;simp[blk]at hg;subst hg;exact(jq.1 h2).1
 |row e t n ls=>
  obtain⟨_,⟨cs,h1,_⟩,_⟩:=h;rcases h1.2 with⟨hn,_⟩|⟨g',cap,cur,hv,_,hh,_⟩
  .rw[hn]at hg;simp[blk]at hg
  .rw[hv]at hg;simp[blk]at hg;subst hg;exact(jq.1 hh).1
theorem HY(hR:Rel N np S0 w0 refs σ a w S γ){n:H}(hn:σ.bx n = .free){o:Obj}{b:Bx}{v:G}(hv:∀g,blk v=D g->g=w.heap.size)
  (hb:BxLe γ σ.bx (gset γ n v) (σ.setB n (.live b)).bx->eZ S (w.alloc o) (gset γ n v) (σ.setB n (.live b)).bx n b) :
  Rel N np S0 w0 refs (σ.setB n (.live b)) a (w.alloc o) S (gset γ n v)/\BxLe γ σ.bx (gset γ n v) (σ.setB n (.live b)).bx:=by
 have hle:BxLe γ σ.bx (gset γ n v) (σ.setB n (.live b)).bx:=by
  intro k hk;have bD:k≠n:=by rintro rfl;exact hk hn
  rw[cu σ _ bD,fR γ v bD];exact⟨hk,rfl,λb hb=>⟨b,hb,.refl b⟩⟩
 have aW:=zK hR o
 refine⟨Rel.step (bx':=(σ.setB n (.live b)).bx) hR aW hle ?_ ?_ ?_ hR.new ?_ ?_ ?_ hR.os hR.tape hR.output (λg hg _ h=>⟨heap_alloc_old w o hg,λk b' aZ fH=>by
  by_cases hk:k=n
  .subst hk;rw[eQ]at fH;have:=hv g fH;omega
  .rw[cu σ _ hk]at aZ;rw[fR γ v hk]at fH;exact h k b' aZ fH⟩),hle⟩
 .intro k b' aZ;by_cases hk:k=n
  .subst hk;rw[fJ]at aZ;simp at aZ;subst aZ;exact hb hle
  .rw[cu σ _ hk]at aZ;refine eZ.keep aW hle (fR γ v hk) (λg hg=>⟨?_,λ_=>ã⟩) (hR.box k b' aZ);exact heap_alloc_old w o (lj (hR.box k b' aZ) hg)
 .intro k b' g aZ hg;by_cases hk:k=n
  .subst hk;rw[eQ]at hg;exact .inl (.inl (by rw[hv g hg];exact hR.grow))
  .rw[cu σ _ hk]at aZ;rw[fR γ v hk]at hg;exact hR.own k b' g aZ hg
 .intro k k' b1 b2 g bD h1 h2 hg aP;by_cases hk:k=n
  .subst hk;have bC:k'≠k:=λh=>bD h.symm;rw[eQ]at hg;rw[cu σ _ bC]at h2;rw[fR γ v bC]at aP;have:=lj (hR.box k' b2 h2) aP;rw[hv g hg]at this;omega
  .by_cases bC:k'=n
   .subst bC;rw[eQ]at aP;rw[cu σ _ hk]at h1;rw[fR γ v hk]at hg;have:=lj (hR.box k b1 h1) hg;rw[hv g aP]at this;omega
   .rw[cu σ _ hk]at h1;rw[cu σ _ bC]at h2;rw[fR γ v hk]at hg;rw[fR γ v bC]at aP;exact hR.apart k k' b1 b2 g bD h1 h2 hg aP
 .intro g i h;have:=hR.here g i h;simp;omega
 .intro g hg hr;rw[heap_alloc_old w o (by have:=hR.grow;omega)];exact hR.below g hg hr
 .have:=hR.grow;simp;omega
theorem Ca(hR:Rel N np S0 w0 refs σ a w S γ)(o:H):¬S w.heap.size o:=λh=>by have:=hR.here _ _ h;omega
theorem Mh(hR:Rel N np S0 w0 refs σ a w S γ){n:H}(hn:σ.bx n = .free){ls:F Leaf}{cur:Ë G}{e:Ç}
  (hl:All2 (bF S w γ σ.bx) ls cur.toList)(h1:∀u∈cur.toList,One u) :
  Rel N np S0 w0 refs (σ.setB n (.live (.cell ls J))) a (w.alloc (.cells cur e)) S (gset γ n (.pointer (D ⟨w.heap.size,0,O⟩)))/\
   bS S (w.alloc (.cells cur e)) (gset γ n (.pointer (D ⟨w.heap.size,0,O⟩))) (σ.setB n (.live (.cell ls J))).bx (.one (.bp n 0)) (.pointer (D ⟨w.heap.size,0,O⟩)):=by
 obtain⟨h,hle⟩:=HY hR hn (o:= .cells cur e) (b:= .cell ls J) (v:= .pointer (D ⟨w.heap.size,0,O⟩)) (λg hg=>by simp[blk]at hg;exact hg.symm) (λhle=>
  ⟨w.heap.size,cur,e,eQ _ _ _,heap_alloc_new w _,by rw[W (Nat.le_of_eq hl.length.symm)];exact hl.mono (λx u hx=>bF.keep (zK hR _) hle hx),λu hu=>h1 u (ql hu),λ_ o=>Ca hR o,ae⟩)
 refine⟨h,⟨by rw[fJ];simp,rfl,λb _=>⟨w.heap.size,eQ _ _ _,rfl⟩⟩,λ_=>rfl⟩
theorem Ww(hR:Rel N np S0 w0 refs σ a w S γ){n m:H}(hn:σ.bx n = .free){t:Ty}{xs:F t.den}{cur:Ë G}{e:Ç}
  (hl:Rep S w (.arr m t) xs cur.toList) :
  Rel N np S0 w0 refs (σ.setB n (.live (.arr m t xs))) a (w.alloc (.cells cur e)) S (gset γ n (.pointer (D ⟨w.heap.size,0,O⟩)))/\
   bS S (w.alloc (.cells cur e)) (gset γ n (.pointer (D ⟨w.heap.size,0,O⟩))) (σ.setB n (.live (.arr m t xs))).bx (.one (.bp n 0)) (.pointer (D ⟨w.heap.size,0,O⟩)):=by
 obtain⟨h,hle⟩:=HY hR hn (o:= .cells cur e) (b:= .arr m t xs) (v:= .pointer (D ⟨w.heap.size,0,O⟩)) (λg hg=>by simp[blk]at hg;exact hg.symm) (λ_=>
  ⟨w.heap.size,cur,e,eQ _ _ _,heap_alloc_new w _,Rep.keep (zK hR _) _ _ _ hl,λo=>Ca hR o⟩)
 refine⟨h,⟨by rw[fJ];simp,rfl,λb _=>⟨w.heap.size,eQ _ _ _,rfl⟩⟩,λ_=>rfl⟩
theorem xy{bx:H->BS}:∀(t:Ty),All2 (bF S w γ bx) (pI t) (lZ t)
 |.int _=>⟨rfl,trivial⟩
 |.bool=>⟨rfl,trivial⟩
 |.str=>⟨rfl,trivial⟩
 |.unit=>trivial
 |.wrap a=>xy a
 |.pair a b=>(xy a).append (xy b)
 |.list _=>⟨rfl,trivial⟩
 |.arr n a=>by
  show All2 _ ((List.range n).flatMap λ_=>pI a) ((M n (lZ a)).flatten);induction n with
  |zero=>simp[All2]
  |succ n ih=>rw[ÿ,List.flatMap_append,List.replicate_succ',Ò];refine ih.append ?_;simpa using xy a
theorem rP:∀(t:Ty),Rep S w t t.dflt (lZ t)
 |.int _=>rfl
 |.bool=>rfl
 |.str=>rfl
 |.unit=>rfl
 |.wrap a=>rP a
 |.pair a b=>⟨_,_,rfl,rP a,rP b⟩
 |.list _=>⟨O,0,rfl,jh _,by simp[maxLen],λ_=>rfl,λb hb=>by simp at hb⟩
 |.arr n a=>by
  refine⟨za,M n (lZ a),?_,rfl⟩;have hz:=rP a
  have:∀n,All2 (λx c=>Rep S w a x c) (M n a.dflt) (M n (lZ a)):=by
   intro n;induction n with
   |zero=>exact trivial
   |succ n ih=>exact⟨hz,ih⟩
  exact this n
theorem Cb(hR:Rel N np S0 w0 refs σ a w S γ){k:H}{b b':Bx}(hk:σ.bx k = .live b){g:H}(hg:blk (γ k)=D g)(hS:∀o,¬S g o)(rM:lY b b')
  {old new:Ë G}{e:Ç}(hh:w.heap[g]? = D (.cells old e (0,0)))
  (hb:BxLe γ σ.bx γ (σ.setB k (.live b')).bx->dI S w S (w.setRow g new)->eZ S (w.setRow g new) γ (σ.setB k (.live b')).bx k b') :
  Rel N np S0 w0 refs (σ.setB k (.live b')) a (w.setRow g new) S γ:=by
 have hle:BxLe γ σ.bx γ (σ.setB k (.live b')).bx:=by
  intro k' bC;by_cases cG:k'=k
  .subst cG;rw[fJ];exact⟨ae,rfl,λb1 dS=>by simp at dS;subst dS;exact⟨b,hk,rM⟩⟩
  .rw[cu σ _ cG];exact⟨bC,rfl,λb hb=>⟨b,hb,.refl b⟩⟩
 have aW:dI S w S (w.setRow g new):=by
  intro g' o h;refine⟨h,cell_setRow_other w g new ⟨g',o,O⟩ ?_⟩
  rintro rfl
  exact hS o h
 have bX:∀k' b1,(σ.setB k (.live b')).bx k' = .live b1->∃b2,σ.bx k' = .live b2:=by
  intro k' b1 h1;by_cases cG:k'=k
  .subst cG;exact⟨b,hk⟩
  .rw[cu σ _ cG]at h1;exact⟨b1,h1⟩
 have ao:=(jq.1 hh).1
 refine Rel.step (bx':=(σ.setB k (.live b')).bx) hR aW hle ?_ ?_ ?_ hR.new ?_ ?_ ?_ hR.os hR.tape hR.output (λg' _ _ h=>⟨setRow_other w g g' new (λe=>h k b hk (e▸hg)),λk' b1 h1=>by
  obtain⟨b2,h2⟩:=bX k' b1 h1;exact h k' b2 h2⟩)
 .intro k' b1 h1;by_cases cG:k'=k
  .subst cG;rw[fJ]at h1;simp at h1;subst h1;exact hb hle aW
  .rw[cu σ _ cG]at h1;refine eZ.keep aW hle rfl (λg' aP=>⟨?_,λ_=>ã⟩) (hR.box k' b1 h1);exact setRow_other w g g' new (λh=>hR.apart k' k b1 b g cG h1 hk (h▸aP) hg)
 .intro k' b1 g' h1 aP;obtain⟨b2,h2⟩:=bX k' b1 h1;exact hR.own k' b2 g' h2 aP
 .intro k1 k2 b1 b2 g' bD h1 h2 aP;obtain⟨vI,og⟩:=bX k1 b1 h1;obtain⟨vJ,mz⟩:=bX k2 b2 h2;exact hR.apart k1 k2 vI vJ g' bD og mz aP
 .intro g' o h;rw[size_setRow];exact hR.here g' o h
 .intro g' aP hr;rw[setRow_other w g g' new ?_]
  .exact hR.below g' aP hr
  .rintro rfl
   rcases hR.own k b _ hk hg with h|h
   .exact h.no aa hr
   .exact hr h.1
 .rw[size_setRow];exact hR.grow
theorem Ei{R:Leaf->G->Prop}{ls new:F Leaf}{cs zs:F G}{c:H}(h:All2 R ls cs)(h':All2 R new zs) :
  All2 R (qC ls c new) (cs.take c++zs++cs.drop (c+zs.length)):=by
 unfold qC;rw[h'.length];exact((h.take c).append h').append (h.drop _)
theorem Mi{X zs:F G}{c n:H}(h:c+zs.length<=n)(h':n<=X.length):(X.take c++zs++X.drop (c+zs.length)).take n=(X.take n).take c++zs++(X.take n).drop (c+zs.length):=by
 have e1:(X.take n).take c=X.take c:=by rw[vb,Ü aa]
 have e2:(X.take c++zs).length=c+zs.length:=aj;rw[e1,Ø,W (by rw[e2];exact h),e2,List.drop_take]
theorem Wx{bx:H->BS}{b:Ty}:∀{ys:F (F b.den)}{css:F (F G)},All2 (λx c=>Rep S w (.list b) x c) ys css->All2 (bF S w γ bx) (ys.map λy=> .d (.list b) y) css.flatten
 |[],[],_=>trivial
 |[],_::_,h=>h.elim
 |_::_,[],h=>h.elim
 |y::ys,c::css,h=>by
  have h1:Rep S w (.list b) y c:=h.1;have h2:c.length=1:=Rep.length _ _ _ h1;match c,h2 with
  |[v],_=>exact⟨h1,Wx h.2⟩
theorem Wy{α β:Type}(f:α->β)(d:α)(ys:F α):((List.range ys.length).map λi=>f (List.getD ys i d))=ys.map f:=by
 refine List.ext_getElem ae λi h1 h2=>?_;have h3:i<ys.length:=by simpa using h2
 simp[List.getD,h3]
theorem zL{bx:H->BS}{c:Cel}{ls:F Leaf}{z:G}(h:c.leaves=D ls)(hc:bS S w γ bx c z) :
  All2 (bF S w γ bx) ls z.cells.toList/\∀u∈z.cells.toList,One u:=by
 unfold Cel.leaves at h;split at h
 .simp at h
 .rename_i l hd;simp at h;subst h;have h1:=hc.2 hd;rw[B9 h1];exact⟨⟨hc.1,trivial⟩,λu hu=>by simp at hu;subst hu;exact h1⟩
 .simp at h;subst h;obtain⟨cs,rfl,ha,h1⟩:=hc;exact⟨ha,h1⟩
 .rename_i n b ys;simp only[j5]at h;obtain⟨cs,rfl,hn,css,ha,dm⟩:=hc;have h0:Ï ys=n:=hn;subst h0;have e:ls=ys.map λy=> .d (.list b) y:=h.symm.trans (Wy (λy:F b.den=>Leaf.d (.list b) y) [] ys);have e2:(Value.agg cs).cells.toList=cs.toList:=rfl;rw[e,e2];refine⟨?_,Rep.one (.arr _ (.list b)) ys cs.toList ⟨rfl,css,ha,dm⟩⟩;rw[dm];exact Wx ha
 .simp at h
end
theorem zM{m:H}:∀{l:F (F G)},(∀c∈l,c.length=m)->l.flatten.length=l.length*m
 |[],_=>ae
 |c::l,h=>by
  have h1:=h c ae;have h2:=zM (l:=l) (λd hd=>h d (qm _ hd));simp only[kq,Ä,jf,É,Nat.one_mul];omega
section
variable{N:NT}{np:H}{S0:aX}{w0:Á}{refs:Refs}{σ:St}{a:ß}{w:Á}{S:aX}{γ:H->G}
theorem l9:∀(u:Ups)(σ:St){k:H},u.any (λy=>y.1==k)=J->(σ.upd u).bx k=σ.bx k
 |[],_,_,_=>rfl
 |e::u,σ,k,h=>by
  simp only[ä,v8,beq_eq_false_iff_ne]at h;show ((σ.setB e.1 e.2).upd u).bx k=_;rw[l9 u _ h.2,cu σ _ (λhh=>h.1 hh.symm)]
theorem All2.all_len{t:Ty}{xs:F t.den}{css:F (F G)}(h:All2 (λx c=>Rep S w t x c) xs css):∀c∈css,c.length=t.size:=by
 intro c hc;obtain⟨x,_,hx⟩:=h.mem_right c hc;exact Rep.length _ _ _ hx
theorem Mj{cur:F G}{css:F (F G)}{m n i c:H}{ci zs:F G}(hm:∀c∈css,c.length=m)(hn:css.length=n)(fe:cur.take (n*m)=css.flatten)
  (hi:css[i]? = D ci)(hc:c+zs.length<=m) :
  (cur.take (i*m+c)++zs++cur.drop (i*m+c+zs.length)).take (n*m)=(css.set i (ci.take c++zs++ci.drop (c+zs.length))).flatten:=by
 have ao:i<css.length:=(List.getElem?_eq_some_iff.1 hi).1;have oG:css[i]=ci:=(List.getElem?_eq_some_iff.1 hi).2;have eu:ci.length=m:=hm ci (jz hi);obtain⟨A,B,hA,hB,HZ⟩:∃A B:F (F G),A.length=i/\A.length+1+B.length=n/\css=A++ci::B:=by refine⟨css.take i,css.drop (i+1),aj,aj,?_⟩;rw[<-oG,ë ao,k6]
 have hmA:∀c∈A,c.length=m:=λd hd=>hm d (by rw[HZ];simp[hd]);have hmB:∀c∈B,c.length=m:=λd hd=>hm d (by rw[HZ];simp[hd]);have lA:A.flatten.length=i*m:=by rw[zM hmA,hA]
 have lB:=zM hmB;have sP:css.set i (ci.take c++zs++ci.drop (c+zs.length))=A++(ci.take c++zs++ci.drop (c+zs.length))::B:=by rw[HZ,zq _ _ aa,hA,Nat.sub_self,á]
 have Ej:cur=A.flatten++(ci++(B.flatten++cur.drop (n*m))):=by have:=k6 (n*m) cur;rw[fe,HZ,Ò,kq]at this;rw[<-jk ci,<-jk];exact this.symm
 have dx:ci=ci.take c++((ci.drop c).take zs.length++ci.drop (c+zs.length)):=by have h1:=k6 c ci;have h2:=k6 zs.length (ci.drop c);rw[List.drop_drop]at h2;rw[h2,h1]
 have lp:(ci.take c).length=c:=aj;have lq:((ci.drop c).take zs.length).length=zs.length:=aj;have lr:(ci.drop (c+zs.length)).length=m-(c+zs.length):=by simp[eu]
 generalize ci.take c=p at *
 generalize (ci.drop c).take zs.length=q at *
 generalize ci.drop (c+zs.length)=r at *
 generalize cur.drop (n*m)=tl at *
 have e1:cur.take (i*m+c)=A.flatten++p:=by rw[Ej,dx];simp only[<-jk];rw[jk,jk,jk];exact Ý (by simp[lA,lp])
 have e2:cur.drop (i*m+c+zs.length)=r++(B.flatten++tl):=by rw[Ej,dx];have:A.flatten++(p++(q++r)++(B.flatten++tl))=(A.flatten++p++q)++(r++(B.flatten++tl)):=ae;rw[this];exact List.drop_left' (by simp[lA,lp,lq];omega)
 rw[e1,e2,sP,Ò,kq];have:A.flatten++p++zs++(r++(B.flatten++tl))=(A.flatten++(p++zs++r++B.flatten))++tl:=ae;rw[this];refine Ý ?_;simp only[Ä,lA,lp,lr,lB];have:n*m=i*m+m+B.length*m:=by rw[<-hB,hA,É,É,Nat.one_mul]
 omega
theorem Ek{P:Y}{T:H->À TyI}(hT:cP P T){t:Ç}{ti:TyI}(ht:T t=D ti){g o:H}{z:G}{cur:Ë G}{e:Ç}
  (hh:w.heap[g]? = D (.cells cur e (0,0)))(hs:z.cells.toList.length=ti.size)(hl:o+z.cells.toList.length<=cur.size)(h1:∀u∈z.cells.toList,One u) :
  (ò t (.pointer (D ⟨g,o,O⟩)) z).run P w = .ok () (w.setRow g (cur.toList.take o++z.cells.toList++cur.toList.drop (o+z.cells.toList.length)).toArray):=by
 have aW:=run_storeCells_at P g o e z.cells.toList 0 cur w hh (by simpa using hl) h1;simp only[ø]at aW;have bD:¬z.cells.size≠ti.size:=by simpa using hs
 simp only[ò,Z,Instr.sureAddr,Ã,I,storeVar,jM hT ht,ý,if_neg bD,aW]
theorem jzj{P:Y}{E:Env}(hT:cP P E.T)(hR:Rel N np S0 w0 refs σ a w S γ){rd rdf:H->BS}(ba:RdOk σ rd)(bu:RdF np σ rdf){t:Ç}{ti:TyI}(ht:E.T t=D ti)
  {x:Leaf}{val:Cel}{u:Ups}{ux z:G}(h:xc rd rdf ti.size val x=D u)(hx:bF S w γ σ.bx x ux)(hz:bS S w γ σ.bx val z) :
  ∃w' S',(ò t ux z).run P w = .ok () w'/\Rel N np S0 w0 refs (σ.upd u) a w' S' γ:=by
 unfold xc at h;split at h
 .rename_i k c;split at h
  .rename_i ls hk;have hk:=ba.live hk;split at h
   .rename_i new eR;split at h
    .rename_i hc;simp only[j5]at h;subst h;obtain⟨cO,hle⟩:=hc;obtain⟨ha,h1⟩:=zL eR hz;obtain⟨g,hg,hu⟩:=hx.2.2 _ hk;obtain⟨g',cur,e,aP,hh,fe,eP,hS,_⟩:=hR.box k _ hk;rw[hg]at aP;simp at aP;subst aP;subst hu;have hlen:=ha.length;have Cc:=fe.length;simp at Cc;refine⟨_,S,Ek hT ht hh aa (by simp at hlen ⊢;omega) h1,?_⟩;refine Cb hR hk (by rw[hg];rfl) (hS rfl) (b':= .cell (qC ls c new) J) trivial hh (λhle aW=>?_);refine⟨g,_,e,hg,setRow_heap w g cur _ e (0,0) hh,?_,?_,λ_=>hS rfl,ae⟩
     .have:=Ei (c:=c) (fe.mono (λx u hx=>bF.keep aW hle hx)) (ha.mono (λx u hx=>bF.keep aW hle hx));have fp:(qC ls c new).length=ls.length:=by simp[qC];omega
      rw[fp];have:=Mi (X:=cur.toList) (zs:=z.cells.toList) (c:=c) (n:=ls.length) aa aj;simp only[this];assumption
     .intro v hv;have fp:(qC ls c new).length=ls.length:=by simp[qC];omega
      rw[fp]at hv;have Mk:=Mi (X:=cur.toList) (zs:=z.cells.toList) (c:=c) (n:=ls.length) aa aj;simp only[Mk]at hv;simp only[ji]at hv;rcases hv with (hv|hv)|hv
      .exact eP v (ql hv)
      .exact h1 v hv
      .exact eP v (zg hv)
    .simp at h
   .simp at h
  .rename_i n el xs hk;have hk:=ba.live hk;split at h
   .rename_i ij;subst ij;split at h
    .rename_i n' a' ys;split at h
     .rename_i LM kN;split at h
      .rename_i cO;simp only[j5]at h;subst h;have vL:=oe kN;simp only[TV.mk.injEq,Ty.arr.injEq]at vL;obtain⟨⟨rfl,rfl⟩,vL⟩:=vL;obtain rfl:=eq_of_heq vL;obtain⟨cs,rfl,hr⟩:=hz;obtain⟨g,hg,hu⟩:=hx.2.2 _ hk;obtain⟨g',cur,e,aP,hh,bR,hS⟩:=hR.box k _ hk;rw[hg]at aP;simp at aP;subst aP;subst hu;have pO:=Rep.length _ _ _ hr;have uD:=Rep.length _ _ _ bR;have e1:(Value.agg cs).cells.toList=cs.toList:=rfl;refine⟨_,S,Ek hT ht hh (by rw[e1,pO,cO];rfl) (by rw[e1,pO,<-uD];simp) (by rw[e1];exact Rep.one _ _ _ hr),?_⟩;refine Cb hR hk (by rw[hg];rfl) hS (b':= .arr _ _ _) ⟨rfl,rfl⟩ hh (λhle aW=>?_);refine⟨g,_,e,hg,setRow_heap w g cur _ e (0,0) hh,?_,hS⟩;have hd:cur.toList.drop (0+cs.toList.length)=[]:=Æ (by rw[pO,uD];omega);have hX:(cur.toList.take 0++(Value.agg cs).cells.toList++cur.toList.drop (0+(Value.agg cs).cells.toList.length)).toArray.toList=cs.toList:=by rw[e1,hd];simp
       rw[hX];exact Rep.keep aW _ _ _ hr
      .simp at h
     .simp at h
    .simp at h
   .simp at h
  .simp at h
 .rename_i k i c;split at h
  .rename_i el at_ xs hk;have cF:=ba.nm hk;have hk:=ba.live hk;split at h
   .rename_i new eR;split at h
    .rename_i hc;obtain⟨cO,hle⟩:=hc;split at h
     .rename_i en u1 vM;split at h
      .simp at h
      .rename_i zN;simp only[j5]at h;subst h;obtain⟨ha,h1⟩:=zL eR hz;have hlen:=ha.length;have zO:z.cells.toList.length=z.cells.size:=qh;obtain⟨_,hi,g,cap,hg,hu⟩:=hx.2.2 _ hk;obtain⟨css,aS,aD,Wz⟩:=jE cF (hR.box k _ hk);rcases aS.2 with⟨_,h0⟩|⟨g',iz,cur,aP,ig,hh,kZ,jN,dm,ea⟩
       .omega
       rw[hg]at aP;simp at aP;obtain⟨rfl,rfl⟩:=aP;subst hu;obtain⟨ci,oG,bR,fa⟩:=zI (λx c hx=>Rep.length at_ x c hx) aD i at_.dflt hi;have eu:=Rep.length _ _ _ bR;have dx:=Ei (c:=c) (sK (qI at_ _ ci bR)) ha;obtain⟨hf,he,hp⟩:=xx bu hR.box at_ vM dx;obtain⟨S1,bI,cT,fv,dq⟩:=oE u1 σ S hR hf;have dr:(σ.upd u1).bx k = .live (.lst el at_ xs J):=by rw[l9 u1 σ (qa.2 zN)];exact hk
       obtain⟨css1,WA,WB,WC⟩:=jE cF (bI.box k _ dr);have zP:∀o,¬S1 g o:=(WC g (by rw[hg];rfl)).1 rfl;have Ml:i*at_.size+at_.size<=xs.length*at_.size:=by have:(i+1)*at_.size<=xs.length*at_.size:=k5 _ aa;rwa[vd]at this
       have hmc:xs.length*at_.size<=cap*at_.size:=k5 _ kZ;have fT:c+z.cells.toList.length<=at_.size:=aa;refine⟨_,S1,Ek hT ht hh aa (by rw[dm];omega) h1,?_⟩;rw[mC];refine Cb bI dr (by rw[hg];rfl) zP (b':= .lst el at_ (xs.set i en) J) ⟨rfl,rfl,λ_=>ae⟩ hh (λff dp=>?_);have sQ:Rep S1 w at_ en (ci.take c++z.cells.toList++ci.drop (c+z.cells.toList.length)):=by have:=hp S1 w cT fv;rwa[W aj]at this
       refine B4 cF ⟨css.set i (ci.take c++z.cells.toList++ci.drop (c+z.cells.toList.length)),⟨?_,.inr ⟨g,cap,_,?_,jy _,setRow_heap w g cur _ el (0,0) hh,by simpa using kZ,jN,?_,?_⟩⟩,?_,λg' aP=>?_⟩
       .rw[zM (m:=at_.size)]
        .simp[aD.length]
        .intro d hd;rcases va hd with hd|rfl
         .exact All2.all_len aD d hd
         .simp;omega
       .simpa using hg
       .simp only[å,Ä,Ê,qw,qh];omega
       .simp only[zh];exact Mj (All2.all_len aD) aD.length.symm ea oG fT
       .exact(aD.mono (λx c hx=>Rep.keep (cT.trans dp) _ _ _ hx)).set i _ _ (Rep.keep dp _ _ _ sQ)
       .rw[hg]at aP;simp[blk]at aP;subst aP;exact⟨λ_=>zP,ae⟩
     .simp at h
    .simp at h
   .simp at h
  .rename_i n at_ xs hk;have hk:=ba.live hk;split at h
   .rename_i new eR;split at h
    .rename_i hc;obtain⟨cO,hle⟩:=hc;split at h
     .rename_i en u1 vM;split at h
      .simp at h
      .rename_i zN;simp only[j5]at h;subst h;obtain⟨ha,h1⟩:=zL eR hz;have hlen:=ha.length;have zO:z.cells.toList.length=z.cells.size:=qh;obtain⟨hi,g,hg,hu⟩:=hx.2.2 _ hk;obtain⟨g',cur,e,aP,hh,⟨hn,css,aD,fe⟩,hS⟩:=hR.box k _ hk;rw[hg]at aP;simp at aP;subst aP;subst hu;obtain⟨ci,oG,bR,fa⟩:=zI (λx c hx=>Rep.length at_ x c hx) aD i at_.dflt aa;have eu:=Rep.length _ _ _ bR;have dx:=Ei (c:=c) (sK (qI at_ _ ci bR)) ha;obtain⟨hf,he,hp⟩:=xx bu hR.box at_ vM dx;obtain⟨S1,bI,cT,fv,dq⟩:=oE u1 σ S hR hf;have dr:(σ.upd u1).bx k = .live (.arr n at_ xs):=by rw[l9 u1 σ (qa.2 zN)];exact hk
       obtain⟨g1,cur1,e1,uE,hh1,_,zP⟩:=bI.box k _ dr;rw[hg]at uE;simp at uE;subst uE;have El:cur.toList.length=n*at_.size:=by rw[fe,zM (All2.all_len aD),<-aD.length,hn]
       have Ml:i*at_.size+at_.size<=n*at_.size:=by have:(i+1)*at_.size<=n*at_.size:=k5 _ aa;rwa[vd]at this
       have fT:c+z.cells.toList.length<=at_.size:=aa;refine⟨_,S1,Ek hT ht hh aa (by rw[<-qh,El];omega) h1,?_⟩;rw[mC];refine Cb bI dr (by rw[hg];rfl) zP (b':= .arr n at_ (xs.set i en)) ⟨rfl,rfl⟩ hh (λff dp=>?_);have sQ:Rep S1 w at_ en (ci.take c++z.cells.toList++ci.drop (c+z.cells.toList.length)):=by have:=hp S1 w cT fv;rwa[W aj]at this
       refine⟨g,_,e,hg,setRow_heap w g cur _ e (0,0) hh,⟨?_,css.set i (ci.take c++z.cells.toList++ci.drop (c+z.cells.toList.length)),?_,?_⟩,zP⟩
       .show Ï (List.set xs i en)=n;rw[zh];exact hn
       .exact(aD.mono (λx c hx=>Rep.keep (cT.trans dp) _ _ _ hx)).set i _ _ (Rep.keep dp _ _ _ sQ)
       .have Cd:=Mj (cur:=cur.toList) (n:=n) (zs:=z.cells.toList) (All2.all_len aD) (by rw[<-aD.length,hn]) (by rw[<-El,List.take_length,fe]) oG fT;rw[<-Cd];symm;refine(W ?_).trans ae;simp only[Ä,Ê,qw];omega
     .simp at h
    .simp at h
   .simp at h
  .rename_i e0 el n ls hk;have hk:=ba.live hk;split at h
   .rename_i new eR;split at h
    .rename_i hc;simp only[j5]at h;subst h;obtain⟨cO,hle⟩:=hc;obtain⟨ha,h1⟩:=zL eR hz;have hlen:=ha.length;have zO:z.cells.toList.length=z.cells.size:=qh;obtain⟨_,hi,g,cap,hg,hu⟩:=hx.2.2 _ hk;obtain⟨cF,⟨cs,aS,aD,WD⟩,hS⟩:=hR.box k _ hk;rcases aS.2 with⟨_,h0⟩|⟨g',iz,cur,aP,ig,hh,kZ,jN,dm,ea⟩
     .omega
     rw[hg]at aP;simp at aP;obtain⟨rfl,rfl⟩:=aP;subst hu;have Ml:i*el.size+el.size<=n*el.size:=by have:(i+1)*el.size<=n*el.size:=k5 _ aa;rwa[vd]at this
     have hmc:n*el.size<=cap*el.size:=k5 _ kZ;have eu:cur.toList.length=cap*el.size:=by rw[qh,dm]
     have Em:cs.length=n*el.size:=aS.1;have dx:=Mi (X:=cur.toList) (zs:=z.cells.toList) (c:=i*el.size+c) (n:=n*el.size) aa aa;refine⟨_,S,Ek hT ht hh aa (by rw[dm];omega) h1,?_⟩;refine Cb hR hk (by rw[hg];rfl) (hS g (by rw[hg];rfl)) (b':= .row e0 el n (qC ls (i*el.size+c) new)) ⟨rfl,rfl,rfl⟩ hh (λff dp=>?_);refine⟨cF,⟨cs.take (i*el.size+c)++z.cells.toList++cs.drop (i*el.size+c+z.cells.toList.length),⟨?_,.inr ⟨g,cap,_,hg,jy _,setRow_heap w g cur _ e0 (0,0) hh,kZ,jN,?_,?_⟩⟩,?_,?_⟩,λg' aP=>hS g' aP⟩
     .simp only[Ä,Ê,qw];omega
     .simp only[å,Ä,Ê,qw];omega
     .show U _ (_++_++_)=_;rw[dx,ea]
     .exact Ei (aD.mono (λx u hx=>bF.keep dp ff hx)) (ha.mono (λx u hx=>bF.keep dp ff hx))
     .intro v hv;simp only[ji]at hv;rcases hv with (hv|hv)|hv
      .exact WD v (ql hv)
      .exact h1 v hv
      .exact WD v (zg hv)
    .simp at h
   .simp at h
  .simp at h
 .simp at h
end
theorem xz{m:H}:∀{l:F (F G)}(i:H),(∀c∈l,c.length=m)->(l.take i).flatten=l.flatten.take (i*m)
 |[],i,_=>ae
 |c::l,0,_=>ae
 |c::l,i+1,h=>by
  have hc:=h c ae;have ih:=xz (l:=l) i (λd hd=>h d (by simp[hd]));rw[List.take_succ_cons,kq,ih,kq,vd,Nat.add_comm,Ø,hc];rw[W (l:=c) aa,show m+i*m-m=i*m by omega]
theorem En{m:H}:∀{l:F (F G)}(i:H),(∀c∈l,c.length=m)->(l.drop i).flatten=l.flatten.drop (i*m)
 |[],i,_=>ae
 |c::l,0,_=>ae
 |c::l,i+1,h=>by
  have hc:=h c ae;have ih:=En (l:=l) i (λd hd=>h d (by simp[hd]));rw[List.drop_succ_cons,ih,kq,vd,Nat.add_comm,List.drop_append,hc];rw[Æ (l:=c) aa,jr,show m+i*m-m=i*m by omega]
section
variable{N:NT}{np:H}{S0:aX}{w0:Á}{refs:Refs}{σ:St}{a:ß}{w:Á}{S:aX}{γ:H->G}
theorem Ce(hR:Rel N np S0 w0 refs σ a w S γ){k:H}{b:Bx}(hk:σ.bx k = .live b):Rel N np S0 w0 refs (σ.setB k .gone) a w S γ:=by
 have hle:BxLe γ σ.bx γ (σ.setB k .gone).bx:=by
  intro k' bC;by_cases cG:k'=k
  .grind[fJ]
  .rw[cu σ _ cG];exact⟨bC,rfl,λb hb=>⟨b,hb,.refl b⟩⟩
 have bX:∀k' b1,(σ.setB k .gone).bx k' = .live b1->σ.bx k' = .live b1:=by grind[fJ,cu]
 exact Rel.step (bx':=(σ.setB k .gone).bx) hR (.refl S w) hle (λk' b' h=>eZ.keep (.refl S w) hle rfl (λ_ _=>⟨rfl,λ_=>ã⟩) (hR.box k' b' (bX k' b' h)))
  (λk' b' g h=>hR.own k' b' g (bX k' b' h)) (λk1 k2 b1 b2 g bD h1 h2=>hR.apart k1 k2 b1 b2 g bD (bX _ _ h1) (bX _ _ h2)) hR.new hR.here hR.below hR.grow hR.os hR.tape hR.output
  (λg _ _ h=>⟨rfl,λk' b' aZ=>h k' b' (bX k' b' aZ)⟩)
theorem jGC(hR:Rel N np S0 w0 refs σ a w S γ){d:H}(hd:σ.bx d = .free){w':Á}{v':G}{b:Bx}
  (aW:dI S w S w')(gG:∀g,g<w.heap.size->blk v'≠D g->w'.heap[g]? = w.heap[g]?)(cO:w.heap.size<=w'.heap.size)
  (hv:∀g,blk v'=D g->Own w0 refs g/\(∀k b,σ.bx k = .live b->blk (γ k)≠D g)/\g<w'.heap.size)
  (os:w'.os=w.os)(tape:w'.tape=w.tape)(output:w'.output=w.output)
  (hb:BxLe γ σ.bx (gset γ d v') (σ.setB d (.live b)).bx->eZ S w' (gset γ d v') (σ.setB d (.live b)).bx d b)(H0:∀g,blk v'=D g->refs.kw g=O) :
  Rel N np S0 w0 refs (σ.setB d (.live b)) a w' S (gset γ d v')/\BxLe γ σ.bx (gset γ d v') (σ.setB d (.live b)).bx:=by
 have hle:BxLe γ σ.bx (gset γ d v') (σ.setB d (.live b)).bx:=by
  intro k hk;have bD:k≠d:=by grind
  rw[cu σ _ bD,fR γ v' bD];exact⟨hk,rfl,λb hb=>⟨b,hb,.refl b⟩⟩
 refine⟨Rel.step (bx':=(σ.setB d (.live b)).bx) hR aW hle ?_ ?_ ?_ hR.new ?_ ?_ (kf hR.grow cO) (os.trans hR.os) (tape.trans hR.tape) (output.trans hR.output) (λg hg sR h=>⟨gG g hg (λhh=>sR (H0 g hh)),λk b' aZ fH=>by
  grind[eQ,cu,fR]⟩),hle⟩
 .intro k b' aZ;by_cases hk:k=d
  .grind[fJ]
  .rw[cu σ _ hk]at aZ;refine eZ.keep aW hle (fR γ v' hk) (λg hg=>⟨?_,λ_=>ã⟩) (hR.box k b' aZ);exact gG g (lj (hR.box k b' aZ) hg) (λhh=>(hv g hh).2.1 k b' aZ hg)
 .intro k b' g aZ hg;by_cases hk:k=d
  .grind[eQ]
  .rw[cu σ _ hk]at aZ;rw[fR γ v' hk]at hg;exact hR.own k b' g aZ hg
 .intro k k' b1 b2 g bD h1 h2 hg aP;by_cases hk:k=d
  .grind[eQ,cu,fR]
  .by_cases bC:k'=d
   .grind[eQ,cu,fR]
   .rw[cu σ _ hk]at h1;rw[cu σ _ bC]at h2;rw[fR γ v' hk]at hg;rw[fR γ v' bC]at aP;exact hR.apart k k' b1 b2 g bD h1 h2 hg aP
 .intro g o hs;have:=hR.here g o hs;omega
 .intro g hg hr;by_cases hb:blk v'=D g
  .exact((hv g hb).1.no hg hr).elim
  .rw[gG g (by have:=hR.grow;omega) hb];exact hR.below g hg hr
theorem Cf(hR:Rel N np S0 w0 refs σ a w S γ){d:H}(hd:σ.bx d = .free){w':Á}{S':aX}{v':G}{e:H}(hm:isM e=J){el:Ty}{zs:F el.den}{frz:Ö}{css:F (F G)}
  (aW:dI S w S' w')(gG:∀g,g<w.heap.size->blk v'≠D g->w'.heap[g]? = w.heap[g]?)(cO:w.heap.size<=w'.heap.size)
  (hv:∀g,blk v'=D g->Own w0 refs g/\(∀k b,σ.bx k = .live b->blk (γ k)≠D g)/\g<w'.heap.size)
  (hS:∀g o,S' g o->S g o\/blk v'=D g)(os:w'.os=w.os)(tape:w'.tape=w.tape)(output:w'.output=w.output)
  (cd:w'.ownsRow 0 e el.size v' zs.length css.flatten)(aD:All2 (λx c=>Rep S' w' el x c) zs css)
  (hfrz:∀g,blk v'=D g->(frz=J->∀o,¬S' g o)/\(frz=Â->∀o,S' g o↔o<zs.length*el.size))(H0:∀g,blk v'=D g->refs.kw g=O) :
  Rel N np S0 w0 refs (σ.setB d (.live (.lst e el zs frz))) a w' S' (gset γ d v')/\
   bS S' w' (gset γ d v') (σ.setB d (.live (.lst e el zs frz))).bx (.one (.ol d)) v':=by
 have hle:BxLe γ σ.bx (gset γ d v') (σ.setB d (.live (.lst e el zs frz))).bx:=by
  intro k hk;have bD:k≠d:=by grind
  rw[cu σ _ bD,fR γ v' bD];exact⟨hk,rfl,λb hb=>⟨b,hb,.refl b⟩⟩
 have df:One v':=by rcases cd.2 with⟨rfl,_⟩|⟨g,cap,cur,rfl,_⟩<;>rfl
 refine⟨Rel.step (bx':=(σ.setB d (.live (.lst e el zs frz))).bx) hR aW hle ?_ ?_ ?_ ?_ ?_ ?_ (kf hR.grow cO) (os.trans hR.os) (tape.trans hR.tape) (output.trans hR.output) (λg hg sR h=>⟨gG g hg (λhh=>sR (H0 g hh)),λk b' aZ fH=>by
  grind[eQ,cu,fR]⟩),?_⟩
 .intro k b hb;by_cases hk:k=d
  .grind[fJ,B4,eQ]
  .rw[cu σ _ hk]at hb;refine eZ.keep aW hle (fR γ v' hk) (λg hg=>?_) (hR.box k b hb);have zQ:=lj (hR.box k b hb) hg;have bD:blk v'≠D g:=λhh=>(hv g hh).2.1 k b hb hg;exact⟨gG g zQ bD,λo=>⟨λhs=>(hS g o hs).resolve_right bD,λhs=>(aW g o hs).1⟩⟩
 .intro k b g hb hg;by_cases hk:k=d
  .grind[eQ]
  .rw[cu σ _ hk]at hb;rw[fR γ v' hk]at hg;exact hR.own k b g hb hg
 .intro k k' b1 b2 g bD h1 h2 hg aP;by_cases hk:k=d
  .grind[eQ,cu,fR]
  .by_cases bC:k'=d
   .grind[eQ,cu,fR]
   .rw[cu σ _ hk]at h1;rw[cu σ _ bC]at h2;rw[fR γ v' hk]at hg;rw[fR γ v' bC]at aP;exact hR.apart k k' b1 b2 g bD h1 h2 hg aP
 .intro g o hs;rcases hS g o hs with hs|hs
  .exact hR.new g o hs
  simp_all
 .intro g o hs;rcases hS g o hs with hs|hs
  .have:=hR.here g o hs;omega
  simp_all
 .intro g hg hr;by_cases hb:blk v'=D g
  .exact((hv g hb).1.no hg hr).elim
  .rw[gG g (by have:=hR.grow;omega) hb];exact hR.below g hg hr
 .refine⟨⟨by rw[fJ];simp,df,λb hb=>(eQ γ d v').symm⟩,λ_=>df⟩
theorem WE{P:Y}{T:H->À TyI}(hT:cP P T){t ty:Ç}{ti:TyI}(ht:T t=D ti){el:Ty}(bJ:ti.ty=D (.list el))
  {v:G}{n:H}{xs:F G}(aS:w.ownsRow 0 ti.elem el.size v n xs){ad:À Addr}{m c:H}{news:F G}(gp:ad=O->m=0/\c=0)(hl:news.length=m*el.size)
  (ik:∀b,ad=D b->∀(j:H)(u:G),news[j]? = D u->w.cell? (b.add j)=D u)(h1:∀u∈news,One u)(fg:n+m<=aK) :
  ∃v' w',(Í #[t,t] ty #[v,.slice ad m c]).run P w = .ok v' w'/\w'.ownsRow 0 ti.elem el.size v' (n+m) (xs++news)/\w'.os=w.os/\w'.tape=w.tape/\w'.output=w.output/\w.heap.size<=w'.heap.size/\
   ((v'=v/\w'=w)\/(blk v'=blk v/\(∃g,blk v=D g)/\∀g,blk v≠D g->w'.heap[g]? = w.heap[g]?)\/(blk v'=D w.heap.size/\∀g,g<w.heap.size->w'.heap[g]? = w.heap[g]?)):=by
 obtain⟨hd,bZ,te,dJ,cS⟩:=oD hT ht bJ;have cO:=od hT dJ cS;obtain⟨i,de,hi,hde,his,Eo,_,_,hz⟩:=oc hT dJ;obtain⟨_,⟨z,hz,iA⟩,_⟩:=hz el cS;have gH:i.size=el.size:=aa;have kO:z.cells.size=el.size:=by have h:=Rep.length el el.dflt _ (rP (S:=λ_ _=>False) (w:=w) el);grind
 have Mm:n+m<=maxLen:=by grind[maxLen,aK]
 have oH:(n+m)*i.bytes<=140737488355328:=by have:(n+m)*i.bytes<=aK*32768:=qi fg Eo;grind[aK]
 have hlen:(xs++news).length=(n+m)*el.size:=by rw[Ä,aS.1,hl,É]
 cases ad with
 |none=>obtain⟨rfl,rfl⟩:=gp rfl;grind[run_append_owned_none]
 |some b=>
  have ik:=ik b rfl;rcases aS.2 with⟨rfl,rfl⟩|⟨g,cap,cur,rfl,_,hg,kZ,jN,dm,ea⟩
  .have xA:w.ownsRow w.heap.size ti.elem el.size (.slice O 0 0) 0 xs:=⟨aS.1,.inl ⟨rfl,rfl⟩⟩;obtain⟨v',w',hr,ho,pP,hv⟩:=run_append_own (P:=P) w w.heap.size t ty ti.elem i z el.size i.bytes hd hi hz gH rfl kO bZ _ 0 xs xA b m c news hl ik h1 Mm oH (jh _);refine⟨v',w',hr,⟨ho.1,ho.2.imp id (λ⟨g,cap,cur,h1,_,h3⟩=>⟨g,cap,cur,h1,jy _,h3⟩)⟩,pP.os,pP.tape,pP.output,pP.size,?_⟩;by_cases hm:m=0
   .subst hm;have l7:news=[]:=k8 (by simpa using hl);subst l7;have:=run_append_own (P:=P) w w.heap.size t ty ti.elem i z el.size i.bytes hd hi hz gH rfl kO bZ _ 0 xs xA b 0 c [] hl ik h1 Mm oH (jh _);left;have hx:(Í #[t,t] ty #[.slice O 0 0,.slice (D b) 0 c]).run P w = .ok (.slice O 0 0) w:=by simp[Í,run_underlying hd,sizeOf,typeInfo,hi,ó,Õ,loadCells,loadCellsFrom]
    simp_all
   .have Cg:=run_append_nil (P:=P) w t ty ti.elem i z hd hi hz b m c news (by rw[gH];exact hl) ik aa (by grind[maxLen]) (by grind);rw[Cg]at hr;simp at hr;obtain⟨rfl,rfl⟩:=hr;exact .inr (.inr ⟨rfl,λg hg=>heap_alloc_old w.drew _ hg⟩)
  .by_cases sS:n+m<=cap
   .have Ep:n*i.size+news.length<=cur.size:=by rw[gH,hl,dm,<-É];exact k5 _ sS
    have hr:=run_append_room (P:=P) w t ty ti.elem i hd hi g n cap cur hg b m c news (by rw[gH];exact hl) ik h1 sS Ep;rw[gH]at hr Ep;refine⟨_,_,hr,⟨hlen,.inr ⟨g,cap,_,rfl,jy _,setRow_heap w g cur _ ti.elem _ hg,sS,jN,?_,?_⟩⟩,rfl,rfl,rfl,by simp_all,.inr (.inl ⟨rfl,⟨g,rfl⟩,λg' aP=>?_⟩)⟩
    .grind
    .grind
    .exact setRow_other w g g' _ (λh=>aP (by rw[h];rfl))
   .have holds:∀(j:H)(u:G),xs[j]? = D u->w.cell? ((⟨g,0,O⟩:Addr).add j)=D u:=aS.cells (g:=g) rfl;have hr:=run_append_grow (P:=P) w t ty ti.elem i z hd hi hz ⟨g,0,O⟩ n cap xs (by grind) holds b m c news (by rw[gH];exact hl) ik aa (by grind[maxLen]) (growslice_fits aa oH);have oI:=grownCap_ge w (n+m) cap ti.elem;refine⟨_,_,hr,⟨hlen,.inr ⟨w.heap.size,_,_,rfl,jy _,heap_alloc_new w.drew _,oI,grownCap_le_maxLen w (n+m) cap ti.elem Mm,?_,?_⟩⟩,rfl,rfl,rfl,ae,.inr (.inr ⟨rfl,λg' aP=>heap_alloc_old w.drew _ aP⟩)⟩
    .simp only[Array.size_append,å,size_zeroCells,kO,aS.1,hl,<-É];congr 1;omega
    grind
theorem WG(hR:Rel N np S0 w0 refs σ a w S γ){rd:H->BS}(ba:RdOk σ rd){el:Ty}{y:Leaf}{ys:F el.den}{z:G}(h:appX rd el y=D ys)(hy:bF S w γ σ.bx y z) :
  ∃ad c css,z = .slice ad ys.length c/\(ad=O->ys.length=0/\c=0)/\All2 (λx c=>Rep S w el x c) ys css/\
   ∀b,ad=D b->∀(j:H)(u:G),css.flatten[j]? = D u->w.cell? (b.add j)=D u:=by
 unfold appX at h;split at h
 .rename_i k;split at h
  .rename_i e H2 xs f hk;have:=oe h;cases this;have cF:=ba.nm hk;have hk:=ba.live hk;have hz:=hy.2.2 _ hk;obtain⟨css,aS,aD,_⟩:=jE cF (hR.box k _ hk);rcases aS.2 with⟨hg,h0⟩|⟨g,cap,cur,hg,_⟩
   .grind
   .refine⟨D ⟨g,0,O⟩,cap,css,by rw[hz,hg],ae,aD,λb hb j u hu=>?_⟩;simp at hb;subst hb;exact aS.cells (g:=g) (by rw[hg];rfl) j u hu
  .simp at h
 .rename_i t xs;have:=oe h;cases this;obtain⟨ad,cap,hz,hle,jN,hn,hb⟩:=hy;simp at hz;cases ad with
  |none=>have h0:=hn rfl;have jO:Ï ys=0:=aa;have:ys=[]:=k8 jO;subst this;exact⟨O,cap,[],hz,λ_=>⟨rfl,h0⟩,trivial,λb hb=>by simp at hb⟩
  |some b=>
   obtain⟨dx,css,ha,hl⟩:=hb b rfl;refine⟨D b,cap,css,hz,ae,ha,λb' aZ j u hu=>?_⟩;simp at aZ;subst aZ
   have dx:=dx (λe=>by
    rw[e]at ha;cases css with
    |nil=>simp at hu
    |cons c cs=>exact ha)
   obtain⟨g,o,sp⟩:=b;simp at dx;subst dx;rw[Å];exact(hl j u hu).2
 .simp at h;subst h;exact⟨O,0,[],hy,λ_=>⟨rfl,rfl⟩,trivial,λb hb=>by simp at hb⟩
 .rename_i k j;split at h
  .rename_i e H2 xs f hk;split at h
   .rename_i dE kN;have:=oe kN;cases this;simp only[j5]at h;subst h;have cF:=ba.nm hk;have hk:=ba.live hk;obtain⟨_,hj,ad,iz,aP,hu⟩:=hy.2.2 _ hk;obtain⟨css,aS,aD,_⟩:=jE cF (hR.box k _ hk);have eu:=All2.all_len aD;have hlen:(Ð j dE).length=dE.length-j:=ae;rcases aS.2 with⟨hg,h0⟩|⟨g,cap,cur,hg,_,hh,kZ,_⟩
    .grind
    .rw[hg]at aP;simp only[È,kc]at aP;obtain⟨rfl,rfl⟩:=aP;by_cases hc:cap=j
     .have xB:Ð j dE=[]:=Æ aa;rw[xB];rw[if_pos hc]at hu;exact⟨D ⟨g,0,O⟩,cap-j,[],by rw[hu];simp;omega,ae,trivial,λb hb q v hq=>by simp at hq⟩
     .rw[if_neg hc]at hu;simp only[kb,Å,ku]at hu;refine⟨D ⟨g,j*el.size,O⟩,cap-j,css.drop j,by rw[hu,hlen],ae,aD.drop j,λb hb q v hq=>?_⟩;simp at hb;subst hb;have hfd:(css.drop j).flatten=css.flatten.drop (j*el.size):=En j eu;rw[hfd,â]at hq;have:=aS.cells (g:=g) (by rw[hg];rfl) _ v hq;grind[Å]
   .simp at h
  .simp at h
 .simp at h
theorem jzk{P:Y}{E:Env}(hT:cP P E.T)(hR:Rel N np S0 w0 refs σ a w S γ){rd rdf:H->BS}(ba:RdOk σ rd)(bu:RdF np σ rdf){t ty:Ç}{ti:TyI}(ht:E.T t=D ti)
  {el:Ty}(bJ:ti.ty=D (.list el)){x y:Leaf}{xs ys:F el.den}{frz:Ö}{u:Ups}{d:H}{vx vy:G}(h1:appS rdf ti.elem el x=D (xs,frz,u))(h2:appX rd el y=D ys)
  (hd:σ.bx d = .free)(fg:xs.length+ys.length<=aK)(hx:bF S w γ σ.bx x vx)(hy:bF S w γ σ.bx y vy) :
  ∃v' w' S' γ',(Í #[t,t] ty #[vx,vy]).run P w = .ok v' w'/\Rel N np S0 w0 refs (σ.upd (u++[(d,.live (.lst ti.elem el (xs++ys) frz))])) a w' S' γ'/\
   bS S' w' γ' (σ.upd (u++[(d,.live (.lst ti.elem el (xs++ys) frz))])).bx (.one (.ol d)) v':=by
 obtain⟨ad,c,cy,H3,gp,zR,fa⟩:=WG hR ba h2 hy;subst H3;have H4:cy.flatten.length=ys.length*el.size:=All2.flatten_length (λx c hx=>Rep.length el x c hx) zR;have h1y:∀u∈cy.flatten,One u:=by intro u hu;obtain⟨c,hc,B3⟩:=List.mem_flatten.1 hu;obtain⟨x,_,hx⟩:=zR.mem_right c hc;grind[Rep.one]
 obtain⟨pN,bZ,te,dJ,cS⟩:=oD hT ht bJ
 have src:∃σ1,σ.upd u=σ1/\Rel N np S0 w0 refs σ1 a w S γ/\σ1.bx d = .free/\∃cx,w.ownsRow 0 ti.elem el.size vx xs.length cx.flatten/\All2 (λx c=>Rep S w el x c) xs cx/\
   ∀g,blk vx=D g->Own w0 refs g/\g<w.heap.size/\(∀k b,σ1.bx k = .live b->blk (γ k)≠D g)/\(frz=J->∀o,¬S g o)/\(frz=Â->∀o,S g o↔o<xs.length*el.size)/\refs.kw g=none:=by
  unfold appS at h1;split at h1
  .rename_i k;split at h1
   .rename_i e' H2 dE f hk;split at h1
    .rename_i Wt kN;split at h1
     .rename_i he;simp only[j5,j9]at h1;obtain⟨rfl,rfl,rfl⟩:=h1;have:=oe kN;cases this;subst he;have uF:=bu.par hk;have cF:=bu.ok.nm hk;have hk:=bu.ok.live hk;have hz:=hx.2.2 _ hk;obtain⟨css,aS,aD,hS⟩:=jE cF (hR.box k _ hk);have zS:d≠k:=by grind
      refine⟨σ.setB k .gone,rfl,Ce hR hk,by grind[cu],css,by rw[hz];exact aS,aD,λg hg=>?_⟩;rw[hz]at hg;refine⟨?_,lj (hR.box k _ hk) hg,λk' b' aZ aP=>?_,(hS g hg).1,(hS g hg).2,hR.kw_live hk hg⟩
      .rcases hR.own k _ g hk hg with h|h;all_goals simp_all
      .have cG:k'≠k:=by grind[fJ]
       rw[cu σ _ cG]at aZ;exact hR.apart k' k _ _ g cG aZ hk aP hg
     .simp at h1
    .simp at h1
   .simp at h1
  .simp only[j5,j9]at h1;obtain⟨rfl,rfl,rfl⟩:=h1;have hz:vx = .slice O 0 0:=hx;subst hz;exact⟨σ,rfl,hR,hd,[],æ w 0 ti.elem el.size,trivial,λg hg=>by simp[blk]at hg⟩
  .simp at h1
 obtain⟨σ1,hσ1,bI,rO,cx,aS,xC,hblk⟩:=src;rw[mC,hσ1];obtain⟨v',w',hr,cd,os,tape,output,cO,di⟩:=WE hT ht bJ (ty:=ty) aS gp H4 fa h1y fg;have H5:cx.flatten.length=xs.length*el.size:=aS.1;let S':aX:=λg o=>S g o\/(frz=Â/\blk v'=D g/\o<(xs++ys).length*el.size)
 have aW:dI S w S' w':=by
  intro g o hs;refine⟨.inl hs,?_⟩;rcases di with⟨rfl,rfl⟩|⟨hb,⟨g0,sT⟩,hh⟩|⟨hb,hh⟩
  .rfl
  .by_cases hg:g=g0
   .subst hg;obtain⟨_,_,_,hf,Ci,_⟩:=hblk g sT;cases frz with
    |false=>simp_all
    |true=>
     have ho:=(Ci rfl o).1 hs;have gP:v'.ownBlock=D g:=by rw[sT]at hb;rcases cd.2 with⟨hn,_⟩|⟨g1,cap,cur,hn,_⟩;all_goals grind[blk,Value.ownBlock]
     have Mn:vx.ownBlock=D g:=by rcases aS.2 with⟨hn,_⟩|⟨g1,cap,cur,hn,_⟩;all_goals grind[blk,Value.ownBlock]
     have Mo:(cx.flatten)[o]? = D (cx.flatten[o]'aa):=jn aa;have e1:=aS.cells Mn o _ Mo;have e2:=cd.cells gP o (cx.flatten[o]'aa) (by grind);grind[Å]
   grind[Ñ]
  .exact Ñ (a:=⟨g,o,O⟩) (hh g (hR.here g o hs))
 have Mp:∀g,blk v'=D g->Own w0 refs g/\(∀k b,σ1.bx k = .live b->blk (γ k)≠D g)/\g<w'.heap.size:=by
  intro g hg;have ao:g<w'.heap.size:=by rcases cd.2 with⟨hn,_⟩|⟨g1,cap,cur,hn,_,hh,_⟩;all_goals grind[blk]
  rcases di with⟨rfl,rfl⟩|⟨hb,⟨g0,sT⟩,hh⟩|⟨hb,hh⟩
  .simp_all
  .simp_all
  .rw[hb]at hg;simp at hg;subst hg;exact⟨.inl hR.grow,λk b hk aP=>by have:=lj (bI.box k b hk) aP;omega,ao⟩
 obtain⟨dy,gZ⟩:=Cf bI rO (hm:=L5 hT ht) (w':=w') (S':=S') (v':=v') (e:=ti.elem) (el:=el) (zs:=xs++ys) (frz:=frz) (css:=cx++cy) aW (λg hg bD=>by
   grind) cO Mp (λg o hs=>hs.imp id (λh=>h.2.1)) os tape output (by simp_all)
  ((
   xC.mono (λx c hx=>Rep.keep aW _ _ _ hx)).append (zR.mono (λx c hx=>Rep.keep aW _ _ _ hx))) (λg hg=>by
   have hold:∀o,S g o->frz=Â/\o<xs.length*el.size:=by
    intro o hs;rcases di with⟨rfl,rfl⟩|⟨hb,⟨g0,sT⟩,hh⟩|⟨hb,hh⟩
    .grind
    .grind
    .rw[hb]at hg;simp at hg;subst hg;exact absurd hs (Ca hR o)
   grind[É]) (λg hg=>by
   rcases di with⟨rfl,rfl⟩|⟨hb,⟨g0,sT⟩,hh⟩|⟨hb,hh⟩
   .simp_all
   .simp_all
   .rw[hb]at hg;simp at hg;subst hg;exact hR.kw_new (jh _))
 exact⟨v',w',S',_,hr,dy,gZ⟩
end
theorem jGD(L l:F G)(v:G)(n:H)(h:n<L.length) :
  (L.set n v).take (n+1)++l++(L.set n v).drop (n+1+l.length)=L.take n++v::l++L.drop (n+(l.length+1)):=by
 obtain⟨A,x,B,hA,rfl⟩:∃A x B,Ï A=n/\L=A++x::B:=⟨L.take n,L[n],L.drop (n+1),aj,by rw[ë h,k6]⟩;subst hA;rw[zq _ _ (jh _),Nat.sub_self,á];have e1:(A++v::B).take (A.length+1)=A++[v]:=by rw[show A++v::B=(A++[v])++B by simp];exact Ý ae
 have e2:(A++x::B).take A.length=A:=Ý rfl;have e3:∀y,(A++y::B).drop (A.length+1+l.length)=B.drop l.length:=by intro y;rw[show A++y::B=(A++[y])++B by simp,<-List.drop_drop,List.drop_left' ae]
 rw[e1,e2,e3,show A.length+(l.length+1)=A.length+1+l.length by omega,e3];simp
theorem WH(off:H):∀(l:F G)(k:H)(cells:Ë G),off+k+l.length<=cells.size->
  ((l.zipIdx k).foldl (λcs x=>cs.setIfInBounds (off+x.2) x.1) cells).toList=cells.toList.take (off+k)++l++cells.toList.drop (off+k+l.length)
 |[],k,cells,_=>ae
 |v::l,k,cells,h=>by
  simp only[jf]at h;rw[List.zipIdx_cons,zr,WH off l (k+1) _ aj];simp only[Array.toList_setIfInBounds];rw[show off+(k+1)=off+k+1 by omega];exact jGD cells.toList l v (off+k) aj
theorem Mq(cells:Ë G)(off:H)(zs:Ë G)(h:off+zs.size<=cells.size) :
  (zs.zipIdx.foldl (λcs (x:G×H)=>cs.setIfInBounds (off+x.2) x.1) cells).toList=cells.toList.take off++zs.toList++cells.toList.drop (off+zs.size):=by
 rw[<-Array.foldl_toList,Array.toList_zipIdx];have:=WH off zs.toList 0 cells (by simpa using h);simpa using this
theorem WI(z:F G):∀(n p:H),p<n*z.length->(M n z).flatten[p]? = z[p%z.length]?
 |0,p,h=>by simp at h
 |n+1,p,h=>by
  rw[List.replicate_succ,kq];by_cases hp:p<z.length
  .rw[ko hp,Nat.mod_eq_of_lt hp]
  .rw[kj aa,WI z n (p-z.length) (by rw[É]at h;omega)];congr 1;exact(Nat.mod_eq_sub_mod aa).symm
theorem WJ(z:Ë G)(n:H)(hz:0<z.size):((Ù (n*z.size)).map (λi=>z[i%z.size]!)).toList=(M n z.toList).flatten:=by
 apply zw;intro p;by_cases hp:p<n*z.size
 .rw[WI z.toList n p (by simpa using hp)];have hm:p%z.size<z.size:=Nat.mod_lt _ hz;simp[hp,hm]
 .rw[qj aj,qj (by rw[List.length_flatten];simp;omega)]
section
variable{N:NT}{np:H}{S0:aX}{w0:Á}{refs:Refs}{σ:St}{a:ß}{w:Á}{S:aX}{γ:H->G}
theorem H6{t:Ty}{z:G}(h:z.cells.toList=lZ t):z.cells.size=t.size:=by
 have:=Rep.length t t.dflt _ (rP (S:=λ_ _=>False) (w:=(default:Á)) t);rw[<-h]at this;simpa using this
theorem H7{t:Ty}{z:G}(h:z.cells.toList=lZ t):∀u∈z.cells.toList,One u:=by
 rw[h];exact Rep.one t t.dflt _ (rP (S:=λ_ _=>False) (w:=(default:Á)) t)
theorem Mr{P:Y}{T:H->À TyI}(hT:cP P T){t:Ç}{ti:TyI}(ht:T t=D ti){ty:Ty}(bJ:ti.ty=D ty) :
  ∃z:G,z.cells.toList=lZ ty/\(Instr.alloc t Â (.tuple #[])).run P w = .ok (.pointer (D ⟨w.heap.size,0,O⟩)) (w.alloc (.cells z.cells t)):=by
 obtain⟨z,hz,hc⟩:=zF hT ht w bJ;refine⟨z,hc,?_⟩;simp only[Instr.alloc,Z,hz,I,newVar,newRow,run_newObj,Ã,World.alloc_eq]
theorem WK{P:Y}(t:Ç)(v:G):(Instr.box t v).run P w = .ok (.pointer (D ⟨w.heap.size,0,O⟩)) (w.alloc (.cells v.cells t)):=by
 simp only[Instr.box,Z,newVar,newRow,run_newObj,I,Ã,World.alloc_eq]
theorem WM{P:Y}{α β:Type}(f:α->Sem β)(g:α->β):∀(l:F α),(∀x∈l,(f x).run P w = .ok (g x) w)->(l.mapM f).run P w = .ok (l.map g) w
 |[],_=>ae
 |x::l,h=>by
  rw[List.mapM_cons];simp only[Z,h x ae,I,WM f g l (λy hy=>h y (by simp[hy])),Ã,qc]
theorem WN{bx:H->BS}{ti:TyI}{sz:H->À H}{place:H->À (H×H)}(hp:∀i f n,ti.flds[i]? = D f->sz f.2=D n->place i=D (f.1,n)) :
  ∀(ps:F (H×Cel))(vs:F (H×G)){ls ls':F Leaf}{cells:Ë G},All2 (λp v=>p.1=v.1/\bS S w γ bx p.2 v.2) ps vs->BM ti sz ls ps=D ls'->
   All2 (bF S w γ bx) ls cells.toList->(∀u∈cells.toList,One u)->∃bO,Ó place cells vs=D bO/\All2 (bF S w γ bx) ls' bO.toList/\∀u∈bO.toList,One u
 |[],[],ls,ls',cells,_,h,ha,h1=>by
  simp[BM]at h;subst h;exact⟨cells,rfl,ha,h1⟩
 |(i,c)::ps,(j,v)::vs,ls,ls',cells,⟨⟨dT,hc⟩,iv⟩,h,ha,h1=>by
  simp only at dT;subst dT;simp only[BM]at h;split at h
  .rename_i f hf;split at h
   .rename_i new eR;split at h
    .rename_i cH;obtain⟨cO,hle⟩:=cH;obtain⟨hl,pO⟩:=zL eR hc;have hlen:=hl.length;have Cc:=ha.length;have om:v.cells.size=new.length:=by rw[hlen];simp
     have dm:cells.size=ls.length:=by rw[Cc];simp
     have Er:=Mq cells f.1 v.cells aa;have dx:=Ei (c:=f.1) ha hl
     obtain⟨bO,jP,h2,h3⟩:=WN hp ps vs (cells:=(v.cells.zipIdx.foldl (λcs (x:G×H)=>cs.setIfInBounds (f.1+x.2) x.1) cells)) iv h
      (by rw[Er];simpa using dx) (by
       rw[Er];intro u hu;simp only[ji]at hu;rcases hu with (hu|hu)|hu
       .exact h1 u (ql hu)
       .exact pO u hu
       .exact h1 u (zg hu))
     refine⟨bO,?_,h2,h3⟩;simp only[Ó,hp i f _ hf cO];rw[if_neg (by simp[om];omega)];exact jP
    .simp at h
   .simp at h
  .simp at h
 |[],_::_,_,_,_,h,_,_,_=>h.elim
 |_::_,[],_,_,_,h,_,_,_=>h.elim
theorem jzl{P:Y}{E:Env}(hT:cP P E.T){bx:H->BS}{t:Ç}{ti:TyI}(ht:E.T t=D ti){ty:Ty}(bJ:ti.ty=D ty)(pM:ty.agg=Â)
  {ps:F (H×Cel)}{vs:Ë (H×G)}{ls:F Leaf}(iv:All2 (λp v=>p.1=v.1/\bS S w γ bx p.2 v.2) ps vs.toList)
  (h:BM ti (λt=>(E.T t).map (·.size)) (pI ty) ps=D ls) :
  ∃z,(Ú t vs).run P w = .ok z w/\bS S w γ bx (.st ls) z:=by
 obtain⟨z,hz,iA⟩:=zF hT ht w bJ;obtain⟨i,d,hi,hd,_,_,_,fE,gn⟩:=oc hT ht;have pN:=(gn ty bJ).2.2;cases d with
 |struct fs=>
  simp only[Ec,jc,jl]at fE;obtain⟨oF,sN⟩:=fE
  have vN:(fs.mapM (λf=>do pure (f.offset,<-sizeOf f.type):Field->Sem (H×H))).run P w = .ok (fs.map λf=>(f.offset,((E.T f.type).map (·.size)).getD 0)) w:=by
   rw[Array.mapM_eq_mapM_toList]
   have:=WM (P:=P) (w:=w) (λf=>(do pure (f.offset,<-sizeOf f.type):Sem (H×H))) (λf:Field=>(f.offset,((E.T f.type).map (·.size)).getD 0)) fs.toList (λf hf=>by
    have:=jw.1 sN f hf;split at this
    .rename_i tf xq;simp only[Z,jM hT xq,I,Ã,xq,kb,kp]
    .simp at this)
   simp only[Sem.run_map,this,I];congr 1;apply à;simp
  have hp:∀(i:H)(f:H×H)(n:H),ti.flds[i]? = D f->(E.T f.2).map (·.size)=D n->(fs.map λf=>(f.offset,((E.T f.type).map (·.size)).getD 0))[i]? = D (f.1,n):=by
   intro i f n hf hn;rw[<-oF,q8]at hf;cases hq:fs.toList[i]? with
   |none=>simp[hq]at hf
   |some fl=>
    simp only[hq,kb,j5]at hf;subst hf;have Es:fs[i]? = D fl:=by simpa using hq
    simp only at hn;simp[Es,hn]
  obtain⟨bO,jP,ha,h1⟩:=WN (S:=S) (w:=w) (γ:=γ) (place:=λi=>(fs.map λf=>(f.offset,((E.T f.type).map (·.size)).getD 0))[i]?) hp ps vs.toList (cells:=z.cells) iv h (by rw[iA];exact xy ty) (H7 iA);refine⟨.agg bO,?_,bO,rfl,ha,h1⟩;simp only[Ú,Z,hz,I,run_underlying hd,vN,jP,Ã]
 |_=>exfalso;revert pN pM;cases ty<;>simp[mu,Ty.agg]
theorem WO{rd:H->BS}{el:Ty}:∀(ps:F (H×Cel)){xs dE:F el.den}{u u':Ups},na rd el xs u ps=D (dE,u')->∃u2,u'=u++u2
 |[],_,_,u,u',h=>by simp[na]at h;exact⟨[],by simp[h.2]⟩
 |(i,c)::ps,xs,dE,u,u',h=>by
  simp only[na]at h;split at h
  .split at h
   .obtain⟨u2,hu⟩:=WO ps h;exact⟨_,by rw[hu,jk]⟩
   .simp at h
  .simp at h
theorem Ms{rd:H->BS}(ba:RdF np σ rd)(hB:xv S w γ σ.bx){el:Ty}(bZ:0<el.size):∀(ps:F (H×Cel))(vs:F (H×G)){xs dE:F el.den}{u u':Ups},
  All2 (λp v=>p.1=v.1/\bS S w γ σ.bx p.2 v.2) ps vs->na rd el xs u ps=D (dE,u')->FrzL np σ.bx u->
  FrzL np σ.bx u'/\∀S',dI S w S' w->Froz σ.bx γ S' w u'->∀(css:F (F G))(cells:Ë G),All2 (λx c=>Rep S' w el x c) xs css->cells.toList=css.flatten->
   ∃bO mD,Ó (λi=>D (i*el.size,el.size)) cells vs=D bO/\All2 (λx c=>Rep S' w el x c) dE mD/\bO.toList=mD.flatten
 |[],[],xs,dE,u,u',_,h,hf=>by
  simp[na]at h;obtain⟨rfl,rfl⟩:=h;exact⟨hf,λS' _ _ css cells ha hc=>⟨cells,css,rfl,ha,hc⟩⟩
 |(i,c)::ps,(j,v)::vs,xs,dE,u,u',⟨⟨dT,hc⟩,iv⟩,h,hf=>by
  simp only at dT;subst dT;simp only[na]at h;split at h
  .rename_i x u1 hx;split at h
   .rename_i hi;obtain⟨oF,Et,pO⟩:=Eh ba hB hx hc;obtain⟨hf',fh⟩:=Ms ba hB bZ ps vs iv h (FrzL.app.2 ⟨hf,oF⟩);obtain⟨u2,Cj⟩:=WO ps h;refine⟨hf',λS' aW fv css cells ha eU=>?_⟩;have hrx:=(Et S' w aW (Froz.app.1 (Froz.app.1 (Cj▸fv)).1).2).1;have Em:cells.size=xs.length*el.size:=by have:=All2.flatten_length (λx c hx=>Rep.length el x c hx) ha;rw[<-eU]at this;simpa using this
    have Ml:i*el.size+el.size<=xs.length*el.size:=by have:(i+1)*el.size<=xs.length*el.size:=k5 _ aa;rwa[vd]at this
    have pO:v.cells.toList.length=el.size:=pO;have om:v.cells.size=el.size:=by simpa using pO
    have zO:v.cells.toList.length=v.cells.size:=qh;have Er:=Mq cells (i*el.size) v.cells aa;obtain⟨ci,oG⟩:∃ci,css[i]? = D ci:=⟨css[i]'(by rw[<-ha.length];exact hi),jn _⟩;have Cd:=Mj (cur:=cells.toList) (n:=xs.length) (c:=0) (zs:=v.cells.toList) (All2.all_len ha) ha.length.symm (by rw[eU,<-eU];exact W (by simp[Em])) oG aa;have eu:ci.length=el.size:=All2.all_len ha ci (jz oG)
    have eR:cells.toList.take (i*el.size)++v.cells.toList++cells.toList.drop (i*el.size+v.cells.size)=(css.set i v.cells.toList).flatten:=by
     have e1:ci.take 0++v.cells.toList++ci.drop (0+v.cells.toList.length)=v.cells.toList:=by rw[Æ aa];simp
     rw[e1]at Cd;rw[<-Cd];symm;refine(W ?_).trans ?_
     .simp;omega
     .simp
    obtain⟨bO,mD,h1,h2,h3⟩:=fh S' aW fv (css.set i v.cells.toList) _ (ha.set i x v.cells.toList hrx) (Er.trans eR);refine⟨bO,mD,?_,h2,h3⟩;simp only[Ó];rw[if_neg (by simp[om];omega)];exact h1
   .simp at h
  .simp at h
 |[],_::_,_,_,_,_,h,_,_=>h.elim
 |_::_,[],_,_,_,_,h,_,_=>h.elim
end
theorem WQ{P:Y}{t e:Ç}(h:P.underlying t=D (.slice e)):P.elem t=e:=by simp[Program.elem,h]
def VB(d:H)(o:À G)(i:H):Prop:=(o=O/\i=d)\/∃k,o=D (.int k (i:Int))
theorem zT{P:Y}{w:Á}{t:Ç}{e s:H}(hd:P.underlying t=D (.slice e))(hs:(sizeOf e).run P w = .ok s w){ad:À Addr}{len cap i j:H}{lo hi:À G}
  (jF:VB 0 lo i)(iW:VB len hi j)(dT:i<=j)(hj:j<=cap) :
  (ç t (.slice ad len cap) lo hi O).run P w = .ok (.slice (if cap=i then ad else ad.map (·.add (i*s))) (j-i) (cap-i)) w:=by
 have he:=WQ hd;have iH:P.underlying t=D (.slice (P.elem t)):=by rw[he];exact hd
 rw[run_sliceAt_slice w t _ _ _ _ iH];have fL:(sizeOf (P.elem t)).run P w = .ok s w:=by rw[he];exact hs
 rcases jF with⟨rfl,rfl⟩|⟨kl,rfl⟩
 .rcases iW with⟨rfl,rfl⟩|⟨kh,rfl⟩;all_goals grind[run_slice_all,Result.andThen,sliced,run_slice_h]
 .rcases iW with⟨rfl,rfl⟩|⟨kh,rfl⟩;all_goals grind[run_slice_l,Result.andThen,sliced,run_slice_lh]
section
variable{N:NT}{np:H}{S0:aX}{w0:Á}{refs:Refs}{σ:St}{a:ß}{w:Á}{S:aX}{γ:H->G}
theorem WR{el:Ty}{xs:F el.den}{ad:À Addr}{cap:H}(h:Rep S w (.list el) xs [.slice ad (Ï xs) cap]){i j:H}(dT:i<=j)(hj:j<=Ï xs) :
  Rep S w (.list el) ((xs.take j).drop i) [.slice (if cap=i then ad else ad.map (·.add (i*el.size))) (j-i) (cap-i)]:=by
 obtain⟨ad',iz,he,hle,jN,hn,hb⟩:=h;simp only[vr,È,y9,kc]at he;obtain⟨rfl,rfl⟩:=he;have hlen:((xs.take j).drop i).length=j-i:=aj;refine⟨_,_,by rw[hlen],by rw[hlen];omega,aa,λh=>?_,λb aZ=>?_⟩
 .have:ad=none:=by
   split at h
   .exact h
   .simpa using h
  have:=hn this;omega
 .by_cases hc:cap=i
  .rw[if_pos hc]at aZ;have hz:(xs.take j).drop i=[]:=k8 aa;rw[hz];exact⟨λh=>absurd rfl h,[],trivial,λj v hv=>by simp at hv⟩
  .rw[if_neg hc]at aZ;cases ad with
   |none=>simp at aZ
   |some b0=>
    simp only[kb,j5]at aZ;subst aZ;obtain⟨dx,css,ha,hl⟩:=hb b0 rfl;by_cases hx:(xs.take j).drop i=[]
    .rw[hx];exact⟨λh=>absurd rfl h,[],trivial,λj v hv=>by simp at hv⟩
    .have iB:xs≠[]:=λh=>hx (by rw[h];simp);obtain⟨g,o,sp⟩:=b0;have dx:=dx iB;simp at dx;subst dx;have zU:(⟨g,o,O⟩:Addr).add (i*el.size)=⟨g,o+i*el.size,O⟩:=Å _ _ _;rw[zU];refine⟨λ_=>rfl,(css.take j).drop i,(ha.take j).drop i,λq v hq=>?_⟩;have eu:=All2.all_len ha;rw[En i (λc hc=>eu c (ql hc)),xz j eu,â,ö]at hq;split at hq
     .have:=hl _ v hq;grind
     .simp at hq
def ORep(R:Leaf->G->Prop):À Leaf->À G->Prop
 |none,O=>True
 |some l,D v=>R l v
 |_,_=>False
theorem vO{d:H}{o:À Leaf}{vo:À G}{i:Int}{bx:H->BS}(h:bnd d o=D i)(ho:ORep (bF S w γ bx) o vo)(hi:0<=i):VB d vo i.toNat:=by
 unfold bnd at h;split at h
 .cases vo with
  |none=>simp at h;exact .inl ⟨rfl,aa⟩
  |some v=>exact ho.elim
 .cases vo with
  |none=>exact ho.elim
  |some v=>simp at h;rename_i k n;have hv:v = .int k n:=qH (S:=S) (w:=w) ho;refine .inr ⟨k,?_⟩;grind
 .simp at h
theorem jzm{P:Y}{E:Env}(hT:cP P E.T)(hR:Rel N np S0 w0 refs σ a w S γ){rd:H->BS}(ba:RdOk σ rd){t:Ç}{ti:TyI}(ht:E.T t=D ti)
  {d:H}{x l:Leaf}{lo hi:À Leaf}{vx:G}{sU uG:À G}{u:Ups}(bA:∀k,iR (rd k)=Â->σ.bx k = .free)(h:BN (parK np) rd ti d x lo hi=D (Â,l,u))
  (hx:bF S w γ σ.bx x vx)(jF:ORep (bF S w γ σ.bx) lo sU)(iW:ORep (bF S w γ σ.bx) hi uG) :
  ∃v S' γ',(ç t vx sU uG O).run P w = .ok v w/\Rel N np S0 w0 refs (σ.upd u) a w S' γ'/\bS S' w γ' (σ.upd u).bx (.one l) v:=by
 unfold BN at h;split at h
 ·-- a datum
  rename_i el xs;split at h
  .rename_i bJ;obtain⟨hd,_,te,dJ,cS⟩:=oD hT ht bJ;have cO:=od hT dJ cS;split at h
   .rename_i i j bG jQ;simp only[j5,j9,jc,jl]at h;obtain⟨⟨h0,h1,h2⟩,rfl,rfl⟩:=h;have iV:=hx;obtain⟨ad,cap,hv,hle,_⟩:=hx;simp at hv;subst hv;have hlen:((Ï xs:H):Int)=Int.ofNat (Ï xs):=rfl;refine⟨_,S,γ,zT hd (s:=el.size) ?_ (vO bG jF h0) (vO jQ iW aa) aa aa,hR,WR iV aa aa,λ_=>rfl⟩;grind[jM]
   .simp at h
  .simp at h
 .rename_i k;split at h
  ·-- the tail
   split at h
   .rename_i e el xs f hk;split at h
    .rename_i bJ;obtain⟨hd,_,te,dJ,cS⟩:=oD hT ht bJ;have cO:=od hT dJ cS;split at h
     .rename_i i bG;simp only[j5,j9,jc,jl]at h;obtain⟨⟨h0,h1⟩,rfl,rfl⟩:=h;have cF:=ba.nm hk;have hk:=ba.live hk;have hz:=hx.2.2 _ hk;obtain⟨css,aS,_⟩:=jE cF (hR.box k _ hk);obtain⟨ad,cap,hg,dt⟩:∃ad cap,γ k = .slice ad xs.length cap/\xs.length<=cap:=by rcases aS.2 with⟨hg,hn⟩|⟨g,cap,cur,hg,_,_,kZ,_⟩;all_goals grind
      have vP:VB xs.length uG xs.length:=by
       cases uG with
       |none=>exact .inl ⟨rfl,rfl⟩
       |some v=>exact iW.elim
      subst hz;have aU:=zT (ad:=ad) (w:=w) hd (s:=el.size) (by grind[jM]) (vO bG jF h0) vP aa dt;rw[<-hg]at aU;refine⟨_,S,γ,aU,hR,⟨hx.1,rfl,λb hb=>?_⟩,λ_=>rfl⟩;rw[show (σ.upd []).bx k=σ.bx k from rfl,hk]at hb;grind
     .simp at h
    .simp at h
   .simp at h
  .rename_i hh;split at h
   .rename_i e el xs f hk;split at h
    .rename_i bJ;obtain⟨hd,_,te,dJ,cS⟩:=oD hT ht bJ;have cO:=od hT dJ cS;split at h
     .rename_i i j bG jQ;have cF:=ba.nm hk;have hk:=ba.live hk;have hz:=hx.2.2 _ hk;split at h
      ·-- a xD: its head
       split at h
       .rename_i Ck;simp only[è]at Ck;subst Ck;simp only[j5,j9,jc,jl]at h;obtain⟨⟨h0,h1⟩,rfl,rfl⟩:=h;obtain⟨css,aS,_⟩:=jE cF (hR.box k _ hk)
        have xE:VB 0 sU 0:=by
         cases sU with
         |none=>exact .inl ⟨rfl,rfl⟩
         |some v=>exact jF.elim
        have vP:=vO jQ iW h0;obtain⟨ad,cap,hg,dt,had⟩:∃ad cap,γ k = .slice ad xs.length cap/\xs.length<=cap/\(if cap=0 then ad else ad.map (·.add (0*el.size)))=ad:=by rcases aS.2 with⟨hg,hn⟩|⟨g,cap,cur,hg,_,_,kZ,_⟩;all_goals grind[Å]
        have aU:=zT (ad:=ad) (w:=w) hd (s:=el.size) (by grind[jM]) xE vP aa (show j.toNat<=cap by omega);rw[<-hg,had]at aU;subst hz;refine⟨_,S,γ,aU,hR,⟨hx.1,rfl,λb hb=>?_⟩,λ_=>rfl⟩;rw[show (σ.upd []).bx k=σ.bx k from rfl,hk]at hb;grind
       .simp at h
      rename_i uF;have uF:parK np k=false:=by simpa using uF
      split at h
      ·-- cut short
       rename_i hP;simp only[jc,è,Bool.not_eq_eq_eq_not,jg]at hP;obtain⟨rfl,rfl⟩:=hP;split at h
       .rename_i gY;simp only[j5,j9,jc,jl]at h;obtain⟨⟨h0,h1⟩,rfl,rfl⟩:=h;have hdf:=bA d gY;have zS:d≠k:=by grind
        obtain⟨css,aS,aD,hS⟩:=jE cF (hR.box k _ hk);have eu:=All2.all_len aD
        have xE:VB 0 sU 0:=by
         cases sU with
         |none=>exact .inl ⟨rfl,rfl⟩
         |some v=>exact jF.elim
        have vP:=vO jQ iW h0;have bI:=Ce hR hk;have rO:(σ.setB k .gone).bx d = .free:=by grind[cu]
        have uH:j.toNat<=xs.length:=aa;have Eu:css.length=xs.length:=aD.length.symm
        have key:∃v',(ç t vx sU uG O).run P w = .ok v' w/\w.ownsRow 0 e el.size v' (U j.toNat xs).length (U j.toNat css).flatten/\blk v'=blk vx:=by
         rw[hz];have ao:(U j.toNat xs).length=j.toNat:=aj;rcases aS.2 with⟨hg,hn⟩|⟨g,cap,cur,hg,_,hh,kZ,jN,dm,ea⟩
         .rw[hg];have WS:j.toNat=0:=aa;refine⟨_,zT hd (s:=el.size) (len:=0) (by grind[jM]) xE (by rw[hn]at vP;exact vP) aa aa,?_,by simp;rfl⟩
          simp_all
         .rw[hg];refine⟨_,zT hd (s:=el.size) (by grind[jM]) xE vP aa aa,?_,?_⟩
          .refine⟨?_,.inr ⟨g,cap,cur,?_,jy _,hh,aa,jN,dm,?_⟩⟩
           .rw[xz _ eu,Ê,aS.1,ao]
            simp_all
           .grind[Å]
           .rw[ao,xz _ eu,<-ea,vb,Ü (k5 _ uH)]
          .by_cases hc:cap=0
           .simp[hc];rfl
           .simp[hc,Å];rfl
        obtain⟨v',aU,cd,hblk⟩:=key
        have oJ:∀g,blk v'=D g->Own w0 refs g/\(∀k' b,(σ.setB k .gone).bx k' = .live b->blk (γ k')≠D g)/\g<w.heap.size:=by
         intro g hg;rw[hblk,hz]at hg;refine⟨?_,λk' b' aZ aP=>?_,lj (hR.box k _ hk) hg⟩
         .rcases hR.own k _ g hk hg with h|h;all_goals simp_all
         .have cG:k'≠k:=by grind[fJ]
          rw[cu σ _ cG]at aZ;exact hR.apart k' k _ _ g cG aZ hk aP hg
        obtain⟨dy,gZ⟩:=Cf bI rO (hm:=cF) (w':=w) (S':=S) (v':=v') (e:=e) (el:=el) (zs:=U j.toNat xs) (frz:=J) (css:=U j.toNat css) (.refl S w) (λg hg bD=>rfl) (jh _) oJ
         (λg o hs=> .inl hs) rfl rfl rfl cd (aD.take _) (λg hg=>⟨λ_=>(hS g (by simp_all)).1 rfl,ae⟩) (λg hg=>hR.kw_live hk (by simp_all))
        exact⟨v',S,_,aU,dy,gZ⟩
       .simp at h
      ·-- shared
       simp only[j5,j9,jc,jl]at h;obtain⟨⟨h0,h1,h2⟩,rfl,rfl⟩:=h;obtain⟨S',dK,aW,bR⟩:=Me hR cF hk uF;have nF:=bR;obtain⟨ad,cap,hv,hle,_⟩:=bR;simp at hv;rw[hv]at nF;refine⟨_,S',γ,by rw[hz,hv];exact zT hd (s:=el.size) (by grind[jM]) (vO bG jF h0) (vO jQ iW aa) aa aa,dK,WR nF aa aa,λ_=>rfl⟩
     .simp at h
    .simp at h
   .simp at h
 ·-- of a head
  rename_i k m;split at h
  .rename_i e el xs f hk;split at h
   .rename_i bJ;obtain⟨bJ,hhs⟩:=bJ;obtain⟨hd,_,te,dJ,cS⟩:=oD hT ht bJ;have cO:=od hT dJ cS;split at h
    .rename_i i j bG jQ;simp only[j5,j9,jc,jl]at h;obtain⟨⟨h0,h1,h2⟩,rfl,rfl⟩:=h;have cF:=ba.nm hk;have hk:=ba.live hk;obtain⟨_,hm,ad,cap,hg,hz⟩:=hx.2.2 _ hk;obtain⟨css,aS,_⟩:=HU hg (hR.box k _ hk);have dt:xs.length<=cap:=by rcases aS.2 with⟨aP,hn⟩|⟨g,iz,cur,aP,_,_,kZ,_⟩;all_goals simp_all
     have vP:VB m uG xs.length:=by
      have:=vO jQ iW aa;rw[h2,j8]at this;rcases this with⟨h3,_⟩|h3
      .cases hi with
       |none=>simp at hhs
       |some y=>subst h3;exact iW.elim
      .exact .inr h3
     have aU:=zT (ad:=ad) (w:=w) hd (s:=el.size) (by grind[jM]) (vO bG jF h0) vP aa dt;subst hz;refine⟨_,S,γ,aU,hR,⟨hx.1,rfl,λb hb=>?_⟩,λ_=>rfl⟩;rw[show (σ.upd []).bx k=σ.bx k from rfl,hk]at hb;grind
    .simp at h
   .simp at h
  .simp at h
 .simp at h
theorem jzn{P:Y}{E:Env}(hT:cP P E.T)(hR:Rel N np S0 w0 refs σ a w S γ){rd:H->BS}(ba:RdOk σ rd){t:Ç}{ti:TyI}(ht:E.T t=D ti)
  {x mx:Leaf}{lo hi:À Leaf}{vx vm:G}{sU uG:À G}(h:BO rd ti x lo hi mx=D Â)
  (hx:bF S w γ σ.bx x vx)(jF:ORep (bF S w γ σ.bx) lo sU)(iW:ORep (bF S w γ σ.bx) hi uG)(oK:bF S w γ σ.bx mx vm) :
  ∃v,(ç t vx sU uG (D vm)).run P w = .ok v w:=by
 unfold BO at h;split at h
 case h_2=>simp at h
 rename_i k k1 i k2 j k3 m;split at h
 case h_2=>simp at h
 rename_i e el xs f hk;split at h
 case isFalse=>simp at h
 rename_i bJ;simp only[j5,jc,jl]at h;obtain⟨h0,h1,h2,h3⟩:=h;obtain⟨hd,_,te,dJ,cS⟩:=oD hT ht bJ;have cO:=od hT dJ cS;have cF:=ba.nm hk;have hk:=ba.live hk;have hz:=hx.2.2 _ hk;cases sU with
 |none=>exact jF.elim
 |some vl=>
 cases uG with
 |none=>exact iW.elim
 |some vh=>
 have e1:vl = .int k1 i:=qH (S:=S) (w:=w) jF;have e2:vh = .int k2 j:=qH (S:=S) (w:=w) iW;have e3:vm = .int k3 m:=qH (S:=S) (w:=w) oK;subst e1 e2 e3;obtain⟨css,aS,_⟩:=jE cF (hR.box k _ hk);have he:=WQ hd;have iH:P.underlying t=D (.slice (P.elem t)):=by rw[he];exact hd
 rw[run_sliceAt_slice w t _ _ _ _ iH];have fL:(sizeOf (P.elem t)).run P w = .ok el.size w:=by grind[jM]
 have key:∀ad n cap,(m:Int)<=(cap:H)->∃v,(Instr.slice t (.slice ad n cap) (D (.int k1 i)) (D (.int k2 j)) (D (.int k3 m))).run P w = .ok v w:=by intro ad n cap hc;rw[run_slice_lhm w t ad n cap iH _ _ _ _ _ _ h0 h1 h2 hc,fL];exact⟨_,rfl⟩
 rcases aS.2 with⟨hg,hn⟩|⟨g,cap,cur,hg,_,hh,kZ,_⟩
 .simp_all
 .rw[hz,hg];exact key _ _ _ (qq h3 aa)
theorem WT(hR:Rel N np S0 w0 refs σ a w S γ){x:Leaf}{k i e:H}{el:Ty}{xs:F el.den}{f:Ö}{vx:G}(h:HI x=D (k,i))(cF:isM e=J)(hk:σ.bx k = .live (.lst e el xs f))
  (hx:bF S w γ σ.bx x vx):i<=xs.length/\((xs.length=0/\vx = .slice O 0 0)\/
   ∃g cap,γ k = .slice (D ⟨g,0,O⟩) xs.length cap/\xs.length<=cap/\vx = .slice (D ⟨g,if cap=i then 0 else i*el.size,O⟩) (xs.length-i) (cap-i)):=by
 obtain⟨css,aS,aD,hS⟩:=jE cF (hR.box k _ hk);unfold HI at h;split at h
 .simp only[j5,j9]at h;obtain⟨rfl,rfl⟩:=h;have hz:=hx.2.2 _ hk;refine⟨jy _,?_⟩;rcases aS.2 with⟨hg,hn⟩|⟨g,cap,cur,hg,_,hh,kZ,jN,dm,ea⟩;all_goals grind
 .rename_i k' i';simp only[j5,j9]at h;obtain⟨rfl,rfl⟩:=h;obtain⟨_,hi,ad,cap,aP,hv⟩:=hx.2.2 _ hk;refine⟨hi,?_⟩;rcases aS.2 with⟨hg,hn⟩|⟨g,iz,cur,hg,_,hh,kZ,jN,dm,ea⟩;all_goals grind[Å]
 .simp at h
theorem Mt{P:Y}(hR:Rel N np S0 w0 refs σ a w S γ){k i e g cap:H}{el:Ty}{xs zs:F el.den}(hk:σ.bx k = .live (.lst e el xs J))(hg:γ k = .slice (D ⟨g,0,O⟩) xs.length cap)
  {cz:F (F G)}(hz:All2 (λx c=>Rep S w el x c) zs cz)(hl:i+zs.length<=xs.length) :
  ∃w',(storeCells ⟨g,i*el.size,O⟩ cz.flatten).run P w = .ok () w'/\Rel N np S0 w0 refs (σ.setB k (.live (.lst e el (U i xs++(zs++Ð (i+zs.length) xs)) J))) a w' S γ:=by
 have cF:=Wa hg (hR.box k _ hk);obtain⟨css,aS,aD,hS⟩:=jE cF (hR.box k _ hk);have qK:cz.flatten.length=zs.length*el.size:=All2.flatten_length (λx c hx=>Rep.length el x c hx) hz;have h1:∀u∈cz.flatten,One u:=by intro u hu;obtain⟨c,hc,B3⟩:=List.mem_flatten.1 hu;obtain⟨x,_,hx⟩:=hz.mem_right c hc;grind[Rep.one]
 rcases aS.2 with⟨aP,hn⟩|⟨g',iz,cur,aP,_,hh,kZ,jN,dm,ea⟩
 .simp_all
 rw[hg]at aP;simp only[È,j5,Addr.mk.injEq,y9,kc]at aP;obtain⟨rfl,rfl⟩:=aP;have gg:i*el.size+zs.length*el.size<=xs.length*el.size:=by rw[<-É];exact k5 _ hl
 have hQ:xs.length*el.size<=cap*el.size:=k5 _ kZ;have aW:=run_storeCells_at P g (i*el.size) e cz.flatten 0 cur w hh (by rw[qK,dm];omega) h1;simp only[ø]at aW;refine⟨_,aW,?_⟩;have eu:=All2.all_len aD;have hczl:=All2.all_len hz;have zP:∀o,¬S g o:=(hS g (by rw[hg];rfl)).1 rfl;refine Cb hR hk (by rw[hg];rfl) zP (b':= .lst e el _ J) ⟨rfl,rfl,λ_=>aj⟩ hh (λff dp=>?_);have hlen:(U i xs++(zs++Ð (i+zs.length) xs)).length=xs.length:=aj;refine B4 cF ⟨css.take i++(cz++css.drop (i+zs.length)),⟨?_,.inr ⟨g,cap,_,?_,jy _,setRow_heap w g cur _ e (0,0) hh,by rw[hlen];exact kZ,jN,?_,?_⟩⟩,?_,λg' aP=>?_⟩
 .grind[zM,All2.length,Ä]
 .rw[hlen];exact hg
 .grind
 .rw[hlen];simp only[Ò,xz i eu,En _ eu,<-ea];have hA:(cur.toList.take (i*el.size)).length=i*el.size:=aj;rw[jk,Ø,hA,W aa,vb,Ü aa];congr 1;rw[Ø,qK,W aa,É];congr 1;grind[List.drop_take]
 .exact((aD.mono (λx c hx=>Rep.keep dp _ _ _ hx)).take _).append ((hz.mono (λx c hx=>Rep.keep dp _ _ _ hx)).append ((aD.mono (λx c hx=>Rep.keep dp _ _ _ hx)).drop _))
 simp_all
theorem WU{σ:St}{k:H}{b:BS}(h:σ.bx k=b):σ.setB k b=σ:=by
 unfold St.setB;congr 1;grind
theorem jAR{P:Y}{E:Env}(hT:cP P E.T)(hR:Rel N np S0 w0 refs σ a w S γ){rd:H->BS}(ba:RdOk σ rd){t ty:Ç}{ti:TyI}(ht:E.T t=D ti)
  {x y l:Leaf}{u:Ups}{vx vy:G}(h:BP rd ti.ty x y=D (l,u))(hx:bF S w γ σ.bx x vx)(hy:bF S w γ σ.bx y vy) :
  ∃v w',(é #[t,t] ty #[vx,vy]).run P w = .ok v w'/\Rel N np S0 w0 refs (σ.upd u) a w' S γ/\bS S w' γ (σ.upd u).bx (.one l) v:=by
 unfold BP at h;split at h
 .rename_i k i Ev;split at h
  .rename_i e el xs hk;split at h
   .rename_i bJ;split at h
    .rename_i ys iK;simp only[j5,j9]at h;obtain⟨rfl,rfl⟩:=h;have cF:=ba.nm hk;have hk:=ba.live hk;obtain⟨hd,bZ,te,dJ,cS⟩:=oD hT ht bJ;have cO:=od hT dJ cS;have gH:(sizeOf ti.elem).run P w = .ok el.size w:=by grind[jM]
     obtain⟨ad,c,cy,H3,gp,zR,fa⟩:=WG hR ba iK hy;subst H3;obtain⟨hi,di⟩:=WT hR Ev cF hk hx;have Mu:=All2.all_len zR;have qL:cy.length=ys.length:=zR.length.symm;have fT:(U (xs.length-i) ys).length=min ys.length (xs.length-i):=aj;have Cl:over xs i ys=U i xs++(U (xs.length-i) ys++Ð (i+(U (xs.length-i) ys).length) xs):=by unfold over;grind[Æ]
     have xF:(Õ el.size (min ys.length (xs.length-i)) (.slice ad ys.length c)).run P w = .ok (U (xs.length-i) cy).flatten.toArray w:=by
      cases ad with
      |none=>
       have h0:=(gp rfl).1
       simp_all[Õ]
      |some b=>
       have e1:(U (xs.length-i) cy).flatten.length=min ys.length (xs.length-i)*el.size:=by grind[zM,Ê]
       have:=run_loadCells_list (P:=P) w b (U (xs.length-i) cy).flatten (λj v hj=>by
        rw[xz _ Mu,ö]at hj;split at hj;all_goals simp_all)
       grind[Õ]
     have aU:∀base dl dc w',vx = .slice base dl dc->dl=xs.length-i->(base=O->w'=w)->(∀ab,base=D ab->(storeCells ab (U (xs.length-i) cy).flatten).run P w = .ok () w')->
       (é #[t,t] ty #[vx,.slice ad ys.length c]).run P w = .ok (goInt ((min ys.length (xs.length-i):H):Int)) w':=by
      intro base dl dc w' hv rQ dS gm;subst hv rQ;have sV:Nat.min ys.length (xs.length-i)=min ys.length (xs.length-i):=rfl;cases base with
      |none=>simp[é,run_underlying hd,ó,gH,sV,xF,dS rfl]
      |some ab=>simp[é,run_underlying hd,ó,gH,sV,xF,gm ab rfl]
     by_cases hn:min ys.length (xs.length-i)=0
     .have hz:U (xs.length-i) ys=[]:=k8 (by rw[fT];exact hn);have iA:(U (xs.length-i) cy).flatten=[]:=by grind
      have hov':over xs i ys=xs:=by rw[Cl,hz];simp
      refine⟨_,w,?_,?_,⟨rfl,λ_=>rfl⟩⟩
      .rcases di with⟨h0,hv⟩|⟨g,cap,hg,dt,hv⟩
       .exact aU O 0 0 w hv aa (λ_=>rfl) (λab bH=>by simp at bH)
       .refine aU _ _ _ w hv rfl (λ_=>rfl) (λab bH=>?_);rw[iA];rfl
      .show Rel N np S0 w0 refs (σ.setB k (.live (.lst e el (over xs i ys) J))) a w S γ;grind[WU]
     .rcases di with⟨h0,hv⟩|⟨g,cap,hg,dt,hv⟩
      .omega
      .have oG:cap≠i:=aa;rw[if_neg oG]at hv;obtain⟨w',aW,dy⟩:=Mt (P:=P) hR hk hg (i:=i) (zR.take (xs.length-i)) (by rw[fT];omega);refine⟨_,w',aU _ _ _ w' hv rfl (λh=>by simp at h) (λab bH=>?_),?_,⟨rfl,λ_=>rfl⟩⟩
       .simp_all
       .show Rel N np S0 w0 refs (σ.setB k (.live (.lst e el (over xs i ys) J))) a w' S γ;rw[Cl];exact dy
    .simp at h
   .simp at h
  .simp at h
 .simp at h
theorem jzo{P:Y}{E:Env}(hT:cP P E.T)(hR:Rel N np S0 w0 refs σ a w S γ){rd:H->BS}(ba:RdOk σ rd){t ty:Ç}{ti:TyI}(ht:E.T t=D ti)
  {x:Leaf}{u:Ups}{vx:G}(h:BQ rd ti.ty x=D u)(hx:bF S w γ σ.bx x vx) :
  ∃v w',(ï #[t] ty #[vx]).run P w = .ok v w'/\Rel N np S0 w0 refs (σ.upd u) a w' S γ:=by
 unfold BQ at h;split at h
 .rename_i k i Ev;split at h
  .rename_i e el xs hk;split at h
   .rename_i bJ;simp only[j5]at h;subst h;have cF:=ba.nm hk;have hk:=ba.live hk;obtain⟨hd,bZ,te,dJ,cS⟩:=oD hT ht bJ;have cO:=od hT dJ cS;obtain⟨z,hz,iA⟩:=zF hT dJ w cS;obtain⟨hi,di⟩:=WT hR Ev cF hk hx;by_cases hn:xs.length-i=0
    .have Cl:U i xs++M (xs.length-i) el.dflt=xs:=by grind[W]
     refine⟨.tuple #[],w,?_,?_⟩
     .rcases di with⟨h0,hv⟩|⟨g,cap,hg,dt,hv⟩;all_goals simp_all[ï,run_underlying]
     .show Rel N np S0 w0 refs (σ.setB k (.live (.lst e el (U i xs++M (xs.length-i) el.dflt) J))) a w S γ;grind[WU]
    .rcases di with⟨h0,hv⟩|⟨g,cap,hg,dt,hv⟩
     .omega
     .have oG:cap≠i:=aa;rw[if_neg oG]at hv
      have WV:All2 (λx c=>Rep S w el x c) (M (xs.length-i) el.dflt) (M (xs.length-i) (lZ el)):=by
       have h0:=rP (S:=S) (w:=w) el
       have:∀n,All2 (λx c=>Rep S w el x c) (M n el.dflt) (M n (lZ el)):=by
        intro n;induction n with
        |zero=>exact trivial
        |succ n ih=>exact⟨h0,ih⟩
       exact this _
      obtain⟨w',aW,dy⟩:=Mt (P:=P) hR hk hg (i:=i) WV aj;refine⟨.tuple #[],w',?_,?_⟩
      .have hzp:0<z.cells.size:=by have:=H6 iA;omega
       have eU:(Builtin.zeroCells z.cells (xs.length-i)).toList=(M (xs.length-i) (lZ el)).flatten:=by rw[<-iA];exact WJ z.cells (xs.length-i) hzp
       simp_all[ï,run_underlying]
      .show Rel N np S0 w0 refs (σ.setB k (.live (.lst e el (U i xs++M (xs.length-i) el.dflt) J))) a w' S γ
       simp_all
   .simp at h
  .simp at h
 .simp at h
theorem jDU{P:Y}{E:Env}(hT:cP P E.T)(hR:Rel N np S0 w0 refs σ a w S γ){rd:H->BS}(ba:RdOk σ rd){t ty:Ç}{ti:TyI}(ht:E.T t=D ti){el:Ty}(bJ:ti.ty=D (.list el))
  {s x v:Leaf}{u:Ups}{vs vx:G}(h:appH rd ti.elem el s x=D (Â,v,u))(hs:bF S w γ σ.bx s vs)(hx:bF S w γ σ.bx x vx) :
  ∃z w',(Í #[t,t] ty #[vs,vx]).run P w = .ok z w'/\Rel N np S0 w0 refs (σ.upd u) a w' S γ/\bF S w' γ (σ.upd u).bx v z/\One z:=by
 unfold appH at h;split at h
 case h_2=>simp at h
 rename_i k i k' j;split at h
 case isFalse=>simp at h
 rename_i cG;subst cG;split at h
 case h_2=>simp at h
 rename_i e b xs hk;split at h
 case isFalse=>simp at h
 rename_i hb;obtain⟨hb,he⟩:=hb;subst hb;subst he;simp only[j5,j9,jl]at h;obtain⟨dT,rfl,rfl⟩:=h;obtain⟨hd,_,te,dJ,cS⟩:=oD hT ht bJ;have cO:=od hT dJ cS;obtain⟨inf,d,hi,_,l5,_⟩:=oc hT dJ;have qM:inf.size=b.size:=by rw[l5,<-cO]
 have cF:=ba.nm hk;have hk:=ba.live hk;obtain⟨_,iL,ad,cap,hg,om⟩:=hs.2.2 _ hk;obtain⟨_,xG,ad',iz,aP,Mn⟩:=hx.2.2 _ hk;rw[hg]at aP;simp only[È,kc]at aP;obtain⟨rfl,rfl⟩:=aP;obtain⟨css,aS,aD,hS⟩:=HU hg (hR.box k _ hk);have eu:=All2.all_len aD;have xH:(U i xs++(Ð j xs++Ð (i+(xs.length-j)) xs)).length=xs.length:=aj;have ma:∀(w':Á),bF S w' γ (σ.setB k (.live (.lst ti.elem b (U i xs++(Ð j xs++Ð (i+(xs.length-j)) xs)) J))).bx (.hd k (i+(xs.length-j))) (.slice ad (i+(xs.length-j)) cap):=by intro w';refine⟨by rw[fJ];simp,rfl,λb' aZ=>?_⟩;grind[fJ]
 rcases aS.2 with⟨kP,hn⟩|⟨g,Ew,cur,kP,_,hh,kZ,jN,dm,ea⟩
 .rw[hg]at kP;simp only[È]at kP;obtain⟨rfl,_,rfl⟩:=kP;have xB:xs=[]:=k8 hn;subst xB;have hi0:i=0:=by simpa using iL
  have WS:j=0:=by simpa using xG
  subst hi0 WS;have aU:=run_append_owned_none (P:=P) w 0 t ty ti.elem inf b.size hd hi (.slice O 0 0) 0 [] (æ w 0 ti.elem b.size)
  have hid:σ.setB k (.live (.lst ti.elem b ([]:F b.den) J))=σ:=by
   show St.mk σ.sl _=σ;have:(λj=>if j=k then BS.live (.lst ti.elem b ([]:F b.den) J) else σ.bx j)=σ.bx:=by grind
   rw[this]
  refine⟨_,w,by simp_all,?_,ma w,rfl⟩;show Rel N np S0 w0 refs (σ.setB k (.live (.lst ti.elem b ([]:F b.den) J))) a w S γ;rw[hid];exact hR
 .rw[hg]at kP;simp only[È,kc]at kP;obtain⟨rfl,rfl⟩:=kP;obtain⟨w',aW,dy⟩:=Mt (P:=P) (i:=i) hR hk hg (aD.drop j) aj;have qK:(css.drop j).flatten.length=(xs.length-j)*b.size:=by have:=All2.flatten_length (λx c hx=>Rep.length b x c hx) (aD.drop j);simpa using this
  have h1:∀u∈(css.drop j).flatten,One u:=by intro u hu;obtain⟨c,hc,B3⟩:=List.mem_flatten.1 hu;obtain⟨x,_,hx⟩:=(aD.drop j).mem_right c hc;grind[Rep.one]
  have gg:i*b.size+(xs.length-j)*b.size<=xs.length*b.size:=by grind[É]
  have hQ:xs.length*b.size<=cap*b.size:=k5 _ kZ;have dp:=run_storeCells_at P g (i*b.size) _ (css.drop j).flatten 0 cur w hh (by rw[qK,dm];omega) h1;simp only[ø]at dp
  have hw:w'=w.setRow g (cur.toList.take (i*b.size)++(css.drop j).flatten++cur.toList.drop (i*b.size+(css.drop j).flatten.length)).toArray:=by
   simp_all
  have eU:∀q u,(css.drop j).flatten[q]? = D u->w.cell? ((⟨g,if cap=j then 0 else j*b.size,O⟩:Addr).add q)=D u:=by
   intro q u hq;have hql:q<(xs.length-j)*b.size:=by grind
   have hc:¬cap=j:=by grind
   rw[if_neg hc,Å];rw[En j eu,â]at hq;have:=aS.cells (g:=g) (by rw[hg];rfl) _ u hq;grind[Å]
  have aU:=run_append_room (P:=P) w t ty ti.elem inf hd hi g i cap cur (by exact hh) ⟨g,if cap=j then 0 else j*b.size,O⟩ (xs.length-j) (cap-j) (css.drop j).flatten (by rw[qM];exact qK) eU h1 aa
   (by grind)
  have hvx':vx = .slice (D ⟨g,if cap=j then 0 else j*b.size,O⟩) (xs.length-j) (cap-j):=by grind[Å]
  refine⟨_,w',by simp_all,?_,ma w',rfl⟩;have:(Ð j xs).length=xs.length-j:=ae;rw[this]at dy;exact dy
theorem jDV(hR:Rel N np S0 w0 refs σ a w S γ){rdf:H->BS}(bu:RdF np σ rdf){e:H}{el:Ty}{s:Leaf}{m:H}{ls:F Leaf}{u:Ups}{vs:G}(h:rowS rdf e el s=D (m,ls,u))(hs:bF S w γ σ.bx s vs) :
  ∃cs,w.ownsRow 0 e el.size vs m cs/\All2 (bF S w γ σ.bx) ls cs/\(∀u∈cs,One u)/\Rel N np S0 w0 refs (σ.upd u) a w S γ/\BxLe γ σ.bx γ (σ.upd u).bx/\
   (∀k,σ.bx k = .free->(σ.upd u).bx k = .free)/\∀g,blk vs=D g->(∀o,¬S g o)/\Own w0 refs g/\refs.kw g=O/\g<w.heap.size/\∀k b,(σ.upd u).bx k = .live b->blk (γ k)≠D g:=by
 unfold rowS at h;split at h
 .simp only[j5,j9]at h;obtain⟨rfl,rfl,rfl⟩:=h;have hz:vs = .slice O 0 0:=hs;subst hz;exact⟨[],æ w 0 e el.size,trivial,ae,hR,.refl _ _,λk h=>h,λg hg=>by simp[blk]at hg⟩
 .rename_i k;split at h
  case h_2=>simp at h
  rename_i e' a' m' ls' hk;split at h
  case isFalse=>simp at h
  rename_i hc;obtain⟨rfl,rfl⟩:=hc;simp only[j5,j9]at h;obtain⟨rfl,rfl,rfl⟩:=h;have bC:=bu.ok.live hk;have hz:vs=γ k:=hs.2.2 _ bC;subst hz;obtain⟨_,⟨cs,aS,aD,h1⟩,hS⟩:=hR.box k _ bC;refine⟨cs,aS,aD,h1,Ce hR bC,?_,?_,λg hg=>⟨hS g hg,?_,hR.kw_live bC hg,lj (hR.box k _ bC) hg,?_⟩⟩
  .intro k' fo;show (σ.setB k .gone).bx k'≠_/\_;by_cases cG:k'=k
   .subst cG;exact⟨by rw[fJ];simp,rfl,λb hb=>by have hb:(σ.setB k' .gone).bx k' = .live b:=hb;grind[fJ]⟩
   .exact⟨by grind[cu],rfl,λb hb=>by have hb:(σ.setB k .gone).bx k' = .live b:=hb;rw[cu _ _ cG]at hb;exact⟨b,hb,.refl b⟩⟩
  .intro k' h;show (σ.setB k .gone).bx k'=_;grind[cu]
  .rcases hR.own k _ g bC hg with h|h
   .exact h
   .rw[bu.par hk]at h;simp at h
  .intro k' b hb aP;have hb:(σ.setB k .gone).bx k' = .live b:=hb;by_cases cG:k'=k
   .grind[fJ]
   .rw[cu _ _ cG]at hb;exact hR.apart k' k _ _ g cG hb bC aP hg
 .simp at h
theorem jDW{P:Y}{E:Env}(hT:cP P E.T)(hR:Rel N np S0 w0 refs σ a w S γ){rd rdf:H->BS}(ba:RdOk σ rd)(bu:RdF np σ rdf){t ty:Ç}{ti:TyI}(ht:E.T t=D ti){el:Ty}(bJ:ti.ty=D (.list el)){n:H}
  {s x v:Leaf}{u:Ups}{vs vx:G}(h:appN rd rdf ti.elem el n s x=D (v,u))(hs:bF S w γ σ.bx s vs)(hx:bF S w γ σ.bx x vx) :
  ∃z w' γ',(Í #[t,t] ty #[vs,vx]).run P w = .ok z w'/\Rel N np S0 w0 refs (σ.upd u) a w' S γ'/\bF S w' γ' (σ.upd u).bx v z/\One z:=by
 unfold appN at h;split at h
 case h_2=>simp at h
 rename_i k;split at h
 case h_2=>simp at h
 rename_i e' a' m ls hk;split at h
 case h_2=>simp at h
 rename_i m0 HM u0 Cd;split at h
 case isFalse=>simp at h
 rename_i hc;obtain⟨⟨rfl,rfl⟩,gQ,fg,gY⟩:=hc;simp only[j5,j9]at h;obtain⟨rfl,rfl⟩:=h;have hn:=ba.free gY;have bC:=bu.ok.live hk;have hz:vx=γ k:=hx.2.2 _ bC;subst hz;obtain⟨cF,⟨cs,aS,aD,h1⟩,Wz⟩:=hR.box k _ bC;obtain⟨cs0,Ey,sW,H8,bI,il,Mv,om⟩:=jDV hR bu Cd hs;have dr:(σ.upd u0).bx k = .live (.row ti.elem a' m ls):=(l9 u0 σ gQ).trans bC;have cC:=Ce bI dr;have zV:((σ.upd u0).setB k .gone).bx n = .free:=by grind[cu]
 have ff:BxLe γ σ.bx γ ((σ.upd u0).setB k .gone).bx:=by intro k' fo;obtain⟨q1,q2,q3⟩:=il k' fo;grind[fJ,cu]
 obtain⟨ad,c,Mw,gp,ik⟩:∃ad c,γ k = .slice ad m c/\(ad=O->m=0/\c=0)/\∀b,ad=D b->∀(j:H)(u:G),cs[j]? = D u->w.cell? (b.add j)=D u:=by
  rcases aS.2 with⟨h2,h3⟩|⟨g,cap,cur,h2,_,hh,_,_,_,ea⟩
  .grind
  .exact⟨D ⟨g,0,O⟩,cap,h2,λh=>by simp at h,λb hb j u hu=>by
    simp at hb;subst hb;exact aS.cells (g:=g) (by rw[h2];rfl) j u hu⟩
 obtain⟨v',w',hr,cd,os,tape,output,cO,di⟩:=WE (ty:=ty) hT ht bJ Ey (ad:=ad) (m:=m) (c:=c) (news:=cs) gp aS.1 ik h1 (by simp only[aK];omega)
 have gG:∀g,g<w.heap.size->blk v'≠D g->w'.heap[g]? = w.heap[g]? := by
  grind
 have lg:∀g,blk v'=D g->g<w'.heap.size:=λg hg=>by
  rcases cd.2 with⟨h2,_⟩|⟨g2,Ew,Mx,h2,_,hh2,_⟩;all_goals grind[blk]
 have hv:∀g,blk v'=D g->(∀o,¬S g o)/\Own w0 refs g/\refs.kw g=O/\∀k' b,((σ.upd u0).setB k .gone).bx k' = .live b->blk (γ k')≠D g:=by
  intro g hg;have old:blk vs=D g->(∀o,¬S g o)/\Own w0 refs g/\refs.kw g=O/\∀k' b,((σ.upd u0).setB k .gone).bx k' = .live b->blk (γ k')≠D g:=by grind[cu]
  rcases di with⟨rfl,_⟩|⟨h2,_,_⟩|⟨h2,_⟩
  .exact old hg
  .simp_all
  .rw[hg]at h2;simp at h2;subst h2;exact⟨λo=>Ca hR o,.inl hR.grow,hR.kw_new (jh _),λk' b hb aZ=>by have:=lj (cC.box k' b hb) aZ;omega⟩
 have aW:dI S w S w':=λg o h=>⟨h,Ñ (gG g (hR.here g o h) (λhb=>(hv g hb).1 o h))⟩
 obtain⟨dy,_⟩:=jGC cC zV (b:= .row ti.elem a' (m0+m) (HM++ls)) aW gG cO (λg hg=>⟨(hv g hg).2.1,(hv g hg).2.2.2,lg g hg⟩) os tape output (λhle=>by
  have qN:BxLe γ σ.bx (gset γ n v') (((σ.upd u0).setB k .gone).setB n (.live (.row ti.elem a' (m0+m) (HM++ls)))).bx:=λk' fo=>by
   obtain⟨q1,q2,q3⟩:=ff k' fo;obtain⟨p1,p2,p3⟩:=hle k' q1
   exact⟨p1,p2.trans q2,λb' aZ=>by
    obtain⟨b1,dS,kM⟩:=p3 b' aZ;obtain⟨b2,gm,l5⟩:=q3 b1 dS;exact⟨b2,gm,l5.trans kM⟩⟩
  refine⟨cF,⟨cs0++cs,by rw[eQ];exact cd,(sW.append aD).mono (λx u hx=>bF.keep aW qN hx),λu hu=>(ji.1 hu).elim (H8 u) (h1 u)⟩,λg hg o=>?_⟩;grind[eQ]) (λg hg=>(hv g hg).2.2.1)
 have df:One v':=by rcases cd.2 with⟨h2,_⟩|⟨g2,Ew,Mx,h2,_⟩<;>rw[h2]<;>rfl
 refine⟨v',w',gset γ n v',by rw[Mw];exact hr,?_,?_,df⟩
 .rw[mC];exact dy
 .rw[mC];exact⟨by show (((σ.upd u0).setB k .gone).setB n _).bx n≠_;rw[fJ];simp,df,λb _=>(eQ γ n v').symm⟩
theorem jDX(hR:Rel N np S0 w0 refs σ a w S γ){k d e m:H}{el:Ty}{xs:F el.den}(hk:σ.bx k = .live (.lst e el xs J))(uF:parK np k=J)(hdf:σ.bx d = .free){ad:À Addr}{cap:H}(hm:m<=xs.length)
  (hg:γ k = .slice ad xs.length cap) :
  ∃γ',Rel N np S0 w0 refs (σ.upd [(k,.gone),(d,.live (.lst e el (U m xs) J))]) a w S γ'/\bS S w γ' (σ.upd [(k,.gone),(d,.live (.lst e el (U m xs) J))]).bx (.one (.ol d)) (.slice ad m cap):=by
 have zS:d≠k:=by grind
 have cF:=Wa hg (hR.box k _ hk);obtain⟨css,aS,aD,hS⟩:=jE cF (hR.box k _ hk);have eu:=All2.all_len aD;have bI:=Ce hR hk;have rO:(σ.setB k .gone).bx d = .free:=by grind[cu]
 have ao:(U m xs).length=m:=aj;have hblk:blk (.slice ad m cap)=blk (γ k):=by rw[hg];cases ad<;>rfl
 have cd:w.ownsRow 0 e el.size (.slice ad m cap) (U m xs).length (U m css).flatten:=by
  refine⟨?_,?_⟩
  .rw[xz _ eu,Ê,aS.1,ao]
   simp_all
  .rcases aS.2 with⟨aP,hn⟩|⟨g,iz,cur,aP,_,hh,kZ,jN,dm,ea⟩
   .simp_all
   .rw[hg]at aP;simp only[È,kc]at aP;obtain⟨rfl,rfl⟩:=aP;refine .inr ⟨g,cap,cur,by rw[ao],jy _,hh,aa,jN,dm,?_⟩;rw[ao,xz _ eu,<-ea,vb,Ü (k5 _ hm)]
 have oJ:∀g,blk (.slice ad m cap)=D g->Own w0 refs g/\(∀k' b,(σ.setB k .gone).bx k' = .live b->blk (γ k')≠D g)/\g<w.heap.size:=by
  intro g hg;rw[hblk]at hg;refine⟨?_,λk' b' aZ aP=>?_,lj (hR.box k _ hk) hg⟩
  .rcases hR.own k _ g hk hg with h|h;all_goals simp_all
  .have cG:k'≠k:=by grind[fJ]
   rw[cu σ _ cG]at aZ;exact hR.apart k' k _ _ g cG aZ hk aP hg
 obtain⟨dy,gZ⟩:=Cf bI rO (hm:=cF) (w':=w) (S':=S) (v':= .slice ad m cap) (e:=e) (el:=el) (zs:=U m xs) (frz:=J) (css:=U m css) (.refl S w) (λg hg bD=>rfl) (jh _) oJ
  (λg o hs=> .inl hs) rfl rfl rfl cd (aD.take _) (λg hg=>⟨λ_=>(hS g (by rw[<-hblk];exact hg)).1 rfl,ae⟩) (λg hg=>hR.kw_live hk (by rw[<-hblk];exact hg))
 exact⟨_,dy,gZ⟩
end
section
variable{N:NT}{np:H}{S0:aX}{w0:Á}{refs:Refs}{σ:St}{a:ß}{w:Á}{S:aX}{γ:H->G}
theorem jAS{el:Ty}{z:G}(hz:z.cells.toList=lZ el)(n:H)(bZ:0<el.size) :
  ∃css,All2 (λx c=>Rep S w el x c) (M n el.dflt) css/\((Ù (n*z.cells.size)).map (λi=>z.cells[i%z.cells.size]!)).toList=css.flatten:=by
 refine⟨M n (lZ el),?_,?_⟩
 .have hz:=rP (S:=S) (w:=w) el;induction n with
  |zero=>exact trivial
  |succ n ih=>exact⟨hz,ih⟩
 grind[WJ,H6]
theorem jqP{P:Y}{E:Env}(hT:cP P E.T)(hR:Rel N np S0 w0 refs σ a w S γ){rdf:H->BS}(bu:RdF np σ rdf){t:Ç}{ti:TyI}(ht:E.T t=D ti)
  {el:Ty}(bJ:ti.ty=D (.list el)){len d:H}{ps:F (H×Cel)}{vs:Ë (H×G)}{xs:F el.den}{u:Ups}(hlen:len*el.size<=16777216)
  (iv:All2 (λp v=>p.1=v.1/\bS S w γ σ.bx p.2 v.2) ps vs.toList)(h:na rdf el (M len el.dflt) [] ps=D (xs,u))(hd:σ.bx d = .free) :
  ∃v' w' S' γ',(Ì t len vs).run P w = .ok v' w'/\Rel N np S0 w0 refs (σ.upd (u++[(d,.live (.lst ti.elem el xs J))])) a w' S' γ'/\
   bS S' w' γ' (σ.upd (u++[(d,.live (.lst ti.elem el xs J))])).bx (.one (.ol d)) v':=by
 obtain⟨pN,bZ,te,dJ,cS⟩:=oD hT ht bJ;have cO:=od hT dJ cS;obtain⟨hf,fh⟩:=Ms bu hR.box bZ ps vs.toList iv h .nil;obtain⟨S1,bI,cT,fv,dq⟩:=oE u σ S hR hf;obtain⟨z,hz,iA⟩:=zF hT dJ w cS;have kO:z.cells.size=el.size:=H6 iA;obtain⟨My,sW,ij⟩:=jAS (S:=S1) (w:=w) iA len bZ;obtain⟨bO,mD,jP,aD,eU⟩:=fh S1 cT fv My _ sW ij
 have nG:xs.length=len:=by
  have key:∀(ps:F (H×Cel)){xs dE:F el.den}{u u':Ups},na rdf el xs u ps=D (dE,u')->dE.length=xs.length:=by intro ps;induction ps<;>grind[na]
  grind
 have dm:bO.size=len*el.size:=by grind[All2.flatten_length,Rep.length]
 have hzero:(if len*ti.size=0 then (Pure.pure #[]:Sem (Ë G)) else (do pure (<-zeroValue ti.elem).cells))=(if len*ti.size=0 then Pure.pure #[] else (do pure (<-zeroValue ti.elem).cells)):=rfl
 have aU:(Ì t len vs).run P w = .ok (.slice (D ⟨w.heap.size,0,O⟩) len len) (w.alloc (.cells bO ti.elem)):=by
  have db:¬len*te.size>2^24:=by rw[<-cO];omega
  simp only[Ì,Z,run_underlying pN,I,jM hT dJ,ý,if_neg db];by_cases h0:len*te.size=0
  .have jO:len=0:=by grind[Nat.mul_eq_zero]
   subst jO;have Mz:Ó (λi=>D (i*te.size,te.size)) ((Ù (0*te.size)).map (λi=>(#[]:Ë G)[i%(#[]:Ë G).size]!)) vs.toList=D bO:=by grind
   simp_all[newRow]
  .have MA:Ó (λi=>D (i*te.size,te.size)) ((Ù (len*te.size)).map (λi=>z.cells[i%z.cells.size]!)) vs.toList=D bO:=by
    simp_all
   simp_all[newRow]
 rw[mC];have aW:=zK bI (.cells bO ti.elem)
 obtain⟨dy,gZ⟩:=Cf bI (dq.free hd) (hm:=L5 hT ht) (w':=w.alloc (.cells bO ti.elem)) (S':=S1) (v':= .slice (D ⟨w.heap.size,0,O⟩) len len) (e:=ti.elem) (el:=el) (zs:=xs) (frz:=J) (css:=mD)
  aW (λg hg _=>heap_alloc_old w _ hg) ae (λg hg=>by
   simp[blk]at hg;subst hg;exact⟨.inl hR.grow,λk b hk aP=>by have:=lj (bI.box k b hk) aP;omega,ae⟩) (λg o hs=> .inl hs) rfl rfl rfl
  (by
   rw[nG,<-eU];have hle:len<=maxLen:=by have:len*1<=len*el.size:=vj _ bZ;simp only[maxLen];omega
   grind[û]) (aD.mono (λx c hx=>Rep.keep aW _ _ _ hx)) (λg hg=>by
   simp[blk]at hg;subst hg;exact⟨λ_ o=>Ca bI o,ae⟩) (λg hg=>by simp[blk]at hg;subst hg;exact bI.kw_new (jh _))
 exact⟨_,_,S1,_,aU,dy,gZ⟩
theorem jDY{P:Y}{E:Env}(hT:cP P E.T)(hR:Rel N np S0 w0 refs σ a w S γ){t:Ç}{ti:TyI}(ht:E.T t=D ti)
  {el:Ty}(bJ:ti.ty=D (.list el)){n len:H}{fr:Ö}{ps:F (H×Cel)}{vs:Ë (H×G)}{b:Ö}{s:Slot}{u:Ups}(hn:fr=Â->σ.bx n = .free)
  (iv:All2 (λp v=>p.1=v.1/\bS S w γ σ.bx p.2 v.2) ps vs.toList)(h:one1 fr ti.elem el n len ps=D (.val b s u)) :
  b=Â/\s = .one (.one (.ol n))/\∃v' w' γ',(Ì t len vs).run P w = .ok v' w'/\Rel N np S0 w0 refs (σ.upd u) a w' S γ'/\bS S w' γ' (σ.upd u).bx (.one (.ol n)) v':=by
 unfold one1 at h;split at h
 case h_2=>simp at h
 rename_i c;split at h
 case h_2=>simp at h
 rename_i ls oL;split at h
 case isFalse=>simp at h
 rename_i hc;obtain⟨rfl,Ck,fg,gY,cF⟩:=hc;simp only[j5,Act.val.injEq]at h;obtain⟨rfl,rfl,rfl⟩:=h;refine⟨rfl,rfl,?_⟩
 obtain⟨⟨j,z⟩,om⟩:∃p,vs.toList=[p]:=by
  match hv:vs.toList,iv with
  |[p],_=>exact⟨p,rfl⟩
 rw[om]at iv;obtain⟨⟨hj,iU⟩,_⟩:=iv;simp only at hj iU;subst hj;obtain⟨ha,h1⟩:=zL oL iU;have fT:z.cells.toList.length=el.size:=by rw[<-ha.length,Ck]
 have kO:z.cells.size=el.size:=by simpa using fT
 obtain⟨pN,bZ,te,dJ,cS⟩:=oD hT ht bJ;have cO:=od hT dJ cS;obtain⟨z0,rR,iA⟩:=zF hT dJ w cS;have hz0s:z0.cells.size=el.size:=H6 iA;have jP:Ó (λi=>D (i*te.size,te.size)) ((Ù (1*te.size)).map (λi=>z0.cells[i%z0.cells.size]!)) vs.toList=D z.cells:=by have Er:=Mq ((Ù (1*te.size)).map (λi=>z0.cells[i%z0.cells.size]!)) 0 z.cells aj;grind[Ó,à,Æ]
 have aU:(Ì t 1 vs).run P w = .ok (.slice (D ⟨w.heap.size,0,O⟩) 1 1) (w.alloc (.cells z.cells ti.elem)):=by
  have db:¬1*te.size>2^24:=by rw[<-cO];omega
  have h0:¬1*te.size=0:=aa;simp only[Ì,Z,run_underlying pN,I,jM hT dJ,ý,if_neg db]
  simp_all[newRow]
 obtain⟨dy,_⟩:=HY hR (hn gY) (o:= .cells z.cells ti.elem) (b:= .row ti.elem el 1 ls) (v:= .slice (D ⟨w.heap.size,0,O⟩) 1 1) (λg hg=>by grind[blk]) (λhle=>
  ⟨cF,⟨z.cells.toList,by grind[eQ,û,maxLen],ha.mono (λx u hx=>bF.keep (zK hR _) hle hx),h1⟩,
   λg hg o=>by rw[eQ]at hg;simp[blk]at hg;subst hg;exact Ca hR o⟩)
 refine⟨_,_,_,aU,dy,⟨by show (σ.setB n _).bx n≠_;rw[fJ];simp,rfl,λb' aZ=>(eQ _ _ _).symm⟩,λ_=>rfl⟩
theorem zW{rd:H->BS}(ba:RdF np σ rd):∀{ls:F Leaf}{xs:F TV}{u:Ups}{zs:F G},tvs rd ls=D (xs,u)->All2 (bF S w γ σ.bx) ls zs->
  FrzL np σ.bx u/\∀S' w',dI S w S' w'->Froz σ.bx γ S' w' u->All2 (λx z=>Rep S' w' x.t x.v [z]) xs zs
 |[],xs,u,zs,h,ha=>by
  simp[tvs]at h;obtain⟨rfl,rfl⟩:=h;cases zs with
  |nil=>exact⟨.nil,λ_ _ _ _=>trivial⟩
  |cons _ _=>exact ha.elim
 |l::ls,xs,u,zs,h,ha=>by
  cases zs with
  |nil=>exact ha.elim
  |cons z zs=>
   simp only[tvs]at h;split at h
   .rename_i H9 u1 h1;obtain⟨f1,p1⟩:=zW ba h1 ha.2;split at h
    .rename_i t v;simp only[j5,j9]at h;obtain⟨rfl,rfl⟩:=h;exact⟨f1,λS' w' hk hf=>⟨Rep.keep hk _ _ _ ha.1,p1 S' w' hk hf⟩⟩
    .rename_i k;split at h
     .rename_i e t es f hk;simp only[j5,j9]at h;obtain⟨rfl,rfl⟩:=h;have bC:=ba.ok.live hk;refine⟨λx hx=>?_,λS' w' aW hf=>⟨?_,p1 S' w' aW (λx hx=>hf x (qm _ hx))⟩⟩
      .rcases jb.1 hx with rfl|hx
       .exact⟨ba.par hk,e,t,es,f,bC,rfl,ba.ok.nm hk⟩
       .exact f1 x hx
      .have:=hf (k,_) (zb ..) e t es f bC;rw[ha.1.2.2 _ bC];exact this
     .simp at h
    .simp at h
   .simp at h
theorem WW(hR:Rel N np S0 w0 refs σ a w S γ){k:H}{ls:F Leaf}{f:Ö}(hk:σ.bx k = .live (.cell ls f))(hp:parK np k=J){xs:F TV}
  (hx:∀g cur e,γ k = .pointer (D ⟨g,0,O⟩)->w.heap[g]? = D (.cells cur e (0,0))->All2 (bF S w γ σ.bx) ls (cur.toList.take ls.length)->All2 (λx z=>Rep S w x.t x.v [z]) xs (cur.toList.take ls.length)) :
  ∃S' g,Rel N np S0 w0 refs (σ.setB k (.live (.cell (xs.map TV.leaf) Â))) a w S' γ/\dI S w S' w/\γ k = .pointer (D ⟨g,0,O⟩)/\kY S' w (.p xs) (.pointer (D ⟨g,0,O⟩)):=by
 obtain⟨g,cur,e,hg,hh,fe,h1,WC,hS2⟩:=hR.box k _ hk;have iB:=hx g cur e hg hh fe;let S':aX:=λg' o=>S g' o\/(g'=g/\o<cur.size)
 have aW:dI S w S' w:=λg o h=>⟨.inl h,rfl⟩
 have hle:BxLe γ σ.bx γ (σ.setB k (.live (.cell (xs.map TV.leaf) Â))).bx:=by
  intro k' bC;by_cases cG:k'=k
  .subst cG;rw[fJ];exact⟨ae,rfl,λb hb=>by simp at hb;subst hb;exact⟨_,hk,trivial⟩⟩
  .rw[cu σ _ cG];exact⟨bC,rfl,λb hb=>⟨b,hb,.refl b⟩⟩
 have bX:∀k' b,(σ.setB k (.live (.cell (xs.map TV.leaf) Â))).bx k' = .live b->∃b',σ.bx k' = .live b':=by grind[cu]
 refine⟨S',g,Rel.step (bx':=(σ.setB k (.live (.cell (xs.map TV.leaf) Â))).bx) hR aW hle ?_ ?_ ?_ ?_ ?_ hR.below hR.grow hR.os hR.tape hR.output (λg _ _ h=>⟨rfl,λk' b' aZ=>by grind⟩),aW,hg,?_⟩
 .intro k' b hb;by_cases cG:k'=k
  .subst cG;rw[fJ]at hb;simp at hb;subst hb;have hl:=HT fe iB;exact⟨g,cur,e,hg,hh,by rw[ki,hl];exact sK (iB.mono (λx z hz=>Rep.keep aW _ _ _ hz)),by simp_all,ae,λ_ o ho=> .inr ⟨rfl,ho⟩⟩
  .rw[cu σ _ cG]at hb;refine eZ.keep aW hle rfl (λg' aP=>⟨rfl,λo=>⟨λhs=>?_,.inl⟩⟩) (hR.box k' b hb);rcases hs with hs|hs
   .exact hs
   .exact absurd (by rw[hg,hs.1];rfl) (hR.apart k' k b _ g' cG hb hk aP)
 .intro k' b g' hb aP;obtain⟨b',aZ⟩:=bX k' b hb;exact hR.own k' b' g' aZ aP
 .intro k1 k2 b1 b2 g' bD h1 h2 aP;obtain⟨vI,og⟩:=bX k1 b1 h1;obtain⟨vJ,mz⟩:=bX k2 b2 h2;exact hR.apart k1 k2 vI vJ g' bD og mz aP
 .intro g' o hs;rcases hs with hs|hs
  .exact hR.new g' o hs
  .rcases hR.own k _ g hk (by rw[hg];rfl) with h|h;all_goals simp_all
 .intro g' o hs;rcases hs with hs|hs
  .exact hR.here g' o hs
  grind
 .refine⟨g,0,cur.toList.take ls.length,rfl,iB.mono (λx z hz=>Rep.keep aW _ _ _ hz),λj v hv=>?_⟩;grind[cell_of_row]
theorem WX{rd:H->BS}(ba:RdF np σ rd):∀{cs:F Cel}{l:F Cap}{u:Ups}{zs:F G},xd rd cs=D (l,u)->Rel N np S0 w0 refs σ a w S γ->All2 (bS S w γ σ.bx) cs zs->
  ∃S',Rel N np S0 w0 refs (σ.upd u) a w S' γ/\dI S w S' w/\All2 (kY S' w) l zs/\(∀k e t xs f,σ.bx k = .live (.lst e t xs f)->∃f',(σ.upd u).bx k = .live (.lst e t xs f'))/\BxLe γ σ.bx γ (σ.upd u).bx/\∀k,σ.bx k = .free->(σ.upd u).bx k = .free
 |[],l,u,zs,h,hR,ha=>by
  simp[xd]at h;obtain⟨rfl,rfl⟩:=h;cases zs with
  |nil=>exact⟨S,hR,.refl S w,trivial,λk e t xs f h=>⟨f,h⟩,.refl _ _,λ_ h=>h⟩
  |cons _ _=>exact ha.elim
 |c::r,l,u,zs,h,hR,ha=>by
  cases zs with
  |nil=>exact ha.elim
  |cons z zs=>
   simp only[xd]at h;split at h
   .rename_i l1 u1 h1;obtain⟨S1,bI,cT,eP,pO,il,Ez⟩:=WX ba h1 hR ha.2;split at h
    .rename_i t v;split at h
     .rename_i hP;simp only[j5,j9]at h;obtain⟨rfl,rfl⟩:=h;exact⟨S1,bI,cT,⟨⟨hP,Rep.keep cT _ _ _ ha.1.1⟩,eP⟩,pO,il,Ez⟩
     .simp at h
    .rename_i k;split at h
     .rename_i ls f hk;split at h
      .rename_i xs u2 h2;split at h
       .simp at h
       .rename_i gQ;simp only[j5,j9]at h;obtain⟨rfl,rfl⟩:=h;have uF:=ba.par hk;have hk:=ba.ok.live hk;have gQ:(u1++u2).any (λy=>y.1==k)=false:=qa.2 gQ;rw[ì,v8]at gQ;obtain⟨g,cur,e,hg,hh,fe,_⟩:=hR.box k _ hk;obtain⟨sN,xr⟩:=zW ba h2 fe;have MB:FrzL np (σ.upd u1).bx u2:=by intro x hx;obtain⟨xI,e',t',dE,f',aZ,iV⟩:=sN x hx;obtain⟨f2,h2⟩:=pO _ e' t' dE f' aZ;exact⟨xI,e',t',dE,f2,h2,iV⟩
        obtain⟨S2,cC,dp,sX,oM⟩:=oE u2 (σ.upd u1) S1 bI MB;have EB:Froz σ.bx γ S2 w u2:=by intro x hx e' t' dE f' aZ;obtain⟨f2,h2⟩:=pO _ e' t' dE f' aZ;exact sX x hx e' t' dE f2 h2
        have fo:((σ.upd u1).upd u2).bx k = .live (.cell ls f):=by rw[l9 u2 _ gQ.2,l9 u1 _ gQ.1,hk]
        obtain⟨S3,g3,gz,EC,MC,dt⟩:=WW cC fo uF (xs:=xs) (λg' jR e' aP xt _=>by
         rw[hg]at aP;simp at aP;subst aP;rw[hh]at xt;simp at xt;obtain⟨rfl,_⟩:=xt;exact xr S2 w (cT.trans dp) EB)
        have hz:z=γ k:=by obtain⟨g4,h4,h5⟩:=ha.1.1.2.2 _ hk;rw[h5,h4]
        rw[mC,mC];refine⟨S3,gz,(cT.trans dp).trans EC,⟨by rw[hz,MC];exact dt,eP.mono (λx z hx=>kY.keep (dp.trans EC) hx)⟩,λk' e' t' dE f' aZ=>?_,?_,λk' bC=>?_⟩
        .obtain⟨f2,h2⟩:=pO _ e' t' dE f' aZ;obtain⟨f3,h3⟩:=oM.lst h2;have cG:k'≠k:=by rintro rfl;rw[fo]at h3;simp at h3
         exact⟨f3,by show (((σ.upd u1).upd u2).setB k _).bx k'=_;rw[cu _ _ cG];exact h3⟩
        .have ff:BxLe γ (σ.upd u1).bx γ ((σ.upd u1).upd u2).bx:=oM.le
         have qN:BxLe γ ((σ.upd u1).upd u2).bx γ ((((σ.upd u1).upd u2)).setB k (.live (.cell (xs.map TV.leaf) Â))).bx:=by
          intro k' bC;by_cases cG:k'=k
          .subst cG;rw[fJ];exact⟨ae,rfl,λb hb=>by simp at hb;subst hb;exact⟨_,fo,trivial⟩⟩
          .rw[cu _ _ cG];exact⟨bC,rfl,λb hb=>⟨b,hb,.refl b⟩⟩
         have tr:∀{b1 b2 b3:H->BS},BxLe γ b1 γ b2->BxLe γ b2 γ b3->BxLe γ b1 γ b3:=by intro b1 b2 b3 uI h23 k' bC;obtain⟨q1,q2,q3⟩:=uI k' bC;obtain⟨r1,r2,r3⟩:=h23 k' q1;refine⟨r1,rfl,λb hb=>?_⟩;obtain⟨b',aZ,fL⟩:=r3 b hb;obtain⟨ED,sY,sZ⟩:=q3 b' aZ;refine⟨ED,sY,?_⟩;exact sZ.trans fL
         exact tr (tr il ff) qN
        .have h3:=oM.free (Ez k' bC);have cG:k'≠k:=by rintro rfl;rw[hk]at bC;simp at bC
         show (((σ.upd u1).upd u2).setB k _).bx k'=_;rw[cu _ _ cG];exact h3
      .simp at h
     .simp at h
    .simp at h
   .simp at h
theorem WY:∀{cs:F Cel}{ks:F H}{zs:F G},DR cs=D ks->All2 (bS S w γ σ.bx) cs zs->All2 (Ea γ σ.bx) ks zs
 |[],ks,zs,h,ha=>by
  simp[DR]at h;subst h;cases zs with
  |nil=>trivial
  |cons _ _=>exact ha.elim
 |c::r,ks,zs,h,ha=>by
  cases zs with
  |nil=>exact ha.elim
  |cons z zs=>
   unfold DR at h;split at h
   .rename_i h0;simp at h0
   .rename_i k r' h0;simp only[vr]at h0;obtain⟨rfl,rfl⟩:=h0;split at h
    .rename_i LX hk;simp only[j5]at h;subst h;obtain⟨⟨h1,h2,h3⟩,_⟩:=ha.1;exact⟨⟨h1,h2,h3⟩,WY hk ha.2⟩
    .simp at h
   .simp at h
theorem WZ:∀{ks:F H}{zs:F G},All2 (Ea γ σ.bx) ks zs->All2 (bS S w γ σ.bx) (ks.map λk=> .one (.bp k 0)) zs
 |[],[],_=>trivial
 |k::ks,z::zs,h=>⟨⟨h.1,λ_=>h.1.2.1⟩,WZ h.2⟩
 |[],_::_,h=>h.elim
 |_::_,[],h=>h.elim
end
section
variable(S:aX)(w:Á)
def EE(ls:F TV)(u:G):Prop:=
 ∃g cur e,u = .pointer (D ⟨g,0,O⟩)/\w.heap[g]? = D (.cells cur e (0,0))/\All2 (λx z=>Rep S w x.t x.v [z]) ls (cur.toList.take ls.length)/\∀o,¬S g o
def xJ(e:H)(x:TV)(u:G):Prop:=
 ∃(a:Ty)(xs:F a.den),x=⟨.list a,xs⟩/\sH S w e a xs u/\∀g,blk u=D g->∀o,¬S g o
def oO:Arg->G->Prop
 |.v x,u=>VRep S w x u
 |.ref ls,u=>EE S w ls u
 |.rl e x,u=>xJ S w e x u
 |.ip ls,u=>∃g o cs,u = .pointer (D ⟨g,o,O⟩)/\All2 (λx z=>Rep S w x.t x.v [z]) ls cs/\Lies S w g o cs
 |.clo f caps,u=>∃cv:Ë G,u = .func (.func f) #[] cv/\All2 (kY S w) caps cv.toList
 |.mv e x,u=>xJ S w e x u/\isM e=J
def mb:Arg->G->À H
 |.ref _,u=>blk u
 |.rl _ _,u=>blk u
 |.mv _ _,u=>blk u
 |_,_=>O
def ei:F Arg->F G->F H
 |a::as,u::us=>(mb a u).toList++ei as us
 |_,_=>[]
def mvOf:F Arg->F G->F H
 |.mv _ _::as,u::us=>(blk u).toList++mvOf as us
 |_::as,_::us=>mvOf as us
 |_,_=>[]
def Ia:RL->G->Prop
 |.d x,z=>One z/\Rep S w x.t x.v [z]
 |.own e x,z=>xJ S w e x z
def rS:RV->G->Prop
 |.v x,u=>VRep S w x u
 |.own e x,u=>xJ S w e x u
 |.box ls,u=>EE S w ls u
 |.hd _,u=>One u
 |.clo f caps,u=>∃cv:Ë G,u = .func (.func f) #[] cv/\All2 (kY S w) caps cv.toList
 |.so ls,u=>∃cs:Ë G,u = .agg cs/\All2 (Ia S w) ls cs.toList
 |.raw _ _,_=>True
 |.vn x ns,u=>VRep S w x u/\∀cs,u = .agg cs->∀i∈ns,∀z,cs.toList[i]? = D z->z = .slice O 0 0
def oo:RV->G->À H
 |.v _,_=>O
 |.hd _,_=>O
 |.vn _ _,_=>O
 |.clo _ _,_=>O
 |.so _,_=>O
 |.raw _ _,_=>O
 |_,u=>blk u
def pQ:F RL->F G->F H
 |.own _ _::ls,z::zs=>(blk z).toList++pQ ls zs
 |.d _::ls,_::zs=>pQ ls zs
 |_,_=>[]
def mE:RV->G->F H
 |.so ls,u=>pQ ls u.cells.toList
 |r,u=>(oo r u).toList
def gC:F RV->F G->F H
 |r::rs,u::us=>mE r u++gC rs us
 |_,_=>[]
def mF:F Arg->F G->F Out->Prop
 |[],[],[]=>True
 |.ref _::as,u::us,.ref ys::os=>EE S w ys u/\mF as us os
 |.rl e x::as,u::us,.rl y::os=>xJ S w e y u/\y.t=x.t/\mF as us os
 |.v _::as,_::us,os=>mF as us os
 |.ip _::as,_::us,os=>mF as us os
 |.clo _ _::as,_::us,os=>mF as us os
 |.mv _ _::as,_::us,os=>mF as us os
 |_,_,_=>False
end
def nH(vs:F G):Value:=match vs with
 |[v]=>v
 |vs=> .tuple vs.toArray
def Ib:F Arg->F G->À G
 |.ref _::_,u::_=>D u
 |.rl _ _::_,u::_=>D u
 |_::as,_::us=>Ib as us
 |_,_=>O
def emp:St:=⟨λ_=> .one (.one .dead),λ_=> .free⟩
def MD(h0:H)(S:aX)(w:Á)(ns:F H)(s:Snap)(v:G):Prop:=
 ∃γ zs,v=nH zs/\All2 (bS S w γ (emp.upd (rawU ns s)).bx) (rawC ns s) zs/\(∀k b,(emp.upd (rawU ns s)).bx k = .live b->eZ S w γ (emp.upd (rawU ns s)).bx k b)/\
  (∀k b g,(emp.upd (rawU ns s)).bx k = .live b->blk (γ k)=D g->h0<=g)/\
  ∀k k' b b' g,k≠k'->(emp.upd (rawU ns s)).bx k = .live b->(emp.upd (rawU ns s)).bx k' = .live b'->blk (γ k)=D g->blk (γ k')≠D g
structure Ic(w:Á)(S:aX)(args:F Arg)(vals:F G)(ret:Ret)(v:G)(w':Á)(S':aX)(vs:F G):Prop where
 val:v=nH vs
 rep:All2 (rS S' w') ret.vals vs
 fresh:∀g∈gC ret.vals vs,w.heap.size<=g\/g∈mvOf args vals
 apart:(gC ret.vals vs).Nodup
 outs:mF S' w' args vals ret.outs
 stays:dI S w S' w'
 new:∀g o,S' g o->S g o\/w.heap.size<=g\/g∈mvOf args vals
 here:∀g o,S' g o->g<w'.heap.size
 below:∀g,g<w.heap.size->g∉ei args vals->w'.heap[g]? = w.heap[g]?
 grow:w.heap.size<=w'.heap.size
 os:w'.os=w.os
 tape:w'.tape=w.tape
 output:w'.output=w.output
 raw:∀ns s,ret.vals=[.raw ns s]->MD w.heap.size S' w' ns s v
 head:∀m,ret.vals=[.hd m]->∃ad len cap,Ib args vals=D (.slice ad len cap)/\m<=len/\vs=[.slice ad m cap]
def Ie(P:Y)(f:H)(args:F Arg)(K:Ret->Prop):Prop:=
 ∀(w:Á)(S:aX)(vals:F G),All2 (oO S w) args vals->(ei args vals).Nodup->(∀g o,S g o->g<w.heap.size)->
  Calls P f vals.toArray w λe w'=>∃ret,K ret/\∃v S' vs,e = .returned v/\Ic w S args vals ret v w' S' vs
def Fun(P:Y)(f:H):Prop:=
 ∃ fn, P.funcs[f]? = D fn ∧ fn.body.isNone = J ∧ (fn.name == "runtime.NumGoroutine") = J
def FnOK(P:Y)(f:H)(c:F Arg->(R:Type)->(Ret->À R)->À R):Prop:=
 ∀(args:F Arg)(R:Type)(k:Ret->À R)(r:R),c args R k=D r->Fun P f/\Ie P f args λret=>k ret=D r
def lk(P:Y)(C:H->F Arg->(R:Type)->(Ret->À R)->À R):Prop:=∀f,FnOK P f (C f)
section
variable{N:NT}{np:H}{S0:aX}{w0:Á}{refs:Refs}{σ:St}{a:ß}{w:Á}{S:aX}{γ:H->G}
theorem vQ{S':aX}{w':Á}:∀(t:Ty)(v:t.den)(cs:F G),t.flat=Â->Rep S w t v cs->Rep S' w' t v cs
 |.int _,_,_,_,h=>h
 |.bool,_,_,_,h=>h
 |.str,_,_,_,h=>h
 |.unit,_,_,_,h=>h
 |.wrap a,v,cs,hf,h=>vQ a v cs hf h
 |.pair a b,_,_,hf,⟨c1,c2,e,h1,h2⟩=>by
  simp only[Ty.flat,jc]at hf;exact⟨c1,c2,e,vQ a _ _ hf.1 h1,vQ b _ _ hf.2 h2⟩
 |.list _,_,_,hf,_=>by grind[Ty.flat]
 |.arr _ a,_,_,hf,⟨hn,css,ha,e⟩=>⟨hn,css,ha.mono (λx c hx=>vQ a x c hf hx),e⟩
def h9(bx:H->BS)(γ:H->G):F Arg->F G->F Bk->Prop
 |[],[],[]=>True
 |.ref ls::as,u::us,.ref k::fs=>u=γ k/\(∃ls',bx k = .live (.cell ls' J))/\h9 bx γ as us fs
 |.rl e x::as,u::us,.rl k e' t::fs=>e=e'/\u=γ k/\(∃xs,bx k = .live (.lst e t xs J)/\x=⟨.list t,xs⟩)/\h9 bx γ as us fs
 |.v _::as,_::us,fs=>h9 bx γ as us fs
 |.ip _::as,_::us,fs=>h9 bx γ as us fs
 |.clo _ _::as,_::us,fs=>h9 bx γ as us fs
 |.mv e x::as,u::us,.mv k e' t::fs=>e=e'/\u=γ k/\(∃xs,bx k = .live (.lst e t xs J)/\x=⟨.list t,xs⟩)/\h9 bx γ as us fs
 |_,_,_=>False
theorem jAU{rd rdf:H->BS}(hR:Rel N np S0 w0 refs σ a w S γ)(ba:RdR σ rd)(bu:RdF np σ rdf){t:À TyI}{mv rl:Ö}{c:Cel}{arg:Arg}{u:Ups}{f:À Bk}{z:G}
  (h:xe rd rdf t mv rl c=D (arg,u,f))(hc:bS S w γ σ.bx c z) :
  FrzL np σ.bx u/\h9 σ.bx γ [arg] [z] f.toList/\∀S',dI S w S' w->Froz σ.bx γ S' w u->(∀k b,f.toList.any (λy=>y.name==k)=Â->σ.bx k = .live b->∀g,blk (γ k)=D g->∀o,¬S' g o)->oO S' w arg z:=by
 unfold xe at h;split at h
 .rename_i k;split at h
  .rename_i ls hk;split at h
   .rename_i xs u1 h1;simp only[j5,j9]at h;obtain⟨rfl,rfl,rfl⟩:=h;have hk:=ba.live hk;obtain⟨g,hg,hz⟩:=hc.1.2.2 _ hk;obtain⟨g',cur,e,aP,hh,fe,_,_,hS⟩:=hR.box k _ hk;rw[hg]at aP;simp at aP;subst aP;obtain⟨hf,hp⟩:=zW bu h1 fe;refine⟨hf,trivial,λS' aW fv _=>⟨g,0,cur.toList.take ls.length,hz,hp S' w aW fv,λj v hv=>?_⟩⟩;have hv:cur.toList[j]? = D v:=by grind
    have hj:j<cur.size:=by grind
    rw[ku];refine⟨(aW _ _ (hS rfl j hj)).1,?_⟩;grind[cell_of_row]
   .simp at h
  .rename_i ls hk;split at h
   .rename_i xs u1 h1;simp only[j5,j9]at h;obtain⟨rfl,rfl,rfl⟩:=h;have hk:=ba.live hk;obtain⟨g,hg,hz⟩:=hc.1.2.2 _ hk;obtain⟨g',cur,e,aP,hh,fe,_⟩:=hR.box k _ hk;rw[hg]at aP;simp at aP;subst aP;obtain⟨hf,hp⟩:=zW bu h1 fe;refine⟨hf,⟨hz.trans hg.symm,⟨ls,hk⟩,trivial⟩,λS' aW fv hn=>⟨g,cur,e,hz,hh,by grind[HT],?_⟩⟩;exact hn k _ (by simp[Bk.name]) hk g (by rw[hg];rfl)
   .simp at h
  .simp at h
 .simp only[j5,j9]at h;obtain⟨rfl,rfl,rfl⟩:=h;refine⟨.nil,trivial,λS' aW _ _=>?_⟩;obtain⟨g,o,cs,hz,ha,hl⟩:=hc.1;exact⟨g,o,cs,hz,ha.mono (λx z hx=>Rep.keep aW _ _ _ hx),hl.keep aW⟩
 .simp only[j5,j9]at h;obtain⟨rfl,rfl,rfl⟩:=h;refine⟨.nil,trivial,λS' aW _ _=>?_⟩;obtain⟨cv,hz,ha⟩:=hc.1;exact⟨cv,hz,ha.mono (λx z hx=>kY.keep aW hx)⟩
 .rename_i k;split at h
  .cases mv with
   |true=>
    rw[j6]at h;split at h
    .rename_i e t xs hk;simp only[j5,j9]at h;obtain⟨rfl,rfl,rfl⟩:=h;have cF:=bu.ok.nm hk;have hk:=bu.ok.live hk;have hz:=hc.1.2.2 _ hk;refine⟨.nil,⟨rfl,hz,⟨xs,hk,rfl⟩,trivial⟩,λS' aW _ hn=>?_⟩;have fU:=(hR.box k _ hk).1;exact⟨⟨t,xs,rfl,by rw[hz];exact fU.keep aW (λ_ _=>rfl),λg hg=>hn k _ (by simp[Bk.name]) hk g (by rw[<-hz];exact hg)⟩,cF⟩
    .simp at h
   |false=>
   rw[j7]at h;split at h
   .rename_i e t xs hk;simp only[j5,j9]at h;obtain⟨rfl,rfl,rfl⟩:=h;have hk:=ba.live hk;have hz:=hc.1.2.2 _ hk;refine⟨.nil,⟨rfl,hz,⟨xs,hk,rfl⟩,trivial⟩,λS' aW _ hn=>?_⟩;have fU:=(hR.box k _ hk).1;exact⟨t,xs,rfl,by rw[hz];exact fU.keep aW (λ_ _=>rfl),λg hg=>hn k _ (by simp[Bk.name]) hk g (by rw[<-hz];exact hg)⟩
   .simp at h
  .split at h
   .rename_i e t xs fz hk;simp only[j5,j9]at h;obtain⟨rfl,rfl,rfl⟩:=h;have uF:=bu.par hk;have cF:=bu.ok.nm hk;have hk:=bu.ok.live hk;have hz:=hc.1.2.2 _ hk;refine⟨λx hx=>?_,trivial,λS' aW fv _=>?_⟩
    .simp_all
    .have h1:One z:=hc.2 ae;have:=fv (k,_) (k9.2 rfl) e t xs fz hk;rw[<-hz]at this;exact⟨by grind[B9],by simp[lX,Ty.agg],λ_=>h1⟩
   .simp at h
 .split at h
  .split at h
   .rename_i ty bJ;split at h
    .rename_i x u1 hx;simp only[j5,j9]at h;obtain⟨rfl,rfl,rfl⟩:=h;obtain⟨hf,hp,_⟩:=Eh bu hR.box hx hc;exact⟨hf,trivial,λS' aW fv _=>hp S' w aW fv⟩
    .simp at h
   .simp at h
  .simp at h
theorem h9.app{bx:H->BS}{arg:Arg}{z:G}{f:F Bk}:h9 bx γ [arg] [z] f->∀{as:F Arg}{us:F G}{fs:F Bk},h9 bx γ as us fs->h9 bx γ (arg::as) (z::us) (f++fs):=by
 intro h as us fs h';cases arg with
 |v x=>cases f with|nil=>exact h'|cons _ _=>exact h.elim
 |ip x=>cases f with|nil=>exact h'|cons _ _=>exact h.elim
 |clo x y=>cases f with|nil=>exact h'|cons _ _=>exact h.elim
 |ref ls=>
  match f,h with
  |[.ref k],⟨h1,h2,_⟩=>exact⟨h1,h2,h'⟩
  |.ref k::_::_,⟨_,_,h3⟩=>exact h3.elim
 |rl e x=>
  match f,h with
  |[.rl k e' t],⟨h0,h1,h2,_⟩=>exact⟨h0,h1,h2,h'⟩
  |.rl k e' t::_::_,⟨_,_,_,h3⟩=>exact h3.elim
 |mv e x=>
  match f,h with
  |[.mv k e' t],⟨h0,h1,h2,_⟩=>exact⟨h0,h1,h2,h'⟩
  |.mv k e' t::_::_,⟨_,_,_,h3⟩=>exact h3.elim
theorem W0{rd rdf:H->BS}(hR:Rel N np S0 w0 refs σ a w S γ)(ba:RdR σ rd)(bu:RdF np σ rdf){T:H->À TyI}{mv:Ö}:∀{cs:F Cel}{ts:F H}{ms:F Ö}{as:F Arg}{u:Ups}{fs:F Bk}{zs:F G},
  qD rd rdf T mv ts ms cs=D (as,u,fs)->All2 (bS S w γ σ.bx) cs zs->
  FrzL np σ.bx u/\h9 σ.bx γ as zs fs/\∀S',dI S w S' w->Froz σ.bx γ S' w u->(∀k b,fs.any (λy=>y.name==k)=Â->σ.bx k = .live b->∀g,blk (γ k)=D g->∀o,¬S' g o)->All2 (oO S' w) as zs
 |[],ts,ms,as,u,fs,zs,h,ha=>by
  simp[qD]at h;obtain⟨rfl,rfl,rfl⟩:=h;cases zs with
  |nil=>exact⟨.nil,trivial,λ_ _ _ _=>trivial⟩
  |cons _ _=>exact ha.elim
 |c::cs,ts,ms,as,u,fs,zs,h,ha=>by
  cases zs with
  |nil=>exact ha.elim
  |cons z zs=>
   simp only[qD]at h;split at h
   .rename_i a1 u1 f1 h1;split at h
    .rename_i HS gI W7 h2;simp only[j5,j9]at h;obtain⟨rfl,rfl,rfl⟩:=h;obtain⟨p1,q1,r1⟩:=jAU hR ba bu h1 ha.1;obtain⟨p2,q2,r2⟩:=W0 hR ba bu h2 ha.2;refine⟨FrzL.app.2 ⟨p1,p2⟩,q1.app q2,λS' aW fv hn=>?_⟩;obtain⟨z1,z2⟩:=Froz.app.1 fv;exact⟨r1 S' aW z1 (λk b hk=>hn k b (by rw[ì,hk];rfl)),r2 S' aW z2 (λk b hk=>hn k b (by rw[ì,hk];simp))⟩
    .simp at h
   .simp at h
theorem W8:∀{cs:F Cap}{zs:F G},All2 (kY S w) cs zs->All2 (oO S w) (cs.map rI) zs
 |[],[],_=>trivial
 |c::cs,z::zs,h=>by
  refine⟨?_,W8 h.2⟩;cases c with
  |v x=>obtain⟨hl,hr⟩:=h.1;have h1:One z:=Rep.one _ _ _ hr z ae;refine⟨by rw[B9 h1];exact hr,λhm=>?_,λ_=>h1⟩;exfalso;obtain⟨t,v⟩:=x;cases t<;>simp_all[Ty.leafy,lX,Ty.agg]
  |p ls=>exact h.1
 |[],_::_,h=>h.elim
 |_::_,[],h=>h.elim
theorem W9:∀(cs:F Cap)(zs:F G),ei (cs.map rI) zs=[]
 |[],_=>by cases ‹F G› <;> rfl
 |c::cs,[]=>rfl
 |c::cs,z::zs=>by cases c<;>simp[ei,mb,rI,W9 cs zs]
theorem Xa:∀(as:F Arg)(us:F G)(bs:F Arg)(vs:F G),as.length=us.length->ei (as++bs) (us++vs)=ei as us++ei bs vs
 |[],[],bs,vs,_=>rfl
 |a::as,u::us,bs,vs,h=>by simp[ei,Xa as us bs vs (by simpa using h)]
 |[],_::_,_,_,h=>by simp at h
 |_::_,[],_,_,h=>by simp at h
theorem xK{bx:H->BS}:∀{as:F Arg}{us:F G}{fs:F Bk},h9 bx γ as us fs->ei as us=fs.filterMap λf=>blk (γ f.name)
 |[],[],[],_=>rfl
 |.ref ls::as,u::us,.ref k::fs,⟨h1,_,h3⟩=>by
  simp only[ei,mb,vk,Bk.name,h1,xK h3];cases blk (γ k)<;>rfl
 |.rl e x::as,u::us,.rl k e' t::fs,⟨_,h1,_,h3⟩=>by
  simp only[ei,mb,vk,Bk.name,h1,xK h3];cases blk (γ k)<;>rfl
 |.mv e x::as,u::us,.mv k e' t::fs,⟨_,h1,_,h3⟩=>by
  simp only[ei,mb,vk,Bk.name,h1,xK h3];cases blk (γ k)<;>rfl
 |.v _::as,_::us,fs,h=>by simp[ei,mb,xK (as:=as) (us:=us) (fs:=fs) h]
 |.ip _::as,_::us,fs,h=>by simp[ei,mb,xK (as:=as) (us:=us) (fs:=fs) h]
 |.clo _ _::as,_::us,fs,h=>by simp[ei,mb,xK (as:=as) (us:=us) (fs:=fs) h]
theorem Xb:∀{as:F Arg}{us:F G}{g:H},g∈mvOf as us->g∈ei as us
 |[],_,g,h=>by simp[mvOf]at h
 |_::_,[],g,h=>by rename_i a _;cases a<;>simp[mvOf]at h
 |a::as,u::us,g,h=>by
  have ih:=Xb (as:=as) (us:=us) (g:=g);cases a with
  |mv e x=>simp only[mvOf,ei,mb,ji]at h ⊢;exact h.imp id ih
  |_=>simp only[mvOf]at h;simp only[ei,ji];exact .inr (ih h)
theorem xL{bx:H->BS}:∀{as:F Arg}{us:F G}{fs:F Bk}{g:H},h9 bx γ as us fs->g∈mvOf as us->∃f∈fs,f.isMv=Â/\blk (γ f.name)=D g
 |[],[],[],g,_,h=>by simp[mvOf]at h
 |.ref ls::as,u::us,.ref k::fs,g,⟨_,_,h3⟩,h=>by
  obtain⟨f,hf,h1⟩:=xL (g:=g) h3 (by simpa only[mvOf]using h);exact⟨f,by simp[hf],h1⟩
 |.rl e x::as,u::us,.rl k e' t::fs,g,⟨_,_,_,h3⟩,h=>by
  obtain⟨f,hf,h1⟩:=xL (g:=g) h3 (by simpa only[mvOf]using h);exact⟨f,by simp[hf],h1⟩
 |.mv e x::as,u::us,.mv k e' t::fs,g,⟨_,h1,_,h3⟩,h=>by
  simp only[mvOf,ji,Option.mem_toList]at h;rcases h with h|h
  .exact⟨.mv k e' t,ae,rfl,by rw[<-h];show blk (γ k)=blk u;rw[h1]⟩
  .obtain⟨f,hf,h1⟩:=xL (g:=g) h3 h;exact⟨f,by simp[hf],h1⟩
 |.v _::as,_::us,fs,g,hb,h=>xL (as:=as) (us:=us) (fs:=fs) hb (by simpa only[mvOf]using h)
 |.ip _::as,_::us,fs,g,hb,h=>xL (as:=as) (us:=us) (fs:=fs) hb (by simpa only[mvOf]using h)
 |.clo _ _::as,_::us,fs,g,hb,h=>xL (as:=as) (us:=us) (fs:=fs) hb (by simpa only[mvOf]using h)
theorem jAW{rd rdf:H->BS}(bu:RdF np σ rdf){t:À TyI}{mv rl:Ö}{c:Cel}{arg:Arg}{u:Ups}{f:À Bk}(h:xe rd rdf t mv rl c=D (arg,u,f)):∀x∈f.toList,x.isMv=Â->parK np x.name=false:=by
 intro x hx hm;unfold xe at h;split at h
 .grind[Bk.isMv]
 .simp_all
 .simp_all
 .split at h
  .cases mv with
   |true=>
    rw[j6]at h;split at h
    .rename_i hk;simp only[j5,j9]at h;obtain⟨_,_,rfl⟩:=h;simp at hx;subst hx;exact bu.par hk
    .simp at h
   |false=>grind[Bk.isMv]
  grind
 grind
theorem Xc{rd rdf:H->BS}(bu:RdF np σ rdf){T:H->À TyI}{mv:Ö}:∀{cs:F Cel}{ts:F H}{ms:F Ö}{as:F Arg}{u:Ups}{fs:F Bk},
  qD rd rdf T mv ts ms cs=D (as,u,fs)->∀x∈fs,x.isMv=Â->parK np x.name=J
 |[],ts,ms,as,u,fs,h,x,hx,hm=>by
  simp[qD]at h;obtain⟨rfl,rfl,rfl⟩:=h;simp at hx
 |c::cs,ts,ms,as,u,fs,h,x,hx,hm=>by
  simp only[qD]at h;split at h
  .rename_i a1 u1 f1 h1;split at h
   .rename_i HS gI W7 h2;simp only[j5,j9]at h;obtain⟨rfl,rfl,rfl⟩:=h;rcases ji.1 hx with hx|hx
    .exact jAW bu h1 x hx hm
    .exact Xc bu h2 x hx hm
   .simp at h
  .simp at h
theorem uJ{bx:H->BS}:∀{as:F Arg}{us:F G}{fs:F Bk},h9 bx γ as us fs->∀f∈fs,∃b,bx f.name = .live b
 |[],[],[],_,f,hf=>by simp at hf
 |.ref ls::as,u::us,.ref k::fs,⟨_,⟨ls',h2⟩,h3⟩,f,hf=>by
  rcases jb.1 hf with rfl|hf
  .exact⟨_,h2⟩
  .exact uJ h3 f hf
 |.rl e x::as,u::us,.rl k e' t::fs,⟨_,_,⟨xs,h2,_⟩,h3⟩,f,hf=>by
  rcases jb.1 hf with rfl|hf
  .exact⟨_,h2⟩
  .exact uJ h3 f hf
 |.mv e x::as,u::us,.mv k e' t::fs,⟨_,_,⟨xs,h2,_⟩,h3⟩,f,hf=>by
  rcases jb.1 hf with rfl|hf
  .exact⟨_,h2⟩
  .exact uJ h3 f hf
 |.v _::as,_::us,fs,h,f,hf=>uJ (as:=as) (us:=us) (fs:=fs) h f hf
 |.ip _::as,_::us,fs,h,f,hf=>uJ (as:=as) (us:=us) (fs:=fs) h f hf
 |.clo _ _::as,_::us,fs,h,f,hf=>uJ (as:=as) (us:=us) (fs:=fs) h f hf
theorem zX:∀{l:F H},pL l=Â->l.Nodup
 |[],_=>vc
 |x::l,h=>by
  simp only[pL,jc,q9,qn,ka]at h;exact qk.2 ⟨h.1,zX h.2⟩
theorem ME(hR:Rel N np S0 w0 refs σ a w S γ):∀{l:F H},l.Nodup->(∀k∈l,∃b,σ.bx k = .live b)->(l.filterMap λk=>blk (γ k)).Nodup
 |[],_,_=>ae
 |k::l,h,hl=>by
  obtain⟨h1,h2⟩:=qk.1 h;have ih:=ME hR h2 (λk hk=>hl k (by simp[hk]));rw[vk];cases hb:blk (γ k) with
  |none=>exact ih
  |some g=>refine qk.2 ⟨λhm=>?_,ih⟩;obtain⟨k',bC,aP⟩:=List.mem_filterMap.1 hm;obtain⟨b,dS⟩:=hl k ae;obtain⟨b',gm⟩:=hl k' (by simp[bC]);exact hR.apart k k' b b' g (by rintro rfl;exact h1 bC) dS gm hb aP
end
section
variable{N:NT}{np:H}{S0:aX}{w0:Á}{refs:Refs}{σ:St}{a:ß}{w:Á}{S:aX}{γ:H->G}
theorem Cm:∀(u:Ups)(σ:St){k:H}{b:BS},(u.map (·.1)).Nodup->(k,b)∈u->(σ.upd u).bx k=b
 |[],_,_,_,_,h=>by simp at h
 |e::u,σ,k,b,hn,h=>by
  simp only[qc,qk]at hn;show ((σ.setB e.1 e.2).upd u).bx k=_;rcases jb.1 h with h|h
  .subst h;rw[l9 u,fJ];simp only[v6,vu];intro x hx he;exact hn.1 (k7.2 ⟨x,hx,he⟩)
  .exact Cm u _ hn.2 h
theorem jE2{e:H}{m n n':H}{v:G}{w':Á}{xs ys:F G}(h:w.ownsRow 0 e m v n xs)(h':w'.ownsRow 0 e m v n' ys):n=n':=by
 rcases h.2 with⟨e1,e2⟩|⟨g,cap,cur,e1,_⟩<;>rcases h'.2 with⟨f1,f2⟩|⟨g',iz,jR,f1,_⟩;all_goals simp_all
theorem MF{bx:H->BS}{S':aX}{w':Á}{ys:F TV}{k:H}{v:G}(hg:γ k=v)(h:EE S' w' ys v):eZ S' w' γ bx k (.cell (ys.map TV.leaf) J):=by
 obtain⟨g,cur,e,hu,hh,aD,hS⟩:=h;exact⟨g,cur,e,hg.trans hu,hh,by grind[sK],λu fF=>by rw[ki]at fF;obtain⟨x,_,hx⟩:=aD.mem_right u fF;grind[Rep.one],λ_=>hS,ae⟩
theorem Cn{bx:H->BS}{S':aX}{w':Á}{e:H}{t:Ty}{ys:F t.den}{k:H}{v:G}(hg:γ k=v)(h:xJ S' w' e ⟨.list t,ys⟩ v):eZ S' w' γ bx k (.lst e t ys J):=by
 obtain⟨t',xs,hx,cd,hS⟩:=h;cases hx;exact⟨by rw[hg];exact cd,λg aP=>⟨λ_=>hS g (by rw[<-hg];exact aP),ae⟩⟩
theorem vR{S':aX}{w':Á}(hR:Rel N np S0 w0 refs σ a w S γ):∀{as:F Arg}{zs:F G}{fs:F Bk}{os:F Out}{uo:Ups},h9 σ.bx γ as zs fs->ny fs os=D uo->mF S' w' as zs os->
  uo.map (·.1)=fs.map Bk.name/\∀x∈uo,∃b,σ.bx x.1 = .live b/\(x.2 = .gone\/∃b',x.2 = .live b'/\lY b b'/\∀bx',eZ S' w' γ bx' x.1 b')
 |[],[],[],[],uo,_,h,_=>by simp[ny]at h;subst h;simp
 |.ref ls::as,u::us,.ref k::fs,.ref ys::os,uo,⟨h1,⟨ls',h2⟩,h3⟩,h,⟨q1,q2⟩=>by
  simp only[ny,HJ]at h;split at h
  .rename_i u' fF;simp only[j5]at h;subst h;obtain⟨i1,i2⟩:=vR hR h3 fF q2;refine⟨by simp[i1,Bk.name],λx hx=>?_⟩;rcases jb.1 hx with rfl|hx
   .exact⟨_,h2,.inr ⟨_,rfl,trivial,λbx'=>MF h1.symm q1⟩⟩
   .exact i2 x hx
  .simp at h
 |.rl e x::as,u::us,.rl k e' t::fs,.rl y::os,uo,⟨h0,h1,⟨xs,h2,mz⟩,h3⟩,h,⟨q1,q1',q2⟩=>by
  simp only[ny,HJ]at h;split at h
  .rename_i y' oh;split at oh
   .rename_i ys iK;simp only[j5]at oh;subst oh;split at h
    .rename_i u' fF;simp only[j5]at h;subst h;obtain⟨i1,i2⟩:=vR hR h3 fF q2;refine⟨by simp[i1,Bk.name],λx hx=>?_⟩;rcases jb.1 hx with rfl|hx
     .have:=oe iK;subst this;subst h0;refine⟨_,h2,.inr ⟨_,rfl,⟨rfl,rfl,λhm=>?_⟩,λbx'=>Cn h1.symm q1⟩⟩;obtain⟨css,aS,_⟩:=jE hm (hR.box k _ h2);obtain⟨mD,cd,_⟩:=jE (bx:=σ.bx) hm (Cn h1.symm q1);exact jE2 aS cd
     .exact i2 x hx
    .simp at h
   .simp at oh
  .simp at h
 |.mv e x::as,u::us,.mv k e' t::fs,os,uo,⟨h0,h1,⟨xs,h2,mz⟩,h3⟩,h,q=>by
  simp only[ny]at h;split at h
  .rename_i u' fF;simp only[j5]at h;subst h;obtain⟨i1,i2⟩:=vR hR h3 fF (by simpa only[mF]using q);refine⟨by simp[i1,Bk.name],λx hx=>?_⟩;rcases jb.1 hx with rfl|hx
   .exact⟨_,h2,.inl rfl⟩
   .exact i2 x hx
  .simp at h
 |.v _::as,_::us,fs,os,uo,h,h',q=>vR (as:=as) (zs:=us) (fs:=fs) hR h h' q
 |.ip _::as,_::us,fs,os,uo,h,h',q=>vR (as:=as) (zs:=us) (fs:=fs) hR h h' q
 |.clo _ _::as,_::us,fs,os,uo,h,h',q=>vR (as:=as) (zs:=us) (fs:=fs) hR h h' q
theorem MG(hR:Rel N np S0 w0 refs σ a w S γ){Xd:F H}{S':aX}{w':Á}(aW:dI S w S' w')(eR:∀g o,S' g o->S g o\/w.heap.size<=g\/g∈Xd)(gJ:∀g o,S' g o->g<w'.heap.size)
  {as:F Arg}{zs:F G}{fs:F Bk}{os:F Out}{uo:Ups}(EF:∀g∈Xd,g∈mvOf as zs)(oP:∀f∈fs,f.isMv=Â->parK np f.name=J)(fH:h9 σ.bx γ as zs fs)(ew:(fs.map Bk.name).Nodup)(ho:ny fs os=D uo)(hq:mF S' w' as zs os)
  (gq:∀g,g<w.heap.size->g∉ei as zs->w'.heap[g]? = w.heap[g]?)(fM:w.heap.size<=w'.heap.size)(s9:w'.os=w.os)(nI:w'.tape=w.tape)(cV:w'.output=w.output) :
  Rel N np S0 w0 refs (σ.upd uo) a w' S' γ:=by
 obtain⟨pR,MH⟩:=vR hR fH ho hq;have zN:(uo.map (·.1)).Nodup:=by rw[pR];exact ew
 have fp:σ.upd uo={ σ with bx:=(σ.upd uo).bx }:=by
  have:=vK uo σ;cases h:σ.upd uo
  simp_all
 have di:∀k,(uo.any (λy=>y.1==k)=J/\(σ.upd uo).bx k=σ.bx k)\/(∃b,σ.bx k = .live b/\(σ.upd uo).bx k = .gone)\/(∃b b',σ.bx k = .live b/\(σ.upd uo).bx k = .live b'/\lY b b'/\∀bx',eZ S' w' γ bx' k b'):=by grind[Cm,l9]
 have iM:∀k b,(σ.upd uo).bx k = .live b->∃b',σ.bx k = .live b':=by grind
 have hle:BxLe γ σ.bx γ (σ.upd uo).bx:=by
  intro k hk;rcases di k with⟨_,h⟩|⟨b1,h1,h2⟩|⟨b1,b2,h1,h2,h3,_⟩
  .rw[h];exact⟨hk,rfl,λb hb=>⟨b,hb,.refl b⟩⟩
  all_goals grind
 have hrefs:∀g,g∈ei as zs->∃f∈fs,blk (γ f.name)=D g/\∃b,σ.bx f.name = .live b:=by intro g hg;rw[xK fH]at hg;grind[uJ]
 rw[fp]
 refine Rel.step hR aW hle ?_ ?_ ?_ ?_ gJ ?_ (kf hR.grow fM) (s9.trans hR.os) (nI.trans hR.tape) (cV.trans hR.output) (λg hg _ h=>⟨gq g hg (λhm=>by
  grind),λk b hb=>by
  grind⟩)
 .intro k b hb;rcases di k with⟨hk,h⟩|⟨b1,h1,h2⟩|⟨b1,b2,h1,h2,h3,h4⟩
  case inr.inl=>grind
  .rw[h]at hb;refine eZ.keep aW hle rfl (λg hg=>?_) (hR.box k b hb);have zQ:=lj (hR.box k b hb) hg;suffices db:g∉ei as zs from⟨gq g zQ db,λo=>⟨λhs=>(eR g o hs).resolve_right (λh=>h.elim (λh=>aa) λh=>db (Xb (EF g h))),λhs=>(aW g o hs).1⟩⟩
   intro hm;obtain⟨f,hf,vS,b',aZ⟩:=hrefs g hm;have bD:k≠f.name:=by grind[ô]
   exact hR.apart k f.name b b' g bD hb aZ hg vS
  grind
 .intro k b g hb hg;obtain⟨b',aZ⟩:=iM k b hb;exact hR.own k b' g aZ hg
 .intro k k' b1 b2 g bD h1 h2 hg;obtain⟨vI,og⟩:=iM k b1 h1;obtain⟨vJ,mz⟩:=iM k' b2 h2;exact hR.apart k k' vI vJ g bD og mz hg
 .intro g o hs;rcases eR g o hs with h|h|h
  .exact hR.new g o h
  .exact .inr (.inl (kf hR.grow h))
  .obtain⟨f,hf,Xe,vS⟩:=xL fH (EF g h);obtain⟨b',aZ⟩:=uJ fH f hf;rcases hR.own f.name b' g aZ vS with h|h;all_goals grind
 .intro g hg hr;rw[gq g (qd hg hR.grow) (λhm=>?_)]
  .exact hR.below g hg hr
  .obtain⟨f,hf,vS,b',aZ⟩:=hrefs g hm;rcases hR.own f.name b' g aZ vS with h|h
   .exact h.no aa hr
   .exact hr h.1
theorem MI(hR:Rel N np S0 w0 refs σ a w S γ){d:H}(hd:σ.bx d = .free){v':G}{b:Bx}
  (hv:∀g,blk v'=D g->(Own w0 refs g/\refs.kw g=O)/\∀k b,σ.bx k = .live b->blk (γ k)≠D g)(hb:eZ S w (gset γ d v') (σ.setB d (.live b)).bx d b) :
  Rel N np S0 w0 refs (σ.setB d (.live b)) a w S (gset γ d v')/\BxLe γ σ.bx (gset γ d v') (σ.setB d (.live b)).bx:=by
 have hle:BxLe γ σ.bx (gset γ d v') (σ.setB d (.live b)).bx:=by
  intro k hk;have bD:k≠d:=by grind
  rw[cu σ _ bD,fR γ v' bD];exact⟨hk,rfl,λb hb=>⟨b,hb,.refl b⟩⟩
 refine⟨Rel.step (bx':=(σ.setB d (.live b)).bx) hR (.refl S w) hle ?_ ?_ ?_ hR.new hR.here hR.below hR.grow hR.os hR.tape hR.output (λg _ sR h=>⟨rfl,λk b' aZ fH=>by
  grind[eQ,cu,fR]⟩),hle⟩
 .intro k b' aZ;by_cases hk:k=d
  .grind[fJ]
  .rw[cu σ _ hk]at aZ;exact eZ.keep (.refl S w) hle (fR γ v' hk) (λg hg=>⟨rfl,λ_=>ã⟩) (hR.box k b' aZ)
 .intro k b' g aZ hg;by_cases hk:k=d
  .grind[eQ]
  .rw[cu σ _ hk]at aZ;rw[fR γ v' hk]at hg;exact hR.own k b' g aZ hg
 .intro k k' b1 b2 g bD h1 h2 hg aP;by_cases hk:k=d
  .grind[eQ,cu,fR]
  .by_cases bC:k'=d
   .grind[eQ,cu,fR]
   .rw[cu σ _ hk]at h1;rw[cu σ _ bC]at h2;rw[fR γ v' hk]at hg;rw[fR γ v' bC]at aP;exact hR.apart k k' b1 b2 g bD h1 h2 hg aP
theorem Co{bx:H->BS}{x:TV}{u:G}(h:VRep S w x u):bS S w γ bx (qA x.t x.v) u:=by
 obtain⟨t,v⟩:=x;obtain⟨h1,h2,h3⟩:=h;refine Mb t v _ u h1 (λhm=>?_) (λha hn=>?_)
 .have:lX t=true:=by
   rcases hm with hm|⟨n,b,rfl⟩
   .cases t<;>simp_all[lX,Ty.agg]
   .rfl
  obtain⟨cs,rfl⟩:=h2 this;simp[Value.cells]
 simp_all[lX,B9]
theorem Ig:∀{ls:F RL}{n:H}{l:F Leaf}{u:Ups},soL n ls=D (l,u)->∀x∈u,n<=x.1/\x.1<n+ls.length
 |[],n,l,u,h=>by grind[soL]
 |.d x::r,n,l,u,h=>by
  simp only[soL]at h;split at h
  .rename_i l' u' h';simp only[j5,j9]at h;obtain⟨rfl,rfl⟩:=h;intro y hy;have:=Ig h' y hy;grind
  .simp at h
 |.own e ⟨.list a,xs⟩::r,n,l,u,h=>by
  simp only[soL]at h;split at h
  .rename_i l' u' h';simp only[j5,j9]at h;obtain⟨rfl,rfl⟩:=h;intro y hy;rcases jb.1 hy with rfl|hy
   .simp_all
   .have:=Ig h' y hy;grind
  .simp at h
 |.own e ⟨.int _,xs⟩::r,n,l,u,h=>by simp[soL]at h
 |.own e ⟨.bool,xs⟩::r,n,l,u,h=>by simp[soL]at h
 |.own e ⟨.str,xs⟩::r,n,l,u,h=>by simp[soL]at h
 |.own e ⟨.unit,xs⟩::r,n,l,u,h=>by simp[soL]at h
 |.own e ⟨.wrap _,xs⟩::r,n,l,u,h=>by simp[soL]at h
 |.own e ⟨.pair _ _,xs⟩::r,n,l,u,h=>by simp[soL]at h
 |.own e ⟨.arr _ _,xs⟩::r,n,l,u,h=>by simp[soL]at h
theorem Xf{n:H}{r:RV}{c:Cel}{u:Ups}(h:HK n r=D (c,u)):∀x∈u,n<=x.1/\x.1<n+rvW r:=by
 unfold HK at h;split at h
 .simp_all
 .grind[rvW]
 .simp at h
 .grind[rvW]
 .simp at h
 .grind
 .simp_all
 .split at h
  .rename_i l u' h';simp only[j5,j9]at h;obtain⟨rfl,rfl⟩:=h;exact Ig h'
  .simp at h
 .simp at h
theorem Xg:∀{n:H}{rs:F RV}{cs:F Cel}{u:Ups},xf n rs=D (cs,u)->∀x∈u,n<=x.1
 |n,[],cs,u,h=>by grind[xf]
 |n,r::rs,cs,u,h=>by
  simp only[xf]at h;split at h
  .rename_i c u1 h1;split at h
   .rename_i MJ u2 h2;simp only[j5,j9]at h;obtain⟨rfl,rfl⟩:=h;intro x hx;rcases ji.1 hx with hx|hx
    .exact(Xf h1 x hx).1
    .have:=Xg h2 x hx;omega
   .simp at h
  .simp at h
theorem Xh{bx:H->BS}{ns:F H}:∀(k:H){ls:F Leaf}{cs:F G},All2 (bF S w γ bx) ls cs->(∀i∈ns,∀z,k<=i->cs[i-k]? = D z->z = .slice O 0 0)->
  All2 (bF S w γ bx) ((ls.zipIdx k).map λy=>if ns.contains y.2 then .nil else y.1) cs
 |_,[],[],_,_=>trivial
 |k,l::ls,c::cs,h,hn=>by
  refine⟨?_,Xh (k+1) h.2 λi hi z hk hz=>hn i hi z aa ?_⟩
  .by_cases hc:ns.contains k=Â
   .simp only[hc,if_true];exact hn k (by simpa using hc) c (jh _) ae
   .simp only[hc];exact h.1
  grind
 |_,[],_::_,h,_=>h.elim
 |_,_::_,[],h,_=>h.elim
theorem jAY(hR:Rel N np S0 w0 refs σ a w S γ){h0:H}(MK:w0.heap.size<=h0)(iM:∀k b g,σ.bx k = .live b->blk (γ k)=D g->g<h0)(H0:∀g,h0<=g->refs.kw g=O)
  {ns:F H}{s:Snap}{v:G}(qO:MD h0 S w ns s v)(bA:∀x∈rawU ns s,σ.bx x.1 = .free)(ew:((rawU ns s).map (·.1)).Nodup) :
  ∃γ',Rel N np S0 w0 refs (σ.upd (rawU ns s)) a w S γ'/\∃zs,v=nH zs/\All2 (bS S w γ' (σ.upd (rawU ns s)).bx) (rawC ns s) zs:=by
 obtain⟨γr,zs,hv,hc,hb,oI,hap⟩:=qO;generalize rawU ns s=u at *;let γ':H->Value:=λk=>if u.any (λy=>y.1==k) then γr k else γ k
 have iL:∀k,u.any (λy=>y.1==k)=Â->(σ.upd u).bx k=(emp.upd u).bx k/\γ' k=γr k/\σ.bx k = .free:=by grind[Cm]
 have cV:∀k,u.any (λy=>y.1==k)=J->(σ.upd u).bx k=σ.bx k/\(emp.upd u).bx k = .free/\γ' k=γ k:=by grind[l9,emp]
 have Xi:BxLe γr (emp.upd u).bx γ' (σ.upd u).bx:=by
  intro k hk;cases hu:u.any (λy=>y.1==k) with
  |false=>grind
  |true=>obtain⟨h1,h2,_⟩:=iL k hu;rw[h1];exact⟨hk,h2,λb hb=>⟨b,hb,.refl b⟩⟩
 have Xj:BxLe γ σ.bx γ' (σ.upd u).bx:=by
  intro k hk;cases hu:u.any (λy=>y.1==k) with
  |true=>grind
  |false=>obtain⟨h1,_,h2⟩:=cV k hu;rw[h1];exact⟨hk,h2,λb hb=>⟨b,hb,.refl b⟩⟩
 have fp:σ.upd u={ σ with bx:=(σ.upd u).bx }:=by
  have:=vK u σ;cases h:σ.upd u
  simp_all
 refine⟨γ',?_,zs,hv,hc.mono λx z hx=>bS.keep (.refl S w) Xi hx⟩;rw[fp];refine Rel.step hR (.refl S w) Xj ?_ ?_ ?_ hR.new hR.here hR.below hR.grow hR.os hR.tape hR.output (λg _ sR h=>⟨rfl,λk b hb fH=>?_⟩)
 .intro k b aZ;cases hu:u.any (λy=>y.1==k) with
  |true=>obtain⟨h1,h2,_⟩:=iL k hu;rw[h1]at aZ;exact eZ.keep (.refl S w) Xi h2 (λg hg=>⟨rfl,λ_=>ã⟩) (hb k b aZ)
  |false=>obtain⟨h1,_,h2⟩:=cV k hu;rw[h1]at aZ;exact eZ.keep (.refl S w) Xj h2 (λg hg=>⟨rfl,λ_=>ã⟩) (hR.box k b aZ)
 .intro k b g aZ hg;cases hu:u.any (λy=>y.1==k) with
  |true=>obtain⟨h1,h2,_⟩:=iL k hu;rw[h1]at aZ;rw[h2]at hg;exact .inl (.inl (kf MK (oI k b g aZ hg)))
  |false=>obtain⟨h1,_,h2⟩:=cV k hu;rw[h1]at aZ;rw[h2]at hg;exact hR.own k b g aZ hg
 .intro k k' b b' g bD dS gm uE kP;cases hu:u.any (λy=>y.1==k) with
  |true=>grind
  |false=>
   obtain⟨h1,_,h2⟩:=cV k hu;rw[h1]at dS;rw[h2]at uE;cases fF:u.any (λy=>y.1==k') with
   |true=>grind
   |false=>obtain⟨h3,_,h4⟩:=cV k' fF;rw[h3]at gm;rw[h4]at kP;exact hR.apart k k' b b' g bD dS gm uE kP
 grind
theorem ML:∀{ls:F RL}{zs:F G}{n:H}{l:F Leaf}{u:Ups}{σ:St}{γ:H->G},Rel N np S0 w0 refs σ a w S γ->soL n ls=D (l,u)->All2 (Ia S w) ls zs->
  (∀x∈u,σ.bx x.1 = .free)->(pQ ls zs).Nodup->(∀g∈pQ ls zs,(Own w0 refs g/\refs.kw g=O)/\∀k b,σ.bx k = .live b->blk (γ k)≠D g)->
  ∃γ',Rel N np S0 w0 refs (σ.upd u) a w S γ'/\BxLe γ σ.bx γ' (σ.upd u).bx/\All2 (bF S w γ' (σ.upd u).bx) l zs/\(∀z∈zs,One z)/\
   ∀k b g,(σ.upd u).bx k = .live b->blk (γ' k)=D g->(∃b',σ.bx k = .live b'/\blk (γ k)=D g)\/g∈pQ ls zs
 |[],[],n,l,u,σ,γ,hR,h,_,_,_,_=>by
  simp[soL]at h;obtain⟨rfl,rfl⟩:=h;exact⟨γ,hR,.refl _ _,trivial,ae,λk b g h1 h2=> .inl ⟨b,h1,h2⟩⟩
 |.d x::ls,z::zs,n,l,u,σ,γ,hR,h,ha,bA,ew,hblk=>by
  simp only[soL]at h;split at h
  .rename_i l' u' h';simp only[j5,j9]at h;obtain⟨rfl,rfl⟩:=h;obtain⟨γ',q1,q2,q3,q4,q5⟩:=ML hR h' ha.2 bA ew hblk;exact⟨γ',q1,q2,⟨ha.1.2,q3⟩,λy hy=>(jb.1 hy).elim (λe=>e▸ha.1.1) (q4 y),q5⟩
  .simp at h
 |.own e ⟨.list t,xs⟩::ls,z::zs,n,l,u,σ,γ,hR,h,ha,bA,ew,hblk=>by
  simp only[soL]at h;split at h
  .rename_i l' u' h';simp only[j5,j9]at h;obtain⟨rfl,rfl⟩:=h;have aS:xJ S w e ⟨.list t,xs⟩ z:=ha.1;have df:One z:=by obtain⟨t',ys,_,cd,_⟩:=aS;exact cd.one
   have tc:σ.bx n = .free:=bA _ (zb ..);simp only[pQ]at ew hblk;obtain⟨bI,hle⟩:=MI hR tc (v':=z) (b:= .lst e t xs J) (λg hg=>hblk g (by simp[hg])) (Cn (eQ _ _ _) aS);have mc:=Ig h'
   obtain⟨γ',q1,q2,q3,q4,q5⟩:=ML bI h' ha.2 (λx hx=>by
    have:=mc x hx;rw[cu σ _ aa];exact bA x (by simp[hx])) (z6.1 ew).2.1 (λg hg=>by
    obtain⟨p1,p2⟩:=hblk g (by simp[hg]);refine⟨p1,λk b' aZ he=>?_⟩;by_cases hk:k=n
    .subst hk;rw[eQ]at he;exact(z6.1 ew).2.2 g (by simp[he]) g hg rfl
    .rw[cu σ _ hk]at aZ;rw[fR γ z hk]at he;exact p2 k b' aZ he)
   refine⟨γ',q1,λk hk=>?_,⟨bF.keep (.refl S w) q2 ⟨by rw[fJ];simp,df,λb _=>(eQ γ n z).symm⟩,q3⟩,λy hy=>(jb.1 hy).elim (λe=>e▸df) (q4 y),λk b g h1 h2=>?_⟩
   .obtain⟨a1,a2,a3⟩:=hle k hk;obtain⟨b1,b2,b3⟩:=q2 k a1;refine⟨b1,b2.trans a2,λb hb=>?_⟩;obtain⟨b',aZ,fL⟩:=b3 b hb;obtain⟨ED,sY,sZ⟩:=a3 b' aZ;exact⟨ED,sY,sZ.trans fL⟩
   .rcases q5 k b g h1 h2 with⟨b',aZ,he⟩|h3
    .by_cases hk:k=n
     .subst hk;rw[eQ]at he;exact .inr (by simp[pQ,he])
     .rw[cu σ _ hk]at aZ;rw[fR γ z hk]at he;exact .inl ⟨b',aZ,he⟩
    .exact .inr (by simp[pQ,h3])
  .simp at h
 |.own e ⟨.int _,xs⟩::r,_,n,l,u,_,_,_,h,_,_,_,_=>by simp[soL]at h
 |.own e ⟨.bool,xs⟩::r,_,n,l,u,_,_,_,h,_,_,_,_=>by simp[soL]at h
 |.own e ⟨.str,xs⟩::r,_,n,l,u,_,_,_,h,_,_,_,_=>by simp[soL]at h
 |.own e ⟨.unit,xs⟩::r,_,n,l,u,_,_,_,h,_,_,_,_=>by simp[soL]at h
 |.own e ⟨.wrap _,xs⟩::r,_,n,l,u,_,_,_,h,_,_,_,_=>by simp[soL]at h
 |.own e ⟨.pair _ _,xs⟩::r,_,n,l,u,_,_,_,h,_,_,_,_=>by simp[soL]at h
 |.own e ⟨.arr _ _,xs⟩::r,_,n,l,u,_,_,_,h,_,_,_,_=>by simp[soL]at h
 |[],_::_,_,_,_,_,_,_,_,ha,_,_,_=>ha.elim
 |.d _::_,[],_,_,_,_,_,_,_,ha,_,_,_=>ha.elim
 |.own _ ⟨.list _,_⟩::_,[],_,_,_,_,_,_,_,ha,_,_,_=>ha.elim
theorem Xk:∀{rs:F RV}{vs:F G}{n:H}{cs:F Cel}{un:Ups}{σ:St}{γ:H->G},Rel N np S0 w0 refs σ a w S γ->xf n rs=D (cs,un)->All2 (rS S w) rs vs->
  (∀x∈un,σ.bx x.1 = .free)->(gC rs vs).Nodup->(∀g∈gC rs vs,(Own w0 refs g/\refs.kw g=O)/\∀k b,σ.bx k = .live b->blk (γ k)≠D g)->
  ∃γ',Rel N np S0 w0 refs (σ.upd un) a w S γ'/\BxLe γ σ.bx γ' (σ.upd un).bx/\All2 (bS S w γ' (σ.upd un).bx) cs vs
 |[],[],n,cs,un,σ,γ,hR,h,_,_,_,_=>by
  simp[xf]at h;obtain⟨rfl,rfl⟩:=h;exact⟨γ,hR,.refl _ _,trivial⟩
 |r::rs,u::us,n,cs,un,σ,γ,hR,h,ha,bA,ew,hblk=>by
  simp only[xf]at h;split at h
  .rename_i c u1 h1;split at h
   .rename_i MJ u2 h2;simp only[j5,j9]at h;obtain⟨rfl,rfl⟩:=h
    have EG:∀(σ1:St)(γ1:H->G),Rel N np S0 w0 refs σ1 a w S γ1->σ1=σ.upd u1->BxLe γ σ.bx γ1 σ1.bx->bS S w γ1 σ1.bx c u->(∀x∈u2,σ1.bx x.1 = .free)->
      (gC rs us).Nodup->(∀g∈gC rs us,(Own w0 refs g/\refs.kw g=O)/\∀k b,σ1.bx k = .live b->blk (γ1 k)≠D g)->
      ∃γ',Rel N np S0 w0 refs (σ.upd (u1++u2)) a w S γ'/\BxLe γ σ.bx γ' (σ.upd (u1++u2)).bx/\All2 (bS S w γ' (σ.upd (u1++u2)).bx) (c::MJ) (u::us):=by
     intro σ1 γ1 bI he hle hc hf hn hb;obtain⟨γ',q1,q2,q3⟩:=Xk (σ:=σ1) (γ:=γ1) bI h2 ha.2 hf hn hb;subst he;rw[mC];refine⟨γ',q1,?_,bS.keep (.refl S w) q2 hc,q3⟩;intro k hk;obtain⟨a1,a2,a3⟩:=hle k hk;obtain⟨b1,b2,b3⟩:=q2 k a1;refine⟨b1,b2.trans a2,λb hb=>?_⟩;obtain⟨b',aZ,fL⟩:=b3 b hb;obtain⟨ED,sY,sZ⟩:=a3 b' aZ;refine⟨ED,sY,?_⟩;exact sZ.trans fL
    have mc:=Xf h1;have oQ:=Xg h2
    have eR:∀(v':G)(b:Bx),mE r u=(blk v').toList->rvW r=1->u1=[(n,.live b)]->(∀bx',eZ S w (gset γ n v') bx' n b)->(∀bx',(bx' n = .live b)->bS S w (gset γ n v') bx' c u)->
      ∃γ',Rel N np S0 w0 refs (σ.upd (u1++u2)) a w S γ'/\BxLe γ σ.bx γ' (σ.upd (u1++u2)).bx/\All2 (bS S w γ' (σ.upd (u1++u2)).bx) (c::MJ) (u::us):=by
     intro v' b gP MM Cp dn qP;subst Cp;rw[MM]at oQ;have tc:σ.bx n = .free:=bA (n,.live b) ae;simp only[gC,gP]at ew hblk;obtain⟨bI,hle⟩:=MI hR tc (v':=v') (b:=b) (λg hg=>hblk g (by simp[hg])) (dn _);refine EG _ _ bI rfl hle (qP _ (fJ _ _ _)) (λx hx=>?_) ?_ (λg hg=>?_)
     .have:=oQ x hx;rw[cu σ _ aa];exact bA x (by simp[hx])
     .exact(z6.1 ew).2.1
     .obtain⟨p1,p2⟩:=hblk g (by simp[hg]);refine⟨p1,λk b' aZ he=>?_⟩;by_cases hk:k=n
      .subst hk;rw[eQ]at he;have:=(z6.1 ew).2.2 g (by simp[he]) g hg;exact this rfl
      .rw[cu σ _ hk]at aZ;rw[fR γ v' hk]at he;exact p2 k b' aZ he
    unfold HK at h1;split at h1
    .rename_i x;simp only[j5,j9]at h1;obtain⟨rfl,rfl⟩:=h1;refine EG σ γ hR rfl (.refl _ _) (Co ha.1) (λx hx=>bA x (by simp[hx])) ?_ ?_
     .simpa[gC,oo,mE]using ew
     .simpa[gC,oo,mE]using hblk
    .rename_i e el xs;simp only[j5,j9]at h1;obtain⟨rfl,rfl⟩:=h1;have aS:xJ S w e ⟨.list el,xs⟩ u:=ha.1;have df:One u:=by obtain⟨t',ys,_,cd,_⟩:=aS;exact cd.one
     exact eR u _ rfl rfl rfl (λbx'=>Cn (eQ _ _ _) aS) (λbx' hb=>⟨⟨by rw[hb];simp,df,λb _=>(eQ γ n u).symm⟩,λ_=>df⟩)
    .simp at h1
    .rename_i ls;simp only[j5,j9]at h1;obtain⟨rfl,rfl⟩:=h1;have EH:EE S w ls u:=ha.1;obtain⟨g,cur,e,hu,_⟩:=id EH;have df:One u:=by rw[hu];rfl
     exact eR u _ rfl rfl rfl (λbx'=>MF (eQ _ _ _) EH) (λbx' hb=>⟨⟨by rw[hb];simp,df,λb _=>⟨g,by rw[eQ,hu],hu⟩⟩,λ_=>df⟩)
    .simp at h1
    .rename_i x ns;have hv:VRep S w x u/\∀cs,u = .agg cs->∀i∈ns,∀z,cs.toList[i]? = D z->z = .slice O 0 0:=ha.1;have zY:bS S w γ σ.bx (qA x.t x.v) u:=Co hv.1
     have hc:bS S w γ σ.bx c u/\u1=[]:=by
      split at h1
      .rename_i ls he;simp only[j5,j9]at h1;obtain⟨rfl,rfl⟩:=h1;rw[he]at zY;obtain⟨cs,hu,aD,df⟩:=zY;exact⟨⟨cs,hu,Xh 0 aD λi hi z _ hz=>hv.2 cs hu i hi z (by simpa using hz),df⟩,rfl⟩
      .simp only[j5,j9]at h1;obtain⟨rfl,rfl⟩:=h1;exact⟨zY,rfl⟩
     obtain⟨hc,rfl⟩:=hc;refine EG σ γ hR rfl (.refl _ _) hc (λx hx=>bA x (by simp[hx])) ?_ ?_
     .simpa[gC,oo,mE]using ew
     .simpa[gC,oo,mE]using hblk
    .rename_i f caps;simp only[j5,j9]at h1;obtain⟨rfl,rfl⟩:=h1;obtain⟨cv,hu,aD⟩:∃cv:Ë G,u = .func (.func f) #[] cv/\All2 (kY S w) caps cv.toList:=ha.1;refine EG σ γ hR rfl (.refl _ _) ⟨⟨cv,hu,aD⟩,λ_=>by rw[hu];rfl⟩ (λx hx=>bA x (by simp[hx])) ?_ ?_
     .simpa[gC,oo,mE]using ew
     .simpa[gC,oo,mE]using hblk
    .rename_i ls;split at h1
     .rename_i l gI hl;simp only[j5,j9]at h1;obtain⟨rfl,rfl⟩:=h1;obtain⟨nJ,hu,aD⟩:∃cs:Ë G,u = .agg cs/\All2 (Ia S w) ls cs.toList:=ha.1;subst hu;have xM:mE (.so ls) (.agg nJ)=pQ ls nJ.toList:=rfl;simp only[gC,xM]at ew hblk;obtain⟨γ1,q1,q2,q3,q4,q5⟩:=ML hR hl aD (λx hx=>bA x (by simp[hx])) (z6.1 ew).1 (λg hg=>hblk g (by simp[hg]));refine EG _ γ1 q1 rfl q2 ⟨nJ,rfl,q3,q4⟩ (λx hx=>?_) (z6.1 ew).2.1 (λg hg=>?_)
      .have h2:=oQ x hx;rw[l9 gI σ]
       .exact bA x (by simp[hx])
       .rw[v6];intro y hy he;simp only[vu]at he;have:=mc y hy;omega
      .obtain⟨p1,p2⟩:=hblk g (by simp[hg]);refine⟨p1,λk b' aZ he=>?_⟩;rcases q5 k b' g aZ he with⟨b2,gm,he2⟩|h3
       .exact p2 k b2 gm he2
       .exact(z6.1 ew).2.2 g h3 g hg rfl
     .simp at h1
    .simp at h1
   .simp at h
  .simp at h
 |[],_::_,_,_,_,_,_,_,_,ha,_,_,_=>ha.elim
 |_::_,[],_,_,_,_,_,_,_,ha,_,_,_=>ha.elim
end
section
variable{N:NT}{np:H}{S0:aX}{w0:Á}{refs:Refs}{σ:St}{a:ß}{w:Á}{S:aX}{γ:H->G}
theorem MN{S':aX}{w':Á}:∀(cs:F Cap)(cv:F G)(os:F Out),mF S' w' (cs.map rI) cv os->os=[]
 |[],[],[],_=>rfl
 |[],[],_::_,h=>h.elim
 |[],_::_,_,h=>h.elim
 |c::cs,[],_,h=>by cases c<;>exact h.elim
 |.v _::cs,_::cv,os,h=>MN cs cv os h
 |.p _::cs,_::cv,os,h=>MN cs cv os h
theorem zZ{S':aX}{w':Á}{cs:F Cap}{cv:F G}:∀{as:F Arg}{zs:F G}{os:F Out},as.length=zs.length->
  mF S' w' (as++cs.map rI) (zs++cv) os->mF S' w' as zs os
 |[],[],os,_,h=>by
  have:=MN cs cv os h;subst this;trivial
 |.ref ls::as,u::us,.ref ys::os,hl,⟨h1,h2⟩=>⟨h1,zZ (by simpa using hl) h2⟩
 |.rl e x::as,u::us,.rl y::os,hl,⟨h1,h2,h3⟩=>⟨h1,h2,zZ (by simpa using hl) h3⟩
 |.v _::as,_::us,os,hl,h=>zZ (as:=as) (zs:=us) (by simpa using hl) h
 |.ip _::as,_::us,os,hl,h=>zZ (as:=as) (zs:=us) (by simpa using hl) h
 |.clo _ _::as,_::us,os,hl,h=>zZ (as:=as) (zs:=us) (by simpa using hl) h
 |.mv _ _::as,_::us,os,hl,h=>zZ (as:=as) (zs:=us) (by simpa using hl) h
 |[],_::_,_,hl,_=>by simp at hl
 |_::_,[],_,hl,_=>by simp at hl
 |.ref _::_,_::_,[],_,h=>h.elim
 |.ref _::_,_::_,.rl _::_,_,h=>h.elim
 |.rl _ _::_,_::_,[],_,h=>h.elim
 |.rl _ _::_,_::_,.ref _::_,_,h=>h.elim
theorem h9.congr{bx bx':H->BS}:∀{as:F Arg}{us:F G}{fs:F Bk},(∀f∈fs,bx' f.name=bx f.name)->h9 bx γ as us fs->h9 bx' γ as us fs
 |[],[],[],_,_=>trivial
 |.ref ls::as,u::us,.ref k::fs,hc,⟨h1,⟨ls',h2⟩,h3⟩=>
  ⟨h1,⟨ls',(hc (.ref k) ae).trans h2⟩,h9.congr (λf hf=>hc f (by simp[hf])) h3⟩
 |.rl e x::as,u::us,.rl k e' t::fs,hc,⟨h0,h1,⟨xs,h2,hx⟩,h3⟩=>
  ⟨h0,h1,⟨xs,(hc (.rl k e' t) ae).trans h2,hx⟩,h9.congr (λf hf=>hc f (by simp[hf])) h3⟩
 |.mv e x::as,u::us,.mv k e' t::fs,hc,⟨h0,h1,⟨xs,h2,hx⟩,h3⟩=>
  ⟨h0,h1,⟨xs,(hc (.mv k e' t) ae).trans h2,hx⟩,h9.congr (λf hf=>hc f (by simp[hf])) h3⟩
 |.v _::as,_::us,fs,hc,h=>h9.congr (as:=as) (us:=us) hc h
 |.ip _::as,_::us,fs,hc,h=>h9.congr (as:=as) (us:=us) hc h
 |.clo _ _::as,_::us,fs,hc,h=>h9.congr (as:=as) (us:=us) hc h
theorem Cq{S1 S':aX}{w':Á}(fw:∀g o,S g o->S' g o):∀{as:F Arg}{zs:F G}{os:F Out},os.all Out.flat=Â->mF S' w' as zs os->mF S w' as zs os
 |[],[],[],_,_=>trivial
 |.ref ls::as,u::us,.ref ys::os,hf,⟨⟨g,cur,e,h1,h2,h3,h4⟩,h5⟩=>by
  simp only[z7,jc,Out.flat]at hf;refine⟨⟨g,cur,e,h1,h2,?_,λo hs=>h4 o (fw g o hs)⟩,Cq (S1:=S1) fw hf.2 h5⟩;have hl:=hf.1;clear h1 h2 hf h4 h5;generalize cur.toList.take ys.length=l at h3;induction ys generalizing l with
  |nil=>cases l with|nil=>trivial|cons _ _=>exact h3.elim
  |cons y ys ih=>
   cases l with
   |nil=>exact h3.elim
   |cons z l=>simp only[z7,jc]at hl;exact⟨vQ _ _ _ hl.1 h3.1,ih hl.2 l h3.2⟩
 |.rl e x::as,u::us,.rl y::os,hf,⟨⟨t,xs,h1,_⟩,_,_⟩=>by
  grind[Out.flat,Ty.flat]
 |.v _::as,_::us,os,hf,h=>Cq (S1:=S1) (as:=as) (zs:=us) fw hf h
 |.ip _::as,_::us,os,hf,h=>Cq (S1:=S1) (as:=as) (zs:=us) fw hf h
 |.clo _ _::as,_::us,os,hf,h=>Cq (S1:=S1) (as:=as) (zs:=us) fw hf h
 |.mv _ _::as,_::us,os,hf,h=>Cq (S1:=S1) (as:=as) (zs:=us) fw hf h
theorem jE3{S S':aX}{w:Á}{e:H}{a:Ty}{xs:F a.den}{u:G}(hf:a.flat=Â)(h:sH S' w e a xs u):sH S w e a xs u:=by
 rcases h with⟨hm,css,h1,h2⟩|⟨hm,h1⟩
 .exact .inl ⟨hm,css,h1,h2.mono λx c hx=>vQ _ _ _ hf hx⟩
 .refine .inr ⟨hm,?_⟩;revert hf h1;cases a with
  |pair k b=>intro hf h1;simp only[Ty.flat,jc]at hf;obtain⟨g,es,clock,hu,hh,ha,hq⟩:=h1;exact⟨g,es,clock,hu,hh,ha.mono λx e hx=>⟨vQ _ _ _ hf.1 hx.1,vQ _ _ _ hf.2 hx.2.1,hx.2.2⟩,hq⟩
  |_=>intro _ h1;exact h1.elim
theorem Xl{S':aX}{w':Á}(fw:∀g o,S g o->S' g o):∀{rs:F RV}{vs:F G},rs.all RV.flat=Â->All2 (rS S' w') rs vs->All2 (rS S w') rs vs
 |[],[],_,_=>trivial
 |r::rs,v::vs,hf,h=>by
  simp only[z7,jc]at hf;have i1:=Xl fw hf.2 h.2;cases r with
  |v x=>obtain⟨h1,h2,h3⟩:=h.1;exact⟨⟨vQ _ _ _ hf.1 h1,h2,h3⟩,i1⟩
  |own e x=>obtain⟨a,xs,rfl,h1,h2⟩:=h.1;exact⟨⟨a,xs,rfl,jE3 hf.1 h1,λg hg o hs=>h2 g hg o (fw g o hs)⟩,i1⟩
  |so ls=>simp[RV.flat]at hf
  |box ls=>simp[RV.flat]at hf
  |hd n=>simp[RV.flat]at hf
  |vn x ns=>simp[RV.flat]at hf
  |clo f cs=>simp[RV.flat]at hf
  |raw ns s=>simp[RV.flat]at hf
 |[],_::_,_,h=>h.elim
 |_::_,[],_,h=>h.elim
theorem jE4{rd:H->BS}(ba:RdOk σ rd){un:Ups}(h:un.all (λe=>iR (rd e.1))=Â):∀x∈un,σ.bx x.1 = .free:=
 λx hx=>ba.free (jw.1 h x hx)
theorem All2.len{α β:Type}{R:α->β->Prop}{as:F α}{bs:F β}(h:All2 R as bs):as.length=bs.length:=h.length
theorem Xm{γ':H->G}{bx:H->BS}{S':aX}{w':Á}{tmv:H->G}{cs:F Cel}{vs:F G}(h:All2 (bS S' w' γ' bx) cs vs) :
  jD S' w' γ' bx tmv (DS cs) (nH vs):=by
 match cs,vs,h with
 |[c],[v],h=>exact h.1
 |[],[],h=>exact⟨#[],rfl,trivial⟩
 |c::c'::cs,v::v'::vs,h=>exact⟨(v::v'::vs).toArray,rfl,by simpa using h⟩
 |[c],v::v'::vs,h=>exact h.2.elim
 |c::c'::cs,[v],h=>exact h.2.elim
 |[],v::vs,h=>exact h.elim
 |c::cs,[],h=>exact h.elim
theorem Ih{bx:H->BS}{k e:H}{t:Ty}:∀{as:F Arg}{us:F G}{fs:F Bk},h9 bx γ as us (.rl k e t::fs)->∀(bs:F Arg)(vs:F G),Ib (as++bs) (us++vs)=D (γ k)
 |.rl e x::as,u::us,fs,⟨_,h1,_,_⟩,bs,vs=>by rw[<-h1];rfl
 |.v _::as,_::us,fs,h,bs,vs=>Ih (as:=as) (us:=us) (fs:=fs) h bs vs
 |.ip _::as,_::us,fs,h,bs,vs=>Ih (as:=as) (us:=us) (fs:=fs) h bs vs
 |.clo _ _::as,_::us,fs,h,bs,vs=>Ih (as:=as) (us:=us) (fs:=fs) h bs vs
 |[],[],fs,h,_,_=>h.elim
 |.ref _::as,_::us,fs,h,_,_=>h.elim
 |.mv _ _::as,_::us,fs,h,_,_=>h.elim
 |[],_::_,fs,h,_,_=>h.elim
 |_::_,[],fs,h,_,_=>by cases ‹Arg› <;> exact h.elim
theorem Xn{α β:Type}:∀(l:F α)(l':F β),List.Sublist ((l.zip l').map (·.1)) l
 |[],_=>ae
 |_::_,[]=>ae
 |x::l,y::l'=>by simpa using Xn l l'
theorem Xo:∀(as:F Arg)(us:F G)(bs:F Arg)(vs:F G),as.length=us.length->mvOf (as++bs) (us++vs)=mvOf as us++mvOf bs vs
 |[],[],bs,vs,_=>rfl
 |a::as,u::us,bs,vs,h=>by
  have ih:=Xo as us bs vs (by simpa using h);cases a<;>simp[mvOf,ih]
 |[],_::_,_,_,h=>by simp at h
 |_::_,[],_,_,h=>by simp at h
theorem Xp:∀(cs:F Cap)(zs:F G),mvOf (cs.map rI) zs=[]
 |[],_=>by cases ‹F G› <;> rfl
 |c::cs,[]=>by cases c<;>rfl
 |c::cs,z::zs=>by cases c<;>simp[mvOf,rI,Xp cs zs]
theorem Ii:∀{fs:F Bk}{os:F Out}{uo:Ups}{f:Bk},ny fs os=D uo->f∈fs->f.isMv=Â->(f.name,BS.gone)∈uo
 |[],os,uo,f,_,hf,_=>by simp at hf
 |.mv k e a::fs,os,uo,f,h,hf,hm=>by
  simp only[ny]at h;split at h
  .rename_i u' fF;simp only[j5]at h;subst h;rcases jb.1 hf with rfl|hf
   .exact zb
   .exact qm _ (Ii fF hf hm)
  .simp at h
 |.ref k::fs,[],uo,f,h,hf,hm=>by simp[ny]at h
 |.rl k e a::fs,[],uo,f,h,hf,hm=>by simp[ny]at h
 |.ref k::fs,o::os,uo,f,h,hf,hm=>by
  simp only[ny]at h;split at h
  .split at h
   .rename_i u' fF;simp only[j5]at h;subst h;rcases jb.1 hf with rfl|hf
    .simp[Bk.isMv]at hm
    .exact qm _ (Ii fF hf hm)
   .simp at h
  .simp at h
 |.rl k e a::fs,o::os,uo,f,h,hf,hm=>by
  simp only[ny]at h;split at h
  .split at h
   .rename_i u' fF;simp only[j5]at h;subst h;rcases jb.1 hf with rfl|hf
    .simp[Bk.isMv]at hm
    .exact qm _ (Ii fF hf hm)
   .simp at h
  .simp at h
theorem Xq{P:Y}(hR:Rel N np S0 w0 refs σ a w S γ){rw rd rdf:H->BS}(kQ:RdR σ rw)(ba:RdOk σ rd)(bu:RdF np σ rdf){T:H->À TyI}{ts:F H}{ms:F Ö}{cs:F Cel}{as:F Arg}{us:Ups}{fs:F Bk}{zs:F G}
  {mv:Ö}(h:qD rw rdf T mv ts ms cs=D (as,us,fs))(ha:All2 (bS S w γ σ.bx) cs zs)(ca:bkOk us fs=Â)
  {caps:F Cap}{cv:F G}(mG:All2 (kY S w) caps cv){g:H}{K:Ret->Prop}
  (eb:Ie P g (as++caps.map rI) K)(n:H) :
  Calls P g (zs++cv).toArray w λe w'=>∃ret,K ret/\∀s u,u9 rd rdf n us fs ret=D (s,u)->∃v S' γ',e = .returned v/\Rel N np S0 w0 refs (σ.upd u) a w' S' γ'/\jD S' w' γ' (σ.upd u).bx (tm a) s v:=by
 obtain⟨fE,fH,sM⟩:=W0 hR kQ bu h ha;simp only[bkOk,jc]at ca;obtain⟨ew,MO⟩:=ca;have ew:=zX ew
 have hlen:as.length=zs.length:=by
  have:∀{as:F Arg}{us:F G}{fs:F Bk},h9 σ.bx γ as us fs->as.length=us.length:=by
   intro as;induction as with
   |nil=>intro us fs hh;cases us with|nil=>rfl|cons _ _=>exact hh.elim
   |cons a as ih=>
    intro us fs hh;cases us with
    |nil=>cases a<;>exact hh.elim
    |cons u us=>
     cases a with
     |v x=>have:=ih (us:=us) (fs:=fs) hh;simp[this]
     |ip x=>have:=ih (us:=us) (fs:=fs) hh;simp[this]
     |clo x y=>have:=ih (us:=us) (fs:=fs) hh;simp[this]
     |ref ls=>match fs,hh with|.ref k::fs,⟨_,_,h3⟩=>grind
     |rl e x=>match fs,hh with|.rl k e' t::fs,⟨_,_,_,h3⟩=>grind
     |mv e x=>match fs,hh with|.mv k e' t::fs,⟨_,_,_,h3⟩=>grind
  exact this fH
 obtain⟨S1,bI,cT,gR,dq⟩:=oE us σ S hR fE;have EI:∀k,k∈fs.map Bk.name->us.any (λy=>y.1==k)=false:=by grind
 have td:∀f∈fs,(σ.upd us).bx f.name=σ.bx f.name:=λf hf=>l9 us σ (EI _ (ô hf));have vT:=fH.congr td
 have vU:∀k b,fs.any (λy=>y.name==k)=Â->σ.bx k = .live b->∀g,blk (γ k)=D g->∀o,¬S1 g o:=by
  intro k b hk hb g hg o;obtain⟨f,hf,he⟩:=List.any_eq_true.1 hk;have he:f.name=k:=by simpa using he
  subst he;have dS:(σ.upd us).bx f.name = .live b:=(td f hf).trans hb;have dn:=bI.box f.name b dS
  have nK:(∃ls',b = .cell ls' J)\/(∃e t xs,b = .lst e t xs J):=by
   have:∀{as:F Arg}{us:F G}{fs:F Bk},h9 σ.bx γ as us fs->f∈fs->(∃ls',σ.bx f.name = .live (.cell ls' J))\/(∃e t xs,σ.bx f.name = .live (.lst e t xs J)):=by
    intro as;induction as with
    |nil=>intro us fs hh hm;match us,fs,hh with|[],[],_=>simp at hm
    |cons a as ih=>
     intro us fs hh hm;cases us with
     |nil=>cases a<;>exact hh.elim
     |cons u us=>
      cases a with
      |v x=>exact ih (us:=us) (fs:=fs) hh hm
      |ip x=>exact ih (us:=us) (fs:=fs) hh hm
      |clo x y=>exact ih (us:=us) (fs:=fs) hh hm
      |ref ls=>
       match fs,hh with
       |.ref k::fs,⟨_,⟨ls',h2⟩,h3⟩=>
        rcases jb.1 hm with rfl|hm
        .exact .inl ⟨ls',h2⟩
        .exact ih h3 hm
      |rl e x=>
       match fs,hh with
       |.rl k e' t::fs,⟨_,_,⟨xs,h2,_⟩,h3⟩=>
        rcases jb.1 hm with rfl|hm
        .exact .inr ⟨_,t,xs,h2⟩
        .exact ih h3 hm
      |mv e x=>
       match fs,hh with
       |.mv k e' t::fs,⟨_,_,⟨xs,h2,_⟩,h3⟩=>
        rcases jb.1 hm with rfl|hm
        .exact .inr ⟨_,t,xs,h2⟩
        .exact ih h3 hm
   grind
  rcases nK with⟨ls',rfl⟩|⟨e,t,xs,rfl⟩
  .obtain⟨g',cur,e,aP,_,_,_,hS,_⟩:=dn;grind[blk]
  .exact(dn.2 g hg).1 rfl o
 have cW:All2 (oO S1 w) as zs:=sM S1 cT gR vU;have EJ:All2 (oO S1 w) (caps.map rI) cv:=W8 (mG.mono (λx z hx=>kY.keep cT hx));have hrefs:ei (as++caps.map rI) (zs++cv)=ei as zs:=by grind[Xa,W9]
 have vV:(ei as zs).Nodup:=by rw[xK fH];have:=ME hR ew (λk hk=>by grind[uJ]);grind
 refine(eb w S1 (zs++cv) (cW.append EJ) (by rw[hrefs];exact vV) bI.here).mono ?_
 rintro e w' ⟨ret,hK,v,S',vs,rfl,dg⟩
 refine⟨ret,hK,λs u bT=>?_⟩;obtain⟨fq,bR,tg,oT,eL,mI,eR,gJ,gq,fM,s9,nI,cV,qO,th⟩:=dg;rw[hrefs]at gq;have MP:mvOf (as++caps.map rI) (zs++cv)=mvOf as zs:=by grind[Xo,Xp]
 rw[MP]at tg eR;have oP:∀f∈fs,f.isMv=Â->parK np f.name=false:=Xc bu h;have eL:=zZ hlen eL;refine⟨v,?_⟩;unfold u9 at bT;split at bT
 ·-- the list MQ first,cut short
  rename_i m MR;unfold mkHd at bT;generalize gS:ret.outs=ro at bT eL;split at bT
  .rename_i k e el W7 y rT _;split at bT
   .rename_i uo ys Cr iK;split at bT
    .rename_i cH;simp only[jc]at cH;simp only[j5,j9]at bT;obtain⟨rfl,rfl⟩:=bT;have cC:=MG bI mI eR gJ (λ_ h=>h) oP vT ew Cr eL gq fM s9 nI cV;obtain⟨pR,EK⟩:=vR bI vT Cr eL;have zN:(uo.map (·.1)).Nodup:=by rw[pR];exact ew
     have MS:(k,BS.live (.lst e el ys J))∈uo:=by grind[ny,HJ]
     have fo:=Cm uo (σ.upd us) zN MS;obtain⟨bl,xM⟩:=Ef cH.2;have uF:=bu.par xM;have h0:=ba.free cH.1;have h1:(σ.upd us).bx n = .free:=dq.free h0;have oU:((σ.upd us).upd uo).bx n = .free:=by grind[l9]
     obtain⟨ad,len,cap,gY,Cs,om⟩:=th m MR;have EL:γ k = .slice ad len cap:=by grind[Ih]
     have xH:len=ys.length:=by obtain⟨css,aS,_⟩:=HU EL (cC.box k _ fo);rcases aS.2 with⟨aP,hn⟩|⟨g,iz,cur,aP,_⟩;all_goals simp_all
     obtain⟨γ',dy,gZ⟩:=jDX cC fo uF oU (m:=m) aa (by rw[EL,xH]);refine⟨S',γ',rfl,by grind[mC],?_⟩;rw[fq,om,mC,mC];exact gZ
    .simp at bT
   .simp at bT
  .simp at bT
 ·-- the results as MT lie
  rename_i ns sn MR;unfold DT at bT;generalize gS:ret.outs=ro at bT eL;split at bT
  case h_2=>simp at bT
  split at bT
  case isFalse=>simp at bT
  rename_i cH;simp only[jc]at cH;simp only[j5,j9]at bT;obtain⟨rfl,rfl⟩:=bT;have cC:=MG bI mI eR gJ (λ_ h=>h) oP vT ew (uo:=[]) rfl eL gq fM s9 nI cV;have fw:∀x∈rawU ns sn,x.1∈ns:=λx hx=>(List.of_mem_zip hx).1
  obtain⟨γ',gz,Ct,gP,dO⟩:=jAY (h0:=w.heap.size) cC hR.grow (λk b g hb hg=>lj (bI.box k b hb) hg) (λg hg=>hR.kw_new hg) (qO ns sn MR)
   (λx hx=>dq.free (ba.free (jw.1 cH.2 x.1 (fw x hx)))) (by
    exact List.Nodup.sublist (Xn _ _) (zX cH.1))
  refine⟨S',γ',rfl,by rw[mC];exact gz,?_⟩;rw[gP,mC];exact Xm dO
 split at bT
 .rename_i uo Cr;split at bT
  .rename_i nJ un rU;split at bT
   .rename_i bA;have bA:=jE4 ba bA
    have fV:∀(ng:Ups)(Sx Sy:aX),(ng=us\/ng=[])->Rel N np S0 w0 refs (σ.upd ng) a w Sx γ->dI Sx w Sy w'->(∀g o,Sy g o->Sx g o\/w.heap.size<=g\/g∈mvOf as zs)->(∀g o,Sy g o->g<w'.heap.size)->
      mF Sy w' as zs ret.outs->All2 (rS Sy w') ret.vals vs->
      ∃S' γ',Rel N np S0 w0 refs (σ.upd (ng++uo++un)) a w' S' γ'/\All2 (bS S' w' γ' (σ.upd (ng++uo++un)).bx) nJ vs:=by
     intro ng Sx Sy Aa vW Ab EM Ac xN EN
     have vX:h9 (σ.upd ng).bx γ as zs fs:=by
      rcases Aa with rfl|rfl
      .exact vT
      .exact fH
     have cC:=MG vW Ab EM Ac (λ_ h=>h) oP vX ew Cr xN gq fM s9 nI cV;obtain⟨pR,EK⟩:=vR vW vX Cr xN;have tj:∀k b,((σ.upd ng).upd uo).bx k = .live b->∃b',(σ.upd ng).bx k = .live b':=by grind[l9]
     have oU:∀x∈un,((σ.upd ng).upd uo).bx x.1 = .free:=by
      intro x hx;have h0:=bA x hx
      have h1:(σ.upd ng).bx x.1 = .free:=by
       rcases Aa with rfl|rfl
       .exact dq.free h0
       .exact h0
      rw[l9 uo,h1];rw[v6];intro y hy he;simp only[vu]at he;grind
     obtain⟨γ',gz,_,qP⟩:=Xk cC rU EN oU oT (λg hg=>by
      rcases tg g hg with oI|hgm
      .refine⟨⟨.inl (kf hR.grow oI),hR.kw_new oI⟩,λk b hb he=>?_⟩;obtain⟨b',aZ⟩:=tj k b hb;have:=lj (vW.box k b' aZ) he;omega
      .obtain⟨f,hf,Xe,vS⟩:=xL vX hgm;obtain⟨bf,Cu⟩:=uJ vX f hf;refine⟨⟨?_,vW.kw_live Cu vS⟩,λk b hb he=>?_⟩
       .rcases vW.own f.name bf g Cu vS with h|h;all_goals grind
       .obtain⟨b',aZ⟩:=tj k b hb
        have hkf:k≠f.name:=by
         rintro rfl
         have Xr:=Ii Cr hf Xe;grind[Cm]
        exact vW.apart k f.name b' bf g hkf aZ Cu he vS)
     grind[mC]
    have di:∃ng,(ng=us\/ng=[])/\ng=(if ret.vals.all RV.flat&&ret.outs.all Out.flat then [] else us)/\
      ∃S' γ',Rel N np S0 w0 refs (σ.upd (ng++uo++un)) a w' S' γ'/\All2 (bS S' w' γ' (σ.upd (ng++uo++un)).bx) nJ vs:=by
     by_cases pS:(ret.vals.all RV.flat&&ret.outs.all Out.flat)=Â
     .refine⟨[],.inr rfl,by rw[if_pos pS],?_⟩;obtain⟨oF,sN⟩:=Bool.and_eq_true_iff.1 pS;have fw:∀g o,S g o->S' g o:=λg o hs=>(mI g o (cT g o hs).1).1
      refine fV [] S S (.inr rfl) hR (λg o hs=>⟨hs,(mI g o (cT g o hs).1).2⟩) (λg o hs=> .inl hs) (λg o hs=>qd (hR.here g o hs) fM)
       (Cq (S1:=S1) fw sN eL) (Xl fw oF bR)
     grind
    obtain⟨ng,_,Aa,S2,γ2,cC,EO⟩:=di
    have hs:s=DS nJ/\u=(if ret.vals.all RV.flat&&ret.outs.all Out.flat then [] else us)++uo++un:=by
     clear EO fV cC rU;revert bT;match nJ with
     |[c]=>simp only[j5,j9];rintro⟨rfl,rfl⟩;exact⟨rfl,rfl⟩
     |[]=>simp only[j5,j9];rintro⟨rfl,rfl⟩;exact⟨rfl,rfl⟩
     |c::c'::r=>simp only[j5,j9];rintro⟨rfl,rfl⟩;exact⟨rfl,rfl⟩
    grind[Xm]
   .simp at bT
  .simp at bT
 .simp at bT
theorem EP{P:Y}{f:H}(hf:Fun P f){o:Oper}{cl:Call}(ho:o.op = .call cl){x:þ}(hc:cl.callee = .value x){cv:Ë G}(hx:a.eval x = .func (.func f) #[] cv) :
  (execOp a.eval o).run P w = .ok (.enter f (cl.args.map a.eval++cv)) w:=by
 obtain⟨fn,h1,h2,h3⟩:=hf;have mz:¬fn.body=none:=λhn=>by simp_all
 have xO : ¬ fn.name = "runtime.NumGoroutine" := by simpa using h3
 simp[execOp,ho,resolve,hc,Deferred.ofValue,hx,invoke,callFunc,h1,mz,xO]
end
section
variable{N:NT}{np:H}{S0:aX}{w0:Á}{refs:Refs}{σ:St}{a:ß}{w:Á}{S:aX}{γ:H->G}
def keyV:(k:Ty)->k.den->G
 |.int q,n=> .int q n
 |.str,s=> .string s
 |_,_=>undef
theorem Cv:∀{k:Ty}{x:k.den}{u:G},k.isKey=Â->(Rep S w k x [u]↔u=keyV k x)
 |.int q,x,u,_=>by simp[Rep,keyV]
 |.str,x,u,_=>by simp[Rep,keyV]
 |.bool,_,_,h=>by simp[Ty.isKey]at h
 |.unit,_,_,h=>by simp[Ty.isKey]at h
 |.wrap _,_,_,h=>by simp[Ty.isKey]at h
 |.pair _ _,_,_,h=>by simp[Ty.isKey]at h
 |.list _,_,_,h=>by simp[Ty.isKey]at h
 |.arr _ _,_,_,h=>by simp[Ty.isKey]at h
def keyD:Ty->TypeDesc
 |.int q=> .int q
 |_=> .string
theorem jE5{P:Y}{T:H->À TyI}(hT:cP P T){n:H}{ti:TyI}(hn:T n=D ti){k:Ty}(bJ:ti.ty=D k)(hk:k.isKey=Â):P.underlying n=D (keyD k):=by
 cases k with
 |int q=>exact L6 hT hn bJ
 |str=>exact Md hT hn bJ
 |_=>simp[Ty.isKey]at hk
theorem Xs{k:Ty}(hk:k.isKey=Â)(x:k.den):MapKept.IsKey (keyD k) (keyV k x):=by
 cases k with
 |int q=>rfl
 |str=>trivial
 |_=>simp[Ty.isKey]at hk
theorem MU{k:Ty}(hk:k.isKey=Â)(x y:k.den):õ (keyD k) (keyV k x) (keyV k y)=D (@BEq.beq _ k.keq x y):=by
 cases k with
 |int q=>simp[keyD,keyV,õ]
 |str=>simp[keyD,keyV,õ]
 |_=>simp[Ty.isKey]at hk
theorem jId{k:Ty}(hk:k.isKey=Â){x y:k.den}(h:@BEq.beq _ k.keq x y=Â):x=y:=by
 cases k with
 |int q=>simpa[Ty.keq]using h
 |str=>exact(ê x y).1 h
 |_=>simp[Ty.isKey]at hk
theorem Xt{k:Ty}(hk:k.isKey=Â)(x:k.den):ð 10000 (keyV k x) (keyV k x)=true:=by
 cases k with
 |int q=>simp[keyV,ð]
 |str=>simp only[keyV,ð];exact(ê x x).2 rfl
 |_=>simp[Ty.isKey]at hk
def ER(S:aX)(w:Á)(k v:Ty)(x:k.den×v.den)(e:MapEntry):Prop:=Rep S w k x.1 [e.key]/\VRep S w ⟨v,x.2⟩ e.val
theorem MV{k v:Ty}(hk:k.isKey=Â)(q:k.den):∀{xs:F (k.den×v.den)}{es:F MapEntry},All2 (ER S w k v) xs es->∀i:H,
  (@mZ _ _ k.keq xs q=Â/\∃j e,Û (keyD k) (keyV k q) es i=D (D (i+j,e.val))/\es[j]? = D e/\e.key=keyV k q/\VRep S w ⟨v,@iQ _ _ k.keq v.dflt xs q⟩ e.val/\
   ∀(z:v.den)(e':MapEntry),e'.key=keyV k q->VRep S w ⟨v,z⟩ e'.val->All2 (ER S w k v) (@kV _ _ k.keq xs q z) (es.set j e'))\/
  (@mZ _ _ k.keq xs q=J/\Û (keyD k) (keyV k q) es i=D O/\@iQ _ _ k.keq v.dflt xs q=v.dflt/\∀z,@kV _ _ k.keq xs q z=xs++[(q,z)])
 |[],[],_,i=> .inr ⟨rfl,rfl,rfl,λ_=>rfl⟩
 |x::xs,e::es,h,i=>by
  have xP:e.key=keyV k x.1:=(Cv hk).1 h.1.1;have hs:=MU hk q x.1;rw[<-xP]at hs;cases hb:@BEq.beq _ k.keq q x.1 with
  |true=>
   rw[hb]at hs;have hqx:=jId hk hb;refine .inl ⟨by simp[mZ,hb],0,e,by simp[Û,hs],rfl,by rw[xP,hqx],?_,λz e' h1 h2=>?_⟩
   .simp only[iQ,hb,j6];exact h.1.2
   .simp only[kV,hb,j6,á];exact⟨⟨(Cv hk).2 h1,h2⟩,h.2⟩
  |false=>
   rw[hb]at hs;rcases MV hk q h.2 (i+1) with⟨h1,j,e',h2,h3,h4,h5,h6⟩|⟨h1,h2,h3,h4⟩
   .refine .inl ⟨by simp only[mZ,ä,hb,Bool.false_or];exact h1,j+1,e',by simp only[Û,hs,h2];congr 3;omega,by simpa using h3,h4,?_,λz e2 g1 g2=>?_⟩
    .simp only[iQ,hb,j7];exact h5
    .simp only[kV,hb,j7,List.set_cons_succ];exact⟨h.1,h6 z e2 g1 g2⟩
   .refine .inr ⟨by simp only[mZ,ä,hb,Bool.false_or];exact h1,by simp only[Û,hs,h2],?_,λz=>?_⟩
    .simp only[iQ,hb,j7];exact h3
    .simp only[kV,hb,j7,h4 z];rfl
 |[],_::_,h,_=>h.elim
 |_::_,[],h,_=>h.elim
theorem Xu{k v:Ty}(hk:k.isKey=Â){q:k.den}:∀{xs:F (k.den×v.den)}{es:F MapEntry},All2 (ER S w k v) xs es->@mZ _ _ k.keq xs q=J->∀e∈es,e.key≠keyV k q
 |[],[],_,_=>ae
 |x::xs,e::es,h,hn=>by
  simp only[mZ,ä,v8]at hn;intro e' MW;rcases jb.1 MW with rfl|MW
  .intro hq;have xP:=(Cv hk).1 h.1.1;have hs:=MU hk q x.1;rw[<-xP,hq,MU hk q q,hn.1]at hs;simp only[j5]at hs;have:=Xt hk q;cases k with
   |int z=>simp at hs
   |str=>have:=(ê q q).2 rfl;exact absurd (hs.symm.trans this) ae
   |_=>simp[Ty.isKey]at hk
  .exact Xu hk h.2 hn.2 e' MW
 |[],_::_,h,_=>h.elim
 |_::_,[],h,_=>h.elim
theorem Xv{P:Y}{T:H->À TyI}(hT:cP P T){t:H}{k v:Ty}(h:yV T t=D (k,v)) :
  ∃kt vt tv,P.underlying t=D (.map kt vt)/\P.underlying kt=D (keyD k)/\k.isKey=Â/\T vt=D tv/\tv.ty=D v:=by
 unfold yV at h;split at h
 .rename_i ti B8;split at h
  .rename_i k0 v0 hmp;split at h
   .rename_i tk tv qQ Cw;split at h
    .rename_i k1 v1 dr hv1;split at h
     .rename_i ln;simp only[j5,j9]at h;obtain⟨rfl,rfl⟩:=h;exact⟨k0,v0,tv,jGv hT B8 hmp,jE5 hT qQ dr ln,ln,Cw,hv1⟩
     .simp at h
    .simp at h
   .simp at h
  .simp at h
 .simp at h
theorem Xw{rw:H->BS}(kQ:RdR σ rw){t:H}{k v:Ty}{x y:Leaf}{b:H}{ys:F (k.den×v.den)}{q:k.den}(h:mapC rw t k v x y=D (b,ys,q)) :
  x = .ol b/\y = .d k q/\σ.bx b = .live (.lst (4294967296+t) (.pair k v) ys J):=by
 unfold mapC at h;split at h
 .rename_i b0 tk key;split at h
  .rename_i e a0 xs hb;split at h
   .rename_i he;split at h
    .rename_i LM q' h1 h2;simp only[j5,j9]at h;obtain⟨rfl,rfl,rfl⟩:=h;have e1:=oe h1;have e2:=oe h2;cases e1;cases e2;subst he;exact⟨rfl,rfl,kQ.live hb⟩
    .simp at h
   .simp at h
  .simp at h
 .simp at h
theorem ES(t:H):isM (4294967296+t)=true:=by
 unfold isM;rw[Nat.ble_eq];exact Nat.le_add_right _ _
theorem Xx(hR:Rel N np S0 w0 refs σ a w S γ){b t:H}{k v:Ty}{ys:F (k.den×v.den)}{f:Ö}(hb:σ.bx b = .live (.lst (4294967296+t) (.pair k v) ys f)) :
  ∃g es clock,γ b = .map (D g)/\w.heap[g]? = D (.map es clock)/\All2 (ER S w k v) ys es.toList/\L0 es clock:=by
 have h:=(hR.box b _ hb).1;rcases h with⟨hm,_⟩|⟨_,g,es,clock,h1,h2,h3,h4⟩
 .rw[ES]at hm;simp at hm
 .exact⟨g,es,clock,h1,h2,h3,h4⟩
theorem jB4{P:Y}{T:H->À TyI}(hT:cP P T){n:H}{ti:TyI}(hn:T n=D ti){t:Ty}(bJ:ti.ty=D t):∃z,(zeroValue n).run P w = .ok z w/\VRep S w ⟨t,t.dflt⟩ z:=by
 obtain⟨i,d,hi,hd,hs,_,ha,_,h⟩:=oc hT hn;obtain⟨_,⟨z,hz,hc⟩,hdo⟩:=h t bJ;have Xy:=jDM hT hn hi hd;refine⟨z,by simp[zeroValue,typeInfo,hi,hz],?_,?_,?_⟩
 .rw[hc];exact rP t
 .intro hm;have:aggD d=true:=by cases d<;>cases t<;>simp_all[mu,lX,aggD,Ty.agg]
  simp only[zOk,hz]at Xy;cases z<;>simp_all
 .intro hm;have:aggD d=false:=by cases d<;>cases t<;>simp_all[mu,lX,aggD,Ty.agg]
  simp only[zOk,hz]at Xy;cases z<;>first|rfl|simp_all
theorem jwn{P:Y}{E:Env}(hT:cP P E.T)(hR:Rel N np S0 w0 refs σ a w S γ){rw:H->BS}(kQ:RdR σ rw){t:H}{k v:Ty}(ht:yV E.T t=D (k,v)){x y:Leaf}{b:H}{ys:F (k.den×v.den)}{q:k.den}
  (h:mapC rw t k v x y=D (b,ys,q)){zx zy:G}(hx:bF S w γ σ.bx x zx)(hy:bF S w γ σ.bx y zy) :
  ∃z,VRep S w ⟨v,@iQ _ _ k.keq v.dflt ys q⟩ z/\∀ok,(ù t zx zy ok).run P w = .ok (if ok then .tuple #[z,.bool (@mZ _ _ k.keq ys q)] else z) w:=by
 obtain⟨kt,vt,tv,jS,Ad,ln,Cw,ET⟩:=Xv hT ht;obtain⟨rfl,rfl,hb⟩:=Xw kQ h;obtain⟨g,es,clock,hg,hh,ha,_⟩:=Xx hR hb;have EU:zx = .map (D g):=(hx.2.2 _ hb).trans hg;have EV:zy=keyV k q:=(Cv ln).1 hy;subst EU;subst EV;have xQ:=ñ (w:=w) Ad (Xs ln q) es.isEmpty 9999;rcases MV ln q ha 0 with⟨h1,j,e,h2,h3,h4,h5,h6⟩|⟨h1,h2,h3,h4⟩
 .refine⟨e.val,h5,λok=>?_⟩;have hf:=Ô (w:=w) Ad h2;simp only[ù,Z,run_underlying jS,I,Î hh,Ã,xQ,hf,h1]
 .obtain⟨z,hz,hzv⟩:=jB4 (S:=S) (w:=w) hT Cw ET;refine⟨z,by rw[h3];exact hzv,λok=>?_⟩;have hf:=Ô (w:=w) Ad h2;simp only[ù,Z,run_underlying jS,I,Î hh,Ã,xQ,hf,h1,hz]
theorem jB5(hR:Rel N np S0 w0 refs σ a w S γ){k:H}{b b':Bx}(hk:σ.bx k = .live b){g:H}(hg:blk (γ k)=D g)(hS:∀o,¬S g o)(rM:lY b b')
  {w':Á}(vY:∀i,i≠g->w'.heap[i]? = w.heap[i]?)(cO:w'.heap.size=w.heap.size)(s9:w'.os=w.os)(Ij:w'.tape=w.tape)(cV:w'.output=w.output)
  (hb:BxLe γ σ.bx γ (σ.setB k (.live b')).bx->dI S w S w'->eZ S w' γ (σ.setB k (.live b')).bx k b') :
  Rel N np S0 w0 refs (σ.setB k (.live b')) a w' S γ:=by
 have hle:BxLe γ σ.bx γ (σ.setB k (.live b')).bx:=by
  intro k' bC;by_cases cG:k'=k
  .subst cG;rw[fJ];exact⟨ae,rfl,λb1 dS=>by simp at dS;subst dS;exact⟨b,hk,rM⟩⟩
  .rw[cu σ _ cG];exact⟨bC,rfl,λb hb=>⟨b,hb,.refl b⟩⟩
 have aW:dI S w S w':=by
  intro g' o h;refine⟨h,Ñ (vY g' ?_)⟩
  rintro rfl
  exact hS o h
 have bX:∀k' b1,(σ.setB k (.live b')).bx k' = .live b1->∃b2,σ.bx k' = .live b2:=by
  intro k' b1 h1;by_cases cG:k'=k
  .subst cG;exact⟨b,hk⟩
  .rw[cu σ _ cG]at h1;exact⟨b1,h1⟩
 refine Rel.step (bx':=(σ.setB k (.live b')).bx) hR aW hle ?_ ?_ ?_ hR.new ?_ ?_ ?_ (s9.trans hR.os) (Ij.trans hR.tape) (cV.trans hR.output) (λg' _ _ h=>⟨vY g' (λe=>h k b hk (e▸hg)),λk' b1 h1=>by
  obtain⟨b2,h2⟩:=bX k' b1 h1;exact h k' b2 h2⟩)
 .intro k' b1 h1;by_cases cG:k'=k
  .subst cG;rw[fJ]at h1;simp at h1;subst h1;exact hb hle aW
  .rw[cu σ _ cG]at h1;refine eZ.keep aW hle rfl (λg' aP=>⟨?_,λ_=>ã⟩) (hR.box k' b1 h1);exact vY g' (λh=>hR.apart k' k b1 b g cG h1 hk (h▸aP) hg)
 .intro k' b1 g' h1 aP;obtain⟨b2,h2⟩:=bX k' b1 h1;exact hR.own k' b2 g' h2 aP
 .intro k1 k2 b1 b2 g' bD h1 h2 aP;obtain⟨vI,og⟩:=bX k1 b1 h1;obtain⟨vJ,mz⟩:=bX k2 b2 h2;exact hR.apart k1 k2 vI vJ g' bD og mz aP
 .intro g' o h;rw[cO];exact hR.here g' o h
 .intro g' aP hr;rw[vY g' ?_]
  .exact hR.below g' aP hr
  .rintro rfl
   rcases hR.own k b _ hk hg with h|h
   .exact h.no aa hr
   .exact hr h.1
 .rw[cO];exact hR.grow
theorem jzp{P:Y}{E:Env}(hT:cP P E.T)(hR:Rel N np S0 w0 refs σ a w S γ){rw:H->BS}(kQ:RdR σ rw){t:H}{k v:Ty}(ht:yV E.T t=D (k,v)){x y:Leaf}{b:H}{ys:F (k.den×v.den)}{q:k.den}
  (h:mapC rw t k v x y=D (b,ys,q)){zx zy zz:G}(hx:bF S w γ σ.bx x zx)(hy:bF S w γ σ.bx y zy){rdf:H->BS}(bu:RdF np σ rdf){c:Cel}{z:v.den}{u:Ups}(hd:rG rdf v c=D (z,u))(hz:bS S w γ σ.bx c zz) :
  ∃w' S',(Þ t zx zy zz).run P w = .ok () w'/\Rel N np S0 w0 refs (σ.upd (u++[(b,.live (.lst (4294967296+t) (.pair k v) (@kV _ _ k.keq ys q z) J))])) a w' S' γ:=by
 obtain⟨kt,vt,tv,jS,Ad,ln,Cw,ET⟩:=Xv hT ht;obtain⟨rfl,rfl,hb⟩:=Xw kQ h;obtain⟨fE,bR,_⟩:=Eh bu hR.box hd hz;obtain⟨S1,bI,cT,gR,dq⟩:=oE u σ S hR fE;have EW:u.any (λy=>y.1==b)=false:=by rw[v6];intro y hy nL;obtain⟨_,e,t',xs,f,h1,_,hm⟩:=fE y hy;rw[show y.1=b by simpa using nL,hb]at h1;cases h1;rw[ES]at hm;simp at hm
 have dS:(σ.upd u).bx b = .live (.lst (4294967296+t) (.pair k v) ys J):=(l9 u σ EW).trans hb;obtain⟨g,es,clock,hg,hh,ha,hq⟩:=Xx bI dS;have EU:zx = .map (D g):=(hx.2.2 _ hb).trans hg;have EV:zy=keyV k q:=(Cv ln).1 hy;subst EU;subst EV;have Xz:=bR S1 w cT gR;have vZ:blk (γ b)=D g:=by rw[hg];rfl
 have hS:∀o,¬S1 g o:=((bI.box b _ dS).2 g vZ).1 rfl;have xQ:=ñ (w:=w) Ad (Xs ln q) J 9999
 have main:∃wa mJ,(Þ t (.map (D g)) (keyV k q) zz).run P w = .ok () { w with heap:=w.heap.setIfInBounds g (.map wa mJ) }/\All2 (ER S1 w k v) (@kV _ _ k.keq ys q z) wa.toList/\L0 wa mJ:=by
  rcases MV ln q ha 0 with⟨h1,j,e,h2,h3,h4,h5,h6⟩|⟨h1,h2,h3,h4⟩
  .have hf:=Ô (w:=w) Ad h2;rw[ku]at hf;refine⟨es.modify j λe=>{ e with key:=keyV k q,val:=zz },clock,?_,?_,MapKept.stamped_modify hq.1 j _ (λ_ _=>rfl) (λe1 _ Ae=>?_),?_⟩
   .have wb:((es[j]?).map (·.key)).getD (keyV k q)=keyV k q:=by rw[show es[j]? = D e by simpa using h3];exact h4
    simp only[Þ,Z,run_underlying jS,I,Î hh,xQ,hf,Instr.keyThatStays,wb,Xt ln q,if_true,Ã,í _ hh]
   .have e1:(es.modify j λe=>{ e with key:=keyV k q,val:=zz }).toList=es.toList.set j { e with key:=keyV k q,val:=zz }:=by
     refine zw λi=>?_;rw[q7,î,List.getElem?_set];have xO:es[j]? = D e:=by simpa using h3
     by_cases dT:j=i
     .subst dT;simp only[if_true,xO,kb];rw[if_pos (by simpa using (jq.1 xO).1)]
     .simp[dT]
    rw[e1];exact h6 z _ rfl Xz
   .rw[show es[j]? = D e by simpa using h3]at Ae;cases Ae;exact h4.symm
   .rw[<-hq.2];refine zw λi=>?_;rw[q8,q8,q7,q7,î];split
    .rename_i dT;subst dT;cases es[j]? <;> rfl
    .rfl
  .have hf:=Ô (w:=w) Ad h2;refine⟨es.push { key:=keyV k q,val:=zz,born:=clock },clock+1,?_,?_,MapKept.stamped_push hq.1 (Xu ln ha h1),by rw[ü,List.map_append,hq.2,ÿ];rfl⟩
   .simp only[Þ,Z,run_underlying jS,I,Î hh,xQ,hf,í _ hh]
   .rw[h4 z,ü];exact ha.append ⟨⟨(Cv ln).2 rfl,Xz⟩,trivial⟩
 obtain⟨wa,mJ,aU,aD,Es⟩:=main;have ao:g<w.heap.size:=(jq.1 hh).1;refine⟨_,S1,aU,?_⟩;rw[mC];refine jB5 bI dS vZ hS (b':= .lst (4294967296+t) (.pair k v) (@kV _ _ k.keq ys q z) J) ⟨rfl,rfl,λhm=>by rw[ES]at hm;simp at hm⟩ (λi hi=>by simp[Ne.symm hi]) ae rfl rfl rfl λhle aW=>?_;refine⟨.inr ⟨ES t,g,wa,mJ,hg,by simp[ao],aD.mono λx e hx=>⟨Rep.keep aW _ _ _ hx.1,VRep.keep aW hx.2⟩,Es⟩,λg' aP=>?_⟩;rw[vZ]at aP;simp at aP;subst aP;exact⟨λ_=>hS,λh=>by simp at h⟩
theorem jzq{P:Y}(hR:Rel N np S0 w0 refs σ a w S γ){n t:H}{k v:Ty}(hn:σ.bx n = .free) :
  ∃γ',(Instr.makeMap t O).run P w = .ok (.map (D w.heap.size)) (w.alloc (.map #[] 0))/\Rel N np S0 w0 refs (σ.setB n (.live (.lst (4294967296+t) (.pair k v) [] J))) a (w.alloc (.map #[] 0)) S γ'/\
   bS S (w.alloc (.map #[] 0)) γ' (σ.setB n (.live (.lst (4294967296+t) (.pair k v) [] J))).bx (.one (.ol n)) (.map (D w.heap.size)):=by
 have EW:=HY hR hn (o:= .map #[] 0) (b:= .lst (4294967296+t) (.pair k v) [] J) (v:= .map (D w.heap.size)) (λg hg=>by simp[blk]at hg;exact hg.symm) (λhle=>by
  refine⟨.inr ⟨ES t,w.heap.size, #[],0,eQ _ _ _,heap_alloc_new w _,trivial,MapKept.stamped_empty 0,rfl⟩,λg hg=>?_⟩;rw[eQ]at hg;simp[blk]at hg;subst hg;exact⟨λ_ o ho=>by have:=hR.here _ o ho;omega,λh=>by simp at h⟩)
 refine⟨_,rfl,EW.1,⟨?_,rfl,λb hb=>(eQ _ _ _).symm⟩,λ_=>rfl⟩;rw[fJ];simp
end
section
variable{N:NT}{np:H}{S0:aX}{w0:Á}{refs:Refs}{σ:St}{a:ß}{w:Á}{S:aX}{γ:H->G}
theorem jzr{P:Y}{E:Env}(hT:cP P E.T)(hR:Rel N np S0 w0 refs σ a w S γ){rdf:H->BS}(bu:RdF np σ rdf){t:Ç}{ti:TyI}(ht:E.T t=D ti)
  {m:H}{el:Ty}(bJ:ti.ty=D (.arr m el)){ps:F (H×Cel)}{vs:Ë (H×G)}{xs:F el.den}{u:Ups}
  (iv:All2 (λp v=>p.1=v.1/\bS S w γ σ.bx p.2 v.2) ps vs.toList)(h:na rdf el (M m el.dflt) [] ps=D (xs,u)) :
  ∃v S',(Ú t vs).run P w = .ok v w/\Rel N np S0 w0 refs (σ.upd u) a w S' γ/\bS S' w γ (σ.upd u).bx (.av m el xs) v:=by
 obtain⟨jS,bZ,te,dJ,xR⟩:=B7 hT ht bJ;have cO:=od hT dJ xR;obtain⟨z,hz,iA⟩:=zF hT ht w bJ;obtain⟨fE,fh⟩:=Ms bu hR.box bZ ps vs.toList iv h .nil;obtain⟨S1,bI,cT,gR,dq⟩:=oE u σ S hR fE;obtain⟨WV,css,aD,pS⟩:=rP (S:=S1) (w:=w) (.arr m el);obtain⟨bO,mD,jP,jT,eU⟩:=fh S1 cT gR css z.cells aD (by rw[iA];exact pS);have hlen:∀(ps:F (H×Cel)){xs dE:F el.den}{u u':Ups},na rdf el xs u ps=D (dE,u')->dE.length=xs.length:=by intro ps;induction ps<;>grind[na]
 have nG:xs.length=m:=by grind
 refine⟨.agg bO,S1,?_,bI,bO,rfl,nG,mD,jT,eU⟩;simp only[Ú,Z,hz,I,run_underlying jS,jM hT dJ,<-cO,jP,Ã]
theorem jzs{P:Y}{E:Env}(hT:cP P E.T){bx:H->BS}{t:Ç}{ti:TyI}(ht:E.T t=D ti){m:H}{el:Ty}(bJ:ti.ty=D (.arr m el)) :
  ∃v,(Ú t #[]).run P w = .ok v w/\bS S w γ bx (.st (pI (.arr m el))) v:=by
 obtain⟨jS,bZ,te,dJ,xR⟩:=B7 hT ht bJ;obtain⟨z,hz,iA⟩:=zF hT ht w bJ;refine⟨.agg z.cells,?_,z.cells,rfl,by grind[xy],λu hu=>H7 iA u (by simpa using hu)⟩;simp only[Ú,Z,hz,I,run_underlying jS,jM hT dJ];rfl
theorem XA{rd:H->BS}(ba:RdF np σ rd)(hB:xv S w γ σ.bx){el:Ty}:∀{ls:F Leaf}{xs:F el.den}{u:Ups}{zs:F G},u5 rd el ls=D (xs,u)->All2 (bF S w γ σ.bx) ls zs->
  FrzL np σ.bx u/\∀S' w',dI S w S' w'->Froz σ.bx γ S' w' u->All2 (λx z=>Rep S' w' el x [z]) xs zs
 |[],xs,u,zs,h,ha=>by
  simp[u5]at h;obtain⟨rfl,rfl⟩:=h;cases zs with
  |nil=>exact⟨.nil,λ_ _ _ _=>trivial⟩
  |cons _ _=>exact ha.elim
 |l::ls,xs,u,zs,h,ha=>by
  cases zs with
  |nil=>exact ha.elim
  |cons z zs=>
   simp only[u5]at h;split at h
   .rename_i x u1 H9 u2 h1 h2;simp only[j5,j9]at h;obtain⟨rfl,rfl⟩:=h;obtain⟨f1,p1⟩:=xw ba hB h1 ha.1;obtain⟨f2,p2⟩:=XA ba hB h2 ha.2;exact⟨FrzL.app.2 ⟨f1,f2⟩,λS' w' hk hf=>⟨p1 S' w' hk (Froz.app.1 hf).1,p2 S' w' hk (Froz.app.1 hf).2⟩⟩
   .simp at h
theorem XB{el:Ty}{S':aX}{w':Á}:∀{xs:F el.den}{zs:F G},All2 (λx z=>Rep S' w' el x [z]) xs zs->∃css,All2 (λx c=>Rep S' w' el x c) xs css/\zs=css.flatten
 |[],[],_=>⟨[],trivial,rfl⟩
 |x::xs,z::zs,h=>by
  obtain⟨css,h1,h2⟩:=XB h.2;exact⟨[z]::css,⟨h.1,h1⟩,by simp[h2]⟩
 |[],_::_,h=>h.elim
 |_::_,[],h=>h.elim
theorem jB6{P:Y}{E:Env}(hT:cP P E.T)(hR:Rel N np S0 w0 refs σ a w S γ){rd rdf:H->BS}(ba:RdOk σ rd)(bu:RdF np σ rdf){t:Ç}{ti:TyI}(ht:E.T t=D ti)
  {x:Leaf}{m:H}{el:Ty}{ls:F Leaf}{xs:F el.den}{u:Ups}{v:G}(h:u6 rd ti.ty x=D (m,el,ls))(hg:u5 rdf el ls=D (xs,u))(hl:xs.length=m)(hx:bF S w γ σ.bx x v) :
  ∃z S',(Instr.loadAt t v).run P w = .ok z w/\Rel N np S0 w0 refs (σ.upd u) a w S' γ/\bS S' w γ (σ.upd u).bx (.av m el xs) z:=by
 unfold u6 at h;split at h
 .rename_i k;split at h
  .rename_i m' H2 bJ;split at h
   .split at h
    .rename_i ls' hk;simp only[j5,j9]at h;obtain⟨rfl,rfl,rfl⟩:=h;have hk:=ba.live hk;obtain⟨g,aP,hu⟩:=hx.2.2 _ hk;obtain⟨g',cur,e,kP,hh,ha,h1,_⟩:=hR.box k _ hk;rw[aP]at kP;simp at kP;subst kP;obtain⟨fE,fh⟩:=XA bu hR.box hg ha;obtain⟨S1,bI,cT,gR,dq⟩:=oE u σ S hR fE;obtain⟨css,aD,dm⟩:=XB (fh S1 w cT gR);have bR:Rep S1 w (.arr m' H2) xs (cur.toList.take ls'.length):=⟨hl,css,aD,dm⟩;obtain⟨Wr,_,_⟩:=B7 hT ht bJ;have cO:(cur.toList.take ls'.length).length=ti.size:=by have:=Rep.length _ _ _ bR;rw[od hT ht bJ]at this;exact this
     refine⟨.agg (cur.toList.take ls'.length).toArray,S1,?_,bI,(cur.toList.take ls'.length).toArray,rfl,by simpa using bR⟩;subst hu
     have Ik:=Wo (w:=w) (g:=g) (o:=0) (cs:=cur.toList.take ls'.length) (λj v hv=>by
      grind[cell_of_row]) P
     rw[cO]at Ik;have qJ:(isAgg t).run P w = .ok Â w:=by simp[isAgg,run_underlying Wr]
     simp only[Instr.loadAt,Z,Instr.sureAddr,Ã,I,loadVar,qJ,if_true,jM hT ht,Ik]
    .simp at h
   .simp at h
  .simp at h
 .simp at h
def Slot.bare:Slot->Ö
 |.cnd _ _ _=>J
 |_=>Â
theorem juy{fr:Ö}{e:H}{b:Ty}{n len:H}{ps:F (H×Cel)}{f:H}{args:F Arg}{mk:Ret->À (Slot×Ups)}:one1 fr e b n len ps≠D (.call f args mk):=by
 unfold one1;grind
theorem XC(cs:F Cel):(DS cs).bare=true:=by
 unfold DS;split<;>rfl
theorem XE(hR:Rel N np S0 w0 refs σ a w S γ){act:F (H×Ö)}(bk:sJ (tm a) act)(ps:F (H×þ)) :
  All2 (λp v=>p.1=v.1/\bS S w γ σ.bx p.2 v.2) (ps.map λp=>(p.1,(σ.ev p.2).cel act)) (ps.map λp=>(p.1,a.eval p.2)):=by
 induction ps with
 |nil=>trivial
 |cons p ps ih=>exact⟨⟨rfl,eN hR bk p.2⟩,ih⟩
theorem Il(hR:Rel N np S0 w0 refs σ a w S γ){act:F (H×Ö)}(bk:sJ (tm a) act)(ps:F þ) :
  All2 (bS S w γ σ.bx) (ps.map λp=>(σ.ev p).cel act) (ps.map a.eval):=by
 induction ps with
 |nil=>trivial
 |cons p ps ih=>exact⟨eN hR bk p,ih⟩
theorem Af{rd:H->BS}(ba:RdOk σ rd):RdF np σ (λk=>if parK np k then .gone else rd k):=by
 refine⟨λk=>?_,λk e a xs f h=>?_⟩
 rotate_left
 .dsimp only at h
  split at h
  .simp at h
  .exact ba.2 k e a xs f h
 dsimp only
 split
 .exact .inr rfl
 .rename_i hp;rcases ba.1 k with h|h;all_goals simp_all
theorem xS{P:Y}{o:Oper}{l:Leaf}{v:G}(hR:Rel N np S0 w0 refs σ a w S γ)(hr:(execOp a.eval o).run P w = .ok (.value v) w)
  (hs:bF S w γ σ.bx l v)(h1:One v):L7 P N np S0 w0 refs o σ a w S γ (.one (.one l)) []:=
 mw hR hr ⟨hs,λ_=>h1⟩
theorem Ag{c:Cel}{l:Leaf}(h:lf c=l)(hd:l ≠ .dead):c = .one l:=by
 cases c<;>grind[lf]
theorem MX{P:Y}{E:Env}(hT:cP P E.T)(hR:Rel N E.np S0 w0 refs σ a w S γ){act:F (H×Ö)}(bk:sJ (tm a) act){rw:H->BS}(kQ:RdR σ rw)
  {o:Oper}{s:Slot}{u:Ups}(h:eM E σ.ev rw act o=D (.val Â s u)):L7 P N E.np S0 w0 refs o σ a w S γ s u/\s.bare=true:=by
 have ba:RdOk σ (mskM rw):=kQ.msk;have bu:=Af (np:=E.np) ba;have hex:∀op,o.op=op->execOp a.eval o=execOp a.eval { o with op:=op }:=λop h=>by subst h;rfl
 unfold eM at h;dsimp only at h;split at h
 ·-- move
  rename_i x cg;split at h
  .rename_i l hl;simp only[j5,Act.val.injEq]at h;obtain⟨_,rfl,rfl⟩:=h;have:=nD hR x;rw[hl]at this;exact⟨mw hR (v:=a.eval x) (by simp[execOp,cg]) this,rfl⟩
  .simp only[j5,Act.cel,Act.val.injEq]at h;obtain⟨_,rfl,rfl⟩:=h;exact⟨mw hR (v:=a.eval x) (by simp[execOp,cg]) (eN hR bk x),rfl⟩
 ·-- assign
  rename_i x cg;split at h
  .rename_i l hl;simp only[j5,Act.val.injEq]at h;obtain⟨_,rfl,rfl⟩:=h;have:=nD hR x;rw[hl]at this;exact⟨mw hR (v:=a.eval x) (by simp[execOp,cg]) this,rfl⟩
  .simp only[j5,Act.cel,Act.val.injEq]at h;obtain⟨_,rfl,rfl⟩:=h;exact⟨mw hR (v:=a.eval x) (by simp[execOp,cg]) (eN hR bk x),rfl⟩
 ·-- pick
  rename_i x y z cg;split at h
  .rename_i v hv;have hx:=eN hR bk x;have MY:a.eval x = .bool v:=by have:=Ag hv ae;grind[uz]
   have aU:(execOp a.eval o).run P w = .ok (.value (if v then a.eval y else a.eval z)) w:=by simp[execOp,cg,MY,asBool]
   have hy:v=Â->bS S w γ σ.bx ((σ.ev y).cel (HN x Â act)) (a.eval y):=by
    intro wc;refine L8 ?_ (nD hR y);cases x with
    |tmp t=>
     intro g hg;rcases jb.1 hg with rfl|hg
     .simp only;rw[<-wc];exact MY
     .exact bk g hg
    |_=>exact bk
   have hz:v=J->bS S w γ σ.bx ((σ.ev z).cel (HN x J act)) (a.eval z):=by
    intro wc;refine L8 ?_ (nD hR z);cases x with
    |tmp t=>
     intro g hg;rcases jb.1 hg with rfl|hg
     .simp only;rw[<-wc];exact MY
     .exact bk g hg
    |_=>exact bk
   split at h
   .rename_i t p t' q hp hq;split at h
    .rename_i q' kN;simp only[j5,Act.leaf,Act.val.injEq]at h;obtain⟨_,rfl,rfl⟩:=h;have:=oe kN;cases this;refine⟨mw hR aU ?_,rfl⟩;cases v with
     |true=>have:=hy rfl;rw[hp]at this;exact this
     |false=>have:=hz rfl;rw[hq]at this;exact this
    .simp at h
   .rename_i t p hp hq;simp only[j5,Act.val.injEq]at h;obtain⟨gP,rfl,rfl⟩:=h;have gP:v=true:=gP;subst gP;refine⟨mw hR aU ?_,rfl⟩;have:=hy rfl;rw[hp]at this;exact this
   .rename_i t q hp hq;simp only[j5,Act.val.injEq]at h;obtain⟨gP,rfl,rfl⟩:=h;have gP:v=false:=by simpa using gP
    subst gP;refine⟨mw hR aU ?_,rfl⟩;have:=hz rfl;rw[hq]at this;exact this
   .simp at h
  .simp at h
 ·-- alloc
  rename_i t cg;split at h
  .rename_i ti ht;split at h
   .rename_i bA;have hd:=ba.free bA;split at h
    .rename_i k el bJ;split at h
     .simp only[j5,Act.val.injEq]at h;obtain⟨_,rfl,rfl⟩:=h;obtain⟨z,iA,hz⟩:=Mr (w:=w) hT ht bJ;obtain⟨dy,hc⟩:=Mh hR hd (ls:=pI (.arr k el)) (cur:=z.cells) (e:=t) (by grind[xy]) (H7 iA);exact⟨⟨_,_,S,_,.inl (by simp[execOp,cg,hz]),dy,hc⟩,rfl⟩
     simp only[j5,Act.val.injEq]at h;obtain⟨_,rfl,rfl⟩:=h;obtain⟨z,iA,hz⟩:=Mr (w:=w) hT ht bJ;obtain⟨dy,hc⟩:=Ww hR hd (m:=k) (t:=el) (xs:=M k el.dflt) (cur:=z.cells) (e:=t) (by rw[iA];exact rP (.arr k el));exact⟨⟨_,_,S,_,.inl (by simp[execOp,cg,hz]),dy,hc⟩,rfl⟩
    .rename_i ty bD bJ;simp only[j5,Act.val.injEq]at h;obtain⟨_,rfl,rfl⟩:=h;obtain⟨z,iA,hz⟩:=Mr (w:=w) hT ht bJ;obtain⟨dy,hc⟩:=Mh hR hd (ls:=pI ty) (cur:=z.cells) (e:=t) (by grind[xy]) (H7 iA);exact⟨⟨_,_,S,_,.inl (by simp[execOp,cg,hz]),dy,hc⟩,rfl⟩
    .simp at h
   .simp at h
  .simp at h
 ·-- box
  rename_i t x cg;split at h
  .rename_i bA;have hd:=ba.free bA;have hx:=eN hR bk x;split at h
   .rename_i k el xs hc;simp only[j5,Act.val.injEq]at h;obtain⟨_,rfl,rfl⟩:=h;rw[hc]at hx;obtain⟨cs,hu,bR⟩:=hx;obtain⟨dy,gZ⟩:=Ww hR hd (m:=k) (t:=el) (xs:=xs) (cur:=(a.eval x).cells) (e:=t) (by rw[hu];exact bR);exact⟨⟨_,_,S,_,.inl (by simp[execOp,cg,WK]),dy,gZ⟩,rfl⟩
   .split at h
    .rename_i ls oL;simp only[j5,Act.val.injEq]at h;obtain⟨_,rfl,rfl⟩:=h;obtain⟨hl,h1⟩:=zL oL hx;obtain⟨dy,gZ⟩:=Mh hR hd (ls:=ls) (cur:=(a.eval x).cells) (e:=t) hl h1;exact⟨⟨_,_,S,_,.inl (by simp[execOp,cg,WK]),dy,gZ⟩,rfl⟩
    .simp at h
  .simp at h
 ·-- build
  rename_i t ps cg;have iv:=XE hR bk ps.toList;have tn:All2 (λp v=>p.1=v.1/\bS S w γ σ.bx p.2 v.2) (ps.toList.map λp=>(p.1,(σ.ev p.2).cel act)) (ps.map λp=>(p.1,a.eval p.2)).toList:=by simpa using iv
  split at h
  .rename_i ti ht;split at h
   .rename_i k el bJ;split at h
    .rename_i hem;simp only[j5,Act.cel,Act.val.injEq]at h;obtain⟨_,rfl,rfl⟩:=h;obtain⟨v,aU,hc⟩:=jzs (w:=w) (S:=S) (γ:=γ) (bx:=σ.bx) hT ht bJ
     have pT:ps = #[]:=by
      simp_all
     subst pT;exact⟨mw hR (v:=v) (by simp[execOp,cg,aU]) hc,rfl⟩
    split at h
    .rename_i xs u' hb;simp only[j5,Act.val.injEq]at h;obtain⟨_,rfl,rfl⟩:=h;obtain⟨v,S',aU,dy,hc⟩:=jzr hT hR bu ht bJ tn hb;exact⟨⟨v,w,S',γ,.inl (by simp[execOp,cg,aU]),dy,hc⟩,rfl⟩
    .simp at h
   .rename_i ty bD bJ;split at h
    .rename_i pM;split at h
     .rename_i ls hb;simp only[j5,Act.cel,Act.val.injEq]at h;obtain⟨_,rfl,rfl⟩:=h;obtain⟨v,aU,hc⟩:=jzl hT ht bJ pM tn hb;exact⟨mw hR (v:=v) (by simp[execOp,cg,aU]) hc,rfl⟩
     .simp at h
    .simp at h
   .simp at h
  .simp at h
 ·-- buildSlice
  rename_i t len ps cg;have iv:=XE hR bk ps.toList;have tn:All2 (λp v=>p.1=v.1/\bS S w γ σ.bx p.2 v.2) (ps.toList.map λp=>(p.1,(σ.ev p.2).cel act)) (ps.map λp=>(p.1,a.eval p.2)).toList:=by simpa using iv
  split at h
  .rename_i ti ht;split at h
   .rename_i el bJ;split at h
    .obtain⟨_,rfl,v',w',γ',aU,dy,hc⟩:=jDY hT hR ht bJ ba.free tn h;exact⟨⟨v',w',S,γ',.inl (by simp[execOp,cg,aU]),dy,hc⟩,rfl⟩
    split at h
    .simp at h
    .rename_i hlen;split at h
     .rename_i xs u' hb;split at h
      .rename_i bA;simp only[j5,Act.val.injEq]at h;obtain⟨_,rfl,rfl⟩:=h;obtain⟨v',w',S',γ',aU,dy,hc⟩:=jqP hT hR bu ht bJ aa tn hb (ba.free bA);exact⟨⟨v',w',S',γ',.inl (by simp[execOp,cg,aU]),dy,hc⟩,rfl⟩
      .simp at h
     .simp at h
   .simp at h
  .simp at h
 ·-- load
  rename_i t x cg;split at h
  .rename_i ti ht;split at h
   .rename_i m el ls xT;split at h
    .rename_i xs u' hg;split at h
     .rename_i hlen;simp only[j5,Act.val.injEq]at h;obtain⟨_,rfl,rfl⟩:=h;obtain⟨z,S',hz,dy,iU⟩:=jB6 hT hR ba bu ht xT hg hlen (iI (eN hR bk x));exact⟨⟨z,w,S',γ,.inl (by simp[execOp,cg,hz]),dy,iU⟩,rfl⟩
     .simp at h
    .simp at h
   unfold oCel at h;split at h
   .rename_i c hc;simp only[j5,Act.cel,Act.val.injEq]at h;obtain⟨_,rfl,rfl⟩:=h;obtain⟨z,hz,iU⟩:=Wq hT hR ba ht hc (iI (eN hR bk x));exact⟨mw hR (v:=z) (by simp[execOp,cg,hz]) iU,rfl⟩
   .simp at h
  .simp at h
 ·-- store
  rename_i t x y cg;split at h
  .rename_i ti ht;split at h
   .rename_i u' hu;simp only[j5,Act.val.injEq]at h;obtain⟨_,rfl,rfl⟩:=h;obtain⟨w',S',aU,dy⟩:=jzj hT hR ba bu ht hu (iI (eN hR bk x)) (eN hR bk y);exact⟨⟨undef,w',S',γ,.inr ⟨by simp[execOp,cg,aU],rfl⟩,dy,⟨trivial,λh=>absurd rfl h⟩⟩,rfl⟩
   .simp at h
  .simp at h
 ·-- nilCheck
  rename_i x cg;have hx:=eN hR bk x;split at h
  .rename_i k p hl;split at h
   .rename_i iM;simp only[j5,Act.leaf,Act.val.injEq]at h;obtain⟨_,rfl,rfl⟩:=h;rw[Ag hl ae]at hx;obtain⟨b,hb⟩:=Ef iM;obtain⟨g,_,hu⟩:=hx.1.2.2 b (ba.live hb);exact⟨mw hR (v:=a.eval x) (by simp[execOp,cg,hu]) hx,rfl⟩
   .simp at h
  .rename_i k i p hl;split at h
   .rename_i iM;simp only[j5,Act.leaf,Act.val.injEq]at h;obtain⟨_,rfl,rfl⟩:=h;rw[Ag hl ae]at hx;obtain⟨b,hb⟩:=Ef iM;have h3:=hx.1.2.2 b (ba.live hb);have hu:∃g o,a.eval x = .pointer (D ⟨g,o,O⟩):=by grind
    obtain⟨g,ofs,hu⟩:=hu;exact⟨mw hR (v:=a.eval x) (by simp[execOp,cg,hu]) hx,rfl⟩
   .simp at h
  .rename_i ls hl;simp only[j5,Act.leaf,Act.val.injEq]at h;obtain⟨_,rfl,rfl⟩:=h;rw[Ag hl ae]at hx;obtain⟨g,ofs,cs,hu,_⟩:=hx.1;exact⟨mw hR (v:=a.eval x) (by simp[execOp,cg,hu]) hx,rfl⟩
  .simp at h
 ·-- binOp
  rename_i op t x y rest cg;unfold oChk at h;split at h
  .rename_i b c hc;simp only[j5,Act.val.injEq]at h;obtain⟨rfl,rfl,rfl⟩:=h;obtain⟨z,hz,hl,h1⟩:=jDO (x:=x) (y:=y) hT hc (eN hR bk x) (eN hR bk y);refine⟨xS hR ?_ hl h1,rfl⟩;simp only[execOp,cg];rw[Z,hz];rfl
  .simp at h
 ·-- unOp
  rename_i op t x cg;unfold oA at h;split at h
  .rename_i c hc;simp only[j5,Act.leaf,Act.val.injEq]at h;obtain⟨_,rfl,rfl⟩:=h;obtain⟨z,hz,hl,h1⟩:=jGy hc (eN hR bk x);refine⟨xS hR ?_ hl h1,rfl⟩;simp only[execOp,cg];rw[Z,hz];rfl
  .simp at h
 ·-- convert
  rename_i src dst x cg;split at h
  .rename_i ts ti we ht;split at h
   .rename_i k v k0 k' hl M0 bJ;simp only[j5,Act.leaf,Act.val.injEq]at h;obtain⟨_,rfl,rfl⟩:=h;have hx:=eN hR bk x;rw[Ag hl ae]at hx;have hu:=vH hx;have jS:=L6 hT ht bJ;refine⟨xS hR (v:= .int k' (k'.wrap v)) ?_ rfl rfl,rfl⟩;have XF:=L6 hT we M0;simp only[execOp,cg]
    simp_all[convert,run_underlying,Conv.intToInt]
   .simp at h
  .simp at h
 ·-- makeFunc
  rename_i f first caps cg
  split at h
  .rename_i jU;split at h
   .split at h
    .rename_i ks hl;simp only[j5,Act.val.injEq]at h;obtain⟨_,rfl,rfl⟩:=h;have cW:=Il hR bk caps.toList;have nM:first = #[]:=by simpa using jU
     refine⟨⟨.func (.func f) #[] (caps.map a.eval),w,S,γ,.inl ?_,hR,⟨⟨_,rfl,by
      have:=WY hl cW;rw[<-Array.toList_map]at this;exact this⟩,λ_=>rfl⟩⟩,rfl⟩
     simp[execOp,cg,nM,Instr.makeFunc]
    .simp at h
   split at h
   .rename_i l u' hl;simp only[j5,Act.val.injEq]at h;obtain⟨_,rfl,rfl⟩:=h;have cW:=Il hR bk caps.toList;obtain⟨S',dy,_,dt,_⟩:=WX bu hl hR cW;have nM:first = #[]:=by simpa using jU
    refine⟨⟨.func (.func f) #[] (caps.map a.eval),w,S',γ,.inl ?_,dy,⟨⟨_,rfl,by simpa using dt⟩,λ_=>rfl⟩⟩,rfl⟩;simp[execOp,cg,nM,Instr.makeFunc]
   .simp at h
  .simp at h
 ·-- fieldAddr
  rename_i t x i cg;split at h
  .rename_i ti ht;unfold oA at h;split at h
   .rename_i c hc;simp only[j5,Act.leaf,Act.val.injEq]at h;obtain⟨_,rfl,rfl⟩:=h;obtain⟨z,hz,hl,h1⟩:=jzg hT ba ht hc (iI (eN hR bk x));exact⟨xS hR (by simp[execOp,cg,hz]) hl h1,rfl⟩
   .simp at h
  .simp at h
 ·-- field
  rename_i t x i cg;split at h
  .rename_i ti ht;split at h
   .rename_i ls f hc hf;split at h
    .rename_i tf xq;unfold oCel at h;split at h
     .rename_i c bT;simp only[j5,Act.cel,Act.val.injEq]at h;obtain⟨_,rfl,rfl⟩:=h;have hx:=eN hR bk x;rw[hc]at hx;obtain⟨cs,hu,aD,h1⟩:=hx;obtain⟨fs,jS,fl,fE,me,EX,tf',htf',bZ⟩:=Wc hT ht hf;rw[<-EX]at xq;have jT:=(aD.drop fl.offset).take tf.size;have og:∀u∈(cs.toList.drop fl.offset).take tf.size,One u:=λu fF=>h1 u (zg (ql fF));rw[<-me]at bT
      have sL:∃z,(part fl.type cs fl.offset).run P w = .ok z w/\bS S w γ σ.bx c z:=by
       unfold uy at bT;split at bT
       .rename_i qJ;split at bT
        .rename_i hlen;simp only[j5]at bT;subst bT;refine⟨.agg (cs.extract fl.offset (fl.offset+tf.size)),?_,_,rfl,?_,?_⟩
         .grind[part,Z,B6,I,jM,Ã]
         all_goals simp_all
        .simp at bT
       .rename_i qJ;split at bT
        .rename_i l' lu;simp only[j5]at bT;subst bT;rw[lu]at jT;cases hq:(cs.toList.drop fl.offset).take tf.size with
         |nil=>rw[hq]at jT;exact jT.elim
         |cons z zs=>
          rw[hq]at jT og
          have hz:cs[fl.offset]? = D z:=by
           have:((cs.toList.drop fl.offset).take tf.size)[0]? = D z:=by rw[hq];rfl
           grind
          refine⟨z,?_,jT.1,λ_=>og z ae⟩;grind[part,Z,B6,I,Ã]
        .simp at bT
      obtain⟨z,hz,iU⟩:=sL;refine⟨mw hR (v:=z) ?_ iU,rfl⟩
      simp_all[execOp,Instr.field,run_underlying,asAgg]
     .simp at h
    .simp at h
   .simp at h
  .simp at h
 ·-- indexAddr
  rename_i t x i cg;split at h
  .rename_i ti ht;unfold oChk at h;split at h
   .rename_i b c hc;simp only[j5,Act.val.injEq]at h;obtain⟨rfl,rfl,rfl⟩:=h;obtain⟨z,hz,hl,h1⟩:=jzh hT hR ba ht hc (iI (eN hR bk x)) (iI (eN hR bk i));exact⟨xS hR (by simp[execOp,cg,hz]) hl h1,rfl⟩
   .simp at h
  .simp at h
 ·-- index
  rename_i t x i cg;split at h
  .rename_i ti ht;split at h
   .rename_i b c hc;simp only[j5,Act.val.injEq]at h;obtain⟨rfl,rfl,rfl⟩:=h;obtain⟨z,hz,iU⟩:=jDR hT ht hc (eN hR bk x) (iI (eN hR bk i));exact⟨mw hR (v:=z) (by simp[execOp,cg,hz]) iU,rfl⟩
   .simp at h
  .simp at h
 ·-- makeMap
  rename_i t cg;split at h
  .rename_i k v ht;split at h
   .rename_i gY;simp only[j5,Act.val.injEq]at h;obtain⟨_,rfl,rfl⟩:=h;obtain⟨γ',aU,dy,gZ⟩:=jzq (P:=P) (t:=t) (k:=k) (v:=v) hR (ba.free gY);exact⟨⟨_,_,S,γ',.inl (by simp[execOp,cg,aU]),dy,gZ⟩,rfl⟩
   .simp at h
  .simp at h
 ·-- lookup
  rename_i t x i ok cg;split at h
  .rename_i k v ht;split at h
   .rename_i b ys q hm;obtain⟨z,hz,aU⟩:=jwn hT hR kQ ht hm (iI (eN hR bk x)) (iI (eN hR bk i));split at h
    .simp only[j5,Act.val.injEq]at h;obtain⟨_,rfl,rfl⟩:=h;have hr:=aU Â;simp only[if_true]at hr;refine⟨mw hR (v:= .tuple #[z,.bool (@mZ _ _ k.keq ys q)]) (by simp[execOp,cg,hr]) ?_,rfl⟩;exact⟨_,rfl,Co hz,⟨rfl,λ_=>rfl⟩,trivial⟩
    .simp only[j5,Act.cel,Act.val.injEq]at h;obtain⟨_,rfl,rfl⟩:=h;have hr:=aU J;simp only[kr,zv]at hr;exact⟨mw hR (v:=z) (by simp[execOp,cg,hr]) (Co hz),rfl⟩
   .simp at h
  .simp at h
 ·-- mapUpdate
  rename_i t x i y cg;split at h
  .rename_i k v ht;split at h
   .rename_i b ys q z u' hm hd;simp only[j5,Act.val.injEq]at h;obtain⟨_,rfl,rfl⟩:=h;obtain⟨w',S',aU,dy⟩:=jzp hT hR kQ ht hm (iI (eN hR bk x)) (iI (eN hR bk i)) bu hd (eN hR bk y);exact⟨⟨undef,w',S',γ,.inr ⟨by simp[execOp,cg,aU],rfl⟩,dy,⟨trivial,λh=>absurd rfl h⟩⟩,rfl⟩
   .simp at h
  .simp at h
 ·-- extract
  rename_i x i cg;split at h
  .rename_i l hl;split at h
   .rename_i c hc;simp only[j5,Act.cel,Act.val.injEq]at h;obtain⟨_,rfl,rfl⟩:=h;have hx:=nD hR x;rw[hl]at hx;obtain⟨vs,hu,aD⟩:=hx;obtain⟨z,hz,iU⟩:=aD.get i c hc;refine⟨mw hR (v:=z) ?_ iU,rfl⟩
    simp_all[execOp,Instr.extract]
   .simp at h
  .simp at h
 ·-- call
  rename_i cl cg;have cW:=Il hR bk cl.args.toList;split at h
  ·-- len
   rename_i cI;split at h
   .rename_i x t iB we;split at h
    .rename_i ti ht;unfold oA at h;split at h
     .rename_i c hc;simp only[j5,Act.leaf,Act.val.injEq]at h;obtain⟨_,rfl,rfl⟩:=h;obtain⟨z,hz,hl,h1⟩:=jDS (ty:=o.type) hT hR ba ht hc (iI (eN hR bk x));have e1:cl.args = #[x]:=by grind
      have e2:cl.argTypes = #[t]:=by grind
      refine⟨xS hR (v:=z) ?_ hl h1,rfl⟩;simp[execOp,cg,resolve,cI,invoke,builtin,e1,e2,hz]
     .simp at h
    .simp at h
   .simp at h
  ·-- min
   rename_i cI;unfold oA at h;split at h
   .rename_i c hc;simp only[j5,Act.leaf,Act.val.injEq]at h;obtain⟨_,rfl,rfl⟩:=h;obtain⟨z,hz,hl,h1⟩:=jGz (P:=P) (ts:=cl.argTypes) (ty:=o.type) hc cW;refine⟨xS hR (v:=z) ?_ hl h1,rfl⟩;have e1:cl.args.map a.eval=(cl.args.toList.map a.eval).toArray:=by apply à;simp
    simp[execOp,cg,resolve,cI,invoke,builtin,e1,hz]
   .simp at h
  ·-- max
   rename_i cI;unfold oA at h;split at h
   .rename_i c hc;simp only[j5,Act.leaf,Act.val.injEq]at h;obtain⟨_,rfl,rfl⟩:=h;obtain⟨z,hz,hl,h1⟩:=jGA (P:=P) (ts:=cl.argTypes) (ty:=o.type) hc cW;refine⟨xS hR (v:=z) ?_ hl h1,rfl⟩;have e1:cl.args.map a.eval=(cl.args.toList.map a.eval).toArray:=by apply à;simp
    simp[execOp,cg,resolve,cI,invoke,builtin,e1,hz]
   .simp at h
  ·-- append
   rename_i cI;split at h
   .rename_i t t' s' x we iB;split at h
    .rename_i tp;subst tp;split at h
     .rename_i ti ht;split at h
      .rename_i el bJ;split at h
       .rename_i b' v' u' hh;simp only[j5,Act.val.injEq]at h;obtain⟨rfl,rfl,rfl⟩:=h;obtain⟨z,w',aU,dy,hl,h1⟩:=jDU (ty:=o.type) hT hR ba ht bJ hh (iI (eN hR bk s')) (iI (eN hR bk x));have e1:cl.args = #[s',x]:=by grind
        have e2:cl.argTypes = #[t,t]:=by grind
        refine⟨⟨z,w',S,γ,.inl ?_,dy,hl,λ_=>h1⟩,rfl⟩;simp[execOp,cg,resolve,cI,invoke,builtin,e1,e2,aU]
       split at h
       .rename_i v' u' hh;simp only[j5,Act.val.injEq]at h;obtain⟨_,rfl,rfl⟩:=h;obtain⟨z,w',γ',aU,dy,hl,h1⟩:=jDW (ty:=o.type) hT hR ba bu ht bJ hh (iI (eN hR bk s')) (iI (eN hR bk x));have e1:cl.args = #[s',x]:=by grind
        have e2:cl.argTypes = #[t,t]:=by grind
        refine⟨⟨z,w',S,γ',.inl ?_,dy,hl,λ_=>h1⟩,rfl⟩;simp[execOp,cg,resolve,cI,invoke,builtin,e1,e2,aU]
       split at h
       .rename_i xs frz u' ys hs hx;split at h
        .rename_i bA;simp only[j5,Act.val.injEq,jl]at h;obtain⟨fg,rfl,rfl⟩:=h;obtain⟨v',w',S',γ',aU,dy,gZ⟩:=jzk (ty:=o.type) hT hR ba bu ht bJ hs hx (ba.free bA) fg (iI (eN hR bk s')) (iI (eN hR bk x));have e1:cl.args = #[s',x]:=by grind
         have e2:cl.argTypes = #[t,t]:=by grind
         refine⟨⟨v',w',S',γ',.inl ?_,dy,gZ⟩,rfl⟩;simp[execOp,cg,resolve,cI,invoke,builtin,e1,e2,aU]
        .simp at h
       .simp at h
      .simp at h
     .simp at h
    .simp at h
   .simp at h
  ·-- value
   grind
  ·-- copy
   rename_i cI;split at h
   .rename_i t t' x y we iB;split at h
    .rename_i tp;subst tp;split at h
     .rename_i ti ht;split at h
      .rename_i c u' hc;simp only[j5,Act.val.injEq]at h;obtain⟨_,rfl,rfl⟩:=h;obtain⟨v',w',aU,dy,gZ⟩:=jAR (ty:=o.type) hT hR ba ht hc (iI (eN hR bk x)) (iI (eN hR bk y));have e1:cl.args = #[x,y]:=by grind
       have e2:cl.argTypes = #[t,t]:=by grind
       refine⟨⟨v',w',S,γ,.inl ?_,dy,gZ⟩,rfl⟩;simp[execOp,cg,resolve,cI,invoke,builtin,e1,e2,aU]
      .simp at h
     .simp at h
    .simp at h
   .simp at h
  ·-- clear
   rename_i cI;split at h
   .rename_i t x we iB;split at h
    .rename_i ti ht;split at h
     .rename_i u' hc;simp only[j5,Act.val.injEq]at h;obtain⟨_,rfl,rfl⟩:=h;obtain⟨v',w',aU,dy⟩:=jzo (ty:=o.type) hT hR ba ht hc (iI (eN hR bk x));have e1:cl.args = #[x]:=by grind
      have e2:cl.argTypes = #[t]:=by grind
      refine⟨⟨v',w',S,γ,.inl ?_,dy,⟨trivial,λh=>absurd rfl h⟩⟩,rfl⟩;simp[execOp,cg,resolve,cI,invoke,builtin,e1,e2,aU]
     .simp at h
    .simp at h
   .simp at h
  .simp at h
 ·-- slice
  rename_i t x lo hi cg;split at h
  .rename_i ti ht;split at h
   .rename_i b c u' hc;simp only[j5,Act.val.injEq]at h;obtain⟨rfl,rfl,rfl⟩:=h
    have ho:∀y:À þ,ORep (bF S w γ σ.bx) (y.map λx=>lf ((σ.ev x).cel act)) (y.map a.eval):=by
     intro y;cases y with
     |none=>trivial
     |some y=>exact iI (eN hR bk y)
    obtain⟨v',S',γ',aU,dy,gZ⟩:=jzm hT hR ba ht (λk hk=>ba.free hk) hc (iI (eN hR bk x)) (ho lo) (ho hi);refine⟨⟨v',w,S',γ',.inl ?_,dy,gZ⟩,rfl⟩;simp[execOp,cg,aU]
   .simp at h
  .simp at h
 ·-- slice with a capacity
  rename_i t x lo hi mx cg;split at h
  .rename_i ti ht;split at h
   .rename_i b hc;simp only[j5,Act.val.injEq]at h;obtain⟨rfl,rfl,rfl⟩:=h
    have ho:∀y:À þ,ORep (bF S w γ σ.bx) (y.map λx=>lf ((σ.ev x).cel act)) (y.map a.eval):=by
     intro y;cases y with
     |none=>trivial
     |some y=>exact iI (eN hR bk y)
    obtain⟨v',aU⟩:=jzn hT hR ba ht hc (iI (eN hR bk x)) (ho lo) (ho hi) (iI (eN hR bk mx));refine⟨⟨v',w,S,γ,.inl ?_,hR,⟨trivial,λh=>absurd rfl h⟩⟩,rfl⟩;simp[execOp,cg,aU]
   .simp at h
  .simp at h
 .simp at h
theorem XG{P:Y}{E:Env}(hR:Rel N E.np S0 w0 refs σ a w S γ){act:F (H×Ö)}(bk:sJ (tm a) act){rw:H->BS}(kQ:RdR σ rw)
  {o:Oper}{f:H}{args:F Arg}{mk:Ret->À (Slot×Ups)}(h:eM E σ.ev rw act o=D (.call f args mk))(hf:Fun P f){K:Ret->Prop}(eb:Ie P f args K) :
  ∃vals,(execOp a.eval o).run P w = .ok (.enter f vals) w/\
   (Calls P f vals w λe w'=>∃ret,K ret/\∀s u,mk ret=D (s,u)->∃v S' γ',e = .returned v/\Rel N E.np S0 w0 refs (σ.upd u) a w' S' γ'/\jD S' w' γ' (σ.upd u).bx (tm a) s v)/\
   ∀ret s u,mk ret=D (s,u)->s.bare=true:=by
 have ba:RdOk σ (mskM rw):=kQ.msk;have bu:=Af (np:=E.np) ba;unfold eM at h;dsimp only at h;split at h
 case h_23 cl cg=>
  have cW:=Il hR bk cl.args.toList;split at h
  case h_5 x cI=>
   split at h
   .rename_i g caps hl;split at h
    .rename_i as us fs has;split at h
     .rename_i ca;simp only[j5,Act.call.injEq]at h;obtain⟨rfl,rfl,rfl⟩:=h;have hx:=eN hR bk x;rw[Ag hl ae]at hx;obtain⟨cv,hu,mG⟩:=hx.1;refine⟨_,EP hf cg cI hu,?_,?_⟩
      .have:=Xq hR kQ ba bu has cW ca mG eb ((o.dst.getD 0)*64+E.off);have e1:(cl.args.toList.map a.eval++cv.toList).toArray=cl.args.map a.eval++cv:=by apply à;simp
       rwa[e1]at this
      .intro ret s u bT;unfold u9 at bT;split at bT
       .unfold mkHd at bT;split at bT
        .split at bT
         .split at bT
          .simp only[j5,j9]at bT;rw[<-bT.1];rfl
          .simp at bT
         .simp at bT
        .simp at bT
       .grind[DT,XC]
       split at bT
       .split at bT
        .split at bT
         .revert bT;dsimp only;split<;>(intro bT;simp only[j5,j9]at bT;rw[<-bT.1];rfl)
         .simp at bT
        .simp at bT
       .simp at bT
     .simp at h
    .simp at h
   .rename_i g ks hl;split at h
    .rename_i as us fs has;split at h
     .rename_i ca;simp only[j5,Act.call.injEq]at h;obtain⟨rfl,rfl,rfl⟩:=h;have hx:=eN hR bk x;rw[Ag hl ae]at hx;obtain⟨cv,hu,mG⟩:=hx.1;refine⟨_,EP hf cg cI hu,?_,?_⟩
      .have:=Xq hR kQ ba bu has (cW.append (WZ mG)) ca (caps:=[]) (cv:=[]) trivial (by simpa using eb) ((o.dst.getD 0)*64+E.off);have e1:((cl.args.toList.map a.eval++cv.toList)++[]).toArray=cl.args.map a.eval++cv:=by apply à;simp
       rwa[e1]at this
      .intro ret s u bT;unfold u9 at bT;split at bT
       .unfold mkHd at bT;split at bT
        .split at bT
         .split at bT
          .simp only[j5,j9]at bT;rw[<-bT.1];rfl
          .simp at bT
         .simp at bT
        .simp at bT
       .grind[DT,XC]
       split at bT
       .split at bT
        .split at bT
         .revert bT;dsimp only;split<;>(intro bT;simp only[j5,j9]at bT;rw[<-bT.1];rfl)
         .simp at bT
        .simp at bT
       .simp at bT
     .simp at h
    .simp at h
   .simp at h
  all_goals (first|(simp at h;done)|skip)
  all_goals (exfalso;revert h;try simp only[oA])
  all_goals (repeat' split)
  all_goals simp[Act.leaf]
 all_goals (first|(simp at h;done)|skip)
 all_goals (repeat' (first|(simp at h;done)|(exact absurd h juy)|split at h))<;>simp_all[oA,oCel,oChk,Act.leaf,Act.cel]
 all_goals grind
end
end Go.Lft
