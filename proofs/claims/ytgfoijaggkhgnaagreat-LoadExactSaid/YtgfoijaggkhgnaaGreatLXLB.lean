/- New variables; Mx into variables. -/
import Derived.Test.YtgfoijaggkhgnaaGreatLXLA
import Derived.MapKept
open _root_ renaming List->D,Nat->H,Option->Á,Array->É,Bool->Ù
open Go renaming Value->F,Program->À,World->Â,TypeId->Æ,Act->Ø,Operand->ø,MapEntry->û
open Option renaming some->G,none->Z,isNone_iff_eq_none->ã
open Go.Result renaming andThen_ok->I,andThen->Ü
open Go.Sem renaming run_bind->J,run_pure->Ã
open List renaming replicate->M,take->U,take_of_length_le->W,drop->Ê,length->Ì,take_append->Ð,take_left'->Õ,set_cons_zero->Þ,getElem?_drop->ß,getElem?_append_left->á,all_cons->å,getElem_cons_drop->è,any_append->é,mem_map_of_mem->ð,range_succ->ù,drop_left'->ú,drop_take->ü,drop_drop->ý,take_left->ÿ
open Bool renaming false->O,true->Ä
open Go.Value.slice renaming injEq->Y
open Go.Addr renaming add_lit->Å
open Nat renaming add_mul->Ç,min_eq_left->È,add_zero->ò
open Go.MapKept renaming run_getObj_map->Ë,run_findKey->Í,bytes_beq->æ,run_setObj_map->ê,run_checkKey->í
open Go.Builtin renaming append_->Î,firstCells->Ï,clear_->Ý,copy_->ä,lenOf->ï
open Array renaming range->Ñ,getElem?_modify->ë,toList_push->õ
open Go.Instr renaming build->Ò,findNow->Ó,mapUpdate->Ö,fill->Ú,sliceAt->â,buildSlice->ç,sameBits->ì,storeAt->î,sameNow->ñ,lookup->ó,sureAddr->þ
open Go.World renaming cell?_of_block->Ô,alloc_eq->Û,ownsRow_nil->à
set_option linter.unusedVariables false
namespace Go.Lft
section
variable{N:NT}{np:H}{S0:aU}{w0:Â}{refs:Refs}{σ:St}{a:Ø}{w:Â}{S:aU}{γ:H->F}
def gset(γ:H->F)(n:H)(v:F):H->Value:=λk=>if k=n then v else γ k
theorem iD(γ:H->F)(n:H)(v:F):gset γ n v n=v:=by simp[gset]
theorem iV(γ:H->F){n k:H}(v:F)(h:k≠n):gset γ n v k=γ k:=by simp[gset,h]
theorem Cb(hR:Rel N np S0 w0 refs σ a w S γ)(o:Obj):ee S w S (w.alloc o):=
 λg i h=>⟨h,World.cell?_alloc_lt w o ⟨g,i,Z⟩ (hR.here g i h)⟩
theorem mJ{bx:H->BS}{k:H}{b:Bx}(h:fM S w γ bx k b){g:H}(hg:blk (γ k)=G g):g<w.heap.size:=by
 cases b with
 |cell ls frz=>obtain⟨g',cur,e,h1,h2,_⟩:=h;rw[h1]at hg;simp[blk]at hg;subst hg;exact(ji.1 h2).1
 |lst e t xs frz=>exact h.1.lt hg
 |arr n t xs=>obtain⟨g',cur,e,h1,h2,_⟩:=h;rw[h1]at hg;simp[blk]at hg;subst hg;exact(ji.1 h2).1
theorem My(hR:Rel N np S0 w0 refs σ a w S γ){n:H}(hn:σ.bx n = .free){o:Obj}{b:Bx}{v:F}(hv:∀g,blk v=G g->g=w.heap.size)
  (hb:BxLe γ σ.bx (gset γ n v) (σ.setB n (.live b)).bx->fM S (w.alloc o) (gset γ n v) (σ.setB n (.live b)).bx n b) :
  Rel N np S0 w0 refs (σ.setB n (.live b)) a (w.alloc o) S (gset γ n v)/\BxLe γ σ.bx (gset γ n v) (σ.setB n (.live b)).bx:=by
 have hle:BxLe γ σ.bx (gset γ n v) (σ.setB n (.live b)).bx:=by
  intro k hk;have bA:k≠n:=by rintro rfl;exact hk hn
  rw[dO σ _ bA,iV γ v bA];exact⟨hk,rfl,λb hb=>⟨b,hb,.refl b⟩⟩
 have aQ:=Cb hR o
 refine⟨Rel.step (bx':=(σ.setB n (.live b)).bx) hR aQ hle ?_ ?_ ?_ hR.new ?_ ?_ ?_ hR.os hR.tape hR.output (λg hg _ h=>⟨heap_alloc_old w o hg,λk b' aW dY=>by
  by_cases hk:k=n
  .subst hk;rw[iD]at dY;have:=hv g dY;omega
  .rw[dO σ _ hk]at aW;rw[iV γ v hk]at dY;exact h k b' aW dY⟩),hle⟩
 .intro k b' aW;by_cases hk:k=n
  .subst hk;rw[ix]at aW;simp at aW;subst aW;exact hb hle
  .rw[dO σ _ hk]at aW;refine fM.keep aQ hle (iV γ v hk) (λg hg=>⟨?_,λ_=>Iff.rfl⟩) (hR.box k b' aW);exact heap_alloc_old w o (mJ (hR.box k b' aW) hg)
 .intro k b' g aW hg;by_cases hk:k=n
  .subst hk;rw[iD]at hg;exact .inl (.inl (by rw[hv g hg];exact hR.grow))
  .rw[dO σ _ hk]at aW;rw[iV γ v hk]at hg;exact hR.own k b' g aW hg
 .intro k k' b1 b2 g bA h1 h2 hg az;by_cases hk:k=n
  .subst hk;have bQ:k'≠k:=λh=>bA h.symm;rw[iD]at hg;rw[dO σ _ bQ]at h2;rw[iV γ v bQ]at az;have:=mJ (hR.box k' b2 h2) az;rw[hv g hg]at this;omega
  .by_cases bQ:k'=n
   .subst bQ;rw[iD]at az;rw[dO σ _ hk]at h1;rw[iV γ v hk]at hg;have:=mJ (hR.box k b1 h1) hg;rw[hv g az]at this;omega
   .rw[dO σ _ hk]at h1;rw[dO σ _ bQ]at h2;rw[iV γ v hk]at hg;rw[iV γ v bQ]at az;exact hR.apart k k' b1 b2 g bA h1 h2 hg az
 .intro g i h;have:=hR.here g i h;simp;omega
 .intro g hg hr;rw[heap_alloc_old w o (by have:=hR.grow;omega)];exact hR.below g hg hr
 .have:=hR.grow;simp;omega
theorem It(hR:Rel N np S0 w0 refs σ a w S γ)(o:H):¬S w.heap.size o:=λh=>by have:=hR.here _ _ h;omega
theorem Mz(hR:Rel N np S0 w0 refs σ a w S γ){n:H}(hn:σ.bx n = .free){ls:D Leaf}{cur:É F}{e:Æ}
  (hl:All2 (cA S w γ σ.bx) ls cur.toList)(h1:∀u∈cur.toList,One u) :
  Rel N np S0 w0 refs (σ.setB n (.live (.cell ls O))) a (w.alloc (.cells cur e)) S (gset γ n (.pointer (G ⟨w.heap.size,0,Z⟩)))/\
   cF S (w.alloc (.cells cur e)) (gset γ n (.pointer (G ⟨w.heap.size,0,Z⟩))) (σ.setB n (.live (.cell ls O))).bx (.one (.bp n 0)) (.pointer (G ⟨w.heap.size,0,Z⟩)):=by
 obtain⟨h,hle⟩:=My hR hn (o:= .cells cur e) (b:= .cell ls O) (v:= .pointer (G ⟨w.heap.size,0,Z⟩)) (λg hg=>by simp[blk]at hg;exact hg.symm) (λhle=>
  ⟨w.heap.size,cur,e,iD _ _ _,heap_alloc_new w _,by rw[W (Nat.le_of_eq hl.length.symm)];exact hl.mono (λx u hx=>cA.keep (Cb hR _) hle hx),λu hu=>h1 u (qb hu),λ_ o=>It hR o,ae⟩)
 refine⟨h,⟨by rw[ix];simp,rfl,λb _=>⟨w.heap.size,iD _ _ _,rfl⟩⟩,λ_=>rfl⟩
theorem Vp(hR:Rel N np S0 w0 refs σ a w S γ){n m:H}(hn:σ.bx n = .free){t:Ty}{xs:D t.den}{cur:É F}{e:Æ}
  (hl:Rep S w (.arr m t) xs cur.toList) :
  Rel N np S0 w0 refs (σ.setB n (.live (.arr m t xs))) a (w.alloc (.cells cur e)) S (gset γ n (.pointer (G ⟨w.heap.size,0,Z⟩)))/\
   cF S (w.alloc (.cells cur e)) (gset γ n (.pointer (G ⟨w.heap.size,0,Z⟩))) (σ.setB n (.live (.arr m t xs))).bx (.one (.bp n 0)) (.pointer (G ⟨w.heap.size,0,Z⟩)):=by
 obtain⟨h,hle⟩:=My hR hn (o:= .cells cur e) (b:= .arr m t xs) (v:= .pointer (G ⟨w.heap.size,0,Z⟩)) (λg hg=>by simp[blk]at hg;exact hg.symm) (λ_=>
  ⟨w.heap.size,cur,e,iD _ _ _,heap_alloc_new w _,Rep.keep (Cb hR _) _ _ _ hl,λo=>It hR o⟩)
 refine⟨h,⟨by rw[ix];simp,rfl,λb _=>⟨w.heap.size,iD _ _ _,rfl⟩⟩,λ_=>rfl⟩
theorem w7{bx:H->BS}:∀(t:Ty),All2 (cA S w γ bx) (pB t) (lD t)
 |.int _=>⟨rfl,trivial⟩
 |.bool=>⟨rfl,trivial⟩
 |.str=>⟨rfl,trivial⟩
 |.unit=>trivial
 |.wrap a=>w7 a
 |.pair a b=>(w7 a).append (w7 b)
 |.list _=>⟨rfl,trivial⟩
 |.arr n a=>by
  show All2 _ ((List.range n).flatMap λ_=>pB a) ((M n (lD a)).flatten);induction n with
  |zero=>simp[All2]
  |succ n ih=>rw[ù,List.flatMap_append,List.replicate_succ',yq];refine ih.append ?_;simpa using w7 a
theorem rJ:∀(t:Ty),Rep S w t t.dflt (lD t)
 |.int _=>rfl
 |.bool=>rfl
 |.str=>rfl
 |.unit=>rfl
 |.wrap a=>rJ a
 |.pair a b=>⟨_,_,rfl,rJ a,rJ b⟩
 |.list _=>⟨Z,0,rfl,jv _,by simp[maxLen],λ_=>rfl,λb hb=>by simp at hb⟩
 |.arr n a=>by
  refine⟨List.length_replicate,M n (lD a),?_,rfl⟩;have hz:=rJ a
  have:∀n,All2 (λx c=>Rep S w a x c) (M n a.dflt) (M n (lD a)):=by
   intro n;induction n with
   |zero=>exact trivial
   |succ n ih=>exact⟨hz,ih⟩
  exact this n
theorem DR(hR:Rel N np S0 w0 refs σ a w S γ){k:H}{b b':Bx}(hk:σ.bx k = .live b){g:H}(hg:blk (γ k)=G g)(hS:∀o,¬S g o)(pF:lx b b')
  {old new:É F}{e:Æ}(hh:w.heap[g]? = G (.cells old e (0,0)))
  (hb:BxLe γ σ.bx γ (σ.setB k (.live b')).bx->ee S w S (w.setRow g new)->fM S (w.setRow g new) γ (σ.setB k (.live b')).bx k b') :
  Rel N np S0 w0 refs (σ.setB k (.live b')) a (w.setRow g new) S γ:=by
 have hle:BxLe γ σ.bx γ (σ.setB k (.live b')).bx:=by
  intro k' bQ;by_cases cH:k'=k
  .subst cH;rw[ix];exact⟨ae,rfl,λb1 fc=>by simp at fc;subst fc;exact⟨b,hk,pF⟩⟩
  .rw[dO σ _ cH];exact⟨bQ,rfl,λb hb=>⟨b,hb,.refl b⟩⟩
 have aQ:ee S w S (w.setRow g new):=by
  intro g' o h;refine⟨h,cell_setRow_other w g new ⟨g',o,Z⟩ ?_⟩
  rintro rfl
  exact hS o h
 have cg:∀k' b1,(σ.setB k (.live b')).bx k' = .live b1->∃b2,σ.bx k' = .live b2:=by
  intro k' b1 h1;by_cases cH:k'=k
  .subst cH;exact⟨b,hk⟩
  .rw[dO σ _ cH]at h1;exact⟨b1,h1⟩
 have an:=(ji.1 hh).1
 refine Rel.step (bx':=(σ.setB k (.live b')).bx) hR aQ hle ?_ ?_ ?_ hR.new ?_ ?_ ?_ hR.os hR.tape hR.output (λg' _ _ h=>⟨setRow_other w g g' new (λe=>h k b hk (e▸hg)),λk' b1 h1=>by
  obtain⟨b2,h2⟩:=cg k' b1 h1;exact h k' b2 h2⟩)
 .intro k' b1 h1;by_cases cH:k'=k
  .subst cH;rw[ix]at h1;simp at h1;subst h1;exact hb hle aQ
  .rw[dO σ _ cH]at h1;refine fM.keep aQ hle rfl (λg' az=>⟨?_,λ_=>Iff.rfl⟩) (hR.box k' b1 h1);exact setRow_other w g g' new (λh=>hR.apart k' k b1 b g cH h1 hk (h▸az) hg)
 .intro k' b1 g' h1 az;obtain⟨b2,h2⟩:=cg k' b1 h1;exact hR.own k' b2 g' h2 az
 .intro k1 k2 b1 b2 g' bA h1 h2 az;obtain⟨u4,mZ⟩:=cg k1 b1 h1;obtain⟨u5,ma⟩:=cg k2 b2 h2;exact hR.apart k1 k2 u4 u5 g' bA mZ ma az
 .intro g' o h;rw[size_setRow];exact hR.here g' o h
 .intro g' az hr;rw[setRow_other w g g' new ?_]
  .exact hR.below g' az hr
  .rintro rfl
   rcases hR.own k b _ hk hg with h|h
   .exact h.no aa hr
   .exact hr h.1
 .rw[size_setRow];exact hR.grow
theorem Iu{R:Leaf->F->Prop}{ls new:D Leaf}{cs zs:D F}{c:H}(h:All2 R ls cs)(h':All2 R new zs) :
  All2 R (si ls c new) (cs.take c++zs++cs.drop (c+zs.length)):=by
 unfold si;rw[h'.length];exact((h.take c).append h').append (h.drop _)
theorem Vq{X zs:D F}{c n:H}(h:c+zs.length<=n)(h':n<=X.length):(X.take c++zs++X.drop (c+zs.length)).take n=(X.take n).take c++zs++(X.take n).drop (c+zs.length):=by
 have e1:(X.take n).take c=X.take c:=by rw[yk,È aa]
 have e2:(X.take c++zs).length=c+zs.length:=ax;rw[e1,Ð,W (by rw[e2];exact h),e2,ü]
theorem Vr{bx:H->BS}{b:Ty}:∀{ys:D (D b.den)}{css:D (D F)},All2 (λx c=>Rep S w (.list b) x c) ys css->All2 (cA S w γ bx) (ys.map λy=> .d (.list b) y) css.flatten
 |[],[],_=>trivial
 |[],_::_,h=>h.elim
 |_::_,[],h=>h.elim
 |y::ys,c::css,h=>by
  have h1:Rep S w (.list b) y c:=h.1;have h2:c.length=1:=Rep.length _ _ _ h1;match c,h2 with
  |[v],_=>exact⟨h1,Vr h.2⟩
theorem jxz{α β:Type}(f:α->β)(d:α)(ys:D α):((List.range ys.length).map λi=>f (List.getD ys i d))=ys.map f:=by
 refine List.ext_getElem ae λi h1 h2=>?_;have h3:i<ys.length:=by simpa using h2
 simp[List.getD,h3]
theorem DS{bx:H->BS}{c:Cel}{ls:D Leaf}{z:F}(h:c.leaves=G ls)(hc:cF S w γ bx c z) :
  All2 (cA S w γ bx) ls z.cells.toList/\∀u∈z.cells.toList,One u:=by
 unfold Cel.leaves at h;split at h
 .simp at h
 .rename_i l hd;simp at h;subst h;have h1:=hc.2 hd;rw[Ca h1];exact⟨⟨hc.1,trivial⟩,λu hu=>by simp at hu;subst hu;exact h1⟩
 .simp at h;subst h;obtain⟨cs,rfl,ha,h1⟩:=hc;exact⟨ha,h1⟩
 .rename_i n b ys;simp only[j5]at h;obtain⟨cs,rfl,hn,css,ha,dB⟩:=hc;have h0:Ì ys=n:=hn;subst h0;have e:ls=ys.map λy=> .d (.list b) y:=h.symm.trans (jxz (λy:D b.den=>Leaf.d (.list b) y) [] ys);have e2:(Value.agg cs).cells.toList=cs.toList:=rfl;rw[e,e2];refine⟨?_,Rep.one (.arr _ (.list b)) ys cs.toList ⟨rfl,css,ha,dB⟩⟩;rw[dB];exact Vr ha
 .simp at h
end
theorem zF{m:H}:∀{l:D (D F)},(∀c∈l,c.length=m)->l.flatten.length=l.length*m
 |[],_=>ae
 |c::l,h=>by
  have h1:=h c ae;have h2:=zF (l:=l) (λd hd=>h d (qt _ hd));simp only[qd,jf,jk,Ç,Nat.one_mul];omega
section
variable{N:NT}{np:H}{S0:aU}{w0:Â}{refs:Refs}{σ:St}{a:Ø}{w:Â}{S:aU}{γ:H->F}
theorem pH:∀(u:Ups)(σ:St){k:H},u.any (λy=>y.1==k)=O->(σ.upd u).bx k=σ.bx k
 |[],_,_,_=>rfl
 |e::u,σ,k,h=>by
  simp only[yc,yh,zt]at h;show ((σ.setB e.1 e.2).upd u).bx k=_;rw[pH u _ h.2,dO σ _ (λhh=>h.1 hh.symm)]
theorem All2.all_len{t:Ty}{xs:D t.den}{css:D (D F)}(h:All2 (λx c=>Rep S w t x c) xs css):∀c∈css,c.length=t.size:=by
 intro c hc;obtain⟨x,_,hx⟩:=h.mem_right c hc;exact Rep.length _ _ _ hx
theorem MA{cur:D F}{css:D (D F)}{m n i c:H}{ci zs:D F}(hm:∀c∈css,c.length=m)(hn:css.length=n)(eG:cur.take (n*m)=css.flatten)
  (hi:css[i]? = G ci)(hc:c+zs.length<=m) :
  (cur.take (i*m+c)++zs++cur.drop (i*m+c+zs.length)).take (n*m)=(css.set i (ci.take c++zs++ci.drop (c+zs.length))).flatten:=by
 have an:i<css.length:=(jy.1 hi).1;have oD:css[i]=ci:=(jy.1 hi).2;have fk:ci.length=m:=hm ci (kg hi);obtain⟨A,B,hA,hB,Iv⟩:∃A B:D (D F),A.length=i/\A.length+1+B.length=n/\css=A++ci::B:=by refine⟨css.take i,css.drop (i+1),ax,ax,?_⟩;rw[<-oD,è an,qx]
 have hmA:∀c∈A,c.length=m:=λd hd=>hm d (by rw[Iv];simp[hd]);have hmB:∀c∈B,c.length=m:=λd hd=>hm d (by rw[Iv];simp[hd]);have lA:A.flatten.length=i*m:=by rw[zF hmA,hA]
 have lB:=zF hmB;have kP:css.set i (ci.take c++zs++ci.drop (c+zs.length))=A++(ci.take c++zs++ci.drop (c+zs.length))::B:=by rw[Iv,vp _ _ aa,hA,Nat.sub_self,Þ]
 have DT:cur=A.flatten++(ci++(B.flatten++cur.drop (n*m))):=by have:=qx (n*m) cur;rw[eG,Iv,yq,qd]at this;rw[<-jj ci,<-jj];exact this.symm
 have dq:ci=ci.take c++((ci.drop c).take zs.length++ci.drop (c+zs.length)):=by have h1:=qx c ci;have h2:=qx zs.length (ci.drop c);rw[ý]at h2;rw[h2,h1]
 have lp:(ci.take c).length=c:=ax;have lq:((ci.drop c).take zs.length).length=zs.length:=ax;have lr:(ci.drop (c+zs.length)).length=m-(c+zs.length):=by simp[fk]
 generalize ci.take c=p at *
 generalize (ci.drop c).take zs.length=q at *
 generalize ci.drop (c+zs.length)=r at *
 generalize cur.drop (n*m)=tl at *
 have e1:cur.take (i*m+c)=A.flatten++p:=by rw[DT,dq];simp only[<-jj];rw[jj,jj,jj];exact Õ (by simp[lA,lp])
 have e2:cur.drop (i*m+c+zs.length)=r++(B.flatten++tl):=by rw[DT,dq];have:A.flatten++(p++(q++r)++(B.flatten++tl))=(A.flatten++p++q)++(r++(B.flatten++tl)):=ae;rw[this];exact ú (by simp[lA,lp,lq];omega)
 rw[e1,e2,kP,yq,qd];have:A.flatten++p++zs++(r++(B.flatten++tl))=(A.flatten++(p++zs++r++B.flatten))++tl:=ae;rw[this];refine Õ ?_;simp only[jf,lA,lp,lr,lB];have:n*m=i*m+m+B.length*m:=by rw[<-hB,hA,Ç,Ç,Nat.one_mul]
 omega
theorem Iw{P:À}{T:H->Á TyI}(hT:cT P T){t:Æ}{ti:TyI}(ht:T t=G ti){g o:H}{z:F}{cur:É F}{e:Æ}
  (hh:w.heap[g]? = G (.cells cur e (0,0)))(hs:z.cells.toList.length=ti.size)(hl:o+z.cells.toList.length<=cur.size)(h1:∀u∈z.cells.toList,One u) :
  (î t (.pointer (G ⟨g,o,Z⟩)) z).run P w = .ok () (w.setRow g (cur.toList.take o++z.cells.toList++cur.toList.drop (o+z.cells.toList.length)).toArray):=by
 have aQ:=run_storeCells_at P g o e z.cells.toList 0 cur w hh (by simpa using hl) h1;simp only[ò]at aQ;have bA:¬z.cells.size≠ti.size:=by simpa using hs
 simp only[î,J,þ,Ã,I,storeVar,kB hT ht,Sem.run_ite,if_neg bA,aQ]
theorem jxA{P:À}{E:Env}(hT:cT P E.T)(hR:Rel N np S0 w0 refs σ a w S γ){rd rdf:H->BS}(bj:RdOk σ rd)(bN:RdF np σ rdf){t:Æ}{ti:TyI}(ht:E.T t=G ti)
  {x:Leaf}{val:Cel}{u:Ups}{ux z:F}(h:wO rd rdf ti.size val x=G u)(hx:cA S w γ σ.bx x ux)(hz:cF S w γ σ.bx val z) :
  ∃w' S',(î t ux z).run P w = .ok () w'/\Rel N np S0 w0 refs (σ.upd u) a w' S' γ:=by
 unfold wO at h;split at h
 .rename_i k c;split at h
  .rename_i ls hk;have hk:=bj.live hk;split at h
   .rename_i new eU;split at h
    .rename_i hc;simp only[j5]at h;subst h;obtain⟨bU,hle⟩:=hc;obtain⟨ha,h1⟩:=DS eU hz;obtain⟨g,hg,hu⟩:=hx.2.2 _ hk;obtain⟨g',cur,e,az,hh,eG,eX,hS,_⟩:=hR.box k _ hk;rw[hg]at az;simp at az;subst az;subst hu;have hlen:=ha.length;have u7:=eG.length;simp at u7;refine⟨_,S,Iw hT ht hh aa (by simp at hlen ⊢;omega) h1,?_⟩;refine DR hR hk (by rw[hg];rfl) (hS rfl) (b':= .cell (si ls c new) O) trivial hh (λhle aQ=>?_);refine⟨g,_,e,hg,setRow_heap w g cur _ e (0,0) hh,?_,?_,λ_=>hS rfl,ae⟩
     .have:=Iu (c:=c) (eG.mono (λx u hx=>cA.keep aQ hle hx)) (ha.mono (λx u hx=>cA.keep aQ hle hx));have eP:(si ls c new).length=ls.length:=by simp[si];omega
      rw[eP];have:=Vq (X:=cur.toList) (zs:=z.cells.toList) (c:=c) (n:=ls.length) aa ax;simp only[this];assumption
     .intro v hv;have eP:(si ls c new).length=ls.length:=by simp[si];omega
      rw[eP]at hv;have sE:=Vq (X:=cur.toList) (zs:=z.cells.toList) (c:=c) (n:=ls.length) aa ax;simp only[sE]at hv;simp only[jn]at hv;rcases hv with (hv|hv)|hv
      .exact eX v (qb hv)
      .exact h1 v hv
      .exact eX v (z6 hv)
    .simp at h
   .simp at h
  .rename_i n el xs hk;have hk:=bj.live hk;split at h
   .rename_i jO;subst jO;split at h
    .rename_i n' a' ys;split at h
     .rename_i L8 jN;split at h
      .rename_i bU;simp only[j5]at h;subst h;have u9:=nS jN;simp only[TV.mk.injEq,Ty.arr.injEq]at u9;obtain⟨⟨rfl,rfl⟩,u9⟩:=u9;obtain rfl:=eq_of_heq u9;obtain⟨cs,rfl,hr⟩:=hz;obtain⟨g,hg,hu⟩:=hx.2.2 _ hk;obtain⟨g',cur,e,az,hh,bV,hS⟩:=hR.box k _ hk;rw[hg]at az;simp at az;subst az;subst hu;have pI:=Rep.length _ _ _ hr;have rK:=Rep.length _ _ _ bV;have e1:(Value.agg cs).cells.toList=cs.toList:=rfl;refine⟨_,S,Iw hT ht hh (by rw[e1,pI,bU];rfl) (by rw[e1,pI,<-rK];simp) (by rw[e1];exact Rep.one _ _ _ hr),?_⟩;refine DR hR hk (by rw[hg];rfl) hS (b':= .arr _ _ _) ⟨rfl,rfl⟩ hh (λhle aQ=>?_);refine⟨g,_,e,hg,setRow_heap w g cur _ e (0,0) hh,?_,hS⟩;have hd:cur.toList.drop (0+cs.toList.length)=[]:=jc (by rw[pI,rK];omega);have hX:(cur.toList.take 0++(Value.agg cs).cells.toList++cur.toList.drop (0+(Value.agg cs).cells.toList.length)).toArray.toList=cs.toList:=by rw[e1,hd];simp
       rw[hX];exact Rep.keep aQ _ _ _ hr
      .simp at h
     .simp at h
    .simp at h
   .simp at h
  .simp at h
 .rename_i k i c;split at h
  .rename_i el at_ xs hk;have cG:=bj.nm hk;have hk:=bj.live hk;split at h
   .rename_i new eU;split at h
    .rename_i hc;obtain⟨bU,hle⟩:=hc;split at h
     .rename_i en u1 zG;split at h
      .simp at h
      .rename_i ug;simp only[j5]at h;subst h;obtain⟨ha,h1⟩:=DS eU hz;have hlen:=ha.length;have vA:z.cells.toList.length=z.cells.size:=qm;obtain⟨_,hi,g,cap,hg,hu⟩:=hx.2.2 _ hk;obtain⟨css,aZ,aC,hSk⟩:=kA cG (hR.box k _ hk);rcases aZ.2 with⟨_,h0⟩|⟨g',ic,cur,az,gq,hh,kD,l7,dB,ff⟩
       .omega
       rw[hg]at az;simp at az;obtain⟨rfl,rfl⟩:=az;subst hu;obtain⟨ci,oD,bV,dX⟩:=yZ (λx c hx=>Rep.length at_ x c hx) aC i at_.dflt hi;have fk:=Rep.length _ _ _ bV;have dq:=Iu (c:=c) (ud (rH at_ _ ci bV)) ha;obtain⟨hf,he,hp⟩:=zD bN hR.box at_ zG dq;obtain⟨S1,bO,dx,fQ,dZ⟩:=qJ u1 σ S hR hf;have dW:(σ.upd u1).bx k = .live (.lst el at_ xs O):=by rw[pH u1 σ (z8.2 ug)];exact hk
       obtain⟨css1,Vs,Vt,Vu⟩:=kA cG (bO.box k _ dW);have w8:∀o,¬S1 g o:=(Vu g (by rw[hg];rfl)).1 rfl;have Vv:i*at_.size+at_.size<=xs.length*at_.size:=by have:(i+1)*at_.size<=xs.length*at_.size:=k9 _ aa;rwa[yo]at this
       have Cc:xs.length*at_.size<=cap*at_.size:=k9 _ kD;have lE:c+z.cells.toList.length<=at_.size:=aa;refine⟨_,S1,Iw hT ht hh aa (by rw[dB];omega) h1,?_⟩;rw[na];refine DR bO dW (by rw[hg];rfl) w8 (b':= .lst el at_ (xs.set i en) O) ⟨rfl,rfl,λ_=>ae⟩ hh (λkQ cZ=>?_);have sF:Rep S1 w at_ en (ci.take c++z.cells.toList++ci.drop (c+z.cells.toList.length)):=by have:=hp S1 w dx fQ;rwa[W ax]at this
       refine DI cG ⟨css.set i (ci.take c++z.cells.toList++ci.drop (c+z.cells.toList.length)),⟨?_,.inr ⟨g,cap,_,?_,kn _,setRow_heap w g cur _ el (0,0) hh,by simpa using kD,l7,?_,?_⟩⟩,?_,λg' az=>?_⟩
       .rw[zF (m:=at_.size)]
        .simp[aC.length]
        .intro d hd;rcases List.mem_or_eq_of_mem_set hd with hd|rfl
         .exact All2.all_len aC d hd
         .simp;omega
       .simpa using hg
       .simp only[yb,jf,qo,vi,qm];omega
       .simp only[y8];exact MA (All2.all_len aC) aC.length.symm ff oD lE
       .exact(aC.mono (λx c hx=>Rep.keep (dx.trans cZ) _ _ _ hx)).set i _ _ (Rep.keep cZ _ _ _ sF)
       .rw[hg]at az;simp[blk]at az;subst az;exact⟨λ_=>w8,ae⟩
     .simp at h
    .simp at h
   .simp at h
  .rename_i n at_ xs hk;have hk:=bj.live hk;split at h
   .rename_i new eU;split at h
    .rename_i hc;obtain⟨bU,hle⟩:=hc;split at h
     .rename_i en u1 zG;split at h
      .simp at h
      .rename_i ug;simp only[j5]at h;subst h;obtain⟨ha,h1⟩:=DS eU hz;have hlen:=ha.length;have vA:z.cells.toList.length=z.cells.size:=qm;obtain⟨hi,g,hg,hu⟩:=hx.2.2 _ hk;obtain⟨g',cur,e,az,hh,⟨hn,css,aC,eG⟩,hS⟩:=hR.box k _ hk;rw[hg]at az;simp at az;subst az;subst hu;obtain⟨ci,oD,bV,dX⟩:=yZ (λx c hx=>Rep.length at_ x c hx) aC i at_.dflt aa;have fk:=Rep.length _ _ _ bV;have dq:=Iu (c:=c) (ud (rH at_ _ ci bV)) ha;obtain⟨hf,he,hp⟩:=zD bN hR.box at_ zG dq;obtain⟨S1,bO,dx,fQ,dZ⟩:=qJ u1 σ S hR hf;have dW:(σ.upd u1).bx k = .live (.arr n at_ xs):=by rw[pH u1 σ (z8.2 ug)];exact hk
       obtain⟨g1,cur1,e1,vB,hh1,_,w8⟩:=bO.box k _ dW;rw[hg]at vB;simp at vB;subst vB;have DU:cur.toList.length=n*at_.size:=by rw[eG,zF (All2.all_len aC),<-aC.length,hn]
       have Vv:i*at_.size+at_.size<=n*at_.size:=by have:(i+1)*at_.size<=n*at_.size:=k9 _ aa;rwa[yo]at this
       have lE:c+z.cells.toList.length<=at_.size:=aa;refine⟨_,S1,Iw hT ht hh aa (by rw[<-qm,DU];omega) h1,?_⟩;rw[na];refine DR bO dW (by rw[hg];rfl) w8 (b':= .arr n at_ (xs.set i en)) ⟨rfl,rfl⟩ hh (λkQ cZ=>?_);have sF:Rep S1 w at_ en (ci.take c++z.cells.toList++ci.drop (c+z.cells.toList.length)):=by have:=hp S1 w dx fQ;rwa[W ax]at this
       refine⟨g,_,e,hg,setRow_heap w g cur _ e (0,0) hh,⟨?_,css.set i (ci.take c++z.cells.toList++ci.drop (c+z.cells.toList.length)),?_,?_⟩,w8⟩
       .show Ì (List.set xs i en)=n;rw[y8];exact hn
       .exact(aC.mono (λx c hx=>Rep.keep (dx.trans cZ) _ _ _ hx)).set i _ _ (Rep.keep cZ _ _ _ sF)
       .have Ix:=MA (cur:=cur.toList) (n:=n) (zs:=z.cells.toList) (All2.all_len aC) (by rw[<-aC.length,hn]) (by rw[<-DU,List.take_length,eG]) oD lE;rw[<-Ix];symm;refine(W ?_).trans ae;simp only[jf,qo,vi];omega
     .simp at h
    .simp at h
   .simp at h
  .simp at h
 .simp at h
end
theorem w9{m:H}:∀{l:D (D F)}(i:H),(∀c∈l,c.length=m)->(l.take i).flatten=l.flatten.take (i*m)
 |[],i,_=>ae
 |c::l,0,_=>ae
 |c::l,i+1,h=>by
  have hc:=h c ae;have ih:=w9 (l:=l) i (λd hd=>h d (by simp[hd]));rw[List.take_succ_cons,qd,ih,qd,yo,Nat.add_comm,Ð,hc];rw[W (l:=c) aa,show m+i*m-m=i*m by omega]
theorem DV{m:H}:∀{l:D (D F)}(i:H),(∀c∈l,c.length=m)->(l.drop i).flatten=l.flatten.drop (i*m)
 |[],i,_=>ae
 |c::l,0,_=>ae
 |c::l,i+1,h=>by
  have hc:=h c ae;have ih:=DV (l:=l) i (λd hd=>h d (by simp[hd]));rw[List.drop_succ_cons,ih,qd,yo,Nat.add_comm,List.drop_append,hc];rw[jc (l:=c) aa,jw,show m+i*m-m=i*m by omega]
section
variable{N:NT}{np:H}{S0:aU}{w0:Â}{refs:Refs}{σ:St}{a:Ø}{w:Â}{S:aU}{γ:H->F}
theorem MB(hR:Rel N np S0 w0 refs σ a w S γ){k:H}{b:Bx}(hk:σ.bx k = .live b):Rel N np S0 w0 refs (σ.setB k .gone) a w S γ:=by
 have hle:BxLe γ σ.bx γ (σ.setB k .gone).bx:=by
  intro k' bQ;by_cases cH:k'=k
  .subst cH;rw[ix];exact⟨ae,rfl,λb hb=>by simp at hb⟩
  .rw[dO σ _ cH];exact⟨bQ,rfl,λb hb=>⟨b,hb,.refl b⟩⟩
 have cg:∀k' b1,(σ.setB k .gone).bx k' = .live b1->σ.bx k' = .live b1:=by
  intro k' b1 h1;by_cases cH:k'=k
  .subst cH;rw[ix]at h1;simp at h1
  .rwa[dO σ _ cH]at h1
 exact Rel.step (bx':=(σ.setB k .gone).bx) hR (.refl S w) hle (λk' b' h=>fM.keep (.refl S w) hle rfl (λ_ _=>⟨rfl,λ_=>Iff.rfl⟩) (hR.box k' b' (cg k' b' h)))
  (λk' b' g h=>hR.own k' b' g (cg k' b' h)) (λk1 k2 b1 b2 g bA h1 h2=>hR.apart k1 k2 b1 b2 g bA (cg _ _ h1) (cg _ _ h2)) hR.new hR.here hR.below hR.grow hR.os hR.tape hR.output
  (λg _ _ h=>⟨rfl,λk' b' aW=>h k' b' (cg k' b' aW)⟩)
theorem Cd(hR:Rel N np S0 w0 refs σ a w S γ){d:H}(hd:σ.bx d = .free){w':Â}{S':aU}{v':F}{e:H}(hm:isM e=O){el:Ty}{zs:D el.den}{frz:Ù}{css:D (D F)}
  (aQ:ee S w S' w')(sG:∀g,g<w.heap.size->blk v'≠G g->w'.heap[g]? = w.heap[g]?)(bU:w.heap.size<=w'.heap.size)
  (hv:∀g,blk v'=G g->Own w0 refs g/\(∀k b,σ.bx k = .live b->blk (γ k)≠G g)/\g<w'.heap.size)
  (hS:∀g o,S' g o->S g o\/blk v'=G g)(os:w'.os=w.os)(tape:w'.tape=w.tape)(output:w'.output=w.output)
  (cI:w'.ownsRow 0 e el.size v' zs.length css.flatten)(aC:All2 (λx c=>Rep S' w' el x c) zs css)
  (MC:∀g,blk v'=G g->(frz=O->∀o,¬S' g o)/\(frz=Ä->∀o,S' g o↔o<zs.length*el.size))(Vw:∀g,blk v'=G g->refs.kw g=Z) :
  Rel N np S0 w0 refs (σ.setB d (.live (.lst e el zs frz))) a w' S' (gset γ d v')/\
   cF S' w' (gset γ d v') (σ.setB d (.live (.lst e el zs frz))).bx (.one (.ol d)) v':=by
 have hle:BxLe γ σ.bx (gset γ d v') (σ.setB d (.live (.lst e el zs frz))).bx:=by
  intro k hk;have bA:k≠d:=by rintro rfl;exact hk hd
  rw[dO σ _ bA,iV γ v' bA];exact⟨hk,rfl,λb hb=>⟨b,hb,.refl b⟩⟩
 have dQ:One v':=by rcases cI.2 with⟨rfl,_⟩|⟨g,cap,cur,rfl,_⟩<;>rfl
 refine⟨Rel.step (bx':=(σ.setB d (.live (.lst e el zs frz))).bx) hR aQ hle ?_ ?_ ?_ ?_ ?_ ?_ (kr hR.grow bU) (os.trans hR.os) (tape.trans hR.tape) (output.trans hR.output) (λg hg vC h=>⟨sG g hg (λhh=>vC (Vw g hh)),λk b' aW dY=>by
  by_cases hk:k=d
  .subst hk;rw[iD]at dY;exact vC (Vw g dY)
  .rw[dO σ _ hk]at aW;rw[iV γ v' hk]at dY;exact h k b' aW dY⟩),?_⟩
 .intro k b hb;by_cases hk:k=d
  .subst hk;rw[ix]at hb;simp at hb;subst hb;refine DI hm ⟨css,by rw[iD];exact cI,aC,λg hg=>?_⟩;rw[iD]at hg;exact MC g hg
  .rw[dO σ _ hk]at hb;refine fM.keep aQ hle (iV γ v' hk) (λg hg=>?_) (hR.box k b hb);have sH:=mJ (hR.box k b hb) hg;have bA:blk v'≠G g:=λhh=>(hv g hh).2.1 k b hb hg;exact⟨sG g sH bA,λo=>⟨λhs=>(hS g o hs).resolve_right bA,λhs=>(aQ g o hs).1⟩⟩
 .intro k b g hb hg;by_cases hk:k=d
  .subst hk;rw[iD]at hg;exact .inl (hv g hg).1
  .rw[dO σ _ hk]at hb;rw[iV γ v' hk]at hg;exact hR.own k b g hb hg
 .intro k k' b1 b2 g bA h1 h2 hg az;by_cases hk:k=d
  .subst hk;have bQ:k'≠k:=λh=>bA h.symm;rw[iD]at hg;rw[dO σ _ bQ]at h2;rw[iV γ v' bQ]at az;exact(hv g hg).2.1 k' b2 h2 az
  .by_cases bQ:k'=d
   .subst bQ;rw[iD]at az;rw[dO σ _ hk]at h1;rw[iV γ v' hk]at hg;exact(hv g az).2.1 k b1 h1 hg
   .rw[dO σ _ hk]at h1;rw[dO σ _ bQ]at h2;rw[iV γ v' hk]at hg;rw[iV γ v' bQ]at az;exact hR.apart k k' b1 b2 g bA h1 h2 hg az
 .intro g o hs;rcases hS g o hs with hs|hs
  .exact hR.new g o hs
  .exact .inr (hv g hs).1
 .intro g o hs;rcases hS g o hs with hs|hs
  .have:=hR.here g o hs;omega
  .exact(hv g hs).2.2
 .intro g hg hr;by_cases hb:blk v'=G g
  .exact((hv g hb).1.no hg hr).elim
  .rw[sG g (by have:=hR.grow;omega) hb];exact hR.below g hg hr
 .refine⟨⟨by rw[ix];simp,dQ,λb hb=>(iD γ d v').symm⟩,λ_=>dQ⟩
theorem jxB{P:À}{T:H->Á TyI}(hT:cT P T){t ty:Æ}{ti:TyI}(ht:T t=G ti){el:Ty}(bM:ti.ty=G (.list el))
  {v:F}{n:H}{xs:D F}(aZ:w.ownsRow 0 ti.elem el.size v n xs){ad:Á Addr}{m c:H}{news:D F}(fF:ad=Z->m=0/\c=0)(hl:news.length=m*el.size)
  (jP:∀b,ad=G b->∀(j:H)(u:F),news[j]? = G u->w.cell? (b.add j)=G u)(h1:∀u∈news,One u)(fo:n+m<=aM) :
  ∃v' w',(Î #[t,t] ty #[v,.slice ad m c]).run P w = .ok v' w'/\w'.ownsRow 0 ti.elem el.size v' (n+m) (xs++news)/\w'.os=w.os/\w'.tape=w.tape/\w'.output=w.output/\w.heap.size<=w'.heap.size/\
   ((v'=v/\w'=w)\/(blk v'=blk v/\(∃g,blk v=G g)/\∀g,blk v≠G g->w'.heap[g]? = w.heap[g]?)\/(blk v'=G w.heap.size/\∀g,g<w.heap.size->w'.heap[g]? = w.heap[g]?)):=by
 obtain⟨hd,bK,te,dn,dp⟩:=pE hT ht bM;have bU:=nR hT dn dp;obtain⟨i,de,hi,hde,Vx,vD,_,_,hz⟩:=nQ hT dn;obtain⟨_,⟨z,hz,ie⟩,_⟩:=hz el dp;have fR:i.size=el.size:=aa;have kE:z.cells.size=el.size:=by have h:=Rep.length el el.dflt _ (rJ (S:=λ_ _=>False) (w:=w) el);rw[<-ie]at h;simpa using h
 have DW:n+m<=maxLen:=by simp only[maxLen,aM]at *;omega
 have mb:(n+m)*i.bytes<=140737488355328:=by have:(n+m)*i.bytes<=aM*32768:=qi fo vD;simp only[aM]at this;omega
 have hlen:(xs++news).length=(n+m)*el.size:=by rw[jf,aZ.1,hl,Ç]
 cases ad with
 |none=>obtain⟨rfl,rfl⟩:=fF rfl;have pJ:news=[]:=kc (by simpa using hl);subst pJ;exact⟨v,w,run_append_owned_none (P:=P) w 0 t ty ti.elem i el.size hd hi v n xs aZ,by simpa using aZ,rfl,rfl,rfl,jv _,.inl ⟨rfl,rfl⟩⟩
 |some b=>
  have jP:=jP b rfl;rcases aZ.2 with⟨rfl,rfl⟩|⟨g,cap,cur,rfl,_,hg,kD,l7,dB,ff⟩
  .have xa:w.ownsRow w.heap.size ti.elem el.size (.slice Z 0 0) 0 xs:=⟨aZ.1,.inl ⟨rfl,rfl⟩⟩;obtain⟨v',w',hr,ho,mK,hv⟩:=run_append_own (P:=P) w w.heap.size t ty ti.elem i z el.size i.bytes hd hi hz fR rfl kE bK _ 0 xs xa b m c news hl jP h1 DW mb (jv _);refine⟨v',w',hr,⟨ho.1,ho.2.imp id (λ⟨g,cap,cur,h1,_,h3⟩=>⟨g,cap,cur,h1,kn _,h3⟩)⟩,mK.os,mK.tape,mK.output,mK.size,?_⟩;by_cases hm:m=0
   .subst hm;have pJ:news=[]:=kc (by simpa using hl);subst pJ;have:=run_append_own (P:=P) w w.heap.size t ty ti.elem i z el.size i.bytes hd hi hz fR rfl kE bK _ 0 xs xa b 0 c [] hl jP h1 DW mb (jv _);left;have hx:(Î #[t,t] ty #[.slice Z 0 0,.slice (G b) 0 c]).run P w = .ok (.slice Z 0 0) w:=by simp[Î,run_underlying hd,sizeOf,typeInfo,hi,ï,Ï,loadCells,loadCellsFrom]
    rw[hx]at hr;simp at hr;exact⟨hr.1.symm,hr.2.symm⟩
   .have vE:=run_append_nil (P:=P) w t ty ti.elem i z hd hi hz b m c news (by rw[fR];exact hl) jP aa (by simp only[maxLen]at DW;omega) (by have:=mb;simp only[ki]at this;omega);rw[vE]at hr;simp at hr;obtain⟨rfl,rfl⟩:=hr;exact .inr (.inr ⟨rfl,λg hg=>heap_alloc_old w.drew _ hg⟩)
  .by_cases sJ:n+m<=cap
   .have DX:n*i.size+news.length<=cur.size:=by rw[fR,hl,dB,<-Ç];exact k9 _ sJ
    have hr:=run_append_room (P:=P) w t ty ti.elem i hd hi g n cap cur hg b m c news (by rw[fR];exact hl) jP h1 sJ DX;rw[fR]at hr DX;refine⟨_,_,hr,⟨hlen,.inr ⟨g,cap,_,rfl,kn _,setRow_heap w g cur _ ti.elem _ hg,sJ,l7,?_,?_⟩⟩,rfl,rfl,rfl,by rw[size_setRow];exact jv _,.inr (.inl ⟨rfl,⟨g,rfl⟩,λg' az=>?_⟩)⟩
    .simp only[yb,jf,qo,vi,qm];omega
    .rw[ff,<-hlen];exact ÿ
    .exact setRow_other w g g' _ (λh=>az (by rw[h];rfl))
   .have holds:∀(j:H)(u:F),xs[j]? = G u->w.cell? ((⟨g,0,Z⟩:Addr).add j)=G u:=aZ.cells (g:=g) rfl;have hr:=run_append_grow (P:=P) w t ty ti.elem i z hd hi hz ⟨g,0,Z⟩ n cap xs (by rw[fR];exact aZ.1) holds b m c news (by rw[fR];exact hl) jP aa (by simp only[maxLen]at DW;omega) (growslice_fits aa mb);have rL:=grownCap_ge w (n+m) cap ti.elem;refine⟨_,_,hr,⟨hlen,.inr ⟨w.heap.size,_,_,rfl,kn _,heap_alloc_new w.drew _,rL,grownCap_le_maxLen w (n+m) cap ti.elem DW,?_,?_⟩⟩,rfl,rfl,rfl,ae,.inr (.inr ⟨rfl,λg' az=>heap_alloc_old w.drew _ az⟩)⟩
    .simp only[Array.size_append,yb,size_zeroCells,kE,aZ.1,hl,<-Ç];congr 1;omega
    .simp only[Array.toList_append,jj];rw[<-jj,<-hlen];exact ÿ
theorem Vy(hR:Rel N np S0 w0 refs σ a w S γ){rd:H->BS}(bj:RdOk σ rd){el:Ty}{y:Leaf}{ys:D el.den}{z:F}(h:appX rd el y=G ys)(hy:cA S w γ σ.bx y z) :
  ∃ad c css,z = .slice ad ys.length c/\(ad=Z->ys.length=0/\c=0)/\All2 (λx c=>Rep S w el x c) ys css/\
   ∀b,ad=G b->∀(j:H)(u:F),css.flatten[j]? = G u->w.cell? (b.add j)=G u:=by
 unfold appX at h;split at h
 .rename_i k;split at h
  .rename_i e Iy xs f hk;have:=nS h;cases this;have cG:=bj.nm hk;have hk:=bj.live hk;have hz:=hy.2.2 _ hk;obtain⟨css,aZ,aC,_⟩:=kA cG (hR.box k _ hk);rcases aZ.2 with⟨hg,h0⟩|⟨g,cap,cur,hg,_⟩
   .exact⟨Z,0,css,by rw[hz,hg,h0],λ_=>⟨h0,rfl⟩,aC,λb hb=>by simp at hb⟩
   .refine⟨G ⟨g,0,Z⟩,cap,css,by rw[hz,hg],ae,aC,λb hb j u hu=>?_⟩;simp at hb;subst hb;exact aZ.cells (g:=g) (by rw[hg];rfl) j u hu
  .simp at h
 .rename_i t xs;have:=nS h;cases this;obtain⟨ad,cap,hz,hle,l7,hn,hb⟩:=hy;simp at hz;cases ad with
  |none=>have h0:=hn rfl;have jH:Ì ys=0:=aa;have:ys=[]:=kc jH;subst this;exact⟨Z,cap,[],hz,λ_=>⟨rfl,h0⟩,trivial,λb hb=>by simp at hb⟩
  |some b=>
   obtain⟨dq,css,ha,hl⟩:=hb b rfl;refine⟨G b,cap,css,hz,ae,ha,λb' aW j u hu=>?_⟩;simp at aW;subst aW
   have dq:=dq (λe=>by
    rw[e]at ha;cases css with
    |nil=>simp at hu
    |cons c cs=>exact ha)
   obtain⟨g,o,sp⟩:=b;simp at dq;subst dq;rw[Å];exact(hl j u hu).2
 .simp at h;subst h;exact⟨Z,0,[],hy,λ_=>⟨rfl,rfl⟩,trivial,λb hb=>by simp at hb⟩
 .rename_i k j;split at h
  .rename_i e Iy xs f hk;split at h
   .rename_i dD jN;have:=nS jN;cases this;simp only[j5]at h;subst h;have cG:=bj.nm hk;have hk:=bj.live hk;obtain⟨_,hj,ad,ic,az,hu⟩:=hy.2.2 _ hk;obtain⟨css,aZ,aC,_⟩:=kA cG (hR.box k _ hk);have fk:=All2.all_len aC;have hlen:(Ê j dD).length=dD.length-j:=ae;rcases aZ.2 with⟨hg,h0⟩|⟨g,cap,cur,hg,_,hh,kD,_⟩
    .rw[hg]at az;simp only[Y]at az;obtain⟨rfl,_,rfl⟩:=az;have vF:dD=[]:=kc h0;subst vF;refine⟨Z,0,[],by rw[hu];simp,λ_=>⟨ae,rfl⟩,by simp;trivial,λb hb=>by simp at hb⟩
    .rw[hg]at az;simp only[Y,qr]at az;obtain⟨rfl,rfl⟩:=az;by_cases hc:cap=j
     .have vF:Ê j dD=[]:=jc aa;rw[vF];rw[if_pos hc]at hu;exact⟨G ⟨g,0,Z⟩,cap-j,[],by rw[hu];simp;omega,ae,trivial,λb hb q v hq=>by simp at hq⟩
     .rw[if_neg hc]at hu;simp only[qa,Å,ki]at hu;refine⟨G ⟨g,j*el.size,Z⟩,cap-j,css.drop j,by rw[hu,hlen],ae,aC.drop j,λb hb q v hq=>?_⟩;simp at hb;subst hb;have hfd:(css.drop j).flatten=css.flatten.drop (j*el.size):=DV j fk;rw[hfd,ß]at hq;have:=aZ.cells (g:=g) (by rw[hg];rfl) _ v hq;rw[Å]at this ⊢;simpa using this
   .simp at h
  .simp at h
 .simp at h
theorem jxC{P:À}{E:Env}(hT:cT P E.T)(hR:Rel N np S0 w0 refs σ a w S γ){rd rdf:H->BS}(bj:RdOk σ rd)(bN:RdF np σ rdf){t ty:Æ}{ti:TyI}(ht:E.T t=G ti)
  {el:Ty}(bM:ti.ty=G (.list el)){x y:Leaf}{xs ys:D el.den}{frz:Ù}{u:Ups}{d:H}{vx vy:F}(h1:appS rdf ti.elem el x=G (xs,frz,u))(h2:appX rd el y=G ys)
  (hd:σ.bx d = .free)(fo:xs.length+ys.length<=aM)(hx:cA S w γ σ.bx x vx)(hy:cA S w γ σ.bx y vy) :
  ∃v' w' S' γ',(Î #[t,t] ty #[vx,vy]).run P w = .ok v' w'/\Rel N np S0 w0 refs (σ.upd (u++[(d,.live (.lst ti.elem el (xs++ys) frz))])) a w' S' γ'/\
   cF S' w' γ' (σ.upd (u++[(d,.live (.lst ti.elem el (xs++ys) frz))])).bx (.one (.ol d)) v':=by
 obtain⟨ad,c,cy,Iz,fF,zH,dX⟩:=Vy hR bj h2 hy;subst Iz;have MD:cy.flatten.length=ys.length*el.size:=All2.flatten_length (λx c hx=>Rep.length el x c hx) zH;have h1y:∀u∈cy.flatten,One u:=by intro u hu;obtain⟨c,hc,yW⟩:=List.mem_flatten.1 hu;obtain⟨x,_,hx⟩:=zH.mem_right c hc;exact Rep.one el x c hx u yW
 obtain⟨qI,bK,te,dn,dp⟩:=pE hT ht bM
 have src:∃σ1,σ.upd u=σ1/\Rel N np S0 w0 refs σ1 a w S γ/\σ1.bx d = .free/\∃cx,w.ownsRow 0 ti.elem el.size vx xs.length cx.flatten/\All2 (λx c=>Rep S w el x c) xs cx/\
   ∀g,blk vx=G g->Own w0 refs g/\g<w.heap.size/\(∀k b,σ1.bx k = .live b->blk (γ k)≠G g)/\(frz=O->∀o,¬S g o)/\(frz=Ä->∀o,S g o↔o<xs.length*el.size)/\refs.kw g=none:=by
  unfold appS at h1;split at h1
  .rename_i k;split at h1
   .rename_i e' Iy dD f hk;split at h1
    .rename_i Vn jN;split at h1
     .rename_i he;simp only[j5,j9]at h1;obtain⟨rfl,rfl,rfl⟩:=h1;have:=nS jN;cases this;subst he;have pK:=bN.par hk;have cG:=bN.ok.nm hk;have hk:=bN.ok.live hk;have hz:=hx.2.2 _ hk;obtain⟨css,aZ,aC,hS⟩:=kA cG (hR.box k _ hk);have uh:d≠k:=by rintro rfl;rw[hd]at hk;simp at hk
      refine⟨σ.setB k .gone,rfl,MB hR hk,by rw[dO σ _ uh];exact hd,css,by rw[hz];exact aZ,aC,λg hg=>?_⟩;rw[hz]at hg;refine⟨?_,mJ (hR.box k _ hk) hg,λk' b' aW az=>?_,(hS g hg).1,(hS g hg).2,hR.kw_live hk hg⟩
      .rcases hR.own k _ g hk hg with h|h
       .exact h
       .rw[pK]at h;simp at h
      .have cH:k'≠k:=by rintro rfl;rw[ix]at aW;simp at aW
       rw[dO σ _ cH]at aW;exact hR.apart k' k _ _ g cH aW hk az hg
     .simp at h1
    .simp at h1
   .simp at h1
  .simp only[j5,j9]at h1;obtain⟨rfl,rfl,rfl⟩:=h1;have hz:vx = .slice Z 0 0:=hx;subst hz;exact⟨σ,rfl,hR,hd,[],à w 0 ti.elem el.size,trivial,λg hg=>by simp[blk]at hg⟩
  .simp at h1
 obtain⟨σ1,hσ1,bO,pG,cx,aZ,IA,hblk⟩:=src;rw[na,hσ1];obtain⟨v',w',hr,cI,os,tape,output,bU,dj⟩:=jxB hT ht bM (ty:=ty) aZ fF MD dX h1y fo;have hlx:cx.flatten.length=xs.length*el.size:=aZ.1;let S':aU:=λg o=>S g o\/(frz=Ä/\blk v'=G g/\o<(xs++ys).length*el.size)
 have aQ:ee S w S' w':=by
  intro g o hs;refine⟨.inl hs,?_⟩;rcases dj with⟨rfl,rfl⟩|⟨hb,⟨g0,mc⟩,hh⟩|⟨hb,hh⟩
  .rfl
  .by_cases hg:g=g0
   .subst hg;obtain⟨_,_,_,hf,ui,_⟩:=hblk g mc;cases frz with
    |false=>exact absurd hs (hf rfl o)
    |true=>
     have ho:=(ui rfl o).1 hs
     have ig:v'.ownBlock=G g:=by
      rw[mc]at hb;rcases cI.2 with⟨hn,_⟩|⟨g1,cap,cur,hn,_⟩
      .rw[hn]at hb;simp[blk]at hb
      .rw[hn]at hb ⊢;simp[blk]at hb;simp[Value.ownBlock,hb]
     have uj:vx.ownBlock=G g:=by
      rcases aZ.2 with⟨hn,_⟩|⟨g1,cap,cur,hn,_⟩
      .rw[hn]at mc;simp[blk]at mc
      .rw[hn]at mc ⊢;simp[blk]at mc;simp[Value.ownBlock,mc]
     have vG:(cx.flatten)[o]? = G (cx.flatten[o]'aa):=jp aa;have e1:=aZ.cells uj o _ vG;have e2:=cI.cells ig o (cx.flatten[o]'aa) (by rw[á aa];exact vG);rw[Å,ki]at e1 e2;rw[e1,e2]
   .have:=hh g (by rw[mc];simpa using λh=>hg h.symm);exact Ô (a:=⟨g,o,Z⟩) this
  .exact Ô (a:=⟨g,o,Z⟩) (hh g (hR.here g o hs))
 have IB:∀g,blk v'=G g->Own w0 refs g/\(∀k b,σ1.bx k = .live b->blk (γ k)≠G g)/\g<w'.heap.size:=by
  intro g hg
  have an:g<w'.heap.size:=by
   rcases cI.2 with⟨hn,_⟩|⟨g1,cap,cur,hn,_,hh,_⟩
   .rw[hn]at hg;simp[blk]at hg
   .rw[hn]at hg;simp[blk]at hg;subst hg;exact(ji.1 hh).1
  rcases dj with⟨rfl,rfl⟩|⟨hb,⟨g0,mc⟩,hh⟩|⟨hb,hh⟩
  .obtain⟨q1,q2,q3,_⟩:=hblk g hg;exact⟨q1,q3,an⟩
  .rw[hb]at hg;obtain⟨q1,q2,q3,_⟩:=hblk g hg;exact⟨q1,q3,an⟩
  .rw[hb]at hg;simp at hg;subst hg;exact⟨.inl hR.grow,λk b hk az=>by have:=mJ (bO.box k b hk) az;omega,an⟩
 obtain⟨dT,gz⟩:=Cd bO pG (hm:=Mk hT ht) (w':=w') (S':=S') (v':=v') (e:=ti.elem) (el:=el) (zs:=xs++ys) (frz:=frz) (css:=cx++cy) aQ (λg hg bA=>by
   rcases dj with⟨rfl,rfl⟩|⟨hb,_,hh⟩|⟨hb,hh⟩
   .rfl
   .exact hh g (by rw[<-hb];exact bA)
   .exact hh g hg) bU IB (λg o hs=>hs.imp id (λh=>h.2.1)) os tape output (by rw[yq,jf];exact cI)
  ((
   IA.mono (λx c hx=>Rep.keep aQ _ _ _ hx)).append (zH.mono (λx c hx=>Rep.keep aQ _ _ _ hx))) (λg hg=>by
   have hold:∀o,S g o->frz=Ä/\o<xs.length*el.size:=by
    intro o hs;rcases dj with⟨rfl,rfl⟩|⟨hb,⟨g0,mc⟩,hh⟩|⟨hb,hh⟩
    .obtain⟨_,_,_,hf,ui,_⟩:=hblk g hg;cases frz with
     |false=>exact absurd hs (hf rfl o)
     |true=>exact⟨rfl,(ui rfl o).1 hs⟩
    .rw[hb]at hg;obtain⟨_,_,_,hf,ui,_⟩:=hblk g hg;cases frz with
     |false=>exact absurd hs (hf rfl o)
     |true=>exact⟨rfl,(ui rfl o).1 hs⟩
    .rw[hb]at hg;simp at hg;subst hg;exact absurd hs (It hR o)
   refine⟨λhf o hs=>?_,λhf o=>⟨λhs=>?_,λho=> .inr ⟨hf,hg,ho⟩⟩⟩
   .rcases hs with hs|hs
    .rw[hf]at hold;simp at hold;exact hold o hs
    .rw[hf]at hs;simp at hs
   .rcases hs with hs|hs
    .have:=(hold o hs).2;rw[jf,Ç];omega
    .exact hs.2.2) (λg hg=>by
   rcases dj with⟨rfl,rfl⟩|⟨hb,⟨g0,mc⟩,hh⟩|⟨hb,hh⟩
   .exact(hblk g hg).2.2.2.2.2
   .rw[hb]at hg;exact(hblk g hg).2.2.2.2.2
   .rw[hb]at hg;simp at hg;subst hg;exact hR.kw_new (jv _))
 exact⟨v',w',S',_,hr,dT,gz⟩
end
theorem jF0(L l:D F)(v:F)(n:H)(h:n<L.length) :
  (L.set n v).take (n+1)++l++(L.set n v).drop (n+1+l.length)=L.take n++v::l++L.drop (n+(l.length+1)):=by
 obtain⟨A,x,B,hA,rfl⟩:∃A x B,Ì A=n/\L=A++x::B:=⟨L.take n,L[n],L.drop (n+1),ax,by rw[è h,qx]⟩;subst hA;rw[vp _ _ (jv _),Nat.sub_self,Þ];have e1:(A++v::B).take (A.length+1)=A++[v]:=by rw[show A++v::B=(A++[v])++B by simp];exact Õ ae
 have e2:(A++x::B).take A.length=A:=Õ rfl;have e3:∀y,(A++y::B).drop (A.length+1+l.length)=B.drop l.length:=by intro y;rw[show A++y::B=(A++[y])++B by simp,<-ý,ú ae]
 rw[e1,e2,e3,show A.length+(l.length+1)=A.length+1+l.length by omega,e3];simp
theorem Vz(off:H):∀(l:D F)(k:H)(cells:É F),off+k+l.length<=cells.size->
  ((l.zipIdx k).foldl (λcs x=>cs.setIfInBounds (off+x.2) x.1) cells).toList=cells.toList.take (off+k)++l++cells.toList.drop (off+k+l.length)
 |[],k,cells,_=>ae
 |v::l,k,cells,h=>by
  simp only[jk]at h;rw[List.zipIdx_cons,List.foldl_cons,Vz off l (k+1) _ ax];simp only[Array.toList_setIfInBounds];rw[show off+(k+1)=off+k+1 by omega];exact jF0 cells.toList l v (off+k) ax
theorem VA(cells:É F)(off:H)(zs:É F)(h:off+zs.size<=cells.size) :
  (zs.zipIdx.foldl (λcs (x:F×H)=>cs.setIfInBounds (off+x.2) x.1) cells).toList=cells.toList.take off++zs.toList++cells.toList.drop (off+zs.size):=by
 rw[<-Array.foldl_toList,Array.toList_zipIdx];have:=Vz off zs.toList 0 cells (by simpa using h);simpa using this
theorem VC(z:D F):∀(n p:H),p<n*z.length->(M n z).flatten[p]? = z[p%z.length]?
 |0,p,h=>by simp at h
 |n+1,p,h=>by
  rw[List.replicate_succ,qd];by_cases hp:p<z.length
  .rw[á hp,Nat.mod_eq_of_lt hp]
  .rw[ko aa,VC z n (p-z.length) (by rw[Ç]at h;omega)];congr 1;exact(Nat.mod_eq_sub_mod aa).symm
theorem VD(z:É F)(n:H)(hz:0<z.size):((Ñ (n*z.size)).map (λi=>z[i%z.size]!)).toList=(M n z.toList).flatten:=by
 apply ve;intro p;by_cases hp:p<n*z.size
 .rw[VC z.toList n p (by simpa using hp)];have hm:p%z.size<z.size:=Nat.mod_lt _ hz;simp[hp,hm]
 .rw[qw ax,qw (by rw[List.length_flatten];simp;omega)]
section
variable{N:NT}{np:H}{S0:aU}{w0:Â}{refs:Refs}{σ:St}{a:Ø}{w:Â}{S:aU}{γ:H->F}
theorem ME{t:Ty}{z:F}(h:z.cells.toList=lD t):z.cells.size=t.size:=by
 have:=Rep.length t t.dflt _ (rJ (S:=λ_ _=>False) (w:=(default:Â)) t);rw[<-h]at this;simpa using this
theorem IC{t:Ty}{z:F}(h:z.cells.toList=lD t):∀u∈z.cells.toList,One u:=by
 rw[h];exact Rep.one t t.dflt _ (rJ (S:=λ_ _=>False) (w:=(default:Â)) t)
theorem MF{P:À}{T:H->Á TyI}(hT:cT P T){t:Æ}{ti:TyI}(ht:T t=G ti){ty:Ty}(bM:ti.ty=G ty) :
  ∃z:F,z.cells.toList=lD ty/\(Instr.alloc t Ä (.tuple #[])).run P w = .ok (.pointer (G ⟨w.heap.size,0,Z⟩)) (w.alloc (.cells z.cells t)):=by
 obtain⟨z,hz,hc⟩:=B6 hT ht w bM;refine⟨z,hc,?_⟩;simp only[Instr.alloc,J,hz,I,newVar,newRow,run_newObj,Ã,Û]
theorem VE{P:À}(t:Æ)(v:F):(Instr.box t v).run P w = .ok (.pointer (G ⟨w.heap.size,0,Z⟩)) (w.alloc (.cells v.cells t)):=by
 simp only[Instr.box,J,newVar,newRow,run_newObj,I,Ã,Û]
theorem VF{P:À}{α β:Type}(f:α->Sem β)(g:α->β):∀(l:D α),(∀x∈l,(f x).run P w = .ok (g x) w)->(l.mapM f).run P w = .ok (l.map g) w
 |[],_=>ae
 |x::l,h=>by
  rw[vq];simp only[J,h x ae,I,VF f g l (λy hy=>h y (by simp[hy])),Ã,ke]
theorem VG{bx:H->BS}{ti:TyI}{sz:H->Á H}{place:H->Á (H×H)}(hp:∀i f n,ti.flds[i]? = G f->sz f.2=G n->place i=G (f.1,n)) :
  ∀(ps:D (H×Cel))(vs:D (H×F)){ls gr:D Leaf}{cells:É F},All2 (λp v=>p.1=v.1/\cF S w γ bx p.2 v.2) ps vs->BO ti sz ls ps=G gr->
   All2 (cA S w γ bx) ls cells.toList->(∀u∈cells.toList,One u)->∃bR,Ú place cells vs=G bR/\All2 (cA S w γ bx) gr bR.toList/\∀u∈bR.toList,One u
 |[],[],ls,gr,cells,_,h,ha,h1=>by
  simp[BO]at h;subst h;exact⟨cells,rfl,ha,h1⟩
 |(i,c)::ps,(j,v)::vs,ls,gr,cells,⟨⟨dS,hc⟩,gW⟩,h,ha,h1=>by
  simp only at dS;subst dS;simp only[BO]at h;split at h
  .rename_i f hf;split at h
   .rename_i new eU;split at h
    .rename_i dR;obtain⟨bU,hle⟩:=dR;obtain⟨hl,pI⟩:=DS eU hc;have hlen:=hl.length;have u7:=ha.length;have mL:v.cells.size=new.length:=by rw[hlen];simp
     have dB:cells.size=ls.length:=by rw[u7];simp
     have ID:=VA cells f.1 v.cells aa;have dq:=Iu (c:=f.1) ha hl
     obtain⟨bR,ij,h2,h3⟩:=VG hp ps vs (cells:=(v.cells.zipIdx.foldl (λcs (x:F×H)=>cs.setIfInBounds (f.1+x.2) x.1) cells)) gW h
      (by rw[ID];simpa using dq) (by
       rw[ID];intro u hu;simp only[jn]at hu;rcases hu with (hu|hu)|hu
       .exact h1 u (qb hu)
       .exact pI u hu
       .exact h1 u (z6 hu))
     refine⟨bR,?_,h2,h3⟩;simp only[Ú,hp i f _ hf bU];rw[if_neg (by simp[mL];omega)];exact ij
    .simp at h
   .simp at h
  .simp at h
 |[],_::_,_,_,_,h,_,_,_=>h.elim
 |_::_,[],_,_,_,h,_,_,_=>h.elim
theorem jxD{P:À}{E:Env}(hT:cT P E.T){bx:H->BS}{t:Æ}{ti:TyI}(ht:E.T t=G ti){ty:Ty}(bM:ti.ty=G ty)(oy:ty.agg=Ä)
  {ps:D (H×Cel)}{vs:É (H×F)}{ls:D Leaf}(gW:All2 (λp v=>p.1=v.1/\cF S w γ bx p.2 v.2) ps vs.toList)
  (h:BO ti (λt=>(E.T t).map (·.size)) (pB ty) ps=G ls) :
  ∃z,(Ò t vs).run P w = .ok z w/\cF S w γ bx (.st ls) z:=by
 obtain⟨z,hz,ie⟩:=B6 hT ht w bM;obtain⟨i,d,hi,hd,_,_,_,fm,fe⟩:=nQ hT ht;have qI:=(fe ty bM).2.2;cases d with
 |struct fs=>
  simp only[DJ,jd,jo]at fm;obtain⟨qK,u6⟩:=fm
  have vH:(fs.mapM (λf=>do pure (f.offset,<-sizeOf f.type):Field->Sem (H×H))).run P w = .ok (fs.map λf=>(f.offset,((E.T f.type).map (·.size)).getD 0)) w:=by
   rw[Array.mapM_eq_mapM_toList]
   have:=VF (P:=P) (w:=w) (λf=>(do pure (f.offset,<-sizeOf f.type):Sem (H×H))) (λf:Field=>(f.offset,((E.T f.type).map (·.size)).getD 0)) fs.toList (λf hf=>by
    have:=jz.1 u6 f hf;split at this
    .rename_i tf sv;simp only[J,kB hT sv,I,Ã,sv,qa,v7]
    .simp at this)
   simp only[Sem.run_map,this,I];congr 1;apply qs;simp
  have hp:∀(i:H)(f:H×H)(n:H),ti.flds[i]? = G f->(E.T f.2).map (·.size)=G n->(fs.map λf=>(f.offset,((E.T f.type).map (·.size)).getD 0))[i]? = G (f.1,n):=by
   intro i f n hf hn;rw[<-qK,qp]at hf;cases hq:fs.toList[i]? with
   |none=>simp[hq]at hf
   |some fl=>
    simp only[hq,qa,j5]at hf;subst hf;have Ce:fs[i]? = G fl:=by simpa using hq
    simp only at hn;simp[Ce,hn]
  obtain⟨bR,ij,ha,h1⟩:=VG (S:=S) (w:=w) (γ:=γ) (place:=λi=>(fs.map λf=>(f.offset,((E.T f.type).map (·.size)).getD 0))[i]?) hp ps vs.toList (cells:=z.cells) gW h (by rw[ie];exact w7 ty) (IC ie);refine⟨.agg bR,?_,bR,rfl,ha,h1⟩;simp only[Ò,J,hz,I,run_underlying hd,vH,ij,Ã]
 |_=>exfalso;revert qI oy;cases ty<;>simp[lZ,Ty.agg]
theorem VH{rd:H->BS}{el:Ty}:∀(ps:D (H×Cel)){xs dD:D el.den}{u u':Ups},lu rd el xs u ps=G (dD,u')->∃u2,u'=u++u2
 |[],_,_,u,u',h=>by simp[lu]at h;exact⟨[],by simp[h.2]⟩
 |(i,c)::ps,xs,dD,u,u',h=>by
  simp only[lu]at h;split at h
  .split at h
   .obtain⟨u2,hu⟩:=VH ps h;exact⟨_,by rw[hu,jj]⟩
   .simp at h
  .simp at h
theorem MG{rd:H->BS}(bj:RdF np σ rd)(hB:DP S w γ σ.bx){el:Ty}(bK:0<el.size):∀(ps:D (H×Cel))(vs:D (H×F)){xs dD:D el.den}{u u':Ups},
  All2 (λp v=>p.1=v.1/\cF S w γ σ.bx p.2 v.2) ps vs->lu rd el xs u ps=G (dD,u')->FrzL np σ.bx u->
  FrzL np σ.bx u'/\∀S',ee S w S' w->Froz σ.bx γ S' w u'->∀(css:D (D F))(cells:É F),All2 (λx c=>Rep S' w el x c) xs css->cells.toList=css.flatten->
   ∃bR me,Ú (λi=>G (i*el.size,el.size)) cells vs=G bR/\All2 (λx c=>Rep S' w el x c) dD me/\bR.toList=me.flatten
 |[],[],xs,dD,u,u',_,h,hf=>by
  simp[lu]at h;obtain⟨rfl,rfl⟩:=h;exact⟨hf,λS' _ _ css cells ha hc=>⟨cells,css,rfl,ha,hc⟩⟩
 |(i,c)::ps,(j,v)::vs,xs,dD,u,u',⟨⟨dS,hc⟩,gW⟩,h,hf=>by
  simp only at dS;subst dS;simp only[lu]at h;split at h
  .rename_i x u1 hx;split at h
   .rename_i hi;obtain⟨qK,zI,pI⟩:=DQ bj hB hx hc;obtain⟨hf',dy⟩:=MG bj hB bK ps vs gW h (FrzL.app.2 ⟨hf,qK⟩);obtain⟨u2,Cf⟩:=VH ps h;refine⟨hf',λS' aQ fQ css cells ha dL=>?_⟩;have hrx:=(zI S' w aQ (Froz.app.1 (Froz.app.1 (Cf▸fQ)).1).2).1;have MH:cells.size=xs.length*el.size:=by have:=All2.flatten_length (λx c hx=>Rep.length el x c hx) ha;rw[<-dL]at this;simpa using this
    have Vv:i*el.size+el.size<=xs.length*el.size:=by have:(i+1)*el.size<=xs.length*el.size:=k9 _ aa;rwa[yo]at this
    have pI:v.cells.toList.length=el.size:=pI;have mL:v.cells.size=el.size:=by simpa using pI
    have vA:v.cells.toList.length=v.cells.size:=qm;have ID:=VA cells (i*el.size) v.cells aa;obtain⟨ci,oD⟩:∃ci,css[i]? = G ci:=⟨css[i]'(by rw[<-ha.length];exact hi),jp _⟩;have Ix:=MA (cur:=cells.toList) (n:=xs.length) (c:=0) (zs:=v.cells.toList) (All2.all_len ha) ha.length.symm (by rw[dL,<-dL];exact W (by simp[MH])) oD aa;have fk:ci.length=el.size:=All2.all_len ha ci (kg oD)
    have eU:cells.toList.take (i*el.size)++v.cells.toList++cells.toList.drop (i*el.size+v.cells.size)=(css.set i v.cells.toList).flatten:=by
     have e1:ci.take 0++v.cells.toList++ci.drop (0+v.cells.toList.length)=v.cells.toList:=by rw[jc aa];simp
     rw[e1]at Ix;rw[<-Ix];symm;refine(W ?_).trans ?_
     .simp;omega
     .simp
    obtain⟨bR,me,h1,h2,h3⟩:=dy S' aQ fQ (css.set i v.cells.toList) _ (ha.set i x v.cells.toList hrx) (ID.trans eU);refine⟨bR,me,?_,h2,h3⟩;simp only[Ú];rw[if_neg (by simp[mL];omega)];exact h1
   .simp at h
  .simp at h
 |[],_::_,_,_,_,_,h,_,_=>h.elim
 |_::_,[],_,_,_,_,h,_,_=>h.elim
end
theorem VI{P:À}{t e:Æ}(h:P.underlying t=G (.slice e)):P.elem t=e:=by simp[Program.elem,h]
def VB(d:H)(o:Á F)(i:H):Prop:=(o=Z/\i=d)\/∃k,o=G (.int k (i:Int))
theorem zJ{P:À}{w:Â}{t:Æ}{e s:H}(hd:P.underlying t=G (.slice e))(hs:(sizeOf e).run P w = .ok s w){ad:Á Addr}{len cap i j:H}{lo hi:Á F}
  (iW:VB 0 lo i)(iE:VB len hi j)(dS:i<=j)(hj:j<=cap) :
  (â t (.slice ad len cap) lo hi Z).run P w = .ok (.slice (if cap=i then ad else ad.map (·.add (i*s))) (j-i) (cap-i)) w:=by
 have he:=VI hd;have gU:P.underlying t=G (.slice (P.elem t)):=by rw[he];exact hd
 rw[run_sliceAt_slice w t _ _ _ _ gU];have dt:(sizeOf (P.elem t)).run P w = .ok s w:=by rw[he];exact hs
 rcases iW with⟨rfl,rfl⟩|⟨kl,rfl⟩
 .rcases iE with⟨rfl,rfl⟩|⟨kh,rfl⟩
  .rw[run_slice_all w t ad _ cap gU,dt];simp[Ü,sliced]
  .rw[run_slice_h w t ad len cap gU kh _ aa aa,dt];simp[Ü,sliced]
 .rcases iE with⟨rfl,rfl⟩|⟨kh,rfl⟩
  .rw[run_slice_l w t ad _ cap gU kl _ aa aa,dt];simp[Ü,sliced]
  .rw[run_slice_lh w t ad len cap gU kl kh _ _ aa aa aa,dt];simp[Ü,sliced]
section
variable{N:NT}{np:H}{S0:aU}{w0:Â}{refs:Refs}{σ:St}{a:Ø}{w:Â}{S:aU}{γ:H->F}
theorem VJ{el:Ty}{xs:D el.den}{ad:Á Addr}{cap:H}(h:Rep S w (.list el) xs [.slice ad (Ì xs) cap]){i j:H}(dS:i<=j)(hj:j<=Ì xs) :
  Rep S w (.list el) ((xs.take j).drop i) [.slice (if cap=i then ad else ad.map (·.add (i*el.size))) (j-i) (cap-i)]:=by
 obtain⟨ad',ic,he,hle,l7,hn,hb⟩:=h;simp only[List.cons.injEq,Y,and_true,qr]at he;obtain⟨rfl,rfl⟩:=he;have hlen:((xs.take j).drop i).length=j-i:=ax;refine⟨_,_,by rw[hlen],by rw[hlen];omega,aa,λh=>?_,λb aW=>?_⟩
 .have:ad=none:=by
   split at h
   .exact h
   .simpa using h
  have:=hn this;omega
 .by_cases hc:cap=i
  .rw[if_pos hc]at aW;have hz:(xs.take j).drop i=[]:=kc aa;rw[hz];exact⟨λh=>absurd rfl h,[],trivial,λj v hv=>by simp at hv⟩
  .rw[if_neg hc]at aW;cases ad with
   |none=>simp at aW
   |some b0=>
    simp only[qa,j5]at aW;subst aW;obtain⟨dq,css,ha,hl⟩:=hb b0 rfl;by_cases hx:(xs.take j).drop i=[]
    .rw[hx];exact⟨λh=>absurd rfl h,[],trivial,λj v hv=>by simp at hv⟩
    .have gX:xs≠[]:=λh=>hx (by rw[h];simp);obtain⟨g,o,sp⟩:=b0;have dq:=dq gX;simp at dq;subst dq;have zK:(⟨g,o,Z⟩:Addr).add (i*el.size)=⟨g,o+i*el.size,Z⟩:=Å _ _ _;rw[zK];refine⟨λ_=>rfl,(css.take j).drop i,(ha.take j).drop i,λq v hq=>?_⟩;have fk:=All2.all_len ha;rw[DV i (λc hc=>fk c (qb hc)),w9 j fk,ß,zg]at hq;split at hq
     .have:=hl _ v hq;simpa[Nat.add_assoc]using this
     .simp at hq
def ORep(R:Leaf->F->Prop):Á Leaf->Á F->Prop
 |none,Z=>True
 |some l,G v=>R l v
 |_,_=>False
theorem vI{d:H}{o:Á Leaf}{vo:Á F}{i:Int}{bx:H->BS}(h:bnd d o=G i)(ho:ORep (cA S w γ bx) o vo)(hi:0<=i):VB d vo i.toNat:=by
 unfold bnd at h;split at h
 .cases vo with
  |none=>simp at h;exact .inl ⟨rfl,aa⟩
  |some v=>exact ho.elim
 .cases vo with
  |none=>exact ho.elim
  |some v=>simp at h;rename_i k n;have hv:v = .int k n:=qH (S:=S) (w:=w) ho;refine .inr ⟨k,?_⟩;rw[hv,show (n:Int)=i from h,Int.toNat_of_nonneg hi]
 .simp at h
theorem jxE{P:À}{E:Env}(hT:cT P E.T)(hR:Rel N np S0 w0 refs σ a w S γ){rd:H->BS}(bj:RdOk σ rd){t:Æ}{ti:TyI}(ht:E.T t=G ti)
  {d:H}{x l:Leaf}{lo hi:Á Leaf}{vx:F}{sK um:Á F}{u:Ups}(bu:∀k,jK (rd k)=Ä->σ.bx k = .free)(h:BP (parK np) rd ti d x lo hi=G (Ä,l,u))
  (hx:cA S w γ σ.bx x vx)(iW:ORep (cA S w γ σ.bx) lo sK)(iE:ORep (cA S w γ σ.bx) hi um) :
  ∃v S' γ',(â t vx sK um Z).run P w = .ok v w/\Rel N np S0 w0 refs (σ.upd u) a w S' γ'/\cF S' w γ' (σ.upd u).bx (.one l) v:=by
 unfold BP at h;split at h
 ·-- a datum
  rename_i el xs;split at h
  .rename_i bM;obtain⟨hd,_,te,dn,dp⟩:=pE hT ht bM;have bU:=nR hT dn dp;split at h
   .rename_i i j br iX;simp only[j5,j9,jd,jo]at h;obtain⟨⟨h0,h1,h2⟩,rfl,rfl⟩:=h;have nT:=hx;obtain⟨ad,cap,hv,hle,_⟩:=hx;simp at hv;subst hv;have hlen:((Ì xs:H):Int)=Int.ofNat (Ì xs):=rfl;refine⟨_,S,γ,zJ hd (s:=el.size) ?_ (vI br iW h0) (vI iX iE aa) aa aa,hR,VJ nT aa aa,λ_=>rfl⟩;rw[kB hT dn,bU]
   .simp at h
  .simp at h
 .rename_i k;split at h
  ·-- the tail
   split at h
   .rename_i e el xs f hk;split at h
    .rename_i bM;obtain⟨hd,_,te,dn,dp⟩:=pE hT ht bM;have bU:=nR hT dn dp;split at h
     .rename_i i br;simp only[j5,j9,jd,jo]at h;obtain⟨⟨h0,h1⟩,rfl,rfl⟩:=h;have cG:=bj.nm hk;have hk:=bj.live hk;have hz:=hx.2.2 _ hk;obtain⟨css,aZ,_⟩:=kA cG (hR.box k _ hk)
      obtain⟨ad,cap,hg,dE⟩:∃ad cap,γ k = .slice ad xs.length cap/\xs.length<=cap:=by
       rcases aZ.2 with⟨hg,hn⟩|⟨g,cap,cur,hg,_,_,kD,_⟩
       .exact⟨Z,0,by rw[hg,hn],aa⟩
       .exact⟨_,cap,hg,kD⟩
      have vJ:VB xs.length um xs.length:=by
       cases um with
       |none=>exact .inl ⟨rfl,rfl⟩
       |some v=>exact iE.elim
      subst hz;have aP:=zJ (ad:=ad) (w:=w) hd (s:=el.size) (by rw[kB hT dn,bU]) (vI br iW h0) vJ aa dE;rw[<-hg]at aP;refine⟨_,S,γ,aP,hR,⟨hx.1,rfl,λb hb=>?_⟩,λ_=>rfl⟩;rw[show (σ.upd []).bx k=σ.bx k from rfl,hk]at hb;cases hb;exact⟨cG,aa,ad,cap,hg,rfl⟩
     .simp at h
    .simp at h
   .simp at h
  .rename_i hh;split at h
   .rename_i e el xs f hk;split at h
    .rename_i bM;obtain⟨hd,_,te,dn,dp⟩:=pE hT ht bM;have bU:=nR hT dn dp;split at h
     .rename_i i j br iX;have cG:=bj.nm hk;have hk:=bj.live hk;have hz:=hx.2.2 _ hk;split at h
      ·-- a xb: its head
       split at h
       .rename_i IE;simp only[ã]at IE;subst IE;simp only[j5,j9,jd,jo]at h;obtain⟨⟨h0,h1⟩,rfl,rfl⟩:=h;obtain⟨css,aZ,_⟩:=kA cG (hR.box k _ hk)
        have xc:VB 0 sK 0:=by
         cases sK with
         |none=>exact .inl ⟨rfl,rfl⟩
         |some v=>exact iW.elim
        have vJ:=vI iX iE h0
        obtain⟨ad,cap,hg,dE,had⟩:∃ad cap,γ k = .slice ad xs.length cap/\xs.length<=cap/\(if cap=0 then ad else ad.map (·.add (0*el.size)))=ad:=by
         rcases aZ.2 with⟨hg,hn⟩|⟨g,cap,cur,hg,_,_,kD,_⟩
         .exact⟨Z,0,by rw[hg,hn],aa,rfl⟩
         .exact⟨_,cap,hg,kD,by simp[Å]⟩
        have aP:=zJ (ad:=ad) (w:=w) hd (s:=el.size) (by rw[kB hT dn,bU]) xc vJ aa (show j.toNat<=cap by omega);rw[<-hg,had]at aP;subst hz;refine⟨_,S,γ,aP,hR,⟨hx.1,rfl,λb hb=>?_⟩,λ_=>rfl⟩;rw[show (σ.upd []).bx k=σ.bx k from rfl,hk]at hb;cases hb;exact⟨cG,aa,ad,cap,hg,rfl⟩
       .simp at h
      rename_i pK;have pK:parK np k=false:=by simpa using pK
      split at h
      ·-- cut short
       rename_i gY;simp only[jd,ã,Bool.not_eq_eq_eq_not,jl]at gY;obtain⟨rfl,rfl⟩:=gY;split at h
       .rename_i iN;simp only[j5,j9,jd,jo]at h;obtain⟨⟨h0,h1⟩,rfl,rfl⟩:=h;have DY:=bu d iN;have uh:d≠k:=by rintro rfl;rw[DY]at hk;simp at hk
        obtain⟨css,aZ,aC,hS⟩:=kA cG (hR.box k _ hk);have fk:=All2.all_len aC
        have xc:VB 0 sK 0:=by
         cases sK with
         |none=>exact .inl ⟨rfl,rfl⟩
         |some v=>exact iW.elim
        have vJ:=vI iX iE h0;have bO:=MB hR hk;have pG:(σ.setB k .gone).bx d = .free:=by rw[dO σ _ uh];exact DY
        have oE:j.toNat<=xs.length:=aa;have hcss:css.length=xs.length:=aC.length.symm
        have key:∃v',(â t vx sK um Z).run P w = .ok v' w/\w.ownsRow 0 e el.size v' (U j.toNat xs).length (U j.toNat css).flatten/\blk v'=blk vx:=by
         rw[hz];have an:(U j.toNat xs).length=j.toNat:=ax;rcases aZ.2 with⟨hg,hn⟩|⟨g,cap,cur,hg,_,hh,kD,l7,dB,ff⟩
         .rw[hg];have MI:j.toNat=0:=aa;refine⟨_,zJ hd (s:=el.size) (len:=0) (by rw[kB hT dn,bU]) xc (by rw[hn]at vJ;exact vJ) aa aa,?_,by simp;rfl⟩;rw[MI];simpa using à w 0 e el.size
         .rw[hg];refine⟨_,zJ hd (s:=el.size) (by rw[kB hT dn,bU]) xc vJ aa aa,?_,?_⟩
          .refine⟨?_,.inr ⟨g,cap,cur,?_,kn _,hh,aa,l7,dB,?_⟩⟩
           .rw[w9 _ fk,qo,aZ.1,an];exact È (k9 _ oE)
           .rw[an];by_cases hc:cap=0
            .simp[hc]
            .simp[hc,Å]
           .rw[an,w9 _ fk,<-ff,yk,È (k9 _ oE)]
          .by_cases hc:cap=0
           .simp[hc];rfl
           .simp[hc,Å];rfl
        obtain⟨v',aP,cI,hblk⟩:=key
        have oF:∀g,blk v'=G g->Own w0 refs g/\(∀k' b,(σ.setB k .gone).bx k' = .live b->blk (γ k')≠G g)/\g<w.heap.size:=by
         intro g hg;rw[hblk,hz]at hg;refine⟨?_,λk' b' aW az=>?_,mJ (hR.box k _ hk) hg⟩
         .rcases hR.own k _ g hk hg with h|h
          .exact h
          .rw[pK]at h;simp at h
         .have cH:k'≠k:=by rintro rfl;rw[ix]at aW;simp at aW
          rw[dO σ _ cH]at aW;exact hR.apart k' k _ _ g cH aW hk az hg
        obtain⟨dT,gz⟩:=Cd bO pG (hm:=cG) (w':=w) (S':=S) (v':=v') (e:=e) (el:=el) (zs:=U j.toNat xs) (frz:=O) (css:=U j.toNat css) (.refl S w) (λg hg bA=>rfl) (jv _) oF
         (λg o hs=> .inl hs) rfl rfl rfl cI (aC.take _) (λg hg=>⟨λ_=>(hS g (by rw[<-hz,<-hblk];exact hg)).1 rfl,ae⟩) (λg hg=>hR.kw_live hk (by rw[<-hz,<-hblk];exact hg))
        exact⟨v',S,_,aP,dT,gz⟩
       .simp at h
      ·-- shared
       simp only[j5,j9,jd,jo]at h;obtain⟨⟨h0,h1,h2⟩,rfl,rfl⟩:=h;obtain⟨S',cE,aQ,bV⟩:=Mw hR cG hk pK;have ng:=bV;obtain⟨ad,cap,hv,hle,_⟩:=bV;simp at hv;rw[hv]at ng;refine⟨_,S',γ,by rw[hz,hv];exact zJ hd (s:=el.size) (by rw[kB hT dn,bU]) (vI br iW h0) (vI iX iE aa) aa aa,cE,VJ ng aa aa,λ_=>rfl⟩
     .simp at h
    .simp at h
   .simp at h
 ·-- of a head
  rename_i k m;split at h
  .rename_i e el xs f hk;split at h
   .rename_i bM;obtain⟨bM,hhs⟩:=bM;obtain⟨hd,_,te,dn,dp⟩:=pE hT ht bM;have bU:=nR hT dn dp;split at h
    .rename_i i j br iX;simp only[j5,j9,jd,jo]at h;obtain⟨⟨h0,h1,h2⟩,rfl,rfl⟩:=h;have cG:=bj.nm hk;have hk:=bj.live hk;obtain⟨_,hm,ad,cap,hg,hz⟩:=hx.2.2 _ hk;obtain⟨css,aZ,_⟩:=Ip hg (hR.box k _ hk)
     have dE:xs.length<=cap:=by
      rcases aZ.2 with⟨az,hn⟩|⟨g,ic,cur,az,_,_,kD,_⟩
      .omega
      .rw[hg]at az;simp only[Y,qr]at az;omega
     have vJ:VB m um xs.length:=by
      have:=vI iX iE aa;rw[h2,j8]at this;rcases this with⟨h3,_⟩|h3
      .cases hi with
       |none=>simp at hhs
       |some y=>subst h3;exact iE.elim
      .exact .inr h3
     have aP:=zJ (ad:=ad) (w:=w) hd (s:=el.size) (by rw[kB hT dn,bU]) (vI br iW h0) vJ aa dE;subst hz;refine⟨_,S,γ,aP,hR,⟨hx.1,rfl,λb hb=>?_⟩,λ_=>rfl⟩;rw[show (σ.upd []).bx k=σ.bx k from rfl,hk]at hb;cases hb;exact⟨cG,aa,ad,cap,hg,rfl⟩
    .simp at h
   .simp at h
  .simp at h
 .simp at h
theorem jxF{P:À}{E:Env}(hT:cT P E.T)(hR:Rel N np S0 w0 refs σ a w S γ){rd:H->BS}(bj:RdOk σ rd){t:Æ}{ti:TyI}(ht:E.T t=G ti)
  {x mx:Leaf}{lo hi:Á Leaf}{vx vm:F}{sK um:Á F}(h:BQ rd ti x lo hi mx=G Ä)
  (hx:cA S w γ σ.bx x vx)(iW:ORep (cA S w γ σ.bx) lo sK)(iE:ORep (cA S w γ σ.bx) hi um)(oG:cA S w γ σ.bx mx vm) :
  ∃v,(â t vx sK um (G vm)).run P w = .ok v w:=by
 unfold BQ at h;split at h
 case h_2=>simp at h
 rename_i k k1 i k2 j k3 m;split at h
 case h_2=>simp at h
 rename_i e el xs f hk;split at h
 case isFalse=>simp at h
 rename_i bM;simp only[j5,jd,jo]at h;obtain⟨h0,h1,h2,h3⟩:=h;obtain⟨hd,_,te,dn,dp⟩:=pE hT ht bM;have bU:=nR hT dn dp;have cG:=bj.nm hk;have hk:=bj.live hk;have hz:=hx.2.2 _ hk;cases sK with
 |none=>exact iW.elim
 |some vl=>
 cases um with
 |none=>exact iE.elim
 |some vh=>
 have e1:vl = .int k1 i:=qH (S:=S) (w:=w) iW;have e2:vh = .int k2 j:=qH (S:=S) (w:=w) iE;have e3:vm = .int k3 m:=qH (S:=S) (w:=w) oG;subst e1 e2 e3;obtain⟨css,aZ,_⟩:=kA cG (hR.box k _ hk);have he:=VI hd;have gU:P.underlying t=G (.slice (P.elem t)):=by rw[he];exact hd
 rw[run_sliceAt_slice w t _ _ _ _ gU];have dt:(sizeOf (P.elem t)).run P w = .ok el.size w:=by rw[he];rw[kB hT dn,bU]
 have key:∀ad n cap,(m:Int)<=(cap:H)->∃v,(Instr.slice t (.slice ad n cap) (G (.int k1 i)) (G (.int k2 j)) (G (.int k3 m))).run P w = .ok v w:=by intro ad n cap hc;rw[run_slice_lhm w t ad n cap gU _ _ _ _ _ _ h0 h1 h2 hc,dt];exact⟨_,rfl⟩
 rcases aZ.2 with⟨hg,hn⟩|⟨g,cap,cur,hg,_,hh,kD,_⟩
 .rw[hz,hg];exact key _ _ _ (zb h3 aa)
 .rw[hz,hg];exact key _ _ _ (zb h3 aa)
theorem VK(hR:Rel N np S0 w0 refs σ a w S γ){x:Leaf}{k i e:H}{el:Ty}{xs:D el.den}{f:Ù}{vx:F}(h:Ie x=G (k,i))(cG:isM e=O)(hk:σ.bx k = .live (.lst e el xs f))
  (hx:cA S w γ σ.bx x vx):i<=xs.length/\((xs.length=0/\vx = .slice Z 0 0)\/
   ∃g cap,γ k = .slice (G ⟨g,0,Z⟩) xs.length cap/\xs.length<=cap/\vx = .slice (G ⟨g,if cap=i then 0 else i*el.size,Z⟩) (xs.length-i) (cap-i)):=by
 obtain⟨css,aZ,aC,hS⟩:=kA cG (hR.box k _ hk);unfold Ie at h;split at h
 .simp only[j5,j9]at h;obtain⟨rfl,rfl⟩:=h;have hz:=hx.2.2 _ hk;refine⟨kn _,?_⟩;rcases aZ.2 with⟨hg,hn⟩|⟨g,cap,cur,hg,_,hh,kD,l7,dB,ff⟩
  .exact .inl ⟨hn,by rw[hz,hg]⟩
  .exact .inr ⟨g,cap,hg,kD,by rw[hz,hg];simp⟩
 .rename_i k' i';simp only[j5,j9]at h;obtain⟨rfl,rfl⟩:=h;obtain⟨_,hi,ad,cap,az,hv⟩:=hx.2.2 _ hk;refine⟨hi,?_⟩;rcases aZ.2 with⟨hg,hn⟩|⟨g,ic,cur,hg,_,hh,kD,l7,dB,ff⟩
  .rw[hg]at az;simp only[Y]at az;obtain⟨rfl,_,rfl⟩:=az;exact .inl ⟨hn,by rw[hv];simp;omega⟩
  .rw[hg]at az;simp only[Y,qr]at az;obtain⟨rfl,rfl⟩:=az;refine .inr ⟨g,ic,hg,kD,?_⟩;rw[hv];by_cases hc:ic=i'
   .rw[if_pos hc,if_pos hc]
   .rw[if_neg hc,if_neg hc];simp[Å]
 .simp at h
theorem MJ{P:À}(hR:Rel N np S0 w0 refs σ a w S γ){k i e g cap:H}{el:Ty}{xs zs:D el.den}(hk:σ.bx k = .live (.lst e el xs O))(hg:γ k = .slice (G ⟨g,0,Z⟩) xs.length cap)
  {cz:D (D F)}(hz:All2 (λx c=>Rep S w el x c) zs cz)(hl:i+zs.length<=xs.length) :
  ∃w',(storeCells ⟨g,i*el.size,Z⟩ cz.flatten).run P w = .ok () w'/\Rel N np S0 w0 refs (σ.setB k (.live (.lst e el (U i xs++(zs++Ê (i+zs.length) xs)) O))) a w' S γ:=by
 have cG:=U8 hg (hR.box k _ hk);obtain⟨css,aZ,aC,hS⟩:=kA cG (hR.box k _ hk);have rM:cz.flatten.length=zs.length*el.size:=All2.flatten_length (λx c hx=>Rep.length el x c hx) hz;have h1:∀u∈cz.flatten,One u:=by intro u hu;obtain⟨c,hc,yW⟩:=List.mem_flatten.1 hu;obtain⟨x,_,hx⟩:=hz.mem_right c hc;exact Rep.one el x c hx u yW
 rcases aZ.2 with⟨az,hn⟩|⟨g',ic,cur,az,_,hh,kD,l7,dB,ff⟩
 .rw[hg]at az;simp at az
 rw[hg]at az;simp only[Y,j5,Addr.mk.injEq,and_true,qr]at az;obtain⟨rfl,rfl⟩:=az;have fH:i*el.size+zs.length*el.size<=xs.length*el.size:=by rw[<-Ç];exact k9 _ hl
 have ik:xs.length*el.size<=cap*el.size:=k9 _ kD;have aQ:=run_storeCells_at P g (i*el.size) e cz.flatten 0 cur w hh (by rw[rM,dB];omega) h1;simp only[ò]at aQ;refine⟨_,aQ,?_⟩;have fk:=All2.all_len aC;have MK:=All2.all_len hz;have w8:∀o,¬S g o:=(hS g (by rw[hg];rfl)).1 rfl;refine DR hR hk (by rw[hg];rfl) w8 (b':= .lst e el _ O) ⟨rfl,rfl,λ_=>ax⟩ hh (λkQ cZ=>?_);have hlen:(U i xs++(zs++Ê (i+zs.length) xs)).length=xs.length:=ax;refine DI cG ⟨css.take i++(cz++css.drop (i+zs.length)),⟨?_,.inr ⟨g,cap,_,?_,kn _,setRow_heap w g cur _ e (0,0) hh,by rw[hlen];exact kD,l7,?_,?_⟩⟩,?_,λg' az=>?_⟩
 .rw[hlen,zF (m:=el.size)]
  .have:=aC.length;have:=hz.length;simp only[jf,qo,vi];congr 1;omega
  .intro d hd;simp only[jn]at hd;rcases hd with hd|hd|hd
   .exact fk d (qb hd)
   .exact MK d hd
   .exact fk d (z6 hd)
 .rw[hlen];exact hg
 .simp only[yb,jf,qo,vi,qm];omega
 .rw[hlen];simp only[yq,w9 i fk,DV _ fk,<-ff];have hA:(cur.toList.take (i*el.size)).length=i*el.size:=ax;rw[jj,Ð,hA,W aa,yk,È aa];congr 1;rw[Ð,rM,W aa,Ç];congr 1;rw[ü];congr 1;omega
 .exact((aC.mono (λx c hx=>Rep.keep cZ _ _ _ hx)).take _).append ((hz.mono (λx c hx=>Rep.keep cZ _ _ _ hx)).append ((aC.mono (λx c hx=>Rep.keep cZ _ _ _ hx)).drop _))
 .rw[hg]at az;simp[blk]at az;subst az;exact⟨λ_=>w8,ae⟩
theorem VL{σ:St}{k:H}{b:BS}(h:σ.bx k=b):σ.setB k b=σ:=by
 unfold St.setB;congr 1;funext j;split
 .rename_i hj;subst hj;exact h.symm
 .rfl
theorem jzg{P:À}{E:Env}(hT:cT P E.T)(hR:Rel N np S0 w0 refs σ a w S γ){rd:H->BS}(bj:RdOk σ rd){t ty:Æ}{ti:TyI}(ht:E.T t=G ti)
  {x y l:Leaf}{u:Ups}{vx vy:F}(h:BR rd ti.ty x y=G (l,u))(hx:cA S w γ σ.bx x vx)(hy:cA S w γ σ.bx y vy) :
  ∃v w',(ä #[t,t] ty #[vx,vy]).run P w = .ok v w'/\Rel N np S0 w0 refs (σ.upd u) a w' S γ/\cF S w' γ (σ.upd u).bx (.one l) v:=by
 unfold BR at h;split at h
 .rename_i k i zL;split at h
  .rename_i e el xs hk;split at h
   .rename_i bM;split at h
    .rename_i ys iF;simp only[j5,j9]at h;obtain⟨rfl,rfl⟩:=h;have cG:=bj.nm hk;have hk:=bj.live hk;obtain⟨hd,bK,te,dn,dp⟩:=pE hT ht bM;have bU:=nR hT dn dp;have fR:(sizeOf ti.elem).run P w = .ok el.size w:=by rw[kB hT dn,bU]
     obtain⟨ad,c,cy,Iz,fF,zH,dX⟩:=Vy hR bj iF hy;subst Iz;obtain⟨hi,dj⟩:=VK hR zL cG hk hx;have DZ:=All2.all_len zH;have nU:cy.length=ys.length:=zH.length.symm;have lE:(U (xs.length-i) ys).length=min ys.length (xs.length-i):=ax
     have zM:over xs i ys=U i xs++(U (xs.length-i) ys++Ê (i+(U (xs.length-i) ys).length) xs):=by
      unfold over;congr 2;rw[lE];by_cases h:ys.length<=xs.length-i
      .rw[È h]
      .rw[Nat.min_eq_right aa,jc aa,jc aa]
     have xd:(Ï el.size (min ys.length (xs.length-i)) (.slice ad ys.length c)).run P w = .ok (U (xs.length-i) cy).flatten.toArray w:=by
      cases ad with
      |none=>have h0:=(fF rfl).1;have:cy=[]:=kc aa;subst this;simp[Ï]
      |some b=>
       have e1:(U (xs.length-i) cy).flatten.length=min ys.length (xs.length-i)*el.size:=by rw[zF (m:=el.size) (λc hc=>DZ c (qb hc)),qo,nU,Nat.min_comm]
       have:=run_loadCells_list (P:=P) w b (U (xs.length-i) cy).flatten (λj v hj=>by
        rw[w9 _ DZ,zg]at hj;split at hj
        .exact dX b rfl j v hj
        .simp at hj)
       rw[e1]at this;simpa[Ï]using this
     have aP:∀base dl dc w',vx = .slice base dl dc->dl=xs.length-i->(base=Z->w'=w)->(∀ab,base=G ab->(storeCells ab (U (xs.length-i) cy).flatten).run P w = .ok () w')->
       (ä #[t,t] ty #[vx,.slice ad ys.length c]).run P w = .ok (goInt ((min ys.length (xs.length-i):H):Int)) w':=by
      intro base dl dc w' hv vK fc ib;subst hv vK;have oH:Nat.min ys.length (xs.length-i)=min ys.length (xs.length-i):=rfl;cases base with
      |none=>simp[ä,run_underlying hd,ï,fR,oH,xd,fc rfl]
      |some ab=>simp[ä,run_underlying hd,ï,fR,oH,xd,ib ab rfl]
     by_cases hn:min ys.length (xs.length-i)=0
     .have hz:U (xs.length-i) ys=[]:=kc (by rw[lE];exact hn);have ie:(U (xs.length-i) cy).flatten=[]:=by have:U (xs.length-i) cy=[]:=kc (by rw[qo,nU];omega);rw[this];rfl
      have ML:over xs i ys=xs:=by rw[zM,hz];simp
      refine⟨_,w,?_,?_,⟨rfl,λ_=>rfl⟩⟩
      .rcases dj with⟨h0,hv⟩|⟨g,cap,hg,dE,hv⟩
       .exact aP Z 0 0 w hv aa (λ_=>rfl) (λab cb=>by simp at cb)
       .refine aP _ _ _ w hv rfl (λ_=>rfl) (λab cb=>?_);rw[ie];rfl
      .show Rel N np S0 w0 refs (σ.setB k (.live (.lst e el (over xs i ys) O))) a w S γ;rw[ML,VL hk];exact hR
     .rcases dj with⟨h0,hv⟩|⟨g,cap,hg,dE,hv⟩
      .omega
      .have oD:cap≠i:=aa;rw[if_neg oD]at hv;obtain⟨w',aQ,dT⟩:=MJ (P:=P) hR hk hg (i:=i) (zH.take (xs.length-i)) (by rw[lE];omega);refine⟨_,w',aP _ _ _ w' hv rfl (λh=>by simp at h) (λab cb=>?_),?_,⟨rfl,λ_=>rfl⟩⟩
       .simp only[j5]at cb;subst cb;exact aQ
       .show Rel N np S0 w0 refs (σ.setB k (.live (.lst e el (over xs i ys) O))) a w' S γ;rw[zM];exact dT
    .simp at h
   .simp at h
  .simp at h
 .simp at h
theorem jxG{P:À}{E:Env}(hT:cT P E.T)(hR:Rel N np S0 w0 refs σ a w S γ){rd:H->BS}(bj:RdOk σ rd){t ty:Æ}{ti:TyI}(ht:E.T t=G ti)
  {x:Leaf}{u:Ups}{vx:F}(h:BT rd ti.ty x=G u)(hx:cA S w γ σ.bx x vx) :
  ∃v w',(Ý #[t] ty #[vx]).run P w = .ok v w'/\Rel N np S0 w0 refs (σ.upd u) a w' S γ:=by
 unfold BT at h;split at h
 .rename_i k i zL;split at h
  .rename_i e el xs hk;split at h
   .rename_i bM;simp only[j5]at h;subst h;have cG:=bj.nm hk;have hk:=bj.live hk;obtain⟨hd,bK,te,dn,dp⟩:=pE hT ht bM;have bU:=nR hT dn dp;obtain⟨z,hz,ie⟩:=B6 hT dn w dp;obtain⟨hi,dj⟩:=VK hR zL cG hk hx;by_cases hn:xs.length-i=0
    .have zM:U i xs++M (xs.length-i) el.dflt=xs:=by rw[hn];simp[W (show xs.length<=i by omega)]
     refine⟨.tuple #[],w,?_,?_⟩
     .rcases dj with⟨h0,hv⟩|⟨g,cap,hg,dE,hv⟩
      .simp[Ý,run_underlying hd,hv]
      .rw[hn]at hv;simp[Ý,run_underlying hd,hv]
     .show Rel N np S0 w0 refs (σ.setB k (.live (.lst e el (U i xs++M (xs.length-i) el.dflt) O))) a w S γ;rw[zM,VL hk];exact hR
    .rcases dj with⟨h0,hv⟩|⟨g,cap,hg,dE,hv⟩
     .omega
     .have oD:cap≠i:=aa;rw[if_neg oD]at hv
      have VM:All2 (λx c=>Rep S w el x c) (M (xs.length-i) el.dflt) (M (xs.length-i) (lD el)):=by
       have h0:=rJ (S:=S) (w:=w) el
       have:∀n,All2 (λx c=>Rep S w el x c) (M n el.dflt) (M n (lD el)):=by
        intro n;induction n with
        |zero=>exact trivial
        |succ n ih=>exact⟨h0,ih⟩
       exact this _
      obtain⟨w',aQ,dT⟩:=MJ (P:=P) hR hk hg (i:=i) VM ax;refine⟨.tuple #[],w',?_,?_⟩
      .have hzp:0<z.cells.size:=by have:=ME ie;omega
       have dL:(Builtin.zeroCells z.cells (xs.length-i)).toList=(M (xs.length-i) (lD el)).flatten:=by rw[<-ie];exact VD z.cells (xs.length-i) hzp
       rw[hv];obtain⟨m,hm⟩:∃m,xs.length-i=m+1:=⟨xs.length-i-1,aa⟩;rw[hm]at dL aQ ⊢;simp[Ý,run_underlying hd,hz,dL,aQ]
      .show Rel N np S0 w0 refs (σ.setB k (.live (.lst e el (U i xs++M (xs.length-i) el.dflt) O))) a w' S γ;have:Ê (i+(M (xs.length-i) el.dflt).length) xs=[]:=jc ax;rw[this,ql]at dT;exact dT
   .simp at h
  .simp at h
 .simp at h
theorem jCm{P:À}{E:Env}(hT:cT P E.T)(hR:Rel N np S0 w0 refs σ a w S γ){rd:H->BS}(bj:RdOk σ rd){t ty:Æ}{ti:TyI}(ht:E.T t=G ti){el:Ty}(bM:ti.ty=G (.list el))
  {s x v:Leaf}{u:Ups}{vs vx:F}(h:appH rd ti.elem el s x=G (Ä,v,u))(hs:cA S w γ σ.bx s vs)(hx:cA S w γ σ.bx x vx) :
  ∃z w',(Î #[t,t] ty #[vs,vx]).run P w = .ok z w'/\Rel N np S0 w0 refs (σ.upd u) a w' S γ/\cA S w' γ (σ.upd u).bx v z/\One z:=by
 unfold appH at h;split at h
 case h_2=>simp at h
 rename_i k i k' j;split at h
 case isFalse=>simp at h
 rename_i cH;subst cH;split at h
 case h_2=>simp at h
 rename_i e b xs hk;split at h
 case isFalse=>simp at h
 rename_i hb;obtain⟨hb,he⟩:=hb;subst hb;subst he;simp only[j5,j9,jo]at h;obtain⟨dS,rfl,rfl⟩:=h;obtain⟨hd,_,te,dn,dp⟩:=pE hT ht bM;have bU:=nR hT dn dp;obtain⟨inf,d,hi,_,nf,_⟩:=nQ hT dn;have mf:inf.size=b.size:=by rw[nf,<-bU]
 have cG:=bj.nm hk;have hk:=bj.live hk;obtain⟨_,gC,ad,cap,hg,mL⟩:=hs.2.2 _ hk;obtain⟨_,xe,ad',ic,az,uj⟩:=hx.2.2 _ hk;rw[hg]at az;simp only[Y,qr]at az;obtain⟨rfl,rfl⟩:=az;obtain⟨css,aZ,aC,hS⟩:=Ip hg (hR.box k _ hk);have fk:=All2.all_len aC;have pL:(U i xs++(Ê j xs++Ê (i+(xs.length-j)) xs)).length=xs.length:=ax;have lF:∀(w':Â),cA S w' γ (σ.setB k (.live (.lst ti.elem b (U i xs++(Ê j xs++Ê (i+(xs.length-j)) xs)) O))).bx (.hd k (i+(xs.length-j))) (.slice ad (i+(xs.length-j)) cap):=by intro w';refine⟨by rw[ix];simp,rfl,λb' aW=>?_⟩;rw[ix]at aW;cases aW;exact⟨cG,by rw[pL];omega,ad,cap,by rw[pL];exact hg,rfl⟩
 rcases aZ.2 with⟨iY,hn⟩|⟨g,cap2,cur,iY,_,hh,kD,l7,dB,ff⟩
 .rw[hg]at iY;simp only[Y]at iY;obtain⟨rfl,_,rfl⟩:=iY;have vF:xs=[]:=kc hn;subst vF;have xf:i=0:=by simpa using gC
  have MI:j=0:=by simpa using xe
  subst xf MI;have aP:=run_append_owned_none (P:=P) w 0 t ty ti.elem inf b.size hd hi (.slice Z 0 0) 0 [] (à w 0 ti.elem b.size)
  have hid:σ.setB k (.live (.lst ti.elem b ([]:D b.den) O))=σ:=by
   show St.mk σ.sl _=σ
   have:(λj=>if j=k then BS.live (.lst ti.elem b ([]:D b.den) O) else σ.bx j)=σ.bx:=by
    funext j
    by_cases hj:j=k
    .subst hj;simp[hk]
    .simp[hj]
   rw[this]
  refine⟨_,w,by rw[mL,uj];exact aP,?_,lF w,rfl⟩;show Rel N np S0 w0 refs (σ.setB k (.live (.lst ti.elem b ([]:D b.den) O))) a w S γ;rw[hid];exact hR
 .rw[hg]at iY;simp only[Y,qr]at iY;obtain⟨rfl,rfl⟩:=iY;obtain⟨w',aQ,dT⟩:=MJ (P:=P) (i:=i) hR hk hg (aC.drop j) ax;have rM:(css.drop j).flatten.length=(xs.length-j)*b.size:=by have:=All2.flatten_length (λx c hx=>Rep.length b x c hx) (aC.drop j);simpa using this
  have h1:∀u∈(css.drop j).flatten,One u:=by intro u hu;obtain⟨c,hc,yW⟩:=List.mem_flatten.1 hu;obtain⟨x,_,hx⟩:=(aC.drop j).mem_right c hc;exact Rep.one b x c hx u yW
  have fH:i*b.size+(xs.length-j)*b.size<=xs.length*b.size:=by rw[<-Ç];exact k9 _ aa
  have ik:xs.length*b.size<=cap*b.size:=k9 _ kD;have cZ:=run_storeCells_at P g (i*b.size) _ (css.drop j).flatten 0 cur w hh (by rw[rM,dB];omega) h1;simp only[ò]at cZ;have hw:w'=w.setRow g (cur.toList.take (i*b.size)++(css.drop j).flatten++cur.toList.drop (i*b.size+(css.drop j).flatten.length)).toArray:=by have:=aQ.symm.trans cZ;simpa using this
  have dL:∀q u,(css.drop j).flatten[q]? = G u->w.cell? ((⟨g,if cap=j then 0 else j*b.size,Z⟩:Addr).add q)=G u:=by
   intro q u hq;have VN:q<(xs.length-j)*b.size:=by rw[<-rM];exact(jy.1 hq).1
   have hc:¬cap=j:=by intro hc;have:xs.length-j=0:=aa;rw[this]at VN;simp at VN
   rw[if_neg hc,Å];rw[DV j fk,ß]at hq;have:=aZ.cells (g:=g) (by rw[hg];rfl) _ u hq;rwa[Å,ki]at this
  have aP:=run_append_room (P:=P) w t ty ti.elem inf hd hi g i cap cur (by exact hh) ⟨g,if cap=j then 0 else j*b.size,Z⟩ (xs.length-j) (cap-j) (css.drop j).flatten (by rw[mf];exact rM) dL h1 aa
   (by rw[mf,rM,dB];omega)
  have MM:vx = .slice (G ⟨g,if cap=j then 0 else j*b.size,Z⟩) (xs.length-j) (cap-j):=by
   rw[uj];by_cases hc:cap=j
   .rw[if_pos hc,if_pos hc]
   .rw[if_neg hc,if_neg hc];simp[Å]
  refine⟨_,w',by rw[mL,MM,aP,hw,mf],?_,lF w',rfl⟩;have:(Ê j xs).length=xs.length-j:=ae;rw[this]at dT;exact dT
theorem jCn(hR:Rel N np S0 w0 refs σ a w S γ){k d e m:H}{el:Ty}{xs:D el.den}(hk:σ.bx k = .live (.lst e el xs O))(pK:parK np k=O)(DY:σ.bx d = .free){ad:Á Addr}{cap:H}(hm:m<=xs.length)
  (hg:γ k = .slice ad xs.length cap) :
  ∃γ',Rel N np S0 w0 refs (σ.upd [(k,.gone),(d,.live (.lst e el (U m xs) O))]) a w S γ'/\cF S w γ' (σ.upd [(k,.gone),(d,.live (.lst e el (U m xs) O))]).bx (.one (.ol d)) (.slice ad m cap):=by
 have uh:d≠k:=by rintro rfl;rw[DY]at hk;simp at hk
 have cG:=U8 hg (hR.box k _ hk);obtain⟨css,aZ,aC,hS⟩:=kA cG (hR.box k _ hk);have fk:=All2.all_len aC;have bO:=MB hR hk;have pG:(σ.setB k .gone).bx d = .free:=by rw[dO σ _ uh];exact DY
 have an:(U m xs).length=m:=ax;have hblk:blk (.slice ad m cap)=blk (γ k):=by rw[hg];cases ad<;>rfl
 have cI:w.ownsRow 0 e el.size (.slice ad m cap) (U m xs).length (U m css).flatten:=by
  refine⟨?_,?_⟩
  .rw[w9 _ fk,qo,aZ.1,an];exact È (k9 _ hm)
  .rcases aZ.2 with⟨az,hn⟩|⟨g,ic,cur,az,_,hh,kD,l7,dB,ff⟩
   .rw[hg]at az;simp only[Y]at az;obtain⟨rfl,_,rfl⟩:=az;exact .inl ⟨by rw[show m=0 by omega],aa⟩
   .rw[hg]at az;simp only[Y,qr]at az;obtain⟨rfl,rfl⟩:=az;refine .inr ⟨g,cap,cur,by rw[an],kn _,hh,aa,l7,dB,?_⟩;rw[an,w9 _ fk,<-ff,yk,È (k9 _ hm)]
 have oF:∀g,blk (.slice ad m cap)=G g->Own w0 refs g/\(∀k' b,(σ.setB k .gone).bx k' = .live b->blk (γ k')≠G g)/\g<w.heap.size:=by
  intro g hg;rw[hblk]at hg;refine⟨?_,λk' b' aW az=>?_,mJ (hR.box k _ hk) hg⟩
  .rcases hR.own k _ g hk hg with h|h
   .exact h
   .rw[pK]at h;simp at h
  .have cH:k'≠k:=by rintro rfl;rw[ix]at aW;simp at aW
   rw[dO σ _ cH]at aW;exact hR.apart k' k _ _ g cH aW hk az hg
 obtain⟨dT,gz⟩:=Cd bO pG (hm:=cG) (w':=w) (S':=S) (v':= .slice ad m cap) (e:=e) (el:=el) (zs:=U m xs) (frz:=O) (css:=U m css) (.refl S w) (λg hg bA=>rfl) (jv _) oF
  (λg o hs=> .inl hs) rfl rfl rfl cI (aC.take _) (λg hg=>⟨λ_=>(hS g (by rw[<-hblk];exact hg)).1 rfl,ae⟩) (λg hg=>hR.kw_live hk (by rw[<-hblk];exact hg))
 exact⟨_,dT,gz⟩
end
section
variable{N:NT}{np:H}{S0:aU}{w0:Â}{refs:Refs}{σ:St}{a:Ø}{w:Â}{S:aU}{γ:H->F}
theorem jzh{el:Ty}{z:F}(hz:z.cells.toList=lD el)(n:H)(bK:0<el.size) :
  ∃css,All2 (λx c=>Rep S w el x c) (M n el.dflt) css/\((Ñ (n*z.cells.size)).map (λi=>z.cells[i%z.cells.size]!)).toList=css.flatten:=by
 refine⟨M n (lD el),?_,?_⟩
 .have hz:=rJ (S:=S) (w:=w) el;induction n with
  |zero=>exact trivial
  |succ n ih=>exact⟨hz,ih⟩
 .rw[VD z.cells n (by rw[ME hz];exact bK),hz]
theorem jp3{P:À}{E:Env}(hT:cT P E.T)(hR:Rel N np S0 w0 refs σ a w S γ){rdf:H->BS}(bN:RdF np σ rdf){t:Æ}{ti:TyI}(ht:E.T t=G ti)
  {el:Ty}(bM:ti.ty=G (.list el)){len d:H}{ps:D (H×Cel)}{vs:É (H×F)}{xs:D el.den}{u:Ups}(hlen:len*el.size<=16777216)
  (gW:All2 (λp v=>p.1=v.1/\cF S w γ σ.bx p.2 v.2) ps vs.toList)(h:lu rdf el (M len el.dflt) [] ps=G (xs,u))(hd:σ.bx d = .free) :
  ∃v' w' S' γ',(ç t len vs).run P w = .ok v' w'/\Rel N np S0 w0 refs (σ.upd (u++[(d,.live (.lst ti.elem el xs O))])) a w' S' γ'/\
   cF S' w' γ' (σ.upd (u++[(d,.live (.lst ti.elem el xs O))])).bx (.one (.ol d)) v':=by
 obtain⟨qI,bK,te,dn,dp⟩:=pE hT ht bM;have bU:=nR hT dn dp;obtain⟨hf,dy⟩:=MG bN hR.box bK ps vs.toList gW h .nil;obtain⟨S1,bO,dx,fQ,dZ⟩:=qJ u σ S hR hf;obtain⟨z,hz,ie⟩:=B6 hT dn w dp;have kE:z.cells.size=el.size:=ME ie;obtain⟨MN,D0,jO⟩:=jzh (S:=S1) (w:=w) ie len bK;obtain⟨bR,me,ij,aC,dL⟩:=dy S1 dx fQ MN _ D0 jO
 have nV:xs.length=len:=by
  have key:∀(ps:D (H×Cel)){xs dD:D el.den}{u u':Ups},lu rdf el xs u ps=G (dD,u')->dD.length=xs.length:=by
   intro ps;induction ps with
   |nil=>intro xs dD u u' h;simp[lu]at h;rw[h.1]
   |cons p ps ih=>
    intro xs dD u u' h;obtain⟨i,c⟩:=p;simp only[lu]at h;split at h
    .split at h
     .rw[ih h];simp
     .simp at h
    .simp at h
  rw[key ps h];simp
 have dB:bR.size=len*el.size:=by have:=All2.flatten_length (λx c hx=>Rep.length el x c hx) aC;rw[<-dL,nV]at this;simpa using this
 have hzero:(if len*ti.size=0 then (Pure.pure #[]:Sem (É F)) else (do pure (<-zeroValue ti.elem).cells))=(if len*ti.size=0 then Pure.pure #[] else (do pure (<-zeroValue ti.elem).cells)):=rfl
 have aP:(ç t len vs).run P w = .ok (.slice (G ⟨w.heap.size,0,Z⟩) len len) (w.alloc (.cells bR ti.elem)):=by
  have du:¬len*te.size>2^24:=by rw[<-bU];omega
  simp only[ç,J,run_underlying qI,I,kB hT dn,Sem.run_ite,if_neg du];by_cases h0:len*te.size=0
  .have jH:len=0:=by
    rw[<-bU]at h0;rcases Nat.mul_eq_zero.1 h0 with h|h
    .exact h
    .omega
   subst jH
   have sL:Ú (λi=>G (i*te.size,te.size)) ((Ñ (0*te.size)).map (λi=>(#[]:É F)[i%(#[]:É F).size]!)) vs.toList=G bR:=by
    rw[<-bU];have:((Ñ (0*el.size)).map (λi=>(#[]:É F)[i%(#[]:É F).size]!))=((Ñ (0*z.cells.size)).map (λi=>z.cells[i%z.cells.size]!)):=by apply qs;simp
    rw[this];exact ij
   rw[Nat.zero_mul]at sL;simp only[h0,if_true,Ã,I,sL,J,newRow,run_newObj,Û]
  .have zN:Ú (λi=>G (i*te.size,te.size)) ((Ñ (len*te.size)).map (λi=>z.cells[i%z.cells.size]!)) vs.toList=G bR:=by rw[<-bU];rw[kE]at ij ⊢;exact ij
   simp only[h0,za,J,hz,Ã,I,zN,newRow,run_newObj,Û]
 rw[na];have aQ:=Cb bO (.cells bR ti.elem)
 obtain⟨dT,gz⟩:=Cd bO (dZ.free hd) (hm:=Mk hT ht) (w':=w.alloc (.cells bR ti.elem)) (S':=S1) (v':= .slice (G ⟨w.heap.size,0,Z⟩) len len) (e:=ti.elem) (el:=el) (zs:=xs) (frz:=O) (css:=me)
  aQ (λg hg _=>heap_alloc_old w _ hg) ae (λg hg=>by
   simp[blk]at hg;subst hg;exact⟨.inl hR.grow,λk b hk az=>by have:=mJ (bO.box k b hk) az;omega,ae⟩) (λg o hs=> .inl hs) rfl rfl rfl
  (by
   rw[nV,<-dL];have hle:len<=maxLen:=by have:len*1<=len*el.size:=Nat.mul_le_mul_left _ bK;simp only[maxLen];omega
   exact World.ownsRow_lit w bR len (kn _) hle dB) (aC.mono (λx c hx=>Rep.keep aQ _ _ _ hx)) (λg hg=>by
   simp[blk]at hg;subst hg;exact⟨λ_ o=>It bO o,ae⟩) (λg hg=>by simp[blk]at hg;subst hg;exact bO.kw_new (jv _))
 exact⟨_,_,S1,_,aP,dT,gz⟩
theorem Cg{rd:H->BS}(bj:RdF np σ rd):∀{ls:D Leaf}{xs:D TV}{u:Ups}{zs:D F},tvs rd ls=G (xs,u)->All2 (cA S w γ σ.bx) ls zs->
  FrzL np σ.bx u/\∀S' w',ee S w S' w'->Froz σ.bx γ S' w' u->All2 (λx z=>Rep S' w' x.t x.v [z]) xs zs
 |[],xs,u,zs,h,ha=>by
  simp[tvs]at h;obtain⟨rfl,rfl⟩:=h;cases zs with
  |nil=>exact⟨.nil,λ_ _ _ _=>trivial⟩
  |cons _ _=>exact ha.elim
 |l::ls,xs,u,zs,h,ha=>by
  cases zs with
  |nil=>exact ha.elim
  |cons z zs=>
   simp only[tvs]at h;split at h
   .rename_i IF u1 h1;obtain⟨f1,p1⟩:=Cg bj h1 ha.2;split at h
    .rename_i t v;simp only[j5,j9]at h;obtain⟨rfl,rfl⟩:=h;exact⟨f1,λS' w' hk hf=>⟨Rep.keep hk _ _ _ ha.1,p1 S' w' hk hf⟩⟩
    .rename_i k;split at h
     .rename_i e t es f hk;simp only[j5,j9]at h;obtain⟨rfl,rfl⟩:=h;have bQ:=bj.ok.live hk;refine⟨λx hx=>?_,λS' w' aQ hf=>⟨?_,p1 S' w' aQ (λx hx=>hf x (qt _ hx))⟩⟩
      .rcases je.1 hx with rfl|hx
       .exact⟨bj.par hk,e,t,es,f,bQ,rfl,bj.ok.nm hk⟩
       .exact f1 x hx
      .have:=hf (k,_) (vr ..) e t es f bQ;rw[ha.1.2.2 _ bQ];exact this
     .simp at h
    .simp at h
   .simp at h
theorem juB(hR:Rel N np S0 w0 refs σ a w S γ){k:H}{ls:D Leaf}{f:Ù}(hk:σ.bx k = .live (.cell ls f))(hp:parK np k=O){xs:D TV}
  (hx:∀g cur e,γ k = .pointer (G ⟨g,0,Z⟩)->w.heap[g]? = G (.cells cur e (0,0))->All2 (cA S w γ σ.bx) ls (cur.toList.take ls.length)->All2 (λx z=>Rep S w x.t x.v [z]) xs (cur.toList.take ls.length)) :
  ∃S' g,Rel N np S0 w0 refs (σ.setB k (.live (.cell (xs.map TV.leaf) Ä))) a w S' γ/\ee S w S' w/\γ k = .pointer (G ⟨g,0,Z⟩)/\kN S' w (.p xs) (.pointer (G ⟨g,0,Z⟩)):=by
 obtain⟨g,cur,e,hg,hh,eG,h1,Vu,hS2⟩:=hR.box k _ hk;have gX:=hx g cur e hg hh eG;let S':aU:=λg' o=>S g' o\/(g'=g/\o<cur.size)
 have aQ:ee S w S' w:=λg o h=>⟨.inl h,rfl⟩
 have hle:BxLe γ σ.bx γ (σ.setB k (.live (.cell (xs.map TV.leaf) Ä))).bx:=by
  intro k' bQ;by_cases cH:k'=k
  .subst cH;rw[ix];exact⟨ae,rfl,λb hb=>by simp at hb;subst hb;exact⟨_,hk,trivial⟩⟩
  .rw[dO σ _ cH];exact⟨bQ,rfl,λb hb=>⟨b,hb,.refl b⟩⟩
 have cg:∀k' b,(σ.setB k (.live (.cell (xs.map TV.leaf) Ä))).bx k' = .live b->∃b',σ.bx k' = .live b':=by
  intro k' b hb;by_cases cH:k'=k
  .subst cH;exact⟨_,hk⟩
  .rw[dO σ _ cH]at hb;exact⟨b,hb⟩
 refine⟨S',g,Rel.step (bx':=(σ.setB k (.live (.cell (xs.map TV.leaf) Ä))).bx) hR aQ hle ?_ ?_ ?_ ?_ ?_ hR.below hR.grow hR.os hR.tape hR.output (λg _ _ h=>⟨rfl,λk' b' aW=>by obtain⟨b2,ib⟩:=cg k' b' aW;exact h k' b2 ib⟩),aQ,hg,?_⟩
 .intro k' b hb;by_cases cH:k'=k
  .subst cH;rw[ix]at hb;simp at hb;subst hb;have hl:=Io eG gX;exact⟨g,cur,e,hg,hh,by rw[kj,hl];exact ud (gX.mono (λx z hz=>Rep.keep aQ _ _ _ hz)),by rw[kj,hl];exact h1,ae,λ_ o ho=> .inr ⟨rfl,ho⟩⟩
  .rw[dO σ _ cH]at hb;refine fM.keep aQ hle rfl (λg' az=>⟨rfl,λo=>⟨λhs=>?_,.inl⟩⟩) (hR.box k' b hb);rcases hs with hs|hs
   .exact hs
   .exact absurd (by rw[hg,hs.1];rfl) (hR.apart k' k b _ g' cH hb hk az)
 .intro k' b g' hb az;obtain⟨b',aW⟩:=cg k' b hb;exact hR.own k' b' g' aW az
 .intro k1 k2 b1 b2 g' bA h1 h2 az;obtain⟨u4,mZ⟩:=cg k1 b1 h1;obtain⟨u5,ma⟩:=cg k2 b2 h2;exact hR.apart k1 k2 u4 u5 g' bA mZ ma az
 .intro g' o hs;rcases hs with hs|hs
  .exact hR.new g' o hs
  .rcases hR.own k _ g hk (by rw[hg];rfl) with h|h
   .refine .inr ?_;have:g'=g:=aa;rw[this];exact h
   .rw[hp]at h;simp at h
 .intro g' o hs;rcases hs with hs|hs
  .exact hR.here g' o hs
  .rw[hs.1];exact(ji.1 hh).1
 .refine⟨g,0,cur.toList.take ls.length,rfl,gX.mono (λx z hz=>Rep.keep aQ _ _ _ hz),λj v hv=>?_⟩
  have hv:cur.toList[j]? = G v:=by
   rw[zg]at hv;split at hv
   .exact hv
   .simp at hv
  have hj:j<cur.size:=by simpa using (jy.1 hv).1
  rw[ki];refine⟨.inr ⟨rfl,hj⟩,?_⟩;rw[cell_of_row w g j cur e (0,0) hh];simpa using hv
theorem VO{rd:H->BS}(bj:RdF np σ rd):∀{cs:D Cel}{l:D Cap}{u:Ups}{zs:D F},wP rd cs=G (l,u)->Rel N np S0 w0 refs σ a w S γ->All2 (cF S w γ σ.bx) cs zs->
  ∃S',Rel N np S0 w0 refs (σ.upd u) a w S' γ/\ee S w S' w/\All2 (kN S' w) l zs/\(∀k e t xs f,σ.bx k = .live (.lst e t xs f)->∃f',(σ.upd u).bx k = .live (.lst e t xs f'))/\BxLe γ σ.bx γ (σ.upd u).bx/\∀k,σ.bx k = .free->(σ.upd u).bx k = .free
 |[],l,u,zs,h,hR,ha=>by
  simp[wP]at h;obtain⟨rfl,rfl⟩:=h;cases zs with
  |nil=>exact⟨S,hR,.refl S w,trivial,λk e t xs f h=>⟨f,h⟩,.refl _ _,λ_ h=>h⟩
  |cons _ _=>exact ha.elim
 |c::r,l,u,zs,h,hR,ha=>by
  cases zs with
  |nil=>exact ha.elim
  |cons z zs=>
   simp only[wP]at h;split at h
   .rename_i l1 u1 h1;obtain⟨S1,bO,dx,eX,pI,oI,D1⟩:=VO bj h1 hR ha.2;split at h
    .rename_i t v;split at h
     .rename_i gY;simp only[j5,j9]at h;obtain⟨rfl,rfl⟩:=h;exact⟨S1,bO,dx,⟨⟨gY,Rep.keep dx _ _ _ ha.1.1⟩,eX⟩,pI,oI,D1⟩
     .simp at h
    .rename_i k;split at h
     .rename_i ls f hk;split at h
      .rename_i xs u2 h2;split at h
       .simp at h
       .rename_i mh;simp only[j5,j9]at h;obtain⟨rfl,rfl⟩:=h;have pK:=bj.par hk;have hk:=bj.ok.live hk;have mh:(u1++u2).any (λy=>y.1==k)=false:=z8.2 mh;rw[é,yh]at mh;obtain⟨g,cur,e,hg,hh,eG,_⟩:=hR.box k _ hk;obtain⟨u6,yY⟩:=Cg bj h2 eG;have MO:FrzL np (σ.upd u1).bx u2:=by intro x hx;obtain⟨xg,e',t',dD,f',aW,nT⟩:=u6 x hx;obtain⟨f2,h2⟩:=pI _ e' t' dD f' aW;exact⟨xg,e',t',dD,f2,h2,nT⟩
        obtain⟨S2,cU,cZ,sM,oJ⟩:=qJ u2 (σ.upd u1) S1 bO MO;have D2:Froz σ.bx γ S2 w u2:=by intro x hx e' t' dD f' aW;obtain⟨f2,h2⟩:=pI _ e' t' dD f' aW;exact sM x hx e' t' dD f2 h2
        have gi:((σ.upd u1).upd u2).bx k = .live (.cell ls f):=by rw[pH u2 _ mh.2,pH u1 _ mh.1,hk]
        obtain⟨S3,g3,gI,vL,IG,dE⟩:=juB cU gi pK (xs:=xs) (λg' kR e' az Is _=>by
         rw[hg]at az;simp at az;subst az;rw[hh]at Is;simp at Is;obtain⟨rfl,_⟩:=Is;exact yY S2 w (dx.trans cZ) D2)
        have hz:z=γ k:=by obtain⟨g4,h4,h5⟩:=ha.1.1.2.2 _ hk;rw[h5,h4]
        rw[na,na];refine⟨S3,gI,(dx.trans cZ).trans vL,⟨by rw[hz,IG];exact dE,eX.mono (λx z hx=>kN.keep (cZ.trans vL) hx)⟩,λk' e' t' dD f' aW=>?_,?_,λk' bQ=>?_⟩
        .obtain⟨f2,h2⟩:=pI _ e' t' dD f' aW;obtain⟨f3,h3⟩:=oJ.lst h2;have cH:k'≠k:=by rintro rfl;rw[gi]at h3;simp at h3
         exact⟨f3,by show (((σ.upd u1).upd u2).setB k _).bx k'=_;rw[dO _ _ cH];exact h3⟩
        .have kQ:BxLe γ (σ.upd u1).bx γ ((σ.upd u1).upd u2).bx:=oJ.le
         have MP:BxLe γ ((σ.upd u1).upd u2).bx γ ((((σ.upd u1).upd u2)).setB k (.live (.cell (xs.map TV.leaf) Ä))).bx:=by
          intro k' bQ;by_cases cH:k'=k
          .subst cH;rw[ix];exact⟨ae,rfl,λb hb=>by simp at hb;subst hb;exact⟨_,gi,trivial⟩⟩
          .rw[dO _ _ cH];exact⟨bQ,rfl,λb hb=>⟨b,hb,.refl b⟩⟩
         have tr:∀{b1 b2 b3:H->BS},BxLe γ b1 γ b2->BxLe γ b2 γ b3->BxLe γ b1 γ b3:=by intro b1 b2 b3 zO h23 k' bQ;obtain⟨q1,q2,q3⟩:=zO k' bQ;obtain⟨r1,r2,r3⟩:=h23 k' q1;refine⟨r1,rfl,λb hb=>?_⟩;obtain⟨b',aW,dt⟩:=r3 b hb;obtain⟨MQ,zP,zQ⟩:=q3 b' aW;refine⟨MQ,zP,?_⟩;exact zQ.trans dt
         exact tr (tr oI kQ) MP
        .have h3:=oJ.free (D1 k' bQ);have cH:k'≠k:=by rintro rfl;rw[hk]at bQ;simp at bQ
         show (((σ.upd u1).upd u2).setB k _).bx k'=_;rw[dO _ _ cH];exact h3
      .simp at h
     .simp at h
    .simp at h
   .simp at h
end
section
variable(S:aU)(w:Â)
def D3(ls:D TV)(u:F):Prop:=
 ∃g cur e,u = .pointer (G ⟨g,0,Z⟩)/\w.heap[g]? = G (.cells cur e (0,0))/\All2 (λx z=>Rep S w x.t x.v [z]) ls (cur.toList.take ls.length)/\∀o,¬S g o
def Ci(e:H)(x:TV)(u:F):Prop:=
 ∃(a:Ty)(xs:D a.den),x=⟨.list a,xs⟩/\su S w e a xs u/\∀g,blk u=G g->∀o,¬S g o
def pM:Arg->F->Prop
 |.v x,u=>VRep S w x u
 |.ref ls,u=>D3 S w ls u
 |.rl e x,u=>Ci S w e x u
 |.ip ls,u=>∃g o cs,u = .pointer (G ⟨g,o,Z⟩)/\All2 (λx z=>Rep S w x.t x.v [z]) ls cs/\Lies S w g o cs
 |.clo f bT,u=>∃cv:É F,u = .func (.func f) #[] cv/\All2 (kN S w) bT cv.toList
 |.mv e x,u=>Ci S w e x u/\isM e=O
def mi:Arg->F->Á H
 |.ref _,u=>blk u
 |.rl _ _,u=>blk u
 |.mv _ _,u=>blk u
 |_,_=>Z
def eY:D Arg->D F->D H
 |a::as,u::us=>(mi a u).toList++eY as us
 |_,_=>[]
def mvOf:D Arg->D F->D H
 |.mv _ _::as,u::us=>(blk u).toList++mvOf as us
 |_::as,_::us=>mvOf as us
 |_,_=>[]
def rO:RV->F->Prop
 |.v x,u=>VRep S w x u
 |.own e x,u=>Ci S w e x u
 |.box ls,u=>D3 S w ls u
 |.hd _,u=>One u
 |.clo f bT,u=>∃cv:É F,u = .func (.func f) #[] cv/\All2 (kN S w) bT cv.toList
 |.vn x ns,u=>VRep S w x u/\∀cs,u = .agg cs->∀i∈ns,∀z,cs.toList[i]? = G z->z = .slice Z 0 0
def nW:RV->F->Á H
 |.v _,_=>Z
 |.hd _,_=>Z
 |.vn _ _,_=>Z
 |.clo _ _,_=>Z
 |_,u=>blk u
def gZ:D RV->D F->D H
 |r::rs,u::us=>(nW r u).toList++gZ rs us
 |_,_=>[]
def mM:D Arg->D F->D Out->Prop
 |[],[],[]=>True
 |.ref _::as,u::us,.ref ys::os=>D3 S w ys u/\mM as us os
 |.rl e x::as,u::us,.rl y::os=>Ci S w e y u/\y.t=x.t/\mM as us os
 |.v _::as,_::us,os=>mM as us os
 |.ip _::as,_::us,os=>mM as us os
 |.clo _ _::as,_::us,os=>mM as us os
 |.mv _ _::as,_::us,os=>mM as us os
 |_,_,_=>False
end
def uq(vs:D F):Value:=match vs with
 |[v]=>v
 |vs=> .tuple vs.toArray
def IH:D Arg->D F->Á F
 |.ref _::_,u::_=>G u
 |.rl _ _::_,u::_=>G u
 |_::as,_::us=>IH as us
 |_,_=>Z
structure MR(w:Â)(S:aU)(args:D Arg)(vals:D F)(ret:Ret)(v:F)(w':Â)(S':aU)(vs:D F):Prop where
 val:v=uq vs
 rep:All2 (rO S' w') ret.vals vs
 fresh:∀g∈gZ ret.vals vs,w.heap.size<=g\/g∈mvOf args vals
 apart:(gZ ret.vals vs).Nodup
 outs:mM S' w' args vals ret.outs
 stays:ee S w S' w'
 new:∀g o,S' g o->S g o\/w.heap.size<=g\/g∈mvOf args vals
 here:∀g o,S' g o->g<w'.heap.size
 below:∀g,g<w.heap.size->g∉eY args vals->w'.heap[g]? = w.heap[g]?
 grow:w.heap.size<=w'.heap.size
 os:w'.os=w.os
 tape:w'.tape=w.tape
 output:w'.output=w.output
 head:∀m,ret.vals=[.hd m]->∃ad len cap,IH args vals=G (.slice ad len cap)/\m<=len/\vs=[.slice ad m cap]
def II(P:À)(f:H)(args:D Arg)(K:Ret->Prop):Prop:=
 ∀(w:Â)(S:aU)(vals:D F),All2 (pM S w) args vals->(eY args vals).Nodup->(∀g o,S g o->g<w.heap.size)->
  Calls P f vals.toArray w λe w'=>∃ret,K ret/\∃v S' vs,e = .returned v/\MR w S args vals ret v w' S' vs
def Fun(P:À)(f:H):Prop:=
 ∃ fn, P.funcs[f]? = G fn ∧ fn.body.isNone = O ∧ (fn.name == "runtime.NumGoroutine") = O
def FnOK(P:À)(f:H)(c:D Arg->(R:Type)->(Ret->Á R)->Á R):Prop:=
 ∀(args:D Arg)(R:Type)(k:Ret->Á R)(r:R),c args R k=G r->Fun P f/\II P f args λret=>k ret=G r
def kF(P:À)(C:H->D Arg->(R:Type)->(Ret->Á R)->Á R):Prop:=∀f,FnOK P f (C f)
section
variable{N:NT}{np:H}{S0:aU}{w0:Â}{refs:Refs}{σ:St}{a:Ø}{w:Â}{S:aU}{γ:H->F}
theorem vM{S':aU}{w':Â}:∀(t:Ty)(v:t.den)(cs:D F),t.flat=Ä->Rep S w t v cs->Rep S' w' t v cs
 |.int _,_,_,_,h=>h
 |.bool,_,_,_,h=>h
 |.str,_,_,_,h=>h
 |.unit,_,_,_,h=>h
 |.wrap a,v,cs,hf,h=>vM a v cs hf h
 |.pair a b,_,_,hf,⟨c1,c2,e,h1,h2⟩=>by
  simp only[Ty.flat,jd]at hf;exact⟨c1,c2,e,vM a _ _ hf.1 h1,vM b _ _ hf.2 h2⟩
 |.list _,_,_,hf,_=>by simp[Ty.flat]at hf
 |.arr _ a,_,_,hf,⟨hn,css,ha,e⟩=>⟨hn,css,ha.mono (λx c hx=>vM a x c hf hx),e⟩
def hP(bx:H->BS)(γ:H->F):D Arg->D F->D Bk->Prop
 |[],[],[]=>True
 |.ref ls::as,u::us,.ref k::fs=>u=γ k/\(∃gr,bx k = .live (.cell gr O))/\hP bx γ as us fs
 |.rl e x::as,u::us,.rl k e' t::fs=>e=e'/\u=γ k/\(∃xs,bx k = .live (.lst e t xs O)/\x=⟨.list t,xs⟩)/\hP bx γ as us fs
 |.v _::as,_::us,fs=>hP bx γ as us fs
 |.ip _::as,_::us,fs=>hP bx γ as us fs
 |.clo _ _::as,_::us,fs=>hP bx γ as us fs
 |.mv e x::as,u::us,.mv k e' t::fs=>e=e'/\u=γ k/\(∃xs,bx k = .live (.lst e t xs O)/\x=⟨.list t,xs⟩)/\hP bx γ as us fs
 |_,_,_=>False
theorem jzi{rd rdf:H->BS}(hR:Rel N np S0 w0 refs σ a w S γ)(bj:RdR σ rd)(bN:RdF np σ rdf){t:Á TyI}{mv rl:Ù}{c:Cel}{arg:Arg}{u:Ups}{f:Á Bk}{z:F}
  (h:wQ rd rdf t mv rl c=G (arg,u,f))(hc:cF S w γ σ.bx c z) :
  FrzL np σ.bx u/\hP σ.bx γ [arg] [z] f.toList/\∀S',ee S w S' w->Froz σ.bx γ S' w u->(∀k b,f.toList.any (λy=>y.name==k)=Ä->σ.bx k = .live b->∀g,blk (γ k)=G g->∀o,¬S' g o)->pM S' w arg z:=by
 unfold wQ at h;split at h
 .rename_i k;split at h
  .rename_i ls hk;split at h
   .rename_i xs u1 h1;simp only[j5,j9]at h;obtain⟨rfl,rfl,rfl⟩:=h;have hk:=bj.live hk;obtain⟨g,hg,hz⟩:=hc.1.2.2 _ hk;obtain⟨g',cur,e,az,hh,eG,_,_,hS⟩:=hR.box k _ hk;rw[hg]at az;simp at az;subst az;obtain⟨hf,hp⟩:=Cg bN h1 eG;refine⟨hf,trivial,λS' aQ fQ _=>⟨g,0,cur.toList.take ls.length,hz,hp S' w aQ fQ,λj v hv=>?_⟩⟩
    have hv:cur.toList[j]? = G v:=by
     rw[zg]at hv;split at hv
     .exact hv
     .simp at hv
    have hj:j<cur.size:=by simpa using (jy.1 hv).1
    rw[ki];refine⟨(aQ _ _ (hS rfl j hj)).1,?_⟩;rw[cell_of_row w g j cur e (0,0) hh];simpa using hv
   .simp at h
  .rename_i ls hk;split at h
   .rename_i xs u1 h1;simp only[j5,j9]at h;obtain⟨rfl,rfl,rfl⟩:=h;have hk:=bj.live hk;obtain⟨g,hg,hz⟩:=hc.1.2.2 _ hk;obtain⟨g',cur,e,az,hh,eG,_⟩:=hR.box k _ hk;rw[hg]at az;simp at az;subst az;obtain⟨hf,hp⟩:=Cg bN h1 eG;refine⟨hf,⟨hz.trans hg.symm,⟨ls,hk⟩,trivial⟩,λS' aQ fQ hn=>⟨g,cur,e,hz,hh,by rw[Io eG (hp S' w aQ fQ)];exact hp S' w aQ fQ,?_⟩⟩;exact hn k _ (by simp[Bk.name]) hk g (by rw[hg];rfl)
   .simp at h
  .simp at h
 .simp only[j5,j9]at h;obtain⟨rfl,rfl,rfl⟩:=h;refine⟨.nil,trivial,λS' aQ _ _=>?_⟩;obtain⟨g,o,cs,hz,ha,hl⟩:=hc.1;exact⟨g,o,cs,hz,ha.mono (λx z hx=>Rep.keep aQ _ _ _ hx),hl.keep aQ⟩
 .simp only[j5,j9]at h;obtain⟨rfl,rfl,rfl⟩:=h;refine⟨.nil,trivial,λS' aQ _ _=>?_⟩;obtain⟨cv,hz,ha⟩:=hc.1;exact⟨cv,hz,ha.mono (λx z hx=>kN.keep aQ hx)⟩
 .rename_i k;split at h
  .cases mv with
   |true=>
    rw[j6]at h;split at h
    .rename_i e t xs hk;simp only[j5,j9]at h;obtain⟨rfl,rfl,rfl⟩:=h;have cG:=bN.ok.nm hk;have hk:=bN.ok.live hk;have hz:=hc.1.2.2 _ hk;refine⟨.nil,⟨rfl,hz,⟨xs,hk,rfl⟩,trivial⟩,λS' aQ _ hn=>?_⟩;have fB:=(hR.box k _ hk).1;exact⟨⟨t,xs,rfl,by rw[hz];exact fB.keep aQ (λ_ _=>rfl),λg hg=>hn k _ (by simp[Bk.name]) hk g (by rw[<-hz];exact hg)⟩,cG⟩
    .simp at h
   |false=>
   rw[j7]at h;split at h
   .rename_i e t xs hk;simp only[j5,j9]at h;obtain⟨rfl,rfl,rfl⟩:=h;have hk:=bj.live hk;have hz:=hc.1.2.2 _ hk;refine⟨.nil,⟨rfl,hz,⟨xs,hk,rfl⟩,trivial⟩,λS' aQ _ hn=>?_⟩;have fB:=(hR.box k _ hk).1;exact⟨t,xs,rfl,by rw[hz];exact fB.keep aQ (λ_ _=>rfl),λg hg=>hn k _ (by simp[Bk.name]) hk g (by rw[<-hz];exact hg)⟩
   .simp at h
  .split at h
   .rename_i e t xs fz hk;simp only[j5,j9]at h;obtain⟨rfl,rfl,rfl⟩:=h;have pK:=bN.par hk;have cG:=bN.ok.nm hk;have hk:=bN.ok.live hk;have hz:=hc.1.2.2 _ hk;refine⟨λx hx=>?_,trivial,λS' aQ fQ _=>?_⟩
    .have:=kp.1 hx;subst this;exact⟨pK,e,t,xs,fz,hk,rfl,cG⟩
    .have h1:One z:=hc.2 ae;have:=fQ (k,_) (kp.2 rfl) e t xs fz hk;rw[<-hz]at this;exact⟨by rw[Ca h1];exact this,by simp[jM,Ty.agg],λ_=>h1⟩
   .simp at h
 .split at h
  .split at h
   .rename_i ty bM;split at h
    .rename_i x u1 hx;simp only[j5,j9]at h;obtain⟨rfl,rfl,rfl⟩:=h;obtain⟨hf,hp,_⟩:=DQ bN hR.box hx hc;exact⟨hf,trivial,λS' aQ fQ _=>hp S' w aQ fQ⟩
    .simp at h
   .simp at h
  .simp at h
theorem hP.app{bx:H->BS}{arg:Arg}{z:F}{f:D Bk}:hP bx γ [arg] [z] f->∀{as:D Arg}{us:D F}{fs:D Bk},hP bx γ as us fs->hP bx γ (arg::as) (z::us) (f++fs):=by
 intro h as us fs h';cases arg with
 |v x=>cases f with|nil=>exact h'|cons _ _=>exact h.elim
 |ip x=>cases f with|nil=>exact h'|cons _ _=>exact h.elim
 |clo x y=>cases f with|nil=>exact h'|cons _ _=>exact h.elim
 |ref ls=>
  match f,h with
  |[.ref k],⟨h1,h2,_⟩=>exact⟨h1,h2,h'⟩
  |.ref k::_::_,⟨_,_,h3⟩=>exact h3.elim
 |rl e x=>
  match f,h with
  |[.rl k e' t],⟨h0,h1,h2,_⟩=>exact⟨h0,h1,h2,h'⟩
  |.rl k e' t::_::_,⟨_,_,_,h3⟩=>exact h3.elim
 |mv e x=>
  match f,h with
  |[.mv k e' t],⟨h0,h1,h2,_⟩=>exact⟨h0,h1,h2,h'⟩
  |.mv k e' t::_::_,⟨_,_,_,h3⟩=>exact h3.elim
theorem VP{rd rdf:H->BS}(hR:Rel N np S0 w0 refs σ a w S γ)(bj:RdR σ rd)(bN:RdF np σ rdf){T:H->Á TyI}{mv:Ù}:∀{cs:D Cel}{ts:D H}{ms:D Ù}{as:D Arg}{u:Ups}{fs:D Bk}{zs:D F},
  rz rd rdf T mv ts ms cs=G (as,u,fs)->All2 (cF S w γ σ.bx) cs zs->
  FrzL np σ.bx u/\hP σ.bx γ as zs fs/\∀S',ee S w S' w->Froz σ.bx γ S' w u->(∀k b,fs.any (λy=>y.name==k)=Ä->σ.bx k = .live b->∀g,blk (γ k)=G g->∀o,¬S' g o)->All2 (pM S' w) as zs
 |[],ts,ms,as,u,fs,zs,h,ha=>by
  simp[rz]at h;obtain⟨rfl,rfl,rfl⟩:=h;cases zs with
  |nil=>exact⟨.nil,trivial,λ_ _ _ _=>trivial⟩
  |cons _ _=>exact ha.elim
 |c::cs,ts,ms,as,u,fs,zs,h,ha=>by
  cases zs with
  |nil=>exact ha.elim
  |cons z zs=>
   simp only[rz]at h;split at h
   .rename_i a1 u1 f1 h1;split at h
    .rename_i Im us' VQ h2;simp only[j5,j9]at h;obtain⟨rfl,rfl,rfl⟩:=h;obtain⟨p1,q1,r1⟩:=jzi hR bj bN h1 ha.1;obtain⟨p2,q2,r2⟩:=VP hR bj bN h2 ha.2;refine⟨FrzL.app.2 ⟨p1,p2⟩,q1.app q2,λS' aQ fQ hn=>?_⟩;obtain⟨z1,z2⟩:=Froz.app.1 fQ;exact⟨r1 S' aQ z1 (λk b hk=>hn k b (by rw[é,hk];rfl)),r2 S' aQ z2 (λk b hk=>hn k b (by rw[é,hk];simp))⟩
    .simp at h
   .simp at h
theorem VR:∀{cs:D Cap}{zs:D F},All2 (kN S w) cs zs->All2 (pM S w) (cs.map qF) zs
 |[],[],_=>trivial
 |c::cs,z::zs,h=>by
  refine⟨?_,VR h.2⟩;cases c with
  |v x=>obtain⟨hl,hr⟩:=h.1;have h1:One z:=Rep.one _ _ _ hr z ae;refine⟨by rw[Ca h1];exact hr,λhm=>?_,λ_=>h1⟩;exfalso;obtain⟨t,v⟩:=x;cases t<;>simp_all[Ty.leafy,jM,Ty.agg]
  |p ls=>exact h.1
 |[],_::_,h=>h.elim
 |_::_,[],h=>h.elim
theorem VS:∀(cs:D Cap)(zs:D F),eY (cs.map qF) zs=[]
 |[],_=>by cases ‹D F› <;> rfl
 |c::cs,[]=>rfl
 |c::cs,z::zs=>by cases c<;>simp[eY,mi,qF,VS cs zs]
theorem VT:∀(as:D Arg)(us:D F)(bs:D Arg)(vs:D F),as.length=us.length->eY (as++bs) (us++vs)=eY as us++eY bs vs
 |[],[],bs,vs,_=>rfl
 |a::as,u::us,bs,vs,h=>by simp[eY,VT as us bs vs (by simpa using h)]
 |[],_::_,_,_,h=>by simp at h
 |_::_,[],_,_,h=>by simp at h
theorem xh{bx:H->BS}:∀{as:D Arg}{us:D F}{fs:D Bk},hP bx γ as us fs->eY as us=fs.filterMap λf=>blk (γ f.name)
 |[],[],[],_=>rfl
 |.ref ls::as,u::us,.ref k::fs,⟨h1,_,h3⟩=>by
  simp only[eY,mi,qn,Bk.name,h1,xh h3];cases blk (γ k)<;>rfl
 |.rl e x::as,u::us,.rl k e' t::fs,⟨_,h1,_,h3⟩=>by
  simp only[eY,mi,qn,Bk.name,h1,xh h3];cases blk (γ k)<;>rfl
 |.mv e x::as,u::us,.mv k e' t::fs,⟨_,h1,_,h3⟩=>by
  simp only[eY,mi,qn,Bk.name,h1,xh h3];cases blk (γ k)<;>rfl
 |.v _::as,_::us,fs,h=>by simp[eY,mi,xh (as:=as) (us:=us) (fs:=fs) h]
 |.ip _::as,_::us,fs,h=>by simp[eY,mi,xh (as:=as) (us:=us) (fs:=fs) h]
 |.clo _ _::as,_::us,fs,h=>by simp[eY,mi,xh (as:=as) (us:=us) (fs:=fs) h]
theorem VU:∀{as:D Arg}{us:D F}{g:H},g∈mvOf as us->g∈eY as us
 |[],_,g,h=>by simp[mvOf]at h
 |_::_,[],g,h=>by rename_i a _;cases a<;>simp[mvOf]at h
 |a::as,u::us,g,h=>by
  have ih:=VU (as:=as) (us:=us) (g:=g);cases a with
  |mv e x=>simp only[mvOf,eY,mi,jn]at h ⊢;exact h.imp id ih
  |_=>simp only[mvOf]at h;simp only[eY,jn];exact .inr (ih h)
theorem xi{bx:H->BS}:∀{as:D Arg}{us:D F}{fs:D Bk}{g:H},hP bx γ as us fs->g∈mvOf as us->∃f∈fs,f.isMv=Ä/\blk (γ f.name)=G g
 |[],[],[],g,_,h=>by simp[mvOf]at h
 |.ref ls::as,u::us,.ref k::fs,g,⟨_,_,h3⟩,h=>by
  obtain⟨f,hf,h1⟩:=xi (g:=g) h3 (by simpa only[mvOf]using h);exact⟨f,by simp[hf],h1⟩
 |.rl e x::as,u::us,.rl k e' t::fs,g,⟨_,_,_,h3⟩,h=>by
  obtain⟨f,hf,h1⟩:=xi (g:=g) h3 (by simpa only[mvOf]using h);exact⟨f,by simp[hf],h1⟩
 |.mv e x::as,u::us,.mv k e' t::fs,g,⟨_,h1,_,h3⟩,h=>by
  simp only[mvOf,jn,Option.mem_toList]at h;rcases h with h|h
  .exact⟨.mv k e' t,ae,rfl,by rw[<-h];show blk (γ k)=blk u;rw[h1]⟩
  .obtain⟨f,hf,h1⟩:=xi (g:=g) h3 h;exact⟨f,by simp[hf],h1⟩
 |.v _::as,_::us,fs,g,hb,h=>xi (as:=as) (us:=us) (fs:=fs) hb (by simpa only[mvOf]using h)
 |.ip _::as,_::us,fs,g,hb,h=>xi (as:=as) (us:=us) (fs:=fs) hb (by simpa only[mvOf]using h)
 |.clo _ _::as,_::us,fs,g,hb,h=>xi (as:=as) (us:=us) (fs:=fs) hb (by simpa only[mvOf]using h)
theorem jzk{rd rdf:H->BS}(bN:RdF np σ rdf){t:Á TyI}{mv rl:Ù}{c:Cel}{arg:Arg}{u:Ups}{f:Á Bk}(h:wQ rd rdf t mv rl c=G (arg,u,f)):∀x∈f.toList,x.isMv=Ä->parK np x.name=false:=by
 intro x hx hm;unfold wQ at h;split at h
 .split at h
  .split at h
   .simp only[j5,j9]at h;obtain⟨_,_,rfl⟩:=h;simp at hx
   .simp at h
  .split at h
   .simp only[j5,j9]at h;obtain⟨_,_,rfl⟩:=h;simp at hx;subst hx;simp[Bk.isMv]at hm
   .simp at h
  .simp at h
 .simp only[j5,j9]at h;obtain⟨_,_,rfl⟩:=h;simp at hx
 .simp only[j5,j9]at h;obtain⟨_,_,rfl⟩:=h;simp at hx
 .split at h
  .cases mv with
   |true=>
    rw[j6]at h;split at h
    .rename_i hk;simp only[j5,j9]at h;obtain⟨_,_,rfl⟩:=h;simp at hx;subst hx;exact bN.par hk
    .simp at h
   |false=>
    rw[j7]at h;split at h
    .simp only[j5,j9]at h;obtain⟨_,_,rfl⟩:=h;simp at hx;subst hx;simp[Bk.isMv]at hm
    .simp at h
  .split at h
   .simp only[j5,j9]at h;obtain⟨_,_,rfl⟩:=h;simp at hx
   .simp at h
 .split at h
  .split at h
   .split at h
    .simp only[j5,j9]at h;obtain⟨_,_,rfl⟩:=h;simp at hx
    .simp at h
   .simp at h
  .simp at h
theorem VV{rd rdf:H->BS}(bN:RdF np σ rdf){T:H->Á TyI}{mv:Ù}:∀{cs:D Cel}{ts:D H}{ms:D Ù}{as:D Arg}{u:Ups}{fs:D Bk},
  rz rd rdf T mv ts ms cs=G (as,u,fs)->∀x∈fs,x.isMv=Ä->parK np x.name=O
 |[],ts,ms,as,u,fs,h,x,hx,hm=>by
  simp[rz]at h;obtain⟨rfl,rfl,rfl⟩:=h;simp at hx
 |c::cs,ts,ms,as,u,fs,h,x,hx,hm=>by
  simp only[rz]at h;split at h
  .rename_i a1 u1 f1 h1;split at h
   .rename_i Im us' VQ h2;simp only[j5,j9]at h;obtain⟨rfl,rfl,rfl⟩:=h;rcases jn.1 hx with hx|hx
    .exact jzk bN h1 x hx hm
    .exact VV bN h2 x hx hm
   .simp at h
  .simp at h
theorem ur{bx:H->BS}:∀{as:D Arg}{us:D F}{fs:D Bk},hP bx γ as us fs->∀f∈fs,∃b,bx f.name = .live b
 |[],[],[],_,f,hf=>by simp at hf
 |.ref ls::as,u::us,.ref k::fs,⟨_,⟨gr,h2⟩,h3⟩,f,hf=>by
  rcases je.1 hf with rfl|hf
  .exact⟨_,h2⟩
  .exact ur h3 f hf
 |.rl e x::as,u::us,.rl k e' t::fs,⟨_,_,⟨xs,h2,_⟩,h3⟩,f,hf=>by
  rcases je.1 hf with rfl|hf
  .exact⟨_,h2⟩
  .exact ur h3 f hf
 |.mv e x::as,u::us,.mv k e' t::fs,⟨_,_,⟨xs,h2,_⟩,h3⟩,f,hf=>by
  rcases je.1 hf with rfl|hf
  .exact⟨_,h2⟩
  .exact ur h3 f hf
 |.v _::as,_::us,fs,h,f,hf=>ur (as:=as) (us:=us) (fs:=fs) h f hf
 |.ip _::as,_::us,fs,h,f,hf=>ur (as:=as) (us:=us) (fs:=fs) h f hf
 |.clo _ _::as,_::us,fs,h,f,hf=>ur (as:=as) (us:=us) (fs:=fs) h f hf
theorem D4:∀{l:D H},rA l=Ä->l.Nodup
 |[],_=>vc
 |x::l,h=>by
  simp only[rA,jd,kz,qk,ku]at h;exact qh.2 ⟨h.1,D4 h.2⟩
theorem MS(hR:Rel N np S0 w0 refs σ a w S γ):∀{l:D H},l.Nodup->(∀k∈l,∃b,σ.bx k = .live b)->(l.filterMap λk=>blk (γ k)).Nodup
 |[],_,_=>ae
 |k::l,h,hl=>by
  obtain⟨h1,h2⟩:=qh.1 h;have ih:=MS hR h2 (λk hk=>hl k (by simp[hk]));rw[qn];cases hb:blk (γ k) with
  |none=>exact ih
  |some g=>refine qh.2 ⟨λhm=>?_,ih⟩;obtain⟨k',bQ,az⟩:=v8.1 hm;obtain⟨b,fc⟩:=hl k ae;obtain⟨b',ib⟩:=hl k' (by simp[bQ]);exact hR.apart k k' b b' g (by rintro rfl;exact h1 bQ) fc ib hb az
end
section
variable{N:NT}{np:H}{S0:aU}{w0:Â}{refs:Refs}{σ:St}{a:Ø}{w:Â}{S:aU}{γ:H->F}
theorem D5:∀(u:Ups)(σ:St){k:H}{b:BS},(u.map (·.1)).Nodup->(k,b)∈u->(σ.upd u).bx k=b
 |[],_,_,_,_,h=>by simp at h
 |e::u,σ,k,b,hn,h=>by
  simp only[ke,qh]at hn;show ((σ.setB e.1 e.2).upd u).bx k=_;rcases je.1 h with h|h
  .subst h;rw[pH u,ix];simp only[qz,zi];intro x hx he;exact hn.1 (jr.2 ⟨x,hx,he⟩)
  .exact D5 u _ hn.2 h
theorem jCp{e:H}{m n n':H}{v:F}{w':Â}{xs ys:D F}(h:w.ownsRow 0 e m v n xs)(h':w'.ownsRow 0 e m v n' ys):n=n':=by
 rcases h.2 with⟨e1,e2⟩|⟨g,cap,cur,e1,_⟩<;>rcases h'.2 with⟨f1,f2⟩|⟨g',ic,kR,f1,_⟩
 .rw[e2,f2]
 .rw[e1]at f1;simp at f1
 .rw[e1]at f1;simp at f1
 .rw[e1]at f1;simp at f1;exact f1.2.1
theorem MT{bx:H->BS}{S':aU}{w':Â}{ys:D TV}{k:H}{v:F}(hg:γ k=v)(h:D3 S' w' ys v):fM S' w' γ bx k (.cell (ys.map TV.leaf) O):=by
 obtain⟨g,cur,e,hu,hh,aC,hS⟩:=h;exact⟨g,cur,e,hg.trans hu,hh,by rw[kj];exact ud aC,λu eZ=>by rw[kj]at eZ;obtain⟨x,_,hx⟩:=aC.mem_right u eZ;exact Rep.one _ _ _ hx u ae,λ_=>hS,ae⟩
theorem D6{bx:H->BS}{S':aU}{w':Â}{e:H}{t:Ty}{ys:D t.den}{k:H}{v:F}(hg:γ k=v)(h:Ci S' w' e ⟨.list t,ys⟩ v):fM S' w' γ bx k (.lst e t ys O):=by
 obtain⟨t',xs,hx,cI,hS⟩:=h;cases hx;exact⟨by rw[hg];exact cI,λg az=>⟨λ_=>hS g (by rw[<-hg];exact az),ae⟩⟩
theorem vN{S':aU}{w':Â}(hR:Rel N np S0 w0 refs σ a w S γ):∀{as:D Arg}{zs:D F}{fs:D Bk}{os:D Out}{uo:Ups},hP σ.bx γ as zs fs->mW fs os=G uo->mM S' w' as zs os->
  uo.map (·.1)=fs.map Bk.name/\∀x∈uo,∃b,σ.bx x.1 = .live b/\(x.2 = .gone\/∃b',x.2 = .live b'/\lx b b'/\∀bx',fM S' w' γ bx' x.1 b')
 |[],[],[],[],uo,_,h,_=>by simp[mW]at h;subst h;simp
 |.ref ls::as,u::us,.ref k::fs,.ref ys::os,uo,⟨h1,⟨gr,h2⟩,h3⟩,h,⟨q1,q2⟩=>by
  simp only[mW,Ig]at h;split at h
  .rename_i u' eZ;simp only[j5]at h;subst h;obtain⟨i1,i2⟩:=vN hR h3 eZ q2;refine⟨by simp[i1,Bk.name],λx hx=>?_⟩;rcases je.1 hx with rfl|hx
   .exact⟨_,h2,.inr ⟨_,rfl,trivial,λbx'=>MT h1.symm q1⟩⟩
   .exact i2 x hx
  .simp at h
 |.rl e x::as,u::us,.rl k e' t::fs,.rl y::os,uo,⟨h0,h1,⟨xs,h2,ma⟩,h3⟩,h,⟨q1,q1',q2⟩=>by
  simp only[mW,Ig]at h;split at h
  .rename_i y' B9;split at B9
   .rename_i ys iF;simp only[j5]at B9;subst B9;split at h
    .rename_i u' eZ;simp only[j5]at h;subst h;obtain⟨i1,i2⟩:=vN hR h3 eZ q2;refine⟨by simp[i1,Bk.name],λx hx=>?_⟩;rcases je.1 hx with rfl|hx
     .have:=nS iF;subst this;subst h0;refine⟨_,h2,.inr ⟨_,rfl,⟨rfl,rfl,λhm=>?_⟩,λbx'=>D6 h1.symm q1⟩⟩;obtain⟨css,aZ,_⟩:=kA hm (hR.box k _ h2);obtain⟨me,cI,_⟩:=kA (bx:=σ.bx) hm (D6 h1.symm q1);exact jCp aZ cI
     .exact i2 x hx
    .simp at h
   .simp at B9
  .simp at h
 |.mv e x::as,u::us,.mv k e' t::fs,os,uo,⟨h0,h1,⟨xs,h2,ma⟩,h3⟩,h,q=>by
  simp only[mW]at h;split at h
  .rename_i u' eZ;simp only[j5]at h;subst h;obtain⟨i1,i2⟩:=vN hR h3 eZ (by simpa only[mM]using q);refine⟨by simp[i1,Bk.name],λx hx=>?_⟩;rcases je.1 hx with rfl|hx
   .exact⟨_,h2,.inl rfl⟩
   .exact i2 x hx
  .simp at h
 |.v _::as,_::us,fs,os,uo,h,h',q=>vN (as:=as) (zs:=us) (fs:=fs) hR h h' q
 |.ip _::as,_::us,fs,os,uo,h,h',q=>vN (as:=as) (zs:=us) (fs:=fs) hR h h' q
 |.clo _ _::as,_::us,fs,os,uo,h,h',q=>vN (as:=as) (zs:=us) (fs:=fs) hR h h' q
theorem VW(hR:Rel N np S0 w0 refs σ a w S γ){VX:D H}{S':aU}{w':Â}(aQ:ee S w S' w')(eU:∀g o,S' g o->S g o\/w.heap.size<=g\/g∈VX)(gD:∀g o,S' g o->g<w'.heap.size)
  {as:D Arg}{zs:D F}{fs:D Bk}{os:D Out}{uo:Ups}(D7:∀g∈VX,g∈mvOf as zs)(mj:∀f∈fs,f.isMv=Ä->parK np f.name=O)(dY:hP σ.bx γ as zs fs)(fN:(fs.map Bk.name).Nodup)(ho:mW fs os=G uo)(hq:mM S' w' as zs os)
  (gJ:∀g,g<w.heap.size->g∉eY as zs->w'.heap[g]? = w.heap[g]?)(fT:w.heap.size<=w'.heap.size)(rP:w'.os=w.os)(pN:w'.tape=w.tape)(cd:w'.output=w.output) :
  Rel N np S0 w0 refs (σ.upd uo) a w' S' γ:=by
 obtain⟨lG,zR⟩:=vN hR dY ho hq;have ug:(uo.map (·.1)).Nodup:=by rw[lG];exact fN
 have eP:σ.upd uo={ σ with bx:=(σ.upd uo).bx }:=by have:=B8 uo σ;cases h:σ.upd uo;rw[h]at this;simp only at this;rw[this]
 have dj:∀k,(uo.any (λy=>y.1==k)=O/\(σ.upd uo).bx k=σ.bx k)\/(∃b,σ.bx k = .live b/\(σ.upd uo).bx k = .gone)\/(∃b b',σ.bx k = .live b/\(σ.upd uo).bx k = .live b'/\lx b b'/\∀bx',fM S' w' γ bx' k b'):=by
  intro k;by_cases hk:uo.any (λy=>y.1==k)=Ä
  .right;obtain⟨x,hx,he⟩:=zj.1 hk;have he:x.1=k:=by simpa using he
   subst he;obtain⟨b,h1,h2|⟨b',h2,h3,h4⟩⟩:=zR x hx
   .exact .inl ⟨b,h1,by rw[D5 uo σ ug (b:=x.2) hx,h2]⟩
   .exact .inr ⟨b,b',h1,by rw[D5 uo σ ug (b:=x.2) hx,h2],h3,h4⟩
  .left;have bQ:uo.any (λy=>y.1==k)=false:=z8.2 hk;exact⟨bQ,pH uo σ bQ⟩
 have iO:∀k b,(σ.upd uo).bx k = .live b->∃b',σ.bx k = .live b':=by
  intro k b hb;rcases dj k with⟨_,h⟩|⟨b1,h1,_⟩|⟨b1,b2,h1,_⟩
  .exact⟨b,h▸hb⟩
  .exact⟨b1,h1⟩
  .exact⟨b1,h1⟩
 have hle:BxLe γ σ.bx γ (σ.upd uo).bx:=by
  intro k hk;rcases dj k with⟨_,h⟩|⟨b1,h1,h2⟩|⟨b1,b2,h1,h2,h3,_⟩
  .rw[h];exact⟨hk,rfl,λb hb=>⟨b,hb,.refl b⟩⟩
  .rw[h2];exact⟨ae,rfl,λb hb=>by simp at hb⟩
  .rw[h2];exact⟨ae,rfl,λb hb=>by simp at hb;subst hb;exact⟨b1,h1,h3⟩⟩
 have hrefs:∀g,g∈eY as zs->∃f∈fs,blk (γ f.name)=G g/\∃b,σ.bx f.name = .live b:=by intro g hg;rw[xh dY]at hg;obtain⟨f,hf,qL⟩:=v8.1 hg;exact⟨f,hf,qL,ur dY f hf⟩
 rw[eP]
 refine Rel.step hR aQ hle ?_ ?_ ?_ ?_ gD ?_ (kr hR.grow fT) (rP.trans hR.os) (pN.trans hR.tape) (cd.trans hR.output) (λg hg _ h=>⟨gJ g hg (λhm=>by
  obtain⟨f,hf,qL,b',aW⟩:=hrefs g hm;exact h f.name b' aW qL),λk b hb=>by
  obtain⟨b',aW⟩:=iO k b hb;exact h k b' aW⟩)
 .intro k b hb;rcases dj k with⟨hk,h⟩|⟨b1,h1,h2⟩|⟨b1,b2,h1,h2,h3,h4⟩
  case inr.inl=>rw[h2]at hb;simp at hb
  .rw[h]at hb;refine fM.keep aQ hle rfl (λg hg=>?_) (hR.box k b hb);have sH:=mJ (hR.box k b hb) hg;suffices du:g∉eY as zs from⟨gJ g sH du,λo=>⟨λhs=>(eU g o hs).resolve_right (λh=>h.elim (λh=>aa) λh=>du (VU (D7 g h))),λhs=>(aQ g o hs).1⟩⟩
   intro hm;obtain⟨f,hf,qL,b',aW⟩:=hrefs g hm
   have bA:k≠f.name:=by
    rintro rfl
    have:f.name∈uo.map (·.1):=by rw[lG];exact ð hf
    obtain⟨x,hx,he⟩:=jr.1 this;have:=(qz.1 hk) x hx;simp[he]at this
   exact hR.apart k f.name b b' g bA hb aW hg qL
  .rw[h2]at hb;simp at hb;subst hb;exact h4 _
 .intro k b g hb hg;obtain⟨b',aW⟩:=iO k b hb;exact hR.own k b' g aW hg
 .intro k k' b1 b2 g bA h1 h2 hg;obtain⟨u4,mZ⟩:=iO k b1 h1;obtain⟨u5,ma⟩:=iO k' b2 h2;exact hR.apart k k' u4 u5 g bA mZ ma hg
 .intro g o hs;rcases eU g o hs with h|h|h
  .exact hR.new g o h
  .exact .inr (.inl (kr hR.grow h))
  .obtain⟨f,hf,IJ,qL⟩:=xi dY (D7 g h);obtain⟨b',aW⟩:=ur dY f hf;rcases hR.own f.name b' g aW qL with h|h
   .exact .inr h
   .rw[mj f hf IJ]at h;simp at h
 .intro g hg hr;rw[gJ g (zh hg hR.grow) (λhm=>?_)]
  .exact hR.below g hg hr
  .obtain⟨f,hf,qL,b',aW⟩:=hrefs g hm;rcases hR.own f.name b' g aW qL with h|h
   .exact h.no aa hr
   .exact hr h.1
theorem jzl(hR:Rel N np S0 w0 refs σ a w S γ){d:H}(hd:σ.bx d = .free){v':F}{b:Bx}
  (hv:∀g,blk v'=G g->(Own w0 refs g/\refs.kw g=Z)/\∀k b,σ.bx k = .live b->blk (γ k)≠G g)(hb:fM S w (gset γ d v') (σ.setB d (.live b)).bx d b) :
  Rel N np S0 w0 refs (σ.setB d (.live b)) a w S (gset γ d v')/\BxLe γ σ.bx (gset γ d v') (σ.setB d (.live b)).bx:=by
 have hle:BxLe γ σ.bx (gset γ d v') (σ.setB d (.live b)).bx:=by
  intro k hk;have bA:k≠d:=by rintro rfl;exact hk hd
  rw[dO σ _ bA,iV γ v' bA];exact⟨hk,rfl,λb hb=>⟨b,hb,.refl b⟩⟩
 refine⟨Rel.step (bx':=(σ.setB d (.live b)).bx) hR (.refl S w) hle ?_ ?_ ?_ hR.new hR.here hR.below hR.grow hR.os hR.tape hR.output (λg _ vC h=>⟨rfl,λk b' aW dY=>by
  by_cases hk:k=d
  .subst hk;rw[iD]at dY;exact vC (hv g dY).1.2
  .rw[dO σ _ hk]at aW;rw[iV γ v' hk]at dY;exact h k b' aW dY⟩),hle⟩
 .intro k b' aW;by_cases hk:k=d
  .subst hk;rw[ix]at aW;simp at aW;subst aW;exact hb
  .rw[dO σ _ hk]at aW;exact fM.keep (.refl S w) hle (iV γ v' hk) (λg hg=>⟨rfl,λ_=>Iff.rfl⟩) (hR.box k b' aW)
 .intro k b' g aW hg;by_cases hk:k=d
  .subst hk;rw[iD]at hg;exact .inl (hv g hg).1.1
  .rw[dO σ _ hk]at aW;rw[iV γ v' hk]at hg;exact hR.own k b' g aW hg
 .intro k k' b1 b2 g bA h1 h2 hg az;by_cases hk:k=d
  .subst hk;have bQ:k'≠k:=λh=>bA h.symm;rw[iD]at hg;rw[dO σ _ bQ]at h2;rw[iV γ v' bQ]at az;exact(hv g hg).2 k' b2 h2 az
  .by_cases bQ:k'=d
   .subst bQ;rw[iD]at az;rw[dO σ _ hk]at h1;rw[iV γ v' hk]at hg;exact(hv g az).2 k b1 h1 hg
   .rw[dO σ _ hk]at h1;rw[dO σ _ bQ]at h2;rw[iV γ v' hk]at hg;rw[iV γ v' bQ]at az;exact hR.apart k k' b1 b2 g bA h1 h2 hg az
theorem zS{bx:H->BS}{x:TV}{u:F}(h:VRep S w x u):cF S w γ bx (pD x.t x.v) u:=by
 obtain⟨t,v⟩:=x;obtain⟨h1,h2,h3⟩:=h;refine Mq t v _ u h1 (λhm=>?_) (λha hn=>?_)
 .have:jM t=true:=by
   rcases hm with hm|⟨n,b,rfl⟩
   .cases t<;>simp_all[jM,Ty.agg]
   .rfl
  obtain⟨cs,rfl⟩:=h2 this;simp[Value.cells]
 .have:jM t=false:=by cases t<;>simp_all[jM,Ty.agg]
  exact Ca (h3 this)
theorem VY{n:H}{r:RV}{c:Cel}{u:Ups}(h:Ih n r=G (c,u)):∀x∈u,n<=x.1/\x.1<n+1:=by
 unfold Ih at h;split at h
 .simp only[j5,j9]at h;obtain⟨rfl,rfl⟩:=h;simp
 .simp only[j5,j9]at h;obtain⟨rfl,rfl⟩:=h;simp
 .simp at h
 .simp only[j5,j9]at h;obtain⟨rfl,rfl⟩:=h;simp
 .simp at h
 .split at h<;>(simp only[j5,j9]at h;obtain⟨rfl,rfl⟩:=h;simp)
 .simp only[j5,j9]at h;obtain⟨rfl,rfl⟩:=h;simp
theorem VZ:∀{n:H}{rs:D RV}{cs:D Cel}{u:Ups},wR n rs=G (cs,u)->∀x∈u,n<=x.1
 |n,[],cs,u,h=>by simp[wR]at h;obtain⟨rfl,rfl⟩:=h;simp
 |n,r::rs,cs,u,h=>by
  simp only[wR]at h;split at h
  .rename_i c u1 h1;split at h
   .rename_i MU u2 h2;simp only[j5,j9]at h;obtain⟨rfl,rfl⟩:=h;intro x hx;rcases jn.1 hx with hx|hx
    .exact(VY h1 x hx).1
    .have:=VZ h2 x hx;omega
   .simp at h
  .simp at h
theorem V0{bx:H->BS}{ns:D H}:∀(k:H){ls:D Leaf}{cs:D F},All2 (cA S w γ bx) ls cs->(∀i∈ns,∀z,k<=i->cs[i-k]? = G z->z = .slice Z 0 0)->
  All2 (cA S w γ bx) ((ls.zipIdx k).map λy=>if ns.contains y.2 then .nil else y.1) cs
 |_,[],[],_,_=>trivial
 |k,l::ls,c::cs,h,hn=>by
  refine⟨?_,V0 (k+1) h.2 λi hi z hk hz=>hn i hi z aa ?_⟩
  .by_cases hc:ns.contains k=Ä
   .simp only[hc,if_true];exact hn k (by simpa using hc) c (jv _) ae
   .simp only[hc];exact h.1
  .rw[show i-k=(i-(k+1))+1 by omega];simpa using hz
 |_,[],_::_,h,_=>h.elim
 |_,_::_,[],h,_=>h.elim
theorem V1:∀{rs:D RV}{vs:D F}{n:H}{cs:D Cel}{un:Ups}{σ:St}{γ:H->F},Rel N np S0 w0 refs σ a w S γ->wR n rs=G (cs,un)->All2 (rO S w) rs vs->
  (∀x∈un,σ.bx x.1 = .free)->(gZ rs vs).Nodup->(∀g∈gZ rs vs,(Own w0 refs g/\refs.kw g=Z)/\∀k b,σ.bx k = .live b->blk (γ k)≠G g)->
  ∃γ',Rel N np S0 w0 refs (σ.upd un) a w S γ'/\BxLe γ σ.bx γ' (σ.upd un).bx/\All2 (cF S w γ' (σ.upd un).bx) cs vs
 |[],[],n,cs,un,σ,γ,hR,h,_,_,_,_=>by
  simp[wR]at h;obtain⟨rfl,rfl⟩:=h;exact⟨γ,hR,.refl _ _,trivial⟩
 |r::rs,u::us,n,cs,un,σ,γ,hR,h,ha,bu,fN,hblk=>by
  simp only[wR]at h;split at h
  .rename_i c u1 h1;split at h
   .rename_i MU u2 h2;simp only[j5,j9]at h;obtain⟨rfl,rfl⟩:=h
    have pO:∀(σ1:St)(γ1:H->F),Rel N np S0 w0 refs σ1 a w S γ1->σ1=σ.upd u1->BxLe γ σ.bx γ1 σ1.bx->cF S w γ1 σ1.bx c u->(∀x∈u2,σ1.bx x.1 = .free)->
      (gZ rs us).Nodup->(∀g∈gZ rs us,(Own w0 refs g/\refs.kw g=Z)/\∀k b,σ1.bx k = .live b->blk (γ1 k)≠G g)->
      ∃γ',Rel N np S0 w0 refs (σ.upd (u1++u2)) a w S γ'/\BxLe γ σ.bx γ' (σ.upd (u1++u2)).bx/\All2 (cF S w γ' (σ.upd (u1++u2)).bx) (c::MU) (u::us):=by
     intro σ1 γ1 bO he hle hc hf hn hb;obtain⟨γ',q1,q2,q3⟩:=V1 (σ:=σ1) (γ:=γ1) bO h2 ha.2 hf hn hb;subst he;rw[na];refine⟨γ',q1,?_,cF.keep (.refl S w) q2 hc,q3⟩;intro k hk;obtain⟨a1,a2,a3⟩:=hle k hk;obtain⟨b1,b2,b3⟩:=q2 k a1;refine⟨b1,b2.trans a2,λb hb=>?_⟩;obtain⟨b',aW,dt⟩:=b3 b hb;obtain⟨MQ,zP,zQ⟩:=a3 b' aW;refine⟨MQ,zP,?_⟩;exact zQ.trans dt
    have sN:=VY h1;have zT:=VZ h2
    have eU:∀(v':F)(b:Bx),(nW r u).toList=(blk v').toList->u1=[(n,.live b)]->(∀bx',fM S w (gset γ n v') bx' n b)->(∀bx',(bx' n = .live b)->cF S w (gset γ n v') bx' c u)->
      ∃γ',Rel N np S0 w0 refs (σ.upd (u1++u2)) a w S γ'/\BxLe γ σ.bx γ' (σ.upd (u1++u2)).bx/\All2 (cF S w γ' (σ.upd (u1++u2)).bx) (c::MU) (u::us):=by
     intro v' b ig Cj cY oK;subst Cj;have oL:σ.bx n = .free:=bu (n,.live b) ae;simp only[gZ,ig]at fN hblk;obtain⟨bO,hle⟩:=jzl hR oL (v':=v') (b:=b) (λg hg=>hblk g (by simp[hg])) (cY _);refine pO _ _ bO rfl hle (oK _ (ix _ _ _)) (λx hx=>?_) ?_ (λg hg=>?_)
     .have:=zT x hx;rw[dO σ _ aa];exact bu x (by simp[hx])
     .exact(List.nodup_append.1 fN).2.1
     .obtain⟨p1,p2⟩:=hblk g (by simp[hg]);refine⟨p1,λk b' aW he=>?_⟩;by_cases hk:k=n
      .subst hk;rw[iD]at he;have:=(List.nodup_append.1 fN).2.2 g (by simp[he]) g hg;exact this rfl
      .rw[dO σ _ hk]at aW;rw[iV γ v' hk]at he;exact p2 k b' aW he
    unfold Ih at h1;split at h1
    .rename_i x;simp only[j5,j9]at h1;obtain⟨rfl,rfl⟩:=h1;refine pO σ γ hR rfl (.refl _ _) (zS ha.1) (λx hx=>bu x (by simp[hx])) ?_ ?_
     .simpa[gZ,nW]using fN
     .simpa[gZ,nW]using hblk
    .rename_i e el xs;simp only[j5,j9]at h1;obtain⟨rfl,rfl⟩:=h1;have aZ:Ci S w e ⟨.list el,xs⟩ u:=ha.1;have dQ:One u:=by obtain⟨t',ys,_,cI,_⟩:=aZ;exact cI.one
     exact eU u _ rfl rfl (λbx'=>D6 (iD _ _ _) aZ) (λbx' hb=>⟨⟨by rw[hb];simp,dQ,λb _=>(iD γ n u).symm⟩,λ_=>dQ⟩)
    .simp at h1
    .rename_i ls;simp only[j5,j9]at h1;obtain⟨rfl,rfl⟩:=h1;have D8:D3 S w ls u:=ha.1;obtain⟨g,cur,e,hu,_⟩:=id D8;have dQ:One u:=by rw[hu];rfl
     exact eU u _ rfl rfl (λbx'=>MT (iD _ _ _) D8) (λbx' hb=>⟨⟨by rw[hb];simp,dQ,λb _=>⟨g,by rw[iD,hu],hu⟩⟩,λ_=>dQ⟩)
    .simp at h1
    .rename_i x ns;have hv:VRep S w x u/\∀cs,u = .agg cs->∀i∈ns,∀z,cs.toList[i]? = G z->z = .slice Z 0 0:=ha.1;have uu:cF S w γ σ.bx (pD x.t x.v) u:=zS hv.1
     have hc:cF S w γ σ.bx c u/\u1=[]:=by
      split at h1
      .rename_i ls he;simp only[j5,j9]at h1;obtain⟨rfl,rfl⟩:=h1;rw[he]at uu;obtain⟨cs,hu,aC,dQ⟩:=uu;exact⟨⟨cs,hu,V0 0 aC λi hi z _ hz=>hv.2 cs hu i hi z (by simpa using hz),dQ⟩,rfl⟩
      .simp only[j5,j9]at h1;obtain⟨rfl,rfl⟩:=h1;exact⟨uu,rfl⟩
     obtain⟨hc,rfl⟩:=hc;refine pO σ γ hR rfl (.refl _ _) hc (λx hx=>bu x (by simp[hx])) ?_ ?_
     .simpa[gZ,nW]using fN
     .simpa[gZ,nW]using hblk
    .rename_i f bT;simp only[j5,j9]at h1;obtain⟨rfl,rfl⟩:=h1;obtain⟨cv,hu,aC⟩:∃cv:É F,u = .func (.func f) #[] cv/\All2 (kN S w) bT cv.toList:=ha.1;refine pO σ γ hR rfl (.refl _ _) ⟨⟨cv,hu,aC⟩,λ_=>by rw[hu];rfl⟩ (λx hx=>bu x (by simp[hx])) ?_ ?_
     .simpa[gZ,nW]using fN
     .simpa[gZ,nW]using hblk
   .simp at h
  .simp at h
 |[],_::_,_,_,_,_,_,_,_,ha,_,_,_=>ha.elim
 |_::_,[],_,_,_,_,_,_,_,ha,_,_,_=>ha.elim
end
section
variable{N:NT}{np:H}{S0:aU}{w0:Â}{refs:Refs}{σ:St}{a:Ø}{w:Â}{S:aU}{γ:H->F}
theorem MV{S':aU}{w':Â}:∀(cs:D Cap)(cv:D F)(os:D Out),mM S' w' (cs.map qF) cv os->os=[]
 |[],[],[],_=>rfl
 |[],[],_::_,h=>h.elim
 |[],_::_,_,h=>h.elim
 |c::cs,[],_,h=>by cases c<;>exact h.elim
 |.v _::cs,_::cv,os,h=>MV cs cv os h
 |.p _::cs,_::cv,os,h=>MV cs cv os h
theorem zU{S':aU}{w':Â}{cs:D Cap}{cv:D F}:∀{as:D Arg}{zs:D F}{os:D Out},as.length=zs.length->
  mM S' w' (as++cs.map qF) (zs++cv) os->mM S' w' as zs os
 |[],[],os,_,h=>by
  have:=MV cs cv os h;subst this;trivial
 |.ref ls::as,u::us,.ref ys::os,hl,⟨h1,h2⟩=>⟨h1,zU (by simpa using hl) h2⟩
 |.rl e x::as,u::us,.rl y::os,hl,⟨h1,h2,h3⟩=>⟨h1,h2,zU (by simpa using hl) h3⟩
 |.v _::as,_::us,os,hl,h=>zU (as:=as) (zs:=us) (by simpa using hl) h
 |.ip _::as,_::us,os,hl,h=>zU (as:=as) (zs:=us) (by simpa using hl) h
 |.clo _ _::as,_::us,os,hl,h=>zU (as:=as) (zs:=us) (by simpa using hl) h
 |.mv _ _::as,_::us,os,hl,h=>zU (as:=as) (zs:=us) (by simpa using hl) h
 |[],_::_,_,hl,_=>by simp at hl
 |_::_,[],_,hl,_=>by simp at hl
 |.ref _::_,_::_,[],_,h=>h.elim
 |.ref _::_,_::_,.rl _::_,_,h=>h.elim
 |.rl _ _::_,_::_,[],_,h=>h.elim
 |.rl _ _::_,_::_,.ref _::_,_,h=>h.elim
theorem hP.congr{bx bx':H->BS}:∀{as:D Arg}{us:D F}{fs:D Bk},(∀f∈fs,bx' f.name=bx f.name)->hP bx γ as us fs->hP bx' γ as us fs
 |[],[],[],_,_=>trivial
 |.ref ls::as,u::us,.ref k::fs,hc,⟨h1,⟨gr,h2⟩,h3⟩=>
  ⟨h1,⟨gr,(hc (.ref k) ae).trans h2⟩,hP.congr (λf hf=>hc f (by simp[hf])) h3⟩
 |.rl e x::as,u::us,.rl k e' t::fs,hc,⟨h0,h1,⟨xs,h2,hx⟩,h3⟩=>
  ⟨h0,h1,⟨xs,(hc (.rl k e' t) ae).trans h2,hx⟩,hP.congr (λf hf=>hc f (by simp[hf])) h3⟩
 |.mv e x::as,u::us,.mv k e' t::fs,hc,⟨h0,h1,⟨xs,h2,hx⟩,h3⟩=>
  ⟨h0,h1,⟨xs,(hc (.mv k e' t) ae).trans h2,hx⟩,hP.congr (λf hf=>hc f (by simp[hf])) h3⟩
 |.v _::as,_::us,fs,hc,h=>hP.congr (as:=as) (us:=us) hc h
 |.ip _::as,_::us,fs,hc,h=>hP.congr (as:=as) (us:=us) hc h
 |.clo _ _::as,_::us,fs,hc,h=>hP.congr (as:=as) (us:=us) hc h
theorem Ck{S1 S':aU}{w':Â}(il:∀g o,S g o->S' g o):∀{as:D Arg}{zs:D F}{os:D Out},os.all Out.flat=Ä->mM S' w' as zs os->mM S w' as zs os
 |[],[],[],_,_=>trivial
 |.ref ls::as,u::us,.ref ys::os,hf,⟨⟨g,cur,e,h1,h2,h3,h4⟩,h5⟩=>by
  simp only[å,jd,Out.flat]at hf;refine⟨⟨g,cur,e,h1,h2,?_,λo hs=>h4 o (il g o hs)⟩,Ck (S1:=S1) il hf.2 h5⟩;have hl:=hf.1;clear h1 h2 hf h4 h5;generalize cur.toList.take ys.length=l at h3;induction ys generalizing l with
  |nil=>cases l with|nil=>trivial|cons _ _=>exact h3.elim
  |cons y ys ih=>
   cases l with
   |nil=>exact h3.elim
   |cons z l=>simp only[å,jd]at hl;exact⟨vM _ _ _ hl.1 h3.1,ih hl.2 l h3.2⟩
 |.rl e x::as,u::us,.rl y::os,hf,⟨⟨t,xs,h1,_⟩,_,_⟩=>by
  simp only[å,jd,Out.flat,h1,Ty.flat]at hf;exact absurd hf.1 ae
 |.v _::as,_::us,os,hf,h=>Ck (S1:=S1) (as:=as) (zs:=us) il hf h
 |.ip _::as,_::us,os,hf,h=>Ck (S1:=S1) (as:=as) (zs:=us) il hf h
 |.clo _ _::as,_::us,os,hf,h=>Ck (S1:=S1) (as:=as) (zs:=us) il hf h
 |.mv _ _::as,_::us,os,hf,h=>Ck (S1:=S1) (as:=as) (zs:=us) il hf h
theorem jCq{S S':aU}{w:Â}{e:H}{a:Ty}{xs:D a.den}{u:F}(hf:a.flat=Ä)(h:su S' w e a xs u):su S w e a xs u:=by
 rcases h with⟨hm,css,h1,h2⟩|⟨hm,h1⟩
 .exact .inl ⟨hm,css,h1,h2.mono λx c hx=>vM _ _ _ hf hx⟩
 .refine .inr ⟨hm,?_⟩;revert hf h1;cases a with
  |pair k b=>intro hf h1;simp only[Ty.flat,jd]at hf;obtain⟨g,es,clock,hu,hh,ha,hq⟩:=h1;exact⟨g,es,clock,hu,hh,ha.mono λx e hx=>⟨vM _ _ _ hf.1 hx.1,vM _ _ _ hf.2 hx.2.1,hx.2.2⟩,hq⟩
  |_=>intro _ h1;exact h1.elim
theorem V2{S':aU}{w':Â}(il:∀g o,S g o->S' g o):∀{rs:D RV}{vs:D F},rs.all RV.flat=Ä->All2 (rO S' w') rs vs->All2 (rO S w') rs vs
 |[],[],_,_=>trivial
 |r::rs,v::vs,hf,h=>by
  simp only[å,jd]at hf;have i1:=V2 il hf.2 h.2;cases r with
  |v x=>obtain⟨h1,h2,h3⟩:=h.1;exact⟨⟨vM _ _ _ hf.1 h1,h2,h3⟩,i1⟩
  |own e x=>obtain⟨a,xs,rfl,h1,h2⟩:=h.1;exact⟨⟨a,xs,rfl,jCq hf.1 h1,λg hg o hs=>h2 g hg o (il g o hs)⟩,i1⟩
  |box ls=>simp[RV.flat]at hf
  |hd n=>simp[RV.flat]at hf
  |vn x ns=>simp[RV.flat]at hf
  |clo f cs=>simp[RV.flat]at hf
 |[],_::_,_,h=>h.elim
 |_::_,[],_,h=>h.elim
theorem jCr{rd:H->BS}(bj:RdOk σ rd){un:Ups}(h:un.all (λe=>jK (rd e.1))=Ä):∀x∈un,σ.bx x.1 = .free:=
 λx hx=>bj.free (jz.1 h x hx)
theorem All2.len{α β:Type}{R:α->β->Prop}{as:D α}{bs:D β}(h:All2 R as bs):as.length=bs.length:=h.length
theorem jF2{γ':H->F}{bx:H->BS}{S':aU}{w':Â}{tmv:H->F}{cs:D Cel}{vs:D F}(h:All2 (cF S' w' γ' bx) cs vs) :
  jF S' w' γ' bx tmv (UY cs) (uq vs):=by
 match cs,vs,h with
 |[c],[v],h=>exact h.1
 |[],[],h=>exact⟨#[],rfl,trivial⟩
 |c::c'::cs,v::v'::vs,h=>exact⟨(v::v'::vs).toArray,rfl,by simpa using h⟩
 |[c],v::v'::vs,h=>exact h.2.elim
 |c::c'::cs,[v],h=>exact h.2.elim
 |[],v::vs,h=>exact h.elim
 |c::cs,[],h=>exact h.elim
theorem IK{bx:H->BS}{k e:H}{t:Ty}:∀{as:D Arg}{us:D F}{fs:D Bk},hP bx γ as us (.rl k e t::fs)->∀(bs:D Arg)(vs:D F),IH (as++bs) (us++vs)=G (γ k)
 |.rl e x::as,u::us,fs,⟨_,h1,_,_⟩,bs,vs=>by rw[<-h1];rfl
 |.v _::as,_::us,fs,h,bs,vs=>IK (as:=as) (us:=us) (fs:=fs) h bs vs
 |.ip _::as,_::us,fs,h,bs,vs=>IK (as:=as) (us:=us) (fs:=fs) h bs vs
 |.clo _ _::as,_::us,fs,h,bs,vs=>IK (as:=as) (us:=us) (fs:=fs) h bs vs
 |[],[],fs,h,_,_=>h.elim
 |.ref _::as,_::us,fs,h,_,_=>h.elim
 |.mv _ _::as,_::us,fs,h,_,_=>h.elim
 |[],_::_,fs,h,_,_=>h.elim
 |_::_,[],fs,h,_,_=>by cases ‹Arg› <;> exact h.elim
theorem V3:∀(as:D Arg)(us:D F)(bs:D Arg)(vs:D F),as.length=us.length->mvOf (as++bs) (us++vs)=mvOf as us++mvOf bs vs
 |[],[],bs,vs,_=>rfl
 |a::as,u::us,bs,vs,h=>by
  have ih:=V3 as us bs vs (by simpa using h);cases a<;>simp[mvOf,ih]
 |[],_::_,_,_,h=>by simp at h
 |_::_,[],_,_,h=>by simp at h
theorem V4:∀(cs:D Cap)(zs:D F),mvOf (cs.map qF) zs=[]
 |[],_=>by cases ‹D F› <;> rfl
 |c::cs,[]=>by cases c<;>rfl
 |c::cs,z::zs=>by cases c<;>simp[mvOf,qF,V4 cs zs]
theorem IL:∀{fs:D Bk}{os:D Out}{uo:Ups}{f:Bk},mW fs os=G uo->f∈fs->f.isMv=Ä->(f.name,BS.gone)∈uo
 |[],os,uo,f,_,hf,_=>by simp at hf
 |.mv k e a::fs,os,uo,f,h,hf,hm=>by
  simp only[mW]at h;split at h
  .rename_i u' eZ;simp only[j5]at h;subst h;rcases je.1 hf with rfl|hf
   .exact vr
   .exact qt _ (IL eZ hf hm)
  .simp at h
 |.ref k::fs,[],uo,f,h,hf,hm=>by simp[mW]at h
 |.rl k e a::fs,[],uo,f,h,hf,hm=>by simp[mW]at h
 |.ref k::fs,o::os,uo,f,h,hf,hm=>by
  simp only[mW]at h;split at h
  .split at h
   .rename_i u' eZ;simp only[j5]at h;subst h;rcases je.1 hf with rfl|hf
    .simp[Bk.isMv]at hm
    .exact qt _ (IL eZ hf hm)
   .simp at h
  .simp at h
 |.rl k e a::fs,o::os,uo,f,h,hf,hm=>by
  simp only[mW]at h;split at h
  .split at h
   .rename_i u' eZ;simp only[j5]at h;subst h;rcases je.1 hf with rfl|hf
    .simp[Bk.isMv]at hm
    .exact qt _ (IL eZ hf hm)
   .simp at h
  .simp at h
theorem jxH{P:À}(hR:Rel N np S0 w0 refs σ a w S γ){rw rd rdf:H->BS}(pP:RdR σ rw)(bj:RdOk σ rd)(bN:RdF np σ rdf){T:H->Á TyI}{ts:D H}{ms:D Ù}{cs:D Cel}{as:D Arg}{us:Ups}{fs:D Bk}{zs:D F}
  {mv:Ù}(h:rz rw rdf T mv ts ms cs=G (as,us,fs))(ha:All2 (cF S w γ σ.bx) cs zs)(bP:bkOk us fs=Ä)
  {bT:D Cap}{cv:D F}(lI:All2 (kN S w) bT cv){g:H}{K:Ret->Prop}
  (eQ:II P g (as++bT.map qF) K)(n:H) :
  Calls P g (zs++cv).toArray w λe w'=>∃ret,K ret/\∀s u,yO rd rdf n us fs ret=G (s,u)->∃v S' γ',e = .returned v/\Rel N np S0 w0 refs (σ.upd u) a w' S' γ'/\jF S' w' γ' (σ.upd u).bx (tm a) s v:=by
 obtain⟨fm,dY,sA⟩:=VP hR pP bN h ha;simp only[bkOk,jd]at bP;obtain⟨fN,zV⟩:=bP;have fN:=D4 fN
 have hlen:as.length=zs.length:=by
  have:∀{as:D Arg}{us:D F}{fs:D Bk},hP σ.bx γ as us fs->as.length=us.length:=by
   intro as;induction as with
   |nil=>intro us fs hh;cases us with|nil=>rfl|cons _ _=>exact hh.elim
   |cons a as ih=>
    intro us fs hh;cases us with
    |nil=>cases a<;>exact hh.elim
    |cons u us=>
     cases a with
     |v x=>have:=ih (us:=us) (fs:=fs) hh;simp[this]
     |ip x=>have:=ih (us:=us) (fs:=fs) hh;simp[this]
     |clo x y=>have:=ih (us:=us) (fs:=fs) hh;simp[this]
     |ref ls=>match fs,hh with|.ref k::fs,⟨_,_,h3⟩=>have:=ih h3;simp[this]
     |rl e x=>match fs,hh with|.rl k e' t::fs,⟨_,_,_,h3⟩=>have:=ih h3;simp[this]
     |mv e x=>match fs,hh with|.mv k e' t::fs,⟨_,_,_,h3⟩=>have:=ih h3;simp[this]
  exact this dY
 obtain⟨S1,bO,dx,jQ,dZ⟩:=qJ us σ S hR fm;have D9:∀k,k∈fs.map Bk.name->us.any (λy=>y.1==k)=false:=by intro k hk;rw[qz];intro x hx he;have:=jz.1 zV x hx;simp only[zi]at he;subst he;simp only[kz,qk,ku]at this;exact this hk
 have sP:∀f∈fs,(σ.upd us).bx f.name=σ.bx f.name:=λf hf=>pH us σ (D9 _ (ð hf));have zW:=dY.congr sP
 have qM:∀k b,fs.any (λy=>y.name==k)=Ä->σ.bx k = .live b->∀g,blk (γ k)=G g->∀o,¬S1 g o:=by
  intro k b hk hb g hg o;obtain⟨f,hf,he⟩:=zj.1 hk;have he:f.name=k:=by simpa using he
  subst he;have fc:(σ.upd us).bx f.name = .live b:=(sP f hf).trans hb;have cY:=bO.box f.name b fc
  have nh:(∃gr,b = .cell gr O)\/(∃e t xs,b = .lst e t xs O):=by
   have:∀{as:D Arg}{us:D F}{fs:D Bk},hP σ.bx γ as us fs->f∈fs->(∃gr,σ.bx f.name = .live (.cell gr O))\/(∃e t xs,σ.bx f.name = .live (.lst e t xs O)):=by
    intro as;induction as with
    |nil=>intro us fs hh hm;match us,fs,hh with|[],[],_=>simp at hm
    |cons a as ih=>
     intro us fs hh hm;cases us with
     |nil=>cases a<;>exact hh.elim
     |cons u us=>
      cases a with
      |v x=>exact ih (us:=us) (fs:=fs) hh hm
      |ip x=>exact ih (us:=us) (fs:=fs) hh hm
      |clo x y=>exact ih (us:=us) (fs:=fs) hh hm
      |ref ls=>
       match fs,hh with
       |.ref k::fs,⟨_,⟨gr,h2⟩,h3⟩=>
        rcases je.1 hm with rfl|hm
        .exact .inl ⟨gr,h2⟩
        .exact ih h3 hm
      |rl e x=>
       match fs,hh with
       |.rl k e' t::fs,⟨_,_,⟨xs,h2,_⟩,h3⟩=>
        rcases je.1 hm with rfl|hm
        .exact .inr ⟨_,t,xs,h2⟩
        .exact ih h3 hm
      |mv e x=>
       match fs,hh with
       |.mv k e' t::fs,⟨_,_,⟨xs,h2,_⟩,h3⟩=>
        rcases je.1 hm with rfl|hm
        .exact .inr ⟨_,t,xs,h2⟩
        .exact ih h3 hm
   rcases this dY hf with⟨gr,h2⟩|⟨e,t,xs,h2⟩
   .rw[hb]at h2;simp at h2;exact .inl ⟨gr,h2⟩
   .rw[hb]at h2;simp at h2;exact .inr ⟨e,t,xs,h2⟩
  rcases nh with⟨gr,rfl⟩|⟨e,t,xs,rfl⟩
  .obtain⟨g',cur,e,az,_,_,_,hS,_⟩:=cY;rw[az]at hg;simp[blk]at hg;subst hg;exact hS rfl o
  .exact(cY.2 g hg).1 rfl o
 have fC:All2 (pM S1 w) as zs:=sA S1 dx jQ qM;have Ea:All2 (pM S1 w) (bT.map qF) cv:=VR (lI.mono (λx z hx=>kN.keep dx hx));have hrefs:eY (as++bT.map qF) (zs++cv)=eY as zs:=by rw[VT _ _ _ _ hlen,VS,ql]
 have vO:(eY as zs).Nodup:=by rw[xh dY];have:=MS hR fN (λk hk=>by obtain⟨f,hf,rfl⟩:=jr.1 hk;exact ur dY f hf);rwa[List.filterMap_map]at this
 refine(eQ w S1 (zs++cv) (fC.append Ea) (by rw[hrefs];exact vO) bO.here).mono ?_
 rintro e w' ⟨ret,hK,v,S',vs,rfl,dr⟩
 refine⟨ret,hK,λs u cV=>?_⟩;obtain⟨dJ,bV,sQ,oM,fU,ml,eU,gD,gJ,fT,rP,pN,cd,sR⟩:=dr;rw[hrefs]at gJ;have MW:mvOf (as++bT.map qF) (zs++cv)=mvOf as zs:=by rw[V3 _ _ _ _ hlen,V4,ql]
 rw[MW]at sQ eU;have mj:∀f∈fs,f.isMv=Ä->parK np f.name=false:=VV bN h;have fU:=zU hlen fU;refine⟨v,?_⟩;unfold yO at cV;split at cV
 ·-- the list MX first,cut short
  rename_i m IM;unfold mkHd at cV;generalize gK:ret.outs=ro at cV fU;split at cV
  .rename_i k e el VQ y rQ _;split at cV
   .rename_i uo ys sS iF;split at cV
    .rename_i dR;simp only[jd]at dR;simp only[j5,j9]at cV;obtain⟨rfl,rfl⟩:=cV;have cU:=VW bO ml eU gD (λ_ h=>h) mj zW fN sS fU gJ fT rP pN cd;obtain⟨lG,pQ⟩:=vN bO zW sS fU;have ug:(uo.map (·.1)).Nodup:=by rw[lG];exact fN
     have MY:(k,BS.live (.lst e el ys O))∈uo:=by
      simp only[mW,Ig,iF]at sS;split at sS
      .simp only[j5]at sS;rw[<-sS];exact vr
      .simp at sS
     have gi:=D5 uo (σ.upd us) ug MY;obtain⟨bl,xj⟩:=DN dR.2;have pK:=bN.par xj;have h0:=bj.free dR.1;have h1:(σ.upd us).bx n = .free:=dZ.free h0;have oO:((σ.upd us).upd uo).bx n = .free:=by rw[pH uo,h1];rw[qz];intro y hy he;simp only[zi]at he;obtain⟨b0,h2,_⟩:=pQ y hy;rw[he,h1]at h2;simp at h2
     obtain⟨ad,len,cap,iN,zX,mL⟩:=sR m IM;have Cl:γ k = .slice ad len cap:=by have:=IK dY (bT.map qF) cv;rw[iN]at this;simpa using this.symm
     have pL:len=ys.length:=by
      obtain⟨css,aZ,_⟩:=Ip Cl (cU.box k _ gi);rcases aZ.2 with⟨az,hn⟩|⟨g,ic,cur,az,_⟩
      .rw[Cl]at az;simp only[Y]at az;omega
      .rw[Cl]at az;simp only[Y]at az;omega
     obtain⟨γ',dT,gz⟩:=jCn cU gi pK oO (m:=m) aa (by rw[Cl,pL]);refine⟨S',γ',rfl,by rw[na,na];exact dT,?_⟩;rw[dJ,mL,na,na];exact gz
    .simp at cV
   .simp at cV
  .simp at cV
 split at cV
 .rename_i uo sS;split at cV
  .rename_i Eb un mN;split at cV
   .rename_i bu;have bu:=jCr bj bu
    have eJ:∀(mm:Ups)(Sx Sy:aU),(mm=us\/mm=[])->Rel N np S0 w0 refs (σ.upd mm) a w Sx γ->ee Sx w Sy w'->(∀g o,Sy g o->Sx g o\/w.heap.size<=g\/g∈mvOf as zs)->(∀g o,Sy g o->g<w'.heap.size)->
      mM Sy w' as zs ret.outs->All2 (rO Sy w') ret.vals vs->
      ∃S' γ',Rel N np S0 w0 refs (σ.upd (mm++uo++un)) a w' S' γ'/\All2 (cF S' w' γ' (σ.upd (mm++uo++un)).bx) Eb vs:=by
     intro mm Sx Sy vP vQ zY Ec zZ xk Ed
     have vR:hP (σ.upd mm).bx γ as zs fs:=by
      rcases vP with rfl|rfl
      .exact zW
      .exact dY
     have cU:=VW vQ zY Ec zZ (λ_ h=>h) mj vR fN sS xk gJ fT rP pN cd;obtain⟨lG,pQ⟩:=vN vQ vR sS xk
     have sT:∀k b,((σ.upd mm).upd uo).bx k = .live b->∃b',(σ.upd mm).bx k = .live b':=by
      intro k b hb;by_cases hk:uo.any (λy=>y.1==k)=Ä
      .obtain⟨x,hx,he⟩:=zj.1 hk;have he:x.1=k:=by simpa using he
       subst he;obtain⟨b0,h0,_⟩:=pQ x hx;exact⟨b0,h0⟩
      .rw[pH uo _ (z8.2 hk)]at hb;exact⟨b,hb⟩
     have oO:∀x∈un,((σ.upd mm).upd uo).bx x.1 = .free:=by
      intro x hx;have h0:=bu x hx
      have h1:(σ.upd mm).bx x.1 = .free:=by
       rcases vP with rfl|rfl
       .exact dZ.free h0
       .exact h0
      rw[pH uo,h1];rw[qz];intro y hy he;simp only[zi]at he;obtain⟨b0,h2,_⟩:=pQ y hy;rw[he,h1]at h2;simp at h2
     obtain⟨γ',gI,_,oK⟩:=V1 cU mN Ed oO oM (λg hg=>by
      rcases sQ g hg with rL|hgm
      .refine⟨⟨.inl (kr hR.grow rL),hR.kw_new rL⟩,λk b hb he=>?_⟩;obtain⟨b',aW⟩:=sT k b hb;have:=mJ (vQ.box k b' aW) he;omega
      .obtain⟨f,hf,IJ,qL⟩:=xi vR hgm;obtain⟨bf,Cm⟩:=ur vR f hf;refine⟨⟨?_,vQ.kw_live Cm qL⟩,λk b hb he=>?_⟩
       .rcases vQ.own f.name bf g Cm qL with h|h
        .exact h
        .rw[mj f hf IJ]at h;simp at h
       .obtain⟨b',aW⟩:=sT k b hb
        have hkf:k≠f.name:=by
         rintro rfl
         have Ee:=IL sS hf IJ;rw[D5 uo (σ.upd mm) (by rw[lG];exact fN) Ee]at hb;simp at hb
        exact vQ.apart k f.name b' bf g hkf aW Cm he qL)
     refine⟨Sy,γ',?_,?_⟩
     .rw[na,na];exact gI
     .rw[na,na];exact oK
    have dj:∃mm,(mm=us\/mm=[])/\mm=(if ret.vals.all RV.flat&&ret.outs.all Out.flat then [] else us)/\
      ∃S' γ',Rel N np S0 w0 refs (σ.upd (mm++uo++un)) a w' S' γ'/\All2 (cF S' w' γ' (σ.upd (mm++uo++un)).bx) Eb vs:=by
     by_cases ni:(ret.vals.all RV.flat&&ret.outs.all Out.flat)=Ä
     .refine⟨[],.inr rfl,by rw[if_pos ni],?_⟩;obtain⟨qK,u6⟩:=Bool.and_eq_true_iff.1 ni;have il:∀g o,S g o->S' g o:=λg o hs=>(ml g o (dx g o hs).1).1
      refine eJ [] S S (.inr rfl) hR (λg o hs=>⟨hs,(ml g o (dx g o hs).1).2⟩) (λg o hs=> .inl hs) (λg o hs=>zh (hR.here g o hs) fT)
       (Ck (S1:=S1) il u6 fU) (V2 il qK bV)
     .exact⟨us,.inl rfl,by rw[if_neg ni],eJ us S1 S' (.inl rfl) bO ml eU gD fU bV⟩
    obtain⟨mm,_,vP,S2,γ2,cU,xl⟩:=dj
    have hs:s=UY Eb/\u=(if ret.vals.all RV.flat&&ret.outs.all Out.flat then [] else us)++uo++un:=by
     clear xl eJ cU mN;revert cV;match Eb with
     |[c]=>simp only[j5,j9];rintro⟨rfl,rfl⟩;exact⟨rfl,rfl⟩
     |[]=>simp only[j5,j9];rintro⟨rfl,rfl⟩;exact⟨rfl,rfl⟩
     |c::c'::r=>simp only[j5,j9];rintro⟨rfl,rfl⟩;exact⟨rfl,rfl⟩
    obtain⟨rfl,rfl⟩:=hs;rw[<-vP];exact⟨S2,γ2,rfl,cU,by rw[dJ];exact jF2 xl⟩
   .simp at cV
  .simp at cV
 .simp at cV
theorem IP{P:À}{f:H}(hf:Fun P f){o:Oper}{cl:Call}(ho:o.op = .call cl){x:ø}(hc:cl.callee = .value x){cv:É F}(hx:a.eval x = .func (.func f) #[] cv) :
  (execOp a.eval o).run P w = .ok (.enter f (cl.args.map a.eval++cv)) w:=by
 obtain⟨fn,h1,h2,h3⟩:=hf;have ma:¬fn.body=none:=λhn=>by rw[hn]at h2;simp at h2
 have xm : ¬ fn.name = "runtime.NumGoroutine" := by simpa using h3
 simp[execOp,ho,resolve,hc,Deferred.ofValue,hx,invoke,callFunc,h1,ma,xm]
end
section
variable{N:NT}{np:H}{S0:aU}{w0:Â}{refs:Refs}{σ:St}{a:Ø}{w:Â}{S:aU}{γ:H->F}
def keyV:(k:Ty)->k.den->F
 |.int q,n=> .int q n
 |.str,s=> .string s
 |_,_=>undef
theorem Cn:∀{k:Ty}{x:k.den}{u:F},k.isKey=Ä->(Rep S w k x [u]↔u=keyV k x)
 |.int q,x,u,_=>by simp[Rep,keyV]
 |.str,x,u,_=>by simp[Rep,keyV]
 |.bool,_,_,h=>by simp[Ty.isKey]at h
 |.unit,_,_,h=>by simp[Ty.isKey]at h
 |.wrap _,_,_,h=>by simp[Ty.isKey]at h
 |.pair _ _,_,_,h=>by simp[Ty.isKey]at h
 |.list _,_,_,h=>by simp[Ty.isKey]at h
 |.arr _ _,_,_,h=>by simp[Ty.isKey]at h
def keyD:Ty->TypeDesc
 |.int q=> .int q
 |_=> .string
theorem jCs{P:À}{T:H->Á TyI}(hT:cT P T){n:H}{ti:TyI}(hn:T n=G ti){k:Ty}(bM:ti.ty=G k)(hk:k.isKey=Ä):P.underlying n=G (keyD k):=by
 cases k with
 |int q=>exact Ml hT hn bM
 |str=>exact Mv hT hn bM
 |_=>simp[Ty.isKey]at hk
theorem V5{k:Ty}(hk:k.isKey=Ä)(x:k.den):MapKept.IsKey (keyD k) (keyV k x):=by
 cases k with
 |int q=>rfl
 |str=>trivial
 |_=>simp[Ty.isKey]at hk
theorem M0{k:Ty}(hk:k.isKey=Ä)(x y:k.den):ñ (keyD k) (keyV k x) (keyV k y)=G (@BEq.beq _ k.keq x y):=by
 cases k with
 |int q=>simp[keyD,keyV,ñ]
 |str=>simp[keyD,keyV,ñ]
 |_=>simp[Ty.isKey]at hk
theorem jGf{k:Ty}(hk:k.isKey=Ä){x y:k.den}(h:@BEq.beq _ k.keq x y=Ä):x=y:=by
 cases k with
 |int q=>simpa[Ty.keq]using h
 |str=>exact(æ x y).1 h
 |_=>simp[Ty.isKey]at hk
theorem V6{k:Ty}(hk:k.isKey=Ä)(x:k.den):ì 10000 (keyV k x) (keyV k x)=true:=by
 cases k with
 |int q=>simp[keyV,ì]
 |str=>simp only[keyV,ì];exact(æ x x).2 rfl
 |_=>simp[Ty.isKey]at hk
def Aa(S:aU)(w:Â)(k v:Ty)(x:k.den×v.den)(e:û):Prop:=Rep S w k x.1 [e.key]/\VRep S w ⟨v,x.2⟩ e.val
theorem M1{k v:Ty}(hk:k.isKey=Ä)(q:k.den):∀{xs:D (k.den×v.den)}{es:D û},All2 (Aa S w k v) xs es->∀i:H,
  (@ej _ _ k.keq xs q=Ä/\∃j e,Ó (keyD k) (keyV k q) es i=G (G (i+j,e.val))/\es[j]? = G e/\e.key=keyV k q/\VRep S w ⟨v,@di _ _ k.keq v.dflt xs q⟩ e.val/\
   ∀(z:v.den)(e':û),e'.key=keyV k q->VRep S w ⟨v,z⟩ e'.val->All2 (Aa S w k v) (@eD _ _ k.keq xs q z) (es.set j e'))\/
  (@ej _ _ k.keq xs q=O/\Ó (keyD k) (keyV k q) es i=G Z/\@di _ _ k.keq v.dflt xs q=v.dflt/\∀z,@eD _ _ k.keq xs q z=xs++[(q,z)])
 |[],[],_,i=> .inr ⟨rfl,rfl,rfl,λ_=>rfl⟩
 |x::xs,e::es,h,i=>by
  have uv:e.key=keyV k x.1:=(Cn hk).1 h.1.1;have hs:=M0 hk q x.1;rw[<-uv]at hs;cases hb:@BEq.beq _ k.keq q x.1 with
  |true=>
   rw[hb]at hs;have hqx:=jGf hk hb;refine .inl ⟨by simp[ej,hb],0,e,by simp[Ó,hs],rfl,by rw[uv,hqx],?_,λz e' h1 h2=>?_⟩
   .simp only[di,hb,j6];exact h.1.2
   .simp only[eD,hb,j6,Þ];exact⟨⟨(Cn hk).2 h1,h2⟩,h.2⟩
  |false=>
   rw[hb]at hs;rcases M1 hk q h.2 (i+1) with⟨h1,j,e',h2,h3,h4,h5,h6⟩|⟨h1,h2,h3,h4⟩
   .refine .inl ⟨by simp only[ej,yc,hb,qu];exact h1,j+1,e',by simp only[Ó,hs,h2];congr 3;omega,by simpa using h3,h4,?_,λz e2 g1 g2=>?_⟩
    .simp only[di,hb,j7];exact h5
    .simp only[eD,hb,j7,List.set_cons_succ];exact⟨h.1,h6 z e2 g1 g2⟩
   .refine .inr ⟨by simp only[ej,yc,hb,qu];exact h1,by simp only[Ó,hs,h2],?_,λz=>?_⟩
    .simp only[di,hb,j7];exact h3
    .simp only[eD,hb,j7,h4 z];rfl
 |[],_::_,h,_=>h.elim
 |_::_,[],h,_=>h.elim
theorem V7{k v:Ty}(hk:k.isKey=Ä){q:k.den}:∀{xs:D (k.den×v.den)}{es:D û},All2 (Aa S w k v) xs es->@ej _ _ k.keq xs q=O->∀e∈es,e.key≠keyV k q
 |[],[],_,_=>ae
 |x::xs,e::es,h,hn=>by
  simp only[ej,yc,yh]at hn;intro e' Co;rcases je.1 Co with rfl|Co
  .intro hq;have uv:=(Cn hk).1 h.1.1;have hs:=M0 hk q x.1;rw[<-uv,hq,M0 hk q q,hn.1]at hs;simp only[j5]at hs;have:=V6 hk q;cases k with
   |int z=>simp at hs
   |str=>have:=(æ q q).2 rfl;exact absurd (hs.symm.trans this) ae
   |_=>simp[Ty.isKey]at hk
  .exact V7 hk h.2 hn.2 e' Co
 |[],_::_,h,_=>h.elim
 |_::_,[],h,_=>h.elim
theorem M3{P:À}{T:H->Á TyI}(hT:cT P T){t:H}{k v:Ty}(h:sj T t=G (k,v)) :
  ∃kt vt tv,P.underlying t=G (.map kt vt)/\P.underlying kt=G (keyD k)/\k.isKey=Ä/\T vt=G tv/\tv.ty=G v:=by
 unfold sj at h;split at h
 .rename_i ti wZ;split at h
  .rename_i k0 v0 M4;split at h
   .rename_i tk tv lJ Cp;split at h
    .rename_i k1 v1 dW Ef;split at h
     .rename_i nj;simp only[j5,j9]at h;obtain⟨rfl,rfl⟩:=h;exact⟨k0,v0,tv,jET hT wZ M4,jCs hT lJ dW nj,nj,Cp,Ef⟩
     .simp at h
    .simp at h
   .simp at h
  .simp at h
 .simp at h
theorem V8{rw:H->BS}(pP:RdR σ rw){t:H}{k v:Ty}{x y:Leaf}{b:H}{ys:D (k.den×v.den)}{q:k.den}(h:mapC rw t k v x y=G (b,ys,q)) :
  x = .ol b/\y = .d k q/\σ.bx b = .live (.lst (4294967296+t) (.pair k v) ys O):=by
 unfold mapC at h;split at h
 .rename_i b0 tk key;split at h
  .rename_i e a0 xs hb;split at h
   .rename_i he;split at h
    .rename_i L8 q' h1 h2;simp only[j5,j9]at h;obtain⟨rfl,rfl,rfl⟩:=h;have e1:=nS h1;have e2:=nS h2;cases e1;cases e2;subst he;exact⟨rfl,rfl,pP.live hb⟩
    .simp at h
   .simp at h
  .simp at h
 .simp at h
theorem Eg(t:H):isM (4294967296+t)=true:=by
 unfold isM;rw[Nat.ble_eq];exact Nat.le_add_right _ _
theorem V9(hR:Rel N np S0 w0 refs σ a w S γ){b t:H}{k v:Ty}{ys:D (k.den×v.den)}{f:Ù}(hb:σ.bx b = .live (.lst (4294967296+t) (.pair k v) ys f)) :
  ∃g es clock,γ b = .map (G g)/\w.heap[g]? = G (.map es clock)/\All2 (Aa S w k v) ys es.toList/\wX es clock:=by
 have h:=(hR.box b _ hb).1;rcases h with⟨hm,_⟩|⟨_,g,es,clock,h1,h2,h3,h4⟩
 .rw[Eg]at hm;simp at hm
 .exact⟨g,es,clock,h1,h2,h3,h4⟩
theorem jzq{P:À}{T:H->Á TyI}(hT:cT P T){n:H}{ti:TyI}(hn:T n=G ti){t:Ty}(bM:ti.ty=G t):∃z,(zeroValue n).run P w = .ok z w/\VRep S w ⟨t,t.dflt⟩ z:=by
 obtain⟨i,d,hi,hd,hs,_,ha,_,h⟩:=nQ hT hn;obtain⟨_,⟨z,hz,hc⟩,hdo⟩:=h t bM;have Wa:=jCe hT hn hi hd;refine⟨z,by simp[zeroValue,typeInfo,hi,hz],?_,?_,?_⟩
 .rw[hc];exact rJ t
 .intro hm;have:aggD d=true:=by cases d<;>cases t<;>simp_all[lZ,jM,aggD,Ty.agg]
  simp only[zOk,hz]at Wa;cases z<;>simp_all
 .intro hm;have:aggD d=false:=by cases d<;>cases t<;>simp_all[lZ,jM,aggD,Ty.agg]
  simp only[zOk,hz]at Wa;cases z<;>first|rfl|simp_all
theorem juC{P:À}{E:Env}(hT:cT P E.T)(hR:Rel N np S0 w0 refs σ a w S γ){rw:H->BS}(pP:RdR σ rw){t:H}{k v:Ty}(ht:sj E.T t=G (k,v)){x y:Leaf}{b:H}{ys:D (k.den×v.den)}{q:k.den}
  (h:mapC rw t k v x y=G (b,ys,q)){zx zy:F}(hx:cA S w γ σ.bx x zx)(hy:cA S w γ σ.bx y zy) :
  ∃z,VRep S w ⟨v,@di _ _ k.keq v.dflt ys q⟩ z/\∀ok,(ó t zx zy ok).run P w = .ok (if ok then .tuple #[z,.bool (@ej _ _ k.keq ys q)] else z) w:=by
 obtain⟨kt,vt,tv,gL,Ab,nj,Cp,Eh⟩:=M3 hT ht;obtain⟨rfl,rfl,hb⟩:=V8 pP h;obtain⟨g,es,clock,hg,hh,ha,_⟩:=V9 hR hb;have Ac:zx = .map (G g):=(hx.2.2 _ hb).trans hg;have Ei:zy=keyV k q:=(Cn nj).1 hy;subst Ac;subst Ei;have gj:=í (w:=w) Ab (V5 nj q) es.isEmpty 9999;rcases M1 nj q ha 0 with⟨h1,j,e,h2,h3,h4,h5,h6⟩|⟨h1,h2,h3,h4⟩
 .refine⟨e.val,h5,λok=>?_⟩;have hf:=Í (w:=w) Ab h2;simp only[ó,J,run_underlying gL,I,Ë hh,Ã,gj,hf,h1]
 .obtain⟨z,hz,hzv⟩:=jzq (S:=S) (w:=w) hT Cp Eh;refine⟨z,by rw[h3];exact hzv,λok=>?_⟩;have hf:=Í (w:=w) Ab h2;simp only[ó,J,run_underlying gL,I,Ë hh,Ã,gj,hf,h1,hz]
theorem jzr(hR:Rel N np S0 w0 refs σ a w S γ){k:H}{b b':Bx}(hk:σ.bx k = .live b){g:H}(hg:blk (γ k)=G g)(hS:∀o,¬S g o)(pF:lx b b')
  {w':Â}(vS:∀i,i≠g->w'.heap[i]? = w.heap[i]?)(bU:w'.heap.size=w.heap.size)(rP:w'.os=w.os)(IQ:w'.tape=w.tape)(cd:w'.output=w.output)
  (hb:BxLe γ σ.bx γ (σ.setB k (.live b')).bx->ee S w S w'->fM S w' γ (σ.setB k (.live b')).bx k b') :
  Rel N np S0 w0 refs (σ.setB k (.live b')) a w' S γ:=by
 have hle:BxLe γ σ.bx γ (σ.setB k (.live b')).bx:=by
  intro k' bQ;by_cases cH:k'=k
  .subst cH;rw[ix];exact⟨ae,rfl,λb1 fc=>by simp at fc;subst fc;exact⟨b,hk,pF⟩⟩
  .rw[dO σ _ cH];exact⟨bQ,rfl,λb hb=>⟨b,hb,.refl b⟩⟩
 have aQ:ee S w S w':=by
  intro g' o h;refine⟨h,Ô (vS g' ?_)⟩
  rintro rfl
  exact hS o h
 have cg:∀k' b1,(σ.setB k (.live b')).bx k' = .live b1->∃b2,σ.bx k' = .live b2:=by
  intro k' b1 h1;by_cases cH:k'=k
  .subst cH;exact⟨b,hk⟩
  .rw[dO σ _ cH]at h1;exact⟨b1,h1⟩
 refine Rel.step (bx':=(σ.setB k (.live b')).bx) hR aQ hle ?_ ?_ ?_ hR.new ?_ ?_ ?_ (rP.trans hR.os) (IQ.trans hR.tape) (cd.trans hR.output) (λg' _ _ h=>⟨vS g' (λe=>h k b hk (e▸hg)),λk' b1 h1=>by
  obtain⟨b2,h2⟩:=cg k' b1 h1;exact h k' b2 h2⟩)
 .intro k' b1 h1;by_cases cH:k'=k
  .subst cH;rw[ix]at h1;simp at h1;subst h1;exact hb hle aQ
  .rw[dO σ _ cH]at h1;refine fM.keep aQ hle rfl (λg' az=>⟨?_,λ_=>Iff.rfl⟩) (hR.box k' b1 h1);exact vS g' (λh=>hR.apart k' k b1 b g cH h1 hk (h▸az) hg)
 .intro k' b1 g' h1 az;obtain⟨b2,h2⟩:=cg k' b1 h1;exact hR.own k' b2 g' h2 az
 .intro k1 k2 b1 b2 g' bA h1 h2 az;obtain⟨u4,mZ⟩:=cg k1 b1 h1;obtain⟨u5,ma⟩:=cg k2 b2 h2;exact hR.apart k1 k2 u4 u5 g' bA mZ ma az
 .intro g' o h;rw[bU];exact hR.here g' o h
 .intro g' az hr;rw[vS g' ?_]
  .exact hR.below g' az hr
  .rintro rfl
   rcases hR.own k b _ hk hg with h|h
   .exact h.no aa hr
   .exact hr h.1
 .rw[bU];exact hR.grow
theorem jxI{P:À}{E:Env}(hT:cT P E.T)(hR:Rel N np S0 w0 refs σ a w S γ){rw:H->BS}(pP:RdR σ rw){t:H}{k v:Ty}(ht:sj E.T t=G (k,v)){x y:Leaf}{b:H}{ys:D (k.den×v.den)}{q:k.den}
  (h:mapC rw t k v x y=G (b,ys,q)){zx zy zz:F}(hx:cA S w γ σ.bx x zx)(hy:cA S w γ σ.bx y zy){rdf:H->BS}(bN:RdF np σ rdf){c:Cel}{z:v.den}{u:Ups}(hd:rv rdf v c=G (z,u))(hz:cF S w γ σ.bx c zz) :
  ∃w' S',(Ö t zx zy zz).run P w = .ok () w'/\Rel N np S0 w0 refs (σ.upd (u++[(b,.live (.lst (4294967296+t) (.pair k v) (@eD _ _ k.keq ys q z) O))])) a w' S' γ:=by
 obtain⟨kt,vt,tv,gL,Ab,nj,Cp,Eh⟩:=M3 hT ht;obtain⟨rfl,rfl,hb⟩:=V8 pP h;obtain⟨fm,bV,_⟩:=DQ bN hR.box hd hz;obtain⟨S1,bO,dx,jQ,dZ⟩:=qJ u σ S hR fm;have Ej:u.any (λy=>y.1==b)=false:=by rw[qz];intro y hy M5;obtain⟨_,e,t',xs,f,h1,_,hm⟩:=fm y hy;rw[show y.1=b by simpa using M5,hb]at h1;cases h1;rw[Eg]at hm;simp at hm
 have fc:(σ.upd u).bx b = .live (.lst (4294967296+t) (.pair k v) ys O):=(pH u σ Ej).trans hb;obtain⟨g,es,clock,hg,hh,ha,hq⟩:=V9 bO fc;have Ac:zx = .map (G g):=(hx.2.2 _ hb).trans hg;have Ei:zy=keyV k q:=(Cn nj).1 hy;subst Ac;subst Ei;have Wb:=bV S1 w dx jQ;have uw:blk (γ b)=G g:=by rw[hg];rfl
 have hS:∀o,¬S1 g o:=((bO.box b _ fc).2 g uw).1 rfl;have gj:=í (w:=w) Ab (V5 nj q) O 9999
 have main:∃es' fp,(Ö t (.map (G g)) (keyV k q) zz).run P w = .ok () { w with heap:=w.heap.setIfInBounds g (.map es' fp) }/\All2 (Aa S1 w k v) (@eD _ _ k.keq ys q z) es'.toList/\wX es' fp:=by
  rcases M1 nj q ha 0 with⟨h1,j,e,h2,h3,h4,h5,h6⟩|⟨h1,h2,h3,h4⟩
  .have hf:=Í (w:=w) Ab h2;rw[ki]at hf;refine⟨es.modify j λe=>{ e with key:=keyV k q,val:=zz },clock,?_,?_,MapKept.stamped_modify hq.1 j _ (λ_ _=>rfl) (λe1 _ Ad=>?_),?_⟩
   .have sU:((es[j]?).map (·.key)).getD (keyV k q)=keyV k q:=by rw[show es[j]? = G e by simpa using h3];exact h4
    simp only[Ö,J,run_underlying gL,I,Ë hh,gj,hf,Instr.keyThatStays,sU,V6 nj q,if_true,Ã,ê _ hh]
   .have e1:(es.modify j λe=>{ e with key:=keyV k q,val:=zz }).toList=es.toList.set j { e with key:=keyV k q,val:=zz }:=by
     refine ve λi=>?_;rw[qf,ë,List.getElem?_set];have xm:es[j]? = G e:=by simpa using h3
     by_cases dS:j=i
     .subst dS;simp only[if_true,xm,qa];rw[if_pos (by simpa using (ji.1 xm).1)]
     .simp[dS]
    rw[e1];exact h6 z _ rfl Wb
   .rw[show es[j]? = G e by simpa using h3]at Ad;cases Ad;exact h4.symm
   .rw[<-hq.2];refine ve λi=>?_;rw[qp,qp,qf,qf,ë];split
    .rename_i dS;subst dS;cases es[j]? <;> rfl
    .rfl
  .have hf:=Í (w:=w) Ab h2;refine⟨es.push { key:=keyV k q,val:=zz,born:=clock },clock+1,?_,?_,MapKept.stamped_push hq.1 (V7 nj ha h1),by rw[õ,qc,hq.2,ù];rfl⟩
   .simp only[Ö,J,run_underlying gL,I,Ë hh,gj,hf,ê _ hh]
   .rw[h4 z,õ];exact ha.append ⟨⟨(Cn nj).2 rfl,Wb⟩,trivial⟩
 obtain⟨es',fp,aP,aC,Ce⟩:=main;have an:g<w.heap.size:=(ji.1 hh).1;refine⟨_,S1,aP,?_⟩;rw[na];refine jzr bO fc uw hS (b':= .lst (4294967296+t) (.pair k v) (@eD _ _ k.keq ys q z) O) ⟨rfl,rfl,λhm=>by rw[Eg]at hm;simp at hm⟩ (λi hi=>by simp[Ne.symm hi]) ae rfl rfl rfl λhle aQ=>?_;refine⟨.inr ⟨Eg t,g,es',fp,hg,by simp[an],aC.mono λx e hx=>⟨Rep.keep aQ _ _ _ hx.1,VRep.keep aQ hx.2⟩,Ce⟩,λg' az=>?_⟩;rw[uw]at az;simp at az;subst az;exact⟨λ_=>hS,λh=>by simp at h⟩
theorem jxJ{P:À}(hR:Rel N np S0 w0 refs σ a w S γ){n t:H}{k v:Ty}(hn:σ.bx n = .free) :
  ∃γ',(Instr.makeMap t Z).run P w = .ok (.map (G w.heap.size)) (w.alloc (.map #[] 0))/\Rel N np S0 w0 refs (σ.setB n (.live (.lst (4294967296+t) (.pair k v) [] O))) a (w.alloc (.map #[] 0)) S γ'/\
   cF S (w.alloc (.map #[] 0)) γ' (σ.setB n (.live (.lst (4294967296+t) (.pair k v) [] O))).bx (.one (.ol n)) (.map (G w.heap.size)):=by
 have Ej:=My hR hn (o:= .map #[] 0) (b:= .lst (4294967296+t) (.pair k v) [] O) (v:= .map (G w.heap.size)) (λg hg=>by simp[blk]at hg;exact hg.symm) (λhle=>by
  refine⟨.inr ⟨Eg t,w.heap.size, #[],0,iD _ _ _,heap_alloc_new w _,trivial,MapKept.stamped_empty 0,rfl⟩,λg hg=>?_⟩;rw[iD]at hg;simp[blk]at hg;subst hg;exact⟨λ_ o ho=>by have:=hR.here _ o ho;omega,λh=>by simp at h⟩)
 refine⟨_,rfl,Ej.1,⟨?_,rfl,λb hb=>(iD _ _ _).symm⟩,λ_=>rfl⟩;rw[ix];simp
end
section
variable{N:NT}{np:H}{S0:aU}{w0:Â}{refs:Refs}{σ:St}{a:Ø}{w:Â}{S:aU}{γ:H->F}
theorem jxK{P:À}{E:Env}(hT:cT P E.T)(hR:Rel N np S0 w0 refs σ a w S γ){rdf:H->BS}(bN:RdF np σ rdf){t:Æ}{ti:TyI}(ht:E.T t=G ti)
  {m:H}{el:Ty}(bM:ti.ty=G (.arr m el)){ps:D (H×Cel)}{vs:É (H×F)}{xs:D el.den}{u:Ups}
  (gW:All2 (λp v=>p.1=v.1/\cF S w γ σ.bx p.2 v.2) ps vs.toList)(h:lu rdf el (M m el.dflt) [] ps=G (xs,u)) :
  ∃v S',(Ò t vs).run P w = .ok v w/\Rel N np S0 w0 refs (σ.upd u) a w S' γ/\cF S' w γ (σ.upd u).bx (.av m el xs) v:=by
 obtain⟨gL,bK,te,dn,xn⟩:=B7 hT ht bM;have bU:=nR hT dn xn;obtain⟨z,hz,ie⟩:=B6 hT ht w bM;obtain⟨fm,dy⟩:=MG bN hR.box bK ps vs.toList gW h .nil;obtain⟨S1,bO,dx,jQ,dZ⟩:=qJ u σ S hR fm;obtain⟨VM,css,aC,ni⟩:=rJ (S:=S1) (w:=w) (.arr m el);obtain⟨bR,me,ij,eu,dL⟩:=dy S1 dx jQ css z.cells aC (by rw[ie];exact ni)
 have hlen:∀(ps:D (H×Cel)){xs dD:D el.den}{u u':Ups},lu rdf el xs u ps=G (dD,u')->dD.length=xs.length:=by
  intro ps;induction ps with
  |nil=>intro xs dD u u' h;simp[lu]at h;rw[h.1]
  |cons p ps ih=>
   intro xs dD u u' h;obtain⟨i,c⟩:=p;simp only[lu]at h;split at h
   .split at h
    .rw[ih h];simp
    .simp at h
   .simp at h
 have nV:xs.length=m:=by rw[hlen ps h];simp
 refine⟨.agg bR,S1,?_,bO,bR,rfl,nV,me,eu,dL⟩;simp only[Ò,J,hz,I,run_underlying gL,kB hT dn,<-bU,ij,Ã]
theorem jxL{P:À}{E:Env}(hT:cT P E.T){bx:H->BS}{t:Æ}{ti:TyI}(ht:E.T t=G ti){m:H}{el:Ty}(bM:ti.ty=G (.arr m el)) :
  ∃v,(Ò t #[]).run P w = .ok v w/\cF S w γ bx (.st (pB (.arr m el))) v:=by
 obtain⟨gL,bK,te,dn,xn⟩:=B7 hT ht bM;obtain⟨z,hz,ie⟩:=B6 hT ht w bM;refine⟨.agg z.cells,?_,z.cells,rfl,by rw[ie];exact w7 (.arr m el),λu hu=>IC ie u (by simpa using hu)⟩;simp only[Ò,J,hz,I,run_underlying gL,kB hT dn];rfl
theorem Wc{rd:H->BS}(bj:RdF np σ rd)(hB:DP S w γ σ.bx){el:Ty}:∀{ls:D Leaf}{xs:D el.den}{u:Ups}{zs:D F},uO rd el ls=G (xs,u)->All2 (cA S w γ σ.bx) ls zs->
  FrzL np σ.bx u/\∀S' w',ee S w S' w'->Froz σ.bx γ S' w' u->All2 (λx z=>Rep S' w' el x [z]) xs zs
 |[],xs,u,zs,h,ha=>by
  simp[uO]at h;obtain⟨rfl,rfl⟩:=h;cases zs with
  |nil=>exact⟨.nil,λ_ _ _ _=>trivial⟩
  |cons _ _=>exact ha.elim
 |l::ls,xs,u,zs,h,ha=>by
  cases zs with
  |nil=>exact ha.elim
  |cons z zs=>
   simp only[uO]at h;split at h
   .rename_i x u1 IF u2 h1 h2;simp only[j5,j9]at h;obtain⟨rfl,rfl⟩:=h;obtain⟨f1,p1⟩:=zC bj hB h1 ha.1;obtain⟨f2,p2⟩:=Wc bj hB h2 ha.2;exact⟨FrzL.app.2 ⟨f1,f2⟩,λS' w' hk hf=>⟨p1 S' w' hk (Froz.app.1 hf).1,p2 S' w' hk (Froz.app.1 hf).2⟩⟩
   .simp at h
theorem Wd{el:Ty}{S':aU}{w':Â}:∀{xs:D el.den}{zs:D F},All2 (λx z=>Rep S' w' el x [z]) xs zs->∃css,All2 (λx c=>Rep S' w' el x c) xs css/\zs=css.flatten
 |[],[],_=>⟨[],trivial,rfl⟩
 |x::xs,z::zs,h=>by
  obtain⟨css,h1,h2⟩:=Wd h.2;exact⟨[z]::css,⟨h.1,h1⟩,by simp[h2]⟩
 |[],_::_,h=>h.elim
 |_::_,[],h=>h.elim
theorem jzs{P:À}{E:Env}(hT:cT P E.T)(hR:Rel N np S0 w0 refs σ a w S γ){rd rdf:H->BS}(bj:RdOk σ rd)(bN:RdF np σ rdf){t:Æ}{ti:TyI}(ht:E.T t=G ti)
  {x:Leaf}{m:H}{el:Ty}{ls:D Leaf}{xs:D el.den}{u:Ups}{v:F}(h:uP rd ti.ty x=G (m,el,ls))(hg:uO rdf el ls=G (xs,u))(hl:xs.length=m)(hx:cA S w γ σ.bx x v) :
  ∃z S',(Instr.loadAt t v).run P w = .ok z w/\Rel N np S0 w0 refs (σ.upd u) a w S' γ/\cF S' w γ (σ.upd u).bx (.av m el xs) z:=by
 unfold uP at h;split at h
 .rename_i k;split at h
  .rename_i m' Iy bM;split at h
   .split at h
    .rename_i gr hk;simp only[j5,j9]at h;obtain⟨rfl,rfl,rfl⟩:=h;have hk:=bj.live hk;obtain⟨g,az,hu⟩:=hx.2.2 _ hk;obtain⟨g',cur,e,iY,hh,ha,h1,_⟩:=hR.box k _ hk;rw[az]at iY;simp at iY;subst iY;obtain⟨fm,dy⟩:=Wc bN hR.box hg ha;obtain⟨S1,bO,dx,jQ,dZ⟩:=qJ u σ S hR fm;obtain⟨css,aC,dB⟩:=Wd (dy S1 w dx jQ);have bV:Rep S1 w (.arr m' Iy) xs (cur.toList.take gr.length):=⟨hl,css,aC,dB⟩;obtain⟨Ms,_,_⟩:=B7 hT ht bM;have bU:(cur.toList.take gr.length).length=ti.size:=by have:=Rep.length _ _ _ bV;rw[nR hT ht bM]at this;exact this
     refine⟨.agg (cur.toList.take gr.length).toArray,S1,?_,bO,(cur.toList.take gr.length).toArray,rfl,by simpa using bV⟩;subst hu
     have IU:=Vj (w:=w) (g:=g) (o:=0) (cs:=cur.toList.take gr.length) (λj v hv=>by
      rw[ki,cell_of_row w g j cur e (0,0) hh];rw[zg]at hv;split at hv
      .simpa using hv
      .simp at hv) P
     rw[bU]at IU;have l9:(isAgg t).run P w = .ok Ä w:=by simp[isAgg,run_underlying Ms]
     simp only[Instr.loadAt,J,þ,Ã,I,loadVar,l9,if_true,kB hT ht,IU]
    .simp at h
   .simp at h
  .simp at h
 .simp at h
def Slot.bare:Slot->Ù
 |.cnd _ _ _=>O
 |_=>Ä
theorem We(hR:Rel N np S0 w0 refs σ a w S γ){act:D (H×Ù)}(bg:sx (tm a) act)(ps:D (H×ø)) :
  All2 (λp v=>p.1=v.1/\cF S w γ σ.bx p.2 v.2) (ps.map λp=>(p.1,(σ.ev p.2).cel act)) (ps.map λp=>(p.1,a.eval p.2)):=by
 induction ps with
 |nil=>trivial
 |cons p ps ih=>exact⟨⟨rfl,fj hR bg p.2⟩,ih⟩
theorem M6(hR:Rel N np S0 w0 refs σ a w S γ){act:D (H×Ù)}(bg:sx (tm a) act)(ps:D ø) :
  All2 (cF S w γ σ.bx) (ps.map λp=>(σ.ev p).cel act) (ps.map a.eval):=by
 induction ps with
 |nil=>trivial
 |cons p ps ih=>exact⟨fj hR bg p,ih⟩
theorem Ek{rd:H->BS}(bj:RdOk σ rd):RdF np σ (λk=>if parK np k then .gone else rd k):=by
 refine⟨λk=>?_,λk e a xs f h=>?_⟩
 rotate_left
 .dsimp only at h
  split at h
  .simp at h
  .exact bj.2 k e a xs f h
 dsimp only
 split
 .exact .inr rfl
 .rename_i hp;rcases bj.1 k with h|h
  .exact .inl ⟨h,by simpa using hp⟩
  .exact .inr h
theorem xo{P:À}{o:Oper}{l:Leaf}{v:F}(hR:Rel N np S0 w0 refs σ a w S γ)(hr:(execOp a.eval o).run P w = .ok (.value v) w)
  (hs:cA S w γ σ.bx l v)(h1:One v):Mm P N np S0 w0 refs o σ a w S γ (.one (.one l)) []:=
 l5 hR hr ⟨hs,λ_=>h1⟩
theorem Cq{c:Cel}{l:Leaf}(h:lf c=l)(hd:l ≠ .dead):c = .one l:=by
 cases c with
 |one x=>simp[lf]at h;rw[h]
 |st ls=>simp[lf]at h;exact absurd h.symm hd
 |av n a xs=>simp[lf]at h;exact absurd h.symm hd
theorem M7{P:À}{E:Env}(hT:cT P E.T)(hR:Rel N E.np S0 w0 refs σ a w S γ){act:D (H×Ù)}(bg:sx (tm a) act){rw:H->BS}(pP:RdR σ rw)
  {o:Oper}{s:Slot}{u:Ups}(h:eF E σ.ev rw act o=G (.val Ä s u)):Mm P N E.np S0 w0 refs o σ a w S γ s u/\s.bare=true:=by
 have bj:RdOk σ (mskM rw):=pP.msk;have bN:=Ek (np:=E.np) bj;have hex:∀op,o.op=op->execOp a.eval o=execOp a.eval { o with op:=op }:=λop h=>by subst h;rfl
 unfold eF at h;dsimp only at h;split at h
 ·-- move
  rename_i x cD;split at h
  .rename_i l hl;simp only[j5,Act.val.injEq]at h;obtain⟨_,rfl,rfl⟩:=h;have:=mY hR x;rw[hl]at this;exact⟨l5 hR (v:=a.eval x) (by simp[execOp,cD]) this,rfl⟩
  .simp only[j5,Act.cel,Act.val.injEq]at h;obtain⟨_,rfl,rfl⟩:=h;exact⟨l5 hR (v:=a.eval x) (by simp[execOp,cD]) (fj hR bg x),rfl⟩
 ·-- assign
  rename_i x cD;split at h
  .rename_i l hl;simp only[j5,Act.val.injEq]at h;obtain⟨_,rfl,rfl⟩:=h;have:=mY hR x;rw[hl]at this;exact⟨l5 hR (v:=a.eval x) (by simp[execOp,cD]) this,rfl⟩
  .simp only[j5,Act.cel,Act.val.injEq]at h;obtain⟨_,rfl,rfl⟩:=h;exact⟨l5 hR (v:=a.eval x) (by simp[execOp,cD]) (fj hR bg x),rfl⟩
 ·-- pick
  rename_i x y z cD;split at h
  .rename_i v hv;have hx:=fj hR bg x;have M8:a.eval x = .bool v:=by have:=Cq hv ae;rw[this]at hx;exact uc hx
   have aP:(execOp a.eval o).run P w = .ok (.value (if v then a.eval y else a.eval z)) w:=by simp[execOp,cD,M8,asBool]
   have hy:v=Ä->cF S w γ σ.bx ((σ.ev y).cel (Ii x Ä act)) (a.eval y):=by
    intro sV;refine Mn ?_ (mY hR y);cases x with
    |tmp t=>
     intro g hg;rcases je.1 hg with rfl|hg
     .simp only;rw[<-sV];exact M8
     .exact bg g hg
    |_=>exact bg
   have hz:v=O->cF S w γ σ.bx ((σ.ev z).cel (Ii x O act)) (a.eval z):=by
    intro sV;refine Mn ?_ (mY hR z);cases x with
    |tmp t=>
     intro g hg;rcases je.1 hg with rfl|hg
     .simp only;rw[<-sV];exact M8
     .exact bg g hg
    |_=>exact bg
   split at h
   .rename_i t p t' q hp hq;split at h
    .rename_i q' jN;simp only[j5,Act.leaf,Act.val.injEq]at h;obtain⟨_,rfl,rfl⟩:=h;have:=nS jN;cases this;refine⟨l5 hR aP ?_,rfl⟩;cases v with
     |true=>have:=hy rfl;rw[hp]at this;exact this
     |false=>have:=hz rfl;rw[hq]at this;exact this
    .simp at h
   .rename_i t p hp hq;simp only[j5,Act.val.injEq]at h;obtain⟨ig,rfl,rfl⟩:=h;have ig:v=true:=ig;subst ig;refine⟨l5 hR aP ?_,rfl⟩;have:=hy rfl;rw[hp]at this;exact this
   .rename_i t q hp hq;simp only[j5,Act.val.injEq]at h;obtain⟨ig,rfl,rfl⟩:=h;have ig:v=false:=by simpa using ig
    subst ig;refine⟨l5 hR aP ?_,rfl⟩;have:=hz rfl;rw[hq]at this;exact this
   .simp at h
  .simp at h
 ·-- alloc
  rename_i t cD;split at h
  .rename_i ti ht;split at h
   .rename_i bu;have hd:=bj.free bu;split at h
    .rename_i k el bM;split at h
     .simp only[j5,Act.val.injEq]at h;obtain⟨_,rfl,rfl⟩:=h;obtain⟨z,ie,hz⟩:=MF (w:=w) hT ht bM;obtain⟨dT,hc⟩:=Mz hR hd (ls:=pB (.arr k el)) (cur:=z.cells) (e:=t) (by rw[ie];exact w7 (.arr k el)) (IC ie);exact⟨⟨_,_,S,_,.inl (by simp[execOp,cD,hz]),dT,hc⟩,rfl⟩
     simp only[j5,Act.val.injEq]at h;obtain⟨_,rfl,rfl⟩:=h;obtain⟨z,ie,hz⟩:=MF (w:=w) hT ht bM;obtain⟨dT,hc⟩:=Vp hR hd (m:=k) (t:=el) (xs:=M k el.dflt) (cur:=z.cells) (e:=t) (by rw[ie];exact rJ (.arr k el));exact⟨⟨_,_,S,_,.inl (by simp[execOp,cD,hz]),dT,hc⟩,rfl⟩
    .rename_i ty bA bM;simp only[j5,Act.val.injEq]at h;obtain⟨_,rfl,rfl⟩:=h;obtain⟨z,ie,hz⟩:=MF (w:=w) hT ht bM;obtain⟨dT,hc⟩:=Mz hR hd (ls:=pB ty) (cur:=z.cells) (e:=t) (by rw[ie];exact w7 ty) (IC ie);exact⟨⟨_,_,S,_,.inl (by simp[execOp,cD,hz]),dT,hc⟩,rfl⟩
    .simp at h
   .simp at h
  .simp at h
 ·-- box
  rename_i t x cD;split at h
  .rename_i bu;have hd:=bj.free bu;have hx:=fj hR bg x;split at h
   .rename_i k el xs hc;simp only[j5,Act.val.injEq]at h;obtain⟨_,rfl,rfl⟩:=h;rw[hc]at hx;obtain⟨cs,hu,bV⟩:=hx;obtain⟨dT,gz⟩:=Vp hR hd (m:=k) (t:=el) (xs:=xs) (cur:=(a.eval x).cells) (e:=t) (by rw[hu];exact bV);exact⟨⟨_,_,S,_,.inl (by simp[execOp,cD,VE]),dT,gz⟩,rfl⟩
   .split at h
    .rename_i ls hls;simp only[j5,Act.val.injEq]at h;obtain⟨_,rfl,rfl⟩:=h;obtain⟨hl,h1⟩:=DS hls hx;obtain⟨dT,gz⟩:=Mz hR hd (ls:=ls) (cur:=(a.eval x).cells) (e:=t) hl h1;exact⟨⟨_,_,S,_,.inl (by simp[execOp,cD,VE]),dT,gz⟩,rfl⟩
    .simp at h
  .simp at h
 ·-- build
  rename_i t ps cD;have gW:=We hR bg ps.toList;have vT:All2 (λp v=>p.1=v.1/\cF S w γ σ.bx p.2 v.2) (ps.toList.map λp=>(p.1,(σ.ev p.2).cel act)) (ps.map λp=>(p.1,a.eval p.2)).toList:=by simpa using gW
  split at h
  .rename_i ti ht;split at h
   .rename_i k el bM;split at h
    .rename_i vU;simp only[j5,Act.cel,Act.val.injEq]at h;obtain⟨_,rfl,rfl⟩:=h;obtain⟨v,aP,hc⟩:=jxL (w:=w) (S:=S) (γ:=γ) (bx:=σ.bx) hT ht bM;have nk:ps = #[]:=by simp only[jd,List.isEmpty_iff]at vU;exact vd.1 vU.2
     subst nk;exact⟨l5 hR (v:=v) (by simp[execOp,cD,aP]) hc,rfl⟩
    split at h
    .rename_i xs u' hb;simp only[j5,Act.val.injEq]at h;obtain⟨_,rfl,rfl⟩:=h;obtain⟨v,S',aP,dT,hc⟩:=jxK hT hR bN ht bM vT hb;exact⟨⟨v,w,S',γ,.inl (by simp[execOp,cD,aP]),dT,hc⟩,rfl⟩
    .simp at h
   .rename_i ty bA bM;split at h
    .rename_i oy;split at h
     .rename_i ls hb;simp only[j5,Act.cel,Act.val.injEq]at h;obtain⟨_,rfl,rfl⟩:=h;obtain⟨v,aP,hc⟩:=jxD hT ht bM oy vT hb;exact⟨l5 hR (v:=v) (by simp[execOp,cD,aP]) hc,rfl⟩
     .simp at h
    .simp at h
   .simp at h
  .simp at h
 ·-- buildSlice
  rename_i t len ps cD;have gW:=We hR bg ps.toList;have vT:All2 (λp v=>p.1=v.1/\cF S w γ σ.bx p.2 v.2) (ps.toList.map λp=>(p.1,(σ.ev p.2).cel act)) (ps.map λp=>(p.1,a.eval p.2)).toList:=by simpa using gW
  split at h
  .rename_i ti ht;split at h
   .rename_i el bM;split at h
    .simp at h
    .rename_i hlen;split at h
     .rename_i xs u' hb;split at h
      .rename_i bu;simp only[j5,Act.val.injEq]at h;obtain⟨_,rfl,rfl⟩:=h;obtain⟨v',w',S',γ',aP,dT,hc⟩:=jp3 hT hR bN ht bM aa vT hb (bj.free bu);exact⟨⟨v',w',S',γ',.inl (by simp[execOp,cD,aP]),dT,hc⟩,rfl⟩
      .simp at h
     .simp at h
   .simp at h
  .simp at h
 ·-- load
  rename_i t x cD;split at h
  .rename_i ti ht;split at h
   .rename_i m el ls rR;split at h
    .rename_i xs u' hg;split at h
     .rename_i hlen;simp only[j5,Act.val.injEq]at h;obtain⟨_,rfl,rfl⟩:=h;obtain⟨z,S',hz,dT,kO⟩:=jzs hT hR bj bN ht rR hg hlen (jG (fj hR bg x));exact⟨⟨z,w,S',γ,.inl (by simp[execOp,cD,hz]),dT,kO⟩,rfl⟩
     .simp at h
    .simp at h
   unfold oCel at h;split at h
   .rename_i c hc;simp only[j5,Act.cel,Act.val.injEq]at h;obtain⟨_,rfl,rfl⟩:=h;obtain⟨z,hz,kO⟩:=Vl hT hR bj ht hc (jG (fj hR bg x));exact⟨l5 hR (v:=z) (by simp[execOp,cD,hz]) kO,rfl⟩
   .simp at h
  .simp at h
 ·-- store
  rename_i t x y cD;split at h
  .rename_i ti ht;split at h
   .rename_i u' hu;simp only[j5,Act.val.injEq]at h;obtain⟨_,rfl,rfl⟩:=h;obtain⟨w',S',aP,dT⟩:=jxA hT hR bj bN ht hu (jG (fj hR bg x)) (fj hR bg y);exact⟨⟨undef,w',S',γ,.inr ⟨by simp[execOp,cD,aP],rfl⟩,dT,⟨trivial,λh=>absurd rfl h⟩⟩,rfl⟩
   .simp at h
  .simp at h
 ·-- nilCheck
  rename_i x cD;have hx:=fj hR bg x;split at h
  .rename_i k p hl;split at h
   .rename_i iO;simp only[j5,Act.leaf,Act.val.injEq]at h;obtain⟨_,rfl,rfl⟩:=h;rw[Cq hl ae]at hx;obtain⟨b,hb⟩:=DN iO;obtain⟨g,_,hu⟩:=hx.1.2.2 b (bj.live hb);exact⟨l5 hR (v:=a.eval x) (by simp[execOp,cD,hu]) hx,rfl⟩
   .simp at h
  .rename_i k i p hl;split at h
   .rename_i iO;simp only[j5,Act.leaf,Act.val.injEq]at h;obtain⟨_,rfl,rfl⟩:=h;rw[Cq hl ae]at hx;obtain⟨b,hb⟩:=DN iO;have h3:=hx.1.2.2 b (bj.live hb)
    have hu:∃g o,a.eval x = .pointer (G ⟨g,o,Z⟩):=by
     cases b with
     |cell ls f=>exact h3.elim
     |lst e t xs f=>obtain⟨_,_,g,cap,_,hu⟩:=h3;exact⟨_,_,hu⟩
     |arr n t xs=>obtain⟨_,g,_,hu⟩:=h3;exact⟨_,_,hu⟩
    obtain⟨g,ofs,hu⟩:=hu;exact⟨l5 hR (v:=a.eval x) (by simp[execOp,cD,hu]) hx,rfl⟩
   .simp at h
  .rename_i ls hl;simp only[j5,Act.leaf,Act.val.injEq]at h;obtain⟨_,rfl,rfl⟩:=h;rw[Cq hl ae]at hx;obtain⟨g,ofs,cs,hu,_⟩:=hx.1;exact⟨l5 hR (v:=a.eval x) (by simp[execOp,cD,hu]) hx,rfl⟩
  .simp at h
 ·-- binOp
  rename_i op t x y rest cD;unfold oChk at h;split at h
  .rename_i b c hc;simp only[j5,Act.val.injEq]at h;obtain⟨rfl,rfl,rfl⟩:=h;obtain⟨z,hz,hl,h1⟩:=jCg (x:=x) (y:=y) hT hc (fj hR bg x) (fj hR bg y);refine⟨xo hR ?_ hl h1,rfl⟩;simp only[execOp,cD];rw[J,hz];rfl
  .simp at h
 ·-- unOp
  rename_i op t x cD;unfold ox at h;split at h
  .rename_i c hc;simp only[j5,Act.leaf,Act.val.injEq]at h;obtain⟨_,rfl,rfl⟩:=h;obtain⟨z,hz,hl,h1⟩:=jEW hc (fj hR bg x);refine⟨xo hR ?_ hl h1,rfl⟩;simp only[execOp,cD];rw[J,hz];rfl
  .simp at h
 ·-- convert
  rename_i src dst x cD;split at h
  .rename_i ts ti pR ht;split at h
   .rename_i k v k0 k' hl M9 bM;simp only[j5,Act.leaf,Act.val.injEq]at h;obtain⟨_,rfl,rfl⟩:=h;have hx:=fj hR bg x;rw[Cq hl ae]at hx;have hu:=uY hx;have gL:=Ml hT ht bM;refine⟨xo hR (v:= .int k' (k'.wrap v)) ?_ rfl rfl,rfl⟩;have El:=Ml hT pR M9;simp only[execOp,cD];rw[J];have:(convert src dst (a.eval x)).run P w = .ok (.int k' (k'.wrap v)) w:=by simp only[hu,convert,J,run_underlying El,run_underlying gL,I];simp[Conv.intToInt]
    rw[this];rfl
   .simp at h
  .simp at h
 ·-- makeFunc
  rename_i f first bT cD
  split at h
  .rename_i mn;split at h
   .rename_i l u' hl;simp only[j5,Act.val.injEq]at h;obtain⟨_,rfl,rfl⟩:=h;have fC:=M6 hR bg bT.toList;obtain⟨S',dT,_,dE,_⟩:=VO bN hl hR fC;have nr:first = #[]:=by simpa using mn
    refine⟨⟨.func (.func f) #[] (bT.map a.eval),w,S',γ,.inl ?_,dT,⟨⟨_,rfl,by simpa using dE⟩,λ_=>rfl⟩⟩,rfl⟩;simp[execOp,cD,nr,Instr.makeFunc]
   .simp at h
  .simp at h
 ·-- fieldAddr
  rename_i t x i cD;split at h
  .rename_i ti ht;unfold ox at h;split at h
   .rename_i c hc;simp only[j5,Act.leaf,Act.val.injEq]at h;obtain⟨_,rfl,rfl⟩:=h;obtain⟨z,hz,hl,h1⟩:=jxx hT bj ht hc (jG (fj hR bg x));exact⟨xo hR (by simp[execOp,cD,hz]) hl h1,rfl⟩
   .simp at h
  .simp at h
 ·-- field
  rename_i t x i cD;split at h
  .rename_i ti ht;split at h
   .rename_i ls f hc hf;split at h
    .rename_i tf sv;unfold oCel at h;split at h
     .rename_i c cV;simp only[j5,Act.cel,Act.val.injEq]at h;obtain⟨_,rfl,rfl⟩:=h;have hx:=fj hR bg x;rw[hc]at hx;obtain⟨cs,hu,aC,h1⟩:=hx;obtain⟨fs,gL,fl,fm,kG,oP,tf',htf',bK⟩:=Va hT ht hf;rw[<-oP]at sv;have eu:=(aC.drop fl.offset).take tf.size;have mZ:∀u∈(cs.toList.drop fl.offset).take tf.size,One u:=λu eZ=>h1 u (z6 (qb eZ));rw[<-kG]at cV
      have sy:∃z,(part fl.type cs fl.offset).run P w = .ok z w/\cF S w γ σ.bx c z:=by
       unfold uN at cV;split at cV
       .rename_i l9;split at cV
        .rename_i hlen;simp only[j5]at cV;subst cV;refine⟨.agg (cs.extract fl.offset (fl.offset+tf.size)),?_,_,rfl,?_,?_⟩
         .simp only[part,J,B5 hT sv,l9,I,if_true,kB hT sv,Ã]
         .have:(cs.extract fl.offset (fl.offset+tf.size)).toList=(cs.toList.drop fl.offset).take tf.size:=by simp[List.take_drop]
          rw[this];exact eu
         .have:(cs.extract fl.offset (fl.offset+tf.size)).toList=(cs.toList.drop fl.offset).take tf.size:=by simp[List.take_drop]
          rw[this];exact mZ
        .simp at cV
       .rename_i l9;split at cV
        .rename_i l' oQ;simp only[j5]at cV;subst cV;rw[oQ]at eu;cases hq:(cs.toList.drop fl.offset).take tf.size with
         |nil=>rw[hq]at eu;exact eu.elim
         |cons z zs=>
          rw[hq]at eu mZ
          have hz:cs[fl.offset]? = G z:=by
           have:((cs.toList.drop fl.offset).take tf.size)[0]? = G z:=by rw[hq];rfl
           have:=Ir this;simpa using this
          refine⟨z,?_,eu.1,λ_=>mZ z ae⟩;simp only[part,J,B5 hT sv,I,if_neg l9,hz,Ã]
        .simp at cV
      obtain⟨z,hz,kO⟩:=sy;refine⟨l5 hR (v:=z) ?_ kO,rfl⟩;simp only[execOp,cD,hu];rw[J];have:(Instr.field t (.agg cs) i).run P w = .ok z w:=by simp only[Instr.field,J,run_underlying gL,I,fm,asAgg,Ã,hz]
      rw[this];rfl
     .simp at h
    .simp at h
   .simp at h
  .simp at h
 ·-- indexAddr
  rename_i t x i cD;split at h
  .rename_i ti ht;unfold oChk at h;split at h
   .rename_i b c hc;simp only[j5,Act.val.injEq]at h;obtain⟨rfl,rfl,rfl⟩:=h;obtain⟨z,hz,hl,h1⟩:=jxy hT hR bj ht hc (jG (fj hR bg x)) (jG (fj hR bg i));exact⟨xo hR (by simp[execOp,cD,hz]) hl h1,rfl⟩
   .simp at h
  .simp at h
 ·-- index
  rename_i t x i cD;split at h
  .rename_i ti ht;split at h
   .rename_i b c hc;simp only[j5,Act.val.injEq]at h;obtain⟨rfl,rfl,rfl⟩:=h;obtain⟨z,hz,kO⟩:=jCj hT ht hc (fj hR bg x) (jG (fj hR bg i));exact⟨l5 hR (v:=z) (by simp[execOp,cD,hz]) kO,rfl⟩
   .simp at h
  .simp at h
 ·-- makeMap
  rename_i t cD;split at h
  .rename_i k v ht;split at h
   .rename_i iN;simp only[j5,Act.val.injEq]at h;obtain⟨_,rfl,rfl⟩:=h;obtain⟨γ',aP,dT,gz⟩:=jxJ (P:=P) (t:=t) (k:=k) (v:=v) hR (bj.free iN);exact⟨⟨_,_,S,γ',.inl (by simp[execOp,cD,aP]),dT,gz⟩,rfl⟩
   .simp at h
  .simp at h
 ·-- lookup
  rename_i t x i ok cD;split at h
  .rename_i k v ht;split at h
   .rename_i b ys q hm;obtain⟨z,hz,aP⟩:=juC hT hR pP ht hm (jG (fj hR bg x)) (jG (fj hR bg i));split at h
    .simp only[j5,Act.val.injEq]at h;obtain⟨_,rfl,rfl⟩:=h;have hr:=aP Ä;simp only[if_true]at hr;refine⟨l5 hR (v:= .tuple #[z,.bool (@ej _ _ k.keq ys q)]) (by simp[execOp,cD,hr]) ?_,rfl⟩;exact⟨_,rfl,zS hz,⟨rfl,λ_=>rfl⟩,trivial⟩
    .simp only[j5,Act.cel,Act.val.injEq]at h;obtain⟨_,rfl,rfl⟩:=h;have hr:=aP O;simp only[qe,za]at hr;exact⟨l5 hR (v:=z) (by simp[execOp,cD,hr]) (zS hz),rfl⟩
   .simp at h
  .simp at h
 ·-- mapUpdate
  rename_i t x i y cD;split at h
  .rename_i k v ht;split at h
   .rename_i b ys q z u' hm hd;simp only[j5,Act.val.injEq]at h;obtain⟨_,rfl,rfl⟩:=h;obtain⟨w',S',aP,dT⟩:=jxI hT hR pP ht hm (jG (fj hR bg x)) (jG (fj hR bg i)) bN hd (fj hR bg y);exact⟨⟨undef,w',S',γ,.inr ⟨by simp[execOp,cD,aP],rfl⟩,dT,⟨trivial,λh=>absurd rfl h⟩⟩,rfl⟩
   .simp at h
  .simp at h
 ·-- extract
  rename_i x i cD;split at h
  .rename_i l hl;split at h
   .rename_i c hc;simp only[j5,Act.cel,Act.val.injEq]at h;obtain⟨_,rfl,rfl⟩:=h;have hx:=mY hR x;rw[hl]at hx;obtain⟨vs,hu,aC⟩:=hx;obtain⟨z,hz,kO⟩:=aC.get i c hc;refine⟨l5 hR (v:=z) ?_ kO,rfl⟩;have xp:vs[i]? = G z:=by simpa using hz
    simp[execOp,cD,hu,Instr.extract,xp]
   .simp at h
  .simp at h
 ·-- call
  rename_i cl cD;have fC:=M6 hR bg cl.args.toList;split at h
  ·-- len
   rename_i cN;split at h
   .rename_i x t gX pR;split at h
    .rename_i ti ht;unfold ox at h;split at h
     .rename_i c hc;simp only[j5,Act.leaf,Act.val.injEq]at h;obtain⟨_,rfl,rfl⟩:=h;obtain⟨z,hz,hl,h1⟩:=jCk (ty:=o.type) hT hR bj ht hc (jG (fj hR bg x));have e1:cl.args = #[x]:=by apply qs;simpa using gX
      have e2:cl.argTypes = #[t]:=by apply qs;simpa using pR
      refine⟨xo hR (v:=z) ?_ hl h1,rfl⟩;simp[execOp,cD,resolve,cN,invoke,builtin,e1,e2,hz]
     .simp at h
    .simp at h
   .simp at h
  ·-- min
   rename_i cN;unfold ox at h;split at h
   .rename_i c hc;simp only[j5,Act.leaf,Act.val.injEq]at h;obtain⟨_,rfl,rfl⟩:=h;obtain⟨z,hz,hl,h1⟩:=jEX (P:=P) (ts:=cl.argTypes) (ty:=o.type) hc fC;refine⟨xo hR (v:=z) ?_ hl h1,rfl⟩;have e1:cl.args.map a.eval=(cl.args.toList.map a.eval).toArray:=by apply qs;simp
    simp[execOp,cD,resolve,cN,invoke,builtin,e1,hz]
   .simp at h
  ·-- max
   rename_i cN;unfold ox at h;split at h
   .rename_i c hc;simp only[j5,Act.leaf,Act.val.injEq]at h;obtain⟨_,rfl,rfl⟩:=h;obtain⟨z,hz,hl,h1⟩:=jEY (P:=P) (ts:=cl.argTypes) (ty:=o.type) hc fC;refine⟨xo hR (v:=z) ?_ hl h1,rfl⟩;have e1:cl.args.map a.eval=(cl.args.toList.map a.eval).toArray:=by apply qs;simp
    simp[execOp,cD,resolve,cN,invoke,builtin,e1,hz]
   .simp at h
  ·-- append
   rename_i cN;split at h
   .rename_i t t' s' x pR gX;split at h
    .rename_i sW;subst sW;split at h
     .rename_i ti ht;split at h
      .rename_i el bM;split at h
       .rename_i b' v' u' hh;simp only[j5,Act.val.injEq]at h;obtain⟨rfl,rfl,rfl⟩:=h;obtain⟨z,w',aP,dT,hl,h1⟩:=jCm (ty:=o.type) hT hR bj ht bM hh (jG (fj hR bg s')) (jG (fj hR bg x));have e1:cl.args = #[s',x]:=by apply qs;simpa using gX
        have e2:cl.argTypes = #[t,t]:=by apply qs;simpa using pR
        refine⟨⟨z,w',S,γ,.inl ?_,dT,hl,λ_=>h1⟩,rfl⟩;simp[execOp,cD,resolve,cN,invoke,builtin,e1,e2,aP]
       split at h
       .rename_i xs frz u' ys hs hx;split at h
        .rename_i bu;simp only[j5,Act.val.injEq,jo]at h;obtain⟨fo,rfl,rfl⟩:=h;obtain⟨v',w',S',γ',aP,dT,gz⟩:=jxC (ty:=o.type) hT hR bj bN ht bM hs hx (bj.free bu) fo (jG (fj hR bg s')) (jG (fj hR bg x));have e1:cl.args = #[s',x]:=by apply qs;simpa using gX
         have e2:cl.argTypes = #[t,t]:=by apply qs;simpa using pR
         refine⟨⟨v',w',S',γ',.inl ?_,dT,gz⟩,rfl⟩;simp[execOp,cD,resolve,cN,invoke,builtin,e1,e2,aP]
        .simp at h
       .simp at h
      .simp at h
     .simp at h
    .simp at h
   .simp at h
  ·-- value
   split at h
   .split at h
    .split at h
     .simp at h
     .simp at h
    .simp at h
   .simp at h
  ·-- copy
   rename_i cN;split at h
   .rename_i t t' x y pR gX;split at h
    .rename_i sW;subst sW;split at h
     .rename_i ti ht;split at h
      .rename_i c u' hc;simp only[j5,Act.val.injEq]at h;obtain⟨_,rfl,rfl⟩:=h;obtain⟨v',w',aP,dT,gz⟩:=jzg (ty:=o.type) hT hR bj ht hc (jG (fj hR bg x)) (jG (fj hR bg y));have e1:cl.args = #[x,y]:=by apply qs;simpa using gX
       have e2:cl.argTypes = #[t,t]:=by apply qs;simpa using pR
       refine⟨⟨v',w',S,γ,.inl ?_,dT,gz⟩,rfl⟩;simp[execOp,cD,resolve,cN,invoke,builtin,e1,e2,aP]
      .simp at h
     .simp at h
    .simp at h
   .simp at h
  ·-- clear
   rename_i cN;split at h
   .rename_i t x pR gX;split at h
    .rename_i ti ht;split at h
     .rename_i u' hc;simp only[j5,Act.val.injEq]at h;obtain⟨_,rfl,rfl⟩:=h;obtain⟨v',w',aP,dT⟩:=jxG (ty:=o.type) hT hR bj ht hc (jG (fj hR bg x));have e1:cl.args = #[x]:=by apply qs;simpa using gX
      have e2:cl.argTypes = #[t]:=by apply qs;simpa using pR
      refine⟨⟨v',w',S,γ,.inl ?_,dT,⟨trivial,λh=>absurd rfl h⟩⟩,rfl⟩;simp[execOp,cD,resolve,cN,invoke,builtin,e1,e2,aP]
     .simp at h
    .simp at h
   .simp at h
  .simp at h
 ·-- slice
  rename_i t x lo hi cD;split at h
  .rename_i ti ht;split at h
   .rename_i b c u' hc;simp only[j5,Act.val.injEq]at h;obtain⟨rfl,rfl,rfl⟩:=h
    have ho:∀y:Á ø,ORep (cA S w γ σ.bx) (y.map λx=>lf ((σ.ev x).cel act)) (y.map a.eval):=by
     intro y;cases y with
     |none=>trivial
     |some y=>exact jG (fj hR bg y)
    obtain⟨v',S',γ',aP,dT,gz⟩:=jxE hT hR bj ht (λk hk=>bj.free hk) hc (jG (fj hR bg x)) (ho lo) (ho hi);refine⟨⟨v',w,S',γ',.inl ?_,dT,gz⟩,rfl⟩;simp[execOp,cD,aP]
   .simp at h
  .simp at h
 ·-- slice with a capacity
  rename_i t x lo hi mx cD;split at h
  .rename_i ti ht;split at h
   .rename_i b hc;simp only[j5,Act.val.injEq]at h;obtain⟨rfl,rfl,rfl⟩:=h
    have ho:∀y:Á ø,ORep (cA S w γ σ.bx) (y.map λx=>lf ((σ.ev x).cel act)) (y.map a.eval):=by
     intro y;cases y with
     |none=>trivial
     |some y=>exact jG (fj hR bg y)
    obtain⟨v',aP⟩:=jxF hT hR bj ht hc (jG (fj hR bg x)) (ho lo) (ho hi) (jG (fj hR bg mx));refine⟨⟨v',w,S,γ,.inl ?_,hR,⟨trivial,λh=>absurd rfl h⟩⟩,rfl⟩;simp[execOp,cD,aP]
   .simp at h
  .simp at h
 .simp at h
theorem Wh{P:À}{E:Env}(hR:Rel N E.np S0 w0 refs σ a w S γ){act:D (H×Ù)}(bg:sx (tm a) act){rw:H->BS}(pP:RdR σ rw)
  {o:Oper}{f:H}{args:D Arg}{mk:Ret->Á (Slot×Ups)}(h:eF E σ.ev rw act o=G (.call f args mk))(hf:Fun P f){K:Ret->Prop}(eQ:II P f args K) :
  ∃vals,(execOp a.eval o).run P w = .ok (.enter f vals) w/\
   (Calls P f vals w λe w'=>∃ret,K ret/\∀s u,mk ret=G (s,u)->∃v S' γ',e = .returned v/\Rel N E.np S0 w0 refs (σ.upd u) a w' S' γ'/\jF S' w' γ' (σ.upd u).bx (tm a) s v)/\
   ∀ret s u,mk ret=G (s,u)->s.bare=true:=by
 have bj:RdOk σ (mskM rw):=pP.msk;have bN:=Ek (np:=E.np) bj;unfold eF at h;dsimp only at h;split at h
 case h_23 cl cD=>
  have fC:=M6 hR bg cl.args.toList;split at h
  case h_5 x cN=>
   split at h
   .rename_i g bT hl;split at h
    .rename_i as us fs has;split at h
     .rename_i bP;simp only[j5,Act.call.injEq]at h;obtain⟨rfl,rfl,rfl⟩:=h;have hx:=fj hR bg x;rw[Cq hl ae]at hx;obtain⟨cv,hu,lI⟩:=hx.1;refine⟨_,IP hf cD cN hu,?_,?_⟩
      .have:=jxH hR pP bj bN has fC bP lI eQ ((o.dst.getD 0)*64);have e1:(cl.args.toList.map a.eval++cv.toList).toArray=cl.args.map a.eval++cv:=by apply qs;simp
       rwa[e1]at this
      .intro ret s u cV;unfold yO at cV;split at cV
       .unfold mkHd at cV;split at cV
        .split at cV
         .split at cV
          .simp only[j5,j9]at cV;rw[<-cV.1];rfl
          .simp at cV
         .simp at cV
        .simp at cV
       split at cV
       .split at cV
        .split at cV
         .revert cV;dsimp only;split<;>(intro cV;simp only[j5,j9]at cV;rw[<-cV.1];rfl)
         .simp at cV
        .simp at cV
       .simp at cV
     .simp at h
    .simp at h
   .simp at h
  all_goals (first|(simp at h;done)|skip)
  all_goals (exfalso;revert h;try simp only[ox])
  all_goals (repeat' split)
  all_goals simp[Act.leaf]
 all_goals (first|(simp at h;done)|skip)
 all_goals (repeat' (first|(simp at h;done)|split at h))<;>simp_all[ox,oCel,oChk,Act.leaf,Act.cel]
 all_goals (repeat' (split at h))<;>simp_all
end
end Go.Lft
