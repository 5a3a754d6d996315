/- New variables; Md into variables. -/
import Derived.Test.YtkoifkkadkmecaaGreatLRLA
import Derived.MapKept
open _root_ renaming List->D,Nat->H,Option->Á,Array->É,Bool->Ú
open Go renaming Value->F,Program->À,World->Â,TypeId->Æ,Act->Ù,Operand->ö,MapEntry->û
open Option renaming some->G,none->Y,isNone_iff_eq_none->ä
open Go.Result renaming andThen_ok->I,andThen->Ý
open Go.Sem renaming run_bind->J,run_pure->Ã
open List renaming replicate->M,take->U,take_of_length_le->W,drop->Ê,length->Í,take_append->Ð,take_left'->Ö,set_cons_zero->ß,getElem?_drop->à,getElem?_append_left->â,all_cons->æ,getElem_cons_drop->é,any_append->ê,mem_map_of_mem->ñ,range_succ->ø,drop_left'->ù,length_set->ú,drop_take->ü,drop_drop->ý,take_left->ÿ
open Bool renaming false->O,true->Ä,or_eq_false_iff->Ô
open Go.Value.slice renaming injEq->Z
open Go.Addr renaming add_lit->Å
open Nat renaming add_mul->Ç,min_eq_left->È
open Go.MapKept renaming run_getObj_map->Ë,run_findKey->Ì,bytes_beq->ç,run_setObj_map->ë,run_checkKey->î
open Go.Builtin renaming append_->Î,firstCells->Ï,clear_->Þ,copy_->å,lenOf->ð
open Array renaming range->Ñ,getElem?_modify->ì,toList_push->ô
open Go.Instr renaming build->Ò,findNow->Ó,mapUpdate->Ø,fill->Û,sliceAt->ã,buildSlice->è,sameBits->í,storeAt->ï,sameNow->ò,lookup->ó,sureAddr->þ
open Go.World renaming cell?_of_block->Õ,alloc_eq->Ü,ownsRow_nil->á
set_option linter.unusedVariables false
namespace Go.Lft
section
variable{N:NT}{np:H}{S0:aY}{w0:Â}{refs:Refs}{σ:St}{a:Ù}{w:Â}{S:aY}{γ:H->F}
def gset(γ:H->F)(n:H)(v:F):H->Value:=λk=>if k=n then v else γ k
theorem gK(γ:H->F)(n:H)(v:F):gset γ n v n=v:=by simp[gset]
theorem ix(γ:H->F){n k:H}(v:F)(h:k≠n):gset γ n v k=γ k:=by simp[gset,h]
theorem B9(hR:Rel N np S0 w0 refs σ a w S γ)(o:Obj):dK S w S (w.alloc o):=
 λg i h=>⟨h,World.cell?_alloc_lt w o ⟨g,i,Y⟩ (hR.here g i h)⟩
theorem oI{bx:H->BS}{k:H}{b:Bx}(h:fK S w γ bx k b){g:H}(hg:blk (γ k)=G g):g<w.heap.size:=by
 cases b with
 |cell ls frz=>obtain⟨g',cur,e,h1,h2,_⟩:=h;rw[h1]at hg;simp[blk]at hg;subst hg;exact(jq.1 h2).1
 |lst e t xs frz=>exact h.1.lt hg
 |arr n t xs=>obtain⟨g',cur,e,h1,h2,_⟩:=h;rw[h1]at hg;simp[blk]at hg;subst hg;exact(jq.1 h2).1
theorem Me(hR:Rel N np S0 w0 refs σ a w S γ){n:H}(hn:σ.bx n = .free){o:Obj}{b:Bx}{v:F}(hv:∀g,blk v=G g->g=w.heap.size)
  (hb:BxLe γ σ.bx (gset γ n v) (σ.setB n (.live b)).bx->fK S (w.alloc o) (gset γ n v) (σ.setB n (.live b)).bx n b) :
  Rel N np S0 w0 refs (σ.setB n (.live b)) a (w.alloc o) S (gset γ n v)/\BxLe γ σ.bx (gset γ n v) (σ.setB n (.live b)).bx:=by
 have hle:BxLe γ σ.bx (gset γ n v) (σ.setB n (.live b)).bx:=by
  intro k hk;have bz:k≠n:=by rintro rfl;exact hk hn
  rw[dn σ _ bz,ix γ v bz];exact⟨hk,rfl,λb hb=>⟨b,hb,.refl b⟩⟩
 have aQ:=B9 hR o
 refine⟨Rel.step (bx':=(σ.setB n (.live b)).bx) hR aQ hle ?_ ?_ ?_ hR.new ?_ ?_ ?_ hR.os hR.tape hR.output (λg hg _ h=>⟨heap_alloc_old w o hg,λk b' aW dO=>by
  by_cases hk:k=n
  .subst hk;rw[gK]at dO;have:=hv g dO;omega
  .rw[dn σ _ hk]at aW;rw[ix γ v hk]at dO;exact h k b' aW dO⟩),hle⟩
 .intro k b' aW;by_cases hk:k=n
  .subst hk;rw[hP]at aW;simp at aW;subst aW;exact hb hle
  .rw[dn σ _ hk]at aW;refine fK.keep aQ hle (ix γ v hk) (λg hg=>⟨?_,λ_=>Iff.rfl⟩) (hR.box k b' aW);exact heap_alloc_old w o (oI (hR.box k b' aW) hg)
 .intro k b' g aW hg;by_cases hk:k=n
  .subst hk;rw[gK]at hg;exact .inl (.inl (by rw[hv g hg];exact hR.grow))
  .rw[dn σ _ hk]at aW;rw[ix γ v hk]at hg;exact hR.own k b' g aW hg
 .intro k k' b1 b2 g bz h1 h2 hg aL;by_cases hk:k=n
  .subst hk;have bH:k'≠k:=λh=>bz h.symm;rw[gK]at hg;rw[dn σ _ bH]at h2;rw[ix γ v bH]at aL;have:=oI (hR.box k' b2 h2) aL;rw[hv g hg]at this;omega
  .by_cases bH:k'=n
   .subst bH;rw[gK]at aL;rw[dn σ _ hk]at h1;rw[ix γ v hk]at hg;have:=oI (hR.box k b1 h1) hg;rw[hv g aL]at this;omega
   .rw[dn σ _ hk]at h1;rw[dn σ _ bH]at h2;rw[ix γ v hk]at hg;rw[ix γ v bH]at aL;exact hR.apart k k' b1 b2 g bz h1 h2 hg aL
 .intro g i h;have:=hR.here g i h;simp;omega
 .intro g hg hr;rw[heap_alloc_old w o (by have:=hR.grow;omega)];exact hR.below g hg hr
 .have:=hR.grow;simp;omega
theorem HQ(hR:Rel N np S0 w0 refs σ a w S γ)(o:H):¬S w.heap.size o:=λh=>by have:=hR.here _ _ h;omega
theorem Mf(hR:Rel N np S0 w0 refs σ a w S γ){n:H}(hn:σ.bx n = .free){ls:D Leaf}{cur:É F}{e:Æ}
  (hl:All2 (bZ S w γ σ.bx) ls cur.toList)(h1:∀u∈cur.toList,One u) :
  Rel N np S0 w0 refs (σ.setB n (.live (.cell ls O))) a (w.alloc (.cells cur e)) S (gset γ n (.pointer (G ⟨w.heap.size,0,Y⟩)))/\
   cm S (w.alloc (.cells cur e)) (gset γ n (.pointer (G ⟨w.heap.size,0,Y⟩))) (σ.setB n (.live (.cell ls O))).bx (.one (.bp n 0)) (.pointer (G ⟨w.heap.size,0,Y⟩)):=by
 obtain⟨h,hle⟩:=Me hR hn (o:= .cells cur e) (b:= .cell ls O) (v:= .pointer (G ⟨w.heap.size,0,Y⟩)) (λg hg=>by simp[blk]at hg;exact hg.symm) (λhle=>
  ⟨w.heap.size,cur,e,gK _ _ _,heap_alloc_new w _,by rw[W (Nat.le_of_eq hl.length.symm)];exact hl.mono (λx u hx=>bZ.keep (B9 hR _) hle hx),λu hu=>h1 u (qq hu),λ_ o=>HQ hR o,smp_⟩)
 refine⟨h,⟨by rw[hP];simp,rfl,λb _=>⟨w.heap.size,gK _ _ _,rfl⟩⟩,λ_=>rfl⟩
theorem UL(hR:Rel N np S0 w0 refs σ a w S γ){n m:H}(hn:σ.bx n = .free){t:Ty}{xs:D t.den}{cur:É F}{e:Æ}
  (hl:Rep S w (.arr m t) xs cur.toList) :
  Rel N np S0 w0 refs (σ.setB n (.live (.arr m t xs))) a (w.alloc (.cells cur e)) S (gset γ n (.pointer (G ⟨w.heap.size,0,Y⟩)))/\
   cm S (w.alloc (.cells cur e)) (gset γ n (.pointer (G ⟨w.heap.size,0,Y⟩))) (σ.setB n (.live (.arr m t xs))).bx (.one (.bp n 0)) (.pointer (G ⟨w.heap.size,0,Y⟩)):=by
 obtain⟨h,hle⟩:=Me hR hn (o:= .cells cur e) (b:= .arr m t xs) (v:= .pointer (G ⟨w.heap.size,0,Y⟩)) (λg hg=>by simp[blk]at hg;exact hg.symm) (λ_=>
  ⟨w.heap.size,cur,e,gK _ _ _,heap_alloc_new w _,Rep.keep (B9 hR _) _ _ _ hl,λo=>HQ hR o⟩)
 refine⟨h,⟨by rw[hP];simp,rfl,λb _=>⟨w.heap.size,gK _ _ _,rfl⟩⟩,λ_=>rfl⟩
theorem xz{bx:H->BS}:∀(t:Ty),All2 (bZ S w γ bx) (pF t) (lK t)
 |.int _=>⟨rfl,trivial⟩
 |.bool=>⟨rfl,trivial⟩
 |.str=>⟨rfl,trivial⟩
 |.unit=>trivial
 |.wrap a=>xz a
 |.pair a b=>(xz a).append (xz b)
 |.list _=>⟨rfl,trivial⟩
 |.arr n a=>by
  show All2 _ ((List.range n).flatMap λ_=>pF a) ((M n (lK a)).flatten);induction n with
  |zero=>simp[All2]
  |succ n ih=>rw[ø,List.flatMap_append,List.replicate_succ',yj];refine ih.append ?_;simpa using xz a
theorem rV:∀(t:Ty),Rep S w t t.dflt (lK t)
 |.int _=>rfl
 |.bool=>rfl
 |.str=>rfl
 |.unit=>rfl
 |.wrap a=>rV a
 |.pair a b=>⟨_,_,rfl,rV a,rV b⟩
 |.list _=>⟨Y,0,rfl,jn _,by simp[maxLen],λ_=>rfl,λb hb=>by simp at hb⟩
 |.arr n a=>by
  refine⟨List.length_replicate,M n (lK a),?_,rfl⟩;have hz:=rV a
  have:∀n,All2 (λx c=>Rep S w a x c) (M n a.dflt) (M n (lK a)):=by
   intro n;induction n with
   |zero=>exact trivial
   |succ n ih=>exact⟨hz,ih⟩
  exact this n
theorem DE(hR:Rel N np S0 w0 refs σ a w S γ){k:H}{b b':Bx}(hk:σ.bx k = .live b){g:H}(hg:blk (γ k)=G g)(hS:∀o,¬S g o)(pH:lJ b b')
  {old new:É F}{e:Æ}(hh:w.heap[g]? = G (.cells old e (0,0)))
  (hb:BxLe γ σ.bx γ (σ.setB k (.live b')).bx->dK S w S (w.setRow g new)->fK S (w.setRow g new) γ (σ.setB k (.live b')).bx k b') :
  Rel N np S0 w0 refs (σ.setB k (.live b')) a (w.setRow g new) S γ:=by
 have hle:BxLe γ σ.bx γ (σ.setB k (.live b')).bx:=by
  intro k' bH;by_cases cD:k'=k
  .subst cD;rw[hP];exact⟨smp_,rfl,λb1 dR=>by simp at dR;subst dR;exact⟨b,hk,pH⟩⟩
  .rw[dn σ _ cD];exact⟨bH,rfl,λb hb=>⟨b,hb,.refl b⟩⟩
 have aQ:dK S w S (w.setRow g new):=by
  intro g' o h;refine⟨h,cell_setRow_other w g new ⟨g',o,Y⟩ ?_⟩
  rintro rfl
  exact hS o h
 have bU:∀k' b1,(σ.setB k (.live b')).bx k' = .live b1->∃b2,σ.bx k' = .live b2:=by
  intro k' b1 h1;by_cases cD:k'=k
  .subst cD;exact⟨b,hk⟩
  .rw[dn σ _ cD]at h1;exact⟨b1,h1⟩
 have aq:=(jq.1 hh).1
 refine Rel.step (bx':=(σ.setB k (.live b')).bx) hR aQ hle ?_ ?_ ?_ hR.new ?_ ?_ ?_ hR.os hR.tape hR.output (λg' _ _ h=>⟨setRow_other w g g' new (λe=>h k b hk (e▸hg)),λk' b1 h1=>by
  obtain⟨b2,h2⟩:=bU k' b1 h1;exact h k' b2 h2⟩)
 .intro k' b1 h1;by_cases cD:k'=k
  .subst cD;rw[hP]at h1;simp at h1;subst h1;exact hb hle aQ
  .rw[dn σ _ cD]at h1;refine fK.keep aQ hle rfl (λg' aL=>⟨?_,λ_=>Iff.rfl⟩) (hR.box k' b1 h1);exact setRow_other w g g' new (λh=>hR.apart k' k b1 b g cD h1 hk (h▸aL) hg)
 .intro k' b1 g' h1 aL;obtain⟨b2,h2⟩:=bU k' b1 h1;exact hR.own k' b2 g' h2 aL
 .intro k1 k2 b1 b2 g' bz h1 h2 aL;obtain⟨vF,nr⟩:=bU k1 b1 h1;obtain⟨vG,mo⟩:=bU k2 b2 h2;exact hR.apart k1 k2 vF vG g' bz nr mo aL
 .intro g' o h;rw[size_setRow];exact hR.here g' o h
 .intro g' aL hr;rw[setRow_other w g g' new ?_]
  .exact hR.below g' aL hr
  .rintro rfl
   rcases hR.own k b _ hk hg with h|h
   .exact h.no omg_ hr
   .exact hr h.1
 .rw[size_setRow];exact hR.grow
theorem HR{R:Leaf->F->Prop}{ls new:D Leaf}{cs zs:D F}{c:H}(h:All2 R ls cs)(h':All2 R new zs) :
  All2 R (sx ls c new) (cs.take c++zs++cs.drop (c+zs.length)):=by
 unfold sx;rw[h'.length];exact((h.take c).append h').append (h.drop _)
theorem UM{X zs:D F}{c n:H}(h:c+zs.length<=n)(h':n<=X.length):(X.take c++zs++X.drop (c+zs.length)).take n=(X.take n).take c++zs++(X.take n).drop (c+zs.length):=by
 have e1:(X.take n).take c=X.take c:=by rw[vp,È omg_]
 have e2:(X.take c++zs).length=c+zs.length:=sqo_;rw[e1,Ð,W (by rw[e2];exact h),e2,ü]
theorem DF{bx:H->BS}{c:Cel}{ls:D Leaf}{z:F}(h:c.leaves=G ls)(hc:cm S w γ bx c z) :
  All2 (bZ S w γ bx) ls z.cells.toList/\∀u∈z.cells.toList,One u:=by
 unfold Cel.leaves at h;split at h
 .simp at h
 .rename_i l hd;simp at h;subst h;have h1:=hc.2 hd;rw[B8 h1];exact⟨⟨hc.1,trivial⟩,λu hu=>by simp at hu;subst hu;exact h1⟩
 .simp at h;subst h;obtain⟨cs,rfl,ha,h1⟩:=hc;exact⟨ha,h1⟩
 .simp at h
end
theorem zZ{m:H}:∀{l:D (D F)},(∀c∈l,c.length=m)->l.flatten.length=l.length*m
 |[],_=>smp_
 |c::l,h=>by
  have h1:=h c smp_;have h2:=zZ (l:=l) (λd hd=>h d (qx _ hd));simp only[qm,jc,ji,Ç,Nat.one_mul];omega
section
variable{N:NT}{np:H}{S0:aY}{w0:Â}{refs:Refs}{σ:St}{a:Ù}{w:Â}{S:aY}{γ:H->F}
theorem oJ:∀(u:Ups)(σ:St){k:H},u.any (λy=>y.1==k)=O->(σ.upd u).bx k=σ.bx k
 |[],_,_,_=>rfl
 |e::u,σ,k,h=>by
  simp only[yn,Ô,beq_eq_false_iff_ne]at h;show ((σ.setB e.1 e.2).upd u).bx k=_;rw[oJ u _ h.2,dn σ _ (λhh=>h.1 hh.symm)]
theorem All2.all_len{t:Ty}{xs:D t.den}{css:D (D F)}(h:All2 (λx c=>Rep S w t x c) xs css):∀c∈css,c.length=t.size:=by
 intro c hc;obtain⟨x,_,hx⟩:=h.mem_right c hc;exact Rep.length _ _ _ hx
theorem Mg{cur:D F}{css:D (D F)}{m n i c:H}{ci zs:D F}(hm:∀c∈css,c.length=m)(hn:css.length=n)(eJ:cur.take (n*m)=css.flatten)
  (hi:css[i]? = G ci)(hc:c+zs.length<=m) :
  (cur.take (i*m+c)++zs++cur.drop (i*m+c+zs.length)).take (n*m)=(css.set i (ci.take c++zs++ci.drop (c+zs.length))).flatten:=by
 have aq:i<css.length:=(ka.1 hi).1;have oK:css[i]=ci:=(ka.1 hi).2;have ej:ci.length=m:=hm ci (ko hi);obtain⟨A,B,hA,hB,HS⟩:∃A B:D (D F),A.length=i/\A.length+1+B.length=n/\css=A++ci::B:=by refine⟨css.take i,css.drop (i+1),sqo_,sqo_,?_⟩;rw[<-oK,é aq,kq]
 have hmA:∀c∈A,c.length=m:=λd hd=>hm d (by rw[HS];simp[hd]);have hmB:∀c∈B,c.length=m:=λd hd=>hm d (by rw[HS];simp[hd]);have lA:A.flatten.length=i*m:=by rw[zZ hmA,hA]
 have lB:=zZ hmB;have sM:css.set i (ci.take c++zs++ci.drop (c+zs.length))=A++(ci.take c++zs++ci.drop (c+zs.length))::B:=by rw[HS,v6 _ _ omg_,hA,yx,ß]
 have DG:cur=A.flatten++(ci++(B.flatten++cur.drop (n*m))):=by have:=kq (n*m) cur;rw[eJ,HS,yj,qm]at this;rw[<-jh ci,<-jh];exact this.symm
 have dz:ci=ci.take c++((ci.drop c).take zs.length++ci.drop (c+zs.length)):=by have h1:=kq c ci;have h2:=kq zs.length (ci.drop c);rw[ý]at h2;rw[h2,h1]
 have lp:(ci.take c).length=c:=sqo_;have lq:((ci.drop c).take zs.length).length=zs.length:=sqo_;have lr:(ci.drop (c+zs.length)).length=m-(c+zs.length):=by simp[ej]
 generalize ci.take c=p at *
 generalize (ci.drop c).take zs.length=q at *
 generalize ci.drop (c+zs.length)=r at *
 generalize cur.drop (n*m)=tl at *
 have e1:cur.take (i*m+c)=A.flatten++p:=by rw[DG,dz];simp only[<-jh];rw[jh,jh,jh];exact Ö (by simp[lA,lp])
 have e2:cur.drop (i*m+c+zs.length)=r++(B.flatten++tl):=by rw[DG,dz];have:A.flatten++(p++(q++r)++(B.flatten++tl))=(A.flatten++p++q)++(r++(B.flatten++tl)):=smp_;rw[this];exact ù (by simp[lA,lp,lq];omega)
 rw[e1,e2,sM,yj,qm];have:A.flatten++p++zs++(r++(B.flatten++tl))=(A.flatten++(p++zs++r++B.flatten))++tl:=smp_;rw[this];refine Ö ?_;simp only[jc,lA,lp,lr,lB];have:n*m=i*m+m+B.length*m:=by rw[<-hB,hA,Ç,Ç,Nat.one_mul]
 omega
theorem HT{P:À}{T:H->Á TyI}(hT:db P T){t:Æ}{ti:TyI}(ht:T t=G ti){g o:H}{z:F}{cur:É F}{e:Æ}
  (hh:w.heap[g]? = G (.cells cur e (0,0)))(hs:z.cells.toList.length=ti.size)(hl:o+z.cells.toList.length<=cur.size)(h1:∀u∈z.cells.toList,One u) :
  (ï t (.pointer (G ⟨g,o,Y⟩)) z).run P w = .ok () (w.setRow g (cur.toList.take o++z.cells.toList++cur.toList.drop (o+z.cells.toList.length)).toArray):=by
 have aQ:=run_storeCells_at P g o e z.cells.toList 0 cur w hh (by simpa using hl) h1;simp only[vr]at aQ;have bz:¬z.cells.size≠ti.size:=by simpa using hs
 simp only[ï,J,þ,Ã,I,storeVar,kA hT ht,Sem.run_ite,if_neg bz,aQ]
theorem jxj{P:À}{E:Env}(hT:db P E.T)(hR:Rel N np S0 w0 refs σ a w S γ){rd rdf:H->BS}(bj:RdOk σ rd)(bK:RdF np σ rdf){t:Æ}{ti:TyI}(ht:E.T t=G ti)
  {x:Leaf}{val:Cel}{u:Ups}{ux z:F}(h:xk rd rdf ti.size val x=G u)(hx:bZ S w γ σ.bx x ux)(hz:cm S w γ σ.bx val z) :
  ∃w' S',(ï t ux z).run P w = .ok () w'/\Rel N np S0 w0 refs (σ.upd u) a w' S' γ:=by
 unfold xk at h;split at h
 .rename_i k c;split at h
  .rename_i ls hk;have hk:=bj.live hk;split at h
   .rename_i new dX;split at h
    .rename_i hc;simp only[j5]at h;subst h;obtain⟨cp,hle⟩:=hc;obtain⟨ha,h1⟩:=DF dX hz;obtain⟨g,hg,hu⟩:=hx.2.2 _ hk;obtain⟨g',cur,e,aL,hh,eJ,fL,hS,_⟩:=hR.box k _ hk;rw[hg]at aL;simp at aL;subst aL;subst hu;have hlen:=ha.length;have vI:=eJ.length;simp at vI;refine⟨_,S,HT hT ht hh omg_ (by simp at hlen ⊢;omega) h1,?_⟩;refine DE hR hk (by rw[hg];rfl) (hS rfl) (b':= .cell (sx ls c new) O) trivial hh (λhle aQ=>?_);refine⟨g,_,e,hg,setRow_heap w g cur _ e (0,0) hh,?_,?_,λ_=>hS rfl,smp_⟩
     .have:=HR (c:=c) (eJ.mono (λx u hx=>bZ.keep aQ hle hx)) (ha.mono (λx u hx=>bZ.keep aQ hle hx));have dS:(sx ls c new).length=ls.length:=by simp[sx];omega
      rw[dS];have:=UM (X:=cur.toList) (zs:=z.cells.toList) (c:=c) (n:=ls.length) omg_ sqo_;simp only[this];assumption
     .intro v hv;have dS:(sx ls c new).length=ls.length:=by simp[sx];omega
      rw[dS]at hv;have Mh:=UM (X:=cur.toList) (zs:=z.cells.toList) (c:=c) (n:=ls.length) omg_ sqo_;simp only[Mh]at hv;simp only[jj]at hv;rcases hv with (hv|hv)|hv
      .exact fL v (qq hv)
      .exact h1 v hv
      .exact fL v (ve hv)
    .simp at h
   .simp at h
  .rename_i n el xs hk;have hk:=bj.live hk;split at h
   .rename_i jB;subst jB;split at h
    .rename_i n' a' ys;split at h
     .rename_i LM jI;split at h
      .rename_i cp;simp only[j5]at h;subst h;have vJ:=oG jI;simp only[TV.mk.injEq,Ty.arr.injEq]at vJ;obtain⟨⟨rfl,rfl⟩,vJ⟩:=vJ;obtain rfl:=eq_of_heq vJ;obtain⟨cs,rfl,hr⟩:=hz;obtain⟨g,hg,hu⟩:=hx.2.2 _ hk;obtain⟨g',cur,e,aL,hh,bR,hS⟩:=hR.box k _ hk;rw[hg]at aL;simp at aL;subst aL;subst hu;have pJ:=Rep.length _ _ _ hr;have uG:=Rep.length _ _ _ bR;have e1:(Value.agg cs).cells.toList=cs.toList:=rfl;refine⟨_,S,HT hT ht hh (by rw[e1,pJ,cp];rfl) (by rw[e1,pJ,<-uG];simp) (by rw[e1];exact Rep.one _ _ _ hr),?_⟩;refine DE hR hk (by rw[hg];rfl) hS (b':= .arr _ _ _) ⟨rfl,rfl⟩ hh (λhle aQ=>?_);refine⟨g,_,e,hg,setRow_heap w g cur _ e (0,0) hh,?_,hS⟩;have hd:cur.toList.drop (0+cs.toList.length)=[]:=jd (by rw[pJ,uG];omega);have hX:(cur.toList.take 0++(Value.agg cs).cells.toList++cur.toList.drop (0+(Value.agg cs).cells.toList.length)).toArray.toList=cs.toList:=by rw[e1,hd];simp
       rw[hX];exact Rep.keep aQ _ _ _ hr
      .simp at h
     .simp at h
    .simp at h
   .simp at h
  .simp at h
 .rename_i k i c;split at h
  .rename_i el at_ xs hk;have ct:=bj.nm hk;have hk:=bj.live hk;split at h
   .rename_i new dX;split at h
    .rename_i hc;obtain⟨cp,hle⟩:=hc;split at h
     .rename_i en u1 sN;split at h
      .simp at h
      .rename_i uH;simp only[j5]at h;subst h;obtain⟨ha,h1⟩:=DF dX hz;have hlen:=ha.length;have vL:z.cells.toList.length=z.cells.size:=qt;obtain⟨_,hi,g,cap,hg,hu⟩:=hx.2.2 _ hk;obtain⟨css,bd,aA,hSk⟩:=jZ ct (hR.box k _ hk);rcases bd.2 with⟨_,h0⟩|⟨g',hG,cur,aL,gH,hh,kD,ml,dy,eI⟩
       .omega
       rw[hg]at aL;simp at aL;obtain⟨rfl,rfl⟩:=aL;subst hu;obtain⟨ci,oK,bR,dF⟩:=zV (λx c hx=>Rep.length at_ x c hx) aA i at_.dflt hi;have ej:=Rep.length _ _ _ bR;have dz:=HR (c:=c) (uF (rT at_ _ ci bR)) ha;obtain⟨hf,he,hp⟩:=zX bK hR.box at_ sN dz;obtain⟨S1,bV,dh,dY,dG⟩:=qN u1 σ S hR hf;have dE:(σ.upd u1).bx k = .live (.lst el at_ xs O):=by rw[oJ u1 σ (z8.2 uH)];exact hk
       obtain⟨css1,UN,UO,UP⟩:=jZ ct (bV.box k _ dE);have xA:∀o,¬S1 g o:=(UP g (by rw[hg];rfl)).1 rfl;have UQ:i*at_.size+at_.size<=xs.length*at_.size:=by have:(i+1)*at_.size<=xs.length*at_.size:=k7 _ omg_;rwa[yf]at this
       have UR:xs.length*at_.size<=cap*at_.size:=k7 _ kD;have lN:c+z.cells.toList.length<=at_.size:=omg_;refine⟨_,S1,HT hT ht hh omg_ (by rw[dy];omega) h1,?_⟩;rw[nt];refine DE bV dE (by rw[hg];rfl) xA (b':= .lst el at_ (xs.set i en) O) ⟨rfl,rfl,λ_=>smp_⟩ hh (λkO dp=>?_);have sP:Rep S1 w at_ en (ci.take c++z.cells.toList++ci.drop (c+z.cells.toList.length)):=by have:=hp S1 w dh dY;rwa[W sqo_]at this
       refine Dv ct ⟨css.set i (ci.take c++z.cells.toList++ci.drop (c+z.cells.toList.length)),⟨?_,.inr ⟨g,cap,_,?_,kp _,setRow_heap w g cur _ el (0,0) hh,by simpa using kD,ml,?_,?_⟩⟩,?_,λg' aL=>?_⟩
       .rw[zZ (m:=at_.size)]
        .simp[aA.length]
        .intro d hd;rcases List.mem_or_eq_of_mem_set hd with hd|rfl
         .exact All2.all_len aA d hd
         .simp;omega
       .simpa using hg
       .simp only[yb,jc,qk,zj,qt];omega
       .simp only[ú];exact Mg (All2.all_len aA) aA.length.symm eI oK lN
       .exact(aA.mono (λx c hx=>Rep.keep (dh.trans dp) _ _ _ hx)).set i _ _ (Rep.keep dp _ _ _ sP)
       .rw[hg]at aL;simp[blk]at aL;subst aL;exact⟨λ_=>xA,smp_⟩
     .simp at h
    .simp at h
   .simp at h
  .rename_i n at_ xs hk;have hk:=bj.live hk;split at h
   .rename_i new dX;split at h
    .rename_i hc;obtain⟨cp,hle⟩:=hc;split at h
     .rename_i en u1 sN;split at h
      .simp at h
      .rename_i uH;simp only[j5]at h;subst h;obtain⟨ha,h1⟩:=DF dX hz;have hlen:=ha.length;have vL:z.cells.toList.length=z.cells.size:=qt;obtain⟨hi,g,hg,hu⟩:=hx.2.2 _ hk;obtain⟨g',cur,e,aL,hh,⟨hn,css,aA,eJ⟩,hS⟩:=hR.box k _ hk;rw[hg]at aL;simp at aL;subst aL;subst hu;obtain⟨ci,oK,bR,dF⟩:=zV (λx c hx=>Rep.length at_ x c hx) aA i at_.dflt omg_;have ej:=Rep.length _ _ _ bR;have dz:=HR (c:=c) (uF (rT at_ _ ci bR)) ha;obtain⟨hf,he,hp⟩:=zX bK hR.box at_ sN dz;obtain⟨S1,bV,dh,dY,dG⟩:=qN u1 σ S hR hf;have dE:(σ.upd u1).bx k = .live (.arr n at_ xs):=by rw[oJ u1 σ (z8.2 uH)];exact hk
       obtain⟨g1,cur1,e1,vN,hh1,_,xA⟩:=bV.box k _ dE;rw[hg]at vN;simp at vN;subst vN;have DH:cur.toList.length=n*at_.size:=by rw[eJ,zZ (All2.all_len aA),<-aA.length,hn]
       have UQ:i*at_.size+at_.size<=n*at_.size:=by have:(i+1)*at_.size<=n*at_.size:=k7 _ omg_;rwa[yf]at this
       have lN:c+z.cells.toList.length<=at_.size:=omg_;refine⟨_,S1,HT hT ht hh omg_ (by rw[<-qt,DH];omega) h1,?_⟩;rw[nt];refine DE bV dE (by rw[hg];rfl) xA (b':= .arr n at_ (xs.set i en)) ⟨rfl,rfl⟩ hh (λkO dp=>?_);have sP:Rep S1 w at_ en (ci.take c++z.cells.toList++ci.drop (c+z.cells.toList.length)):=by have:=hp S1 w dh dY;rwa[W sqo_]at this
       refine⟨g,_,e,hg,setRow_heap w g cur _ e (0,0) hh,⟨?_,css.set i (ci.take c++z.cells.toList++ci.drop (c+z.cells.toList.length)),?_,?_⟩,xA⟩
       .show Í (List.set xs i en)=n;rw[ú];exact hn
       .exact(aA.mono (λx c hx=>Rep.keep (dh.trans dp) _ _ _ hx)).set i _ _ (Rep.keep dp _ _ _ sP)
       .have HU:=Mg (cur:=cur.toList) (n:=n) (zs:=z.cells.toList) (All2.all_len aA) (by rw[<-aA.length,hn]) (by rw[<-DH,List.take_length,eJ]) oK lN;rw[<-HU];symm;refine(W ?_).trans smp_;simp only[jc,qk,zj];omega
     .simp at h
    .simp at h
   .simp at h
  .simp at h
 .simp at h
end
theorem xB{m:H}:∀{l:D (D F)}(i:H),(∀c∈l,c.length=m)->(l.take i).flatten=l.flatten.take (i*m)
 |[],i,_=>smp_
 |c::l,0,_=>smp_
 |c::l,i+1,h=>by
  have hc:=h c smp_;have ih:=xB (l:=l) i (λd hd=>h d (by simp[hd]));rw[List.take_succ_cons,qm,ih,qm,yf,Nat.add_comm,Ð,hc];rw[W (l:=c) omg_,show m+i*m-m=i*m by omega]
theorem DI{m:H}:∀{l:D (D F)}(i:H),(∀c∈l,c.length=m)->(l.drop i).flatten=l.flatten.drop (i*m)
 |[],i,_=>smp_
 |c::l,0,_=>smp_
 |c::l,i+1,h=>by
  have hc:=h c smp_;have ih:=DI (l:=l) i (λd hd=>h d (by simp[hd]));rw[List.drop_succ_cons,ih,qm,yf,Nat.add_comm,List.drop_append,hc];rw[jd (l:=c) omg_,jp,show m+i*m-m=i*m by omega]
section
variable{N:NT}{np:H}{S0:aY}{w0:Â}{refs:Refs}{σ:St}{a:Ù}{w:Â}{S:aY}{γ:H->F}
theorem Mi(hR:Rel N np S0 w0 refs σ a w S γ){k:H}{b:Bx}(hk:σ.bx k = .live b):Rel N np S0 w0 refs (σ.setB k .gone) a w S γ:=by
 have hle:BxLe γ σ.bx γ (σ.setB k .gone).bx:=by
  intro k' bH;by_cases cD:k'=k
  .subst cD;rw[hP];exact⟨smp_,rfl,λb hb=>by simp at hb⟩
  .rw[dn σ _ cD];exact⟨bH,rfl,λb hb=>⟨b,hb,.refl b⟩⟩
 have bU:∀k' b1,(σ.setB k .gone).bx k' = .live b1->σ.bx k' = .live b1:=by
  intro k' b1 h1;by_cases cD:k'=k
  .subst cD;rw[hP]at h1;simp at h1
  .rwa[dn σ _ cD]at h1
 exact Rel.step (bx':=(σ.setB k .gone).bx) hR (.refl S w) hle (λk' b' h=>fK.keep (.refl S w) hle rfl (λ_ _=>⟨rfl,λ_=>Iff.rfl⟩) (hR.box k' b' (bU k' b' h)))
  (λk' b' g h=>hR.own k' b' g (bU k' b' h)) (λk1 k2 b1 b2 g bz h1 h2=>hR.apart k1 k2 b1 b2 g bz (bU _ _ h1) (bU _ _ h2)) hR.new hR.here hR.below hR.grow hR.os hR.tape hR.output
  (λg _ _ h=>⟨rfl,λk' b' aW=>h k' b' (bU k' b' aW)⟩)
theorem HV(hR:Rel N np S0 w0 refs σ a w S γ){d:H}(hd:σ.bx d = .free){w':Â}{S':aY}{v':F}{e:H}(hm:isM e=O){el:Ty}{zs:D el.den}{frz:Ú}{css:D (D F)}
  (aQ:dK S w S' w')(sQ:∀g,g<w.heap.size->blk v'≠G g->w'.heap[g]? = w.heap[g]?)(cp:w.heap.size<=w'.heap.size)
  (hv:∀g,blk v'=G g->Own w0 refs g/\(∀k b,σ.bx k = .live b->blk (γ k)≠G g)/\g<w'.heap.size)
  (hS:∀g o,S' g o->S g o\/blk v'=G g)(os:w'.os=w.os)(tape:w'.tape=w.tape)(output:w'.output=w.output)
  (cV:w'.ownsRow 0 e el.size v' zs.length css.flatten)(aA:All2 (λx c=>Rep S' w' el x c) zs css)
  (Mj:∀g,blk v'=G g->(frz=O->∀o,¬S' g o)/\(frz=Ä->∀o,S' g o↔o<zs.length*el.size))(US:∀g,blk v'=G g->refs.kw g=Y) :
  Rel N np S0 w0 refs (σ.setB d (.live (.lst e el zs frz))) a w' S' (gset γ d v')/\
   cm S' w' (gset γ d v') (σ.setB d (.live (.lst e el zs frz))).bx (.one (.ol d)) v':=by
 have hle:BxLe γ σ.bx (gset γ d v') (σ.setB d (.live (.lst e el zs frz))).bx:=by
  intro k hk;have bz:k≠d:=by rintro rfl;exact hk hd
  rw[dn σ _ bz,ix γ v' bz];exact⟨hk,rfl,λb hb=>⟨b,hb,.refl b⟩⟩
 have dm:One v':=by rcases cV.2 with⟨rfl,_⟩|⟨g,cap,cur,rfl,_⟩<;>rfl
 refine⟨Rel.step (bx':=(σ.setB d (.live (.lst e el zs frz))).bx) hR aQ hle ?_ ?_ ?_ ?_ ?_ ?_ (qi hR.grow cp) (os.trans hR.os) (tape.trans hR.tape) (output.trans hR.output) (λg hg Ca h=>⟨sQ g hg (λhh=>Ca (US g hh)),λk b' aW dO=>by
  by_cases hk:k=d
  .subst hk;rw[gK]at dO;exact Ca (US g dO)
  .rw[dn σ _ hk]at aW;rw[ix γ v' hk]at dO;exact h k b' aW dO⟩),?_⟩
 .intro k b hb;by_cases hk:k=d
  .subst hk;rw[hP]at hb;simp at hb;subst hb;refine Dv hm ⟨css,by rw[gK];exact cV,aA,λg hg=>?_⟩;rw[gK]at hg;exact Mj g hg
  .rw[dn σ _ hk]at hb;refine fK.keep aQ hle (ix γ v' hk) (λg hg=>?_) (hR.box k b hb);have Aa:=oI (hR.box k b hb) hg;have bz:blk v'≠G g:=λhh=>(hv g hh).2.1 k b hb hg;exact⟨sQ g Aa bz,λo=>⟨λhs=>(hS g o hs).resolve_right bz,λhs=>(aQ g o hs).1⟩⟩
 .intro k b g hb hg;by_cases hk:k=d
  .subst hk;rw[gK]at hg;exact .inl (hv g hg).1
  .rw[dn σ _ hk]at hb;rw[ix γ v' hk]at hg;exact hR.own k b g hb hg
 .intro k k' b1 b2 g bz h1 h2 hg aL;by_cases hk:k=d
  .subst hk;have bH:k'≠k:=λh=>bz h.symm;rw[gK]at hg;rw[dn σ _ bH]at h2;rw[ix γ v' bH]at aL;exact(hv g hg).2.1 k' b2 h2 aL
  .by_cases bH:k'=d
   .subst bH;rw[gK]at aL;rw[dn σ _ hk]at h1;rw[ix γ v' hk]at hg;exact(hv g aL).2.1 k b1 h1 hg
   .rw[dn σ _ hk]at h1;rw[dn σ _ bH]at h2;rw[ix γ v' hk]at hg;rw[ix γ v' bH]at aL;exact hR.apart k k' b1 b2 g bz h1 h2 hg aL
 .intro g o hs;rcases hS g o hs with hs|hs
  .exact hR.new g o hs
  .exact .inr (hv g hs).1
 .intro g o hs;rcases hS g o hs with hs|hs
  .have:=hR.here g o hs;omega
  .exact(hv g hs).2.2
 .intro g hg hr;by_cases hb:blk v'=G g
  .exact((hv g hb).1.no hg hr).elim
  .rw[sQ g (by have:=hR.grow;omega) hb];exact hR.below g hg hr
 .refine⟨⟨by rw[hP];simp,dm,λb hb=>(gK γ d v').symm⟩,λ_=>dm⟩
theorem jxk{P:À}{T:H->Á TyI}(hT:db P T){t ty:Æ}{ti:TyI}(ht:T t=G ti){el:Ty}(bO:ti.ty=G (.list el))
  {v:F}{n:H}{xs:D F}(bd:w.ownsRow 0 ti.elem el.size v n xs){ad:Á Addr}{m c:H}{news:D F}(fQ:ad=Y->m=0/\c=0)(hl:news.length=m*el.size)
  (jJ:∀b,ad=G b->∀(j:H)(u:F),news[j]? = G u->w.cell? (b.add j)=G u)(h1:∀u∈news,One u)(fi:n+m<=aG) :
  ∃v' w',(Î #[t,t] ty #[v,.slice ad m c]).run P w = .ok v' w'/\w'.ownsRow 0 ti.elem el.size v' (n+m) (xs++news)/\w'.os=w.os/\w'.tape=w.tape/\w'.output=w.output/\w.heap.size<=w'.heap.size/\
   ((v'=v/\w'=w)\/(blk v'=blk v/\(∃g,blk v=G g)/\∀g,blk v≠G g->w'.heap[g]? = w.heap[g]?)\/(blk v'=G w.heap.size/\∀g,g<w.heap.size->w'.heap[g]? = w.heap[g]?)):=by
 obtain⟨hd,cq,te,cT,cU⟩:=pG hT ht bO;have cp:=od hT cT cU;obtain⟨i,de,hi,hde,his,DJ,_,_,hz⟩:=oc hT cT;obtain⟨_,⟨z,hz,hQ⟩,_⟩:=hz el cU;have fR:i.size=el.size:=omg_;have lP:z.cells.size=el.size:=by have h:=Rep.length el el.dflt _ (rV (S:=λ_ _=>False) (w:=w) el);rw[<-hQ]at h;simpa using h
 have DK:n+m<=maxLen:=by simp only[maxLen,aG]at *;omega
 have mq:(n+m)*i.bytes<=140737488355328:=by have:(n+m)*i.bytes<=aG*32768:=ql fi DJ;simp only[aG]at this;omega
 have hlen:(xs++news).length=(n+m)*el.size:=by rw[jc,bd.1,hl,Ç]
 cases ad with
 |none=>obtain⟨rfl,rfl⟩:=fQ rfl;have oh:news=[]:=kf (by simpa using hl);subst oh;exact⟨v,w,run_append_owned_none (P:=P) w 0 t ty ti.elem i el.size hd hi v n xs bd,by simpa using bd,rfl,rfl,rfl,jn _,.inl ⟨rfl,rfl⟩⟩
 |some b=>
  have jJ:=jJ b rfl;rcases bd.2 with⟨rfl,rfl⟩|⟨g,cap,cur,rfl,_,hg,kD,ml,dy,eI⟩
  .have xC:w.ownsRow w.heap.size ti.elem el.size (.slice Y 0 0) 0 xs:=⟨bd.1,.inl ⟨rfl,rfl⟩⟩;obtain⟨v',w',hr,ho,HW,hv⟩:=run_append_own (P:=P) w w.heap.size t ty ti.elem i z el.size i.bytes hd hi hz fR rfl lP cq _ 0 xs xC b m c news hl jJ h1 DK mq (jn _);refine⟨v',w',hr,⟨ho.1,ho.2.imp id (λ⟨g,cap,cur,h1,_,h3⟩=>⟨g,cap,cur,h1,kp _,h3⟩)⟩,HW.os,HW.tape,HW.output,HW.size,?_⟩;by_cases hm:m=0
   .subst hm;have oh:news=[]:=kf (by simpa using hl);subst oh;have:=run_append_own (P:=P) w w.heap.size t ty ti.elem i z el.size i.bytes hd hi hz fR rfl lP cq _ 0 xs xC b 0 c [] hl jJ h1 DK mq (jn _);left;have hx:(Î #[t,t] ty #[.slice Y 0 0,.slice (G b) 0 c]).run P w = .ok (.slice Y 0 0) w:=by simp[Î,run_underlying hd,sizeOf,typeInfo,hi,ð,Ï,loadCells,loadCellsFrom]
    rw[hx]at hr;simp at hr;exact⟨hr.1.symm,hr.2.symm⟩
   .have vO:=run_append_nil (P:=P) w t ty ti.elem i z hd hi hz b m c news (by rw[fR];exact hl) jJ omg_ (by simp only[maxLen]at DK;omega) (by have:=mq;simp only[ki]at this;omega);rw[vO]at hr;simp at hr;obtain⟨rfl,rfl⟩:=hr;exact .inr (.inr ⟨rfl,λg hg=>heap_alloc_old w.drew _ hg⟩)
  .by_cases sR:n+m<=cap
   .have DL:n*i.size+news.length<=cur.size:=by rw[fR,hl,dy,<-Ç];exact k7 _ sR
    have hr:=run_append_room (P:=P) w t ty ti.elem i hd hi g n cap cur hg b m c news (by rw[fR];exact hl) jJ h1 sR DL;rw[fR]at hr DL;refine⟨_,_,hr,⟨hlen,.inr ⟨g,cap,_,rfl,kp _,setRow_heap w g cur _ ti.elem _ hg,sR,ml,?_,?_⟩⟩,rfl,rfl,rfl,by rw[size_setRow];exact jn _,.inr (.inl ⟨rfl,⟨g,rfl⟩,λg' aL=>?_⟩)⟩
    .simp only[yb,jc,qk,zj,qt];omega
    .rw[eI,<-hlen];exact ÿ
    .exact setRow_other w g g' _ (λh=>aL (by rw[h];rfl))
   .have holds:∀(j:H)(u:F),xs[j]? = G u->w.cell? ((⟨g,0,Y⟩:Addr).add j)=G u:=bd.cells (g:=g) rfl;have hr:=run_append_grow (P:=P) w t ty ti.elem i z hd hi hz ⟨g,0,Y⟩ n cap xs (by rw[fR];exact bd.1) holds b m c news (by rw[fR];exact hl) jJ omg_ (by simp only[maxLen]at DK;omega) (growslice_fits omg_ mq);have qQ:=grownCap_ge w (n+m) cap ti.elem;refine⟨_,_,hr,⟨hlen,.inr ⟨w.heap.size,_,_,rfl,kp _,heap_alloc_new w.drew _,qQ,grownCap_le_maxLen w (n+m) cap ti.elem DK,?_,?_⟩⟩,rfl,rfl,rfl,smp_,.inr (.inr ⟨rfl,λg' aL=>heap_alloc_old w.drew _ aL⟩)⟩
    .simp only[Array.size_append,yb,size_zeroCells,lP,bd.1,hl,<-Ç];congr 1;omega
    .simp only[Array.toList_append,jh];rw[<-jh,<-hlen];exact ÿ
theorem UT(hR:Rel N np S0 w0 refs σ a w S γ){rd:H->BS}(bj:RdOk σ rd){el:Ty}{y:Leaf}{ys:D el.den}{z:F}(h:appX rd el y=G ys)(hy:bZ S w γ σ.bx y z) :
  ∃ad c css,z = .slice ad ys.length c/\(ad=Y->ys.length=0/\c=0)/\All2 (λx c=>Rep S w el x c) ys css/\
   ∀b,ad=G b->∀(j:H)(u:F),css.flatten[j]? = G u->w.cell? (b.add j)=G u:=by
 unfold appX at h;split at h
 .rename_i k;split at h
  .rename_i e HX xs f hk;have:=oG h;cases this;have ct:=bj.nm hk;have hk:=bj.live hk;have hz:=hy.2.2 _ hk;obtain⟨css,bd,aA,_⟩:=jZ ct (hR.box k _ hk);rcases bd.2 with⟨hg,h0⟩|⟨g,cap,cur,hg,_⟩
   .exact⟨Y,0,css,by rw[hz,hg,h0],λ_=>⟨h0,rfl⟩,aA,λb hb=>by simp at hb⟩
   .refine⟨G ⟨g,0,Y⟩,cap,css,by rw[hz,hg],smp_,aA,λb hb j u hu=>?_⟩;simp at hb;subst hb;exact bd.cells (g:=g) (by rw[hg];rfl) j u hu
  .simp at h
 .rename_i t xs;have:=oG h;cases this;obtain⟨ad,cap,hz,hle,ml,hn,hb⟩:=hy;simp at hz;cases ad with
  |none=>have h0:=hn rfl;have jC:Í ys=0:=omg_;have:ys=[]:=kf jC;subst this;exact⟨Y,cap,[],hz,λ_=>⟨rfl,h0⟩,trivial,λb hb=>by simp at hb⟩
  |some b=>
   obtain⟨dz,css,ha,hl⟩:=hb b rfl;refine⟨G b,cap,css,hz,smp_,ha,λb' aW j u hu=>?_⟩;simp at aW;subst aW
   have dz:=dz (λe=>by
    rw[e]at ha;cases css with
    |nil=>simp at hu
    |cons c cs=>exact ha)
   obtain⟨g,o,sp⟩:=b;simp at dz;subst dz;rw[Å];exact(hl j u hu).2
 .simp at h;subst h;exact⟨Y,0,[],hy,λ_=>⟨rfl,rfl⟩,trivial,λb hb=>by simp at hb⟩
 .rename_i k j;split at h
  .rename_i e HX xs f hk;split at h
   .rename_i dj jI;have:=oG jI;cases this;simp only[j5]at h;subst h;have ct:=bj.nm hk;have hk:=bj.live hk;obtain⟨_,hj,ad,hG,aL,hu⟩:=hy.2.2 _ hk;obtain⟨css,bd,aA,_⟩:=jZ ct (hR.box k _ hk);have ej:=All2.all_len aA;have hlen:(Ê j dj).length=dj.length-j:=smp_;rcases bd.2 with⟨hg,h0⟩|⟨g,cap,cur,hg,_,hh,kD,_⟩
    .rw[hg]at aL;simp only[Z]at aL;obtain⟨rfl,_,rfl⟩:=aL;have rW:dj=[]:=kf h0;subst rW;refine⟨Y,0,[],by rw[hu];simp,λ_=>⟨smp_,rfl⟩,by simp;trivial,λb hb=>by simp at hb⟩
    .rw[hg]at aL;simp only[Z,qc]at aL;obtain⟨rfl,rfl⟩:=aL;by_cases hc:cap=j
     .have rW:Ê j dj=[]:=jd omg_;rw[rW];rw[if_pos hc]at hu;exact⟨G ⟨g,0,Y⟩,cap-j,[],by rw[hu];simp;omega,smp_,trivial,λb hb q v hq=>by simp at hq⟩
     .rw[if_neg hc]at hu;simp only[qj,Å,ki]at hu;refine⟨G ⟨g,j*el.size,Y⟩,cap-j,css.drop j,by rw[hu,hlen],smp_,aA.drop j,λb hb q v hq=>?_⟩;simp at hb;subst hb;have hfd:(css.drop j).flatten=css.flatten.drop (j*el.size):=DI j ej;rw[hfd,à]at hq;have:=bd.cells (g:=g) (by rw[hg];rfl) _ v hq;rw[Å]at this ⊢;simpa using this
   .simp at h
  .simp at h
 .simp at h
theorem jxl{P:À}{E:Env}(hT:db P E.T)(hR:Rel N np S0 w0 refs σ a w S γ){rd rdf:H->BS}(bj:RdOk σ rd)(bK:RdF np σ rdf){t ty:Æ}{ti:TyI}(ht:E.T t=G ti)
  {el:Ty}(bO:ti.ty=G (.list el)){x y:Leaf}{xs ys:D el.den}{frz:Ú}{u:Ups}{d:H}{vx vy:F}(h1:appS rdf ti.elem el x=G (xs,frz,u))(h2:appX rd el y=G ys)
  (hd:σ.bx d = .free)(fi:xs.length+ys.length<=aG)(hx:bZ S w γ σ.bx x vx)(hy:bZ S w γ σ.bx y vy) :
  ∃v' w' S' γ',(Î #[t,t] ty #[vx,vy]).run P w = .ok v' w'/\Rel N np S0 w0 refs (σ.upd (u++[(d,.live (.lst ti.elem el (xs++ys) frz))])) a w' S' γ'/\
   cm S' w' γ' (σ.upd (u++[(d,.live (.lst ti.elem el (xs++ys) frz))])).bx (.one (.ol d)) v':=by
 obtain⟨ad,c,cy,HY,fQ,Ab,dF⟩:=UT hR bj h2 hy;subst HY;have vQ:cy.flatten.length=ys.length*el.size:=All2.flatten_length (λx c hx=>Rep.length el x c hx) Ab;have h1y:∀u∈cy.flatten,One u:=by intro u hu;obtain⟨c,hc,zT⟩:=List.mem_flatten.1 hu;obtain⟨x,_,hx⟩:=Ab.mem_right c hc;exact Rep.one el x c hx u zT
 obtain⟨qL,cq,te,cT,cU⟩:=pG hT ht bO
 have src:∃σ1,σ.upd u=σ1/\Rel N np S0 w0 refs σ1 a w S γ/\σ1.bx d = .free/\∃cx,w.ownsRow 0 ti.elem el.size vx xs.length cx.flatten/\All2 (λx c=>Rep S w el x c) xs cx/\
   ∀g,blk vx=G g->Own w0 refs g/\g<w.heap.size/\(∀k b,σ1.bx k = .live b->blk (γ k)≠G g)/\(frz=O->∀o,¬S g o)/\(frz=Ä->∀o,S g o↔o<xs.length*el.size)/\refs.kw g=none:=by
  unfold appS at h1;split at h1
  .rename_i k;split at h1
   .rename_i e' HX dj f hk;split at h1
    .rename_i UJ jI;split at h1
     .rename_i he;simp only[j5,j9]at h1;obtain⟨rfl,rfl,rfl⟩:=h1;have:=oG jI;cases this;subst he;have pK:=bK.par hk;have ct:=bK.ok.nm hk;have hk:=bK.ok.live hk;have hz:=hx.2.2 _ hk;obtain⟨css,bd,aA,hS⟩:=jZ ct (hR.box k _ hk);have uI:d≠k:=by rintro rfl;rw[hd]at hk;simp at hk
      refine⟨σ.setB k .gone,rfl,Mi hR hk,by rw[dn σ _ uI];exact hd,css,by rw[hz];exact bd,aA,λg hg=>?_⟩;rw[hz]at hg;refine⟨?_,oI (hR.box k _ hk) hg,λk' b' aW aL=>?_,(hS g hg).1,(hS g hg).2,hR.kw_live hk hg⟩
      .rcases hR.own k _ g hk hg with h|h
       .exact h
       .rw[pK]at h;simp at h
      .have cD:k'≠k:=by rintro rfl;rw[hP]at aW;simp at aW
       rw[dn σ _ cD]at aW;exact hR.apart k' k _ _ g cD aW hk aL hg
     .simp at h1
    .simp at h1
   .simp at h1
  .simp only[j5,j9]at h1;obtain⟨rfl,rfl,rfl⟩:=h1;have hz:vx = .slice Y 0 0:=hx;subst hz;exact⟨σ,rfl,hR,hd,[],á w 0 ti.elem el.size,trivial,λg hg=>by simp[blk]at hg⟩
  .simp at h1
 obtain⟨σ1,hσ1,bV,rU,cx,bd,HZ,hblk⟩:=src;rw[nt,hσ1];obtain⟨v',w',hr,cV,os,tape,output,cp,cS⟩:=jxk hT ht bO (ty:=ty) bd fQ vQ dF h1y fi;have pL:cx.flatten.length=xs.length*el.size:=bd.1;let S':aY:=λg o=>S g o\/(frz=Ä/\blk v'=G g/\o<(xs++ys).length*el.size)
 have aQ:dK S w S' w':=by
  intro g o hs;refine⟨.inl hs,?_⟩;rcases cS with⟨rfl,rfl⟩|⟨hb,⟨g0,kP⟩,hh⟩|⟨hb,hh⟩
  .rfl
  .by_cases hg:g=g0
   .subst hg;obtain⟨_,_,_,hf,uJ,_⟩:=hblk g kP;cases frz with
    |false=>exact absurd hs (hf rfl o)
    |true=>
     have ho:=(uJ rfl o).1 hs
     have h9:v'.ownBlock=G g:=by
      rw[kP]at hb;rcases cV.2 with⟨hn,_⟩|⟨g1,cap,cur,hn,_⟩
      .rw[hn]at hb;simp[blk]at hb
      .rw[hn]at hb ⊢;simp[blk]at hb;simp[Value.ownBlock,hb]
     have DM:vx.ownBlock=G g:=by
      rcases bd.2 with⟨hn,_⟩|⟨g1,cap,cur,hn,_⟩
      .rw[hn]at kP;simp[blk]at kP
      .rw[hn]at kP ⊢;simp[blk]at kP;simp[Value.ownBlock,kP]
     have DN:(cx.flatten)[o]? = G (cx.flatten[o]'omg_):=jm omg_;have e1:=bd.cells DM o _ DN;have e2:=cV.cells h9 o (cx.flatten[o]'omg_) (by rw[â omg_];exact DN);rw[Å,ki]at e1 e2;rw[e1,e2]
   .have:=hh g (by rw[kP];simpa using λh=>hg h.symm);exact Õ (a:=⟨g,o,Y⟩) this
  .exact Õ (a:=⟨g,o,Y⟩) (hh g (hR.here g o hs))
 have H0:∀g,blk v'=G g->Own w0 refs g/\(∀k b,σ1.bx k = .live b->blk (γ k)≠G g)/\g<w'.heap.size:=by
  intro g hg
  have aq:g<w'.heap.size:=by
   rcases cV.2 with⟨hn,_⟩|⟨g1,cap,cur,hn,_,hh,_⟩
   .rw[hn]at hg;simp[blk]at hg
   .rw[hn]at hg;simp[blk]at hg;subst hg;exact(jq.1 hh).1
  rcases cS with⟨rfl,rfl⟩|⟨hb,⟨g0,kP⟩,hh⟩|⟨hb,hh⟩
  .obtain⟨q1,q2,q3,_⟩:=hblk g hg;exact⟨q1,q3,aq⟩
  .rw[hb]at hg;obtain⟨q1,q2,q3,_⟩:=hblk g hg;exact⟨q1,q3,aq⟩
  .rw[hb]at hg;simp at hg;subst hg;exact⟨.inl hR.grow,λk b hk aL=>by have:=oI (bV.box k b hk) aL;omega,aq⟩
 obtain⟨dB,dH⟩:=HV bV rU (hm:=LY hT ht) (w':=w') (S':=S') (v':=v') (e:=ti.elem) (el:=el) (zs:=xs++ys) (frz:=frz) (css:=cx++cy) aQ (λg hg bz=>by
   rcases cS with⟨rfl,rfl⟩|⟨hb,_,hh⟩|⟨hb,hh⟩
   .rfl
   .exact hh g (by rw[<-hb];exact bz)
   .exact hh g hg) cp H0 (λg o hs=>hs.imp id (λh=>h.2.1)) os tape output (by rw[yj,jc];exact cV)
  ((
   HZ.mono (λx c hx=>Rep.keep aQ _ _ _ hx)).append (Ab.mono (λx c hx=>Rep.keep aQ _ _ _ hx))) (λg hg=>by
   have hold:∀o,S g o->frz=Ä/\o<xs.length*el.size:=by
    intro o hs;rcases cS with⟨rfl,rfl⟩|⟨hb,⟨g0,kP⟩,hh⟩|⟨hb,hh⟩
    .obtain⟨_,_,_,hf,uJ,_⟩:=hblk g hg;cases frz with
     |false=>exact absurd hs (hf rfl o)
     |true=>exact⟨rfl,(uJ rfl o).1 hs⟩
    .rw[hb]at hg;obtain⟨_,_,_,hf,uJ,_⟩:=hblk g hg;cases frz with
     |false=>exact absurd hs (hf rfl o)
     |true=>exact⟨rfl,(uJ rfl o).1 hs⟩
    .rw[hb]at hg;simp at hg;subst hg;exact absurd hs (HQ hR o)
   refine⟨λhf o hs=>?_,λhf o=>⟨λhs=>?_,λho=> .inr ⟨hf,hg,ho⟩⟩⟩
   .rcases hs with hs|hs
    .rw[hf]at hold;simp at hold;exact hold o hs
    .rw[hf]at hs;simp at hs
   .rcases hs with hs|hs
    .have:=(hold o hs).2;rw[jc,Ç];omega
    .exact hs.2.2) (λg hg=>by
   rcases cS with⟨rfl,rfl⟩|⟨hb,⟨g0,kP⟩,hh⟩|⟨hb,hh⟩
   .exact(hblk g hg).2.2.2.2.2
   .rw[hb]at hg;exact(hblk g hg).2.2.2.2.2
   .rw[hb]at hg;simp at hg;subst hg;exact hR.kw_new (jn _))
 exact⟨v',w',S',_,hr,dB,dH⟩
end
theorem jEm(L l:D F)(v:F)(n:H)(h:n<L.length) :
  (L.set n v).take (n+1)++l++(L.set n v).drop (n+1+l.length)=L.take n++v::l++L.drop (n+(l.length+1)):=by
 obtain⟨A,x,B,hA,rfl⟩:∃A x B,Í A=n/\L=A++x::B:=⟨L.take n,L[n],L.drop (n+1),sqo_,by rw[é h,kq]⟩;subst hA;rw[v6 _ _ (jn _),yx,ß];have e1:(A++v::B).take (A.length+1)=A++[v]:=by rw[show A++v::B=(A++[v])++B by simp];exact Ö smp_
 have e2:(A++x::B).take A.length=A:=Ö rfl;have e3:∀y,(A++y::B).drop (A.length+1+l.length)=B.drop l.length:=by intro y;rw[show A++y::B=(A++[y])++B by simp,<-ý,ù smp_]
 rw[e1,e2,e3,show A.length+(l.length+1)=A.length+1+l.length by omega,e3];simp
theorem UU(off:H):∀(l:D F)(k:H)(cells:É F),off+k+l.length<=cells.size->
  ((l.zipIdx k).foldl (λcs x=>cs.setIfInBounds (off+x.2) x.1) cells).toList=cells.toList.take (off+k)++l++cells.toList.drop (off+k+l.length)
 |[],k,cells,_=>smp_
 |v::l,k,cells,h=>by
  simp only[ji]at h;rw[List.zipIdx_cons,vz,UU off l (k+1) _ sqo_];simp only[Array.toList_setIfInBounds];rw[show off+(k+1)=off+k+1 by omega];exact jEm cells.toList l v (off+k) sqo_
theorem UW(cells:É F)(off:H)(zs:É F)(h:off+zs.size<=cells.size) :
  (zs.zipIdx.foldl (λcs (x:F×H)=>cs.setIfInBounds (off+x.2) x.1) cells).toList=cells.toList.take off++zs.toList++cells.toList.drop (off+zs.size):=by
 rw[<-Array.foldl_toList,Array.toList_zipIdx];have:=UU off zs.toList 0 cells (by simpa using h);simpa using this
theorem UX(z:D F):∀(n p:H),p<n*z.length->(M n z).flatten[p]? = z[p%z.length]?
 |0,p,h=>by simp at h
 |n+1,p,h=>by
  rw[List.replicate_succ,qm];by_cases hp:p<z.length
  .rw[â hp,Nat.mod_eq_of_lt hp]
  .rw[kn omg_,UX z n (p-z.length) (by rw[Ç]at h;omega)];congr 1;exact(Nat.mod_eq_sub_mod omg_).symm
theorem UY(z:É F)(n:H)(hz:0<z.size):((Ñ (n*z.size)).map (λi=>z[i%z.size]!)).toList=(M n z.toList).flatten:=by
 apply ya;intro p;by_cases hp:p<n*z.size
 .rw[UX z.toList n p (by simpa using hp)];have hm:p%z.size<z.size:=Nat.mod_lt _ hz;simp[hp,hm]
 .rw[zi sqo_,zi (by rw[List.length_flatten];simp;omega)]
section
variable{N:NT}{np:H}{S0:aY}{w0:Â}{refs:Refs}{σ:St}{a:Ù}{w:Â}{S:aY}{γ:H->F}
theorem Mk{t:Ty}{z:F}(h:z.cells.toList=lK t):z.cells.size=t.size:=by
 have:=Rep.length t t.dflt _ (rV (S:=λ_ _=>False) (w:=(default:Â)) t);rw[<-h]at this;simpa using this
theorem H2{t:Ty}{z:F}(h:z.cells.toList=lK t):∀u∈z.cells.toList,One u:=by
 rw[h];exact Rep.one t t.dflt _ (rV (S:=λ_ _=>False) (w:=(default:Â)) t)
theorem Ml{P:À}{T:H->Á TyI}(hT:db P T){t:Æ}{ti:TyI}(ht:T t=G ti){ty:Ty}(bO:ti.ty=G ty) :
  ∃z:F,z.cells.toList=lK ty/\(Instr.alloc t Ä (.tuple #[])).run P w = .ok (.pointer (G ⟨w.heap.size,0,Y⟩)) (w.alloc (.cells z.cells t)):=by
 obtain⟨z,hz,hc⟩:=B4 hT ht w bO;refine⟨z,hc,?_⟩;simp only[Instr.alloc,J,hz,I,newVar,newRow,run_newObj,Ã,Ü]
theorem UZ{P:À}(t:Æ)(v:F):(Instr.box t v).run P w = .ok (.pointer (G ⟨w.heap.size,0,Y⟩)) (w.alloc (.cells v.cells t)):=by
 simp only[Instr.box,J,newVar,newRow,run_newObj,I,Ã,Ü]
theorem U0{P:À}{α β:Type}(f:α->Sem β)(g:α->β):∀(l:D α),(∀x∈l,(f x).run P w = .ok (g x) w)->(l.mapM f).run P w = .ok (l.map g) w
 |[],_=>smp_
 |x::l,h=>by
  rw[List.mapM_cons];simp only[J,h x smp_,I,U0 f g l (λy hy=>h y (by simp[hy])),Ã,qf]
theorem U3{bx:H->BS}{ti:TyI}{sz:H->Á H}{place:H->Á (H×H)}(hp:∀i f n,ti.flds[i]? = G f->sz f.2=G n->place i=G (f.1,n)) :
  ∀(ps:D (H×Cel))(vs:D (H×F)){ls gn:D Leaf}{cells:É F},All2 (λp v=>p.1=v.1/\cm S w γ bx p.2 v.2) ps vs->BM ti sz ls ps=G gn->
   All2 (bZ S w γ bx) ls cells.toList->(∀u∈cells.toList,One u)->∃bL,Û place cells vs=G bL/\All2 (bZ S w γ bx) gn bL.toList/\∀u∈bL.toList,One u
 |[],[],ls,gn,cells,_,h,ha,h1=>by
  simp[BM]at h;subst h;exact⟨cells,rfl,ha,h1⟩
 |(i,c)::ps,(j,v)::vs,ls,gn,cells,⟨⟨dP,hc⟩,jD⟩,h,ha,h1=>by
  simp only at dP;subst dP;simp only[BM]at h;split at h
  .rename_i f hf;split at h
   .rename_i new dX;split at h
    .rename_i eN;obtain⟨cp,hle⟩:=eN;obtain⟨hl,pJ⟩:=DF dX hc;have hlen:=hl.length;have vI:=ha.length;have mX:v.cells.size=new.length:=by rw[hlen];simp
     have dy:cells.size=ls.length:=by rw[vI];simp
     have H3:=UW cells f.1 v.cells omg_;have dz:=HR (c:=f.1) ha hl
     obtain⟨bL,ic,h2,h3⟩:=U3 hp ps vs (cells:=(v.cells.zipIdx.foldl (λcs (x:F×H)=>cs.setIfInBounds (f.1+x.2) x.1) cells)) jD h
      (by rw[H3];simpa using dz) (by
       rw[H3];intro u hu;simp only[jj]at hu;rcases hu with (hu|hu)|hu
       .exact h1 u (qq hu)
       .exact pJ u hu
       .exact h1 u (ve hu))
     refine⟨bL,?_,h2,h3⟩;simp only[Û,hp i f _ hf cp];rw[if_neg (by simp[mX];omega)];exact ic
    .simp at h
   .simp at h
  .simp at h
 |[],_::_,_,_,_,h,_,_,_=>h.elim
 |_::_,[],_,_,_,h,_,_,_=>h.elim
theorem jxm{P:À}{E:Env}(hT:db P E.T){bx:H->BS}{t:Æ}{ti:TyI}(ht:E.T t=G ti){ty:Ty}(bO:ti.ty=G ty)(oF:ty.agg=Ä)
  {ps:D (H×Cel)}{vs:É (H×F)}{ls:D Leaf}(jD:All2 (λp v=>p.1=v.1/\cm S w γ bx p.2 v.2) ps vs.toList)
  (h:BM ti (λt=>(E.T t).map (·.size)) (pF ty) ps=G ls) :
  ∃z,(Ò t vs).run P w = .ok z w/\cm S w γ bx (.st ls) z:=by
 obtain⟨z,hz,hQ⟩:=B4 hT ht w bO;obtain⟨i,d,hi,hd,_,_,_,fh,eF⟩:=oc hT ht;have qL:=(eF ty bO).2.2;cases d with
 |struct fs=>
  simp only[Dw,jg,js]at fh;obtain⟨vH,zY⟩:=fh
  have vR:(fs.mapM (λf=>do pure (f.offset,<-sizeOf f.type):Field->Sem (H×H))).run P w = .ok (fs.map λf=>(f.offset,((E.T f.type).map (·.size)).getD 0)) w:=by
   rw[Array.mapM_eq_mapM_toList]
   have:=U0 (P:=P) (w:=w) (λf=>(do pure (f.offset,<-sizeOf f.type):Sem (H×H))) (λf:Field=>(f.offset,((E.T f.type).map (·.size)).getD 0)) fs.toList (λf hf=>by
    have:=kj.1 zY f hf;split at this
    .rename_i tf sG;simp only[J,kA hT sG,I,Ã,sG,qj,qd]
    .simp at this)
   simp only[Sem.run_map,this,I];congr 1;apply ze;simp
  have hp:∀(i:H)(f:H×H)(n:H),ti.flds[i]? = G f->(E.T f.2).map (·.size)=G n->(fs.map λf=>(f.offset,((E.T f.type).map (·.size)).getD 0))[i]? = G (f.1,n):=by
   intro i f n hf hn;rw[<-vH,qv]at hf;cases hq:fs.toList[i]? with
   |none=>simp[hq]at hf
   |some fl=>
    simp only[hq,qj,j5]at hf;subst hf;have Cb:fs[i]? = G fl:=by simpa using hq
    simp only at hn;simp[Cb,hn]
  obtain⟨bL,ic,ha,h1⟩:=U3 (S:=S) (w:=w) (γ:=γ) (place:=λi=>(fs.map λf=>(f.offset,((E.T f.type).map (·.size)).getD 0))[i]?) hp ps vs.toList (cells:=z.cells) jD h (by rw[hQ];exact xz ty) (H2 hQ);refine⟨.agg bL,?_,bL,rfl,ha,h1⟩;simp only[Ò,J,hz,I,run_underlying hd,vR,ic,Ã]
 |_=>exfalso;revert qL oF;cases ty<;>simp[mi,Ty.agg]
theorem U4{rd:H->BS}{el:Ty}:∀(ps:D (H×Cel)){xs dj:D el.den}{u u':Ups},lG rd el xs u ps=G (dj,u')->∃u2,u'=u++u2
 |[],_,_,u,u',h=>by simp[lG]at h;exact⟨[],by simp[h.2]⟩
 |(i,c)::ps,xs,dj,u,u',h=>by
  simp only[lG]at h;split at h
  .split at h
   .obtain⟨u2,hu⟩:=U4 ps h;exact⟨_,by rw[hu,jh]⟩
   .simp at h
  .simp at h
theorem Mm{rd:H->BS}(bj:RdF np σ rd)(hB:DC S w γ σ.bx){el:Ty}(cq:0<el.size):∀(ps:D (H×Cel))(vs:D (H×F)){xs dj:D el.den}{u u':Ups},
  All2 (λp v=>p.1=v.1/\cm S w γ σ.bx p.2 v.2) ps vs->lG rd el xs u ps=G (dj,u')->FrzL np σ.bx u->
  FrzL np σ.bx u'/\∀S',dK S w S' w->Froz σ.bx γ S' w u'->∀(css:D (D F))(cells:É F),All2 (λx c=>Rep S' w el x c) xs css->cells.toList=css.flatten->
   ∃bL mu,Û (λi=>G (i*el.size,el.size)) cells vs=G bL/\All2 (λx c=>Rep S' w el x c) dj mu/\bL.toList=mu.flatten
 |[],[],xs,dj,u,u',_,h,hf=>by
  simp[lG]at h;obtain⟨rfl,rfl⟩:=h;exact⟨hf,λS' _ _ css cells ha hc=>⟨cells,css,rfl,ha,hc⟩⟩
 |(i,c)::ps,(j,v)::vs,xs,dj,u,u',⟨⟨dP,hc⟩,jD⟩,h,hf=>by
  simp only at dP;subst dP;simp only[lG]at h;split at h
  .rename_i x u1 hx;split at h
   .rename_i hi;obtain⟨vH,Ac,pJ⟩:=DD bj hB hx hc;obtain⟨hf',eO⟩:=Mm bj hB cq ps vs jD h (FrzL.app.2 ⟨hf,vH⟩);obtain⟨u2,H4⟩:=U4 ps h;refine⟨hf',λS' aQ dY css cells ha dv=>?_⟩;have hrx:=(Ac S' w aQ (Froz.app.1 (Froz.app.1 (H4▸dY)).1).2).1;have Mn:cells.size=xs.length*el.size:=by have:=All2.flatten_length (λx c hx=>Rep.length el x c hx) ha;rw[<-dv]at this;simpa using this
    have UQ:i*el.size+el.size<=xs.length*el.size:=by have:(i+1)*el.size<=xs.length*el.size:=k7 _ omg_;rwa[yf]at this
    have pJ:v.cells.toList.length=el.size:=pJ;have mX:v.cells.size=el.size:=by simpa using pJ
    have vL:v.cells.toList.length=v.cells.size:=qt;have H3:=UW cells (i*el.size) v.cells omg_;obtain⟨ci,oK⟩:∃ci,css[i]? = G ci:=⟨css[i]'(by rw[<-ha.length];exact hi),jm _⟩;have HU:=Mg (cur:=cells.toList) (n:=xs.length) (c:=0) (zs:=v.cells.toList) (All2.all_len ha) ha.length.symm (by rw[dv,<-dv];exact W (by simp[Mn])) oK omg_;have ej:ci.length=el.size:=All2.all_len ha ci (ko oK)
    have dX:cells.toList.take (i*el.size)++v.cells.toList++cells.toList.drop (i*el.size+v.cells.size)=(css.set i v.cells.toList).flatten:=by
     have e1:ci.take 0++v.cells.toList++ci.drop (0+v.cells.toList.length)=v.cells.toList:=by rw[jd omg_];simp
     rw[e1]at HU;rw[<-HU];symm;refine(W ?_).trans ?_
     .simp;omega
     .simp
    obtain⟨bL,mu,h1,h2,h3⟩:=eO S' aQ dY (css.set i v.cells.toList) _ (ha.set i x v.cells.toList hrx) (H3.trans dX);refine⟨bL,mu,?_,h2,h3⟩;simp only[Û];rw[if_neg (by simp[mX];omega)];exact h1
   .simp at h
  .simp at h
 |[],_::_,_,_,_,_,h,_,_=>h.elim
 |_::_,[],_,_,_,_,h,_,_=>h.elim
end
theorem U5{P:À}{t e:Æ}(h:P.underlying t=G (.slice e)):P.elem t=e:=by simp[Program.elem,h]
def VB(d:H)(o:Á F)(i:H):Prop:=(o=Y/\i=d)\/∃k,o=G (.int k (i:Int))
theorem Ad{P:À}{w:Â}{t:Æ}{e s:H}(hd:P.underlying t=G (.slice e))(hs:(sizeOf e).run P w = .ok s w){ad:Á Addr}{len cap i j:H}{lo hi:Á F}
  (iP:VB 0 lo i)(ir:VB len hi j)(dP:i<=j)(hj:j<=cap) :
  (ã t (.slice ad len cap) lo hi Y).run P w = .ok (.slice (if cap=i then ad else ad.map (·.add (i*s))) (j-i) (cap-i)) w:=by
 have he:=U5 hd;have gU:P.underlying t=G (.slice (P.elem t)):=by rw[he];exact hd
 rw[run_sliceAt_slice w t _ _ _ _ gU];have cW:(sizeOf (P.elem t)).run P w = .ok s w:=by rw[he];exact hs
 rcases iP with⟨rfl,rfl⟩|⟨kl,rfl⟩
 .rcases ir with⟨rfl,rfl⟩|⟨kh,rfl⟩
  .rw[run_slice_all w t ad _ cap gU,cW];simp[Ý,sliced]
  .rw[run_slice_h w t ad len cap gU kh _ omg_ omg_,cW];simp[Ý,sliced]
 .rcases ir with⟨rfl,rfl⟩|⟨kh,rfl⟩
  .rw[run_slice_l w t ad _ cap gU kl _ omg_ omg_,cW];simp[Ý,sliced]
  .rw[run_slice_lh w t ad len cap gU kl kh _ _ omg_ omg_ omg_,cW];simp[Ý,sliced]
section
variable{N:NT}{np:H}{S0:aY}{w0:Â}{refs:Refs}{σ:St}{a:Ù}{w:Â}{S:aY}{γ:H->F}
theorem U6{el:Ty}{xs:D el.den}{ad:Á Addr}{cap:H}(h:Rep S w (.list el) xs [.slice ad (Í xs) cap]){i j:H}(dP:i<=j)(hj:j<=Í xs) :
  Rep S w (.list el) ((xs.take j).drop i) [.slice (if cap=i then ad else ad.map (·.add (i*el.size))) (j-i) (cap-i)]:=by
 obtain⟨ad',hG,he,hle,ml,hn,hb⟩:=h;simp only[List.cons.injEq,Z,and_true,qc]at he;obtain⟨rfl,rfl⟩:=he;have hlen:((xs.take j).drop i).length=j-i:=sqo_;refine⟨_,_,by rw[hlen],by rw[hlen];omega,omg_,λh=>?_,λb aW=>?_⟩
 .have:ad=none:=by
   split at h
   .exact h
   .simpa using h
  have:=hn this;omega
 .by_cases hc:cap=i
  .rw[if_pos hc]at aW;have hz:(xs.take j).drop i=[]:=kf omg_;rw[hz];exact⟨λh=>absurd rfl h,[],trivial,λj v hv=>by simp at hv⟩
  .rw[if_neg hc]at aW;cases ad with
   |none=>simp at aW
   |some b0=>
    simp only[qj,j5]at aW;subst aW;obtain⟨dz,css,ha,hl⟩:=hb b0 rfl;by_cases hx:(xs.take j).drop i=[]
    .rw[hx];exact⟨λh=>absurd rfl h,[],trivial,λj v hv=>by simp at hv⟩
    .have gW:xs≠[]:=λh=>hx (by rw[h];simp);obtain⟨g,o,sp⟩:=b0;have dz:=dz gW;simp at dz;subst dz;have Ae:(⟨g,o,Y⟩:Addr).add (i*el.size)=⟨g,o+i*el.size,Y⟩:=Å _ _ _;rw[Ae];refine⟨λ_=>rfl,(css.take j).drop i,(ha.take j).drop i,λq v hq=>?_⟩;have ej:=All2.all_len ha;rw[DI i (λc hc=>ej c (qq hc)),xB j ej,à,zb]at hq;split at hq
     .have:=hl _ v hq;simpa[Nat.add_assoc]using this
     .simp at hq
def ORep(R:Leaf->F->Prop):Á Leaf->Á F->Prop
 |none,Y=>True
 |some l,G v=>R l v
 |_,_=>False
theorem vS{d:H}{o:Á Leaf}{vo:Á F}{i:Int}{bx:H->BS}(h:bnd d o=G i)(ho:ORep (bZ S w γ bx) o vo)(hi:0<=i):VB d vo i.toNat:=by
 unfold bnd at h;split at h
 .cases vo with
  |none=>simp at h;exact .inl ⟨rfl,omg_⟩
  |some v=>exact ho.elim
 .cases vo with
  |none=>exact ho.elim
  |some v=>simp at h;rename_i k n;have hv:v = .int k n:=qK (S:=S) (w:=w) ho;refine .inr ⟨k,?_⟩;rw[hv,show (n:Int)=i from h,Int.toNat_of_nonneg hi]
 .simp at h
theorem jxn{P:À}{E:Env}(hT:db P E.T)(hR:Rel N np S0 w0 refs σ a w S γ){rd:H->BS}(bj:RdOk σ rd){t:Æ}{ti:TyI}(ht:E.T t=G ti)
  {d:H}{x l:Leaf}{lo hi:Á Leaf}{vx:F}{sS uK:Á F}{u:Ups}(bC:∀k,nk (rd k)=Ä->σ.bx k = .free)(h:BN (parK np) rd ti d x lo hi=G (Ä,l,u))
  (hx:bZ S w γ σ.bx x vx)(iP:ORep (bZ S w γ σ.bx) lo sS)(ir:ORep (bZ S w γ σ.bx) hi uK) :
  ∃v S' γ',(ã t vx sS uK Y).run P w = .ok v w/\Rel N np S0 w0 refs (σ.upd u) a w S' γ'/\cm S' w γ' (σ.upd u).bx (.one l) v:=by
 unfold BN at h;split at h
 ·-- a datum
  rename_i el xs;split at h
  .rename_i bO;obtain⟨hd,_,te,cT,cU⟩:=pG hT ht bO;have cp:=od hT cT cU;split at h
   .rename_i i j bh fS;simp only[j5,j9,jg,js]at h;obtain⟨⟨h0,h1,h2⟩,rfl,rfl⟩:=h;have iD:=hx;obtain⟨ad,cap,hv,hle,_⟩:=hx;simp at hv;subst hv;have hlen:((Í xs:H):Int)=Int.ofNat (Í xs):=rfl;refine⟨_,S,γ,Ad hd (s:=el.size) ?_ (vS bh iP h0) (vS fS ir omg_) omg_ omg_,hR,U6 iD omg_ omg_,λ_=>rfl⟩;rw[kA hT cT,cp]
   .simp at h
  .simp at h
 .rename_i k;split at h
  ·-- the tail
   split at h
   .rename_i e el xs f hk;split at h
    .rename_i bO;obtain⟨hd,_,te,cT,cU⟩:=pG hT ht bO;have cp:=od hT cT cU;split at h
     .rename_i i bh;simp only[j5,j9,jg,js]at h;obtain⟨⟨h0,h1⟩,rfl,rfl⟩:=h;have ct:=bj.nm hk;have hk:=bj.live hk;have hz:=hx.2.2 _ hk;obtain⟨css,bd,_⟩:=jZ ct (hR.box k _ hk)
      obtain⟨ad,cap,hg,dq⟩:∃ad cap,γ k = .slice ad xs.length cap/\xs.length<=cap:=by
       rcases bd.2 with⟨hg,hn⟩|⟨g,cap,cur,hg,_,_,kD,_⟩
       .exact⟨Y,0,by rw[hg,hn],omg_⟩
       .exact⟨_,cap,hg,kD⟩
      have vT:VB xs.length uK xs.length:=by
       cases uK with
       |none=>exact .inl ⟨rfl,rfl⟩
       |some v=>exact ir.elim
      subst hz;have aS:=Ad (ad:=ad) (w:=w) hd (s:=el.size) (by rw[kA hT cT,cp]) (vS bh iP h0) vT omg_ dq;rw[<-hg]at aS;refine⟨_,S,γ,aS,hR,⟨hx.1,rfl,λb hb=>?_⟩,λ_=>rfl⟩;rw[show (σ.upd []).bx k=σ.bx k from rfl,hk]at hb;cases hb;exact⟨ct,omg_,ad,cap,hg,rfl⟩
     .simp at h
    .simp at h
   .simp at h
  .rename_i hh;split at h
   .rename_i e el xs f hk;split at h
    .rename_i bO;obtain⟨hd,_,te,cT,cU⟩:=pG hT ht bO;have cp:=od hT cT cU;split at h
     .rename_i i j bh fS;have ct:=bj.nm hk;have hk:=bj.live hk;have hz:=hx.2.2 _ hk;split at h
      ·-- a xD: its head
       split at h
       .rename_i U7;simp only[ä]at U7;subst U7;simp only[j5,j9,jg,js]at h;obtain⟨⟨h0,h1⟩,rfl,rfl⟩:=h;obtain⟨css,bd,_⟩:=jZ ct (hR.box k _ hk)
        have vU:VB 0 sS 0:=by
         cases sS with
         |none=>exact .inl ⟨rfl,rfl⟩
         |some v=>exact iP.elim
        have vT:=vS fS ir h0
        obtain⟨ad,cap,hg,dq,had⟩:∃ad cap,γ k = .slice ad xs.length cap/\xs.length<=cap/\(if cap=0 then ad else ad.map (·.add (0*el.size)))=ad:=by
         rcases bd.2 with⟨hg,hn⟩|⟨g,cap,cur,hg,_,_,kD,_⟩
         .exact⟨Y,0,by rw[hg,hn],omg_,rfl⟩
         .exact⟨_,cap,hg,kD,by simp[Å]⟩
        have aS:=Ad (ad:=ad) (w:=w) hd (s:=el.size) (by rw[kA hT cT,cp]) vU vT omg_ (show j.toNat<=cap by omega);rw[<-hg,had]at aS;subst hz;refine⟨_,S,γ,aS,hR,⟨hx.1,rfl,λb hb=>?_⟩,λ_=>rfl⟩;rw[show (σ.upd []).bx k=σ.bx k from rfl,hk]at hb;cases hb;exact⟨ct,omg_,ad,cap,hg,rfl⟩
       .simp at h
      rename_i pK;have pK:parK np k=false:=by simpa using pK
      split at h
      ·-- cut short
       rename_i gq;simp only[jg,ä,Bool.not_eq_eq_eq_not,jl]at gq;obtain⟨rfl,rfl⟩:=gq;split at h
       .rename_i kB;simp only[j5,j9,jg,js]at h;obtain⟨⟨h0,h1⟩,rfl,rfl⟩:=h;have DO:=bC d kB;have uI:d≠k:=by rintro rfl;rw[DO]at hk;simp at hk
        obtain⟨css,bd,aA,hS⟩:=jZ ct (hR.box k _ hk);have ej:=All2.all_len aA
        have vU:VB 0 sS 0:=by
         cases sS with
         |none=>exact .inl ⟨rfl,rfl⟩
         |some v=>exact iP.elim
        have vT:=vS fS ir h0;have bV:=Mi hR hk;have rU:(σ.setB k .gone).bx d = .free:=by rw[dn σ _ uI];exact DO
        have mw:j.toNat<=xs.length:=omg_;have hcss:css.length=xs.length:=aA.length.symm
        have key:∃v',(ã t vx sS uK Y).run P w = .ok v' w/\w.ownsRow 0 e el.size v' (U j.toNat xs).length (U j.toNat css).flatten/\blk v'=blk vx:=by
         rw[hz];have aq:(U j.toNat xs).length=j.toNat:=sqo_;rcases bd.2 with⟨hg,hn⟩|⟨g,cap,cur,hg,_,hh,kD,ml,dy,eI⟩
         .rw[hg];have Mo:j.toNat=0:=omg_;refine⟨_,Ad hd (s:=el.size) (len:=0) (by rw[kA hT cT,cp]) vU (by rw[hn]at vT;exact vT) omg_ omg_,?_,by simp;rfl⟩;rw[Mo];simpa using á w 0 e el.size
         .rw[hg];refine⟨_,Ad hd (s:=el.size) (by rw[kA hT cT,cp]) vU vT omg_ omg_,?_,?_⟩
          .refine⟨?_,.inr ⟨g,cap,cur,?_,kp _,hh,omg_,ml,dy,?_⟩⟩
           .rw[xB _ ej,qk,bd.1,aq];exact È (k7 _ mw)
           .rw[aq];by_cases hc:cap=0
            .simp[hc]
            .simp[hc,Å]
           .rw[aq,xB _ ej,<-eI,vp,È (k7 _ mw)]
          .by_cases hc:cap=0
           .simp[hc];rfl
           .simp[hc,Å];rfl
        obtain⟨v',aS,cV,hblk⟩:=key
        have oL:∀g,blk v'=G g->Own w0 refs g/\(∀k' b,(σ.setB k .gone).bx k' = .live b->blk (γ k')≠G g)/\g<w.heap.size:=by
         intro g hg;rw[hblk,hz]at hg;refine⟨?_,λk' b' aW aL=>?_,oI (hR.box k _ hk) hg⟩
         .rcases hR.own k _ g hk hg with h|h
          .exact h
          .rw[pK]at h;simp at h
         .have cD:k'≠k:=by rintro rfl;rw[hP]at aW;simp at aW
          rw[dn σ _ cD]at aW;exact hR.apart k' k _ _ g cD aW hk aL hg
        obtain⟨dB,dH⟩:=HV bV rU (hm:=ct) (w':=w) (S':=S) (v':=v') (e:=e) (el:=el) (zs:=U j.toNat xs) (frz:=O) (css:=U j.toNat css) (.refl S w) (λg hg bz=>rfl) (jn _) oL
         (λg o hs=> .inl hs) rfl rfl rfl cV (aA.take _) (λg hg=>⟨λ_=>(hS g (by rw[<-hz,<-hblk];exact hg)).1 rfl,smp_⟩) (λg hg=>hR.kw_live hk (by rw[<-hz,<-hblk];exact hg))
        exact⟨v',S,_,aS,dB,dH⟩
       .simp at h
      ·-- shared
       simp only[j5,j9,jg,js]at h;obtain⟨⟨h0,h1,h2⟩,rfl,rfl⟩:=h;obtain⟨S',dI,aQ,bR⟩:=Mc hR ct hk pK;have nv:=bR;obtain⟨ad,cap,hv,hle,_⟩:=bR;simp at hv;rw[hv]at nv;refine⟨_,S',γ,by rw[hz,hv];exact Ad hd (s:=el.size) (by rw[kA hT cT,cp]) (vS bh iP h0) (vS fS ir omg_) omg_ omg_,dI,U6 nv omg_ omg_,λ_=>rfl⟩
     .simp at h
    .simp at h
   .simp at h
 ·-- of a head
  rename_i k m;split at h
  .rename_i e el xs f hk;split at h
   .rename_i bO;obtain⟨bO,hhs⟩:=bO;obtain⟨hd,_,te,cT,cU⟩:=pG hT ht bO;have cp:=od hT cT cU;split at h
    .rename_i i j bh fS;simp only[j5,j9,jg,js]at h;obtain⟨⟨h0,h1,h2⟩,rfl,rfl⟩:=h;have ct:=bj.nm hk;have hk:=bj.live hk;obtain⟨_,hm,ad,cap,hg,hz⟩:=hx.2.2 _ hk;obtain⟨css,bd,_⟩:=HM hg (hR.box k _ hk)
     have dq:xs.length<=cap:=by
      rcases bd.2 with⟨aL,hn⟩|⟨g,hG,cur,aL,_,_,kD,_⟩
      .omega
      .rw[hg]at aL;simp only[Z,qc]at aL;omega
     have vT:VB m uK xs.length:=by
      have:=vS fS ir omg_;rw[h2,j8]at this;rcases this with⟨h3,_⟩|h3
      .cases hi with
       |none=>simp at hhs
       |some y=>subst h3;exact ir.elim
      .exact .inr h3
     have aS:=Ad (ad:=ad) (w:=w) hd (s:=el.size) (by rw[kA hT cT,cp]) (vS bh iP h0) vT omg_ dq;subst hz;refine⟨_,S,γ,aS,hR,⟨hx.1,rfl,λb hb=>?_⟩,λ_=>rfl⟩;rw[show (σ.upd []).bx k=σ.bx k from rfl,hk]at hb;cases hb;exact⟨ct,omg_,ad,cap,hg,rfl⟩
    .simp at h
   .simp at h
  .simp at h
 .simp at h
theorem jxo{P:À}{E:Env}(hT:db P E.T)(hR:Rel N np S0 w0 refs σ a w S γ){rd:H->BS}(bj:RdOk σ rd){t:Æ}{ti:TyI}(ht:E.T t=G ti)
  {x mx:Leaf}{lo hi:Á Leaf}{vx vm:F}{sS uK:Á F}(h:BO rd ti x lo hi mx=G Ä)
  (hx:bZ S w γ σ.bx x vx)(iP:ORep (bZ S w γ σ.bx) lo sS)(ir:ORep (bZ S w γ σ.bx) hi uK)(oM:bZ S w γ σ.bx mx vm) :
  ∃v,(ã t vx sS uK (G vm)).run P w = .ok v w:=by
 unfold BO at h;split at h
 case h_2=>simp at h
 rename_i k k1 i k2 j k3 m;split at h
 case h_2=>simp at h
 rename_i e el xs f hk;split at h
 case isFalse=>simp at h
 rename_i bO;simp only[j5,jg,js]at h;obtain⟨h0,h1,h2,h3⟩:=h;obtain⟨hd,_,te,cT,cU⟩:=pG hT ht bO;have cp:=od hT cT cU;have ct:=bj.nm hk;have hk:=bj.live hk;have hz:=hx.2.2 _ hk;cases sS with
 |none=>exact iP.elim
 |some vl=>
 cases uK with
 |none=>exact ir.elim
 |some vh=>
 have e1:vl = .int k1 i:=qK (S:=S) (w:=w) iP;have e2:vh = .int k2 j:=qK (S:=S) (w:=w) ir;have e3:vm = .int k3 m:=qK (S:=S) (w:=w) oM;subst e1 e2 e3;obtain⟨css,bd,_⟩:=jZ ct (hR.box k _ hk);have he:=U5 hd;have gU:P.underlying t=G (.slice (P.elem t)):=by rw[he];exact hd
 rw[run_sliceAt_slice w t _ _ _ _ gU];have cW:(sizeOf (P.elem t)).run P w = .ok el.size w:=by rw[he];rw[kA hT cT,cp]
 have key:∀ad n cap,(m:Int)<=(cap:H)->∃v,(Instr.slice t (.slice ad n cap) (G (.int k1 i)) (G (.int k2 j)) (G (.int k3 m))).run P w = .ok v w:=by intro ad n cap hc;rw[run_slice_lhm w t ad n cap gU _ _ _ _ _ _ h0 h1 h2 hc,cW];exact⟨_,rfl⟩
 rcases bd.2 with⟨hg,hn⟩|⟨g,cap,cur,hg,_,hh,kD,_⟩
 .rw[hz,hg];exact key _ _ _ (qb h3 omg_)
 .rw[hz,hg];exact key _ _ _ (qb h3 omg_)
theorem U8(hR:Rel N np S0 w0 refs σ a w S γ){x:Leaf}{k i e:H}{el:Ty}{xs:D el.den}{f:Ú}{vx:F}(h:HA x=G (k,i))(ct:isM e=O)(hk:σ.bx k = .live (.lst e el xs f))
  (hx:bZ S w γ σ.bx x vx):i<=xs.length/\((xs.length=0/\vx = .slice Y 0 0)\/
   ∃g cap,γ k = .slice (G ⟨g,0,Y⟩) xs.length cap/\xs.length<=cap/\vx = .slice (G ⟨g,if cap=i then 0 else i*el.size,Y⟩) (xs.length-i) (cap-i)):=by
 obtain⟨css,bd,aA,hS⟩:=jZ ct (hR.box k _ hk);unfold HA at h;split at h
 .simp only[j5,j9]at h;obtain⟨rfl,rfl⟩:=h;have hz:=hx.2.2 _ hk;refine⟨kp _,?_⟩;rcases bd.2 with⟨hg,hn⟩|⟨g,cap,cur,hg,_,hh,kD,ml,dy,eI⟩
  .exact .inl ⟨hn,by rw[hz,hg]⟩
  .exact .inr ⟨g,cap,hg,kD,by rw[hz,hg];simp⟩
 .rename_i k' i';simp only[j5,j9]at h;obtain⟨rfl,rfl⟩:=h;obtain⟨_,hi,ad,cap,aL,hv⟩:=hx.2.2 _ hk;refine⟨hi,?_⟩;rcases bd.2 with⟨hg,hn⟩|⟨g,hG,cur,hg,_,hh,kD,ml,dy,eI⟩
  .rw[hg]at aL;simp only[Z]at aL;obtain⟨rfl,_,rfl⟩:=aL;exact .inl ⟨hn,by rw[hv];simp;omega⟩
  .rw[hg]at aL;simp only[Z,qc]at aL;obtain⟨rfl,rfl⟩:=aL;refine .inr ⟨g,hG,hg,kD,?_⟩;rw[hv];by_cases hc:hG=i'
   .rw[if_pos hc,if_pos hc]
   .rw[if_neg hc,if_neg hc];simp[Å]
 .simp at h
theorem Mp{P:À}(hR:Rel N np S0 w0 refs σ a w S γ){k i e g cap:H}{el:Ty}{xs zs:D el.den}(hk:σ.bx k = .live (.lst e el xs O))(hg:γ k = .slice (G ⟨g,0,Y⟩) xs.length cap)
  {cz:D (D F)}(hz:All2 (λx c=>Rep S w el x c) zs cz)(hl:i+zs.length<=xs.length) :
  ∃w',(storeCells ⟨g,i*el.size,Y⟩ cz.flatten).run P w = .ok () w'/\Rel N np S0 w0 refs (σ.setB k (.live (.lst e el (U i xs++(zs++Ê (i+zs.length) xs)) O))) a w' S γ:=by
 have ct:=Ut hg (hR.box k _ hk);obtain⟨css,bd,aA,hS⟩:=jZ ct (hR.box k _ hk);have oO:cz.flatten.length=zs.length*el.size:=All2.flatten_length (λx c hx=>Rep.length el x c hx) hz;have h1:∀u∈cz.flatten,One u:=by intro u hu;obtain⟨c,hc,zT⟩:=List.mem_flatten.1 hu;obtain⟨x,_,hx⟩:=hz.mem_right c hc;exact Rep.one el x c hx u zT
 rcases bd.2 with⟨aL,hn⟩|⟨g',hG,cur,aL,_,hh,kD,ml,dy,eI⟩
 .rw[hg]at aL;simp at aL
 rw[hg]at aL;simp only[Z,j5,Addr.mk.injEq,and_true,qc]at aL;obtain⟨rfl,rfl⟩:=aL;have fw:i*el.size+zs.length*el.size<=xs.length*el.size:=by rw[<-Ç];exact k7 _ hl
 have iQ:xs.length*el.size<=cap*el.size:=k7 _ kD;have aQ:=run_storeCells_at P g (i*el.size) e cz.flatten 0 cur w hh (by rw[oO,dy];omega) h1;simp only[vr]at aQ;refine⟨_,aQ,?_⟩;have ej:=All2.all_len aA;have Mq:=All2.all_len hz;have xA:∀o,¬S g o:=(hS g (by rw[hg];rfl)).1 rfl;refine DE hR hk (by rw[hg];rfl) xA (b':= .lst e el _ O) ⟨rfl,rfl,λ_=>sqo_⟩ hh (λkO dp=>?_);have hlen:(U i xs++(zs++Ê (i+zs.length) xs)).length=xs.length:=sqo_;refine Dv ct ⟨css.take i++(cz++css.drop (i+zs.length)),⟨?_,.inr ⟨g,cap,_,?_,kp _,setRow_heap w g cur _ e (0,0) hh,by rw[hlen];exact kD,ml,?_,?_⟩⟩,?_,λg' aL=>?_⟩
 .rw[hlen,zZ (m:=el.size)]
  .have:=aA.length;have:=hz.length;simp only[jc,qk,zj];congr 1;omega
  .intro d hd;simp only[jj]at hd;rcases hd with hd|hd|hd
   .exact ej d (qq hd)
   .exact Mq d hd
   .exact ej d (ve hd)
 .rw[hlen];exact hg
 .simp only[yb,jc,qk,zj,qt];omega
 .rw[hlen];simp only[yj,xB i ej,DI _ ej,<-eI];have hA:(cur.toList.take (i*el.size)).length=i*el.size:=sqo_;rw[jh,Ð,hA,W omg_,vp,È omg_];congr 1;rw[Ð,oO,W omg_,Ç];congr 1;rw[ü];congr 1;omega
 .exact((aA.mono (λx c hx=>Rep.keep dp _ _ _ hx)).take _).append ((hz.mono (λx c hx=>Rep.keep dp _ _ _ hx)).append ((aA.mono (λx c hx=>Rep.keep dp _ _ _ hx)).drop _))
 .rw[hg]at aL;simp[blk]at aL;subst aL;exact⟨λ_=>xA,smp_⟩
theorem U9{σ:St}{k:H}{b:BS}(h:σ.bx k=b):σ.setB k b=σ:=by
 unfold St.setB;congr 1;funext j;split
 .rename_i hj;subst hj;exact h.symm
 .rfl
theorem jyP{P:À}{E:Env}(hT:db P E.T)(hR:Rel N np S0 w0 refs σ a w S γ){rd:H->BS}(bj:RdOk σ rd){t ty:Æ}{ti:TyI}(ht:E.T t=G ti)
  {x y l:Leaf}{u:Ups}{vx vy:F}(h:BP rd ti.ty x y=G (l,u))(hx:bZ S w γ σ.bx x vx)(hy:bZ S w γ σ.bx y vy) :
  ∃v w',(å #[t,t] ty #[vx,vy]).run P w = .ok v w'/\Rel N np S0 w0 refs (σ.upd u) a w' S γ/\cm S w' γ (σ.upd u).bx (.one l) v:=by
 unfold BP at h;split at h
 .rename_i k i DP;split at h
  .rename_i e el xs hk;split at h
   .rename_i bO;split at h
    .rename_i ys iy;simp only[j5,j9]at h;obtain⟨rfl,rfl⟩:=h;have ct:=bj.nm hk;have hk:=bj.live hk;obtain⟨hd,cq,te,cT,cU⟩:=pG hT ht bO;have cp:=od hT cT cU;have fR:(sizeOf ti.elem).run P w = .ok el.size w:=by rw[kA hT cT,cp]
     obtain⟨ad,c,cy,HY,fQ,Ab,dF⟩:=UT hR bj iy hy;subst HY;obtain⟨hi,cS⟩:=U8 hR DP ct hk hx;have DQ:=All2.all_len Ab;have oP:cy.length=ys.length:=Ab.length.symm;have lN:(U (xs.length-i) ys).length=min ys.length (xs.length-i):=sqo_
     have Af:over xs i ys=U i xs++(U (xs.length-i) ys++Ê (i+(U (xs.length-i) ys).length) xs):=by
      unfold over;congr 2;rw[lN];by_cases h:ys.length<=xs.length-i
      .rw[È h]
      .rw[Nat.min_eq_right omg_,jd omg_,jd omg_]
     have xE:(Ï el.size (min ys.length (xs.length-i)) (.slice ad ys.length c)).run P w = .ok (U (xs.length-i) cy).flatten.toArray w:=by
      cases ad with
      |none=>have h0:=(fQ rfl).1;have:cy=[]:=kf omg_;subst this;simp[Ï]
      |some b=>
       have e1:(U (xs.length-i) cy).flatten.length=min ys.length (xs.length-i)*el.size:=by rw[zZ (m:=el.size) (λc hc=>DQ c (qq hc)),qk,oP,Nat.min_comm]
       have:=run_loadCells_list (P:=P) w b (U (xs.length-i) cy).flatten (λj v hj=>by
        rw[xB _ DQ,zb]at hj;split at hj
        .exact dF b rfl j v hj
        .simp at hj)
       rw[e1]at this;simpa[Ï]using this
     have aS:∀base dl dc w',vx = .slice base dl dc->dl=xs.length-i->(base=Y->w'=w)->(∀ab,base=G ab->(storeCells ab (U (xs.length-i) cy).flatten).run P w = .ok () w')->
       (å #[t,t] ty #[vx,.slice ad ys.length c]).run P w = .ok (goInt ((min ys.length (xs.length-i):H):Int)) w':=by
      intro base dl dc w' hv pM dR fv;subst hv pM;have oQ:Nat.min ys.length (xs.length-i)=min ys.length (xs.length-i):=rfl;cases base with
      |none=>simp[å,run_underlying hd,ð,fR,oQ,xE,dR rfl]
      |some ab=>simp[å,run_underlying hd,ð,fR,oQ,xE,fv ab rfl]
     by_cases hn:min ys.length (xs.length-i)=0
     .have hz:U (xs.length-i) ys=[]:=kf (by rw[lN];exact hn);have hQ:(U (xs.length-i) cy).flatten=[]:=by have:U (xs.length-i) cy=[]:=kf (by rw[qk,oP];omega);rw[this];rfl
      have Mr:over xs i ys=xs:=by rw[Af,hz];simp
      refine⟨_,w,?_,?_,⟨rfl,λ_=>rfl⟩⟩
      .rcases cS with⟨h0,hv⟩|⟨g,cap,hg,dq,hv⟩
       .exact aS Y 0 0 w hv omg_ (λ_=>rfl) (λab bt=>by simp at bt)
       .refine aS _ _ _ w hv rfl (λ_=>rfl) (λab bt=>?_);rw[hQ];rfl
      .show Rel N np S0 w0 refs (σ.setB k (.live (.lst e el (over xs i ys) O))) a w S γ;rw[Mr,U9 hk];exact hR
     .rcases cS with⟨h0,hv⟩|⟨g,cap,hg,dq,hv⟩
      .omega
      .have oK:cap≠i:=omg_;rw[if_neg oK]at hv;obtain⟨w',aQ,dB⟩:=Mp (P:=P) hR hk hg (i:=i) (Ab.take (xs.length-i)) (by rw[lN];omega);refine⟨_,w',aS _ _ _ w' hv rfl (λh=>by simp at h) (λab bt=>?_),?_,⟨rfl,λ_=>rfl⟩⟩
       .simp only[j5]at bt;subst bt;exact aQ
       .show Rel N np S0 w0 refs (σ.setB k (.live (.lst e el (over xs i ys) O))) a w' S γ;rw[Af];exact dB
    .simp at h
   .simp at h
  .simp at h
 .simp at h
theorem jxp{P:À}{E:Env}(hT:db P E.T)(hR:Rel N np S0 w0 refs σ a w S γ){rd:H->BS}(bj:RdOk σ rd){t ty:Æ}{ti:TyI}(ht:E.T t=G ti)
  {x:Leaf}{u:Ups}{vx:F}(h:BQ rd ti.ty x=G u)(hx:bZ S w γ σ.bx x vx) :
  ∃v w',(Þ #[t] ty #[vx]).run P w = .ok v w'/\Rel N np S0 w0 refs (σ.upd u) a w' S γ:=by
 unfold BQ at h;split at h
 .rename_i k i DP;split at h
  .rename_i e el xs hk;split at h
   .rename_i bO;simp only[j5]at h;subst h;have ct:=bj.nm hk;have hk:=bj.live hk;obtain⟨hd,cq,te,cT,cU⟩:=pG hT ht bO;have cp:=od hT cT cU;obtain⟨z,hz,hQ⟩:=B4 hT cT w cU;obtain⟨hi,cS⟩:=U8 hR DP ct hk hx;by_cases hn:xs.length-i=0
    .have Af:U i xs++M (xs.length-i) el.dflt=xs:=by rw[hn];simp[W (show xs.length<=i by omega)]
     refine⟨.tuple #[],w,?_,?_⟩
     .rcases cS with⟨h0,hv⟩|⟨g,cap,hg,dq,hv⟩
      .simp[Þ,run_underlying hd,hv]
      .rw[hn]at hv;simp[Þ,run_underlying hd,hv]
     .show Rel N np S0 w0 refs (σ.setB k (.live (.lst e el (U i xs++M (xs.length-i) el.dflt) O))) a w S γ;rw[Af,U9 hk];exact hR
    .rcases cS with⟨h0,hv⟩|⟨g,cap,hg,dq,hv⟩
     .omega
     .have oK:cap≠i:=omg_;rw[if_neg oK]at hv
      have Va:All2 (λx c=>Rep S w el x c) (M (xs.length-i) el.dflt) (M (xs.length-i) (lK el)):=by
       have h0:=rV (S:=S) (w:=w) el
       have:∀n,All2 (λx c=>Rep S w el x c) (M n el.dflt) (M n (lK el)):=by
        intro n;induction n with
        |zero=>exact trivial
        |succ n ih=>exact⟨h0,ih⟩
       exact this _
      obtain⟨w',aQ,dB⟩:=Mp (P:=P) hR hk hg (i:=i) Va sqo_;refine⟨.tuple #[],w',?_,?_⟩
      .have hzp:0<z.cells.size:=by have:=Mk hQ;omega
       have dv:(Builtin.zeroCells z.cells (xs.length-i)).toList=(M (xs.length-i) (lK el)).flatten:=by rw[<-hQ];exact UY z.cells (xs.length-i) hzp
       rw[hv];obtain⟨m,hm⟩:∃m,xs.length-i=m+1:=⟨xs.length-i-1,omg_⟩;rw[hm]at dv aQ ⊢;simp[Þ,run_underlying hd,hz,dv,aQ]
      .show Rel N np S0 w0 refs (σ.setB k (.live (.lst e el (U i xs++M (xs.length-i) el.dflt) O))) a w' S γ;have:Ê (i+(M (xs.length-i) el.dflt).length) xs=[]:=jd sqo_;rw[this,kc]at dB;exact dB
   .simp at h
  .simp at h
 .simp at h
theorem jBJ{P:À}{E:Env}(hT:db P E.T)(hR:Rel N np S0 w0 refs σ a w S γ){rd:H->BS}(bj:RdOk σ rd){t ty:Æ}{ti:TyI}(ht:E.T t=G ti){el:Ty}(bO:ti.ty=G (.list el))
  {s x v:Leaf}{u:Ups}{vs vx:F}(h:appH rd ti.elem el s x=G (Ä,v,u))(hs:bZ S w γ σ.bx s vs)(hx:bZ S w γ σ.bx x vx) :
  ∃z w',(Î #[t,t] ty #[vs,vx]).run P w = .ok z w'/\Rel N np S0 w0 refs (σ.upd u) a w' S γ/\bZ S w' γ (σ.upd u).bx v z/\One z:=by
 unfold appH at h;split at h
 case h_2=>simp at h
 rename_i k i k' j;split at h
 case isFalse=>simp at h
 rename_i cD;subst cD;split at h
 case h_2=>simp at h
 rename_i e b xs hk;split at h
 case isFalse=>simp at h
 rename_i hb;obtain⟨hb,he⟩:=hb;subst hb;subst he;simp only[j5,j9,js]at h;obtain⟨dP,rfl,rfl⟩:=h;obtain⟨hd,_,te,cT,cU⟩:=pG hT ht bO;have cp:=od hT cT cU;obtain⟨inf,d,hi,_,og,_⟩:=oc hT cT;have mz:inf.size=b.size:=by rw[og,<-cp]
 have ct:=bj.nm hk;have hk:=bj.live hk;obtain⟨_,iE,ad,cap,hg,mX⟩:=hs.2.2 _ hk;obtain⟨_,xF,ad',hG,aL,DM⟩:=hx.2.2 _ hk;rw[hg]at aL;simp only[Z,qc]at aL;obtain⟨rfl,rfl⟩:=aL;obtain⟨css,bd,aA,hS⟩:=HM hg (hR.box k _ hk);have ej:=All2.all_len aA;have pN:(U i xs++(Ê j xs++Ê (i+(xs.length-j)) xs)).length=xs.length:=sqo_;have lQ:∀(w':Â),bZ S w' γ (σ.setB k (.live (.lst ti.elem b (U i xs++(Ê j xs++Ê (i+(xs.length-j)) xs)) O))).bx (.hd k (i+(xs.length-j))) (.slice ad (i+(xs.length-j)) cap):=by intro w';refine⟨by rw[hP];simp,rfl,λb' aW=>?_⟩;rw[hP]at aW;cases aW;exact⟨ct,by rw[pN];omega,ad,cap,by rw[pN];exact hg,rfl⟩
 rcases bd.2 with⟨kQ,hn⟩|⟨g,cap2,cur,kQ,_,hh,kD,ml,dy,eI⟩
 .rw[hg]at kQ;simp only[Z]at kQ;obtain⟨rfl,_,rfl⟩:=kQ;have rW:xs=[]:=kf hn;subst rW;have Vb:i=0:=by simpa using iE
  have Mo:j=0:=by simpa using xF
  subst Vb Mo;have aS:=run_append_owned_none (P:=P) w 0 t ty ti.elem inf b.size hd hi (.slice Y 0 0) 0 [] (á w 0 ti.elem b.size)
  have hid:σ.setB k (.live (.lst ti.elem b ([]:D b.den) O))=σ:=by
   show St.mk σ.sl _=σ
   have:(λj=>if j=k then BS.live (.lst ti.elem b ([]:D b.den) O) else σ.bx j)=σ.bx:=by
    funext j
    by_cases hj:j=k
    .subst hj;simp[hk]
    .simp[hj]
   rw[this]
  refine⟨_,w,by rw[mX,DM];exact aS,?_,lQ w,rfl⟩;show Rel N np S0 w0 refs (σ.setB k (.live (.lst ti.elem b ([]:D b.den) O))) a w S γ;rw[hid];exact hR
 .rw[hg]at kQ;simp only[Z,qc]at kQ;obtain⟨rfl,rfl⟩:=kQ;obtain⟨w',aQ,dB⟩:=Mp (P:=P) (i:=i) hR hk hg (aA.drop j) sqo_;have oO:(css.drop j).flatten.length=(xs.length-j)*b.size:=by have:=All2.flatten_length (λx c hx=>Rep.length b x c hx) (aA.drop j);simpa using this
  have h1:∀u∈(css.drop j).flatten,One u:=by intro u hu;obtain⟨c,hc,zT⟩:=List.mem_flatten.1 hu;obtain⟨x,_,hx⟩:=(aA.drop j).mem_right c hc;exact Rep.one b x c hx u zT
  have fw:i*b.size+(xs.length-j)*b.size<=xs.length*b.size:=by rw[<-Ç];exact k7 _ omg_
  have iQ:xs.length*b.size<=cap*b.size:=k7 _ kD;have dp:=run_storeCells_at P g (i*b.size) _ (css.drop j).flatten 0 cur w hh (by rw[oO,dy];omega) h1;simp only[vr]at dp;have hw:w'=w.setRow g (cur.toList.take (i*b.size)++(css.drop j).flatten++cur.toList.drop (i*b.size+(css.drop j).flatten.length)).toArray:=by have:=aQ.symm.trans dp;simpa using this
  have dv:∀q u,(css.drop j).flatten[q]? = G u->w.cell? ((⟨g,if cap=j then 0 else j*b.size,Y⟩:Addr).add q)=G u:=by
   intro q u hq;have Vc:q<(xs.length-j)*b.size:=by rw[<-oO];exact(ka.1 hq).1
   have hc:¬cap=j:=by intro hc;have:xs.length-j=0:=omg_;rw[this]at Vc;simp at Vc
   rw[if_neg hc,Å];rw[DI j ej,à]at hq;have:=bd.cells (g:=g) (by rw[hg];rfl) _ u hq;rwa[Å,ki]at this
  have aS:=run_append_room (P:=P) w t ty ti.elem inf hd hi g i cap cur (by exact hh) ⟨g,if cap=j then 0 else j*b.size,Y⟩ (xs.length-j) (cap-j) (css.drop j).flatten (by rw[mz];exact oO) dv h1 omg_
   (by rw[mz,oO,dy];omega)
  have Ms:vx = .slice (G ⟨g,if cap=j then 0 else j*b.size,Y⟩) (xs.length-j) (cap-j):=by
   rw[DM];by_cases hc:cap=j
   .rw[if_pos hc,if_pos hc]
   .rw[if_neg hc,if_neg hc];simp[Å]
  refine⟨_,w',by rw[mX,Ms,aS,hw,mz],?_,lQ w',rfl⟩;have:(Ê j xs).length=xs.length-j:=smp_;rw[this]at dB;exact dB
theorem jBK(hR:Rel N np S0 w0 refs σ a w S γ){k d e m:H}{el:Ty}{xs:D el.den}(hk:σ.bx k = .live (.lst e el xs O))(pK:parK np k=O)(DO:σ.bx d = .free){ad:Á Addr}{cap:H}(hm:m<=xs.length)
  (hg:γ k = .slice ad xs.length cap) :
  ∃γ',Rel N np S0 w0 refs (σ.upd [(k,.gone),(d,.live (.lst e el (U m xs) O))]) a w S γ'/\cm S w γ' (σ.upd [(k,.gone),(d,.live (.lst e el (U m xs) O))]).bx (.one (.ol d)) (.slice ad m cap):=by
 have uI:d≠k:=by rintro rfl;rw[DO]at hk;simp at hk
 have ct:=Ut hg (hR.box k _ hk);obtain⟨css,bd,aA,hS⟩:=jZ ct (hR.box k _ hk);have ej:=All2.all_len aA;have bV:=Mi hR hk;have rU:(σ.setB k .gone).bx d = .free:=by rw[dn σ _ uI];exact DO
 have aq:(U m xs).length=m:=sqo_;have hblk:blk (.slice ad m cap)=blk (γ k):=by rw[hg];cases ad<;>rfl
 have cV:w.ownsRow 0 e el.size (.slice ad m cap) (U m xs).length (U m css).flatten:=by
  refine⟨?_,?_⟩
  .rw[xB _ ej,qk,bd.1,aq];exact È (k7 _ hm)
  .rcases bd.2 with⟨aL,hn⟩|⟨g,hG,cur,aL,_,hh,kD,ml,dy,eI⟩
   .rw[hg]at aL;simp only[Z]at aL;obtain⟨rfl,_,rfl⟩:=aL;exact .inl ⟨by rw[show m=0 by omega],omg_⟩
   .rw[hg]at aL;simp only[Z,qc]at aL;obtain⟨rfl,rfl⟩:=aL;refine .inr ⟨g,cap,cur,by rw[aq],kp _,hh,omg_,ml,dy,?_⟩;rw[aq,xB _ ej,<-eI,vp,È (k7 _ hm)]
 have oL:∀g,blk (.slice ad m cap)=G g->Own w0 refs g/\(∀k' b,(σ.setB k .gone).bx k' = .live b->blk (γ k')≠G g)/\g<w.heap.size:=by
  intro g hg;rw[hblk]at hg;refine⟨?_,λk' b' aW aL=>?_,oI (hR.box k _ hk) hg⟩
  .rcases hR.own k _ g hk hg with h|h
   .exact h
   .rw[pK]at h;simp at h
  .have cD:k'≠k:=by rintro rfl;rw[hP]at aW;simp at aW
   rw[dn σ _ cD]at aW;exact hR.apart k' k _ _ g cD aW hk aL hg
 obtain⟨dB,dH⟩:=HV bV rU (hm:=ct) (w':=w) (S':=S) (v':= .slice ad m cap) (e:=e) (el:=el) (zs:=U m xs) (frz:=O) (css:=U m css) (.refl S w) (λg hg bz=>rfl) (jn _) oL
  (λg o hs=> .inl hs) rfl rfl rfl cV (aA.take _) (λg hg=>⟨λ_=>(hS g (by rw[<-hblk];exact hg)).1 rfl,smp_⟩) (λg hg=>hR.kw_live hk (by rw[<-hblk];exact hg))
 exact⟨_,dB,dH⟩
end
section
variable{N:NT}{np:H}{S0:aY}{w0:Â}{refs:Refs}{σ:St}{a:Ù}{w:Â}{S:aY}{γ:H->F}
theorem jyQ{el:Ty}{z:F}(hz:z.cells.toList=lK el)(n:H)(cq:0<el.size) :
  ∃css,All2 (λx c=>Rep S w el x c) (M n el.dflt) css/\((Ñ (n*z.cells.size)).map (λi=>z.cells[i%z.cells.size]!)).toList=css.flatten:=by
 refine⟨M n (lK el),?_,?_⟩
 .have hz:=rV (S:=S) (w:=w) el;induction n with
  |zero=>exact trivial
  |succ n ih=>exact⟨hz,ih⟩
 .rw[UY z.cells n (by rw[Mk hz];exact cq),hz]
theorem jpi{P:À}{E:Env}(hT:db P E.T)(hR:Rel N np S0 w0 refs σ a w S γ){rdf:H->BS}(bK:RdF np σ rdf){t:Æ}{ti:TyI}(ht:E.T t=G ti)
  {el:Ty}(bO:ti.ty=G (.list el)){len d:H}{ps:D (H×Cel)}{vs:É (H×F)}{xs:D el.den}{u:Ups}(hlen:len*el.size<=16777216)
  (jD:All2 (λp v=>p.1=v.1/\cm S w γ σ.bx p.2 v.2) ps vs.toList)(h:lG rdf el (M len el.dflt) [] ps=G (xs,u))(hd:σ.bx d = .free) :
  ∃v' w' S' γ',(è t len vs).run P w = .ok v' w'/\Rel N np S0 w0 refs (σ.upd (u++[(d,.live (.lst ti.elem el xs O))])) a w' S' γ'/\
   cm S' w' γ' (σ.upd (u++[(d,.live (.lst ti.elem el xs O))])).bx (.one (.ol d)) v':=by
 obtain⟨qL,cq,te,cT,cU⟩:=pG hT ht bO;have cp:=od hT cT cU;obtain⟨hf,eO⟩:=Mm bK hR.box cq ps vs.toList jD h .nil;obtain⟨S1,bV,dh,dY,dG⟩:=qN u σ S hR hf;obtain⟨z,hz,hQ⟩:=B4 hT cT w cU;have lP:z.cells.size=el.size:=Mk hQ;obtain⟨Mt,DR,jB⟩:=jyQ (S:=S1) (w:=w) hQ len cq;obtain⟨bL,mu,ic,aA,dv⟩:=eO S1 dh dY Mt _ DR jB
 have om:xs.length=len:=by
  have key:∀(ps:D (H×Cel)){xs dj:D el.den}{u u':Ups},lG rdf el xs u ps=G (dj,u')->dj.length=xs.length:=by
   intro ps;induction ps with
   |nil=>intro xs dj u u' h;simp[lG]at h;rw[h.1]
   |cons p ps ih=>
    intro xs dj u u' h;obtain⟨i,c⟩:=p;simp only[lG]at h;split at h
    .split at h
     .rw[ih h];simp
     .simp at h
    .simp at h
  rw[key ps h];simp
 have dy:bL.size=len*el.size:=by have:=All2.flatten_length (λx c hx=>Rep.length el x c hx) aA;rw[<-dv,om]at this;simpa using this
 have hzero:(if len*ti.size=0 then (Pure.pure #[]:Sem (É F)) else (do pure (<-zeroValue ti.elem).cells))=(if len*ti.size=0 then Pure.pure #[] else (do pure (<-zeroValue ti.elem).cells)):=rfl
 have aS:(è t len vs).run P w = .ok (.slice (G ⟨w.heap.size,0,Y⟩) len len) (w.alloc (.cells bL ti.elem)):=by
  have df:¬len*te.size>2^24:=by rw[<-cp];omega
  simp only[è,J,run_underlying qL,I,kA hT cT,Sem.run_ite,if_neg df];by_cases h0:len*te.size=0
  .have jC:len=0:=by
    rw[<-cp]at h0;rcases Nat.mul_eq_zero.1 h0 with h|h
    .exact h
    .omega
   subst jC
   have sT:Û (λi=>G (i*te.size,te.size)) ((Ñ (0*te.size)).map (λi=>(#[]:É F)[i%(#[]:É F).size]!)) vs.toList=G bL:=by
    rw[<-cp];have:((Ñ (0*el.size)).map (λi=>(#[]:É F)[i%(#[]:É F).size]!))=((Ñ (0*z.cells.size)).map (λi=>z.cells[i%z.cells.size]!)):=by apply ze;simp
    rw[this];exact ic
   rw[Nat.zero_mul]at sT;simp only[h0,if_true,Ã,I,sT,J,newRow,run_newObj,Ü]
  .have Ag:Û (λi=>G (i*te.size,te.size)) ((Ñ (len*te.size)).map (λi=>z.cells[i%z.cells.size]!)) vs.toList=G bL:=by rw[<-cp];rw[lP]at ic ⊢;exact ic
   simp only[h0,zu,J,hz,Ã,I,Ag,newRow,run_newObj,Ü]
 rw[nt];have aQ:=B9 bV (.cells bL ti.elem)
 obtain⟨dB,dH⟩:=HV bV (dG.free hd) (hm:=LY hT ht) (w':=w.alloc (.cells bL ti.elem)) (S':=S1) (v':= .slice (G ⟨w.heap.size,0,Y⟩) len len) (e:=ti.elem) (el:=el) (zs:=xs) (frz:=O) (css:=mu)
  aQ (λg hg _=>heap_alloc_old w _ hg) smp_ (λg hg=>by
   simp[blk]at hg;subst hg;exact⟨.inl hR.grow,λk b hk aL=>by have:=oI (bV.box k b hk) aL;omega,smp_⟩) (λg o hs=> .inl hs) rfl rfl rfl
  (by
   rw[om,<-dv];have hle:len<=maxLen:=by have:len*1<=len*el.size:=vj _ cq;simp only[maxLen];omega
   exact World.ownsRow_lit w bL len (kp _) hle dy) (aA.mono (λx c hx=>Rep.keep aQ _ _ _ hx)) (λg hg=>by
   simp[blk]at hg;subst hg;exact⟨λ_ o=>HQ bV o,smp_⟩) (λg hg=>by simp[blk]at hg;subst hg;exact bV.kw_new (jn _))
 exact⟨_,_,S1,_,aS,dB,dH⟩
theorem Cc{rd:H->BS}(bj:RdF np σ rd):∀{ls:D Leaf}{xs:D TV}{u:Ups}{zs:D F},tvs rd ls=G (xs,u)->All2 (bZ S w γ σ.bx) ls zs->
  FrzL np σ.bx u/\∀S' w',dK S w S' w'->Froz σ.bx γ S' w' u->All2 (λx z=>Rep S' w' x.t x.v [z]) xs zs
 |[],xs,u,zs,h,ha=>by
  simp[tvs]at h;obtain⟨rfl,rfl⟩:=h;cases zs with
  |nil=>exact⟨.nil,λ_ _ _ _=>trivial⟩
  |cons _ _=>exact ha.elim
 |l::ls,xs,u,zs,h,ha=>by
  cases zs with
  |nil=>exact ha.elim
  |cons z zs=>
   simp only[tvs]at h;split at h
   .rename_i H5 u1 h1;obtain⟨f1,p1⟩:=Cc bj h1 ha.2;split at h
    .rename_i t v;simp only[j5,j9]at h;obtain⟨rfl,rfl⟩:=h;exact⟨f1,λS' w' hk hf=>⟨Rep.keep hk _ _ _ ha.1,p1 S' w' hk hf⟩⟩
    .rename_i k;split at h
     .rename_i e t es f hk;simp only[j5,j9]at h;obtain⟨rfl,rfl⟩:=h;have bH:=bj.ok.live hk;refine⟨λx hx=>?_,λS' w' aQ hf=>⟨?_,p1 S' w' aQ (λx hx=>hf x (qx _ hx))⟩⟩
      .rcases je.1 hx with rfl|hx
       .exact⟨bj.par hk,e,t,es,f,bH,rfl,bj.ok.nm hk⟩
       .exact f1 x hx
      .have:=hf (k,_) (zd ..) e t es f bH;rw[ha.1.2.2 _ bH];exact this
     .simp at h
    .simp at h
   .simp at h
theorem jup(hR:Rel N np S0 w0 refs σ a w S γ){k:H}{ls:D Leaf}{f:Ú}(hk:σ.bx k = .live (.cell ls f))(hp:parK np k=O){xs:D TV}
  (hx:∀g cur e,γ k = .pointer (G ⟨g,0,Y⟩)->w.heap[g]? = G (.cells cur e (0,0))->All2 (bZ S w γ σ.bx) ls (cur.toList.take ls.length)->All2 (λx z=>Rep S w x.t x.v [z]) xs (cur.toList.take ls.length)) :
  ∃S' g,Rel N np S0 w0 refs (σ.setB k (.live (.cell (xs.map TV.leaf) Ä))) a w S' γ/\dK S w S' w/\γ k = .pointer (G ⟨g,0,Y⟩)/\kL S' w (.p xs) (.pointer (G ⟨g,0,Y⟩)):=by
 obtain⟨g,cur,e,hg,hh,eJ,h1,UP,Vd⟩:=hR.box k _ hk;have gW:=hx g cur e hg hh eJ;let S':aY:=λg' o=>S g' o\/(g'=g/\o<cur.size)
 have aQ:dK S w S' w:=λg o h=>⟨.inl h,rfl⟩
 have hle:BxLe γ σ.bx γ (σ.setB k (.live (.cell (xs.map TV.leaf) Ä))).bx:=by
  intro k' bH;by_cases cD:k'=k
  .subst cD;rw[hP];exact⟨smp_,rfl,λb hb=>by simp at hb;subst hb;exact⟨_,hk,trivial⟩⟩
  .rw[dn σ _ cD];exact⟨bH,rfl,λb hb=>⟨b,hb,.refl b⟩⟩
 have bU:∀k' b,(σ.setB k (.live (.cell (xs.map TV.leaf) Ä))).bx k' = .live b->∃b',σ.bx k' = .live b':=by
  intro k' b hb;by_cases cD:k'=k
  .subst cD;exact⟨_,hk⟩
  .rw[dn σ _ cD]at hb;exact⟨b,hb⟩
 refine⟨S',g,Rel.step (bx':=(σ.setB k (.live (.cell (xs.map TV.leaf) Ä))).bx) hR aQ hle ?_ ?_ ?_ ?_ ?_ hR.below hR.grow hR.os hR.tape hR.output (λg _ _ h=>⟨rfl,λk' b' aW=>by obtain⟨b2,fv⟩:=bU k' b' aW;exact h k' b2 fv⟩),aQ,hg,?_⟩
 .intro k' b hb;by_cases cD:k'=k
  .subst cD;rw[hP]at hb;simp at hb;subst hb;have hl:=HI eJ gW;exact⟨g,cur,e,hg,hh,by rw[ke,hl];exact uF (gW.mono (λx z hz=>Rep.keep aQ _ _ _ hz)),by rw[ke,hl];exact h1,smp_,λ_ o ho=> .inr ⟨rfl,ho⟩⟩
  .rw[dn σ _ cD]at hb;refine fK.keep aQ hle rfl (λg' aL=>⟨rfl,λo=>⟨λhs=>?_,.inl⟩⟩) (hR.box k' b hb);rcases hs with hs|hs
   .exact hs
   .exact absurd (by rw[hg,hs.1];rfl) (hR.apart k' k b _ g' cD hb hk aL)
 .intro k' b g' hb aL;obtain⟨b',aW⟩:=bU k' b hb;exact hR.own k' b' g' aW aL
 .intro k1 k2 b1 b2 g' bz h1 h2 aL;obtain⟨vF,nr⟩:=bU k1 b1 h1;obtain⟨vG,mo⟩:=bU k2 b2 h2;exact hR.apart k1 k2 vF vG g' bz nr mo aL
 .intro g' o hs;rcases hs with hs|hs
  .exact hR.new g' o hs
  .rcases hR.own k _ g hk (by rw[hg];rfl) with h|h
   .refine .inr ?_;have:g'=g:=omg_;rw[this];exact h
   .rw[hp]at h;simp at h
 .intro g' o hs;rcases hs with hs|hs
  .exact hR.here g' o hs
  .rw[hs.1];exact(jq.1 hh).1
 .refine⟨g,0,cur.toList.take ls.length,rfl,gW.mono (λx z hz=>Rep.keep aQ _ _ _ hz),λj v hv=>?_⟩
  have hv:cur.toList[j]? = G v:=by
   rw[zb]at hv;split at hv
   .exact hv
   .simp at hv
  have hj:j<cur.size:=by simpa using (ka.1 hv).1
  rw[ki];refine⟨.inr ⟨rfl,hj⟩,?_⟩;rw[cell_of_row w g j cur e (0,0) hh];simpa using hv
theorem Ve{rd:H->BS}(bj:RdF np σ rd):∀{cs:D Cel}{l:D Cap}{u:Ups}{zs:D F},xl rd cs=G (l,u)->Rel N np S0 w0 refs σ a w S γ->All2 (cm S w γ σ.bx) cs zs->
  ∃S',Rel N np S0 w0 refs (σ.upd u) a w S' γ/\dK S w S' w/\All2 (kL S' w) l zs/\(∀k e t xs f,σ.bx k = .live (.lst e t xs f)->∃f',(σ.upd u).bx k = .live (.lst e t xs f'))/\BxLe γ σ.bx γ (σ.upd u).bx/\∀k,σ.bx k = .free->(σ.upd u).bx k = .free
 |[],l,u,zs,h,hR,ha=>by
  simp[xl]at h;obtain⟨rfl,rfl⟩:=h;cases zs with
  |nil=>exact⟨S,hR,.refl S w,trivial,λk e t xs f h=>⟨f,h⟩,.refl _ _,λ_ h=>h⟩
  |cons _ _=>exact ha.elim
 |c::r,l,u,zs,h,hR,ha=>by
  cases zs with
  |nil=>exact ha.elim
  |cons z zs=>
   simp only[xl]at h;split at h
   .rename_i l1 u1 h1;obtain⟨S1,bV,dh,fL,pJ,oT,DS⟩:=Ve bj h1 hR ha.2;split at h
    .rename_i t v;split at h
     .rename_i gq;simp only[j5,j9]at h;obtain⟨rfl,rfl⟩:=h;exact⟨S1,bV,dh,⟨⟨gq,Rep.keep dh _ _ _ ha.1.1⟩,fL⟩,pJ,oT,DS⟩
     .simp at h
    .rename_i k;split at h
     .rename_i ls f hk;split at h
      .rename_i xs u2 h2;split at h
       .simp at h
       .rename_i sU;simp only[j5,j9]at h;obtain⟨rfl,rfl⟩:=h;have pK:=bj.par hk;have hk:=bj.ok.live hk;have sU:(u1++u2).any (λy=>y.1==k)=false:=z8.2 sU;rw[ê,Ô]at sU;obtain⟨g,cur,e,hg,hh,eJ,_⟩:=hR.box k _ hk;obtain⟨zY,xw⟩:=Cc bj h2 eJ;have Mu:FrzL np (σ.upd u1).bx u2:=by intro x hx;obtain⟨xG,e',t',dj,f',aW,iD⟩:=zY x hx;obtain⟨f2,h2⟩:=pJ _ e' t' dj f' aW;exact⟨xG,e',t',dj,f2,h2,iD⟩
        obtain⟨S2,dA,dp,sV,oU⟩:=qN u2 (σ.upd u1) S1 bV Mu;have DT:Froz σ.bx γ S2 w u2:=by intro x hx e' t' dj f' aW;obtain⟨f2,h2⟩:=pJ _ e' t' dj f' aW;exact sV x hx e' t' dj f2 h2
        have gy:((σ.upd u1).upd u2).bx k = .live (.cell ls f):=by rw[oJ u2 _ sU.2,oJ u1 _ sU.1,hk]
        obtain⟨S3,g3,iR,DU,Mv,dq⟩:=jup dA gy pK (xs:=xs) (λg' kR e' aL HP _=>by
         rw[hg]at aL;simp at aL;subst aL;rw[hh]at HP;simp at HP;obtain⟨rfl,_⟩:=HP;exact xw S2 w (dh.trans dp) DT)
        have hz:z=γ k:=by obtain⟨g4,h4,h5⟩:=ha.1.1.2.2 _ hk;rw[h5,h4]
        rw[nt,nt];refine⟨S3,iR,(dh.trans dp).trans DU,⟨by rw[hz,Mv];exact dq,fL.mono (λx z hx=>kL.keep (dp.trans DU) hx)⟩,λk' e' t' dj f' aW=>?_,?_,λk' bH=>?_⟩
        .obtain⟨f2,h2⟩:=pJ _ e' t' dj f' aW;obtain⟨f3,h3⟩:=oU.lst h2;have cD:k'≠k:=by rintro rfl;rw[gy]at h3;simp at h3
         exact⟨f3,by show (((σ.upd u1).upd u2).setB k _).bx k'=_;rw[dn _ _ cD];exact h3⟩
        .have kO:BxLe γ (σ.upd u1).bx γ ((σ.upd u1).upd u2).bx:=oU.le
         have Mw:BxLe γ ((σ.upd u1).upd u2).bx γ ((((σ.upd u1).upd u2)).setB k (.live (.cell (xs.map TV.leaf) Ä))).bx:=by
          intro k' bH;by_cases cD:k'=k
          .subst cD;rw[hP];exact⟨smp_,rfl,λb hb=>by simp at hb;subst hb;exact⟨_,gy,trivial⟩⟩
          .rw[dn _ _ cD];exact⟨bH,rfl,λb hb=>⟨b,hb,.refl b⟩⟩
         have tr:∀{b1 b2 b3:H->BS},BxLe γ b1 γ b2->BxLe γ b2 γ b3->BxLe γ b1 γ b3:=by intro b1 b2 b3 Ah h23 k' bH;obtain⟨q1,q2,q3⟩:=Ah k' bH;obtain⟨r1,r2,r3⟩:=h23 k' q1;refine⟨r1,rfl,λb hb=>?_⟩;obtain⟨b',aW,cW⟩:=r3 b hb;obtain⟨DV,sW,sX⟩:=q3 b' aW;refine⟨DV,sW,?_⟩;exact sX.trans cW
         exact tr (tr oT kO) Mw
        .have h3:=oU.free (DS k' bH);have cD:k'≠k:=by rintro rfl;rw[hk]at bH;simp at bH
         show (((σ.upd u1).upd u2).setB k _).bx k'=_;rw[dn _ _ cD];exact h3
      .simp at h
     .simp at h
    .simp at h
   .simp at h
end
section
variable(S:aY)(w:Â)
def DW(ls:D TV)(u:F):Prop:=
 ∃g cur e,u = .pointer (G ⟨g,0,Y⟩)/\w.heap[g]? = G (.cells cur e (0,0))/\All2 (λx z=>Rep S w x.t x.v [z]) ls (cur.toList.take ls.length)/\∀o,¬S g o
def xH(e:H)(x:TV)(u:F):Prop:=
 ∃(a:Ty)(xs:D a.den),x=⟨.list a,xs⟩/\sF S w e a xs u/\∀g,blk u=G g->∀o,¬S g o
def pO:Arg->F->Prop
 |.v x,u=>VRep S w x u
 |.ref ls,u=>DW S w ls u
 |.rl e x,u=>xH S w e x u
 |.ip ls,u=>∃g o cs,u = .pointer (G ⟨g,o,Y⟩)/\All2 (λx z=>Rep S w x.t x.v [z]) ls cs/\Lies S w g o cs
 |.clo f bN,u=>∃cv:É F,u = .func (.func f) #[] cv/\All2 (kL S w) bN cv.toList
 |.mv e x,u=>xH S w e x u/\isM e=O
def mD:Arg->F->Á H
 |.ref _,u=>blk u
 |.rl _ _,u=>blk u
 |.mv _ _,u=>blk u
 |_,_=>Y
def eu:D Arg->D F->D H
 |a::as,u::us=>(mD a u).toList++eu as us
 |_,_=>[]
def mvOf:D Arg->D F->D H
 |.mv _ _::as,u::us=>(blk u).toList++mvOf as us
 |_::as,_::us=>mvOf as us
 |_,_=>[]
def H6:RL->F->Prop
 |.d x,z=>One z/\Rep S w x.t x.v [z]
 |.own e x,z=>xH S w e x z
def rX:RV->F->Prop
 |.v x,u=>VRep S w x u
 |.own e x,u=>xH S w e x u
 |.box ls,u=>DW S w ls u
 |.hd _,u=>One u
 |.clo f bN,u=>∃cv:É F,u = .func (.func f) #[] cv/\All2 (kL S w) bN cv.toList
 |.so ls,u=>∃cs:É F,u = .agg cs/\All2 (H6 S w) ls cs.toList
 |.vn x ns,u=>VRep S w x u/\∀cs,u = .agg cs->∀i∈ns,∀z,cs.toList[i]? = G z->z = .slice Y 0 0
def pP:RV->F->Á H
 |.v _,_=>Y
 |.hd _,_=>Y
 |.vn _ _,_=>Y
 |.clo _ _,_=>Y
 |.so _,_=>Y
 |_,u=>blk u
def pQ:D RL->D F->D H
 |.own _ _::ls,z::zs=>(blk z).toList++pQ ls zs
 |.d _::ls,_::zs=>pQ ls zs
 |_,_=>[]
def nw:RV->F->D H
 |.so ls,u=>pQ ls u.cells.toList
 |r,u=>(pP r u).toList
def gL:D RV->D F->D H
 |r::rs,u::us=>nw r u++gL rs us
 |_,_=>[]
def mY:D Arg->D F->D Out->Prop
 |[],[],[]=>True
 |.ref _::as,u::us,.ref ys::os=>DW S w ys u/\mY as us os
 |.rl e x::as,u::us,.rl y::os=>xH S w e y u/\y.t=x.t/\mY as us os
 |.v _::as,_::us,os=>mY as us os
 |.ip _::as,_::us,os=>mY as us os
 |.clo _ _::as,_::us,os=>mY as us os
 |.mv _ _::as,_::us,os=>mY as us os
 |_,_,_=>False
end
def uL(vs:D F):Value:=match vs with
 |[v]=>v
 |vs=> .tuple vs.toArray
def H7:D Arg->D F->Á F
 |.ref _::_,u::_=>G u
 |.rl _ _::_,u::_=>G u
 |_::as,_::us=>H7 as us
 |_,_=>Y
structure Mx(w:Â)(S:aY)(args:D Arg)(vals:D F)(ret:Ret)(v:F)(w':Â)(S':aY)(vs:D F):Prop where
 val:v=uL vs
 rep:All2 (rX S' w') ret.vals vs
 fresh:∀g∈gL ret.vals vs,w.heap.size<=g\/g∈mvOf args vals
 apart:(gL ret.vals vs).Nodup
 outs:mY S' w' args vals ret.outs
 stays:dK S w S' w'
 new:∀g o,S' g o->S g o\/w.heap.size<=g\/g∈mvOf args vals
 here:∀g o,S' g o->g<w'.heap.size
 below:∀g,g<w.heap.size->g∉eu args vals->w'.heap[g]? = w.heap[g]?
 grow:w.heap.size<=w'.heap.size
 os:w'.os=w.os
 tape:w'.tape=w.tape
 output:w'.output=w.output
 head:∀m,ret.vals=[.hd m]->∃ad len cap,H7 args vals=G (.slice ad len cap)/\m<=len/\vs=[.slice ad m cap]
def H8(P:À)(f:H)(args:D Arg)(K:Ret->Prop):Prop:=
 ∀(w:Â)(S:aY)(vals:D F),All2 (pO S w) args vals->(eu args vals).Nodup->(∀g o,S g o->g<w.heap.size)->
  Calls P f vals.toArray w λe w'=>∃ret,K ret/\∃v S' vs,e = .returned v/\Mx w S args vals ret v w' S' vs
def Fun(P:À)(f:H):Prop:=
 ∃ fn, P.funcs[f]? = G fn ∧ fn.body.isNone = O ∧ (fn.name == "runtime.NumGoroutine") = O
def FnOK(P:À)(f:H)(c:D Arg->(R:Type)->(Ret->Á R)->Á R):Prop:=
 ∀(args:D Arg)(R:Type)(k:Ret->Á R)(r:R),c args R k=G r->Fun P f/\H8 P f args λret=>k ret=G r
def oo(P:À)(C:H->D Arg->(R:Type)->(Ret->Á R)->Á R):Prop:=∀f,FnOK P f (C f)
section
variable{N:NT}{np:H}{S0:aY}{w0:Â}{refs:Refs}{σ:St}{a:Ù}{w:Â}{S:aY}{γ:H->F}
theorem vV{S':aY}{w':Â}:∀(t:Ty)(v:t.den)(cs:D F),t.flat=Ä->Rep S w t v cs->Rep S' w' t v cs
 |.int _,_,_,_,h=>h
 |.bool,_,_,_,h=>h
 |.str,_,_,_,h=>h
 |.unit,_,_,_,h=>h
 |.wrap a,v,cs,hf,h=>vV a v cs hf h
 |.pair a b,_,_,hf,⟨c1,c2,e,h1,h2⟩=>by
  simp only[Ty.flat,jg]at hf;exact⟨c1,c2,e,vV a _ _ hf.1 h1,vV b _ _ hf.2 h2⟩
 |.list _,_,_,hf,_=>by simp[Ty.flat]at hf
 |.arr _ a,_,_,hf,⟨hn,css,ha,e⟩=>⟨hn,css,ha.mono (λx c hx=>vV a x c hf hx),e⟩
def gX(bx:H->BS)(γ:H->F):D Arg->D F->D Bk->Prop
 |[],[],[]=>True
 |.ref ls::as,u::us,.ref k::fs=>u=γ k/\(∃gn,bx k = .live (.cell gn O))/\gX bx γ as us fs
 |.rl e x::as,u::us,.rl k e' t::fs=>e=e'/\u=γ k/\(∃xs,bx k = .live (.lst e t xs O)/\x=⟨.list t,xs⟩)/\gX bx γ as us fs
 |.v _::as,_::us,fs=>gX bx γ as us fs
 |.ip _::as,_::us,fs=>gX bx γ as us fs
 |.clo _ _::as,_::us,fs=>gX bx γ as us fs
 |.mv e x::as,u::us,.mv k e' t::fs=>e=e'/\u=γ k/\(∃xs,bx k = .live (.lst e t xs O)/\x=⟨.list t,xs⟩)/\gX bx γ as us fs
 |_,_,_=>False
theorem jyR{rd rdf:H->BS}(hR:Rel N np S0 w0 refs σ a w S γ)(bj:RdR σ rd)(bK:RdF np σ rdf){t:Á TyI}{mv rl:Ú}{c:Cel}{arg:Arg}{u:Ups}{f:Á Bk}{z:F}
  (h:xm rd rdf t mv rl c=G (arg,u,f))(hc:cm S w γ σ.bx c z) :
  FrzL np σ.bx u/\gX σ.bx γ [arg] [z] f.toList/\∀S',dK S w S' w->Froz σ.bx γ S' w u->(∀k b,f.toList.any (λy=>y.name==k)=Ä->σ.bx k = .live b->∀g,blk (γ k)=G g->∀o,¬S' g o)->pO S' w arg z:=by
 unfold xm at h;split at h
 .rename_i k;split at h
  .rename_i ls hk;split at h
   .rename_i xs u1 h1;simp only[j5,j9]at h;obtain⟨rfl,rfl,rfl⟩:=h;have hk:=bj.live hk;obtain⟨g,hg,hz⟩:=hc.1.2.2 _ hk;obtain⟨g',cur,e,aL,hh,eJ,_,_,hS⟩:=hR.box k _ hk;rw[hg]at aL;simp at aL;subst aL;obtain⟨hf,hp⟩:=Cc bK h1 eJ;refine⟨hf,trivial,λS' aQ dY _=>⟨g,0,cur.toList.take ls.length,hz,hp S' w aQ dY,λj v hv=>?_⟩⟩
    have hv:cur.toList[j]? = G v:=by
     rw[zb]at hv;split at hv
     .exact hv
     .simp at hv
    have hj:j<cur.size:=by simpa using (ka.1 hv).1
    rw[ki];refine⟨(aQ _ _ (hS rfl j hj)).1,?_⟩;rw[cell_of_row w g j cur e (0,0) hh];simpa using hv
   .simp at h
  .rename_i ls hk;split at h
   .rename_i xs u1 h1;simp only[j5,j9]at h;obtain⟨rfl,rfl,rfl⟩:=h;have hk:=bj.live hk;obtain⟨g,hg,hz⟩:=hc.1.2.2 _ hk;obtain⟨g',cur,e,aL,hh,eJ,_⟩:=hR.box k _ hk;rw[hg]at aL;simp at aL;subst aL;obtain⟨hf,hp⟩:=Cc bK h1 eJ;refine⟨hf,⟨hz.trans hg.symm,⟨ls,hk⟩,trivial⟩,λS' aQ dY hn=>⟨g,cur,e,hz,hh,by rw[HI eJ (hp S' w aQ dY)];exact hp S' w aQ dY,?_⟩⟩;exact hn k _ (by simp[Bk.name]) hk g (by rw[hg];rfl)
   .simp at h
  .simp at h
 .simp only[j5,j9]at h;obtain⟨rfl,rfl,rfl⟩:=h;refine⟨.nil,trivial,λS' aQ _ _=>?_⟩;obtain⟨g,o,cs,hz,ha,hl⟩:=hc.1;exact⟨g,o,cs,hz,ha.mono (λx z hx=>Rep.keep aQ _ _ _ hx),hl.keep aQ⟩
 .simp only[j5,j9]at h;obtain⟨rfl,rfl,rfl⟩:=h;refine⟨.nil,trivial,λS' aQ _ _=>?_⟩;obtain⟨cv,hz,ha⟩:=hc.1;exact⟨cv,hz,ha.mono (λx z hx=>kL.keep aQ hx)⟩
 .rename_i k;split at h
  .cases mv with
   |true=>
    rw[j6]at h;split at h
    .rename_i e t xs hk;simp only[j5,j9]at h;obtain⟨rfl,rfl,rfl⟩:=h;have ct:=bK.ok.nm hk;have hk:=bK.ok.live hk;have hz:=hc.1.2.2 _ hk;refine⟨.nil,⟨rfl,hz,⟨xs,hk,rfl⟩,trivial⟩,λS' aQ _ hn=>?_⟩;have fT:=(hR.box k _ hk).1;exact⟨⟨t,xs,rfl,by rw[hz];exact fT.keep aQ (λ_ _=>rfl),λg hg=>hn k _ (by simp[Bk.name]) hk g (by rw[<-hz];exact hg)⟩,ct⟩
    .simp at h
   |false=>
   rw[j7]at h;split at h
   .rename_i e t xs hk;simp only[j5,j9]at h;obtain⟨rfl,rfl,rfl⟩:=h;have hk:=bj.live hk;have hz:=hc.1.2.2 _ hk;refine⟨.nil,⟨rfl,hz,⟨xs,hk,rfl⟩,trivial⟩,λS' aQ _ hn=>?_⟩;have fT:=(hR.box k _ hk).1;exact⟨t,xs,rfl,by rw[hz];exact fT.keep aQ (λ_ _=>rfl),λg hg=>hn k _ (by simp[Bk.name]) hk g (by rw[<-hz];exact hg)⟩
   .simp at h
  .split at h
   .rename_i e t xs fz hk;simp only[j5,j9]at h;obtain⟨rfl,rfl,rfl⟩:=h;have pK:=bK.par hk;have ct:=bK.ok.nm hk;have hk:=bK.ok.live hk;have hz:=hc.1.2.2 _ hk;refine⟨λx hx=>?_,trivial,λS' aQ dY _=>?_⟩
    .have:=kr.1 hx;subst this;exact⟨pK,e,t,xs,fz,hk,rfl,ct⟩
    .have h1:One z:=hc.2 smp_;have:=dY (k,_) (kr.2 rfl) e t xs fz hk;rw[<-hz]at this;exact⟨by rw[B8 h1];exact this,by simp[kM,Ty.agg],λ_=>h1⟩
   .simp at h
 .split at h
  .split at h
   .rename_i ty bO;split at h
    .rename_i x u1 hx;simp only[j5,j9]at h;obtain⟨rfl,rfl,rfl⟩:=h;obtain⟨hf,hp,_⟩:=DD bK hR.box hx hc;exact⟨hf,trivial,λS' aQ dY _=>hp S' w aQ dY⟩
    .simp at h
   .simp at h
  .simp at h
theorem gX.app{bx:H->BS}{arg:Arg}{z:F}{f:D Bk}:gX bx γ [arg] [z] f->∀{as:D Arg}{us:D F}{fs:D Bk},gX bx γ as us fs->gX bx γ (arg::as) (z::us) (f++fs):=by
 intro h as us fs h';cases arg with
 |v x=>cases f with|nil=>exact h'|cons _ _=>exact h.elim
 |ip x=>cases f with|nil=>exact h'|cons _ _=>exact h.elim
 |clo x y=>cases f with|nil=>exact h'|cons _ _=>exact h.elim
 |ref ls=>
  match f,h with
  |[.ref k],⟨h1,h2,_⟩=>exact⟨h1,h2,h'⟩
  |.ref k::_::_,⟨_,_,h3⟩=>exact h3.elim
 |rl e x=>
  match f,h with
  |[.rl k e' t],⟨h0,h1,h2,_⟩=>exact⟨h0,h1,h2,h'⟩
  |.rl k e' t::_::_,⟨_,_,_,h3⟩=>exact h3.elim
 |mv e x=>
  match f,h with
  |[.mv k e' t],⟨h0,h1,h2,_⟩=>exact⟨h0,h1,h2,h'⟩
  |.mv k e' t::_::_,⟨_,_,_,h3⟩=>exact h3.elim
theorem Vf{rd rdf:H->BS}(hR:Rel N np S0 w0 refs σ a w S γ)(bj:RdR σ rd)(bK:RdF np σ rdf){T:H->Á TyI}{mv:Ú}:∀{cs:D Cel}{ts:D H}{ms:D Ú}{as:D Arg}{u:Ups}{fs:D Bk}{zs:D F},
  rM rd rdf T mv ts ms cs=G (as,u,fs)->All2 (cm S w γ σ.bx) cs zs->
  FrzL np σ.bx u/\gX σ.bx γ as zs fs/\∀S',dK S w S' w->Froz σ.bx γ S' w u->(∀k b,fs.any (λy=>y.name==k)=Ä->σ.bx k = .live b->∀g,blk (γ k)=G g->∀o,¬S' g o)->All2 (pO S' w) as zs
 |[],ts,ms,as,u,fs,zs,h,ha=>by
  simp[rM]at h;obtain⟨rfl,rfl,rfl⟩:=h;cases zs with
  |nil=>exact⟨.nil,trivial,λ_ _ _ _=>trivial⟩
  |cons _ _=>exact ha.elim
 |c::cs,ts,ms,as,u,fs,zs,h,ha=>by
  cases zs with
  |nil=>exact ha.elim
  |cons z zs=>
   simp only[rM]at h;split at h
   .rename_i a1 u1 f1 h1;split at h
    .rename_i HH gC Vg h2;simp only[j5,j9]at h;obtain⟨rfl,rfl,rfl⟩:=h;obtain⟨p1,q1,r1⟩:=jyR hR bj bK h1 ha.1;obtain⟨p2,q2,r2⟩:=Vf hR bj bK h2 ha.2;refine⟨FrzL.app.2 ⟨p1,p2⟩,q1.app q2,λS' aQ dY hn=>?_⟩;obtain⟨z1,z2⟩:=Froz.app.1 dY;exact⟨r1 S' aQ z1 (λk b hk=>hn k b (by rw[ê,hk];rfl)),r2 S' aQ z2 (λk b hk=>hn k b (by rw[ê,hk];simp))⟩
    .simp at h
   .simp at h
theorem Vh:∀{cs:D Cap}{zs:D F},All2 (kL S w) cs zs->All2 (pO S w) (cs.map qI) zs
 |[],[],_=>trivial
 |c::cs,z::zs,h=>by
  refine⟨?_,Vh h.2⟩;cases c with
  |v x=>obtain⟨hl,hr⟩:=h.1;have h1:One z:=Rep.one _ _ _ hr z smp_;refine⟨by rw[B8 h1];exact hr,λhm=>?_,λ_=>h1⟩;exfalso;obtain⟨t,v⟩:=x;cases t<;>simp_all[Ty.leafy,kM,Ty.agg]
  |p ls=>exact h.1
 |[],_::_,h=>h.elim
 |_::_,[],h=>h.elim
theorem Vi:∀(cs:D Cap)(zs:D F),eu (cs.map qI) zs=[]
 |[],_=>by cases ‹D F› <;> rfl
 |c::cs,[]=>rfl
 |c::cs,z::zs=>by cases c<;>simp[eu,mD,qI,Vi cs zs]
theorem Vj:∀(as:D Arg)(us:D F)(bs:D Arg)(vs:D F),as.length=us.length->eu (as++bs) (us++vs)=eu as us++eu bs vs
 |[],[],bs,vs,_=>rfl
 |a::as,u::us,bs,vs,h=>by simp[eu,Vj as us bs vs (by simpa using h)]
 |[],_::_,_,_,h=>by simp at h
 |_::_,[],_,_,h=>by simp at h
theorem xI{bx:H->BS}:∀{as:D Arg}{us:D F}{fs:D Bk},gX bx γ as us fs->eu as us=fs.filterMap λf=>blk (γ f.name)
 |[],[],[],_=>rfl
 |.ref ls::as,u::us,.ref k::fs,⟨h1,_,h3⟩=>by
  simp only[eu,mD,vk,Bk.name,h1,xI h3];cases blk (γ k)<;>rfl
 |.rl e x::as,u::us,.rl k e' t::fs,⟨_,h1,_,h3⟩=>by
  simp only[eu,mD,vk,Bk.name,h1,xI h3];cases blk (γ k)<;>rfl
 |.mv e x::as,u::us,.mv k e' t::fs,⟨_,h1,_,h3⟩=>by
  simp only[eu,mD,vk,Bk.name,h1,xI h3];cases blk (γ k)<;>rfl
 |.v _::as,_::us,fs,h=>by simp[eu,mD,xI (as:=as) (us:=us) (fs:=fs) h]
 |.ip _::as,_::us,fs,h=>by simp[eu,mD,xI (as:=as) (us:=us) (fs:=fs) h]
 |.clo _ _::as,_::us,fs,h=>by simp[eu,mD,xI (as:=as) (us:=us) (fs:=fs) h]
theorem Vk:∀{as:D Arg}{us:D F}{g:H},g∈mvOf as us->g∈eu as us
 |[],_,g,h=>by simp[mvOf]at h
 |_::_,[],g,h=>by rename_i a _;cases a<;>simp[mvOf]at h
 |a::as,u::us,g,h=>by
  have ih:=Vk (as:=as) (us:=us) (g:=g);cases a with
  |mv e x=>simp only[mvOf,eu,mD,jj]at h ⊢;exact h.imp id ih
  |_=>simp only[mvOf]at h;simp only[eu,jj];exact .inr (ih h)
theorem xJ{bx:H->BS}:∀{as:D Arg}{us:D F}{fs:D Bk}{g:H},gX bx γ as us fs->g∈mvOf as us->∃f∈fs,f.isMv=Ä/\blk (γ f.name)=G g
 |[],[],[],g,_,h=>by simp[mvOf]at h
 |.ref ls::as,u::us,.ref k::fs,g,⟨_,_,h3⟩,h=>by
  obtain⟨f,hf,h1⟩:=xJ (g:=g) h3 (by simpa only[mvOf]using h);exact⟨f,by simp[hf],h1⟩
 |.rl e x::as,u::us,.rl k e' t::fs,g,⟨_,_,_,h3⟩,h=>by
  obtain⟨f,hf,h1⟩:=xJ (g:=g) h3 (by simpa only[mvOf]using h);exact⟨f,by simp[hf],h1⟩
 |.mv e x::as,u::us,.mv k e' t::fs,g,⟨_,h1,_,h3⟩,h=>by
  simp only[mvOf,jj,Option.mem_toList]at h;rcases h with h|h
  .exact⟨.mv k e' t,smp_,rfl,by rw[<-h];show blk (γ k)=blk u;rw[h1]⟩
  .obtain⟨f,hf,h1⟩:=xJ (g:=g) h3 h;exact⟨f,by simp[hf],h1⟩
 |.v _::as,_::us,fs,g,hb,h=>xJ (as:=as) (us:=us) (fs:=fs) hb (by simpa only[mvOf]using h)
 |.ip _::as,_::us,fs,g,hb,h=>xJ (as:=as) (us:=us) (fs:=fs) hb (by simpa only[mvOf]using h)
 |.clo _ _::as,_::us,fs,g,hb,h=>xJ (as:=as) (us:=us) (fs:=fs) hb (by simpa only[mvOf]using h)
theorem jyT{rd rdf:H->BS}(bK:RdF np σ rdf){t:Á TyI}{mv rl:Ú}{c:Cel}{arg:Arg}{u:Ups}{f:Á Bk}(h:xm rd rdf t mv rl c=G (arg,u,f)):∀x∈f.toList,x.isMv=Ä->parK np x.name=false:=by
 intro x hx hm;unfold xm at h;split at h
 .split at h
  .split at h
   .simp only[j5,j9]at h;obtain⟨_,_,rfl⟩:=h;simp at hx
   .simp at h
  .split at h
   .simp only[j5,j9]at h;obtain⟨_,_,rfl⟩:=h;simp at hx;subst hx;simp[Bk.isMv]at hm
   .simp at h
  .simp at h
 .simp only[j5,j9]at h;obtain⟨_,_,rfl⟩:=h;simp at hx
 .simp only[j5,j9]at h;obtain⟨_,_,rfl⟩:=h;simp at hx
 .split at h
  .cases mv with
   |true=>
    rw[j6]at h;split at h
    .rename_i hk;simp only[j5,j9]at h;obtain⟨_,_,rfl⟩:=h;simp at hx;subst hx;exact bK.par hk
    .simp at h
   |false=>
    rw[j7]at h;split at h
    .simp only[j5,j9]at h;obtain⟨_,_,rfl⟩:=h;simp at hx;subst hx;simp[Bk.isMv]at hm
    .simp at h
  .split at h
   .simp only[j5,j9]at h;obtain⟨_,_,rfl⟩:=h;simp at hx
   .simp at h
 .split at h
  .split at h
   .split at h
    .simp only[j5,j9]at h;obtain⟨_,_,rfl⟩:=h;simp at hx
    .simp at h
   .simp at h
  .simp at h
theorem Vl{rd rdf:H->BS}(bK:RdF np σ rdf){T:H->Á TyI}{mv:Ú}:∀{cs:D Cel}{ts:D H}{ms:D Ú}{as:D Arg}{u:Ups}{fs:D Bk},
  rM rd rdf T mv ts ms cs=G (as,u,fs)->∀x∈fs,x.isMv=Ä->parK np x.name=O
 |[],ts,ms,as,u,fs,h,x,hx,hm=>by
  simp[rM]at h;obtain⟨rfl,rfl,rfl⟩:=h;simp at hx
 |c::cs,ts,ms,as,u,fs,h,x,hx,hm=>by
  simp only[rM]at h;split at h
  .rename_i a1 u1 f1 h1;split at h
   .rename_i HH gC Vg h2;simp only[j5,j9]at h;obtain⟨rfl,rfl,rfl⟩:=h;rcases jj.1 hx with hx|hx
    .exact jyT bK h1 x hx hm
    .exact Vl bK h2 x hx hm
   .simp at h
  .simp at h
theorem uM{bx:H->BS}:∀{as:D Arg}{us:D F}{fs:D Bk},gX bx γ as us fs->∀f∈fs,∃b,bx f.name = .live b
 |[],[],[],_,f,hf=>by simp at hf
 |.ref ls::as,u::us,.ref k::fs,⟨_,⟨gn,h2⟩,h3⟩,f,hf=>by
  rcases je.1 hf with rfl|hf
  .exact⟨_,h2⟩
  .exact uM h3 f hf
 |.rl e x::as,u::us,.rl k e' t::fs,⟨_,_,⟨xs,h2,_⟩,h3⟩,f,hf=>by
  rcases je.1 hf with rfl|hf
  .exact⟨_,h2⟩
  .exact uM h3 f hf
 |.mv e x::as,u::us,.mv k e' t::fs,⟨_,_,⟨xs,h2,_⟩,h3⟩,f,hf=>by
  rcases je.1 hf with rfl|hf
  .exact⟨_,h2⟩
  .exact uM h3 f hf
 |.v _::as,_::us,fs,h,f,hf=>uM (as:=as) (us:=us) (fs:=fs) h f hf
 |.ip _::as,_::us,fs,h,f,hf=>uM (as:=as) (us:=us) (fs:=fs) h f hf
 |.clo _ _::as,_::us,fs,h,f,hf=>uM (as:=as) (us:=us) (fs:=fs) h f hf
theorem H9:∀{l:D H},rN l=Ä->l.Nodup
 |[],_=>vq
 |x::l,h=>by
  simp only[rN,jg,qn,qr,q7]at h;exact zh.2 ⟨h.1,H9 h.2⟩
theorem My(hR:Rel N np S0 w0 refs σ a w S γ):∀{l:D H},l.Nodup->(∀k∈l,∃b,σ.bx k = .live b)->(l.filterMap λk=>blk (γ k)).Nodup
 |[],_,_=>smp_
 |k::l,h,hl=>by
  obtain⟨h1,h2⟩:=zh.1 h;have ih:=My hR h2 (λk hk=>hl k (by simp[hk]));rw[vk];cases hb:blk (γ k) with
  |none=>exact ih
  |some g=>refine zh.2 ⟨λhm=>?_,ih⟩;obtain⟨k',bH,aL⟩:=vu.1 hm;obtain⟨b,dR⟩:=hl k smp_;obtain⟨b',fv⟩:=hl k' (by simp[bH]);exact hR.apart k k' b b' g (by rintro rfl;exact h1 bH) dR fv hb aL
end
section
variable{N:NT}{np:H}{S0:aY}{w0:Â}{refs:Refs}{σ:St}{a:Ù}{w:Â}{S:aY}{γ:H->F}
theorem DX:∀(u:Ups)(σ:St){k:H}{b:BS},(u.map (·.1)).Nodup->(k,b)∈u->(σ.upd u).bx k=b
 |[],_,_,_,_,h=>by simp at h
 |e::u,σ,k,b,hn,h=>by
  simp only[qf,zh]at hn;show ((σ.setB e.1 e.2).upd u).bx k=_;rcases je.1 h with h|h
  .subst h;rw[oJ u,hP];simp only[za,zr];intro x hx he;exact hn.1 (jz.2 ⟨x,hx,he⟩)
  .exact DX u _ hn.2 h
theorem jBN{e:H}{m n n':H}{v:F}{w':Â}{xs ys:D F}(h:w.ownsRow 0 e m v n xs)(h':w'.ownsRow 0 e m v n' ys):n=n':=by
 rcases h.2 with⟨e1,e2⟩|⟨g,cap,cur,e1,_⟩<;>rcases h'.2 with⟨f1,f2⟩|⟨g',hG,kR,f1,_⟩
 .rw[e2,f2]
 .rw[e1]at f1;simp at f1
 .rw[e1]at f1;simp at f1
 .rw[e1]at f1;simp at f1;exact f1.2.1
theorem Mz{bx:H->BS}{S':aY}{w':Â}{ys:D TV}{k:H}{v:F}(hg:γ k=v)(h:DW S' w' ys v):fK S' w' γ bx k (.cell (ys.map TV.leaf) O):=by
 obtain⟨g,cur,e,hu,hh,aA,hS⟩:=h;exact⟨g,cur,e,hg.trans hu,hh,by rw[ke];exact uF aA,λu eE=>by rw[ke]at eE;obtain⟨x,_,hx⟩:=aA.mem_right u eE;exact Rep.one _ _ _ hx u smp_,λ_=>hS,smp_⟩
theorem Cd{bx:H->BS}{S':aY}{w':Â}{e:H}{t:Ty}{ys:D t.den}{k:H}{v:F}(hg:γ k=v)(h:xH S' w' e ⟨.list t,ys⟩ v):fK S' w' γ bx k (.lst e t ys O):=by
 obtain⟨t',xs,hx,cV,hS⟩:=h;cases hx;exact⟨by rw[hg];exact cV,λg aL=>⟨λ_=>hS g (by rw[<-hg];exact aL),smp_⟩⟩
theorem vW{S':aY}{w':Â}(hR:Rel N np S0 w0 refs σ a w S γ):∀{as:D Arg}{zs:D F}{fs:D Bk}{os:D Out}{uo:Ups},gX σ.bx γ as zs fs->nn fs os=G uo->mY S' w' as zs os->
  uo.map (·.1)=fs.map Bk.name/\∀x∈uo,∃b,σ.bx x.1 = .live b/\(x.2 = .gone\/∃b',x.2 = .live b'/\lJ b b'/\∀bx',fK S' w' γ bx' x.1 b')
 |[],[],[],[],uo,_,h,_=>by simp[nn]at h;subst h;simp
 |.ref ls::as,u::us,.ref k::fs,.ref ys::os,uo,⟨h1,⟨gn,h2⟩,h3⟩,h,⟨q1,q2⟩=>by
  simp only[nn,HB]at h;split at h
  .rename_i u' eE;simp only[j5]at h;subst h;obtain⟨i1,i2⟩:=vW hR h3 eE q2;refine⟨by simp[i1,Bk.name],λx hx=>?_⟩;rcases je.1 hx with rfl|hx
   .exact⟨_,h2,.inr ⟨_,rfl,trivial,λbx'=>Mz h1.symm q1⟩⟩
   .exact i2 x hx
  .simp at h
 |.rl e x::as,u::us,.rl k e' t::fs,.rl y::os,uo,⟨h0,h1,⟨xs,h2,mo⟩,h3⟩,h,⟨q1,q1',q2⟩=>by
  simp only[nn,HB]at h;split at h
  .rename_i y' oe;split at oe
   .rename_i ys iy;simp only[j5]at oe;subst oe;split at h
    .rename_i u' eE;simp only[j5]at h;subst h;obtain⟨i1,i2⟩:=vW hR h3 eE q2;refine⟨by simp[i1,Bk.name],λx hx=>?_⟩;rcases je.1 hx with rfl|hx
     .have:=oG iy;subst this;subst h0;refine⟨_,h2,.inr ⟨_,rfl,⟨rfl,rfl,λhm=>?_⟩,λbx'=>Cd h1.symm q1⟩⟩;obtain⟨css,bd,_⟩:=jZ hm (hR.box k _ h2);obtain⟨mu,cV,_⟩:=jZ (bx:=σ.bx) hm (Cd h1.symm q1);exact jBN bd cV
     .exact i2 x hx
    .simp at h
   .simp at oe
  .simp at h
 |.mv e x::as,u::us,.mv k e' t::fs,os,uo,⟨h0,h1,⟨xs,h2,mo⟩,h3⟩,h,q=>by
  simp only[nn]at h;split at h
  .rename_i u' eE;simp only[j5]at h;subst h;obtain⟨i1,i2⟩:=vW hR h3 eE (by simpa only[mY]using q);refine⟨by simp[i1,Bk.name],λx hx=>?_⟩;rcases je.1 hx with rfl|hx
   .exact⟨_,h2,.inl rfl⟩
   .exact i2 x hx
  .simp at h
 |.v _::as,_::us,fs,os,uo,h,h',q=>vW (as:=as) (zs:=us) (fs:=fs) hR h h' q
 |.ip _::as,_::us,fs,os,uo,h,h',q=>vW (as:=as) (zs:=us) (fs:=fs) hR h h' q
 |.clo _ _::as,_::us,fs,os,uo,h,h',q=>vW (as:=as) (zs:=us) (fs:=fs) hR h h' q
theorem Vm(hR:Rel N np S0 w0 refs σ a w S γ){Vn:D H}{S':aY}{w':Â}(aQ:dK S w S' w')(dX:∀g o,S' g o->S g o\/w.heap.size<=g\/g∈Vn)(gD:∀g o,S' g o->g<w'.heap.size)
  {as:D Arg}{zs:D F}{fs:D Bk}{os:D Out}{uo:Ups}(DY:∀g∈Vn,g∈mvOf as zs)(mE:∀f∈fs,f.isMv=Ä->parK np f.name=O)(dO:gX σ.bx γ as zs fs)(ew:(fs.map Bk.name).Nodup)(ho:nn fs os=G uo)(hq:mY S' w' as zs os)
  (gM:∀g,g<w.heap.size->g∉eu as zs->w'.heap[g]? = w.heap[g]?)(fU:w.heap.size<=w'.heap.size)(rY:w'.os=w.os)(pR:w'.tape=w.tape)(dD:w'.output=w.output) :
  Rel N np S0 w0 refs (σ.upd uo) a w' S' γ:=by
 obtain⟨lR,Aj⟩:=vW hR dO ho hq;have uH:(uo.map (·.1)).Nodup:=by rw[lR];exact ew
 have dS:σ.upd uo={ σ with bx:=(σ.upd uo).bx }:=by have:=B6 uo σ;cases h:σ.upd uo;rw[h]at this;simp only at this;rw[this]
 have cS:∀k,(uo.any (λy=>y.1==k)=O/\(σ.upd uo).bx k=σ.bx k)\/(∃b,σ.bx k = .live b/\(σ.upd uo).bx k = .gone)\/(∃b b',σ.bx k = .live b/\(σ.upd uo).bx k = .live b'/\lJ b b'/\∀bx',fK S' w' γ bx' k b'):=by
  intro k;by_cases hk:uo.any (λy=>y.1==k)=Ä
  .right;obtain⟨x,hx,he⟩:=zv.1 hk;have he:x.1=k:=by simpa using he
   subst he;obtain⟨b,h1,h2|⟨b',h2,h3,h4⟩⟩:=Aj x hx
   .exact .inl ⟨b,h1,by rw[DX uo σ uH (b:=x.2) hx,h2]⟩
   .exact .inr ⟨b,b',h1,by rw[DX uo σ uH (b:=x.2) hx,h2],h3,h4⟩
  .left;have bH:uo.any (λy=>y.1==k)=false:=z8.2 hk;exact⟨bH,oJ uo σ bH⟩
 have iF:∀k b,(σ.upd uo).bx k = .live b->∃b',σ.bx k = .live b':=by
  intro k b hb;rcases cS k with⟨_,h⟩|⟨b1,h1,_⟩|⟨b1,b2,h1,_⟩
  .exact⟨b,h▸hb⟩
  .exact⟨b1,h1⟩
  .exact⟨b1,h1⟩
 have hle:BxLe γ σ.bx γ (σ.upd uo).bx:=by
  intro k hk;rcases cS k with⟨_,h⟩|⟨b1,h1,h2⟩|⟨b1,b2,h1,h2,h3,_⟩
  .rw[h];exact⟨hk,rfl,λb hb=>⟨b,hb,.refl b⟩⟩
  .rw[h2];exact⟨smp_,rfl,λb hb=>by simp at hb⟩
  .rw[h2];exact⟨smp_,rfl,λb hb=>by simp at hb;subst hb;exact⟨b1,h1,h3⟩⟩
 have hrefs:∀g,g∈eu as zs->∃f∈fs,blk (γ f.name)=G g/\∃b,σ.bx f.name = .live b:=by intro g hg;rw[xI dO]at hg;obtain⟨f,hf,qR⟩:=vu.1 hg;exact⟨f,hf,qR,uM dO f hf⟩
 rw[dS]
 refine Rel.step hR aQ hle ?_ ?_ ?_ ?_ gD ?_ (qi hR.grow fU) (rY.trans hR.os) (pR.trans hR.tape) (dD.trans hR.output) (λg hg _ h=>⟨gM g hg (λhm=>by
  obtain⟨f,hf,qR,b',aW⟩:=hrefs g hm;exact h f.name b' aW qR),λk b hb=>by
  obtain⟨b',aW⟩:=iF k b hb;exact h k b' aW⟩)
 .intro k b hb;rcases cS k with⟨hk,h⟩|⟨b1,h1,h2⟩|⟨b1,b2,h1,h2,h3,h4⟩
  case inr.inl=>rw[h2]at hb;simp at hb
  .rw[h]at hb;refine fK.keep aQ hle rfl (λg hg=>?_) (hR.box k b hb);have Aa:=oI (hR.box k b hb) hg;suffices df:g∉eu as zs from⟨gM g Aa df,λo=>⟨λhs=>(dX g o hs).resolve_right (λh=>h.elim (λh=>omg_) λh=>df (Vk (DY g h))),λhs=>(aQ g o hs).1⟩⟩
   intro hm;obtain⟨f,hf,qR,b',aW⟩:=hrefs g hm
   have bz:k≠f.name:=by
    rintro rfl
    have:f.name∈uo.map (·.1):=by rw[lR];exact ñ hf
    obtain⟨x,hx,he⟩:=jz.1 this;have:=(za.1 hk) x hx;simp[he]at this
   exact hR.apart k f.name b b' g bz hb aW hg qR
  .rw[h2]at hb;simp at hb;subst hb;exact h4 _
 .intro k b g hb hg;obtain⟨b',aW⟩:=iF k b hb;exact hR.own k b' g aW hg
 .intro k k' b1 b2 g bz h1 h2 hg;obtain⟨vF,nr⟩:=iF k b1 h1;obtain⟨vG,mo⟩:=iF k' b2 h2;exact hR.apart k k' vF vG g bz nr mo hg
 .intro g o hs;rcases dX g o hs with h|h|h
  .exact hR.new g o h
  .exact .inr (.inl (qi hR.grow h))
  .obtain⟨f,hf,Ia,qR⟩:=xJ dO (DY g h);obtain⟨b',aW⟩:=uM dO f hf;rcases hR.own f.name b' g aW qR with h|h
   .exact .inr h
   .rw[mE f hf Ia]at h;simp at h
 .intro g hg hr;rw[gM g (zk hg hR.grow) (λhm=>?_)]
  .exact hR.below g hg hr
  .obtain⟨f,hf,qR,b',aW⟩:=hrefs g hm;rcases hR.own f.name b' g aW qR with h|h
   .exact h.no omg_ hr
   .exact hr h.1
theorem Vo(hR:Rel N np S0 w0 refs σ a w S γ){d:H}(hd:σ.bx d = .free){v':F}{b:Bx}
  (hv:∀g,blk v'=G g->(Own w0 refs g/\refs.kw g=Y)/\∀k b,σ.bx k = .live b->blk (γ k)≠G g)(hb:fK S w (gset γ d v') (σ.setB d (.live b)).bx d b) :
  Rel N np S0 w0 refs (σ.setB d (.live b)) a w S (gset γ d v')/\BxLe γ σ.bx (gset γ d v') (σ.setB d (.live b)).bx:=by
 have hle:BxLe γ σ.bx (gset γ d v') (σ.setB d (.live b)).bx:=by
  intro k hk;have bz:k≠d:=by rintro rfl;exact hk hd
  rw[dn σ _ bz,ix γ v' bz];exact⟨hk,rfl,λb hb=>⟨b,hb,.refl b⟩⟩
 refine⟨Rel.step (bx':=(σ.setB d (.live b)).bx) hR (.refl S w) hle ?_ ?_ ?_ hR.new hR.here hR.below hR.grow hR.os hR.tape hR.output (λg _ Ca h=>⟨rfl,λk b' aW dO=>by
  by_cases hk:k=d
  .subst hk;rw[gK]at dO;exact Ca (hv g dO).1.2
  .rw[dn σ _ hk]at aW;rw[ix γ v' hk]at dO;exact h k b' aW dO⟩),hle⟩
 .intro k b' aW;by_cases hk:k=d
  .subst hk;rw[hP]at aW;simp at aW;subst aW;exact hb
  .rw[dn σ _ hk]at aW;exact fK.keep (.refl S w) hle (ix γ v' hk) (λg hg=>⟨rfl,λ_=>Iff.rfl⟩) (hR.box k b' aW)
 .intro k b' g aW hg;by_cases hk:k=d
  .subst hk;rw[gK]at hg;exact .inl (hv g hg).1.1
  .rw[dn σ _ hk]at aW;rw[ix γ v' hk]at hg;exact hR.own k b' g aW hg
 .intro k k' b1 b2 g bz h1 h2 hg aL;by_cases hk:k=d
  .subst hk;have bH:k'≠k:=λh=>bz h.symm;rw[gK]at hg;rw[dn σ _ bH]at h2;rw[ix γ v' bH]at aL;exact(hv g hg).2 k' b2 h2 aL
  .by_cases bH:k'=d
   .subst bH;rw[gK]at aL;rw[dn σ _ hk]at h1;rw[ix γ v' hk]at hg;exact(hv g aL).2 k b1 h1 hg
   .rw[dn σ _ hk]at h1;rw[dn σ _ bH]at h2;rw[ix γ v' hk]at hg;rw[ix γ v' bH]at aL;exact hR.apart k k' b1 b2 g bz h1 h2 hg aL
theorem Ce{bx:H->BS}{x:TV}{u:F}(h:VRep S w x u):cm S w γ bx (rK x.t x.v) u:=by
 obtain⟨t,v⟩:=x;obtain⟨h1,h2,h3⟩:=h;refine L6 t v _ u h1 (λhm=>?_) (λha hn=>?_)
 .have:kM t=true:=by
   rcases hm with hm|⟨n,b,rfl⟩
   .cases t<;>simp_all[kM,Ty.agg]
   .rfl
  obtain⟨cs,rfl⟩:=h2 this;simp[Value.cells]
 .have:kM t=false:=by cases t<;>simp_all[kM,Ty.agg]
  exact B8 (h3 this)
theorem Ib:∀{ls:D RL}{n:H}{l:D Leaf}{u:Ups},soL n ls=G (l,u)->∀x∈u,n<=x.1/\x.1<n+ls.length
 |[],n,l,u,h=>by simp[soL]at h;obtain⟨rfl,rfl⟩:=h;simp
 |.d x::r,n,l,u,h=>by
  simp only[soL]at h;split at h
  .rename_i l' u' h';simp only[j5,j9]at h;obtain⟨rfl,rfl⟩:=h;intro y hy;have:=Ib h' y hy;simp only[ji];omega
  .simp at h
 |.own e ⟨.list a,xs⟩::r,n,l,u,h=>by
  simp only[soL]at h;split at h
  .rename_i l' u' h';simp only[j5,j9]at h;obtain⟨rfl,rfl⟩:=h;intro y hy;rcases je.1 hy with rfl|hy
   .simp only[ji];omega
   .have:=Ib h' y hy;simp only[ji];omega
  .simp at h
 |.own e ⟨.int _,xs⟩::r,n,l,u,h=>by simp[soL]at h
 |.own e ⟨.bool,xs⟩::r,n,l,u,h=>by simp[soL]at h
 |.own e ⟨.str,xs⟩::r,n,l,u,h=>by simp[soL]at h
 |.own e ⟨.unit,xs⟩::r,n,l,u,h=>by simp[soL]at h
 |.own e ⟨.wrap _,xs⟩::r,n,l,u,h=>by simp[soL]at h
 |.own e ⟨.pair _ _,xs⟩::r,n,l,u,h=>by simp[soL]at h
 |.own e ⟨.arr _ _,xs⟩::r,n,l,u,h=>by simp[soL]at h
theorem Vp{n:H}{r:RV}{c:Cel}{u:Ups}(h:HC n r=G (c,u)):∀x∈u,n<=x.1/\x.1<n+rvW r:=by
 unfold HC at h;split at h
 .simp only[j5,j9]at h;obtain⟨rfl,rfl⟩:=h;simp
 .simp only[j5,j9]at h;obtain⟨rfl,rfl⟩:=h;simp[rvW]
 .simp at h
 .simp only[j5,j9]at h;obtain⟨rfl,rfl⟩:=h;simp[rvW]
 .simp at h
 .split at h<;>(simp only[j5,j9]at h;obtain⟨rfl,rfl⟩:=h;simp)
 .simp only[j5,j9]at h;obtain⟨rfl,rfl⟩:=h;simp
 .split at h
  .rename_i l u' h';simp only[j5,j9]at h;obtain⟨rfl,rfl⟩:=h;exact Ib h'
  .simp at h
theorem Vq:∀{n:H}{rs:D RV}{cs:D Cel}{u:Ups},xn n rs=G (cs,u)->∀x∈u,n<=x.1
 |n,[],cs,u,h=>by simp[xn]at h;obtain⟨rfl,rfl⟩:=h;simp
 |n,r::rs,cs,u,h=>by
  simp only[xn]at h;split at h
  .rename_i c u1 h1;split at h
   .rename_i MA u2 h2;simp only[j5,j9]at h;obtain⟨rfl,rfl⟩:=h;intro x hx;rcases jj.1 hx with hx|hx
    .exact(Vp h1 x hx).1
    .have:=Vq h2 x hx;omega
   .simp at h
  .simp at h
theorem Vr{bx:H->BS}{ns:D H}:∀(k:H){ls:D Leaf}{cs:D F},All2 (bZ S w γ bx) ls cs->(∀i∈ns,∀z,k<=i->cs[i-k]? = G z->z = .slice Y 0 0)->
  All2 (bZ S w γ bx) ((ls.zipIdx k).map λy=>if ns.contains y.2 then .nil else y.1) cs
 |_,[],[],_,_=>trivial
 |k,l::ls,c::cs,h,hn=>by
  refine⟨?_,Vr (k+1) h.2 λi hi z hk hz=>hn i hi z omg_ ?_⟩
  .by_cases hc:ns.contains k=Ä
   .simp only[hc,if_true];exact hn k (by simpa using hc) c (jn _) smp_
   .simp only[hc];exact h.1
  .rw[show i-k=(i-(k+1))+1 by omega];simpa using hz
 |_,[],_::_,h,_=>h.elim
 |_,_::_,[],h,_=>h.elim
theorem MB:∀{ls:D RL}{zs:D F}{n:H}{l:D Leaf}{u:Ups}{σ:St}{γ:H->F},Rel N np S0 w0 refs σ a w S γ->soL n ls=G (l,u)->All2 (H6 S w) ls zs->
  (∀x∈u,σ.bx x.1 = .free)->(pQ ls zs).Nodup->(∀g∈pQ ls zs,(Own w0 refs g/\refs.kw g=Y)/\∀k b,σ.bx k = .live b->blk (γ k)≠G g)->
  ∃γ',Rel N np S0 w0 refs (σ.upd u) a w S γ'/\BxLe γ σ.bx γ' (σ.upd u).bx/\All2 (bZ S w γ' (σ.upd u).bx) l zs/\(∀z∈zs,One z)/\
   ∀k b g,(σ.upd u).bx k = .live b->blk (γ' k)=G g->(∃b',σ.bx k = .live b'/\blk (γ k)=G g)\/g∈pQ ls zs
 |[],[],n,l,u,σ,γ,hR,h,_,_,_,_=>by
  simp[soL]at h;obtain⟨rfl,rfl⟩:=h;exact⟨γ,hR,.refl _ _,trivial,smp_,λk b g h1 h2=> .inl ⟨b,h1,h2⟩⟩
 |.d x::ls,z::zs,n,l,u,σ,γ,hR,h,ha,bC,ew,hblk=>by
  simp only[soL]at h;split at h
  .rename_i l' u' h';simp only[j5,j9]at h;obtain⟨rfl,rfl⟩:=h;obtain⟨γ',q1,q2,q3,q4,q5⟩:=MB hR h' ha.2 bC ew hblk;exact⟨γ',q1,q2,⟨ha.1.2,q3⟩,λy hy=>(je.1 hy).elim (λe=>e▸ha.1.1) (q4 y),q5⟩
  .simp at h
 |.own e ⟨.list t,xs⟩::ls,z::zs,n,l,u,σ,γ,hR,h,ha,bC,ew,hblk=>by
  simp only[soL]at h;split at h
  .rename_i l' u' h';simp only[j5,j9]at h;obtain⟨rfl,rfl⟩:=h;have bd:xH S w e ⟨.list t,xs⟩ z:=ha.1;have dm:One z:=by obtain⟨t',ys,_,cV,_⟩:=bd;exact cV.one
   have sY:σ.bx n = .free:=bC _ (zd ..);simp only[pQ]at ew hblk;obtain⟨bV,hle⟩:=Vo hR sY (v':=z) (b:= .lst e t xs O) (λg hg=>hblk g (by simp[hg])) (Cd (gK _ _ _) bd);have lT:=Ib h'
   obtain⟨γ',q1,q2,q3,q4,q5⟩:=MB bV h' ha.2 (λx hx=>by
    have:=lT x hx;rw[dn σ _ omg_];exact bC x (by simp[hx])) (zg.1 ew).2.1 (λg hg=>by
    obtain⟨p1,p2⟩:=hblk g (by simp[hg]);refine⟨p1,λk b' aW he=>?_⟩;by_cases hk:k=n
    .subst hk;rw[gK]at he;exact(zg.1 ew).2.2 g (by simp[he]) g hg rfl
    .rw[dn σ _ hk]at aW;rw[ix γ z hk]at he;exact p2 k b' aW he)
   refine⟨γ',q1,λk hk=>?_,⟨bZ.keep (.refl S w) q2 ⟨by rw[hP];simp,dm,λb _=>(gK γ n z).symm⟩,q3⟩,λy hy=>(je.1 hy).elim (λe=>e▸dm) (q4 y),λk b g h1 h2=>?_⟩
   .obtain⟨a1,a2,a3⟩:=hle k hk;obtain⟨b1,b2,b3⟩:=q2 k a1;refine⟨b1,b2.trans a2,λb hb=>?_⟩;obtain⟨b',aW,cW⟩:=b3 b hb;obtain⟨DV,sW,sX⟩:=a3 b' aW;exact⟨DV,sW,sX.trans cW⟩
   .rcases q5 k b g h1 h2 with⟨b',aW,he⟩|h3
    .by_cases hk:k=n
     .subst hk;rw[gK]at he;exact .inr (by simp[pQ,he])
     .rw[dn σ _ hk]at aW;rw[ix γ z hk]at he;exact .inl ⟨b',aW,he⟩
    .exact .inr (by simp[pQ,h3])
  .simp at h
 |.own e ⟨.int _,xs⟩::r,_,n,l,u,_,_,_,h,_,_,_,_=>by simp[soL]at h
 |.own e ⟨.bool,xs⟩::r,_,n,l,u,_,_,_,h,_,_,_,_=>by simp[soL]at h
 |.own e ⟨.str,xs⟩::r,_,n,l,u,_,_,_,h,_,_,_,_=>by simp[soL]at h
 |.own e ⟨.unit,xs⟩::r,_,n,l,u,_,_,_,h,_,_,_,_=>by simp[soL]at h
 |.own e ⟨.wrap _,xs⟩::r,_,n,l,u,_,_,_,h,_,_,_,_=>by simp[soL]at h
 |.own e ⟨.pair _ _,xs⟩::r,_,n,l,u,_,_,_,h,_,_,_,_=>by simp[soL]at h
 |.own e ⟨.arr _ _,xs⟩::r,_,n,l,u,_,_,_,h,_,_,_,_=>by simp[soL]at h
 |[],_::_,_,_,_,_,_,_,_,ha,_,_,_=>ha.elim
 |.d _::_,[],_,_,_,_,_,_,_,ha,_,_,_=>ha.elim
 |.own _ ⟨.list _,_⟩::_,[],_,_,_,_,_,_,_,ha,_,_,_=>ha.elim
theorem Vs:∀{rs:D RV}{vs:D F}{n:H}{cs:D Cel}{un:Ups}{σ:St}{γ:H->F},Rel N np S0 w0 refs σ a w S γ->xn n rs=G (cs,un)->All2 (rX S w) rs vs->
  (∀x∈un,σ.bx x.1 = .free)->(gL rs vs).Nodup->(∀g∈gL rs vs,(Own w0 refs g/\refs.kw g=Y)/\∀k b,σ.bx k = .live b->blk (γ k)≠G g)->
  ∃γ',Rel N np S0 w0 refs (σ.upd un) a w S γ'/\BxLe γ σ.bx γ' (σ.upd un).bx/\All2 (cm S w γ' (σ.upd un).bx) cs vs
 |[],[],n,cs,un,σ,γ,hR,h,_,_,_,_=>by
  simp[xn]at h;obtain⟨rfl,rfl⟩:=h;exact⟨γ,hR,.refl _ _,trivial⟩
 |r::rs,u::us,n,cs,un,σ,γ,hR,h,ha,bC,ew,hblk=>by
  simp only[xn]at h;split at h
  .rename_i c u1 h1;split at h
   .rename_i MA u2 h2;simp only[j5,j9]at h;obtain⟨rfl,rfl⟩:=h
    have sZ:∀(σ1:St)(γ1:H->F),Rel N np S0 w0 refs σ1 a w S γ1->σ1=σ.upd u1->BxLe γ σ.bx γ1 σ1.bx->cm S w γ1 σ1.bx c u->(∀x∈u2,σ1.bx x.1 = .free)->
      (gL rs us).Nodup->(∀g∈gL rs us,(Own w0 refs g/\refs.kw g=Y)/\∀k b,σ1.bx k = .live b->blk (γ1 k)≠G g)->
      ∃γ',Rel N np S0 w0 refs (σ.upd (u1++u2)) a w S γ'/\BxLe γ σ.bx γ' (σ.upd (u1++u2)).bx/\All2 (cm S w γ' (σ.upd (u1++u2)).bx) (c::MA) (u::us):=by
     intro σ1 γ1 bV he hle hc hf hn hb;obtain⟨γ',q1,q2,q3⟩:=Vs (σ:=σ1) (γ:=γ1) bV h2 ha.2 hf hn hb;subst he;rw[nt];refine⟨γ',q1,?_,cm.keep (.refl S w) q2 hc,q3⟩;intro k hk;obtain⟨a1,a2,a3⟩:=hle k hk;obtain⟨b1,b2,b3⟩:=q2 k a1;refine⟨b1,b2.trans a2,λb hb=>?_⟩;obtain⟨b',aW,cW⟩:=b3 b hb;obtain⟨DV,sW,sX⟩:=a3 b' aW;refine⟨DV,sW,?_⟩;exact sX.trans cW
    have lT:=Vp h1;have oV:=Vq h2
    have dX:∀(v':F)(b:Bx),nw r u=(blk v').toList->rvW r=1->u1=[(n,.live b)]->(∀bx',fK S w (gset γ n v') bx' n b)->(∀bx',(bx' n = .live b)->cm S w (gset γ n v') bx' c u)->
      ∃γ',Rel N np S0 w0 refs (σ.upd (u1++u2)) a w S γ'/\BxLe γ σ.bx γ' (σ.upd (u1++u2)).bx/\All2 (cm S w γ' (σ.upd (u1++u2)).bx) (c::MA) (u::us):=by
     intro v' b h9 MC Vt cL Ak;subst Vt;rw[MC]at oV;have sY:σ.bx n = .free:=bC (n,.live b) smp_;simp only[gL,h9]at ew hblk;obtain⟨bV,hle⟩:=Vo hR sY (v':=v') (b:=b) (λg hg=>hblk g (by simp[hg])) (cL _);refine sZ _ _ bV rfl hle (Ak _ (hP _ _ _)) (λx hx=>?_) ?_ (λg hg=>?_)
     .have:=oV x hx;rw[dn σ _ omg_];exact bC x (by simp[hx])
     .exact(zg.1 ew).2.1
     .obtain⟨p1,p2⟩:=hblk g (by simp[hg]);refine⟨p1,λk b' aW he=>?_⟩;by_cases hk:k=n
      .subst hk;rw[gK]at he;have:=(zg.1 ew).2.2 g (by simp[he]) g hg;exact this rfl
      .rw[dn σ _ hk]at aW;rw[ix γ v' hk]at he;exact p2 k b' aW he
    unfold HC at h1;split at h1
    .rename_i x;simp only[j5,j9]at h1;obtain⟨rfl,rfl⟩:=h1;refine sZ σ γ hR rfl (.refl _ _) (Ce ha.1) (λx hx=>bC x (by simp[hx])) ?_ ?_
     .simpa[gL,pP,nw]using ew
     .simpa[gL,pP,nw]using hblk
    .rename_i e el xs;simp only[j5,j9]at h1;obtain⟨rfl,rfl⟩:=h1;have bd:xH S w e ⟨.list el,xs⟩ u:=ha.1;have dm:One u:=by obtain⟨t',ys,_,cV,_⟩:=bd;exact cV.one
     exact dX u _ rfl rfl rfl (λbx'=>Cd (gK _ _ _) bd) (λbx' hb=>⟨⟨by rw[hb];simp,dm,λb _=>(gK γ n u).symm⟩,λ_=>dm⟩)
    .simp at h1
    .rename_i ls;simp only[j5,j9]at h1;obtain⟨rfl,rfl⟩:=h1;have DZ:DW S w ls u:=ha.1;obtain⟨g,cur,e,hu,_⟩:=id DZ;have dm:One u:=by rw[hu];rfl
     exact dX u _ rfl rfl rfl (λbx'=>Mz (gK _ _ _) DZ) (λbx' hb=>⟨⟨by rw[hb];simp,dm,λb _=>⟨g,by rw[gK,hu],hu⟩⟩,λ_=>dm⟩)
    .simp at h1
    .rename_i x ns;have hv:VRep S w x u/\∀cs,u = .agg cs->∀i∈ns,∀z,cs.toList[i]? = G z->z = .slice Y 0 0:=ha.1;have Al:cm S w γ σ.bx (rK x.t x.v) u:=Ce hv.1
     have hc:cm S w γ σ.bx c u/\u1=[]:=by
      split at h1
      .rename_i ls he;simp only[j5,j9]at h1;obtain⟨rfl,rfl⟩:=h1;rw[he]at Al;obtain⟨cs,hu,aA,dm⟩:=Al;exact⟨⟨cs,hu,Vr 0 aA λi hi z _ hz=>hv.2 cs hu i hi z (by simpa using hz),dm⟩,rfl⟩
      .simp only[j5,j9]at h1;obtain⟨rfl,rfl⟩:=h1;exact⟨Al,rfl⟩
     obtain⟨hc,rfl⟩:=hc;refine sZ σ γ hR rfl (.refl _ _) hc (λx hx=>bC x (by simp[hx])) ?_ ?_
     .simpa[gL,pP,nw]using ew
     .simpa[gL,pP,nw]using hblk
    .rename_i f bN;simp only[j5,j9]at h1;obtain⟨rfl,rfl⟩:=h1;obtain⟨cv,hu,aA⟩:∃cv:É F,u = .func (.func f) #[] cv/\All2 (kL S w) bN cv.toList:=ha.1;refine sZ σ γ hR rfl (.refl _ _) ⟨⟨cv,hu,aA⟩,λ_=>by rw[hu];rfl⟩ (λx hx=>bC x (by simp[hx])) ?_ ?_
     .simpa[gL,pP,nw]using ew
     .simpa[gL,pP,nw]using hblk
    .rename_i ls;split at h1
     .rename_i l gC hl;simp only[j5,j9]at h1;obtain⟨rfl,rfl⟩:=h1;obtain⟨vX,hu,aA⟩:∃cs:É F,u = .agg cs/\All2 (H6 S w) ls cs.toList:=ha.1;subst hu;have rZ:nw (.so ls) (.agg vX)=pQ ls vX.toList:=rfl;simp only[gL,rZ]at ew hblk;obtain⟨γ1,q1,q2,q3,q4,q5⟩:=MB hR hl aA (λx hx=>bC x (by simp[hx])) (zg.1 ew).1 (λg hg=>hblk g (by simp[hg]));refine sZ _ γ1 q1 rfl q2 ⟨vX,rfl,q3,q4⟩ (λx hx=>?_) (zg.1 ew).2.1 (λg hg=>?_)
      .have h2:=oV x hx;rw[oJ gC σ]
       .exact bC x (by simp[hx])
       .rw[za];intro y hy he;simp only[zr]at he;have:=lT y hy;omega
      .obtain⟨p1,p2⟩:=hblk g (by simp[hg]);refine⟨p1,λk b' aW he=>?_⟩;rcases q5 k b' g aW he with⟨b2,fv,he2⟩|h3
       .exact p2 k b2 fv he2
       .exact(zg.1 ew).2.2 g h3 g hg rfl
     .simp at h1
   .simp at h
  .simp at h
 |[],_::_,_,_,_,_,_,_,_,ha,_,_,_=>ha.elim
 |_::_,[],_,_,_,_,_,_,_,ha,_,_,_=>ha.elim
end
section
variable{N:NT}{np:H}{S0:aY}{w0:Â}{refs:Refs}{σ:St}{a:Ù}{w:Â}{S:aY}{γ:H->F}
theorem MD{S':aY}{w':Â}:∀(cs:D Cap)(cv:D F)(os:D Out),mY S' w' (cs.map qI) cv os->os=[]
 |[],[],[],_=>rfl
 |[],[],_::_,h=>h.elim
 |[],_::_,_,h=>h.elim
 |c::cs,[],_,h=>by cases c<;>exact h.elim
 |.v _::cs,_::cv,os,h=>MD cs cv os h
 |.p _::cs,_::cv,os,h=>MD cs cv os h
theorem Am{S':aY}{w':Â}{cs:D Cap}{cv:D F}:∀{as:D Arg}{zs:D F}{os:D Out},as.length=zs.length->
  mY S' w' (as++cs.map qI) (zs++cv) os->mY S' w' as zs os
 |[],[],os,_,h=>by
  have:=MD cs cv os h;subst this;trivial
 |.ref ls::as,u::us,.ref ys::os,hl,⟨h1,h2⟩=>⟨h1,Am (by simpa using hl) h2⟩
 |.rl e x::as,u::us,.rl y::os,hl,⟨h1,h2,h3⟩=>⟨h1,h2,Am (by simpa using hl) h3⟩
 |.v _::as,_::us,os,hl,h=>Am (as:=as) (zs:=us) (by simpa using hl) h
 |.ip _::as,_::us,os,hl,h=>Am (as:=as) (zs:=us) (by simpa using hl) h
 |.clo _ _::as,_::us,os,hl,h=>Am (as:=as) (zs:=us) (by simpa using hl) h
 |.mv _ _::as,_::us,os,hl,h=>Am (as:=as) (zs:=us) (by simpa using hl) h
 |[],_::_,_,hl,_=>by simp at hl
 |_::_,[],_,hl,_=>by simp at hl
 |.ref _::_,_::_,[],_,h=>h.elim
 |.ref _::_,_::_,.rl _::_,_,h=>h.elim
 |.rl _ _::_,_::_,[],_,h=>h.elim
 |.rl _ _::_,_::_,.ref _::_,_,h=>h.elim
theorem gX.congr{bx bx':H->BS}:∀{as:D Arg}{us:D F}{fs:D Bk},(∀f∈fs,bx' f.name=bx f.name)->gX bx γ as us fs->gX bx' γ as us fs
 |[],[],[],_,_=>trivial
 |.ref ls::as,u::us,.ref k::fs,hc,⟨h1,⟨gn,h2⟩,h3⟩=>
  ⟨h1,⟨gn,(hc (.ref k) smp_).trans h2⟩,gX.congr (λf hf=>hc f (by simp[hf])) h3⟩
 |.rl e x::as,u::us,.rl k e' t::fs,hc,⟨h0,h1,⟨xs,h2,hx⟩,h3⟩=>
  ⟨h0,h1,⟨xs,(hc (.rl k e' t) smp_).trans h2,hx⟩,gX.congr (λf hf=>hc f (by simp[hf])) h3⟩
 |.mv e x::as,u::us,.mv k e' t::fs,hc,⟨h0,h1,⟨xs,h2,hx⟩,h3⟩=>
  ⟨h0,h1,⟨xs,(hc (.mv k e' t) smp_).trans h2,hx⟩,gX.congr (λf hf=>hc f (by simp[hf])) h3⟩
 |.v _::as,_::us,fs,hc,h=>gX.congr (as:=as) (us:=us) hc h
 |.ip _::as,_::us,fs,hc,h=>gX.congr (as:=as) (us:=us) hc h
 |.clo _ _::as,_::us,fs,hc,h=>gX.congr (as:=as) (us:=us) hc h
theorem Cf{S1 S':aY}{w':Â}(ie:∀g o,S g o->S' g o):∀{as:D Arg}{zs:D F}{os:D Out},os.all Out.flat=Ä->mY S' w' as zs os->mY S w' as zs os
 |[],[],[],_,_=>trivial
 |.ref ls::as,u::us,.ref ys::os,hf,⟨⟨g,cur,e,h1,h2,h3,h4⟩,h5⟩=>by
  simp only[æ,jg,Out.flat]at hf;refine⟨⟨g,cur,e,h1,h2,?_,λo hs=>h4 o (ie g o hs)⟩,Cf (S1:=S1) ie hf.2 h5⟩;have hl:=hf.1;clear h1 h2 hf h4 h5;generalize cur.toList.take ys.length=l at h3;induction ys generalizing l with
  |nil=>cases l with|nil=>trivial|cons _ _=>exact h3.elim
  |cons y ys ih=>
   cases l with
   |nil=>exact h3.elim
   |cons z l=>simp only[æ,jg]at hl;exact⟨vV _ _ _ hl.1 h3.1,ih hl.2 l h3.2⟩
 |.rl e x::as,u::us,.rl y::os,hf,⟨⟨t,xs,h1,_⟩,_,_⟩=>by
  simp only[æ,jg,Out.flat,h1,Ty.flat]at hf;exact absurd hf.1 smp_
 |.v _::as,_::us,os,hf,h=>Cf (S1:=S1) (as:=as) (zs:=us) ie hf h
 |.ip _::as,_::us,os,hf,h=>Cf (S1:=S1) (as:=as) (zs:=us) ie hf h
 |.clo _ _::as,_::us,os,hf,h=>Cf (S1:=S1) (as:=as) (zs:=us) ie hf h
 |.mv _ _::as,_::us,os,hf,h=>Cf (S1:=S1) (as:=as) (zs:=us) ie hf h
theorem jBO{S S':aY}{w:Â}{e:H}{a:Ty}{xs:D a.den}{u:F}(hf:a.flat=Ä)(h:sF S' w e a xs u):sF S w e a xs u:=by
 rcases h with⟨hm,css,h1,h2⟩|⟨hm,h1⟩
 .exact .inl ⟨hm,css,h1,h2.mono λx c hx=>vV _ _ _ hf hx⟩
 .refine .inr ⟨hm,?_⟩;revert hf h1;cases a with
  |pair k b=>intro hf h1;simp only[Ty.flat,jg]at hf;obtain⟨g,es,clock,hu,hh,ha,hq⟩:=h1;exact⟨g,es,clock,hu,hh,ha.mono λx e hx=>⟨vV _ _ _ hf.1 hx.1,vV _ _ _ hf.2 hx.2.1,hx.2.2⟩,hq⟩
  |_=>intro _ h1;exact h1.elim
theorem Vu{S':aY}{w':Â}(ie:∀g o,S g o->S' g o):∀{rs:D RV}{vs:D F},rs.all RV.flat=Ä->All2 (rX S' w') rs vs->All2 (rX S w') rs vs
 |[],[],_,_=>trivial
 |r::rs,v::vs,hf,h=>by
  simp only[æ,jg]at hf;have i1:=Vu ie hf.2 h.2;cases r with
  |v x=>obtain⟨h1,h2,h3⟩:=h.1;exact⟨⟨vV _ _ _ hf.1 h1,h2,h3⟩,i1⟩
  |own e x=>obtain⟨a,xs,rfl,h1,h2⟩:=h.1;exact⟨⟨a,xs,rfl,jBO hf.1 h1,λg hg o hs=>h2 g hg o (ie g o hs)⟩,i1⟩
  |so ls=>simp[RV.flat]at hf
  |box ls=>simp[RV.flat]at hf
  |hd n=>simp[RV.flat]at hf
  |vn x ns=>simp[RV.flat]at hf
  |clo f cs=>simp[RV.flat]at hf
 |[],_::_,_,h=>h.elim
 |_::_,[],_,h=>h.elim
theorem jBP{rd:H->BS}(bj:RdOk σ rd){un:Ups}(h:un.all (λe=>nk (rd e.1))=Ä):∀x∈un,σ.bx x.1 = .free:=
 λx hx=>bj.free (kj.1 h x hx)
theorem All2.len{α β:Type}{R:α->β->Prop}{as:D α}{bs:D β}(h:All2 R as bs):as.length=bs.length:=h.length
theorem jEo{γ':H->F}{bx:H->BS}{S':aY}{w':Â}{tmv:H->F}{cs:D Cel}{vs:D F}(h:All2 (cm S' w' γ' bx) cs vs) :
  iZ S' w' γ' bx tmv (Um cs) (uL vs):=by
 match cs,vs,h with
 |[c],[v],h=>exact h.1
 |[],[],h=>exact⟨#[],rfl,trivial⟩
 |c::c'::cs,v::v'::vs,h=>exact⟨(v::v'::vs).toArray,rfl,by simpa using h⟩
 |[c],v::v'::vs,h=>exact h.2.elim
 |c::c'::cs,[v],h=>exact h.2.elim
 |[],v::vs,h=>exact h.elim
 |c::cs,[],h=>exact h.elim
theorem Ic{bx:H->BS}{k e:H}{t:Ty}:∀{as:D Arg}{us:D F}{fs:D Bk},gX bx γ as us (.rl k e t::fs)->∀(bs:D Arg)(vs:D F),H7 (as++bs) (us++vs)=G (γ k)
 |.rl e x::as,u::us,fs,⟨_,h1,_,_⟩,bs,vs=>by rw[<-h1];rfl
 |.v _::as,_::us,fs,h,bs,vs=>Ic (as:=as) (us:=us) (fs:=fs) h bs vs
 |.ip _::as,_::us,fs,h,bs,vs=>Ic (as:=as) (us:=us) (fs:=fs) h bs vs
 |.clo _ _::as,_::us,fs,h,bs,vs=>Ic (as:=as) (us:=us) (fs:=fs) h bs vs
 |[],[],fs,h,_,_=>h.elim
 |.ref _::as,_::us,fs,h,_,_=>h.elim
 |.mv _ _::as,_::us,fs,h,_,_=>h.elim
 |[],_::_,fs,h,_,_=>h.elim
 |_::_,[],fs,h,_,_=>by cases ‹Arg› <;> exact h.elim
theorem Vv:∀(as:D Arg)(us:D F)(bs:D Arg)(vs:D F),as.length=us.length->mvOf (as++bs) (us++vs)=mvOf as us++mvOf bs vs
 |[],[],bs,vs,_=>rfl
 |a::as,u::us,bs,vs,h=>by
  have ih:=Vv as us bs vs (by simpa using h);cases a<;>simp[mvOf,ih]
 |[],_::_,_,_,h=>by simp at h
 |_::_,[],_,_,h=>by simp at h
theorem Vw:∀(cs:D Cap)(zs:D F),mvOf (cs.map qI) zs=[]
 |[],_=>by cases ‹D F› <;> rfl
 |c::cs,[]=>by cases c<;>rfl
 |c::cs,z::zs=>by cases c<;>simp[mvOf,qI,Vw cs zs]
theorem Ie:∀{fs:D Bk}{os:D Out}{uo:Ups}{f:Bk},nn fs os=G uo->f∈fs->f.isMv=Ä->(f.name,BS.gone)∈uo
 |[],os,uo,f,_,hf,_=>by simp at hf
 |.mv k e a::fs,os,uo,f,h,hf,hm=>by
  simp only[nn]at h;split at h
  .rename_i u' eE;simp only[j5]at h;subst h;rcases je.1 hf with rfl|hf
   .exact zd
   .exact qx _ (Ie eE hf hm)
  .simp at h
 |.ref k::fs,[],uo,f,h,hf,hm=>by simp[nn]at h
 |.rl k e a::fs,[],uo,f,h,hf,hm=>by simp[nn]at h
 |.ref k::fs,o::os,uo,f,h,hf,hm=>by
  simp only[nn]at h;split at h
  .split at h
   .rename_i u' eE;simp only[j5]at h;subst h;rcases je.1 hf with rfl|hf
    .simp[Bk.isMv]at hm
    .exact qx _ (Ie eE hf hm)
   .simp at h
  .simp at h
 |.rl k e a::fs,o::os,uo,f,h,hf,hm=>by
  simp only[nn]at h;split at h
  .split at h
   .rename_i u' eE;simp only[j5]at h;subst h;rcases je.1 hf with rfl|hf
    .simp[Bk.isMv]at hm
    .exact qx _ (Ie eE hf hm)
   .simp at h
  .simp at h
theorem jxq{P:À}(hR:Rel N np S0 w0 refs σ a w S γ){rw rd rdf:H->BS}(pS:RdR σ rw)(bj:RdOk σ rd)(bK:RdF np σ rdf){T:H->Á TyI}{ts:D H}{ms:D Ú}{cs:D Cel}{as:D Arg}{us:Ups}{fs:D Bk}{zs:D F}
  {mv:Ú}(h:rM rw rdf T mv ts ms cs=G (as,us,fs))(ha:All2 (cm S w γ σ.bx) cs zs)(bX:bkOk us fs=Ä)
  {bN:D Cap}{cv:D F}(xK:All2 (kL S w) bN cv){g:H}{K:Ret->Prop}
  (gE:H8 P g (as++bN.map qI) K)(n:H) :
  Calls P g (zs++cv).toArray w λe w'=>∃ret,K ret/\∀s u,zL rd rdf n us fs ret=G (s,u)->∃v S' γ',e = .returned v/\Rel N np S0 w0 refs (σ.upd u) a w' S' γ'/\iZ S' w' γ' (σ.upd u).bx (tm a) s v:=by
 obtain⟨fh,dO,sL⟩:=Vf hR pS bK h ha;simp only[bkOk,jg]at bX;obtain⟨ew,An⟩:=bX;have ew:=H9 ew
 have hlen:as.length=zs.length:=by
  have:∀{as:D Arg}{us:D F}{fs:D Bk},gX σ.bx γ as us fs->as.length=us.length:=by
   intro as;induction as with
   |nil=>intro us fs hh;cases us with|nil=>rfl|cons _ _=>exact hh.elim
   |cons a as ih=>
    intro us fs hh;cases us with
    |nil=>cases a<;>exact hh.elim
    |cons u us=>
     cases a with
     |v x=>have:=ih (us:=us) (fs:=fs) hh;simp[this]
     |ip x=>have:=ih (us:=us) (fs:=fs) hh;simp[this]
     |clo x y=>have:=ih (us:=us) (fs:=fs) hh;simp[this]
     |ref ls=>match fs,hh with|.ref k::fs,⟨_,_,h3⟩=>have:=ih h3;simp[this]
     |rl e x=>match fs,hh with|.rl k e' t::fs,⟨_,_,_,h3⟩=>have:=ih h3;simp[this]
     |mv e x=>match fs,hh with|.mv k e' t::fs,⟨_,_,_,h3⟩=>have:=ih h3;simp[this]
  exact this dO
 obtain⟨S1,bV,dh,jK,dG⟩:=qN us σ S hR fh;have D0:∀k,k∈fs.map Bk.name->us.any (λy=>y.1==k)=false:=by intro k hk;rw[za];intro x hx he;have:=kj.1 An x hx;simp only[zr]at he;subst he;simp only[qn,qr,q7]at this;exact this hk
 have s7:∀f∈fs,(σ.upd us).bx f.name=σ.bx f.name:=λf hf=>oJ us σ (D0 _ (ñ hf));have Ao:=dO.congr s7
 have qS:∀k b,fs.any (λy=>y.name==k)=Ä->σ.bx k = .live b->∀g,blk (γ k)=G g->∀o,¬S1 g o:=by
  intro k b hk hb g hg o;obtain⟨f,hf,he⟩:=zv.1 hk;have he:f.name=k:=by simpa using he
  subst he;have dR:(σ.upd us).bx f.name = .live b:=(s7 f hf).trans hb;have cL:=bV.box f.name b dR
  have ny:(∃gn,b = .cell gn O)\/(∃e t xs,b = .lst e t xs O):=by
   have:∀{as:D Arg}{us:D F}{fs:D Bk},gX σ.bx γ as us fs->f∈fs->(∃gn,σ.bx f.name = .live (.cell gn O))\/(∃e t xs,σ.bx f.name = .live (.lst e t xs O)):=by
    intro as;induction as with
    |nil=>intro us fs hh hm;match us,fs,hh with|[],[],_=>simp at hm
    |cons a as ih=>
     intro us fs hh hm;cases us with
     |nil=>cases a<;>exact hh.elim
     |cons u us=>
      cases a with
      |v x=>exact ih (us:=us) (fs:=fs) hh hm
      |ip x=>exact ih (us:=us) (fs:=fs) hh hm
      |clo x y=>exact ih (us:=us) (fs:=fs) hh hm
      |ref ls=>
       match fs,hh with
       |.ref k::fs,⟨_,⟨gn,h2⟩,h3⟩=>
        rcases je.1 hm with rfl|hm
        .exact .inl ⟨gn,h2⟩
        .exact ih h3 hm
      |rl e x=>
       match fs,hh with
       |.rl k e' t::fs,⟨_,_,⟨xs,h2,_⟩,h3⟩=>
        rcases je.1 hm with rfl|hm
        .exact .inr ⟨_,t,xs,h2⟩
        .exact ih h3 hm
      |mv e x=>
       match fs,hh with
       |.mv k e' t::fs,⟨_,_,⟨xs,h2,_⟩,h3⟩=>
        rcases je.1 hm with rfl|hm
        .exact .inr ⟨_,t,xs,h2⟩
        .exact ih h3 hm
   rcases this dO hf with⟨gn,h2⟩|⟨e,t,xs,h2⟩
   .rw[hb]at h2;simp at h2;exact .inl ⟨gn,h2⟩
   .rw[hb]at h2;simp at h2;exact .inr ⟨e,t,xs,h2⟩
  rcases ny with⟨gn,rfl⟩|⟨e,t,xs,rfl⟩
  .obtain⟨g',cur,e,aL,_,_,_,hS,_⟩:=cL;rw[aL]at hg;simp[blk]at hg;subst hg;exact hS rfl o
  .exact(cL.2 g hg).1 rfl o
 have fo:All2 (pO S1 w) as zs:=sL S1 dh jK qS;have D1:All2 (pO S1 w) (bN.map qI) cv:=Vh (xK.mono (λx z hx=>kL.keep dh hx));have hrefs:eu (as++bN.map qI) (zs++cv)=eu as zs:=by rw[Vj _ _ _ _ hlen,Vi,kc]
 have vY:(eu as zs).Nodup:=by rw[xI dO];have:=My hR ew (λk hk=>by obtain⟨f,hf,rfl⟩:=jz.1 hk;exact uM dO f hf);rwa[List.filterMap_map]at this
 refine(gE w S1 (zs++cv) (fo.append D1) (by rw[hrefs];exact vY) bV.here).mono ?_
 rintro e w' ⟨ret,hK,v,S',vs,rfl,cX⟩
 refine⟨ret,hK,λs u cP=>?_⟩;obtain⟨fq,bR,s9,oW,fV,mF,dX,gD,gM,fU,rY,pR,dD,ta⟩:=cX;rw[hrefs]at gM;have ME:mvOf (as++bN.map qI) (zs++cv)=mvOf as zs:=by rw[Vv _ _ _ _ hlen,Vw,kc]
 rw[ME]at s9 dX;have mE:∀f∈fs,f.isMv=Ä->parK np f.name=false:=Vl bK h;have fV:=Am hlen fV;refine⟨v,?_⟩;unfold zL at cP;split at cP
 ·-- the list MF first,cut short
  rename_i m hvm;unfold mkHd at cP;generalize iz:ret.outs=ro at cP fV;split at cP
  .rename_i k e el Vg y oq _;split at cP
   .rename_i uo ys tc iy;split at cP
    .rename_i eN;simp only[jg]at eN;simp only[j5,j9]at cP;obtain⟨rfl,rfl⟩:=cP;have dA:=Vm bV mF dX gD (λ_ h=>h) mE Ao ew tc fV gM fU rY pR dD;obtain⟨lR,pT⟩:=vW bV Ao tc fV;have uH:(uo.map (·.1)).Nodup:=by rw[lR];exact ew
     have MG:(k,BS.live (.lst e el ys O))∈uo:=by
      simp only[nn,HB,iy]at tc;split at tc
      .simp only[j5]at tc;rw[<-tc];exact zd
      .simp at tc
     have gy:=DX uo (σ.upd us) uH MG;obtain⟨bl,rZ⟩:=DA eN.2;have pK:=bK.par rZ;have h0:=bj.free eN.1;have h1:(σ.upd us).bx n = .free:=dG.free h0;have oX:((σ.upd us).upd uo).bx n = .free:=by rw[oJ uo,h1];rw[za];intro y hy he;simp only[zr]at he;obtain⟨b0,h2,_⟩:=pT y hy;rw[he,h1]at h2;simp at h2
     obtain⟨ad,len,cap,kB,Cg,mX⟩:=ta m hvm;have Ci:γ k = .slice ad len cap:=by have:=Ic dO (bN.map qI) cv;rw[kB]at this;simpa using this.symm
     have pN:len=ys.length:=by
      obtain⟨css,bd,_⟩:=HM Ci (dA.box k _ gy);rcases bd.2 with⟨aL,hn⟩|⟨g,hG,cur,aL,_⟩
      .rw[Ci]at aL;simp only[Z]at aL;omega
      .rw[Ci]at aL;simp only[Z]at aL;omega
     obtain⟨γ',dB,dH⟩:=jBK dA gy pK oX (m:=m) omg_ (by rw[Ci,pN]);refine⟨S',γ',rfl,by rw[nt,nt];exact dB,?_⟩;rw[fq,mX,nt,nt];exact dH
    .simp at cP
   .simp at cP
  .simp at cP
 split at cP
 .rename_i uo tc;split at cP
  .rename_i vX un mZ;split at cP
   .rename_i bC;have bC:=jBP bj bC
    have dL:∀(mG:Ups)(Sx Sy:aY),(mG=us\/mG=[])->Rel N np S0 w0 refs (σ.upd mG) a w Sx γ->dK Sx w Sy w'->(∀g o,Sy g o->Sx g o\/w.heap.size<=g\/g∈mvOf as zs)->(∀g o,Sy g o->g<w'.heap.size)->
      mY Sy w' as zs ret.outs->All2 (rX Sy w') ret.vals vs->
      ∃S' γ',Rel N np S0 w0 refs (σ.upd (mG++uo++un)) a w' S' γ'/\All2 (cm S' w' γ' (σ.upd (mG++uo++un)).bx) vX vs:=by
     intro mG Sx Sy vZ wc Ap D2 Aq xL D3
     have we:gX (σ.upd mG).bx γ as zs fs:=by
      rcases vZ with rfl|rfl
      .exact Ao
      .exact dO
     have dA:=Vm wc Ap D2 Aq (λ_ h=>h) mE we ew tc xL gM fU rY pR dD;obtain⟨lR,pT⟩:=vW wc we tc xL
     have td:∀k b,((σ.upd mG).upd uo).bx k = .live b->∃b',(σ.upd mG).bx k = .live b':=by
      intro k b hb;by_cases hk:uo.any (λy=>y.1==k)=Ä
      .obtain⟨x,hx,he⟩:=zv.1 hk;have he:x.1=k:=by simpa using he
       subst he;obtain⟨b0,h0,_⟩:=pT x hx;exact⟨b0,h0⟩
      .rw[oJ uo _ (z8.2 hk)]at hb;exact⟨b,hb⟩
     have oX:∀x∈un,((σ.upd mG).upd uo).bx x.1 = .free:=by
      intro x hx;have h0:=bC x hx
      have h1:(σ.upd mG).bx x.1 = .free:=by
       rcases vZ with rfl|rfl
       .exact dG.free h0
       .exact h0
      rw[oJ uo,h1];rw[za];intro y hy he;simp only[zr]at he;obtain⟨b0,h2,_⟩:=pT y hy;rw[he,h1]at h2;simp at h2
     obtain⟨γ',iR,_,Ak⟩:=Vs dA mZ D3 oX oW (λg hg=>by
      rcases s9 g hg with qQ|hgm
      .refine⟨⟨.inl (qi hR.grow qQ),hR.kw_new qQ⟩,λk b hb he=>?_⟩;obtain⟨b',aW⟩:=td k b hb;have:=oI (wc.box k b' aW) he;omega
      .obtain⟨f,hf,Ia,qR⟩:=xJ we hgm;obtain⟨bf,Cj⟩:=uM we f hf;refine⟨⟨?_,wc.kw_live Cj qR⟩,λk b hb he=>?_⟩
       .rcases wc.own f.name bf g Cj qR with h|h
        .exact h
        .rw[mE f hf Ia]at h;simp at h
       .obtain⟨b',aW⟩:=td k b hb
        have hkf:k≠f.name:=by
         rintro rfl
         have D4:=Ie tc hf Ia;rw[DX uo (σ.upd mG) (by rw[lR];exact ew) D4]at hb;simp at hb
        exact wc.apart k f.name b' bf g hkf aW Cj he qR)
     refine⟨Sy,γ',?_,?_⟩
     .rw[nt,nt];exact iR
     .rw[nt,nt];exact Ak
    have cS:∃mG,(mG=us\/mG=[])/\mG=(if ret.vals.all RV.flat&&ret.outs.all Out.flat then [] else us)/\
      ∃S' γ',Rel N np S0 w0 refs (σ.upd (mG++uo++un)) a w' S' γ'/\All2 (cm S' w' γ' (σ.upd (mG++uo++un)).bx) vX vs:=by
     by_cases nC:(ret.vals.all RV.flat&&ret.outs.all Out.flat)=Ä
     .refine⟨[],.inr rfl,by rw[if_pos nC],?_⟩;obtain⟨vH,zY⟩:=Bool.and_eq_true_iff.1 nC;have ie:∀g o,S g o->S' g o:=λg o hs=>(mF g o (dh g o hs).1).1
      refine dL [] S S (.inr rfl) hR (λg o hs=>⟨hs,(mF g o (dh g o hs).1).2⟩) (λg o hs=> .inl hs) (λg o hs=>zk (hR.here g o hs) fU)
       (Cf (S1:=S1) ie zY fV) (Vu ie vH bR)
     .exact⟨us,.inl rfl,by rw[if_neg nC],dL us S1 S' (.inl rfl) bV mF dX gD fV bR⟩
    obtain⟨mG,_,vZ,S2,γ2,dA,xN⟩:=cS
    have hs:s=Um vX/\u=(if ret.vals.all RV.flat&&ret.outs.all Out.flat then [] else us)++uo++un:=by
     clear xN dL dA mZ;revert cP;match vX with
     |[c]=>simp only[j5,j9];rintro⟨rfl,rfl⟩;exact⟨rfl,rfl⟩
     |[]=>simp only[j5,j9];rintro⟨rfl,rfl⟩;exact⟨rfl,rfl⟩
     |c::c'::r=>simp only[j5,j9];rintro⟨rfl,rfl⟩;exact⟨rfl,rfl⟩
    obtain⟨rfl,rfl⟩:=hs;rw[<-vZ];exact⟨S2,γ2,rfl,dA,by rw[fq];exact jEo xN⟩
   .simp at cP
  .simp at cP
 .simp at cP
theorem jBQ{P:À}{f:H}(hf:Fun P f){o:Oper}{cl:Call}(ho:o.op = .call cl){x:ö}(hc:cl.callee = .value x){cv:É F}(hx:a.eval x = .func (.func f) #[] cv) :
  (execOp a.eval o).run P w = .ok (.enter f (cl.args.map a.eval++cv)) w:=by
 obtain⟨fn,h1,h2,h3⟩:=hf;have mo:¬fn.body=none:=λhn=>by rw[hn]at h2;simp at h2
 have xO : ¬ fn.name = "runtime.NumGoroutine" := by simpa using h3
 simp[execOp,ho,resolve,hc,Deferred.ofValue,hx,invoke,callFunc,h1,mo,xO]
end
section
variable{N:NT}{np:H}{S0:aY}{w0:Â}{refs:Refs}{σ:St}{a:Ù}{w:Â}{S:aY}{γ:H->F}
def keyV:(k:Ty)->k.den->F
 |.int q,n=> .int q n
 |.str,s=> .string s
 |_,_=>undef
theorem Ck:∀{k:Ty}{x:k.den}{u:F},k.isKey=Ä->(Rep S w k x [u]↔u=keyV k x)
 |.int q,x,u,_=>by simp[Rep,keyV]
 |.str,x,u,_=>by simp[Rep,keyV]
 |.bool,_,_,h=>by simp[Ty.isKey]at h
 |.unit,_,_,h=>by simp[Ty.isKey]at h
 |.wrap _,_,_,h=>by simp[Ty.isKey]at h
 |.pair _ _,_,_,h=>by simp[Ty.isKey]at h
 |.list _,_,_,h=>by simp[Ty.isKey]at h
 |.arr _ _,_,_,h=>by simp[Ty.isKey]at h
def keyD:Ty->TypeDesc
 |.int q=> .int q
 |_=> .string
theorem jBR{P:À}{T:H->Á TyI}(hT:db P T){n:H}{ti:TyI}(hn:T n=G ti){k:Ty}(bO:ti.ty=G k)(hk:k.isKey=Ä):P.underlying n=G (keyD k):=by
 cases k with
 |int q=>exact LZ hT hn bO
 |str=>exact Mb hT hn bO
 |_=>simp[Ty.isKey]at hk
theorem Vx{k:Ty}(hk:k.isKey=Ä)(x:k.den):MapKept.IsKey (keyD k) (keyV k x):=by
 cases k with
 |int q=>rfl
 |str=>trivial
 |_=>simp[Ty.isKey]at hk
theorem MH{k:Ty}(hk:k.isKey=Ä)(x y:k.den):ò (keyD k) (keyV k x) (keyV k y)=G (@BEq.beq _ k.keq x y):=by
 cases k with
 |int q=>simp[keyD,keyV,ò]
 |str=>simp[keyD,keyV,ò]
 |_=>simp[Ty.isKey]at hk
theorem jFE{k:Ty}(hk:k.isKey=Ä){x y:k.den}(h:@BEq.beq _ k.keq x y=Ä):x=y:=by
 cases k with
 |int q=>simpa[Ty.keq]using h
 |str=>exact(ç x y).1 h
 |_=>simp[Ty.isKey]at hk
theorem Vy{k:Ty}(hk:k.isKey=Ä)(x:k.den):í 10000 (keyV k x) (keyV k x)=true:=by
 cases k with
 |int q=>simp[keyV,í]
 |str=>simp only[keyV,í];exact(ç x x).2 rfl
 |_=>simp[Ty.isKey]at hk
def D5(S:aY)(w:Â)(k v:Ty)(x:k.den×v.den)(e:û):Prop:=Rep S w k x.1 [e.key]/\VRep S w ⟨v,x.2⟩ e.val
theorem MI{k v:Ty}(hk:k.isKey=Ä)(q:k.den):∀{xs:D (k.den×v.den)}{es:D û},All2 (D5 S w k v) xs es->∀i:H,
  (@jH _ _ k.keq xs q=Ä/\∃j e,Ó (keyD k) (keyV k q) es i=G (G (i+j,e.val))/\es[j]? = G e/\e.key=keyV k q/\VRep S w ⟨v,@iN _ _ k.keq v.dflt xs q⟩ e.val/\
   ∀(z:v.den)(e':û),e'.key=keyV k q->VRep S w ⟨v,z⟩ e'.val->All2 (D5 S w k v) (@jW _ _ k.keq xs q z) (es.set j e'))\/
  (@jH _ _ k.keq xs q=O/\Ó (keyD k) (keyV k q) es i=G Y/\@iN _ _ k.keq v.dflt xs q=v.dflt/\∀z,@jW _ _ k.keq xs q z=xs++[(q,z)])
 |[],[],_,i=> .inr ⟨rfl,rfl,rfl,λ_=>rfl⟩
 |x::xs,e::es,h,i=>by
  have uN:e.key=keyV k x.1:=(Ck hk).1 h.1.1;have hs:=MH hk q x.1;rw[<-uN]at hs;cases hb:@BEq.beq _ k.keq q x.1 with
  |true=>
   rw[hb]at hs;have hqx:=jFE hk hb;refine .inl ⟨by simp[jH,hb],0,e,by simp[Ó,hs],rfl,by rw[uN,hqx],?_,λz e' h1 h2=>?_⟩
   .simp only[iN,hb,j6];exact h.1.2
   .simp only[jW,hb,j6,ß];exact⟨⟨(Ck hk).2 h1,h2⟩,h.2⟩
  |false=>
   rw[hb]at hs;rcases MI hk q h.2 (i+1) with⟨h1,j,e',h2,h3,h4,h5,h6⟩|⟨h1,h2,h3,h4⟩
   .refine .inl ⟨by simp only[jH,yn,hb,y9];exact h1,j+1,e',by simp only[Ó,hs,h2];congr 3;omega,by simpa using h3,h4,?_,λz e2 g1 g2=>?_⟩
    .simp only[iN,hb,j7];exact h5
    .simp only[jW,hb,j7,List.set_cons_succ];exact⟨h.1,h6 z e2 g1 g2⟩
   .refine .inr ⟨by simp only[jH,yn,hb,y9];exact h1,by simp only[Ó,hs,h2],?_,λz=>?_⟩
    .simp only[iN,hb,j7];exact h3
    .simp only[jW,hb,j7,h4 z];rfl
 |[],_::_,h,_=>h.elim
 |_::_,[],h,_=>h.elim
theorem Vz{k v:Ty}(hk:k.isKey=Ä){q:k.den}:∀{xs:D (k.den×v.den)}{es:D û},All2 (D5 S w k v) xs es->@jH _ _ k.keq xs q=O->∀e∈es,e.key≠keyV k q
 |[],[],_,_=>smp_
 |x::xs,e::es,h,hn=>by
  simp only[jH,yn,Ô]at hn;intro e' MJ;rcases je.1 MJ with rfl|MJ
  .intro hq;have uN:=(Ck hk).1 h.1.1;have hs:=MH hk q x.1;rw[<-uN,hq,MH hk q q,hn.1]at hs;simp only[j5]at hs;have:=Vy hk q;cases k with
   |int z=>simp at hs
   |str=>have:=(ç q q).2 rfl;exact absurd (hs.symm.trans this) smp_
   |_=>simp[Ty.isKey]at hk
  .exact Vz hk h.2 hn.2 e' MJ
 |[],_::_,h,_=>h.elim
 |_::_,[],h,_=>h.elim
theorem VA{P:À}{T:H->Á TyI}(hT:db P T){t:H}{k v:Ty}(h:zM T t=G (k,v)) :
  ∃kt vt tv,P.underlying t=G (.map kt vt)/\P.underlying kt=G (keyD k)/\k.isKey=Ä/\T vt=G tv/\tv.ty=G v:=by
 unfold zM at h;split at h
 .rename_i ti Dz;split at h
  .rename_i k0 v0 hmp;split at h
   .rename_i tk tv oY Cl;split at h
    .rename_i k1 v1 dE hv1;split at h
     .rename_i jL;simp only[j5,j9]at h;obtain⟨rfl,rfl⟩:=h;exact⟨k0,v0,tv,Ŧ hT Dz hmp,jBR hT oY dE jL,jL,Cl,hv1⟩
     .simp at h
    .simp at h
   .simp at h
  .simp at h
 .simp at h
theorem VC{rw:H->BS}(pS:RdR σ rw){t:H}{k v:Ty}{x y:Leaf}{b:H}{ys:D (k.den×v.den)}{q:k.den}(h:mapC rw t k v x y=G (b,ys,q)) :
  x = .ol b/\y = .d k q/\σ.bx b = .live (.lst (4294967296+t) (.pair k v) ys O):=by
 unfold mapC at h;split at h
 .rename_i b0 tk key;split at h
  .rename_i e a0 xs hb;split at h
   .rename_i he;split at h
    .rename_i LM q' h1 h2;simp only[j5,j9]at h;obtain⟨rfl,rfl,rfl⟩:=h;have e1:=oG h1;have e2:=oG h2;cases e1;cases e2;subst he;exact⟨rfl,rfl,pS.live hb⟩
    .simp at h
   .simp at h
  .simp at h
 .simp at h
theorem D6(t:H):isM (4294967296+t)=true:=by
 unfold isM;rw[Nat.ble_eq];exact Nat.le_add_right _ _
theorem VD(hR:Rel N np S0 w0 refs σ a w S γ){b t:H}{k v:Ty}{ys:D (k.den×v.den)}{f:Ú}(hb:σ.bx b = .live (.lst (4294967296+t) (.pair k v) ys f)) :
  ∃g es clock,γ b = .map (G g)/\w.heap[g]? = G (.map es clock)/\All2 (D5 S w k v) ys es.toList/\LV es clock:=by
 have h:=(hR.box b _ hb).1;rcases h with⟨hm,_⟩|⟨_,g,es,clock,h1,h2,h3,h4⟩
 .rw[D6]at hm;simp at hm
 .exact⟨g,es,clock,h1,h2,h3,h4⟩
theorem jyZ{P:À}{T:H->Á TyI}(hT:db P T){n:H}{ti:TyI}(hn:T n=G ti){t:Ty}(bO:ti.ty=G t):∃z,(zeroValue n).run P w = .ok z w/\VRep S w ⟨t,t.dflt⟩ z:=by
 obtain⟨i,d,hi,hd,hs,_,ha,_,h⟩:=oc hT hn;obtain⟨_,⟨z,hz,hc⟩,hdo⟩:=h t bO;have VE:=ŧ hT hn hi hd;refine⟨z,by simp[zeroValue,typeInfo,hi,hz],?_,?_,?_⟩
 .rw[hc];exact rV t
 .intro hm;have:aggD d=true:=by cases d<;>cases t<;>simp_all[mi,kM,aggD,Ty.agg]
  simp only[zOk,hz]at VE;cases z<;>simp_all
 .intro hm;have:aggD d=false:=by cases d<;>cases t<;>simp_all[mi,kM,aggD,Ty.agg]
  simp only[zOk,hz]at VE;cases z<;>first|rfl|simp_all
theorem juq{P:À}{E:Env}(hT:db P E.T)(hR:Rel N np S0 w0 refs σ a w S γ){rw:H->BS}(pS:RdR σ rw){t:H}{k v:Ty}(ht:zM E.T t=G (k,v)){x y:Leaf}{b:H}{ys:D (k.den×v.den)}{q:k.den}
  (h:mapC rw t k v x y=G (b,ys,q)){zx zy:F}(hx:bZ S w γ σ.bx x zx)(hy:bZ S w γ σ.bx y zy) :
  ∃z,VRep S w ⟨v,@iN _ _ k.keq v.dflt ys q⟩ z/\∀ok,(ó t zx zy ok).run P w = .ok (if ok then .tuple #[z,.bool (@jH _ _ k.keq ys q)] else z) w:=by
 obtain⟨kt,vt,tv,iA,Ar,jL,Cl,D7⟩:=VA hT ht;obtain⟨rfl,rfl,hb⟩:=VC pS h;obtain⟨g,es,clock,hg,hh,ha,_⟩:=VD hR hb;have MK:zx = .map (G g):=(hx.2.2 _ hb).trans hg;have ML:zy=keyV k q:=(Ck jL).1 hy;subst MK;subst ML;have gf:=î (w:=w) Ar (Vx jL q) es.isEmpty 9999;rcases MI jL q ha 0 with⟨h1,j,e,h2,h3,h4,h5,h6⟩|⟨h1,h2,h3,h4⟩
 .refine⟨e.val,h5,λok=>?_⟩;have hf:=Ì (w:=w) Ar h2;simp only[ó,J,run_underlying iA,I,Ë hh,Ã,gf,hf,h1]
 .obtain⟨z,hz,hzv⟩:=jyZ (S:=S) (w:=w) hT Cl D7;refine⟨z,by rw[h3];exact hzv,λok=>?_⟩;have hf:=Ì (w:=w) Ar h2;simp only[ó,J,run_underlying iA,I,Ë hh,Ã,gf,hf,h1,hz]
theorem jz0(hR:Rel N np S0 w0 refs σ a w S γ){k:H}{b b':Bx}(hk:σ.bx k = .live b){g:H}(hg:blk (γ k)=G g)(hS:∀o,¬S g o)(pH:lJ b b')
  {w':Â}(wg:∀i,i≠g->w'.heap[i]? = w.heap[i]?)(cp:w'.heap.size=w.heap.size)(rY:w'.os=w.os)(Ig:w'.tape=w.tape)(dD:w'.output=w.output)
  (hb:BxLe γ σ.bx γ (σ.setB k (.live b')).bx->dK S w S w'->fK S w' γ (σ.setB k (.live b')).bx k b') :
  Rel N np S0 w0 refs (σ.setB k (.live b')) a w' S γ:=by
 have hle:BxLe γ σ.bx γ (σ.setB k (.live b')).bx:=by
  intro k' bH;by_cases cD:k'=k
  .subst cD;rw[hP];exact⟨smp_,rfl,λb1 dR=>by simp at dR;subst dR;exact⟨b,hk,pH⟩⟩
  .rw[dn σ _ cD];exact⟨bH,rfl,λb hb=>⟨b,hb,.refl b⟩⟩
 have aQ:dK S w S w':=by
  intro g' o h;refine⟨h,Õ (wg g' ?_)⟩
  rintro rfl
  exact hS o h
 have bU:∀k' b1,(σ.setB k (.live b')).bx k' = .live b1->∃b2,σ.bx k' = .live b2:=by
  intro k' b1 h1;by_cases cD:k'=k
  .subst cD;exact⟨b,hk⟩
  .rw[dn σ _ cD]at h1;exact⟨b1,h1⟩
 refine Rel.step (bx':=(σ.setB k (.live b')).bx) hR aQ hle ?_ ?_ ?_ hR.new ?_ ?_ ?_ (rY.trans hR.os) (Ig.trans hR.tape) (dD.trans hR.output) (λg' _ _ h=>⟨wg g' (λe=>h k b hk (e▸hg)),λk' b1 h1=>by
  obtain⟨b2,h2⟩:=bU k' b1 h1;exact h k' b2 h2⟩)
 .intro k' b1 h1;by_cases cD:k'=k
  .subst cD;rw[hP]at h1;simp at h1;subst h1;exact hb hle aQ
  .rw[dn σ _ cD]at h1;refine fK.keep aQ hle rfl (λg' aL=>⟨?_,λ_=>Iff.rfl⟩) (hR.box k' b1 h1);exact wg g' (λh=>hR.apart k' k b1 b g cD h1 hk (h▸aL) hg)
 .intro k' b1 g' h1 aL;obtain⟨b2,h2⟩:=bU k' b1 h1;exact hR.own k' b2 g' h2 aL
 .intro k1 k2 b1 b2 g' bz h1 h2 aL;obtain⟨vF,nr⟩:=bU k1 b1 h1;obtain⟨vG,mo⟩:=bU k2 b2 h2;exact hR.apart k1 k2 vF vG g' bz nr mo aL
 .intro g' o h;rw[cp];exact hR.here g' o h
 .intro g' aL hr;rw[wg g' ?_]
  .exact hR.below g' aL hr
  .rintro rfl
   rcases hR.own k b _ hk hg with h|h
   .exact h.no omg_ hr
   .exact hr h.1
 .rw[cp];exact hR.grow
theorem jxr{P:À}{E:Env}(hT:db P E.T)(hR:Rel N np S0 w0 refs σ a w S γ){rw:H->BS}(pS:RdR σ rw){t:H}{k v:Ty}(ht:zM E.T t=G (k,v)){x y:Leaf}{b:H}{ys:D (k.den×v.den)}{q:k.den}
  (h:mapC rw t k v x y=G (b,ys,q)){zx zy zz:F}(hx:bZ S w γ σ.bx x zx)(hy:bZ S w γ σ.bx y zy){rdf:H->BS}(bK:RdF np σ rdf){c:Cel}{z:v.den}{u:Ups}(hd:rJ rdf v c=G (z,u))(hz:cm S w γ σ.bx c zz) :
  ∃w' S',(Ø t zx zy zz).run P w = .ok () w'/\Rel N np S0 w0 refs (σ.upd (u++[(b,.live (.lst (4294967296+t) (.pair k v) (@jW _ _ k.keq ys q z) O))])) a w' S' γ:=by
 obtain⟨kt,vt,tv,iA,Ar,jL,Cl,D7⟩:=VA hT ht;obtain⟨rfl,rfl,hb⟩:=VC pS h;obtain⟨fh,bR,_⟩:=DD bK hR.box hd hz;obtain⟨S1,bV,dh,jK,dG⟩:=qN u σ S hR fh;have D8:u.any (λy=>y.1==b)=false:=by rw[za];intro y hy nD;obtain⟨_,e,t',xs,f,h1,_,hm⟩:=fh y hy;rw[show y.1=b by simpa using nD,hb]at h1;cases h1;rw[D6]at hm;simp at hm
 have dR:(σ.upd u).bx b = .live (.lst (4294967296+t) (.pair k v) ys O):=(oJ u σ D8).trans hb;obtain⟨g,es,clock,hg,hh,ha,hq⟩:=VD bV dR;have MK:zx = .map (G g):=(hx.2.2 _ hb).trans hg;have ML:zy=keyV k q:=(Ck jL).1 hy;subst MK;subst ML;have VF:=bR S1 w dh jK;have wh:blk (γ b)=G g:=by rw[hg];rfl
 have hS:∀o,¬S1 g o:=((bV.box b _ dR).2 g wh).1 rfl;have gf:=î (w:=w) Ar (Vx jL q) O 9999
 have main:∃wi mI,(Ø t (.map (G g)) (keyV k q) zz).run P w = .ok () { w with heap:=w.heap.setIfInBounds g (.map wi mI) }/\All2 (D5 S1 w k v) (@jW _ _ k.keq ys q z) wi.toList/\LV wi mI:=by
  rcases MI jL q ha 0 with⟨h1,j,e,h2,h3,h4,h5,h6⟩|⟨h1,h2,h3,h4⟩
  .have hf:=Ì (w:=w) Ar h2;rw[ki]at hf;refine⟨es.modify j λe=>{ e with key:=keyV k q,val:=zz },clock,?_,?_,MapKept.stamped_modify hq.1 j _ (λ_ _=>rfl) (λe1 _ As=>?_),?_⟩
   .have tg:((es[j]?).map (·.key)).getD (keyV k q)=keyV k q:=by rw[show es[j]? = G e by simpa using h3];exact h4
    simp only[Ø,J,run_underlying iA,I,Ë hh,gf,hf,Instr.keyThatStays,tg,Vy jL q,if_true,Ã,ë _ hh]
   .have e1:(es.modify j λe=>{ e with key:=keyV k q,val:=zz }).toList=es.toList.set j { e with key:=keyV k q,val:=zz }:=by
     refine ya λi=>?_;rw[qu,ì,List.getElem?_set];have xO:es[j]? = G e:=by simpa using h3
     by_cases dP:j=i
     .subst dP;simp only[if_true,xO,qj];rw[if_pos (by simpa using (jq.1 xO).1)]
     .simp[dP]
    rw[e1];exact h6 z _ rfl VF
   .rw[show es[j]? = G e by simpa using h3]at As;cases As;exact h4.symm
   .rw[<-hq.2];refine ya λi=>?_;rw[qv,qv,qu,qu,ì];split
    .rename_i dP;subst dP;cases es[j]? <;> rfl
    .rfl
  .have hf:=Ì (w:=w) Ar h2;refine⟨es.push { key:=keyV k q,val:=zz,born:=clock },clock+1,?_,?_,MapKept.stamped_push hq.1 (Vz jL ha h1),by rw[ô,zq,hq.2,ø];rfl⟩
   .simp only[Ø,J,run_underlying iA,I,Ë hh,gf,hf,ë _ hh]
   .rw[h4 z,ô];exact ha.append ⟨⟨(Ck jL).2 rfl,VF⟩,trivial⟩
 obtain⟨wi,mI,aS,aA,Cb⟩:=main;have aq:g<w.heap.size:=(jq.1 hh).1;refine⟨_,S1,aS,?_⟩;rw[nt];refine jz0 bV dR wh hS (b':= .lst (4294967296+t) (.pair k v) (@jW _ _ k.keq ys q z) O) ⟨rfl,rfl,λhm=>by rw[D6]at hm;simp at hm⟩ (λi hi=>by simp[Ne.symm hi]) smp_ rfl rfl rfl λhle aQ=>?_;refine⟨.inr ⟨D6 t,g,wi,mI,hg,by simp[aq],aA.mono λx e hx=>⟨Rep.keep aQ _ _ _ hx.1,VRep.keep aQ hx.2⟩,Cb⟩,λg' aL=>?_⟩;rw[wh]at aL;simp at aL;subst aL;exact⟨λ_=>hS,λh=>by simp at h⟩
theorem jxs{P:À}(hR:Rel N np S0 w0 refs σ a w S γ){n t:H}{k v:Ty}(hn:σ.bx n = .free) :
  ∃γ',(Instr.makeMap t Y).run P w = .ok (.map (G w.heap.size)) (w.alloc (.map #[] 0))/\Rel N np S0 w0 refs (σ.setB n (.live (.lst (4294967296+t) (.pair k v) [] O))) a (w.alloc (.map #[] 0)) S γ'/\
   cm S (w.alloc (.map #[] 0)) γ' (σ.setB n (.live (.lst (4294967296+t) (.pair k v) [] O))).bx (.one (.ol n)) (.map (G w.heap.size)):=by
 have D8:=Me hR hn (o:= .map #[] 0) (b:= .lst (4294967296+t) (.pair k v) [] O) (v:= .map (G w.heap.size)) (λg hg=>by simp[blk]at hg;exact hg.symm) (λhle=>by
  refine⟨.inr ⟨D6 t,w.heap.size, #[],0,gK _ _ _,heap_alloc_new w _,trivial,MapKept.stamped_empty 0,rfl⟩,λg hg=>?_⟩;rw[gK]at hg;simp[blk]at hg;subst hg;exact⟨λ_ o ho=>by have:=hR.here _ o ho;omega,λh=>by simp at h⟩)
 refine⟨_,rfl,D8.1,⟨?_,rfl,λb hb=>(gK _ _ _).symm⟩,λ_=>rfl⟩;rw[hP];simp
end
section
variable{N:NT}{np:H}{S0:aY}{w0:Â}{refs:Refs}{σ:St}{a:Ù}{w:Â}{S:aY}{γ:H->F}
theorem jxt{P:À}{E:Env}(hT:db P E.T)(hR:Rel N np S0 w0 refs σ a w S γ){rdf:H->BS}(bK:RdF np σ rdf){t:Æ}{ti:TyI}(ht:E.T t=G ti)
  {m:H}{el:Ty}(bO:ti.ty=G (.arr m el)){ps:D (H×Cel)}{vs:É (H×F)}{xs:D el.den}{u:Ups}
  (jD:All2 (λp v=>p.1=v.1/\cm S w γ σ.bx p.2 v.2) ps vs.toList)(h:lG rdf el (M m el.dflt) [] ps=G (xs,u)) :
  ∃v S',(Ò t vs).run P w = .ok v w/\Rel N np S0 w0 refs (σ.upd u) a w S' γ/\cm S' w γ (σ.upd u).bx (.av m el xs) v:=by
 obtain⟨iA,cq,te,cT,xQ⟩:=B5 hT ht bO;have cp:=od hT cT xQ;obtain⟨z,hz,hQ⟩:=B4 hT ht w bO;obtain⟨fh,eO⟩:=Mm bK hR.box cq ps vs.toList jD h .nil;obtain⟨S1,bV,dh,jK,dG⟩:=qN u σ S hR fh;obtain⟨Va,css,aA,nC⟩:=rV (S:=S1) (w:=w) (.arr m el);obtain⟨bL,mu,ic,iG,dv⟩:=eO S1 dh jK css z.cells aA (by rw[hQ];exact nC)
 have hlen:∀(ps:D (H×Cel)){xs dj:D el.den}{u u':Ups},lG rdf el xs u ps=G (dj,u')->dj.length=xs.length:=by
  intro ps;induction ps with
  |nil=>intro xs dj u u' h;simp[lG]at h;rw[h.1]
  |cons p ps ih=>
   intro xs dj u u' h;obtain⟨i,c⟩:=p;simp only[lG]at h;split at h
   .split at h
    .rw[ih h];simp
    .simp at h
   .simp at h
 have om:xs.length=m:=by rw[hlen ps h];simp
 refine⟨.agg bL,S1,?_,bV,bL,rfl,om,mu,iG,dv⟩;simp only[Ò,J,hz,I,run_underlying iA,kA hT cT,<-cp,ic,Ã]
theorem jxu{P:À}{E:Env}(hT:db P E.T){bx:H->BS}{t:Æ}{ti:TyI}(ht:E.T t=G ti){m:H}{el:Ty}(bO:ti.ty=G (.arr m el)) :
  ∃v,(Ò t #[]).run P w = .ok v w/\cm S w γ bx (.st (pF (.arr m el))) v:=by
 obtain⟨iA,cq,te,cT,xQ⟩:=B5 hT ht bO;obtain⟨z,hz,hQ⟩:=B4 hT ht w bO;refine⟨.agg z.cells,?_,z.cells,rfl,by rw[hQ];exact xz (.arr m el),λu hu=>H2 hQ u (by simpa using hu)⟩;simp only[Ò,J,hz,I,run_underlying iA,kA hT cT];rfl
theorem VG{rd:H->BS}(bj:RdF np σ rd)(hB:DC S w γ σ.bx){el:Ty}:∀{ls:D Leaf}{xs:D el.den}{u:Ups}{zs:D F},u5 rd el ls=G (xs,u)->All2 (bZ S w γ σ.bx) ls zs->
  FrzL np σ.bx u/\∀S' w',dK S w S' w'->Froz σ.bx γ S' w' u->All2 (λx z=>Rep S' w' el x [z]) xs zs
 |[],xs,u,zs,h,ha=>by
  simp[u5]at h;obtain⟨rfl,rfl⟩:=h;cases zs with
  |nil=>exact⟨.nil,λ_ _ _ _=>trivial⟩
  |cons _ _=>exact ha.elim
 |l::ls,xs,u,zs,h,ha=>by
  cases zs with
  |nil=>exact ha.elim
  |cons z zs=>
   simp only[u5]at h;split at h
   .rename_i x u1 H5 u2 h1 h2;simp only[j5,j9]at h;obtain⟨rfl,rfl⟩:=h;obtain⟨f1,p1⟩:=xy bj hB h1 ha.1;obtain⟨f2,p2⟩:=VG bj hB h2 ha.2;exact⟨FrzL.app.2 ⟨f1,f2⟩,λS' w' hk hf=>⟨p1 S' w' hk (Froz.app.1 hf).1,p2 S' w' hk (Froz.app.1 hf).2⟩⟩
   .simp at h
theorem VH{el:Ty}{S':aY}{w':Â}:∀{xs:D el.den}{zs:D F},All2 (λx z=>Rep S' w' el x [z]) xs zs->∃css,All2 (λx c=>Rep S' w' el x c) xs css/\zs=css.flatten
 |[],[],_=>⟨[],trivial,rfl⟩
 |x::xs,z::zs,h=>by
  obtain⟨css,h1,h2⟩:=VH h.2;exact⟨[z]::css,⟨h.1,h1⟩,by simp[h2]⟩
 |[],_::_,h=>h.elim
 |_::_,[],h=>h.elim
theorem jz1{P:À}{E:Env}(hT:db P E.T)(hR:Rel N np S0 w0 refs σ a w S γ){rd rdf:H->BS}(bj:RdOk σ rd)(bK:RdF np σ rdf){t:Æ}{ti:TyI}(ht:E.T t=G ti)
  {x:Leaf}{m:H}{el:Ty}{ls:D Leaf}{xs:D el.den}{u:Ups}{v:F}(h:u6 rd ti.ty x=G (m,el,ls))(hg:u5 rdf el ls=G (xs,u))(hl:xs.length=m)(hx:bZ S w γ σ.bx x v) :
  ∃z S',(Instr.loadAt t v).run P w = .ok z w/\Rel N np S0 w0 refs (σ.upd u) a w S' γ/\cm S' w γ (σ.upd u).bx (.av m el xs) z:=by
 unfold u6 at h;split at h
 .rename_i k;split at h
  .rename_i m' HX bO;split at h
   .split at h
    .rename_i gn hk;simp only[j5,j9]at h;obtain⟨rfl,rfl,rfl⟩:=h;have hk:=bj.live hk;obtain⟨g,aL,hu⟩:=hx.2.2 _ hk;obtain⟨g',cur,e,kQ,hh,ha,h1,_⟩:=hR.box k _ hk;rw[aL]at kQ;simp at kQ;subst kQ;obtain⟨fh,eO⟩:=VG bK hR.box hg ha;obtain⟨S1,bV,dh,jK,dG⟩:=qN u σ S hR fh;obtain⟨css,aA,dy⟩:=VH (eO S1 w dh jK);have bR:Rep S1 w (.arr m' HX) xs (cur.toList.take gn.length):=⟨hl,css,aA,dy⟩;obtain⟨L8,_,_⟩:=B5 hT ht bO;have cp:(cur.toList.take gn.length).length=ti.size:=by have:=Rep.length _ _ _ bR;rw[od hT ht bO]at this;exact this
     refine⟨.agg (cur.toList.take gn.length).toArray,S1,?_,bV,(cur.toList.take gn.length).toArray,rfl,by simpa using bR⟩;subst hu
     have Ih:=UF (w:=w) (g:=g) (o:=0) (cs:=cur.toList.take gn.length) (λj v hv=>by
      rw[ki,cell_of_row w g j cur e (0,0) hh];rw[zb]at hv;split at hv
      .simpa using hv
      .simp at hv) P
     rw[cp]at Ih;have mn:(isAgg t).run P w = .ok Ä w:=by simp[isAgg,run_underlying L8]
     simp only[Instr.loadAt,J,þ,Ã,I,loadVar,mn,if_true,kA hT ht,Ih]
    .simp at h
   .simp at h
  .simp at h
 .simp at h
def Slot.bare:Slot->Ú
 |.cnd _ _ _=>O
 |_=>Ä
theorem VI(hR:Rel N np S0 w0 refs σ a w S γ){act:D (H×Ú)}(bn:sJ (tm a) act)(ps:D (H×ö)) :
  All2 (λp v=>p.1=v.1/\cm S w γ σ.bx p.2 v.2) (ps.map λp=>(p.1,(σ.ev p.2).cel act)) (ps.map λp=>(p.1,a.eval p.2)):=by
 induction ps with
 |nil=>trivial
 |cons p ps ih=>exact⟨⟨rfl,ff hR bn p.2⟩,ih⟩
theorem MM(hR:Rel N np S0 w0 refs σ a w S γ){act:D (H×Ú)}(bn:sJ (tm a) act)(ps:D ö) :
  All2 (cm S w γ σ.bx) (ps.map λp=>(σ.ev p).cel act) (ps.map a.eval):=by
 induction ps with
 |nil=>trivial
 |cons p ps ih=>exact⟨ff hR bn p,ih⟩
theorem D9{rd:H->BS}(bj:RdOk σ rd):RdF np σ (λk=>if parK np k then .gone else rd k):=by
 refine⟨λk=>?_,λk e a xs f h=>?_⟩
 rotate_left
 .dsimp only at h
  split at h
  .simp at h
  .exact bj.2 k e a xs f h
 dsimp only
 split
 .exact .inr rfl
 .rename_i hp;rcases bj.1 k with h|h
  .exact .inl ⟨h,by simpa using hp⟩
  .exact .inr h
theorem xR{P:À}{o:Oper}{l:Leaf}{v:F}(hR:Rel N np S0 w0 refs σ a w S γ)(hr:(execOp a.eval o).run P w = .ok (.value v) w)
  (hs:bZ S w γ σ.bx l v)(h1:One v):L0 P N np S0 w0 refs o σ a w S γ (.one (.one l)) []:=
 mj hR hr ⟨hs,λ_=>h1⟩
theorem Cm{c:Cel}{l:Leaf}(h:lf c=l)(hd:l ≠ .dead):c = .one l:=by
 cases c with
 |one x=>simp[lf]at h;rw[h]
 |st ls=>simp[lf]at h;exact absurd h.symm hd
 |av n a xs=>simp[lf]at h;exact absurd h.symm hd
theorem MN{P:À}{E:Env}(hT:db P E.T)(hR:Rel N E.np S0 w0 refs σ a w S γ){act:D (H×Ú)}(bn:sJ (tm a) act){rw:H->BS}(pS:RdR σ rw)
  {o:Oper}{s:Slot}{u:Ups}(h:dU E σ.ev rw act o=G (.val Ä s u)):L0 P N E.np S0 w0 refs o σ a w S γ s u/\s.bare=true:=by
 have bj:RdOk σ (mskM rw):=pS.msk;have bK:=D9 (np:=E.np) bj;have hex:∀op,o.op=op->execOp a.eval o=execOp a.eval { o with op:=op }:=λop h=>by subst h;rfl
 unfold dU at h;dsimp only at h;split at h
 ·-- move
  rename_i x cj;split at h
  .rename_i l hl;simp only[j5,Act.val.injEq]at h;obtain⟨_,rfl,rfl⟩:=h;have:=sH hR x;rw[hl]at this;exact⟨mj hR (v:=a.eval x) (by simp[execOp,cj]) this,rfl⟩
  .simp only[j5,Act.cel,Act.val.injEq]at h;obtain⟨_,rfl,rfl⟩:=h;exact⟨mj hR (v:=a.eval x) (by simp[execOp,cj]) (ff hR bn x),rfl⟩
 ·-- assign
  rename_i x cj;split at h
  .rename_i l hl;simp only[j5,Act.val.injEq]at h;obtain⟨_,rfl,rfl⟩:=h;have:=sH hR x;rw[hl]at this;exact⟨mj hR (v:=a.eval x) (by simp[execOp,cj]) this,rfl⟩
  .simp only[j5,Act.cel,Act.val.injEq]at h;obtain⟨_,rfl,rfl⟩:=h;exact⟨mj hR (v:=a.eval x) (by simp[execOp,cj]) (ff hR bn x),rfl⟩
 ·-- pick
  rename_i x y z cj;split at h
  .rename_i v hv;have hx:=ff hR bn x;have MO:a.eval x = .bool v:=by have:=Cm hv smp_;rw[this]at hx;exact uE hx
   have aS:(execOp a.eval o).run P w = .ok (.value (if v then a.eval y else a.eval z)) w:=by simp[execOp,cj,MO,asBool]
   have hy:v=Ä->cm S w γ σ.bx ((σ.ev y).cel (HD x Ä act)) (a.eval y):=by
    intro wj;refine L3 ?_ (sH hR y);cases x with
    |tmp t=>
     intro g hg;rcases je.1 hg with rfl|hg
     .simp only;rw[<-wj];exact MO
     .exact bn g hg
    |_=>exact bn
   have hz:v=O->cm S w γ σ.bx ((σ.ev z).cel (HD x O act)) (a.eval z):=by
    intro wj;refine L3 ?_ (sH hR z);cases x with
    |tmp t=>
     intro g hg;rcases je.1 hg with rfl|hg
     .simp only;rw[<-wj];exact MO
     .exact bn g hg
    |_=>exact bn
   split at h
   .rename_i t p t' q hp hq;split at h
    .rename_i q' jI;simp only[j5,Act.leaf,Act.val.injEq]at h;obtain⟨_,rfl,rfl⟩:=h;have:=oG jI;cases this;refine⟨mj hR aS ?_,rfl⟩;cases v with
     |true=>have:=hy rfl;rw[hp]at this;exact this
     |false=>have:=hz rfl;rw[hq]at this;exact this
    .simp at h
   .rename_i t p hp hq;simp only[j5,Act.val.injEq]at h;obtain⟨h9,rfl,rfl⟩:=h;have h9:v=true:=h9;subst h9;refine⟨mj hR aS ?_,rfl⟩;have:=hy rfl;rw[hp]at this;exact this
   .rename_i t q hp hq;simp only[j5,Act.val.injEq]at h;obtain⟨h9,rfl,rfl⟩:=h;have h9:v=false:=by simpa using h9
    subst h9;refine⟨mj hR aS ?_,rfl⟩;have:=hz rfl;rw[hq]at this;exact this
   .simp at h
  .simp at h
 ·-- alloc
  rename_i t cj;split at h
  .rename_i ti ht;split at h
   .rename_i bC;have hd:=bj.free bC;split at h
    .rename_i k el bO;split at h
     .simp only[j5,Act.val.injEq]at h;obtain⟨_,rfl,rfl⟩:=h;obtain⟨z,hQ,hz⟩:=Ml (w:=w) hT ht bO;obtain⟨dB,hc⟩:=Mf hR hd (ls:=pF (.arr k el)) (cur:=z.cells) (e:=t) (by rw[hQ];exact xz (.arr k el)) (H2 hQ);exact⟨⟨_,_,S,_,.inl (by simp[execOp,cj,hz]),dB,hc⟩,rfl⟩
     simp only[j5,Act.val.injEq]at h;obtain⟨_,rfl,rfl⟩:=h;obtain⟨z,hQ,hz⟩:=Ml (w:=w) hT ht bO;obtain⟨dB,hc⟩:=UL hR hd (m:=k) (t:=el) (xs:=M k el.dflt) (cur:=z.cells) (e:=t) (by rw[hQ];exact rV (.arr k el));exact⟨⟨_,_,S,_,.inl (by simp[execOp,cj,hz]),dB,hc⟩,rfl⟩
    .rename_i ty bz bO;simp only[j5,Act.val.injEq]at h;obtain⟨_,rfl,rfl⟩:=h;obtain⟨z,hQ,hz⟩:=Ml (w:=w) hT ht bO;obtain⟨dB,hc⟩:=Mf hR hd (ls:=pF ty) (cur:=z.cells) (e:=t) (by rw[hQ];exact xz ty) (H2 hQ);exact⟨⟨_,_,S,_,.inl (by simp[execOp,cj,hz]),dB,hc⟩,rfl⟩
    .simp at h
   .simp at h
  .simp at h
 ·-- box
  rename_i t x cj;split at h
  .rename_i bC;have hd:=bj.free bC;have hx:=ff hR bn x;split at h
   .rename_i k el xs hc;simp only[j5,Act.val.injEq]at h;obtain⟨_,rfl,rfl⟩:=h;rw[hc]at hx;obtain⟨cs,hu,bR⟩:=hx;obtain⟨dB,dH⟩:=UL hR hd (m:=k) (t:=el) (xs:=xs) (cur:=(a.eval x).cells) (e:=t) (by rw[hu];exact bR);exact⟨⟨_,_,S,_,.inl (by simp[execOp,cj,UZ]),dB,dH⟩,rfl⟩
   .split at h
    .rename_i ls hls;simp only[j5,Act.val.injEq]at h;obtain⟨_,rfl,rfl⟩:=h;obtain⟨hl,h1⟩:=DF hls hx;obtain⟨dB,dH⟩:=Mf hR hd (ls:=ls) (cur:=(a.eval x).cells) (e:=t) hl h1;exact⟨⟨_,_,S,_,.inl (by simp[execOp,cj,UZ]),dB,dH⟩,rfl⟩
    .simp at h
  .simp at h
 ·-- build
  rename_i t ps cj;have jD:=VI hR bn ps.toList;have wk:All2 (λp v=>p.1=v.1/\cm S w γ σ.bx p.2 v.2) (ps.toList.map λp=>(p.1,(σ.ev p.2).cel act)) (ps.map λp=>(p.1,a.eval p.2)).toList:=by simpa using jD
  split at h
  .rename_i ti ht;split at h
   .rename_i k el bO;split at h
    .rename_i VJ;simp only[j5,Act.cel,Act.val.injEq]at h;obtain⟨_,rfl,rfl⟩:=h;obtain⟨v,aS,hc⟩:=jxu (w:=w) (S:=S) (γ:=γ) (bx:=σ.bx) hT ht bO;have r5:ps = #[]:=by simp only[jg,List.isEmpty_iff]at VJ;exact Array.toList_eq_nil_iff.1 VJ.2
     subst r5;exact⟨mj hR (v:=v) (by simp[execOp,cj,aS]) hc,rfl⟩
    split at h
    .rename_i xs u' hb;simp only[j5,Act.val.injEq]at h;obtain⟨_,rfl,rfl⟩:=h;obtain⟨v,S',aS,dB,hc⟩:=jxt hT hR bK ht bO wk hb;exact⟨⟨v,w,S',γ,.inl (by simp[execOp,cj,aS]),dB,hc⟩,rfl⟩
    .simp at h
   .rename_i ty bz bO;split at h
    .rename_i oF;split at h
     .rename_i ls hb;simp only[j5,Act.cel,Act.val.injEq]at h;obtain⟨_,rfl,rfl⟩:=h;obtain⟨v,aS,hc⟩:=jxm hT ht bO oF wk hb;exact⟨mj hR (v:=v) (by simp[execOp,cj,aS]) hc,rfl⟩
     .simp at h
    .simp at h
   .simp at h
  .simp at h
 ·-- buildSlice
  rename_i t len ps cj;have jD:=VI hR bn ps.toList;have wk:All2 (λp v=>p.1=v.1/\cm S w γ σ.bx p.2 v.2) (ps.toList.map λp=>(p.1,(σ.ev p.2).cel act)) (ps.map λp=>(p.1,a.eval p.2)).toList:=by simpa using jD
  split at h
  .rename_i ti ht;split at h
   .rename_i el bO;split at h
    .simp at h
    .rename_i hlen;split at h
     .rename_i xs u' hb;split at h
      .rename_i bC;simp only[j5,Act.val.injEq]at h;obtain⟨_,rfl,rfl⟩:=h;obtain⟨v',w',S',γ',aS,dB,hc⟩:=jpi hT hR bK ht bO omg_ wk hb (bj.free bC);exact⟨⟨v',w',S',γ',.inl (by simp[execOp,cj,aS]),dB,hc⟩,rfl⟩
      .simp at h
     .simp at h
   .simp at h
  .simp at h
 ·-- load
  rename_i t x cj;split at h
  .rename_i ti ht;split at h
   .rename_i m el ls th;split at h
    .rename_i xs u' hg;split at h
     .rename_i hlen;simp only[j5,Act.val.injEq]at h;obtain⟨_,rfl,rfl⟩:=h;obtain⟨z,S',hz,dB,kN⟩:=jz1 hT hR bj bK ht th hg hlen (jA (ff hR bn x));exact⟨⟨z,w,S',γ,.inl (by simp[execOp,cj,hz]),dB,kN⟩,rfl⟩
     .simp at h
    .simp at h
   unfold oCel at h;split at h
   .rename_i c hc;simp only[j5,Act.cel,Act.val.injEq]at h;obtain⟨_,rfl,rfl⟩:=h;obtain⟨z,hz,kN⟩:=UH hT hR bj ht hc (jA (ff hR bn x));exact⟨mj hR (v:=z) (by simp[execOp,cj,hz]) kN,rfl⟩
   .simp at h
  .simp at h
 ·-- store
  rename_i t x y cj;split at h
  .rename_i ti ht;split at h
   .rename_i u' hu;simp only[j5,Act.val.injEq]at h;obtain⟨_,rfl,rfl⟩:=h;obtain⟨w',S',aS,dB⟩:=jxj hT hR bj bK ht hu (jA (ff hR bn x)) (ff hR bn y);exact⟨⟨undef,w',S',γ,.inr ⟨by simp[execOp,cj,aS],rfl⟩,dB,⟨trivial,λh=>absurd rfl h⟩⟩,rfl⟩
   .simp at h
  .simp at h
 ·-- nilCheck
  rename_i x cj;have hx:=ff hR bn x;split at h
  .rename_i k p hl;split at h
   .rename_i iF;simp only[j5,Act.leaf,Act.val.injEq]at h;obtain⟨_,rfl,rfl⟩:=h;rw[Cm hl smp_]at hx;obtain⟨b,hb⟩:=DA iF;obtain⟨g,_,hu⟩:=hx.1.2.2 b (bj.live hb);exact⟨mj hR (v:=a.eval x) (by simp[execOp,cj,hu]) hx,rfl⟩
   .simp at h
  .rename_i k i p hl;split at h
   .rename_i iF;simp only[j5,Act.leaf,Act.val.injEq]at h;obtain⟨_,rfl,rfl⟩:=h;rw[Cm hl smp_]at hx;obtain⟨b,hb⟩:=DA iF;have h3:=hx.1.2.2 b (bj.live hb)
    have hu:∃g o,a.eval x = .pointer (G ⟨g,o,Y⟩):=by
     cases b with
     |cell ls f=>exact h3.elim
     |lst e t xs f=>obtain⟨_,_,g,cap,_,hu⟩:=h3;exact⟨_,_,hu⟩
     |arr n t xs=>obtain⟨_,g,_,hu⟩:=h3;exact⟨_,_,hu⟩
    obtain⟨g,ofs,hu⟩:=hu;exact⟨mj hR (v:=a.eval x) (by simp[execOp,cj,hu]) hx,rfl⟩
   .simp at h
  .rename_i ls hl;simp only[j5,Act.leaf,Act.val.injEq]at h;obtain⟨_,rfl,rfl⟩:=h;rw[Cm hl smp_]at hx;obtain⟨g,ofs,cs,hu,_⟩:=hx.1;exact⟨mj hR (v:=a.eval x) (by simp[execOp,cj,hu]) hx,rfl⟩
  .simp at h
 ·-- binOp
  rename_i op t x y rest cj;unfold oChk at h;split at h
  .rename_i b c hc;simp only[j5,Act.val.injEq]at h;obtain⟨rfl,rfl,rfl⟩:=h;obtain⟨z,hz,hl,h1⟩:=ů (x:=x) (y:=y) hT hc (ff hR bn x) (ff hR bn y);refine⟨xR hR ?_ hl h1,rfl⟩;simp only[execOp,cj];rw[J,hz];rfl
  .simp at h
 ·-- unOp
  rename_i op t x cj;unfold oE at h;split at h
  .rename_i c hc;simp only[j5,Act.leaf,Act.val.injEq]at h;obtain⟨_,rfl,rfl⟩:=h;obtain⟨z,hz,hl,h1⟩:=Ű hc (ff hR bn x);refine⟨xR hR ?_ hl h1,rfl⟩;simp only[execOp,cj];rw[J,hz];rfl
  .simp at h
 ·-- convert
  rename_i src dst x cj;split at h
  .rename_i ts ti pU ht;split at h
   .rename_i k v k0 k' hl MP bO;simp only[j5,Act.leaf,Act.val.injEq]at h;obtain⟨_,rfl,rfl⟩:=h;have hx:=ff hR bn x;rw[Cm hl smp_]at hx;have hu:=xx hx;have iA:=LZ hT ht bO;refine⟨xR hR (v:= .int k' (k'.wrap v)) ?_ rfl rfl,rfl⟩;have Ea:=LZ hT pU MP;simp only[execOp,cj];rw[J];have:(convert src dst (a.eval x)).run P w = .ok (.int k' (k'.wrap v)) w:=by simp only[hu,convert,J,run_underlying Ea,run_underlying iA,I];simp[Conv.intToInt]
    rw[this];rfl
   .simp at h
  .simp at h
 ·-- makeFunc
  rename_i f first bN cj
  split at h
  .rename_i mJ;split at h
   .rename_i l u' hl;simp only[j5,Act.val.injEq]at h;obtain⟨_,rfl,rfl⟩:=h;have fo:=MM hR bn bN.toList;obtain⟨S',dB,_,dq,_⟩:=Ve bK hl hR fo;have nF:first = #[]:=by simpa using mJ
    refine⟨⟨.func (.func f) #[] (bN.map a.eval),w,S',γ,.inl ?_,dB,⟨⟨_,rfl,by simpa using dq⟩,λ_=>rfl⟩⟩,rfl⟩;simp[execOp,cj,nF,Instr.makeFunc]
   .simp at h
  .simp at h
 ·-- fieldAddr
  rename_i t x i cj;split at h
  .rename_i ti ht;unfold oE at h;split at h
   .rename_i c hc;simp only[j5,Act.leaf,Act.val.injEq]at h;obtain⟨_,rfl,rfl⟩:=h;obtain⟨z,hz,hl,h1⟩:=Ź hT bj ht hc (jA (ff hR bn x));exact⟨xR hR (by simp[execOp,cj,hz]) hl h1,rfl⟩
   .simp at h
  .simp at h
 ·-- field
  rename_i t x i cj;split at h
  .rename_i ti ht;split at h
   .rename_i ls f hc hf;split at h
    .rename_i tf sG;unfold oCel at h;split at h
     .rename_i c cP;simp only[j5,Act.cel,Act.val.injEq]at h;obtain⟨_,rfl,rfl⟩:=h;have hx:=ff hR bn x;rw[hc]at hx;obtain⟨cs,hu,aA,h1⟩:=hx;obtain⟨fs,iA,fl,fh,mK,wm,tf',htf',cq⟩:=Uv hT ht hf;rw[<-wm]at sG;have iG:=(aA.drop fl.offset).take tf.size;have nr:∀u∈(cs.toList.drop fl.offset).take tf.size,One u:=λu eE=>h1 u (ve (qq eE));rw[<-mK]at cP
      have sK:∃z,(part fl.type cs fl.offset).run P w = .ok z w/\cm S w γ σ.bx c z:=by
       unfold u4 at cP;split at cP
       .rename_i mn;split at cP
        .rename_i hlen;simp only[j5]at cP;subst cP;refine⟨.agg (cs.extract fl.offset (fl.offset+tf.size)),?_,_,rfl,?_,?_⟩
         .simp only[part,J,B3 hT sG,mn,I,if_true,kA hT sG,Ã]
         .have:(cs.extract fl.offset (fl.offset+tf.size)).toList=(cs.toList.drop fl.offset).take tf.size:=by simp[List.take_drop]
          rw[this];exact iG
         .have:(cs.extract fl.offset (fl.offset+tf.size)).toList=(cs.toList.drop fl.offset).take tf.size:=by simp[List.take_drop]
          rw[this];exact nr
        .simp at cP
       .rename_i mn;split at cP
        .rename_i l' iS;simp only[j5]at cP;subst cP;rw[iS]at iG;cases hq:(cs.toList.drop fl.offset).take tf.size with
         |nil=>rw[hq]at iG;exact iG.elim
         |cons z zs=>
          rw[hq]at iG nr
          have hz:cs[fl.offset]? = G z:=by
           have:((cs.toList.drop fl.offset).take tf.size)[0]? = G z:=by rw[hq];rfl
           have:=HO this;simpa using this
          refine⟨z,?_,iG.1,λ_=>nr z smp_⟩;simp only[part,J,B3 hT sG,I,if_neg mn,hz,Ã]
        .simp at cP
      obtain⟨z,hz,kN⟩:=sK;refine⟨mj hR (v:=z) ?_ kN,rfl⟩;simp only[execOp,cj,hu];rw[J];have:(Instr.field t (.agg cs) i).run P w = .ok z w:=by simp only[Instr.field,J,run_underlying iA,I,fh,asAgg,Ã,hz]
      rw[this];rfl
     .simp at h
    .simp at h
   .simp at h
  .simp at h
 ·-- indexAddr
  rename_i t x i cj;split at h
  .rename_i ti ht;unfold oChk at h;split at h
   .rename_i b c hc;simp only[j5,Act.val.injEq]at h;obtain⟨rfl,rfl,rfl⟩:=h;obtain⟨z,hz,hl,h1⟩:=ź hT hR bj ht hc (jA (ff hR bn x)) (jA (ff hR bn i));exact⟨xR hR (by simp[execOp,cj,hz]) hl h1,rfl⟩
   .simp at h
  .simp at h
 ·-- index
  rename_i t x i cj;split at h
  .rename_i ti ht;split at h
   .rename_i b c hc;simp only[j5,Act.val.injEq]at h;obtain⟨rfl,rfl,rfl⟩:=h;obtain⟨z,hz,kN⟩:=ż hT ht hc (ff hR bn x) (jA (ff hR bn i));exact⟨mj hR (v:=z) (by simp[execOp,cj,hz]) kN,rfl⟩
   .simp at h
  .simp at h
 ·-- makeMap
  rename_i t cj;split at h
  .rename_i k v ht;split at h
   .rename_i kB;simp only[j5,Act.val.injEq]at h;obtain⟨_,rfl,rfl⟩:=h;obtain⟨γ',aS,dB,dH⟩:=jxs (P:=P) (t:=t) (k:=k) (v:=v) hR (bj.free kB);exact⟨⟨_,_,S,γ',.inl (by simp[execOp,cj,aS]),dB,dH⟩,rfl⟩
   .simp at h
  .simp at h
 ·-- lookup
  rename_i t x i ok cj;split at h
  .rename_i k v ht;split at h
   .rename_i b ys q hm;obtain⟨z,hz,aS⟩:=juq hT hR pS ht hm (jA (ff hR bn x)) (jA (ff hR bn i));split at h
    .simp only[j5,Act.val.injEq]at h;obtain⟨_,rfl,rfl⟩:=h;have hr:=aS Ä;simp only[if_true]at hr;refine⟨mj hR (v:= .tuple #[z,.bool (@jH _ _ k.keq ys q)]) (by simp[execOp,cj,hr]) ?_,rfl⟩;exact⟨_,rfl,Ce hz,⟨rfl,λ_=>rfl⟩,trivial⟩
    .simp only[j5,Act.cel,Act.val.injEq]at h;obtain⟨_,rfl,rfl⟩:=h;have hr:=aS O;simp only[kv,zu]at hr;exact⟨mj hR (v:=z) (by simp[execOp,cj,hr]) (Ce hz),rfl⟩
   .simp at h
  .simp at h
 ·-- mapUpdate
  rename_i t x i y cj;split at h
  .rename_i k v ht;split at h
   .rename_i b ys q z u' hm hd;simp only[j5,Act.val.injEq]at h;obtain⟨_,rfl,rfl⟩:=h;obtain⟨w',S',aS,dB⟩:=jxr hT hR pS ht hm (jA (ff hR bn x)) (jA (ff hR bn i)) bK hd (ff hR bn y);exact⟨⟨undef,w',S',γ,.inr ⟨by simp[execOp,cj,aS],rfl⟩,dB,⟨trivial,λh=>absurd rfl h⟩⟩,rfl⟩
   .simp at h
  .simp at h
 ·-- extract
  rename_i x i cj;split at h
  .rename_i l hl;split at h
   .rename_i c hc;simp only[j5,Act.cel,Act.val.injEq]at h;obtain⟨_,rfl,rfl⟩:=h;have hx:=sH hR x;rw[hl]at hx;obtain⟨vs,hu,aA⟩:=hx;obtain⟨z,hz,kN⟩:=aA.get i c hc;refine⟨mj hR (v:=z) ?_ kN,rfl⟩;have xS:vs[i]? = G z:=by simpa using hz
    simp[execOp,cj,hu,Instr.extract,xS]
   .simp at h
  .simp at h
 ·-- call
  rename_i cl cj;have fo:=MM hR bn cl.args.toList;split at h
  ·-- len
   rename_i cH;split at h
   .rename_i x t gW pU;split at h
    .rename_i ti ht;unfold oE at h;split at h
     .rename_i c hc;simp only[j5,Act.leaf,Act.val.injEq]at h;obtain⟨_,rfl,rfl⟩:=h;obtain⟨z,hz,hl,h1⟩:=ž (ty:=o.type) hT hR bj ht hc (jA (ff hR bn x));have e1:cl.args = #[x]:=by apply ze;simpa using gW
      have e2:cl.argTypes = #[t]:=by apply ze;simpa using pU
      refine⟨xR hR (v:=z) ?_ hl h1,rfl⟩;simp[execOp,cj,resolve,cH,invoke,builtin,e1,e2,hz]
     .simp at h
    .simp at h
   .simp at h
  ·-- min
   rename_i cH;unfold oE at h;split at h
   .rename_i c hc;simp only[j5,Act.leaf,Act.val.injEq]at h;obtain⟨_,rfl,rfl⟩:=h;obtain⟨z,hz,hl,h1⟩:=ű (P:=P) (ts:=cl.argTypes) (ty:=o.type) hc fo;refine⟨xR hR (v:=z) ?_ hl h1,rfl⟩;have e1:cl.args.map a.eval=(cl.args.toList.map a.eval).toArray:=by apply ze;simp
    simp[execOp,cj,resolve,cH,invoke,builtin,e1,hz]
   .simp at h
  ·-- max
   rename_i cH;unfold oE at h;split at h
   .rename_i c hc;simp only[j5,Act.leaf,Act.val.injEq]at h;obtain⟨_,rfl,rfl⟩:=h;obtain⟨z,hz,hl,h1⟩:=Ų (P:=P) (ts:=cl.argTypes) (ty:=o.type) hc fo;refine⟨xR hR (v:=z) ?_ hl h1,rfl⟩;have e1:cl.args.map a.eval=(cl.args.toList.map a.eval).toArray:=by apply ze;simp
    simp[execOp,cj,resolve,cH,invoke,builtin,e1,hz]
   .simp at h
  ·-- append
   rename_i cH;split at h
   .rename_i t t' s' x pU gW;split at h
    .rename_i tj;subst tj;split at h
     .rename_i ti ht;split at h
      .rename_i el bO;split at h
       .rename_i b' v' u' hh;simp only[j5,Act.val.injEq]at h;obtain⟨rfl,rfl,rfl⟩:=h;obtain⟨z,w',aS,dB,hl,h1⟩:=jBJ (ty:=o.type) hT hR bj ht bO hh (jA (ff hR bn s')) (jA (ff hR bn x));have e1:cl.args = #[s',x]:=by apply ze;simpa using gW
        have e2:cl.argTypes = #[t,t]:=by apply ze;simpa using pU
        refine⟨⟨z,w',S,γ,.inl ?_,dB,hl,λ_=>h1⟩,rfl⟩;simp[execOp,cj,resolve,cH,invoke,builtin,e1,e2,aS]
       split at h
       .rename_i xs frz u' ys hs hx;split at h
        .rename_i bC;simp only[j5,Act.val.injEq,js]at h;obtain⟨fi,rfl,rfl⟩:=h;obtain⟨v',w',S',γ',aS,dB,dH⟩:=jxl (ty:=o.type) hT hR bj bK ht bO hs hx (bj.free bC) fi (jA (ff hR bn s')) (jA (ff hR bn x));have e1:cl.args = #[s',x]:=by apply ze;simpa using gW
         have e2:cl.argTypes = #[t,t]:=by apply ze;simpa using pU
         refine⟨⟨v',w',S',γ',.inl ?_,dB,dH⟩,rfl⟩;simp[execOp,cj,resolve,cH,invoke,builtin,e1,e2,aS]
        .simp at h
       .simp at h
      .simp at h
     .simp at h
    .simp at h
   .simp at h
  ·-- value
   split at h
   .split at h
    .split at h
     .simp at h
     .simp at h
    .simp at h
   .simp at h
  ·-- copy
   rename_i cH;split at h
   .rename_i t t' x y pU gW;split at h
    .rename_i tj;subst tj;split at h
     .rename_i ti ht;split at h
      .rename_i c u' hc;simp only[j5,Act.val.injEq]at h;obtain⟨_,rfl,rfl⟩:=h;obtain⟨v',w',aS,dB,dH⟩:=jyP (ty:=o.type) hT hR bj ht hc (jA (ff hR bn x)) (jA (ff hR bn y));have e1:cl.args = #[x,y]:=by apply ze;simpa using gW
       have e2:cl.argTypes = #[t,t]:=by apply ze;simpa using pU
       refine⟨⟨v',w',S,γ,.inl ?_,dB,dH⟩,rfl⟩;simp[execOp,cj,resolve,cH,invoke,builtin,e1,e2,aS]
      .simp at h
     .simp at h
    .simp at h
   .simp at h
  ·-- clear
   rename_i cH;split at h
   .rename_i t x pU gW;split at h
    .rename_i ti ht;split at h
     .rename_i u' hc;simp only[j5,Act.val.injEq]at h;obtain⟨_,rfl,rfl⟩:=h;obtain⟨v',w',aS,dB⟩:=jxp (ty:=o.type) hT hR bj ht hc (jA (ff hR bn x));have e1:cl.args = #[x]:=by apply ze;simpa using gW
      have e2:cl.argTypes = #[t]:=by apply ze;simpa using pU
      refine⟨⟨v',w',S,γ,.inl ?_,dB,⟨trivial,λh=>absurd rfl h⟩⟩,rfl⟩;simp[execOp,cj,resolve,cH,invoke,builtin,e1,e2,aS]
     .simp at h
    .simp at h
   .simp at h
  .simp at h
 ·-- slice
  rename_i t x lo hi cj;split at h
  .rename_i ti ht;split at h
   .rename_i b c u' hc;simp only[j5,Act.val.injEq]at h;obtain⟨rfl,rfl,rfl⟩:=h
    have ho:∀y:Á ö,ORep (bZ S w γ σ.bx) (y.map λx=>lf ((σ.ev x).cel act)) (y.map a.eval):=by
     intro y;cases y with
     |none=>trivial
     |some y=>exact jA (ff hR bn y)
    obtain⟨v',S',γ',aS,dB,dH⟩:=jxn hT hR bj ht (λk hk=>bj.free hk) hc (jA (ff hR bn x)) (ho lo) (ho hi);refine⟨⟨v',w,S',γ',.inl ?_,dB,dH⟩,rfl⟩;simp[execOp,cj,aS]
   .simp at h
  .simp at h
 ·-- slice with a capacity
  rename_i t x lo hi mx cj;split at h
  .rename_i ti ht;split at h
   .rename_i b hc;simp only[j5,Act.val.injEq]at h;obtain⟨rfl,rfl,rfl⟩:=h
    have ho:∀y:Á ö,ORep (bZ S w γ σ.bx) (y.map λx=>lf ((σ.ev x).cel act)) (y.map a.eval):=by
     intro y;cases y with
     |none=>trivial
     |some y=>exact jA (ff hR bn y)
    obtain⟨v',aS⟩:=jxo hT hR bj ht hc (jA (ff hR bn x)) (ho lo) (ho hi) (jA (ff hR bn mx));refine⟨⟨v',w,S,γ,.inl ?_,hR,⟨trivial,λh=>absurd rfl h⟩⟩,rfl⟩;simp[execOp,cj,aS]
   .simp at h
  .simp at h
 .simp at h
theorem VK{P:À}{E:Env}(hR:Rel N E.np S0 w0 refs σ a w S γ){act:D (H×Ú)}(bn:sJ (tm a) act){rw:H->BS}(pS:RdR σ rw)
  {o:Oper}{f:H}{args:D Arg}{mk:Ret->Á (Slot×Ups)}(h:dU E σ.ev rw act o=G (.call f args mk))(hf:Fun P f){K:Ret->Prop}(gE:H8 P f args K) :
  ∃vals,(execOp a.eval o).run P w = .ok (.enter f vals) w/\
   (Calls P f vals w λe w'=>∃ret,K ret/\∀s u,mk ret=G (s,u)->∃v S' γ',e = .returned v/\Rel N E.np S0 w0 refs (σ.upd u) a w' S' γ'/\iZ S' w' γ' (σ.upd u).bx (tm a) s v)/\
   ∀ret s u,mk ret=G (s,u)->s.bare=true:=by
 have bj:RdOk σ (mskM rw):=pS.msk;have bK:=D9 (np:=E.np) bj;unfold dU at h;dsimp only at h;split at h
 case h_23 cl cj=>
  have fo:=MM hR bn cl.args.toList;split at h
  case h_5 x cH=>
   split at h
   .rename_i g bN hl;split at h
    .rename_i as us fs has;split at h
     .rename_i bX;simp only[j5,Act.call.injEq]at h;obtain⟨rfl,rfl,rfl⟩:=h;have hx:=ff hR bn x;rw[Cm hl smp_]at hx;obtain⟨cv,hu,xK⟩:=hx.1;refine⟨_,jBQ hf cj cH hu,?_,?_⟩
      .have:=jxq hR pS bj bK has fo bX xK gE ((o.dst.getD 0)*64);have e1:(cl.args.toList.map a.eval++cv.toList).toArray=cl.args.map a.eval++cv:=by apply ze;simp
       rwa[e1]at this
      .intro ret s u cP;unfold zL at cP;split at cP
       .unfold mkHd at cP;split at cP
        .split at cP
         .split at cP
          .simp only[j5,j9]at cP;rw[<-cP.1];rfl
          .simp at cP
         .simp at cP
        .simp at cP
       split at cP
       .split at cP
        .split at cP
         .revert cP;dsimp only;split<;>(intro cP;simp only[j5,j9]at cP;rw[<-cP.1];rfl)
         .simp at cP
        .simp at cP
       .simp at cP
     .simp at h
    .simp at h
   .simp at h
  all_goals (first|(simp at h;done)|skip)
  all_goals (exfalso;revert h;try simp only[oE])
  all_goals (repeat' split)
  all_goals simp[Act.leaf]
 all_goals (first|(simp at h;done)|skip)
 all_goals (repeat' (first|(simp at h;done)|split at h))<;>simp_all[oE,oCel,oChk,Act.leaf,Act.cel]
 all_goals (repeat' (split at h))<;>simp_all
end
end Go.Lft
