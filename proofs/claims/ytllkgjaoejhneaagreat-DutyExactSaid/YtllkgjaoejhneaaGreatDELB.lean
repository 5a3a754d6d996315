/- New variables; stores into variables. -/
import Derived.Test.YtllkgjaoejhneaaGreatDELA
import Derived.MapKept
open Option renaming some->D,none->M,isNone_iff_eq_none->æ
open _root_ renaming List->F,Nat->H,Option->Á,Array->È,Bool->Ö
open Go renaming Value->G,Program->À,World->Â,TypeId->Æ,Act->Ü,Operand->û,MapEntry->þ
open Go.Result renaming andThen_ok->I,andThen->Þ
open Go.Sem renaming run_bind->J,run_pure->Ã,run_ite->ú
open List renaming replicate->O,take->W,take_of_length_le->Y,drop->Ë,length->Î,take_append->Ø,take_take->Ý,set_cons_zero->à,getElem?_drop->á,any_cons->ã,getElem?_append_left->ä,getElem_cons_drop->é,any_append->ê,mem_map_of_mem->ñ,range_succ->ü,drop_left'->ý,drop_take->ÿ
open Bool renaming false->U,true->Ä
open Go.Value.slice renaming injEq->Z
open Go.Addr renaming add_lit->Å
open Nat renaming add_mul->Ç,min_eq_left->É,add_zero->ó,one_mul->ù
open Go.Instr renaming buildSlice->Ê,fill->Ñ,build->Ù,findNow->Ú,mapUpdate->Û,sliceAt->å,sameBits->í,storeAt->ï,sameNow->ò,lookup->ô
open Go.Builtin renaming append_->Ì,firstCells->Ó,clear_->ß,copy_->ç,lenOf->ð
open Go.MapKept renaming run_getObj_map->Í,run_findKey->Ò,bytes_beq->è,run_setObj_map->ë,run_checkKey->î
open Array renaming range->Ï,getElem?_modify->ì,toList_push->ø
open Go.World renaming cell?_of_block->Ð,alloc_eq->Ô,ownsRow_nil->Õ,ownsRow_lit->ö
open Iff renaming rfl->â
set_option linter.unusedVariables false
namespace Go.Lft
section
variable {N:NT} {np:H} {S0:j0e} {w0:Â} {refs:Refs} {σ:St} {a:Ü} {w:Â} {S:j0e} {γ:H→G}
def gset (γ:H→G) (n:H) (v:G):H→Value:=fun k=>if k=n then v else γ k
theorem j0l (γ:H→G) (n:H) (v:G):gset γ n v n=v:=by simp [gset]
theorem j0m (γ:H→G) {n k:H} (v:G) (h:k≠n):gset γ n v k=γ k:=by simp [gset,h]
theorem j7c (hR:Rel N np S0 w0 refs σ a w S γ) (o:Obj):j2O S w S (w.alloc o):=
 fun g i h=>⟨h,World.cell?_alloc_lt w o ⟨g,i,M⟩ (hR.here g i h)⟩
theorem j44 {bx:H→BS} {k:H} {b:Bx} (h:j1X S w γ bx k b) {g:H} (hg:blk (γ k)=D g):g<w.heap.size:=by
 cases b with
 | cell ls frz=>obtain ⟨g',cur,e,h1,h2,_⟩:=h;rw [h1] at hg;simp [blk] at hg;subst hg;exact (jn.1 h2).1
 | lst e t xs frz=>
  exact h.1.lt hg
 | arr n t xs=>obtain ⟨g',cur,e,h1,h2,_⟩:=h;rw [h1] at hg;simp [blk] at hg;subst hg;exact (jn.1 h2).1
 | row e t n ls=>
  obtain ⟨_,⟨cs,h1,_⟩,_⟩:=h
  rcases h1.2 with ⟨hn,_⟩ | ⟨g',cap,cur,hv,_,hh,_⟩
  ·rw [hn] at hg;simp [blk] at hg
  ·rw [hv] at hg;simp [blk] at hg;subst hg;exact (jn.1 hh).1
theorem jmb (hR:Rel N np S0 w0 refs σ a w S γ) {n:H} (hn:σ.bx n = .free) {o:Obj} {b:Bx} {v:G} (hv:∀ g,blk v=D g→g=w.heap.size)
  (hb:BxLe γ σ.bx (gset γ n v) (σ.setB n (.live b)).bx→j1X S (w.alloc o) (gset γ n v) (σ.setB n (.live b)).bx n b) :
  Rel N np S0 w0 refs (σ.setB n (.live b)) a (w.alloc o) S (gset γ n v)∧BxLe γ σ.bx (gset γ n v) (σ.setB n (.live b)).bx:=by
 have hle:BxLe γ σ.bx (gset γ n v) (σ.setB n (.live b)).bx:=by
  intro k hk
  have hne:k≠n:=by rintro rfl;exact hk hn
  rw [j09 σ _ hne,j0m γ v hne]
  exact ⟨hk,rfl,fun b hb=>⟨b,hb,.refl b⟩⟩
 have hst:=j7c hR o
 refine ⟨Rel.step (bx':=(σ.setB n (.live b)).bx) hR hst hle ?_ ?_ ?_ hR.new ?_ ?_ ?_ hR.os hR.tape hR.output (fun g hg _ h=>⟨heap_alloc_old w o hg,fun k b' hb' hbk=>by
  by_cases hk:k=n
  ·subst hk
   rw [j0l] at hbk
   have:=hv g hbk;omega
  ·rw [j09 σ _ hk] at hb'
   rw [j0m γ v hk] at hbk
   exact h k b' hb' hbk⟩),hle⟩
 ·intro k b' hb'
  by_cases hk:k=n
  ·subst hk
   rw [j0r] at hb';simp at hb';subst hb'
   exact hb hle
  ·rw [j09 σ _ hk] at hb'
   refine j1X.keep hst hle (j0m γ v hk) (fun g hg=>⟨?_,fun _=>â⟩) (hR.box k b' hb')
   exact heap_alloc_old w o (j44 (hR.box k b' hb') hg)
 ·intro k b' g hb' hg
  by_cases hk:k=n
  ·subst hk
   rw [j0l] at hg
   exact .inl (.inl (by rw [hv g hg];exact hR.grow))
  ·rw [j09 σ _ hk] at hb'
   rw [j0m γ v hk] at hg
   exact hR.own k b' g hb' hg
 ·intro k k' b1 b2 g hne h1 h2 hg hg'
  by_cases hk:k=n
  ·subst hk
   have hk':k'≠k:=fun h=>hne h.symm
   rw [j0l] at hg
   rw [j09 σ _ hk'] at h2
   rw [j0m γ v hk'] at hg'
   have:=j44 (hR.box k' b2 h2) hg'
   rw [hv g hg] at this;omega
  ·by_cases hk':k'=n
   ·subst hk'
    rw [j0l] at hg'
    rw [j09 σ _ hk] at h1
    rw [j0m γ v hk] at hg
    have:=j44 (hR.box k b1 h1) hg
    rw [hv g hg'] at this;omega
   ·rw [j09 σ _ hk] at h1
    rw [j09 σ _ hk'] at h2
    rw [j0m γ v hk] at hg
    rw [j0m γ v hk'] at hg'
    exact hR.apart k k' b1 b2 g hne h1 h2 hg hg'
 ·intro g i h;have:=hR.here g i h;simp;omega
 ·intro g hg hr;rw [heap_alloc_old w o (by have:=hR.grow;omega)];exact hR.below g hg hr
 ·have:=hR.grow;simp;omega
theorem jcm (hR:Rel N np S0 w0 refs σ a w S γ) (o:H):¬ S w.heap.size o:=fun h=>by have:=hR.here _ _ h;omega
theorem jmc (hR:Rel N np S0 w0 refs σ a w S γ) {n:H} (hn:σ.bx n = .free) {ls:F Leaf} {cur:È G} {e:Æ}
  (hl:All2 (j0b S w γ σ.bx) ls cur.toList) (h1:∀ u∈cur.toList,One u) :
  Rel N np S0 w0 refs (σ.setB n (.live (.cell ls U))) a (w.alloc (.cells cur e)) S (gset γ n (.pointer (D ⟨w.heap.size,0,M⟩)))∧
   j0k S (w.alloc (.cells cur e)) (gset γ n (.pointer (D ⟨w.heap.size,0,M⟩))) (σ.setB n (.live (.cell ls U))).bx (.one (.bp n 0)) (.pointer (D ⟨w.heap.size,0,M⟩)):=by
 obtain ⟨h,hle⟩:=jmb hR hn (o:= .cells cur e) (b:= .cell ls U) (v:= .pointer (D ⟨w.heap.size,0,M⟩)) (fun g hg=>by simp [blk] at hg;exact hg.symm) (fun hle=>
  ⟨w.heap.size,cur,e,j0l _ _ _,heap_alloc_new w _,by rw [Y (Nat.le_of_eq hl.length.symm)];exact hl.mono (fun x u hx=>j0b.keep (j7c hR _) hle hx),fun u hu=>h1 u (qp hu),fun _ o=>jcm hR o,smp_⟩)
 refine ⟨h,⟨by rw [j0r];simp,rfl,fun b _=>⟨w.heap.size,j0l _ _ _,rfl⟩⟩,fun _=>rfl⟩
theorem jte (hR:Rel N np S0 w0 refs σ a w S γ) {n m:H} (hn:σ.bx n = .free) {t:Ty} {xs:F t.den} {cur:È G} {e:Æ}
  (hl:Rep S w (.arr m t) xs cur.toList) :
  Rel N np S0 w0 refs (σ.setB n (.live (.arr m t xs))) a (w.alloc (.cells cur e)) S (gset γ n (.pointer (D ⟨w.heap.size,0,M⟩)))∧
   j0k S (w.alloc (.cells cur e)) (gset γ n (.pointer (D ⟨w.heap.size,0,M⟩))) (σ.setB n (.live (.arr m t xs))).bx (.one (.bp n 0)) (.pointer (D ⟨w.heap.size,0,M⟩)):=by
 obtain ⟨h,hle⟩:=jmb hR hn (o:= .cells cur e) (b:= .arr m t xs) (v:= .pointer (D ⟨w.heap.size,0,M⟩)) (fun g hg=>by simp [blk] at hg;exact hg.symm) (fun _=>
  ⟨w.heap.size,cur,e,j0l _ _ _,heap_alloc_new w _,Rep.keep (j7c hR _) _ _ _ hl,fun o=>jcm hR o⟩)
 refine ⟨h,⟨by rw [j0r];simp,rfl,fun b _=>⟨w.heap.size,j0l _ _ _,rfl⟩⟩,fun _=>rfl⟩
theorem j90 {bx:H→BS}:∀ (t:Ty),All2 (j0b S w γ bx) (jgt t) (jci t)
 | .int _=>⟨rfl,trivial⟩
 | .bool=>⟨rfl,trivial⟩
 | .str=>⟨rfl,trivial⟩
 | .unit=>trivial
 | .wrap a=>j90 a
 | .pair a b=>(j90 a).append (j90 b)
 | .list _=>⟨rfl,trivial⟩
 | .arr n a=>by
  show All2 _ ((List.range n).flatMap fun _=>jgt a) ((O n (jci a)).flatten)
  induction n with
  | zero=>simp [All2]
  | succ n ih=>
   rw [ü,List.flatMap_append,List.replicate_succ',yh]
   refine ih.append ?_
   simpa using j90 a
theorem j6S:∀ (t:Ty),Rep S w t t.dflt (jci t)
 | .int _=>rfl
 | .bool=>rfl
 | .str=>rfl
 | .unit=>rfl
 | .wrap a=>j6S a
 | .pair a b=>⟨_,_,rfl,j6S a,j6S b⟩
 | .list _=>⟨M,0,rfl,jz _,by simp [maxLen],fun _=>rfl,fun b hb=>by simp at hb⟩
 | .arr n a=>by
  refine ⟨zw,O n (jci a),?_,rfl⟩
  have hz:=j6S a
  have:∀ n,All2 (fun x c=>Rep S w a x c) (O n a.dflt) (O n (jci a)):=by
   intro n
   induction n with
   | zero=>exact trivial
   | succ n ih=>exact ⟨hz,ih⟩
  exact this n
theorem jcn (hR:Rel N np S0 w0 refs σ a w S γ) {k:H} {b b':Bx} (hk:σ.bx k = .live b) {g:H} (hg:blk (γ k)=D g) (hS:∀ o,¬ S g o) (hsh:j1Y b b')
  {old new:È G} {e:Æ} (hh:w.heap[g]? = D (.cells old e (0,0)))
  (hb:BxLe γ σ.bx γ (σ.setB k (.live b')).bx→j2O S w S (w.setRow g new)→j1X S (w.setRow g new) γ (σ.setB k (.live b')).bx k b') :
  Rel N np S0 w0 refs (σ.setB k (.live b')) a (w.setRow g new) S γ:=by
 have hle:BxLe γ σ.bx γ (σ.setB k (.live b')).bx:=by
  intro k' hk'
  by_cases hkk:k'=k
  ·subst hkk
   rw [j0r]
   exact ⟨smp_,rfl,fun b1 hb1=>by simp at hb1;subst hb1;exact ⟨b,hk,hsh⟩⟩
  ·rw [j09 σ _ hkk]
   exact ⟨hk',rfl,fun b hb=>⟨b,hb,.refl b⟩⟩
 have hst:j2O S w S (w.setRow g new):=by
  intro g' o h
  refine ⟨h,cell_setRow_other w g new ⟨g',o,M⟩ ?_⟩
  rintro rfl
  exact hS o h
 have live':∀ k' b1,(σ.setB k (.live b')).bx k' = .live b1→∃ b2,σ.bx k' = .live b2:=by
  intro k' b1 h1
  by_cases hkk:k'=k
  ·subst hkk;exact ⟨b,hk⟩
  ·rw [j09 σ _ hkk] at h1;exact ⟨b1,h1⟩
 have hlt:=(jn.1 hh).1
 refine Rel.step (bx':=(σ.setB k (.live b')).bx) hR hst hle ?_ ?_ ?_ hR.new ?_ ?_ ?_ hR.os hR.tape hR.output (fun g' _ _ h=>⟨setRow_other w g g' new (fun e=>h k b hk (e▸hg)),fun k' b1 h1=>by
  obtain ⟨b2,h2⟩:=live' k' b1 h1
  exact h k' b2 h2⟩)
 ·intro k' b1 h1
  by_cases hkk:k'=k
  ·subst hkk
   rw [j0r] at h1;simp at h1;subst h1
   exact hb hle hst
  ·rw [j09 σ _ hkk] at h1
   refine j1X.keep hst hle rfl (fun g' hg'=>⟨?_,fun _=>â⟩) (hR.box k' b1 h1)
   exact setRow_other w g g' new (fun h=>hR.apart k' k b1 b g hkk h1 hk (h▸hg') hg)
 ·intro k' b1 g' h1 hg'
  obtain ⟨b2,h2⟩:=live' k' b1 h1
  exact hR.own k' b2 g' h2 hg'
 ·intro k1 k2 b1 b2 g' hne h1 h2 hg'
  obtain ⟨b1',h1'⟩:=live' k1 b1 h1
  obtain ⟨b2',h2'⟩:=live' k2 b2 h2
  exact hR.apart k1 k2 b1' b2' g' hne h1' h2' hg'
 ·intro g' o h;rw [size_setRow];exact hR.here g' o h
 ·intro g' hg' hr
  rw [setRow_other w g g' new ?_]
  ·exact hR.below g' hg' hr
  ·rintro rfl
   rcases hR.own k b _ hk hg with h | h
   ·exact h.no omg_ hr
   ·exact hr h.1
 ·rw [size_setRow];exact hR.grow
theorem jco {R:Leaf→G→Prop} {ls new:F Leaf} {cs zs:F G} {c:H} (h:All2 R ls cs) (h':All2 R new zs) :
  All2 R (jcd ls c new) (cs.take c++zs++cs.drop (c+zs.length)):=by
 unfold jcd
 rw [h'.length]
 exact ((h.take c).append h').append (h.drop _)
theorem jfK {X zs:F G} {c n:H} (h:c+zs.length≤n) (h':n≤X.length):(X.take c++zs++X.drop (c+zs.length)).take n=(X.take n).take c++zs++(X.take n).drop (c+zs.length):=by
 have e1:(X.take n).take c=X.take c:=by rw [Ý,É omg_]
 have e2:(X.take c++zs).length=c+zs.length:=sqo_
 rw [e1,Ø,Y (by rw [e2];exact h),e2,ÿ]
theorem jlm {bx:H→BS} {b:Ty}:∀ {ys:F (F b.den)} {css:F (F G)},All2 (fun x c=>Rep S w (.list b) x c) ys css→All2 (j0b S w γ bx) (ys.map fun y=> .d (.list b) y) css.flatten
 | [],[],_=>trivial
 | [],_::_,h=>h.elim
 | _::_,[],h=>h.elim
 | y::ys,c::css,h=>by
  have h1:Rep S w (.list b) y c:=h.1
  have h2:c.length=1:=Rep.length _ _ _ h1
  match c,h2 with
  | [v],_=>exact ⟨h1,jlm h.2⟩
theorem jln {α β:Type} (f:α→β) (d:α) (ys:F α):((List.range ys.length).map fun i=>f (List.getD ys i d))=ys.map f:=by
 refine List.ext_getElem smp_ fun i h1 h2=> ?_
 have h3:i<ys.length:=by simpa using h2
 simp [List.getD,h3]
theorem j8l {bx:H→BS} {c:Cel} {ls:F Leaf} {z:G} (h:c.leaves=D ls) (hc:j0k S w γ bx c z) :
  All2 (j0b S w γ bx) ls z.cells.toList∧∀ u∈z.cells.toList,One u:=by
 unfold Cel.leaves at h
 split at h
 ·simp at h
 ·rename_i l hd
  simp at h;subst h
  have h1:=hc.2 hd
  rw [jcl h1]
  exact ⟨⟨hc.1,trivial⟩,fun u hu=>by simp at hu;subst hu;exact h1⟩
 ·simp at h;subst h
  obtain ⟨cs,rfl,ha,h1⟩:=hc
  exact ⟨ha,h1⟩
 ·rename_i n b ys
  simp only [jb] at h
  obtain ⟨cs,rfl,hn,css,ha,hcs⟩:=hc
  have h0:Î ys=n:=hn
  subst h0
  have e:ls=ys.map fun y=> .d (.list b) y:=h.symm.trans (jln (fun y:F b.den=>Leaf.d (.list b) y) [] ys)
  have e2:(Value.agg cs).cells.toList=cs.toList:=rfl
  rw [e,e2]
  refine ⟨?_,Rep.one (.arr _ (.list b)) ys cs.toList ⟨rfl,css,ha,hcs⟩⟩
  rw [hcs]
  exact jlm ha
 ·simp at h
end
theorem jd3 {m:H}:∀ {l:F (F G)},(∀ c∈l,c.length=m)→l.flatten.length=l.length*m
 | [],_=>smp_
 | c::l,h=>by
  have h1:=h c smp_
  have h2:=jd3 (l:=l) (fun d hd=>h d (z6 _ hd))
  simp only [kx,jo,jp,Ç,ù];omega
section
variable {N:NT} {np:H} {S0:j0e} {w0:Â} {refs:Refs} {σ:St} {a:Ü} {w:Â} {S:j0e} {γ:H→G}
theorem j1R:∀ (u:Ups) (σ:St) {k:H},u.any (fun y=>y.1==k)=U→(σ.upd u).bx k=σ.bx k
 | [],_,_,_=>rfl
 | e::u,σ,k,h=>by
  simp only [ã,vf,beq_eq_false_iff_ne] at h
  show ((σ.setB e.1 e.2).upd u).bx k=_
  rw [j1R u _ h.2,j09 σ _ (fun hh=>h.1 hh.symm)]
theorem All2.all_len {t:Ty} {xs:F t.den} {css:F (F G)} (h:All2 (fun x c=>Rep S w t x c) xs css):∀ c∈css,c.length=t.size:=by
 intro c hc
 obtain ⟨x,_,hx⟩:=h.mem_right c hc
 exact Rep.length _ _ _ hx
theorem jpy {cur:F G} {css:F (F G)} {m n i c:H} {ci zs:F G} (hm:∀ c∈css,c.length=m) (hn:css.length=n) (hcur:cur.take (n*m)=css.flatten)
  (hi:css[i]? = D ci) (hc:c+zs.length≤m) :
  (cur.take (i*m+c)++zs++cur.drop (i*m+c+zs.length)).take (n*m)=(css.set i (ci.take c++zs++ci.drop (c+zs.length))).flatten:=by
 have hlt:i<css.length:=(kb.1 hi).1
 have hci:css[i]=ci:=(kb.1 hi).2
 have hcl:ci.length=m:=hm ci (ki hi)
 obtain ⟨A,B,hA,hB,hAB⟩:∃ A B:F (F G),A.length=i∧A.length+1+B.length=n∧css=A++ci::B:=by
  refine ⟨css.take i,css.drop (i+1),sqo_,sqo_,?_⟩
  rw [←hci,é hlt,qv]
 have hmA:∀ c∈A,c.length=m:=fun d hd=>hm d (by rw [hAB];simp [hd])
 have hmB:∀ c∈B,c.length=m:=fun d hd=>hm d (by rw [hAB];simp [hd])
 have lA:A.flatten.length=i*m:=by rw [jd3 hmA,hA]
 have lB:=jd3 hmB
 have hset:css.set i (ci.take c++zs++ci.drop (c+zs.length))=A++(ci.take c++zs++ci.drop (c+zs.length))::B:=by
  rw [hAB,vv _ _ omg_,hA,Nat.sub_self,à]
 have hdec:cur=A.flatten++(ci++(B.flatten++cur.drop (n*m))):=by
  have:=qv (n*m) cur
  rw [hcur,hAB,yh,kx] at this
  rw [←jr ci,←jr]
  exact this.symm
 have hsp:ci=ci.take c++((ci.drop c).take zs.length++ci.drop (c+zs.length)):=by
  have h1:=qv c ci
  have h2:=qv zs.length (ci.drop c)
  rw [List.drop_drop] at h2
  rw [h2,h1]
 have lp:(ci.take c).length=c:=sqo_
 have lq:((ci.drop c).take zs.length).length=zs.length:=sqo_
 have lr:(ci.drop (c+zs.length)).length=m-(c+zs.length):=by simp [hcl]
 generalize ci.take c=p at *
 generalize (ci.drop c).take zs.length=q at *
 generalize ci.drop (c+zs.length)=r at *
 generalize cur.drop (n*m)=tl at *
 have e1:cur.take (i*m+c)=A.flatten++p:=by
  rw [hdec,hsp]
  simp only [←jr]
  rw [jr,jr,jr]
  exact yj (by simp [lA,lp])
 have e2:cur.drop (i*m+c+zs.length)=r++(B.flatten++tl):=by
  rw [hdec,hsp]
  have:A.flatten++(p++(q++r)++(B.flatten++tl))=(A.flatten++p++q)++(r++(B.flatten++tl)):=smp_
  rw [this]
  exact ý (by simp [lA,lp,lq];omega)
 rw [e1,e2,hset,yh,kx]
 have:A.flatten++p++zs++(r++(B.flatten++tl))=(A.flatten++(p++zs++r++B.flatten))++tl:=smp_
 rw [this]
 refine yj ?_
 simp only [jo,lA,lp,lr,lB]
 have:n*m=i*m+m+B.length*m:=by
  rw [←hB,hA,Ç,Ç,ù]
 omega
theorem jan {P:À} {T:H→Á TyI} (hT:j1Q P T) {t:Æ} {ti:TyI} (ht:T t=D ti) {g o:H} {z:G} {cur:È G} {e:Æ}
  (hh:w.heap[g]? = D (.cells cur e (0,0))) (hs:z.cells.toList.length=ti.size) (hl:o+z.cells.toList.length≤cur.size) (h1:∀ u∈z.cells.toList,One u) :
  (ï t (.pointer (D ⟨g,o,M⟩)) z).run P w = .ok () (w.setRow g (cur.toList.take o++z.cells.toList++cur.toList.drop (o+z.cells.toList.length)).toArray):=by
 have hst:=run_storeCells_at P g o e z.cells.toList 0 cur w hh (by simpa using hl) h1
 simp only [ó] at hst
 have hne:¬ z.cells.size≠ti.size:=by simpa using hs
 simp only [ï,J,Instr.sureAddr,Ã,I,storeVar,j29 hT ht,ú,if_neg hne,hst]
theorem jrY {P:À} {E:Env} (hT:j1Q P E.T) (hR:Rel N np S0 w0 refs σ a w S γ) {rd rdf:H→BS} (hrd:RdOk σ rd) (hrdf:RdF np σ rdf) {t:Æ} {ti:TyI} (ht:E.T t=D ti)
  {x:Leaf} {val:Cel} {u:Ups} {ux z:G} (h:jib rd rdf ti.size val x=D u) (hx:j0b S w γ σ.bx x ux) (hz:j0k S w γ σ.bx val z) :
  ∃ w' S',(ï t ux z).run P w = .ok () w'∧Rel N np S0 w0 refs (σ.upd u) a w' S' γ:=by
 unfold jib at h
 split at h
 ·rename_i k c
  split at h
  ·rename_i ls hk
   have hk:=hrd.live hk
   split at h
   ·rename_i new hnew
    split at h
    ·rename_i hc
     simp only [jb] at h
     subst h
     obtain ⟨hsz,hle⟩:=hc
     obtain ⟨ha,h1⟩:=j8l hnew hz
     obtain ⟨g,hg,hu⟩:=hx.2.2 _ hk
     obtain ⟨g',cur,e,hg',hh,hcur,hc1,hS,_⟩:=hR.box k _ hk
     rw [hg] at hg';simp at hg';subst hg'
     subst hu
     have hlen:=ha.length
     have hlc:=hcur.length
     simp at hlc
     refine ⟨_,S,jan hT ht hh omg_ (by simp at hlen ⊢;omega) h1,?_⟩
     refine jcn hR hk (by rw [hg];rfl) (hS rfl) (b':= .cell (jcd ls c new) U) trivial hh (fun hle hst=> ?_)
     refine ⟨g,_,e,hg,setRow_heap w g cur _ e (0,0) hh,?_,?_,fun _=>hS rfl,smp_⟩
     ·have:=jco (c:=c) (hcur.mono (fun x u hx=>j0b.keep hst hle hx)) (ha.mono (fun x u hx=>j0b.keep hst hle hx))
      have hsl:(jcd ls c new).length=ls.length:=by simp [jcd];omega
      rw [hsl]
      have:=jfK (X:=cur.toList) (zs:=z.cells.toList) (c:=c) (n:=ls.length) omg_ sqo_
      simp only [this]
      assumption
     ·intro v hv
      have hsl:(jcd ls c new).length=ls.length:=by simp [jcd];omega
      rw [hsl] at hv
      have hst':=jfK (X:=cur.toList) (zs:=z.cells.toList) (c:=c) (n:=ls.length) omg_ sqo_
      simp only [hst'] at hv
      simp only [js] at hv
      rcases hv with (hv | hv) | hv
      ·exact hc1 v (qp hv)
      ·exact h1 v hv
      ·exact hc1 v (zk hv)
    ·simp at h
   ·simp at h
  ·rename_i n el xs hk
   have hk:=hrd.live hk
   split at h
   ·rename_i hc0
    subst hc0
    split at h
    ·rename_i n' a' ys
     split at h
     ·rename_i ys' hto
      split at h
      ·rename_i hsz
       simp only [jb] at h
       subst h
       have hto':=jfh hto
       simp only [TV.mk.injEq,Ty.arr.injEq] at hto'
       obtain ⟨⟨rfl,rfl⟩,hto'⟩:=hto'
       obtain rfl:=eq_of_heq hto'
       obtain ⟨cs,rfl,hr⟩:=hz
       obtain ⟨g,hg,hu⟩:=hx.2.2 _ hk
       obtain ⟨g',cur,e,hg',hh,hrep,hS⟩:=hR.box k _ hk
       rw [hg] at hg';simp at hg';subst hg'
       subst hu
       have hl1:=Rep.length _ _ _ hr
       have hl2:=Rep.length _ _ _ hrep
       have e1:(Value.agg cs).cells.toList=cs.toList:=rfl
       refine ⟨_,S,jan hT ht hh (by rw [e1,hl1,hsz];rfl) (by rw [e1,hl1,←hl2];simp) (by rw [e1];exact Rep.one _ _ _ hr),?_⟩
       refine jcn hR hk (by rw [hg];rfl) hS (b':= .arr _ _ _) ⟨rfl,rfl⟩ hh (fun hle hst=> ?_)
       refine ⟨g,_,e,hg,setRow_heap w g cur _ e (0,0) hh,?_,hS⟩
       have hd:cur.toList.drop (0+cs.toList.length)=[]:=jj (by rw [hl1,hl2];omega)
       have hX:(cur.toList.take 0++(Value.agg cs).cells.toList++cur.toList.drop (0+(Value.agg cs).cells.toList.length)).toArray.toList=cs.toList:=by
        rw [e1,hd];simp
       rw [hX]
       exact Rep.keep hst _ _ _ hr
      ·simp at h
     ·simp at h
    ·simp at h
   ·simp at h
  ·simp at h
 ·rename_i k i c
  split at h
  ·rename_i el at_ xs hk
   have hnm:=hrd.nm hk
   have hk:=hrd.live hk
   split at h
   ·rename_i new hnew
    split at h
    ·rename_i hc
     obtain ⟨hsz,hle⟩:=hc
     split at h
     ·rename_i en u1 hga
      split at h
      ·simp at h
      ·rename_i hnk
       simp only [jb] at h
       subst h
       obtain ⟨ha,h1⟩:=j8l hnew hz
       have hlen:=ha.length
       have hzz:z.cells.toList.length=z.cells.size:=q8
       obtain ⟨_,hi,g,cap,hg,hu⟩:=hx.2.2 _ hk
       obtain ⟨css,hown,hall,hSk⟩:=j5B hnm (hR.box k _ hk)
       rcases hown.2 with ⟨_,h0⟩ | ⟨g',cap',cur,hg',hb0,hh,hnc,hcm,hcs,htake⟩
       ·omega
       rw [hg] at hg';simp at hg';obtain ⟨rfl,rfl⟩:=hg'
       subst hu
       obtain ⟨ci,hci,hrep,hcell⟩:=jfJ (fun x c hx=>Rep.length at_ x c hx) hall i at_.dflt hi
       have hcl:=Rep.length _ _ _ hrep
       have hsp:=jco (c:=c) (j7z (j6b at_ _ ci hrep)) ha
       obtain ⟨hf,he,hp⟩:=jbf hrdf hR.box at_ hga hsp
       obtain ⟨S1,hR1,hst1,hfz,hsame⟩:=j2B u1 σ S hR hf
       have hk1:(σ.upd u1).bx k = .live (.lst el at_ xs U):=by rw [j1R u1 σ (qo.2 hnk)];exact hk
       obtain ⟨css1,hown1,hall1,hS1⟩:=j5B hnm (hR1.box k _ hk1)
       have hnS:∀ o,¬ S1 g o:=(hS1 g (by rw [hg];rfl)).1 rfl
       have him:i*at_.size+at_.size≤xs.length*at_.size:=by
        have:(i+1)*at_.size≤xs.length*at_.size:=kf _ omg_
        rwa [ve] at this
       have hmc:xs.length*at_.size≤cap*at_.size:=kf _ hnc
       have hzl:c+z.cells.toList.length≤at_.size:=omg_
       refine ⟨_,S1,jan hT ht hh omg_ (by rw [hcs];omega) h1,?_⟩
       rw [j3O]
       refine jcn hR1 hk1 (by rw [hg];rfl) hnS (b':= .lst el at_ (xs.set i en) U) ⟨rfl,rfl,fun _=>smp_⟩ hh (fun hle2 hst2=> ?_)
       have hnewc:Rep S1 w at_ en (ci.take c++z.cells.toList++ci.drop (c+z.cells.toList.length)):=by
        have:=hp S1 w hst1 hfz
        rwa [Y sqo_] at this
       refine jhy hnm ⟨css.set i (ci.take c++z.cells.toList++ci.drop (c+z.cells.toList.length)),⟨?_,.inr ⟨g,cap,_,?_,kq _,setRow_heap w g cur _ el (0,0) hh,by simpa using hnc,hcm,?_,?_⟩⟩,?_,fun g' hg'=> ?_⟩
       ·rw [jd3 (m:=at_.size)]
        ·simp [hall.length]
        ·intro d hd
         rcases List.mem_or_eq_of_mem_set hd with hd | rfl
         ·exact All2.all_len hall d hd
         ·simp;omega
       ·simpa using hg
       ·simp only [y9,jo,qq,qz,q8];omega
       ·simp only [zt]
        exact jpy (All2.all_len hall) hall.length.symm htake hci hzl
       ·exact (hall.mono (fun x c hx=>Rep.keep (hst1.trans hst2) _ _ _ hx)).set i _ _ (Rep.keep hst2 _ _ _ hnewc)
       ·rw [hg] at hg';simp [blk] at hg';subst hg'
        exact ⟨fun _=>hnS,smp_⟩
     ·simp at h
    ·simp at h
   ·simp at h
  ·rename_i n at_ xs hk
   have hk:=hrd.live hk
   split at h
   ·rename_i new hnew
    split at h
    ·rename_i hc
     obtain ⟨hsz,hle⟩:=hc
     split at h
     ·rename_i en u1 hga
      split at h
      ·simp at h
      ·rename_i hnk
       simp only [jb] at h
       subst h
       obtain ⟨ha,h1⟩:=j8l hnew hz
       have hlen:=ha.length
       have hzz:z.cells.toList.length=z.cells.size:=q8
       obtain ⟨hi,g,hg,hu⟩:=hx.2.2 _ hk
       obtain ⟨g',cur,e,hg',hh,⟨hn,css,hall,hcur⟩,hS⟩:=hR.box k _ hk
       rw [hg] at hg';simp at hg';subst hg'
       subst hu
       obtain ⟨ci,hci,hrep,hcell⟩:=jfJ (fun x c hx=>Rep.length at_ x c hx) hall i at_.dflt omg_
       have hcl:=Rep.length _ _ _ hrep
       have hsp:=jco (c:=c) (j7z (j6b at_ _ ci hrep)) ha
       obtain ⟨hf,he,hp⟩:=jbf hrdf hR.box at_ hga hsp
       obtain ⟨S1,hR1,hst1,hfz,hsame⟩:=j2B u1 σ S hR hf
       have hk1:(σ.upd u1).bx k = .live (.arr n at_ xs):=by rw [j1R u1 σ (qo.2 hnk)];exact hk
       obtain ⟨g1,cur1,e1,hg1,hh1,_,hnS⟩:=hR1.box k _ hk1
       rw [hg] at hg1;simp at hg1;subst hg1
       have hcl2:cur.toList.length=n*at_.size:=by rw [hcur,jd3 (All2.all_len hall),←hall.length,hn]
       have him:i*at_.size+at_.size≤n*at_.size:=by
        have:(i+1)*at_.size≤n*at_.size:=kf _ omg_
        rwa [ve] at this
       have hzl:c+z.cells.toList.length≤at_.size:=omg_
       refine ⟨_,S1,jan hT ht hh omg_ (by rw [←q8,hcl2];omega) h1,?_⟩
       rw [j3O]
       refine jcn hR1 hk1 (by rw [hg];rfl) hnS (b':= .arr n at_ (xs.set i en)) ⟨rfl,rfl⟩ hh (fun hle2 hst2=> ?_)
       have hnewc:Rep S1 w at_ en (ci.take c++z.cells.toList++ci.drop (c+z.cells.toList.length)):=by
        have:=hp S1 w hst1 hfz
        rwa [Y sqo_] at this
       refine ⟨g,_,e,hg,setRow_heap w g cur _ e (0,0) hh,⟨?_,css.set i (ci.take c++z.cells.toList++ci.drop (c+z.cells.toList.length)),?_,?_⟩,hnS⟩
       ·show Î (List.set xs i en)=n
        rw [zt];exact hn
       ·exact (hall.mono (fun x c hx=>Rep.keep (hst1.trans hst2) _ _ _ hx)).set i _ _ (Rep.keep hst2 _ _ _ hnewc)
       ·have hrs:=jpy (cur:=cur.toList) (n:=n) (zs:=z.cells.toList) (All2.all_len hall) (by rw [←hall.length,hn]) (by rw [←hcl2,List.take_length,hcur]) hci hzl
        rw [←hrs]
        symm
        refine (Y ?_).trans smp_
        simp only [jo,qq,qz];omega
     ·simp at h
    ·simp at h
   ·simp at h
  ·rename_i e0 el n ls hk
   have hk:=hrd.live hk
   split at h
   ·rename_i new hnew
    split at h
    ·rename_i hc
     simp only [jb] at h
     subst h
     obtain ⟨hsz,hle⟩:=hc
     obtain ⟨ha,h1⟩:=j8l hnew hz
     have hlen:=ha.length
     have hzz:z.cells.toList.length=z.cells.size:=q8
     obtain ⟨_,hi,g,cap,hg,hu⟩:=hx.2.2 _ hk
     obtain ⟨hnm,⟨cs,hown,hall,h1s⟩,hS⟩:=hR.box k _ hk
     rcases hown.2 with ⟨_,h0⟩ | ⟨g',cap',cur,hg',hb0,hh,hnc,hcm,hcs,htake⟩
     ·omega
     rw [hg] at hg';simp at hg';obtain ⟨rfl,rfl⟩:=hg'
     subst hu
     have him:i*el.size+el.size≤n*el.size:=by
      have:(i+1)*el.size≤n*el.size:=kf _ omg_
      rwa [ve] at this
     have hmc:n*el.size≤cap*el.size:=kf _ hnc
     have hcl:cur.toList.length=cap*el.size:=by rw [q8,hcs]
     have hlcs:cs.length=n*el.size:=hown.1
     have hsp:=jfK (X:=cur.toList) (zs:=z.cells.toList) (c:=i*el.size+c) (n:=n*el.size) omg_ omg_
     refine ⟨_,S,jan hT ht hh omg_ (by rw [hcs];omega) h1,?_⟩
     refine jcn hR hk (by rw [hg];rfl) (hS g (by rw [hg];rfl)) (b':= .row e0 el n (jcd ls (i*el.size+c) new)) ⟨rfl,rfl,rfl⟩ hh (fun hle2 hst2=> ?_)
     refine ⟨hnm,⟨cs.take (i*el.size+c)++z.cells.toList++cs.drop (i*el.size+c+z.cells.toList.length),⟨?_,.inr ⟨g,cap,_,hg,kq _,setRow_heap w g cur _ e0 (0,0) hh,hnc,hcm,?_,?_⟩⟩,?_,?_⟩,fun g' hg'=>hS g' hg'⟩
     ·simp only [jo,qq,qz];omega
     ·simp only [y9,jo,qq,qz];omega
     ·show W _ (_++_++_)=_
      rw [hsp,htake]
     ·exact jco (hall.mono (fun x u hx=>j0b.keep hst2 hle2 hx)) (ha.mono (fun x u hx=>j0b.keep hst2 hle2 hx))
     ·intro v hv
      simp only [js] at hv
      rcases hv with (hv | hv) | hv
      ·exact h1s v (qp hv)
      ·exact h1 v hv
      ·exact h1s v (zk hv)
    ·simp at h
   ·simp at h
  ·simp at h
 ·simp at h
end
theorem j91 {m:H}:∀ {l:F (F G)} (i:H),(∀ c∈l,c.length=m)→(l.take i).flatten=l.flatten.take (i*m)
 | [],i,_=>smp_
 | c::l,0,_=>smp_
 | c::l,i+1,h=>by
  have hc:=h c smp_
  have ih:=j91 (l:=l) i (fun d hd=>h d (by simp [hd]))
  rw [List.take_succ_cons,kx,ih,kx,ve,Nat.add_comm,Ø,hc]
  rw [Y (l:=c) omg_,show m+i*m-m=i*m by omega]
theorem jel {m:H}:∀ {l:F (F G)} (i:H),(∀ c∈l,c.length=m)→(l.drop i).flatten=l.flatten.drop (i*m)
 | [],i,_=>smp_
 | c::l,0,_=>smp_
 | c::l,i+1,h=>by
  have hc:=h c smp_
  have ih:=jel (l:=l) i (fun d hd=>h d (by simp [hd]))
  rw [List.drop_succ_cons,ih,kx,ve,Nat.add_comm,List.drop_append,hc]
  rw [jj (l:=c) omg_,kg,show m+i*m-m=i*m by omega]
section
variable {N:NT} {np:H} {S0:j0e} {w0:Â} {refs:Refs} {σ:St} {a:Ü} {w:Â} {S:j0e} {γ:H→G}
theorem jeW (hR:Rel N np S0 w0 refs σ a w S γ) {k:H} {b:Bx} (hk:σ.bx k = .live b):Rel N np S0 w0 refs (σ.setB k .gone) a w S γ:=by
 have hle:BxLe γ σ.bx γ (σ.setB k .gone).bx:=by
  intro k' hk'
  by_cases hkk:k'=k
  ·subst hkk;rw [j0r];exact ⟨smp_,rfl,fun b hb=>by simp at hb⟩
  ·rw [j09 σ _ hkk];exact ⟨hk',rfl,fun b hb=>⟨b,hb,.refl b⟩⟩
 have live':∀ k' b1,(σ.setB k .gone).bx k' = .live b1→σ.bx k' = .live b1:=by
  intro k' b1 h1
  by_cases hkk:k'=k
  ·subst hkk;rw [j0r] at h1;simp at h1
  ·rwa [j09 σ _ hkk] at h1
 exact Rel.step (bx':=(σ.setB k .gone).bx) hR (.refl S w) hle (fun k' b' h=>j1X.keep (.refl S w) hle rfl (fun _ _=>⟨rfl,fun _=>â⟩) (hR.box k' b' (live' k' b' h)))
  (fun k' b' g h=>hR.own k' b' g (live' k' b' h)) (fun k1 k2 b1 b2 g hne h1 h2=>hR.apart k1 k2 b1 b2 g hne (live' _ _ h1) (live' _ _ h2)) hR.new hR.here hR.below hR.grow hR.os hR.tape hR.output
  (fun g _ _ h=>⟨rfl,fun k' b' hb'=>h k' b' (live' k' b' hb')⟩)
theorem jxN (hR:Rel N np S0 w0 refs σ a w S γ) {d:H} (hd:σ.bx d = .free) {w':Â} {v':G} {b:Bx}
  (hst:j2O S w S w') (hheap:∀ g,g<w.heap.size→blk v'≠D g→w'.heap[g]? = w.heap[g]?) (hsz:w.heap.size≤w'.heap.size)
  (hv:∀ g,blk v'=D g→Own w0 refs g∧(∀ k b,σ.bx k = .live b→blk (γ k)≠D g)∧g<w'.heap.size)
  (os:w'.os=w.os) (tape:w'.tape=w.tape) (output:w'.output=w.output)
  (hb:BxLe γ σ.bx (gset γ d v') (σ.setB d (.live b)).bx→j1X S w' (gset γ d v') (σ.setB d (.live b)).bx d b) (hkw:∀ g,blk v'=D g→refs.kw g=M) :
  Rel N np S0 w0 refs (σ.setB d (.live b)) a w' S (gset γ d v')∧BxLe γ σ.bx (gset γ d v') (σ.setB d (.live b)).bx:=by
 have hle:BxLe γ σ.bx (gset γ d v') (σ.setB d (.live b)).bx:=by
  intro k hk
  have hne:k≠d:=by rintro rfl;exact hk hd
  rw [j09 σ _ hne,j0m γ v' hne]
  exact ⟨hk,rfl,fun b hb=>⟨b,hb,.refl b⟩⟩
 refine ⟨Rel.step (bx':=(σ.setB d (.live b)).bx) hR hst hle ?_ ?_ ?_ hR.new ?_ ?_ (q7 hR.grow hsz) (os.trans hR.os) (tape.trans hR.tape) (output.trans hR.output) (fun g hg hkn h=>⟨hheap g hg (fun hh=>hkn (hkw g hh)),fun k b' hb' hbk=>by
  by_cases hk:k=d
  ·subst hk
   rw [j0l] at hbk
   exact hkn (hkw g hbk)
  ·rw [j09 σ _ hk] at hb'
   rw [j0m γ v' hk] at hbk
   exact h k b' hb' hbk⟩),hle⟩
 ·intro k b' hb'
  by_cases hk:k=d
  ·subst hk
   rw [j0r] at hb';simp at hb';subst hb'
   exact hb hle
  ·rw [j09 σ _ hk] at hb'
   refine j1X.keep hst hle (j0m γ v' hk) (fun g hg=>⟨?_,fun _=>â⟩) (hR.box k b' hb')
   exact hheap g (j44 (hR.box k b' hb') hg) (fun hh=>(hv g hh).2.1 k b' hb' hg)
 ·intro k b' g hb' hg
  by_cases hk:k=d
  ·subst hk;rw [j0l] at hg;exact .inl (hv g hg).1
  ·rw [j09 σ _ hk] at hb';rw [j0m γ v' hk] at hg;exact hR.own k b' g hb' hg
 ·intro k k' b1 b2 g hne h1 h2 hg hg'
  by_cases hk:k=d
  ·subst hk
   have hk':k'≠k:=fun h=>hne h.symm
   rw [j0l] at hg
   rw [j09 σ _ hk'] at h2
   rw [j0m γ v' hk'] at hg'
   exact (hv g hg).2.1 k' b2 h2 hg'
  ·by_cases hk':k'=d
   ·subst hk'
    rw [j0l] at hg'
    rw [j09 σ _ hk] at h1
    rw [j0m γ v' hk] at hg
    exact (hv g hg').2.1 k b1 h1 hg
   ·rw [j09 σ _ hk] at h1
    rw [j09 σ _ hk'] at h2
    rw [j0m γ v' hk] at hg
    rw [j0m γ v' hk'] at hg'
    exact hR.apart k k' b1 b2 g hne h1 h2 hg hg'
 ·intro g o hs
  have:=hR.here g o hs;omega
 ·intro g hg hr
  by_cases hb:blk v'=D g
  ·exact ((hv g hb).1.no hg hr).elim
  ·rw [hheap g (by have:=hR.grow;omega) hb];exact hR.below g hg hr
theorem jeX (hR:Rel N np S0 w0 refs σ a w S γ) {d:H} (hd:σ.bx d = .free) {w':Â} {S':j0e} {v':G} {e:H} (hm:isM e=U) {el:Ty} {zs:F el.den} {frz:Ö} {css:F (F G)}
  (hst:j2O S w S' w') (hheap:∀ g,g<w.heap.size→blk v'≠D g→w'.heap[g]? = w.heap[g]?) (hsz:w.heap.size≤w'.heap.size)
  (hv:∀ g,blk v'=D g→Own w0 refs g∧(∀ k b,σ.bx k = .live b→blk (γ k)≠D g)∧g<w'.heap.size)
  (hS:∀ g o,S' g o→S g o∨blk v'=D g) (os:w'.os=w.os) (tape:w'.tape=w.tape) (output:w'.output=w.output)
  (hrow:w'.ownsRow 0 e el.size v' zs.length css.flatten) (hall:All2 (fun x c=>Rep S' w' el x c) zs css)
  (hfrz:∀ g,blk v'=D g→(frz=U→∀ o,¬ S' g o)∧(frz=Ä→∀ o,S' g o↔o<zs.length*el.size)) (hkw:∀ g,blk v'=D g→refs.kw g=M) :
  Rel N np S0 w0 refs (σ.setB d (.live (.lst e el zs frz))) a w' S' (gset γ d v')∧
   j0k S' w' (gset γ d v') (σ.setB d (.live (.lst e el zs frz))).bx (.one (.ol d)) v':=by
 have hle:BxLe γ σ.bx (gset γ d v') (σ.setB d (.live (.lst e el zs frz))).bx:=by
  intro k hk
  have hne:k≠d:=by rintro rfl;exact hk hd
  rw [j09 σ _ hne,j0m γ v' hne]
  exact ⟨hk,rfl,fun b hb=>⟨b,hb,.refl b⟩⟩
 have hone:One v':=by
  rcases hrow.2 with ⟨rfl,_⟩ | ⟨g,cap,cur,rfl,_⟩<;>rfl
 refine ⟨Rel.step (bx':=(σ.setB d (.live (.lst e el zs frz))).bx) hR hst hle ?_ ?_ ?_ ?_ ?_ ?_ (q7 hR.grow hsz) (os.trans hR.os) (tape.trans hR.tape) (output.trans hR.output) (fun g hg hkn h=>⟨hheap g hg (fun hh=>hkn (hkw g hh)),fun k b' hb' hbk=>by
  by_cases hk:k=d
  ·subst hk
   rw [j0l] at hbk
   exact hkn (hkw g hbk)
  ·rw [j09 σ _ hk] at hb'
   rw [j0m γ v' hk] at hbk
   exact h k b' hb' hbk⟩),?_⟩
 ·intro k b hb
  by_cases hk:k=d
  ·subst hk
   rw [j0r] at hb;simp at hb;subst hb
   refine jhy hm ⟨css,by rw [j0l];exact hrow,hall,fun g hg=> ?_⟩
   rw [j0l] at hg
   exact hfrz g hg
  ·rw [j09 σ _ hk] at hb
   refine j1X.keep hst hle (j0m γ v' hk) (fun g hg=> ?_) (hR.box k b hb)
   have hgl:=j44 (hR.box k b hb) hg
   have hne:blk v'≠D g:=fun hh=>(hv g hh).2.1 k b hb hg
   exact ⟨hheap g hgl hne,fun o=>⟨fun hs=>(hS g o hs).resolve_right hne,fun hs=>(hst g o hs).1⟩⟩
 ·intro k b g hb hg
  by_cases hk:k=d
  ·subst hk;rw [j0l] at hg;exact .inl (hv g hg).1
  ·rw [j09 σ _ hk] at hb;rw [j0m γ v' hk] at hg;exact hR.own k b g hb hg
 ·intro k k' b1 b2 g hne h1 h2 hg hg'
  by_cases hk:k=d
  ·subst hk
   have hk':k'≠k:=fun h=>hne h.symm
   rw [j0l] at hg
   rw [j09 σ _ hk'] at h2
   rw [j0m γ v' hk'] at hg'
   exact (hv g hg).2.1 k' b2 h2 hg'
  ·by_cases hk':k'=d
   ·subst hk'
    rw [j0l] at hg'
    rw [j09 σ _ hk] at h1
    rw [j0m γ v' hk] at hg
    exact (hv g hg').2.1 k b1 h1 hg
   ·rw [j09 σ _ hk] at h1
    rw [j09 σ _ hk'] at h2
    rw [j0m γ v' hk] at hg
    rw [j0m γ v' hk'] at hg'
    exact hR.apart k k' b1 b2 g hne h1 h2 hg hg'
 ·intro g o hs
  rcases hS g o hs with hs | hs
  ·exact hR.new g o hs
  ·exact .inr (hv g hs).1
 ·intro g o hs
  rcases hS g o hs with hs | hs
  ·have:=hR.here g o hs;omega
  ·exact (hv g hs).2.2
 ·intro g hg hr
  by_cases hb:blk v'=D g
  ·exact ((hv g hb).1.no hg hr).elim
  ·rw [hheap g (by have:=hR.grow;omega) hb];exact hR.below g hg hr
 ·refine ⟨⟨by rw [j0r];simp,hone,fun b hb=>(j0l γ d v').symm⟩,fun _=>hone⟩
theorem jlo {P:À} {T:H→Á TyI} (hT:j1Q P T) {t ty:Æ} {ti:TyI} (ht:T t=D ti) {el:Ty} (hty:ti.ty=D (.list el))
  {v:G} {n:H} {xs:F G} (hown:w.ownsRow 0 ti.elem el.size v n xs) {ad:Á Addr} {m c:H} {news:F G} (hnil:ad=M→m=0∧c=0) (hl:news.length=m*el.size)
  (hnews:∀ b,ad=D b→∀ (j:H) (u:G),news[j]? = D u→w.cell? (b.add j)=D u) (h1:∀ u∈news,One u) (hmax:n+m≤j05) :
  ∃ v' w',(Ì #[t,t] ty #[v,.slice ad m c]).run P w = .ok v' w'∧w'.ownsRow 0 ti.elem el.size v' (n+m) (xs++news)∧w'.os=w.os∧w'.tape=w.tape∧w'.output=w.output∧w.heap.size≤w'.heap.size∧
   ((v'=v∧w'=w)∨(blk v'=blk v∧(∃ g,blk v=D g)∧∀ g,blk v≠D g→w'.heap[g]? = w.heap[g]?)∨(blk v'=D w.heap.size∧∀ g,g<w.heap.size→w'.heap[g]? = w.heap[g]?)):=by
 obtain ⟨hd,hpos,te,hte,htea⟩:=j51 hT ht hty
 have hsz:=j8X hT hte htea
 obtain ⟨i,de,hi,hde,his,hib,_,_,hz⟩:=j4D hT hte
 obtain ⟨_,⟨z,hz,hzc⟩,_⟩:=hz el htea
 have hsize:i.size=el.size:=omg_
 have hzs:z.cells.size=el.size:=by
  have h:=Rep.length el el.dflt _ (j6S (S:=fun _ _=>False) (w:=w) el)
  rw [←hzc] at h
  simpa using h
 have h63:n+m≤maxLen:=by simp only [maxLen,j05] at *;omega
 have hbytes:(n+m)*i.bytes≤140737488355328:=by
  have:(n+m)*i.bytes≤j05*32768:=z8 hmax hib
  simp only [j05] at this
  omega
 have hlen:(xs++news).length=(n+m)*el.size:=by rw [jo,hown.1,hl,Ç]
 cases ad with
 | none=>
  obtain ⟨rfl,rfl⟩:=hnil rfl
  have hn0:news=[]:=ka (by simpa using hl)
  subst hn0
  exact ⟨v,w,run_append_owned_none (P:=P) w 0 t ty ti.elem i el.size hd hi v n xs hown,by simpa using hown,rfl,rfl,rfl,jz _,.inl ⟨rfl,rfl⟩⟩
 | some b=>
  have hnews:=hnews b rfl
  rcases hown.2 with ⟨rfl,rfl⟩ | ⟨g,cap,cur,rfl,_,hg,hnc,hcm,hcs,htake⟩
  ·have hown':w.ownsRow w.heap.size ti.elem el.size (.slice M 0 0) 0 xs:=⟨hown.1,.inl ⟨rfl,rfl⟩⟩
   obtain ⟨v',w',hr,ho,hgr,hv⟩:=run_append_own (P:=P) w w.heap.size t ty ti.elem i z el.size i.bytes hd hi hz hsize rfl hzs hpos _ 0 xs hown' b m c news hl hnews h1 h63 hbytes (jz _)
   refine ⟨v',w',hr,⟨ho.1,ho.2.imp id (fun ⟨g,cap,cur,h1,_,h3⟩=>⟨g,cap,cur,h1,kq _,h3⟩)⟩,hgr.os,hgr.tape,hgr.output,hgr.size,?_⟩
   by_cases hm:m=0
   ·subst hm
    have hn0:news=[]:=ka (by simpa using hl)
    subst hn0
    have:=run_append_own (P:=P) w w.heap.size t ty ti.elem i z el.size i.bytes hd hi hz hsize rfl hzs hpos _ 0 xs hown' b 0 c [] hl hnews h1 h63 hbytes (jz _)
    left
    have hx:(Ì #[t,t] ty #[.slice M 0 0,.slice (D b) 0 c]).run P w = .ok (.slice M 0 0) w:=by
     simp [Ì,run_underlying hd,sizeOf,typeInfo,hi,ð,Ó,loadCells,loadCellsFrom]
    rw [hx] at hr
    simp at hr
    exact ⟨hr.1.symm,hr.2.symm⟩
   ·have hr':=run_append_nil (P:=P) w t ty ti.elem i z hd hi hz b m c news (by rw [hsize];exact hl) hnews omg_ (by simp only [maxLen] at h63;omega) (by have:=hbytes;simp only [kj] at this;omega)
    rw [hr'] at hr
    simp at hr
    obtain ⟨rfl,rfl⟩:=hr
    exact .inr (.inr ⟨rfl,fun g hg=>heap_alloc_old w.drew _ hg⟩)
  ·by_cases hroom:n+m≤cap
   ·have hfit:n*i.size+news.length≤cur.size:=by rw [hsize,hl,hcs,←Ç];exact kf _ hroom
    have hr:=run_append_room (P:=P) w t ty ti.elem i hd hi g n cap cur hg b m c news (by rw [hsize];exact hl) hnews h1 hroom hfit
    rw [hsize] at hr hfit
    refine ⟨_,_,hr,⟨hlen,.inr ⟨g,cap,_,rfl,kq _,setRow_heap w g cur _ ti.elem _ hg,hroom,hcm,?_,?_⟩⟩,rfl,rfl,rfl,by rw [size_setRow];exact jz _,.inr (.inl ⟨rfl,⟨g,rfl⟩,fun g' hg'=> ?_⟩)⟩
    ·simp only [y9,jo,qq,qz,q8];omega
    ·rw [htake,←hlen];exact List.take_left
    ·exact setRow_other w g g' _ (fun h=>hg' (by rw [h];rfl))
   ·have holds:∀ (j:H) (u:G),xs[j]? = D u→w.cell? ((⟨g,0,M⟩:Addr).add j)=D u:=hown.cells (g:=g) rfl
    have hr:=run_append_grow (P:=P) w t ty ti.elem i z hd hi hz ⟨g,0,M⟩ n cap xs (by rw [hsize];exact hown.1) holds b m c news (by rw [hsize];exact hl) hnews omg_ (by simp only [maxLen] at h63;omega) (growslice_fits omg_ hbytes)
    have hge:=grownCap_ge w (n+m) cap ti.elem
    refine ⟨_,_,hr,⟨hlen,.inr ⟨w.heap.size,_,_,rfl,kq _,heap_alloc_new w.drew _,hge,grownCap_le_maxLen w (n+m) cap ti.elem h63,?_,?_⟩⟩,rfl,rfl,rfl,smp_,.inr (.inr ⟨rfl,fun g' hg'=>heap_alloc_old w.drew _ hg'⟩)⟩
    ·simp only [Array.size_append,y9,size_zeroCells,hzs,hown.1,hl,←Ç]
     congr 1
     omega
    ·simp only [Array.toList_append,jr]
     rw [←jr,←hlen]
     exact List.take_left
theorem jqY (hR:Rel N np S0 w0 refs σ a w S γ) {rd:H→BS} (hrd:RdOk σ rd) {el:Ty} {y:Leaf} {ys:F el.den} {z:G} (h:appX rd el y=D ys) (hy:j0b S w γ σ.bx y z) :
  ∃ ad c css,z = .slice ad ys.length c∧(ad=M→ys.length=0∧c=0)∧All2 (fun x c=>Rep S w el x c) ys css∧
   ∀ b,ad=D b→∀ (j:H) (u:G),css.flatten[j]? = D u→w.cell? (b.add j)=D u:=by
 unfold appX at h
 split at h
 ·rename_i k
  split at h
  ·rename_i e el' xs f hk
   have:=jfh h
   cases this
   have hnm:=hrd.nm hk
   have hk:=hrd.live hk
   have hz:=hy.2.2 _ hk
   obtain ⟨css,hown,hall,_⟩:=j5B hnm (hR.box k _ hk)
   rcases hown.2 with ⟨hg,h0⟩ | ⟨g,cap,cur,hg,_⟩
   ·exact ⟨M,0,css,by rw [hz,hg,h0],fun _=>⟨h0,rfl⟩,hall,fun b hb=>by simp at hb⟩
   ·refine ⟨D ⟨g,0,M⟩,cap,css,by rw [hz,hg],smp_,hall,fun b hb j u hu=> ?_⟩
    simp at hb;subst hb
    exact hown.cells (g:=g) (by rw [hg];rfl) j u hu
  ·simp at h
 ·rename_i t xs
  have:=jfh h
  cases this
  obtain ⟨ad,cap,hz,hle,hcm,hn,hb⟩:=hy
  simp at hz
  cases ad with
  | none=>
   have h0:=hn rfl
   have hl0:Î ys=0:=omg_
   have:ys=[]:=ka hl0
   subst this
   exact ⟨M,cap,[],hz,fun _=>⟨rfl,h0⟩,trivial,fun b hb=>by simp at hb⟩
  | some b=>
   obtain ⟨hsp,css,ha,hl⟩:=hb b rfl
   refine ⟨D b,cap,css,hz,smp_,ha,fun b' hb' j u hu=> ?_⟩
   simp at hb';subst hb'
   have hsp:=hsp (fun e=>by
    rw [e] at ha
    cases css with
    | nil=>simp at hu
    | cons c cs=>exact ha)
   obtain ⟨g,o,sp⟩:=b
   simp at hsp;subst hsp
   rw [Å]
   exact (hl j u hu).2
 ·simp at h;subst h
  exact ⟨M,0,[],hy,fun _=>⟨rfl,rfl⟩,trivial,fun b hb=>by simp at hb⟩
 ·rename_i k j
  split at h
  ·rename_i e el' xs f hk
   split at h
   ·rename_i xs' hto
    have:=jfh hto
    cases this
    simp only [jb] at h
    subst h
    have hnm:=hrd.nm hk
    have hk:=hrd.live hk
    obtain ⟨_,hj,ad,cap',hg',hu⟩:=hy.2.2 _ hk
    obtain ⟨css,hown,hall,_⟩:=j5B hnm (hR.box k _ hk)
    have hcl:=All2.all_len hall
    have hlen:(Ë j xs').length=xs'.length-j:=smp_
    rcases hown.2 with ⟨hg,h0⟩ | ⟨g,cap,cur,hg,_,hh,hnc,_⟩
    ·rw [hg] at hg'
     simp only [Z] at hg'
     obtain ⟨rfl,_,rfl⟩:=hg'
     have hx0:xs'=[]:=ka h0
     subst hx0
     refine ⟨M,0,[],by rw [hu];simp,fun _=>⟨smp_,rfl⟩,by simp;trivial,fun b hb=>by simp at hb⟩
    ·rw [hg] at hg'
     simp only [Z,qm] at hg'
     obtain ⟨rfl,rfl⟩:=hg'
     by_cases hc:cap=j
     ·have hx0:Ë j xs'=[]:=jj omg_
      rw [hx0]
      rw [if_pos hc] at hu
      exact ⟨D ⟨g,0,M⟩,cap-j,[],by rw [hu];simp;omega,smp_,trivial,fun b hb q v hq=>by simp at hq⟩
     ·rw [if_neg hc] at hu
      simp only [kz,Å,kj] at hu
      refine ⟨D ⟨g,j*el.size,M⟩,cap-j,css.drop j,by rw [hu,hlen],smp_,hall.drop j,fun b hb q v hq=> ?_⟩
      simp at hb;subst hb
      have hfd:(css.drop j).flatten=css.flatten.drop (j*el.size):=jel j hcl
      rw [hfd,á] at hq
      have:=hown.cells (g:=g) (by rw [hg];rfl) _ v hq
      rw [Å] at this ⊢
      simpa using this
   ·simp at h
  ·simp at h
 ·simp at h
theorem jrZ {P:À} {E:Env} (hT:j1Q P E.T) (hR:Rel N np S0 w0 refs σ a w S γ) {rd rdf:H→BS} (hrd:RdOk σ rd) (hrdf:RdF np σ rdf) {t ty:Æ} {ti:TyI} (ht:E.T t=D ti)
  {el:Ty} (hty:ti.ty=D (.list el)) {x y:Leaf} {xs ys:F el.den} {frz:Ö} {u:Ups} {d:H} {vx vy:G} (h1:appS rdf ti.elem el x=D (xs,frz,u)) (h2:appX rd el y=D ys)
  (hd:σ.bx d = .free) (hmax:xs.length+ys.length≤j05) (hx:j0b S w γ σ.bx x vx) (hy:j0b S w γ σ.bx y vy) :
  ∃ v' w' S' γ',(Ì #[t,t] ty #[vx,vy]).run P w = .ok v' w'∧Rel N np S0 w0 refs (σ.upd (u++[(d,.live (.lst ti.elem el (xs++ys) frz))])) a w' S' γ'∧
   j0k S' w' γ' (σ.upd (u++[(d,.live (.lst ti.elem el (xs++ys) frz))])).bx (.one (.ol d)) v':=by
 obtain ⟨ad,c,cy,hvy,hnil,hcy,hcell⟩:=jqY hR hrd h2 hy
 subst hvy
 have hly:cy.flatten.length=ys.length*el.size:=All2.flatten_length (fun x c hx=>Rep.length el x c hx) hcy
 have h1y:∀ u∈cy.flatten,One u:=by
  intro u hu
  obtain ⟨c,hc,huc⟩:=List.mem_flatten.1 hu
  obtain ⟨x,_,hx⟩:=hcy.mem_right c hc
  exact Rep.one el x c hx u huc
 obtain ⟨hdd,hpos,te,hte,htea⟩:=j51 hT ht hty
 have src:∃ σ1,σ.upd u=σ1∧Rel N np S0 w0 refs σ1 a w S γ∧σ1.bx d = .free∧∃ cx,w.ownsRow 0 ti.elem el.size vx xs.length cx.flatten∧All2 (fun x c=>Rep S w el x c) xs cx∧
   ∀ g,blk vx=D g→Own w0 refs g∧g<w.heap.size∧(∀ k b,σ1.bx k = .live b→blk (γ k)≠D g)∧(frz=U→∀ o,¬ S g o)∧(frz=Ä→∀ o,S g o↔o<xs.length*el.size)∧refs.kw g=none:=by
  unfold appS at h1
  split at h1
  ·rename_i k
   split at h1
   ·rename_i e' el' xs' f hk
    split at h1
    ·rename_i xs2 hto
     split at h1
     ·rename_i he
      simp only [jb,jf] at h1
      obtain ⟨rfl,rfl,rfl⟩:=h1
      have:=jfh hto
      cases this
      subst he
      have hkp:=hrdf.par hk
      have hnm:=hrdf.ok.nm hk
      have hk:=hrdf.ok.live hk
      have hz:=hx.2.2 _ hk
      obtain ⟨css,hown,hall,hS⟩:=j5B hnm (hR.box k _ hk)
      have hdk:d≠k:=by rintro rfl;rw [hd] at hk;simp at hk
      refine ⟨σ.setB k .gone,rfl,jeW hR hk,by rw [j09 σ _ hdk];exact hd,css,by rw [hz];exact hown,hall,fun g hg=> ?_⟩
      rw [hz] at hg
      refine ⟨?_,j44 (hR.box k _ hk) hg,fun k' b' hb' hg'=> ?_,(hS g hg).1,(hS g hg).2,hR.kw_live hk hg⟩
      ·rcases hR.own k _ g hk hg with h | h
       ·exact h
       ·rw [hkp] at h;simp at h
      ·have hkk:k'≠k:=by rintro rfl;rw [j0r] at hb';simp at hb'
       rw [j09 σ _ hkk] at hb'
       exact hR.apart k' k _ _ g hkk hb' hk hg' hg
     ·simp at h1
    ·simp at h1
   ·simp at h1
  ·simp only [jb,jf] at h1
   obtain ⟨rfl,rfl,rfl⟩:=h1
   have hz:vx = .slice M 0 0:=hx
   subst hz
   exact ⟨σ,rfl,hR,hd,[],Õ w 0 ti.elem el.size,trivial,fun g hg=>by simp [blk] at hg⟩
  ·simp at h1
 obtain ⟨σ1,hσ1,hR1,hd1,cx,hown,hcx,hblk⟩:=src
 rw [j3O,hσ1]
 obtain ⟨v',w',hr,hrow,os,tape,output,hsz,hcase⟩:=jlo hT ht hty (ty:=ty) hown hnil hly hcell h1y hmax
 have hlx:cx.flatten.length=xs.length*el.size:=hown.1
 let S':j0e:=fun g o=>S g o∨(frz=Ä∧blk v'=D g∧o<(xs++ys).length*el.size)
 have hst:j2O S w S' w':=by
  intro g o hs
  refine ⟨.inl hs,?_⟩
  rcases hcase with ⟨rfl,rfl⟩ | ⟨hb,⟨g0,hg0⟩,hh⟩ | ⟨hb,hh⟩
  ·rfl
  ·by_cases hg:g=g0
   ·subst hg
    obtain ⟨_,_,_,hf,ht',_⟩:=hblk g hg0
    cases frz with
    | false=>exact absurd hs (hf rfl o)
    | true=>
     have ho:=(ht' rfl o).1 hs
     have hv':v'.ownBlock=D g:=by
      rw [hg0] at hb
      rcases hrow.2 with ⟨hn,_⟩ | ⟨g1,cap,cur,hn,_⟩
      ·rw [hn] at hb;simp [blk] at hb
      ·rw [hn] at hb ⊢;simp [blk] at hb;simp [Value.ownBlock,hb]
     have hvx:vx.ownBlock=D g:=by
      rcases hown.2 with ⟨hn,_⟩ | ⟨g1,cap,cur,hn,_⟩
      ·rw [hn] at hg0;simp [blk] at hg0
      ·rw [hn] at hg0 ⊢;simp [blk] at hg0;simp [Value.ownBlock,hg0]
     have hget:(cx.flatten)[o]? = D (cx.flatten[o]'omg_):=jv omg_
     have e1:=hown.cells hvx o _ hget
     have e2:=hrow.cells hv' o (cx.flatten[o]'omg_) (by rw [ä omg_];exact hget)
     rw [Å,kj] at e1 e2
     rw [e1,e2]
   ·have:=hh g (by rw [hg0];simpa using fun h=>hg h.symm)
    exact Ð (a:=⟨g,o,M⟩) this
  ·exact Ð (a:=⟨g,o,M⟩) (hh g (hR.here g o hs))
 have hvb:∀ g,blk v'=D g→Own w0 refs g∧(∀ k b,σ1.bx k = .live b→blk (γ k)≠D g)∧g<w'.heap.size:=by
  intro g hg
  have hlt:g<w'.heap.size:=by
   rcases hrow.2 with ⟨hn,_⟩ | ⟨g1,cap,cur,hn,_,hh,_⟩
   ·rw [hn] at hg;simp [blk] at hg
   ·rw [hn] at hg;simp [blk] at hg;subst hg;exact (jn.1 hh).1
  rcases hcase with ⟨rfl,rfl⟩ | ⟨hb,⟨g0,hg0⟩,hh⟩ | ⟨hb,hh⟩
  ·obtain ⟨q1,q2,q3,_⟩:=hblk g hg;exact ⟨q1,q3,hlt⟩
  ·rw [hb] at hg;obtain ⟨q1,q2,q3,_⟩:=hblk g hg;exact ⟨q1,q3,hlt⟩
  ·rw [hb] at hg;simp at hg;subst hg
   exact ⟨.inl hR.grow,fun k b hk hg'=>by have:=j44 (hR1.box k b hk) hg';omega,hlt⟩
 obtain ⟨hRn,hcn⟩:=jeX hR1 hd1 (hm:=jm9 hT ht) (w':=w') (S':=S') (v':=v') (e:=ti.elem) (el:=el) (zs:=xs++ys) (frz:=frz) (css:=cx++cy) hst (fun g hg hne=>by
   rcases hcase with ⟨rfl,rfl⟩ | ⟨hb,_,hh⟩ | ⟨hb,hh⟩
   ·rfl
   ·exact hh g (by rw [←hb];exact hne)
   ·exact hh g hg) hsz hvb (fun g o hs=>hs.imp id (fun h=>h.2.1)) os tape output (by rw [yh,jo];exact hrow)
  ((hcx.mono (fun x c hx=>Rep.keep hst _ _ _ hx)).append (hcy.mono (fun x c hx=>Rep.keep hst _ _ _ hx))) (fun g hg=>by
    have hold:∀ o,S g o→frz=Ä∧o<xs.length*el.size:=by
     intro o hs
     rcases hcase with ⟨rfl,rfl⟩ | ⟨hb,⟨g0,hg0⟩,hh⟩ | ⟨hb,hh⟩
     ·obtain ⟨_,_,_,hf,ht',_⟩:=hblk g hg
      cases frz with
      | false=>exact absurd hs (hf rfl o)
      | true=>exact ⟨rfl,(ht' rfl o).1 hs⟩
     ·rw [hb] at hg
      obtain ⟨_,_,_,hf,ht',_⟩:=hblk g hg
      cases frz with
      | false=>exact absurd hs (hf rfl o)
      | true=>exact ⟨rfl,(ht' rfl o).1 hs⟩
     ·rw [hb] at hg;simp at hg;subst hg;exact absurd hs (jcm hR o)
    refine ⟨fun hf o hs=> ?_,fun hf o=>⟨fun hs=> ?_,fun ho=> .inr ⟨hf,hg,ho⟩⟩⟩
    ·rcases hs with hs | hs
     ·rw [hf] at hold;simp at hold;exact hold o hs
     ·rw [hf] at hs;simp at hs
    ·rcases hs with hs | hs
     ·have:=(hold o hs).2
      rw [jo,Ç];omega
     ·exact hs.2.2) (fun g hg=>by
    rcases hcase with ⟨rfl,rfl⟩ | ⟨hb,⟨g0,hg0⟩,hh⟩ | ⟨hb,hh⟩
    ·exact (hblk g hg).2.2.2.2.2
    ·rw [hb] at hg;exact (hblk g hg).2.2.2.2.2
    ·rw [hb] at hg;simp at hg;subst hg;exact hR.kw_new (jz _))
 exact ⟨v',w',S',_,hr,hRn,hcn⟩
end
theorem jxO (L l:F G) (v:G) (n:H) (h:n<L.length) :
  (L.set n v).take (n+1)++l++(L.set n v).drop (n+1+l.length)=L.take n++v::l++L.drop (n+(l.length+1)):=by
 obtain ⟨A,x,B,hA,rfl⟩:∃ A x B,Î A=n∧L=A++x::B:=⟨L.take n,L[n],L.drop (n+1),sqo_,by rw [é h,qv]⟩
 subst hA
 rw [vv _ _ (jz _),Nat.sub_self,à]
 have e1:(A++v::B).take (A.length+1)=A++[v]:=by
  rw [show A++v::B=(A++[v])++B by simp]
  exact yj smp_
 have e2:(A++x::B).take A.length=A:=yj rfl
 have e3:∀ y,(A++y::B).drop (A.length+1+l.length)=B.drop l.length:=by
  intro y
  rw [show A++y::B=(A++[y])++B by simp,←List.drop_drop,ý smp_]
 rw [e1,e2,e3,show A.length+(l.length+1)=A.length+1+l.length by omega,e3]
 simp
theorem jnM (off:H):∀ (l:F G) (k:H) (cells:È G),off+k+l.length≤cells.size→
  ((l.zipIdx k).foldl (fun cs x=>cs.setIfInBounds (off+x.2) x.1) cells).toList=cells.toList.take (off+k)++l++cells.toList.drop (off+k+l.length)
 | [],k,cells,_=>smp_
 | v::l,k,cells,h=>by
  simp only [jp] at h
  rw [List.zipIdx_cons,yk,jnM off l (k+1) _ sqo_]
  simp only [Array.toList_setIfInBounds]
  rw [show off+(k+1)=off+k+1 by omega]
  exact jxO cells.toList l v (off+k) sqo_
theorem jmd (cells:È G) (off:H) (zs:È G) (h:off+zs.size≤cells.size) :
  (zs.zipIdx.foldl (fun cs (x:G×H)=>cs.setIfInBounds (off+x.2) x.1) cells).toList=cells.toList.take off++zs.toList++cells.toList.drop (off+zs.size):=by
 rw [←Array.foldl_toList,Array.toList_zipIdx]
 have:=jnM off zs.toList 0 cells (by simpa using h)
 simpa using this
theorem jfq (z:F G):∀ (n p:H),p<n*z.length→(O n z).flatten[p]? = z[p%z.length]?
 | 0,p,h=>by simp at h
 | n+1,p,h=>by
  rw [List.replicate_succ,kx]
  by_cases hp:p<z.length
  ·rw [ä hp,Nat.mod_eq_of_lt hp]
  ·rw [ku omg_,jfq z n (p-z.length) (by rw [Ç] at h;omega)]
   congr 1
   exact (Nat.mod_eq_sub_mod omg_).symm
theorem jlp (z:È G) (n:H) (hz:0<z.size):((Ï (n*z.size)).map (fun i=>z[i%z.size]!)).toList=(O n z.toList).flatten:=by
 apply zp
 intro p
 by_cases hp:p<n*z.size
 ·rw [jfq z.toList n p (by simpa using hp)]
  have hm:p%z.size<z.size:=Nat.mod_lt _ hz
  simp [hp,hm]
 ·rw [qk sqo_,qk (by rw [List.length_flatten];simp;omega)]
section
variable {N:NT} {np:H} {S0:j0e} {w0:Â} {refs:Refs} {σ:St} {a:Ü} {w:Â} {S:j0e} {γ:H→G}
theorem jgA {t:Ty} {z:G} (h:z.cells.toList=jci t):z.cells.size=t.size:=by
 have:=Rep.length t t.dflt _ (j6S (S:=fun _ _=>False) (w:=(default:Â)) t)
 rw [←h] at this
 simpa using this
theorem jiU {t:Ty} {z:G} (h:z.cells.toList=jci t):∀ u∈z.cells.toList,One u:=by
 rw [h]
 exact Rep.one t t.dflt _ (j6S (S:=fun _ _=>False) (w:=(default:Â)) t)
theorem jjo {P:À} {T:H→Á TyI} (hT:j1Q P T) {t:Æ} {ti:TyI} (ht:T t=D ti) {ty:Ty} (hty:ti.ty=D ty) :
  ∃ z:G,z.cells.toList=jci ty∧(Instr.alloc t Ä (.tuple #[])).run P w = .ok (.pointer (D ⟨w.heap.size,0,M⟩)) (w.alloc (.cells z.cells t)):=by
 obtain ⟨z,hz,hc⟩:=jd0 hT ht w hty
 refine ⟨z,hc,?_⟩
 simp only [Instr.alloc,J,hz,I,newVar,newRow,run_newObj,Ã,Ô]
theorem jtf {P:À} (t:Æ) (v:G):(Instr.box t v).run P w = .ok (.pointer (D ⟨w.heap.size,0,M⟩)) (w.alloc (.cells v.cells t)):=by
 simp only [Instr.box,J,newVar,newRow,run_newObj,I,Ã,Ô]
theorem jqZ {P:À} {α β:Type} (f:α→Sem β) (g:α→β):∀ (l:F α),(∀ x∈l,(f x).run P w = .ok (g x) w)→(l.mapM f).run P w = .ok (l.map g) w
 | [],_=>smp_
 | x::l,h=>by
  rw [v6]
  simp only [J,h x smp_,I,jqZ f g l (fun y hy=>h y (by simp [hy])),Ã,qu]
theorem jr0 {bx:H→BS} {ti:TyI} {sz:H→Á H} {place:H→Á (H×H)} (hp:∀ i f n,ti.flds[i]? = D f→sz f.2=D n→place i=D (f.1,n)) :
  ∀ (ps:F (H×Cel)) (vs:F (H×G)) {ls ls':F Leaf} {cells:È G},All2 (fun p v=>p.1=v.1∧j0k S w γ bx p.2 v.2) ps vs→jlc ti sz ls ps=D ls'→
   All2 (j0b S w γ bx) ls cells.toList→(∀ u∈cells.toList,One u)→∃ cells',Ñ place cells vs=D cells'∧All2 (j0b S w γ bx) ls' cells'.toList∧∀ u∈cells'.toList,One u
 | [],[],ls,ls',cells,_,h,ha,h1=>by
  simp [jlc] at h;subst h
  exact ⟨cells,rfl,ha,h1⟩
 | (i,c)::ps,(j,v)::vs,ls,ls',cells,⟨⟨hij,hc⟩,hps⟩,h,ha,h1=>by
  simp only at hij;subst hij
  simp only [jlc] at h
  split at h
  ·rename_i f hf
   split at h
   ·rename_i new hnew
    split at h
    ·rename_i hcond
     obtain ⟨hsz,hle⟩:=hcond
     obtain ⟨hl,hl1⟩:=j8l hnew hc
     have hlen:=hl.length
     have hlc:=ha.length
     have hvs:v.cells.size=new.length:=by rw [hlen];simp
     have hcs:cells.size=ls.length:=by rw [hlc];simp
     have hfo:=jmd cells f.1 v.cells omg_
     have hsp:=jco (c:=f.1) ha hl
     obtain ⟨cells',hfill,h2,h3⟩:=jr0 hp ps vs (cells:=(v.cells.zipIdx.foldl (fun cs (x:G×H)=>cs.setIfInBounds (f.1+x.2) x.1) cells)) hps h
      (by rw [hfo];simpa using hsp) (by
       rw [hfo]
       intro u hu
       simp only [js] at hu
       rcases hu with (hu | hu) | hu
       ·exact h1 u (qp hu)
       ·exact hl1 u hu
       ·exact h1 u (zk hu))
     refine ⟨cells',?_,h2,h3⟩
     simp only [Ñ,hp i f _ hf hsz]
     rw [if_neg (by simp [hvs];omega)]
     exact hfill
    ·simp at h
   ·simp at h
  ·simp at h
 | [],_::_,_,_,_,h,_,_,_=>h.elim
 | _::_,[],_,_,_,h,_,_,_=>h.elim
theorem js0 {P:À} {E:Env} (hT:j1Q P E.T) {bx:H→BS} {t:Æ} {ti:TyI} (ht:E.T t=D ti) {ty:Ty} (hty:ti.ty=D ty) (hag:ty.agg=Ä)
  {ps:F (H×Cel)} {vs:È (H×G)} {ls:F Leaf} (hps:All2 (fun p v=>p.1=v.1∧j0k S w γ bx p.2 v.2) ps vs.toList)
  (h:jlc ti (fun t=>(E.T t).map (·.size)) (jgt ty) ps=D ls) :
  ∃ z,(Ù t vs).run P w = .ok z w∧j0k S w γ bx (.st ls) z:=by
 obtain ⟨z,hz,hzc⟩:=jd0 hT ht w hty
 obtain ⟨i,d,hi,hd,_,_,_,hfl,hdesc⟩:=j4D hT ht
 have hdd:=(hdesc ty hty).2.2
 cases d with
 | struct fs=>
  simp only [jnG,ji,jq] at hfl
  obtain ⟨hf1,hf2⟩:=hfl
  have hplaces:(fs.mapM (fun f=>do pure (f.offset,←sizeOf f.type):Field→Sem (H×H))).run P w = .ok (fs.map fun f=>(f.offset,((E.T f.type).map (·.size)).getD 0)) w:=by
   rw [yb]
   have:=jqZ (P:=P) (w:=w) (fun f=>(do pure (f.offset,←sizeOf f.type):Sem (H×H))) (fun f:Field=>(f.offset,((E.T f.type).map (·.size)).getD 0)) fs.toList (fun f hf=>by
    have:=jw.1 hf2 f hf
    split at this
    ·rename_i tf htf
     simp only [J,j29 hT htf,I,Ã,htf,kz,ze]
    ·simp at this)
   simp only [Sem.run_map,this,I]
   congr 1
   apply q9
   simp
  have hp:∀ (i:H) (f:H×H) (n:H),ti.flds[i]? = D f→(E.T f.2).map (·.size)=D n→(fs.map fun f=>(f.offset,((E.T f.type).map (·.size)).getD 0))[i]? = D (f.1,n):=by
   intro i f n hf hn
   rw [←hf1,qn] at hf
   cases hq:fs.toList[i]? with
   | none=>simp [hq] at hf
   | some fl=>
    simp only [hq,kz,jb] at hf
    subst hf
    have hq':fs[i]? = D fl:=by simpa using hq
    simp only at hn
    simp [hq',hn]
  obtain ⟨cells',hfill,ha,h1⟩:=jr0 (S:=S) (w:=w) (γ:=γ) (place:=fun i=>(fs.map fun f=>(f.offset,((E.T f.type).map (·.size)).getD 0))[i]?) hp ps vs.toList (cells:=z.cells) hps h (by rw [hzc];exact j90 ty) (jiU hzc)
  refine ⟨.agg cells',?_,cells',rfl,ha,h1⟩
  simp only [Ù,J,hz,I,run_underlying hd,hplaces,hfill,Ã]
 | _=>exfalso;revert hdd hag;cases ty<;>simp [j7y,Ty.agg]
theorem jlq {rd:H→BS} {el:Ty}:∀ (ps:F (H×Cel)) {xs xs':F el.den} {u u':Ups},j7m rd el xs u ps=D (xs',u')→∃ u2,u'=u++u2
 | [],_,_,u,u',h=>by simp [j7m] at h;exact ⟨[],by simp [h.2]⟩
 | (i,c)::ps,xs,xs',u,u',h=>by
  simp only [j7m] at h
  split at h
  ·split at h
   ·obtain ⟨u2,hu⟩:=jlq ps h
    exact ⟨_,by rw [hu,jr]⟩
   ·simp at h
  ·simp at h
theorem jhE {rd:H→BS} (hrd:RdF np σ rd) (hB:jnK S w γ σ.bx) {el:Ty} (hpos:0<el.size):∀ (ps:F (H×Cel)) (vs:F (H×G)) {xs xs':F el.den} {u u':Ups},
  All2 (fun p v=>p.1=v.1∧j0k S w γ σ.bx p.2 v.2) ps vs→j7m rd el xs u ps=D (xs',u')→FrzL np σ.bx u→
  FrzL np σ.bx u'∧∀ S',j2O S w S' w→Froz σ.bx γ S' w u'→∀ (css:F (F G)) (cells:È G),All2 (fun x c=>Rep S' w el x c) xs css→cells.toList=css.flatten→
   ∃ cells' css',Ñ (fun i=>D (i*el.size,el.size)) cells vs=D cells'∧All2 (fun x c=>Rep S' w el x c) xs' css'∧cells'.toList=css'.flatten
 | [],[],xs,xs',u,u',_,h,hf=>by
  simp [j7m] at h
  obtain ⟨rfl,rfl⟩:=h
  exact ⟨hf,fun S' _ _ css cells ha hc=>⟨cells,css,rfl,ha,hc⟩⟩
 | (i,c)::ps,(j,v)::vs,xs,xs',u,u',⟨⟨hij,hc⟩,hps⟩,h,hf=>by
  simp only at hij;subst hij
  simp only [j7m] at h
  split at h
  ·rename_i x u1 hx
   split at h
   ·rename_i hi
    obtain ⟨hf1,hr1,hl1⟩:=jeV hrd hB hx hc
    obtain ⟨hf',hrest⟩:=jhE hrd hB hpos ps vs hps h (FrzL.app.2 ⟨hf,hf1⟩)
    obtain ⟨u2,hu2⟩:=jlq ps h
    refine ⟨hf',fun S' hst hfz css cells ha hcells=> ?_⟩
    have hrx:=(hr1 S' w hst (Froz.app.1 (Froz.app.1 (hu2▸hfz)).1).2).1
    have hlcs:cells.size=xs.length*el.size:=by
     have:=All2.flatten_length (fun x c hx=>Rep.length el x c hx) ha
     rw [←hcells] at this
     simpa using this
    have him:i*el.size+el.size≤xs.length*el.size:=by
     have:(i+1)*el.size≤xs.length*el.size:=kf _ omg_
     rwa [ve] at this
    have hl1:v.cells.toList.length=el.size:=hl1
    have hvs:v.cells.size=el.size:=by simpa using hl1
    have hzz:v.cells.toList.length=v.cells.size:=q8
    have hfo:=jmd cells (i*el.size) v.cells omg_
    obtain ⟨ci,hci⟩:∃ ci,css[i]? = D ci:=⟨css[i]'(by rw [←ha.length];exact hi),jv _⟩
    have hrs:=jpy (cur:=cells.toList) (n:=xs.length) (c:=0) (zs:=v.cells.toList) (All2.all_len ha) ha.length.symm (by rw [hcells,←hcells];exact Y (by simp [hlcs])) hci omg_
    have hcl:ci.length=el.size:=All2.all_len ha ci (ki hci)
    have hnew:cells.toList.take (i*el.size)++v.cells.toList++cells.toList.drop (i*el.size+v.cells.size)=(css.set i v.cells.toList).flatten:=by
     have e1:ci.take 0++v.cells.toList++ci.drop (0+v.cells.toList.length)=v.cells.toList:=by
      rw [jj omg_];simp
     rw [e1] at hrs
     rw [←hrs]
     symm
     refine (Y ?_).trans ?_
     ·simp;omega
     ·simp
    obtain ⟨cells',css',h1,h2,h3⟩:=hrest S' hst hfz (css.set i v.cells.toList) _ (ha.set i x v.cells.toList hrx) (hfo.trans hnew)
    refine ⟨cells',css',?_,h2,h3⟩
    simp only [Ñ]
    rw [if_neg (by simp [hvs];omega)]
    exact h1
   ·simp at h
  ·simp at h
 | [],_::_,_,_,_,_,h,_,_=>h.elim
 | _::_,[],_,_,_,_,h,_,_=>h.elim
end
theorem jtg {P:À} {t e:Æ} (h:P.underlying t=D (.slice e)):P.elem t=e:=by simp [Program.elem,h]
def VB (d:H) (o:Á G) (i:H):Prop:=(o=M∧i=d)∨∃ k,o=D (.int k (i:Int))
theorem j8m {P:À} {w:Â} {t:Æ} {e s:H} (hd:P.underlying t=D (.slice e)) (hs:(sizeOf e).run P w = .ok s w) {ad:Á Addr} {len cap i j:H} {lo hi:Á G}
  (hlo:VB 0 lo i) (hhi:VB len hi j) (hij:i≤j) (hj:j≤cap) :
  (å t (.slice ad len cap) lo hi M).run P w = .ok (.slice (if cap=i then ad else ad.map (·.add (i*s))) (j-i) (cap-i)) w:=by
 have he:=jtg hd
 have hd':P.underlying t=D (.slice (P.elem t)):=by rw [he];exact hd
 rw [run_sliceAt_slice w t _ _ _ _ hd']
 have hs':(sizeOf (P.elem t)).run P w = .ok s w:=by rw [he];exact hs
 rcases hlo with ⟨rfl,rfl⟩ | ⟨kl,rfl⟩
 ·rcases hhi with ⟨rfl,rfl⟩ | ⟨kh,rfl⟩
  ·rw [run_slice_all w t ad _ cap hd',hs'];simp [Þ,sliced]
  ·rw [run_slice_h w t ad len cap hd' kh _ omg_ omg_,hs'];simp [Þ,sliced]
 ·rcases hhi with ⟨rfl,rfl⟩ | ⟨kh,rfl⟩
  ·rw [run_slice_l w t ad _ cap hd' kl _ omg_ omg_,hs'];simp [Þ,sliced]
  ·rw [run_slice_lh w t ad len cap hd' kl kh _ _ omg_ omg_ omg_,hs'];simp [Þ,sliced]
section
variable {N:NT} {np:H} {S0:j0e} {w0:Â} {refs:Refs} {σ:St} {a:Ü} {w:Â} {S:j0e} {γ:H→G}
theorem jnN {el:Ty} {xs:F el.den} {ad:Á Addr} {cap:H} (h:Rep S w (.list el) xs [.slice ad (Î xs) cap]) {i j:H} (hij:i≤j) (hj:j≤Î xs) :
  Rep S w (.list el) ((xs.take j).drop i) [.slice (if cap=i then ad else ad.map (·.add (i*el.size))) (j-i) (cap-i)]:=by
 obtain ⟨ad',cap',he,hle,hcm,hn,hb⟩:=h
 simp only [yl,Z,and_true,qm] at he
 obtain ⟨rfl,rfl⟩:=he
 have hlen:((xs.take j).drop i).length=j-i:=sqo_
 refine ⟨_,_,by rw [hlen],by rw [hlen];omega,omg_,fun h=> ?_,fun b hb'=> ?_⟩
 ·have:ad=none:=by
   split at h
   ·exact h
   ·simpa using h
  have:=hn this
  omega
 ·by_cases hc:cap=i
  ·rw [if_pos hc] at hb'
   have hz:(xs.take j).drop i=[]:=ka omg_
   rw [hz]
   exact ⟨fun h=>absurd rfl h,[],trivial,fun j v hv=>by simp at hv⟩
  ·rw [if_neg hc] at hb'
   cases ad with
   | none=>simp at hb'
   | some b0=>
    simp only [kz,jb] at hb'
    subst hb'
    obtain ⟨hsp,css,ha,hl⟩:=hb b0 rfl
    by_cases hx:(xs.take j).drop i=[]
    ·rw [hx]
     exact ⟨fun h=>absurd rfl h,[],trivial,fun j v hv=>by simp at hv⟩
    ·have hxs:xs≠[]:=fun h=>hx (by rw [h];simp)
     obtain ⟨g,o,sp⟩:=b0
     have hsp:=hsp hxs
     simp at hsp;subst hsp
     have hadd:(⟨g,o,M⟩:Addr).add (i*el.size)=⟨g,o+i*el.size,M⟩:=Å _ _ _
     rw [hadd]
     refine ⟨fun _=>rfl,(css.take j).drop i,(ha.take j).drop i,fun q v hq=> ?_⟩
     have hcl:=All2.all_len ha
     rw [jel i (fun c hc=>hcl c (qp hc)),j91 j hcl,á,qy] at hq
     split at hq
     ·have:=hl _ v hq
      simpa [Nat.add_assoc] using this
     ·simp at hq
def ORep (R:Leaf→G→Prop):Á Leaf→Á G→Prop
 | none,M=>True
 | some l,D v=>R l v
 | _,_=>False
theorem jd4 {d:H} {o:Á Leaf} {vo:Á G} {i:Int} {bx:H→BS} (h:bnd d o=D i) (ho:ORep (j0b S w γ bx) o vo) (hi:0≤i):VB d vo i.toNat:=by
 unfold bnd at h
 split at h
 ·cases vo with
  | none=>simp at h;exact .inl ⟨rfl,omg_⟩
  | some v=>exact ho.elim
 ·cases vo with
  | none=>exact ho.elim
  | some v=>
   simp at h
   rename_i k n
   have hv:v = .int k n:=j8k (S:=S) (w:=w) ho
   refine .inr ⟨k,?_⟩
   rw [hv,show (n:Int)=i from h,Int.toNat_of_nonneg hi]
 ·simp at h
theorem js1 {P:À} {E:Env} (hT:j1Q P E.T) (hR:Rel N np S0 w0 refs σ a w S γ) {rd:H→BS} (hrd:RdOk σ rd) {t:Æ} {ti:TyI} (ht:E.T t=D ti)
  {d:H} {x l:Leaf} {lo hi:Á Leaf} {vx:G} {vlo vhi:Á G} {u:Ups} (hfree:∀ k,j4B (rd k)=Ä→σ.bx k = .free) (h:jld (parK np) rd ti d x lo hi=D (Ä,l,u))
  (hx:j0b S w γ σ.bx x vx) (hlo:ORep (j0b S w γ σ.bx) lo vlo) (hhi:ORep (j0b S w γ σ.bx) hi vhi) :
  ∃ v S' γ',(å t vx vlo vhi M).run P w = .ok v w∧Rel N np S0 w0 refs (σ.upd u) a w S' γ'∧j0k S' w γ' (σ.upd u).bx (.one l) v:=by
 unfold jld at h
 split at h
 ·-- a datum
  rename_i el xs
  split at h
  ·rename_i hty
   obtain ⟨hd,_,te,hte,htea⟩:=j51 hT ht hty
   have hsz:=j8X hT hte htea
   split at h
   ·rename_i i j hi' hj'
    simp only [jb,jf,ji,jq] at h
    obtain ⟨⟨h0,h1,h2⟩,rfl,rfl⟩:=h
    have hx':=hx
    obtain ⟨ad,cap,hv,hle,_⟩:=hx
    simp at hv
    subst hv
    have hlen:((Î xs:H):Int)=Int.ofNat (Î xs):=rfl
    refine ⟨_,S,γ,j8m hd (s:=el.size) ?_ (jd4 hi' hlo h0) (jd4 hj' hhi omg_) omg_ omg_,hR,jnN hx' omg_ omg_,fun _=>rfl⟩
    rw [j29 hT hte,hsz]
   ·simp at h
  ·simp at h
 ·rename_i k
  split at h
  ·-- the tail
   split at h
   ·rename_i e el xs f hk
    split at h
    ·rename_i hty
     obtain ⟨hd,_,te,hte,htea⟩:=j51 hT ht hty
     have hsz:=j8X hT hte htea
     split at h
     ·rename_i i hi'
      simp only [jb,jf,ji,jq] at h
      obtain ⟨⟨h0,h1⟩,rfl,rfl⟩:=h
      have hnm:=hrd.nm hk
      have hk:=hrd.live hk
      have hz:=hx.2.2 _ hk
      obtain ⟨css,hown,_⟩:=j5B hnm (hR.box k _ hk)
      obtain ⟨ad,cap,hg,hcap⟩:∃ ad cap,γ k = .slice ad xs.length cap∧xs.length≤cap:=by
       rcases hown.2 with ⟨hg,hn⟩ | ⟨g,cap,cur,hg,_,_,hnc,_⟩
       ·exact ⟨M,0,by rw [hg,hn],omg_⟩
       ·exact ⟨_,cap,hg,hnc⟩
      have hvh:VB xs.length vhi xs.length:=by
       cases vhi with
       | none=>exact .inl ⟨rfl,rfl⟩
       | some v=>exact hhi.elim
      subst hz
      have hrun:=j8m (ad:=ad) (w:=w) hd (s:=el.size) (by rw [j29 hT hte,hsz]) (jd4 hi' hlo h0) hvh omg_ hcap
      rw [←hg] at hrun
      refine ⟨_,S,γ,hrun,hR,⟨hx.1,rfl,fun b hb=> ?_⟩,fun _=>rfl⟩
      rw [show (σ.upd []).bx k=σ.bx k from rfl,hk] at hb;cases hb
      exact ⟨hnm,omg_,ad,cap,hg,rfl⟩
     ·simp at h
    ·simp at h
   ·simp at h
  ·rename_i hh
   split at h
   ·rename_i e el xs f hk
    split at h
    ·rename_i hty
     obtain ⟨hd,_,te,hte,htea⟩:=j51 hT ht hty
     have hsz:=j8X hT hte htea
     split at h
     ·rename_i i j hi' hj'
      have hnm:=hrd.nm hk
      have hk:=hrd.live hk
      have hz:=hx.2.2 _ hk
      split at h
      ·-- a parameter's: its head
       split at h
       ·rename_i hln
        simp only [æ] at hln
        subst hln
        simp only [jb,jf,ji,jq] at h
        obtain ⟨⟨h0,h1⟩,rfl,rfl⟩:=h
        obtain ⟨css,hown,_⟩:=j5B hnm (hR.box k _ hk)
        have hvl:VB 0 vlo 0:=by
         cases vlo with
         | none=>exact .inl ⟨rfl,rfl⟩
         | some v=>exact hlo.elim
        have hvh:=jd4 hj' hhi h0
        obtain ⟨ad,cap,hg,hcap,had⟩:∃ ad cap,γ k = .slice ad xs.length cap∧xs.length≤cap∧(if cap=0 then ad else ad.map (·.add (0*el.size)))=ad:=by
         rcases hown.2 with ⟨hg,hn⟩ | ⟨g,cap,cur,hg,_,_,hnc,_⟩
         ·exact ⟨M,0,by rw [hg,hn],omg_,rfl⟩
         ·exact ⟨_,cap,hg,hnc,by simp [Å]⟩
        have hrun:=j8m (ad:=ad) (w:=w) hd (s:=el.size) (by rw [j29 hT hte,hsz]) hvl hvh omg_ (show j.toNat≤cap by omega)
        rw [←hg,had] at hrun
        subst hz
        refine ⟨_,S,γ,hrun,hR,⟨hx.1,rfl,fun b hb=> ?_⟩,fun _=>rfl⟩
        rw [show (σ.upd []).bx k=σ.bx k from rfl,hk] at hb;cases hb
        exact ⟨hnm,omg_,ad,cap,hg,rfl⟩
       ·simp at h
      rename_i hkp
      have hkp:parK np k=false:=by simpa using hkp
      split at h
      ·-- cut short
       rename_i hlf
       simp only [ji,æ,Bool.not_eq_eq_eq_not,jk] at hlf
       obtain ⟨rfl,rfl⟩:=hlf
       split at h
       ·rename_i hfr
        simp only [jb,jf,ji,jq] at h
        obtain ⟨⟨h0,h1⟩,rfl,rfl⟩:=h
        have hdf:=hfree d hfr
        have hdk:d≠k:=by rintro rfl;rw [hdf] at hk;simp at hk
        obtain ⟨css,hown,hall,hS⟩:=j5B hnm (hR.box k _ hk)
        have hcl:=All2.all_len hall
        have hvl:VB 0 vlo 0:=by
         cases vlo with
         | none=>exact .inl ⟨rfl,rfl⟩
         | some v=>exact hlo.elim
        have hvh:=jd4 hj' hhi h0
        have hR1:=jeW hR hk
        have hd1:(σ.setB k .gone).bx d = .free:=by rw [j09 σ _ hdk];exact hdf
        have hjl:j.toNat≤xs.length:=omg_
        have hcss:css.length=xs.length:=hall.length.symm
        have key:∃ v',(å t vx vlo vhi M).run P w = .ok v' w∧w.ownsRow 0 e el.size v' (W j.toNat xs).length (W j.toNat css).flatten∧blk v'=blk vx:=by
         rw [hz]
         have hlt:(W j.toNat xs).length=j.toNat:=sqo_
         rcases hown.2 with ⟨hg,hn⟩ | ⟨g,cap,cur,hg,_,hh,hnc,hcm,hcs,htake⟩
         ·rw [hg]
          have hj0:j.toNat=0:=omg_
          refine ⟨_,j8m hd (s:=el.size) (len:=0) (by rw [j29 hT hte,hsz]) hvl (by rw [hn] at hvh;exact hvh) omg_ omg_,?_,by simp;rfl⟩
          rw [hj0]
          simpa using Õ w 0 e el.size
         ·rw [hg]
          refine ⟨_,j8m hd (s:=el.size) (by rw [j29 hT hte,hsz]) hvl hvh omg_ omg_,?_,?_⟩
          ·refine ⟨?_,.inr ⟨g,cap,cur,?_,kq _,hh,omg_,hcm,hcs,?_⟩⟩
           ·rw [j91 _ hcl,qq,hown.1,hlt]
            exact É (kf _ hjl)
           ·rw [hlt]
            by_cases hc:cap=0
            ·simp [hc]
            ·simp [hc,Å]
           ·rw [hlt,j91 _ hcl,←htake,Ý,É (kf _ hjl)]
          ·by_cases hc:cap=0
           ·simp [hc];rfl
           ·simp [hc,Å];rfl
        obtain ⟨v',hrun,hrow,hblk⟩:=key
        have hfacts:∀ g,blk v'=D g→Own w0 refs g∧(∀ k' b,(σ.setB k .gone).bx k' = .live b→blk (γ k')≠D g)∧g<w.heap.size:=by
         intro g hg
         rw [hblk,hz] at hg
         refine ⟨?_,fun k' b' hb' hg'=> ?_,j44 (hR.box k _ hk) hg⟩
         ·rcases hR.own k _ g hk hg with h | h
          ·exact h
          ·rw [hkp] at h;simp at h
         ·have hkk:k'≠k:=by rintro rfl;rw [j0r] at hb';simp at hb'
          rw [j09 σ _ hkk] at hb'
          exact hR.apart k' k _ _ g hkk hb' hk hg' hg
        obtain ⟨hRn,hcn⟩:=jeX hR1 hd1 (hm:=hnm) (w':=w) (S':=S) (v':=v') (e:=e) (el:=el) (zs:=W j.toNat xs) (frz:=U) (css:=W j.toNat css) (.refl S w) (fun g hg hne=>rfl) (jz _) hfacts
         (fun g o hs=> .inl hs) rfl rfl rfl hrow (hall.take _) (fun g hg=>⟨fun _=>(hS g (by rw [←hz,←hblk];exact hg)).1 rfl,smp_⟩) (fun g hg=>hR.kw_live hk (by rw [←hz,←hblk];exact hg))
        exact ⟨v',S,_,hrun,hRn,hcn⟩
       ·simp at h
      ·-- shared
       simp only [jb,jf,ji,jq] at h
       obtain ⟨⟨h0,h1,h2⟩,rfl,rfl⟩:=h
       obtain ⟨S',hR',hst,hrep⟩:=jhD hR hnm hk hkp
       have hrep':=hrep
       obtain ⟨ad,cap,hv,hle,_⟩:=hrep
       simp at hv
       rw [hv] at hrep'
       refine ⟨_,S',γ,by rw [hz,hv];exact j8m hd (s:=el.size) (by rw [j29 hT hte,hsz]) (jd4 hi' hlo h0) (jd4 hj' hhi omg_) omg_ omg_,hR',jnN hrep' omg_ omg_,fun _=>rfl⟩
     ·simp at h
    ·simp at h
   ·simp at h
 ·-- of a head
  rename_i k m
  split at h
  ·rename_i e el xs f hk
   split at h
   ·rename_i hty
    obtain ⟨hty,hhs⟩:=hty
    obtain ⟨hd,_,te,hte,htea⟩:=j51 hT ht hty
    have hsz:=j8X hT hte htea
    split at h
    ·rename_i i j hi' hj'
     simp only [jb,jf,ji,jq] at h
     obtain ⟨⟨h0,h1,h2⟩,rfl,rfl⟩:=h
     have hnm:=hrd.nm hk
     have hk:=hrd.live hk
     obtain ⟨_,hm,ad,cap,hg,hz⟩:=hx.2.2 _ hk
     obtain ⟨css,hown,_⟩:=jqV hg (hR.box k _ hk)
     have hcap:xs.length≤cap:=by
      rcases hown.2 with ⟨hg',hn⟩ | ⟨g,cap',cur,hg',_,_,hnc,_⟩
      ·omega
      ·rw [hg] at hg'
       simp only [Z,qm] at hg'
       omega
     have hvh:VB m vhi xs.length:=by
      have:=jd4 hj' hhi omg_
      rw [h2,je] at this
      rcases this with ⟨h3,_⟩ | h3
      ·cases hi with
       | none=>simp at hhs
       | some y=>subst h3;exact hhi.elim
      ·exact .inr h3
     have hrun:=j8m (ad:=ad) (w:=w) hd (s:=el.size) (by rw [j29 hT hte,hsz]) (jd4 hi' hlo h0) hvh omg_ hcap
     subst hz
     refine ⟨_,S,γ,hrun,hR,⟨hx.1,rfl,fun b hb=> ?_⟩,fun _=>rfl⟩
     rw [show (σ.upd []).bx k=σ.bx k from rfl,hk] at hb;cases hb
     exact ⟨hnm,omg_,ad,cap,hg,rfl⟩
    ·simp at h
   ·simp at h
  ·simp at h
 ·simp at h
theorem js2 {P:À} {E:Env} (hT:j1Q P E.T) (hR:Rel N np S0 w0 refs σ a w S γ) {rd:H→BS} (hrd:RdOk σ rd) {t:Æ} {ti:TyI} (ht:E.T t=D ti)
  {x mx:Leaf} {lo hi:Á Leaf} {vx vm:G} {vlo vhi:Á G} (h:jle rd ti x lo hi mx=D Ä)
  (hx:j0b S w γ σ.bx x vx) (hlo:ORep (j0b S w γ σ.bx) lo vlo) (hhi:ORep (j0b S w γ σ.bx) hi vhi) (hmx:j0b S w γ σ.bx mx vm) :
  ∃ v,(å t vx vlo vhi (D vm)).run P w = .ok v w:=by
 unfold jle at h
 split at h
 case h_2=>simp at h
 rename_i k k1 i k2 j k3 m
 split at h
 case h_2=>simp at h
 rename_i e el xs f hk
 split at h
 case isFalse=>simp at h
 rename_i hty
 simp only [jb,ji,jq] at h
 obtain ⟨h0,h1,h2,h3⟩:=h
 obtain ⟨hd,_,te,hte,htea⟩:=j51 hT ht hty
 have hsz:=j8X hT hte htea
 have hnm:=hrd.nm hk
 have hk:=hrd.live hk
 have hz:=hx.2.2 _ hk
 cases vlo with
 | none=>exact hlo.elim
 | some vl=>
 cases vhi with
 | none=>exact hhi.elim
 | some vh=>
 have e1:vl = .int k1 i:=j8k (S:=S) (w:=w) hlo
 have e2:vh = .int k2 j:=j8k (S:=S) (w:=w) hhi
 have e3:vm = .int k3 m:=j8k (S:=S) (w:=w) hmx
 subst e1 e2 e3
 obtain ⟨css,hown,_⟩:=j5B hnm (hR.box k _ hk)
 have he:=jtg hd
 have hd':P.underlying t=D (.slice (P.elem t)):=by rw [he];exact hd
 rw [run_sliceAt_slice w t _ _ _ _ hd']
 have hs':(sizeOf (P.elem t)).run P w = .ok el.size w:=by rw [he];rw [j29 hT hte,hsz]
 have key:∀ ad n cap,(m:Int)≤(cap:H)→∃ v,(Instr.slice t (.slice ad n cap) (D (.int k1 i)) (D (.int k2 j)) (D (.int k3 m))).run P w = .ok v w:=by
  intro ad n cap hc
  rw [run_slice_lhm w t ad n cap hd' _ _ _ _ _ _ h0 h1 h2 hc,hs']
  exact ⟨_,rfl⟩
 rcases hown.2 with ⟨hg,hn⟩ | ⟨g,cap,cur,hg,_,hh,hnc,_⟩
 ·rw [hz,hg];exact key _ _ _ (ye h3 omg_)
 ·rw [hz,hg];exact key _ _ _ (ye h3 omg_)
theorem jth (hR:Rel N np S0 w0 refs σ a w S γ) {x:Leaf} {k i e:H} {el:Ty} {xs:F el.den} {f:Ö} {vx:G} (h:jqR x=D (k,i)) (hnm:isM e=U) (hk:σ.bx k = .live (.lst e el xs f))
  (hx:j0b S w γ σ.bx x vx):i≤xs.length∧((xs.length=0∧vx = .slice M 0 0)∨
   ∃ g cap,γ k = .slice (D ⟨g,0,M⟩) xs.length cap∧xs.length≤cap∧vx = .slice (D ⟨g,if cap=i then 0 else i*el.size,M⟩) (xs.length-i) (cap-i)):=by
 obtain ⟨css,hown,hall,hS⟩:=j5B hnm (hR.box k _ hk)
 unfold jqR at h
 split at h
 ·simp only [jb,jf] at h
  obtain ⟨rfl,rfl⟩:=h
  have hz:=hx.2.2 _ hk
  refine ⟨kq _,?_⟩
  rcases hown.2 with ⟨hg,hn⟩ | ⟨g,cap,cur,hg,_,hh,hnc,hcm,hcs,htake⟩
  ·exact .inl ⟨hn,by rw [hz,hg]⟩
  ·exact .inr ⟨g,cap,hg,hnc,by rw [hz,hg];simp⟩
 ·rename_i k' i'
  simp only [jb,jf] at h
  obtain ⟨rfl,rfl⟩:=h
  obtain ⟨_,hi,ad,cap,hg',hv⟩:=hx.2.2 _ hk
  refine ⟨hi,?_⟩
  rcases hown.2 with ⟨hg,hn⟩ | ⟨g,cap',cur,hg,_,hh,hnc,hcm,hcs,htake⟩
  ·rw [hg] at hg'
   simp only [Z] at hg'
   obtain ⟨rfl,_,rfl⟩:=hg'
   exact .inl ⟨hn,by rw [hv];simp;omega⟩
  ·rw [hg] at hg'
   simp only [Z,qm] at hg'
   obtain ⟨rfl,rfl⟩:=hg'
   refine .inr ⟨g,cap',hg,hnc,?_⟩
   rw [hv]
   by_cases hc:cap'=i'
   ·rw [if_pos hc,if_pos hc]
   ·rw [if_neg hc,if_neg hc];simp [Å]
 ·simp at h
theorem jhF {P:À} (hR:Rel N np S0 w0 refs σ a w S γ) {k i e g cap:H} {el:Ty} {xs zs:F el.den} (hk:σ.bx k = .live (.lst e el xs U)) (hg:γ k = .slice (D ⟨g,0,M⟩) xs.length cap)
  {cz:F (F G)} (hz:All2 (fun x c=>Rep S w el x c) zs cz) (hl:i+zs.length≤xs.length) :
  ∃ w',(storeCells ⟨g,i*el.size,M⟩ cz.flatten).run P w = .ok () w'∧Rel N np S0 w0 refs (σ.setB k (.live (.lst e el (W i xs++(zs++Ë (i+zs.length) xs)) U))) a w' S γ:=by
 have hnm:=jyX hg (hR.box k _ hk)
 obtain ⟨css,hown,hall,hS⟩:=j5B hnm (hR.box k _ hk)
 have hlz:cz.flatten.length=zs.length*el.size:=All2.flatten_length (fun x c hx=>Rep.length el x c hx) hz
 have h1:∀ u∈cz.flatten,One u:=by
  intro u hu
  obtain ⟨c,hc,huc⟩:=List.mem_flatten.1 hu
  obtain ⟨x,_,hx⟩:=hz.mem_right c hc
  exact Rep.one el x c hx u huc
 rcases hown.2 with ⟨hg',hn⟩ | ⟨g',cap',cur,hg',_,hh,hnc,hcm,hcs,htake⟩
 ·rw [hg] at hg';simp at hg'
 rw [hg] at hg'
 simp only [Z,jb,Addr.mk.injEq,and_true,qm] at hg'
 obtain ⟨rfl,rfl⟩:=hg'
 have hm1:i*el.size+zs.length*el.size≤xs.length*el.size:=by rw [←Ç];exact kf _ hl
 have hm2:xs.length*el.size≤cap*el.size:=kf _ hnc
 have hst:=run_storeCells_at P g (i*el.size) e cz.flatten 0 cur w hh (by rw [hlz,hcs];omega) h1
 simp only [ó] at hst
 refine ⟨_,hst,?_⟩
 have hcl:=All2.all_len hall
 have hczl:=All2.all_len hz
 have hnS:∀ o,¬ S g o:=(hS g (by rw [hg];rfl)).1 rfl
 refine jcn hR hk (by rw [hg];rfl) hnS (b':= .lst e el _ U) ⟨rfl,rfl,fun _=>sqo_⟩ hh (fun hle2 hst2=> ?_)
 have hlen:(W i xs++(zs++Ë (i+zs.length) xs)).length=xs.length:=sqo_
 refine jhy hnm ⟨css.take i++(cz++css.drop (i+zs.length)),⟨?_,.inr ⟨g,cap,_,?_,kq _,setRow_heap w g cur _ e (0,0) hh,by rw [hlen];exact hnc,hcm,?_,?_⟩⟩,?_,fun g' hg'=> ?_⟩
 ·rw [hlen,jd3 (m:=el.size)]
  ·have:=hall.length;have:=hz.length;simp only [jo,qq,qz];congr 1;omega
  ·intro d hd
   simp only [js] at hd
   rcases hd with hd | hd | hd
   ·exact hcl d (qp hd)
   ·exact hczl d hd
   ·exact hcl d (zk hd)
 ·rw [hlen];exact hg
 ·simp only [y9,jo,qq,qz,q8];omega
 ·rw [hlen]
  simp only [yh,j91 i hcl,jel _ hcl,←htake]
  have hA:(cur.toList.take (i*el.size)).length=i*el.size:=sqo_
  rw [jr,Ø,hA,Y omg_,Ý,É omg_]
  congr 1
  rw [Ø,hlz,Y omg_,Ç]
  congr 1
  rw [ÿ]
  congr 1
  omega
 ·exact ((hall.mono (fun x c hx=>Rep.keep hst2 _ _ _ hx)).take _).append ((hz.mono (fun x c hx=>Rep.keep hst2 _ _ _ hx)).append ((hall.mono (fun x c hx=>Rep.keep hst2 _ _ _ hx)).drop _))
 ·rw [hg] at hg';simp [blk] at hg';subst hg'
  exact ⟨fun _=>hnS,smp_⟩
theorem jnO {σ:St} {k:H} {b:BS} (h:σ.bx k=b):σ.setB k b=σ:=by
 unfold St.setB
 congr 1
 funext j
 split
 ·rename_i hj;subst hj;exact h.symm
 ·rfl
theorem jti {P:À} {E:Env} (hT:j1Q P E.T) (hR:Rel N np S0 w0 refs σ a w S γ) {rd:H→BS} (hrd:RdOk σ rd) {t ty:Æ} {ti:TyI} (ht:E.T t=D ti)
  {x y l:Leaf} {u:Ups} {vx vy:G} (h:jrP rd ti.ty x y=D (l,u)) (hx:j0b S w γ σ.bx x vx) (hy:j0b S w γ σ.bx y vy) :
  ∃ v w',(ç #[t,t] ty #[vx,vy]).run P w = .ok v w'∧Rel N np S0 w0 refs (σ.upd u) a w' S γ∧j0k S w' γ (σ.upd u).bx (.one l) v:=by
 unfold jrP at h
 split at h
 ·rename_i k i htl
  split at h
  ·rename_i e el xs hk
   split at h
   ·rename_i hty
    split at h
    ·rename_i ys hys
     simp only [jb,jf] at h
     obtain ⟨rfl,rfl⟩:=h
     have hnm:=hrd.nm hk
     have hk:=hrd.live hk
     obtain ⟨hd,hpos,te,hte,htea⟩:=j51 hT ht hty
     have hsz:=j8X hT hte htea
     have hsize:(sizeOf ti.elem).run P w = .ok el.size w:=by rw [j29 hT hte,hsz]
     obtain ⟨ad,c,cy,hvy,hnil,hcy,hcell⟩:=jqY hR hrd hys hy
     subst hvy
     obtain ⟨hi,hcase⟩:=jth hR htl hnm hk hx
     have hcyl:=All2.all_len hcy
     have hyl:cy.length=ys.length:=hcy.length.symm
     have hzl:(W (xs.length-i) ys).length=min ys.length (xs.length-i):=sqo_
     have hov:over xs i ys=W i xs++(W (xs.length-i) ys++Ë (i+(W (xs.length-i) ys).length) xs):=by
      unfold over
      congr 2
      rw [hzl]
      by_cases h:ys.length≤xs.length-i
      ·rw [É h]
      ·rw [Nat.min_eq_right omg_,jj omg_,jj omg_]
     have hload:(Ó el.size (min ys.length (xs.length-i)) (.slice ad ys.length c)).run P w = .ok (W (xs.length-i) cy).flatten.toArray w:=by
      cases ad with
      | none=>
       have h0:=(hnil rfl).1
       have:cy=[]:=ka omg_
       subst this
       simp [Ó]
      | some b=>
       have e1:(W (xs.length-i) cy).flatten.length=min ys.length (xs.length-i)*el.size:=by
        rw [jd3 (m:=el.size) (fun c hc=>hcyl c (qp hc)),qq,hyl,Nat.min_comm]
       have:=run_loadCells_list (P:=P) w b (W (xs.length-i) cy).flatten (fun j v hj=>by
        rw [j91 _ hcyl,qy] at hj
        split at hj
        ·exact hcell b rfl j v hj
        ·simp at hj)
       rw [e1] at this
       simpa [Ó] using this
     have hrun:∀ base dl dc w',vx = .slice base dl dc→dl=xs.length-i→(base=M→w'=w)→(∀ ab,base=D ab→(storeCells ab (W (xs.length-i) cy).flatten).run P w = .ok () w')→
       (ç #[t,t] ty #[vx,.slice ad ys.length c]).run P w = .ok (goInt ((min ys.length (xs.length-i):H):Int)) w':=by
      intro base dl dc w' hv hdl hb1 hb2
      subst hv hdl
      have hmin:Nat.min ys.length (xs.length-i)=min ys.length (xs.length-i):=rfl
      cases base with
      | none=>simp [ç,run_underlying hd,ð,hsize,hmin,hload,hb1 rfl]
      | some ab=>simp [ç,run_underlying hd,ð,hsize,hmin,hload,hb2 ab rfl]
     by_cases hn:min ys.length (xs.length-i)=0
     ·have hz:W (xs.length-i) ys=[]:=ka (by rw [hzl];exact hn)
      have hzc:(W (xs.length-i) cy).flatten=[]:=by
       have:W (xs.length-i) cy=[]:=ka (by rw [qq,hyl];omega)
       rw [this];rfl
      have hov':over xs i ys=xs:=by rw [hov,hz];simp
      refine ⟨_,w,?_,?_,⟨rfl,fun _=>rfl⟩⟩
      ·rcases hcase with ⟨h0,hv⟩ | ⟨g,cap,hg,hcap,hv⟩
       ·exact hrun M 0 0 w hv omg_ (fun _=>rfl) (fun ab hab=>by simp at hab)
       ·refine hrun _ _ _ w hv rfl (fun _=>rfl) (fun ab hab=> ?_)
        rw [hzc];rfl
      ·show Rel N np S0 w0 refs (σ.setB k (.live (.lst e el (over xs i ys) U))) a w S γ
       rw [hov',jnO hk]
       exact hR
     ·rcases hcase with ⟨h0,hv⟩ | ⟨g,cap,hg,hcap,hv⟩
      ·omega
      ·have hci:cap≠i:=omg_
       rw [if_neg hci] at hv
       obtain ⟨w',hst,hRn⟩:=jhF (P:=P) hR hk hg (i:=i) (hcy.take (xs.length-i)) (by rw [hzl];omega)
       refine ⟨_,w',hrun _ _ _ w' hv rfl (fun h=>by simp at h) (fun ab hab=> ?_),?_,⟨rfl,fun _=>rfl⟩⟩
       ·simp only [jb] at hab;subst hab;exact hst
       ·show Rel N np S0 w0 refs (σ.setB k (.live (.lst e el (over xs i ys) U))) a w' S γ
        rw [hov]
        exact hRn
    ·simp at h
   ·simp at h
  ·simp at h
 ·simp at h
theorem js3 {P:À} {E:Env} (hT:j1Q P E.T) (hR:Rel N np S0 w0 refs σ a w S γ) {rd:H→BS} (hrd:RdOk σ rd) {t ty:Æ} {ti:TyI} (ht:E.T t=D ti)
  {x:Leaf} {u:Ups} {vx:G} (h:jlf rd ti.ty x=D u) (hx:j0b S w γ σ.bx x vx) :
  ∃ v w',(ß #[t] ty #[vx]).run P w = .ok v w'∧Rel N np S0 w0 refs (σ.upd u) a w' S γ:=by
 unfold jlf at h
 split at h
 ·rename_i k i htl
  split at h
  ·rename_i e el xs hk
   split at h
   ·rename_i hty
    simp only [jb] at h
    subst h
    have hnm:=hrd.nm hk
    have hk:=hrd.live hk
    obtain ⟨hd,hpos,te,hte,htea⟩:=j51 hT ht hty
    have hsz:=j8X hT hte htea
    obtain ⟨z,hz,hzc⟩:=jd0 hT hte w htea
    obtain ⟨hi,hcase⟩:=jth hR htl hnm hk hx
    by_cases hn:xs.length-i=0
    ·have hov:W i xs++O (xs.length-i) el.dflt=xs:=by rw [hn];simp [Y (show xs.length≤i by omega)]
     refine ⟨.tuple #[],w,?_,?_⟩
     ·rcases hcase with ⟨h0,hv⟩ | ⟨g,cap,hg,hcap,hv⟩
      ·simp [ß,run_underlying hd,hv]
      ·rw [hn] at hv
       simp [ß,run_underlying hd,hv]
     ·show Rel N np S0 w0 refs (σ.setB k (.live (.lst e el (W i xs++O (xs.length-i) el.dflt) U))) a w S γ
      rw [hov,jnO hk]
      exact hR
    ·rcases hcase with ⟨h0,hv⟩ | ⟨g,cap,hg,hcap,hv⟩
     ·omega
     ·have hci:cap≠i:=omg_
      rw [if_neg hci] at hv
      have hrl:All2 (fun x c=>Rep S w el x c) (O (xs.length-i) el.dflt) (O (xs.length-i) (jci el)):=by
       have h0:=j6S (S:=S) (w:=w) el
       have:∀ n,All2 (fun x c=>Rep S w el x c) (O n el.dflt) (O n (jci el)):=by
        intro n
        induction n with
        | zero=>exact trivial
        | succ n ih=>exact ⟨h0,ih⟩
       exact this _
      obtain ⟨w',hst,hRn⟩:=jhF (P:=P) hR hk hg (i:=i) hrl sqo_
      refine ⟨.tuple #[],w',?_,?_⟩
      ·have hzp:0<z.cells.size:=by
        have:=jgA hzc
        omega
       have hcells:(Builtin.zeroCells z.cells (xs.length-i)).toList=(O (xs.length-i) (jci el)).flatten:=by
        rw [←hzc]
        exact jlp z.cells (xs.length-i) hzp
       rw [hv]
       obtain ⟨m,hm⟩:∃ m,xs.length-i=m+1:=⟨xs.length-i-1,omg_⟩
       rw [hm] at hcells hst ⊢
       simp [ß,run_underlying hd,hz,hcells,hst]
      ·show Rel N np S0 w0 refs (σ.setB k (.live (.lst e el (W i xs++O (xs.length-i) el.dflt) U))) a w' S γ
       have:Ë (i+(O (xs.length-i) el.dflt).length) xs=[]:=jj sqo_
       rw [this,ql] at hRn
       exact hRn
   ·simp at h
  ·simp at h
 ·simp at h
theorem jvI {P:À} {E:Env} (hT:j1Q P E.T) (hR:Rel N np S0 w0 refs σ a w S γ) {rd:H→BS} (hrd:RdOk σ rd) {t ty:Æ} {ti:TyI} (ht:E.T t=D ti) {el:Ty} (hty:ti.ty=D (.list el))
  {s x v:Leaf} {u:Ups} {vs vx:G} (h:appH rd ti.elem el s x=D (Ä,v,u)) (hs:j0b S w γ σ.bx s vs) (hx:j0b S w γ σ.bx x vx) :
  ∃ z w',(Ì #[t,t] ty #[vs,vx]).run P w = .ok z w'∧Rel N np S0 w0 refs (σ.upd u) a w' S γ∧j0b S w' γ (σ.upd u).bx v z∧One z:=by
 unfold appH at h
 split at h
 case h_2=>simp at h
 rename_i k i k' j
 split at h
 case isFalse=>simp at h
 rename_i hkk
 subst hkk
 split at h
 case h_2=>simp at h
 rename_i e b xs hk
 split at h
 case isFalse=>simp at h
 rename_i hb
 obtain ⟨hb,he⟩:=hb
 subst hb
 subst he
 simp only [jb,jf,jq] at h
 obtain ⟨hij,rfl,rfl⟩:=h
 obtain ⟨hd,_,te,hte,htea⟩:=j51 hT ht hty
 have hsz:=j8X hT hte htea
 obtain ⟨inf,d,hi,_,hs2,_⟩:=j4D hT hte
 have hisz:inf.size=b.size:=by rw [hs2,←hsz]
 have hnm:=hrd.nm hk
 have hk:=hrd.live hk
 obtain ⟨_,hin,ad,cap,hg,hvs⟩:=hs.2.2 _ hk
 obtain ⟨_,hjn,ad',cap',hg',hvx⟩:=hx.2.2 _ hk
 rw [hg] at hg'
 simp only [Z,qm] at hg'
 obtain ⟨rfl,rfl⟩:=hg'
 obtain ⟨css,hown,hall,hS⟩:=jqV hg (hR.box k _ hk)
 have hcl:=All2.all_len hall
 have hlen':(W i xs++(Ë j xs++Ë (i+(xs.length-j)) xs)).length=xs.length:=sqo_
 have hleaf:∀ (w':Â),j0b S w' γ (σ.setB k (.live (.lst ti.elem b (W i xs++(Ë j xs++Ë (i+(xs.length-j)) xs)) U))).bx (.hd k (i+(xs.length-j))) (.slice ad (i+(xs.length-j)) cap):=by
  intro w'
  refine ⟨by rw [j0r];simp,rfl,fun b' hb'=> ?_⟩
  rw [j0r] at hb';cases hb'
  exact ⟨hnm,by rw [hlen'];omega,ad,cap,by rw [hlen'];exact hg,rfl⟩
 rcases hown.2 with ⟨hg2,hn⟩ | ⟨g,cap2,cur,hg2,_,hh,hnc,hcm,hcs,htake⟩
 ·rw [hg] at hg2
  simp only [Z] at hg2
  obtain ⟨rfl,_,rfl⟩:=hg2
  have hx0:xs=[]:=ka hn
  subst hx0
  have hi0:i=0:=by simpa using hin
  have hj0:j=0:=by simpa using hjn
  subst hi0 hj0
  have hrun:=run_append_owned_none (P:=P) w 0 t ty ti.elem inf b.size hd hi (.slice M 0 0) 0 [] (Õ w 0 ti.elem b.size)
  have hid:σ.setB k (.live (.lst ti.elem b ([]:F b.den) U))=σ:=by
   show St.mk σ.sl _=σ
   have:(fun j=>if j=k then BS.live (.lst ti.elem b ([]:F b.den) U) else σ.bx j)=σ.bx:=by
    funext j
    by_cases hj:j=k
    ·subst hj;simp [hk]
    ·simp [hj]
   rw [this]
  refine ⟨_,w,by rw [hvs,hvx];exact hrun,?_,hleaf w,rfl⟩
  show Rel N np S0 w0 refs (σ.setB k (.live (.lst ti.elem b ([]:F b.den) U))) a w S γ
  rw [hid];exact hR
 ·rw [hg] at hg2
  simp only [Z,qm] at hg2
  obtain ⟨rfl,rfl⟩:=hg2
  obtain ⟨w',hst,hRn⟩:=jhF (P:=P) (i:=i) hR hk hg (hall.drop j) sqo_
  have hlz:(css.drop j).flatten.length=(xs.length-j)*b.size:=by
   have:=All2.flatten_length (fun x c hx=>Rep.length b x c hx) (hall.drop j)
   simpa using this
  have h1:∀ u∈(css.drop j).flatten,One u:=by
   intro u hu
   obtain ⟨c,hc,huc⟩:=List.mem_flatten.1 hu
   obtain ⟨x,_,hx⟩:=(hall.drop j).mem_right c hc
   exact Rep.one b x c hx u huc
  have hm1:i*b.size+(xs.length-j)*b.size≤xs.length*b.size:=by rw [←Ç];exact kf _ omg_
  have hm2:xs.length*b.size≤cap*b.size:=kf _ hnc
  have hst2:=run_storeCells_at P g (i*b.size) _ (css.drop j).flatten 0 cur w hh (by rw [hlz,hcs];omega) h1
  simp only [ó] at hst2
  have hw:w'=w.setRow g (cur.toList.take (i*b.size)++(css.drop j).flatten++cur.toList.drop (i*b.size+(css.drop j).flatten.length)).toArray:=by
   have:=hst.symm.trans hst2
   simpa using this
  have hcells:∀ q u,(css.drop j).flatten[q]? = D u→w.cell? ((⟨g,if cap=j then 0 else j*b.size,M⟩:Addr).add q)=D u:=by
   intro q u hq
   have hql:q<(xs.length-j)*b.size:=by rw [←hlz];exact (kb.1 hq).1
   have hc:¬ cap=j:=by
    intro hc
    have:xs.length-j=0:=omg_
    rw [this] at hql;simp at hql
   rw [if_neg hc,Å]
   rw [jel j hcl,á] at hq
   have:=hown.cells (g:=g) (by rw [hg];rfl) _ u hq
   rwa [Å,kj] at this
  have hrun:=run_append_room (P:=P) w t ty ti.elem inf hd hi g i cap cur (by exact hh) ⟨g,if cap=j then 0 else j*b.size,M⟩ (xs.length-j) (cap-j) (css.drop j).flatten (by rw [hisz];exact hlz) hcells h1 omg_
   (by rw [hisz,hlz,hcs];omega)
  have hvx':vx = .slice (D ⟨g,if cap=j then 0 else j*b.size,M⟩) (xs.length-j) (cap-j):=by
   rw [hvx]
   by_cases hc:cap=j
   ·rw [if_pos hc,if_pos hc]
   ·rw [if_neg hc,if_neg hc];simp [Å]
  refine ⟨_,w',by rw [hvs,hvx',hrun,hw,hisz],?_,hleaf w',rfl⟩
  have:(Ë j xs).length=xs.length-j:=smp_
  rw [this] at hRn
  exact hRn
theorem jvJ (hR:Rel N np S0 w0 refs σ a w S γ) {rdf:H→BS} (hrdf:RdF np σ rdf) {e:H} {el:Ty} {s:Leaf} {m:H} {ls:F Leaf} {u:Ups} {vs:G} (h:rowS rdf e el s=D (m,ls,u)) (hs:j0b S w γ σ.bx s vs) :
  ∃ cs,w.ownsRow 0 e el.size vs m cs∧All2 (j0b S w γ σ.bx) ls cs∧(∀ u∈cs,One u)∧Rel N np S0 w0 refs (σ.upd u) a w S γ∧BxLe γ σ.bx γ (σ.upd u).bx∧
   (∀ k,σ.bx k = .free→(σ.upd u).bx k = .free)∧∀ g,blk vs=D g→(∀ o,¬ S g o)∧Own w0 refs g∧refs.kw g=M∧g<w.heap.size∧∀ k b,(σ.upd u).bx k = .live b→blk (γ k)≠D g:=by
 unfold rowS at h
 split at h
 ·simp only [jb,jf] at h
  obtain ⟨rfl,rfl,rfl⟩:=h
  have hz:vs = .slice M 0 0:=hs
  subst hz
  exact ⟨[],Õ w 0 e el.size,trivial,smp_,hR,.refl _ _,fun k h=>h,fun g hg=>by simp [blk] at hg⟩
 ·rename_i k
  split at h
  case h_2=>simp at h
  rename_i e' a' m' ls' hk
  split at h
  case isFalse=>simp at h
  rename_i hc
  obtain ⟨rfl,rfl⟩:=hc
  simp only [jb,jf] at h
  obtain ⟨rfl,rfl,rfl⟩:=h
  have hk':=hrdf.ok.live hk
  have hz:vs=γ k:=hs.2.2 _ hk'
  subst hz
  obtain ⟨_,⟨cs,hown,hall,h1⟩,hS⟩:=hR.box k _ hk'
  refine ⟨cs,hown,hall,h1,jeW hR hk',?_,?_,fun g hg=>⟨hS g hg,?_,hR.kw_live hk' hg,j44 (hR.box k _ hk') hg,?_⟩⟩
  ·intro k' hk2
   show (σ.setB k .gone).bx k'≠_∧_
   by_cases hkk:k'=k
   ·subst hkk;exact ⟨by rw [j0r];simp,rfl,fun b hb=>by have hb:(σ.setB k' .gone).bx k' = .live b:=hb;rw [j0r] at hb;simp at hb⟩
   ·exact ⟨by rw [j09 _ _ hkk];exact hk2,rfl,fun b hb=>by have hb:(σ.setB k .gone).bx k' = .live b:=hb;rw [j09 _ _ hkk] at hb;exact ⟨b,hb,.refl b⟩⟩
  ·intro k' h
   show (σ.setB k .gone).bx k'=_
   rw [j09 _ _ (by rintro rfl;rw [h] at hk';simp at hk')];exact h
  ·rcases hR.own k _ g hk' hg with h | h
   ·exact h
   ·rw [hrdf.par hk] at h;simp at h
  ·intro k' b hb hg'
   have hb:(σ.setB k .gone).bx k' = .live b:=hb
   by_cases hkk:k'=k
   ·subst hkk;rw [j0r] at hb;simp at hb
   ·rw [j09 _ _ hkk] at hb
    exact hR.apart k' k _ _ g hkk hb hk' hg' hg
 ·simp at h
theorem jvK {P:À} {E:Env} (hT:j1Q P E.T) (hR:Rel N np S0 w0 refs σ a w S γ) {rd rdf:H→BS} (hrd:RdOk σ rd) (hrdf:RdF np σ rdf) {t ty:Æ} {ti:TyI} (ht:E.T t=D ti) {el:Ty} (hty:ti.ty=D (.list el)) {n:H}
  {s x v:Leaf} {u:Ups} {vs vx:G} (h:appN rd rdf ti.elem el n s x=D (v,u)) (hs:j0b S w γ σ.bx s vs) (hx:j0b S w γ σ.bx x vx) :
  ∃ z w' γ',(Ì #[t,t] ty #[vs,vx]).run P w = .ok z w'∧Rel N np S0 w0 refs (σ.upd u) a w' S γ'∧j0b S w' γ' (σ.upd u).bx v z∧One z:=by
 unfold appN at h
 split at h
 case h_2=>simp at h
 rename_i k
 split at h
 case h_2=>simp at h
 rename_i e' a' m ls hk
 split at h
 case h_2=>simp at h
 rename_i m0 ls0 u0 hrs
 split at h
 case isFalse=>simp at h
 rename_i hc
 obtain ⟨⟨rfl,rfl⟩,hany,hmax,hfr⟩:=hc
 simp only [jb,jf] at h
 obtain ⟨rfl,rfl⟩:=h
 have hn:=hrd.free hfr
 have hk':=hrdf.ok.live hk
 have hz:vx=γ k:=hx.2.2 _ hk'
 subst hz
 obtain ⟨hnm,⟨cs,hown,hall,h1⟩,hSk⟩:=hR.box k _ hk'
 obtain ⟨cs0,hown0,hall0,h10,hR1,hle1,hfree1,hvs⟩:=jvJ hR hrdf hrs hs
 have hk1:(σ.upd u0).bx k = .live (.row ti.elem a' m ls):=(j1R u0 σ hany).trans hk'
 have hR2:=jeW hR1 hk1
 have hn2:((σ.upd u0).setB k .gone).bx n = .free:=by
  rw [j09 _ _ (by rintro rfl;rw [hn] at hk';simp at hk')]
  exact hfree1 n hn
 have hle2:BxLe γ σ.bx γ ((σ.upd u0).setB k .gone).bx:=by
  intro k' hk2
  obtain ⟨q1,q2,q3⟩:=hle1 k' hk2
  by_cases hkk:k'=k
  ·subst hkk;exact ⟨by rw [j0r];simp,rfl,fun b hb=>by rw [j0r] at hb;simp at hb⟩
  ·rw [j09 _ _ hkk];exact ⟨q1,q2,q3⟩
 obtain ⟨ad,c,hgx,hnil,hnews⟩:∃ ad c,γ k = .slice ad m c∧(ad=M→m=0∧c=0)∧∀ b,ad=D b→∀ (j:H) (u:G),cs[j]? = D u→w.cell? (b.add j)=D u:=by
  rcases hown.2 with ⟨h2,h3⟩ | ⟨g,cap,cur,h2,_,hh,_,_,_,htake⟩
  ·exact ⟨M,0,by rw [h2,h3],fun _=>⟨h3,rfl⟩,fun b hb=>by simp at hb⟩
  ·exact ⟨D ⟨g,0,M⟩,cap,h2,fun h=>by simp at h,fun b hb j u hu=>by
    simp at hb;subst hb
    exact hown.cells (g:=g) (by rw [h2];rfl) j u hu⟩
 obtain ⟨v',w',hr,hrow,os,tape,output,hsz,hcase⟩:=jlo (ty:=ty) hT ht hty hown0 (ad:=ad) (m:=m) (c:=c) (news:=cs) hnil hown.1 hnews h1 (by simp only [j05];omega)
 have hheap:∀ g,g<w.heap.size→blk v'≠D g→w'.heap[g]? = w.heap[g]? := by
  intro g hg hne
  rcases hcase with ⟨_,rfl⟩ | ⟨h2,_,h3⟩ | ⟨_,h3⟩
  ·rfl
  ·exact h3 g (by rw [←h2];exact hne)
  ·exact h3 g hg
 have hlt':∀ g,blk v'=D g→g<w'.heap.size:=fun g hg=>by
  rcases hrow.2 with ⟨h2,_⟩ | ⟨g2,cap2,cur2,h2,_,hh2,_⟩
  ·rw [h2] at hg;simp [blk] at hg
  ·rw [h2] at hg;simp [blk] at hg;subst hg;exact (jn.1 hh2).1
 have hv:∀ g,blk v'=D g→(∀ o,¬ S g o)∧Own w0 refs g∧refs.kw g=M∧∀ k' b,((σ.upd u0).setB k .gone).bx k' = .live b→blk (γ k')≠D g:=by
  intro g hg
  have old:blk vs=D g→(∀ o,¬ S g o)∧Own w0 refs g∧refs.kw g=M∧∀ k' b,((σ.upd u0).setB k .gone).bx k' = .live b→blk (γ k')≠D g:=by
   intro h2
   obtain ⟨q1,q2,q3,_,q4⟩:=hvs g h2
   refine ⟨q1,q2,q3,fun k' b hb=> ?_⟩
   by_cases hkk:k'=k
   ·subst hkk;rw [j0r] at hb;simp at hb
   ·rw [j09 _ _ hkk] at hb;exact q4 k' b hb
  rcases hcase with ⟨rfl,_⟩ | ⟨h2,_,_⟩ | ⟨h2,_⟩
  ·exact old hg
  ·exact old (by rw [←h2];exact hg)
  ·rw [hg] at h2;simp at h2;subst h2
   exact ⟨fun o=>jcm hR o,.inl hR.grow,hR.kw_new (jz _),fun k' b hb hb'=>by have:=j44 (hR2.box k' b hb) hb';omega⟩
 have hst:j2O S w S w':=fun g o h=>⟨h,Ð (hheap g (hR.here g o h) (fun hb=>(hv g hb).1 o h))⟩
 obtain ⟨hRn,_⟩:=jxN hR2 hn2 (b:= .row ti.elem a' (m0+m) (ls0++ls)) hst hheap hsz (fun g hg=>⟨(hv g hg).2.1,(hv g hg).2.2.2,hlt' g hg⟩) os tape output (fun hle=>by
  have hle3:BxLe γ σ.bx (gset γ n v') (((σ.upd u0).setB k .gone).setB n (.live (.row ti.elem a' (m0+m) (ls0++ls)))).bx:=fun k' hk2=>by
   obtain ⟨q1,q2,q3⟩:=hle2 k' hk2
   obtain ⟨p1,p2,p3⟩:=hle k' q1
   exact ⟨p1,p2.trans q2,fun b' hb'=>by
    obtain ⟨b1,hb1,hs1⟩:=p3 b' hb'
    obtain ⟨b2,hb2,hs2⟩:=q3 b1 hb1
    exact ⟨b2,hb2,hs2.trans hs1⟩⟩
  refine ⟨hnm,⟨cs0++cs,by rw [j0l];exact hrow,(hall0.append hall).mono (fun x u hx=>j0b.keep hst hle3 hx),fun u hu=>(js.1 hu).elim (h10 u) (h1 u)⟩,fun g hg o=> ?_⟩
  rw [j0l] at hg
  exact (hv g hg).1 o) (fun g hg=>(hv g hg).2.2.1)
 have hone:One v':=by
  rcases hrow.2 with ⟨h2,_⟩ | ⟨g2,cap2,cur2,h2,_⟩<;>rw [h2]<;>rfl
 refine ⟨v',w',gset γ n v',by rw [hgx];exact hr,?_,?_,hone⟩
 ·rw [j3O];exact hRn
 ·rw [j3O]
  exact ⟨by show (((σ.upd u0).setB k .gone).setB n _).bx n≠_;rw [j0r];simp,hone,fun b _=>(j0l γ n v').symm⟩
theorem jvL (hR:Rel N np S0 w0 refs σ a w S γ) {k d e m:H} {el:Ty} {xs:F el.den} (hk:σ.bx k = .live (.lst e el xs U)) (hkp:parK np k=U) (hdf:σ.bx d = .free) {ad:Á Addr} {cap:H} (hm:m≤xs.length)
  (hg:γ k = .slice ad xs.length cap) :
  ∃ γ',Rel N np S0 w0 refs (σ.upd [(k,.gone),(d,.live (.lst e el (W m xs) U))]) a w S γ'∧j0k S w γ' (σ.upd [(k,.gone),(d,.live (.lst e el (W m xs) U))]).bx (.one (.ol d)) (.slice ad m cap):=by
 have hdk:d≠k:=by rintro rfl;rw [hdf] at hk;simp at hk
 have hnm:=jyX hg (hR.box k _ hk)
 obtain ⟨css,hown,hall,hS⟩:=j5B hnm (hR.box k _ hk)
 have hcl:=All2.all_len hall
 have hR1:=jeW hR hk
 have hd1:(σ.setB k .gone).bx d = .free:=by rw [j09 σ _ hdk];exact hdf
 have hlt:(W m xs).length=m:=sqo_
 have hblk:blk (.slice ad m cap)=blk (γ k):=by rw [hg];cases ad<;>rfl
 have hrow:w.ownsRow 0 e el.size (.slice ad m cap) (W m xs).length (W m css).flatten:=by
  refine ⟨?_,?_⟩
  ·rw [j91 _ hcl,qq,hown.1,hlt]
   exact É (kf _ hm)
  ·rcases hown.2 with ⟨hg',hn⟩ | ⟨g,cap',cur,hg',_,hh,hnc,hcm,hcs,htake⟩
   ·rw [hg] at hg'
    simp only [Z] at hg'
    obtain ⟨rfl,_,rfl⟩:=hg'
    exact .inl ⟨by rw [show m=0 by omega],omg_⟩
   ·rw [hg] at hg'
    simp only [Z,qm] at hg'
    obtain ⟨rfl,rfl⟩:=hg'
    refine .inr ⟨g,cap,cur,by rw [hlt],kq _,hh,omg_,hcm,hcs,?_⟩
    rw [hlt,j91 _ hcl,←htake,Ý,É (kf _ hm)]
 have hfacts:∀ g,blk (.slice ad m cap)=D g→Own w0 refs g∧(∀ k' b,(σ.setB k .gone).bx k' = .live b→blk (γ k')≠D g)∧g<w.heap.size:=by
  intro g hg
  rw [hblk] at hg
  refine ⟨?_,fun k' b' hb' hg'=> ?_,j44 (hR.box k _ hk) hg⟩
  ·rcases hR.own k _ g hk hg with h | h
   ·exact h
   ·rw [hkp] at h;simp at h
  ·have hkk:k'≠k:=by rintro rfl;rw [j0r] at hb';simp at hb'
   rw [j09 σ _ hkk] at hb'
   exact hR.apart k' k _ _ g hkk hb' hk hg' hg
 obtain ⟨hRn,hcn⟩:=jeX hR1 hd1 (hm:=hnm) (w':=w) (S':=S) (v':= .slice ad m cap) (e:=e) (el:=el) (zs:=W m xs) (frz:=U) (css:=W m css) (.refl S w) (fun g hg hne=>rfl) (jz _) hfacts
  (fun g o hs=> .inl hs) rfl rfl rfl hrow (hall.take _) (fun g hg=>⟨fun _=>(hS g (by rw [←hblk];exact hg)).1 rfl,smp_⟩) (fun g hg=>hR.kw_live hk (by rw [←hblk];exact hg))
 exact ⟨_,hRn,hcn⟩
end
section
variable {N:NT} {np:H} {S0:j0e} {w0:Â} {refs:Refs} {σ:St} {a:Ü} {w:Â} {S:j0e} {γ:H→G}
theorem jtj {el:Ty} {z:G} (hz:z.cells.toList=jci el) (n:H) (hpos:0<el.size) :
  ∃ css,All2 (fun x c=>Rep S w el x c) (O n el.dflt) css∧((Ï (n*z.cells.size)).map (fun i=>z.cells[i%z.cells.size]!)).toList=css.flatten:=by
 refine ⟨O n (jci el),?_,?_⟩
 ·have hz:=j6S (S:=S) (w:=w) el
  induction n with
  | zero=>exact trivial
  | succ n ih=>exact ⟨hz,ih⟩
 ·rw [jlp z.cells n (by rw [jgA hz];exact hpos),hz]
theorem jkM {P:À} {E:Env} (hT:j1Q P E.T) (hR:Rel N np S0 w0 refs σ a w S γ) {rdf:H→BS} (hrdf:RdF np σ rdf) {t:Æ} {ti:TyI} (ht:E.T t=D ti)
  {el:Ty} (hty:ti.ty=D (.list el)) {len d:H} {ps:F (H×Cel)} {vs:È (H×G)} {xs:F el.den} {u:Ups} (hlen:len*el.size≤16777216)
  (hps:All2 (fun p v=>p.1=v.1∧j0k S w γ σ.bx p.2 v.2) ps vs.toList) (h:j7m rdf el (O len el.dflt) [] ps=D (xs,u)) (hd:σ.bx d = .free) :
  ∃ v' w' S' γ',(Ê t len vs).run P w = .ok v' w'∧Rel N np S0 w0 refs (σ.upd (u++[(d,.live (.lst ti.elem el xs U))])) a w' S' γ'∧
   j0k S' w' γ' (σ.upd (u++[(d,.live (.lst ti.elem el xs U))])).bx (.one (.ol d)) v':=by
 obtain ⟨hdd,hpos,te,hte,htea⟩:=j51 hT ht hty
 have hsz:=j8X hT hte htea
 obtain ⟨hf,hrest⟩:=jhE hrdf hR.box hpos ps vs.toList hps h .nil
 obtain ⟨S1,hR1,hst1,hfz,hsame⟩:=j2B u σ S hR hf
 obtain ⟨z,hz,hzc⟩:=jd0 hT hte w htea
 have hzs:z.cells.size=el.size:=jgA hzc
 obtain ⟨css0,hall0,hc0⟩:=jtj (S:=S1) (w:=w) hzc len hpos
 obtain ⟨cells',css',hfill,hall,hcells⟩:=hrest S1 hst1 hfz css0 _ hall0 hc0
 have hxl:xs.length=len:=by
  have key:∀ (ps:F (H×Cel)) {xs xs':F el.den} {u u':Ups},j7m rdf el xs u ps=D (xs',u')→xs'.length=xs.length:=by
   intro ps
   induction ps with
   | nil=>intro xs xs' u u' h;simp [j7m] at h;rw [h.1]
   | cons p ps ih=>
    intro xs xs' u u' h
    obtain ⟨i,c⟩:=p
    simp only [j7m] at h
    split at h
    ·split at h
     ·rw [ih h];simp
     ·simp at h
    ·simp at h
  rw [key ps h];simp
 have hcs:cells'.size=len*el.size:=by
  have:=All2.flatten_length (fun x c hx=>Rep.length el x c hx) hall
  rw [←hcells,hxl] at this
  simpa using this
 have hzero:(if len*ti.size=0 then (Pure.pure #[]:Sem (È G)) else (do pure (←zeroValue ti.elem).cells))=(if len*ti.size=0 then Pure.pure #[] else (do pure (←zeroValue ti.elem).cells)):=rfl
 have hrun:(Ê t len vs).run P w = .ok (.slice (D ⟨w.heap.size,0,M⟩) len len) (w.alloc (.cells cells' ti.elem)):=by
  have hno:¬ len*te.size>2^24:=by rw [←hsz];omega
  simp only [Ê,J,run_underlying hdd,I,j29 hT hte,ú,if_neg hno]
  by_cases h0:len*te.size=0
  ·have hl0:len=0:=by
    rw [←hsz] at h0
    rcases Nat.mul_eq_zero.1 h0 with h | h
    ·exact h
    ·omega
   subst hl0
   have hfill0:Ñ (fun i=>D (i*te.size,te.size)) ((Ï (0*te.size)).map (fun i=>(#[]:È G)[i%(#[]:È G).size]!)) vs.toList=D cells':=by
    rw [←hsz]
    have:((Ï (0*el.size)).map (fun i=>(#[]:È G)[i%(#[]:È G).size]!))=((Ï (0*z.cells.size)).map (fun i=>z.cells[i%z.cells.size]!)):=by
     apply q9;simp
    rw [this];exact hfill
   rw [Nat.zero_mul] at hfill0
   simp only [h0,if_true,Ã,I,hfill0,J,newRow,run_newObj,Ô]
  ·have hfill1:Ñ (fun i=>D (i*te.size,te.size)) ((Ï (len*te.size)).map (fun i=>z.cells[i%z.cells.size]!)) vs.toList=D cells':=by
    rw [←hsz]
    rw [hzs] at hfill ⊢
    exact hfill
   simp only [h0,zd,J,hz,Ã,I,hfill1,newRow,run_newObj,Ô]
 rw [j3O]
 have hst:=j7c hR1 (.cells cells' ti.elem)
 obtain ⟨hRn,hcn⟩:=jeX hR1 (hsame.free hd) (hm:=jm9 hT ht) (w':=w.alloc (.cells cells' ti.elem)) (S':=S1) (v':= .slice (D ⟨w.heap.size,0,M⟩) len len) (e:=ti.elem) (el:=el) (zs:=xs) (frz:=U) (css:=css')
  hst (fun g hg _=>heap_alloc_old w _ hg) smp_ (fun g hg=>by
   simp [blk] at hg;subst hg
   exact ⟨.inl hR.grow,fun k b hk hg'=>by have:=j44 (hR1.box k b hk) hg';omega,smp_⟩) (fun g o hs=> .inl hs) rfl rfl rfl
  (by
   rw [hxl,←hcells]
   have hle:len≤maxLen:=by
    have:len*1≤len*el.size:=Nat.mul_le_mul_left _ hpos
    simp only [maxLen];omega
   exact ö w cells' len (kq _) hle hcs) (hall.mono (fun x c hx=>Rep.keep hst _ _ _ hx)) (fun g hg=>by
   simp [blk] at hg;subst hg
   exact ⟨fun _ o=>jcm hR1 o,smp_⟩) (fun g hg=>by simp [blk] at hg;subst hg;exact hR1.kw_new (jz _))
 exact ⟨_,_,S1,_,hrun,hRn,hcn⟩
theorem jvM {P:À} {E:Env} (hT:j1Q P E.T) (hR:Rel N np S0 w0 refs σ a w S γ) {t:Æ} {ti:TyI} (ht:E.T t=D ti)
  {el:Ty} (hty:ti.ty=D (.list el)) {n len:H} {fr:Ö} {ps:F (H×Cel)} {vs:È (H×G)} {b:Ö} {s:Slot} {u:Ups} (hn:fr=Ä→σ.bx n = .free)
  (hps:All2 (fun p v=>p.1=v.1∧j0k S w γ σ.bx p.2 v.2) ps vs.toList) (h:one1 fr ti.elem el n len ps=D (.val b s u)) :
  b=Ä∧s = .one (.one (.ol n))∧∃ v' w' γ',(Ê t len vs).run P w = .ok v' w'∧Rel N np S0 w0 refs (σ.upd u) a w' S γ'∧j0k S w' γ' (σ.upd u).bx (.one (.ol n)) v':=by
 unfold one1 at h
 split at h
 case h_2=>simp at h
 rename_i c
 split at h
 case h_2=>simp at h
 rename_i ls hls
 split at h
 case isFalse=>simp at h
 rename_i hc
 obtain ⟨rfl,hln,hmax,hfr,hnm⟩:=hc
 simp only [jb,Act.val.injEq] at h
 obtain ⟨rfl,rfl,rfl⟩:=h
 refine ⟨rfl,rfl,?_⟩
 obtain ⟨⟨j,z⟩,hvs⟩:∃ p,vs.toList=[p]:=by
  match hv:vs.toList,hps with
  | [p],_=>exact ⟨p,rfl⟩
 rw [hvs] at hps
 obtain ⟨⟨hj,hcz⟩,_⟩:=hps
 simp only at hj hcz
 subst hj
 obtain ⟨ha,h1⟩:=j8l hls hcz
 have hzl:z.cells.toList.length=el.size:=by rw [←ha.length,hln]
 have hzs:z.cells.size=el.size:=by simpa using hzl
 obtain ⟨hdd,hpos,te,hte,htea⟩:=j51 hT ht hty
 have hsz:=j8X hT hte htea
 obtain ⟨z0,hz0,hzc⟩:=jd0 hT hte w htea
 have hz0s:z0.cells.size=el.size:=jgA hzc
 have hfill:Ñ (fun i=>D (i*te.size,te.size)) ((Ï (1*te.size)).map (fun i=>z0.cells[i%z0.cells.size]!)) vs.toList=D z.cells:=by
  have hfo:=jmd ((Ï (1*te.size)).map (fun i=>z0.cells[i%z0.cells.size]!)) 0 z.cells sqo_
  rw [hvs]
  simp only [Ñ]
  rw [if_neg sqo_]
  congr 1
  apply q9
  rw [Nat.zero_mul,hfo]
  simp only [List.take_zero,kg]
  rw [jj sqo_,ql]
 have hrun:(Ê t 1 vs).run P w = .ok (.slice (D ⟨w.heap.size,0,M⟩) 1 1) (w.alloc (.cells z.cells ti.elem)):=by
  have hno:¬ 1*te.size>2^24:=by rw [←hsz];omega
  have h0:¬ 1*te.size=0:=omg_
  simp only [Ê,J,run_underlying hdd,I,j29 hT hte,ú,if_neg hno]
  simp only [h0,zd,J,hz0,Ã,I,hfill,newRow,run_newObj,Ô]
 obtain ⟨hRn,_⟩:=jmb hR (hn hfr) (o:= .cells z.cells ti.elem) (b:= .row ti.elem el 1 ls) (v:= .slice (D ⟨w.heap.size,0,M⟩) 1 1) (fun g hg=>by simp [blk] at hg;exact hg.symm) (fun hle=>
  ⟨hnm,⟨z.cells.toList,by rw [j0l];exact ö w z.cells 1 (kq _) (by simp [maxLen]) (by rw [hzs,ù]),ha.mono (fun x u hx=>j0b.keep (j7c hR _) hle hx),h1⟩,
   fun g hg o=>by rw [j0l] at hg;simp [blk] at hg;subst hg;exact jcm hR o⟩)
 refine ⟨_,_,_,hrun,hRn,⟨by show (σ.setB n _).bx n≠_;rw [j0r];simp,rfl,fun b' hb'=>(j0l _ _ _).symm⟩,fun _=>rfl⟩
theorem jfL {rd:H→BS} (hrd:RdF np σ rd):∀ {ls:F Leaf} {xs:F TV} {u:Ups} {zs:F G},tvs rd ls=D (xs,u)→All2 (j0b S w γ σ.bx) ls zs→
  FrzL np σ.bx u∧∀ S' w',j2O S w S' w'→Froz σ.bx γ S' w' u→All2 (fun x z=>Rep S' w' x.t x.v [z]) xs zs
 | [],xs,u,zs,h,ha=>by
  simp [tvs] at h
  obtain ⟨rfl,rfl⟩:=h
  cases zs with
  | nil=>exact ⟨.nil,fun _ _ _ _=>trivial⟩
  | cons _ _=>exact ha.elim
 | l::ls,xs,u,zs,h,ha=>by
  cases zs with
  | nil=>exact ha.elim
  | cons z zs=>
   simp only [tvs] at h
   split at h
   ·rename_i xs1 u1 h1
    obtain ⟨f1,p1⟩:=jfL hrd h1 ha.2
    split at h
    ·rename_i t v
     simp only [jb,jf] at h
     obtain ⟨rfl,rfl⟩:=h
     exact ⟨f1,fun S' w' hk hf=>⟨Rep.keep hk _ _ _ ha.1,p1 S' w' hk hf⟩⟩
    ·rename_i k
     split at h
     ·rename_i e t es f hk
      simp only [jb,jf] at h
      obtain ⟨rfl,rfl⟩:=h
      have hk':=hrd.ok.live hk
      refine ⟨fun x hx=> ?_,fun S' w' hst hf=>⟨?_,p1 S' w' hst (fun x hx=>hf x (z6 _ hx))⟩⟩
      ·rcases jl.1 hx with rfl | hx
       ·exact ⟨hrd.par hk,e,t,es,f,hk',rfl,hrd.ok.nm hk⟩
       ·exact f1 x hx
      ·have:=hf (k,_) (v7 ..) e t es f hk'
       rw [ha.1.2.2 _ hk']
       exact this
     ·simp at h
    ·simp at h
   ·simp at h
theorem jjp (hR:Rel N np S0 w0 refs σ a w S γ) {k:H} {ls:F Leaf} {f:Ö} (hk:σ.bx k = .live (.cell ls f)) (hp:parK np k=U) {xs:F TV}
  (hx:∀ g cur e,γ k = .pointer (D ⟨g,0,M⟩)→w.heap[g]? = D (.cells cur e (0,0))→All2 (j0b S w γ σ.bx) ls (cur.toList.take ls.length)→All2 (fun x z=>Rep S w x.t x.v [z]) xs (cur.toList.take ls.length)) :
  ∃ S' g,Rel N np S0 w0 refs (σ.setB k (.live (.cell (xs.map TV.leaf) Ä))) a w S' γ∧j2O S w S' w∧γ k = .pointer (D ⟨g,0,M⟩)∧j7x S' w (.p xs) (.pointer (D ⟨g,0,M⟩)):=by
 obtain ⟨g,cur,e,hg,hh,hcur,h1,hS1,hS2⟩:=hR.box k _ hk
 have hxs:=hx g cur e hg hh hcur
 let S':j0e:=fun g' o=>S g' o∨(g'=g∧o<cur.size)
 have hst:j2O S w S' w:=fun g o h=>⟨.inl h,rfl⟩
 have hle:BxLe γ σ.bx γ (σ.setB k (.live (.cell (xs.map TV.leaf) Ä))).bx:=by
  intro k' hk'
  by_cases hkk:k'=k
  ·subst hkk;rw [j0r];exact ⟨smp_,rfl,fun b hb=>by simp at hb;subst hb;exact ⟨_,hk,trivial⟩⟩
  ·rw [j09 σ _ hkk];exact ⟨hk',rfl,fun b hb=>⟨b,hb,.refl b⟩⟩
 have live':∀ k' b,(σ.setB k (.live (.cell (xs.map TV.leaf) Ä))).bx k' = .live b→∃ b',σ.bx k' = .live b':=by
  intro k' b hb
  by_cases hkk:k'=k
  ·subst hkk;exact ⟨_,hk⟩
  ·rw [j09 σ _ hkk] at hb;exact ⟨b,hb⟩
 refine ⟨S',g,Rel.step (bx':=(σ.setB k (.live (.cell (xs.map TV.leaf) Ä))).bx) hR hst hle ?_ ?_ ?_ ?_ ?_ hR.below hR.grow hR.os hR.tape hR.output (fun g _ _ h=>⟨rfl,fun k' b' hb'=>by obtain ⟨b2,hb2⟩:=live' k' b' hb';exact h k' b2 hb2⟩),hst,hg,?_⟩
 ·intro k' b hb
  by_cases hkk:k'=k
  ·subst hkk
   rw [j0r] at hb;simp at hb;subst hb
   have hl:=jiT hcur hxs
   exact ⟨g,cur,e,hg,hh,by rw [qa,hl];exact j7z (hxs.mono (fun x z hz=>Rep.keep hst _ _ _ hz)),by rw [qa,hl];exact h1,smp_,fun _ o ho=> .inr ⟨rfl,ho⟩⟩
  ·rw [j09 σ _ hkk] at hb
   refine j1X.keep hst hle rfl (fun g' hg'=>⟨rfl,fun o=>⟨fun hs=> ?_,.inl⟩⟩) (hR.box k' b hb)
   rcases hs with hs | hs
   ·exact hs
   ·exact absurd (by rw [hg,hs.1];rfl) (hR.apart k' k b _ g' hkk hb hk hg')
 ·intro k' b g' hb hg'
  obtain ⟨b',hb'⟩:=live' k' b hb
  exact hR.own k' b' g' hb' hg'
 ·intro k1 k2 b1 b2 g' hne h1 h2 hg'
  obtain ⟨b1',h1'⟩:=live' k1 b1 h1
  obtain ⟨b2',h2'⟩:=live' k2 b2 h2
  exact hR.apart k1 k2 b1' b2' g' hne h1' h2' hg'
 ·intro g' o hs
  rcases hs with hs | hs
  ·exact hR.new g' o hs
  ·rcases hR.own k _ g hk (by rw [hg];rfl) with h | h
   ·refine .inr ?_
    have:g'=g:=omg_
    rw [this];exact h
   ·rw [hp] at h;simp at h
 ·intro g' o hs
  rcases hs with hs | hs
  ·exact hR.here g' o hs
  ·rw [hs.1];exact (jn.1 hh).1
 ·refine ⟨g,0,cur.toList.take ls.length,rfl,hxs.mono (fun x z hz=>Rep.keep hst _ _ _ hz),fun j v hv=> ?_⟩
  have hv:cur.toList[j]? = D v:=by
   rw [qy] at hv
   split at hv
   ·exact hv
   ·simp at hv
  have hj:j<cur.size:=by simpa using (kb.1 hv).1
  rw [kj]
  refine ⟨.inr ⟨rfl,hj⟩,?_⟩
  rw [cell_of_row w g j cur e (0,0) hh]
  simpa using hv
theorem jnP {rd:H→BS} (hrd:RdF np σ rd):∀ {cs:F Cel} {l:F Cap} {u:Ups} {zs:F G},jnv rd cs=D (l,u)→Rel N np S0 w0 refs σ a w S γ→All2 (j0k S w γ σ.bx) cs zs→
  ∃ S',Rel N np S0 w0 refs (σ.upd u) a w S' γ∧j2O S w S' w∧All2 (j7x S' w) l zs∧(∀ k e t xs f,σ.bx k = .live (.lst e t xs f)→∃ f',(σ.upd u).bx k = .live (.lst e t xs f'))∧BxLe γ σ.bx γ (σ.upd u).bx∧∀ k,σ.bx k = .free→(σ.upd u).bx k = .free
 | [],l,u,zs,h,hR,ha=>by
  simp [jnv] at h
  obtain ⟨rfl,rfl⟩:=h
  cases zs with
  | nil=>exact ⟨S,hR,.refl S w,trivial,fun k e t xs f h=>⟨f,h⟩,.refl _ _,fun _ h=>h⟩
  | cons _ _=>exact ha.elim
 | c::r,l,u,zs,h,hR,ha=>by
  cases zs with
  | nil=>exact ha.elim
  | cons z zs=>
   simp only [jnv] at h
   split at h
   ·rename_i l1 u1 h1
    obtain ⟨S1,hR1,hst1,hc1,hl1,hle1,hfr1⟩:=jnP hrd h1 hR ha.2
    split at h
    ·rename_i t v
     split at h
     ·rename_i hlf
      simp only [jb,jf] at h
      obtain ⟨rfl,rfl⟩:=h
      exact ⟨S1,hR1,hst1,⟨⟨hlf,Rep.keep hst1 _ _ _ ha.1.1⟩,hc1⟩,hl1,hle1,hfr1⟩
     ·simp at h
    ·rename_i k
     split at h
     ·rename_i ls f hk
      split at h
      ·rename_i xs u2 h2
       split at h
       ·simp at h
       ·rename_i hany
        simp only [jb,jf] at h
        obtain ⟨rfl,rfl⟩:=h
        have hkp:=hrd.par hk
        have hk:=hrd.ok.live hk
        have hany:(u1++u2).any (fun y=>y.1==k)=false:=qo.2 hany
        rw [ê,vf] at hany
        obtain ⟨g,cur,e,hg,hh,hcur,_⟩:=hR.box k _ hk
        obtain ⟨hf2,hp2⟩:=jfL hrd h2 hcur
        have hf2':FrzL np (σ.upd u1).bx u2:=by
         intro x hx
         obtain ⟨hpp,e',t',xs',f',hb',hx'⟩:=hf2 x hx
         obtain ⟨f2,h2⟩:=hl1 _ e' t' xs' f' hb'
         exact ⟨hpp,e',t',xs',f2,h2,hx'⟩
        obtain ⟨S2,hR2,hst2,hfz2,hsame2⟩:=j2B u2 (σ.upd u1) S1 hR1 hf2'
        have hfz2':Froz σ.bx γ S2 w u2:=by
         intro x hx e' t' xs' f' hb'
         obtain ⟨f2,h2⟩:=hl1 _ e' t' xs' f' hb'
         exact hfz2 x hx e' t' xs' f2 h2
        have hk2:((σ.upd u1).upd u2).bx k = .live (.cell ls f):=by
         rw [j1R u2 _ hany.2,j1R u1 _ hany.1,hk]
        obtain ⟨S3,g3,hR3,hst3,hg3,hcap⟩:=jjp hR2 hk2 hkp (xs:=xs) (fun g' cur' e' hg' hh' _=>by
         rw [hg] at hg';simp at hg';subst hg'
         rw [hh] at hh';simp at hh';obtain ⟨rfl,_⟩:=hh'
         exact hp2 S2 w (hst1.trans hst2) hfz2')
        have hz:z=γ k:=by
         obtain ⟨g4,h4,h5⟩:=ha.1.1.2.2 _ hk
         rw [h5,h4]
        rw [j3O,j3O]
        refine ⟨S3,hR3,(hst1.trans hst2).trans hst3,⟨by rw [hz,hg3];exact hcap,hc1.mono (fun x z hx=>j7x.keep (hst2.trans hst3) hx)⟩,fun k' e' t' xs' f' hb'=> ?_,?_,fun k' hk'=> ?_⟩
        ·obtain ⟨f2,h2⟩:=hl1 _ e' t' xs' f' hb'
         obtain ⟨f3,h3⟩:=hsame2.lst h2
         have hkk:k'≠k:=by rintro rfl;rw [hk2] at h3;simp at h3
         exact ⟨f3,by show (((σ.upd u1).upd u2).setB k _).bx k'=_;rw [j09 _ _ hkk];exact h3⟩
        ·have hle2:BxLe γ (σ.upd u1).bx γ ((σ.upd u1).upd u2).bx:=hsame2.le
         have hle3:BxLe γ ((σ.upd u1).upd u2).bx γ ((((σ.upd u1).upd u2)).setB k (.live (.cell (xs.map TV.leaf) Ä))).bx:=by
          intro k' hk'
          by_cases hkk:k'=k
          ·subst hkk;rw [j0r];exact ⟨smp_,rfl,fun b hb=>by simp at hb;subst hb;exact ⟨_,hk2,trivial⟩⟩
          ·rw [j09 _ _ hkk];exact ⟨hk',rfl,fun b hb=>⟨b,hb,.refl b⟩⟩
         have tr:∀ {b1 b2 b3:H→BS},BxLe γ b1 γ b2→BxLe γ b2 γ b3→BxLe γ b1 γ b3:=by
          intro b1 b2 b3 h12 h23 k' hk'
          obtain ⟨q1,q2,q3⟩:=h12 k' hk'
          obtain ⟨r1,r2,r3⟩:=h23 k' q1
          refine ⟨r1,rfl,fun b hb=> ?_⟩
          obtain ⟨b',hb',hs'⟩:=r3 b hb
          obtain ⟨b'',hb'',hs''⟩:=q3 b' hb'
          refine ⟨b'',hb'',?_⟩
          exact hs''.trans hs'
         exact tr (tr hle1 hle2) hle3
        ·have h3:=hsame2.free (hfr1 k' hk')
         have hkk:k'≠k:=by rintro rfl;rw [hk] at hk';simp at hk'
         show (((σ.upd u1).upd u2).setB k _).bx k'=_
         rw [j09 _ _ hkk];exact h3
      ·simp at h
     ·simp at h
    ·simp at h
   ·simp at h
theorem jjq:∀ {cs:F Cel} {ks:F H} {zs:F G},jjc cs=D ks→All2 (j0k S w γ σ.bx) cs zs→All2 (jt3 γ σ.bx) ks zs
 | [],ks,zs,h,ha=>by
  simp [jjc] at h
  subst h
  cases zs with
  | nil=>trivial
  | cons _ _=>exact ha.elim
 | c::r,ks,zs,h,ha=>by
  cases zs with
  | nil=>exact ha.elim
  | cons z zs=>
   unfold jjc at h
   split at h
   ·rename_i h0;simp at h0
   ·rename_i k r' h0
    simp only [yl] at h0
    obtain ⟨rfl,rfl⟩:=h0
    split at h
    ·rename_i ks' hk
     simp only [jb] at h
     subst h
     obtain ⟨⟨h1,h2,h3⟩,_⟩:=ha.1
     exact ⟨⟨h1,h2,h3⟩,jjq hk ha.2⟩
    ·simp at h
   ·simp at h
theorem jtk:∀ {ks:F H} {zs:F G},All2 (jt3 γ σ.bx) ks zs→All2 (j0k S w γ σ.bx) (ks.map fun k=> .one (.bp k 0)) zs
 | [],[],_=>trivial
 | k::ks,z::zs,h=>⟨⟨h.1,fun _=>h.1.2.1⟩,jtk h.2⟩
 | [],_::_,h=>h.elim
 | _::_,[],h=>h.elim
end
section
variable (S:j0e) (w:Â)
def jnQ (ls:F TV) (u:G):Prop:=
 ∃ g cur e,u = .pointer (D ⟨g,0,M⟩)∧w.heap[g]? = D (.cells cur e (0,0))∧All2 (fun x z=>Rep S w x.t x.v [z]) ls (cur.toList.take ls.length)∧∀ o,¬ S g o
def jij (e:H) (x:TV) (u:G):Prop:=
 ∃ (a:Ty) (xs:F a.den),x=⟨.list a,xs⟩∧jeg S w e a xs u∧∀ g,blk u=D g→∀ o,¬ S g o
def jbg:Arg→G→Prop
 | .v x,u=>VRep S w x u
 | .ref ls,u=>jnQ S w ls u
 | .rl e x,u=>jij S w e x u
 | .ip ls,u=>∃ g o cs,u = .pointer (D ⟨g,o,M⟩)∧All2 (fun x z=>Rep S w x.t x.v [z]) ls cs∧Lies S w g o cs
 | .clo f caps,u=>∃ cv:È G,u = .func (.func f) #[] cv∧All2 (j7x S w) caps cv.toList
 | .mv e x,u=>jij S w e x u∧isM e=U
def j7B:Arg→G→Á H
 | .ref _,u=>blk u
 | .rl _ _,u=>blk u
 | .mv _ _,u=>blk u
 | _,_=>M
def j1J:F Arg→F G→F H
 | a::as,u::us=>(j7B a u).toList++j1J as us
 | _,_=>[]
def mvOf:F Arg→F G→F H
 | .mv _ _::as,u::us=>(blk u).toList++mvOf as us
 | _::as,_::us=>mvOf as us
 | _,_=>[]
def jvN:RL→G→Prop
 | .d x,z=>One z∧Rep S w x.t x.v [z]
 | .own e x,z=>jij S w e x z
def jiC:RV→G→Prop
 | .v x,u=>VRep S w x u
 | .own e x,u=>jij S w e x u
 | .box ls,u=>jnQ S w ls u
 | .hd _,u=>One u
 | .clo f caps,u=>∃ cv:È G,u = .func (.func f) #[] cv∧All2 (j7x S w) caps cv.toList
 | .so ls,u=>∃ cs:È G,u = .agg cs∧All2 (jvN S w) ls cs.toList
 | .raw _ _,_=>True
 | .vn x ns,u=>VRep S w x u∧∀ cs,u = .agg cs→∀ i∈ns,∀ z,cs.toList[i]? = D z→z = .slice M 0 0
def jfi:RV→G→Á H
 | .v _,_=>M
 | .hd _,_=>M
 | .vn _ _,_=>M
 | .clo _ _,_=>M
 | .so _,_=>M
 | .raw _ _,_=>M
 | _,u=>blk u
def jbh:F RL→F G→F H
 | .own _ _::ls,z::zs=>(blk z).toList++jbh ls zs
 | .d _::ls,_::zs=>jbh ls zs
 | _,_=>[]
def j7C:RV→G→F H
 | .so ls,u=>jbh ls u.cells.toList
 | r,u=>(jfi r u).toList
def j7D:F RV→F G→F H
 | r::rs,u::us=>j7C r u++j7D rs us
 | _,_=>[]
def j52:F Arg→F G→F Out→Prop
 | [],[],[]=>True
 | .ref _::as,u::us,.ref ys::os=>jnQ S w ys u∧j52 as us os
 | .rl e x::as,u::us,.rl y::os=>jij S w e y u∧y.t=x.t∧j52 as us os
 | .v _::as,_::us,os=>j52 as us os
 | .ip _::as,_::us,os=>j52 as us os
 | .clo _ _::as,_::us,os=>j52 as us os
 | .mv _ _::as,_::us,os=>j52 as us os
 | _,_,_=>False
end
def j5Q (vs:F G):Value:=match vs with
 | [v]=>v
 | vs=> .tuple vs.toArray
def jiV:F Arg→F G→Á G
 | .ref _::_,u::_=>D u
 | .rl _ _::_,u::_=>D u
 | _::as,_::us=>jiV as us
 | _,_=>M
def emp:St:=⟨fun _=> .one (.one .dead),fun _=> .free⟩
def jxP (h0:H) (S:j0e) (w:Â) (ns:F H) (s:Snap) (v:G):Prop:=
 ∃ γ zs,v=j5Q zs∧All2 (j0k S w γ (emp.upd (rawU ns s)).bx) (rawC ns s) zs∧(∀ k b,(emp.upd (rawU ns s)).bx k = .live b→j1X S w γ (emp.upd (rawU ns s)).bx k b)∧
  (∀ k b g,(emp.upd (rawU ns s)).bx k = .live b→blk (γ k)=D g→h0≤g)∧
  ∀ k k' b b' g,k≠k'→(emp.upd (rawU ns s)).bx k = .live b→(emp.upd (rawU ns s)).bx k' = .live b'→blk (γ k)=D g→blk (γ k')≠D g
structure jvO (w:Â) (S:j0e) (args:F Arg) (vals:F G) (ret:Ret) (v:G) (w':Â) (S':j0e) (vs:F G):Prop where
 val:v=j5Q vs
 rep:All2 (jiC S' w') ret.vals vs
 fresh:∀ g∈j7D ret.vals vs,w.heap.size≤g∨g∈mvOf args vals
 apart:(j7D ret.vals vs).Nodup
 outs:j52 S' w' args vals ret.outs
 stays:j2O S w S' w'
 new:∀ g o,S' g o→S g o∨w.heap.size≤g∨g∈mvOf args vals
 here:∀ g o,S' g o→g<w'.heap.size
 below:∀ g,g<w.heap.size→g∉j1J args vals→w'.heap[g]? = w.heap[g]?
 grow:w.heap.size≤w'.heap.size
 os:w'.os=w.os
 tape:w'.tape=w.tape
 output:w'.output=w.output
 raw:∀ ns s,ret.vals=[.raw ns s]→jxP w.heap.size S' w' ns s v
 head:∀ m,ret.vals=[.hd m]→∃ ad len cap,jiV args vals=D (.slice ad len cap)∧m≤len∧vs=[.slice ad m cap]
def jvP (P:À) (f:H) (args:F Arg) (K:Ret→Prop):Prop:=
 ∀ (w:Â) (S:j0e) (vals:F G),All2 (jbg S w) args vals→(j1J args vals).Nodup→(∀ g o,S g o→g<w.heap.size)→
  Calls P f vals.toArray w fun e w'=>∃ ret,K ret∧∃ v S' vs,e = .returned v∧jvO w S args vals ret v w' S' vs
def Fun (P:À) (f:H):Prop:=
 ∃ fn, P.funcs[f]? = D fn ∧ fn.body.isNone = U ∧ (fn.name == "runtime.NumGoroutine") = U
def FnOK (P:À) (f:H) (c:F Arg→(R:Type)→(Ret→Á R)→Á R):Prop:=
 ∀ (args:F Arg) (R:Type) (k:Ret→Á R) (r:R),c args R k=D r→Fun P f∧jvP P f args fun ret=>k ret=D r
def j7n (P:À) (C:H→F Arg→(R:Type)→(Ret→Á R)→Á R):Prop:=∀ f,FnOK P f (C f)
section
variable {N:NT} {np:H} {S0:j0e} {w0:Â} {refs:Refs} {σ:St} {a:Ü} {w:Â} {S:j0e} {γ:H→G}
theorem j9O {S':j0e} {w':Â}:∀ (t:Ty) (v:t.den) (cs:F G),t.flat=Ä→Rep S w t v cs→Rep S' w' t v cs
 | .int _,_,_,_,h=>h
 | .bool,_,_,_,h=>h
 | .str,_,_,_,h=>h
 | .unit,_,_,_,h=>h
 | .wrap a,v,cs,hf,h=>j9O a v cs hf h
 | .pair a b,_,_,hf,⟨c1,c2,e,h1,h2⟩=>by
  simp only [Ty.flat,ji] at hf
  exact ⟨c1,c2,e,j9O a _ _ hf.1 h1,j9O b _ _ hf.2 h2⟩
 | .list _,_,_,hf,_=>by simp [Ty.flat] at hf
 | .arr _ a,_,_,hf,⟨hn,css,ha,e⟩=>⟨hn,css,ha.mono (fun x c hx=>j9O a x c hf hx),e⟩
def j7v (bx:H→BS) (γ:H→G):F Arg→F G→F Bk→Prop
 | [],[],[]=>True
 | .ref ls::as,u::us,.ref k::fs=>u=γ k∧(∃ ls',bx k = .live (.cell ls' U))∧j7v bx γ as us fs
 | .rl e x::as,u::us,.rl k e' t::fs=>e=e'∧u=γ k∧(∃ xs,bx k = .live (.lst e t xs U)∧x=⟨.list t,xs⟩)∧j7v bx γ as us fs
 | .v _::as,_::us,fs=>j7v bx γ as us fs
 | .ip _::as,_::us,fs=>j7v bx γ as us fs
 | .clo _ _::as,_::us,fs=>j7v bx γ as us fs
 | .mv e x::as,u::us,.mv k e' t::fs=>e=e'∧u=γ k∧(∃ xs,bx k = .live (.lst e t xs U)∧x=⟨.list t,xs⟩)∧j7v bx γ as us fs
 | _,_,_=>False
theorem jtl {rd rdf:H→BS} (hR:Rel N np S0 w0 refs σ a w S γ) (hrd:RdR σ rd) (hrdf:RdF np σ rdf) {t:Á TyI} {mv rl:Ö} {c:Cel} {arg:Arg} {u:Ups} {f:Á Bk} {z:G}
  (h:jnw rd rdf t mv rl c=D (arg,u,f)) (hc:j0k S w γ σ.bx c z) :
  FrzL np σ.bx u∧j7v σ.bx γ [arg] [z] f.toList∧∀ S',j2O S w S' w→Froz σ.bx γ S' w u→(∀ k b,f.toList.any (fun y=>y.name==k)=Ä→σ.bx k = .live b→∀ g,blk (γ k)=D g→∀ o,¬ S' g o)→jbg S' w arg z:=by
 unfold jnw at h
 split at h
 ·rename_i k
  split at h
  ·rename_i ls hk
   split at h
   ·rename_i xs u1 h1
    simp only [jb,jf] at h
    obtain ⟨rfl,rfl,rfl⟩:=h
    have hk:=hrd.live hk
    obtain ⟨g,hg,hz⟩:=hc.1.2.2 _ hk
    obtain ⟨g',cur,e,hg',hh,hcur,_,_,hS⟩:=hR.box k _ hk
    rw [hg] at hg';simp at hg';subst hg'
    obtain ⟨hf,hp⟩:=jfL hrdf h1 hcur
    refine ⟨hf,trivial,fun S' hst hfz _=>⟨g,0,cur.toList.take ls.length,hz,hp S' w hst hfz,fun j v hv=> ?_⟩⟩
    have hv:cur.toList[j]? = D v:=by
     rw [qy] at hv
     split at hv
     ·exact hv
     ·simp at hv
    have hj:j<cur.size:=by simpa using (kb.1 hv).1
    rw [kj]
    refine ⟨(hst _ _ (hS rfl j hj)).1,?_⟩
    rw [cell_of_row w g j cur e (0,0) hh]
    simpa using hv
   ·simp at h
  ·rename_i ls hk
   split at h
   ·rename_i xs u1 h1
    simp only [jb,jf] at h
    obtain ⟨rfl,rfl,rfl⟩:=h
    have hk:=hrd.live hk
    obtain ⟨g,hg,hz⟩:=hc.1.2.2 _ hk
    obtain ⟨g',cur,e,hg',hh,hcur,_⟩:=hR.box k _ hk
    rw [hg] at hg';simp at hg';subst hg'
    obtain ⟨hf,hp⟩:=jfL hrdf h1 hcur
    refine ⟨hf,⟨hz.trans hg.symm,⟨ls,hk⟩,trivial⟩,fun S' hst hfz hn=>⟨g,cur,e,hz,hh,by rw [jiT hcur (hp S' w hst hfz)];exact hp S' w hst hfz,?_⟩⟩
    exact hn k _ (by simp [Bk.name]) hk g (by rw [hg];rfl)
   ·simp at h
  ·simp at h
 ·simp only [jb,jf] at h
  obtain ⟨rfl,rfl,rfl⟩:=h
  refine ⟨.nil,trivial,fun S' hst _ _=> ?_⟩
  obtain ⟨g,o,cs,hz,ha,hl⟩:=hc.1
  exact ⟨g,o,cs,hz,ha.mono (fun x z hx=>Rep.keep hst _ _ _ hx),hl.keep hst⟩
 ·simp only [jb,jf] at h
  obtain ⟨rfl,rfl,rfl⟩:=h
  refine ⟨.nil,trivial,fun S' hst _ _=> ?_⟩
  obtain ⟨cv,hz,ha⟩:=hc.1
  exact ⟨cv,hz,ha.mono (fun x z hx=>j7x.keep hst hx)⟩
 ·rename_i k
  split at h
  ·cases mv with
   | true=>
    rw [jc] at h
    split at h
    ·rename_i e t xs hk
     simp only [jb,jf] at h
     obtain ⟨rfl,rfl,rfl⟩:=h
     have hnm:=hrdf.ok.nm hk
     have hk:=hrdf.ok.live hk
     have hz:=hc.1.2.2 _ hk
     refine ⟨.nil,⟨rfl,hz,⟨xs,hk,rfl⟩,trivial⟩,fun S' hst _ hn=> ?_⟩
     have hbx:=(hR.box k _ hk).1
     exact ⟨⟨t,xs,rfl,by rw [hz];exact hbx.keep hst (fun _ _=>rfl),fun g hg=>hn k _ (by simp [Bk.name]) hk g (by rw [←hz];exact hg)⟩,hnm⟩
    ·simp at h
   | false=>
   rw [jd] at h
   split at h
   ·rename_i e t xs hk
    simp only [jb,jf] at h
    obtain ⟨rfl,rfl,rfl⟩:=h
    have hk:=hrd.live hk
    have hz:=hc.1.2.2 _ hk
    refine ⟨.nil,⟨rfl,hz,⟨xs,hk,rfl⟩,trivial⟩,fun S' hst _ hn=> ?_⟩
    have hbx:=(hR.box k _ hk).1
    exact ⟨t,xs,rfl,by rw [hz];exact hbx.keep hst (fun _ _=>rfl),fun g hg=>hn k _ (by simp [Bk.name]) hk g (by rw [←hz];exact hg)⟩
   ·simp at h
  ·split at h
   ·rename_i e t xs fz hk
    simp only [jb,jf] at h
    obtain ⟨rfl,rfl,rfl⟩:=h
    have hkp:=hrdf.par hk
    have hnm:=hrdf.ok.nm hk
    have hk:=hrdf.ok.live hk
    have hz:=hc.1.2.2 _ hk
    refine ⟨fun x hx=> ?_,trivial,fun S' hst hfz _=> ?_⟩
    ·have:=qj.1 hx
     subst this
     exact ⟨hkp,e,t,xs,fz,hk,rfl,hnm⟩
    ·have h1:One z:=hc.2 smp_
     have:=hfz (k,_) (qj.2 rfl) e t xs fz hk
     rw [←hz] at this
     exact ⟨by rw [jcl h1];exact this,by simp [jb5,Ty.agg],fun _=>h1⟩
   ·simp at h
 ·split at h
  ·split at h
   ·rename_i ty hty
    split at h
    ·rename_i x u1 hx
     simp only [jb,jf] at h
     obtain ⟨rfl,rfl,rfl⟩:=h
     obtain ⟨hf,hp,_⟩:=jeV hrdf hR.box hx hc
     exact ⟨hf,trivial,fun S' hst hfz _=>hp S' w hst hfz⟩
    ·simp at h
   ·simp at h
  ·simp at h
theorem j7v.app {bx:H→BS} {arg:Arg} {z:G} {f:F Bk}:j7v bx γ [arg] [z] f→∀ {as:F Arg} {us:F G} {fs:F Bk},j7v bx γ as us fs→j7v bx γ (arg::as) (z::us) (f++fs):=by
 intro h as us fs h'
 cases arg with
 | v x=>cases f with | nil=>exact h' | cons _ _=>exact h.elim
 | ip x=>cases f with | nil=>exact h' | cons _ _=>exact h.elim
 | clo x y=>cases f with | nil=>exact h' | cons _ _=>exact h.elim
 | ref ls=>
  match f,h with
  | [.ref k],⟨h1,h2,_⟩=>exact ⟨h1,h2,h'⟩
  | .ref k::_::_,⟨_,_,h3⟩=>exact h3.elim
 | rl e x=>
  match f,h with
  | [.rl k e' t],⟨h0,h1,h2,_⟩=>exact ⟨h0,h1,h2,h'⟩
  | .rl k e' t::_::_,⟨_,_,_,h3⟩=>exact h3.elim
 | mv e x=>
  match f,h with
  | [.mv k e' t],⟨h0,h1,h2,_⟩=>exact ⟨h0,h1,h2,h'⟩
  | .mv k e' t::_::_,⟨_,_,_,h3⟩=>exact h3.elim
theorem jlr {rd rdf:H→BS} (hR:Rel N np S0 w0 refs σ a w S γ) (hrd:RdR σ rd) (hrdf:RdF np σ rdf) {T:H→Á TyI} {mv:Ö}:∀ {cs:F Cel} {ts:F H} {ms:F Ö} {as:F Arg} {u:Ups} {fs:F Bk} {zs:F G},
  jce rd rdf T mv ts ms cs=D (as,u,fs)→All2 (j0k S w γ σ.bx) cs zs→
  FrzL np σ.bx u∧j7v σ.bx γ as zs fs∧∀ S',j2O S w S' w→Froz σ.bx γ S' w u→(∀ k b,fs.any (fun y=>y.name==k)=Ä→σ.bx k = .live b→∀ g,blk (γ k)=D g→∀ o,¬ S' g o)→All2 (jbg S' w) as zs
 | [],ts,ms,as,u,fs,zs,h,ha=>by
  simp [jce] at h
  obtain ⟨rfl,rfl,rfl⟩:=h
  cases zs with
  | nil=>exact ⟨.nil,trivial,fun _ _ _ _=>trivial⟩
  | cons _ _=>exact ha.elim
 | c::cs,ts,ms,as,u,fs,zs,h,ha=>by
  cases zs with
  | nil=>exact ha.elim
  | cons z zs=>
   simp only [jce] at h
   split at h
   ·rename_i a1 u1 f1 h1
    split at h
    ·rename_i as' us' fs' h2
     simp only [jb,jf] at h
     obtain ⟨rfl,rfl,rfl⟩:=h
     obtain ⟨p1,q1,r1⟩:=jtl hR hrd hrdf h1 ha.1
     obtain ⟨p2,q2,r2⟩:=jlr hR hrd hrdf h2 ha.2
     refine ⟨FrzL.app.2 ⟨p1,p2⟩,q1.app q2,fun S' hst hfz hn=> ?_⟩
     obtain ⟨z1,z2⟩:=Froz.app.1 hfz
     exact ⟨r1 S' hst z1 (fun k b hk=>hn k b (by rw [ê,hk];rfl)),r2 S' hst z2 (fun k b hk=>hn k b (by rw [ê,hk];simp))⟩
    ·simp at h
   ·simp at h
theorem jtm:∀ {cs:F Cap} {zs:F G},All2 (j7x S w) cs zs→All2 (jbg S w) (cs.map jcf) zs
 | [],[],_=>trivial
 | c::cs,z::zs,h=>by
  refine ⟨?_,jtm h.2⟩
  cases c with
  | v x=>
   obtain ⟨hl,hr⟩:=h.1
   have h1:One z:=Rep.one _ _ _ hr z smp_
   refine ⟨by rw [jcl h1];exact hr,fun hm=> ?_,fun _=>h1⟩
   exfalso
   obtain ⟨t,v⟩:=x
   cases t<;>simp_all [Ty.leafy,jb5,Ty.agg]
  | p ls=>exact h.1
 | [],_::_,h=>h.elim
 | _::_,[],h=>h.elim
theorem jr1:∀ (cs:F Cap) (zs:F G),j1J (cs.map jcf) zs=[]
 | [],_=>by cases ‹F G› <;> rfl
 | c::cs,[]=>rfl
 | c::cs,z::zs=>by cases c<;>simp [j1J,j7B,jcf,jr1 cs zs]
theorem jls:∀ (as:F Arg) (us:F G) (bs:F Arg) (vs:F G),as.length=us.length→j1J (as++bs) (us++vs)=j1J as us++j1J bs vs
 | [],[],bs,vs,_=>rfl
 | a::as,u::us,bs,vs,h=>by simp [j1J,jls as us bs vs (by simpa using h)]
 | [],_::_,_,_,h=>by simp at h
 | _::_,[],_,_,h=>by simp at h
theorem j7o {bx:H→BS}:∀ {as:F Arg} {us:F G} {fs:F Bk},j7v bx γ as us fs→j1J as us=fs.filterMap fun f=>blk (γ f.name)
 | [],[],[],_=>rfl
 | .ref ls::as,u::us,.ref k::fs,⟨h1,_,h3⟩=>by
  simp only [j1J,j7B,vk,Bk.name,h1,j7o h3]
  cases blk (γ k)<;>rfl
 | .rl e x::as,u::us,.rl k e' t::fs,⟨_,h1,_,h3⟩=>by
  simp only [j1J,j7B,vk,Bk.name,h1,j7o h3]
  cases blk (γ k)<;>rfl
 | .mv e x::as,u::us,.mv k e' t::fs,⟨_,h1,_,h3⟩=>by
  simp only [j1J,j7B,vk,Bk.name,h1,j7o h3]
  cases blk (γ k)<;>rfl
 | .v _::as,_::us,fs,h=>by simp [j1J,j7B,j7o (as:=as) (us:=us) (fs:=fs) h]
 | .ip _::as,_::us,fs,h=>by simp [j1J,j7B,j7o (as:=as) (us:=us) (fs:=fs) h]
 | .clo _ _::as,_::us,fs,h=>by simp [j1J,j7B,j7o (as:=as) (us:=us) (fs:=fs) h]
theorem jwM:∀ {as:F Arg} {us:F G} {g:H},g∈mvOf as us→g∈j1J as us
 | [],_,g,h=>by simp [mvOf] at h
 | _::_,[],g,h=>by rename_i a _;cases a<;>simp [mvOf] at h
 | a::as,u::us,g,h=>by
  have ih:=jwM (as:=as) (us:=us) (g:=g)
  cases a with
  | mv e x=>
   simp only [mvOf,j1J,j7B,js] at h ⊢
   exact h.imp id ih
  | _=>
   simp only [mvOf] at h
   simp only [j1J,js]
   exact .inr (ih h)
theorem jbi {bx:H→BS}:∀ {as:F Arg} {us:F G} {fs:F Bk} {g:H},j7v bx γ as us fs→g∈mvOf as us→∃ f∈fs,f.isMv=Ä∧blk (γ f.name)=D g
 | [],[],[],g,_,h=>by simp [mvOf] at h
 | .ref ls::as,u::us,.ref k::fs,g,⟨_,_,h3⟩,h=>by
  obtain ⟨f,hf,h1⟩:=jbi (g:=g) h3 (by simpa only [mvOf] using h)
  exact ⟨f,by simp [hf],h1⟩
 | .rl e x::as,u::us,.rl k e' t::fs,g,⟨_,_,_,h3⟩,h=>by
  obtain ⟨f,hf,h1⟩:=jbi (g:=g) h3 (by simpa only [mvOf] using h)
  exact ⟨f,by simp [hf],h1⟩
 | .mv e x::as,u::us,.mv k e' t::fs,g,⟨_,h1,_,h3⟩,h=>by
  simp only [mvOf,js,Option.mem_toList] at h
  rcases h with h | h
  ·exact ⟨.mv k e' t,smp_,rfl,by rw [←h];show blk (γ k)=blk u;rw [h1]⟩
  ·obtain ⟨f,hf,h1⟩:=jbi (g:=g) h3 h
   exact ⟨f,by simp [hf],h1⟩
 | .v _::as,_::us,fs,g,hb,h=>jbi (as:=as) (us:=us) (fs:=fs) hb (by simpa only [mvOf] using h)
 | .ip _::as,_::us,fs,g,hb,h=>jbi (as:=as) (us:=us) (fs:=fs) hb (by simpa only [mvOf] using h)
 | .clo _ _::as,_::us,fs,g,hb,h=>jbi (as:=as) (us:=us) (fs:=fs) hb (by simpa only [mvOf] using h)
theorem jtn {rd rdf:H→BS} (hrdf:RdF np σ rdf) {t:Á TyI} {mv rl:Ö} {c:Cel} {arg:Arg} {u:Ups} {f:Á Bk} (h:jnw rd rdf t mv rl c=D (arg,u,f)):∀ x∈f.toList,x.isMv=Ä→parK np x.name=false:=by
 intro x hx hm
 unfold jnw at h
 split at h
 ·split at h
  ·split at h
   ·simp only [jb,jf] at h
    obtain ⟨_,_,rfl⟩:=h
    simp at hx
   ·simp at h
  ·split at h
   ·simp only [jb,jf] at h
    obtain ⟨_,_,rfl⟩:=h
    simp at hx;subst hx;simp [Bk.isMv] at hm
   ·simp at h
  ·simp at h
 ·simp only [jb,jf] at h
  obtain ⟨_,_,rfl⟩:=h
  simp at hx
 ·simp only [jb,jf] at h
  obtain ⟨_,_,rfl⟩:=h
  simp at hx
 ·split at h
  ·cases mv with
   | true=>
    rw [jc] at h
    split at h
    ·rename_i hk
     simp only [jb,jf] at h
     obtain ⟨_,_,rfl⟩:=h
     simp at hx;subst hx
     exact hrdf.par hk
    ·simp at h
   | false=>
    rw [jd] at h
    split at h
    ·simp only [jb,jf] at h
     obtain ⟨_,_,rfl⟩:=h
     simp at hx;subst hx;simp [Bk.isMv] at hm
    ·simp at h
  ·split at h
   ·simp only [jb,jf] at h
    obtain ⟨_,_,rfl⟩:=h
    simp at hx
   ·simp at h
 ·split at h
  ·split at h
   ·split at h
    ·simp only [jb,jf] at h
     obtain ⟨_,_,rfl⟩:=h
     simp at hx
    ·simp at h
   ·simp at h
  ·simp at h
theorem jlt {rd rdf:H→BS} (hrdf:RdF np σ rdf) {T:H→Á TyI} {mv:Ö}:∀ {cs:F Cel} {ts:F H} {ms:F Ö} {as:F Arg} {u:Ups} {fs:F Bk},
  jce rd rdf T mv ts ms cs=D (as,u,fs)→∀ x∈fs,x.isMv=Ä→parK np x.name=U
 | [],ts,ms,as,u,fs,h,x,hx,hm=>by
  simp [jce] at h
  obtain ⟨rfl,rfl,rfl⟩:=h
  simp at hx
 | c::cs,ts,ms,as,u,fs,h,x,hx,hm=>by
  simp only [jce] at h
  split at h
  ·rename_i a1 u1 f1 h1
   split at h
   ·rename_i as' us' fs' h2
    simp only [jb,jf] at h
    obtain ⟨rfl,rfl,rfl⟩:=h
    rcases js.1 hx with hx | hx
    ·exact jtn hrdf h1 x hx hm
    ·exact jlt hrdf h2 x hx hm
   ·simp at h
  ·simp at h
theorem jbS {bx:H→BS}:∀ {as:F Arg} {us:F G} {fs:F Bk},j7v bx γ as us fs→∀ f∈fs,∃ b,bx f.name = .live b
 | [],[],[],_,f,hf=>by simp at hf
 | .ref ls::as,u::us,.ref k::fs,⟨_,⟨ls',h2⟩,h3⟩,f,hf=>by
  rcases jl.1 hf with rfl | hf
  ·exact ⟨_,h2⟩
  ·exact jbS h3 f hf
 | .rl e x::as,u::us,.rl k e' t::fs,⟨_,_,⟨xs,h2,_⟩,h3⟩,f,hf=>by
  rcases jl.1 hf with rfl | hf
  ·exact ⟨_,h2⟩
  ·exact jbS h3 f hf
 | .mv e x::as,u::us,.mv k e' t::fs,⟨_,_,⟨xs,h2,_⟩,h3⟩,f,hf=>by
  rcases jl.1 hf with rfl | hf
  ·exact ⟨_,h2⟩
  ·exact jbS h3 f hf
 | .v _::as,_::us,fs,h,f,hf=>jbS (as:=as) (us:=us) (fs:=fs) h f hf
 | .ip _::as,_::us,fs,h,f,hf=>jbS (as:=as) (us:=us) (fs:=fs) h f hf
 | .clo _ _::as,_::us,fs,h,f,hf=>jbS (as:=as) (us:=us) (fs:=fs) h f hf
theorem j8n:∀ {l:F H},jbe l=Ä→l.Nodup
 | [],_=>List.nodup_nil
 | x::l,h=>by
  simp only [jbe,ji,qd,qi,ko] at h
  exact qx.2 ⟨h.1,j8n h.2⟩
theorem jhG (hR:Rel N np S0 w0 refs σ a w S γ):∀ {l:F H},l.Nodup→(∀ k∈l,∃ b,σ.bx k = .live b)→(l.filterMap fun k=>blk (γ k)).Nodup
 | [],_,_=>smp_
 | k::l,h,hl=>by
  obtain ⟨h1,h2⟩:=qx.1 h
  have ih:=jhG hR h2 (fun k hk=>hl k (by simp [hk]))
  rw [vk]
  cases hb:blk (γ k) with
  | none=>exact ih
  | some g=>
   refine qx.2 ⟨fun hm=> ?_,ih⟩
   obtain ⟨k',hk',hg'⟩:=vu.1 hm
   obtain ⟨b,hb1⟩:=hl k smp_
   obtain ⟨b',hb2⟩:=hl k' (by simp [hk'])
   exact hR.apart k k' b b' g (by rintro rfl;exact h1 hk') hb1 hb2 hb hg'
end
section
variable {N:NT} {np:H} {S0:j0e} {w0:Â} {refs:Refs} {σ:St} {a:Ü} {w:Â} {S:j0e} {γ:H→G}
theorem jik:∀ (u:Ups) (σ:St) {k:H} {b:BS},(u.map (·.1)).Nodup→(k,b)∈u→(σ.upd u).bx k=b
 | [],_,_,_,_,h=>by simp at h
 | e::u,σ,k,b,hn,h=>by
  simp only [qu,qx] at hn
  show ((σ.setB e.1 e.2).upd u).bx k=_
  rcases jl.1 h with h | h
  ·subst h
   rw [j1R u,j0r]
   simp only [qr,vg]
   intro x hx he
   exact hn.1 (kp.2 ⟨x,hx,he⟩)
  ·exact jik u _ hn.2 h
theorem jvQ {e:H} {m n n':H} {v:G} {w':Â} {xs ys:F G} (h:w.ownsRow 0 e m v n xs) (h':w'.ownsRow 0 e m v n' ys):n=n':=by
 rcases h.2 with ⟨e1,e2⟩ | ⟨g,cap,cur,e1,_⟩<;>rcases h'.2 with ⟨f1,f2⟩ | ⟨g',cap',cur',f1,_⟩
 ·rw [e2,f2]
 ·rw [e1] at f1;simp at f1
 ·rw [e1] at f1;simp at f1
 ·rw [e1] at f1;simp at f1;exact f1.2.1
theorem jhH {bx:H→BS} {S':j0e} {w':Â} {ys:F TV} {k:H} {v:G} (hg:γ k=v) (h:jnQ S' w' ys v):j1X S' w' γ bx k (.cell (ys.map TV.leaf) U):=by
 obtain ⟨g,cur,e,hu,hh,hall,hS⟩:=h
 exact ⟨g,cur,e,hg.trans hu,hh,by rw [qa];exact j7z hall,fun u hu'=>by rw [qa] at hu';obtain ⟨x,_,hx⟩:=hall.mem_right u hu';exact Rep.one _ _ _ hx u smp_,fun _=>hS,smp_⟩
theorem jab {bx:H→BS} {S':j0e} {w':Â} {e:H} {t:Ty} {ys:F t.den} {k:H} {v:G} (hg:γ k=v) (h:jij S' w' e ⟨.list t,ys⟩ v):j1X S' w' γ bx k (.lst e t ys U):=by
 obtain ⟨t',xs,hx,hrow,hS⟩:=h
 cases hx
 exact ⟨by rw [hg];exact hrow,fun g hg'=>⟨fun _=>hS g (by rw [←hg];exact hg'),smp_⟩⟩
theorem j9P {S':j0e} {w':Â} (hR:Rel N np S0 w0 refs σ a w S γ):∀ {as:F Arg} {zs:F G} {fs:F Bk} {os:F Out} {uo:Ups},j7v σ.bx γ as zs fs→j8V fs os=D uo→j52 S' w' as zs os→
  uo.map (·.1)=fs.map Bk.name∧∀ x∈uo,∃ b,σ.bx x.1 = .live b∧(x.2 = .gone∨∃ b',x.2 = .live b'∧j1Y b b'∧∀ bx',j1X S' w' γ bx' x.1 b')
 | [],[],[],[],uo,_,h,_=>by simp [j8V] at h;subst h;simp
 | .ref ls::as,u::us,.ref k::fs,.ref ys::os,uo,⟨h1,⟨ls',h2⟩,h3⟩,h,⟨q1,q2⟩=>by
  simp only [j8V,jvu] at h
  split at h
  ·rename_i u' hu'
   simp only [jb] at h;subst h
   obtain ⟨i1,i2⟩:=j9P hR h3 hu' q2
   refine ⟨by simp [i1,Bk.name],fun x hx=> ?_⟩
   rcases jl.1 hx with rfl | hx
   ·exact ⟨_,h2,.inr ⟨_,rfl,trivial,fun bx'=>jhH h1.symm q1⟩⟩
   ·exact i2 x hx
  ·simp at h
 | .rl e x::as,u::us,.rl k e' t::fs,.rl y::os,uo,⟨h0,h1,⟨xs,h2,h2'⟩,h3⟩,h,⟨q1,q1',q2⟩=>by
  simp only [j8V,jvu] at h
  split at h
  ·rename_i y' hy'
   split at hy'
   ·rename_i ys hys
    simp only [jb] at hy';subst hy'
    split at h
    ·rename_i u' hu'
     simp only [jb] at h;subst h
     obtain ⟨i1,i2⟩:=j9P hR h3 hu' q2
     refine ⟨by simp [i1,Bk.name],fun x hx=> ?_⟩
     rcases jl.1 hx with rfl | hx
     ·have:=jfh hys
      subst this
      subst h0
      refine ⟨_,h2,.inr ⟨_,rfl,⟨rfl,rfl,fun hm=> ?_⟩,fun bx'=>jab h1.symm q1⟩⟩
      obtain ⟨css,hown,_⟩:=j5B hm (hR.box k _ h2)
      obtain ⟨css',hrow,_⟩:=j5B (bx:=σ.bx) hm (jab h1.symm q1)
      exact jvQ hown hrow
     ·exact i2 x hx
    ·simp at h
   ·simp at hy'
  ·simp at h
 | .mv e x::as,u::us,.mv k e' t::fs,os,uo,⟨h0,h1,⟨xs,h2,h2'⟩,h3⟩,h,q=>by
  simp only [j8V] at h
  split at h
  ·rename_i u' hu'
   simp only [jb] at h;subst h
   obtain ⟨i1,i2⟩:=j9P hR h3 hu' (by simpa only [j52] using q)
   refine ⟨by simp [i1,Bk.name],fun x hx=> ?_⟩
   rcases jl.1 hx with rfl | hx
   ·exact ⟨_,h2,.inl rfl⟩
   ·exact i2 x hx
  ·simp at h
 | .v _::as,_::us,fs,os,uo,h,h',q=>j9P (as:=as) (zs:=us) (fs:=fs) hR h h' q
 | .ip _::as,_::us,fs,os,uo,h,h',q=>j9P (as:=as) (zs:=us) (fs:=fs) hR h h' q
 | .clo _ _::as,_::us,fs,os,uo,h,h',q=>j9P (as:=as) (zs:=us) (fs:=fs) hR h h' q
theorem jhI (hR:Rel N np S0 w0 refs σ a w S γ) {mvb:F H} {S':j0e} {w':Â} (hst:j2O S w S' w') (hnew:∀ g o,S' g o→S g o∨w.heap.size≤g∨g∈mvb) (hhere:∀ g o,S' g o→g<w'.heap.size)
  {as:F Arg} {zs:F G} {fs:F Bk} {os:F Out} {uo:Ups} (hmvb:∀ g∈mvb,g∈mvOf as zs) (hpar:∀ f∈fs,f.isMv=Ä→parK np f.name=U) (hbk:j7v σ.bx γ as zs fs) (hnd:(fs.map Bk.name).Nodup) (ho:j8V fs os=D uo) (hq:j52 S' w' as zs os)
  (hbelow:∀ g,g<w.heap.size→g∉j1J as zs→w'.heap[g]? = w.heap[g]?) (hgrow:w.heap.size≤w'.heap.size) (hos:w'.os=w.os) (htape:w'.tape=w.tape) (hout:w'.output=w.output) :
  Rel N np S0 w0 refs (σ.upd uo) a w' S' γ:=by
 obtain ⟨hkeys,hboxes⟩:=j9P hR hbk ho hq
 have hnk:(uo.map (·.1)).Nodup:=by rw [hkeys];exact hnd
 have hsl:σ.upd uo={ σ with bx:=(σ.upd uo).bx }:=by
  have:=jgz uo σ
  cases h:σ.upd uo
  rw [h] at this
  simp only at this
  rw [this]
 have hcase:∀ k,(uo.any (fun y=>y.1==k)=U∧(σ.upd uo).bx k=σ.bx k)∨(∃ b,σ.bx k = .live b∧(σ.upd uo).bx k = .gone)∨(∃ b b',σ.bx k = .live b∧(σ.upd uo).bx k = .live b'∧j1Y b b'∧∀ bx',j1X S' w' γ bx' k b'):=by
  intro k
  by_cases hk:uo.any (fun y=>y.1==k)=Ä
  ·right
   obtain ⟨x,hx,he⟩:=List.any_eq_true.1 hk
   have he:x.1=k:=by simpa using he
   subst he
   obtain ⟨b,h1,h2 | ⟨b',h2,h3,h4⟩⟩:=hboxes x hx
   ·exact .inl ⟨b,h1,by rw [jik uo σ hnk (b:=x.2) hx,h2]⟩
   ·exact .inr ⟨b,b',h1,by rw [jik uo σ hnk (b:=x.2) hx,h2],h3,h4⟩
  ·left
   have hk':uo.any (fun y=>y.1==k)=false:=qo.2 hk
   exact ⟨hk',j1R uo σ hk'⟩
 have hlive:∀ k b,(σ.upd uo).bx k = .live b→∃ b',σ.bx k = .live b':=by
  intro k b hb
  rcases hcase k with ⟨_,h⟩ | ⟨b1,h1,_⟩ | ⟨b1,b2,h1,_⟩
  ·exact ⟨b,h▸hb⟩
  ·exact ⟨b1,h1⟩
  ·exact ⟨b1,h1⟩
 have hle:BxLe γ σ.bx γ (σ.upd uo).bx:=by
  intro k hk
  rcases hcase k with ⟨_,h⟩ | ⟨b1,h1,h2⟩ | ⟨b1,b2,h1,h2,h3,_⟩
  ·rw [h];exact ⟨hk,rfl,fun b hb=>⟨b,hb,.refl b⟩⟩
  ·rw [h2];exact ⟨smp_,rfl,fun b hb=>by simp at hb⟩
  ·rw [h2];exact ⟨smp_,rfl,fun b hb=>by simp at hb;subst hb;exact ⟨b1,h1,h3⟩⟩
 have hrefs:∀ g,g∈j1J as zs→∃ f∈fs,blk (γ f.name)=D g∧∃ b,σ.bx f.name = .live b:=by
  intro g hg
  rw [j7o hbk] at hg
  obtain ⟨f,hf,hfg⟩:=vu.1 hg
  exact ⟨f,hf,hfg,jbS hbk f hf⟩
 rw [hsl]
 refine Rel.step hR hst hle ?_ ?_ ?_ ?_ hhere ?_ (q7 hR.grow hgrow) (hos.trans hR.os) (htape.trans hR.tape) (hout.trans hR.output) (fun g hg _ h=>⟨hbelow g hg (fun hm=>by
  obtain ⟨f,hf,hfg,b',hb'⟩:=hrefs g hm
  exact h f.name b' hb' hfg),fun k b hb=>by
  obtain ⟨b',hb'⟩:=hlive k b hb
  exact h k b' hb'⟩)
 ·intro k b hb
  rcases hcase k with ⟨hk,h⟩ | ⟨b1,h1,h2⟩ | ⟨b1,b2,h1,h2,h3,h4⟩
  case inr.inl=>rw [h2] at hb;simp at hb
  ·rw [h] at hb
   refine j1X.keep hst hle rfl (fun g hg=> ?_) (hR.box k b hb)
   have hgl:=j44 (hR.box k b hb) hg
   suffices hno:g∉j1J as zs from ⟨hbelow g hgl hno,fun o=>⟨fun hs=>(hnew g o hs).resolve_right (fun h=>h.elim (fun h=>omg_) fun h=>hno (jwM (hmvb g h))),fun hs=>(hst g o hs).1⟩⟩
   intro hm
   obtain ⟨f,hf,hfg,b',hb'⟩:=hrefs g hm
   have hne:k≠f.name:=by
    rintro rfl
    have:f.name∈uo.map (·.1):=by rw [hkeys];exact ñ hf
    obtain ⟨x,hx,he⟩:=kp.1 this
    have:=(qr.1 hk) x hx
    simp [he] at this
   exact hR.apart k f.name b b' g hne hb hb' hg hfg
  ·rw [h2] at hb;simp at hb;subst hb;exact h4 _
 ·intro k b g hb hg
  obtain ⟨b',hb'⟩:=hlive k b hb
  exact hR.own k b' g hb' hg
 ·intro k k' b1 b2 g hne h1 h2 hg
  obtain ⟨b1',h1'⟩:=hlive k b1 h1
  obtain ⟨b2',h2'⟩:=hlive k' b2 h2
  exact hR.apart k k' b1' b2' g hne h1' h2' hg
 ·intro g o hs
  rcases hnew g o hs with h | h | h
  ·exact hR.new g o h
  ·exact .inr (.inl (q7 hR.grow h))
  ·obtain ⟨f,hf,hfm,hfg⟩:=jbi hbk (hmvb g h)
   obtain ⟨b',hb'⟩:=jbS hbk f hf
   rcases hR.own f.name b' g hb' hfg with h | h
   ·exact .inr h
   ·rw [hpar f hf hfm] at h;simp at h
 ·intro g hg hr
  rw [hbelow g (zf hg hR.grow) (fun hm=> ?_)]
  ·exact hR.below g hg hr
  ·obtain ⟨f,hf,hfg,b',hb'⟩:=hrefs g hm
   rcases hR.own f.name b' g hb' hfg with h | h
   ·exact h.no omg_ hr
   ·exact hr h.1
theorem jjr (hR:Rel N np S0 w0 refs σ a w S γ) {d:H} (hd:σ.bx d = .free) {v':G} {b:Bx}
  (hv:∀ g,blk v'=D g→(Own w0 refs g∧refs.kw g=M)∧∀ k b,σ.bx k = .live b→blk (γ k)≠D g) (hb:j1X S w (gset γ d v') (σ.setB d (.live b)).bx d b) :
  Rel N np S0 w0 refs (σ.setB d (.live b)) a w S (gset γ d v')∧BxLe γ σ.bx (gset γ d v') (σ.setB d (.live b)).bx:=by
 have hle:BxLe γ σ.bx (gset γ d v') (σ.setB d (.live b)).bx:=by
  intro k hk
  have hne:k≠d:=by rintro rfl;exact hk hd
  rw [j09 σ _ hne,j0m γ v' hne]
  exact ⟨hk,rfl,fun b hb=>⟨b,hb,.refl b⟩⟩
 refine ⟨Rel.step (bx':=(σ.setB d (.live b)).bx) hR (.refl S w) hle ?_ ?_ ?_ hR.new hR.here hR.below hR.grow hR.os hR.tape hR.output (fun g _ hkn h=>⟨rfl,fun k b' hb' hbk=>by
  by_cases hk:k=d
  ·subst hk
   rw [j0l] at hbk
   exact hkn (hv g hbk).1.2
  ·rw [j09 σ _ hk] at hb'
   rw [j0m γ v' hk] at hbk
   exact h k b' hb' hbk⟩),hle⟩
 ·intro k b' hb'
  by_cases hk:k=d
  ·subst hk;rw [j0r] at hb';simp at hb';subst hb';exact hb
  ·rw [j09 σ _ hk] at hb'
   exact j1X.keep (.refl S w) hle (j0m γ v' hk) (fun g hg=>⟨rfl,fun _=>â⟩) (hR.box k b' hb')
 ·intro k b' g hb' hg
  by_cases hk:k=d
  ·subst hk;rw [j0l] at hg;exact .inl (hv g hg).1.1
  ·rw [j09 σ _ hk] at hb';rw [j0m γ v' hk] at hg;exact hR.own k b' g hb' hg
 ·intro k k' b1 b2 g hne h1 h2 hg hg'
  by_cases hk:k=d
  ·subst hk
   have hk':k'≠k:=fun h=>hne h.symm
   rw [j0l] at hg
   rw [j09 σ _ hk'] at h2
   rw [j0m γ v' hk'] at hg'
   exact (hv g hg).2 k' b2 h2 hg'
  ·by_cases hk':k'=d
   ·subst hk'
    rw [j0l] at hg'
    rw [j09 σ _ hk] at h1
    rw [j0m γ v' hk] at hg
    exact (hv g hg').2 k b1 h1 hg
   ·rw [j09 σ _ hk] at h1
    rw [j09 σ _ hk'] at h2
    rw [j0m γ v' hk] at hg
    rw [j0m γ v' hk'] at hg'
    exact hR.apart k k' b1 b2 g hne h1 h2 hg hg'
theorem jd5 {bx:H→BS} {x:TV} {u:G} (h:VRep S w x u):j0k S w γ bx (jbc x.t x.v) u:=by
 obtain ⟨t,v⟩:=x
 obtain ⟨h1,h2,h3⟩:=h
 refine jhB t v _ u h1 (fun hm=> ?_) (fun ha hn=> ?_)
 ·have:jb5 t=true:=by
   rcases hm with hm | ⟨n,b,rfl⟩
   ·cases t<;>simp_all [jb5,Ty.agg]
   ·rfl
  obtain ⟨cs,rfl⟩:=h2 this
  simp [Value.cells]
 ·have:jb5 t=false:=by cases t<;>simp_all [jb5,Ty.agg]
  exact jcl (h3 this)
theorem jiW:∀ {ls:F RL} {n:H} {l:F Leaf} {u:Ups},soL n ls=D (l,u)→∀ x∈u,n≤x.1∧x.1<n+ls.length
 | [],n,l,u,h=>by simp [soL] at h;obtain ⟨rfl,rfl⟩:=h;simp
 | .d x::r,n,l,u,h=>by
  simp only [soL] at h
  split at h
  ·rename_i l' u' h'
   simp only [jb,jf] at h
   obtain ⟨rfl,rfl⟩:=h
   intro y hy
   have:=jiW h' y hy
   simp only [jp];omega
  ·simp at h
 | .own e ⟨.list a,xs⟩::r,n,l,u,h=>by
  simp only [soL] at h
  split at h
  ·rename_i l' u' h'
   simp only [jb,jf] at h
   obtain ⟨rfl,rfl⟩:=h
   intro y hy
   rcases jl.1 hy with rfl | hy
   ·simp only [jp];omega
   ·have:=jiW h' y hy
    simp only [jp];omega
  ·simp at h
 | .own e ⟨.int _,xs⟩::r,n,l,u,h=>by simp [soL] at h
 | .own e ⟨.bool,xs⟩::r,n,l,u,h=>by simp [soL] at h
 | .own e ⟨.str,xs⟩::r,n,l,u,h=>by simp [soL] at h
 | .own e ⟨.unit,xs⟩::r,n,l,u,h=>by simp [soL] at h
 | .own e ⟨.wrap _,xs⟩::r,n,l,u,h=>by simp [soL] at h
 | .own e ⟨.pair _ _,xs⟩::r,n,l,u,h=>by simp [soL] at h
 | .own e ⟨.arr _ _,xs⟩::r,n,l,u,h=>by simp [soL] at h
theorem jlu {n:H} {r:RV} {c:Cel} {u:Ups} (h:jvv n r=D (c,u)):∀ x∈u,n≤x.1∧x.1<n+rvW r:=by
 unfold jvv at h
 split at h
 ·simp only [jb,jf] at h;obtain ⟨rfl,rfl⟩:=h;simp
 ·simp only [jb,jf] at h;obtain ⟨rfl,rfl⟩:=h;simp [rvW]
 ·simp at h
 ·simp only [jb,jf] at h;obtain ⟨rfl,rfl⟩:=h;simp [rvW]
 ·simp at h
 ·split at h<;>(simp only [jb,jf] at h;obtain ⟨rfl,rfl⟩:=h;simp)
 ·simp only [jb,jf] at h;obtain ⟨rfl,rfl⟩:=h;simp
 ·split at h
  ·rename_i l u' h'
   simp only [jb,jf] at h;obtain ⟨rfl,rfl⟩:=h
   exact jiW h'
  ·simp at h
 ·simp at h
theorem jjs:∀ {n:H} {rs:F RV} {cs:F Cel} {u:Ups},jic n rs=D (cs,u)→∀ x∈u,n≤x.1
 | n,[],cs,u,h=>by simp [jic] at h;obtain ⟨rfl,rfl⟩:=h;simp
 | n,r::rs,cs,u,h=>by
  simp only [jic] at h
  split at h
  ·rename_i c u1 h1
   split at h
   ·rename_i cs2 u2 h2
    simp only [jb,jf] at h
    obtain ⟨rfl,rfl⟩:=h
    intro x hx
    rcases js.1 hx with hx | hx
    ·exact (jlu h1 x hx).1
    ·have:=jjs h2 x hx;omega
   ·simp at h
  ·simp at h
theorem jto {bx:H→BS} {ns:F H}:∀ (k:H) {ls:F Leaf} {cs:F G},All2 (j0b S w γ bx) ls cs→(∀ i∈ns,∀ z,k≤i→cs[i-k]? = D z→z = .slice M 0 0)→
  All2 (j0b S w γ bx) ((ls.zipIdx k).map fun y=>if ns.contains y.2 then .nil else y.1) cs
 | _,[],[],_,_=>trivial
 | k,l::ls,c::cs,h,hn=>by
  refine ⟨?_,jto (k+1) h.2 fun i hi z hk hz=>hn i hi z omg_ ?_⟩
  ·by_cases hc:ns.contains k=Ä
   ·simp only [hc,if_true]
    exact hn k (by simpa using hc) c (jz _) smp_
   ·simp only [hc]
    exact h.1
  ·rw [show i-k=(i-(k+1))+1 by omega];simpa using hz
 | _,[],_::_,h,_=>h.elim
 | _,_::_,[],h,_=>h.elim
theorem jtp (hR:Rel N np S0 w0 refs σ a w S γ) {h0:H} (hle0:w0.heap.size≤h0) (hlive:∀ k b g,σ.bx k = .live b→blk (γ k)=D g→g<h0) (hkw:∀ g,h0≤g→refs.kw g=M)
  {ns:F H} {s:Snap} {v:G} (hraw:jxP h0 S w ns s v) (hfree:∀ x∈rawU ns s,σ.bx x.1 = .free) (hnd:((rawU ns s).map (·.1)).Nodup) :
  ∃ γ',Rel N np S0 w0 refs (σ.upd (rawU ns s)) a w S γ'∧∃ zs,v=j5Q zs∧All2 (j0k S w γ' (σ.upd (rawU ns s)).bx) (rawC ns s) zs:=by
 obtain ⟨γr,zs,hv,hc,hb,hge,hap⟩:=hraw
 generalize rawU ns s=u at *
 let γ':H→Value:=fun k=>if u.any (fun y=>y.1==k) then γr k else γ k
 have hin:∀ k,u.any (fun y=>y.1==k)=Ä→(σ.upd u).bx k=(emp.upd u).bx k∧γ' k=γr k∧σ.bx k = .free:=by
  intro k hk
  have hk0:=hk
  obtain ⟨x,hx,he⟩:=List.any_eq_true.1 hk
  have he:x.1=k:=by simpa using he
  subst he
  exact ⟨(jik u σ hnd (b:=x.2) hx).trans (jik u emp hnd (b:=x.2) hx).symm,if_pos hk0,hfree x hx⟩
 have hout:∀ k,u.any (fun y=>y.1==k)=U→(σ.upd u).bx k=σ.bx k∧(emp.upd u).bx k = .free∧γ' k=γ k:=by
  intro k hk
  exact ⟨j1R u σ hk,j1R u emp hk,if_neg (by rw [hk];simp)⟩
 have le1:BxLe γr (emp.upd u).bx γ' (σ.upd u).bx:=by
  intro k hk
  cases hu:u.any (fun y=>y.1==k) with
  | false=>exact absurd (hout k hu).2.1 hk
  | true=>
   obtain ⟨h1,h2,_⟩:=hin k hu
   rw [h1]
   exact ⟨hk,h2,fun b hb=>⟨b,hb,.refl b⟩⟩
 have le2:BxLe γ σ.bx γ' (σ.upd u).bx:=by
  intro k hk
  cases hu:u.any (fun y=>y.1==k) with
  | true=>exact absurd (hin k hu).2.2 hk
  | false=>
   obtain ⟨h1,_,h2⟩:=hout k hu
   rw [h1]
   exact ⟨hk,h2,fun b hb=>⟨b,hb,.refl b⟩⟩
 have hsl:σ.upd u={ σ with bx:=(σ.upd u).bx }:=by
  have:=jgz u σ
  cases h:σ.upd u
  rw [h] at this
  simp only at this
  rw [this]
 refine ⟨γ',?_,zs,hv,hc.mono fun x z hx=>j0k.keep (.refl S w) le1 hx⟩
 rw [hsl]
 refine Rel.step hR (.refl S w) le2 ?_ ?_ ?_ hR.new hR.here hR.below hR.grow hR.os hR.tape hR.output (fun g _ hkn h=>⟨rfl,fun k b hb hbk=> ?_⟩)
 ·intro k b hb'
  cases hu:u.any (fun y=>y.1==k) with
  | true=>
   obtain ⟨h1,h2,_⟩:=hin k hu
   rw [h1] at hb'
   exact j1X.keep (.refl S w) le1 h2 (fun g hg=>⟨rfl,fun _=>â⟩) (hb k b hb')
  | false=>
   obtain ⟨h1,_,h2⟩:=hout k hu
   rw [h1] at hb'
   exact j1X.keep (.refl S w) le2 h2 (fun g hg=>⟨rfl,fun _=>â⟩) (hR.box k b hb')
 ·intro k b g hb' hg
  cases hu:u.any (fun y=>y.1==k) with
  | true=>
   obtain ⟨h1,h2,_⟩:=hin k hu
   rw [h1] at hb';rw [h2] at hg
   exact .inl (.inl (q7 hle0 (hge k b g hb' hg)))
  | false=>
   obtain ⟨h1,_,h2⟩:=hout k hu
   rw [h1] at hb';rw [h2] at hg
   exact hR.own k b g hb' hg
 ·intro k k' b b' g hne hb1 hb2 hg1 hg2
  cases hu:u.any (fun y=>y.1==k) with
  | true=>
   obtain ⟨h1,h2,_⟩:=hin k hu
   rw [h1] at hb1;rw [h2] at hg1
   cases hu':u.any (fun y=>y.1==k') with
   | true=>
    obtain ⟨h3,h4,_⟩:=hin k' hu'
    rw [h3] at hb2;rw [h4] at hg2
    exact hap k k' b b' g hne hb1 hb2 hg1 hg2
   | false=>
    obtain ⟨h3,_,h4⟩:=hout k' hu'
    rw [h3] at hb2;rw [h4] at hg2
    have:=hlive k' b' g hb2 hg2
    have:=hge k b g hb1 hg1
    omega
  | false=>
   obtain ⟨h1,_,h2⟩:=hout k hu
   rw [h1] at hb1;rw [h2] at hg1
   cases hu':u.any (fun y=>y.1==k') with
   | true=>
    obtain ⟨h3,h4,_⟩:=hin k' hu'
    rw [h3] at hb2;rw [h4] at hg2
    have:=hlive k b g hb1 hg1
    have:=hge k' b' g hb2 hg2
    omega
   | false=>
    obtain ⟨h3,_,h4⟩:=hout k' hu'
    rw [h3] at hb2;rw [h4] at hg2
    exact hR.apart k k' b b' g hne hb1 hb2 hg1 hg2
 ·cases hu:u.any (fun y=>y.1==k) with
  | true=>
   obtain ⟨h1,h2,_⟩:=hin k hu
   rw [h1] at hb;rw [h2] at hbk
   exact hkn (hkw g (hge k b g hb hbk))
  | false=>
   obtain ⟨h1,_,h2⟩:=hout k hu
   rw [h1] at hb;rw [h2] at hbk
   exact h k b hb hbk
theorem jtq:∀ {ls:F RL} {zs:F G} {n:H} {l:F Leaf} {u:Ups} {σ:St} {γ:H→G},Rel N np S0 w0 refs σ a w S γ→soL n ls=D (l,u)→All2 (jvN S w) ls zs→
  (∀ x∈u,σ.bx x.1 = .free)→(jbh ls zs).Nodup→(∀ g∈jbh ls zs,(Own w0 refs g∧refs.kw g=M)∧∀ k b,σ.bx k = .live b→blk (γ k)≠D g)→
  ∃ γ',Rel N np S0 w0 refs (σ.upd u) a w S γ'∧BxLe γ σ.bx γ' (σ.upd u).bx∧All2 (j0b S w γ' (σ.upd u).bx) l zs∧(∀ z∈zs,One z)∧
   ∀ k b g,(σ.upd u).bx k = .live b→blk (γ' k)=D g→(∃ b',σ.bx k = .live b'∧blk (γ k)=D g)∨g∈jbh ls zs
 | [],[],n,l,u,σ,γ,hR,h,_,_,_,_=>by
  simp [soL] at h
  obtain ⟨rfl,rfl⟩:=h
  exact ⟨γ,hR,.refl _ _,trivial,smp_,fun k b g h1 h2=> .inl ⟨b,h1,h2⟩⟩
 | .d x::ls,z::zs,n,l,u,σ,γ,hR,h,ha,hfree,hnd,hblk=>by
  simp only [soL] at h
  split at h
  ·rename_i l' u' h'
   simp only [jb,jf] at h
   obtain ⟨rfl,rfl⟩:=h
   obtain ⟨γ',q1,q2,q3,q4,q5⟩:=jtq hR h' ha.2 hfree hnd hblk
   exact ⟨γ',q1,q2,⟨ha.1.2,q3⟩,fun y hy=>(jl.1 hy).elim (fun e=>e▸ha.1.1) (q4 y),q5⟩
  ·simp at h
 | .own e ⟨.list t,xs⟩::ls,z::zs,n,l,u,σ,γ,hR,h,ha,hfree,hnd,hblk=>by
  simp only [soL] at h
  split at h
  ·rename_i l' u' h'
   simp only [jb,jf] at h
   obtain ⟨rfl,rfl⟩:=h
   have hown:jij S w e ⟨.list t,xs⟩ z:=ha.1
   have hone:One z:=by
    obtain ⟨t',ys,_,hrow,_⟩:=hown
    exact hrow.one
   have hfn:σ.bx n = .free:=hfree _ (v7 ..)
   simp only [jbh] at hnd hblk
   obtain ⟨hR1,hle⟩:=jjr hR hfn (v':=z) (b:= .lst e t xs U) (fun g hg=>hblk g (by simp [hg])) (jab (j0l _ _ _) hown)
   have hname:=jiW h'
   obtain ⟨γ',q1,q2,q3,q4,q5⟩:=jtq hR1 h' ha.2 (fun x hx=>by
    have:=hname x hx
    rw [j09 σ _ omg_]
    exact hfree x (by simp [hx])) (zq.1 hnd).2.1 (fun g hg=>by
    obtain ⟨p1,p2⟩:=hblk g (by simp [hg])
    refine ⟨p1,fun k b' hb' he=> ?_⟩
    by_cases hk:k=n
    ·subst hk
     rw [j0l] at he
     exact (zq.1 hnd).2.2 g (by simp [he]) g hg rfl
    ·rw [j09 σ _ hk] at hb'
     rw [j0m γ z hk] at he
     exact p2 k b' hb' he)
   refine ⟨γ',q1,fun k hk=> ?_,⟨j0b.keep (.refl S w) q2 ⟨by rw [j0r];simp,hone,fun b _=>(j0l γ n z).symm⟩,q3⟩,fun y hy=>(jl.1 hy).elim (fun e=>e▸hone) (q4 y),fun k b g h1 h2=> ?_⟩
   ·obtain ⟨a1,a2,a3⟩:=hle k hk
    obtain ⟨b1,b2,b3⟩:=q2 k a1
    refine ⟨b1,b2.trans a2,fun b hb=> ?_⟩
    obtain ⟨b',hb',hs'⟩:=b3 b hb
    obtain ⟨b'',hb'',hs''⟩:=a3 b' hb'
    exact ⟨b'',hb'',hs''.trans hs'⟩
   ·rcases q5 k b g h1 h2 with ⟨b',hb',he⟩ | h3
    ·by_cases hk:k=n
     ·subst hk
      rw [j0l] at he
      exact .inr (by simp [jbh,he])
     ·rw [j09 σ _ hk] at hb'
      rw [j0m γ z hk] at he
      exact .inl ⟨b',hb',he⟩
    ·exact .inr (by simp [jbh,h3])
  ·simp at h
 | .own e ⟨.int _,xs⟩::r,_,n,l,u,_,_,_,h,_,_,_,_=>by simp [soL] at h
 | .own e ⟨.bool,xs⟩::r,_,n,l,u,_,_,_,h,_,_,_,_=>by simp [soL] at h
 | .own e ⟨.str,xs⟩::r,_,n,l,u,_,_,_,h,_,_,_,_=>by simp [soL] at h
 | .own e ⟨.unit,xs⟩::r,_,n,l,u,_,_,_,h,_,_,_,_=>by simp [soL] at h
 | .own e ⟨.wrap _,xs⟩::r,_,n,l,u,_,_,_,h,_,_,_,_=>by simp [soL] at h
 | .own e ⟨.pair _ _,xs⟩::r,_,n,l,u,_,_,_,h,_,_,_,_=>by simp [soL] at h
 | .own e ⟨.arr _ _,xs⟩::r,_,n,l,u,_,_,_,h,_,_,_,_=>by simp [soL] at h
 | [],_::_,_,_,_,_,_,_,_,ha,_,_,_=>ha.elim
 | .d _::_,[],_,_,_,_,_,_,_,ha,_,_,_=>ha.elim
 | .own _ ⟨.list _,_⟩::_,[],_,_,_,_,_,_,_,ha,_,_,_=>ha.elim
theorem jr2:∀ {rs:F RV} {vs:F G} {n:H} {cs:F Cel} {un:Ups} {σ:St} {γ:H→G},Rel N np S0 w0 refs σ a w S γ→jic n rs=D (cs,un)→All2 (jiC S w) rs vs→
  (∀ x∈un,σ.bx x.1 = .free)→(j7D rs vs).Nodup→(∀ g∈j7D rs vs,(Own w0 refs g∧refs.kw g=M)∧∀ k b,σ.bx k = .live b→blk (γ k)≠D g)→
  ∃ γ',Rel N np S0 w0 refs (σ.upd un) a w S γ'∧BxLe γ σ.bx γ' (σ.upd un).bx∧All2 (j0k S w γ' (σ.upd un).bx) cs vs
 | [],[],n,cs,un,σ,γ,hR,h,_,_,_,_=>by
  simp [jic] at h
  obtain ⟨rfl,rfl⟩:=h
  exact ⟨γ,hR,.refl _ _,trivial⟩
 | r::rs,u::us,n,cs,un,σ,γ,hR,h,ha,hfree,hnd,hblk=>by
  simp only [jic] at h
  split at h
  ·rename_i c u1 h1
   split at h
   ·rename_i cs2 u2 h2
    simp only [jb,jf] at h
    obtain ⟨rfl,rfl⟩:=h
    have hgo:∀ (σ1:St) (γ1:H→G),Rel N np S0 w0 refs σ1 a w S γ1→σ1=σ.upd u1→BxLe γ σ.bx γ1 σ1.bx→j0k S w γ1 σ1.bx c u→(∀ x∈u2,σ1.bx x.1 = .free)→
      (j7D rs us).Nodup→(∀ g∈j7D rs us,(Own w0 refs g∧refs.kw g=M)∧∀ k b,σ1.bx k = .live b→blk (γ1 k)≠D g)→
      ∃ γ',Rel N np S0 w0 refs (σ.upd (u1++u2)) a w S γ'∧BxLe γ σ.bx γ' (σ.upd (u1++u2)).bx∧All2 (j0k S w γ' (σ.upd (u1++u2)).bx) (c::cs2) (u::us):=by
     intro σ1 γ1 hR1 he hle hc hf hn hb
     obtain ⟨γ',q1,q2,q3⟩:=jr2 (σ:=σ1) (γ:=γ1) hR1 h2 ha.2 hf hn hb
     subst he
     rw [j3O]
     refine ⟨γ',q1,?_,j0k.keep (.refl S w) q2 hc,q3⟩
     intro k hk
     obtain ⟨a1,a2,a3⟩:=hle k hk
     obtain ⟨b1,b2,b3⟩:=q2 k a1
     refine ⟨b1,b2.trans a2,fun b hb=> ?_⟩
     obtain ⟨b',hb',hs'⟩:=b3 b hb
     obtain ⟨b'',hb'',hs''⟩:=a3 b' hb'
     refine ⟨b'',hb'',?_⟩
     exact hs''.trans hs'
    have hname:=jlu h1
    have hname2:=jjs h2
    have hnew:∀ (v':G) (b:Bx),j7C r u=(blk v').toList→rvW r=1→u1=[(n,.live b)]→(∀ bx',j1X S w (gset γ n v') bx' n b)→(∀ bx',(bx' n = .live b)→j0k S w (gset γ n v') bx' c u)→
      ∃ γ',Rel N np S0 w0 refs (σ.upd (u1++u2)) a w S γ'∧BxLe γ σ.bx γ' (σ.upd (u1++u2)).bx∧All2 (j0k S w γ' (σ.upd (u1++u2)).bx) (c::cs2) (u::us):=by
     intro v' b hv' hw1 hu1 hbox hcel
     subst hu1
     rw [hw1] at hname2
     have hfn:σ.bx n = .free:=hfree (n,.live b) smp_
     simp only [j7D,hv'] at hnd hblk
     obtain ⟨hR1,hle⟩:=jjr hR hfn (v':=v') (b:=b) (fun g hg=>hblk g (by simp [hg])) (hbox _)
     refine hgo _ _ hR1 rfl hle (hcel _ (j0r _ _ _)) (fun x hx=> ?_) ?_ (fun g hg=> ?_)
     ·have:=hname2 x hx
      rw [j09 σ _ omg_]
      exact hfree x (by simp [hx])
     ·exact (zq.1 hnd).2.1
     ·obtain ⟨p1,p2⟩:=hblk g (by simp [hg])
      refine ⟨p1,fun k b' hb' he=> ?_⟩
      by_cases hk:k=n
      ·subst hk
       rw [j0l] at he
       have:=(zq.1 hnd).2.2 g (by simp [he]) g hg
       exact this rfl
      ·rw [j09 σ _ hk] at hb'
       rw [j0m γ v' hk] at he
       exact p2 k b' hb' he
    unfold jvv at h1
    split at h1
    ·rename_i x
     simp only [jb,jf] at h1
     obtain ⟨rfl,rfl⟩:=h1
     refine hgo σ γ hR rfl (.refl _ _) (jd5 ha.1) (fun x hx=>hfree x (by simp [hx])) ?_ ?_
     ·simpa [j7D,jfi,j7C] using hnd
     ·simpa [j7D,jfi,j7C] using hblk
    ·rename_i e el xs
     simp only [jb,jf] at h1
     obtain ⟨rfl,rfl⟩:=h1
     have hown:jij S w e ⟨.list el,xs⟩ u:=ha.1
     have hone:One u:=by
      obtain ⟨t',ys,_,hrow,_⟩:=hown
      exact hrow.one
     exact hnew u _ rfl rfl rfl (fun bx'=>jab (j0l _ _ _) hown) (fun bx' hb=>⟨⟨by rw [hb];simp,hone,fun b _=>(j0l γ n u).symm⟩,fun _=>hone⟩)
    ·simp at h1
    ·rename_i ls
     simp only [jb,jf] at h1
     obtain ⟨rfl,rfl⟩:=h1
     have href:jnQ S w ls u:=ha.1
     obtain ⟨g,cur,e,hu,_⟩:=id href
     have hone:One u:=by rw [hu];rfl
     exact hnew u _ rfl rfl rfl (fun bx'=>jhH (j0l _ _ _) href) (fun bx' hb=>⟨⟨by rw [hb];simp,hone,fun b _=>⟨g,by rw [j0l,hu],hu⟩⟩,fun _=>hone⟩)
    ·simp at h1
    ·rename_i x ns
     have hv:VRep S w x u∧∀ cs,u = .agg cs→∀ i∈ns,∀ z,cs.toList[i]? = D z→z = .slice M 0 0:=ha.1
     have hcr:j0k S w γ σ.bx (jbc x.t x.v) u:=jd5 hv.1
     have hc:j0k S w γ σ.bx c u∧u1=[]:=by
      split at h1
      ·rename_i ls he
       simp only [jb,jf] at h1
       obtain ⟨rfl,rfl⟩:=h1
       rw [he] at hcr
       obtain ⟨cs,hu,hall,hone⟩:=hcr
       exact ⟨⟨cs,hu,jto 0 hall fun i hi z _ hz=>hv.2 cs hu i hi z (by simpa using hz),hone⟩,rfl⟩
      ·simp only [jb,jf] at h1
       obtain ⟨rfl,rfl⟩:=h1
       exact ⟨hcr,rfl⟩
     obtain ⟨hc,rfl⟩:=hc
     refine hgo σ γ hR rfl (.refl _ _) hc (fun x hx=>hfree x (by simp [hx])) ?_ ?_
     ·simpa [j7D,jfi,j7C] using hnd
     ·simpa [j7D,jfi,j7C] using hblk
    ·rename_i f caps
     simp only [jb,jf] at h1
     obtain ⟨rfl,rfl⟩:=h1
     obtain ⟨cv,hu,hall⟩:∃ cv:È G,u = .func (.func f) #[] cv∧All2 (j7x S w) caps cv.toList:=ha.1
     refine hgo σ γ hR rfl (.refl _ _) ⟨⟨cv,hu,hall⟩,fun _=>by rw [hu];rfl⟩ (fun x hx=>hfree x (by simp [hx])) ?_ ?_
     ·simpa [j7D,jfi,j7C] using hnd
     ·simpa [j7D,jfi,j7C] using hblk
    ·rename_i ls
     split at h1
     ·rename_i l us' hl
      simp only [jb,jf] at h1
      obtain ⟨rfl,rfl⟩:=h1
      obtain ⟨cs',hu,hall⟩:∃ cs:È G,u = .agg cs∧All2 (jvN S w) ls cs.toList:=ha.1
      subst hu
      have hbl:j7C (.so ls) (.agg cs')=jbh ls cs'.toList:=rfl
      simp only [j7D,hbl] at hnd hblk
      obtain ⟨γ1,q1,q2,q3,q4,q5⟩:=jtq hR hl hall (fun x hx=>hfree x (by simp [hx])) (zq.1 hnd).1 (fun g hg=>hblk g (by simp [hg]))
      refine hgo _ γ1 q1 rfl q2 ⟨cs',rfl,q3,q4⟩ (fun x hx=> ?_) (zq.1 hnd).2.1 (fun g hg=> ?_)
      ·have h2:=hname2 x hx
       rw [j1R us' σ]
       ·exact hfree x (by simp [hx])
       ·rw [qr]
        intro y hy he
        simp only [vg] at he
        have:=hname y hy
        omega
      ·obtain ⟨p1,p2⟩:=hblk g (by simp [hg])
       refine ⟨p1,fun k b' hb' he=> ?_⟩
       rcases q5 k b' g hb' he with ⟨b2,hb2,he2⟩ | h3
       ·exact p2 k b2 hb2 he2
       ·exact (zq.1 hnd).2.2 g h3 g hg rfl
     ·simp at h1
    ·simp at h1
   ·simp at h
  ·simp at h
 | [],_::_,_,_,_,_,_,_,_,ha,_,_,_=>ha.elim
 | _::_,[],_,_,_,_,_,_,_,ha,_,_,_=>ha.elim
end
section
variable {N:NT} {np:H} {S0:j0e} {w0:Â} {refs:Refs} {σ:St} {a:Ü} {w:Â} {S:j0e} {γ:H→G}
theorem jjt {S':j0e} {w':Â}:∀ (cs:F Cap) (cv:F G) (os:F Out),j52 S' w' (cs.map jcf) cv os→os=[]
 | [],[],[],_=>rfl
 | [],[],_::_,h=>h.elim
 | [],_::_,_,h=>h.elim
 | c::cs,[],_,h=>by cases c<;>exact h.elim
 | .v _::cs,_::cv,os,h=>jjt cs cv os h
 | .p _::cs,_::cv,os,h=>jjt cs cv os h
theorem jd6 {S':j0e} {w':Â} {cs:F Cap} {cv:F G}:∀ {as:F Arg} {zs:F G} {os:F Out},as.length=zs.length→
  j52 S' w' (as++cs.map jcf) (zs++cv) os→j52 S' w' as zs os
 | [],[],os,_,h=>by
  have:=jjt cs cv os h
  subst this
  trivial
 | .ref ls::as,u::us,.ref ys::os,hl,⟨h1,h2⟩=>⟨h1,jd6 (by simpa using hl) h2⟩
 | .rl e x::as,u::us,.rl y::os,hl,⟨h1,h2,h3⟩=>⟨h1,h2,jd6 (by simpa using hl) h3⟩
 | .v _::as,_::us,os,hl,h=>jd6 (as:=as) (zs:=us) (by simpa using hl) h
 | .ip _::as,_::us,os,hl,h=>jd6 (as:=as) (zs:=us) (by simpa using hl) h
 | .clo _ _::as,_::us,os,hl,h=>jd6 (as:=as) (zs:=us) (by simpa using hl) h
 | .mv _ _::as,_::us,os,hl,h=>jd6 (as:=as) (zs:=us) (by simpa using hl) h
 | [],_::_,_,hl,_=>by simp at hl
 | _::_,[],_,hl,_=>by simp at hl
 | .ref _::_,_::_,[],_,h=>h.elim
 | .ref _::_,_::_,.rl _::_,_,h=>h.elim
 | .rl _ _::_,_::_,[],_,h=>h.elim
 | .rl _ _::_,_::_,.ref _::_,_,h=>h.elim
theorem j7v.congr {bx bx':H→BS}:∀ {as:F Arg} {us:F G} {fs:F Bk},(∀ f∈fs,bx' f.name=bx f.name)→j7v bx γ as us fs→j7v bx' γ as us fs
 | [],[],[],_,_=>trivial
 | .ref ls::as,u::us,.ref k::fs,hc,⟨h1,⟨ls',h2⟩,h3⟩=>
  ⟨h1,⟨ls',(hc (.ref k) smp_).trans h2⟩,j7v.congr (fun f hf=>hc f (by simp [hf])) h3⟩
 | .rl e x::as,u::us,.rl k e' t::fs,hc,⟨h0,h1,⟨xs,h2,hx⟩,h3⟩=>
  ⟨h0,h1,⟨xs,(hc (.rl k e' t) smp_).trans h2,hx⟩,j7v.congr (fun f hf=>hc f (by simp [hf])) h3⟩
 | .mv e x::as,u::us,.mv k e' t::fs,hc,⟨h0,h1,⟨xs,h2,hx⟩,h3⟩=>
  ⟨h0,h1,⟨xs,(hc (.mv k e' t) smp_).trans h2,hx⟩,j7v.congr (fun f hf=>hc f (by simp [hf])) h3⟩
 | .v _::as,_::us,fs,hc,h=>j7v.congr (as:=as) (us:=us) hc h
 | .ip _::as,_::us,fs,hc,h=>j7v.congr (as:=as) (us:=us) hc h
 | .clo _ _::as,_::us,fs,hc,h=>j7v.congr (as:=as) (us:=us) hc h
theorem jcp {S1 S':j0e} {w':Â} (hsub:∀ g o,S g o→S' g o):∀ {as:F Arg} {zs:F G} {os:F Out},os.all Out.flat=Ä→j52 S' w' as zs os→j52 S w' as zs os
 | [],[],[],_,_=>trivial
 | .ref ls::as,u::us,.ref ys::os,hf,⟨⟨g,cur,e,h1,h2,h3,h4⟩,h5⟩=>by
  simp only [zj,ji,Out.flat] at hf
  refine ⟨⟨g,cur,e,h1,h2,?_,fun o hs=>h4 o (hsub g o hs)⟩,jcp (S1:=S1) hsub hf.2 h5⟩
  have hl:=hf.1
  clear h1 h2 hf h4 h5
  generalize cur.toList.take ys.length=l at h3
  induction ys generalizing l with
  | nil=>cases l with | nil=>trivial | cons _ _=>exact h3.elim
  | cons y ys ih=>
   cases l with
   | nil=>exact h3.elim
   | cons z l=>
    simp only [zj,ji] at hl
    exact ⟨j9O _ _ _ hl.1 h3.1,ih hl.2 l h3.2⟩
 | .rl e x::as,u::us,.rl y::os,hf,⟨⟨t,xs,h1,_⟩,_,_⟩=>by
  simp only [zj,ji,Out.flat,h1,Ty.flat] at hf
  exact absurd hf.1 smp_
 | .v _::as,_::us,os,hf,h=>jcp (S1:=S1) (as:=as) (zs:=us) hsub hf h
 | .ip _::as,_::us,os,hf,h=>jcp (S1:=S1) (as:=as) (zs:=us) hsub hf h
 | .clo _ _::as,_::us,os,hf,h=>jcp (S1:=S1) (as:=as) (zs:=us) hsub hf h
 | .mv _ _::as,_::us,os,hf,h=>jcp (S1:=S1) (as:=as) (zs:=us) hsub hf h
theorem jvR {S S':j0e} {w:Â} {e:H} {a:Ty} {xs:F a.den} {u:G} (hf:a.flat=Ä) (h:jeg S' w e a xs u):jeg S w e a xs u:=by
 rcases h with ⟨hm,css,h1,h2⟩ | ⟨hm,h1⟩
 ·exact .inl ⟨hm,css,h1,h2.mono fun x c hx=>j9O _ _ _ hf hx⟩
 ·refine .inr ⟨hm,?_⟩
  revert hf h1
  cases a with
  | pair k b=>
   intro hf h1
   simp only [Ty.flat,ji] at hf
   obtain ⟨g,es,clock,hu,hh,ha,hq⟩:=h1
   exact ⟨g,es,clock,hu,hh,ha.mono fun x e hx=>⟨j9O _ _ _ hf.1 hx.1,j9O _ _ _ hf.2 hx.2.1,hx.2.2⟩,hq⟩
  | _=>intro _ h1;exact h1.elim
theorem jnR {S':j0e} {w':Â} (hsub:∀ g o,S g o→S' g o):∀ {rs:F RV} {vs:F G},rs.all RV.flat=Ä→All2 (jiC S' w') rs vs→All2 (jiC S w') rs vs
 | [],[],_,_=>trivial
 | r::rs,v::vs,hf,h=>by
  simp only [zj,ji] at hf
  have i1:=jnR hsub hf.2 h.2
  cases r with
  | v x=>
   obtain ⟨h1,h2,h3⟩:=h.1
   exact ⟨⟨j9O _ _ _ hf.1 h1,h2,h3⟩,i1⟩
  | own e x=>
   obtain ⟨a,xs,rfl,h1,h2⟩:=h.1
   exact ⟨⟨a,xs,rfl,jvR hf.1 h1,fun g hg o hs=>h2 g hg o (hsub g o hs)⟩,i1⟩
  | so ls=>simp [RV.flat] at hf
  | box ls=>simp [RV.flat] at hf
  | hd n=>simp [RV.flat] at hf
  | vn x ns=>simp [RV.flat] at hf
  | clo f cs=>simp [RV.flat] at hf
  | raw ns s=>simp [RV.flat] at hf
 | [],_::_,_,h=>h.elim
 | _::_,[],_,h=>h.elim
theorem jvS {rd:H→BS} (hrd:RdOk σ rd) {un:Ups} (h:un.all (fun e=>j4B (rd e.1))=Ä):∀ x∈un,σ.bx x.1 = .free:=
 fun x hx=>hrd.free (jw.1 h x hx)
theorem All2.len {α β:Type} {R:α→β→Prop} {as:F α} {bs:F β} (h:All2 R as bs):as.length=bs.length:=h.length
theorem jtr {γ':H→G} {bx:H→BS} {S':j0e} {w':Â} {tmv:H→G} {cs:F Cel} {vs:F G} (h:All2 (j0k S' w' γ' bx) cs vs) :
  j43 S' w' γ' bx tmv (jgw cs) (j5Q vs):=by
 match cs,vs,h with
 | [c],[v],h=>exact h.1
 | [],[],h=>exact ⟨#[],rfl,trivial⟩
 | c::c'::cs,v::v'::vs,h=>exact ⟨(v::v'::vs).toArray,rfl,by simpa using h⟩
 | [c],v::v'::vs,h=>exact h.2.elim
 | c::c'::cs,[v],h=>exact h.2.elim
 | [],v::vs,h=>exact h.elim
 | c::cs,[],h=>exact h.elim
theorem jd7 {bx:H→BS} {k e:H} {t:Ty}:∀ {as:F Arg} {us:F G} {fs:F Bk},j7v bx γ as us (.rl k e t::fs)→∀ (bs:F Arg) (vs:F G),jiV (as++bs) (us++vs)=D (γ k)
 | .rl e x::as,u::us,fs,⟨_,h1,_,_⟩,bs,vs=>by rw [←h1];rfl
 | .v _::as,_::us,fs,h,bs,vs=>jd7 (as:=as) (us:=us) (fs:=fs) h bs vs
 | .ip _::as,_::us,fs,h,bs,vs=>jd7 (as:=as) (us:=us) (fs:=fs) h bs vs
 | .clo _ _::as,_::us,fs,h,bs,vs=>jd7 (as:=as) (us:=us) (fs:=fs) h bs vs
 | [],[],fs,h,_,_=>h.elim
 | .ref _::as,_::us,fs,h,_,_=>h.elim
 | .mv _ _::as,_::us,fs,h,_,_=>h.elim
 | [],_::_,fs,h,_,_=>h.elim
 | _::_,[],fs,h,_,_=>by cases ‹Arg› <;> exact h.elim
theorem jju {α β:Type}:∀ (l:F α) (l':F β),List.Sublist ((l.zip l').map (·.1)) l
 | [],_=>smp_
 | _::_,[]=>smp_
 | x::l,y::l'=>by simpa using jju l l'
theorem jr3:∀ (as:F Arg) (us:F G) (bs:F Arg) (vs:F G),as.length=us.length→mvOf (as++bs) (us++vs)=mvOf as us++mvOf bs vs
 | [],[],bs,vs,_=>rfl
 | a::as,u::us,bs,vs,h=>by
  have ih:=jr3 as us bs vs (by simpa using h)
  cases a<;>simp [mvOf,ih]
 | [],_::_,_,_,h=>by simp at h
 | _::_,[],_,_,h=>by simp at h
theorem jts:∀ (cs:F Cap) (zs:F G),mvOf (cs.map jcf) zs=[]
 | [],_=>by cases ‹F G› <;> rfl
 | c::cs,[]=>by cases c<;>rfl
 | c::cs,z::zs=>by cases c<;>simp [mvOf,jcf,jts cs zs]
theorem jme:∀ {fs:F Bk} {os:F Out} {uo:Ups} {f:Bk},j8V fs os=D uo→f∈fs→f.isMv=Ä→(f.name,BS.gone)∈uo
 | [],os,uo,f,_,hf,_=>by simp at hf
 | .mv k e a::fs,os,uo,f,h,hf,hm=>by
  simp only [j8V] at h
  split at h
  ·rename_i u' hu'
   simp only [jb] at h;subst h
   rcases jl.1 hf with rfl | hf
   ·exact v7
   ·exact z6 _ (jme hu' hf hm)
  ·simp at h
 | .ref k::fs,[],uo,f,h,hf,hm=>by simp [j8V] at h
 | .rl k e a::fs,[],uo,f,h,hf,hm=>by simp [j8V] at h
 | .ref k::fs,o::os,uo,f,h,hf,hm=>by
  simp only [j8V] at h
  split at h
  ·split at h
   ·rename_i u' hu'
    simp only [jb] at h;subst h
    rcases jl.1 hf with rfl | hf
    ·simp [Bk.isMv] at hm
    ·exact z6 _ (jme hu' hf hm)
   ·simp at h
  ·simp at h
 | .rl k e a::fs,o::os,uo,f,h,hf,hm=>by
  simp only [j8V] at h
  split at h
  ·split at h
   ·rename_i u' hu'
    simp only [jb] at h;subst h
    rcases jl.1 hf with rfl | hf
    ·simp [Bk.isMv] at hm
    ·exact z6 _ (jme hu' hf hm)
   ·simp at h
  ·simp at h
theorem jlv {P:À} (hR:Rel N np S0 w0 refs σ a w S γ) {rw rd rdf:H→BS} (hrw:RdR σ rw) (hrd:RdOk σ rd) (hrdf:RdF np σ rdf) {T:H→Á TyI} {ts:F H} {ms:F Ö} {cs:F Cel} {as:F Arg} {us:Ups} {fs:F Bk} {zs:F G}
  {mv:Ö} (h:jce rw rdf T mv ts ms cs=D (as,us,fs)) (ha:All2 (j0k S w γ σ.bx) cs zs) (hok:bkOk us fs=Ä)
  {caps:F Cap} {cv:F G} (hcv:All2 (j7x S w) caps cv) {g:H} {K:Ret→Prop}
  (hspec:jvP P g (as++caps.map jcf) K) (n:H) :
  Calls P g (zs++cv).toArray w fun e w'=>∃ ret,K ret∧∀ s u,jm1 rd rdf n us fs ret=D (s,u)→∃ v S' γ',e = .returned v∧Rel N np S0 w0 refs (σ.upd u) a w' S' γ'∧j43 S' w' γ' (σ.upd u).bx (tm a) s v:=by
 obtain ⟨hfl,hbk,hdata⟩:=jlr hR hrw hrdf h ha
 simp only [bkOk,ji] at hok
 obtain ⟨hnd,hsep⟩:=hok
 have hnd:=j8n hnd
 have hlen:as.length=zs.length:=by
  have:∀ {as:F Arg} {us:F G} {fs:F Bk},j7v σ.bx γ as us fs→as.length=us.length:=by
   intro as
   induction as with
   | nil=>intro us fs hh;cases us with | nil=>rfl | cons _ _=>exact hh.elim
   | cons a as ih=>
    intro us fs hh
    cases us with
    | nil=>cases a<;>exact hh.elim
    | cons u us=>
     cases a with
     | v x=>have:=ih (us:=us) (fs:=fs) hh;simp [this]
     | ip x=>have:=ih (us:=us) (fs:=fs) hh;simp [this]
     | clo x y=>have:=ih (us:=us) (fs:=fs) hh;simp [this]
     | ref ls=>match fs,hh with | .ref k::fs,⟨_,_,h3⟩=>have:=ih h3;simp [this]
     | rl e x=>match fs,hh with | .rl k e' t::fs,⟨_,_,_,h3⟩=>have:=ih h3;simp [this]
     | mv e x=>match fs,hh with | .mv k e' t::fs,⟨_,_,_,h3⟩=>have:=ih h3;simp [this]
  exact this hbk
 obtain ⟨S1,hR1,hst1,hfz1,hsame⟩:=j2B us σ S hR hfl
 have hsepk:∀ k,k∈fs.map Bk.name→us.any (fun y=>y.1==k)=false:=by
  intro k hk
  rw [qr]
  intro x hx he
  have:=jw.1 hsep x hx
  simp only [vg] at he
  subst he
  simp only [qd,qi,ko] at this
  exact this hk
 have hsame1:∀ f∈fs,(σ.upd us).bx f.name=σ.bx f.name:=fun f hf=>j1R us σ (hsepk _ (ñ hf))
 have hbk1:=hbk.congr hsame1
 have hnoS:∀ k b,fs.any (fun y=>y.name==k)=Ä→σ.bx k = .live b→∀ g,blk (γ k)=D g→∀ o,¬ S1 g o:=by
  intro k b hk hb g hg o
  obtain ⟨f,hf,he⟩:=List.any_eq_true.1 hk
  have he:f.name=k:=by simpa using he
  subst he
  have hb1:(σ.upd us).bx f.name = .live b:=(hsame1 f hf).trans hb
  have hbox:=hR1.box f.name b hb1
  have hkind:(∃ ls',b = .cell ls' U)∨(∃ e t xs,b = .lst e t xs U):=by
   have:∀ {as:F Arg} {us:F G} {fs:F Bk},j7v σ.bx γ as us fs→f∈fs→(∃ ls',σ.bx f.name = .live (.cell ls' U))∨(∃ e t xs,σ.bx f.name = .live (.lst e t xs U)):=by
    intro as
    induction as with
    | nil=>intro us fs hh hm;match us,fs,hh with | [],[],_=>simp at hm
    | cons a as ih=>
     intro us fs hh hm
     cases us with
     | nil=>cases a<;>exact hh.elim
     | cons u us=>
      cases a with
      | v x=>exact ih (us:=us) (fs:=fs) hh hm
      | ip x=>exact ih (us:=us) (fs:=fs) hh hm
      | clo x y=>exact ih (us:=us) (fs:=fs) hh hm
      | ref ls=>
       match fs,hh with
       | .ref k::fs,⟨_,⟨ls',h2⟩,h3⟩=>
        rcases jl.1 hm with rfl | hm
        ·exact .inl ⟨ls',h2⟩
        ·exact ih h3 hm
      | rl e x=>
       match fs,hh with
       | .rl k e' t::fs,⟨_,_,⟨xs,h2,_⟩,h3⟩=>
        rcases jl.1 hm with rfl | hm
        ·exact .inr ⟨_,t,xs,h2⟩
        ·exact ih h3 hm
      | mv e x=>
       match fs,hh with
       | .mv k e' t::fs,⟨_,_,⟨xs,h2,_⟩,h3⟩=>
        rcases jl.1 hm with rfl | hm
        ·exact .inr ⟨_,t,xs,h2⟩
        ·exact ih h3 hm
   rcases this hbk hf with ⟨ls',h2⟩ | ⟨e,t,xs,h2⟩
   ·rw [hb] at h2;simp at h2;exact .inl ⟨ls',h2⟩
   ·rw [hb] at h2;simp at h2;exact .inr ⟨e,t,xs,h2⟩
  rcases hkind with ⟨ls',rfl⟩ | ⟨e,t,xs,rfl⟩
  ·obtain ⟨g',cur,e,hg',_,_,_,hS,_⟩:=hbox
   rw [hg'] at hg;simp [blk] at hg;subst hg
   exact hS rfl o
  ·exact (hbox.2 g hg).1 rfl o
 have hargs:All2 (jbg S1 w) as zs:=hdata S1 hst1 hfz1 hnoS
 have hcaps:All2 (jbg S1 w) (caps.map jcf) cv:=jtm (hcv.mono (fun x z hx=>j7x.keep hst1 hx))
 have hrefs:j1J (as++caps.map jcf) (zs++cv)=j1J as zs:=by
  rw [jls _ _ _ _ hlen,jr1,ql]
 have hrefsnd:(j1J as zs).Nodup:=by
  rw [j7o hbk]
  have:=jhG hR hnd (fun k hk=>by obtain ⟨f,hf,rfl⟩:=kp.1 hk;exact jbS hbk f hf)
  rwa [List.filterMap_map] at this
 refine (hspec w S1 (zs++cv) (hargs.append hcaps) (by rw [hrefs];exact hrefsnd) hR1.here).mono ?_
 rintro e w' ⟨ret,hK,v,S',vs,rfl,hret⟩
 refine ⟨ret,hK,fun s u hmk=> ?_⟩
 obtain ⟨hval,hrep,hfresh,hapart,houts,hstays,hnew,hhere,hbelow,hgrow,hos,htape,hout,hraw,hhead⟩:=hret
 rw [hrefs] at hbelow
 have hmvs:mvOf (as++caps.map jcf) (zs++cv)=mvOf as zs:=by
  rw [jr3 _ _ _ _ hlen,jts,ql]
 rw [hmvs] at hfresh hnew
 have hpar:∀ f∈fs,f.isMv=Ä→parK np f.name=false:=jlt hrdf h
 have houts:=jd6 hlen houts
 refine ⟨v,?_⟩
 unfold jm1 at hmk
 split at hmk
 ·-- the list handed first,cut short
  rename_i m hvm
  unfold mkHd at hmk
  generalize hro:ret.outs=ro at hmk houts
  split at hmk
  ·rename_i k e el fs' y os' _
   split at hmk
   ·rename_i uo ys huo hys
    split at hmk
    ·rename_i hcond
     simp only [ji] at hcond
     simp only [jb,jf] at hmk
     obtain ⟨rfl,rfl⟩:=hmk
     have hR2:=jhI hR1 hstays hnew hhere (fun _ h=>h) hpar hbk1 hnd huo houts hbelow hgrow hos htape hout
     obtain ⟨hkeys,hobox⟩:=j9P hR1 hbk1 huo houts
     have hnk:(uo.map (·.1)).Nodup:=by rw [hkeys];exact hnd
     have huo':(k,BS.live (.lst e el ys U))∈uo:=by
      simp only [j8V,jvu,hys] at huo
      split at huo
      ·simp only [jb] at huo
       rw [←huo]
       exact v7
      ·simp at huo
     have hk2:=jik uo (σ.upd us) hnk huo'
     obtain ⟨bl,hbl⟩:=jck hcond.2
     have hkp:=hrdf.par hbl
     have h0:=hrd.free hcond.1
     have h1:(σ.upd us).bx n = .free:=hsame.free h0
     have hfree2:((σ.upd us).upd uo).bx n = .free:=by
      rw [j1R uo,h1]
      rw [qr]
      intro y hy he
      simp only [vg] at he
      obtain ⟨b0,h2,_⟩:=hobox y hy
      rw [he,h1] at h2;simp at h2
     obtain ⟨ad,len,cap,hfr,hml,hvs⟩:=hhead m hvm
     have hgk:γ k = .slice ad len cap:=by
      have:=jd7 hbk (caps.map jcf) cv
      rw [hfr] at this
      simpa using this.symm
     have hlen':len=ys.length:=by
      obtain ⟨css,hown,_⟩:=jqV hgk (hR2.box k _ hk2)
      rcases hown.2 with ⟨hg',hn⟩ | ⟨g,cap',cur,hg',_⟩
      ·rw [hgk] at hg';simp only [Z] at hg';omega
      ·rw [hgk] at hg';simp only [Z] at hg';omega
     obtain ⟨γ',hRn,hcn⟩:=jvL hR2 hk2 hkp hfree2 (m:=m) omg_ (by rw [hgk,hlen'])
     refine ⟨S',γ',rfl,by rw [j3O,j3O];exact hRn,?_⟩
     rw [hval,hvs,j3O,j3O]
     exact hcn
    ·simp at hmk
   ·simp at hmk
  ·simp at hmk
 ·-- the results as they lie
  rename_i ns sn hvm
  unfold jsU at hmk
  generalize hro:ret.outs=ro at hmk houts
  split at hmk
  case h_2=>simp at hmk
  split at hmk
  case isFalse=>simp at hmk
  rename_i hcond
  simp only [ji] at hcond
  simp only [jb,jf] at hmk
  obtain ⟨rfl,rfl⟩:=hmk
  have hR2:=jhI hR1 hstays hnew hhere (fun _ h=>h) hpar hbk1 hnd (uo:=[]) rfl houts hbelow hgrow hos htape hout
  have hsub:∀ x∈rawU ns sn,x.1∈ns:=fun x hx=>(List.of_mem_zip hx).1
  obtain ⟨γ',hR3,zs',hv',hc'⟩:=jtp (h0:=w.heap.size) hR2 hR.grow (fun k b g hb hg=>j44 (hR1.box k b hb) hg) (fun g hg=>hR.kw_new hg) (hraw ns sn hvm)
   (fun x hx=>hsame.free (hrd.free (jw.1 hcond.2 x.1 (hsub x hx)))) (by
    exact List.Nodup.sublist (jju _ _) (j8n hcond.1))
  refine ⟨S',γ',rfl,by rw [j3O];exact hR3,?_⟩
  rw [hv',j3O]
  exact jtr hc'
 split at hmk
 ·rename_i uo huo
  split at hmk
  ·rename_i cs' un hun
   split at hmk
   ·rename_i hfree
    have hfree:=jvS hrd hfree
    have hfin:∀ (usx:Ups) (Sx Sy:j0e),(usx=us∨usx=[])→Rel N np S0 w0 refs (σ.upd usx) a w Sx γ→j2O Sx w Sy w'→(∀ g o,Sy g o→Sx g o∨w.heap.size≤g∨g∈mvOf as zs)→(∀ g o,Sy g o→g<w'.heap.size)→
      j52 Sy w' as zs ret.outs→All2 (jiC Sy w') ret.vals vs→
      ∃ S' γ',Rel N np S0 w0 refs (σ.upd (usx++uo++un)) a w' S' γ'∧All2 (j0k S' w' γ' (σ.upd (usx++uo++un)).bx) cs' vs:=by
     intro usx Sx Sy husx hRx hstx hnewx hherex houtx hvalx
     have hbkx:j7v (σ.upd usx).bx γ as zs fs:=by
      rcases husx with rfl | rfl
      ·exact hbk1
      ·exact hbk
     have hR2:=jhI hRx hstx hnewx hherex (fun _ h=>h) hpar hbkx hnd huo houtx hbelow hgrow hos htape hout
     obtain ⟨hkeys,hobox⟩:=j9P hRx hbkx huo houtx
     have hlive2:∀ k b,((σ.upd usx).upd uo).bx k = .live b→∃ b',(σ.upd usx).bx k = .live b':=by
      intro k b hb
      by_cases hk:uo.any (fun y=>y.1==k)=Ä
      ·obtain ⟨x,hx,he⟩:=List.any_eq_true.1 hk
       have he:x.1=k:=by simpa using he
       subst he
       obtain ⟨b0,h0,_⟩:=hobox x hx
       exact ⟨b0,h0⟩
      ·rw [j1R uo _ (qo.2 hk)] at hb
       exact ⟨b,hb⟩
     have hfree2:∀ x∈un,((σ.upd usx).upd uo).bx x.1 = .free:=by
      intro x hx
      have h0:=hfree x hx
      have h1:(σ.upd usx).bx x.1 = .free:=by
       rcases husx with rfl | rfl
       ·exact hsame.free h0
       ·exact h0
      rw [j1R uo,h1]
      rw [qr]
      intro y hy he
      simp only [vg] at he
      obtain ⟨b0,h2,_⟩:=hobox y hy
      rw [he,h1] at h2;simp at h2
     obtain ⟨γ',hR3,_,hcel⟩:=jr2 hR2 hun hvalx hfree2 hapart (fun g hg=>by
      rcases hfresh g hg with hge | hgm
      ·refine ⟨⟨.inl (q7 hR.grow hge),hR.kw_new hge⟩,fun k b hb he=> ?_⟩
       obtain ⟨b',hb'⟩:=hlive2 k b hb
       have:=j44 (hRx.box k b' hb') he
       omega
      ·obtain ⟨f,hf,hfm,hfg⟩:=jbi hbkx hgm
       obtain ⟨bf,hbf⟩:=jbS hbkx f hf
       refine ⟨⟨?_,hRx.kw_live hbf hfg⟩,fun k b hb he=> ?_⟩
       ·rcases hRx.own f.name bf g hbf hfg with h | h
        ·exact h
        ·rw [hpar f hf hfm] at h;simp at h
       ·obtain ⟨b',hb'⟩:=hlive2 k b hb
        have hkf:k≠f.name:=by
         rintro rfl
         have hgone:=jme huo hf hfm
         rw [jik uo (σ.upd usx) (by rw [hkeys];exact hnd) hgone] at hb
         simp at hb
        exact hRx.apart k f.name b' bf g hkf hb' hbf he hfg)
     refine ⟨Sy,γ',?_,?_⟩
     ·rw [j3O,j3O];exact hR3
     ·rw [j3O,j3O];exact hcel
    have hcase:∃ usx,(usx=us∨usx=[])∧usx=(if ret.vals.all RV.flat&&ret.outs.all Out.flat then [] else us)∧
      ∃ S' γ',Rel N np S0 w0 refs (σ.upd (usx++uo++un)) a w' S' γ'∧All2 (j0k S' w' γ' (σ.upd (usx++uo++un)).bx) cs' vs:=by
     by_cases hflat:(ret.vals.all RV.flat&&ret.outs.all Out.flat)=Ä
     ·refine ⟨[],.inr rfl,by rw [if_pos hflat],?_⟩
      obtain ⟨hf1,hf2⟩:=Bool.and_eq_true_iff.1 hflat
      have hsub:∀ g o,S g o→S' g o:=fun g o hs=>(hstays g o (hst1 g o hs).1).1
      refine hfin [] S S (.inr rfl) hR (fun g o hs=>⟨hs,(hstays g o (hst1 g o hs).1).2⟩) (fun g o hs=> .inl hs) (fun g o hs=>zf (hR.here g o hs) hgrow)
       (jcp (S1:=S1) hsub hf2 houts) (jnR hsub hf1 hrep)
     ·exact ⟨us,.inl rfl,by rw [if_neg hflat],hfin us S1 S' (.inl rfl) hR1 hstays hnew hhere houts hrep⟩
    obtain ⟨usx,_,husx,S2,γ2,hR2,hcel2⟩:=hcase
    have hs:s=jgw cs'∧u=(if ret.vals.all RV.flat&&ret.outs.all Out.flat then [] else us)++uo++un:=by
     clear hcel2 hfin hR2 hun
     revert hmk
     match cs' with
     | [c]=>simp only [jb,jf];rintro ⟨rfl,rfl⟩;exact ⟨rfl,rfl⟩
     | []=>simp only [jb,jf];rintro ⟨rfl,rfl⟩;exact ⟨rfl,rfl⟩
     | c::c'::r=>simp only [jb,jf];rintro ⟨rfl,rfl⟩;exact ⟨rfl,rfl⟩
    obtain ⟨rfl,rfl⟩:=hs
    rw [←husx]
    exact ⟨S2,γ2,rfl,hR2,by rw [hval];exact jtr hcel2⟩
   ·simp at hmk
  ·simp at hmk
 ·simp at hmk
theorem jgB {P:À} {f:H} (hf:Fun P f) {o:Oper} {cl:Call} (ho:o.op = .call cl) {x:û} (hc:cl.callee = .value x) {cv:È G} (hx:a.eval x = .func (.func f) #[] cv) :
  (execOp a.eval o).run P w = .ok (.enter f (cl.args.map a.eval++cv)) w:=by
 obtain ⟨fn,h1,h2,h3⟩:=hf
 have h2':¬ fn.body=none:=fun hn=>by rw [hn] at h2;simp at h2
 have h3' : ¬ fn.name = "runtime.NumGoroutine" := by simpa using h3
 simp [execOp,ho,resolve,hc,Deferred.ofValue,hx,invoke,callFunc,h1,h2',h3']
end
section
variable {N:NT} {np:H} {S0:j0e} {w0:Â} {refs:Refs} {σ:St} {a:Ü} {w:Â} {S:j0e} {γ:H→G}
def keyV:(k:Ty)→k.den→G
 | .int q,n=> .int q n
 | .str,s=> .string s
 | _,_=>undef
theorem jhJ:∀ {k:Ty} {x:k.den} {u:G},k.isKey=Ä→(Rep S w k x [u]↔u=keyV k x)
 | .int q,x,u,_=>by simp [Rep,keyV]
 | .str,x,u,_=>by simp [Rep,keyV]
 | .bool,_,_,h=>by simp [Ty.isKey] at h
 | .unit,_,_,h=>by simp [Ty.isKey] at h
 | .wrap _,_,_,h=>by simp [Ty.isKey] at h
 | .pair _ _,_,_,h=>by simp [Ty.isKey] at h
 | .list _,_,_,h=>by simp [Ty.isKey] at h
 | .arr _ _,_,_,h=>by simp [Ty.isKey] at h
def keyD:Ty→TypeDesc
 | .int q=> .int q
 | _=> .string
theorem jvT {P:À} {T:H→Á TyI} (hT:j1Q P T) {n:H} {ti:TyI} (hn:T n=D ti) {k:Ty} (hty:ti.ty=D k) (hk:k.isKey=Ä):P.underlying n=D (keyD k):=by
 cases k with
 | int q=>exact jpu hT hn hty
 | str=>exact jpx hT hn hty
 | _=>simp [Ty.isKey] at hk
theorem jwN {k:Ty} (hk:k.isKey=Ä) (x:k.den):MapKept.IsKey (keyD k) (keyV k x):=by
 cases k with
 | int q=>rfl
 | str=>trivial
 | _=>simp [Ty.isKey] at hk
theorem jmf {k:Ty} (hk:k.isKey=Ä) (x y:k.den):ò (keyD k) (keyV k x) (keyV k y)=D (@BEq.beq _ k.keq x y):=by
 cases k with
 | int q=>simp [keyD,keyV,ò]
 | str=>simp [keyD,keyV,ò]
 | _=>simp [Ty.isKey] at hk
theorem jyY {k:Ty} (hk:k.isKey=Ä) {x y:k.den} (h:@BEq.beq _ k.keq x y=Ä):x=y:=by
 cases k with
 | int q=>simpa [Ty.keq] using h
 | str=>exact (è x y).1 h
 | _=>simp [Ty.isKey] at hk
theorem jr4 {k:Ty} (hk:k.isKey=Ä) (x:k.den):í 10000 (keyV k x) (keyV k x)=true:=by
 cases k with
 | int q=>simp [keyV,í]
 | str=>simp only [keyV,í];exact (è x x).2 rfl
 | _=>simp [Ty.isKey] at hk
def jjv (S:j0e) (w:Â) (k v:Ty) (x:k.den×v.den) (e:þ):Prop:=Rep S w k x.1 [e.key]∧VRep S w ⟨v,x.2⟩ e.val
theorem jmg {k v:Ty} (hk:k.isKey=Ä) (q:k.den):∀ {xs:F (k.den×v.den)} {es:F þ},All2 (jjv S w k v) xs es→∀ i:H,
  (@jfo _ _ k.keq xs q=Ä∧∃ j e,Ú (keyD k) (keyV k q) es i=D (D (i+j,e.val))∧es[j]? = D e∧e.key=keyV k q∧VRep S w ⟨v,@jam _ _ k.keq v.dflt xs q⟩ e.val∧
   ∀ (z:v.den) (e':þ),e'.key=keyV k q→VRep S w ⟨v,z⟩ e'.val→All2 (jjv S w k v) (@j6J _ _ k.keq xs q z) (es.set j e'))∨
  (@jfo _ _ k.keq xs q=U∧Ú (keyD k) (keyV k q) es i=D M∧@jam _ _ k.keq v.dflt xs q=v.dflt∧∀ z,@j6J _ _ k.keq xs q z=xs++[(q,z)])
 | [],[],_,i=> .inr ⟨rfl,rfl,rfl,fun _=>rfl⟩
 | x::xs,e::es,h,i=>by
  have hek:e.key=keyV k x.1:=(jhJ hk).1 h.1.1
  have hs:=jmf hk q x.1
  rw [←hek] at hs
  cases hb:@BEq.beq _ k.keq q x.1 with
  | true=>
   rw [hb] at hs
   have hqx:=jyY hk hb
   refine .inl ⟨by simp [jfo,hb],0,e,by simp [Ú,hs],rfl,by rw [hek,hqx],?_,fun z e' h1 h2=> ?_⟩
   ·simp only [jam,hb,jc];exact h.1.2
   ·simp only [j6J,hb,jc,à]
    exact ⟨⟨(jhJ hk).2 h1,h2⟩,h.2⟩
  | false=>
   rw [hb] at hs
   rcases jmg hk q h.2 (i+1) with ⟨h1,j,e',h2,h3,h4,h5,h6⟩ | ⟨h1,h2,h3,h4⟩
   ·refine .inl ⟨by simp only [jfo,ã,hb,Bool.false_or];exact h1,j+1,e',by simp only [Ú,hs,h2];congr 3;omega,by simpa using h3,h4,?_,fun z e2 g1 g2=> ?_⟩
    ·simp only [jam,hb,jd];exact h5
    ·simp only [j6J,hb,jd,List.set_cons_succ]
     exact ⟨h.1,h6 z e2 g1 g2⟩
   ·refine .inr ⟨by simp only [jfo,ã,hb,Bool.false_or];exact h1,by simp only [Ú,hs,h2],?_,fun z=> ?_⟩
    ·simp only [jam,hb,jd];exact h3
    ·simp only [j6J,hb,jd,h4 z];rfl
 | [],_::_,h,_=>h.elim
 | _::_,[],h,_=>h.elim
theorem jwO {k v:Ty} (hk:k.isKey=Ä) {q:k.den}:∀ {xs:F (k.den×v.den)} {es:F þ},All2 (jjv S w k v) xs es→@jfo _ _ k.keq xs q=U→∀ e∈es,e.key≠keyV k q
 | [],[],_,_=>smp_
 | x::xs,e::es,h,hn=>by
  simp only [jfo,ã,vf] at hn
  intro e' he'
  rcases jl.1 he' with rfl | he'
  ·intro hq
   have hek:=(jhJ hk).1 h.1.1
   have hs:=jmf hk q x.1
   rw [←hek,hq,jmf hk q q,hn.1] at hs
   simp only [jb] at hs
   have:=jr4 hk q
   cases k with
   | int z=>simp at hs
   | str=>have:=(è q q).2 rfl;exact absurd (hs.symm.trans this) smp_
   | _=>simp [Ty.isKey] at hk
  ·exact jwO hk h.2 hn.2 e' he'
 | [],_::_,h,_=>h.elim
 | _::_,[],h,_=>h.elim
theorem jmh {P:À} {T:H→Á TyI} (hT:j1Q P T) {t:H} {k v:Ty} (h:jjd T t=D (k,v)) :
  ∃ kt vt tv,P.underlying t=D (.map kt vt)∧P.underlying kt=D (keyD k)∧k.isKey=Ä∧T vt=D tv∧tv.ty=D v:=by
 unfold jjd at h
 split at h
 ·rename_i ti hti
  split at h
  ·rename_i k0 v0 hmp
   split at h
   ·rename_i tk tv htk htv
    split at h
    ·rename_i k1 v1 hk1 hv1
     split at h
     ·rename_i hik
      simp only [jb,jf] at h
      obtain ⟨rfl,rfl⟩:=h
      exact ⟨k0,v0,tv,jxG hT hti hmp,jvT hT htk hk1 hik,hik,htv,hv1⟩
     ·simp at h
    ·simp at h
   ·simp at h
  ·simp at h
 ·simp at h
theorem jtt {rw:H→BS} (hrw:RdR σ rw) {t:H} {k v:Ty} {x y:Leaf} {b:H} {ys:F (k.den×v.den)} {q:k.den} (h:mapC rw t k v x y=D (b,ys,q)) :
  x = .ol b∧y = .d k q∧σ.bx b = .live (.lst (4294967296+t) (.pair k v) ys U):=by
 unfold mapC at h
 split at h
 ·rename_i b0 tk key
  split at h
  ·rename_i e a0 xs hb
   split at h
   ·rename_i he
    split at h
    ·rename_i ys' q' h1 h2
     simp only [jb,jf] at h
     obtain ⟨rfl,rfl,rfl⟩:=h
     have e1:=jfh h1
     have e2:=jfh h2
     cases e1;cases e2
     subst he
     exact ⟨rfl,rfl,hrw.live hb⟩
    ·simp at h
   ·simp at h
  ·simp at h
 ·simp at h
theorem jgC (t:H):isM (4294967296+t)=true:=by
 unfold isM;rw [Nat.ble_eq];exact Nat.le_add_right _ _
theorem jtu (hR:Rel N np S0 w0 refs σ a w S γ) {b t:H} {k v:Ty} {ys:F (k.den×v.den)} {f:Ö} (hb:σ.bx b = .live (.lst (4294967296+t) (.pair k v) ys f)) :
  ∃ g es clock,γ b = .map (D g)∧w.heap[g]? = D (.map es clock)∧All2 (jjv S w k v) ys es.toList∧jih es clock:=by
 have h:=(hR.box b _ hb).1
 rcases h with ⟨hm,_⟩ | ⟨_,g,es,clock,h1,h2,h3,h4⟩
 ·rw [jgC] at hm;simp at hm
 ·exact ⟨g,es,clock,h1,h2,h3,h4⟩
theorem jtv {P:À} {T:H→Á TyI} (hT:j1Q P T) {n:H} {ti:TyI} (hn:T n=D ti) {t:Ty} (hty:ti.ty=D t):∃ z,(zeroValue n).run P w = .ok z w∧VRep S w ⟨t,t.dflt⟩ z:=by
 obtain ⟨i,d,hi,hd,hs,_,ha,_,h⟩:=j4D hT hn
 obtain ⟨_,⟨z,hz,hc⟩,hdo⟩:=h t hty
 have hzo:=jvA hT hn hi hd
 refine ⟨z,by simp [zeroValue,typeInfo,hi,hz],?_,?_,?_⟩
 ·rw [hc];exact j6S t
 ·intro hm
  have:aggD d=true:=by
   cases d<;>cases t<;>simp_all [j7y,jb5,aggD,Ty.agg]
  simp only [zOk,hz] at hzo
  cases z<;>simp_all
 ·intro hm
  have:aggD d=false:=by
   cases d<;>cases t<;>simp_all [j7y,jb5,aggD,Ty.agg]
  simp only [zOk,hz] at hzo
  cases z<;>first | rfl | simp_all
theorem jpz {P:À} {E:Env} (hT:j1Q P E.T) (hR:Rel N np S0 w0 refs σ a w S γ) {rw:H→BS} (hrw:RdR σ rw) {t:H} {k v:Ty} (ht:jjd E.T t=D (k,v)) {x y:Leaf} {b:H} {ys:F (k.den×v.den)} {q:k.den}
  (h:mapC rw t k v x y=D (b,ys,q)) {zx zy:G} (hx:j0b S w γ σ.bx x zx) (hy:j0b S w γ σ.bx y zy) :
  ∃ z,VRep S w ⟨v,@jam _ _ k.keq v.dflt ys q⟩ z∧∀ ok,(ô t zx zy ok).run P w = .ok (if ok then .tuple #[z,.bool (@jfo _ _ k.keq ys q)] else z) w:=by
 obtain ⟨kt,vt,tv,hund,hkd,hik,htv,htvy⟩:=jmh hT ht
 obtain ⟨rfl,rfl,hb⟩:=jtt hrw h
 obtain ⟨g,es,clock,hg,hh,ha,_⟩:=jtu hR hb
 have hzx:zx = .map (D g):=(hx.2.2 _ hb).trans hg
 have hzy:zy=keyV k q:=(jhJ hik).1 hy
 subst hzx;subst hzy
 have hck:=î (w:=w) hkd (jwN hik q) es.isEmpty 9999
 rcases jmg hik q ha 0 with ⟨h1,j,e,h2,h3,h4,h5,h6⟩ | ⟨h1,h2,h3,h4⟩
 ·refine ⟨e.val,h5,fun ok=> ?_⟩
  have hf:=Ò (w:=w) hkd h2
  simp only [ô,J,run_underlying hund,I,Í hh,Ã,hck,hf,h1]
 ·obtain ⟨z,hz,hzv⟩:=jtv (S:=S) (w:=w) hT htv htvy
  refine ⟨z,by rw [h3];exact hzv,fun ok=> ?_⟩
  have hf:=Ò (w:=w) hkd h2
  simp only [ô,J,run_underlying hund,I,Í hh,Ã,hck,hf,h1,hz]
theorem jtw (hR:Rel N np S0 w0 refs σ a w S γ) {k:H} {b b':Bx} (hk:σ.bx k = .live b) {g:H} (hg:blk (γ k)=D g) (hS:∀ o,¬ S g o) (hsh:j1Y b b')
  {w':Â} (hoth:∀ i,i≠g→w'.heap[i]? = w.heap[i]?) (hsz:w'.heap.size=w.heap.size) (hos:w'.os=w.os) (htp:w'.tape=w.tape) (hout:w'.output=w.output)
  (hb:BxLe γ σ.bx γ (σ.setB k (.live b')).bx→j2O S w S w'→j1X S w' γ (σ.setB k (.live b')).bx k b') :
  Rel N np S0 w0 refs (σ.setB k (.live b')) a w' S γ:=by
 have hle:BxLe γ σ.bx γ (σ.setB k (.live b')).bx:=by
  intro k' hk'
  by_cases hkk:k'=k
  ·subst hkk
   rw [j0r]
   exact ⟨smp_,rfl,fun b1 hb1=>by simp at hb1;subst hb1;exact ⟨b,hk,hsh⟩⟩
  ·rw [j09 σ _ hkk]
   exact ⟨hk',rfl,fun b hb=>⟨b,hb,.refl b⟩⟩
 have hst:j2O S w S w':=by
  intro g' o h
  refine ⟨h,Ð (hoth g' ?_)⟩
  rintro rfl
  exact hS o h
 have live':∀ k' b1,(σ.setB k (.live b')).bx k' = .live b1→∃ b2,σ.bx k' = .live b2:=by
  intro k' b1 h1
  by_cases hkk:k'=k
  ·subst hkk;exact ⟨b,hk⟩
  ·rw [j09 σ _ hkk] at h1;exact ⟨b1,h1⟩
 refine Rel.step (bx':=(σ.setB k (.live b')).bx) hR hst hle ?_ ?_ ?_ hR.new ?_ ?_ ?_ (hos.trans hR.os) (htp.trans hR.tape) (hout.trans hR.output) (fun g' _ _ h=>⟨hoth g' (fun e=>h k b hk (e▸hg)),fun k' b1 h1=>by
  obtain ⟨b2,h2⟩:=live' k' b1 h1
  exact h k' b2 h2⟩)
 ·intro k' b1 h1
  by_cases hkk:k'=k
  ·subst hkk
   rw [j0r] at h1;simp at h1;subst h1
   exact hb hle hst
  ·rw [j09 σ _ hkk] at h1
   refine j1X.keep hst hle rfl (fun g' hg'=>⟨?_,fun _=>â⟩) (hR.box k' b1 h1)
   exact hoth g' (fun h=>hR.apart k' k b1 b g hkk h1 hk (h▸hg') hg)
 ·intro k' b1 g' h1 hg'
  obtain ⟨b2,h2⟩:=live' k' b1 h1
  exact hR.own k' b2 g' h2 hg'
 ·intro k1 k2 b1 b2 g' hne h1 h2 hg'
  obtain ⟨b1',h1'⟩:=live' k1 b1 h1
  obtain ⟨b2',h2'⟩:=live' k2 b2 h2
  exact hR.apart k1 k2 b1' b2' g' hne h1' h2' hg'
 ·intro g' o h;rw [hsz];exact hR.here g' o h
 ·intro g' hg' hr
  rw [hoth g' ?_]
  ·exact hR.below g' hg' hr
  ·rintro rfl
   rcases hR.own k b _ hk hg with h | h
   ·exact h.no omg_ hr
   ·exact hr h.1
 ·rw [hsz];exact hR.grow
theorem js4 {P:À} {E:Env} (hT:j1Q P E.T) (hR:Rel N np S0 w0 refs σ a w S γ) {rw:H→BS} (hrw:RdR σ rw) {t:H} {k v:Ty} (ht:jjd E.T t=D (k,v)) {x y:Leaf} {b:H} {ys:F (k.den×v.den)} {q:k.den}
  (h:mapC rw t k v x y=D (b,ys,q)) {zx zy zz:G} (hx:j0b S w γ σ.bx x zx) (hy:j0b S w γ σ.bx y zy) {rdf:H→BS} (hrdf:RdF np σ rdf) {c:Cel} {z:v.den} {u:Ups} (hd:jfp rdf v c=D (z,u)) (hz:j0k S w γ σ.bx c zz) :
  ∃ w' S',(Û t zx zy zz).run P w = .ok () w'∧Rel N np S0 w0 refs (σ.upd (u++[(b,.live (.lst (4294967296+t) (.pair k v) (@j6J _ _ k.keq ys q z) U))])) a w' S' γ:=by
 obtain ⟨kt,vt,tv,hund,hkd,hik,htv,htvy⟩:=jmh hT ht
 obtain ⟨rfl,rfl,hb⟩:=jtt hrw h
 obtain ⟨hfl,hrep,_⟩:=jeV hrdf hR.box hd hz
 obtain ⟨S1,hR1,hst1,hfz1,hsame⟩:=j2B u σ S hR hfl
 have hnb:u.any (fun y=>y.1==b)=false:=by
  rw [qr]
  intro y hy hyb
  obtain ⟨_,e,t',xs,f,h1,_,hm⟩:=hfl y hy
  rw [show y.1=b by simpa using hyb,hb] at h1
  cases h1
  rw [jgC] at hm;simp at hm
 have hb1:(σ.upd u).bx b = .live (.lst (4294967296+t) (.pair k v) ys U):=(j1R u σ hnb).trans hb
 obtain ⟨g,es,clock,hg,hh,ha,hq⟩:=jtu hR1 hb1
 have hzx:zx = .map (D g):=(hx.2.2 _ hb).trans hg
 have hzy:zy=keyV k q:=(jhJ hik).1 hy
 subst hzx;subst hzy
 have hvz:=hrep S1 w hst1 hfz1
 have hgb:blk (γ b)=D g:=by rw [hg];rfl
 have hS:∀ o,¬ S1 g o:=((hR1.box b _ hb1).2 g hgb).1 rfl
 have hck:=î (w:=w) hkd (jwN hik q) U 9999
 have main:∃ es' clock',(Û t (.map (D g)) (keyV k q) zz).run P w = .ok () { w with heap:=w.heap.setIfInBounds g (.map es' clock') }∧All2 (jjv S1 w k v) (@j6J _ _ k.keq ys q z) es'.toList∧jih es' clock':=by
  rcases jmg hik q ha 0 with ⟨h1,j,e,h2,h3,h4,h5,h6⟩ | ⟨h1,h2,h3,h4⟩
  ·have hf:=Ò (w:=w) hkd h2
   rw [kj] at hf
   refine ⟨es.modify j fun e=>{ e with key:=keyV k q,val:=zz },clock,?_,?_,MapKept.stamped_modify hq.1 j _ (fun _ _=>rfl) (fun e1 _ he1=> ?_),?_⟩
   ·have hjk:((es[j]?).map (·.key)).getD (keyV k q)=keyV k q:=by
     rw [show es[j]? = D e by simpa using h3];exact h4
    simp only [Û,J,run_underlying hund,I,Í hh,hck,hf,Instr.keyThatStays,hjk,jr4 hik q,if_true,Ã,ë _ hh]
   ·have e1:(es.modify j fun e=>{ e with key:=keyV k q,val:=zz }).toList=es.toList.set j { e with key:=keyV k q,val:=zz }:=by
     refine zp fun i=> ?_
     rw [qg,ì,List.getElem?_set]
     have h3':es[j]? = D e:=by simpa using h3
     by_cases hij:j=i
     ·subst hij
      simp only [if_true,h3',kz]
      rw [if_pos (by simpa using (jn.1 h3').1)]
     ·simp [hij]
    rw [e1]
    exact h6 z _ rfl hvz
   ·rw [show es[j]? = D e by simpa using h3] at he1
    cases he1
    exact h4.symm
   ·rw [←hq.2]
    refine zp fun i=> ?_
    rw [qn,qn,qg,qg,ì]
    split
    ·rename_i hij;subst hij
     cases es[j]? <;> rfl
    ·rfl
  ·have hf:=Ò (w:=w) hkd h2
   refine ⟨es.push { key:=keyV k q,val:=zz,born:=clock },clock+1,?_,?_,MapKept.stamped_push hq.1 (jwO hik ha h1),by rw [ø,List.map_append,hq.2,ü];rfl⟩
   ·simp only [Û,J,run_underlying hund,I,Í hh,hck,hf,ë _ hh]
   ·rw [h4 z,ø]
    exact ha.append ⟨⟨(jhJ hik).2 rfl,hvz⟩,trivial⟩
 obtain ⟨es',clock',hrun,hall,hq'⟩:=main
 have hlt:g<w.heap.size:=(jn.1 hh).1
 refine ⟨_,S1,hrun,?_⟩
 rw [j3O]
 refine jtw hR1 hb1 hgb hS (b':= .lst (4294967296+t) (.pair k v) (@j6J _ _ k.keq ys q z) U) ⟨rfl,rfl,fun hm=>by rw [jgC] at hm;simp at hm⟩ (fun i hi=>by simp [Ne.symm hi]) smp_ rfl rfl rfl fun hle hst=> ?_
 refine ⟨.inr ⟨jgC t,g,es',clock',hg,by simp [hlt],hall.mono fun x e hx=>⟨Rep.keep hst _ _ _ hx.1,VRep.keep hst hx.2⟩,hq'⟩,fun g' hg'=> ?_⟩
 rw [hgb] at hg';simp at hg';subst hg'
 exact ⟨fun _=>hS,fun h=>by simp at h⟩
theorem js5 {P:À} (hR:Rel N np S0 w0 refs σ a w S γ) {n t:H} {k v:Ty} (hn:σ.bx n = .free) :
  ∃ γ',(Instr.makeMap t M).run P w = .ok (.map (D w.heap.size)) (w.alloc (.map #[] 0))∧Rel N np S0 w0 refs (σ.setB n (.live (.lst (4294967296+t) (.pair k v) [] U))) a (w.alloc (.map #[] 0)) S γ'∧
   j0k S (w.alloc (.map #[] 0)) γ' (σ.setB n (.live (.lst (4294967296+t) (.pair k v) [] U))).bx (.one (.ol n)) (.map (D w.heap.size)):=by
 have hnb:=jmb hR hn (o:= .map #[] 0) (b:= .lst (4294967296+t) (.pair k v) [] U) (v:= .map (D w.heap.size)) (fun g hg=>by simp [blk] at hg;exact hg.symm) (fun hle=>by
  refine ⟨.inr ⟨jgC t,w.heap.size, #[],0,j0l _ _ _,heap_alloc_new w _,trivial,MapKept.stamped_empty 0,rfl⟩,fun g hg=> ?_⟩
  rw [j0l] at hg;simp [blk] at hg;subst hg
  exact ⟨fun _ o ho=>by have:=hR.here _ o ho;omega,fun h=>by simp at h⟩)
 refine ⟨_,rfl,hnb.1,⟨?_,rfl,fun b hb=>(j0l _ _ _).symm⟩,fun _=>rfl⟩
 rw [j0r];simp
end
section
variable {N:NT} {np:H} {S0:j0e} {w0:Â} {refs:Refs} {σ:St} {a:Ü} {w:Â} {S:j0e} {γ:H→G}
theorem js6 {P:À} {E:Env} (hT:j1Q P E.T) (hR:Rel N np S0 w0 refs σ a w S γ) {rdf:H→BS} (hrdf:RdF np σ rdf) {t:Æ} {ti:TyI} (ht:E.T t=D ti)
  {m:H} {el:Ty} (hty:ti.ty=D (.arr m el)) {ps:F (H×Cel)} {vs:È (H×G)} {xs:F el.den} {u:Ups}
  (hps:All2 (fun p v=>p.1=v.1∧j0k S w γ σ.bx p.2 v.2) ps vs.toList) (h:j7m rdf el (O m el.dflt) [] ps=D (xs,u)) :
  ∃ v S',(Ù t vs).run P w = .ok v w∧Rel N np S0 w0 refs (σ.upd u) a w S' γ∧j0k S' w γ (σ.upd u).bx (.av m el xs) v:=by
 obtain ⟨hund,hpos,te,hte,htety⟩:=jhA hT ht hty
 have hsz:=j8X hT hte htety
 obtain ⟨z,hz,hzc⟩:=jd0 hT ht w hty
 obtain ⟨hfl,hrest⟩:=jhE hrdf hR.box hpos ps vs.toList hps h .nil
 obtain ⟨S1,hR1,hst1,hfz1,hsame⟩:=j2B u σ S hR hfl
 obtain ⟨hrl,css,hall,hflat⟩:=j6S (S:=S1) (w:=w) (.arr m el)
 obtain ⟨cells',css',hfill,hall',hcells⟩:=hrest S1 hst1 hfz1 css z.cells hall (by rw [hzc];exact hflat)
 have hlen:∀ (ps:F (H×Cel)) {xs xs':F el.den} {u u':Ups},j7m rdf el xs u ps=D (xs',u')→xs'.length=xs.length:=by
  intro ps
  induction ps with
  | nil=>intro xs xs' u u' h;simp [j7m] at h;rw [h.1]
  | cons p ps ih=>
   intro xs xs' u u' h
   obtain ⟨i,c⟩:=p
   simp only [j7m] at h
   split at h
   ·split at h
    ·rw [ih h];simp
    ·simp at h
   ·simp at h
 have hxl:xs.length=m:=by rw [hlen ps h];simp
 refine ⟨.agg cells',S1,?_,hR1,cells',rfl,hxl,css',hall',hcells⟩
 simp only [Ù,J,hz,I,run_underlying hund,j29 hT hte,←hsz,hfill,Ã]
theorem js7 {P:À} {E:Env} (hT:j1Q P E.T) {bx:H→BS} {t:Æ} {ti:TyI} (ht:E.T t=D ti) {m:H} {el:Ty} (hty:ti.ty=D (.arr m el)) :
  ∃ v,(Ù t #[]).run P w = .ok v w∧j0k S w γ bx (.st (jgt (.arr m el))) v:=by
 obtain ⟨hund,hpos,te,hte,htety⟩:=jhA hT ht hty
 obtain ⟨z,hz,hzc⟩:=jd0 hT ht w hty
 refine ⟨.agg z.cells,?_,z.cells,rfl,by rw [hzc];exact j90 (.arr m el),fun u hu=>jiU hzc u (by simpa using hu)⟩
 simp only [Ù,J,hz,I,run_underlying hund,j29 hT hte]
 rfl
theorem jnS {rd:H→BS} (hrd:RdF np σ rd) (hB:jnK S w γ σ.bx) {el:Ty}:∀ {ls:F Leaf} {xs:F el.den} {u:Ups} {zs:F G},jm0 rd el ls=D (xs,u)→All2 (j0b S w γ σ.bx) ls zs→
  FrzL np σ.bx u∧∀ S' w',j2O S w S' w'→Froz σ.bx γ S' w' u→All2 (fun x z=>Rep S' w' el x [z]) xs zs
 | [],xs,u,zs,h,ha=>by
  simp [jm0] at h
  obtain ⟨rfl,rfl⟩:=h
  cases zs with
  | nil=>exact ⟨.nil,fun _ _ _ _=>trivial⟩
  | cons _ _=>exact ha.elim
 | l::ls,xs,u,zs,h,ha=>by
  cases zs with
  | nil=>exact ha.elim
  | cons z zs=>
   simp only [jm0] at h
   split at h
   ·rename_i x u1 xs1 u2 h1 h2
    simp only [jb,jf] at h
    obtain ⟨rfl,rfl⟩:=h
    obtain ⟨f1,p1⟩:=j8Z hrd hB h1 ha.1
    obtain ⟨f2,p2⟩:=jnS hrd hB h2 ha.2
    exact ⟨FrzL.app.2 ⟨f1,f2⟩,fun S' w' hk hf=>⟨p1 S' w' hk (Froz.app.1 hf).1,p2 S' w' hk (Froz.app.1 hf).2⟩⟩
   ·simp at h
theorem jlw {el:Ty} {S':j0e} {w':Â}:∀ {xs:F el.den} {zs:F G},All2 (fun x z=>Rep S' w' el x [z]) xs zs→∃ css,All2 (fun x c=>Rep S' w' el x c) xs css∧zs=css.flatten
 | [],[],_=>⟨[],trivial,rfl⟩
 | x::xs,z::zs,h=>by
  obtain ⟨css,h1,h2⟩:=jlw h.2
  exact ⟨[z]::css,⟨h.1,h1⟩,by simp [h2]⟩
 | [],_::_,h=>h.elim
 | _::_,[],h=>h.elim
theorem jtx {P:À} {E:Env} (hT:j1Q P E.T) (hR:Rel N np S0 w0 refs σ a w S γ) {rd rdf:H→BS} (hrd:RdOk σ rd) (hrdf:RdF np σ rdf) {t:Æ} {ti:TyI} (ht:E.T t=D ti)
  {x:Leaf} {m:H} {el:Ty} {ls:F Leaf} {xs:F el.den} {u:Ups} {v:G} (h:jgu rd ti.ty x=D (m,el,ls)) (hg:jm0 rdf el ls=D (xs,u)) (hl:xs.length=m) (hx:j0b S w γ σ.bx x v) :
  ∃ z S',(Instr.loadAt t v).run P w = .ok z w∧Rel N np S0 w0 refs (σ.upd u) a w S' γ∧j0k S' w γ (σ.upd u).bx (.av m el xs) z:=by
 unfold jgu at h
 split at h
 ·rename_i k
  split at h
  ·rename_i m' el' hty
   split at h
   ·split at h
    ·rename_i ls' hk
     simp only [jb,jf] at h
     obtain ⟨rfl,rfl,rfl⟩:=h
     have hk:=hrd.live hk
     obtain ⟨g,hg',hu⟩:=hx.2.2 _ hk
     obtain ⟨g',cur,e,hg2,hh,ha,h1,_⟩:=hR.box k _ hk
     rw [hg'] at hg2;simp at hg2;subst hg2
     obtain ⟨hfl,hrest⟩:=jnS hrdf hR.box hg ha
     obtain ⟨S1,hR1,hst1,hfz1,hsame⟩:=j2B u σ S hR hfl
     obtain ⟨css,hall,hcs⟩:=jlw (hrest S1 w hst1 hfz1)
     have hrep:Rep S1 w (.arr m' el') xs (cur.toList.take ls'.length):=⟨hl,css,hall,hcs⟩
     obtain ⟨hud,_,_⟩:=jhA hT ht hty
     have hsz:(cur.toList.take ls'.length).length=ti.size:=by
      have:=Rep.length _ _ _ hrep
      rw [j8X hT ht hty] at this
      exact this
     refine ⟨.agg (cur.toList.take ls'.length).toArray,S1,?_,hR1,(cur.toList.take ls'.length).toArray,rfl,by simpa using hrep⟩
     subst hu
     have hld:=jnI (w:=w) (g:=g) (o:=0) (cs:=cur.toList.take ls'.length) (fun j v hv=>by
      rw [kj,cell_of_row w g j cur e (0,0) hh]
      rw [qy] at hv
      split at hv
      ·simpa using hv
      ·simp at hv) P
     rw [hsz] at hld
     have hagg:(isAgg t).run P w = .ok Ä w:=by simp [isAgg,run_underlying hud]
     simp only [Instr.loadAt,J,Instr.sureAddr,Ã,I,loadVar,hagg,if_true,j29 hT ht,hld]
    ·simp at h
   ·simp at h
  ·simp at h
 ·simp at h
def Slot.bare:Slot→Ö
 | .cnd _ _ _=>U
 | _=>Ä
theorem jnT {fr:Ö} {e:H} {b:Ty} {n len:H} {ps:F (H×Cel)} {f:H} {args:F Arg} {mk:Ret→Á (Slot×Ups)}:one1 fr e b n len ps≠D (.call f args mk):=by
 unfold one1
 split
 ·split
  ·split<;>simp
  ·simp
 ·simp
theorem jgD (cs:F Cel):(jgw cs).bare=true:=by
 unfold jgw
 split<;>rfl
theorem jnU (hR:Rel N np S0 w0 refs σ a w S γ) {act:F (H×Ö)} (hact:jjk (tm a) act) (ps:F (H×û)) :
  All2 (fun p v=>p.1=v.1∧j0k S w γ σ.bx p.2 v.2) (ps.map fun p=>(p.1,(σ.ev p.2).cel act)) (ps.map fun p=>(p.1,a.eval p.2)):=by
 induction ps with
 | nil=>trivial
 | cons p ps ih=>exact ⟨⟨rfl,j0Z hR hact p.2⟩,ih⟩
theorem jiX (hR:Rel N np S0 w0 refs σ a w S γ) {act:F (H×Ö)} (hact:jjk (tm a) act) (ps:F û) :
  All2 (j0k S w γ σ.bx) (ps.map fun p=>(σ.ev p).cel act) (ps.map a.eval):=by
 induction ps with
 | nil=>trivial
 | cons p ps ih=>exact ⟨j0Z hR hact p,ih⟩
theorem jjw {rd:H→BS} (hrd:RdOk σ rd):RdF np σ (fun k=>if parK np k then .gone else rd k):=by
 refine ⟨fun k=> ?_,fun k e a xs f h=> ?_⟩
 rotate_left
 ·dsimp only at h
  split at h
  ·simp at h
  ·exact hrd.2 k e a xs f h
 dsimp only
 split
 ·exact .inr rfl
 ·rename_i hp
  rcases hrd.1 k with h | h
  ·exact .inl ⟨h,by simpa using hp⟩
  ·exact .inr h
theorem jbj {P:À} {o:Oper} {l:Leaf} {v:G} (hR:Rel N np S0 w0 refs σ a w S γ) (hr:(execOp a.eval o).run P w = .ok (.value v) w)
  (hs:j0b S w γ σ.bx l v) (h1:One v):jt5 P N np S0 w0 refs o σ a w S γ (.one (.one l)) []:=
 j2a hR hr ⟨hs,fun _=>h1⟩
theorem jpA {c:Cel} {l:Leaf} (h:lf c=l) (hd:l ≠ .dead):c = .one l:=by
 cases c with
 | one x=>simp [lf] at h;rw [h]
 | st ls=>simp [lf] at h;exact absurd h.symm hd
 | av n a xs=>simp [lf] at h;exact absurd h.symm hd
theorem jpB {P:À} {E:Env} (hT:j1Q P E.T) (hR:Rel N E.np S0 w0 refs σ a w S γ) {act:F (H×Ö)} (hact:jjk (tm a) act) {rw:H→BS} (hrw:RdR σ rw)
  {o:Oper} {s:Slot} {u:Ups} (h:j42 E σ.ev rw act o=D (.val Ä s u)):jt5 P N E.np S0 w0 refs o σ a w S γ s u∧s.bare=true:=by
 have hrd:RdOk σ (mskM rw):=hrw.msk
 have hrdf:=jjw (np:=E.np) hrd
 have hex:∀ op,o.op=op→execOp a.eval o=execOp a.eval { o with op:=op }:=fun op h=>by subst h;rfl
 unfold j42 at h
 dsimp only at h
 split at h
 ·-- move
  rename_i x hop
  split at h
  ·rename_i l hl
   simp only [jb,Act.val.injEq] at h
   obtain ⟨_,rfl,rfl⟩:=h
   have:=j8Y hR x
   rw [hl] at this
   exact ⟨j2a hR (v:=a.eval x) (by simp [execOp,hop]) this,rfl⟩
  ·simp only [jb,Act.cel,Act.val.injEq] at h
   obtain ⟨_,rfl,rfl⟩:=h
   exact ⟨j2a hR (v:=a.eval x) (by simp [execOp,hop]) (j0Z hR hact x),rfl⟩
 ·-- assign
  rename_i x hop
  split at h
  ·rename_i l hl
   simp only [jb,Act.val.injEq] at h
   obtain ⟨_,rfl,rfl⟩:=h
   have:=j8Y hR x
   rw [hl] at this
   exact ⟨j2a hR (v:=a.eval x) (by simp [execOp,hop]) this,rfl⟩
  ·simp only [jb,Act.cel,Act.val.injEq] at h
   obtain ⟨_,rfl,rfl⟩:=h
   exact ⟨j2a hR (v:=a.eval x) (by simp [execOp,hop]) (j0Z hR hact x),rfl⟩
 ·-- pick
  rename_i x y z hop
  split at h
  ·rename_i v hv
   have hx:=j0Z hR hact x
   have hxe:a.eval x = .bool v:=by
    have:=jpA hv smp_
    rw [this] at hx
    exact j8F hx
   have hrun:(execOp a.eval o).run P w = .ok (.value (if v then a.eval y else a.eval z)) w:=by
    simp [execOp,hop,hxe,asBool]
   have hy:v=Ä→j0k S w γ σ.bx ((σ.ev y).cel (jvw x Ä act)) (a.eval y):=by
    intro hvt
    refine jpw ?_ (j8Y hR y)
    cases x with
    | tmp t=>
     intro g hg
     rcases jl.1 hg with rfl | hg
     ·simp only;rw [←hvt];exact hxe
     ·exact hact g hg
    | _=>exact hact
   have hz:v=U→j0k S w γ σ.bx ((σ.ev z).cel (jvw x U act)) (a.eval z):=by
    intro hvt
    refine jpw ?_ (j8Y hR z)
    cases x with
    | tmp t=>
     intro g hg
     rcases jl.1 hg with rfl | hg
     ·simp only;rw [←hvt];exact hxe
     ·exact hact g hg
    | _=>exact hact
   split at h
   ·rename_i t p t' q hp hq
    split at h
    ·rename_i q' hto
     simp only [jb,Act.leaf,Act.val.injEq] at h
     obtain ⟨_,rfl,rfl⟩:=h
     have:=jfh hto
     cases this
     refine ⟨j2a hR hrun ?_,rfl⟩
     cases v with
     | true=>have:=hy rfl;rw [hp] at this;exact this
     | false=>have:=hz rfl;rw [hq] at this;exact this
    ·simp at h
   ·rename_i t p hp hq
    simp only [jb,Act.val.injEq] at h
    obtain ⟨hv',rfl,rfl⟩:=h
    have hv':v=true:=hv'
    subst hv'
    refine ⟨j2a hR hrun ?_,rfl⟩
    have:=hy rfl;rw [hp] at this;exact this
   ·rename_i t q hp hq
    simp only [jb,Act.val.injEq] at h
    obtain ⟨hv',rfl,rfl⟩:=h
    have hv':v=false:=by simpa using hv'
    subst hv'
    refine ⟨j2a hR hrun ?_,rfl⟩
    have:=hz rfl;rw [hq] at this;exact this
   ·simp at h
  ·simp at h
 ·-- alloc
  rename_i t hop
  split at h
  ·rename_i ti ht
   split at h
   ·rename_i hfree
    have hd:=hrd.free hfree
    split at h
    ·rename_i k el hty
     split at h
     ·simp only [jb,Act.val.injEq] at h
      obtain ⟨_,rfl,rfl⟩:=h
      obtain ⟨z,hzc,hz⟩:=jjo (w:=w) hT ht hty
      obtain ⟨hRn,hc⟩:=jmc hR hd (ls:=jgt (.arr k el)) (cur:=z.cells) (e:=t) (by rw [hzc];exact j90 (.arr k el)) (jiU hzc)
      exact ⟨⟨_,_,S,_,.inl (by simp [execOp,hop,hz]),hRn,hc⟩,rfl⟩
     simp only [jb,Act.val.injEq] at h
     obtain ⟨_,rfl,rfl⟩:=h
     obtain ⟨z,hzc,hz⟩:=jjo (w:=w) hT ht hty
     obtain ⟨hRn,hc⟩:=jte hR hd (m:=k) (t:=el) (xs:=O k el.dflt) (cur:=z.cells) (e:=t) (by rw [hzc];exact j6S (.arr k el))
     exact ⟨⟨_,_,S,_,.inl (by simp [execOp,hop,hz]),hRn,hc⟩,rfl⟩
    ·rename_i ty hne hty
     simp only [jb,Act.val.injEq] at h
     obtain ⟨_,rfl,rfl⟩:=h
     obtain ⟨z,hzc,hz⟩:=jjo (w:=w) hT ht hty
     obtain ⟨hRn,hc⟩:=jmc hR hd (ls:=jgt ty) (cur:=z.cells) (e:=t) (by rw [hzc];exact j90 ty) (jiU hzc)
     exact ⟨⟨_,_,S,_,.inl (by simp [execOp,hop,hz]),hRn,hc⟩,rfl⟩
    ·simp at h
   ·simp at h
  ·simp at h
 ·-- box
  rename_i t x hop
  split at h
  ·rename_i hfree
   have hd:=hrd.free hfree
   have hx:=j0Z hR hact x
   split at h
   ·rename_i k el xs hc
    simp only [jb,Act.val.injEq] at h
    obtain ⟨_,rfl,rfl⟩:=h
    rw [hc] at hx
    obtain ⟨cs,hu,hrep⟩:=hx
    obtain ⟨hRn,hcn⟩:=jte hR hd (m:=k) (t:=el) (xs:=xs) (cur:=(a.eval x).cells) (e:=t) (by rw [hu];exact hrep)
    exact ⟨⟨_,_,S,_,.inl (by simp [execOp,hop,jtf]),hRn,hcn⟩,rfl⟩
   ·split at h
    ·rename_i ls hls
     simp only [jb,Act.val.injEq] at h
     obtain ⟨_,rfl,rfl⟩:=h
     obtain ⟨hl,h1⟩:=j8l hls hx
     obtain ⟨hRn,hcn⟩:=jmc hR hd (ls:=ls) (cur:=(a.eval x).cells) (e:=t) hl h1
     exact ⟨⟨_,_,S,_,.inl (by simp [execOp,hop,jtf]),hRn,hcn⟩,rfl⟩
    ·simp at h
  ·simp at h
 ·-- build
  rename_i t ps hop
  have hps:=jnU hR hact ps.toList
  have hps':All2 (fun p v=>p.1=v.1∧j0k S w γ σ.bx p.2 v.2) (ps.toList.map fun p=>(p.1,(σ.ev p.2).cel act)) (ps.map fun p=>(p.1,a.eval p.2)).toList:=by simpa using hps
  split at h
  ·rename_i ti ht
   split at h
   ·rename_i k el hty
    split at h
    ·rename_i hem
     simp only [jb,Act.cel,Act.val.injEq] at h
     obtain ⟨_,rfl,rfl⟩:=h
     obtain ⟨v,hrun,hc⟩:=js7 (w:=w) (S:=S) (γ:=γ) (bx:=σ.bx) hT ht hty
     have hp0:ps = #[]:=by
      simp only [ji,List.isEmpty_iff] at hem
      exact zm.1 hem.2
     subst hp0
     exact ⟨j2a hR (v:=v) (by simp [execOp,hop,hrun]) hc,rfl⟩
    split at h
    ·rename_i xs u' hb
     simp only [jb,Act.val.injEq] at h
     obtain ⟨_,rfl,rfl⟩:=h
     obtain ⟨v,S',hrun,hRn,hc⟩:=js6 hT hR hrdf ht hty hps' hb
     exact ⟨⟨v,w,S',γ,.inl (by simp [execOp,hop,hrun]),hRn,hc⟩,rfl⟩
    ·simp at h
   ·rename_i ty hne hty
    split at h
    ·rename_i hag
     split at h
     ·rename_i ls hb
      simp only [jb,Act.cel,Act.val.injEq] at h
      obtain ⟨_,rfl,rfl⟩:=h
      obtain ⟨v,hrun,hc⟩:=js0 hT ht hty hag hps' hb
      exact ⟨j2a hR (v:=v) (by simp [execOp,hop,hrun]) hc,rfl⟩
     ·simp at h
    ·simp at h
   ·simp at h
  ·simp at h
 ·-- buildSlice
  rename_i t len ps hop
  have hps:=jnU hR hact ps.toList
  have hps':All2 (fun p v=>p.1=v.1∧j0k S w γ σ.bx p.2 v.2) (ps.toList.map fun p=>(p.1,(σ.ev p.2).cel act)) (ps.map fun p=>(p.1,a.eval p.2)).toList:=by simpa using hps
  split at h
  ·rename_i ti ht
   split at h
   ·rename_i el hty
    split at h
    ·obtain ⟨_,rfl,v',w',γ',hrun,hRn,hc⟩:=jvM hT hR ht hty hrd.free hps' h
     exact ⟨⟨v',w',S,γ',.inl (by simp [execOp,hop,hrun]),hRn,hc⟩,rfl⟩
    split at h
    ·simp at h
    ·rename_i hlen
     split at h
     ·rename_i xs u' hb
      split at h
      ·rename_i hfree
       simp only [jb,Act.val.injEq] at h
       obtain ⟨_,rfl,rfl⟩:=h
       obtain ⟨v',w',S',γ',hrun,hRn,hc⟩:=jkM hT hR hrdf ht hty omg_ hps' hb (hrd.free hfree)
       exact ⟨⟨v',w',S',γ',.inl (by simp [execOp,hop,hrun]),hRn,hc⟩,rfl⟩
      ·simp at h
     ·simp at h
   ·simp at h
  ·simp at h
 ·-- load
  rename_i t x hop
  split at h
  ·rename_i ti ht
   split at h
   ·rename_i m el ls hla
    split at h
    ·rename_i xs u' hg
     split at h
     ·rename_i hlen
      simp only [jb,Act.val.injEq] at h
      obtain ⟨_,rfl,rfl⟩:=h
      obtain ⟨z,S',hz,hRn,hcz⟩:=jtx hT hR hrd hrdf ht hla hg hlen (j4Y (j0Z hR hact x))
      exact ⟨⟨z,w,S',γ,.inl (by simp [execOp,hop,hz]),hRn,hcz⟩,rfl⟩
     ·simp at h
    ·simp at h
   unfold oCel at h
   split at h
   ·rename_i c hc
    simp only [jb,Act.cel,Act.val.injEq] at h
    obtain ⟨_,rfl,rfl⟩:=h
    obtain ⟨z,hz,hcz⟩:=jnJ hT hR hrd ht hc (j4Y (j0Z hR hact x))
    exact ⟨j2a hR (v:=z) (by simp [execOp,hop,hz]) hcz,rfl⟩
   ·simp at h
  ·simp at h
 ·-- store
  rename_i t x y hop
  split at h
  ·rename_i ti ht
   split at h
   ·rename_i u' hu
    simp only [jb,Act.val.injEq] at h
    obtain ⟨_,rfl,rfl⟩:=h
    obtain ⟨w',S',hrun,hRn⟩:=jrY hT hR hrd hrdf ht hu (j4Y (j0Z hR hact x)) (j0Z hR hact y)
    exact ⟨⟨undef,w',S',γ,.inr ⟨by simp [execOp,hop,hrun],rfl⟩,hRn,⟨trivial,fun h=>absurd rfl h⟩⟩,rfl⟩
   ·simp at h
  ·simp at h
 ·-- nilCheck
  rename_i x hop
  have hx:=j0Z hR hact x
  split at h
  ·rename_i k p hl
   split at h
   ·rename_i hlive
    simp only [jb,Act.leaf,Act.val.injEq] at h
    obtain ⟨_,rfl,rfl⟩:=h
    rw [jpA hl smp_] at hx
    obtain ⟨b,hb⟩:=jck hlive
    obtain ⟨g,_,hu⟩:=hx.1.2.2 b (hrd.live hb)
    exact ⟨j2a hR (v:=a.eval x) (by simp [execOp,hop,hu]) hx,rfl⟩
   ·simp at h
  ·rename_i k i p hl
   split at h
   ·rename_i hlive
    simp only [jb,Act.leaf,Act.val.injEq] at h
    obtain ⟨_,rfl,rfl⟩:=h
    rw [jpA hl smp_] at hx
    obtain ⟨b,hb⟩:=jck hlive
    have h3:=hx.1.2.2 b (hrd.live hb)
    have hu:∃ g o,a.eval x = .pointer (D ⟨g,o,M⟩):=by
     cases b with
     | cell ls f=>exact h3.elim
     | lst e t xs f=>obtain ⟨_,_,g,cap,_,hu⟩:=h3;exact ⟨_,_,hu⟩
     | arr n t xs=>obtain ⟨_,g,_,hu⟩:=h3;exact ⟨_,_,hu⟩
     | row e t n ls=>obtain ⟨_,_,g,cap,_,hu⟩:=h3;exact ⟨_,_,hu⟩
    obtain ⟨g,ofs,hu⟩:=hu
    exact ⟨j2a hR (v:=a.eval x) (by simp [execOp,hop,hu]) hx,rfl⟩
   ·simp at h
  ·rename_i ls hl
   simp only [jb,Act.leaf,Act.val.injEq] at h
   obtain ⟨_,rfl,rfl⟩:=h
   rw [jpA hl smp_] at hx
   obtain ⟨g,ofs,cs,hu,_⟩:=hx.1
   exact ⟨j2a hR (v:=a.eval x) (by simp [execOp,hop,hu]) hx,rfl⟩
  ·simp at h
 ·-- binOp
  rename_i op t x y rest hop
  unfold oChk at h
  split at h
  ·rename_i b c hc
   simp only [jb,Act.val.injEq] at h
   obtain ⟨rfl,rfl,rfl⟩:=h
   obtain ⟨z,hz,hl,h1⟩:=jvC (x:=x) (y:=y) hT hc (j0Z hR hact x) (j0Z hR hact y)
   refine ⟨jbj hR ?_ hl h1,rfl⟩
   simp only [execOp,hop]
   rw [J,hz]
   rfl
  ·simp at h
 ·-- unOp
  rename_i op t x hop
  unfold jfG at h
  split at h
  ·rename_i c hc
   simp only [jb,Act.leaf,Act.val.injEq] at h
   obtain ⟨_,rfl,rfl⟩:=h
   obtain ⟨z,hz,hl,h1⟩:=jxJ hc (j0Z hR hact x)
   refine ⟨jbj hR ?_ hl h1,rfl⟩
   simp only [execOp,hop]
   rw [J,hz]
   rfl
  ·simp at h
 ·-- convert
  rename_i src dst x hop
  split at h
  ·rename_i ts ti hts ht
   split at h
   ·rename_i k v k0 k' hl hty0 hty
    simp only [jb,Act.leaf,Act.val.injEq] at h
    obtain ⟨_,rfl,rfl⟩:=h
    have hx:=j0Z hR hact x
    rw [jpA hl smp_] at hx
    have hu:=jd1 hx
    have hund:=jpu hT ht hty
    refine ⟨jbj hR (v:= .int k' (k'.wrap v)) ?_ rfl rfl,rfl⟩
    have hund0:=jpu hT hts hty0
    simp only [execOp,hop]
    rw [J]
    have:(convert src dst (a.eval x)).run P w = .ok (.int k' (k'.wrap v)) w:=by
     simp only [hu,convert,J,run_underlying hund0,run_underlying hund,I]
     simp [Conv.intToInt]
    rw [this]
    rfl
   ·simp at h
  ·simp at h
 ·-- makeFunc
  rename_i f first caps hop
  split at h
  ·rename_i hfirst
   split at h
   ·split at h
    ·rename_i ks hl
     simp only [jb,Act.val.injEq] at h
     obtain ⟨_,rfl,rfl⟩:=h
     have hargs:=jiX hR hact caps.toList
     have hf0:first = #[]:=by simpa using hfirst
     refine ⟨⟨.func (.func f) #[] (caps.map a.eval),w,S,γ,.inl ?_,hR,⟨⟨_,rfl,by
      have:=jjq hl hargs
      rw [←Array.toList_map] at this
      exact this⟩,fun _=>rfl⟩⟩,rfl⟩
     simp [execOp,hop,hf0,Instr.makeFunc]
    ·simp at h
   split at h
   ·rename_i l u' hl
    simp only [jb,Act.val.injEq] at h
    obtain ⟨_,rfl,rfl⟩:=h
    have hargs:=jiX hR hact caps.toList
    obtain ⟨S',hRn,_,hcap,_⟩:=jnP hrdf hl hR hargs
    have hf0:first = #[]:=by simpa using hfirst
    refine ⟨⟨.func (.func f) #[] (caps.map a.eval),w,S',γ,.inl ?_,hRn,⟨⟨_,rfl,by simpa using hcap⟩,fun _=>rfl⟩⟩,rfl⟩
    simp [execOp,hop,hf0,Instr.makeFunc]
   ·simp at h
  ·simp at h
 ·-- fieldAddr
  rename_i t x i hop
  split at h
  ·rename_i ti ht
   unfold jfG at h
   split at h
   ·rename_i c hc
    simp only [jb,Act.leaf,Act.val.injEq] at h
    obtain ⟨_,rfl,rfl⟩:=h
    obtain ⟨z,hz,hl,h1⟩:=jrV hT hrd ht hc (j4Y (j0Z hR hact x))
    exact ⟨jbj hR (by simp [execOp,hop,hz]) hl h1,rfl⟩
   ·simp at h
  ·simp at h
 ·-- field
  rename_i t x i hop
  split at h
  ·rename_i ti ht
   split at h
   ·rename_i ls f hc hf
    split at h
    ·rename_i tf htf
     unfold oCel at h
     split at h
     ·rename_i c hmk
      simp only [jb,Act.cel,Act.val.injEq] at h
      obtain ⟨_,rfl,rfl⟩:=h
      have hx:=j0Z hR hact x
      rw [hc] at hx
      obtain ⟨cs,hu,hall,h1⟩:=hx
      obtain ⟨fs,hund,fl,hfl,ho1,ho2,tf',htf',hpos⟩:=jt4 hT ht hf
      rw [←ho2] at htf
      have hall':=(hall.drop fl.offset).take tf.size
      have h1':∀ u∈(cs.toList.drop fl.offset).take tf.size,One u:=fun u hu'=>h1 u (zk (qp hu'))
      rw [←ho1] at hmk
      have hpart:∃ z,(part fl.type cs fl.offset).run P w = .ok z w∧j0k S w γ σ.bx c z:=by
       unfold jkK at hmk
       split at hmk
       ·rename_i hagg
        split at hmk
        ·rename_i hlen
         simp only [jb] at hmk;subst hmk
         refine ⟨.agg (cs.extract fl.offset (fl.offset+tf.size)),?_,_,rfl,?_,?_⟩
         ·simp only [part,J,jhz hT htf,hagg,I,if_true,j29 hT htf,Ã]
         ·have:(cs.extract fl.offset (fl.offset+tf.size)).toList=(cs.toList.drop fl.offset).take tf.size:=by
           simp [List.take_drop]
          rw [this];exact hall'
         ·have:(cs.extract fl.offset (fl.offset+tf.size)).toList=(cs.toList.drop fl.offset).take tf.size:=by
           simp [List.take_drop]
          rw [this];exact h1'
        ·simp at hmk
       ·rename_i hagg
        split at hmk
        ·rename_i l' hl'
         simp only [jb] at hmk;subst hmk
         rw [hl'] at hall'
         cases hq:(cs.toList.drop fl.offset).take tf.size with
         | nil=>rw [hq] at hall';exact hall'.elim
         | cons z zs=>
          rw [hq] at hall' h1'
          have hz:cs[fl.offset]? = D z:=by
           have:((cs.toList.drop fl.offset).take tf.size)[0]? = D z:=by rw [hq];rfl
           have:=j7A this
           simpa using this
          refine ⟨z,?_,hall'.1,fun _=>h1' z smp_⟩
          simp only [part,J,jhz hT htf,I,if_neg hagg,hz,Ã]
        ·simp at hmk
      obtain ⟨z,hz,hcz⟩:=hpart
      refine ⟨j2a hR (v:=z) ?_ hcz,rfl⟩
      simp only [execOp,hop,hu]
      rw [J]
      have:(Instr.field t (.agg cs) i).run P w = .ok z w:=by
       simp only [Instr.field,J,run_underlying hund,I,hfl,asAgg,Ã,hz]
      rw [this]
      rfl
     ·simp at h
    ·simp at h
   ·simp at h
  ·simp at h
 ·-- indexAddr
  rename_i t x i hop
  split at h
  ·rename_i ti ht
   unfold oChk at h
   split at h
   ·rename_i b c hc
    simp only [jb,Act.val.injEq] at h
    obtain ⟨rfl,rfl,rfl⟩:=h
    obtain ⟨z,hz,hl,h1⟩:=jrW hT hR hrd ht hc (j4Y (j0Z hR hact x)) (j4Y (j0Z hR hact i))
    exact ⟨jbj hR (by simp [execOp,hop,hz]) hl h1,rfl⟩
   ·simp at h
  ·simp at h
 ·-- index
  rename_i t x i hop
  split at h
  ·rename_i ti ht
   split at h
   ·rename_i b c hc
    simp only [jb,Act.val.injEq] at h
    obtain ⟨rfl,rfl,rfl⟩:=h
    obtain ⟨z,hz,hcz⟩:=jvF hT ht hc (j0Z hR hact x) (j4Y (j0Z hR hact i))
    exact ⟨j2a hR (v:=z) (by simp [execOp,hop,hz]) hcz,rfl⟩
   ·simp at h
  ·simp at h
 ·-- makeMap
  rename_i t hop
  split at h
  ·rename_i k v ht
   split at h
   ·rename_i hfr
    simp only [jb,Act.val.injEq] at h
    obtain ⟨_,rfl,rfl⟩:=h
    obtain ⟨γ',hrun,hRn,hcn⟩:=js5 (P:=P) (t:=t) (k:=k) (v:=v) hR (hrd.free hfr)
    exact ⟨⟨_,_,S,γ',.inl (by simp [execOp,hop,hrun]),hRn,hcn⟩,rfl⟩
   ·simp at h
  ·simp at h
 ·-- lookup
  rename_i t x i ok hop
  split at h
  ·rename_i k v ht
   split at h
   ·rename_i b ys q hm
    obtain ⟨z,hz,hrun⟩:=jpz hT hR hrw ht hm (j4Y (j0Z hR hact x)) (j4Y (j0Z hR hact i))
    split at h
    ·simp only [jb,Act.val.injEq] at h
     obtain ⟨_,rfl,rfl⟩:=h
     have hr:=hrun Ä
     simp only [if_true] at hr
     refine ⟨j2a hR (v:= .tuple #[z,.bool (@jfo _ _ k.keq ys q)]) (by simp [execOp,hop,hr]) ?_,rfl⟩
     exact ⟨_,rfl,jd5 hz,⟨rfl,fun _=>rfl⟩,trivial⟩
    ·simp only [jb,Act.cel,Act.val.injEq] at h
     obtain ⟨_,rfl,rfl⟩:=h
     have hr:=hrun U
     simp only [qf,zd] at hr
     exact ⟨j2a hR (v:=z) (by simp [execOp,hop,hr]) (jd5 hz),rfl⟩
   ·simp at h
  ·simp at h
 ·-- mapUpdate
  rename_i t x i y hop
  split at h
  ·rename_i k v ht
   split at h
   ·rename_i b ys q z u' hm hd
    simp only [jb,Act.val.injEq] at h
    obtain ⟨_,rfl,rfl⟩:=h
    obtain ⟨w',S',hrun,hRn⟩:=js4 hT hR hrw ht hm (j4Y (j0Z hR hact x)) (j4Y (j0Z hR hact i)) hrdf hd (j0Z hR hact y)
    exact ⟨⟨undef,w',S',γ,.inr ⟨by simp [execOp,hop,hrun],rfl⟩,hRn,⟨trivial,fun h=>absurd rfl h⟩⟩,rfl⟩
   ·simp at h
  ·simp at h
 ·-- extract
  rename_i x i hop
  split at h
  ·rename_i l hl
   split at h
   ·rename_i c hc
    simp only [jb,Act.cel,Act.val.injEq] at h
    obtain ⟨_,rfl,rfl⟩:=h
    have hx:=j8Y hR x
    rw [hl] at hx
    obtain ⟨vs,hu,hall⟩:=hx
    obtain ⟨z,hz,hcz⟩:=hall.get i c hc
    refine ⟨j2a hR (v:=z) ?_ hcz,rfl⟩
    have hz':vs[i]? = D z:=by simpa using hz
    simp [execOp,hop,hu,Instr.extract,hz']
   ·simp at h
  ·simp at h
 ·-- call
  rename_i cl hop
  have hargs:=jiX hR hact cl.args.toList
  split at h
  ·-- len
   rename_i hcal
   split at h
   ·rename_i x t hxs hts
    split at h
    ·rename_i ti ht
     unfold jfG at h
     split at h
     ·rename_i c hc
      simp only [jb,Act.leaf,Act.val.injEq] at h
      obtain ⟨_,rfl,rfl⟩:=h
      obtain ⟨z,hz,hl,h1⟩:=jvG (ty:=o.type) hT hR hrd ht hc (j4Y (j0Z hR hact x))
      have e1:cl.args = #[x]:=by apply q9;simpa using hxs
      have e2:cl.argTypes = #[t]:=by apply q9;simpa using hts
      refine ⟨jbj hR (v:=z) ?_ hl h1,rfl⟩
      simp [execOp,hop,resolve,hcal,invoke,builtin,e1,e2,hz]
     ·simp at h
    ·simp at h
   ·simp at h
  ·-- min
   rename_i hcal
   unfold jfG at h
   split at h
   ·rename_i c hc
    simp only [jb,Act.leaf,Act.val.injEq] at h
    obtain ⟨_,rfl,rfl⟩:=h
    obtain ⟨z,hz,hl,h1⟩:=jxK (P:=P) (ts:=cl.argTypes) (ty:=o.type) hc hargs
    refine ⟨jbj hR (v:=z) ?_ hl h1,rfl⟩
    have e1:cl.args.map a.eval=(cl.args.toList.map a.eval).toArray:=by apply q9;simp
    simp [execOp,hop,resolve,hcal,invoke,builtin,e1,hz]
   ·simp at h
  ·-- max
   rename_i hcal
   unfold jfG at h
   split at h
   ·rename_i c hc
    simp only [jb,Act.leaf,Act.val.injEq] at h
    obtain ⟨_,rfl,rfl⟩:=h
    obtain ⟨z,hz,hl,h1⟩:=jxL (P:=P) (ts:=cl.argTypes) (ty:=o.type) hc hargs
    refine ⟨jbj hR (v:=z) ?_ hl h1,rfl⟩
    have e1:cl.args.map a.eval=(cl.args.toList.map a.eval).toArray:=by apply q9;simp
    simp [execOp,hop,resolve,hcal,invoke,builtin,e1,hz]
   ·simp at h
  ·-- append
   rename_i hcal
   split at h
   ·rename_i t t' s' x hts hxs
    split at h
    ·rename_i htt
     subst htt
     split at h
     ·rename_i ti ht
      split at h
      ·rename_i el hty
       split at h
       ·rename_i b' v' u' hh
        simp only [jb,Act.val.injEq] at h
        obtain ⟨rfl,rfl,rfl⟩:=h
        obtain ⟨z,w',hrun,hRn,hl,h1⟩:=jvI (ty:=o.type) hT hR hrd ht hty hh (j4Y (j0Z hR hact s')) (j4Y (j0Z hR hact x))
        have e1:cl.args = #[s',x]:=by apply q9;simpa using hxs
        have e2:cl.argTypes = #[t,t]:=by apply q9;simpa using hts
        refine ⟨⟨z,w',S,γ,.inl ?_,hRn,hl,fun _=>h1⟩,rfl⟩
        simp [execOp,hop,resolve,hcal,invoke,builtin,e1,e2,hrun]
       split at h
       ·rename_i v' u' hh
        simp only [jb,Act.val.injEq] at h
        obtain ⟨_,rfl,rfl⟩:=h
        obtain ⟨z,w',γ',hrun,hRn,hl,h1⟩:=jvK (ty:=o.type) hT hR hrd hrdf ht hty hh (j4Y (j0Z hR hact s')) (j4Y (j0Z hR hact x))
        have e1:cl.args = #[s',x]:=by apply q9;simpa using hxs
        have e2:cl.argTypes = #[t,t]:=by apply q9;simpa using hts
        refine ⟨⟨z,w',S,γ',.inl ?_,hRn,hl,fun _=>h1⟩,rfl⟩
        simp [execOp,hop,resolve,hcal,invoke,builtin,e1,e2,hrun]
       split at h
       ·rename_i xs frz u' ys hs hx
        split at h
        ·rename_i hfree
         simp only [jb,Act.val.injEq,jq] at h
         obtain ⟨hmax,rfl,rfl⟩:=h
         obtain ⟨v',w',S',γ',hrun,hRn,hcn⟩:=jrZ (ty:=o.type) hT hR hrd hrdf ht hty hs hx (hrd.free hfree) hmax (j4Y (j0Z hR hact s')) (j4Y (j0Z hR hact x))
         have e1:cl.args = #[s',x]:=by apply q9;simpa using hxs
         have e2:cl.argTypes = #[t,t]:=by apply q9;simpa using hts
         refine ⟨⟨v',w',S',γ',.inl ?_,hRn,hcn⟩,rfl⟩
         simp [execOp,hop,resolve,hcal,invoke,builtin,e1,e2,hrun]
        ·simp at h
       ·simp at h
      ·simp at h
     ·simp at h
    ·simp at h
   ·simp at h
  ·-- value
   split at h
   ·split at h
    ·split at h
     ·simp at h
     ·simp at h
    ·simp at h
   ·split at h
    ·split at h
     ·simp at h
     ·simp at h
    ·simp at h
   ·simp at h
  ·-- copy
   rename_i hcal
   split at h
   ·rename_i t t' x y hts hxs
    split at h
    ·rename_i htt
     subst htt
     split at h
     ·rename_i ti ht
      split at h
      ·rename_i c u' hc
       simp only [jb,Act.val.injEq] at h
       obtain ⟨_,rfl,rfl⟩:=h
       obtain ⟨v',w',hrun,hRn,hcn⟩:=jti (ty:=o.type) hT hR hrd ht hc (j4Y (j0Z hR hact x)) (j4Y (j0Z hR hact y))
       have e1:cl.args = #[x,y]:=by apply q9;simpa using hxs
       have e2:cl.argTypes = #[t,t]:=by apply q9;simpa using hts
       refine ⟨⟨v',w',S,γ,.inl ?_,hRn,hcn⟩,rfl⟩
       simp [execOp,hop,resolve,hcal,invoke,builtin,e1,e2,hrun]
      ·simp at h
     ·simp at h
    ·simp at h
   ·simp at h
  ·-- clear
   rename_i hcal
   split at h
   ·rename_i t x hts hxs
    split at h
    ·rename_i ti ht
     split at h
     ·rename_i u' hc
      simp only [jb,Act.val.injEq] at h
      obtain ⟨_,rfl,rfl⟩:=h
      obtain ⟨v',w',hrun,hRn⟩:=js3 (ty:=o.type) hT hR hrd ht hc (j4Y (j0Z hR hact x))
      have e1:cl.args = #[x]:=by apply q9;simpa using hxs
      have e2:cl.argTypes = #[t]:=by apply q9;simpa using hts
      refine ⟨⟨v',w',S,γ,.inl ?_,hRn,⟨trivial,fun h=>absurd rfl h⟩⟩,rfl⟩
      simp [execOp,hop,resolve,hcal,invoke,builtin,e1,e2,hrun]
     ·simp at h
    ·simp at h
   ·simp at h
  ·simp at h
 ·-- slice
  rename_i t x lo hi hop
  split at h
  ·rename_i ti ht
   split at h
   ·rename_i b c u' hc
    simp only [jb,Act.val.injEq] at h
    obtain ⟨rfl,rfl,rfl⟩:=h
    have ho:∀ y:Á û,ORep (j0b S w γ σ.bx) (y.map fun x=>lf ((σ.ev x).cel act)) (y.map a.eval):=by
     intro y
     cases y with
     | none=>trivial
     | some y=>exact j4Y (j0Z hR hact y)
    obtain ⟨v',S',γ',hrun,hRn,hcn⟩:=js1 hT hR hrd ht (fun k hk=>hrd.free hk) hc (j4Y (j0Z hR hact x)) (ho lo) (ho hi)
    refine ⟨⟨v',w,S',γ',.inl ?_,hRn,hcn⟩,rfl⟩
    simp [execOp,hop,hrun]
   ·simp at h
  ·simp at h
 ·-- slice with a capacity
  rename_i t x lo hi mx hop
  split at h
  ·rename_i ti ht
   split at h
   ·rename_i b hc
    simp only [jb,Act.val.injEq] at h
    obtain ⟨rfl,rfl,rfl⟩:=h
    have ho:∀ y:Á û,ORep (j0b S w γ σ.bx) (y.map fun x=>lf ((σ.ev x).cel act)) (y.map a.eval):=by
     intro y
     cases y with
     | none=>trivial
     | some y=>exact j4Y (j0Z hR hact y)
    obtain ⟨v',hrun⟩:=js2 hT hR hrd ht hc (j4Y (j0Z hR hact x)) (ho lo) (ho hi) (j4Y (j0Z hR hact mx))
    refine ⟨⟨v',w,S,γ,.inl ?_,hR,⟨trivial,fun h=>absurd rfl h⟩⟩,rfl⟩
    simp [execOp,hop,hrun]
   ·simp at h
  ·simp at h
 ·simp at h
theorem jr5 {P:À} {E:Env} (hR:Rel N E.np S0 w0 refs σ a w S γ) {act:F (H×Ö)} (hact:jjk (tm a) act) {rw:H→BS} (hrw:RdR σ rw)
  {o:Oper} {f:H} {args:F Arg} {mk:Ret→Á (Slot×Ups)} (h:j42 E σ.ev rw act o=D (.call f args mk)) (hf:Fun P f) {K:Ret→Prop} (hspec:jvP P f args K) :
  ∃ vals,(execOp a.eval o).run P w = .ok (.enter f vals) w∧
   (Calls P f vals w fun e w'=>∃ ret,K ret∧∀ s u,mk ret=D (s,u)→∃ v S' γ',e = .returned v∧Rel N E.np S0 w0 refs (σ.upd u) a w' S' γ'∧j43 S' w' γ' (σ.upd u).bx (tm a) s v)∧
   ∀ ret s u,mk ret=D (s,u)→s.bare=true:=by
 have hrd:RdOk σ (mskM rw):=hrw.msk
 have hrdf:=jjw (np:=E.np) hrd
 unfold j42 at h
 dsimp only at h
 split at h
 case h_23 cl hop=>
  have hargs:=jiX hR hact cl.args.toList
  split at h
  case h_5 x hcal=>
   split at h
   ·rename_i g caps hl
    split at h
    ·rename_i as us fs has
     split at h
     ·rename_i hok
      simp only [jb,Act.call.injEq] at h
      obtain ⟨rfl,rfl,rfl⟩:=h
      have hx:=j0Z hR hact x
      rw [jpA hl smp_] at hx
      obtain ⟨cv,hu,hcv⟩:=hx.1
      refine ⟨_,jgB hf hop hcal hu,?_,?_⟩
      ·have:=jlv hR hrw hrd hrdf has hargs hok hcv hspec ((o.dst.getD 0)*64)
       have e1:(cl.args.toList.map a.eval++cv.toList).toArray=cl.args.map a.eval++cv:=by apply q9;simp
       rwa [e1] at this
      ·intro ret s u hmk
       unfold jm1 at hmk
       split at hmk
       ·unfold mkHd at hmk
        split at hmk
        ·split at hmk
         ·split at hmk
          ·simp only [jb,jf] at hmk;rw [←hmk.1];rfl
          ·simp at hmk
         ·simp at hmk
        ·simp at hmk
       ·unfold jsU at hmk
        split at hmk
        ·split at hmk
         ·simp only [jb,jf] at hmk;rw [←hmk.1];exact jgD _
         ·simp at hmk
        ·simp at hmk
       split at hmk
       ·split at hmk
        ·split at hmk
         ·revert hmk;dsimp only;split<;>(intro hmk;simp only [jb,jf] at hmk;rw [←hmk.1];rfl)
         ·simp at hmk
        ·simp at hmk
       ·simp at hmk
     ·simp at h
    ·simp at h
   ·rename_i g ks hl
    split at h
    ·rename_i as us fs has
     split at h
     ·rename_i hok
      simp only [jb,Act.call.injEq] at h
      obtain ⟨rfl,rfl,rfl⟩:=h
      have hx:=j0Z hR hact x
      rw [jpA hl smp_] at hx
      obtain ⟨cv,hu,hcv⟩:=hx.1
      refine ⟨_,jgB hf hop hcal hu,?_,?_⟩
      ·have:=jlv hR hrw hrd hrdf has (hargs.append (jtk hcv)) hok (caps:=[]) (cv:=[]) trivial (by simpa using hspec) ((o.dst.getD 0)*64)
       have e1:((cl.args.toList.map a.eval++cv.toList)++[]).toArray=cl.args.map a.eval++cv:=by apply q9;simp
       rwa [e1] at this
      ·intro ret s u hmk
       unfold jm1 at hmk
       split at hmk
       ·unfold mkHd at hmk
        split at hmk
        ·split at hmk
         ·split at hmk
          ·simp only [jb,jf] at hmk;rw [←hmk.1];rfl
          ·simp at hmk
         ·simp at hmk
        ·simp at hmk
       ·unfold jsU at hmk
        split at hmk
        ·split at hmk
         ·simp only [jb,jf] at hmk;rw [←hmk.1];exact jgD _
         ·simp at hmk
        ·simp at hmk
       split at hmk
       ·split at hmk
        ·split at hmk
         ·revert hmk;dsimp only;split<;>(intro hmk;simp only [jb,jf] at hmk;rw [←hmk.1];rfl)
         ·simp at hmk
        ·simp at hmk
       ·simp at hmk
     ·simp at h
    ·simp at h
   ·simp at h
  all_goals (first | (simp at h;done) | skip)
  all_goals (exfalso;revert h;try simp only [jfG])
  all_goals (repeat' split)
  all_goals simp [Act.leaf]
 all_goals (first | (simp at h;done) | skip)
 all_goals (repeat' (first | (simp at h;done) | (exact absurd h jnT) | split at h))<;>simp_all [jfG,oCel,oChk,Act.leaf,Act.cel]
 all_goals (repeat' (split at h))<;>simp_all
end
end Go.Lft
