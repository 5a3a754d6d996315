/- New variables; stores into variables. -/
import Derived.Test.YtpbnnhakjhalaaaGreatELLA
import Derived.MapKept
set_option linter.unusedVariables false
namespace Go.Lft
section
variable {N:NT} {np:Nat} {S0:j0c} {w0:World} {refs:Refs} {σ:St} {a:Go.Act} {w:World} {S:j0c} {γ:Nat→Value}
def gset (γ:Nat→Value) (n:Nat) (v:Value):Nat→Value:=fun k=>if k=n then v else γ k
theorem j0z (γ:Nat→Value) (n:Nat) (v:Value):gset γ n v n=v:=by simp [gset]
theorem j0u (γ:Nat→Value) {n k:Nat} (v:Value) (h:k≠n):gset γ n v k=γ k:=by simp [gset,h]
theorem j7y (hR:Rel N np S0 w0 refs σ a w S γ) (o:Obj):j3p S w S (w.alloc o):=
 fun g i h=>⟨h,World.cell?_alloc_lt w o ⟨g,i,none⟩ (hR.here g i h)⟩
theorem j4B {bx:Nat→BS} {k:Nat} {b:Bx} (h:j2c S w γ bx k b) {g:Nat} (hg:blk (γ k)=some g):g<w.heap.size:=by
 cases b with
 | cell ls frz=>obtain ⟨g',cur,e,h1,h2,_⟩:=h;rw [h1] at hg;simp [blk] at hg;subst hg;exact (jc.1 h2).1
 | lst e t xs frz=>
  exact h.1.lt hg
 | arr n t xs=>obtain ⟨g',cur,e,h1,h2,_⟩:=h;rw [h1] at hg;simp [blk] at hg;subst hg;exact (jc.1 h2).1
theorem jlE (hR:Rel N np S0 w0 refs σ a w S γ) {n:Nat} (hn:σ.bx n = .free) {o:Obj} {b:Bx} {v:Value} (hv:∀ g,blk v=some g→g=w.heap.size)
  (hb:BxLe γ σ.bx (gset γ n v) (σ.setB n (.live b)).bx→j2c S (w.alloc o) (gset γ n v) (σ.setB n (.live b)).bx n b) :
  Rel N np S0 w0 refs (σ.setB n (.live b)) a (w.alloc o) S (gset γ n v)∧BxLe γ σ.bx (gset γ n v) (σ.setB n (.live b)).bx:=by
 have hle:BxLe γ σ.bx (gset γ n v) (σ.setB n (.live b)).bx:=by
  intro k hk
  have hne:k≠n:=by rintro rfl;exact hk hn
  rw [j05 σ _ hne,j0u γ v hne]
  exact ⟨hk,rfl,fun b hb=>⟨b,hb,.refl b⟩⟩
 have hst:=j7y hR o
 refine ⟨Rel.step (bx':=(σ.setB n (.live b)).bx) hR hst hle ?_ ?_ ?_ hR.new ?_ ?_ ?_ hR.os hR.tape hR.output (fun g hg _ h=>⟨heap_alloc_old w o hg,fun k b' hb' hbk=>by
  by_cases hk:k=n
  ·subst hk
   rw [j0z] at hbk
   have:=hv g hbk;omega
  ·rw [j05 σ _ hk] at hb'
   rw [j0u γ v hk] at hbk
   exact h k b' hb' hbk⟩),hle⟩
 ·intro k b' hb'
  by_cases hk:k=n
  ·subst hk
   rw [j0E] at hb';simp at hb';subst hb'
   exact hb hle
  ·rw [j05 σ _ hk] at hb'
   refine j2c.keep hst hle (j0u γ v hk) (fun g hg=>⟨?_,fun _=>Iff.rfl⟩) (hR.box k b' hb')
   exact heap_alloc_old w o (j4B (hR.box k b' hb') hg)
 ·intro k b' g hb' hg
  by_cases hk:k=n
  ·subst hk
   rw [j0z] at hg
   exact .inl (by rw [hv g hg];exact hR.grow)
  ·rw [j05 σ _ hk] at hb'
   rw [j0u γ v hk] at hg
   exact hR.own k b' g hb' hg
 ·intro k k' b1 b2 g hne h1 h2 hg hg'
  by_cases hk:k=n
  ·subst hk
   have hk':k'≠k:=fun h=>hne h.symm
   rw [j0z] at hg
   rw [j05 σ _ hk'] at h2
   rw [j0u γ v hk'] at hg'
   have:=j4B (hR.box k' b2 h2) hg'
   rw [hv g hg] at this;omega
  ·by_cases hk':k'=n
   ·subst hk'
    rw [j0z] at hg'
    rw [j05 σ _ hk] at h1
    rw [j0u γ v hk] at hg
    have:=j4B (hR.box k b1 h1) hg
    rw [hv g hg'] at this;omega
   ·rw [j05 σ _ hk] at h1
    rw [j05 σ _ hk'] at h2
    rw [j0u γ v hk] at hg
    rw [j0u γ v hk'] at hg'
    exact hR.apart k k' b1 b2 g hne h1 h2 hg hg'
 ·intro g i h;have:=hR.here g i h;simp;omega
 ·intro g hg hr;rw [heap_alloc_old w o (by have:=hR.grow;omega)];exact hR.below g hg hr
 ·have:=hR.grow;simp;omega
theorem jc6 (hR:Rel N np S0 w0 refs σ a w S γ) (o:Nat):¬ S w.heap.size o:=fun h=>by have:=hR.here _ _ h;omega
theorem jg5 (hR:Rel N np S0 w0 refs σ a w S γ) {n:Nat} (hn:σ.bx n = .free) {ls:List Leaf} {cur:Array Value} {e:TypeId}
  (hl:All2 (j09 S w γ σ.bx) ls cur.toList) (h1:∀ u∈cur.toList,One u) :
  Rel N np S0 w0 refs (σ.setB n (.live (.cell ls false))) a (w.alloc (.cells cur e)) S (gset γ n (.pointer (some ⟨w.heap.size,0,none⟩)))∧
   j0o S (w.alloc (.cells cur e)) (gset γ n (.pointer (some ⟨w.heap.size,0,none⟩))) (σ.setB n (.live (.cell ls false))).bx (.one (.bp n 0)) (.pointer (some ⟨w.heap.size,0,none⟩)):=by
 obtain ⟨h,hle⟩:=jlE hR hn (o:= .cells cur e) (b:= .cell ls false) (v:= .pointer (some ⟨w.heap.size,0,none⟩)) (fun g hg=>by simp [blk] at hg;exact hg.symm) (fun hle=>
  ⟨w.heap.size,cur,e,j0z _ _ _,heap_alloc_new w _,by rw [List.take_of_length_le (Nat.le_of_eq hl.length.symm)];exact hl.mono (fun x u hx=>j09.keep (j7y hR _) hle hx),fun u hu=>h1 u (ka hu),fun _ o=>jc6 hR o,by simp⟩)
 refine ⟨h,⟨by rw [j0E];simp,rfl,fun b _=>⟨w.heap.size,j0z _ _ _,rfl⟩⟩,fun _=>rfl⟩
theorem jon (hR:Rel N np S0 w0 refs σ a w S γ) {n m:Nat} (hn:σ.bx n = .free) {t:Ty} {xs:List t.den} {cur:Array Value} {e:TypeId}
  (hl:Rep S w (.arr m t) xs cur.toList) :
  Rel N np S0 w0 refs (σ.setB n (.live (.arr m t xs))) a (w.alloc (.cells cur e)) S (gset γ n (.pointer (some ⟨w.heap.size,0,none⟩)))∧
   j0o S (w.alloc (.cells cur e)) (gset γ n (.pointer (some ⟨w.heap.size,0,none⟩))) (σ.setB n (.live (.arr m t xs))).bx (.one (.bp n 0)) (.pointer (some ⟨w.heap.size,0,none⟩)):=by
 obtain ⟨h,hle⟩:=jlE hR hn (o:= .cells cur e) (b:= .arr m t xs) (v:= .pointer (some ⟨w.heap.size,0,none⟩)) (fun g hg=>by simp [blk] at hg;exact hg.symm) (fun _=>
  ⟨w.heap.size,cur,e,j0z _ _ _,heap_alloc_new w _,Rep.keep (j7y hR _) _ _ _ hl,fun o=>jc6 hR o⟩)
 refine ⟨h,⟨by rw [j0E];simp,rfl,fun b _=>⟨w.heap.size,j0z _ _ _,rfl⟩⟩,fun _=>rfl⟩
theorem j82 {bx:Nat→BS}:∀ (t:Ty),All2 (j09 S w γ bx) (jec t) (jav t)
 | .int _=>⟨rfl,trivial⟩
 | .bool=>⟨rfl,trivial⟩
 | .str=>⟨rfl,trivial⟩
 | .unit=>trivial
 | .wrap a=>j82 a
 | .pair a b=>(j82 a).append (j82 b)
 | .list _=>⟨rfl,trivial⟩
 | .arr n a=>by
  show All2 _ ((List.range n).flatMap fun _=>jec a) ((List.replicate n (jav a)).flatten)
  induction n with
  | zero=>simp [All2]
  | succ n ih=>
   rw [List.range_succ,List.flatMap_append,List.replicate_succ',z6]
   refine ih.append ?_
   simpa using j82 a
theorem j6t:∀ (t:Ty),Rep S w t t.dflt (jav t)
 | .int _=>rfl
 | .bool=>rfl
 | .str=>rfl
 | .unit=>rfl
 | .wrap a=>j6t a
 | .pair a b=>⟨_,_,rfl,j6t a,j6t b⟩
 | .list _=>⟨none,0,rfl,ju _,by simp [maxLen],fun _=>rfl,fun b hb=>by simp at hb⟩
 | .arr n a=>by
  refine ⟨List.length_replicate,List.replicate n (jav a),?_,rfl⟩
  have hz:=j6t a
  have:∀ n,All2 (fun x c=>Rep S w a x c) (List.replicate n a.dflt) (List.replicate n (jav a)):=by
   intro n
   induction n with
   | zero=>exact trivial
   | succ n ih=>exact ⟨hz,ih⟩
  exact this n
theorem jc7 (hR:Rel N np S0 w0 refs σ a w S γ) {k:Nat} {b b':Bx} (hk:σ.bx k = .live b) {g:Nat} (hg:blk (γ k)=some g) (hS:∀ o,¬ S g o) (hsh:j1U b b')
  {old new:Array Value} {e:TypeId} (hh:w.heap[g]? = some (.cells old e (0,0)))
  (hb:BxLe γ σ.bx γ (σ.setB k (.live b')).bx→j3p S w S (w.setRow g new)→j2c S (w.setRow g new) γ (σ.setB k (.live b')).bx k b') :
  Rel N np S0 w0 refs (σ.setB k (.live b')) a (w.setRow g new) S γ:=by
 have hle:BxLe γ σ.bx γ (σ.setB k (.live b')).bx:=by
  intro k' hk'
  by_cases hkk:k'=k
  ·subst hkk
   rw [j0E]
   exact ⟨by simp,rfl,fun b1 hb1=>by simp at hb1;subst hb1;exact ⟨b,hk,hsh⟩⟩
  ·rw [j05 σ _ hkk]
   exact ⟨hk',rfl,fun b hb=>⟨b,hb,.refl b⟩⟩
 have hst:j3p S w S (w.setRow g new):=by
  intro g' o h
  refine ⟨h,cell_setRow_other w g new ⟨g',o,none⟩ ?_⟩
  rintro rfl
  exact hS o h
 have live':∀ k' b1,(σ.setB k (.live b')).bx k' = .live b1→∃ b2,σ.bx k' = .live b2:=by
  intro k' b1 h1
  by_cases hkk:k'=k
  ·subst hkk;exact ⟨b,hk⟩
  ·rw [j05 σ _ hkk] at h1;exact ⟨b1,h1⟩
 have hlt:=(jc.1 hh).1
 refine Rel.step (bx':=(σ.setB k (.live b')).bx) hR hst hle ?_ ?_ ?_ hR.new ?_ ?_ ?_ hR.os hR.tape hR.output (fun g' _ _ h=>⟨setRow_other w g g' new (fun e=>h k b hk (e▸hg)),fun k' b1 h1=>by
  obtain ⟨b2,h2⟩:=live' k' b1 h1
  exact h k' b2 h2⟩)
 ·intro k' b1 h1
  by_cases hkk:k'=k
  ·subst hkk
   rw [j0E] at h1;simp at h1;subst h1
   exact hb hle hst
  ·rw [j05 σ _ hkk] at h1
   refine j2c.keep hst hle rfl (fun g' hg'=>⟨?_,fun _=>Iff.rfl⟩) (hR.box k' b1 h1)
   exact setRow_other w g g' new (fun h=>hR.apart k' k b1 b g hkk h1 hk (h▸hg') hg)
 ·intro k' b1 g' h1 hg'
  obtain ⟨b2,h2⟩:=live' k' b1 h1
  exact hR.own k' b2 g' h2 hg'
 ·intro k1 k2 b1 b2 g' hne h1 h2 hg'
  obtain ⟨b1',h1'⟩:=live' k1 b1 h1
  obtain ⟨b2',h2'⟩:=live' k2 b2 h2
  exact hR.apart k1 k2 b1' b2' g' hne h1' h2' hg'
 ·intro g' o h;rw [size_setRow];exact hR.here g' o h
 ·intro g' hg' hr
  rw [setRow_other w g g' new ?_]
  ·exact hR.below g' hg' hr
  ·rintro rfl
   rcases hR.own k b _ hk hg with h | h
   ·omega
   ·exact hr h.1
 ·rw [size_setRow];exact hR.grow
theorem jcE {R:Leaf→Value→Prop} {ls new:List Leaf} {cs zs:List Value} {c:Nat} (h:All2 R ls cs) (h':All2 R new zs) :
  All2 R (jbW ls c new) (cs.take c++zs++cs.drop (c+zs.length)):=by
 unfold jbW
 rw [h'.length]
 exact ((h.take c).append h').append (h.drop _)
theorem jgx {X zs:List Value} {c n:Nat} (h:c+zs.length≤n) (h':n≤X.length):(X.take c++zs++X.drop (c+zs.length)).take n=(X.take n).take c++zs++(X.take n).drop (c+zs.length):=by
 have e1:(X.take n).take c=X.take c:=by rw [List.take_take,Nat.min_eq_left (by omega)]
 have e2:(X.take c++zs).length=c+zs.length:=by simp;omega
 rw [e1,List.take_append,List.take_of_length_le (by rw [e2];exact h),e2,List.drop_take]
theorem j93 {bx:Nat→BS} {c:Cel} {ls:List Leaf} {z:Value} (h:c.leaves=some ls) (hc:j0o S w γ bx c z) :
  All2 (j09 S w γ bx) ls z.cells.toList∧∀ u∈z.cells.toList,One u:=by
 unfold Cel.leaves at h
 split at h
 ·simp at h
 ·rename_i l hd
  simp at h;subst h
  have h1:=hc.2 hd
  rw [jay h1]
  exact ⟨⟨hc.1,trivial⟩,fun u hu=>by simp at hu;subst hu;exact h1⟩
 ·simp at h;subst h
  obtain ⟨cs,rfl,ha,h1⟩:=hc
  exact ⟨ha,h1⟩
 ·simp at h
end
theorem jb8 {m:Nat}:∀ {l:List (List Value)},(∀ c∈l,c.length=m)→l.flatten.length=l.length*m
 | [],_=>by simp
 | c::l,h=>by
  have h1:=h c (by simp)
  have h2:=jb8 (l:=l) (fun d hd=>h d (List.mem_cons_of_mem _ hd))
  simp only [ki,ji,jy,Nat.add_mul,Nat.one_mul];omega
section
variable {N:NT} {np:Nat} {S0:j0c} {w0:World} {refs:Refs} {σ:St} {a:Go.Act} {w:World} {S:j0c} {γ:Nat→Value}
theorem j2s:∀ (u:Ups) (σ:St) {k:Nat},u.any (fun y=>y.1==k)=false→(σ.upd u).bx k=σ.bx k
 | [],_,_,_=>rfl
 | e::u,σ,k,h=>by
  simp only [List.any_cons,Bool.or_eq_false_iff,beq_eq_false_iff_ne] at h
  show ((σ.setB e.1 e.2).upd u).bx k=_
  rw [j2s u _ h.2,j05 σ _ (fun hh=>h.1 hh.symm)]
theorem All2.all_len {t:Ty} {xs:List t.den} {css:List (List Value)} (h:All2 (fun x c=>Rep S w t x c) xs css):∀ c∈css,c.length=t.size:=by
 intro c hc
 obtain ⟨x,_,hx⟩:=h.mem_right c hc
 exact Rep.length _ _ _ hx
theorem jlF {cur:List Value} {css:List (List Value)} {m n i c:Nat} {ci zs:List Value} (hm:∀ c∈css,c.length=m) (hn:css.length=n) (hcur:cur.take (n*m)=css.flatten)
  (hi:css[i]? = some ci) (hc:c+zs.length≤m) :
  (cur.take (i*m+c)++zs++cur.drop (i*m+c+zs.length)).take (n*m)=(css.set i (ci.take c++zs++ci.drop (c+zs.length))).flatten:=by
 have hlt:i<css.length:=(jh.1 hi).1
 have hci:css[i]=ci:=(jh.1 hi).2
 have hcl:ci.length=m:=hm ci (jn hi)
 obtain ⟨A,B,hA,hB,hAB⟩:∃ A B:List (List Value),A.length=i∧A.length+1+B.length=n∧css=A++ci::B:=by
  refine ⟨css.take i,css.drop (i+1),by simp;omega,by simp;omega,?_⟩
  rw [←hci,List.getElem_cons_drop hlt,q7]
 have hmA:∀ c∈A,c.length=m:=fun d hd=>hm d (by rw [hAB];simp [hd])
 have hmB:∀ c∈B,c.length=m:=fun d hd=>hm d (by rw [hAB];simp [hd])
 have lA:A.flatten.length=i*m:=by rw [jb8 hmA,hA]
 have lB:=jb8 hmB
 have hset:css.set i (ci.take c++zs++ci.drop (c+zs.length))=A++(ci.take c++zs++ci.drop (c+zs.length))::B:=by
  rw [hAB,List.set_append_right _ _ (by omega),hA,Nat.sub_self,List.set_cons_zero]
 have hdec:cur=A.flatten++(ci++(B.flatten++cur.drop (n*m))):=by
  have:=q7 (n*m) cur
  rw [hcur,hAB,z6,ki] at this
  rw [←jm ci,←jm]
  exact this.symm
 have hsp:ci=ci.take c++((ci.drop c).take zs.length++ci.drop (c+zs.length)):=by
  have h1:=q7 c ci
  have h2:=q7 zs.length (ci.drop c)
  rw [z4] at h2
  rw [h2,h1]
 have lp:(ci.take c).length=c:=by simp;omega
 have lq:((ci.drop c).take zs.length).length=zs.length:=by simp;omega
 have lr:(ci.drop (c+zs.length)).length=m-(c+zs.length):=by simp [hcl]
 generalize ci.take c=p at *
 generalize (ci.drop c).take zs.length=q at *
 generalize ci.drop (c+zs.length)=r at *
 generalize cur.drop (n*m)=tl at *
 have e1:cur.take (i*m+c)=A.flatten++p:=by
  rw [hdec,hsp]
  simp only [←jm]
  rw [jm,jm,jm]
  exact qt (by simp [lA,lp])
 have e2:cur.drop (i*m+c+zs.length)=r++(B.flatten++tl):=by
  rw [hdec,hsp]
  have:A.flatten++(p++(q++r)++(B.flatten++tl))=(A.flatten++p++q)++(r++(B.flatten++tl)):=by simp
  rw [this]
  exact List.drop_left' (by simp [lA,lp,lq];omega)
 rw [e1,e2,hset,z6,ki]
 have:A.flatten++p++zs++(r++(B.flatten++tl))=(A.flatten++(p++zs++r++B.flatten))++tl:=by simp
 rw [this]
 refine qt ?_
 simp only [ji,lA,lp,lr,lB]
 have:n*m=i*m+m+B.length*m:=by
  rw [←hB,hA,Nat.add_mul,Nat.add_mul,Nat.one_mul]
 omega
theorem jb9 {P:Program} {T:Nat→Option TyI} (hT:j22 P T) {t:TypeId} {ti:TyI} (ht:T t=some ti) {g o:Nat} {z:Value} {cur:Array Value} {e:TypeId}
  (hh:w.heap[g]? = some (.cells cur e (0,0))) (hs:z.cells.toList.length=ti.size) (hl:o+z.cells.toList.length≤cur.size) (h1:∀ u∈z.cells.toList,One u) :
  (Instr.storeAt t (.pointer (some ⟨g,o,none⟩)) z).run P w = .ok () (w.setRow g (cur.toList.take o++z.cells.toList++cur.toList.drop (o+z.cells.toList.length)).toArray):=by
 have hst:=run_storeCells_at P g o e z.cells.toList 0 cur w hh (by simpa using hl) h1
 simp only [Nat.add_zero] at hst
 have hne:¬ z.cells.size≠ti.size:=by simpa using hs
 simp only [Instr.storeAt,Sem.run_bind,Instr.sureAddr,Sem.run_pure,Result.andThen_ok,storeVar,j2q hT ht,Sem.run_ite,if_neg hne,hst]
theorem jno {P:Program} {E:Env} (hT:j22 P E.T) (hR:Rel N np S0 w0 refs σ a w S γ) {rd rdf:Nat→BS} (hrd:RdOk σ rd) (hrdf:RdF np σ rdf) {t:TypeId} {ti:TyI} (ht:E.T t=some ti)
  {x:Leaf} {val:Cel} {u:Ups} {ux z:Value} (h:jfx rd rdf ti.size val x=some u) (hx:j09 S w γ σ.bx x ux) (hz:j0o S w γ σ.bx val z) :
  ∃ w' S',(Instr.storeAt t ux z).run P w = .ok () w'∧Rel N np S0 w0 refs (σ.upd u) a w' S' γ:=by
 unfold jfx at h
 split at h
 ·rename_i k c
  split at h
  ·rename_i ls hk
   have hk:=hrd.live hk
   split at h
   ·rename_i new hnew
    split at h
    ·rename_i hc
     simp only [j4] at h
     subst h
     obtain ⟨hsz,hle⟩:=hc
     obtain ⟨ha,h1⟩:=j93 hnew hz
     obtain ⟨g,hg,hu⟩:=hx.2.2 _ hk
     obtain ⟨g',cur,e,hg',hh,hcur,hc1,hS,_⟩:=hR.box k _ hk
     rw [hg] at hg';simp at hg';subst hg'
     subst hu
     have hlen:=ha.length
     have hlc:=hcur.length
     simp at hlc
     refine ⟨_,S,jb9 hT ht hh (by omega) (by simp at hlen ⊢;omega) h1,?_⟩
     refine jc7 hR hk (by rw [hg];rfl) (hS rfl) (b':= .cell (jbW ls c new) false) trivial hh (fun hle hst=> ?_)
     refine ⟨g,_,e,hg,setRow_heap w g cur _ e (0,0) hh,?_,?_,fun _=>hS rfl,by simp⟩
     ·have:=jcE (c:=c) (hcur.mono (fun x u hx=>j09.keep hst hle hx)) (ha.mono (fun x u hx=>j09.keep hst hle hx))
      have hsl:(jbW ls c new).length=ls.length:=by simp [jbW];omega
      rw [hsl]
      have:=jgx (X:=cur.toList) (zs:=z.cells.toList) (c:=c) (n:=ls.length) (by omega) (by simp;omega)
      simp only [this]
      assumption
     ·intro v hv
      have hsl:(jbW ls c new).length=ls.length:=by simp [jbW];omega
      rw [hsl] at hv
      have hst':=jgx (X:=cur.toList) (zs:=z.cells.toList) (c:=c) (n:=ls.length) (by omega) (by simp;omega)
      simp only [hst'] at hv
      simp only [jp] at hv
      rcases hv with (hv | hv) | hv
      ·exact hc1 v (ka hv)
      ·exact h1 v hv
      ·exact hc1 v (qx hv)
    ·simp at h
   ·simp at h
  ·rename_i n el xs hk
   have hk:=hrd.live hk
   split at h
   ·rename_i hc0
    subst hc0
    split at h
    ·rename_i n' a' ys
     split at h
     ·rename_i ys' hto
      split at h
      ·rename_i hsz
       simp only [j4] at h
       subst h
       have hto':=jcS hto
       simp only [TV.mk.injEq,Ty.arr.injEq] at hto'
       obtain ⟨⟨rfl,rfl⟩,hto'⟩:=hto'
       obtain rfl:=eq_of_heq hto'
       obtain ⟨cs,rfl,hr⟩:=hz
       obtain ⟨g,hg,hu⟩:=hx.2.2 _ hk
       obtain ⟨g',cur,e,hg',hh,hrep,hS⟩:=hR.box k _ hk
       rw [hg] at hg';simp at hg';subst hg'
       subst hu
       have hl1:=Rep.length _ _ _ hr
       have hl2:=Rep.length _ _ _ hrep
       have e1:(Value.agg cs).cells.toList=cs.toList:=rfl
       refine ⟨_,S,jb9 hT ht hh (by rw [e1,hl1,hsz];rfl) (by rw [e1,hl1,←hl2];simp) (by rw [e1];exact Rep.one _ _ _ hr),?_⟩
       refine jc7 hR hk (by rw [hg];rfl) hS (b':= .arr _ _ _) ⟨rfl,rfl⟩ hh (fun hle hst=> ?_)
       refine ⟨g,_,e,hg,setRow_heap w g cur _ e (0,0) hh,?_,hS⟩
       have hd:cur.toList.drop (0+cs.toList.length)=[]:=jg (by rw [hl1,hl2];omega)
       have hX:(cur.toList.take 0++(Value.agg cs).cells.toList++cur.toList.drop (0+(Value.agg cs).cells.toList.length)).toArray.toList=cs.toList:=by
        rw [e1,hd];simp
       rw [hX]
       exact Rep.keep hst _ _ _ hr
      ·simp at h
     ·simp at h
    ·simp at h
   ·simp at h
  ·simp at h
 ·rename_i k i c
  split at h
  ·rename_i el at_ xs hk
   have hnm:=hrd.nm hk
   have hk:=hrd.live hk
   split at h
   ·rename_i new hnew
    split at h
    ·rename_i hc
     obtain ⟨hsz,hle⟩:=hc
     split at h
     ·rename_i en u1 hga
      split at h
      ·simp at h
      ·rename_i hnk
       simp only [j4] at h
       subst h
       obtain ⟨ha,h1⟩:=j93 hnew hz
       have hlen:=ha.length
       have hzz:z.cells.toList.length=z.cells.size:=kz
       obtain ⟨_,hi,g,cap,hg,hu⟩:=hx.2.2 _ hk
       obtain ⟨css,hown,hall,hSk⟩:=j5j hnm (hR.box k _ hk)
       rcases hown.2 with ⟨_,h0⟩ | ⟨g',cap',cur,hg',hb0,hh,hnc,hcm,hcs,htake⟩
       ·omega
       rw [hg] at hg';simp at hg';obtain ⟨rfl,rfl⟩:=hg'
       subst hu
       obtain ⟨ci,hci,hrep,hcell⟩:=jdk (fun x c hx=>Rep.length at_ x c hx) hall i at_.dflt hi
       have hcl:=Rep.length _ _ _ hrep
       have hsp:=jcE (c:=c) (j6S (j5Q at_ _ ci hrep)) ha
       obtain ⟨hf,he,hp⟩:=jb7 hrdf hR.box at_ hga hsp
       obtain ⟨S1,hR1,hst1,hfz,hsame⟩:=j2Y u1 σ S hR hf
       have hk1:(σ.upd u1).bx k = .live (.lst el at_ xs false):=by rw [j2s u1 σ (qb.2 hnk)];exact hk
       obtain ⟨css1,hown1,hall1,hS1⟩:=j5j hnm (hR1.box k _ hk1)
       have hnS:∀ o,¬ S1 g o:=(hS1 g (by rw [hg];rfl)).1 rfl
       have him:i*at_.size+at_.size≤xs.length*at_.size:=by
        have:(i+1)*at_.size≤xs.length*at_.size:=jv _ (by omega)
        rwa [zd] at this
       have hmc:xs.length*at_.size≤cap*at_.size:=jv _ hnc
       have hzl:c+z.cells.toList.length≤at_.size:=by omega
       refine ⟨_,S1,jb9 hT ht hh (by omega) (by rw [hcs];omega) h1,?_⟩
       rw [j4h]
       refine jc7 hR1 hk1 (by rw [hg];rfl) hnS (b':= .lst el at_ (xs.set i en) false) ⟨rfl,rfl,fun _=>by simp⟩ hh (fun hle2 hst2=> ?_)
       have hnewc:Rep S1 w at_ en (ci.take c++z.cells.toList++ci.drop (c+z.cells.toList.length)):=by
        have:=hp S1 w hst1 hfz
        rwa [List.take_of_length_le (by simp;omega)] at this
       refine jgt hnm ⟨css.set i (ci.take c++z.cells.toList++ci.drop (c+z.cells.toList.length)),⟨?_,.inr ⟨g,cap,_,?_,k7 _,setRow_heap w g cur _ el (0,0) hh,by simpa using hnc,hcm,?_,?_⟩⟩,?_,fun g' hg'=> ?_⟩
       ·rw [jb8 (m:=at_.size)]
        ·simp [hall.length]
        ·intro d hd
         rcases List.mem_or_eq_of_mem_set hd with hd | rfl
         ·exact All2.all_len hall d hd
         ·simp;omega
       ·simpa using hg
       ·simp only [za,ji,kr,z5,kz];omega
       ·simp only [qu]
        exact jlF (All2.all_len hall) hall.length.symm htake hci hzl
       ·exact (hall.mono (fun x c hx=>Rep.keep (hst1.trans hst2) _ _ _ hx)).set i _ _ (Rep.keep hst2 _ _ _ hnewc)
       ·rw [hg] at hg';simp [blk] at hg';subst hg'
        exact ⟨fun _=>hnS,by simp⟩
     ·simp at h
    ·simp at h
   ·simp at h
  ·rename_i n at_ xs hk
   have hk:=hrd.live hk
   split at h
   ·rename_i new hnew
    split at h
    ·rename_i hc
     obtain ⟨hsz,hle⟩:=hc
     split at h
     ·rename_i en u1 hga
      split at h
      ·simp at h
      ·rename_i hnk
       simp only [j4] at h
       subst h
       obtain ⟨ha,h1⟩:=j93 hnew hz
       have hlen:=ha.length
       have hzz:z.cells.toList.length=z.cells.size:=kz
       obtain ⟨hi,g,hg,hu⟩:=hx.2.2 _ hk
       obtain ⟨g',cur,e,hg',hh,⟨hn,css,hall,hcur⟩,hS⟩:=hR.box k _ hk
       rw [hg] at hg';simp at hg';subst hg'
       subst hu
       obtain ⟨ci,hci,hrep,hcell⟩:=jdk (fun x c hx=>Rep.length at_ x c hx) hall i at_.dflt (by omega)
       have hcl:=Rep.length _ _ _ hrep
       have hsp:=jcE (c:=c) (j6S (j5Q at_ _ ci hrep)) ha
       obtain ⟨hf,he,hp⟩:=jb7 hrdf hR.box at_ hga hsp
       obtain ⟨S1,hR1,hst1,hfz,hsame⟩:=j2Y u1 σ S hR hf
       have hk1:(σ.upd u1).bx k = .live (.arr n at_ xs):=by rw [j2s u1 σ (qb.2 hnk)];exact hk
       obtain ⟨g1,cur1,e1,hg1,hh1,_,hnS⟩:=hR1.box k _ hk1
       rw [hg] at hg1;simp at hg1;subst hg1
       have hcl2:cur.toList.length=n*at_.size:=by rw [hcur,jb8 (All2.all_len hall),←hall.length,hn]
       have him:i*at_.size+at_.size≤n*at_.size:=by
        have:(i+1)*at_.size≤n*at_.size:=jv _ (by omega)
        rwa [zd] at this
       have hzl:c+z.cells.toList.length≤at_.size:=by omega
       refine ⟨_,S1,jb9 hT ht hh (by omega) (by rw [←kz,hcl2];omega) h1,?_⟩
       rw [j4h]
       refine jc7 hR1 hk1 (by rw [hg];rfl) hnS (b':= .arr n at_ (xs.set i en)) ⟨rfl,rfl⟩ hh (fun hle2 hst2=> ?_)
       have hnewc:Rep S1 w at_ en (ci.take c++z.cells.toList++ci.drop (c+z.cells.toList.length)):=by
        have:=hp S1 w hst1 hfz
        rwa [List.take_of_length_le (by simp;omega)] at this
       refine ⟨g,_,e,hg,setRow_heap w g cur _ e (0,0) hh,⟨?_,css.set i (ci.take c++z.cells.toList++ci.drop (c+z.cells.toList.length)),?_,?_⟩,hnS⟩
       ·show List.length (List.set xs i en)=n
        rw [qu];exact hn
       ·exact (hall.mono (fun x c hx=>Rep.keep (hst1.trans hst2) _ _ _ hx)).set i _ _ (Rep.keep hst2 _ _ _ hnewc)
       ·have hrs:=jlF (cur:=cur.toList) (n:=n) (zs:=z.cells.toList) (All2.all_len hall) (by rw [←hall.length,hn]) (by rw [←hcl2,List.take_length,hcur]) hci hzl
        rw [←hrs]
        symm
        refine (List.take_of_length_le ?_).trans (by simp)
        simp only [ji,kr,z5];omega
     ·simp at h
    ·simp at h
   ·simp at h
  ·simp at h
 ·simp at h
end
theorem j83 {m:Nat}:∀ {l:List (List Value)} (i:Nat),(∀ c∈l,c.length=m)→(l.take i).flatten=l.flatten.take (i*m)
 | [],i,_=>by simp
 | c::l,0,_=>by simp
 | c::l,i+1,h=>by
  have hc:=h c (by simp)
  have ih:=j83 (l:=l) i (fun d hd=>h d (by simp [hd]))
  rw [List.take_succ_cons,ki,ih,ki,zd,Nat.add_comm,List.take_append,hc]
  rw [List.take_of_length_le (l:=c) (by omega),show m+i*m-m=i*m by omega]
theorem jc8 {m:Nat}:∀ {l:List (List Value)} (i:Nat),(∀ c∈l,c.length=m)→(l.drop i).flatten=l.flatten.drop (i*m)
 | [],i,_=>by simp
 | c::l,0,_=>by simp
 | c::l,i+1,h=>by
  have hc:=h c (by simp)
  have ih:=jc8 (l:=l) i (fun d hd=>h d (by simp [hd]))
  rw [List.drop_succ_cons,ih,ki,zd,Nat.add_comm,List.drop_append,hc]
  rw [jg (l:=c) (by omega),jw,show m+i*m-m=i*m by omega]
section
variable {N:NT} {np:Nat} {S0:j0c} {w0:World} {refs:Refs} {σ:St} {a:Go.Act} {w:World} {S:j0c} {γ:Nat→Value}
theorem jg6 (hR:Rel N np S0 w0 refs σ a w S γ) {k:Nat} {b:Bx} (hk:σ.bx k = .live b):Rel N np S0 w0 refs (σ.setB k .gone) a w S γ:=by
 have hle:BxLe γ σ.bx γ (σ.setB k .gone).bx:=by
  intro k' hk'
  by_cases hkk:k'=k
  ·subst hkk;rw [j0E];exact ⟨by simp,rfl,fun b hb=>by simp at hb⟩
  ·rw [j05 σ _ hkk];exact ⟨hk',rfl,fun b hb=>⟨b,hb,.refl b⟩⟩
 have live':∀ k' b1,(σ.setB k .gone).bx k' = .live b1→σ.bx k' = .live b1:=by
  intro k' b1 h1
  by_cases hkk:k'=k
  ·subst hkk;rw [j0E] at h1;simp at h1
  ·rwa [j05 σ _ hkk] at h1
 exact Rel.step (bx':=(σ.setB k .gone).bx) hR (.refl S w) hle (fun k' b' h=>j2c.keep (.refl S w) hle rfl (fun _ _=>⟨rfl,fun _=>Iff.rfl⟩) (hR.box k' b' (live' k' b' h)))
  (fun k' b' g h=>hR.own k' b' g (live' k' b' h)) (fun k1 k2 b1 b2 g hne h1 h2=>hR.apart k1 k2 b1 b2 g hne (live' _ _ h1) (live' _ _ h2)) hR.new hR.here hR.below hR.grow hR.os hR.tape hR.output
  (fun g _ _ h=>⟨rfl,fun k' b' hb'=>h k' b' (live' k' b' hb')⟩)
theorem jg7 (hR:Rel N np S0 w0 refs σ a w S γ) {d:Nat} (hd:σ.bx d = .free) {w':World} {S':j0c} {v':Value} {e:Nat} (hm:isM e=false) {el:Ty} {zs:List el.den} {frz:Bool} {css:List (List Value)}
  (hst:j3p S w S' w') (hheap:∀ g,g<w.heap.size→blk v'≠some g→w'.heap[g]? = w.heap[g]?) (hsz:w.heap.size≤w'.heap.size)
  (hv:∀ g,blk v'=some g→w0.heap.size≤g∧(∀ k b,σ.bx k = .live b→blk (γ k)≠some g)∧g<w'.heap.size)
  (hS:∀ g o,S' g o→S g o∨blk v'=some g) (os:w'.os=w.os) (tape:w'.tape=w.tape) (output:w'.output=w.output)
  (hrow:w'.ownsRow 0 e el.size v' zs.length css.flatten) (hall:All2 (fun x c=>Rep S' w' el x c) zs css)
  (hfrz:∀ g,blk v'=some g→(frz=false→∀ o,¬ S' g o)∧(frz=true→∀ o,S' g o↔o<zs.length*el.size)) (hkw:∀ g,blk v'=some g→refs.kw g=none) :
  Rel N np S0 w0 refs (σ.setB d (.live (.lst e el zs frz))) a w' S' (gset γ d v')∧
   j0o S' w' (gset γ d v') (σ.setB d (.live (.lst e el zs frz))).bx (.one (.ol d)) v':=by
 have hle:BxLe γ σ.bx (gset γ d v') (σ.setB d (.live (.lst e el zs frz))).bx:=by
  intro k hk
  have hne:k≠d:=by rintro rfl;exact hk hd
  rw [j05 σ _ hne,j0u γ v' hne]
  exact ⟨hk,rfl,fun b hb=>⟨b,hb,.refl b⟩⟩
 have hone:One v':=by
  rcases hrow.2 with ⟨rfl,_⟩ | ⟨g,cap,cur,rfl,_⟩<;>rfl
 refine ⟨Rel.step (bx':=(σ.setB d (.live (.lst e el zs frz))).bx) hR hst hle ?_ ?_ ?_ ?_ ?_ ?_ (qr hR.grow hsz) (os.trans hR.os) (tape.trans hR.tape) (output.trans hR.output) (fun g hg hkn h=>⟨hheap g hg (fun hh=>hkn (hkw g hh)),fun k b' hb' hbk=>by
  by_cases hk:k=d
  ·subst hk
   rw [j0z] at hbk
   exact hkn (hkw g hbk)
  ·rw [j05 σ _ hk] at hb'
   rw [j0u γ v' hk] at hbk
   exact h k b' hb' hbk⟩),?_⟩
 ·intro k b hb
  by_cases hk:k=d
  ·subst hk
   rw [j0E] at hb;simp at hb;subst hb
   refine jgt hm ⟨css,by rw [j0z];exact hrow,hall,fun g hg=> ?_⟩
   rw [j0z] at hg
   exact hfrz g hg
  ·rw [j05 σ _ hk] at hb
   refine j2c.keep hst hle (j0u γ v' hk) (fun g hg=> ?_) (hR.box k b hb)
   have hgl:=j4B (hR.box k b hb) hg
   have hne:blk v'≠some g:=fun hh=>(hv g hh).2.1 k b hb hg
   exact ⟨hheap g hgl hne,fun o=>⟨fun hs=>(hS g o hs).resolve_right hne,fun hs=>(hst g o hs).1⟩⟩
 ·intro k b g hb hg
  by_cases hk:k=d
  ·subst hk;rw [j0z] at hg;exact .inl (hv g hg).1
  ·rw [j05 σ _ hk] at hb;rw [j0u γ v' hk] at hg;exact hR.own k b g hb hg
 ·intro k k' b1 b2 g hne h1 h2 hg hg'
  by_cases hk:k=d
  ·subst hk
   have hk':k'≠k:=fun h=>hne h.symm
   rw [j0z] at hg
   rw [j05 σ _ hk'] at h2
   rw [j0u γ v' hk'] at hg'
   exact (hv g hg).2.1 k' b2 h2 hg'
  ·by_cases hk':k'=d
   ·subst hk'
    rw [j0z] at hg'
    rw [j05 σ _ hk] at h1
    rw [j0u γ v' hk] at hg
    exact (hv g hg').2.1 k b1 h1 hg
   ·rw [j05 σ _ hk] at h1
    rw [j05 σ _ hk'] at h2
    rw [j0u γ v' hk] at hg
    rw [j0u γ v' hk'] at hg'
    exact hR.apart k k' b1 b2 g hne h1 h2 hg hg'
 ·intro g o hs
  rcases hS g o hs with hs | hs
  ·exact hR.new g o hs
  ·exact .inr (hv g hs).1
 ·intro g o hs
  rcases hS g o hs with hs | hs
  ·have:=hR.here g o hs;omega
  ·exact (hv g hs).2.2
 ·intro g hg hr
  by_cases hb:blk v'=some g
  ·have:=(hv g hb).1;omega
  ·rw [hheap g (by have:=hR.grow;omega) hb];exact hR.below g hg hr
 ·refine ⟨⟨by rw [j0E];simp,hone,fun b hb=>(j0z γ d v').symm⟩,fun _=>hone⟩
theorem jii {P:Program} {T:Nat→Option TyI} (hT:j22 P T) {t ty:TypeId} {ti:TyI} (ht:T t=some ti) {el:Ty} (hty:ti.ty=some (.list el))
  {v:Value} {n:Nat} {xs:List Value} (hown:w.ownsRow 0 ti.elem el.size v n xs) {ad:Option Addr} {m c:Nat} {news:List Value} (hnil:ad=none→m=0∧c=0) (hl:news.length=m*el.size)
  (hnews:∀ b,ad=some b→∀ (j:Nat) (u:Value),news[j]? = some u→w.cell? (b.add j)=some u) (h1:∀ u∈news,One u) (hmax:n+m≤j0m) :
  ∃ v' w',(Builtin.append_ #[t,t] ty #[v,.slice ad m c]).run P w = .ok v' w'∧w'.ownsRow 0 ti.elem el.size v' (n+m) (xs++news)∧w'.os=w.os∧w'.tape=w.tape∧w'.output=w.output∧w.heap.size≤w'.heap.size∧
   ((v'=v∧w'=w)∨(blk v'=blk v∧(∃ g,blk v=some g)∧∀ g,blk v≠some g→w'.heap[g]? = w.heap[g]?)∨(blk v'=some w.heap.size∧∀ g,g<w.heap.size→w'.heap[g]? = w.heap[g]?)):=by
 obtain ⟨hd,hpos,te,hte,htea⟩:=j4A hT ht hty
 have hsz:=j80 hT hte htea
 obtain ⟨i,de,hi,hde,his,hib,_,_,hz⟩:=j4c hT hte
 obtain ⟨_,⟨z,hz,hzc⟩,_⟩:=hz el htea
 have hsize:i.size=el.size:=by omega
 have hzs:z.cells.size=el.size:=by
  have h:=Rep.length el el.dflt _ (j6t (S:=fun _ _=>False) (w:=w) el)
  rw [←hzc] at h
  simpa using h
 have h63:n+m≤maxLen:=by simp only [maxLen,j0m] at *;omega
 have hbytes:(n+m)*i.bytes≤140737488355328:=by
  have:(n+m)*i.bytes≤j0m*32768:=Nat.mul_le_mul hmax hib
  simp only [j0m] at this
  omega
 have hlen:(xs++news).length=(n+m)*el.size:=by rw [ji,hown.1,hl,Nat.add_mul]
 cases ad with
 | none=>
  obtain ⟨rfl,rfl⟩:=hnil rfl
  have hn0:news=[]:=jl (by simpa using hl)
  subst hn0
  exact ⟨v,w,run_append_owned_none (P:=P) w 0 t ty ti.elem i el.size hd hi v n xs hown,by simpa using hown,rfl,rfl,rfl,ju _,.inl ⟨rfl,rfl⟩⟩
 | some b=>
  have hnews:=hnews b rfl
  rcases hown.2 with ⟨rfl,rfl⟩ | ⟨g,cap,cur,rfl,_,hg,hnc,hcm,hcs,htake⟩
  ·have hown':w.ownsRow w.heap.size ti.elem el.size (.slice none 0 0) 0 xs:=⟨hown.1,.inl ⟨rfl,rfl⟩⟩
   obtain ⟨v',w',hr,ho,hgr,hv⟩:=run_append_own (P:=P) w w.heap.size t ty ti.elem i z el.size i.bytes hd hi hz hsize rfl hzs hpos _ 0 xs hown' b m c news hl hnews h1 h63 hbytes (ju _)
   refine ⟨v',w',hr,⟨ho.1,ho.2.imp id (fun ⟨g,cap,cur,h1,_,h3⟩=>⟨g,cap,cur,h1,k7 _,h3⟩)⟩,hgr.os,hgr.tape,hgr.output,hgr.size,?_⟩
   by_cases hm:m=0
   ·subst hm
    have hn0:news=[]:=jl (by simpa using hl)
    subst hn0
    have:=run_append_own (P:=P) w w.heap.size t ty ti.elem i z el.size i.bytes hd hi hz hsize rfl hzs hpos _ 0 xs hown' b 0 c [] hl hnews h1 h63 hbytes (ju _)
    left
    have hx:(Builtin.append_ #[t,t] ty #[.slice none 0 0,.slice (some b) 0 c]).run P w = .ok (.slice none 0 0) w:=by
     simp [Builtin.append_,run_underlying hd,sizeOf,typeInfo,hi,Builtin.lenOf,Builtin.firstCells,loadCells,loadCellsFrom]
    rw [hx] at hr
    simp at hr
    exact ⟨hr.1.symm,hr.2.symm⟩
   ·have hr':=run_append_nil (P:=P) w t ty ti.elem i z hd hi hz b m c news (by rw [hsize];exact hl) hnews (by omega) (by simp only [maxLen] at h63;omega) (by have:=hbytes;simp only [js] at this;omega)
    rw [hr'] at hr
    simp at hr
    obtain ⟨rfl,rfl⟩:=hr
    exact .inr (.inr ⟨rfl,fun g hg=>heap_alloc_old w.drew _ hg⟩)
  ·by_cases hroom:n+m≤cap
   ·have hfit:n*i.size+news.length≤cur.size:=by rw [hsize,hl,hcs,←Nat.add_mul];exact jv _ hroom
    have hr:=run_append_room (P:=P) w t ty ti.elem i hd hi g n cap cur hg b m c news (by rw [hsize];exact hl) hnews h1 hroom hfit
    rw [hsize] at hr hfit
    refine ⟨_,_,hr,⟨hlen,.inr ⟨g,cap,_,rfl,k7 _,setRow_heap w g cur _ ti.elem _ hg,hroom,hcm,?_,?_⟩⟩,rfl,rfl,rfl,by rw [size_setRow];exact ju _,.inr (.inl ⟨rfl,⟨g,rfl⟩,fun g' hg'=> ?_⟩)⟩
    ·simp only [za,ji,kr,z5,kz];omega
    ·rw [htake,←hlen];exact List.take_left
    ·exact setRow_other w g g' _ (fun h=>hg' (by rw [h];rfl))
   ·have holds:∀ (j:Nat) (u:Value),xs[j]? = some u→w.cell? ((⟨g,0,none⟩:Addr).add j)=some u:=hown.cells (g:=g) rfl
    have hr:=run_append_grow (P:=P) w t ty ti.elem i z hd hi hz ⟨g,0,none⟩ n cap xs (by rw [hsize];exact hown.1) holds b m c news (by rw [hsize];exact hl) hnews (by omega) (by simp only [maxLen] at h63;omega) (growslice_fits (by omega) hbytes)
    have hge:=grownCap_ge w (n+m) cap ti.elem
    refine ⟨_,_,hr,⟨hlen,.inr ⟨w.heap.size,_,_,rfl,k7 _,heap_alloc_new w.drew _,hge,grownCap_le_maxLen w (n+m) cap ti.elem h63,?_,?_⟩⟩,rfl,rfl,rfl,by simp,.inr (.inr ⟨rfl,fun g' hg'=>heap_alloc_old w.drew _ hg'⟩)⟩
    ·simp only [Array.size_append,za,size_zeroCells,hzs,hown.1,hl,←Nat.add_mul]
     congr 1
     omega
    ·simp only [Array.toList_append,jm]
     rw [←jm,←hlen]
     exact List.take_left
theorem jmx (hR:Rel N np S0 w0 refs σ a w S γ) {rd:Nat→BS} (hrd:RdOk σ rd) {el:Ty} {y:Leaf} {ys:List el.den} {z:Value} (h:appX rd el y=some ys) (hy:j09 S w γ σ.bx y z) :
  ∃ ad c css,z = .slice ad ys.length c∧(ad=none→ys.length=0∧c=0)∧All2 (fun x c=>Rep S w el x c) ys css∧
   ∀ b,ad=some b→∀ (j:Nat) (u:Value),css.flatten[j]? = some u→w.cell? (b.add j)=some u:=by
 unfold appX at h
 split at h
 ·rename_i k
  split at h
  ·rename_i e el' xs f hk
   have:=jcS h
   cases this
   have hnm:=hrd.nm hk
   have hk:=hrd.live hk
   have hz:=hy.2.2 _ hk
   obtain ⟨css,hown,hall,_⟩:=j5j hnm (hR.box k _ hk)
   rcases hown.2 with ⟨hg,h0⟩ | ⟨g,cap,cur,hg,_⟩
   ·exact ⟨none,0,css,by rw [hz,hg,h0],fun _=>⟨h0,rfl⟩,hall,fun b hb=>by simp at hb⟩
   ·refine ⟨some ⟨g,0,none⟩,cap,css,by rw [hz,hg],by simp,hall,fun b hb j u hu=> ?_⟩
    simp at hb;subst hb
    exact hown.cells (g:=g) (by rw [hg];rfl) j u hu
  ·simp at h
 ·rename_i t xs
  have:=jcS h
  cases this
  obtain ⟨ad,cap,hz,hle,hcm,hn,hb⟩:=hy
  simp at hz
  cases ad with
  | none=>
   have h0:=hn rfl
   have hl0:List.length ys=0:=by omega
   have:ys=[]:=jl hl0
   subst this
   exact ⟨none,cap,[],hz,fun _=>⟨rfl,h0⟩,trivial,fun b hb=>by simp at hb⟩
  | some b=>
   obtain ⟨hsp,css,ha,hl⟩:=hb b rfl
   refine ⟨some b,cap,css,hz,by simp,ha,fun b' hb' j u hu=> ?_⟩
   simp at hb';subst hb'
   have hsp:=hsp (fun e=>by
    rw [e] at ha
    cases css with
    | nil=>simp at hu
    | cons c cs=>exact ha)
   obtain ⟨g,o,sp⟩:=b
   simp at hsp;subst hsp
   rw [Addr.add_lit]
   exact (hl j u hu).2
 ·simp at h;subst h
  exact ⟨none,0,[],hy,fun _=>⟨rfl,rfl⟩,trivial,fun b hb=>by simp at hb⟩
 ·rename_i k j
  split at h
  ·rename_i e el' xs f hk
   split at h
   ·rename_i xs' hto
    have:=jcS hto
    cases this
    simp only [j4] at h
    subst h
    have hnm:=hrd.nm hk
    have hk:=hrd.live hk
    obtain ⟨_,hj,ad,cap',hg',hu⟩:=hy.2.2 _ hk
    obtain ⟨css,hown,hall,_⟩:=j5j hnm (hR.box k _ hk)
    have hcl:=All2.all_len hall
    have hlen:(List.drop j xs').length=xs'.length-j:=by simp
    rcases hown.2 with ⟨hg,h0⟩ | ⟨g,cap,cur,hg,_,hh,hnc,_⟩
    ·rw [hg] at hg'
     simp only [Value.slice.injEq] at hg'
     obtain ⟨rfl,_,rfl⟩:=hg'
     have hx0:xs'=[]:=jl h0
     subst hx0
     refine ⟨none,0,[],by rw [hu];simp,fun _=>⟨by simp,rfl⟩,by simp;trivial,fun b hb=>by simp at hb⟩
    ·rw [hg] at hg'
     simp only [Value.slice.injEq,kf] at hg'
     obtain ⟨rfl,rfl⟩:=hg'
     by_cases hc:cap=j
     ·have hx0:List.drop j xs'=[]:=jg (by omega)
      rw [hx0]
      rw [if_pos hc] at hu
      exact ⟨some ⟨g,0,none⟩,cap-j,[],by rw [hu];simp;omega,by simp,trivial,fun b hb q v hq=>by simp at hq⟩
     ·rw [if_neg hc] at hu
      simp only [ko,Addr.add_lit,js] at hu
      refine ⟨some ⟨g,j*el.size,none⟩,cap-j,css.drop j,by rw [hu,hlen],by simp,hall.drop j,fun b hb q v hq=> ?_⟩
      simp at hb;subst hb
      have hfd:(css.drop j).flatten=css.flatten.drop (j*el.size):=jc8 j hcl
      rw [hfd,qq] at hq
      have:=hown.cells (g:=g) (by rw [hg];rfl) _ v hq
      rw [Addr.add_lit] at this ⊢
      simpa using this
   ·simp at h
  ·simp at h
 ·simp at h
theorem jnp {P:Program} {E:Env} (hT:j22 P E.T) (hR:Rel N np S0 w0 refs σ a w S γ) {rd rdf:Nat→BS} (hrd:RdOk σ rd) (hrdf:RdF np σ rdf) {t ty:TypeId} {ti:TyI} (ht:E.T t=some ti)
  {el:Ty} (hty:ti.ty=some (.list el)) {x y:Leaf} {xs ys:List el.den} {frz:Bool} {u:Ups} {d:Nat} {vx vy:Value} (h1:appS rdf ti.elem el x=some (xs,frz,u)) (h2:appX rd el y=some ys)
  (hd:σ.bx d = .free) (hmax:xs.length+ys.length≤j0m) (hx:j09 S w γ σ.bx x vx) (hy:j09 S w γ σ.bx y vy) :
  ∃ v' w' S' γ',(Builtin.append_ #[t,t] ty #[vx,vy]).run P w = .ok v' w'∧Rel N np S0 w0 refs (σ.upd (u++[(d,.live (.lst ti.elem el (xs++ys) frz))])) a w' S' γ'∧
   j0o S' w' γ' (σ.upd (u++[(d,.live (.lst ti.elem el (xs++ys) frz))])).bx (.one (.ol d)) v':=by
 obtain ⟨ad,c,cy,hvy,hnil,hcy,hcell⟩:=jmx hR hrd h2 hy
 subst hvy
 have hly:cy.flatten.length=ys.length*el.size:=All2.flatten_length (fun x c hx=>Rep.length el x c hx) hcy
 have h1y:∀ u∈cy.flatten,One u:=by
  intro u hu
  obtain ⟨c,hc,huc⟩:=List.mem_flatten.1 hu
  obtain ⟨x,_,hx⟩:=hcy.mem_right c hc
  exact Rep.one el x c hx u huc
 obtain ⟨hdd,hpos,te,hte,htea⟩:=j4A hT ht hty
 have src:∃ σ1,σ.upd u=σ1∧Rel N np S0 w0 refs σ1 a w S γ∧σ1.bx d = .free∧∃ cx,w.ownsRow 0 ti.elem el.size vx xs.length cx.flatten∧All2 (fun x c=>Rep S w el x c) xs cx∧
   ∀ g,blk vx=some g→w0.heap.size≤g∧g<w.heap.size∧(∀ k b,σ1.bx k = .live b→blk (γ k)≠some g)∧(frz=false→∀ o,¬ S g o)∧(frz=true→∀ o,S g o↔o<xs.length*el.size)∧refs.kw g=none:=by
  unfold appS at h1
  split at h1
  ·rename_i k
   split at h1
   ·rename_i e' el' xs' f hk
    split at h1
    ·rename_i xs2 hto
     split at h1
     ·rename_i he
      simp only [j4,j8] at h1
      obtain ⟨rfl,rfl,rfl⟩:=h1
      have:=jcS hto
      cases this
      subst he
      have hkp:=hrdf.par hk
      have hnm:=hrdf.ok.nm hk
      have hk:=hrdf.ok.live hk
      have hz:=hx.2.2 _ hk
      obtain ⟨css,hown,hall,hS⟩:=j5j hnm (hR.box k _ hk)
      have hdk:d≠k:=by rintro rfl;rw [hd] at hk;simp at hk
      refine ⟨σ.setB k .gone,rfl,jg6 hR hk,by rw [j05 σ _ hdk];exact hd,css,by rw [hz];exact hown,hall,fun g hg=> ?_⟩
      rw [hz] at hg
      refine ⟨?_,j4B (hR.box k _ hk) hg,fun k' b' hb' hg'=> ?_,(hS g hg).1,(hS g hg).2,hR.kw_live hk hg⟩
      ·rcases hR.own k _ g hk hg with h | h
       ·exact h
       ·rw [hkp] at h;simp at h
      ·have hkk:k'≠k:=by rintro rfl;rw [j0E] at hb';simp at hb'
       rw [j05 σ _ hkk] at hb'
       exact hR.apart k' k _ _ g hkk hb' hk hg' hg
     ·simp at h1
    ·simp at h1
   ·simp at h1
  ·simp only [j4,j8] at h1
   obtain ⟨rfl,rfl,rfl⟩:=h1
   have hz:vx = .slice none 0 0:=hx
   subst hz
   exact ⟨σ,rfl,hR,hd,[],World.ownsRow_nil w 0 ti.elem el.size,trivial,fun g hg=>by simp [blk] at hg⟩
  ·simp at h1
 obtain ⟨σ1,hσ1,hR1,hd1,cx,hown,hcx,hblk⟩:=src
 rw [j4h,hσ1]
 obtain ⟨v',w',hr,hrow,os,tape,output,hsz,hcase⟩:=jii hT ht hty (ty:=ty) hown hnil hly hcell h1y hmax
 have hlx:cx.flatten.length=xs.length*el.size:=hown.1
 let S':j0c:=fun g o=>S g o∨(frz=true∧blk v'=some g∧o<(xs++ys).length*el.size)
 have hst:j3p S w S' w':=by
  intro g o hs
  refine ⟨.inl hs,?_⟩
  rcases hcase with ⟨rfl,rfl⟩ | ⟨hb,⟨g0,hg0⟩,hh⟩ | ⟨hb,hh⟩
  ·rfl
  ·by_cases hg:g=g0
   ·subst hg
    obtain ⟨_,_,_,hf,ht',_⟩:=hblk g hg0
    cases frz with
    | false=>exact absurd hs (hf rfl o)
    | true=>
     have ho:=(ht' rfl o).1 hs
     have hv':v'.ownBlock=some g:=by
      rw [hg0] at hb
      rcases hrow.2 with ⟨hn,_⟩ | ⟨g1,cap,cur,hn,_⟩
      ·rw [hn] at hb;simp [blk] at hb
      ·rw [hn] at hb ⊢;simp [blk] at hb;simp [Value.ownBlock,hb]
     have hvx:vx.ownBlock=some g:=by
      rcases hown.2 with ⟨hn,_⟩ | ⟨g1,cap,cur,hn,_⟩
      ·rw [hn] at hg0;simp [blk] at hg0
      ·rw [hn] at hg0 ⊢;simp [blk] at hg0;simp [Value.ownBlock,hg0]
     have hget:(cx.flatten)[o]? = some (cx.flatten[o]'(by omega)):=jo (by omega)
     have e1:=hown.cells hvx o _ hget
     have e2:=hrow.cells hv' o (cx.flatten[o]'(by omega)) (by rw [List.getElem?_append_left (by omega)];exact hget)
     rw [Addr.add_lit,js] at e1 e2
     rw [e1,e2]
   ·have:=hh g (by rw [hg0];simpa using fun h=>hg h.symm)
    exact World.cell?_of_block (a:=⟨g,o,none⟩) this
  ·exact World.cell?_of_block (a:=⟨g,o,none⟩) (hh g (hR.here g o hs))
 have hvb:∀ g,blk v'=some g→w0.heap.size≤g∧(∀ k b,σ1.bx k = .live b→blk (γ k)≠some g)∧g<w'.heap.size:=by
  intro g hg
  have hlt:g<w'.heap.size:=by
   rcases hrow.2 with ⟨hn,_⟩ | ⟨g1,cap,cur,hn,_,hh,_⟩
   ·rw [hn] at hg;simp [blk] at hg
   ·rw [hn] at hg;simp [blk] at hg;subst hg;exact (jc.1 hh).1
  rcases hcase with ⟨rfl,rfl⟩ | ⟨hb,⟨g0,hg0⟩,hh⟩ | ⟨hb,hh⟩
  ·obtain ⟨q1,q2,q3,_⟩:=hblk g hg;exact ⟨q1,q3,hlt⟩
  ·rw [hb] at hg;obtain ⟨q1,q2,q3,_⟩:=hblk g hg;exact ⟨q1,q3,hlt⟩
  ·rw [hb] at hg;simp at hg;subst hg
   exact ⟨hR.grow,fun k b hk hg'=>by have:=j4B (hR1.box k b hk) hg';omega,hlt⟩
 obtain ⟨hRn,hcn⟩:=jg7 hR1 hd1 (hm:=jiS hT ht) (w':=w') (S':=S') (v':=v') (e:=ti.elem) (el:=el) (zs:=xs++ys) (frz:=frz) (css:=cx++cy) hst (fun g hg hne=>by
   rcases hcase with ⟨rfl,rfl⟩ | ⟨hb,_,hh⟩ | ⟨hb,hh⟩
   ·rfl
   ·exact hh g (by rw [←hb];exact hne)
   ·exact hh g hg) hsz hvb (fun g o hs=>hs.imp id (fun h=>h.2.1)) os tape output (by rw [z6,ji];exact hrow)
  ((hcx.mono (fun x c hx=>Rep.keep hst _ _ _ hx)).append (hcy.mono (fun x c hx=>Rep.keep hst _ _ _ hx))) (fun g hg=>by
    have hold:∀ o,S g o→frz=true∧o<xs.length*el.size:=by
     intro o hs
     rcases hcase with ⟨rfl,rfl⟩ | ⟨hb,⟨g0,hg0⟩,hh⟩ | ⟨hb,hh⟩
     ·obtain ⟨_,_,_,hf,ht',_⟩:=hblk g hg
      cases frz with
      | false=>exact absurd hs (hf rfl o)
      | true=>exact ⟨rfl,(ht' rfl o).1 hs⟩
     ·rw [hb] at hg
      obtain ⟨_,_,_,hf,ht',_⟩:=hblk g hg
      cases frz with
      | false=>exact absurd hs (hf rfl o)
      | true=>exact ⟨rfl,(ht' rfl o).1 hs⟩
     ·rw [hb] at hg;simp at hg;subst hg;exact absurd hs (jc6 hR o)
    refine ⟨fun hf o hs=> ?_,fun hf o=>⟨fun hs=> ?_,fun ho=> .inr ⟨hf,hg,ho⟩⟩⟩
    ·rcases hs with hs | hs
     ·rw [hf] at hold;simp at hold;exact hold o hs
     ·rw [hf] at hs;simp at hs
    ·rcases hs with hs | hs
     ·have:=(hold o hs).2
      rw [ji,Nat.add_mul];omega
     ·exact hs.2.2) (fun g hg=>by
    rcases hcase with ⟨rfl,rfl⟩ | ⟨hb,⟨g0,hg0⟩,hh⟩ | ⟨hb,hh⟩
    ·exact (hblk g hg).2.2.2.2.2
    ·rw [hb] at hg;exact (hblk g hg).2.2.2.2.2
    ·rw [hb] at hg;simp at hg;subst hg;exact hR.kw_new (ju _))
 exact ⟨v',w',S',_,hr,hRn,hcn⟩
end
theorem jrS (L l:List Value) (v:Value) (n:Nat) (h:n<L.length) :
  (L.set n v).take (n+1)++l++(L.set n v).drop (n+1+l.length)=L.take n++v::l++L.drop (n+(l.length+1)):=by
 obtain ⟨A,x,B,hA,rfl⟩:∃ A x B,List.length A=n∧L=A++x::B:=⟨L.take n,L[n],L.drop (n+1),by simp;omega,by rw [List.getElem_cons_drop h,q7]⟩
 subst hA
 rw [List.set_append_right _ _ (ju _),Nat.sub_self,List.set_cons_zero]
 have e1:(A++v::B).take (A.length+1)=A++[v]:=by
  rw [show A++v::B=(A++[v])++B by simp]
  exact qt (by simp)
 have e2:(A++x::B).take A.length=A:=qt rfl
 have e3:∀ y,(A++y::B).drop (A.length+1+l.length)=B.drop l.length:=by
  intro y
  rw [show A++y::B=(A++[y])++B by simp,←z4,List.drop_left' (by simp)]
 rw [e1,e2,e3,show A.length+(l.length+1)=A.length+1+l.length by omega,e3]
 simp
theorem jkg (off:Nat):∀ (l:List Value) (k:Nat) (cells:Array Value),off+k+l.length≤cells.size→
  ((l.zipIdx k).foldl (fun cs x=>cs.setIfInBounds (off+x.2) x.1) cells).toList=cells.toList.take (off+k)++l++cells.toList.drop (off+k+l.length)
 | [],k,cells,_=>by simp
 | v::l,k,cells,h=>by
  simp only [jy] at h
  rw [List.zipIdx_cons,List.foldl_cons,jkg off l (k+1) _ (by simp;omega)]
  simp only [Array.toList_setIfInBounds]
  rw [show off+(k+1)=off+k+1 by omega]
  exact jrS cells.toList l v (off+k) (by simp;omega)
theorem jiU (cells:Array Value) (off:Nat) (zs:Array Value) (h:off+zs.size≤cells.size) :
  (zs.zipIdx.foldl (fun cs (x:Value×Nat)=>cs.setIfInBounds (off+x.2) x.1) cells).toList=cells.toList.take off++zs.toList++cells.toList.drop (off+zs.size):=by
 rw [←Array.foldl_toList,Array.toList_zipIdx]
 have:=jkg off zs.toList 0 cells (by simpa using h)
 simpa using this
theorem jd5 (z:List Value):∀ (n p:Nat),p<n*z.length→(List.replicate n z).flatten[p]? = z[p%z.length]?
 | 0,p,h=>by simp at h
 | n+1,p,h=>by
  rw [List.replicate_succ,ki]
  by_cases hp:p<z.length
  ·rw [List.getElem?_append_left hp,Nat.mod_eq_of_lt hp]
  ·rw [jt (by omega),jd5 z n (p-z.length) (by rw [Nat.add_mul] at h;omega)]
   congr 1
   exact (Nat.mod_eq_sub_mod (by omega)).symm
theorem jij (z:Array Value) (n:Nat) (hz:0<z.size):((Array.range (n*z.size)).map (fun i=>z[i%z.size]!)).toList=(List.replicate n z.toList).flatten:=by
 apply List.ext_getElem?
 intro p
 by_cases hp:p<n*z.size
 ·rw [jd5 z.toList n p (by simpa using hp)]
  have hm:p%z.size<z.size:=Nat.mod_lt _ hz
  simp [hp,hm]
 ·rw [List.getElem?_eq_none (by simp;omega),List.getElem?_eq_none (by rw [List.length_flatten];simp;omega)]
section
variable {N:NT} {np:Nat} {S0:j0c} {w0:World} {refs:Refs} {σ:St} {a:Go.Act} {w:World} {S:j0c} {γ:Nat→Value}
theorem jek {t:Ty} {z:Value} (h:z.cells.toList=jav t):z.cells.size=t.size:=by
 have:=Rep.length t t.dflt _ (j6t (S:=fun _ _=>False) (w:=(default:World)) t)
 rw [←h] at this
 simpa using this
theorem jg8 {t:Ty} {z:Value} (h:z.cells.toList=jav t):∀ u∈z.cells.toList,One u:=by
 rw [h]
 exact Rep.one t t.dflt _ (j6t (S:=fun _ _=>False) (w:=(default:World)) t)
theorem jgy {P:Program} {T:Nat→Option TyI} (hT:j22 P T) {t:TypeId} {ti:TyI} (ht:T t=some ti) {ty:Ty} (hty:ti.ty=some ty) :
  ∃ z:Value,z.cells.toList=jav ty∧(Instr.alloc t true (.tuple #[])).run P w = .ok (.pointer (some ⟨w.heap.size,0,none⟩)) (w.alloc (.cells z.cells t)):=by
 obtain ⟨z,hz,hc⟩:=jb4 hT ht w hty
 refine ⟨z,hc,?_⟩
 simp only [Instr.alloc,Sem.run_bind,hz,Result.andThen_ok,newVar,newRow,run_newObj,Sem.run_pure,World.alloc_eq]
theorem joo {P:Program} (t:TypeId) (v:Value):(Instr.box t v).run P w = .ok (.pointer (some ⟨w.heap.size,0,none⟩)) (w.alloc (.cells v.cells t)):=by
 simp only [Instr.box,Sem.run_bind,newVar,newRow,run_newObj,Result.andThen_ok,Sem.run_pure,World.alloc_eq]
theorem jmy {P:Program} {α β:Type} (f:α→Sem β) (g:α→β):∀ (l:List α),(∀ x∈l,(f x).run P w = .ok (g x) w)→(l.mapM f).run P w = .ok (l.map g) w
 | [],_=>by simp
 | x::l,h=>by
  rw [qg]
  simp only [Sem.run_bind,h x (by simp),Result.andThen_ok,jmy f g l (fun y hy=>h y (by simp [hy])),Sem.run_pure,ku]
theorem jmz {bx:Nat→BS} {ti:TyI} {sz:Nat→Option Nat} {place:Nat→Option (Nat×Nat)} (hp:∀ i f n,ti.flds[i]? = some f→sz f.2=some n→place i=some (f.1,n)) :
  ∀ (ps:List (Nat×Cel)) (vs:List (Nat×Value)) {ls ls':List Leaf} {cells:Array Value},All2 (fun p v=>p.1=v.1∧j0o S w γ bx p.2 v.2) ps vs→jia ti sz ls ps=some ls'→
   All2 (j09 S w γ bx) ls cells.toList→(∀ u∈cells.toList,One u)→∃ cells',Instr.fill place cells vs=some cells'∧All2 (j09 S w γ bx) ls' cells'.toList∧∀ u∈cells'.toList,One u
 | [],[],ls,ls',cells,_,h,ha,h1=>by
  simp [jia] at h;subst h
  exact ⟨cells,rfl,ha,h1⟩
 | (i,c)::ps,(j,v)::vs,ls,ls',cells,⟨⟨hij,hc⟩,hps⟩,h,ha,h1=>by
  simp only at hij;subst hij
  simp only [jia] at h
  split at h
  ·rename_i f hf
   split at h
   ·rename_i new hnew
    split at h
    ·rename_i hcond
     obtain ⟨hsz,hle⟩:=hcond
     obtain ⟨hl,hl1⟩:=j93 hnew hc
     have hlen:=hl.length
     have hlc:=ha.length
     have hvs:v.cells.size=new.length:=by rw [hlen];simp
     have hcs:cells.size=ls.length:=by rw [hlc];simp
     have hfo:=jiU cells f.1 v.cells (by omega)
     have hsp:=jcE (c:=f.1) ha hl
     obtain ⟨cells',hfill,h2,h3⟩:=jmz hp ps vs (cells:=(v.cells.zipIdx.foldl (fun cs (x:Value×Nat)=>cs.setIfInBounds (f.1+x.2) x.1) cells)) hps h
      (by rw [hfo];simpa using hsp) (by
       rw [hfo]
       intro u hu
       simp only [jp] at hu
       rcases hu with (hu | hu) | hu
       ·exact h1 u (ka hu)
       ·exact hl1 u hu
       ·exact h1 u (qx hu))
     refine ⟨cells',?_,h2,h3⟩
     simp only [Instr.fill,hp i f _ hf hsz]
     rw [if_neg (by simp [hvs];omega)]
     exact hfill
    ·simp at h
   ·simp at h
  ·simp at h
 | [],_::_,_,_,_,h,_,_,_=>h.elim
 | _::_,[],_,_,_,h,_,_,_=>h.elim
theorem jnq {P:Program} {E:Env} (hT:j22 P E.T) {bx:Nat→BS} {t:TypeId} {ti:TyI} (ht:E.T t=some ti) {ty:Ty} (hty:ti.ty=some ty) (hag:ty.agg=true)
  {ps:List (Nat×Cel)} {vs:Array (Nat×Value)} {ls:List Leaf} (hps:All2 (fun p v=>p.1=v.1∧j0o S w γ bx p.2 v.2) ps vs.toList)
  (h:jia ti (fun t=>(E.T t).map (·.size)) (jec ty) ps=some ls) :
  ∃ z,(Instr.build t vs).run P w = .ok z w∧j0o S w γ bx (.st ls) z:=by
 obtain ⟨z,hz,hzc⟩:=jb4 hT ht w hty
 obtain ⟨i,d,hi,hd,_,_,_,hfl,hdesc⟩:=j4c hT ht
 have hdd:=(hdesc ty hty).2.2
 cases d with
 | struct fs=>
  simp only [jkb,ja,jk] at hfl
  obtain ⟨hf1,hf2⟩:=hfl
  have hplaces:(fs.mapM (fun f=>do pure (f.offset,←sizeOf f.type):Field→Sem (Nat×Nat))).run P w = .ok (fs.map fun f=>(f.offset,((E.T f.type).map (·.size)).getD 0)) w:=by
   rw [qy]
   have:=jmy (P:=P) (w:=w) (fun f=>(do pure (f.offset,←sizeOf f.type):Sem (Nat×Nat))) (fun f:Field=>(f.offset,((E.T f.type).map (·.size)).getD 0)) fs.toList (fun f hf=>by
    have:=jj.1 hf2 f hf
    split at this
    ·rename_i tf htf
     simp only [Sem.run_bind,j2q hT htf,Result.andThen_ok,Sem.run_pure,htf,ko,Option.getD_some]
    ·simp at this)
   simp only [Sem.run_map,this,Result.andThen_ok]
   congr 1
   apply kb
   simp
  have hp:∀ (i:Nat) (f:Nat×Nat) (n:Nat),ti.flds[i]? = some f→(E.T f.2).map (·.size)=some n→(fs.map fun f=>(f.offset,((E.T f.type).map (·.size)).getD 0))[i]? = some (f.1,n):=by
   intro i f n hf hn
   rw [←hf1,q9] at hf
   cases hq:fs.toList[i]? with
   | none=>simp [hq] at hf
   | some fl=>
    simp only [hq,ko,j4] at hf
    subst hf
    have hq':fs[i]? = some fl:=by simpa using hq
    simp only at hn
    simp [hq',hn]
  obtain ⟨cells',hfill,ha,h1⟩:=jmz (S:=S) (w:=w) (γ:=γ) (place:=fun i=>(fs.map fun f=>(f.offset,((E.T f.type).map (·.size)).getD 0))[i]?) hp ps vs.toList (cells:=z.cells) hps h (by rw [hzc];exact j82 ty) (jg8 hzc)
  refine ⟨.agg cells',?_,cells',rfl,ha,h1⟩
  simp only [Instr.build,Sem.run_bind,hz,Result.andThen_ok,run_underlying hd,hplaces,hfill,Sem.run_pure]
 | _=>exfalso;revert hdd hag;cases ty<;>simp [j6Q,Ty.agg]
theorem jik {rd:Nat→BS} {el:Ty}:∀ (ps:List (Nat×Cel)) {xs xs':List el.den} {u u':Ups},j6H rd el xs u ps=some (xs',u')→∃ u2,u'=u++u2
 | [],_,_,u,u',h=>by simp [j6H] at h;exact ⟨[],by simp [h.2]⟩
 | (i,c)::ps,xs,xs',u,u',h=>by
  simp only [j6H] at h
  split at h
  ·split at h
   ·obtain ⟨u2,hu⟩:=jik ps h
    exact ⟨_,by rw [hu,jm]⟩
   ·simp at h
  ·simp at h
theorem jf6 {rd:Nat→BS} (hrd:RdF np σ rd) (hB:jnn S w γ σ.bx) {el:Ty} (hpos:0<el.size):∀ (ps:List (Nat×Cel)) (vs:List (Nat×Value)) {xs xs':List el.den} {u u':Ups},
  All2 (fun p v=>p.1=v.1∧j0o S w γ σ.bx p.2 v.2) ps vs→j6H rd el xs u ps=some (xs',u')→FrzL np σ.bx u→
  FrzL np σ.bx u'∧∀ S',j3p S w S' w→Froz σ.bx γ S' w u'→∀ (css:List (List Value)) (cells:Array Value),All2 (fun x c=>Rep S' w el x c) xs css→cells.toList=css.flatten→
   ∃ cells' css',Instr.fill (fun i=>some (i*el.size,el.size)) cells vs=some cells'∧All2 (fun x c=>Rep S' w el x c) xs' css'∧cells'.toList=css'.flatten
 | [],[],xs,xs',u,u',_,h,hf=>by
  simp [j6H] at h
  obtain ⟨rfl,rfl⟩:=h
  exact ⟨hf,fun S' _ _ css cells ha hc=>⟨cells,css,rfl,ha,hc⟩⟩
 | (i,c)::ps,(j,v)::vs,xs,xs',u,u',⟨⟨hij,hc⟩,hps⟩,h,hf=>by
  simp only at hij;subst hij
  simp only [j6H] at h
  split at h
  ·rename_i x u1 hx
   split at h
   ·rename_i hi
    obtain ⟨hf1,hr1,hl1⟩:=jaz hrd hB hx hc
    obtain ⟨hf',hrest⟩:=jf6 hrd hB hpos ps vs hps h (FrzL.app.2 ⟨hf,hf1⟩)
    obtain ⟨u2,hu2⟩:=jik ps h
    refine ⟨hf',fun S' hst hfz css cells ha hcells=> ?_⟩
    have hrx:=(hr1 S' w hst (Froz.app.1 (Froz.app.1 (hu2▸hfz)).1).2).1
    have hlcs:cells.size=xs.length*el.size:=by
     have:=All2.flatten_length (fun x c hx=>Rep.length el x c hx) ha
     rw [←hcells] at this
     simpa using this
    have him:i*el.size+el.size≤xs.length*el.size:=by
     have:(i+1)*el.size≤xs.length*el.size:=jv _ (by omega)
     rwa [zd] at this
    have hl1:v.cells.toList.length=el.size:=hl1
    have hvs:v.cells.size=el.size:=by simpa using hl1
    have hzz:v.cells.toList.length=v.cells.size:=kz
    have hfo:=jiU cells (i*el.size) v.cells (by omega)
    obtain ⟨ci,hci⟩:∃ ci,css[i]? = some ci:=⟨css[i]'(by rw [←ha.length];exact hi),jo _⟩
    have hrs:=jlF (cur:=cells.toList) (n:=xs.length) (c:=0) (zs:=v.cells.toList) (All2.all_len ha) ha.length.symm (by rw [hcells,←hcells];exact List.take_of_length_le (by simp [hlcs])) hci (by omega)
    have hcl:ci.length=el.size:=All2.all_len ha ci (jn hci)
    have hnew:cells.toList.take (i*el.size)++v.cells.toList++cells.toList.drop (i*el.size+v.cells.size)=(css.set i v.cells.toList).flatten:=by
     have e1:ci.take 0++v.cells.toList++ci.drop (0+v.cells.toList.length)=v.cells.toList:=by
      rw [jg (by omega)];simp
     rw [e1] at hrs
     rw [←hrs]
     symm
     refine (List.take_of_length_le ?_).trans ?_
     ·simp;omega
     ·simp
    obtain ⟨cells',css',h1,h2,h3⟩:=hrest S' hst hfz (css.set i v.cells.toList) _ (ha.set i x v.cells.toList hrx) (hfo.trans hnew)
    refine ⟨cells',css',?_,h2,h3⟩
    simp only [Instr.fill]
    rw [if_neg (by simp [hvs];omega)]
    exact h1
   ·simp at h
  ·simp at h
 | [],_::_,_,_,_,_,h,_,_=>h.elim
 | _::_,[],_,_,_,_,h,_,_=>h.elim
end
theorem jop {P:Program} {t e:TypeId} (h:P.underlying t=some (.slice e)):P.elem t=e:=by simp [Program.elem,h]
def VB (d:Nat) (o:Option Value) (i:Nat):Prop:=(o=none∧i=d)∨∃ k,o=some (.int k (i:Int))
theorem j7z {P:Program} {w:World} {t:TypeId} {e s:Nat} (hd:P.underlying t=some (.slice e)) (hs:(sizeOf e).run P w = .ok s w) {ad:Option Addr} {len cap i j:Nat} {lo hi:Option Value}
  (hlo:VB 0 lo i) (hhi:VB len hi j) (hij:i≤j) (hj:j≤cap) :
  (Instr.sliceAt t (.slice ad len cap) lo hi none).run P w = .ok (.slice (if cap=i then ad else ad.map (·.add (i*s))) (j-i) (cap-i)) w:=by
 have he:=jop hd
 have hd':P.underlying t=some (.slice (P.elem t)):=by rw [he];exact hd
 rw [run_sliceAt_slice w t _ _ _ _ hd']
 have hs':(sizeOf (P.elem t)).run P w = .ok s w:=by rw [he];exact hs
 rcases hlo with ⟨rfl,rfl⟩ | ⟨kl,rfl⟩
 ·rcases hhi with ⟨rfl,rfl⟩ | ⟨kh,rfl⟩
  ·rw [run_slice_all w t ad _ cap hd',hs'];simp [Result.andThen,sliced]
  ·rw [run_slice_h w t ad len cap hd' kh _ (by omega) (by omega),hs'];simp [Result.andThen,sliced]
 ·rcases hhi with ⟨rfl,rfl⟩ | ⟨kh,rfl⟩
  ·rw [run_slice_l w t ad _ cap hd' kl _ (by omega) (by omega),hs'];simp [Result.andThen,sliced]
  ·rw [run_slice_lh w t ad len cap hd' kl kh _ _ (by omega) (by omega) (by omega),hs'];simp [Result.andThen,sliced]
section
variable {N:NT} {np:Nat} {S0:j0c} {w0:World} {refs:Refs} {σ:St} {a:Go.Act} {w:World} {S:j0c} {γ:Nat→Value}
theorem jkh {el:Ty} {xs:List el.den} {ad:Option Addr} {cap:Nat} (h:Rep S w (.list el) xs [.slice ad (List.length xs) cap]) {i j:Nat} (hij:i≤j) (hj:j≤List.length xs) :
  Rep S w (.list el) ((xs.take j).drop i) [.slice (if cap=i then ad else ad.map (·.add (i*el.size))) (j-i) (cap-i)]:=by
 obtain ⟨ad',cap',he,hle,hcm,hn,hb⟩:=h
 simp only [List.cons.injEq,Value.slice.injEq,and_true,kf] at he
 obtain ⟨rfl,rfl⟩:=he
 have hlen:((xs.take j).drop i).length=j-i:=by simp;omega
 refine ⟨_,_,by rw [hlen],by rw [hlen];omega,by omega,fun h=> ?_,fun b hb'=> ?_⟩
 ·have:ad=none:=by
   split at h
   ·exact h
   ·simpa using h
  have:=hn this
  omega
 ·by_cases hc:cap=i
  ·rw [if_pos hc] at hb'
   have hz:(xs.take j).drop i=[]:=jl (by omega)
   rw [hz]
   exact ⟨fun h=>absurd rfl h,[],trivial,fun j v hv=>by simp at hv⟩
  ·rw [if_neg hc] at hb'
   cases ad with
   | none=>simp at hb'
   | some b0=>
    simp only [ko,j4] at hb'
    subst hb'
    obtain ⟨hsp,css,ha,hl⟩:=hb b0 rfl
    by_cases hx:(xs.take j).drop i=[]
    ·rw [hx]
     exact ⟨fun h=>absurd rfl h,[],trivial,fun j v hv=>by simp at hv⟩
    ·have hxs:xs≠[]:=fun h=>hx (by rw [h];simp)
     obtain ⟨g,o,sp⟩:=b0
     have hsp:=hsp hxs
     simp at hsp;subst hsp
     have hadd:(⟨g,o,none⟩:Addr).add (i*el.size)=⟨g,o+i*el.size,none⟩:=Addr.add_lit _ _ _
     rw [hadd]
     refine ⟨fun _=>rfl,(css.take j).drop i,(ha.take j).drop i,fun q v hq=> ?_⟩
     have hcl:=All2.all_len ha
     rw [jc8 i (fun c hc=>hcl c (ka hc)),j83 j hcl,qq,ke] at hq
     split at hq
     ·have:=hl _ v hq
      simpa [Nat.add_assoc] using this
     ·simp at hq
def ORep (R:Leaf→Value→Prop):Option Leaf→Option Value→Prop
 | none,none=>True
 | some l,some v=>R l v
 | _,_=>False
theorem jba {d:Nat} {o:Option Leaf} {vo:Option Value} {i:Int} {bx:Nat→BS} (h:bnd d o=some i) (ho:ORep (j09 S w γ bx) o vo) (hi:0≤i):VB d vo i.toNat:=by
 unfold bnd at h
 split at h
 ·cases vo with
  | none=>simp at h;exact .inl ⟨rfl,by omega⟩
  | some v=>exact ho.elim
 ·cases vo with
  | none=>exact ho.elim
  | some v=>
   simp at h
   rename_i k n
   have hv:v = .int k n:=j6R (S:=S) (w:=w) ho
   refine .inr ⟨k,?_⟩
   rw [hv,show (n:Int)=i from h,Int.toNat_of_nonneg hi]
 ·simp at h
theorem jnr {P:Program} {E:Env} (hT:j22 P E.T) (hR:Rel N np S0 w0 refs σ a w S γ) {rd:Nat→BS} (hrd:RdOk σ rd) {t:TypeId} {ti:TyI} (ht:E.T t=some ti)
  {d:Nat} {x l:Leaf} {lo hi:Option Leaf} {vx:Value} {vlo vhi:Option Value} {u:Ups} (hfree:∀ k,j62 (rd k)=true→σ.bx k = .free) (h:jib (parK np) rd ti d x lo hi=some (true,l,u))
  (hx:j09 S w γ σ.bx x vx) (hlo:ORep (j09 S w γ σ.bx) lo vlo) (hhi:ORep (j09 S w γ σ.bx) hi vhi) :
  ∃ v S' γ',(Instr.sliceAt t vx vlo vhi none).run P w = .ok v w∧Rel N np S0 w0 refs (σ.upd u) a w S' γ'∧j0o S' w γ' (σ.upd u).bx (.one l) v:=by
 unfold jib at h
 split at h
 ·-- a datum
  rename_i el xs
  split at h
  ·rename_i hty
   obtain ⟨hd,_,te,hte,htea⟩:=j4A hT ht hty
   have hsz:=j80 hT hte htea
   split at h
   ·rename_i i j hi' hj'
    simp only [j4,j8,ja,jk] at h
    obtain ⟨⟨h0,h1,h2⟩,rfl,rfl⟩:=h
    have hx':=hx
    obtain ⟨ad,cap,hv,hle,_⟩:=hx
    simp at hv
    subst hv
    have hlen:((List.length xs:Nat):Int)=Int.ofNat (List.length xs):=rfl
    refine ⟨_,S,γ,j7z hd (s:=el.size) ?_ (jba hi' hlo h0) (jba hj' hhi (by omega)) (by omega) (by omega),hR,jkh hx' (by omega) (by omega),fun _=>rfl⟩
    rw [j2q hT hte,hsz]
   ·simp at h
  ·simp at h
 ·rename_i k
  split at h
  ·-- the tail
   split at h
   ·rename_i e el xs f hk
    split at h
    ·rename_i hty
     obtain ⟨hd,_,te,hte,htea⟩:=j4A hT ht hty
     have hsz:=j80 hT hte htea
     split at h
     ·rename_i i hi'
      simp only [j4,j8,ja,jk] at h
      obtain ⟨⟨h0,h1⟩,rfl,rfl⟩:=h
      have hnm:=hrd.nm hk
      have hk:=hrd.live hk
      have hz:=hx.2.2 _ hk
      obtain ⟨css,hown,_⟩:=j5j hnm (hR.box k _ hk)
      obtain ⟨ad,cap,hg,hcap⟩:∃ ad cap,γ k = .slice ad xs.length cap∧xs.length≤cap:=by
       rcases hown.2 with ⟨hg,hn⟩ | ⟨g,cap,cur,hg,_,_,hnc,_⟩
       ·exact ⟨none,0,by rw [hg,hn],by omega⟩
       ·exact ⟨_,cap,hg,hnc⟩
      have hvh:VB xs.length vhi xs.length:=by
       cases vhi with
       | none=>exact .inl ⟨rfl,rfl⟩
       | some v=>exact hhi.elim
      subst hz
      have hrun:=j7z (ad:=ad) (w:=w) hd (s:=el.size) (by rw [j2q hT hte,hsz]) (jba hi' hlo h0) hvh (by omega) hcap
      rw [←hg] at hrun
      refine ⟨_,S,γ,hrun,hR,⟨hx.1,rfl,fun b hb=> ?_⟩,fun _=>rfl⟩
      rw [show (σ.upd []).bx k=σ.bx k from rfl,hk] at hb;cases hb
      exact ⟨hnm,by omega,ad,cap,hg,rfl⟩
     ·simp at h
    ·simp at h
   ·simp at h
  ·rename_i hh
   split at h
   ·rename_i e el xs f hk
    split at h
    ·rename_i hty
     obtain ⟨hd,_,te,hte,htea⟩:=j4A hT ht hty
     have hsz:=j80 hT hte htea
     split at h
     ·rename_i i j hi' hj'
      have hnm:=hrd.nm hk
      have hk:=hrd.live hk
      have hz:=hx.2.2 _ hk
      split at h
      ·-- a parameter's: its head
       split at h
       ·rename_i hln
        simp only [Option.isNone_iff_eq_none] at hln
        subst hln
        simp only [j4,j8,ja,jk] at h
        obtain ⟨⟨h0,h1⟩,rfl,rfl⟩:=h
        obtain ⟨css,hown,_⟩:=j5j hnm (hR.box k _ hk)
        have hvl:VB 0 vlo 0:=by
         cases vlo with
         | none=>exact .inl ⟨rfl,rfl⟩
         | some v=>exact hlo.elim
        have hvh:=jba hj' hhi h0
        obtain ⟨ad,cap,hg,hcap,had⟩:∃ ad cap,γ k = .slice ad xs.length cap∧xs.length≤cap∧(if cap=0 then ad else ad.map (·.add (0*el.size)))=ad:=by
         rcases hown.2 with ⟨hg,hn⟩ | ⟨g,cap,cur,hg,_,_,hnc,_⟩
         ·exact ⟨none,0,by rw [hg,hn],by omega,rfl⟩
         ·exact ⟨_,cap,hg,hnc,by simp [Addr.add_lit]⟩
        have hrun:=j7z (ad:=ad) (w:=w) hd (s:=el.size) (by rw [j2q hT hte,hsz]) hvl hvh (by omega) (show j.toNat≤cap by omega)
        rw [←hg,had] at hrun
        subst hz
        refine ⟨_,S,γ,hrun,hR,⟨hx.1,rfl,fun b hb=> ?_⟩,fun _=>rfl⟩
        rw [show (σ.upd []).bx k=σ.bx k from rfl,hk] at hb;cases hb
        exact ⟨hnm,by omega,ad,cap,hg,rfl⟩
       ·simp at h
      rename_i hkp
      have hkp:parK np k=false:=by simpa using hkp
      split at h
      ·-- cut short
       rename_i hlf
       simp only [ja,Option.isNone_iff_eq_none,Bool.not_eq_eq_eq_not,jd] at hlf
       obtain ⟨rfl,rfl⟩:=hlf
       split at h
       ·rename_i hfr
        simp only [j4,j8,ja,jk] at h
        obtain ⟨⟨h0,h1⟩,rfl,rfl⟩:=h
        have hdf:=hfree d hfr
        have hdk:d≠k:=by rintro rfl;rw [hdf] at hk;simp at hk
        obtain ⟨css,hown,hall,hS⟩:=j5j hnm (hR.box k _ hk)
        have hcl:=All2.all_len hall
        have hvl:VB 0 vlo 0:=by
         cases vlo with
         | none=>exact .inl ⟨rfl,rfl⟩
         | some v=>exact hlo.elim
        have hvh:=jba hj' hhi h0
        have hR1:=jg6 hR hk
        have hd1:(σ.setB k .gone).bx d = .free:=by rw [j05 σ _ hdk];exact hdf
        have hjl:j.toNat≤xs.length:=by omega
        have hcss:css.length=xs.length:=hall.length.symm
        have key:∃ v',(Instr.sliceAt t vx vlo vhi none).run P w = .ok v' w∧w.ownsRow 0 e el.size v' (List.take j.toNat xs).length (List.take j.toNat css).flatten∧blk v'=blk vx:=by
         rw [hz]
         have hlt:(List.take j.toNat xs).length=j.toNat:=by simp;omega
         rcases hown.2 with ⟨hg,hn⟩ | ⟨g,cap,cur,hg,_,hh,hnc,hcm,hcs,htake⟩
         ·rw [hg]
          have hj0:j.toNat=0:=by omega
          refine ⟨_,j7z hd (s:=el.size) (len:=0) (by rw [j2q hT hte,hsz]) hvl (by rw [hn] at hvh;exact hvh) (by omega) (by omega),?_,by simp;rfl⟩
          rw [hj0]
          simpa using World.ownsRow_nil w 0 e el.size
         ·rw [hg]
          refine ⟨_,j7z hd (s:=el.size) (by rw [j2q hT hte,hsz]) hvl hvh (by omega) (by omega),?_,?_⟩
          ·refine ⟨?_,.inr ⟨g,cap,cur,?_,k7 _,hh,by omega,hcm,hcs,?_⟩⟩
           ·rw [j83 _ hcl,kr,hown.1,hlt]
            exact Nat.min_eq_left (jv _ hjl)
           ·rw [hlt]
            by_cases hc:cap=0
            ·simp [hc]
            ·simp [hc,Addr.add_lit]
           ·rw [hlt,j83 _ hcl,←htake,List.take_take,Nat.min_eq_left (jv _ hjl)]
          ·by_cases hc:cap=0
           ·simp [hc];rfl
           ·simp [hc,Addr.add_lit];rfl
        obtain ⟨v',hrun,hrow,hblk⟩:=key
        have hfacts:∀ g,blk v'=some g→w0.heap.size≤g∧(∀ k' b,(σ.setB k .gone).bx k' = .live b→blk (γ k')≠some g)∧g<w.heap.size:=by
         intro g hg
         rw [hblk,hz] at hg
         refine ⟨?_,fun k' b' hb' hg'=> ?_,j4B (hR.box k _ hk) hg⟩
         ·rcases hR.own k _ g hk hg with h | h
          ·exact h
          ·rw [hkp] at h;simp at h
         ·have hkk:k'≠k:=by rintro rfl;rw [j0E] at hb';simp at hb'
          rw [j05 σ _ hkk] at hb'
          exact hR.apart k' k _ _ g hkk hb' hk hg' hg
        obtain ⟨hRn,hcn⟩:=jg7 hR1 hd1 (hm:=hnm) (w':=w) (S':=S) (v':=v') (e:=e) (el:=el) (zs:=List.take j.toNat xs) (frz:=false) (css:=List.take j.toNat css) (.refl S w) (fun g hg hne=>rfl) (ju _) hfacts
         (fun g o hs=> .inl hs) rfl rfl rfl hrow (hall.take _) (fun g hg=>⟨fun _=>(hS g (by rw [←hz,←hblk];exact hg)).1 rfl,by simp⟩) (fun g hg=>hR.kw_live hk (by rw [←hz,←hblk];exact hg))
        exact ⟨v',S,_,hrun,hRn,hcn⟩
       ·simp at h
      ·-- shared
       simp only [j4,j8,ja,jk] at h
       obtain ⟨⟨h0,h1,h2⟩,rfl,rfl⟩:=h
       obtain ⟨S',hR',hst,hrep⟩:=jf5 hR hnm hk hkp
       have hrep':=hrep
       obtain ⟨ad,cap,hv,hle,_⟩:=hrep
       simp at hv
       rw [hv] at hrep'
       refine ⟨_,S',γ,by rw [hz,hv];exact j7z hd (s:=el.size) (by rw [j2q hT hte,hsz]) (jba hi' hlo h0) (jba hj' hhi (by omega)) (by omega) (by omega),hR',jkh hrep' (by omega) (by omega),fun _=>rfl⟩
     ·simp at h
    ·simp at h
   ·simp at h
 ·-- of a head
  rename_i k m
  split at h
  ·rename_i e el xs f hk
   split at h
   ·rename_i hty
    obtain ⟨hty,hhs⟩:=hty
    obtain ⟨hd,_,te,hte,htea⟩:=j4A hT ht hty
    have hsz:=j80 hT hte htea
    split at h
    ·rename_i i j hi' hj'
     simp only [j4,j8,ja,jk] at h
     obtain ⟨⟨h0,h1,h2⟩,rfl,rfl⟩:=h
     have hnm:=hrd.nm hk
     have hk:=hrd.live hk
     obtain ⟨_,hm,ad,cap,hg,hz⟩:=hx.2.2 _ hk
     obtain ⟨css,hown,_⟩:=jmu hg (hR.box k _ hk)
     have hcap:xs.length≤cap:=by
      rcases hown.2 with ⟨hg',hn⟩ | ⟨g,cap',cur,hg',_,_,hnc,_⟩
      ·omega
      ·rw [hg] at hg'
       simp only [Value.slice.injEq,kf] at hg'
       omega
     have hvh:VB m vhi xs.length:=by
      have:=jba hj' hhi (by omega)
      rw [h2,j7] at this
      rcases this with ⟨h3,_⟩ | h3
      ·cases hi with
       | none=>simp at hhs
       | some y=>subst h3;exact hhi.elim
      ·exact .inr h3
     have hrun:=j7z (ad:=ad) (w:=w) hd (s:=el.size) (by rw [j2q hT hte,hsz]) (jba hi' hlo h0) hvh (by omega) hcap
     subst hz
     refine ⟨_,S,γ,hrun,hR,⟨hx.1,rfl,fun b hb=> ?_⟩,fun _=>rfl⟩
     rw [show (σ.upd []).bx k=σ.bx k from rfl,hk] at hb;cases hb
     exact ⟨hnm,by omega,ad,cap,hg,rfl⟩
    ·simp at h
   ·simp at h
  ·simp at h
 ·simp at h
theorem jns {P:Program} {E:Env} (hT:j22 P E.T) (hR:Rel N np S0 w0 refs σ a w S γ) {rd:Nat→BS} (hrd:RdOk σ rd) {t:TypeId} {ti:TyI} (ht:E.T t=some ti)
  {x mx:Leaf} {lo hi:Option Leaf} {vx vm:Value} {vlo vhi:Option Value} (h:jic rd ti x lo hi mx=some true)
  (hx:j09 S w γ σ.bx x vx) (hlo:ORep (j09 S w γ σ.bx) lo vlo) (hhi:ORep (j09 S w γ σ.bx) hi vhi) (hmx:j09 S w γ σ.bx mx vm) :
  ∃ v,(Instr.sliceAt t vx vlo vhi (some vm)).run P w = .ok v w:=by
 unfold jic at h
 split at h
 case h_2=>simp at h
 rename_i k k1 i k2 j k3 m
 split at h
 case h_2=>simp at h
 rename_i e el xs f hk
 split at h
 case isFalse=>simp at h
 rename_i hty
 simp only [j4,ja,jk] at h
 obtain ⟨h0,h1,h2,h3⟩:=h
 obtain ⟨hd,_,te,hte,htea⟩:=j4A hT ht hty
 have hsz:=j80 hT hte htea
 have hnm:=hrd.nm hk
 have hk:=hrd.live hk
 have hz:=hx.2.2 _ hk
 cases vlo with
 | none=>exact hlo.elim
 | some vl=>
 cases vhi with
 | none=>exact hhi.elim
 | some vh=>
 have e1:vl = .int k1 i:=j6R (S:=S) (w:=w) hlo
 have e2:vh = .int k2 j:=j6R (S:=S) (w:=w) hhi
 have e3:vm = .int k3 m:=j6R (S:=S) (w:=w) hmx
 subst e1 e2 e3
 obtain ⟨css,hown,_⟩:=j5j hnm (hR.box k _ hk)
 have he:=jop hd
 have hd':P.underlying t=some (.slice (P.elem t)):=by rw [he];exact hd
 rw [run_sliceAt_slice w t _ _ _ _ hd']
 have hs':(sizeOf (P.elem t)).run P w = .ok el.size w:=by rw [he];rw [j2q hT hte,hsz]
 have key:∀ ad n cap,(m:Int)≤(cap:Nat)→∃ v,(Instr.slice t (.slice ad n cap) (some (.int k1 i)) (some (.int k2 j)) (some (.int k3 m))).run P w = .ok v w:=by
  intro ad n cap hc
  rw [run_slice_lhm w t ad n cap hd' _ _ _ _ _ _ h0 h1 h2 hc,hs']
  exact ⟨_,rfl⟩
 rcases hown.2 with ⟨hg,hn⟩ | ⟨g,cap,cur,hg,_,hh,hnc,_⟩
 ·rw [hz,hg];exact key _ _ _ (Int.le_trans h3 (by omega))
 ·rw [hz,hg];exact key _ _ _ (Int.le_trans h3 (by omega))
theorem joq (hR:Rel N np S0 w0 refs σ a w S γ) {x:Leaf} {k i e:Nat} {el:Ty} {xs:List el.den} {f:Bool} {vx:Value} (h:jmr x=some (k,i)) (hnm:isM e=false) (hk:σ.bx k = .live (.lst e el xs f))
  (hx:j09 S w γ σ.bx x vx):i≤xs.length∧((xs.length=0∧vx = .slice none 0 0)∨
   ∃ g cap,γ k = .slice (some ⟨g,0,none⟩) xs.length cap∧xs.length≤cap∧vx = .slice (some ⟨g,if cap=i then 0 else i*el.size,none⟩) (xs.length-i) (cap-i)):=by
 obtain ⟨css,hown,hall,hS⟩:=j5j hnm (hR.box k _ hk)
 unfold jmr at h
 split at h
 ·simp only [j4,j8] at h
  obtain ⟨rfl,rfl⟩:=h
  have hz:=hx.2.2 _ hk
  refine ⟨k7 _,?_⟩
  rcases hown.2 with ⟨hg,hn⟩ | ⟨g,cap,cur,hg,_,hh,hnc,hcm,hcs,htake⟩
  ·exact .inl ⟨hn,by rw [hz,hg]⟩
  ·exact .inr ⟨g,cap,hg,hnc,by rw [hz,hg];simp⟩
 ·rename_i k' i'
  simp only [j4,j8] at h
  obtain ⟨rfl,rfl⟩:=h
  obtain ⟨_,hi,ad,cap,hg',hv⟩:=hx.2.2 _ hk
  refine ⟨hi,?_⟩
  rcases hown.2 with ⟨hg,hn⟩ | ⟨g,cap',cur,hg,_,hh,hnc,hcm,hcs,htake⟩
  ·rw [hg] at hg'
   simp only [Value.slice.injEq] at hg'
   obtain ⟨rfl,_,rfl⟩:=hg'
   exact .inl ⟨hn,by rw [hv];simp;omega⟩
  ·rw [hg] at hg'
   simp only [Value.slice.injEq,kf] at hg'
   obtain ⟨rfl,rfl⟩:=hg'
   refine .inr ⟨g,cap',hg,hnc,?_⟩
   rw [hv]
   by_cases hc:cap'=i'
   ·rw [if_pos hc,if_pos hc]
   ·rw [if_neg hc,if_neg hc];simp [Addr.add_lit]
 ·simp at h
theorem jf7 {P:Program} (hR:Rel N np S0 w0 refs σ a w S γ) {k i e g cap:Nat} {el:Ty} {xs zs:List el.den} (hk:σ.bx k = .live (.lst e el xs false)) (hg:γ k = .slice (some ⟨g,0,none⟩) xs.length cap)
  {cz:List (List Value)} (hz:All2 (fun x c=>Rep S w el x c) zs cz) (hl:i+zs.length≤xs.length) :
  ∃ w',(storeCells ⟨g,i*el.size,none⟩ cz.flatten).run P w = .ok () w'∧Rel N np S0 w0 refs (σ.setB k (.live (.lst e el (List.take i xs++(zs++List.drop (i+zs.length) xs)) false))) a w' S γ:=by
 have hnm:=jsz hg (hR.box k _ hk)
 obtain ⟨css,hown,hall,hS⟩:=j5j hnm (hR.box k _ hk)
 have hlz:cz.flatten.length=zs.length*el.size:=All2.flatten_length (fun x c hx=>Rep.length el x c hx) hz
 have h1:∀ u∈cz.flatten,One u:=by
  intro u hu
  obtain ⟨c,hc,huc⟩:=List.mem_flatten.1 hu
  obtain ⟨x,_,hx⟩:=hz.mem_right c hc
  exact Rep.one el x c hx u huc
 rcases hown.2 with ⟨hg',hn⟩ | ⟨g',cap',cur,hg',_,hh,hnc,hcm,hcs,htake⟩
 ·rw [hg] at hg';simp at hg'
 rw [hg] at hg'
 simp only [Value.slice.injEq,j4,Addr.mk.injEq,and_true,kf] at hg'
 obtain ⟨rfl,rfl⟩:=hg'
 have hm1:i*el.size+zs.length*el.size≤xs.length*el.size:=by rw [←Nat.add_mul];exact jv _ hl
 have hm2:xs.length*el.size≤cap*el.size:=jv _ hnc
 have hst:=run_storeCells_at P g (i*el.size) e cz.flatten 0 cur w hh (by rw [hlz,hcs];omega) h1
 simp only [Nat.add_zero] at hst
 refine ⟨_,hst,?_⟩
 have hcl:=All2.all_len hall
 have hczl:=All2.all_len hz
 have hnS:∀ o,¬ S g o:=(hS g (by rw [hg];rfl)).1 rfl
 refine jc7 hR hk (by rw [hg];rfl) hnS (b':= .lst e el _ false) ⟨rfl,rfl,fun _=>by simp;omega⟩ hh (fun hle2 hst2=> ?_)
 have hlen:(List.take i xs++(zs++List.drop (i+zs.length) xs)).length=xs.length:=by simp;omega
 refine jgt hnm ⟨css.take i++(cz++css.drop (i+zs.length)),⟨?_,.inr ⟨g,cap,_,?_,k7 _,setRow_heap w g cur _ e (0,0) hh,by rw [hlen];exact hnc,hcm,?_,?_⟩⟩,?_,fun g' hg'=> ?_⟩
 ·rw [hlen,jb8 (m:=el.size)]
  ·have:=hall.length;have:=hz.length;simp only [ji,kr,z5];congr 1;omega
  ·intro d hd
   simp only [jp] at hd
   rcases hd with hd | hd | hd
   ·exact hcl d (ka hd)
   ·exact hczl d hd
   ·exact hcl d (qx hd)
 ·rw [hlen];exact hg
 ·simp only [za,ji,kr,z5,kz];omega
 ·rw [hlen]
  simp only [z6,j83 i hcl,jc8 _ hcl,←htake]
  have hA:(cur.toList.take (i*el.size)).length=i*el.size:=by simp;omega
  rw [jm,List.take_append,hA,List.take_of_length_le (by omega),List.take_take,Nat.min_eq_left (by omega)]
  congr 1
  rw [List.take_append,hlz,List.take_of_length_le (by omega),Nat.add_mul]
  congr 1
  rw [List.drop_take]
  congr 1
  omega
 ·exact ((hall.mono (fun x c hx=>Rep.keep hst2 _ _ _ hx)).take _).append ((hz.mono (fun x c hx=>Rep.keep hst2 _ _ _ hx)).append ((hall.mono (fun x c hx=>Rep.keep hst2 _ _ _ hx)).drop _))
 ·rw [hg] at hg';simp [blk] at hg';subst hg'
  exact ⟨fun _=>hnS,by simp⟩
theorem jki {σ:St} {k:Nat} {b:BS} (h:σ.bx k=b):σ.setB k b=σ:=by
 unfold St.setB
 congr 1
 funext j
 split
 ·rename_i hj;subst hj;exact h.symm
 ·rfl
theorem jor {P:Program} {E:Env} (hT:j22 P E.T) (hR:Rel N np S0 w0 refs σ a w S γ) {rd:Nat→BS} (hrd:RdOk σ rd) {t ty:TypeId} {ti:TyI} (ht:E.T t=some ti)
  {x y l:Leaf} {u:Ups} {vx vy:Value} (h:jng rd ti.ty x y=some (l,u)) (hx:j09 S w γ σ.bx x vx) (hy:j09 S w γ σ.bx y vy) :
  ∃ v w',(Builtin.copy_ #[t,t] ty #[vx,vy]).run P w = .ok v w'∧Rel N np S0 w0 refs (σ.upd u) a w' S γ∧j0o S w' γ (σ.upd u).bx (.one l) v:=by
 unfold jng at h
 split at h
 ·rename_i k i htl
  split at h
  ·rename_i e el xs hk
   split at h
   ·rename_i hty
    split at h
    ·rename_i ys hys
     simp only [j4,j8] at h
     obtain ⟨rfl,rfl⟩:=h
     have hnm:=hrd.nm hk
     have hk:=hrd.live hk
     obtain ⟨hd,hpos,te,hte,htea⟩:=j4A hT ht hty
     have hsz:=j80 hT hte htea
     have hsize:(sizeOf ti.elem).run P w = .ok el.size w:=by rw [j2q hT hte,hsz]
     obtain ⟨ad,c,cy,hvy,hnil,hcy,hcell⟩:=jmx hR hrd hys hy
     subst hvy
     obtain ⟨hi,hcase⟩:=joq hR htl hnm hk hx
     have hcyl:=All2.all_len hcy
     have hyl:cy.length=ys.length:=hcy.length.symm
     have hzl:(List.take (xs.length-i) ys).length=min ys.length (xs.length-i):=by simp;omega
     have hov:over xs i ys=List.take i xs++(List.take (xs.length-i) ys++List.drop (i+(List.take (xs.length-i) ys).length) xs):=by
      unfold over
      congr 2
      rw [hzl]
      by_cases h:ys.length≤xs.length-i
      ·rw [Nat.min_eq_left h]
      ·rw [Nat.min_eq_right (by omega),jg (by omega),jg (by omega)]
     have hload:(Builtin.firstCells el.size (min ys.length (xs.length-i)) (.slice ad ys.length c)).run P w = .ok (List.take (xs.length-i) cy).flatten.toArray w:=by
      cases ad with
      | none=>
       have h0:=(hnil rfl).1
       have:cy=[]:=jl (by omega)
       subst this
       simp [Builtin.firstCells]
      | some b=>
       have e1:(List.take (xs.length-i) cy).flatten.length=min ys.length (xs.length-i)*el.size:=by
        rw [jb8 (m:=el.size) (fun c hc=>hcyl c (ka hc)),kr,hyl,Nat.min_comm]
       have:=run_loadCells_list (P:=P) w b (List.take (xs.length-i) cy).flatten (fun j v hj=>by
        rw [j83 _ hcyl,ke] at hj
        split at hj
        ·exact hcell b rfl j v hj
        ·simp at hj)
       rw [e1] at this
       simpa [Builtin.firstCells] using this
     have hrun:∀ base dl dc w',vx = .slice base dl dc→dl=xs.length-i→(base=none→w'=w)→(∀ ab,base=some ab→(storeCells ab (List.take (xs.length-i) cy).flatten).run P w = .ok () w')→
       (Builtin.copy_ #[t,t] ty #[vx,.slice ad ys.length c]).run P w = .ok (goInt ((min ys.length (xs.length-i):Nat):Int)) w':=by
      intro base dl dc w' hv hdl hb1 hb2
      subst hv hdl
      have hmin:Nat.min ys.length (xs.length-i)=min ys.length (xs.length-i):=rfl
      cases base with
      | none=>simp [Builtin.copy_,run_underlying hd,Builtin.lenOf,hsize,hmin,hload,hb1 rfl]
      | some ab=>simp [Builtin.copy_,run_underlying hd,Builtin.lenOf,hsize,hmin,hload,hb2 ab rfl]
     by_cases hn:min ys.length (xs.length-i)=0
     ·have hz:List.take (xs.length-i) ys=[]:=jl (by rw [hzl];exact hn)
      have hzc:(List.take (xs.length-i) cy).flatten=[]:=by
       have:List.take (xs.length-i) cy=[]:=jl (by rw [kr,hyl];omega)
       rw [this];rfl
      have hov':over xs i ys=xs:=by rw [hov,hz];simp
      refine ⟨_,w,?_,?_,⟨rfl,fun _=>rfl⟩⟩
      ·rcases hcase with ⟨h0,hv⟩ | ⟨g,cap,hg,hcap,hv⟩
       ·exact hrun none 0 0 w hv (by omega) (fun _=>rfl) (fun ab hab=>by simp at hab)
       ·refine hrun _ _ _ w hv rfl (fun _=>rfl) (fun ab hab=> ?_)
        rw [hzc];rfl
      ·show Rel N np S0 w0 refs (σ.setB k (.live (.lst e el (over xs i ys) false))) a w S γ
       rw [hov',jki hk]
       exact hR
     ·rcases hcase with ⟨h0,hv⟩ | ⟨g,cap,hg,hcap,hv⟩
      ·omega
      ·have hci:cap≠i:=by omega
       rw [if_neg hci] at hv
       obtain ⟨w',hst,hRn⟩:=jf7 (P:=P) hR hk hg (i:=i) (hcy.take (xs.length-i)) (by rw [hzl];omega)
       refine ⟨_,w',hrun _ _ _ w' hv rfl (fun h=>by simp at h) (fun ab hab=> ?_),?_,⟨rfl,fun _=>rfl⟩⟩
       ·simp only [j4] at hab;subst hab;exact hst
       ·show Rel N np S0 w0 refs (σ.setB k (.live (.lst e el (over xs i ys) false))) a w' S γ
        rw [hov]
        exact hRn
    ·simp at h
   ·simp at h
  ·simp at h
 ·simp at h
theorem jnt {P:Program} {E:Env} (hT:j22 P E.T) (hR:Rel N np S0 w0 refs σ a w S γ) {rd:Nat→BS} (hrd:RdOk σ rd) {t ty:TypeId} {ti:TyI} (ht:E.T t=some ti)
  {x:Leaf} {u:Ups} {vx:Value} (h:jid rd ti.ty x=some u) (hx:j09 S w γ σ.bx x vx) :
  ∃ v w',(Builtin.clear_ #[t] ty #[vx]).run P w = .ok v w'∧Rel N np S0 w0 refs (σ.upd u) a w' S γ:=by
 unfold jid at h
 split at h
 ·rename_i k i htl
  split at h
  ·rename_i e el xs hk
   split at h
   ·rename_i hty
    simp only [j4] at h
    subst h
    have hnm:=hrd.nm hk
    have hk:=hrd.live hk
    obtain ⟨hd,hpos,te,hte,htea⟩:=j4A hT ht hty
    have hsz:=j80 hT hte htea
    obtain ⟨z,hz,hzc⟩:=jb4 hT hte w htea
    obtain ⟨hi,hcase⟩:=joq hR htl hnm hk hx
    by_cases hn:xs.length-i=0
    ·have hov:List.take i xs++List.replicate (xs.length-i) el.dflt=xs:=by rw [hn];simp [List.take_of_length_le (show xs.length≤i by omega)]
     refine ⟨.tuple #[],w,?_,?_⟩
     ·rcases hcase with ⟨h0,hv⟩ | ⟨g,cap,hg,hcap,hv⟩
      ·simp [Builtin.clear_,run_underlying hd,hv]
      ·rw [hn] at hv
       simp [Builtin.clear_,run_underlying hd,hv]
     ·show Rel N np S0 w0 refs (σ.setB k (.live (.lst e el (List.take i xs++List.replicate (xs.length-i) el.dflt) false))) a w S γ
      rw [hov,jki hk]
      exact hR
    ·rcases hcase with ⟨h0,hv⟩ | ⟨g,cap,hg,hcap,hv⟩
     ·omega
     ·have hci:cap≠i:=by omega
      rw [if_neg hci] at hv
      have hrl:All2 (fun x c=>Rep S w el x c) (List.replicate (xs.length-i) el.dflt) (List.replicate (xs.length-i) (jav el)):=by
       have h0:=j6t (S:=S) (w:=w) el
       have:∀ n,All2 (fun x c=>Rep S w el x c) (List.replicate n el.dflt) (List.replicate n (jav el)):=by
        intro n
        induction n with
        | zero=>exact trivial
        | succ n ih=>exact ⟨h0,ih⟩
       exact this _
      obtain ⟨w',hst,hRn⟩:=jf7 (P:=P) hR hk hg (i:=i) hrl (by simp;omega)
      refine ⟨.tuple #[],w',?_,?_⟩
      ·have hzp:0<z.cells.size:=by
        have:=jek hzc
        omega
       have hcells:(Builtin.zeroCells z.cells (xs.length-i)).toList=(List.replicate (xs.length-i) (jav el)).flatten:=by
        rw [←hzc]
        exact jij z.cells (xs.length-i) hzp
       rw [hv]
       obtain ⟨m,hm⟩:∃ m,xs.length-i=m+1:=⟨xs.length-i-1,by omega⟩
       rw [hm] at hcells hst ⊢
       simp [Builtin.clear_,run_underlying hd,hz,hcells,hst]
      ·show Rel N np S0 w0 refs (σ.setB k (.live (.lst e el (List.take i xs++List.replicate (xs.length-i) el.dflt) false))) a w' S γ
       have:List.drop (i+(List.replicate (xs.length-i) el.dflt).length) xs=[]:=jg (by simp;omega)
       rw [this,qi] at hRn
       exact hRn
   ·simp at h
  ·simp at h
 ·simp at h
theorem jqg {P:Program} {E:Env} (hT:j22 P E.T) (hR:Rel N np S0 w0 refs σ a w S γ) {rd:Nat→BS} (hrd:RdOk σ rd) {t ty:TypeId} {ti:TyI} (ht:E.T t=some ti) {el:Ty} (hty:ti.ty=some (.list el))
  {s x v:Leaf} {u:Ups} {vs vx:Value} (h:appH rd ti.elem el s x=some (true,v,u)) (hs:j09 S w γ σ.bx s vs) (hx:j09 S w γ σ.bx x vx) :
  ∃ z w',(Builtin.append_ #[t,t] ty #[vs,vx]).run P w = .ok z w'∧Rel N np S0 w0 refs (σ.upd u) a w' S γ∧j09 S w' γ (σ.upd u).bx v z∧One z:=by
 unfold appH at h
 split at h
 case h_2=>simp at h
 rename_i k i k' j
 split at h
 case isFalse=>simp at h
 rename_i hkk
 subst hkk
 split at h
 case h_2=>simp at h
 rename_i e b xs hk
 split at h
 case isFalse=>simp at h
 rename_i hb
 obtain ⟨hb,he⟩:=hb
 subst hb
 subst he
 simp only [j4,j8,jk] at h
 obtain ⟨hij,rfl,rfl⟩:=h
 obtain ⟨hd,_,te,hte,htea⟩:=j4A hT ht hty
 have hsz:=j80 hT hte htea
 obtain ⟨inf,d,hi,_,hs2,_⟩:=j4c hT hte
 have hisz:inf.size=b.size:=by rw [hs2,←hsz]
 have hnm:=hrd.nm hk
 have hk:=hrd.live hk
 obtain ⟨_,hin,ad,cap,hg,hvs⟩:=hs.2.2 _ hk
 obtain ⟨_,hjn,ad',cap',hg',hvx⟩:=hx.2.2 _ hk
 rw [hg] at hg'
 simp only [Value.slice.injEq,kf] at hg'
 obtain ⟨rfl,rfl⟩:=hg'
 obtain ⟨css,hown,hall,hS⟩:=jmu hg (hR.box k _ hk)
 have hcl:=All2.all_len hall
 have hlen':(List.take i xs++(List.drop j xs++List.drop (i+(xs.length-j)) xs)).length=xs.length:=by simp;omega
 have hleaf:∀ (w':World),j09 S w' γ (σ.setB k (.live (.lst ti.elem b (List.take i xs++(List.drop j xs++List.drop (i+(xs.length-j)) xs)) false))).bx (.hd k (i+(xs.length-j))) (.slice ad (i+(xs.length-j)) cap):=by
  intro w'
  refine ⟨by rw [j0E];simp,rfl,fun b' hb'=> ?_⟩
  rw [j0E] at hb';cases hb'
  exact ⟨hnm,by rw [hlen'];omega,ad,cap,by rw [hlen'];exact hg,rfl⟩
 rcases hown.2 with ⟨hg2,hn⟩ | ⟨g,cap2,cur,hg2,_,hh,hnc,hcm,hcs,htake⟩
 ·rw [hg] at hg2
  simp only [Value.slice.injEq] at hg2
  obtain ⟨rfl,_,rfl⟩:=hg2
  have hx0:xs=[]:=jl hn
  subst hx0
  have hi0:i=0:=by simpa using hin
  have hj0:j=0:=by simpa using hjn
  subst hi0 hj0
  have hrun:=run_append_owned_none (P:=P) w 0 t ty ti.elem inf b.size hd hi (.slice none 0 0) 0 [] (World.ownsRow_nil w 0 ti.elem b.size)
  have hid:σ.setB k (.live (.lst ti.elem b ([]:List b.den) false))=σ:=by
   show St.mk σ.sl _=σ
   have:(fun j=>if j=k then BS.live (.lst ti.elem b ([]:List b.den) false) else σ.bx j)=σ.bx:=by
    funext j
    by_cases hj:j=k
    ·subst hj;simp [hk]
    ·simp [hj]
   rw [this]
  refine ⟨_,w,by rw [hvs,hvx];exact hrun,?_,hleaf w,rfl⟩
  show Rel N np S0 w0 refs (σ.setB k (.live (.lst ti.elem b ([]:List b.den) false))) a w S γ
  rw [hid];exact hR
 ·rw [hg] at hg2
  simp only [Value.slice.injEq,kf] at hg2
  obtain ⟨rfl,rfl⟩:=hg2
  obtain ⟨w',hst,hRn⟩:=jf7 (P:=P) (i:=i) hR hk hg (hall.drop j) (by simp;omega)
  have hlz:(css.drop j).flatten.length=(xs.length-j)*b.size:=by
   have:=All2.flatten_length (fun x c hx=>Rep.length b x c hx) (hall.drop j)
   simpa using this
  have h1:∀ u∈(css.drop j).flatten,One u:=by
   intro u hu
   obtain ⟨c,hc,huc⟩:=List.mem_flatten.1 hu
   obtain ⟨x,_,hx⟩:=(hall.drop j).mem_right c hc
   exact Rep.one b x c hx u huc
  have hm1:i*b.size+(xs.length-j)*b.size≤xs.length*b.size:=by rw [←Nat.add_mul];exact jv _ (by omega)
  have hm2:xs.length*b.size≤cap*b.size:=jv _ hnc
  have hst2:=run_storeCells_at P g (i*b.size) _ (css.drop j).flatten 0 cur w hh (by rw [hlz,hcs];omega) h1
  simp only [Nat.add_zero] at hst2
  have hw:w'=w.setRow g (cur.toList.take (i*b.size)++(css.drop j).flatten++cur.toList.drop (i*b.size+(css.drop j).flatten.length)).toArray:=by
   have:=hst.symm.trans hst2
   simpa using this
  have hcells:∀ q u,(css.drop j).flatten[q]? = some u→w.cell? ((⟨g,if cap=j then 0 else j*b.size,none⟩:Addr).add q)=some u:=by
   intro q u hq
   have hql:q<(xs.length-j)*b.size:=by rw [←hlz];exact (jh.1 hq).1
   have hc:¬ cap=j:=by
    intro hc
    have:xs.length-j=0:=by omega
    rw [this] at hql;simp at hql
   rw [if_neg hc,Addr.add_lit]
   rw [jc8 j hcl,qq] at hq
   have:=hown.cells (g:=g) (by rw [hg];rfl) _ u hq
   rwa [Addr.add_lit,js] at this
  have hrun:=run_append_room (P:=P) w t ty ti.elem inf hd hi g i cap cur (by exact hh) ⟨g,if cap=j then 0 else j*b.size,none⟩ (xs.length-j) (cap-j) (css.drop j).flatten (by rw [hisz];exact hlz) hcells h1 (by omega)
   (by rw [hisz,hlz,hcs];omega)
  have hvx':vx = .slice (some ⟨g,if cap=j then 0 else j*b.size,none⟩) (xs.length-j) (cap-j):=by
   rw [hvx]
   by_cases hc:cap=j
   ·rw [if_pos hc,if_pos hc]
   ·rw [if_neg hc,if_neg hc];simp [Addr.add_lit]
  refine ⟨_,w',by rw [hvs,hvx',hrun,hw,hisz],?_,hleaf w',rfl⟩
  have:(List.drop j xs).length=xs.length-j:=by simp
  rw [this] at hRn
  exact hRn
theorem jqh {P:Program} {E:Env} (hT:j22 P E.T) (hR:Rel N np S0 w0 refs σ a w S γ) {rd rdf:Nat→BS} (hrd:RdOk σ rd) (hrdf:RdF np σ rdf) {t ty:TypeId} {ti:TyI} (ht:E.T t=some ti) {el:Ty} (hty:ti.ty=some (.list el)) {n:Nat}
  {s x v:Leaf} {u:Ups} {vs vx:Value} (h:appN rd rdf el n s x=some (v,u)) (hs:j09 S w γ σ.bx s vs) (hx:j09 S w γ σ.bx x vx) :
  ∃ z w' γ',(Builtin.append_ #[t,t] ty #[vs,vx]).run P w = .ok z w'∧Rel N np S0 w0 refs (σ.upd u) a w' S γ'∧j09 S w' γ' (σ.upd u).bx v z∧One z:=by
 unfold appN at h
 split at h
 case h_2=>simp at h
 rename_i k
 split at h
 case h_2=>simp at h
 rename_i ls hk
 split at h
 case isFalse=>simp at h
 rename_i hc
 obtain ⟨hln,hfr⟩:=hc
 simp only [j4,j8] at h
 obtain ⟨rfl,rfl⟩:=h
 have hn:=hrd.free hfr
 have hk:=hrdf.ok.live hk
 have hvs:vs = .slice none 0 0:=hs
 subst hvs
 obtain ⟨g,cap,hg,rfl,hc1,hc2⟩:=hx.2.2 _ hk
 obtain ⟨g',cur,e,hg',hh,hcur,h1,hS,_⟩:=hR.box k _ hk
 rw [hg] at hg';simp at hg';subst hg'
 have hnk:n≠k:=by rintro rfl;rw [hn] at hk;simp at hk
 have hlen:(cur.toList.take ls.length).length=el.size:=by rw [←hcur.length,hln]
 obtain ⟨v',w',hr,hrow,os,tape,output,hsz,hcase⟩:=jii (ty:=ty) hT ht hty (World.ownsRow_nil w 0 ti.elem el.size) (ad:=some ⟨g,0,none⟩) (m:=1) (c:=cap) (news:=cur.toList.take ls.length) (by simp) (by rw [hlen];omega)
  (fun b hb j u hu=>by
   simp at hb;subst hb
   rw [Addr.add_lit,js,cell_of_row w g j cur e (0,0) hh]
   rw [ke] at hu
   split at hu
   ·simpa using hu
   ·simp at hu) h1 (by simp [j0m])
 rw [jw] at hrow
 rcases hrow.2 with ⟨_,hz⟩ | ⟨g2,cap2,cur2,rfl,_,hh2,hle2,hcm2,hcs2,htake2⟩
 ·simp at hz
 have hcase:g2=w.heap.size∧∀ g,g<w.heap.size→w'.heap[g]? = w.heap[g]? := by
  rcases hcase with ⟨h2,_⟩ | ⟨_,⟨g3,h3⟩,_⟩ | ⟨h2,h3⟩
  ·simp at h2
  ·simp [blk] at h3
  ·exact ⟨by simpa [blk] using h2,h3⟩
 obtain ⟨rfl,hold⟩:=hcase
 have hst:j3p S w S w':=fun g o h=>⟨h,World.cell?_of_block (hold g (hR.here g o h))⟩
 have hle:BxLe γ σ.bx (gset γ n (.pointer (some ⟨w.heap.size,0,none⟩))) ((σ.setB k .gone).setB n (.live (.cell ls false))).bx:=by
  intro k' hk'
  have hne:k'≠n:=by rintro rfl;exact hk' hn
  rw [j05 _ _ hne,j0u γ _ hne]
  by_cases hkk:k'=k
  ·subst hkk;rw [j0E];exact ⟨by simp,rfl,fun b hb=>by simp at hb⟩
  ·rw [j05 _ _ hkk];exact ⟨hk',rfl,fun b hb=>⟨b,hb,.refl b⟩⟩
 have hcase2:∀ k' b,((σ.setB k .gone).setB n (.live (.cell ls false))).bx k' = .live b→(k'=n∧b = .cell ls false)∨(k'≠n∧σ.bx k' = .live b):=by
  intro k' b hb
  by_cases hne:k'=n
  ·subst hne;rw [j0E] at hb;simp at hb;exact .inl ⟨rfl,hb.symm⟩
  ·rw [j05 _ _ hne] at hb
   by_cases hkk:k'=k
   ·subst hkk;rw [j0E] at hb;simp at hb
   ·rw [j05 _ _ hkk] at hb;exact .inr ⟨hne,hb⟩
 refine ⟨_,w',gset γ n (.pointer (some ⟨w.heap.size,0,none⟩)),hr,?_,?_,rfl⟩
 ·refine Rel.step (bx':=((σ.setB k .gone).setB n (.live (.cell ls false))).bx) hR hst hle ?_ ?_ ?_ hR.new ?_ ?_ (qr hR.grow hsz) (os.trans hR.os) (tape.trans hR.tape) (output.trans hR.output) (fun g hg _ h=>⟨hold g hg,fun k' b hb hbk=> ?_⟩)
  ·intro k' b hb
   rcases hcase2 k' b hb with ⟨rfl,rfl⟩ | ⟨hne,hb⟩
   ·refine ⟨w.heap.size,cur2,_,j0z _ _ _,hh2,?_,?_,fun _ o=>jc6 hR o,by simp⟩
    ·have:cur2.toList.take ls.length=cur.toList.take ls.length:=by rw [←htake2,hln];congr 1;omega
     rw [this]
     exact hcur.mono fun x u hx=>j09.keep hst hle hx
    ·have:cur2.toList.take ls.length=cur.toList.take ls.length:=by rw [←htake2,hln];congr 1;omega
     rw [this];exact h1
   ·exact j2c.keep hst hle (j0u γ _ hne) (fun g hg=>⟨hold g (j4B (hR.box k' b hb) hg),fun _=>Iff.rfl⟩) (hR.box k' b hb)
  ·intro k' b g hb hg
   rcases hcase2 k' b hb with ⟨rfl,rfl⟩ | ⟨hne,hb⟩
   ·rw [j0z] at hg;simp [blk] at hg;subst hg;exact .inl hR.grow
   ·rw [j0u γ _ hne] at hg;exact hR.own k' b g hb hg
  ·intro k1 k2 b1 b2 g hne h1 h2 hg1 hg2
   rcases hcase2 k1 b1 h1 with ⟨q1,_⟩ | ⟨hn1,q1⟩
   ·rw [q1,j0z] at hg1;simp [blk] at hg1;subst hg1
    rcases hcase2 k2 b2 h2 with ⟨q2,_⟩ | ⟨hn2,q2⟩
    ·exact hne (q1.trans q2.symm)
    ·rw [j0u γ _ hn2] at hg2
     have:=j4B (hR.box k2 b2 q2) hg2;omega
   ·rw [j0u γ _ hn1] at hg1
    rcases hcase2 k2 b2 h2 with ⟨q2,_⟩ | ⟨hn2,q2⟩
    ·rw [q2,j0z] at hg2;simp [blk] at hg2;subst hg2
     have:=j4B (hR.box k1 b1 q1) hg1;omega
    ·rw [j0u γ _ hn2] at hg2
     exact hR.apart k1 k2 b1 b2 g hne q1 q2 hg1 hg2
  ·intro g o hs;exact kq (hR.here g o hs) hsz
  ·intro g hg hr';rw [hold g (kq hg hR.grow)];exact hR.below g hg hr'
  ·rcases hcase2 k' b hb with ⟨rfl,rfl⟩ | ⟨hne,hb⟩
   ·rw [j0z] at hbk;simp [blk] at hbk;omega
   ·rw [j0u γ _ hne] at hbk;exact h k' b hb hbk
 ·refine ⟨by show ((σ.setB k .gone).setB n (.live (.cell ls false))).bx n≠_;rw [j0E];simp,rfl,fun b hb=> ?_⟩
  have hb:((σ.setB k .gone).setB n (.live (.cell ls false))).bx n = .live b:=hb
  rw [j0E] at hb;cases hb
  exact ⟨w.heap.size,cap2,j0z _ _ _,rfl,by omega,hcm2⟩
theorem jqi (hR:Rel N np S0 w0 refs σ a w S γ) {k d e m:Nat} {el:Ty} {xs:List el.den} (hk:σ.bx k = .live (.lst e el xs false)) (hkp:parK np k=false) (hdf:σ.bx d = .free) {ad:Option Addr} {cap:Nat} (hm:m≤xs.length)
  (hg:γ k = .slice ad xs.length cap) :
  ∃ γ',Rel N np S0 w0 refs (σ.upd [(k,.gone),(d,.live (.lst e el (List.take m xs) false))]) a w S γ'∧j0o S w γ' (σ.upd [(k,.gone),(d,.live (.lst e el (List.take m xs) false))]).bx (.one (.ol d)) (.slice ad m cap):=by
 have hdk:d≠k:=by rintro rfl;rw [hdf] at hk;simp at hk
 have hnm:=jsz hg (hR.box k _ hk)
 obtain ⟨css,hown,hall,hS⟩:=j5j hnm (hR.box k _ hk)
 have hcl:=All2.all_len hall
 have hR1:=jg6 hR hk
 have hd1:(σ.setB k .gone).bx d = .free:=by rw [j05 σ _ hdk];exact hdf
 have hlt:(List.take m xs).length=m:=by simp;omega
 have hblk:blk (.slice ad m cap)=blk (γ k):=by rw [hg];cases ad<;>rfl
 have hrow:w.ownsRow 0 e el.size (.slice ad m cap) (List.take m xs).length (List.take m css).flatten:=by
  refine ⟨?_,?_⟩
  ·rw [j83 _ hcl,kr,hown.1,hlt]
   exact Nat.min_eq_left (jv _ hm)
  ·rcases hown.2 with ⟨hg',hn⟩ | ⟨g,cap',cur,hg',_,hh,hnc,hcm,hcs,htake⟩
   ·rw [hg] at hg'
    simp only [Value.slice.injEq] at hg'
    obtain ⟨rfl,_,rfl⟩:=hg'
    exact .inl ⟨by rw [show m=0 by omega],by omega⟩
   ·rw [hg] at hg'
    simp only [Value.slice.injEq,kf] at hg'
    obtain ⟨rfl,rfl⟩:=hg'
    refine .inr ⟨g,cap,cur,by rw [hlt],k7 _,hh,by omega,hcm,hcs,?_⟩
    rw [hlt,j83 _ hcl,←htake,List.take_take,Nat.min_eq_left (jv _ hm)]
 have hfacts:∀ g,blk (.slice ad m cap)=some g→w0.heap.size≤g∧(∀ k' b,(σ.setB k .gone).bx k' = .live b→blk (γ k')≠some g)∧g<w.heap.size:=by
  intro g hg
  rw [hblk] at hg
  refine ⟨?_,fun k' b' hb' hg'=> ?_,j4B (hR.box k _ hk) hg⟩
  ·rcases hR.own k _ g hk hg with h | h
   ·exact h
   ·rw [hkp] at h;simp at h
  ·have hkk:k'≠k:=by rintro rfl;rw [j0E] at hb';simp at hb'
   rw [j05 σ _ hkk] at hb'
   exact hR.apart k' k _ _ g hkk hb' hk hg' hg
 obtain ⟨hRn,hcn⟩:=jg7 hR1 hd1 (hm:=hnm) (w':=w) (S':=S) (v':= .slice ad m cap) (e:=e) (el:=el) (zs:=List.take m xs) (frz:=false) (css:=List.take m css) (.refl S w) (fun g hg hne=>rfl) (ju _) hfacts
  (fun g o hs=> .inl hs) rfl rfl rfl hrow (hall.take _) (fun g hg=>⟨fun _=>(hS g (by rw [←hblk];exact hg)).1 rfl,by simp⟩) (fun g hg=>hR.kw_live hk (by rw [←hblk];exact hg))
 exact ⟨_,hRn,hcn⟩
end
section
variable {N:NT} {np:Nat} {S0:j0c} {w0:World} {refs:Refs} {σ:St} {a:Go.Act} {w:World} {S:j0c} {γ:Nat→Value}
theorem jos {el:Ty} {z:Value} (hz:z.cells.toList=jav el) (n:Nat) (hpos:0<el.size) :
  ∃ css,All2 (fun x c=>Rep S w el x c) (List.replicate n el.dflt) css∧((Array.range (n*z.cells.size)).map (fun i=>z.cells[i%z.cells.size]!)).toList=css.flatten:=by
 refine ⟨List.replicate n (jav el),?_,?_⟩
 ·have hz:=j6t (S:=S) (w:=w) el
  induction n with
  | zero=>exact trivial
  | succ n ih=>exact ⟨hz,ih⟩
 ·rw [jij z.cells n (by rw [jek hz];exact hpos),hz]
theorem jhK {P:Program} {E:Env} (hT:j22 P E.T) (hR:Rel N np S0 w0 refs σ a w S γ) {rdf:Nat→BS} (hrdf:RdF np σ rdf) {t:TypeId} {ti:TyI} (ht:E.T t=some ti)
  {el:Ty} (hty:ti.ty=some (.list el)) {len d:Nat} {ps:List (Nat×Cel)} {vs:Array (Nat×Value)} {xs:List el.den} {u:Ups} (hlen:len*el.size≤16777216)
  (hps:All2 (fun p v=>p.1=v.1∧j0o S w γ σ.bx p.2 v.2) ps vs.toList) (h:j6H rdf el (List.replicate len el.dflt) [] ps=some (xs,u)) (hd:σ.bx d = .free) :
  ∃ v' w' S' γ',(Instr.buildSlice t len vs).run P w = .ok v' w'∧Rel N np S0 w0 refs (σ.upd (u++[(d,.live (.lst ti.elem el xs false))])) a w' S' γ'∧
   j0o S' w' γ' (σ.upd (u++[(d,.live (.lst ti.elem el xs false))])).bx (.one (.ol d)) v':=by
 obtain ⟨hdd,hpos,te,hte,htea⟩:=j4A hT ht hty
 have hsz:=j80 hT hte htea
 obtain ⟨hf,hrest⟩:=jf6 hrdf hR.box hpos ps vs.toList hps h .nil
 obtain ⟨S1,hR1,hst1,hfz,hsame⟩:=j2Y u σ S hR hf
 obtain ⟨z,hz,hzc⟩:=jb4 hT hte w htea
 have hzs:z.cells.size=el.size:=jek hzc
 obtain ⟨css0,hall0,hc0⟩:=jos (S:=S1) (w:=w) hzc len hpos
 obtain ⟨cells',css',hfill,hall,hcells⟩:=hrest S1 hst1 hfz css0 _ hall0 hc0
 have hxl:xs.length=len:=by
  have key:∀ (ps:List (Nat×Cel)) {xs xs':List el.den} {u u':Ups},j6H rdf el xs u ps=some (xs',u')→xs'.length=xs.length:=by
   intro ps
   induction ps with
   | nil=>intro xs xs' u u' h;simp [j6H] at h;rw [h.1]
   | cons p ps ih=>
    intro xs xs' u u' h
    obtain ⟨i,c⟩:=p
    simp only [j6H] at h
    split at h
    ·split at h
     ·rw [ih h];simp
     ·simp at h
    ·simp at h
  rw [key ps h];simp
 have hcs:cells'.size=len*el.size:=by
  have:=All2.flatten_length (fun x c hx=>Rep.length el x c hx) hall
  rw [←hcells,hxl] at this
  simpa using this
 have hzero:(if len*ti.size=0 then (Pure.pure #[]:Sem (Array Value)) else (do pure (←zeroValue ti.elem).cells))=(if len*ti.size=0 then Pure.pure #[] else (do pure (←zeroValue ti.elem).cells)):=rfl
 have hrun:(Instr.buildSlice t len vs).run P w = .ok (.slice (some ⟨w.heap.size,0,none⟩) len len) (w.alloc (.cells cells' ti.elem)):=by
  have hno:¬ len*te.size>2^24:=by rw [←hsz];omega
  simp only [Instr.buildSlice,Sem.run_bind,run_underlying hdd,Result.andThen_ok,j2q hT hte,Sem.run_ite,if_neg hno]
  by_cases h0:len*te.size=0
  ·have hl0:len=0:=by
    rw [←hsz] at h0
    rcases Nat.mul_eq_zero.1 h0 with h | h
    ·exact h
    ·omega
   subst hl0
   have hfill0:Instr.fill (fun i=>some (i*te.size,te.size)) ((Array.range (0*te.size)).map (fun i=>(#[]:Array Value)[i%(#[]:Array Value).size]!)) vs.toList=some cells':=by
    rw [←hsz]
    have:((Array.range (0*el.size)).map (fun i=>(#[]:Array Value)[i%(#[]:Array Value).size]!))=((Array.range (0*z.cells.size)).map (fun i=>z.cells[i%z.cells.size]!)):=by
     apply kb;simp
    rw [this];exact hfill
   rw [Nat.zero_mul] at hfill0
   simp only [h0,if_true,Sem.run_pure,Result.andThen_ok,hfill0,Sem.run_bind,newRow,run_newObj,World.alloc_eq]
  ·have hfill1:Instr.fill (fun i=>some (i*te.size,te.size)) ((Array.range (len*te.size)).map (fun i=>z.cells[i%z.cells.size]!)) vs.toList=some cells':=by
    rw [←hsz]
    rw [hzs] at hfill ⊢
    exact hfill
   simp only [h0,qa,Sem.run_bind,hz,Sem.run_pure,Result.andThen_ok,hfill1,newRow,run_newObj,World.alloc_eq]
 rw [j4h]
 have hst:=j7y hR1 (.cells cells' ti.elem)
 obtain ⟨hRn,hcn⟩:=jg7 hR1 (hsame.free hd) (hm:=jiS hT ht) (w':=w.alloc (.cells cells' ti.elem)) (S':=S1) (v':= .slice (some ⟨w.heap.size,0,none⟩) len len) (e:=ti.elem) (el:=el) (zs:=xs) (frz:=false) (css:=css')
  hst (fun g hg _=>heap_alloc_old w _ hg) (by simp) (fun g hg=>by
   simp [blk] at hg;subst hg
   exact ⟨hR.grow,fun k b hk hg'=>by have:=j4B (hR1.box k b hk) hg';omega,by simp⟩) (fun g o hs=> .inl hs) rfl rfl rfl
  (by
   rw [hxl,←hcells]
   have hle:len≤maxLen:=by
    have:len*1≤len*el.size:=Nat.mul_le_mul_left _ hpos
    simp only [maxLen];omega
   exact World.ownsRow_lit w cells' len (k7 _) hle hcs) (hall.mono (fun x c hx=>Rep.keep hst _ _ _ hx)) (fun g hg=>by
   simp [blk] at hg;subst hg
   exact ⟨fun _ o=>jc6 hR1 o,by simp⟩) (fun g hg=>by simp [blk] at hg;subst hg;exact hR1.kw_new (ju _))
 exact ⟨_,_,S1,_,hrun,hRn,hcn⟩
theorem jqj {P:Program} {E:Env} (hT:j22 P E.T) (hR:Rel N np S0 w0 refs σ a w S γ) {t:TypeId} {ti:TyI} (ht:E.T t=some ti)
  {el:Ty} (hty:ti.ty=some (.list el)) {n len:Nat} {fr:Bool} {ps:List (Nat×Cel)} {vs:Array (Nat×Value)} {b:Bool} {s:Slot} {u:Ups} (hn:fr=true→σ.bx n = .free)
  (hps:All2 (fun p v=>p.1=v.1∧j0o S w γ σ.bx p.2 v.2) ps vs.toList) (h:one1 fr el n len ps=some (.val b s u)) :
  b=true∧s = .one (.one (.s1 n))∧∃ v' w' γ',(Instr.buildSlice t len vs).run P w = .ok v' w'∧Rel N np S0 w0 refs (σ.upd u) a w' S γ'∧j0o S w' γ' (σ.upd u).bx (.one (.s1 n)) v':=by
 unfold one1 at h
 split at h
 case h_2=>simp at h
 rename_i c
 split at h
 case h_2=>simp at h
 rename_i ls hls
 split at h
 case isFalse=>simp at h
 rename_i hc
 obtain ⟨rfl,hln,hmax,hfr⟩:=hc
 simp only [j4,Act.val.injEq] at h
 obtain ⟨rfl,rfl,rfl⟩:=h
 refine ⟨rfl,rfl,?_⟩
 obtain ⟨⟨j,z⟩,hvs⟩:∃ p,vs.toList=[p]:=by
  match hv:vs.toList,hps with
  | [p],_=>exact ⟨p,rfl⟩
 rw [hvs] at hps
 obtain ⟨⟨hj,hcz⟩,_⟩:=hps
 simp only at hj hcz
 subst hj
 obtain ⟨ha,h1⟩:=j93 hls hcz
 have hzl:z.cells.toList.length=el.size:=by rw [←ha.length,hln]
 have hzs:z.cells.size=el.size:=by simpa using hzl
 obtain ⟨hdd,hpos,te,hte,htea⟩:=j4A hT ht hty
 have hsz:=j80 hT hte htea
 obtain ⟨z0,hz0,hzc⟩:=jb4 hT hte w htea
 have hz0s:z0.cells.size=el.size:=jek hzc
 have hfill:Instr.fill (fun i=>some (i*te.size,te.size)) ((Array.range (1*te.size)).map (fun i=>z0.cells[i%z0.cells.size]!)) vs.toList=some z.cells:=by
  have hfo:=jiU ((Array.range (1*te.size)).map (fun i=>z0.cells[i%z0.cells.size]!)) 0 z.cells (by simp;omega)
  rw [hvs]
  simp only [Instr.fill]
  rw [if_neg (by simp;omega)]
  congr 1
  apply kb
  rw [Nat.zero_mul,hfo]
  simp only [List.take_zero,jw]
  rw [jg (by simp;omega),qi]
 have hrun:(Instr.buildSlice t 1 vs).run P w = .ok (.slice (some ⟨w.heap.size,0,none⟩) 1 1) (w.alloc (.cells z.cells ti.elem)):=by
  have hno:¬ 1*te.size>2^24:=by rw [←hsz];omega
  have h0:¬ 1*te.size=0:=by omega
  simp only [Instr.buildSlice,Sem.run_bind,run_underlying hdd,Result.andThen_ok,j2q hT hte,Sem.run_ite,if_neg hno]
  simp only [h0,qa,Sem.run_bind,hz0,Sem.run_pure,Result.andThen_ok,hfill,newRow,run_newObj,World.alloc_eq]
 obtain ⟨hRn,hcn⟩:=jg5 hR (hn hfr) (ls:=ls) (cur:=z.cells) (e:=ti.elem) ha h1
 refine ⟨_,_,_,hrun,hRn,⟨by show (σ.setB n _).bx n≠_;rw [j0E];simp,rfl,fun b' hb'=> ?_⟩,fun _=>rfl⟩
 have hb':(σ.setB n (.live (.cell ls false))).bx n = .live b':=hb'
 rw [j0E] at hb';cases hb'
 exact ⟨w.heap.size,1,j0z _ _ _,rfl,ju _,by simp [maxLen]⟩
theorem jdl {rd:Nat→BS} (hrd:RdF np σ rd):∀ {ls:List Leaf} {xs:List TV} {u:Ups} {zs:List Value},tvs rd ls=some (xs,u)→All2 (j09 S w γ σ.bx) ls zs→
  FrzL np σ.bx u∧∀ S' w',j3p S w S' w'→Froz σ.bx γ S' w' u→All2 (fun x z=>Rep S' w' x.t x.v [z]) xs zs
 | [],xs,u,zs,h,ha=>by
  simp [tvs] at h
  obtain ⟨rfl,rfl⟩:=h
  cases zs with
  | nil=>exact ⟨.nil,fun _ _ _ _=>trivial⟩
  | cons _ _=>exact ha.elim
 | l::ls,xs,u,zs,h,ha=>by
  cases zs with
  | nil=>exact ha.elim
  | cons z zs=>
   simp only [tvs] at h
   split at h
   ·rename_i xs1 u1 h1
    obtain ⟨f1,p1⟩:=jdl hrd h1 ha.2
    split at h
    ·rename_i t v
     simp only [j4,j8] at h
     obtain ⟨rfl,rfl⟩:=h
     exact ⟨f1,fun S' w' hk hf=>⟨Rep.keep hk _ _ _ ha.1,p1 S' w' hk hf⟩⟩
    ·rename_i k
     split at h
     ·rename_i e t es f hk
      simp only [j4,j8] at h
      obtain ⟨rfl,rfl⟩:=h
      have hk':=hrd.ok.live hk
      refine ⟨fun x hx=> ?_,fun S' w' hst hf=>⟨?_,p1 S' w' hst (fun x hx=>hf x (List.mem_cons_of_mem _ hx))⟩⟩
      ·rcases je.1 hx with rfl | hx
       ·exact ⟨hrd.par hk,e,t,es,f,hk',rfl,hrd.ok.nm hk⟩
       ·exact f1 x hx
      ·have:=hf (k,_) (List.mem_cons_self ..) e t es f hk'
       rw [ha.1.2.2 _ hk']
       exact this
     ·simp at h
    ·simp at h
   ·simp at h
theorem jgz (hR:Rel N np S0 w0 refs σ a w S γ) {k:Nat} {ls:List Leaf} {f:Bool} (hk:σ.bx k = .live (.cell ls f)) (hp:parK np k=false) {xs:List TV}
  (hx:∀ g cur e,γ k = .pointer (some ⟨g,0,none⟩)→w.heap[g]? = some (.cells cur e (0,0))→All2 (j09 S w γ σ.bx) ls (cur.toList.take ls.length)→All2 (fun x z=>Rep S w x.t x.v [z]) xs (cur.toList.take ls.length)) :
  ∃ S' g,Rel N np S0 w0 refs (σ.setB k (.live (.cell (xs.map TV.leaf) true))) a w S' γ∧j3p S w S' w∧γ k = .pointer (some ⟨g,0,none⟩)∧j6o S' w (.p xs) (.pointer (some ⟨g,0,none⟩)):=by
 obtain ⟨g,cur,e,hg,hh,hcur,h1,hS1,hS2⟩:=hR.box k _ hk
 have hxs:=hx g cur e hg hh hcur
 let S':j0c:=fun g' o=>S g' o∨(g'=g∧o<cur.size)
 have hst:j3p S w S' w:=fun g o h=>⟨.inl h,rfl⟩
 have hle:BxLe γ σ.bx γ (σ.setB k (.live (.cell (xs.map TV.leaf) true))).bx:=by
  intro k' hk'
  by_cases hkk:k'=k
  ·subst hkk;rw [j0E];exact ⟨by simp,rfl,fun b hb=>by simp at hb;subst hb;exact ⟨_,hk,trivial⟩⟩
  ·rw [j05 σ _ hkk];exact ⟨hk',rfl,fun b hb=>⟨b,hb,.refl b⟩⟩
 have live':∀ k' b,(σ.setB k (.live (.cell (xs.map TV.leaf) true))).bx k' = .live b→∃ b',σ.bx k' = .live b':=by
  intro k' b hb
  by_cases hkk:k'=k
  ·subst hkk;exact ⟨_,hk⟩
  ·rw [j05 σ _ hkk] at hb;exact ⟨b,hb⟩
 refine ⟨S',g,Rel.step (bx':=(σ.setB k (.live (.cell (xs.map TV.leaf) true))).bx) hR hst hle ?_ ?_ ?_ ?_ ?_ hR.below hR.grow hR.os hR.tape hR.output (fun g _ _ h=>⟨rfl,fun k' b' hb'=>by obtain ⟨b2,hb2⟩:=live' k' b' hb';exact h k' b2 hb2⟩),hst,hg,?_⟩
 ·intro k' b hb
  by_cases hkk:k'=k
  ·subst hkk
   rw [j0E] at hb;simp at hb;subst hb
   have hl:=jg4 hcur hxs
   exact ⟨g,cur,e,hg,hh,by rw [qj,hl];exact j6S (hxs.mono (fun x z hz=>Rep.keep hst _ _ _ hz)),by rw [qj,hl];exact h1,by simp,fun _ o ho=> .inr ⟨rfl,ho⟩⟩
  ·rw [j05 σ _ hkk] at hb
   refine j2c.keep hst hle rfl (fun g' hg'=>⟨rfl,fun o=>⟨fun hs=> ?_,.inl⟩⟩) (hR.box k' b hb)
   rcases hs with hs | hs
   ·exact hs
   ·exact absurd (by rw [hg,hs.1];rfl) (hR.apart k' k b _ g' hkk hb hk hg')
 ·intro k' b g' hb hg'
  obtain ⟨b',hb'⟩:=live' k' b hb
  exact hR.own k' b' g' hb' hg'
 ·intro k1 k2 b1 b2 g' hne h1 h2 hg'
  obtain ⟨b1',h1'⟩:=live' k1 b1 h1
  obtain ⟨b2',h2'⟩:=live' k2 b2 h2
  exact hR.apart k1 k2 b1' b2' g' hne h1' h2' hg'
 ·intro g' o hs
  rcases hs with hs | hs
  ·exact hR.new g' o hs
  ·rcases hR.own k _ g hk (by rw [hg];rfl) with h | h
   ·exact .inr (by omega)
   ·rw [hp] at h;simp at h
 ·intro g' o hs
  rcases hs with hs | hs
  ·exact hR.here g' o hs
  ·rw [hs.1];exact (jc.1 hh).1
 ·refine ⟨g,0,cur.toList.take ls.length,rfl,hxs.mono (fun x z hz=>Rep.keep hst _ _ _ hz),fun j v hv=> ?_⟩
  have hv:cur.toList[j]? = some v:=by
   rw [ke] at hv
   split at hv
   ·exact hv
   ·simp at hv
  have hj:j<cur.size:=by simpa using (jh.1 hv).1
  rw [js]
  refine ⟨.inr ⟨rfl,hj⟩,?_⟩
  rw [cell_of_row w g j cur e (0,0) hh]
  simpa using hv
theorem jkj {rd:Nat→BS} (hrd:RdF np σ rd):∀ {cs:List Cel} {l:List Cap} {u:Ups} {zs:List Value},jk2 rd cs=some (l,u)→Rel N np S0 w0 refs σ a w S γ→All2 (j0o S w γ σ.bx) cs zs→
  ∃ S',Rel N np S0 w0 refs (σ.upd u) a w S' γ∧j3p S w S' w∧All2 (j6o S' w) l zs∧(∀ k e t xs f,σ.bx k = .live (.lst e t xs f)→∃ f',(σ.upd u).bx k = .live (.lst e t xs f'))∧BxLe γ σ.bx γ (σ.upd u).bx∧∀ k,σ.bx k = .free→(σ.upd u).bx k = .free
 | [],l,u,zs,h,hR,ha=>by
  simp [jk2] at h
  obtain ⟨rfl,rfl⟩:=h
  cases zs with
  | nil=>exact ⟨S,hR,.refl S w,trivial,fun k e t xs f h=>⟨f,h⟩,.refl _ _,fun _ h=>h⟩
  | cons _ _=>exact ha.elim
 | c::r,l,u,zs,h,hR,ha=>by
  cases zs with
  | nil=>exact ha.elim
  | cons z zs=>
   simp only [jk2] at h
   split at h
   ·rename_i l1 u1 h1
    obtain ⟨S1,hR1,hst1,hc1,hl1,hle1,hfr1⟩:=jkj hrd h1 hR ha.2
    split at h
    ·rename_i t v
     split at h
     ·rename_i hlf
      simp only [j4,j8] at h
      obtain ⟨rfl,rfl⟩:=h
      exact ⟨S1,hR1,hst1,⟨⟨hlf,Rep.keep hst1 _ _ _ ha.1.1⟩,hc1⟩,hl1,hle1,hfr1⟩
     ·simp at h
    ·rename_i k
     split at h
     ·rename_i ls f hk
      split at h
      ·rename_i xs u2 h2
       split at h
       ·simp at h
       ·rename_i hany
        simp only [j4,j8] at h
        obtain ⟨rfl,rfl⟩:=h
        have hkp:=hrd.par hk
        have hk:=hrd.ok.live hk
        have hany:(u1++u2).any (fun y=>y.1==k)=false:=qb.2 hany
        rw [List.any_append,Bool.or_eq_false_iff] at hany
        obtain ⟨g,cur,e,hg,hh,hcur,_⟩:=hR.box k _ hk
        obtain ⟨hf2,hp2⟩:=jdl hrd h2 hcur
        have hf2':FrzL np (σ.upd u1).bx u2:=by
         intro x hx
         obtain ⟨hpp,e',t',xs',f',hb',hx'⟩:=hf2 x hx
         obtain ⟨f2,h2⟩:=hl1 _ e' t' xs' f' hb'
         exact ⟨hpp,e',t',xs',f2,h2,hx'⟩
        obtain ⟨S2,hR2,hst2,hfz2,hsame2⟩:=j2Y u2 (σ.upd u1) S1 hR1 hf2'
        have hfz2':Froz σ.bx γ S2 w u2:=by
         intro x hx e' t' xs' f' hb'
         obtain ⟨f2,h2⟩:=hl1 _ e' t' xs' f' hb'
         exact hfz2 x hx e' t' xs' f2 h2
        have hk2:((σ.upd u1).upd u2).bx k = .live (.cell ls f):=by
         rw [j2s u2 _ hany.2,j2s u1 _ hany.1,hk]
        obtain ⟨S3,g3,hR3,hst3,hg3,hcap⟩:=jgz hR2 hk2 hkp (xs:=xs) (fun g' cur' e' hg' hh' _=>by
         rw [hg] at hg';simp at hg';subst hg'
         rw [hh] at hh';simp at hh';obtain ⟨rfl,_⟩:=hh'
         exact hp2 S2 w (hst1.trans hst2) hfz2')
        have hz:z=γ k:=by
         obtain ⟨g4,h4,h5⟩:=ha.1.1.2.2 _ hk
         rw [h5,h4]
        rw [j4h,j4h]
        refine ⟨S3,hR3,(hst1.trans hst2).trans hst3,⟨by rw [hz,hg3];exact hcap,hc1.mono (fun x z hx=>j6o.keep (hst2.trans hst3) hx)⟩,fun k' e' t' xs' f' hb'=> ?_,?_,fun k' hk'=> ?_⟩
        ·obtain ⟨f2,h2⟩:=hl1 _ e' t' xs' f' hb'
         obtain ⟨f3,h3⟩:=hsame2.lst h2
         have hkk:k'≠k:=by rintro rfl;rw [hk2] at h3;simp at h3
         exact ⟨f3,by show (((σ.upd u1).upd u2).setB k _).bx k'=_;rw [j05 _ _ hkk];exact h3⟩
        ·have hle2:BxLe γ (σ.upd u1).bx γ ((σ.upd u1).upd u2).bx:=hsame2.le
         have hle3:BxLe γ ((σ.upd u1).upd u2).bx γ ((((σ.upd u1).upd u2)).setB k (.live (.cell (xs.map TV.leaf) true))).bx:=by
          intro k' hk'
          by_cases hkk:k'=k
          ·subst hkk;rw [j0E];exact ⟨by simp,rfl,fun b hb=>by simp at hb;subst hb;exact ⟨_,hk2,trivial⟩⟩
          ·rw [j05 _ _ hkk];exact ⟨hk',rfl,fun b hb=>⟨b,hb,.refl b⟩⟩
         have tr:∀ {b1 b2 b3:Nat→BS},BxLe γ b1 γ b2→BxLe γ b2 γ b3→BxLe γ b1 γ b3:=by
          intro b1 b2 b3 h12 h23 k' hk'
          obtain ⟨q1,q2,q3⟩:=h12 k' hk'
          obtain ⟨r1,r2,r3⟩:=h23 k' q1
          refine ⟨r1,rfl,fun b hb=> ?_⟩
          obtain ⟨b',hb',hs'⟩:=r3 b hb
          obtain ⟨b'',hb'',hs''⟩:=q3 b' hb'
          refine ⟨b'',hb'',?_⟩
          exact hs''.trans hs'
         exact tr (tr hle1 hle2) hle3
        ·have h3:=hsame2.free (hfr1 k' hk')
         have hkk:k'≠k:=by rintro rfl;rw [hk] at hk';simp at hk'
         show (((σ.upd u1).upd u2).setB k _).bx k'=_
         rw [j05 _ _ hkk];exact h3
      ·simp at h
     ·simp at h
    ·simp at h
   ·simp at h
theorem jgA:∀ {cs:List Cel} {ks:List Nat} {zs:List Value},jgm cs=some ks→All2 (j0o S w γ σ.bx) cs zs→All2 (joc γ σ.bx) ks zs
 | [],ks,zs,h,ha=>by
  simp [jgm] at h
  subst h
  cases zs with
  | nil=>trivial
  | cons _ _=>exact ha.elim
 | c::r,ks,zs,h,ha=>by
  cases zs with
  | nil=>exact ha.elim
  | cons z zs=>
   unfold jgm at h
   split at h
   ·rename_i h0;simp at h0
   ·rename_i k r' h0
    simp only [List.cons.injEq] at h0
    obtain ⟨rfl,rfl⟩:=h0
    split at h
    ·rename_i ks' hk
     simp only [j4] at h
     subst h
     obtain ⟨⟨h1,h2,h3⟩,_⟩:=ha.1
     exact ⟨⟨h1,h2,h3⟩,jgA hk ha.2⟩
    ·simp at h
   ·simp at h
theorem jot:∀ {ks:List Nat} {zs:List Value},All2 (joc γ σ.bx) ks zs→All2 (j0o S w γ σ.bx) (ks.map fun k=> .one (.bp k 0)) zs
 | [],[],_=>trivial
 | k::ks,z::zs,h=>⟨⟨h.1,fun _=>h.1.2.1⟩,jot h.2⟩
 | [],_::_,h=>h.elim
 | _::_,[],h=>h.elim
end
section
variable (S:j0c) (w:World)
def jkk (ls:List TV) (u:Value):Prop:=
 ∃ g cur e,u = .pointer (some ⟨g,0,none⟩)∧w.heap[g]? = some (.cells cur e (0,0))∧All2 (fun x z=>Rep S w x.t x.v [z]) ls (cur.toList.take ls.length)∧∀ o,¬ S g o
def jgB (e:Nat) (x:TV) (u:Value):Prop:=
 ∃ (a:Ty) (xs:List a.den),x=⟨.list a,xs⟩∧jbZ S w e a xs u∧∀ g,blk u=some g→∀ o,¬ S g o
def jaA:Arg→Value→Prop
 | .v x,u=>VRep S w x u
 | .ref ls,u=>jkk S w ls u
 | .rl e x,u=>jgB S w e x u
 | .ip ls,u=>∃ g o cs,u = .pointer (some ⟨g,o,none⟩)∧All2 (fun x z=>Rep S w x.t x.v [z]) ls cs∧Lies S w g o cs
 | .clo f caps,u=>∃ cv:Array Value,u = .func (.func f) #[] cv∧All2 (j6o S w) caps cv.toList
def j97:Arg→Value→Option Nat
 | .ref _,u=>blk u
 | .rl _ _,u=>blk u
 | _,_=>none
def j2F:List Arg→List Value→List Nat
 | a::as,u::us=>(j97 a u).toList++j2F as us
 | _,_=>[]
def jqk:RL→Value→Prop
 | .d x,z=>One z∧Rep S w x.t x.v [z]
 | .own e x,z=>jgB S w e x z
def jfM:RV→Value→Prop
 | .v x,u=>VRep S w x u
 | .own e x,u=>jgB S w e x u
 | .box ls,u=>jkk S w ls u
 | .hd _,u=>One u
 | .clo f caps,u=>∃ cv:Array Value,u = .func (.func f) #[] cv∧All2 (j6o S w) caps cv.toList
 | .so ls,u=>∃ cs:Array Value,u = .agg cs∧All2 (jqk S w) ls cs.toList
 | .raw _ _,_=>True
 | .vn x ns,u=>VRep S w x u∧∀ cs,u = .agg cs→∀ i∈ns,∀ z,cs.toList[i]? = some z→z = .slice none 0 0
def jcT:RV→Value→Option Nat
 | .v _,_=>none
 | .hd _,_=>none
 | .vn _ _,_=>none
 | .clo _ _,_=>none
 | .so _,_=>none
 | .raw _ _,_=>none
 | _,u=>blk u
def j9W:List RL→List Value→List Nat
 | .own _ _::ls,z::zs=>(blk z).toList++j9W ls zs
 | .d _::ls,_::zs=>j9W ls zs
 | _,_=>[]
def j6T:RV→Value→List Nat
 | .so ls,u=>j9W ls u.cells.toList
 | r,u=>(jcT r u).toList
def j8t:List RV→List Value→List Nat
 | r::rs,u::us=>j6T r u++j8t rs us
 | _,_=>[]
def j5k:List Arg→List Value→List Out→Prop
 | [],[],[]=>True
 | .ref _::as,u::us,.ref ys::os=>jkk S w ys u∧j5k as us os
 | .rl e x::as,u::us,.rl y::os=>jgB S w e y u∧y.t=x.t∧j5k as us os
 | .v _::as,_::us,os=>j5k as us os
 | .ip _::as,_::us,os=>j5k as us os
 | .clo _ _::as,_::us,os=>j5k as us os
 | _,_,_=>False
end
def j5l (vs:List Value):Value:=match vs with
 | [v]=>v
 | vs=> .tuple vs.toArray
def jg9:List Arg→List Value→Option Value
 | .ref _::_,u::_=>some u
 | .rl _ _::_,u::_=>some u
 | _::as,_::us=>jg9 as us
 | _,_=>none
def emp:St:=⟨fun _=> .one (.one .dead),fun _=> .free⟩
def jrT (h0:Nat) (S:j0c) (w:World) (ns:List Nat) (s:Snap) (v:Value):Prop:=
 ∃ γ zs,v=j5l zs∧All2 (j0o S w γ (emp.upd (rawU ns s)).bx) (rawC ns s) zs∧(∀ k b,(emp.upd (rawU ns s)).bx k = .live b→j2c S w γ (emp.upd (rawU ns s)).bx k b)∧
  (∀ k b g,(emp.upd (rawU ns s)).bx k = .live b→blk (γ k)=some g→h0≤g)∧
  ∀ k k' b b' g,k≠k'→(emp.upd (rawU ns s)).bx k = .live b→(emp.upd (rawU ns s)).bx k' = .live b'→blk (γ k)=some g→blk (γ k')≠some g
structure jql (w:World) (S:j0c) (args:List Arg) (vals:List Value) (ret:Ret) (v:Value) (w':World) (S':j0c) (vs:List Value):Prop where
 val:v=j5l vs
 rep:All2 (jfM S' w') ret.vals vs
 fresh:∀ g∈j8t ret.vals vs,w.heap.size≤g
 apart:(j8t ret.vals vs).Nodup
 outs:j5k S' w' args vals ret.outs
 stays:j3p S w S' w'
 new:∀ g o,S' g o→S g o∨w.heap.size≤g
 here:∀ g o,S' g o→g<w'.heap.size
 below:∀ g,g<w.heap.size→g∉j2F args vals→w'.heap[g]? = w.heap[g]?
 grow:w.heap.size≤w'.heap.size
 os:w'.os=w.os
 tape:w'.tape=w.tape
 output:w'.output=w.output
 raw:∀ ns s,ret.vals=[.raw ns s]→jrT w.heap.size S' w' ns s v
 head:∀ m,ret.vals=[.hd m]→∃ ad len cap,jg9 args vals=some (.slice ad len cap)∧m≤len∧vs=[.slice ad m cap]
def jqm (P:Program) (f:Nat) (args:List Arg) (K:Ret→Prop):Prop:=
 ∀ (w:World) (S:j0c) (vals:List Value),All2 (jaA S w) args vals→(j2F args vals).Nodup→(∀ g o,S g o→g<w.heap.size)→
  Calls P f vals.toArray w fun e w'=>∃ ret,K ret∧∃ v S' vs,e = .returned v∧jql w S args vals ret v w' S' vs
def Fun (P:Program) (f:Nat):Prop:=
 ∃ fn, P.funcs[f]? = some fn ∧ fn.body.isNone = false ∧ (fn.name == "runtime.NumGoroutine") = false
def FnOK (P:Program) (f:Nat) (c:List Arg→(R:Type)→(Ret→Option R)→Option R):Prop:=
 ∀ (args:List Arg) (R:Type) (k:Ret→Option R) (r:R),c args R k=some r→Fun P f∧jqm P f args fun ret=>k ret=some r
def j8P (P:Program) (C:Nat→List Arg→(R:Type)→(Ret→Option R)→Option R):Prop:=∀ f,FnOK P f (C f)
section
variable {N:NT} {np:Nat} {S0:j0c} {w0:World} {refs:Refs} {σ:St} {a:Go.Act} {w:World} {S:j0c} {γ:Nat→Value}
theorem j8V {S':j0c} {w':World}:∀ (t:Ty) (v:t.den) (cs:List Value),t.flat=true→Rep S w t v cs→Rep S' w' t v cs
 | .int _,_,_,_,h=>h
 | .bool,_,_,_,h=>h
 | .str,_,_,_,h=>h
 | .unit,_,_,_,h=>h
 | .wrap a,v,cs,hf,h=>j8V a v cs hf h
 | .pair a b,_,_,hf,⟨c1,c2,e,h1,h2⟩=>by
  simp only [Ty.flat,ja] at hf
  exact ⟨c1,c2,e,j8V a _ _ hf.1 h1,j8V b _ _ hf.2 h2⟩
 | .list _,_,_,hf,_=>by simp [Ty.flat] at hf
 | .arr _ a,_,_,hf,⟨hn,css,ha,e⟩=>⟨hn,css,ha.mono (fun x c hx=>j8V a x c hf hx),e⟩
def j7A (bx:Nat→BS) (γ:Nat→Value):List Arg→List Value→List Bk→Prop
 | [],[],[]=>True
 | .ref ls::as,u::us,.ref k::fs=>u=γ k∧(∃ ls',bx k = .live (.cell ls' false))∧j7A bx γ as us fs
 | .rl e x::as,u::us,.rl k e' t::fs=>e=e'∧u=γ k∧(∃ xs,bx k = .live (.lst e t xs false)∧x=⟨.list t,xs⟩)∧j7A bx γ as us fs
 | .v _::as,_::us,fs=>j7A bx γ as us fs
 | .ip _::as,_::us,fs=>j7A bx γ as us fs
 | .clo _ _::as,_::us,fs=>j7A bx γ as us fs
 | _,_,_=>False
theorem jou {rd rdf:Nat→BS} (hR:Rel N np S0 w0 refs σ a w S γ) (hrd:RdR σ rd) (hrdf:RdF np σ rdf) {t:Option TyI} {rl:Bool} {c:Cel} {arg:Arg} {u:Ups} {f:Option Bk} {z:Value}
  (h:jnh rd rdf t rl c=some (arg,u,f)) (hc:j0o S w γ σ.bx c z) :
  FrzL np σ.bx u∧j7A σ.bx γ [arg] [z] f.toList∧∀ S',j3p S w S' w→Froz σ.bx γ S' w u→(∀ k b,f.toList.any (fun y=>y.name==k)=true→σ.bx k = .live b→∀ g,blk (γ k)=some g→∀ o,¬ S' g o)→jaA S' w arg z:=by
 unfold jnh at h
 split at h
 ·rename_i k
  split at h
  ·rename_i ls hk
   split at h
   ·rename_i xs u1 h1
    simp only [j4,j8] at h
    obtain ⟨rfl,rfl,rfl⟩:=h
    have hk:=hrd.live hk
    obtain ⟨g,hg,hz⟩:=hc.1.2.2 _ hk
    obtain ⟨g',cur,e,hg',hh,hcur,_,_,hS⟩:=hR.box k _ hk
    rw [hg] at hg';simp at hg';subst hg'
    obtain ⟨hf,hp⟩:=jdl hrdf h1 hcur
    refine ⟨hf,trivial,fun S' hst hfz _=>⟨g,0,cur.toList.take ls.length,hz,hp S' w hst hfz,fun j v hv=> ?_⟩⟩
    have hv:cur.toList[j]? = some v:=by
     rw [ke] at hv
     split at hv
     ·exact hv
     ·simp at hv
    have hj:j<cur.size:=by simpa using (jh.1 hv).1
    rw [js]
    refine ⟨(hst _ _ (hS rfl j hj)).1,?_⟩
    rw [cell_of_row w g j cur e (0,0) hh]
    simpa using hv
   ·simp at h
  ·rename_i ls hk
   split at h
   ·rename_i xs u1 h1
    simp only [j4,j8] at h
    obtain ⟨rfl,rfl,rfl⟩:=h
    have hk:=hrd.live hk
    obtain ⟨g,hg,hz⟩:=hc.1.2.2 _ hk
    obtain ⟨g',cur,e,hg',hh,hcur,_⟩:=hR.box k _ hk
    rw [hg] at hg';simp at hg';subst hg'
    obtain ⟨hf,hp⟩:=jdl hrdf h1 hcur
    refine ⟨hf,⟨hz.trans hg.symm,⟨ls,hk⟩,trivial⟩,fun S' hst hfz hn=>⟨g,cur,e,hz,hh,by rw [jg4 hcur (hp S' w hst hfz)];exact hp S' w hst hfz,?_⟩⟩
    exact hn k _ (by simp [Bk.name]) hk g (by rw [hg];rfl)
   ·simp at h
  ·simp at h
 ·simp only [j4,j8] at h
  obtain ⟨rfl,rfl,rfl⟩:=h
  refine ⟨.nil,trivial,fun S' hst _ _=> ?_⟩
  obtain ⟨g,o,cs,hz,ha,hl⟩:=hc.1
  exact ⟨g,o,cs,hz,ha.mono (fun x z hx=>Rep.keep hst _ _ _ hx),hl.keep hst⟩
 ·simp only [j4,j8] at h
  obtain ⟨rfl,rfl,rfl⟩:=h
  refine ⟨.nil,trivial,fun S' hst _ _=> ?_⟩
  obtain ⟨cv,hz,ha⟩:=hc.1
  exact ⟨cv,hz,ha.mono (fun x z hx=>j6o.keep hst hx)⟩
 ·rename_i k
  split at h
  ·split at h
   ·rename_i e t xs hk
    simp only [j4,j8] at h
    obtain ⟨rfl,rfl,rfl⟩:=h
    have hk:=hrd.live hk
    have hz:=hc.1.2.2 _ hk
    refine ⟨.nil,⟨rfl,hz,⟨xs,hk,rfl⟩,trivial⟩,fun S' hst _ hn=> ?_⟩
    have hbx:=(hR.box k _ hk).1
    exact ⟨t,xs,rfl,by rw [hz];exact hbx.keep hst (fun _ _=>rfl),fun g hg=>hn k _ (by simp [Bk.name]) hk g (by rw [←hz];exact hg)⟩
   ·simp at h
  ·split at h
   ·rename_i e t xs fz hk
    simp only [j4,j8] at h
    obtain ⟨rfl,rfl,rfl⟩:=h
    have hkp:=hrdf.par hk
    have hnm:=hrdf.ok.nm hk
    have hk:=hrdf.ok.live hk
    have hz:=hc.1.2.2 _ hk
    refine ⟨fun x hx=> ?_,trivial,fun S' hst hfz _=> ?_⟩
    ·have:=jx.1 hx
     subst this
     exact ⟨hkp,e,t,xs,fz,hk,rfl,hnm⟩
    ·have h1:One z:=hc.2 (by simp)
     have:=hfz (k,_) (jx.2 rfl) e t xs fz hk
     rw [←hz] at this
     exact ⟨by rw [jay h1];exact this,by simp [j96,Ty.agg],fun _=>h1⟩
   ·simp at h
 ·split at h
  ·split at h
   ·rename_i ty hty
    split at h
    ·rename_i x u1 hx
     simp only [j4,j8] at h
     obtain ⟨rfl,rfl,rfl⟩:=h
     obtain ⟨hf,hp,_⟩:=jaz hrdf hR.box hx hc
     exact ⟨hf,trivial,fun S' hst hfz _=>hp S' w hst hfz⟩
    ·simp at h
   ·simp at h
  ·simp at h
theorem j7A.app {bx:Nat→BS} {arg:Arg} {z:Value} {f:List Bk}:j7A bx γ [arg] [z] f→∀ {as:List Arg} {us:List Value} {fs:List Bk},j7A bx γ as us fs→j7A bx γ (arg::as) (z::us) (f++fs):=by
 intro h as us fs h'
 cases arg with
 | v x=>cases f with | nil=>exact h' | cons _ _=>exact h.elim
 | ip x=>cases f with | nil=>exact h' | cons _ _=>exact h.elim
 | clo x y=>cases f with | nil=>exact h' | cons _ _=>exact h.elim
 | ref ls=>
  match f,h with
  | [.ref k],⟨h1,h2,_⟩=>exact ⟨h1,h2,h'⟩
  | .ref k::_::_,⟨_,_,h3⟩=>exact h3.elim
 | rl e x=>
  match f,h with
  | [.rl k e' t],⟨h0,h1,h2,_⟩=>exact ⟨h0,h1,h2,h'⟩
  | .rl k e' t::_::_,⟨_,_,_,h3⟩=>exact h3.elim
theorem jil {rd rdf:Nat→BS} (hR:Rel N np S0 w0 refs σ a w S γ) (hrd:RdR σ rd) (hrdf:RdF np σ rdf) {T:Nat→Option TyI}:∀ {cs:List Cel} {ts:List Nat} {ms:List Bool} {as:List Arg} {u:Ups} {fs:List Bk} {zs:List Value},
  jd3 rd rdf T ts ms cs=some (as,u,fs)→All2 (j0o S w γ σ.bx) cs zs→
  FrzL np σ.bx u∧j7A σ.bx γ as zs fs∧∀ S',j3p S w S' w→Froz σ.bx γ S' w u→(∀ k b,fs.any (fun y=>y.name==k)=true→σ.bx k = .live b→∀ g,blk (γ k)=some g→∀ o,¬ S' g o)→All2 (jaA S' w) as zs
 | [],ts,ms,as,u,fs,zs,h,ha=>by
  simp [jd3] at h
  obtain ⟨rfl,rfl,rfl⟩:=h
  cases zs with
  | nil=>exact ⟨.nil,trivial,fun _ _ _ _=>trivial⟩
  | cons _ _=>exact ha.elim
 | c::cs,ts,ms,as,u,fs,zs,h,ha=>by
  cases zs with
  | nil=>exact ha.elim
  | cons z zs=>
   simp only [jd3] at h
   split at h
   ·rename_i a1 u1 f1 h1
    split at h
    ·rename_i as' us' fs' h2
     simp only [j4,j8] at h
     obtain ⟨rfl,rfl,rfl⟩:=h
     obtain ⟨p1,q1,r1⟩:=jou hR hrd hrdf h1 ha.1
     obtain ⟨p2,q2,r2⟩:=jil hR hrd hrdf h2 ha.2
     refine ⟨FrzL.app.2 ⟨p1,p2⟩,q1.app q2,fun S' hst hfz hn=> ?_⟩
     obtain ⟨z1,z2⟩:=Froz.app.1 hfz
     exact ⟨r1 S' hst z1 (fun k b hk=>hn k b (by rw [List.any_append,hk];rfl)),r2 S' hst z2 (fun k b hk=>hn k b (by rw [List.any_append,hk];simp))⟩
    ·simp at h
   ·simp at h
theorem jov:∀ {cs:List Cap} {zs:List Value},All2 (j6o S w) cs zs→All2 (jaA S w) (cs.map jd4) zs
 | [],[],_=>trivial
 | c::cs,z::zs,h=>by
  refine ⟨?_,jov h.2⟩
  cases c with
  | v x=>
   obtain ⟨hl,hr⟩:=h.1
   have h1:One z:=Rep.one _ _ _ hr z (by simp)
   refine ⟨by rw [jay h1];exact hr,fun hm=> ?_,fun _=>h1⟩
   exfalso
   obtain ⟨t,v⟩:=x
   cases t<;>simp_all [Ty.leafy,j96,Ty.agg]
  | p ls=>exact h.1
 | [],_::_,h=>h.elim
 | _::_,[],h=>h.elim
theorem jmA:∀ (cs:List Cap) (zs:List Value),j2F (cs.map jd4) zs=[]
 | [],_=>by cases ‹List Value› <;> rfl
 | c::cs,[]=>rfl
 | c::cs,z::zs=>by cases c<;>simp [j2F,j97,jd4,jmA cs zs]
theorem jim:∀ (as:List Arg) (us:List Value) (bs:List Arg) (vs:List Value),as.length=us.length→j2F (as++bs) (us++vs)=j2F as us++j2F bs vs
 | [],[],bs,vs,_=>rfl
 | a::as,u::us,bs,vs,h=>by simp [j2F,jim as us bs vs (by simpa using h)]
 | [],_::_,_,_,h=>by simp at h
 | _::_,[],_,_,h=>by simp at h
theorem j7B {bx:Nat→BS}:∀ {as:List Arg} {us:List Value} {fs:List Bk},j7A bx γ as us fs→j2F as us=fs.filterMap fun f=>blk (γ f.name)
 | [],[],[],_=>rfl
 | .ref ls::as,u::us,.ref k::fs,⟨h1,_,h3⟩=>by
  simp only [j2F,j97,z7,Bk.name,h1,j7B h3]
  cases blk (γ k)<;>rfl
 | .rl e x::as,u::us,.rl k e' t::fs,⟨_,h1,_,h3⟩=>by
  simp only [j2F,j97,z7,Bk.name,h1,j7B h3]
  cases blk (γ k)<;>rfl
 | .v _::as,_::us,fs,h=>by simp [j2F,j97,j7B (as:=as) (us:=us) (fs:=fs) h]
 | .ip _::as,_::us,fs,h=>by simp [j2F,j97,j7B (as:=as) (us:=us) (fs:=fs) h]
 | .clo _ _::as,_::us,fs,h=>by simp [j2F,j97,j7B (as:=as) (us:=us) (fs:=fs) h]
theorem jdm {bx:Nat→BS}:∀ {as:List Arg} {us:List Value} {fs:List Bk},j7A bx γ as us fs→∀ f∈fs,∃ b,bx f.name = .live b
 | [],[],[],_,f,hf=>by simp at hf
 | .ref ls::as,u::us,.ref k::fs,⟨_,⟨ls',h2⟩,h3⟩,f,hf=>by
  rcases je.1 hf with rfl | hf
  ·exact ⟨_,h2⟩
  ·exact jdm h3 f hf
 | .rl e x::as,u::us,.rl k e' t::fs,⟨_,_,⟨xs,h2,_⟩,h3⟩,f,hf=>by
  rcases je.1 hf with rfl | hf
  ·exact ⟨_,h2⟩
  ·exact jdm h3 f hf
 | .v _::as,_::us,fs,h,f,hf=>jdm (as:=as) (us:=us) (fs:=fs) h f hf
 | .ip _::as,_::us,fs,h,f,hf=>jdm (as:=as) (us:=us) (fs:=fs) h f hf
 | .clo _ _::as,_::us,fs,h,f,hf=>jdm (as:=as) (us:=us) (fs:=fs) h f hf
theorem j94:∀ {l:List Nat},j9V l=true→l.Nodup
 | [],_=>ze
 | x::l,h=>by
  simp only [j9V,ja,kj,kc,k9] at h
  exact qd.2 ⟨h.1,j94 h.2⟩
theorem jf8 (hR:Rel N np S0 w0 refs σ a w S γ):∀ {l:List Nat},l.Nodup→(∀ k∈l,∃ b,σ.bx k = .live b)→(l.filterMap fun k=>blk (γ k)).Nodup
 | [],_,_=>by simp
 | k::l,h,hl=>by
  obtain ⟨h1,h2⟩:=qd.1 h
  have ih:=jf8 hR h2 (fun k hk=>hl k (by simp [hk]))
  rw [z7]
  cases hb:blk (γ k) with
  | none=>exact ih
  | some g=>
   refine qd.2 ⟨fun hm=> ?_,ih⟩
   obtain ⟨k',hk',hg'⟩:=qs.1 hm
   obtain ⟨b,hb1⟩:=hl k (by simp)
   obtain ⟨b',hb2⟩:=hl k' (by simp [hk'])
   exact hR.apart k k' b b' g (by rintro rfl;exact h1 hk') hb1 hb2 hb hg'
end
section
variable {N:NT} {np:Nat} {S0:j0c} {w0:World} {refs:Refs} {σ:St} {a:Go.Act} {w:World} {S:j0c} {γ:Nat→Value}
theorem jin:∀ (u:Ups) (σ:St) {k:Nat} {b:BS},(u.map (·.1)).Nodup→(k,b)∈u→(σ.upd u).bx k=b
 | [],_,_,_,_,h=>by simp at h
 | e::u,σ,k,b,hn,h=>by
  simp only [ku,qd] at hn
  show ((σ.setB e.1 e.2).upd u).bx k=_
  rcases je.1 h with h | h
  ·subst h
   rw [j2s u,j0E]
   simp only [km,qf]
   intro x hx he
   exact hn.1 (kv.2 ⟨x,hx,he⟩)
  ·exact jin u _ hn.2 h
theorem jqn {e:Nat} {m n n':Nat} {v:Value} {w':World} {xs ys:List Value} (h:w.ownsRow 0 e m v n xs) (h':w'.ownsRow 0 e m v n' ys):n=n':=by
 rcases h.2 with ⟨e1,e2⟩ | ⟨g,cap,cur,e1,_⟩<;>rcases h'.2 with ⟨f1,f2⟩ | ⟨g',cap',cur',f1,_⟩
 ·rw [e2,f2]
 ·rw [e1] at f1;simp at f1
 ·rw [e1] at f1;simp at f1
 ·rw [e1] at f1;simp at f1;exact f1.2.1
theorem jf9 {bx:Nat→BS} {S':j0c} {w':World} {ys:List TV} {k:Nat} {v:Value} (hg:γ k=v) (h:jkk S' w' ys v):j2c S' w' γ bx k (.cell (ys.map TV.leaf) false):=by
 obtain ⟨g,cur,e,hu,hh,hall,hS⟩:=h
 exact ⟨g,cur,e,hg.trans hu,hh,by rw [qj];exact j6S hall,fun u hu'=>by rw [qj] at hu';obtain ⟨x,_,hx⟩:=hall.mem_right u hu';exact Rep.one _ _ _ hx u (by simp),fun _=>hS,by simp⟩
theorem jaB {bx:Nat→BS} {S':j0c} {w':World} {e:Nat} {t:Ty} {ys:List t.den} {k:Nat} {v:Value} (hg:γ k=v) (h:jgB S' w' e ⟨.list t,ys⟩ v):j2c S' w' γ bx k (.lst e t ys false):=by
 obtain ⟨t',xs,hx,hrow,hS⟩:=h
 cases hx
 exact ⟨by rw [hg];exact hrow,fun g hg'=>⟨fun _=>hS g (by rw [←hg];exact hg'),by simp⟩⟩
theorem j9X {S':j0c} {w':World} (hR:Rel N np S0 w0 refs σ a w S γ):∀ {as:List Arg} {zs:List Value} {fs:List Bk} {os:List Out} {uo:Ups},j7A σ.bx γ as zs fs→jef fs os=some uo→j5k S' w' as zs os→
  uo.map (·.1)=fs.map Bk.name∧∀ x∈uo,∃ b b',σ.bx x.1 = .live b∧x.2 = .live b'∧j1U b b'∧∀ bx',j2c S' w' γ bx' x.1 b'
 | [],[],[],[],uo,_,h,_=>by simp [jef] at h;subst h;simp
 | .ref ls::as,u::us,.ref k::fs,.ref ys::os,uo,⟨h1,⟨ls',h2⟩,h3⟩,h,⟨q1,q2⟩=>by
  simp only [jef,jq2] at h
  split at h
  ·rename_i u' hu'
   simp only [j4] at h;subst h
   obtain ⟨i1,i2⟩:=j9X hR h3 hu' q2
   refine ⟨by simp [i1,Bk.name],fun x hx=> ?_⟩
   rcases je.1 hx with rfl | hx
   ·exact ⟨_,_,h2,rfl,trivial,fun bx'=>jf9 h1.symm q1⟩
   ·exact i2 x hx
  ·simp at h
 | .rl e x::as,u::us,.rl k e' t::fs,.rl y::os,uo,⟨h0,h1,⟨xs,h2,h2'⟩,h3⟩,h,⟨q1,q1',q2⟩=>by
  simp only [jef,jq2] at h
  split at h
  ·rename_i y' hy'
   split at hy'
   ·rename_i ys hys
    simp only [j4] at hy';subst hy'
    split at h
    ·rename_i u' hu'
     simp only [j4] at h;subst h
     obtain ⟨i1,i2⟩:=j9X hR h3 hu' q2
     refine ⟨by simp [i1,Bk.name],fun x hx=> ?_⟩
     rcases je.1 hx with rfl | hx
     ·have:=jcS hys
      subst this
      subst h0
      refine ⟨_,_,h2,rfl,⟨rfl,rfl,fun hm=> ?_⟩,fun bx'=>jaB h1.symm q1⟩
      obtain ⟨css,hown,_⟩:=j5j hm (hR.box k _ h2)
      obtain ⟨css',hrow,_⟩:=j5j (bx:=σ.bx) hm (jaB h1.symm q1)
      exact jqn hown hrow
     ·exact i2 x hx
    ·simp at h
   ·simp at hy'
  ·simp at h
 | .v _::as,_::us,fs,os,uo,h,h',q=>j9X (as:=as) (zs:=us) (fs:=fs) hR h h' q
 | .ip _::as,_::us,fs,os,uo,h,h',q=>j9X (as:=as) (zs:=us) (fs:=fs) hR h h' q
 | .clo _ _::as,_::us,fs,os,uo,h,h',q=>j9X (as:=as) (zs:=us) (fs:=fs) hR h h' q
theorem jfa (hR:Rel N np S0 w0 refs σ a w S γ) {S':j0c} {w':World} (hst:j3p S w S' w') (hnew:∀ g o,S' g o→S g o∨w.heap.size≤g) (hhere:∀ g o,S' g o→g<w'.heap.size)
  {as:List Arg} {zs:List Value} {fs:List Bk} {os:List Out} {uo:Ups} (hbk:j7A σ.bx γ as zs fs) (hnd:(fs.map Bk.name).Nodup) (ho:jef fs os=some uo) (hq:j5k S' w' as zs os)
  (hbelow:∀ g,g<w.heap.size→g∉j2F as zs→w'.heap[g]? = w.heap[g]?) (hgrow:w.heap.size≤w'.heap.size) (hos:w'.os=w.os) (htape:w'.tape=w.tape) (hout:w'.output=w.output) :
  Rel N np S0 w0 refs (σ.upd uo) a w' S' γ:=by
 obtain ⟨hkeys,hboxes⟩:=j9X hR hbk ho hq
 have hnk:(uo.map (·.1)).Nodup:=by rw [hkeys];exact hnd
 have hsl:σ.upd uo={ σ with bx:=(σ.upd uo).bx }:=by
  have:=jfD uo σ
  cases h:σ.upd uo
  rw [h] at this
  simp only at this
  rw [this]
 have hcase:∀ k,(uo.any (fun y=>y.1==k)=false∧(σ.upd uo).bx k=σ.bx k)∨(∃ b b',σ.bx k = .live b∧(σ.upd uo).bx k = .live b'∧j1U b b'∧∀ bx',j2c S' w' γ bx' k b'):=by
  intro k
  by_cases hk:uo.any (fun y=>y.1==k)=true
  ·right
   obtain ⟨x,hx,he⟩:=List.any_eq_true.1 hk
   have he:x.1=k:=by simpa using he
   subst he
   obtain ⟨b,b',h1,h2,h3,h4⟩:=hboxes x hx
   exact ⟨b,b',h1,by rw [jin uo σ hnk (b:=x.2) hx,h2],h3,h4⟩
  ·left
   have hk':uo.any (fun y=>y.1==k)=false:=qb.2 hk
   exact ⟨hk',j2s uo σ hk'⟩
 have hlive:∀ k b,(σ.upd uo).bx k = .live b→∃ b',σ.bx k = .live b':=by
  intro k b hb
  rcases hcase k with ⟨_,h⟩ | ⟨b1,b2,h1,_⟩
  ·exact ⟨b,h▸hb⟩
  ·exact ⟨b1,h1⟩
 have hle:BxLe γ σ.bx γ (σ.upd uo).bx:=by
  intro k hk
  rcases hcase k with ⟨_,h⟩ | ⟨b1,b2,h1,h2,h3,_⟩
  ·rw [h];exact ⟨hk,rfl,fun b hb=>⟨b,hb,.refl b⟩⟩
  ·rw [h2];exact ⟨by simp,rfl,fun b hb=>by simp at hb;subst hb;exact ⟨b1,h1,h3⟩⟩
 have hrefs:∀ g,g∈j2F as zs→∃ f∈fs,blk (γ f.name)=some g∧∃ b,σ.bx f.name = .live b:=by
  intro g hg
  rw [j7B hbk] at hg
  obtain ⟨f,hf,hfg⟩:=qs.1 hg
  exact ⟨f,hf,hfg,jdm hbk f hf⟩
 rw [hsl]
 refine Rel.step hR hst hle ?_ ?_ ?_ ?_ hhere ?_ (qr hR.grow hgrow) (hos.trans hR.os) (htape.trans hR.tape) (hout.trans hR.output) (fun g hg _ h=>⟨hbelow g hg (fun hm=>by
  obtain ⟨f,hf,hfg,b',hb'⟩:=hrefs g hm
  exact h f.name b' hb' hfg),fun k b hb=>by
  obtain ⟨b',hb'⟩:=hlive k b hb
  exact h k b' hb'⟩)
 ·intro k b hb
  rcases hcase k with ⟨hk,h⟩ | ⟨b1,b2,h1,h2,h3,h4⟩
  ·rw [h] at hb
   refine j2c.keep hst hle rfl (fun g hg=> ?_) (hR.box k b hb)
   have hgl:=j4B (hR.box k b hb) hg
   refine ⟨hbelow g hgl (fun hm=> ?_),fun o=>⟨fun hs=>(hnew g o hs).resolve_right (by omega),fun hs=>(hst g o hs).1⟩⟩
   obtain ⟨f,hf,hfg,b',hb'⟩:=hrefs g hm
   have hne:k≠f.name:=by
    rintro rfl
    have:f.name∈uo.map (·.1):=by rw [hkeys];exact List.mem_map_of_mem hf
    obtain ⟨x,hx,he⟩:=kv.1 this
    have:=(km.1 hk) x hx
    simp [he] at this
   exact hR.apart k f.name b b' g hne hb hb' hg hfg
  ·rw [h2] at hb;simp at hb;subst hb;exact h4 _
 ·intro k b g hb hg
  obtain ⟨b',hb'⟩:=hlive k b hb
  exact hR.own k b' g hb' hg
 ·intro k k' b1 b2 g hne h1 h2 hg
  obtain ⟨b1',h1'⟩:=hlive k b1 h1
  obtain ⟨b2',h2'⟩:=hlive k' b2 h2
  exact hR.apart k k' b1' b2' g hne h1' h2' hg
 ·intro g o hs
  rcases hnew g o hs with h | h
  ·exact hR.new g o h
  ·exact .inr (qr hR.grow h)
 ·intro g hg hr
  rw [hbelow g (kq hg hR.grow) (fun hm=> ?_)]
  ·exact hR.below g hg hr
  ·obtain ⟨f,hf,hfg,b',hb'⟩:=hrefs g hm
   rcases hR.own f.name b' g hb' hfg with h | h
   ·omega
   ·exact hr h.1
theorem jgC (hR:Rel N np S0 w0 refs σ a w S γ) {d:Nat} (hd:σ.bx d = .free) {v':Value} {b:Bx}
  (hv:∀ g,blk v'=some g→(w0.heap.size≤g∧refs.kw g=none)∧∀ k b,σ.bx k = .live b→blk (γ k)≠some g) (hb:j2c S w (gset γ d v') (σ.setB d (.live b)).bx d b) :
  Rel N np S0 w0 refs (σ.setB d (.live b)) a w S (gset γ d v')∧BxLe γ σ.bx (gset γ d v') (σ.setB d (.live b)).bx:=by
 have hle:BxLe γ σ.bx (gset γ d v') (σ.setB d (.live b)).bx:=by
  intro k hk
  have hne:k≠d:=by rintro rfl;exact hk hd
  rw [j05 σ _ hne,j0u γ v' hne]
  exact ⟨hk,rfl,fun b hb=>⟨b,hb,.refl b⟩⟩
 refine ⟨Rel.step (bx':=(σ.setB d (.live b)).bx) hR (.refl S w) hle ?_ ?_ ?_ hR.new hR.here hR.below hR.grow hR.os hR.tape hR.output (fun g _ hkn h=>⟨rfl,fun k b' hb' hbk=>by
  by_cases hk:k=d
  ·subst hk
   rw [j0z] at hbk
   exact hkn (hv g hbk).1.2
  ·rw [j05 σ _ hk] at hb'
   rw [j0u γ v' hk] at hbk
   exact h k b' hb' hbk⟩),hle⟩
 ·intro k b' hb'
  by_cases hk:k=d
  ·subst hk;rw [j0E] at hb';simp at hb';subst hb';exact hb
  ·rw [j05 σ _ hk] at hb'
   exact j2c.keep (.refl S w) hle (j0u γ v' hk) (fun g hg=>⟨rfl,fun _=>Iff.rfl⟩) (hR.box k b' hb')
 ·intro k b' g hb' hg
  by_cases hk:k=d
  ·subst hk;rw [j0z] at hg;exact .inl (hv g hg).1.1
  ·rw [j05 σ _ hk] at hb';rw [j0u γ v' hk] at hg;exact hR.own k b' g hb' hg
 ·intro k k' b1 b2 g hne h1 h2 hg hg'
  by_cases hk:k=d
  ·subst hk
   have hk':k'≠k:=fun h=>hne h.symm
   rw [j0z] at hg
   rw [j05 σ _ hk'] at h2
   rw [j0u γ v' hk'] at hg'
   exact (hv g hg).2 k' b2 h2 hg'
  ·by_cases hk':k'=d
   ·subst hk'
    rw [j0z] at hg'
    rw [j05 σ _ hk] at h1
    rw [j0u γ v' hk] at hg
    exact (hv g hg').2 k b1 h1 hg
   ·rw [j05 σ _ hk] at h1
    rw [j05 σ _ hk'] at h2
    rw [j0u γ v' hk] at hg
    rw [j0u γ v' hk'] at hg'
    exact hR.apart k k' b1 b2 g hne h1 h2 hg hg'
theorem jcF {bx:Nat→BS} {x:TV} {u:Value} (h:VRep S w x u):j0o S w γ bx (jbC x.t x.v) u:=by
 obtain ⟨t,v⟩:=x
 obtain ⟨h1,h2,h3⟩:=h
 refine jf4 t v _ u h1 (fun hm=> ?_) (fun ha hn=> ?_)
 ·have:j96 t=true:=by
   rcases hm with hm | ⟨n,b,rfl⟩
   ·cases t<;>simp_all [j96,Ty.agg]
   ·rfl
  obtain ⟨cs,rfl⟩:=h2 this
  simp [Value.cells]
 ·have:j96 t=false:=by cases t<;>simp_all [j96,Ty.agg]
  exact jay (h3 this)
theorem jga:∀ {ls:List RL} {n:Nat} {l:List Leaf} {u:Ups},soL n ls=some (l,u)→∀ x∈u,n≤x.1∧x.1<n+ls.length
 | [],n,l,u,h=>by simp [soL] at h;obtain ⟨rfl,rfl⟩:=h;simp
 | .d x::r,n,l,u,h=>by
  simp only [soL] at h
  split at h
  ·rename_i l' u' h'
   simp only [j4,j8] at h
   obtain ⟨rfl,rfl⟩:=h
   intro y hy
   have:=jga h' y hy
   simp only [jy];omega
  ·simp at h
 | .own e ⟨.list a,xs⟩::r,n,l,u,h=>by
  simp only [soL] at h
  split at h
  ·rename_i l' u' h'
   simp only [j4,j8] at h
   obtain ⟨rfl,rfl⟩:=h
   intro y hy
   rcases je.1 hy with rfl | hy
   ·simp only [jy];omega
   ·have:=jga h' y hy
    simp only [jy];omega
  ·simp at h
 | .own e ⟨.int _,xs⟩::r,n,l,u,h=>by simp [soL] at h
 | .own e ⟨.bool,xs⟩::r,n,l,u,h=>by simp [soL] at h
 | .own e ⟨.str,xs⟩::r,n,l,u,h=>by simp [soL] at h
 | .own e ⟨.unit,xs⟩::r,n,l,u,h=>by simp [soL] at h
 | .own e ⟨.wrap _,xs⟩::r,n,l,u,h=>by simp [soL] at h
 | .own e ⟨.pair _ _,xs⟩::r,n,l,u,h=>by simp [soL] at h
 | .own e ⟨.arr _ _,xs⟩::r,n,l,u,h=>by simp [soL] at h
theorem jio {n:Nat} {r:RV} {c:Cel} {u:Ups} (h:jq3 n r=some (c,u)):∀ x∈u,n≤x.1∧x.1<n+rvW r:=by
 unfold jq3 at h
 split at h
 ·simp only [j4,j8] at h;obtain ⟨rfl,rfl⟩:=h;simp
 ·simp only [j4,j8] at h;obtain ⟨rfl,rfl⟩:=h;simp [rvW]
 ·simp at h
 ·simp only [j4,j8] at h;obtain ⟨rfl,rfl⟩:=h;simp [rvW]
 ·simp at h
 ·split at h<;>(simp only [j4,j8] at h;obtain ⟨rfl,rfl⟩:=h;simp)
 ·simp only [j4,j8] at h;obtain ⟨rfl,rfl⟩:=h;simp
 ·split at h
  ·rename_i l u' h'
   simp only [j4,j8] at h;obtain ⟨rfl,rfl⟩:=h
   exact jga h'
  ·simp at h
 ·simp at h
theorem jgD:∀ {n:Nat} {rs:List RV} {cs:List Cel} {u:Ups},jfy n rs=some (cs,u)→∀ x∈u,n≤x.1
 | n,[],cs,u,h=>by simp [jfy] at h;obtain ⟨rfl,rfl⟩:=h;simp
 | n,r::rs,cs,u,h=>by
  simp only [jfy] at h
  split at h
  ·rename_i c u1 h1
   split at h
   ·rename_i cs2 u2 h2
    simp only [j4,j8] at h
    obtain ⟨rfl,rfl⟩:=h
    intro x hx
    rcases jp.1 hx with hx | hx
    ·exact (jio h1 x hx).1
    ·have:=jgD h2 x hx;omega
   ·simp at h
  ·simp at h
theorem jow {bx:Nat→BS} {ns:List Nat}:∀ (k:Nat) {ls:List Leaf} {cs:List Value},All2 (j09 S w γ bx) ls cs→(∀ i∈ns,∀ z,k≤i→cs[i-k]? = some z→z = .slice none 0 0)→
  All2 (j09 S w γ bx) ((ls.zipIdx k).map fun y=>if ns.contains y.2 then .nil else y.1) cs
 | _,[],[],_,_=>trivial
 | k,l::ls,c::cs,h,hn=>by
  refine ⟨?_,jow (k+1) h.2 fun i hi z hk hz=>hn i hi z (by omega) ?_⟩
  ·by_cases hc:ns.contains k=true
   ·simp only [hc,if_true]
    exact hn k (by simpa using hc) c (ju _) (by simp)
   ·simp only [hc]
    exact h.1
  ·rw [show i-k=(i-(k+1))+1 by omega];simpa using hz
 | _,[],_::_,h,_=>h.elim
 | _,_::_,[],h,_=>h.elim
theorem jox (hR:Rel N np S0 w0 refs σ a w S γ) {h0:Nat} (hle0:w0.heap.size≤h0) (hlive:∀ k b g,σ.bx k = .live b→blk (γ k)=some g→g<h0) (hkw:∀ g,h0≤g→refs.kw g=none)
  {ns:List Nat} {s:Snap} {v:Value} (hraw:jrT h0 S w ns s v) (hfree:∀ x∈rawU ns s,σ.bx x.1 = .free) (hnd:((rawU ns s).map (·.1)).Nodup) :
  ∃ γ',Rel N np S0 w0 refs (σ.upd (rawU ns s)) a w S γ'∧∃ zs,v=j5l zs∧All2 (j0o S w γ' (σ.upd (rawU ns s)).bx) (rawC ns s) zs:=by
 obtain ⟨γr,zs,hv,hc,hb,hge,hap⟩:=hraw
 generalize rawU ns s=u at *
 let γ':Nat→Value:=fun k=>if u.any (fun y=>y.1==k) then γr k else γ k
 have hin:∀ k,u.any (fun y=>y.1==k)=true→(σ.upd u).bx k=(emp.upd u).bx k∧γ' k=γr k∧σ.bx k = .free:=by
  intro k hk
  have hk0:=hk
  obtain ⟨x,hx,he⟩:=List.any_eq_true.1 hk
  have he:x.1=k:=by simpa using he
  subst he
  exact ⟨(jin u σ hnd (b:=x.2) hx).trans (jin u emp hnd (b:=x.2) hx).symm,if_pos hk0,hfree x hx⟩
 have hout:∀ k,u.any (fun y=>y.1==k)=false→(σ.upd u).bx k=σ.bx k∧(emp.upd u).bx k = .free∧γ' k=γ k:=by
  intro k hk
  exact ⟨j2s u σ hk,j2s u emp hk,if_neg (by rw [hk];simp)⟩
 have le1:BxLe γr (emp.upd u).bx γ' (σ.upd u).bx:=by
  intro k hk
  cases hu:u.any (fun y=>y.1==k) with
  | false=>exact absurd (hout k hu).2.1 hk
  | true=>
   obtain ⟨h1,h2,_⟩:=hin k hu
   rw [h1]
   exact ⟨hk,h2,fun b hb=>⟨b,hb,.refl b⟩⟩
 have le2:BxLe γ σ.bx γ' (σ.upd u).bx:=by
  intro k hk
  cases hu:u.any (fun y=>y.1==k) with
  | true=>exact absurd (hin k hu).2.2 hk
  | false=>
   obtain ⟨h1,_,h2⟩:=hout k hu
   rw [h1]
   exact ⟨hk,h2,fun b hb=>⟨b,hb,.refl b⟩⟩
 have hsl:σ.upd u={ σ with bx:=(σ.upd u).bx }:=by
  have:=jfD u σ
  cases h:σ.upd u
  rw [h] at this
  simp only at this
  rw [this]
 refine ⟨γ',?_,zs,hv,hc.mono fun x z hx=>j0o.keep (.refl S w) le1 hx⟩
 rw [hsl]
 refine Rel.step hR (.refl S w) le2 ?_ ?_ ?_ hR.new hR.here hR.below hR.grow hR.os hR.tape hR.output (fun g _ hkn h=>⟨rfl,fun k b hb hbk=> ?_⟩)
 ·intro k b hb'
  cases hu:u.any (fun y=>y.1==k) with
  | true=>
   obtain ⟨h1,h2,_⟩:=hin k hu
   rw [h1] at hb'
   exact j2c.keep (.refl S w) le1 h2 (fun g hg=>⟨rfl,fun _=>Iff.rfl⟩) (hb k b hb')
  | false=>
   obtain ⟨h1,_,h2⟩:=hout k hu
   rw [h1] at hb'
   exact j2c.keep (.refl S w) le2 h2 (fun g hg=>⟨rfl,fun _=>Iff.rfl⟩) (hR.box k b hb')
 ·intro k b g hb' hg
  cases hu:u.any (fun y=>y.1==k) with
  | true=>
   obtain ⟨h1,h2,_⟩:=hin k hu
   rw [h1] at hb';rw [h2] at hg
   exact .inl (qr hle0 (hge k b g hb' hg))
  | false=>
   obtain ⟨h1,_,h2⟩:=hout k hu
   rw [h1] at hb';rw [h2] at hg
   exact hR.own k b g hb' hg
 ·intro k k' b b' g hne hb1 hb2 hg1 hg2
  cases hu:u.any (fun y=>y.1==k) with
  | true=>
   obtain ⟨h1,h2,_⟩:=hin k hu
   rw [h1] at hb1;rw [h2] at hg1
   cases hu':u.any (fun y=>y.1==k') with
   | true=>
    obtain ⟨h3,h4,_⟩:=hin k' hu'
    rw [h3] at hb2;rw [h4] at hg2
    exact hap k k' b b' g hne hb1 hb2 hg1 hg2
   | false=>
    obtain ⟨h3,_,h4⟩:=hout k' hu'
    rw [h3] at hb2;rw [h4] at hg2
    have:=hlive k' b' g hb2 hg2
    have:=hge k b g hb1 hg1
    omega
  | false=>
   obtain ⟨h1,_,h2⟩:=hout k hu
   rw [h1] at hb1;rw [h2] at hg1
   cases hu':u.any (fun y=>y.1==k') with
   | true=>
    obtain ⟨h3,h4,_⟩:=hin k' hu'
    rw [h3] at hb2;rw [h4] at hg2
    have:=hlive k b g hb1 hg1
    have:=hge k' b' g hb2 hg2
    omega
   | false=>
    obtain ⟨h3,_,h4⟩:=hout k' hu'
    rw [h3] at hb2;rw [h4] at hg2
    exact hR.apart k k' b b' g hne hb1 hb2 hg1 hg2
 ·cases hu:u.any (fun y=>y.1==k) with
  | true=>
   obtain ⟨h1,h2,_⟩:=hin k hu
   rw [h1] at hb;rw [h2] at hbk
   exact hkn (hkw g (hge k b g hb hbk))
  | false=>
   obtain ⟨h1,_,h2⟩:=hout k hu
   rw [h1] at hb;rw [h2] at hbk
   exact h k b hb hbk
theorem joy:∀ {ls:List RL} {zs:List Value} {n:Nat} {l:List Leaf} {u:Ups} {σ:St} {γ:Nat→Value},Rel N np S0 w0 refs σ a w S γ→soL n ls=some (l,u)→All2 (jqk S w) ls zs→
  (∀ x∈u,σ.bx x.1 = .free)→(j9W ls zs).Nodup→(∀ g∈j9W ls zs,(w0.heap.size≤g∧refs.kw g=none)∧∀ k b,σ.bx k = .live b→blk (γ k)≠some g)→
  ∃ γ',Rel N np S0 w0 refs (σ.upd u) a w S γ'∧BxLe γ σ.bx γ' (σ.upd u).bx∧All2 (j09 S w γ' (σ.upd u).bx) l zs∧(∀ z∈zs,One z)∧
   ∀ k b g,(σ.upd u).bx k = .live b→blk (γ' k)=some g→(∃ b',σ.bx k = .live b'∧blk (γ k)=some g)∨g∈j9W ls zs
 | [],[],n,l,u,σ,γ,hR,h,_,_,_,_=>by
  simp [soL] at h
  obtain ⟨rfl,rfl⟩:=h
  exact ⟨γ,hR,.refl _ _,trivial,by simp,fun k b g h1 h2=> .inl ⟨b,h1,h2⟩⟩
 | .d x::ls,z::zs,n,l,u,σ,γ,hR,h,ha,hfree,hnd,hblk=>by
  simp only [soL] at h
  split at h
  ·rename_i l' u' h'
   simp only [j4,j8] at h
   obtain ⟨rfl,rfl⟩:=h
   obtain ⟨γ',q1,q2,q3,q4,q5⟩:=joy hR h' ha.2 hfree hnd hblk
   exact ⟨γ',q1,q2,⟨ha.1.2,q3⟩,fun y hy=>(je.1 hy).elim (fun e=>e▸ha.1.1) (q4 y),q5⟩
  ·simp at h
 | .own e ⟨.list t,xs⟩::ls,z::zs,n,l,u,σ,γ,hR,h,ha,hfree,hnd,hblk=>by
  simp only [soL] at h
  split at h
  ·rename_i l' u' h'
   simp only [j4,j8] at h
   obtain ⟨rfl,rfl⟩:=h
   have hown:jgB S w e ⟨.list t,xs⟩ z:=ha.1
   have hone:One z:=by
    obtain ⟨t',ys,_,hrow,_⟩:=hown
    exact hrow.one
   have hfn:σ.bx n = .free:=hfree _ (List.mem_cons_self ..)
   simp only [j9W] at hnd hblk
   obtain ⟨hR1,hle⟩:=jgC hR hfn (v':=z) (b:= .lst e t xs false) (fun g hg=>hblk g (by simp [hg])) (jaB (j0z _ _ _) hown)
   have hname:=jga h'
   obtain ⟨γ',q1,q2,q3,q4,q5⟩:=joy hR1 h' ha.2 (fun x hx=>by
    have:=hname x hx
    rw [j05 σ _ (by omega)]
    exact hfree x (by simp [hx])) (kx.1 hnd).2.1 (fun g hg=>by
    obtain ⟨p1,p2⟩:=hblk g (by simp [hg])
    refine ⟨p1,fun k b' hb' he=> ?_⟩
    by_cases hk:k=n
    ·subst hk
     rw [j0z] at he
     exact (kx.1 hnd).2.2 g (by simp [he]) g hg rfl
    ·rw [j05 σ _ hk] at hb'
     rw [j0u γ z hk] at he
     exact p2 k b' hb' he)
   refine ⟨γ',q1,fun k hk=> ?_,⟨j09.keep (.refl S w) q2 ⟨by rw [j0E];simp,hone,fun b _=>(j0z γ n z).symm⟩,q3⟩,fun y hy=>(je.1 hy).elim (fun e=>e▸hone) (q4 y),fun k b g h1 h2=> ?_⟩
   ·obtain ⟨a1,a2,a3⟩:=hle k hk
    obtain ⟨b1,b2,b3⟩:=q2 k a1
    refine ⟨b1,b2.trans a2,fun b hb=> ?_⟩
    obtain ⟨b',hb',hs'⟩:=b3 b hb
    obtain ⟨b'',hb'',hs''⟩:=a3 b' hb'
    exact ⟨b'',hb'',hs''.trans hs'⟩
   ·rcases q5 k b g h1 h2 with ⟨b',hb',he⟩ | h3
    ·by_cases hk:k=n
     ·subst hk
      rw [j0z] at he
      exact .inr (by simp [j9W,he])
     ·rw [j05 σ _ hk] at hb'
      rw [j0u γ z hk] at he
      exact .inl ⟨b',hb',he⟩
    ·exact .inr (by simp [j9W,h3])
  ·simp at h
 | .own e ⟨.int _,xs⟩::r,_,n,l,u,_,_,_,h,_,_,_,_=>by simp [soL] at h
 | .own e ⟨.bool,xs⟩::r,_,n,l,u,_,_,_,h,_,_,_,_=>by simp [soL] at h
 | .own e ⟨.str,xs⟩::r,_,n,l,u,_,_,_,h,_,_,_,_=>by simp [soL] at h
 | .own e ⟨.unit,xs⟩::r,_,n,l,u,_,_,_,h,_,_,_,_=>by simp [soL] at h
 | .own e ⟨.wrap _,xs⟩::r,_,n,l,u,_,_,_,h,_,_,_,_=>by simp [soL] at h
 | .own e ⟨.pair _ _,xs⟩::r,_,n,l,u,_,_,_,h,_,_,_,_=>by simp [soL] at h
 | .own e ⟨.arr _ _,xs⟩::r,_,n,l,u,_,_,_,h,_,_,_,_=>by simp [soL] at h
 | [],_::_,_,_,_,_,_,_,_,ha,_,_,_=>ha.elim
 | .d _::_,[],_,_,_,_,_,_,_,ha,_,_,_=>ha.elim
 | .own _ ⟨.list _,_⟩::_,[],_,_,_,_,_,_,_,ha,_,_,_=>ha.elim
theorem jmB:∀ {rs:List RV} {vs:List Value} {n:Nat} {cs:List Cel} {un:Ups} {σ:St} {γ:Nat→Value},Rel N np S0 w0 refs σ a w S γ→jfy n rs=some (cs,un)→All2 (jfM S w) rs vs→
  (∀ x∈un,σ.bx x.1 = .free)→(j8t rs vs).Nodup→(∀ g∈j8t rs vs,(w0.heap.size≤g∧refs.kw g=none)∧∀ k b,σ.bx k = .live b→blk (γ k)≠some g)→
  ∃ γ',Rel N np S0 w0 refs (σ.upd un) a w S γ'∧BxLe γ σ.bx γ' (σ.upd un).bx∧All2 (j0o S w γ' (σ.upd un).bx) cs vs
 | [],[],n,cs,un,σ,γ,hR,h,_,_,_,_=>by
  simp [jfy] at h
  obtain ⟨rfl,rfl⟩:=h
  exact ⟨γ,hR,.refl _ _,trivial⟩
 | r::rs,u::us,n,cs,un,σ,γ,hR,h,ha,hfree,hnd,hblk=>by
  simp only [jfy] at h
  split at h
  ·rename_i c u1 h1
   split at h
   ·rename_i cs2 u2 h2
    simp only [j4,j8] at h
    obtain ⟨rfl,rfl⟩:=h
    have hgo:∀ (σ1:St) (γ1:Nat→Value),Rel N np S0 w0 refs σ1 a w S γ1→σ1=σ.upd u1→BxLe γ σ.bx γ1 σ1.bx→j0o S w γ1 σ1.bx c u→(∀ x∈u2,σ1.bx x.1 = .free)→
      (j8t rs us).Nodup→(∀ g∈j8t rs us,(w0.heap.size≤g∧refs.kw g=none)∧∀ k b,σ1.bx k = .live b→blk (γ1 k)≠some g)→
      ∃ γ',Rel N np S0 w0 refs (σ.upd (u1++u2)) a w S γ'∧BxLe γ σ.bx γ' (σ.upd (u1++u2)).bx∧All2 (j0o S w γ' (σ.upd (u1++u2)).bx) (c::cs2) (u::us):=by
     intro σ1 γ1 hR1 he hle hc hf hn hb
     obtain ⟨γ',q1,q2,q3⟩:=jmB (σ:=σ1) (γ:=γ1) hR1 h2 ha.2 hf hn hb
     subst he
     rw [j4h]
     refine ⟨γ',q1,?_,j0o.keep (.refl S w) q2 hc,q3⟩
     intro k hk
     obtain ⟨a1,a2,a3⟩:=hle k hk
     obtain ⟨b1,b2,b3⟩:=q2 k a1
     refine ⟨b1,b2.trans a2,fun b hb=> ?_⟩
     obtain ⟨b',hb',hs'⟩:=b3 b hb
     obtain ⟨b'',hb'',hs''⟩:=a3 b' hb'
     refine ⟨b'',hb'',?_⟩
     exact hs''.trans hs'
    have hname:=jio h1
    have hname2:=jgD h2
    have hnew:∀ (v':Value) (b:Bx),j6T r u=(blk v').toList→rvW r=1→u1=[(n,.live b)]→(∀ bx',j2c S w (gset γ n v') bx' n b)→(∀ bx',(bx' n = .live b)→j0o S w (gset γ n v') bx' c u)→
      ∃ γ',Rel N np S0 w0 refs (σ.upd (u1++u2)) a w S γ'∧BxLe γ σ.bx γ' (σ.upd (u1++u2)).bx∧All2 (j0o S w γ' (σ.upd (u1++u2)).bx) (c::cs2) (u::us):=by
     intro v' b hv' hw1 hu1 hbox hcel
     subst hu1
     rw [hw1] at hname2
     have hfn:σ.bx n = .free:=hfree (n,.live b) (by simp)
     simp only [j8t,hv'] at hnd hblk
     obtain ⟨hR1,hle⟩:=jgC hR hfn (v':=v') (b:=b) (fun g hg=>hblk g (by simp [hg])) (hbox _)
     refine hgo _ _ hR1 rfl hle (hcel _ (j0E _ _ _)) (fun x hx=> ?_) ?_ (fun g hg=> ?_)
     ·have:=hname2 x hx
      rw [j05 σ _ (by omega)]
      exact hfree x (by simp [hx])
     ·exact (kx.1 hnd).2.1
     ·obtain ⟨p1,p2⟩:=hblk g (by simp [hg])
      refine ⟨p1,fun k b' hb' he=> ?_⟩
      by_cases hk:k=n
      ·subst hk
       rw [j0z] at he
       have:=(kx.1 hnd).2.2 g (by simp [he]) g hg
       exact this rfl
      ·rw [j05 σ _ hk] at hb'
       rw [j0u γ v' hk] at he
       exact p2 k b' hb' he
    unfold jq3 at h1
    split at h1
    ·rename_i x
     simp only [j4,j8] at h1
     obtain ⟨rfl,rfl⟩:=h1
     refine hgo σ γ hR rfl (.refl _ _) (jcF ha.1) (fun x hx=>hfree x (by simp [hx])) ?_ ?_
     ·simpa [j8t,jcT,j6T] using hnd
     ·simpa [j8t,jcT,j6T] using hblk
    ·rename_i e el xs
     simp only [j4,j8] at h1
     obtain ⟨rfl,rfl⟩:=h1
     have hown:jgB S w e ⟨.list el,xs⟩ u:=ha.1
     have hone:One u:=by
      obtain ⟨t',ys,_,hrow,_⟩:=hown
      exact hrow.one
     exact hnew u _ rfl rfl rfl (fun bx'=>jaB (j0z _ _ _) hown) (fun bx' hb=>⟨⟨by rw [hb];simp,hone,fun b _=>(j0z γ n u).symm⟩,fun _=>hone⟩)
    ·simp at h1
    ·rename_i ls
     simp only [j4,j8] at h1
     obtain ⟨rfl,rfl⟩:=h1
     have href:jkk S w ls u:=ha.1
     obtain ⟨g,cur,e,hu,_⟩:=id href
     have hone:One u:=by rw [hu];rfl
     exact hnew u _ rfl rfl rfl (fun bx'=>jf9 (j0z _ _ _) href) (fun bx' hb=>⟨⟨by rw [hb];simp,hone,fun b _=>⟨g,by rw [j0z,hu],hu⟩⟩,fun _=>hone⟩)
    ·simp at h1
    ·rename_i x ns
     have hv:VRep S w x u∧∀ cs,u = .agg cs→∀ i∈ns,∀ z,cs.toList[i]? = some z→z = .slice none 0 0:=ha.1
     have hcr:j0o S w γ σ.bx (jbC x.t x.v) u:=jcF hv.1
     have hc:j0o S w γ σ.bx c u∧u1=[]:=by
      split at h1
      ·rename_i ls he
       simp only [j4,j8] at h1
       obtain ⟨rfl,rfl⟩:=h1
       rw [he] at hcr
       obtain ⟨cs,hu,hall,hone⟩:=hcr
       exact ⟨⟨cs,hu,jow 0 hall fun i hi z _ hz=>hv.2 cs hu i hi z (by simpa using hz),hone⟩,rfl⟩
      ·simp only [j4,j8] at h1
       obtain ⟨rfl,rfl⟩:=h1
       exact ⟨hcr,rfl⟩
     obtain ⟨hc,rfl⟩:=hc
     refine hgo σ γ hR rfl (.refl _ _) hc (fun x hx=>hfree x (by simp [hx])) ?_ ?_
     ·simpa [j8t,jcT,j6T] using hnd
     ·simpa [j8t,jcT,j6T] using hblk
    ·rename_i f caps
     simp only [j4,j8] at h1
     obtain ⟨rfl,rfl⟩:=h1
     obtain ⟨cv,hu,hall⟩:∃ cv:Array Value,u = .func (.func f) #[] cv∧All2 (j6o S w) caps cv.toList:=ha.1
     refine hgo σ γ hR rfl (.refl _ _) ⟨⟨cv,hu,hall⟩,fun _=>by rw [hu];rfl⟩ (fun x hx=>hfree x (by simp [hx])) ?_ ?_
     ·simpa [j8t,jcT,j6T] using hnd
     ·simpa [j8t,jcT,j6T] using hblk
    ·rename_i ls
     split at h1
     ·rename_i l us' hl
      simp only [j4,j8] at h1
      obtain ⟨rfl,rfl⟩:=h1
      obtain ⟨cs',hu,hall⟩:∃ cs:Array Value,u = .agg cs∧All2 (jqk S w) ls cs.toList:=ha.1
      subst hu
      have hbl:j6T (.so ls) (.agg cs')=j9W ls cs'.toList:=rfl
      simp only [j8t,hbl] at hnd hblk
      obtain ⟨γ1,q1,q2,q3,q4,q5⟩:=joy hR hl hall (fun x hx=>hfree x (by simp [hx])) (kx.1 hnd).1 (fun g hg=>hblk g (by simp [hg]))
      refine hgo _ γ1 q1 rfl q2 ⟨cs',rfl,q3,q4⟩ (fun x hx=> ?_) (kx.1 hnd).2.1 (fun g hg=> ?_)
      ·have h2:=hname2 x hx
       rw [j2s us' σ]
       ·exact hfree x (by simp [hx])
       ·rw [km]
        intro y hy he
        simp only [qf] at he
        have:=hname y hy
        omega
      ·obtain ⟨p1,p2⟩:=hblk g (by simp [hg])
       refine ⟨p1,fun k b' hb' he=> ?_⟩
       rcases q5 k b' g hb' he with ⟨b2,hb2,he2⟩ | h3
       ·exact p2 k b2 hb2 he2
       ·exact (kx.1 hnd).2.2 g h3 g hg rfl
     ·simp at h1
    ·simp at h1
   ·simp at h
  ·simp at h
 | [],_::_,_,_,_,_,_,_,_,ha,_,_,_=>ha.elim
 | _::_,[],_,_,_,_,_,_,_,ha,_,_,_=>ha.elim
end
section
variable {N:NT} {np:Nat} {S0:j0c} {w0:World} {refs:Refs} {σ:St} {a:Go.Act} {w:World} {S:j0c} {γ:Nat→Value}
theorem jgE {S':j0c} {w':World}:∀ (cs:List Cap) (cv:List Value) (os:List Out),j5k S' w' (cs.map jd4) cv os→os=[]
 | [],[],[],_=>rfl
 | [],[],_::_,h=>h.elim
 | [],_::_,_,h=>h.elim
 | c::cs,[],_,h=>by cases c<;>exact h.elim
 | .v _::cs,_::cv,os,h=>jgE cs cv os h
 | .p _::cs,_::cv,os,h=>jgE cs cv os h
theorem jcG {S':j0c} {w':World} {cs:List Cap} {cv:List Value}:∀ {as:List Arg} {zs:List Value} {os:List Out},as.length=zs.length→
  j5k S' w' (as++cs.map jd4) (zs++cv) os→j5k S' w' as zs os
 | [],[],os,_,h=>by
  have:=jgE cs cv os h
  subst this
  trivial
 | .ref ls::as,u::us,.ref ys::os,hl,⟨h1,h2⟩=>⟨h1,jcG (by simpa using hl) h2⟩
 | .rl e x::as,u::us,.rl y::os,hl,⟨h1,h2,h3⟩=>⟨h1,h2,jcG (by simpa using hl) h3⟩
 | .v _::as,_::us,os,hl,h=>jcG (as:=as) (zs:=us) (by simpa using hl) h
 | .ip _::as,_::us,os,hl,h=>jcG (as:=as) (zs:=us) (by simpa using hl) h
 | .clo _ _::as,_::us,os,hl,h=>jcG (as:=as) (zs:=us) (by simpa using hl) h
 | [],_::_,_,hl,_=>by simp at hl
 | _::_,[],_,hl,_=>by simp at hl
 | .ref _::_,_::_,[],_,h=>h.elim
 | .ref _::_,_::_,.rl _::_,_,h=>h.elim
 | .rl _ _::_,_::_,[],_,h=>h.elim
 | .rl _ _::_,_::_,.ref _::_,_,h=>h.elim
theorem j7A.congr {bx bx':Nat→BS}:∀ {as:List Arg} {us:List Value} {fs:List Bk},(∀ f∈fs,bx' f.name=bx f.name)→j7A bx γ as us fs→j7A bx' γ as us fs
 | [],[],[],_,_=>trivial
 | .ref ls::as,u::us,.ref k::fs,hc,⟨h1,⟨ls',h2⟩,h3⟩=>
  ⟨h1,⟨ls',(hc (.ref k) (by simp)).trans h2⟩,j7A.congr (fun f hf=>hc f (by simp [hf])) h3⟩
 | .rl e x::as,u::us,.rl k e' t::fs,hc,⟨h0,h1,⟨xs,h2,hx⟩,h3⟩=>
  ⟨h0,h1,⟨xs,(hc (.rl k e' t) (by simp)).trans h2,hx⟩,j7A.congr (fun f hf=>hc f (by simp [hf])) h3⟩
 | .v _::as,_::us,fs,hc,h=>j7A.congr (as:=as) (us:=us) hc h
 | .ip _::as,_::us,fs,hc,h=>j7A.congr (as:=as) (us:=us) hc h
 | .clo _ _::as,_::us,fs,hc,h=>j7A.congr (as:=as) (us:=us) hc h
theorem jc9 {S1 S':j0c} {w':World} (hsub:∀ g o,S g o→S' g o):∀ {as:List Arg} {zs:List Value} {os:List Out},os.all Out.flat=true→j5k S' w' as zs os→j5k S w' as zs os
 | [],[],[],_,_=>trivial
 | .ref ls::as,u::us,.ref ys::os,hf,⟨⟨g,cur,e,h1,h2,h3,h4⟩,h5⟩=>by
  simp only [qm,ja,Out.flat] at hf
  refine ⟨⟨g,cur,e,h1,h2,?_,fun o hs=>h4 o (hsub g o hs)⟩,jc9 (S1:=S1) hsub hf.2 h5⟩
  have hl:=hf.1
  clear h1 h2 hf h4 h5
  generalize cur.toList.take ys.length=l at h3
  induction ys generalizing l with
  | nil=>cases l with | nil=>trivial | cons _ _=>exact h3.elim
  | cons y ys ih=>
   cases l with
   | nil=>exact h3.elim
   | cons z l=>
    simp only [qm,ja] at hl
    exact ⟨j8V _ _ _ hl.1 h3.1,ih hl.2 l h3.2⟩
 | .rl e x::as,u::us,.rl y::os,hf,⟨⟨t,xs,h1,_⟩,_,_⟩=>by
  simp only [qm,ja,Out.flat,h1,Ty.flat] at hf
  exact absurd hf.1 (by simp)
 | .v _::as,_::us,os,hf,h=>jc9 (S1:=S1) (as:=as) (zs:=us) hsub hf h
 | .ip _::as,_::us,os,hf,h=>jc9 (S1:=S1) (as:=as) (zs:=us) hsub hf h
 | .clo _ _::as,_::us,os,hf,h=>jc9 (S1:=S1) (as:=as) (zs:=us) hsub hf h
theorem jqo {S S':j0c} {w:World} {e:Nat} {a:Ty} {xs:List a.den} {u:Value} (hf:a.flat=true) (h:jbZ S' w e a xs u):jbZ S w e a xs u:=by
 rcases h with ⟨hm,css,h1,h2⟩ | ⟨hm,h1⟩
 ·exact .inl ⟨hm,css,h1,h2.mono fun x c hx=>j8V _ _ _ hf hx⟩
 ·refine .inr ⟨hm,?_⟩
  revert hf h1
  cases a with
  | pair k b=>
   intro hf h1
   simp only [Ty.flat,ja] at hf
   obtain ⟨g,es,clock,hu,hh,ha⟩:=h1
   exact ⟨g,es,clock,hu,hh,ha.mono fun x e hx=>⟨j8V _ _ _ hf.1 hx.1,j8V _ _ _ hf.2 hx.2.1,hx.2.2⟩⟩
  | _=>intro _ h1;exact h1.elim
theorem jkl {S':j0c} {w':World} (hsub:∀ g o,S g o→S' g o):∀ {rs:List RV} {vs:List Value},rs.all RV.flat=true→All2 (jfM S' w') rs vs→All2 (jfM S w') rs vs
 | [],[],_,_=>trivial
 | r::rs,v::vs,hf,h=>by
  simp only [qm,ja] at hf
  have i1:=jkl hsub hf.2 h.2
  cases r with
  | v x=>
   obtain ⟨h1,h2,h3⟩:=h.1
   exact ⟨⟨j8V _ _ _ hf.1 h1,h2,h3⟩,i1⟩
  | own e x=>
   obtain ⟨a,xs,rfl,h1,h2⟩:=h.1
   exact ⟨⟨a,xs,rfl,jqo hf.1 h1,fun g hg o hs=>h2 g hg o (hsub g o hs)⟩,i1⟩
  | so ls=>simp [RV.flat] at hf
  | box ls=>simp [RV.flat] at hf
  | hd n=>simp [RV.flat] at hf
  | vn x ns=>simp [RV.flat] at hf
  | clo f cs=>simp [RV.flat] at hf
  | raw ns s=>simp [RV.flat] at hf
 | [],_::_,_,h=>h.elim
 | _::_,[],_,h=>h.elim
theorem jqp {rd:Nat→BS} (hrd:RdOk σ rd) {un:Ups} (h:un.all (fun e=>j62 (rd e.1))=true):∀ x∈un,σ.bx x.1 = .free:=
 fun x hx=>hrd.free (jj.1 h x hx)
theorem All2.len {α β:Type} {R:α→β→Prop} {as:List α} {bs:List β} (h:All2 R as bs):as.length=bs.length:=h.length
theorem joz {γ':Nat→Value} {bx:Nat→BS} {S':j0c} {w':World} {tmv:Nat→Value} {cs:List Cel} {vs:List Value} (h:All2 (j0o S' w' γ' bx) cs vs) :
  j3e S' w' γ' bx tmv (jeg cs) (j5l vs):=by
 match cs,vs,h with
 | [c],[v],h=>exact h.1
 | [],[],h=>exact ⟨#[],rfl,trivial⟩
 | c::c'::cs,v::v'::vs,h=>exact ⟨(v::v'::vs).toArray,rfl,by simpa using h⟩
 | [c],v::v'::vs,h=>exact h.2.elim
 | c::c'::cs,[v],h=>exact h.2.elim
 | [],v::vs,h=>exact h.elim
 | c::cs,[],h=>exact h.elim
theorem jbb {bx:Nat→BS} {k e:Nat} {t:Ty}:∀ {as:List Arg} {us:List Value} {fs:List Bk},j7A bx γ as us (.rl k e t::fs)→∀ (bs:List Arg) (vs:List Value),jg9 (as++bs) (us++vs)=some (γ k)
 | .rl e x::as,u::us,fs,⟨_,h1,_,_⟩,bs,vs=>by rw [←h1];rfl
 | .v _::as,_::us,fs,h,bs,vs=>jbb (as:=as) (us:=us) (fs:=fs) h bs vs
 | .ip _::as,_::us,fs,h,bs,vs=>jbb (as:=as) (us:=us) (fs:=fs) h bs vs
 | .clo _ _::as,_::us,fs,h,bs,vs=>jbb (as:=as) (us:=us) (fs:=fs) h bs vs
 | [],[],fs,h,_,_=>h.elim
 | .ref _::as,_::us,fs,h,_,_=>h.elim
 | [],_::_,fs,h,_,_=>h.elim
 | _::_,[],fs,h,_,_=>by cases ‹Arg› <;> exact h.elim
theorem jgF {α β:Type}:∀ (l:List α) (l':List β),List.Sublist ((l.zip l').map (·.1)) l
 | [],_=>by simp
 | _::_,[]=>by simp
 | x::l,y::l'=>by simpa using jgF l l'
theorem jip {P:Program} (hR:Rel N np S0 w0 refs σ a w S γ) {rw rd rdf:Nat→BS} (hrw:RdR σ rw) (hrd:RdOk σ rd) (hrdf:RdF np σ rdf) {T:Nat→Option TyI} {ts:List Nat} {ms:List Bool} {cs:List Cel} {as:List Arg} {us:Ups} {fs:List Bk} {zs:List Value}
  (h:jd3 rw rdf T ts ms cs=some (as,us,fs)) (ha:All2 (j0o S w γ σ.bx) cs zs) (hok:bkOk us fs=true)
  {caps:List Cap} {cv:List Value} (hcv:All2 (j6o S w) caps cv) {g:Nat} {K:Ret→Prop}
  (hspec:jqm P g (as++caps.map jd4) K) (n:Nat) :
  Calls P g (zs++cv).toArray w fun e w'=>∃ ret,K ret∧∀ s u,jiO rd rdf n us fs ret=some (s,u)→∃ v S' γ',e = .returned v∧Rel N np S0 w0 refs (σ.upd u) a w' S' γ'∧j3e S' w' γ' (σ.upd u).bx (tm a) s v:=by
 obtain ⟨hfl,hbk,hdata⟩:=jil hR hrw hrdf h ha
 simp only [bkOk,ja] at hok
 obtain ⟨hnd,hsep⟩:=hok
 have hnd:=j94 hnd
 have hlen:as.length=zs.length:=by
  have:∀ {as:List Arg} {us:List Value} {fs:List Bk},j7A σ.bx γ as us fs→as.length=us.length:=by
   intro as
   induction as with
   | nil=>intro us fs hh;cases us with | nil=>rfl | cons _ _=>exact hh.elim
   | cons a as ih=>
    intro us fs hh
    cases us with
    | nil=>cases a<;>exact hh.elim
    | cons u us=>
     cases a with
     | v x=>have:=ih (us:=us) (fs:=fs) hh;simp [this]
     | ip x=>have:=ih (us:=us) (fs:=fs) hh;simp [this]
     | clo x y=>have:=ih (us:=us) (fs:=fs) hh;simp [this]
     | ref ls=>match fs,hh with | .ref k::fs,⟨_,_,h3⟩=>have:=ih h3;simp [this]
     | rl e x=>match fs,hh with | .rl k e' t::fs,⟨_,_,_,h3⟩=>have:=ih h3;simp [this]
  exact this hbk
 obtain ⟨S1,hR1,hst1,hfz1,hsame⟩:=j2Y us σ S hR hfl
 have hsepk:∀ k,k∈fs.map Bk.name→us.any (fun y=>y.1==k)=false:=by
  intro k hk
  rw [km]
  intro x hx he
  have:=jj.1 hsep x hx
  simp only [qf] at he
  subst he
  simp only [kj,kc,k9] at this
  exact this hk
 have hsame1:∀ f∈fs,(σ.upd us).bx f.name=σ.bx f.name:=fun f hf=>j2s us σ (hsepk _ (List.mem_map_of_mem hf))
 have hbk1:=hbk.congr hsame1
 have hnoS:∀ k b,fs.any (fun y=>y.name==k)=true→σ.bx k = .live b→∀ g,blk (γ k)=some g→∀ o,¬ S1 g o:=by
  intro k b hk hb g hg o
  obtain ⟨f,hf,he⟩:=List.any_eq_true.1 hk
  have he:f.name=k:=by simpa using he
  subst he
  have hb1:(σ.upd us).bx f.name = .live b:=(hsame1 f hf).trans hb
  have hbox:=hR1.box f.name b hb1
  have hkind:(∃ ls',b = .cell ls' false)∨(∃ e t xs,b = .lst e t xs false):=by
   have:∀ {as:List Arg} {us:List Value} {fs:List Bk},j7A σ.bx γ as us fs→f∈fs→(∃ ls',σ.bx f.name = .live (.cell ls' false))∨(∃ e t xs,σ.bx f.name = .live (.lst e t xs false)):=by
    intro as
    induction as with
    | nil=>intro us fs hh hm;match us,fs,hh with | [],[],_=>simp at hm
    | cons a as ih=>
     intro us fs hh hm
     cases us with
     | nil=>cases a<;>exact hh.elim
     | cons u us=>
      cases a with
      | v x=>exact ih (us:=us) (fs:=fs) hh hm
      | ip x=>exact ih (us:=us) (fs:=fs) hh hm
      | clo x y=>exact ih (us:=us) (fs:=fs) hh hm
      | ref ls=>
       match fs,hh with
       | .ref k::fs,⟨_,⟨ls',h2⟩,h3⟩=>
        rcases je.1 hm with rfl | hm
        ·exact .inl ⟨ls',h2⟩
        ·exact ih h3 hm
      | rl e x=>
       match fs,hh with
       | .rl k e' t::fs,⟨_,_,⟨xs,h2,_⟩,h3⟩=>
        rcases je.1 hm with rfl | hm
        ·exact .inr ⟨_,t,xs,h2⟩
        ·exact ih h3 hm
   rcases this hbk hf with ⟨ls',h2⟩ | ⟨e,t,xs,h2⟩
   ·rw [hb] at h2;simp at h2;exact .inl ⟨ls',h2⟩
   ·rw [hb] at h2;simp at h2;exact .inr ⟨e,t,xs,h2⟩
  rcases hkind with ⟨ls',rfl⟩ | ⟨e,t,xs,rfl⟩
  ·obtain ⟨g',cur,e,hg',_,_,_,hS,_⟩:=hbox
   rw [hg'] at hg;simp [blk] at hg;subst hg
   exact hS rfl o
  ·exact (hbox.2 g hg).1 rfl o
 have hargs:All2 (jaA S1 w) as zs:=hdata S1 hst1 hfz1 hnoS
 have hcaps:All2 (jaA S1 w) (caps.map jd4) cv:=jov (hcv.mono (fun x z hx=>j6o.keep hst1 hx))
 have hrefs:j2F (as++caps.map jd4) (zs++cv)=j2F as zs:=by
  rw [jim _ _ _ _ hlen,jmA,qi]
 have hrefsnd:(j2F as zs).Nodup:=by
  rw [j7B hbk]
  have:=jf8 hR hnd (fun k hk=>by obtain ⟨f,hf,rfl⟩:=kv.1 hk;exact jdm hbk f hf)
  rwa [List.filterMap_map] at this
 refine (hspec w S1 (zs++cv) (hargs.append hcaps) (by rw [hrefs];exact hrefsnd) hR1.here).mono ?_
 rintro e w' ⟨ret,hK,v,S',vs,rfl,hret⟩
 refine ⟨ret,hK,fun s u hmk=> ?_⟩
 obtain ⟨hval,hrep,hfresh,hapart,houts,hstays,hnew,hhere,hbelow,hgrow,hos,htape,hout,hraw,hhead⟩:=hret
 rw [hrefs] at hbelow
 have houts:=jcG hlen houts
 refine ⟨v,?_⟩
 unfold jiO at hmk
 split at hmk
 ·-- the list handed first,cut short
  rename_i m hvm
  unfold mkHd at hmk
  generalize hro:ret.outs=ro at hmk houts
  split at hmk
  ·rename_i k e el fs' y os' _
   split at hmk
   ·rename_i uo ys huo hys
    split at hmk
    ·rename_i hcond
     simp only [ja] at hcond
     simp only [j4,j8] at hmk
     obtain ⟨rfl,rfl⟩:=hmk
     have hR2:=jfa hR1 hstays hnew hhere hbk1 hnd huo houts hbelow hgrow hos htape hout
     obtain ⟨hkeys,hobox⟩:=j9X hR1 hbk1 huo houts
     have hnk:(uo.map (·.1)).Nodup:=by rw [hkeys];exact hnd
     have huo':(k,BS.live (.lst e el ys false))∈uo:=by
      simp only [jef,jq2,hys] at huo
      split at huo
      ·simp only [j4] at huo
       rw [←huo]
       exact List.mem_cons_self
      ·simp at huo
     have hk2:=jin uo (σ.upd us) hnk huo'
     obtain ⟨bl,hbl⟩:=jax hcond.2
     have hkp:=hrdf.par hbl
     have h0:=hrd.free hcond.1
     have h1:(σ.upd us).bx n = .free:=hsame.free h0
     have hfree2:((σ.upd us).upd uo).bx n = .free:=by
      rw [j2s uo,h1]
      rw [km]
      intro y hy he
      simp only [qf] at he
      obtain ⟨b0,_,h2,_⟩:=hobox y hy
      rw [he,h1] at h2;simp at h2
     obtain ⟨ad,len,cap,hfr,hml,hvs⟩:=hhead m hvm
     have hgk:γ k = .slice ad len cap:=by
      have:=jbb hbk (caps.map jd4) cv
      rw [hfr] at this
      simpa using this.symm
     have hlen':len=ys.length:=by
      obtain ⟨css,hown,_⟩:=jmu hgk (hR2.box k _ hk2)
      rcases hown.2 with ⟨hg',hn⟩ | ⟨g,cap',cur,hg',_⟩
      ·rw [hgk] at hg';simp only [Value.slice.injEq] at hg';omega
      ·rw [hgk] at hg';simp only [Value.slice.injEq] at hg';omega
     obtain ⟨γ',hRn,hcn⟩:=jqi hR2 hk2 hkp hfree2 (m:=m) (by omega) (by rw [hgk,hlen'])
     refine ⟨S',γ',rfl,by rw [j4h,j4h];exact hRn,?_⟩
     rw [hval,hvs,j4h,j4h]
     exact hcn
    ·simp at hmk
   ·simp at hmk
  ·simp at hmk
 ·-- the results as they lie
  rename_i ns sn hvm
  unfold jo5 at hmk
  generalize hro:ret.outs=ro at hmk houts
  split at hmk
  case h_2=>simp at hmk
  split at hmk
  case isFalse=>simp at hmk
  rename_i hcond
  simp only [ja] at hcond
  simp only [j4,j8] at hmk
  obtain ⟨rfl,rfl⟩:=hmk
  have hR2:=jfa hR1 hstays hnew hhere hbk1 hnd (uo:=[]) rfl houts hbelow hgrow hos htape hout
  have hsub:∀ x∈rawU ns sn,x.1∈ns:=fun x hx=>(List.of_mem_zip hx).1
  obtain ⟨γ',hR3,zs',hv',hc'⟩:=jox (h0:=w.heap.size) hR2 hR.grow (fun k b g hb hg=>j4B (hR1.box k b hb) hg) (fun g hg=>hR.kw_new hg) (hraw ns sn hvm)
   (fun x hx=>hsame.free (hrd.free (jj.1 hcond.2 x.1 (hsub x hx)))) (by
    exact List.Nodup.sublist (jgF _ _) (j94 hcond.1))
  refine ⟨S',γ',rfl,by rw [j4h];exact hR3,?_⟩
  rw [hv',j4h]
  exact joz hc'
 split at hmk
 ·rename_i uo huo
  split at hmk
  ·rename_i cs' un hun
   split at hmk
   ·rename_i hfree
    have hfree:=jqp hrd hfree
    have hfin:∀ (usx:Ups) (Sx Sy:j0c),(usx=us∨usx=[])→Rel N np S0 w0 refs (σ.upd usx) a w Sx γ→j3p Sx w Sy w'→(∀ g o,Sy g o→Sx g o∨w.heap.size≤g)→(∀ g o,Sy g o→g<w'.heap.size)→
      j5k Sy w' as zs ret.outs→All2 (jfM Sy w') ret.vals vs→
      ∃ S' γ',Rel N np S0 w0 refs (σ.upd (usx++uo++un)) a w' S' γ'∧All2 (j0o S' w' γ' (σ.upd (usx++uo++un)).bx) cs' vs:=by
     intro usx Sx Sy husx hRx hstx hnewx hherex houtx hvalx
     have hbkx:j7A (σ.upd usx).bx γ as zs fs:=by
      rcases husx with rfl | rfl
      ·exact hbk1
      ·exact hbk
     have hR2:=jfa hRx hstx hnewx hherex hbkx hnd huo houtx hbelow hgrow hos htape hout
     obtain ⟨hkeys,hobox⟩:=j9X hRx hbkx huo houtx
     have hlive2:∀ k b,((σ.upd usx).upd uo).bx k = .live b→∃ b',(σ.upd usx).bx k = .live b':=by
      intro k b hb
      by_cases hk:uo.any (fun y=>y.1==k)=true
      ·obtain ⟨x,hx,he⟩:=List.any_eq_true.1 hk
       have he:x.1=k:=by simpa using he
       subst he
       obtain ⟨b0,_,h0,_⟩:=hobox x hx
       exact ⟨b0,h0⟩
      ·rw [j2s uo _ (qb.2 hk)] at hb
       exact ⟨b,hb⟩
     have hfree2:∀ x∈un,((σ.upd usx).upd uo).bx x.1 = .free:=by
      intro x hx
      have h0:=hfree x hx
      have h1:(σ.upd usx).bx x.1 = .free:=by
       rcases husx with rfl | rfl
       ·exact hsame.free h0
       ·exact h0
      rw [j2s uo,h1]
      rw [km]
      intro y hy he
      simp only [qf] at he
      obtain ⟨b0,_,h2,_⟩:=hobox y hy
      rw [he,h1] at h2;simp at h2
     obtain ⟨γ',hR3,_,hcel⟩:=jmB hR2 hun hvalx hfree2 hapart (fun g hg=>by
      have hge:=hfresh g hg
      refine ⟨⟨qr hR.grow hge,hR.kw_new hge⟩,fun k b hb he=> ?_⟩
      obtain ⟨b',hb'⟩:=hlive2 k b hb
      have:=j4B (hRx.box k b' hb') he
      omega)
     refine ⟨Sy,γ',?_,?_⟩
     ·rw [j4h,j4h];exact hR3
     ·rw [j4h,j4h];exact hcel
    have hcase:∃ usx,(usx=us∨usx=[])∧usx=(if ret.vals.all RV.flat&&ret.outs.all Out.flat then [] else us)∧
      ∃ S' γ',Rel N np S0 w0 refs (σ.upd (usx++uo++un)) a w' S' γ'∧All2 (j0o S' w' γ' (σ.upd (usx++uo++un)).bx) cs' vs:=by
     by_cases hflat:(ret.vals.all RV.flat&&ret.outs.all Out.flat)=true
     ·refine ⟨[],.inr rfl,by rw [if_pos hflat],?_⟩
      obtain ⟨hf1,hf2⟩:=Bool.and_eq_true_iff.1 hflat
      have hsub:∀ g o,S g o→S' g o:=fun g o hs=>(hstays g o (hst1 g o hs).1).1
      refine hfin [] S S (.inr rfl) hR (fun g o hs=>⟨hs,(hstays g o (hst1 g o hs).1).2⟩) (fun g o hs=> .inl hs) (fun g o hs=>kq (hR.here g o hs) hgrow)
       (jc9 (S1:=S1) hsub hf2 houts) (jkl hsub hf1 hrep)
     ·exact ⟨us,.inl rfl,by rw [if_neg hflat],hfin us S1 S' (.inl rfl) hR1 hstays hnew hhere houts hrep⟩
    obtain ⟨usx,_,husx,S2,γ2,hR2,hcel2⟩:=hcase
    have hs:s=jeg cs'∧u=(if ret.vals.all RV.flat&&ret.outs.all Out.flat then [] else us)++uo++un:=by
     clear hcel2 hfin hR2 hun
     revert hmk
     match cs' with
     | [c]=>simp only [j4,j8];rintro ⟨rfl,rfl⟩;exact ⟨rfl,rfl⟩
     | []=>simp only [j4,j8];rintro ⟨rfl,rfl⟩;exact ⟨rfl,rfl⟩
     | c::c'::r=>simp only [j4,j8];rintro ⟨rfl,rfl⟩;exact ⟨rfl,rfl⟩
    obtain ⟨rfl,rfl⟩:=hs
    rw [←husx]
    exact ⟨S2,γ2,rfl,hR2,by rw [hval];exact joz hcel2⟩
   ·simp at hmk
  ·simp at hmk
 ·simp at hmk
theorem jmC {P:Program} {f:Nat} (hf:Fun P f) {o:Oper} {cl:Call} (ho:o.op = .call cl) {x:Operand} (hc:cl.callee = .value x) {cv:Array Value} (hx:a.eval x = .func (.func f) #[] cv) :
  (execOp a.eval o).run P w = .ok (.enter f (cl.args.map a.eval++cv)) w:=by
 obtain ⟨fn,h1,h2,h3⟩:=hf
 have h2':¬ fn.body=none:=fun hn=>by rw [hn] at h2;simp at h2
 have h3' : ¬ fn.name = "runtime.NumGoroutine" := by simpa using h3
 simp [execOp,ho,resolve,hc,Deferred.ofValue,hx,invoke,callFunc,h1,h2',h3']
end
section
variable {N:NT} {np:Nat} {S0:j0c} {w0:World} {refs:Refs} {σ:St} {a:Go.Act} {w:World} {S:j0c} {γ:Nat→Value}
def keyV:(k:Ty)→k.den→Value
 | .int q,n=> .int q n
 | .str,s=> .string s
 | _,_=>undef
theorem jgG:∀ {k:Ty} {x:k.den} {u:Value},k.isKey=true→(Rep S w k x [u]↔u=keyV k x)
 | .int q,x,u,_=>by simp [Rep,keyV]
 | .str,x,u,_=>by simp [Rep,keyV]
 | .bool,_,_,h=>by simp [Ty.isKey] at h
 | .unit,_,_,h=>by simp [Ty.isKey] at h
 | .wrap _,_,_,h=>by simp [Ty.isKey] at h
 | .pair _ _,_,_,h=>by simp [Ty.isKey] at h
 | .list _,_,_,h=>by simp [Ty.isKey] at h
 | .arr _ _,_,_,h=>by simp [Ty.isKey] at h
def keyD:Ty→TypeDesc
 | .int q=> .int q
 | _=> .string
theorem jqq {P:Program} {T:Nat→Option TyI} (hT:j22 P T) {n:Nat} {ti:TyI} (hn:T n=some ti) {k:Ty} (hty:ti.ty=some k) (hk:k.isKey=true):P.underlying n=some (keyD k):=by
 cases k with
 | int q=>exact jlA hT hn hty
 | str=>exact jlD hT hn hty
 | _=>simp [Ty.isKey] at hk
theorem jr9 {k:Ty} (hk:k.isKey=true) (x:k.den):MapKept.IsKey (keyD k) (keyV k x):=by
 cases k with
 | int q=>rfl
 | str=>trivial
 | _=>simp [Ty.isKey] at hk
theorem jqr {k:Ty} (hk:k.isKey=true) (x y:k.den):Instr.sameNow (keyD k) (keyV k x) (keyV k y)=some (@BEq.beq _ k.keq x y):=by
 cases k with
 | int q=>simp [keyD,keyV,Instr.sameNow]
 | str=>simp [keyD,keyV,Instr.sameNow]
 | _=>simp [Ty.isKey] at hk
theorem jsA {k:Ty} (hk:k.isKey=true) {x y:k.den} (h:@BEq.beq _ k.keq x y=true):x=y:=by
 cases k with
 | int q=>simpa [Ty.keq] using h
 | str=>exact (MapKept.bytes_beq x y).1 h
 | _=>simp [Ty.isKey] at hk
theorem jqs {k:Ty} (hk:k.isKey=true) (x:k.den):Instr.sameBits 10000 (keyV k x) (keyV k x)=true:=by
 cases k with
 | int q=>simp [keyV,Instr.sameBits]
 | str=>simp only [keyV,Instr.sameBits];exact (MapKept.bytes_beq x x).2 rfl
 | _=>simp [Ty.isKey] at hk
def jmD (S:j0c) (w:World) (k v:Ty) (x:k.den×v.den) (e:MapEntry):Prop:=Rep S w k x.1 [e.key]∧VRep S w ⟨v,x.2⟩ e.val
theorem jiV {k v:Ty} (hk:k.isKey=true) (q:k.den):∀ {xs:List (k.den×v.den)} {es:List MapEntry},All2 (jmD S w k v) xs es→∀ i:Nat,
  (@jfw _ _ k.keq xs q=true∧∃ j e,Instr.findNow (keyD k) (keyV k q) es i=some (some (i+j,e.val))∧es[j]? = some e∧e.key=keyV k q∧VRep S w ⟨v,@jbA _ _ k.keq v.dflt xs q⟩ e.val∧
   ∀ (z:v.den) (e':MapEntry),e'.key=keyV k q→VRep S w ⟨v,z⟩ e'.val→All2 (jmD S w k v) (@jar _ _ k.keq xs q z) (es.set j e'))∨
  (@jfw _ _ k.keq xs q=false∧Instr.findNow (keyD k) (keyV k q) es i=some none∧@jbA _ _ k.keq v.dflt xs q=v.dflt∧∀ z,@jar _ _ k.keq xs q z=xs++[(q,z)])
 | [],[],_,i=> .inr ⟨rfl,rfl,rfl,fun _=>rfl⟩
 | x::xs,e::es,h,i=>by
  have hek:e.key=keyV k x.1:=(jgG hk).1 h.1.1
  have hs:=jqr hk q x.1
  rw [←hek] at hs
  cases hb:@BEq.beq _ k.keq q x.1 with
  | true=>
   rw [hb] at hs
   have hqx:=jsA hk hb
   refine .inl ⟨by simp [jfw,hb],0,e,by simp [Instr.findNow,hs],rfl,by rw [hek,hqx],?_,fun z e' h1 h2=> ?_⟩
   ·simp only [jbA,hb,j5];exact h.1.2
   ·simp only [jar,hb,j5,List.set_cons_zero]
    exact ⟨⟨(jgG hk).2 h1,h2⟩,h.2⟩
  | false=>
   rw [hb] at hs
   rcases jiV hk q h.2 (i+1) with ⟨h1,j,e',h2,h3,h4,h5,h6⟩ | ⟨h1,h2,h3,h4⟩
   ·refine .inl ⟨by simp only [jfw,List.any_cons,hb,Bool.false_or];exact h1,j+1,e',by simp only [Instr.findNow,hs,h2];congr 3;omega,by simpa using h3,h4,?_,fun z e2 g1 g2=> ?_⟩
    ·simp only [jbA,hb,j6];exact h5
    ·simp only [jar,hb,j6,List.set_cons_succ]
     exact ⟨h.1,h6 z e2 g1 g2⟩
   ·refine .inr ⟨by simp only [jfw,List.any_cons,hb,Bool.false_or];exact h1,by simp only [Instr.findNow,hs,h2],?_,fun z=> ?_⟩
    ·simp only [jbA,hb,j6];exact h3
    ·simp only [jar,hb,j6,h4 z];rfl
 | [],_::_,h,_=>h.elim
 | _::_,[],h,_=>h.elim
theorem jmE {P:Program} {T:Nat→Option TyI} (hT:j22 P T) {t:Nat} {k v:Ty} (h:jlu T t=some (k,v)) :
  ∃ kt vt tv,P.underlying t=some (.map kt vt)∧P.underlying kt=some (keyD k)∧k.isKey=true∧T vt=some tv∧tv.ty=some v:=by
 unfold jlu at h
 split at h
 ·rename_i ti hti
  split at h
  ·rename_i k0 v0 hmp
   split at h
   ·rename_i tk tv htk htv
    split at h
    ·rename_i k1 v1 hk1 hv1
     split at h
     ·rename_i hik
      simp only [j4,j8] at h
      obtain ⟨rfl,rfl⟩:=h
      exact ⟨k0,v0,tv,jrK hT hti hmp,jqq hT htk hk1 hik,hik,htv,hv1⟩
     ·simp at h
    ·simp at h
   ·simp at h
  ·simp at h
 ·simp at h
theorem joA {rw:Nat→BS} (hrw:RdR σ rw) {t:Nat} {k v:Ty} {x y:Leaf} {b:Nat} {ys:List (k.den×v.den)} {q:k.den} (h:mapC rw t k v x y=some (b,ys,q)) :
  x = .ol b∧y = .d k q∧σ.bx b = .live (.lst (4294967296+t) (.pair k v) ys false):=by
 unfold mapC at h
 split at h
 ·rename_i b0 tk key
  split at h
  ·rename_i e a0 xs hb
   split at h
   ·rename_i he
    split at h
    ·rename_i ys' q' h1 h2
     simp only [j4,j8] at h
     obtain ⟨rfl,rfl,rfl⟩:=h
     have e1:=jcS h1
     have e2:=jcS h2
     cases e1;cases e2
     subst he
     exact ⟨rfl,rfl,hrw.live hb⟩
    ·simp at h
   ·simp at h
  ·simp at h
 ·simp at h
theorem jel (t:Nat):isM (4294967296+t)=true:=by
 unfold isM;rw [Nat.ble_eq];exact Nat.le_add_right _ _
theorem joB (hR:Rel N np S0 w0 refs σ a w S γ) {b t:Nat} {k v:Ty} {ys:List (k.den×v.den)} {f:Bool} (hb:σ.bx b = .live (.lst (4294967296+t) (.pair k v) ys f)) :
  ∃ g es clock,γ b = .map (some g)∧w.heap[g]? = some (.map es clock)∧All2 (jmD S w k v) ys es.toList:=by
 have h:=(hR.box b _ hb).1
 rcases h with ⟨hm,_⟩ | ⟨_,g,es,clock,h1,h2,h3⟩
 ·rw [jel] at hm;simp at hm
 ·exact ⟨g,es,clock,h1,h2,h3⟩
theorem joC {P:Program} {T:Nat→Option TyI} (hT:j22 P T) {n:Nat} {ti:TyI} (hn:T n=some ti) {t:Ty} (hty:ti.ty=some t):∃ z,(zeroValue n).run P w = .ok z w∧VRep S w ⟨t,t.dflt⟩ z:=by
 obtain ⟨i,d,hi,hd,hs,_,ha,_,h⟩:=j4c hT hn
 obtain ⟨_,⟨z,hz,hc⟩,hdo⟩:=h t hty
 have hzo:=jq8 hT hn hi hd
 refine ⟨z,by simp [zeroValue,typeInfo,hi,hz],?_,?_,?_⟩
 ·rw [hc];exact j6t t
 ·intro hm
  have:aggD d=true:=by
   cases d<;>cases t<;>simp_all [j6Q,j96,aggD,Ty.agg]
  simp only [zOk,hz] at hzo
  cases z<;>simp_all
 ·intro hm
  have:aggD d=false:=by
   cases d<;>cases t<;>simp_all [j6Q,j96,aggD,Ty.agg]
  simp only [zOk,hz] at hzo
  cases z<;>first | rfl | simp_all
theorem jlG {P:Program} {E:Env} (hT:j22 P E.T) (hR:Rel N np S0 w0 refs σ a w S γ) {rw:Nat→BS} (hrw:RdR σ rw) {t:Nat} {k v:Ty} (ht:jlu E.T t=some (k,v)) {x y:Leaf} {b:Nat} {ys:List (k.den×v.den)} {q:k.den}
  (h:mapC rw t k v x y=some (b,ys,q)) {zx zy:Value} (hx:j09 S w γ σ.bx x zx) (hy:j09 S w γ σ.bx y zy) :
  ∃ z,VRep S w ⟨v,@jbA _ _ k.keq v.dflt ys q⟩ z∧∀ ok,(Instr.lookup t zx zy ok).run P w = .ok (if ok then .tuple #[z,.bool (@jfw _ _ k.keq ys q)] else z) w:=by
 obtain ⟨kt,vt,tv,hund,hkd,hik,htv,htvy⟩:=jmE hT ht
 obtain ⟨rfl,rfl,hb⟩:=joA hrw h
 obtain ⟨g,es,clock,hg,hh,ha⟩:=joB hR hb
 have hzx:zx = .map (some g):=(hx.2.2 _ hb).trans hg
 have hzy:zy=keyV k q:=(jgG hik).1 hy
 subst hzx;subst hzy
 have hck:=MapKept.run_checkKey (w:=w) hkd (jr9 hik q) es.isEmpty 9999
 rcases jiV hik q ha 0 with ⟨h1,j,e,h2,h3,h4,h5,h6⟩ | ⟨h1,h2,h3,h4⟩
 ·refine ⟨e.val,h5,fun ok=> ?_⟩
  have hf:=MapKept.run_findKey (w:=w) hkd h2
  simp only [Instr.lookup,Sem.run_bind,run_underlying hund,Result.andThen_ok,MapKept.run_getObj_map hh,Sem.run_pure,hck,hf,h1]
 ·obtain ⟨z,hz,hzv⟩:=joC (S:=S) (w:=w) hT htv htvy
  refine ⟨z,by rw [h3];exact hzv,fun ok=> ?_⟩
  have hf:=MapKept.run_findKey (w:=w) hkd h2
  simp only [Instr.lookup,Sem.run_bind,run_underlying hund,Result.andThen_ok,MapKept.run_getObj_map hh,Sem.run_pure,hck,hf,h1,hz]
theorem joD (hR:Rel N np S0 w0 refs σ a w S γ) {k:Nat} {b b':Bx} (hk:σ.bx k = .live b) {g:Nat} (hg:blk (γ k)=some g) (hS:∀ o,¬ S g o) (hsh:j1U b b')
  {w':World} (hoth:∀ i,i≠g→w'.heap[i]? = w.heap[i]?) (hsz:w'.heap.size=w.heap.size) (hos:w'.os=w.os) (htp:w'.tape=w.tape) (hout:w'.output=w.output)
  (hb:BxLe γ σ.bx γ (σ.setB k (.live b')).bx→j3p S w S w'→j2c S w' γ (σ.setB k (.live b')).bx k b') :
  Rel N np S0 w0 refs (σ.setB k (.live b')) a w' S γ:=by
 have hle:BxLe γ σ.bx γ (σ.setB k (.live b')).bx:=by
  intro k' hk'
  by_cases hkk:k'=k
  ·subst hkk
   rw [j0E]
   exact ⟨by simp,rfl,fun b1 hb1=>by simp at hb1;subst hb1;exact ⟨b,hk,hsh⟩⟩
  ·rw [j05 σ _ hkk]
   exact ⟨hk',rfl,fun b hb=>⟨b,hb,.refl b⟩⟩
 have hst:j3p S w S w':=by
  intro g' o h
  refine ⟨h,World.cell?_of_block (hoth g' ?_)⟩
  rintro rfl
  exact hS o h
 have live':∀ k' b1,(σ.setB k (.live b')).bx k' = .live b1→∃ b2,σ.bx k' = .live b2:=by
  intro k' b1 h1
  by_cases hkk:k'=k
  ·subst hkk;exact ⟨b,hk⟩
  ·rw [j05 σ _ hkk] at h1;exact ⟨b1,h1⟩
 refine Rel.step (bx':=(σ.setB k (.live b')).bx) hR hst hle ?_ ?_ ?_ hR.new ?_ ?_ ?_ (hos.trans hR.os) (htp.trans hR.tape) (hout.trans hR.output) (fun g' _ _ h=>⟨hoth g' (fun e=>h k b hk (e▸hg)),fun k' b1 h1=>by
  obtain ⟨b2,h2⟩:=live' k' b1 h1
  exact h k' b2 h2⟩)
 ·intro k' b1 h1
  by_cases hkk:k'=k
  ·subst hkk
   rw [j0E] at h1;simp at h1;subst h1
   exact hb hle hst
  ·rw [j05 σ _ hkk] at h1
   refine j2c.keep hst hle rfl (fun g' hg'=>⟨?_,fun _=>Iff.rfl⟩) (hR.box k' b1 h1)
   exact hoth g' (fun h=>hR.apart k' k b1 b g hkk h1 hk (h▸hg') hg)
 ·intro k' b1 g' h1 hg'
  obtain ⟨b2,h2⟩:=live' k' b1 h1
  exact hR.own k' b2 g' h2 hg'
 ·intro k1 k2 b1 b2 g' hne h1 h2 hg'
  obtain ⟨b1',h1'⟩:=live' k1 b1 h1
  obtain ⟨b2',h2'⟩:=live' k2 b2 h2
  exact hR.apart k1 k2 b1' b2' g' hne h1' h2' hg'
 ·intro g' o h;rw [hsz];exact hR.here g' o h
 ·intro g' hg' hr
  rw [hoth g' ?_]
  ·exact hR.below g' hg' hr
  ·rintro rfl
   rcases hR.own k b _ hk hg with h | h
   ·omega
   ·exact hr h.1
 ·rw [hsz];exact hR.grow
theorem jnu {P:Program} {E:Env} (hT:j22 P E.T) (hR:Rel N np S0 w0 refs σ a w S γ) {rw:Nat→BS} (hrw:RdR σ rw) {t:Nat} {k v:Ty} (ht:jlu E.T t=some (k,v)) {x y:Leaf} {b:Nat} {ys:List (k.den×v.den)} {q:k.den}
  (h:mapC rw t k v x y=some (b,ys,q)) {zx zy zz:Value} (hx:j09 S w γ σ.bx x zx) (hy:j09 S w γ σ.bx y zy) {rdf:Nat→BS} (hrdf:RdF np σ rdf) {c:Cel} {z:v.den} {u:Ups} (hd:jbB rdf v c=some (z,u)) (hz:j0o S w γ σ.bx c zz) :
  ∃ w' S',(Instr.mapUpdate t zx zy zz).run P w = .ok () w'∧Rel N np S0 w0 refs (σ.upd (u++[(b,.live (.lst (4294967296+t) (.pair k v) (@jar _ _ k.keq ys q z) false))])) a w' S' γ:=by
 obtain ⟨kt,vt,tv,hund,hkd,hik,htv,htvy⟩:=jmE hT ht
 obtain ⟨rfl,rfl,hb⟩:=joA hrw h
 obtain ⟨hfl,hrep,_⟩:=jaz hrdf hR.box hd hz
 obtain ⟨S1,hR1,hst1,hfz1,hsame⟩:=j2Y u σ S hR hfl
 have hnb:u.any (fun y=>y.1==b)=false:=by
  rw [km]
  intro y hy hyb
  obtain ⟨_,e,t',xs,f,h1,_,hm⟩:=hfl y hy
  rw [show y.1=b by simpa using hyb,hb] at h1
  cases h1
  rw [jel] at hm;simp at hm
 have hb1:(σ.upd u).bx b = .live (.lst (4294967296+t) (.pair k v) ys false):=(j2s u σ hnb).trans hb
 obtain ⟨g,es,clock,hg,hh,ha⟩:=joB hR1 hb1
 have hzx:zx = .map (some g):=(hx.2.2 _ hb).trans hg
 have hzy:zy=keyV k q:=(jgG hik).1 hy
 subst hzx;subst hzy
 have hvz:=hrep S1 w hst1 hfz1
 have hgb:blk (γ b)=some g:=by rw [hg];rfl
 have hS:∀ o,¬ S1 g o:=((hR1.box b _ hb1).2 g hgb).1 rfl
 have hck:=MapKept.run_checkKey (w:=w) hkd (jr9 hik q) false 9999
 have main:∃ es' clock',(Instr.mapUpdate t (.map (some g)) (keyV k q) zz).run P w = .ok () { w with heap:=w.heap.setIfInBounds g (.map es' clock') }∧All2 (jmD S1 w k v) (@jar _ _ k.keq ys q z) es'.toList:=by
  rcases jiV hik q ha 0 with ⟨h1,j,e,h2,h3,h4,h5,h6⟩ | ⟨h1,h2,h3,h4⟩
  ·have hf:=MapKept.run_findKey (w:=w) hkd h2
   rw [js] at hf
   refine ⟨es.modify j fun e=>{ e with key:=keyV k q,val:=zz },clock,?_,?_⟩
   ·have hjk:((es[j]?).map (·.key)).getD (keyV k q)=keyV k q:=by
     rw [show es[j]? = some e by simpa using h3];exact h4
    simp only [Instr.mapUpdate,Sem.run_bind,run_underlying hund,Result.andThen_ok,MapKept.run_getObj_map hh,hck,hf,Instr.keyThatStays,hjk,jqs hik q,if_true,Sem.run_pure,MapKept.run_setObj_map _ hh]
   ·have e1:(es.modify j fun e=>{ e with key:=keyV k q,val:=zz }).toList=es.toList.set j { e with key:=keyV k q,val:=zz }:=by
     refine List.ext_getElem? fun i=> ?_
     rw [Array.getElem?_toList,Array.getElem?_modify,List.getElem?_set]
     have h3':es[j]? = some e:=by simpa using h3
     by_cases hij:j=i
     ·subst hij
      simp only [if_true,h3',ko]
      rw [if_pos (by simpa using (jc.1 h3').1)]
     ·simp [hij]
    rw [e1]
    exact h6 z _ rfl hvz
  ·have hf:=MapKept.run_findKey (w:=w) hkd h2
   refine ⟨es.push { key:=keyV k q,val:=zz,born:=clock },clock+1,?_,?_⟩
   ·simp only [Instr.mapUpdate,Sem.run_bind,run_underlying hund,Result.andThen_ok,MapKept.run_getObj_map hh,hck,hf,MapKept.run_setObj_map _ hh]
   ·rw [h4 z,Array.toList_push]
    exact ha.append ⟨⟨(jgG hik).2 rfl,hvz⟩,trivial⟩
 obtain ⟨es',clock',hrun,hall⟩:=main
 have hlt:g<w.heap.size:=(jc.1 hh).1
 refine ⟨_,S1,hrun,?_⟩
 rw [j4h]
 refine joD hR1 hb1 hgb hS (b':= .lst (4294967296+t) (.pair k v) (@jar _ _ k.keq ys q z) false) ⟨rfl,rfl,fun hm=>by rw [jel] at hm;simp at hm⟩ (fun i hi=>by simp [Ne.symm hi]) (by simp) rfl rfl rfl fun hle hst=> ?_
 refine ⟨.inr ⟨jel t,g,es',clock',hg,by simp [hlt],hall.mono fun x e hx=>⟨Rep.keep hst _ _ _ hx.1,VRep.keep hst hx.2⟩⟩,fun g' hg'=> ?_⟩
 rw [hgb] at hg';simp at hg';subst hg'
 exact ⟨fun _=>hS,fun h=>by simp at h⟩
theorem jnv {P:Program} (hR:Rel N np S0 w0 refs σ a w S γ) {n t:Nat} {k v:Ty} (hn:σ.bx n = .free) :
  ∃ γ',(Instr.makeMap t none).run P w = .ok (.map (some w.heap.size)) (w.alloc (.map #[] 0))∧Rel N np S0 w0 refs (σ.setB n (.live (.lst (4294967296+t) (.pair k v) [] false))) a (w.alloc (.map #[] 0)) S γ'∧
   j0o S (w.alloc (.map #[] 0)) γ' (σ.setB n (.live (.lst (4294967296+t) (.pair k v) [] false))).bx (.one (.ol n)) (.map (some w.heap.size)):=by
 have hnb:=jlE hR hn (o:= .map #[] 0) (b:= .lst (4294967296+t) (.pair k v) [] false) (v:= .map (some w.heap.size)) (fun g hg=>by simp [blk] at hg;exact hg.symm) (fun hle=>by
  refine ⟨.inr ⟨jel t,w.heap.size, #[],0,j0z _ _ _,heap_alloc_new w _,trivial⟩,fun g hg=> ?_⟩
  rw [j0z] at hg;simp [blk] at hg;subst hg
  exact ⟨fun _ o ho=>by have:=hR.here _ o ho;omega,fun h=>by simp at h⟩)
 refine ⟨_,rfl,hnb.1,⟨?_,rfl,fun b hb=>(j0z _ _ _).symm⟩,fun _=>rfl⟩
 rw [j0E];simp
end
section
variable {N:NT} {np:Nat} {S0:j0c} {w0:World} {refs:Refs} {σ:St} {a:Go.Act} {w:World} {S:j0c} {γ:Nat→Value}
theorem jnw {P:Program} {E:Env} (hT:j22 P E.T) (hR:Rel N np S0 w0 refs σ a w S γ) {rdf:Nat→BS} (hrdf:RdF np σ rdf) {t:TypeId} {ti:TyI} (ht:E.T t=some ti)
  {m:Nat} {el:Ty} (hty:ti.ty=some (.arr m el)) {ps:List (Nat×Cel)} {vs:Array (Nat×Value)} {xs:List el.den} {u:Ups}
  (hps:All2 (fun p v=>p.1=v.1∧j0o S w γ σ.bx p.2 v.2) ps vs.toList) (h:j6H rdf el (List.replicate m el.dflt) [] ps=some (xs,u)) :
  ∃ v S',(Instr.build t vs).run P w = .ok v w∧Rel N np S0 w0 refs (σ.upd u) a w S' γ∧j0o S' w γ (σ.upd u).bx (.av m el xs) v:=by
 obtain ⟨hund,hpos,te,hte,htety⟩:=jf3 hT ht hty
 have hsz:=j80 hT hte htety
 obtain ⟨z,hz,hzc⟩:=jb4 hT ht w hty
 obtain ⟨hfl,hrest⟩:=jf6 hrdf hR.box hpos ps vs.toList hps h .nil
 obtain ⟨S1,hR1,hst1,hfz1,hsame⟩:=j2Y u σ S hR hfl
 obtain ⟨hrl,css,hall,hflat⟩:=j6t (S:=S1) (w:=w) (.arr m el)
 obtain ⟨cells',css',hfill,hall',hcells⟩:=hrest S1 hst1 hfz1 css z.cells hall (by rw [hzc];exact hflat)
 have hlen:∀ (ps:List (Nat×Cel)) {xs xs':List el.den} {u u':Ups},j6H rdf el xs u ps=some (xs',u')→xs'.length=xs.length:=by
  intro ps
  induction ps with
  | nil=>intro xs xs' u u' h;simp [j6H] at h;rw [h.1]
  | cons p ps ih=>
   intro xs xs' u u' h
   obtain ⟨i,c⟩:=p
   simp only [j6H] at h
   split at h
   ·split at h
    ·rw [ih h];simp
    ·simp at h
   ·simp at h
 have hxl:xs.length=m:=by rw [hlen ps h];simp
 refine ⟨.agg cells',S1,?_,hR1,cells',rfl,hxl,css',hall',hcells⟩
 simp only [Instr.build,Sem.run_bind,hz,Result.andThen_ok,run_underlying hund,j2q hT hte,←hsz,hfill,Sem.run_pure]
theorem jnx {P:Program} {E:Env} (hT:j22 P E.T) {bx:Nat→BS} {t:TypeId} {ti:TyI} (ht:E.T t=some ti) {m:Nat} {el:Ty} (hty:ti.ty=some (.arr m el)) :
  ∃ v,(Instr.build t #[]).run P w = .ok v w∧j0o S w γ bx (.st (jec (.arr m el))) v:=by
 obtain ⟨hund,hpos,te,hte,htety⟩:=jf3 hT ht hty
 obtain ⟨z,hz,hzc⟩:=jb4 hT ht w hty
 refine ⟨.agg z.cells,?_,z.cells,rfl,by rw [hzc];exact j82 (.arr m el),fun u hu=>jg8 hzc u (by simpa using hu)⟩
 simp only [Instr.build,Sem.run_bind,hz,Result.andThen_ok,run_underlying hund,j2q hT hte]
 rfl
theorem jkm {rd:Nat→BS} (hrd:RdF np σ rd) (hB:jnn S w γ σ.bx) {el:Ty}:∀ {ls:List Leaf} {xs:List el.den} {u:Ups} {zs:List Value},jiN rd el ls=some (xs,u)→All2 (j09 S w γ σ.bx) ls zs→
  FrzL np σ.bx u∧∀ S' w',j3p S w S' w'→Froz σ.bx γ S' w' u→All2 (fun x z=>Rep S' w' el x [z]) xs zs
 | [],xs,u,zs,h,ha=>by
  simp [jiN] at h
  obtain ⟨rfl,rfl⟩:=h
  cases zs with
  | nil=>exact ⟨.nil,fun _ _ _ _=>trivial⟩
  | cons _ _=>exact ha.elim
 | l::ls,xs,u,zs,h,ha=>by
  cases zs with
  | nil=>exact ha.elim
  | cons z zs=>
   simp only [jiN] at h
   split at h
   ·rename_i x u1 xs1 u2 h1 h2
    simp only [j4,j8] at h
    obtain ⟨rfl,rfl⟩:=h
    obtain ⟨f1,p1⟩:=j81 hrd hB h1 ha.1
    obtain ⟨f2,p2⟩:=jkm hrd hB h2 ha.2
    exact ⟨FrzL.app.2 ⟨f1,f2⟩,fun S' w' hk hf=>⟨p1 S' w' hk (Froz.app.1 hf).1,p2 S' w' hk (Froz.app.1 hf).2⟩⟩
   ·simp at h
theorem jiq {el:Ty} {S':j0c} {w':World}:∀ {xs:List el.den} {zs:List Value},All2 (fun x z=>Rep S' w' el x [z]) xs zs→∃ css,All2 (fun x c=>Rep S' w' el x c) xs css∧zs=css.flatten
 | [],[],_=>⟨[],trivial,rfl⟩
 | x::xs,z::zs,h=>by
  obtain ⟨css,h1,h2⟩:=jiq h.2
  exact ⟨[z]::css,⟨h.1,h1⟩,by simp [h2]⟩
 | [],_::_,h=>h.elim
 | _::_,[],h=>h.elim
theorem joE {P:Program} {E:Env} (hT:j22 P E.T) (hR:Rel N np S0 w0 refs σ a w S γ) {rd rdf:Nat→BS} (hrd:RdOk σ rd) (hrdf:RdF np σ rdf) {t:TypeId} {ti:TyI} (ht:E.T t=some ti)
  {x:Leaf} {m:Nat} {el:Ty} {ls:List Leaf} {xs:List el.den} {u:Ups} {v:Value} (h:jed rd ti.ty x=some (m,el,ls)) (hg:jiN rdf el ls=some (xs,u)) (hl:xs.length=m) (hx:j09 S w γ σ.bx x v) :
  ∃ z S',(Instr.loadAt t v).run P w = .ok z w∧Rel N np S0 w0 refs (σ.upd u) a w S' γ∧j0o S' w γ (σ.upd u).bx (.av m el xs) z:=by
 unfold jed at h
 split at h
 ·rename_i k
  split at h
  ·rename_i m' el' hty
   split at h
   ·split at h
    ·rename_i ls' hk
     simp only [j4,j8] at h
     obtain ⟨rfl,rfl,rfl⟩:=h
     have hk:=hrd.live hk
     obtain ⟨g,hg',hu⟩:=hx.2.2 _ hk
     obtain ⟨g',cur,e,hg2,hh,ha,h1,_⟩:=hR.box k _ hk
     rw [hg'] at hg2;simp at hg2;subst hg2
     obtain ⟨hfl,hrest⟩:=jkm hrdf hR.box hg ha
     obtain ⟨S1,hR1,hst1,hfz1,hsame⟩:=j2Y u σ S hR hfl
     obtain ⟨css,hall,hcs⟩:=jiq (hrest S1 w hst1 hfz1)
     have hrep:Rep S1 w (.arr m' el') xs (cur.toList.take ls'.length):=⟨hl,css,hall,hcs⟩
     obtain ⟨hud,_,_⟩:=jf3 hT ht hty
     have hsz:(cur.toList.take ls'.length).length=ti.size:=by
      have:=Rep.length _ _ _ hrep
      rw [j80 hT ht hty] at this
      exact this
     refine ⟨.agg (cur.toList.take ls'.length).toArray,S1,?_,hR1,(cur.toList.take ls'.length).toArray,rfl,by simpa using hrep⟩
     subst hu
     have hld:=jkd (w:=w) (g:=g) (o:=0) (cs:=cur.toList.take ls'.length) (fun j v hv=>by
      rw [js,cell_of_row w g j cur e (0,0) hh]
      rw [ke] at hv
      split at hv
      ·simpa using hv
      ·simp at hv) P
     rw [hsz] at hld
     have hagg:(isAgg t).run P w = .ok true w:=by simp [isAgg,run_underlying hud]
     simp only [Instr.loadAt,Sem.run_bind,Instr.sureAddr,Sem.run_pure,Result.andThen_ok,loadVar,hagg,if_true,j2q hT ht,hld]
    ·simp at h
   ·simp at h
  ·simp at h
 ·simp at h
def Slot.bare:Slot→Bool
 | .cnd _ _ _=>false
 | _=>true
theorem jkn {fr:Bool} {b:Ty} {n len:Nat} {ps:List (Nat×Cel)} {f:Nat} {args:List Arg} {mk:Ret→Option (Slot×Ups)}:one1 fr b n len ps≠some (.call f args mk):=by
 unfold one1
 split
 ·split
  ·split<;>simp
  ·simp
 ·simp
theorem jem (cs:List Cel):(jeg cs).bare=true:=by
 unfold jeg
 split<;>rfl
theorem jko (hR:Rel N np S0 w0 refs σ a w S γ) {act:List (Nat×Bool)} (hact:jgu (tm a) act) (ps:List (Nat×Operand)) :
  All2 (fun p v=>p.1=v.1∧j0o S w γ σ.bx p.2 v.2) (ps.map fun p=>(p.1,(σ.ev p.2).cel act)) (ps.map fun p=>(p.1,a.eval p.2)):=by
 induction ps with
 | nil=>trivial
 | cons p ps ih=>exact ⟨⟨rfl,j13 hR hact p.2⟩,ih⟩
theorem jgb (hR:Rel N np S0 w0 refs σ a w S γ) {act:List (Nat×Bool)} (hact:jgu (tm a) act) (ps:List Operand) :
  All2 (j0o S w γ σ.bx) (ps.map fun p=>(σ.ev p).cel act) (ps.map a.eval):=by
 induction ps with
 | nil=>trivial
 | cons p ps ih=>exact ⟨j13 hR hact p,ih⟩
theorem jir {rd:Nat→BS} (hrd:RdOk σ rd):RdF np σ (fun k=>if parK np k then .gone else rd k):=by
 refine ⟨fun k=> ?_,fun k e a xs f h=> ?_⟩
 rotate_left
 ·dsimp only at h
  split at h
  ·simp at h
  ·exact hrd.2 k e a xs f h
 dsimp only
 split
 ·exact .inr rfl
 ·rename_i hp
  rcases hrd.1 k with h | h
  ·exact .inl ⟨h,by simpa using hp⟩
  ·exact .inr h
theorem j9Y {P:Program} {o:Oper} {l:Leaf} {v:Value} (hR:Rel N np S0 w0 refs σ a w S γ) (hr:(execOp a.eval o).run P w = .ok (.value v) w)
  (hs:j09 S w γ σ.bx l v) (h1:One v):joe P N np S0 w0 refs o σ a w S γ (.one (.one l)) []:=
 j2r hR hr ⟨hs,fun _=>h1⟩
theorem jlH {c:Cel} {l:Leaf} (h:lf c=l) (hd:l ≠ .dead):c = .one l:=by
 cases c with
 | one x=>simp [lf] at h;rw [h]
 | st ls=>simp [lf] at h;exact absurd h.symm hd
 | av n a xs=>simp [lf] at h;exact absurd h.symm hd
theorem jlI {P:Program} {E:Env} (hT:j22 P E.T) (hR:Rel N E.np S0 w0 refs σ a w S γ) {act:List (Nat×Bool)} (hact:jgu (tm a) act) {rw:Nat→BS} (hrw:RdR σ rw)
  {o:Oper} {s:Slot} {u:Ups} (h:j3C E σ.ev rw act o=some (.val true s u)):joe P N E.np S0 w0 refs o σ a w S γ s u∧s.bare=true:=by
 have hrd:RdOk σ (mskM rw):=hrw.msk
 have hrdf:=jir (np:=E.np) hrd
 have hex:∀ op,o.op=op→execOp a.eval o=execOp a.eval { o with op:=op }:=fun op h=>by subst h;rfl
 unfold j3C at h
 dsimp only at h
 split at h
 ·-- move
  rename_i x hop
  split at h
  ·rename_i l hl
   simp only [j4,Act.val.injEq] at h
   obtain ⟨_,rfl,rfl⟩:=h
   have:=jc0 hR x
   rw [hl] at this
   exact ⟨j2r hR (v:=a.eval x) (by simp [execOp,hop]) this,rfl⟩
  ·simp only [j4,Act.cel,Act.val.injEq] at h
   obtain ⟨_,rfl,rfl⟩:=h
   exact ⟨j2r hR (v:=a.eval x) (by simp [execOp,hop]) (j13 hR hact x),rfl⟩
 ·-- assign
  rename_i x hop
  split at h
  ·rename_i l hl
   simp only [j4,Act.val.injEq] at h
   obtain ⟨_,rfl,rfl⟩:=h
   have:=jc0 hR x
   rw [hl] at this
   exact ⟨j2r hR (v:=a.eval x) (by simp [execOp,hop]) this,rfl⟩
  ·simp only [j4,Act.cel,Act.val.injEq] at h
   obtain ⟨_,rfl,rfl⟩:=h
   exact ⟨j2r hR (v:=a.eval x) (by simp [execOp,hop]) (j13 hR hact x),rfl⟩
 ·-- pick
  rename_i x y z hop
  split at h
  ·rename_i v hv
   have hx:=j13 hR hact x
   have hxe:a.eval x = .bool v:=by
    have:=jlH hv (by simp)
    rw [this] at hx
    exact j7T hx
   have hrun:(execOp a.eval o).run P w = .ok (.value (if v then a.eval y else a.eval z)) w:=by
    simp [execOp,hop,hxe,asBool]
   have hy:v=true→j0o S w γ σ.bx ((σ.ev y).cel (jq4 x true act)) (a.eval y):=by
    intro hvt
    refine jlC ?_ (jc0 hR y)
    cases x with
    | tmp t=>
     intro g hg
     rcases je.1 hg with rfl | hg
     ·simp only;rw [←hvt];exact hxe
     ·exact hact g hg
    | _=>exact hact
   have hz:v=false→j0o S w γ σ.bx ((σ.ev z).cel (jq4 x false act)) (a.eval z):=by
    intro hvt
    refine jlC ?_ (jc0 hR z)
    cases x with
    | tmp t=>
     intro g hg
     rcases je.1 hg with rfl | hg
     ·simp only;rw [←hvt];exact hxe
     ·exact hact g hg
    | _=>exact hact
   split at h
   ·rename_i t p t' q hp hq
    split at h
    ·rename_i q' hto
     simp only [j4,Act.leaf,Act.val.injEq] at h
     obtain ⟨_,rfl,rfl⟩:=h
     have:=jcS hto
     cases this
     refine ⟨j2r hR hrun ?_,rfl⟩
     cases v with
     | true=>have:=hy rfl;rw [hp] at this;exact this
     | false=>have:=hz rfl;rw [hq] at this;exact this
    ·simp at h
   ·rename_i t p hp hq
    simp only [j4,Act.val.injEq] at h
    obtain ⟨hv',rfl,rfl⟩:=h
    have hv':v=true:=hv'
    subst hv'
    refine ⟨j2r hR hrun ?_,rfl⟩
    have:=hy rfl;rw [hp] at this;exact this
   ·rename_i t q hp hq
    simp only [j4,Act.val.injEq] at h
    obtain ⟨hv',rfl,rfl⟩:=h
    have hv':v=false:=by simpa using hv'
    subst hv'
    refine ⟨j2r hR hrun ?_,rfl⟩
    have:=hz rfl;rw [hq] at this;exact this
   ·simp at h
  ·simp at h
 ·-- alloc
  rename_i t hop
  split at h
  ·rename_i ti ht
   split at h
   ·rename_i hfree
    have hd:=hrd.free hfree
    split at h
    ·rename_i k el hty
     split at h
     ·simp only [j4,Act.val.injEq] at h
      obtain ⟨_,rfl,rfl⟩:=h
      obtain ⟨z,hzc,hz⟩:=jgy (w:=w) hT ht hty
      obtain ⟨hRn,hc⟩:=jg5 hR hd (ls:=jec (.arr k el)) (cur:=z.cells) (e:=t) (by rw [hzc];exact j82 (.arr k el)) (jg8 hzc)
      exact ⟨⟨_,_,S,_,.inl (by simp [execOp,hop,hz]),hRn,hc⟩,rfl⟩
     simp only [j4,Act.val.injEq] at h
     obtain ⟨_,rfl,rfl⟩:=h
     obtain ⟨z,hzc,hz⟩:=jgy (w:=w) hT ht hty
     obtain ⟨hRn,hc⟩:=jon hR hd (m:=k) (t:=el) (xs:=List.replicate k el.dflt) (cur:=z.cells) (e:=t) (by rw [hzc];exact j6t (.arr k el))
     exact ⟨⟨_,_,S,_,.inl (by simp [execOp,hop,hz]),hRn,hc⟩,rfl⟩
    ·rename_i ty hne hty
     simp only [j4,Act.val.injEq] at h
     obtain ⟨_,rfl,rfl⟩:=h
     obtain ⟨z,hzc,hz⟩:=jgy (w:=w) hT ht hty
     obtain ⟨hRn,hc⟩:=jg5 hR hd (ls:=jec ty) (cur:=z.cells) (e:=t) (by rw [hzc];exact j82 ty) (jg8 hzc)
     exact ⟨⟨_,_,S,_,.inl (by simp [execOp,hop,hz]),hRn,hc⟩,rfl⟩
    ·simp at h
   ·simp at h
  ·simp at h
 ·-- box
  rename_i t x hop
  split at h
  ·rename_i hfree
   have hd:=hrd.free hfree
   have hx:=j13 hR hact x
   split at h
   ·rename_i k el xs hc
    simp only [j4,Act.val.injEq] at h
    obtain ⟨_,rfl,rfl⟩:=h
    rw [hc] at hx
    obtain ⟨cs,hu,hrep⟩:=hx
    obtain ⟨hRn,hcn⟩:=jon hR hd (m:=k) (t:=el) (xs:=xs) (cur:=(a.eval x).cells) (e:=t) (by rw [hu];exact hrep)
    exact ⟨⟨_,_,S,_,.inl (by simp [execOp,hop,joo]),hRn,hcn⟩,rfl⟩
   ·split at h
    ·rename_i ls hls
     simp only [j4,Act.val.injEq] at h
     obtain ⟨_,rfl,rfl⟩:=h
     obtain ⟨hl,h1⟩:=j93 hls hx
     obtain ⟨hRn,hcn⟩:=jg5 hR hd (ls:=ls) (cur:=(a.eval x).cells) (e:=t) hl h1
     exact ⟨⟨_,_,S,_,.inl (by simp [execOp,hop,joo]),hRn,hcn⟩,rfl⟩
    ·simp at h
  ·simp at h
 ·-- build
  rename_i t ps hop
  have hps:=jko hR hact ps.toList
  have hps':All2 (fun p v=>p.1=v.1∧j0o S w γ σ.bx p.2 v.2) (ps.toList.map fun p=>(p.1,(σ.ev p.2).cel act)) (ps.map fun p=>(p.1,a.eval p.2)).toList:=by simpa using hps
  split at h
  ·rename_i ti ht
   split at h
   ·rename_i k el hty
    split at h
    ·rename_i hem
     simp only [j4,Act.cel,Act.val.injEq] at h
     obtain ⟨_,rfl,rfl⟩:=h
     obtain ⟨v,hrun,hc⟩:=jnx (w:=w) (S:=S) (γ:=γ) (bx:=σ.bx) hT ht hty
     have hp0:ps = #[]:=by
      simp only [ja,List.isEmpty_iff] at hem
      exact Array.toList_eq_nil_iff.1 hem.2
     subst hp0
     exact ⟨j2r hR (v:=v) (by simp [execOp,hop,hrun]) hc,rfl⟩
    split at h
    ·rename_i xs u' hb
     simp only [j4,Act.val.injEq] at h
     obtain ⟨_,rfl,rfl⟩:=h
     obtain ⟨v,S',hrun,hRn,hc⟩:=jnw hT hR hrdf ht hty hps' hb
     exact ⟨⟨v,w,S',γ,.inl (by simp [execOp,hop,hrun]),hRn,hc⟩,rfl⟩
    ·simp at h
   ·rename_i ty hne hty
    split at h
    ·rename_i hag
     split at h
     ·rename_i ls hb
      simp only [j4,Act.cel,Act.val.injEq] at h
      obtain ⟨_,rfl,rfl⟩:=h
      obtain ⟨v,hrun,hc⟩:=jnq hT ht hty hag hps' hb
      exact ⟨j2r hR (v:=v) (by simp [execOp,hop,hrun]) hc,rfl⟩
     ·simp at h
    ·simp at h
   ·simp at h
  ·simp at h
 ·-- buildSlice
  rename_i t len ps hop
  have hps:=jko hR hact ps.toList
  have hps':All2 (fun p v=>p.1=v.1∧j0o S w γ σ.bx p.2 v.2) (ps.toList.map fun p=>(p.1,(σ.ev p.2).cel act)) (ps.map fun p=>(p.1,a.eval p.2)).toList:=by simpa using hps
  split at h
  ·rename_i ti ht
   split at h
   ·rename_i el hty
    split at h
    ·obtain ⟨_,rfl,v',w',γ',hrun,hRn,hc⟩:=jqj hT hR ht hty hrd.free hps' h
     exact ⟨⟨v',w',S,γ',.inl (by simp [execOp,hop,hrun]),hRn,hc⟩,rfl⟩
    split at h
    ·simp at h
    ·rename_i hlen
     split at h
     ·rename_i xs u' hb
      split at h
      ·rename_i hfree
       simp only [j4,Act.val.injEq] at h
       obtain ⟨_,rfl,rfl⟩:=h
       obtain ⟨v',w',S',γ',hrun,hRn,hc⟩:=jhK hT hR hrdf ht hty (by omega) hps' hb (hrd.free hfree)
       exact ⟨⟨v',w',S',γ',.inl (by simp [execOp,hop,hrun]),hRn,hc⟩,rfl⟩
      ·simp at h
     ·simp at h
   ·simp at h
  ·simp at h
 ·-- load
  rename_i t x hop
  split at h
  ·rename_i ti ht
   split at h
   ·rename_i m el ls hla
    split at h
    ·rename_i xs u' hg
     split at h
     ·rename_i hlen
      simp only [j4,Act.val.injEq] at h
      obtain ⟨_,rfl,rfl⟩:=h
      obtain ⟨z,S',hz,hRn,hcz⟩:=joE hT hR hrd hrdf ht hla hg hlen (j4x (j13 hR hact x))
      exact ⟨⟨z,w,S',γ,.inl (by simp [execOp,hop,hz]),hRn,hcz⟩,rfl⟩
     ·simp at h
    ·simp at h
   unfold oCel at h
   split at h
   ·rename_i c hc
    simp only [j4,Act.cel,Act.val.injEq] at h
    obtain ⟨_,rfl,rfl⟩:=h
    obtain ⟨z,hz,hcz⟩:=jke hT hR hrd ht hc (j4x (j13 hR hact x))
    exact ⟨j2r hR (v:=z) (by simp [execOp,hop,hz]) hcz,rfl⟩
   ·simp at h
  ·simp at h
 ·-- store
  rename_i t x y hop
  split at h
  ·rename_i ti ht
   split at h
   ·rename_i u' hu
    simp only [j4,Act.val.injEq] at h
    obtain ⟨_,rfl,rfl⟩:=h
    obtain ⟨w',S',hrun,hRn⟩:=jno hT hR hrd hrdf ht hu (j4x (j13 hR hact x)) (j13 hR hact y)
    exact ⟨⟨undef,w',S',γ,.inr ⟨by simp [execOp,hop,hrun],rfl⟩,hRn,⟨trivial,fun h=>absurd rfl h⟩⟩,rfl⟩
   ·simp at h
  ·simp at h
 ·-- nilCheck
  rename_i x hop
  have hx:=j13 hR hact x
  split at h
  ·rename_i k p hl
   split at h
   ·rename_i hlive
    simp only [j4,Act.leaf,Act.val.injEq] at h
    obtain ⟨_,rfl,rfl⟩:=h
    rw [jlH hl (by simp)] at hx
    obtain ⟨b,hb⟩:=jax hlive
    obtain ⟨g,_,hu⟩:=hx.1.2.2 b (hrd.live hb)
    exact ⟨j2r hR (v:=a.eval x) (by simp [execOp,hop,hu]) hx,rfl⟩
   ·simp at h
  ·rename_i k i p hl
   split at h
   ·rename_i hlive
    simp only [j4,Act.leaf,Act.val.injEq] at h
    obtain ⟨_,rfl,rfl⟩:=h
    rw [jlH hl (by simp)] at hx
    obtain ⟨b,hb⟩:=jax hlive
    have h3:=hx.1.2.2 b (hrd.live hb)
    have hu:∃ g o,a.eval x = .pointer (some ⟨g,o,none⟩):=by
     cases b with
     | cell ls f=>exact h3.elim
     | lst e t xs f=>obtain ⟨_,_,g,cap,_,hu⟩:=h3;exact ⟨_,_,hu⟩
     | arr n t xs=>obtain ⟨_,g,_,hu⟩:=h3;exact ⟨_,_,hu⟩
    obtain ⟨g,ofs,hu⟩:=hu
    exact ⟨j2r hR (v:=a.eval x) (by simp [execOp,hop,hu]) hx,rfl⟩
   ·simp at h
  ·rename_i ls hl
   simp only [j4,Act.leaf,Act.val.injEq] at h
   obtain ⟨_,rfl,rfl⟩:=h
   rw [jlH hl (by simp)] at hx
   obtain ⟨g,ofs,cs,hu,_⟩:=hx.1
   exact ⟨j2r hR (v:=a.eval x) (by simp [execOp,hop,hu]) hx,rfl⟩
  ·simp at h
 ·-- binOp
  rename_i op t x y rest hop
  unfold oChk at h
  split at h
  ·rename_i b c hc
   simp only [j4,Act.val.injEq] at h
   obtain ⟨rfl,rfl,rfl⟩:=h
   obtain ⟨z,hz,hl,h1⟩:=jqa (x:=x) (y:=y) hT hc (j13 hR hact x) (j13 hR hact y)
   refine ⟨j9Y hR ?_ hl h1,rfl⟩
   simp only [execOp,hop]
   rw [Sem.run_bind,hz]
   rfl
  ·simp at h
 ·-- unOp
  rename_i op t x hop
  unfold jdh at h
  split at h
  ·rename_i c hc
   simp only [j4,Act.leaf,Act.val.injEq] at h
   obtain ⟨_,rfl,rfl⟩:=h
   obtain ⟨z,hz,hl,h1⟩:=jrN hc (j13 hR hact x)
   refine ⟨j9Y hR ?_ hl h1,rfl⟩
   simp only [execOp,hop]
   rw [Sem.run_bind,hz]
   rfl
  ·simp at h
 ·-- convert
  rename_i src dst x hop
  split at h
  ·rename_i ts ti hts ht
   split at h
   ·rename_i k v k0 k' hl hty0 hty
    simp only [j4,Act.leaf,Act.val.injEq] at h
    obtain ⟨_,rfl,rfl⟩:=h
    have hx:=j13 hR hact x
    rw [jlH hl (by simp)] at hx
    have hu:=jc4 hx
    have hund:=jlA hT ht hty
    refine ⟨j9Y hR (v:= .int k' (k'.wrap v)) ?_ rfl rfl,rfl⟩
    have hund0:=jlA hT hts hty0
    simp only [execOp,hop]
    rw [Sem.run_bind]
    have:(convert src dst (a.eval x)).run P w = .ok (.int k' (k'.wrap v)) w:=by
     simp only [hu,convert,Sem.run_bind,run_underlying hund0,run_underlying hund,Result.andThen_ok]
     simp [Conv.intToInt]
    rw [this]
    rfl
   ·simp at h
  ·simp at h
 ·-- makeFunc
  rename_i f first caps hop
  split at h
  ·rename_i hfirst
   split at h
   ·split at h
    ·rename_i ks hl
     simp only [j4,Act.val.injEq] at h
     obtain ⟨_,rfl,rfl⟩:=h
     have hargs:=jgb hR hact caps.toList
     have hf0:first = #[]:=by simpa using hfirst
     refine ⟨⟨.func (.func f) #[] (caps.map a.eval),w,S,γ,.inl ?_,hR,⟨⟨_,rfl,by
      have:=jgA hl hargs
      rw [←Array.toList_map] at this
      exact this⟩,fun _=>rfl⟩⟩,rfl⟩
     simp [execOp,hop,hf0,Instr.makeFunc]
    ·simp at h
   split at h
   ·rename_i l u' hl
    simp only [j4,Act.val.injEq] at h
    obtain ⟨_,rfl,rfl⟩:=h
    have hargs:=jgb hR hact caps.toList
    obtain ⟨S',hRn,_,hcap,_⟩:=jkj hrdf hl hR hargs
    have hf0:first = #[]:=by simpa using hfirst
    refine ⟨⟨.func (.func f) #[] (caps.map a.eval),w,S',γ,.inl ?_,hRn,⟨⟨_,rfl,by simpa using hcap⟩,fun _=>rfl⟩⟩,rfl⟩
    simp [execOp,hop,hf0,Instr.makeFunc]
   ·simp at h
  ·simp at h
 ·-- fieldAddr
  rename_i t x i hop
  split at h
  ·rename_i ti ht
   unfold jdh at h
   split at h
   ·rename_i c hc
    simp only [j4,Act.leaf,Act.val.injEq] at h
    obtain ⟨_,rfl,rfl⟩:=h
    obtain ⟨z,hz,hl,h1⟩:=jnl hT hrd ht hc (j4x (j13 hR hact x))
    exact ⟨j9Y hR (by simp [execOp,hop,hz]) hl h1,rfl⟩
   ·simp at h
  ·simp at h
 ·-- field
  rename_i t x i hop
  split at h
  ·rename_i ti ht
   split at h
   ·rename_i ls f hc hf
    split at h
    ·rename_i tf htf
     unfold oCel at h
     split at h
     ·rename_i c hmk
      simp only [j4,Act.cel,Act.val.injEq] at h
      obtain ⟨_,rfl,rfl⟩:=h
      have hx:=j13 hR hact x
      rw [hc] at hx
      obtain ⟨cs,hu,hall,h1⟩:=hx
      obtain ⟨fs,hund,fl,hfl,ho1,ho2,tf',htf',hpos⟩:=jod hT ht hf
      rw [←ho2] at htf
      have hall':=(hall.drop fl.offset).take tf.size
      have h1':∀ u∈(cs.toList.drop fl.offset).take tf.size,One u:=fun u hu'=>h1 u (qx (ka hu'))
      rw [←ho1] at hmk
      have hpart:∃ z,(part fl.type cs fl.offset).run P w = .ok z w∧j0o S w γ σ.bx c z:=by
       unfold jiM at hmk
       split at hmk
       ·rename_i hagg
        split at hmk
        ·rename_i hlen
         simp only [j4] at hmk;subst hmk
         refine ⟨.agg (cs.extract fl.offset (fl.offset+tf.size)),?_,_,rfl,?_,?_⟩
         ·simp only [part,Sem.run_bind,jf2 hT htf,hagg,Result.andThen_ok,if_true,j2q hT htf,Sem.run_pure]
         ·have:(cs.extract fl.offset (fl.offset+tf.size)).toList=(cs.toList.drop fl.offset).take tf.size:=by
           simp [List.take_drop]
          rw [this];exact hall'
         ·have:(cs.extract fl.offset (fl.offset+tf.size)).toList=(cs.toList.drop fl.offset).take tf.size:=by
           simp [List.take_drop]
          rw [this];exact h1'
        ·simp at hmk
       ·rename_i hagg
        split at hmk
        ·rename_i l' hl'
         simp only [j4] at hmk;subst hmk
         rw [hl'] at hall'
         cases hq:(cs.toList.drop fl.offset).take tf.size with
         | nil=>rw [hq] at hall';exact hall'.elim
         | cons z zs=>
          rw [hq] at hall' h1'
          have hz:cs[fl.offset]? = some z:=by
           have:((cs.toList.drop fl.offset).take tf.size)[0]? = some z:=by rw [hq];rfl
           have:=j8U this
           simpa using this
          refine ⟨z,?_,hall'.1,fun _=>h1' z (by simp)⟩
          simp only [part,Sem.run_bind,jf2 hT htf,Result.andThen_ok,if_neg hagg,hz,Sem.run_pure]
        ·simp at hmk
      obtain ⟨z,hz,hcz⟩:=hpart
      refine ⟨j2r hR (v:=z) ?_ hcz,rfl⟩
      simp only [execOp,hop,hu]
      rw [Sem.run_bind]
      have:(Instr.field t (.agg cs) i).run P w = .ok z w:=by
       simp only [Instr.field,Sem.run_bind,run_underlying hund,Result.andThen_ok,hfl,asAgg,Sem.run_pure,hz]
      rw [this]
      rfl
     ·simp at h
    ·simp at h
   ·simp at h
  ·simp at h
 ·-- indexAddr
  rename_i t x i hop
  split at h
  ·rename_i ti ht
   unfold oChk at h
   split at h
   ·rename_i b c hc
    simp only [j4,Act.val.injEq] at h
    obtain ⟨rfl,rfl,rfl⟩:=h
    obtain ⟨z,hz,hl,h1⟩:=jnm hT hR hrd ht hc (j4x (j13 hR hact x)) (j4x (j13 hR hact i))
    exact ⟨j9Y hR (by simp [execOp,hop,hz]) hl h1,rfl⟩
   ·simp at h
  ·simp at h
 ·-- index
  rename_i t x i hop
  split at h
  ·rename_i ti ht
   split at h
   ·rename_i b c hc
    simp only [j4,Act.val.injEq] at h
    obtain ⟨rfl,rfl,rfl⟩:=h
    obtain ⟨z,hz,hcz⟩:=jqd hT ht hc (j13 hR hact x) (j4x (j13 hR hact i))
    exact ⟨j2r hR (v:=z) (by simp [execOp,hop,hz]) hcz,rfl⟩
   ·simp at h
  ·simp at h
 ·-- makeMap
  rename_i t hop
  split at h
  ·rename_i k v ht
   split at h
   ·rename_i hfr
    simp only [j4,Act.val.injEq] at h
    obtain ⟨_,rfl,rfl⟩:=h
    obtain ⟨γ',hrun,hRn,hcn⟩:=jnv (P:=P) (t:=t) (k:=k) (v:=v) hR (hrd.free hfr)
    exact ⟨⟨_,_,S,γ',.inl (by simp [execOp,hop,hrun]),hRn,hcn⟩,rfl⟩
   ·simp at h
  ·simp at h
 ·-- lookup
  rename_i t x i ok hop
  split at h
  ·rename_i k v ht
   split at h
   ·rename_i b ys q hm
    obtain ⟨z,hz,hrun⟩:=jlG hT hR hrw ht hm (j4x (j13 hR hact x)) (j4x (j13 hR hact i))
    split at h
    ·simp only [j4,Act.val.injEq] at h
     obtain ⟨_,rfl,rfl⟩:=h
     have hr:=hrun true
     simp only [if_true] at hr
     refine ⟨j2r hR (v:= .tuple #[z,.bool (@jfw _ _ k.keq ys q)]) (by simp [execOp,hop,hr]) ?_,rfl⟩
     exact ⟨_,rfl,jcF hz,⟨rfl,fun _=>rfl⟩,trivial⟩
    ·simp only [j4,Act.cel,Act.val.injEq] at h
     obtain ⟨_,rfl,rfl⟩:=h
     have hr:=hrun false
     simp only [jz,qa] at hr
     exact ⟨j2r hR (v:=z) (by simp [execOp,hop,hr]) (jcF hz),rfl⟩
   ·simp at h
  ·simp at h
 ·-- mapUpdate
  rename_i t x i y hop
  split at h
  ·rename_i k v ht
   split at h
   ·rename_i b ys q z u' hm hd
    simp only [j4,Act.val.injEq] at h
    obtain ⟨_,rfl,rfl⟩:=h
    obtain ⟨w',S',hrun,hRn⟩:=jnu hT hR hrw ht hm (j4x (j13 hR hact x)) (j4x (j13 hR hact i)) hrdf hd (j13 hR hact y)
    exact ⟨⟨undef,w',S',γ,.inr ⟨by simp [execOp,hop,hrun],rfl⟩,hRn,⟨trivial,fun h=>absurd rfl h⟩⟩,rfl⟩
   ·simp at h
  ·simp at h
 ·-- extract
  rename_i x i hop
  split at h
  ·rename_i l hl
   split at h
   ·rename_i c hc
    simp only [j4,Act.cel,Act.val.injEq] at h
    obtain ⟨_,rfl,rfl⟩:=h
    have hx:=jc0 hR x
    rw [hl] at hx
    obtain ⟨vs,hu,hall⟩:=hx
    obtain ⟨z,hz,hcz⟩:=hall.get i c hc
    refine ⟨j2r hR (v:=z) ?_ hcz,rfl⟩
    have hz':vs[i]? = some z:=by simpa using hz
    simp [execOp,hop,hu,Instr.extract,hz']
   ·simp at h
  ·simp at h
 ·-- call
  rename_i cl hop
  have hargs:=jgb hR hact cl.args.toList
  split at h
  ·-- len
   rename_i hcal
   split at h
   ·rename_i x t hxs hts
    split at h
    ·rename_i ti ht
     unfold jdh at h
     split at h
     ·rename_i c hc
      simp only [j4,Act.leaf,Act.val.injEq] at h
      obtain ⟨_,rfl,rfl⟩:=h
      obtain ⟨z,hz,hl,h1⟩:=jqe (ty:=o.type) hT hR hrd ht hc (j4x (j13 hR hact x))
      have e1:cl.args = #[x]:=by apply kb;simpa using hxs
      have e2:cl.argTypes = #[t]:=by apply kb;simpa using hts
      refine ⟨j9Y hR (v:=z) ?_ hl h1,rfl⟩
      simp [execOp,hop,resolve,hcal,invoke,builtin,e1,e2,hz]
     ·simp at h
    ·simp at h
   ·simp at h
  ·-- min
   rename_i hcal
   unfold jdh at h
   split at h
   ·rename_i c hc
    simp only [j4,Act.leaf,Act.val.injEq] at h
    obtain ⟨_,rfl,rfl⟩:=h
    obtain ⟨z,hz,hl,h1⟩:=jrO (P:=P) (ts:=cl.argTypes) (ty:=o.type) hc hargs
    refine ⟨j9Y hR (v:=z) ?_ hl h1,rfl⟩
    have e1:cl.args.map a.eval=(cl.args.toList.map a.eval).toArray:=by apply kb;simp
    simp [execOp,hop,resolve,hcal,invoke,builtin,e1,hz]
   ·simp at h
  ·-- max
   rename_i hcal
   unfold jdh at h
   split at h
   ·rename_i c hc
    simp only [j4,Act.leaf,Act.val.injEq] at h
    obtain ⟨_,rfl,rfl⟩:=h
    obtain ⟨z,hz,hl,h1⟩:=jrP (P:=P) (ts:=cl.argTypes) (ty:=o.type) hc hargs
    refine ⟨j9Y hR (v:=z) ?_ hl h1,rfl⟩
    have e1:cl.args.map a.eval=(cl.args.toList.map a.eval).toArray:=by apply kb;simp
    simp [execOp,hop,resolve,hcal,invoke,builtin,e1,hz]
   ·simp at h
  ·-- append
   rename_i hcal
   split at h
   ·rename_i t t' s' x hts hxs
    split at h
    ·rename_i htt
     subst htt
     split at h
     ·rename_i ti ht
      split at h
      ·rename_i el hty
       split at h
       ·rename_i b' v' u' hh
        simp only [j4,Act.val.injEq] at h
        obtain ⟨rfl,rfl,rfl⟩:=h
        obtain ⟨z,w',hrun,hRn,hl,h1⟩:=jqg (ty:=o.type) hT hR hrd ht hty hh (j4x (j13 hR hact s')) (j4x (j13 hR hact x))
        have e1:cl.args = #[s',x]:=by apply kb;simpa using hxs
        have e2:cl.argTypes = #[t,t]:=by apply kb;simpa using hts
        refine ⟨⟨z,w',S,γ,.inl ?_,hRn,hl,fun _=>h1⟩,rfl⟩
        simp [execOp,hop,resolve,hcal,invoke,builtin,e1,e2,hrun]
       split at h
       ·rename_i v' u' hh
        simp only [j4,Act.val.injEq] at h
        obtain ⟨_,rfl,rfl⟩:=h
        obtain ⟨z,w',γ',hrun,hRn,hl,h1⟩:=jqh (ty:=o.type) hT hR hrd hrdf ht hty hh (j4x (j13 hR hact s')) (j4x (j13 hR hact x))
        have e1:cl.args = #[s',x]:=by apply kb;simpa using hxs
        have e2:cl.argTypes = #[t,t]:=by apply kb;simpa using hts
        refine ⟨⟨z,w',S,γ',.inl ?_,hRn,hl,fun _=>h1⟩,rfl⟩
        simp [execOp,hop,resolve,hcal,invoke,builtin,e1,e2,hrun]
       split at h
       ·rename_i xs frz u' ys hs hx
        split at h
        ·rename_i hfree
         simp only [j4,Act.val.injEq,jk] at h
         obtain ⟨hmax,rfl,rfl⟩:=h
         obtain ⟨v',w',S',γ',hrun,hRn,hcn⟩:=jnp (ty:=o.type) hT hR hrd hrdf ht hty hs hx (hrd.free hfree) hmax (j4x (j13 hR hact s')) (j4x (j13 hR hact x))
         have e1:cl.args = #[s',x]:=by apply kb;simpa using hxs
         have e2:cl.argTypes = #[t,t]:=by apply kb;simpa using hts
         refine ⟨⟨v',w',S',γ',.inl ?_,hRn,hcn⟩,rfl⟩
         simp [execOp,hop,resolve,hcal,invoke,builtin,e1,e2,hrun]
        ·simp at h
       ·simp at h
      ·simp at h
     ·simp at h
    ·simp at h
   ·simp at h
  ·-- value
   split at h
   ·split at h
    ·split at h
     ·simp at h
     ·simp at h
    ·simp at h
   ·split at h
    ·split at h
     ·simp at h
     ·simp at h
    ·simp at h
   ·simp at h
  ·-- copy
   rename_i hcal
   split at h
   ·rename_i t t' x y hts hxs
    split at h
    ·rename_i htt
     subst htt
     split at h
     ·rename_i ti ht
      split at h
      ·rename_i c u' hc
       simp only [j4,Act.val.injEq] at h
       obtain ⟨_,rfl,rfl⟩:=h
       obtain ⟨v',w',hrun,hRn,hcn⟩:=jor (ty:=o.type) hT hR hrd ht hc (j4x (j13 hR hact x)) (j4x (j13 hR hact y))
       have e1:cl.args = #[x,y]:=by apply kb;simpa using hxs
       have e2:cl.argTypes = #[t,t]:=by apply kb;simpa using hts
       refine ⟨⟨v',w',S,γ,.inl ?_,hRn,hcn⟩,rfl⟩
       simp [execOp,hop,resolve,hcal,invoke,builtin,e1,e2,hrun]
      ·simp at h
     ·simp at h
    ·simp at h
   ·simp at h
  ·-- clear
   rename_i hcal
   split at h
   ·rename_i t x hts hxs
    split at h
    ·rename_i ti ht
     split at h
     ·rename_i u' hc
      simp only [j4,Act.val.injEq] at h
      obtain ⟨_,rfl,rfl⟩:=h
      obtain ⟨v',w',hrun,hRn⟩:=jnt (ty:=o.type) hT hR hrd ht hc (j4x (j13 hR hact x))
      have e1:cl.args = #[x]:=by apply kb;simpa using hxs
      have e2:cl.argTypes = #[t]:=by apply kb;simpa using hts
      refine ⟨⟨v',w',S,γ,.inl ?_,hRn,⟨trivial,fun h=>absurd rfl h⟩⟩,rfl⟩
      simp [execOp,hop,resolve,hcal,invoke,builtin,e1,e2,hrun]
     ·simp at h
    ·simp at h
   ·simp at h
  ·simp at h
 ·-- slice
  rename_i t x lo hi hop
  split at h
  ·rename_i ti ht
   split at h
   ·rename_i b c u' hc
    simp only [j4,Act.val.injEq] at h
    obtain ⟨rfl,rfl,rfl⟩:=h
    have ho:∀ y:Option Operand,ORep (j09 S w γ σ.bx) (y.map fun x=>lf ((σ.ev x).cel act)) (y.map a.eval):=by
     intro y
     cases y with
     | none=>trivial
     | some y=>exact j4x (j13 hR hact y)
    obtain ⟨v',S',γ',hrun,hRn,hcn⟩:=jnr hT hR hrd ht (fun k hk=>hrd.free hk) hc (j4x (j13 hR hact x)) (ho lo) (ho hi)
    refine ⟨⟨v',w,S',γ',.inl ?_,hRn,hcn⟩,rfl⟩
    simp [execOp,hop,hrun]
   ·simp at h
  ·simp at h
 ·-- slice with a capacity
  rename_i t x lo hi mx hop
  split at h
  ·rename_i ti ht
   split at h
   ·rename_i b hc
    simp only [j4,Act.val.injEq] at h
    obtain ⟨rfl,rfl,rfl⟩:=h
    have ho:∀ y:Option Operand,ORep (j09 S w γ σ.bx) (y.map fun x=>lf ((σ.ev x).cel act)) (y.map a.eval):=by
     intro y
     cases y with
     | none=>trivial
     | some y=>exact j4x (j13 hR hact y)
    obtain ⟨v',hrun⟩:=jns hT hR hrd ht hc (j4x (j13 hR hact x)) (ho lo) (ho hi) (j4x (j13 hR hact mx))
    refine ⟨⟨v',w,S,γ,.inl ?_,hR,⟨trivial,fun h=>absurd rfl h⟩⟩,rfl⟩
    simp [execOp,hop,hrun]
   ·simp at h
  ·simp at h
 ·simp at h
theorem jmF {P:Program} {E:Env} (hR:Rel N E.np S0 w0 refs σ a w S γ) {act:List (Nat×Bool)} (hact:jgu (tm a) act) {rw:Nat→BS} (hrw:RdR σ rw)
  {o:Oper} {f:Nat} {args:List Arg} {mk:Ret→Option (Slot×Ups)} (h:j3C E σ.ev rw act o=some (.call f args mk)) (hf:Fun P f) {K:Ret→Prop} (hspec:jqm P f args K) :
  ∃ vals,(execOp a.eval o).run P w = .ok (.enter f vals) w∧
   (Calls P f vals w fun e w'=>∃ ret,K ret∧∀ s u,mk ret=some (s,u)→∃ v S' γ',e = .returned v∧Rel N E.np S0 w0 refs (σ.upd u) a w' S' γ'∧j3e S' w' γ' (σ.upd u).bx (tm a) s v)∧
   ∀ ret s u,mk ret=some (s,u)→s.bare=true:=by
 have hrd:RdOk σ (mskM rw):=hrw.msk
 have hrdf:=jir (np:=E.np) hrd
 unfold j3C at h
 dsimp only at h
 split at h
 case h_23 cl hop=>
  have hargs:=jgb hR hact cl.args.toList
  split at h
  case h_5 x hcal=>
   split at h
   ·rename_i g caps hl
    split at h
    ·rename_i as us fs has
     split at h
     ·rename_i hok
      simp only [j4,Act.call.injEq] at h
      obtain ⟨rfl,rfl,rfl⟩:=h
      have hx:=j13 hR hact x
      rw [jlH hl (by simp)] at hx
      obtain ⟨cv,hu,hcv⟩:=hx.1
      refine ⟨_,jmC hf hop hcal hu,?_,?_⟩
      ·have:=jip hR hrw hrd hrdf has hargs hok hcv hspec ((o.dst.getD 0)*64)
       have e1:(cl.args.toList.map a.eval++cv.toList).toArray=cl.args.map a.eval++cv:=by apply kb;simp
       rwa [e1] at this
      ·intro ret s u hmk
       unfold jiO at hmk
       split at hmk
       ·unfold mkHd at hmk
        split at hmk
        ·split at hmk
         ·split at hmk
          ·simp only [j4,j8] at hmk;rw [←hmk.1];rfl
          ·simp at hmk
         ·simp at hmk
        ·simp at hmk
       ·unfold jo5 at hmk
        split at hmk
        ·split at hmk
         ·simp only [j4,j8] at hmk;rw [←hmk.1];exact jem _
         ·simp at hmk
        ·simp at hmk
       split at hmk
       ·split at hmk
        ·split at hmk
         ·revert hmk;dsimp only;split<;>(intro hmk;simp only [j4,j8] at hmk;rw [←hmk.1];rfl)
         ·simp at hmk
        ·simp at hmk
       ·simp at hmk
     ·simp at h
    ·simp at h
   ·rename_i g ks hl
    split at h
    ·rename_i as us fs has
     split at h
     ·rename_i hok
      simp only [j4,Act.call.injEq] at h
      obtain ⟨rfl,rfl,rfl⟩:=h
      have hx:=j13 hR hact x
      rw [jlH hl (by simp)] at hx
      obtain ⟨cv,hu,hcv⟩:=hx.1
      refine ⟨_,jmC hf hop hcal hu,?_,?_⟩
      ·have:=jip hR hrw hrd hrdf has (hargs.append (jot hcv)) hok (caps:=[]) (cv:=[]) trivial (by simpa using hspec) ((o.dst.getD 0)*64)
       have e1:((cl.args.toList.map a.eval++cv.toList)++[]).toArray=cl.args.map a.eval++cv:=by apply kb;simp
       rwa [e1] at this
      ·intro ret s u hmk
       unfold jiO at hmk
       split at hmk
       ·unfold mkHd at hmk
        split at hmk
        ·split at hmk
         ·split at hmk
          ·simp only [j4,j8] at hmk;rw [←hmk.1];rfl
          ·simp at hmk
         ·simp at hmk
        ·simp at hmk
       ·unfold jo5 at hmk
        split at hmk
        ·split at hmk
         ·simp only [j4,j8] at hmk;rw [←hmk.1];exact jem _
         ·simp at hmk
        ·simp at hmk
       split at hmk
       ·split at hmk
        ·split at hmk
         ·revert hmk;dsimp only;split<;>(intro hmk;simp only [j4,j8] at hmk;rw [←hmk.1];rfl)
         ·simp at hmk
        ·simp at hmk
       ·simp at hmk
     ·simp at h
    ·simp at h
   ·simp at h
  all_goals (first | (simp at h;done) | skip)
  all_goals (exfalso;revert h;try simp only [jdh])
  all_goals (repeat' split)
  all_goals simp [Act.leaf]
 all_goals (first | (simp at h;done) | skip)
 all_goals (repeat' (first | (simp at h;done) | (exact absurd h jkn) | split at h))<;>simp_all [jdh,oCel,oChk,Act.leaf,Act.cel]
 all_goals (repeat' (split at h))<;>simp_all
end
end Go.Lft
