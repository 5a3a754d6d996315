/- New variables; Jl ZM variables. -/
import Derived.Test.YtbpjdcbbmibehaaGreatLJLA
import Derived.MapKept
set_option linter.unusedVariables false
namespace Go.Lft
section
variable{N:NT}{np:Nat}{S0:ay}{w0:World}{refs:Refs}{σ:St}{a:Go.Act}{w:World}{S:ay}{γ:Nat->Value}
def gset(γ:Nat->Value)(n:Nat)(v:Value):Nat->Value:=λk=>if k=n then v else γ k
theorem eD(γ:Nat->Value)(n:Nat)(v:Value):gset γ n v n=v:=by simp[gset]
theorem fe(γ:Nat->Value){n k:Nat}(v:Value)(h:k≠n):gset γ n v k=γ k:=by simp[gset,h]
theorem Ak(hR:Rel N np S0 w0 refs σ a w S γ)(o:Obj):dz S w S (w.alloc o):=
 λg i h=>⟨h,World.cell?_alloc_lt w o ⟨g,i,none⟩ (hR.here g i h)⟩
theorem iR{bx:Nat->BS}{k:Nat}{b:Bx}(h:ez S w γ bx k b){g:Nat}(hg:blk (γ k)=some g):g<w.heap.size:=by
 cases b with
 |cell ls frz=>obtain⟨g',cur,e,h1,h2,_⟩:=h;rw[h1]at hg;simp[blk]at hg;subst hg;exact(je.1 h2).1
 |lst e t xs frz=>exact h.1.lt hg
 |arr n t xs=>obtain⟨g',cur,e,h1,h2,_⟩:=h;rw[h1]at hg;simp[blk]at hg;subst hg;exact(je.1 h2).1
theorem Jm(hR:Rel N np S0 w0 refs σ a w S γ){n:Nat}(hn:σ.bx n = .free){o:Obj}{b:Bx}{v:Value}(hv:∀g,blk v=some g->g=w.heap.size)
  (hb:BxLe γ σ.bx (gset γ n v) (σ.setB n (.live b)).bx->ez S (w.alloc o) (gset γ n v) (σ.setB n (.live b)).bx n b) :
  Rel N np S0 w0 refs (σ.setB n (.live b)) a (w.alloc o) S (gset γ n v)/\BxLe γ σ.bx (gset γ n v) (σ.setB n (.live b)).bx:=by
 have hle:BxLe γ σ.bx (gset γ n v) (σ.setB n (.live b)).bx:=by
  intro k hk;have aN:k≠n:=by rintro rfl;exact hk hn
  rw[cB σ _ aN,fe γ v aN];exact⟨hk,rfl,λb hb=>⟨b,hb,.refl b⟩⟩
 have au:=Ak hR o
 refine⟨Rel.step (bx':=(σ.setB n (.live b)).bx) hR au hle ?_ ?_ ?_ hR.new ?_ ?_ ?_ hR.os hR.tape hR.output (λg hg _ h=>⟨heap_alloc_old w o hg,λk b' ax cJ=>by
  by_cases hk:k=n
  .subst hk;rw[eD]at cJ;have:=hv g cJ;omega
  .rw[cB σ _ hk]at ax;rw[fe γ v hk]at cJ;exact h k b' ax cJ⟩),hle⟩
 .intro k b' ax;by_cases hk:k=n
  .subst hk;rw[eO]at ax;simp at ax;subst ax;exact hb hle
  .rw[cB σ _ hk]at ax;refine ez.keep au hle (fe γ v hk) (λg hg=>⟨?_,λ_=>Iff.rfl⟩) (hR.box k b' ax);exact heap_alloc_old w o (iR (hR.box k b' ax) hg)
 .intro k b' g ax hg;by_cases hk:k=n
  .subst hk;rw[eD]at hg;exact .inl (.inl (by rw[hv g hg];exact hR.grow))
  .rw[cB σ _ hk]at ax;rw[fe γ v hk]at hg;exact hR.own k b' g ax hg
 .intro k k' b1 b2 g aN h1 h2 hg ah;by_cases hk:k=n
  .subst hk;have bc:k'≠k:=λh=>aN h.symm;rw[eD]at hg;rw[cB σ _ bc]at h2;rw[fe γ v bc]at ah;have:=iR (hR.box k' b2 h2) ah;rw[hv g hg]at this;omega
  .by_cases bc:k'=n
   .subst bc;rw[eD]at ah;rw[cB σ _ hk]at h1;rw[fe γ v hk]at hg;have:=iR (hR.box k b1 h1) hg;rw[hv g ah]at this;omega
   .rw[cB σ _ hk]at h1;rw[cB σ _ bc]at h2;rw[fe γ v hk]at hg;rw[fe γ v bc]at ah;exact hR.apart k k' b1 b2 g aN h1 h2 hg ah
 .intro g i h;have:=hR.here g i h;simp;omega
 .intro g hg hr;rw[heap_alloc_old w o (by have:=hR.grow;omega)];exact hR.below g hg hr
 .have:=hR.grow;simp;omega
theorem B8(hR:Rel N np S0 w0 refs σ a w S γ)(o:Nat):¬S w.heap.size o:=λh=>by have:=hR.here _ _ h;omega
theorem FX(hR:Rel N np S0 w0 refs σ a w S γ){n:Nat}(hn:σ.bx n = .free){ls:List Leaf}{cur:Array Value}{e:TypeId}
  (hl:All2 (br S w γ σ.bx) ls cur.toList)(h1:∀u∈cur.toList,One u) :
  Rel N np S0 w0 refs (σ.setB n (.live (.cell ls false))) a (w.alloc (.cells cur e)) S (gset γ n (.pointer (some ⟨w.heap.size,0,none⟩)))/\
   bC S (w.alloc (.cells cur e)) (gset γ n (.pointer (some ⟨w.heap.size,0,none⟩))) (σ.setB n (.live (.cell ls false))).bx (.one (.bp n 0)) (.pointer (some ⟨w.heap.size,0,none⟩)):=by
 obtain⟨h,hle⟩:=Jm hR hn (o:= .cells cur e) (b:= .cell ls false) (v:= .pointer (some ⟨w.heap.size,0,none⟩)) (λg hg=>by simp[blk]at hg;exact hg.symm) (λhle=>
  ⟨w.heap.size,cur,e,eD _ _ _,heap_alloc_new w _,by rw[List.take_of_length_le (Nat.le_of_eq hl.length.symm)];exact hl.mono (λx u hx=>br.keep (Ak hR _) hle hx),λu hu=>h1 u (kp hu),λ_ o=>B8 hR o,by simp⟩)
 refine⟨h,⟨by rw[eO];simp,rfl,λb _=>⟨w.heap.size,eD _ _ _,rfl⟩⟩,λ_=>rfl⟩
theorem Q0(hR:Rel N np S0 w0 refs σ a w S γ){n m:Nat}(hn:σ.bx n = .free){t:Ty}{xs:List t.den}{cur:Array Value}{e:TypeId}
  (hl:Rep S w (.arr m t) xs cur.toList) :
  Rel N np S0 w0 refs (σ.setB n (.live (.arr m t xs))) a (w.alloc (.cells cur e)) S (gset γ n (.pointer (some ⟨w.heap.size,0,none⟩)))/\
   bC S (w.alloc (.cells cur e)) (gset γ n (.pointer (some ⟨w.heap.size,0,none⟩))) (σ.setB n (.live (.arr m t xs))).bx (.one (.bp n 0)) (.pointer (some ⟨w.heap.size,0,none⟩)):=by
 obtain⟨h,hle⟩:=Jm hR hn (o:= .cells cur e) (b:= .arr m t xs) (v:= .pointer (some ⟨w.heap.size,0,none⟩)) (λg hg=>by simp[blk]at hg;exact hg.symm) (λ_=>
  ⟨w.heap.size,cur,e,eD _ _ _,heap_alloc_new w _,Rep.keep (Ak hR _) _ _ _ hl,λo=>B8 hR o⟩)
 refine⟨h,⟨by rw[eO];simp,rfl,λb _=>⟨w.heap.size,eD _ _ _,rfl⟩⟩,λ_=>rfl⟩
theorem vA{bx:Nat->BS}:∀(t:Ty),All2 (br S w γ bx) (nY t) (jS t)
 |.int _=>⟨rfl,trivial⟩
 |.bool=>⟨rfl,trivial⟩
 |.str=>⟨rfl,trivial⟩
 |.unit=>trivial
 |.wrap a=>vA a
 |.pair a b=>(vA a).append (vA b)
 |.list _=>⟨rfl,trivial⟩
 |.arr n a=>by
  show All2 _ ((List.range n).flatMap λ_=>nY a) ((List.replicate n (jS a)).flatten);induction n with
  |zero=>simp[All2]
  |succ n ih=>rw[List.range_succ,List.flatMap_append,List.replicate_succ',y8];refine ih.append ?_;simpa using vA a
theorem pO:∀(t:Ty),Rep S w t t.dflt (jS t)
 |.int _=>rfl
 |.bool=>rfl
 |.str=>rfl
 |.unit=>rfl
 |.wrap a=>pO a
 |.pair a b=>⟨_,_,rfl,pO a,pO b⟩
 |.list _=>⟨none,0,rfl,jo _,by simp[maxLen],λ_=>rfl,λb hb=>by simp at hb⟩
 |.arr n a=>by
  refine⟨List.length_replicate,List.replicate n (jS a),?_,rfl⟩;have hz:=pO a
  have:∀n,All2 (λx c=>Rep S w a x c) (List.replicate n a.dflt) (List.replicate n (jS a)):=by
   intro n;induction n with
   |zero=>exact trivial
   |succ n ih=>exact⟨hz,ih⟩
  exact this n
theorem B9(hR:Rel N np S0 w0 refs σ a w S γ){k:Nat}{b b':Bx}(hk:σ.bx k = .live b){g:Nat}(hg:blk (γ k)=some g)(hS:∀o,¬S g o)(pL:iO b b')
  {old new:Array Value}{e:TypeId}(hh:w.heap[g]? = some (.cells old e (0,0)))
  (hb:BxLe γ σ.bx γ (σ.setB k (.live b')).bx->dz S w S (w.setRow g new)->ez S (w.setRow g new) γ (σ.setB k (.live b')).bx k b') :
  Rel N np S0 w0 refs (σ.setB k (.live b')) a (w.setRow g new) S γ:=by
 have hle:BxLe γ σ.bx γ (σ.setB k (.live b')).bx:=by
  intro k' bc;by_cases bR:k'=k
  .subst bR;rw[eO];exact⟨by simp,rfl,λb1 di=>by simp at di;subst di;exact⟨b,hk,pL⟩⟩
  .rw[cB σ _ bR];exact⟨bc,rfl,λb hb=>⟨b,hb,.refl b⟩⟩
 have au:dz S w S (w.setRow g new):=by
  intro g' o h;refine⟨h,cell_setRow_other w g new ⟨g',o,none⟩ ?_⟩
  rintro rfl
  exact hS o h
 have bD:∀k' b1,(σ.setB k (.live b')).bx k' = .live b1->∃b2,σ.bx k' = .live b2:=by
  intro k' b1 h1;by_cases bR:k'=k
  .subst bR;exact⟨b,hk⟩
  .rw[cB σ _ bR]at h1;exact⟨b1,h1⟩
 have ak:=(je.1 hh).1
 refine Rel.step (bx':=(σ.setB k (.live b')).bx) hR au hle ?_ ?_ ?_ hR.new ?_ ?_ ?_ hR.os hR.tape hR.output (λg' _ _ h=>⟨setRow_other w g g' new (λe=>h k b hk (e▸hg)),λk' b1 h1=>by
  obtain⟨b2,h2⟩:=bD k' b1 h1;exact h k' b2 h2⟩)
 .intro k' b1 h1;by_cases bR:k'=k
  .subst bR;rw[eO]at h1;simp at h1;subst h1;exact hb hle au
  .rw[cB σ _ bR]at h1;refine ez.keep au hle rfl (λg' ah=>⟨?_,λ_=>Iff.rfl⟩) (hR.box k' b1 h1);exact setRow_other w g g' new (λh=>hR.apart k' k b1 b g bR h1 hk (h▸ah) hg)
 .intro k' b1 g' h1 ah;obtain⟨b2,h2⟩:=bD k' b1 h1;exact hR.own k' b2 g' h2 ah
 .intro k1 k2 b1 b2 g' aN h1 h2 ah;obtain⟨tj,lN⟩:=bD k1 b1 h1;obtain⟨tn,kM⟩:=bD k2 b2 h2;exact hR.apart k1 k2 tj tn g' aN lN kM ah
 .intro g' o h;rw[size_setRow];exact hR.here g' o h
 .intro g' ah hr;rw[setRow_other w g g' new ?_]
  .exact hR.below g' ah hr
  .rintro rfl
   rcases hR.own k b _ hk hg with h|h
   .exact h.no (by omega) hr
   .exact hr h.1
 .rw[size_setRow];exact hR.grow
theorem FY{R:Leaf->Value->Prop}{ls new:List Leaf}{cs zs:List Value}{c:Nat}(h:All2 R ls cs)(h':All2 R new zs) :
  All2 R (qD ls c new) (cs.take c++zs++cs.drop (c+zs.length)):=by
 unfold qD;rw[h'.length];exact((h.take c).append h').append (h.drop _)
theorem Q1{X zs:List Value}{c n:Nat}(h:c+zs.length<=n)(h':n<=X.length):(X.take c++zs++X.drop (c+zs.length)).take n=(X.take n).take c++zs++(X.take n).drop (c+zs.length):=by
 have e1:(X.take n).take c=X.take c:=by rw[va,Nat.min_eq_left (by omega)]
 have e2:(X.take c++zs).length=c+zs.length:=by simp;omega
 rw[e1,List.take_append,List.take_of_length_le (by rw[e2];exact h),e2,List.drop_take]
theorem Al{bx:Nat->BS}{c:Cel}{ls:List Leaf}{z:Value}(h:c.leaves=some ls)(hc:bC S w γ bx c z) :
  All2 (br S w γ bx) ls z.cells.toList/\∀u∈z.cells.toList,One u:=by
 unfold Cel.leaves at h;split at h
 .simp at h
 .rename_i l hd;simp at h;subst h;have h1:=hc.2 hd;rw[Aj h1];exact⟨⟨hc.1,trivial⟩,λu hu=>by simp at hu;subst hu;exact h1⟩
 .simp at h;subst h;obtain⟨cs,rfl,ha,h1⟩:=hc;exact⟨ha,h1⟩
 .simp at h
end
theorem xi{m:Nat}:∀{l:List (List Value)},(∀c∈l,c.length=m)->l.flatten.length=l.length*m
 |[],_=>by simp
 |c::l,h=>by
  have h1:=h c (by simp);have h2:=xi (l:=l) (λd hd=>h d (qr _ hd));simp only[ki,jf,jl,Nat.add_mul,Nat.one_mul];omega
section
variable{N:NT}{np:Nat}{S0:ay}{w0:World}{refs:Refs}{σ:St}{a:Go.Act}{w:World}{S:ay}{γ:Nat->Value}
theorem kN:∀(u:Ups)(σ:St){k:Nat},u.any (λy=>y.1==k)=false->(σ.upd u).bx k=σ.bx k
 |[],_,_,_=>rfl
 |e::u,σ,k,h=>by
  simp only[List.any_cons,vq,beq_eq_false_iff_ne]at h;show ((σ.setB e.1 e.2).upd u).bx k=_;rw[kN u _ h.2,cB σ _ (λhh=>h.1 hh.symm)]
theorem All2.all_len{t:Ty}{xs:List t.den}{css:List (List Value)}(h:All2 (λx c=>Rep S w t x c) xs css):∀c∈css,c.length=t.size:=by
 intro c hc;obtain⟨x,_,hx⟩:=h.mem_right c hc;exact Rep.length _ _ _ hx
theorem Jn{cur:List Value}{css:List (List Value)}{m n i c:Nat}{ci zs:List Value}(hm:∀c∈css,c.length=m)(hn:css.length=n)(cT:cur.take (n*m)=css.flatten)
  (hi:css[i]? = some ci)(hc:c+zs.length<=m) :
  (cur.take (i*m+c)++zs++cur.drop (i*m+c+zs.length)).take (n*m)=(css.set i (ci.take c++zs++ci.drop (c+zs.length))).flatten:=by
 have ak:i<css.length:=(jt.1 hi).1;have nf:css[i]=ci:=(jt.1 hi).2;have eN:ci.length=m:=hm ci (jy hi);obtain⟨A,B,hA,hB,FZ⟩:∃A B:List (List Value),A.length=i/\A.length+1+B.length=n/\css=A++ci::B:=by refine⟨css.take i,css.drop (i+1),by simp;omega,by simp;omega,?_⟩;rw[<-nf,List.getElem_cons_drop ak,qo]
 have ZN:∀c∈A,c.length=m:=λd hd=>hm d (by rw[FZ];simp[hd]);have ZO:∀c∈B,c.length=m:=λd hd=>hm d (by rw[FZ];simp[hd]);have lA:A.flatten.length=i*m:=by rw[xi ZN,hA]
 have lB:=xi ZO;have lP:css.set i (ci.take c++zs++ci.drop (c+zs.length))=A++(ci.take c++zs++ci.drop (c+zs.length))::B:=by rw[FZ,vg _ _ (by omega),hA,Nat.sub_self,List.set_cons_zero]
 have Ca:cur=A.flatten++(ci++(B.flatten++cur.drop (n*m))):=by have:=qo (n*m) cur;rw[cT,FZ,y8,ki]at this;rw[<-jg ci,<-jg];exact this.symm
 have cY:ci=ci.take c++((ci.drop c).take zs.length++ci.drop (c+zs.length)):=by have h1:=qo c ci;have h2:=qo zs.length (ci.drop c);rw[List.drop_drop]at h2;rw[h2,h1]
 have lp:(ci.take c).length=c:=by simp;omega
 have lq:((ci.drop c).take zs.length).length=zs.length:=by simp;omega
 have lr:(ci.drop (c+zs.length)).length=m-(c+zs.length):=by simp[eN]
 generalize ci.take c=p at *
 generalize (ci.drop c).take zs.length=q at *
 generalize ci.drop (c+zs.length)=r at *
 generalize cur.drop (n*m)=tl at *
 have e1:cur.take (i*m+c)=A.flatten++p:=by rw[Ca,cY];simp only[<-jg];rw[jg,jg,jg];exact ye (by simp[lA,lp])
 have e2:cur.drop (i*m+c+zs.length)=r++(B.flatten++tl):=by
  rw[Ca,cY];have:A.flatten++(p++(q++r)++(B.flatten++tl))=(A.flatten++p++q)++(r++(B.flatten++tl)):=by simp
  rw[this];exact List.drop_left' (by simp[lA,lp,lq];omega)
 rw[e1,e2,lP,y8,ki];have:A.flatten++p++zs++(r++(B.flatten++tl))=(A.flatten++(p++zs++r++B.flatten))++tl:=by simp
 rw[this];refine ye ?_;simp only[jf,lA,lp,lr,lB];have:n*m=i*m+m+B.length*m:=by rw[<-hB,hA,Nat.add_mul,Nat.add_mul,Nat.one_mul]
 omega
theorem F0{P:Program}{T:Nat->Option TyI}(hT:ca P T){t:TypeId}{ti:TyI}(ht:T t=some ti){g o:Nat}{z:Value}{cur:Array Value}{e:TypeId}
  (hh:w.heap[g]? = some (.cells cur e (0,0)))(hs:z.cells.toList.length=ti.size)(hl:o+z.cells.toList.length<=cur.size)(h1:∀u∈z.cells.toList,One u) :
  (Instr.storeAt t (.pointer (some ⟨g,o,none⟩)) z).run P w = .ok () (w.setRow g (cur.toList.take o++z.cells.toList++cur.toList.drop (o+z.cells.toList.length)).toArray):=by
 have au:=run_storeCells_at P g o e z.cells.toList 0 cur w hh (by simpa using hl) h1;simp only[Nat.add_zero]at au;have aN:¬z.cells.size≠ti.size:=by simpa using hs
 simp only[Instr.storeAt,Sem.run_bind,Instr.sureAddr,Sem.run_pure,Result.andThen_ok,storeVar,iy hT ht,Sem.run_ite,if_neg aN,au]
theorem ZP{P:Program}{E:Env}(hT:ca P E.T)(hR:Rel N np S0 w0 refs σ a w S γ){rd rdf:Nat->BS}(aG:RdOk σ rd)(aX:RdF np σ rdf){t:TypeId}{ti:TyI}(ht:E.T t=some ti)
  {x:Leaf}{val:Cel}{u:Ups}{ux z:Value}(h:uN rd rdf ti.size val x=some u)(hx:br S w γ σ.bx x ux)(hz:bC S w γ σ.bx val z) :
  ∃w' S',(Instr.storeAt t ux z).run P w = .ok () w'/\Rel N np S0 w0 refs (σ.upd u) a w' S' γ:=by
 unfold uN at h;split at h
 .rename_i k c;split at h
  .rename_i ls hk;have hk:=aG.live hk;split at h
   .rename_i new dU;split at h
    .rename_i hc;simp only[j4]at h;subst h;obtain⟨bH,hle⟩:=hc;obtain⟨ha,h1⟩:=Al dU hz;obtain⟨g,hg,hu⟩:=hx.2.2 _ hk;obtain⟨g',cur,e,ah,hh,cT,fc,hS,_⟩:=hR.box k _ hk;rw[hg]at ah;simp at ah;subst ah;subst hu;have hlen:=ha.length;have vB:=cT.length;simp at vB;refine⟨_,S,F0 hT ht hh (by omega) (by simp at hlen ⊢;omega) h1,?_⟩;refine B9 hR hk (by rw[hg];rfl) (hS rfl) (b':= .cell (qD ls c new) false) trivial hh (λhle au=>?_);refine⟨g,_,e,hg,setRow_heap w g cur _ e (0,0) hh,?_,?_,λ_=>hS rfl,by simp⟩
     .have:=FY (c:=c) (cT.mono (λx u hx=>br.keep au hle hx)) (ha.mono (λx u hx=>br.keep au hle hx));have eE:(qD ls c new).length=ls.length:=by simp[qD];omega
      rw[eE];have:=Q1 (X:=cur.toList) (zs:=z.cells.toList) (c:=c) (n:=ls.length) (by omega) (by simp;omega);simp only[this];assumption
     .intro v hv;have eE:(qD ls c new).length=ls.length:=by simp[qD];omega
      rw[eE]at hv;have qN:=Q1 (X:=cur.toList) (zs:=z.cells.toList) (c:=c) (n:=ls.length) (by omega) (by simp;omega);simp only[qN]at hv;simp only[jm]at hv;rcases hv with (hv|hv)|hv
      .exact fc v (kp hv)
      .exact h1 v hv
      .exact fc v (zf hv)
    .simp at h
   .simp at h
  .rename_i n el xs hk;have hk:=aG.live hk;split at h
   .rename_i ng;subst ng;split at h
    .rename_i n' a' ys;split at h
     .rename_i IU iQ;split at h
      .rename_i bH;simp only[j4]at h;subst h;have tt:=lL iQ;simp only[TV.mk.injEq,Ty.arr.injEq]at tt;obtain⟨⟨rfl,rfl⟩,tt⟩:=tt;obtain rfl:=eq_of_heq tt;obtain⟨cs,rfl,hr⟩:=hz;obtain⟨g,hg,hu⟩:=hx.2.2 _ hk;obtain⟨g',cur,e,ah,hh,bd,hS⟩:=hR.box k _ hk;rw[hg]at ah;simp at ah;subst ah;subst hu;have oe:=Rep.length _ _ _ hr;have sq:=Rep.length _ _ _ bd;have e1:(Value.agg cs).cells.toList=cs.toList:=rfl;refine⟨_,S,F0 hT ht hh (by rw[e1,oe,bH];rfl) (by rw[e1,oe,<-sq];simp) (by rw[e1];exact Rep.one _ _ _ hr),?_⟩;refine B9 hR hk (by rw[hg];rfl) hS (b':= .arr _ _ _) ⟨rfl,rfl⟩ hh (λhle au=>?_);refine⟨g,_,e,hg,setRow_heap w g cur _ e (0,0) hh,?_,hS⟩;have hd:cur.toList.drop (0+cs.toList.length)=[]:=jd (by rw[oe,sq];omega);have hX:(cur.toList.take 0++(Value.agg cs).cells.toList++cur.toList.drop (0+(Value.agg cs).cells.toList.length)).toArray.toList=cs.toList:=by rw[e1,hd];simp
       rw[hX];exact Rep.keep au _ _ _ hr
      .simp at h
     .simp at h
    .simp at h
   .simp at h
  .simp at h
 .rename_i k i c;split at h
  .rename_i el at_ xs hk;have bT:=aG.nm hk;have hk:=aG.live hk;split at h
   .rename_i new dU;split at h
    .rename_i hc;obtain⟨bH,hle⟩:=hc;split at h
     .rename_i en u1 Jo;split at h
      .simp at h
      .rename_i qO;simp only[j4]at h;subst h;obtain⟨ha,h1⟩:=Al dU hz;have hlen:=ha.length;have tu:z.cells.toList.length=z.cells.size:=qd;obtain⟨_,hi,g,cap,hg,hu⟩:=hx.2.2 _ hk;obtain⟨css,aA,al,ZQ⟩:=ix bT (hR.box k _ hk);rcases aA.2 with⟨_,h0⟩|⟨g',gw,cur,ah,ew,hh,iP,kK,dF,dq⟩
       .omega
       rw[hg]at ah;simp at ah;obtain⟨rfl,rfl⟩:=ah;subst hu;obtain⟨ci,nf,bd,dB⟩:=xe (λx c hx=>Rep.length at_ x c hx) al i at_.dflt hi;have eN:=Rep.length _ _ _ bd;have cY:=FY (c:=c) (qK (oO at_ _ ci bd)) ha;obtain⟨hf,he,hp⟩:=xg aX hR.box at_ Jo cY;obtain⟨S1,aU,cF,ea,dI⟩:=od u1 σ S hR hf;have dT:(σ.upd u1).bx k = .live (.lst el at_ xs false):=by rw[kN u1 σ (qv.2 qO)];exact hk
       obtain⟨ZR,Q2,Q3,Q4⟩:=ix bT (aU.box k _ dT);have vC:∀o,¬S1 g o:=(Q4 g (by rw[hg];rfl)).1 rfl;have Q5:i*at_.size+at_.size<=xs.length*at_.size:=by have:(i+1)*at_.size<=xs.length*at_.size:=jv _ (by omega);rwa[vw]at this
       have Am:xs.length*at_.size<=cap*at_.size:=jv _ iP;have jU:c+z.cells.toList.length<=at_.size:=by omega
       refine⟨_,S1,F0 hT ht hh (by omega) (by rw[dF];omega) h1,?_⟩;rw[jT];refine B9 aU dT (by rw[hg];rfl) vC (b':= .lst el at_ (xs.set i en) false) ⟨rfl,rfl,λ_=>by simp⟩ hh (λfF cM=>?_);have qP:Rep S1 w at_ en (ci.take c++z.cells.toList++ci.drop (c+z.cells.toList.length)):=by have:=hp S1 w cF ea;rwa[List.take_of_length_le (by simp;omega)]at this
       refine BZ bT ⟨css.set i (ci.take c++z.cells.toList++ci.drop (c+z.cells.toList.length)),⟨?_,.inr ⟨g,cap,_,?_,k7 _,setRow_heap w g cur _ el (0,0) hh,by simpa using iP,kK,?_,?_⟩⟩,?_,λg' ah=>?_⟩
       .rw[xi (m:=at_.size)]
        .simp[al.length]
        .intro d hd;rcases List.mem_or_eq_of_mem_set hd with hd|rfl
         .exact All2.all_len al d hd
         .simp;omega
       .simpa using hg
       .simp only[v7,jf,z7,vv,qd];omega
       .simp only[zp];exact Jn (All2.all_len al) al.length.symm dq nf jU
       .exact(al.mono (λx c hx=>Rep.keep (cF.trans cM) _ _ _ hx)).set i _ _ (Rep.keep cM _ _ _ qP)
       .rw[hg]at ah;simp[blk]at ah;subst ah;exact⟨λ_=>vC,by simp⟩
     .simp at h
    .simp at h
   .simp at h
  .rename_i n at_ xs hk;have hk:=aG.live hk;split at h
   .rename_i new dU;split at h
    .rename_i hc;obtain⟨bH,hle⟩:=hc;split at h
     .rename_i en u1 Jo;split at h
      .simp at h
      .rename_i qO;simp only[j4]at h;subst h;obtain⟨ha,h1⟩:=Al dU hz;have hlen:=ha.length;have tu:z.cells.toList.length=z.cells.size:=qd;obtain⟨hi,g,hg,hu⟩:=hx.2.2 _ hk;obtain⟨g',cur,e,ah,hh,⟨hn,css,al,cT⟩,hS⟩:=hR.box k _ hk;rw[hg]at ah;simp at ah;subst ah;subst hu;obtain⟨ci,nf,bd,dB⟩:=xe (λx c hx=>Rep.length at_ x c hx) al i at_.dflt (by omega);have eN:=Rep.length _ _ _ bd;have cY:=FY (c:=c) (qK (oO at_ _ ci bd)) ha;obtain⟨hf,he,hp⟩:=xg aX hR.box at_ Jo cY;obtain⟨S1,aU,cF,ea,dI⟩:=od u1 σ S hR hf;have dT:(σ.upd u1).bx k = .live (.arr n at_ xs):=by rw[kN u1 σ (qv.2 qO)];exact hk
       obtain⟨g1,ZS,e1,iz,hh1,_,vC⟩:=aU.box k _ dT;rw[hg]at iz;simp at iz;subst iz;have Cb:cur.toList.length=n*at_.size:=by rw[cT,xi (All2.all_len al),<-al.length,hn]
       have Q5:i*at_.size+at_.size<=n*at_.size:=by have:(i+1)*at_.size<=n*at_.size:=jv _ (by omega);rwa[vw]at this
       have jU:c+z.cells.toList.length<=at_.size:=by omega
       refine⟨_,S1,F0 hT ht hh (by omega) (by rw[<-qd,Cb];omega) h1,?_⟩;rw[jT];refine B9 aU dT (by rw[hg];rfl) vC (b':= .arr n at_ (xs.set i en)) ⟨rfl,rfl⟩ hh (λfF cM=>?_);have qP:Rep S1 w at_ en (ci.take c++z.cells.toList++ci.drop (c+z.cells.toList.length)):=by have:=hp S1 w cF ea;rwa[List.take_of_length_le (by simp;omega)]at this
       refine⟨g,_,e,hg,setRow_heap w g cur _ e (0,0) hh,⟨?_,css.set i (ci.take c++z.cells.toList++ci.drop (c+z.cells.toList.length)),?_,?_⟩,vC⟩
       .show List.length (List.set xs i en)=n;rw[zp];exact hn
       .exact(al.mono (λx c hx=>Rep.keep (cF.trans cM) _ _ _ hx)).set i _ _ (Rep.keep cM _ _ _ qP)
       .have F1:=Jn (cur:=cur.toList) (n:=n) (zs:=z.cells.toList) (All2.all_len al) (by rw[<-al.length,hn]) (by rw[<-Cb,List.take_length,cT]) nf jU;rw[<-F1];symm;refine(List.take_of_length_le ?_).trans (by simp);simp only[jf,z7,vv];omega
     .simp at h
    .simp at h
   .simp at h
  .simp at h
 .simp at h
end
theorem vD{m:Nat}:∀{l:List (List Value)}(i:Nat),(∀c∈l,c.length=m)->(l.take i).flatten=l.flatten.take (i*m)
 |[],i,_=>by simp
 |c::l,0,_=>by simp
 |c::l,i+1,h=>by
  have hc:=h c (by simp);have ih:=vD (l:=l) i (λd hd=>h d (by simp[hd]));rw[List.take_succ_cons,ki,ih,ki,vw,Nat.add_comm,List.take_append,hc];rw[List.take_of_length_le (l:=c) (by omega),show m+i*m-m=i*m by omega]
theorem Cc{m:Nat}:∀{l:List (List Value)}(i:Nat),(∀c∈l,c.length=m)->(l.drop i).flatten=l.flatten.drop (i*m)
 |[],i,_=>by simp
 |c::l,0,_=>by simp
 |c::l,i+1,h=>by
  have hc:=h c (by simp);have ih:=Cc (l:=l) i (λd hd=>h d (by simp[hd]));rw[List.drop_succ_cons,ih,ki,vw,Nat.add_comm,List.drop_append,hc];rw[jd (l:=c) (by omega),js,show m+i*m-m=i*m by omega]
section
variable{N:NT}{np:Nat}{S0:ay}{w0:World}{refs:Refs}{σ:St}{a:Go.Act}{w:World}{S:ay}{γ:Nat->Value}
theorem F2(hR:Rel N np S0 w0 refs σ a w S γ){k:Nat}{b:Bx}(hk:σ.bx k = .live b):Rel N np S0 w0 refs (σ.setB k .gone) a w S γ:=by
 have hle:BxLe γ σ.bx γ (σ.setB k .gone).bx:=by
  intro k' bc;by_cases bR:k'=k
  .subst bR;rw[eO];exact⟨by simp,rfl,λb hb=>by simp at hb⟩
  .rw[cB σ _ bR];exact⟨bc,rfl,λb hb=>⟨b,hb,.refl b⟩⟩
 have bD:∀k' b1,(σ.setB k .gone).bx k' = .live b1->σ.bx k' = .live b1:=by
  intro k' b1 h1;by_cases bR:k'=k
  .subst bR;rw[eO]at h1;simp at h1
  .rwa[cB σ _ bR]at h1
 exact Rel.step (bx':=(σ.setB k .gone).bx) hR (.refl S w) hle (λk' b' h=>ez.keep (.refl S w) hle rfl (λ_ _=>⟨rfl,λ_=>Iff.rfl⟩) (hR.box k' b' (bD k' b' h)))
  (λk' b' g h=>hR.own k' b' g (bD k' b' h)) (λk1 k2 b1 b2 g aN h1 h2=>hR.apart k1 k2 b1 b2 g aN (bD _ _ h1) (bD _ _ h2)) hR.new hR.here hR.below hR.grow hR.os hR.tape hR.output
  (λg _ _ h=>⟨rfl,λk' b' ax=>h k' b' (bD k' b' ax)⟩)
theorem An(hR:Rel N np S0 w0 refs σ a w S γ){d:Nat}(hd:σ.bx d = .free){w':World}{S':ay}{v':Value}{e:Nat}(hm:isM e=false){el:Ty}{zs:List el.den}{frz:Bool}{css:List (List Value)}
  (au:dz S w S' w')(qQ:∀g,g<w.heap.size->blk v'≠some g->w'.heap[g]? = w.heap[g]?)(bH:w.heap.size<=w'.heap.size)
  (hv:∀g,blk v'=some g->Own w0 refs g/\(∀k b,σ.bx k = .live b->blk (γ k)≠some g)/\g<w'.heap.size)
  (hS:∀g o,S' g o->S g o\/blk v'=some g)(os:w'.os=w.os)(tape:w'.tape=w.tape)(output:w'.output=w.output)
  (bJ:w'.ownsRow 0 e el.size v' zs.length css.flatten)(al:All2 (λx c=>Rep S' w' el x c) zs css)
  (Jp:∀g,blk v'=some g->(frz=false->∀o,¬S' g o)/\(frz=true->∀o,S' g o↔o<zs.length*el.size))(F3:∀g,blk v'=some g->refs.kw g=none) :
  Rel N np S0 w0 refs (σ.setB d (.live (.lst e el zs frz))) a w' S' (gset γ d v')/\
   bC S' w' (gset γ d v') (σ.setB d (.live (.lst e el zs frz))).bx (.one (.ol d)) v':=by
 have hle:BxLe γ σ.bx (gset γ d v') (σ.setB d (.live (.lst e el zs frz))).bx:=by
  intro k hk;have aN:k≠d:=by rintro rfl;exact hk hd
  rw[cB σ _ aN,fe γ v' aN];exact⟨hk,rfl,λb hb=>⟨b,hb,.refl b⟩⟩
 have c9:One v':=by rcases bJ.2 with⟨rfl,_⟩|⟨g,cap,cur,rfl,_⟩<;>rfl
 refine⟨Rel.step (bx':=(σ.setB d (.live (.lst e el zs frz))).bx) hR au hle ?_ ?_ ?_ ?_ ?_ ?_ (q7 hR.grow bH) (os.trans hR.os) (tape.trans hR.tape) (output.trans hR.output) (λg hg nh h=>⟨qQ g hg (λhh=>nh (F3 g hh)),λk b' ax cJ=>by
  by_cases hk:k=d
  .subst hk;rw[eD]at cJ;exact nh (F3 g cJ)
  .rw[cB σ _ hk]at ax;rw[fe γ v' hk]at cJ;exact h k b' ax cJ⟩),?_⟩
 .intro k b hb;by_cases hk:k=d
  .subst hk;rw[eO]at hb;simp at hb;subst hb;refine BZ hm ⟨css,by rw[eD];exact bJ,al,λg hg=>?_⟩;rw[eD]at hg;exact Jp g hg
  .rw[cB σ _ hk]at hb;refine ez.keep au hle (fe γ v' hk) (λg hg=>?_) (hR.box k b hb);have sr:=iR (hR.box k b hb) hg;have aN:blk v'≠some g:=λhh=>(hv g hh).2.1 k b hb hg;exact⟨qQ g sr aN,λo=>⟨λhs=>(hS g o hs).resolve_right aN,λhs=>(au g o hs).1⟩⟩
 .intro k b g hb hg;by_cases hk:k=d
  .subst hk;rw[eD]at hg;exact .inl (hv g hg).1
  .rw[cB σ _ hk]at hb;rw[fe γ v' hk]at hg;exact hR.own k b g hb hg
 .intro k k' b1 b2 g aN h1 h2 hg ah;by_cases hk:k=d
  .subst hk;have bc:k'≠k:=λh=>aN h.symm;rw[eD]at hg;rw[cB σ _ bc]at h2;rw[fe γ v' bc]at ah;exact(hv g hg).2.1 k' b2 h2 ah
  .by_cases bc:k'=d
   .subst bc;rw[eD]at ah;rw[cB σ _ hk]at h1;rw[fe γ v' hk]at hg;exact(hv g ah).2.1 k b1 h1 hg
   .rw[cB σ _ hk]at h1;rw[cB σ _ bc]at h2;rw[fe γ v' hk]at hg;rw[fe γ v' bc]at ah;exact hR.apart k k' b1 b2 g aN h1 h2 hg ah
 .intro g o hs;rcases hS g o hs with hs|hs
  .exact hR.new g o hs
  .exact .inr (hv g hs).1
 .intro g o hs;rcases hS g o hs with hs|hs
  .have:=hR.here g o hs;omega
  .exact(hv g hs).2.2
 .intro g hg hr;by_cases hb:blk v'=some g
  .exact((hv g hb).1.no hg hr).elim
  .rw[qQ g (by have:=hR.grow;omega) hb];exact hR.below g hg hr
 .refine⟨⟨by rw[eO];simp,c9,λb hb=>(eD γ d v').symm⟩,λ_=>c9⟩
theorem Q6{P:Program}{T:Nat->Option TyI}(hT:ca P T){t ty:TypeId}{ti:TyI}(ht:T t=some ti){el:Ty}(aW:ti.ty=some (.list el))
  {v:Value}{n:Nat}{xs:List Value}(aA:w.ownsRow 0 ti.elem el.size v n xs){ad:Option Addr}{m c:Nat}{news:List Value}(fh:ad=none->m=0/\c=0)(hl:news.length=m*el.size)
  (iA:∀b,ad=some b->∀(j:Nat)(u:Value),news[j]? = some u->w.cell? (b.add j)=some u)(h1:∀u∈news,One u)(eX:n+m<=aQ) :
  ∃v' w',(Builtin.append_ #[t,t] ty #[v,.slice ad m c]).run P w = .ok v' w'/\w'.ownsRow 0 ti.elem el.size v' (n+m) (xs++news)/\w'.os=w.os/\w'.tape=w.tape/\w'.output=w.output/\w.heap.size<=w'.heap.size/\
   ((v'=v/\w'=w)\/(blk v'=blk v/\(∃g,blk v=some g)/\∀g,blk v≠some g->w'.heap[g]? = w.heap[g]?)\/(blk v'=some w.heap.size/\∀g,g<w.heap.size->w'.heap[g]? = w.heap[g]?)):=by
 obtain⟨hd,bB,te,cA,cj⟩:=mX hT ht aW;have bH:=lJ hT cA cj;obtain⟨i,de,hi,hde,Q7,tw,_,_,hz⟩:=mB hT cA;obtain⟨_,⟨z,hz,gM⟩,_⟩:=hz el cj;have fi:i.size=el.size:=by omega
 have kO:z.cells.size=el.size:=by have h:=Rep.length el el.dflt _ (pO (S:=λ_ _=>False) (w:=w) el);rw[<-gM]at h;simpa using h
 have Cd:n+m<=maxLen:=by simp only[maxLen,aQ]at *;omega
 have kP:(n+m)*i.bytes<=140737488355328:=by have:(n+m)*i.bytes<=aQ*32768:=qu eX tw;simp only[aQ]at this;omega
 have hlen:(xs++news).length=(n+m)*el.size:=by rw[jf,aA.1,hl,Nat.add_mul]
 cases ad with
 |none=>obtain⟨rfl,rfl⟩:=fh rfl;have oQ:news=[]:=jx (by simpa using hl);subst oQ;exact⟨v,w,run_append_owned_none (P:=P) w 0 t ty ti.elem i el.size hd hi v n xs aA,by simpa using aA,rfl,rfl,rfl,jo _,.inl ⟨rfl,rfl⟩⟩
 |some b=>
  have iA:=iA b rfl;rcases aA.2 with⟨rfl,rfl⟩|⟨g,cap,cur,rfl,_,hg,iP,kK,dF,dq⟩
  .have vE:w.ownsRow w.heap.size ti.elem el.size (.slice none 0 0) 0 xs:=⟨aA.1,.inl ⟨rfl,rfl⟩⟩;obtain⟨v',w',hr,ho,lz,hv⟩:=run_append_own (P:=P) w w.heap.size t ty ti.elem i z el.size i.bytes hd hi hz fi rfl kO bB _ 0 xs vE b m c news hl iA h1 Cd kP (jo _);refine⟨v',w',hr,⟨ho.1,ho.2.imp id (λ⟨g,cap,cur,h1,_,h3⟩=>⟨g,cap,cur,h1,k7 _,h3⟩)⟩,lz.os,lz.tape,lz.output,lz.size,?_⟩;by_cases hm:m=0
   .subst hm;have oQ:news=[]:=jx (by simpa using hl);subst oQ;have:=run_append_own (P:=P) w w.heap.size t ty ti.elem i z el.size i.bytes hd hi hz fi rfl kO bB _ 0 xs vE b 0 c [] hl iA h1 Cd kP (jo _);left;have hx:(Builtin.append_ #[t,t] ty #[.slice none 0 0,.slice (some b) 0 c]).run P w = .ok (.slice none 0 0) w:=by simp[Builtin.append_,run_underlying hd,sizeOf,typeInfo,hi,Builtin.lenOf,Builtin.firstCells,loadCells,loadCellsFrom]
    rw[hx]at hr;simp at hr;exact⟨hr.1.symm,hr.2.symm⟩
   .have qR:=run_append_nil (P:=P) w t ty ti.elem i z hd hi hz b m c news (by rw[fi];exact hl) iA (by omega) (by simp only[maxLen]at Cd;omega) (by have:=kP;simp only[k9]at this;omega);rw[qR]at hr;simp at hr;obtain⟨rfl,rfl⟩:=hr;exact .inr (.inr ⟨rfl,λg hg=>heap_alloc_old w.drew _ hg⟩)
  .by_cases qS:n+m<=cap
   .have Ce:n*i.size+news.length<=cur.size:=by rw[fi,hl,dF,<-Nat.add_mul];exact jv _ qS
    have hr:=run_append_room (P:=P) w t ty ti.elem i hd hi g n cap cur hg b m c news (by rw[fi];exact hl) iA h1 qS Ce;rw[fi]at hr Ce;refine⟨_,_,hr,⟨hlen,.inr ⟨g,cap,_,rfl,k7 _,setRow_heap w g cur _ ti.elem _ hg,qS,kK,?_,?_⟩⟩,rfl,rfl,rfl,by rw[size_setRow];exact jo _,.inr (.inl ⟨rfl,⟨g,rfl⟩,λg' ah=>?_⟩)⟩
    .simp only[v7,jf,z7,vv,qd];omega
    .rw[dq,<-hlen];exact List.take_left
    .exact setRow_other w g g' _ (λh=>ah (by rw[h];rfl))
   .have holds:∀(j:Nat)(u:Value),xs[j]? = some u->w.cell? ((⟨g,0,none⟩:Addr).add j)=some u:=aA.cells (g:=g) rfl;have hr:=run_append_grow (P:=P) w t ty ti.elem i z hd hi hz ⟨g,0,none⟩ n cap xs (by rw[fi];exact aA.1) holds b m c news (by rw[fi];exact hl) iA (by omega) (by simp only[maxLen]at Cd;omega) (growslice_fits (by omega) kP);have lQ:=grownCap_ge w (n+m) cap ti.elem;refine⟨_,_,hr,⟨hlen,.inr ⟨w.heap.size,_,_,rfl,k7 _,heap_alloc_new w.drew _,lQ,grownCap_le_maxLen w (n+m) cap ti.elem Cd,?_,?_⟩⟩,rfl,rfl,rfl,by simp,.inr (.inr ⟨rfl,λg' ah=>heap_alloc_old w.drew _ ah⟩)⟩
    .simp only[Array.size_append,v7,size_zeroCells,kO,aA.1,hl,<-Nat.add_mul];congr 1;omega
    .simp only[Array.toList_append,jg];rw[<-jg,<-hlen];exact List.take_left
theorem Q8(hR:Rel N np S0 w0 refs σ a w S γ){rd:Nat->BS}(aG:RdOk σ rd){el:Ty}{y:Leaf}{ys:List el.den}{z:Value}(h:appX rd el y=some ys)(hy:br S w γ σ.bx y z) :
  ∃ad c css,z = .slice ad ys.length c/\(ad=none->ys.length=0/\c=0)/\All2 (λx c=>Rep S w el x c) ys css/\
   ∀b,ad=some b->∀(j:Nat)(u:Value),css.flatten[j]? = some u->w.cell? (b.add j)=some u:=by
 unfold appX at h;split at h
 .rename_i k;split at h
  .rename_i e F4 xs f hk;have:=lL h;cases this;have bT:=aG.nm hk;have hk:=aG.live hk;have hz:=hy.2.2 _ hk;obtain⟨css,aA,al,_⟩:=ix bT (hR.box k _ hk);rcases aA.2 with⟨hg,h0⟩|⟨g,cap,cur,hg,_⟩
   .exact⟨none,0,css,by rw[hz,hg,h0],λ_=>⟨h0,rfl⟩,al,λb hb=>by simp at hb⟩
   .refine⟨some ⟨g,0,none⟩,cap,css,by rw[hz,hg],by simp,al,λb hb j u hu=>?_⟩;simp at hb;subst hb;exact aA.cells (g:=g) (by rw[hg];rfl) j u hu
  .simp at h
 .rename_i t xs;have:=lL h;cases this;obtain⟨ad,cap,hz,hle,kK,hn,hb⟩:=hy;simp at hz;cases ad with
  |none=>
   have h0:=hn rfl;have tx:List.length ys=0:=by omega
   have:ys=[]:=jx tx;subst this;exact⟨none,cap,[],hz,λ_=>⟨rfl,h0⟩,trivial,λb hb=>by simp at hb⟩
  |some b=>
   obtain⟨cY,css,ha,hl⟩:=hb b rfl;refine⟨some b,cap,css,hz,by simp,ha,λb' ax j u hu=>?_⟩;simp at ax;subst ax
   have cY:=cY (λe=>by
    rw[e]at ha;cases css with
    |nil=>simp at hu
    |cons c cs=>exact ha)
   obtain⟨g,o,sp⟩:=b;simp at cY;subst cY;rw[Addr.add_lit];exact(hl j u hu).2
 .simp at h;subst h;exact⟨none,0,[],hy,λ_=>⟨rfl,rfl⟩,trivial,λb hb=>by simp at hb⟩
 .rename_i k j;split at h
  .rename_i e F4 xs f hk;split at h
   .rename_i cZ iQ;have:=lL iQ;cases this;simp only[j4]at h;subst h;have bT:=aG.nm hk;have hk:=aG.live hk;obtain⟨_,hj,ad,gw,ah,hu⟩:=hy.2.2 _ hk;obtain⟨css,aA,al,_⟩:=ix bT (hR.box k _ hk);have eN:=All2.all_len al;have hlen:(List.drop j cZ).length=cZ.length-j:=by simp
    rcases aA.2 with⟨hg,h0⟩|⟨g,cap,cur,hg,_,hh,iP,_⟩
    .rw[hg]at ah;simp only[Value.slice.injEq]at ah;obtain⟨rfl,_,rfl⟩:=ah;have tz:cZ=[]:=jx h0;subst tz;refine⟨none,0,[],by rw[hu];simp,λ_=>⟨by simp,rfl⟩,by simp;trivial,λb hb=>by simp at hb⟩
    .rw[hg]at ah;simp only[Value.slice.injEq,q9]at ah;obtain⟨rfl,rfl⟩:=ah;by_cases hc:cap=j
     .have tz:List.drop j cZ=[]:=jd (by omega);rw[tz];rw[if_pos hc]at hu;exact⟨some ⟨g,0,none⟩,cap-j,[],by rw[hu];simp;omega,by simp,trivial,λb hb q v hq=>by simp at hq⟩
     .rw[if_neg hc]at hu;simp only[ko,Addr.add_lit,k9]at hu;refine⟨some ⟨g,j*el.size,none⟩,cap-j,css.drop j,by rw[hu,hlen],by simp,al.drop j,λb hb q v hq=>?_⟩;simp at hb;subst hb;have ZT:(css.drop j).flatten=css.flatten.drop (j*el.size):=Cc j eN;rw[ZT,List.getElem?_drop]at hq;have:=aA.cells (g:=g) (by rw[hg];rfl) _ v hq;rw[Addr.add_lit]at this ⊢;simpa using this
   .simp at h
  .simp at h
 .simp at h
theorem ZU{P:Program}{E:Env}(hT:ca P E.T)(hR:Rel N np S0 w0 refs σ a w S γ){rd rdf:Nat->BS}(aG:RdOk σ rd)(aX:RdF np σ rdf){t ty:TypeId}{ti:TyI}(ht:E.T t=some ti)
  {el:Ty}(aW:ti.ty=some (.list el)){x y:Leaf}{xs ys:List el.den}{frz:Bool}{u:Ups}{d:Nat}{vx vy:Value}(h1:appS rdf ti.elem el x=some (xs,frz,u))(h2:appX rd el y=some ys)
  (hd:σ.bx d = .free)(eX:xs.length+ys.length<=aQ)(hx:br S w γ σ.bx x vx)(hy:br S w γ σ.bx y vy) :
  ∃v' w' S' γ',(Builtin.append_ #[t,t] ty #[vx,vy]).run P w = .ok v' w'/\Rel N np S0 w0 refs (σ.upd (u++[(d,.live (.lst ti.elem el (xs++ys) frz))])) a w' S' γ'/\
   bC S' w' γ' (σ.upd (u++[(d,.live (.lst ti.elem el (xs++ys) frz))])).bx (.one (.ol d)) v':=by
 obtain⟨ad,c,cy,Jq,fh,xj,dB⟩:=Q8 hR aG h2 hy;subst Jq;have Jr:cy.flatten.length=ys.length*el.size:=All2.flatten_length (λx c hx=>Rep.length el x c hx) xj;have ZV:∀u∈cy.flatten,One u:=by intro u hu;obtain⟨c,hc,xa⟩:=List.mem_flatten.1 hu;obtain⟨x,_,hx⟩:=xj.mem_right c hc;exact Rep.one el x c hx u xa
 obtain⟨mZ,bB,te,cA,cj⟩:=mX hT ht aW
 have src:∃σ1,σ.upd u=σ1/\Rel N np S0 w0 refs σ1 a w S γ/\σ1.bx d = .free/\∃cx,w.ownsRow 0 ti.elem el.size vx xs.length cx.flatten/\All2 (λx c=>Rep S w el x c) xs cx/\
   ∀g,blk vx=some g->Own w0 refs g/\g<w.heap.size/\(∀k b,σ1.bx k = .live b->blk (γ k)≠some g)/\(frz=false->∀o,¬S g o)/\(frz=true->∀o,S g o↔o<xs.length*el.size)/\refs.kw g=none:=by
  unfold appS at h1;split at h1
  .rename_i k;split at h1
   .rename_i e' F4 cZ f hk;split at h1
    .rename_i QY iQ;split at h1
     .rename_i he;simp only[j4,j8]at h1;obtain⟨rfl,rfl,rfl⟩:=h1;have:=lL iQ;cases this;subst he;have og:=aX.par hk;have bT:=aX.ok.nm hk;have hk:=aX.ok.live hk;have hz:=hx.2.2 _ hk;obtain⟨css,aA,al,hS⟩:=ix bT (hR.box k _ hk);have su:d≠k:=by rintro rfl;rw[hd]at hk;simp at hk
      refine⟨σ.setB k .gone,rfl,F2 hR hk,by rw[cB σ _ su];exact hd,css,by rw[hz];exact aA,al,λg hg=>?_⟩;rw[hz]at hg;refine⟨?_,iR (hR.box k _ hk) hg,λk' b' ax ah=>?_,(hS g hg).1,(hS g hg).2,hR.kw_live hk hg⟩
      .rcases hR.own k _ g hk hg with h|h
       .exact h
       .rw[og]at h;simp at h
      .have bR:k'≠k:=by rintro rfl;rw[eO]at ax;simp at ax
       rw[cB σ _ bR]at ax;exact hR.apart k' k _ _ g bR ax hk ah hg
     .simp at h1
    .simp at h1
   .simp at h1
  .simp only[j4,j8]at h1;obtain⟨rfl,rfl,rfl⟩:=h1;have hz:vx = .slice none 0 0:=hx;subst hz;exact⟨σ,rfl,hR,hd,[],World.ownsRow_nil w 0 ti.elem el.size,trivial,λg hg=>by simp[blk]at hg⟩
  .simp at h1
 obtain⟨σ1,ZW,aU,pN,cx,aA,F5,hblk⟩:=src;rw[jT,ZW];obtain⟨v',w',hr,bJ,os,tape,output,bH,bV⟩:=Q6 hT ht aW (ty:=ty) aA fh Jr dB ZV eX;have hlx:cx.flatten.length=xs.length*el.size:=aA.1;let S':ay:=λg o=>S g o\/(frz=true/\blk v'=some g/\o<(xs++ys).length*el.size)
 have au:dz S w S' w':=by
  intro g o hs;refine⟨.inl hs,?_⟩;rcases bV with⟨rfl,rfl⟩|⟨hb,⟨g0,kQ⟩,hh⟩|⟨hb,hh⟩
  .rfl
  .by_cases hg:g=g0
   .subst hg;obtain⟨_,_,_,hf,sv,_⟩:=hblk g kQ;cases frz with
    |false=>exact absurd hs (hf rfl o)
    |true=>
     have ho:=(sv rfl o).1 hs
     have gx:v'.ownBlock=some g:=by
      rw[kQ]at hb;rcases bJ.2 with⟨hn,_⟩|⟨g1,cap,cur,hn,_⟩
      .rw[hn]at hb;simp[blk]at hb
      .rw[hn]at hb ⊢;simp[blk]at hb;simp[Value.ownBlock,hb]
     have tA:vx.ownBlock=some g:=by
      rcases aA.2 with⟨hn,_⟩|⟨g1,cap,cur,hn,_⟩
      .rw[hn]at kQ;simp[blk]at kQ
      .rw[hn]at kQ ⊢;simp[blk]at kQ;simp[Value.ownBlock,kQ]
     have tB:(cx.flatten)[o]? = some (cx.flatten[o]'(by omega)):=jk (by omega);have e1:=aA.cells tA o _ tB;have e2:=bJ.cells gx o (cx.flatten[o]'(by omega)) (by rw[List.getElem?_append_left (by omega)];exact tB);rw[Addr.add_lit,k9]at e1 e2;rw[e1,e2]
   .have:=hh g (by rw[kQ];simpa using λh=>hg h.symm);exact World.cell?_of_block (a:=⟨g,o,none⟩) this
  .exact World.cell?_of_block (a:=⟨g,o,none⟩) (hh g (hR.here g o hs))
 have F6:∀g,blk v'=some g->Own w0 refs g/\(∀k b,σ1.bx k = .live b->blk (γ k)≠some g)/\g<w'.heap.size:=by
  intro g hg
  have ak:g<w'.heap.size:=by
   rcases bJ.2 with⟨hn,_⟩|⟨g1,cap,cur,hn,_,hh,_⟩
   .rw[hn]at hg;simp[blk]at hg
   .rw[hn]at hg;simp[blk]at hg;subst hg;exact(je.1 hh).1
  rcases bV with⟨rfl,rfl⟩|⟨hb,⟨g0,kQ⟩,hh⟩|⟨hb,hh⟩
  .obtain⟨q1,q2,q3,_⟩:=hblk g hg;exact⟨q1,q3,ak⟩
  .rw[hb]at hg;obtain⟨q1,q2,q3,_⟩:=hblk g hg;exact⟨q1,q3,ak⟩
  .rw[hb]at hg;simp at hg;subst hg;exact⟨.inl hR.grow,λk b hk ah=>by have:=iR (aU.box k b hk) ah;omega,ak⟩
 obtain⟨db,fY⟩:=An aU pN (hm:=I9 hT ht) (w':=w') (S':=S') (v':=v') (e:=ti.elem) (el:=el) (zs:=xs++ys) (frz:=frz) (css:=cx++cy) au (λg hg aN=>by
   rcases bV with⟨rfl,rfl⟩|⟨hb,_,hh⟩|⟨hb,hh⟩
   .rfl
   .exact hh g (by rw[<-hb];exact aN)
   .exact hh g hg) bH F6 (λg o hs=>hs.imp id (λh=>h.2.1)) os tape output (by rw[y8,jf];exact bJ)
  ((
   F5.mono (λx c hx=>Rep.keep au _ _ _ hx)).append (xj.mono (λx c hx=>Rep.keep au _ _ _ hx))) (λg hg=>by
   have hold:∀o,S g o->frz=true/\o<xs.length*el.size:=by
    intro o hs;rcases bV with⟨rfl,rfl⟩|⟨hb,⟨g0,kQ⟩,hh⟩|⟨hb,hh⟩
    .obtain⟨_,_,_,hf,sv,_⟩:=hblk g hg;cases frz with
     |false=>exact absurd hs (hf rfl o)
     |true=>exact⟨rfl,(sv rfl o).1 hs⟩
    .rw[hb]at hg;obtain⟨_,_,_,hf,sv,_⟩:=hblk g hg;cases frz with
     |false=>exact absurd hs (hf rfl o)
     |true=>exact⟨rfl,(sv rfl o).1 hs⟩
    .rw[hb]at hg;simp at hg;subst hg;exact absurd hs (B8 hR o)
   refine⟨λhf o hs=>?_,λhf o=>⟨λhs=>?_,λho=> .inr ⟨hf,hg,ho⟩⟩⟩
   .rcases hs with hs|hs
    .rw[hf]at hold;simp at hold;exact hold o hs
    .rw[hf]at hs;simp at hs
   .rcases hs with hs|hs
    .have:=(hold o hs).2;rw[jf,Nat.add_mul];omega
    .exact hs.2.2) (λg hg=>by
   rcases bV with⟨rfl,rfl⟩|⟨hb,⟨g0,kQ⟩,hh⟩|⟨hb,hh⟩
   .exact(hblk g hg).2.2.2.2.2
   .rw[hb]at hg;exact(hblk g hg).2.2.2.2.2
   .rw[hb]at hg;simp at hg;subst hg;exact hR.kw_new (jo _))
 exact⟨v',w',S',_,hr,db,fY⟩
end
theorem ZX(L l:List Value)(v:Value)(n:Nat)(h:n<L.length) :
  (L.set n v).take (n+1)++l++(L.set n v).drop (n+1+l.length)=L.take n++v::l++L.drop (n+(l.length+1)):=by
 obtain⟨A,x,B,hA,rfl⟩:∃A x B,List.length A=n/\L=A++x::B:=⟨L.take n,L[n],L.drop (n+1),by simp;omega,by rw[List.getElem_cons_drop h,qo]⟩;subst hA;rw[vg _ _ (jo _),Nat.sub_self,List.set_cons_zero];have e1:(A++v::B).take (A.length+1)=A++[v]:=by rw[show A++v::B=(A++[v])++B by simp];exact ye (by simp)
 have e2:(A++x::B).take A.length=A:=ye rfl;have e3:∀y,(A++y::B).drop (A.length+1+l.length)=B.drop l.length:=by intro y;rw[show A++y::B=(A++[y])++B by simp,<-List.drop_drop,List.drop_left' (by simp)]
 rw[e1,e2,e3,show A.length+(l.length+1)=A.length+1+l.length by omega,e3];simp
theorem Q9(off:Nat):∀(l:List Value)(k:Nat)(cells:Array Value),off+k+l.length<=cells.size->
  ((l.zipIdx k).foldl (λcs x=>cs.setIfInBounds (off+x.2) x.1) cells).toList=cells.toList.take (off+k)++l++cells.toList.drop (off+k+l.length)
 |[],k,cells,_=>by simp
 |v::l,k,cells,h=>by
  simp only[jl]at h;rw[List.zipIdx_cons,List.foldl_cons,Q9 off l (k+1) _ (by simp;omega)];simp only[Array.toList_setIfInBounds];rw[show off+(k+1)=off+k+1 by omega];exact ZX cells.toList l v (off+k) (by simp;omega)
theorem Js(cells:Array Value)(off:Nat)(zs:Array Value)(h:off+zs.size<=cells.size) :
  (zs.zipIdx.foldl (λcs (x:Value×Nat)=>cs.setIfInBounds (off+x.2) x.1) cells).toList=cells.toList.take off++zs.toList++cells.toList.drop (off+zs.size):=by
 rw[<-Array.foldl_toList,Array.toList_zipIdx];have:=Q9 off zs.toList 0 cells (by simpa using h);simpa using this
theorem Ra(z:List Value):∀(n p:Nat),p<n*z.length->(List.replicate n z).flatten[p]? = z[p%z.length]?
 |0,p,h=>by simp at h
 |n+1,p,h=>by
  rw[List.replicate_succ,ki];by_cases hp:p<z.length
  .rw[List.getElem?_append_left hp,Nat.mod_eq_of_lt hp]
  .rw[kc (by omega),Ra z n (p-z.length) (by rw[Nat.add_mul]at h;omega)];congr 1;exact(Nat.mod_eq_sub_mod (by omega)).symm
theorem Rb(z:Array Value)(n:Nat)(hz:0<z.size):((Array.range (n*z.size)).map (λi=>z[i%z.size]!)).toList=(List.replicate n z.toList).flatten:=by
 apply zm;intro p;by_cases hp:p<n*z.size
 .rw[Ra z.toList n p (by simpa using hp)];have hm:p%z.size<z.size:=Nat.mod_lt _ hz;simp[hp,hm]
 .rw[qk (by simp;omega),qk (by rw[List.length_flatten];simp;omega)]
section
variable{N:NT}{np:Nat}{S0:ay}{w0:World}{refs:Refs}{σ:St}{a:Go.Act}{w:World}{S:ay}{γ:Nat->Value}
theorem F7{t:Ty}{z:Value}(h:z.cells.toList=jS t):z.cells.size=t.size:=by
 have:=Rep.length t t.dflt _ (pO (S:=λ_ _=>False) (w:=(default:World)) t);rw[<-h]at this;simpa using this
theorem F8{t:Ty}{z:Value}(h:z.cells.toList=jS t):∀u∈z.cells.toList,One u:=by
 rw[h];exact Rep.one t t.dflt _ (pO (S:=λ_ _=>False) (w:=(default:World)) t)
theorem Jt{P:Program}{T:Nat->Option TyI}(hT:ca P T){t:TypeId}{ti:TyI}(ht:T t=some ti){ty:Ty}(aW:ti.ty=some ty) :
  ∃z:Value,z.cells.toList=jS ty/\(Instr.alloc t true (.tuple #[])).run P w = .ok (.pointer (some ⟨w.heap.size,0,none⟩)) (w.alloc (.cells z.cells t)):=by
 obtain⟨z,hz,hc⟩:=xb hT ht w aW;refine⟨z,hc,?_⟩;simp only[Instr.alloc,Sem.run_bind,hz,Result.andThen_ok,newVar,newRow,run_newObj,Sem.run_pure,World.alloc_eq]
theorem Rc{P:Program}(t:TypeId)(v:Value):(Instr.box t v).run P w = .ok (.pointer (some ⟨w.heap.size,0,none⟩)) (w.alloc (.cells v.cells t)):=by
 simp only[Instr.box,Sem.run_bind,newVar,newRow,run_newObj,Result.andThen_ok,Sem.run_pure,World.alloc_eq]
theorem Re{P:Program}{α β:Type}(f:α->Sem β)(g:α->β):∀(l:List α),(∀x∈l,(f x).run P w = .ok (g x) w)->(l.mapM f).run P w = .ok (l.map g) w
 |[],_=>by simp
 |x::l,h=>by
  rw[zu];simp only[Sem.run_bind,h x (by simp),Result.andThen_ok,Re f g l (λy hy=>h y (by simp[hy])),Sem.run_pure,jz]
theorem Rf{bx:Nat->BS}{ti:TyI}{sz:Nat->Option Nat}{place:Nat->Option (Nat×Nat)}(hp:∀i f n,ti.flds[i]? = some f->sz f.2=some n->place i=some (f.1,n)) :
  ∀(ps:List (Nat×Cel))(vs:List (Nat×Value)){ls fH:List Leaf}{cells:Array Value},All2 (λp v=>p.1=v.1/\bC S w γ bx p.2 v.2) ps vs->zP ti sz ls ps=some fH->
   All2 (br S w γ bx) ls cells.toList->(∀u∈cells.toList,One u)->∃bj,Instr.fill place cells vs=some bj/\All2 (br S w γ bx) fH bj.toList/\∀u∈bj.toList,One u
 |[],[],ls,fH,cells,_,h,ha,h1=>by
  simp[zP]at h;subst h;exact⟨cells,rfl,ha,h1⟩
 |(i,c)::ps,(j,v)::vs,ls,fH,cells,⟨⟨dG,hc⟩,fU⟩,h,ha,h1=>by
  simp only at dG;subst dG;simp only[zP]at h;split at h
  .rename_i f hf;split at h
   .rename_i new dU;split at h
    .rename_i bM;obtain⟨bH,hle⟩:=bM;obtain⟨hl,oe⟩:=Al dU hc;have hlen:=hl.length;have vB:=ha.length;have ik:v.cells.size=new.length:=by rw[hlen];simp
     have dF:cells.size=ls.length:=by rw[vB];simp
     have Ao:=Js cells f.1 v.cells (by omega);have cY:=FY (c:=f.1) ha hl
     obtain⟨bj,fj,h2,h3⟩:=Rf hp ps vs (cells:=(v.cells.zipIdx.foldl (λcs (x:Value×Nat)=>cs.setIfInBounds (f.1+x.2) x.1) cells)) fU h
      (by rw[Ao];simpa using cY) (by
       rw[Ao];intro u hu;simp only[jm]at hu;rcases hu with (hu|hu)|hu
       .exact h1 u (kp hu)
       .exact oe u hu
       .exact h1 u (zf hu))
     refine⟨bj,?_,h2,h3⟩;simp only[Instr.fill,hp i f _ hf bH];rw[if_neg (by simp[ik];omega)];exact fj
    .simp at h
   .simp at h
  .simp at h
 |[],_::_,_,_,_,h,_,_,_=>h.elim
 |_::_,[],_,_,_,h,_,_,_=>h.elim
theorem ZY{P:Program}{E:Env}(hT:ca P E.T){bx:Nat->BS}{t:TypeId}{ti:TyI}(ht:E.T t=some ti){ty:Ty}(aW:ti.ty=some ty)(mY:ty.agg=true)
  {ps:List (Nat×Cel)}{vs:Array (Nat×Value)}{ls:List Leaf}(fU:All2 (λp v=>p.1=v.1/\bC S w γ bx p.2 v.2) ps vs.toList)
  (h:zP ti (λt=>(E.T t).map (·.size)) (nY ty) ps=some ls) :
  ∃z,(Instr.build t vs).run P w = .ok z w/\bC S w γ bx (.st ls) z:=by
 obtain⟨z,hz,gM⟩:=xb hT ht w aW;obtain⟨i,d,hi,hd,_,_,_,fC,eB⟩:=mB hT ht;have mZ:=(eB ty aW).2.2;cases d with
 |struct fs=>
  simp only[B0,ja,jh]at fC;obtain⟨oP,tq⟩:=fC
  have tC:(fs.mapM (λf=>do pure (f.offset,<-sizeOf f.type):Field->Sem (Nat×Nat))).run P w = .ok (fs.map λf=>(f.offset,((E.T f.type).map (·.size)).getD 0)) w:=by
   rw[vr]
   have:=Re (P:=P) (w:=w) (λf=>(do pure (f.offset,<-sizeOf f.type):Sem (Nat×Nat))) (λf:Field=>(f.offset,((E.T f.type).map (·.size)).getD 0)) fs.toList (λf hf=>by
    have:=jq.1 tq f hf;split at this
    .rename_i tf qI;simp only[Sem.run_bind,iy hT qI,Result.andThen_ok,Sem.run_pure,qI,ko,vb]
    .simp at this)
   simp only[Sem.run_map,this,Result.andThen_ok];congr 1;apply kq;simp
  have hp:∀(i:Nat)(f:Nat×Nat)(n:Nat),ti.flds[i]? = some f->(E.T f.2).map (·.size)=some n->(fs.map λf=>(f.offset,((E.T f.type).map (·.size)).getD 0))[i]? = some (f.1,n):=by
   intro i f n hf hn;rw[<-oP,qf]at hf;cases hq:fs.toList[i]? with
   |none=>simp[hq]at hf
   |some fl=>
    simp only[hq,ko,j4]at hf;subst hf;have Ap:fs[i]? = some fl:=by simpa using hq
    simp only at hn;simp[Ap,hn]
  obtain⟨bj,fj,ha,h1⟩:=Rf (S:=S) (w:=w) (γ:=γ) (place:=λi=>(fs.map λf=>(f.offset,((E.T f.type).map (·.size)).getD 0))[i]?) hp ps vs.toList (cells:=z.cells) fU h (by rw[gM];exact vA ty) (F8 gM);refine⟨.agg bj,?_,bj,rfl,ha,h1⟩;simp only[Instr.build,Sem.run_bind,hz,Result.andThen_ok,run_underlying hd,tC,fj,Sem.run_pure]
 |_=>exfalso;revert mZ mY;cases ty<;>simp[kI,Ty.agg]
theorem Rg{rd:Nat->BS}{el:Ty}:∀(ps:List (Nat×Cel)){xs cZ:List el.den}{u u':Ups},jQ rd el xs u ps=some (cZ,u')->∃u2,u'=u++u2
 |[],_,_,u,u',h=>by simp[jQ]at h;exact⟨[],by simp[h.2]⟩
 |(i,c)::ps,xs,cZ,u,u',h=>by
  simp only[jQ]at h;split at h
  .split at h
   .obtain⟨u2,hu⟩:=Rg ps h;exact⟨_,by rw[hu,jg]⟩
   .simp at h
  .simp at h
theorem Ju{rd:Nat->BS}(aG:RdF np σ rd)(hB:Ah S w γ σ.bx){el:Ty}(bB:0<el.size):∀(ps:List (Nat×Cel))(vs:List (Nat×Value)){xs cZ:List el.den}{u u':Ups},
  All2 (λp v=>p.1=v.1/\bC S w γ σ.bx p.2 v.2) ps vs->jQ rd el xs u ps=some (cZ,u')->FrzL np σ.bx u->
  FrzL np σ.bx u'/\∀S',dz S w S' w->Froz σ.bx γ S' w u'->∀(css:List (List Value))(cells:Array Value),All2 (λx c=>Rep S' w el x c) xs css->cells.toList=css.flatten->
   ∃bj kR,Instr.fill (λi=>some (i*el.size,el.size)) cells vs=some bj/\All2 (λx c=>Rep S' w el x c) cZ kR/\bj.toList=kR.flatten
 |[],[],xs,cZ,u,u',_,h,hf=>by
  simp[jQ]at h;obtain⟨rfl,rfl⟩:=h;exact⟨hf,λS' _ _ css cells ha hc=>⟨cells,css,rfl,ha,hc⟩⟩
 |(i,c)::ps,(j,v)::vs,xs,cZ,u,u',⟨⟨dG,hc⟩,fU⟩,h,hf=>by
  simp only at dG;subst dG;simp only[jQ]at h;split at h
  .rename_i x u1 hx;split at h
   .rename_i hi;obtain⟨oP,xk,oe⟩:=B7 aG hB hx hc;obtain⟨ZZ,cU⟩:=Ju aG hB bB ps vs fU h (FrzL.app.2 ⟨hf,oP⟩);obtain⟨u2,F9⟩:=Rg ps h;refine⟨ZZ,λS' au ea css cells ha dn=>?_⟩;have Z0:=(xk S' w au (Froz.app.1 (Froz.app.1 (F9▸ea)).1).2).1;have Jv:cells.size=xs.length*el.size:=by have:=All2.flatten_length (λx c hx=>Rep.length el x c hx) ha;rw[<-dn]at this;simpa using this
    have Q5:i*el.size+el.size<=xs.length*el.size:=by have:(i+1)*el.size<=xs.length*el.size:=jv _ (by omega);rwa[vw]at this
    have oe:v.cells.toList.length=el.size:=oe;have ik:v.cells.size=el.size:=by simpa using oe
    have tu:v.cells.toList.length=v.cells.size:=qd;have Ao:=Js cells (i*el.size) v.cells (by omega);obtain⟨ci,nf⟩:∃ci,css[i]? = some ci:=⟨css[i]'(by rw[<-ha.length];exact hi),jk _⟩;have F1:=Jn (cur:=cells.toList) (n:=xs.length) (c:=0) (zs:=v.cells.toList) (All2.all_len ha) ha.length.symm (by rw[dn,<-dn];exact List.take_of_length_le (by simp[Jv])) nf (by omega);have eN:ci.length=el.size:=All2.all_len ha ci (jy nf)
    have dU:cells.toList.take (i*el.size)++v.cells.toList++cells.toList.drop (i*el.size+v.cells.size)=(css.set i v.cells.toList).flatten:=by
     have e1:ci.take 0++v.cells.toList++ci.drop (0+v.cells.toList.length)=v.cells.toList:=by rw[jd (by omega)];simp
     rw[e1]at F1;rw[<-F1];symm;refine(List.take_of_length_le ?_).trans ?_
     .simp;omega
     .simp
    obtain⟨bj,kR,h1,h2,h3⟩:=cU S' au ea (css.set i v.cells.toList) _ (ha.set i x v.cells.toList Z0) (Ao.trans dU);refine⟨bj,kR,?_,h2,h3⟩;simp only[Instr.fill];rw[if_neg (by simp[ik];omega)];exact h1
   .simp at h
  .simp at h
 |[],_::_,_,_,_,_,h,_,_=>h.elim
 |_::_,[],_,_,_,_,h,_,_=>h.elim
end
theorem Rh{P:Program}{t e:TypeId}(h:P.underlying t=some (.slice e)):P.elem t=e:=by simp[Program.elem,h]
def VB(d:Nat)(o:Option Value)(i:Nat):Prop:=(o=none/\i=d)\/∃k,o=some (.int k (i:Int))
theorem xl{P:Program}{w:World}{t:TypeId}{e s:Nat}(hd:P.underlying t=some (.slice e))(hs:(sizeOf e).run P w = .ok s w){ad:Option Addr}{len cap i j:Nat}{lo hi:Option Value}
  (iS:VB 0 lo i)(jC:VB len hi j)(dG:i<=j)(hj:j<=cap) :
  (Instr.sliceAt t (.slice ad len cap) lo hi none).run P w = .ok (.slice (if cap=i then ad else ad.map (·.add (i*s))) (j-i) (cap-i)) w:=by
 have he:=Rh hd;have gm:P.underlying t=some (.slice (P.elem t)):=by rw[he];exact hd
 rw[run_sliceAt_slice w t _ _ _ _ gm];have dP:(sizeOf (P.elem t)).run P w = .ok s w:=by rw[he];exact hs
 rcases iS with⟨rfl,rfl⟩|⟨kl,rfl⟩
 .rcases jC with⟨rfl,rfl⟩|⟨kh,rfl⟩
  .rw[run_slice_all w t ad _ cap gm,dP];simp[Result.andThen,sliced]
  .rw[run_slice_h w t ad len cap gm kh _ (by omega) (by omega),dP];simp[Result.andThen,sliced]
 .rcases jC with⟨rfl,rfl⟩|⟨kh,rfl⟩
  .rw[run_slice_l w t ad _ cap gm kl _ (by omega) (by omega),dP];simp[Result.andThen,sliced]
  .rw[run_slice_lh w t ad len cap gm kl kh _ _ (by omega) (by omega) (by omega),dP];simp[Result.andThen,sliced]
section
variable{N:NT}{np:Nat}{S0:ay}{w0:World}{refs:Refs}{σ:St}{a:Go.Act}{w:World}{S:ay}{γ:Nat->Value}
theorem Ri{el:Ty}{xs:List el.den}{ad:Option Addr}{cap:Nat}(h:Rep S w (.list el) xs [.slice ad (List.length xs) cap]){i j:Nat}(dG:i<=j)(hj:j<=List.length xs) :
  Rep S w (.list el) ((xs.take j).drop i) [.slice (if cap=i then ad else ad.map (·.add (i*el.size))) (j-i) (cap-i)]:=by
 obtain⟨Z1,gw,he,hle,kK,hn,hb⟩:=h;simp only[vi,Value.slice.injEq,and_true,q9]at he;obtain⟨rfl,rfl⟩:=he;have hlen:((xs.take j).drop i).length=j-i:=by simp;omega
 refine⟨_,_,by rw[hlen],by rw[hlen];omega,by omega,λh=>?_,λb ax=>?_⟩
 .have:ad=none:=by
   split at h
   .exact h
   .simpa using h
  have:=hn this;omega
 .by_cases hc:cap=i
  .rw[if_pos hc]at ax;have hz:(xs.take j).drop i=[]:=jx (by omega);rw[hz];exact⟨λh=>absurd rfl h,[],trivial,λj v hv=>by simp at hv⟩
  .rw[if_neg hc]at ax;cases ad with
   |none=>simp at ax
   |some b0=>
    simp only[ko,j4]at ax;subst ax;obtain⟨cY,css,ha,hl⟩:=hb b0 rfl;by_cases hx:(xs.take j).drop i=[]
    .rw[hx];exact⟨λh=>absurd rfl h,[],trivial,λj v hv=>by simp at hv⟩
    .have fZ:xs≠[]:=λh=>hx (by rw[h];simp);obtain⟨g,o,sp⟩:=b0;have cY:=cY fZ;simp at cY;subst cY;have xm:(⟨g,o,none⟩:Addr).add (i*el.size)=⟨g,o+i*el.size,none⟩:=Addr.add_lit _ _ _;rw[xm];refine⟨λ_=>rfl,(css.take j).drop i,(ha.take j).drop i,λq v hq=>?_⟩;have eN:=All2.all_len ha;rw[Cc i (λc hc=>eN c (kp hc)),vD j eN,List.getElem?_drop,qi]at hq;split at hq
     .have:=hl _ v hq;simpa[Nat.add_assoc]using this
     .simp at hq
def ORep(R:Leaf->Value->Prop):Option Leaf->Option Value->Prop
 |none,none=>True
 |some l,some v=>R l v
 |_,_=>False
theorem tD{d:Nat}{o:Option Leaf}{vo:Option Value}{i:Int}{bx:Nat->BS}(h:bnd d o=some i)(ho:ORep (br S w γ bx) o vo)(hi:0<=i):VB d vo i.toNat:=by
 unfold bnd at h;split at h
 .cases vo with
  |none=>simp at h;exact .inl ⟨rfl,by omega⟩
  |some v=>exact ho.elim
 .cases vo with
  |none=>exact ho.elim
  |some v=>simp at h;rename_i k n;have hv:v = .int k n:=oc (S:=S) (w:=w) ho;refine .inr ⟨k,?_⟩;rw[hv,show (n:Int)=i from h,Int.toNat_of_nonneg hi]
 .simp at h
theorem Z2{P:Program}{E:Env}(hT:ca P E.T)(hR:Rel N np S0 w0 refs σ a w S γ){rd:Nat->BS}(aG:RdOk σ rd){t:TypeId}{ti:TyI}(ht:E.T t=some ti)
  {d:Nat}{x l:Leaf}{lo hi:Option Leaf}{vx:Value}{qT sw:Option Value}{u:Ups}(aH:∀k,gH (rd k)=true->σ.bx k = .free)(h:zQ (parK np) rd ti d x lo hi=some (true,l,u))
  (hx:br S w γ σ.bx x vx)(iS:ORep (br S w γ σ.bx) lo qT)(jC:ORep (br S w γ σ.bx) hi sw) :
  ∃v S' γ',(Instr.sliceAt t vx qT sw none).run P w = .ok v w/\Rel N np S0 w0 refs (σ.upd u) a w S' γ'/\bC S' w γ' (σ.upd u).bx (.one l) v:=by
 unfold zQ at h;split at h
 ·-- a datum
  rename_i el xs;split at h
  .rename_i aW;obtain⟨hd,_,te,cA,cj⟩:=mX hT ht aW;have bH:=lJ hT cA cj;split at h
   .rename_i i j bQ h9;simp only[j4,j8,ja,jh]at h;obtain⟨⟨h0,h1,h2⟩,rfl,rfl⟩:=h;have mD:=hx;obtain⟨ad,cap,hv,hle,_⟩:=hx;simp at hv;subst hv;have hlen:((List.length xs:Nat):Int)=Int.ofNat (List.length xs):=rfl;refine⟨_,S,γ,xl hd (s:=el.size) ?_ (tD bQ iS h0) (tD h9 jC (by omega)) (by omega) (by omega),hR,Ri mD (by omega) (by omega),λ_=>rfl⟩;rw[iy hT cA,bH]
   .simp at h
  .simp at h
 .rename_i k;split at h
  ·-- the tail
   split at h
   .rename_i e el xs f hk;split at h
    .rename_i aW;obtain⟨hd,_,te,cA,cj⟩:=mX hT ht aW;have bH:=lJ hT cA cj;split at h
     .rename_i i bQ;simp only[j4,j8,ja,jh]at h;obtain⟨⟨h0,h1⟩,rfl,rfl⟩:=h;have bT:=aG.nm hk;have hk:=aG.live hk;have hz:=hx.2.2 _ hk;obtain⟨css,aA,_⟩:=ix bT (hR.box k _ hk)
      obtain⟨ad,cap,hg,df⟩:∃ad cap,γ k = .slice ad xs.length cap/\xs.length<=cap:=by
       rcases aA.2 with⟨hg,hn⟩|⟨g,cap,cur,hg,_,_,iP,_⟩
       .exact⟨none,0,by rw[hg,hn],by omega⟩
       .exact⟨_,cap,hg,iP⟩
      have tE:VB xs.length sw xs.length:=by
       cases sw with
       |none=>exact .inl ⟨rfl,rfl⟩
       |some v=>exact jC.elim
      subst hz;have aq:=xl (ad:=ad) (w:=w) hd (s:=el.size) (by rw[iy hT cA,bH]) (tD bQ iS h0) tE (by omega) df;rw[<-hg]at aq;refine⟨_,S,γ,aq,hR,⟨hx.1,rfl,λb hb=>?_⟩,λ_=>rfl⟩;rw[show (σ.upd []).bx k=σ.bx k from rfl,hk]at hb;cases hb;exact⟨bT,by omega,ad,cap,hg,rfl⟩
     .simp at h
    .simp at h
   .simp at h
  .rename_i hh;split at h
   .rename_i e el xs f hk;split at h
    .rename_i aW;obtain⟨hd,_,te,cA,cj⟩:=mX hT ht aW;have bH:=lJ hT cA cj;split at h
     .rename_i i j bQ h9;have bT:=aG.nm hk;have hk:=aG.live hk;have hz:=hx.2.2 _ hk;split at h
      ·-- a vF: its head
       split at h
       .rename_i sx;simp only[Option.isNone_iff_eq_none]at sx;subst sx;simp only[j4,j8,ja,jh]at h;obtain⟨⟨h0,h1⟩,rfl,rfl⟩:=h;obtain⟨css,aA,_⟩:=ix bT (hR.box k _ hk)
        have vG:VB 0 qT 0:=by
         cases qT with
         |none=>exact .inl ⟨rfl,rfl⟩
         |some v=>exact iS.elim
        have tE:=tD h9 jC h0
        obtain⟨ad,cap,hg,df,Z3⟩:∃ad cap,γ k = .slice ad xs.length cap/\xs.length<=cap/\(if cap=0 then ad else ad.map (·.add (0*el.size)))=ad:=by
         rcases aA.2 with⟨hg,hn⟩|⟨g,cap,cur,hg,_,_,iP,_⟩
         .exact⟨none,0,by rw[hg,hn],by omega,rfl⟩
         .exact⟨_,cap,hg,iP,by simp[Addr.add_lit]⟩
        have aq:=xl (ad:=ad) (w:=w) hd (s:=el.size) (by rw[iy hT cA,bH]) vG tE (by omega) (show j.toNat<=cap by omega);rw[<-hg,Z3]at aq;subst hz;refine⟨_,S,γ,aq,hR,⟨hx.1,rfl,λb hb=>?_⟩,λ_=>rfl⟩;rw[show (σ.upd []).bx k=σ.bx k from rfl,hk]at hb;cases hb;exact⟨bT,by omega,ad,cap,hg,rfl⟩
       .simp at h
      rename_i og;have og:parK np k=false:=by simpa using og
      split at h
      ·-- cut short
       rename_i eP;simp only[ja,Option.isNone_iff_eq_none,Bool.not_eq_eq_eq_not,jw]at eP;obtain⟨rfl,rfl⟩:=eP;split at h
       .rename_i gL;simp only[j4,j8,ja,jh]at h;obtain⟨⟨h0,h1⟩,rfl,rfl⟩:=h;have Cf:=aH d gL;have su:d≠k:=by rintro rfl;rw[Cf]at hk;simp at hk
        obtain⟨css,aA,al,hS⟩:=ix bT (hR.box k _ hk);have eN:=All2.all_len al
        have vG:VB 0 qT 0:=by
         cases qT with
         |none=>exact .inl ⟨rfl,rfl⟩
         |some v=>exact iS.elim
        have tE:=tD h9 jC h0;have aU:=F2 hR hk;have pN:(σ.setB k .gone).bx d = .free:=by rw[cB σ _ su];exact Cf
        have Aq:j.toNat<=xs.length:=by omega
        have Z5:css.length=xs.length:=al.length.symm
        have key:∃v',(Instr.sliceAt t vx qT sw none).run P w = .ok v' w/\w.ownsRow 0 e el.size v' (List.take j.toNat xs).length (List.take j.toNat css).flatten/\blk v'=blk vx:=by
         rw[hz];have ak:(List.take j.toNat xs).length=j.toNat:=by simp;omega
         rcases aA.2 with⟨hg,hn⟩|⟨g,cap,cur,hg,_,hh,iP,kK,dF,dq⟩
         .rw[hg];have Jw:j.toNat=0:=by omega
          refine⟨_,xl hd (s:=el.size) (len:=0) (by rw[iy hT cA,bH]) vG (by rw[hn]at tE;exact tE) (by omega) (by omega),?_,by simp;rfl⟩;rw[Jw];simpa using World.ownsRow_nil w 0 e el.size
         .rw[hg];refine⟨_,xl hd (s:=el.size) (by rw[iy hT cA,bH]) vG tE (by omega) (by omega),?_,?_⟩
          .refine⟨?_,.inr ⟨g,cap,cur,?_,k7 _,hh,by omega,kK,dF,?_⟩⟩
           .rw[vD _ eN,z7,aA.1,ak];exact Nat.min_eq_left (jv _ Aq)
           .rw[ak];by_cases hc:cap=0
            .simp[hc]
            .simp[hc,Addr.add_lit]
           .rw[ak,vD _ eN,<-dq,va,Nat.min_eq_left (jv _ Aq)]
          .by_cases hc:cap=0
           .simp[hc];rfl
           .simp[hc,Addr.add_lit];rfl
        obtain⟨v',aq,bJ,hblk⟩:=key
        have ni:∀g,blk v'=some g->Own w0 refs g/\(∀k' b,(σ.setB k .gone).bx k' = .live b->blk (γ k')≠some g)/\g<w.heap.size:=by
         intro g hg;rw[hblk,hz]at hg;refine⟨?_,λk' b' ax ah=>?_,iR (hR.box k _ hk) hg⟩
         .rcases hR.own k _ g hk hg with h|h
          .exact h
          .rw[og]at h;simp at h
         .have bR:k'≠k:=by rintro rfl;rw[eO]at ax;simp at ax
          rw[cB σ _ bR]at ax;exact hR.apart k' k _ _ g bR ax hk ah hg
        obtain⟨db,fY⟩:=An aU pN (hm:=bT) (w':=w) (S':=S) (v':=v') (e:=e) (el:=el) (zs:=List.take j.toNat xs) (frz:=false) (css:=List.take j.toNat css) (.refl S w) (λg hg aN=>rfl) (jo _) ni
         (λg o hs=> .inl hs) rfl rfl rfl bJ (al.take _) (λg hg=>⟨λ_=>(hS g (by rw[<-hz,<-hblk];exact hg)).1 rfl,by simp⟩) (λg hg=>hR.kw_live hk (by rw[<-hz,<-hblk];exact hg))
        exact⟨v',S,_,aq,db,fY⟩
       .simp at h
      ·-- shared
       simp only[j4,j8,ja,jh]at h;obtain⟨⟨h0,h1,h2⟩,rfl,rfl⟩:=h;obtain⟨S',bN,au,bd⟩:=Jk hR bT hk og;have lR:=bd;obtain⟨ad,cap,hv,hle,_⟩:=bd;simp at hv;rw[hv]at lR;refine⟨_,S',γ,by rw[hz,hv];exact xl hd (s:=el.size) (by rw[iy hT cA,bH]) (tD bQ iS h0) (tD h9 jC (by omega)) (by omega) (by omega),bN,Ri lR (by omega) (by omega),λ_=>rfl⟩
     .simp at h
    .simp at h
   .simp at h
 ·-- of a head
  rename_i k m;split at h
  .rename_i e el xs f hk;split at h
   .rename_i aW;obtain⟨aW,Z6⟩:=aW;obtain⟨hd,_,te,cA,cj⟩:=mX hT ht aW;have bH:=lJ hT cA cj;split at h
    .rename_i i j bQ h9;simp only[j4,j8,ja,jh]at h;obtain⟨⟨h0,h1,h2⟩,rfl,rfl⟩:=h;have bT:=aG.nm hk;have hk:=aG.live hk;obtain⟨_,hm,ad,cap,hg,hz⟩:=hx.2.2 _ hk;obtain⟨css,aA,_⟩:=FQ hg (hR.box k _ hk)
     have df:xs.length<=cap:=by
      rcases aA.2 with⟨ah,hn⟩|⟨g,gw,cur,ah,_,_,iP,_⟩
      .omega
      .rw[hg]at ah;simp only[Value.slice.injEq,q9]at ah;omega
     have tE:VB m sw xs.length:=by
      have:=tD h9 jC (by omega);rw[h2,j7]at this;rcases this with⟨h3,_⟩|h3
      .cases hi with
       |none=>simp at Z6
       |some y=>subst h3;exact jC.elim
      .exact .inr h3
     have aq:=xl (ad:=ad) (w:=w) hd (s:=el.size) (by rw[iy hT cA,bH]) (tD bQ iS h0) tE (by omega) df;subst hz;refine⟨_,S,γ,aq,hR,⟨hx.1,rfl,λb hb=>?_⟩,λ_=>rfl⟩;rw[show (σ.upd []).bx k=σ.bx k from rfl,hk]at hb;cases hb;exact⟨bT,by omega,ad,cap,hg,rfl⟩
    .simp at h
   .simp at h
  .simp at h
 .simp at h
theorem Z7{P:Program}{E:Env}(hT:ca P E.T)(hR:Rel N np S0 w0 refs σ a w S γ){rd:Nat->BS}(aG:RdOk σ rd){t:TypeId}{ti:TyI}(ht:E.T t=some ti)
  {x mx:Leaf}{lo hi:Option Leaf}{vx vm:Value}{qT sw:Option Value}(h:zR rd ti x lo hi mx=some true)
  (hx:br S w γ σ.bx x vx)(iS:ORep (br S w γ σ.bx) lo qT)(jC:ORep (br S w γ σ.bx) hi sw)(tF:br S w γ σ.bx mx vm) :
  ∃v,(Instr.sliceAt t vx qT sw (some vm)).run P w = .ok v w:=by
 unfold zR at h;split at h
 case h_2=>simp at h
 rename_i k k1 i k2 j k3 m;split at h
 case h_2=>simp at h
 rename_i e el xs f hk;split at h
 case isFalse=>simp at h
 rename_i aW;simp only[j4,ja,jh]at h;obtain⟨h0,h1,h2,h3⟩:=h;obtain⟨hd,_,te,cA,cj⟩:=mX hT ht aW;have bH:=lJ hT cA cj;have bT:=aG.nm hk;have hk:=aG.live hk;have hz:=hx.2.2 _ hk;cases qT with
 |none=>exact iS.elim
 |some vl=>
 cases sw with
 |none=>exact jC.elim
 |some vh=>
 have e1:vl = .int k1 i:=oc (S:=S) (w:=w) iS;have e2:vh = .int k2 j:=oc (S:=S) (w:=w) jC;have e3:vm = .int k3 m:=oc (S:=S) (w:=w) tF;subst e1 e2 e3;obtain⟨css,aA,_⟩:=ix bT (hR.box k _ hk);have he:=Rh hd;have gm:P.underlying t=some (.slice (P.elem t)):=by rw[he];exact hd
 rw[run_sliceAt_slice w t _ _ _ _ gm];have dP:(sizeOf (P.elem t)).run P w = .ok el.size w:=by rw[he];rw[iy hT cA,bH]
 have key:∀ad n cap,(m:Int)<=(cap:Nat)->∃v,(Instr.slice t (.slice ad n cap) (some (.int k1 i)) (some (.int k2 j)) (some (.int k3 m))).run P w = .ok v w:=by intro ad n cap hc;rw[run_slice_lhm w t ad n cap gm _ _ _ _ _ _ h0 h1 h2 hc,dP];exact⟨_,rfl⟩
 rcases aA.2 with⟨hg,hn⟩|⟨g,cap,cur,hg,_,hh,iP,_⟩
 .rw[hz,hg];exact key _ _ _ (qp h3 (by omega))
 .rw[hz,hg];exact key _ _ _ (qp h3 (by omega))
theorem Rj(hR:Rel N np S0 w0 refs σ a w S γ){x:Leaf}{k i e:Nat}{el:Ty}{xs:List el.den}{f:Bool}{vx:Value}(h:FH x=some (k,i))(bT:isM e=false)(hk:σ.bx k = .live (.lst e el xs f))
  (hx:br S w γ σ.bx x vx):i<=xs.length/\((xs.length=0/\vx = .slice none 0 0)\/
   ∃g cap,γ k = .slice (some ⟨g,0,none⟩) xs.length cap/\xs.length<=cap/\vx = .slice (some ⟨g,if cap=i then 0 else i*el.size,none⟩) (xs.length-i) (cap-i)):=by
 obtain⟨css,aA,al,hS⟩:=ix bT (hR.box k _ hk);unfold FH at h;split at h
 .simp only[j4,j8]at h;obtain⟨rfl,rfl⟩:=h;have hz:=hx.2.2 _ hk;refine⟨k7 _,?_⟩;rcases aA.2 with⟨hg,hn⟩|⟨g,cap,cur,hg,_,hh,iP,kK,dF,dq⟩
  .exact .inl ⟨hn,by rw[hz,hg]⟩
  .exact .inr ⟨g,cap,hg,iP,by rw[hz,hg];simp⟩
 .rename_i k' i';simp only[j4,j8]at h;obtain⟨rfl,rfl⟩:=h;obtain⟨_,hi,ad,cap,ah,hv⟩:=hx.2.2 _ hk;refine⟨hi,?_⟩;rcases aA.2 with⟨hg,hn⟩|⟨g,gw,cur,hg,_,hh,iP,kK,dF,dq⟩
  .rw[hg]at ah;simp only[Value.slice.injEq]at ah;obtain⟨rfl,_,rfl⟩:=ah;exact .inl ⟨hn,by rw[hv];simp;omega⟩
  .rw[hg]at ah;simp only[Value.slice.injEq,q9]at ah;obtain⟨rfl,rfl⟩:=ah;refine .inr ⟨g,gw,hg,iP,?_⟩;rw[hv];by_cases hc:gw=i'
   .rw[if_pos hc,if_pos hc]
   .rw[if_neg hc,if_neg hc];simp[Addr.add_lit]
 .simp at h
theorem Jy{P:Program}(hR:Rel N np S0 w0 refs σ a w S γ){k i e g cap:Nat}{el:Ty}{xs zs:List el.den}(hk:σ.bx k = .live (.lst e el xs false))(hg:γ k = .slice (some ⟨g,0,none⟩) xs.length cap)
  {cz:List (List Value)}(hz:All2 (λx c=>Rep S w el x c) zs cz)(hl:i+zs.length<=xs.length) :
  ∃w',(storeCells ⟨g,i*el.size,none⟩ cz.flatten).run P w = .ok () w'/\Rel N np S0 w0 refs (σ.setB k (.live (.lst e el (List.take i xs++(zs++List.drop (i+zs.length) xs)) false))) a w' S γ:=by
 have bT:=QI hg (hR.box k _ hk);obtain⟨css,aA,al,hS⟩:=ix bT (hR.box k _ hk);have pP:cz.flatten.length=zs.length*el.size:=All2.flatten_length (λx c hx=>Rep.length el x c hx) hz;have h1:∀u∈cz.flatten,One u:=by intro u hu;obtain⟨c,hc,xa⟩:=List.mem_flatten.1 hu;obtain⟨x,_,hx⟩:=hz.mem_right c hc;exact Rep.one el x c hx u xa
 rcases aA.2 with⟨ah,hn⟩|⟨g',gw,cur,ah,_,hh,iP,kK,dF,dq⟩
 .rw[hg]at ah;simp at ah
 rw[hg]at ah;simp only[Value.slice.injEq,j4,Addr.mk.injEq,and_true,q9]at ah;obtain⟨rfl,rfl⟩:=ah;have gp:i*el.size+zs.length*el.size<=xs.length*el.size:=by rw[<-Nat.add_mul];exact jv _ hl
 have gI:xs.length*el.size<=cap*el.size:=jv _ iP;have au:=run_storeCells_at P g (i*el.size) e cz.flatten 0 cur w hh (by rw[pP,dF];omega) h1;simp only[Nat.add_zero]at au;refine⟨_,au,?_⟩;have eN:=All2.all_len al;have Jz:=All2.all_len hz;have vC:∀o,¬S g o:=(hS g (by rw[hg];rfl)).1 rfl;refine B9 hR hk (by rw[hg];rfl) vC (b':= .lst e el _ false) ⟨rfl,rfl,λ_=>by simp;omega⟩ hh (λfF cM=>?_);have hlen:(List.take i xs++(zs++List.drop (i+zs.length) xs)).length=xs.length:=by simp;omega
 refine BZ bT ⟨css.take i++(cz++css.drop (i+zs.length)),⟨?_,.inr ⟨g,cap,_,?_,k7 _,setRow_heap w g cur _ e (0,0) hh,by rw[hlen];exact iP,kK,?_,?_⟩⟩,?_,λg' ah=>?_⟩
 .rw[hlen,xi (m:=el.size)]
  .have:=al.length;have:=hz.length;simp only[jf,z7,vv];congr 1;omega
  .intro d hd;simp only[jm]at hd;rcases hd with hd|hd|hd
   .exact eN d (kp hd)
   .exact Jz d hd
   .exact eN d (zf hd)
 .rw[hlen];exact hg
 .simp only[v7,jf,z7,vv,qd];omega
 .rw[hlen];simp only[y8,vD i eN,Cc _ eN,<-dq];have hA:(cur.toList.take (i*el.size)).length=i*el.size:=by simp;omega
  rw[jg,List.take_append,hA,List.take_of_length_le (by omega),va,Nat.min_eq_left (by omega)];congr 1;rw[List.take_append,pP,List.take_of_length_le (by omega),Nat.add_mul];congr 1;rw[List.drop_take];congr 1;omega
 .exact((al.mono (λx c hx=>Rep.keep cM _ _ _ hx)).take _).append ((hz.mono (λx c hx=>Rep.keep cM _ _ _ hx)).append ((al.mono (λx c hx=>Rep.keep cM _ _ _ hx)).drop _))
 .rw[hg]at ah;simp[blk]at ah;subst ah;exact⟨λ_=>vC,by simp⟩
theorem Rk{σ:St}{k:Nat}{b:BS}(h:σ.bx k=b):σ.setB k b=σ:=by
 unfold St.setB;congr 1;funext j;split
 .rename_i hj;subst hj;exact h.symm
 .rfl
theorem Z8{P:Program}{E:Env}(hT:ca P E.T)(hR:Rel N np S0 w0 refs σ a w S γ){rd:Nat->BS}(aG:RdOk σ rd){t ty:TypeId}{ti:TyI}(ht:E.T t=some ti)
  {x y l:Leaf}{u:Ups}{vx vy:Value}(h:zS rd ti.ty x y=some (l,u))(hx:br S w γ σ.bx x vx)(hy:br S w γ σ.bx y vy) :
  ∃v w',(Builtin.copy_ #[t,t] ty #[vx,vy]).run P w = .ok v w'/\Rel N np S0 w0 refs (σ.upd u) a w' S γ/\bC S w' γ (σ.upd u).bx (.one l) v:=by
 unfold zS at h;split at h
 .rename_i k i xn;split at h
  .rename_i e el xs hk;split at h
   .rename_i aW;split at h
    .rename_i ys gN;simp only[j4,j8]at h;obtain⟨rfl,rfl⟩:=h;have bT:=aG.nm hk;have hk:=aG.live hk;obtain⟨hd,bB,te,cA,cj⟩:=mX hT ht aW;have bH:=lJ hT cA cj;have fi:(sizeOf ti.elem).run P w = .ok el.size w:=by rw[iy hT cA,bH]
     obtain⟨ad,c,cy,Jq,fh,xj,dB⟩:=Q8 hR aG gN hy;subst Jq;obtain⟨hi,bV⟩:=Rj hR xn bT hk hx;have Cg:=All2.all_len xj;have mE:cy.length=ys.length:=xj.length.symm;have jU:(List.take (xs.length-i) ys).length=min ys.length (xs.length-i):=by simp;omega
     have xo:over xs i ys=List.take i xs++(List.take (xs.length-i) ys++List.drop (i+(List.take (xs.length-i) ys).length) xs):=by
      unfold over;congr 2;rw[jU];by_cases h:ys.length<=xs.length-i
      .rw[Nat.min_eq_left h]
      .rw[Nat.min_eq_right (by omega),jd (by omega),jd (by omega)]
     have vH:(Builtin.firstCells el.size (min ys.length (xs.length-i)) (.slice ad ys.length c)).run P w = .ok (List.take (xs.length-i) cy).flatten.toArray w:=by
      cases ad with
      |none=>have h0:=(fh rfl).1;have:cy=[]:=jx (by omega);subst this;simp[Builtin.firstCells]
      |some b=>
       have e1:(List.take (xs.length-i) cy).flatten.length=min ys.length (xs.length-i)*el.size:=by rw[xi (m:=el.size) (λc hc=>Cg c (kp hc)),z7,mE,Nat.min_comm]
       have:=run_loadCells_list (P:=P) w b (List.take (xs.length-i) cy).flatten (λj v hj=>by
        rw[vD _ Cg,qi]at hj;split at hj
        .exact dB b rfl j v hj
        .simp at hj)
       rw[e1]at this;simpa[Builtin.firstCells]using this
     have aq:∀base dl dc w',vx = .slice base dl dc->dl=xs.length-i->(base=none->w'=w)->(∀ab,base=some ab->(storeCells ab (List.take (xs.length-i) cy).flatten).run P w = .ok () w')->
       (Builtin.copy_ #[t,t] ty #[vx,.slice ad ys.length c]).run P w = .ok (goInt ((min ys.length (xs.length-i):Nat):Int)) w':=by
      intro base dl dc w' hv tG di dX;subst hv tG;have tH:Nat.min ys.length (xs.length-i)=min ys.length (xs.length-i):=rfl;cases base with
      |none=>simp[Builtin.copy_,run_underlying hd,Builtin.lenOf,fi,tH,vH,di rfl]
      |some ab=>simp[Builtin.copy_,run_underlying hd,Builtin.lenOf,fi,tH,vH,dX ab rfl]
     by_cases hn:min ys.length (xs.length-i)=0
     .have hz:List.take (xs.length-i) ys=[]:=jx (by rw[jU];exact hn);have gM:(List.take (xs.length-i) cy).flatten=[]:=by have:List.take (xs.length-i) cy=[]:=jx (by rw[z7,mE];omega);rw[this];rfl
      have JA:over xs i ys=xs:=by rw[xo,hz];simp
      refine⟨_,w,?_,?_,⟨rfl,λ_=>rfl⟩⟩
      .rcases bV with⟨h0,hv⟩|⟨g,cap,hg,df,hv⟩
       .exact aq none 0 0 w hv (by omega) (λ_=>rfl) (λab dj=>by simp at dj)
       .refine aq _ _ _ w hv rfl (λ_=>rfl) (λab dj=>?_);rw[gM];rfl
      .show Rel N np S0 w0 refs (σ.setB k (.live (.lst e el (over xs i ys) false))) a w S γ;rw[JA,Rk hk];exact hR
     .rcases bV with⟨h0,hv⟩|⟨g,cap,hg,df,hv⟩
      .omega
      .have nf:cap≠i:=by omega
       rw[if_neg nf]at hv;obtain⟨w',au,db⟩:=Jy (P:=P) hR hk hg (i:=i) (xj.take (xs.length-i)) (by rw[jU];omega);refine⟨_,w',aq _ _ _ w' hv rfl (λh=>by simp at h) (λab dj=>?_),?_,⟨rfl,λ_=>rfl⟩⟩
       .simp only[j4]at dj;subst dj;exact au
       .show Rel N np S0 w0 refs (σ.setB k (.live (.lst e el (over xs i ys) false))) a w' S γ;rw[xo];exact db
    .simp at h
   .simp at h
  .simp at h
 .simp at h
theorem Z9{P:Program}{E:Env}(hT:ca P E.T)(hR:Rel N np S0 w0 refs σ a w S γ){rd:Nat->BS}(aG:RdOk σ rd){t ty:TypeId}{ti:TyI}(ht:E.T t=some ti)
  {x:Leaf}{u:Ups}{vx:Value}(h:zT rd ti.ty x=some u)(hx:br S w γ σ.bx x vx) :
  ∃v w',(Builtin.clear_ #[t] ty #[vx]).run P w = .ok v w'/\Rel N np S0 w0 refs (σ.upd u) a w' S γ:=by
 unfold zT at h;split at h
 .rename_i k i xn;split at h
  .rename_i e el xs hk;split at h
   .rename_i aW;simp only[j4]at h;subst h;have bT:=aG.nm hk;have hk:=aG.live hk;obtain⟨hd,bB,te,cA,cj⟩:=mX hT ht aW;have bH:=lJ hT cA cj;obtain⟨z,hz,gM⟩:=xb hT cA w cj;obtain⟨hi,bV⟩:=Rj hR xn bT hk hx;by_cases hn:xs.length-i=0
    .have xo:List.take i xs++List.replicate (xs.length-i) el.dflt=xs:=by rw[hn];simp[List.take_of_length_le (show xs.length<=i by omega)]
     refine⟨.tuple #[],w,?_,?_⟩
     .rcases bV with⟨h0,hv⟩|⟨g,cap,hg,df,hv⟩
      .simp[Builtin.clear_,run_underlying hd,hv]
      .rw[hn]at hv;simp[Builtin.clear_,run_underlying hd,hv]
     .show Rel N np S0 w0 refs (σ.setB k (.live (.lst e el (List.take i xs++List.replicate (xs.length-i) el.dflt) false))) a w S γ;rw[xo,Rk hk];exact hR
    .rcases bV with⟨h0,hv⟩|⟨g,cap,hg,df,hv⟩
     .omega
     .have nf:cap≠i:=by omega
      rw[if_neg nf]at hv
      have Rl:All2 (λx c=>Rep S w el x c) (List.replicate (xs.length-i) el.dflt) (List.replicate (xs.length-i) (jS el)):=by
       have h0:=pO (S:=S) (w:=w) el
       have:∀n,All2 (λx c=>Rep S w el x c) (List.replicate n el.dflt) (List.replicate n (jS el)):=by
        intro n;induction n with
        |zero=>exact trivial
        |succ n ih=>exact⟨h0,ih⟩
       exact this _
      obtain⟨w',au,db⟩:=Jy (P:=P) hR hk hg (i:=i) Rl (by simp;omega);refine⟨.tuple #[],w',?_,?_⟩
      .have hzp:0<z.cells.size:=by have:=F7 gM;omega
       have dn:(Builtin.zeroCells z.cells (xs.length-i)).toList=(List.replicate (xs.length-i) (jS el)).flatten:=by rw[<-gM];exact Rb z.cells (xs.length-i) hzp
       rw[hv];obtain⟨m,hm⟩:∃m,xs.length-i=m+1:=⟨xs.length-i-1,by omega⟩;rw[hm]at dn au ⊢;simp[Builtin.clear_,run_underlying hd,hz,dn,au]
      .show Rel N np S0 w0 refs (σ.setB k (.live (.lst e el (List.take i xs++List.replicate (xs.length-i) el.dflt) false))) a w' S γ;have:List.drop (i+(List.replicate (xs.length-i) el.dflt).length) xs=[]:=jd (by simp;omega);rw[this,qj]at db;exact db
   .simp at h
  .simp at h
 .simp at h
theorem juY{P:Program}{E:Env}(hT:ca P E.T)(hR:Rel N np S0 w0 refs σ a w S γ){rd:Nat->BS}(aG:RdOk σ rd){t ty:TypeId}{ti:TyI}(ht:E.T t=some ti){el:Ty}(aW:ti.ty=some (.list el))
  {s x v:Leaf}{u:Ups}{vs vx:Value}(h:appH rd ti.elem el s x=some (true,v,u))(hs:br S w γ σ.bx s vs)(hx:br S w γ σ.bx x vx) :
  ∃z w',(Builtin.append_ #[t,t] ty #[vs,vx]).run P w = .ok z w'/\Rel N np S0 w0 refs (σ.upd u) a w' S γ/\br S w' γ (σ.upd u).bx v z/\One z:=by
 unfold appH at h;split at h
 case h_2=>simp at h
 rename_i k i k' j;split at h
 case isFalse=>simp at h
 rename_i bR;subst bR;split at h
 case h_2=>simp at h
 rename_i e b xs hk;split at h
 case isFalse=>simp at h
 rename_i hb;obtain⟨hb,he⟩:=hb;subst hb;subst he;simp only[j4,j8,jh]at h;obtain⟨dG,rfl,rfl⟩:=h;obtain⟨hd,_,te,cA,cj⟩:=mX hT ht aW;have bH:=lJ hT cA cj;obtain⟨inf,d,hi,_,mC,_⟩:=mB hT cA;have kS:inf.size=b.size:=by rw[mC,<-bH]
 have bT:=aG.nm hk;have hk:=aG.live hk;obtain⟨_,gO,ad,cap,hg,ik⟩:=hs.2.2 _ hk;obtain⟨_,Ar,Z1,gw,ah,tA⟩:=hx.2.2 _ hk;rw[hg]at ah;simp only[Value.slice.injEq,q9]at ah;obtain⟨rfl,rfl⟩:=ah;obtain⟨css,aA,al,hS⟩:=FQ hg (hR.box k _ hk);have eN:=All2.all_len al;have oh:(List.take i xs++(List.drop j xs++List.drop (i+(xs.length-j)) xs)).length=xs.length:=by simp;omega
 have jV:∀(w':World),br S w' γ (σ.setB k (.live (.lst ti.elem b (List.take i xs++(List.drop j xs++List.drop (i+(xs.length-j)) xs)) false))).bx (.hd k (i+(xs.length-j))) (.slice ad (i+(xs.length-j)) cap):=by intro w';refine⟨by rw[eO];simp,rfl,λb' ax=>?_⟩;rw[eO]at ax;cases ax;exact⟨bT,by rw[oh];omega,ad,cap,by rw[oh];exact hg,rfl⟩
 rcases aA.2 with⟨ej,hn⟩|⟨g,Ci,cur,ej,_,hh,iP,kK,dF,dq⟩
 .rw[hg]at ej;simp only[Value.slice.injEq]at ej;obtain⟨rfl,_,rfl⟩:=ej;have tz:xs=[]:=jx hn;subst tz;have vI:i=0:=by simpa using gO
  have Jw:j=0:=by simpa using Ar
  subst vI Jw;have aq:=run_append_owned_none (P:=P) w 0 t ty ti.elem inf b.size hd hi (.slice none 0 0) 0 [] (World.ownsRow_nil w 0 ti.elem b.size)
  have hid:σ.setB k (.live (.lst ti.elem b ([]:List b.den) false))=σ:=by
   show St.mk σ.sl _=σ
   have:(λj=>if j=k then BS.live (.lst ti.elem b ([]:List b.den) false) else σ.bx j)=σ.bx:=by
    funext j
    by_cases hj:j=k
    .subst hj;simp[hk]
    .simp[hj]
   rw[this]
  refine⟨_,w,by rw[ik,tA];exact aq,?_,jV w,rfl⟩;show Rel N np S0 w0 refs (σ.setB k (.live (.lst ti.elem b ([]:List b.den) false))) a w S γ;rw[hid];exact hR
 .rw[hg]at ej;simp only[Value.slice.injEq,q9]at ej;obtain⟨rfl,rfl⟩:=ej;obtain⟨w',au,db⟩:=Jy (P:=P) (i:=i) hR hk hg (al.drop j) (by simp;omega);have pP:(css.drop j).flatten.length=(xs.length-j)*b.size:=by have:=All2.flatten_length (λx c hx=>Rep.length b x c hx) (al.drop j);simpa using this
  have h1:∀u∈(css.drop j).flatten,One u:=by intro u hu;obtain⟨c,hc,xa⟩:=List.mem_flatten.1 hu;obtain⟨x,_,hx⟩:=(al.drop j).mem_right c hc;exact Rep.one b x c hx u xa
  have gp:i*b.size+(xs.length-j)*b.size<=xs.length*b.size:=by rw[<-Nat.add_mul];exact jv _ (by omega)
  have gI:xs.length*b.size<=cap*b.size:=jv _ iP;have cM:=run_storeCells_at P g (i*b.size) _ (css.drop j).flatten 0 cur w hh (by rw[pP,dF];omega) h1;simp only[Nat.add_zero]at cM;have hw:w'=w.setRow g (cur.toList.take (i*b.size)++(css.drop j).flatten++cur.toList.drop (i*b.size+(css.drop j).flatten.length)).toArray:=by have:=au.symm.trans cM;simpa using this
  have dn:∀q u,(css.drop j).flatten[q]? = some u->w.cell? ((⟨g,if cap=j then 0 else j*b.size,none⟩:Addr).add q)=some u:=by
   intro q u hq;have Rm:q<(xs.length-j)*b.size:=by rw[<-pP];exact(jt.1 hq).1
   have hc:¬cap=j:=by
    intro hc;have:xs.length-j=0:=by omega
    rw[this]at Rm;simp at Rm
   rw[if_neg hc,Addr.add_lit];rw[Cc j eN,List.getElem?_drop]at hq;have:=aA.cells (g:=g) (by rw[hg];rfl) _ u hq;rwa[Addr.add_lit,k9]at this
  have aq:=run_append_room (P:=P) w t ty ti.elem inf hd hi g i cap cur (by exact hh) ⟨g,if cap=j then 0 else j*b.size,none⟩ (xs.length-j) (cap-j) (css.drop j).flatten (by rw[kS];exact pP) dn h1 (by omega)
   (by rw[kS,pP,dF];omega)
  have JB:vx = .slice (some ⟨g,if cap=j then 0 else j*b.size,none⟩) (xs.length-j) (cap-j):=by
   rw[tA];by_cases hc:cap=j
   .rw[if_pos hc,if_pos hc]
   .rw[if_neg hc,if_neg hc];simp[Addr.add_lit]
  refine⟨_,w',by rw[ik,JB,aq,hw,kS],?_,jV w',rfl⟩;have:(List.drop j xs).length=xs.length-j:=by simp
  rw[this]at db;exact db
theorem juZ{P:Program}{E:Env}(hT:ca P E.T)(hR:Rel N np S0 w0 refs σ a w S γ){rd rdf:Nat->BS}(aG:RdOk σ rd)(aX:RdF np σ rdf){t ty:TypeId}{ti:TyI}(ht:E.T t=some ti){el:Ty}(aW:ti.ty=some (.list el)){n:Nat}
  {s x v:Leaf}{u:Ups}{vs vx:Value}(h:appN rd rdf el n s x=some (v,u))(hs:br S w γ σ.bx s vs)(hx:br S w γ σ.bx x vx) :
  ∃z w' γ',(Builtin.append_ #[t,t] ty #[vs,vx]).run P w = .ok z w'/\Rel N np S0 w0 refs (σ.upd u) a w' S γ'/\br S w' γ' (σ.upd u).bx v z/\One z:=by
 unfold appN at h;split at h
 case h_2=>simp at h
 rename_i k;split at h
 case h_2=>simp at h
 rename_i ls hk;split at h
 case isFalse=>simp at h
 rename_i hc;obtain⟨sx,gL⟩:=hc;simp only[j4,j8]at h;obtain⟨rfl,rfl⟩:=h;have hn:=aG.free gL;have hk:=aX.ok.live hk;have ik:vs = .slice none 0 0:=hs;subst ik;obtain⟨g,cap,hg,rfl,fc,gW⟩:=hx.2.2 _ hk;obtain⟨g',cur,e,ah,hh,cT,h1,hS,_⟩:=hR.box k _ hk;rw[hg]at ah;simp at ah;subst ah;have qO:n≠k:=by rintro rfl;rw[hn]at hk;simp at hk
 have hlen:(cur.toList.take ls.length).length=el.size:=by rw[<-cT.length,sx]
 obtain⟨v',w',hr,bJ,os,tape,output,bH,bV⟩:=Q6 (ty:=ty) hT ht aW (World.ownsRow_nil w 0 ti.elem el.size) (ad:=some ⟨g,0,none⟩) (m:=1) (c:=cap) (news:=cur.toList.take ls.length) (by simp) (by rw[hlen];omega)
  (λb hb j u hu=>by
   simp at hb;subst hb;rw[Addr.add_lit,k9,cell_of_row w g j cur e (0,0) hh];rw[qi]at hu;split at hu
   .simpa using hu
   .simp at hu) h1 (by simp[aQ])
 rw[js]at bJ;rcases bJ.2 with⟨_,hz⟩|⟨g2,Ci,xp,rfl,_,As,fF,JC,hcs2,qU⟩
 .simp at hz
 have bV:g2=w.heap.size/\∀g,g<w.heap.size->w'.heap[g]? = w.heap[g]? := by
  rcases bV with⟨h2,_⟩|⟨_,⟨g3,h3⟩,_⟩|⟨h2,h3⟩
  .simp at h2
  .simp[blk]at h3
  .exact⟨by simpa[blk]using h2,h3⟩
 obtain⟨rfl,hold⟩:=bV;have au:dz S w S w':=λg o h=>⟨h,World.cell?_of_block (hold g (hR.here g o h))⟩
 have hle:BxLe γ σ.bx (gset γ n (.pointer (some ⟨w.heap.size,0,none⟩))) ((σ.setB k .gone).setB n (.live (.cell ls false))).bx:=by
  intro k' bc;have aN:k'≠n:=by rintro rfl;exact bc hn
  rw[cB _ _ aN,fe γ _ aN];by_cases bR:k'=k
  .subst bR;rw[eO];exact⟨by simp,rfl,λb hb=>by simp at hb⟩
  .rw[cB _ _ bR];exact⟨bc,rfl,λb hb=>⟨b,hb,.refl b⟩⟩
 have gP:∀k' b,((σ.setB k .gone).setB n (.live (.cell ls false))).bx k' = .live b->(k'=n/\b = .cell ls false)\/(k'≠n/\σ.bx k' = .live b):=by
  intro k' b hb;by_cases aN:k'=n
  .subst aN;rw[eO]at hb;simp at hb;exact .inl ⟨rfl,hb.symm⟩
  .rw[cB _ _ aN]at hb;by_cases bR:k'=k
   .subst bR;rw[eO]at hb;simp at hb
   .rw[cB _ _ bR]at hb;exact .inr ⟨aN,hb⟩
 refine⟨_,w',gset γ n (.pointer (some ⟨w.heap.size,0,none⟩)),hr,?_,?_,rfl⟩
 .refine Rel.step (bx':=((σ.setB k .gone).setB n (.live (.cell ls false))).bx) hR au hle ?_ ?_ ?_ hR.new ?_ ?_ (q7 hR.grow bH) (os.trans hR.os) (tape.trans hR.tape) (output.trans hR.output) (λg hg _ h=>⟨hold g hg,λk' b hb cJ=>?_⟩)
  .intro k' b hb;rcases gP k' b hb with⟨rfl,rfl⟩|⟨aN,hb⟩
   .refine⟨w.heap.size,xp,_,eD _ _ _,As,?_,?_,λ_ o=>B8 hR o,by simp⟩
    .have:xp.toList.take ls.length=cur.toList.take ls.length:=by rw[<-qU,sx];congr 1;omega
     rw[this];exact cT.mono λx u hx=>br.keep au hle hx
    .have:xp.toList.take ls.length=cur.toList.take ls.length:=by rw[<-qU,sx];congr 1;omega
     rw[this];exact h1
   .exact ez.keep au hle (fe γ _ aN) (λg hg=>⟨hold g (iR (hR.box k' b hb) hg),λ_=>Iff.rfl⟩) (hR.box k' b hb)
  .intro k' b g hb hg;rcases gP k' b hb with⟨rfl,rfl⟩|⟨aN,hb⟩
   .rw[eD]at hg;simp[blk]at hg;subst hg;exact .inl (.inl hR.grow)
   .rw[fe γ _ aN]at hg;exact hR.own k' b g hb hg
  .intro k1 k2 b1 b2 g aN h1 h2 iz ej;rcases gP k1 b1 h1 with⟨q1,_⟩|⟨mF,q1⟩
   .rw[q1,eD]at iz;simp[blk]at iz;subst iz;rcases gP k2 b2 h2 with⟨q2,_⟩|⟨tI,q2⟩
    .exact aN (q1.trans q2.symm)
    .rw[fe γ _ tI]at ej;have:=iR (hR.box k2 b2 q2) ej;omega
   .rw[fe γ _ mF]at iz;rcases gP k2 b2 h2 with⟨q2,_⟩|⟨tI,q2⟩
    .rw[q2,eD]at ej;simp[blk]at ej;subst ej;have:=iR (hR.box k1 b1 q1) iz;omega
    .rw[fe γ _ tI]at ej;exact hR.apart k1 k2 b1 b2 g aN q1 q2 iz ej
  .intro g o hs;exact qc (hR.here g o hs) bH
  .intro g hg qR;rw[hold g (qc hg hR.grow)];exact hR.below g hg qR
  .rcases gP k' b hb with⟨rfl,rfl⟩|⟨aN,hb⟩
   .rw[eD]at cJ;simp[blk]at cJ;omega
   .rw[fe γ _ aN]at cJ;exact h k' b hb cJ
 .refine⟨by show ((σ.setB k .gone).setB n (.live (.cell ls false))).bx n≠_;rw[eO];simp,rfl,λb hb=>?_⟩;have hb:((σ.setB k .gone).setB n (.live (.cell ls false))).bx n = .live b:=hb;rw[eO]at hb;cases hb;exact⟨w.heap.size,Ci,eD _ _ _,rfl,by omega,JC⟩
theorem jv0(hR:Rel N np S0 w0 refs σ a w S γ){k d e m:Nat}{el:Ty}{xs:List el.den}(hk:σ.bx k = .live (.lst e el xs false))(og:parK np k=false)(Cf:σ.bx d = .free){ad:Option Addr}{cap:Nat}(hm:m<=xs.length)
  (hg:γ k = .slice ad xs.length cap) :
  ∃γ',Rel N np S0 w0 refs (σ.upd [(k,.gone),(d,.live (.lst e el (List.take m xs) false))]) a w S γ'/\bC S w γ' (σ.upd [(k,.gone),(d,.live (.lst e el (List.take m xs) false))]).bx (.one (.ol d)) (.slice ad m cap):=by
 have su:d≠k:=by rintro rfl;rw[Cf]at hk;simp at hk
 have bT:=QI hg (hR.box k _ hk);obtain⟨css,aA,al,hS⟩:=ix bT (hR.box k _ hk);have eN:=All2.all_len al;have aU:=F2 hR hk;have pN:(σ.setB k .gone).bx d = .free:=by rw[cB σ _ su];exact Cf
 have ak:(List.take m xs).length=m:=by simp;omega
 have hblk:blk (.slice ad m cap)=blk (γ k):=by rw[hg];cases ad<;>rfl
 have bJ:w.ownsRow 0 e el.size (.slice ad m cap) (List.take m xs).length (List.take m css).flatten:=by
  refine⟨?_,?_⟩
  .rw[vD _ eN,z7,aA.1,ak];exact Nat.min_eq_left (jv _ hm)
  .rcases aA.2 with⟨ah,hn⟩|⟨g,gw,cur,ah,_,hh,iP,kK,dF,dq⟩
   .rw[hg]at ah;simp only[Value.slice.injEq]at ah;obtain⟨rfl,_,rfl⟩:=ah;exact .inl ⟨by rw[show m=0 by omega],by omega⟩
   .rw[hg]at ah;simp only[Value.slice.injEq,q9]at ah;obtain⟨rfl,rfl⟩:=ah;refine .inr ⟨g,cap,cur,by rw[ak],k7 _,hh,by omega,kK,dF,?_⟩;rw[ak,vD _ eN,<-dq,va,Nat.min_eq_left (jv _ hm)]
 have ni:∀g,blk (.slice ad m cap)=some g->Own w0 refs g/\(∀k' b,(σ.setB k .gone).bx k' = .live b->blk (γ k')≠some g)/\g<w.heap.size:=by
  intro g hg;rw[hblk]at hg;refine⟨?_,λk' b' ax ah=>?_,iR (hR.box k _ hk) hg⟩
  .rcases hR.own k _ g hk hg with h|h
   .exact h
   .rw[og]at h;simp at h
  .have bR:k'≠k:=by rintro rfl;rw[eO]at ax;simp at ax
   rw[cB σ _ bR]at ax;exact hR.apart k' k _ _ g bR ax hk ah hg
 obtain⟨db,fY⟩:=An aU pN (hm:=bT) (w':=w) (S':=S) (v':= .slice ad m cap) (e:=e) (el:=el) (zs:=List.take m xs) (frz:=false) (css:=List.take m css) (.refl S w) (λg hg aN=>rfl) (jo _) ni
  (λg o hs=> .inl hs) rfl rfl rfl bJ (al.take _) (λg hg=>⟨λ_=>(hS g (by rw[<-hblk];exact hg)).1 rfl,by simp⟩) (λg hg=>hR.kw_live hk (by rw[<-hblk];exact hg))
 exact⟨_,db,fY⟩
end
section
variable{N:NT}{np:Nat}{S0:ay}{w0:World}{refs:Refs}{σ:St}{a:Go.Act}{w:World}{S:ay}{γ:Nat->Value}
theorem jss{el:Ty}{z:Value}(hz:z.cells.toList=jS el)(n:Nat)(bB:0<el.size) :
  ∃css,All2 (λx c=>Rep S w el x c) (List.replicate n el.dflt) css/\((Array.range (n*z.cells.size)).map (λi=>z.cells[i%z.cells.size]!)).toList=css.flatten:=by
 refine⟨List.replicate n (jS el),?_,?_⟩
 .have hz:=pO (S:=S) (w:=w) el;induction n with
  |zero=>exact trivial
  |succ n ih=>exact⟨hz,ih⟩
 .rw[Rb z.cells n (by rw[F7 hz];exact bB),hz]
theorem jk3{P:Program}{E:Env}(hT:ca P E.T)(hR:Rel N np S0 w0 refs σ a w S γ){rdf:Nat->BS}(aX:RdF np σ rdf){t:TypeId}{ti:TyI}(ht:E.T t=some ti)
  {el:Ty}(aW:ti.ty=some (.list el)){len d:Nat}{ps:List (Nat×Cel)}{vs:Array (Nat×Value)}{xs:List el.den}{u:Ups}(hlen:len*el.size<=16777216)
  (fU:All2 (λp v=>p.1=v.1/\bC S w γ σ.bx p.2 v.2) ps vs.toList)(h:jQ rdf el (List.replicate len el.dflt) [] ps=some (xs,u))(hd:σ.bx d = .free) :
  ∃v' w' S' γ',(Instr.buildSlice t len vs).run P w = .ok v' w'/\Rel N np S0 w0 refs (σ.upd (u++[(d,.live (.lst ti.elem el xs false))])) a w' S' γ'/\
   bC S' w' γ' (σ.upd (u++[(d,.live (.lst ti.elem el xs false))])).bx (.one (.ol d)) v':=by
 obtain⟨mZ,bB,te,cA,cj⟩:=mX hT ht aW;have bH:=lJ hT cA cj;obtain⟨hf,cU⟩:=Ju aX hR.box bB ps vs.toList fU h .nil;obtain⟨S1,aU,cF,ea,dI⟩:=od u σ S hR hf;obtain⟨z,hz,gM⟩:=xb hT cA w cj;have kO:z.cells.size=el.size:=F7 gM;obtain⟨JD,Cj,ng⟩:=jss (S:=S1) (w:=w) gM len bB;obtain⟨bj,kR,fj,al,dn⟩:=cU S1 cF ea JD _ Cj ng
 have om:xs.length=len:=by
  have key:∀(ps:List (Nat×Cel)){xs cZ:List el.den}{u u':Ups},jQ rdf el xs u ps=some (cZ,u')->cZ.length=xs.length:=by
   intro ps;induction ps with
   |nil=>intro xs cZ u u' h;simp[jQ]at h;rw[h.1]
   |cons p ps ih=>
    intro xs cZ u u' h;obtain⟨i,c⟩:=p;simp only[jQ]at h;split at h
    .split at h
     .rw[ih h];simp
     .simp at h
    .simp at h
  rw[key ps h];simp
 have dF:bj.size=len*el.size:=by have:=All2.flatten_length (λx c hx=>Rep.length el x c hx) al;rw[<-dn,om]at this;simpa using this
 have hzero:(if len*ti.size=0 then (Pure.pure #[]:Sem (Array Value)) else (do pure (<-zeroValue ti.elem).cells))=(if len*ti.size=0 then Pure.pure #[] else (do pure (<-zeroValue ti.elem).cells)):=rfl
 have aq:(Instr.buildSlice t len vs).run P w = .ok (.slice (some ⟨w.heap.size,0,none⟩) len len) (w.alloc (.cells bj ti.elem)):=by
  have dQ:¬len*te.size>2^24:=by rw[<-bH];omega
  simp only[Instr.buildSlice,Sem.run_bind,run_underlying mZ,Result.andThen_ok,iy hT cA,Sem.run_ite,if_neg dQ];by_cases h0:len*te.size=0
  .have tx:len=0:=by
    rw[<-bH]at h0;rcases Nat.mul_eq_zero.1 h0 with h|h
    .exact h
    .omega
   subst tx
   have qV:Instr.fill (λi=>some (i*te.size,te.size)) ((Array.range (0*te.size)).map (λi=>(#[]:Array Value)[i%(#[]:Array Value).size]!)) vs.toList=some bj:=by
    rw[<-bH];have:((Array.range (0*el.size)).map (λi=>(#[]:Array Value)[i%(#[]:Array Value).size]!))=((Array.range (0*z.cells.size)).map (λi=>z.cells[i%z.cells.size]!)):=by apply kq;simp
    rw[this];exact fj
   rw[Nat.zero_mul]at qV;simp only[h0,if_true,Sem.run_pure,Result.andThen_ok,qV,Sem.run_bind,newRow,run_newObj,World.alloc_eq]
  .have xq:Instr.fill (λi=>some (i*te.size,te.size)) ((Array.range (len*te.size)).map (λi=>z.cells[i%z.cells.size]!)) vs.toList=some bj:=by rw[<-bH];rw[kO]at fj ⊢;exact fj
   simp only[h0,z6,Sem.run_bind,hz,Sem.run_pure,Result.andThen_ok,xq,newRow,run_newObj,World.alloc_eq]
 rw[jT];have au:=Ak aU (.cells bj ti.elem)
 obtain⟨db,fY⟩:=An aU (dI.free hd) (hm:=I9 hT ht) (w':=w.alloc (.cells bj ti.elem)) (S':=S1) (v':= .slice (some ⟨w.heap.size,0,none⟩) len len) (e:=ti.elem) (el:=el) (zs:=xs) (frz:=false) (css:=kR)
  au (λg hg _=>heap_alloc_old w _ hg) (by simp) (λg hg=>by
   simp[blk]at hg;subst hg;exact⟨.inl hR.grow,λk b hk ah=>by have:=iR (aU.box k b hk) ah;omega,by simp⟩) (λg o hs=> .inl hs) rfl rfl rfl
  (by
   rw[om,<-dn];have hle:len<=maxLen:=by have:len*1<=len*el.size:=Nat.mul_le_mul_left _ bB;simp only[maxLen];omega
   exact World.ownsRow_lit w bj len (k7 _) hle dF) (al.mono (λx c hx=>Rep.keep au _ _ _ hx)) (λg hg=>by
   simp[blk]at hg;subst hg;exact⟨λ_ o=>B8 aU o,by simp⟩) (λg hg=>by simp[blk]at hg;subst hg;exact aU.kw_new (jo _))
 exact⟨_,_,S1,_,aq,db,fY⟩
theorem jv1{P:Program}{E:Env}(hT:ca P E.T)(hR:Rel N np S0 w0 refs σ a w S γ){t:TypeId}{ti:TyI}(ht:E.T t=some ti)
  {el:Ty}(aW:ti.ty=some (.list el)){n len:Nat}{fr:Bool}{ps:List (Nat×Cel)}{vs:Array (Nat×Value)}{b:Bool}{s:Slot}{u:Ups}(hn:fr=true->σ.bx n = .free)
  (fU:All2 (λp v=>p.1=v.1/\bC S w γ σ.bx p.2 v.2) ps vs.toList)(h:one1 fr el n len ps=some (.val b s u)) :
  b=true/\s = .one (.one (.s1 n))/\∃v' w' γ',(Instr.buildSlice t len vs).run P w = .ok v' w'/\Rel N np S0 w0 refs (σ.upd u) a w' S γ'/\bC S w' γ' (σ.upd u).bx (.one (.s1 n)) v':=by
 unfold one1 at h;split at h
 case h_2=>simp at h
 rename_i c;split at h
 case h_2=>simp at h
 rename_i ls Ck;split at h
 case isFalse=>simp at h
 rename_i hc;obtain⟨rfl,sx,eX,gL⟩:=hc;simp only[j4,Act.val.injEq]at h;obtain⟨rfl,rfl,rfl⟩:=h;refine⟨rfl,rfl,?_⟩
 obtain⟨⟨j,z⟩,ik⟩:∃p,vs.toList=[p]:=by
  match hv:vs.toList,fU with
  |[p],_=>exact⟨p,rfl⟩
 rw[ik]at fU;obtain⟨⟨hj,gX⟩,_⟩:=fU;simp only at hj gX;subst hj;obtain⟨ha,h1⟩:=Al Ck gX;have jU:z.cells.toList.length=el.size:=by rw[<-ha.length,sx]
 have kO:z.cells.size=el.size:=by simpa using jU
 obtain⟨mZ,bB,te,cA,cj⟩:=mX hT ht aW;have bH:=lJ hT cA cj;obtain⟨z0,kT,gM⟩:=xb hT cA w cj;have hz0s:z0.cells.size=el.size:=F7 gM;have fj:Instr.fill (λi=>some (i*te.size,te.size)) ((Array.range (1*te.size)).map (λi=>z0.cells[i%z0.cells.size]!)) vs.toList=some z.cells:=by have Ao:=Js ((Array.range (1*te.size)).map (λi=>z0.cells[i%z0.cells.size]!)) 0 z.cells (by simp;omega);rw[ik];simp only[Instr.fill];rw[if_neg (by simp;omega)];congr 1;apply kq;rw[Nat.zero_mul,Ao];simp only[List.take_zero,js];rw[jd (by simp;omega),qj]
 have aq:(Instr.buildSlice t 1 vs).run P w = .ok (.slice (some ⟨w.heap.size,0,none⟩) 1 1) (w.alloc (.cells z.cells ti.elem)):=by
  have dQ:¬1*te.size>2^24:=by rw[<-bH];omega
  have h0:¬1*te.size=0:=by omega
  simp only[Instr.buildSlice,Sem.run_bind,run_underlying mZ,Result.andThen_ok,iy hT cA,Sem.run_ite,if_neg dQ];simp only[h0,z6,Sem.run_bind,kT,Sem.run_pure,Result.andThen_ok,fj,newRow,run_newObj,World.alloc_eq]
 obtain⟨db,fY⟩:=FX hR (hn gL) (ls:=ls) (cur:=z.cells) (e:=ti.elem) ha h1;refine⟨_,_,_,aq,db,⟨by show (σ.setB n _).bx n≠_;rw[eO];simp,rfl,λb' ax=>?_⟩,λ_=>rfl⟩;have ax:(σ.setB n (.live (.cell ls false))).bx n = .live b':=ax;rw[eO]at ax;cases ax;exact⟨w.heap.size,1,eD _ _ _,rfl,jo _,by simp[maxLen]⟩
theorem xr{rd:Nat->BS}(aG:RdF np σ rd):∀{ls:List Leaf}{xs:List TV}{u:Ups}{zs:List Value},tvs rd ls=some (xs,u)->All2 (br S w γ σ.bx) ls zs->
  FrzL np σ.bx u/\∀S' w',dz S w S' w'->Froz σ.bx γ S' w' u->All2 (λx z=>Rep S' w' x.t x.v [z]) xs zs
 |[],xs,u,zs,h,ha=>by
  simp[tvs]at h;obtain⟨rfl,rfl⟩:=h;cases zs with
  |nil=>exact⟨.nil,λ_ _ _ _=>trivial⟩
  |cons _ _=>exact ha.elim
 |l::ls,xs,u,zs,h,ha=>by
  cases zs with
  |nil=>exact ha.elim
  |cons z zs=>
   simp only[tvs]at h;split at h
   .rename_i Ga u1 h1;obtain⟨f1,p1⟩:=xr aG h1 ha.2;split at h
    .rename_i t v;simp only[j4,j8]at h;obtain⟨rfl,rfl⟩:=h;exact⟨f1,λS' w' hk hf=>⟨Rep.keep hk _ _ _ ha.1,p1 S' w' hk hf⟩⟩
    .rename_i k;split at h
     .rename_i e t es f hk;simp only[j4,j8]at h;obtain⟨rfl,rfl⟩:=h;have bc:=aG.ok.live hk;refine⟨λx hx=>?_,λS' w' au hf=>⟨?_,p1 S' w' au (λx hx=>hf x (qr _ hx))⟩⟩
      .rcases jc.1 hx with rfl|hx
       .exact⟨aG.par hk,e,t,es,f,bc,rfl,aG.ok.nm hk⟩
       .exact f1 x hx
      .have:=hf (k,_) (z8 ..) e t es f bc;rw[ha.1.2.2 _ bc];exact this
     .simp at h
    .simp at h
   .simp at h
theorem Rn(hR:Rel N np S0 w0 refs σ a w S γ){k:Nat}{ls:List Leaf}{f:Bool}(hk:σ.bx k = .live (.cell ls f))(hp:parK np k=false){xs:List TV}
  (hx:∀g cur e,γ k = .pointer (some ⟨g,0,none⟩)->w.heap[g]? = some (.cells cur e (0,0))->All2 (br S w γ σ.bx) ls (cur.toList.take ls.length)->All2 (λx z=>Rep S w x.t x.v [z]) xs (cur.toList.take ls.length)) :
  ∃S' g,Rel N np S0 w0 refs (σ.setB k (.live (.cell (xs.map TV.leaf) true))) a w S' γ/\dz S w S' w/\γ k = .pointer (some ⟨g,0,none⟩)/\jB S' w (.p xs) (.pointer (some ⟨g,0,none⟩)):=by
 obtain⟨g,cur,e,hg,hh,cT,h1,Q4,hS2⟩:=hR.box k _ hk;have fZ:=hx g cur e hg hh cT;let S':ay:=λg' o=>S g' o\/(g'=g/\o<cur.size)
 have au:dz S w S' w:=λg o h=>⟨.inl h,rfl⟩
 have hle:BxLe γ σ.bx γ (σ.setB k (.live (.cell (xs.map TV.leaf) true))).bx:=by
  intro k' bc;by_cases bR:k'=k
  .subst bR;rw[eO];exact⟨by simp,rfl,λb hb=>by simp at hb;subst hb;exact⟨_,hk,trivial⟩⟩
  .rw[cB σ _ bR];exact⟨bc,rfl,λb hb=>⟨b,hb,.refl b⟩⟩
 have bD:∀k' b,(σ.setB k (.live (.cell (xs.map TV.leaf) true))).bx k' = .live b->∃b',σ.bx k' = .live b':=by
  intro k' b hb;by_cases bR:k'=k
  .subst bR;exact⟨_,hk⟩
  .rw[cB σ _ bR]at hb;exact⟨b,hb⟩
 refine⟨S',g,Rel.step (bx':=(σ.setB k (.live (.cell (xs.map TV.leaf) true))).bx) hR au hle ?_ ?_ ?_ ?_ ?_ hR.below hR.grow hR.os hR.tape hR.output (λg _ _ h=>⟨rfl,λk' b' ax=>by obtain⟨b2,dX⟩:=bD k' b' ax;exact h k' b2 dX⟩),au,hg,?_⟩
 .intro k' b hb;by_cases bR:k'=k
  .subst bR;rw[eO]at hb;simp at hb;subst hb;have hl:=FP cT fZ;exact⟨g,cur,e,hg,hh,by rw[ka,hl];exact qK (fZ.mono (λx z hz=>Rep.keep au _ _ _ hz)),by rw[ka,hl];exact h1,by simp,λ_ o ho=> .inr ⟨rfl,ho⟩⟩
  .rw[cB σ _ bR]at hb;refine ez.keep au hle rfl (λg' ah=>⟨rfl,λo=>⟨λhs=>?_,.inl⟩⟩) (hR.box k' b hb);rcases hs with hs|hs
   .exact hs
   .exact absurd (by rw[hg,hs.1];rfl) (hR.apart k' k b _ g' bR hb hk ah)
 .intro k' b g' hb ah;obtain⟨b',ax⟩:=bD k' b hb;exact hR.own k' b' g' ax ah
 .intro k1 k2 b1 b2 g' aN h1 h2 ah;obtain⟨tj,lN⟩:=bD k1 b1 h1;obtain⟨tn,kM⟩:=bD k2 b2 h2;exact hR.apart k1 k2 tj tn g' aN lN kM ah
 .intro g' o hs;rcases hs with hs|hs
  .exact hR.new g' o hs
  .rcases hR.own k _ g hk (by rw[hg];rfl) with h|h
   .refine .inr ?_;have:g'=g:=by omega
    rw[this];exact h
   .rw[hp]at h;simp at h
 .intro g' o hs;rcases hs with hs|hs
  .exact hR.here g' o hs
  .rw[hs.1];exact(je.1 hh).1
 .refine⟨g,0,cur.toList.take ls.length,rfl,fZ.mono (λx z hz=>Rep.keep au _ _ _ hz),λj v hv=>?_⟩
  have hv:cur.toList[j]? = some v:=by
   rw[qi]at hv;split at hv
   .exact hv
   .simp at hv
  have hj:j<cur.size:=by simpa using (jt.1 hv).1
  rw[k9];refine⟨.inr ⟨rfl,hj⟩,?_⟩;rw[cell_of_row w g j cur e (0,0) hh];simpa using hv
theorem Ro{rd:Nat->BS}(aG:RdF np σ rd):∀{cs:List Cel}{l:List Cap}{u:Ups}{zs:List Value},uO rd cs=some (l,u)->Rel N np S0 w0 refs σ a w S γ->All2 (bC S w γ σ.bx) cs zs->
  ∃S',Rel N np S0 w0 refs (σ.upd u) a w S' γ/\dz S w S' w/\All2 (jB S' w) l zs/\(∀k e t xs f,σ.bx k = .live (.lst e t xs f)->∃f',(σ.upd u).bx k = .live (.lst e t xs f'))/\BxLe γ σ.bx γ (σ.upd u).bx/\∀k,σ.bx k = .free->(σ.upd u).bx k = .free
 |[],l,u,zs,h,hR,ha=>by
  simp[uO]at h;obtain⟨rfl,rfl⟩:=h;cases zs with
  |nil=>exact⟨S,hR,.refl S w,trivial,λk e t xs f h=>⟨f,h⟩,.refl _ _,λ_ h=>h⟩
  |cons _ _=>exact ha.elim
 |c::r,l,u,zs,h,hR,ha=>by
  cases zs with
  |nil=>exact ha.elim
  |cons z zs=>
   simp only[uO]at h;split at h
   .rename_i l1 u1 h1;obtain⟨S1,aU,cF,fc,oe,ia,Cl⟩:=Ro aG h1 hR ha.2;split at h
    .rename_i t v;split at h
     .rename_i eP;simp only[j4,j8]at h;obtain⟨rfl,rfl⟩:=h;exact⟨S1,aU,cF,⟨⟨eP,Rep.keep cF _ _ _ ha.1.1⟩,fc⟩,oe,ia,Cl⟩
     .simp at h
    .rename_i k;split at h
     .rename_i ls f hk;split at h
      .rename_i xs u2 h2;split at h
       .simp at h
       .rename_i kU;simp only[j4,j8]at h;obtain⟨rfl,rfl⟩:=h;have og:=aG.par hk;have hk:=aG.ok.live hk;have kU:(u1++u2).any (λy=>y.1==k)=false:=qv.2 kU;rw[List.any_append,vq]at kU;obtain⟨g,cur,e,hg,hh,cT,_⟩:=hR.box k _ hk;obtain⟨tq,xd⟩:=xr aG h2 cT;have JE:FrzL np (σ.upd u1).bx u2:=by intro x hx;obtain⟨sy,e',t',cZ,f',ax,mD⟩:=tq x hx;obtain⟨f2,h2⟩:=oe _ e' t' cZ f' ax;exact⟨sy,e',t',cZ,f2,h2,mD⟩
        obtain⟨S2,bU,cM,qW,nj⟩:=od u2 (σ.upd u1) S1 aU JE;have Cm:Froz σ.bx γ S2 w u2:=by intro x hx e' t' cZ f' ax;obtain⟨f2,h2⟩:=oe _ e' t' cZ f' ax;exact qW x hx e' t' cZ f2 h2
        have gn:((σ.upd u1).upd u2).bx k = .live (.cell ls f):=by rw[kN u2 _ kU.2,kN u1 _ kU.1,hk]
        obtain⟨S3,g3,eY,tJ,Gb,df⟩:=Rn bU gn og (xs:=xs) (λg' iB e' ah u5 _=>by
         rw[hg]at ah;simp at ah;subst ah;rw[hh]at u5;simp at u5;obtain⟨rfl,_⟩:=u5;exact xd S2 w (cF.trans cM) Cm)
        have hz:z=γ k:=by obtain⟨g4,h4,h5⟩:=ha.1.1.2.2 _ hk;rw[h5,h4]
        rw[jT,jT];refine⟨S3,eY,(cF.trans cM).trans tJ,⟨by rw[hz,Gb];exact df,fc.mono (λx z hx=>jB.keep (cM.trans tJ) hx)⟩,λk' e' t' cZ f' ax=>?_,?_,λk' bc=>?_⟩
        .obtain⟨f2,h2⟩:=oe _ e' t' cZ f' ax;obtain⟨f3,h3⟩:=nj.lst h2;have bR:k'≠k:=by rintro rfl;rw[gn]at h3;simp at h3
         exact⟨f3,by show (((σ.upd u1).upd u2).setB k _).bx k'=_;rw[cB _ _ bR];exact h3⟩
        .have fF:BxLe γ (σ.upd u1).bx γ ((σ.upd u1).upd u2).bx:=nj.le
         have tK:BxLe γ ((σ.upd u1).upd u2).bx γ ((((σ.upd u1).upd u2)).setB k (.live (.cell (xs.map TV.leaf) true))).bx:=by
          intro k' bc;by_cases bR:k'=k
          .subst bR;rw[eO];exact⟨by simp,rfl,λb hb=>by simp at hb;subst hb;exact⟨_,gn,trivial⟩⟩
          .rw[cB _ _ bR];exact⟨bc,rfl,λb hb=>⟨b,hb,.refl b⟩⟩
         have tr:∀{b1 b2 b3:Nat->BS},BxLe γ b1 γ b2->BxLe γ b2 γ b3->BxLe γ b1 γ b3:=by intro b1 b2 b3 xt h23 k' bc;obtain⟨q1,q2,q3⟩:=xt k' bc;obtain⟨r1,r2,r3⟩:=h23 k' q1;refine⟨r1,rfl,λb hb=>?_⟩;obtain⟨b',ax,dP⟩:=r3 b hb;obtain⟨Cn,qX,qY⟩:=q3 b' ax;refine⟨Cn,qX,?_⟩;exact qY.trans dP
         exact tr (tr ia fF) tK
        .have h3:=nj.free (Cl k' bc);have bR:k'≠k:=by rintro rfl;rw[hk]at bc;simp at bc
         show (((σ.upd u1).upd u2).setB k _).bx k'=_;rw[cB _ _ bR];exact h3
      .simp at h
     .simp at h
    .simp at h
   .simp at h
theorem Rp:∀{cs:List Cel}{ks:List Nat}{zs:List Value},BE cs=some ks->All2 (bC S w γ σ.bx) cs zs->All2 (BW γ σ.bx) ks zs
 |[],ks,zs,h,ha=>by
  simp[BE]at h;subst h;cases zs with
  |nil=>trivial
  |cons _ _=>exact ha.elim
 |c::r,ks,zs,h,ha=>by
  cases zs with
  |nil=>exact ha.elim
  |cons z zs=>
   unfold BE at h;split at h
   .rename_i h0;simp at h0
   .rename_i k r' h0;simp only[vi]at h0;obtain⟨rfl,rfl⟩:=h0;split at h
    .rename_i I4 hk;simp only[j4]at h;subst h;obtain⟨⟨h1,h2,h3⟩,_⟩:=ha.1;exact⟨⟨h1,h2,h3⟩,Rp hk ha.2⟩
    .simp at h
   .simp at h
theorem Rq:∀{ks:List Nat}{zs:List Value},All2 (BW γ σ.bx) ks zs->All2 (bC S w γ σ.bx) (ks.map λk=> .one (.bp k 0)) zs
 |[],[],_=>trivial
 |k::ks,z::zs,h=>⟨⟨h.1,λ_=>h.1.2.1⟩,Rq h.2⟩
 |[],_::_,h=>h.elim
 |_::_,[],h=>h.elim
end
section
variable(S:ay)(w:World)
def Co(ls:List TV)(u:Value):Prop:=
 ∃g cur e,u = .pointer (some ⟨g,0,none⟩)/\w.heap[g]? = some (.cells cur e (0,0))/\All2 (λx z=>Rep S w x.t x.v [z]) ls (cur.toList.take ls.length)/\∀o,¬S g o
def vJ(e:Nat)(x:TV)(u:Value):Prop:=
 ∃(a:Ty)(xs:List a.den),x=⟨.list a,xs⟩/\qH S w e a xs u/\∀g,blk u=some g->∀o,¬S g o
def nk:Arg->Value->Prop
 |.v x,u=>VRep S w x u
 |.ref ls,u=>Co S w ls u
 |.rl e x,u=>vJ S w e x u
 |.ip ls,u=>∃g o cs,u = .pointer (some ⟨g,o,none⟩)/\All2 (λx z=>Rep S w x.t x.v [z]) ls cs/\Lies S w g o cs
 |.clo f caps,u=>∃cv:Array Value,u = .func (.func f) #[] cv/\All2 (jB S w) caps cv.toList
 |.mv e x,u=>vJ S w e x u/\isM e=false
def jW:Arg->Value->Option Nat
 |.ref _,u=>blk u
 |.rl _ _,u=>blk u
 |.mv _ _,u=>blk u
 |_,_=>none
def dR:List Arg->List Value->List Nat
 |a::as,u::us=>(jW a u).toList++dR as us
 |_,_=>[]
def mvOf:List Arg->List Value->List Nat
 |.mv _ _::as,u::us=>(blk u).toList++mvOf as us
 |_::as,_::us=>mvOf as us
 |_,_=>[]
def Gc:RL->Value->Prop
 |.d x,z=>One z/\Rep S w x.t x.v [z]
 |.own e x,z=>vJ S w e x z
def pQ:RV->Value->Prop
 |.v x,u=>VRep S w x u
 |.own e x,u=>vJ S w e x u
 |.box ls,u=>Co S w ls u
 |.hd _,u=>One u
 |.clo f caps,u=>∃cv:Array Value,u = .func (.func f) #[] cv/\All2 (jB S w) caps cv.toList
 |.so ls,u=>∃cs:Array Value,u = .agg cs/\All2 (Gc S w) ls cs.toList
 |.raw _ _,_=>True
 |.vn x ns,u=>VRep S w x u/\∀cs,u = .agg cs->∀i∈ns,∀z,cs.toList[i]? = some z->z = .slice none 0 0
def mG:RV->Value->Option Nat
 |.v _,_=>none
 |.hd _,_=>none
 |.vn _ _,_=>none
 |.clo _ _,_=>none
 |.so _,_=>none
 |.raw _ _,_=>none
 |_,u=>blk u
def oo:List RL->List Value->List Nat
 |.own _ _::ls,z::zs=>(blk z).toList++oo ls zs
 |.d _::ls,_::zs=>oo ls zs
 |_,_=>[]
def kV:RV->Value->List Nat
 |.so ls,u=>oo ls u.cells.toList
 |r,u=>(mG r u).toList
def fI:List RV->List Value->List Nat
 |r::rs,u::us=>kV r u++fI rs us
 |_,_=>[]
def kW:List Arg->List Value->List Out->Prop
 |[],[],[]=>True
 |.ref _::as,u::us,.ref ys::os=>Co S w ys u/\kW as us os
 |.rl e x::as,u::us,.rl y::os=>vJ S w e y u/\y.t=x.t/\kW as us os
 |.v _::as,_::us,os=>kW as us os
 |.ip _::as,_::us,os=>kW as us os
 |.clo _ _::as,_::us,os=>kW as us os
 |.mv _ _::as,_::us,os=>kW as us os
 |_,_,_=>False
end
def lT(vs:List Value):Value:=match vs with
 |[v]=>v
 |vs=> .tuple vs.toArray
def Gd:List Arg->List Value->Option Value
 |.ref _::_,u::_=>some u
 |.rl _ _::_,u::_=>some u
 |_::as,_::us=>Gd as us
 |_,_=>none
def emp:St:=⟨λ_=> .one (.one .dead),λ_=> .free⟩
def JF(h0:Nat)(S:ay)(w:World)(ns:List Nat)(s:Snap)(v:Value):Prop:=
 ∃γ zs,v=lT zs/\All2 (bC S w γ (emp.upd (rawU ns s)).bx) (rawC ns s) zs/\(∀k b,(emp.upd (rawU ns s)).bx k = .live b->ez S w γ (emp.upd (rawU ns s)).bx k b)/\
  (∀k b g,(emp.upd (rawU ns s)).bx k = .live b->blk (γ k)=some g->h0<=g)/\
  ∀k k' b b' g,k≠k'->(emp.upd (rawU ns s)).bx k = .live b->(emp.upd (rawU ns s)).bx k' = .live b'->blk (γ k)=some g->blk (γ k')≠some g
structure Ge(w:World)(S:ay)(args:List Arg)(vals:List Value)(ret:Ret)(v:Value)(w':World)(S':ay)(vs:List Value):Prop where
 val:v=lT vs
 rep:All2 (pQ S' w') ret.vals vs
 fresh:∀g∈fI ret.vals vs,w.heap.size<=g\/g∈mvOf args vals
 apart:(fI ret.vals vs).Nodup
 outs:kW S' w' args vals ret.outs
 stays:dz S w S' w'
 new:∀g o,S' g o->S g o\/w.heap.size<=g\/g∈mvOf args vals
 here:∀g o,S' g o->g<w'.heap.size
 below:∀g,g<w.heap.size->g∉dR args vals->w'.heap[g]? = w.heap[g]?
 grow:w.heap.size<=w'.heap.size
 os:w'.os=w.os
 tape:w'.tape=w.tape
 output:w'.output=w.output
 raw:∀ns s,ret.vals=[.raw ns s]->JF w.heap.size S' w' ns s v
 head:∀m,ret.vals=[.hd m]->∃ad len cap,Gd args vals=some (.slice ad len cap)/\m<=len/\vs=[.slice ad m cap]
def Gf(P:Program)(f:Nat)(args:List Arg)(K:Ret->Prop):Prop:=
 ∀(w:World)(S:ay)(vals:List Value),All2 (nk S w) args vals->(dR args vals).Nodup->(∀g o,S g o->g<w.heap.size)->
  Calls P f vals.toArray w λe w'=>∃ret,K ret/\∃v S' vs,e = .returned v/\Ge w S args vals ret v w' S' vs
def Fun(P:Program)(f:Nat):Prop:=
 ∃ fn, P.funcs[f]? = some fn ∧ fn.body.isNone = false ∧ (fn.name == "runtime.NumGoroutine") = false
def FnOK(P:Program)(f:Nat)(c:List Arg->(R:Type)->(Ret->Option R)->Option R):Prop:=
 ∀(args:List Arg)(R:Type)(k:Ret->Option R)(r:R),c args R k=some r->Fun P f/\Gf P f args λret=>k ret=some r
def iU(P:Program)(C:Nat->List Arg->(R:Type)->(Ret->Option R)->Option R):Prop:=∀f,FnOK P f (C f)
section
variable{N:NT}{np:Nat}{S0:ay}{w0:World}{refs:Refs}{σ:St}{a:Go.Act}{w:World}{S:ay}{γ:Nat->Value}
theorem tL{S':ay}{w':World}:∀(t:Ty)(v:t.den)(cs:List Value),t.flat=true->Rep S w t v cs->Rep S' w' t v cs
 |.int _,_,_,_,h=>h
 |.bool,_,_,_,h=>h
 |.str,_,_,_,h=>h
 |.unit,_,_,_,h=>h
 |.wrap a,v,cs,hf,h=>tL a v cs hf h
 |.pair a b,_,_,hf,⟨c1,c2,e,h1,h2⟩=>by
  simp only[Ty.flat,ja]at hf;exact⟨c1,c2,e,tL a _ _ hf.1 h1,tL b _ _ hf.2 h2⟩
 |.list _,_,_,hf,_=>by simp[Ty.flat]at hf
 |.arr _ a,_,_,hf,⟨hn,css,ha,e⟩=>⟨hn,css,ha.mono (λx c hx=>tL a x c hf hx),e⟩
def gq(bx:Nat->BS)(γ:Nat->Value):List Arg->List Value->List Bk->Prop
 |[],[],[]=>True
 |.ref ls::as,u::us,.ref k::fs=>u=γ k/\(∃fH,bx k = .live (.cell fH false))/\gq bx γ as us fs
 |.rl e x::as,u::us,.rl k e' t::fs=>e=e'/\u=γ k/\(∃xs,bx k = .live (.lst e t xs false)/\x=⟨.list t,xs⟩)/\gq bx γ as us fs
 |.v _::as,_::us,fs=>gq bx γ as us fs
 |.ip _::as,_::us,fs=>gq bx γ as us fs
 |.clo _ _::as,_::us,fs=>gq bx γ as us fs
 |.mv e x::as,u::us,.mv k e' t::fs=>e=e'/\u=γ k/\(∃xs,bx k = .live (.lst e t xs false)/\x=⟨.list t,xs⟩)/\gq bx γ as us fs
 |_,_,_=>False
theorem jsu{rd rdf:Nat->BS}(hR:Rel N np S0 w0 refs σ a w S γ)(aG:RdR σ rd)(aX:RdF np σ rdf){t:Option TyI}{mv rl:Bool}{c:Cel}{arg:Arg}{u:Ups}{f:Option Bk}{z:Value}
  (h:uP rd rdf t mv rl c=some (arg,u,f))(hc:bC S w γ σ.bx c z) :
  FrzL np σ.bx u/\gq σ.bx γ [arg] [z] f.toList/\∀S',dz S w S' w->Froz σ.bx γ S' w u->(∀k b,f.toList.any (λy=>y.name==k)=true->σ.bx k = .live b->∀g,blk (γ k)=some g->∀o,¬S' g o)->nk S' w arg z:=by
 unfold uP at h;split at h
 .rename_i k;split at h
  .rename_i ls hk;split at h
   .rename_i xs u1 h1;simp only[j4,j8]at h;obtain⟨rfl,rfl,rfl⟩:=h;have hk:=aG.live hk;obtain⟨g,hg,hz⟩:=hc.1.2.2 _ hk;obtain⟨g',cur,e,ah,hh,cT,_,_,hS⟩:=hR.box k _ hk;rw[hg]at ah;simp at ah;subst ah;obtain⟨hf,hp⟩:=xr aX h1 cT;refine⟨hf,trivial,λS' au ea _=>⟨g,0,cur.toList.take ls.length,hz,hp S' w au ea,λj v hv=>?_⟩⟩
    have hv:cur.toList[j]? = some v:=by
     rw[qi]at hv;split at hv
     .exact hv
     .simp at hv
    have hj:j<cur.size:=by simpa using (jt.1 hv).1
    rw[k9];refine⟨(au _ _ (hS rfl j hj)).1,?_⟩;rw[cell_of_row w g j cur e (0,0) hh];simpa using hv
   .simp at h
  .rename_i ls hk;split at h
   .rename_i xs u1 h1;simp only[j4,j8]at h;obtain⟨rfl,rfl,rfl⟩:=h;have hk:=aG.live hk;obtain⟨g,hg,hz⟩:=hc.1.2.2 _ hk;obtain⟨g',cur,e,ah,hh,cT,_⟩:=hR.box k _ hk;rw[hg]at ah;simp at ah;subst ah;obtain⟨hf,hp⟩:=xr aX h1 cT;refine⟨hf,⟨hz.trans hg.symm,⟨ls,hk⟩,trivial⟩,λS' au ea hn=>⟨g,cur,e,hz,hh,by rw[FP cT (hp S' w au ea)];exact hp S' w au ea,?_⟩⟩;exact hn k _ (by simp[Bk.name]) hk g (by rw[hg];rfl)
   .simp at h
  .simp at h
 .simp only[j4,j8]at h;obtain⟨rfl,rfl,rfl⟩:=h;refine⟨.nil,trivial,λS' au _ _=>?_⟩;obtain⟨g,o,cs,hz,ha,hl⟩:=hc.1;exact⟨g,o,cs,hz,ha.mono (λx z hx=>Rep.keep au _ _ _ hx),hl.keep au⟩
 .simp only[j4,j8]at h;obtain⟨rfl,rfl,rfl⟩:=h;refine⟨.nil,trivial,λS' au _ _=>?_⟩;obtain⟨cv,hz,ha⟩:=hc.1;exact⟨cv,hz,ha.mono (λx z hx=>jB.keep au hx)⟩
 .rename_i k;split at h
  .cases mv with
   |true=>
    rw[j5]at h;split at h
    .rename_i e t xs hk;simp only[j4,j8]at h;obtain⟨rfl,rfl,rfl⟩:=h;have bT:=aX.ok.nm hk;have hk:=aX.ok.live hk;have hz:=hc.1.2.2 _ hk;refine⟨.nil,⟨rfl,hz,⟨xs,hk,rfl⟩,trivial⟩,λS' au _ hn=>?_⟩;have er:=(hR.box k _ hk).1;exact⟨⟨t,xs,rfl,by rw[hz];exact er.keep au (λ_ _=>rfl),λg hg=>hn k _ (by simp[Bk.name]) hk g (by rw[<-hz];exact hg)⟩,bT⟩
    .simp at h
   |false=>
   rw[j6]at h;split at h
   .rename_i e t xs hk;simp only[j4,j8]at h;obtain⟨rfl,rfl,rfl⟩:=h;have hk:=aG.live hk;have hz:=hc.1.2.2 _ hk;refine⟨.nil,⟨rfl,hz,⟨xs,hk,rfl⟩,trivial⟩,λS' au _ hn=>?_⟩;have er:=(hR.box k _ hk).1;exact⟨t,xs,rfl,by rw[hz];exact er.keep au (λ_ _=>rfl),λg hg=>hn k _ (by simp[Bk.name]) hk g (by rw[<-hz];exact hg)⟩
   .simp at h
  .split at h
   .rename_i e t xs fz hk;simp only[j4,j8]at h;obtain⟨rfl,rfl,rfl⟩:=h;have og:=aX.par hk;have bT:=aX.ok.nm hk;have hk:=aX.ok.live hk;have hz:=hc.1.2.2 _ hk;refine⟨λx hx=>?_,trivial,λS' au ea _=>?_⟩
    .have:=km.1 hx;subst this;exact⟨og,e,t,xs,fz,hk,rfl,bT⟩
    .have h1:One z:=hc.2 (by simp);have:=ea (k,_) (km.2 rfl) e t xs fz hk;rw[<-hz]at this;exact⟨by rw[Aj h1];exact this,by simp[iw,Ty.agg],λ_=>h1⟩
   .simp at h
 .split at h
  .split at h
   .rename_i ty aW;split at h
    .rename_i x u1 hx;simp only[j4,j8]at h;obtain⟨rfl,rfl,rfl⟩:=h;obtain⟨hf,hp,_⟩:=B7 aX hR.box hx hc;exact⟨hf,trivial,λS' au ea _=>hp S' w au ea⟩
    .simp at h
   .simp at h
  .simp at h
theorem gq.app{bx:Nat->BS}{arg:Arg}{z:Value}{f:List Bk}:gq bx γ [arg] [z] f->∀{as:List Arg}{us:List Value}{fs:List Bk},gq bx γ as us fs->gq bx γ (arg::as) (z::us) (f++fs):=by
 intro h as us fs h';cases arg with
 |v x=>cases f with|nil=>exact h'|cons _ _=>exact h.elim
 |ip x=>cases f with|nil=>exact h'|cons _ _=>exact h.elim
 |clo x y=>cases f with|nil=>exact h'|cons _ _=>exact h.elim
 |ref ls=>
  match f,h with
  |[.ref k],⟨h1,h2,_⟩=>exact⟨h1,h2,h'⟩
  |.ref k::_::_,⟨_,_,h3⟩=>exact h3.elim
 |rl e x=>
  match f,h with
  |[.rl k e' t],⟨h0,h1,h2,_⟩=>exact⟨h0,h1,h2,h'⟩
  |.rl k e' t::_::_,⟨_,_,_,h3⟩=>exact h3.elim
 |mv e x=>
  match f,h with
  |[.mv k e' t],⟨h0,h1,h2,_⟩=>exact⟨h0,h1,h2,h'⟩
  |.mv k e' t::_::_,⟨_,_,_,h3⟩=>exact h3.elim
theorem Rr{rd rdf:Nat->BS}(hR:Rel N np S0 w0 refs σ a w S γ)(aG:RdR σ rd)(aX:RdF np σ rdf){T:Nat->Option TyI}{mv:Bool}:∀{cs:List Cel}{ts:List Nat}{ms:List Bool}{as:List Arg}{u:Ups}{fs:List Bk}{zs:List Value},
  oK rd rdf T mv ts ms cs=some (as,u,fs)->All2 (bC S w γ σ.bx) cs zs->
  FrzL np σ.bx u/\gq σ.bx γ as zs fs/\∀S',dz S w S' w->Froz σ.bx γ S' w u->(∀k b,fs.any (λy=>y.name==k)=true->σ.bx k = .live b->∀g,blk (γ k)=some g->∀o,¬S' g o)->All2 (nk S' w) as zs
 |[],ts,ms,as,u,fs,zs,h,ha=>by
  simp[oK]at h;obtain⟨rfl,rfl,rfl⟩:=h;cases zs with
  |nil=>exact⟨.nil,trivial,λ_ _ _ _=>trivial⟩
  |cons _ _=>exact ha.elim
 |c::cs,ts,ms,as,u,fs,zs,h,ha=>by
  cases zs with
  |nil=>exact ha.elim
  |cons z zs=>
   simp only[oK]at h;split at h
   .rename_i a1 u1 f1 h1;split at h
    .rename_i FO JG Rs h2;simp only[j4,j8]at h;obtain⟨rfl,rfl,rfl⟩:=h;obtain⟨p1,q1,r1⟩:=jsu hR aG aX h1 ha.1;obtain⟨p2,q2,r2⟩:=Rr hR aG aX h2 ha.2;refine⟨FrzL.app.2 ⟨p1,p2⟩,q1.app q2,λS' au ea hn=>?_⟩;obtain⟨z1,z2⟩:=Froz.app.1 ea;exact⟨r1 S' au z1 (λk b hk=>hn k b (by rw[List.any_append,hk];rfl)),r2 S' au z2 (λk b hk=>hn k b (by rw[List.any_append,hk];simp))⟩
    .simp at h
   .simp at h
theorem Ru:∀{cs:List Cap}{zs:List Value},All2 (jB S w) cs zs->All2 (nk S w) (cs.map oL) zs
 |[],[],_=>trivial
 |c::cs,z::zs,h=>by
  refine⟨?_,Ru h.2⟩;cases c with
  |v x=>obtain⟨hl,hr⟩:=h.1;have h1:One z:=Rep.one _ _ _ hr z (by simp);refine⟨by rw[Aj h1];exact hr,λhm=>?_,λ_=>h1⟩;exfalso;obtain⟨t,v⟩:=x;cases t<;>simp_all[Ty.leafy,iw,Ty.agg]
  |p ls=>exact h.1
 |[],_::_,h=>h.elim
 |_::_,[],h=>h.elim
theorem Rv:∀(cs:List Cap)(zs:List Value),dR (cs.map oL) zs=[]
 |[],_=>by cases ‹List Value› <;> rfl
 |c::cs,[]=>rfl
 |c::cs,z::zs=>by cases c<;>simp[dR,jW,oL,Rv cs zs]
theorem Rw:∀(as:List Arg)(us:List Value)(bs:List Arg)(vs:List Value),as.length=us.length->dR (as++bs) (us++vs)=dR as us++dR bs vs
 |[],[],bs,vs,_=>rfl
 |a::as,u::us,bs,vs,h=>by simp[dR,Rw as us bs vs (by simpa using h)]
 |[],_::_,_,_,h=>by simp at h
 |_::_,[],_,_,h=>by simp at h
theorem vK{bx:Nat->BS}:∀{as:List Arg}{us:List Value}{fs:List Bk},gq bx γ as us fs->dR as us=fs.filterMap λf=>blk (γ f.name)
 |[],[],[],_=>rfl
 |.ref ls::as,u::us,.ref k::fs,⟨h1,_,h3⟩=>by
  simp only[dR,jW,qn,Bk.name,h1,vK h3];cases blk (γ k)<;>rfl
 |.rl e x::as,u::us,.rl k e' t::fs,⟨_,h1,_,h3⟩=>by
  simp only[dR,jW,qn,Bk.name,h1,vK h3];cases blk (γ k)<;>rfl
 |.mv e x::as,u::us,.mv k e' t::fs,⟨_,h1,_,h3⟩=>by
  simp only[dR,jW,qn,Bk.name,h1,vK h3];cases blk (γ k)<;>rfl
 |.v _::as,_::us,fs,h=>by simp[dR,jW,vK (as:=as) (us:=us) (fs:=fs) h]
 |.ip _::as,_::us,fs,h=>by simp[dR,jW,vK (as:=as) (us:=us) (fs:=fs) h]
 |.clo _ _::as,_::us,fs,h=>by simp[dR,jW,vK (as:=as) (us:=us) (fs:=fs) h]
theorem Rx:∀{as:List Arg}{us:List Value}{g:Nat},g∈mvOf as us->g∈dR as us
 |[],_,g,h=>by simp[mvOf]at h
 |_::_,[],g,h=>by rename_i a _;cases a<;>simp[mvOf]at h
 |a::as,u::us,g,h=>by
  have ih:=Rx (as:=as) (us:=us) (g:=g);cases a with
  |mv e x=>simp only[mvOf,dR,jW,jm]at h ⊢;exact h.imp id ih
  |_=>simp only[mvOf]at h;simp only[dR,jm];exact .inr (ih h)
theorem vL{bx:Nat->BS}:∀{as:List Arg}{us:List Value}{fs:List Bk}{g:Nat},gq bx γ as us fs->g∈mvOf as us->∃f∈fs,f.isMv=true/\blk (γ f.name)=some g
 |[],[],[],g,_,h=>by simp[mvOf]at h
 |.ref ls::as,u::us,.ref k::fs,g,⟨_,_,h3⟩,h=>by
  obtain⟨f,hf,h1⟩:=vL (g:=g) h3 (by simpa only[mvOf]using h);exact⟨f,by simp[hf],h1⟩
 |.rl e x::as,u::us,.rl k e' t::fs,g,⟨_,_,_,h3⟩,h=>by
  obtain⟨f,hf,h1⟩:=vL (g:=g) h3 (by simpa only[mvOf]using h);exact⟨f,by simp[hf],h1⟩
 |.mv e x::as,u::us,.mv k e' t::fs,g,⟨_,h1,_,h3⟩,h=>by
  simp only[mvOf,jm,Option.mem_toList]at h;rcases h with h|h
  .exact⟨.mv k e' t,by simp,rfl,by rw[<-h];show blk (γ k)=blk u;rw[h1]⟩
  .obtain⟨f,hf,h1⟩:=vL (g:=g) h3 h;exact⟨f,by simp[hf],h1⟩
 |.v _::as,_::us,fs,g,hb,h=>vL (as:=as) (us:=us) (fs:=fs) hb (by simpa only[mvOf]using h)
 |.ip _::as,_::us,fs,g,hb,h=>vL (as:=as) (us:=us) (fs:=fs) hb (by simpa only[mvOf]using h)
 |.clo _ _::as,_::us,fs,g,hb,h=>vL (as:=as) (us:=us) (fs:=fs) hb (by simpa only[mvOf]using h)
theorem jsw{rd rdf:Nat->BS}(aX:RdF np σ rdf){t:Option TyI}{mv rl:Bool}{c:Cel}{arg:Arg}{u:Ups}{f:Option Bk}(h:uP rd rdf t mv rl c=some (arg,u,f)):∀x∈f.toList,x.isMv=true->parK np x.name=false:=by
 intro x hx hm;unfold uP at h;split at h
 .split at h
  .split at h
   .simp only[j4,j8]at h;obtain⟨_,_,rfl⟩:=h;simp at hx
   .simp at h
  .split at h
   .simp only[j4,j8]at h;obtain⟨_,_,rfl⟩:=h;simp at hx;subst hx;simp[Bk.isMv]at hm
   .simp at h
  .simp at h
 .simp only[j4,j8]at h;obtain⟨_,_,rfl⟩:=h;simp at hx
 .simp only[j4,j8]at h;obtain⟨_,_,rfl⟩:=h;simp at hx
 .split at h
  .cases mv with
   |true=>
    rw[j5]at h;split at h
    .rename_i hk;simp only[j4,j8]at h;obtain⟨_,_,rfl⟩:=h;simp at hx;subst hx;exact aX.par hk
    .simp at h
   |false=>
    rw[j6]at h;split at h
    .simp only[j4,j8]at h;obtain⟨_,_,rfl⟩:=h;simp at hx;subst hx;simp[Bk.isMv]at hm
    .simp at h
  .split at h
   .simp only[j4,j8]at h;obtain⟨_,_,rfl⟩:=h;simp at hx
   .simp at h
 .split at h
  .split at h
   .split at h
    .simp only[j4,j8]at h;obtain⟨_,_,rfl⟩:=h;simp at hx
    .simp at h
   .simp at h
  .simp at h
theorem Ry{rd rdf:Nat->BS}(aX:RdF np σ rdf){T:Nat->Option TyI}{mv:Bool}:∀{cs:List Cel}{ts:List Nat}{ms:List Bool}{as:List Arg}{u:Ups}{fs:List Bk},
  oK rd rdf T mv ts ms cs=some (as,u,fs)->∀x∈fs,x.isMv=true->parK np x.name=false
 |[],ts,ms,as,u,fs,h,x,hx,hm=>by
  simp[oK]at h;obtain⟨rfl,rfl,rfl⟩:=h;simp at hx
 |c::cs,ts,ms,as,u,fs,h,x,hx,hm=>by
  simp only[oK]at h;split at h
  .rename_i a1 u1 f1 h1;split at h
   .rename_i FO JG Rs h2;simp only[j4,j8]at h;obtain⟨rfl,rfl,rfl⟩:=h;rcases jm.1 hx with hx|hx
    .exact jsw aX h1 x hx hm
    .exact Ry aX h2 x hx hm
   .simp at h
  .simp at h
theorem sA{bx:Nat->BS}:∀{as:List Arg}{us:List Value}{fs:List Bk},gq bx γ as us fs->∀f∈fs,∃b,bx f.name = .live b
 |[],[],[],_,f,hf=>by simp at hf
 |.ref ls::as,u::us,.ref k::fs,⟨_,⟨fH,h2⟩,h3⟩,f,hf=>by
  rcases jc.1 hf with rfl|hf
  .exact⟨_,h2⟩
  .exact sA h3 f hf
 |.rl e x::as,u::us,.rl k e' t::fs,⟨_,_,⟨xs,h2,_⟩,h3⟩,f,hf=>by
  rcases jc.1 hf with rfl|hf
  .exact⟨_,h2⟩
  .exact sA h3 f hf
 |.mv e x::as,u::us,.mv k e' t::fs,⟨_,_,⟨xs,h2,_⟩,h3⟩,f,hf=>by
  rcases jc.1 hf with rfl|hf
  .exact⟨_,h2⟩
  .exact sA h3 f hf
 |.v _::as,_::us,fs,h,f,hf=>sA (as:=as) (us:=us) (fs:=fs) h f hf
 |.ip _::as,_::us,fs,h,f,hf=>sA (as:=as) (us:=us) (fs:=fs) h f hf
 |.clo _ _::as,_::us,fs,h,f,hf=>sA (as:=as) (us:=us) (fs:=fs) h f hf
theorem xu:∀{l:List Nat},oa l=true->l.Nodup
 |[],_=>zg
 |x::l,h=>by
  simp only[oa,ja,kr,qb,kj]at h;exact q8.2 ⟨h.1,xu h.2⟩
theorem JH(hR:Rel N np S0 w0 refs σ a w S γ):∀{l:List Nat},l.Nodup->(∀k∈l,∃b,σ.bx k = .live b)->(l.filterMap λk=>blk (γ k)).Nodup
 |[],_,_=>by simp
 |k::l,h,hl=>by
  obtain⟨h1,h2⟩:=q8.1 h;have ih:=JH hR h2 (λk hk=>hl k (by simp[hk]));rw[qn];cases hb:blk (γ k) with
  |none=>exact ih
  |some g=>refine q8.2 ⟨λhm=>?_,ih⟩;obtain⟨k',bc,ah⟩:=zv.1 hm;obtain⟨b,di⟩:=hl k (by simp);obtain⟨b',dX⟩:=hl k' (by simp[bc]);exact hR.apart k k' b b' g (by rintro rfl;exact h1 bc) di dX hb ah
end
section
variable{N:NT}{np:Nat}{S0:ay}{w0:World}{refs:Refs}{σ:St}{a:Go.Act}{w:World}{S:ay}{γ:Nat->Value}
theorem vM:∀(u:Ups)(σ:St){k:Nat}{b:BS},(u.map (·.1)).Nodup->(k,b)∈u->(σ.upd u).bx k=b
 |[],_,_,_,_,h=>by simp at h
 |e::u,σ,k,b,hn,h=>by
  simp only[jz,q8]at hn;show ((σ.setB e.1 e.2).upd u).bx k=_;rcases jc.1 h with h|h
  .subst h;rw[kN u,eO];simp only[qm,zr];intro x hx he;exact hn.1 (jn.2 ⟨x,hx,he⟩)
  .exact vM u _ hn.2 h
theorem jv5{e:Nat}{m n n':Nat}{v:Value}{w':World}{xs ys:List Value}(h:w.ownsRow 0 e m v n xs)(h':w'.ownsRow 0 e m v n' ys):n=n':=by
 rcases h.2 with⟨e1,e2⟩|⟨g,cap,cur,e1,_⟩<;>rcases h'.2 with⟨f1,f2⟩|⟨g',gw,iB,f1,_⟩
 .rw[e2,f2]
 .rw[e1]at f1;simp at f1
 .rw[e1]at f1;simp at f1
 .rw[e1]at f1;simp at f1;exact f1.2.1
theorem JI{bx:Nat->BS}{S':ay}{w':World}{ys:List TV}{k:Nat}{v:Value}(hg:γ k=v)(h:Co S' w' ys v):ez S' w' γ bx k (.cell (ys.map TV.leaf) false):=by
 obtain⟨g,cur,e,hu,hh,al,hS⟩:=h;exact⟨g,cur,e,hg.trans hu,hh,by rw[ka];exact qK al,λu dH=>by rw[ka]at dH;obtain⟨x,_,hx⟩:=al.mem_right u dH;exact Rep.one _ _ _ hx u (by simp),λ_=>hS,by simp⟩
theorem Au{bx:Nat->BS}{S':ay}{w':World}{e:Nat}{t:Ty}{ys:List t.den}{k:Nat}{v:Value}(hg:γ k=v)(h:vJ S' w' e ⟨.list t,ys⟩ v):ez S' w' γ bx k (.lst e t ys false):=by
 obtain⟨t',xs,hx,bJ,hS⟩:=h;cases hx;exact⟨by rw[hg];exact bJ,λg ah=>⟨λ_=>hS g (by rw[<-hg];exact ah),by simp⟩⟩
theorem tM{S':ay}{w':World}(hR:Rel N np S0 w0 refs σ a w S γ):∀{as:List Arg}{zs:List Value}{fs:List Bk}{os:List Out}{uo:Ups},gq σ.bx γ as zs fs->lH fs os=some uo->kW S' w' as zs os->
  uo.map (·.1)=fs.map Bk.name/\∀x∈uo,∃b,σ.bx x.1 = .live b/\(x.2 = .gone\/∃b',x.2 = .live b'/\iO b b'/\∀bx',ez S' w' γ bx' x.1 b')
 |[],[],[],[],uo,_,h,_=>by simp[lH]at h;subst h;simp
 |.ref ls::as,u::us,.ref k::fs,.ref ys::os,uo,⟨h1,⟨fH,h2⟩,h3⟩,h,⟨q1,q2⟩=>by
  simp only[lH,FI]at h;split at h
  .rename_i u' dH;simp only[j4]at h;subst h;obtain⟨i1,i2⟩:=tM hR h3 dH q2;refine⟨by simp[i1,Bk.name],λx hx=>?_⟩;rcases jc.1 hx with rfl|hx
   .exact⟨_,h2,.inr ⟨_,rfl,trivial,λbx'=>JI h1.symm q1⟩⟩
   .exact i2 x hx
  .simp at h
 |.rl e x::as,u::us,.rl k e' t::fs,.rl y::os,uo,⟨h0,h1,⟨xs,h2,kM⟩,h3⟩,h,⟨q1,q1',q2⟩=>by
  simp only[lH,FI]at h;split at h
  .rename_i y' Ag;split at Ag
   .rename_i ys gN;simp only[j4]at Ag;subst Ag;split at h
    .rename_i u' dH;simp only[j4]at h;subst h;obtain⟨i1,i2⟩:=tM hR h3 dH q2;refine⟨by simp[i1,Bk.name],λx hx=>?_⟩;rcases jc.1 hx with rfl|hx
     .have:=lL gN;subst this;subst h0;refine⟨_,h2,.inr ⟨_,rfl,⟨rfl,rfl,λhm=>?_⟩,λbx'=>Au h1.symm q1⟩⟩;obtain⟨css,aA,_⟩:=ix hm (hR.box k _ h2);obtain⟨kR,bJ,_⟩:=ix (bx:=σ.bx) hm (Au h1.symm q1);exact jv5 aA bJ
     .exact i2 x hx
    .simp at h
   .simp at Ag
  .simp at h
 |.mv e x::as,u::us,.mv k e' t::fs,os,uo,⟨h0,h1,⟨xs,h2,kM⟩,h3⟩,h,q=>by
  simp only[lH]at h;split at h
  .rename_i u' dH;simp only[j4]at h;subst h;obtain⟨i1,i2⟩:=tM hR h3 dH (by simpa only[kW]using q);refine⟨by simp[i1,Bk.name],λx hx=>?_⟩;rcases jc.1 hx with rfl|hx
   .exact⟨_,h2,.inl rfl⟩
   .exact i2 x hx
  .simp at h
 |.v _::as,_::us,fs,os,uo,h,h',q=>tM (as:=as) (zs:=us) (fs:=fs) hR h h' q
 |.ip _::as,_::us,fs,os,uo,h,h',q=>tM (as:=as) (zs:=us) (fs:=fs) hR h h' q
 |.clo _ _::as,_::us,fs,os,uo,h,h',q=>tM (as:=as) (zs:=us) (fs:=fs) hR h h' q
theorem JJ(hR:Rel N np S0 w0 refs σ a w S γ){Rz:List Nat}{S':ay}{w':World}(au:dz S w S' w')(dU:∀g o,S' g o->S g o\/w.heap.size<=g\/g∈Rz)(fk:∀g o,S' g o->g<w'.heap.size)
  {as:List Arg}{zs:List Value}{fs:List Bk}{os:List Out}{uo:Ups}(Cp:∀g∈Rz,g∈mvOf as zs)(jD:∀f∈fs,f.isMv=true->parK np f.name=false)(cJ:gq σ.bx γ as zs fs)(dv:(fs.map Bk.name).Nodup)(ho:lH fs os=some uo)(hq:kW S' w' as zs os)
  (fm:∀g,g<w.heap.size->g∉dR as zs->w'.heap[g]? = w.heap[g]?)(eQ:w.heap.size<=w'.heap.size)(oT:w'.os=w.os)(lU:w'.tape=w.tape)(bY:w'.output=w.output) :
  Rel N np S0 w0 refs (σ.upd uo) a w' S' γ:=by
 obtain⟨jX,xv⟩:=tM hR cJ ho hq;have qO:(uo.map (·.1)).Nodup:=by rw[jX];exact dv
 have eE:σ.upd uo={ σ with bx:=(σ.upd uo).bx }:=by have:=u7 uo σ;cases h:σ.upd uo;rw[h]at this;simp only at this;rw[this]
 have bV:∀k,(uo.any (λy=>y.1==k)=false/\(σ.upd uo).bx k=σ.bx k)\/(∃b,σ.bx k = .live b/\(σ.upd uo).bx k = .gone)\/(∃b b',σ.bx k = .live b/\(σ.upd uo).bx k = .live b'/\iO b b'/\∀bx',ez S' w' γ bx' k b'):=by
  intro k;by_cases hk:uo.any (λy=>y.1==k)=true
  .right;obtain⟨x,hx,he⟩:=qs.1 hk;have he:x.1=k:=by simpa using he
   subst he;obtain⟨b,h1,h2|⟨b',h2,h3,h4⟩⟩:=xv x hx
   .exact .inl ⟨b,h1,by rw[vM uo σ qO (b:=x.2) hx,h2]⟩
   .exact .inr ⟨b,b',h1,by rw[vM uo σ qO (b:=x.2) hx,h2],h3,h4⟩
  .left;have bc:uo.any (λy=>y.1==k)=false:=qv.2 hk;exact⟨bc,kN uo σ bc⟩
 have fo:∀k b,(σ.upd uo).bx k = .live b->∃b',σ.bx k = .live b':=by
  intro k b hb;rcases bV k with⟨_,h⟩|⟨b1,h1,_⟩|⟨b1,b2,h1,_⟩
  .exact⟨b,h▸hb⟩
  .exact⟨b1,h1⟩
  .exact⟨b1,h1⟩
 have hle:BxLe γ σ.bx γ (σ.upd uo).bx:=by
  intro k hk;rcases bV k with⟨_,h⟩|⟨b1,h1,h2⟩|⟨b1,b2,h1,h2,h3,_⟩
  .rw[h];exact⟨hk,rfl,λb hb=>⟨b,hb,.refl b⟩⟩
  .rw[h2];exact⟨by simp,rfl,λb hb=>by simp at hb⟩
  .rw[h2];exact⟨by simp,rfl,λb hb=>by simp at hb;subst hb;exact⟨b1,h1,h3⟩⟩
 have hrefs:∀g,g∈dR as zs->∃f∈fs,blk (γ f.name)=some g/\∃b,σ.bx f.name = .live b:=by intro g hg;rw[vK cJ]at hg;obtain⟨f,hf,oU⟩:=zv.1 hg;exact⟨f,hf,oU,sA cJ f hf⟩
 rw[eE]
 refine Rel.step hR au hle ?_ ?_ ?_ ?_ fk ?_ (q7 hR.grow eQ) (oT.trans hR.os) (lU.trans hR.tape) (bY.trans hR.output) (λg hg _ h=>⟨fm g hg (λhm=>by
  obtain⟨f,hf,oU,b',ax⟩:=hrefs g hm;exact h f.name b' ax oU),λk b hb=>by
  obtain⟨b',ax⟩:=fo k b hb;exact h k b' ax⟩)
 .intro k b hb;rcases bV k with⟨hk,h⟩|⟨b1,h1,h2⟩|⟨b1,b2,h1,h2,h3,h4⟩
  case inr.inl=>rw[h2]at hb;simp at hb
  .rw[h]at hb;refine ez.keep au hle rfl (λg hg=>?_) (hR.box k b hb);have sr:=iR (hR.box k b hb) hg;suffices dQ:g∉dR as zs from⟨fm g sr dQ,λo=>⟨λhs=>(dU g o hs).resolve_right (λh=>h.elim (λh=>by omega) λh=>dQ (Rx (Cp g h))),λhs=>(au g o hs).1⟩⟩
   intro hm;obtain⟨f,hf,oU,b',ax⟩:=hrefs g hm
   have aN:k≠f.name:=by
    rintro rfl
    have:f.name∈uo.map (·.1):=by rw[jX];exact List.mem_map_of_mem hf
    obtain⟨x,hx,he⟩:=jn.1 this;have:=(qm.1 hk) x hx;simp[he]at this
   exact hR.apart k f.name b b' g aN hb ax hg oU
  .rw[h2]at hb;simp at hb;subst hb;exact h4 _
 .intro k b g hb hg;obtain⟨b',ax⟩:=fo k b hb;exact hR.own k b' g ax hg
 .intro k k' b1 b2 g aN h1 h2 hg;obtain⟨tj,lN⟩:=fo k b1 h1;obtain⟨tn,kM⟩:=fo k' b2 h2;exact hR.apart k k' tj tn g aN lN kM hg
 .intro g o hs;rcases dU g o hs with h|h|h
  .exact hR.new g o h
  .exact .inr (.inl (q7 hR.grow h))
  .obtain⟨f,hf,Gg,oU⟩:=vL cJ (Cp g h);obtain⟨b',ax⟩:=sA cJ f hf;rcases hR.own f.name b' g ax oU with h|h
   .exact .inr h
   .rw[jD f hf Gg]at h;simp at h
 .intro g hg hr;rw[fm g (qc hg hR.grow) (λhm=>?_)]
  .exact hR.below g hg hr
  .obtain⟨f,hf,oU,b',ax⟩:=hrefs g hm;rcases hR.own f.name b' g ax oU with h|h
   .exact h.no (by omega) hr
   .exact hr h.1
theorem JK(hR:Rel N np S0 w0 refs σ a w S γ){d:Nat}(hd:σ.bx d = .free){v':Value}{b:Bx}
  (hv:∀g,blk v'=some g->(Own w0 refs g/\refs.kw g=none)/\∀k b,σ.bx k = .live b->blk (γ k)≠some g)(hb:ez S w (gset γ d v') (σ.setB d (.live b)).bx d b) :
  Rel N np S0 w0 refs (σ.setB d (.live b)) a w S (gset γ d v')/\BxLe γ σ.bx (gset γ d v') (σ.setB d (.live b)).bx:=by
 have hle:BxLe γ σ.bx (gset γ d v') (σ.setB d (.live b)).bx:=by
  intro k hk;have aN:k≠d:=by rintro rfl;exact hk hd
  rw[cB σ _ aN,fe γ v' aN];exact⟨hk,rfl,λb hb=>⟨b,hb,.refl b⟩⟩
 refine⟨Rel.step (bx':=(σ.setB d (.live b)).bx) hR (.refl S w) hle ?_ ?_ ?_ hR.new hR.here hR.below hR.grow hR.os hR.tape hR.output (λg _ nh h=>⟨rfl,λk b' ax cJ=>by
  by_cases hk:k=d
  .subst hk;rw[eD]at cJ;exact nh (hv g cJ).1.2
  .rw[cB σ _ hk]at ax;rw[fe γ v' hk]at cJ;exact h k b' ax cJ⟩),hle⟩
 .intro k b' ax;by_cases hk:k=d
  .subst hk;rw[eO]at ax;simp at ax;subst ax;exact hb
  .rw[cB σ _ hk]at ax;exact ez.keep (.refl S w) hle (fe γ v' hk) (λg hg=>⟨rfl,λ_=>Iff.rfl⟩) (hR.box k b' ax)
 .intro k b' g ax hg;by_cases hk:k=d
  .subst hk;rw[eD]at hg;exact .inl (hv g hg).1.1
  .rw[cB σ _ hk]at ax;rw[fe γ v' hk]at hg;exact hR.own k b' g ax hg
 .intro k k' b1 b2 g aN h1 h2 hg ah;by_cases hk:k=d
  .subst hk;have bc:k'≠k:=λh=>aN h.symm;rw[eD]at hg;rw[cB σ _ bc]at h2;rw[fe γ v' bc]at ah;exact(hv g hg).2 k' b2 h2 ah
  .by_cases bc:k'=d
   .subst bc;rw[eD]at ah;rw[cB σ _ hk]at h1;rw[fe γ v' hk]at hg;exact(hv g ah).2 k b1 h1 hg
   .rw[cB σ _ hk]at h1;rw[cB σ _ bc]at h2;rw[fe γ v' hk]at hg;rw[fe γ v' bc]at ah;exact hR.apart k k' b1 b2 g aN h1 h2 hg ah
theorem xw{bx:Nat->BS}{x:TV}{u:Value}(h:VRep S w x u):bC S w γ bx (nZ x.t x.v) u:=by
 obtain⟨t,v⟩:=x;obtain⟨h1,h2,h3⟩:=h;refine Jg t v _ u h1 (λhm=>?_) (λha hn=>?_)
 .have:iw t=true:=by
   rcases hm with hm|⟨n,b,rfl⟩
   .cases t<;>simp_all[iw,Ty.agg]
   .rfl
  obtain⟨cs,rfl⟩:=h2 this;simp[Value.cells]
 .have:iw t=false:=by cases t<;>simp_all[iw,Ty.agg]
  exact Aj (h3 this)
theorem Gj:∀{ls:List RL}{n:Nat}{l:List Leaf}{u:Ups},soL n ls=some (l,u)->∀x∈u,n<=x.1/\x.1<n+ls.length
 |[],n,l,u,h=>by simp[soL]at h;obtain⟨rfl,rfl⟩:=h;simp
 |.d x::r,n,l,u,h=>by
  simp only[soL]at h;split at h
  .rename_i l' u' h';simp only[j4,j8]at h;obtain⟨rfl,rfl⟩:=h;intro y hy;have:=Gj h' y hy;simp only[jl];omega
  .simp at h
 |.own e ⟨.list a,xs⟩::r,n,l,u,h=>by
  simp only[soL]at h;split at h
  .rename_i l' u' h';simp only[j4,j8]at h;obtain⟨rfl,rfl⟩:=h;intro y hy;rcases jc.1 hy with rfl|hy
   .simp only[jl];omega
   .have:=Gj h' y hy;simp only[jl];omega
  .simp at h
 |.own e ⟨.int _,xs⟩::r,n,l,u,h=>by simp[soL]at h
 |.own e ⟨.bool,xs⟩::r,n,l,u,h=>by simp[soL]at h
 |.own e ⟨.str,xs⟩::r,n,l,u,h=>by simp[soL]at h
 |.own e ⟨.unit,xs⟩::r,n,l,u,h=>by simp[soL]at h
 |.own e ⟨.wrap _,xs⟩::r,n,l,u,h=>by simp[soL]at h
 |.own e ⟨.pair _ _,xs⟩::r,n,l,u,h=>by simp[soL]at h
 |.own e ⟨.arr _ _,xs⟩::r,n,l,u,h=>by simp[soL]at h
theorem RA{n:Nat}{r:RV}{c:Cel}{u:Ups}(h:FJ n r=some (c,u)):∀x∈u,n<=x.1/\x.1<n+rvW r:=by
 unfold FJ at h;split at h
 .simp only[j4,j8]at h;obtain⟨rfl,rfl⟩:=h;simp
 .simp only[j4,j8]at h;obtain⟨rfl,rfl⟩:=h;simp[rvW]
 .simp at h
 .simp only[j4,j8]at h;obtain⟨rfl,rfl⟩:=h;simp[rvW]
 .simp at h
 .split at h<;>(simp only[j4,j8]at h;obtain⟨rfl,rfl⟩:=h;simp)
 .simp only[j4,j8]at h;obtain⟨rfl,rfl⟩:=h;simp
 .split at h
  .rename_i l u' h';simp only[j4,j8]at h;obtain⟨rfl,rfl⟩:=h;exact Gj h'
  .simp at h
 .simp at h
theorem RB:∀{n:Nat}{rs:List RV}{cs:List Cel}{u:Ups},uQ n rs=some (cs,u)->∀x∈u,n<=x.1
 |n,[],cs,u,h=>by simp[uQ]at h;obtain⟨rfl,rfl⟩:=h;simp
 |n,r::rs,cs,u,h=>by
  simp only[uQ]at h;split at h
  .rename_i c u1 h1;split at h
   .rename_i JL u2 h2;simp only[j4,j8]at h;obtain⟨rfl,rfl⟩:=h;intro x hx;rcases jm.1 hx with hx|hx
    .exact(RA h1 x hx).1
    .have:=RB h2 x hx;omega
   .simp at h
  .simp at h
theorem RC{bx:Nat->BS}{ns:List Nat}:∀(k:Nat){ls:List Leaf}{cs:List Value},All2 (br S w γ bx) ls cs->(∀i∈ns,∀z,k<=i->cs[i-k]? = some z->z = .slice none 0 0)->
  All2 (br S w γ bx) ((ls.zipIdx k).map λy=>if ns.contains y.2 then .nil else y.1) cs
 |_,[],[],_,_=>trivial
 |k,l::ls,c::cs,h,hn=>by
  refine⟨?_,RC (k+1) h.2 λi hi z hk hz=>hn i hi z (by omega) ?_⟩
  .by_cases hc:ns.contains k=true
   .simp only[hc,if_true];exact hn k (by simpa using hc) c (jo _) (by simp)
   .simp only[hc];exact h.1
  .rw[show i-k=(i-(k+1))+1 by omega];simpa using hz
 |_,[],_::_,h,_=>h.elim
 |_,_::_,[],h,_=>h.elim
theorem jsy(hR:Rel N np S0 w0 refs σ a w S γ){h0:Nat}(JM:w0.heap.size<=h0)(fo:∀k b g,σ.bx k = .live b->blk (γ k)=some g->g<h0)(F3:∀g,h0<=g->refs.kw g=none)
  {ns:List Nat}{s:Snap}{v:Value}(xx:JF h0 S w ns s v)(aH:∀x∈rawU ns s,σ.bx x.1 = .free)(dv:((rawU ns s).map (·.1)).Nodup) :
  ∃γ',Rel N np S0 w0 refs (σ.upd (rawU ns s)) a w S γ'/\∃zs,v=lT zs/\All2 (bC S w γ' (σ.upd (rawU ns s)).bx) (rawC ns s) zs:=by
 obtain⟨γr,zs,hv,hc,hb,lQ,hap⟩:=xx;generalize rawU ns s=u at *;let γ':Nat->Value:=λk=>if u.any (λy=>y.1==k) then γr k else γ k
 have gO:∀k,u.any (λy=>y.1==k)=true->(σ.upd u).bx k=(emp.upd u).bx k/\γ' k=γr k/\σ.bx k = .free:=by
  intro k hk;have pR:=hk;obtain⟨x,hx,he⟩:=qs.1 hk;have he:x.1=k:=by simpa using he
  subst he;exact⟨(vM u σ dv (b:=x.2) hx).trans (vM u emp dv (b:=x.2) hx).symm,if_pos pR,aH x hx⟩
 have bY:∀k,u.any (λy=>y.1==k)=false->(σ.upd u).bx k=σ.bx k/\(emp.upd u).bx k = .free/\γ' k=γ k:=by intro k hk;exact⟨kN u σ hk,kN u emp hk,if_neg (by rw[hk];simp)⟩
 have RD:BxLe γr (emp.upd u).bx γ' (σ.upd u).bx:=by
  intro k hk;cases hu:u.any (λy=>y.1==k) with
  |false=>exact absurd (bY k hu).2.1 hk
  |true=>obtain⟨h1,h2,_⟩:=gO k hu;rw[h1];exact⟨hk,h2,λb hb=>⟨b,hb,.refl b⟩⟩
 have RE:BxLe γ σ.bx γ' (σ.upd u).bx:=by
  intro k hk;cases hu:u.any (λy=>y.1==k) with
  |true=>exact absurd (gO k hu).2.2 hk
  |false=>obtain⟨h1,_,h2⟩:=bY k hu;rw[h1];exact⟨hk,h2,λb hb=>⟨b,hb,.refl b⟩⟩
 have eE:σ.upd u={ σ with bx:=(σ.upd u).bx }:=by have:=u7 u σ;cases h:σ.upd u;rw[h]at this;simp only at this;rw[this]
 refine⟨γ',?_,zs,hv,hc.mono λx z hx=>bC.keep (.refl S w) RD hx⟩;rw[eE];refine Rel.step hR (.refl S w) RE ?_ ?_ ?_ hR.new hR.here hR.below hR.grow hR.os hR.tape hR.output (λg _ nh h=>⟨rfl,λk b hb cJ=>?_⟩)
 .intro k b ax;cases hu:u.any (λy=>y.1==k) with
  |true=>obtain⟨h1,h2,_⟩:=gO k hu;rw[h1]at ax;exact ez.keep (.refl S w) RD h2 (λg hg=>⟨rfl,λ_=>Iff.rfl⟩) (hb k b ax)
  |false=>obtain⟨h1,_,h2⟩:=bY k hu;rw[h1]at ax;exact ez.keep (.refl S w) RE h2 (λg hg=>⟨rfl,λ_=>Iff.rfl⟩) (hR.box k b ax)
 .intro k b g ax hg;cases hu:u.any (λy=>y.1==k) with
  |true=>obtain⟨h1,h2,_⟩:=gO k hu;rw[h1]at ax;rw[h2]at hg;exact .inl (.inl (q7 JM (lQ k b g ax hg)))
  |false=>obtain⟨h1,_,h2⟩:=bY k hu;rw[h1]at ax;rw[h2]at hg;exact hR.own k b g ax hg
 .intro k k' b b' g aN di dX iz ej;cases hu:u.any (λy=>y.1==k) with
  |true=>
   obtain⟨h1,h2,_⟩:=gO k hu;rw[h1]at di;rw[h2]at iz;cases dH:u.any (λy=>y.1==k') with
   |true=>obtain⟨h3,h4,_⟩:=gO k' dH;rw[h3]at dX;rw[h4]at ej;exact hap k k' b b' g aN di dX iz ej
   |false=>obtain⟨h3,_,h4⟩:=bY k' dH;rw[h3]at dX;rw[h4]at ej;have:=fo k' b' g dX ej;have:=lQ k b g di iz;omega
  |false=>
   obtain⟨h1,_,h2⟩:=bY k hu;rw[h1]at di;rw[h2]at iz;cases dH:u.any (λy=>y.1==k') with
   |true=>obtain⟨h3,h4,_⟩:=gO k' dH;rw[h3]at dX;rw[h4]at ej;have:=fo k b g di iz;have:=lQ k' b' g dX ej;omega
   |false=>obtain⟨h3,_,h4⟩:=bY k' dH;rw[h3]at dX;rw[h4]at ej;exact hR.apart k k' b b' g aN di dX iz ej
 .cases hu:u.any (λy=>y.1==k) with
  |true=>obtain⟨h1,h2,_⟩:=gO k hu;rw[h1]at hb;rw[h2]at cJ;exact nh (F3 g (lQ k b g hb cJ))
  |false=>obtain⟨h1,_,h2⟩:=bY k hu;rw[h1]at hb;rw[h2]at cJ;exact h k b hb cJ
theorem JN:∀{ls:List RL}{zs:List Value}{n:Nat}{l:List Leaf}{u:Ups}{σ:St}{γ:Nat->Value},Rel N np S0 w0 refs σ a w S γ->soL n ls=some (l,u)->All2 (Gc S w) ls zs->
  (∀x∈u,σ.bx x.1 = .free)->(oo ls zs).Nodup->(∀g∈oo ls zs,(Own w0 refs g/\refs.kw g=none)/\∀k b,σ.bx k = .live b->blk (γ k)≠some g)->
  ∃γ',Rel N np S0 w0 refs (σ.upd u) a w S γ'/\BxLe γ σ.bx γ' (σ.upd u).bx/\All2 (br S w γ' (σ.upd u).bx) l zs/\(∀z∈zs,One z)/\
   ∀k b g,(σ.upd u).bx k = .live b->blk (γ' k)=some g->(∃b',σ.bx k = .live b'/\blk (γ k)=some g)\/g∈oo ls zs
 |[],[],n,l,u,σ,γ,hR,h,_,_,_,_=>by
  simp[soL]at h;obtain⟨rfl,rfl⟩:=h;exact⟨γ,hR,.refl _ _,trivial,by simp,λk b g h1 h2=> .inl ⟨b,h1,h2⟩⟩
 |.d x::ls,z::zs,n,l,u,σ,γ,hR,h,ha,aH,dv,hblk=>by
  simp only[soL]at h;split at h
  .rename_i l' u' h';simp only[j4,j8]at h;obtain⟨rfl,rfl⟩:=h;obtain⟨γ',q1,q2,q3,q4,q5⟩:=JN hR h' ha.2 aH dv hblk;exact⟨γ',q1,q2,⟨ha.1.2,q3⟩,λy hy=>(jc.1 hy).elim (λe=>e▸ha.1.1) (q4 y),q5⟩
  .simp at h
 |.own e ⟨.list t,xs⟩::ls,z::zs,n,l,u,σ,γ,hR,h,ha,aH,dv,hblk=>by
  simp only[soL]at h;split at h
  .rename_i l' u' h';simp only[j4,j8]at h;obtain⟨rfl,rfl⟩:=h;have aA:vJ S w e ⟨.list t,xs⟩ z:=ha.1;have c9:One z:=by obtain⟨t',ys,_,bJ,_⟩:=aA;exact bJ.one
   have lV:σ.bx n = .free:=aH _ (z8 ..);simp only[oo]at dv hblk;obtain⟨aU,hle⟩:=JK hR lV (v':=z) (b:= .lst e t xs false) (λg hg=>hblk g (by simp[hg])) (Au (eD _ _ _) aA);have jY:=Gj h'
   obtain⟨γ',q1,q2,q3,q4,q5⟩:=JN aU h' ha.2 (λx hx=>by
    have:=jY x hx;rw[cB σ _ (by omega)];exact aH x (by simp[hx])) (qw.1 dv).2.1 (λg hg=>by
    obtain⟨p1,p2⟩:=hblk g (by simp[hg]);refine⟨p1,λk b' ax he=>?_⟩;by_cases hk:k=n
    .subst hk;rw[eD]at he;exact(qw.1 dv).2.2 g (by simp[he]) g hg rfl
    .rw[cB σ _ hk]at ax;rw[fe γ z hk]at he;exact p2 k b' ax he)
   refine⟨γ',q1,λk hk=>?_,⟨br.keep (.refl S w) q2 ⟨by rw[eO];simp,c9,λb _=>(eD γ n z).symm⟩,q3⟩,λy hy=>(jc.1 hy).elim (λe=>e▸c9) (q4 y),λk b g h1 h2=>?_⟩
   .obtain⟨a1,a2,a3⟩:=hle k hk;obtain⟨b1,b2,b3⟩:=q2 k a1;refine⟨b1,b2.trans a2,λb hb=>?_⟩;obtain⟨b',ax,dP⟩:=b3 b hb;obtain⟨Cn,qX,qY⟩:=a3 b' ax;exact⟨Cn,qX,qY.trans dP⟩
   .rcases q5 k b g h1 h2 with⟨b',ax,he⟩|h3
    .by_cases hk:k=n
     .subst hk;rw[eD]at he;exact .inr (by simp[oo,he])
     .rw[cB σ _ hk]at ax;rw[fe γ z hk]at he;exact .inl ⟨b',ax,he⟩
    .exact .inr (by simp[oo,h3])
  .simp at h
 |.own e ⟨.int _,xs⟩::r,_,n,l,u,_,_,_,h,_,_,_,_=>by simp[soL]at h
 |.own e ⟨.bool,xs⟩::r,_,n,l,u,_,_,_,h,_,_,_,_=>by simp[soL]at h
 |.own e ⟨.str,xs⟩::r,_,n,l,u,_,_,_,h,_,_,_,_=>by simp[soL]at h
 |.own e ⟨.unit,xs⟩::r,_,n,l,u,_,_,_,h,_,_,_,_=>by simp[soL]at h
 |.own e ⟨.wrap _,xs⟩::r,_,n,l,u,_,_,_,h,_,_,_,_=>by simp[soL]at h
 |.own e ⟨.pair _ _,xs⟩::r,_,n,l,u,_,_,_,h,_,_,_,_=>by simp[soL]at h
 |.own e ⟨.arr _ _,xs⟩::r,_,n,l,u,_,_,_,h,_,_,_,_=>by simp[soL]at h
 |[],_::_,_,_,_,_,_,_,_,ha,_,_,_=>ha.elim
 |.d _::_,[],_,_,_,_,_,_,_,ha,_,_,_=>ha.elim
 |.own _ ⟨.list _,_⟩::_,[],_,_,_,_,_,_,_,ha,_,_,_=>ha.elim
theorem RF:∀{rs:List RV}{vs:List Value}{n:Nat}{cs:List Cel}{un:Ups}{σ:St}{γ:Nat->Value},Rel N np S0 w0 refs σ a w S γ->uQ n rs=some (cs,un)->All2 (pQ S w) rs vs->
  (∀x∈un,σ.bx x.1 = .free)->(fI rs vs).Nodup->(∀g∈fI rs vs,(Own w0 refs g/\refs.kw g=none)/\∀k b,σ.bx k = .live b->blk (γ k)≠some g)->
  ∃γ',Rel N np S0 w0 refs (σ.upd un) a w S γ'/\BxLe γ σ.bx γ' (σ.upd un).bx/\All2 (bC S w γ' (σ.upd un).bx) cs vs
 |[],[],n,cs,un,σ,γ,hR,h,_,_,_,_=>by
  simp[uQ]at h;obtain⟨rfl,rfl⟩:=h;exact⟨γ,hR,.refl _ _,trivial⟩
 |r::rs,u::us,n,cs,un,σ,γ,hR,h,ha,aH,dv,hblk=>by
  simp only[uQ]at h;split at h
  .rename_i c u1 h1;split at h
   .rename_i JL u2 h2;simp only[j4,j8]at h;obtain⟨rfl,rfl⟩:=h
    have nn:∀(σ1:St)(γ1:Nat->Value),Rel N np S0 w0 refs σ1 a w S γ1->σ1=σ.upd u1->BxLe γ σ.bx γ1 σ1.bx->bC S w γ1 σ1.bx c u->(∀x∈u2,σ1.bx x.1 = .free)->
      (fI rs us).Nodup->(∀g∈fI rs us,(Own w0 refs g/\refs.kw g=none)/\∀k b,σ1.bx k = .live b->blk (γ1 k)≠some g)->
      ∃γ',Rel N np S0 w0 refs (σ.upd (u1++u2)) a w S γ'/\BxLe γ σ.bx γ' (σ.upd (u1++u2)).bx/\All2 (bC S w γ' (σ.upd (u1++u2)).bx) (c::JL) (u::us):=by
     intro σ1 γ1 aU he hle hc hf hn hb;obtain⟨γ',q1,q2,q3⟩:=RF (σ:=σ1) (γ:=γ1) aU h2 ha.2 hf hn hb;subst he;rw[jT];refine⟨γ',q1,?_,bC.keep (.refl S w) q2 hc,q3⟩;intro k hk;obtain⟨a1,a2,a3⟩:=hle k hk;obtain⟨b1,b2,b3⟩:=q2 k a1;refine⟨b1,b2.trans a2,λb hb=>?_⟩;obtain⟨b',ax,dP⟩:=b3 b hb;obtain⟨Cn,qX,qY⟩:=a3 b' ax;refine⟨Cn,qX,?_⟩;exact qY.trans dP
    have jY:=RA h1;have nq:=RB h2
    have dU:∀(v':Value)(b:Bx),kV r u=(blk v').toList->rvW r=1->u1=[(n,.live b)]->(∀bx',ez S w (gset γ n v') bx' n b)->(∀bx',(bx' n = .live b)->bC S w (gset γ n v') bx' c u)->
      ∃γ',Rel N np S0 w0 refs (σ.upd (u1++u2)) a w S γ'/\BxLe γ σ.bx γ' (σ.upd (u1++u2)).bx/\All2 (bC S w γ' (σ.upd (u1++u2)).bx) (c::JL) (u::us):=by
     intro v' b gx JO Cq cC nr;subst Cq;rw[JO]at nq;have lV:σ.bx n = .free:=aH (n,.live b) (by simp);simp only[fI,gx]at dv hblk;obtain⟨aU,hle⟩:=JK hR lV (v':=v') (b:=b) (λg hg=>hblk g (by simp[hg])) (cC _);refine nn _ _ aU rfl hle (nr _ (eO _ _ _)) (λx hx=>?_) ?_ (λg hg=>?_)
     .have:=nq x hx;rw[cB σ _ (by omega)];exact aH x (by simp[hx])
     .exact(qw.1 dv).2.1
     .obtain⟨p1,p2⟩:=hblk g (by simp[hg]);refine⟨p1,λk b' ax he=>?_⟩;by_cases hk:k=n
      .subst hk;rw[eD]at he;have:=(qw.1 dv).2.2 g (by simp[he]) g hg;exact this rfl
      .rw[cB σ _ hk]at ax;rw[fe γ v' hk]at he;exact p2 k b' ax he
    unfold FJ at h1;split at h1
    .rename_i x;simp only[j4,j8]at h1;obtain⟨rfl,rfl⟩:=h1;refine nn σ γ hR rfl (.refl _ _) (xw ha.1) (λx hx=>aH x (by simp[hx])) ?_ ?_
     .simpa[fI,mG,kV]using dv
     .simpa[fI,mG,kV]using hblk
    .rename_i e el xs;simp only[j4,j8]at h1;obtain⟨rfl,rfl⟩:=h1;have aA:vJ S w e ⟨.list el,xs⟩ u:=ha.1;have c9:One u:=by obtain⟨t',ys,_,bJ,_⟩:=aA;exact bJ.one
     exact dU u _ rfl rfl rfl (λbx'=>Au (eD _ _ _) aA) (λbx' hb=>⟨⟨by rw[hb];simp,c9,λb _=>(eD γ n u).symm⟩,λ_=>c9⟩)
    .simp at h1
    .rename_i ls;simp only[j4,j8]at h1;obtain⟨rfl,rfl⟩:=h1;have Cr:Co S w ls u:=ha.1;obtain⟨g,cur,e,hu,_⟩:=id Cr;have c9:One u:=by rw[hu];rfl
     exact dU u _ rfl rfl rfl (λbx'=>JI (eD _ _ _) Cr) (λbx' hb=>⟨⟨by rw[hb];simp,c9,λb _=>⟨g,by rw[eD,hu],hu⟩⟩,λ_=>c9⟩)
    .simp at h1
    .rename_i x ns;have hv:VRep S w x u/\∀cs,u = .agg cs->∀i∈ns,∀z,cs.toList[i]? = some z->z = .slice none 0 0:=ha.1;have oq:bC S w γ σ.bx (nZ x.t x.v) u:=xw hv.1
     have hc:bC S w γ σ.bx c u/\u1=[]:=by
      split at h1
      .rename_i ls he;simp only[j4,j8]at h1;obtain⟨rfl,rfl⟩:=h1;rw[he]at oq;obtain⟨cs,hu,al,c9⟩:=oq;exact⟨⟨cs,hu,RC 0 al λi hi z _ hz=>hv.2 cs hu i hi z (by simpa using hz),c9⟩,rfl⟩
      .simp only[j4,j8]at h1;obtain⟨rfl,rfl⟩:=h1;exact⟨oq,rfl⟩
     obtain⟨hc,rfl⟩:=hc;refine nn σ γ hR rfl (.refl _ _) hc (λx hx=>aH x (by simp[hx])) ?_ ?_
     .simpa[fI,mG,kV]using dv
     .simpa[fI,mG,kV]using hblk
    .rename_i f caps;simp only[j4,j8]at h1;obtain⟨rfl,rfl⟩:=h1;obtain⟨cv,hu,al⟩:∃cv:Array Value,u = .func (.func f) #[] cv/\All2 (jB S w) caps cv.toList:=ha.1;refine nn σ γ hR rfl (.refl _ _) ⟨⟨cv,hu,al⟩,λ_=>by rw[hu];rfl⟩ (λx hx=>aH x (by simp[hx])) ?_ ?_
     .simpa[fI,mG,kV]using dv
     .simpa[fI,mG,kV]using hblk
    .rename_i ls;split at h1
     .rename_i l JG hl;simp only[j4,j8]at h1;obtain⟨rfl,rfl⟩:=h1;obtain⟨sB,hu,al⟩:∃cs:Array Value,u = .agg cs/\All2 (Gc S w) ls cs.toList:=ha.1;subst hu;have sC:kV (.so ls) (.agg sB)=oo ls sB.toList:=rfl;simp only[fI,sC]at dv hblk;obtain⟨γ1,q1,q2,q3,q4,q5⟩:=JN hR hl al (λx hx=>aH x (by simp[hx])) (qw.1 dv).1 (λg hg=>hblk g (by simp[hg]));refine nn _ γ1 q1 rfl q2 ⟨sB,rfl,q3,q4⟩ (λx hx=>?_) (qw.1 dv).2.1 (λg hg=>?_)
      .have h2:=nq x hx;rw[kN JG σ]
       .exact aH x (by simp[hx])
       .rw[qm];intro y hy he;simp only[zr]at he;have:=jY y hy;omega
      .obtain⟨p1,p2⟩:=hblk g (by simp[hg]);refine⟨p1,λk b' ax he=>?_⟩;rcases q5 k b' g ax he with⟨b2,dX,he2⟩|h3
       .exact p2 k b2 dX he2
       .exact(qw.1 dv).2.2 g h3 g hg rfl
     .simp at h1
    .simp at h1
   .simp at h
  .simp at h
 |[],_::_,_,_,_,_,_,_,_,ha,_,_,_=>ha.elim
 |_::_,[],_,_,_,_,_,_,_,ha,_,_,_=>ha.elim
end
section
variable{N:NT}{np:Nat}{S0:ay}{w0:World}{refs:Refs}{σ:St}{a:Go.Act}{w:World}{S:ay}{γ:Nat->Value}
theorem JP{S':ay}{w':World}:∀(cs:List Cap)(cv:List Value)(os:List Out),kW S' w' (cs.map oL) cv os->os=[]
 |[],[],[],_=>rfl
 |[],[],_::_,h=>h.elim
 |[],_::_,_,h=>h.elim
 |c::cs,[],_,h=>by cases c<;>exact h.elim
 |.v _::cs,_::cv,os,h=>JP cs cv os h
 |.p _::cs,_::cv,os,h=>JP cs cv os h
theorem xy{S':ay}{w':World}{cs:List Cap}{cv:List Value}:∀{as:List Arg}{zs:List Value}{os:List Out},as.length=zs.length->
  kW S' w' (as++cs.map oL) (zs++cv) os->kW S' w' as zs os
 |[],[],os,_,h=>by
  have:=JP cs cv os h;subst this;trivial
 |.ref ls::as,u::us,.ref ys::os,hl,⟨h1,h2⟩=>⟨h1,xy (by simpa using hl) h2⟩
 |.rl e x::as,u::us,.rl y::os,hl,⟨h1,h2,h3⟩=>⟨h1,h2,xy (by simpa using hl) h3⟩
 |.v _::as,_::us,os,hl,h=>xy (as:=as) (zs:=us) (by simpa using hl) h
 |.ip _::as,_::us,os,hl,h=>xy (as:=as) (zs:=us) (by simpa using hl) h
 |.clo _ _::as,_::us,os,hl,h=>xy (as:=as) (zs:=us) (by simpa using hl) h
 |.mv _ _::as,_::us,os,hl,h=>xy (as:=as) (zs:=us) (by simpa using hl) h
 |[],_::_,_,hl,_=>by simp at hl
 |_::_,[],_,hl,_=>by simp at hl
 |.ref _::_,_::_,[],_,h=>h.elim
 |.ref _::_,_::_,.rl _::_,_,h=>h.elim
 |.rl _ _::_,_::_,[],_,h=>h.elim
 |.rl _ _::_,_::_,.ref _::_,_,h=>h.elim
theorem gq.congr{bx bx':Nat->BS}:∀{as:List Arg}{us:List Value}{fs:List Bk},(∀f∈fs,bx' f.name=bx f.name)->gq bx γ as us fs->gq bx' γ as us fs
 |[],[],[],_,_=>trivial
 |.ref ls::as,u::us,.ref k::fs,hc,⟨h1,⟨fH,h2⟩,h3⟩=>
  ⟨h1,⟨fH,(hc (.ref k) (by simp)).trans h2⟩,gq.congr (λf hf=>hc f (by simp[hf])) h3⟩
 |.rl e x::as,u::us,.rl k e' t::fs,hc,⟨h0,h1,⟨xs,h2,hx⟩,h3⟩=>
  ⟨h0,h1,⟨xs,(hc (.rl k e' t) (by simp)).trans h2,hx⟩,gq.congr (λf hf=>hc f (by simp[hf])) h3⟩
 |.mv e x::as,u::us,.mv k e' t::fs,hc,⟨h0,h1,⟨xs,h2,hx⟩,h3⟩=>
  ⟨h0,h1,⟨xs,(hc (.mv k e' t) (by simp)).trans h2,hx⟩,gq.congr (λf hf=>hc f (by simp[hf])) h3⟩
 |.v _::as,_::us,fs,hc,h=>gq.congr (as:=as) (us:=us) hc h
 |.ip _::as,_::us,fs,hc,h=>gq.congr (as:=as) (us:=us) hc h
 |.clo _ _::as,_::us,fs,hc,h=>gq.congr (as:=as) (us:=us) hc h
theorem Av{S1 S':ay}{w':World}(fJ:∀g o,S g o->S' g o):∀{as:List Arg}{zs:List Value}{os:List Out},os.all Out.flat=true->kW S' w' as zs os->kW S w' as zs os
 |[],[],[],_,_=>trivial
 |.ref ls::as,u::us,.ref ys::os,hf,⟨⟨g,cur,e,h1,h2,h3,h4⟩,h5⟩=>by
  simp only[v8,ja,Out.flat]at hf;refine⟨⟨g,cur,e,h1,h2,?_,λo hs=>h4 o (fJ g o hs)⟩,Av (S1:=S1) fJ hf.2 h5⟩;have hl:=hf.1;clear h1 h2 hf h4 h5;generalize cur.toList.take ys.length=l at h3;induction ys generalizing l with
  |nil=>cases l with|nil=>trivial|cons _ _=>exact h3.elim
  |cons y ys ih=>
   cases l with
   |nil=>exact h3.elim
   |cons z l=>simp only[v8,ja]at hl;exact⟨tL _ _ _ hl.1 h3.1,ih hl.2 l h3.2⟩
 |.rl e x::as,u::us,.rl y::os,hf,⟨⟨t,xs,h1,_⟩,_,_⟩=>by
  simp only[v8,ja,Out.flat,h1,Ty.flat]at hf;exact absurd hf.1 (by simp)
 |.v _::as,_::us,os,hf,h=>Av (S1:=S1) (as:=as) (zs:=us) fJ hf h
 |.ip _::as,_::us,os,hf,h=>Av (S1:=S1) (as:=as) (zs:=us) fJ hf h
 |.clo _ _::as,_::us,os,hf,h=>Av (S1:=S1) (as:=as) (zs:=us) fJ hf h
 |.mv _ _::as,_::us,os,hf,h=>Av (S1:=S1) (as:=as) (zs:=us) fJ hf h
theorem jv6{S S':ay}{w:World}{e:Nat}{a:Ty}{xs:List a.den}{u:Value}(hf:a.flat=true)(h:qH S' w e a xs u):qH S w e a xs u:=by
 rcases h with⟨hm,css,h1,h2⟩|⟨hm,h1⟩
 .exact .inl ⟨hm,css,h1,h2.mono λx c hx=>tL _ _ _ hf hx⟩
 .refine .inr ⟨hm,?_⟩;revert hf h1;cases a with
  |pair k b=>intro hf h1;simp only[Ty.flat,ja]at hf;obtain⟨g,es,clock,hu,hh,ha,hq⟩:=h1;exact⟨g,es,clock,hu,hh,ha.mono λx e hx=>⟨tL _ _ _ hf.1 hx.1,tL _ _ _ hf.2 hx.2.1,hx.2.2⟩,hq⟩
  |_=>intro _ h1;exact h1.elim
theorem RG{S':ay}{w':World}(fJ:∀g o,S g o->S' g o):∀{rs:List RV}{vs:List Value},rs.all RV.flat=true->All2 (pQ S' w') rs vs->All2 (pQ S w') rs vs
 |[],[],_,_=>trivial
 |r::rs,v::vs,hf,h=>by
  simp only[v8,ja]at hf;have i1:=RG fJ hf.2 h.2;cases r with
  |v x=>obtain⟨h1,h2,h3⟩:=h.1;exact⟨⟨tL _ _ _ hf.1 h1,h2,h3⟩,i1⟩
  |own e x=>obtain⟨a,xs,rfl,h1,h2⟩:=h.1;exact⟨⟨a,xs,rfl,jv6 hf.1 h1,λg hg o hs=>h2 g hg o (fJ g o hs)⟩,i1⟩
  |so ls=>simp[RV.flat]at hf
  |box ls=>simp[RV.flat]at hf
  |hd n=>simp[RV.flat]at hf
  |vn x ns=>simp[RV.flat]at hf
  |clo f cs=>simp[RV.flat]at hf
  |raw ns s=>simp[RV.flat]at hf
 |[],_::_,_,h=>h.elim
 |_::_,[],_,h=>h.elim
theorem jv7{rd:Nat->BS}(aG:RdOk σ rd){un:Ups}(h:un.all (λe=>gH (rd e.1))=true):∀x∈un,σ.bx x.1 = .free:=
 λx hx=>aG.free (jq.1 h x hx)
theorem All2.len{α β:Type}{R:α->β->Prop}{as:List α}{bs:List β}(h:All2 R as bs):as.length=bs.length:=h.length
theorem RH{γ':Nat->Value}{bx:Nat->BS}{S':ay}{w':World}{tmv:Nat->Value}{cs:List Cel}{vs:List Value}(h:All2 (bC S' w' γ' bx) cs vs) :
  ij S' w' γ' bx tmv (BF cs) (lT vs):=by
 match cs,vs,h with
 |[c],[v],h=>exact h.1
 |[],[],h=>exact⟨#[],rfl,trivial⟩
 |c::c'::cs,v::v'::vs,h=>exact⟨(v::v'::vs).toArray,rfl,by simpa using h⟩
 |[c],v::v'::vs,h=>exact h.2.elim
 |c::c'::cs,[v],h=>exact h.2.elim
 |[],v::vs,h=>exact h.elim
 |c::cs,[],h=>exact h.elim
theorem Gk{bx:Nat->BS}{k e:Nat}{t:Ty}:∀{as:List Arg}{us:List Value}{fs:List Bk},gq bx γ as us (.rl k e t::fs)->∀(bs:List Arg)(vs:List Value),Gd (as++bs) (us++vs)=some (γ k)
 |.rl e x::as,u::us,fs,⟨_,h1,_,_⟩,bs,vs=>by rw[<-h1];rfl
 |.v _::as,_::us,fs,h,bs,vs=>Gk (as:=as) (us:=us) (fs:=fs) h bs vs
 |.ip _::as,_::us,fs,h,bs,vs=>Gk (as:=as) (us:=us) (fs:=fs) h bs vs
 |.clo _ _::as,_::us,fs,h,bs,vs=>Gk (as:=as) (us:=us) (fs:=fs) h bs vs
 |[],[],fs,h,_,_=>h.elim
 |.ref _::as,_::us,fs,h,_,_=>h.elim
 |.mv _ _::as,_::us,fs,h,_,_=>h.elim
 |[],_::_,fs,h,_,_=>h.elim
 |_::_,[],fs,h,_,_=>by cases ‹Arg› <;> exact h.elim
theorem RI{α β:Type}:∀(l:List α)(l':List β),List.Sublist ((l.zip l').map (·.1)) l
 |[],_=>by simp
 |_::_,[]=>by simp
 |x::l,y::l'=>by simpa using RI l l'
theorem RJ:∀(as:List Arg)(us:List Value)(bs:List Arg)(vs:List Value),as.length=us.length->mvOf (as++bs) (us++vs)=mvOf as us++mvOf bs vs
 |[],[],bs,vs,_=>rfl
 |a::as,u::us,bs,vs,h=>by
  have ih:=RJ as us bs vs (by simpa using h);cases a<;>simp[mvOf,ih]
 |[],_::_,_,_,h=>by simp at h
 |_::_,[],_,_,h=>by simp at h
theorem RK:∀(cs:List Cap)(zs:List Value),mvOf (cs.map oL) zs=[]
 |[],_=>by cases ‹List Value› <;> rfl
 |c::cs,[]=>by cases c<;>rfl
 |c::cs,z::zs=>by cases c<;>simp[mvOf,oL,RK cs zs]
theorem Gl:∀{fs:List Bk}{os:List Out}{uo:Ups}{f:Bk},lH fs os=some uo->f∈fs->f.isMv=true->(f.name,BS.gone)∈uo
 |[],os,uo,f,_,hf,_=>by simp at hf
 |.mv k e a::fs,os,uo,f,h,hf,hm=>by
  simp only[lH]at h;split at h
  .rename_i u' dH;simp only[j4]at h;subst h;rcases jc.1 hf with rfl|hf
   .exact z8
   .exact qr _ (Gl dH hf hm)
  .simp at h
 |.ref k::fs,[],uo,f,h,hf,hm=>by simp[lH]at h
 |.rl k e a::fs,[],uo,f,h,hf,hm=>by simp[lH]at h
 |.ref k::fs,o::os,uo,f,h,hf,hm=>by
  simp only[lH]at h;split at h
  .split at h
   .rename_i u' dH;simp only[j4]at h;subst h;rcases jc.1 hf with rfl|hf
    .simp[Bk.isMv]at hm
    .exact qr _ (Gl dH hf hm)
   .simp at h
  .simp at h
 |.rl k e a::fs,o::os,uo,f,h,hf,hm=>by
  simp only[lH]at h;split at h
  .split at h
   .rename_i u' dH;simp only[j4]at h;subst h;rcases jc.1 hf with rfl|hf
    .simp[Bk.isMv]at hm
    .exact qr _ (Gl dH hf hm)
   .simp at h
  .simp at h
theorem RM{P:Program}(hR:Rel N np S0 w0 refs σ a w S γ){rw rd rdf:Nat->BS}(iC:RdR σ rw)(aG:RdOk σ rd)(aX:RdF np σ rdf){T:Nat->Option TyI}{ts:List Nat}{ms:List Bool}{cs:List Cel}{as:List Arg}{us:Ups}{fs:List Bk}{zs:List Value}
  {mv:Bool}(h:oK rw rdf T mv ts ms cs=some (as,us,fs))(ha:All2 (bC S w γ σ.bx) cs zs)(bz:bkOk us fs=true)
  {caps:List Cap}{cv:List Value}(iV:All2 (jB S w) caps cv){g:Nat}{K:Ret->Prop}
  (dJ:Gf P g (as++caps.map oL) K)(n:Nat) :
  Calls P g (zs++cv).toArray w λe w'=>∃ret,K ret/\∀s u,sW rd rdf n us fs ret=some (s,u)->∃v S' γ',e = .returned v/\Rel N np S0 w0 refs (σ.upd u) a w' S' γ'/\ij S' w' γ' (σ.upd u).bx (tm a) s v:=by
 obtain⟨fC,cJ,qM⟩:=Rr hR iC aX h ha;simp only[bkOk,ja]at bz;obtain⟨dv,xz⟩:=bz;have dv:=xu dv
 have hlen:as.length=zs.length:=by
  have:∀{as:List Arg}{us:List Value}{fs:List Bk},gq σ.bx γ as us fs->as.length=us.length:=by
   intro as;induction as with
   |nil=>intro us fs hh;cases us with|nil=>rfl|cons _ _=>exact hh.elim
   |cons a as ih=>
    intro us fs hh;cases us with
    |nil=>cases a<;>exact hh.elim
    |cons u us=>
     cases a with
     |v x=>have:=ih (us:=us) (fs:=fs) hh;simp[this]
     |ip x=>have:=ih (us:=us) (fs:=fs) hh;simp[this]
     |clo x y=>have:=ih (us:=us) (fs:=fs) hh;simp[this]
     |ref ls=>match fs,hh with|.ref k::fs,⟨_,_,h3⟩=>have:=ih h3;simp[this]
     |rl e x=>match fs,hh with|.rl k e' t::fs,⟨_,_,_,h3⟩=>have:=ih h3;simp[this]
     |mv e x=>match fs,hh with|.mv k e' t::fs,⟨_,_,_,h3⟩=>have:=ih h3;simp[this]
  exact this cJ
 obtain⟨S1,aU,cF,gQ,dI⟩:=od us σ S hR fC;have Cs:∀k,k∈fs.map Bk.name->us.any (λy=>y.1==k)=false:=by intro k hk;rw[qm];intro x hx he;have:=jq.1 xz x hx;simp only[zr]at he;subst he;simp only[kr,qb,kj]at this;exact this hk
 have qZ:∀f∈fs,(σ.upd us).bx f.name=σ.bx f.name:=λf hf=>kN us σ (Cs _ (List.mem_map_of_mem hf));have tN:=cJ.congr qZ
 have oV:∀k b,fs.any (λy=>y.name==k)=true->σ.bx k = .live b->∀g,blk (γ k)=some g->∀o,¬S1 g o:=by
  intro k b hk hb g hg o;obtain⟨f,hf,he⟩:=qs.1 hk;have he:f.name=k:=by simpa using he
  subst he;have di:(σ.upd us).bx f.name = .live b:=(qZ f hf).trans hb;have cC:=aU.box f.name b di
  have lW:(∃fH,b = .cell fH false)\/(∃e t xs,b = .lst e t xs false):=by
   have:∀{as:List Arg}{us:List Value}{fs:List Bk},gq σ.bx γ as us fs->f∈fs->(∃fH,σ.bx f.name = .live (.cell fH false))\/(∃e t xs,σ.bx f.name = .live (.lst e t xs false)):=by
    intro as;induction as with
    |nil=>intro us fs hh hm;match us,fs,hh with|[],[],_=>simp at hm
    |cons a as ih=>
     intro us fs hh hm;cases us with
     |nil=>cases a<;>exact hh.elim
     |cons u us=>
      cases a with
      |v x=>exact ih (us:=us) (fs:=fs) hh hm
      |ip x=>exact ih (us:=us) (fs:=fs) hh hm
      |clo x y=>exact ih (us:=us) (fs:=fs) hh hm
      |ref ls=>
       match fs,hh with
       |.ref k::fs,⟨_,⟨fH,h2⟩,h3⟩=>
        rcases jc.1 hm with rfl|hm
        .exact .inl ⟨fH,h2⟩
        .exact ih h3 hm
      |rl e x=>
       match fs,hh with
       |.rl k e' t::fs,⟨_,_,⟨xs,h2,_⟩,h3⟩=>
        rcases jc.1 hm with rfl|hm
        .exact .inr ⟨_,t,xs,h2⟩
        .exact ih h3 hm
      |mv e x=>
       match fs,hh with
       |.mv k e' t::fs,⟨_,_,⟨xs,h2,_⟩,h3⟩=>
        rcases jc.1 hm with rfl|hm
        .exact .inr ⟨_,t,xs,h2⟩
        .exact ih h3 hm
   rcases this cJ hf with⟨fH,h2⟩|⟨e,t,xs,h2⟩
   .rw[hb]at h2;simp at h2;exact .inl ⟨fH,h2⟩
   .rw[hb]at h2;simp at h2;exact .inr ⟨e,t,xs,h2⟩
  rcases lW with⟨fH,rfl⟩|⟨e,t,xs,rfl⟩
  .obtain⟨g',cur,e,ah,_,_,_,hS,_⟩:=cC;rw[ah]at hg;simp[blk]at hg;subst hg;exact hS rfl o
  .exact(cC.2 g hg).1 rfl o
 have cD:All2 (nk S1 w) as zs:=qM S1 cF gQ oV;have Ct:All2 (nk S1 w) (caps.map oL) cv:=Ru (iV.mono (λx z hx=>jB.keep cF hx));have hrefs:dR (as++caps.map oL) (zs++cv)=dR as zs:=by rw[Rw _ _ _ _ hlen,Rv,qj]
 have tO:(dR as zs).Nodup:=by rw[vK cJ];have:=JH hR dv (λk hk=>by obtain⟨f,hf,rfl⟩:=jn.1 hk;exact sA cJ f hf);rwa[List.filterMap_map]at this
 refine(dJ w S1 (zs++cv) (cD.append Ct) (by rw[hrefs];exact tO) aU.here).mono ?_
 rintro e w' ⟨ret,hK,v,S',vs,rfl,bO⟩
 refine⟨ret,hK,λs u aV=>?_⟩;obtain⟨eA,bd,ra,nt,dK,iD,dU,fk,fm,eQ,oT,lU,bY,xx,rb⟩:=bO;rw[hrefs]at fm;have JQ:mvOf (as++caps.map oL) (zs++cv)=mvOf as zs:=by rw[RJ _ _ _ _ hlen,RK,qj]
 rw[JQ]at ra dU;have jD:∀f∈fs,f.isMv=true->parK np f.name=false:=Ry aX h;have dK:=xy hlen dK;refine⟨v,?_⟩;unfold sW at aV;split at aV
 ·-- the list JR first,cut short
  rename_i m Aw;unfold mkHd at aV;generalize fL:ret.outs=ro at aV dK;split at aV
  .rename_i k e el Rs y pS _;split at aV
   .rename_i uo ys re gN;split at aV
    .rename_i bM;simp only[ja]at bM;simp only[j4,j8]at aV;obtain⟨rfl,rfl⟩:=aV;have bU:=JJ aU iD dU fk (λ_ h=>h) jD tN dv re dK fm eQ oT lU bY;obtain⟨jX,ot⟩:=tM aU tN re dK;have qO:(uo.map (·.1)).Nodup:=by rw[jX];exact dv
     have JS:(k,BS.live (.lst e el ys false))∈uo:=by
      simp only[lH,FI,gN]at re;split at re
      .simp only[j4]at re;rw[<-re];exact z8
      .simp at re
     have gn:=vM uo (σ.upd us) qO JS;obtain⟨bl,sC⟩:=B4 bM.2;have og:=aX.par sC;have h0:=aG.free bM.1;have h1:(σ.upd us).bx n = .free:=dI.free h0;have nu:((σ.upd us).upd uo).bx n = .free:=by rw[kN uo,h1];rw[qm];intro y hy he;simp only[zr]at he;obtain⟨b0,h2,_⟩:=ot y hy;rw[he,h1]at h2;simp at h2
     obtain⟨ad,len,cap,gL,Cu,ik⟩:=rb m Aw;have xA:γ k = .slice ad len cap:=by have:=Gk cJ (caps.map oL) cv;rw[gL]at this;simpa using this.symm
     have oh:len=ys.length:=by
      obtain⟨css,aA,_⟩:=FQ xA (bU.box k _ gn);rcases aA.2 with⟨ah,hn⟩|⟨g,gw,cur,ah,_⟩
      .rw[xA]at ah;simp only[Value.slice.injEq]at ah;omega
      .rw[xA]at ah;simp only[Value.slice.injEq]at ah;omega
     obtain⟨γ',db,fY⟩:=jv0 bU gn og nu (m:=m) (by omega) (by rw[xA,oh]);refine⟨S',γ',rfl,by rw[jT,jT];exact db,?_⟩;rw[eA,ik,jT,jT];exact fY
    .simp at aV
   .simp at aV
  .simp at aV
 ·-- the results as Cv lie
  rename_i ns sn Aw;unfold BG at aV;generalize fL:ret.outs=ro at aV dK;split at aV
  case h_2=>simp at aV
  split at aV
  case isFalse=>simp at aV
  rename_i bM;simp only[ja]at bM;simp only[j4,j8]at aV;obtain⟨rfl,rfl⟩:=aV;have bU:=JJ aU iD dU fk (λ_ h=>h) jD tN dv (uo:=[]) rfl dK fm eQ oT lU bY;have fJ:∀x∈rawU ns sn,x.1∈ns:=λx hx=>(List.of_mem_zip hx).1
  obtain⟨γ',eY,Ax,gx,cI⟩:=jsy (h0:=w.heap.size) bU hR.grow (λk b g hb hg=>iR (aU.box k b hb) hg) (λg hg=>hR.kw_new hg) (xx ns sn Aw)
   (λx hx=>dI.free (aG.free (jq.1 bM.2 x.1 (fJ x hx)))) (by
    exact List.Nodup.sublist (RI _ _) (xu bM.1))
  refine⟨S',γ',rfl,by rw[jT];exact eY,?_⟩;rw[gx,jT];exact RH cI
 split at aV
 .rename_i uo re;split at aV
  .rename_i sB un jE;split at aV
   .rename_i aH;have aH:=jv7 aG aH
    have dV:∀(kX:Ups)(Sx Sy:ay),(kX=us\/kX=[])->Rel N np S0 w0 refs (σ.upd kX) a w Sx γ->dz Sx w Sy w'->(∀g o,Sy g o->Sx g o\/w.heap.size<=g\/g∈mvOf as zs)->(∀g o,Sy g o->g<w'.heap.size)->
      kW Sy w' as zs ret.outs->All2 (pQ Sy w') ret.vals vs->
      ∃S' γ',Rel N np S0 w0 refs (σ.upd (kX++uo++un)) a w' S' γ'/\All2 (bC S' w' γ' (σ.upd (kX++uo++un)).bx) sB vs:=by
     intro kX Sx Sy tP tQ xB Cw xC vN Cx
     have tR:gq (σ.upd kX).bx γ as zs fs:=by
      rcases tP with rfl|rfl
      .exact tN
      .exact cJ
     have bU:=JJ tQ xB Cw xC (λ_ h=>h) jD tR dv re vN fm eQ oT lU bY;obtain⟨jX,ot⟩:=tM tQ tR re vN
     have rf:∀k b,((σ.upd kX).upd uo).bx k = .live b->∃b',(σ.upd kX).bx k = .live b':=by
      intro k b hb;by_cases hk:uo.any (λy=>y.1==k)=true
      .obtain⟨x,hx,he⟩:=qs.1 hk;have he:x.1=k:=by simpa using he
       subst he;obtain⟨b0,h0,_⟩:=ot x hx;exact⟨b0,h0⟩
      .rw[kN uo _ (qv.2 hk)]at hb;exact⟨b,hb⟩
     have nu:∀x∈un,((σ.upd kX).upd uo).bx x.1 = .free:=by
      intro x hx;have h0:=aH x hx
      have h1:(σ.upd kX).bx x.1 = .free:=by
       rcases tP with rfl|rfl
       .exact dI.free h0
       .exact h0
      rw[kN uo,h1];rw[qm];intro y hy he;simp only[zr]at he;obtain⟨b0,h2,_⟩:=ot y hy;rw[he,h1]at h2;simp at h2
     obtain⟨γ',eY,_,nr⟩:=RF bU jE Cx nu nt (λg hg=>by
      rcases ra g hg with lQ|hgm
      .refine⟨⟨.inl (q7 hR.grow lQ),hR.kw_new lQ⟩,λk b hb he=>?_⟩;obtain⟨b',ax⟩:=rf k b hb;have:=iR (tQ.box k b' ax) he;omega
      .obtain⟨f,hf,Gg,oU⟩:=vL tR hgm;obtain⟨bf,Ay⟩:=sA tR f hf;refine⟨⟨?_,tQ.kw_live Ay oU⟩,λk b hb he=>?_⟩
       .rcases tQ.own f.name bf g Ay oU with h|h
        .exact h
        .rw[jD f hf Gg]at h;simp at h
       .obtain⟨b',ax⟩:=rf k b hb
        have hkf:k≠f.name:=by
         rintro rfl
         have Cy:=Gl re hf Gg;rw[vM uo (σ.upd kX) (by rw[jX];exact dv) Cy]at hb;simp at hb
        exact tQ.apart k f.name b' bf g hkf ax Ay he oU)
     refine⟨Sy,γ',?_,?_⟩
     .rw[jT,jT];exact eY
     .rw[jT,jT];exact nr
    have bV:∃kX,(kX=us\/kX=[])/\kX=(if ret.vals.all RV.flat&&ret.outs.all Out.flat then [] else us)/\
      ∃S' γ',Rel N np S0 w0 refs (σ.upd (kX++uo++un)) a w' S' γ'/\All2 (bC S' w' γ' (σ.upd (kX++uo++un)).bx) sB vs:=by
     by_cases lX:(ret.vals.all RV.flat&&ret.outs.all Out.flat)=true
     .refine⟨[],.inr rfl,by rw[if_pos lX],?_⟩;obtain⟨oP,tq⟩:=Bool.and_eq_true_iff.1 lX;have fJ:∀g o,S g o->S' g o:=λg o hs=>(iD g o (cF g o hs).1).1
      refine dV [] S S (.inr rfl) hR (λg o hs=>⟨hs,(iD g o (cF g o hs).1).2⟩) (λg o hs=> .inl hs) (λg o hs=>qc (hR.here g o hs) eQ)
       (Av (S1:=S1) fJ tq dK) (RG fJ oP bd)
     .exact⟨us,.inl rfl,by rw[if_neg lX],dV us S1 S' (.inl rfl) aU iD dU fk dK bd⟩
    obtain⟨kX,_,tP,S2,γ2,bU,vO⟩:=bV
    have hs:s=BF sB/\u=(if ret.vals.all RV.flat&&ret.outs.all Out.flat then [] else us)++uo++un:=by
     clear vO dV bU jE;revert aV;match sB with
     |[c]=>simp only[j4,j8];rintro⟨rfl,rfl⟩;exact⟨rfl,rfl⟩
     |[]=>simp only[j4,j8];rintro⟨rfl,rfl⟩;exact⟨rfl,rfl⟩
     |c::c'::r=>simp only[j4,j8];rintro⟨rfl,rfl⟩;exact⟨rfl,rfl⟩
    obtain⟨rfl,rfl⟩:=hs;rw[<-tP];exact⟨S2,γ2,rfl,bU,by rw[eA];exact RH vO⟩
   .simp at aV
  .simp at aV
 .simp at aV
theorem Cz{P:Program}{f:Nat}(hf:Fun P f){o:Oper}{cl:Call}(ho:o.op = .call cl){x:Operand}(hc:cl.callee = .value x){cv:Array Value}(hx:a.eval x = .func (.func f) #[] cv) :
  (execOp a.eval o).run P w = .ok (.enter f (cl.args.map a.eval++cv)) w:=by
 obtain⟨fn,h1,h2,h3⟩:=hf;have kM:¬fn.body=none:=λhn=>by rw[hn]at h2;simp at h2
 have vP : ¬ fn.name = "runtime.NumGoroutine" := by simpa using h3
 simp[execOp,ho,resolve,hc,Deferred.ofValue,hx,invoke,callFunc,h1,kM,vP]
end
section
variable{N:NT}{np:Nat}{S0:ay}{w0:World}{refs:Refs}{σ:St}{a:Go.Act}{w:World}{S:ay}{γ:Nat->Value}
def keyV:(k:Ty)->k.den->Value
 |.int q,n=> .int q n
 |.str,s=> .string s
 |_,_=>undef
theorem Az:∀{k:Ty}{x:k.den}{u:Value},k.isKey=true->(Rep S w k x [u]↔u=keyV k x)
 |.int q,x,u,_=>by simp[Rep,keyV]
 |.str,x,u,_=>by simp[Rep,keyV]
 |.bool,_,_,h=>by simp[Ty.isKey]at h
 |.unit,_,_,h=>by simp[Ty.isKey]at h
 |.wrap _,_,_,h=>by simp[Ty.isKey]at h
 |.pair _ _,_,_,h=>by simp[Ty.isKey]at h
 |.list _,_,_,h=>by simp[Ty.isKey]at h
 |.arr _ _,_,_,h=>by simp[Ty.isKey]at h
def keyD:Ty->TypeDesc
 |.int q=> .int q
 |_=> .string
theorem jv8{P:Program}{T:Nat->Option TyI}(hT:ca P T){n:Nat}{ti:TyI}(hn:T n=some ti){k:Ty}(aW:ti.ty=some k)(hk:k.isKey=true):P.underlying n=some (keyD k):=by
 cases k with
 |int q=>exact Ja hT hn aW
 |str=>exact Jj hT hn aW
 |_=>simp[Ty.isKey]at hk
theorem RN{k:Ty}(hk:k.isKey=true)(x:k.den):MapKept.IsKey (keyD k) (keyV k x):=by
 cases k with
 |int q=>rfl
 |str=>trivial
 |_=>simp[Ty.isKey]at hk
theorem JT{k:Ty}(hk:k.isKey=true)(x y:k.den):Instr.sameNow (keyD k) (keyV k x) (keyV k y)=some (@BEq.beq _ k.keq x y):=by
 cases k with
 |int q=>simp[keyD,keyV,Instr.sameNow]
 |str=>simp[keyD,keyV,Instr.sameNow]
 |_=>simp[Ty.isKey]at hk
theorem jy8{k:Ty}(hk:k.isKey=true){x y:k.den}(h:@BEq.beq _ k.keq x y=true):x=y:=by
 cases k with
 |int q=>simpa[Ty.keq]using h
 |str=>exact(MapKept.bytes_beq x y).1 h
 |_=>simp[Ty.isKey]at hk
theorem RO{k:Ty}(hk:k.isKey=true)(x:k.den):Instr.sameBits 10000 (keyV k x) (keyV k x)=true:=by
 cases k with
 |int q=>simp[keyV,Instr.sameBits]
 |str=>simp only[keyV,Instr.sameBits];exact(MapKept.bytes_beq x x).2 rfl
 |_=>simp[Ty.isKey]at hk
def xD(S:ay)(w:World)(k v:Ty)(x:k.den×v.den)(e:MapEntry):Prop:=Rep S w k x.1 [e.key]/\VRep S w ⟨v,x.2⟩ e.val
theorem JU{k v:Ty}(hk:k.isKey=true)(q:k.den):∀{xs:List (k.den×v.den)}{es:List MapEntry},All2 (xD S w k v) xs es->∀i:Nat,
  (@dN _ _ k.keq xs q=true/\∃j e,Instr.findNow (keyD k) (keyV k q) es i=some (some (i+j,e.val))/\es[j]? = some e/\e.key=keyV k q/\VRep S w ⟨v,@cR _ _ k.keq v.dflt xs q⟩ e.val/\
   ∀(z:v.den)(e':MapEntry),e'.key=keyV k q->VRep S w ⟨v,z⟩ e'.val->All2 (xD S w k v) (@dO _ _ k.keq xs q z) (es.set j e'))\/
  (@dN _ _ k.keq xs q=false/\Instr.findNow (keyD k) (keyV k q) es i=some none/\@cR _ _ k.keq v.dflt xs q=v.dflt/\∀z,@dO _ _ k.keq xs q z=xs++[(q,z)])
 |[],[],_,i=> .inr ⟨rfl,rfl,rfl,λ_=>rfl⟩
 |x::xs,e::es,h,i=>by
  have sD:e.key=keyV k x.1:=(Az hk).1 h.1.1;have hs:=JT hk q x.1;rw[<-sD]at hs;cases hb:@BEq.beq _ k.keq q x.1 with
  |true=>
   rw[hb]at hs;have hqx:=jy8 hk hb;refine .inl ⟨by simp[dN,hb],0,e,by simp[Instr.findNow,hs],rfl,by rw[sD,hqx],?_,λz e' h1 h2=>?_⟩
   .simp only[cR,hb,j5];exact h.1.2
   .simp only[dO,hb,j5,List.set_cons_zero];exact⟨⟨(Az hk).2 h1,h2⟩,h.2⟩
  |false=>
   rw[hb]at hs;rcases JU hk q h.2 (i+1) with⟨h1,j,e',h2,h3,h4,h5,h6⟩|⟨h1,h2,h3,h4⟩
   .refine .inl ⟨by simp only[dN,List.any_cons,hb,ze];exact h1,j+1,e',by simp only[Instr.findNow,hs,h2];congr 3;omega,by simpa using h3,h4,?_,λz e2 g1 g2=>?_⟩
    .simp only[cR,hb,j6];exact h5
    .simp only[dO,hb,j6,List.set_cons_succ];exact⟨h.1,h6 z e2 g1 g2⟩
   .refine .inr ⟨by simp only[dN,List.any_cons,hb,ze];exact h1,by simp only[Instr.findNow,hs,h2],?_,λz=>?_⟩
    .simp only[cR,hb,j6];exact h3
    .simp only[dO,hb,j6,h4 z];rfl
 |[],_::_,h,_=>h.elim
 |_::_,[],h,_=>h.elim
theorem RP{k v:Ty}(hk:k.isKey=true){q:k.den}:∀{xs:List (k.den×v.den)}{es:List MapEntry},All2 (xD S w k v) xs es->@dN _ _ k.keq xs q=false->∀e∈es,e.key≠keyV k q
 |[],[],_,_=>by simp
 |x::xs,e::es,h,hn=>by
  simp only[dN,List.any_cons,vq]at hn;intro e' AA;rcases jc.1 AA with rfl|AA
  .intro hq;have sD:=(Az hk).1 h.1.1;have hs:=JT hk q x.1;rw[<-sD,hq,JT hk q q,hn.1]at hs;simp only[j4]at hs;have:=RO hk q;cases k with
   |int z=>simp at hs
   |str=>have:=(MapKept.bytes_beq q q).2 rfl;exact absurd (hs.symm.trans this) (by simp)
   |_=>simp[Ty.isKey]at hk
  .exact RP hk h.2 hn.2 e' AA
 |[],_::_,h,_=>h.elim
 |_::_,[],h,_=>h.elim
theorem JV{P:Program}{T:Nat->Option TyI}(hT:ca P T){t:Nat}{k v:Ty}(h:qE T t=some (k,v)) :
  ∃kt vt tv,P.underlying t=some (.map kt vt)/\P.underlying kt=some (keyD k)/\k.isKey=true/\T vt=some tv/\tv.ty=some v:=by
 unfold qE at h;split at h
 .rename_i ti u4;split at h
  .rename_i k0 v0 hmp;split at h
   .rename_i tk tv jZ AB;split at h
    .rename_i k1 v1 dT CA;split at h
     .rename_i lY;simp only[j4,j8]at h;obtain⟨rfl,rfl⟩:=h;exact⟨k0,v0,tv,Zg hT u4 hmp,jv8 hT jZ dT lY,lY,AB,CA⟩
     .simp at h
    .simp at h
   .simp at h
  .simp at h
 .simp at h
theorem RQ{rw:Nat->BS}(iC:RdR σ rw){t:Nat}{k v:Ty}{x y:Leaf}{b:Nat}{ys:List (k.den×v.den)}{q:k.den}(h:mapC rw t k v x y=some (b,ys,q)) :
  x = .ol b/\y = .d k q/\σ.bx b = .live (.lst (4294967296+t) (.pair k v) ys false):=by
 unfold mapC at h;split at h
 .rename_i b0 tk key;split at h
  .rename_i e a0 xs hb;split at h
   .rename_i he;split at h
    .rename_i IU q' h1 h2;simp only[j4,j8]at h;obtain⟨rfl,rfl,rfl⟩:=h;have e1:=lL h1;have e2:=lL h2;cases e1;cases e2;subst he;exact⟨rfl,rfl,iC.live hb⟩
    .simp at h
   .simp at h
  .simp at h
 .simp at h
theorem CB(t:Nat):isM (4294967296+t)=true:=by
 unfold isM;rw[Nat.ble_eq];exact Nat.le_add_right _ _
theorem RR(hR:Rel N np S0 w0 refs σ a w S γ){b t:Nat}{k v:Ty}{ys:List (k.den×v.den)}{f:Bool}(hb:σ.bx b = .live (.lst (4294967296+t) (.pair k v) ys f)) :
  ∃g es clock,γ b = .map (some g)/\w.heap[g]? = some (.map es clock)/\All2 (xD S w k v) ys es.toList/\uY es clock:=by
 have h:=(hR.box b _ hb).1;rcases h with⟨hm,_⟩|⟨_,g,es,clock,h1,h2,h3,h4⟩
 .rw[CB]at hm;simp at hm
 .exact⟨g,es,clock,h1,h2,h3,h4⟩
theorem jsE{P:Program}{T:Nat->Option TyI}(hT:ca P T){n:Nat}{ti:TyI}(hn:T n=some ti){t:Ty}(aW:ti.ty=some t):∃z,(zeroValue n).run P w = .ok z w/\VRep S w ⟨t,t.dflt⟩ z:=by
 obtain⟨i,d,hi,hd,hs,_,ha,_,h⟩:=mB hT hn;obtain⟨_,⟨z,hz,hc⟩,hdo⟩:=h t aW;have RS:=Zh hT hn hi hd;refine⟨z,by simp[zeroValue,typeInfo,hi,hz],?_,?_,?_⟩
 .rw[hc];exact pO t
 .intro hm;have:aggD d=true:=by cases d<;>cases t<;>simp_all[kI,iw,aggD,Ty.agg]
  simp only[zOk,hz]at RS;cases z<;>simp_all
 .intro hm;have:aggD d=false:=by cases d<;>cases t<;>simp_all[kI,iw,aggD,Ty.agg]
  simp only[zOk,hz]at RS;cases z<;>first|rfl|simp_all
theorem jp2{P:Program}{E:Env}(hT:ca P E.T)(hR:Rel N np S0 w0 refs σ a w S γ){rw:Nat->BS}(iC:RdR σ rw){t:Nat}{k v:Ty}(ht:qE E.T t=some (k,v)){x y:Leaf}{b:Nat}{ys:List (k.den×v.den)}{q:k.den}
  (h:mapC rw t k v x y=some (b,ys,q)){zx zy:Value}(hx:br S w γ σ.bx x zx)(hy:br S w γ σ.bx y zy) :
  ∃z,VRep S w ⟨v,@cR _ _ k.keq v.dflt ys q⟩ z/\∀ok,(Instr.lookup t zx zy ok).run P w = .ok (if ok then .tuple #[z,.bool (@dN _ _ k.keq ys q)] else z) w:=by
 obtain⟨kt,vt,tv,ga,xE,lY,AB,CC⟩:=JV hT ht;obtain⟨rfl,rfl,hb⟩:=RQ iC h;obtain⟨g,es,clock,hg,hh,ha,_⟩:=RR hR hb;have xF:zx = .map (some g):=(hx.2.2 _ hb).trans hg;have CD:zy=keyV k q:=(Az lY).1 hy;subst xF;subst CD;have CE:=MapKept.run_checkKey (w:=w) xE (RN lY q) es.isEmpty 9999;rcases JU lY q ha 0 with⟨h1,j,e,h2,h3,h4,h5,h6⟩|⟨h1,h2,h3,h4⟩
 .refine⟨e.val,h5,λok=>?_⟩;have hf:=MapKept.run_findKey (w:=w) xE h2;simp only[Instr.lookup,Sem.run_bind,run_underlying ga,Result.andThen_ok,MapKept.run_getObj_map hh,Sem.run_pure,CE,hf,h1]
 .obtain⟨z,hz,hzv⟩:=jsE (S:=S) (w:=w) hT AB CC;refine⟨z,by rw[h3];exact hzv,λok=>?_⟩;have hf:=MapKept.run_findKey (w:=w) xE h2;simp only[Instr.lookup,Sem.run_bind,run_underlying ga,Result.andThen_ok,MapKept.run_getObj_map hh,Sem.run_pure,CE,hf,h1,hz]
theorem jsF(hR:Rel N np S0 w0 refs σ a w S γ){k:Nat}{b b':Bx}(hk:σ.bx k = .live b){g:Nat}(hg:blk (γ k)=some g)(hS:∀o,¬S g o)(pL:iO b b')
  {w':World}(tS:∀i,i≠g->w'.heap[i]? = w.heap[i]?)(bH:w'.heap.size=w.heap.size)(oT:w'.os=w.os)(Gm:w'.tape=w.tape)(bY:w'.output=w.output)
  (hb:BxLe γ σ.bx γ (σ.setB k (.live b')).bx->dz S w S w'->ez S w' γ (σ.setB k (.live b')).bx k b') :
  Rel N np S0 w0 refs (σ.setB k (.live b')) a w' S γ:=by
 have hle:BxLe γ σ.bx γ (σ.setB k (.live b')).bx:=by
  intro k' bc;by_cases bR:k'=k
  .subst bR;rw[eO];exact⟨by simp,rfl,λb1 di=>by simp at di;subst di;exact⟨b,hk,pL⟩⟩
  .rw[cB σ _ bR];exact⟨bc,rfl,λb hb=>⟨b,hb,.refl b⟩⟩
 have au:dz S w S w':=by
  intro g' o h;refine⟨h,World.cell?_of_block (tS g' ?_)⟩
  rintro rfl
  exact hS o h
 have bD:∀k' b1,(σ.setB k (.live b')).bx k' = .live b1->∃b2,σ.bx k' = .live b2:=by
  intro k' b1 h1;by_cases bR:k'=k
  .subst bR;exact⟨b,hk⟩
  .rw[cB σ _ bR]at h1;exact⟨b1,h1⟩
 refine Rel.step (bx':=(σ.setB k (.live b')).bx) hR au hle ?_ ?_ ?_ hR.new ?_ ?_ ?_ (oT.trans hR.os) (Gm.trans hR.tape) (bY.trans hR.output) (λg' _ _ h=>⟨tS g' (λe=>h k b hk (e▸hg)),λk' b1 h1=>by
  obtain⟨b2,h2⟩:=bD k' b1 h1;exact h k' b2 h2⟩)
 .intro k' b1 h1;by_cases bR:k'=k
  .subst bR;rw[eO]at h1;simp at h1;subst h1;exact hb hle au
  .rw[cB σ _ bR]at h1;refine ez.keep au hle rfl (λg' ah=>⟨?_,λ_=>Iff.rfl⟩) (hR.box k' b1 h1);exact tS g' (λh=>hR.apart k' k b1 b g bR h1 hk (h▸ah) hg)
 .intro k' b1 g' h1 ah;obtain⟨b2,h2⟩:=bD k' b1 h1;exact hR.own k' b2 g' h2 ah
 .intro k1 k2 b1 b2 g' aN h1 h2 ah;obtain⟨tj,lN⟩:=bD k1 b1 h1;obtain⟨tn,kM⟩:=bD k2 b2 h2;exact hR.apart k1 k2 tj tn g' aN lN kM ah
 .intro g' o h;rw[bH];exact hR.here g' o h
 .intro g' ah hr;rw[tS g' ?_]
  .exact hR.below g' ah hr
  .rintro rfl
   rcases hR.own k b _ hk hg with h|h
   .exact h.no (by omega) hr
   .exact hr h.1
 .rw[bH];exact hR.grow
theorem jri{P:Program}{E:Env}(hT:ca P E.T)(hR:Rel N np S0 w0 refs σ a w S γ){rw:Nat->BS}(iC:RdR σ rw){t:Nat}{k v:Ty}(ht:qE E.T t=some (k,v)){x y:Leaf}{b:Nat}{ys:List (k.den×v.den)}{q:k.den}
  (h:mapC rw t k v x y=some (b,ys,q)){zx zy zz:Value}(hx:br S w γ σ.bx x zx)(hy:br S w γ σ.bx y zy){rdf:Nat->BS}(aX:RdF np σ rdf){c:Cel}{z:v.den}{u:Ups}(hd:pE rdf v c=some (z,u))(hz:bC S w γ σ.bx c zz) :
  ∃w' S',(Instr.mapUpdate t zx zy zz).run P w = .ok () w'/\Rel N np S0 w0 refs (σ.upd (u++[(b,.live (.lst (4294967296+t) (.pair k v) (@dO _ _ k.keq ys q z) false))])) a w' S' γ:=by
 obtain⟨kt,vt,tv,ga,xE,lY,AB,CC⟩:=JV hT ht;obtain⟨rfl,rfl,hb⟩:=RQ iC h;obtain⟨fC,bd,_⟩:=B7 aX hR.box hd hz;obtain⟨S1,aU,cF,gQ,dI⟩:=od u σ S hR fC;have CF:u.any (λy=>y.1==b)=false:=by rw[qm];intro y hy hyb;obtain⟨_,e,t',xs,f,h1,_,hm⟩:=fC y hy;rw[show y.1=b by simpa using hyb,hb]at h1;cases h1;rw[CB]at hm;simp at hm
 have di:(σ.upd u).bx b = .live (.lst (4294967296+t) (.pair k v) ys false):=(kN u σ CF).trans hb;obtain⟨g,es,clock,hg,hh,ha,hq⟩:=RR aU di;have xF:zx = .map (some g):=(hx.2.2 _ hb).trans hg;have CD:zy=keyV k q:=(Az lY).1 hy;subst xF;subst CD;have RT:=bd S1 w cF gQ;have xG:blk (γ b)=some g:=by rw[hg];rfl
 have hS:∀o,¬S1 g o:=((aU.box b _ di).2 g xG).1 rfl;have CE:=MapKept.run_checkKey (w:=w) xE (RN lY q) false 9999
 have main:∃es' eF,(Instr.mapUpdate t (.map (some g)) (keyV k q) zz).run P w = .ok () { w with heap:=w.heap.setIfInBounds g (.map es' eF) }/\All2 (xD S1 w k v) (@dO _ _ k.keq ys q z) es'.toList/\uY es' eF:=by
  rcases JU lY q ha 0 with⟨h1,j,e,h2,h3,h4,h5,h6⟩|⟨h1,h2,h3,h4⟩
  .have hf:=MapKept.run_findKey (w:=w) xE h2;rw[k9]at hf;refine⟨es.modify j λe=>{ e with key:=keyV k q,val:=zz },clock,?_,?_,MapKept.stamped_modify hq.1 j _ (λ_ _=>rfl) (λe1 _ CG=>?_),?_⟩
   .have JW:((es[j]?).map (·.key)).getD (keyV k q)=keyV k q:=by rw[show es[j]? = some e by simpa using h3];exact h4
    simp only[Instr.mapUpdate,Sem.run_bind,run_underlying ga,Result.andThen_ok,MapKept.run_getObj_map hh,CE,hf,Instr.keyThatStays,JW,RO lY q,if_true,Sem.run_pure,MapKept.run_setObj_map _ hh]
   .have e1:(es.modify j λe=>{ e with key:=keyV k q,val:=zz }).toList=es.toList.set j { e with key:=keyV k q,val:=zz }:=by
     refine zm λi=>?_;rw[kz,Array.getElem?_modify,List.getElem?_set];have vP:es[j]? = some e:=by simpa using h3
     by_cases dG:j=i
     .subst dG;simp only[if_true,vP,ko];rw[if_pos (by simpa using (je.1 vP).1)]
     .simp[dG]
    rw[e1];exact h6 z _ rfl RT
   .rw[show es[j]? = some e by simpa using h3]at CG;cases CG;exact h4.symm
   .rw[<-hq.2];refine zm λi=>?_;rw[qf,qf,kz,kz,Array.getElem?_modify];split
    .rename_i dG;subst dG;cases es[j]? <;> rfl
    .rfl
  .have hf:=MapKept.run_findKey (w:=w) xE h2;refine⟨es.push { key:=keyV k q,val:=zz,born:=clock },clock+1,?_,?_,MapKept.stamped_push hq.1 (RP lY ha h1),by rw[Array.toList_push,zq,hq.2,List.range_succ];rfl⟩
   .simp only[Instr.mapUpdate,Sem.run_bind,run_underlying ga,Result.andThen_ok,MapKept.run_getObj_map hh,CE,hf,MapKept.run_setObj_map _ hh]
   .rw[h4 z,Array.toList_push];exact ha.append ⟨⟨(Az lY).2 rfl,RT⟩,trivial⟩
 obtain⟨es',eF,aq,al,Ap⟩:=main;have ak:g<w.heap.size:=(je.1 hh).1;refine⟨_,S1,aq,?_⟩;rw[jT];refine jsF aU di xG hS (b':= .lst (4294967296+t) (.pair k v) (@dO _ _ k.keq ys q z) false) ⟨rfl,rfl,λhm=>by rw[CB]at hm;simp at hm⟩ (λi hi=>by simp[Ne.symm hi]) (by simp) rfl rfl rfl λhle au=>?_;refine⟨.inr ⟨CB t,g,es',eF,hg,by simp[ak],al.mono λx e hx=>⟨Rep.keep au _ _ _ hx.1,VRep.keep au hx.2⟩,Ap⟩,λg' ah=>?_⟩;rw[xG]at ah;simp at ah;subst ah;exact⟨λ_=>hS,λh=>by simp at h⟩
theorem jrj{P:Program}(hR:Rel N np S0 w0 refs σ a w S γ){n t:Nat}{k v:Ty}(hn:σ.bx n = .free) :
  ∃γ',(Instr.makeMap t none).run P w = .ok (.map (some w.heap.size)) (w.alloc (.map #[] 0))/\Rel N np S0 w0 refs (σ.setB n (.live (.lst (4294967296+t) (.pair k v) [] false))) a (w.alloc (.map #[] 0)) S γ'/\
   bC S (w.alloc (.map #[] 0)) γ' (σ.setB n (.live (.lst (4294967296+t) (.pair k v) [] false))).bx (.one (.ol n)) (.map (some w.heap.size)):=by
 have CF:=Jm hR hn (o:= .map #[] 0) (b:= .lst (4294967296+t) (.pair k v) [] false) (v:= .map (some w.heap.size)) (λg hg=>by simp[blk]at hg;exact hg.symm) (λhle=>by
  refine⟨.inr ⟨CB t,w.heap.size, #[],0,eD _ _ _,heap_alloc_new w _,trivial,MapKept.stamped_empty 0,rfl⟩,λg hg=>?_⟩;rw[eD]at hg;simp[blk]at hg;subst hg;exact⟨λ_ o ho=>by have:=hR.here _ o ho;omega,λh=>by simp at h⟩)
 refine⟨_,rfl,CF.1,⟨?_,rfl,λb hb=>(eD _ _ _).symm⟩,λ_=>rfl⟩;rw[eO];simp
end
section
variable{N:NT}{np:Nat}{S0:ay}{w0:World}{refs:Refs}{σ:St}{a:Go.Act}{w:World}{S:ay}{γ:Nat->Value}
theorem jrk{P:Program}{E:Env}(hT:ca P E.T)(hR:Rel N np S0 w0 refs σ a w S γ){rdf:Nat->BS}(aX:RdF np σ rdf){t:TypeId}{ti:TyI}(ht:E.T t=some ti)
  {m:Nat}{el:Ty}(aW:ti.ty=some (.arr m el)){ps:List (Nat×Cel)}{vs:Array (Nat×Value)}{xs:List el.den}{u:Ups}
  (fU:All2 (λp v=>p.1=v.1/\bC S w γ σ.bx p.2 v.2) ps vs.toList)(h:jQ rdf el (List.replicate m el.dflt) [] ps=some (xs,u)) :
  ∃v S',(Instr.build t vs).run P w = .ok v w/\Rel N np S0 w0 refs (σ.upd u) a w S' γ/\bC S' w γ (σ.upd u).bx (.av m el xs) v:=by
 obtain⟨ga,bB,te,cA,vQ⟩:=Af hT ht aW;have bH:=lJ hT cA vQ;obtain⟨z,hz,gM⟩:=xb hT ht w aW;obtain⟨fC,cU⟩:=Ju aX hR.box bB ps vs.toList fU h .nil;obtain⟨S1,aU,cF,gQ,dI⟩:=od u σ S hR fC;obtain⟨Rl,css,al,lX⟩:=pO (S:=S1) (w:=w) (.arr m el);obtain⟨bj,kR,fj,dL,dn⟩:=cU S1 cF gQ css z.cells al (by rw[gM];exact lX)
 have hlen:∀(ps:List (Nat×Cel)){xs cZ:List el.den}{u u':Ups},jQ rdf el xs u ps=some (cZ,u')->cZ.length=xs.length:=by
  intro ps;induction ps with
  |nil=>intro xs cZ u u' h;simp[jQ]at h;rw[h.1]
  |cons p ps ih=>
   intro xs cZ u u' h;obtain⟨i,c⟩:=p;simp only[jQ]at h;split at h
   .split at h
    .rw[ih h];simp
    .simp at h
   .simp at h
 have om:xs.length=m:=by rw[hlen ps h];simp
 refine⟨.agg bj,S1,?_,aU,bj,rfl,om,kR,dL,dn⟩;simp only[Instr.build,Sem.run_bind,hz,Result.andThen_ok,run_underlying ga,iy hT cA,<-bH,fj,Sem.run_pure]
theorem jrl{P:Program}{E:Env}(hT:ca P E.T){bx:Nat->BS}{t:TypeId}{ti:TyI}(ht:E.T t=some ti){m:Nat}{el:Ty}(aW:ti.ty=some (.arr m el)) :
  ∃v,(Instr.build t #[]).run P w = .ok v w/\bC S w γ bx (.st (nY (.arr m el))) v:=by
 obtain⟨ga,bB,te,cA,vQ⟩:=Af hT ht aW;obtain⟨z,hz,gM⟩:=xb hT ht w aW;refine⟨.agg z.cells,?_,z.cells,rfl,by rw[gM];exact vA (.arr m el),λu hu=>F8 gM u (by simpa using hu)⟩;simp only[Instr.build,Sem.run_bind,hz,Result.andThen_ok,run_underlying ga,iy hT cA];rfl
theorem RU{rd:Nat->BS}(aG:RdF np σ rd)(hB:Ah S w γ σ.bx){el:Ty}:∀{ls:List Leaf}{xs:List el.den}{u:Ups}{zs:List Value},sT rd el ls=some (xs,u)->All2 (br S w γ σ.bx) ls zs->
  FrzL np σ.bx u/\∀S' w',dz S w S' w'->Froz σ.bx γ S' w' u->All2 (λx z=>Rep S' w' el x [z]) xs zs
 |[],xs,u,zs,h,ha=>by
  simp[sT]at h;obtain⟨rfl,rfl⟩:=h;cases zs with
  |nil=>exact⟨.nil,λ_ _ _ _=>trivial⟩
  |cons _ _=>exact ha.elim
 |l::ls,xs,u,zs,h,ha=>by
  cases zs with
  |nil=>exact ha.elim
  |cons z zs=>
   simp only[sT]at h;split at h
   .rename_i x u1 Ga u2 h1 h2;simp only[j4,j8]at h;obtain⟨rfl,rfl⟩:=h;obtain⟨f1,p1⟩:=u9 aG hB h1 ha.1;obtain⟨f2,p2⟩:=RU aG hB h2 ha.2;exact⟨FrzL.app.2 ⟨f1,f2⟩,λS' w' hk hf=>⟨p1 S' w' hk (Froz.app.1 hf).1,p2 S' w' hk (Froz.app.1 hf).2⟩⟩
   .simp at h
theorem RW{el:Ty}{S':ay}{w':World}:∀{xs:List el.den}{zs:List Value},All2 (λx z=>Rep S' w' el x [z]) xs zs->∃css,All2 (λx c=>Rep S' w' el x c) xs css/\zs=css.flatten
 |[],[],_=>⟨[],trivial,rfl⟩
 |x::xs,z::zs,h=>by
  obtain⟨css,h1,h2⟩:=RW h.2;exact⟨[z]::css,⟨h.1,h1⟩,by simp[h2]⟩
 |[],_::_,h=>h.elim
 |_::_,[],h=>h.elim
theorem jsG{P:Program}{E:Env}(hT:ca P E.T)(hR:Rel N np S0 w0 refs σ a w S γ){rd rdf:Nat->BS}(aG:RdOk σ rd)(aX:RdF np σ rdf){t:TypeId}{ti:TyI}(ht:E.T t=some ti)
  {x:Leaf}{m:Nat}{el:Ty}{ls:List Leaf}{xs:List el.den}{u:Ups}{v:Value}(h:sU rd ti.ty x=some (m,el,ls))(hg:sT rdf el ls=some (xs,u))(hl:xs.length=m)(hx:br S w γ σ.bx x v) :
  ∃z S',(Instr.loadAt t v).run P w = .ok z w/\Rel N np S0 w0 refs (σ.upd u) a w S' γ/\bC S' w γ (σ.upd u).bx (.av m el xs) z:=by
 unfold sU at h;split at h
 .rename_i k;split at h
  .rename_i m' F4 aW;split at h
   .split at h
    .rename_i fH hk;simp only[j4,j8]at h;obtain⟨rfl,rfl,rfl⟩:=h;have hk:=aG.live hk;obtain⟨g,ah,hu⟩:=hx.2.2 _ hk;obtain⟨g',cur,e,ej,hh,ha,h1,_⟩:=hR.box k _ hk;rw[ah]at ej;simp at ej;subst ej;obtain⟨fC,cU⟩:=RU aX hR.box hg ha;obtain⟨S1,aU,cF,gQ,dI⟩:=od u σ S hR fC;obtain⟨css,al,dF⟩:=RW (cU S1 w cF gQ);have bd:Rep S1 w (.arr m' F4) xs (cur.toList.take fH.length):=⟨hl,css,al,dF⟩;obtain⟨Ji,_,_⟩:=Af hT ht aW;have bH:(cur.toList.take fH.length).length=ti.size:=by have:=Rep.length _ _ _ bd;rw[lJ hT ht aW]at this;exact this
     refine⟨.agg (cur.toList.take fH.length).toArray,S1,?_,aU,(cur.toList.take fH.length).toArray,rfl,by simpa using bd⟩;subst hu
     have JX:=QU (w:=w) (g:=g) (o:=0) (cs:=cur.toList.take fH.length) (λj v hv=>by
      rw[k9,cell_of_row w g j cur e (0,0) hh];rw[qi]at hv;split at hv
      .simpa using hv
      .simp at hv) P
     rw[bH]at JX;have kL:(isAgg t).run P w = .ok true w:=by simp[isAgg,run_underlying Ji]
     simp only[Instr.loadAt,Sem.run_bind,Instr.sureAddr,Sem.run_pure,Result.andThen_ok,loadVar,kL,if_true,iy hT ht,JX]
    .simp at h
   .simp at h
  .simp at h
 .simp at h
def Slot.bare:Slot->Bool
 |.cnd _ _ _=>false
 |_=>true
theorem jnu{fr:Bool}{b:Ty}{n len:Nat}{ps:List (Nat×Cel)}{f:Nat}{args:List Arg}{mk:Ret->Option (Slot×Ups)}:one1 fr b n len ps≠some (.call f args mk):=by
 unfold one1;split
 .split
  .split<;>simp
  .simp
 .simp
theorem RX(cs:List Cel):(BF cs).bare=true:=by
 unfold BF;split<;>rfl
theorem RY(hR:Rel N np S0 w0 refs σ a w S γ){act:List (Nat×Bool)}(aJ:qJ (tm a) act)(ps:List (Nat×Operand)) :
  All2 (λp v=>p.1=v.1/\bC S w γ σ.bx p.2 v.2) (ps.map λp=>(p.1,(σ.ev p.2).cel act)) (ps.map λp=>(p.1,a.eval p.2)):=by
 induction ps with
 |nil=>trivial
 |cons p ps ih=>exact⟨⟨rfl,dZ hR aJ p.2⟩,ih⟩
theorem Gn(hR:Rel N np S0 w0 refs σ a w S γ){act:List (Nat×Bool)}(aJ:qJ (tm a) act)(ps:List Operand) :
  All2 (bC S w γ σ.bx) (ps.map λp=>(σ.ev p).cel act) (ps.map a.eval):=by
 induction ps with
 |nil=>trivial
 |cons p ps ih=>exact⟨dZ hR aJ p,ih⟩
theorem AD{rd:Nat->BS}(aG:RdOk σ rd):RdF np σ (λk=>if parK np k then .gone else rd k):=by
 refine⟨λk=>?_,λk e a xs f h=>?_⟩
 rotate_left
 .dsimp only at h
  split at h
  .simp at h
  .exact aG.2 k e a xs f h
 dsimp only
 split
 .exact .inr rfl
 .rename_i hp;rcases aG.1 k with h|h
  .exact .inl ⟨h,by simpa using hp⟩
  .exact .inr h
theorem vR{P:Program}{o:Oper}{l:Leaf}{v:Value}(hR:Rel N np S0 w0 refs σ a w S γ)(hr:(execOp a.eval o).run P w = .ok (.value v) w)
  (hs:br S w γ σ.bx l v)(h1:One v):Jb P N np S0 w0 refs o σ a w S γ (.one (.one l)) []:=
 kJ hR hr ⟨hs,λ_=>h1⟩
theorem xH{c:Cel}{l:Leaf}(h:lf c=l)(hd:l ≠ .dead):c = .one l:=by
 cases c with
 |one x=>simp[lf]at h;rw[h]
 |st ls=>simp[lf]at h;exact absurd h.symm hd
 |av n a xs=>simp[lf]at h;exact absurd h.symm hd
theorem JY{P:Program}{E:Env}(hT:ca P E.T)(hR:Rel N E.np S0 w0 refs σ a w S γ){act:List (Nat×Bool)}(aJ:qJ (tm a) act){rw:Nat->BS}(iC:RdR σ rw)
  {o:Oper}{s:Slot}{u:Ups}(h:dS E σ.ev rw act o=some (.val true s u)):Jb P N E.np S0 w0 refs o σ a w S γ s u/\s.bare=true:=by
 have aG:RdOk σ (mskM rw):=iC.msk;have aX:=AD (np:=E.np) aG;have hex:∀op,o.op=op->execOp a.eval o=execOp a.eval { o with op:=op }:=λop h=>by subst h;rfl
 unfold dS at h;dsimp only at h;split at h
 ·-- move
  rename_i x bL;split at h
  .rename_i l hl;simp only[j4,Act.val.injEq]at h;obtain⟨_,rfl,rfl⟩:=h;have:=lK hR x;rw[hl]at this;exact⟨kJ hR (v:=a.eval x) (by simp[execOp,bL]) this,rfl⟩
  .simp only[j4,Act.cel,Act.val.injEq]at h;obtain⟨_,rfl,rfl⟩:=h;exact⟨kJ hR (v:=a.eval x) (by simp[execOp,bL]) (dZ hR aJ x),rfl⟩
 ·-- assign
  rename_i x bL;split at h
  .rename_i l hl;simp only[j4,Act.val.injEq]at h;obtain⟨_,rfl,rfl⟩:=h;have:=lK hR x;rw[hl]at this;exact⟨kJ hR (v:=a.eval x) (by simp[execOp,bL]) this,rfl⟩
  .simp only[j4,Act.cel,Act.val.injEq]at h;obtain⟨_,rfl,rfl⟩:=h;exact⟨kJ hR (v:=a.eval x) (by simp[execOp,bL]) (dZ hR aJ x),rfl⟩
 ·-- pick
  rename_i x y z bL;split at h
  .rename_i v hv;have hx:=dZ hR aJ x;have JZ:a.eval x = .bool v:=by have:=xH hv (by simp);rw[this]at hx;exact sj hx
   have aq:(execOp a.eval o).run P w = .ok (.value (if v then a.eval y else a.eval z)) w:=by simp[execOp,bL,JZ,asBool]
   have hy:v=true->bC S w γ σ.bx ((σ.ev y).cel (FK x true act)) (a.eval y):=by
    intro sE;refine Jc ?_ (lK hR y);cases x with
    |tmp t=>
     intro g hg;rcases jc.1 hg with rfl|hg
     .simp only;rw[<-sE];exact JZ
     .exact aJ g hg
    |_=>exact aJ
   have hz:v=false->bC S w γ σ.bx ((σ.ev z).cel (FK x false act)) (a.eval z):=by
    intro sE;refine Jc ?_ (lK hR z);cases x with
    |tmp t=>
     intro g hg;rcases jc.1 hg with rfl|hg
     .simp only;rw[<-sE];exact JZ
     .exact aJ g hg
    |_=>exact aJ
   split at h
   .rename_i t p t' q hp hq;split at h
    .rename_i q' iQ;simp only[j4,Act.leaf,Act.val.injEq]at h;obtain⟨_,rfl,rfl⟩:=h;have:=lL iQ;cases this;refine⟨kJ hR aq ?_,rfl⟩;cases v with
     |true=>have:=hy rfl;rw[hp]at this;exact this
     |false=>have:=hz rfl;rw[hq]at this;exact this
    .simp at h
   .rename_i t p hp hq;simp only[j4,Act.val.injEq]at h;obtain⟨gx,rfl,rfl⟩:=h;have gx:v=true:=gx;subst gx;refine⟨kJ hR aq ?_,rfl⟩;have:=hy rfl;rw[hp]at this;exact this
   .rename_i t q hp hq;simp only[j4,Act.val.injEq]at h;obtain⟨gx,rfl,rfl⟩:=h;have gx:v=false:=by simpa using gx
    subst gx;refine⟨kJ hR aq ?_,rfl⟩;have:=hz rfl;rw[hq]at this;exact this
   .simp at h
  .simp at h
 ·-- alloc
  rename_i t bL;split at h
  .rename_i ti ht;split at h
   .rename_i aH;have hd:=aG.free aH;split at h
    .rename_i k el aW;split at h
     .simp only[j4,Act.val.injEq]at h;obtain⟨_,rfl,rfl⟩:=h;obtain⟨z,gM,hz⟩:=Jt (w:=w) hT ht aW;obtain⟨db,hc⟩:=FX hR hd (ls:=nY (.arr k el)) (cur:=z.cells) (e:=t) (by rw[gM];exact vA (.arr k el)) (F8 gM);exact⟨⟨_,_,S,_,.inl (by simp[execOp,bL,hz]),db,hc⟩,rfl⟩
     simp only[j4,Act.val.injEq]at h;obtain⟨_,rfl,rfl⟩:=h;obtain⟨z,gM,hz⟩:=Jt (w:=w) hT ht aW;obtain⟨db,hc⟩:=Q0 hR hd (m:=k) (t:=el) (xs:=List.replicate k el.dflt) (cur:=z.cells) (e:=t) (by rw[gM];exact pO (.arr k el));exact⟨⟨_,_,S,_,.inl (by simp[execOp,bL,hz]),db,hc⟩,rfl⟩
    .rename_i ty aN aW;simp only[j4,Act.val.injEq]at h;obtain⟨_,rfl,rfl⟩:=h;obtain⟨z,gM,hz⟩:=Jt (w:=w) hT ht aW;obtain⟨db,hc⟩:=FX hR hd (ls:=nY ty) (cur:=z.cells) (e:=t) (by rw[gM];exact vA ty) (F8 gM);exact⟨⟨_,_,S,_,.inl (by simp[execOp,bL,hz]),db,hc⟩,rfl⟩
    .simp at h
   .simp at h
  .simp at h
 ·-- box
  rename_i t x bL;split at h
  .rename_i aH;have hd:=aG.free aH;have hx:=dZ hR aJ x;split at h
   .rename_i k el xs hc;simp only[j4,Act.val.injEq]at h;obtain⟨_,rfl,rfl⟩:=h;rw[hc]at hx;obtain⟨cs,hu,bd⟩:=hx;obtain⟨db,fY⟩:=Q0 hR hd (m:=k) (t:=el) (xs:=xs) (cur:=(a.eval x).cells) (e:=t) (by rw[hu];exact bd);exact⟨⟨_,_,S,_,.inl (by simp[execOp,bL,Rc]),db,fY⟩,rfl⟩
   .split at h
    .rename_i ls Ck;simp only[j4,Act.val.injEq]at h;obtain⟨_,rfl,rfl⟩:=h;obtain⟨hl,h1⟩:=Al Ck hx;obtain⟨db,fY⟩:=FX hR hd (ls:=ls) (cur:=(a.eval x).cells) (e:=t) hl h1;exact⟨⟨_,_,S,_,.inl (by simp[execOp,bL,Rc]),db,fY⟩,rfl⟩
    .simp at h
  .simp at h
 ·-- build
  rename_i t ps bL;have fU:=RY hR aJ ps.toList;have rh:All2 (λp v=>p.1=v.1/\bC S w γ σ.bx p.2 v.2) (ps.toList.map λp=>(p.1,(σ.ev p.2).cel act)) (ps.map λp=>(p.1,a.eval p.2)).toList:=by simpa using fU
  split at h
  .rename_i ti ht;split at h
   .rename_i k el aW;split at h
    .rename_i tT;simp only[j4,Act.cel,Act.val.injEq]at h;obtain⟨_,rfl,rfl⟩:=h;obtain⟨v,aq,hc⟩:=jrl (w:=w) (S:=S) (γ:=γ) (bx:=σ.bx) hT ht aW;have pT:ps = #[]:=by simp only[ja,List.isEmpty_iff]at tT;exact zh.1 tT.2
     subst pT;exact⟨kJ hR (v:=v) (by simp[execOp,bL,aq]) hc,rfl⟩
    split at h
    .rename_i xs u' hb;simp only[j4,Act.val.injEq]at h;obtain⟨_,rfl,rfl⟩:=h;obtain⟨v,S',aq,db,hc⟩:=jrk hT hR aX ht aW rh hb;exact⟨⟨v,w,S',γ,.inl (by simp[execOp,bL,aq]),db,hc⟩,rfl⟩
    .simp at h
   .rename_i ty aN aW;split at h
    .rename_i mY;split at h
     .rename_i ls hb;simp only[j4,Act.cel,Act.val.injEq]at h;obtain⟨_,rfl,rfl⟩:=h;obtain⟨v,aq,hc⟩:=ZY hT ht aW mY rh hb;exact⟨kJ hR (v:=v) (by simp[execOp,bL,aq]) hc,rfl⟩
     .simp at h
    .simp at h
   .simp at h
  .simp at h
 ·-- buildSlice
  rename_i t len ps bL;have fU:=RY hR aJ ps.toList;have rh:All2 (λp v=>p.1=v.1/\bC S w γ σ.bx p.2 v.2) (ps.toList.map λp=>(p.1,(σ.ev p.2).cel act)) (ps.map λp=>(p.1,a.eval p.2)).toList:=by simpa using fU
  split at h
  .rename_i ti ht;split at h
   .rename_i el aW;split at h
    .obtain⟨_,rfl,v',w',γ',aq,db,hc⟩:=jv1 hT hR ht aW aG.free rh h;exact⟨⟨v',w',S,γ',.inl (by simp[execOp,bL,aq]),db,hc⟩,rfl⟩
    split at h
    .simp at h
    .rename_i hlen;split at h
     .rename_i xs u' hb;split at h
      .rename_i aH;simp only[j4,Act.val.injEq]at h;obtain⟨_,rfl,rfl⟩:=h;obtain⟨v',w',S',γ',aq,db,hc⟩:=jk3 hT hR aX ht aW (by omega) rh hb (aG.free aH);exact⟨⟨v',w',S',γ',.inl (by simp[execOp,bL,aq]),db,hc⟩,rfl⟩
      .simp at h
     .simp at h
   .simp at h
  .simp at h
 ·-- load
  rename_i t x bL;split at h
  .rename_i ti ht;split at h
   .rename_i m el ls ri;split at h
    .rename_i xs u' hg;split at h
     .rename_i hlen;simp only[j4,Act.val.injEq]at h;obtain⟨_,rfl,rfl⟩:=h;obtain⟨z,S',hz,db,gX⟩:=jsG hT hR aG aX ht ri hg hlen (gV (dZ hR aJ x));exact⟨⟨z,w,S',γ,.inl (by simp[execOp,bL,hz]),db,gX⟩,rfl⟩
     .simp at h
    .simp at h
   unfold oCel at h;split at h
   .rename_i c hc;simp only[j4,Act.cel,Act.val.injEq]at h;obtain⟨_,rfl,rfl⟩:=h;obtain⟨z,hz,gX⟩:=QW hT hR aG ht hc (gV (dZ hR aJ x));exact⟨kJ hR (v:=z) (by simp[execOp,bL,hz]) gX,rfl⟩
   .simp at h
  .simp at h
 ·-- store
  rename_i t x y bL;split at h
  .rename_i ti ht;split at h
   .rename_i u' hu;simp only[j4,Act.val.injEq]at h;obtain⟨_,rfl,rfl⟩:=h;obtain⟨w',S',aq,db⟩:=ZP hT hR aG aX ht hu (gV (dZ hR aJ x)) (dZ hR aJ y);exact⟨⟨undef,w',S',γ,.inr ⟨by simp[execOp,bL,aq],rfl⟩,db,⟨trivial,λh=>absurd rfl h⟩⟩,rfl⟩
   .simp at h
  .simp at h
 ·-- nilCheck
  rename_i x bL;have hx:=dZ hR aJ x;split at h
  .rename_i k p hl;split at h
   .rename_i fo;simp only[j4,Act.leaf,Act.val.injEq]at h;obtain⟨_,rfl,rfl⟩:=h;rw[xH hl (by simp)]at hx;obtain⟨b,hb⟩:=B4 fo;obtain⟨g,_,hu⟩:=hx.1.2.2 b (aG.live hb);exact⟨kJ hR (v:=a.eval x) (by simp[execOp,bL,hu]) hx,rfl⟩
   .simp at h
  .rename_i k i p hl;split at h
   .rename_i fo;simp only[j4,Act.leaf,Act.val.injEq]at h;obtain⟨_,rfl,rfl⟩:=h;rw[xH hl (by simp)]at hx;obtain⟨b,hb⟩:=B4 fo;have h3:=hx.1.2.2 b (aG.live hb)
    have hu:∃g o,a.eval x = .pointer (some ⟨g,o,none⟩):=by
     cases b with
     |cell ls f=>exact h3.elim
     |lst e t xs f=>obtain⟨_,_,g,cap,_,hu⟩:=h3;exact⟨_,_,hu⟩
     |arr n t xs=>obtain⟨_,g,_,hu⟩:=h3;exact⟨_,_,hu⟩
    obtain⟨g,ofs,hu⟩:=hu;exact⟨kJ hR (v:=a.eval x) (by simp[execOp,bL,hu]) hx,rfl⟩
   .simp at h
  .rename_i ls hl;simp only[j4,Act.leaf,Act.val.injEq]at h;obtain⟨_,rfl,rfl⟩:=h;rw[xH hl (by simp)]at hx;obtain⟨g,ofs,cs,hu,_⟩:=hx.1;exact⟨kJ hR (v:=a.eval x) (by simp[execOp,bL,hu]) hx,rfl⟩
  .simp at h
 ·-- binOp
  rename_i op t x y rest bL;unfold oChk at h;split at h
  .rename_i b c hc;simp only[j4,Act.val.injEq]at h;obtain⟨rfl,rfl,rfl⟩:=h;obtain⟨z,hz,hl,h1⟩:=Zp (x:=x) (y:=y) hT hc (dZ hR aJ x) (dZ hR aJ y);refine⟨vR hR ?_ hl h1,rfl⟩;simp only[execOp,bL];rw[Sem.run_bind,hz];rfl
  .simp at h
 ·-- unOp
  rename_i op t x bL;unfold mW at h;split at h
  .rename_i c hc;simp only[j4,Act.leaf,Act.val.injEq]at h;obtain⟨_,rfl,rfl⟩:=h;obtain⟨z,hz,hl,h1⟩:=Zq hc (dZ hR aJ x);refine⟨vR hR ?_ hl h1,rfl⟩;simp only[execOp,bL];rw[Sem.run_bind,hz];rfl
  .simp at h
 ·-- convert
  rename_i src dst x bL;split at h
  .rename_i ts ti nv ht;split at h
   .rename_i k v k0 k' hl J0 aW;simp only[j4,Act.leaf,Act.val.injEq]at h;obtain⟨_,rfl,rfl⟩:=h;have hx:=dZ hR aJ x;rw[xH hl (by simp)]at hx;have hu:=tg hx;have ga:=Ja hT ht aW;refine⟨vR hR (v:= .int k' (k'.wrap v)) ?_ rfl rfl,rfl⟩;have CH:=Ja hT nv J0;simp only[execOp,bL];rw[Sem.run_bind];have:(convert src dst (a.eval x)).run P w = .ok (.int k' (k'.wrap v)) w:=by simp only[hu,convert,Sem.run_bind,run_underlying CH,run_underlying ga,Result.andThen_ok];simp[Conv.intToInt]
    rw[this];rfl
   .simp at h
  .simp at h
 ·-- makeFunc
  rename_i f first caps bL
  split at h
  .rename_i iE;split at h
   .split at h
    .rename_i ks hl;simp only[j4,Act.val.injEq]at h;obtain⟨_,rfl,rfl⟩:=h;have cD:=Gn hR aJ caps.toList;have Gp:first = #[]:=by simpa using iE
     refine⟨⟨.func (.func f) #[] (caps.map a.eval),w,S,γ,.inl ?_,hR,⟨⟨_,rfl,by
      have:=Rp hl cD;rw[<-Array.toList_map]at this;exact this⟩,λ_=>rfl⟩⟩,rfl⟩
     simp[execOp,bL,Gp,Instr.makeFunc]
    .simp at h
   split at h
   .rename_i l u' hl;simp only[j4,Act.val.injEq]at h;obtain⟨_,rfl,rfl⟩:=h;have cD:=Gn hR aJ caps.toList;obtain⟨S',db,_,df,_⟩:=Ro aX hl hR cD;have Gp:first = #[]:=by simpa using iE
    refine⟨⟨.func (.func f) #[] (caps.map a.eval),w,S',γ,.inl ?_,db,⟨⟨_,rfl,by simpa using df⟩,λ_=>rfl⟩⟩,rfl⟩;simp[execOp,bL,Gp,Instr.makeFunc]
   .simp at h
  .simp at h
 ·-- fieldAddr
  rename_i t x i bL;split at h
  .rename_i ti ht;unfold mW at h;split at h
   .rename_i c hc;simp only[j4,Act.leaf,Act.val.injEq]at h;obtain⟨_,rfl,rfl⟩:=h;obtain⟨z,hz,hl,h1⟩:=Zz hT aG ht hc (gV (dZ hR aJ x));exact⟨vR hR (by simp[execOp,bL,hz]) hl h1,rfl⟩
   .simp at h
  .simp at h
 ·-- field
  rename_i t x i bL;split at h
  .rename_i ti ht;split at h
   .rename_i ls f hc hf;split at h
    .rename_i tf qI;unfold oCel at h;split at h
     .rename_i c aV;simp only[j4,Act.cel,Act.val.injEq]at h;obtain⟨_,rfl,rfl⟩:=h;have hx:=dZ hR aJ x;rw[hc]at hx;obtain⟨cs,hu,al,h1⟩:=hx;obtain⟨fs,ga,fl,fC,iW,nw,tf',htf',bB⟩:=QK hT ht hf;rw[<-nw]at qI;have dL:=(al.drop fl.offset).take tf.size;have lN:∀u∈(cs.toList.drop fl.offset).take tf.size,One u:=λu dH=>h1 u (zf (kp dH));rw[<-iW]at aV
      have qL:∃z,(part fl.type cs fl.offset).run P w = .ok z w/\bC S w γ σ.bx c z:=by
       unfold sS at aV;split at aV
       .rename_i kL;split at aV
        .rename_i hlen;simp only[j4]at aV;subst aV;refine⟨.agg (cs.extract fl.offset (fl.offset+tf.size)),?_,_,rfl,?_,?_⟩
         .simp only[part,Sem.run_bind,Ae hT qI,kL,Result.andThen_ok,if_true,iy hT qI,Sem.run_pure]
         .have:(cs.extract fl.offset (fl.offset+tf.size)).toList=(cs.toList.drop fl.offset).take tf.size:=by simp[List.take_drop]
          rw[this];exact dL
         .have:(cs.extract fl.offset (fl.offset+tf.size)).toList=(cs.toList.drop fl.offset).take tf.size:=by simp[List.take_drop]
          rw[this];exact lN
        .simp at aV
       .rename_i kL;split at aV
        .rename_i l' ny;simp only[j4]at aV;subst aV;rw[ny]at dL;cases hq:(cs.toList.drop fl.offset).take tf.size with
         |nil=>rw[hq]at dL;exact dL.elim
         |cons z zs=>
          rw[hq]at dL lN
          have hz:cs[fl.offset]? = some z:=by
           have:((cs.toList.drop fl.offset).take tf.size)[0]? = some z:=by rw[hq];rfl
           have:=FU this;simpa using this
          refine⟨z,?_,dL.1,λ_=>lN z (by simp)⟩;simp only[part,Sem.run_bind,Ae hT qI,Result.andThen_ok,if_neg kL,hz,Sem.run_pure]
        .simp at aV
      obtain⟨z,hz,gX⟩:=qL;refine⟨kJ hR (v:=z) ?_ gX,rfl⟩;simp only[execOp,bL,hu];rw[Sem.run_bind];have:(Instr.field t (.agg cs) i).run P w = .ok z w:=by simp only[Instr.field,Sem.run_bind,run_underlying ga,Result.andThen_ok,fC,asAgg,Sem.run_pure,hz]
      rw[this];rfl
     .simp at h
    .simp at h
   .simp at h
  .simp at h
 ·-- indexAddr
  rename_i t x i bL;split at h
  .rename_i ti ht;unfold oChk at h;split at h
   .rename_i b c hc;simp only[j4,Act.val.injEq]at h;obtain⟨rfl,rfl,rfl⟩:=h;obtain⟨z,hz,hl,h1⟩:=ZA hT hR aG ht hc (gV (dZ hR aJ x)) (gV (dZ hR aJ i));exact⟨vR hR (by simp[execOp,bL,hz]) hl h1,rfl⟩
   .simp at h
  .simp at h
 ·-- index
  rename_i t x i bL;split at h
  .rename_i ti ht;split at h
   .rename_i b c hc;simp only[j4,Act.val.injEq]at h;obtain⟨rfl,rfl,rfl⟩:=h;obtain⟨z,hz,gX⟩:=ZC hT ht hc (dZ hR aJ x) (gV (dZ hR aJ i));exact⟨kJ hR (v:=z) (by simp[execOp,bL,hz]) gX,rfl⟩
   .simp at h
  .simp at h
 ·-- makeMap
  rename_i t bL;split at h
  .rename_i k v ht;split at h
   .rename_i gL;simp only[j4,Act.val.injEq]at h;obtain⟨_,rfl,rfl⟩:=h;obtain⟨γ',aq,db,fY⟩:=jrj (P:=P) (t:=t) (k:=k) (v:=v) hR (aG.free gL);exact⟨⟨_,_,S,γ',.inl (by simp[execOp,bL,aq]),db,fY⟩,rfl⟩
   .simp at h
  .simp at h
 ·-- lookup
  rename_i t x i ok bL;split at h
  .rename_i k v ht;split at h
   .rename_i b ys q hm;obtain⟨z,hz,aq⟩:=jp2 hT hR iC ht hm (gV (dZ hR aJ x)) (gV (dZ hR aJ i));split at h
    .simp only[j4,Act.val.injEq]at h;obtain⟨_,rfl,rfl⟩:=h;have hr:=aq true;simp only[if_true]at hr;refine⟨kJ hR (v:= .tuple #[z,.bool (@dN _ _ k.keq ys q)]) (by simp[execOp,bL,hr]) ?_,rfl⟩;exact⟨_,rfl,xw hz,⟨rfl,λ_=>rfl⟩,trivial⟩
    .simp only[j4,Act.cel,Act.val.injEq]at h;obtain⟨_,rfl,rfl⟩:=h;have hr:=aq false;simp only[ku,z6]at hr;exact⟨kJ hR (v:=z) (by simp[execOp,bL,hr]) (xw hz),rfl⟩
   .simp at h
  .simp at h
 ·-- mapUpdate
  rename_i t x i y bL;split at h
  .rename_i k v ht;split at h
   .rename_i b ys q z u' hm hd;simp only[j4,Act.val.injEq]at h;obtain⟨_,rfl,rfl⟩:=h;obtain⟨w',S',aq,db⟩:=jri hT hR iC ht hm (gV (dZ hR aJ x)) (gV (dZ hR aJ i)) aX hd (dZ hR aJ y);exact⟨⟨undef,w',S',γ,.inr ⟨by simp[execOp,bL,aq],rfl⟩,db,⟨trivial,λh=>absurd rfl h⟩⟩,rfl⟩
   .simp at h
  .simp at h
 ·-- extract
  rename_i x i bL;split at h
  .rename_i l hl;split at h
   .rename_i c hc;simp only[j4,Act.cel,Act.val.injEq]at h;obtain⟨_,rfl,rfl⟩:=h;have hx:=lK hR x;rw[hl]at hx;obtain⟨vs,hu,al⟩:=hx;obtain⟨z,hz,gX⟩:=al.get i c hc;refine⟨kJ hR (v:=z) ?_ gX,rfl⟩;have CI:vs[i]? = some z:=by simpa using hz
    simp[execOp,bL,hu,Instr.extract,CI]
   .simp at h
  .simp at h
 ·-- call
  rename_i cl bL;have cD:=Gn hR aJ cl.args.toList;split at h
  ·-- len
   rename_i dM;split at h
   .rename_i x t fZ nv;split at h
    .rename_i ti ht;unfold mW at h;split at h
     .rename_i c hc;simp only[j4,Act.leaf,Act.val.injEq]at h;obtain⟨_,rfl,rfl⟩:=h;obtain⟨z,hz,hl,h1⟩:=ZE (ty:=o.type) hT hR aG ht hc (gV (dZ hR aJ x));have e1:cl.args = #[x]:=by apply kq;simpa using fZ
      have e2:cl.argTypes = #[t]:=by apply kq;simpa using nv
      refine⟨vR hR (v:=z) ?_ hl h1,rfl⟩;simp[execOp,bL,resolve,dM,invoke,builtin,e1,e2,hz]
     .simp at h
    .simp at h
   .simp at h
  ·-- min
   rename_i dM;unfold mW at h;split at h
   .rename_i c hc;simp only[j4,Act.leaf,Act.val.injEq]at h;obtain⟨_,rfl,rfl⟩:=h;obtain⟨z,hz,hl,h1⟩:=Zr (P:=P) (ts:=cl.argTypes) (ty:=o.type) hc cD;refine⟨vR hR (v:=z) ?_ hl h1,rfl⟩;have e1:cl.args.map a.eval=(cl.args.toList.map a.eval).toArray:=by apply kq;simp
    simp[execOp,bL,resolve,dM,invoke,builtin,e1,hz]
   .simp at h
  ·-- max
   rename_i dM;unfold mW at h;split at h
   .rename_i c hc;simp only[j4,Act.leaf,Act.val.injEq]at h;obtain⟨_,rfl,rfl⟩:=h;obtain⟨z,hz,hl,h1⟩:=Zs (P:=P) (ts:=cl.argTypes) (ty:=o.type) hc cD;refine⟨vR hR (v:=z) ?_ hl h1,rfl⟩;have e1:cl.args.map a.eval=(cl.args.toList.map a.eval).toArray:=by apply kq;simp
    simp[execOp,bL,resolve,dM,invoke,builtin,e1,hz]
   .simp at h
  ·-- append
   rename_i dM;split at h
   .rename_i t t' s' x nv fZ;split at h
    .rename_i xI;subst xI;split at h
     .rename_i ti ht;split at h
      .rename_i el aW;split at h
       .rename_i b' v' u' hh;simp only[j4,Act.val.injEq]at h;obtain⟨rfl,rfl,rfl⟩:=h;obtain⟨z,w',aq,db,hl,h1⟩:=juY (ty:=o.type) hT hR aG ht aW hh (gV (dZ hR aJ s')) (gV (dZ hR aJ x));have e1:cl.args = #[s',x]:=by apply kq;simpa using fZ
        have e2:cl.argTypes = #[t,t]:=by apply kq;simpa using nv
        refine⟨⟨z,w',S,γ,.inl ?_,db,hl,λ_=>h1⟩,rfl⟩;simp[execOp,bL,resolve,dM,invoke,builtin,e1,e2,aq]
       split at h
       .rename_i v' u' hh;simp only[j4,Act.val.injEq]at h;obtain⟨_,rfl,rfl⟩:=h;obtain⟨z,w',γ',aq,db,hl,h1⟩:=juZ (ty:=o.type) hT hR aG aX ht aW hh (gV (dZ hR aJ s')) (gV (dZ hR aJ x));have e1:cl.args = #[s',x]:=by apply kq;simpa using fZ
        have e2:cl.argTypes = #[t,t]:=by apply kq;simpa using nv
        refine⟨⟨z,w',S,γ',.inl ?_,db,hl,λ_=>h1⟩,rfl⟩;simp[execOp,bL,resolve,dM,invoke,builtin,e1,e2,aq]
       split at h
       .rename_i xs frz u' ys hs hx;split at h
        .rename_i aH;simp only[j4,Act.val.injEq,jh]at h;obtain⟨eX,rfl,rfl⟩:=h;obtain⟨v',w',S',γ',aq,db,fY⟩:=ZU (ty:=o.type) hT hR aG aX ht aW hs hx (aG.free aH) eX (gV (dZ hR aJ s')) (gV (dZ hR aJ x));have e1:cl.args = #[s',x]:=by apply kq;simpa using fZ
         have e2:cl.argTypes = #[t,t]:=by apply kq;simpa using nv
         refine⟨⟨v',w',S',γ',.inl ?_,db,fY⟩,rfl⟩;simp[execOp,bL,resolve,dM,invoke,builtin,e1,e2,aq]
        .simp at h
       .simp at h
      .simp at h
     .simp at h
    .simp at h
   .simp at h
  ·-- value
   split at h
   .split at h
    .split at h
     .simp at h
     .simp at h
    .simp at h
   .split at h
    .split at h
     .simp at h
     .simp at h
    .simp at h
   .simp at h
  ·-- copy
   rename_i dM;split at h
   .rename_i t t' x y nv fZ;split at h
    .rename_i xI;subst xI;split at h
     .rename_i ti ht;split at h
      .rename_i c u' hc;simp only[j4,Act.val.injEq]at h;obtain⟨_,rfl,rfl⟩:=h;obtain⟨v',w',aq,db,fY⟩:=Z8 (ty:=o.type) hT hR aG ht hc (gV (dZ hR aJ x)) (gV (dZ hR aJ y));have e1:cl.args = #[x,y]:=by apply kq;simpa using fZ
       have e2:cl.argTypes = #[t,t]:=by apply kq;simpa using nv
       refine⟨⟨v',w',S,γ,.inl ?_,db,fY⟩,rfl⟩;simp[execOp,bL,resolve,dM,invoke,builtin,e1,e2,aq]
      .simp at h
     .simp at h
    .simp at h
   .simp at h
  ·-- clear
   rename_i dM;split at h
   .rename_i t x nv fZ;split at h
    .rename_i ti ht;split at h
     .rename_i u' hc;simp only[j4,Act.val.injEq]at h;obtain⟨_,rfl,rfl⟩:=h;obtain⟨v',w',aq,db⟩:=Z9 (ty:=o.type) hT hR aG ht hc (gV (dZ hR aJ x));have e1:cl.args = #[x]:=by apply kq;simpa using fZ
      have e2:cl.argTypes = #[t]:=by apply kq;simpa using nv
      refine⟨⟨v',w',S,γ,.inl ?_,db,⟨trivial,λh=>absurd rfl h⟩⟩,rfl⟩;simp[execOp,bL,resolve,dM,invoke,builtin,e1,e2,aq]
     .simp at h
    .simp at h
   .simp at h
  .simp at h
 ·-- slice
  rename_i t x lo hi bL;split at h
  .rename_i ti ht;split at h
   .rename_i b c u' hc;simp only[j4,Act.val.injEq]at h;obtain⟨rfl,rfl,rfl⟩:=h
    have ho:∀y:Option Operand,ORep (br S w γ σ.bx) (y.map λx=>lf ((σ.ev x).cel act)) (y.map a.eval):=by
     intro y;cases y with
     |none=>trivial
     |some y=>exact gV (dZ hR aJ y)
    obtain⟨v',S',γ',aq,db,fY⟩:=Z2 hT hR aG ht (λk hk=>aG.free hk) hc (gV (dZ hR aJ x)) (ho lo) (ho hi);refine⟨⟨v',w,S',γ',.inl ?_,db,fY⟩,rfl⟩;simp[execOp,bL,aq]
   .simp at h
  .simp at h
 ·-- slice with a capacity
  rename_i t x lo hi mx bL;split at h
  .rename_i ti ht;split at h
   .rename_i b hc;simp only[j4,Act.val.injEq]at h;obtain⟨rfl,rfl,rfl⟩:=h
    have ho:∀y:Option Operand,ORep (br S w γ σ.bx) (y.map λx=>lf ((σ.ev x).cel act)) (y.map a.eval):=by
     intro y;cases y with
     |none=>trivial
     |some y=>exact gV (dZ hR aJ y)
    obtain⟨v',aq⟩:=Z7 hT hR aG ht hc (gV (dZ hR aJ x)) (ho lo) (ho hi) (gV (dZ hR aJ mx));refine⟨⟨v',w,S,γ,.inl ?_,hR,⟨trivial,λh=>absurd rfl h⟩⟩,rfl⟩;simp[execOp,bL,aq]
   .simp at h
  .simp at h
 .simp at h
theorem RZ{P:Program}{E:Env}(hR:Rel N E.np S0 w0 refs σ a w S γ){act:List (Nat×Bool)}(aJ:qJ (tm a) act){rw:Nat->BS}(iC:RdR σ rw)
  {o:Oper}{f:Nat}{args:List Arg}{mk:Ret->Option (Slot×Ups)}(h:dS E σ.ev rw act o=some (.call f args mk))(hf:Fun P f){K:Ret->Prop}(dJ:Gf P f args K) :
  ∃vals,(execOp a.eval o).run P w = .ok (.enter f vals) w/\
   (Calls P f vals w λe w'=>∃ret,K ret/\∀s u,mk ret=some (s,u)->∃v S' γ',e = .returned v/\Rel N E.np S0 w0 refs (σ.upd u) a w' S' γ'/\ij S' w' γ' (σ.upd u).bx (tm a) s v)/\
   ∀ret s u,mk ret=some (s,u)->s.bare=true:=by
 have aG:RdOk σ (mskM rw):=iC.msk;have aX:=AD (np:=E.np) aG;unfold dS at h;dsimp only at h;split at h
 case h_23 cl bL=>
  have cD:=Gn hR aJ cl.args.toList;split at h
  case h_5 x dM=>
   split at h
   .rename_i g caps hl;split at h
    .rename_i as us fs has;split at h
     .rename_i bz;simp only[j4,Act.call.injEq]at h;obtain⟨rfl,rfl,rfl⟩:=h;have hx:=dZ hR aJ x;rw[xH hl (by simp)]at hx;obtain⟨cv,hu,iV⟩:=hx.1;refine⟨_,Cz hf bL dM hu,?_,?_⟩
      .have:=RM hR iC aG aX has cD bz iV dJ ((o.dst.getD 0)*64);have e1:(cl.args.toList.map a.eval++cv.toList).toArray=cl.args.map a.eval++cv:=by apply kq;simp
       rwa[e1]at this
      .intro ret s u aV;unfold sW at aV;split at aV
       .unfold mkHd at aV;split at aV
        .split at aV
         .split at aV
          .simp only[j4,j8]at aV;rw[<-aV.1];rfl
          .simp at aV
         .simp at aV
        .simp at aV
       .unfold BG at aV;split at aV
        .split at aV
         .simp only[j4,j8]at aV;rw[<-aV.1];exact RX _
         .simp at aV
        .simp at aV
       split at aV
       .split at aV
        .split at aV
         .revert aV;dsimp only;split<;>(intro aV;simp only[j4,j8]at aV;rw[<-aV.1];rfl)
         .simp at aV
        .simp at aV
       .simp at aV
     .simp at h
    .simp at h
   .rename_i g ks hl;split at h
    .rename_i as us fs has;split at h
     .rename_i bz;simp only[j4,Act.call.injEq]at h;obtain⟨rfl,rfl,rfl⟩:=h;have hx:=dZ hR aJ x;rw[xH hl (by simp)]at hx;obtain⟨cv,hu,iV⟩:=hx.1;refine⟨_,Cz hf bL dM hu,?_,?_⟩
      .have:=RM hR iC aG aX has (cD.append (Rq iV)) bz (caps:=[]) (cv:=[]) trivial (by simpa using dJ) ((o.dst.getD 0)*64);have e1:((cl.args.toList.map a.eval++cv.toList)++[]).toArray=cl.args.map a.eval++cv:=by apply kq;simp
       rwa[e1]at this
      .intro ret s u aV;unfold sW at aV;split at aV
       .unfold mkHd at aV;split at aV
        .split at aV
         .split at aV
          .simp only[j4,j8]at aV;rw[<-aV.1];rfl
          .simp at aV
         .simp at aV
        .simp at aV
       .unfold BG at aV;split at aV
        .split at aV
         .simp only[j4,j8]at aV;rw[<-aV.1];exact RX _
         .simp at aV
        .simp at aV
       split at aV
       .split at aV
        .split at aV
         .revert aV;dsimp only;split<;>(intro aV;simp only[j4,j8]at aV;rw[<-aV.1];rfl)
         .simp at aV
        .simp at aV
       .simp at aV
     .simp at h
    .simp at h
   .simp at h
  all_goals (first|(simp at h;done)|skip)
  all_goals (exfalso;revert h;try simp only[mW])
  all_goals (repeat' split)
  all_goals simp[Act.leaf]
 all_goals (first|(simp at h;done)|skip)
 all_goals (repeat' (first|(simp at h;done)|(exact absurd h jnu)|split at h))<;>simp_all[mW,oCel,oChk,Act.leaf,Act.cel]
 all_goals (repeat' (split at h))<;>simp_all
end
end Go.Lft
