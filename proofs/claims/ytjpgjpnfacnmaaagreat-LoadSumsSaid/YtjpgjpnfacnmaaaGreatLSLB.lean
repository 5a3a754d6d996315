/- New variables; KE into variables. -/
import Derived.Test.YtjpgjpnfacnmaaaGreatLSLA
import Derived.MapKept
set_option linter.unusedVariables false
namespace Go.Lft
section
variable{N:NT}{np:Nat}{S0:aP}{w0:World}{refs:Refs}{σ:St}{a:Go.Act}{w:World}{S:aP}{γ:Nat->Value}
def gset(γ:Nat->Value)(n:Nat)(v:Value):Nat->Value:=λk=>if k=n then v else γ k
theorem ic(γ:Nat->Value)(n:Nat)(v:Value):gset γ n v n=v:=by simp[gset]
theorem iA(γ:Nat->Value){n k:Nat}(v:Value)(h:k≠n):gset γ n v k=γ k:=by simp[gset,h]
theorem AZ(hR:Rel N np S0 w0 refs σ a w S γ)(o:Obj):dP S w S (w.alloc o):=
 λg i h=>⟨h,World.cell?_alloc_lt w o ⟨g,i,none⟩ (hR.here g i h)⟩
theorem me{bx:Nat->BS}{k:Nat}{b:Bx}(h:fy S w γ bx k b){g:Nat}(hg:blk (γ k)=some g):g<w.heap.size:=by
 cases b with
 |cell ls frz=>obtain⟨g',cur,e,h1,h2,_⟩:=h;rw[h1]at hg;simp[blk]at hg;subst hg;exact(ji.1 h2).1
 |lst e t xs frz=>exact h.1.lt hg
 |arr n t xs=>obtain⟨g',cur,e,h1,h2,_⟩:=h;rw[h1]at hg;simp[blk]at hg;subst hg;exact(ji.1 h2).1
theorem KF(hR:Rel N np S0 w0 refs σ a w S γ){n:Nat}(hn:σ.bx n = .free){o:Obj}{b:Bx}{v:Value}(hv:∀g,blk v=some g->g=w.heap.size)
  (hb:BxLe γ σ.bx (gset γ n v) (σ.setB n (.live b)).bx->fy S (w.alloc o) (gset γ n v) (σ.setB n (.live b)).bx n b) :
  Rel N np S0 w0 refs (σ.setB n (.live b)) a (w.alloc o) S (gset γ n v)/\BxLe γ σ.bx (gset γ n v) (σ.setB n (.live b)).bx:=by
 have hle:BxLe γ σ.bx (gset γ n v) (σ.setB n (.live b)).bx:=by
  intro k hk;have bk:k≠n:=by rintro rfl;exact hk hn
  rw[du σ _ bk,iA γ v bk];exact⟨hk,rfl,λb hb=>⟨b,hb,.refl b⟩⟩
 have aM:=AZ hR o
 refine⟨Rel.step (bx':=(σ.setB n (.live b)).bx) hR aM hle ?_ ?_ ?_ hR.new ?_ ?_ ?_ hR.os hR.tape hR.output (λg hg _ h=>⟨heap_alloc_old w o hg,λk b' aT dL=>by
  by_cases hk:k=n
  .subst hk;rw[ic]at dL;have:=hv g dL;omega
  .rw[du σ _ hk]at aT;rw[iA γ v hk]at dL;exact h k b' aT dL⟩),hle⟩
 .intro k b' aT;by_cases hk:k=n
  .subst hk;rw[gY]at aT;simp at aT;subst aT;exact hb hle
  .rw[du σ _ hk]at aT;refine fy.keep aM hle (iA γ v hk) (λg hg=>⟨?_,λ_=>Iff.rfl⟩) (hR.box k b' aT);exact heap_alloc_old w o (me (hR.box k b' aT) hg)
 .intro k b' g aT hg;by_cases hk:k=n
  .subst hk;rw[ic]at hg;exact .inl (.inl (by rw[hv g hg];exact hR.grow))
  .rw[du σ _ hk]at aT;rw[iA γ v hk]at hg;exact hR.own k b' g aT hg
 .intro k k' b1 b2 g bk h1 h2 hg ar;by_cases hk:k=n
  .subst hk;have bK:k'≠k:=λh=>bk h.symm;rw[ic]at hg;rw[du σ _ bK]at h2;rw[iA γ v bK]at ar;have:=me (hR.box k' b2 h2) ar;rw[hv g hg]at this;omega
  .by_cases bK:k'=n
   .subst bK;rw[ic]at ar;rw[du σ _ hk]at h1;rw[iA γ v hk]at hg;have:=me (hR.box k b1 h1) hg;rw[hv g ar]at this;omega
   .rw[du σ _ hk]at h1;rw[du σ _ bK]at h2;rw[iA γ v hk]at hg;rw[iA γ v bK]at ar;exact hR.apart k k' b1 b2 g bk h1 h2 hg ar
 .intro g i h;have:=hR.here g i h;simp;omega
 .intro g hg hr;rw[heap_alloc_old w o (by have:=hR.grow;omega)];exact hR.below g hg hr
 .have:=hR.grow;simp;omega
theorem G4(hR:Rel N np S0 w0 refs σ a w S γ)(o:Nat):¬S w.heap.size o:=λh=>by have:=hR.here _ _ h;omega
theorem Tq(hR:Rel N np S0 w0 refs σ a w S γ){n:Nat}(hn:σ.bx n = .free){ls:List Leaf}{cur:Array Value}{e:TypeId}
  (hl:All2 (bZ S w γ σ.bx) ls cur.toList)(h1:∀u∈cur.toList,One u) :
  Rel N np S0 w0 refs (σ.setB n (.live (.cell ls false))) a (w.alloc (.cells cur e)) S (gset γ n (.pointer (some ⟨w.heap.size,0,none⟩)))/\
   cd S (w.alloc (.cells cur e)) (gset γ n (.pointer (some ⟨w.heap.size,0,none⟩))) (σ.setB n (.live (.cell ls false))).bx (.one (.bp n 0)) (.pointer (some ⟨w.heap.size,0,none⟩)):=by
 obtain⟨h,hle⟩:=KF hR hn (o:= .cells cur e) (b:= .cell ls false) (v:= .pointer (some ⟨w.heap.size,0,none⟩)) (λg hg=>by simp[blk]at hg;exact hg.symm) (λhle=>
  ⟨w.heap.size,cur,e,ic _ _ _,heap_alloc_new w _,by rw[List.take_of_length_le (Nat.le_of_eq hl.length.symm)];exact hl.mono (λx u hx=>bZ.keep (AZ hR _) hle hx),λu hu=>h1 u (qe hu),λ_ o=>G4 hR o,by simp⟩)
 refine⟨h,⟨by rw[gY];simp,rfl,λb _=>⟨w.heap.size,ic _ _ _,rfl⟩⟩,λ_=>rfl⟩
theorem Tr(hR:Rel N np S0 w0 refs σ a w S γ){n m:Nat}(hn:σ.bx n = .free){t:Ty}{xs:List t.den}{cur:Array Value}{e:TypeId}
  (hl:Rep S w (.arr m t) xs cur.toList) :
  Rel N np S0 w0 refs (σ.setB n (.live (.arr m t xs))) a (w.alloc (.cells cur e)) S (gset γ n (.pointer (some ⟨w.heap.size,0,none⟩)))/\
   cd S (w.alloc (.cells cur e)) (gset γ n (.pointer (some ⟨w.heap.size,0,none⟩))) (σ.setB n (.live (.arr m t xs))).bx (.one (.bp n 0)) (.pointer (some ⟨w.heap.size,0,none⟩)):=by
 obtain⟨h,hle⟩:=KF hR hn (o:= .cells cur e) (b:= .arr m t xs) (v:= .pointer (some ⟨w.heap.size,0,none⟩)) (λg hg=>by simp[blk]at hg;exact hg.symm) (λ_=>
  ⟨w.heap.size,cur,e,ic _ _ _,heap_alloc_new w _,Rep.keep (AZ hR _) _ _ _ hl,λo=>G4 hR o⟩)
 refine⟨h,⟨by rw[gY];simp,rfl,λb _=>⟨w.heap.size,ic _ _ _,rfl⟩⟩,λ_=>rfl⟩
theorem A9{bx:Nat->BS}:∀(t:Ty),All2 (bZ S w γ bx) (s5 t) (kI t)
 |.int _=>⟨rfl,trivial⟩
 |.bool=>⟨rfl,trivial⟩
 |.str=>⟨rfl,trivial⟩
 |.unit=>trivial
 |.wrap a=>A9 a
 |.pair a b=>(A9 a).append (A9 b)
 |.list _=>⟨rfl,trivial⟩
 |.arr n a=>by
  show All2 _ ((List.range n).flatMap λ_=>s5 a) ((List.replicate n (kI a)).flatten);induction n with
  |zero=>simp[All2]
  |succ n ih=>rw[List.range_succ,List.flatMap_append,List.replicate_succ',yh];refine ih.append ?_;simpa using A9 a
theorem qN:∀(t:Ty),Rep S w t t.dflt (kI t)
 |.int _=>rfl
 |.bool=>rfl
 |.str=>rfl
 |.unit=>rfl
 |.wrap a=>qN a
 |.pair a b=>⟨_,_,rfl,qN a,qN b⟩
 |.list _=>⟨none,0,rfl,js _,by simp[maxLen],λ_=>rfl,λb hb=>by simp at hb⟩
 |.arr n a=>by
  refine⟨List.length_replicate,List.replicate n (kI a),?_,rfl⟩;have hz:=qN a
  have:∀n,All2 (λx c=>Rep S w a x c) (List.replicate n a.dflt) (List.replicate n (kI a)):=by
   intro n;induction n with
   |zero=>exact trivial
   |succ n ih=>exact⟨hz,ih⟩
  exact this n
theorem CM(hR:Rel N np S0 w0 refs σ a w S γ){k:Nat}{b b':Bx}(hk:σ.bx k = .live b){g:Nat}(hg:blk (γ k)=some g)(hS:∀o,¬S g o)(oJ:kH b b')
  {old new:Array Value}{e:TypeId}(hh:w.heap[g]? = some (.cells old e (0,0)))
  (hb:BxLe γ σ.bx γ (σ.setB k (.live b')).bx->dP S w S (w.setRow g new)->fy S (w.setRow g new) γ (σ.setB k (.live b')).bx k b') :
  Rel N np S0 w0 refs (σ.setB k (.live b')) a (w.setRow g new) S γ:=by
 have hle:BxLe γ σ.bx γ (σ.setB k (.live b')).bx:=by
  intro k' bK;by_cases cu:k'=k
  .subst cu;rw[gY];exact⟨by simp,rfl,λb1 eZ=>by simp at eZ;subst eZ;exact⟨b,hk,oJ⟩⟩
  .rw[du σ _ cu];exact⟨bK,rfl,λb hb=>⟨b,hb,.refl b⟩⟩
 have aM:dP S w S (w.setRow g new):=by
  intro g' o h;refine⟨h,cell_setRow_other w g new ⟨g',o,none⟩ ?_⟩
  rintro rfl
  exact hS o h
 have bQ:∀k' b1,(σ.setB k (.live b')).bx k' = .live b1->∃b2,σ.bx k' = .live b2:=by
  intro k' b1 h1;by_cases cu:k'=k
  .subst cu;exact⟨b,hk⟩
  .rw[du σ _ cu]at h1;exact⟨b1,h1⟩
 have ak:=(ji.1 hh).1
 refine Rel.step (bx':=(σ.setB k (.live b')).bx) hR aM hle ?_ ?_ ?_ hR.new ?_ ?_ ?_ hR.os hR.tape hR.output (λg' _ _ h=>⟨setRow_other w g g' new (λe=>h k b hk (e▸hg)),λk' b1 h1=>by
  obtain⟨b2,h2⟩:=bQ k' b1 h1;exact h k' b2 h2⟩)
 .intro k' b1 h1;by_cases cu:k'=k
  .subst cu;rw[gY]at h1;simp at h1;subst h1;exact hb hle aM
  .rw[du σ _ cu]at h1;refine fy.keep aM hle rfl (λg' ar=>⟨?_,λ_=>Iff.rfl⟩) (hR.box k' b1 h1);exact setRow_other w g g' new (λh=>hR.apart k' k b1 b g cu h1 hk (h▸ar) hg)
 .intro k' b1 g' h1 ar;obtain⟨b2,h2⟩:=bQ k' b1 h1;exact hR.own k' b2 g' h2 ar
 .intro k1 k2 b1 b2 g' bk h1 h2 ar;obtain⟨ub,my⟩:=bQ k1 b1 h1;obtain⟨uc,lD⟩:=bQ k2 b2 h2;exact hR.apart k1 k2 ub uc g' bk my lD ar
 .intro g' o h;rw[size_setRow];exact hR.here g' o h
 .intro g' ar hr;rw[setRow_other w g g' new ?_]
  .exact hR.below g' ar hr
  .rintro rfl
   rcases hR.own k b _ hk hg with h|h
   .exact h.no (by omega) hr
   .exact hr h.1
 .rw[size_setRow];exact hR.grow
theorem G5{R:Leaf->Value->Prop}{ls new:List Leaf}{cs zs:List Value}{c:Nat}(h:All2 R ls cs)(h':All2 R new zs) :
  All2 R (rv ls c new) (cs.take c++zs++cs.drop (c+zs.length)):=by
 unfold rv;rw[h'.length];exact((h.take c).append h').append (h.drop _)
theorem Ts{X zs:List Value}{c n:Nat}(h:c+zs.length<=n)(h':n<=X.length):(X.take c++zs++X.drop (c+zs.length)).take n=(X.take n).take c++zs++(X.take n).drop (c+zs.length):=by
 have e1:(X.take n).take c=X.take c:=by rw[ya,Nat.min_eq_left (by omega)]
 have e2:(X.take c++zs).length=c+zs.length:=by simp;omega
 rw[e1,List.take_append,List.take_of_length_le (by rw[e2];exact h),e2,List.drop_take]
theorem CN{bx:Nat->BS}{c:Cel}{ls:List Leaf}{z:Value}(h:c.leaves=some ls)(hc:cd S w γ bx c z) :
  All2 (bZ S w γ bx) ls z.cells.toList/\∀u∈z.cells.toList,One u:=by
 unfold Cel.leaves at h;split at h
 .simp at h
 .rename_i l hd;simp at h;subst h;have h1:=hc.2 hd;rw[AY h1];exact⟨⟨hc.1,trivial⟩,λu hu=>by simp at hu;subst hu;exact h1⟩
 .simp at h;subst h;obtain⟨cs,rfl,ha,h1⟩:=hc;exact⟨ha,h1⟩
 .simp at h
end
theorem xK{m:Nat}:∀{l:List (List Value)},(∀c∈l,c.length=m)->l.flatten.length=l.length*m
 |[],_=>by simp
 |c::l,h=>by
  have h1:=h c (by simp);have h2:=xK (l:=l) (λd hd=>h d (qr _ hd));simp only[kx,jg,jm,Nat.add_mul,Nat.one_mul];omega
section
variable{N:NT}{np:Nat}{S0:aP}{w0:World}{refs:Refs}{σ:St}{a:Go.Act}{w:World}{S:aP}{γ:Nat->Value}
theorem oL:∀(u:Ups)(σ:St){k:Nat},u.any (λy=>y.1==k)=false->(σ.upd u).bx k=σ.bx k
 |[],_,_,_=>rfl
 |e::u,σ,k,h=>by
  simp only[List.any_cons,vz,beq_eq_false_iff_ne]at h;show ((σ.setB e.1 e.2).upd u).bx k=_;rw[oL u _ h.2,du σ _ (λhh=>h.1 hh.symm)]
theorem All2.all_len{t:Ty}{xs:List t.den}{css:List (List Value)}(h:All2 (λx c=>Rep S w t x c) xs css):∀c∈css,c.length=t.size:=by
 intro c hc;obtain⟨x,_,hx⟩:=h.mem_right c hc;exact Rep.length _ _ _ hx
theorem KG{cur:List Value}{css:List (List Value)}{m n i c:Nat}{ci zs:List Value}(hm:∀c∈css,c.length=m)(hn:css.length=n)(eP:cur.take (n*m)=css.flatten)
  (hi:css[i]? = some ci)(hc:c+zs.length<=m) :
  (cur.take (i*m+c)++zs++cur.drop (i*m+c+zs.length)).take (n*m)=(css.set i (ci.take c++zs++ci.drop (c+zs.length))).flatten:=by
 have ak:i<css.length:=(jx.1 hi).1;have nO:css[i]=ci:=(jx.1 hi).2;have eM:ci.length=m:=hm ci (kc hi);obtain⟨A,B,hA,hB,G6⟩:∃A B:List (List Value),A.length=i/\A.length+1+B.length=n/\css=A++ci::B:=by refine⟨css.take i,css.drop (i+1),by simp;omega,by simp;omega,?_⟩;rw[<-nO,List.getElem_cons_drop ak,zb]
 have hmA:∀c∈A,c.length=m:=λd hd=>hm d (by rw[G6];simp[hd]);have hmB:∀c∈B,c.length=m:=λd hd=>hm d (by rw[G6];simp[hd]);have lA:A.flatten.length=i*m:=by rw[xK hmA,hA]
 have lB:=xK hmB;have jT:css.set i (ci.take c++zs++ci.drop (c+zs.length))=A++(ci.take c++zs++ci.drop (c+zs.length))::B:=by rw[G6,vp _ _ (by omega),hA,Nat.sub_self,List.set_cons_zero]
 have CO:cur=A.flatten++(ci++(B.flatten++cur.drop (n*m))):=by have:=zb (n*m) cur;rw[eP,G6,yh,kx]at this;rw[<-jj ci,<-jj];exact this.symm
 have dQ:ci=ci.take c++((ci.drop c).take zs.length++ci.drop (c+zs.length)):=by have h1:=zb c ci;have h2:=zb zs.length (ci.drop c);rw[List.drop_drop]at h2;rw[h2,h1]
 have lp:(ci.take c).length=c:=by simp;omega
 have lq:((ci.drop c).take zs.length).length=zs.length:=by simp;omega
 have lr:(ci.drop (c+zs.length)).length=m-(c+zs.length):=by simp[eM]
 generalize ci.take c=p at *
 generalize (ci.drop c).take zs.length=q at *
 generalize ci.drop (c+zs.length)=r at *
 generalize cur.drop (n*m)=tl at *
 have e1:cur.take (i*m+c)=A.flatten++p:=by rw[CO,dQ];simp only[<-jj];rw[jj,jj,jj];exact List.take_left' (by simp[lA,lp])
 have e2:cur.drop (i*m+c+zs.length)=r++(B.flatten++tl):=by
  rw[CO,dQ];have:A.flatten++(p++(q++r)++(B.flatten++tl))=(A.flatten++p++q)++(r++(B.flatten++tl)):=by simp
  rw[this];exact List.drop_left' (by simp[lA,lp,lq];omega)
 rw[e1,e2,jT,yh,kx];have:A.flatten++p++zs++(r++(B.flatten++tl))=(A.flatten++(p++zs++r++B.flatten))++tl:=by simp
 rw[this];refine List.take_left' ?_;simp only[jg,lA,lp,lr,lB];have:n*m=i*m+m+B.length*m:=by rw[<-hB,hA,Nat.add_mul,Nat.add_mul,Nat.one_mul]
 omega
theorem G7{P:Program}{T:Nat->Option TyI}(hT:cO P T){t:TypeId}{ti:TyI}(ht:T t=some ti){g o:Nat}{z:Value}{cur:Array Value}{e:TypeId}
  (hh:w.heap[g]? = some (.cells cur e (0,0)))(hs:z.cells.toList.length=ti.size)(hl:o+z.cells.toList.length<=cur.size)(h1:∀u∈z.cells.toList,One u) :
  (Instr.storeAt t (.pointer (some ⟨g,o,none⟩)) z).run P w = .ok () (w.setRow g (cur.toList.take o++z.cells.toList++cur.toList.drop (o+z.cells.toList.length)).toArray):=by
 have aM:=run_storeCells_at P g o e z.cells.toList 0 cur w hh (by simpa using hl) h1;simp only[Nat.add_zero]at aM;have bk:¬z.cells.size≠ti.size:=by simpa using hs
 simp only[Instr.storeAt,Sem.run_bind,Instr.sureAddr,Sem.run_pure,Result.andThen_ok,storeVar,kJ hT ht,Sem.run_ite,if_neg bk,aM]
theorem jvR{P:Program}{E:Env}(hT:cO P E.T)(hR:Rel N np S0 w0 refs σ a w S γ){rd rdf:Nat->BS}(bc:RdOk σ rd)(bL:RdF np σ rdf){t:TypeId}{ti:TyI}(ht:E.T t=some ti)
  {x:Leaf}{val:Cel}{u:Ups}{ux z:Value}(h:vR rd rdf ti.size val x=some u)(hx:bZ S w γ σ.bx x ux)(hz:cd S w γ σ.bx val z) :
  ∃w' S',(Instr.storeAt t ux z).run P w = .ok () w'/\Rel N np S0 w0 refs (σ.upd u) a w' S' γ:=by
 unfold vR at h;split at h
 .rename_i k c;split at h
  .rename_i ls hk;have hk:=bc.live hk;split at h
   .rename_i new ew;split at h
    .rename_i hc;simp only[j5]at h;subst h;obtain⟨bU,hle⟩:=hc;obtain⟨ha,h1⟩:=CN ew hz;obtain⟨g,hg,hu⟩:=hx.2.2 _ hk;obtain⟨g',cur,e,ar,hh,eP,eG,hS,_⟩:=hR.box k _ hk;rw[hg]at ar;simp at ar;subst ar;subst hu;have hlen:=ha.length;have wi:=eP.length;simp at wi;refine⟨_,S,G7 hT ht hh (by omega) (by simp at hlen ⊢;omega) h1,?_⟩;refine CM hR hk (by rw[hg];rfl) (hS rfl) (b':= .cell (rv ls c new) false) trivial hh (λhle aM=>?_);refine⟨g,_,e,hg,setRow_heap w g cur _ e (0,0) hh,?_,?_,λ_=>hS rfl,by simp⟩
     .have:=G5 (c:=c) (eP.mono (λx u hx=>bZ.keep aM hle hx)) (ha.mono (λx u hx=>bZ.keep aM hle hx));have dV:(rv ls c new).length=ls.length:=by simp[rv];omega
      rw[dV];have:=Ts (X:=cur.toList) (zs:=z.cells.toList) (c:=c) (n:=ls.length) (by omega) (by simp;omega);simp only[this];assumption
     .intro v hv;have dV:(rv ls c new).length=ls.length:=by simp[rv];omega
      rw[dV]at hv;have rG:=Ts (X:=cur.toList) (zs:=z.cells.toList) (c:=c) (n:=ls.length) (by omega) (by simp;omega);simp only[rG]at hv;simp only[jn]at hv;rcases hv with (hv|hv)|hv
      .exact eG v (qe hv)
      .exact h1 v hv
      .exact eG v (zm hv)
    .simp at h
   .simp at h
  .rename_i n el xs hk;have hk:=bc.live hk;split at h
   .rename_i iS;subst iS;split at h
    .rename_i n' a' ys;split at h
     .rename_i Kh iR;split at h
      .rename_i bU;simp only[j5]at h;subst h;have ue:=ng iR;simp only[TV.mk.injEq,Ty.arr.injEq]at ue;obtain⟨⟨rfl,rfl⟩,ue⟩:=ue;obtain rfl:=eq_of_heq ue;obtain⟨cs,rfl,hr⟩:=hz;obtain⟨g,hg,hu⟩:=hx.2.2 _ hk;obtain⟨g',cur,e,ar,hh,bS,hS⟩:=hR.box k _ hk;rw[hg]at ar;simp at ar;subst ar;subst hu;have oM:=Rep.length _ _ _ hr;have th:=Rep.length _ _ _ bS;have e1:(Value.agg cs).cells.toList=cs.toList:=rfl;refine⟨_,S,G7 hT ht hh (by rw[e1,oM,bU];rfl) (by rw[e1,oM,<-th];simp) (by rw[e1];exact Rep.one _ _ _ hr),?_⟩;refine CM hR hk (by rw[hg];rfl) hS (b':= .arr _ _ _) ⟨rfl,rfl⟩ hh (λhle aM=>?_);refine⟨g,_,e,hg,setRow_heap w g cur _ e (0,0) hh,?_,hS⟩;have hd:cur.toList.drop (0+cs.toList.length)=[]:=jd (by rw[oM,th];omega);have hX:(cur.toList.take 0++(Value.agg cs).cells.toList++cur.toList.drop (0+(Value.agg cs).cells.toList.length)).toArray.toList=cs.toList:=by rw[e1,hd];simp
       rw[hX];exact Rep.keep aM _ _ _ hr
      .simp at h
     .simp at h
    .simp at h
   .simp at h
  .simp at h
 .rename_i k i c;split at h
  .rename_i el at_ xs hk;have cb:=bc.nm hk;have hk:=bc.live hk;split at h
   .rename_i new ew;split at h
    .rename_i hc;obtain⟨bU,hle⟩:=hc;split at h
     .rename_i en u1 xL;split at h
      .simp at h
      .rename_i tj;simp only[j5]at h;subst h;obtain⟨ha,h1⟩:=CN ew hz;have hlen:=ha.length;have uf:z.cells.toList.length=z.cells.size:=qg;obtain⟨_,hi,g,cap,hg,hu⟩:=hx.2.2 _ hk;obtain⟨css,aU,au,hSk⟩:=jH cb (hR.box k _ hk);rcases aU.2 with⟨_,h0⟩|⟨g',gH,cur,ar,fW,hh,jI,lv,dE,eO⟩
       .omega
       rw[hg]at ar;simp at ar;obtain⟨rfl,rfl⟩:=ar;subst hu;obtain⟨ci,nO,bS,dK⟩:=xH (λx c hx=>Rep.length at_ x c hx) au i at_.dflt hi;have eM:=Rep.length _ _ _ bS;have dQ:=G5 (c:=c) (tc (qL at_ _ ci bS)) ha;obtain⟨hf,he,hp⟩:=xJ bL hR.box at_ xL dQ;obtain⟨S1,bE,dr,fB,dS⟩:=qM u1 σ S hR hf;have dJ:(σ.upd u1).bx k = .live (.lst el at_ xs false):=by rw[oL u1 σ (z6.2 tj)];exact hk
       obtain⟨css1,Tt,Tu,Tv⟩:=jH cb (bE.box k _ dJ);have wj:∀o,¬S1 g o:=(Tv g (by rw[hg];rfl)).1 rfl;have Tw:i*at_.size+at_.size<=xs.length*at_.size:=by have:(i+1)*at_.size<=xs.length*at_.size:=jw _ (by omega);rwa[yd]at this
       have Ba:xs.length*at_.size<=cap*at_.size:=jw _ jI;have kL:c+z.cells.toList.length<=at_.size:=by omega
       refine⟨_,S1,G7 hT ht hh (by omega) (by rw[dE];omega) h1,?_⟩;rw[mz];refine CM bE dJ (by rw[hg];rfl) wj (b':= .lst el at_ (xs.set i en) false) ⟨rfl,rfl,λ_=>by simp⟩ hh (λjU cM=>?_);have rH:Rep S1 w at_ en (ci.take c++z.cells.toList++ci.drop (c+z.cells.toList.length)):=by have:=hp S1 w dr fB;rwa[List.take_of_length_le (by simp;omega)]at this
       refine CE cb ⟨css.set i (ci.take c++z.cells.toList++ci.drop (c+z.cells.toList.length)),⟨?_,.inr ⟨g,cap,_,?_,kf _,setRow_heap w g cur _ el (0,0) hh,by simpa using jI,lv,?_,?_⟩⟩,?_,λg' ar=>?_⟩
       .rw[xK (m:=at_.size)]
        .simp[au.length]
        .intro d hd;rcases List.mem_or_eq_of_mem_set hd with hd|rfl
         .exact All2.all_len au d hd
         .simp;omega
       .simpa using hg
       .simp only[vv,jg,qn,vi,qg];omega
       .simp only[vq];exact KG (All2.all_len au) au.length.symm eO nO kL
       .exact(au.mono (λx c hx=>Rep.keep (dr.trans cM) _ _ _ hx)).set i _ _ (Rep.keep cM _ _ _ rH)
       .rw[hg]at ar;simp[blk]at ar;subst ar;exact⟨λ_=>wj,by simp⟩
     .simp at h
    .simp at h
   .simp at h
  .rename_i n at_ xs hk;have hk:=bc.live hk;split at h
   .rename_i new ew;split at h
    .rename_i hc;obtain⟨bU,hle⟩:=hc;split at h
     .rename_i en u1 xL;split at h
      .simp at h
      .rename_i tj;simp only[j5]at h;subst h;obtain⟨ha,h1⟩:=CN ew hz;have hlen:=ha.length;have uf:z.cells.toList.length=z.cells.size:=qg;obtain⟨hi,g,hg,hu⟩:=hx.2.2 _ hk;obtain⟨g',cur,e,ar,hh,⟨hn,css,au,eP⟩,hS⟩:=hR.box k _ hk;rw[hg]at ar;simp at ar;subst ar;subst hu;obtain⟨ci,nO,bS,dK⟩:=xH (λx c hx=>Rep.length at_ x c hx) au i at_.dflt (by omega);have eM:=Rep.length _ _ _ bS;have dQ:=G5 (c:=c) (tc (qL at_ _ ci bS)) ha;obtain⟨hf,he,hp⟩:=xJ bL hR.box at_ xL dQ;obtain⟨S1,bE,dr,fB,dS⟩:=qM u1 σ S hR hf;have dJ:(σ.upd u1).bx k = .live (.arr n at_ xs):=by rw[oL u1 σ (z6.2 tj)];exact hk
       obtain⟨g1,cur1,e1,ug,hh1,_,wj⟩:=bE.box k _ dJ;rw[hg]at ug;simp at ug;subst ug;have CP:cur.toList.length=n*at_.size:=by rw[eP,xK (All2.all_len au),<-au.length,hn]
       have Tw:i*at_.size+at_.size<=n*at_.size:=by have:(i+1)*at_.size<=n*at_.size:=jw _ (by omega);rwa[yd]at this
       have kL:c+z.cells.toList.length<=at_.size:=by omega
       refine⟨_,S1,G7 hT ht hh (by omega) (by rw[<-qg,CP];omega) h1,?_⟩;rw[mz];refine CM bE dJ (by rw[hg];rfl) wj (b':= .arr n at_ (xs.set i en)) ⟨rfl,rfl⟩ hh (λjU cM=>?_);have rH:Rep S1 w at_ en (ci.take c++z.cells.toList++ci.drop (c+z.cells.toList.length)):=by have:=hp S1 w dr fB;rwa[List.take_of_length_le (by simp;omega)]at this
       refine⟨g,_,e,hg,setRow_heap w g cur _ e (0,0) hh,⟨?_,css.set i (ci.take c++z.cells.toList++ci.drop (c+z.cells.toList.length)),?_,?_⟩,wj⟩
       .show List.length (List.set xs i en)=n;rw[vq];exact hn
       .exact(au.mono (λx c hx=>Rep.keep (dr.trans cM) _ _ _ hx)).set i _ _ (Rep.keep cM _ _ _ rH)
       .have G8:=KG (cur:=cur.toList) (n:=n) (zs:=z.cells.toList) (All2.all_len au) (by rw[<-au.length,hn]) (by rw[<-CP,List.take_length,eP]) nO kL;rw[<-G8];symm;refine(List.take_of_length_le ?_).trans (by simp);simp only[jg,qn,vi];omega
     .simp at h
    .simp at h
   .simp at h
  .simp at h
 .simp at h
end
theorem wk{m:Nat}:∀{l:List (List Value)}(i:Nat),(∀c∈l,c.length=m)->(l.take i).flatten=l.flatten.take (i*m)
 |[],i,_=>by simp
 |c::l,0,_=>by simp
 |c::l,i+1,h=>by
  have hc:=h c (by simp);have ih:=wk (l:=l) i (λd hd=>h d (by simp[hd]));rw[List.take_succ_cons,kx,ih,kx,yd,Nat.add_comm,List.take_append,hc];rw[List.take_of_length_le (l:=c) (by omega),show m+i*m-m=i*m by omega]
theorem CQ{m:Nat}:∀{l:List (List Value)}(i:Nat),(∀c∈l,c.length=m)->(l.drop i).flatten=l.flatten.drop (i*m)
 |[],i,_=>by simp
 |c::l,0,_=>by simp
 |c::l,i+1,h=>by
  have hc:=h c (by simp);have ih:=CQ (l:=l) i (λd hd=>h d (by simp[hd]));rw[List.drop_succ_cons,ih,kx,yd,Nat.add_comm,List.drop_append,hc];rw[jd (l:=c) (by omega),jv,show m+i*m-m=i*m by omega]
section
variable{N:NT}{np:Nat}{S0:aP}{w0:World}{refs:Refs}{σ:St}{a:Go.Act}{w:World}{S:aP}{γ:Nat->Value}
theorem KH(hR:Rel N np S0 w0 refs σ a w S γ){k:Nat}{b:Bx}(hk:σ.bx k = .live b):Rel N np S0 w0 refs (σ.setB k .gone) a w S γ:=by
 have hle:BxLe γ σ.bx γ (σ.setB k .gone).bx:=by
  intro k' bK;by_cases cu:k'=k
  .subst cu;rw[gY];exact⟨by simp,rfl,λb hb=>by simp at hb⟩
  .rw[du σ _ cu];exact⟨bK,rfl,λb hb=>⟨b,hb,.refl b⟩⟩
 have bQ:∀k' b1,(σ.setB k .gone).bx k' = .live b1->σ.bx k' = .live b1:=by
  intro k' b1 h1;by_cases cu:k'=k
  .subst cu;rw[gY]at h1;simp at h1
  .rwa[du σ _ cu]at h1
 exact Rel.step (bx':=(σ.setB k .gone).bx) hR (.refl S w) hle (λk' b' h=>fy.keep (.refl S w) hle rfl (λ_ _=>⟨rfl,λ_=>Iff.rfl⟩) (hR.box k' b' (bQ k' b' h)))
  (λk' b' g h=>hR.own k' b' g (bQ k' b' h)) (λk1 k2 b1 b2 g bk h1 h2=>hR.apart k1 k2 b1 b2 g bk (bQ _ _ h1) (bQ _ _ h2)) hR.new hR.here hR.below hR.grow hR.os hR.tape hR.output
  (λg _ _ h=>⟨rfl,λk' b' aT=>h k' b' (bQ k' b' aT)⟩)
theorem Bb(hR:Rel N np S0 w0 refs σ a w S γ){d:Nat}(hd:σ.bx d = .free){w':World}{S':aP}{v':Value}{e:Nat}(hm:isM e=false){el:Ty}{zs:List el.den}{frz:Bool}{css:List (List Value)}
  (aM:dP S w S' w')(rI:∀g,g<w.heap.size->blk v'≠some g->w'.heap[g]? = w.heap[g]?)(bU:w.heap.size<=w'.heap.size)
  (hv:∀g,blk v'=some g->Own w0 refs g/\(∀k b,σ.bx k = .live b->blk (γ k)≠some g)/\g<w'.heap.size)
  (hS:∀g o,S' g o->S g o\/blk v'=some g)(os:w'.os=w.os)(tape:w'.tape=w.tape)(output:w'.output=w.output)
  (cg:w'.ownsRow 0 e el.size v' zs.length css.flatten)(au:All2 (λx c=>Rep S' w' el x c) zs css)
  (KI:∀g,blk v'=some g->(frz=false->∀o,¬S' g o)/\(frz=true->∀o,S' g o↔o<zs.length*el.size))(Tx:∀g,blk v'=some g->refs.kw g=none) :
  Rel N np S0 w0 refs (σ.setB d (.live (.lst e el zs frz))) a w' S' (gset γ d v')/\
   cd S' w' (gset γ d v') (σ.setB d (.live (.lst e el zs frz))).bx (.one (.ol d)) v':=by
 have hle:BxLe γ σ.bx (gset γ d v') (σ.setB d (.live (.lst e el zs frz))).bx:=by
  intro k hk;have bk:k≠d:=by rintro rfl;exact hk hd
  rw[du σ _ bk,iA γ v' bk];exact⟨hk,rfl,λb hb=>⟨b,hb,.refl b⟩⟩
 have dR:One v':=by rcases cg.2 with⟨rfl,_⟩|⟨g,cap,cur,rfl,_⟩<;>rfl
 refine⟨Rel.step (bx':=(σ.setB d (.live (.lst e el zs frz))).bx) hR aM hle ?_ ?_ ?_ ?_ ?_ ?_ (q9 hR.grow bU) (os.trans hR.os) (tape.trans hR.tape) (output.trans hR.output) (λg hg uh h=>⟨rI g hg (λhh=>uh (Tx g hh)),λk b' aT dL=>by
  by_cases hk:k=d
  .subst hk;rw[ic]at dL;exact uh (Tx g dL)
  .rw[du σ _ hk]at aT;rw[iA γ v' hk]at dL;exact h k b' aT dL⟩),?_⟩
 .intro k b hb;by_cases hk:k=d
  .subst hk;rw[gY]at hb;simp at hb;subst hb;refine CE hm ⟨css,by rw[ic];exact cg,au,λg hg=>?_⟩;rw[ic]at hg;exact KI g hg
  .rw[du σ _ hk]at hb;refine fy.keep aM hle (iA γ v' hk) (λg hg=>?_) (hR.box k b hb);have tn:=me (hR.box k b hb) hg;have bk:blk v'≠some g:=λhh=>(hv g hh).2.1 k b hb hg;exact⟨rI g tn bk,λo=>⟨λhs=>(hS g o hs).resolve_right bk,λhs=>(aM g o hs).1⟩⟩
 .intro k b g hb hg;by_cases hk:k=d
  .subst hk;rw[ic]at hg;exact .inl (hv g hg).1
  .rw[du σ _ hk]at hb;rw[iA γ v' hk]at hg;exact hR.own k b g hb hg
 .intro k k' b1 b2 g bk h1 h2 hg ar;by_cases hk:k=d
  .subst hk;have bK:k'≠k:=λh=>bk h.symm;rw[ic]at hg;rw[du σ _ bK]at h2;rw[iA γ v' bK]at ar;exact(hv g hg).2.1 k' b2 h2 ar
  .by_cases bK:k'=d
   .subst bK;rw[ic]at ar;rw[du σ _ hk]at h1;rw[iA γ v' hk]at hg;exact(hv g ar).2.1 k b1 h1 hg
   .rw[du σ _ hk]at h1;rw[du σ _ bK]at h2;rw[iA γ v' hk]at hg;rw[iA γ v' bK]at ar;exact hR.apart k k' b1 b2 g bk h1 h2 hg ar
 .intro g o hs;rcases hS g o hs with hs|hs
  .exact hR.new g o hs
  .exact .inr (hv g hs).1
 .intro g o hs;rcases hS g o hs with hs|hs
  .have:=hR.here g o hs;omega
  .exact(hv g hs).2.2
 .intro g hg hr;by_cases hb:blk v'=some g
  .exact((hv g hb).1.no hg hr).elim
  .rw[rI g (by have:=hR.grow;omega) hb];exact hR.below g hg hr
 .refine⟨⟨by rw[gY];simp,dR,λb hb=>(ic γ d v').symm⟩,λ_=>dR⟩
theorem jvS{P:Program}{T:Nat->Option TyI}(hT:cO P T){t ty:TypeId}{ti:TyI}(ht:T t=some ti){el:Ty}(bR:ti.ty=some (.list el))
  {v:Value}{n:Nat}{xs:List Value}(aU:w.ownsRow 0 ti.elem el.size v n xs){ad:Option Addr}{m c:Nat}{news:List Value}(fo:ad=none->m=0/\c=0)(hl:news.length=m*el.size)
  (iU:∀b,ad=some b->∀(j:Nat)(u:Value),news[j]? = some u->w.cell? (b.add j)=some u)(h1:∀u∈news,One u)(fa:n+m<=aN) :
  ∃v' w',(Builtin.append_ #[t,t] ty #[v,.slice ad m c]).run P w = .ok v' w'/\w'.ownsRow 0 ti.elem el.size v' (n+m) (xs++news)/\w'.os=w.os/\w'.tape=w.tape/\w'.output=w.output/\w.heap.size<=w'.heap.size/\
   ((v'=v/\w'=w)\/(blk v'=blk v/\(∃g,blk v=some g)/\∀g,blk v≠some g->w'.heap[g]? = w.heap[g]?)\/(blk v'=some w.heap.size/\∀g,g<w.heap.size->w'.heap[g]? = w.heap[g]?)):=by
 obtain⟨hd,bJ,te,c9,cV⟩:=oI hT ht bR;have bU:=nJ hT c9 cV;obtain⟨i,de,hi,hde,his,xM,_,_,hz⟩:=nf hT c9;obtain⟨_,⟨z,hz,iV⟩,_⟩:=hz el cV;have fC:i.size=el.size:=by omega
 have kM:z.cells.size=el.size:=by have h:=Rep.length el el.dflt _ (qN (S:=λ_ _=>False) (w:=w) el);rw[<-iV]at h;simpa using h
 have CR:n+m<=maxLen:=by simp only[maxLen,aN]at *;omega
 have lE:(n+m)*i.bytes<=140737488355328:=by have:(n+m)*i.bytes<=aN*32768:=ql fa xM;simp only[aN]at this;omega
 have hlen:(xs++news).length=(n+m)*el.size:=by rw[jg,aU.1,hl,Nat.add_mul]
 cases ad with
 |none=>obtain⟨rfl,rfl⟩:=fo rfl;have oO:news=[]:=kb (by simpa using hl);subst oO;exact⟨v,w,run_append_owned_none (P:=P) w 0 t ty ti.elem i el.size hd hi v n xs aU,by simpa using aU,rfl,rfl,rfl,js _,.inl ⟨rfl,rfl⟩⟩
 |some b=>
  have iU:=iU b rfl;rcases aU.2 with⟨rfl,rfl⟩|⟨g,cap,cur,rfl,_,hg,jI,lv,dE,eO⟩
  .have wm:w.ownsRow w.heap.size ti.elem el.size (.slice none 0 0) 0 xs:=⟨aU.1,.inl ⟨rfl,rfl⟩⟩;obtain⟨v',w',hr,ho,mf,hv⟩:=run_append_own (P:=P) w w.heap.size t ty ti.elem i z el.size i.bytes hd hi hz fC rfl kM bJ _ 0 xs wm b m c news hl iU h1 CR lE (js _);refine⟨v',w',hr,⟨ho.1,ho.2.imp id (λ⟨g,cap,cur,h1,_,h3⟩=>⟨g,cap,cur,h1,kf _,h3⟩)⟩,mf.os,mf.tape,mf.output,mf.size,?_⟩;by_cases hm:m=0
   .subst hm;have oO:news=[]:=kb (by simpa using hl);subst oO;have:=run_append_own (P:=P) w w.heap.size t ty ti.elem i z el.size i.bytes hd hi hz fC rfl kM bJ _ 0 xs wm b 0 c [] hl iU h1 CR lE (js _);left;have hx:(Builtin.append_ #[t,t] ty #[.slice none 0 0,.slice (some b) 0 c]).run P w = .ok (.slice none 0 0) w:=by simp[Builtin.append_,run_underlying hd,sizeOf,typeInfo,hi,Builtin.lenOf,Builtin.firstCells,loadCells,loadCellsFrom]
    rw[hx]at hr;simp at hr;exact⟨hr.1.symm,hr.2.symm⟩
   .have ui:=run_append_nil (P:=P) w t ty ti.elem i z hd hi hz b m c news (by rw[fC];exact hl) iU (by omega) (by simp only[maxLen]at CR;omega) (by have:=lE;simp only[kg]at this;omega);rw[ui]at hr;simp at hr;obtain⟨rfl,rfl⟩:=hr;exact .inr (.inr ⟨rfl,λg hg=>heap_alloc_old w.drew _ hg⟩)
  .by_cases rJ:n+m<=cap
   .have CS:n*i.size+news.length<=cur.size:=by rw[fC,hl,dE,<-Nat.add_mul];exact jw _ rJ
    have hr:=run_append_room (P:=P) w t ty ti.elem i hd hi g n cap cur hg b m c news (by rw[fC];exact hl) iU h1 rJ CS;rw[fC]at hr CS;refine⟨_,_,hr,⟨hlen,.inr ⟨g,cap,_,rfl,kf _,setRow_heap w g cur _ ti.elem _ hg,rJ,lv,?_,?_⟩⟩,rfl,rfl,rfl,by rw[size_setRow];exact js _,.inr (.inl ⟨rfl,⟨g,rfl⟩,λg' ar=>?_⟩)⟩
    .simp only[vv,jg,qn,vi,qg];omega
    .rw[eO,<-hlen];exact List.take_left
    .exact setRow_other w g g' _ (λh=>ar (by rw[h];rfl))
   .have holds:∀(j:Nat)(u:Value),xs[j]? = some u->w.cell? ((⟨g,0,none⟩:Addr).add j)=some u:=aU.cells (g:=g) rfl;have hr:=run_append_grow (P:=P) w t ty ti.elem i z hd hi hz ⟨g,0,none⟩ n cap xs (by rw[fC];exact aU.1) holds b m c news (by rw[fC];exact hl) iU (by omega) (by simp only[maxLen]at CR;omega) (growslice_fits (by omega) lE);have qO:=grownCap_ge w (n+m) cap ti.elem;refine⟨_,_,hr,⟨hlen,.inr ⟨w.heap.size,_,_,rfl,kf _,heap_alloc_new w.drew _,qO,grownCap_le_maxLen w (n+m) cap ti.elem CR,?_,?_⟩⟩,rfl,rfl,rfl,by simp,.inr (.inr ⟨rfl,λg' ar=>heap_alloc_old w.drew _ ar⟩)⟩
    .simp only[Array.size_append,vv,size_zeroCells,kM,aU.1,hl,<-Nat.add_mul];congr 1;omega
    .simp only[Array.toList_append,jj];rw[<-jj,<-hlen];exact List.take_left
theorem Tz(hR:Rel N np S0 w0 refs σ a w S γ){rd:Nat->BS}(bc:RdOk σ rd){el:Ty}{y:Leaf}{ys:List el.den}{z:Value}(h:appX rd el y=some ys)(hy:bZ S w γ σ.bx y z) :
  ∃ad c css,z = .slice ad ys.length c/\(ad=none->ys.length=0/\c=0)/\All2 (λx c=>Rep S w el x c) ys css/\
   ∀b,ad=some b->∀(j:Nat)(u:Value),css.flatten[j]? = some u->w.cell? (b.add j)=some u:=by
 unfold appX at h;split at h
 .rename_i k;split at h
  .rename_i e TA xs f hk;have:=ng h;cases this;have cb:=bc.nm hk;have hk:=bc.live hk;have hz:=hy.2.2 _ hk;obtain⟨css,aU,au,_⟩:=jH cb (hR.box k _ hk);rcases aU.2 with⟨hg,h0⟩|⟨g,cap,cur,hg,_⟩
   .exact⟨none,0,css,by rw[hz,hg,h0],λ_=>⟨h0,rfl⟩,au,λb hb=>by simp at hb⟩
   .refine⟨some ⟨g,0,none⟩,cap,css,by rw[hz,hg],by simp,au,λb hb j u hu=>?_⟩;simp at hb;subst hb;exact aU.cells (g:=g) (by rw[hg];rfl) j u hu
  .simp at h
 .rename_i t xs;have:=ng h;cases this;obtain⟨ad,cap,hz,hle,lv,hn,hb⟩:=hy;simp at hz;cases ad with
  |none=>
   have h0:=hn rfl;have iI:List.length ys=0:=by omega
   have:ys=[]:=kb iI;subst this;exact⟨none,cap,[],hz,λ_=>⟨rfl,h0⟩,trivial,λb hb=>by simp at hb⟩
  |some b=>
   obtain⟨dQ,css,ha,hl⟩:=hb b rfl;refine⟨some b,cap,css,hz,by simp,ha,λb' aT j u hu=>?_⟩;simp at aT;subst aT
   have dQ:=dQ (λe=>by
    rw[e]at ha;cases css with
    |nil=>simp at hu
    |cons c cs=>exact ha)
   obtain⟨g,o,sp⟩:=b;simp at dQ;subst dQ;rw[Addr.add_lit];exact(hl j u hu).2
 .simp at h;subst h;exact⟨none,0,[],hy,λ_=>⟨rfl,rfl⟩,trivial,λb hb=>by simp at hb⟩
 .rename_i k j;split at h
  .rename_i e TA xs f hk;split at h
   .rename_i dg iR;have:=ng iR;cases this;simp only[j5]at h;subst h;have cb:=bc.nm hk;have hk:=bc.live hk;obtain⟨_,hj,ad,gH,ar,hu⟩:=hy.2.2 _ hk;obtain⟨css,aU,au,_⟩:=jH cb (hR.box k _ hk);have eM:=All2.all_len au;have hlen:(List.drop j dg).length=dg.length-j:=by simp
    rcases aU.2 with⟨hg,h0⟩|⟨g,cap,cur,hg,_,hh,jI,_⟩
    .rw[hg]at ar;simp only[Value.slice.injEq]at ar;obtain⟨rfl,_,rfl⟩:=ar;have uj:dg=[]:=kb h0;subst uj;refine⟨none,0,[],by rw[hu];simp,λ_=>⟨by simp,rfl⟩,by simp;trivial,λb hb=>by simp at hb⟩
    .rw[hg]at ar;simp only[Value.slice.injEq,qj]at ar;obtain⟨rfl,rfl⟩:=ar;by_cases hc:cap=j
     .have uj:List.drop j dg=[]:=jd (by omega);rw[uj];rw[if_pos hc]at hu;exact⟨some ⟨g,0,none⟩,cap-j,[],by rw[hu];simp;omega,by simp,trivial,λb hb q v hq=>by simp at hq⟩
     .rw[if_neg hc]at hu;simp only[qa,Addr.add_lit,kg]at hu;refine⟨some ⟨g,j*el.size,none⟩,cap-j,css.drop j,by rw[hu,hlen],by simp,au.drop j,λb hb q v hq=>?_⟩;simp at hb;subst hb;have hfd:(css.drop j).flatten=css.flatten.drop (j*el.size):=CQ j eM;rw[hfd,List.getElem?_drop]at hq;have:=aU.cells (g:=g) (by rw[hg];rfl) _ v hq;rw[Addr.add_lit]at this ⊢;simpa using this
   .simp at h
  .simp at h
 .simp at h
theorem jvT{P:Program}{E:Env}(hT:cO P E.T)(hR:Rel N np S0 w0 refs σ a w S γ){rd rdf:Nat->BS}(bc:RdOk σ rd)(bL:RdF np σ rdf){t ty:TypeId}{ti:TyI}(ht:E.T t=some ti)
  {el:Ty}(bR:ti.ty=some (.list el)){x y:Leaf}{xs ys:List el.den}{frz:Bool}{u:Ups}{d:Nat}{vx vy:Value}(h1:appS rdf ti.elem el x=some (xs,frz,u))(h2:appX rd el y=some ys)
  (hd:σ.bx d = .free)(fa:xs.length+ys.length<=aN)(hx:bZ S w γ σ.bx x vx)(hy:bZ S w γ σ.bx y vy) :
  ∃v' w' S' γ',(Builtin.append_ #[t,t] ty #[vx,vy]).run P w = .ok v' w'/\Rel N np S0 w0 refs (σ.upd (u++[(d,.live (.lst ti.elem el (xs++ys) frz))])) a w' S' γ'/\
   cd S' w' γ' (σ.upd (u++[(d,.live (.lst ti.elem el (xs++ys) frz))])).bx (.one (.ol d)) v':=by
 obtain⟨ad,c,cy,G9,fo,xN,dK⟩:=Tz hR bc h2 hy;subst G9;have KJ:cy.flatten.length=ys.length*el.size:=All2.flatten_length (λx c hx=>Rep.length el x c hx) xN;have h1y:∀u∈cy.flatten,One u:=by intro u hu;obtain⟨c,hc,xE⟩:=List.mem_flatten.1 hu;obtain⟨x,_,hx⟩:=xN.mem_right c hc;exact Rep.one el x c hx u xE
 obtain⟨px,bJ,te,c9,cV⟩:=oI hT ht bR
 have src:∃σ1,σ.upd u=σ1/\Rel N np S0 w0 refs σ1 a w S γ/\σ1.bx d = .free/\∃cx,w.ownsRow 0 ti.elem el.size vx xs.length cx.flatten/\All2 (λx c=>Rep S w el x c) xs cx/\
   ∀g,blk vx=some g->Own w0 refs g/\g<w.heap.size/\(∀k b,σ1.bx k = .live b->blk (γ k)≠some g)/\(frz=false->∀o,¬S g o)/\(frz=true->∀o,S g o↔o<xs.length*el.size)/\refs.kw g=none:=by
  unfold appS at h1;split at h1
  .rename_i k;split at h1
   .rename_i e' TA dg f hk;split at h1
    .rename_i To iR;split at h1
     .rename_i he;simp only[j5,j9]at h1;obtain⟨rfl,rfl,rfl⟩:=h1;have:=ng iR;cases this;subst he;have oP:=bL.par hk;have cb:=bL.ok.nm hk;have hk:=bL.ok.live hk;have hz:=hx.2.2 _ hk;obtain⟨css,aU,au,hS⟩:=jH cb (hR.box k _ hk);have tp:d≠k:=by rintro rfl;rw[hd]at hk;simp at hk
      refine⟨σ.setB k .gone,rfl,KH hR hk,by rw[du σ _ tp];exact hd,css,by rw[hz];exact aU,au,λg hg=>?_⟩;rw[hz]at hg;refine⟨?_,me (hR.box k _ hk) hg,λk' b' aT ar=>?_,(hS g hg).1,(hS g hg).2,hR.kw_live hk hg⟩
      .rcases hR.own k _ g hk hg with h|h
       .exact h
       .rw[oP]at h;simp at h
      .have cu:k'≠k:=by rintro rfl;rw[gY]at aT;simp at aT
       rw[du σ _ cu]at aT;exact hR.apart k' k _ _ g cu aT hk ar hg
     .simp at h1
    .simp at h1
   .simp at h1
  .simp only[j5,j9]at h1;obtain⟨rfl,rfl,rfl⟩:=h1;have hz:vx = .slice none 0 0:=hx;subst hz;exact⟨σ,rfl,hR,hd,[],World.ownsRow_nil w 0 ti.elem el.size,trivial,λg hg=>by simp[blk]at hg⟩
  .simp at h1
 obtain⟨σ1,hσ1,bE,oK,cx,aU,Ha,hblk⟩:=src;rw[mz,hσ1];obtain⟨v',w',hr,cg,os,tape,output,bU,cT⟩:=jvS hT ht bR (ty:=ty) aU fo KJ dK h1y fa;have hlx:cx.flatten.length=xs.length*el.size:=aU.1;let S':aP:=λg o=>S g o\/(frz=true/\blk v'=some g/\o<(xs++ys).length*el.size)
 have aM:dP S w S' w':=by
  intro g o hs;refine⟨.inl hs,?_⟩;rcases cT with⟨rfl,rfl⟩|⟨hb,⟨g0,lF⟩,hh⟩|⟨hb,hh⟩
  .rfl
  .by_cases hg:g=g0
   .subst hg;obtain⟨_,_,_,hf,tq,_⟩:=hblk g lF;cases frz with
    |false=>exact absurd hs (hf rfl o)
    |true=>
     have ho:=(tq rfl o).1 hs
     have gI:v'.ownBlock=some g:=by
      rw[lF]at hb;rcases cg.2 with⟨hn,_⟩|⟨g1,cap,cur,hn,_⟩
      .rw[hn]at hb;simp[blk]at hb
      .rw[hn]at hb ⊢;simp[blk]at hb;simp[Value.ownBlock,hb]
     have tt:vx.ownBlock=some g:=by
      rcases aU.2 with⟨hn,_⟩|⟨g1,cap,cur,hn,_⟩
      .rw[hn]at lF;simp[blk]at lF
      .rw[hn]at lF ⊢;simp[blk]at lF;simp[Value.ownBlock,lF]
     have CT:(cx.flatten)[o]? = some (cx.flatten[o]'(by omega)):=jk (by omega);have e1:=aU.cells tt o _ CT;have e2:=cg.cells gI o (cx.flatten[o]'(by omega)) (by rw[List.getElem?_append_left (by omega)];exact CT);rw[Addr.add_lit,kg]at e1 e2;rw[e1,e2]
   .have:=hh g (by rw[lF];simpa using λh=>hg h.symm);exact World.cell?_of_block (a:=⟨g,o,none⟩) this
  .exact World.cell?_of_block (a:=⟨g,o,none⟩) (hh g (hR.here g o hs))
 have Hb:∀g,blk v'=some g->Own w0 refs g/\(∀k b,σ1.bx k = .live b->blk (γ k)≠some g)/\g<w'.heap.size:=by
  intro g hg
  have ak:g<w'.heap.size:=by
   rcases cg.2 with⟨hn,_⟩|⟨g1,cap,cur,hn,_,hh,_⟩
   .rw[hn]at hg;simp[blk]at hg
   .rw[hn]at hg;simp[blk]at hg;subst hg;exact(ji.1 hh).1
  rcases cT with⟨rfl,rfl⟩|⟨hb,⟨g0,lF⟩,hh⟩|⟨hb,hh⟩
  .obtain⟨q1,q2,q3,_⟩:=hblk g hg;exact⟨q1,q3,ak⟩
  .rw[hb]at hg;obtain⟨q1,q2,q3,_⟩:=hblk g hg;exact⟨q1,q3,ak⟩
  .rw[hb]at hg;simp at hg;subst hg;exact⟨.inl hR.grow,λk b hk ar=>by have:=me (bE.box k b hk) ar;omega,ak⟩
 obtain⟨dT,gy⟩:=Bb bE oK (hm:=Kt hT ht) (w':=w') (S':=S') (v':=v') (e:=ti.elem) (el:=el) (zs:=xs++ys) (frz:=frz) (css:=cx++cy) aM (λg hg bk=>by
   rcases cT with⟨rfl,rfl⟩|⟨hb,_,hh⟩|⟨hb,hh⟩
   .rfl
   .exact hh g (by rw[<-hb];exact bk)
   .exact hh g hg) bU Hb (λg o hs=>hs.imp id (λh=>h.2.1)) os tape output (by rw[yh,jg];exact cg)
  ((
   Ha.mono (λx c hx=>Rep.keep aM _ _ _ hx)).append (xN.mono (λx c hx=>Rep.keep aM _ _ _ hx))) (λg hg=>by
   have hold:∀o,S g o->frz=true/\o<xs.length*el.size:=by
    intro o hs;rcases cT with⟨rfl,rfl⟩|⟨hb,⟨g0,lF⟩,hh⟩|⟨hb,hh⟩
    .obtain⟨_,_,_,hf,tq,_⟩:=hblk g hg;cases frz with
     |false=>exact absurd hs (hf rfl o)
     |true=>exact⟨rfl,(tq rfl o).1 hs⟩
    .rw[hb]at hg;obtain⟨_,_,_,hf,tq,_⟩:=hblk g hg;cases frz with
     |false=>exact absurd hs (hf rfl o)
     |true=>exact⟨rfl,(tq rfl o).1 hs⟩
    .rw[hb]at hg;simp at hg;subst hg;exact absurd hs (G4 hR o)
   refine⟨λhf o hs=>?_,λhf o=>⟨λhs=>?_,λho=> .inr ⟨hf,hg,ho⟩⟩⟩
   .rcases hs with hs|hs
    .rw[hf]at hold;simp at hold;exact hold o hs
    .rw[hf]at hs;simp at hs
   .rcases hs with hs|hs
    .have:=(hold o hs).2;rw[jg,Nat.add_mul];omega
    .exact hs.2.2) (λg hg=>by
   rcases cT with⟨rfl,rfl⟩|⟨hb,⟨g0,lF⟩,hh⟩|⟨hb,hh⟩
   .exact(hblk g hg).2.2.2.2.2
   .rw[hb]at hg;exact(hblk g hg).2.2.2.2.2
   .rw[hb]at hg;simp at hg;subst hg;exact hR.kw_new (js _))
 exact⟨v',w',S',_,hr,dT,gy⟩
end
theorem jCL(L l:List Value)(v:Value)(n:Nat)(h:n<L.length) :
  (L.set n v).take (n+1)++l++(L.set n v).drop (n+1+l.length)=L.take n++v::l++L.drop (n+(l.length+1)):=by
 obtain⟨A,x,B,hA,rfl⟩:∃A x B,List.length A=n/\L=A++x::B:=⟨L.take n,L[n],L.drop (n+1),by simp;omega,by rw[List.getElem_cons_drop h,zb]⟩;subst hA;rw[vp _ _ (js _),Nat.sub_self,List.set_cons_zero];have e1:(A++v::B).take (A.length+1)=A++[v]:=by rw[show A++v::B=(A++[v])++B by simp];exact List.take_left' (by simp)
 have e2:(A++x::B).take A.length=A:=List.take_left' rfl;have e3:∀y,(A++y::B).drop (A.length+1+l.length)=B.drop l.length:=by intro y;rw[show A++y::B=(A++[y])++B by simp,<-List.drop_drop,List.drop_left' (by simp)]
 rw[e1,e2,e3,show A.length+(l.length+1)=A.length+1+l.length by omega,e3];simp
theorem TB(off:Nat):∀(l:List Value)(k:Nat)(cells:Array Value),off+k+l.length<=cells.size->
  ((l.zipIdx k).foldl (λcs x=>cs.setIfInBounds (off+x.2) x.1) cells).toList=cells.toList.take (off+k)++l++cells.toList.drop (off+k+l.length)
 |[],k,cells,_=>by simp
 |v::l,k,cells,h=>by
  simp only[jm]at h;rw[List.zipIdx_cons,List.foldl_cons,TB off l (k+1) _ (by simp;omega)];simp only[Array.toList_setIfInBounds];rw[show off+(k+1)=off+k+1 by omega];exact jCL cells.toList l v (off+k) (by simp;omega)
theorem TC(cells:Array Value)(off:Nat)(zs:Array Value)(h:off+zs.size<=cells.size) :
  (zs.zipIdx.foldl (λcs (x:Value×Nat)=>cs.setIfInBounds (off+x.2) x.1) cells).toList=cells.toList.take off++zs.toList++cells.toList.drop (off+zs.size):=by
 rw[<-Array.foldl_toList,Array.toList_zipIdx];have:=TB off zs.toList 0 cells (by simpa using h);simpa using this
theorem TD(z:List Value):∀(n p:Nat),p<n*z.length->(List.replicate n z).flatten[p]? = z[p%z.length]?
 |0,p,h=>by simp at h
 |n+1,p,h=>by
  rw[List.replicate_succ,kx];by_cases hp:p<z.length
  .rw[List.getElem?_append_left hp,Nat.mod_eq_of_lt hp]
  .rw[kj (by omega),TD z n (p-z.length) (by rw[Nat.add_mul]at h;omega)];congr 1;exact(Nat.mod_eq_sub_mod (by omega)).symm
theorem TE(z:Array Value)(n:Nat)(hz:0<z.size):((Array.range (n*z.size)).map (λi=>z[i%z.size]!)).toList=(List.replicate n z.toList).flatten:=by
 apply zp;intro p;by_cases hp:p<n*z.size
 .rw[TD z.toList n p (by simpa using hp)];have hm:p%z.size<z.size:=Nat.mod_lt _ hz;simp[hp,hm]
 .rw[qp (by simp;omega),qp (by rw[List.length_flatten];simp;omega)]
section
variable{N:NT}{np:Nat}{S0:aP}{w0:World}{refs:Refs}{σ:St}{a:Go.Act}{w:World}{S:aP}{γ:Nat->Value}
theorem KK{t:Ty}{z:Value}(h:z.cells.toList=kI t):z.cells.size=t.size:=by
 have:=Rep.length t t.dflt _ (qN (S:=λ_ _=>False) (w:=(default:World)) t);rw[<-h]at this;simpa using this
theorem TF{t:Ty}{z:Value}(h:z.cells.toList=kI t):∀u∈z.cells.toList,One u:=by
 rw[h];exact Rep.one t t.dflt _ (qN (S:=λ_ _=>False) (w:=(default:World)) t)
theorem TG{P:Program}{T:Nat->Option TyI}(hT:cO P T){t:TypeId}{ti:TyI}(ht:T t=some ti){ty:Ty}(bR:ti.ty=some ty) :
  ∃z:Value,z.cells.toList=kI ty/\(Instr.alloc t true (.tuple #[])).run P w = .ok (.pointer (some ⟨w.heap.size,0,none⟩)) (w.alloc (.cells z.cells t)):=by
 obtain⟨z,hz,hc⟩:=CH hT ht w bR;refine⟨z,hc,?_⟩;simp only[Instr.alloc,Sem.run_bind,hz,Result.andThen_ok,newVar,newRow,run_newObj,Sem.run_pure,World.alloc_eq]
theorem TH{P:Program}(t:TypeId)(v:Value):(Instr.box t v).run P w = .ok (.pointer (some ⟨w.heap.size,0,none⟩)) (w.alloc (.cells v.cells t)):=by
 simp only[Instr.box,Sem.run_bind,newVar,newRow,run_newObj,Result.andThen_ok,Sem.run_pure,World.alloc_eq]
theorem TI{P:Program}{α β:Type}(f:α->Sem β)(g:α->β):∀(l:List α),(∀x∈l,(f x).run P w = .ok (g x) w)->(l.mapM f).run P w = .ok (l.map g) w
 |[],_=>by simp
 |x::l,h=>by
  rw[List.mapM_cons];simp only[Sem.run_bind,h x (by simp),Result.andThen_ok,TI f g l (λy hy=>h y (by simp[hy])),Sem.run_pure,ke]
theorem TJ{bx:Nat->BS}{ti:TyI}{sz:Nat->Option Nat}{place:Nat->Option (Nat×Nat)}(hp:∀i f n,ti.flds[i]? = some f->sz f.2=some n->place i=some (f.1,n)) :
  ∀(ps:List (Nat×Cel))(vs:List (Nat×Value)){ls ie:List Leaf}{cells:Array Value},All2 (λp v=>p.1=v.1/\cd S w γ bx p.2 v.2) ps vs->AB ti sz ls ps=some ie->
   All2 (bZ S w γ bx) ls cells.toList->(∀u∈cells.toList,One u)->∃bB,Instr.fill place cells vs=some bB/\All2 (bZ S w γ bx) ie bB.toList/\∀u∈bB.toList,One u
 |[],[],ls,ie,cells,_,h,ha,h1=>by
  simp[AB]at h;subst h;exact⟨cells,rfl,ha,h1⟩
 |(i,c)::ps,(j,v)::vs,ls,ie,cells,⟨⟨dF,hc⟩,hP⟩,h,ha,h1=>by
  simp only at dF;subst dF;simp only[AB]at h;split at h
  .rename_i f hf;split at h
   .rename_i new ew;split at h
    .rename_i dy;obtain⟨bU,hle⟩:=dy;obtain⟨hl,oM⟩:=CN ew hc;have hlen:=hl.length;have wi:=ha.length;have lG:v.cells.size=new.length:=by rw[hlen];simp
     have dE:cells.size=ls.length:=by rw[wi];simp
     have Hc:=TC cells f.1 v.cells (by omega);have dQ:=G5 (c:=f.1) ha hl
     obtain⟨bB,gJ,h2,h3⟩:=TJ hp ps vs (cells:=(v.cells.zipIdx.foldl (λcs (x:Value×Nat)=>cs.setIfInBounds (f.1+x.2) x.1) cells)) hP h
      (by rw[Hc];simpa using dQ) (by
       rw[Hc];intro u hu;simp only[jn]at hu;rcases hu with (hu|hu)|hu
       .exact h1 u (qe hu)
       .exact oM u hu
       .exact h1 u (zm hu))
     refine⟨bB,?_,h2,h3⟩;simp only[Instr.fill,hp i f _ hf bU];rw[if_neg (by simp[lG];omega)];exact gJ
    .simp at h
   .simp at h
  .simp at h
 |[],_::_,_,_,_,h,_,_,_=>h.elim
 |_::_,[],_,_,_,h,_,_,_=>h.elim
theorem jvU{P:Program}{E:Env}(hT:cO P E.T){bx:Nat->BS}{t:TypeId}{ti:TyI}(ht:E.T t=some ti){ty:Ty}(bR:ti.ty=some ty)(nK:ty.agg=true)
  {ps:List (Nat×Cel)}{vs:Array (Nat×Value)}{ls:List Leaf}(hP:All2 (λp v=>p.1=v.1/\cd S w γ bx p.2 v.2) ps vs.toList)
  (h:AB ti (λt=>(E.T t).map (·.size)) (s5 ty) ps=some ls) :
  ∃z,(Instr.build t vs).run P w = .ok z w/\cd S w γ bx (.st ls) z:=by
 obtain⟨z,hz,iV⟩:=CH hT ht w bR;obtain⟨i,d,hi,hd,_,_,_,fk,eN⟩:=nf hT ht;have px:=(eN ty bR).2.2;cases d with
 |struct fs=>
  simp only[CF,jc,jo]at fk;obtain⟨py,ud⟩:=fk
  have um:(fs.mapM (λf=>do pure (f.offset,<-sizeOf f.type):Field->Sem (Nat×Nat))).run P w = .ok (fs.map λf=>(f.offset,((E.T f.type).map (·.size)).getD 0)) w:=by
   rw[Array.mapM_eq_mapM_toList]
   have:=TI (P:=P) (w:=w) (λf=>(do pure (f.offset,<-sizeOf f.type):Sem (Nat×Nat))) (λf:Field=>(f.offset,((E.T f.type).map (·.size)).getD 0)) fs.toList (λf hf=>by
    have:=jy.1 ud f hf;split at this
    .rename_i tf rC;simp only[Sem.run_bind,kJ hT rC,Result.andThen_ok,Sem.run_pure,rC,qa,zg]
    .simp at this)
   simp only[Sem.run_map,this,Result.andThen_ok];congr 1;apply qk;simp
  have hp:∀(i:Nat)(f:Nat×Nat)(n:Nat),ti.flds[i]? = some f->(E.T f.2).map (·.size)=some n->(fs.map λf=>(f.offset,((E.T f.type).map (·.size)).getD 0))[i]? = some (f.1,n):=by
   intro i f n hf hn;rw[<-py,qi]at hf;cases hq:fs.toList[i]? with
   |none=>simp[hq]at hf
   |some fl=>
    simp only[hq,qa,j5]at hf;subst hf;have Bc:fs[i]? = some fl:=by simpa using hq
    simp only at hn;simp[Bc,hn]
  obtain⟨bB,gJ,ha,h1⟩:=TJ (S:=S) (w:=w) (γ:=γ) (place:=λi=>(fs.map λf=>(f.offset,((E.T f.type).map (·.size)).getD 0))[i]?) hp ps vs.toList (cells:=z.cells) hP h (by rw[iV];exact A9 ty) (TF iV);refine⟨.agg bB,?_,bB,rfl,ha,h1⟩;simp only[Instr.build,Sem.run_bind,hz,Result.andThen_ok,run_underlying hd,um,gJ,Sem.run_pure]
 |_=>exfalso;revert px nK;cases ty<;>simp[lu,Ty.agg]
theorem TK{rd:Nat->BS}{el:Ty}:∀(ps:List (Nat×Cel)){xs dg:List el.den}{u u':Ups},kF rd el xs u ps=some (dg,u')->∃u2,u'=u++u2
 |[],_,_,u,u',h=>by simp[kF]at h;exact⟨[],by simp[h.2]⟩
 |(i,c)::ps,xs,dg,u,u',h=>by
  simp only[kF]at h;split at h
  .split at h
   .obtain⟨u2,hu⟩:=TK ps h;exact⟨_,by rw[hu,jj]⟩
   .simp at h
  .simp at h
theorem KL{rd:Nat->BS}(bc:RdF np σ rd)(hB:G3 S w γ σ.bx){el:Ty}(bJ:0<el.size):∀(ps:List (Nat×Cel))(vs:List (Nat×Value)){xs dg:List el.den}{u u':Ups},
  All2 (λp v=>p.1=v.1/\cd S w γ σ.bx p.2 v.2) ps vs->kF rd el xs u ps=some (dg,u')->FrzL np σ.bx u->
  FrzL np σ.bx u'/\∀S',dP S w S' w->Froz σ.bx γ S' w u'->∀(css:List (List Value))(cells:Array Value),All2 (λx c=>Rep S' w el x c) xs css->cells.toList=css.flatten->
   ∃bB lI,Instr.fill (λi=>some (i*el.size,el.size)) cells vs=some bB/\All2 (λx c=>Rep S' w el x c) dg lI/\bB.toList=lI.flatten
 |[],[],xs,dg,u,u',_,h,hf=>by
  simp[kF]at h;obtain⟨rfl,rfl⟩:=h;exact⟨hf,λS' _ _ css cells ha hc=>⟨cells,css,rfl,ha,hc⟩⟩
 |(i,c)::ps,(j,v)::vs,xs,dg,u,u',⟨⟨dF,hc⟩,hP⟩,h,hf=>by
  simp only at dF;subst dF;simp only[kF]at h;split at h
  .rename_i x u1 hx;split at h
   .rename_i hi;obtain⟨py,xO,oM⟩:=CL bc hB hx hc;obtain⟨hf',eQ⟩:=KL bc hB bJ ps vs hP h (FrzL.app.2 ⟨hf,py⟩);obtain⟨u2,Bd⟩:=TK ps h;refine⟨hf',λS' aM fB css cells ha dt=>?_⟩;have hrx:=(xO S' w aM (Froz.app.1 (Froz.app.1 (Bd▸fB)).1).2).1;have KM:cells.size=xs.length*el.size:=by have:=All2.flatten_length (λx c hx=>Rep.length el x c hx) ha;rw[<-dt]at this;simpa using this
    have Tw:i*el.size+el.size<=xs.length*el.size:=by have:(i+1)*el.size<=xs.length*el.size:=jw _ (by omega);rwa[yd]at this
    have oM:v.cells.toList.length=el.size:=oM;have lG:v.cells.size=el.size:=by simpa using oM
    have uf:v.cells.toList.length=v.cells.size:=qg;have Hc:=TC cells (i*el.size) v.cells (by omega);obtain⟨ci,nO⟩:∃ci,css[i]? = some ci:=⟨css[i]'(by rw[<-ha.length];exact hi),jk _⟩;have G8:=KG (cur:=cells.toList) (n:=xs.length) (c:=0) (zs:=v.cells.toList) (All2.all_len ha) ha.length.symm (by rw[dt,<-dt];exact List.take_of_length_le (by simp[KM])) nO (by omega);have eM:ci.length=el.size:=All2.all_len ha ci (kc nO)
    have ew:cells.toList.take (i*el.size)++v.cells.toList++cells.toList.drop (i*el.size+v.cells.size)=(css.set i v.cells.toList).flatten:=by
     have e1:ci.take 0++v.cells.toList++ci.drop (0+v.cells.toList.length)=v.cells.toList:=by rw[jd (by omega)];simp
     rw[e1]at G8;rw[<-G8];symm;refine(List.take_of_length_le ?_).trans ?_
     .simp;omega
     .simp
    obtain⟨bB,lI,h1,h2,h3⟩:=eQ S' aM fB (css.set i v.cells.toList) _ (ha.set i x v.cells.toList hrx) (Hc.trans ew);refine⟨bB,lI,?_,h2,h3⟩;simp only[Instr.fill];rw[if_neg (by simp[lG];omega)];exact h1
   .simp at h
  .simp at h
 |[],_::_,_,_,_,_,h,_,_=>h.elim
 |_::_,[],_,_,_,_,h,_,_=>h.elim
end
theorem TL{P:Program}{t e:TypeId}(h:P.underlying t=some (.slice e)):P.elem t=e:=by simp[Program.elem,h]
def VB(d:Nat)(o:Option Value)(i:Nat):Prop:=(o=none/\i=d)\/∃k,o=some (.int k (i:Int))
theorem xP{P:Program}{w:World}{t:TypeId}{e s:Nat}(hd:P.underlying t=some (.slice e))(hs:(sizeOf e).run P w = .ok s w){ad:Option Addr}{len cap i j:Nat}{lo hi:Option Value}
  (iu:VB 0 lo i)(ig:VB len hi j)(dF:i<=j)(hj:j<=cap) :
  (Instr.sliceAt t (.slice ad len cap) lo hi none).run P w = .ok (.slice (if cap=i then ad else ad.map (·.add (i*s))) (j-i) (cap-i)) w:=by
 have he:=TL hd;have gx:P.underlying t=some (.slice (P.elem t)):=by rw[he];exact hd
 rw[run_sliceAt_slice w t _ _ _ _ gx];have dC:(sizeOf (P.elem t)).run P w = .ok s w:=by rw[he];exact hs
 rcases iu with⟨rfl,rfl⟩|⟨kl,rfl⟩
 .rcases ig with⟨rfl,rfl⟩|⟨kh,rfl⟩
  .rw[run_slice_all w t ad _ cap gx,dC];simp[Result.andThen,sliced]
  .rw[run_slice_h w t ad len cap gx kh _ (by omega) (by omega),dC];simp[Result.andThen,sliced]
 .rcases ig with⟨rfl,rfl⟩|⟨kh,rfl⟩
  .rw[run_slice_l w t ad _ cap gx kl _ (by omega) (by omega),dC];simp[Result.andThen,sliced]
  .rw[run_slice_lh w t ad len cap gx kl kh _ _ (by omega) (by omega) (by omega),dC];simp[Result.andThen,sliced]
section
variable{N:NT}{np:Nat}{S0:aP}{w0:World}{refs:Refs}{σ:St}{a:Go.Act}{w:World}{S:aP}{γ:Nat->Value}
theorem TM{el:Ty}{xs:List el.den}{ad:Option Addr}{cap:Nat}(h:Rep S w (.list el) xs [.slice ad (List.length xs) cap]){i j:Nat}(dF:i<=j)(hj:j<=List.length xs) :
  Rep S w (.list el) ((xs.take j).drop i) [.slice (if cap=i then ad else ad.map (·.add (i*el.size))) (j-i) (cap-i)]:=by
 obtain⟨ad',gH,he,hle,lv,hn,hb⟩:=h;simp only[List.cons.injEq,Value.slice.injEq,and_true,qj]at he;obtain⟨rfl,rfl⟩:=he;have hlen:((xs.take j).drop i).length=j-i:=by simp;omega
 refine⟨_,_,by rw[hlen],by rw[hlen];omega,by omega,λh=>?_,λb aT=>?_⟩
 .have:ad=none:=by
   split at h
   .exact h
   .simpa using h
  have:=hn this;omega
 .by_cases hc:cap=i
  .rw[if_pos hc]at aT;have hz:(xs.take j).drop i=[]:=kb (by omega);rw[hz];exact⟨λh=>absurd rfl h,[],trivial,λj v hv=>by simp at hv⟩
  .rw[if_neg hc]at aT;cases ad with
   |none=>simp at aT
   |some b0=>
    simp only[qa,j5]at aT;subst aT;obtain⟨dQ,css,ha,hl⟩:=hb b0 rfl;by_cases hx:(xs.take j).drop i=[]
    .rw[hx];exact⟨λh=>absurd rfl h,[],trivial,λj v hv=>by simp at hv⟩
    .have gz:xs≠[]:=λh=>hx (by rw[h];simp);obtain⟨g,o,sp⟩:=b0;have dQ:=dQ gz;simp at dQ;subst dQ;have xQ:(⟨g,o,none⟩:Addr).add (i*el.size)=⟨g,o+i*el.size,none⟩:=Addr.add_lit _ _ _;rw[xQ];refine⟨λ_=>rfl,(css.take j).drop i,(ha.take j).drop i,λq v hq=>?_⟩;have eM:=All2.all_len ha;rw[CQ i (λc hc=>eM c (qe hc)),wk j eM,List.getElem?_drop,zf]at hq;split at hq
     .have:=hl _ v hq;simpa[Nat.add_assoc]using this
     .simp at hq
def ORep(R:Leaf->Value->Prop):Option Leaf->Option Value->Prop
 |none,none=>True
 |some l,some v=>R l v
 |_,_=>False
theorem uq{d:Nat}{o:Option Leaf}{vo:Option Value}{i:Int}{bx:Nat->BS}(h:bnd d o=some i)(ho:ORep (bZ S w γ bx) o vo)(hi:0<=i):VB d vo i.toNat:=by
 unfold bnd at h;split at h
 .cases vo with
  |none=>simp at h;exact .inl ⟨rfl,by omega⟩
  |some v=>exact ho.elim
 .cases vo with
  |none=>exact ho.elim
  |some v=>simp at h;rename_i k n;have hv:v = .int k n:=pw (S:=S) (w:=w) ho;refine .inr ⟨k,?_⟩;rw[hv,show (n:Int)=i from h,Int.toNat_of_nonneg hi]
 .simp at h
theorem jvV{P:Program}{E:Env}(hT:cO P E.T)(hR:Rel N np S0 w0 refs σ a w S γ){rd:Nat->BS}(bc:RdOk σ rd){t:TypeId}{ti:TyI}(ht:E.T t=some ti)
  {d:Nat}{x l:Leaf}{lo hi:Option Leaf}{vx:Value}{rK tu:Option Value}{u:Ups}(bg:∀k,iO (rd k)=true->σ.bx k = .free)(h:AD (parK np) rd ti d x lo hi=some (true,l,u))
  (hx:bZ S w γ σ.bx x vx)(iu:ORep (bZ S w γ σ.bx) lo rK)(ig:ORep (bZ S w γ σ.bx) hi tu) :
  ∃v S' γ',(Instr.sliceAt t vx rK tu none).run P w = .ok v w/\Rel N np S0 w0 refs (σ.upd u) a w S' γ'/\cd S' w γ' (σ.upd u).bx (.one l) v:=by
 unfold AD at h;split at h
 ·-- a datum
  rename_i el xs;split at h
  .rename_i bR;obtain⟨hd,_,te,c9,cV⟩:=oI hT ht bR;have bU:=nJ hT c9 cV;split at h
   .rename_i i j bj iB;simp only[j5,j9,jc,jo]at h;obtain⟨⟨h0,h1,h2⟩,rfl,rfl⟩:=h;have nh:=hx;obtain⟨ad,cap,hv,hle,_⟩:=hx;simp at hv;subst hv;have hlen:((List.length xs:Nat):Int)=Int.ofNat (List.length xs):=rfl;refine⟨_,S,γ,xP hd (s:=el.size) ?_ (uq bj iu h0) (uq iB ig (by omega)) (by omega) (by omega),hR,TM nh (by omega) (by omega),λ_=>rfl⟩;rw[kJ hT c9,bU]
   .simp at h
  .simp at h
 .rename_i k;split at h
  ·-- the tail
   split at h
   .rename_i e el xs f hk;split at h
    .rename_i bR;obtain⟨hd,_,te,c9,cV⟩:=oI hT ht bR;have bU:=nJ hT c9 cV;split at h
     .rename_i i bj;simp only[j5,j9,jc,jo]at h;obtain⟨⟨h0,h1⟩,rfl,rfl⟩:=h;have cb:=bc.nm hk;have hk:=bc.live hk;have hz:=hx.2.2 _ hk;obtain⟨css,aU,_⟩:=jH cb (hR.box k _ hk)
      obtain⟨ad,cap,hg,dh⟩:∃ad cap,γ k = .slice ad xs.length cap/\xs.length<=cap:=by
       rcases aU.2 with⟨hg,hn⟩|⟨g,cap,cur,hg,_,_,jI,_⟩
       .exact⟨none,0,by rw[hg,hn],by omega⟩
       .exact⟨_,cap,hg,jI⟩
      have ur:VB xs.length tu xs.length:=by
       cases tu with
       |none=>exact .inl ⟨rfl,rfl⟩
       |some v=>exact ig.elim
      subst hz;have aL:=xP (ad:=ad) (w:=w) hd (s:=el.size) (by rw[kJ hT c9,bU]) (uq bj iu h0) ur (by omega) dh;rw[<-hg]at aL;refine⟨_,S,γ,aL,hR,⟨hx.1,rfl,λb hb=>?_⟩,λ_=>rfl⟩;rw[show (σ.upd []).bx k=σ.bx k from rfl,hk]at hb;cases hb;exact⟨cb,by omega,ad,cap,hg,rfl⟩
     .simp at h
    .simp at h
   .simp at h
  .rename_i hh;split at h
   .rename_i e el xs f hk;split at h
    .rename_i bR;obtain⟨hd,_,te,c9,cV⟩:=oI hT ht bR;have bU:=nJ hT c9 cV;split at h
     .rename_i i j bj iB;have cb:=bc.nm hk;have hk:=bc.live hk;have hz:=hx.2.2 _ hk;split at h
      ·-- a wo: its head
       split at h
       .rename_i Hd;simp only[Option.isNone_iff_eq_none]at Hd;subst Hd;simp only[j5,j9,jc,jo]at h;obtain⟨⟨h0,h1⟩,rfl,rfl⟩:=h;obtain⟨css,aU,_⟩:=jH cb (hR.box k _ hk)
        have wq:VB 0 rK 0:=by
         cases rK with
         |none=>exact .inl ⟨rfl,rfl⟩
         |some v=>exact iu.elim
        have ur:=uq iB ig h0
        obtain⟨ad,cap,hg,dh,had⟩:∃ad cap,γ k = .slice ad xs.length cap/\xs.length<=cap/\(if cap=0 then ad else ad.map (·.add (0*el.size)))=ad:=by
         rcases aU.2 with⟨hg,hn⟩|⟨g,cap,cur,hg,_,_,jI,_⟩
         .exact⟨none,0,by rw[hg,hn],by omega,rfl⟩
         .exact⟨_,cap,hg,jI,by simp[Addr.add_lit]⟩
        have aL:=xP (ad:=ad) (w:=w) hd (s:=el.size) (by rw[kJ hT c9,bU]) wq ur (by omega) (show j.toNat<=cap by omega);rw[<-hg,had]at aL;subst hz;refine⟨_,S,γ,aL,hR,⟨hx.1,rfl,λb hb=>?_⟩,λ_=>rfl⟩;rw[show (σ.upd []).bx k=σ.bx k from rfl,hk]at hb;cases hb;exact⟨cb,by omega,ad,cap,hg,rfl⟩
       .simp at h
      rename_i oP;have oP:parK np k=false:=by simpa using oP
      split at h
      ·-- cut short
       rename_i gK;simp only[jc,Option.isNone_iff_eq_none,Bool.not_eq_eq_eq_not,jl]at gK;obtain⟨rfl,rfl⟩:=gK;split at h
       .rename_i ir;simp only[j5,j9,jc,jo]at h;obtain⟨⟨h0,h1⟩,rfl,rfl⟩:=h;have CU:=bg d ir;have tp:d≠k:=by rintro rfl;rw[CU]at hk;simp at hk
        obtain⟨css,aU,au,hS⟩:=jH cb (hR.box k _ hk);have eM:=All2.all_len au
        have wq:VB 0 rK 0:=by
         cases rK with
         |none=>exact .inl ⟨rfl,rfl⟩
         |some v=>exact iu.elim
        have ur:=uq iB ig h0;have bE:=KH hR hk;have oK:(σ.setB k .gone).bx d = .free:=by rw[du σ _ tp];exact CU
        have nP:j.toNat<=xs.length:=by omega
        have hcss:css.length=xs.length:=au.length.symm
        have key:∃v',(Instr.sliceAt t vx rK tu none).run P w = .ok v' w/\w.ownsRow 0 e el.size v' (List.take j.toNat xs).length (List.take j.toNat css).flatten/\blk v'=blk vx:=by
         rw[hz];have ak:(List.take j.toNat xs).length=j.toNat:=by simp;omega
         rcases aU.2 with⟨hg,hn⟩|⟨g,cap,cur,hg,_,hh,jI,lv,dE,eO⟩
         .rw[hg];have KN:j.toNat=0:=by omega
          refine⟨_,xP hd (s:=el.size) (len:=0) (by rw[kJ hT c9,bU]) wq (by rw[hn]at ur;exact ur) (by omega) (by omega),?_,by simp;rfl⟩;rw[KN];simpa using World.ownsRow_nil w 0 e el.size
         .rw[hg];refine⟨_,xP hd (s:=el.size) (by rw[kJ hT c9,bU]) wq ur (by omega) (by omega),?_,?_⟩
          .refine⟨?_,.inr ⟨g,cap,cur,?_,kf _,hh,by omega,lv,dE,?_⟩⟩
           .rw[wk _ eM,qn,aU.1,ak];exact Nat.min_eq_left (jw _ nP)
           .rw[ak];by_cases hc:cap=0
            .simp[hc]
            .simp[hc,Addr.add_lit]
           .rw[ak,wk _ eM,<-eO,ya,Nat.min_eq_left (jw _ nP)]
          .by_cases hc:cap=0
           .simp[hc];rfl
           .simp[hc,Addr.add_lit];rfl
        obtain⟨v',aL,cg,hblk⟩:=key
        have nQ:∀g,blk v'=some g->Own w0 refs g/\(∀k' b,(σ.setB k .gone).bx k' = .live b->blk (γ k')≠some g)/\g<w.heap.size:=by
         intro g hg;rw[hblk,hz]at hg;refine⟨?_,λk' b' aT ar=>?_,me (hR.box k _ hk) hg⟩
         .rcases hR.own k _ g hk hg with h|h
          .exact h
          .rw[oP]at h;simp at h
         .have cu:k'≠k:=by rintro rfl;rw[gY]at aT;simp at aT
          rw[du σ _ cu]at aT;exact hR.apart k' k _ _ g cu aT hk ar hg
        obtain⟨dT,gy⟩:=Bb bE oK (hm:=cb) (w':=w) (S':=S) (v':=v') (e:=e) (el:=el) (zs:=List.take j.toNat xs) (frz:=false) (css:=List.take j.toNat css) (.refl S w) (λg hg bk=>rfl) (js _) nQ
         (λg o hs=> .inl hs) rfl rfl rfl cg (au.take _) (λg hg=>⟨λ_=>(hS g (by rw[<-hz,<-hblk];exact hg)).1 rfl,by simp⟩) (λg hg=>hR.kw_live hk (by rw[<-hz,<-hblk];exact hg))
        exact⟨v',S,_,aL,dT,gy⟩
       .simp at h
      ·-- shared
       simp only[j5,j9,jc,jo]at h;obtain⟨⟨h0,h1,h2⟩,rfl,rfl⟩:=h;obtain⟨S',bY,aM,bS⟩:=KD hR cb hk oP;have mA:=bS;obtain⟨ad,cap,hv,hle,_⟩:=bS;simp at hv;rw[hv]at mA;refine⟨_,S',γ,by rw[hz,hv];exact xP hd (s:=el.size) (by rw[kJ hT c9,bU]) (uq bj iu h0) (uq iB ig (by omega)) (by omega) (by omega),bY,TM mA (by omega) (by omega),λ_=>rfl⟩
     .simp at h
    .simp at h
   .simp at h
 ·-- of a head
  rename_i k m;split at h
  .rename_i e el xs f hk;split at h
   .rename_i bR;obtain⟨bR,hhs⟩:=bR;obtain⟨hd,_,te,c9,cV⟩:=oI hT ht bR;have bU:=nJ hT c9 cV;split at h
    .rename_i i j bj iB;simp only[j5,j9,jc,jo]at h;obtain⟨⟨h0,h1,h2⟩,rfl,rfl⟩:=h;have cb:=bc.nm hk;have hk:=bc.live hk;obtain⟨_,hm,ad,cap,hg,hz⟩:=hx.2.2 _ hk;obtain⟨css,aU,_⟩:=GY hg (hR.box k _ hk)
     have dh:xs.length<=cap:=by
      rcases aU.2 with⟨ar,hn⟩|⟨g,gH,cur,ar,_,_,jI,_⟩
      .omega
      .rw[hg]at ar;simp only[Value.slice.injEq,qj]at ar;omega
     have ur:VB m tu xs.length:=by
      have:=uq iB ig (by omega);rw[h2,j8]at this;rcases this with⟨h3,_⟩|h3
      .cases hi with
       |none=>simp at hhs
       |some y=>subst h3;exact ig.elim
      .exact .inr h3
     have aL:=xP (ad:=ad) (w:=w) hd (s:=el.size) (by rw[kJ hT c9,bU]) (uq bj iu h0) ur (by omega) dh;subst hz;refine⟨_,S,γ,aL,hR,⟨hx.1,rfl,λb hb=>?_⟩,λ_=>rfl⟩;rw[show (σ.upd []).bx k=σ.bx k from rfl,hk]at hb;cases hb;exact⟨cb,by omega,ad,cap,hg,rfl⟩
    .simp at h
   .simp at h
  .simp at h
 .simp at h
theorem jvW{P:Program}{E:Env}(hT:cO P E.T)(hR:Rel N np S0 w0 refs σ a w S γ){rd:Nat->BS}(bc:RdOk σ rd){t:TypeId}{ti:TyI}(ht:E.T t=some ti)
  {x mx:Leaf}{lo hi:Option Leaf}{vx vm:Value}{rK tu:Option Value}(h:AE rd ti x lo hi mx=some true)
  (hx:bZ S w γ σ.bx x vx)(iu:ORep (bZ S w γ σ.bx) lo rK)(ig:ORep (bZ S w γ σ.bx) hi tu)(nR:bZ S w γ σ.bx mx vm) :
  ∃v,(Instr.sliceAt t vx rK tu (some vm)).run P w = .ok v w:=by
 unfold AE at h;split at h
 case h_2=>simp at h
 rename_i k k1 i k2 j k3 m;split at h
 case h_2=>simp at h
 rename_i e el xs f hk;split at h
 case isFalse=>simp at h
 rename_i bR;simp only[j5,jc,jo]at h;obtain⟨h0,h1,h2,h3⟩:=h;obtain⟨hd,_,te,c9,cV⟩:=oI hT ht bR;have bU:=nJ hT c9 cV;have cb:=bc.nm hk;have hk:=bc.live hk;have hz:=hx.2.2 _ hk;cases rK with
 |none=>exact iu.elim
 |some vl=>
 cases tu with
 |none=>exact ig.elim
 |some vh=>
 have e1:vl = .int k1 i:=pw (S:=S) (w:=w) iu;have e2:vh = .int k2 j:=pw (S:=S) (w:=w) ig;have e3:vm = .int k3 m:=pw (S:=S) (w:=w) nR;subst e1 e2 e3;obtain⟨css,aU,_⟩:=jH cb (hR.box k _ hk);have he:=TL hd;have gx:P.underlying t=some (.slice (P.elem t)):=by rw[he];exact hd
 rw[run_sliceAt_slice w t _ _ _ _ gx];have dC:(sizeOf (P.elem t)).run P w = .ok el.size w:=by rw[he];rw[kJ hT c9,bU]
 have key:∀ad n cap,(m:Int)<=(cap:Nat)->∃v,(Instr.slice t (.slice ad n cap) (some (.int k1 i)) (some (.int k2 j)) (some (.int k3 m))).run P w = .ok v w:=by intro ad n cap hc;rw[run_slice_lhm w t ad n cap gx _ _ _ _ _ _ h0 h1 h2 hc,dC];exact⟨_,rfl⟩
 rcases aU.2 with⟨hg,hn⟩|⟨g,cap,cur,hg,_,hh,jI,_⟩
 .rw[hz,hg];exact key _ _ _ (qs h3 (by omega))
 .rw[hz,hg];exact key _ _ _ (qs h3 (by omega))
theorem TN(hR:Rel N np S0 w0 refs σ a w S γ){x:Leaf}{k i e:Nat}{el:Ty}{xs:List el.den}{f:Bool}{vx:Value}(h:GO x=some (k,i))(cb:isM e=false)(hk:σ.bx k = .live (.lst e el xs f))
  (hx:bZ S w γ σ.bx x vx):i<=xs.length/\((xs.length=0/\vx = .slice none 0 0)\/
   ∃g cap,γ k = .slice (some ⟨g,0,none⟩) xs.length cap/\xs.length<=cap/\vx = .slice (some ⟨g,if cap=i then 0 else i*el.size,none⟩) (xs.length-i) (cap-i)):=by
 obtain⟨css,aU,au,hS⟩:=jH cb (hR.box k _ hk);unfold GO at h;split at h
 .simp only[j5,j9]at h;obtain⟨rfl,rfl⟩:=h;have hz:=hx.2.2 _ hk;refine⟨kf _,?_⟩;rcases aU.2 with⟨hg,hn⟩|⟨g,cap,cur,hg,_,hh,jI,lv,dE,eO⟩
  .exact .inl ⟨hn,by rw[hz,hg]⟩
  .exact .inr ⟨g,cap,hg,jI,by rw[hz,hg];simp⟩
 .rename_i k' i';simp only[j5,j9]at h;obtain⟨rfl,rfl⟩:=h;obtain⟨_,hi,ad,cap,ar,hv⟩:=hx.2.2 _ hk;refine⟨hi,?_⟩;rcases aU.2 with⟨hg,hn⟩|⟨g,gH,cur,hg,_,hh,jI,lv,dE,eO⟩
  .rw[hg]at ar;simp only[Value.slice.injEq]at ar;obtain⟨rfl,_,rfl⟩:=ar;exact .inl ⟨hn,by rw[hv];simp;omega⟩
  .rw[hg]at ar;simp only[Value.slice.injEq,qj]at ar;obtain⟨rfl,rfl⟩:=ar;refine .inr ⟨g,gH,hg,jI,?_⟩;rw[hv];by_cases hc:gH=i'
   .rw[if_pos hc,if_pos hc]
   .rw[if_neg hc,if_neg hc];simp[Addr.add_lit]
 .simp at h
theorem KO{P:Program}(hR:Rel N np S0 w0 refs σ a w S γ){k i e g cap:Nat}{el:Ty}{xs zs:List el.den}(hk:σ.bx k = .live (.lst e el xs false))(hg:γ k = .slice (some ⟨g,0,none⟩) xs.length cap)
  {cz:List (List Value)}(hz:All2 (λx c=>Rep S w el x c) zs cz)(hl:i+zs.length<=xs.length) :
  ∃w',(storeCells ⟨g,i*el.size,none⟩ cz.flatten).run P w = .ok () w'/\Rel N np S0 w0 refs (σ.setB k (.live (.lst e el (List.take i xs++(zs++List.drop (i+zs.length) xs)) false))) a w' S γ:=by
 have cb:=Ta hg (hR.box k _ hk);obtain⟨css,aU,au,hS⟩:=jH cb (hR.box k _ hk);have qP:cz.flatten.length=zs.length*el.size:=All2.flatten_length (λx c hx=>Rep.length el x c hx) hz;have h1:∀u∈cz.flatten,One u:=by intro u hu;obtain⟨c,hc,xE⟩:=List.mem_flatten.1 hu;obtain⟨x,_,hx⟩:=hz.mem_right c hc;exact Rep.one el x c hx u xE
 rcases aU.2 with⟨ar,hn⟩|⟨g',gH,cur,ar,_,hh,jI,lv,dE,eO⟩
 .rw[hg]at ar;simp at ar
 rw[hg]at ar;simp only[Value.slice.injEq,j5,Addr.mk.injEq,and_true,qj]at ar;obtain⟨rfl,rfl⟩:=ar;have fD:i*el.size+zs.length*el.size<=xs.length*el.size:=by rw[<-Nat.add_mul];exact jw _ hl
 have gL:xs.length*el.size<=cap*el.size:=jw _ jI;have aM:=run_storeCells_at P g (i*el.size) e cz.flatten 0 cur w hh (by rw[qP,dE];omega) h1;simp only[Nat.add_zero]at aM;refine⟨_,aM,?_⟩;have eM:=All2.all_len au;have KP:=All2.all_len hz;have wj:∀o,¬S g o:=(hS g (by rw[hg];rfl)).1 rfl;refine CM hR hk (by rw[hg];rfl) wj (b':= .lst e el _ false) ⟨rfl,rfl,λ_=>by simp;omega⟩ hh (λjU cM=>?_);have hlen:(List.take i xs++(zs++List.drop (i+zs.length) xs)).length=xs.length:=by simp;omega
 refine CE cb ⟨css.take i++(cz++css.drop (i+zs.length)),⟨?_,.inr ⟨g,cap,_,?_,kf _,setRow_heap w g cur _ e (0,0) hh,by rw[hlen];exact jI,lv,?_,?_⟩⟩,?_,λg' ar=>?_⟩
 .rw[hlen,xK (m:=el.size)]
  .have:=au.length;have:=hz.length;simp only[jg,qn,vi];congr 1;omega
  .intro d hd;simp only[jn]at hd;rcases hd with hd|hd|hd
   .exact eM d (qe hd)
   .exact KP d hd
   .exact eM d (zm hd)
 .rw[hlen];exact hg
 .simp only[vv,jg,qn,vi,qg];omega
 .rw[hlen];simp only[yh,wk i eM,CQ _ eM,<-eO];have hA:(cur.toList.take (i*el.size)).length=i*el.size:=by simp;omega
  rw[jj,List.take_append,hA,List.take_of_length_le (by omega),ya,Nat.min_eq_left (by omega)];congr 1;rw[List.take_append,qP,List.take_of_length_le (by omega),Nat.add_mul];congr 1;rw[List.drop_take];congr 1;omega
 .exact((au.mono (λx c hx=>Rep.keep cM _ _ _ hx)).take _).append ((hz.mono (λx c hx=>Rep.keep cM _ _ _ hx)).append ((au.mono (λx c hx=>Rep.keep cM _ _ _ hx)).drop _))
 .rw[hg]at ar;simp[blk]at ar;subst ar;exact⟨λ_=>wj,by simp⟩
theorem TO{σ:St}{k:Nat}{b:BS}(h:σ.bx k=b):σ.setB k b=σ:=by
 unfold St.setB;congr 1;funext j;split
 .rename_i hj;subst hj;exact h.symm
 .rfl
theorem jxr{P:Program}{E:Env}(hT:cO P E.T)(hR:Rel N np S0 w0 refs σ a w S γ){rd:Nat->BS}(bc:RdOk σ rd){t ty:TypeId}{ti:TyI}(ht:E.T t=some ti)
  {x y l:Leaf}{u:Ups}{vx vy:Value}(h:AF rd ti.ty x y=some (l,u))(hx:bZ S w γ σ.bx x vx)(hy:bZ S w γ σ.bx y vy) :
  ∃v w',(Builtin.copy_ #[t,t] ty #[vx,vy]).run P w = .ok v w'/\Rel N np S0 w0 refs (σ.upd u) a w' S γ/\cd S w' γ (σ.upd u).bx (.one l) v:=by
 unfold AF at h;split at h
 .rename_i k i xR;split at h
  .rename_i e el xs hk;split at h
   .rename_i bR;split at h
    .rename_i ys ij;simp only[j5,j9]at h;obtain⟨rfl,rfl⟩:=h;have cb:=bc.nm hk;have hk:=bc.live hk;obtain⟨hd,bJ,te,c9,cV⟩:=oI hT ht bR;have bU:=nJ hT c9 cV;have fC:(sizeOf ti.elem).run P w = .ok el.size w:=by rw[kJ hT c9,bU]
     obtain⟨ad,c,cy,G9,fo,xN,dK⟩:=Tz hR bc ij hy;subst G9;obtain⟨hi,cT⟩:=TN hR xR cb hk hx;have CV:=All2.all_len xN;have nS:cy.length=ys.length:=xN.length.symm;have kL:(List.take (xs.length-i) ys).length=min ys.length (xs.length-i):=by simp;omega
     have xS:over xs i ys=List.take i xs++(List.take (xs.length-i) ys++List.drop (i+(List.take (xs.length-i) ys).length) xs):=by
      unfold over;congr 2;rw[kL];by_cases h:ys.length<=xs.length-i
      .rw[Nat.min_eq_left h]
      .rw[Nat.min_eq_right (by omega),jd (by omega),jd (by omega)]
     have wu:(Builtin.firstCells el.size (min ys.length (xs.length-i)) (.slice ad ys.length c)).run P w = .ok (List.take (xs.length-i) cy).flatten.toArray w:=by
      cases ad with
      |none=>have h0:=(fo rfl).1;have:cy=[]:=kb (by omega);subst this;simp[Builtin.firstCells]
      |some b=>
       have e1:(List.take (xs.length-i) cy).flatten.length=min ys.length (xs.length-i)*el.size:=by rw[xK (m:=el.size) (λc hc=>CV c (qe hc)),qn,nS,Nat.min_comm]
       have:=run_loadCells_list (P:=P) w b (List.take (xs.length-i) cy).flatten (λj v hj=>by
        rw[wk _ CV,zf]at hj;split at hj
        .exact dK b rfl j v hj
        .simp at hj)
       rw[e1]at this;simpa[Builtin.firstCells]using this
     have aL:∀base dl dc w',vx = .slice base dl dc->dl=xs.length-i->(base=none->w'=w)->(∀ab,base=some ab->(storeCells ab (List.take (xs.length-i) cy).flatten).run P w = .ok () w')->
       (Builtin.copy_ #[t,t] ty #[vx,.slice ad ys.length c]).run P w = .ok (goInt ((min ys.length (xs.length-i):Nat):Int)) w':=by
      intro base dl dc w' hv uu eZ gG;subst hv uu;have nT:Nat.min ys.length (xs.length-i)=min ys.length (xs.length-i):=rfl;cases base with
      |none=>simp[Builtin.copy_,run_underlying hd,Builtin.lenOf,fC,nT,wu,eZ rfl]
      |some ab=>simp[Builtin.copy_,run_underlying hd,Builtin.lenOf,fC,nT,wu,gG ab rfl]
     by_cases hn:min ys.length (xs.length-i)=0
     .have hz:List.take (xs.length-i) ys=[]:=kb (by rw[kL];exact hn);have iV:(List.take (xs.length-i) cy).flatten=[]:=by have:List.take (xs.length-i) cy=[]:=kb (by rw[qn,nS];omega);rw[this];rfl
      have KQ:over xs i ys=xs:=by rw[xS,hz];simp
      refine⟨_,w,?_,?_,⟨rfl,λ_=>rfl⟩⟩
      .rcases cT with⟨h0,hv⟩|⟨g,cap,hg,dh,hv⟩
       .exact aL none 0 0 w hv (by omega) (λ_=>rfl) (λab bG=>by simp at bG)
       .refine aL _ _ _ w hv rfl (λ_=>rfl) (λab bG=>?_);rw[iV];rfl
      .show Rel N np S0 w0 refs (σ.setB k (.live (.lst e el (over xs i ys) false))) a w S γ;rw[KQ,TO hk];exact hR
     .rcases cT with⟨h0,hv⟩|⟨g,cap,hg,dh,hv⟩
      .omega
      .have nO:cap≠i:=by omega
       rw[if_neg nO]at hv;obtain⟨w',aM,dT⟩:=KO (P:=P) hR hk hg (i:=i) (xN.take (xs.length-i)) (by rw[kL];omega);refine⟨_,w',aL _ _ _ w' hv rfl (λh=>by simp at h) (λab bG=>?_),?_,⟨rfl,λ_=>rfl⟩⟩
       .simp only[j5]at bG;subst bG;exact aM
       .show Rel N np S0 w0 refs (σ.setB k (.live (.lst e el (over xs i ys) false))) a w' S γ;rw[xS];exact dT
    .simp at h
   .simp at h
  .simp at h
 .simp at h
theorem jvX{P:Program}{E:Env}(hT:cO P E.T)(hR:Rel N np S0 w0 refs σ a w S γ){rd:Nat->BS}(bc:RdOk σ rd){t ty:TypeId}{ti:TyI}(ht:E.T t=some ti)
  {x:Leaf}{u:Ups}{vx:Value}(h:AG rd ti.ty x=some u)(hx:bZ S w γ σ.bx x vx) :
  ∃v w',(Builtin.clear_ #[t] ty #[vx]).run P w = .ok v w'/\Rel N np S0 w0 refs (σ.upd u) a w' S γ:=by
 unfold AG at h;split at h
 .rename_i k i xR;split at h
  .rename_i e el xs hk;split at h
   .rename_i bR;simp only[j5]at h;subst h;have cb:=bc.nm hk;have hk:=bc.live hk;obtain⟨hd,bJ,te,c9,cV⟩:=oI hT ht bR;have bU:=nJ hT c9 cV;obtain⟨z,hz,iV⟩:=CH hT c9 w cV;obtain⟨hi,cT⟩:=TN hR xR cb hk hx;by_cases hn:xs.length-i=0
    .have xS:List.take i xs++List.replicate (xs.length-i) el.dflt=xs:=by rw[hn];simp[List.take_of_length_le (show xs.length<=i by omega)]
     refine⟨.tuple #[],w,?_,?_⟩
     .rcases cT with⟨h0,hv⟩|⟨g,cap,hg,dh,hv⟩
      .simp[Builtin.clear_,run_underlying hd,hv]
      .rw[hn]at hv;simp[Builtin.clear_,run_underlying hd,hv]
     .show Rel N np S0 w0 refs (σ.setB k (.live (.lst e el (List.take i xs++List.replicate (xs.length-i) el.dflt) false))) a w S γ;rw[xS,TO hk];exact hR
    .rcases cT with⟨h0,hv⟩|⟨g,cap,hg,dh,hv⟩
     .omega
     .have nO:cap≠i:=by omega
      rw[if_neg nO]at hv
      have TP:All2 (λx c=>Rep S w el x c) (List.replicate (xs.length-i) el.dflt) (List.replicate (xs.length-i) (kI el)):=by
       have h0:=qN (S:=S) (w:=w) el
       have:∀n,All2 (λx c=>Rep S w el x c) (List.replicate n el.dflt) (List.replicate n (kI el)):=by
        intro n;induction n with
        |zero=>exact trivial
        |succ n ih=>exact⟨h0,ih⟩
       exact this _
      obtain⟨w',aM,dT⟩:=KO (P:=P) hR hk hg (i:=i) TP (by simp;omega);refine⟨.tuple #[],w',?_,?_⟩
      .have hzp:0<z.cells.size:=by have:=KK iV;omega
       have dt:(Builtin.zeroCells z.cells (xs.length-i)).toList=(List.replicate (xs.length-i) (kI el)).flatten:=by rw[<-iV];exact TE z.cells (xs.length-i) hzp
       rw[hv];obtain⟨m,hm⟩:∃m,xs.length-i=m+1:=⟨xs.length-i-1,by omega⟩;rw[hm]at dt aM ⊢;simp[Builtin.clear_,run_underlying hd,hz,dt,aM]
      .show Rel N np S0 w0 refs (σ.setB k (.live (.lst e el (List.take i xs++List.replicate (xs.length-i) el.dflt) false))) a w' S γ;have:List.drop (i+(List.replicate (xs.length-i) el.dflt).length) xs=[]:=jd (by simp;omega);rw[this,qm]at dT;exact dT
   .simp at h
  .simp at h
 .simp at h
theorem jAh{P:Program}{E:Env}(hT:cO P E.T)(hR:Rel N np S0 w0 refs σ a w S γ){rd:Nat->BS}(bc:RdOk σ rd){t ty:TypeId}{ti:TyI}(ht:E.T t=some ti){el:Ty}(bR:ti.ty=some (.list el))
  {s x v:Leaf}{u:Ups}{vs vx:Value}(h:appH rd ti.elem el s x=some (true,v,u))(hs:bZ S w γ σ.bx s vs)(hx:bZ S w γ σ.bx x vx) :
  ∃z w',(Builtin.append_ #[t,t] ty #[vs,vx]).run P w = .ok z w'/\Rel N np S0 w0 refs (σ.upd u) a w' S γ/\bZ S w' γ (σ.upd u).bx v z/\One z:=by
 unfold appH at h;split at h
 case h_2=>simp at h
 rename_i k i k' j;split at h
 case isFalse=>simp at h
 rename_i cu;subst cu;split at h
 case h_2=>simp at h
 rename_i e b xs hk;split at h
 case isFalse=>simp at h
 rename_i hb;obtain⟨hb,he⟩:=hb;subst hb;subst he;simp only[j5,j9,jo]at h;obtain⟨dF,rfl,rfl⟩:=h;obtain⟨hd,_,te,c9,cV⟩:=oI hT ht bR;have bU:=nJ hT c9 cV;obtain⟨inf,d,hi,_,kK,_⟩:=nf hT c9;have lJ:inf.size=b.size:=by rw[kK,<-bU]
 have cb:=bc.nm hk;have hk:=bc.live hk;obtain⟨_,gM,ad,cap,hg,lG⟩:=hs.2.2 _ hk;obtain⟨_,wv,ad',gH,ar,tt⟩:=hx.2.2 _ hk;rw[hg]at ar;simp only[Value.slice.injEq,qj]at ar;obtain⟨rfl,rfl⟩:=ar;obtain⟨css,aU,au,hS⟩:=GY hg (hR.box k _ hk);have eM:=All2.all_len au;have oQ:(List.take i xs++(List.drop j xs++List.drop (i+(xs.length-j)) xs)).length=xs.length:=by simp;omega
 have kN:∀(w':World),bZ S w' γ (σ.setB k (.live (.lst ti.elem b (List.take i xs++(List.drop j xs++List.drop (i+(xs.length-j)) xs)) false))).bx (.hd k (i+(xs.length-j))) (.slice ad (i+(xs.length-j)) cap):=by intro w';refine⟨by rw[gY];simp,rfl,λb' aT=>?_⟩;rw[gY]at aT;cases aT;exact⟨cb,by rw[oQ];omega,ad,cap,by rw[oQ];exact hg,rfl⟩
 rcases aU.2 with⟨jV,hn⟩|⟨g,cap2,cur,jV,_,hh,jI,lv,dE,eO⟩
 .rw[hg]at jV;simp only[Value.slice.injEq]at jV;obtain⟨rfl,_,rfl⟩:=jV;have uj:xs=[]:=kb hn;subst uj;have He:i=0:=by simpa using gM
  have KN:j=0:=by simpa using wv
  subst He KN;have aL:=run_append_owned_none (P:=P) w 0 t ty ti.elem inf b.size hd hi (.slice none 0 0) 0 [] (World.ownsRow_nil w 0 ti.elem b.size)
  have hid:σ.setB k (.live (.lst ti.elem b ([]:List b.den) false))=σ:=by
   show St.mk σ.sl _=σ
   have:(λj=>if j=k then BS.live (.lst ti.elem b ([]:List b.den) false) else σ.bx j)=σ.bx:=by
    funext j
    by_cases hj:j=k
    .subst hj;simp[hk]
    .simp[hj]
   rw[this]
  refine⟨_,w,by rw[lG,tt];exact aL,?_,kN w,rfl⟩;show Rel N np S0 w0 refs (σ.setB k (.live (.lst ti.elem b ([]:List b.den) false))) a w S γ;rw[hid];exact hR
 .rw[hg]at jV;simp only[Value.slice.injEq,qj]at jV;obtain⟨rfl,rfl⟩:=jV;obtain⟨w',aM,dT⟩:=KO (P:=P) (i:=i) hR hk hg (au.drop j) (by simp;omega);have qP:(css.drop j).flatten.length=(xs.length-j)*b.size:=by have:=All2.flatten_length (λx c hx=>Rep.length b x c hx) (au.drop j);simpa using this
  have h1:∀u∈(css.drop j).flatten,One u:=by intro u hu;obtain⟨c,hc,xE⟩:=List.mem_flatten.1 hu;obtain⟨x,_,hx⟩:=(au.drop j).mem_right c hc;exact Rep.one b x c hx u xE
  have fD:i*b.size+(xs.length-j)*b.size<=xs.length*b.size:=by rw[<-Nat.add_mul];exact jw _ (by omega)
  have gL:xs.length*b.size<=cap*b.size:=jw _ jI;have cM:=run_storeCells_at P g (i*b.size) _ (css.drop j).flatten 0 cur w hh (by rw[qP,dE];omega) h1;simp only[Nat.add_zero]at cM;have hw:w'=w.setRow g (cur.toList.take (i*b.size)++(css.drop j).flatten++cur.toList.drop (i*b.size+(css.drop j).flatten.length)).toArray:=by have:=aM.symm.trans cM;simpa using this
  have dt:∀q u,(css.drop j).flatten[q]? = some u->w.cell? ((⟨g,if cap=j then 0 else j*b.size,none⟩:Addr).add q)=some u:=by
   intro q u hq;have TQ:q<(xs.length-j)*b.size:=by rw[<-qP];exact(jx.1 hq).1
   have hc:¬cap=j:=by
    intro hc;have:xs.length-j=0:=by omega
    rw[this]at TQ;simp at TQ
   rw[if_neg hc,Addr.add_lit];rw[CQ j eM,List.getElem?_drop]at hq;have:=aU.cells (g:=g) (by rw[hg];rfl) _ u hq;rwa[Addr.add_lit,kg]at this
  have aL:=run_append_room (P:=P) w t ty ti.elem inf hd hi g i cap cur (by exact hh) ⟨g,if cap=j then 0 else j*b.size,none⟩ (xs.length-j) (cap-j) (css.drop j).flatten (by rw[lJ];exact qP) dt h1 (by omega)
   (by rw[lJ,qP,dE];omega)
  have KR:vx = .slice (some ⟨g,if cap=j then 0 else j*b.size,none⟩) (xs.length-j) (cap-j):=by
   rw[tt];by_cases hc:cap=j
   .rw[if_pos hc,if_pos hc]
   .rw[if_neg hc,if_neg hc];simp[Addr.add_lit]
  refine⟨_,w',by rw[lG,KR,aL,hw,lJ],?_,kN w',rfl⟩;have:(List.drop j xs).length=xs.length-j:=by simp
  rw[this]at dT;exact dT
theorem jAi(hR:Rel N np S0 w0 refs σ a w S γ){k d e m:Nat}{el:Ty}{xs:List el.den}(hk:σ.bx k = .live (.lst e el xs false))(oP:parK np k=false)(CU:σ.bx d = .free){ad:Option Addr}{cap:Nat}(hm:m<=xs.length)
  (hg:γ k = .slice ad xs.length cap) :
  ∃γ',Rel N np S0 w0 refs (σ.upd [(k,.gone),(d,.live (.lst e el (List.take m xs) false))]) a w S γ'/\cd S w γ' (σ.upd [(k,.gone),(d,.live (.lst e el (List.take m xs) false))]).bx (.one (.ol d)) (.slice ad m cap):=by
 have tp:d≠k:=by rintro rfl;rw[CU]at hk;simp at hk
 have cb:=Ta hg (hR.box k _ hk);obtain⟨css,aU,au,hS⟩:=jH cb (hR.box k _ hk);have eM:=All2.all_len au;have bE:=KH hR hk;have oK:(σ.setB k .gone).bx d = .free:=by rw[du σ _ tp];exact CU
 have ak:(List.take m xs).length=m:=by simp;omega
 have hblk:blk (.slice ad m cap)=blk (γ k):=by rw[hg];cases ad<;>rfl
 have cg:w.ownsRow 0 e el.size (.slice ad m cap) (List.take m xs).length (List.take m css).flatten:=by
  refine⟨?_,?_⟩
  .rw[wk _ eM,qn,aU.1,ak];exact Nat.min_eq_left (jw _ hm)
  .rcases aU.2 with⟨ar,hn⟩|⟨g,gH,cur,ar,_,hh,jI,lv,dE,eO⟩
   .rw[hg]at ar;simp only[Value.slice.injEq]at ar;obtain⟨rfl,_,rfl⟩:=ar;exact .inl ⟨by rw[show m=0 by omega],by omega⟩
   .rw[hg]at ar;simp only[Value.slice.injEq,qj]at ar;obtain⟨rfl,rfl⟩:=ar;refine .inr ⟨g,cap,cur,by rw[ak],kf _,hh,by omega,lv,dE,?_⟩;rw[ak,wk _ eM,<-eO,ya,Nat.min_eq_left (jw _ hm)]
 have nQ:∀g,blk (.slice ad m cap)=some g->Own w0 refs g/\(∀k' b,(σ.setB k .gone).bx k' = .live b->blk (γ k')≠some g)/\g<w.heap.size:=by
  intro g hg;rw[hblk]at hg;refine⟨?_,λk' b' aT ar=>?_,me (hR.box k _ hk) hg⟩
  .rcases hR.own k _ g hk hg with h|h
   .exact h
   .rw[oP]at h;simp at h
  .have cu:k'≠k:=by rintro rfl;rw[gY]at aT;simp at aT
   rw[du σ _ cu]at aT;exact hR.apart k' k _ _ g cu aT hk ar hg
 obtain⟨dT,gy⟩:=Bb bE oK (hm:=cb) (w':=w) (S':=S) (v':= .slice ad m cap) (e:=e) (el:=el) (zs:=List.take m xs) (frz:=false) (css:=List.take m css) (.refl S w) (λg hg bk=>rfl) (js _) nQ
  (λg o hs=> .inl hs) rfl rfl rfl cg (au.take _) (λg hg=>⟨λ_=>(hS g (by rw[<-hblk];exact hg)).1 rfl,by simp⟩) (λg hg=>hR.kw_live hk (by rw[<-hblk];exact hg))
 exact⟨_,dT,gy⟩
end
section
variable{N:NT}{np:Nat}{S0:aP}{w0:World}{refs:Refs}{σ:St}{a:Go.Act}{w:World}{S:aP}{γ:Nat->Value}
theorem jxs{el:Ty}{z:Value}(hz:z.cells.toList=kI el)(n:Nat)(bJ:0<el.size) :
  ∃css,All2 (λx c=>Rep S w el x c) (List.replicate n el.dflt) css/\((Array.range (n*z.cells.size)).map (λi=>z.cells[i%z.cells.size]!)).toList=css.flatten:=by
 refine⟨List.replicate n (kI el),?_,?_⟩
 .have hz:=qN (S:=S) (w:=w) el;induction n with
  |zero=>exact trivial
  |succ n ih=>exact⟨hz,ih⟩
 .rw[TE z.cells n (by rw[KK hz];exact bJ),hz]
theorem jnr{P:Program}{E:Env}(hT:cO P E.T)(hR:Rel N np S0 w0 refs σ a w S γ){rdf:Nat->BS}(bL:RdF np σ rdf){t:TypeId}{ti:TyI}(ht:E.T t=some ti)
  {el:Ty}(bR:ti.ty=some (.list el)){len d:Nat}{ps:List (Nat×Cel)}{vs:Array (Nat×Value)}{xs:List el.den}{u:Ups}(hlen:len*el.size<=16777216)
  (hP:All2 (λp v=>p.1=v.1/\cd S w γ σ.bx p.2 v.2) ps vs.toList)(h:kF rdf el (List.replicate len el.dflt) [] ps=some (xs,u))(hd:σ.bx d = .free) :
  ∃v' w' S' γ',(Instr.buildSlice t len vs).run P w = .ok v' w'/\Rel N np S0 w0 refs (σ.upd (u++[(d,.live (.lst ti.elem el xs false))])) a w' S' γ'/\
   cd S' w' γ' (σ.upd (u++[(d,.live (.lst ti.elem el xs false))])).bx (.one (.ol d)) v':=by
 obtain⟨px,bJ,te,c9,cV⟩:=oI hT ht bR;have bU:=nJ hT c9 cV;obtain⟨hf,eQ⟩:=KL bL hR.box bJ ps vs.toList hP h .nil;obtain⟨S1,bE,dr,fB,dS⟩:=qM u σ S hR hf;obtain⟨z,hz,iV⟩:=CH hT c9 w cV;have kM:z.cells.size=el.size:=KK iV;obtain⟨KS,CW,iS⟩:=jxs (S:=S1) (w:=w) iV len bJ;obtain⟨bB,lI,gJ,au,dt⟩:=eQ S1 dr fB KS _ CW iS
 have ni:xs.length=len:=by
  have key:∀(ps:List (Nat×Cel)){xs dg:List el.den}{u u':Ups},kF rdf el xs u ps=some (dg,u')->dg.length=xs.length:=by
   intro ps;induction ps with
   |nil=>intro xs dg u u' h;simp[kF]at h;rw[h.1]
   |cons p ps ih=>
    intro xs dg u u' h;obtain⟨i,c⟩:=p;simp only[kF]at h;split at h
    .split at h
     .rw[ih h];simp
     .simp at h
    .simp at h
  rw[key ps h];simp
 have dE:bB.size=len*el.size:=by have:=All2.flatten_length (λx c hx=>Rep.length el x c hx) au;rw[<-dt,ni]at this;simpa using this
 have hzero:(if len*ti.size=0 then (Pure.pure #[]:Sem (Array Value)) else (do pure (<-zeroValue ti.elem).cells))=(if len*ti.size=0 then Pure.pure #[] else (do pure (<-zeroValue ti.elem).cells)):=rfl
 have aL:(Instr.buildSlice t len vs).run P w = .ok (.slice (some ⟨w.heap.size,0,none⟩) len len) (w.alloc (.cells bB ti.elem)):=by
  have cY:¬len*te.size>2^24:=by rw[<-bU];omega
  simp only[Instr.buildSlice,Sem.run_bind,run_underlying px,Result.andThen_ok,kJ hT c9,Sem.run_ite,if_neg cY];by_cases h0:len*te.size=0
  .have iI:len=0:=by
    rw[<-bU]at h0;rcases Nat.mul_eq_zero.1 h0 with h|h
    .exact h
    .omega
   subst iI
   have rL:Instr.fill (λi=>some (i*te.size,te.size)) ((Array.range (0*te.size)).map (λi=>(#[]:Array Value)[i%(#[]:Array Value).size]!)) vs.toList=some bB:=by
    rw[<-bU];have:((Array.range (0*el.size)).map (λi=>(#[]:Array Value)[i%(#[]:Array Value).size]!))=((Array.range (0*z.cells.size)).map (λi=>z.cells[i%z.cells.size]!)):=by apply qk;simp
    rw[this];exact gJ
   rw[Nat.zero_mul]at rL;simp only[h0,if_true,Sem.run_pure,Result.andThen_ok,rL,Sem.run_bind,newRow,run_newObj,World.alloc_eq]
  .have xT:Instr.fill (λi=>some (i*te.size,te.size)) ((Array.range (len*te.size)).map (λi=>z.cells[i%z.cells.size]!)) vs.toList=some bB:=by rw[<-bU];rw[kM]at gJ ⊢;exact gJ
   simp only[h0,zo,Sem.run_bind,hz,Sem.run_pure,Result.andThen_ok,xT,newRow,run_newObj,World.alloc_eq]
 rw[mz];have aM:=AZ bE (.cells bB ti.elem)
 obtain⟨dT,gy⟩:=Bb bE (dS.free hd) (hm:=Kt hT ht) (w':=w.alloc (.cells bB ti.elem)) (S':=S1) (v':= .slice (some ⟨w.heap.size,0,none⟩) len len) (e:=ti.elem) (el:=el) (zs:=xs) (frz:=false) (css:=lI)
  aM (λg hg _=>heap_alloc_old w _ hg) (by simp) (λg hg=>by
   simp[blk]at hg;subst hg;exact⟨.inl hR.grow,λk b hk ar=>by have:=me (bE.box k b hk) ar;omega,by simp⟩) (λg o hs=> .inl hs) rfl rfl rfl
  (by
   rw[ni,<-dt];have hle:len<=maxLen:=by have:len*1<=len*el.size:=Nat.mul_le_mul_left _ bJ;simp only[maxLen];omega
   exact World.ownsRow_lit w bB len (kf _) hle dE) (au.mono (λx c hx=>Rep.keep aM _ _ _ hx)) (λg hg=>by
   simp[blk]at hg;subst hg;exact⟨λ_ o=>G4 bE o,by simp⟩) (λg hg=>by simp[blk]at hg;subst hg;exact bE.kw_new (js _))
 exact⟨_,_,S1,_,aL,dT,gy⟩
theorem Be{rd:Nat->BS}(bc:RdF np σ rd):∀{ls:List Leaf}{xs:List TV}{u:Ups}{zs:List Value},tvs rd ls=some (xs,u)->All2 (bZ S w γ σ.bx) ls zs->
  FrzL np σ.bx u/\∀S' w',dP S w S' w'->Froz σ.bx γ S' w' u->All2 (λx z=>Rep S' w' x.t x.v [z]) xs zs
 |[],xs,u,zs,h,ha=>by
  simp[tvs]at h;obtain⟨rfl,rfl⟩:=h;cases zs with
  |nil=>exact⟨.nil,λ_ _ _ _=>trivial⟩
  |cons _ _=>exact ha.elim
 |l::ls,xs,u,zs,h,ha=>by
  cases zs with
  |nil=>exact ha.elim
  |cons z zs=>
   simp only[tvs]at h;split at h
   .rename_i KT u1 h1;obtain⟨f1,p1⟩:=Be bc h1 ha.2;split at h
    .rename_i t v;simp only[j5,j9]at h;obtain⟨rfl,rfl⟩:=h;exact⟨f1,λS' w' hk hf=>⟨Rep.keep hk _ _ _ ha.1,p1 S' w' hk hf⟩⟩
    .rename_i k;split at h
     .rename_i e t es f hk;simp only[j5,j9]at h;obtain⟨rfl,rfl⟩:=h;have bK:=bc.ok.live hk;refine⟨λx hx=>?_,λS' w' aM hf=>⟨?_,p1 S' w' aM (λx hx=>hf x (qr _ hx))⟩⟩
      .rcases je.1 hx with rfl|hx
       .exact⟨bc.par hk,e,t,es,f,bK,rfl,bc.ok.nm hk⟩
       .exact f1 x hx
      .have:=hf (k,_) (v2 ..) e t es f bK;rw[ha.1.2.2 _ bK];exact this
     .simp at h
    .simp at h
   .simp at h
theorem jsZ(hR:Rel N np S0 w0 refs σ a w S γ){k:Nat}{ls:List Leaf}{f:Bool}(hk:σ.bx k = .live (.cell ls f))(hp:parK np k=false){xs:List TV}
  (hx:∀g cur e,γ k = .pointer (some ⟨g,0,none⟩)->w.heap[g]? = some (.cells cur e (0,0))->All2 (bZ S w γ σ.bx) ls (cur.toList.take ls.length)->All2 (λx z=>Rep S w x.t x.v [z]) xs (cur.toList.take ls.length)) :
  ∃S' g,Rel N np S0 w0 refs (σ.setB k (.live (.cell (xs.map TV.leaf) true))) a w S' γ/\dP S w S' w/\γ k = .pointer (some ⟨g,0,none⟩)/\jR S' w (.p xs) (.pointer (some ⟨g,0,none⟩)):=by
 obtain⟨g,cur,e,hg,hh,eP,h1,Tv,KU⟩:=hR.box k _ hk;have gz:=hx g cur e hg hh eP;let S':aP:=λg' o=>S g' o\/(g'=g/\o<cur.size)
 have aM:dP S w S' w:=λg o h=>⟨.inl h,rfl⟩
 have hle:BxLe γ σ.bx γ (σ.setB k (.live (.cell (xs.map TV.leaf) true))).bx:=by
  intro k' bK;by_cases cu:k'=k
  .subst cu;rw[gY];exact⟨by simp,rfl,λb hb=>by simp at hb;subst hb;exact⟨_,hk,trivial⟩⟩
  .rw[du σ _ cu];exact⟨bK,rfl,λb hb=>⟨b,hb,.refl b⟩⟩
 have bQ:∀k' b,(σ.setB k (.live (.cell (xs.map TV.leaf) true))).bx k' = .live b->∃b',σ.bx k' = .live b':=by
  intro k' b hb;by_cases cu:k'=k
  .subst cu;exact⟨_,hk⟩
  .rw[du σ _ cu]at hb;exact⟨b,hb⟩
 refine⟨S',g,Rel.step (bx':=(σ.setB k (.live (.cell (xs.map TV.leaf) true))).bx) hR aM hle ?_ ?_ ?_ ?_ ?_ hR.below hR.grow hR.os hR.tape hR.output (λg _ _ h=>⟨rfl,λk' b' aT=>by obtain⟨b2,gG⟩:=bQ k' b' aT;exact h k' b2 gG⟩),aM,hg,?_⟩
 .intro k' b hb;by_cases cu:k'=k
  .subst cu;rw[gY]at hb;simp at hb;subst hb;have hl:=GX eP gz;exact⟨g,cur,e,hg,hh,by rw[k5,hl];exact tc (gz.mono (λx z hz=>Rep.keep aM _ _ _ hz)),by rw[k5,hl];exact h1,by simp,λ_ o ho=> .inr ⟨rfl,ho⟩⟩
  .rw[du σ _ cu]at hb;refine fy.keep aM hle rfl (λg' ar=>⟨rfl,λo=>⟨λhs=>?_,.inl⟩⟩) (hR.box k' b hb);rcases hs with hs|hs
   .exact hs
   .exact absurd (by rw[hg,hs.1];rfl) (hR.apart k' k b _ g' cu hb hk ar)
 .intro k' b g' hb ar;obtain⟨b',aT⟩:=bQ k' b hb;exact hR.own k' b' g' aT ar
 .intro k1 k2 b1 b2 g' bk h1 h2 ar;obtain⟨ub,my⟩:=bQ k1 b1 h1;obtain⟨uc,lD⟩:=bQ k2 b2 h2;exact hR.apart k1 k2 ub uc g' bk my lD ar
 .intro g' o hs;rcases hs with hs|hs
  .exact hR.new g' o hs
  .rcases hR.own k _ g hk (by rw[hg];rfl) with h|h
   .refine .inr ?_;have:g'=g:=by omega
    rw[this];exact h
   .rw[hp]at h;simp at h
 .intro g' o hs;rcases hs with hs|hs
  .exact hR.here g' o hs
  .rw[hs.1];exact(ji.1 hh).1
 .refine⟨g,0,cur.toList.take ls.length,rfl,gz.mono (λx z hz=>Rep.keep aM _ _ _ hz),λj v hv=>?_⟩
  have hv:cur.toList[j]? = some v:=by
   rw[zf]at hv;split at hv
   .exact hv
   .simp at hv
  have hj:j<cur.size:=by simpa using (jx.1 hv).1
  rw[kg];refine⟨.inr ⟨rfl,hj⟩,?_⟩;rw[cell_of_row w g j cur e (0,0) hh];simpa using hv
theorem TR{rd:Nat->BS}(bc:RdF np σ rd):∀{cs:List Cel}{l:List Cap}{u:Ups}{zs:List Value},vS rd cs=some (l,u)->Rel N np S0 w0 refs σ a w S γ->All2 (cd S w γ σ.bx) cs zs->
  ∃S',Rel N np S0 w0 refs (σ.upd u) a w S' γ/\dP S w S' w/\All2 (jR S' w) l zs/\(∀k e t xs f,σ.bx k = .live (.lst e t xs f)->∃f',(σ.upd u).bx k = .live (.lst e t xs f'))/\BxLe γ σ.bx γ (σ.upd u).bx/\∀k,σ.bx k = .free->(σ.upd u).bx k = .free
 |[],l,u,zs,h,hR,ha=>by
  simp[vS]at h;obtain⟨rfl,rfl⟩:=h;cases zs with
  |nil=>exact⟨S,hR,.refl S w,trivial,λk e t xs f h=>⟨f,h⟩,.refl _ _,λ_ h=>h⟩
  |cons _ _=>exact ha.elim
 |c::r,l,u,zs,h,hR,ha=>by
  cases zs with
  |nil=>exact ha.elim
  |cons z zs=>
   simp only[vS]at h;split at h
   .rename_i l1 u1 h1;obtain⟨S1,bE,dr,eG,oM,nU,CX⟩:=TR bc h1 hR ha.2;split at h
    .rename_i t v;split at h
     .rename_i gK;simp only[j5,j9]at h;obtain⟨rfl,rfl⟩:=h;exact⟨S1,bE,dr,⟨⟨gK,Rep.keep dr _ _ _ ha.1.1⟩,eG⟩,oM,nU,CX⟩
     .simp at h
    .rename_i k;split at h
     .rename_i ls f hk;split at h
      .rename_i xs u2 h2;split at h
       .simp at h
       .rename_i rM;simp only[j5,j9]at h;obtain⟨rfl,rfl⟩:=h;have oP:=bc.par hk;have hk:=bc.ok.live hk;have rM:(u1++u2).any (λy=>y.1==k)=false:=z6.2 rM;rw[List.any_append,vz]at rM;obtain⟨g,cur,e,hg,hh,eP,_⟩:=hR.box k _ hk;obtain⟨ud,xG⟩:=Be bc h2 eP;have KV:FrzL np (σ.upd u1).bx u2:=by intro x hx;obtain⟨wx,e',t',dg,f',aT,nh⟩:=ud x hx;obtain⟨f2,h2⟩:=oM _ e' t' dg f' aT;exact⟨wx,e',t',dg,f2,h2,nh⟩
        obtain⟨S2,cH,cM,rN,nV⟩:=qM u2 (σ.upd u1) S1 bE KV;have CY:Froz σ.bx γ S2 w u2:=by intro x hx e' t' dg f' aT;obtain⟨f2,h2⟩:=oM _ e' t' dg f' aT;exact rN x hx e' t' dg f2 h2
        have ga:((σ.upd u1).upd u2).bx k = .live (.cell ls f):=by rw[oL u2 _ rM.2,oL u1 _ rM.1,hk]
        obtain⟨S3,g3,gj,uw,Hf,dh⟩:=jsZ cH ga oP (xs:=xs) (λg' jW e' ar G2 _=>by
         rw[hg]at ar;simp at ar;subst ar;rw[hh]at G2;simp at G2;obtain⟨rfl,_⟩:=G2;exact xG S2 w (dr.trans cM) CY)
        have hz:z=γ k:=by obtain⟨g4,h4,h5⟩:=ha.1.1.2.2 _ hk;rw[h5,h4]
        rw[mz,mz];refine⟨S3,gj,(dr.trans cM).trans uw,⟨by rw[hz,Hf];exact dh,eG.mono (λx z hx=>jR.keep (cM.trans uw) hx)⟩,λk' e' t' dg f' aT=>?_,?_,λk' bK=>?_⟩
        .obtain⟨f2,h2⟩:=oM _ e' t' dg f' aT;obtain⟨f3,h3⟩:=nV.lst h2;have cu:k'≠k:=by rintro rfl;rw[ga]at h3;simp at h3
         exact⟨f3,by show (((σ.upd u1).upd u2).setB k _).bx k'=_;rw[du _ _ cu];exact h3⟩
        .have jU:BxLe γ (σ.upd u1).bx γ ((σ.upd u1).upd u2).bx:=nV.le
         have KW:BxLe γ ((σ.upd u1).upd u2).bx γ ((((σ.upd u1).upd u2)).setB k (.live (.cell (xs.map TV.leaf) true))).bx:=by
          intro k' bK;by_cases cu:k'=k
          .subst cu;rw[gY];exact⟨by simp,rfl,λb hb=>by simp at hb;subst hb;exact⟨_,ga,trivial⟩⟩
          .rw[du _ _ cu];exact⟨bK,rfl,λb hb=>⟨b,hb,.refl b⟩⟩
         have tr:∀{b1 b2 b3:Nat->BS},BxLe γ b1 γ b2->BxLe γ b2 γ b3->BxLe γ b1 γ b3:=by intro b1 b2 b3 xU h23 k' bK;obtain⟨q1,q2,q3⟩:=xU k' bK;obtain⟨r1,r2,r3⟩:=h23 k' q1;refine⟨r1,rfl,λb hb=>?_⟩;obtain⟨b',aT,dC⟩:=r3 b hb;obtain⟨KX,xV,xW⟩:=q3 b' aT;refine⟨KX,xV,?_⟩;exact xW.trans dC
         exact tr (tr nU jU) KW
        .have h3:=nV.free (CX k' bK);have cu:k'≠k:=by rintro rfl;rw[hk]at bK;simp at bK
         show (((σ.upd u1).upd u2).setB k _).bx k'=_;rw[du _ _ cu];exact h3
      .simp at h
     .simp at h
    .simp at h
   .simp at h
end
section
variable(S:aP)(w:World)
def CZ(ls:List TV)(u:Value):Prop:=
 ∃g cur e,u = .pointer (some ⟨g,0,none⟩)/\w.heap[g]? = some (.cells cur e (0,0))/\All2 (λx z=>Rep S w x.t x.v [z]) ls (cur.toList.take ls.length)/\∀o,¬S g o
def Bf(e:Nat)(x:TV)(u:Value):Prop:=
 ∃(a:Ty)(xs:List a.den),x=⟨.list a,xs⟩/\rB S w e a xs u/\∀g,blk u=some g->∀o,¬S g o
def oT:Arg->Value->Prop
 |.v x,u=>VRep S w x u
 |.ref ls,u=>CZ S w ls u
 |.rl e x,u=>Bf S w e x u
 |.ip ls,u=>∃g o cs,u = .pointer (some ⟨g,o,none⟩)/\All2 (λx z=>Rep S w x.t x.v [z]) ls cs/\Lies S w g o cs
 |.clo f bF,u=>∃cv:Array Value,u = .func (.func f) #[] cv/\All2 (jR S w) bF cv.toList
 |.mv e x,u=>Bf S w e x u/\isM e=false
def lK:Arg->Value->Option Nat
 |.ref _,u=>blk u
 |.rl _ _,u=>blk u
 |.mv _ _,u=>blk u
 |_,_=>none
def eI:List Arg->List Value->List Nat
 |a::as,u::us=>(lK a u).toList++eI as us
 |_,_=>[]
def mvOf:List Arg->List Value->List Nat
 |.mv _ _::as,u::us=>(blk u).toList++mvOf as us
 |_::as,_::us=>mvOf as us
 |_,_=>[]
def qQ:RV->Value->Prop
 |.v x,u=>VRep S w x u
 |.own e x,u=>Bf S w e x u
 |.box ls,u=>CZ S w ls u
 |.hd _,u=>One u
 |.clo f bF,u=>∃cv:Array Value,u = .func (.func f) #[] cv/\All2 (jR S w) bF cv.toList
 |.vn x ns,u=>VRep S w x u/\∀cs,u = .agg cs->∀i∈ns,∀z,cs.toList[i]? = some z->z = .slice none 0 0
def nj:RV->Value->Option Nat
 |.v _,_=>none
 |.hd _,_=>none
 |.vn _ _,_=>none
 |.clo _ _,_=>none
 |_,u=>blk u
def gC:List RV->List Value->List Nat
 |r::rs,u::us=>(nj r u).toList++gC rs us
 |_,_=>[]
def mh:List Arg->List Value->List Out->Prop
 |[],[],[]=>True
 |.ref _::as,u::us,.ref ys::os=>CZ S w ys u/\mh as us os
 |.rl e x::as,u::us,.rl y::os=>Bf S w e y u/\y.t=x.t/\mh as us os
 |.v _::as,_::us,os=>mh as us os
 |.ip _::as,_::us,os=>mh as us os
 |.clo _ _::as,_::us,os=>mh as us os
 |.mv _ _::as,_::us,os=>mh as us os
 |_,_,_=>False
end
def tw(vs:List Value):Value:=match vs with
 |[v]=>v
 |vs=> .tuple vs.toArray
def Hg:List Arg->List Value->Option Value
 |.ref _::_,u::_=>some u
 |.rl _ _::_,u::_=>some u
 |_::as,_::us=>Hg as us
 |_,_=>none
structure KY(w:World)(S:aP)(args:List Arg)(vals:List Value)(ret:Ret)(v:Value)(w':World)(S':aP)(vs:List Value):Prop where
 val:v=tw vs
 rep:All2 (qQ S' w') ret.vals vs
 fresh:∀g∈gC ret.vals vs,w.heap.size<=g\/g∈mvOf args vals
 apart:(gC ret.vals vs).Nodup
 outs:mh S' w' args vals ret.outs
 stays:dP S w S' w'
 new:∀g o,S' g o->S g o\/w.heap.size<=g\/g∈mvOf args vals
 here:∀g o,S' g o->g<w'.heap.size
 below:∀g,g<w.heap.size->g∉eI args vals->w'.heap[g]? = w.heap[g]?
 grow:w.heap.size<=w'.heap.size
 os:w'.os=w.os
 tape:w'.tape=w.tape
 output:w'.output=w.output
 head:∀m,ret.vals=[.hd m]->∃ad len cap,Hg args vals=some (.slice ad len cap)/\m<=len/\vs=[.slice ad m cap]
def Hh(P:Program)(f:Nat)(args:List Arg)(K:Ret->Prop):Prop:=
 ∀(w:World)(S:aP)(vals:List Value),All2 (oT S w) args vals->(eI args vals).Nodup->(∀g o,S g o->g<w.heap.size)->
  Calls P f vals.toArray w λe w'=>∃ret,K ret/\∃v S' vs,e = .returned v/\KY w S args vals ret v w' S' vs
def Fun(P:Program)(f:Nat):Prop:=
 ∃ fn, P.funcs[f]? = some fn ∧ fn.body.isNone = false ∧ (fn.name == "runtime.NumGoroutine") = false
def FnOK(P:Program)(f:Nat)(c:List Arg->(R:Type)->(Ret->Option R)->Option R):Prop:=
 ∀(args:List Arg)(R:Type)(k:Ret->Option R)(r:R),c args R k=some r->Fun P f/\Hh P f args λret=>k ret=some r
def jJ(P:Program)(C:Nat->List Arg->(R:Type)->(Ret->Option R)->Option R):Prop:=∀f,FnOK P f (C f)
section
variable{N:NT}{np:Nat}{S0:aP}{w0:World}{refs:Refs}{σ:St}{a:Go.Act}{w:World}{S:aP}{γ:Nat->Value}
theorem uy{S':aP}{w':World}:∀(t:Ty)(v:t.den)(cs:List Value),t.flat=true->Rep S w t v cs->Rep S' w' t v cs
 |.int _,_,_,_,h=>h
 |.bool,_,_,_,h=>h
 |.str,_,_,_,h=>h
 |.unit,_,_,_,h=>h
 |.wrap a,v,cs,hf,h=>uy a v cs hf h
 |.pair a b,_,_,hf,⟨c1,c2,e,h1,h2⟩=>by
  simp only[Ty.flat,jc]at hf;exact⟨c1,c2,e,uy a _ _ hf.1 h1,uy b _ _ hf.2 h2⟩
 |.list _,_,_,hf,_=>by simp[Ty.flat]at hf
 |.arr _ a,_,_,hf,⟨hn,css,ha,e⟩=>⟨hn,css,ha.mono (λx c hx=>uy a x c hf hx),e⟩
def gD(bx:Nat->BS)(γ:Nat->Value):List Arg->List Value->List Bk->Prop
 |[],[],[]=>True
 |.ref ls::as,u::us,.ref k::fs=>u=γ k/\(∃ie,bx k = .live (.cell ie false))/\gD bx γ as us fs
 |.rl e x::as,u::us,.rl k e' t::fs=>e=e'/\u=γ k/\(∃xs,bx k = .live (.lst e t xs false)/\x=⟨.list t,xs⟩)/\gD bx γ as us fs
 |.v _::as,_::us,fs=>gD bx γ as us fs
 |.ip _::as,_::us,fs=>gD bx γ as us fs
 |.clo _ _::as,_::us,fs=>gD bx γ as us fs
 |.mv e x::as,u::us,.mv k e' t::fs=>e=e'/\u=γ k/\(∃xs,bx k = .live (.lst e t xs false)/\x=⟨.list t,xs⟩)/\gD bx γ as us fs
 |_,_,_=>False
theorem jxt{rd rdf:Nat->BS}(hR:Rel N np S0 w0 refs σ a w S γ)(bc:RdR σ rd)(bL:RdF np σ rdf){t:Option TyI}{mv rl:Bool}{c:Cel}{arg:Arg}{u:Ups}{f:Option Bk}{z:Value}
  (h:vT rd rdf t mv rl c=some (arg,u,f))(hc:cd S w γ σ.bx c z) :
  FrzL np σ.bx u/\gD σ.bx γ [arg] [z] f.toList/\∀S',dP S w S' w->Froz σ.bx γ S' w u->(∀k b,f.toList.any (λy=>y.name==k)=true->σ.bx k = .live b->∀g,blk (γ k)=some g->∀o,¬S' g o)->oT S' w arg z:=by
 unfold vT at h;split at h
 .rename_i k;split at h
  .rename_i ls hk;split at h
   .rename_i xs u1 h1;simp only[j5,j9]at h;obtain⟨rfl,rfl,rfl⟩:=h;have hk:=bc.live hk;obtain⟨g,hg,hz⟩:=hc.1.2.2 _ hk;obtain⟨g',cur,e,ar,hh,eP,_,_,hS⟩:=hR.box k _ hk;rw[hg]at ar;simp at ar;subst ar;obtain⟨hf,hp⟩:=Be bL h1 eP;refine⟨hf,trivial,λS' aM fB _=>⟨g,0,cur.toList.take ls.length,hz,hp S' w aM fB,λj v hv=>?_⟩⟩
    have hv:cur.toList[j]? = some v:=by
     rw[zf]at hv;split at hv
     .exact hv
     .simp at hv
    have hj:j<cur.size:=by simpa using (jx.1 hv).1
    rw[kg];refine⟨(aM _ _ (hS rfl j hj)).1,?_⟩;rw[cell_of_row w g j cur e (0,0) hh];simpa using hv
   .simp at h
  .rename_i ls hk;split at h
   .rename_i xs u1 h1;simp only[j5,j9]at h;obtain⟨rfl,rfl,rfl⟩:=h;have hk:=bc.live hk;obtain⟨g,hg,hz⟩:=hc.1.2.2 _ hk;obtain⟨g',cur,e,ar,hh,eP,_⟩:=hR.box k _ hk;rw[hg]at ar;simp at ar;subst ar;obtain⟨hf,hp⟩:=Be bL h1 eP;refine⟨hf,⟨hz.trans hg.symm,⟨ls,hk⟩,trivial⟩,λS' aM fB hn=>⟨g,cur,e,hz,hh,by rw[GX eP (hp S' w aM fB)];exact hp S' w aM fB,?_⟩⟩;exact hn k _ (by simp[Bk.name]) hk g (by rw[hg];rfl)
   .simp at h
  .simp at h
 .simp only[j5,j9]at h;obtain⟨rfl,rfl,rfl⟩:=h;refine⟨.nil,trivial,λS' aM _ _=>?_⟩;obtain⟨g,o,cs,hz,ha,hl⟩:=hc.1;exact⟨g,o,cs,hz,ha.mono (λx z hx=>Rep.keep aM _ _ _ hx),hl.keep aM⟩
 .simp only[j5,j9]at h;obtain⟨rfl,rfl,rfl⟩:=h;refine⟨.nil,trivial,λS' aM _ _=>?_⟩;obtain⟨cv,hz,ha⟩:=hc.1;exact⟨cv,hz,ha.mono (λx z hx=>jR.keep aM hx)⟩
 .rename_i k;split at h
  .cases mv with
   |true=>
    rw[j6]at h;split at h
    .rename_i e t xs hk;simp only[j5,j9]at h;obtain⟨rfl,rfl,rfl⟩:=h;have cb:=bL.ok.nm hk;have hk:=bL.ok.live hk;have hz:=hc.1.2.2 _ hk;refine⟨.nil,⟨rfl,hz,⟨xs,hk,rfl⟩,trivial⟩,λS' aM _ hn=>?_⟩;have fh:=(hR.box k _ hk).1;exact⟨⟨t,xs,rfl,by rw[hz];exact fh.keep aM (λ_ _=>rfl),λg hg=>hn k _ (by simp[Bk.name]) hk g (by rw[<-hz];exact hg)⟩,cb⟩
    .simp at h
   |false=>
   rw[j7]at h;split at h
   .rename_i e t xs hk;simp only[j5,j9]at h;obtain⟨rfl,rfl,rfl⟩:=h;have hk:=bc.live hk;have hz:=hc.1.2.2 _ hk;refine⟨.nil,⟨rfl,hz,⟨xs,hk,rfl⟩,trivial⟩,λS' aM _ hn=>?_⟩;have fh:=(hR.box k _ hk).1;exact⟨t,xs,rfl,by rw[hz];exact fh.keep aM (λ_ _=>rfl),λg hg=>hn k _ (by simp[Bk.name]) hk g (by rw[<-hz];exact hg)⟩
   .simp at h
  .split at h
   .rename_i e t xs fz hk;simp only[j5,j9]at h;obtain⟨rfl,rfl,rfl⟩:=h;have oP:=bL.par hk;have cb:=bL.ok.nm hk;have hk:=bL.ok.live hk;have hz:=hc.1.2.2 _ hk;refine⟨λx hx=>?_,trivial,λS' aM fB _=>?_⟩
    .have:=kr.1 hx;subst this;exact⟨oP,e,t,xs,fz,hk,rfl,cb⟩
    .have h1:One z:=hc.2 (by simp);have:=fB (k,_) (kr.2 rfl) e t xs fz hk;rw[<-hz]at this;exact⟨by rw[AY h1];exact this,by simp[jS,Ty.agg],λ_=>h1⟩
   .simp at h
 .split at h
  .split at h
   .rename_i ty bR;split at h
    .rename_i x u1 hx;simp only[j5,j9]at h;obtain⟨rfl,rfl,rfl⟩:=h;obtain⟨hf,hp,_⟩:=CL bL hR.box hx hc;exact⟨hf,trivial,λS' aM fB _=>hp S' w aM fB⟩
    .simp at h
   .simp at h
  .simp at h
theorem gD.app{bx:Nat->BS}{arg:Arg}{z:Value}{f:List Bk}:gD bx γ [arg] [z] f->∀{as:List Arg}{us:List Value}{fs:List Bk},gD bx γ as us fs->gD bx γ (arg::as) (z::us) (f++fs):=by
 intro h as us fs h';cases arg with
 |v x=>cases f with|nil=>exact h'|cons _ _=>exact h.elim
 |ip x=>cases f with|nil=>exact h'|cons _ _=>exact h.elim
 |clo x y=>cases f with|nil=>exact h'|cons _ _=>exact h.elim
 |ref ls=>
  match f,h with
  |[.ref k],⟨h1,h2,_⟩=>exact⟨h1,h2,h'⟩
  |.ref k::_::_,⟨_,_,h3⟩=>exact h3.elim
 |rl e x=>
  match f,h with
  |[.rl k e' t],⟨h0,h1,h2,_⟩=>exact⟨h0,h1,h2,h'⟩
  |.rl k e' t::_::_,⟨_,_,_,h3⟩=>exact h3.elim
 |mv e x=>
  match f,h with
  |[.mv k e' t],⟨h0,h1,h2,_⟩=>exact⟨h0,h1,h2,h'⟩
  |.mv k e' t::_::_,⟨_,_,_,h3⟩=>exact h3.elim
theorem TS{rd rdf:Nat->BS}(hR:Rel N np S0 w0 refs σ a w S γ)(bc:RdR σ rd)(bL:RdF np σ rdf){T:Nat->Option TyI}{mv:Bool}:∀{cs:List Cel}{ts:List Nat}{ms:List Bool}{as:List Arg}{u:Ups}{fs:List Bk}{zs:List Value},
  qE rd rdf T mv ts ms cs=some (as,u,fs)->All2 (cd S w γ σ.bx) cs zs->
  FrzL np σ.bx u/\gD σ.bx γ as zs fs/\∀S',dP S w S' w->Froz σ.bx γ S' w u->(∀k b,fs.any (λy=>y.name==k)=true->σ.bx k = .live b->∀g,blk (γ k)=some g->∀o,¬S' g o)->All2 (oT S' w) as zs
 |[],ts,ms,as,u,fs,zs,h,ha=>by
  simp[qE]at h;obtain⟨rfl,rfl,rfl⟩:=h;cases zs with
  |nil=>exact⟨.nil,trivial,λ_ _ _ _=>trivial⟩
  |cons _ _=>exact ha.elim
 |c::cs,ts,ms,as,u,fs,zs,h,ha=>by
  cases zs with
  |nil=>exact ha.elim
  |cons z zs=>
   simp only[qE]at h;split at h
   .rename_i a1 u1 f1 h1;split at h
    .rename_i GW us' TT h2;simp only[j5,j9]at h;obtain⟨rfl,rfl,rfl⟩:=h;obtain⟨p1,q1,r1⟩:=jxt hR bc bL h1 ha.1;obtain⟨p2,q2,r2⟩:=TS hR bc bL h2 ha.2;refine⟨FrzL.app.2 ⟨p1,p2⟩,q1.app q2,λS' aM fB hn=>?_⟩;obtain⟨z1,z2⟩:=Froz.app.1 fB;exact⟨r1 S' aM z1 (λk b hk=>hn k b (by rw[List.any_append,hk];rfl)),r2 S' aM z2 (λk b hk=>hn k b (by rw[List.any_append,hk];simp))⟩
    .simp at h
   .simp at h
theorem TU:∀{cs:List Cap}{zs:List Value},All2 (jR S w) cs zs->All2 (oT S w) (cs.map pr) zs
 |[],[],_=>trivial
 |c::cs,z::zs,h=>by
  refine⟨?_,TU h.2⟩;cases c with
  |v x=>obtain⟨hl,hr⟩:=h.1;have h1:One z:=Rep.one _ _ _ hr z (by simp);refine⟨by rw[AY h1];exact hr,λhm=>?_,λ_=>h1⟩;exfalso;obtain⟨t,v⟩:=x;cases t<;>simp_all[Ty.leafy,jS,Ty.agg]
  |p ls=>exact h.1
 |[],_::_,h=>h.elim
 |_::_,[],h=>h.elim
theorem TW:∀(cs:List Cap)(zs:List Value),eI (cs.map pr) zs=[]
 |[],_=>by cases ‹List Value› <;> rfl
 |c::cs,[]=>rfl
 |c::cs,z::zs=>by cases c<;>simp[eI,lK,pr,TW cs zs]
theorem TX:∀(as:List Arg)(us:List Value)(bs:List Arg)(vs:List Value),as.length=us.length->eI (as++bs) (us++vs)=eI as us++eI bs vs
 |[],[],bs,vs,_=>rfl
 |a::as,u::us,bs,vs,h=>by simp[eI,TX as us bs vs (by simpa using h)]
 |[],_::_,_,_,h=>by simp at h
 |_::_,[],_,_,h=>by simp at h
theorem wy{bx:Nat->BS}:∀{as:List Arg}{us:List Value}{fs:List Bk},gD bx γ as us fs->eI as us=fs.filterMap λf=>blk (γ f.name)
 |[],[],[],_=>rfl
 |.ref ls::as,u::us,.ref k::fs,⟨h1,_,h3⟩=>by
  simp only[eI,lK,z8,Bk.name,h1,wy h3];cases blk (γ k)<;>rfl
 |.rl e x::as,u::us,.rl k e' t::fs,⟨_,h1,_,h3⟩=>by
  simp only[eI,lK,z8,Bk.name,h1,wy h3];cases blk (γ k)<;>rfl
 |.mv e x::as,u::us,.mv k e' t::fs,⟨_,h1,_,h3⟩=>by
  simp only[eI,lK,z8,Bk.name,h1,wy h3];cases blk (γ k)<;>rfl
 |.v _::as,_::us,fs,h=>by simp[eI,lK,wy (as:=as) (us:=us) (fs:=fs) h]
 |.ip _::as,_::us,fs,h=>by simp[eI,lK,wy (as:=as) (us:=us) (fs:=fs) h]
 |.clo _ _::as,_::us,fs,h=>by simp[eI,lK,wy (as:=as) (us:=us) (fs:=fs) h]
theorem TY:∀{as:List Arg}{us:List Value}{g:Nat},g∈mvOf as us->g∈eI as us
 |[],_,g,h=>by simp[mvOf]at h
 |_::_,[],g,h=>by rename_i a _;cases a<;>simp[mvOf]at h
 |a::as,u::us,g,h=>by
  have ih:=TY (as:=as) (us:=us) (g:=g);cases a with
  |mv e x=>simp only[mvOf,eI,lK,jn]at h ⊢;exact h.imp id ih
  |_=>simp only[mvOf]at h;simp only[eI,jn];exact .inr (ih h)
theorem wz{bx:Nat->BS}:∀{as:List Arg}{us:List Value}{fs:List Bk}{g:Nat},gD bx γ as us fs->g∈mvOf as us->∃f∈fs,f.isMv=true/\blk (γ f.name)=some g
 |[],[],[],g,_,h=>by simp[mvOf]at h
 |.ref ls::as,u::us,.ref k::fs,g,⟨_,_,h3⟩,h=>by
  obtain⟨f,hf,h1⟩:=wz (g:=g) h3 (by simpa only[mvOf]using h);exact⟨f,by simp[hf],h1⟩
 |.rl e x::as,u::us,.rl k e' t::fs,g,⟨_,_,_,h3⟩,h=>by
  obtain⟨f,hf,h1⟩:=wz (g:=g) h3 (by simpa only[mvOf]using h);exact⟨f,by simp[hf],h1⟩
 |.mv e x::as,u::us,.mv k e' t::fs,g,⟨_,h1,_,h3⟩,h=>by
  simp only[mvOf,jn,Option.mem_toList]at h;rcases h with h|h
  .exact⟨.mv k e' t,by simp,rfl,by rw[<-h];show blk (γ k)=blk u;rw[h1]⟩
  .obtain⟨f,hf,h1⟩:=wz (g:=g) h3 h;exact⟨f,by simp[hf],h1⟩
 |.v _::as,_::us,fs,g,hb,h=>wz (as:=as) (us:=us) (fs:=fs) hb (by simpa only[mvOf]using h)
 |.ip _::as,_::us,fs,g,hb,h=>wz (as:=as) (us:=us) (fs:=fs) hb (by simpa only[mvOf]using h)
 |.clo _ _::as,_::us,fs,g,hb,h=>wz (as:=as) (us:=us) (fs:=fs) hb (by simpa only[mvOf]using h)
theorem jxv{rd rdf:Nat->BS}(bL:RdF np σ rdf){t:Option TyI}{mv rl:Bool}{c:Cel}{arg:Arg}{u:Ups}{f:Option Bk}(h:vT rd rdf t mv rl c=some (arg,u,f)):∀x∈f.toList,x.isMv=true->parK np x.name=false:=by
 intro x hx hm;unfold vT at h;split at h
 .split at h
  .split at h
   .simp only[j5,j9]at h;obtain⟨_,_,rfl⟩:=h;simp at hx
   .simp at h
  .split at h
   .simp only[j5,j9]at h;obtain⟨_,_,rfl⟩:=h;simp at hx;subst hx;simp[Bk.isMv]at hm
   .simp at h
  .simp at h
 .simp only[j5,j9]at h;obtain⟨_,_,rfl⟩:=h;simp at hx
 .simp only[j5,j9]at h;obtain⟨_,_,rfl⟩:=h;simp at hx
 .split at h
  .cases mv with
   |true=>
    rw[j6]at h;split at h
    .rename_i hk;simp only[j5,j9]at h;obtain⟨_,_,rfl⟩:=h;simp at hx;subst hx;exact bL.par hk
    .simp at h
   |false=>
    rw[j7]at h;split at h
    .simp only[j5,j9]at h;obtain⟨_,_,rfl⟩:=h;simp at hx;subst hx;simp[Bk.isMv]at hm
    .simp at h
  .split at h
   .simp only[j5,j9]at h;obtain⟨_,_,rfl⟩:=h;simp at hx
   .simp at h
 .split at h
  .split at h
   .split at h
    .simp only[j5,j9]at h;obtain⟨_,_,rfl⟩:=h;simp at hx
    .simp at h
   .simp at h
  .simp at h
theorem TZ{rd rdf:Nat->BS}(bL:RdF np σ rdf){T:Nat->Option TyI}{mv:Bool}:∀{cs:List Cel}{ts:List Nat}{ms:List Bool}{as:List Arg}{u:Ups}{fs:List Bk},
  qE rd rdf T mv ts ms cs=some (as,u,fs)->∀x∈fs,x.isMv=true->parK np x.name=false
 |[],ts,ms,as,u,fs,h,x,hx,hm=>by
  simp[qE]at h;obtain⟨rfl,rfl,rfl⟩:=h;simp at hx
 |c::cs,ts,ms,as,u,fs,h,x,hx,hm=>by
  simp only[qE]at h;split at h
  .rename_i a1 u1 f1 h1;split at h
   .rename_i GW us' TT h2;simp only[j5,j9]at h;obtain⟨rfl,rfl,rfl⟩:=h;rcases jn.1 hx with hx|hx
    .exact jxv bL h1 x hx hm
    .exact TZ bL h2 x hx hm
   .simp at h
  .simp at h
theorem tx{bx:Nat->BS}:∀{as:List Arg}{us:List Value}{fs:List Bk},gD bx γ as us fs->∀f∈fs,∃b,bx f.name = .live b
 |[],[],[],_,f,hf=>by simp at hf
 |.ref ls::as,u::us,.ref k::fs,⟨_,⟨ie,h2⟩,h3⟩,f,hf=>by
  rcases je.1 hf with rfl|hf
  .exact⟨_,h2⟩
  .exact tx h3 f hf
 |.rl e x::as,u::us,.rl k e' t::fs,⟨_,_,⟨xs,h2,_⟩,h3⟩,f,hf=>by
  rcases je.1 hf with rfl|hf
  .exact⟨_,h2⟩
  .exact tx h3 f hf
 |.mv e x::as,u::us,.mv k e' t::fs,⟨_,_,⟨xs,h2,_⟩,h3⟩,f,hf=>by
  rcases je.1 hf with rfl|hf
  .exact⟨_,h2⟩
  .exact tx h3 f hf
 |.v _::as,_::us,fs,h,f,hf=>tx (as:=as) (us:=us) (fs:=fs) h f hf
 |.ip _::as,_::us,fs,h,f,hf=>tx (as:=as) (us:=us) (fs:=fs) h f hf
 |.clo _ _::as,_::us,fs,h,f,hf=>tx (as:=as) (us:=us) (fs:=fs) h f hf
theorem C0:∀{l:List Nat},qF l=true->l.Nodup
 |[],_=>v6
 |x::l,h=>by
  simp only[qF,jc,kp,qf,kn]at h;exact qb.2 ⟨h.1,C0 h.2⟩
theorem KZ(hR:Rel N np S0 w0 refs σ a w S γ):∀{l:List Nat},l.Nodup->(∀k∈l,∃b,σ.bx k = .live b)->(l.filterMap λk=>blk (γ k)).Nodup
 |[],_,_=>by simp
 |k::l,h,hl=>by
  obtain⟨h1,h2⟩:=qb.1 h;have ih:=KZ hR h2 (λk hk=>hl k (by simp[hk]));rw[z8];cases hb:blk (γ k) with
  |none=>exact ih
  |some g=>refine qb.2 ⟨λhm=>?_,ih⟩;obtain⟨k',bK,ar⟩:=v7.1 hm;obtain⟨b,eZ⟩:=hl k (by simp);obtain⟨b',gG⟩:=hl k' (by simp[bK]);exact hR.apart k k' b b' g (by rintro rfl;exact h1 bK) eZ gG hb ar
end
section
variable{N:NT}{np:Nat}{S0:aP}{w0:World}{refs:Refs}{σ:St}{a:Go.Act}{w:World}{S:aP}{γ:Nat->Value}
theorem C1:∀(u:Ups)(σ:St){k:Nat}{b:BS},(u.map (·.1)).Nodup->(k,b)∈u->(σ.upd u).bx k=b
 |[],_,_,_,_,h=>by simp at h
 |e::u,σ,k,b,hn,h=>by
  simp only[ke,qb]at hn;show ((σ.setB e.1 e.2).upd u).bx k=_;rcases je.1 h with h|h
  .subst h;rw[oL u,gY];simp only[z7,vj];intro x hx he;exact hn.1 (jt.2 ⟨x,hx,he⟩)
  .exact C1 u _ hn.2 h
theorem jAk{e:Nat}{m n n':Nat}{v:Value}{w':World}{xs ys:List Value}(h:w.ownsRow 0 e m v n xs)(h':w'.ownsRow 0 e m v n' ys):n=n':=by
 rcases h.2 with⟨e1,e2⟩|⟨g,cap,cur,e1,_⟩<;>rcases h'.2 with⟨f1,f2⟩|⟨g',gH,jW,f1,_⟩
 .rw[e2,f2]
 .rw[e1]at f1;simp at f1
 .rw[e1]at f1;simp at f1
 .rw[e1]at f1;simp at f1;exact f1.2.1
theorem K3{bx:Nat->BS}{S':aP}{w':World}{ys:List TV}{k:Nat}{v:Value}(hg:γ k=v)(h:CZ S' w' ys v):fy S' w' γ bx k (.cell (ys.map TV.leaf) false):=by
 obtain⟨g,cur,e,hu,hh,au,hS⟩:=h;exact⟨g,cur,e,hg.trans hu,hh,by rw[k5];exact tc au,λu eJ=>by rw[k5]at eJ;obtain⟨x,_,hx⟩:=au.mem_right u eJ;exact Rep.one _ _ _ hx u (by simp),λ_=>hS,by simp⟩
theorem C2{bx:Nat->BS}{S':aP}{w':World}{e:Nat}{t:Ty}{ys:List t.den}{k:Nat}{v:Value}(hg:γ k=v)(h:Bf S' w' e ⟨.list t,ys⟩ v):fy S' w' γ bx k (.lst e t ys false):=by
 obtain⟨t',xs,hx,cg,hS⟩:=h;cases hx;exact⟨by rw[hg];exact cg,λg ar=>⟨λ_=>hS g (by rw[<-hg];exact ar),by simp⟩⟩
theorem uz{S':aP}{w':World}(hR:Rel N np S0 w0 refs σ a w S γ):∀{as:List Arg}{zs:List Value}{fs:List Bk}{os:List Out}{uo:Ups},gD σ.bx γ as zs fs->mq fs os=some uo->mh S' w' as zs os->
  uo.map (·.1)=fs.map Bk.name/\∀x∈uo,∃b,σ.bx x.1 = .live b/\(x.2 = .gone\/∃b',x.2 = .live b'/\kH b b'/\∀bx',fy S' w' γ bx' x.1 b')
 |[],[],[],[],uo,_,h,_=>by simp[mq]at h;subst h;simp
 |.ref ls::as,u::us,.ref k::fs,.ref ys::os,uo,⟨h1,⟨ie,h2⟩,h3⟩,h,⟨q1,q2⟩=>by
  simp only[mq,GP]at h;split at h
  .rename_i u' eJ;simp only[j5]at h;subst h;obtain⟨i1,i2⟩:=uz hR h3 eJ q2;refine⟨by simp[i1,Bk.name],λx hx=>?_⟩;rcases je.1 hx with rfl|hx
   .exact⟨_,h2,.inr ⟨_,rfl,trivial,λbx'=>K3 h1.symm q1⟩⟩
   .exact i2 x hx
  .simp at h
 |.rl e x::as,u::us,.rl k e' t::fs,.rl y::os,uo,⟨h0,h1,⟨xs,h2,lD⟩,h3⟩,h,⟨q1,q1',q2⟩=>by
  simp only[mq,GP]at h;split at h
  .rename_i y' AW;split at AW
   .rename_i ys ij;simp only[j5]at AW;subst AW;split at h
    .rename_i u' eJ;simp only[j5]at h;subst h;obtain⟨i1,i2⟩:=uz hR h3 eJ q2;refine⟨by simp[i1,Bk.name],λx hx=>?_⟩;rcases je.1 hx with rfl|hx
     .have:=ng ij;subst this;subst h0;refine⟨_,h2,.inr ⟨_,rfl,⟨rfl,rfl,λhm=>?_⟩,λbx'=>C2 h1.symm q1⟩⟩;obtain⟨css,aU,_⟩:=jH hm (hR.box k _ h2);obtain⟨lI,cg,_⟩:=jH (bx:=σ.bx) hm (C2 h1.symm q1);exact jAk aU cg
     .exact i2 x hx
    .simp at h
   .simp at AW
  .simp at h
 |.mv e x::as,u::us,.mv k e' t::fs,os,uo,⟨h0,h1,⟨xs,h2,lD⟩,h3⟩,h,q=>by
  simp only[mq]at h;split at h
  .rename_i u' eJ;simp only[j5]at h;subst h;obtain⟨i1,i2⟩:=uz hR h3 eJ (by simpa only[mh]using q);refine⟨by simp[i1,Bk.name],λx hx=>?_⟩;rcases je.1 hx with rfl|hx
   .exact⟨_,h2,.inl rfl⟩
   .exact i2 x hx
  .simp at h
 |.v _::as,_::us,fs,os,uo,h,h',q=>uz (as:=as) (zs:=us) (fs:=fs) hR h h' q
 |.ip _::as,_::us,fs,os,uo,h,h',q=>uz (as:=as) (zs:=us) (fs:=fs) hR h h' q
 |.clo _ _::as,_::us,fs,os,uo,h,h',q=>uz (as:=as) (zs:=us) (fs:=fs) hR h h' q
theorem T0(hR:Rel N np S0 w0 refs σ a w S γ){T1:List Nat}{S':aP}{w':World}(aM:dP S w S' w')(ew:∀g o,S' g o->S g o\/w.heap.size<=g\/g∈T1)(gf:∀g o,S' g o->g<w'.heap.size)
  {as:List Arg}{zs:List Value}{fs:List Bk}{os:List Out}{uo:Ups}(C3:∀g∈T1,g∈mvOf as zs)(lL:∀f∈fs,f.isMv=true->parK np f.name=false)(dL:gD σ.bx γ as zs fs)(fA:(fs.map Bk.name).Nodup)(ho:mq fs os=some uo)(hq:mh S' w' as zs os)
  (gk:∀g,g<w.heap.size->g∉eI as zs->w'.heap[g]? = w.heap[g]?)(fE:w.heap.size<=w'.heap.size)(qR:w'.os=w.os)(oU:w'.tape=w.tape)(dG:w'.output=w.output) :
  Rel N np S0 w0 refs (σ.upd uo) a w' S' γ:=by
 obtain⟨kO,xX⟩:=uz hR dL ho hq;have tj:(uo.map (·.1)).Nodup:=by rw[kO];exact fA
 have dV:σ.upd uo={ σ with bx:=(σ.upd uo).bx }:=by have:=AV uo σ;cases h:σ.upd uo;rw[h]at this;simp only at this;rw[this]
 have cT:∀k,(uo.any (λy=>y.1==k)=false/\(σ.upd uo).bx k=σ.bx k)\/(∃b,σ.bx k = .live b/\(σ.upd uo).bx k = .gone)\/(∃b b',σ.bx k = .live b/\(σ.upd uo).bx k = .live b'/\kH b b'/\∀bx',fy S' w' γ bx' k b'):=by
  intro k;by_cases hk:uo.any (λy=>y.1==k)=true
  .right;obtain⟨x,hx,he⟩:=zh.1 hk;have he:x.1=k:=by simpa using he
   subst he;obtain⟨b,h1,h2|⟨b',h2,h3,h4⟩⟩:=xX x hx
   .exact .inl ⟨b,h1,by rw[C1 uo σ tj (b:=x.2) hx,h2]⟩
   .exact .inr ⟨b,b',h1,by rw[C1 uo σ tj (b:=x.2) hx,h2],h3,h4⟩
  .left;have bK:uo.any (λy=>y.1==k)=false:=z6.2 hk;exact⟨bK,oL uo σ bK⟩
 have iv:∀k b,(σ.upd uo).bx k = .live b->∃b',σ.bx k = .live b':=by
  intro k b hb;rcases cT k with⟨_,h⟩|⟨b1,h1,_⟩|⟨b1,b2,h1,_⟩
  .exact⟨b,h▸hb⟩
  .exact⟨b1,h1⟩
  .exact⟨b1,h1⟩
 have hle:BxLe γ σ.bx γ (σ.upd uo).bx:=by
  intro k hk;rcases cT k with⟨_,h⟩|⟨b1,h1,h2⟩|⟨b1,b2,h1,h2,h3,_⟩
  .rw[h];exact⟨hk,rfl,λb hb=>⟨b,hb,.refl b⟩⟩
  .rw[h2];exact⟨by simp,rfl,λb hb=>by simp at hb⟩
  .rw[h2];exact⟨by simp,rfl,λb hb=>by simp at hb;subst hb;exact⟨b1,h1,h3⟩⟩
 have hrefs:∀g,g∈eI as zs->∃f∈fs,blk (γ f.name)=some g/\∃b,σ.bx f.name = .live b:=by intro g hg;rw[wy dL]at hg;obtain⟨f,hf,pz⟩:=v7.1 hg;exact⟨f,hf,pz,tx dL f hf⟩
 rw[dV]
 refine Rel.step hR aM hle ?_ ?_ ?_ ?_ gf ?_ (q9 hR.grow fE) (qR.trans hR.os) (oU.trans hR.tape) (dG.trans hR.output) (λg hg _ h=>⟨gk g hg (λhm=>by
  obtain⟨f,hf,pz,b',aT⟩:=hrefs g hm;exact h f.name b' aT pz),λk b hb=>by
  obtain⟨b',aT⟩:=iv k b hb;exact h k b' aT⟩)
 .intro k b hb;rcases cT k with⟨hk,h⟩|⟨b1,h1,h2⟩|⟨b1,b2,h1,h2,h3,h4⟩
  case inr.inl=>rw[h2]at hb;simp at hb
  .rw[h]at hb;refine fy.keep aM hle rfl (λg hg=>?_) (hR.box k b hb);have tn:=me (hR.box k b hb) hg;suffices cY:g∉eI as zs from⟨gk g tn cY,λo=>⟨λhs=>(ew g o hs).resolve_right (λh=>h.elim (λh=>by omega) λh=>cY (TY (C3 g h))),λhs=>(aM g o hs).1⟩⟩
   intro hm;obtain⟨f,hf,pz,b',aT⟩:=hrefs g hm
   have bk:k≠f.name:=by
    rintro rfl
    have:f.name∈uo.map (·.1):=by rw[kO];exact List.mem_map_of_mem hf
    obtain⟨x,hx,he⟩:=jt.1 this;have:=(z7.1 hk) x hx;simp[he]at this
   exact hR.apart k f.name b b' g bk hb aT hg pz
  .rw[h2]at hb;simp at hb;subst hb;exact h4 _
 .intro k b g hb hg;obtain⟨b',aT⟩:=iv k b hb;exact hR.own k b' g aT hg
 .intro k k' b1 b2 g bk h1 h2 hg;obtain⟨ub,my⟩:=iv k b1 h1;obtain⟨uc,lD⟩:=iv k' b2 h2;exact hR.apart k k' ub uc g bk my lD hg
 .intro g o hs;rcases ew g o hs with h|h|h
  .exact hR.new g o h
  .exact .inr (.inl (q9 hR.grow h))
  .obtain⟨f,hf,Hi,pz⟩:=wz dL (C3 g h);obtain⟨b',aT⟩:=tx dL f hf;rcases hR.own f.name b' g aT pz with h|h
   .exact .inr h
   .rw[lL f hf Hi]at h;simp at h
 .intro g hg hr;rw[gk g (qv hg hR.grow) (λhm=>?_)]
  .exact hR.below g hg hr
  .obtain⟨f,hf,pz,b',aT⟩:=hrefs g hm;rcases hR.own f.name b' g aT pz with h|h
   .exact h.no (by omega) hr
   .exact hr h.1
theorem jxw(hR:Rel N np S0 w0 refs σ a w S γ){d:Nat}(hd:σ.bx d = .free){v':Value}{b:Bx}
  (hv:∀g,blk v'=some g->(Own w0 refs g/\refs.kw g=none)/\∀k b,σ.bx k = .live b->blk (γ k)≠some g)(hb:fy S w (gset γ d v') (σ.setB d (.live b)).bx d b) :
  Rel N np S0 w0 refs (σ.setB d (.live b)) a w S (gset γ d v')/\BxLe γ σ.bx (gset γ d v') (σ.setB d (.live b)).bx:=by
 have hle:BxLe γ σ.bx (gset γ d v') (σ.setB d (.live b)).bx:=by
  intro k hk;have bk:k≠d:=by rintro rfl;exact hk hd
  rw[du σ _ bk,iA γ v' bk];exact⟨hk,rfl,λb hb=>⟨b,hb,.refl b⟩⟩
 refine⟨Rel.step (bx':=(σ.setB d (.live b)).bx) hR (.refl S w) hle ?_ ?_ ?_ hR.new hR.here hR.below hR.grow hR.os hR.tape hR.output (λg _ uh h=>⟨rfl,λk b' aT dL=>by
  by_cases hk:k=d
  .subst hk;rw[ic]at dL;exact uh (hv g dL).1.2
  .rw[du σ _ hk]at aT;rw[iA γ v' hk]at dL;exact h k b' aT dL⟩),hle⟩
 .intro k b' aT;by_cases hk:k=d
  .subst hk;rw[gY]at aT;simp at aT;subst aT;exact hb
  .rw[du σ _ hk]at aT;exact fy.keep (.refl S w) hle (iA γ v' hk) (λg hg=>⟨rfl,λ_=>Iff.rfl⟩) (hR.box k b' aT)
 .intro k b' g aT hg;by_cases hk:k=d
  .subst hk;rw[ic]at hg;exact .inl (hv g hg).1.1
  .rw[du σ _ hk]at aT;rw[iA γ v' hk]at hg;exact hR.own k b' g aT hg
 .intro k k' b1 b2 g bk h1 h2 hg ar;by_cases hk:k=d
  .subst hk;have bK:k'≠k:=λh=>bk h.symm;rw[ic]at hg;rw[du σ _ bK]at h2;rw[iA γ v' bK]at ar;exact(hv g hg).2 k' b2 h2 ar
  .by_cases bK:k'=d
   .subst bK;rw[ic]at ar;rw[du σ _ hk]at h1;rw[iA γ v' hk]at hg;exact(hv g ar).2 k b1 h1 hg
   .rw[du σ _ hk]at h1;rw[du σ _ bK]at h2;rw[iA γ v' hk]at hg;rw[iA γ v' bK]at ar;exact hR.apart k k' b1 b2 g bk h1 h2 hg ar
theorem xY{bx:Nat->BS}{x:TV}{u:Value}(h:VRep S w x u):cd S w γ bx (oH x.t x.v) u:=by
 obtain⟨t,v⟩:=x;obtain⟨h1,h2,h3⟩:=h;refine Kz t v _ u h1 (λhm=>?_) (λha hn=>?_)
 .have:jS t=true:=by
   rcases hm with hm|⟨n,b,rfl⟩
   .cases t<;>simp_all[jS,Ty.agg]
   .rfl
  obtain⟨cs,rfl⟩:=h2 this;simp[Value.cells]
 .have:jS t=false:=by cases t<;>simp_all[jS,Ty.agg]
  exact AY (h3 this)
theorem T2{n:Nat}{r:RV}{c:Cel}{u:Ups}(h:GQ n r=some (c,u)):∀x∈u,n<=x.1/\x.1<n+1:=by
 unfold GQ at h;split at h
 .simp only[j5,j9]at h;obtain⟨rfl,rfl⟩:=h;simp
 .simp only[j5,j9]at h;obtain⟨rfl,rfl⟩:=h;simp
 .simp at h
 .simp only[j5,j9]at h;obtain⟨rfl,rfl⟩:=h;simp
 .simp at h
 .split at h<;>(simp only[j5,j9]at h;obtain⟨rfl,rfl⟩:=h;simp)
 .simp only[j5,j9]at h;obtain⟨rfl,rfl⟩:=h;simp
theorem T3:∀{n:Nat}{rs:List RV}{cs:List Cel}{u:Ups},vU n rs=some (cs,u)->∀x∈u,n<=x.1
 |n,[],cs,u,h=>by simp[vU]at h;obtain⟨rfl,rfl⟩:=h;simp
 |n,r::rs,cs,u,h=>by
  simp only[vU]at h;split at h
  .rename_i c u1 h1;split at h
   .rename_i K4 u2 h2;simp only[j5,j9]at h;obtain⟨rfl,rfl⟩:=h;intro x hx;rcases jn.1 hx with hx|hx
    .exact(T2 h1 x hx).1
    .have:=T3 h2 x hx;omega
   .simp at h
  .simp at h
theorem T4{bx:Nat->BS}{ns:List Nat}:∀(k:Nat){ls:List Leaf}{cs:List Value},All2 (bZ S w γ bx) ls cs->(∀i∈ns,∀z,k<=i->cs[i-k]? = some z->z = .slice none 0 0)->
  All2 (bZ S w γ bx) ((ls.zipIdx k).map λy=>if ns.contains y.2 then .nil else y.1) cs
 |_,[],[],_,_=>trivial
 |k,l::ls,c::cs,h,hn=>by
  refine⟨?_,T4 (k+1) h.2 λi hi z hk hz=>hn i hi z (by omega) ?_⟩
  .by_cases hc:ns.contains k=true
   .simp only[hc,if_true];exact hn k (by simpa using hc) c (js _) (by simp)
   .simp only[hc];exact h.1
  .rw[show i-k=(i-(k+1))+1 by omega];simpa using hz
 |_,[],_::_,h,_=>h.elim
 |_,_::_,[],h,_=>h.elim
theorem T5:∀{rs:List RV}{vs:List Value}{n:Nat}{cs:List Cel}{un:Ups}{σ:St}{γ:Nat->Value},Rel N np S0 w0 refs σ a w S γ->vU n rs=some (cs,un)->All2 (qQ S w) rs vs->
  (∀x∈un,σ.bx x.1 = .free)->(gC rs vs).Nodup->(∀g∈gC rs vs,(Own w0 refs g/\refs.kw g=none)/\∀k b,σ.bx k = .live b->blk (γ k)≠some g)->
  ∃γ',Rel N np S0 w0 refs (σ.upd un) a w S γ'/\BxLe γ σ.bx γ' (σ.upd un).bx/\All2 (cd S w γ' (σ.upd un).bx) cs vs
 |[],[],n,cs,un,σ,γ,hR,h,_,_,_,_=>by
  simp[vU]at h;obtain⟨rfl,rfl⟩:=h;exact⟨γ,hR,.refl _ _,trivial⟩
 |r::rs,u::us,n,cs,un,σ,γ,hR,h,ha,bg,fA,hblk=>by
  simp only[vU]at h;split at h
  .rename_i c u1 h1;split at h
   .rename_i K4 u2 h2;simp only[j5,j9]at h;obtain⟨rfl,rfl⟩:=h
    have oV:∀(σ1:St)(γ1:Nat->Value),Rel N np S0 w0 refs σ1 a w S γ1->σ1=σ.upd u1->BxLe γ σ.bx γ1 σ1.bx->cd S w γ1 σ1.bx c u->(∀x∈u2,σ1.bx x.1 = .free)->
      (gC rs us).Nodup->(∀g∈gC rs us,(Own w0 refs g/\refs.kw g=none)/\∀k b,σ1.bx k = .live b->blk (γ1 k)≠some g)->
      ∃γ',Rel N np S0 w0 refs (σ.upd (u1++u2)) a w S γ'/\BxLe γ σ.bx γ' (σ.upd (u1++u2)).bx/\All2 (cd S w γ' (σ.upd (u1++u2)).bx) (c::K4) (u::us):=by
     intro σ1 γ1 bE he hle hc hf hn hb;obtain⟨γ',q1,q2,q3⟩:=T5 (σ:=σ1) (γ:=γ1) bE h2 ha.2 hf hn hb;subst he;rw[mz];refine⟨γ',q1,?_,cd.keep (.refl S w) q2 hc,q3⟩;intro k hk;obtain⟨a1,a2,a3⟩:=hle k hk;obtain⟨b1,b2,b3⟩:=q2 k a1;refine⟨b1,b2.trans a2,λb hb=>?_⟩;obtain⟨b',aT,dC⟩:=b3 b hb;obtain⟨KX,xV,xW⟩:=a3 b' aT;refine⟨KX,xV,?_⟩;exact xW.trans dC
    have rO:=T2 h1;have xZ:=T3 h2
    have ew:∀(v':Value)(b:Bx),(nj r u).toList=(blk v').toList->u1=[(n,.live b)]->(∀bx',fy S w (gset γ n v') bx' n b)->(∀bx',(bx' n = .live b)->cd S w (gset γ n v') bx' c u)->
      ∃γ',Rel N np S0 w0 refs (σ.upd (u1++u2)) a w S γ'/\BxLe γ σ.bx γ' (σ.upd (u1++u2)).bx/\All2 (cd S w γ' (σ.upd (u1++u2)).bx) (c::K4) (u::us):=by
     intro v' b gI Bg cL nW;subst Bg;have pB:σ.bx n = .free:=bg (n,.live b) (by simp);simp only[gC,gI]at fA hblk;obtain⟨bE,hle⟩:=jxw hR pB (v':=v') (b:=b) (λg hg=>hblk g (by simp[hg])) (cL _);refine oV _ _ bE rfl hle (nW _ (gY _ _ _)) (λx hx=>?_) ?_ (λg hg=>?_)
     .have:=xZ x hx;rw[du σ _ (by omega)];exact bg x (by simp[hx])
     .exact(List.nodup_append.1 fA).2.1
     .obtain⟨p1,p2⟩:=hblk g (by simp[hg]);refine⟨p1,λk b' aT he=>?_⟩;by_cases hk:k=n
      .subst hk;rw[ic]at he;have:=(List.nodup_append.1 fA).2.2 g (by simp[he]) g hg;exact this rfl
      .rw[du σ _ hk]at aT;rw[iA γ v' hk]at he;exact p2 k b' aT he
    unfold GQ at h1;split at h1
    .rename_i x;simp only[j5,j9]at h1;obtain⟨rfl,rfl⟩:=h1;refine oV σ γ hR rfl (.refl _ _) (xY ha.1) (λx hx=>bg x (by simp[hx])) ?_ ?_
     .simpa[gC,nj]using fA
     .simpa[gC,nj]using hblk
    .rename_i e el xs;simp only[j5,j9]at h1;obtain⟨rfl,rfl⟩:=h1;have aU:Bf S w e ⟨.list el,xs⟩ u:=ha.1;have dR:One u:=by obtain⟨t',ys,_,cg,_⟩:=aU;exact cg.one
     exact ew u _ rfl rfl (λbx'=>C2 (ic _ _ _) aU) (λbx' hb=>⟨⟨by rw[hb];simp,dR,λb _=>(ic γ n u).symm⟩,λ_=>dR⟩)
    .simp at h1
    .rename_i ls;simp only[j5,j9]at h1;obtain⟨rfl,rfl⟩:=h1;have C4:CZ S w ls u:=ha.1;obtain⟨g,cur,e,hu,_⟩:=id C4;have dR:One u:=by rw[hu];rfl
     exact ew u _ rfl rfl (λbx'=>K3 (ic _ _ _) C4) (λbx' hb=>⟨⟨by rw[hb];simp,dR,λb _=>⟨g,by rw[ic,hu],hu⟩⟩,λ_=>dR⟩)
    .simp at h1
    .rename_i x ns;have hv:VRep S w x u/\∀cs,u = .agg cs->∀i∈ns,∀z,cs.toList[i]? = some z->z = .slice none 0 0:=ha.1;have tz:cd S w γ σ.bx (oH x.t x.v) u:=xY hv.1
     have hc:cd S w γ σ.bx c u/\u1=[]:=by
      split at h1
      .rename_i ls he;simp only[j5,j9]at h1;obtain⟨rfl,rfl⟩:=h1;rw[he]at tz;obtain⟨cs,hu,au,dR⟩:=tz;exact⟨⟨cs,hu,T4 0 au λi hi z _ hz=>hv.2 cs hu i hi z (by simpa using hz),dR⟩,rfl⟩
      .simp only[j5,j9]at h1;obtain⟨rfl,rfl⟩:=h1;exact⟨tz,rfl⟩
     obtain⟨hc,rfl⟩:=hc;refine oV σ γ hR rfl (.refl _ _) hc (λx hx=>bg x (by simp[hx])) ?_ ?_
     .simpa[gC,nj]using fA
     .simpa[gC,nj]using hblk
    .rename_i f bF;simp only[j5,j9]at h1;obtain⟨rfl,rfl⟩:=h1;obtain⟨cv,hu,au⟩:∃cv:Array Value,u = .func (.func f) #[] cv/\All2 (jR S w) bF cv.toList:=ha.1;refine oV σ γ hR rfl (.refl _ _) ⟨⟨cv,hu,au⟩,λ_=>by rw[hu];rfl⟩ (λx hx=>bg x (by simp[hx])) ?_ ?_
     .simpa[gC,nj]using fA
     .simpa[gC,nj]using hblk
   .simp at h
  .simp at h
 |[],_::_,_,_,_,_,_,_,_,ha,_,_,_=>ha.elim
 |_::_,[],_,_,_,_,_,_,_,ha,_,_,_=>ha.elim
end
section
variable{N:NT}{np:Nat}{S0:aP}{w0:World}{refs:Refs}{σ:St}{a:Go.Act}{w:World}{S:aP}{γ:Nat->Value}
theorem K5{S':aP}{w':World}:∀(cs:List Cap)(cv:List Value)(os:List Out),mh S' w' (cs.map pr) cv os->os=[]
 |[],[],[],_=>rfl
 |[],[],_::_,h=>h.elim
 |[],_::_,_,h=>h.elim
 |c::cs,[],_,h=>by cases c<;>exact h.elim
 |.v _::cs,_::cv,os,h=>K5 cs cv os h
 |.p _::cs,_::cv,os,h=>K5 cs cv os h
theorem x8{S':aP}{w':World}{cs:List Cap}{cv:List Value}:∀{as:List Arg}{zs:List Value}{os:List Out},as.length=zs.length->
  mh S' w' (as++cs.map pr) (zs++cv) os->mh S' w' as zs os
 |[],[],os,_,h=>by
  have:=K5 cs cv os h;subst this;trivial
 |.ref ls::as,u::us,.ref ys::os,hl,⟨h1,h2⟩=>⟨h1,x8 (by simpa using hl) h2⟩
 |.rl e x::as,u::us,.rl y::os,hl,⟨h1,h2,h3⟩=>⟨h1,h2,x8 (by simpa using hl) h3⟩
 |.v _::as,_::us,os,hl,h=>x8 (as:=as) (zs:=us) (by simpa using hl) h
 |.ip _::as,_::us,os,hl,h=>x8 (as:=as) (zs:=us) (by simpa using hl) h
 |.clo _ _::as,_::us,os,hl,h=>x8 (as:=as) (zs:=us) (by simpa using hl) h
 |.mv _ _::as,_::us,os,hl,h=>x8 (as:=as) (zs:=us) (by simpa using hl) h
 |[],_::_,_,hl,_=>by simp at hl
 |_::_,[],_,hl,_=>by simp at hl
 |.ref _::_,_::_,[],_,h=>h.elim
 |.ref _::_,_::_,.rl _::_,_,h=>h.elim
 |.rl _ _::_,_::_,[],_,h=>h.elim
 |.rl _ _::_,_::_,.ref _::_,_,h=>h.elim
theorem gD.congr{bx bx':Nat->BS}:∀{as:List Arg}{us:List Value}{fs:List Bk},(∀f∈fs,bx' f.name=bx f.name)->gD bx γ as us fs->gD bx' γ as us fs
 |[],[],[],_,_=>trivial
 |.ref ls::as,u::us,.ref k::fs,hc,⟨h1,⟨ie,h2⟩,h3⟩=>
  ⟨h1,⟨ie,(hc (.ref k) (by simp)).trans h2⟩,gD.congr (λf hf=>hc f (by simp[hf])) h3⟩
 |.rl e x::as,u::us,.rl k e' t::fs,hc,⟨h0,h1,⟨xs,h2,hx⟩,h3⟩=>
  ⟨h0,h1,⟨xs,(hc (.rl k e' t) (by simp)).trans h2,hx⟩,gD.congr (λf hf=>hc f (by simp[hf])) h3⟩
 |.mv e x::as,u::us,.mv k e' t::fs,hc,⟨h0,h1,⟨xs,h2,hx⟩,h3⟩=>
  ⟨h0,h1,⟨xs,(hc (.mv k e' t) (by simp)).trans h2,hx⟩,gD.congr (λf hf=>hc f (by simp[hf])) h3⟩
 |.v _::as,_::us,fs,hc,h=>gD.congr (as:=as) (us:=us) hc h
 |.ip _::as,_::us,fs,hc,h=>gD.congr (as:=as) (us:=us) hc h
 |.clo _ _::as,_::us,fs,hc,h=>gD.congr (as:=as) (us:=us) hc h
theorem Bh{S1 S':aP}{w':World}(gN:∀g o,S g o->S' g o):∀{as:List Arg}{zs:List Value}{os:List Out},os.all Out.flat=true->mh S' w' as zs os->mh S w' as zs os
 |[],[],[],_,_=>trivial
 |.ref ls::as,u::us,.ref ys::os,hf,⟨⟨g,cur,e,h1,h2,h3,h4⟩,h5⟩=>by
  simp only[List.all_cons,jc,Out.flat]at hf;refine⟨⟨g,cur,e,h1,h2,?_,λo hs=>h4 o (gN g o hs)⟩,Bh (S1:=S1) gN hf.2 h5⟩;have hl:=hf.1;clear h1 h2 hf h4 h5;generalize cur.toList.take ys.length=l at h3;induction ys generalizing l with
  |nil=>cases l with|nil=>trivial|cons _ _=>exact h3.elim
  |cons y ys ih=>
   cases l with
   |nil=>exact h3.elim
   |cons z l=>simp only[List.all_cons,jc]at hl;exact⟨uy _ _ _ hl.1 h3.1,ih hl.2 l h3.2⟩
 |.rl e x::as,u::us,.rl y::os,hf,⟨⟨t,xs,h1,_⟩,_,_⟩=>by
  simp only[List.all_cons,jc,Out.flat,h1,Ty.flat]at hf;exact absurd hf.1 (by simp)
 |.v _::as,_::us,os,hf,h=>Bh (S1:=S1) (as:=as) (zs:=us) gN hf h
 |.ip _::as,_::us,os,hf,h=>Bh (S1:=S1) (as:=as) (zs:=us) gN hf h
 |.clo _ _::as,_::us,os,hf,h=>Bh (S1:=S1) (as:=as) (zs:=us) gN hf h
 |.mv _ _::as,_::us,os,hf,h=>Bh (S1:=S1) (as:=as) (zs:=us) gN hf h
theorem jAl{S S':aP}{w:World}{e:Nat}{a:Ty}{xs:List a.den}{u:Value}(hf:a.flat=true)(h:rB S' w e a xs u):rB S w e a xs u:=by
 rcases h with⟨hm,css,h1,h2⟩|⟨hm,h1⟩
 .exact .inl ⟨hm,css,h1,h2.mono λx c hx=>uy _ _ _ hf hx⟩
 .refine .inr ⟨hm,?_⟩;revert hf h1;cases a with
  |pair k b=>intro hf h1;simp only[Ty.flat,jc]at hf;obtain⟨g,es,clock,hu,hh,ha,hq⟩:=h1;exact⟨g,es,clock,hu,hh,ha.mono λx e hx=>⟨uy _ _ _ hf.1 hx.1,uy _ _ _ hf.2 hx.2.1,hx.2.2⟩,hq⟩
  |_=>intro _ h1;exact h1.elim
theorem T6{S':aP}{w':World}(gN:∀g o,S g o->S' g o):∀{rs:List RV}{vs:List Value},rs.all RV.flat=true->All2 (qQ S' w') rs vs->All2 (qQ S w') rs vs
 |[],[],_,_=>trivial
 |r::rs,v::vs,hf,h=>by
  simp only[List.all_cons,jc]at hf;have i1:=T6 gN hf.2 h.2;cases r with
  |v x=>obtain⟨h1,h2,h3⟩:=h.1;exact⟨⟨uy _ _ _ hf.1 h1,h2,h3⟩,i1⟩
  |own e x=>obtain⟨a,xs,rfl,h1,h2⟩:=h.1;exact⟨⟨a,xs,rfl,jAl hf.1 h1,λg hg o hs=>h2 g hg o (gN g o hs)⟩,i1⟩
  |box ls=>simp[RV.flat]at hf
  |hd n=>simp[RV.flat]at hf
  |vn x ns=>simp[RV.flat]at hf
  |clo f cs=>simp[RV.flat]at hf
 |[],_::_,_,h=>h.elim
 |_::_,[],_,h=>h.elim
theorem jAm{rd:Nat->BS}(bc:RdOk σ rd){un:Ups}(h:un.all (λe=>iO (rd e.1))=true):∀x∈un,σ.bx x.1 = .free:=
 λx hx=>bc.free (jy.1 h x hx)
theorem All2.len{α β:Type}{R:α->β->Prop}{as:List α}{bs:List β}(h:All2 R as bs):as.length=bs.length:=h.length
theorem jCN{γ':Nat->Value}{bx:Nat->BS}{S':aP}{w':World}{tmv:Nat->Value}{cs:List Cel}{vs:List Value}(h:All2 (cd S' w' γ' bx) cs vs) :
  iH S' w' γ' bx tmv (SR cs) (tw vs):=by
 match cs,vs,h with
 |[c],[v],h=>exact h.1
 |[],[],h=>exact⟨#[],rfl,trivial⟩
 |c::c'::cs,v::v'::vs,h=>exact⟨(v::v'::vs).toArray,rfl,by simpa using h⟩
 |[c],v::v'::vs,h=>exact h.2.elim
 |c::c'::cs,[v],h=>exact h.2.elim
 |[],v::vs,h=>exact h.elim
 |c::cs,[],h=>exact h.elim
theorem Hj{bx:Nat->BS}{k e:Nat}{t:Ty}:∀{as:List Arg}{us:List Value}{fs:List Bk},gD bx γ as us (.rl k e t::fs)->∀(bs:List Arg)(vs:List Value),Hg (as++bs) (us++vs)=some (γ k)
 |.rl e x::as,u::us,fs,⟨_,h1,_,_⟩,bs,vs=>by rw[<-h1];rfl
 |.v _::as,_::us,fs,h,bs,vs=>Hj (as:=as) (us:=us) (fs:=fs) h bs vs
 |.ip _::as,_::us,fs,h,bs,vs=>Hj (as:=as) (us:=us) (fs:=fs) h bs vs
 |.clo _ _::as,_::us,fs,h,bs,vs=>Hj (as:=as) (us:=us) (fs:=fs) h bs vs
 |[],[],fs,h,_,_=>h.elim
 |.ref _::as,_::us,fs,h,_,_=>h.elim
 |.mv _ _::as,_::us,fs,h,_,_=>h.elim
 |[],_::_,fs,h,_,_=>h.elim
 |_::_,[],fs,h,_,_=>by cases ‹Arg› <;> exact h.elim
theorem T7:∀(as:List Arg)(us:List Value)(bs:List Arg)(vs:List Value),as.length=us.length->mvOf (as++bs) (us++vs)=mvOf as us++mvOf bs vs
 |[],[],bs,vs,_=>rfl
 |a::as,u::us,bs,vs,h=>by
  have ih:=T7 as us bs vs (by simpa using h);cases a<;>simp[mvOf,ih]
 |[],_::_,_,_,h=>by simp at h
 |_::_,[],_,_,h=>by simp at h
theorem T8:∀(cs:List Cap)(zs:List Value),mvOf (cs.map pr) zs=[]
 |[],_=>by cases ‹List Value› <;> rfl
 |c::cs,[]=>by cases c<;>rfl
 |c::cs,z::zs=>by cases c<;>simp[mvOf,pr,T8 cs zs]
theorem Hk:∀{fs:List Bk}{os:List Out}{uo:Ups}{f:Bk},mq fs os=some uo->f∈fs->f.isMv=true->(f.name,BS.gone)∈uo
 |[],os,uo,f,_,hf,_=>by simp at hf
 |.mv k e a::fs,os,uo,f,h,hf,hm=>by
  simp only[mq]at h;split at h
  .rename_i u' eJ;simp only[j5]at h;subst h;rcases je.1 hf with rfl|hf
   .exact v2
   .exact qr _ (Hk eJ hf hm)
  .simp at h
 |.ref k::fs,[],uo,f,h,hf,hm=>by simp[mq]at h
 |.rl k e a::fs,[],uo,f,h,hf,hm=>by simp[mq]at h
 |.ref k::fs,o::os,uo,f,h,hf,hm=>by
  simp only[mq]at h;split at h
  .split at h
   .rename_i u' eJ;simp only[j5]at h;subst h;rcases je.1 hf with rfl|hf
    .simp[Bk.isMv]at hm
    .exact qr _ (Hk eJ hf hm)
   .simp at h
  .simp at h
 |.rl k e a::fs,o::os,uo,f,h,hf,hm=>by
  simp only[mq]at h;split at h
  .split at h
   .rename_i u' eJ;simp only[j5]at h;subst h;rcases je.1 hf with rfl|hf
    .simp[Bk.isMv]at hm
    .exact qr _ (Hk eJ hf hm)
   .simp at h
  .simp at h
theorem jvY{P:Program}(hR:Rel N np S0 w0 refs σ a w S γ){rw rd rdf:Nat->BS}(oW:RdR σ rw)(bc:RdOk σ rd)(bL:RdF np σ rdf){T:Nat->Option TyI}{ts:List Nat}{ms:List Bool}{cs:List Cel}{as:List Arg}{us:Ups}{fs:List Bk}{zs:List Value}
  {mv:Bool}(h:qE rw rdf T mv ts ms cs=some (as,us,fs))(ha:All2 (cd S w γ σ.bx) cs zs)(bH:bkOk us fs=true)
  {bF:List Cap}{cv:List Value}(kP:All2 (jR S w) bF cv){g:Nat}{K:Ret->Prop}
  (ee:Hh P g (as++bF.map pr) K)(n:Nat) :
  Calls P g (zs++cv).toArray w λe w'=>∃ret,K ret/\∀s u,xw rd rdf n us fs ret=some (s,u)->∃v S' γ',e = .returned v/\Rel N np S0 w0 refs (σ.upd u) a w' S' γ'/\iH S' w' γ' (σ.upd u).bx (tm a) s v:=by
 obtain⟨fk,dL,rF⟩:=TS hR oW bL h ha;simp only[bkOk,jc]at bH;obtain⟨fA,x9⟩:=bH;have fA:=C0 fA
 have hlen:as.length=zs.length:=by
  have:∀{as:List Arg}{us:List Value}{fs:List Bk},gD σ.bx γ as us fs->as.length=us.length:=by
   intro as;induction as with
   |nil=>intro us fs hh;cases us with|nil=>rfl|cons _ _=>exact hh.elim
   |cons a as ih=>
    intro us fs hh;cases us with
    |nil=>cases a<;>exact hh.elim
    |cons u us=>
     cases a with
     |v x=>have:=ih (us:=us) (fs:=fs) hh;simp[this]
     |ip x=>have:=ih (us:=us) (fs:=fs) hh;simp[this]
     |clo x y=>have:=ih (us:=us) (fs:=fs) hh;simp[this]
     |ref ls=>match fs,hh with|.ref k::fs,⟨_,_,h3⟩=>have:=ih h3;simp[this]
     |rl e x=>match fs,hh with|.rl k e' t::fs,⟨_,_,_,h3⟩=>have:=ih h3;simp[this]
     |mv e x=>match fs,hh with|.mv k e' t::fs,⟨_,_,_,h3⟩=>have:=ih h3;simp[this]
  exact this dL
 obtain⟨S1,bE,dr,lN,dS⟩:=qM us σ S hR fk;have C5:∀k,k∈fs.map Bk.name->us.any (λy=>y.1==k)=false:=by intro k hk;rw[z7];intro x hx he;have:=jy.1 x9 x hx;simp only[vj]at he;subst he;simp only[kp,qf,kn]at this;exact this hk
 have rP:∀f∈fs,(σ.upd us).bx f.name=σ.bx f.name:=λf hf=>oL us σ (C5 _ (List.mem_map_of_mem hf));have yu:=dL.congr rP
 have pD:∀k b,fs.any (λy=>y.name==k)=true->σ.bx k = .live b->∀g,blk (γ k)=some g->∀o,¬S1 g o:=by
  intro k b hk hb g hg o;obtain⟨f,hf,he⟩:=zh.1 hk;have he:f.name=k:=by simpa using he
  subst he;have eZ:(σ.upd us).bx f.name = .live b:=(rP f hf).trans hb;have cL:=bE.box f.name b eZ
  have mB:(∃ie,b = .cell ie false)\/(∃e t xs,b = .lst e t xs false):=by
   have:∀{as:List Arg}{us:List Value}{fs:List Bk},gD σ.bx γ as us fs->f∈fs->(∃ie,σ.bx f.name = .live (.cell ie false))\/(∃e t xs,σ.bx f.name = .live (.lst e t xs false)):=by
    intro as;induction as with
    |nil=>intro us fs hh hm;match us,fs,hh with|[],[],_=>simp at hm
    |cons a as ih=>
     intro us fs hh hm;cases us with
     |nil=>cases a<;>exact hh.elim
     |cons u us=>
      cases a with
      |v x=>exact ih (us:=us) (fs:=fs) hh hm
      |ip x=>exact ih (us:=us) (fs:=fs) hh hm
      |clo x y=>exact ih (us:=us) (fs:=fs) hh hm
      |ref ls=>
       match fs,hh with
       |.ref k::fs,⟨_,⟨ie,h2⟩,h3⟩=>
        rcases je.1 hm with rfl|hm
        .exact .inl ⟨ie,h2⟩
        .exact ih h3 hm
      |rl e x=>
       match fs,hh with
       |.rl k e' t::fs,⟨_,_,⟨xs,h2,_⟩,h3⟩=>
        rcases je.1 hm with rfl|hm
        .exact .inr ⟨_,t,xs,h2⟩
        .exact ih h3 hm
      |mv e x=>
       match fs,hh with
       |.mv k e' t::fs,⟨_,_,⟨xs,h2,_⟩,h3⟩=>
        rcases je.1 hm with rfl|hm
        .exact .inr ⟨_,t,xs,h2⟩
        .exact ih h3 hm
   rcases this dL hf with⟨ie,h2⟩|⟨e,t,xs,h2⟩
   .rw[hb]at h2;simp at h2;exact .inl ⟨ie,h2⟩
   .rw[hb]at h2;simp at h2;exact .inr ⟨e,t,xs,h2⟩
  rcases mB with⟨ie,rfl⟩|⟨e,t,xs,rfl⟩
  .obtain⟨g',cur,e,ar,_,_,_,hS,_⟩:=cL;rw[ar]at hg;simp[blk]at hg;subst hg;exact hS rfl o
  .exact(cL.2 g hg).1 rfl o
 have fi:All2 (oT S1 w) as zs:=rF S1 dr lN pD;have C6:All2 (oT S1 w) (bF.map pr) cv:=TU (kP.mono (λx z hx=>jR.keep dr hx));have hrefs:eI (as++bF.map pr) (zs++cv)=eI as zs:=by rw[TX _ _ _ _ hlen,TW,qm]
 have uA:(eI as zs).Nodup:=by rw[wy dL];have:=KZ hR fA (λk hk=>by obtain⟨f,hf,rfl⟩:=jt.1 hk;exact tx dL f hf);rwa[List.filterMap_map]at this
 refine(ee w S1 (zs++cv) (fi.append C6) (by rw[hrefs];exact uA) bE.here).mono ?_
 rintro e w' ⟨ret,hK,v,S',vs,rfl,cW⟩
 refine⟨ret,hK,λs u cI=>?_⟩;obtain⟨fm,bS,rQ,nX,fF,lO,ew,gf,gk,fE,qR,oU,dG,rR⟩:=cW;rw[hrefs]at gk;have K6:mvOf (as++bF.map pr) (zs++cv)=mvOf as zs:=by rw[T7 _ _ _ _ hlen,T8,qm]
 rw[K6]at rQ ew;have lL:∀f∈fs,f.isMv=true->parK np f.name=false:=TZ bL h;have fF:=x8 hlen fF;refine⟨v,?_⟩;unfold xw at cI;split at cI
 ·-- the list K7 first,cut short
  rename_i m Hl;unfold mkHd at cI;generalize gm:ret.outs=ro at cI fF;split at cI
  .rename_i k e el TT y qS _;split at cI
   .rename_i uo ys rS ij;split at cI
    .rename_i dy;simp only[jc]at dy;simp only[j5,j9]at cI;obtain⟨rfl,rfl⟩:=cI;have cH:=T0 bE lO ew gf (λ_ h=>h) lL yu fA rS fF gk fE qR oU dG;obtain⟨kO,oX⟩:=uz bE yu rS fF;have tj:(uo.map (·.1)).Nodup:=by rw[kO];exact fA
     have K8:(k,BS.live (.lst e el ys false))∈uo:=by
      simp only[mq,GP,ij]at rS;split at rS
      .simp only[j5]at rS;rw[<-rS];exact v2
      .simp at rS
     have ga:=C1 uo (σ.upd us) tj K8;obtain⟨bl,uB⟩:=CJ dy.2;have oP:=bL.par uB;have h0:=bc.free dy.1;have h1:(σ.upd us).bx n = .free:=dS.free h0;have nY:((σ.upd us).upd uo).bx n = .free:=by rw[oL uo,h1];rw[z7];intro y hy he;simp only[vj]at he;obtain⟨b0,h2,_⟩:=oX y hy;rw[he,h1]at h2;simp at h2
     obtain⟨ad,len,cap,ir,yw,lG⟩:=rR m Hl;have Bi:γ k = .slice ad len cap:=by have:=Hj dL (bF.map pr) cv;rw[ir]at this;simpa using this.symm
     have oQ:len=ys.length:=by
      obtain⟨css,aU,_⟩:=GY Bi (cH.box k _ ga);rcases aU.2 with⟨ar,hn⟩|⟨g,gH,cur,ar,_⟩
      .rw[Bi]at ar;simp only[Value.slice.injEq]at ar;omega
      .rw[Bi]at ar;simp only[Value.slice.injEq]at ar;omega
     obtain⟨γ',dT,gy⟩:=jAi cH ga oP nY (m:=m) (by omega) (by rw[Bi,oQ]);refine⟨S',γ',rfl,by rw[mz,mz];exact dT,?_⟩;rw[fm,lG,mz,mz];exact gy
    .simp at cI
   .simp at cI
  .simp at cI
 split at cI
 .rename_i uo rS;split at cI
  .rename_i C7 un mi;split at cI
   .rename_i bg;have bg:=jAm bc bg
    have dY:∀(lP:Ups)(Sx Sy:aP),(lP=us\/lP=[])->Rel N np S0 w0 refs (σ.upd lP) a w Sx γ->dP Sx w Sy w'->(∀g o,Sy g o->Sx g o\/w.heap.size<=g\/g∈mvOf as zs)->(∀g o,Sy g o->g<w'.heap.size)->
      mh Sy w' as zs ret.outs->All2 (qQ Sy w') ret.vals vs->
      ∃S' γ',Rel N np S0 w0 refs (σ.upd (lP++uo++un)) a w' S' γ'/\All2 (cd S' w' γ' (σ.upd (lP++uo++un)).bx) C7 vs:=by
     intro lP Sx Sy uC uD yx C8 yy wA C9
     have uE:gD (σ.upd lP).bx γ as zs fs:=by
      rcases uC with rfl|rfl
      .exact yu
      .exact dL
     have cH:=T0 uD yx C8 yy (λ_ h=>h) lL uE fA rS wA gk fE qR oU dG;obtain⟨kO,oX⟩:=uz uD uE rS wA
     have rT:∀k b,((σ.upd lP).upd uo).bx k = .live b->∃b',(σ.upd lP).bx k = .live b':=by
      intro k b hb;by_cases hk:uo.any (λy=>y.1==k)=true
      .obtain⟨x,hx,he⟩:=zh.1 hk;have he:x.1=k:=by simpa using he
       subst he;obtain⟨b0,h0,_⟩:=oX x hx;exact⟨b0,h0⟩
      .rw[oL uo _ (z6.2 hk)]at hb;exact⟨b,hb⟩
     have nY:∀x∈un,((σ.upd lP).upd uo).bx x.1 = .free:=by
      intro x hx;have h0:=bg x hx
      have h1:(σ.upd lP).bx x.1 = .free:=by
       rcases uC with rfl|rfl
       .exact dS.free h0
       .exact h0
      rw[oL uo,h1];rw[z7];intro y hy he;simp only[vj]at he;obtain⟨b0,h2,_⟩:=oX y hy;rw[he,h1]at h2;simp at h2
     obtain⟨γ',gj,_,nW⟩:=T5 cH mi C9 nY nX (λg hg=>by
      rcases rQ g hg with qO|hgm
      .refine⟨⟨.inl (q9 hR.grow qO),hR.kw_new qO⟩,λk b hb he=>?_⟩;obtain⟨b',aT⟩:=rT k b hb;have:=me (uD.box k b' aT) he;omega
      .obtain⟨f,hf,Hi,pz⟩:=wz uE hgm;obtain⟨bf,Bj⟩:=tx uE f hf;refine⟨⟨?_,uD.kw_live Bj pz⟩,λk b hb he=>?_⟩
       .rcases uD.own f.name bf g Bj pz with h|h
        .exact h
        .rw[lL f hf Hi]at h;simp at h
       .obtain⟨b',aT⟩:=rT k b hb
        have hkf:k≠f.name:=by
         rintro rfl
         have Da:=Hk rS hf Hi;rw[C1 uo (σ.upd lP) (by rw[kO];exact fA) Da]at hb;simp at hb
        exact uD.apart k f.name b' bf g hkf aT Bj he pz)
     refine⟨Sy,γ',?_,?_⟩
     .rw[mz,mz];exact gj
     .rw[mz,mz];exact nW
    have cT:∃lP,(lP=us\/lP=[])/\lP=(if ret.vals.all RV.flat&&ret.outs.all Out.flat then [] else us)/\
      ∃S' γ',Rel N np S0 w0 refs (σ.upd (lP++uo++un)) a w' S' γ'/\All2 (cd S' w' γ' (σ.upd (lP++uo++un)).bx) C7 vs:=by
     by_cases mC:(ret.vals.all RV.flat&&ret.outs.all Out.flat)=true
     .refine⟨[],.inr rfl,by rw[if_pos mC],?_⟩;obtain⟨py,ud⟩:=Bool.and_eq_true_iff.1 mC;have gN:∀g o,S g o->S' g o:=λg o hs=>(lO g o (dr g o hs).1).1
      refine dY [] S S (.inr rfl) hR (λg o hs=>⟨hs,(lO g o (dr g o hs).1).2⟩) (λg o hs=> .inl hs) (λg o hs=>qv (hR.here g o hs) fE)
       (Bh (S1:=S1) gN ud fF) (T6 gN py bS)
     .exact⟨us,.inl rfl,by rw[if_neg mC],dY us S1 S' (.inl rfl) bE lO ew gf fF bS⟩
    obtain⟨lP,_,uC,S2,γ2,cH,wB⟩:=cT
    have hs:s=SR C7/\u=(if ret.vals.all RV.flat&&ret.outs.all Out.flat then [] else us)++uo++un:=by
     clear wB dY cH mi;revert cI;match C7 with
     |[c]=>simp only[j5,j9];rintro⟨rfl,rfl⟩;exact⟨rfl,rfl⟩
     |[]=>simp only[j5,j9];rintro⟨rfl,rfl⟩;exact⟨rfl,rfl⟩
     |c::c'::r=>simp only[j5,j9];rintro⟨rfl,rfl⟩;exact⟨rfl,rfl⟩
    obtain⟨rfl,rfl⟩:=hs;rw[<-uC];exact⟨S2,γ2,rfl,cH,by rw[fm];exact jCN wB⟩
   .simp at cI
  .simp at cI
 .simp at cI
theorem Hm{P:Program}{f:Nat}(hf:Fun P f){o:Oper}{cl:Call}(ho:o.op = .call cl){x:Operand}(hc:cl.callee = .value x){cv:Array Value}(hx:a.eval x = .func (.func f) #[] cv) :
  (execOp a.eval o).run P w = .ok (.enter f (cl.args.map a.eval++cv)) w:=by
 obtain⟨fn,h1,h2,h3⟩:=hf;have lD:¬fn.body=none:=λhn=>by rw[hn]at h2;simp at h2
 have wC : ¬ fn.name = "runtime.NumGoroutine" := by simpa using h3
 simp[execOp,ho,resolve,hc,Deferred.ofValue,hx,invoke,callFunc,h1,lD,wC]
end
section
variable{N:NT}{np:Nat}{S0:aP}{w0:World}{refs:Refs}{σ:St}{a:Go.Act}{w:World}{S:aP}{γ:Nat->Value}
def keyV:(k:Ty)->k.den->Value
 |.int q,n=> .int q n
 |.str,s=> .string s
 |_,_=>undef
theorem Bl:∀{k:Ty}{x:k.den}{u:Value},k.isKey=true->(Rep S w k x [u]↔u=keyV k x)
 |.int q,x,u,_=>by simp[Rep,keyV]
 |.str,x,u,_=>by simp[Rep,keyV]
 |.bool,_,_,h=>by simp[Ty.isKey]at h
 |.unit,_,_,h=>by simp[Ty.isKey]at h
 |.wrap _,_,_,h=>by simp[Ty.isKey]at h
 |.pair _ _,_,_,h=>by simp[Ty.isKey]at h
 |.list _,_,_,h=>by simp[Ty.isKey]at h
 |.arr _ _,_,_,h=>by simp[Ty.isKey]at h
def keyD:Ty->TypeDesc
 |.int q=> .int q
 |_=> .string
theorem jAn{P:Program}{T:Nat->Option TyI}(hT:cO P T){n:Nat}{ti:TyI}(hn:T n=some ti){k:Ty}(bR:ti.ty=some k)(hk:k.isKey=true):P.underlying n=some (keyD k):=by
 cases k with
 |int q=>exact Ku hT hn bR
 |str=>exact KC hT hn bR
 |_=>simp[Ty.isKey]at hk
theorem T9{k:Ty}(hk:k.isKey=true)(x:k.den):MapKept.IsKey (keyD k) (keyV k x):=by
 cases k with
 |int q=>rfl
 |str=>trivial
 |_=>simp[Ty.isKey]at hk
theorem K9{k:Ty}(hk:k.isKey=true)(x y:k.den):Instr.sameNow (keyD k) (keyV k x) (keyV k y)=some (@BEq.beq _ k.keq x y):=by
 cases k with
 |int q=>simp[keyD,keyV,Instr.sameNow]
 |str=>simp[keyD,keyV,Instr.sameNow]
 |_=>simp[Ty.isKey]at hk
theorem jE1{k:Ty}(hk:k.isKey=true){x y:k.den}(h:@BEq.beq _ k.keq x y=true):x=y:=by
 cases k with
 |int q=>simpa[Ty.keq]using h
 |str=>exact(MapKept.bytes_beq x y).1 h
 |_=>simp[Ty.isKey]at hk
theorem Ua{k:Ty}(hk:k.isKey=true)(x:k.den):Instr.sameBits 10000 (keyV k x) (keyV k x)=true:=by
 cases k with
 |int q=>simp[keyV,Instr.sameBits]
 |str=>simp only[keyV,Instr.sameBits];exact(MapKept.bytes_beq x x).2 rfl
 |_=>simp[Ty.isKey]at hk
def yz(S:aP)(w:World)(k v:Ty)(x:k.den×v.den)(e:MapEntry):Prop:=Rep S w k x.1 [e.key]/\VRep S w ⟨v,x.2⟩ e.val
theorem La{k v:Ty}(hk:k.isKey=true)(q:k.den):∀{xs:List (k.den×v.den)}{es:List MapEntry},All2 (yz S w k v) xs es->∀i:Nat,
  (@ej _ _ k.keq xs q=true/\∃j e,Instr.findNow (keyD k) (keyV k q) es i=some (some (i+j,e.val))/\es[j]? = some e/\e.key=keyV k q/\VRep S w ⟨v,@dx _ _ k.keq v.dflt xs q⟩ e.val/\
   ∀(z:v.den)(e':MapEntry),e'.key=keyV k q->VRep S w ⟨v,z⟩ e'.val->All2 (yz S w k v) (@ea _ _ k.keq xs q z) (es.set j e'))\/
  (@ej _ _ k.keq xs q=false/\Instr.findNow (keyD k) (keyV k q) es i=some none/\@dx _ _ k.keq v.dflt xs q=v.dflt/\∀z,@ea _ _ k.keq xs q z=xs++[(q,z)])
 |[],[],_,i=> .inr ⟨rfl,rfl,rfl,λ_=>rfl⟩
 |x::xs,e::es,h,i=>by
  have tA:e.key=keyV k x.1:=(Bl hk).1 h.1.1;have hs:=K9 hk q x.1;rw[<-tA]at hs;cases hb:@BEq.beq _ k.keq q x.1 with
  |true=>
   rw[hb]at hs;have hqx:=jE1 hk hb;refine .inl ⟨by simp[ej,hb],0,e,by simp[Instr.findNow,hs],rfl,by rw[tA,hqx],?_,λz e' h1 h2=>?_⟩
   .simp only[dx,hb,j6];exact h.1.2
   .simp only[ea,hb,j6,List.set_cons_zero];exact⟨⟨(Bl hk).2 h1,h2⟩,h.2⟩
  |false=>
   rw[hb]at hs;rcases La hk q h.2 (i+1) with⟨h1,j,e',h2,h3,h4,h5,h6⟩|⟨h1,h2,h3,h4⟩
   .refine .inl ⟨by simp only[ej,List.any_cons,hb,zt];exact h1,j+1,e',by simp only[Instr.findNow,hs,h2];congr 3;omega,by simpa using h3,h4,?_,λz e2 g1 g2=>?_⟩
    .simp only[dx,hb,j7];exact h5
    .simp only[ea,hb,j7,List.set_cons_succ];exact⟨h.1,h6 z e2 g1 g2⟩
   .refine .inr ⟨by simp only[ej,List.any_cons,hb,zt];exact h1,by simp only[Instr.findNow,hs,h2],?_,λz=>?_⟩
    .simp only[dx,hb,j7];exact h3
    .simp only[ea,hb,j7,h4 z];rfl
 |[],_::_,h,_=>h.elim
 |_::_,[],h,_=>h.elim
theorem Ub{k v:Ty}(hk:k.isKey=true){q:k.den}:∀{xs:List (k.den×v.den)}{es:List MapEntry},All2 (yz S w k v) xs es->@ej _ _ k.keq xs q=false->∀e∈es,e.key≠keyV k q
 |[],[],_,_=>by simp
 |x::xs,e::es,h,hn=>by
  simp only[ej,List.any_cons,vz]at hn;intro e' Bm;rcases je.1 Bm with rfl|Bm
  .intro hq;have tA:=(Bl hk).1 h.1.1;have hs:=K9 hk q x.1;rw[<-tA,hq,K9 hk q q,hn.1]at hs;simp only[j5]at hs;have:=Ua hk q;cases k with
   |int z=>simp at hs
   |str=>have:=(MapKept.bytes_beq q q).2 rfl;exact absurd (hs.symm.trans this) (by simp)
   |_=>simp[Ty.isKey]at hk
  .exact Ub hk h.2 hn.2 e' Bm
 |[],_::_,h,_=>h.elim
 |_::_,[],h,_=>h.elim
theorem Lb{P:Program}{T:Nat->Option TyI}(hT:cO P T){t:Nat}{k v:Ty}(h:ry T t=some (k,v)) :
  ∃kt vt tv,P.underlying t=some (.map kt vt)/\P.underlying kt=some (keyD k)/\k.isKey=true/\T vt=some tv/\tv.ty=some v:=by
 unfold ry at h;split at h
 .rename_i ti wg;split at h
  .rename_i k0 v0 hmp;split at h
   .rename_i tk tv kQ Bn;split at h
    .rename_i k1 v1 dJ Db;split at h
     .rename_i mD;simp only[j5,j9]at h;obtain⟨rfl,rfl⟩:=h;exact⟨k0,v0,tv,jCE hT wg hmp,jAn hT kQ dJ mD,mD,Bn,Db⟩
     .simp at h
    .simp at h
   .simp at h
  .simp at h
 .simp at h
theorem Uc{rw:Nat->BS}(oW:RdR σ rw){t:Nat}{k v:Ty}{x y:Leaf}{b:Nat}{ys:List (k.den×v.den)}{q:k.den}(h:mapC rw t k v x y=some (b,ys,q)) :
  x = .ol b/\y = .d k q/\σ.bx b = .live (.lst (4294967296+t) (.pair k v) ys false):=by
 unfold mapC at h;split at h
 .rename_i b0 tk key;split at h
  .rename_i e a0 xs hb;split at h
   .rename_i he;split at h
    .rename_i Kh q' h1 h2;simp only[j5,j9]at h;obtain⟨rfl,rfl,rfl⟩:=h;have e1:=ng h1;have e2:=ng h2;cases e1;cases e2;subst he;exact⟨rfl,rfl,oW.live hb⟩
    .simp at h
   .simp at h
  .simp at h
 .simp at h
theorem Dc(t:Nat):isM (4294967296+t)=true:=by
 unfold isM;rw[Nat.ble_eq];exact Nat.le_add_right _ _
theorem Ud(hR:Rel N np S0 w0 refs σ a w S γ){b t:Nat}{k v:Ty}{ys:List (k.den×v.den)}{f:Bool}(hb:σ.bx b = .live (.lst (4294967296+t) (.pair k v) ys f)) :
  ∃g es clock,γ b = .map (some g)/\w.heap[g]? = some (.map es clock)/\All2 (yz S w k v) ys es.toList/\wb es clock:=by
 have h:=(hR.box b _ hb).1;rcases h with⟨hm,_⟩|⟨_,g,es,clock,h1,h2,h3,h4⟩
 .rw[Dc]at hm;simp at hm
 .exact⟨g,es,clock,h1,h2,h3,h4⟩
theorem jxB{P:Program}{T:Nat->Option TyI}(hT:cO P T){n:Nat}{ti:TyI}(hn:T n=some ti){t:Ty}(bR:ti.ty=some t):∃z,(zeroValue n).run P w = .ok z w/\VRep S w ⟨t,t.dflt⟩ z:=by
 obtain⟨i,d,hi,hd,hs,_,ha,_,h⟩:=nf hT hn;obtain⟨_,⟨z,hz,hc⟩,hdo⟩:=h t bR;have Ue:=jA8 hT hn hi hd;refine⟨z,by simp[zeroValue,typeInfo,hi,hz],?_,?_,?_⟩
 .rw[hc];exact qN t
 .intro hm;have:aggD d=true:=by cases d<;>cases t<;>simp_all[lu,jS,aggD,Ty.agg]
  simp only[zOk,hz]at Ue;cases z<;>simp_all
 .intro hm;have:aggD d=false:=by cases d<;>cases t<;>simp_all[lu,jS,aggD,Ty.agg]
  simp only[zOk,hz]at Ue;cases z<;>first|rfl|simp_all
theorem jt0{P:Program}{E:Env}(hT:cO P E.T)(hR:Rel N np S0 w0 refs σ a w S γ){rw:Nat->BS}(oW:RdR σ rw){t:Nat}{k v:Ty}(ht:ry E.T t=some (k,v)){x y:Leaf}{b:Nat}{ys:List (k.den×v.den)}{q:k.den}
  (h:mapC rw t k v x y=some (b,ys,q)){zx zy:Value}(hx:bZ S w γ σ.bx x zx)(hy:bZ S w γ σ.bx y zy) :
  ∃z,VRep S w ⟨v,@dx _ _ k.keq v.dflt ys q⟩ z/\∀ok,(Instr.lookup t zx zy ok).run P w = .ok (if ok then .tuple #[z,.bool (@ej _ _ k.keq ys q)] else z) w:=by
 obtain⟨kt,vt,tv,ik,yA,mD,Bn,Dd⟩:=Lb hT ht;obtain⟨rfl,rfl,hb⟩:=Uc oW h;obtain⟨g,es,clock,hg,hh,ha,_⟩:=Ud hR hb;have yB:zx = .map (some g):=(hx.2.2 _ hb).trans hg;have De:zy=keyV k q:=(Bl mD).1 hy;subst yB;subst De;have fP:=MapKept.run_checkKey (w:=w) yA (T9 mD q) es.isEmpty 9999;rcases La mD q ha 0 with⟨h1,j,e,h2,h3,h4,h5,h6⟩|⟨h1,h2,h3,h4⟩
 .refine⟨e.val,h5,λok=>?_⟩;have hf:=MapKept.run_findKey (w:=w) yA h2;simp only[Instr.lookup,Sem.run_bind,run_underlying ik,Result.andThen_ok,MapKept.run_getObj_map hh,Sem.run_pure,fP,hf,h1]
 .obtain⟨z,hz,hzv⟩:=jxB (S:=S) (w:=w) hT Bn Dd;refine⟨z,by rw[h3];exact hzv,λok=>?_⟩;have hf:=MapKept.run_findKey (w:=w) yA h2;simp only[Instr.lookup,Sem.run_bind,run_underlying ik,Result.andThen_ok,MapKept.run_getObj_map hh,Sem.run_pure,fP,hf,h1,hz]
theorem jxC(hR:Rel N np S0 w0 refs σ a w S γ){k:Nat}{b b':Bx}(hk:σ.bx k = .live b){g:Nat}(hg:blk (γ k)=some g)(hS:∀o,¬S g o)(oJ:kH b b')
  {w':World}(uF:∀i,i≠g->w'.heap[i]? = w.heap[i]?)(bU:w'.heap.size=w.heap.size)(qR:w'.os=w.os)(Hn:w'.tape=w.tape)(dG:w'.output=w.output)
  (hb:BxLe γ σ.bx γ (σ.setB k (.live b')).bx->dP S w S w'->fy S w' γ (σ.setB k (.live b')).bx k b') :
  Rel N np S0 w0 refs (σ.setB k (.live b')) a w' S γ:=by
 have hle:BxLe γ σ.bx γ (σ.setB k (.live b')).bx:=by
  intro k' bK;by_cases cu:k'=k
  .subst cu;rw[gY];exact⟨by simp,rfl,λb1 eZ=>by simp at eZ;subst eZ;exact⟨b,hk,oJ⟩⟩
  .rw[du σ _ cu];exact⟨bK,rfl,λb hb=>⟨b,hb,.refl b⟩⟩
 have aM:dP S w S w':=by
  intro g' o h;refine⟨h,World.cell?_of_block (uF g' ?_)⟩
  rintro rfl
  exact hS o h
 have bQ:∀k' b1,(σ.setB k (.live b')).bx k' = .live b1->∃b2,σ.bx k' = .live b2:=by
  intro k' b1 h1;by_cases cu:k'=k
  .subst cu;exact⟨b,hk⟩
  .rw[du σ _ cu]at h1;exact⟨b1,h1⟩
 refine Rel.step (bx':=(σ.setB k (.live b')).bx) hR aM hle ?_ ?_ ?_ hR.new ?_ ?_ ?_ (qR.trans hR.os) (Hn.trans hR.tape) (dG.trans hR.output) (λg' _ _ h=>⟨uF g' (λe=>h k b hk (e▸hg)),λk' b1 h1=>by
  obtain⟨b2,h2⟩:=bQ k' b1 h1;exact h k' b2 h2⟩)
 .intro k' b1 h1;by_cases cu:k'=k
  .subst cu;rw[gY]at h1;simp at h1;subst h1;exact hb hle aM
  .rw[du σ _ cu]at h1;refine fy.keep aM hle rfl (λg' ar=>⟨?_,λ_=>Iff.rfl⟩) (hR.box k' b1 h1);exact uF g' (λh=>hR.apart k' k b1 b g cu h1 hk (h▸ar) hg)
 .intro k' b1 g' h1 ar;obtain⟨b2,h2⟩:=bQ k' b1 h1;exact hR.own k' b2 g' h2 ar
 .intro k1 k2 b1 b2 g' bk h1 h2 ar;obtain⟨ub,my⟩:=bQ k1 b1 h1;obtain⟨uc,lD⟩:=bQ k2 b2 h2;exact hR.apart k1 k2 ub uc g' bk my lD ar
 .intro g' o h;rw[bU];exact hR.here g' o h
 .intro g' ar hr;rw[uF g' ?_]
  .exact hR.below g' ar hr
  .rintro rfl
   rcases hR.own k b _ hk hg with h|h
   .exact h.no (by omega) hr
   .exact hr h.1
 .rw[bU];exact hR.grow
theorem jvZ{P:Program}{E:Env}(hT:cO P E.T)(hR:Rel N np S0 w0 refs σ a w S γ){rw:Nat->BS}(oW:RdR σ rw){t:Nat}{k v:Ty}(ht:ry E.T t=some (k,v)){x y:Leaf}{b:Nat}{ys:List (k.den×v.den)}{q:k.den}
  (h:mapC rw t k v x y=some (b,ys,q)){zx zy zz:Value}(hx:bZ S w γ σ.bx x zx)(hy:bZ S w γ σ.bx y zy){rdf:Nat->BS}(bL:RdF np σ rdf){c:Cel}{z:v.den}{u:Ups}(hd:qC rdf v c=some (z,u))(hz:cd S w γ σ.bx c zz) :
  ∃w' S',(Instr.mapUpdate t zx zy zz).run P w = .ok () w'/\Rel N np S0 w0 refs (σ.upd (u++[(b,.live (.lst (4294967296+t) (.pair k v) (@ea _ _ k.keq ys q z) false))])) a w' S' γ:=by
 obtain⟨kt,vt,tv,ik,yA,mD,Bn,Dd⟩:=Lb hT ht;obtain⟨rfl,rfl,hb⟩:=Uc oW h;obtain⟨fk,bS,_⟩:=CL bL hR.box hd hz;obtain⟨S1,bE,dr,lN,dS⟩:=qM u σ S hR fk;have Df:u.any (λy=>y.1==b)=false:=by rw[z7];intro y hy Lc;obtain⟨_,e,t',xs,f,h1,_,hm⟩:=fk y hy;rw[show y.1=b by simpa using Lc,hb]at h1;cases h1;rw[Dc]at hm;simp at hm
 have eZ:(σ.upd u).bx b = .live (.lst (4294967296+t) (.pair k v) ys false):=(oL u σ Df).trans hb;obtain⟨g,es,clock,hg,hh,ha,hq⟩:=Ud bE eZ;have yB:zx = .map (some g):=(hx.2.2 _ hb).trans hg;have De:zy=keyV k q:=(Bl mD).1 hy;subst yB;subst De;have Uf:=bS S1 w dr lN;have tB:blk (γ b)=some g:=by rw[hg];rfl
 have hS:∀o,¬S1 g o:=((bE.box b _ eZ).2 g tB).1 rfl;have fP:=MapKept.run_checkKey (w:=w) yA (T9 mD q) false 9999
 have main:∃es' fc,(Instr.mapUpdate t (.map (some g)) (keyV k q) zz).run P w = .ok () { w with heap:=w.heap.setIfInBounds g (.map es' fc) }/\All2 (yz S1 w k v) (@ea _ _ k.keq ys q z) es'.toList/\wb es' fc:=by
  rcases La mD q ha 0 with⟨h1,j,e,h2,h3,h4,h5,h6⟩|⟨h1,h2,h3,h4⟩
  .have hf:=MapKept.run_findKey (w:=w) yA h2;rw[kg]at hf;refine⟨es.modify j λe=>{ e with key:=keyV k q,val:=zz },clock,?_,?_,MapKept.stamped_modify hq.1 j _ (λ_ _=>rfl) (λe1 _ yC=>?_),?_⟩
   .have rU:((es[j]?).map (·.key)).getD (keyV k q)=keyV k q:=by rw[show es[j]? = some e by simpa using h3];exact h4
    simp only[Instr.mapUpdate,Sem.run_bind,run_underlying ik,Result.andThen_ok,MapKept.run_getObj_map hh,fP,hf,Instr.keyThatStays,rU,Ua mD q,if_true,Sem.run_pure,MapKept.run_setObj_map _ hh]
   .have e1:(es.modify j λe=>{ e with key:=keyV k q,val:=zz }).toList=es.toList.set j { e with key:=keyV k q,val:=zz }:=by
     refine zp λi=>?_;rw[q8,Array.getElem?_modify,List.getElem?_set];have wC:es[j]? = some e:=by simpa using h3
     by_cases dF:j=i
     .subst dF;simp only[if_true,wC,qa];rw[if_pos (by simpa using (ji.1 wC).1)]
     .simp[dF]
    rw[e1];exact h6 z _ rfl Uf
   .rw[show es[j]? = some e by simpa using h3]at yC;cases yC;exact h4.symm
   .rw[<-hq.2];refine zp λi=>?_;rw[qi,qi,q8,q8,Array.getElem?_modify];split
    .rename_i dF;subst dF;cases es[j]? <;> rfl
    .rfl
  .have hf:=MapKept.run_findKey (w:=w) yA h2;refine⟨es.push { key:=keyV k q,val:=zz,born:=clock },clock+1,?_,?_,MapKept.stamped_push hq.1 (Ub mD ha h1),by rw[Array.toList_push,za,hq.2,List.range_succ];rfl⟩
   .simp only[Instr.mapUpdate,Sem.run_bind,run_underlying ik,Result.andThen_ok,MapKept.run_getObj_map hh,fP,hf,MapKept.run_setObj_map _ hh]
   .rw[h4 z,Array.toList_push];exact ha.append ⟨⟨(Bl mD).2 rfl,Uf⟩,trivial⟩
 obtain⟨es',fc,aL,au,Bc⟩:=main;have ak:g<w.heap.size:=(ji.1 hh).1;refine⟨_,S1,aL,?_⟩;rw[mz];refine jxC bE eZ tB hS (b':= .lst (4294967296+t) (.pair k v) (@ea _ _ k.keq ys q z) false) ⟨rfl,rfl,λhm=>by rw[Dc]at hm;simp at hm⟩ (λi hi=>by simp[Ne.symm hi]) (by simp) rfl rfl rfl λhle aM=>?_;refine⟨.inr ⟨Dc t,g,es',fc,hg,by simp[ak],au.mono λx e hx=>⟨Rep.keep aM _ _ _ hx.1,VRep.keep aM hx.2⟩,Bc⟩,λg' ar=>?_⟩;rw[tB]at ar;simp at ar;subst ar;exact⟨λ_=>hS,λh=>by simp at h⟩
theorem jw0{P:Program}(hR:Rel N np S0 w0 refs σ a w S γ){n t:Nat}{k v:Ty}(hn:σ.bx n = .free) :
  ∃γ',(Instr.makeMap t none).run P w = .ok (.map (some w.heap.size)) (w.alloc (.map #[] 0))/\Rel N np S0 w0 refs (σ.setB n (.live (.lst (4294967296+t) (.pair k v) [] false))) a (w.alloc (.map #[] 0)) S γ'/\
   cd S (w.alloc (.map #[] 0)) γ' (σ.setB n (.live (.lst (4294967296+t) (.pair k v) [] false))).bx (.one (.ol n)) (.map (some w.heap.size)):=by
 have Df:=KF hR hn (o:= .map #[] 0) (b:= .lst (4294967296+t) (.pair k v) [] false) (v:= .map (some w.heap.size)) (λg hg=>by simp[blk]at hg;exact hg.symm) (λhle=>by
  refine⟨.inr ⟨Dc t,w.heap.size, #[],0,ic _ _ _,heap_alloc_new w _,trivial,MapKept.stamped_empty 0,rfl⟩,λg hg=>?_⟩;rw[ic]at hg;simp[blk]at hg;subst hg;exact⟨λ_ o ho=>by have:=hR.here _ o ho;omega,λh=>by simp at h⟩)
 refine⟨_,rfl,Df.1,⟨?_,rfl,λb hb=>(ic _ _ _).symm⟩,λ_=>rfl⟩;rw[gY];simp
end
section
variable{N:NT}{np:Nat}{S0:aP}{w0:World}{refs:Refs}{σ:St}{a:Go.Act}{w:World}{S:aP}{γ:Nat->Value}
theorem jw1{P:Program}{E:Env}(hT:cO P E.T)(hR:Rel N np S0 w0 refs σ a w S γ){rdf:Nat->BS}(bL:RdF np σ rdf){t:TypeId}{ti:TyI}(ht:E.T t=some ti)
  {m:Nat}{el:Ty}(bR:ti.ty=some (.arr m el)){ps:List (Nat×Cel)}{vs:Array (Nat×Value)}{xs:List el.den}{u:Ups}
  (hP:All2 (λp v=>p.1=v.1/\cd S w γ σ.bx p.2 v.2) ps vs.toList)(h:kF rdf el (List.replicate m el.dflt) [] ps=some (xs,u)) :
  ∃v S',(Instr.build t vs).run P w = .ok v w/\Rel N np S0 w0 refs (σ.upd u) a w S' γ/\cd S' w γ (σ.upd u).bx (.av m el xs) v:=by
 obtain⟨ik,bJ,te,c9,Dg⟩:=G0 hT ht bR;have bU:=nJ hT c9 Dg;obtain⟨z,hz,iV⟩:=CH hT ht w bR;obtain⟨fk,eQ⟩:=KL bL hR.box bJ ps vs.toList hP h .nil;obtain⟨S1,bE,dr,lN,dS⟩:=qM u σ S hR fk;obtain⟨TP,css,au,mC⟩:=qN (S:=S1) (w:=w) (.arr m el);obtain⟨bB,lI,gJ,dU,dt⟩:=eQ S1 dr lN css z.cells au (by rw[iV];exact mC)
 have hlen:∀(ps:List (Nat×Cel)){xs dg:List el.den}{u u':Ups},kF rdf el xs u ps=some (dg,u')->dg.length=xs.length:=by
  intro ps;induction ps with
  |nil=>intro xs dg u u' h;simp[kF]at h;rw[h.1]
  |cons p ps ih=>
   intro xs dg u u' h;obtain⟨i,c⟩:=p;simp only[kF]at h;split at h
   .split at h
    .rw[ih h];simp
    .simp at h
   .simp at h
 have ni:xs.length=m:=by rw[hlen ps h];simp
 refine⟨.agg bB,S1,?_,bE,bB,rfl,ni,lI,dU,dt⟩;simp only[Instr.build,Sem.run_bind,hz,Result.andThen_ok,run_underlying ik,kJ hT c9,<-bU,gJ,Sem.run_pure]
def Slot.bare:Slot->Bool
 |.cnd _ _ _=>false
 |_=>true
theorem Ug(hR:Rel N np S0 w0 refs σ a w S γ){act:List (Nat×Bool)}(aZ:rD (tm a) act)(ps:List (Nat×Operand)) :
  All2 (λp v=>p.1=v.1/\cd S w γ σ.bx p.2 v.2) (ps.map λp=>(p.1,(σ.ev p.2).cel act)) (ps.map λp=>(p.1,a.eval p.2)):=by
 induction ps with
 |nil=>trivial
 |cons p ps ih=>exact⟨⟨rfl,eY hR aZ p.2⟩,ih⟩
theorem Ld(hR:Rel N np S0 w0 refs σ a w S γ){act:List (Nat×Bool)}(aZ:rD (tm a) act)(ps:List Operand) :
  All2 (cd S w γ σ.bx) (ps.map λp=>(σ.ev p).cel act) (ps.map a.eval):=by
 induction ps with
 |nil=>trivial
 |cons p ps ih=>exact⟨eY hR aZ p,ih⟩
theorem Dh{rd:Nat->BS}(bc:RdOk σ rd):RdF np σ (λk=>if parK np k then .gone else rd k):=by
 refine⟨λk=>?_,λk e a xs f h=>?_⟩
 rotate_left
 .dsimp only at h
  split at h
  .simp at h
  .exact bc.2 k e a xs f h
 dsimp only
 split
 .exact .inr rfl
 .rename_i hp;rcases bc.1 k with h|h
  .exact .inl ⟨h,by simpa using hp⟩
  .exact .inr h
theorem wD{P:Program}{o:Oper}{l:Leaf}{v:Value}(hR:Rel N np S0 w0 refs σ a w S γ)(hr:(execOp a.eval o).run P w = .ok (.value v) w)
  (hs:bZ S w γ σ.bx l v)(h1:One v):Kv P N np S0 w0 refs o σ a w S γ (.one (.one l)) []:=
 mb hR hr ⟨hs,λ_=>h1⟩
theorem Bo{c:Cel}{l:Leaf}(h:lf c=l)(hd:l ≠ .dead):c = .one l:=by
 cases c with
 |one x=>simp[lf]at h;rw[h]
 |st ls=>simp[lf]at h;exact absurd h.symm hd
 |av n a xs=>simp[lf]at h;exact absurd h.symm hd
theorem Le{P:Program}{E:Env}(hT:cO P E.T)(hR:Rel N E.np S0 w0 refs σ a w S γ){act:List (Nat×Bool)}(aZ:rD (tm a) act){rw:Nat->BS}(oW:RdR σ rw)
  {o:Oper}{s:Slot}{u:Ups}(h:dX E σ.ev rw act o=some (.val true s u)):Kv P N E.np S0 w0 refs o σ a w S γ s u/\s.bare=true:=by
 have bc:RdOk σ (mskM rw):=oW.msk;have bL:=Dh (np:=E.np) bc;have hex:∀op,o.op=op->execOp a.eval o=execOp a.eval { o with op:=op }:=λop h=>by subst h;rfl
 unfold dX at h;dsimp only at h;split at h
 ·-- move
  rename_i x ca;split at h
  .rename_i l hl;simp only[j5,Act.val.injEq]at h;obtain⟨_,rfl,rfl⟩:=h;have:=mw hR x;rw[hl]at this;exact⟨mb hR (v:=a.eval x) (by simp[execOp,ca]) this,rfl⟩
  .simp only[j5,Act.cel,Act.val.injEq]at h;obtain⟨_,rfl,rfl⟩:=h;exact⟨mb hR (v:=a.eval x) (by simp[execOp,ca]) (eY hR aZ x),rfl⟩
 ·-- assign
  rename_i x ca;split at h
  .rename_i l hl;simp only[j5,Act.val.injEq]at h;obtain⟨_,rfl,rfl⟩:=h;have:=mw hR x;rw[hl]at this;exact⟨mb hR (v:=a.eval x) (by simp[execOp,ca]) this,rfl⟩
  .simp only[j5,Act.cel,Act.val.injEq]at h;obtain⟨_,rfl,rfl⟩:=h;exact⟨mb hR (v:=a.eval x) (by simp[execOp,ca]) (eY hR aZ x),rfl⟩
 ·-- pick
  rename_i x y z ca;split at h
  .rename_i v hv;have hx:=eY hR aZ x;have Lf:a.eval x = .bool v:=by have:=Bo hv (by simp);rw[this]at hx;exact s9 hx
   have aL:(execOp a.eval o).run P w = .ok (.value (if v then a.eval y else a.eval z)) w:=by simp[execOp,ca,Lf,asBool]
   have hy:v=true->cd S w γ σ.bx ((σ.ev y).cel (GR x true act)) (a.eval y):=by
    intro uG;refine Kw ?_ (mw hR y);cases x with
    |tmp t=>
     intro g hg;rcases je.1 hg with rfl|hg
     .simp only;rw[<-uG];exact Lf
     .exact aZ g hg
    |_=>exact aZ
   have hz:v=false->cd S w γ σ.bx ((σ.ev z).cel (GR x false act)) (a.eval z):=by
    intro uG;refine Kw ?_ (mw hR z);cases x with
    |tmp t=>
     intro g hg;rcases je.1 hg with rfl|hg
     .simp only;rw[<-uG];exact Lf
     .exact aZ g hg
    |_=>exact aZ
   split at h
   .rename_i t p t' q hp hq;split at h
    .rename_i q' iR;simp only[j5,Act.leaf,Act.val.injEq]at h;obtain⟨_,rfl,rfl⟩:=h;have:=ng iR;cases this;refine⟨mb hR aL ?_,rfl⟩;cases v with
     |true=>have:=hy rfl;rw[hp]at this;exact this
     |false=>have:=hz rfl;rw[hq]at this;exact this
    .simp at h
   .rename_i t p hp hq;simp only[j5,Act.val.injEq]at h;obtain⟨gI,rfl,rfl⟩:=h;have gI:v=true:=gI;subst gI;refine⟨mb hR aL ?_,rfl⟩;have:=hy rfl;rw[hp]at this;exact this
   .rename_i t q hp hq;simp only[j5,Act.val.injEq]at h;obtain⟨gI,rfl,rfl⟩:=h;have gI:v=false:=by simpa using gI
    subst gI;refine⟨mb hR aL ?_,rfl⟩;have:=hz rfl;rw[hq]at this;exact this
   .simp at h
  .simp at h
 ·-- alloc
  rename_i t ca;split at h
  .rename_i ti ht;split at h
   .rename_i bg;have hd:=bc.free bg;split at h
    .rename_i k el bR;simp only[j5,Act.val.injEq]at h;obtain⟨_,rfl,rfl⟩:=h;obtain⟨z,iV,hz⟩:=TG (w:=w) hT ht bR;obtain⟨dT,hc⟩:=Tr hR hd (m:=k) (t:=el) (xs:=List.replicate k el.dflt) (cur:=z.cells) (e:=t) (by rw[iV];exact qN (.arr k el));exact⟨⟨_,_,S,_,.inl (by simp[execOp,ca,hz]),dT,hc⟩,rfl⟩
    .rename_i ty bk bR;simp only[j5,Act.val.injEq]at h;obtain⟨_,rfl,rfl⟩:=h;obtain⟨z,iV,hz⟩:=TG (w:=w) hT ht bR;obtain⟨dT,hc⟩:=Tq hR hd (ls:=s5 ty) (cur:=z.cells) (e:=t) (by rw[iV];exact A9 ty) (TF iV);exact⟨⟨_,_,S,_,.inl (by simp[execOp,ca,hz]),dT,hc⟩,rfl⟩
    .simp at h
   .simp at h
  .simp at h
 ·-- box
  rename_i t x ca;split at h
  .rename_i bg;have hd:=bc.free bg;have hx:=eY hR aZ x;split at h
   .rename_i k el xs hc;simp only[j5,Act.val.injEq]at h;obtain⟨_,rfl,rfl⟩:=h;rw[hc]at hx;obtain⟨cs,hu,bS⟩:=hx;obtain⟨dT,gy⟩:=Tr hR hd (m:=k) (t:=el) (xs:=xs) (cur:=(a.eval x).cells) (e:=t) (by rw[hu];exact bS);exact⟨⟨_,_,S,_,.inl (by simp[execOp,ca,TH]),dT,gy⟩,rfl⟩
   .split at h
    .rename_i ls hls;simp only[j5,Act.val.injEq]at h;obtain⟨_,rfl,rfl⟩:=h;obtain⟨hl,h1⟩:=CN hls hx;obtain⟨dT,gy⟩:=Tq hR hd (ls:=ls) (cur:=(a.eval x).cells) (e:=t) hl h1;exact⟨⟨_,_,S,_,.inl (by simp[execOp,ca,TH]),dT,gy⟩,rfl⟩
    .simp at h
  .simp at h
 ·-- build
  rename_i t ps ca;have hP:=Ug hR aZ ps.toList;have uH:All2 (λp v=>p.1=v.1/\cd S w γ σ.bx p.2 v.2) (ps.toList.map λp=>(p.1,(σ.ev p.2).cel act)) (ps.map λp=>(p.1,a.eval p.2)).toList:=by simpa using hP
  split at h
  .rename_i ti ht;split at h
   .rename_i k el bR;split at h
    .rename_i xs u' hb;simp only[j5,Act.val.injEq]at h;obtain⟨_,rfl,rfl⟩:=h;obtain⟨v,S',aL,dT,hc⟩:=jw1 hT hR bL ht bR uH hb;exact⟨⟨v,w,S',γ,.inl (by simp[execOp,ca,aL]),dT,hc⟩,rfl⟩
    .simp at h
   .rename_i ty bk bR;split at h
    .rename_i nK;split at h
     .rename_i ls hb;simp only[j5,Act.cel,Act.val.injEq]at h;obtain⟨_,rfl,rfl⟩:=h;obtain⟨v,aL,hc⟩:=jvU hT ht bR nK uH hb;exact⟨mb hR (v:=v) (by simp[execOp,ca,aL]) hc,rfl⟩
     .simp at h
    .simp at h
   .simp at h
  .simp at h
 ·-- buildSlice
  rename_i t len ps ca;have hP:=Ug hR aZ ps.toList;have uH:All2 (λp v=>p.1=v.1/\cd S w γ σ.bx p.2 v.2) (ps.toList.map λp=>(p.1,(σ.ev p.2).cel act)) (ps.map λp=>(p.1,a.eval p.2)).toList:=by simpa using hP
  split at h
  .rename_i ti ht;split at h
   .rename_i el bR;split at h
    .simp at h
    .rename_i hlen;split at h
     .rename_i xs u' hb;split at h
      .rename_i bg;simp only[j5,Act.val.injEq]at h;obtain⟨_,rfl,rfl⟩:=h;obtain⟨v',w',S',γ',aL,dT,hc⟩:=jnr hT hR bL ht bR (by omega) uH hb (bc.free bg);exact⟨⟨v',w',S',γ',.inl (by simp[execOp,ca,aL]),dT,hc⟩,rfl⟩
      .simp at h
     .simp at h
   .simp at h
  .simp at h
 ·-- load
  rename_i t x ca;split at h
  .rename_i ti ht;unfold oCel at h;split at h
   .rename_i c hc;simp only[j5,Act.cel,Act.val.injEq]at h;obtain⟨_,rfl,rfl⟩:=h;obtain⟨z,hz,lx⟩:=Tm hT hR bc ht hc (iQ (eY hR aZ x));exact⟨mb hR (v:=z) (by simp[execOp,ca,hz]) lx,rfl⟩
   .simp at h
  .simp at h
 ·-- store
  rename_i t x y ca;split at h
  .rename_i ti ht;split at h
   .rename_i u' hu;simp only[j5,Act.val.injEq]at h;obtain⟨_,rfl,rfl⟩:=h;obtain⟨w',S',aL,dT⟩:=jvR hT hR bc bL ht hu (iQ (eY hR aZ x)) (eY hR aZ y);exact⟨⟨undef,w',S',γ,.inr ⟨by simp[execOp,ca,aL],rfl⟩,dT,⟨trivial,λh=>absurd rfl h⟩⟩,rfl⟩
   .simp at h
  .simp at h
 ·-- nilCheck
  rename_i x ca;have hx:=eY hR aZ x;split at h
  .rename_i k p hl;split at h
   .rename_i iv;simp only[j5,Act.leaf,Act.val.injEq]at h;obtain⟨_,rfl,rfl⟩:=h;rw[Bo hl (by simp)]at hx;obtain⟨b,hb⟩:=CJ iv;obtain⟨g,_,hu⟩:=hx.1.2.2 b (bc.live hb);exact⟨mb hR (v:=a.eval x) (by simp[execOp,ca,hu]) hx,rfl⟩
   .simp at h
  .rename_i k i p hl;split at h
   .rename_i iv;simp only[j5,Act.leaf,Act.val.injEq]at h;obtain⟨_,rfl,rfl⟩:=h;rw[Bo hl (by simp)]at hx;obtain⟨b,hb⟩:=CJ iv;have h3:=hx.1.2.2 b (bc.live hb)
    have hu:∃g o,a.eval x = .pointer (some ⟨g,o,none⟩):=by
     cases b with
     |cell ls f=>exact h3.elim
     |lst e t xs f=>obtain⟨_,_,g,cap,_,hu⟩:=h3;exact⟨_,_,hu⟩
     |arr n t xs=>obtain⟨_,g,_,hu⟩:=h3;exact⟨_,_,hu⟩
    obtain⟨g,ofs,hu⟩:=hu;exact⟨mb hR (v:=a.eval x) (by simp[execOp,ca,hu]) hx,rfl⟩
   .simp at h
  .rename_i ls hl;simp only[j5,Act.leaf,Act.val.injEq]at h;obtain⟨_,rfl,rfl⟩:=h;rw[Bo hl (by simp)]at hx;obtain⟨g,ofs,cs,hu,_⟩:=hx.1;exact⟨mb hR (v:=a.eval x) (by simp[execOp,ca,hu]) hx,rfl⟩
  .simp at h
 ·-- binOp
  rename_i op t x y rest ca;unfold oChk at h;split at h
  .rename_i b c hc;simp only[j5,Act.val.injEq]at h;obtain⟨rfl,rfl,rfl⟩:=h;obtain⟨z,hz,hl,h1⟩:=jAa (x:=x) (y:=y) hT hc (eY hR aZ x) (eY hR aZ y);refine⟨wD hR ?_ hl h1,rfl⟩;simp only[execOp,ca];rw[Sem.run_bind,hz];rfl
  .simp at h
 ·-- unOp
  rename_i op t x ca;unfold nI at h;split at h
  .rename_i c hc;simp only[j5,Act.leaf,Act.val.injEq]at h;obtain⟨_,rfl,rfl⟩:=h;obtain⟨z,hz,hl,h1⟩:=jCH hc (eY hR aZ x);refine⟨wD hR ?_ hl h1,rfl⟩;simp only[execOp,ca];rw[Sem.run_bind,hz];rfl
  .simp at h
 ·-- convert
  rename_i src dst x ca;split at h
  .rename_i ts ti oY ht;split at h
   .rename_i k v k0 k' hl Lg bR;simp only[j5,Act.leaf,Act.val.injEq]at h;obtain⟨_,rfl,rfl⟩:=h;have hx:=eY hR aZ x;rw[Bo hl (by simp)]at hx;have hu:=tZ hx;have ik:=Ku hT ht bR;refine⟨wD hR (v:= .int k' (k'.wrap v)) ?_ rfl rfl,rfl⟩;have Di:=Ku hT oY Lg;simp only[execOp,ca];rw[Sem.run_bind];have:(convert src dst (a.eval x)).run P w = .ok (.int k' (k'.wrap v)) w:=by simp only[hu,convert,Sem.run_bind,run_underlying Di,run_underlying ik,Result.andThen_ok];simp[Conv.intToInt]
    rw[this];rfl
   .simp at h
  .simp at h
 ·-- makeFunc
  rename_i f first bF ca
  split at h
  .rename_i lQ;split at h
   .rename_i l u' hl;simp only[j5,Act.val.injEq]at h;obtain⟨_,rfl,rfl⟩:=h;have fi:=Ld hR aZ bF.toList;obtain⟨S',dT,_,dh,_⟩:=TR bL hl hR fi;have mE:first = #[]:=by simpa using lQ
    refine⟨⟨.func (.func f) #[] (bF.map a.eval),w,S',γ,.inl ?_,dT,⟨⟨_,rfl,by simpa using dh⟩,λ_=>rfl⟩⟩,rfl⟩;simp[execOp,ca,mE,Instr.makeFunc]
   .simp at h
  .simp at h
 ·-- fieldAddr
  rename_i t x i ca;split at h
  .rename_i ti ht;unfold nI at h;split at h
   .rename_i c hc;simp only[j5,Act.leaf,Act.val.injEq]at h;obtain⟨_,rfl,rfl⟩:=h;obtain⟨z,hz,hl,h1⟩:=jvP hT bc ht hc (iQ (eY hR aZ x));exact⟨wD hR (by simp[execOp,ca,hz]) hl h1,rfl⟩
   .simp at h
  .simp at h
 ·-- field
  rename_i t x i ca;split at h
  .rename_i ti ht;split at h
   .rename_i ls f hc hf;split at h
    .rename_i tf rC;unfold oCel at h;split at h
     .rename_i c cI;simp only[j5,Act.cel,Act.val.injEq]at h;obtain⟨_,rfl,rfl⟩:=h;have hx:=eY hR aZ x;rw[hc]at hx;obtain⟨cs,hu,au,h1⟩:=hx;obtain⟨fs,ik,fl,fk,jK,nZ,tf',htf',bJ⟩:=Tc hT ht hf;rw[<-nZ]at rC;have dU:=(au.drop fl.offset).take tf.size;have my:∀u∈(cs.toList.drop fl.offset).take tf.size,One u:=λu eJ=>h1 u (zm (qe eJ));rw[<-jK]at cI
      have rE:∃z,(part fl.type cs fl.offset).run P w = .ok z w/\cd S w γ σ.bx c z:=by
       unfold tO at cI;split at cI
       .rename_i nL;split at cI
        .rename_i hlen;simp only[j5]at cI;subst cI;refine⟨.agg (cs.extract fl.offset (fl.offset+tf.size)),?_,_,rfl,?_,?_⟩
         .simp only[part,Sem.run_bind,AS hT rC,nL,Result.andThen_ok,if_true,kJ hT rC,Sem.run_pure]
         .have:(cs.extract fl.offset (fl.offset+tf.size)).toList=(cs.toList.drop fl.offset).take tf.size:=by simp[List.take_drop]
          rw[this];exact dU
         .have:(cs.extract fl.offset (fl.offset+tf.size)).toList=(cs.toList.drop fl.offset).take tf.size:=by simp[List.take_drop]
          rw[this];exact my
        .simp at cI
       .rename_i nL;split at cI
        .rename_i l' oZ;simp only[j5]at cI;subst cI;rw[oZ]at dU;cases hq:(cs.toList.drop fl.offset).take tf.size with
         |nil=>rw[hq]at dU;exact dU.elim
         |cons z zs=>
          rw[hq]at dU my
          have hz:cs[fl.offset]? = some z:=by
           have:((cs.toList.drop fl.offset).take tf.size)[0]? = some z:=by rw[hq];rfl
           have:=G1 this;simpa using this
          refine⟨z,?_,dU.1,λ_=>my z (by simp)⟩;simp only[part,Sem.run_bind,AS hT rC,Result.andThen_ok,if_neg nL,hz,Sem.run_pure]
        .simp at cI
      obtain⟨z,hz,lx⟩:=rE;refine⟨mb hR (v:=z) ?_ lx,rfl⟩;simp only[execOp,ca,hu];rw[Sem.run_bind];have:(Instr.field t (.agg cs) i).run P w = .ok z w:=by simp only[Instr.field,Sem.run_bind,run_underlying ik,Result.andThen_ok,fk,asAgg,Sem.run_pure,hz]
      rw[this];rfl
     .simp at h
    .simp at h
   .simp at h
  .simp at h
 ·-- indexAddr
  rename_i t x i ca;split at h
  .rename_i ti ht;unfold oChk at h;split at h
   .rename_i b c hc;simp only[j5,Act.val.injEq]at h;obtain⟨rfl,rfl,rfl⟩:=h;obtain⟨z,hz,hl,h1⟩:=jvQ hT hR bc ht hc (iQ (eY hR aZ x)) (iQ (eY hR aZ i));exact⟨wD hR (by simp[execOp,ca,hz]) hl h1,rfl⟩
   .simp at h
  .simp at h
 ·-- index
  rename_i t x i ca;split at h
  .rename_i ti ht;split at h
   .rename_i b c hc;simp only[j5,Act.val.injEq]at h;obtain⟨rfl,rfl,rfl⟩:=h;obtain⟨z,hz,lx⟩:=jAd hT ht hc (eY hR aZ x) (iQ (eY hR aZ i));exact⟨mb hR (v:=z) (by simp[execOp,ca,hz]) lx,rfl⟩
   .simp at h
  .simp at h
 ·-- makeMap
  rename_i t ca;split at h
  .rename_i k v ht;split at h
   .rename_i ir;simp only[j5,Act.val.injEq]at h;obtain⟨_,rfl,rfl⟩:=h;obtain⟨γ',aL,dT,gy⟩:=jw0 (P:=P) (t:=t) (k:=k) (v:=v) hR (bc.free ir);exact⟨⟨_,_,S,γ',.inl (by simp[execOp,ca,aL]),dT,gy⟩,rfl⟩
   .simp at h
  .simp at h
 ·-- lookup
  rename_i t x i ok ca;split at h
  .rename_i k v ht;split at h
   .rename_i b ys q hm;obtain⟨z,hz,aL⟩:=jt0 hT hR oW ht hm (iQ (eY hR aZ x)) (iQ (eY hR aZ i));split at h
    .simp only[j5,Act.val.injEq]at h;obtain⟨_,rfl,rfl⟩:=h;have hr:=aL true;simp only[if_true]at hr;refine⟨mb hR (v:= .tuple #[z,.bool (@ej _ _ k.keq ys q)]) (by simp[execOp,ca,hr]) ?_,rfl⟩;exact⟨_,rfl,xY hz,⟨rfl,λ_=>rfl⟩,trivial⟩
    .simp only[j5,Act.cel,Act.val.injEq]at h;obtain⟨_,rfl,rfl⟩:=h;have hr:=aL false;simp only[q7,zo]at hr;exact⟨mb hR (v:=z) (by simp[execOp,ca,hr]) (xY hz),rfl⟩
   .simp at h
  .simp at h
 ·-- mapUpdate
  rename_i t x i y ca;split at h
  .rename_i k v ht;split at h
   .rename_i b ys q z u' hm hd;simp only[j5,Act.val.injEq]at h;obtain⟨_,rfl,rfl⟩:=h;obtain⟨w',S',aL,dT⟩:=jvZ hT hR oW ht hm (iQ (eY hR aZ x)) (iQ (eY hR aZ i)) bL hd (eY hR aZ y);exact⟨⟨undef,w',S',γ,.inr ⟨by simp[execOp,ca,aL],rfl⟩,dT,⟨trivial,λh=>absurd rfl h⟩⟩,rfl⟩
   .simp at h
  .simp at h
 ·-- extract
  rename_i x i ca;split at h
  .rename_i l hl;split at h
   .rename_i c hc;simp only[j5,Act.cel,Act.val.injEq]at h;obtain⟨_,rfl,rfl⟩:=h;have hx:=mw hR x;rw[hl]at hx;obtain⟨vs,hu,au⟩:=hx;obtain⟨z,hz,lx⟩:=au.get i c hc;refine⟨mb hR (v:=z) ?_ lx,rfl⟩;have wE:vs[i]? = some z:=by simpa using hz
    simp[execOp,ca,hu,Instr.extract,wE]
   .simp at h
  .simp at h
 ·-- call
  rename_i cl ca;have fi:=Ld hR aZ cl.args.toList;split at h
  ·-- len
   rename_i cD;split at h
   .rename_i x t gz oY;split at h
    .rename_i ti ht;unfold nI at h;split at h
     .rename_i c hc;simp only[j5,Act.leaf,Act.val.injEq]at h;obtain⟨_,rfl,rfl⟩:=h;obtain⟨z,hz,hl,h1⟩:=jAe (ty:=o.type) hT hR bc ht hc (iQ (eY hR aZ x));have e1:cl.args = #[x]:=by apply qk;simpa using gz
      have e2:cl.argTypes = #[t]:=by apply qk;simpa using oY
      refine⟨wD hR (v:=z) ?_ hl h1,rfl⟩;simp[execOp,ca,resolve,cD,invoke,builtin,e1,e2,hz]
     .simp at h
    .simp at h
   .simp at h
  ·-- min
   rename_i cD;unfold nI at h;split at h
   .rename_i c hc;simp only[j5,Act.leaf,Act.val.injEq]at h;obtain⟨_,rfl,rfl⟩:=h;obtain⟨z,hz,hl,h1⟩:=jCI (P:=P) (ts:=cl.argTypes) (ty:=o.type) hc fi;refine⟨wD hR (v:=z) ?_ hl h1,rfl⟩;have e1:cl.args.map a.eval=(cl.args.toList.map a.eval).toArray:=by apply qk;simp
    simp[execOp,ca,resolve,cD,invoke,builtin,e1,hz]
   .simp at h
  ·-- max
   rename_i cD;unfold nI at h;split at h
   .rename_i c hc;simp only[j5,Act.leaf,Act.val.injEq]at h;obtain⟨_,rfl,rfl⟩:=h;obtain⟨z,hz,hl,h1⟩:=jCJ (P:=P) (ts:=cl.argTypes) (ty:=o.type) hc fi;refine⟨wD hR (v:=z) ?_ hl h1,rfl⟩;have e1:cl.args.map a.eval=(cl.args.toList.map a.eval).toArray:=by apply qk;simp
    simp[execOp,ca,resolve,cD,invoke,builtin,e1,hz]
   .simp at h
  ·-- append
   rename_i cD;split at h
   .rename_i t t' s' x oY gz;split at h
    .rename_i rV;subst rV;split at h
     .rename_i ti ht;split at h
      .rename_i el bR;split at h
       .rename_i b' v' u' hh;simp only[j5,Act.val.injEq]at h;obtain⟨rfl,rfl,rfl⟩:=h;obtain⟨z,w',aL,dT,hl,h1⟩:=jAh (ty:=o.type) hT hR bc ht bR hh (iQ (eY hR aZ s')) (iQ (eY hR aZ x));have e1:cl.args = #[s',x]:=by apply qk;simpa using gz
        have e2:cl.argTypes = #[t,t]:=by apply qk;simpa using oY
        refine⟨⟨z,w',S,γ,.inl ?_,dT,hl,λ_=>h1⟩,rfl⟩;simp[execOp,ca,resolve,cD,invoke,builtin,e1,e2,aL]
       split at h
       .rename_i xs frz u' ys hs hx;split at h
        .rename_i bg;simp only[j5,Act.val.injEq,jo]at h;obtain⟨fa,rfl,rfl⟩:=h;obtain⟨v',w',S',γ',aL,dT,gy⟩:=jvT (ty:=o.type) hT hR bc bL ht bR hs hx (bc.free bg) fa (iQ (eY hR aZ s')) (iQ (eY hR aZ x));have e1:cl.args = #[s',x]:=by apply qk;simpa using gz
         have e2:cl.argTypes = #[t,t]:=by apply qk;simpa using oY
         refine⟨⟨v',w',S',γ',.inl ?_,dT,gy⟩,rfl⟩;simp[execOp,ca,resolve,cD,invoke,builtin,e1,e2,aL]
        .simp at h
       .simp at h
      .simp at h
     .simp at h
    .simp at h
   .simp at h
  ·-- value
   split at h
   .split at h
    .split at h
     .simp at h
     .simp at h
    .simp at h
   .simp at h
  ·-- copy
   rename_i cD;split at h
   .rename_i t t' x y oY gz;split at h
    .rename_i rV;subst rV;split at h
     .rename_i ti ht;split at h
      .rename_i c u' hc;simp only[j5,Act.val.injEq]at h;obtain⟨_,rfl,rfl⟩:=h;obtain⟨v',w',aL,dT,gy⟩:=jxr (ty:=o.type) hT hR bc ht hc (iQ (eY hR aZ x)) (iQ (eY hR aZ y));have e1:cl.args = #[x,y]:=by apply qk;simpa using gz
       have e2:cl.argTypes = #[t,t]:=by apply qk;simpa using oY
       refine⟨⟨v',w',S,γ,.inl ?_,dT,gy⟩,rfl⟩;simp[execOp,ca,resolve,cD,invoke,builtin,e1,e2,aL]
      .simp at h
     .simp at h
    .simp at h
   .simp at h
  ·-- clear
   rename_i cD;split at h
   .rename_i t x oY gz;split at h
    .rename_i ti ht;split at h
     .rename_i u' hc;simp only[j5,Act.val.injEq]at h;obtain⟨_,rfl,rfl⟩:=h;obtain⟨v',w',aL,dT⟩:=jvX (ty:=o.type) hT hR bc ht hc (iQ (eY hR aZ x));have e1:cl.args = #[x]:=by apply qk;simpa using gz
      have e2:cl.argTypes = #[t]:=by apply qk;simpa using oY
      refine⟨⟨v',w',S,γ,.inl ?_,dT,⟨trivial,λh=>absurd rfl h⟩⟩,rfl⟩;simp[execOp,ca,resolve,cD,invoke,builtin,e1,e2,aL]
     .simp at h
    .simp at h
   .simp at h
  .simp at h
 ·-- slice
  rename_i t x lo hi ca;split at h
  .rename_i ti ht;split at h
   .rename_i b c u' hc;simp only[j5,Act.val.injEq]at h;obtain⟨rfl,rfl,rfl⟩:=h
    have ho:∀y:Option Operand,ORep (bZ S w γ σ.bx) (y.map λx=>lf ((σ.ev x).cel act)) (y.map a.eval):=by
     intro y;cases y with
     |none=>trivial
     |some y=>exact iQ (eY hR aZ y)
    obtain⟨v',S',γ',aL,dT,gy⟩:=jvV hT hR bc ht (λk hk=>bc.free hk) hc (iQ (eY hR aZ x)) (ho lo) (ho hi);refine⟨⟨v',w,S',γ',.inl ?_,dT,gy⟩,rfl⟩;simp[execOp,ca,aL]
   .simp at h
  .simp at h
 ·-- slice with a capacity
  rename_i t x lo hi mx ca;split at h
  .rename_i ti ht;split at h
   .rename_i b hc;simp only[j5,Act.val.injEq]at h;obtain⟨rfl,rfl,rfl⟩:=h
    have ho:∀y:Option Operand,ORep (bZ S w γ σ.bx) (y.map λx=>lf ((σ.ev x).cel act)) (y.map a.eval):=by
     intro y;cases y with
     |none=>trivial
     |some y=>exact iQ (eY hR aZ y)
    obtain⟨v',aL⟩:=jvW hT hR bc ht hc (iQ (eY hR aZ x)) (ho lo) (ho hi) (iQ (eY hR aZ mx));refine⟨⟨v',w,S,γ,.inl ?_,hR,⟨trivial,λh=>absurd rfl h⟩⟩,rfl⟩;simp[execOp,ca,aL]
   .simp at h
  .simp at h
 .simp at h
theorem Uh{P:Program}{E:Env}(hR:Rel N E.np S0 w0 refs σ a w S γ){act:List (Nat×Bool)}(aZ:rD (tm a) act){rw:Nat->BS}(oW:RdR σ rw)
  {o:Oper}{f:Nat}{args:List Arg}{mk:Ret->Option (Slot×Ups)}(h:dX E σ.ev rw act o=some (.call f args mk))(hf:Fun P f){K:Ret->Prop}(ee:Hh P f args K) :
  ∃vals,(execOp a.eval o).run P w = .ok (.enter f vals) w/\
   (Calls P f vals w λe w'=>∃ret,K ret/\∀s u,mk ret=some (s,u)->∃v S' γ',e = .returned v/\Rel N E.np S0 w0 refs (σ.upd u) a w' S' γ'/\iH S' w' γ' (σ.upd u).bx (tm a) s v)/\
   ∀ret s u,mk ret=some (s,u)->s.bare=true:=by
 have bc:RdOk σ (mskM rw):=oW.msk;have bL:=Dh (np:=E.np) bc;unfold dX at h;dsimp only at h;split at h
 case h_23 cl ca=>
  have fi:=Ld hR aZ cl.args.toList;split at h
  case h_5 x cD=>
   split at h
   .rename_i g bF hl;split at h
    .rename_i as us fs has;split at h
     .rename_i bH;simp only[j5,Act.call.injEq]at h;obtain⟨rfl,rfl,rfl⟩:=h;have hx:=eY hR aZ x;rw[Bo hl (by simp)]at hx;obtain⟨cv,hu,kP⟩:=hx.1;refine⟨_,Hm hf ca cD hu,?_,?_⟩
      .have:=jvY hR oW bc bL has fi bH kP ee ((o.dst.getD 0)*64);have e1:(cl.args.toList.map a.eval++cv.toList).toArray=cl.args.map a.eval++cv:=by apply qk;simp
       rwa[e1]at this
      .intro ret s u cI;unfold xw at cI;split at cI
       .unfold mkHd at cI;split at cI
        .split at cI
         .split at cI
          .simp only[j5,j9]at cI;rw[<-cI.1];rfl
          .simp at cI
         .simp at cI
        .simp at cI
       split at cI
       .split at cI
        .split at cI
         .revert cI;dsimp only;split<;>(intro cI;simp only[j5,j9]at cI;rw[<-cI.1];rfl)
         .simp at cI
        .simp at cI
       .simp at cI
     .simp at h
    .simp at h
   .simp at h
  all_goals (first|(simp at h;done)|skip)
  all_goals (exfalso;revert h;try simp only[nI])
  all_goals (repeat' split)
  all_goals simp[Act.leaf]
 all_goals (first|(simp at h;done)|skip)
 all_goals (repeat' (first|(simp at h;done)|split at h))<;>simp_all[nI,oCel,oChk,Act.leaf,Act.cel]
 all_goals (repeat' (split at h))<;>simp_all
end
end Go.Lft
