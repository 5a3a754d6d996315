/- New variables; Bj Me variables. -/
import Derived.Test.YtbpjdcbbmibehaaGreatWELA
import Derived.MapKept
set_option linter.unusedVariables false
namespace Go.Lft
section
variable{N:NT}{np:Nat}{S0:aq}{w0:World}{refs:Refs}{σ:St}{a:Go.Act}{w:World}{S:aq}{γ:Nat->Value}
def gset(γ:Nat->Value)(n:Nat)(v:Value):Nat->Value:=λk=>if k=n then v else γ k
theorem cO(γ:Nat->Value)(n:Nat)(v:Value):gset γ n v n=v:=by simp[gset]
theorem di(γ:Nat->Value){n k:Nat}(v:Value)(h:k≠n):gset γ n v k=γ k:=by simp[gset,h]
theorem tq(hR:Rel N np S0 w0 refs σ a w S γ)(o:Obj):bY S w S (w.alloc o):=
 λg i h=>⟨h,World.cell?_alloc_lt w o ⟨g,i,none⟩ (hR.here g i h)⟩
theorem fm{bx:Nat->BS}{k:Nat}{b:Bx}(h:cJ S w γ bx k b){g:Nat}(hg:blk (γ k)=some g):g<w.heap.size:=by
 cases b with
 |cell ls frz=>obtain⟨g',cur,e,h1,h2,_⟩:=h;rw[h1]at hg;simp[blk]at hg;subst hg;exact(jc.1 h2).1
 |lst e t xs frz=>exact h.1.lt hg
 |arr n t xs=>obtain⟨g',cur,e,h1,h2,_⟩:=h;rw[h1]at hg;simp[blk]at hg;subst hg;exact(jc.1 h2).1
theorem Bl(hR:Rel N np S0 w0 refs σ a w S γ){n:Nat}(hn:σ.bx n = .free){o:Obj}{b:Bx}{v:Value}(hv:∀g,blk v=some g->g=w.heap.size)
  (hb:BxLe γ σ.bx (gset γ n v) (σ.setB n (.live b)).bx->cJ S (w.alloc o) (gset γ n v) (σ.setB n (.live b)).bx n b) :
  Rel N np S0 w0 refs (σ.setB n (.live b)) a (w.alloc o) S (gset γ n v)/\BxLe γ σ.bx (gset γ n v) (σ.setB n (.live b)).bx:=by
 have hle:BxLe γ σ.bx (gset γ n v) (σ.setB n (.live b)).bx:=by
  intro k hk;have aB:k≠n:=by rintro rfl;exact hk hn
  rw[bo σ _ aB,di γ v aB];exact⟨hk,rfl,λb hb=>⟨b,hb,.refl b⟩⟩
 have aj:=tq hR o
 refine⟨Rel.step (bx':=(σ.setB n (.live b)).bx) hR aj hle ?_ ?_ ?_ hR.new ?_ ?_ ?_ hR.os hR.tape hR.output (λg hg _ h=>⟨heap_alloc_old w o hg,λk b' al bD=>by
  by_cases hk:k=n
  .subst hk;rw[cO]at bD;have:=hv g bD;omega
  .rw[bo σ _ hk]at al;rw[di γ v hk]at bD;exact h k b' al bD⟩),hle⟩
 .intro k b' al;by_cases hk:k=n
  .subst hk;rw[cV]at al;simp at al;subst al;exact hb hle
  .rw[bo σ _ hk]at al;refine cJ.keep aj hle (di γ v hk) (λg hg=>⟨?_,λ_=>Iff.rfl⟩) (hR.box k b' al);exact heap_alloc_old w o (fm (hR.box k b' al) hg)
 .intro k b' g al hg;by_cases hk:k=n
  .subst hk;rw[cO]at hg;exact .inl (.inl (by rw[hv g hg];exact hR.grow))
  .rw[bo σ _ hk]at al;rw[di γ v hk]at hg;exact hR.own k b' g al hg
 .intro k k' b1 b2 g aB h1 h2 hg af;by_cases hk:k=n
  .subst hk;have aR:k'≠k:=λh=>aB h.symm;rw[cO]at hg;rw[bo σ _ aR]at h2;rw[di γ v aR]at af;have:=fm (hR.box k' b2 h2) af;rw[hv g hg]at this;omega
  .by_cases aR:k'=n
   .subst aR;rw[cO]at af;rw[bo σ _ hk]at h1;rw[di γ v hk]at hg;have:=fm (hR.box k b1 h1) hg;rw[hv g af]at this;omega
   .rw[bo σ _ hk]at h1;rw[bo σ _ aR]at h2;rw[di γ v hk]at hg;rw[di γ v aR]at af;exact hR.apart k k' b1 b2 g aB h1 h2 hg af
 .intro g i h;have:=hR.here g i h;simp;omega
 .intro g hg hr;rw[heap_alloc_old w o (by have:=hR.grow;omega)];exact hR.below g hg hr
 .have:=hR.grow;simp;omega
theorem u5(hR:Rel N np S0 w0 refs σ a w S γ)(o:Nat):¬S w.heap.size o:=λh=>by have:=hR.here _ _ h;omega
theorem yd(hR:Rel N np S0 w0 refs σ a w S γ){n:Nat}(hn:σ.bx n = .free){ls:List Leaf}{cur:Array Value}{e:TypeId}
  (hl:All2 (aL S w γ σ.bx) ls cur.toList)(h1:∀u∈cur.toList,One u) :
  Rel N np S0 w0 refs (σ.setB n (.live (.cell ls false))) a (w.alloc (.cells cur e)) S (gset γ n (.pointer (some ⟨w.heap.size,0,none⟩)))/\
   aQ S (w.alloc (.cells cur e)) (gset γ n (.pointer (some ⟨w.heap.size,0,none⟩))) (σ.setB n (.live (.cell ls false))).bx (.one (.bp n 0)) (.pointer (some ⟨w.heap.size,0,none⟩)):=by
 obtain⟨h,hle⟩:=Bl hR hn (o:= .cells cur e) (b:= .cell ls false) (v:= .pointer (some ⟨w.heap.size,0,none⟩)) (λg hg=>by simp[blk]at hg;exact hg.symm) (λhle=>
  ⟨w.heap.size,cur,e,cO _ _ _,heap_alloc_new w _,by rw[List.take_of_length_le (Nat.le_of_eq hl.length.symm)];exact hl.mono (λx u hx=>aL.keep (tq hR _) hle hx),λu hu=>h1 u (kx hu),λ_ o=>u5 hR o,by simp⟩)
 refine⟨h,⟨by rw[cV];simp,rfl,λb _=>⟨w.heap.size,cO _ _ _,rfl⟩⟩,λ_=>rfl⟩
theorem Gd(hR:Rel N np S0 w0 refs σ a w S γ){n m:Nat}(hn:σ.bx n = .free){t:Ty}{xs:List t.den}{cur:Array Value}{e:TypeId}
  (hl:Rep S w (.arr m t) xs cur.toList) :
  Rel N np S0 w0 refs (σ.setB n (.live (.arr m t xs))) a (w.alloc (.cells cur e)) S (gset γ n (.pointer (some ⟨w.heap.size,0,none⟩)))/\
   aQ S (w.alloc (.cells cur e)) (gset γ n (.pointer (some ⟨w.heap.size,0,none⟩))) (σ.setB n (.live (.arr m t xs))).bx (.one (.bp n 0)) (.pointer (some ⟨w.heap.size,0,none⟩)):=by
 obtain⟨h,hle⟩:=Bl hR hn (o:= .cells cur e) (b:= .arr m t xs) (v:= .pointer (some ⟨w.heap.size,0,none⟩)) (λg hg=>by simp[blk]at hg;exact hg.symm) (λ_=>
  ⟨w.heap.size,cur,e,cO _ _ _,heap_alloc_new w _,Rep.keep (tq hR _) _ _ _ hl,λo=>u5 hR o⟩)
 refine⟨h,⟨by rw[cV];simp,rfl,λb _=>⟨w.heap.size,cO _ _ _,rfl⟩⟩,λ_=>rfl⟩
theorem pz{bx:Nat->BS}:∀(t:Ty),All2 (aL S w γ bx) (jC t) (fP t)
 |.int _=>⟨rfl,trivial⟩
 |.bool=>⟨rfl,trivial⟩
 |.str=>⟨rfl,trivial⟩
 |.unit=>trivial
 |.wrap a=>pz a
 |.pair a b=>(pz a).append (pz b)
 |.list _=>⟨rfl,trivial⟩
 |.arr n a=>by
  show All2 _ ((List.range n).flatMap λ_=>jC a) ((List.replicate n (fP a)).flatten);induction n with
  |zero=>simp[All2]
  |succ n ih=>rw[List.range_succ,List.flatMap_append,List.replicate_succ',zf];refine ih.append ?_;simpa using pz a
theorem kZ:∀(t:Ty),Rep S w t t.dflt (fP t)
 |.int _=>rfl
 |.bool=>rfl
 |.str=>rfl
 |.unit=>rfl
 |.wrap a=>kZ a
 |.pair a b=>⟨_,_,rfl,kZ a,kZ b⟩
 |.list _=>⟨none,0,rfl,jr _,by simp[maxLen],λ_=>rfl,λb hb=>by simp at hb⟩
 |.arr n a=>by
  refine⟨List.length_replicate,List.replicate n (fP a),?_,rfl⟩;have hz:=kZ a
  have:∀n,All2 (λx c=>Rep S w a x c) (List.replicate n a.dflt) (List.replicate n (fP a)):=by
   intro n;induction n with
   |zero=>exact trivial
   |succ n ih=>exact⟨hz,ih⟩
  exact this n
theorem u6(hR:Rel N np S0 w0 refs σ a w S γ){k:Nat}{b b':Bx}(hk:σ.bx k = .live b){g:Nat}(hg:blk (γ k)=some g)(hS:∀o,¬S g o)(pq:fj b b')
  {old new:Array Value}{e:TypeId}(hh:w.heap[g]? = some (.cells old e (0,0)))
  (hb:BxLe γ σ.bx γ (σ.setB k (.live b')).bx->bY S w S (w.setRow g new)->cJ S (w.setRow g new) γ (σ.setB k (.live b')).bx k b') :
  Rel N np S0 w0 refs (σ.setB k (.live b')) a (w.setRow g new) S γ:=by
 have hle:BxLe γ σ.bx γ (σ.setB k (.live b')).bx:=by
  intro k' aR;by_cases aY:k'=k
  .subst aY;rw[cV];exact⟨by simp,rfl,λb1 bR=>by simp at bR;subst bR;exact⟨b,hk,pq⟩⟩
  .rw[bo σ _ aY];exact⟨aR,rfl,λb hb=>⟨b,hb,.refl b⟩⟩
 have aj:bY S w S (w.setRow g new):=by
  intro g' o h;refine⟨h,cell_setRow_other w g new ⟨g',o,none⟩ ?_⟩
  rintro rfl
  exact hS o h
 have aN:∀k' b1,(σ.setB k (.live b')).bx k' = .live b1->∃b2,σ.bx k' = .live b2:=by
  intro k' b1 h1;by_cases aY:k'=k
  .subst aY;exact⟨b,hk⟩
  .rw[bo σ _ aY]at h1;exact⟨b1,h1⟩
 have ak:=(jc.1 hh).1
 refine Rel.step (bx':=(σ.setB k (.live b')).bx) hR aj hle ?_ ?_ ?_ hR.new ?_ ?_ ?_ hR.os hR.tape hR.output (λg' _ _ h=>⟨setRow_other w g g' new (λe=>h k b hk (e▸hg)),λk' b1 h1=>by
  obtain⟨b2,h2⟩:=aN k' b1 h1;exact h k' b2 h2⟩)
 .intro k' b1 h1;by_cases aY:k'=k
  .subst aY;rw[cV]at h1;simp at h1;subst h1;exact hb hle aj
  .rw[bo σ _ aY]at h1;refine cJ.keep aj hle rfl (λg' af=>⟨?_,λ_=>Iff.rfl⟩) (hR.box k' b1 h1);exact setRow_other w g g' new (λh=>hR.apart k' k b1 b g aY h1 hk (h▸af) hg)
 .intro k' b1 g' h1 af;obtain⟨b2,h2⟩:=aN k' b1 h1;exact hR.own k' b2 g' h2 af
 .intro k1 k2 b1 b2 g' aB h1 h2 af;obtain⟨nV,gV⟩:=aN k1 b1 h1;obtain⟨nW,gn⟩:=aN k2 b2 h2;exact hR.apart k1 k2 nV nW g' aB gV gn af
 .intro g' o h;rw[size_setRow];exact hR.here g' o h
 .intro g' af hr;rw[setRow_other w g g' new ?_]
  .exact hR.below g' af hr
  .rintro rfl
   rcases hR.own k b _ hk hg with h|h
   .exact h.no (by omega) hr
   .exact hr h.1
 .rw[size_setRow];exact hR.grow
theorem ye{R:Leaf->Value->Prop}{ls new:List Leaf}{cs zs:List Value}{c:Nat}(h:All2 R ls cs)(h':All2 R new zs) :
  All2 R (lD ls c new) (cs.take c++zs++cs.drop (c+zs.length)):=by
 unfold lD;rw[h'.length];exact((h.take c).append h').append (h.drop _)
theorem Ge{X zs:List Value}{c n:Nat}(h:c+zs.length<=n)(h':n<=X.length):(X.take c++zs++X.drop (c+zs.length)).take n=(X.take n).take c++zs++(X.take n).drop (c+zs.length):=by
 have e1:(X.take n).take c=X.take c:=by rw[zk,Nat.min_eq_left (by omega)]
 have e2:(X.take c++zs).length=c+zs.length:=by simp;omega
 rw[e1,List.take_append,List.take_of_length_le (by rw[e2];exact h),e2,List.drop_take]
theorem tt{bx:Nat->BS}{c:Cel}{ls:List Leaf}{z:Value}(h:c.leaves=some ls)(hc:aQ S w γ bx c z) :
  All2 (aL S w γ bx) ls z.cells.toList/\∀u∈z.cells.toList,One u:=by
 unfold Cel.leaves at h;split at h
 .simp at h
 .rename_i l hd;simp at h;subst h;have h1:=hc.2 hd;rw[tp h1];exact⟨⟨hc.1,trivial⟩,λu hu=>by simp at hu;subst hu;exact h1⟩
 .simp at h;subst h;obtain⟨cs,rfl,ha,h1⟩:=hc;exact⟨ha,h1⟩
 .simp at h
end
theorem ru{m:Nat}:∀{l:List (List Value)},(∀c∈l,c.length=m)->l.flatten.length=l.length*m
 |[],_=>by simp
 |c::l,h=>by
  have h1:=h c (by simp);have h2:=ru (l:=l) (λd hd=>h d (qv _ hd));simp only[k9,jn,jm,Nat.add_mul,Nat.one_mul];omega
section
variable{N:NT}{np:Nat}{S0:aq}{w0:World}{refs:Refs}{σ:St}{a:Go.Act}{w:World}{S:aq}{γ:Nat->Value}
theorem gp:∀(u:Ups)(σ:St){k:Nat},u.any (λy=>y.1==k)=false->(σ.upd u).bx k=σ.bx k
 |[],_,_,_=>rfl
 |e::u,σ,k,h=>by
  simp only[List.any_cons,Bool.or_eq_false_iff,beq_eq_false_iff_ne]at h;show ((σ.setB e.1 e.2).upd u).bx k=_;rw[gp u _ h.2,bo σ _ (λhh=>h.1 hh.symm)]
theorem All2.all_len{t:Ty}{xs:List t.den}{css:List (List Value)}(h:All2 (λx c=>Rep S w t x c) xs css):∀c∈css,c.length=t.size:=by
 intro c hc;obtain⟨x,_,hx⟩:=h.mem_right c hc;exact Rep.length _ _ _ hx
theorem Bm{cur:List Value}{css:List (List Value)}{m n i c:Nat}{ci zs:List Value}(hm:∀c∈css,c.length=m)(hn:css.length=n)(bN:cur.take (n*m)=css.flatten)
  (hi:css[i]? = some ci)(hc:c+zs.length<=m) :
  (cur.take (i*m+c)++zs++cur.drop (i*m+c+zs.length)).take (n*m)=(css.set i (ci.take c++zs++ci.drop (c+zs.length))).flatten:=by
 have ak:i<css.length:=(jk.1 hi).1;have iI:css[i]=ci:=(jk.1 hi).2;have dh:ci.length=m:=hm ci (js hi);obtain⟨A,B,hA,hB,yf⟩:∃A B:List (List Value),A.length=i/\A.length+1+B.length=n/\css=A++ci::B:=by refine⟨css.take i,css.drop (i+1),by simp;omega,by simp;omega,?_⟩;rw[<-iI,List.getElem_cons_drop ak,qs]
 have Mf:∀c∈A,c.length=m:=λd hd=>hm d (by rw[yf];simp[hd]);have Mg:∀c∈B,c.length=m:=λd hd=>hm d (by rw[yf];simp[hd]);have lA:A.flatten.length=i*m:=by rw[ru Mf,hA]
 have lB:=ru Mg;have fv:css.set i (ci.take c++zs++ci.drop (c+zs.length))=A++(ci.take c++zs++ci.drop (c+zs.length))::B:=by rw[yf,List.set_append_right _ _ (by omega),hA,Nat.sub_self,List.set_cons_zero]
 have u7:cur=A.flatten++(ci++(B.flatten++cur.drop (n*m))):=by have:=qs (n*m) cur;rw[bN,yf,zf,k9]at this;rw[<-jj ci,<-jj];exact this.symm
 have bS:ci=ci.take c++((ci.drop c).take zs.length++ci.drop (c+zs.length)):=by have h1:=qs c ci;have h2:=qs zs.length (ci.drop c);rw[List.drop_drop]at h2;rw[h2,h1]
 have lp:(ci.take c).length=c:=by simp;omega
 have lq:((ci.drop c).take zs.length).length=zs.length:=by simp;omega
 have lr:(ci.drop (c+zs.length)).length=m-(c+zs.length):=by simp[dh]
 generalize ci.take c=p at *
 generalize (ci.drop c).take zs.length=q at *
 generalize ci.drop (c+zs.length)=r at *
 generalize cur.drop (n*m)=tl at *
 have e1:cur.take (i*m+c)=A.flatten++p:=by rw[u7,bS];simp only[<-jj];rw[jj,jj,jj];exact zg (by simp[lA,lp])
 have e2:cur.drop (i*m+c+zs.length)=r++(B.flatten++tl):=by
  rw[u7,bS];have:A.flatten++(p++(q++r)++(B.flatten++tl))=(A.flatten++p++q)++(r++(B.flatten++tl)):=by simp
  rw[this];exact List.drop_left' (by simp[lA,lp,lq];omega)
 rw[e1,e2,fv,zf,k9];have:A.flatten++p++zs++(r++(B.flatten++tl))=(A.flatten++(p++zs++r++B.flatten))++tl:=by simp
 rw[this];refine zg ?_;simp only[jn,lA,lp,lr,lB];have:n*m=i*m+m+B.length*m:=by rw[<-hB,hA,Nat.add_mul,Nat.add_mul,Nat.one_mul]
 omega
theorem yg{P:Program}{T:Nat->Option TyI}(hT:bk P T){t:TypeId}{ti:TyI}(ht:T t=some ti){g o:Nat}{z:Value}{cur:Array Value}{e:TypeId}
  (hh:w.heap[g]? = some (.cells cur e (0,0)))(hs:z.cells.toList.length=ti.size)(hl:o+z.cells.toList.length<=cur.size)(h1:∀u∈z.cells.toList,One u) :
  (Instr.storeAt t (.pointer (some ⟨g,o,none⟩)) z).run P w = .ok () (w.setRow g (cur.toList.take o++z.cells.toList++cur.toList.drop (o+z.cells.toList.length)).toArray):=by
 have aj:=run_storeCells_at P g o e z.cells.toList 0 cur w hh (by simpa using hl) h1;simp only[Nat.add_zero]at aj;have aB:¬z.cells.size≠ti.size:=by simpa using hs
 simp only[Instr.storeAt,Sem.run_bind,Instr.sureAddr,Sem.run_pure,Result.andThen_ok,storeVar,eX hT ht,Sem.run_ite,if_neg aB,aj]
theorem Mh{P:Program}{E:Env}(hT:bk P E.T)(hR:Rel N np S0 w0 refs σ a w S γ){rd rdf:Nat->BS}(au:RdOk σ rd)(aF:RdF np σ rdf){t:TypeId}{ti:TyI}(ht:E.T t=some ti)
  {x:Leaf}{val:Cel}{u:Ups}{ux z:Value}(h:o6 rd rdf ti.size val x=some u)(hx:aL S w γ σ.bx x ux)(hz:aQ S w γ σ.bx val z) :
  ∃w' S',(Instr.storeAt t ux z).run P w = .ok () w'/\Rel N np S0 w0 refs (σ.upd u) a w' S' γ:=by
 unfold o6 at h;split at h
 .rename_i k c;split at h
  .rename_i ls hk;have hk:=au.live hk;split at h
   .rename_i new cL;split at h
    .rename_i hc;simp only[j5]at h;subst h;obtain⟨ba,hle⟩:=hc;obtain⟨ha,h1⟩:=tt cL hz;obtain⟨g,hg,hu⟩:=hx.2.2 _ hk;obtain⟨g',cur,e,af,hh,bN,dK,hS,_⟩:=hR.box k _ hk;rw[hg]at af;simp at af;subst af;subst hu;have hlen:=ha.length;have pA:=bN.length;simp at pA;refine⟨_,S,yg hT ht hh (by omega) (by simp at hlen ⊢;omega) h1,?_⟩;refine u6 hR hk (by rw[hg];rfl) (hS rfl) (b':= .cell (lD ls c new) false) trivial hh (λhle aj=>?_);refine⟨g,_,e,hg,setRow_heap w g cur _ e (0,0) hh,?_,?_,λ_=>hS rfl,by simp⟩
     .have:=ye (c:=c) (bN.mono (λx u hx=>aL.keep aj hle hx)) (ha.mono (λx u hx=>aL.keep aj hle hx));have db:(lD ls c new).length=ls.length:=by simp[lD];omega
      rw[db];have:=Ge (X:=cur.toList) (zs:=z.cells.toList) (c:=c) (n:=ls.length) (by omega) (by simp;omega);simp only[this];assumption
     .intro v hv;have db:(lD ls c new).length=ls.length:=by simp[lD];omega
      rw[db]at hv;have lO:=Ge (X:=cur.toList) (zs:=z.cells.toList) (c:=c) (n:=ls.length) (by omega) (by simp;omega);simp only[lO]at hv;simp only[jp]at hv;rcases hv with (hv|hv)|hv
      .exact dK v (kx hv)
      .exact h1 v hv
      .exact dK v (za hv)
    .simp at h
   .simp at h
  .rename_i n el xs hk;have hk:=au.live hk;split at h
   .rename_i rv;subst rv;split at h
    .rename_i n' a' ys;split at h
     .rename_i AG fT;split at h
      .rename_i ba;simp only[j5]at h;subst h;have nZ:=gU fT;simp only[TV.mk.injEq,Ty.arr.injEq]at nZ;obtain⟨⟨rfl,rfl⟩,nZ⟩:=nZ;obtain rfl:=eq_of_heq nZ;obtain⟨cs,rfl,hr⟩:=hz;obtain⟨g,hg,hu⟩:=hx.2.2 _ hk;obtain⟨g',cur,e,af,hh,aG,hS⟩:=hR.box k _ hk;rw[hg]at af;simp at af;subst af;subst hu;have jI:=Rep.length _ _ _ hr;have u9:=Rep.length _ _ _ aG;have e1:(Value.agg cs).cells.toList=cs.toList:=rfl;refine⟨_,S,yg hT ht hh (by rw[e1,jI,ba];rfl) (by rw[e1,jI,<-u9];simp) (by rw[e1];exact Rep.one _ _ _ hr),?_⟩;refine u6 hR hk (by rw[hg];rfl) hS (b':= .arr _ _ _) ⟨rfl,rfl⟩ hh (λhle aj=>?_);refine⟨g,_,e,hg,setRow_heap w g cur _ e (0,0) hh,?_,hS⟩;have hd:cur.toList.drop (0+cs.toList.length)=[]:=jd (by rw[jI,u9];omega);have hX:(cur.toList.take 0++(Value.agg cs).cells.toList++cur.toList.drop (0+(Value.agg cs).cells.toList.length)).toArray.toList=cs.toList:=by rw[e1,hd];simp
       rw[hX];exact Rep.keep aj _ _ _ hr
      .simp at h
     .simp at h
    .simp at h
   .simp at h
  .simp at h
 .rename_i k i c;split at h
  .rename_i el at_ xs hk;have bn:=au.nm hk;have hk:=au.live hk;split at h
   .rename_i new cL;split at h
    .rename_i hc;obtain⟨ba,hle⟩:=hc;split at h
     .rename_i en u1 Bn;split at h
      .simp at h
      .rename_i lP;simp only[j5]at h;subst h;obtain⟨ha,h1⟩:=tt cL hz;have hlen:=ha.length;have oa:z.cells.toList.length=z.cells.size:=km;obtain⟨_,hi,g,cap,hg,hu⟩:=hx.2.2 _ hk;obtain⟨css,ar,ah,Mi⟩:=eW bn (hR.box k _ hk);rcases ar.2 with⟨_,h0⟩|⟨g',dW,cur,af,cI,hh,fk,gl,cB,bQ⟩
       .omega
       rw[hg]at af;simp at af;obtain⟨rfl,rfl⟩:=af;subst hu;obtain⟨ci,iI,aG,bZ⟩:=rk (λx c hx=>Rep.length at_ x c hx) ah i at_.dflt hi;have dh:=Rep.length _ _ _ aG;have bS:=ye (c:=c) (lK (kC at_ _ ci aG)) ha;obtain⟨hf,he,hp⟩:=rm aF hR.box at_ Bn bS;obtain⟨S1,aJ,bB,cF,cd⟩:=jH u1 σ S hR hf;have b9:(σ.upd u1).bx k = .live (.lst el at_ xs false):=by rw[gp u1 σ (qd.2 lP)];exact hk
       obtain⟨Mj,Gf,Gg,Gi⟩:=eW bn (aJ.box k _ b9);have pB:∀o,¬S1 g o:=(Gi g (by rw[hg];rfl)).1 rfl;have Gj:i*at_.size+at_.size<=xs.length*at_.size:=by have:(i+1)*at_.size<=xs.length*at_.size:=jv _ (by omega);rwa[zd]at this
       have yh:xs.length*at_.size<=cap*at_.size:=jv _ fk;have jJ:c+z.cells.toList.length<=at_.size:=by omega
       refine⟨_,S1,yg hT ht hh (by omega) (by rw[cB];omega) h1,?_⟩;rw[fR];refine u6 aJ b9 (by rw[hg];rfl) pB (b':= .lst el at_ (xs.set i en) false) ⟨rfl,rfl,λ_=>by simp⟩ hh (λdy br=>?_);have lQ:Rep S1 w at_ en (ci.take c++z.cells.toList++ci.drop (c+z.cells.toList.length)):=by have:=hp S1 w bB cF;rwa[List.take_of_length_le (by simp;omega)]at this
       refine uU bn ⟨css.set i (ci.take c++z.cells.toList++ci.drop (c+z.cells.toList.length)),⟨?_,.inr ⟨g,cap,_,?_,jw _,setRow_heap w g cur _ el (0,0) hh,by simpa using fk,gl,?_,?_⟩⟩,?_,λg' af=>?_⟩
       .rw[ru (m:=at_.size)]
        .simp[ah.length]
        .intro d hd;rcases List.mem_or_eq_of_mem_set hd with hd|rfl
         .exact All2.all_len ah d hd
         .simp;omega
       .simpa using hg
       .simp only[zj,jn,qj,zc,km];omega
       .simp only[qq];exact Bm (All2.all_len ah) ah.length.symm bQ iI jJ
       .exact(ah.mono (λx c hx=>Rep.keep (bB.trans br) _ _ _ hx)).set i _ _ (Rep.keep br _ _ _ lQ)
       .rw[hg]at af;simp[blk]at af;subst af;exact⟨λ_=>pB,by simp⟩
     .simp at h
    .simp at h
   .simp at h
  .rename_i n at_ xs hk;have hk:=au.live hk;split at h
   .rename_i new cL;split at h
    .rename_i hc;obtain⟨ba,hle⟩:=hc;split at h
     .rename_i en u1 Bn;split at h
      .simp at h
      .rename_i lP;simp only[j5]at h;subst h;obtain⟨ha,h1⟩:=tt cL hz;have hlen:=ha.length;have oa:z.cells.toList.length=z.cells.size:=km;obtain⟨hi,g,hg,hu⟩:=hx.2.2 _ hk;obtain⟨g',cur,e,af,hh,⟨hn,css,ah,bN⟩,hS⟩:=hR.box k _ hk;rw[hg]at af;simp at af;subst af;subst hu;obtain⟨ci,iI,aG,bZ⟩:=rk (λx c hx=>Rep.length at_ x c hx) ah i at_.dflt (by omega);have dh:=Rep.length _ _ _ aG;have bS:=ye (c:=c) (lK (kC at_ _ ci aG)) ha;obtain⟨hf,he,hp⟩:=rm aF hR.box at_ Bn bS;obtain⟨S1,aJ,bB,cF,cd⟩:=jH u1 σ S hR hf;have b9:(σ.upd u1).bx k = .live (.arr n at_ xs):=by rw[gp u1 σ (qd.2 lP)];exact hk
       obtain⟨g1,Mk,e1,fw,hh1,_,pB⟩:=aJ.box k _ b9;rw[hg]at fw;simp at fw;subst fw;have va:cur.toList.length=n*at_.size:=by rw[bN,ru (All2.all_len ah),<-ah.length,hn]
       have Gj:i*at_.size+at_.size<=n*at_.size:=by have:(i+1)*at_.size<=n*at_.size:=jv _ (by omega);rwa[zd]at this
       have jJ:c+z.cells.toList.length<=at_.size:=by omega
       refine⟨_,S1,yg hT ht hh (by omega) (by rw[<-km,va];omega) h1,?_⟩;rw[fR];refine u6 aJ b9 (by rw[hg];rfl) pB (b':= .arr n at_ (xs.set i en)) ⟨rfl,rfl⟩ hh (λdy br=>?_);have lQ:Rep S1 w at_ en (ci.take c++z.cells.toList++ci.drop (c+z.cells.toList.length)):=by have:=hp S1 w bB cF;rwa[List.take_of_length_le (by simp;omega)]at this
       refine⟨g,_,e,hg,setRow_heap w g cur _ e (0,0) hh,⟨?_,css.set i (ci.take c++z.cells.toList++ci.drop (c+z.cells.toList.length)),?_,?_⟩,pB⟩
       .show List.length (List.set xs i en)=n;rw[qq];exact hn
       .exact(ah.mono (λx c hx=>Rep.keep (bB.trans br) _ _ _ hx)).set i _ _ (Rep.keep br _ _ _ lQ)
       .have yi:=Bm (cur:=cur.toList) (n:=n) (zs:=z.cells.toList) (All2.all_len ah) (by rw[<-ah.length,hn]) (by rw[<-va,List.take_length,bN]) iI jJ;rw[<-yi];symm;refine(List.take_of_length_le ?_).trans (by simp);simp only[jn,qj,zc];omega
     .simp at h
    .simp at h
   .simp at h
  .simp at h
 .simp at h
end
theorem pC{m:Nat}:∀{l:List (List Value)}(i:Nat),(∀c∈l,c.length=m)->(l.take i).flatten=l.flatten.take (i*m)
 |[],i,_=>by simp
 |c::l,0,_=>by simp
 |c::l,i+1,h=>by
  have hc:=h c (by simp);have ih:=pC (l:=l) i (λd hd=>h d (by simp[hd]));rw[List.take_succ_cons,k9,ih,k9,zd,Nat.add_comm,List.take_append,hc];rw[List.take_of_length_le (l:=c) (by omega),show m+i*m-m=i*m by omega]
theorem vb{m:Nat}:∀{l:List (List Value)}(i:Nat),(∀c∈l,c.length=m)->(l.drop i).flatten=l.flatten.drop (i*m)
 |[],i,_=>by simp
 |c::l,0,_=>by simp
 |c::l,i+1,h=>by
  have hc:=h c (by simp);have ih:=vb (l:=l) i (λd hd=>h d (by simp[hd]));rw[List.drop_succ_cons,ih,k9,zd,Nat.add_comm,List.drop_append,hc];rw[jd (l:=c) (by omega),kj,show m+i*m-m=i*m by omega]
section
variable{N:NT}{np:Nat}{S0:aq}{w0:World}{refs:Refs}{σ:St}{a:Go.Act}{w:World}{S:aq}{γ:Nat->Value}
theorem yj(hR:Rel N np S0 w0 refs σ a w S γ){k:Nat}{b:Bx}(hk:σ.bx k = .live b):Rel N np S0 w0 refs (σ.setB k .gone) a w S γ:=by
 have hle:BxLe γ σ.bx γ (σ.setB k .gone).bx:=by
  intro k' aR;by_cases aY:k'=k
  .subst aY;rw[cV];exact⟨by simp,rfl,λb hb=>by simp at hb⟩
  .rw[bo σ _ aY];exact⟨aR,rfl,λb hb=>⟨b,hb,.refl b⟩⟩
 have aN:∀k' b1,(σ.setB k .gone).bx k' = .live b1->σ.bx k' = .live b1:=by
  intro k' b1 h1;by_cases aY:k'=k
  .subst aY;rw[cV]at h1;simp at h1
  .rwa[bo σ _ aY]at h1
 exact Rel.step (bx':=(σ.setB k .gone).bx) hR (.refl S w) hle (λk' b' h=>cJ.keep (.refl S w) hle rfl (λ_ _=>⟨rfl,λ_=>Iff.rfl⟩) (hR.box k' b' (aN k' b' h)))
  (λk' b' g h=>hR.own k' b' g (aN k' b' h)) (λk1 k2 b1 b2 g aB h1 h2=>hR.apart k1 k2 b1 b2 g aB (aN _ _ h1) (aN _ _ h2)) hR.new hR.here hR.below hR.grow hR.os hR.tape hR.output
  (λg _ _ h=>⟨rfl,λk' b' al=>h k' b' (aN k' b' al)⟩)
theorem tu(hR:Rel N np S0 w0 refs σ a w S γ){d:Nat}(hd:σ.bx d = .free){w':World}{S':aq}{v':Value}{e:Nat}(hm:isM e=false){el:Ty}{zs:List el.den}{frz:Bool}{css:List (List Value)}
  (aj:bY S w S' w')(lR:∀g,g<w.heap.size->blk v'≠some g->w'.heap[g]? = w.heap[g]?)(ba:w.heap.size<=w'.heap.size)
  (hv:∀g,blk v'=some g->Own w0 refs g/\(∀k b,σ.bx k = .live b->blk (γ k)≠some g)/\g<w'.heap.size)
  (hS:∀g o,S' g o->S g o\/blk v'=some g)(os:w'.os=w.os)(tape:w'.tape=w.tape)(output:w'.output=w.output)
  (bb:w'.ownsRow 0 e el.size v' zs.length css.flatten)(ah:All2 (λx c=>Rep S' w' el x c) zs css)
  (Bo:∀g,blk v'=some g->(frz=false->∀o,¬S' g o)/\(frz=true->∀o,S' g o↔o<zs.length*el.size))(yk:∀g,blk v'=some g->refs.kw g=none) :
  Rel N np S0 w0 refs (σ.setB d (.live (.lst e el zs frz))) a w' S' (gset γ d v')/\
   aQ S' w' (gset γ d v') (σ.setB d (.live (.lst e el zs frz))).bx (.one (.ol d)) v':=by
 have hle:BxLe γ σ.bx (gset γ d v') (σ.setB d (.live (.lst e el zs frz))).bx:=by
  intro k hk;have aB:k≠d:=by rintro rfl;exact hk hd
  rw[bo σ _ aB,di γ v' aB];exact⟨hk,rfl,λb hb=>⟨b,hb,.refl b⟩⟩
 have bK:One v':=by rcases bb.2 with⟨rfl,_⟩|⟨g,cap,cur,rfl,_⟩<;>rfl
 refine⟨Rel.step (bx':=(σ.setB d (.live (.lst e el zs frz))).bx) hR aj hle ?_ ?_ ?_ ?_ ?_ ?_ (ko hR.grow ba) (os.trans hR.os) (tape.trans hR.tape) (output.trans hR.output) (λg hg iJ h=>⟨lR g hg (λhh=>iJ (yk g hh)),λk b' al bD=>by
  by_cases hk:k=d
  .subst hk;rw[cO]at bD;exact iJ (yk g bD)
  .rw[bo σ _ hk]at al;rw[di γ v' hk]at bD;exact h k b' al bD⟩),?_⟩
 .intro k b hb;by_cases hk:k=d
  .subst hk;rw[cV]at hb;simp at hb;subst hb;refine uU hm ⟨css,by rw[cO];exact bb,ah,λg hg=>?_⟩;rw[cO]at hg;exact Bo g hg
  .rw[bo σ _ hk]at hb;refine cJ.keep aj hle (di γ v' hk) (λg hg=>?_) (hR.box k b hb);have nb:=fm (hR.box k b hb) hg;have aB:blk v'≠some g:=λhh=>(hv g hh).2.1 k b hb hg;exact⟨lR g nb aB,λo=>⟨λhs=>(hS g o hs).resolve_right aB,λhs=>(aj g o hs).1⟩⟩
 .intro k b g hb hg;by_cases hk:k=d
  .subst hk;rw[cO]at hg;exact .inl (hv g hg).1
  .rw[bo σ _ hk]at hb;rw[di γ v' hk]at hg;exact hR.own k b g hb hg
 .intro k k' b1 b2 g aB h1 h2 hg af;by_cases hk:k=d
  .subst hk;have aR:k'≠k:=λh=>aB h.symm;rw[cO]at hg;rw[bo σ _ aR]at h2;rw[di γ v' aR]at af;exact(hv g hg).2.1 k' b2 h2 af
  .by_cases aR:k'=d
   .subst aR;rw[cO]at af;rw[bo σ _ hk]at h1;rw[di γ v' hk]at hg;exact(hv g af).2.1 k b1 h1 hg
   .rw[bo σ _ hk]at h1;rw[bo σ _ aR]at h2;rw[di γ v' hk]at hg;rw[di γ v' aR]at af;exact hR.apart k k' b1 b2 g aB h1 h2 hg af
 .intro g o hs;rcases hS g o hs with hs|hs
  .exact hR.new g o hs
  .exact .inr (hv g hs).1
 .intro g o hs;rcases hS g o hs with hs|hs
  .have:=hR.here g o hs;omega
  .exact(hv g hs).2.2
 .intro g hg hr;by_cases hb:blk v'=some g
  .exact((hv g hb).1.no hg hr).elim
  .rw[lR g (by have:=hR.grow;omega) hb];exact hR.below g hg hr
 .refine⟨⟨by rw[cV];simp,bK,λb hb=>(cO γ d v').symm⟩,λ_=>bK⟩
theorem Gk{P:Program}{T:Nat->Option TyI}(hT:bk P T){t ty:TypeId}{ti:TyI}(ht:T t=some ti){el:Ty}(aD:ti.ty=some (.list el))
  {v:Value}{n:Nat}{xs:List Value}(ar:w.ownsRow 0 ti.elem el.size v n xs){ad:Option Addr}{m c:Nat}{news:List Value}(dz:ad=none->m=0/\c=0)(hl:news.length=m*el.size)
  (eY:∀b,ad=some b->∀(j:Nat)(u:Value),news[j]? = some u->w.cell? (b.add j)=some u)(h1:∀u∈news,One u)(cM:n+m<=bI) :
  ∃v' w',(Builtin.append_ #[t,t] ty #[v,.slice ad m c]).run P w = .ok v' w'/\w'.ownsRow 0 ti.elem el.size v' (n+m) (xs++news)/\w'.os=w.os/\w'.tape=w.tape/\w'.output=w.output/\w.heap.size<=w'.heap.size/\
   ((v'=v/\w'=w)\/(blk v'=blk v/\(∃g,blk v=some g)/\∀g,blk v≠some g->w'.heap[g]? = w.heap[g]?)\/(blk v'=some w.heap.size/\∀g,g<w.heap.size->w'.heap[g]? = w.heap[g]?)):=by
 obtain⟨hd,cc,te,bG,bh⟩:=iF hT ht aD;have ba:=gS hT bG bh;obtain⟨i,de,hi,hde,his,vc,_,_,hz⟩:=ir hT bG;obtain⟨_,⟨z,hz,eu⟩,_⟩:=hz el bh;have dm:i.size=el.size:=by omega
 have gW:z.cells.size=el.size:=by have h:=Rep.length el el.dflt _ (kZ (S:=λ_ _=>False) (w:=w) el);rw[<-eu]at h;simpa using h
 have vd:n+m<=maxLen:=by simp only[maxLen,bI]at *;omega
 have gq:(n+m)*i.bytes<=140737488355328:=by have:(n+m)*i.bytes<=bI*32768:=Nat.mul_le_mul cM vc;simp only[bI]at this;omega
 have hlen:(xs++news).length=(n+m)*el.size:=by rw[jn,ar.1,hl,Nat.add_mul]
 cases ad with
 |none=>obtain⟨rfl,rfl⟩:=dz rfl;have kF:news=[]:=jo (by simpa using hl);subst kF;exact⟨v,w,run_append_owned_none (P:=P) w 0 t ty ti.elem i el.size hd hi v n xs ar,by simpa using ar,rfl,rfl,rfl,jr _,.inl ⟨rfl,rfl⟩⟩
 |some b=>
  have eY:=eY b rfl;rcases ar.2 with⟨rfl,rfl⟩|⟨g,cap,cur,rfl,_,hg,fk,gl,cB,bQ⟩
  .have pD:w.ownsRow w.heap.size ti.elem el.size (.slice none 0 0) 0 xs:=⟨ar.1,.inl ⟨rfl,rfl⟩⟩;obtain⟨v',w',hr,ho,gK,hv⟩:=run_append_own (P:=P) w w.heap.size t ty ti.elem i z el.size i.bytes hd hi hz dm rfl gW cc _ 0 xs pD b m c news hl eY h1 vd gq (jr _);refine⟨v',w',hr,⟨ho.1,ho.2.imp id (λ⟨g,cap,cur,h1,_,h3⟩=>⟨g,cap,cur,h1,jw _,h3⟩)⟩,gK.os,gK.tape,gK.output,gK.size,?_⟩;by_cases hm:m=0
   .subst hm;have kF:news=[]:=jo (by simpa using hl);subst kF;have:=run_append_own (P:=P) w w.heap.size t ty ti.elem i z el.size i.bytes hd hi hz dm rfl gW cc _ 0 xs pD b 0 c [] hl eY h1 vd gq (jr _);left;have hx:(Builtin.append_ #[t,t] ty #[.slice none 0 0,.slice (some b) 0 c]).run P w = .ok (.slice none 0 0) w:=by simp[Builtin.append_,run_underlying hd,sizeOf,typeInfo,hi,Builtin.lenOf,Builtin.firstCells,loadCells,loadCellsFrom]
    rw[hx]at hr;simp at hr;exact⟨hr.1.symm,hr.2.symm⟩
   .have lS:=run_append_nil (P:=P) w t ty ti.elem i z hd hi hz b m c news (by rw[dm];exact hl) eY (by omega) (by simp only[maxLen]at vd;omega) (by have:=gq;simp only[jt]at this;omega);rw[lS]at hr;simp at hr;obtain⟨rfl,rfl⟩:=hr;exact .inr (.inr ⟨rfl,λg hg=>heap_alloc_old w.drew _ hg⟩)
  .by_cases lT:n+m<=cap
   .have ve:n*i.size+news.length<=cur.size:=by rw[dm,hl,cB,<-Nat.add_mul];exact jv _ lT
    have hr:=run_append_room (P:=P) w t ty ti.elem i hd hi g n cap cur hg b m c news (by rw[dm];exact hl) eY h1 lT ve;rw[dm]at hr ve;refine⟨_,_,hr,⟨hlen,.inr ⟨g,cap,_,rfl,jw _,setRow_heap w g cur _ ti.elem _ hg,lT,gl,?_,?_⟩⟩,rfl,rfl,rfl,by rw[size_setRow];exact jr _,.inr (.inl ⟨rfl,⟨g,rfl⟩,λg' af=>?_⟩)⟩
    .simp only[zj,jn,qj,zc,km];omega
    .rw[bQ,<-hlen];exact List.take_left
    .exact setRow_other w g g' _ (λh=>af (by rw[h];rfl))
   .have holds:∀(j:Nat)(u:Value),xs[j]? = some u->w.cell? ((⟨g,0,none⟩:Addr).add j)=some u:=ar.cells (g:=g) rfl;have hr:=run_append_grow (P:=P) w t ty ti.elem i z hd hi hz ⟨g,0,none⟩ n cap xs (by rw[dm];exact ar.1) holds b m c news (by rw[dm];exact hl) eY (by omega) (by simp only[maxLen]at vd;omega) (growslice_fits (by omega) gq);have la:=grownCap_ge w (n+m) cap ti.elem;refine⟨_,_,hr,⟨hlen,.inr ⟨w.heap.size,_,_,rfl,jw _,heap_alloc_new w.drew _,la,grownCap_le_maxLen w (n+m) cap ti.elem vd,?_,?_⟩⟩,rfl,rfl,rfl,by simp,.inr (.inr ⟨rfl,λg' af=>heap_alloc_old w.drew _ af⟩)⟩
    .simp only[Array.size_append,zj,size_zeroCells,gW,ar.1,hl,<-Nat.add_mul];congr 1;omega
    .simp only[Array.toList_append,jj];rw[<-jj,<-hlen];exact List.take_left
theorem Gl(hR:Rel N np S0 w0 refs σ a w S γ){rd:Nat->BS}(au:RdOk σ rd){el:Ty}{y:Leaf}{ys:List el.den}{z:Value}(h:appX rd el y=some ys)(hy:aL S w γ σ.bx y z) :
  ∃ad c css,z = .slice ad ys.length c/\(ad=none->ys.length=0/\c=0)/\All2 (λx c=>Rep S w el x c) ys css/\
   ∀b,ad=some b->∀(j:Nat)(u:Value),css.flatten[j]? = some u->w.cell? (b.add j)=some u:=by
 unfold appX at h;split at h
 .rename_i k;split at h
  .rename_i e yl xs f hk;have:=gU h;cases this;have bn:=au.nm hk;have hk:=au.live hk;have hz:=hy.2.2 _ hk;obtain⟨css,ar,ah,_⟩:=eW bn (hR.box k _ hk);rcases ar.2 with⟨hg,h0⟩|⟨g,cap,cur,hg,_⟩
   .exact⟨none,0,css,by rw[hz,hg,h0],λ_=>⟨h0,rfl⟩,ah,λb hb=>by simp at hb⟩
   .refine⟨some ⟨g,0,none⟩,cap,css,by rw[hz,hg],by simp,ah,λb hb j u hu=>?_⟩;simp at hb;subst hb;exact ar.cells (g:=g) (by rw[hg];rfl) j u hu
  .simp at h
 .rename_i t xs;have:=gU h;cases this;obtain⟨ad,cap,hz,hle,gl,hn,hb⟩:=hy;simp at hz;cases ad with
  |none=>
   have h0:=hn rfl;have gL:List.length ys=0:=by omega
   have:ys=[]:=jo gL;subst this;exact⟨none,cap,[],hz,λ_=>⟨rfl,h0⟩,trivial,λb hb=>by simp at hb⟩
  |some b=>
   obtain⟨bS,css,ha,hl⟩:=hb b rfl;refine⟨some b,cap,css,hz,by simp,ha,λb' al j u hu=>?_⟩;simp at al;subst al
   have bS:=bS (λe=>by
    rw[e]at ha;cases css with
    |nil=>simp at hu
    |cons c cs=>exact ha)
   obtain⟨g,o,sp⟩:=b;simp at bS;subst bS;rw[Addr.add_lit];exact(hl j u hu).2
 .simp at h;subst h;exact⟨none,0,[],hy,λ_=>⟨rfl,rfl⟩,trivial,λb hb=>by simp at hb⟩
 .rename_i k j;split at h
  .rename_i e yl xs f hk;split at h
   .rename_i bJ fT;have:=gU fT;cases this;simp only[j5]at h;subst h;have bn:=au.nm hk;have hk:=au.live hk;obtain⟨_,hj,ad,dW,af,hu⟩:=hy.2.2 _ hk;obtain⟨css,ar,ah,_⟩:=eW bn (hR.box k _ hk);have dh:=All2.all_len ah;have hlen:(List.drop j bJ).length=bJ.length-j:=by simp
    rcases ar.2 with⟨hg,h0⟩|⟨g,cap,cur,hg,_,hh,fk,_⟩
    .rw[hg]at af;simp only[Value.slice.injEq]at af;obtain⟨rfl,_,rfl⟩:=af;have ry:bJ=[]:=jo h0;subst ry;refine⟨none,0,[],by rw[hu];simp,λ_=>⟨by simp,rfl⟩,by simp;trivial,λb hb=>by simp at hb⟩
    .rw[hg]at af;simp only[Value.slice.injEq,kq]at af;obtain⟨rfl,rfl⟩:=af;by_cases hc:cap=j
     .have ry:List.drop j bJ=[]:=jd (by omega);rw[ry];rw[if_pos hc]at hu;exact⟨some ⟨g,0,none⟩,cap-j,[],by rw[hu];simp;omega,by simp,trivial,λb hb q v hq=>by simp at hq⟩
     .rw[if_neg hc]at hu;simp only[ki,Addr.add_lit,jt]at hu;refine⟨some ⟨g,j*el.size,none⟩,cap-j,css.drop j,by rw[hu,hlen],by simp,ah.drop j,λb hb q v hq=>?_⟩;simp at hb;subst hb;have Ml:(css.drop j).flatten=css.flatten.drop (j*el.size):=vb j dh;rw[Ml,List.getElem?_drop]at hq;have:=ar.cells (g:=g) (by rw[hg];rfl) _ v hq;rw[Addr.add_lit]at this ⊢;simpa using this
   .simp at h
  .simp at h
 .simp at h
theorem Mm{P:Program}{E:Env}(hT:bk P E.T)(hR:Rel N np S0 w0 refs σ a w S γ){rd rdf:Nat->BS}(au:RdOk σ rd)(aF:RdF np σ rdf){t ty:TypeId}{ti:TyI}(ht:E.T t=some ti)
  {el:Ty}(aD:ti.ty=some (.list el)){x y:Leaf}{xs ys:List el.den}{frz:Bool}{u:Ups}{d:Nat}{vx vy:Value}(h1:appS rdf ti.elem el x=some (xs,frz,u))(h2:appX rd el y=some ys)
  (hd:σ.bx d = .free)(cM:xs.length+ys.length<=bI)(hx:aL S w γ σ.bx x vx)(hy:aL S w γ σ.bx y vy) :
  ∃v' w' S' γ',(Builtin.append_ #[t,t] ty #[vx,vy]).run P w = .ok v' w'/\Rel N np S0 w0 refs (σ.upd (u++[(d,.live (.lst ti.elem el (xs++ys) frz))])) a w' S' γ'/\
   aQ S' w' γ' (σ.upd (u++[(d,.live (.lst ti.elem el (xs++ys) frz))])).bx (.one (.ol d)) v':=by
 obtain⟨ad,c,cy,Bp,dz,rz,bZ⟩:=Gl hR au h2 hy;subst Bp;have Bq:cy.flatten.length=ys.length*el.size:=All2.flatten_length (λx c hx=>Rep.length el x c hx) rz;have Mn:∀u∈cy.flatten,One u:=by intro u hu;obtain⟨c,hc,rh⟩:=List.mem_flatten.1 hu;obtain⟨x,_,hx⟩:=rz.mem_right c hc;exact Rep.one el x c hx u rh
 obtain⟨kB,cc,te,bG,bh⟩:=iF hT ht aD
 have src:∃σ1,σ.upd u=σ1/\Rel N np S0 w0 refs σ1 a w S γ/\σ1.bx d = .free/\∃cx,w.ownsRow 0 ti.elem el.size vx xs.length cx.flatten/\All2 (λx c=>Rep S w el x c) xs cx/\
   ∀g,blk vx=some g->Own w0 refs g/\g<w.heap.size/\(∀k b,σ1.bx k = .live b->blk (γ k)≠some g)/\(frz=false->∀o,¬S g o)/\(frz=true->∀o,S g o↔o<xs.length*el.size)/\refs.kw g=none:=by
  unfold appS at h1;split at h1
  .rename_i k;split at h1
   .rename_i e' yl bJ f hk;split at h1
    .rename_i Gb fT;split at h1
     .rename_i he;simp only[j5,j9]at h1;obtain⟨rfl,rfl,rfl⟩:=h1;have:=gU fT;cases this;subst he;have jK:=aF.par hk;have bn:=aF.ok.nm hk;have hk:=aF.ok.live hk;have hz:=hx.2.2 _ hk;obtain⟨css,ar,ah,hS⟩:=eW bn (hR.box k _ hk);have nc:d≠k:=by rintro rfl;rw[hd]at hk;simp at hk
      refine⟨σ.setB k .gone,rfl,yj hR hk,by rw[bo σ _ nc];exact hd,css,by rw[hz];exact ar,ah,λg hg=>?_⟩;rw[hz]at hg;refine⟨?_,fm (hR.box k _ hk) hg,λk' b' al af=>?_,(hS g hg).1,(hS g hg).2,hR.kw_live hk hg⟩
      .rcases hR.own k _ g hk hg with h|h
       .exact h
       .rw[jK]at h;simp at h
      .have aY:k'≠k:=by rintro rfl;rw[cV]at al;simp at al
       rw[bo σ _ aY]at al;exact hR.apart k' k _ _ g aY al hk af hg
     .simp at h1
    .simp at h1
   .simp at h1
  .simp only[j5,j9]at h1;obtain⟨rfl,rfl,rfl⟩:=h1;have hz:vx = .slice none 0 0:=hx;subst hz;exact⟨σ,rfl,hR,hd,[],World.ownsRow_nil w 0 ti.elem el.size,trivial,λg hg=>by simp[blk]at hg⟩
  .simp at h1
 obtain⟨σ1,Mo,aJ,mZ,cx,ar,ym,hblk⟩:=src;rw[fR,Mo];obtain⟨v',w',hr,bb,os,tape,output,ba,bt⟩:=Gk hT ht aD (ty:=ty) ar dz Bq bZ Mn cM;have hlx:cx.flatten.length=xs.length*el.size:=ar.1;let S':aq:=λg o=>S g o\/(frz=true/\blk v'=some g/\o<(xs++ys).length*el.size)
 have aj:bY S w S' w':=by
  intro g o hs;refine⟨.inl hs,?_⟩;rcases bt with⟨rfl,rfl⟩|⟨hb,⟨g0,gr⟩,hh⟩|⟨hb,hh⟩
  .rfl
  .by_cases hg:g=g0
   .subst hg;obtain⟨_,_,_,hf,pE,_⟩:=hblk g gr;cases frz with
    |false=>exact absurd hs (hf rfl o)
    |true=>
     have ho:=(pE rfl o).1 hs
     have eI:v'.ownBlock=some g:=by
      rw[gr]at hb;rcases bb.2 with⟨hn,_⟩|⟨g1,cap,cur,hn,_⟩
      .rw[hn]at hb;simp[blk]at hb
      .rw[hn]at hb ⊢;simp[blk]at hb;simp[Value.ownBlock,hb]
     have rA:vx.ownBlock=some g:=by
      rcases ar.2 with⟨hn,_⟩|⟨g1,cap,cur,hn,_⟩
      .rw[hn]at gr;simp[blk]at gr
      .rw[hn]at gr ⊢;simp[blk]at gr;simp[Value.ownBlock,gr]
     have vf:(cx.flatten)[o]? = some (cx.flatten[o]'(by omega)):=jq (by omega);have e1:=ar.cells rA o _ vf;have e2:=bb.cells eI o (cx.flatten[o]'(by omega)) (by rw[List.getElem?_append_left (by omega)];exact vf);rw[Addr.add_lit,jt]at e1 e2;rw[e1,e2]
   .have:=hh g (by rw[gr];simpa using λh=>hg h.symm);exact World.cell?_of_block (a:=⟨g,o,none⟩) this
  .exact World.cell?_of_block (a:=⟨g,o,none⟩) (hh g (hR.here g o hs))
 have Mp:∀g,blk v'=some g->Own w0 refs g/\(∀k b,σ1.bx k = .live b->blk (γ k)≠some g)/\g<w'.heap.size:=by
  intro g hg
  have ak:g<w'.heap.size:=by
   rcases bb.2 with⟨hn,_⟩|⟨g1,cap,cur,hn,_,hh,_⟩
   .rw[hn]at hg;simp[blk]at hg
   .rw[hn]at hg;simp[blk]at hg;subst hg;exact(jc.1 hh).1
  rcases bt with⟨rfl,rfl⟩|⟨hb,⟨g0,gr⟩,hh⟩|⟨hb,hh⟩
  .obtain⟨q1,q2,q3,_⟩:=hblk g hg;exact⟨q1,q3,ak⟩
  .rw[hb]at hg;obtain⟨q1,q2,q3,_⟩:=hblk g hg;exact⟨q1,q3,ak⟩
  .rw[hb]at hg;simp at hg;subst hg;exact⟨.inl hR.grow,λk b hk af=>by have:=fm (aJ.box k b hk) af;omega,ak⟩
 obtain⟨bL,eZ⟩:=tu aJ mZ (hm:=AX hT ht) (w':=w') (S':=S') (v':=v') (e:=ti.elem) (el:=el) (zs:=xs++ys) (frz:=frz) (css:=cx++cy) aj (λg hg aB=>by
   rcases bt with⟨rfl,rfl⟩|⟨hb,_,hh⟩|⟨hb,hh⟩
   .rfl
   .exact hh g (by rw[<-hb];exact aB)
   .exact hh g hg) ba Mp (λg o hs=>hs.imp id (λh=>h.2.1)) os tape output (by rw[zf,jn];exact bb)
  ((
   ym.mono (λx c hx=>Rep.keep aj _ _ _ hx)).append (rz.mono (λx c hx=>Rep.keep aj _ _ _ hx))) (λg hg=>by
   have hold:∀o,S g o->frz=true/\o<xs.length*el.size:=by
    intro o hs;rcases bt with⟨rfl,rfl⟩|⟨hb,⟨g0,gr⟩,hh⟩|⟨hb,hh⟩
    .obtain⟨_,_,_,hf,pE,_⟩:=hblk g hg;cases frz with
     |false=>exact absurd hs (hf rfl o)
     |true=>exact⟨rfl,(pE rfl o).1 hs⟩
    .rw[hb]at hg;obtain⟨_,_,_,hf,pE,_⟩:=hblk g hg;cases frz with
     |false=>exact absurd hs (hf rfl o)
     |true=>exact⟨rfl,(pE rfl o).1 hs⟩
    .rw[hb]at hg;simp at hg;subst hg;exact absurd hs (u5 hR o)
   refine⟨λhf o hs=>?_,λhf o=>⟨λhs=>?_,λho=> .inr ⟨hf,hg,ho⟩⟩⟩
   .rcases hs with hs|hs
    .rw[hf]at hold;simp at hold;exact hold o hs
    .rw[hf]at hs;simp at hs
   .rcases hs with hs|hs
    .have:=(hold o hs).2;rw[jn,Nat.add_mul];omega
    .exact hs.2.2) (λg hg=>by
   rcases bt with⟨rfl,rfl⟩|⟨hb,⟨g0,gr⟩,hh⟩|⟨hb,hh⟩
   .exact(hblk g hg).2.2.2.2.2
   .rw[hb]at hg;exact(hblk g hg).2.2.2.2.2
   .rw[hb]at hg;simp at hg;subst hg;exact hR.kw_new (jr _))
 exact⟨v',w',S',_,hr,bL,eZ⟩
end
theorem Mq(L l:List Value)(v:Value)(n:Nat)(h:n<L.length) :
  (L.set n v).take (n+1)++l++(L.set n v).drop (n+1+l.length)=L.take n++v::l++L.drop (n+(l.length+1)):=by
 obtain⟨A,x,B,hA,rfl⟩:∃A x B,List.length A=n/\L=A++x::B:=⟨L.take n,L[n],L.drop (n+1),by simp;omega,by rw[List.getElem_cons_drop h,qs]⟩;subst hA;rw[List.set_append_right _ _ (jr _),Nat.sub_self,List.set_cons_zero];have e1:(A++v::B).take (A.length+1)=A++[v]:=by rw[show A++v::B=(A++[v])++B by simp];exact zg (by simp)
 have e2:(A++x::B).take A.length=A:=zg rfl;have e3:∀y,(A++y::B).drop (A.length+1+l.length)=B.drop l.length:=by intro y;rw[show A++y::B=(A++[y])++B by simp,<-List.drop_drop,List.drop_left' (by simp)]
 rw[e1,e2,e3,show A.length+(l.length+1)=A.length+1+l.length by omega,e3];simp
theorem Gm(off:Nat):∀(l:List Value)(k:Nat)(cells:Array Value),off+k+l.length<=cells.size->
  ((l.zipIdx k).foldl (λcs x=>cs.setIfInBounds (off+x.2) x.1) cells).toList=cells.toList.take (off+k)++l++cells.toList.drop (off+k+l.length)
 |[],k,cells,_=>by simp
 |v::l,k,cells,h=>by
  simp only[jm]at h;rw[List.zipIdx_cons,List.foldl_cons,Gm off l (k+1) _ (by simp;omega)];simp only[Array.toList_setIfInBounds];rw[show off+(k+1)=off+k+1 by omega];exact Mq cells.toList l v (off+k) (by simp;omega)
theorem Br(cells:Array Value)(off:Nat)(zs:Array Value)(h:off+zs.size<=cells.size) :
  (zs.zipIdx.foldl (λcs (x:Value×Nat)=>cs.setIfInBounds (off+x.2) x.1) cells).toList=cells.toList.take off++zs.toList++cells.toList.drop (off+zs.size):=by
 rw[<-Array.foldl_toList,Array.toList_zipIdx];have:=Gm off zs.toList 0 cells (by simpa using h);simpa using this
theorem Gn(z:List Value):∀(n p:Nat),p<n*z.length->(List.replicate n z).flatten[p]? = z[p%z.length]?
 |0,p,h=>by simp at h
 |n+1,p,h=>by
  rw[List.replicate_succ,k9];by_cases hp:p<z.length
  .rw[List.getElem?_append_left hp,Nat.mod_eq_of_lt hp]
  .rw[k5 (by omega),Gn z n (p-z.length) (by rw[Nat.add_mul]at h;omega)];congr 1;exact(Nat.mod_eq_sub_mod (by omega)).symm
theorem Gp(z:Array Value)(n:Nat)(hz:0<z.size):((Array.range (n*z.size)).map (λi=>z[i%z.size]!)).toList=(List.replicate n z.toList).flatten:=by
 apply qn;intro p;by_cases hp:p<n*z.size
 .rw[Gn z.toList n p (by simpa using hp)];have hm:p%z.size<z.size:=Nat.mod_lt _ hz;simp[hp,hm]
 .rw[kr (by simp;omega),kr (by rw[List.length_flatten];simp;omega)]
section
variable{N:NT}{np:Nat}{S0:aq}{w0:World}{refs:Refs}{σ:St}{a:Go.Act}{w:World}{S:aq}{γ:Nat->Value}
theorem yn{t:Ty}{z:Value}(h:z.cells.toList=fP t):z.cells.size=t.size:=by
 have:=Rep.length t t.dflt _ (kZ (S:=λ_ _=>False) (w:=(default:World)) t);rw[<-h]at this;simpa using this
theorem yo{t:Ty}{z:Value}(h:z.cells.toList=fP t):∀u∈z.cells.toList,One u:=by
 rw[h];exact Rep.one t t.dflt _ (kZ (S:=λ_ _=>False) (w:=(default:World)) t)
theorem Bs{P:Program}{T:Nat->Option TyI}(hT:bk P T){t:TypeId}{ti:TyI}(ht:T t=some ti){ty:Ty}(aD:ti.ty=some ty) :
  ∃z:Value,z.cells.toList=fP ty/\(Instr.alloc t true (.tuple #[])).run P w = .ok (.pointer (some ⟨w.heap.size,0,none⟩)) (w.alloc (.cells z.cells t)):=by
 obtain⟨z,hz,hc⟩:=ri hT ht w aD;refine⟨z,hc,?_⟩;simp only[Instr.alloc,Sem.run_bind,hz,Result.andThen_ok,newVar,newRow,run_newObj,Sem.run_pure,World.alloc_eq]
theorem Gq{P:Program}(t:TypeId)(v:Value):(Instr.box t v).run P w = .ok (.pointer (some ⟨w.heap.size,0,none⟩)) (w.alloc (.cells v.cells t)):=by
 simp only[Instr.box,Sem.run_bind,newVar,newRow,run_newObj,Result.andThen_ok,Sem.run_pure,World.alloc_eq]
theorem Gr{P:Program}{α β:Type}(f:α->Sem β)(g:α->β):∀(l:List α),(∀x∈l,(f x).run P w = .ok (g x) w)->(l.mapM f).run P w = .ok (l.map g) w
 |[],_=>by simp
 |x::l,h=>by
  rw[qt];simp only[Sem.run_bind,h x (by simp),Result.andThen_ok,Gr f g l (λy hy=>h y (by simp[hy])),Sem.run_pure,qb]
theorem Gs{bx:Nat->BS}{ti:TyI}{sz:Nat->Option Nat}{place:Nat->Option (Nat×Nat)}(hp:∀i f n,ti.flds[i]? = some f->sz f.2=some n->place i=some (f.1,n)) :
  ∀(ps:List (Nat×Cel))(vs:List (Nat×Value)){ls ew:List Leaf}{cells:Array Value},All2 (λp v=>p.1=v.1/\aQ S w γ bx p.2 v.2) ps vs->sQ ti sz ls ps=some ew->
   All2 (aL S w γ bx) ls cells.toList->(∀u∈cells.toList,One u)->∃aK,Instr.fill place cells vs=some aK/\All2 (aL S w γ bx) ew aK.toList/\∀u∈aK.toList,One u
 |[],[],ls,ew,cells,_,h,ha,h1=>by
  simp[sQ]at h;subst h;exact⟨cells,rfl,ha,h1⟩
 |(i,c)::ps,(j,v)::vs,ls,ew,cells,⟨⟨cg,hc⟩,eJ⟩,h,ha,h1=>by
  simp only at cg;subst cg;simp only[sQ]at h;split at h
  .rename_i f hf;split at h
   .rename_i new cL;split at h
    .rename_i aT;obtain⟨ba,hle⟩:=aT;obtain⟨hl,jI⟩:=tt cL hc;have hlen:=hl.length;have pA:=ha.length;have eP:v.cells.size=new.length:=by rw[hlen];simp
     have cB:cells.size=ls.length:=by rw[pA];simp
     have tw:=Br cells f.1 v.cells (by omega);have bS:=ye (c:=f.1) ha hl
     obtain⟨aK,dn,h2,h3⟩:=Gs hp ps vs (cells:=(v.cells.zipIdx.foldl (λcs (x:Value×Nat)=>cs.setIfInBounds (f.1+x.2) x.1) cells)) eJ h
      (by rw[tw];simpa using bS) (by
       rw[tw];intro u hu;simp only[jp]at hu;rcases hu with (hu|hu)|hu
       .exact h1 u (kx hu)
       .exact jI u hu
       .exact h1 u (za hu))
     refine⟨aK,?_,h2,h3⟩;simp only[Instr.fill,hp i f _ hf ba];rw[if_neg (by simp[eP];omega)];exact dn
    .simp at h
   .simp at h
  .simp at h
 |[],_::_,_,_,_,h,_,_,_=>h.elim
 |_::_,[],_,_,_,h,_,_,_=>h.elim
theorem Mr{P:Program}{E:Env}(hT:bk P E.T){bx:Nat->BS}{t:TypeId}{ti:TyI}(ht:E.T t=some ti){ty:Ty}(aD:ti.ty=some ty)(iG:ty.agg=true)
  {ps:List (Nat×Cel)}{vs:Array (Nat×Value)}{ls:List Leaf}(eJ:All2 (λp v=>p.1=v.1/\aQ S w γ bx p.2 v.2) ps vs.toList)
  (h:sQ ti (λt=>(E.T t).map (·.size)) (jC ty) ps=some ls) :
  ∃z,(Instr.build t vs).run P w = .ok z w/\aQ S w γ bx (.st ls) z:=by
 obtain⟨z,hz,eu⟩:=ri hT ht w aD;obtain⟨i,d,hi,hd,_,_,_,dV,cK⟩:=ir hT ht;have kB:=(cK ty aD).2.2;cases d with
 |struct fs=>
  simp only[uV,jb,jg]at dV;obtain⟨kE,nY⟩:=dV
  have ob:(fs.mapM (λf=>do pure (f.offset,<-sizeOf f.type):Field->Sem (Nat×Nat))).run P w = .ok (fs.map λf=>(f.offset,((E.T f.type).map (·.size)).getD 0)) w:=by
   rw[zb]
   have:=Gr (P:=P) (w:=w) (λf=>(do pure (f.offset,<-sizeOf f.type):Sem (Nat×Nat))) (λf:Field=>(f.offset,((E.T f.type).map (·.size)).getD 0)) fs.toList (λf hf=>by
    have:=ji.1 nY f hf;split at this
    .rename_i tf lI;simp only[Sem.run_bind,eX hT lI,Result.andThen_ok,Sem.run_pure,lI,ki,Option.getD_some]
    .simp at this)
   simp only[Sem.run_map,this,Result.andThen_ok];congr 1;apply k8;simp
  have hp:∀(i:Nat)(f:Nat×Nat)(n:Nat),ti.flds[i]? = some f->(E.T f.2).map (·.size)=some n->(fs.map λf=>(f.offset,((E.T f.type).map (·.size)).getD 0))[i]? = some (f.1,n):=by
   intro i f n hf hn;rw[<-kE,kn]at hf;cases hq:fs.toList[i]? with
   |none=>simp[hq]at hf
   |some fl=>
    simp only[hq,ki,j5]at hf;subst hf;have Bt:fs[i]? = some fl:=by simpa using hq
    simp only at hn;simp[Bt,hn]
  obtain⟨aK,dn,ha,h1⟩:=Gs (S:=S) (w:=w) (γ:=γ) (place:=λi=>(fs.map λf=>(f.offset,((E.T f.type).map (·.size)).getD 0))[i]?) hp ps vs.toList (cells:=z.cells) eJ h (by rw[eu];exact pz ty) (yo eu);refine⟨.agg aK,?_,aK,rfl,ha,h1⟩;simp only[Instr.build,Sem.run_bind,hz,Result.andThen_ok,run_underlying hd,ob,dn,Sem.run_pure]
 |_=>exfalso;revert kB iG;cases ty<;>simp[gi,Ty.agg]
theorem Gt{rd:Nat->BS}{el:Ty}:∀(ps:List (Nat×Cel)){xs bJ:List el.den}{u u':Ups},fN rd el xs u ps=some (bJ,u')->∃u2,u'=u++u2
 |[],_,_,u,u',h=>by simp[fN]at h;exact⟨[],by simp[h.2]⟩
 |(i,c)::ps,xs,bJ,u,u',h=>by
  simp only[fN]at h;split at h
  .split at h
   .obtain⟨u2,hu⟩:=Gt ps h;exact⟨_,by rw[hu,jj]⟩
   .simp at h
  .simp at h
theorem Bu{rd:Nat->BS}(au:RdF np σ rd)(hB:tn S w γ σ.bx){el:Ty}(cc:0<el.size):∀(ps:List (Nat×Cel))(vs:List (Nat×Value)){xs bJ:List el.den}{u u':Ups},
  All2 (λp v=>p.1=v.1/\aQ S w γ σ.bx p.2 v.2) ps vs->fN rd el xs u ps=some (bJ,u')->FrzL np σ.bx u->
  FrzL np σ.bx u'/\∀S',bY S w S' w->Froz σ.bx γ S' w u'->∀(css:List (List Value))(cells:Array Value),All2 (λx c=>Rep S' w el x c) xs css->cells.toList=css.flatten->
   ∃aK gu,Instr.fill (λi=>some (i*el.size,el.size)) cells vs=some aK/\All2 (λx c=>Rep S' w el x c) bJ gu/\aK.toList=gu.flatten
 |[],[],xs,bJ,u,u',_,h,hf=>by
  simp[fN]at h;obtain⟨rfl,rfl⟩:=h;exact⟨hf,λS' _ _ css cells ha hc=>⟨cells,css,rfl,ha,hc⟩⟩
 |(i,c)::ps,(j,v)::vs,xs,bJ,u,u',⟨⟨cg,hc⟩,eJ⟩,h,hf=>by
  simp only at cg;subst cg;simp only[fN]at h;split at h
  .rename_i x u1 hx;split at h
   .rename_i hi;obtain⟨kE,Ms,jI⟩:=yc au hB hx hc;obtain⟨Mt,bH⟩:=Bu au hB cc ps vs eJ h (FrzL.app.2 ⟨hf,kE⟩);obtain⟨u2,vg⟩:=Gt ps h;refine⟨Mt,λS' aj cF css cells ha bO=>?_⟩;have Mu:=(Ms S' w aj (Froz.app.1 (Froz.app.1 (vg▸cF)).1).2).1;have Bv:cells.size=xs.length*el.size:=by have:=All2.flatten_length (λx c hx=>Rep.length el x c hx) ha;rw[<-bO]at this;simpa using this
    have Gj:i*el.size+el.size<=xs.length*el.size:=by have:(i+1)*el.size<=xs.length*el.size:=jv _ (by omega);rwa[zd]at this
    have jI:v.cells.toList.length=el.size:=jI;have eP:v.cells.size=el.size:=by simpa using jI
    have oa:v.cells.toList.length=v.cells.size:=km;have tw:=Br cells (i*el.size) v.cells (by omega);obtain⟨ci,iI⟩:∃ci,css[i]? = some ci:=⟨css[i]'(by rw[<-ha.length];exact hi),jq _⟩;have yi:=Bm (cur:=cells.toList) (n:=xs.length) (c:=0) (zs:=v.cells.toList) (All2.all_len ha) ha.length.symm (by rw[bO,<-bO];exact List.take_of_length_le (by simp[Bv])) iI (by omega);have dh:ci.length=el.size:=All2.all_len ha ci (js iI)
    have cL:cells.toList.take (i*el.size)++v.cells.toList++cells.toList.drop (i*el.size+v.cells.size)=(css.set i v.cells.toList).flatten:=by
     have e1:ci.take 0++v.cells.toList++ci.drop (0+v.cells.toList.length)=v.cells.toList:=by rw[jd (by omega)];simp
     rw[e1]at yi;rw[<-yi];symm;refine(List.take_of_length_le ?_).trans ?_
     .simp;omega
     .simp
    obtain⟨aK,gu,h1,h2,h3⟩:=bH S' aj cF (css.set i v.cells.toList) _ (ha.set i x v.cells.toList Mu) (tw.trans cL);refine⟨aK,gu,?_,h2,h3⟩;simp only[Instr.fill];rw[if_neg (by simp[eP];omega)];exact h1
   .simp at h
  .simp at h
 |[],_::_,_,_,_,_,h,_,_=>h.elim
 |_::_,[],_,_,_,_,h,_,_=>h.elim
end
theorem Gu{P:Program}{t e:TypeId}(h:P.underlying t=some (.slice e)):P.elem t=e:=by simp[Program.elem,h]
def VB(d:Nat)(o:Option Value)(i:Nat):Prop:=(o=none/\i=d)\/∃k,o=some (.int k (i:Int))
theorem rB{P:Program}{w:World}{t:TypeId}{e s:Nat}(hd:P.underlying t=some (.slice e))(hs:(sizeOf e).run P w = .ok s w){ad:Option Addr}{len cap i j:Nat}{lo hi:Option Value}
  (eQ:VB 0 lo i)(eR:VB len hi j)(cg:i<=j)(hj:j<=cap) :
  (Instr.sliceAt t (.slice ad len cap) lo hi none).run P w = .ok (.slice (if cap=i then ad else ad.map (·.add (i*s))) (j-i) (cap-i)) w:=by
 have he:=Gu hd;have eh:P.underlying t=some (.slice (P.elem t)):=by rw[he];exact hd
 rw[run_sliceAt_slice w t _ _ _ _ eh];have cW:(sizeOf (P.elem t)).run P w = .ok s w:=by rw[he];exact hs
 rcases eQ with⟨rfl,rfl⟩|⟨kl,rfl⟩
 .rcases eR with⟨rfl,rfl⟩|⟨kh,rfl⟩
  .rw[run_slice_all w t ad _ cap eh,cW];simp[Result.andThen,sliced]
  .rw[run_slice_h w t ad len cap eh kh _ (by omega) (by omega),cW];simp[Result.andThen,sliced]
 .rcases eR with⟨rfl,rfl⟩|⟨kh,rfl⟩
  .rw[run_slice_l w t ad _ cap eh kl _ (by omega) (by omega),cW];simp[Result.andThen,sliced]
  .rw[run_slice_lh w t ad len cap eh kl kh _ _ (by omega) (by omega) (by omega),cW];simp[Result.andThen,sliced]
section
variable{N:NT}{np:Nat}{S0:aq}{w0:World}{refs:Refs}{σ:St}{a:Go.Act}{w:World}{S:aq}{γ:Nat->Value}
theorem Gv{el:Ty}{xs:List el.den}{ad:Option Addr}{cap:Nat}(h:Rep S w (.list el) xs [.slice ad (List.length xs) cap]){i j:Nat}(cg:i<=j)(hj:j<=List.length xs) :
  Rep S w (.list el) ((xs.take j).drop i) [.slice (if cap=i then ad else ad.map (·.add (i*el.size))) (j-i) (cap-i)]:=by
 obtain⟨Mv,dW,he,hle,gl,hn,hb⟩:=h;simp only[zh,Value.slice.injEq,and_true,kq]at he;obtain⟨rfl,rfl⟩:=he;have hlen:((xs.take j).drop i).length=j-i:=by simp;omega
 refine⟨_,_,by rw[hlen],by rw[hlen];omega,by omega,λh=>?_,λb al=>?_⟩
 .have:ad=none:=by
   split at h
   .exact h
   .simpa using h
  have:=hn this;omega
 .by_cases hc:cap=i
  .rw[if_pos hc]at al;have hz:(xs.take j).drop i=[]:=jo (by omega);rw[hz];exact⟨λh=>absurd rfl h,[],trivial,λj v hv=>by simp at hv⟩
  .rw[if_neg hc]at al;cases ad with
   |none=>simp at al
   |some b0=>
    simp only[ki,j5]at al;subst al;obtain⟨bS,css,ha,hl⟩:=hb b0 rfl;by_cases hx:(xs.take j).drop i=[]
    .rw[hx];exact⟨λh=>absurd rfl h,[],trivial,λj v hv=>by simp at hv⟩
    .have dM:xs≠[]:=λh=>hx (by rw[h];simp);obtain⟨g,o,sp⟩:=b0;have bS:=bS dM;simp at bS;subst bS;have rC:(⟨g,o,none⟩:Addr).add (i*el.size)=⟨g,o+i*el.size,none⟩:=Addr.add_lit _ _ _;rw[rC];refine⟨λ_=>rfl,(css.take j).drop i,(ha.take j).drop i,λq v hq=>?_⟩;have dh:=All2.all_len ha;rw[vb i (λc hc=>dh c (kx hc)),pC j dh,List.getElem?_drop,kp]at hq;split at hq
     .have:=hl _ v hq;simpa[Nat.add_assoc]using this
     .simp at hq
def ORep(R:Leaf->Value->Prop):Option Leaf->Option Value->Prop
 |none,none=>True
 |some l,some v=>R l v
 |_,_=>False
theorem oc{d:Nat}{o:Option Leaf}{vo:Option Value}{i:Int}{bx:Nat->BS}(h:bnd d o=some i)(ho:ORep (aL S w γ bx) o vo)(hi:0<=i):VB d vo i.toNat:=by
 unfold bnd at h;split at h
 .cases vo with
  |none=>simp at h;exact .inl ⟨rfl,by omega⟩
  |some v=>exact ho.elim
 .cases vo with
  |none=>exact ho.elim
  |some v=>simp at h;rename_i k n;have hv:v = .int k n:=jG (S:=S) (w:=w) ho;refine .inr ⟨k,?_⟩;rw[hv,show (n:Int)=i from h,Int.toNat_of_nonneg hi]
 .simp at h
theorem Mw{P:Program}{E:Env}(hT:bk P E.T)(hR:Rel N np S0 w0 refs σ a w S γ){rd:Nat->BS}(au:RdOk σ rd){t:TypeId}{ti:TyI}(ht:E.T t=some ti)
  {d:Nat}{x l:Leaf}{lo hi:Option Leaf}{vx:Value}{lU nd:Option Value}{u:Ups}(ay:∀k,ee (rd k)=true->σ.bx k = .free)(h:sR (parK np) rd ti d x lo hi=some (true,l,u))
  (hx:aL S w γ σ.bx x vx)(eQ:ORep (aL S w γ σ.bx) lo lU)(eR:ORep (aL S w γ σ.bx) hi nd) :
  ∃v S' γ',(Instr.sliceAt t vx lU nd none).run P w = .ok v w/\Rel N np S0 w0 refs (σ.upd u) a w S' γ'/\aQ S' w γ' (σ.upd u).bx (.one l) v:=by
 unfold sR at h;split at h
 ·-- a datum
  rename_i el xs;split at h
  .rename_i aD;obtain⟨hd,_,te,bG,bh⟩:=iF hT ht aD;have ba:=gS hT bG bh;split at h
   .rename_i i j ei iu;simp only[j5,j9,jb,jg]at h;obtain⟨⟨h0,h1,h2⟩,rfl,rfl⟩:=h;have kY:=hx;obtain⟨ad,cap,hv,hle,_⟩:=hx;simp at hv;subst hv;have hlen:((List.length xs:Nat):Int)=Int.ofNat (List.length xs):=rfl;refine⟨_,S,γ,rB hd (s:=el.size) ?_ (oc ei eQ h0) (oc iu eR (by omega)) (by omega) (by omega),hR,Gv kY (by omega) (by omega),λ_=>rfl⟩;rw[eX hT bG,ba]
   .simp at h
  .simp at h
 .rename_i k;split at h
  ·-- the tail
   split at h
   .rename_i e el xs f hk;split at h
    .rename_i aD;obtain⟨hd,_,te,bG,bh⟩:=iF hT ht aD;have ba:=gS hT bG bh;split at h
     .rename_i i ei;simp only[j5,j9,jb,jg]at h;obtain⟨⟨h0,h1⟩,rfl,rfl⟩:=h;have bn:=au.nm hk;have hk:=au.live hk;have hz:=hx.2.2 _ hk;obtain⟨css,ar,_⟩:=eW bn (hR.box k _ hk)
      obtain⟨ad,cap,hg,cQ⟩:∃ad cap,γ k = .slice ad xs.length cap/\xs.length<=cap:=by
       rcases ar.2 with⟨hg,hn⟩|⟨g,cap,cur,hg,_,_,fk,_⟩
       .exact⟨none,0,by rw[hg,hn],by omega⟩
       .exact⟨_,cap,hg,fk⟩
      have od:VB xs.length nd xs.length:=by
       cases nd with
       |none=>exact .inl ⟨rfl,rfl⟩
       |some v=>exact eR.elim
      subst hz;have ai:=rB (ad:=ad) (w:=w) hd (s:=el.size) (by rw[eX hT bG,ba]) (oc ei eQ h0) od (by omega) cQ;rw[<-hg]at ai;refine⟨_,S,γ,ai,hR,⟨hx.1,rfl,λb hb=>?_⟩,λ_=>rfl⟩;rw[show (σ.upd []).bx k=σ.bx k from rfl,hk]at hb;cases hb;exact⟨bn,by omega,ad,cap,hg,rfl⟩
     .simp at h
    .simp at h
   .simp at h
  .rename_i hh;split at h
   .rename_i e el xs f hk;split at h
    .rename_i aD;obtain⟨hd,_,te,bG,bh⟩:=iF hT ht aD;have ba:=gS hT bG bh;split at h
     .rename_i i j ei iu;have bn:=au.nm hk;have hk:=au.live hk;have hz:=hx.2.2 _ hk;split at h
      ·-- a pF: its head
       split at h
       .rename_i nf;simp only[Option.isNone_iff_eq_none]at nf;subst nf;simp only[j5,j9,jb,jg]at h;obtain⟨⟨h0,h1⟩,rfl,rfl⟩:=h;obtain⟨css,ar,_⟩:=eW bn (hR.box k _ hk)
        have pG:VB 0 lU 0:=by
         cases lU with
         |none=>exact .inl ⟨rfl,rfl⟩
         |some v=>exact eQ.elim
        have od:=oc iu eR h0
        obtain⟨ad,cap,hg,cQ,Mx⟩:∃ad cap,γ k = .slice ad xs.length cap/\xs.length<=cap/\(if cap=0 then ad else ad.map (·.add (0*el.size)))=ad:=by
         rcases ar.2 with⟨hg,hn⟩|⟨g,cap,cur,hg,_,_,fk,_⟩
         .exact⟨none,0,by rw[hg,hn],by omega,rfl⟩
         .exact⟨_,cap,hg,fk,by simp[Addr.add_lit]⟩
        have ai:=rB (ad:=ad) (w:=w) hd (s:=el.size) (by rw[eX hT bG,ba]) pG od (by omega) (show j.toNat<=cap by omega);rw[<-hg,Mx]at ai;subst hz;refine⟨_,S,γ,ai,hR,⟨hx.1,rfl,λb hb=>?_⟩,λ_=>rfl⟩;rw[show (σ.upd []).bx k=σ.bx k from rfl,hk]at hb;cases hb;exact⟨bn,by omega,ad,cap,hg,rfl⟩
       .simp at h
      rename_i jK;have jK:parK np k=false:=by simpa using jK
      split at h
      ·-- cut short
       rename_i cX;simp only[jb,Option.isNone_iff_eq_none,Bool.not_eq_eq_eq_not,ju]at cX;obtain⟨rfl,rfl⟩:=cX;split at h
       .rename_i fQ;simp only[j5,j9,jb,jg]at h;obtain⟨⟨h0,h1⟩,rfl,rfl⟩:=h;have vi:=ay d fQ;have nc:d≠k:=by rintro rfl;rw[vi]at hk;simp at hk
        obtain⟨css,ar,ah,hS⟩:=eW bn (hR.box k _ hk);have dh:=All2.all_len ah
        have pG:VB 0 lU 0:=by
         cases lU with
         |none=>exact .inl ⟨rfl,rfl⟩
         |some v=>exact eQ.elim
        have od:=oc iu eR h0;have aJ:=yj hR hk;have mZ:(σ.setB k .gone).bx d = .free:=by rw[bo σ _ nc];exact vi
        have tx:j.toNat<=xs.length:=by omega
        have My:css.length=xs.length:=ah.length.symm
        have key:∃v',(Instr.sliceAt t vx lU nd none).run P w = .ok v' w/\w.ownsRow 0 e el.size v' (List.take j.toNat xs).length (List.take j.toNat css).flatten/\blk v'=blk vx:=by
         rw[hz];have ak:(List.take j.toNat xs).length=j.toNat:=by simp;omega
         rcases ar.2 with⟨hg,hn⟩|⟨g,cap,cur,hg,_,hh,fk,gl,cB,bQ⟩
         .rw[hg];have Bw:j.toNat=0:=by omega
          refine⟨_,rB hd (s:=el.size) (len:=0) (by rw[eX hT bG,ba]) pG (by rw[hn]at od;exact od) (by omega) (by omega),?_,by simp;rfl⟩;rw[Bw];simpa using World.ownsRow_nil w 0 e el.size
         .rw[hg];refine⟨_,rB hd (s:=el.size) (by rw[eX hT bG,ba]) pG od (by omega) (by omega),?_,?_⟩
          .refine⟨?_,.inr ⟨g,cap,cur,?_,jw _,hh,by omega,gl,cB,?_⟩⟩
           .rw[pC _ dh,qj,ar.1,ak];exact Nat.min_eq_left (jv _ tx)
           .rw[ak];by_cases hc:cap=0
            .simp[hc]
            .simp[hc,Addr.add_lit]
           .rw[ak,pC _ dh,<-bQ,zk,Nat.min_eq_left (jv _ tx)]
          .by_cases hc:cap=0
           .simp[hc];rfl
           .simp[hc,Addr.add_lit];rfl
        obtain⟨v',ai,bb,hblk⟩:=key
        have iK:∀g,blk v'=some g->Own w0 refs g/\(∀k' b,(σ.setB k .gone).bx k' = .live b->blk (γ k')≠some g)/\g<w.heap.size:=by
         intro g hg;rw[hblk,hz]at hg;refine⟨?_,λk' b' al af=>?_,fm (hR.box k _ hk) hg⟩
         .rcases hR.own k _ g hk hg with h|h
          .exact h
          .rw[jK]at h;simp at h
         .have aY:k'≠k:=by rintro rfl;rw[cV]at al;simp at al
          rw[bo σ _ aY]at al;exact hR.apart k' k _ _ g aY al hk af hg
        obtain⟨bL,eZ⟩:=tu aJ mZ (hm:=bn) (w':=w) (S':=S) (v':=v') (e:=e) (el:=el) (zs:=List.take j.toNat xs) (frz:=false) (css:=List.take j.toNat css) (.refl S w) (λg hg aB=>rfl) (jr _) iK
         (λg o hs=> .inl hs) rfl rfl rfl bb (ah.take _) (λg hg=>⟨λ_=>(hS g (by rw[<-hz,<-hblk];exact hg)).1 rfl,by simp⟩) (λg hg=>hR.kw_live hk (by rw[<-hz,<-hblk];exact hg))
        exact⟨v',S,_,ai,bL,eZ⟩
       .simp at h
      ·-- shared
       simp only[j5,j9,jb,jg]at h;obtain⟨⟨h0,h1,h2⟩,rfl,rfl⟩:=h;obtain⟨S',aZ,aj,aG⟩:=Bi hR bn hk jK;have gX:=aG;obtain⟨ad,cap,hv,hle,_⟩:=aG;simp at hv;rw[hv]at gX;refine⟨_,S',γ,by rw[hz,hv];exact rB hd (s:=el.size) (by rw[eX hT bG,ba]) (oc ei eQ h0) (oc iu eR (by omega)) (by omega) (by omega),aZ,Gv gX (by omega) (by omega),λ_=>rfl⟩
     .simp at h
    .simp at h
   .simp at h
 ·-- of a head
  rename_i k m;split at h
  .rename_i e el xs f hk;split at h
   .rename_i aD;obtain⟨aD,Mz⟩:=aD;obtain⟨hd,_,te,bG,bh⟩:=iF hT ht aD;have ba:=gS hT bG bh;split at h
    .rename_i i j ei iu;simp only[j5,j9,jb,jg]at h;obtain⟨⟨h0,h1,h2⟩,rfl,rfl⟩:=h;have bn:=au.nm hk;have hk:=au.live hk;obtain⟨_,hm,ad,cap,hg,hz⟩:=hx.2.2 _ hk;obtain⟨css,ar,_⟩:=x6 hg (hR.box k _ hk)
     have cQ:xs.length<=cap:=by
      rcases ar.2 with⟨af,hn⟩|⟨g,dW,cur,af,_,_,fk,_⟩
      .omega
      .rw[hg]at af;simp only[Value.slice.injEq,kq]at af;omega
     have od:VB m nd xs.length:=by
      have:=oc iu eR (by omega);rw[h2,j8]at this;rcases this with⟨h3,_⟩|h3
      .cases hi with
       |none=>simp at Mz
       |some y=>subst h3;exact eR.elim
      .exact .inr h3
     have ai:=rB (ad:=ad) (w:=w) hd (s:=el.size) (by rw[eX hT bG,ba]) (oc ei eQ h0) od (by omega) cQ;subst hz;refine⟨_,S,γ,ai,hR,⟨hx.1,rfl,λb hb=>?_⟩,λ_=>rfl⟩;rw[show (σ.upd []).bx k=σ.bx k from rfl,hk]at hb;cases hb;exact⟨bn,by omega,ad,cap,hg,rfl⟩
    .simp at h
   .simp at h
  .simp at h
 .simp at h
theorem MA{P:Program}{E:Env}(hT:bk P E.T)(hR:Rel N np S0 w0 refs σ a w S γ){rd:Nat->BS}(au:RdOk σ rd){t:TypeId}{ti:TyI}(ht:E.T t=some ti)
  {x mx:Leaf}{lo hi:Option Leaf}{vx vm:Value}{lU nd:Option Value}(h:sS rd ti x lo hi mx=some true)
  (hx:aL S w γ σ.bx x vx)(eQ:ORep (aL S w γ σ.bx) lo lU)(eR:ORep (aL S w γ σ.bx) hi nd)(vj:aL S w γ σ.bx mx vm) :
  ∃v,(Instr.sliceAt t vx lU nd (some vm)).run P w = .ok v w:=by
 unfold sS at h;split at h
 case h_2=>simp at h
 rename_i k k1 i k2 j k3 m;split at h
 case h_2=>simp at h
 rename_i e el xs f hk;split at h
 case isFalse=>simp at h
 rename_i aD;simp only[j5,jb,jg]at h;obtain⟨h0,h1,h2,h3⟩:=h;obtain⟨hd,_,te,bG,bh⟩:=iF hT ht aD;have ba:=gS hT bG bh;have bn:=au.nm hk;have hk:=au.live hk;have hz:=hx.2.2 _ hk;cases lU with
 |none=>exact eQ.elim
 |some vl=>
 cases nd with
 |none=>exact eR.elim
 |some vh=>
 have e1:vl = .int k1 i:=jG (S:=S) (w:=w) eQ;have e2:vh = .int k2 j:=jG (S:=S) (w:=w) eR;have e3:vm = .int k3 m:=jG (S:=S) (w:=w) vj;subst e1 e2 e3;obtain⟨css,ar,_⟩:=eW bn (hR.box k _ hk);have he:=Gu hd;have eh:P.underlying t=some (.slice (P.elem t)):=by rw[he];exact hd
 rw[run_sliceAt_slice w t _ _ _ _ eh];have cW:(sizeOf (P.elem t)).run P w = .ok el.size w:=by rw[he];rw[eX hT bG,ba]
 have key:∀ad n cap,(m:Int)<=(cap:Nat)->∃v,(Instr.slice t (.slice ad n cap) (some (.int k1 i)) (some (.int k2 j)) (some (.int k3 m))).run P w = .ok v w:=by intro ad n cap hc;rw[run_slice_lhm w t ad n cap eh _ _ _ _ _ _ h0 h1 h2 hc,cW];exact⟨_,rfl⟩
 rcases ar.2 with⟨hg,hn⟩|⟨g,cap,cur,hg,_,hh,fk,_⟩
 .rw[hz,hg];exact key _ _ _ (Int.le_trans h3 (by omega))
 .rw[hz,hg];exact key _ _ _ (Int.le_trans h3 (by omega))
theorem Gw(hR:Rel N np S0 w0 refs σ a w S γ){x:Leaf}{k i e:Nat}{el:Ty}{xs:List el.den}{f:Bool}{vx:Value}(h:xP x=some (k,i))(bn:isM e=false)(hk:σ.bx k = .live (.lst e el xs f))
  (hx:aL S w γ σ.bx x vx):i<=xs.length/\((xs.length=0/\vx = .slice none 0 0)\/
   ∃g cap,γ k = .slice (some ⟨g,0,none⟩) xs.length cap/\xs.length<=cap/\vx = .slice (some ⟨g,if cap=i then 0 else i*el.size,none⟩) (xs.length-i) (cap-i)):=by
 obtain⟨css,ar,ah,hS⟩:=eW bn (hR.box k _ hk);unfold xP at h;split at h
 .simp only[j5,j9]at h;obtain⟨rfl,rfl⟩:=h;have hz:=hx.2.2 _ hk;refine⟨jw _,?_⟩;rcases ar.2 with⟨hg,hn⟩|⟨g,cap,cur,hg,_,hh,fk,gl,cB,bQ⟩
  .exact .inl ⟨hn,by rw[hz,hg]⟩
  .exact .inr ⟨g,cap,hg,fk,by rw[hz,hg];simp⟩
 .rename_i k' i';simp only[j5,j9]at h;obtain⟨rfl,rfl⟩:=h;obtain⟨_,hi,ad,cap,af,hv⟩:=hx.2.2 _ hk;refine⟨hi,?_⟩;rcases ar.2 with⟨hg,hn⟩|⟨g,dW,cur,hg,_,hh,fk,gl,cB,bQ⟩
  .rw[hg]at af;simp only[Value.slice.injEq]at af;obtain⟨rfl,_,rfl⟩:=af;exact .inl ⟨hn,by rw[hv];simp;omega⟩
  .rw[hg]at af;simp only[Value.slice.injEq,kq]at af;obtain⟨rfl,rfl⟩:=af;refine .inr ⟨g,dW,hg,fk,?_⟩;rw[hv];by_cases hc:dW=i'
   .rw[if_pos hc,if_pos hc]
   .rw[if_neg hc,if_neg hc];simp[Addr.add_lit]
 .simp at h
theorem Bz{P:Program}(hR:Rel N np S0 w0 refs σ a w S γ){k i e g cap:Nat}{el:Ty}{xs zs:List el.den}(hk:σ.bx k = .live (.lst e el xs false))(hg:γ k = .slice (some ⟨g,0,none⟩) xs.length cap)
  {cz:List (List Value)}(hz:All2 (λx c=>Rep S w el x c) zs cz)(hl:i+zs.length<=xs.length) :
  ∃w',(storeCells ⟨g,i*el.size,none⟩ cz.flatten).run P w = .ok () w'/\Rel N np S0 w0 refs (σ.setB k (.live (.lst e el (List.take i xs++(zs++List.drop (i+zs.length) xs)) false))) a w' S γ:=by
 have bn:=FV hg (hR.box k _ hk);obtain⟨css,ar,ah,hS⟩:=eW bn (hR.box k _ hk);have lb:cz.flatten.length=zs.length*el.size:=All2.flatten_length (λx c hx=>Rep.length el x c hx) hz;have h1:∀u∈cz.flatten,One u:=by intro u hu;obtain⟨c,hc,rh⟩:=List.mem_flatten.1 hu;obtain⟨x,_,hx⟩:=hz.mem_right c hc;exact Rep.one el x c hx u rh
 rcases ar.2 with⟨af,hn⟩|⟨g',dW,cur,af,_,hh,fk,gl,cB,bQ⟩
 .rw[hg]at af;simp at af
 rw[hg]at af;simp only[Value.slice.injEq,j5,Addr.mk.injEq,and_true,kq]at af;obtain⟨rfl,rfl⟩:=af;have fU:i*el.size+zs.length*el.size<=xs.length*el.size:=by rw[<-Nat.add_mul];exact jv _ hl
 have iv:xs.length*el.size<=cap*el.size:=jv _ fk;have aj:=run_storeCells_at P g (i*el.size) e cz.flatten 0 cur w hh (by rw[lb,cB];omega) h1;simp only[Nat.add_zero]at aj;refine⟨_,aj,?_⟩;have dh:=All2.all_len ah;have BA:=All2.all_len hz;have pB:∀o,¬S g o:=(hS g (by rw[hg];rfl)).1 rfl;refine u6 hR hk (by rw[hg];rfl) pB (b':= .lst e el _ false) ⟨rfl,rfl,λ_=>by simp;omega⟩ hh (λdy br=>?_);have hlen:(List.take i xs++(zs++List.drop (i+zs.length) xs)).length=xs.length:=by simp;omega
 refine uU bn ⟨css.take i++(cz++css.drop (i+zs.length)),⟨?_,.inr ⟨g,cap,_,?_,jw _,setRow_heap w g cur _ e (0,0) hh,by rw[hlen];exact fk,gl,?_,?_⟩⟩,?_,λg' af=>?_⟩
 .rw[hlen,ru (m:=el.size)]
  .have:=ah.length;have:=hz.length;simp only[jn,qj,zc];congr 1;omega
  .intro d hd;simp only[jp]at hd;rcases hd with hd|hd|hd
   .exact dh d (kx hd)
   .exact BA d hd
   .exact dh d (za hd)
 .rw[hlen];exact hg
 .simp only[zj,jn,qj,zc,km];omega
 .rw[hlen];simp only[zf,pC i dh,vb _ dh,<-bQ];have hA:(cur.toList.take (i*el.size)).length=i*el.size:=by simp;omega
  rw[jj,List.take_append,hA,List.take_of_length_le (by omega),zk,Nat.min_eq_left (by omega)];congr 1;rw[List.take_append,lb,List.take_of_length_le (by omega),Nat.add_mul];congr 1;rw[List.drop_take];congr 1;omega
 .exact((ah.mono (λx c hx=>Rep.keep br _ _ _ hx)).take _).append ((hz.mono (λx c hx=>Rep.keep br _ _ _ hx)).append ((ah.mono (λx c hx=>Rep.keep br _ _ _ hx)).drop _))
 .rw[hg]at af;simp[blk]at af;subst af;exact⟨λ_=>pB,by simp⟩
theorem Gx{σ:St}{k:Nat}{b:BS}(h:σ.bx k=b):σ.setB k b=σ:=by
 unfold St.setB;congr 1;funext j;split
 .rename_i hj;subst hj;exact h.symm
 .rfl
theorem MB{P:Program}{E:Env}(hT:bk P E.T)(hR:Rel N np S0 w0 refs σ a w S γ){rd:Nat->BS}(au:RdOk σ rd){t ty:TypeId}{ti:TyI}(ht:E.T t=some ti)
  {x y l:Leaf}{u:Ups}{vx vy:Value}(h:sT rd ti.ty x y=some (l,u))(hx:aL S w γ σ.bx x vx)(hy:aL S w γ σ.bx y vy) :
  ∃v w',(Builtin.copy_ #[t,t] ty #[vx,vy]).run P w = .ok v w'/\Rel N np S0 w0 refs (σ.upd u) a w' S γ/\aQ S w' γ (σ.upd u).bx (.one l) v:=by
 unfold sT at h;split at h
 .rename_i k i vk;split at h
  .rename_i e el xs hk;split at h
   .rename_i aD;split at h
    .rename_i ys gY;simp only[j5,j9]at h;obtain⟨rfl,rfl⟩:=h;have bn:=au.nm hk;have hk:=au.live hk;obtain⟨hd,cc,te,bG,bh⟩:=iF hT ht aD;have ba:=gS hT bG bh;have dm:(sizeOf ti.elem).run P w = .ok el.size w:=by rw[eX hT bG,ba]
     obtain⟨ad,c,cy,Bp,dz,rz,bZ⟩:=Gl hR au gY hy;subst Bp;obtain⟨hi,bt⟩:=Gw hR vk bn hk hx;have vp:=All2.all_len rz;have pH:cy.length=ys.length:=rz.length.symm;have jJ:(List.take (xs.length-i) ys).length=min ys.length (xs.length-i):=by simp;omega
     have tz:over xs i ys=List.take i xs++(List.take (xs.length-i) ys++List.drop (i+(List.take (xs.length-i) ys).length) xs):=by
      unfold over;congr 2;rw[jJ];by_cases h:ys.length<=xs.length-i
      .rw[Nat.min_eq_left h]
      .rw[Nat.min_eq_right (by omega),jd (by omega),jd (by omega)]
     have pI:(Builtin.firstCells el.size (min ys.length (xs.length-i)) (.slice ad ys.length c)).run P w = .ok (List.take (xs.length-i) cy).flatten.toArray w:=by
      cases ad with
      |none=>have h0:=(dz rfl).1;have:cy=[]:=jo (by omega);subst this;simp[Builtin.firstCells]
      |some b=>
       have e1:(List.take (xs.length-i) cy).flatten.length=min ys.length (xs.length-i)*el.size:=by rw[ru (m:=el.size) (λc hc=>vp c (kx hc)),qj,pH,Nat.min_comm]
       have:=run_loadCells_list (P:=P) w b (List.take (xs.length-i) cy).flatten (λj v hj=>by
        rw[pC _ vp,kp]at hj;split at hj
        .exact bZ b rfl j v hj
        .simp at hj)
       rw[e1]at this;simpa[Builtin.firstCells]using this
     have ai:∀base dl dc w',vx = .slice base dl dc->dl=xs.length-i->(base=none->w'=w)->(∀ab,base=some ab->(storeCells ab (List.take (xs.length-i) cy).flatten).run P w = .ok () w')->
       (Builtin.copy_ #[t,t] ty #[vx,.slice ad ys.length c]).run P w = .ok (goInt ((min ys.length (xs.length-i):Nat):Int)) w':=by
      intro base dl dc w' hv oe bR cA;subst hv oe;have lV:Nat.min ys.length (xs.length-i)=min ys.length (xs.length-i):=rfl;cases base with
      |none=>simp[Builtin.copy_,run_underlying hd,Builtin.lenOf,dm,lV,pI,bR rfl]
      |some ab=>simp[Builtin.copy_,run_underlying hd,Builtin.lenOf,dm,lV,pI,cA ab rfl]
     by_cases hn:min ys.length (xs.length-i)=0
     .have hz:List.take (xs.length-i) ys=[]:=jo (by rw[jJ];exact hn);have eu:(List.take (xs.length-i) cy).flatten=[]:=by have:List.take (xs.length-i) cy=[]:=jo (by rw[qj,pH];omega);rw[this];rfl
      have BB:over xs i ys=xs:=by rw[tz,hz];simp
      refine⟨_,w,?_,?_,⟨rfl,λ_=>rfl⟩⟩
      .rcases bt with⟨h0,hv⟩|⟨g,cap,hg,cQ,hv⟩
       .exact ai none 0 0 w hv (by omega) (λ_=>rfl) (λab eS=>by simp at eS)
       .refine ai _ _ _ w hv rfl (λ_=>rfl) (λab eS=>?_);rw[eu];rfl
      .show Rel N np S0 w0 refs (σ.setB k (.live (.lst e el (over xs i ys) false))) a w S γ;rw[BB,Gx hk];exact hR
     .rcases bt with⟨h0,hv⟩|⟨g,cap,hg,cQ,hv⟩
      .omega
      .have iI:cap≠i:=by omega
       rw[if_neg iI]at hv;obtain⟨w',aj,bL⟩:=Bz (P:=P) hR hk hg (i:=i) (rz.take (xs.length-i)) (by rw[jJ];omega);refine⟨_,w',ai _ _ _ w' hv rfl (λh=>by simp at h) (λab eS=>?_),?_,⟨rfl,λ_=>rfl⟩⟩
       .simp only[j5]at eS;subst eS;exact aj
       .show Rel N np S0 w0 refs (σ.setB k (.live (.lst e el (over xs i ys) false))) a w' S γ;rw[tz];exact bL
    .simp at h
   .simp at h
  .simp at h
 .simp at h
theorem MC{P:Program}{E:Env}(hT:bk P E.T)(hR:Rel N np S0 w0 refs σ a w S γ){rd:Nat->BS}(au:RdOk σ rd){t ty:TypeId}{ti:TyI}(ht:E.T t=some ti)
  {x:Leaf}{u:Ups}{vx:Value}(h:sU rd ti.ty x=some u)(hx:aL S w γ σ.bx x vx) :
  ∃v w',(Builtin.clear_ #[t] ty #[vx]).run P w = .ok v w'/\Rel N np S0 w0 refs (σ.upd u) a w' S γ:=by
 unfold sU at h;split at h
 .rename_i k i vk;split at h
  .rename_i e el xs hk;split at h
   .rename_i aD;simp only[j5]at h;subst h;have bn:=au.nm hk;have hk:=au.live hk;obtain⟨hd,cc,te,bG,bh⟩:=iF hT ht aD;have ba:=gS hT bG bh;obtain⟨z,hz,eu⟩:=ri hT bG w bh;obtain⟨hi,bt⟩:=Gw hR vk bn hk hx;by_cases hn:xs.length-i=0
    .have tz:List.take i xs++List.replicate (xs.length-i) el.dflt=xs:=by rw[hn];simp[List.take_of_length_le (show xs.length<=i by omega)]
     refine⟨.tuple #[],w,?_,?_⟩
     .rcases bt with⟨h0,hv⟩|⟨g,cap,hg,cQ,hv⟩
      .simp[Builtin.clear_,run_underlying hd,hv]
      .rw[hn]at hv;simp[Builtin.clear_,run_underlying hd,hv]
     .show Rel N np S0 w0 refs (σ.setB k (.live (.lst e el (List.take i xs++List.replicate (xs.length-i) el.dflt) false))) a w S γ;rw[tz,Gx hk];exact hR
    .rcases bt with⟨h0,hv⟩|⟨g,cap,hg,cQ,hv⟩
     .omega
     .have iI:cap≠i:=by omega
      rw[if_neg iI]at hv
      have Gy:All2 (λx c=>Rep S w el x c) (List.replicate (xs.length-i) el.dflt) (List.replicate (xs.length-i) (fP el)):=by
       have h0:=kZ (S:=S) (w:=w) el
       have:∀n,All2 (λx c=>Rep S w el x c) (List.replicate n el.dflt) (List.replicate n (fP el)):=by
        intro n;induction n with
        |zero=>exact trivial
        |succ n ih=>exact⟨h0,ih⟩
       exact this _
      obtain⟨w',aj,bL⟩:=Bz (P:=P) hR hk hg (i:=i) Gy (by simp;omega);refine⟨.tuple #[],w',?_,?_⟩
      .have MD:0<z.cells.size:=by have:=yn eu;omega
       have bO:(Builtin.zeroCells z.cells (xs.length-i)).toList=(List.replicate (xs.length-i) (fP el)).flatten:=by rw[<-eu];exact Gp z.cells (xs.length-i) MD
       rw[hv];obtain⟨m,hm⟩:∃m,xs.length-i=m+1:=⟨xs.length-i-1,by omega⟩;rw[hm]at bO aj ⊢;simp[Builtin.clear_,run_underlying hd,hz,bO,aj]
      .show Rel N np S0 w0 refs (σ.setB k (.live (.lst e el (List.take i xs++List.replicate (xs.length-i) el.dflt) false))) a w' S γ;have:List.drop (i+(List.replicate (xs.length-i) el.dflt).length) xs=[]:=jd (by simp;omega);rw[this,kz]at bL;exact bL
   .simp at h
  .simp at h
 .simp at h
theorem ME{P:Program}{E:Env}(hT:bk P E.T)(hR:Rel N np S0 w0 refs σ a w S γ){rd:Nat->BS}(au:RdOk σ rd){t ty:TypeId}{ti:TyI}(ht:E.T t=some ti){el:Ty}(aD:ti.ty=some (.list el))
  {s x v:Leaf}{u:Ups}{vs vx:Value}(h:appH rd ti.elem el s x=some (true,v,u))(hs:aL S w γ σ.bx s vs)(hx:aL S w γ σ.bx x vx) :
  ∃z w',(Builtin.append_ #[t,t] ty #[vs,vx]).run P w = .ok z w'/\Rel N np S0 w0 refs (σ.upd u) a w' S γ/\aL S w' γ (σ.upd u).bx v z/\One z:=by
 unfold appH at h;split at h
 case h_2=>simp at h
 rename_i k i k' j;split at h
 case isFalse=>simp at h
 rename_i aY;subst aY;split at h
 case h_2=>simp at h
 rename_i e b xs hk;split at h
 case isFalse=>simp at h
 rename_i hb;obtain⟨hb,he⟩:=hb;subst hb;subst he;simp only[j5,j9,jg]at h;obtain⟨cg,rfl,rfl⟩:=h;obtain⟨hd,_,te,bG,bh⟩:=iF hT ht aD;have ba:=gS hT bG bh;obtain⟨inf,d,hi,_,iH,_⟩:=ir hT bG;have gv:inf.size=b.size:=by rw[iH,<-ba]
 have bn:=au.nm hk;have hk:=au.live hk;obtain⟨_,kG,ad,cap,hg,eP⟩:=hs.2.2 _ hk;obtain⟨_,tA,Mv,dW,af,rA⟩:=hx.2.2 _ hk;rw[hg]at af;simp only[Value.slice.injEq,kq]at af;obtain⟨rfl,rfl⟩:=af;obtain⟨css,ar,ah,hS⟩:=x6 hg (hR.box k _ hk);have dh:=All2.all_len ah;have jL:(List.take i xs++(List.drop j xs++List.drop (i+(xs.length-j)) xs)).length=xs.length:=by simp;omega
 have fV:∀(w':World),aL S w' γ (σ.setB k (.live (.lst ti.elem b (List.take i xs++(List.drop j xs++List.drop (i+(xs.length-j)) xs)) false))).bx (.hd k (i+(xs.length-j))) (.slice ad (i+(xs.length-j)) cap):=by intro w';refine⟨by rw[cV];simp,rfl,λb' al=>?_⟩;rw[cV]at al;cases al;exact⟨bn,by rw[jL];omega,ad,cap,by rw[jL];exact hg,rfl⟩
 rcases ar.2 with⟨cY,hn⟩|⟨g,vq,cur,cY,_,hh,fk,gl,cB,bQ⟩
 .rw[hg]at cY;simp only[Value.slice.injEq]at cY;obtain⟨rfl,_,rfl⟩:=cY;have ry:xs=[]:=jo hn;subst ry;have MF:i=0:=by simpa using kG
  have Bw:j=0:=by simpa using tA
  subst MF Bw;have ai:=run_append_owned_none (P:=P) w 0 t ty ti.elem inf b.size hd hi (.slice none 0 0) 0 [] (World.ownsRow_nil w 0 ti.elem b.size)
  have MG:σ.setB k (.live (.lst ti.elem b ([]:List b.den) false))=σ:=by
   show St.mk σ.sl _=σ
   have:(λj=>if j=k then BS.live (.lst ti.elem b ([]:List b.den) false) else σ.bx j)=σ.bx:=by
    funext j
    by_cases hj:j=k
    .subst hj;simp[hk]
    .simp[hj]
   rw[this]
  refine⟨_,w,by rw[eP,rA];exact ai,?_,fV w,rfl⟩;show Rel N np S0 w0 refs (σ.setB k (.live (.lst ti.elem b ([]:List b.den) false))) a w S γ;rw[MG];exact hR
 .rw[hg]at cY;simp only[Value.slice.injEq,kq]at cY;obtain⟨rfl,rfl⟩:=cY;obtain⟨w',aj,bL⟩:=Bz (P:=P) (i:=i) hR hk hg (ah.drop j) (by simp;omega);have lb:(css.drop j).flatten.length=(xs.length-j)*b.size:=by have:=All2.flatten_length (λx c hx=>Rep.length b x c hx) (ah.drop j);simpa using this
  have h1:∀u∈(css.drop j).flatten,One u:=by intro u hu;obtain⟨c,hc,rh⟩:=List.mem_flatten.1 hu;obtain⟨x,_,hx⟩:=(ah.drop j).mem_right c hc;exact Rep.one b x c hx u rh
  have fU:i*b.size+(xs.length-j)*b.size<=xs.length*b.size:=by rw[<-Nat.add_mul];exact jv _ (by omega)
  have iv:xs.length*b.size<=cap*b.size:=jv _ fk;have br:=run_storeCells_at P g (i*b.size) _ (css.drop j).flatten 0 cur w hh (by rw[lb,cB];omega) h1;simp only[Nat.add_zero]at br;have hw:w'=w.setRow g (cur.toList.take (i*b.size)++(css.drop j).flatten++cur.toList.drop (i*b.size+(css.drop j).flatten.length)).toArray:=by have:=aj.symm.trans br;simpa using this
  have bO:∀q u,(css.drop j).flatten[q]? = some u->w.cell? ((⟨g,if cap=j then 0 else j*b.size,none⟩:Addr).add q)=some u:=by
   intro q u hq;have Gz:q<(xs.length-j)*b.size:=by rw[<-lb];exact(jk.1 hq).1
   have hc:¬cap=j:=by
    intro hc;have:xs.length-j=0:=by omega
    rw[this]at Gz;simp at Gz
   rw[if_neg hc,Addr.add_lit];rw[vb j dh,List.getElem?_drop]at hq;have:=ar.cells (g:=g) (by rw[hg];rfl) _ u hq;rwa[Addr.add_lit,jt]at this
  have ai:=run_append_room (P:=P) w t ty ti.elem inf hd hi g i cap cur (by exact hh) ⟨g,if cap=j then 0 else j*b.size,none⟩ (xs.length-j) (cap-j) (css.drop j).flatten (by rw[gv];exact lb) bO h1 (by omega)
   (by rw[gv,lb,cB];omega)
  have BC:vx = .slice (some ⟨g,if cap=j then 0 else j*b.size,none⟩) (xs.length-j) (cap-j):=by
   rw[rA];by_cases hc:cap=j
   .rw[if_pos hc,if_pos hc]
   .rw[if_neg hc,if_neg hc];simp[Addr.add_lit]
  refine⟨_,w',by rw[eP,BC,ai,hw,gv],?_,fV w',rfl⟩;have:(List.drop j xs).length=xs.length-j:=by simp
  rw[this]at bL;exact bL
theorem MH{P:Program}{E:Env}(hT:bk P E.T)(hR:Rel N np S0 w0 refs σ a w S γ){rd rdf:Nat->BS}(au:RdOk σ rd)(aF:RdF np σ rdf){t ty:TypeId}{ti:TyI}(ht:E.T t=some ti){el:Ty}(aD:ti.ty=some (.list el)){n:Nat}
  {s x v:Leaf}{u:Ups}{vs vx:Value}(h:appN rd rdf el n s x=some (v,u))(hs:aL S w γ σ.bx s vs)(hx:aL S w γ σ.bx x vx) :
  ∃z w' γ',(Builtin.append_ #[t,t] ty #[vs,vx]).run P w = .ok z w'/\Rel N np S0 w0 refs (σ.upd u) a w' S γ'/\aL S w' γ' (σ.upd u).bx v z/\One z:=by
 unfold appN at h;split at h
 case h_2=>simp at h
 rename_i k;split at h
 case h_2=>simp at h
 rename_i ls hk;split at h
 case isFalse=>simp at h
 rename_i hc;obtain⟨nf,fQ⟩:=hc;simp only[j5,j9]at h;obtain⟨rfl,rfl⟩:=h;have hn:=au.free fQ;have hk:=aF.ok.live hk;have eP:vs = .slice none 0 0:=hs;subst eP;obtain⟨g,cap,hg,rfl,dK,gI⟩:=hx.2.2 _ hk;obtain⟨g',cur,e,af,hh,bN,h1,hS,_⟩:=hR.box k _ hk;rw[hg]at af;simp at af;subst af;have lP:n≠k:=by rintro rfl;rw[hn]at hk;simp at hk
 have hlen:(cur.toList.take ls.length).length=el.size:=by rw[<-bN.length,nf]
 obtain⟨v',w',hr,bb,os,tape,output,ba,bt⟩:=Gk (ty:=ty) hT ht aD (World.ownsRow_nil w 0 ti.elem el.size) (ad:=some ⟨g,0,none⟩) (m:=1) (c:=cap) (news:=cur.toList.take ls.length) (by simp) (by rw[hlen];omega)
  (λb hb j u hu=>by
   simp at hb;subst hb;rw[Addr.add_lit,jt,cell_of_row w g j cur e (0,0) hh];rw[kp]at hu;split at hu
   .simpa using hu
   .simp at hu) h1 (by simp[bI])
 rw[kj]at bb;rcases bb.2 with⟨_,hz⟩|⟨g2,vq,rD,rfl,_,tB,dy,BD,MI,lW⟩
 .simp at hz
 have bt:g2=w.heap.size/\∀g,g<w.heap.size->w'.heap[g]? = w.heap[g]? := by
  rcases bt with⟨h2,_⟩|⟨_,⟨g3,h3⟩,_⟩|⟨h2,h3⟩
  .simp at h2
  .simp[blk]at h3
  .exact⟨by simpa[blk]using h2,h3⟩
 obtain⟨rfl,hold⟩:=bt;have aj:bY S w S w':=λg o h=>⟨h,World.cell?_of_block (hold g (hR.here g o h))⟩
 have hle:BxLe γ σ.bx (gset γ n (.pointer (some ⟨w.heap.size,0,none⟩))) ((σ.setB k .gone).setB n (.live (.cell ls false))).bx:=by
  intro k' aR;have aB:k'≠n:=by rintro rfl;exact aR hn
  rw[bo _ _ aB,di γ _ aB];by_cases aY:k'=k
  .subst aY;rw[cV];exact⟨by simp,rfl,λb hb=>by simp at hb⟩
  .rw[bo _ _ aY];exact⟨aR,rfl,λb hb=>⟨b,hb,.refl b⟩⟩
 have ez:∀k' b,((σ.setB k .gone).setB n (.live (.cell ls false))).bx k' = .live b->(k'=n/\b = .cell ls false)\/(k'≠n/\σ.bx k' = .live b):=by
  intro k' b hb;by_cases aB:k'=n
  .subst aB;rw[cV]at hb;simp at hb;exact .inl ⟨rfl,hb.symm⟩
  .rw[bo _ _ aB]at hb;by_cases aY:k'=k
   .subst aY;rw[cV]at hb;simp at hb
   .rw[bo _ _ aY]at hb;exact .inr ⟨aB,hb⟩
 refine⟨_,w',gset γ n (.pointer (some ⟨w.heap.size,0,none⟩)),hr,?_,?_,rfl⟩
 .refine Rel.step (bx':=((σ.setB k .gone).setB n (.live (.cell ls false))).bx) hR aj hle ?_ ?_ ?_ hR.new ?_ ?_ (ko hR.grow ba) (os.trans hR.os) (tape.trans hR.tape) (output.trans hR.output) (λg hg _ h=>⟨hold g hg,λk' b hb bD=>?_⟩)
  .intro k' b hb;rcases ez k' b hb with⟨rfl,rfl⟩|⟨aB,hb⟩
   .refine⟨w.heap.size,rD,_,cO _ _ _,tB,?_,?_,λ_ o=>u5 hR o,by simp⟩
    .have:rD.toList.take ls.length=cur.toList.take ls.length:=by rw[<-lW,nf];congr 1;omega
     rw[this];exact bN.mono λx u hx=>aL.keep aj hle hx
    .have:rD.toList.take ls.length=cur.toList.take ls.length:=by rw[<-lW,nf];congr 1;omega
     rw[this];exact h1
   .exact cJ.keep aj hle (di γ _ aB) (λg hg=>⟨hold g (fm (hR.box k' b hb) hg),λ_=>Iff.rfl⟩) (hR.box k' b hb)
  .intro k' b g hb hg;rcases ez k' b hb with⟨rfl,rfl⟩|⟨aB,hb⟩
   .rw[cO]at hg;simp[blk]at hg;subst hg;exact .inl (.inl hR.grow)
   .rw[di γ _ aB]at hg;exact hR.own k' b g hb hg
  .intro k1 k2 b1 b2 g aB h1 h2 fw cY;rcases ez k1 b1 h1 with⟨q1,_⟩|⟨iw,q1⟩
   .rw[q1,cO]at fw;simp[blk]at fw;subst fw;rcases ez k2 b2 h2 with⟨q2,_⟩|⟨rE,q2⟩
    .exact aB (q1.trans q2.symm)
    .rw[di γ _ rE]at cY;have:=fm (hR.box k2 b2 q2) cY;omega
   .rw[di γ _ iw]at fw;rcases ez k2 b2 h2 with⟨q2,_⟩|⟨rE,q2⟩
    .rw[q2,cO]at cY;simp[blk]at cY;subst cY;have:=fm (hR.box k1 b1 q1) fw;omega
    .rw[di γ _ rE]at cY;exact hR.apart k1 k2 b1 b2 g aB q1 q2 fw cY
  .intro g o hs;exact q7 (hR.here g o hs) ba
  .intro g hg lS;rw[hold g (q7 hg hR.grow)];exact hR.below g hg lS
  .rcases ez k' b hb with⟨rfl,rfl⟩|⟨aB,hb⟩
   .rw[cO]at bD;simp[blk]at bD;omega
   .rw[di γ _ aB]at bD;exact h k' b hb bD
 .refine⟨by show ((σ.setB k .gone).setB n (.live (.cell ls false))).bx n≠_;rw[cV];simp,rfl,λb hb=>?_⟩;have hb:((σ.setB k .gone).setB n (.live (.cell ls false))).bx n = .live b:=hb;rw[cV]at hb;cases hb;exact⟨w.heap.size,vq,cO _ _ _,rfl,by omega,BD⟩
theorem MJ(hR:Rel N np S0 w0 refs σ a w S γ){k d e m:Nat}{el:Ty}{xs:List el.den}(hk:σ.bx k = .live (.lst e el xs false))(jK:parK np k=false)(vi:σ.bx d = .free){ad:Option Addr}{cap:Nat}(hm:m<=xs.length)
  (hg:γ k = .slice ad xs.length cap) :
  ∃γ',Rel N np S0 w0 refs (σ.upd [(k,.gone),(d,.live (.lst e el (List.take m xs) false))]) a w S γ'/\aQ S w γ' (σ.upd [(k,.gone),(d,.live (.lst e el (List.take m xs) false))]).bx (.one (.ol d)) (.slice ad m cap):=by
 have nc:d≠k:=by rintro rfl;rw[vi]at hk;simp at hk
 have bn:=FV hg (hR.box k _ hk);obtain⟨css,ar,ah,hS⟩:=eW bn (hR.box k _ hk);have dh:=All2.all_len ah;have aJ:=yj hR hk;have mZ:(σ.setB k .gone).bx d = .free:=by rw[bo σ _ nc];exact vi
 have ak:(List.take m xs).length=m:=by simp;omega
 have hblk:blk (.slice ad m cap)=blk (γ k):=by rw[hg];cases ad<;>rfl
 have bb:w.ownsRow 0 e el.size (.slice ad m cap) (List.take m xs).length (List.take m css).flatten:=by
  refine⟨?_,?_⟩
  .rw[pC _ dh,qj,ar.1,ak];exact Nat.min_eq_left (jv _ hm)
  .rcases ar.2 with⟨af,hn⟩|⟨g,dW,cur,af,_,hh,fk,gl,cB,bQ⟩
   .rw[hg]at af;simp only[Value.slice.injEq]at af;obtain⟨rfl,_,rfl⟩:=af;exact .inl ⟨by rw[show m=0 by omega],by omega⟩
   .rw[hg]at af;simp only[Value.slice.injEq,kq]at af;obtain⟨rfl,rfl⟩:=af;refine .inr ⟨g,cap,cur,by rw[ak],jw _,hh,by omega,gl,cB,?_⟩;rw[ak,pC _ dh,<-bQ,zk,Nat.min_eq_left (jv _ hm)]
 have iK:∀g,blk (.slice ad m cap)=some g->Own w0 refs g/\(∀k' b,(σ.setB k .gone).bx k' = .live b->blk (γ k')≠some g)/\g<w.heap.size:=by
  intro g hg;rw[hblk]at hg;refine⟨?_,λk' b' al af=>?_,fm (hR.box k _ hk) hg⟩
  .rcases hR.own k _ g hk hg with h|h
   .exact h
   .rw[jK]at h;simp at h
  .have aY:k'≠k:=by rintro rfl;rw[cV]at al;simp at al
   rw[bo σ _ aY]at al;exact hR.apart k' k _ _ g aY al hk af hg
 obtain⟨bL,eZ⟩:=tu aJ mZ (hm:=bn) (w':=w) (S':=S) (v':= .slice ad m cap) (e:=e) (el:=el) (zs:=List.take m xs) (frz:=false) (css:=List.take m css) (.refl S w) (λg hg aB=>rfl) (jr _) iK
  (λg o hs=> .inl hs) rfl rfl rfl bb (ah.take _) (λg hg=>⟨λ_=>(hS g (by rw[<-hblk];exact hg)).1 rfl,by simp⟩) (λg hg=>hR.kw_live hk (by rw[<-hblk];exact hg))
 exact⟨_,bL,eZ⟩
end
section
variable{N:NT}{np:Nat}{S0:aq}{w0:World}{refs:Refs}{σ:St}{a:Go.Act}{w:World}{S:aq}{γ:Nat->Value}
theorem MK{el:Ty}{z:Value}(hz:z.cells.toList=fP el)(n:Nat)(cc:0<el.size) :
  ∃css,All2 (λx c=>Rep S w el x c) (List.replicate n el.dflt) css/\((Array.range (n*z.cells.size)).map (λi=>z.cells[i%z.cells.size]!)).toList=css.flatten:=by
 refine⟨List.replicate n (fP el),?_,?_⟩
 .have hz:=kZ (S:=S) (w:=w) el;induction n with
  |zero=>exact trivial
  |succ n ih=>exact⟨hz,ih⟩
 .rw[Gp z.cells n (by rw[yn hz];exact cc),hz]
theorem ML{P:Program}{E:Env}(hT:bk P E.T)(hR:Rel N np S0 w0 refs σ a w S γ){rdf:Nat->BS}(aF:RdF np σ rdf){t:TypeId}{ti:TyI}(ht:E.T t=some ti)
  {el:Ty}(aD:ti.ty=some (.list el)){len d:Nat}{ps:List (Nat×Cel)}{vs:Array (Nat×Value)}{xs:List el.den}{u:Ups}(hlen:len*el.size<=16777216)
  (eJ:All2 (λp v=>p.1=v.1/\aQ S w γ σ.bx p.2 v.2) ps vs.toList)(h:fN rdf el (List.replicate len el.dflt) [] ps=some (xs,u))(hd:σ.bx d = .free) :
  ∃v' w' S' γ',(Instr.buildSlice t len vs).run P w = .ok v' w'/\Rel N np S0 w0 refs (σ.upd (u++[(d,.live (.lst ti.elem el xs false))])) a w' S' γ'/\
   aQ S' w' γ' (σ.upd (u++[(d,.live (.lst ti.elem el xs false))])).bx (.one (.ol d)) v':=by
 obtain⟨kB,cc,te,bG,bh⟩:=iF hT ht aD;have ba:=gS hT bG bh;obtain⟨hf,bH⟩:=Bu aF hR.box cc ps vs.toList eJ h .nil;obtain⟨S1,aJ,bB,cF,cd⟩:=jH u σ S hR hf;obtain⟨z,hz,eu⟩:=ri hT bG w bh;have gW:z.cells.size=el.size:=yn eu;obtain⟨BE,vr,rv⟩:=MK (S:=S1) (w:=w) eu len cc;obtain⟨aK,gu,dn,ah,bO⟩:=bH S1 bB cF BE _ vr rv
 have lX:xs.length=len:=by
  have key:∀(ps:List (Nat×Cel)){xs bJ:List el.den}{u u':Ups},fN rdf el xs u ps=some (bJ,u')->bJ.length=xs.length:=by
   intro ps;induction ps with
   |nil=>intro xs bJ u u' h;simp[fN]at h;rw[h.1]
   |cons p ps ih=>
    intro xs bJ u u' h;obtain⟨i,c⟩:=p;simp only[fN]at h;split at h
    .split at h
     .rw[ih h];simp
     .simp at h
    .simp at h
  rw[key ps h];simp
 have cB:aK.size=len*el.size:=by have:=All2.flatten_length (λx c hx=>Rep.length el x c hx) ah;rw[<-bO,lX]at this;simpa using this
 have hzero:(if len*ti.size=0 then (Pure.pure #[]:Sem (Array Value)) else (do pure (<-zeroValue ti.elem).cells))=(if len*ti.size=0 then Pure.pure #[] else (do pure (<-zeroValue ti.elem).cells)):=rfl
 have ai:(Instr.buildSlice t len vs).run P w = .ok (.slice (some ⟨w.heap.size,0,none⟩) len len) (w.alloc (.cells aK ti.elem)):=by
  have eT:¬len*te.size>2^24:=by rw[<-ba];omega
  simp only[Instr.buildSlice,Sem.run_bind,run_underlying kB,Result.andThen_ok,eX hT bG,Sem.run_ite,if_neg eT];by_cases h0:len*te.size=0
  .have gL:len=0:=by
    rw[<-ba]at h0;rcases Nat.mul_eq_zero.1 h0 with h|h
    .exact h
    .omega
   subst gL
   have lY:Instr.fill (λi=>some (i*te.size,te.size)) ((Array.range (0*te.size)).map (λi=>(#[]:Array Value)[i%(#[]:Array Value).size]!)) vs.toList=some aK:=by
    rw[<-ba];have:((Array.range (0*el.size)).map (λi=>(#[]:Array Value)[i%(#[]:Array Value).size]!))=((Array.range (0*z.cells.size)).map (λi=>z.cells[i%z.cells.size]!)):=by apply k8;simp
    rw[this];exact dn
   rw[Nat.zero_mul]at lY;simp only[h0,if_true,Sem.run_pure,Result.andThen_ok,lY,Sem.run_bind,newRow,run_newObj,World.alloc_eq]
  .have rF:Instr.fill (λi=>some (i*te.size,te.size)) ((Array.range (len*te.size)).map (λi=>z.cells[i%z.cells.size]!)) vs.toList=some aK:=by rw[<-ba];rw[gW]at dn ⊢;exact dn
   simp only[h0,qi,Sem.run_bind,hz,Sem.run_pure,Result.andThen_ok,rF,newRow,run_newObj,World.alloc_eq]
 rw[fR];have aj:=tq aJ (.cells aK ti.elem)
 obtain⟨bL,eZ⟩:=tu aJ (cd.free hd) (hm:=AX hT ht) (w':=w.alloc (.cells aK ti.elem)) (S':=S1) (v':= .slice (some ⟨w.heap.size,0,none⟩) len len) (e:=ti.elem) (el:=el) (zs:=xs) (frz:=false) (css:=gu)
  aj (λg hg _=>heap_alloc_old w _ hg) (by simp) (λg hg=>by
   simp[blk]at hg;subst hg;exact⟨.inl hR.grow,λk b hk af=>by have:=fm (aJ.box k b hk) af;omega,by simp⟩) (λg o hs=> .inl hs) rfl rfl rfl
  (by
   rw[lX,<-bO];have hle:len<=maxLen:=by have:len*1<=len*el.size:=Nat.mul_le_mul_left _ cc;simp only[maxLen];omega
   exact World.ownsRow_lit w aK len (jw _) hle cB) (ah.mono (λx c hx=>Rep.keep aj _ _ _ hx)) (λg hg=>by
   simp[blk]at hg;subst hg;exact⟨λ_ o=>u5 aJ o,by simp⟩) (λg hg=>by simp[blk]at hg;subst hg;exact aJ.kw_new (jr _))
 exact⟨_,_,S1,_,ai,bL,eZ⟩
theorem MM{P:Program}{E:Env}(hT:bk P E.T)(hR:Rel N np S0 w0 refs σ a w S γ){t:TypeId}{ti:TyI}(ht:E.T t=some ti)
  {el:Ty}(aD:ti.ty=some (.list el)){n len:Nat}{fr:Bool}{ps:List (Nat×Cel)}{vs:Array (Nat×Value)}{b:Bool}{s:Slot}{u:Ups}(hn:fr=true->σ.bx n = .free)
  (eJ:All2 (λp v=>p.1=v.1/\aQ S w γ σ.bx p.2 v.2) ps vs.toList)(h:one1 fr el n len ps=some (.val b s u)) :
  b=true/\s = .one (.one (.s1 n))/\∃v' w' γ',(Instr.buildSlice t len vs).run P w = .ok v' w'/\Rel N np S0 w0 refs (σ.upd u) a w' S γ'/\aQ S w' γ' (σ.upd u).bx (.one (.s1 n)) v':=by
 unfold one1 at h;split at h
 case h_2=>simp at h
 rename_i c;split at h
 case h_2=>simp at h
 rename_i ls vu;split at h
 case isFalse=>simp at h
 rename_i hc;obtain⟨rfl,nf,cM,fQ⟩:=hc;simp only[j5,Act.val.injEq]at h;obtain⟨rfl,rfl,rfl⟩:=h;refine⟨rfl,rfl,?_⟩
 obtain⟨⟨j,z⟩,eP⟩:∃p,vs.toList=[p]:=by
  match hv:vs.toList,eJ with
  |[p],_=>exact⟨p,rfl⟩
 rw[eP]at eJ;obtain⟨⟨hj,eD⟩,_⟩:=eJ;simp only at hj eD;subst hj;obtain⟨ha,h1⟩:=tt vu eD;have jJ:z.cells.toList.length=el.size:=by rw[<-ha.length,nf]
 have gW:z.cells.size=el.size:=by simpa using jJ
 obtain⟨kB,cc,te,bG,bh⟩:=iF hT ht aD;have ba:=gS hT bG bh;obtain⟨z0,GA,eu⟩:=ri hT bG w bh;have MN:z0.cells.size=el.size:=yn eu;have dn:Instr.fill (λi=>some (i*te.size,te.size)) ((Array.range (1*te.size)).map (λi=>z0.cells[i%z0.cells.size]!)) vs.toList=some z.cells:=by have tw:=Br ((Array.range (1*te.size)).map (λi=>z0.cells[i%z0.cells.size]!)) 0 z.cells (by simp;omega);rw[eP];simp only[Instr.fill];rw[if_neg (by simp;omega)];congr 1;apply k8;rw[Nat.zero_mul,tw];simp only[List.take_zero,kj];rw[jd (by simp;omega),kz]
 have ai:(Instr.buildSlice t 1 vs).run P w = .ok (.slice (some ⟨w.heap.size,0,none⟩) 1 1) (w.alloc (.cells z.cells ti.elem)):=by
  have eT:¬1*te.size>2^24:=by rw[<-ba];omega
  have h0:¬1*te.size=0:=by omega
  simp only[Instr.buildSlice,Sem.run_bind,run_underlying kB,Result.andThen_ok,eX hT bG,Sem.run_ite,if_neg eT];simp only[h0,qi,Sem.run_bind,GA,Sem.run_pure,Result.andThen_ok,dn,newRow,run_newObj,World.alloc_eq]
 obtain⟨bL,eZ⟩:=yd hR (hn fQ) (ls:=ls) (cur:=z.cells) (e:=ti.elem) ha h1;refine⟨_,_,_,ai,bL,⟨by show (σ.setB n _).bx n≠_;rw[cV];simp,rfl,λb' al=>?_⟩,λ_=>rfl⟩;have al:(σ.setB n (.live (.cell ls false))).bx n = .live b':=al;rw[cV]at al;cases al;exact⟨w.heap.size,1,cO _ _ _,rfl,jr _,by simp[maxLen]⟩
theorem rG{rd:Nat->BS}(au:RdF np σ rd):∀{ls:List Leaf}{xs:List TV}{u:Ups}{zs:List Value},tvs rd ls=some (xs,u)->All2 (aL S w γ σ.bx) ls zs->
  FrzL np σ.bx u/\∀S' w',bY S w S' w'->Froz σ.bx γ S' w' u->All2 (λx z=>Rep S' w' x.t x.v [z]) xs zs
 |[],xs,u,zs,h,ha=>by
  simp[tvs]at h;obtain⟨rfl,rfl⟩:=h;cases zs with
  |nil=>exact⟨.nil,λ_ _ _ _=>trivial⟩
  |cons _ _=>exact ha.elim
 |l::ls,xs,u,zs,h,ha=>by
  cases zs with
  |nil=>exact ha.elim
  |cons z zs=>
   simp only[tvs]at h;split at h
   .rename_i yp u1 h1;obtain⟨f1,p1⟩:=rG au h1 ha.2;split at h
    .rename_i t v;simp only[j5,j9]at h;obtain⟨rfl,rfl⟩:=h;exact⟨f1,λS' w' hk hf=>⟨Rep.keep hk _ _ _ ha.1,p1 S' w' hk hf⟩⟩
    .rename_i k;split at h
     .rename_i e t es f hk;simp only[j5,j9]at h;obtain⟨rfl,rfl⟩:=h;have aR:=au.ok.live hk;refine⟨λx hx=>?_,λS' w' aj hf=>⟨?_,p1 S' w' aj (λx hx=>hf x (qv _ hx))⟩⟩
      .rcases jf.1 hx with rfl|hx
       .exact⟨au.par hk,e,t,es,f,aR,rfl,au.ok.nm hk⟩
       .exact f1 x hx
      .have:=hf (k,_) (qu ..) e t es f aR;rw[ha.1.2.2 _ aR];exact this
     .simp at h
    .simp at h
   .simp at h
theorem GB(hR:Rel N np S0 w0 refs σ a w S γ){k:Nat}{ls:List Leaf}{f:Bool}(hk:σ.bx k = .live (.cell ls f))(hp:parK np k=false){xs:List TV}
  (hx:∀g cur e,γ k = .pointer (some ⟨g,0,none⟩)->w.heap[g]? = some (.cells cur e (0,0))->All2 (aL S w γ σ.bx) ls (cur.toList.take ls.length)->All2 (λx z=>Rep S w x.t x.v [z]) xs (cur.toList.take ls.length)) :
  ∃S' g,Rel N np S0 w0 refs (σ.setB k (.live (.cell (xs.map TV.leaf) true))) a w S' γ/\bY S w S' w/\γ k = .pointer (some ⟨g,0,none⟩)/\gh S' w (.p xs) (.pointer (some ⟨g,0,none⟩)):=by
 obtain⟨g,cur,e,hg,hh,bN,h1,Gi,hS2⟩:=hR.box k _ hk;have dM:=hx g cur e hg hh bN;let S':aq:=λg' o=>S g' o\/(g'=g/\o<cur.size)
 have aj:bY S w S' w:=λg o h=>⟨.inl h,rfl⟩
 have hle:BxLe γ σ.bx γ (σ.setB k (.live (.cell (xs.map TV.leaf) true))).bx:=by
  intro k' aR;by_cases aY:k'=k
  .subst aY;rw[cV];exact⟨by simp,rfl,λb hb=>by simp at hb;subst hb;exact⟨_,hk,trivial⟩⟩
  .rw[bo σ _ aY];exact⟨aR,rfl,λb hb=>⟨b,hb,.refl b⟩⟩
 have aN:∀k' b,(σ.setB k (.live (.cell (xs.map TV.leaf) true))).bx k' = .live b->∃b',σ.bx k' = .live b':=by
  intro k' b hb;by_cases aY:k'=k
  .subst aY;exact⟨_,hk⟩
  .rw[bo σ _ aY]at hb;exact⟨b,hb⟩
 refine⟨S',g,Rel.step (bx':=(σ.setB k (.live (.cell (xs.map TV.leaf) true))).bx) hR aj hle ?_ ?_ ?_ ?_ ?_ hR.below hR.grow hR.os hR.tape hR.output (λg _ _ h=>⟨rfl,λk' b' al=>by obtain⟨b2,cA⟩:=aN k' b' al;exact h k' b2 cA⟩),aj,hg,?_⟩
 .intro k' b hb;by_cases aY:k'=k
  .subst aY;rw[cV]at hb;simp at hb;subst hb;have hl:=x5 bN dM;exact⟨g,cur,e,hg,hh,by rw[qf,hl];exact lK (dM.mono (λx z hz=>Rep.keep aj _ _ _ hz)),by rw[qf,hl];exact h1,by simp,λ_ o ho=> .inr ⟨rfl,ho⟩⟩
  .rw[bo σ _ aY]at hb;refine cJ.keep aj hle rfl (λg' af=>⟨rfl,λo=>⟨λhs=>?_,.inl⟩⟩) (hR.box k' b hb);rcases hs with hs|hs
   .exact hs
   .exact absurd (by rw[hg,hs.1];rfl) (hR.apart k' k b _ g' aY hb hk af)
 .intro k' b g' hb af;obtain⟨b',al⟩:=aN k' b hb;exact hR.own k' b' g' al af
 .intro k1 k2 b1 b2 g' aB h1 h2 af;obtain⟨nV,gV⟩:=aN k1 b1 h1;obtain⟨nW,gn⟩:=aN k2 b2 h2;exact hR.apart k1 k2 nV nW g' aB gV gn af
 .intro g' o hs;rcases hs with hs|hs
  .exact hR.new g' o hs
  .rcases hR.own k _ g hk (by rw[hg];rfl) with h|h
   .refine .inr ?_;have:g'=g:=by omega
    rw[this];exact h
   .rw[hp]at h;simp at h
 .intro g' o hs;rcases hs with hs|hs
  .exact hR.here g' o hs
  .rw[hs.1];exact(jc.1 hh).1
 .refine⟨g,0,cur.toList.take ls.length,rfl,dM.mono (λx z hz=>Rep.keep aj _ _ _ hz),λj v hv=>?_⟩
  have hv:cur.toList[j]? = some v:=by
   rw[kp]at hv;split at hv
   .exact hv
   .simp at hv
  have hj:j<cur.size:=by simpa using (jk.1 hv).1
  rw[jt];refine⟨.inr ⟨rfl,hj⟩,?_⟩;rw[cell_of_row w g j cur e (0,0) hh];simpa using hv
theorem GC{rd:Nat->BS}(au:RdF np σ rd):∀{cs:List Cel}{l:List Cap}{u:Ups}{zs:List Value},o7 rd cs=some (l,u)->Rel N np S0 w0 refs σ a w S γ->All2 (aQ S w γ σ.bx) cs zs->
  ∃S',Rel N np S0 w0 refs (σ.upd u) a w S' γ/\bY S w S' w/\All2 (gh S' w) l zs/\(∀k e t xs f,σ.bx k = .live (.lst e t xs f)->∃f',(σ.upd u).bx k = .live (.lst e t xs f'))/\BxLe γ σ.bx γ (σ.upd u).bx/\∀k,σ.bx k = .free->(σ.upd u).bx k = .free
 |[],l,u,zs,h,hR,ha=>by
  simp[o7]at h;obtain⟨rfl,rfl⟩:=h;cases zs with
  |nil=>exact⟨S,hR,.refl S w,trivial,λk e t xs f h=>⟨f,h⟩,.refl _ _,λ_ h=>h⟩
  |cons _ _=>exact ha.elim
 |c::r,l,u,zs,h,hR,ha=>by
  cases zs with
  |nil=>exact ha.elim
  |cons z zs=>
   simp only[o7]at h;split at h
   .rename_i l1 u1 h1;obtain⟨S1,aJ,bB,dK,jI,eK,vv⟩:=GC au h1 hR ha.2;split at h
    .rename_i t v;split at h
     .rename_i cX;simp only[j5,j9]at h;obtain⟨rfl,rfl⟩:=h;exact⟨S1,aJ,bB,⟨⟨cX,Rep.keep bB _ _ _ ha.1.1⟩,dK⟩,jI,eK,vv⟩
     .simp at h
    .rename_i k;split at h
     .rename_i ls f hk;split at h
      .rename_i xs u2 h2;split at h
       .simp at h
       .rename_i gw;simp only[j5,j9]at h;obtain⟨rfl,rfl⟩:=h;have jK:=au.par hk;have hk:=au.ok.live hk;have gw:(u1++u2).any (λy=>y.1==k)=false:=qd.2 gw;rw[List.any_append,Bool.or_eq_false_iff]at gw;obtain⟨g,cur,e,hg,hh,bN,_⟩:=hR.box k _ hk;obtain⟨nY,uY⟩:=rG au h2 bN;have BF:FrzL np (σ.upd u1).bx u2:=by intro x hx;obtain⟨ng,e',t',bJ,f',al,kY⟩:=nY x hx;obtain⟨f2,h2⟩:=jI _ e' t' bJ f' al;exact⟨ng,e',t',bJ,f2,h2,kY⟩
        obtain⟨S2,bc,br,lZ,iL⟩:=jH u2 (σ.upd u1) S1 aJ BF;have vw:Froz σ.bx γ S2 w u2:=by intro x hx e' t' bJ f' al;obtain⟨f2,h2⟩:=jI _ e' t' bJ f' al;exact lZ x hx e' t' bJ f2 h2
        have dj:((σ.upd u1).upd u2).bx k = .live (.cell ls f):=by rw[gp u2 _ gw.2,gp u1 _ gw.1,hk]
        obtain⟨S3,g3,e7,og,GD,cQ⟩:=GB bc dj jK (xs:=xs) (λg' gx e' af pt _=>by
         rw[hg]at af;simp at af;subst af;rw[hh]at pt;simp at pt;obtain⟨rfl,_⟩:=pt;exact uY S2 w (bB.trans br) vw)
        have hz:z=γ k:=by obtain⟨g4,h4,h5⟩:=ha.1.1.2.2 _ hk;rw[h5,h4]
        rw[fR,fR];refine⟨S3,e7,(bB.trans br).trans og,⟨by rw[hz,GD];exact cQ,dK.mono (λx z hx=>gh.keep (br.trans og) hx)⟩,λk' e' t' bJ f' al=>?_,?_,λk' aR=>?_⟩
        .obtain⟨f2,h2⟩:=jI _ e' t' bJ f' al;obtain⟨f3,h3⟩:=iL.lst h2;have aY:k'≠k:=by rintro rfl;rw[dj]at h3;simp at h3
         exact⟨f3,by show (((σ.upd u1).upd u2).setB k _).bx k'=_;rw[bo _ _ aY];exact h3⟩
        .have dy:BxLe γ (σ.upd u1).bx γ ((σ.upd u1).upd u2).bx:=iL.le
         have oh:BxLe γ ((σ.upd u1).upd u2).bx γ ((((σ.upd u1).upd u2)).setB k (.live (.cell (xs.map TV.leaf) true))).bx:=by
          intro k' aR;by_cases aY:k'=k
          .subst aY;rw[cV];exact⟨by simp,rfl,λb hb=>by simp at hb;subst hb;exact⟨_,dj,trivial⟩⟩
          .rw[bo _ _ aY];exact⟨aR,rfl,λb hb=>⟨b,hb,.refl b⟩⟩
         have tr:∀{b1 b2 b3:Nat->BS},BxLe γ b1 γ b2->BxLe γ b2 γ b3->BxLe γ b1 γ b3:=by intro b1 b2 b3 MO MP k' aR;obtain⟨q1,q2,q3⟩:=MO k' aR;obtain⟨r1,r2,r3⟩:=MP k' q1;refine⟨r1,rfl,λb hb=>?_⟩;obtain⟨b',al,cW⟩:=r3 b hb;obtain⟨vz,l5,l6⟩:=q3 b' al;refine⟨vz,l5,?_⟩;exact l6.trans cW
         exact tr (tr eK dy) oh
        .have h3:=iL.free (vv k' aR);have aY:k'≠k:=by rintro rfl;rw[hk]at aR;simp at aR
         show (((σ.upd u1).upd u2).setB k _).bx k'=_;rw[bo _ _ aY];exact h3
      .simp at h
     .simp at h
    .simp at h
   .simp at h
theorem GF:∀{cs:List Cel}{ks:List Nat}{zs:List Value},uD cs=some ks->All2 (aQ S w γ σ.bx) cs zs->All2 (uS γ σ.bx) ks zs
 |[],ks,zs,h,ha=>by
  simp[uD]at h;subst h;cases zs with
  |nil=>trivial
  |cons _ _=>exact ha.elim
 |c::r,ks,zs,h,ha=>by
  cases zs with
  |nil=>exact ha.elim
  |cons z zs=>
   unfold uD at h;split at h
   .rename_i h0;simp at h0
   .rename_i k r' h0;simp only[zh]at h0;obtain⟨rfl,rfl⟩:=h0;split at h
    .rename_i AR hk;simp only[j5]at h;subst h;obtain⟨⟨h1,h2,h3⟩,_⟩:=ha.1;exact⟨⟨h1,h2,h3⟩,GF hk ha.2⟩
    .simp at h
   .simp at h
theorem GG:∀{ks:List Nat}{zs:List Value},All2 (uS γ σ.bx) ks zs->All2 (aQ S w γ σ.bx) (ks.map λk=> .one (.bp k 0)) zs
 |[],[],_=>trivial
 |k::ks,z::zs,h=>⟨⟨h.1,λ_=>h.1.2.1⟩,GG h.2⟩
 |[],_::_,h=>h.elim
 |_::_,[],h=>h.elim
end
section
variable(S:aq)(w:World)
def vA(ls:List TV)(u:Value):Prop:=
 ∃g cur e,u = .pointer (some ⟨g,0,none⟩)/\w.heap[g]? = some (.cells cur e (0,0))/\All2 (λx z=>Rep S w x.t x.v [z]) ls (cur.toList.take ls.length)/\∀o,¬S g o
def pJ(e:Nat)(x:TV)(u:Value):Prop:=
 ∃(a:Ty)(xs:List a.den),x=⟨.list a,xs⟩/\lH S w e a xs u/\∀g,blk u=some g->∀o,¬S g o
def jM:Arg->Value->Prop
 |.v x,u=>VRep S w x u
 |.ref ls,u=>vA S w ls u
 |.rl e x,u=>pJ S w e x u
 |.ip ls,u=>∃g o cs,u = .pointer (some ⟨g,o,none⟩)/\All2 (λx z=>Rep S w x.t x.v [z]) ls cs/\Lies S w g o cs
 |.clo f caps,u=>∃cv:Array Value,u = .func (.func f) #[] cv/\All2 (gh S w) caps cv.toList
 |.mv e x,u=>pJ S w e x u/\isM e=false
def gy:Arg->Value->Option Nat
 |.ref _,u=>blk u
 |.rl _ _,u=>blk u
 |.mv _ _,u=>blk u
 |_,_=>none
def cu:List Arg->List Value->List Nat
 |a::as,u::us=>(gy a u).toList++cu as us
 |_,_=>[]
def mvOf:List Arg->List Value->List Nat
 |.mv _ _::as,u::us=>(blk u).toList++mvOf as us
 |_::as,_::us=>mvOf as us
 |_,_=>[]
def yq:RL->Value->Prop
 |.d x,z=>One z/\Rep S w x.t x.v [z]
 |.own e x,z=>pJ S w e x z
def lg:RV->Value->Prop
 |.v x,u=>VRep S w x u
 |.own e x,u=>pJ S w e x u
 |.box ls,u=>vA S w ls u
 |.hd _,u=>One u
 |.clo f caps,u=>∃cv:Array Value,u = .func (.func f) #[] cv/\All2 (gh S w) caps cv.toList
 |.so ls,u=>∃cs:Array Value,u = .agg cs/\All2 (yq S w) ls cs.toList
 |.raw _ _,_=>True
 |.vn x ns,u=>VRep S w x u/\∀cs,u = .agg cs->∀i∈ns,∀z,cs.toList[i]? = some z->z = .slice none 0 0
def ix:RV->Value->Option Nat
 |.v _,_=>none
 |.hd _,_=>none
 |.vn _ _,_=>none
 |.clo _ _,_=>none
 |.so _,_=>none
 |.raw _ _,_=>none
 |_,u=>blk u
def jN:List RL->List Value->List Nat
 |.own _ _::ls,z::zs=>(blk z).toList++jN ls zs
 |.d _::ls,_::zs=>jN ls zs
 |_,_=>[]
def gz:RV->Value->List Nat
 |.so ls,u=>jN ls u.cells.toList
 |r,u=>(ix r u).toList
def dX:List RV->List Value->List Nat
 |r::rs,u::us=>gz r u++dX rs us
 |_,_=>[]
def gA:List Arg->List Value->List Out->Prop
 |[],[],[]=>True
 |.ref _::as,u::us,.ref ys::os=>vA S w ys u/\gA as us os
 |.rl e x::as,u::us,.rl y::os=>pJ S w e y u/\y.t=x.t/\gA as us os
 |.v _::as,_::us,os=>gA as us os
 |.ip _::as,_::us,os=>gA as us os
 |.clo _ _::as,_::us,os=>gA as us os
 |.mv _ _::as,_::us,os=>gA as us os
 |_,_,_=>False
end
def gZ(vs:List Value):Value:=match vs with
 |[v]=>v
 |vs=> .tuple vs.toArray
def yr:List Arg->List Value->Option Value
 |.ref _::_,u::_=>some u
 |.rl _ _::_,u::_=>some u
 |_::as,_::us=>yr as us
 |_,_=>none
def emp:St:=⟨λ_=> .one (.one .dead),λ_=> .free⟩
def BG(h0:Nat)(S:aq)(w:World)(ns:List Nat)(s:Snap)(v:Value):Prop:=
 ∃γ zs,v=gZ zs/\All2 (aQ S w γ (emp.upd (rawU ns s)).bx) (rawC ns s) zs/\(∀k b,(emp.upd (rawU ns s)).bx k = .live b->cJ S w γ (emp.upd (rawU ns s)).bx k b)/\
  (∀k b g,(emp.upd (rawU ns s)).bx k = .live b->blk (γ k)=some g->h0<=g)/\
  ∀k k' b b' g,k≠k'->(emp.upd (rawU ns s)).bx k = .live b->(emp.upd (rawU ns s)).bx k' = .live b'->blk (γ k)=some g->blk (γ k')≠some g
structure yt(w:World)(S:aq)(args:List Arg)(vals:List Value)(ret:Ret)(v:Value)(w':World)(S':aq)(vs:List Value):Prop where
 val:v=gZ vs
 rep:All2 (lg S' w') ret.vals vs
 fresh:∀g∈dX ret.vals vs,w.heap.size<=g\/g∈mvOf args vals
 apart:(dX ret.vals vs).Nodup
 outs:gA S' w' args vals ret.outs
 stays:bY S w S' w'
 new:∀g o,S' g o->S g o\/w.heap.size<=g\/g∈mvOf args vals
 here:∀g o,S' g o->g<w'.heap.size
 below:∀g,g<w.heap.size->g∉cu args vals->w'.heap[g]? = w.heap[g]?
 grow:w.heap.size<=w'.heap.size
 os:w'.os=w.os
 tape:w'.tape=w.tape
 output:w'.output=w.output
 raw:∀ns s,ret.vals=[.raw ns s]->BG w.heap.size S' w' ns s v
 head:∀m,ret.vals=[.hd m]->∃ad len cap,yr args vals=some (.slice ad len cap)/\m<=len/\vs=[.slice ad m cap]
def yu(P:Program)(f:Nat)(args:List Arg)(K:Ret->Prop):Prop:=
 ∀(w:World)(S:aq)(vals:List Value),All2 (jM S w) args vals->(cu args vals).Nodup->(∀g o,S g o->g<w.heap.size)->
  Calls P f vals.toArray w λe w'=>∃ret,K ret/\∃v S' vs,e = .returned v/\yt w S args vals ret v w' S' vs
def Fun(P:Program)(f:Nat):Prop:=
 ∃ fn, P.funcs[f]? = some fn ∧ fn.body.isNone = false ∧ (fn.name == "runtime.NumGoroutine") = false
def FnOK(P:Program)(f:Nat)(c:List Arg->(R:Type)->(Ret->Option R)->Option R):Prop:=
 ∀(args:List Arg)(R:Type)(k:Ret->Option R)(r:R),c args R k=some r->Fun P f/\yu P f args λret=>k ret=some r
def fW(P:Program)(C:Nat->List Arg->(R:Type)->(Ret->Option R)->Option R):Prop:=∀f,FnOK P f (C f)
section
variable{N:NT}{np:Nat}{S0:aq}{w0:World}{refs:Refs}{σ:St}{a:Go.Act}{w:World}{S:aq}{γ:Nat->Value}
theorem om{S':aq}{w':World}:∀(t:Ty)(v:t.den)(cs:List Value),t.flat=true->Rep S w t v cs->Rep S' w' t v cs
 |.int _,_,_,_,h=>h
 |.bool,_,_,_,h=>h
 |.str,_,_,_,h=>h
 |.unit,_,_,_,h=>h
 |.wrap a,v,cs,hf,h=>om a v cs hf h
 |.pair a b,_,_,hf,⟨c1,c2,e,h1,h2⟩=>by
  simp only[Ty.flat,jb]at hf;exact⟨c1,c2,e,om a _ _ hf.1 h1,om b _ _ hf.2 h2⟩
 |.list _,_,_,hf,_=>by simp[Ty.flat]at hf
 |.arr _ a,_,_,hf,⟨hn,css,ha,e⟩=>⟨hn,css,ha.mono (λx c hx=>om a x c hf hx),e⟩
def dT(bx:Nat->BS)(γ:Nat->Value):List Arg->List Value->List Bk->Prop
 |[],[],[]=>True
 |.ref ls::as,u::us,.ref k::fs=>u=γ k/\(∃ew,bx k = .live (.cell ew false))/\dT bx γ as us fs
 |.rl e x::as,u::us,.rl k e' t::fs=>e=e'/\u=γ k/\(∃xs,bx k = .live (.lst e t xs false)/\x=⟨.list t,xs⟩)/\dT bx γ as us fs
 |.v _::as,_::us,fs=>dT bx γ as us fs
 |.ip _::as,_::us,fs=>dT bx γ as us fs
 |.clo _ _::as,_::us,fs=>dT bx γ as us fs
 |.mv e x::as,u::us,.mv k e' t::fs=>e=e'/\u=γ k/\(∃xs,bx k = .live (.lst e t xs false)/\x=⟨.list t,xs⟩)/\dT bx γ as us fs
 |_,_,_=>False
theorem MQ{rd rdf:Nat->BS}(hR:Rel N np S0 w0 refs σ a w S γ)(au:RdR σ rd)(aF:RdF np σ rdf){t:Option TyI}{mv rl:Bool}{c:Cel}{arg:Arg}{u:Ups}{f:Option Bk}{z:Value}
  (h:o8 rd rdf t mv rl c=some (arg,u,f))(hc:aQ S w γ σ.bx c z) :
  FrzL np σ.bx u/\dT σ.bx γ [arg] [z] f.toList/\∀S',bY S w S' w->Froz σ.bx γ S' w u->(∀k b,f.toList.any (λy=>y.name==k)=true->σ.bx k = .live b->∀g,blk (γ k)=some g->∀o,¬S' g o)->jM S' w arg z:=by
 unfold o8 at h;split at h
 .rename_i k;split at h
  .rename_i ls hk;split at h
   .rename_i xs u1 h1;simp only[j5,j9]at h;obtain⟨rfl,rfl,rfl⟩:=h;have hk:=au.live hk;obtain⟨g,hg,hz⟩:=hc.1.2.2 _ hk;obtain⟨g',cur,e,af,hh,bN,_,_,hS⟩:=hR.box k _ hk;rw[hg]at af;simp at af;subst af;obtain⟨hf,hp⟩:=rG aF h1 bN;refine⟨hf,trivial,λS' aj cF _=>⟨g,0,cur.toList.take ls.length,hz,hp S' w aj cF,λj v hv=>?_⟩⟩
    have hv:cur.toList[j]? = some v:=by
     rw[kp]at hv;split at hv
     .exact hv
     .simp at hv
    have hj:j<cur.size:=by simpa using (jk.1 hv).1
    rw[jt];refine⟨(aj _ _ (hS rfl j hj)).1,?_⟩;rw[cell_of_row w g j cur e (0,0) hh];simpa using hv
   .simp at h
  .rename_i ls hk;split at h
   .rename_i xs u1 h1;simp only[j5,j9]at h;obtain⟨rfl,rfl,rfl⟩:=h;have hk:=au.live hk;obtain⟨g,hg,hz⟩:=hc.1.2.2 _ hk;obtain⟨g',cur,e,af,hh,bN,_⟩:=hR.box k _ hk;rw[hg]at af;simp at af;subst af;obtain⟨hf,hp⟩:=rG aF h1 bN;refine⟨hf,⟨hz.trans hg.symm,⟨ls,hk⟩,trivial⟩,λS' aj cF hn=>⟨g,cur,e,hz,hh,by rw[x5 bN (hp S' w aj cF)];exact hp S' w aj cF,?_⟩⟩;exact hn k _ (by simp[Bk.name]) hk g (by rw[hg];rfl)
   .simp at h
  .simp at h
 .simp only[j5,j9]at h;obtain⟨rfl,rfl,rfl⟩:=h;refine⟨.nil,trivial,λS' aj _ _=>?_⟩;obtain⟨g,o,cs,hz,ha,hl⟩:=hc.1;exact⟨g,o,cs,hz,ha.mono (λx z hx=>Rep.keep aj _ _ _ hx),hl.keep aj⟩
 .simp only[j5,j9]at h;obtain⟨rfl,rfl,rfl⟩:=h;refine⟨.nil,trivial,λS' aj _ _=>?_⟩;obtain⟨cv,hz,ha⟩:=hc.1;exact⟨cv,hz,ha.mono (λx z hx=>gh.keep aj hx)⟩
 .rename_i k;split at h
  .cases mv with
   |true=>
    rw[j6]at h;split at h
    .rename_i e t xs hk;simp only[j5,j9]at h;obtain⟨rfl,rfl,rfl⟩:=h;have bn:=aF.ok.nm hk;have hk:=aF.ok.live hk;have hz:=hc.1.2.2 _ hk;refine⟨.nil,⟨rfl,hz,⟨xs,hk,rfl⟩,trivial⟩,λS' aj _ hn=>?_⟩;have cP:=(hR.box k _ hk).1;exact⟨⟨t,xs,rfl,by rw[hz];exact cP.keep aj (λ_ _=>rfl),λg hg=>hn k _ (by simp[Bk.name]) hk g (by rw[<-hz];exact hg)⟩,bn⟩
    .simp at h
   |false=>
   rw[j7]at h;split at h
   .rename_i e t xs hk;simp only[j5,j9]at h;obtain⟨rfl,rfl,rfl⟩:=h;have hk:=au.live hk;have hz:=hc.1.2.2 _ hk;refine⟨.nil,⟨rfl,hz,⟨xs,hk,rfl⟩,trivial⟩,λS' aj _ hn=>?_⟩;have cP:=(hR.box k _ hk).1;exact⟨t,xs,rfl,by rw[hz];exact cP.keep aj (λ_ _=>rfl),λg hg=>hn k _ (by simp[Bk.name]) hk g (by rw[<-hz];exact hg)⟩
   .simp at h
  .split at h
   .rename_i e t xs fz hk;simp only[j5,j9]at h;obtain⟨rfl,rfl,rfl⟩:=h;have jK:=aF.par hk;have bn:=aF.ok.nm hk;have hk:=aF.ok.live hk;have hz:=hc.1.2.2 _ hk;refine⟨λx hx=>?_,trivial,λS' aj cF _=>?_⟩
    .have:=qa.1 hx;subst this;exact⟨jK,e,t,xs,fz,hk,rfl,bn⟩
    .have h1:One z:=hc.2 (by simp);have:=cF (k,_) (qa.2 rfl) e t xs fz hk;rw[<-hz]at this;exact⟨by rw[tp h1];exact this,by simp[fi,Ty.agg],λ_=>h1⟩
   .simp at h
 .split at h
  .split at h
   .rename_i ty aD;split at h
    .rename_i x u1 hx;simp only[j5,j9]at h;obtain⟨rfl,rfl,rfl⟩:=h;obtain⟨hf,hp,_⟩:=yc aF hR.box hx hc;exact⟨hf,trivial,λS' aj cF _=>hp S' w aj cF⟩
    .simp at h
   .simp at h
  .simp at h
theorem dT.app{bx:Nat->BS}{arg:Arg}{z:Value}{f:List Bk}:dT bx γ [arg] [z] f->∀{as:List Arg}{us:List Value}{fs:List Bk},dT bx γ as us fs->dT bx γ (arg::as) (z::us) (f++fs):=by
 intro h as us fs h';cases arg with
 |v x=>cases f with|nil=>exact h'|cons _ _=>exact h.elim
 |ip x=>cases f with|nil=>exact h'|cons _ _=>exact h.elim
 |clo x y=>cases f with|nil=>exact h'|cons _ _=>exact h.elim
 |ref ls=>
  match f,h with
  |[.ref k],⟨h1,h2,_⟩=>exact⟨h1,h2,h'⟩
  |.ref k::_::_,⟨_,_,h3⟩=>exact h3.elim
 |rl e x=>
  match f,h with
  |[.rl k e' t],⟨h0,h1,h2,_⟩=>exact⟨h0,h1,h2,h'⟩
  |.rl k e' t::_::_,⟨_,_,_,h3⟩=>exact h3.elim
 |mv e x=>
  match f,h with
  |[.mv k e' t],⟨h0,h1,h2,_⟩=>exact⟨h0,h1,h2,h'⟩
  |.mv k e' t::_::_,⟨_,_,_,h3⟩=>exact h3.elim
theorem GH{rd rdf:Nat->BS}(hR:Rel N np S0 w0 refs σ a w S γ)(au:RdR σ rd)(aF:RdF np σ rdf){T:Nat->Option TyI}{mv:Bool}:∀{cs:List Cel}{ts:List Nat}{ms:List Bool}{as:List Arg}{u:Ups}{fs:List Bk}{zs:List Value},
  jY rd rdf T mv ts ms cs=some (as,u,fs)->All2 (aQ S w γ σ.bx) cs zs->
  FrzL np σ.bx u/\dT σ.bx γ as zs fs/\∀S',bY S w S' w->Froz σ.bx γ S' w u->(∀k b,fs.any (λy=>y.name==k)=true->σ.bx k = .live b->∀g,blk (γ k)=some g->∀o,¬S' g o)->All2 (jM S' w) as zs
 |[],ts,ms,as,u,fs,zs,h,ha=>by
  simp[jY]at h;obtain⟨rfl,rfl,rfl⟩:=h;cases zs with
  |nil=>exact⟨.nil,trivial,λ_ _ _ _=>trivial⟩
  |cons _ _=>exact ha.elim
 |c::cs,ts,ms,as,u,fs,zs,h,ha=>by
  cases zs with
  |nil=>exact ha.elim
  |cons z zs=>
   simp only[jY]at h;split at h
   .rename_i a1 u1 f1 h1;split at h
    .rename_i xZ BH GI h2;simp only[j5,j9]at h;obtain⟨rfl,rfl,rfl⟩:=h;obtain⟨p1,q1,r1⟩:=MQ hR au aF h1 ha.1;obtain⟨p2,q2,r2⟩:=GH hR au aF h2 ha.2;refine⟨FrzL.app.2 ⟨p1,p2⟩,q1.app q2,λS' aj cF hn=>?_⟩;obtain⟨z1,z2⟩:=Froz.app.1 cF;exact⟨r1 S' aj z1 (λk b hk=>hn k b (by rw[List.any_append,hk];rfl)),r2 S' aj z2 (λk b hk=>hn k b (by rw[List.any_append,hk];simp))⟩
    .simp at h
   .simp at h
theorem GJ:∀{cs:List Cap}{zs:List Value},All2 (gh S w) cs zs->All2 (jM S w) (cs.map jZ) zs
 |[],[],_=>trivial
 |c::cs,z::zs,h=>by
  refine⟨?_,GJ h.2⟩;cases c with
  |v x=>obtain⟨hl,hr⟩:=h.1;have h1:One z:=Rep.one _ _ _ hr z (by simp);refine⟨by rw[tp h1];exact hr,λhm=>?_,λ_=>h1⟩;exfalso;obtain⟨t,v⟩:=x;cases t<;>simp_all[Ty.leafy,fi,Ty.agg]
  |p ls=>exact h.1
 |[],_::_,h=>h.elim
 |_::_,[],h=>h.elim
theorem GK:∀(cs:List Cap)(zs:List Value),cu (cs.map jZ) zs=[]
 |[],_=>by cases ‹List Value› <;> rfl
 |c::cs,[]=>rfl
 |c::cs,z::zs=>by cases c<;>simp[cu,gy,jZ,GK cs zs]
theorem GL:∀(as:List Arg)(us:List Value)(bs:List Arg)(vs:List Value),as.length=us.length->cu (as++bs) (us++vs)=cu as us++cu bs vs
 |[],[],bs,vs,_=>rfl
 |a::as,u::us,bs,vs,h=>by simp[cu,GL as us bs vs (by simpa using h)]
 |[],_::_,_,_,h=>by simp at h
 |_::_,[],_,_,h=>by simp at h
theorem pK{bx:Nat->BS}:∀{as:List Arg}{us:List Value}{fs:List Bk},dT bx γ as us fs->cu as us=fs.filterMap λf=>blk (γ f.name)
 |[],[],[],_=>rfl
 |.ref ls::as,u::us,.ref k::fs,⟨h1,_,h3⟩=>by
  simp only[cu,gy,qy,Bk.name,h1,pK h3];cases blk (γ k)<;>rfl
 |.rl e x::as,u::us,.rl k e' t::fs,⟨_,h1,_,h3⟩=>by
  simp only[cu,gy,qy,Bk.name,h1,pK h3];cases blk (γ k)<;>rfl
 |.mv e x::as,u::us,.mv k e' t::fs,⟨_,h1,_,h3⟩=>by
  simp only[cu,gy,qy,Bk.name,h1,pK h3];cases blk (γ k)<;>rfl
 |.v _::as,_::us,fs,h=>by simp[cu,gy,pK (as:=as) (us:=us) (fs:=fs) h]
 |.ip _::as,_::us,fs,h=>by simp[cu,gy,pK (as:=as) (us:=us) (fs:=fs) h]
 |.clo _ _::as,_::us,fs,h=>by simp[cu,gy,pK (as:=as) (us:=us) (fs:=fs) h]
theorem GM:∀{as:List Arg}{us:List Value}{g:Nat},g∈mvOf as us->g∈cu as us
 |[],_,g,h=>by simp[mvOf]at h
 |_::_,[],g,h=>by rename_i a _;cases a<;>simp[mvOf]at h
 |a::as,u::us,g,h=>by
  have ih:=GM (as:=as) (us:=us) (g:=g);cases a with
  |mv e x=>simp only[mvOf,cu,gy,jp]at h ⊢;exact h.imp id ih
  |_=>simp only[mvOf]at h;simp only[cu,jp];exact .inr (ih h)
theorem pL{bx:Nat->BS}:∀{as:List Arg}{us:List Value}{fs:List Bk}{g:Nat},dT bx γ as us fs->g∈mvOf as us->∃f∈fs,f.isMv=true/\blk (γ f.name)=some g
 |[],[],[],g,_,h=>by simp[mvOf]at h
 |.ref ls::as,u::us,.ref k::fs,g,⟨_,_,h3⟩,h=>by
  obtain⟨f,hf,h1⟩:=pL (g:=g) h3 (by simpa only[mvOf]using h);exact⟨f,by simp[hf],h1⟩
 |.rl e x::as,u::us,.rl k e' t::fs,g,⟨_,_,_,h3⟩,h=>by
  obtain⟨f,hf,h1⟩:=pL (g:=g) h3 (by simpa only[mvOf]using h);exact⟨f,by simp[hf],h1⟩
 |.mv e x::as,u::us,.mv k e' t::fs,g,⟨_,h1,_,h3⟩,h=>by
  simp only[mvOf,jp,Option.mem_toList]at h;rcases h with h|h
  .exact⟨.mv k e' t,by simp,rfl,by rw[<-h];show blk (γ k)=blk u;rw[h1]⟩
  .obtain⟨f,hf,h1⟩:=pL (g:=g) h3 h;exact⟨f,by simp[hf],h1⟩
 |.v _::as,_::us,fs,g,hb,h=>pL (as:=as) (us:=us) (fs:=fs) hb (by simpa only[mvOf]using h)
 |.ip _::as,_::us,fs,g,hb,h=>pL (as:=as) (us:=us) (fs:=fs) hb (by simpa only[mvOf]using h)
 |.clo _ _::as,_::us,fs,g,hb,h=>pL (as:=as) (us:=us) (fs:=fs) hb (by simpa only[mvOf]using h)
theorem MR{rd rdf:Nat->BS}(aF:RdF np σ rdf){t:Option TyI}{mv rl:Bool}{c:Cel}{arg:Arg}{u:Ups}{f:Option Bk}(h:o8 rd rdf t mv rl c=some (arg,u,f)):∀x∈f.toList,x.isMv=true->parK np x.name=false:=by
 intro x hx hm;unfold o8 at h;split at h
 .split at h
  .split at h
   .simp only[j5,j9]at h;obtain⟨_,_,rfl⟩:=h;simp at hx
   .simp at h
  .split at h
   .simp only[j5,j9]at h;obtain⟨_,_,rfl⟩:=h;simp at hx;subst hx;simp[Bk.isMv]at hm
   .simp at h
  .simp at h
 .simp only[j5,j9]at h;obtain⟨_,_,rfl⟩:=h;simp at hx
 .simp only[j5,j9]at h;obtain⟨_,_,rfl⟩:=h;simp at hx
 .split at h
  .cases mv with
   |true=>
    rw[j6]at h;split at h
    .rename_i hk;simp only[j5,j9]at h;obtain⟨_,_,rfl⟩:=h;simp at hx;subst hx;exact aF.par hk
    .simp at h
   |false=>
    rw[j7]at h;split at h
    .simp only[j5,j9]at h;obtain⟨_,_,rfl⟩:=h;simp at hx;subst hx;simp[Bk.isMv]at hm
    .simp at h
  .split at h
   .simp only[j5,j9]at h;obtain⟨_,_,rfl⟩:=h;simp at hx
   .simp at h
 .split at h
  .split at h
   .split at h
    .simp only[j5,j9]at h;obtain⟨_,_,rfl⟩:=h;simp at hx
    .simp at h
   .simp at h
  .simp at h
theorem GN{rd rdf:Nat->BS}(aF:RdF np σ rdf){T:Nat->Option TyI}{mv:Bool}:∀{cs:List Cel}{ts:List Nat}{ms:List Bool}{as:List Arg}{u:Ups}{fs:List Bk},
  jY rd rdf T mv ts ms cs=some (as,u,fs)->∀x∈fs,x.isMv=true->parK np x.name=false
 |[],ts,ms,as,u,fs,h,x,hx,hm=>by
  simp[jY]at h;obtain⟨rfl,rfl,rfl⟩:=h;simp at hx
 |c::cs,ts,ms,as,u,fs,h,x,hx,hm=>by
  simp only[jY]at h;split at h
  .rename_i a1 u1 f1 h1;split at h
   .rename_i xZ BH GI h2;simp only[j5,j9]at h;obtain⟨rfl,rfl,rfl⟩:=h;rcases jp.1 hx with hx|hx
    .exact MR aF h1 x hx hm
    .exact GN aF h2 x hx hm
   .simp at h
  .simp at h
theorem nh{bx:Nat->BS}:∀{as:List Arg}{us:List Value}{fs:List Bk},dT bx γ as us fs->∀f∈fs,∃b,bx f.name = .live b
 |[],[],[],_,f,hf=>by simp at hf
 |.ref ls::as,u::us,.ref k::fs,⟨_,⟨ew,h2⟩,h3⟩,f,hf=>by
  rcases jf.1 hf with rfl|hf
  .exact⟨_,h2⟩
  .exact nh h3 f hf
 |.rl e x::as,u::us,.rl k e' t::fs,⟨_,_,⟨xs,h2,_⟩,h3⟩,f,hf=>by
  rcases jf.1 hf with rfl|hf
  .exact⟨_,h2⟩
  .exact nh h3 f hf
 |.mv e x::as,u::us,.mv k e' t::fs,⟨_,_,⟨xs,h2,_⟩,h3⟩,f,hf=>by
  rcases jf.1 hf with rfl|hf
  .exact⟨_,h2⟩
  .exact nh h3 f hf
 |.v _::as,_::us,fs,h,f,hf=>nh (as:=as) (us:=us) (fs:=fs) h f hf
 |.ip _::as,_::us,fs,h,f,hf=>nh (as:=as) (us:=us) (fs:=fs) h f hf
 |.clo _ _::as,_::us,fs,h,f,hf=>nh (as:=as) (us:=us) (fs:=fs) h f hf
theorem rH:∀{l:List Nat},jE l=true->l.Nodup
 |[],_=>List.nodup_nil
 |x::l,h=>by
  simp only[jE,jb,kf,kg,k7]at h;exact q8.2 ⟨h.1,rH h.2⟩
theorem BI(hR:Rel N np S0 w0 refs σ a w S γ):∀{l:List Nat},l.Nodup->(∀k∈l,∃b,σ.bx k = .live b)->(l.filterMap λk=>blk (γ k)).Nodup
 |[],_,_=>by simp
 |k::l,h,hl=>by
  obtain⟨h1,h2⟩:=q8.1 h;have ih:=BI hR h2 (λk hk=>hl k (by simp[hk]));rw[qy];cases hb:blk (γ k) with
  |none=>exact ih
  |some g=>refine q8.2 ⟨λhm=>?_,ih⟩;obtain⟨k',aR,af⟩:=z7.1 hm;obtain⟨b,bR⟩:=hl k (by simp);obtain⟨b',cA⟩:=hl k' (by simp[aR]);exact hR.apart k k' b b' g (by rintro rfl;exact h1 aR) bR cA hb af
end
section
variable{N:NT}{np:Nat}{S0:aq}{w0:World}{refs:Refs}{σ:St}{a:Go.Act}{w:World}{S:aq}{γ:Nat->Value}
theorem pM:∀(u:Ups)(σ:St){k:Nat}{b:BS},(u.map (·.1)).Nodup->(k,b)∈u->(σ.upd u).bx k=b
 |[],_,_,_,_,h=>by simp at h
 |e::u,σ,k,b,hn,h=>by
  simp only[qb,q8]at hn;show ((σ.setB e.1 e.2).upd u).bx k=_;rcases jf.1 h with h|h
  .subst h;rw[gp u,cV];simp only[ku,qw];intro x hx he;exact hn.1 (jy.2 ⟨x,hx,he⟩)
  .exact pM u _ hn.2 h
theorem MS{e:Nat}{m n n':Nat}{v:Value}{w':World}{xs ys:List Value}(h:w.ownsRow 0 e m v n xs)(h':w'.ownsRow 0 e m v n' ys):n=n':=by
 rcases h.2 with⟨e1,e2⟩|⟨g,cap,cur,e1,_⟩<;>rcases h'.2 with⟨f1,f2⟩|⟨g',dW,gx,f1,_⟩
 .rw[e2,f2]
 .rw[e1]at f1;simp at f1
 .rw[e1]at f1;simp at f1
 .rw[e1]at f1;simp at f1;exact f1.2.1
theorem BJ{bx:Nat->BS}{S':aq}{w':World}{ys:List TV}{k:Nat}{v:Value}(hg:γ k=v)(h:vA S' w' ys v):cJ S' w' γ bx k (.cell (ys.map TV.leaf) false):=by
 obtain⟨g,cur,e,hu,hh,ah,hS⟩:=h;exact⟨g,cur,e,hg.trans hu,hh,by rw[qf];exact lK ah,λu cE=>by rw[qf]at cE;obtain⟨x,_,hx⟩:=ah.mem_right u cE;exact Rep.one _ _ _ hx u (by simp),λ_=>hS,by simp⟩
theorem tC{bx:Nat->BS}{S':aq}{w':World}{e:Nat}{t:Ty}{ys:List t.den}{k:Nat}{v:Value}(hg:γ k=v)(h:pJ S' w' e ⟨.list t,ys⟩ v):cJ S' w' γ bx k (.lst e t ys false):=by
 obtain⟨t',xs,hx,bb,hS⟩:=h;cases hx;exact⟨by rw[hg];exact bb,λg af=>⟨λ_=>hS g (by rw[<-hg];exact af),by simp⟩⟩
theorem oo{S':aq}{w':World}(hR:Rel N np S0 w0 refs σ a w S γ):∀{as:List Arg}{zs:List Value}{fs:List Bk}{os:List Out}{uo:Ups},dT σ.bx γ as zs fs->gQ fs os=some uo->gA S' w' as zs os->
  uo.map (·.1)=fs.map Bk.name/\∀x∈uo,∃b,σ.bx x.1 = .live b/\(x.2 = .gone\/∃b',x.2 = .live b'/\fj b b'/\∀bx',cJ S' w' γ bx' x.1 b')
 |[],[],[],[],uo,_,h,_=>by simp[gQ]at h;subst h;simp
 |.ref ls::as,u::us,.ref k::fs,.ref ys::os,uo,⟨h1,⟨ew,h2⟩,h3⟩,h,⟨q1,q2⟩=>by
  simp only[gQ,xQ]at h;split at h
  .rename_i u' cE;simp only[j5]at h;subst h;obtain⟨i1,i2⟩:=oo hR h3 cE q2;refine⟨by simp[i1,Bk.name],λx hx=>?_⟩;rcases jf.1 hx with rfl|hx
   .exact⟨_,h2,.inr ⟨_,rfl,trivial,λbx'=>BJ h1.symm q1⟩⟩
   .exact i2 x hx
  .simp at h
 |.rl e x::as,u::us,.rl k e' t::fs,.rl y::os,uo,⟨h0,h1,⟨xs,h2,gn⟩,h3⟩,h,⟨q1,q1',q2⟩=>by
  simp only[gQ,xQ]at h;split at h
  .rename_i y' tj;split at tj
   .rename_i ys gY;simp only[j5]at tj;subst tj;split at h
    .rename_i u' cE;simp only[j5]at h;subst h;obtain⟨i1,i2⟩:=oo hR h3 cE q2;refine⟨by simp[i1,Bk.name],λx hx=>?_⟩;rcases jf.1 hx with rfl|hx
     .have:=gU gY;subst this;subst h0;refine⟨_,h2,.inr ⟨_,rfl,⟨rfl,rfl,λhm=>?_⟩,λbx'=>tC h1.symm q1⟩⟩;obtain⟨css,ar,_⟩:=eW hm (hR.box k _ h2);obtain⟨gu,bb,_⟩:=eW (bx:=σ.bx) hm (tC h1.symm q1);exact MS ar bb
     .exact i2 x hx
    .simp at h
   .simp at tj
  .simp at h
 |.mv e x::as,u::us,.mv k e' t::fs,os,uo,⟨h0,h1,⟨xs,h2,gn⟩,h3⟩,h,q=>by
  simp only[gQ]at h;split at h
  .rename_i u' cE;simp only[j5]at h;subst h;obtain⟨i1,i2⟩:=oo hR h3 cE (by simpa only[gA]using q);refine⟨by simp[i1,Bk.name],λx hx=>?_⟩;rcases jf.1 hx with rfl|hx
   .exact⟨_,h2,.inl rfl⟩
   .exact i2 x hx
  .simp at h
 |.v _::as,_::us,fs,os,uo,h,h',q=>oo (as:=as) (zs:=us) (fs:=fs) hR h h' q
 |.ip _::as,_::us,fs,os,uo,h,h',q=>oo (as:=as) (zs:=us) (fs:=fs) hR h h' q
 |.clo _ _::as,_::us,fs,os,uo,h,h',q=>oo (as:=as) (zs:=us) (fs:=fs) hR h h' q
theorem BK(hR:Rel N np S0 w0 refs σ a w S γ){GO:List Nat}{S':aq}{w':World}(aj:bY S w S' w')(cL:∀g o,S' g o->S g o\/w.heap.size<=g\/g∈GO)(hP:∀g o,S' g o->g<w'.heap.size)
  {as:List Arg}{zs:List Value}{fs:List Bk}{os:List Out}{uo:Ups}(vB:∀g∈GO,g∈mvOf as zs)(fy:∀f∈fs,f.isMv=true->parK np f.name=false)(bD:dT σ.bx γ as zs fs)(bV:(fs.map Bk.name).Nodup)(ho:gQ fs os=some uo)(hq:gA S' w' as zs os)
  (dp:∀g,g<w.heap.size->g∉cu as zs->w'.heap[g]? = w.heap[g]?)(dY:w.heap.size<=w'.heap.size)(kH:w'.os=w.os)(hY:w'.tape=w.tape)(cN:w'.output=w.output) :
  Rel N np S0 w0 refs (σ.upd uo) a w' S' γ:=by
 obtain⟨fX,rI⟩:=oo hR bD ho hq;have lP:(uo.map (·.1)).Nodup:=by rw[fX];exact bV
 have db:σ.upd uo={ σ with bx:=(σ.upd uo).bx }:=by have:=px uo σ;cases h:σ.upd uo;rw[h]at this;simp only at this;rw[this]
 have bt:∀k,(uo.any (λy=>y.1==k)=false/\(σ.upd uo).bx k=σ.bx k)\/(∃b,σ.bx k = .live b/\(σ.upd uo).bx k = .gone)\/(∃b b',σ.bx k = .live b/\(σ.upd uo).bx k = .live b'/\fj b b'/\∀bx',cJ S' w' γ bx' k b'):=by
  intro k;by_cases hk:uo.any (λy=>y.1==k)=true
  .right;obtain⟨x,hx,he⟩:=List.any_eq_true.1 hk;have he:x.1=k:=by simpa using he
   subst he;obtain⟨b,h1,h2|⟨b',h2,h3,h4⟩⟩:=rI x hx
   .exact .inl ⟨b,h1,by rw[pM uo σ lP (b:=x.2) hx,h2]⟩
   .exact .inr ⟨b,b',h1,by rw[pM uo σ lP (b:=x.2) hx,h2],h3,h4⟩
  .left;have aR:uo.any (λy=>y.1==k)=false:=qd.2 hk;exact⟨aR,gp uo σ aR⟩
 have dq:∀k b,(σ.upd uo).bx k = .live b->∃b',σ.bx k = .live b':=by
  intro k b hb;rcases bt k with⟨_,h⟩|⟨b1,h1,_⟩|⟨b1,b2,h1,_⟩
  .exact⟨b,h▸hb⟩
  .exact⟨b1,h1⟩
  .exact⟨b1,h1⟩
 have hle:BxLe γ σ.bx γ (σ.upd uo).bx:=by
  intro k hk;rcases bt k with⟨_,h⟩|⟨b1,h1,h2⟩|⟨b1,b2,h1,h2,h3,_⟩
  .rw[h];exact⟨hk,rfl,λb hb=>⟨b,hb,.refl b⟩⟩
  .rw[h2];exact⟨by simp,rfl,λb hb=>by simp at hb⟩
  .rw[h2];exact⟨by simp,rfl,λb hb=>by simp at hb;subst hb;exact⟨b1,h1,h3⟩⟩
 have hrefs:∀g,g∈cu as zs->∃f∈fs,blk (γ f.name)=some g/\∃b,σ.bx f.name = .live b:=by intro g hg;rw[pK bD]at hg;obtain⟨f,hf,kI⟩:=z7.1 hg;exact⟨f,hf,kI,nh bD f hf⟩
 rw[db]
 refine Rel.step hR aj hle ?_ ?_ ?_ ?_ hP ?_ (ko hR.grow dY) (kH.trans hR.os) (hY.trans hR.tape) (cN.trans hR.output) (λg hg _ h=>⟨dp g hg (λhm=>by
  obtain⟨f,hf,kI,b',al⟩:=hrefs g hm;exact h f.name b' al kI),λk b hb=>by
  obtain⟨b',al⟩:=dq k b hb;exact h k b' al⟩)
 .intro k b hb;rcases bt k with⟨hk,h⟩|⟨b1,h1,h2⟩|⟨b1,b2,h1,h2,h3,h4⟩
  case inr.inl=>rw[h2]at hb;simp at hb
  .rw[h]at hb;refine cJ.keep aj hle rfl (λg hg=>?_) (hR.box k b hb);have nb:=fm (hR.box k b hb) hg;suffices eT:g∉cu as zs from⟨dp g nb eT,λo=>⟨λhs=>(cL g o hs).resolve_right (λh=>h.elim (λh=>by omega) λh=>eT (GM (vB g h))),λhs=>(aj g o hs).1⟩⟩
   intro hm;obtain⟨f,hf,kI,b',al⟩:=hrefs g hm
   have aB:k≠f.name:=by
    rintro rfl
    have:f.name∈uo.map (·.1):=by rw[fX];exact List.mem_map_of_mem hf
    obtain⟨x,hx,he⟩:=jy.1 this;have:=(ku.1 hk) x hx;simp[he]at this
   exact hR.apart k f.name b b' g aB hb al hg kI
  .rw[h2]at hb;simp at hb;subst hb;exact h4 _
 .intro k b g hb hg;obtain⟨b',al⟩:=dq k b hb;exact hR.own k b' g al hg
 .intro k k' b1 b2 g aB h1 h2 hg;obtain⟨nV,gV⟩:=dq k b1 h1;obtain⟨nW,gn⟩:=dq k' b2 h2;exact hR.apart k k' nV nW g aB gV gn hg
 .intro g o hs;rcases cL g o hs with h|h|h
  .exact hR.new g o h
  .exact .inr (.inl (ko hR.grow h))
  .obtain⟨f,hf,yv,kI⟩:=pL bD (vB g h);obtain⟨b',al⟩:=nh bD f hf;rcases hR.own f.name b' g al kI with h|h
   .exact .inr h
   .rw[fy f hf yv]at h;simp at h
 .intro g hg hr;rw[dp g (q7 hg hR.grow) (λhm=>?_)]
  .exact hR.below g hg hr
  .obtain⟨f,hf,kI,b',al⟩:=hrefs g hm;rcases hR.own f.name b' g al kI with h|h
   .exact h.no (by omega) hr
   .exact hr h.1
theorem BL(hR:Rel N np S0 w0 refs σ a w S γ){d:Nat}(hd:σ.bx d = .free){v':Value}{b:Bx}
  (hv:∀g,blk v'=some g->(Own w0 refs g/\refs.kw g=none)/\∀k b,σ.bx k = .live b->blk (γ k)≠some g)(hb:cJ S w (gset γ d v') (σ.setB d (.live b)).bx d b) :
  Rel N np S0 w0 refs (σ.setB d (.live b)) a w S (gset γ d v')/\BxLe γ σ.bx (gset γ d v') (σ.setB d (.live b)).bx:=by
 have hle:BxLe γ σ.bx (gset γ d v') (σ.setB d (.live b)).bx:=by
  intro k hk;have aB:k≠d:=by rintro rfl;exact hk hd
  rw[bo σ _ aB,di γ v' aB];exact⟨hk,rfl,λb hb=>⟨b,hb,.refl b⟩⟩
 refine⟨Rel.step (bx':=(σ.setB d (.live b)).bx) hR (.refl S w) hle ?_ ?_ ?_ hR.new hR.here hR.below hR.grow hR.os hR.tape hR.output (λg _ iJ h=>⟨rfl,λk b' al bD=>by
  by_cases hk:k=d
  .subst hk;rw[cO]at bD;exact iJ (hv g bD).1.2
  .rw[bo σ _ hk]at al;rw[di γ v' hk]at bD;exact h k b' al bD⟩),hle⟩
 .intro k b' al;by_cases hk:k=d
  .subst hk;rw[cV]at al;simp at al;subst al;exact hb
  .rw[bo σ _ hk]at al;exact cJ.keep (.refl S w) hle (di γ v' hk) (λg hg=>⟨rfl,λ_=>Iff.rfl⟩) (hR.box k b' al)
 .intro k b' g al hg;by_cases hk:k=d
  .subst hk;rw[cO]at hg;exact .inl (hv g hg).1.1
  .rw[bo σ _ hk]at al;rw[di γ v' hk]at hg;exact hR.own k b' g al hg
 .intro k k' b1 b2 g aB h1 h2 hg af;by_cases hk:k=d
  .subst hk;have aR:k'≠k:=λh=>aB h.symm;rw[cO]at hg;rw[bo σ _ aR]at h2;rw[di γ v' aR]at af;exact(hv g hg).2 k' b2 h2 af
  .by_cases aR:k'=d
   .subst aR;rw[cO]at af;rw[bo σ _ hk]at h1;rw[di γ v' hk]at hg;exact(hv g af).2 k b1 h1 hg
   .rw[bo σ _ hk]at h1;rw[bo σ _ aR]at h2;rw[di γ v' hk]at hg;rw[di γ v' aR]at af;exact hR.apart k k' b1 b2 g aB h1 h2 hg af
theorem rJ{bx:Nat->BS}{x:TV}{u:Value}(h:VRep S w x u):aQ S w γ bx (jD x.t x.v) u:=by
 obtain⟨t,v⟩:=x;obtain⟨h1,h2,h3⟩:=h;refine Bd t v _ u h1 (λhm=>?_) (λha hn=>?_)
 .have:fi t=true:=by
   rcases hm with hm|⟨n,b,rfl⟩
   .cases t<;>simp_all[fi,Ty.agg]
   .rfl
  obtain⟨cs,rfl⟩:=h2 this;simp[Value.cells]
 .have:fi t=false:=by cases t<;>simp_all[fi,Ty.agg]
  exact tp (h3 this)
theorem yw:∀{ls:List RL}{n:Nat}{l:List Leaf}{u:Ups},soL n ls=some (l,u)->∀x∈u,n<=x.1/\x.1<n+ls.length
 |[],n,l,u,h=>by simp[soL]at h;obtain⟨rfl,rfl⟩:=h;simp
 |.d x::r,n,l,u,h=>by
  simp only[soL]at h;split at h
  .rename_i l' u' h';simp only[j5,j9]at h;obtain⟨rfl,rfl⟩:=h;intro y hy;have:=yw h' y hy;simp only[jm];omega
  .simp at h
 |.own e ⟨.list a,xs⟩::r,n,l,u,h=>by
  simp only[soL]at h;split at h
  .rename_i l' u' h';simp only[j5,j9]at h;obtain⟨rfl,rfl⟩:=h;intro y hy;rcases jf.1 hy with rfl|hy
   .simp only[jm];omega
   .have:=yw h' y hy;simp only[jm];omega
  .simp at h
 |.own e ⟨.int _,xs⟩::r,n,l,u,h=>by simp[soL]at h
 |.own e ⟨.bool,xs⟩::r,n,l,u,h=>by simp[soL]at h
 |.own e ⟨.str,xs⟩::r,n,l,u,h=>by simp[soL]at h
 |.own e ⟨.unit,xs⟩::r,n,l,u,h=>by simp[soL]at h
 |.own e ⟨.wrap _,xs⟩::r,n,l,u,h=>by simp[soL]at h
 |.own e ⟨.pair _ _,xs⟩::r,n,l,u,h=>by simp[soL]at h
 |.own e ⟨.arr _ _,xs⟩::r,n,l,u,h=>by simp[soL]at h
theorem GP{n:Nat}{r:RV}{c:Cel}{u:Ups}(h:xR n r=some (c,u)):∀x∈u,n<=x.1/\x.1<n+rvW r:=by
 unfold xR at h;split at h
 .simp only[j5,j9]at h;obtain⟨rfl,rfl⟩:=h;simp
 .simp only[j5,j9]at h;obtain⟨rfl,rfl⟩:=h;simp[rvW]
 .simp at h
 .simp only[j5,j9]at h;obtain⟨rfl,rfl⟩:=h;simp[rvW]
 .simp at h
 .split at h<;>(simp only[j5,j9]at h;obtain⟨rfl,rfl⟩:=h;simp)
 .simp only[j5,j9]at h;obtain⟨rfl,rfl⟩:=h;simp
 .split at h
  .rename_i l u' h';simp only[j5,j9]at h;obtain⟨rfl,rfl⟩:=h;exact yw h'
  .simp at h
 .simp at h
theorem GQ:∀{n:Nat}{rs:List RV}{cs:List Cel}{u:Ups},o9 n rs=some (cs,u)->∀x∈u,n<=x.1
 |n,[],cs,u,h=>by simp[o9]at h;obtain⟨rfl,rfl⟩:=h;simp
 |n,r::rs,cs,u,h=>by
  simp only[o9]at h;split at h
  .rename_i c u1 h1;split at h
   .rename_i BM u2 h2;simp only[j5,j9]at h;obtain⟨rfl,rfl⟩:=h;intro x hx;rcases jp.1 hx with hx|hx
    .exact(GP h1 x hx).1
    .have:=GQ h2 x hx;omega
   .simp at h
  .simp at h
theorem GR{bx:Nat->BS}{ns:List Nat}:∀(k:Nat){ls:List Leaf}{cs:List Value},All2 (aL S w γ bx) ls cs->(∀i∈ns,∀z,k<=i->cs[i-k]? = some z->z = .slice none 0 0)->
  All2 (aL S w γ bx) ((ls.zipIdx k).map λy=>if ns.contains y.2 then .nil else y.1) cs
 |_,[],[],_,_=>trivial
 |k,l::ls,c::cs,h,hn=>by
  refine⟨?_,GR (k+1) h.2 λi hi z hk hz=>hn i hi z (by omega) ?_⟩
  .by_cases hc:ns.contains k=true
   .simp only[hc,if_true];exact hn k (by simpa using hc) c (jr _) (by simp)
   .simp only[hc];exact h.1
  .rw[show i-k=(i-(k+1))+1 by omega];simpa using hz
 |_,[],_::_,h,_=>h.elim
 |_,_::_,[],h,_=>h.elim
theorem MT(hR:Rel N np S0 w0 refs σ a w S γ){h0:Nat}(BN:w0.heap.size<=h0)(dq:∀k b g,σ.bx k = .live b->blk (γ k)=some g->g<h0)(yk:∀g,h0<=g->refs.kw g=none)
  {ns:List Nat}{s:Snap}{v:Value}(rK:BG h0 S w ns s v)(ay:∀x∈rawU ns s,σ.bx x.1 = .free)(bV:((rawU ns s).map (·.1)).Nodup) :
  ∃γ',Rel N np S0 w0 refs (σ.upd (rawU ns s)) a w S γ'/\∃zs,v=gZ zs/\All2 (aQ S w γ' (σ.upd (rawU ns s)).bx) (rawC ns s) zs:=by
 obtain⟨γr,zs,hv,hc,hb,la,MU⟩:=rK;generalize rawU ns s=u at *;let γ':Nat->Value:=λk=>if u.any (λy=>y.1==k) then γr k else γ k
 have kG:∀k,u.any (λy=>y.1==k)=true->(σ.upd u).bx k=(emp.upd u).bx k/\γ' k=γr k/\σ.bx k = .free:=by
  intro k hk;have pN:=hk;obtain⟨x,hx,he⟩:=List.any_eq_true.1 hk;have he:x.1=k:=by simpa using he
  subst he;exact⟨(pM u σ bV (b:=x.2) hx).trans (pM u emp bV (b:=x.2) hx).symm,if_pos pN,ay x hx⟩
 have cN:∀k,u.any (λy=>y.1==k)=false->(σ.upd u).bx k=σ.bx k/\(emp.upd u).bx k = .free/\γ' k=γ k:=by intro k hk;exact⟨gp u σ hk,gp u emp hk,if_neg (by rw[hk];simp)⟩
 have GS:BxLe γr (emp.upd u).bx γ' (σ.upd u).bx:=by
  intro k hk;cases hu:u.any (λy=>y.1==k) with
  |false=>exact absurd (cN k hu).2.1 hk
  |true=>obtain⟨h1,h2,_⟩:=kG k hu;rw[h1];exact⟨hk,h2,λb hb=>⟨b,hb,.refl b⟩⟩
 have GU:BxLe γ σ.bx γ' (σ.upd u).bx:=by
  intro k hk;cases hu:u.any (λy=>y.1==k) with
  |true=>exact absurd (kG k hu).2.2 hk
  |false=>obtain⟨h1,_,h2⟩:=cN k hu;rw[h1];exact⟨hk,h2,λb hb=>⟨b,hb,.refl b⟩⟩
 have db:σ.upd u={ σ with bx:=(σ.upd u).bx }:=by have:=px u σ;cases h:σ.upd u;rw[h]at this;simp only at this;rw[this]
 refine⟨γ',?_,zs,hv,hc.mono λx z hx=>aQ.keep (.refl S w) GS hx⟩;rw[db];refine Rel.step hR (.refl S w) GU ?_ ?_ ?_ hR.new hR.here hR.below hR.grow hR.os hR.tape hR.output (λg _ iJ h=>⟨rfl,λk b hb bD=>?_⟩)
 .intro k b al;cases hu:u.any (λy=>y.1==k) with
  |true=>obtain⟨h1,h2,_⟩:=kG k hu;rw[h1]at al;exact cJ.keep (.refl S w) GS h2 (λg hg=>⟨rfl,λ_=>Iff.rfl⟩) (hb k b al)
  |false=>obtain⟨h1,_,h2⟩:=cN k hu;rw[h1]at al;exact cJ.keep (.refl S w) GU h2 (λg hg=>⟨rfl,λ_=>Iff.rfl⟩) (hR.box k b al)
 .intro k b g al hg;cases hu:u.any (λy=>y.1==k) with
  |true=>obtain⟨h1,h2,_⟩:=kG k hu;rw[h1]at al;rw[h2]at hg;exact .inl (.inl (ko BN (la k b g al hg)))
  |false=>obtain⟨h1,_,h2⟩:=cN k hu;rw[h1]at al;rw[h2]at hg;exact hR.own k b g al hg
 .intro k k' b b' g aB bR cA fw cY;cases hu:u.any (λy=>y.1==k) with
  |true=>
   obtain⟨h1,h2,_⟩:=kG k hu;rw[h1]at bR;rw[h2]at fw;cases cE:u.any (λy=>y.1==k') with
   |true=>obtain⟨h3,h4,_⟩:=kG k' cE;rw[h3]at cA;rw[h4]at cY;exact MU k k' b b' g aB bR cA fw cY
   |false=>obtain⟨h3,_,h4⟩:=cN k' cE;rw[h3]at cA;rw[h4]at cY;have:=dq k' b' g cA cY;have:=la k b g bR fw;omega
  |false=>
   obtain⟨h1,_,h2⟩:=cN k hu;rw[h1]at bR;rw[h2]at fw;cases cE:u.any (λy=>y.1==k') with
   |true=>obtain⟨h3,h4,_⟩:=kG k' cE;rw[h3]at cA;rw[h4]at cY;have:=dq k b g bR fw;have:=la k' b' g cA cY;omega
   |false=>obtain⟨h3,_,h4⟩:=cN k' cE;rw[h3]at cA;rw[h4]at cY;exact hR.apart k k' b b' g aB bR cA fw cY
 .cases hu:u.any (λy=>y.1==k) with
  |true=>obtain⟨h1,h2,_⟩:=kG k hu;rw[h1]at hb;rw[h2]at bD;exact iJ (yk g (la k b g hb bD))
  |false=>obtain⟨h1,_,h2⟩:=cN k hu;rw[h1]at hb;rw[h2]at bD;exact h k b hb bD
theorem BO:∀{ls:List RL}{zs:List Value}{n:Nat}{l:List Leaf}{u:Ups}{σ:St}{γ:Nat->Value},Rel N np S0 w0 refs σ a w S γ->soL n ls=some (l,u)->All2 (yq S w) ls zs->
  (∀x∈u,σ.bx x.1 = .free)->(jN ls zs).Nodup->(∀g∈jN ls zs,(Own w0 refs g/\refs.kw g=none)/\∀k b,σ.bx k = .live b->blk (γ k)≠some g)->
  ∃γ',Rel N np S0 w0 refs (σ.upd u) a w S γ'/\BxLe γ σ.bx γ' (σ.upd u).bx/\All2 (aL S w γ' (σ.upd u).bx) l zs/\(∀z∈zs,One z)/\
   ∀k b g,(σ.upd u).bx k = .live b->blk (γ' k)=some g->(∃b',σ.bx k = .live b'/\blk (γ k)=some g)\/g∈jN ls zs
 |[],[],n,l,u,σ,γ,hR,h,_,_,_,_=>by
  simp[soL]at h;obtain⟨rfl,rfl⟩:=h;exact⟨γ,hR,.refl _ _,trivial,by simp,λk b g h1 h2=> .inl ⟨b,h1,h2⟩⟩
 |.d x::ls,z::zs,n,l,u,σ,γ,hR,h,ha,ay,bV,hblk=>by
  simp only[soL]at h;split at h
  .rename_i l' u' h';simp only[j5,j9]at h;obtain⟨rfl,rfl⟩:=h;obtain⟨γ',q1,q2,q3,q4,q5⟩:=BO hR h' ha.2 ay bV hblk;exact⟨γ',q1,q2,⟨ha.1.2,q3⟩,λy hy=>(jf.1 hy).elim (λe=>e▸ha.1.1) (q4 y),q5⟩
  .simp at h
 |.own e ⟨.list t,xs⟩::ls,z::zs,n,l,u,σ,γ,hR,h,ha,ay,bV,hblk=>by
  simp only[soL]at h;split at h
  .rename_i l' u' h';simp only[j5,j9]at h;obtain⟨rfl,rfl⟩:=h;have ar:pJ S w e ⟨.list t,xs⟩ z:=ha.1;have bK:One z:=by obtain⟨t',ys,_,bb,_⟩:=ar;exact bb.one
   have oq:σ.bx n = .free:=ay _ (qu ..);simp only[jN]at bV hblk;obtain⟨aJ,hle⟩:=BL hR oq (v':=z) (b:= .lst e t xs false) (λg hg=>hblk g (by simp[hg])) (tC (cO _ _ _) ar);have fY:=yw h'
   obtain⟨γ',q1,q2,q3,q4,q5⟩:=BO aJ h' ha.2 (λx hx=>by
    have:=fY x hx;rw[bo σ _ (by omega)];exact ay x (by simp[hx])) (qo.1 bV).2.1 (λg hg=>by
    obtain⟨p1,p2⟩:=hblk g (by simp[hg]);refine⟨p1,λk b' al he=>?_⟩;by_cases hk:k=n
    .subst hk;rw[cO]at he;exact(qo.1 bV).2.2 g (by simp[he]) g hg rfl
    .rw[bo σ _ hk]at al;rw[di γ z hk]at he;exact p2 k b' al he)
   refine⟨γ',q1,λk hk=>?_,⟨aL.keep (.refl S w) q2 ⟨by rw[cV];simp,bK,λb _=>(cO γ n z).symm⟩,q3⟩,λy hy=>(jf.1 hy).elim (λe=>e▸bK) (q4 y),λk b g h1 h2=>?_⟩
   .obtain⟨a1,a2,a3⟩:=hle k hk;obtain⟨b1,b2,b3⟩:=q2 k a1;refine⟨b1,b2.trans a2,λb hb=>?_⟩;obtain⟨b',al,cW⟩:=b3 b hb;obtain⟨vz,l5,l6⟩:=a3 b' al;exact⟨vz,l5,l6.trans cW⟩
   .rcases q5 k b g h1 h2 with⟨b',al,he⟩|h3
    .by_cases hk:k=n
     .subst hk;rw[cO]at he;exact .inr (by simp[jN,he])
     .rw[bo σ _ hk]at al;rw[di γ z hk]at he;exact .inl ⟨b',al,he⟩
    .exact .inr (by simp[jN,h3])
  .simp at h
 |.own e ⟨.int _,xs⟩::r,_,n,l,u,_,_,_,h,_,_,_,_=>by simp[soL]at h
 |.own e ⟨.bool,xs⟩::r,_,n,l,u,_,_,_,h,_,_,_,_=>by simp[soL]at h
 |.own e ⟨.str,xs⟩::r,_,n,l,u,_,_,_,h,_,_,_,_=>by simp[soL]at h
 |.own e ⟨.unit,xs⟩::r,_,n,l,u,_,_,_,h,_,_,_,_=>by simp[soL]at h
 |.own e ⟨.wrap _,xs⟩::r,_,n,l,u,_,_,_,h,_,_,_,_=>by simp[soL]at h
 |.own e ⟨.pair _ _,xs⟩::r,_,n,l,u,_,_,_,h,_,_,_,_=>by simp[soL]at h
 |.own e ⟨.arr _ _,xs⟩::r,_,n,l,u,_,_,_,h,_,_,_,_=>by simp[soL]at h
 |[],_::_,_,_,_,_,_,_,_,ha,_,_,_=>ha.elim
 |.d _::_,[],_,_,_,_,_,_,_,ha,_,_,_=>ha.elim
 |.own _ ⟨.list _,_⟩::_,[],_,_,_,_,_,_,_,ha,_,_,_=>ha.elim
theorem GV:∀{rs:List RV}{vs:List Value}{n:Nat}{cs:List Cel}{un:Ups}{σ:St}{γ:Nat->Value},Rel N np S0 w0 refs σ a w S γ->o9 n rs=some (cs,un)->All2 (lg S w) rs vs->
  (∀x∈un,σ.bx x.1 = .free)->(dX rs vs).Nodup->(∀g∈dX rs vs,(Own w0 refs g/\refs.kw g=none)/\∀k b,σ.bx k = .live b->blk (γ k)≠some g)->
  ∃γ',Rel N np S0 w0 refs (σ.upd un) a w S γ'/\BxLe γ σ.bx γ' (σ.upd un).bx/\All2 (aQ S w γ' (σ.upd un).bx) cs vs
 |[],[],n,cs,un,σ,γ,hR,h,_,_,_,_=>by
  simp[o9]at h;obtain⟨rfl,rfl⟩:=h;exact⟨γ,hR,.refl _ _,trivial⟩
 |r::rs,u::us,n,cs,un,σ,γ,hR,h,ha,ay,bV,hblk=>by
  simp only[o9]at h;split at h
  .rename_i c u1 h1;split at h
   .rename_i BM u2 h2;simp only[j5,j9]at h;obtain⟨rfl,rfl⟩:=h
    have iM:∀(σ1:St)(γ1:Nat->Value),Rel N np S0 w0 refs σ1 a w S γ1->σ1=σ.upd u1->BxLe γ σ.bx γ1 σ1.bx->aQ S w γ1 σ1.bx c u->(∀x∈u2,σ1.bx x.1 = .free)->
      (dX rs us).Nodup->(∀g∈dX rs us,(Own w0 refs g/\refs.kw g=none)/\∀k b,σ1.bx k = .live b->blk (γ1 k)≠some g)->
      ∃γ',Rel N np S0 w0 refs (σ.upd (u1++u2)) a w S γ'/\BxLe γ σ.bx γ' (σ.upd (u1++u2)).bx/\All2 (aQ S w γ' (σ.upd (u1++u2)).bx) (c::BM) (u::us):=by
     intro σ1 γ1 aJ he hle hc hf hn hb;obtain⟨γ',q1,q2,q3⟩:=GV (σ:=σ1) (γ:=γ1) aJ h2 ha.2 hf hn hb;subst he;rw[fR];refine⟨γ',q1,?_,aQ.keep (.refl S w) q2 hc,q3⟩;intro k hk;obtain⟨a1,a2,a3⟩:=hle k hk;obtain⟨b1,b2,b3⟩:=q2 k a1;refine⟨b1,b2.trans a2,λb hb=>?_⟩;obtain⟨b',al,cW⟩:=b3 b hb;obtain⟨vz,l5,l6⟩:=a3 b' al;refine⟨vz,l5,?_⟩;exact l6.trans cW
    have fY:=GP h1;have iN:=GQ h2
    have cL:∀(v':Value)(b:Bx),gz r u=(blk v').toList->rvW r=1->u1=[(n,.live b)]->(∀bx',cJ S w (gset γ n v') bx' n b)->(∀bx',(bx' n = .live b)->aQ S w (gset γ n v') bx' c u)->
      ∃γ',Rel N np S0 w0 refs (σ.upd (u1++u2)) a w S γ'/\BxLe γ σ.bx γ' (σ.upd (u1++u2)).bx/\All2 (aQ S w γ' (σ.upd (u1++u2)).bx) (c::BM) (u::us):=by
     intro v' b eI BP vC bq iO;subst vC;rw[BP]at iN;have oq:σ.bx n = .free:=ay (n,.live b) (by simp);simp only[dX,eI]at bV hblk;obtain⟨aJ,hle⟩:=BL hR oq (v':=v') (b:=b) (λg hg=>hblk g (by simp[hg])) (bq _);refine iM _ _ aJ rfl hle (iO _ (cV _ _ _)) (λx hx=>?_) ?_ (λg hg=>?_)
     .have:=iN x hx;rw[bo σ _ (by omega)];exact ay x (by simp[hx])
     .exact(qo.1 bV).2.1
     .obtain⟨p1,p2⟩:=hblk g (by simp[hg]);refine⟨p1,λk b' al he=>?_⟩;by_cases hk:k=n
      .subst hk;rw[cO]at he;have:=(qo.1 bV).2.2 g (by simp[he]) g hg;exact this rfl
      .rw[bo σ _ hk]at al;rw[di γ v' hk]at he;exact p2 k b' al he
    unfold xR at h1;split at h1
    .rename_i x;simp only[j5,j9]at h1;obtain⟨rfl,rfl⟩:=h1;refine iM σ γ hR rfl (.refl _ _) (rJ ha.1) (λx hx=>ay x (by simp[hx])) ?_ ?_
     .simpa[dX,ix,gz]using bV
     .simpa[dX,ix,gz]using hblk
    .rename_i e el xs;simp only[j5,j9]at h1;obtain⟨rfl,rfl⟩:=h1;have ar:pJ S w e ⟨.list el,xs⟩ u:=ha.1;have bK:One u:=by obtain⟨t',ys,_,bb,_⟩:=ar;exact bb.one
     exact cL u _ rfl rfl rfl (λbx'=>tC (cO _ _ _) ar) (λbx' hb=>⟨⟨by rw[hb];simp,bK,λb _=>(cO γ n u).symm⟩,λ_=>bK⟩)
    .simp at h1
    .rename_i ls;simp only[j5,j9]at h1;obtain⟨rfl,rfl⟩:=h1;have vD:vA S w ls u:=ha.1;obtain⟨g,cur,e,hu,_⟩:=id vD;have bK:One u:=by rw[hu];rfl
     exact cL u _ rfl rfl rfl (λbx'=>BJ (cO _ _ _) vD) (λbx' hb=>⟨⟨by rw[hb];simp,bK,λb _=>⟨g,by rw[cO,hu],hu⟩⟩,λ_=>bK⟩)
    .simp at h1
    .rename_i x ns;have hv:VRep S w x u/\∀cs,u = .agg cs->∀i∈ns,∀z,cs.toList[i]? = some z->z = .slice none 0 0:=ha.1;have l7:aQ S w γ σ.bx (jD x.t x.v) u:=rJ hv.1
     have hc:aQ S w γ σ.bx c u/\u1=[]:=by
      split at h1
      .rename_i ls he;simp only[j5,j9]at h1;obtain⟨rfl,rfl⟩:=h1;rw[he]at l7;obtain⟨cs,hu,ah,bK⟩:=l7;exact⟨⟨cs,hu,GR 0 ah λi hi z _ hz=>hv.2 cs hu i hi z (by simpa using hz),bK⟩,rfl⟩
      .simp only[j5,j9]at h1;obtain⟨rfl,rfl⟩:=h1;exact⟨l7,rfl⟩
     obtain⟨hc,rfl⟩:=hc;refine iM σ γ hR rfl (.refl _ _) hc (λx hx=>ay x (by simp[hx])) ?_ ?_
     .simpa[dX,ix,gz]using bV
     .simpa[dX,ix,gz]using hblk
    .rename_i f caps;simp only[j5,j9]at h1;obtain⟨rfl,rfl⟩:=h1;obtain⟨cv,hu,ah⟩:∃cv:Array Value,u = .func (.func f) #[] cv/\All2 (gh S w) caps cv.toList:=ha.1;refine iM σ γ hR rfl (.refl _ _) ⟨⟨cv,hu,ah⟩,λ_=>by rw[hu];rfl⟩ (λx hx=>ay x (by simp[hx])) ?_ ?_
     .simpa[dX,ix,gz]using bV
     .simpa[dX,ix,gz]using hblk
    .rename_i ls;split at h1
     .rename_i l BH hl;simp only[j5,j9]at h1;obtain⟨rfl,rfl⟩:=h1;obtain⟨ni,hu,ah⟩:∃cs:Array Value,u = .agg cs/\All2 (yq S w) ls cs.toList:=ha.1;subst hu;have tD:gz (.so ls) (.agg ni)=jN ls ni.toList:=rfl;simp only[dX,tD]at bV hblk;obtain⟨γ1,q1,q2,q3,q4,q5⟩:=BO hR hl ah (λx hx=>ay x (by simp[hx])) (qo.1 bV).1 (λg hg=>hblk g (by simp[hg]));refine iM _ γ1 q1 rfl q2 ⟨ni,rfl,q3,q4⟩ (λx hx=>?_) (qo.1 bV).2.1 (λg hg=>?_)
      .have h2:=iN x hx;rw[gp BH σ]
       .exact ay x (by simp[hx])
       .rw[ku];intro y hy he;simp only[qw]at he;have:=fY y hy;omega
      .obtain⟨p1,p2⟩:=hblk g (by simp[hg]);refine⟨p1,λk b' al he=>?_⟩;rcases q5 k b' g al he with⟨b2,cA,MV⟩|h3
       .exact p2 k b2 cA MV
       .exact(qo.1 bV).2.2 g h3 g hg rfl
     .simp at h1
    .simp at h1
   .simp at h
  .simp at h
 |[],_::_,_,_,_,_,_,_,_,ha,_,_,_=>ha.elim
 |_::_,[],_,_,_,_,_,_,_,ha,_,_,_=>ha.elim
end
section
variable{N:NT}{np:Nat}{S0:aq}{w0:World}{refs:Refs}{σ:St}{a:Go.Act}{w:World}{S:aq}{γ:Nat->Value}
theorem BQ{S':aq}{w':World}:∀(cs:List Cap)(cv:List Value)(os:List Out),gA S' w' (cs.map jZ) cv os->os=[]
 |[],[],[],_=>rfl
 |[],[],_::_,h=>h.elim
 |[],_::_,_,h=>h.elim
 |c::cs,[],_,h=>by cases c<;>exact h.elim
 |.v _::cs,_::cv,os,h=>BQ cs cv os h
 |.p _::cs,_::cv,os,h=>BQ cs cv os h
theorem rL{S':aq}{w':World}{cs:List Cap}{cv:List Value}:∀{as:List Arg}{zs:List Value}{os:List Out},as.length=zs.length->
  gA S' w' (as++cs.map jZ) (zs++cv) os->gA S' w' as zs os
 |[],[],os,_,h=>by
  have:=BQ cs cv os h;subst this;trivial
 |.ref ls::as,u::us,.ref ys::os,hl,⟨h1,h2⟩=>⟨h1,rL (by simpa using hl) h2⟩
 |.rl e x::as,u::us,.rl y::os,hl,⟨h1,h2,h3⟩=>⟨h1,h2,rL (by simpa using hl) h3⟩
 |.v _::as,_::us,os,hl,h=>rL (as:=as) (zs:=us) (by simpa using hl) h
 |.ip _::as,_::us,os,hl,h=>rL (as:=as) (zs:=us) (by simpa using hl) h
 |.clo _ _::as,_::us,os,hl,h=>rL (as:=as) (zs:=us) (by simpa using hl) h
 |.mv _ _::as,_::us,os,hl,h=>rL (as:=as) (zs:=us) (by simpa using hl) h
 |[],_::_,_,hl,_=>by simp at hl
 |_::_,[],_,hl,_=>by simp at hl
 |.ref _::_,_::_,[],_,h=>h.elim
 |.ref _::_,_::_,.rl _::_,_,h=>h.elim
 |.rl _ _::_,_::_,[],_,h=>h.elim
 |.rl _ _::_,_::_,.ref _::_,_,h=>h.elim
theorem dT.congr{bx bx':Nat->BS}:∀{as:List Arg}{us:List Value}{fs:List Bk},(∀f∈fs,bx' f.name=bx f.name)->dT bx γ as us fs->dT bx' γ as us fs
 |[],[],[],_,_=>trivial
 |.ref ls::as,u::us,.ref k::fs,hc,⟨h1,⟨ew,h2⟩,h3⟩=>
  ⟨h1,⟨ew,(hc (.ref k) (by simp)).trans h2⟩,dT.congr (λf hf=>hc f (by simp[hf])) h3⟩
 |.rl e x::as,u::us,.rl k e' t::fs,hc,⟨h0,h1,⟨xs,h2,hx⟩,h3⟩=>
  ⟨h0,h1,⟨xs,(hc (.rl k e' t) (by simp)).trans h2,hx⟩,dT.congr (λf hf=>hc f (by simp[hf])) h3⟩
 |.mv e x::as,u::us,.mv k e' t::fs,hc,⟨h0,h1,⟨xs,h2,hx⟩,h3⟩=>
  ⟨h0,h1,⟨xs,(hc (.mv k e' t) (by simp)).trans h2,hx⟩,dT.congr (λf hf=>hc f (by simp[hf])) h3⟩
 |.v _::as,_::us,fs,hc,h=>dT.congr (as:=as) (us:=us) hc h
 |.ip _::as,_::us,fs,hc,h=>dT.congr (as:=as) (us:=us) hc h
 |.clo _ _::as,_::us,fs,hc,h=>dT.congr (as:=as) (us:=us) hc h
theorem tE{S1 S':aq}{w':World}(dA:∀g o,S g o->S' g o):∀{as:List Arg}{zs:List Value}{os:List Out},os.all Out.flat=true->gA S' w' as zs os->gA S w' as zs os
 |[],[],[],_,_=>trivial
 |.ref ls::as,u::us,.ref ys::os,hf,⟨⟨g,cur,e,h1,h2,h3,h4⟩,h5⟩=>by
  simp only[qx,jb,Out.flat]at hf;refine⟨⟨g,cur,e,h1,h2,?_,λo hs=>h4 o (dA g o hs)⟩,tE (S1:=S1) dA hf.2 h5⟩;have hl:=hf.1;clear h1 h2 hf h4 h5;generalize cur.toList.take ys.length=l at h3;induction ys generalizing l with
  |nil=>cases l with|nil=>trivial|cons _ _=>exact h3.elim
  |cons y ys ih=>
   cases l with
   |nil=>exact h3.elim
   |cons z l=>simp only[qx,jb]at hl;exact⟨om _ _ _ hl.1 h3.1,ih hl.2 l h3.2⟩
 |.rl e x::as,u::us,.rl y::os,hf,⟨⟨t,xs,h1,_⟩,_,_⟩=>by
  simp only[qx,jb,Out.flat,h1,Ty.flat]at hf;exact absurd hf.1 (by simp)
 |.v _::as,_::us,os,hf,h=>tE (S1:=S1) (as:=as) (zs:=us) dA hf h
 |.ip _::as,_::us,os,hf,h=>tE (S1:=S1) (as:=as) (zs:=us) dA hf h
 |.clo _ _::as,_::us,os,hf,h=>tE (S1:=S1) (as:=as) (zs:=us) dA hf h
 |.mv _ _::as,_::us,os,hf,h=>tE (S1:=S1) (as:=as) (zs:=us) dA hf h
theorem MW{S S':aq}{w:World}{e:Nat}{a:Ty}{xs:List a.den}{u:Value}(hf:a.flat=true)(h:lH S' w e a xs u):lH S w e a xs u:=by
 rcases h with⟨hm,css,h1,h2⟩|⟨hm,h1⟩
 .exact .inl ⟨hm,css,h1,h2.mono λx c hx=>om _ _ _ hf hx⟩
 .refine .inr ⟨hm,?_⟩;revert hf h1;cases a with
  |pair k b=>intro hf h1;simp only[Ty.flat,jb]at hf;obtain⟨g,es,clock,hu,hh,ha,hq⟩:=h1;exact⟨g,es,clock,hu,hh,ha.mono λx e hx=>⟨om _ _ _ hf.1 hx.1,om _ _ _ hf.2 hx.2.1,hx.2.2⟩,hq⟩
  |_=>intro _ h1;exact h1.elim
theorem GW{S':aq}{w':World}(dA:∀g o,S g o->S' g o):∀{rs:List RV}{vs:List Value},rs.all RV.flat=true->All2 (lg S' w') rs vs->All2 (lg S w') rs vs
 |[],[],_,_=>trivial
 |r::rs,v::vs,hf,h=>by
  simp only[qx,jb]at hf;have i1:=GW dA hf.2 h.2;cases r with
  |v x=>obtain⟨h1,h2,h3⟩:=h.1;exact⟨⟨om _ _ _ hf.1 h1,h2,h3⟩,i1⟩
  |own e x=>obtain⟨a,xs,rfl,h1,h2⟩:=h.1;exact⟨⟨a,xs,rfl,MW hf.1 h1,λg hg o hs=>h2 g hg o (dA g o hs)⟩,i1⟩
  |so ls=>simp[RV.flat]at hf
  |box ls=>simp[RV.flat]at hf
  |hd n=>simp[RV.flat]at hf
  |vn x ns=>simp[RV.flat]at hf
  |clo f cs=>simp[RV.flat]at hf
  |raw ns s=>simp[RV.flat]at hf
 |[],_::_,_,h=>h.elim
 |_::_,[],_,h=>h.elim
theorem MX{rd:Nat->BS}(au:RdOk σ rd){un:Ups}(h:un.all (λe=>ee (rd e.1))=true):∀x∈un,σ.bx x.1 = .free:=
 λx hx=>au.free (ji.1 h x hx)
theorem All2.len{α β:Type}{R:α->β->Prop}{as:List α}{bs:List β}(h:All2 R as bs):as.length=bs.length:=h.length
theorem GX{γ':Nat->Value}{bx:Nat->BS}{S':aq}{w':World}{MY:Nat->Value}{cs:List Cel}{vs:List Value}(h:All2 (aQ S' w' γ' bx) cs vs) :
  fh S' w' γ' bx MY (uE cs) (gZ vs):=by
 match cs,vs,h with
 |[c],[v],h=>exact h.1
 |[],[],h=>exact⟨#[],rfl,trivial⟩
 |c::c'::cs,v::v'::vs,h=>exact⟨(v::v'::vs).toArray,rfl,by simpa using h⟩
 |[c],v::v'::vs,h=>exact h.2.elim
 |c::c'::cs,[v],h=>exact h.2.elim
 |[],v::vs,h=>exact h.elim
 |c::cs,[],h=>exact h.elim
theorem yx{bx:Nat->BS}{k e:Nat}{t:Ty}:∀{as:List Arg}{us:List Value}{fs:List Bk},dT bx γ as us (.rl k e t::fs)->∀(bs:List Arg)(vs:List Value),yr (as++bs) (us++vs)=some (γ k)
 |.rl e x::as,u::us,fs,⟨_,h1,_,_⟩,bs,vs=>by rw[<-h1];rfl
 |.v _::as,_::us,fs,h,bs,vs=>yx (as:=as) (us:=us) (fs:=fs) h bs vs
 |.ip _::as,_::us,fs,h,bs,vs=>yx (as:=as) (us:=us) (fs:=fs) h bs vs
 |.clo _ _::as,_::us,fs,h,bs,vs=>yx (as:=as) (us:=us) (fs:=fs) h bs vs
 |[],[],fs,h,_,_=>h.elim
 |.ref _::as,_::us,fs,h,_,_=>h.elim
 |.mv _ _::as,_::us,fs,h,_,_=>h.elim
 |[],_::_,fs,h,_,_=>h.elim
 |_::_,[],fs,h,_,_=>by cases ‹Arg› <;> exact h.elim
theorem GY{α β:Type}:∀(l:List α)(l':List β),List.Sublist ((l.zip l').map (·.1)) l
 |[],_=>by simp
 |_::_,[]=>by simp
 |x::l,y::l'=>by simpa using GY l l'
theorem GZ:∀(as:List Arg)(us:List Value)(bs:List Arg)(vs:List Value),as.length=us.length->mvOf (as++bs) (us++vs)=mvOf as us++mvOf bs vs
 |[],[],bs,vs,_=>rfl
 |a::as,u::us,bs,vs,h=>by
  have ih:=GZ as us bs vs (by simpa using h);cases a<;>simp[mvOf,ih]
 |[],_::_,_,_,h=>by simp at h
 |_::_,[],_,_,h=>by simp at h
theorem G0:∀(cs:List Cap)(zs:List Value),mvOf (cs.map jZ) zs=[]
 |[],_=>by cases ‹List Value› <;> rfl
 |c::cs,[]=>by cases c<;>rfl
 |c::cs,z::zs=>by cases c<;>simp[mvOf,jZ,G0 cs zs]
theorem yy:∀{fs:List Bk}{os:List Out}{uo:Ups}{f:Bk},gQ fs os=some uo->f∈fs->f.isMv=true->(f.name,BS.gone)∈uo
 |[],os,uo,f,_,hf,_=>by simp at hf
 |.mv k e a::fs,os,uo,f,h,hf,hm=>by
  simp only[gQ]at h;split at h
  .rename_i u' cE;simp only[j5]at h;subst h;rcases jf.1 hf with rfl|hf
   .exact qu
   .exact qv _ (yy cE hf hm)
  .simp at h
 |.ref k::fs,[],uo,f,h,hf,hm=>by simp[gQ]at h
 |.rl k e a::fs,[],uo,f,h,hf,hm=>by simp[gQ]at h
 |.ref k::fs,o::os,uo,f,h,hf,hm=>by
  simp only[gQ]at h;split at h
  .split at h
   .rename_i u' cE;simp only[j5]at h;subst h;rcases jf.1 hf with rfl|hf
    .simp[Bk.isMv]at hm
    .exact qv _ (yy cE hf hm)
   .simp at h
  .simp at h
 |.rl k e a::fs,o::os,uo,f,h,hf,hm=>by
  simp only[gQ]at h;split at h
  .split at h
   .rename_i u' cE;simp only[j5]at h;subst h;rcases jf.1 hf with rfl|hf
    .simp[Bk.isMv]at hm
    .exact qv _ (yy cE hf hm)
   .simp at h
  .simp at h
theorem G1{P:Program}(hR:Rel N np S0 w0 refs σ a w S γ){rw rd rdf:Nat->BS}(e8:RdR σ rw)(au:RdOk σ rd)(aF:RdF np σ rdf){T:Nat->Option TyI}{ts:List Nat}{ms:List Bool}{cs:List Cel}{as:List Arg}{us:Ups}{fs:List Bk}{zs:List Value}
  {mv:Bool}(h:jY rw rdf T mv ts ms cs=some (as,us,fs))(ha:All2 (aQ S w γ σ.bx) cs zs)(aM:bkOk us fs=true)
  {caps:List Cap}{cv:List Value}(fA:All2 (gh S w) caps cv){g:Nat}{K:Ret->Prop}
  (cj:yu P g (as++caps.map jZ) K)(n:Nat) :
  Calls P g (zs++cv).toArray w λe w'=>∃ret,K ret/\∀s u,nK rd rdf n us fs ret=some (s,u)->∃v S' γ',e = .returned v/\Rel N np S0 w0 refs (σ.upd u) a w' S' γ'/\fh S' w' γ' (σ.upd u).bx (tm a) s v:=by
 obtain⟨dV,bD,lM⟩:=GH hR e8 aF h ha;simp only[bkOk,jb]at aM;obtain⟨bV,rM⟩:=aM;have bV:=rH bV
 have hlen:as.length=zs.length:=by
  have:∀{as:List Arg}{us:List Value}{fs:List Bk},dT σ.bx γ as us fs->as.length=us.length:=by
   intro as;induction as with
   |nil=>intro us fs hh;cases us with|nil=>rfl|cons _ _=>exact hh.elim
   |cons a as ih=>
    intro us fs hh;cases us with
    |nil=>cases a<;>exact hh.elim
    |cons u us=>
     cases a with
     |v x=>have:=ih (us:=us) (fs:=fs) hh;simp[this]
     |ip x=>have:=ih (us:=us) (fs:=fs) hh;simp[this]
     |clo x y=>have:=ih (us:=us) (fs:=fs) hh;simp[this]
     |ref ls=>match fs,hh with|.ref k::fs,⟨_,_,h3⟩=>have:=ih h3;simp[this]
     |rl e x=>match fs,hh with|.rl k e' t::fs,⟨_,_,_,h3⟩=>have:=ih h3;simp[this]
     |mv e x=>match fs,hh with|.mv k e' t::fs,⟨_,_,_,h3⟩=>have:=ih h3;simp[this]
  exact this bD
 obtain⟨S1,aJ,bB,eA,cd⟩:=jH us σ S hR dV;have vE:∀k,k∈fs.map Bk.name->us.any (λy=>y.1==k)=false:=by intro k hk;rw[ku];intro x hx he;have:=ji.1 rM x hx;simp only[qw]at he;subst he;simp only[kf,kg,k7]at this;exact this hk
 have l8:∀f∈fs,(σ.upd us).bx f.name=σ.bx f.name:=λf hf=>gp us σ (vE _ (List.mem_map_of_mem hf));have ot:=bD.congr l8
 have kJ:∀k b,fs.any (λy=>y.name==k)=true->σ.bx k = .live b->∀g,blk (γ k)=some g->∀o,¬S1 g o:=by
  intro k b hk hb g hg o;obtain⟨f,hf,he⟩:=List.any_eq_true.1 hk;have he:f.name=k:=by simpa using he
  subst he;have bR:(σ.upd us).bx f.name = .live b:=(l8 f hf).trans hb;have bq:=aJ.box f.name b bR
  have hZ:(∃ew,b = .cell ew false)\/(∃e t xs,b = .lst e t xs false):=by
   have:∀{as:List Arg}{us:List Value}{fs:List Bk},dT σ.bx γ as us fs->f∈fs->(∃ew,σ.bx f.name = .live (.cell ew false))\/(∃e t xs,σ.bx f.name = .live (.lst e t xs false)):=by
    intro as;induction as with
    |nil=>intro us fs hh hm;match us,fs,hh with|[],[],_=>simp at hm
    |cons a as ih=>
     intro us fs hh hm;cases us with
     |nil=>cases a<;>exact hh.elim
     |cons u us=>
      cases a with
      |v x=>exact ih (us:=us) (fs:=fs) hh hm
      |ip x=>exact ih (us:=us) (fs:=fs) hh hm
      |clo x y=>exact ih (us:=us) (fs:=fs) hh hm
      |ref ls=>
       match fs,hh with
       |.ref k::fs,⟨_,⟨ew,h2⟩,h3⟩=>
        rcases jf.1 hm with rfl|hm
        .exact .inl ⟨ew,h2⟩
        .exact ih h3 hm
      |rl e x=>
       match fs,hh with
       |.rl k e' t::fs,⟨_,_,⟨xs,h2,_⟩,h3⟩=>
        rcases jf.1 hm with rfl|hm
        .exact .inr ⟨_,t,xs,h2⟩
        .exact ih h3 hm
      |mv e x=>
       match fs,hh with
       |.mv k e' t::fs,⟨_,_,⟨xs,h2,_⟩,h3⟩=>
        rcases jf.1 hm with rfl|hm
        .exact .inr ⟨_,t,xs,h2⟩
        .exact ih h3 hm
   rcases this bD hf with⟨ew,h2⟩|⟨e,t,xs,h2⟩
   .rw[hb]at h2;simp at h2;exact .inl ⟨ew,h2⟩
   .rw[hb]at h2;simp at h2;exact .inr ⟨e,t,xs,h2⟩
  rcases hZ with⟨ew,rfl⟩|⟨e,t,xs,rfl⟩
  .obtain⟨g',cur,e,af,_,_,_,hS,_⟩:=bq;rw[af]at hg;simp[blk]at hg;subst hg;exact hS rfl o
  .exact(bq.2 g hg).1 rfl o
 have bu:All2 (jM S1 w) as zs:=lM S1 bB eA kJ;have vF:All2 (jM S1 w) (caps.map jZ) cv:=GJ (fA.mono (λx z hx=>gh.keep bB hx));have hrefs:cu (as++caps.map jZ) (zs++cv)=cu as zs:=by rw[GL _ _ _ _ hlen,GK,kz]
 have ou:(cu as zs).Nodup:=by rw[pK bD];have:=BI hR bV (λk hk=>by obtain⟨f,hf,rfl⟩:=jy.1 hk;exact nh bD f hf);rwa[List.filterMap_map]at this
 refine(cj w S1 (zs++cv) (bu.append vF) (by rw[hrefs];exact ou) aJ.here).mono ?_
 rintro e w' ⟨ret,hK,v,S',vs,rfl,aU⟩
 refine⟨ret,hK,λs u aC=>?_⟩;obtain⟨ct,aG,l9,rN,ck,e9,cL,hP,dp,dY,kH,hY,cN,rK,ma⟩:=aU;rw[hrefs]at dp;have BR:mvOf (as++caps.map jZ) (zs++cv)=mvOf as zs:=by rw[GZ _ _ _ _ hlen,G0,kz]
 rw[BR]at l9 cL;have fy:∀f∈fs,f.isMv=true->parK np f.name=false:=GN aF h;have ck:=rL hlen ck;refine⟨v,?_⟩;unfold nK at aC;split at aC
 ·-- the list BT first,cut short
  rename_i m tF;unfold mkHd at aC;generalize dB:ret.outs=ro at aC ck;split at aC
  .rename_i k e el GI y pO _;split at aC
   .rename_i uo ys mb gY;split at aC
    .rename_i aT;simp only[jb]at aT;simp only[j5,j9]at aC;obtain⟨rfl,rfl⟩:=aC;have bc:=BK aJ e9 cL hP (λ_ h=>h) fy ot bV mb ck dp dY kH hY cN;obtain⟨fX,jO⟩:=oo aJ ot mb ck;have lP:(uo.map (·.1)).Nodup:=by rw[fX];exact bV
     have BU:(k,BS.live (.lst e el ys false))∈uo:=by
      simp only[gQ,xQ,gY]at mb;split at mb
      .simp only[j5]at mb;rw[<-mb];exact qu
      .simp at mb
     have dj:=pM uo (σ.upd us) lP BU;obtain⟨bl,tD⟩:=uZ aT.2;have jK:=aF.par tD;have h0:=au.free aT.1;have h1:(σ.upd us).bx n = .free:=cd.free h0;have iP:((σ.upd us).upd uo).bx n = .free:=by rw[gp uo,h1];rw[ku];intro y hy he;simp only[qw]at he;obtain⟨b0,h2,_⟩:=jO y hy;rw[he,h1]at h2;simp at h2
     obtain⟨ad,len,cap,fQ,hml,eP⟩:=ma m tF;have rO:γ k = .slice ad len cap:=by have:=yx bD (caps.map jZ) cv;rw[fQ]at this;simpa using this.symm
     have jL:len=ys.length:=by
      obtain⟨css,ar,_⟩:=x6 rO (bc.box k _ dj);rcases ar.2 with⟨af,hn⟩|⟨g,dW,cur,af,_⟩
      .rw[rO]at af;simp only[Value.slice.injEq]at af;omega
      .rw[rO]at af;simp only[Value.slice.injEq]at af;omega
     obtain⟨γ',bL,eZ⟩:=MJ bc dj jK iP (m:=m) (by omega) (by rw[rO,jL]);refine⟨S',γ',rfl,by rw[fR,fR];exact bL,?_⟩;rw[ct,eP,fR,fR];exact eZ
    .simp at aC
   .simp at aC
  .simp at aC
 ·-- the results as BV lie
  rename_i ns sn tF;unfold uF at aC;generalize dB:ret.outs=ro at aC ck;split at aC
  case h_2=>simp at aC
  split at aC
  case isFalse=>simp at aC
  rename_i aT;simp only[jb]at aT;simp only[j5,j9]at aC;obtain⟨rfl,rfl⟩:=aC;have bc:=BK aJ e9 cL hP (λ_ h=>h) fy ot bV (uo:=[]) rfl ck dp dY kH hY cN;have dA:∀x∈rawU ns sn,x.1∈ns:=λx hx=>(List.of_mem_zip hx).1
  obtain⟨γ',e7,zs',eI,bP⟩:=MT (h0:=w.heap.size) bc hR.grow (λk b g hb hg=>fm (aJ.box k b hb) hg) (λg hg=>hR.kw_new hg) (rK ns sn tF)
   (λx hx=>cd.free (au.free (ji.1 aT.2 x.1 (dA x hx)))) (by
    exact List.Nodup.sublist (GY _ _) (rH aT.1))
  refine⟨S',γ',rfl,by rw[fR];exact e7,?_⟩;rw[eI,fR];exact GX bP
 split at aC
 .rename_i uo mb;split at aC
  .rename_i ni un fB;split at aC
   .rename_i ay;have ay:=MX au ay
    have dN:∀(gB:Ups)(Sx Sy:aq),(gB=us\/gB=[])->Rel N np S0 w0 refs (σ.upd gB) a w Sx γ->bY Sx w Sy w'->(∀g o,Sy g o->Sx g o\/w.heap.size<=g\/g∈mvOf as zs)->(∀g o,Sy g o->g<w'.heap.size)->
      gA Sy w' as zs ret.outs->All2 (lg Sy w') ret.vals vs->
      ∃S' γ',Rel N np S0 w0 refs (σ.upd (gB++uo++un)) a w' S' γ'/\All2 (aQ S' w' γ' (σ.upd (gB++uo++un)).bx) ni vs:=by
     intro gB Sx Sy ov ow BW vG rP pP vH
     have ox:dT (σ.upd gB).bx γ as zs fs:=by
      rcases ov with rfl|rfl
      .exact ot
      .exact bD
     have bc:=BK ow BW vG rP (λ_ h=>h) fy ox bV mb pP dp dY kH hY cN;obtain⟨fX,jO⟩:=oo ow ox mb pP
     have mc:∀k b,((σ.upd gB).upd uo).bx k = .live b->∃b',(σ.upd gB).bx k = .live b':=by
      intro k b hb;by_cases hk:uo.any (λy=>y.1==k)=true
      .obtain⟨x,hx,he⟩:=List.any_eq_true.1 hk;have he:x.1=k:=by simpa using he
       subst he;obtain⟨b0,h0,_⟩:=jO x hx;exact⟨b0,h0⟩
      .rw[gp uo _ (qd.2 hk)]at hb;exact⟨b,hb⟩
     have iP:∀x∈un,((σ.upd gB).upd uo).bx x.1 = .free:=by
      intro x hx;have h0:=ay x hx
      have h1:(σ.upd gB).bx x.1 = .free:=by
       rcases ov with rfl|rfl
       .exact cd.free h0
       .exact h0
      rw[gp uo,h1];rw[ku];intro y hy he;simp only[qw]at he;obtain⟨b0,h2,_⟩:=jO y hy;rw[he,h1]at h2;simp at h2
     obtain⟨γ',e7,_,iO⟩:=GV bc fB vH iP rN (λg hg=>by
      rcases l9 g hg with la|M0
      .refine⟨⟨.inl (ko hR.grow la),hR.kw_new la⟩,λk b hb he=>?_⟩;obtain⟨b',al⟩:=mc k b hb;have:=fm (ow.box k b' al) he;omega
      .obtain⟨f,hf,yv,kI⟩:=pL ox M0;obtain⟨bf,tG⟩:=nh ox f hf;refine⟨⟨?_,ow.kw_live tG kI⟩,λk b hb he=>?_⟩
       .rcases ow.own f.name bf g tG kI with h|h
        .exact h
        .rw[fy f hf yv]at h;simp at h
       .obtain⟨b',al⟩:=mc k b hb
        have M1:k≠f.name:=by
         rintro rfl
         have vI:=yy mb hf yv;rw[pM uo (σ.upd gB) (by rw[fX];exact bV) vI]at hb;simp at hb
        exact ow.apart k f.name b' bf g M1 al tG he kI)
     refine⟨Sy,γ',?_,?_⟩
     .rw[fR,fR];exact e7
     .rw[fR,fR];exact iO
    have bt:∃gB,(gB=us\/gB=[])/\gB=(if ret.vals.all RV.flat&&ret.outs.all Out.flat then [] else us)/\
      ∃S' γ',Rel N np S0 w0 refs (σ.upd (gB++uo++un)) a w' S' γ'/\All2 (aQ S' w' γ' (σ.upd (gB++uo++un)).bx) ni vs:=by
     by_cases h9:(ret.vals.all RV.flat&&ret.outs.all Out.flat)=true
     .refine⟨[],.inr rfl,by rw[if_pos h9],?_⟩;obtain⟨kE,nY⟩:=Bool.and_eq_true_iff.1 h9;have dA:∀g o,S g o->S' g o:=λg o hs=>(e9 g o (bB g o hs).1).1
      refine dN [] S S (.inr rfl) hR (λg o hs=>⟨hs,(e9 g o (bB g o hs).1).2⟩) (λg o hs=> .inl hs) (λg o hs=>q7 (hR.here g o hs) dY)
       (tE (S1:=S1) dA nY ck) (GW dA kE aG)
     .exact⟨us,.inl rfl,by rw[if_neg h9],dN us S1 S' (.inl rfl) aJ e9 cL hP ck aG⟩
    obtain⟨gB,_,ov,S2,γ2,bc,pQ⟩:=bt
    have hs:s=uE ni/\u=(if ret.vals.all RV.flat&&ret.outs.all Out.flat then [] else us)++uo++un:=by
     clear pQ dN bc fB;revert aC;match ni with
     |[c]=>simp only[j5,j9];rintro⟨rfl,rfl⟩;exact⟨rfl,rfl⟩
     |[]=>simp only[j5,j9];rintro⟨rfl,rfl⟩;exact⟨rfl,rfl⟩
     |c::c'::r=>simp only[j5,j9];rintro⟨rfl,rfl⟩;exact⟨rfl,rfl⟩
    obtain⟨rfl,rfl⟩:=hs;rw[<-ov];exact⟨S2,γ2,rfl,bc,by rw[ct];exact GX pQ⟩
   .simp at aC
  .simp at aC
 .simp at aC
theorem vJ{P:Program}{f:Nat}(hf:Fun P f){o:Oper}{cl:Call}(ho:o.op = .call cl){x:Operand}(hc:cl.callee = .value x){cv:Array Value}(hx:a.eval x = .func (.func f) #[] cv) :
  (execOp a.eval o).run P w = .ok (.enter f (cl.args.map a.eval++cv)) w:=by
 obtain⟨fn,h1,h2,h3⟩:=hf;have gn:¬fn.body=none:=λhn=>by rw[hn]at h2;simp at h2
 have pR : ¬ fn.name = "runtime.NumGoroutine" := by simpa using h3
 simp[execOp,ho,resolve,hc,Deferred.ofValue,hx,invoke,callFunc,h1,gn,pR]
end
section
variable{N:NT}{np:Nat}{S0:aq}{w0:World}{refs:Refs}{σ:St}{a:Go.Act}{w:World}{S:aq}{γ:Nat->Value}
def keyV:(k:Ty)->k.den->Value
 |.int q,n=> .int q n
 |.str,s=> .string s
 |_,_=>undef
theorem tH:∀{k:Ty}{x:k.den}{u:Value},k.isKey=true->(Rep S w k x [u]↔u=keyV k x)
 |.int q,x,u,_=>by simp[Rep,keyV]
 |.str,x,u,_=>by simp[Rep,keyV]
 |.bool,_,_,h=>by simp[Ty.isKey]at h
 |.unit,_,_,h=>by simp[Ty.isKey]at h
 |.wrap _,_,_,h=>by simp[Ty.isKey]at h
 |.pair _ _,_,_,h=>by simp[Ty.isKey]at h
 |.list _,_,_,h=>by simp[Ty.isKey]at h
 |.arr _ _,_,_,h=>by simp[Ty.isKey]at h
def keyD:Ty->TypeDesc
 |.int q=> .int q
 |_=> .string
theorem M3{P:Program}{T:Nat->Option TyI}(hT:bk P T){n:Nat}{ti:TyI}(hn:T n=some ti){k:Ty}(aD:ti.ty=some k)(hk:k.isKey=true):P.underlying n=some (keyD k):=by
 cases k with
 |int q=>exact AY hT hn aD
 |str=>exact Bh hT hn aD
 |_=>simp[Ty.isKey]at hk
theorem G2{k:Ty}(hk:k.isKey=true)(x:k.den):MapKept.IsKey (keyD k) (keyV k x):=by
 cases k with
 |int q=>rfl
 |str=>trivial
 |_=>simp[Ty.isKey]at hk
theorem BX{k:Ty}(hk:k.isKey=true)(x y:k.den):Instr.sameNow (keyD k) (keyV k x) (keyV k y)=some (@BEq.beq _ k.keq x y):=by
 cases k with
 |int q=>simp[keyD,keyV,Instr.sameNow]
 |str=>simp[keyD,keyV,Instr.sameNow]
 |_=>simp[Ty.isKey]at hk
theorem M4{k:Ty}(hk:k.isKey=true){x y:k.den}(h:@BEq.beq _ k.keq x y=true):x=y:=by
 cases k with
 |int q=>simpa[Ty.keq]using h
 |str=>exact(MapKept.bytes_beq x y).1 h
 |_=>simp[Ty.isKey]at hk
theorem G3{k:Ty}(hk:k.isKey=true)(x:k.den):Instr.sameBits 10000 (keyV k x) (keyV k x)=true:=by
 cases k with
 |int q=>simp[keyV,Instr.sameBits]
 |str=>simp only[keyV,Instr.sameBits];exact(MapKept.bytes_beq x x).2 rfl
 |_=>simp[Ty.isKey]at hk
def rQ(S:aq)(w:World)(k v:Ty)(x:k.den×v.den)(e:MapEntry):Prop:=Rep S w k x.1 [e.key]/\VRep S w ⟨v,x.2⟩ e.val
theorem BZ{k v:Ty}(hk:k.isKey=true)(q:k.den):∀{xs:List (k.den×v.den)}{es:List MapEntry},All2 (rQ S w k v) xs es->∀i:Nat,
  (@mU _ _ k.keq xs q=true/\∃j e,Instr.findNow (keyD k) (keyV k q) es i=some (some (i+j,e.val))/\es[j]? = some e/\e.key=keyV k q/\VRep S w ⟨v,@nD _ _ k.keq v.dflt xs q⟩ e.val/\
   ∀(z:v.den)(e':MapEntry),e'.key=keyV k q->VRep S w ⟨v,z⟩ e'.val->All2 (rQ S w k v) (@gH _ _ k.keq xs q z) (es.set j e'))\/
  (@mU _ _ k.keq xs q=false/\Instr.findNow (keyD k) (keyV k q) es i=some none/\@nD _ _ k.keq v.dflt xs q=v.dflt/\∀z,@gH _ _ k.keq xs q z=xs++[(q,z)])
 |[],[],_,i=> .inr ⟨rfl,rfl,rfl,λ_=>rfl⟩
 |x::xs,e::es,h,i=>by
  have nj:e.key=keyV k x.1:=(tH hk).1 h.1.1;have hs:=BX hk q x.1;rw[<-nj]at hs;cases hb:@BEq.beq _ k.keq q x.1 with
  |true=>
   rw[hb]at hs;have M5:=M4 hk hb;refine .inl ⟨by simp[mU,hb],0,e,by simp[Instr.findNow,hs],rfl,by rw[nj,M5],?_,λz e' h1 h2=>?_⟩
   .simp only[nD,hb,j6];exact h.1.2
   .simp only[gH,hb,j6,List.set_cons_zero];exact⟨⟨(tH hk).2 h1,h2⟩,h.2⟩
  |false=>
   rw[hb]at hs;rcases BZ hk q h.2 (i+1) with⟨h1,j,e',h2,h3,h4,h5,h6⟩|⟨h1,h2,h3,h4⟩
   .refine .inl ⟨by simp only[mU,List.any_cons,hb,Bool.false_or];exact h1,j+1,e',by simp only[Instr.findNow,hs,h2];congr 3;omega,by simpa using h3,h4,?_,λz e2 g1 g2=>?_⟩
    .simp only[nD,hb,j7];exact h5
    .simp only[gH,hb,j7,List.set_cons_succ];exact⟨h.1,h6 z e2 g1 g2⟩
   .refine .inr ⟨by simp only[mU,List.any_cons,hb,Bool.false_or];exact h1,by simp only[Instr.findNow,hs,h2],?_,λz=>?_⟩
    .simp only[nD,hb,j7];exact h3
    .simp only[gH,hb,j7,h4 z];rfl
 |[],_::_,h,_=>h.elim
 |_::_,[],h,_=>h.elim
theorem G4{k v:Ty}(hk:k.isKey=true){q:k.den}:∀{xs:List (k.den×v.den)}{es:List MapEntry},All2 (rQ S w k v) xs es->@mU _ _ k.keq xs q=false->∀e∈es,e.key≠keyV k q
 |[],[],_,_=>by simp
 |x::xs,e::es,h,hn=>by
  simp only[mU,List.any_cons,Bool.or_eq_false_iff]at hn;intro e' tI;rcases jf.1 tI with rfl|tI
  .intro hq;have nj:=(tH hk).1 h.1.1;have hs:=BX hk q x.1;rw[<-nj,hq,BX hk q q,hn.1]at hs;simp only[j5]at hs;have:=G3 hk q;cases k with
   |int z=>simp at hs
   |str=>have:=(MapKept.bytes_beq q q).2 rfl;exact absurd (hs.symm.trans this) (by simp)
   |_=>simp[Ty.isKey]at hk
  .exact G4 hk h.2 hn.2 e' tI
 |[],_::_,h,_=>h.elim
 |_::_,[],h,_=>h.elim
theorem B0{P:Program}{T:Nat->Option TyI}(hT:bk P T){t:Nat}{k v:Ty}(h:lE T t=some (k,v)) :
  ∃kt vt tv,P.underlying t=some (.map kt vt)/\P.underlying kt=some (keyD k)/\k.isKey=true/\T vt=some tv/\tv.ty=some v:=by
 unfold lE at h;split at h
 .rename_i ti pr;split at h
  .rename_i k0 v0 M6;split at h
   .rename_i tk tv tJ yz;split at h
    .rename_i k1 v1 b9 B1;split at h
     .rename_i kK;simp only[j5,j9]at h;obtain⟨rfl,rfl⟩:=h;exact⟨k0,v0,tv,LC hT pr M6,M3 hT tJ b9 kK,kK,yz,B1⟩
     .simp at h
    .simp at h
   .simp at h
  .simp at h
 .simp at h
theorem G5{rw:Nat->BS}(e8:RdR σ rw){t:Nat}{k v:Ty}{x y:Leaf}{b:Nat}{ys:List (k.den×v.den)}{q:k.den}(h:mapC rw t k v x y=some (b,ys,q)) :
  x = .ol b/\y = .d k q/\σ.bx b = .live (.lst (4294967296+t) (.pair k v) ys false):=by
 unfold mapC at h;split at h
 .rename_i b0 tk key;split at h
  .rename_i e a0 xs hb;split at h
   .rename_i he;split at h
    .rename_i AG q' h1 h2;simp only[j5,j9]at h;obtain⟨rfl,rfl,rfl⟩:=h;have e1:=gU h1;have e2:=gU h2;cases e1;cases e2;subst he;exact⟨rfl,rfl,e8.live hb⟩
    .simp at h
   .simp at h
  .simp at h
 .simp at h
theorem vK(t:Nat):isM (4294967296+t)=true:=by
 unfold isM;rw[Nat.ble_eq];exact Nat.le_add_right _ _
theorem G6(hR:Rel N np S0 w0 refs σ a w S γ){b t:Nat}{k v:Ty}{ys:List (k.den×v.den)}{f:Bool}(hb:σ.bx b = .live (.lst (4294967296+t) (.pair k v) ys f)) :
  ∃g es clock,γ b = .map (some g)/\w.heap[g]? = some (.map es clock)/\All2 (rQ S w k v) ys es.toList/\pn es clock:=by
 have h:=(hR.box b _ hb).1;rcases h with⟨hm,_⟩|⟨_,g,es,clock,h1,h2,h3,h4⟩
 .rw[vK]at hm;simp at hm
 .exact⟨g,es,clock,h1,h2,h3,h4⟩
theorem M7{P:Program}{T:Nat->Option TyI}(hT:bk P T){n:Nat}{ti:TyI}(hn:T n=some ti){t:Ty}(aD:ti.ty=some t):∃z,(zeroValue n).run P w = .ok z w/\VRep S w ⟨t,t.dflt⟩ z:=by
 obtain⟨i,d,hi,hd,hs,_,ha,_,h⟩:=ir hT hn;obtain⟨_,⟨z,hz,hc⟩,hdo⟩:=h t aD;have G7:=LD hT hn hi hd;refine⟨z,by simp[zeroValue,typeInfo,hi,hz],?_,?_,?_⟩
 .rw[hc];exact kZ t
 .intro hm;have:aggD d=true:=by cases d<;>cases t<;>simp_all[gi,fi,aggD,Ty.agg]
  simp only[zOk,hz]at G7;cases z<;>simp_all
 .intro hm;have:aggD d=false:=by cases d<;>cases t<;>simp_all[gi,fi,aggD,Ty.agg]
  simp only[zOk,hz]at G7;cases z<;>first|rfl|simp_all
theorem M8{P:Program}{E:Env}(hT:bk P E.T)(hR:Rel N np S0 w0 refs σ a w S γ){rw:Nat->BS}(e8:RdR σ rw){t:Nat}{k v:Ty}(ht:lE E.T t=some (k,v)){x y:Leaf}{b:Nat}{ys:List (k.den×v.den)}{q:k.den}
  (h:mapC rw t k v x y=some (b,ys,q)){zx zy:Value}(hx:aL S w γ σ.bx x zx)(hy:aL S w γ σ.bx y zy) :
  ∃z,VRep S w ⟨v,@nD _ _ k.keq v.dflt ys q⟩ z/\∀ok,(Instr.lookup t zx zy ok).run P w = .ok (if ok then .tuple #[z,.bool (@mU _ _ k.keq ys q)] else z) w:=by
 obtain⟨kt,vt,tv,dO,rR,kK,yz,vL⟩:=B0 hT ht;obtain⟨rfl,rfl,hb⟩:=G5 e8 h;obtain⟨g,es,clock,hg,hh,ha,_⟩:=G6 hR hb;have rS:zx = .map (some g):=(hx.2.2 _ hb).trans hg;have vM:zy=keyV k q:=(tH kK).1 hy;subst rS;subst vM;have nk:=MapKept.run_checkKey (w:=w) rR (G2 kK q) es.isEmpty 9999;rcases BZ kK q ha 0 with⟨h1,j,e,h2,h3,h4,h5,h6⟩|⟨h1,h2,h3,h4⟩
 .refine⟨e.val,h5,λok=>?_⟩;have hf:=MapKept.run_findKey (w:=w) rR h2;simp only[Instr.lookup,Sem.run_bind,run_underlying dO,Result.andThen_ok,MapKept.run_getObj_map hh,Sem.run_pure,nk,hf,h1]
 .obtain⟨z,hz,M9⟩:=M7 (S:=S) (w:=w) hT yz vL;refine⟨z,by rw[h3];exact M9,λok=>?_⟩;have hf:=MapKept.run_findKey (w:=w) rR h2;simp only[Instr.lookup,Sem.run_bind,run_underlying dO,Result.andThen_ok,MapKept.run_getObj_map hh,Sem.run_pure,nk,hf,h1,hz]
theorem Na(hR:Rel N np S0 w0 refs σ a w S γ){k:Nat}{b b':Bx}(hk:σ.bx k = .live b){g:Nat}(hg:blk (γ k)=some g)(hS:∀o,¬S g o)(pq:fj b b')
  {w':World}(oy:∀i,i≠g->w'.heap[i]? = w.heap[i]?)(ba:w'.heap.size=w.heap.size)(kH:w'.os=w.os)(yA:w'.tape=w.tape)(cN:w'.output=w.output)
  (hb:BxLe γ σ.bx γ (σ.setB k (.live b')).bx->bY S w S w'->cJ S w' γ (σ.setB k (.live b')).bx k b') :
  Rel N np S0 w0 refs (σ.setB k (.live b')) a w' S γ:=by
 have hle:BxLe γ σ.bx γ (σ.setB k (.live b')).bx:=by
  intro k' aR;by_cases aY:k'=k
  .subst aY;rw[cV];exact⟨by simp,rfl,λb1 bR=>by simp at bR;subst bR;exact⟨b,hk,pq⟩⟩
  .rw[bo σ _ aY];exact⟨aR,rfl,λb hb=>⟨b,hb,.refl b⟩⟩
 have aj:bY S w S w':=by
  intro g' o h;refine⟨h,World.cell?_of_block (oy g' ?_)⟩
  rintro rfl
  exact hS o h
 have aN:∀k' b1,(σ.setB k (.live b')).bx k' = .live b1->∃b2,σ.bx k' = .live b2:=by
  intro k' b1 h1;by_cases aY:k'=k
  .subst aY;exact⟨b,hk⟩
  .rw[bo σ _ aY]at h1;exact⟨b1,h1⟩
 refine Rel.step (bx':=(σ.setB k (.live b')).bx) hR aj hle ?_ ?_ ?_ hR.new ?_ ?_ ?_ (kH.trans hR.os) (yA.trans hR.tape) (cN.trans hR.output) (λg' _ _ h=>⟨oy g' (λe=>h k b hk (e▸hg)),λk' b1 h1=>by
  obtain⟨b2,h2⟩:=aN k' b1 h1;exact h k' b2 h2⟩)
 .intro k' b1 h1;by_cases aY:k'=k
  .subst aY;rw[cV]at h1;simp at h1;subst h1;exact hb hle aj
  .rw[bo σ _ aY]at h1;refine cJ.keep aj hle rfl (λg' af=>⟨?_,λ_=>Iff.rfl⟩) (hR.box k' b1 h1);exact oy g' (λh=>hR.apart k' k b1 b g aY h1 hk (h▸af) hg)
 .intro k' b1 g' h1 af;obtain⟨b2,h2⟩:=aN k' b1 h1;exact hR.own k' b2 g' h2 af
 .intro k1 k2 b1 b2 g' aB h1 h2 af;obtain⟨nV,gV⟩:=aN k1 b1 h1;obtain⟨nW,gn⟩:=aN k2 b2 h2;exact hR.apart k1 k2 nV nW g' aB gV gn af
 .intro g' o h;rw[ba];exact hR.here g' o h
 .intro g' af hr;rw[oy g' ?_]
  .exact hR.below g' af hr
  .rintro rfl
   rcases hR.own k b _ hk hg with h|h
   .exact h.no (by omega) hr
   .exact hr h.1
 .rw[ba];exact hR.grow
theorem Nb{P:Program}{E:Env}(hT:bk P E.T)(hR:Rel N np S0 w0 refs σ a w S γ){rw:Nat->BS}(e8:RdR σ rw){t:Nat}{k v:Ty}(ht:lE E.T t=some (k,v)){x y:Leaf}{b:Nat}{ys:List (k.den×v.den)}{q:k.den}
  (h:mapC rw t k v x y=some (b,ys,q)){zx zy zz:Value}(hx:aL S w γ σ.bx x zx)(hy:aL S w γ σ.bx y zy){rdf:Nat->BS}(aF:RdF np σ rdf){c:Cel}{z:v.den}{u:Ups}(hd:mV rdf v c=some (z,u))(hz:aQ S w γ σ.bx c zz) :
  ∃w' S',(Instr.mapUpdate t zx zy zz).run P w = .ok () w'/\Rel N np S0 w0 refs (σ.upd (u++[(b,.live (.lst (4294967296+t) (.pair k v) (@gH _ _ k.keq ys q z) false))])) a w' S' γ:=by
 obtain⟨kt,vt,tv,dO,rR,kK,yz,vL⟩:=B0 hT ht;obtain⟨rfl,rfl,hb⟩:=G5 e8 h;obtain⟨dV,aG,_⟩:=yc aF hR.box hd hz;obtain⟨S1,aJ,bB,eA,cd⟩:=jH u σ S hR dV;have vN:u.any (λy=>y.1==b)=false:=by rw[ku];intro y hy Nc;obtain⟨_,e,t',xs,f,h1,_,hm⟩:=dV y hy;rw[show y.1=b by simpa using Nc,hb]at h1;cases h1;rw[vK]at hm;simp at hm
 have bR:(σ.upd u).bx b = .live (.lst (4294967296+t) (.pair k v) ys false):=(gp u σ vN).trans hb;obtain⟨g,es,clock,hg,hh,ha,hq⟩:=G6 aJ bR;have rS:zx = .map (some g):=(hx.2.2 _ hb).trans hg;have vM:zy=keyV k q:=(tH kK).1 hy;subst rS;subst vM;have G8:=aG S1 w bB eA;have rT:blk (γ b)=some g:=by rw[hg];rfl
 have hS:∀o,¬S1 g o:=((aJ.box b _ bR).2 g rT).1 rfl;have nk:=MapKept.run_checkKey (w:=w) rR (G2 kK q) false 9999
 have main:∃es' cR,(Instr.mapUpdate t (.map (some g)) (keyV k q) zz).run P w = .ok () { w with heap:=w.heap.setIfInBounds g (.map es' cR) }/\All2 (rQ S1 w k v) (@gH _ _ k.keq ys q z) es'.toList/\pn es' cR:=by
  rcases BZ kK q ha 0 with⟨h1,j,e,h2,h3,h4,h5,h6⟩|⟨h1,h2,h3,h4⟩
  .have hf:=MapKept.run_findKey (w:=w) rR h2;rw[jt]at hf;refine⟨es.modify j λe=>{ e with key:=keyV k q,val:=zz },clock,?_,?_,MapKept.stamped_modify hq.1 j _ (λ_ _=>rfl) (λe1 _ G9=>?_),?_⟩
   .have Nd:((es[j]?).map (·.key)).getD (keyV k q)=keyV k q:=by rw[show es[j]? = some e by simpa using h3];exact h4
    simp only[Instr.mapUpdate,Sem.run_bind,run_underlying dO,Result.andThen_ok,MapKept.run_getObj_map hh,nk,hf,Instr.keyThatStays,Nd,G3 kK q,if_true,Sem.run_pure,MapKept.run_setObj_map _ hh]
   .have e1:(es.modify j λe=>{ e with key:=keyV k q,val:=zz }).toList=es.toList.set j { e with key:=keyV k q,val:=zz }:=by
     refine qn λi=>?_;rw[ke,Array.getElem?_modify,List.getElem?_set];have pR:es[j]? = some e:=by simpa using h3
     by_cases cg:j=i
     .subst cg;simp only[if_true,pR,ki];rw[if_pos (by simpa using (jc.1 pR).1)]
     .simp[cg]
    rw[e1];exact h6 z _ rfl G8
   .rw[show es[j]? = some e by simpa using h3]at G9;cases G9;exact h4.symm
   .rw[<-hq.2];refine qn λi=>?_;rw[kn,kn,ke,ke,Array.getElem?_modify];split
    .rename_i cg;subst cg;cases es[j]? <;> rfl
    .rfl
  .have hf:=MapKept.run_findKey (w:=w) rR h2;refine⟨es.push { key:=keyV k q,val:=zz,born:=clock },clock+1,?_,?_,MapKept.stamped_push hq.1 (G4 kK ha h1),by rw[Array.toList_push,List.map_append,hq.2,List.range_succ];rfl⟩
   .simp only[Instr.mapUpdate,Sem.run_bind,run_underlying dO,Result.andThen_ok,MapKept.run_getObj_map hh,nk,hf,MapKept.run_setObj_map _ hh]
   .rw[h4 z,Array.toList_push];exact ha.append ⟨⟨(tH kK).2 rfl,G8⟩,trivial⟩
 obtain⟨es',cR,ai,ah,Bt⟩:=main;have ak:g<w.heap.size:=(jc.1 hh).1;refine⟨_,S1,ai,?_⟩;rw[fR];refine Na aJ bR rT hS (b':= .lst (4294967296+t) (.pair k v) (@gH _ _ k.keq ys q z) false) ⟨rfl,rfl,λhm=>by rw[vK]at hm;simp at hm⟩ (λi hi=>by simp[Ne.symm hi]) (by simp) rfl rfl rfl λhle aj=>?_;refine⟨.inr ⟨vK t,g,es',cR,hg,by simp[ak],ah.mono λx e hx=>⟨Rep.keep aj _ _ _ hx.1,VRep.keep aj hx.2⟩,Bt⟩,λg' af=>?_⟩;rw[rT]at af;simp at af;subst af;exact⟨λ_=>hS,λh=>by simp at h⟩
theorem Nf{P:Program}(hR:Rel N np S0 w0 refs σ a w S γ){n t:Nat}{k v:Ty}(hn:σ.bx n = .free) :
  ∃γ',(Instr.makeMap t none).run P w = .ok (.map (some w.heap.size)) (w.alloc (.map #[] 0))/\Rel N np S0 w0 refs (σ.setB n (.live (.lst (4294967296+t) (.pair k v) [] false))) a (w.alloc (.map #[] 0)) S γ'/\
   aQ S (w.alloc (.map #[] 0)) γ' (σ.setB n (.live (.lst (4294967296+t) (.pair k v) [] false))).bx (.one (.ol n)) (.map (some w.heap.size)):=by
 have vN:=Bl hR hn (o:= .map #[] 0) (b:= .lst (4294967296+t) (.pair k v) [] false) (v:= .map (some w.heap.size)) (λg hg=>by simp[blk]at hg;exact hg.symm) (λhle=>by
  refine⟨.inr ⟨vK t,w.heap.size, #[],0,cO _ _ _,heap_alloc_new w _,trivial,MapKept.stamped_empty 0,rfl⟩,λg hg=>?_⟩;rw[cO]at hg;simp[blk]at hg;subst hg;exact⟨λ_ o ho=>by have:=hR.here _ o ho;omega,λh=>by simp at h⟩)
 refine⟨_,rfl,vN.1,⟨?_,rfl,λb hb=>(cO _ _ _).symm⟩,λ_=>rfl⟩;rw[cV];simp
end
section
variable{N:NT}{np:Nat}{S0:aq}{w0:World}{refs:Refs}{σ:St}{a:Go.Act}{w:World}{S:aq}{γ:Nat->Value}
theorem Ng{P:Program}{E:Env}(hT:bk P E.T)(hR:Rel N np S0 w0 refs σ a w S γ){rdf:Nat->BS}(aF:RdF np σ rdf){t:TypeId}{ti:TyI}(ht:E.T t=some ti)
  {m:Nat}{el:Ty}(aD:ti.ty=some (.arr m el)){ps:List (Nat×Cel)}{vs:Array (Nat×Value)}{xs:List el.den}{u:Ups}
  (eJ:All2 (λp v=>p.1=v.1/\aQ S w γ σ.bx p.2 v.2) ps vs.toList)(h:fN rdf el (List.replicate m el.dflt) [] ps=some (xs,u)) :
  ∃v S',(Instr.build t vs).run P w = .ok v w/\Rel N np S0 w0 refs (σ.upd u) a w S' γ/\aQ S' w γ (σ.upd u).bx (.av m el xs) v:=by
 obtain⟨dO,cc,te,bG,pS⟩:=tg hT ht aD;have ba:=gS hT bG pS;obtain⟨z,hz,eu⟩:=ri hT ht w aD;obtain⟨dV,bH⟩:=Bu aF hR.box cc ps vs.toList eJ h .nil;obtain⟨S1,aJ,bB,eA,cd⟩:=jH u σ S hR dV;obtain⟨Gy,css,ah,h9⟩:=kZ (S:=S1) (w:=w) (.arr m el);obtain⟨aK,gu,dn,cm,bO⟩:=bH S1 bB eA css z.cells ah (by rw[eu];exact h9)
 have hlen:∀(ps:List (Nat×Cel)){xs bJ:List el.den}{u u':Ups},fN rdf el xs u ps=some (bJ,u')->bJ.length=xs.length:=by
  intro ps;induction ps with
  |nil=>intro xs bJ u u' h;simp[fN]at h;rw[h.1]
  |cons p ps ih=>
   intro xs bJ u u' h;obtain⟨i,c⟩:=p;simp only[fN]at h;split at h
   .split at h
    .rw[ih h];simp
    .simp at h
   .simp at h
 have lX:xs.length=m:=by rw[hlen ps h];simp
 refine⟨.agg aK,S1,?_,aJ,aK,rfl,lX,gu,cm,bO⟩;simp only[Instr.build,Sem.run_bind,hz,Result.andThen_ok,run_underlying dO,eX hT bG,<-ba,dn,Sem.run_pure]
theorem Nh{P:Program}{E:Env}(hT:bk P E.T){bx:Nat->BS}{t:TypeId}{ti:TyI}(ht:E.T t=some ti){m:Nat}{el:Ty}(aD:ti.ty=some (.arr m el)) :
  ∃v,(Instr.build t #[]).run P w = .ok v w/\aQ S w γ bx (.st (jC (.arr m el))) v:=by
 obtain⟨dO,cc,te,bG,pS⟩:=tg hT ht aD;obtain⟨z,hz,eu⟩:=ri hT ht w aD;refine⟨.agg z.cells,?_,z.cells,rfl,by rw[eu];exact pz (.arr m el),λu hu=>yo eu u (by simpa using hu)⟩;simp only[Instr.build,Sem.run_bind,hz,Result.andThen_ok,run_underlying dO,eX hT bG];rfl
theorem Ha{rd:Nat->BS}(au:RdF np σ rd)(hB:tn S w γ σ.bx){el:Ty}:∀{ls:List Leaf}{xs:List el.den}{u:Ups}{zs:List Value},nH rd el ls=some (xs,u)->All2 (aL S w γ σ.bx) ls zs->
  FrzL np σ.bx u/\∀S' w',bY S w S' w'->Froz σ.bx γ S' w' u->All2 (λx z=>Rep S' w' el x [z]) xs zs
 |[],xs,u,zs,h,ha=>by
  simp[nH]at h;obtain⟨rfl,rfl⟩:=h;cases zs with
  |nil=>exact⟨.nil,λ_ _ _ _=>trivial⟩
  |cons _ _=>exact ha.elim
 |l::ls,xs,u,zs,h,ha=>by
  cases zs with
  |nil=>exact ha.elim
  |cons z zs=>
   simp only[nH]at h;split at h
   .rename_i x u1 yp u2 h1 h2;simp only[j5,j9]at h;obtain⟨rfl,rfl⟩:=h;obtain⟨f1,p1⟩:=py au hB h1 ha.1;obtain⟨f2,p2⟩:=Ha au hB h2 ha.2;exact⟨FrzL.app.2 ⟨f1,f2⟩,λS' w' hk hf=>⟨p1 S' w' hk (Froz.app.1 hf).1,p2 S' w' hk (Froz.app.1 hf).2⟩⟩
   .simp at h
theorem Hb{el:Ty}{S':aq}{w':World}:∀{xs:List el.den}{zs:List Value},All2 (λx z=>Rep S' w' el x [z]) xs zs->∃css,All2 (λx c=>Rep S' w' el x c) xs css/\zs=css.flatten
 |[],[],_=>⟨[],trivial,rfl⟩
 |x::xs,z::zs,h=>by
  obtain⟨css,h1,h2⟩:=Hb h.2;exact⟨[z]::css,⟨h.1,h1⟩,by simp[h2]⟩
 |[],_::_,h=>h.elim
 |_::_,[],h=>h.elim
theorem Ni{P:Program}{E:Env}(hT:bk P E.T)(hR:Rel N np S0 w0 refs σ a w S γ){rd rdf:Nat->BS}(au:RdOk σ rd)(aF:RdF np σ rdf){t:TypeId}{ti:TyI}(ht:E.T t=some ti)
  {x:Leaf}{m:Nat}{el:Ty}{ls:List Leaf}{xs:List el.den}{u:Ups}{v:Value}(h:nI rd ti.ty x=some (m,el,ls))(hg:nH rdf el ls=some (xs,u))(hl:xs.length=m)(hx:aL S w γ σ.bx x v) :
  ∃z S',(Instr.loadAt t v).run P w = .ok z w/\Rel N np S0 w0 refs (σ.upd u) a w S' γ/\aQ S' w γ (σ.upd u).bx (.av m el xs) z:=by
 unfold nI at h;split at h
 .rename_i k;split at h
  .rename_i m' yl aD;split at h
   .split at h
    .rename_i ew hk;simp only[j5,j9]at h;obtain⟨rfl,rfl,rfl⟩:=h;have hk:=au.live hk;obtain⟨g,af,hu⟩:=hx.2.2 _ hk;obtain⟨g',cur,e,cY,hh,ha,h1,_⟩:=hR.box k _ hk;rw[af]at cY;simp at cY;subst cY;obtain⟨dV,bH⟩:=Ha aF hR.box hg ha;obtain⟨S1,aJ,bB,eA,cd⟩:=jH u σ S hR dV;obtain⟨css,ah,cB⟩:=Hb (bH S1 w bB eA);have aG:Rep S1 w (.arr m' yl) xs (cur.toList.take ew.length):=⟨hl,css,ah,cB⟩;obtain⟨Bf,_,_⟩:=tg hT ht aD;have ba:(cur.toList.take ew.length).length=ti.size:=by have:=Rep.length _ _ _ aG;rw[gS hT ht aD]at this;exact this
     refine⟨.agg (cur.toList.take ew.length).toArray,S1,?_,aJ,(cur.toList.take ew.length).toArray,rfl,by simpa using aG⟩;subst hu
     have Hc:=F7 (w:=w) (g:=g) (o:=0) (cs:=cur.toList.take ew.length) (λj v hv=>by
      rw[jt,cell_of_row w g j cur e (0,0) hh];rw[kp]at hv;split at hv
      .simpa using hv
      .simp at hv) P
     rw[ba]at Hc;have gm:(isAgg t).run P w = .ok true w:=by simp[isAgg,run_underlying Bf]
     simp only[Instr.loadAt,Sem.run_bind,Instr.sureAddr,Sem.run_pure,Result.andThen_ok,loadVar,gm,if_true,eX hT ht,Hc]
    .simp at h
   .simp at h
  .simp at h
 .simp at h
def Slot.bare:Slot->Bool
 |.cnd _ _ _=>false
 |_=>true
theorem Nj{fr:Bool}{b:Ty}{n len:Nat}{ps:List (Nat×Cel)}{f:Nat}{args:List Arg}{mk:Ret->Option (Slot×Ups)}:one1 fr b n len ps≠some (.call f args mk):=by
 unfold one1;split
 .split
  .split<;>simp
  .simp
 .simp
theorem Hd(cs:List Cel):(uE cs).bare=true:=by
 unfold uE;split<;>rfl
theorem He(hR:Rel N np S0 w0 refs σ a w S γ){act:List (Nat×Bool)}(ax:lJ (tm a) act)(ps:List (Nat×Operand)) :
  All2 (λp v=>p.1=v.1/\aQ S w γ σ.bx p.2 v.2) (ps.map λp=>(p.1,(σ.ev p.2).cel act)) (ps.map λp=>(p.1,a.eval p.2)):=by
 induction ps with
 |nil=>trivial
 |cons p ps ih=>exact⟨⟨rfl,cD hR ax p.2⟩,ih⟩
theorem yB(hR:Rel N np S0 w0 refs σ a w S γ){act:List (Nat×Bool)}(ax:lJ (tm a) act)(ps:List Operand) :
  All2 (aQ S w γ σ.bx) (ps.map λp=>(σ.ev p).cel act) (ps.map a.eval):=by
 induction ps with
 |nil=>trivial
 |cons p ps ih=>exact⟨cD hR ax p,ih⟩
theorem tK{rd:Nat->BS}(au:RdOk σ rd):RdF np σ (λk=>if parK np k then .gone else rd k):=by
 refine⟨λk=>?_,λk e a xs f h=>?_⟩
 rotate_left
 .dsimp only at h
  split at h
  .simp at h
  .exact au.2 k e a xs f h
 dsimp only
 split
 .exact .inr rfl
 .rename_i hp;rcases au.1 k with h|h
  .exact .inl ⟨h,by simpa using hp⟩
  .exact .inr h
theorem pT{P:Program}{o:Oper}{l:Leaf}{v:Value}(hR:Rel N np S0 w0 refs σ a w S γ)(hr:(execOp a.eval o).run P w = .ok (.value v) w)
  (hs:aL S w γ σ.bx l v)(h1:One v):AZ P N np S0 w0 refs o σ a w S γ (.one (.one l)) []:=
 gj hR hr ⟨hs,λ_=>h1⟩
theorem rU{c:Cel}{l:Leaf}(h:lf c=l)(hd:l ≠ .dead):c = .one l:=by
 cases c with
 |one x=>simp[lf]at h;rw[h]
 |st ls=>simp[lf]at h;exact absurd h.symm hd
 |av n a xs=>simp[lf]at h;exact absurd h.symm hd
theorem B2{P:Program}{E:Env}(hT:bk P E.T)(hR:Rel N E.np S0 w0 refs σ a w S γ){act:List (Nat×Bool)}(ax:lJ (tm a) act){rw:Nat->BS}(e8:RdR σ rw)
  {o:Oper}{s:Slot}{u:Ups}(h:cp E σ.ev rw act o=some (.val true s u)):AZ P N E.np S0 w0 refs o σ a w S γ s u/\s.bare=true:=by
 have au:RdOk σ (mskM rw):=e8.msk;have aF:=tK (np:=E.np) au;have hex:∀op,o.op=op->execOp a.eval o=execOp a.eval { o with op:=op }:=λop h=>by subst h;rfl
 unfold cp at h;dsimp only at h;split at h
 ·-- move
  rename_i x aS;split at h
  .rename_i l hl;simp only[j5,Act.val.injEq]at h;obtain⟨_,rfl,rfl⟩:=h;have:=gT hR x;rw[hl]at this;exact⟨gj hR (v:=a.eval x) (by simp[execOp,aS]) this,rfl⟩
  .simp only[j5,Act.cel,Act.val.injEq]at h;obtain⟨_,rfl,rfl⟩:=h;exact⟨gj hR (v:=a.eval x) (by simp[execOp,aS]) (cD hR ax x),rfl⟩
 ·-- assign
  rename_i x aS;split at h
  .rename_i l hl;simp only[j5,Act.val.injEq]at h;obtain⟨_,rfl,rfl⟩:=h;have:=gT hR x;rw[hl]at this;exact⟨gj hR (v:=a.eval x) (by simp[execOp,aS]) this,rfl⟩
  .simp only[j5,Act.cel,Act.val.injEq]at h;obtain⟨_,rfl,rfl⟩:=h;exact⟨gj hR (v:=a.eval x) (by simp[execOp,aS]) (cD hR ax x),rfl⟩
 ·-- pick
  rename_i x y z aS;split at h
  .rename_i v hv;have hx:=cD hR ax x;have B3:a.eval x = .bool v:=by have:=rU hv (by simp);rw[this]at hx;exact mY hx
   have ai:(execOp a.eval o).run P w = .ok (.value (if v then a.eval y else a.eval z)) w:=by simp[execOp,aS,B3,asBool]
   have hy:v=true->aQ S w γ σ.bx ((σ.ev y).cel (xS x true act)) (a.eval y):=by
    intro B4;refine Ba ?_ (gT hR y);cases x with
    |tmp t=>
     intro g hg;rcases jf.1 hg with rfl|hg
     .simp only;rw[<-B4];exact B3
     .exact ax g hg
    |_=>exact ax
   have hz:v=false->aQ S w γ σ.bx ((σ.ev z).cel (xS x false act)) (a.eval z):=by
    intro B4;refine Ba ?_ (gT hR z);cases x with
    |tmp t=>
     intro g hg;rcases jf.1 hg with rfl|hg
     .simp only;rw[<-B4];exact B3
     .exact ax g hg
    |_=>exact ax
   split at h
   .rename_i t p t' q hp hq;split at h
    .rename_i q' fT;simp only[j5,Act.leaf,Act.val.injEq]at h;obtain⟨_,rfl,rfl⟩:=h;have:=gU fT;cases this;refine⟨gj hR ai ?_,rfl⟩;cases v with
     |true=>have:=hy rfl;rw[hp]at this;exact this
     |false=>have:=hz rfl;rw[hq]at this;exact this
    .simp at h
   .rename_i t p hp hq;simp only[j5,Act.val.injEq]at h;obtain⟨eI,rfl,rfl⟩:=h;have eI:v=true:=eI;subst eI;refine⟨gj hR ai ?_,rfl⟩;have:=hy rfl;rw[hp]at this;exact this
   .rename_i t q hp hq;simp only[j5,Act.val.injEq]at h;obtain⟨eI,rfl,rfl⟩:=h;have eI:v=false:=by simpa using eI
    subst eI;refine⟨gj hR ai ?_,rfl⟩;have:=hz rfl;rw[hq]at this;exact this
   .simp at h
  .simp at h
 ·-- alloc
  rename_i t aS;split at h
  .rename_i ti ht;split at h
   .rename_i ay;have hd:=au.free ay;split at h
    .rename_i k el aD;split at h
     .simp only[j5,Act.val.injEq]at h;obtain⟨_,rfl,rfl⟩:=h;obtain⟨z,eu,hz⟩:=Bs (w:=w) hT ht aD;obtain⟨bL,hc⟩:=yd hR hd (ls:=jC (.arr k el)) (cur:=z.cells) (e:=t) (by rw[eu];exact pz (.arr k el)) (yo eu);exact⟨⟨_,_,S,_,.inl (by simp[execOp,aS,hz]),bL,hc⟩,rfl⟩
     simp only[j5,Act.val.injEq]at h;obtain⟨_,rfl,rfl⟩:=h;obtain⟨z,eu,hz⟩:=Bs (w:=w) hT ht aD;obtain⟨bL,hc⟩:=Gd hR hd (m:=k) (t:=el) (xs:=List.replicate k el.dflt) (cur:=z.cells) (e:=t) (by rw[eu];exact kZ (.arr k el));exact⟨⟨_,_,S,_,.inl (by simp[execOp,aS,hz]),bL,hc⟩,rfl⟩
    .rename_i ty aB aD;simp only[j5,Act.val.injEq]at h;obtain⟨_,rfl,rfl⟩:=h;obtain⟨z,eu,hz⟩:=Bs (w:=w) hT ht aD;obtain⟨bL,hc⟩:=yd hR hd (ls:=jC ty) (cur:=z.cells) (e:=t) (by rw[eu];exact pz ty) (yo eu);exact⟨⟨_,_,S,_,.inl (by simp[execOp,aS,hz]),bL,hc⟩,rfl⟩
    .simp at h
   .simp at h
  .simp at h
 ·-- box
  rename_i t x aS;split at h
  .rename_i ay;have hd:=au.free ay;have hx:=cD hR ax x;split at h
   .rename_i k el xs hc;simp only[j5,Act.val.injEq]at h;obtain⟨_,rfl,rfl⟩:=h;rw[hc]at hx;obtain⟨cs,hu,aG⟩:=hx;obtain⟨bL,eZ⟩:=Gd hR hd (m:=k) (t:=el) (xs:=xs) (cur:=(a.eval x).cells) (e:=t) (by rw[hu];exact aG);exact⟨⟨_,_,S,_,.inl (by simp[execOp,aS,Gq]),bL,eZ⟩,rfl⟩
   .split at h
    .rename_i ls vu;simp only[j5,Act.val.injEq]at h;obtain⟨_,rfl,rfl⟩:=h;obtain⟨hl,h1⟩:=tt vu hx;obtain⟨bL,eZ⟩:=yd hR hd (ls:=ls) (cur:=(a.eval x).cells) (e:=t) hl h1;exact⟨⟨_,_,S,_,.inl (by simp[execOp,aS,Gq]),bL,eZ⟩,rfl⟩
    .simp at h
  .simp at h
 ·-- build
  rename_i t ps aS;have eJ:=He hR ax ps.toList;have me:All2 (λp v=>p.1=v.1/\aQ S w γ σ.bx p.2 v.2) (ps.toList.map λp=>(p.1,(σ.ev p.2).cel act)) (ps.map λp=>(p.1,a.eval p.2)).toList:=by simpa using eJ
  split at h
  .rename_i ti ht;split at h
   .rename_i k el aD;split at h
    .rename_i oz;simp only[j5,Act.cel,Act.val.injEq]at h;obtain⟨_,rfl,rfl⟩:=h;obtain⟨v,ai,hc⟩:=Nh (w:=w) (S:=S) (γ:=γ) (bx:=σ.bx) hT ht aD;have Hf:ps = #[]:=by simp only[jb,List.isEmpty_iff]at oz;exact qm.1 oz.2
     subst Hf;exact⟨gj hR (v:=v) (by simp[execOp,aS,ai]) hc,rfl⟩
    split at h
    .rename_i xs u' hb;simp only[j5,Act.val.injEq]at h;obtain⟨_,rfl,rfl⟩:=h;obtain⟨v,S',ai,bL,hc⟩:=Ng hT hR aF ht aD me hb;exact⟨⟨v,w,S',γ,.inl (by simp[execOp,aS,ai]),bL,hc⟩,rfl⟩
    .simp at h
   .rename_i ty aB aD;split at h
    .rename_i iG;split at h
     .rename_i ls hb;simp only[j5,Act.cel,Act.val.injEq]at h;obtain⟨_,rfl,rfl⟩:=h;obtain⟨v,ai,hc⟩:=Mr hT ht aD iG me hb;exact⟨gj hR (v:=v) (by simp[execOp,aS,ai]) hc,rfl⟩
     .simp at h
    .simp at h
   .simp at h
  .simp at h
 ·-- buildSlice
  rename_i t len ps aS;have eJ:=He hR ax ps.toList;have me:All2 (λp v=>p.1=v.1/\aQ S w γ σ.bx p.2 v.2) (ps.toList.map λp=>(p.1,(σ.ev p.2).cel act)) (ps.map λp=>(p.1,a.eval p.2)).toList:=by simpa using eJ
  split at h
  .rename_i ti ht;split at h
   .rename_i el aD;split at h
    .obtain⟨_,rfl,v',w',γ',ai,bL,hc⟩:=MM hT hR ht aD au.free me h;exact⟨⟨v',w',S,γ',.inl (by simp[execOp,aS,ai]),bL,hc⟩,rfl⟩
    split at h
    .simp at h
    .rename_i hlen;split at h
     .rename_i xs u' hb;split at h
      .rename_i ay;simp only[j5,Act.val.injEq]at h;obtain⟨_,rfl,rfl⟩:=h;obtain⟨v',w',S',γ',ai,bL,hc⟩:=ML hT hR aF ht aD (by omega) me hb (au.free ay);exact⟨⟨v',w',S',γ',.inl (by simp[execOp,aS,ai]),bL,hc⟩,rfl⟩
      .simp at h
     .simp at h
   .simp at h
  .simp at h
 ·-- load
  rename_i t x aS;split at h
  .rename_i ti ht;split at h
   .rename_i m el ls mf;split at h
    .rename_i xs u' hg;split at h
     .rename_i hlen;simp only[j5,Act.val.injEq]at h;obtain⟨_,rfl,rfl⟩:=h;obtain⟨z,S',hz,bL,eD⟩:=Ni hT hR au aF ht mf hg hlen (eC (cD hR ax x));exact⟨⟨z,w,S',γ,.inl (by simp[execOp,aS,hz]),bL,eD⟩,rfl⟩
     .simp at h
    .simp at h
   unfold oCel at h;split at h
   .rename_i c hc;simp only[j5,Act.cel,Act.val.injEq]at h;obtain⟨_,rfl,rfl⟩:=h;obtain⟨z,hz,eD⟩:=F9 hT hR au ht hc (eC (cD hR ax x));exact⟨gj hR (v:=z) (by simp[execOp,aS,hz]) eD,rfl⟩
   .simp at h
  .simp at h
 ·-- store
  rename_i t x y aS;split at h
  .rename_i ti ht;split at h
   .rename_i u' hu;simp only[j5,Act.val.injEq]at h;obtain⟨_,rfl,rfl⟩:=h;obtain⟨w',S',ai,bL⟩:=Mh hT hR au aF ht hu (eC (cD hR ax x)) (cD hR ax y);exact⟨⟨undef,w',S',γ,.inr ⟨by simp[execOp,aS,ai],rfl⟩,bL,⟨trivial,λh=>absurd rfl h⟩⟩,rfl⟩
   .simp at h
  .simp at h
 ·-- nilCheck
  rename_i x aS;have hx:=cD hR ax x;split at h
  .rename_i k p hl;split at h
   .rename_i dq;simp only[j5,Act.leaf,Act.val.injEq]at h;obtain⟨_,rfl,rfl⟩:=h;rw[rU hl (by simp)]at hx;obtain⟨b,hb⟩:=uZ dq;obtain⟨g,_,hu⟩:=hx.1.2.2 b (au.live hb);exact⟨gj hR (v:=a.eval x) (by simp[execOp,aS,hu]) hx,rfl⟩
   .simp at h
  .rename_i k i p hl;split at h
   .rename_i dq;simp only[j5,Act.leaf,Act.val.injEq]at h;obtain⟨_,rfl,rfl⟩:=h;rw[rU hl (by simp)]at hx;obtain⟨b,hb⟩:=uZ dq;have h3:=hx.1.2.2 b (au.live hb)
    have hu:∃g o,a.eval x = .pointer (some ⟨g,o,none⟩):=by
     cases b with
     |cell ls f=>exact h3.elim
     |lst e t xs f=>obtain⟨_,_,g,cap,_,hu⟩:=h3;exact⟨_,_,hu⟩
     |arr n t xs=>obtain⟨_,g,_,hu⟩:=h3;exact⟨_,_,hu⟩
    obtain⟨g,Nk,hu⟩:=hu;exact⟨gj hR (v:=a.eval x) (by simp[execOp,aS,hu]) hx,rfl⟩
   .simp at h
  .rename_i ls hl;simp only[j5,Act.leaf,Act.val.injEq]at h;obtain⟨_,rfl,rfl⟩:=h;rw[rU hl (by simp)]at hx;obtain⟨g,Nk,cs,hu,_⟩:=hx.1;exact⟨gj hR (v:=a.eval x) (by simp[execOp,aS,hu]) hx,rfl⟩
  .simp at h
 ·-- binOp
  rename_i op t x y rest aS;unfold oChk at h;split at h
  .rename_i b c hc;simp only[j5,Act.val.injEq]at h;obtain⟨rfl,rfl,rfl⟩:=h;obtain⟨z,hz,hl,h1⟩:=LN (x:=x) (y:=y) hT hc (cD hR ax x) (cD hR ax y);refine⟨pT hR ?_ hl h1,rfl⟩;simp only[execOp,aS];rw[Sem.run_bind,hz];rfl
  .simp at h
 ·-- unOp
  rename_i op t x aS;unfold iE at h;split at h
  .rename_i c hc;simp only[j5,Act.leaf,Act.val.injEq]at h;obtain⟨_,rfl,rfl⟩:=h;obtain⟨z,hz,hl,h1⟩:=LO hc (cD hR ax x);refine⟨pT hR ?_ hl h1,rfl⟩;simp only[execOp,aS];rw[Sem.run_bind,hz];rfl
  .simp at h
 ·-- convert
  rename_i src dst x aS;split at h
  .rename_i ts ti iQ ht;split at h
   .rename_i k v k0 k' hl B5 aD;simp only[j5,Act.leaf,Act.val.injEq]at h;obtain⟨_,rfl,rfl⟩:=h;have hx:=cD hR ax x;rw[rU hl (by simp)]at hx;have hu:=nU hx;have dO:=AY hT ht aD;refine⟨pT hR (v:= .int k' (k'.wrap v)) ?_ rfl rfl,rfl⟩;have vO:=AY hT iQ B5;simp only[execOp,aS];rw[Sem.run_bind];have:(convert src dst (a.eval x)).run P w = .ok (.int k' (k'.wrap v)) w:=by simp only[hu,convert,Sem.run_bind,run_underlying vO,run_underlying dO,Result.andThen_ok];simp[Conv.intToInt]
    rw[this];rfl
   .simp at h
  .simp at h
 ·-- makeFunc
  rename_i f first caps aS
  split at h
  .rename_i mh;split at h
   .split at h
    .rename_i ks hl;simp only[j5,Act.val.injEq]at h;obtain⟨_,rfl,rfl⟩:=h;have bu:=yB hR ax caps.toList;have vP:first = #[]:=by simpa using mh
     refine⟨⟨.func (.func f) #[] (caps.map a.eval),w,S,γ,.inl ?_,hR,⟨⟨_,rfl,by
      have:=GF hl bu;rw[<-Array.toList_map]at this;exact this⟩,λ_=>rfl⟩⟩,rfl⟩
     simp[execOp,aS,vP,Instr.makeFunc]
    .simp at h
   split at h
   .rename_i l u' hl;simp only[j5,Act.val.injEq]at h;obtain⟨_,rfl,rfl⟩:=h;have bu:=yB hR ax caps.toList;obtain⟨S',bL,_,cQ,_⟩:=GC aF hl hR bu;have vP:first = #[]:=by simpa using mh
    refine⟨⟨.func (.func f) #[] (caps.map a.eval),w,S',γ,.inl ?_,bL,⟨⟨_,rfl,by simpa using cQ⟩,λ_=>rfl⟩⟩,rfl⟩;simp[execOp,aS,vP,Instr.makeFunc]
   .simp at h
  .simp at h
 ·-- fieldAddr
  rename_i t x i aS;split at h
  .rename_i ti ht;unfold iE at h;split at h
   .rename_i c hc;simp only[j5,Act.leaf,Act.val.injEq]at h;obtain⟨_,rfl,rfl⟩:=h;obtain⟨z,hz,hl,h1⟩:=LZ hT au ht hc (eC (cD hR ax x));exact⟨pT hR (by simp[execOp,aS,hz]) hl h1,rfl⟩
   .simp at h
  .simp at h
 ·-- field
  rename_i t x i aS;split at h
  .rename_i ti ht;split at h
   .rename_i ls f hc hf;split at h
    .rename_i tf lI;unfold oCel at h;split at h
     .rename_i c aC;simp only[j5,Act.cel,Act.val.injEq]at h;obtain⟨_,rfl,rfl⟩:=h;have hx:=cD hR ax x;rw[hc]at hx;obtain⟨cs,hu,ah,h1⟩:=hx;obtain⟨fs,dO,fl,dV,fC,rV,tf',Nl,cc⟩:=FX hT ht hf;rw[<-rV]at lI;have cm:=(ah.drop fl.offset).take tf.size;have gV:∀u∈(cs.toList.drop fl.offset).take tf.size,One u:=λu cE=>h1 u (za (kx cE));rw[<-fC]at aC
      have lL:∃z,(part fl.type cs fl.offset).run P w = .ok z w/\aQ S w γ σ.bx c z:=by
       unfold nG at aC;split at aC
       .rename_i gm;split at aC
        .rename_i hlen;simp only[j5]at aC;subst aC;refine⟨.agg (cs.extract fl.offset (fl.offset+tf.size)),?_,_,rfl,?_,?_⟩
         .simp only[part,Sem.run_bind,td hT lI,gm,Result.andThen_ok,if_true,eX hT lI,Sem.run_pure]
         .have:(cs.extract fl.offset (fl.offset+tf.size)).toList=(cs.toList.drop fl.offset).take tf.size:=by simp[List.take_drop]
          rw[this];exact cm
         .have:(cs.extract fl.offset (fl.offset+tf.size)).toList=(cs.toList.drop fl.offset).take tf.size:=by simp[List.take_drop]
          rw[this];exact gV
        .simp at aC
       .rename_i gm;split at aC
        .rename_i l' iR;simp only[j5]at aC;subst aC;rw[iR]at cm;cases hq:(cs.toList.drop fl.offset).take tf.size with
         |nil=>rw[hq]at cm;exact cm.elim
         |cons z zs=>
          rw[hq]at cm gV
          have hz:cs[fl.offset]? = some z:=by
           have:((cs.toList.drop fl.offset).take tf.size)[0]? = some z:=by rw[hq];rfl
           have:=x8 this;simpa using this
          refine⟨z,?_,cm.1,λ_=>gV z (by simp)⟩;simp only[part,Sem.run_bind,td hT lI,Result.andThen_ok,if_neg gm,hz,Sem.run_pure]
        .simp at aC
      obtain⟨z,hz,eD⟩:=lL;refine⟨gj hR (v:=z) ?_ eD,rfl⟩;simp only[execOp,aS,hu];rw[Sem.run_bind];have:(Instr.field t (.agg cs) i).run P w = .ok z w:=by simp only[Instr.field,Sem.run_bind,run_underlying dO,Result.andThen_ok,dV,asAgg,Sem.run_pure,hz]
      rw[this];rfl
     .simp at h
    .simp at h
   .simp at h
  .simp at h
 ·-- indexAddr
  rename_i t x i aS;split at h
  .rename_i ti ht;unfold oChk at h;split at h
   .rename_i b c hc;simp only[j5,Act.val.injEq]at h;obtain⟨rfl,rfl,rfl⟩:=h;obtain⟨z,hz,hl,h1⟩:=L0 hT hR au ht hc (eC (cD hR ax x)) (eC (cD hR ax i));exact⟨pT hR (by simp[execOp,aS,hz]) hl h1,rfl⟩
   .simp at h
  .simp at h
 ·-- index
  rename_i t x i aS;split at h
  .rename_i ti ht;split at h
   .rename_i b c hc;simp only[j5,Act.val.injEq]at h;obtain⟨rfl,rfl,rfl⟩:=h;obtain⟨z,hz,eD⟩:=L3 hT ht hc (cD hR ax x) (eC (cD hR ax i));exact⟨gj hR (v:=z) (by simp[execOp,aS,hz]) eD,rfl⟩
   .simp at h
  .simp at h
 ·-- makeMap
  rename_i t aS;split at h
  .rename_i k v ht;split at h
   .rename_i fQ;simp only[j5,Act.val.injEq]at h;obtain⟨_,rfl,rfl⟩:=h;obtain⟨γ',ai,bL,eZ⟩:=Nf (P:=P) (t:=t) (k:=k) (v:=v) hR (au.free fQ);exact⟨⟨_,_,S,γ',.inl (by simp[execOp,aS,ai]),bL,eZ⟩,rfl⟩
   .simp at h
  .simp at h
 ·-- lookup
  rename_i t x i ok aS;split at h
  .rename_i k v ht;split at h
   .rename_i b ys q hm;obtain⟨z,hz,ai⟩:=M8 hT hR e8 ht hm (eC (cD hR ax x)) (eC (cD hR ax i));split at h
    .simp only[j5,Act.val.injEq]at h;obtain⟨_,rfl,rfl⟩:=h;have hr:=ai true;simp only[if_true]at hr;refine⟨gj hR (v:= .tuple #[z,.bool (@mU _ _ k.keq ys q)]) (by simp[execOp,aS,hr]) ?_,rfl⟩;exact⟨_,rfl,rJ hz,⟨rfl,λ_=>rfl⟩,trivial⟩
    .simp only[j5,Act.cel,Act.val.injEq]at h;obtain⟨_,rfl,rfl⟩:=h;have hr:=ai false;simp only[kb,qi]at hr;exact⟨gj hR (v:=z) (by simp[execOp,aS,hr]) (rJ hz),rfl⟩
   .simp at h
  .simp at h
 ·-- mapUpdate
  rename_i t x i y aS;split at h
  .rename_i k v ht;split at h
   .rename_i b ys q z u' hm hd;simp only[j5,Act.val.injEq]at h;obtain⟨_,rfl,rfl⟩:=h;obtain⟨w',S',ai,bL⟩:=Nb hT hR e8 ht hm (eC (cD hR ax x)) (eC (cD hR ax i)) aF hd (cD hR ax y);exact⟨⟨undef,w',S',γ,.inr ⟨by simp[execOp,aS,ai],rfl⟩,bL,⟨trivial,λh=>absurd rfl h⟩⟩,rfl⟩
   .simp at h
  .simp at h
 ·-- extract
  rename_i x i aS;split at h
  .rename_i l hl;split at h
   .rename_i c hc;simp only[j5,Act.cel,Act.val.injEq]at h;obtain⟨_,rfl,rfl⟩:=h;have hx:=gT hR x;rw[hl]at hx;obtain⟨vs,hu,ah⟩:=hx;obtain⟨z,hz,eD⟩:=ah.get i c hc;refine⟨gj hR (v:=z) ?_ eD,rfl⟩;have Nn:vs[i]? = some z:=by simpa using hz
    simp[execOp,aS,hu,Instr.extract,Nn]
   .simp at h
  .simp at h
 ·-- call
  rename_i cl aS;have bu:=yB hR ax cl.args.toList;split at h
  ·-- len
   rename_i dC;split at h
   .rename_i x t dM iQ;split at h
    .rename_i ti ht;unfold iE at h;split at h
     .rename_i c hc;simp only[j5,Act.leaf,Act.val.injEq]at h;obtain⟨_,rfl,rfl⟩:=h;obtain⟨z,hz,hl,h1⟩:=L5 (ty:=o.type) hT hR au ht hc (eC (cD hR ax x));have e1:cl.args = #[x]:=by apply k8;simpa using dM
      have e2:cl.argTypes = #[t]:=by apply k8;simpa using iQ
      refine⟨pT hR (v:=z) ?_ hl h1,rfl⟩;simp[execOp,aS,resolve,dC,invoke,builtin,e1,e2,hz]
     .simp at h
    .simp at h
   .simp at h
  ·-- min
   rename_i dC;unfold iE at h;split at h
   .rename_i c hc;simp only[j5,Act.leaf,Act.val.injEq]at h;obtain⟨_,rfl,rfl⟩:=h;obtain⟨z,hz,hl,h1⟩:=LQ (P:=P) (ts:=cl.argTypes) (ty:=o.type) hc bu;refine⟨pT hR (v:=z) ?_ hl h1,rfl⟩;have e1:cl.args.map a.eval=(cl.args.toList.map a.eval).toArray:=by apply k8;simp
    simp[execOp,aS,resolve,dC,invoke,builtin,e1,hz]
   .simp at h
  ·-- max
   rename_i dC;unfold iE at h;split at h
   .rename_i c hc;simp only[j5,Act.leaf,Act.val.injEq]at h;obtain⟨_,rfl,rfl⟩:=h;obtain⟨z,hz,hl,h1⟩:=LR (P:=P) (ts:=cl.argTypes) (ty:=o.type) hc bu;refine⟨pT hR (v:=z) ?_ hl h1,rfl⟩;have e1:cl.args.map a.eval=(cl.args.toList.map a.eval).toArray:=by apply k8;simp
    simp[execOp,aS,resolve,dC,invoke,builtin,e1,hz]
   .simp at h
  ·-- append
   rename_i dC;split at h
   .rename_i t t' s' x iQ dM;split at h
    .rename_i B6;subst B6;split at h
     .rename_i ti ht;split at h
      .rename_i el aD;split at h
       .rename_i b' v' u' hh;simp only[j5,Act.val.injEq]at h;obtain⟨rfl,rfl,rfl⟩:=h;obtain⟨z,w',ai,bL,hl,h1⟩:=ME (ty:=o.type) hT hR au ht aD hh (eC (cD hR ax s')) (eC (cD hR ax x));have e1:cl.args = #[s',x]:=by apply k8;simpa using dM
        have e2:cl.argTypes = #[t,t]:=by apply k8;simpa using iQ
        refine⟨⟨z,w',S,γ,.inl ?_,bL,hl,λ_=>h1⟩,rfl⟩;simp[execOp,aS,resolve,dC,invoke,builtin,e1,e2,ai]
       split at h
       .rename_i v' u' hh;simp only[j5,Act.val.injEq]at h;obtain⟨_,rfl,rfl⟩:=h;obtain⟨z,w',γ',ai,bL,hl,h1⟩:=MH (ty:=o.type) hT hR au aF ht aD hh (eC (cD hR ax s')) (eC (cD hR ax x));have e1:cl.args = #[s',x]:=by apply k8;simpa using dM
        have e2:cl.argTypes = #[t,t]:=by apply k8;simpa using iQ
        refine⟨⟨z,w',S,γ',.inl ?_,bL,hl,λ_=>h1⟩,rfl⟩;simp[execOp,aS,resolve,dC,invoke,builtin,e1,e2,ai]
       split at h
       .rename_i xs frz u' ys hs hx;split at h
        .rename_i ay;simp only[j5,Act.val.injEq,jg]at h;obtain⟨cM,rfl,rfl⟩:=h;obtain⟨v',w',S',γ',ai,bL,eZ⟩:=Mm (ty:=o.type) hT hR au aF ht aD hs hx (au.free ay) cM (eC (cD hR ax s')) (eC (cD hR ax x));have e1:cl.args = #[s',x]:=by apply k8;simpa using dM
         have e2:cl.argTypes = #[t,t]:=by apply k8;simpa using iQ
         refine⟨⟨v',w',S',γ',.inl ?_,bL,eZ⟩,rfl⟩;simp[execOp,aS,resolve,dC,invoke,builtin,e1,e2,ai]
        .simp at h
       .simp at h
      .simp at h
     .simp at h
    .simp at h
   .simp at h
  ·-- value
   split at h
   .split at h
    .split at h
     .simp at h
     .simp at h
    .simp at h
   .split at h
    .split at h
     .simp at h
     .simp at h
    .simp at h
   .simp at h
  ·-- copy
   rename_i dC;split at h
   .rename_i t t' x y iQ dM;split at h
    .rename_i B6;subst B6;split at h
     .rename_i ti ht;split at h
      .rename_i c u' hc;simp only[j5,Act.val.injEq]at h;obtain⟨_,rfl,rfl⟩:=h;obtain⟨v',w',ai,bL,eZ⟩:=MB (ty:=o.type) hT hR au ht hc (eC (cD hR ax x)) (eC (cD hR ax y));have e1:cl.args = #[x,y]:=by apply k8;simpa using dM
       have e2:cl.argTypes = #[t,t]:=by apply k8;simpa using iQ
       refine⟨⟨v',w',S,γ,.inl ?_,bL,eZ⟩,rfl⟩;simp[execOp,aS,resolve,dC,invoke,builtin,e1,e2,ai]
      .simp at h
     .simp at h
    .simp at h
   .simp at h
  ·-- clear
   rename_i dC;split at h
   .rename_i t x iQ dM;split at h
    .rename_i ti ht;split at h
     .rename_i u' hc;simp only[j5,Act.val.injEq]at h;obtain⟨_,rfl,rfl⟩:=h;obtain⟨v',w',ai,bL⟩:=MC (ty:=o.type) hT hR au ht hc (eC (cD hR ax x));have e1:cl.args = #[x]:=by apply k8;simpa using dM
      have e2:cl.argTypes = #[t]:=by apply k8;simpa using iQ
      refine⟨⟨v',w',S,γ,.inl ?_,bL,⟨trivial,λh=>absurd rfl h⟩⟩,rfl⟩;simp[execOp,aS,resolve,dC,invoke,builtin,e1,e2,ai]
     .simp at h
    .simp at h
   .simp at h
  .simp at h
 ·-- slice
  rename_i t x lo hi aS;split at h
  .rename_i ti ht;split at h
   .rename_i b c u' hc;simp only[j5,Act.val.injEq]at h;obtain⟨rfl,rfl,rfl⟩:=h
    have ho:∀y:Option Operand,ORep (aL S w γ σ.bx) (y.map λx=>lf ((σ.ev x).cel act)) (y.map a.eval):=by
     intro y;cases y with
     |none=>trivial
     |some y=>exact eC (cD hR ax y)
    obtain⟨v',S',γ',ai,bL,eZ⟩:=Mw hT hR au ht (λk hk=>au.free hk) hc (eC (cD hR ax x)) (ho lo) (ho hi);refine⟨⟨v',w,S',γ',.inl ?_,bL,eZ⟩,rfl⟩;simp[execOp,aS,ai]
   .simp at h
  .simp at h
 ·-- slice with a capacity
  rename_i t x lo hi mx aS;split at h
  .rename_i ti ht;split at h
   .rename_i b hc;simp only[j5,Act.val.injEq]at h;obtain⟨rfl,rfl,rfl⟩:=h
    have ho:∀y:Option Operand,ORep (aL S w γ σ.bx) (y.map λx=>lf ((σ.ev x).cel act)) (y.map a.eval):=by
     intro y;cases y with
     |none=>trivial
     |some y=>exact eC (cD hR ax y)
    obtain⟨v',ai⟩:=MA hT hR au ht hc (eC (cD hR ax x)) (ho lo) (ho hi) (eC (cD hR ax mx));refine⟨⟨v',w,S,γ,.inl ?_,hR,⟨trivial,λh=>absurd rfl h⟩⟩,rfl⟩;simp[execOp,aS,ai]
   .simp at h
  .simp at h
 .simp at h
theorem Hg{P:Program}{E:Env}(hR:Rel N E.np S0 w0 refs σ a w S γ){act:List (Nat×Bool)}(ax:lJ (tm a) act){rw:Nat->BS}(e8:RdR σ rw)
  {o:Oper}{f:Nat}{args:List Arg}{mk:Ret->Option (Slot×Ups)}(h:cp E σ.ev rw act o=some (.call f args mk))(hf:Fun P f){K:Ret->Prop}(cj:yu P f args K) :
  ∃vals,(execOp a.eval o).run P w = .ok (.enter f vals) w/\
   (Calls P f vals w λe w'=>∃ret,K ret/\∀s u,mk ret=some (s,u)->∃v S' γ',e = .returned v/\Rel N E.np S0 w0 refs (σ.upd u) a w' S' γ'/\fh S' w' γ' (σ.upd u).bx (tm a) s v)/\
   ∀ret s u,mk ret=some (s,u)->s.bare=true:=by
 have au:RdOk σ (mskM rw):=e8.msk;have aF:=tK (np:=E.np) au;unfold cp at h;dsimp only at h;split at h
 case h_23 cl aS=>
  have bu:=yB hR ax cl.args.toList;split at h
  case h_5 x dC=>
   split at h
   .rename_i g caps hl;split at h
    .rename_i as us fs has;split at h
     .rename_i aM;simp only[j5,Act.call.injEq]at h;obtain⟨rfl,rfl,rfl⟩:=h;have hx:=cD hR ax x;rw[rU hl (by simp)]at hx;obtain⟨cv,hu,fA⟩:=hx.1;refine⟨_,vJ hf aS dC hu,?_,?_⟩
      .have:=G1 hR e8 au aF has bu aM fA cj ((o.dst.getD 0)*64);have e1:(cl.args.toList.map a.eval++cv.toList).toArray=cl.args.map a.eval++cv:=by apply k8;simp
       rwa[e1]at this
      .intro ret s u aC;unfold nK at aC;split at aC
       .unfold mkHd at aC;split at aC
        .split at aC
         .split at aC
          .simp only[j5,j9]at aC;rw[<-aC.1];rfl
          .simp at aC
         .simp at aC
        .simp at aC
       .unfold uF at aC;split at aC
        .split at aC
         .simp only[j5,j9]at aC;rw[<-aC.1];exact Hd _
         .simp at aC
        .simp at aC
       split at aC
       .split at aC
        .split at aC
         .revert aC;dsimp only;split<;>(intro aC;simp only[j5,j9]at aC;rw[<-aC.1];rfl)
         .simp at aC
        .simp at aC
       .simp at aC
     .simp at h
    .simp at h
   .rename_i g ks hl;split at h
    .rename_i as us fs has;split at h
     .rename_i aM;simp only[j5,Act.call.injEq]at h;obtain⟨rfl,rfl,rfl⟩:=h;have hx:=cD hR ax x;rw[rU hl (by simp)]at hx;obtain⟨cv,hu,fA⟩:=hx.1;refine⟨_,vJ hf aS dC hu,?_,?_⟩
      .have:=G1 hR e8 au aF has (bu.append (GG fA)) aM (caps:=[]) (cv:=[]) trivial (by simpa using cj) ((o.dst.getD 0)*64);have e1:((cl.args.toList.map a.eval++cv.toList)++[]).toArray=cl.args.map a.eval++cv:=by apply k8;simp
       rwa[e1]at this
      .intro ret s u aC;unfold nK at aC;split at aC
       .unfold mkHd at aC;split at aC
        .split at aC
         .split at aC
          .simp only[j5,j9]at aC;rw[<-aC.1];rfl
          .simp at aC
         .simp at aC
        .simp at aC
       .unfold uF at aC;split at aC
        .split at aC
         .simp only[j5,j9]at aC;rw[<-aC.1];exact Hd _
         .simp at aC
        .simp at aC
       split at aC
       .split at aC
        .split at aC
         .revert aC;dsimp only;split<;>(intro aC;simp only[j5,j9]at aC;rw[<-aC.1];rfl)
         .simp at aC
        .simp at aC
       .simp at aC
     .simp at h
    .simp at h
   .simp at h
  all_goals (first|(simp at h;done)|skip)
  all_goals (exfalso;revert h;try simp only[iE])
  all_goals (repeat' split)
  all_goals simp[Act.leaf]
 all_goals (first|(simp at h;done)|skip)
 all_goals (repeat' (first|(simp at h;done)|(exact absurd h Nj)|split at h))<;>simp_all[iE,oCel,oChk,Act.leaf,Act.cel]
 all_goals (repeat' (split at h))<;>simp_all
end
end Go.Lft
