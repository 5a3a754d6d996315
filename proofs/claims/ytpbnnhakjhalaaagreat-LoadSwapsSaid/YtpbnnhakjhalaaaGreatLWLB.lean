/- New variables; G1 Xc variables. -/
import Derived.Test.YtpbnnhakjhalaaaGreatLWLA
import Derived.MapKept
set_option linter.unusedVariables false
namespace Go.Lft
section
variable{N:NT}{np:Nat}{S0:aH}{w0:World}{refs:Refs}{σ:St}{a:Go.Act}{w:World}{S:aH}{γ:Nat->Value}
def gset(γ:Nat->Value)(n:Nat)(v:Value):Nat->Value:=λk=>if k=n then v else γ k
theorem dY(γ:Nat->Value)(n:Nat)(v:Value):gset γ n v n=v:=by simp[gset]
theorem eI(γ:Nat->Value){n k:Nat}(v:Value)(h:k≠n):gset γ n v k=γ k:=by simp[gset,h]
theorem xK(hR:Rel N np S0 w0 refs σ a w S γ)(o:Obj):dn S w S (w.alloc o):=
 λg i h=>⟨h,World.cell?_alloc_lt w o ⟨g,i,none⟩ (hR.here g i h)⟩
theorem iO{bx:Nat->BS}{k:Nat}{b:Bx}(h:dS S w γ bx k b){g:Nat}(hg:blk (γ k)=some g):g<w.heap.size:=by
 cases b with
 |cell ls frz=>obtain⟨g',cur,e,h1,h2,_⟩:=h;rw[h1]at hg;simp[blk]at hg;subst hg;exact(jf.1 h2).1
 |lst e t xs frz=>exact h.1.lt hg
 |arr n t xs=>obtain⟨g',cur,e,h1,h2,_⟩:=h;rw[h1]at hg;simp[blk]at hg;subst hg;exact(jf.1 h2).1
theorem G2(hR:Rel N np S0 w0 refs σ a w S γ){n:Nat}(hn:σ.bx n = .free){o:Obj}{b:Bx}{v:Value}(hv:∀g,blk v=some g->g=w.heap.size)
  (hb:BxLe γ σ.bx (gset γ n v) (σ.setB n (.live b)).bx->dS S (w.alloc o) (gset γ n v) (σ.setB n (.live b)).bx n b) :
  Rel N np S0 w0 refs (σ.setB n (.live b)) a (w.alloc o) S (gset γ n v)/\BxLe γ σ.bx (gset γ n v) (σ.setB n (.live b)).bx:=by
 have hle:BxLe γ σ.bx (gset γ n v) (σ.setB n (.live b)).bx:=by
  intro k hk;have aT:k≠n:=by rintro rfl;exact hk hn
  rw[cj σ _ aT,eI γ v aT];exact⟨hk,rfl,λb hb=>⟨b,hb,.refl b⟩⟩
 have aA:=xK hR o
 refine⟨Rel.step (bx':=(σ.setB n (.live b)).bx) hR aA hle ?_ ?_ ?_ hR.new ?_ ?_ ?_ hR.os hR.tape hR.output (λg hg _ h=>⟨heap_alloc_old w o hg,λk b' aD cF=>by
  by_cases hk:k=n
  .subst hk;rw[dY]at cF;have:=hv g cF;omega
  .rw[cj σ _ hk]at aD;rw[eI γ v hk]at cF;exact h k b' aD cF⟩),hle⟩
 .intro k b' aD;by_cases hk:k=n
  .subst hk;rw[er]at aD;simp at aD;subst aD;exact hb hle
  .rw[cj σ _ hk]at aD;refine dS.keep aA hle (eI γ v hk) (λg hg=>⟨?_,λ_=>Iff.rfl⟩) (hR.box k b' aD);exact heap_alloc_old w o (iO (hR.box k b' aD) hg)
 .intro k b' g aD hg;by_cases hk:k=n
  .subst hk;rw[dY]at hg;exact .inl (by rw[hv g hg];exact hR.grow)
  .rw[cj σ _ hk]at aD;rw[eI γ v hk]at hg;exact hR.own k b' g aD hg
 .intro k k' b1 b2 g aT h1 h2 hg an;by_cases hk:k=n
  .subst hk;have bf:k'≠k:=λh=>aT h.symm;rw[dY]at hg;rw[cj σ _ bf]at h2;rw[eI γ v bf]at an;have:=iO (hR.box k' b2 h2) an;rw[hv g hg]at this;omega
  .by_cases bf:k'=n
   .subst bf;rw[dY]at an;rw[cj σ _ hk]at h1;rw[eI γ v hk]at hg;have:=iO (hR.box k b1 h1) hg;rw[hv g an]at this;omega
   .rw[cj σ _ hk]at h1;rw[cj σ _ bf]at h2;rw[eI γ v hk]at hg;rw[eI γ v bf]at an;exact hR.apart k k' b1 b2 g aT h1 h2 hg an
 .intro g i h;have:=hR.here g i h;simp;omega
 .intro g hg hr;rw[heap_alloc_old w o (by have:=hR.grow;omega)];exact hR.below g hg hr
 .have:=hR.grow;simp;omega
theorem zQ(hR:Rel N np S0 w0 refs σ a w S γ)(o:Nat):¬S w.heap.size o:=λh=>by have:=hR.here _ _ h;omega
theorem DK(hR:Rel N np S0 w0 refs σ a w S γ){n:Nat}(hn:σ.bx n = .free){ls:List Leaf}{cur:Array Value}{e:TypeId}
  (hl:All2 (bn S w γ σ.bx) ls cur.toList)(h1:∀u∈cur.toList,One u) :
  Rel N np S0 w0 refs (σ.setB n (.live (.cell ls false))) a (w.alloc (.cells cur e)) S (gset γ n (.pointer (some ⟨w.heap.size,0,none⟩)))/\
   bz S (w.alloc (.cells cur e)) (gset γ n (.pointer (some ⟨w.heap.size,0,none⟩))) (σ.setB n (.live (.cell ls false))).bx (.one (.bp n 0)) (.pointer (some ⟨w.heap.size,0,none⟩)):=by
 obtain⟨h,hle⟩:=G2 hR hn (o:= .cells cur e) (b:= .cell ls false) (v:= .pointer (some ⟨w.heap.size,0,none⟩)) (λg hg=>by simp[blk]at hg;exact hg.symm) (λhle=>
  ⟨w.heap.size,cur,e,dY _ _ _,heap_alloc_new w _,by rw[List.take_of_length_le (Nat.le_of_eq hl.length.symm)];exact hl.mono (λx u hx=>bn.keep (xK hR _) hle hx),λu hu=>h1 u (ky hu),λ_ o=>zQ hR o,by simp⟩)
 refine⟨h,⟨by rw[er];simp,rfl,λb _=>⟨w.heap.size,dY _ _ _,rfl⟩⟩,λ_=>rfl⟩
theorem OL(hR:Rel N np S0 w0 refs σ a w S γ){n m:Nat}(hn:σ.bx n = .free){t:Ty}{xs:List t.den}{cur:Array Value}{e:TypeId}
  (hl:Rep S w (.arr m t) xs cur.toList) :
  Rel N np S0 w0 refs (σ.setB n (.live (.arr m t xs))) a (w.alloc (.cells cur e)) S (gset γ n (.pointer (some ⟨w.heap.size,0,none⟩)))/\
   bz S (w.alloc (.cells cur e)) (gset γ n (.pointer (some ⟨w.heap.size,0,none⟩))) (σ.setB n (.live (.arr m t xs))).bx (.one (.bp n 0)) (.pointer (some ⟨w.heap.size,0,none⟩)):=by
 obtain⟨h,hle⟩:=G2 hR hn (o:= .cells cur e) (b:= .arr m t xs) (v:= .pointer (some ⟨w.heap.size,0,none⟩)) (λg hg=>by simp[blk]at hg;exact hg.symm) (λ_=>
  ⟨w.heap.size,cur,e,dY _ _ _,heap_alloc_new w _,Rep.keep (xK hR _) _ _ _ hl,λo=>zQ hR o⟩)
 refine⟨h,⟨by rw[er];simp,rfl,λb _=>⟨w.heap.size,dY _ _ _,rfl⟩⟩,λ_=>rfl⟩
theorem tq{bx:Nat->BS}:∀(t:Ty),All2 (bn S w γ bx) (mO t) (iM t)
 |.int _=>⟨rfl,trivial⟩
 |.bool=>⟨rfl,trivial⟩
 |.str=>⟨rfl,trivial⟩
 |.unit=>trivial
 |.wrap a=>tq a
 |.pair a b=>(tq a).append (tq b)
 |.list _=>⟨rfl,trivial⟩
 |.arr n a=>by
  show All2 _ ((List.range n).flatMap λ_=>mO a) ((List.replicate n (iM a)).flatten);induction n with
  |zero=>simp[All2]
  |succ n ih=>rw[List.range_succ,List.flatMap_append,List.replicate_succ',ve];refine ih.append ?_;simpa using tq a
theorem oh:∀(t:Ty),Rep S w t t.dflt (iM t)
 |.int _=>rfl
 |.bool=>rfl
 |.str=>rfl
 |.unit=>rfl
 |.wrap a=>oh a
 |.pair a b=>⟨_,_,rfl,oh a,oh b⟩
 |.list _=>⟨none,0,rfl,jq _,by simp[maxLen],λ_=>rfl,λb hb=>by simp at hb⟩
 |.arr n a=>by
  refine⟨List.length_replicate,List.replicate n (iM a),?_,rfl⟩;have hz:=oh a
  have:∀n,All2 (λx c=>Rep S w a x c) (List.replicate n a.dflt) (List.replicate n (iM a)):=by
   intro n;induction n with
   |zero=>exact trivial
   |succ n ih=>exact⟨hz,ih⟩
  exact this n
theorem zR(hR:Rel N np S0 w0 refs σ a w S γ){k:Nat}{b b':Bx}(hk:σ.bx k = .live b){g:Nat}(hg:blk (γ k)=some g)(hS:∀o,¬S g o)(og:ij b b')
  {old new:Array Value}{e:TypeId}(hh:w.heap[g]? = some (.cells old e (0,0)))
  (hb:BxLe γ σ.bx γ (σ.setB k (.live b')).bx->dn S w S (w.setRow g new)->dS S (w.setRow g new) γ (σ.setB k (.live b')).bx k b') :
  Rel N np S0 w0 refs (σ.setB k (.live b')) a (w.setRow g new) S γ:=by
 have hle:BxLe γ σ.bx γ (σ.setB k (.live b')).bx:=by
  intro k' bf;by_cases bL:k'=k
  .subst bL;rw[er];exact⟨by simp,rfl,λb1 cO=>by simp at cO;subst cO;exact⟨b,hk,og⟩⟩
  .rw[cj σ _ bL];exact⟨bf,rfl,λb hb=>⟨b,hb,.refl b⟩⟩
 have aA:dn S w S (w.setRow g new):=by
  intro g' o h;refine⟨h,cell_setRow_other w g new ⟨g',o,none⟩ ?_⟩
  rintro rfl
  exact hS o h
 have bA:∀k' b1,(σ.setB k (.live b')).bx k' = .live b1->∃b2,σ.bx k' = .live b2:=by
  intro k' b1 h1;by_cases bL:k'=k
  .subst bL;exact⟨b,hk⟩
  .rw[cj σ _ bL]at h1;exact⟨b1,h1⟩
 have au:=(jf.1 hh).1
 refine Rel.step (bx':=(σ.setB k (.live b')).bx) hR aA hle ?_ ?_ ?_ hR.new ?_ ?_ ?_ hR.os hR.tape hR.output (λg' _ _ h=>⟨setRow_other w g g' new (λe=>h k b hk (e▸hg)),λk' b1 h1=>by
  obtain⟨b2,h2⟩:=bA k' b1 h1;exact h k' b2 h2⟩)
 .intro k' b1 h1;by_cases bL:k'=k
  .subst bL;rw[er]at h1;simp at h1;subst h1;exact hb hle aA
  .rw[cj σ _ bL]at h1;refine dS.keep aA hle rfl (λg' an=>⟨?_,λ_=>Iff.rfl⟩) (hR.box k' b1 h1);exact setRow_other w g g' new (λh=>hR.apart k' k b1 b g bL h1 hk (h▸an) hg)
 .intro k' b1 g' h1 an;obtain⟨b2,h2⟩:=bA k' b1 h1;exact hR.own k' b2 g' h2 an
 .intro k1 k2 b1 b2 g' aT h1 h2 an;obtain⟨rL,kJ⟩:=bA k1 b1 h1;obtain⟨rM,jY⟩:=bA k2 b2 h2;exact hR.apart k1 k2 rL rM g' aT kJ jY an
 .intro g' o h;rw[size_setRow];exact hR.here g' o h
 .intro g' an hr;rw[setRow_other w g g' new ?_]
  .exact hR.below g' an hr
  .rintro rfl
   rcases hR.own k b _ hk hg with h|h
   .omega
   .exact hr h.1
 .rw[size_setRow];exact hR.grow
theorem DL{R:Leaf->Value->Prop}{ls new:List Leaf}{cs zs:List Value}{c:Nat}(h:All2 R ls cs)(h':All2 R new zs) :
  All2 R (oP ls c new) (cs.take c++zs++cs.drop (c+zs.length)):=by
 unfold oP;rw[h'.length];exact((h.take c).append h').append (h.drop _)
theorem OM{X zs:List Value}{c n:Nat}(h:c+zs.length<=n)(h':n<=X.length):(X.take c++zs++X.drop (c+zs.length)).take n=(X.take n).take c++zs++(X.take n).drop (c+zs.length):=by
 have e1:(X.take n).take c=X.take c:=by rw[ze,Nat.min_eq_left (by omega)]
 have e2:(X.take c++zs).length=c+zs.length:=by simp;omega
 rw[e1,List.take_append,List.take_of_length_le (by rw[e2];exact h),e2,List.drop_take]
theorem xL{bx:Nat->BS}{c:Cel}{ls:List Leaf}{z:Value}(h:c.leaves=some ls)(hc:bz S w γ bx c z) :
  All2 (bn S w γ bx) ls z.cells.toList/\∀u∈z.cells.toList,One u:=by
 unfold Cel.leaves at h;split at h
 .simp at h
 .rename_i l hd;simp at h;subst h;have h1:=hc.2 hd;rw[xJ h1];exact⟨⟨hc.1,trivial⟩,λu hu=>by simp at hu;subst hu;exact h1⟩
 .simp at h;subst h;obtain⟨cs,rfl,ha,h1⟩:=hc;exact⟨ha,h1⟩
 .simp at h
end
theorem vB{m:Nat}:∀{l:List (List Value)},(∀c∈l,c.length=m)->l.flatten.length=l.length*m
 |[],_=>by simp
 |c::l,h=>by
  have h1:=h c (by simp);have h2:=vB (l:=l) (λd hd=>h d (v6 _ hd));simp only[ke,je,jo,Nat.add_mul,Nat.one_mul];omega
section
variable{N:NT}{np:Nat}{S0:aH}{w0:World}{refs:Refs}{σ:St}{a:Go.Act}{w:World}{S:aH}{γ:Nat->Value}
theorem jH:∀(u:Ups)(σ:St){k:Nat},u.any (λy=>y.1==k)=false->(σ.upd u).bx k=σ.bx k
 |[],_,_,_=>rfl
 |e::u,σ,k,h=>by
  simp only[List.any_cons,Bool.or_eq_false_iff,beq_eq_false_iff_ne]at h;show ((σ.setB e.1 e.2).upd u).bx k=_;rw[jH u _ h.2,cj σ _ (λhh=>h.1 hh.symm)]
theorem All2.all_len{t:Ty}{xs:List t.den}{css:List (List Value)}(h:All2 (λx c=>Rep S w t x c) xs css):∀c∈css,c.length=t.size:=by
 intro c hc;obtain⟨x,_,hx⟩:=h.mem_right c hc;exact Rep.length _ _ _ hx
theorem G3{cur:List Value}{css:List (List Value)}{m n i c:Nat}{ci zs:List Value}(hm:∀c∈css,c.length=m)(hn:css.length=n)(cT:cur.take (n*m)=css.flatten)
  (hi:css[i]? = some ci)(hc:c+zs.length<=m) :
  (cur.take (i*m+c)++zs++cur.drop (i*m+c+zs.length)).take (n*m)=(css.set i (ci.take c++zs++ci.drop (c+zs.length))).flatten:=by
 have au:i<css.length:=(ju.1 hi).1;have mf:css[i]=ci:=(ju.1 hi).2;have dE:ci.length=m:=hm ci (jy hi);obtain⟨A,B,hA,hB,rQ⟩:∃A B:List (List Value),A.length=i/\A.length+1+B.length=n/\css=A++ci::B:=by refine⟨css.take i,css.drop (i+1),by simp;omega,by simp;omega,?_⟩;rw[<-mf,List.getElem_cons_drop au,qn]
 have Xd:∀c∈A,c.length=m:=λd hd=>hm d (by rw[rQ];simp[hd]);have Xe:∀c∈B,c.length=m:=λd hd=>hm d (by rw[rQ];simp[hd]);have lA:A.flatten.length=i*m:=by rw[vB Xd,hA]
 have lB:=vB Xe;have vC:css.set i (ci.take c++zs++ci.drop (c+zs.length))=A++(ci.take c++zs++ci.drop (c+zs.length))::B:=by rw[rQ,zq _ _ (by omega),hA,Nat.sub_self,List.set_cons_zero]
 have zS:cur=A.flatten++(ci++(B.flatten++cur.drop (n*m))):=by have:=qn (n*m) cur;rw[cT,rQ,ve,ke]at this;rw[<-jg ci,<-jg];exact this.symm
 have cP:ci=ci.take c++((ci.drop c).take zs.length++ci.drop (c+zs.length)):=by have h1:=qn c ci;have h2:=qn zs.length (ci.drop c);rw[List.drop_drop]at h2;rw[h2,h1]
 have lp:(ci.take c).length=c:=by simp;omega
 have lq:((ci.drop c).take zs.length).length=zs.length:=by simp;omega
 have lr:(ci.drop (c+zs.length)).length=m-(c+zs.length):=by simp[dE]
 generalize ci.take c=p at *
 generalize (ci.drop c).take zs.length=q at *
 generalize ci.drop (c+zs.length)=r at *
 generalize cur.drop (n*m)=tl at *
 have e1:cur.take (i*m+c)=A.flatten++p:=by rw[zS,cP];simp only[<-jg];rw[jg,jg,jg];exact List.take_left' (by simp[lA,lp])
 have e2:cur.drop (i*m+c+zs.length)=r++(B.flatten++tl):=by
  rw[zS,cP];have:A.flatten++(p++(q++r)++(B.flatten++tl))=(A.flatten++p++q)++(r++(B.flatten++tl)):=by simp
  rw[this];exact List.drop_left' (by simp[lA,lp,lq];omega)
 rw[e1,e2,vC,ve,ke];have:A.flatten++p++zs++(r++(B.flatten++tl))=(A.flatten++(p++zs++r++B.flatten))++tl:=by simp
 rw[this];refine List.take_left' ?_;simp only[je,lA,lp,lr,lB];have:n*m=i*m+m+B.length*m:=by rw[<-hB,hA,Nat.add_mul,Nat.add_mul,Nat.one_mul]
 omega
theorem DM{P:Program}{T:Nat->Option TyI}(hT:cd P T){t:TypeId}{ti:TyI}(ht:T t=some ti){g o:Nat}{z:Value}{cur:Array Value}{e:TypeId}
  (hh:w.heap[g]? = some (.cells cur e (0,0)))(hs:z.cells.toList.length=ti.size)(hl:o+z.cells.toList.length<=cur.size)(h1:∀u∈z.cells.toList,One u) :
  (Instr.storeAt t (.pointer (some ⟨g,o,none⟩)) z).run P w = .ok () (w.setRow g (cur.toList.take o++z.cells.toList++cur.toList.drop (o+z.cells.toList.length)).toArray):=by
 have aA:=run_storeCells_at P g o e z.cells.toList 0 cur w hh (by simpa using hl) h1;simp only[Nat.add_zero]at aA;have aT:¬z.cells.size≠ti.size:=by simpa using hs
 simp only[Instr.storeAt,Sem.run_bind,Instr.sureAddr,Sem.run_pure,Result.andThen_ok,storeVar,gS hT ht,Sem.run_ite,if_neg aT,aA]
theorem Xf{P:Program}{E:Env}(hT:cd P E.T)(hR:Rel N np S0 w0 refs σ a w S γ){rd rdf:Nat->BS}(aL:RdOk σ rd)(bu:RdF np σ rdf){t:TypeId}{ti:TyI}(ht:E.T t=some ti)
  {x:Leaf}{val:Cel}{u:Ups}{ux z:Value}(h:sV rd rdf ti.size val x=some u)(hx:bn S w γ σ.bx x ux)(hz:bz S w γ σ.bx val z) :
  ∃w' S',(Instr.storeAt t ux z).run P w = .ok () w'/\Rel N np S0 w0 refs (σ.upd u) a w' S' γ:=by
 unfold sV at h;split at h
 .rename_i k c;split at h
  .rename_i ls hk;have hk:=aL.live hk;split at h
   .rename_i new dM;split at h
    .rename_i hc;simp only[j4]at h;subst h;obtain⟨bF,hle⟩:=hc;obtain⟨ha,h1⟩:=xL dM hz;obtain⟨g,hg,hu⟩:=hx.2.2 _ hk;obtain⟨g',cur,e,an,hh,cT,fa,hS,_⟩:=hR.box k _ hk;rw[hg]at an;simp at an;subst an;subst hu;have hlen:=ha.length;have tt:=cT.length;simp at tt;refine⟨_,S,DM hT ht hh (by omega) (by simp at hlen ⊢;omega) h1,?_⟩;refine zR hR hk (by rw[hg];rfl) (hS rfl) (b':= .cell (oP ls c new) false) trivial hh (λhle aA=>?_);refine⟨g,_,e,hg,setRow_heap w g cur _ e (0,0) hh,?_,?_,λ_=>hS rfl,by simp⟩
     .have:=DL (c:=c) (cT.mono (λx u hx=>bn.keep aA hle hx)) (ha.mono (λx u hx=>bn.keep aA hle hx));have dU:(oP ls c new).length=ls.length:=by simp[oP];omega
      rw[dU];have:=OM (X:=cur.toList) (zs:=z.cells.toList) (c:=c) (n:=ls.length) (by omega) (by simp;omega);simp only[this];assumption
     .intro v hv;have dU:(oP ls c new).length=ls.length:=by simp[oP];omega
      rw[dU]at hv;have G4:=OM (X:=cur.toList) (zs:=z.cells.toList) (c:=c) (n:=ls.length) (by omega) (by simp;omega);simp only[G4]at hv;simp only[js]at hv;rcases hv with (hv|hv)|hv
      .exact fa v (ky hv)
      .exact h1 v hv
      .exact fa v (qz hv)
    .simp at h
   .simp at h
  .rename_i n el xs hk;have hk:=aL.live hk;split at h
   .rename_i mh;subst mh;split at h
    .rename_i n' a' ys;split at h
     .rename_i GA il;split at h
      .rename_i bF;simp only[j4]at h;subst h;have rR:=lK il;simp only[TV.mk.injEq,Ty.arr.injEq]at rR;obtain⟨⟨rfl,rfl⟩,rR⟩:=rR;obtain rfl:=eq_of_heq rR;obtain⟨cs,rfl,hr⟩:=hz;obtain⟨g,hg,hu⟩:=hx.2.2 _ hk;obtain⟨g',cur,e,an,hh,bk,hS⟩:=hR.box k _ hk;rw[hg]at an;simp at an;subst an;subst hu;have mU:=Rep.length _ _ _ hr;have qR:=Rep.length _ _ _ bk;have e1:(Value.agg cs).cells.toList=cs.toList:=rfl;refine⟨_,S,DM hT ht hh (by rw[e1,mU,bF];rfl) (by rw[e1,mU,<-qR];simp) (by rw[e1];exact Rep.one _ _ _ hr),?_⟩;refine zR hR hk (by rw[hg];rfl) hS (b':= .arr _ _ _) ⟨rfl,rfl⟩ hh (λhle aA=>?_);refine⟨g,_,e,hg,setRow_heap w g cur _ e (0,0) hh,?_,hS⟩;have hd:cur.toList.drop (0+cs.toList.length)=[]:=jc (by rw[mU,qR];omega);have hX:(cur.toList.take 0++(Value.agg cs).cells.toList++cur.toList.drop (0+(Value.agg cs).cells.toList.length)).toArray.toList=cs.toList:=by rw[e1,hd];simp
       rw[hX];exact Rep.keep aA _ _ _ hr
      .simp at h
     .simp at h
    .simp at h
   .simp at h
  .simp at h
 .rename_i k i c;split at h
  .rename_i el at_ xs hk;have bT:=aL.nm hk;have hk:=aL.live hk;split at h
   .rename_i new dM;split at h
    .rename_i hc;obtain⟨bF,hle⟩:=hc;split at h
     .rename_i en u1 G5;split at h
      .simp at h
      .rename_i qS;simp only[j4]at h;subst h;obtain⟨ha,h1⟩:=xL dM hz;have hlen:=ha.length;have rS:z.cells.toList.length=z.cells.size:=q9;obtain⟨_,hi,g,cap,hg,hu⟩:=hx.2.2 _ hk;obtain⟨css,aJ,al,Xg⟩:=gR bT (hR.box k _ hk);rcases aJ.2 with⟨_,h0⟩|⟨g',fP,cur,an,dG,hh,ik,jF,dr,cX⟩
       .omega
       rw[hg]at an;simp at an;obtain⟨rfl,rfl⟩:=an;subst hu;obtain⟨ci,mf,bk,dq⟩:=u6 (λx c hx=>Rep.length at_ x c hx) al i at_.dflt hi;have dE:=Rep.length _ _ _ bk;have cP:=DL (c:=c) (oY (ny at_ _ ci bk)) ha;obtain⟨hf,he,hp⟩:=u9 bu hR.box at_ G5 cP;obtain⟨S1,bj,cu,dN,dx⟩:=mT u1 σ S hR hf;have dD:(σ.upd u1).bx k = .live (.lst el at_ xs false):=by rw[jH u1 σ (qb.2 qS)];exact hk
       obtain⟨Xh,ON,OO,OP⟩:=gR bT (bj.box k _ dD);have tu:∀o,¬S1 g o:=(OP g (by rw[hg];rfl)).1 rfl;have OQ:i*at_.size+at_.size<=xs.length*at_.size:=by have:(i+1)*at_.size<=xs.length*at_.size:=jv _ (by omega);rwa[va]at this
       have OR:xs.length*at_.size<=cap*at_.size:=jv _ ik;have gD:c+z.cells.toList.length<=at_.size:=by omega
       refine⟨_,S1,DM hT ht hh (by omega) (by rw[dr];omega) h1,?_⟩;rw[iN];refine zR bj dD (by rw[hg];rfl) tu (b':= .lst el at_ (xs.set i en) false) ⟨rfl,rfl,λ_=>by simp⟩ hh (λfg cY=>?_);have o8:Rep S1 w at_ en (ci.take c++z.cells.toList++ci.drop (c+z.cells.toList.length)):=by have:=hp S1 w cu dN;rwa[List.take_of_length_le (by simp;omega)]at this
       refine zH bT ⟨css.set i (ci.take c++z.cells.toList++ci.drop (c+z.cells.toList.length)),⟨?_,.inr ⟨g,cap,_,?_,k7 _,setRow_heap w g cur _ el (0,0) hh,by simpa using ik,jF,?_,?_⟩⟩,?_,λg' an=>?_⟩
       .rw[vB (m:=at_.size)]
        .simp[al.length]
        .intro d hd;rcases List.mem_or_eq_of_mem_set hd with hd|rfl
         .exact All2.all_len al d hd
         .simp;omega
       .simpa using hg
       .simp only[zw,je,qg,v8,q9];omega
       .simp only[zr];exact G3 (All2.all_len al) al.length.symm cX mf gD
       .exact(al.mono (λx c hx=>Rep.keep (cu.trans cY) _ _ _ hx)).set i _ _ (Rep.keep cY _ _ _ o8)
       .rw[hg]at an;simp[blk]at an;subst an;exact⟨λ_=>tu,by simp⟩
     .simp at h
    .simp at h
   .simp at h
  .rename_i n at_ xs hk;have hk:=aL.live hk;split at h
   .rename_i new dM;split at h
    .rename_i hc;obtain⟨bF,hle⟩:=hc;split at h
     .rename_i en u1 G5;split at h
      .simp at h
      .rename_i qS;simp only[j4]at h;subst h;obtain⟨ha,h1⟩:=xL dM hz;have hlen:=ha.length;have rS:z.cells.toList.length=z.cells.size:=q9;obtain⟨hi,g,hg,hu⟩:=hx.2.2 _ hk;obtain⟨g',cur,e,an,hh,⟨hn,css,al,cT⟩,hS⟩:=hR.box k _ hk;rw[hg]at an;simp at an;subst an;subst hu;obtain⟨ci,mf,bk,dq⟩:=u6 (λx c hx=>Rep.length at_ x c hx) al i at_.dflt (by omega);have dE:=Rep.length _ _ _ bk;have cP:=DL (c:=c) (oY (ny at_ _ ci bk)) ha;obtain⟨hf,he,hp⟩:=u9 bu hR.box at_ G5 cP;obtain⟨S1,bj,cu,dN,dx⟩:=mT u1 σ S hR hf;have dD:(σ.upd u1).bx k = .live (.arr n at_ xs):=by rw[jH u1 σ (qb.2 qS)];exact hk
       obtain⟨g1,Xi,e1,iA,hh1,_,tu⟩:=bj.box k _ dD;rw[hg]at iA;simp at iA;subst iA;have zT:cur.toList.length=n*at_.size:=by rw[cT,vB (All2.all_len al),<-al.length,hn]
       have OQ:i*at_.size+at_.size<=n*at_.size:=by have:(i+1)*at_.size<=n*at_.size:=jv _ (by omega);rwa[va]at this
       have gD:c+z.cells.toList.length<=at_.size:=by omega
       refine⟨_,S1,DM hT ht hh (by omega) (by rw[<-q9,zT];omega) h1,?_⟩;rw[iN];refine zR bj dD (by rw[hg];rfl) tu (b':= .arr n at_ (xs.set i en)) ⟨rfl,rfl⟩ hh (λfg cY=>?_);have o8:Rep S1 w at_ en (ci.take c++z.cells.toList++ci.drop (c+z.cells.toList.length)):=by have:=hp S1 w cu dN;rwa[List.take_of_length_le (by simp;omega)]at this
       refine⟨g,_,e,hg,setRow_heap w g cur _ e (0,0) hh,⟨?_,css.set i (ci.take c++z.cells.toList++ci.drop (c+z.cells.toList.length)),?_,?_⟩,tu⟩
       .show List.length (List.set xs i en)=n;rw[zr];exact hn
       .exact(al.mono (λx c hx=>Rep.keep (cu.trans cY) _ _ _ hx)).set i _ _ (Rep.keep cY _ _ _ o8)
       .have DN:=G3 (cur:=cur.toList) (n:=n) (zs:=z.cells.toList) (All2.all_len al) (by rw[<-al.length,hn]) (by rw[<-zT,List.take_length,cT]) mf gD;rw[<-DN];symm;refine(List.take_of_length_le ?_).trans (by simp);simp only[je,qg,v8];omega
     .simp at h
    .simp at h
   .simp at h
  .simp at h
 .simp at h
end
theorem tw{m:Nat}:∀{l:List (List Value)}(i:Nat),(∀c∈l,c.length=m)->(l.take i).flatten=l.flatten.take (i*m)
 |[],i,_=>by simp
 |c::l,0,_=>by simp
 |c::l,i+1,h=>by
  have hc:=h c (by simp);have ih:=tw (l:=l) i (λd hd=>h d (by simp[hd]));rw[List.take_succ_cons,ke,ih,ke,va,Nat.add_comm,List.take_append,hc];rw[List.take_of_length_le (l:=c) (by omega),show m+i*m-m=i*m by omega]
theorem zU{m:Nat}:∀{l:List (List Value)}(i:Nat),(∀c∈l,c.length=m)->(l.drop i).flatten=l.flatten.drop (i*m)
 |[],i,_=>by simp
 |c::l,0,_=>by simp
 |c::l,i+1,h=>by
  have hc:=h c (by simp);have ih:=zU (l:=l) i (λd hd=>h d (by simp[hd]));rw[List.drop_succ_cons,ih,ke,va,Nat.add_comm,List.drop_append,hc];rw[jc (l:=c) (by omega),jt,show m+i*m-m=i*m by omega]
section
variable{N:NT}{np:Nat}{S0:aH}{w0:World}{refs:Refs}{σ:St}{a:Go.Act}{w:World}{S:aH}{γ:Nat->Value}
theorem DO(hR:Rel N np S0 w0 refs σ a w S γ){k:Nat}{b:Bx}(hk:σ.bx k = .live b):Rel N np S0 w0 refs (σ.setB k .gone) a w S γ:=by
 have hle:BxLe γ σ.bx γ (σ.setB k .gone).bx:=by
  intro k' bf;by_cases bL:k'=k
  .subst bL;rw[er];exact⟨by simp,rfl,λb hb=>by simp at hb⟩
  .rw[cj σ _ bL];exact⟨bf,rfl,λb hb=>⟨b,hb,.refl b⟩⟩
 have bA:∀k' b1,(σ.setB k .gone).bx k' = .live b1->σ.bx k' = .live b1:=by
  intro k' b1 h1;by_cases bL:k'=k
  .subst bL;rw[er]at h1;simp at h1
  .rwa[cj σ _ bL]at h1
 exact Rel.step (bx':=(σ.setB k .gone).bx) hR (.refl S w) hle (λk' b' h=>dS.keep (.refl S w) hle rfl (λ_ _=>⟨rfl,λ_=>Iff.rfl⟩) (hR.box k' b' (bA k' b' h)))
  (λk' b' g h=>hR.own k' b' g (bA k' b' h)) (λk1 k2 b1 b2 g aT h1 h2=>hR.apart k1 k2 b1 b2 g aT (bA _ _ h1) (bA _ _ h2)) hR.new hR.here hR.below hR.grow hR.os hR.tape hR.output
  (λg _ _ h=>⟨rfl,λk' b' aD=>h k' b' (bA k' b' aD)⟩)
theorem zV(hR:Rel N np S0 w0 refs σ a w S γ){d:Nat}(hd:σ.bx d = .free){w':World}{S':aH}{v':Value}{e:Nat}(hm:isM e=false){el:Ty}{zs:List el.den}{frz:Bool}{css:List (List Value)}
  (aA:dn S w S' w')(o9:∀g,g<w.heap.size->blk v'≠some g->w'.heap[g]? = w.heap[g]?)(bF:w.heap.size<=w'.heap.size)
  (hv:∀g,blk v'=some g->w0.heap.size<=g/\(∀k b,σ.bx k = .live b->blk (γ k)≠some g)/\g<w'.heap.size)
  (hS:∀g o,S' g o->S g o\/blk v'=some g)(os:w'.os=w.os)(tape:w'.tape=w.tape)(output:w'.output=w.output)
  (bQ:w'.ownsRow 0 e el.size v' zs.length css.flatten)(al:All2 (λx c=>Rep S' w' el x c) zs css)
  (G6:∀g,blk v'=some g->(frz=false->∀o,¬S' g o)/\(frz=true->∀o,S' g o↔o<zs.length*el.size))(DP:∀g,blk v'=some g->refs.kw g=none) :
  Rel N np S0 w0 refs (σ.setB d (.live (.lst e el zs frz))) a w' S' (gset γ d v')/\
   bz S' w' (gset γ d v') (σ.setB d (.live (.lst e el zs frz))).bx (.one (.ol d)) v':=by
 have hle:BxLe γ σ.bx (gset γ d v') (σ.setB d (.live (.lst e el zs frz))).bx:=by
  intro k hk;have aT:k≠d:=by rintro rfl;exact hk hd
  rw[cj σ _ aT,eI γ v' aT];exact⟨hk,rfl,λb hb=>⟨b,hb,.refl b⟩⟩
 have di:One v':=by rcases bQ.2 with⟨rfl,_⟩|⟨g,cap,cur,rfl,_⟩<;>rfl
 refine⟨Rel.step (bx':=(σ.setB d (.live (.lst e el zs frz))).bx) hR aA hle ?_ ?_ ?_ ?_ ?_ ?_ (kx hR.grow bF) (os.trans hR.os) (tape.trans hR.tape) (output.trans hR.output) (λg hg om h=>⟨o9 g hg (λhh=>om (DP g hh)),λk b' aD cF=>by
  by_cases hk:k=d
  .subst hk;rw[dY]at cF;exact om (DP g cF)
  .rw[cj σ _ hk]at aD;rw[eI γ v' hk]at cF;exact h k b' aD cF⟩),?_⟩
 .intro k b hb;by_cases hk:k=d
  .subst hk;rw[er]at hb;simp at hb;subst hb;refine zH hm ⟨css,by rw[dY];exact bQ,al,λg hg=>?_⟩;rw[dY]at hg;exact G6 g hg
  .rw[cj σ _ hk]at hb;refine dS.keep aA hle (eI γ v' hk) (λg hg=>?_) (hR.box k b hb);have vD:=iO (hR.box k b hb) hg;have aT:blk v'≠some g:=λhh=>(hv g hh).2.1 k b hb hg;exact⟨o9 g vD aT,λo=>⟨λhs=>(hS g o hs).resolve_right aT,λhs=>(aA g o hs).1⟩⟩
 .intro k b g hb hg;by_cases hk:k=d
  .subst hk;rw[dY]at hg;exact .inl (hv g hg).1
  .rw[cj σ _ hk]at hb;rw[eI γ v' hk]at hg;exact hR.own k b g hb hg
 .intro k k' b1 b2 g aT h1 h2 hg an;by_cases hk:k=d
  .subst hk;have bf:k'≠k:=λh=>aT h.symm;rw[dY]at hg;rw[cj σ _ bf]at h2;rw[eI γ v' bf]at an;exact(hv g hg).2.1 k' b2 h2 an
  .by_cases bf:k'=d
   .subst bf;rw[dY]at an;rw[cj σ _ hk]at h1;rw[eI γ v' hk]at hg;exact(hv g an).2.1 k b1 h1 hg
   .rw[cj σ _ hk]at h1;rw[cj σ _ bf]at h2;rw[eI γ v' hk]at hg;rw[eI γ v' bf]at an;exact hR.apart k k' b1 b2 g aT h1 h2 hg an
 .intro g o hs;rcases hS g o hs with hs|hs
  .exact hR.new g o hs
  .exact .inr (hv g hs).1
 .intro g o hs;rcases hS g o hs with hs|hs
  .have:=hR.here g o hs;omega
  .exact(hv g hs).2.2
 .intro g hg hr;by_cases hb:blk v'=some g
  .have:=(hv g hb).1;omega
  .rw[o9 g (by have:=hR.grow;omega) hb];exact hR.below g hg hr
 .refine⟨⟨by rw[er];simp,di,λb hb=>(dY γ d v').symm⟩,λ_=>di⟩
theorem OS{P:Program}{T:Nat->Option TyI}(hT:cd P T){t ty:TypeId}{ti:TyI}(ht:T t=some ti){el:Ty}(bg:ti.ty=some (.list el))
  {v:Value}{n:Nat}{xs:List Value}(aJ:w.ownsRow 0 ti.elem el.size v n xs){ad:Option Addr}{m c:Nat}{news:List Value}(eM:ad=none->m=0/\c=0)(hl:news.length=m*el.size)
  (gT:∀b,ad=some b->∀(j:Nat)(u:Value),news[j]? = some u->w.cell? (b.add j)=some u)(h1:∀u∈news,One u)(eD:n+m<=aP) :
  ∃v' w',(Builtin.append_ #[t,t] ty #[v,.slice ad m c]).run P w = .ok v' w'/\w'.ownsRow 0 ti.elem el.size v' (n+m) (xs++news)/\w'.os=w.os/\w'.tape=w.tape/\w'.output=w.output/\w.heap.size<=w'.heap.size/\
   ((v'=v/\w'=w)\/(blk v'=blk v/\(∃g,blk v=some g)/\∀g,blk v≠some g->w'.heap[g]? = w.heap[g]?)\/(blk v'=some w.heap.size/\∀g,g<w.heap.size->w'.heap[g]? = w.heap[g]?)):=by
 obtain⟨hd,bG,te,cg,cb⟩:=l9 hT ht bg;have bF:=kI hT cg cb;obtain⟨i,de,hi,hde,his,zW,_,_,hz⟩:=lJ hT cg;obtain⟨_,⟨z,hz,ga⟩,_⟩:=hz el cb;have eN:i.size=el.size:=by omega
 have kK:z.cells.size=el.size:=by have h:=Rep.length el el.dflt _ (oh (S:=λ_ _=>False) (w:=w) el);rw[<-ga]at h;simpa using h
 have zX:n+m<=maxLen:=by simp only[maxLen,aP]at *;omega
 have jI:(n+m)*i.bytes<=140737488355328:=by have:(n+m)*i.bytes<=aP*32768:=zf eD zW;simp only[aP]at this;omega
 have hlen:(xs++news).length=(n+m)*el.size:=by rw[je,aJ.1,hl,Nat.add_mul]
 cases ad with
 |none=>obtain⟨rfl,rfl⟩:=eM rfl;have pb:news=[]:=jw (by simpa using hl);subst pb;exact⟨v,w,run_append_owned_none (P:=P) w 0 t ty ti.elem i el.size hd hi v n xs aJ,by simpa using aJ,rfl,rfl,rfl,jq _,.inl ⟨rfl,rfl⟩⟩
 |some b=>
  have gT:=gT b rfl;rcases aJ.2 with⟨rfl,rfl⟩|⟨g,cap,cur,rfl,_,hg,ik,jF,dr,cX⟩
  .have tx:w.ownsRow w.heap.size ti.elem el.size (.slice none 0 0) 0 xs:=⟨aJ.1,.inl ⟨rfl,rfl⟩⟩;obtain⟨v',w',hr,ho,vE,hv⟩:=run_append_own (P:=P) w w.heap.size t ty ti.elem i z el.size i.bytes hd hi hz eN rfl kK bG _ 0 xs tx b m c news hl gT h1 zX jI (jq _);refine⟨v',w',hr,⟨ho.1,ho.2.imp id (λ⟨g,cap,cur,h1,_,h3⟩=>⟨g,cap,cur,h1,k7 _,h3⟩)⟩,vE.os,vE.tape,vE.output,vE.size,?_⟩;by_cases hm:m=0
   .subst hm;have pb:news=[]:=jw (by simpa using hl);subst pb;have:=run_append_own (P:=P) w w.heap.size t ty ti.elem i z el.size i.bytes hd hi hz eN rfl kK bG _ 0 xs tx b 0 c [] hl gT h1 zX jI (jq _);left;have hx:(Builtin.append_ #[t,t] ty #[.slice none 0 0,.slice (some b) 0 c]).run P w = .ok (.slice none 0 0) w:=by simp[Builtin.append_,run_underlying hd,sizeOf,typeInfo,hi,Builtin.lenOf,Builtin.firstCells,loadCells,loadCellsFrom]
    rw[hx]at hr;simp at hr;exact⟨hr.1.symm,hr.2.symm⟩
   .have pd:=run_append_nil (P:=P) w t ty ti.elem i z hd hi hz b m c news (by rw[eN];exact hl) gT (by omega) (by simp only[maxLen]at zX;omega) (by have:=jI;simp only[jz]at this;omega);rw[pd]at hr;simp at hr;obtain⟨rfl,rfl⟩:=hr;exact .inr (.inr ⟨rfl,λg hg=>heap_alloc_old w.drew _ hg⟩)
  .by_cases ph:n+m<=cap
   .have zY:n*i.size+news.length<=cur.size:=by rw[eN,hl,dr,<-Nat.add_mul];exact jv _ ph
    have hr:=run_append_room (P:=P) w t ty ti.elem i hd hi g n cap cur hg b m c news (by rw[eN];exact hl) gT h1 ph zY;rw[eN]at hr zY;refine⟨_,_,hr,⟨hlen,.inr ⟨g,cap,_,rfl,k7 _,setRow_heap w g cur _ ti.elem _ hg,ph,jF,?_,?_⟩⟩,rfl,rfl,rfl,by rw[size_setRow];exact jq _,.inr (.inl ⟨rfl,⟨g,rfl⟩,λg' an=>?_⟩)⟩
    .simp only[zw,je,qg,v8,q9];omega
    .rw[cX,<-hlen];exact List.take_left
    .exact setRow_other w g g' _ (λh=>an (by rw[h];rfl))
   .have holds:∀(j:Nat)(u:Value),xs[j]? = some u->w.cell? ((⟨g,0,none⟩:Addr).add j)=some u:=aJ.cells (g:=g) rfl;have hr:=run_append_grow (P:=P) w t ty ti.elem i z hd hi hz ⟨g,0,none⟩ n cap xs (by rw[eN];exact aJ.1) holds b m c news (by rw[eN];exact hl) gT (by omega) (by simp only[maxLen]at zX;omega) (growslice_fits (by omega) jI);have kL:=grownCap_ge w (n+m) cap ti.elem;refine⟨_,_,hr,⟨hlen,.inr ⟨w.heap.size,_,_,rfl,k7 _,heap_alloc_new w.drew _,kL,grownCap_le_maxLen w (n+m) cap ti.elem zX,?_,?_⟩⟩,rfl,rfl,rfl,by simp,.inr (.inr ⟨rfl,λg' an=>heap_alloc_old w.drew _ an⟩)⟩
    .simp only[Array.size_append,zw,size_zeroCells,kK,aJ.1,hl,<-Nat.add_mul];congr 1;omega
    .simp only[Array.toList_append,jg];rw[<-jg,<-hlen];exact List.take_left
theorem OT(hR:Rel N np S0 w0 refs σ a w S γ){rd:Nat->BS}(aL:RdOk σ rd){el:Ty}{y:Leaf}{ys:List el.den}{z:Value}(h:appX rd el y=some ys)(hy:bn S w γ σ.bx y z) :
  ∃ad c css,z = .slice ad ys.length c/\(ad=none->ys.length=0/\c=0)/\All2 (λx c=>Rep S w el x c) ys css/\
   ∀b,ad=some b->∀(j:Nat)(u:Value),css.flatten[j]? = some u->w.cell? (b.add j)=some u:=by
 unfold appX at h;split at h
 .rename_i k;split at h
  .rename_i e DQ xs f hk;have:=lK h;cases this;have bT:=aL.nm hk;have hk:=aL.live hk;have hz:=hy.2.2 _ hk;obtain⟨css,aJ,al,_⟩:=gR bT (hR.box k _ hk);rcases aJ.2 with⟨hg,h0⟩|⟨g,cap,cur,hg,_⟩
   .exact⟨none,0,css,by rw[hz,hg,h0],λ_=>⟨h0,rfl⟩,al,λb hb=>by simp at hb⟩
   .refine⟨some ⟨g,0,none⟩,cap,css,by rw[hz,hg],by simp,al,λb hb j u hu=>?_⟩;simp at hb;subst hb;exact aJ.cells (g:=g) (by rw[hg];rfl) j u hu
  .simp at h
 .rename_i t xs;have:=lK h;cases this;obtain⟨ad,cap,hz,hle,jF,hn,hb⟩:=hy;simp at hz;cases ad with
  |none=>
   have h0:=hn rfl;have rT:List.length ys=0:=by omega
   have:ys=[]:=jw rT;subst this;exact⟨none,cap,[],hz,λ_=>⟨rfl,h0⟩,trivial,λb hb=>by simp at hb⟩
  |some b=>
   obtain⟨cP,css,ha,hl⟩:=hb b rfl;refine⟨some b,cap,css,hz,by simp,ha,λb' aD j u hu=>?_⟩;simp at aD;subst aD
   have cP:=cP (λe=>by
    rw[e]at ha;cases css with
    |nil=>simp at hu
    |cons c cs=>exact ha)
   obtain⟨g,o,sp⟩:=b;simp at cP;subst cP;rw[Addr.add_lit];exact(hl j u hu).2
 .simp at h;subst h;exact⟨none,0,[],hy,λ_=>⟨rfl,rfl⟩,trivial,λb hb=>by simp at hb⟩
 .rename_i k j;split at h
  .rename_i e DQ xs f hk;split at h
   .rename_i cH il;have:=lK il;cases this;simp only[j4]at h;subst h;have bT:=aL.nm hk;have hk:=aL.live hk;obtain⟨_,hj,ad,fP,an,hu⟩:=hy.2.2 _ hk;obtain⟨css,aJ,al,_⟩:=gR bT (hR.box k _ hk);have dE:=All2.all_len al;have hlen:(List.drop j cH).length=cH.length-j:=by simp
    rcases aJ.2 with⟨hg,h0⟩|⟨g,cap,cur,hg,_,hh,ik,_⟩
    .rw[hg]at an;simp only[Value.slice.injEq]at an;obtain⟨rfl,_,rfl⟩:=an;have rU:cH=[]:=jw h0;subst rU;refine⟨none,0,[],by rw[hu];simp,λ_=>⟨by simp,rfl⟩,by simp;trivial,λb hb=>by simp at hb⟩
    .rw[hg]at an;simp only[Value.slice.injEq,kp]at an;obtain⟨rfl,rfl⟩:=an;by_cases hc:cap=j
     .have rU:List.drop j cH=[]:=jc (by omega);rw[rU];rw[if_pos hc]at hu;exact⟨some ⟨g,0,none⟩,cap-j,[],by rw[hu];simp;omega,by simp,trivial,λb hb q v hq=>by simp at hq⟩
     .rw[if_neg hc]at hu;simp only[ki,Addr.add_lit,jz]at hu;refine⟨some ⟨g,j*el.size,none⟩,cap-j,css.drop j,by rw[hu,hlen],by simp,al.drop j,λb hb q v hq=>?_⟩;simp at hb;subst hb;have Xj:(css.drop j).flatten=css.flatten.drop (j*el.size):=zU j dE;rw[Xj,List.getElem?_drop]at hq;have:=aJ.cells (g:=g) (by rw[hg];rfl) _ v hq;rw[Addr.add_lit]at this ⊢;simpa using this
   .simp at h
  .simp at h
 .simp at h
theorem Xk{P:Program}{E:Env}(hT:cd P E.T)(hR:Rel N np S0 w0 refs σ a w S γ){rd rdf:Nat->BS}(aL:RdOk σ rd)(bu:RdF np σ rdf){t ty:TypeId}{ti:TyI}(ht:E.T t=some ti)
  {el:Ty}(bg:ti.ty=some (.list el)){x y:Leaf}{xs ys:List el.den}{frz:Bool}{u:Ups}{d:Nat}{vx vy:Value}(h1:appS rdf ti.elem el x=some (xs,frz,u))(h2:appX rd el y=some ys)
  (hd:σ.bx d = .free)(eD:xs.length+ys.length<=aP)(hx:bn S w γ σ.bx x vx)(hy:bn S w γ σ.bx y vy) :
  ∃v' w' S' γ',(Builtin.append_ #[t,t] ty #[vx,vy]).run P w = .ok v' w'/\Rel N np S0 w0 refs (σ.upd (u++[(d,.live (.lst ti.elem el (xs++ys) frz))])) a w' S' γ'/\
   bz S' w' γ' (σ.upd (u++[(d,.live (.lst ti.elem el (xs++ys) frz))])).bx (.one (.ol d)) v':=by
 obtain⟨ad,c,cy,G7,eM,vF,dq⟩:=OT hR aL h2 hy;subst G7;have G8:cy.flatten.length=ys.length*el.size:=All2.flatten_length (λx c hx=>Rep.length el x c hx) vF;have Xl:∀u∈cy.flatten,One u:=by intro u hu;obtain⟨c,hc,uY⟩:=List.mem_flatten.1 hu;obtain⟨x,_,hx⟩:=vF.mem_right c hc;exact Rep.one el x c hx u uY
 obtain⟨mb,bG,te,cg,cb⟩:=l9 hT ht bg
 have src:∃σ1,σ.upd u=σ1/\Rel N np S0 w0 refs σ1 a w S γ/\σ1.bx d = .free/\∃cx,w.ownsRow 0 ti.elem el.size vx xs.length cx.flatten/\All2 (λx c=>Rep S w el x c) xs cx/\
   ∀g,blk vx=some g->w0.heap.size<=g/\g<w.heap.size/\(∀k b,σ1.bx k = .live b->blk (γ k)≠some g)/\(frz=false->∀o,¬S g o)/\(frz=true->∀o,S g o↔o<xs.length*el.size)/\refs.kw g=none:=by
  unfold appS at h1;split at h1
  .rename_i k;split at h1
   .rename_i e' DQ cH f hk;split at h1
    .rename_i OI il;split at h1
     .rename_i he;simp only[j4,j8]at h1;obtain⟨rfl,rfl,rfl⟩:=h1;have:=lK il;cases this;subst he;have mV:=bu.par hk;have bT:=bu.ok.nm hk;have hk:=bu.ok.live hk;have hz:=hx.2.2 _ hk;obtain⟨css,aJ,al,hS⟩:=gR bT (hR.box k _ hk);have qT:d≠k:=by rintro rfl;rw[hd]at hk;simp at hk
      refine⟨σ.setB k .gone,rfl,DO hR hk,by rw[cj σ _ qT];exact hd,css,by rw[hz];exact aJ,al,λg hg=>?_⟩;rw[hz]at hg;refine⟨?_,iO (hR.box k _ hk) hg,λk' b' aD an=>?_,(hS g hg).1,(hS g hg).2,hR.kw_live hk hg⟩
      .rcases hR.own k _ g hk hg with h|h
       .exact h
       .rw[mV]at h;simp at h
      .have bL:k'≠k:=by rintro rfl;rw[er]at aD;simp at aD
       rw[cj σ _ bL]at aD;exact hR.apart k' k _ _ g bL aD hk an hg
     .simp at h1
    .simp at h1
   .simp at h1
  .simp only[j4,j8]at h1;obtain⟨rfl,rfl,rfl⟩:=h1;have hz:vx = .slice none 0 0:=hx;subst hz;exact⟨σ,rfl,hR,hd,[],World.ownsRow_nil w 0 ti.elem el.size,trivial,λg hg=>by simp[blk]at hg⟩
  .simp at h1
 obtain⟨σ1,Xm,bj,qP,cx,aJ,DR,hblk⟩:=src;rw[iN,Xm];obtain⟨v',w',hr,bQ,os,tape,output,bF,bU⟩:=OS hT ht bg (ty:=ty) aJ eM G8 dq Xl eD;have hlx:cx.flatten.length=xs.length*el.size:=aJ.1;let S':aH:=λg o=>S g o\/(frz=true/\blk v'=some g/\o<(xs++ys).length*el.size)
 have aA:dn S w S' w':=by
  intro g o hs;refine⟨.inl hs,?_⟩;rcases bU with⟨rfl,rfl⟩|⟨hb,⟨g0,iP⟩,hh⟩|⟨hb,hh⟩
  .rfl
  .by_cases hg:g=g0
   .subst hg;obtain⟨_,_,_,hf,qU,_⟩:=hblk g iP;cases frz with
    |false=>exact absurd hs (hf rfl o)
    |true=>
     have ho:=(qU rfl o).1 hs
     have fQ:v'.ownBlock=some g:=by
      rw[iP]at hb;rcases bQ.2 with⟨hn,_⟩|⟨g1,cap,cur,hn,_⟩
      .rw[hn]at hb;simp[blk]at hb
      .rw[hn]at hb ⊢;simp[blk]at hb;simp[Value.ownBlock,hb]
     have DS:vx.ownBlock=some g:=by
      rcases aJ.2 with⟨hn,_⟩|⟨g1,cap,cur,hn,_⟩
      .rw[hn]at iP;simp[blk]at iP
      .rw[hn]at iP ⊢;simp[blk]at iP;simp[Value.ownBlock,iP]
     have zZ:(cx.flatten)[o]? = some (cx.flatten[o]'(by omega)):=jj (by omega);have e1:=aJ.cells DS o _ zZ;have e2:=bQ.cells fQ o (cx.flatten[o]'(by omega)) (by rw[List.getElem?_append_left (by omega)];exact zZ);rw[Addr.add_lit,jz]at e1 e2;rw[e1,e2]
   .have:=hh g (by rw[iP];simpa using λh=>hg h.symm);exact World.cell?_of_block (a:=⟨g,o,none⟩) this
  .exact World.cell?_of_block (a:=⟨g,o,none⟩) (hh g (hR.here g o hs))
 have DT:∀g,blk v'=some g->w0.heap.size<=g/\(∀k b,σ1.bx k = .live b->blk (γ k)≠some g)/\g<w'.heap.size:=by
  intro g hg
  have au:g<w'.heap.size:=by
   rcases bQ.2 with⟨hn,_⟩|⟨g1,cap,cur,hn,_,hh,_⟩
   .rw[hn]at hg;simp[blk]at hg
   .rw[hn]at hg;simp[blk]at hg;subst hg;exact(jf.1 hh).1
  rcases bU with⟨rfl,rfl⟩|⟨hb,⟨g0,iP⟩,hh⟩|⟨hb,hh⟩
  .obtain⟨q1,q2,q3,_⟩:=hblk g hg;exact⟨q1,q3,au⟩
  .rw[hb]at hg;obtain⟨q1,q2,q3,_⟩:=hblk g hg;exact⟨q1,q3,au⟩
  .rw[hb]at hg;simp at hg;subst hg;exact⟨hR.grow,λk b hk an=>by have:=iO (bj.box k b hk) an;omega,au⟩
 obtain⟨cI,fy⟩:=zV bj qP (hm:=GP hT ht) (w':=w') (S':=S') (v':=v') (e:=ti.elem) (el:=el) (zs:=xs++ys) (frz:=frz) (css:=cx++cy) aA (λg hg aT=>by
   rcases bU with⟨rfl,rfl⟩|⟨hb,_,hh⟩|⟨hb,hh⟩
   .rfl
   .exact hh g (by rw[<-hb];exact aT)
   .exact hh g hg) bF DT (λg o hs=>hs.imp id (λh=>h.2.1)) os tape output (by rw[ve,je];exact bQ)
  ((
   DR.mono (λx c hx=>Rep.keep aA _ _ _ hx)).append (vF.mono (λx c hx=>Rep.keep aA _ _ _ hx))) (λg hg=>by
   have hold:∀o,S g o->frz=true/\o<xs.length*el.size:=by
    intro o hs;rcases bU with⟨rfl,rfl⟩|⟨hb,⟨g0,iP⟩,hh⟩|⟨hb,hh⟩
    .obtain⟨_,_,_,hf,qU,_⟩:=hblk g hg;cases frz with
     |false=>exact absurd hs (hf rfl o)
     |true=>exact⟨rfl,(qU rfl o).1 hs⟩
    .rw[hb]at hg;obtain⟨_,_,_,hf,qU,_⟩:=hblk g hg;cases frz with
     |false=>exact absurd hs (hf rfl o)
     |true=>exact⟨rfl,(qU rfl o).1 hs⟩
    .rw[hb]at hg;simp at hg;subst hg;exact absurd hs (zQ hR o)
   refine⟨λhf o hs=>?_,λhf o=>⟨λhs=>?_,λho=> .inr ⟨hf,hg,ho⟩⟩⟩
   .rcases hs with hs|hs
    .rw[hf]at hold;simp at hold;exact hold o hs
    .rw[hf]at hs;simp at hs
   .rcases hs with hs|hs
    .have:=(hold o hs).2;rw[je,Nat.add_mul];omega
    .exact hs.2.2) (λg hg=>by
   rcases bU with⟨rfl,rfl⟩|⟨hb,⟨g0,iP⟩,hh⟩|⟨hb,hh⟩
   .exact(hblk g hg).2.2.2.2.2
   .rw[hb]at hg;exact(hblk g hg).2.2.2.2.2
   .rw[hb]at hg;simp at hg;subst hg;exact hR.kw_new (jq _))
 exact⟨v',w',S',_,hr,cI,fy⟩
end
theorem Xn(L l:List Value)(v:Value)(n:Nat)(h:n<L.length) :
  (L.set n v).take (n+1)++l++(L.set n v).drop (n+1+l.length)=L.take n++v::l++L.drop (n+(l.length+1)):=by
 obtain⟨A,x,B,hA,rfl⟩:∃A x B,List.length A=n/\L=A++x::B:=⟨L.take n,L[n],L.drop (n+1),by simp;omega,by rw[List.getElem_cons_drop h,qn]⟩;subst hA;rw[zq _ _ (jq _),Nat.sub_self,List.set_cons_zero];have e1:(A++v::B).take (A.length+1)=A++[v]:=by rw[show A++v::B=(A++[v])++B by simp];exact List.take_left' (by simp)
 have e2:(A++x::B).take A.length=A:=List.take_left' rfl;have e3:∀y,(A++y::B).drop (A.length+1+l.length)=B.drop l.length:=by intro y;rw[show A++y::B=(A++[y])++B by simp,<-List.drop_drop,List.drop_left' (by simp)]
 rw[e1,e2,e3,show A.length+(l.length+1)=A.length+1+l.length by omega,e3];simp
theorem OU(off:Nat):∀(l:List Value)(k:Nat)(cells:Array Value),off+k+l.length<=cells.size->
  ((l.zipIdx k).foldl (λcs x=>cs.setIfInBounds (off+x.2) x.1) cells).toList=cells.toList.take (off+k)++l++cells.toList.drop (off+k+l.length)
 |[],k,cells,_=>by simp
 |v::l,k,cells,h=>by
  simp only[jo]at h;rw[List.zipIdx_cons,List.foldl_cons,OU off l (k+1) _ (by simp;omega)];simp only[Array.toList_setIfInBounds];rw[show off+(k+1)=off+k+1 by omega];exact Xn cells.toList l v (off+k) (by simp;omega)
theorem G9(cells:Array Value)(off:Nat)(zs:Array Value)(h:off+zs.size<=cells.size) :
  (zs.zipIdx.foldl (λcs (x:Value×Nat)=>cs.setIfInBounds (off+x.2) x.1) cells).toList=cells.toList.take off++zs.toList++cells.toList.drop (off+zs.size):=by
 rw[<-Array.foldl_toList,Array.toList_zipIdx];have:=OU off zs.toList 0 cells (by simpa using h);simpa using this
theorem OV(z:List Value):∀(n p:Nat),p<n*z.length->(List.replicate n z).flatten[p]? = z[p%z.length]?
 |0,p,h=>by simp at h
 |n+1,p,h=>by
  rw[List.replicate_succ,ke];by_cases hp:p<z.length
  .rw[List.getElem?_append_left hp,Nat.mod_eq_of_lt hp]
  .rw[k9 (by omega),OV z n (p-z.length) (by rw[Nat.add_mul]at h;omega)];congr 1;exact(Nat.mod_eq_sub_mod (by omega)).symm
theorem OW(z:Array Value)(n:Nat)(hz:0<z.size):((Array.range (n*z.size)).map (λi=>z[i%z.size]!)).toList=(List.replicate n z.toList).flatten:=by
 apply vu;intro p;by_cases hp:p<n*z.size
 .rw[OV z.toList n p (by simpa using hp)];have hm:p%z.size<z.size:=Nat.mod_lt _ hz;simp[hp,hm]
 .rw[qm (by simp;omega),qm (by rw[List.length_flatten];simp;omega)]
section
variable{N:NT}{np:Nat}{S0:aH}{w0:World}{refs:Refs}{σ:St}{a:Go.Act}{w:World}{S:aH}{γ:Nat->Value}
theorem DU{t:Ty}{z:Value}(h:z.cells.toList=iM t):z.cells.size=t.size:=by
 have:=Rep.length t t.dflt _ (oh (S:=λ_ _=>False) (w:=(default:World)) t);rw[<-h]at this;simpa using this
theorem DV{t:Ty}{z:Value}(h:z.cells.toList=iM t):∀u∈z.cells.toList,One u:=by
 rw[h];exact Rep.one t t.dflt _ (oh (S:=λ_ _=>False) (w:=(default:World)) t)
theorem Ha{P:Program}{T:Nat->Option TyI}(hT:cd P T){t:TypeId}{ti:TyI}(ht:T t=some ti){ty:Ty}(bg:ti.ty=some ty) :
  ∃z:Value,z.cells.toList=iM ty/\(Instr.alloc t true (.tuple #[])).run P w = .ok (.pointer (some ⟨w.heap.size,0,none⟩)) (w.alloc (.cells z.cells t)):=by
 obtain⟨z,hz,hc⟩:=uZ hT ht w bg;refine⟨z,hc,?_⟩;simp only[Instr.alloc,Sem.run_bind,hz,Result.andThen_ok,newVar,newRow,run_newObj,Sem.run_pure,World.alloc_eq]
theorem OX{P:Program}(t:TypeId)(v:Value):(Instr.box t v).run P w = .ok (.pointer (some ⟨w.heap.size,0,none⟩)) (w.alloc (.cells v.cells t)):=by
 simp only[Instr.box,Sem.run_bind,newVar,newRow,run_newObj,Result.andThen_ok,Sem.run_pure,World.alloc_eq]
theorem OY{P:Program}{α β:Type}(f:α->Sem β)(g:α->β):∀(l:List α),(∀x∈l,(f x).run P w = .ok (g x) w)->(l.mapM f).run P w = .ok (l.map g) w
 |[],_=>by simp
 |x::l,h=>by
  rw[qw];simp only[Sem.run_bind,h x (by simp),Result.andThen_ok,OY f g l (λy hy=>h y (by simp[hy])),Sem.run_pure,ka]
theorem OZ{bx:Nat->BS}{ti:TyI}{sz:Nat->Option Nat}{place:Nat->Option (Nat×Nat)}(hp:∀i f n,ti.flds[i]? = some f->sz f.2=some n->place i=some (f.1,n)) :
  ∀(ps:List (Nat×Cel))(vs:List (Nat×Value)){ls fh:List Leaf}{cells:Array Value},All2 (λp v=>p.1=v.1/\bz S w γ bx p.2 v.2) ps vs->xq ti sz ls ps=some fh->
   All2 (bn S w γ bx) ls cells.toList->(∀u∈cells.toList,One u)->∃bm,Instr.fill place cells vs=some bm/\All2 (bn S w γ bx) fh bm.toList/\∀u∈bm.toList,One u
 |[],[],ls,fh,cells,_,h,ha,h1=>by
  simp[xq]at h;subst h;exact⟨cells,rfl,ha,h1⟩
 |(i,c)::ps,(j,v)::vs,ls,fh,cells,⟨⟨ec,hc⟩,fM⟩,h,ha,h1=>by
  simp only at ec;subst ec;simp only[xq]at h;split at h
  .rename_i f hf;split at h
   .rename_i new dM;split at h
    .rename_i bV;obtain⟨bF,hle⟩:=bV;obtain⟨hl,mU⟩:=xL dM hc;have hlen:=hl.length;have tt:=ha.length;have gJ:v.cells.size=new.length:=by rw[hlen];simp
     have dr:cells.size=ls.length:=by rw[tt];simp
     have xM:=G9 cells f.1 v.cells (by omega);have cP:=DL (c:=f.1) ha hl
     obtain⟨bm,eO,h2,h3⟩:=OZ hp ps vs (cells:=(v.cells.zipIdx.foldl (λcs (x:Value×Nat)=>cs.setIfInBounds (f.1+x.2) x.1) cells)) fM h
      (by rw[xM];simpa using cP) (by
       rw[xM];intro u hu;simp only[js]at hu;rcases hu with (hu|hu)|hu
       .exact h1 u (ky hu)
       .exact mU u hu
       .exact h1 u (qz hu))
     refine⟨bm,?_,h2,h3⟩;simp only[Instr.fill,hp i f _ hf bF];rw[if_neg (by simp[gJ];omega)];exact eO
    .simp at h
   .simp at h
  .simp at h
 |[],_::_,_,_,_,h,_,_,_=>h.elim
 |_::_,[],_,_,_,h,_,_,_=>h.elim
theorem Xo{P:Program}{E:Env}(hT:cd P E.T){bx:Nat->BS}{t:TypeId}{ti:TyI}(ht:E.T t=some ti){ty:Ty}(bg:ti.ty=some ty)(ma:ty.agg=true)
  {ps:List (Nat×Cel)}{vs:Array (Nat×Value)}{ls:List Leaf}(fM:All2 (λp v=>p.1=v.1/\bz S w γ bx p.2 v.2) ps vs.toList)
  (h:xq ti (λt=>(E.T t).map (·.size)) (mO ty) ps=some ls) :
  ∃z,(Instr.build t vs).run P w = .ok z w/\bz S w γ bx (.st ls) z:=by
 obtain⟨z,hz,ga⟩:=uZ hT ht w bg;obtain⟨i,d,hi,hd,_,_,_,eZ,dT⟩:=lJ hT ht;have mb:=(dT ty bg).2.2;cases d with
 |struct fs=>
  simp only[zI,ja,jk]at eZ;obtain⟨o5,rP⟩:=eZ
  have rV:(fs.mapM (λf=>do pure (f.offset,<-sizeOf f.type):Field->Sem (Nat×Nat))).run P w = .ok (fs.map λf=>(f.offset,((E.T f.type).map (·.size)).getD 0)) w:=by
   rw[v7]
   have:=OY (P:=P) (w:=w) (λf=>(do pure (f.offset,<-sizeOf f.type):Sem (Nat×Nat))) (λf:Field=>(f.offset,((E.T f.type).map (·.size)).getD 0)) fs.toList (λf hf=>by
    have:=jp.1 rP f hf;split at this
    .rename_i tf oV;simp only[Sem.run_bind,gS hT oV,Result.andThen_ok,Sem.run_pure,oV,ki,zg]
    .simp at this)
   simp only[Sem.run_map,this,Result.andThen_ok];congr 1;apply kq;simp
  have hp:∀(i:Nat)(f:Nat×Nat)(n:Nat),ti.flds[i]? = some f->(E.T f.2).map (·.size)=some n->(fs.map λf=>(f.offset,((E.T f.type).map (·.size)).getD 0))[i]? = some (f.1,n):=by
   intro i f n hf hn;rw[<-o5,qi]at hf;cases hq:fs.toList[i]? with
   |none=>simp[hq]at hf
   |some fl=>
    simp only[hq,ki,j4]at hf;subst hf;have xN:fs[i]? = some fl:=by simpa using hq
    simp only at hn;simp[xN,hn]
  obtain⟨bm,eO,ha,h1⟩:=OZ (S:=S) (w:=w) (γ:=γ) (place:=λi=>(fs.map λf=>(f.offset,((E.T f.type).map (·.size)).getD 0))[i]?) hp ps vs.toList (cells:=z.cells) fM h (by rw[ga];exact tq ty) (DV ga);refine⟨.agg bm,?_,bm,rfl,ha,h1⟩;simp only[Instr.build,Sem.run_bind,hz,Result.andThen_ok,run_underlying hd,rV,eO,Sem.run_pure]
 |_=>exfalso;revert mb ma;cases ty<;>simp[jD,Ty.agg]
theorem O0{rd:Nat->BS}{el:Ty}:∀(ps:List (Nat×Cel)){xs cH:List el.den}{u u':Ups},iK rd el xs u ps=some (cH,u')->∃u2,u'=u++u2
 |[],_,_,u,u',h=>by simp[iK]at h;exact⟨[],by simp[h.2]⟩
 |(i,c)::ps,xs,cH,u,u',h=>by
  simp only[iK]at h;split at h
  .split at h
   .obtain⟨u2,hu⟩:=O0 ps h;exact⟨_,by rw[hu,jg]⟩
   .simp at h
  .simp at h
theorem Hb{rd:Nat->BS}(aL:RdF np σ rd)(hB:xI S w γ σ.bx){el:Ty}(bG:0<el.size):∀(ps:List (Nat×Cel))(vs:List (Nat×Value)){xs cH:List el.den}{u u':Ups},
  All2 (λp v=>p.1=v.1/\bz S w γ σ.bx p.2 v.2) ps vs->iK rd el xs u ps=some (cH,u')->FrzL np σ.bx u->
  FrzL np σ.bx u'/\∀S',dn S w S' w->Froz σ.bx γ S' w u'->∀(css:List (List Value))(cells:Array Value),All2 (λx c=>Rep S' w el x c) xs css->cells.toList=css.flatten->
   ∃bm jJ,Instr.fill (λi=>some (i*el.size,el.size)) cells vs=some bm/\All2 (λx c=>Rep S' w el x c) cH jJ/\bm.toList=jJ.flatten
 |[],[],xs,cH,u,u',_,h,hf=>by
  simp[iK]at h;obtain⟨rfl,rfl⟩:=h;exact⟨hf,λS' _ _ css cells ha hc=>⟨cells,css,rfl,ha,hc⟩⟩
 |(i,c)::ps,(j,v)::vs,xs,cH,u,u',⟨⟨ec,hc⟩,fM⟩,h,hf=>by
  simp only at ec;subst ec;simp only[iK]at h;split at h
  .rename_i x u1 hx;split at h
   .rename_i hi;obtain⟨o5,vG,mU⟩:=zP aL hB hx hc;obtain⟨Xp,cZ⟩:=Hb aL hB bG ps vs fM h (FrzL.app.2 ⟨hf,o5⟩);obtain⟨u2,DW⟩:=O0 ps h;refine⟨Xp,λS' aA dN css cells ha cU=>?_⟩;have Xq:=(vG S' w aA (Froz.app.1 (Froz.app.1 (DW▸dN)).1).2).1;have Hc:cells.size=xs.length*el.size:=by have:=All2.flatten_length (λx c hx=>Rep.length el x c hx) ha;rw[<-cU]at this;simpa using this
    have OQ:i*el.size+el.size<=xs.length*el.size:=by have:(i+1)*el.size<=xs.length*el.size:=jv _ (by omega);rwa[va]at this
    have mU:v.cells.toList.length=el.size:=mU;have gJ:v.cells.size=el.size:=by simpa using mU
    have rS:v.cells.toList.length=v.cells.size:=q9;have xM:=G9 cells (i*el.size) v.cells (by omega);obtain⟨ci,mf⟩:∃ci,css[i]? = some ci:=⟨css[i]'(by rw[<-ha.length];exact hi),jj _⟩;have DN:=G3 (cur:=cells.toList) (n:=xs.length) (c:=0) (zs:=v.cells.toList) (All2.all_len ha) ha.length.symm (by rw[cU,<-cU];exact List.take_of_length_le (by simp[Hc])) mf (by omega);have dE:ci.length=el.size:=All2.all_len ha ci (jy mf)
    have dM:cells.toList.take (i*el.size)++v.cells.toList++cells.toList.drop (i*el.size+v.cells.size)=(css.set i v.cells.toList).flatten:=by
     have e1:ci.take 0++v.cells.toList++ci.drop (0+v.cells.toList.length)=v.cells.toList:=by rw[jc (by omega)];simp
     rw[e1]at DN;rw[<-DN];symm;refine(List.take_of_length_le ?_).trans ?_
     .simp;omega
     .simp
    obtain⟨bm,jJ,h1,h2,h3⟩:=cZ S' aA dN (css.set i v.cells.toList) _ (ha.set i x v.cells.toList Xq) (xM.trans dM);refine⟨bm,jJ,?_,h2,h3⟩;simp only[Instr.fill];rw[if_neg (by simp[gJ];omega)];exact h1
   .simp at h
  .simp at h
 |[],_::_,_,_,_,_,h,_,_=>h.elim
 |_::_,[],_,_,_,_,h,_,_=>h.elim
end
theorem O1{P:Program}{t e:TypeId}(h:P.underlying t=some (.slice e)):P.elem t=e:=by simp[Program.elem,h]
def VB(d:Nat)(o:Option Value)(i:Nat):Prop:=(o=none/\i=d)\/∃k,o=some (.int k (i:Int))
theorem vH{P:Program}{w:World}{t:TypeId}{e s:Nat}(hd:P.underlying t=some (.slice e))(hs:(sizeOf e).run P w = .ok s w){ad:Option Addr}{len cap i j:Nat}{lo hi:Option Value}
  (gU:VB 0 lo i)(gK:VB len hi j)(ec:i<=j)(hj:j<=cap) :
  (Instr.sliceAt t (.slice ad len cap) lo hi none).run P w = .ok (.slice (if cap=i then ad else ad.map (·.add (i*s))) (j-i) (cap-i)) w:=by
 have he:=O1 hd;have fJ:P.underlying t=some (.slice (P.elem t)):=by rw[he];exact hd
 rw[run_sliceAt_slice w t _ _ _ _ fJ];have dI:(sizeOf (P.elem t)).run P w = .ok s w:=by rw[he];exact hs
 rcases gU with⟨rfl,rfl⟩|⟨kl,rfl⟩
 .rcases gK with⟨rfl,rfl⟩|⟨kh,rfl⟩
  .rw[run_slice_all w t ad _ cap fJ,dI];simp[Result.andThen,sliced]
  .rw[run_slice_h w t ad len cap fJ kh _ (by omega) (by omega),dI];simp[Result.andThen,sliced]
 .rcases gK with⟨rfl,rfl⟩|⟨kh,rfl⟩
  .rw[run_slice_l w t ad _ cap fJ kl _ (by omega) (by omega),dI];simp[Result.andThen,sliced]
  .rw[run_slice_lh w t ad len cap fJ kl kh _ _ (by omega) (by omega) (by omega),dI];simp[Result.andThen,sliced]
section
variable{N:NT}{np:Nat}{S0:aH}{w0:World}{refs:Refs}{σ:St}{a:Go.Act}{w:World}{S:aH}{γ:Nat->Value}
theorem O2{el:Ty}{xs:List el.den}{ad:Option Addr}{cap:Nat}(h:Rep S w (.list el) xs [.slice ad (List.length xs) cap]){i j:Nat}(ec:i<=j)(hj:j<=List.length xs) :
  Rep S w (.list el) ((xs.take j).drop i) [.slice (if cap=i then ad else ad.map (·.add (i*el.size))) (j-i) (cap-i)]:=by
 obtain⟨Xr,fP,he,hle,jF,hn,hb⟩:=h;simp only[zt,Value.slice.injEq,and_true,kp]at he;obtain⟨rfl,rfl⟩:=he;have hlen:((xs.take j).drop i).length=j-i:=by simp;omega
 refine⟨_,_,by rw[hlen],by rw[hlen];omega,by omega,λh=>?_,λb aD=>?_⟩
 .have:ad=none:=by
   split at h
   .exact h
   .simpa using h
  have:=hn this;omega
 .by_cases hc:cap=i
  .rw[if_pos hc]at aD;have hz:(xs.take j).drop i=[]:=jw (by omega);rw[hz];exact⟨λh=>absurd rfl h,[],trivial,λj v hv=>by simp at hv⟩
  .rw[if_neg hc]at aD;cases ad with
   |none=>simp at aD
   |some b0=>
    simp only[ki,j4]at aD;subst aD;obtain⟨cP,css,ha,hl⟩:=hb b0 rfl;by_cases hx:(xs.take j).drop i=[]
    .rw[hx];exact⟨λh=>absurd rfl h,[],trivial,λj v hv=>by simp at hv⟩
    .have fA:xs≠[]:=λh=>hx (by rw[h];simp);obtain⟨g,o,sp⟩:=b0;have cP:=cP fA;simp at cP;subst cP;have vI:(⟨g,o,none⟩:Addr).add (i*el.size)=⟨g,o+i*el.size,none⟩:=Addr.add_lit _ _ _;rw[vI];refine⟨λ_=>rfl,(css.take j).drop i,(ha.take j).drop i,λq v hq=>?_⟩;have dE:=All2.all_len ha;rw[zU i (λc hc=>dE c (ky hc)),tw j dE,List.getElem?_drop,q8]at hq;split at hq
     .have:=hl _ v hq;simpa[Nat.add_assoc]using this
     .simp at hq
def ORep(R:Leaf->Value->Prop):Option Leaf->Option Value->Prop
 |none,none=>True
 |some l,some v=>R l v
 |_,_=>False
theorem rW{d:Nat}{o:Option Leaf}{vo:Option Value}{i:Int}{bx:Nat->BS}(h:bnd d o=some i)(ho:ORep (bn S w γ bx) o vo)(hi:0<=i):VB d vo i.toNat:=by
 unfold bnd at h;split at h
 .cases vo with
  |none=>simp at h;exact .inl ⟨rfl,by omega⟩
  |some v=>exact ho.elim
 .cases vo with
  |none=>exact ho.elim
  |some v=>simp at h;rename_i k n;have hv:v = .int k n:=mS (S:=S) (w:=w) ho;refine .inr ⟨k,?_⟩;rw[hv,show (n:Int)=i from h,Int.toNat_of_nonneg hi]
 .simp at h
theorem Xs{P:Program}{E:Env}(hT:cd P E.T)(hR:Rel N np S0 w0 refs σ a w S γ){rd:Nat->BS}(aL:RdOk σ rd){t:TypeId}{ti:TyI}(ht:E.T t=some ti)
  {d:Nat}{x l:Leaf}{lo hi:Option Leaf}{vx:Value}{pj qV:Option Value}{u:Ups}(aR:∀k,gx (rd k)=true->σ.bx k = .free)(h:xr (parK np) rd ti d x lo hi=some (true,l,u))
  (hx:bn S w γ σ.bx x vx)(gU:ORep (bn S w γ σ.bx) lo pj)(gK:ORep (bn S w γ σ.bx) hi qV) :
  ∃v S' γ',(Instr.sliceAt t vx pj qV none).run P w = .ok v w/\Rel N np S0 w0 refs (σ.upd u) a w S' γ'/\bz S' w γ' (σ.upd u).bx (.one l) v:=by
 unfold xr at h;split at h
 ·-- a datum
  rename_i el xs;split at h
  .rename_i bg;obtain⟨hd,_,te,cg,cb⟩:=l9 hT ht bg;have bF:=kI hT cg cb;split at h
   .rename_i i j aX gE;simp only[j4,j8,ja,jk]at h;obtain⟨⟨h0,h1,h2⟩,rfl,rfl⟩:=h;have lL:=hx;obtain⟨ad,cap,hv,hle,_⟩:=hx;simp at hv;subst hv;have hlen:((List.length xs:Nat):Int)=Int.ofNat (List.length xs):=rfl;refine⟨_,S,γ,vH hd (s:=el.size) ?_ (rW aX gU h0) (rW gE gK (by omega)) (by omega) (by omega),hR,O2 lL (by omega) (by omega),λ_=>rfl⟩;rw[gS hT cg,bF]
   .simp at h
  .simp at h
 .rename_i k;split at h
  ·-- the tail
   split at h
   .rename_i e el xs f hk;split at h
    .rename_i bg;obtain⟨hd,_,te,cg,cb⟩:=l9 hT ht bg;have bF:=kI hT cg cb;split at h
     .rename_i i aX;simp only[j4,j8,ja,jk]at h;obtain⟨⟨h0,h1⟩,rfl,rfl⟩:=h;have bT:=aL.nm hk;have hk:=aL.live hk;have hz:=hx.2.2 _ hk;obtain⟨css,aJ,_⟩:=gR bT (hR.box k _ hk)
      obtain⟨ad,cap,hg,cJ⟩:∃ad cap,γ k = .slice ad xs.length cap/\xs.length<=cap:=by
       rcases aJ.2 with⟨hg,hn⟩|⟨g,cap,cur,hg,_,_,ik,_⟩
       .exact⟨none,0,by rw[hg,hn],by omega⟩
       .exact⟨_,cap,hg,ik⟩
      have rX:VB xs.length qV xs.length:=by
       cases qV with
       |none=>exact .inl ⟨rfl,rfl⟩
       |some v=>exact gK.elim
      subst hz;have az:=vH (ad:=ad) (w:=w) hd (s:=el.size) (by rw[gS hT cg,bF]) (rW aX gU h0) rX (by omega) cJ;rw[<-hg]at az;refine⟨_,S,γ,az,hR,⟨hx.1,rfl,λb hb=>?_⟩,λ_=>rfl⟩;rw[show (σ.upd []).bx k=σ.bx k from rfl,hk]at hb;cases hb;exact⟨bT,by omega,ad,cap,hg,rfl⟩
     .simp at h
    .simp at h
   .simp at h
  .rename_i hh;split at h
   .rename_i e el xs f hk;split at h
    .rename_i bg;obtain⟨hd,_,te,cg,cb⟩:=l9 hT ht bg;have bF:=kI hT cg cb;split at h
     .rename_i i j aX gE;have bT:=aL.nm hk;have hk:=aL.live hk;have hz:=hx.2.2 _ hk;split at h
      ·-- a tz: its head
       split at h
       .rename_i qW;simp only[Option.isNone_iff_eq_none]at qW;subst qW;simp only[j4,j8,ja,jk]at h;obtain⟨⟨h0,h1⟩,rfl,rfl⟩:=h;obtain⟨css,aJ,_⟩:=gR bT (hR.box k _ hk)
        have tA:VB 0 pj 0:=by
         cases pj with
         |none=>exact .inl ⟨rfl,rfl⟩
         |some v=>exact gU.elim
        have rX:=rW gE gK h0
        obtain⟨ad,cap,hg,cJ,Xt⟩:∃ad cap,γ k = .slice ad xs.length cap/\xs.length<=cap/\(if cap=0 then ad else ad.map (·.add (0*el.size)))=ad:=by
         rcases aJ.2 with⟨hg,hn⟩|⟨g,cap,cur,hg,_,_,ik,_⟩
         .exact⟨none,0,by rw[hg,hn],by omega,rfl⟩
         .exact⟨_,cap,hg,ik,by simp[Addr.add_lit]⟩
        have az:=vH (ad:=ad) (w:=w) hd (s:=el.size) (by rw[gS hT cg,bF]) tA rX (by omega) (show j.toNat<=cap by omega);rw[<-hg,Xt]at az;subst hz;refine⟨_,S,γ,az,hR,⟨hx.1,rfl,λb hb=>?_⟩,λ_=>rfl⟩;rw[show (σ.upd []).bx k=σ.bx k from rfl,hk]at hb;cases hb;exact⟨bT,by omega,ad,cap,hg,rfl⟩
       .simp at h
      rename_i mV;have mV:parK np k=false:=by simpa using mV
      split at h
      ·-- cut short
       rename_i eE;simp only[ja,Option.isNone_iff_eq_none,Bool.not_eq_eq_eq_not,jn]at eE;obtain⟨rfl,rfl⟩:=eE;split at h
       .rename_i gC;simp only[j4,j8,ja,jk]at h;obtain⟨⟨h0,h1⟩,rfl,rfl⟩:=h;have Aa:=aR d gC;have qT:d≠k:=by rintro rfl;rw[Aa]at hk;simp at hk
        obtain⟨css,aJ,al,hS⟩:=gR bT (hR.box k _ hk);have dE:=All2.all_len al
        have tA:VB 0 pj 0:=by
         cases pj with
         |none=>exact .inl ⟨rfl,rfl⟩
         |some v=>exact gU.elim
        have rX:=rW gE gK h0;have bj:=DO hR hk;have qP:(σ.setB k .gone).bx d = .free:=by rw[cj σ _ qT];exact Aa
        have O3:j.toNat<=xs.length:=by omega
        have Xu:css.length=xs.length:=al.length.symm
        have key:∃v',(Instr.sliceAt t vx pj qV none).run P w = .ok v' w/\w.ownsRow 0 e el.size v' (List.take j.toNat xs).length (List.take j.toNat css).flatten/\blk v'=blk vx:=by
         rw[hz];have au:(List.take j.toNat xs).length=j.toNat:=by simp;omega
         rcases aJ.2 with⟨hg,hn⟩|⟨g,cap,cur,hg,_,hh,ik,jF,dr,cX⟩
         .rw[hg];have Hd:j.toNat=0:=by omega
          refine⟨_,vH hd (s:=el.size) (len:=0) (by rw[gS hT cg,bF]) tA (by rw[hn]at rX;exact rX) (by omega) (by omega),?_,by simp;rfl⟩;rw[Hd];simpa using World.ownsRow_nil w 0 e el.size
         .rw[hg];refine⟨_,vH hd (s:=el.size) (by rw[gS hT cg,bF]) tA rX (by omega) (by omega),?_,?_⟩
          .refine⟨?_,.inr ⟨g,cap,cur,?_,k7 _,hh,by omega,jF,dr,?_⟩⟩
           .rw[tw _ dE,qg,aJ.1,au];exact Nat.min_eq_left (jv _ O3)
           .rw[au];by_cases hc:cap=0
            .simp[hc]
            .simp[hc,Addr.add_lit]
           .rw[au,tw _ dE,<-cX,ze,Nat.min_eq_left (jv _ O3)]
          .by_cases hc:cap=0
           .simp[hc];rfl
           .simp[hc,Addr.add_lit];rfl
        obtain⟨v',az,bQ,hblk⟩:=key
        have mi:∀g,blk v'=some g->w0.heap.size<=g/\(∀k' b,(σ.setB k .gone).bx k' = .live b->blk (γ k')≠some g)/\g<w.heap.size:=by
         intro g hg;rw[hblk,hz]at hg;refine⟨?_,λk' b' aD an=>?_,iO (hR.box k _ hk) hg⟩
         .rcases hR.own k _ g hk hg with h|h
          .exact h
          .rw[mV]at h;simp at h
         .have bL:k'≠k:=by rintro rfl;rw[er]at aD;simp at aD
          rw[cj σ _ bL]at aD;exact hR.apart k' k _ _ g bL aD hk an hg
        obtain⟨cI,fy⟩:=zV bj qP (hm:=bT) (w':=w) (S':=S) (v':=v') (e:=e) (el:=el) (zs:=List.take j.toNat xs) (frz:=false) (css:=List.take j.toNat css) (.refl S w) (λg hg aT=>rfl) (jq _) mi
         (λg o hs=> .inl hs) rfl rfl rfl bQ (al.take _) (λg hg=>⟨λ_=>(hS g (by rw[<-hz,<-hblk];exact hg)).1 rfl,by simp⟩) (λg hg=>hR.kw_live hk (by rw[<-hz,<-hblk];exact hg))
        exact⟨v',S,_,az,cI,fy⟩
       .simp at h
      ·-- shared
       simp only[j4,j8,ja,jk]at h;obtain⟨⟨h0,h1,h2⟩,rfl,rfl⟩:=h;obtain⟨S',cE,aA,bk⟩:=G0 hR bT hk mV;have kM:=bk;obtain⟨ad,cap,hv,hle,_⟩:=bk;simp at hv;rw[hv]at kM;refine⟨_,S',γ,by rw[hz,hv];exact vH hd (s:=el.size) (by rw[gS hT cg,bF]) (rW aX gU h0) (rW gE gK (by omega)) (by omega) (by omega),cE,O2 kM (by omega) (by omega),λ_=>rfl⟩
     .simp at h
    .simp at h
   .simp at h
 ·-- of a head
  rename_i k m;split at h
  .rename_i e el xs f hk;split at h
   .rename_i bg;obtain⟨bg,Xv⟩:=bg;obtain⟨hd,_,te,cg,cb⟩:=l9 hT ht bg;have bF:=kI hT cg cb;split at h
    .rename_i i j aX gE;simp only[j4,j8,ja,jk]at h;obtain⟨⟨h0,h1,h2⟩,rfl,rfl⟩:=h;have bT:=aL.nm hk;have hk:=aL.live hk;obtain⟨_,hm,ad,cap,hg,hz⟩:=hx.2.2 _ hk;obtain⟨css,aJ,_⟩:=DF hg (hR.box k _ hk)
     have cJ:xs.length<=cap:=by
      rcases aJ.2 with⟨an,hn⟩|⟨g,fP,cur,an,_,_,ik,_⟩
      .omega
      .rw[hg]at an;simp only[Value.slice.injEq,kp]at an;omega
     have rX:VB m qV xs.length:=by
      have:=rW gE gK (by omega);rw[h2,j7]at this;rcases this with⟨h3,_⟩|h3
      .cases hi with
       |none=>simp at Xv
       |some y=>subst h3;exact gK.elim
      .exact .inr h3
     have az:=vH (ad:=ad) (w:=w) hd (s:=el.size) (by rw[gS hT cg,bF]) (rW aX gU h0) rX (by omega) cJ;subst hz;refine⟨_,S,γ,az,hR,⟨hx.1,rfl,λb hb=>?_⟩,λ_=>rfl⟩;rw[show (σ.upd []).bx k=σ.bx k from rfl,hk]at hb;cases hb;exact⟨bT,by omega,ad,cap,hg,rfl⟩
    .simp at h
   .simp at h
  .simp at h
 .simp at h
theorem Xw{P:Program}{E:Env}(hT:cd P E.T)(hR:Rel N np S0 w0 refs σ a w S γ){rd:Nat->BS}(aL:RdOk σ rd){t:TypeId}{ti:TyI}(ht:E.T t=some ti)
  {x mx:Leaf}{lo hi:Option Leaf}{vx vm:Value}{pj qV:Option Value}(h:xt rd ti x lo hi mx=some true)
  (hx:bn S w γ σ.bx x vx)(gU:ORep (bn S w γ σ.bx) lo pj)(gK:ORep (bn S w γ σ.bx) hi qV)(rY:bn S w γ σ.bx mx vm) :
  ∃v,(Instr.sliceAt t vx pj qV (some vm)).run P w = .ok v w:=by
 unfold xt at h;split at h
 case h_2=>simp at h
 rename_i k k1 i k2 j k3 m;split at h
 case h_2=>simp at h
 rename_i e el xs f hk;split at h
 case isFalse=>simp at h
 rename_i bg;simp only[j4,ja,jk]at h;obtain⟨h0,h1,h2,h3⟩:=h;obtain⟨hd,_,te,cg,cb⟩:=l9 hT ht bg;have bF:=kI hT cg cb;have bT:=aL.nm hk;have hk:=aL.live hk;have hz:=hx.2.2 _ hk;cases pj with
 |none=>exact gU.elim
 |some vl=>
 cases qV with
 |none=>exact gK.elim
 |some vh=>
 have e1:vl = .int k1 i:=mS (S:=S) (w:=w) gU;have e2:vh = .int k2 j:=mS (S:=S) (w:=w) gK;have e3:vm = .int k3 m:=mS (S:=S) (w:=w) rY;subst e1 e2 e3;obtain⟨css,aJ,_⟩:=gR bT (hR.box k _ hk);have he:=O1 hd;have fJ:P.underlying t=some (.slice (P.elem t)):=by rw[he];exact hd
 rw[run_sliceAt_slice w t _ _ _ _ fJ];have dI:(sizeOf (P.elem t)).run P w = .ok el.size w:=by rw[he];rw[gS hT cg,bF]
 have key:∀ad n cap,(m:Int)<=(cap:Nat)->∃v,(Instr.slice t (.slice ad n cap) (some (.int k1 i)) (some (.int k2 j)) (some (.int k3 m))).run P w = .ok v w:=by intro ad n cap hc;rw[run_slice_lhm w t ad n cap fJ _ _ _ _ _ _ h0 h1 h2 hc,dI];exact⟨_,rfl⟩
 rcases aJ.2 with⟨hg,hn⟩|⟨g,cap,cur,hg,_,hh,ik,_⟩
 .rw[hz,hg];exact key _ _ _ (qh h3 (by omega))
 .rw[hz,hg];exact key _ _ _ (qh h3 (by omega))
theorem O4(hR:Rel N np S0 w0 refs σ a w S γ){x:Leaf}{k i e:Nat}{el:Ty}{xs:List el.den}{f:Bool}{vx:Value}(h:Dx x=some (k,i))(bT:isM e=false)(hk:σ.bx k = .live (.lst e el xs f))
  (hx:bn S w γ σ.bx x vx):i<=xs.length/\((xs.length=0/\vx = .slice none 0 0)\/
   ∃g cap,γ k = .slice (some ⟨g,0,none⟩) xs.length cap/\xs.length<=cap/\vx = .slice (some ⟨g,if cap=i then 0 else i*el.size,none⟩) (xs.length-i) (cap-i)):=by
 obtain⟨css,aJ,al,hS⟩:=gR bT (hR.box k _ hk);unfold Dx at h;split at h
 .simp only[j4,j8]at h;obtain⟨rfl,rfl⟩:=h;have hz:=hx.2.2 _ hk;refine⟨k7 _,?_⟩;rcases aJ.2 with⟨hg,hn⟩|⟨g,cap,cur,hg,_,hh,ik,jF,dr,cX⟩
  .exact .inl ⟨hn,by rw[hz,hg]⟩
  .exact .inr ⟨g,cap,hg,ik,by rw[hz,hg];simp⟩
 .rename_i k' i';simp only[j4,j8]at h;obtain⟨rfl,rfl⟩:=h;obtain⟨_,hi,ad,cap,an,hv⟩:=hx.2.2 _ hk;refine⟨hi,?_⟩;rcases aJ.2 with⟨hg,hn⟩|⟨g,fP,cur,hg,_,hh,ik,jF,dr,cX⟩
  .rw[hg]at an;simp only[Value.slice.injEq]at an;obtain⟨rfl,_,rfl⟩:=an;exact .inl ⟨hn,by rw[hv];simp;omega⟩
  .rw[hg]at an;simp only[Value.slice.injEq,kp]at an;obtain⟨rfl,rfl⟩:=an;refine .inr ⟨g,fP,hg,ik,?_⟩;rw[hv];by_cases hc:fP=i'
   .rw[if_pos hc,if_pos hc]
   .rw[if_neg hc,if_neg hc];simp[Addr.add_lit]
 .simp at h
theorem He{P:Program}(hR:Rel N np S0 w0 refs σ a w S γ){k i e g cap:Nat}{el:Ty}{xs zs:List el.den}(hk:σ.bx k = .live (.lst e el xs false))(hg:γ k = .slice (some ⟨g,0,none⟩) xs.length cap)
  {cz:List (List Value)}(hz:All2 (λx c=>Rep S w el x c) zs cz)(hl:i+zs.length<=xs.length) :
  ∃w',(storeCells ⟨g,i*el.size,none⟩ cz.flatten).run P w = .ok () w'/\Rel N np S0 w0 refs (σ.setB k (.live (.lst e el (List.take i xs++(zs++List.drop (i+zs.length) xs)) false))) a w' S γ:=by
 have bT:=Oo hg (hR.box k _ hk);obtain⟨css,aJ,al,hS⟩:=gR bT (hR.box k _ hk);have oo:cz.flatten.length=zs.length*el.size:=All2.flatten_length (λx c hx=>Rep.length el x c hx) hz;have h1:∀u∈cz.flatten,One u:=by intro u hu;obtain⟨c,hc,uY⟩:=List.mem_flatten.1 hu;obtain⟨x,_,hx⟩:=hz.mem_right c hc;exact Rep.one el x c hx u uY
 rcases aJ.2 with⟨an,hn⟩|⟨g',fP,cur,an,_,hh,ik,jF,dr,cX⟩
 .rw[hg]at an;simp at an
 rw[hg]at an;simp only[Value.slice.injEq,j4,Addr.mk.injEq,and_true,kp]at an;obtain⟨rfl,rfl⟩:=an;have gf:i*el.size+zs.length*el.size<=xs.length*el.size:=by rw[<-Nat.add_mul];exact jv _ hl
 have iB:xs.length*el.size<=cap*el.size:=jv _ ik;have aA:=run_storeCells_at P g (i*el.size) e cz.flatten 0 cur w hh (by rw[oo,dr];omega) h1;simp only[Nat.add_zero]at aA;refine⟨_,aA,?_⟩;have dE:=All2.all_len al;have Hf:=All2.all_len hz;have tu:∀o,¬S g o:=(hS g (by rw[hg];rfl)).1 rfl;refine zR hR hk (by rw[hg];rfl) tu (b':= .lst e el _ false) ⟨rfl,rfl,λ_=>by simp;omega⟩ hh (λfg cY=>?_);have hlen:(List.take i xs++(zs++List.drop (i+zs.length) xs)).length=xs.length:=by simp;omega
 refine zH bT ⟨css.take i++(cz++css.drop (i+zs.length)),⟨?_,.inr ⟨g,cap,_,?_,k7 _,setRow_heap w g cur _ e (0,0) hh,by rw[hlen];exact ik,jF,?_,?_⟩⟩,?_,λg' an=>?_⟩
 .rw[hlen,vB (m:=el.size)]
  .have:=al.length;have:=hz.length;simp only[je,qg,v8];congr 1;omega
  .intro d hd;simp only[js]at hd;rcases hd with hd|hd|hd
   .exact dE d (ky hd)
   .exact Hf d hd
   .exact dE d (qz hd)
 .rw[hlen];exact hg
 .simp only[zw,je,qg,v8,q9];omega
 .rw[hlen];simp only[ve,tw i dE,zU _ dE,<-cX];have hA:(cur.toList.take (i*el.size)).length=i*el.size:=by simp;omega
  rw[jg,List.take_append,hA,List.take_of_length_le (by omega),ze,Nat.min_eq_left (by omega)];congr 1;rw[List.take_append,oo,List.take_of_length_le (by omega),Nat.add_mul];congr 1;rw[List.drop_take];congr 1;omega
 .exact((al.mono (λx c hx=>Rep.keep cY _ _ _ hx)).take _).append ((hz.mono (λx c hx=>Rep.keep cY _ _ _ hx)).append ((al.mono (λx c hx=>Rep.keep cY _ _ _ hx)).drop _))
 .rw[hg]at an;simp[blk]at an;subst an;exact⟨λ_=>tu,by simp⟩
theorem O5{σ:St}{k:Nat}{b:BS}(h:σ.bx k=b):σ.setB k b=σ:=by
 unfold St.setB;congr 1;funext j;split
 .rename_i hj;subst hj;exact h.symm
 .rfl
theorem Xx{P:Program}{E:Env}(hT:cd P E.T)(hR:Rel N np S0 w0 refs σ a w S γ){rd:Nat->BS}(aL:RdOk σ rd){t ty:TypeId}{ti:TyI}(ht:E.T t=some ti)
  {x y l:Leaf}{u:Ups}{vx vy:Value}(h:xu rd ti.ty x y=some (l,u))(hx:bn S w γ σ.bx x vx)(hy:bn S w γ σ.bx y vy) :
  ∃v w',(Builtin.copy_ #[t,t] ty #[vx,vy]).run P w = .ok v w'/\Rel N np S0 w0 refs (σ.upd u) a w' S γ/\bz S w' γ (σ.upd u).bx (.one l) v:=by
 unfold xu at h;split at h
 .rename_i k i Ab;split at h
  .rename_i e el xs hk;split at h
   .rename_i bg;split at h
    .rename_i ys gg;simp only[j4,j8]at h;obtain⟨rfl,rfl⟩:=h;have bT:=aL.nm hk;have hk:=aL.live hk;obtain⟨hd,bG,te,cg,cb⟩:=l9 hT ht bg;have bF:=kI hT cg cb;have eN:(sizeOf ti.elem).run P w = .ok el.size w:=by rw[gS hT cg,bF]
     obtain⟨ad,c,cy,G7,eM,vF,dq⟩:=OT hR aL gg hy;subst G7;obtain⟨hi,bU⟩:=O4 hR Ab bT hk hx;have Ac:=All2.all_len vF;have lN:cy.length=ys.length:=vF.length.symm;have gD:(List.take (xs.length-i) ys).length=min ys.length (xs.length-i):=by simp;omega
     have vJ:over xs i ys=List.take i xs++(List.take (xs.length-i) ys++List.drop (i+(List.take (xs.length-i) ys).length) xs):=by
      unfold over;congr 2;rw[gD];by_cases h:ys.length<=xs.length-i
      .rw[Nat.min_eq_left h]
      .rw[Nat.min_eq_right (by omega),jc (by omega),jc (by omega)]
     have tB:(Builtin.firstCells el.size (min ys.length (xs.length-i)) (.slice ad ys.length c)).run P w = .ok (List.take (xs.length-i) cy).flatten.toArray w:=by
      cases ad with
      |none=>have h0:=(eM rfl).1;have:cy=[]:=jw (by omega);subst this;simp[Builtin.firstCells]
      |some b=>
       have e1:(List.take (xs.length-i) cy).flatten.length=min ys.length (xs.length-i)*el.size:=by rw[vB (m:=el.size) (λc hc=>Ac c (ky hc)),qg,lN,Nat.min_comm]
       have:=run_loadCells_list (P:=P) w b (List.take (xs.length-i) cy).flatten (λj v hj=>by
        rw[tw _ Ac,q8]at hj;split at hj
        .exact dq b rfl j v hj
        .simp at hj)
       rw[e1]at this;simpa[Builtin.firstCells]using this
     have az:∀base dl dc w',vx = .slice base dl dc->dl=xs.length-i->(base=none->w'=w)->(∀ab,base=some ab->(storeCells ab (List.take (xs.length-i) cy).flatten).run P w = .ok () w')->
       (Builtin.copy_ #[t,t] ty #[vx,.slice ad ys.length c]).run P w = .ok (goInt ((min ys.length (xs.length-i):Nat):Int)) w':=by
      intro base dl dc w' hv rZ cO dH;subst hv rZ;have r5:Nat.min ys.length (xs.length-i)=min ys.length (xs.length-i):=rfl;cases base with
      |none=>simp[Builtin.copy_,run_underlying hd,Builtin.lenOf,eN,r5,tB,cO rfl]
      |some ab=>simp[Builtin.copy_,run_underlying hd,Builtin.lenOf,eN,r5,tB,dH ab rfl]
     by_cases hn:min ys.length (xs.length-i)=0
     .have hz:List.take (xs.length-i) ys=[]:=jw (by rw[gD];exact hn);have ga:(List.take (xs.length-i) cy).flatten=[]:=by have:List.take (xs.length-i) cy=[]:=jw (by rw[qg,lN];omega);rw[this];rfl
      have Hg:over xs i ys=xs:=by rw[vJ,hz];simp
      refine⟨_,w,?_,?_,⟨rfl,λ_=>rfl⟩⟩
      .rcases bU with⟨h0,hv⟩|⟨g,cap,hg,cJ,hv⟩
       .exact az none 0 0 w hv (by omega) (λ_=>rfl) (λab cG=>by simp at cG)
       .refine az _ _ _ w hv rfl (λ_=>rfl) (λab cG=>?_);rw[ga];rfl
      .show Rel N np S0 w0 refs (σ.setB k (.live (.lst e el (over xs i ys) false))) a w S γ;rw[Hg,O5 hk];exact hR
     .rcases bU with⟨h0,hv⟩|⟨g,cap,hg,cJ,hv⟩
      .omega
      .have mf:cap≠i:=by omega
       rw[if_neg mf]at hv;obtain⟨w',aA,cI⟩:=He (P:=P) hR hk hg (i:=i) (vF.take (xs.length-i)) (by rw[gD];omega);refine⟨_,w',az _ _ _ w' hv rfl (λh=>by simp at h) (λab cG=>?_),?_,⟨rfl,λ_=>rfl⟩⟩
       .simp only[j4]at cG;subst cG;exact aA
       .show Rel N np S0 w0 refs (σ.setB k (.live (.lst e el (over xs i ys) false))) a w' S γ;rw[vJ];exact cI
    .simp at h
   .simp at h
  .simp at h
 .simp at h
theorem Xy{P:Program}{E:Env}(hT:cd P E.T)(hR:Rel N np S0 w0 refs σ a w S γ){rd:Nat->BS}(aL:RdOk σ rd){t ty:TypeId}{ti:TyI}(ht:E.T t=some ti)
  {x:Leaf}{u:Ups}{vx:Value}(h:xv rd ti.ty x=some u)(hx:bn S w γ σ.bx x vx) :
  ∃v w',(Builtin.clear_ #[t] ty #[vx]).run P w = .ok v w'/\Rel N np S0 w0 refs (σ.upd u) a w' S γ:=by
 unfold xv at h;split at h
 .rename_i k i Ab;split at h
  .rename_i e el xs hk;split at h
   .rename_i bg;simp only[j4]at h;subst h;have bT:=aL.nm hk;have hk:=aL.live hk;obtain⟨hd,bG,te,cg,cb⟩:=l9 hT ht bg;have bF:=kI hT cg cb;obtain⟨z,hz,ga⟩:=uZ hT cg w cb;obtain⟨hi,bU⟩:=O4 hR Ab bT hk hx;by_cases hn:xs.length-i=0
    .have vJ:List.take i xs++List.replicate (xs.length-i) el.dflt=xs:=by rw[hn];simp[List.take_of_length_le (show xs.length<=i by omega)]
     refine⟨.tuple #[],w,?_,?_⟩
     .rcases bU with⟨h0,hv⟩|⟨g,cap,hg,cJ,hv⟩
      .simp[Builtin.clear_,run_underlying hd,hv]
      .rw[hn]at hv;simp[Builtin.clear_,run_underlying hd,hv]
     .show Rel N np S0 w0 refs (σ.setB k (.live (.lst e el (List.take i xs++List.replicate (xs.length-i) el.dflt) false))) a w S γ;rw[vJ,O5 hk];exact hR
    .rcases bU with⟨h0,hv⟩|⟨g,cap,hg,cJ,hv⟩
     .omega
     .have mf:cap≠i:=by omega
      rw[if_neg mf]at hv
      have O6:All2 (λx c=>Rep S w el x c) (List.replicate (xs.length-i) el.dflt) (List.replicate (xs.length-i) (iM el)):=by
       have h0:=oh (S:=S) (w:=w) el
       have:∀n,All2 (λx c=>Rep S w el x c) (List.replicate n el.dflt) (List.replicate n (iM el)):=by
        intro n;induction n with
        |zero=>exact trivial
        |succ n ih=>exact⟨h0,ih⟩
       exact this _
      obtain⟨w',aA,cI⟩:=He (P:=P) hR hk hg (i:=i) O6 (by simp;omega);refine⟨.tuple #[],w',?_,?_⟩
      .have Xz:0<z.cells.size:=by have:=DU ga;omega
       have cU:(Builtin.zeroCells z.cells (xs.length-i)).toList=(List.replicate (xs.length-i) (iM el)).flatten:=by rw[<-ga];exact OW z.cells (xs.length-i) Xz
       rw[hv];obtain⟨m,hm⟩:∃m,xs.length-i=m+1:=⟨xs.length-i-1,by omega⟩;rw[hm]at cU aA ⊢;simp[Builtin.clear_,run_underlying hd,hz,cU,aA]
      .show Rel N np S0 w0 refs (σ.setB k (.live (.lst e el (List.take i xs++List.replicate (xs.length-i) el.dflt) false))) a w' S γ;have:List.drop (i+(List.replicate (xs.length-i) el.dflt).length) xs=[]:=jc (by simp;omega);rw[this,qe]at cI;exact cI
   .simp at h
  .simp at h
 .simp at h
theorem XA{P:Program}{E:Env}(hT:cd P E.T)(hR:Rel N np S0 w0 refs σ a w S γ){rd:Nat->BS}(aL:RdOk σ rd){t ty:TypeId}{ti:TyI}(ht:E.T t=some ti){el:Ty}(bg:ti.ty=some (.list el))
  {s x v:Leaf}{u:Ups}{vs vx:Value}(h:appH rd ti.elem el s x=some (true,v,u))(hs:bn S w γ σ.bx s vs)(hx:bn S w γ σ.bx x vx) :
  ∃z w',(Builtin.append_ #[t,t] ty #[vs,vx]).run P w = .ok z w'/\Rel N np S0 w0 refs (σ.upd u) a w' S γ/\bn S w' γ (σ.upd u).bx v z/\One z:=by
 unfold appH at h;split at h
 case h_2=>simp at h
 rename_i k i k' j;split at h
 case isFalse=>simp at h
 rename_i bL;subst bL;split at h
 case h_2=>simp at h
 rename_i e b xs hk;split at h
 case isFalse=>simp at h
 rename_i hb;obtain⟨hb,he⟩:=hb;subst hb;subst he;simp only[j4,j8,jk]at h;obtain⟨ec,rfl,rfl⟩:=h;obtain⟨hd,_,te,cg,cb⟩:=l9 hT ht bg;have bF:=kI hT cg cb;obtain⟨inf,d,hi,_,nA,_⟩:=lJ hT cg;have jK:inf.size=b.size:=by rw[nA,<-bF]
 have bT:=aL.nm hk;have hk:=aL.live hk;obtain⟨_,gr,ad,cap,hg,gJ⟩:=hs.2.2 _ hk;obtain⟨_,xO,Xr,fP,an,DS⟩:=hx.2.2 _ hk;rw[hg]at an;simp only[Value.slice.injEq,kp]at an;obtain⟨rfl,rfl⟩:=an;obtain⟨css,aJ,al,hS⟩:=DF hg (hR.box k _ hk);have dE:=All2.all_len al;have mW:(List.take i xs++(List.drop j xs++List.drop (i+(xs.length-j)) xs)).length=xs.length:=by simp;omega
 have iQ:∀(w':World),bn S w' γ (σ.setB k (.live (.lst ti.elem b (List.take i xs++(List.drop j xs++List.drop (i+(xs.length-j)) xs)) false))).bx (.hd k (i+(xs.length-j))) (.slice ad (i+(xs.length-j)) cap):=by intro w';refine⟨by rw[er];simp,rfl,λb' aD=>?_⟩;rw[er]at aD;cases aD;exact⟨bT,by rw[mW];omega,ad,cap,by rw[mW];exact hg,rfl⟩
 rcases aJ.2 with⟨eu,hn⟩|⟨g,Ad,cur,eu,_,hh,ik,jF,dr,cX⟩
 .rw[hg]at eu;simp only[Value.slice.injEq]at eu;obtain⟨rfl,_,rfl⟩:=eu;have rU:xs=[]:=jw hn;subst rU;have XB:i=0:=by simpa using gr
  have Hd:j=0:=by simpa using xO
  subst XB Hd;have az:=run_append_owned_none (P:=P) w 0 t ty ti.elem inf b.size hd hi (.slice none 0 0) 0 [] (World.ownsRow_nil w 0 ti.elem b.size)
  have XC:σ.setB k (.live (.lst ti.elem b ([]:List b.den) false))=σ:=by
   show St.mk σ.sl _=σ
   have:(λj=>if j=k then BS.live (.lst ti.elem b ([]:List b.den) false) else σ.bx j)=σ.bx:=by
    funext j
    by_cases hj:j=k
    .subst hj;simp[hk]
    .simp[hj]
   rw[this]
  refine⟨_,w,by rw[gJ,DS];exact az,?_,iQ w,rfl⟩;show Rel N np S0 w0 refs (σ.setB k (.live (.lst ti.elem b ([]:List b.den) false))) a w S γ;rw[XC];exact hR
 .rw[hg]at eu;simp only[Value.slice.injEq,kp]at eu;obtain⟨rfl,rfl⟩:=eu;obtain⟨w',aA,cI⟩:=He (P:=P) (i:=i) hR hk hg (al.drop j) (by simp;omega);have oo:(css.drop j).flatten.length=(xs.length-j)*b.size:=by have:=All2.flatten_length (λx c hx=>Rep.length b x c hx) (al.drop j);simpa using this
  have h1:∀u∈(css.drop j).flatten,One u:=by intro u hu;obtain⟨c,hc,uY⟩:=List.mem_flatten.1 hu;obtain⟨x,_,hx⟩:=(al.drop j).mem_right c hc;exact Rep.one b x c hx u uY
  have gf:i*b.size+(xs.length-j)*b.size<=xs.length*b.size:=by rw[<-Nat.add_mul];exact jv _ (by omega)
  have iB:xs.length*b.size<=cap*b.size:=jv _ ik;have cY:=run_storeCells_at P g (i*b.size) _ (css.drop j).flatten 0 cur w hh (by rw[oo,dr];omega) h1;simp only[Nat.add_zero]at cY;have hw:w'=w.setRow g (cur.toList.take (i*b.size)++(css.drop j).flatten++cur.toList.drop (i*b.size+(css.drop j).flatten.length)).toArray:=by have:=aA.symm.trans cY;simpa using this
  have cU:∀q u,(css.drop j).flatten[q]? = some u->w.cell? ((⟨g,if cap=j then 0 else j*b.size,none⟩:Addr).add q)=some u:=by
   intro q u hq;have O7:q<(xs.length-j)*b.size:=by rw[<-oo];exact(ju.1 hq).1
   have hc:¬cap=j:=by
    intro hc;have:xs.length-j=0:=by omega
    rw[this]at O7;simp at O7
   rw[if_neg hc,Addr.add_lit];rw[zU j dE,List.getElem?_drop]at hq;have:=aJ.cells (g:=g) (by rw[hg];rfl) _ u hq;rwa[Addr.add_lit,jz]at this
  have az:=run_append_room (P:=P) w t ty ti.elem inf hd hi g i cap cur (by exact hh) ⟨g,if cap=j then 0 else j*b.size,none⟩ (xs.length-j) (cap-j) (css.drop j).flatten (by rw[jK];exact oo) cU h1 (by omega)
   (by rw[jK,oo,dr];omega)
  have Hh:vx = .slice (some ⟨g,if cap=j then 0 else j*b.size,none⟩) (xs.length-j) (cap-j):=by
   rw[DS];by_cases hc:cap=j
   .rw[if_pos hc,if_pos hc]
   .rw[if_neg hc,if_neg hc];simp[Addr.add_lit]
  refine⟨_,w',by rw[gJ,Hh,az,hw,jK],?_,iQ w',rfl⟩;have:(List.drop j xs).length=xs.length-j:=by simp
  rw[this]at cI;exact cI
theorem XE{P:Program}{E:Env}(hT:cd P E.T)(hR:Rel N np S0 w0 refs σ a w S γ){rd rdf:Nat->BS}(aL:RdOk σ rd)(bu:RdF np σ rdf){t ty:TypeId}{ti:TyI}(ht:E.T t=some ti){el:Ty}(bg:ti.ty=some (.list el)){n:Nat}
  {s x v:Leaf}{u:Ups}{vs vx:Value}(h:appN rd rdf el n s x=some (v,u))(hs:bn S w γ σ.bx s vs)(hx:bn S w γ σ.bx x vx) :
  ∃z w' γ',(Builtin.append_ #[t,t] ty #[vs,vx]).run P w = .ok z w'/\Rel N np S0 w0 refs (σ.upd u) a w' S γ'/\bn S w' γ' (σ.upd u).bx v z/\One z:=by
 unfold appN at h;split at h
 case h_2=>simp at h
 rename_i k;split at h
 case h_2=>simp at h
 rename_i ls hk;split at h
 case isFalse=>simp at h
 rename_i hc;obtain⟨qW,gC⟩:=hc;simp only[j4,j8]at h;obtain⟨rfl,rfl⟩:=h;have hn:=aL.free gC;have hk:=bu.ok.live hk;have gJ:vs = .slice none 0 0:=hs;subst gJ;obtain⟨g,cap,hg,rfl,fa,gz⟩:=hx.2.2 _ hk;obtain⟨g',cur,e,an,hh,cT,h1,hS,_⟩:=hR.box k _ hk;rw[hg]at an;simp at an;subst an;have qS:n≠k:=by rintro rfl;rw[hn]at hk;simp at hk
 have hlen:(cur.toList.take ls.length).length=el.size:=by rw[<-cT.length,qW]
 obtain⟨v',w',hr,bQ,os,tape,output,bF,bU⟩:=OS (ty:=ty) hT ht bg (World.ownsRow_nil w 0 ti.elem el.size) (ad:=some ⟨g,0,none⟩) (m:=1) (c:=cap) (news:=cur.toList.take ls.length) (by simp) (by rw[hlen];omega)
  (λb hb j u hu=>by
   simp at hb;subst hb;rw[Addr.add_lit,jz,cell_of_row w g j cur e (0,0) hh];rw[q8]at hu;split at hu
   .simpa using hu
   .simp at hu) h1 (by simp[aP])
 rw[jt]at bQ;rcases bQ.2 with⟨_,hz⟩|⟨g2,Ad,vK,rfl,_,XF,fg,Hi,XG,pk⟩
 .simp at hz
 have bU:g2=w.heap.size/\∀g,g<w.heap.size->w'.heap[g]? = w.heap[g]? := by
  rcases bU with⟨h2,_⟩|⟨_,⟨g3,h3⟩,_⟩|⟨h2,h3⟩
  .simp at h2
  .simp[blk]at h3
  .exact⟨by simpa[blk]using h2,h3⟩
 obtain⟨rfl,hold⟩:=bU;have aA:dn S w S w':=λg o h=>⟨h,World.cell?_of_block (hold g (hR.here g o h))⟩
 have hle:BxLe γ σ.bx (gset γ n (.pointer (some ⟨w.heap.size,0,none⟩))) ((σ.setB k .gone).setB n (.live (.cell ls false))).bx:=by
  intro k' bf;have aT:k'≠n:=by rintro rfl;exact bf hn
  rw[cj _ _ aT,eI γ _ aT];by_cases bL:k'=k
  .subst bL;rw[er];exact⟨by simp,rfl,λb hb=>by simp at hb⟩
  .rw[cj _ _ bL];exact⟨bf,rfl,λb hb=>⟨b,hb,.refl b⟩⟩
 have gh:∀k' b,((σ.setB k .gone).setB n (.live (.cell ls false))).bx k' = .live b->(k'=n/\b = .cell ls false)\/(k'≠n/\σ.bx k' = .live b):=by
  intro k' b hb;by_cases aT:k'=n
  .subst aT;rw[er]at hb;simp at hb;exact .inl ⟨rfl,hb.symm⟩
  .rw[cj _ _ aT]at hb;by_cases bL:k'=k
   .subst bL;rw[er]at hb;simp at hb
   .rw[cj _ _ bL]at hb;exact .inr ⟨aT,hb⟩
 refine⟨_,w',gset γ n (.pointer (some ⟨w.heap.size,0,none⟩)),hr,?_,?_,rfl⟩
 .refine Rel.step (bx':=((σ.setB k .gone).setB n (.live (.cell ls false))).bx) hR aA hle ?_ ?_ ?_ hR.new ?_ ?_ (kx hR.grow bF) (os.trans hR.os) (tape.trans hR.tape) (output.trans hR.output) (λg hg _ h=>⟨hold g hg,λk' b hb cF=>?_⟩)
  .intro k' b hb;rcases gh k' b hb with⟨rfl,rfl⟩|⟨aT,hb⟩
   .refine⟨w.heap.size,vK,_,dY _ _ _,XF,?_,?_,λ_ o=>zQ hR o,by simp⟩
    .have:vK.toList.take ls.length=cur.toList.take ls.length:=by rw[<-pk,qW];congr 1;omega
     rw[this];exact cT.mono λx u hx=>bn.keep aA hle hx
    .have:vK.toList.take ls.length=cur.toList.take ls.length:=by rw[<-pk,qW];congr 1;omega
     rw[this];exact h1
   .exact dS.keep aA hle (eI γ _ aT) (λg hg=>⟨hold g (iO (hR.box k' b hb) hg),λ_=>Iff.rfl⟩) (hR.box k' b hb)
  .intro k' b g hb hg;rcases gh k' b hb with⟨rfl,rfl⟩|⟨aT,hb⟩
   .rw[dY]at hg;simp[blk]at hg;subst hg;exact .inl hR.grow
   .rw[eI γ _ aT]at hg;exact hR.own k' b g hb hg
  .intro k1 k2 b1 b2 g aT h1 h2 iA eu;rcases gh k1 b1 h1 with⟨q1,_⟩|⟨nB,q1⟩
   .rw[q1,dY]at iA;simp[blk]at iA;subst iA;rcases gh k2 b2 h2 with⟨q2,_⟩|⟨vL,q2⟩
    .exact aT (q1.trans q2.symm)
    .rw[eI γ _ vL]at eu;have:=iO (hR.box k2 b2 q2) eu;omega
   .rw[eI γ _ nB]at iA;rcases gh k2 b2 h2 with⟨q2,_⟩|⟨vL,q2⟩
    .rw[q2,dY]at eu;simp[blk]at eu;subst eu;have:=iO (hR.box k1 b1 q1) iA;omega
    .rw[eI γ _ vL]at eu;exact hR.apart k1 k2 b1 b2 g aT q1 q2 iA eu
  .intro g o hs;exact kr (hR.here g o hs) bF
  .intro g hg pd;rw[hold g (kr hg hR.grow)];exact hR.below g hg pd
  .rcases gh k' b hb with⟨rfl,rfl⟩|⟨aT,hb⟩
   .rw[dY]at cF;simp[blk]at cF;omega
   .rw[eI γ _ aT]at cF;exact h k' b hb cF
 .refine⟨by show ((σ.setB k .gone).setB n (.live (.cell ls false))).bx n≠_;rw[er];simp,rfl,λb hb=>?_⟩;have hb:((σ.setB k .gone).setB n (.live (.cell ls false))).bx n = .live b:=hb;rw[er]at hb;cases hb;exact⟨w.heap.size,Ad,dY _ _ _,rfl,by omega,Hi⟩
theorem XH(hR:Rel N np S0 w0 refs σ a w S γ){k d e m:Nat}{el:Ty}{xs:List el.den}(hk:σ.bx k = .live (.lst e el xs false))(mV:parK np k=false)(Aa:σ.bx d = .free){ad:Option Addr}{cap:Nat}(hm:m<=xs.length)
  (hg:γ k = .slice ad xs.length cap) :
  ∃γ',Rel N np S0 w0 refs (σ.upd [(k,.gone),(d,.live (.lst e el (List.take m xs) false))]) a w S γ'/\bz S w γ' (σ.upd [(k,.gone),(d,.live (.lst e el (List.take m xs) false))]).bx (.one (.ol d)) (.slice ad m cap):=by
 have qT:d≠k:=by rintro rfl;rw[Aa]at hk;simp at hk
 have bT:=Oo hg (hR.box k _ hk);obtain⟨css,aJ,al,hS⟩:=gR bT (hR.box k _ hk);have dE:=All2.all_len al;have bj:=DO hR hk;have qP:(σ.setB k .gone).bx d = .free:=by rw[cj σ _ qT];exact Aa
 have au:(List.take m xs).length=m:=by simp;omega
 have hblk:blk (.slice ad m cap)=blk (γ k):=by rw[hg];cases ad<;>rfl
 have bQ:w.ownsRow 0 e el.size (.slice ad m cap) (List.take m xs).length (List.take m css).flatten:=by
  refine⟨?_,?_⟩
  .rw[tw _ dE,qg,aJ.1,au];exact Nat.min_eq_left (jv _ hm)
  .rcases aJ.2 with⟨an,hn⟩|⟨g,fP,cur,an,_,hh,ik,jF,dr,cX⟩
   .rw[hg]at an;simp only[Value.slice.injEq]at an;obtain⟨rfl,_,rfl⟩:=an;exact .inl ⟨by rw[show m=0 by omega],by omega⟩
   .rw[hg]at an;simp only[Value.slice.injEq,kp]at an;obtain⟨rfl,rfl⟩:=an;refine .inr ⟨g,cap,cur,by rw[au],k7 _,hh,by omega,jF,dr,?_⟩;rw[au,tw _ dE,<-cX,ze,Nat.min_eq_left (jv _ hm)]
 have mi:∀g,blk (.slice ad m cap)=some g->w0.heap.size<=g/\(∀k' b,(σ.setB k .gone).bx k' = .live b->blk (γ k')≠some g)/\g<w.heap.size:=by
  intro g hg;rw[hblk]at hg;refine⟨?_,λk' b' aD an=>?_,iO (hR.box k _ hk) hg⟩
  .rcases hR.own k _ g hk hg with h|h
   .exact h
   .rw[mV]at h;simp at h
  .have bL:k'≠k:=by rintro rfl;rw[er]at aD;simp at aD
   rw[cj σ _ bL]at aD;exact hR.apart k' k _ _ g bL aD hk an hg
 obtain⟨cI,fy⟩:=zV bj qP (hm:=bT) (w':=w) (S':=S) (v':= .slice ad m cap) (e:=e) (el:=el) (zs:=List.take m xs) (frz:=false) (css:=List.take m css) (.refl S w) (λg hg aT=>rfl) (jq _) mi
  (λg o hs=> .inl hs) rfl rfl rfl bQ (al.take _) (λg hg=>⟨λ_=>(hS g (by rw[<-hblk];exact hg)).1 rfl,by simp⟩) (λg hg=>hR.kw_live hk (by rw[<-hblk];exact hg))
 exact⟨_,cI,fy⟩
end
section
variable{N:NT}{np:Nat}{S0:aH}{w0:World}{refs:Refs}{σ:St}{a:Go.Act}{w:World}{S:aH}{γ:Nat->Value}
theorem XI{el:Ty}{z:Value}(hz:z.cells.toList=iM el)(n:Nat)(bG:0<el.size) :
  ∃css,All2 (λx c=>Rep S w el x c) (List.replicate n el.dflt) css/\((Array.range (n*z.cells.size)).map (λi=>z.cells[i%z.cells.size]!)).toList=css.flatten:=by
 refine⟨List.replicate n (iM el),?_,?_⟩
 .have hz:=oh (S:=S) (w:=w) el;induction n with
  |zero=>exact trivial
  |succ n ih=>exact⟨hz,ih⟩
 .rw[OW z.cells n (by rw[DU hz];exact bG),hz]
theorem XJ{P:Program}{E:Env}(hT:cd P E.T)(hR:Rel N np S0 w0 refs σ a w S γ){rdf:Nat->BS}(bu:RdF np σ rdf){t:TypeId}{ti:TyI}(ht:E.T t=some ti)
  {el:Ty}(bg:ti.ty=some (.list el)){len d:Nat}{ps:List (Nat×Cel)}{vs:Array (Nat×Value)}{xs:List el.den}{u:Ups}(hlen:len*el.size<=16777216)
  (fM:All2 (λp v=>p.1=v.1/\bz S w γ σ.bx p.2 v.2) ps vs.toList)(h:iK rdf el (List.replicate len el.dflt) [] ps=some (xs,u))(hd:σ.bx d = .free) :
  ∃v' w' S' γ',(Instr.buildSlice t len vs).run P w = .ok v' w'/\Rel N np S0 w0 refs (σ.upd (u++[(d,.live (.lst ti.elem el xs false))])) a w' S' γ'/\
   bz S' w' γ' (σ.upd (u++[(d,.live (.lst ti.elem el xs false))])).bx (.one (.ol d)) v':=by
 obtain⟨mb,bG,te,cg,cb⟩:=l9 hT ht bg;have bF:=kI hT cg cb;obtain⟨hf,cZ⟩:=Hb bu hR.box bG ps vs.toList fM h .nil;obtain⟨S1,bj,cu,dN,dx⟩:=mT u σ S hR hf;obtain⟨z,hz,ga⟩:=uZ hT cg w cb;have kK:z.cells.size=el.size:=DU ga;obtain⟨Hj,Ae,mh⟩:=XI (S:=S1) (w:=w) ga len bG;obtain⟨bm,jJ,eO,al,cU⟩:=cZ S1 cu dN Hj _ Ae mh
 have oq:xs.length=len:=by
  have key:∀(ps:List (Nat×Cel)){xs cH:List el.den}{u u':Ups},iK rdf el xs u ps=some (cH,u')->cH.length=xs.length:=by
   intro ps;induction ps with
   |nil=>intro xs cH u u' h;simp[iK]at h;rw[h.1]
   |cons p ps ih=>
    intro xs cH u u' h;obtain⟨i,c⟩:=p;simp only[iK]at h;split at h
    .split at h
     .rw[ih h];simp
     .simp at h
    .simp at h
  rw[key ps h];simp
 have dr:bm.size=len*el.size:=by have:=All2.flatten_length (λx c hx=>Rep.length el x c hx) al;rw[<-cU,oq]at this;simpa using this
 have hzero:(if len*ti.size=0 then (Pure.pure #[]:Sem (Array Value)) else (do pure (<-zeroValue ti.elem).cells))=(if len*ti.size=0 then Pure.pure #[] else (do pure (<-zeroValue ti.elem).cells)):=rfl
 have az:(Instr.buildSlice t len vs).run P w = .ok (.slice (some ⟨w.heap.size,0,none⟩) len len) (w.alloc (.cells bm ti.elem)):=by
  have dO:¬len*te.size>2^24:=by rw[<-bF];omega
  simp only[Instr.buildSlice,Sem.run_bind,run_underlying mb,Result.andThen_ok,gS hT cg,Sem.run_ite,if_neg dO];by_cases h0:len*te.size=0
  .have rT:len=0:=by
    rw[<-bF]at h0;rcases Nat.mul_eq_zero.1 h0 with h|h
    .exact h
    .omega
   subst rT
   have po:Instr.fill (λi=>some (i*te.size,te.size)) ((Array.range (0*te.size)).map (λi=>(#[]:Array Value)[i%(#[]:Array Value).size]!)) vs.toList=some bm:=by
    rw[<-bF];have:((Array.range (0*el.size)).map (λi=>(#[]:Array Value)[i%(#[]:Array Value).size]!))=((Array.range (0*z.cells.size)).map (λi=>z.cells[i%z.cells.size]!)):=by apply kq;simp
    rw[this];exact eO
   rw[Nat.zero_mul]at po;simp only[h0,if_true,Sem.run_pure,Result.andThen_ok,po,Sem.run_bind,newRow,run_newObj,World.alloc_eq]
  .have vM:Instr.fill (λi=>some (i*te.size,te.size)) ((Array.range (len*te.size)).map (λi=>z.cells[i%z.cells.size]!)) vs.toList=some bm:=by rw[<-bF];rw[kK]at eO ⊢;exact eO
   simp only[h0,qs,Sem.run_bind,hz,Sem.run_pure,Result.andThen_ok,vM,newRow,run_newObj,World.alloc_eq]
 rw[iN];have aA:=xK bj (.cells bm ti.elem)
 obtain⟨cI,fy⟩:=zV bj (dx.free hd) (hm:=GP hT ht) (w':=w.alloc (.cells bm ti.elem)) (S':=S1) (v':= .slice (some ⟨w.heap.size,0,none⟩) len len) (e:=ti.elem) (el:=el) (zs:=xs) (frz:=false) (css:=jJ)
  aA (λg hg _=>heap_alloc_old w _ hg) (by simp) (λg hg=>by
   simp[blk]at hg;subst hg;exact⟨hR.grow,λk b hk an=>by have:=iO (bj.box k b hk) an;omega,by simp⟩) (λg o hs=> .inl hs) rfl rfl rfl
  (by
   rw[oq,<-cU];have hle:len<=maxLen:=by have:len*1<=len*el.size:=Nat.mul_le_mul_left _ bG;simp only[maxLen];omega
   exact World.ownsRow_lit w bm len (k7 _) hle dr) (al.mono (λx c hx=>Rep.keep aA _ _ _ hx)) (λg hg=>by
   simp[blk]at hg;subst hg;exact⟨λ_ o=>zQ bj o,by simp⟩) (λg hg=>by simp[blk]at hg;subst hg;exact bj.kw_new (jq _))
 exact⟨_,_,S1,_,az,cI,fy⟩
theorem XK{P:Program}{E:Env}(hT:cd P E.T)(hR:Rel N np S0 w0 refs σ a w S γ){t:TypeId}{ti:TyI}(ht:E.T t=some ti)
  {el:Ty}(bg:ti.ty=some (.list el)){n len:Nat}{fr:Bool}{ps:List (Nat×Cel)}{vs:Array (Nat×Value)}{b:Bool}{s:Slot}{u:Ups}(hn:fr=true->σ.bx n = .free)
  (fM:All2 (λp v=>p.1=v.1/\bz S w γ σ.bx p.2 v.2) ps vs.toList)(h:one1 fr el n len ps=some (.val b s u)) :
  b=true/\s = .one (.one (.s1 n))/\∃v' w' γ',(Instr.buildSlice t len vs).run P w = .ok v' w'/\Rel N np S0 w0 refs (σ.upd u) a w' S γ'/\bz S w' γ' (σ.upd u).bx (.one (.s1 n)) v':=by
 unfold one1 at h;split at h
 case h_2=>simp at h
 rename_i c;split at h
 case h_2=>simp at h
 rename_i ls Af;split at h
 case isFalse=>simp at h
 rename_i hc;obtain⟨rfl,qW,eD,gC⟩:=hc;simp only[j4,Act.val.injEq]at h;obtain⟨rfl,rfl,rfl⟩:=h;refine⟨rfl,rfl,?_⟩
 obtain⟨⟨j,z⟩,gJ⟩:∃p,vs.toList=[p]:=by
  match hv:vs.toList,fM with
  |[p],_=>exact⟨p,rfl⟩
 rw[gJ]at fM;obtain⟨⟨hj,gq⟩,_⟩:=fM;simp only at hj gq;subst hj;obtain⟨ha,h1⟩:=xL Af gq;have gD:z.cells.toList.length=el.size:=by rw[<-ha.length,qW]
 have kK:z.cells.size=el.size:=by simpa using gD
 obtain⟨mb,bG,te,cg,cb⟩:=l9 hT ht bg;have bF:=kI hT cg cb;obtain⟨z0,mj,ga⟩:=uZ hT cg w cb;have XL:z0.cells.size=el.size:=DU ga;have eO:Instr.fill (λi=>some (i*te.size,te.size)) ((Array.range (1*te.size)).map (λi=>z0.cells[i%z0.cells.size]!)) vs.toList=some z.cells:=by have xM:=G9 ((Array.range (1*te.size)).map (λi=>z0.cells[i%z0.cells.size]!)) 0 z.cells (by simp;omega);rw[gJ];simp only[Instr.fill];rw[if_neg (by simp;omega)];congr 1;apply kq;rw[Nat.zero_mul,xM];simp only[List.take_zero,jt];rw[jc (by simp;omega),qe]
 have az:(Instr.buildSlice t 1 vs).run P w = .ok (.slice (some ⟨w.heap.size,0,none⟩) 1 1) (w.alloc (.cells z.cells ti.elem)):=by
  have dO:¬1*te.size>2^24:=by rw[<-bF];omega
  have h0:¬1*te.size=0:=by omega
  simp only[Instr.buildSlice,Sem.run_bind,run_underlying mb,Result.andThen_ok,gS hT cg,Sem.run_ite,if_neg dO];simp only[h0,qs,Sem.run_bind,mj,Sem.run_pure,Result.andThen_ok,eO,newRow,run_newObj,World.alloc_eq]
 obtain⟨cI,fy⟩:=DK hR (hn gC) (ls:=ls) (cur:=z.cells) (e:=ti.elem) ha h1;refine⟨_,_,_,az,cI,⟨by show (σ.setB n _).bx n≠_;rw[er];simp,rfl,λb' aD=>?_⟩,λ_=>rfl⟩;have aD:(σ.setB n (.live (.cell ls false))).bx n = .live b':=aD;rw[er]at aD;cases aD;exact⟨w.heap.size,1,dY _ _ _,rfl,jq _,by simp[maxLen]⟩
theorem vN{rd:Nat->BS}(aL:RdF np σ rd):∀{ls:List Leaf}{xs:List TV}{u:Ups}{zs:List Value},tvs rd ls=some (xs,u)->All2 (bn S w γ σ.bx) ls zs->
  FrzL np σ.bx u/\∀S' w',dn S w S' w'->Froz σ.bx γ S' w' u->All2 (λx z=>Rep S' w' x.t x.v [z]) xs zs
 |[],xs,u,zs,h,ha=>by
  simp[tvs]at h;obtain⟨rfl,rfl⟩:=h;cases zs with
  |nil=>exact⟨.nil,λ_ _ _ _=>trivial⟩
  |cons _ _=>exact ha.elim
 |l::ls,xs,u,zs,h,ha=>by
  cases zs with
  |nil=>exact ha.elim
  |cons z zs=>
   simp only[tvs]at h;split at h
   .rename_i DX u1 h1;obtain⟨f1,p1⟩:=vN aL h1 ha.2;split at h
    .rename_i t v;simp only[j4,j8]at h;obtain⟨rfl,rfl⟩:=h;exact⟨f1,λS' w' hk hf=>⟨Rep.keep hk _ _ _ ha.1,p1 S' w' hk hf⟩⟩
    .rename_i k;split at h
     .rename_i e t es f hk;simp only[j4,j8]at h;obtain⟨rfl,rfl⟩:=h;have bf:=aL.ok.live hk;refine⟨λx hx=>?_,λS' w' aA hf=>⟨?_,p1 S' w' aA (λx hx=>hf x (v6 _ hx))⟩⟩
      .rcases jd.1 hx with rfl|hx
       .exact⟨aL.par hk,e,t,es,f,bf,rfl,aL.ok.nm hk⟩
       .exact f1 x hx
      .have:=hf (k,_) (qx ..) e t es f bf;rw[ha.1.2.2 _ bf];exact this
     .simp at h
    .simp at h
   .simp at h
theorem O8(hR:Rel N np S0 w0 refs σ a w S γ){k:Nat}{ls:List Leaf}{f:Bool}(hk:σ.bx k = .live (.cell ls f))(hp:parK np k=false){xs:List TV}
  (hx:∀g cur e,γ k = .pointer (some ⟨g,0,none⟩)->w.heap[g]? = some (.cells cur e (0,0))->All2 (bn S w γ σ.bx) ls (cur.toList.take ls.length)->All2 (λx z=>Rep S w x.t x.v [z]) xs (cur.toList.take ls.length)) :
  ∃S' g,Rel N np S0 w0 refs (σ.setB k (.live (.cell (xs.map TV.leaf) true))) a w S' γ/\dn S w S' w/\γ k = .pointer (some ⟨g,0,none⟩)/\iz S' w (.p xs) (.pointer (some ⟨g,0,none⟩)):=by
 obtain⟨g,cur,e,hg,hh,cT,h1,OP,hS2⟩:=hR.box k _ hk;have fA:=hx g cur e hg hh cT;let S':aH:=λg' o=>S g' o\/(g'=g/\o<cur.size)
 have aA:dn S w S' w:=λg o h=>⟨.inl h,rfl⟩
 have hle:BxLe γ σ.bx γ (σ.setB k (.live (.cell (xs.map TV.leaf) true))).bx:=by
  intro k' bf;by_cases bL:k'=k
  .subst bL;rw[er];exact⟨by simp,rfl,λb hb=>by simp at hb;subst hb;exact⟨_,hk,trivial⟩⟩
  .rw[cj σ _ bL];exact⟨bf,rfl,λb hb=>⟨b,hb,.refl b⟩⟩
 have bA:∀k' b,(σ.setB k (.live (.cell (xs.map TV.leaf) true))).bx k' = .live b->∃b',σ.bx k' = .live b':=by
  intro k' b hb;by_cases bL:k'=k
  .subst bL;exact⟨_,hk⟩
  .rw[cj σ _ bL]at hb;exact⟨b,hb⟩
 refine⟨S',g,Rel.step (bx':=(σ.setB k (.live (.cell (xs.map TV.leaf) true))).bx) hR aA hle ?_ ?_ ?_ ?_ ?_ hR.below hR.grow hR.os hR.tape hR.output (λg _ _ h=>⟨rfl,λk' b' aD=>by obtain⟨b2,dH⟩:=bA k' b' aD;exact h k' b2 dH⟩),aA,hg,?_⟩
 .intro k' b hb;by_cases bL:k'=k
  .subst bL;rw[er]at hb;simp at hb;subst hb;have hl:=DE cT fA;exact⟨g,cur,e,hg,hh,by rw[kb,hl];exact oY (fA.mono (λx z hz=>Rep.keep aA _ _ _ hz)),by rw[kb,hl];exact h1,by simp,λ_ o ho=> .inr ⟨rfl,ho⟩⟩
  .rw[cj σ _ bL]at hb;refine dS.keep aA hle rfl (λg' an=>⟨rfl,λo=>⟨λhs=>?_,.inl⟩⟩) (hR.box k' b hb);rcases hs with hs|hs
   .exact hs
   .exact absurd (by rw[hg,hs.1];rfl) (hR.apart k' k b _ g' bL hb hk an)
 .intro k' b g' hb an;obtain⟨b',aD⟩:=bA k' b hb;exact hR.own k' b' g' aD an
 .intro k1 k2 b1 b2 g' aT h1 h2 an;obtain⟨rL,kJ⟩:=bA k1 b1 h1;obtain⟨rM,jY⟩:=bA k2 b2 h2;exact hR.apart k1 k2 rL rM g' aT kJ jY an
 .intro g' o hs;rcases hs with hs|hs
  .exact hR.new g' o hs
  .rcases hR.own k _ g hk (by rw[hg];rfl) with h|h
   .exact .inr (by omega)
   .rw[hp]at h;simp at h
 .intro g' o hs;rcases hs with hs|hs
  .exact hR.here g' o hs
  .rw[hs.1];exact(jf.1 hh).1
 .refine⟨g,0,cur.toList.take ls.length,rfl,fA.mono (λx z hz=>Rep.keep aA _ _ _ hz),λj v hv=>?_⟩
  have hv:cur.toList[j]? = some v:=by
   rw[q8]at hv;split at hv
   .exact hv
   .simp at hv
  have hj:j<cur.size:=by simpa using (ju.1 hv).1
  rw[jz];refine⟨.inr ⟨rfl,hj⟩,?_⟩;rw[cell_of_row w g j cur e (0,0) hh];simpa using hv
theorem O9{rd:Nat->BS}(aL:RdF np σ rd):∀{cs:List Cel}{l:List Cap}{u:Ups}{zs:List Value},sW rd cs=some (l,u)->Rel N np S0 w0 refs σ a w S γ->All2 (bz S w γ σ.bx) cs zs->
  ∃S',Rel N np S0 w0 refs (σ.upd u) a w S' γ/\dn S w S' w/\All2 (iz S' w) l zs/\(∀k e t xs f,σ.bx k = .live (.lst e t xs f)->∃f',(σ.upd u).bx k = .live (.lst e t xs f'))/\BxLe γ σ.bx γ (σ.upd u).bx/\∀k,σ.bx k = .free->(σ.upd u).bx k = .free
 |[],l,u,zs,h,hR,ha=>by
  simp[sW]at h;obtain⟨rfl,rfl⟩:=h;cases zs with
  |nil=>exact⟨S,hR,.refl S w,trivial,λk e t xs f h=>⟨f,h⟩,.refl _ _,λ_ h=>h⟩
  |cons _ _=>exact ha.elim
 |c::r,l,u,zs,h,hR,ha=>by
  cases zs with
  |nil=>exact ha.elim
  |cons z zs=>
   simp only[sW]at h;split at h
   .rename_i l1 u1 h1;obtain⟨S1,bj,cu,fa,mU,gF,Ag⟩:=O9 aL h1 hR ha.2;split at h
    .rename_i t v;split at h
     .rename_i eE;simp only[j4,j8]at h;obtain⟨rfl,rfl⟩:=h;exact⟨S1,bj,cu,⟨⟨eE,Rep.keep cu _ _ _ ha.1.1⟩,fa⟩,mU,gF,Ag⟩
     .simp at h
    .rename_i k;split at h
     .rename_i ls f hk;split at h
      .rename_i xs u2 h2;split at h
       .simp at h
       .rename_i jL;simp only[j4,j8]at h;obtain⟨rfl,rfl⟩:=h;have mV:=aL.par hk;have hk:=aL.ok.live hk;have jL:(u1++u2).any (λy=>y.1==k)=false:=qb.2 jL;rw[List.any_append,Bool.or_eq_false_iff]at jL;obtain⟨g,cur,e,hg,hh,cT,_⟩:=hR.box k _ hk;obtain⟨rP,u5⟩:=vN aL h2 cT;have Hk:FrzL np (σ.upd u1).bx u2:=by intro x hx;obtain⟨qX,e',t',cH,f',aD,lL⟩:=rP x hx;obtain⟨f2,h2⟩:=mU _ e' t' cH f' aD;exact⟨qX,e',t',cH,f2,h2,lL⟩
        obtain⟨S2,bY,cY,pq,ml⟩:=mT u2 (σ.upd u1) S1 bj Hk;have Ah:Froz σ.bx γ S2 w u2:=by intro x hx e' t' cH f' aD;obtain⟨f2,h2⟩:=mU _ e' t' cH f' aD;exact pq x hx e' t' cH f2 h2
        have fL:((σ.upd u1).upd u2).bx k = .live (.cell ls f):=by rw[jH u2 _ jL.2,jH u1 _ jL.1,hk]
        obtain⟨S3,g3,fi,Aj,Hl,cJ⟩:=O8 bY fL mV (xs:=xs) (λg' gV e' an th _=>by
         rw[hg]at an;simp at an;subst an;rw[hh]at th;simp at th;obtain⟨rfl,_⟩:=th;exact u5 S2 w (cu.trans cY) Ah)
        have hz:z=γ k:=by obtain⟨g4,h4,h5⟩:=ha.1.1.2.2 _ hk;rw[h5,h4]
        rw[iN,iN];refine⟨S3,fi,(cu.trans cY).trans Aj,⟨by rw[hz,Hl];exact cJ,fa.mono (λx z hx=>iz.keep (cY.trans Aj) hx)⟩,λk' e' t' cH f' aD=>?_,?_,λk' bf=>?_⟩
        .obtain⟨f2,h2⟩:=mU _ e' t' cH f' aD;obtain⟨f3,h3⟩:=ml.lst h2;have bL:k'≠k:=by rintro rfl;rw[fL]at h3;simp at h3
         exact⟨f3,by show (((σ.upd u1).upd u2).setB k _).bx k'=_;rw[cj _ _ bL];exact h3⟩
        .have fg:BxLe γ (σ.upd u1).bx γ ((σ.upd u1).upd u2).bx:=ml.le
         have r6:BxLe γ ((σ.upd u1).upd u2).bx γ ((((σ.upd u1).upd u2)).setB k (.live (.cell (xs.map TV.leaf) true))).bx:=by
          intro k' bf;by_cases bL:k'=k
          .subst bL;rw[er];exact⟨by simp,rfl,λb hb=>by simp at hb;subst hb;exact⟨_,fL,trivial⟩⟩
          .rw[cj _ _ bL];exact⟨bf,rfl,λb hb=>⟨b,hb,.refl b⟩⟩
         have tr:∀{b1 b2 b3:Nat->BS},BxLe γ b1 γ b2->BxLe γ b2 γ b3->BxLe γ b1 γ b3:=by intro b1 b2 b3 vO XM k' bf;obtain⟨q1,q2,q3⟩:=vO k' bf;obtain⟨r1,r2,r3⟩:=XM k' q1;refine⟨r1,rfl,λb hb=>?_⟩;obtain⟨b',aD,dI⟩:=r3 b hb;obtain⟨Ak,pr,pt⟩:=q3 b' aD;refine⟨Ak,pr,?_⟩;exact pt.trans dI
         exact tr (tr gF fg) r6
        .have h3:=ml.free (Ag k' bf);have bL:k'≠k:=by rintro rfl;rw[hk]at bf;simp at bf
         show (((σ.upd u1).upd u2).setB k _).bx k'=_;rw[cj _ _ bL];exact h3
      .simp at h
     .simp at h
    .simp at h
   .simp at h
theorem Pa:∀{cs:List Cel}{ks:List Nat}{zs:List Value},yQ cs=some ks->All2 (bz S w γ σ.bx) cs zs->All2 (zF γ σ.bx) ks zs
 |[],ks,zs,h,ha=>by
  simp[yQ]at h;subst h;cases zs with
  |nil=>trivial
  |cons _ _=>exact ha.elim
 |c::r,ks,zs,h,ha=>by
  cases zs with
  |nil=>exact ha.elim
  |cons z zs=>
   unfold yQ at h;split at h
   .rename_i h0;simp at h0
   .rename_i k r' h0;simp only[zt]at h0;obtain⟨rfl,rfl⟩:=h0;split at h
    .rename_i GJ hk;simp only[j4]at h;subst h;obtain⟨⟨h1,h2,h3⟩,_⟩:=ha.1;exact⟨⟨h1,h2,h3⟩,Pa hk ha.2⟩
    .simp at h
   .simp at h
theorem Pb:∀{ks:List Nat}{zs:List Value},All2 (zF γ σ.bx) ks zs->All2 (bz S w γ σ.bx) (ks.map λk=> .one (.bp k 0)) zs
 |[],[],_=>trivial
 |k::ks,z::zs,h=>⟨⟨h.1,λ_=>h.1.2.1⟩,Pb h.2⟩
 |[],_::_,h=>h.elim
 |_::_,[],h=>h.elim
end
section
variable(S:aH)(w:World)
def Al(ls:List TV)(u:Value):Prop:=
 ∃g cur e,u = .pointer (some ⟨g,0,none⟩)/\w.heap[g]? = some (.cells cur e (0,0))/\All2 (λx z=>Rep S w x.t x.v [z]) ls (cur.toList.take ls.length)/\∀o,¬S g o
def vP(e:Nat)(x:TV)(u:Value):Prop:=
 ∃(a:Ty)(xs:List a.den),x=⟨.list a,xs⟩/\oU S w e a xs u/\∀g,blk u=some g->∀o,¬S g o
def mm:Arg->Value->Prop
 |.v x,u=>VRep S w x u
 |.ref ls,u=>Al S w ls u
 |.rl e x,u=>vP S w e x u
 |.ip ls,u=>∃g o cs,u = .pointer (some ⟨g,o,none⟩)/\All2 (λx z=>Rep S w x.t x.v [z]) ls cs/\Lies S w g o cs
 |.clo f caps,u=>∃cv:Array Value,u = .func (.func f) #[] cv/\All2 (iz S w) caps cv.toList
def kN:Arg->Value->Option Nat
 |.ref _,u=>blk u
 |.rl _ _,u=>blk u
 |_,_=>none
def dZ:List Arg->List Value->List Nat
 |a::as,u::us=>(kN a u).toList++dZ as us
 |_,_=>[]
def DY:RL->Value->Prop
 |.d x,z=>One z/\Rep S w x.t x.v [z]
 |.own e x,z=>vP S w e x z
def ot:RV->Value->Prop
 |.v x,u=>VRep S w x u
 |.own e x,u=>vP S w e x u
 |.box ls,u=>Al S w ls u
 |.hd _,u=>One u
 |.clo f caps,u=>∃cv:Array Value,u = .func (.func f) #[] cv/\All2 (iz S w) caps cv.toList
 |.so ls,u=>∃cs:Array Value,u = .agg cs/\All2 (DY S w) ls cs.toList
 |.raw _ _,_=>True
 |.vn x ns,u=>VRep S w x u/\∀cs,u = .agg cs->∀i∈ns,∀z,cs.toList[i]? = some z->z = .slice none 0 0
def lO:RV->Value->Option Nat
 |.v _,_=>none
 |.hd _,_=>none
 |.vn _ _,_=>none
 |.clo _ _,_=>none
 |.so _,_=>none
 |.raw _ _,_=>none
 |_,u=>blk u
def mX:List RL->List Value->List Nat
 |.own _ _::ls,z::zs=>(blk z).toList++mX ls zs
 |.d _::ls,_::zs=>mX ls zs
 |_,_=>[]
def jM:RV->Value->List Nat
 |.so ls,u=>mX ls u.cells.toList
 |r,u=>(lO r u).toList
def fj:List RV->List Value->List Nat
 |r::rs,u::us=>jM r u++fj rs us
 |_,_=>[]
def kO:List Arg->List Value->List Out->Prop
 |[],[],[]=>True
 |.ref _::as,u::us,.ref ys::os=>Al S w ys u/\kO as us os
 |.rl e x::as,u::us,.rl y::os=>vP S w e y u/\y.t=x.t/\kO as us os
 |.v _::as,_::us,os=>kO as us os
 |.ip _::as,_::us,os=>kO as us os
 |.clo _ _::as,_::us,os=>kO as us os
 |_,_,_=>False
end
def kP(vs:List Value):Value:=match vs with
 |[v]=>v
 |vs=> .tuple vs.toArray
def DZ:List Arg->List Value->Option Value
 |.ref _::_,u::_=>some u
 |.rl _ _::_,u::_=>some u
 |_::as,_::us=>DZ as us
 |_,_=>none
def emp:St:=⟨λ_=> .one (.one .dead),λ_=> .free⟩
def Hm(h0:Nat)(S:aH)(w:World)(ns:List Nat)(s:Snap)(v:Value):Prop:=
 ∃γ zs,v=kP zs/\All2 (bz S w γ (emp.upd (rawU ns s)).bx) (rawC ns s) zs/\(∀k b,(emp.upd (rawU ns s)).bx k = .live b->dS S w γ (emp.upd (rawU ns s)).bx k b)/\
  (∀k b g,(emp.upd (rawU ns s)).bx k = .live b->blk (γ k)=some g->h0<=g)/\
  ∀k k' b b' g,k≠k'->(emp.upd (rawU ns s)).bx k = .live b->(emp.upd (rawU ns s)).bx k' = .live b'->blk (γ k)=some g->blk (γ k')≠some g
structure D0(w:World)(S:aH)(args:List Arg)(vals:List Value)(ret:Ret)(v:Value)(w':World)(S':aH)(vs:List Value):Prop where
 val:v=kP vs
 rep:All2 (ot S' w') ret.vals vs
 fresh:∀g∈fj ret.vals vs,w.heap.size<=g
 apart:(fj ret.vals vs).Nodup
 outs:kO S' w' args vals ret.outs
 stays:dn S w S' w'
 new:∀g o,S' g o->S g o\/w.heap.size<=g
 here:∀g o,S' g o->g<w'.heap.size
 below:∀g,g<w.heap.size->g∉dZ args vals->w'.heap[g]? = w.heap[g]?
 grow:w.heap.size<=w'.heap.size
 os:w'.os=w.os
 tape:w'.tape=w.tape
 output:w'.output=w.output
 raw:∀ns s,ret.vals=[.raw ns s]->Hm w.heap.size S' w' ns s v
 head:∀m,ret.vals=[.hd m]->∃ad len cap,DZ args vals=some (.slice ad len cap)/\m<=len/\vs=[.slice ad m cap]
def D1(P:Program)(f:Nat)(args:List Arg)(K:Ret->Prop):Prop:=
 ∀(w:World)(S:aH)(vals:List Value),All2 (mm S w) args vals->(dZ args vals).Nodup->(∀g o,S g o->g<w.heap.size)->
  Calls P f vals.toArray w λe w'=>∃ret,K ret/\∃v S' vs,e = .returned v/\D0 w S args vals ret v w' S' vs
def Fun(P:Program)(f:Nat):Prop:=
 ∃ fn, P.funcs[f]? = some fn ∧ fn.body.isNone = false ∧ (fn.name == "runtime.NumGoroutine") = false
def FnOK(P:Program)(f:Nat)(c:List Arg->(R:Type)->(Ret->Option R)->Option R):Prop:=
 ∀(args:List Arg)(R:Type)(k:Ret->Option R)(r:R),c args R k=some r->Fun P f/\D1 P f args λret=>k ret=some r
def kA(P:Program)(C:Nat->List Arg->(R:Type)->(Ret->Option R)->Option R):Prop:=∀f,FnOK P f (C f)
section
variable{N:NT}{np:Nat}{S0:aH}{w0:World}{refs:Refs}{σ:St}{a:Go.Act}{w:World}{S:aH}{γ:Nat->Value}
theorem r7{S':aH}{w':World}:∀(t:Ty)(v:t.den)(cs:List Value),t.flat=true->Rep S w t v cs->Rep S' w' t v cs
 |.int _,_,_,_,h=>h
 |.bool,_,_,_,h=>h
 |.str,_,_,_,h=>h
 |.unit,_,_,_,h=>h
 |.wrap a,v,cs,hf,h=>r7 a v cs hf h
 |.pair a b,_,_,hf,⟨c1,c2,e,h1,h2⟩=>by
  simp only[Ty.flat,ja]at hf;exact⟨c1,c2,e,r7 a _ _ hf.1 h1,r7 b _ _ hf.2 h2⟩
 |.list _,_,_,hf,_=>by simp[Ty.flat]at hf
 |.arr _ a,_,_,hf,⟨hn,css,ha,e⟩=>⟨hn,css,ha.mono (λx c hx=>r7 a x c hf hx),e⟩
def gi(bx:Nat->BS)(γ:Nat->Value):List Arg->List Value->List Bk->Prop
 |[],[],[]=>True
 |.ref ls::as,u::us,.ref k::fs=>u=γ k/\(∃fh,bx k = .live (.cell fh false))/\gi bx γ as us fs
 |.rl e x::as,u::us,.rl k e' t::fs=>e=e'/\u=γ k/\(∃xs,bx k = .live (.lst e t xs false)/\x=⟨.list t,xs⟩)/\gi bx γ as us fs
 |.v _::as,_::us,fs=>gi bx γ as us fs
 |.ip _::as,_::us,fs=>gi bx γ as us fs
 |.clo _ _::as,_::us,fs=>gi bx γ as us fs
 |_,_,_=>False
theorem XN{rd rdf:Nat->BS}(hR:Rel N np S0 w0 refs σ a w S γ)(aL:RdR σ rd)(bu:RdF np σ rdf){t:Option TyI}{rl:Bool}{c:Cel}{arg:Arg}{u:Ups}{f:Option Bk}{z:Value}
  (h:xw rd rdf t rl c=some (arg,u,f))(hc:bz S w γ σ.bx c z) :
  FrzL np σ.bx u/\gi σ.bx γ [arg] [z] f.toList/\∀S',dn S w S' w->Froz σ.bx γ S' w u->(∀k b,f.toList.any (λy=>y.name==k)=true->σ.bx k = .live b->∀g,blk (γ k)=some g->∀o,¬S' g o)->mm S' w arg z:=by
 unfold xw at h;split at h
 .rename_i k;split at h
  .rename_i ls hk;split at h
   .rename_i xs u1 h1;simp only[j4,j8]at h;obtain⟨rfl,rfl,rfl⟩:=h;have hk:=aL.live hk;obtain⟨g,hg,hz⟩:=hc.1.2.2 _ hk;obtain⟨g',cur,e,an,hh,cT,_,_,hS⟩:=hR.box k _ hk;rw[hg]at an;simp at an;subst an;obtain⟨hf,hp⟩:=vN bu h1 cT;refine⟨hf,trivial,λS' aA dN _=>⟨g,0,cur.toList.take ls.length,hz,hp S' w aA dN,λj v hv=>?_⟩⟩
    have hv:cur.toList[j]? = some v:=by
     rw[q8]at hv;split at hv
     .exact hv
     .simp at hv
    have hj:j<cur.size:=by simpa using (ju.1 hv).1
    rw[jz];refine⟨(aA _ _ (hS rfl j hj)).1,?_⟩;rw[cell_of_row w g j cur e (0,0) hh];simpa using hv
   .simp at h
  .rename_i ls hk;split at h
   .rename_i xs u1 h1;simp only[j4,j8]at h;obtain⟨rfl,rfl,rfl⟩:=h;have hk:=aL.live hk;obtain⟨g,hg,hz⟩:=hc.1.2.2 _ hk;obtain⟨g',cur,e,an,hh,cT,_⟩:=hR.box k _ hk;rw[hg]at an;simp at an;subst an;obtain⟨hf,hp⟩:=vN bu h1 cT;refine⟨hf,⟨hz.trans hg.symm,⟨ls,hk⟩,trivial⟩,λS' aA dN hn=>⟨g,cur,e,hz,hh,by rw[DE cT (hp S' w aA dN)];exact hp S' w aA dN,?_⟩⟩;exact hn k _ (by simp[Bk.name]) hk g (by rw[hg];rfl)
   .simp at h
  .simp at h
 .simp only[j4,j8]at h;obtain⟨rfl,rfl,rfl⟩:=h;refine⟨.nil,trivial,λS' aA _ _=>?_⟩;obtain⟨g,o,cs,hz,ha,hl⟩:=hc.1;exact⟨g,o,cs,hz,ha.mono (λx z hx=>Rep.keep aA _ _ _ hx),hl.keep aA⟩
 .simp only[j4,j8]at h;obtain⟨rfl,rfl,rfl⟩:=h;refine⟨.nil,trivial,λS' aA _ _=>?_⟩;obtain⟨cv,hz,ha⟩:=hc.1;exact⟨cv,hz,ha.mono (λx z hx=>iz.keep aA hx)⟩
 .rename_i k;split at h
  .split at h
   .rename_i e t xs hk;simp only[j4,j8]at h;obtain⟨rfl,rfl,rfl⟩:=h;have hk:=aL.live hk;have hz:=hc.1.2.2 _ hk;refine⟨.nil,⟨rfl,hz,⟨xs,hk,rfl⟩,trivial⟩,λS' aA _ hn=>?_⟩;have ew:=(hR.box k _ hk).1;exact⟨t,xs,rfl,by rw[hz];exact ew.keep aA (λ_ _=>rfl),λg hg=>hn k _ (by simp[Bk.name]) hk g (by rw[<-hz];exact hg)⟩
   .simp at h
  .split at h
   .rename_i e t xs fz hk;simp only[j4,j8]at h;obtain⟨rfl,rfl,rfl⟩:=h;have mV:=bu.par hk;have bT:=bu.ok.nm hk;have hk:=bu.ok.live hk;have hz:=hc.1.2.2 _ hk;refine⟨λx hx=>?_,trivial,λS' aA dN _=>?_⟩
    .have:=kf.1 hx;subst this;exact⟨mV,e,t,xs,fz,hk,rfl,bT⟩
    .have h1:One z:=hc.2 (by simp);have:=dN (k,_) (kf.2 rfl) e t xs fz hk;rw[<-hz]at this;exact⟨by rw[xJ h1];exact this,by simp[gQ,Ty.agg],λ_=>h1⟩
   .simp at h
 .split at h
  .split at h
   .rename_i ty bg;split at h
    .rename_i x u1 hx;simp only[j4,j8]at h;obtain⟨rfl,rfl,rfl⟩:=h;obtain⟨hf,hp,_⟩:=zP bu hR.box hx hc;exact⟨hf,trivial,λS' aA dN _=>hp S' w aA dN⟩
    .simp at h
   .simp at h
  .simp at h
theorem gi.app{bx:Nat->BS}{arg:Arg}{z:Value}{f:List Bk}:gi bx γ [arg] [z] f->∀{as:List Arg}{us:List Value}{fs:List Bk},gi bx γ as us fs->gi bx γ (arg::as) (z::us) (f++fs):=by
 intro h as us fs h';cases arg with
 |v x=>cases f with|nil=>exact h'|cons _ _=>exact h.elim
 |ip x=>cases f with|nil=>exact h'|cons _ _=>exact h.elim
 |clo x y=>cases f with|nil=>exact h'|cons _ _=>exact h.elim
 |ref ls=>
  match f,h with
  |[.ref k],⟨h1,h2,_⟩=>exact⟨h1,h2,h'⟩
  |.ref k::_::_,⟨_,_,h3⟩=>exact h3.elim
 |rl e x=>
  match f,h with
  |[.rl k e' t],⟨h0,h1,h2,_⟩=>exact⟨h0,h1,h2,h'⟩
  |.rl k e' t::_::_,⟨_,_,_,h3⟩=>exact h3.elim
theorem Pc{rd rdf:Nat->BS}(hR:Rel N np S0 w0 refs σ a w S γ)(aL:RdR σ rd)(bu:RdF np σ rdf){T:Nat->Option TyI}:∀{cs:List Cel}{ts:List Nat}{ms:List Bool}{as:List Arg}{u:Ups}{fs:List Bk}{zs:List Value},
  qM rd rdf T ts ms cs=some (as,u,fs)->All2 (bz S w γ σ.bx) cs zs->
  FrzL np σ.bx u/\gi σ.bx γ as zs fs/\∀S',dn S w S' w->Froz σ.bx γ S' w u->(∀k b,fs.any (λy=>y.name==k)=true->σ.bx k = .live b->∀g,blk (γ k)=some g->∀o,¬S' g o)->All2 (mm S' w) as zs
 |[],ts,ms,as,u,fs,zs,h,ha=>by
  simp[qM]at h;obtain⟨rfl,rfl,rfl⟩:=h;cases zs with
  |nil=>exact⟨.nil,trivial,λ_ _ _ _=>trivial⟩
  |cons _ _=>exact ha.elim
 |c::cs,ts,ms,as,u,fs,zs,h,ha=>by
  cases zs with
  |nil=>exact ha.elim
  |cons z zs=>
   simp only[qM]at h;split at h
   .rename_i a1 u1 f1 h1;split at h
    .rename_i GM Pd XO h2;simp only[j4,j8]at h;obtain⟨rfl,rfl,rfl⟩:=h;obtain⟨p1,q1,r1⟩:=XN hR aL bu h1 ha.1;obtain⟨p2,q2,r2⟩:=Pc hR aL bu h2 ha.2;refine⟨FrzL.app.2 ⟨p1,p2⟩,q1.app q2,λS' aA dN hn=>?_⟩;obtain⟨z1,z2⟩:=Froz.app.1 dN;exact⟨r1 S' aA z1 (λk b hk=>hn k b (by rw[List.any_append,hk];rfl)),r2 S' aA z2 (λk b hk=>hn k b (by rw[List.any_append,hk];simp))⟩
    .simp at h
   .simp at h
theorem Pe:∀{cs:List Cap}{zs:List Value},All2 (iz S w) cs zs->All2 (mm S w) (cs.map qN) zs
 |[],[],_=>trivial
 |c::cs,z::zs,h=>by
  refine⟨?_,Pe h.2⟩;cases c with
  |v x=>obtain⟨hl,hr⟩:=h.1;have h1:One z:=Rep.one _ _ _ hr z (by simp);refine⟨by rw[xJ h1];exact hr,λhm=>?_,λ_=>h1⟩;exfalso;obtain⟨t,v⟩:=x;cases t<;>simp_all[Ty.leafy,gQ,Ty.agg]
  |p ls=>exact h.1
 |[],_::_,h=>h.elim
 |_::_,[],h=>h.elim
theorem Pg:∀(cs:List Cap)(zs:List Value),dZ (cs.map qN) zs=[]
 |[],_=>by cases ‹List Value› <;> rfl
 |c::cs,[]=>rfl
 |c::cs,z::zs=>by cases c<;>simp[dZ,kN,qN,Pg cs zs]
theorem Pj:∀(as:List Arg)(us:List Value)(bs:List Arg)(vs:List Value),as.length=us.length->dZ (as++bs) (us++vs)=dZ as us++dZ bs vs
 |[],[],bs,vs,_=>rfl
 |a::as,u::us,bs,vs,h=>by simp[dZ,Pj as us bs vs (by simpa using h)]
 |[],_::_,_,_,h=>by simp at h
 |_::_,[],_,_,h=>by simp at h
theorem vQ{bx:Nat->BS}:∀{as:List Arg}{us:List Value}{fs:List Bk},gi bx γ as us fs->dZ as us=fs.filterMap λf=>blk (γ f.name)
 |[],[],[],_=>rfl
 |.ref ls::as,u::us,.ref k::fs,⟨h1,_,h3⟩=>by
  simp only[dZ,kN,vf,Bk.name,h1,vQ h3];cases blk (γ k)<;>rfl
 |.rl e x::as,u::us,.rl k e' t::fs,⟨_,h1,_,h3⟩=>by
  simp only[dZ,kN,vf,Bk.name,h1,vQ h3];cases blk (γ k)<;>rfl
 |.v _::as,_::us,fs,h=>by simp[dZ,kN,vQ (as:=as) (us:=us) (fs:=fs) h]
 |.ip _::as,_::us,fs,h=>by simp[dZ,kN,vQ (as:=as) (us:=us) (fs:=fs) h]
 |.clo _ _::as,_::us,fs,h=>by simp[dZ,kN,vQ (as:=as) (us:=us) (fs:=fs) h]
theorem vR{bx:Nat->BS}:∀{as:List Arg}{us:List Value}{fs:List Bk},gi bx γ as us fs->∀f∈fs,∃b,bx f.name = .live b
 |[],[],[],_,f,hf=>by simp at hf
 |.ref ls::as,u::us,.ref k::fs,⟨_,⟨fh,h2⟩,h3⟩,f,hf=>by
  rcases jd.1 hf with rfl|hf
  .exact⟨_,h2⟩
  .exact vR h3 f hf
 |.rl e x::as,u::us,.rl k e' t::fs,⟨_,_,⟨xs,h2,_⟩,h3⟩,f,hf=>by
  rcases jd.1 hf with rfl|hf
  .exact⟨_,h2⟩
  .exact vR h3 f hf
 |.v _::as,_::us,fs,h,f,hf=>vR (as:=as) (us:=us) (fs:=fs) h f hf
 |.ip _::as,_::us,fs,h,f,hf=>vR (as:=as) (us:=us) (fs:=fs) h f hf
 |.clo _ _::as,_::us,fs,h,f,hf=>vR (as:=as) (us:=us) (fs:=fs) h f hf
theorem xP:∀{l:List Nat},mP l=true->l.Nodup
 |[],_=>zh
 |x::l,h=>by
  simp only[mP,ja,kv,kz,ko]at h;exact qk.2 ⟨h.1,xP h.2⟩
theorem Hn(hR:Rel N np S0 w0 refs σ a w S γ):∀{l:List Nat},l.Nodup->(∀k∈l,∃b,σ.bx k = .live b)->(l.filterMap λk=>blk (γ k)).Nodup
 |[],_,_=>by simp
 |k::l,h,hl=>by
  obtain⟨h1,h2⟩:=qk.1 h;have ih:=Hn hR h2 (λk hk=>hl k (by simp[hk]));rw[vf];cases hb:blk (γ k) with
  |none=>exact ih
  |some g=>refine qk.2 ⟨λhm=>?_,ih⟩;obtain⟨k',bf,an⟩:=zm.1 hm;obtain⟨b,cO⟩:=hl k (by simp);obtain⟨b',dH⟩:=hl k' (by simp[bf]);exact hR.apart k k' b b' g (by rintro rfl;exact h1 bf) cO dH hb an
end
section
variable{N:NT}{np:Nat}{S0:aH}{w0:World}{refs:Refs}{σ:St}{a:Go.Act}{w:World}{S:aH}{γ:Nat->Value}
theorem xQ:∀(u:Ups)(σ:St){k:Nat}{b:BS},(u.map (·.1)).Nodup->(k,b)∈u->(σ.upd u).bx k=b
 |[],_,_,_,_,h=>by simp at h
 |e::u,σ,k,b,hn,h=>by
  simp only[ka,qk]at hn;show ((σ.setB e.1 e.2).upd u).bx k=_;rcases jd.1 h with h|h
  .subst h;rw[jH u,er];simp only[qc,qv];intro x hx he;exact hn.1 (jx.2 ⟨x,hx,he⟩)
  .exact xQ u _ hn.2 h
theorem XP{e:Nat}{m n n':Nat}{v:Value}{w':World}{xs ys:List Value}(h:w.ownsRow 0 e m v n xs)(h':w'.ownsRow 0 e m v n' ys):n=n':=by
 rcases h.2 with⟨e1,e2⟩|⟨g,cap,cur,e1,_⟩<;>rcases h'.2 with⟨f1,f2⟩|⟨g',fP,gV,f1,_⟩
 .rw[e2,f2]
 .rw[e1]at f1;simp at f1
 .rw[e1]at f1;simp at f1
 .rw[e1]at f1;simp at f1;exact f1.2.1
theorem Ho{bx:Nat->BS}{S':aH}{w':World}{ys:List TV}{k:Nat}{v:Value}(hg:γ k=v)(h:Al S' w' ys v):dS S' w' γ bx k (.cell (ys.map TV.leaf) false):=by
 obtain⟨g,cur,e,hu,hh,al,hS⟩:=h;exact⟨g,cur,e,hg.trans hu,hh,by rw[kb];exact oY al,λu ea=>by rw[kb]at ea;obtain⟨x,_,hx⟩:=al.mem_right u ea;exact Rep.one _ _ _ hx u (by simp),λ_=>hS,by simp⟩
theorem Am{bx:Nat->BS}{S':aH}{w':World}{e:Nat}{t:Ty}{ys:List t.den}{k:Nat}{v:Value}(hg:γ k=v)(h:vP S' w' e ⟨.list t,ys⟩ v):dS S' w' γ bx k (.lst e t ys false):=by
 obtain⟨t',xs,hx,bQ,hS⟩:=h;cases hx;exact⟨by rw[hg];exact bQ,λg an=>⟨λ_=>hS g (by rw[<-hg];exact an),by simp⟩⟩
theorem tC{S':aH}{w':World}(hR:Rel N np S0 w0 refs σ a w S γ):∀{as:List Arg}{zs:List Value}{fs:List Bk}{os:List Out}{uo:Ups},gi σ.bx γ as zs fs->rC fs os=some uo->kO S' w' as zs os->
  uo.map (·.1)=fs.map Bk.name/\∀x∈uo,∃b b',σ.bx x.1 = .live b/\x.2 = .live b'/\ij b b'/\∀bx',dS S' w' γ bx' x.1 b'
 |[],[],[],[],uo,_,h,_=>by simp[rC]at h;subst h;simp
 |.ref ls::as,u::us,.ref k::fs,.ref ys::os,uo,⟨h1,⟨fh,h2⟩,h3⟩,h,⟨q1,q2⟩=>by
  simp only[rC,Dy]at h;split at h
  .rename_i u' ea;simp only[j4]at h;subst h;obtain⟨i1,i2⟩:=tC hR h3 ea q2;refine⟨by simp[i1,Bk.name],λx hx=>?_⟩;rcases jd.1 hx with rfl|hx
   .exact⟨_,_,h2,rfl,trivial,λbx'=>Ho h1.symm q1⟩
   .exact i2 x hx
  .simp at h
 |.rl e x::as,u::us,.rl k e' t::fs,.rl y::os,uo,⟨h0,h1,⟨xs,h2,jY⟩,h3⟩,h,⟨q1,q1',q2⟩=>by
  simp only[rC,Dy]at h;split at h
  .rename_i y' xH;split at xH
   .rename_i ys gg;simp only[j4]at xH;subst xH;split at h
    .rename_i u' ea;simp only[j4]at h;subst h;obtain⟨i1,i2⟩:=tC hR h3 ea q2;refine⟨by simp[i1,Bk.name],λx hx=>?_⟩;rcases jd.1 hx with rfl|hx
     .have:=lK gg;subst this;subst h0;refine⟨_,_,h2,rfl,⟨rfl,rfl,λhm=>?_⟩,λbx'=>Am h1.symm q1⟩;obtain⟨css,aJ,_⟩:=gR hm (hR.box k _ h2);obtain⟨jJ,bQ,_⟩:=gR (bx:=σ.bx) hm (Am h1.symm q1);exact XP aJ bQ
     .exact i2 x hx
    .simp at h
   .simp at xH
  .simp at h
 |.v _::as,_::us,fs,os,uo,h,h',q=>tC (as:=as) (zs:=us) (fs:=fs) hR h h' q
 |.ip _::as,_::us,fs,os,uo,h,h',q=>tC (as:=as) (zs:=us) (fs:=fs) hR h h' q
 |.clo _ _::as,_::us,fs,os,uo,h,h',q=>tC (as:=as) (zs:=us) (fs:=fs) hR h h' q
theorem Hp(hR:Rel N np S0 w0 refs σ a w S γ){S':aH}{w':World}(aA:dn S w S' w')(dM:∀g o,S' g o->S g o\/w.heap.size<=g)(eP:∀g o,S' g o->g<w'.heap.size)
  {as:List Arg}{zs:List Value}{fs:List Bk}{os:List Out}{uo:Ups}(cF:gi σ.bx γ as zs fs)(dy:(fs.map Bk.name).Nodup)(ho:rC fs os=some uo)(hq:kO S' w' as zs os)
  (eQ:∀g,g<w.heap.size->g∉dZ as zs->w'.heap[g]? = w.heap[g]?)(ez:w.heap.size<=w'.heap.size)(nC:w'.os=w.os)(kQ:w'.tape=w.tape)(bW:w'.output=w.output) :
  Rel N np S0 w0 refs (σ.upd uo) a w' S' γ:=by
 obtain⟨kR,vS⟩:=tC hR cF ho hq;have qS:(uo.map (·.1)).Nodup:=by rw[kR];exact dy
 have dU:σ.upd uo={ σ with bx:=(σ.upd uo).bx }:=by have:=tn uo σ;cases h:σ.upd uo;rw[h]at this;simp only at this;rw[this]
 have bU:∀k,(uo.any (λy=>y.1==k)=false/\(σ.upd uo).bx k=σ.bx k)\/(∃b b',σ.bx k = .live b/\(σ.upd uo).bx k = .live b'/\ij b b'/\∀bx',dS S' w' γ bx' k b'):=by
  intro k;by_cases hk:uo.any (λy=>y.1==k)=true
  .right;obtain⟨x,hx,he⟩:=qq.1 hk;have he:x.1=k:=by simpa using he
   subst he;obtain⟨b,b',h1,h2,h3,h4⟩:=vS x hx;exact⟨b,b',h1,by rw[xQ uo σ qS (b:=x.2) hx,h2],h3,h4⟩
  .left;have bf:uo.any (λy=>y.1==k)=false:=qb.2 hk;exact⟨bf,jH uo σ bf⟩
 have eR:∀k b,(σ.upd uo).bx k = .live b->∃b',σ.bx k = .live b':=by
  intro k b hb;rcases bU k with⟨_,h⟩|⟨b1,b2,h1,_⟩
  .exact⟨b,h▸hb⟩
  .exact⟨b1,h1⟩
 have hle:BxLe γ σ.bx γ (σ.upd uo).bx:=by
  intro k hk;rcases bU k with⟨_,h⟩|⟨b1,b2,h1,h2,h3,_⟩
  .rw[h];exact⟨hk,rfl,λb hb=>⟨b,hb,.refl b⟩⟩
  .rw[h2];exact⟨by simp,rfl,λb hb=>by simp at hb;subst hb;exact⟨b1,h1,h3⟩⟩
 have hrefs:∀g,g∈dZ as zs->∃f∈fs,blk (γ f.name)=some g/\∃b,σ.bx f.name = .live b:=by intro g hg;rw[vQ cF]at hg;obtain⟨f,hf,vT⟩:=zm.1 hg;exact⟨f,hf,vT,vR cF f hf⟩
 rw[dU]
 refine Rel.step hR aA hle ?_ ?_ ?_ ?_ eP ?_ (kx hR.grow ez) (nC.trans hR.os) (kQ.trans hR.tape) (bW.trans hR.output) (λg hg _ h=>⟨eQ g hg (λhm=>by
  obtain⟨f,hf,vT,b',aD⟩:=hrefs g hm;exact h f.name b' aD vT),λk b hb=>by
  obtain⟨b',aD⟩:=eR k b hb;exact h k b' aD⟩)
 .intro k b hb;rcases bU k with⟨hk,h⟩|⟨b1,b2,h1,h2,h3,h4⟩
  .rw[h]at hb;refine dS.keep aA hle rfl (λg hg=>?_) (hR.box k b hb);have vD:=iO (hR.box k b hb) hg;refine⟨eQ g vD (λhm=>?_),λo=>⟨λhs=>(dM g o hs).resolve_right (by omega),λhs=>(aA g o hs).1⟩⟩;obtain⟨f,hf,vT,b',aD⟩:=hrefs g hm
   have aT:k≠f.name:=by
    rintro rfl
    have:f.name∈uo.map (·.1):=by rw[kR];exact List.mem_map_of_mem hf
    obtain⟨x,hx,he⟩:=jx.1 this;have:=(qc.1 hk) x hx;simp[he]at this
   exact hR.apart k f.name b b' g aT hb aD hg vT
  .rw[h2]at hb;simp at hb;subst hb;exact h4 _
 .intro k b g hb hg;obtain⟨b',aD⟩:=eR k b hb;exact hR.own k b' g aD hg
 .intro k k' b1 b2 g aT h1 h2 hg;obtain⟨rL,kJ⟩:=eR k b1 h1;obtain⟨rM,jY⟩:=eR k' b2 h2;exact hR.apart k k' rL rM g aT kJ jY hg
 .intro g o hs;rcases dM g o hs with h|h
  .exact hR.new g o h
  .exact .inr (kx hR.grow h)
 .intro g hg hr;rw[eQ g (kr hg hR.grow) (λhm=>?_)]
  .exact hR.below g hg hr
  .obtain⟨f,hf,vT,b',aD⟩:=hrefs g hm;rcases hR.own f.name b' g aD vT with h|h
   .omega
   .exact hr h.1
theorem Hq(hR:Rel N np S0 w0 refs σ a w S γ){d:Nat}(hd:σ.bx d = .free){v':Value}{b:Bx}
  (hv:∀g,blk v'=some g->(w0.heap.size<=g/\refs.kw g=none)/\∀k b,σ.bx k = .live b->blk (γ k)≠some g)(hb:dS S w (gset γ d v') (σ.setB d (.live b)).bx d b) :
  Rel N np S0 w0 refs (σ.setB d (.live b)) a w S (gset γ d v')/\BxLe γ σ.bx (gset γ d v') (σ.setB d (.live b)).bx:=by
 have hle:BxLe γ σ.bx (gset γ d v') (σ.setB d (.live b)).bx:=by
  intro k hk;have aT:k≠d:=by rintro rfl;exact hk hd
  rw[cj σ _ aT,eI γ v' aT];exact⟨hk,rfl,λb hb=>⟨b,hb,.refl b⟩⟩
 refine⟨Rel.step (bx':=(σ.setB d (.live b)).bx) hR (.refl S w) hle ?_ ?_ ?_ hR.new hR.here hR.below hR.grow hR.os hR.tape hR.output (λg _ om h=>⟨rfl,λk b' aD cF=>by
  by_cases hk:k=d
  .subst hk;rw[dY]at cF;exact om (hv g cF).1.2
  .rw[cj σ _ hk]at aD;rw[eI γ v' hk]at cF;exact h k b' aD cF⟩),hle⟩
 .intro k b' aD;by_cases hk:k=d
  .subst hk;rw[er]at aD;simp at aD;subst aD;exact hb
  .rw[cj σ _ hk]at aD;exact dS.keep (.refl S w) hle (eI γ v' hk) (λg hg=>⟨rfl,λ_=>Iff.rfl⟩) (hR.box k b' aD)
 .intro k b' g aD hg;by_cases hk:k=d
  .subst hk;rw[dY]at hg;exact .inl (hv g hg).1.1
  .rw[cj σ _ hk]at aD;rw[eI γ v' hk]at hg;exact hR.own k b' g aD hg
 .intro k k' b1 b2 g aT h1 h2 hg an;by_cases hk:k=d
  .subst hk;have bf:k'≠k:=λh=>aT h.symm;rw[dY]at hg;rw[cj σ _ bf]at h2;rw[eI γ v' bf]at an;exact(hv g hg).2 k' b2 h2 an
  .by_cases bf:k'=d
   .subst bf;rw[dY]at an;rw[cj σ _ hk]at h1;rw[eI γ v' hk]at hg;exact(hv g an).2 k b1 h1 hg
   .rw[cj σ _ hk]at h1;rw[cj σ _ bf]at h2;rw[eI γ v' hk]at hg;rw[eI γ v' bf]at an;exact hR.apart k k' b1 b2 g aT h1 h2 hg an
theorem xR{bx:Nat->BS}{x:TV}{u:Value}(h:VRep S w x u):bz S w γ bx (nZ x.t x.v) u:=by
 obtain⟨t,v⟩:=x;obtain⟨h1,h2,h3⟩:=h;refine GW t v _ u h1 (λhm=>?_) (λha hn=>?_)
 .have:gQ t=true:=by
   rcases hm with hm|⟨n,b,rfl⟩
   .cases t<;>simp_all[gQ,Ty.agg]
   .rfl
  obtain⟨cs,rfl⟩:=h2 this;simp[Value.cells]
 .have:gQ t=false:=by cases t<;>simp_all[gQ,Ty.agg]
  exact xJ (h3 this)
theorem D2:∀{ls:List RL}{n:Nat}{l:List Leaf}{u:Ups},soL n ls=some (l,u)->∀x∈u,n<=x.1/\x.1<n+ls.length
 |[],n,l,u,h=>by simp[soL]at h;obtain⟨rfl,rfl⟩:=h;simp
 |.d x::r,n,l,u,h=>by
  simp only[soL]at h;split at h
  .rename_i l' u' h';simp only[j4,j8]at h;obtain⟨rfl,rfl⟩:=h;intro y hy;have:=D2 h' y hy;simp only[jo];omega
  .simp at h
 |.own e ⟨.list a,xs⟩::r,n,l,u,h=>by
  simp only[soL]at h;split at h
  .rename_i l' u' h';simp only[j4,j8]at h;obtain⟨rfl,rfl⟩:=h;intro y hy;rcases jd.1 hy with rfl|hy
   .simp only[jo];omega
   .have:=D2 h' y hy;simp only[jo];omega
  .simp at h
 |.own e ⟨.int _,xs⟩::r,n,l,u,h=>by simp[soL]at h
 |.own e ⟨.bool,xs⟩::r,n,l,u,h=>by simp[soL]at h
 |.own e ⟨.str,xs⟩::r,n,l,u,h=>by simp[soL]at h
 |.own e ⟨.unit,xs⟩::r,n,l,u,h=>by simp[soL]at h
 |.own e ⟨.wrap _,xs⟩::r,n,l,u,h=>by simp[soL]at h
 |.own e ⟨.pair _ _,xs⟩::r,n,l,u,h=>by simp[soL]at h
 |.own e ⟨.arr _ _,xs⟩::r,n,l,u,h=>by simp[soL]at h
theorem Pl{n:Nat}{r:RV}{c:Cel}{u:Ups}(h:Dz n r=some (c,u)):∀x∈u,n<=x.1/\x.1<n+rvW r:=by
 unfold Dz at h;split at h
 .simp only[j4,j8]at h;obtain⟨rfl,rfl⟩:=h;simp
 .simp only[j4,j8]at h;obtain⟨rfl,rfl⟩:=h;simp[rvW]
 .simp at h
 .simp only[j4,j8]at h;obtain⟨rfl,rfl⟩:=h;simp[rvW]
 .simp at h
 .split at h<;>(simp only[j4,j8]at h;obtain⟨rfl,rfl⟩:=h;simp)
 .simp only[j4,j8]at h;obtain⟨rfl,rfl⟩:=h;simp
 .split at h
  .rename_i l u' h';simp only[j4,j8]at h;obtain⟨rfl,rfl⟩:=h;exact D2 h'
  .simp at h
 .simp at h
theorem Pm:∀{n:Nat}{rs:List RV}{cs:List Cel}{u:Ups},sX n rs=some (cs,u)->∀x∈u,n<=x.1
 |n,[],cs,u,h=>by simp[sX]at h;obtain⟨rfl,rfl⟩:=h;simp
 |n,r::rs,cs,u,h=>by
  simp only[sX]at h;split at h
  .rename_i c u1 h1;split at h
   .rename_i Hr u2 h2;simp only[j4,j8]at h;obtain⟨rfl,rfl⟩:=h;intro x hx;rcases js.1 hx with hx|hx
    .exact(Pl h1 x hx).1
    .have:=Pm h2 x hx;omega
   .simp at h
  .simp at h
theorem Pn{bx:Nat->BS}{ns:List Nat}:∀(k:Nat){ls:List Leaf}{cs:List Value},All2 (bn S w γ bx) ls cs->(∀i∈ns,∀z,k<=i->cs[i-k]? = some z->z = .slice none 0 0)->
  All2 (bn S w γ bx) ((ls.zipIdx k).map λy=>if ns.contains y.2 then .nil else y.1) cs
 |_,[],[],_,_=>trivial
 |k,l::ls,c::cs,h,hn=>by
  refine⟨?_,Pn (k+1) h.2 λi hi z hk hz=>hn i hi z (by omega) ?_⟩
  .by_cases hc:ns.contains k=true
   .simp only[hc,if_true];exact hn k (by simpa using hc) c (jq _) (by simp)
   .simp only[hc];exact h.1
  .rw[show i-k=(i-(k+1))+1 by omega];simpa using hz
 |_,[],_::_,h,_=>h.elim
 |_,_::_,[],h,_=>h.elim
theorem XQ(hR:Rel N np S0 w0 refs σ a w S γ){h0:Nat}(Hs:w0.heap.size<=h0)(eR:∀k b g,σ.bx k = .live b->blk (γ k)=some g->g<h0)(DP:∀g,h0<=g->refs.kw g=none)
  {ns:List Nat}{s:Snap}{v:Value}(vU:Hm h0 S w ns s v)(aR:∀x∈rawU ns s,σ.bx x.1 = .free)(dy:((rawU ns s).map (·.1)).Nodup) :
  ∃γ',Rel N np S0 w0 refs (σ.upd (rawU ns s)) a w S γ'/\∃zs,v=kP zs/\All2 (bz S w γ' (σ.upd (rawU ns s)).bx) (rawC ns s) zs:=by
 obtain⟨γr,zs,hv,hc,hb,kL,XR⟩:=vU;generalize rawU ns s=u at *;let γ':Nat->Value:=λk=>if u.any (λy=>y.1==k) then γr k else γ k
 have gr:∀k,u.any (λy=>y.1==k)=true->(σ.upd u).bx k=(emp.upd u).bx k/\γ' k=γr k/\σ.bx k = .free:=by
  intro k hk;have ou:=hk;obtain⟨x,hx,he⟩:=qq.1 hk;have he:x.1=k:=by simpa using he
  subst he;exact⟨(xQ u σ dy (b:=x.2) hx).trans (xQ u emp dy (b:=x.2) hx).symm,if_pos ou,aR x hx⟩
 have bW:∀k,u.any (λy=>y.1==k)=false->(σ.upd u).bx k=σ.bx k/\(emp.upd u).bx k = .free/\γ' k=γ k:=by intro k hk;exact⟨jH u σ hk,jH u emp hk,if_neg (by rw[hk];simp)⟩
 have Po:BxLe γr (emp.upd u).bx γ' (σ.upd u).bx:=by
  intro k hk;cases hu:u.any (λy=>y.1==k) with
  |false=>exact absurd (bW k hu).2.1 hk
  |true=>obtain⟨h1,h2,_⟩:=gr k hu;rw[h1];exact⟨hk,h2,λb hb=>⟨b,hb,.refl b⟩⟩
 have Pp:BxLe γ σ.bx γ' (σ.upd u).bx:=by
  intro k hk;cases hu:u.any (λy=>y.1==k) with
  |true=>exact absurd (gr k hu).2.2 hk
  |false=>obtain⟨h1,_,h2⟩:=bW k hu;rw[h1];exact⟨hk,h2,λb hb=>⟨b,hb,.refl b⟩⟩
 have dU:σ.upd u={ σ with bx:=(σ.upd u).bx }:=by have:=tn u σ;cases h:σ.upd u;rw[h]at this;simp only at this;rw[this]
 refine⟨γ',?_,zs,hv,hc.mono λx z hx=>bz.keep (.refl S w) Po hx⟩;rw[dU];refine Rel.step hR (.refl S w) Pp ?_ ?_ ?_ hR.new hR.here hR.below hR.grow hR.os hR.tape hR.output (λg _ om h=>⟨rfl,λk b hb cF=>?_⟩)
 .intro k b aD;cases hu:u.any (λy=>y.1==k) with
  |true=>obtain⟨h1,h2,_⟩:=gr k hu;rw[h1]at aD;exact dS.keep (.refl S w) Po h2 (λg hg=>⟨rfl,λ_=>Iff.rfl⟩) (hb k b aD)
  |false=>obtain⟨h1,_,h2⟩:=bW k hu;rw[h1]at aD;exact dS.keep (.refl S w) Pp h2 (λg hg=>⟨rfl,λ_=>Iff.rfl⟩) (hR.box k b aD)
 .intro k b g aD hg;cases hu:u.any (λy=>y.1==k) with
  |true=>obtain⟨h1,h2,_⟩:=gr k hu;rw[h1]at aD;rw[h2]at hg;exact .inl (kx Hs (kL k b g aD hg))
  |false=>obtain⟨h1,_,h2⟩:=bW k hu;rw[h1]at aD;rw[h2]at hg;exact hR.own k b g aD hg
 .intro k k' b b' g aT cO dH iA eu;cases hu:u.any (λy=>y.1==k) with
  |true=>
   obtain⟨h1,h2,_⟩:=gr k hu;rw[h1]at cO;rw[h2]at iA;cases ea:u.any (λy=>y.1==k') with
   |true=>obtain⟨h3,h4,_⟩:=gr k' ea;rw[h3]at dH;rw[h4]at eu;exact XR k k' b b' g aT cO dH iA eu
   |false=>obtain⟨h3,_,h4⟩:=bW k' ea;rw[h3]at dH;rw[h4]at eu;have:=eR k' b' g dH eu;have:=kL k b g cO iA;omega
  |false=>
   obtain⟨h1,_,h2⟩:=bW k hu;rw[h1]at cO;rw[h2]at iA;cases ea:u.any (λy=>y.1==k') with
   |true=>obtain⟨h3,h4,_⟩:=gr k' ea;rw[h3]at dH;rw[h4]at eu;have:=eR k b g cO iA;have:=kL k' b' g dH eu;omega
   |false=>obtain⟨h3,_,h4⟩:=bW k' ea;rw[h3]at dH;rw[h4]at eu;exact hR.apart k k' b b' g aT cO dH iA eu
 .cases hu:u.any (λy=>y.1==k) with
  |true=>obtain⟨h1,h2,_⟩:=gr k hu;rw[h1]at hb;rw[h2]at cF;exact om (DP g (kL k b g hb cF))
  |false=>obtain⟨h1,_,h2⟩:=bW k hu;rw[h1]at hb;rw[h2]at cF;exact h k b hb cF
theorem Ht:∀{ls:List RL}{zs:List Value}{n:Nat}{l:List Leaf}{u:Ups}{σ:St}{γ:Nat->Value},Rel N np S0 w0 refs σ a w S γ->soL n ls=some (l,u)->All2 (DY S w) ls zs->
  (∀x∈u,σ.bx x.1 = .free)->(mX ls zs).Nodup->(∀g∈mX ls zs,(w0.heap.size<=g/\refs.kw g=none)/\∀k b,σ.bx k = .live b->blk (γ k)≠some g)->
  ∃γ',Rel N np S0 w0 refs (σ.upd u) a w S γ'/\BxLe γ σ.bx γ' (σ.upd u).bx/\All2 (bn S w γ' (σ.upd u).bx) l zs/\(∀z∈zs,One z)/\
   ∀k b g,(σ.upd u).bx k = .live b->blk (γ' k)=some g->(∃b',σ.bx k = .live b'/\blk (γ k)=some g)\/g∈mX ls zs
 |[],[],n,l,u,σ,γ,hR,h,_,_,_,_=>by
  simp[soL]at h;obtain⟨rfl,rfl⟩:=h;exact⟨γ,hR,.refl _ _,trivial,by simp,λk b g h1 h2=> .inl ⟨b,h1,h2⟩⟩
 |.d x::ls,z::zs,n,l,u,σ,γ,hR,h,ha,aR,dy,hblk=>by
  simp only[soL]at h;split at h
  .rename_i l' u' h';simp only[j4,j8]at h;obtain⟨rfl,rfl⟩:=h;obtain⟨γ',q1,q2,q3,q4,q5⟩:=Ht hR h' ha.2 aR dy hblk;exact⟨γ',q1,q2,⟨ha.1.2,q3⟩,λy hy=>(jd.1 hy).elim (λe=>e▸ha.1.1) (q4 y),q5⟩
  .simp at h
 |.own e ⟨.list t,xs⟩::ls,z::zs,n,l,u,σ,γ,hR,h,ha,aR,dy,hblk=>by
  simp only[soL]at h;split at h
  .rename_i l' u' h';simp only[j4,j8]at h;obtain⟨rfl,rfl⟩:=h;have aJ:vP S w e ⟨.list t,xs⟩ z:=ha.1;have di:One z:=by obtain⟨t',ys,_,bQ,_⟩:=aJ;exact bQ.one
   have mn:σ.bx n = .free:=aR _ (qx ..);simp only[mX]at dy hblk;obtain⟨bj,hle⟩:=Hq hR mn (v':=z) (b:= .lst e t xs false) (λg hg=>hblk g (by simp[hg])) (Am (dY _ _ _) aJ);have iR:=D2 h'
   obtain⟨γ',q1,q2,q3,q4,q5⟩:=Ht bj h' ha.2 (λx hx=>by
    have:=iR x hx;rw[cj σ _ (by omega)];exact aR x (by simp[hx])) (qj.1 dy).2.1 (λg hg=>by
    obtain⟨p1,p2⟩:=hblk g (by simp[hg]);refine⟨p1,λk b' aD he=>?_⟩;by_cases hk:k=n
    .subst hk;rw[dY]at he;exact(qj.1 dy).2.2 g (by simp[he]) g hg rfl
    .rw[cj σ _ hk]at aD;rw[eI γ z hk]at he;exact p2 k b' aD he)
   refine⟨γ',q1,λk hk=>?_,⟨bn.keep (.refl S w) q2 ⟨by rw[er];simp,di,λb _=>(dY γ n z).symm⟩,q3⟩,λy hy=>(jd.1 hy).elim (λe=>e▸di) (q4 y),λk b g h1 h2=>?_⟩
   .obtain⟨a1,a2,a3⟩:=hle k hk;obtain⟨b1,b2,b3⟩:=q2 k a1;refine⟨b1,b2.trans a2,λb hb=>?_⟩;obtain⟨b',aD,dI⟩:=b3 b hb;obtain⟨Ak,pr,pt⟩:=a3 b' aD;exact⟨Ak,pr,pt.trans dI⟩
   .rcases q5 k b g h1 h2 with⟨b',aD,he⟩|h3
    .by_cases hk:k=n
     .subst hk;rw[dY]at he;exact .inr (by simp[mX,he])
     .rw[cj σ _ hk]at aD;rw[eI γ z hk]at he;exact .inl ⟨b',aD,he⟩
    .exact .inr (by simp[mX,h3])
  .simp at h
 |.own e ⟨.int _,xs⟩::r,_,n,l,u,_,_,_,h,_,_,_,_=>by simp[soL]at h
 |.own e ⟨.bool,xs⟩::r,_,n,l,u,_,_,_,h,_,_,_,_=>by simp[soL]at h
 |.own e ⟨.str,xs⟩::r,_,n,l,u,_,_,_,h,_,_,_,_=>by simp[soL]at h
 |.own e ⟨.unit,xs⟩::r,_,n,l,u,_,_,_,h,_,_,_,_=>by simp[soL]at h
 |.own e ⟨.wrap _,xs⟩::r,_,n,l,u,_,_,_,h,_,_,_,_=>by simp[soL]at h
 |.own e ⟨.pair _ _,xs⟩::r,_,n,l,u,_,_,_,h,_,_,_,_=>by simp[soL]at h
 |.own e ⟨.arr _ _,xs⟩::r,_,n,l,u,_,_,_,h,_,_,_,_=>by simp[soL]at h
 |[],_::_,_,_,_,_,_,_,_,ha,_,_,_=>ha.elim
 |.d _::_,[],_,_,_,_,_,_,_,ha,_,_,_=>ha.elim
 |.own _ ⟨.list _,_⟩::_,[],_,_,_,_,_,_,_,ha,_,_,_=>ha.elim
theorem Pq:∀{rs:List RV}{vs:List Value}{n:Nat}{cs:List Cel}{un:Ups}{σ:St}{γ:Nat->Value},Rel N np S0 w0 refs σ a w S γ->sX n rs=some (cs,un)->All2 (ot S w) rs vs->
  (∀x∈un,σ.bx x.1 = .free)->(fj rs vs).Nodup->(∀g∈fj rs vs,(w0.heap.size<=g/\refs.kw g=none)/\∀k b,σ.bx k = .live b->blk (γ k)≠some g)->
  ∃γ',Rel N np S0 w0 refs (σ.upd un) a w S γ'/\BxLe γ σ.bx γ' (σ.upd un).bx/\All2 (bz S w γ' (σ.upd un).bx) cs vs
 |[],[],n,cs,un,σ,γ,hR,h,_,_,_,_=>by
  simp[sX]at h;obtain⟨rfl,rfl⟩:=h;exact⟨γ,hR,.refl _ _,trivial⟩
 |r::rs,u::us,n,cs,un,σ,γ,hR,h,ha,aR,dy,hblk=>by
  simp only[sX]at h;split at h
  .rename_i c u1 h1;split at h
   .rename_i Hr u2 h2;simp only[j4,j8]at h;obtain⟨rfl,rfl⟩:=h
    have An:∀(σ1:St)(γ1:Nat->Value),Rel N np S0 w0 refs σ1 a w S γ1->σ1=σ.upd u1->BxLe γ σ.bx γ1 σ1.bx->bz S w γ1 σ1.bx c u->(∀x∈u2,σ1.bx x.1 = .free)->
      (fj rs us).Nodup->(∀g∈fj rs us,(w0.heap.size<=g/\refs.kw g=none)/\∀k b,σ1.bx k = .live b->blk (γ1 k)≠some g)->
      ∃γ',Rel N np S0 w0 refs (σ.upd (u1++u2)) a w S γ'/\BxLe γ σ.bx γ' (σ.upd (u1++u2)).bx/\All2 (bz S w γ' (σ.upd (u1++u2)).bx) (c::Hr) (u::us):=by
     intro σ1 γ1 bj he hle hc hf hn hb;obtain⟨γ',q1,q2,q3⟩:=Pq (σ:=σ1) (γ:=γ1) bj h2 ha.2 hf hn hb;subst he;rw[iN];refine⟨γ',q1,?_,bz.keep (.refl S w) q2 hc,q3⟩;intro k hk;obtain⟨a1,a2,a3⟩:=hle k hk;obtain⟨b1,b2,b3⟩:=q2 k a1;refine⟨b1,b2.trans a2,λb hb=>?_⟩;obtain⟨b',aD,dI⟩:=b3 b hb;obtain⟨Ak,pr,pt⟩:=a3 b' aD;refine⟨Ak,pr,?_⟩;exact pt.trans dI
    have iR:=Pl h1;have mo:=Pm h2
    have dM:∀(v':Value)(b:Bx),jM r u=(blk v').toList->rvW r=1->u1=[(n,.live b)]->(∀bx',dS S w (gset γ n v') bx' n b)->(∀bx',(bx' n = .live b)->bz S w (gset γ n v') bx' c u)->
      ∃γ',Rel N np S0 w0 refs (σ.upd (u1++u2)) a w S γ'/\BxLe γ σ.bx γ' (σ.upd (u1++u2)).bx/\All2 (bz S w γ' (σ.upd (u1++u2)).bx) (c::Hr) (u::us):=by
     intro v' b fQ Hu Hv dt pw;subst Hv;rw[Hu]at mo;have mn:σ.bx n = .free:=aR (n,.live b) (by simp);simp only[fj,fQ]at dy hblk;obtain⟨bj,hle⟩:=Hq hR mn (v':=v') (b:=b) (λg hg=>hblk g (by simp[hg])) (dt _);refine An _ _ bj rfl hle (pw _ (er _ _ _)) (λx hx=>?_) ?_ (λg hg=>?_)
     .have:=mo x hx;rw[cj σ _ (by omega)];exact aR x (by simp[hx])
     .exact(qj.1 dy).2.1
     .obtain⟨p1,p2⟩:=hblk g (by simp[hg]);refine⟨p1,λk b' aD he=>?_⟩;by_cases hk:k=n
      .subst hk;rw[dY]at he;have:=(qj.1 dy).2.2 g (by simp[he]) g hg;exact this rfl
      .rw[cj σ _ hk]at aD;rw[eI γ v' hk]at he;exact p2 k b' aD he
    unfold Dz at h1;split at h1
    .rename_i x;simp only[j4,j8]at h1;obtain⟨rfl,rfl⟩:=h1;refine An σ γ hR rfl (.refl _ _) (xR ha.1) (λx hx=>aR x (by simp[hx])) ?_ ?_
     .simpa[fj,lO,jM]using dy
     .simpa[fj,lO,jM]using hblk
    .rename_i e el xs;simp only[j4,j8]at h1;obtain⟨rfl,rfl⟩:=h1;have aJ:vP S w e ⟨.list el,xs⟩ u:=ha.1;have di:One u:=by obtain⟨t',ys,_,bQ,_⟩:=aJ;exact bQ.one
     exact dM u _ rfl rfl rfl (λbx'=>Am (dY _ _ _) aJ) (λbx' hb=>⟨⟨by rw[hb];simp,di,λb _=>(dY γ n u).symm⟩,λ_=>di⟩)
    .simp at h1
    .rename_i ls;simp only[j4,j8]at h1;obtain⟨rfl,rfl⟩:=h1;have Ao:Al S w ls u:=ha.1;obtain⟨g,cur,e,hu,_⟩:=id Ao;have di:One u:=by rw[hu];rfl
     exact dM u _ rfl rfl rfl (λbx'=>Ho (dY _ _ _) Ao) (λbx' hb=>⟨⟨by rw[hb];simp,di,λb _=>⟨g,by rw[dY,hu],hu⟩⟩,λ_=>di⟩)
    .simp at h1
    .rename_i x ns;have hv:VRep S w x u/\∀cs,u = .agg cs->∀i∈ns,∀z,cs.toList[i]? = some z->z = .slice none 0 0:=ha.1;have px:bz S w γ σ.bx (nZ x.t x.v) u:=xR hv.1
     have hc:bz S w γ σ.bx c u/\u1=[]:=by
      split at h1
      .rename_i ls he;simp only[j4,j8]at h1;obtain⟨rfl,rfl⟩:=h1;rw[he]at px;obtain⟨cs,hu,al,di⟩:=px;exact⟨⟨cs,hu,Pn 0 al λi hi z _ hz=>hv.2 cs hu i hi z (by simpa using hz),di⟩,rfl⟩
      .simp only[j4,j8]at h1;obtain⟨rfl,rfl⟩:=h1;exact⟨px,rfl⟩
     obtain⟨hc,rfl⟩:=hc;refine An σ γ hR rfl (.refl _ _) hc (λx hx=>aR x (by simp[hx])) ?_ ?_
     .simpa[fj,lO,jM]using dy
     .simpa[fj,lO,jM]using hblk
    .rename_i f caps;simp only[j4,j8]at h1;obtain⟨rfl,rfl⟩:=h1;obtain⟨cv,hu,al⟩:∃cv:Array Value,u = .func (.func f) #[] cv/\All2 (iz S w) caps cv.toList:=ha.1;refine An σ γ hR rfl (.refl _ _) ⟨⟨cv,hu,al⟩,λ_=>by rw[hu];rfl⟩ (λx hx=>aR x (by simp[hx])) ?_ ?_
     .simpa[fj,lO,jM]using dy
     .simpa[fj,lO,jM]using hblk
    .rename_i ls;split at h1
     .rename_i l Pd hl;simp only[j4,j8]at h1;obtain⟨rfl,rfl⟩:=h1;obtain⟨qY,hu,al⟩:∃cs:Array Value,u = .agg cs/\All2 (DY S w) ls cs.toList:=ha.1;subst hu;have r8:jM (.so ls) (.agg qY)=mX ls qY.toList:=rfl;simp only[fj,r8]at dy hblk;obtain⟨γ1,q1,q2,q3,q4,q5⟩:=Ht hR hl al (λx hx=>aR x (by simp[hx])) (qj.1 dy).1 (λg hg=>hblk g (by simp[hg]));refine An _ γ1 q1 rfl q2 ⟨qY,rfl,q3,q4⟩ (λx hx=>?_) (qj.1 dy).2.1 (λg hg=>?_)
      .have h2:=mo x hx;rw[jH Pd σ]
       .exact aR x (by simp[hx])
       .rw[qc];intro y hy he;simp only[qv]at he;have:=iR y hy;omega
      .obtain⟨p1,p2⟩:=hblk g (by simp[hg]);refine⟨p1,λk b' aD he=>?_⟩;rcases q5 k b' g aD he with⟨b2,dH,XS⟩|h3
       .exact p2 k b2 dH XS
       .exact(qj.1 dy).2.2 g h3 g hg rfl
     .simp at h1
    .simp at h1
   .simp at h
  .simp at h
 |[],_::_,_,_,_,_,_,_,_,ha,_,_,_=>ha.elim
 |_::_,[],_,_,_,_,_,_,_,ha,_,_,_=>ha.elim
end
section
variable{N:NT}{np:Nat}{S0:aH}{w0:World}{refs:Refs}{σ:St}{a:Go.Act}{w:World}{S:aH}{γ:Nat->Value}
theorem Hw{S':aH}{w':World}:∀(cs:List Cap)(cv:List Value)(os:List Out),kO S' w' (cs.map qN) cv os->os=[]
 |[],[],[],_=>rfl
 |[],[],_::_,h=>h.elim
 |[],_::_,_,h=>h.elim
 |c::cs,[],_,h=>by cases c<;>exact h.elim
 |.v _::cs,_::cv,os,h=>Hw cs cv os h
 |.p _::cs,_::cv,os,h=>Hw cs cv os h
theorem xS{S':aH}{w':World}{cs:List Cap}{cv:List Value}:∀{as:List Arg}{zs:List Value}{os:List Out},as.length=zs.length->
  kO S' w' (as++cs.map qN) (zs++cv) os->kO S' w' as zs os
 |[],[],os,_,h=>by
  have:=Hw cs cv os h;subst this;trivial
 |.ref ls::as,u::us,.ref ys::os,hl,⟨h1,h2⟩=>⟨h1,xS (by simpa using hl) h2⟩
 |.rl e x::as,u::us,.rl y::os,hl,⟨h1,h2,h3⟩=>⟨h1,h2,xS (by simpa using hl) h3⟩
 |.v _::as,_::us,os,hl,h=>xS (as:=as) (zs:=us) (by simpa using hl) h
 |.ip _::as,_::us,os,hl,h=>xS (as:=as) (zs:=us) (by simpa using hl) h
 |.clo _ _::as,_::us,os,hl,h=>xS (as:=as) (zs:=us) (by simpa using hl) h
 |[],_::_,_,hl,_=>by simp at hl
 |_::_,[],_,hl,_=>by simp at hl
 |.ref _::_,_::_,[],_,h=>h.elim
 |.ref _::_,_::_,.rl _::_,_,h=>h.elim
 |.rl _ _::_,_::_,[],_,h=>h.elim
 |.rl _ _::_,_::_,.ref _::_,_,h=>h.elim
theorem gi.congr{bx bx':Nat->BS}:∀{as:List Arg}{us:List Value}{fs:List Bk},(∀f∈fs,bx' f.name=bx f.name)->gi bx γ as us fs->gi bx' γ as us fs
 |[],[],[],_,_=>trivial
 |.ref ls::as,u::us,.ref k::fs,hc,⟨h1,⟨fh,h2⟩,h3⟩=>
  ⟨h1,⟨fh,(hc (.ref k) (by simp)).trans h2⟩,gi.congr (λf hf=>hc f (by simp[hf])) h3⟩
 |.rl e x::as,u::us,.rl k e' t::fs,hc,⟨h0,h1,⟨xs,h2,hx⟩,h3⟩=>
  ⟨h0,h1,⟨xs,(hc (.rl k e' t) (by simp)).trans h2,hx⟩,gi.congr (λf hf=>hc f (by simp[hf])) h3⟩
 |.v _::as,_::us,fs,hc,h=>gi.congr (as:=as) (us:=us) hc h
 |.ip _::as,_::us,fs,hc,h=>gi.congr (as:=as) (us:=us) hc h
 |.clo _ _::as,_::us,fs,hc,h=>gi.congr (as:=as) (us:=us) hc h
theorem Ap{S1 S':aH}{w':World}(fB:∀g o,S g o->S' g o):∀{as:List Arg}{zs:List Value}{os:List Out},os.all Out.flat=true->kO S' w' as zs os->kO S w' as zs os
 |[],[],[],_,_=>trivial
 |.ref ls::as,u::us,.ref ys::os,hf,⟨⟨g,cur,e,h1,h2,h3,h4⟩,h5⟩=>by
  simp only[za,ja,Out.flat]at hf;refine⟨⟨g,cur,e,h1,h2,?_,λo hs=>h4 o (fB g o hs)⟩,Ap (S1:=S1) fB hf.2 h5⟩;have hl:=hf.1;clear h1 h2 hf h4 h5;generalize cur.toList.take ys.length=l at h3;induction ys generalizing l with
  |nil=>cases l with|nil=>trivial|cons _ _=>exact h3.elim
  |cons y ys ih=>
   cases l with
   |nil=>exact h3.elim
   |cons z l=>simp only[za,ja]at hl;exact⟨r7 _ _ _ hl.1 h3.1,ih hl.2 l h3.2⟩
 |.rl e x::as,u::us,.rl y::os,hf,⟨⟨t,xs,h1,_⟩,_,_⟩=>by
  simp only[za,ja,Out.flat,h1,Ty.flat]at hf;exact absurd hf.1 (by simp)
 |.v _::as,_::us,os,hf,h=>Ap (S1:=S1) (as:=as) (zs:=us) fB hf h
 |.ip _::as,_::us,os,hf,h=>Ap (S1:=S1) (as:=as) (zs:=us) fB hf h
 |.clo _ _::as,_::us,os,hf,h=>Ap (S1:=S1) (as:=as) (zs:=us) fB hf h
theorem XU{S S':aH}{w:World}{e:Nat}{a:Ty}{xs:List a.den}{u:Value}(hf:a.flat=true)(h:oU S' w e a xs u):oU S w e a xs u:=by
 rcases h with⟨hm,css,h1,h2⟩|⟨hm,h1⟩
 .exact .inl ⟨hm,css,h1,h2.mono λx c hx=>r7 _ _ _ hf hx⟩
 .refine .inr ⟨hm,?_⟩;revert hf h1;cases a with
  |pair k b=>intro hf h1;simp only[Ty.flat,ja]at hf;obtain⟨g,es,clock,hu,hh,ha,hq⟩:=h1;exact⟨g,es,clock,hu,hh,ha.mono λx e hx=>⟨r7 _ _ _ hf.1 hx.1,r7 _ _ _ hf.2 hx.2.1,hx.2.2⟩,hq⟩
  |_=>intro _ h1;exact h1.elim
theorem Pr{S':aH}{w':World}(fB:∀g o,S g o->S' g o):∀{rs:List RV}{vs:List Value},rs.all RV.flat=true->All2 (ot S' w') rs vs->All2 (ot S w') rs vs
 |[],[],_,_=>trivial
 |r::rs,v::vs,hf,h=>by
  simp only[za,ja]at hf;have i1:=Pr fB hf.2 h.2;cases r with
  |v x=>obtain⟨h1,h2,h3⟩:=h.1;exact⟨⟨r7 _ _ _ hf.1 h1,h2,h3⟩,i1⟩
  |own e x=>obtain⟨a,xs,rfl,h1,h2⟩:=h.1;exact⟨⟨a,xs,rfl,XU hf.1 h1,λg hg o hs=>h2 g hg o (fB g o hs)⟩,i1⟩
  |so ls=>simp[RV.flat]at hf
  |box ls=>simp[RV.flat]at hf
  |hd n=>simp[RV.flat]at hf
  |vn x ns=>simp[RV.flat]at hf
  |clo f cs=>simp[RV.flat]at hf
  |raw ns s=>simp[RV.flat]at hf
 |[],_::_,_,h=>h.elim
 |_::_,[],_,h=>h.elim
theorem XV{rd:Nat->BS}(aL:RdOk σ rd){un:Ups}(h:un.all (λe=>gx (rd e.1))=true):∀x∈un,σ.bx x.1 = .free:=
 λx hx=>aL.free (jp.1 h x hx)
theorem All2.len{α β:Type}{R:α->β->Prop}{as:List α}{bs:List β}(h:All2 R as bs):as.length=bs.length:=h.length
theorem Ps{γ':Nat->Value}{bx:Nat->BS}{S':aH}{w':World}{XW:Nat->Value}{cs:List Cel}{vs:List Value}(h:All2 (bz S' w' γ' bx) cs vs) :
  gI S' w' γ' bx XW (yR cs) (kP vs):=by
 match cs,vs,h with
 |[c],[v],h=>exact h.1
 |[],[],h=>exact⟨#[],rfl,trivial⟩
 |c::c'::cs,v::v'::vs,h=>exact⟨(v::v'::vs).toArray,rfl,by simpa using h⟩
 |[c],v::v'::vs,h=>exact h.2.elim
 |c::c'::cs,[v],h=>exact h.2.elim
 |[],v::vs,h=>exact h.elim
 |c::cs,[],h=>exact h.elim
theorem D3{bx:Nat->BS}{k e:Nat}{t:Ty}:∀{as:List Arg}{us:List Value}{fs:List Bk},gi bx γ as us (.rl k e t::fs)->∀(bs:List Arg)(vs:List Value),DZ (as++bs) (us++vs)=some (γ k)
 |.rl e x::as,u::us,fs,⟨_,h1,_,_⟩,bs,vs=>by rw[<-h1];rfl
 |.v _::as,_::us,fs,h,bs,vs=>D3 (as:=as) (us:=us) (fs:=fs) h bs vs
 |.ip _::as,_::us,fs,h,bs,vs=>D3 (as:=as) (us:=us) (fs:=fs) h bs vs
 |.clo _ _::as,_::us,fs,h,bs,vs=>D3 (as:=as) (us:=us) (fs:=fs) h bs vs
 |[],[],fs,h,_,_=>h.elim
 |.ref _::as,_::us,fs,h,_,_=>h.elim
 |[],_::_,fs,h,_,_=>h.elim
 |_::_,[],fs,h,_,_=>by cases ‹Arg› <;> exact h.elim
theorem Pt{α β:Type}:∀(l:List α)(l':List β),List.Sublist ((l.zip l').map (·.1)) l
 |[],_=>by simp
 |_::_,[]=>by simp
 |x::l,y::l'=>by simpa using Pt l l'
theorem Pu{P:Program}(hR:Rel N np S0 w0 refs σ a w S γ){rw rd rdf:Nat->BS}(gW:RdR σ rw)(aL:RdOk σ rd)(bu:RdF np σ rdf){T:Nat->Option TyI}{ts:List Nat}{ms:List Bool}{cs:List Cel}{as:List Arg}{us:Ups}{fs:List Bk}{zs:List Value}
  (h:qM rw rdf T ts ms cs=some (as,us,fs))(ha:All2 (bz S w γ σ.bx) cs zs)(br:bkOk us fs=true)
  {caps:List Cap}{cv:List Value}(lP:All2 (iz S w) caps cv){g:Nat}{K:Ret->Prop}
  (dV:D1 P g (as++caps.map qN) K)(n:Nat) :
  Calls P g (zs++cv).toArray w λe w'=>∃ret,K ret/\∀s u,rD rd rdf n us fs ret=some (s,u)->∃v S' γ',e = .returned v/\Rel N np S0 w0 refs (σ.upd u) a w' S' γ'/\gI S' w' γ' (σ.upd u).bx (tm a) s v:=by
 obtain⟨eZ,cF,o4⟩:=Pc hR gW bu h ha;simp only[bkOk,ja]at br;obtain⟨dy,vV⟩:=br;have dy:=xP dy
 have hlen:as.length=zs.length:=by
  have:∀{as:List Arg}{us:List Value}{fs:List Bk},gi σ.bx γ as us fs->as.length=us.length:=by
   intro as;induction as with
   |nil=>intro us fs hh;cases us with|nil=>rfl|cons _ _=>exact hh.elim
   |cons a as ih=>
    intro us fs hh;cases us with
    |nil=>cases a<;>exact hh.elim
    |cons u us=>
     cases a with
     |v x=>have:=ih (us:=us) (fs:=fs) hh;simp[this]
     |ip x=>have:=ih (us:=us) (fs:=fs) hh;simp[this]
     |clo x y=>have:=ih (us:=us) (fs:=fs) hh;simp[this]
     |ref ls=>match fs,hh with|.ref k::fs,⟨_,_,h3⟩=>have:=ih h3;simp[this]
     |rl e x=>match fs,hh with|.rl k e' t::fs,⟨_,_,_,h3⟩=>have:=ih h3;simp[this]
  exact this cF
 obtain⟨S1,bj,cu,gj,dx⟩:=mT us σ S hR eZ;have Aq:∀k,k∈fs.map Bk.name->us.any (λy=>y.1==k)=false:=by intro k hk;rw[qc];intro x hx he;have:=jp.1 vV x hx;simp only[qv]at he;subst he;simp only[kv,kz,ko]at this;exact this hk
 have py:∀f∈fs,(σ.upd us).bx f.name=σ.bx f.name:=λf hf=>jH us σ (Aq _ (List.mem_map_of_mem hf));have r9:=cF.congr py
 have nD:∀k b,fs.any (λy=>y.name==k)=true->σ.bx k = .live b->∀g,blk (γ k)=some g->∀o,¬S1 g o:=by
  intro k b hk hb g hg o;obtain⟨f,hf,he⟩:=qq.1 hk;have he:f.name=k:=by simpa using he
  subst he;have cO:(σ.upd us).bx f.name = .live b:=(py f hf).trans hb;have dt:=bj.box f.name b cO
  have kS:(∃fh,b = .cell fh false)\/(∃e t xs,b = .lst e t xs false):=by
   have:∀{as:List Arg}{us:List Value}{fs:List Bk},gi σ.bx γ as us fs->f∈fs->(∃fh,σ.bx f.name = .live (.cell fh false))\/(∃e t xs,σ.bx f.name = .live (.lst e t xs false)):=by
    intro as;induction as with
    |nil=>intro us fs hh hm;match us,fs,hh with|[],[],_=>simp at hm
    |cons a as ih=>
     intro us fs hh hm;cases us with
     |nil=>cases a<;>exact hh.elim
     |cons u us=>
      cases a with
      |v x=>exact ih (us:=us) (fs:=fs) hh hm
      |ip x=>exact ih (us:=us) (fs:=fs) hh hm
      |clo x y=>exact ih (us:=us) (fs:=fs) hh hm
      |ref ls=>
       match fs,hh with
       |.ref k::fs,⟨_,⟨fh,h2⟩,h3⟩=>
        rcases jd.1 hm with rfl|hm
        .exact .inl ⟨fh,h2⟩
        .exact ih h3 hm
      |rl e x=>
       match fs,hh with
       |.rl k e' t::fs,⟨_,_,⟨xs,h2,_⟩,h3⟩=>
        rcases jd.1 hm with rfl|hm
        .exact .inr ⟨_,t,xs,h2⟩
        .exact ih h3 hm
   rcases this cF hf with⟨fh,h2⟩|⟨e,t,xs,h2⟩
   .rw[hb]at h2;simp at h2;exact .inl ⟨fh,h2⟩
   .rw[hb]at h2;simp at h2;exact .inr ⟨e,t,xs,h2⟩
  rcases kS with⟨fh,rfl⟩|⟨e,t,xs,rfl⟩
  .obtain⟨g',cur,e,an,_,_,_,hS,_⟩:=dt;rw[an]at hg;simp[blk]at hg;subst hg;exact hS rfl o
  .exact(dt.2 g hg).1 rfl o
 have cm:All2 (mm S1 w) as zs:=o4 S1 cu gj nD;have Ar:All2 (mm S1 w) (caps.map qN) cv:=Pe (lP.mono (λx z hx=>iz.keep cu hx));have hrefs:dZ (as++caps.map qN) (zs++cv)=dZ as zs:=by rw[Pj _ _ _ _ hlen,Pg,qe]
 have sa:(dZ as zs).Nodup:=by rw[vQ cF];have:=Hn hR dy (λk hk=>by obtain⟨f,hf,rfl⟩:=jx.1 hk;exact vR cF f hf);rwa[List.filterMap_map]at this
 refine(dV w S1 (zs++cv) (cm.append Ar) (by rw[hrefs];exact sa) bj.here).mono ?_
 rintro e w' ⟨ret,hK,v,S',vs,rfl,bH⟩
 refine⟨ret,hK,λs u bd=>?_⟩;obtain⟨eB,bk,vW,mq,dz,gX,dM,eP,eQ,ez,nC,kQ,bW,vU,pz⟩:=bH;rw[hrefs]at eQ;have dz:=xS hlen dz;refine⟨v,?_⟩;unfold rD at bd;split at bd
 ·-- the list Hx first,cut short
  rename_i m Hy;unfold mkHd at bd;generalize fW:ret.outs=ro at bd dz;split at bd
  .rename_i k e el XO y ov _;split at bd
   .rename_i uo ys qZ gg;split at bd
    .rename_i bV;simp only[ja]at bV;simp only[j4,j8]at bd;obtain⟨rfl,rfl⟩:=bd;have bY:=Hp bj gX dM eP r9 dy qZ dz eQ ez nC kQ bW;obtain⟨kR,mY⟩:=tC bj r9 qZ dz;have qS:(uo.map (·.1)).Nodup:=by rw[kR];exact dy
     have Hz:(k,BS.live (.lst e el ys false))∈uo:=by
      simp only[rC,Dy,gg]at qZ;split at qZ
      .simp only[j4]at qZ;rw[<-qZ];exact qx
      .simp at qZ
     have fL:=xQ uo (σ.upd us) qS Hz;obtain⟨bl,r8⟩:=zM bV.2;have mV:=bu.par r8;have h0:=aL.free bV.1;have h1:(σ.upd us).bx n = .free:=dx.free h0;have mr:((σ.upd us).upd uo).bx n = .free:=by rw[jH uo,h1];rw[qc];intro y hy he;simp only[qv]at he;obtain⟨b0,_,h2,_⟩:=mY y hy;rw[he,h1]at h2;simp at h2
     obtain⟨ad,len,cap,gC,As,gJ⟩:=pz m Hy;have sb:γ k = .slice ad len cap:=by have:=D3 cF (caps.map qN) cv;rw[gC]at this;simpa using this.symm
     have mW:len=ys.length:=by
      obtain⟨css,aJ,_⟩:=DF sb (bY.box k _ fL);rcases aJ.2 with⟨an,hn⟩|⟨g,fP,cur,an,_⟩
      .rw[sb]at an;simp only[Value.slice.injEq]at an;omega
      .rw[sb]at an;simp only[Value.slice.injEq]at an;omega
     obtain⟨γ',cI,fy⟩:=XH bY fL mV mr (m:=m) (by omega) (by rw[sb,mW]);refine⟨S',γ',rfl,by rw[iN,iN];exact cI,?_⟩;rw[eB,gJ,iN,iN];exact fy
    .simp at bd
   .simp at bd
  .simp at bd
 ·-- the results as HA lie
  rename_i ns sn Hy;unfold yS at bd;generalize fW:ret.outs=ro at bd dz;split at bd
  case h_2=>simp at bd
  split at bd
  case isFalse=>simp at bd
  rename_i bV;simp only[ja]at bV;simp only[j4,j8]at bd;obtain⟨rfl,rfl⟩:=bd;have bY:=Hp bj gX dM eP r9 dy (uo:=[]) rfl dz eQ ez nC kQ bW;have fB:∀x∈rawU ns sn,x.1∈ns:=λx hx=>(List.of_mem_zip hx).1
  obtain⟨γ',fi,xT,fQ,dp⟩:=XQ (h0:=w.heap.size) bY hR.grow (λk b g hb hg=>iO (bj.box k b hb) hg) (λg hg=>hR.kw_new hg) (vU ns sn Hy)
   (λx hx=>dx.free (aL.free (jp.1 bV.2 x.1 (fB x hx)))) (by
    exact List.Nodup.sublist (Pt _ _) (xP bV.1))
  refine⟨S',γ',rfl,by rw[iN];exact fi,?_⟩;rw[fQ,iN];exact Ps dp
 split at bd
 .rename_i uo qZ;split at bd
  .rename_i qY un iC;split at bd
   .rename_i aR;have aR:=XV aL aR
    have dF:∀(kB:Ups)(Sx Sy:aH),(kB=us\/kB=[])->Rel N np S0 w0 refs (σ.upd kB) a w Sx γ->dn Sx w Sy w'->(∀g o,Sy g o->Sx g o\/w.heap.size<=g)->(∀g o,Sy g o->g<w'.heap.size)->
      kO Sy w' as zs ret.outs->All2 (ot Sy w') ret.vals vs->
      ∃S' γ',Rel N np S0 w0 refs (σ.upd (kB++uo++un)) a w' S' γ'/\All2 (bz S' w' γ' (σ.upd (kB++uo++un)).bx) qY vs:=by
     intro kB Sx Sy sd xU vX Au vY tD Av
     have Aw:gi (σ.upd kB).bx γ as zs fs:=by
      rcases sd with rfl|rfl
      .exact r9
      .exact cF
     have bY:=Hp xU vX Au vY Aw dy qZ tD eQ ez nC kQ bW;obtain⟨kR,mY⟩:=tC xU Aw qZ tD
     have vZ:∀k b,((σ.upd kB).upd uo).bx k = .live b->∃b',(σ.upd kB).bx k = .live b':=by
      intro k b hb;by_cases hk:uo.any (λy=>y.1==k)=true
      .obtain⟨x,hx,he⟩:=qq.1 hk;have he:x.1=k:=by simpa using he
       subst he;obtain⟨b0,_,h0,_⟩:=mY x hx;exact⟨b0,h0⟩
      .rw[jH uo _ (qb.2 hk)]at hb;exact⟨b,hb⟩
     have mr:∀x∈un,((σ.upd kB).upd uo).bx x.1 = .free:=by
      intro x hx;have h0:=aR x hx
      have h1:(σ.upd kB).bx x.1 = .free:=by
       rcases sd with rfl|rfl
       .exact dx.free h0
       .exact h0
      rw[jH uo,h1];rw[qc];intro y hy he;simp only[qv]at he;obtain⟨b0,_,h2,_⟩:=mY y hy;rw[he,h1]at h2;simp at h2
     obtain⟨γ',fi,_,pw⟩:=Pq bY iC Av mr mq (λg hg=>by
      have kL:=vW g hg;refine⟨⟨kx hR.grow kL,hR.kw_new kL⟩,λk b hb he=>?_⟩;obtain⟨b',aD⟩:=vZ k b hb;have:=iO (xU.box k b' aD) he;omega)
     refine⟨Sy,γ',?_,?_⟩
     .rw[iN,iN];exact fi
     .rw[iN,iN];exact pw
    have bU:∃kB,(kB=us\/kB=[])/\kB=(if ret.vals.all RV.flat&&ret.outs.all Out.flat then [] else us)/\
      ∃S' γ',Rel N np S0 w0 refs (σ.upd (kB++uo++un)) a w' S' γ'/\All2 (bz S' w' γ' (σ.upd (kB++uo++un)).bx) qY vs:=by
     by_cases kT:(ret.vals.all RV.flat&&ret.outs.all Out.flat)=true
     .refine⟨[],.inr rfl,by rw[if_pos kT],?_⟩;obtain⟨o5,rP⟩:=Bool.and_eq_true_iff.1 kT;have fB:∀g o,S g o->S' g o:=λg o hs=>(gX g o (cu g o hs).1).1
      refine dF [] S S (.inr rfl) hR (λg o hs=>⟨hs,(gX g o (cu g o hs).1).2⟩) (λg o hs=> .inl hs) (λg o hs=>kr (hR.here g o hs) ez)
       (Ap (S1:=S1) fB rP dz) (Pr fB o5 bk)
     .exact⟨us,.inl rfl,by rw[if_neg kT],dF us S1 S' (.inl rfl) bj gX dM eP dz bk⟩
    obtain⟨kB,_,sd,S2,γ2,bY,tE⟩:=bU
    have hs:s=yR qY/\u=(if ret.vals.all RV.flat&&ret.outs.all Out.flat then [] else us)++uo++un:=by
     clear tE dF bY iC;revert bd;match qY with
     |[c]=>simp only[j4,j8];rintro⟨rfl,rfl⟩;exact⟨rfl,rfl⟩
     |[]=>simp only[j4,j8];rintro⟨rfl,rfl⟩;exact⟨rfl,rfl⟩
     |c::c'::r=>simp only[j4,j8];rintro⟨rfl,rfl⟩;exact⟨rfl,rfl⟩
    obtain⟨rfl,rfl⟩:=hs;rw[<-sd];exact⟨S2,γ2,rfl,bY,by rw[eB];exact Ps tE⟩
   .simp at bd
  .simp at bd
 .simp at bd
theorem D4{P:Program}{f:Nat}(hf:Fun P f){o:Oper}{cl:Call}(ho:o.op = .call cl){x:Operand}(hc:cl.callee = .value x){cv:Array Value}(hx:a.eval x = .func (.func f) #[] cv) :
  (execOp a.eval o).run P w = .ok (.enter f (cl.args.map a.eval++cv)) w:=by
 obtain⟨fn,h1,h2,h3⟩:=hf;have jY:¬fn.body=none:=λhn=>by rw[hn]at h2;simp at h2
 have tF : ¬ fn.name = "runtime.NumGoroutine" := by simpa using h3
 simp[execOp,ho,resolve,hc,Deferred.ofValue,hx,invoke,callFunc,h1,jY,tF]
end
section
variable{N:NT}{np:Nat}{S0:aH}{w0:World}{refs:Refs}{σ:St}{a:Go.Act}{w:World}{S:aH}{γ:Nat->Value}
def keyV:(k:Ty)->k.den->Value
 |.int q,n=> .int q n
 |.str,s=> .string s
 |_,_=>undef
theorem xV:∀{k:Ty}{x:k.den}{u:Value},k.isKey=true->(Rep S w k x [u]↔u=keyV k x)
 |.int q,x,u,_=>by simp[Rep,keyV]
 |.str,x,u,_=>by simp[Rep,keyV]
 |.bool,_,_,h=>by simp[Ty.isKey]at h
 |.unit,_,_,h=>by simp[Ty.isKey]at h
 |.wrap _,_,_,h=>by simp[Ty.isKey]at h
 |.pair _ _,_,_,h=>by simp[Ty.isKey]at h
 |.list _,_,_,h=>by simp[Ty.isKey]at h
 |.arr _ _,_,_,h=>by simp[Ty.isKey]at h
def keyD:Ty->TypeDesc
 |.int q=> .int q
 |_=> .string
theorem XX{P:Program}{T:Nat->Option TyI}(hT:cd P T){n:Nat}{ti:TyI}(hn:T n=some ti){k:Ty}(bg:ti.ty=some k)(hk:k.isKey=true):P.underlying n=some (keyD k):=by
 cases k with
 |int q=>exact GQ hT hn bg
 |str=>exact GZ hT hn bg
 |_=>simp[Ty.isKey]at hk
theorem Pv{k:Ty}(hk:k.isKey=true)(x:k.den):MapKept.IsKey (keyD k) (keyV k x):=by
 cases k with
 |int q=>rfl
 |str=>trivial
 |_=>simp[Ty.isKey]at hk
theorem HB{k:Ty}(hk:k.isKey=true)(x y:k.den):Instr.sameNow (keyD k) (keyV k x) (keyV k y)=some (@BEq.beq _ k.keq x y):=by
 cases k with
 |int q=>simp[keyD,keyV,Instr.sameNow]
 |str=>simp[keyD,keyV,Instr.sameNow]
 |_=>simp[Ty.isKey]at hk
theorem XY{k:Ty}(hk:k.isKey=true){x y:k.den}(h:@BEq.beq _ k.keq x y=true):x=y:=by
 cases k with
 |int q=>simpa[Ty.keq]using h
 |str=>exact(MapKept.bytes_beq x y).1 h
 |_=>simp[Ty.isKey]at hk
theorem Px{k:Ty}(hk:k.isKey=true)(x:k.den):Instr.sameBits 10000 (keyV k x) (keyV k x)=true:=by
 cases k with
 |int q=>simp[keyV,Instr.sameBits]
 |str=>simp only[keyV,Instr.sameBits];exact(MapKept.bytes_beq x x).2 rfl
 |_=>simp[Ty.isKey]at hk
def Ax(S:aH)(w:World)(k v:Ty)(x:k.den×v.den)(e:MapEntry):Prop:=Rep S w k x.1 [e.key]/\VRep S w ⟨v,x.2⟩ e.val
theorem HC{k v:Ty}(hk:k.isKey=true)(q:k.den):∀{xs:List (k.den×v.den)}{es:List MapEntry},All2 (Ax S w k v) xs es->∀i:Nat,
  (@eJ _ _ k.keq xs q=true/\∃j e,Instr.findNow (keyD k) (keyV k q) es i=some (some (i+j,e.val))/\es[j]? = some e/\e.key=keyV k q/\VRep S w ⟨v,@df _ _ k.keq v.dflt xs q⟩ e.val/\
   ∀(z:v.den)(e':MapEntry),e'.key=keyV k q->VRep S w ⟨v,z⟩ e'.val->All2 (Ax S w k v) (@fI _ _ k.keq xs q z) (es.set j e'))\/
  (@eJ _ _ k.keq xs q=false/\Instr.findNow (keyD k) (keyV k q) es i=some none/\@df _ _ k.keq v.dflt xs q=v.dflt/\∀z,@fI _ _ k.keq xs q z=xs++[(q,z)])
 |[],[],_,i=> .inr ⟨rfl,rfl,rfl,λ_=>rfl⟩
 |x::xs,e::es,h,i=>by
  have ra:e.key=keyV k x.1:=(xV hk).1 h.1.1;have hs:=HB hk q x.1;rw[<-ra]at hs;cases hb:@BEq.beq _ k.keq q x.1 with
  |true=>
   rw[hb]at hs;have XZ:=XY hk hb;refine .inl ⟨by simp[eJ,hb],0,e,by simp[Instr.findNow,hs],rfl,by rw[ra,XZ],?_,λz e' h1 h2=>?_⟩
   .simp only[df,hb,j5];exact h.1.2
   .simp only[fI,hb,j5,List.set_cons_zero];exact⟨⟨(xV hk).2 h1,h2⟩,h.2⟩
  |false=>
   rw[hb]at hs;rcases HC hk q h.2 (i+1) with⟨h1,j,e',h2,h3,h4,h5,h6⟩|⟨h1,h2,h3,h4⟩
   .refine .inl ⟨by simp only[eJ,List.any_cons,hb,vj];exact h1,j+1,e',by simp only[Instr.findNow,hs,h2];congr 3;omega,by simpa using h3,h4,?_,λz e2 g1 g2=>?_⟩
    .simp only[df,hb,j6];exact h5
    .simp only[fI,hb,j6,List.set_cons_succ];exact⟨h.1,h6 z e2 g1 g2⟩
   .refine .inr ⟨by simp only[eJ,List.any_cons,hb,vj];exact h1,by simp only[Instr.findNow,hs,h2],?_,λz=>?_⟩
    .simp only[df,hb,j6];exact h3
    .simp only[fI,hb,j6,h4 z];rfl
 |[],_::_,h,_=>h.elim
 |_::_,[],h,_=>h.elim
theorem Py{k v:Ty}(hk:k.isKey=true){q:k.den}:∀{xs:List (k.den×v.den)}{es:List MapEntry},All2 (Ax S w k v) xs es->@eJ _ _ k.keq xs q=false->∀e∈es,e.key≠keyV k q
 |[],[],_,_=>by simp
 |x::xs,e::es,h,hn=>by
  simp only[eJ,List.any_cons,Bool.or_eq_false_iff]at hn;intro e' HD;rcases jd.1 HD with rfl|HD
  .intro hq;have ra:=(xV hk).1 h.1.1;have hs:=HB hk q x.1;rw[<-ra,hq,HB hk q q,hn.1]at hs;simp only[j4]at hs;have:=Px hk q;cases k with
   |int z=>simp at hs
   |str=>have:=(MapKept.bytes_beq q q).2 rfl;exact absurd (hs.symm.trans this) (by simp)
   |_=>simp[Ty.isKey]at hk
  .exact Py hk h.2 hn.2 e' HD
 |[],_::_,h,_=>h.elim
 |_::_,[],h,_=>h.elim
theorem Pz{P:Program}{T:Nat->Option TyI}(hT:cd P T){t:Nat}{k v:Ty}(h:uP T t=some (k,v)) :
  ∃kt vt tv,P.underlying t=some (.map kt vt)/\P.underlying kt=some (keyD k)/\k.isKey=true/\T vt=some tv/\tv.ty=some v:=by
 unfold uP at h;split at h
 .rename_i ti zL;split at h
  .rename_i k0 v0 X0;split at h
   .rename_i tk tv iS xW;split at h
    .rename_i k1 v1 dD HE;split at h
     .rename_i kU;simp only[j4,j8]at h;obtain⟨rfl,rfl⟩:=h;exact⟨k0,v0,tv,Wx hT zL X0,XX hT iS dD kU,kU,xW,HE⟩
     .simp at h
    .simp at h
   .simp at h
  .simp at h
 .simp at h
theorem PA{rw:Nat->BS}(gW:RdR σ rw){t:Nat}{k v:Ty}{x y:Leaf}{b:Nat}{ys:List (k.den×v.den)}{q:k.den}(h:mapC rw t k v x y=some (b,ys,q)) :
  x = .ol b/\y = .d k q/\σ.bx b = .live (.lst (4294967296+t) (.pair k v) ys false):=by
 unfold mapC at h;split at h
 .rename_i b0 tk key;split at h
  .rename_i e a0 xs hb;split at h
   .rename_i he;split at h
    .rename_i GA q' h1 h2;simp only[j4,j8]at h;obtain⟨rfl,rfl,rfl⟩:=h;have e1:=lK h1;have e2:=lK h2;cases e1;cases e2;subst he;exact⟨rfl,rfl,gW.live hb⟩
    .simp at h
   .simp at h
  .simp at h
 .simp at h
theorem Ay(t:Nat):isM (4294967296+t)=true:=by
 unfold isM;rw[Nat.ble_eq];exact Nat.le_add_right _ _
theorem PB(hR:Rel N np S0 w0 refs σ a w S γ){b t:Nat}{k v:Ty}{ys:List (k.den×v.den)}{f:Bool}(hb:σ.bx b = .live (.lst (4294967296+t) (.pair k v) ys f)) :
  ∃g es clock,γ b = .map (some g)/\w.heap[g]? = some (.map es clock)/\All2 (Ax S w k v) ys es.toList/\MapKept.Stamped es clock:=by
 have h:=(hR.box b _ hb).1;rcases h with⟨hm,_⟩|⟨_,g,es,clock,h1,h2,h3,h4⟩
 .rw[Ay]at hm;simp at hm
 .exact⟨g,es,clock,h1,h2,h3,h4⟩
theorem X1{P:Program}{T:Nat->Option TyI}(hT:cd P T){n:Nat}{ti:TyI}(hn:T n=some ti){t:Ty}(bg:ti.ty=some t):∃z,(zeroValue n).run P w = .ok z w/\VRep S w ⟨t,t.dflt⟩ z:=by
 obtain⟨i,d,hi,hd,hs,_,ha,_,h⟩:=lJ hT hn;obtain⟨_,⟨z,hz,hc⟩,hdo⟩:=h t bg;have PC:=Wy hT hn hi hd;refine⟨z,by simp[zeroValue,typeInfo,hi,hz],?_,?_,?_⟩
 .rw[hc];exact oh t
 .intro hm;have:aggD d=true:=by cases d<;>cases t<;>simp_all[jD,gQ,aggD,Ty.agg]
  simp only[zOk,hz]at PC;cases z<;>simp_all
 .intro hm;have:aggD d=false:=by cases d<;>cases t<;>simp_all[jD,gQ,aggD,Ty.agg]
  simp only[zOk,hz]at PC;cases z<;>first|rfl|simp_all
theorem X2{P:Program}{E:Env}(hT:cd P E.T)(hR:Rel N np S0 w0 refs σ a w S γ){rw:Nat->BS}(gW:RdR σ rw){t:Nat}{k v:Ty}(ht:uP E.T t=some (k,v)){x y:Leaf}{b:Nat}{ys:List (k.den×v.den)}{q:k.den}
  (h:mapC rw t k v x y=some (b,ys,q)){zx zy:Value}(hx:bn S w γ σ.bx x zx)(hy:bn S w γ σ.bx y zy) :
  ∃z,VRep S w ⟨v,@df _ _ k.keq v.dflt ys q⟩ z/\∀ok,(Instr.lookup t zx zy ok).run P w = .ok (if ok then .tuple #[z,.bool (@eJ _ _ k.keq ys q)] else z) w:=by
 obtain⟨kt,vt,tv,gl,wa,kU,xW,Az⟩:=Pz hT ht;obtain⟨rfl,rfl,hb⟩:=PA gW h;obtain⟨g,es,clock,hg,hh,ha,_⟩:=PB hR hb;have HF:zx = .map (some g):=(hx.2.2 _ hb).trans hg;have HG:zy=keyV k q:=(xV kU).1 hy;subst HF;subst HG;have fC:=MapKept.run_checkKey (w:=w) wa (Pv kU q) es.isEmpty 9999;rcases HC kU q ha 0 with⟨h1,j,e,h2,h3,h4,h5,h6⟩|⟨h1,h2,h3,h4⟩
 .refine⟨e.val,h5,λok=>?_⟩;have hf:=MapKept.run_findKey (w:=w) wa h2;simp only[Instr.lookup,Sem.run_bind,run_underlying gl,Result.andThen_ok,MapKept.run_getObj_map hh,Sem.run_pure,fC,hf,h1]
 .obtain⟨z,hz,X3⟩:=X1 (S:=S) (w:=w) hT xW Az;refine⟨z,by rw[h3];exact X3,λok=>?_⟩;have hf:=MapKept.run_findKey (w:=w) wa h2;simp only[Instr.lookup,Sem.run_bind,run_underlying gl,Result.andThen_ok,MapKept.run_getObj_map hh,Sem.run_pure,fC,hf,h1,hz]
theorem X4(hR:Rel N np S0 w0 refs σ a w S γ){k:Nat}{b b':Bx}(hk:σ.bx k = .live b){g:Nat}(hg:blk (γ k)=some g)(hS:∀o,¬S g o)(og:ij b b')
  {w':World}(sf:∀i,i≠g->w'.heap[i]? = w.heap[i]?)(bF:w'.heap.size=w.heap.size)(nC:w'.os=w.os)(D5:w'.tape=w.tape)(bW:w'.output=w.output)
  (hb:BxLe γ σ.bx γ (σ.setB k (.live b')).bx->dn S w S w'->dS S w' γ (σ.setB k (.live b')).bx k b') :
  Rel N np S0 w0 refs (σ.setB k (.live b')) a w' S γ:=by
 have hle:BxLe γ σ.bx γ (σ.setB k (.live b')).bx:=by
  intro k' bf;by_cases bL:k'=k
  .subst bL;rw[er];exact⟨by simp,rfl,λb1 cO=>by simp at cO;subst cO;exact⟨b,hk,og⟩⟩
  .rw[cj σ _ bL];exact⟨bf,rfl,λb hb=>⟨b,hb,.refl b⟩⟩
 have aA:dn S w S w':=by
  intro g' o h;refine⟨h,World.cell?_of_block (sf g' ?_)⟩
  rintro rfl
  exact hS o h
 have bA:∀k' b1,(σ.setB k (.live b')).bx k' = .live b1->∃b2,σ.bx k' = .live b2:=by
  intro k' b1 h1;by_cases bL:k'=k
  .subst bL;exact⟨b,hk⟩
  .rw[cj σ _ bL]at h1;exact⟨b1,h1⟩
 refine Rel.step (bx':=(σ.setB k (.live b')).bx) hR aA hle ?_ ?_ ?_ hR.new ?_ ?_ ?_ (nC.trans hR.os) (D5.trans hR.tape) (bW.trans hR.output) (λg' _ _ h=>⟨sf g' (λe=>h k b hk (e▸hg)),λk' b1 h1=>by
  obtain⟨b2,h2⟩:=bA k' b1 h1;exact h k' b2 h2⟩)
 .intro k' b1 h1;by_cases bL:k'=k
  .subst bL;rw[er]at h1;simp at h1;subst h1;exact hb hle aA
  .rw[cj σ _ bL]at h1;refine dS.keep aA hle rfl (λg' an=>⟨?_,λ_=>Iff.rfl⟩) (hR.box k' b1 h1);exact sf g' (λh=>hR.apart k' k b1 b g bL h1 hk (h▸an) hg)
 .intro k' b1 g' h1 an;obtain⟨b2,h2⟩:=bA k' b1 h1;exact hR.own k' b2 g' h2 an
 .intro k1 k2 b1 b2 g' aT h1 h2 an;obtain⟨rL,kJ⟩:=bA k1 b1 h1;obtain⟨rM,jY⟩:=bA k2 b2 h2;exact hR.apart k1 k2 rL rM g' aT kJ jY an
 .intro g' o h;rw[bF];exact hR.here g' o h
 .intro g' an hr;rw[sf g' ?_]
  .exact hR.below g' an hr
  .rintro rfl
   rcases hR.own k b _ hk hg with h|h
   .omega
   .exact hr h.1
 .rw[bF];exact hR.grow
theorem X5{P:Program}{E:Env}(hT:cd P E.T)(hR:Rel N np S0 w0 refs σ a w S γ){rw:Nat->BS}(gW:RdR σ rw){t:Nat}{k v:Ty}(ht:uP E.T t=some (k,v)){x y:Leaf}{b:Nat}{ys:List (k.den×v.den)}{q:k.den}
  (h:mapC rw t k v x y=some (b,ys,q)){zx zy zz:Value}(hx:bn S w γ σ.bx x zx)(hy:bn S w γ σ.bx y zy){rdf:Nat->BS}(bu:RdF np σ rdf){c:Cel}{z:v.den}{u:Ups}(hd:nY rdf v c=some (z,u))(hz:bz S w γ σ.bx c zz) :
  ∃w' S',(Instr.mapUpdate t zx zy zz).run P w = .ok () w'/\Rel N np S0 w0 refs (σ.upd (u++[(b,.live (.lst (4294967296+t) (.pair k v) (@fI _ _ k.keq ys q z) false))])) a w' S' γ:=by
 obtain⟨kt,vt,tv,gl,wa,kU,xW,Az⟩:=Pz hT ht;obtain⟨rfl,rfl,hb⟩:=PA gW h;obtain⟨eZ,bk,_⟩:=zP bu hR.box hd hz;obtain⟨S1,bj,cu,gj,dx⟩:=mT u σ S hR eZ;have AA:u.any (λy=>y.1==b)=false:=by rw[qc];intro y hy X6;obtain⟨_,e,t',xs,f,h1,_,hm⟩:=eZ y hy;rw[show y.1=b by simpa using X6,hb]at h1;cases h1;rw[Ay]at hm;simp at hm
 have cO:(σ.upd u).bx b = .live (.lst (4294967296+t) (.pair k v) ys false):=(jH u σ AA).trans hb;obtain⟨g,es,clock,hg,hh,ha,hq⟩:=PB bj cO;have HF:zx = .map (some g):=(hx.2.2 _ hb).trans hg;have HG:zy=keyV k q:=(xV kU).1 hy;subst HF;subst HG;have PD:=bk S1 w cu gj;have AB:blk (γ b)=some g:=by rw[hg];rfl
 have hS:∀o,¬S1 g o:=((bj.box b _ cO).2 g AB).1 rfl;have fC:=MapKept.run_checkKey (w:=w) wa (Pv kU q) false 9999
 have main:∃lQ jN,(Instr.mapUpdate t (.map (some g)) (keyV k q) zz).run P w = .ok () { w with heap:=w.heap.setIfInBounds g (.map lQ jN) }/\All2 (Ax S1 w k v) (@fI _ _ k.keq ys q z) lQ.toList/\MapKept.Stamped lQ jN:=by
  rcases HC kU q ha 0 with⟨h1,j,e,h2,h3,h4,h5,h6⟩|⟨h1,h2,h3,h4⟩
  .have hf:=MapKept.run_findKey (w:=w) wa h2;rw[jz]at hf;refine⟨es.modify j λe=>{ e with key:=keyV k q,val:=zz },clock,?_,?_,MapKept.stamped_modify hq j _ (λ_ _=>rfl) (λe1 _ AD=>?_)⟩
   .have HH:((es[j]?).map (·.key)).getD (keyV k q)=keyV k q:=by rw[show es[j]? = some e by simpa using h3];exact h4
    simp only[Instr.mapUpdate,Sem.run_bind,run_underlying gl,Result.andThen_ok,MapKept.run_getObj_map hh,fC,hf,Instr.keyThatStays,HH,Px kU q,if_true,Sem.run_pure,MapKept.run_setObj_map _ hh]
   .have e1:(es.modify j λe=>{ e with key:=keyV k q,val:=zz }).toList=es.toList.set j { e with key:=keyV k q,val:=zz }:=by
     refine vu λi=>?_;rw[qo,Array.getElem?_modify,List.getElem?_set];have tF:es[j]? = some e:=by simpa using h3
     by_cases ec:j=i
     .subst ec;simp only[if_true,tF,ki];rw[if_pos (by simpa using (jf.1 tF).1)]
     .simp[ec]
    rw[e1];exact h6 z _ rfl PD
   .rw[show es[j]? = some e by simpa using h3]at AD;cases AD;exact h4.symm
  .have hf:=MapKept.run_findKey (w:=w) wa h2;refine⟨es.push { key:=keyV k q,val:=zz,born:=clock },clock+1,?_,?_,MapKept.stamped_push hq (Py kU ha h1)⟩
   .simp only[Instr.mapUpdate,Sem.run_bind,run_underlying gl,Result.andThen_ok,MapKept.run_getObj_map hh,fC,hf,MapKept.run_setObj_map _ hh]
   .rw[h4 z,Array.toList_push];exact ha.append ⟨⟨(xV kU).2 rfl,PD⟩,trivial⟩
 obtain⟨lQ,jN,az,al,xN⟩:=main;have au:g<w.heap.size:=(jf.1 hh).1;refine⟨_,S1,az,?_⟩;rw[iN];refine X4 bj cO AB hS (b':= .lst (4294967296+t) (.pair k v) (@fI _ _ k.keq ys q z) false) ⟨rfl,rfl,λhm=>by rw[Ay]at hm;simp at hm⟩ (λi hi=>by simp[Ne.symm hi]) (by simp) rfl rfl rfl λhle aA=>?_;refine⟨.inr ⟨Ay t,g,lQ,jN,hg,by simp[au],al.mono λx e hx=>⟨Rep.keep aA _ _ _ hx.1,VRep.keep aA hx.2⟩,xN⟩,λg' an=>?_⟩;rw[AB]at an;simp at an;subst an;exact⟨λ_=>hS,λh=>by simp at h⟩
theorem X7{P:Program}(hR:Rel N np S0 w0 refs σ a w S γ){n t:Nat}{k v:Ty}(hn:σ.bx n = .free) :
  ∃γ',(Instr.makeMap t none).run P w = .ok (.map (some w.heap.size)) (w.alloc (.map #[] 0))/\Rel N np S0 w0 refs (σ.setB n (.live (.lst (4294967296+t) (.pair k v) [] false))) a (w.alloc (.map #[] 0)) S γ'/\
   bz S (w.alloc (.map #[] 0)) γ' (σ.setB n (.live (.lst (4294967296+t) (.pair k v) [] false))).bx (.one (.ol n)) (.map (some w.heap.size)):=by
 have AA:=G2 hR hn (o:= .map #[] 0) (b:= .lst (4294967296+t) (.pair k v) [] false) (v:= .map (some w.heap.size)) (λg hg=>by simp[blk]at hg;exact hg.symm) (λhle=>by
  refine⟨.inr ⟨Ay t,w.heap.size, #[],0,dY _ _ _,heap_alloc_new w _,trivial,MapKept.stamped_empty 0⟩,λg hg=>?_⟩;rw[dY]at hg;simp[blk]at hg;subst hg;exact⟨λ_ o ho=>by have:=hR.here _ o ho;omega,λh=>by simp at h⟩)
 refine⟨_,rfl,AA.1,⟨?_,rfl,λb hb=>(dY _ _ _).symm⟩,λ_=>rfl⟩;rw[er];simp
end
section
variable{N:NT}{np:Nat}{S0:aH}{w0:World}{refs:Refs}{σ:St}{a:Go.Act}{w:World}{S:aH}{γ:Nat->Value}
theorem X8{P:Program}{E:Env}(hT:cd P E.T)(hR:Rel N np S0 w0 refs σ a w S γ){rdf:Nat->BS}(bu:RdF np σ rdf){t:TypeId}{ti:TyI}(ht:E.T t=some ti)
  {m:Nat}{el:Ty}(bg:ti.ty=some (.arr m el)){ps:List (Nat×Cel)}{vs:Array (Nat×Value)}{xs:List el.den}{u:Ups}
  (fM:All2 (λp v=>p.1=v.1/\bz S w γ σ.bx p.2 v.2) ps vs.toList)(h:iK rdf el (List.replicate m el.dflt) [] ps=some (xs,u)) :
  ∃v S',(Instr.build t vs).run P w = .ok v w/\Rel N np S0 w0 refs (σ.upd u) a w S' γ/\bz S' w γ (σ.upd u).bx (.av m el xs) v:=by
 obtain⟨gl,bG,te,cg,tG⟩:=xG hT ht bg;have bF:=kI hT cg tG;obtain⟨z,hz,ga⟩:=uZ hT ht w bg;obtain⟨eZ,cZ⟩:=Hb bu hR.box bG ps vs.toList fM h .nil;obtain⟨S1,bj,cu,gj,dx⟩:=mT u σ S hR eZ;obtain⟨O6,css,al,kT⟩:=oh (S:=S1) (w:=w) (.arr m el);obtain⟨bm,jJ,eO,gu,cU⟩:=cZ S1 cu gj css z.cells al (by rw[ga];exact kT)
 have hlen:∀(ps:List (Nat×Cel)){xs cH:List el.den}{u u':Ups},iK rdf el xs u ps=some (cH,u')->cH.length=xs.length:=by
  intro ps;induction ps with
  |nil=>intro xs cH u u' h;simp[iK]at h;rw[h.1]
  |cons p ps ih=>
   intro xs cH u u' h;obtain⟨i,c⟩:=p;simp only[iK]at h;split at h
   .split at h
    .rw[ih h];simp
    .simp at h
   .simp at h
 have oq:xs.length=m:=by rw[hlen ps h];simp
 refine⟨.agg bm,S1,?_,bj,bm,rfl,oq,jJ,gu,cU⟩;simp only[Instr.build,Sem.run_bind,hz,Result.andThen_ok,run_underlying gl,gS hT cg,<-bF,eO,Sem.run_pure]
theorem X9{P:Program}{E:Env}(hT:cd P E.T){bx:Nat->BS}{t:TypeId}{ti:TyI}(ht:E.T t=some ti){m:Nat}{el:Ty}(bg:ti.ty=some (.arr m el)) :
  ∃v,(Instr.build t #[]).run P w = .ok v w/\bz S w γ bx (.st (mO (.arr m el))) v:=by
 obtain⟨gl,bG,te,cg,tG⟩:=xG hT ht bg;obtain⟨z,hz,ga⟩:=uZ hT ht w bg;refine⟨.agg z.cells,?_,z.cells,rfl,by rw[ga];exact tq (.arr m el),λu hu=>DV ga u (by simpa using hu)⟩;simp only[Instr.build,Sem.run_bind,hz,Result.andThen_ok,run_underlying gl,gS hT cg];rfl
theorem PE{rd:Nat->BS}(aL:RdF np σ rd)(hB:xI S w γ σ.bx){el:Ty}:∀{ls:List Leaf}{xs:List el.den}{u:Ups}{zs:List Value},rz rd el ls=some (xs,u)->All2 (bn S w γ σ.bx) ls zs->
  FrzL np σ.bx u/\∀S' w',dn S w S' w'->Froz σ.bx γ S' w' u->All2 (λx z=>Rep S' w' el x [z]) xs zs
 |[],xs,u,zs,h,ha=>by
  simp[rz]at h;obtain⟨rfl,rfl⟩:=h;cases zs with
  |nil=>exact⟨.nil,λ_ _ _ _=>trivial⟩
  |cons _ _=>exact ha.elim
 |l::ls,xs,u,zs,h,ha=>by
  cases zs with
  |nil=>exact ha.elim
  |cons z zs=>
   simp only[rz]at h;split at h
   .rename_i x u1 DX u2 h1 h2;simp only[j4,j8]at h;obtain⟨rfl,rfl⟩:=h;obtain⟨f1,p1⟩:=tp aL hB h1 ha.1;obtain⟨f2,p2⟩:=PE aL hB h2 ha.2;exact⟨FrzL.app.2 ⟨f1,f2⟩,λS' w' hk hf=>⟨p1 S' w' hk (Froz.app.1 hf).1,p2 S' w' hk (Froz.app.1 hf).2⟩⟩
   .simp at h
theorem PF{el:Ty}{S':aH}{w':World}:∀{xs:List el.den}{zs:List Value},All2 (λx z=>Rep S' w' el x [z]) xs zs->∃css,All2 (λx c=>Rep S' w' el x c) xs css/\zs=css.flatten
 |[],[],_=>⟨[],trivial,rfl⟩
 |x::xs,z::zs,h=>by
  obtain⟨css,h1,h2⟩:=PF h.2;exact⟨[z]::css,⟨h.1,h1⟩,by simp[h2]⟩
 |[],_::_,h=>h.elim
 |_::_,[],h=>h.elim
theorem Ya{P:Program}{E:Env}(hT:cd P E.T)(hR:Rel N np S0 w0 refs σ a w S γ){rd rdf:Nat->BS}(aL:RdOk σ rd)(bu:RdF np σ rdf){t:TypeId}{ti:TyI}(ht:E.T t=some ti)
  {x:Leaf}{m:Nat}{el:Ty}{ls:List Leaf}{xs:List el.den}{u:Ups}{v:Value}(h:rA rd ti.ty x=some (m,el,ls))(hg:rz rdf el ls=some (xs,u))(hl:xs.length=m)(hx:bn S w γ σ.bx x v) :
  ∃z S',(Instr.loadAt t v).run P w = .ok z w/\Rel N np S0 w0 refs (σ.upd u) a w S' γ/\bz S' w γ (σ.upd u).bx (.av m el xs) z:=by
 unfold rA at h;split at h
 .rename_i k;split at h
  .rename_i m' DQ bg;split at h
   .split at h
    .rename_i fh hk;simp only[j4,j8]at h;obtain⟨rfl,rfl,rfl⟩:=h;have hk:=aL.live hk;obtain⟨g,an,hu⟩:=hx.2.2 _ hk;obtain⟨g',cur,e,eu,hh,ha,h1,_⟩:=hR.box k _ hk;rw[an]at eu;simp at eu;subst eu;obtain⟨eZ,cZ⟩:=PE bu hR.box hg ha;obtain⟨S1,bj,cu,gj,dx⟩:=mT u σ S hR eZ;obtain⟨css,al,dr⟩:=PF (cZ S1 w cu gj);have bk:Rep S1 w (.arr m' DQ) xs (cur.toList.take fh.length):=⟨hl,css,al,dr⟩;obtain⟨GY,_,_⟩:=xG hT ht bg;have bF:(cur.toList.take fh.length).length=ti.size:=by have:=Rep.length _ _ _ bk;rw[kI hT ht bg]at this;exact this
     refine⟨.agg (cur.toList.take fh.length).toArray,S1,?_,bj,(cur.toList.take fh.length).toArray,rfl,by simpa using bk⟩;subst hu
     have HI:=OD (w:=w) (g:=g) (o:=0) (cs:=cur.toList.take fh.length) (λj v hv=>by
      rw[jz,cell_of_row w g j cur e (0,0) hh];rw[q8]at hv;split at hv
      .simpa using hv
      .simp at hv) P
     rw[bF]at HI;have jG:(isAgg t).run P w = .ok true w:=by simp[isAgg,run_underlying GY]
     simp only[Instr.loadAt,Sem.run_bind,Instr.sureAddr,Sem.run_pure,Result.andThen_ok,loadVar,jG,if_true,gS hT ht,HI]
    .simp at h
   .simp at h
  .simp at h
 .simp at h
def Slot.bare:Slot->Bool
 |.cnd _ _ _=>false
 |_=>true
theorem Yb{fr:Bool}{b:Ty}{n len:Nat}{ps:List (Nat×Cel)}{f:Nat}{args:List Arg}{mk:Ret->Option (Slot×Ups)}:one1 fr b n len ps≠some (.call f args mk):=by
 unfold one1;split
 .split
  .split<;>simp
  .simp
 .simp
theorem PG(cs:List Cel):(yR cs).bare=true:=by
 unfold yR;split<;>rfl
theorem PH(hR:Rel N np S0 w0 refs σ a w S γ){act:List (Nat×Bool)}(aN:oW (tm a) act)(ps:List (Nat×Operand)) :
  All2 (λp v=>p.1=v.1/\bz S w γ σ.bx p.2 v.2) (ps.map λp=>(p.1,(σ.ev p.2).cel act)) (ps.map λp=>(p.1,a.eval p.2)):=by
 induction ps with
 |nil=>trivial
 |cons p ps ih=>exact⟨⟨rfl,dL hR aN p.2⟩,ih⟩
theorem D6(hR:Rel N np S0 w0 refs σ a w S γ){act:List (Nat×Bool)}(aN:oW (tm a) act)(ps:List Operand) :
  All2 (bz S w γ σ.bx) (ps.map λp=>(σ.ev p).cel act) (ps.map a.eval):=by
 induction ps with
 |nil=>trivial
 |cons p ps ih=>exact⟨dL hR aN p,ih⟩
theorem xX{rd:Nat->BS}(aL:RdOk σ rd):RdF np σ (λk=>if parK np k then .gone else rd k):=by
 refine⟨λk=>?_,λk e a xs f h=>?_⟩
 rotate_left
 .dsimp only at h
  split at h
  .simp at h
  .exact aL.2 k e a xs f h
 dsimp only
 split
 .exact .inr rfl
 .rename_i hp;rcases aL.1 k with h|h
  .exact .inl ⟨h,by simpa using hp⟩
  .exact .inr h
theorem tH{P:Program}{o:Oper}{l:Leaf}{v:Value}(hR:Rel N np S0 w0 refs σ a w S γ)(hr:(execOp a.eval o).run P w = .ok (.value v) w)
  (hs:bn S w γ σ.bx l v)(h1:One v):GR P N np S0 w0 refs o σ a w S γ (.one (.one l)) []:=
 jE hR hr ⟨hs,λ_=>h1⟩
theorem wb{c:Cel}{l:Leaf}(h:lf c=l)(hd:l ≠ .dead):c = .one l:=by
 cases c with
 |one x=>simp[lf]at h;rw[h]
 |st ls=>simp[lf]at h;exact absurd h.symm hd
 |av n a xs=>simp[lf]at h;exact absurd h.symm hd
theorem HJ{P:Program}{E:Env}(hT:cd P E.T)(hR:Rel N E.np S0 w0 refs σ a w S γ){act:List (Nat×Bool)}(aN:oW (tm a) act){rw:Nat->BS}(gW:RdR σ rw)
  {o:Oper}{s:Slot}{u:Ups}(h:dC E σ.ev rw act o=some (.val true s u)):GR P N E.np S0 w0 refs o σ a w S γ s u/\s.bare=true:=by
 have aL:RdOk σ (mskM rw):=gW.msk;have bu:=xX (np:=E.np) aL;have hex:∀op,o.op=op->execOp a.eval o=execOp a.eval { o with op:=op }:=λop h=>by subst h;rfl
 unfold dC at h;dsimp only at h;split at h
 ·-- move
  rename_i x bE;split at h
  .rename_i l hl;simp only[j4,Act.val.injEq]at h;obtain⟨_,rfl,rfl⟩:=h;have:=mR hR x;rw[hl]at this;exact⟨jE hR (v:=a.eval x) (by simp[execOp,bE]) this,rfl⟩
  .simp only[j4,Act.cel,Act.val.injEq]at h;obtain⟨_,rfl,rfl⟩:=h;exact⟨jE hR (v:=a.eval x) (by simp[execOp,bE]) (dL hR aN x),rfl⟩
 ·-- assign
  rename_i x bE;split at h
  .rename_i l hl;simp only[j4,Act.val.injEq]at h;obtain⟨_,rfl,rfl⟩:=h;have:=mR hR x;rw[hl]at this;exact⟨jE hR (v:=a.eval x) (by simp[execOp,bE]) this,rfl⟩
  .simp only[j4,Act.cel,Act.val.injEq]at h;obtain⟨_,rfl,rfl⟩:=h;exact⟨jE hR (v:=a.eval x) (by simp[execOp,bE]) (dL hR aN x),rfl⟩
 ·-- pick
  rename_i x y z bE;split at h
  .rename_i v hv;have hx:=dL hR aN x;have HK:a.eval x = .bool v:=by have:=wb hv (by simp);rw[this]at hx;exact qO hx
   have az:(execOp a.eval o).run P w = .ok (.value (if v then a.eval y else a.eval z)) w:=by simp[execOp,bE,HK,asBool]
   have hy:v=true->bz S w γ σ.bx ((σ.ev y).cel (DA x true act)) (a.eval y):=by
    intro tI;refine GS ?_ (mR hR y);cases x with
    |tmp t=>
     intro g hg;rcases jd.1 hg with rfl|hg
     .simp only;rw[<-tI];exact HK
     .exact aN g hg
    |_=>exact aN
   have hz:v=false->bz S w γ σ.bx ((σ.ev z).cel (DA x false act)) (a.eval z):=by
    intro tI;refine GS ?_ (mR hR z);cases x with
    |tmp t=>
     intro g hg;rcases jd.1 hg with rfl|hg
     .simp only;rw[<-tI];exact HK
     .exact aN g hg
    |_=>exact aN
   split at h
   .rename_i t p t' q hp hq;split at h
    .rename_i q' il;simp only[j4,Act.leaf,Act.val.injEq]at h;obtain⟨_,rfl,rfl⟩:=h;have:=lK il;cases this;refine⟨jE hR az ?_,rfl⟩;cases v with
     |true=>have:=hy rfl;rw[hp]at this;exact this
     |false=>have:=hz rfl;rw[hq]at this;exact this
    .simp at h
   .rename_i t p hp hq;simp only[j4,Act.val.injEq]at h;obtain⟨fQ,rfl,rfl⟩:=h;have fQ:v=true:=fQ;subst fQ;refine⟨jE hR az ?_,rfl⟩;have:=hy rfl;rw[hp]at this;exact this
   .rename_i t q hp hq;simp only[j4,Act.val.injEq]at h;obtain⟨fQ,rfl,rfl⟩:=h;have fQ:v=false:=by simpa using fQ
    subst fQ;refine⟨jE hR az ?_,rfl⟩;have:=hz rfl;rw[hq]at this;exact this
   .simp at h
  .simp at h
 ·-- alloc
  rename_i t bE;split at h
  .rename_i ti ht;split at h
   .rename_i aR;have hd:=aL.free aR;split at h
    .rename_i k el bg;split at h
     .simp only[j4,Act.val.injEq]at h;obtain⟨_,rfl,rfl⟩:=h;obtain⟨z,ga,hz⟩:=Ha (w:=w) hT ht bg;obtain⟨cI,hc⟩:=DK hR hd (ls:=mO (.arr k el)) (cur:=z.cells) (e:=t) (by rw[ga];exact tq (.arr k el)) (DV ga);exact⟨⟨_,_,S,_,.inl (by simp[execOp,bE,hz]),cI,hc⟩,rfl⟩
     simp only[j4,Act.val.injEq]at h;obtain⟨_,rfl,rfl⟩:=h;obtain⟨z,ga,hz⟩:=Ha (w:=w) hT ht bg;obtain⟨cI,hc⟩:=OL hR hd (m:=k) (t:=el) (xs:=List.replicate k el.dflt) (cur:=z.cells) (e:=t) (by rw[ga];exact oh (.arr k el));exact⟨⟨_,_,S,_,.inl (by simp[execOp,bE,hz]),cI,hc⟩,rfl⟩
    .rename_i ty aT bg;simp only[j4,Act.val.injEq]at h;obtain⟨_,rfl,rfl⟩:=h;obtain⟨z,ga,hz⟩:=Ha (w:=w) hT ht bg;obtain⟨cI,hc⟩:=DK hR hd (ls:=mO ty) (cur:=z.cells) (e:=t) (by rw[ga];exact tq ty) (DV ga);exact⟨⟨_,_,S,_,.inl (by simp[execOp,bE,hz]),cI,hc⟩,rfl⟩
    .simp at h
   .simp at h
  .simp at h
 ·-- box
  rename_i t x bE;split at h
  .rename_i aR;have hd:=aL.free aR;have hx:=dL hR aN x;split at h
   .rename_i k el xs hc;simp only[j4,Act.val.injEq]at h;obtain⟨_,rfl,rfl⟩:=h;rw[hc]at hx;obtain⟨cs,hu,bk⟩:=hx;obtain⟨cI,fy⟩:=OL hR hd (m:=k) (t:=el) (xs:=xs) (cur:=(a.eval x).cells) (e:=t) (by rw[hu];exact bk);exact⟨⟨_,_,S,_,.inl (by simp[execOp,bE,OX]),cI,fy⟩,rfl⟩
   .split at h
    .rename_i ls Af;simp only[j4,Act.val.injEq]at h;obtain⟨_,rfl,rfl⟩:=h;obtain⟨hl,h1⟩:=xL Af hx;obtain⟨cI,fy⟩:=DK hR hd (ls:=ls) (cur:=(a.eval x).cells) (e:=t) hl h1;exact⟨⟨_,_,S,_,.inl (by simp[execOp,bE,OX]),cI,fy⟩,rfl⟩
    .simp at h
  .simp at h
 ·-- build
  rename_i t ps bE;have fM:=PH hR aN ps.toList;have pB:All2 (λp v=>p.1=v.1/\bz S w γ σ.bx p.2 v.2) (ps.toList.map λp=>(p.1,(σ.ev p.2).cel act)) (ps.map λp=>(p.1,a.eval p.2)).toList:=by simpa using fM
  split at h
  .rename_i ti ht;split at h
   .rename_i k el bg;split at h
    .rename_i D7;simp only[j4,Act.cel,Act.val.injEq]at h;obtain⟨_,rfl,rfl⟩:=h;obtain⟨v,az,hc⟩:=X9 (w:=w) (S:=S) (γ:=γ) (bx:=σ.bx) hT ht bg;have iU:ps = #[]:=by simp only[ja,List.isEmpty_iff]at D7;exact zb.1 D7.2
     subst iU;exact⟨jE hR (v:=v) (by simp[execOp,bE,az]) hc,rfl⟩
    split at h
    .rename_i xs u' hb;simp only[j4,Act.val.injEq]at h;obtain⟨_,rfl,rfl⟩:=h;obtain⟨v,S',az,cI,hc⟩:=X8 hT hR bu ht bg pB hb;exact⟨⟨v,w,S',γ,.inl (by simp[execOp,bE,az]),cI,hc⟩,rfl⟩
    .simp at h
   .rename_i ty aT bg;split at h
    .rename_i ma;split at h
     .rename_i ls hb;simp only[j4,Act.cel,Act.val.injEq]at h;obtain⟨_,rfl,rfl⟩:=h;obtain⟨v,az,hc⟩:=Xo hT ht bg ma pB hb;exact⟨jE hR (v:=v) (by simp[execOp,bE,az]) hc,rfl⟩
     .simp at h
    .simp at h
   .simp at h
  .simp at h
 ·-- buildSlice
  rename_i t len ps bE;have fM:=PH hR aN ps.toList;have pB:All2 (λp v=>p.1=v.1/\bz S w γ σ.bx p.2 v.2) (ps.toList.map λp=>(p.1,(σ.ev p.2).cel act)) (ps.map λp=>(p.1,a.eval p.2)).toList:=by simpa using fM
  split at h
  .rename_i ti ht;split at h
   .rename_i el bg;split at h
    .obtain⟨_,rfl,v',w',γ',az,cI,hc⟩:=XK hT hR ht bg aL.free pB h;exact⟨⟨v',w',S,γ',.inl (by simp[execOp,bE,az]),cI,hc⟩,rfl⟩
    split at h
    .simp at h
    .rename_i hlen;split at h
     .rename_i xs u' hb;split at h
      .rename_i aR;simp only[j4,Act.val.injEq]at h;obtain⟨_,rfl,rfl⟩:=h;obtain⟨v',w',S',γ',az,cI,hc⟩:=XJ hT hR bu ht bg (by omega) pB hb (aL.free aR);exact⟨⟨v',w',S',γ',.inl (by simp[execOp,bE,az]),cI,hc⟩,rfl⟩
      .simp at h
     .simp at h
   .simp at h
  .simp at h
 ·-- load
  rename_i t x bE;split at h
  .rename_i ti ht;split at h
   .rename_i m el ls pC;split at h
    .rename_i xs u' hg;split at h
     .rename_i hlen;simp only[j4,Act.val.injEq]at h;obtain⟨_,rfl,rfl⟩:=h;obtain⟨z,S',hz,cI,gq⟩:=Ya hT hR aL bu ht pC hg hlen (gp (dL hR aN x));exact⟨⟨z,w,S',γ,.inl (by simp[execOp,bE,hz]),cI,gq⟩,rfl⟩
     .simp at h
    .simp at h
   unfold oCel at h;split at h
   .rename_i c hc;simp only[j4,Act.cel,Act.val.injEq]at h;obtain⟨_,rfl,rfl⟩:=h;obtain⟨z,hz,gq⟩:=OG hT hR aL ht hc (gp (dL hR aN x));exact⟨jE hR (v:=z) (by simp[execOp,bE,hz]) gq,rfl⟩
   .simp at h
  .simp at h
 ·-- store
  rename_i t x y bE;split at h
  .rename_i ti ht;split at h
   .rename_i u' hu;simp only[j4,Act.val.injEq]at h;obtain⟨_,rfl,rfl⟩:=h;obtain⟨w',S',az,cI⟩:=Xf hT hR aL bu ht hu (gp (dL hR aN x)) (dL hR aN y);exact⟨⟨undef,w',S',γ,.inr ⟨by simp[execOp,bE,az],rfl⟩,cI,⟨trivial,λh=>absurd rfl h⟩⟩,rfl⟩
   .simp at h
  .simp at h
 ·-- nilCheck
  rename_i x bE;have hx:=dL hR aN x;split at h
  .rename_i k p hl;split at h
   .rename_i eR;simp only[j4,Act.leaf,Act.val.injEq]at h;obtain⟨_,rfl,rfl⟩:=h;rw[wb hl (by simp)]at hx;obtain⟨b,hb⟩:=zM eR;obtain⟨g,_,hu⟩:=hx.1.2.2 b (aL.live hb);exact⟨jE hR (v:=a.eval x) (by simp[execOp,bE,hu]) hx,rfl⟩
   .simp at h
  .rename_i k i p hl;split at h
   .rename_i eR;simp only[j4,Act.leaf,Act.val.injEq]at h;obtain⟨_,rfl,rfl⟩:=h;rw[wb hl (by simp)]at hx;obtain⟨b,hb⟩:=zM eR;have h3:=hx.1.2.2 b (aL.live hb)
    have hu:∃g o,a.eval x = .pointer (some ⟨g,o,none⟩):=by
     cases b with
     |cell ls f=>exact h3.elim
     |lst e t xs f=>obtain⟨_,_,g,cap,_,hu⟩:=h3;exact⟨_,_,hu⟩
     |arr n t xs=>obtain⟨_,g,_,hu⟩:=h3;exact⟨_,_,hu⟩
    obtain⟨g,Yc,hu⟩:=hu;exact⟨jE hR (v:=a.eval x) (by simp[execOp,bE,hu]) hx,rfl⟩
   .simp at h
  .rename_i ls hl;simp only[j4,Act.leaf,Act.val.injEq]at h;obtain⟨_,rfl,rfl⟩:=h;rw[wb hl (by simp)]at hx;obtain⟨g,Yc,cs,hu,_⟩:=hx.1;exact⟨jE hR (v:=a.eval x) (by simp[execOp,bE,hu]) hx,rfl⟩
  .simp at h
 ·-- binOp
  rename_i op t x y rest bE;unfold oChk at h;split at h
  .rename_i b c hc;simp only[j4,Act.val.injEq]at h;obtain⟨rfl,rfl,rfl⟩:=h;obtain⟨z,hz,hl,h1⟩:=WH (x:=x) (y:=y) hT hc (dL hR aN x) (dL hR aN y);refine⟨tH hR ?_ hl h1,rfl⟩;simp only[execOp,bE];rw[Sem.run_bind,hz];rfl
  .simp at h
 ·-- unOp
  rename_i op t x bE;unfold l5 at h;split at h
  .rename_i c hc;simp only[j4,Act.leaf,Act.val.injEq]at h;obtain⟨_,rfl,rfl⟩:=h;obtain⟨z,hz,hl,h1⟩:=WI hc (dL hR aN x);refine⟨tH hR ?_ hl h1,rfl⟩;simp only[execOp,bE];rw[Sem.run_bind,hz];rfl
  .simp at h
 ·-- convert
  rename_i src dst x bE;split at h
  .rename_i ts ti mu ht;split at h
   .rename_i k v k0 k' hl HM bg;simp only[j4,Act.leaf,Act.val.injEq]at h;obtain⟨_,rfl,rfl⟩:=h;have hx:=dL hR aN x;rw[wb hl (by simp)]at hx;have hu:=tg hx;have gl:=GQ hT ht bg;refine⟨tH hR (v:= .int k' (k'.wrap v)) ?_ rfl rfl,rfl⟩;have AE:=GQ hT mu HM;simp only[execOp,bE];rw[Sem.run_bind];have:(convert src dst (a.eval x)).run P w = .ok (.int k' (k'.wrap v)) w:=by simp only[hu,convert,Sem.run_bind,run_underlying AE,run_underlying gl,Result.andThen_ok];simp[Conv.intToInt]
    rw[this];rfl
   .simp at h
  .simp at h
 ·-- makeFunc
  rename_i f first caps bE
  split at h
  .rename_i gY;split at h
   .split at h
    .rename_i ks hl;simp only[j4,Act.val.injEq]at h;obtain⟨_,rfl,rfl⟩:=h;have cm:=D6 hR aN caps.toList;have AF:first = #[]:=by simpa using gY
     refine⟨⟨.func (.func f) #[] (caps.map a.eval),w,S,γ,.inl ?_,hR,⟨⟨_,rfl,by
      have:=Pa hl cm;rw[<-Array.toList_map]at this;exact this⟩,λ_=>rfl⟩⟩,rfl⟩
     simp[execOp,bE,AF,Instr.makeFunc]
    .simp at h
   split at h
   .rename_i l u' hl;simp only[j4,Act.val.injEq]at h;obtain⟨_,rfl,rfl⟩:=h;have cm:=D6 hR aN caps.toList;obtain⟨S',cI,_,cJ,_⟩:=O9 bu hl hR cm;have AF:first = #[]:=by simpa using gY
    refine⟨⟨.func (.func f) #[] (caps.map a.eval),w,S',γ,.inl ?_,cI,⟨⟨_,rfl,by simpa using cJ⟩,λ_=>rfl⟩⟩,rfl⟩;simp[execOp,bE,AF,Instr.makeFunc]
   .simp at h
  .simp at h
 ·-- fieldAddr
  rename_i t x i bE;split at h
  .rename_i ti ht;unfold l5 at h;split at h
   .rename_i c hc;simp only[j4,Act.leaf,Act.val.injEq]at h;obtain⟨_,rfl,rfl⟩:=h;obtain⟨z,hz,hl,h1⟩:=WT hT aL ht hc (gp (dL hR aN x));exact⟨tH hR (by simp[execOp,bE,hz]) hl h1,rfl⟩
   .simp at h
  .simp at h
 ·-- field
  rename_i t x i bE;split at h
  .rename_i ti ht;split at h
   .rename_i ls f hc hf;split at h
    .rename_i tf oV;unfold oCel at h;split at h
     .rename_i c bd;simp only[j4,Act.cel,Act.val.injEq]at h;obtain⟨_,rfl,rfl⟩:=h;have hx:=dL hR aN x;rw[hc]at hx;obtain⟨cs,hu,al,h1⟩:=hx;obtain⟨fs,gl,fl,eZ,jO,nF,tf',Yd,bG⟩:=Ot hT ht hf;rw[<-nF]at oV;have gu:=(al.drop fl.offset).take tf.size;have kJ:∀u∈(cs.toList.drop fl.offset).take tf.size,One u:=λu ea=>h1 u (qz (ky ea));rw[<-jO]at bd
      have oZ:∃z,(part fl.type cs fl.offset).run P w = .ok z w/\bz S w γ σ.bx c z:=by
       unfold ry at bd;split at bd
       .rename_i jG;split at bd
        .rename_i hlen;simp only[j4]at bd;subst bd;refine⟨.agg (cs.extract fl.offset (fl.offset+tf.size)),?_,_,rfl,?_,?_⟩
         .simp only[part,Sem.run_bind,xF hT oV,jG,Result.andThen_ok,if_true,gS hT oV,Sem.run_pure]
         .have:(cs.extract fl.offset (fl.offset+tf.size)).toList=(cs.toList.drop fl.offset).take tf.size:=by simp[List.take_drop]
          rw[this];exact gu
         .have:(cs.extract fl.offset (fl.offset+tf.size)).toList=(cs.toList.drop fl.offset).take tf.size:=by simp[List.take_drop]
          rw[this];exact kJ
        .simp at bd
       .rename_i jG;split at bd
        .rename_i l' mv;simp only[j4]at bd;subst bd;rw[mv]at gu;cases hq:(cs.toList.drop fl.offset).take tf.size with
         |nil=>rw[hq]at gu;exact gu.elim
         |cons z zs=>
          rw[hq]at gu kJ
          have hz:cs[fl.offset]? = some z:=by
           have:((cs.toList.drop fl.offset).take tf.size)[0]? = some z:=by rw[hq];rfl
           have:=DH this;simpa using this
          refine⟨z,?_,gu.1,λ_=>kJ z (by simp)⟩;simp only[part,Sem.run_bind,xF hT oV,Result.andThen_ok,if_neg jG,hz,Sem.run_pure]
        .simp at bd
      obtain⟨z,hz,gq⟩:=oZ;refine⟨jE hR (v:=z) ?_ gq,rfl⟩;simp only[execOp,bE,hu];rw[Sem.run_bind];have:(Instr.field t (.agg cs) i).run P w = .ok z w:=by simp only[Instr.field,Sem.run_bind,run_underlying gl,Result.andThen_ok,eZ,asAgg,Sem.run_pure,hz]
      rw[this];rfl
     .simp at h
    .simp at h
   .simp at h
  .simp at h
 ·-- indexAddr
  rename_i t x i bE;split at h
  .rename_i ti ht;unfold oChk at h;split at h
   .rename_i b c hc;simp only[j4,Act.val.injEq]at h;obtain⟨rfl,rfl,rfl⟩:=h;obtain⟨z,hz,hl,h1⟩:=WU hT hR aL ht hc (gp (dL hR aN x)) (gp (dL hR aN i));exact⟨tH hR (by simp[execOp,bE,hz]) hl h1,rfl⟩
   .simp at h
  .simp at h
 ·-- index
  rename_i t x i bE;split at h
  .rename_i ti ht;split at h
   .rename_i b c hc;simp only[j4,Act.val.injEq]at h;obtain⟨rfl,rfl,rfl⟩:=h;obtain⟨z,hz,gq⟩:=WW hT ht hc (dL hR aN x) (gp (dL hR aN i));exact⟨jE hR (v:=z) (by simp[execOp,bE,hz]) gq,rfl⟩
   .simp at h
  .simp at h
 ·-- makeMap
  rename_i t bE;split at h
  .rename_i k v ht;split at h
   .rename_i gC;simp only[j4,Act.val.injEq]at h;obtain⟨_,rfl,rfl⟩:=h;obtain⟨γ',az,cI,fy⟩:=X7 (P:=P) (t:=t) (k:=k) (v:=v) hR (aL.free gC);exact⟨⟨_,_,S,γ',.inl (by simp[execOp,bE,az]),cI,fy⟩,rfl⟩
   .simp at h
  .simp at h
 ·-- lookup
  rename_i t x i ok bE;split at h
  .rename_i k v ht;split at h
   .rename_i b ys q hm;obtain⟨z,hz,az⟩:=X2 hT hR gW ht hm (gp (dL hR aN x)) (gp (dL hR aN i));split at h
    .simp only[j4,Act.val.injEq]at h;obtain⟨_,rfl,rfl⟩:=h;have hr:=az true;simp only[if_true]at hr;refine⟨jE hR (v:= .tuple #[z,.bool (@eJ _ _ k.keq ys q)]) (by simp[execOp,bE,hr]) ?_,rfl⟩;exact⟨_,rfl,xR hz,⟨rfl,λ_=>rfl⟩,trivial⟩
    .simp only[j4,Act.cel,Act.val.injEq]at h;obtain⟨_,rfl,rfl⟩:=h;have hr:=az false;simp only[kn,qs]at hr;exact⟨jE hR (v:=z) (by simp[execOp,bE,hr]) (xR hz),rfl⟩
   .simp at h
  .simp at h
 ·-- mapUpdate
  rename_i t x i y bE;split at h
  .rename_i k v ht;split at h
   .rename_i b ys q z u' hm hd;simp only[j4,Act.val.injEq]at h;obtain⟨_,rfl,rfl⟩:=h;obtain⟨w',S',az,cI⟩:=X5 hT hR gW ht hm (gp (dL hR aN x)) (gp (dL hR aN i)) bu hd (dL hR aN y);exact⟨⟨undef,w',S',γ,.inr ⟨by simp[execOp,bE,az],rfl⟩,cI,⟨trivial,λh=>absurd rfl h⟩⟩,rfl⟩
   .simp at h
  .simp at h
 ·-- extract
  rename_i x i bE;split at h
  .rename_i l hl;split at h
   .rename_i c hc;simp only[j4,Act.cel,Act.val.injEq]at h;obtain⟨_,rfl,rfl⟩:=h;have hx:=mR hR x;rw[hl]at hx;obtain⟨vs,hu,al⟩:=hx;obtain⟨z,hz,gq⟩:=al.get i c hc;refine⟨jE hR (v:=z) ?_ gq,rfl⟩;have tJ:vs[i]? = some z:=by simpa using hz
    simp[execOp,bE,hu,Instr.extract,tJ]
   .simp at h
  .simp at h
 ·-- call
  rename_i cl bE;have cm:=D6 hR aN cl.args.toList;split at h
  ·-- len
   rename_i dj;split at h
   .rename_i x t fA mu;split at h
    .rename_i ti ht;unfold l5 at h;split at h
     .rename_i c hc;simp only[j4,Act.leaf,Act.val.injEq]at h;obtain⟨_,rfl,rfl⟩:=h;obtain⟨z,hz,hl,h1⟩:=WY (ty:=o.type) hT hR aL ht hc (gp (dL hR aN x));have e1:cl.args = #[x]:=by apply kq;simpa using fA
      have e2:cl.argTypes = #[t]:=by apply kq;simpa using mu
      refine⟨tH hR (v:=z) ?_ hl h1,rfl⟩;simp[execOp,bE,resolve,dj,invoke,builtin,e1,e2,hz]
     .simp at h
    .simp at h
   .simp at h
  ·-- min
   rename_i dj;unfold l5 at h;split at h
   .rename_i c hc;simp only[j4,Act.leaf,Act.val.injEq]at h;obtain⟨_,rfl,rfl⟩:=h;obtain⟨z,hz,hl,h1⟩:=WJ (P:=P) (ts:=cl.argTypes) (ty:=o.type) hc cm;refine⟨tH hR (v:=z) ?_ hl h1,rfl⟩;have e1:cl.args.map a.eval=(cl.args.toList.map a.eval).toArray:=by apply kq;simp
    simp[execOp,bE,resolve,dj,invoke,builtin,e1,hz]
   .simp at h
  ·-- max
   rename_i dj;unfold l5 at h;split at h
   .rename_i c hc;simp only[j4,Act.leaf,Act.val.injEq]at h;obtain⟨_,rfl,rfl⟩:=h;obtain⟨z,hz,hl,h1⟩:=WK (P:=P) (ts:=cl.argTypes) (ty:=o.type) hc cm;refine⟨tH hR (v:=z) ?_ hl h1,rfl⟩;have e1:cl.args.map a.eval=(cl.args.toList.map a.eval).toArray:=by apply kq;simp
    simp[execOp,bE,resolve,dj,invoke,builtin,e1,hz]
   .simp at h
  ·-- append
   rename_i dj;split at h
   .rename_i t t' s' x mu fA;split at h
    .rename_i wc;subst wc;split at h
     .rename_i ti ht;split at h
      .rename_i el bg;split at h
       .rename_i b' v' u' hh;simp only[j4,Act.val.injEq]at h;obtain⟨rfl,rfl,rfl⟩:=h;obtain⟨z,w',az,cI,hl,h1⟩:=XA (ty:=o.type) hT hR aL ht bg hh (gp (dL hR aN s')) (gp (dL hR aN x));have e1:cl.args = #[s',x]:=by apply kq;simpa using fA
        have e2:cl.argTypes = #[t,t]:=by apply kq;simpa using mu
        refine⟨⟨z,w',S,γ,.inl ?_,cI,hl,λ_=>h1⟩,rfl⟩;simp[execOp,bE,resolve,dj,invoke,builtin,e1,e2,az]
       split at h
       .rename_i v' u' hh;simp only[j4,Act.val.injEq]at h;obtain⟨_,rfl,rfl⟩:=h;obtain⟨z,w',γ',az,cI,hl,h1⟩:=XE (ty:=o.type) hT hR aL bu ht bg hh (gp (dL hR aN s')) (gp (dL hR aN x));have e1:cl.args = #[s',x]:=by apply kq;simpa using fA
        have e2:cl.argTypes = #[t,t]:=by apply kq;simpa using mu
        refine⟨⟨z,w',S,γ',.inl ?_,cI,hl,λ_=>h1⟩,rfl⟩;simp[execOp,bE,resolve,dj,invoke,builtin,e1,e2,az]
       split at h
       .rename_i xs frz u' ys hs hx;split at h
        .rename_i aR;simp only[j4,Act.val.injEq,jk]at h;obtain⟨eD,rfl,rfl⟩:=h;obtain⟨v',w',S',γ',az,cI,fy⟩:=Xk (ty:=o.type) hT hR aL bu ht bg hs hx (aL.free aR) eD (gp (dL hR aN s')) (gp (dL hR aN x));have e1:cl.args = #[s',x]:=by apply kq;simpa using fA
         have e2:cl.argTypes = #[t,t]:=by apply kq;simpa using mu
         refine⟨⟨v',w',S',γ',.inl ?_,cI,fy⟩,rfl⟩;simp[execOp,bE,resolve,dj,invoke,builtin,e1,e2,az]
        .simp at h
       .simp at h
      .simp at h
     .simp at h
    .simp at h
   .simp at h
  ·-- value
   split at h
   .split at h
    .split at h
     .simp at h
     .simp at h
    .simp at h
   .split at h
    .split at h
     .simp at h
     .simp at h
    .simp at h
   .simp at h
  ·-- copy
   rename_i dj;split at h
   .rename_i t t' x y mu fA;split at h
    .rename_i wc;subst wc;split at h
     .rename_i ti ht;split at h
      .rename_i c u' hc;simp only[j4,Act.val.injEq]at h;obtain⟨_,rfl,rfl⟩:=h;obtain⟨v',w',az,cI,fy⟩:=Xx (ty:=o.type) hT hR aL ht hc (gp (dL hR aN x)) (gp (dL hR aN y));have e1:cl.args = #[x,y]:=by apply kq;simpa using fA
       have e2:cl.argTypes = #[t,t]:=by apply kq;simpa using mu
       refine⟨⟨v',w',S,γ,.inl ?_,cI,fy⟩,rfl⟩;simp[execOp,bE,resolve,dj,invoke,builtin,e1,e2,az]
      .simp at h
     .simp at h
    .simp at h
   .simp at h
  ·-- clear
   rename_i dj;split at h
   .rename_i t x mu fA;split at h
    .rename_i ti ht;split at h
     .rename_i u' hc;simp only[j4,Act.val.injEq]at h;obtain⟨_,rfl,rfl⟩:=h;obtain⟨v',w',az,cI⟩:=Xy (ty:=o.type) hT hR aL ht hc (gp (dL hR aN x));have e1:cl.args = #[x]:=by apply kq;simpa using fA
      have e2:cl.argTypes = #[t]:=by apply kq;simpa using mu
      refine⟨⟨v',w',S,γ,.inl ?_,cI,⟨trivial,λh=>absurd rfl h⟩⟩,rfl⟩;simp[execOp,bE,resolve,dj,invoke,builtin,e1,e2,az]
     .simp at h
    .simp at h
   .simp at h
  .simp at h
 ·-- slice
  rename_i t x lo hi bE;split at h
  .rename_i ti ht;split at h
   .rename_i b c u' hc;simp only[j4,Act.val.injEq]at h;obtain⟨rfl,rfl,rfl⟩:=h
    have ho:∀y:Option Operand,ORep (bn S w γ σ.bx) (y.map λx=>lf ((σ.ev x).cel act)) (y.map a.eval):=by
     intro y;cases y with
     |none=>trivial
     |some y=>exact gp (dL hR aN y)
    obtain⟨v',S',γ',az,cI,fy⟩:=Xs hT hR aL ht (λk hk=>aL.free hk) hc (gp (dL hR aN x)) (ho lo) (ho hi);refine⟨⟨v',w,S',γ',.inl ?_,cI,fy⟩,rfl⟩;simp[execOp,bE,az]
   .simp at h
  .simp at h
 ·-- slice with a capacity
  rename_i t x lo hi mx bE;split at h
  .rename_i ti ht;split at h
   .rename_i b hc;simp only[j4,Act.val.injEq]at h;obtain⟨rfl,rfl,rfl⟩:=h
    have ho:∀y:Option Operand,ORep (bn S w γ σ.bx) (y.map λx=>lf ((σ.ev x).cel act)) (y.map a.eval):=by
     intro y;cases y with
     |none=>trivial
     |some y=>exact gp (dL hR aN y)
    obtain⟨v',az⟩:=Xw hT hR aL ht hc (gp (dL hR aN x)) (ho lo) (ho hi) (gp (dL hR aN mx));refine⟨⟨v',w,S,γ,.inl ?_,hR,⟨trivial,λh=>absurd rfl h⟩⟩,rfl⟩;simp[execOp,bE,az]
   .simp at h
  .simp at h
 .simp at h
theorem PI{P:Program}{E:Env}(hR:Rel N E.np S0 w0 refs σ a w S γ){act:List (Nat×Bool)}(aN:oW (tm a) act){rw:Nat->BS}(gW:RdR σ rw)
  {o:Oper}{f:Nat}{args:List Arg}{mk:Ret->Option (Slot×Ups)}(h:dC E σ.ev rw act o=some (.call f args mk))(hf:Fun P f){K:Ret->Prop}(dV:D1 P f args K) :
  ∃vals,(execOp a.eval o).run P w = .ok (.enter f vals) w/\
   (Calls P f vals w λe w'=>∃ret,K ret/\∀s u,mk ret=some (s,u)->∃v S' γ',e = .returned v/\Rel N E.np S0 w0 refs (σ.upd u) a w' S' γ'/\gI S' w' γ' (σ.upd u).bx (tm a) s v)/\
   ∀ret s u,mk ret=some (s,u)->s.bare=true:=by
 have aL:RdOk σ (mskM rw):=gW.msk;have bu:=xX (np:=E.np) aL;unfold dC at h;dsimp only at h;split at h
 case h_23 cl bE=>
  have cm:=D6 hR aN cl.args.toList;split at h
  case h_5 x dj=>
   split at h
   .rename_i g caps hl;split at h
    .rename_i as us fs has;split at h
     .rename_i br;simp only[j4,Act.call.injEq]at h;obtain⟨rfl,rfl,rfl⟩:=h;have hx:=dL hR aN x;rw[wb hl (by simp)]at hx;obtain⟨cv,hu,lP⟩:=hx.1;refine⟨_,D4 hf bE dj hu,?_,?_⟩
      .have:=Pu hR gW aL bu has cm br lP dV ((o.dst.getD 0)*64);have e1:(cl.args.toList.map a.eval++cv.toList).toArray=cl.args.map a.eval++cv:=by apply kq;simp
       rwa[e1]at this
      .intro ret s u bd;unfold rD at bd;split at bd
       .unfold mkHd at bd;split at bd
        .split at bd
         .split at bd
          .simp only[j4,j8]at bd;rw[<-bd.1];rfl
          .simp at bd
         .simp at bd
        .simp at bd
       .unfold yS at bd;split at bd
        .split at bd
         .simp only[j4,j8]at bd;rw[<-bd.1];exact PG _
         .simp at bd
        .simp at bd
       split at bd
       .split at bd
        .split at bd
         .revert bd;dsimp only;split<;>(intro bd;simp only[j4,j8]at bd;rw[<-bd.1];rfl)
         .simp at bd
        .simp at bd
       .simp at bd
     .simp at h
    .simp at h
   .rename_i g ks hl;split at h
    .rename_i as us fs has;split at h
     .rename_i br;simp only[j4,Act.call.injEq]at h;obtain⟨rfl,rfl,rfl⟩:=h;have hx:=dL hR aN x;rw[wb hl (by simp)]at hx;obtain⟨cv,hu,lP⟩:=hx.1;refine⟨_,D4 hf bE dj hu,?_,?_⟩
      .have:=Pu hR gW aL bu has (cm.append (Pb lP)) br (caps:=[]) (cv:=[]) trivial (by simpa using dV) ((o.dst.getD 0)*64);have e1:((cl.args.toList.map a.eval++cv.toList)++[]).toArray=cl.args.map a.eval++cv:=by apply kq;simp
       rwa[e1]at this
      .intro ret s u bd;unfold rD at bd;split at bd
       .unfold mkHd at bd;split at bd
        .split at bd
         .split at bd
          .simp only[j4,j8]at bd;rw[<-bd.1];rfl
          .simp at bd
         .simp at bd
        .simp at bd
       .unfold yS at bd;split at bd
        .split at bd
         .simp only[j4,j8]at bd;rw[<-bd.1];exact PG _
         .simp at bd
        .simp at bd
       split at bd
       .split at bd
        .split at bd
         .revert bd;dsimp only;split<;>(intro bd;simp only[j4,j8]at bd;rw[<-bd.1];rfl)
         .simp at bd
        .simp at bd
       .simp at bd
     .simp at h
    .simp at h
   .simp at h
  all_goals (first|(simp at h;done)|skip)
  all_goals (exfalso;revert h;try simp only[l5])
  all_goals (repeat' split)
  all_goals simp[Act.leaf]
 all_goals (first|(simp at h;done)|skip)
 all_goals (repeat' (first|(simp at h;done)|(exact absurd h Yb)|split at h))<;>simp_all[l5,oCel,oChk,Act.leaf,Act.cel]
 all_goals (repeat' (split at h))<;>simp_all
end
end Go.Lft
