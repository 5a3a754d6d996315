/- New variables; HQ Y7 variables. -/
import Derived.Test.YtaieocafhcjelaaGreatCLA
import Derived.MapKept
set_option linter.unusedVariables false
namespace Go.Lft
section
variable{N:NT}{np:Nat}{S0:aP}{w0:World}{refs:Refs}{σ:St}{a:Go.Act}{w:World}{S:aP}{γ:Nat->Value}
def gset(γ:Nat->Value)(n:Nat)(v:Value):Nat->Value:=λk=>if k=n then v else γ k
theorem fv(γ:Nat->Value)(n:Nat)(v:Value):gset γ n v n=v:=by simp[gset]
theorem gl(γ:Nat->Value){n k:Nat}(v:Value)(h:k≠n):gset γ n v k=γ k:=by simp[gset,h]
theorem yC(hR:Rel N np S0 w0 refs σ a w S γ)(o:Obj):dg S w S (w.alloc o):=
 λg i h=>⟨h,World.cell?_alloc_lt w o ⟨g,i,none⟩ (hR.here g i h)⟩
theorem lU{bx:Nat->BS}{k:Nat}{b:Bx}(h:eF S w γ bx k b){g:Nat}(hg:blk (γ k)=some g):g<w.heap.size:=by
 cases b with
 |cell ls frz=>obtain⟨g',cur,e,h1,h2,_⟩:=h;rw[h1]at hg;simp[blk]at hg;subst hg;exact(jk.1 h2).1
 |lst e t xs frz=>exact h.1.lt hg
 |arr n t xs=>obtain⟨g',cur,e,h1,h2,_⟩:=h;rw[h1]at hg;simp[blk]at hg;subst hg;exact(jk.1 h2).1
theorem HR(hR:Rel N np S0 w0 refs σ a w S γ){n:Nat}(hn:σ.bx n = .free){o:Obj}{b:Bx}{v:Value}(hv:∀g,blk v=some g->g=w.heap.size)
  (hb:BxLe γ σ.bx (gset γ n v) (σ.setB n (.live b)).bx->eF S (w.alloc o) (gset γ n v) (σ.setB n (.live b)).bx n b) :
  Rel N np S0 w0 refs (σ.setB n (.live b)) a (w.alloc o) S (gset γ n v)/\BxLe γ σ.bx (gset γ n v) (σ.setB n (.live b)).bx:=by
 have hle:BxLe γ σ.bx (gset γ n v) (σ.setB n (.live b)).bx:=by
  intro k hk;have bq:k≠n:=by rintro rfl;exact hk hn
  rw[cJ σ _ bq,gl γ v bq];exact⟨hk,rfl,λb hb=>⟨b,hb,.refl b⟩⟩
 have aM:=yC hR o
 refine⟨Rel.step (bx':=(σ.setB n (.live b)).bx) hR aM hle ?_ ?_ ?_ hR.new ?_ ?_ ?_ hR.os hR.tape hR.output (λg hg _ h=>⟨heap_alloc_old w o hg,λk b' aW dr=>by
  by_cases hk:k=n
  .subst hk;rw[fv]at dr;have:=hv g dr;omega
  .rw[cJ σ _ hk]at aW;rw[gl γ v hk]at dr;exact h k b' aW dr⟩),hle⟩
 .intro k b' aW;by_cases hk:k=n
  .subst hk;rw[gj]at aW;simp at aW;subst aW;exact hb hle
  .rw[cJ σ _ hk]at aW;refine eF.keep aM hle (gl γ v hk) (λg hg=>⟨?_,λ_=>Iff.rfl⟩) (hR.box k b' aW);exact heap_alloc_old w o (lU (hR.box k b' aW) hg)
 .intro k b' g aW hg;by_cases hk:k=n
  .subst hk;rw[fv]at hg;exact .inl (by rw[hv g hg];exact hR.grow)
  .rw[cJ σ _ hk]at aW;rw[gl γ v hk]at hg;exact hR.own k b' g aW hg
 .intro k k' b1 b2 g bq h1 h2 hg aC;by_cases hk:k=n
  .subst hk;have br:k'≠k:=λh=>bq h.symm;rw[fv]at hg;rw[cJ σ _ br]at h2;rw[gl γ v br]at aC;have:=lU (hR.box k' b2 h2) aC;rw[hv g hg]at this;omega
  .by_cases br:k'=n
   .subst br;rw[fv]at aC;rw[cJ σ _ hk]at h1;rw[gl γ v hk]at hg;have:=lU (hR.box k b1 h1) hg;rw[hv g aC]at this;omega
   .rw[cJ σ _ hk]at h1;rw[cJ σ _ br]at h2;rw[gl γ v hk]at hg;rw[gl γ v br]at aC;exact hR.apart k k' b1 b2 g bq h1 h2 hg aC
 .intro g i h;have:=hR.here g i h;simp;omega
 .intro g hg hr;rw[heap_alloc_old w o (by have:=hR.grow;omega)];exact hR.below g hg hr
 .have:=hR.grow;simp;omega
theorem EJ(hR:Rel N np S0 w0 refs σ a w S γ)(o:Nat):¬S w.heap.size o:=λh=>by have:=hR.here _ _ h;omega
theorem HS(hR:Rel N np S0 w0 refs σ a w S γ){n:Nat}(hn:σ.bx n = .free){ls:List Leaf}{cur:Array Value}{e:TypeId}
  (hl:All2 (bY S w γ σ.bx) ls cur.toList)(h1:∀u∈cur.toList,One u) :
  Rel N np S0 w0 refs (σ.setB n (.live (.cell ls false))) a (w.alloc (.cells cur e)) S (gset γ n (.pointer (some ⟨w.heap.size,0,none⟩)))/\
   bR S (w.alloc (.cells cur e)) (gset γ n (.pointer (some ⟨w.heap.size,0,none⟩))) (σ.setB n (.live (.cell ls false))).bx (.one (.bp n 0)) (.pointer (some ⟨w.heap.size,0,none⟩)):=by
 obtain⟨h,hle⟩:=HR hR hn (o:= .cells cur e) (b:= .cell ls false) (v:= .pointer (some ⟨w.heap.size,0,none⟩)) (λg hg=>by simp[blk]at hg;exact hg.symm) (λhle=>
  ⟨w.heap.size,cur,e,fv _ _ _,heap_alloc_new w _,hl.mono (λx u hx=>bY.keep (yC hR _) hle hx),h1,λ_ o=>EJ hR o,by simp⟩)
 refine⟨h,⟨by rw[gj];simp,rfl,λb _=>⟨w.heap.size,fv _ _ _,rfl⟩⟩,λ_=>rfl⟩
theorem PG(hR:Rel N np S0 w0 refs σ a w S γ){n m:Nat}(hn:σ.bx n = .free){t:Ty}{xs:List t.den}{cur:Array Value}{e:TypeId}
  (hl:Rep S w (.arr m t) xs cur.toList) :
  Rel N np S0 w0 refs (σ.setB n (.live (.arr m t xs))) a (w.alloc (.cells cur e)) S (gset γ n (.pointer (some ⟨w.heap.size,0,none⟩)))/\
   bR S (w.alloc (.cells cur e)) (gset γ n (.pointer (some ⟨w.heap.size,0,none⟩))) (σ.setB n (.live (.arr m t xs))).bx (.one (.bp n 0)) (.pointer (some ⟨w.heap.size,0,none⟩)):=by
 obtain⟨h,hle⟩:=HR hR hn (o:= .cells cur e) (b:= .arr m t xs) (v:= .pointer (some ⟨w.heap.size,0,none⟩)) (λg hg=>by simp[blk]at hg;exact hg.symm) (λ_=>
  ⟨w.heap.size,cur,e,fv _ _ _,heap_alloc_new w _,Rep.keep (yC hR _) _ _ _ hl,λo=>EJ hR o⟩)
 refine⟨h,⟨by rw[gj];simp,rfl,λb _=>⟨w.heap.size,fv _ _ _,rfl⟩⟩,λ_=>rfl⟩
theorem tK{bx:Nat->BS}:∀(t:Ty),All2 (bY S w γ bx) (mE t) (iD t)
 |.int _=>⟨rfl,trivial⟩
 |.bool=>⟨rfl,trivial⟩
 |.str=>⟨rfl,trivial⟩
 |.unit=>trivial
 |.wrap a=>tK a
 |.pair a b=>(tK a).append (tK b)
 |.list _=>⟨rfl,trivial⟩
 |.arr n a=>by
  show All2 _ ((List.range n).flatMap λ_=>mE a) ((List.replicate n (iD a)).flatten);induction n with
  |zero=>simp[All2]
  |succ n ih=>rw[List.range_succ,List.flatMap_append,List.replicate_succ',vj];refine ih.append ?_;simpa using tK a
theorem ow:∀(t:Ty),Rep S w t t.dflt (iD t)
 |.int _=>rfl
 |.bool=>rfl
 |.str=>rfl
 |.unit=>rfl
 |.wrap a=>ow a
 |.pair a b=>⟨_,_,rfl,ow a,ow b⟩
 |.list _=>⟨none,0,rfl,jl _,by simp[maxLen],λ_=>rfl,λb hb=>by simp at hb⟩
 |.arr n a=>by
  refine⟨List.length_replicate,List.replicate n (iD a),?_,rfl⟩;have hz:=ow a
  have:∀n,All2 (λx c=>Rep S w a x c) (List.replicate n a.dflt) (List.replicate n (iD a)):=by
   intro n;induction n with
   |zero=>exact trivial
   |succ n ih=>exact⟨hz,ih⟩
  exact this n
theorem Bn(hR:Rel N np S0 w0 refs σ a w S γ){k:Nat}{b b':Bx}(hk:σ.bx k = .live b){g:Nat}(hg:blk (γ k)=some g)(hS:∀o,¬S g o)(ot:iC b b')
  {old new:Array Value}{e:TypeId}(hh:w.heap[g]? = some (.cells old e (0,0)))
  (hb:BxLe γ σ.bx γ (σ.setB k (.live b')).bx->dg S w S (w.setRow g new)->eF S (w.setRow g new) γ (σ.setB k (.live b')).bx k b') :
  Rel N np S0 w0 refs (σ.setB k (.live b')) a (w.setRow g new) S γ:=by
 have hle:BxLe γ σ.bx γ (σ.setB k (.live b')).bx:=by
  intro k' br;by_cases cg:k'=k
  .subst cg;rw[gj];exact⟨by simp,rfl,λb1 dJ=>by simp at dJ;subst dJ;exact⟨b,hk,ot⟩⟩
  .rw[cJ σ _ cg];exact⟨br,rfl,λb hb=>⟨b,hb,.refl b⟩⟩
 have aM:dg S w S (w.setRow g new):=by
  intro g' o h;refine⟨h,cell_setRow_other w g new ⟨g',o,none⟩ ?_⟩
  rintro rfl
  exact hS o h
 have bC:∀k' b1,(σ.setB k (.live b')).bx k' = .live b1->∃b2,σ.bx k' = .live b2:=by
  intro k' b1 h1;by_cases cg:k'=k
  .subst cg;exact⟨b,hk⟩
  .rw[cJ σ _ cg]at h1;exact⟨b1,h1⟩
 have aA:=(jk.1 hh).1
 refine Rel.step (bx':=(σ.setB k (.live b')).bx) hR aM hle ?_ ?_ ?_ hR.new ?_ ?_ ?_ hR.os hR.tape hR.output (λg' _ _ h=>⟨setRow_other w g g' new (λe=>h k b hk (e▸hg)),λk' b1 h1=>by
  obtain⟨b2,h2⟩:=bC k' b1 h1;exact h k' b2 h2⟩)
 .intro k' b1 h1;by_cases cg:k'=k
  .subst cg;rw[gj]at h1;simp at h1;subst h1;exact hb hle aM
  .rw[cJ σ _ cg]at h1;refine eF.keep aM hle rfl (λg' aC=>⟨?_,λ_=>Iff.rfl⟩) (hR.box k' b1 h1);exact setRow_other w g g' new (λh=>hR.apart k' k b1 b g cg h1 hk (h▸aC) hg)
 .intro k' b1 g' h1 aC;obtain⟨b2,h2⟩:=bC k' b1 h1;exact hR.own k' b2 g' h2 aC
 .intro k1 k2 b1 b2 g' bq h1 h2 aC;obtain⟨rS,kG⟩:=bC k1 b1 h1;obtain⟨rT,jV⟩:=bC k2 b2 h2;exact hR.apart k1 k2 rS rT g' bq kG jV aC
 .intro g' o h;rw[size_setRow];exact hR.here g' o h
 .intro g' aC hr;rw[setRow_other w g g' new ?_]
  .exact hR.below g' aC hr
  .rintro rfl
   rcases hR.own k b _ hk hg with h|h
   .omega
   .exact hr h.1
 .rw[size_setRow];exact hR.grow
theorem EK{R:Leaf->Value->Prop}{ls new:List Leaf}{cs zs:List Value}{c:Nat}(h:All2 R ls cs)(h':All2 R new zs) :
  All2 R (vF ls c new) (cs.take c++zs++cs.drop (c+zs.length)):=by
 unfold vF;rw[h'.length];exact((h.take c).append h').append (h.drop _)
theorem Bo{bx:Nat->BS}{c:Cel}{ls:List Leaf}{z:Value}(h:c.leaves=some ls)(hc:bR S w γ bx c z) :
  All2 (bY S w γ bx) ls z.cells.toList/\∀u∈z.cells.toList,One u:=by
 unfold Cel.leaves at h;split at h
 .simp at h
 .rename_i l hd;simp at h;subst h;have h1:=hc.2 hd;rw[yB h1];exact⟨⟨hc.1,trivial⟩,λu hu=>by simp at hu;subst hu;exact h1⟩
 .simp at h;subst h;obtain⟨cs,rfl,ha,h1⟩:=hc;exact⟨ha,h1⟩
 .simp at h
end
theorem vW{m:Nat}:∀{l:List (List Value)},(∀c∈l,c.length=m)->l.flatten.length=l.length*m
 |[],_=>by simp
 |c::l,h=>by
  have h1:=h c (by simp);have h2:=vW (l:=l) (λd hd=>h d (List.mem_cons_of_mem _ hd));simp only[kz,ja,jm,Nat.add_mul,Nat.one_mul];omega
section
variable{N:NT}{np:Nat}{S0:aP}{w0:World}{refs:Refs}{σ:St}{a:Go.Act}{w:World}{S:aP}{γ:Nat->Value}
theorem lV:∀(u:Ups)(σ:St){k:Nat},u.any (λy=>y.1==k)=false->(σ.upd u).bx k=σ.bx k
 |[],_,_,_=>rfl
 |e::u,σ,k,h=>by
  simp only[List.any_cons,Bool.or_eq_false_iff,beq_eq_false_iff_ne]at h;show ((σ.setB e.1 e.2).upd u).bx k=_;rw[lV u _ h.2,cJ σ _ (λhh=>h.1 hh.symm)]
theorem All2.all_len{t:Ty}{xs:List t.den}{css:List (List Value)}(h:All2 (λx c=>Rep S w t x c) xs css):∀c∈css,c.length=t.size:=by
 intro c hc;obtain⟨x,_,hx⟩:=h.mem_right c hc;exact Rep.length _ _ _ hx
theorem HT{cur:List Value}{css:List (List Value)}{m n i c:Nat}{ci zs:List Value}(hm:∀c∈css,c.length=m)(hn:css.length=n)(eH:cur.take (n*m)=css.flatten)
  (hi:css[i]? = some ci)(hc:c+zs.length<=m) :
  (cur.take (i*m+c)++zs++cur.drop (i*m+c+zs.length)).take (n*m)=(css.set i (ci.take c++zs++ci.drop (c+zs.length))).flatten:=by
 have aA:i<css.length:=(ju.1 hi).1;have lW:css[i]=ci:=(ju.1 hi).2;have ei:ci.length=m:=hm ci (jz hi);obtain⟨A,B,hA,hB,EL⟩:∃A B:List (List Value),A.length=i/\A.length+1+B.length=n/\css=A++ci::B:=by refine⟨css.take i,css.drop (i+1),by simp;omega,by simp;omega,?_⟩;rw[<-lW,List.getElem_cons_drop aA,kf]
 have Y8:∀c∈A,c.length=m:=λd hd=>hm d (by rw[EL];simp[hd]);have Y9:∀c∈B,c.length=m:=λd hd=>hm d (by rw[EL];simp[hd]);have lA:A.flatten.length=i*m:=by rw[vW Y8,hA]
 have lB:=vW Y9;have vX:css.set i (ci.take c++zs++ci.drop (c+zs.length))=A++(ci.take c++zs++ci.drop (c+zs.length))::B:=by rw[EL,zd _ _ (by omega),hA,Nat.sub_self,List.set_cons_zero]
 have Bp:cur=A.flatten++(ci++(B.flatten++cur.drop (n*m))):=by have:=kf (n*m) cur;rw[eH,EL,vj,kz]at this;rw[<-jd ci,<-jd];exact this.symm
 have cE:ci=ci.take c++((ci.drop c).take zs.length++ci.drop (c+zs.length)):=by have h1:=kf c ci;have h2:=kf zs.length (ci.drop c);rw[List.drop_drop]at h2;rw[h2,h1]
 have lp:(ci.take c).length=c:=by simp;omega
 have lq:((ci.drop c).take zs.length).length=zs.length:=by simp;omega
 have lr:(ci.drop (c+zs.length)).length=m-(c+zs.length):=by simp[ei]
 generalize ci.take c=p at *
 generalize (ci.drop c).take zs.length=q at *
 generalize ci.drop (c+zs.length)=r at *
 generalize cur.drop (n*m)=tl at *
 have e1:cur.take (i*m+c)=A.flatten++p:=by rw[Bp,cE];simp only[<-jd];rw[jd,jd,jd];exact List.take_left' (by simp[lA,lp])
 have e2:cur.drop (i*m+c+zs.length)=r++(B.flatten++tl):=by
  rw[Bp,cE];have:A.flatten++(p++(q++r)++(B.flatten++tl))=(A.flatten++p++q)++(r++(B.flatten++tl)):=by simp
  rw[this];exact List.drop_left' (by simp[lA,lp,lq];omega)
 rw[e1,e2,vX,vj,kz];have:A.flatten++p++zs++(r++(B.flatten++tl))=(A.flatten++(p++zs++r++B.flatten))++tl:=by simp
 rw[this];refine List.take_left' ?_;simp only[ja,lA,lp,lr,lB];have:n*m=i*m+m+B.length*m:=by rw[<-hB,hA,Nat.add_mul,Nat.add_mul,Nat.one_mul]
 omega
theorem EM{P:Program}{T:Nat->Option TyI}(hT:cH P T){t:TypeId}{ti:TyI}(ht:T t=some ti){g o:Nat}{z:Value}{cur:Array Value}{e:TypeId}
  (hh:w.heap[g]? = some (.cells cur e (0,0)))(hs:z.cells.toList.length=ti.size)(hl:o+z.cells.toList.length<=cur.size)(h1:∀u∈z.cells.toList,One u) :
  (Instr.storeAt t (.pointer (some ⟨g,o,none⟩)) z).run P w = .ok () (w.setRow g (cur.toList.take o++z.cells.toList++cur.toList.drop (o+z.cells.toList.length)).toArray):=by
 have aM:=run_storeCells_at P g o e z.cells.toList 0 cur w hh (by simpa using hl) h1;simp only[Nat.add_zero]at aM;have bq:¬z.cells.size≠ti.size:=by simpa using hs
 simp only[Instr.storeAt,Sem.run_bind,Instr.sureAddr,Sem.run_pure,Result.andThen_ok,storeVar,iV hT ht,Sem.run_ite,if_neg bq,aM]
theorem Za{P:Program}{E:Env}(hT:cH P E.T)(hR:Rel N np S0 w0 refs σ a w S γ){rd rdf:Nat->BS}(aZ:RdOk σ rd)(bH:RdF np σ rdf){t:TypeId}{ti:TyI}(ht:E.T t=some ti)
  {x:Leaf}{val:Cel}{u:Ups}{ux z:Value}(h:tw rd rdf ti.size val x=some u)(hx:bY S w γ σ.bx x ux)(hz:bR S w γ σ.bx val z) :
  ∃w' S',(Instr.storeAt t ux z).run P w = .ok () w'/\Rel N np S0 w0 refs (σ.upd u) a w' S' γ:=by
 unfold tw at h;split at h
 .rename_i k c;split at h
  .rename_i ls hk;have hk:=aZ.live hk;split at h
   .rename_i new dM;split at h
    .rename_i hc;simp only[j4]at h;subst h;obtain⟨cp,hle⟩:=hc;obtain⟨ha,h1⟩:=Bo dM hz;obtain⟨g,hg,hu⟩:=hx.2.2 _ hk;obtain⟨g',cur,e,aC,hh,eH,fi,hS,_⟩:=hR.box k _ hk;rw[hg]at aC;simp at aC;subst aC;subst hu;have hlen:=ha.length;have tL:=eH.length;simp at tL;refine⟨_,S,EM hT ht hh (by omega) (by simp at hlen ⊢;omega) h1,?_⟩;refine Bn hR hk (by rw[hg];rfl) (hS rfl) (b':= .cell (vF ls c new) false) trivial hh (λhle aM=>?_);refine⟨g,_,e,hg,setRow_heap w g cur _ e (0,0) hh,?_,?_,λ_=>hS rfl,by simp⟩
     .have:=EK (c:=c) (eH.mono (λx u hx=>bY.keep aM hle hx)) (ha.mono (λx u hx=>bY.keep aM hle hx));simpa using this
     .intro v hv;simp only[jn]at hv;rcases hv with (hv|hv)|hv
      .exact fi v (qg hv)
      .exact h1 v hv
      .exact fi v (zj hv)
    .simp at h
   .simp at h
  .rename_i n el xs hk;have hk:=aZ.live hk;split at h
   .rename_i iG;subst iG;split at h
    .rename_i n' a' ys;split at h
     .rename_i Hs iF;split at h
      .rename_i cp;simp only[j4]at h;subst h;have rX:=lR iF;simp only[TV.mk.injEq,Ty.arr.injEq]at rX;obtain⟨⟨rfl,rfl⟩,rX⟩:=rX;obtain rfl:=eq_of_heq rX;obtain⟨cs,rfl,hr⟩:=hz;obtain⟨g,hg,hu⟩:=hx.2.2 _ hk;obtain⟨g',cur,e,aC,hh,bA,hS⟩:=hR.box k _ hk;rw[hg]at aC;simp at aC;subst aC;subst hu;have mF:=Rep.length _ _ _ hr;have rf:=Rep.length _ _ _ bA;have e1:(Value.agg cs).cells.toList=cs.toList:=rfl;refine⟨_,S,EM hT ht hh (by rw[e1,mF,cp];rfl) (by rw[e1,mF,<-rf];simp) (by rw[e1];exact Rep.one _ _ _ hr),?_⟩;refine Bn hR hk (by rw[hg];rfl) hS (b':= .arr _ _ _) ⟨rfl,rfl⟩ hh (λhle aM=>?_);refine⟨g,_,e,hg,setRow_heap w g cur _ e (0,0) hh,?_,hS⟩;have hd:cur.toList.drop (0+cs.toList.length)=[]:=jf (by rw[mF,rf];omega);have hX:(cur.toList.take 0++(Value.agg cs).cells.toList++cur.toList.drop (0+(Value.agg cs).cells.toList.length)).toArray.toList=cs.toList:=by rw[e1,hd];simp
       rw[hX];exact Rep.keep aM _ _ _ hr
      .simp at h
     .simp at h
    .simp at h
   .simp at h
  .simp at h
 .rename_i k i c;split at h
  .rename_i el at_ xs hk;have cd:=aZ.nm hk;have hk:=aZ.live hk;split at h
   .rename_i new dM;split at h
    .rename_i hc;obtain⟨cp,hle⟩:=hc;split at h
     .rename_i en u1 HU;split at h
      .simp at h
      .rename_i rY;simp only[j4]at h;subst h;obtain⟨ha,h1⟩:=Bo dM hz;have hlen:=ha.length;have rZ:z.cells.toList.length=z.cells.size:=qe;obtain⟨_,hi,g,cap,hg,hu⟩:=hx.2.2 _ hk;obtain⟨css,aX,aB,hSk⟩:=ie cd (hR.box k _ hk);rcases aX.2 with⟨_,h0⟩|⟨g',gL,cur,aC,eE,hh,jU,jT,dL,ec⟩
       .omega
       rw[hg]at aC;simp at aC;obtain⟨rfl,rfl⟩:=aC;subst hu;obtain⟨ci,lW,bA,db⟩:=vP (λx c hx=>Rep.length at_ x c hx) aB i at_.dflt hi;have ei:=Rep.length _ _ _ bA;have cE:=EK (c:=c) (re (ou at_ _ ci bA)) ha;obtain⟨hf,he,hp⟩:=vT bH at_ HU cE;obtain⟨S1,bD,cG,dN,dO⟩:=nk u1 σ S hR hf;have dj:(σ.upd u1).bx k = .live (.lst el at_ xs false):=by rw[lV u1 σ (qf.2 rY)];exact hk
       obtain⟨Zb,PH,PI,PJ⟩:=ie cd (bD.box k _ dj);have tM:∀o,¬S1 g o:=(PJ g (by rw[hg];rfl)).1 rfl;have PK:i*at_.size+at_.size<=xs.length*at_.size:=by have:(i+1)*at_.size<=xs.length*at_.size:=jv _ (by omega);rwa[vg]at this
       have PL:xs.length*at_.size<=cap*at_.size:=jv _ jU;have iH:c+z.cells.toList.length<=at_.size:=by omega
       refine⟨_,S1,EM hT ht hh (by omega) (by rw[dL];omega) h1,?_⟩;rw[kH];refine Bn bD dj (by rw[hg];rfl) tM (b':= .lst el at_ (xs.set i en) false) ⟨rfl,rfl,λ_=>by simp⟩ hh (λij dm=>?_);have o9:Rep S1 w at_ en (ci.take c++z.cells.toList++ci.drop (c+z.cells.toList.length)):=by have:=hp S1 w cG dN;rwa[List.take_of_length_le (by simp;omega)]at this
       refine Bc cd ⟨css.set i (ci.take c++z.cells.toList++ci.drop (c+z.cells.toList.length)),⟨?_,.inr ⟨g,cap,_,?_,kb _,setRow_heap w g cur _ el (0,0) hh,by simpa using jU,jT,?_,?_⟩⟩,?_,λg' aC=>?_⟩
       .rw[vW (m:=at_.size)]
        .simp[aB.length]
        .intro d hd;rcases List.mem_or_eq_of_mem_set hd with hd|rfl
         .exact All2.all_len aB d hd
         .simp;omega
       .simpa using hg
       .simp only[vd,ja,qd,zu,qe];omega
       .simp only[List.length_set];exact HT (All2.all_len aB) aB.length.symm ec lW iH
       .exact(aB.mono (λx c hx=>Rep.keep (cG.trans dm) _ _ _ hx)).set i _ _ (Rep.keep dm _ _ _ o9)
       .rw[hg]at aC;simp[blk]at aC;subst aC;exact⟨λ_=>tM,by simp⟩
     .simp at h
    .simp at h
   .simp at h
  .rename_i n at_ xs hk;have hk:=aZ.live hk;split at h
   .rename_i new dM;split at h
    .rename_i hc;obtain⟨cp,hle⟩:=hc;split at h
     .rename_i en u1 HU;split at h
      .simp at h
      .rename_i rY;simp only[j4]at h;subst h;obtain⟨ha,h1⟩:=Bo dM hz;have hlen:=ha.length;have rZ:z.cells.toList.length=z.cells.size:=qe;obtain⟨hi,g,hg,hu⟩:=hx.2.2 _ hk;obtain⟨g',cur,e,aC,hh,⟨hn,css,aB,eH⟩,hS⟩:=hR.box k _ hk;rw[hg]at aC;simp at aC;subst aC;subst hu;obtain⟨ci,lW,bA,db⟩:=vP (λx c hx=>Rep.length at_ x c hx) aB i at_.dflt (by omega);have ei:=Rep.length _ _ _ bA;have cE:=EK (c:=c) (re (ou at_ _ ci bA)) ha;obtain⟨hf,he,hp⟩:=vT bH at_ HU cE;obtain⟨S1,bD,cG,dN,dO⟩:=nk u1 σ S hR hf;have dj:(σ.upd u1).bx k = .live (.arr n at_ xs):=by rw[lV u1 σ (qf.2 rY)];exact hk
       obtain⟨g1,Zc,e1,vY,hh1,_,tM⟩:=bD.box k _ dj;rw[hg]at vY;simp at vY;subst vY;have Bq:cur.toList.length=n*at_.size:=by rw[eH,vW (All2.all_len aB),<-aB.length,hn]
       have PK:i*at_.size+at_.size<=n*at_.size:=by have:(i+1)*at_.size<=n*at_.size:=jv _ (by omega);rwa[vg]at this
       have iH:c+z.cells.toList.length<=at_.size:=by omega
       refine⟨_,S1,EM hT ht hh (by omega) (by rw[<-qe,Bq];omega) h1,?_⟩;rw[kH];refine Bn bD dj (by rw[hg];rfl) tM (b':= .arr n at_ (xs.set i en)) ⟨rfl,rfl⟩ hh (λij dm=>?_);have o9:Rep S1 w at_ en (ci.take c++z.cells.toList++ci.drop (c+z.cells.toList.length)):=by have:=hp S1 w cG dN;rwa[List.take_of_length_le (by simp;omega)]at this
       refine⟨g,_,e,hg,setRow_heap w g cur _ e (0,0) hh,⟨?_,css.set i (ci.take c++z.cells.toList++ci.drop (c+z.cells.toList.length)),?_,?_⟩,tM⟩
       .show List.length (List.set xs i en)=n;rw[List.length_set];exact hn
       .exact(aB.mono (λx c hx=>Rep.keep (cG.trans dm) _ _ _ hx)).set i _ _ (Rep.keep dm _ _ _ o9)
       .have EN:=HT (cur:=cur.toList) (n:=n) (zs:=z.cells.toList) (All2.all_len aB) (by rw[<-aB.length,hn]) (by rw[<-Bq,List.take_length,eH]) lW iH;rw[<-EN];symm;refine(List.take_of_length_le ?_).trans (by simp);simp only[ja,qd,zu];omega
     .simp at h
    .simp at h
   .simp at h
  .simp at h
 .simp at h
end
theorem tN{m:Nat}:∀{l:List (List Value)}(i:Nat),(∀c∈l,c.length=m)->(l.take i).flatten=l.flatten.take (i*m)
 |[],i,_=>by simp
 |c::l,0,_=>by simp
 |c::l,i+1,h=>by
  have hc:=h c (by simp);have ih:=tN (l:=l) i (λd hd=>h d (by simp[hd]));rw[List.take_succ_cons,kz,ih,kz,vg,Nat.add_comm,List.take_append,hc];rw[List.take_of_length_le (l:=c) (by omega),show m+i*m-m=i*m by omega]
theorem EO{m:Nat}:∀{l:List (List Value)}(i:Nat),(∀c∈l,c.length=m)->(l.drop i).flatten=l.flatten.drop (i*m)
 |[],i,_=>by simp
 |c::l,0,_=>by simp
 |c::l,i+1,h=>by
  have hc:=h c (by simp);have ih:=EO (l:=l) i (λd hd=>h d (by simp[hd]));rw[List.drop_succ_cons,ih,kz,vg,Nat.add_comm,List.drop_append,hc];rw[jf (l:=c) (by omega),jo,show m+i*m-m=i*m by omega]
section
variable{N:NT}{np:Nat}{S0:aP}{w0:World}{refs:Refs}{σ:St}{a:Go.Act}{w:World}{S:aP}{γ:Nat->Value}
theorem HV(hR:Rel N np S0 w0 refs σ a w S γ){k:Nat}{b:Bx}(hk:σ.bx k = .live b):Rel N np S0 w0 refs (σ.setB k .gone) a w S γ:=by
 have hle:BxLe γ σ.bx γ (σ.setB k .gone).bx:=by
  intro k' br;by_cases cg:k'=k
  .subst cg;rw[gj];exact⟨by simp,rfl,λb hb=>by simp at hb⟩
  .rw[cJ σ _ cg];exact⟨br,rfl,λb hb=>⟨b,hb,.refl b⟩⟩
 have bC:∀k' b1,(σ.setB k .gone).bx k' = .live b1->σ.bx k' = .live b1:=by
  intro k' b1 h1;by_cases cg:k'=k
  .subst cg;rw[gj]at h1;simp at h1
  .rwa[cJ σ _ cg]at h1
 exact Rel.step (bx':=(σ.setB k .gone).bx) hR (.refl S w) hle (λk' b' h=>eF.keep (.refl S w) hle rfl (λ_ _=>⟨rfl,λ_=>Iff.rfl⟩) (hR.box k' b' (bC k' b' h)))
  (λk' b' g h=>hR.own k' b' g (bC k' b' h)) (λk1 k2 b1 b2 g bq h1 h2=>hR.apart k1 k2 b1 b2 g bq (bC _ _ h1) (bC _ _ h2)) hR.new hR.here hR.below hR.grow hR.os hR.tape hR.output
  (λg _ _ h=>⟨rfl,λk' b' aW=>h k' b' (bC k' b' aW)⟩)
theorem EP(hR:Rel N np S0 w0 refs σ a w S γ){d:Nat}(hd:σ.bx d = .free){w':World}{S':aP}{v':Value}{e:Nat}(hm:isM e=false){el:Ty}{zs:List el.den}{frz:Bool}{css:List (List Value)}
  (aM:dg S w S' w')(pb:∀g,g<w.heap.size->blk v'≠some g->w'.heap[g]? = w.heap[g]?)(cp:w.heap.size<=w'.heap.size)
  (hv:∀g,blk v'=some g->w0.heap.size<=g/\(∀k b,σ.bx k = .live b->blk (γ k)≠some g)/\g<w'.heap.size)
  (hS:∀g o,S' g o->S g o\/blk v'=some g)(os:w'.os=w.os)(tape:w'.tape=w.tape)(output:w'.output=w.output)
  (cK:w'.ownsRow 0 e el.size v' zs.length css.flatten)(aB:All2 (λx c=>Rep S' w' el x c) zs css)
  (HW:∀g,blk v'=some g->(frz=false->∀o,¬S' g o)/\(frz=true->∀o,S' g o↔o<zs.length*el.size))(PM:∀g,blk v'=some g->refs.kw g=none) :
  Rel N np S0 w0 refs (σ.setB d (.live (.lst e el zs frz))) a w' S' (gset γ d v')/\
   bR S' w' (gset γ d v') (σ.setB d (.live (.lst e el zs frz))).bx (.one (.ol d)) v':=by
 have hle:BxLe γ σ.bx (gset γ d v') (σ.setB d (.live (.lst e el zs frz))).bx:=by
  intro k hk;have bq:k≠d:=by rintro rfl;exact hk hd
  rw[cJ σ _ bq,gl γ v' bq];exact⟨hk,rfl,λb hb=>⟨b,hb,.refl b⟩⟩
 have cX:One v':=by rcases cK.2 with⟨rfl,_⟩|⟨g,cap,cur,rfl,_⟩<;>rfl
 refine⟨Rel.step (bx':=(σ.setB d (.live (.lst e el zs frz))).bx) hR aM hle ?_ ?_ ?_ ?_ ?_ ?_ (qm hR.grow cp) (os.trans hR.os) (tape.trans hR.tape) (output.trans hR.output) (λg hg yD h=>⟨pb g hg (λhh=>yD (PM g hh)),λk b' aW dr=>by
  by_cases hk:k=d
  .subst hk;rw[fv]at dr;exact yD (PM g dr)
  .rw[cJ σ _ hk]at aW;rw[gl γ v' hk]at dr;exact h k b' aW dr⟩),?_⟩
 .intro k b hb;by_cases hk:k=d
  .subst hk;rw[gj]at hb;simp at hb;subst hb;refine Bc hm ⟨css,by rw[fv];exact cK,aB,λg hg=>?_⟩;rw[fv]at hg;exact HW g hg
  .rw[cJ σ _ hk]at hb;refine eF.keep aM hle (gl γ v' hk) (λg hg=>?_) (hR.box k b hb);have vZ:=lU (hR.box k b hb) hg;have bq:blk v'≠some g:=λhh=>(hv g hh).2.1 k b hb hg;exact⟨pb g vZ bq,λo=>⟨λhs=>(hS g o hs).resolve_right bq,λhs=>(aM g o hs).1⟩⟩
 .intro k b g hb hg;by_cases hk:k=d
  .subst hk;rw[fv]at hg;exact .inl (hv g hg).1
  .rw[cJ σ _ hk]at hb;rw[gl γ v' hk]at hg;exact hR.own k b g hb hg
 .intro k k' b1 b2 g bq h1 h2 hg aC;by_cases hk:k=d
  .subst hk;have br:k'≠k:=λh=>bq h.symm;rw[fv]at hg;rw[cJ σ _ br]at h2;rw[gl γ v' br]at aC;exact(hv g hg).2.1 k' b2 h2 aC
  .by_cases br:k'=d
   .subst br;rw[fv]at aC;rw[cJ σ _ hk]at h1;rw[gl γ v' hk]at hg;exact(hv g aC).2.1 k b1 h1 hg
   .rw[cJ σ _ hk]at h1;rw[cJ σ _ br]at h2;rw[gl γ v' hk]at hg;rw[gl γ v' br]at aC;exact hR.apart k k' b1 b2 g bq h1 h2 hg aC
 .intro g o hs;rcases hS g o hs with hs|hs
  .exact hR.new g o hs
  .exact .inr (hv g hs).1
 .intro g o hs;rcases hS g o hs with hs|hs
  .have:=hR.here g o hs;omega
  .exact(hv g hs).2.2
 .intro g hg hr;by_cases hb:blk v'=some g
  .have:=(hv g hb).1;omega
  .rw[pb g (by have:=hR.grow;omega) hb];exact hR.below g hg hr
 .refine⟨⟨by rw[gj];simp,cX,λb hb=>(fv γ d v').symm⟩,λ_=>cX⟩
theorem Zd{P:Program}{T:Nat->Option TyI}(hT:cH P T){t ty:TypeId}{ti:TyI}(ht:T t=some ti){el:Ty}(bG:ti.ty=some (.list el))
  {v:Value}{n:Nat}{xs:List Value}(aX:w.ownsRow 0 ti.elem el.size v n xs){ad:Option Addr}{m c:Nat}{news:List Value}(fw:ad=none->m=0/\c=0)(hl:news.length=m*el.size)
  (gM:∀b,ad=some b->∀(j:Nat)(u:Value),news[j]? = some u->w.cell? (b.add j)=some u)(h1:∀u∈news,One u)(eI:n+m<=aY) :
  ∃v' w',(Builtin.append_ #[t,t] ty #[v,.slice ad m c]).run P w = .ok v' w'/\w'.ownsRow 0 ti.elem el.size v' (n+m) (xs++news)/\w'.os=w.os/\w'.tape=w.tape/\w'.output=w.output/\w.heap.size<=w'.heap.size/\
   ((v'=v/\w'=w)\/(blk v'=blk v/\(∃g,blk v=some g)/\∀g,blk v≠some g->w'.heap[g]? = w.heap[g]?)\/(blk v'=some w.heap.size/\∀g,g<w.heap.size->w'.heap[g]? = w.heap[g]?)):=by
 obtain⟨hd,bV,te,cV,dh⟩:=oX hT ht bG;have cp:=ni hT cV dh;obtain⟨i,de,hi,hde,his,Br,_,_,hz⟩:=lD hT cV;obtain⟨_,⟨z,hz,gC⟩,_⟩:=hz el dh;have eJ:i.size=el.size:=by omega
 have mG:z.cells.size=el.size:=by have h:=Rep.length el el.dflt _ (ow (S:=λ_ _=>False) (w:=w) el);rw[<-gC]at h;simpa using h
 have Bs:n+m<=maxLen:=by simp only[maxLen,aY]at *;omega
 have jA:(n+m)*i.bytes<=140737488355328:=by have:(n+m)*i.bytes<=aY*32768:=zv eI Br;simp only[aY]at this;omega
 have hlen:(xs++news).length=(n+m)*el.size:=by rw[ja,aX.1,hl,Nat.add_mul]
 cases ad with
 |none=>obtain⟨rfl,rfl⟩:=fw rfl;have ox:news=[]:=jw (by simpa using hl);subst ox;exact⟨v,w,run_append_owned_none (P:=P) w 0 t ty ti.elem i el.size hd hi v n xs aX,by simpa using aX,rfl,rfl,rfl,jl _,.inl ⟨rfl,rfl⟩⟩
 |some b=>
  have gM:=gM b rfl;rcases aX.2 with⟨rfl,rfl⟩|⟨g,cap,cur,rfl,_,hg,jU,jT,dL,ec⟩
  .have tO:w.ownsRow w.heap.size ti.elem el.size (.slice none 0 0) 0 xs:=⟨aX.1,.inl ⟨rfl,rfl⟩⟩;obtain⟨v',w',hr,ho,ER,hv⟩:=run_append_own (P:=P) w w.heap.size t ty ti.elem i z el.size i.bytes hd hi hz eJ rfl mG bV _ 0 xs tO b m c news hl gM h1 Bs jA (jl _);refine⟨v',w',hr,⟨ho.1,ho.2.imp id (λ⟨g,cap,cur,h1,_,h3⟩=>⟨g,cap,cur,h1,kb _,h3⟩)⟩,ER.os,ER.tape,ER.output,ER.size,?_⟩;by_cases hm:m=0
   .subst hm;have ox:news=[]:=jw (by simpa using hl);subst ox;have:=run_append_own (P:=P) w w.heap.size t ty ti.elem i z el.size i.bytes hd hi hz eJ rfl mG bV _ 0 xs tO b 0 c [] hl gM h1 Bs jA (jl _);left;have hx:(Builtin.append_ #[t,t] ty #[.slice none 0 0,.slice (some b) 0 c]).run P w = .ok (.slice none 0 0) w:=by simp[Builtin.append_,run_underlying hd,sizeOf,typeInfo,hi,Builtin.lenOf,Builtin.firstCells,loadCells,loadCellsFrom]
    rw[hx]at hr;simp at hr;exact⟨hr.1.symm,hr.2.symm⟩
   .have r5:=run_append_nil (P:=P) w t ty ti.elem i z hd hi hz b m c news (by rw[eJ];exact hl) gM (by omega) (by simp only[maxLen]at Bs;omega) (by have:=jA;simp only[ke]at this;omega);rw[r5]at hr;simp at hr;obtain⟨rfl,rfl⟩:=hr;exact .inr (.inr ⟨rfl,λg hg=>heap_alloc_old w.drew _ hg⟩)
  .by_cases pd:n+m<=cap
   .have Bt:n*i.size+news.length<=cur.size:=by rw[eJ,hl,dL,<-Nat.add_mul];exact jv _ pd
    have hr:=run_append_room (P:=P) w t ty ti.elem i hd hi g n cap cur hg b m c news (by rw[eJ];exact hl) gM h1 pd Bt;rw[eJ]at hr Bt;refine⟨_,_,hr,⟨hlen,.inr ⟨g,cap,_,rfl,kb _,setRow_heap w g cur _ ti.elem _ hg,pd,jT,?_,?_⟩⟩,rfl,rfl,rfl,by rw[size_setRow];exact jl _,.inr (.inl ⟨rfl,⟨g,rfl⟩,λg' aC=>?_⟩)⟩
    .simp only[vd,ja,qd,zu,qe];omega
    .rw[ec,<-hlen];exact List.take_left
    .exact setRow_other w g g' _ (λh=>aC (by rw[h];rfl))
   .have holds:∀(j:Nat)(u:Value),xs[j]? = some u->w.cell? ((⟨g,0,none⟩:Addr).add j)=some u:=aX.cells (g:=g) rfl;have hr:=run_append_grow (P:=P) w t ty ti.elem i z hd hi hz ⟨g,0,none⟩ n cap xs (by rw[eJ];exact aX.1) holds b m c news (by rw[eJ];exact hl) gM (by omega) (by simp only[maxLen]at Bs;omega) (growslice_fits (by omega) jA);have nr:=grownCap_ge w (n+m) cap ti.elem;refine⟨_,_,hr,⟨hlen,.inr ⟨w.heap.size,_,_,rfl,kb _,heap_alloc_new w.drew _,nr,grownCap_le_maxLen w (n+m) cap ti.elem Bs,?_,?_⟩⟩,rfl,rfl,rfl,by simp,.inr (.inr ⟨rfl,λg' aC=>heap_alloc_old w.drew _ aC⟩)⟩
    .simp only[Array.size_append,vd,size_zeroCells,mG,aX.1,hl,<-Nat.add_mul];congr 1;omega
    .simp only[Array.toList_append,jd];rw[<-jd,<-hlen];exact List.take_left
theorem PN(hR:Rel N np S0 w0 refs σ a w S γ){rd:Nat->BS}(aZ:RdOk σ rd){el:Ty}{y:Leaf}{ys:List el.den}{z:Value}(h:appX rd el y=some ys)(hy:bY S w γ σ.bx y z) :
  ∃ad c css,z = .slice ad ys.length c/\(ad=none->ys.length=0/\c=0)/\All2 (λx c=>Rep S w el x c) ys css/\
   ∀b,ad=some b->∀(j:Nat)(u:Value),css.flatten[j]? = some u->w.cell? (b.add j)=some u:=by
 unfold appX at h;split at h
 .rename_i k;split at h
  .rename_i e ES xs f hk;have:=lR h;cases this;have cd:=aZ.nm hk;have hk:=aZ.live hk;have hz:=hy.2.2 _ hk;obtain⟨css,aX,aB,_⟩:=ie cd (hR.box k _ hk);rcases aX.2 with⟨hg,h0⟩|⟨g,cap,cur,hg,_⟩
   .exact⟨none,0,css,by rw[hz,hg,h0],λ_=>⟨h0,rfl⟩,aB,λb hb=>by simp at hb⟩
   .refine⟨some ⟨g,0,none⟩,cap,css,by rw[hz,hg],by simp,aB,λb hb j u hu=>?_⟩;simp at hb;subst hb;exact aX.cells (g:=g) (by rw[hg];rfl) j u hu
  .simp at h
 .rename_i t xs;have:=lR h;cases this;obtain⟨ad,cap,hz,hle,jT,hn,hb⟩:=hy;simp at hz;cases ad with
  |none=>
   have h0:=hn rfl;have kK:List.length ys=0:=by omega
   have:ys=[]:=jw kK;subst this;exact⟨none,cap,[],hz,λ_=>⟨rfl,h0⟩,trivial,λb hb=>by simp at hb⟩
  |some b=>
   obtain⟨cE,css,ha,hl⟩:=hb b rfl;refine⟨some b,cap,css,hz,by simp,ha,λb' aW j u hu=>?_⟩;simp at aW;subst aW
   have cE:=cE (λe=>by
    rw[e]at ha;cases css with
    |nil=>simp at hu
    |cons c cs=>exact ha)
   obtain⟨g,o,sp⟩:=b;simp at cE;subst cE;rw[Addr.add_lit];exact(hl j u hu).2
 .simp at h;subst h;exact⟨none,0,[],hy,λ_=>⟨rfl,rfl⟩,trivial,λb hb=>by simp at hb⟩
 .rename_i k j;split at h
  .rename_i e ES xs f hk;split at h
   .rename_i cI iF;have:=lR iF;cases this;simp only[j4]at h;subst h;have cd:=aZ.nm hk;have hk:=aZ.live hk;obtain⟨_,hj,ad,gL,aC,hu⟩:=hy.2.2 _ hk;obtain⟨css,aX,aB,_⟩:=ie cd (hR.box k _ hk);have ei:=All2.all_len aB;have hlen:(List.drop j cI).length=cI.length-j:=by simp
    rcases aX.2 with⟨hg,h0⟩|⟨g,cap,cur,hg,_,hh,jU,_⟩
    .rw[hg]at aC;simp only[Value.slice.injEq]at aC;obtain⟨rfl,_,rfl⟩:=aC;have tP:cI=[]:=jw h0;subst tP;refine⟨none,0,[],by rw[hu];simp,λ_=>⟨by simp,rfl⟩,by simp;trivial,λb hb=>by simp at hb⟩
    .rw[hg]at aC;simp only[Value.slice.injEq,qh]at aC;obtain⟨rfl,rfl⟩:=aC;by_cases hc:cap=j
     .have tP:List.drop j cI=[]:=jf (by omega);rw[tP];rw[if_pos hc]at hu;exact⟨some ⟨g,0,none⟩,cap-j,[],by rw[hu];simp;omega,by simp,trivial,λb hb q v hq=>by simp at hq⟩
     .rw[if_neg hc]at hu;simp only[ky,Addr.add_lit,ke]at hu;refine⟨some ⟨g,j*el.size,none⟩,cap-j,css.drop j,by rw[hu,hlen],by simp,aB.drop j,λb hb q v hq=>?_⟩;simp at hb;subst hb;have Ze:(css.drop j).flatten=css.flatten.drop (j*el.size):=EO j ei;rw[Ze,List.getElem?_drop]at hq;have:=aX.cells (g:=g) (by rw[hg];rfl) _ v hq;rw[Addr.add_lit]at this ⊢;simpa using this
   .simp at h
  .simp at h
 .simp at h
theorem Zf{P:Program}{E:Env}(hT:cH P E.T)(hR:Rel N np S0 w0 refs σ a w S γ){rd rdf:Nat->BS}(aZ:RdOk σ rd)(bH:RdF np σ rdf){t ty:TypeId}{ti:TyI}(ht:E.T t=some ti)
  {el:Ty}(bG:ti.ty=some (.list el)){x y:Leaf}{xs ys:List el.den}{frz:Bool}{u:Ups}{d:Nat}{vx vy:Value}(h1:appS rdf ti.elem el x=some (xs,frz,u))(h2:appX rd el y=some ys)
  (hd:σ.bx d = .free)(eI:xs.length+ys.length<=aY)(hx:bY S w γ σ.bx x vx)(hy:bY S w γ σ.bx y vy) :
  ∃v' w' S' γ',(Builtin.append_ #[t,t] ty #[vx,vy]).run P w = .ok v' w'/\Rel N np S0 w0 refs (σ.upd (u++[(d,.live (.lst ti.elem el (xs++ys) frz))])) a w' S' γ'/\
   bR S' w' γ' (σ.upd (u++[(d,.live (.lst ti.elem el (xs++ys) frz))])).bx (.one (.ol d)) v':=by
 obtain⟨ad,c,cy,HX,fw,wa,db⟩:=PN hR aZ h2 hy;subst HX;have r6:cy.flatten.length=ys.length*el.size:=All2.flatten_length (λx c hx=>Rep.length el x c hx) wa;have Zg:∀u∈cy.flatten,One u:=by intro u hu;obtain⟨c,hc,Ba⟩:=List.mem_flatten.1 hu;obtain⟨x,_,hx⟩:=wa.mem_right c hc;exact Rep.one el x c hx u Ba
 obtain⟨nj,bV,te,cV,dh⟩:=oX hT ht bG
 have src:∃σ1,σ.upd u=σ1/\Rel N np S0 w0 refs σ1 a w S γ/\σ1.bx d = .free/\∃cx,w.ownsRow 0 ti.elem el.size vx xs.length cx.flatten/\All2 (λx c=>Rep S w el x c) xs cx/\
   ∀g,blk vx=some g->w0.heap.size<=g/\g<w.heap.size/\(∀k b,σ1.bx k = .live b->blk (γ k)≠some g)/\(frz=false->∀o,¬S g o)/\(frz=true->∀o,S g o↔o<xs.length*el.size)/\refs.kw g=none:=by
  unfold appS at h1;split at h1
  .rename_i k;split at h1
   .rename_i e' ES cI f hk;split at h1
    .rename_i PE iF;split at h1
     .rename_i he;simp only[j4,j8]at h1;obtain⟨rfl,rfl,rfl⟩:=h1;have:=lR iF;cases this;subst he;have mH:=bH.par hk;have cd:=bH.ok.nm hk;have hk:=bH.ok.live hk;have hz:=hx.2.2 _ hk;obtain⟨css,aX,aB,hS⟩:=ie cd (hR.box k _ hk);have rh:d≠k:=by rintro rfl;rw[hd]at hk;simp at hk
      refine⟨σ.setB k .gone,rfl,HV hR hk,by rw[cJ σ _ rh];exact hd,css,by rw[hz];exact aX,aB,λg hg=>?_⟩;rw[hz]at hg;refine⟨?_,lU (hR.box k _ hk) hg,λk' b' aW aC=>?_,(hS g hg).1,(hS g hg).2,hR.kw_live hk hg⟩
      .rcases hR.own k _ g hk hg with h|h
       .exact h
       .rw[mH]at h;simp at h
      .have cg:k'≠k:=by rintro rfl;rw[gj]at aW;simp at aW
       rw[cJ σ _ cg]at aW;exact hR.apart k' k _ _ g cg aW hk aC hg
     .simp at h1
    .simp at h1
   .simp at h1
  .simp only[j4,j8]at h1;obtain⟨rfl,rfl,rfl⟩:=h1;have hz:vx = .slice none 0 0:=hx;subst hz;exact⟨σ,rfl,hR,hd,[],World.ownsRow_nil w 0 ti.elem el.size,trivial,λg hg=>by simp[blk]at hg⟩
  .simp at h1
 obtain⟨σ1,Zh,bD,ov,cx,aX,ET,hblk⟩:=src;rw[kH,Zh];obtain⟨v',w',hr,cK,os,tape,output,cp,cD⟩:=Zd hT ht bG (ty:=ty) aX fw r6 db Zg eI;have mI:cx.flatten.length=xs.length*el.size:=aX.1;let S':aP:=λg o=>S g o\/(frz=true/\blk v'=some g/\o<(xs++ys).length*el.size)
 have aM:dg S w S' w':=by
  intro g o hs;refine⟨.inl hs,?_⟩;rcases cD with⟨rfl,rfl⟩|⟨hb,⟨g0,iI⟩,hh⟩|⟨hb,hh⟩
  .rfl
  .by_cases hg:g=g0
   .subst hg;obtain⟨_,_,_,hf,ri,_⟩:=hblk g iI;cases frz with
    |false=>exact absurd hs (hf rfl o)
    |true=>
     have ho:=(ri rfl o).1 hs
     have gm:v'.ownBlock=some g:=by
      rw[iI]at hb;rcases cK.2 with⟨hn,_⟩|⟨g1,cap,cur,hn,_⟩
      .rw[hn]at hb;simp[blk]at hb
      .rw[hn]at hb ⊢;simp[blk]at hb;simp[Value.ownBlock,hb]
     have Zi:vx.ownBlock=some g:=by
      rcases aX.2 with⟨hn,_⟩|⟨g1,cap,cur,hn,_⟩
      .rw[hn]at iI;simp[blk]at iI
      .rw[hn]at iI ⊢;simp[blk]at iI;simp[Value.ownBlock,iI]
     have Bu:(cx.flatten)[o]? = some (cx.flatten[o]'(by omega)):=jh (by omega);have e1:=aX.cells Zi o _ Bu;have e2:=cK.cells gm o (cx.flatten[o]'(by omega)) (by rw[List.getElem?_append_left (by omega)];exact Bu);rw[Addr.add_lit,ke]at e1 e2;rw[e1,e2]
   .have:=hh g (by rw[iI];simpa using λh=>hg h.symm);exact World.cell?_of_block (a:=⟨g,o,none⟩) this
  .exact World.cell?_of_block (a:=⟨g,o,none⟩) (hh g (hR.here g o hs))
 have EU:∀g,blk v'=some g->w0.heap.size<=g/\(∀k b,σ1.bx k = .live b->blk (γ k)≠some g)/\g<w'.heap.size:=by
  intro g hg
  have aA:g<w'.heap.size:=by
   rcases cK.2 with⟨hn,_⟩|⟨g1,cap,cur,hn,_,hh,_⟩
   .rw[hn]at hg;simp[blk]at hg
   .rw[hn]at hg;simp[blk]at hg;subst hg;exact(jk.1 hh).1
  rcases cD with⟨rfl,rfl⟩|⟨hb,⟨g0,iI⟩,hh⟩|⟨hb,hh⟩
  .obtain⟨q1,q2,q3,_⟩:=hblk g hg;exact⟨q1,q3,aA⟩
  .rw[hb]at hg;obtain⟨q1,q2,q3,_⟩:=hblk g hg;exact⟨q1,q3,aA⟩
  .rw[hb]at hg;simp at hg;subst hg;exact⟨hR.grow,λk b hk aC=>by have:=lU (bD.box k b hk) aC;omega,aA⟩
 obtain⟨dt,fM⟩:=EP bD ov (hm:=HC hT ht) (w':=w') (S':=S') (v':=v') (e:=ti.elem) (el:=el) (zs:=xs++ys) (frz:=frz) (css:=cx++cy) aM (λg hg bq=>by
   rcases cD with⟨rfl,rfl⟩|⟨hb,_,hh⟩|⟨hb,hh⟩
   .rfl
   .exact hh g (by rw[<-hb];exact bq)
   .exact hh g hg) cp EU (λg o hs=>hs.imp id (λh=>h.2.1)) os tape output (by rw[vj,ja];exact cK)
  ((ET.mono (λx c hx=>Rep.keep aM _ _ _ hx)).append (wa.mono (λx c hx=>Rep.keep aM _ _ _ hx))) (λg hg=>by
    have hold:∀o,S g o->frz=true/\o<xs.length*el.size:=by
     intro o hs;rcases cD with⟨rfl,rfl⟩|⟨hb,⟨g0,iI⟩,hh⟩|⟨hb,hh⟩
     .obtain⟨_,_,_,hf,ri,_⟩:=hblk g hg;cases frz with
      |false=>exact absurd hs (hf rfl o)
      |true=>exact⟨rfl,(ri rfl o).1 hs⟩
     .rw[hb]at hg;obtain⟨_,_,_,hf,ri,_⟩:=hblk g hg;cases frz with
      |false=>exact absurd hs (hf rfl o)
      |true=>exact⟨rfl,(ri rfl o).1 hs⟩
     .rw[hb]at hg;simp at hg;subst hg;exact absurd hs (EJ hR o)
    refine⟨λhf o hs=>?_,λhf o=>⟨λhs=>?_,λho=> .inr ⟨hf,hg,ho⟩⟩⟩
    .rcases hs with hs|hs
     .rw[hf]at hold;simp at hold;exact hold o hs
     .rw[hf]at hs;simp at hs
    .rcases hs with hs|hs
     .have:=(hold o hs).2;rw[ja,Nat.add_mul];omega
     .exact hs.2.2) (λg hg=>by
    rcases cD with⟨rfl,rfl⟩|⟨hb,⟨g0,iI⟩,hh⟩|⟨hb,hh⟩
    .exact(hblk g hg).2.2.2.2.2
    .rw[hb]at hg;exact(hblk g hg).2.2.2.2.2
    .rw[hb]at hg;simp at hg;subst hg;exact hR.kw_new (jl _))
 exact⟨v',w',S',_,hr,dt,fM⟩
end
theorem Zj(L l:List Value)(v:Value)(n:Nat)(h:n<L.length) :
  (L.set n v).take (n+1)++l++(L.set n v).drop (n+1+l.length)=L.take n++v::l++L.drop (n+(l.length+1)):=by
 obtain⟨A,x,B,hA,rfl⟩:∃A x B,List.length A=n/\L=A++x::B:=⟨L.take n,L[n],L.drop (n+1),by simp;omega,by rw[List.getElem_cons_drop h,kf]⟩;subst hA;rw[zd _ _ (jl _),Nat.sub_self,List.set_cons_zero];have e1:(A++v::B).take (A.length+1)=A++[v]:=by rw[show A++v::B=(A++[v])++B by simp];exact List.take_left' (by simp)
 have e2:(A++x::B).take A.length=A:=List.take_left' rfl;have e3:∀y,(A++y::B).drop (A.length+1+l.length)=B.drop l.length:=by intro y;rw[show A++y::B=(A++[y])++B by simp,<-List.drop_drop,List.drop_left' (by simp)]
 rw[e1,e2,e3,show A.length+(l.length+1)=A.length+1+l.length by omega,e3];simp
theorem PO(off:Nat):∀(l:List Value)(k:Nat)(cells:Array Value),off+k+l.length<=cells.size->
  ((l.zipIdx k).foldl (λcs x=>cs.setIfInBounds (off+x.2) x.1) cells).toList=cells.toList.take (off+k)++l++cells.toList.drop (off+k+l.length)
 |[],k,cells,_=>by simp
 |v::l,k,cells,h=>by
  simp only[jm]at h;rw[List.zipIdx_cons,vp,PO off l (k+1) _ (by simp;omega)];simp only[Array.toList_setIfInBounds];rw[show off+(k+1)=off+k+1 by omega];exact Zj cells.toList l v (off+k) (by simp;omega)
theorem PQ(cells:Array Value)(off:Nat)(zs:Array Value)(h:off+zs.size<=cells.size) :
  (zs.zipIdx.foldl (λcs (x:Value×Nat)=>cs.setIfInBounds (off+x.2) x.1) cells).toList=cells.toList.take off++zs.toList++cells.toList.drop (off+zs.size):=by
 rw[<-Array.foldl_toList,Array.toList_zipIdx];have:=PO off zs.toList 0 cells (by simpa using h);simpa using this
theorem PR(z:List Value):∀(n p:Nat),p<n*z.length->(List.replicate n z).flatten[p]? = z[p%z.length]?
 |0,p,h=>by simp at h
 |n+1,p,h=>by
  rw[List.replicate_succ,kz];by_cases hp:p<z.length
  .rw[List.getElem?_append_left hp,Nat.mod_eq_of_lt hp]
  .rw[jy (by omega),PR z n (p-z.length) (by rw[Nat.add_mul]at h;omega)];congr 1;exact(Nat.mod_eq_sub_mod (by omega)).symm
theorem PS(z:Array Value)(n:Nat)(hz:0<z.size):((Array.range (n*z.size)).map (λi=>z[i%z.size]!)).toList=(List.replicate n z.toList).flatten:=by
 apply vz;intro p;by_cases hp:p<n*z.size
 .rw[PR z.toList n p (by simpa using hp)];have hm:p%z.size<z.size:=Nat.mod_lt _ hz;simp[hp,hm]
 .rw[qt (by simp;omega),qt (by rw[List.length_flatten];simp;omega)]
section
variable{N:NT}{np:Nat}{S0:aP}{w0:World}{refs:Refs}{σ:St}{a:Go.Act}{w:World}{S:aP}{γ:Nat->Value}
theorem HY{t:Ty}{z:Value}(h:z.cells.toList=iD t):z.cells.size=t.size:=by
 have:=Rep.length t t.dflt _ (ow (S:=λ_ _=>False) (w:=(default:World)) t);rw[<-h]at this;simpa using this
theorem EV{t:Ty}{z:Value}(h:z.cells.toList=iD t):∀u∈z.cells.toList,One u:=by
 rw[h];exact Rep.one t t.dflt _ (ow (S:=λ_ _=>False) (w:=(default:World)) t)
theorem HZ{P:Program}{T:Nat->Option TyI}(hT:cH P T){t:TypeId}{ti:TyI}(ht:T t=some ti){ty:Ty}(bG:ti.ty=some ty) :
  ∃z:Value,z.cells.toList=iD ty/\(Instr.alloc t true (.tuple #[])).run P w = .ok (.pointer (some ⟨w.heap.size,0,none⟩)) (w.alloc (.cells z.cells t)):=by
 obtain⟨z,hz,hc⟩:=yx hT ht w bG;refine⟨z,hc,?_⟩;simp only[Instr.alloc,Sem.run_bind,hz,Result.andThen_ok,newVar,newRow,run_newObj,Sem.run_pure,World.alloc_eq]
theorem PT{P:Program}(t:TypeId)(v:Value):(Instr.box t v).run P w = .ok (.pointer (some ⟨w.heap.size,0,none⟩)) (w.alloc (.cells v.cells t)):=by
 simp only[Instr.box,Sem.run_bind,newVar,newRow,run_newObj,Result.andThen_ok,Sem.run_pure,World.alloc_eq]
theorem PU{P:Program}{α β:Type}(f:α->Sem β)(g:α->β):∀(l:List α),(∀x∈l,(f x).run P w = .ok (g x) w)->(l.mapM f).run P w = .ok (l.map g) w
 |[],_=>by simp
 |x::l,h=>by
  rw[ze];simp only[Sem.run_bind,h x (by simp),Result.andThen_ok,PU f g l (λy hy=>h y (by simp[hy])),Sem.run_pure,ku]
theorem PV{bx:Nat->BS}{ti:TyI}{sz:Nat->Option Nat}{place:Nat->Option (Nat×Nat)}(hp:∀i f n,ti.flds[i]? = some f->sz f.2=some n->place i=some (f.1,n)) :
  ∀(ps:List (Nat×Cel))(vs:List (Nat×Value)){ls fX:List Leaf}{cells:Array Value},All2 (λp v=>p.1=v.1/\bR S w γ bx p.2 v.2) ps vs->yi ti sz ls ps=some fX->
   All2 (bY S w γ bx) ls cells.toList->(∀u∈cells.toList,One u)->∃bz,Instr.fill place cells vs=some bz/\All2 (bY S w γ bx) fX bz.toList/\∀u∈bz.toList,One u
 |[],[],ls,fX,cells,_,h,ha,h1=>by
  simp[yi]at h;subst h;exact⟨cells,rfl,ha,h1⟩
 |(i,c)::ps,(j,v)::vs,ls,fX,cells,⟨⟨dP,hc⟩,gH⟩,h,ha,h1=>by
  simp only at dP;subst dP;simp only[yi]at h;split at h
  .rename_i f hf;split at h
   .rename_i new dM;split at h
    .rename_i dQ;obtain⟨cp,hle⟩:=dQ;obtain⟨hl,mF⟩:=Bo dM hc;have hlen:=hl.length;have tL:=ha.length;have lX:v.cells.size=new.length:=by rw[hlen];simp
     have dL:cells.size=ls.length:=by rw[tL];simp
     have EW:=PQ cells f.1 v.cells (by omega);have cE:=EK (c:=f.1) ha hl
     obtain⟨bz,fP,h2,h3⟩:=PV hp ps vs (cells:=(v.cells.zipIdx.foldl (λcs (x:Value×Nat)=>cs.setIfInBounds (f.1+x.2) x.1) cells)) gH h
      (by rw[EW];simpa using cE) (by
       rw[EW];intro u hu;simp only[jn]at hu;rcases hu with (hu|hu)|hu
       .exact h1 u (qg hu)
       .exact mF u hu
       .exact h1 u (zj hu))
     refine⟨bz,?_,h2,h3⟩;simp only[Instr.fill,hp i f _ hf cp];rw[if_neg (by simp[lX];omega)];exact fP
    .simp at h
   .simp at h
  .simp at h
 |[],_::_,_,_,_,h,_,_,_=>h.elim
 |_::_,[],_,_,_,h,_,_,_=>h.elim
theorem Zk{P:Program}{E:Env}(hT:cH P E.T){bx:Nat->BS}{t:TypeId}{ti:TyI}(ht:E.T t=some ti){ty:Ty}(bG:ti.ty=some ty)(lE:ty.agg=true)
  {ps:List (Nat×Cel)}{vs:Array (Nat×Value)}{ls:List Leaf}(gH:All2 (λp v=>p.1=v.1/\bR S w γ bx p.2 v.2) ps vs.toList)
  (h:yi ti (λt=>(E.T t).map (·.size)) (mE ty) ps=some ls) :
  ∃z,(Instr.build t vs).run P w = .ok z w/\bR S w γ bx (.st ls) z:=by
 obtain⟨z,hz,gC⟩:=yx hT ht w bG;obtain⟨i,d,hi,hd,_,_,_,eV,dK⟩:=lD hT ht;have nj:=(dK ty bG).2.2;cases d with
 |struct fs=>
  simp only[Bd,jb,jq]at eV;obtain⟨rU,vU⟩:=eV
  have r7:(fs.mapM (λf=>do pure (f.offset,<-sizeOf f.type):Field->Sem (Nat×Nat))).run P w = .ok (fs.map λf=>(f.offset,((E.T f.type).map (·.size)).getD 0)) w:=by
   rw[Array.mapM_eq_mapM_toList]
   have:=PU (P:=P) (w:=w) (λf=>(do pure (f.offset,<-sizeOf f.type):Sem (Nat×Nat))) (λf:Field=>(f.offset,((E.T f.type).map (·.size)).getD 0)) fs.toList (λf hf=>by
    have:=jx.1 vU f hf;split at this
    .rename_i tf oY;simp only[Sem.run_bind,iV hT oY,Result.andThen_ok,Sem.run_pure,oY,ky,zb]
    .simp at this)
   simp only[Sem.run_map,this,Result.andThen_ok];congr 1;apply qr;simp
  have hp:∀(i:Nat)(f:Nat×Nat)(n:Nat),ti.flds[i]? = some f->(E.T f.2).map (·.size)=some n->(fs.map λf=>(f.offset,((E.T f.type).map (·.size)).getD 0))[i]? = some (f.1,n):=by
   intro i f n hf hn;rw[<-rU,qp]at hf;cases hq:fs.toList[i]? with
   |none=>simp[hq]at hf
   |some fl=>
    simp only[hq,ky,j4]at hf;subst hf;have EX:fs[i]? = some fl:=by simpa using hq
    simp only at hn;simp[EX,hn]
  obtain⟨bz,fP,ha,h1⟩:=PV (S:=S) (w:=w) (γ:=γ) (place:=λi=>(fs.map λf=>(f.offset,((E.T f.type).map (·.size)).getD 0))[i]?) hp ps vs.toList (cells:=z.cells) gH h (by rw[gC];exact tK ty) (EV gC);refine⟨.agg bz,?_,bz,rfl,ha,h1⟩;simp only[Instr.build,Sem.run_bind,hz,Result.andThen_ok,run_underlying hd,r7,fP,Sem.run_pure]
 |_=>exfalso;revert nj lE;cases ty<;>simp[iU,Ty.agg]
theorem PW{rd:Nat->BS}{el:Ty}:∀(ps:List (Nat×Cel)){xs cI:List el.den}{u u':Ups},iA rd el xs u ps=some (cI,u')->∃u2,u'=u++u2
 |[],_,_,u,u',h=>by simp[iA]at h;exact⟨[],by simp[h.2]⟩
 |(i,c)::ps,xs,cI,u,u',h=>by
  simp only[iA]at h;split at h
  .split at h
   .obtain⟨u2,hu⟩:=PW ps h;exact⟨_,by rw[hu,jd]⟩
   .simp at h
  .simp at h
theorem H0{rd:Nat->BS}(aZ:RdF np σ rd){el:Ty}(bV:0<el.size):∀(ps:List (Nat×Cel))(vs:List (Nat×Value)){xs cI:List el.den}{u u':Ups},
  All2 (λp v=>p.1=v.1/\bR S w γ σ.bx p.2 v.2) ps vs->iA rd el xs u ps=some (cI,u')->FrzL np σ.bx u->
  FrzL np σ.bx u'/\∀S',dg S w S' w->Froz σ.bx γ S' w u'->∀(css:List (List Value))(cells:Array Value),All2 (λx c=>Rep S' w el x c) xs css->cells.toList=css.flatten->
   ∃bz jB,Instr.fill (λi=>some (i*el.size,el.size)) cells vs=some bz/\All2 (λx c=>Rep S' w el x c) cI jB/\bz.toList=jB.flatten
 |[],[],xs,cI,u,u',_,h,hf=>by
  simp[iA]at h;obtain⟨rfl,rfl⟩:=h;exact⟨hf,λS' _ _ css cells ha hc=>⟨cells,css,rfl,ha,hc⟩⟩
 |(i,c)::ps,(j,v)::vs,xs,cI,u,u',⟨⟨dP,hc⟩,gH⟩,h,hf=>by
  simp only at dP;subst dP;simp only[iA]at h;split at h
  .rename_i x u1 hx;split at h
   .rename_i hi;obtain⟨rU,wb,mF⟩:=Bm aZ hx hc;obtain⟨Zl,cQ⟩:=H0 aZ bV ps vs gH h (FrzL.app.2 ⟨hf,rU⟩);obtain⟨u2,PX⟩:=PW ps h;refine⟨Zl,λS' aM dN css cells ha dn=>?_⟩;have Zm:=(wb S' w aM (Froz.app.1 (Froz.app.1 (PX▸dN)).1).2).1;have H2:cells.size=xs.length*el.size:=by have:=All2.flatten_length (λx c hx=>Rep.length el x c hx) ha;rw[<-dn]at this;simpa using this
    have PK:i*el.size+el.size<=xs.length*el.size:=by have:(i+1)*el.size<=xs.length*el.size:=jv _ (by omega);rwa[vg]at this
    have mF:v.cells.toList.length=el.size:=mF;have lX:v.cells.size=el.size:=by simpa using mF
    have rZ:v.cells.toList.length=v.cells.size:=qe;have EW:=PQ cells (i*el.size) v.cells (by omega);obtain⟨ci,lW⟩:∃ci,css[i]? = some ci:=⟨css[i]'(by rw[<-ha.length];exact hi),jh _⟩;have EN:=HT (cur:=cells.toList) (n:=xs.length) (c:=0) (zs:=v.cells.toList) (All2.all_len ha) ha.length.symm (by rw[dn,<-dn];exact List.take_of_length_le (by simp[H2])) lW (by omega);have ei:ci.length=el.size:=All2.all_len ha ci (jz lW)
    have dM:cells.toList.take (i*el.size)++v.cells.toList++cells.toList.drop (i*el.size+v.cells.size)=(css.set i v.cells.toList).flatten:=by
     have e1:ci.take 0++v.cells.toList++ci.drop (0+v.cells.toList.length)=v.cells.toList:=by rw[jf (by omega)];simp
     rw[e1]at EN;rw[<-EN];symm;refine(List.take_of_length_le ?_).trans ?_
     .simp;omega
     .simp
    obtain⟨bz,jB,h1,h2,h3⟩:=cQ S' aM dN (css.set i v.cells.toList) _ (ha.set i x v.cells.toList Zm) (EW.trans dM);refine⟨bz,jB,?_,h2,h3⟩;simp only[Instr.fill];rw[if_neg (by simp[lX];omega)];exact h1
   .simp at h
  .simp at h
 |[],_::_,_,_,_,_,h,_,_=>h.elim
 |_::_,[],_,_,_,_,h,_,_=>h.elim
end
theorem Zn{P:Program}{t e:TypeId}(h:P.underlying t=some (.slice e)):P.elem t=e:=by simp[Program.elem,h]
def VB(d:Nat)(o:Option Value)(i:Nat):Prop:=(o=none/\i=d)\/∃k,o=some (.int k (i:Int))
theorem yE{P:Program}{w:World}{t:TypeId}{e s:Nat}(hd:P.underlying t=some (.slice e))(hs:(sizeOf e).run P w = .ok s w){ad:Option Addr}{len cap i j:Nat}{lo hi:Option Value}
  (jC:VB 0 lo i)(jD:VB len hi j)(dP:i<=j)(hj:j<=cap) :
  (Instr.sliceAt t (.slice ad len cap) lo hi none).run P w = .ok (.slice (if cap=i then ad else ad.map (·.add (i*s))) (j-i) (cap-i)) w:=by
 have he:=Zn hd;have gg:P.underlying t=some (.slice (P.elem t)):=by rw[he];exact hd
 rw[run_sliceAt_slice w t _ _ _ _ gg];have dx:(sizeOf (P.elem t)).run P w = .ok s w:=by rw[he];exact hs
 rcases jC with⟨rfl,rfl⟩|⟨kl,rfl⟩
 .rcases jD with⟨rfl,rfl⟩|⟨kh,rfl⟩
  .rw[run_slice_all w t ad _ cap gg,dx];simp[Result.andThen,sliced]
  .rw[run_slice_h w t ad len cap gg kh _ (by omega) (by omega),dx];simp[Result.andThen,sliced]
 .rcases jD with⟨rfl,rfl⟩|⟨kh,rfl⟩
  .rw[run_slice_l w t ad _ cap gg kl _ (by omega) (by omega),dx];simp[Result.andThen,sliced]
  .rw[run_slice_lh w t ad len cap gg kl kh _ _ (by omega) (by omega) (by omega),dx];simp[Result.andThen,sliced]
section
variable{N:NT}{np:Nat}{S0:aP}{w0:World}{refs:Refs}{σ:St}{a:Go.Act}{w:World}{S:aP}{γ:Nat->Value}
theorem PY{el:Ty}{xs:List el.den}{ad:Option Addr}{cap:Nat}(h:Rep S w (.list el) xs [.slice ad (List.length xs) cap]){i j:Nat}(dP:i<=j)(hj:j<=List.length xs) :
  Rep S w (.list el) ((xs.take j).drop i) [.slice (if cap=i then ad else ad.map (·.add (i*el.size))) (j-i) (cap-i)]:=by
 obtain⟨ad',gL,he,hle,jT,hn,hb⟩:=h;simp only[List.cons.injEq,Value.slice.injEq,and_true,qh]at he;obtain⟨rfl,rfl⟩:=he;have hlen:((xs.take j).drop i).length=j-i:=by simp;omega
 refine⟨_,_,by rw[hlen],by rw[hlen];omega,by omega,λh=>?_,λb aW=>?_⟩
 .have:ad=none:=by
   split at h
   .exact h
   .simpa using h
  have:=hn this;omega
 .by_cases hc:cap=i
  .rw[if_pos hc]at aW;have hz:(xs.take j).drop i=[]:=jw (by omega);rw[hz];exact⟨λh=>absurd rfl h,[],trivial,λj v hv=>by simp at hv⟩
  .rw[if_neg hc]at aW;cases ad with
   |none=>simp at aW
   |some b0=>
    simp only[ky,j4]at aW;subst aW;obtain⟨cE,css,ha,hl⟩:=hb b0 rfl;by_cases hx:(xs.take j).drop i=[]
    .rw[hx];exact⟨λh=>absurd rfl h,[],trivial,λj v hv=>by simp at hv⟩
    .have fY:xs≠[]:=λh=>hx (by rw[h];simp);obtain⟨g,o,sp⟩:=b0;have cE:=cE fY;simp at cE;subst cE;have wc:(⟨g,o,none⟩:Addr).add (i*el.size)=⟨g,o+i*el.size,none⟩:=Addr.add_lit _ _ _;rw[wc];refine⟨λ_=>rfl,(css.take j).drop i,(ha.take j).drop i,λq v hq=>?_⟩;have ei:=All2.all_len ha;rw[EO i (λc hc=>ei c (qg hc)),tN j ei,List.getElem?_drop,vm]at hq;split at hq
     .have:=hl _ v hq;simpa[Nat.add_assoc]using this
     .simp at hq
def ORep(R:Leaf->Value->Prop):Option Leaf->Option Value->Prop
 |none,none=>True
 |some l,some v=>R l v
 |_,_=>False
theorem we{d:Nat}{o:Option Leaf}{vo:Option Value}{i:Int}{bx:Nat->BS}(h:bnd d o=some i)(ho:ORep (bY S w γ bx) o vo)(hi:0<=i):VB d vo i.toNat:=by
 unfold bnd at h;split at h
 .cases vo with
  |none=>simp at h;exact .inl ⟨rfl,by omega⟩
  |some v=>exact ho.elim
 .cases vo with
  |none=>exact ho.elim
  |some v=>simp at h;rename_i k n;have hv:v = .int k n:=qZ (S:=S) (w:=w) ho;refine .inr ⟨k,?_⟩;rw[hv,show (n:Int)=i from h,Int.toNat_of_nonneg hi]
 .simp at h
theorem Zo{P:Program}{E:Env}(hT:cH P E.T)(hR:Rel N np S0 w0 refs σ a w S γ){rd:Nat->BS}(aZ:RdOk σ rd){t:TypeId}{ti:TyI}(ht:E.T t=some ti)
  {d:Nat}{x l:Leaf}{lo hi:Option Leaf}{vx:Value}{wg Bv:Option Value}{u:Ups}(bg:∀k,kF (rd k)=true->σ.bx k = .free)(h:jps (parK np) rd ti d x lo hi=some (true,l,u))
  (hx:bY S w γ σ.bx x vx)(jC:ORep (bY S w γ σ.bx) lo wg)(jD:ORep (bY S w γ σ.bx) hi Bv) :
  ∃v S' γ',(Instr.sliceAt t vx wg Bv none).run P w = .ok v w/\Rel N np S0 w0 refs (σ.upd u) a w S' γ'/\bR S' w γ' (σ.upd u).bx (.one l) v:=by
 unfold jps at h;split at h
 ·-- a datum
  rename_i el xs;split at h
  .rename_i bG;obtain⟨hd,_,te,cV,dh⟩:=oX hT ht bG;have cp:=ni hT cV dh;split at h
   .rename_i i j bd fN;simp only[j4,j8,jb,jq]at h;obtain⟨⟨h0,h1,h2⟩,rfl,rfl⟩:=h;have iZ:=hx;obtain⟨ad,cap,hv,hle,_⟩:=hx;simp at hv;subst hv;have hlen:((List.length xs:Nat):Int)=Int.ofNat (List.length xs):=rfl;refine⟨_,S,γ,yE hd (s:=el.size) ?_ (we bd jC h0) (we fN jD (by omega)) (by omega) (by omega),hR,PY iZ (by omega) (by omega),λ_=>rfl⟩;rw[iV hT cV,cp]
   .simp at h
  .simp at h
 .rename_i k;split at h
  ·-- the tail
   split at h
   .rename_i e el xs f hk;split at h
    .rename_i bG;obtain⟨hd,_,te,cV,dh⟩:=oX hT ht bG;have cp:=ni hT cV dh;split at h
     .rename_i i bd;simp only[j4,j8,jb,jq]at h;obtain⟨⟨h0,h1⟩,rfl,rfl⟩:=h;have cd:=aZ.nm hk;have hk:=aZ.live hk;have hz:=hx.2.2 _ hk;obtain⟨css,aX,_⟩:=ie cd (hR.box k _ hk)
      obtain⟨ad,cap,hg,cR⟩:∃ad cap,γ k = .slice ad xs.length cap/\xs.length<=cap:=by
       rcases aX.2 with⟨hg,hn⟩|⟨g,cap,cur,hg,_,_,jU,_⟩
       .exact⟨none,0,by rw[hg,hn],by omega⟩
       .exact⟨_,cap,hg,jU⟩
      have wh:VB xs.length Bv xs.length:=by
       cases Bv with
       |none=>exact .inl ⟨rfl,rfl⟩
       |some v=>exact jD.elim
      subst hz;have aS:=yE (ad:=ad) (w:=w) hd (s:=el.size) (by rw[iV hT cV,cp]) (we bd jC h0) wh (by omega) cR;rw[<-hg]at aS;refine⟨_,S,γ,aS,hR,⟨hx.1,rfl,λb hb=>?_⟩,λ_=>rfl⟩;rw[show (σ.upd []).bx k=σ.bx k from rfl,hk]at hb;cases hb;exact⟨cd,by omega,ad,cap,hg,rfl⟩
     .simp at h
    .simp at h
   .simp at h
  .rename_i hh;split at h
   .rename_i e el xs f hk;split at h
    .rename_i bG;obtain⟨hd,_,te,cV,dh⟩:=oX hT ht bG;have cp:=ni hT cV dh;split at h
     .rename_i i j bd fN;have cd:=aZ.nm hk;have hk:=aZ.live hk;have hz:=hx.2.2 _ hk;split at h
      ·-- a tQ: its head
       split at h
       .rename_i PZ;simp only[Option.isNone_iff_eq_none]at PZ;subst PZ;simp only[j4,j8,jb,jq]at h;obtain⟨⟨h0,h1⟩,rfl,rfl⟩:=h;obtain⟨css,aX,_⟩:=ie cd (hR.box k _ hk)
        have tR:VB 0 wg 0:=by
         cases wg with
         |none=>exact .inl ⟨rfl,rfl⟩
         |some v=>exact jC.elim
        have wh:=we fN jD h0
        obtain⟨ad,cap,hg,cR,Zp⟩:∃ad cap,γ k = .slice ad xs.length cap/\xs.length<=cap/\(if cap=0 then ad else ad.map (·.add (0*el.size)))=ad:=by
         rcases aX.2 with⟨hg,hn⟩|⟨g,cap,cur,hg,_,_,jU,_⟩
         .exact⟨none,0,by rw[hg,hn],by omega,rfl⟩
         .exact⟨_,cap,hg,jU,by simp[Addr.add_lit]⟩
        have aS:=yE (ad:=ad) (w:=w) hd (s:=el.size) (by rw[iV hT cV,cp]) tR wh (by omega) (show j.toNat<=cap by omega);rw[<-hg,Zp]at aS;subst hz;refine⟨_,S,γ,aS,hR,⟨hx.1,rfl,λb hb=>?_⟩,λ_=>rfl⟩;rw[show (σ.upd []).bx k=σ.bx k from rfl,hk]at hb;cases hb;exact⟨cd,by omega,ad,cap,hg,rfl⟩
       .simp at h
      rename_i mH;have mH:parK np k=false:=by simpa using mH
      split at h
      ·-- cut short
       rename_i eY;simp only[jb,Option.isNone_iff_eq_none,Bool.not_eq_eq_eq_not,ji]at eY;obtain⟨rfl,rfl⟩:=eY;split at h
       .rename_i iY;simp only[j4,j8,jb,jq]at h;obtain⟨⟨h0,h1⟩,rfl,rfl⟩:=h;have Bw:=bg d iY;have rh:d≠k:=by rintro rfl;rw[Bw]at hk;simp at hk
        obtain⟨css,aX,aB,hS⟩:=ie cd (hR.box k _ hk);have ei:=All2.all_len aB
        have tR:VB 0 wg 0:=by
         cases wg with
         |none=>exact .inl ⟨rfl,rfl⟩
         |some v=>exact jC.elim
        have wh:=we fN jD h0;have bD:=HV hR hk;have ov:(σ.setB k .gone).bx d = .free:=by rw[cJ σ _ rh];exact Bw
        have ph:j.toNat<=xs.length:=by omega
        have Zq:css.length=xs.length:=aB.length.symm
        have key:∃v',(Instr.sliceAt t vx wg Bv none).run P w = .ok v' w/\w.ownsRow 0 e el.size v' (List.take j.toNat xs).length (List.take j.toNat css).flatten/\blk v'=blk vx:=by
         rw[hz];have aA:(List.take j.toNat xs).length=j.toNat:=by simp;omega
         rcases aX.2 with⟨hg,hn⟩|⟨g,cap,cur,hg,_,hh,jU,jT,dL,ec⟩
         .rw[hg];have Zr:j.toNat=0:=by omega
          refine⟨_,yE hd (s:=el.size) (len:=0) (by rw[iV hT cV,cp]) tR (by rw[hn]at wh;exact wh) (by omega) (by omega),?_,by simp;rfl⟩;rw[Zr];simpa using World.ownsRow_nil w 0 e el.size
         .rw[hg];refine⟨_,yE hd (s:=el.size) (by rw[iV hT cV,cp]) tR wh (by omega) (by omega),?_,?_⟩
          .refine⟨?_,.inr ⟨g,cap,cur,?_,kb _,hh,by omega,jT,dL,?_⟩⟩
           .rw[tN _ ei,qd,aX.1,aA];exact Nat.min_eq_left (jv _ ph)
           .rw[aA];by_cases hc:cap=0
            .simp[hc]
            .simp[hc,Addr.add_lit]
           .rw[aA,tN _ ei,<-ec,y8,Nat.min_eq_left (jv _ ph)]
          .by_cases hc:cap=0
           .simp[hc];rfl
           .simp[hc,Addr.add_lit];rfl
        obtain⟨v',aS,cK,hblk⟩:=key
        have lY:∀g,blk v'=some g->w0.heap.size<=g/\(∀k' b,(σ.setB k .gone).bx k' = .live b->blk (γ k')≠some g)/\g<w.heap.size:=by
         intro g hg;rw[hblk,hz]at hg;refine⟨?_,λk' b' aW aC=>?_,lU (hR.box k _ hk) hg⟩
         .rcases hR.own k _ g hk hg with h|h
          .exact h
          .rw[mH]at h;simp at h
         .have cg:k'≠k:=by rintro rfl;rw[gj]at aW;simp at aW
          rw[cJ σ _ cg]at aW;exact hR.apart k' k _ _ g cg aW hk aC hg
        obtain⟨dt,fM⟩:=EP bD ov (hm:=cd) (w':=w) (S':=S) (v':=v') (e:=e) (el:=el) (zs:=List.take j.toNat xs) (frz:=false) (css:=List.take j.toNat css) (.refl S w) (λg hg bq=>rfl) (jl _) lY
         (λg o hs=> .inl hs) rfl rfl rfl cK (aB.take _) (λg hg=>⟨λ_=>(hS g (by rw[<-hz,<-hblk];exact hg)).1 rfl,by simp⟩) (λg hg=>hR.kw_live hk (by rw[<-hz,<-hblk];exact hg))
        exact⟨v',S,_,aS,dt,fM⟩
       .simp at h
      ·-- shared
       simp only[j4,j8,jb,jq]at h;obtain⟨⟨h0,h1,h2⟩,rfl,rfl⟩:=h;obtain⟨S',df,aM,bA⟩:=HP hR cd hk mH;have kL:=bA;obtain⟨ad,cap,hv,hle,_⟩:=bA;simp at hv;rw[hv]at kL;refine⟨_,S',γ,by rw[hz,hv];exact yE hd (s:=el.size) (by rw[iV hT cV,cp]) (we bd jC h0) (we fN jD (by omega)) (by omega) (by omega),df,PY kL (by omega) (by omega),λ_=>rfl⟩
     .simp at h
    .simp at h
   .simp at h
 .simp at h
theorem P0(hR:Rel N np S0 w0 refs σ a w S γ){x:Leaf}{k i e:Nat}{el:Ty}{xs:List el.den}{f:Bool}{vx:Value}(h:Ez x=some (k,i))(cd:isM e=false)(hk:σ.bx k = .live (.lst e el xs f))
  (hx:bY S w γ σ.bx x vx):i<=xs.length/\((xs.length=0/\vx = .slice none 0 0)\/
   ∃g cap,γ k = .slice (some ⟨g,0,none⟩) xs.length cap/\xs.length<=cap/\vx = .slice (some ⟨g,if cap=i then 0 else i*el.size,none⟩) (xs.length-i) (cap-i)):=by
 obtain⟨css,aX,aB,hS⟩:=ie cd (hR.box k _ hk);unfold Ez at h;split at h
 .simp only[j4,j8]at h;obtain⟨rfl,rfl⟩:=h;have hz:=hx.2.2 _ hk;refine⟨kb _,?_⟩;rcases aX.2 with⟨hg,hn⟩|⟨g,cap,cur,hg,_,hh,jU,jT,dL,ec⟩
  .exact .inl ⟨hn,by rw[hz,hg]⟩
  .exact .inr ⟨g,cap,hg,jU,by rw[hz,hg];simp⟩
 .rename_i k' i';simp only[j4,j8]at h;obtain⟨rfl,rfl⟩:=h;obtain⟨_,hi,ad,cap,aC,hv⟩:=hx.2.2 _ hk;refine⟨hi,?_⟩;rcases aX.2 with⟨hg,hn⟩|⟨g,gL,cur,hg,_,hh,jU,jT,dL,ec⟩
  .rw[hg]at aC;simp only[Value.slice.injEq]at aC;obtain⟨rfl,_,rfl⟩:=aC;exact .inl ⟨hn,by rw[hv];simp;omega⟩
  .rw[hg]at aC;simp only[Value.slice.injEq,qh]at aC;obtain⟨rfl,rfl⟩:=aC;refine .inr ⟨g,gL,hg,jU,?_⟩;rw[hv];by_cases hc:gL=i'
   .rw[if_pos hc,if_pos hc]
   .rw[if_neg hc,if_neg hc];simp[Addr.add_lit]
 .simp at h
theorem P1{P:Program}(hR:Rel N np S0 w0 refs σ a w S γ){k i e g cap:Nat}{el:Ty}{xs zs:List el.den}(hk:σ.bx k = .live (.lst e el xs false))(hg:γ k = .slice (some ⟨g,0,none⟩) xs.length cap)
  {cz:List (List Value)}(hz:All2 (λx c=>Rep S w el x c) zs cz)(hl:i+zs.length<=xs.length) :
  ∃w',(storeCells ⟨g,i*el.size,none⟩ cz.flatten).run P w = .ok () w'/\Rel N np S0 w0 refs (σ.setB k (.live (.lst e el (List.take i xs++(zs++List.drop (i+zs.length) xs)) false))) a w' S γ:=by
 have cd:=Po hg (hR.box k _ hk);obtain⟨css,aX,aB,hS⟩:=ie cd (hR.box k _ hk);have wi:cz.flatten.length=zs.length*el.size:=All2.flatten_length (λx c hx=>Rep.length el x c hx) hz;have h1:∀u∈cz.flatten,One u:=by intro u hu;obtain⟨c,hc,Ba⟩:=List.mem_flatten.1 hu;obtain⟨x,_,hx⟩:=hz.mem_right c hc;exact Rep.one el x c hx u Ba
 rcases aX.2 with⟨aC,hn⟩|⟨g',gL,cur,aC,_,hh,jU,jT,dL,ec⟩
 .rw[hg]at aC;simp at aC
 rw[hg]at aC;simp only[Value.slice.injEq,j4,Addr.mk.injEq,and_true,qh]at aC;obtain⟨rfl,rfl⟩:=aC;have eZ:i*el.size+zs.length*el.size<=xs.length*el.size:=by rw[<-Nat.add_mul];exact jv _ hl
 have ik:xs.length*el.size<=cap*el.size:=jv _ jU;have aM:=run_storeCells_at P g (i*el.size) e cz.flatten 0 cur w hh (by rw[wi,dL];omega) h1;simp only[Nat.add_zero]at aM;refine⟨_,aM,?_⟩;have ei:=All2.all_len aB;have H3:=All2.all_len hz;have tM:∀o,¬S g o:=(hS g (by rw[hg];rfl)).1 rfl;refine Bn hR hk (by rw[hg];rfl) tM (b':= .lst e el _ false) ⟨rfl,rfl,λ_=>by simp;omega⟩ hh (λij dm=>?_);have hlen:(List.take i xs++(zs++List.drop (i+zs.length) xs)).length=xs.length:=by simp;omega
 refine Bc cd ⟨css.take i++(cz++css.drop (i+zs.length)),⟨?_,.inr ⟨g,cap,_,?_,kb _,setRow_heap w g cur _ e (0,0) hh,by rw[hlen];exact jU,jT,?_,?_⟩⟩,?_,λg' aC=>?_⟩
 .rw[hlen,vW (m:=el.size)]
  .have:=aB.length;have:=hz.length;simp only[ja,qd,zu];congr 1;omega
  .intro d hd;simp only[jn]at hd;rcases hd with hd|hd|hd
   .exact ei d (qg hd)
   .exact H3 d hd
   .exact ei d (zj hd)
 .rw[hlen];exact hg
 .simp only[vd,ja,qd,zu,qe];omega
 .rw[hlen];simp only[vj,tN i ei,EO _ ei,<-ec];have hA:(cur.toList.take (i*el.size)).length=i*el.size:=by simp;omega
  rw[jd,List.take_append,hA,List.take_of_length_le (by omega),y8,Nat.min_eq_left (by omega)];congr 1;rw[List.take_append,wi,List.take_of_length_le (by omega),Nat.add_mul];congr 1;rw[List.drop_take];congr 1;omega
 .exact((aB.mono (λx c hx=>Rep.keep dm _ _ _ hx)).take _).append ((hz.mono (λx c hx=>Rep.keep dm _ _ _ hx)).append ((aB.mono (λx c hx=>Rep.keep dm _ _ _ hx)).drop _))
 .rw[hg]at aC;simp[blk]at aC;subst aC;exact⟨λ_=>tM,by simp⟩
theorem P2{σ:St}{k:Nat}{b:BS}(h:σ.bx k=b):σ.setB k b=σ:=by
 unfold St.setB;congr 1;funext j;split
 .rename_i hj;subst hj;exact h.symm
 .rfl
theorem Zs{P:Program}{E:Env}(hT:cH P E.T)(hR:Rel N np S0 w0 refs σ a w S γ){rd:Nat->BS}(aZ:RdOk σ rd){t ty:TypeId}{ti:TyI}(ht:E.T t=some ti)
  {x y l:Leaf}{u:Ups}{vx vy:Value}(h:yj rd ti.ty x y=some (l,u))(hx:bY S w γ σ.bx x vx)(hy:bY S w γ σ.bx y vy) :
  ∃v w',(Builtin.copy_ #[t,t] ty #[vx,vy]).run P w = .ok v w'/\Rel N np S0 w0 refs (σ.upd u) a w' S γ/\bR S w' γ (σ.upd u).bx (.one l) v:=by
 unfold yj at h;split at h
 .rename_i k i Bz;split at h
  .rename_i e el xs hk;split at h
   .rename_i bG;split at h
    .rename_i ys gn;simp only[j4,j8]at h;obtain⟨rfl,rfl⟩:=h;have cd:=aZ.nm hk;have hk:=aZ.live hk;obtain⟨hd,bV,te,cV,dh⟩:=oX hT ht bG;have cp:=ni hT cV dh;have eJ:(sizeOf ti.elem).run P w = .ok el.size w:=by rw[iV hT cV,cp]
     obtain⟨ad,c,cy,HX,fw,wa,db⟩:=PN hR aZ gn hy;subst HX;obtain⟨hi,cD⟩:=P0 hR Bz cd hk hx;have BA:=All2.all_len wa;have lF:cy.length=ys.length:=wa.length.symm;have iH:(List.take (xs.length-i) ys).length=min ys.length (xs.length-i):=by simp;omega
     have wj:over xs i ys=List.take i xs++(List.take (xs.length-i) ys++List.drop (i+(List.take (xs.length-i) ys).length) xs):=by
      unfold over;congr 2;rw[iH];by_cases h:ys.length<=xs.length-i
      .rw[Nat.min_eq_left h]
      .rw[Nat.min_eq_right (by omega),jf (by omega),jf (by omega)]
     have tS:(Builtin.firstCells el.size (min ys.length (xs.length-i)) (.slice ad ys.length c)).run P w = .ok (List.take (xs.length-i) cy).flatten.toArray w:=by
      cases ad with
      |none=>have h0:=(fw rfl).1;have:cy=[]:=jw (by omega);subst this;simp[Builtin.firstCells]
      |some b=>
       have e1:(List.take (xs.length-i) cy).flatten.length=min ys.length (xs.length-i)*el.size:=by rw[vW (m:=el.size) (λc hc=>BA c (qg hc)),qd,lF,Nat.min_comm]
       have:=run_loadCells_list (P:=P) w b (List.take (xs.length-i) cy).flatten (λj v hj=>by
        rw[tN _ BA,vm]at hj;split at hj
        .exact db b rfl j v hj
        .simp at hj)
       rw[e1]at this;simpa[Builtin.firstCells]using this
     have aS:∀base dl dc w',vx = .slice base dl dc->dl=xs.length-i->(base=none->w'=w)->(∀ab,base=some ab->(storeCells ab (List.take (xs.length-i) cy).flatten).run P w = .ok () w')->
       (Builtin.copy_ #[t,t] ty #[vx,.slice ad ys.length c]).run P w = .ok (goInt ((min ys.length (xs.length-i):Nat):Int)) w':=by
      intro base dl dc w' hv nt dJ eX;subst hv nt;have r8:Nat.min ys.length (xs.length-i)=min ys.length (xs.length-i):=rfl;cases base with
      |none=>simp[Builtin.copy_,run_underlying hd,Builtin.lenOf,eJ,r8,tS,dJ rfl]
      |some ab=>simp[Builtin.copy_,run_underlying hd,Builtin.lenOf,eJ,r8,tS,eX ab rfl]
     by_cases hn:min ys.length (xs.length-i)=0
     .have hz:List.take (xs.length-i) ys=[]:=jw (by rw[iH];exact hn);have gC:(List.take (xs.length-i) cy).flatten=[]:=by have:List.take (xs.length-i) cy=[]:=jw (by rw[qd,lF];omega);rw[this];rfl
      have H4:over xs i ys=xs:=by rw[wj,hz];simp
      refine⟨_,w,?_,?_,⟨rfl,λ_=>rfl⟩⟩
      .rcases cD with⟨h0,hv⟩|⟨g,cap,hg,cR,hv⟩
       .exact aS none 0 0 w hv (by omega) (λ_=>rfl) (λab cj=>by simp at cj)
       .refine aS _ _ _ w hv rfl (λ_=>rfl) (λab cj=>?_);rw[gC];rfl
      .show Rel N np S0 w0 refs (σ.setB k (.live (.lst e el (over xs i ys) false))) a w S γ;rw[H4,P2 hk];exact hR
     .rcases cD with⟨h0,hv⟩|⟨g,cap,hg,cR,hv⟩
      .omega
      .have lW:cap≠i:=by omega
       rw[if_neg lW]at hv;obtain⟨w',aM,dt⟩:=P1 (P:=P) hR hk hg (i:=i) (wa.take (xs.length-i)) (by rw[iH];omega);refine⟨_,w',aS _ _ _ w' hv rfl (λh=>by simp at h) (λab cj=>?_),?_,⟨rfl,λ_=>rfl⟩⟩
       .simp only[j4]at cj;subst cj;exact aM
       .show Rel N np S0 w0 refs (σ.setB k (.live (.lst e el (over xs i ys) false))) a w' S γ;rw[wj];exact dt
    .simp at h
   .simp at h
  .simp at h
 .simp at h
theorem Zt{P:Program}{E:Env}(hT:cH P E.T)(hR:Rel N np S0 w0 refs σ a w S γ){rd:Nat->BS}(aZ:RdOk σ rd){t ty:TypeId}{ti:TyI}(ht:E.T t=some ti)
  {x:Leaf}{u:Ups}{vx:Value}(h:yk rd ti.ty x=some u)(hx:bY S w γ σ.bx x vx) :
  ∃v w',(Builtin.clear_ #[t] ty #[vx]).run P w = .ok v w'/\Rel N np S0 w0 refs (σ.upd u) a w' S γ:=by
 unfold yk at h;split at h
 .rename_i k i Bz;split at h
  .rename_i e el xs hk;split at h
   .rename_i bG;simp only[j4]at h;subst h;have cd:=aZ.nm hk;have hk:=aZ.live hk;obtain⟨hd,bV,te,cV,dh⟩:=oX hT ht bG;have cp:=ni hT cV dh;obtain⟨z,hz,gC⟩:=yx hT cV w dh;obtain⟨hi,cD⟩:=P0 hR Bz cd hk hx;by_cases hn:xs.length-i=0
    .have wj:List.take i xs++List.replicate (xs.length-i) el.dflt=xs:=by rw[hn];simp[List.take_of_length_le (show xs.length<=i by omega)]
     refine⟨.tuple #[],w,?_,?_⟩
     .rcases cD with⟨h0,hv⟩|⟨g,cap,hg,cR,hv⟩
      .simp[Builtin.clear_,run_underlying hd,hv]
      .rw[hn]at hv;simp[Builtin.clear_,run_underlying hd,hv]
     .show Rel N np S0 w0 refs (σ.setB k (.live (.lst e el (List.take i xs++List.replicate (xs.length-i) el.dflt) false))) a w S γ;rw[wj,P2 hk];exact hR
    .rcases cD with⟨h0,hv⟩|⟨g,cap,hg,cR,hv⟩
     .omega
     .have lW:cap≠i:=by omega
      rw[if_neg lW]at hv
      have P3:All2 (λx c=>Rep S w el x c) (List.replicate (xs.length-i) el.dflt) (List.replicate (xs.length-i) (iD el)):=by
       have h0:=ow (S:=S) (w:=w) el
       have:∀n,All2 (λx c=>Rep S w el x c) (List.replicate n el.dflt) (List.replicate n (iD el)):=by
        intro n;induction n with
        |zero=>exact trivial
        |succ n ih=>exact⟨h0,ih⟩
       exact this _
      obtain⟨w',aM,dt⟩:=P1 (P:=P) hR hk hg (i:=i) P3 (by simp;omega);refine⟨.tuple #[],w',?_,?_⟩
      .have Zu:0<z.cells.size:=by have:=HY gC;omega
       have dn:(Builtin.zeroCells z.cells (xs.length-i)).toList=(List.replicate (xs.length-i) (iD el)).flatten:=by rw[<-gC];exact PS z.cells (xs.length-i) Zu
       rw[hv];obtain⟨m,hm⟩:∃m,xs.length-i=m+1:=⟨xs.length-i-1,by omega⟩;rw[hm]at dn aM ⊢;simp[Builtin.clear_,run_underlying hd,hz,dn,aM]
      .show Rel N np S0 w0 refs (σ.setB k (.live (.lst e el (List.take i xs++List.replicate (xs.length-i) el.dflt) false))) a w' S γ;have:List.drop (i+(List.replicate (xs.length-i) el.dflt).length) xs=[]:=jf (by simp;omega);rw[this,k7]at dt;exact dt
   .simp at h
  .simp at h
 .simp at h
theorem Zv(hR:Rel N np S0 w0 refs σ a w S γ){k d e m:Nat}{el:Ty}{xs:List el.den}(hk:σ.bx k = .live (.lst e el xs false))(mH:parK np k=false)(Bw:σ.bx d = .free){ad:Option Addr}{cap:Nat}(hm:m<=xs.length)
  (hg:γ k = .slice ad xs.length cap) :
  ∃γ',Rel N np S0 w0 refs (σ.upd [(k,.gone),(d,.live (.lst e el (List.take m xs) false))]) a w S γ'/\bR S w γ' (σ.upd [(k,.gone),(d,.live (.lst e el (List.take m xs) false))]).bx (.one (.ol d)) (.slice ad m cap):=by
 have rh:d≠k:=by rintro rfl;rw[Bw]at hk;simp at hk
 have cd:=Po hg (hR.box k _ hk);obtain⟨css,aX,aB,hS⟩:=ie cd (hR.box k _ hk);have ei:=All2.all_len aB;have bD:=HV hR hk;have ov:(σ.setB k .gone).bx d = .free:=by rw[cJ σ _ rh];exact Bw
 have aA:(List.take m xs).length=m:=by simp;omega
 have hblk:blk (.slice ad m cap)=blk (γ k):=by rw[hg];cases ad<;>rfl
 have cK:w.ownsRow 0 e el.size (.slice ad m cap) (List.take m xs).length (List.take m css).flatten:=by
  refine⟨?_,?_⟩
  .rw[tN _ ei,qd,aX.1,aA];exact Nat.min_eq_left (jv _ hm)
  .rcases aX.2 with⟨aC,hn⟩|⟨g,gL,cur,aC,_,hh,jU,jT,dL,ec⟩
   .rw[hg]at aC;simp only[Value.slice.injEq]at aC;obtain⟨rfl,_,rfl⟩:=aC;exact .inl ⟨by rw[show m=0 by omega],by omega⟩
   .rw[hg]at aC;simp only[Value.slice.injEq,qh]at aC;obtain⟨rfl,rfl⟩:=aC;refine .inr ⟨g,cap,cur,by rw[aA],kb _,hh,by omega,jT,dL,?_⟩;rw[aA,tN _ ei,<-ec,y8,Nat.min_eq_left (jv _ hm)]
 have lY:∀g,blk (.slice ad m cap)=some g->w0.heap.size<=g/\(∀k' b,(σ.setB k .gone).bx k' = .live b->blk (γ k')≠some g)/\g<w.heap.size:=by
  intro g hg;rw[hblk]at hg;refine⟨?_,λk' b' aW aC=>?_,lU (hR.box k _ hk) hg⟩
  .rcases hR.own k _ g hk hg with h|h
   .exact h
   .rw[mH]at h;simp at h
  .have cg:k'≠k:=by rintro rfl;rw[gj]at aW;simp at aW
   rw[cJ σ _ cg]at aW;exact hR.apart k' k _ _ g cg aW hk aC hg
 obtain⟨dt,fM⟩:=EP bD ov (hm:=cd) (w':=w) (S':=S) (v':= .slice ad m cap) (e:=e) (el:=el) (zs:=List.take m xs) (frz:=false) (css:=List.take m css) (.refl S w) (λg hg bq=>rfl) (jl _) lY
  (λg o hs=> .inl hs) rfl rfl rfl cK (aB.take _) (λg hg=>⟨λ_=>(hS g (by rw[<-hblk];exact hg)).1 rfl,by simp⟩) (λg hg=>hR.kw_live hk (by rw[<-hblk];exact hg))
 exact⟨_,dt,fM⟩
end
section
variable{N:NT}{np:Nat}{S0:aP}{w0:World}{refs:Refs}{σ:St}{a:Go.Act}{w:World}{S:aP}{γ:Nat->Value}
theorem Zw{el:Ty}{z:Value}(hz:z.cells.toList=iD el)(n:Nat)(bV:0<el.size) :
  ∃css,All2 (λx c=>Rep S w el x c) (List.replicate n el.dflt) css/\((Array.range (n*z.cells.size)).map (λi=>z.cells[i%z.cells.size]!)).toList=css.flatten:=by
 refine⟨List.replicate n (iD el),?_,?_⟩
 .have hz:=ow (S:=S) (w:=w) el;induction n with
  |zero=>exact trivial
  |succ n ih=>exact⟨hz,ih⟩
 .rw[PS z.cells n (by rw[HY hz];exact bV),hz]
theorem Zx{P:Program}{E:Env}(hT:cH P E.T)(hR:Rel N np S0 w0 refs σ a w S γ){rdf:Nat->BS}(bH:RdF np σ rdf){t:TypeId}{ti:TyI}(ht:E.T t=some ti)
  {el:Ty}(bG:ti.ty=some (.list el)){len d:Nat}{ps:List (Nat×Cel)}{vs:Array (Nat×Value)}{xs:List el.den}{u:Ups}(hlen:len*el.size<=16777216)
  (gH:All2 (λp v=>p.1=v.1/\bR S w γ σ.bx p.2 v.2) ps vs.toList)(h:iA rdf el (List.replicate len el.dflt) [] ps=some (xs,u))(hd:σ.bx d = .free) :
  ∃v' w' S' γ',(Instr.buildSlice t len vs).run P w = .ok v' w'/\Rel N np S0 w0 refs (σ.upd (u++[(d,.live (.lst ti.elem el xs false))])) a w' S' γ'/\
   bR S' w' γ' (σ.upd (u++[(d,.live (.lst ti.elem el xs false))])).bx (.one (.ol d)) v':=by
 obtain⟨nj,bV,te,cV,dh⟩:=oX hT ht bG;have cp:=ni hT cV dh;obtain⟨hf,cQ⟩:=H0 bH bV ps vs.toList gH h .nil;obtain⟨S1,bD,cG,dN,dO⟩:=nk u σ S hR hf;obtain⟨z,hz,gC⟩:=yx hT cV w dh;have mG:z.cells.size=el.size:=HY gC;obtain⟨H5,BB,iG⟩:=Zw (S:=S1) (w:=w) gC len bV;obtain⟨bz,jB,fP,aB,dn⟩:=cQ S1 cG dN H5 _ BB iG
 have lZ:xs.length=len:=by
  have key:∀(ps:List (Nat×Cel)){xs cI:List el.den}{u u':Ups},iA rdf el xs u ps=some (cI,u')->cI.length=xs.length:=by
   intro ps;induction ps with
   |nil=>intro xs cI u u' h;simp[iA]at h;rw[h.1]
   |cons p ps ih=>
    intro xs cI u u' h;obtain⟨i,c⟩:=p;simp only[iA]at h;split at h
    .split at h
     .rw[ih h];simp
     .simp at h
    .simp at h
  rw[key ps h];simp
 have dL:bz.size=len*el.size:=by have:=All2.flatten_length (λx c hx=>Rep.length el x c hx) aB;rw[<-dn,lZ]at this;simpa using this
 have hzero:(if len*ti.size=0 then (Pure.pure #[]:Sem (Array Value)) else (do pure (<-zeroValue ti.elem).cells))=(if len*ti.size=0 then Pure.pure #[] else (do pure (<-zeroValue ti.elem).cells)):=rfl
 have aS:(Instr.buildSlice t len vs).run P w = .ok (.slice (some ⟨w.heap.size,0,none⟩) len len) (w.alloc (.cells bz ti.elem)):=by
  have dp:¬len*te.size>2^24:=by rw[<-cp];omega
  simp only[Instr.buildSlice,Sem.run_bind,run_underlying nj,Result.andThen_ok,iV hT cV,Sem.run_ite,if_neg dp];by_cases h0:len*te.size=0
  .have kK:len=0:=by
    rw[<-cp]at h0;rcases Nat.mul_eq_zero.1 h0 with h|h
    .exact h
    .omega
   subst kK
   have pj:Instr.fill (λi=>some (i*te.size,te.size)) ((Array.range (0*te.size)).map (λi=>(#[]:Array Value)[i%(#[]:Array Value).size]!)) vs.toList=some bz:=by
    rw[<-cp];have:((Array.range (0*el.size)).map (λi=>(#[]:Array Value)[i%(#[]:Array Value).size]!))=((Array.range (0*z.cells.size)).map (λi=>z.cells[i%z.cells.size]!)):=by apply qr;simp
    rw[this];exact fP
   rw[Nat.zero_mul]at pj;simp only[h0,if_true,Sem.run_pure,Result.andThen_ok,pj,Sem.run_bind,newRow,run_newObj,World.alloc_eq]
  .have wk:Instr.fill (λi=>some (i*te.size,te.size)) ((Array.range (len*te.size)).map (λi=>z.cells[i%z.cells.size]!)) vs.toList=some bz:=by rw[<-cp];rw[mG]at fP ⊢;exact fP
   simp only[h0,za,Sem.run_bind,hz,Sem.run_pure,Result.andThen_ok,wk,newRow,run_newObj,World.alloc_eq]
 rw[kH];have aM:=yC bD (.cells bz ti.elem)
 obtain⟨dt,fM⟩:=EP bD (dO.free hd) (hm:=HC hT ht) (w':=w.alloc (.cells bz ti.elem)) (S':=S1) (v':= .slice (some ⟨w.heap.size,0,none⟩) len len) (e:=ti.elem) (el:=el) (zs:=xs) (frz:=false) (css:=jB)
  aM (λg hg _=>heap_alloc_old w _ hg) (by simp) (λg hg=>by
   simp[blk]at hg;subst hg;exact⟨hR.grow,λk b hk aC=>by have:=lU (bD.box k b hk) aC;omega,by simp⟩) (λg o hs=> .inl hs) rfl rfl rfl
  (by
   rw[lZ,<-dn];have hle:len<=maxLen:=by have:len*1<=len*el.size:=Nat.mul_le_mul_left _ bV;simp only[maxLen];omega
   exact World.ownsRow_lit w bz len (kb _) hle dL) (aB.mono (λx c hx=>Rep.keep aM _ _ _ hx)) (λg hg=>by
   simp[blk]at hg;subst hg;exact⟨λ_ o=>EJ bD o,by simp⟩) (λg hg=>by simp[blk]at hg;subst hg;exact bD.kw_new (jl _))
 exact⟨_,_,S1,_,aS,dt,fM⟩
theorem yF{rd:Nat->BS}(aZ:RdF np σ rd):∀{ls:List Leaf}{xs:List TV}{u:Ups}{zs:List Value},tvs rd ls=some (xs,u)->All2 (bY S w γ σ.bx) ls zs->
  FrzL np σ.bx u/\∀S' w',dg S w S' w'->Froz σ.bx γ S' w' u->All2 (λx z=>Rep S' w' x.t x.v [z]) xs zs
 |[],xs,u,zs,h,ha=>by
  simp[tvs]at h;obtain⟨rfl,rfl⟩:=h;cases zs with
  |nil=>exact⟨.nil,λ_ _ _ _=>trivial⟩
  |cons _ _=>exact ha.elim
 |l::ls,xs,u,zs,h,ha=>by
  cases zs with
  |nil=>exact ha.elim
  |cons z zs=>
   simp only[tvs]at h;split at h
   .rename_i EY u1 h1;obtain⟨f1,p1⟩:=yF aZ h1 ha.2;split at h
    .rename_i t v;simp only[j4,j8]at h;obtain⟨rfl,rfl⟩:=h;exact⟨f1,λS' w' hk hf=>⟨Rep.keep hk _ _ _ ha.1,p1 S' w' hk hf⟩⟩
    .rename_i k;split at h
     .rename_i e t es f hk;simp only[j4,j8]at h;obtain⟨rfl,rfl⟩:=h;have br:=aZ.ok.live hk;refine⟨λx hx=>?_,λS' w' aM hf=>⟨?_,p1 S' w' aM (λx hx=>hf x (List.mem_cons_of_mem _ hx))⟩⟩
      .rcases jg.1 hx with rfl|hx
       .exact⟨aZ.par hk,e,t,es,f,br,rfl,aZ.ok.nm hk⟩
       .exact f1 x hx
      .have:=hf (k,_) (zf ..) e t es f br;rw[ha.1.2.2 _ br];exact this
     .simp at h
    .simp at h
   .simp at h
theorem Zy(hR:Rel N np S0 w0 refs σ a w S γ){k:Nat}{ls:List Leaf}{f:Bool}(hk:σ.bx k = .live (.cell ls f))(hp:parK np k=false){xs:List TV}
  (hx:∀g cur e,γ k = .pointer (some ⟨g,0,none⟩)->w.heap[g]? = some (.cells cur e (0,0))->All2 (bY S w γ σ.bx) ls cur.toList->All2 (λx z=>Rep S w x.t x.v [z]) xs cur.toList) :
  ∃S' g,Rel N np S0 w0 refs (σ.setB k (.live (.cell (xs.map TV.leaf) true))) a w S' γ/\dg S w S' w/\γ k = .pointer (some ⟨g,0,none⟩)/\ic S' w (.p xs) (.pointer (some ⟨g,0,none⟩)):=by
 obtain⟨g,cur,e,hg,hh,eH,h1,PJ,P4⟩:=hR.box k _ hk;have fY:=hx g cur e hg hh eH;let S':aP:=λg' o=>S g' o\/(g'=g/\o<cur.size)
 have aM:dg S w S' w:=λg o h=>⟨.inl h,rfl⟩
 have hle:BxLe γ σ.bx γ (σ.setB k (.live (.cell (xs.map TV.leaf) true))).bx:=by
  intro k' br;by_cases cg:k'=k
  .subst cg;rw[gj];exact⟨by simp,rfl,λb hb=>by simp at hb;subst hb;exact⟨_,hk,trivial⟩⟩
  .rw[cJ σ _ cg];exact⟨br,rfl,λb hb=>⟨b,hb,.refl b⟩⟩
 have bC:∀k' b,(σ.setB k (.live (.cell (xs.map TV.leaf) true))).bx k' = .live b->∃b',σ.bx k' = .live b':=by
  intro k' b hb;by_cases cg:k'=k
  .subst cg;exact⟨_,hk⟩
  .rw[cJ σ _ cg]at hb;exact⟨b,hb⟩
 refine⟨S',g,Rel.step (bx':=(σ.setB k (.live (.cell (xs.map TV.leaf) true))).bx) hR aM hle ?_ ?_ ?_ ?_ ?_ hR.below hR.grow hR.os hR.tape hR.output (λg _ _ h=>⟨rfl,λk' b' aW=>by obtain⟨b2,eX⟩:=bC k' b' aW;exact h k' b2 eX⟩),aM,hg,?_⟩
 .intro k' b hb;by_cases cg:k'=k
  .subst cg;rw[gj]at hb;simp at hb;subst hb;exact⟨g,cur,e,hg,hh,re (fY.mono (λx z hz=>Rep.keep aM _ _ _ hz)),h1,by simp,λ_ o ho=> .inr ⟨rfl,ho⟩⟩
  .rw[cJ σ _ cg]at hb;refine eF.keep aM hle rfl (λg' aC=>⟨rfl,λo=>⟨λhs=>?_,.inl⟩⟩) (hR.box k' b hb);rcases hs with hs|hs
   .exact hs
   .exact absurd (by rw[hg,hs.1];rfl) (hR.apart k' k b _ g' cg hb hk aC)
 .intro k' b g' hb aC;obtain⟨b',aW⟩:=bC k' b hb;exact hR.own k' b' g' aW aC
 .intro k1 k2 b1 b2 g' bq h1 h2 aC;obtain⟨rS,kG⟩:=bC k1 b1 h1;obtain⟨rT,jV⟩:=bC k2 b2 h2;exact hR.apart k1 k2 rS rT g' bq kG jV aC
 .intro g' o hs;rcases hs with hs|hs
  .exact hR.new g' o hs
  .rcases hR.own k _ g hk (by rw[hg];rfl) with h|h
   .exact .inr (by omega)
   .rw[hp]at h;simp at h
 .intro g' o hs;rcases hs with hs|hs
  .exact hR.here g' o hs
  .rw[hs.1];exact(jk.1 hh).1
 .refine⟨g,0,cur.toList,rfl,fY.mono (λx z hz=>Rep.keep aM _ _ _ hz),λj v hv=>?_⟩;have hj:j<cur.size:=by simpa using (ju.1 hv).1
  rw[ke];refine⟨.inr ⟨rfl,hj⟩,?_⟩;rw[cell_of_row w g j cur e (0,0) hh];simpa using hv
theorem P5{rd:Nat->BS}(aZ:RdF np σ rd):∀{cs:List Cel}{l:List Cap}{u:Ups}{zs:List Value},tx rd cs=some (l,u)->Rel N np S0 w0 refs σ a w S γ->All2 (bR S w γ σ.bx) cs zs->
  ∃S',Rel N np S0 w0 refs (σ.upd u) a w S' γ/\dg S w S' w/\All2 (ic S' w) l zs/\(∀k e t xs f,σ.bx k = .live (.lst e t xs f)->∃f',(σ.upd u).bx k = .live (.lst e t xs f'))/\BxLe γ σ.bx γ (σ.upd u).bx/\∀k,σ.bx k = .free->(σ.upd u).bx k = .free
 |[],l,u,zs,h,hR,ha=>by
  simp[tx]at h;obtain⟨rfl,rfl⟩:=h;cases zs with
  |nil=>exact⟨S,hR,.refl S w,trivial,λk e t xs f h=>⟨f,h⟩,.refl _ _,λ_ h=>h⟩
  |cons _ _=>exact ha.elim
 |c::r,l,u,zs,h,hR,ha=>by
  cases zs with
  |nil=>exact ha.elim
  |cons z zs=>
   simp only[tx]at h;split at h
   .rename_i l1 u1 h1;obtain⟨S1,bD,cG,fi,mF,l5,BC⟩:=P5 aZ h1 hR ha.2;split at h
    .rename_i t v;split at h
     .rename_i eY;simp only[j4,j8]at h;obtain⟨rfl,rfl⟩:=h;exact⟨S1,bD,cG,⟨⟨eY,Rep.keep cG _ _ _ ha.1.1⟩,fi⟩,mF,l5,BC⟩
     .simp at h
    .rename_i k;split at h
     .rename_i ls f hk;split at h
      .rename_i xs u2 h2;split at h
       .simp at h
       .rename_i pk;simp only[j4,j8]at h;obtain⟨rfl,rfl⟩:=h;have mH:=aZ.par hk;have hk:=aZ.ok.live hk;have pk:(u1++u2).any (λy=>y.1==k)=false:=qf.2 pk;rw[List.any_append,Bool.or_eq_false_iff]at pk;obtain⟨g,cur,e,hg,hh,eH,_⟩:=hR.box k _ hk;obtain⟨vU,tH⟩:=yF aZ h2 eH;have H6:FrzL np (σ.upd u1).bx u2:=by intro x hx;obtain⟨wm,e',t',cI,f',aW,iZ⟩:=vU x hx;obtain⟨f2,h2⟩:=mF _ e' t' cI f' aW;exact⟨wm,e',t',cI,f2,h2,iZ⟩
        obtain⟨S2,cW,dm,po,l7⟩:=nk u2 (σ.upd u1) S1 bD H6;have BD:Froz σ.bx γ S2 w u2:=by intro x hx e' t' cI f' aW;obtain⟨f2,h2⟩:=mF _ e' t' cI f' aW;exact po x hx e' t' cI f2 h2
        have eW:((σ.upd u1).upd u2).bx k = .live (.cell ls f):=by rw[lV u2 _ pk.2,lV u1 _ pk.1,hk]
        obtain⟨S3,g3,gI,BE,H7,cR⟩:=Zy cW eW mH (xs:=xs) (λg' il e' aC Bh _=>by
         rw[hg]at aC;simp at aC;subst aC;rw[hh]at Bh;simp at Bh;obtain⟨rfl,_⟩:=Bh;exact tH S2 w (cG.trans dm) BD)
        have hz:z=γ k:=by obtain⟨g4,h4,h5⟩:=ha.1.1.2.2 _ hk;rw[h5,h4]
        rw[kH,kH];refine⟨S3,gI,(cG.trans dm).trans BE,⟨by rw[hz,H7];exact cR,fi.mono (λx z hx=>ic.keep (dm.trans BE) hx)⟩,λk' e' t' cI f' aW=>?_,?_,λk' br=>?_⟩
        .obtain⟨f2,h2⟩:=mF _ e' t' cI f' aW;obtain⟨f3,h3⟩:=l7.lst h2;have cg:k'≠k:=by rintro rfl;rw[eW]at h3;simp at h3
         exact⟨f3,by show (((σ.upd u1).upd u2).setB k _).bx k'=_;rw[cJ _ _ cg];exact h3⟩
        .have ij:BxLe γ (σ.upd u1).bx γ ((σ.upd u1).upd u2).bx:=l7.le
         have H8:BxLe γ ((σ.upd u1).upd u2).bx γ ((((σ.upd u1).upd u2)).setB k (.live (.cell (xs.map TV.leaf) true))).bx:=by
          intro k' br;by_cases cg:k'=k
          .subst cg;rw[gj];exact⟨by simp,rfl,λb hb=>by simp at hb;subst hb;exact⟨_,eW,trivial⟩⟩
          .rw[cJ _ _ cg];exact⟨br,rfl,λb hb=>⟨b,hb,.refl b⟩⟩
         have tr:∀{b1 b2 b3:Nat->BS},BxLe γ b1 γ b2->BxLe γ b2 γ b3->BxLe γ b1 γ b3:=by intro b1 b2 b3 wo Zz k' br;obtain⟨q1,q2,q3⟩:=wo k' br;obtain⟨r1,r2,r3⟩:=Zz k' q1;refine⟨r1,rfl,λb hb=>?_⟩;obtain⟨b',aW,dx⟩:=r3 b hb;obtain⟨BF,pq,pr⟩:=q3 b' aW;refine⟨BF,pq,?_⟩;exact pr.trans dx
         exact tr (tr l5 ij) H8
        .have h3:=l7.free (BC k' br);have cg:k'≠k:=by rintro rfl;rw[hk]at br;simp at br
         show (((σ.upd u1).upd u2).setB k _).bx k'=_;rw[cJ _ _ cg];exact h3
      .simp at h
     .simp at h
    .simp at h
   .simp at h
theorem P6:∀{cs:List Cel}{ks:List Nat}{zs:List Value},AN cs=some ks->All2 (bR S w γ σ.bx) cs zs->All2 (Bb γ σ.bx) ks zs
 |[],ks,zs,h,ha=>by
  simp[AN]at h;subst h;cases zs with
  |nil=>trivial
  |cons _ _=>exact ha.elim
 |c::r,ks,zs,h,ha=>by
  cases zs with
  |nil=>exact ha.elim
  |cons z zs=>
   unfold AN at h;split at h
   .rename_i h0;simp at h0
   .rename_i k r' h0;simp only[List.cons.injEq]at h0;obtain⟨rfl,rfl⟩:=h0;split at h
    .rename_i Hy hk;simp only[j4]at h;subst h;obtain⟨⟨h1,h2,h3⟩,_⟩:=ha.1;exact⟨⟨h1,h2,h3⟩,P6 hk ha.2⟩
    .simp at h
   .simp at h
theorem P7:∀{ks:List Nat}{zs:List Value},All2 (Bb γ σ.bx) ks zs->All2 (bR S w γ σ.bx) (ks.map λk=> .one (.bp k 0)) zs
 |[],[],_=>trivial
 |k::ks,z::zs,h=>⟨⟨h.1,λ_=>h.1.2.1⟩,P7 h.2⟩
 |[],_::_,h=>h.elim
 |_::_,[],h=>h.elim
end
section
variable(S:aP)(w:World)
def BG(ls:List TV)(u:Value):Prop:=
 ∃g cur e,u = .pointer (some ⟨g,0,none⟩)/\w.heap[g]? = some (.cells cur e (0,0))/\All2 (λx z=>Rep S w x.t x.v [z]) ls cur.toList/\∀o,¬S g o
def wq(e:Nat)(x:TV)(u:Value):Prop:=
 ∃(a:Ty)(xs:List a.den),x=⟨.list a,xs⟩/\oW S w e a xs u/\∀g,blk u=some g->∀o,¬S g o
def mJ:Arg->Value->Prop
 |.v x,u=>VRep S w x u
 |.ref ls,u=>BG S w ls u
 |.rl e x,u=>wq S w e x u
 |.ip ls,u=>∃g o cs,u = .pointer (some ⟨g,o,none⟩)/\All2 (λx z=>Rep S w x.t x.v [z]) ls cs/\Lies S w g o cs
 |.clo f caps,u=>∃cv:Array Value,u = .func (.func f) #[] cv/\All2 (ic S w) caps cv.toList
def lG:Arg->Value->Option Nat
 |.ref _,u=>blk u
 |.rl _ _,u=>blk u
 |_,_=>none
def ej:List Arg->List Value->List Nat
 |a::as,u::us=>(lG a u).toList++ej as us
 |_,_=>[]
def EZ:RL->Value->Prop
 |.d x,z=>One z/\Rep S w x.t x.v [z]
 |.own e x,z=>wq S w e x z
def oy:RV->Value->Prop
 |.v x,u=>VRep S w x u
 |.own e x,u=>wq S w e x u
 |.box ls,u=>BG S w ls u
 |.hd _,u=>One u
 |.clo f caps,u=>∃cv:Array Value,u = .func (.func f) #[] cv/\All2 (ic S w) caps cv.toList
 |.so ls,u=>∃cs:Array Value,u = .agg cs/\All2 (EZ S w) ls cs.toList
 |.vn x ns,u=>VRep S w x u/\∀cs,u = .agg cs->∀i∈ns,∀z,cs.toList[i]? = some z->z = .slice none 0 0
def mK:RV->Value->Option Nat
 |.v _,_=>none
 |.hd _,_=>none
 |.vn _ _,_=>none
 |.clo _ _,_=>none
 |.so _,_=>none
 |_,u=>blk u
def mL:List RL->List Value->List Nat
 |.own _ _::ls,z::zs=>(blk z).toList++mL ls zs
 |.d _::ls,_::zs=>mL ls zs
 |_,_=>[]
def kM:RV->Value->List Nat
 |.so ls,u=>mL ls u.cells.toList
 |r,u=>(mK r u).toList
def fy:List RV->List Value->List Nat
 |r::rs,u::us=>kM r u++fy rs us
 |_,_=>[]
def lH:List Arg->List Value->List Out->Prop
 |[],[],[]=>True
 |.ref _::as,u::us,.ref ys::os=>BG S w ys u/\lH as us os
 |.rl e x::as,u::us,.rl y::os=>wq S w e y u/\y.t=x.t/\lH as us os
 |.v _::as,_::us,os=>lH as us os
 |.ip _::as,_::us,os=>lH as us os
 |.clo _ _::as,_::us,os=>lH as us os
 |_,_,_=>False
end
def rj(vs:List Value):Value:=match vs with
 |[v]=>v
 |vs=> .tuple vs.toArray
def E0:List Arg->List Value->Option Value
 |.ref _::_,u::_=>some u
 |.rl _ _::_,u::_=>some u
 |_::as,_::us=>E0 as us
 |_,_=>none
structure H9(w:World)(S:aP)(args:List Arg)(vals:List Value)(ret:Ret)(v:Value)(w':World)(S':aP)(vs:List Value):Prop where
 val:v=rj vs
 rep:All2 (oy S' w') ret.vals vs
 fresh:∀g∈fy ret.vals vs,w.heap.size<=g
 apart:(fy ret.vals vs).Nodup
 outs:lH S' w' args vals ret.outs
 stays:dg S w S' w'
 new:∀g o,S' g o->S g o\/w.heap.size<=g
 here:∀g o,S' g o->g<w'.heap.size
 below:∀g,g<w.heap.size->g∉ej args vals->w'.heap[g]? = w.heap[g]?
 grow:w.heap.size<=w'.heap.size
 os:w'.os=w.os
 tape:w'.tape=w.tape
 output:w'.output=w.output
 head:∀m,ret.vals=[.hd m]->∃ad len cap,E0 args vals=some (.slice ad len cap)/\m<=len/\vs=[.slice ad m cap]
def E3(P:Program)(f:Nat)(args:List Arg)(K:Ret->Prop):Prop:=
 ∀(w:World)(S:aP)(vals:List Value),All2 (mJ S w) args vals->(ej args vals).Nodup->(∀g o,S g o->g<w.heap.size)->
  Calls P f vals.toArray w λe w'=>∃ret,K ret/\∃v S' vs,e = .returned v/\H9 w S args vals ret v w' S' vs
def Fun(P:Program)(f:Nat):Prop:=
 ∃ fn, P.funcs[f]? = some fn ∧ fn.body.isNone = false ∧ (fn.name == "runtime.NumGoroutine") = false
def FnOK(P:Program)(f:Nat)(c:List Arg->(R:Type)->(Ret->Option R)->Option R):Prop:=
 ∀(args:List Arg)(R:Type)(k:Ret->Option R)(r:R),c args R k=some r->Fun P f/\E3 P f args λret=>k ret=some r
def lI(P:Program)(C:Nat->List Arg->(R:Type)->(Ret->Option R)->Option R):Prop:=∀f,FnOK P f (C f)
section
variable{N:NT}{np:Nat}{S0:aP}{w0:World}{refs:Refs}{σ:St}{a:Go.Act}{w:World}{S:aP}{γ:Nat->Value}
theorem r9{S':aP}{w':World}:∀(t:Ty)(v:t.den)(cs:List Value),t.flat=true->Rep S w t v cs->Rep S' w' t v cs
 |.int _,_,_,_,h=>h
 |.bool,_,_,_,h=>h
 |.str,_,_,_,h=>h
 |.unit,_,_,_,h=>h
 |.wrap a,v,cs,hf,h=>r9 a v cs hf h
 |.pair a b,_,_,hf,⟨c1,c2,e,h1,h2⟩=>by
  simp only[Ty.flat,jb]at hf;exact⟨c1,c2,e,r9 a _ _ hf.1 h1,r9 b _ _ hf.2 h2⟩
 |.list _,_,_,hf,_=>by simp[Ty.flat]at hf
 |.arr _ a,_,_,hf,⟨hn,css,ha,e⟩=>⟨hn,css,ha.mono (λx c hx=>r9 a x c hf hx),e⟩
def gp(bx:Nat->BS)(γ:Nat->Value):List Arg->List Value->List Bk->Prop
 |[],[],[]=>True
 |.ref ls::as,u::us,.ref k::fs=>u=γ k/\(∃fX,bx k = .live (.cell fX false))/\gp bx γ as us fs
 |.rl e x::as,u::us,.rl k e' t::fs=>e=e'/\u=γ k/\(∃xs,bx k = .live (.lst e t xs false)/\x=⟨.list t,xs⟩)/\gp bx γ as us fs
 |.v _::as,_::us,fs=>gp bx γ as us fs
 |.ip _::as,_::us,fs=>gp bx γ as us fs
 |.clo _ _::as,_::us,fs=>gp bx γ as us fs
 |_,_,_=>False
theorem ZA{rd rdf:Nat->BS}(hR:Rel N np S0 w0 refs σ a w S γ)(aZ:RdR σ rd)(bH:RdF np σ rdf){t:Option TyI}{rl:Bool}{c:Cel}{arg:Arg}{u:Ups}{f:Option Bk}{z:Value}
  (h:yl rd rdf t rl c=some (arg,u,f))(hc:bR S w γ σ.bx c z) :
  FrzL np σ.bx u/\gp σ.bx γ [arg] [z] f.toList/\∀S',dg S w S' w->Froz σ.bx γ S' w u->(∀k b,f.toList.any (λy=>y.name==k)=true->σ.bx k = .live b->∀g,blk (γ k)=some g->∀o,¬S' g o)->mJ S' w arg z:=by
 unfold yl at h;split at h
 .rename_i k;split at h
  .rename_i ls hk;split at h
   .rename_i xs u1 h1;simp only[j4,j8]at h;obtain⟨rfl,rfl,rfl⟩:=h;have hk:=aZ.live hk;obtain⟨g,hg,hz⟩:=hc.1.2.2 _ hk;obtain⟨g',cur,e,aC,hh,eH,_,_,hS⟩:=hR.box k _ hk;rw[hg]at aC;simp at aC;subst aC;obtain⟨hf,hp⟩:=yF bH h1 eH;refine⟨hf,trivial,λS' aM dN _=>⟨g,0,cur.toList,hz,hp S' w aM dN,λj v hv=>?_⟩⟩;have hj:j<cur.size:=by simpa using (ju.1 hv).1
    rw[ke];refine⟨(aM _ _ (hS rfl j hj)).1,?_⟩;rw[cell_of_row w g j cur e (0,0) hh];simpa using hv
   .simp at h
  .rename_i ls hk;split at h
   .rename_i xs u1 h1;simp only[j4,j8]at h;obtain⟨rfl,rfl,rfl⟩:=h;have hk:=aZ.live hk;obtain⟨g,hg,hz⟩:=hc.1.2.2 _ hk;obtain⟨g',cur,e,aC,hh,eH,_⟩:=hR.box k _ hk;rw[hg]at aC;simp at aC;subst aC;obtain⟨hf,hp⟩:=yF bH h1 eH;refine⟨hf,⟨hz.trans hg.symm,⟨ls,hk⟩,trivial⟩,λS' aM dN hn=>⟨g,cur,e,hz,hh,hp S' w aM dN,?_⟩⟩;exact hn k _ (by simp[Bk.name]) hk g (by rw[hg];rfl)
   .simp at h
  .simp at h
 .simp only[j4,j8]at h;obtain⟨rfl,rfl,rfl⟩:=h;refine⟨.nil,trivial,λS' aM _ _=>?_⟩;obtain⟨g,o,cs,hz,ha,hl⟩:=hc.1;exact⟨g,o,cs,hz,ha.mono (λx z hx=>Rep.keep aM _ _ _ hx),hl.keep aM⟩
 .simp only[j4,j8]at h;obtain⟨rfl,rfl,rfl⟩:=h;refine⟨.nil,trivial,λS' aM _ _=>?_⟩;obtain⟨cv,hz,ha⟩:=hc.1;exact⟨cv,hz,ha.mono (λx z hx=>ic.keep aM hx)⟩
 .rename_i k;split at h
  .split at h
   .rename_i e t xs hk;simp only[j4,j8]at h;obtain⟨rfl,rfl,rfl⟩:=h;have hk:=aZ.live hk;have hz:=hc.1.2.2 _ hk;refine⟨.nil,⟨rfl,hz,⟨xs,hk,rfl⟩,trivial⟩,λS' aM _ hn=>?_⟩;have fa:=(hR.box k _ hk).1;exact⟨t,xs,rfl,by rw[hz];exact fa.keep aM (λ_ _=>rfl),λg hg=>hn k _ (by simp[Bk.name]) hk g (by rw[<-hz];exact hg)⟩
   .simp at h
  .split at h
   .rename_i e t xs fz hk;simp only[j4,j8]at h;obtain⟨rfl,rfl,rfl⟩:=h;have mH:=bH.par hk;have cd:=bH.ok.nm hk;have hk:=bH.ok.live hk;have hz:=hc.1.2.2 _ hk;refine⟨λx hx=>?_,trivial,λS' aM dN _=>?_⟩
    .have:=kn.1 hx;subst this;exact⟨mH,e,t,xs,fz,hk,rfl,cd⟩
    .have h1:One z:=hc.2 (by simp);have:=dN (k,_) (kn.2 rfl) e t xs fz hk;rw[<-hz]at this;exact⟨by rw[yB h1];exact this,by simp[gK,Ty.agg],λ_=>h1⟩
   .simp at h
 .split at h
  .split at h
   .rename_i ty bG;split at h
    .rename_i x u1 hx;simp only[j4,j8]at h;obtain⟨rfl,rfl,rfl⟩:=h;obtain⟨hf,hp,_⟩:=Bm bH hx hc;exact⟨hf,trivial,λS' aM dN _=>hp S' w aM dN⟩
    .simp at h
   .simp at h
  .simp at h
theorem gp.app{bx:Nat->BS}{arg:Arg}{z:Value}{f:List Bk}:gp bx γ [arg] [z] f->∀{as:List Arg}{us:List Value}{fs:List Bk},gp bx γ as us fs->gp bx γ (arg::as) (z::us) (f++fs):=by
 intro h as us fs h';cases arg with
 |v x=>cases f with|nil=>exact h'|cons _ _=>exact h.elim
 |ip x=>cases f with|nil=>exact h'|cons _ _=>exact h.elim
 |clo x y=>cases f with|nil=>exact h'|cons _ _=>exact h.elim
 |ref ls=>
  match f,h with
  |[.ref k],⟨h1,h2,_⟩=>exact⟨h1,h2,h'⟩
  |.ref k::_::_,⟨_,_,h3⟩=>exact h3.elim
 |rl e x=>
  match f,h with
  |[.rl k e' t],⟨h0,h1,h2,_⟩=>exact⟨h0,h1,h2,h'⟩
  |.rl k e' t::_::_,⟨_,_,_,h3⟩=>exact h3.elim
theorem P8{rd rdf:Nat->BS}(hR:Rel N np S0 w0 refs σ a w S γ)(aZ:RdR σ rd)(bH:RdF np σ rdf){T:Nat->Option TyI}:∀{cs:List Cel}{ts:List Nat}{ms:List Bool}{as:List Arg}{u:Ups}{fs:List Bk}{zs:List Value},
  qW rd rdf T ts ms cs=some (as,u,fs)->All2 (bR S w γ σ.bx) cs zs->
  FrzL np σ.bx u/\gp σ.bx γ as zs fs/\∀S',dg S w S' w->Froz σ.bx γ S' w u->(∀k b,fs.any (λy=>y.name==k)=true->σ.bx k = .live b->∀g,blk (γ k)=some g->∀o,¬S' g o)->All2 (mJ S' w) as zs
 |[],ts,ms,as,u,fs,zs,h,ha=>by
  simp[qW]at h;obtain⟨rfl,rfl,rfl⟩:=h;cases zs with
  |nil=>exact⟨.nil,trivial,λ_ _ _ _=>trivial⟩
  |cons _ _=>exact ha.elim
 |c::cs,ts,ms,as,u,fs,zs,h,ha=>by
  cases zs with
  |nil=>exact ha.elim
  |cons z zs=>
   simp only[qW]at h;split at h
   .rename_i a1 u1 f1 h1;split at h
    .rename_i Hz fC ZB h2;simp only[j4,j8]at h;obtain⟨rfl,rfl,rfl⟩:=h;obtain⟨p1,q1,r1⟩:=ZA hR aZ bH h1 ha.1;obtain⟨p2,q2,r2⟩:=P8 hR aZ bH h2 ha.2;refine⟨FrzL.app.2 ⟨p1,p2⟩,q1.app q2,λS' aM dN hn=>?_⟩;obtain⟨z1,z2⟩:=Froz.app.1 dN;exact⟨r1 S' aM z1 (λk b hk=>hn k b (by rw[List.any_append,hk];rfl)),r2 S' aM z2 (λk b hk=>hn k b (by rw[List.any_append,hk];simp))⟩
    .simp at h
   .simp at h
theorem P9:∀{cs:List Cap}{zs:List Value},All2 (ic S w) cs zs->All2 (mJ S w) (cs.map qX) zs
 |[],[],_=>trivial
 |c::cs,z::zs,h=>by
  refine⟨?_,P9 h.2⟩;cases c with
  |v x=>obtain⟨hl,hr⟩:=h.1;have h1:One z:=Rep.one _ _ _ hr z (by simp);refine⟨by rw[yB h1];exact hr,λhm=>?_,λ_=>h1⟩;exfalso;obtain⟨t,v⟩:=x;cases t<;>simp_all[Ty.leafy,gK,Ty.agg]
  |p ls=>exact h.1
 |[],_::_,h=>h.elim
 |_::_,[],h=>h.elim
theorem Qa:∀(cs:List Cap)(zs:List Value),ej (cs.map qX) zs=[]
 |[],_=>by cases ‹List Value› <;> rfl
 |c::cs,[]=>rfl
 |c::cs,z::zs=>by cases c<;>simp[ej,lG,qX,Qa cs zs]
theorem Qb:∀(as:List Arg)(us:List Value)(bs:List Arg)(vs:List Value),as.length=us.length->ej (as++bs) (us++vs)=ej as us++ej bs vs
 |[],[],bs,vs,_=>rfl
 |a::as,u::us,bs,vs,h=>by simp[ej,Qb as us bs vs (by simpa using h)]
 |[],_::_,_,_,h=>by simp at h
 |_::_,[],_,_,h=>by simp at h
theorem wu{bx:Nat->BS}:∀{as:List Arg}{us:List Value}{fs:List Bk},gp bx γ as us fs->ej as us=fs.filterMap λf=>blk (γ f.name)
 |[],[],[],_=>rfl
 |.ref ls::as,u::us,.ref k::fs,⟨h1,_,h3⟩=>by
  simp only[ej,lG,vk,Bk.name,h1,wu h3];cases blk (γ k)<;>rfl
 |.rl e x::as,u::us,.rl k e' t::fs,⟨_,h1,_,h3⟩=>by
  simp only[ej,lG,vk,Bk.name,h1,wu h3];cases blk (γ k)<;>rfl
 |.v _::as,_::us,fs,h=>by simp[ej,lG,wu (as:=as) (us:=us) (fs:=fs) h]
 |.ip _::as,_::us,fs,h=>by simp[ej,lG,wu (as:=as) (us:=us) (fs:=fs) h]
 |.clo _ _::as,_::us,fs,h=>by simp[ej,lG,wu (as:=as) (us:=us) (fs:=fs) h]
theorem wv{bx:Nat->BS}:∀{as:List Arg}{us:List Value}{fs:List Bk},gp bx γ as us fs->∀f∈fs,∃b,bx f.name = .live b
 |[],[],[],_,f,hf=>by simp at hf
 |.ref ls::as,u::us,.ref k::fs,⟨_,⟨fX,h2⟩,h3⟩,f,hf=>by
  rcases jg.1 hf with rfl|hf
  .exact⟨_,h2⟩
  .exact wv h3 f hf
 |.rl e x::as,u::us,.rl k e' t::fs,⟨_,_,⟨xs,h2,_⟩,h3⟩,f,hf=>by
  rcases jg.1 hf with rfl|hf
  .exact⟨_,h2⟩
  .exact wv h3 f hf
 |.v _::as,_::us,fs,h,f,hf=>wv (as:=as) (us:=us) (fs:=fs) h f hf
 |.ip _::as,_::us,fs,h,f,hf=>wv (as:=as) (us:=us) (fs:=fs) h f hf
 |.clo _ _::as,_::us,fs,h,f,hf=>wv (as:=as) (us:=us) (fs:=fs) h f hf
theorem E4:∀{l:List Nat},oe l=true->l.Nodup
 |[],_=>zw
 |x::l,h=>by
  simp only[oe,jb,q7,qa,kp]at h;exact qs.2 ⟨h.1,E4 h.2⟩
theorem Ia(hR:Rel N np S0 w0 refs σ a w S γ):∀{l:List Nat},l.Nodup->(∀k∈l,∃b,σ.bx k = .live b)->(l.filterMap λk=>blk (γ k)).Nodup
 |[],_,_=>by simp
 |k::l,h,hl=>by
  obtain⟨h1,h2⟩:=qs.1 h;have ih:=Ia hR h2 (λk hk=>hl k (by simp[hk]));rw[vk];cases hb:blk (γ k) with
  |none=>exact ih
  |some g=>refine qs.2 ⟨λhm=>?_,ih⟩;obtain⟨k',br,aC⟩:=v7.1 hm;obtain⟨b,dJ⟩:=hl k (by simp);obtain⟨b',eX⟩:=hl k' (by simp[br]);exact hR.apart k k' b b' g (by rintro rfl;exact h1 br) dJ eX hb aC
end
section
variable{N:NT}{np:Nat}{S0:aP}{w0:World}{refs:Refs}{σ:St}{a:Go.Act}{w:World}{S:aP}{γ:Nat->Value}
theorem Ib:∀(u:Ups)(σ:St){k:Nat}{b:BS},(u.map (·.1)).Nodup->(k,b)∈u->(σ.upd u).bx k=b
 |[],_,_,_,_,h=>by simp at h
 |e::u,σ,k,b,hn,h=>by
  simp only[ku,qs]at hn;show ((σ.setB e.1 e.2).upd u).bx k=_;rcases jg.1 h with h|h
  .subst h;rw[lV u,gj];simp only[ql,zm];intro x hx he;exact hn.1 (ka.2 ⟨x,hx,he⟩)
  .exact Ib u _ hn.2 h
theorem ZC{e:Nat}{m n n':Nat}{v:Value}{w':World}{xs ys:List Value}(h:w.ownsRow 0 e m v n xs)(h':w'.ownsRow 0 e m v n' ys):n=n':=by
 rcases h.2 with⟨e1,e2⟩|⟨g,cap,cur,e1,_⟩<;>rcases h'.2 with⟨f1,f2⟩|⟨g',gL,il,f1,_⟩
 .rw[e2,f2]
 .rw[e1]at f1;simp at f1
 .rw[e1]at f1;simp at f1
 .rw[e1]at f1;simp at f1;exact f1.2.1
theorem Ic{bx:Nat->BS}{S':aP}{w':World}{ys:List TV}{k:Nat}{v:Value}(hg:γ k=v)(h:BG S' w' ys v):eF S' w' γ bx k (.cell (ys.map TV.leaf) false):=by
 obtain⟨g,cur,e,hu,hh,aB,hS⟩:=h;exact⟨g,cur,e,hg.trans hu,hh,re aB,λu fj=>by obtain⟨x,_,hx⟩:=aB.mem_right u fj;exact Rep.one _ _ _ hx u (by simp),λ_=>hS,by simp⟩
theorem BH{bx:Nat->BS}{S':aP}{w':World}{e:Nat}{t:Ty}{ys:List t.den}{k:Nat}{v:Value}(hg:γ k=v)(h:wq S' w' e ⟨.list t,ys⟩ v):eF S' w' γ bx k (.lst e t ys false):=by
 obtain⟨t',xs,hx,cK,hS⟩:=h;cases hx;exact⟨by rw[hg];exact cK,λg aC=>⟨λ_=>hS g (by rw[<-hg];exact aC),by simp⟩⟩
theorem tT{S':aP}{w':World}(hR:Rel N np S0 w0 refs σ a w S γ):∀{as:List Arg}{zs:List Value}{fs:List Bk}{os:List Out}{uo:Ups},gp σ.bx γ as zs fs->rL fs os=some uo->lH S' w' as zs os->
  uo.map (·.1)=fs.map Bk.name/\∀x∈uo,∃b b',σ.bx x.1 = .live b/\x.2 = .live b'/\iC b b'/\∀bx',eF S' w' γ bx' x.1 b'
 |[],[],[],[],uo,_,h,_=>by simp[rL]at h;subst h;simp
 |.ref ls::as,u::us,.ref k::fs,.ref ys::os,uo,⟨h1,⟨fX,h2⟩,h3⟩,h,⟨q1,q2⟩=>by
  simp only[rL,EA]at h;split at h
  .rename_i u' fj;simp only[j4]at h;subst h;obtain⟨i1,i2⟩:=tT hR h3 fj q2;refine⟨by simp[i1,Bk.name],λx hx=>?_⟩;rcases jg.1 hx with rfl|hx
   .exact⟨_,_,h2,rfl,trivial,λbx'=>Ic h1.symm q1⟩
   .exact i2 x hx
  .simp at h
 |.rl e x::as,u::us,.rl k e' t::fs,.rl y::os,uo,⟨h0,h1,⟨xs,h2,jV⟩,h3⟩,h,⟨q1,q1',q2⟩=>by
  simp only[rL,EA]at h;split at h
  .rename_i y' rV;split at rV
   .rename_i ys gn;simp only[j4]at rV;subst rV;split at h
    .rename_i u' fj;simp only[j4]at h;subst h;obtain⟨i1,i2⟩:=tT hR h3 fj q2;refine⟨by simp[i1,Bk.name],λx hx=>?_⟩;rcases jg.1 hx with rfl|hx
     .have:=lR gn;subst this;subst h0;refine⟨_,_,h2,rfl,⟨rfl,rfl,λhm=>?_⟩,λbx'=>BH h1.symm q1⟩;obtain⟨css,aX,_⟩:=ie hm (hR.box k _ h2);obtain⟨jB,cK,_⟩:=ie (bx:=σ.bx) hm (BH h1.symm q1);exact ZC aX cK
     .exact i2 x hx
    .simp at h
   .simp at rV
  .simp at h
 |.v _::as,_::us,fs,os,uo,h,h',q=>tT (as:=as) (zs:=us) (fs:=fs) hR h h' q
 |.ip _::as,_::us,fs,os,uo,h,h',q=>tT (as:=as) (zs:=us) (fs:=fs) hR h h' q
 |.clo _ _::as,_::us,fs,os,uo,h,h',q=>tT (as:=as) (zs:=us) (fs:=fs) hR h h' q
theorem Qc(hR:Rel N np S0 w0 refs σ a w S γ){S':aP}{w':World}(aM:dg S w S' w')(dM:∀g o,S' g o->S g o\/w.heap.size<=g)(fk:∀g o,S' g o->g<w'.heap.size)
  {as:List Arg}{zs:List Value}{fs:List Bk}{os:List Out}{uo:Ups}(dr:gp σ.bx γ as zs fs)(dR:(fs.map Bk.name).Nodup)(ho:rL fs os=some uo)(hq:lH S' w' as zs os)
  (fD:∀g,g<w.heap.size->g∉ej as zs->w'.heap[g]? = w.heap[g]?)(eL:w.heap.size<=w'.heap.size)(oz:w'.os=w.os)(mM:w'.tape=w.tape)(cY:w'.output=w.output) :
  Rel N np S0 w0 refs (σ.upd uo) a w' S' γ:=by
 obtain⟨kN,wx⟩:=tT hR dr ho hq;have rY:(uo.map (·.1)).Nodup:=by rw[kN];exact dR
 have ee:σ.upd uo={ σ with bx:=(σ.upd uo).bx }:=by have:=yz uo σ;cases h:σ.upd uo;rw[h]at this;simp only at this;rw[this]
 have cD:∀k,(uo.any (λy=>y.1==k)=false/\(σ.upd uo).bx k=σ.bx k)\/(∃b b',σ.bx k = .live b/\(σ.upd uo).bx k = .live b'/\iC b b'/\∀bx',eF S' w' γ bx' k b'):=by
  intro k;by_cases hk:uo.any (λy=>y.1==k)=true
  .right;obtain⟨x,hx,he⟩:=qw.1 hk;have he:x.1=k:=by simpa using he
   subst he;obtain⟨b,b',h1,h2,h3,h4⟩:=wx x hx;exact⟨b,b',h1,by rw[Ib uo σ rY (b:=x.2) hx,h2],h3,h4⟩
  .left;have br:uo.any (λy=>y.1==k)=false:=qf.2 hk;exact⟨br,lV uo σ br⟩
 have gv:∀k b,(σ.upd uo).bx k = .live b->∃b',σ.bx k = .live b':=by
  intro k b hb;rcases cD k with⟨_,h⟩|⟨b1,b2,h1,_⟩
  .exact⟨b,h▸hb⟩
  .exact⟨b1,h1⟩
 have hle:BxLe γ σ.bx γ (σ.upd uo).bx:=by
  intro k hk;rcases cD k with⟨_,h⟩|⟨b1,b2,h1,h2,h3,_⟩
  .rw[h];exact⟨hk,rfl,λb hb=>⟨b,hb,.refl b⟩⟩
  .rw[h2];exact⟨by simp,rfl,λb hb=>by simp at hb;subst hb;exact⟨b1,h1,h3⟩⟩
 have hrefs:∀g,g∈ej as zs->∃f∈fs,blk (γ f.name)=some g/\∃b,σ.bx f.name = .live b:=by intro g hg;rw[wu dr]at hg;obtain⟨f,hf,wy⟩:=v7.1 hg;exact⟨f,hf,wy,wv dr f hf⟩
 rw[ee]
 refine Rel.step hR aM hle ?_ ?_ ?_ ?_ fk ?_ (qm hR.grow eL) (oz.trans hR.os) (mM.trans hR.tape) (cY.trans hR.output) (λg hg _ h=>⟨fD g hg (λhm=>by
  obtain⟨f,hf,wy,b',aW⟩:=hrefs g hm;exact h f.name b' aW wy),λk b hb=>by
  obtain⟨b',aW⟩:=gv k b hb;exact h k b' aW⟩)
 .intro k b hb;rcases cD k with⟨hk,h⟩|⟨b1,b2,h1,h2,h3,h4⟩
  .rw[h]at hb;refine eF.keep aM hle rfl (λg hg=>?_) (hR.box k b hb);have vZ:=lU (hR.box k b hb) hg;refine⟨fD g vZ (λhm=>?_),λo=>⟨λhs=>(dM g o hs).resolve_right (by omega),λhs=>(aM g o hs).1⟩⟩;obtain⟨f,hf,wy,b',aW⟩:=hrefs g hm
   have bq:k≠f.name:=by
    rintro rfl
    have:f.name∈uo.map (·.1):=by rw[kN];exact List.mem_map_of_mem hf
    obtain⟨x,hx,he⟩:=ka.1 this;have:=(ql.1 hk) x hx;simp[he]at this
   exact hR.apart k f.name b b' g bq hb aW hg wy
  .rw[h2]at hb;simp at hb;subst hb;exact h4 _
 .intro k b g hb hg;obtain⟨b',aW⟩:=gv k b hb;exact hR.own k b' g aW hg
 .intro k k' b1 b2 g bq h1 h2 hg;obtain⟨rS,kG⟩:=gv k b1 h1;obtain⟨rT,jV⟩:=gv k' b2 h2;exact hR.apart k k' rS rT g bq kG jV hg
 .intro g o hs;rcases dM g o hs with h|h
  .exact hR.new g o h
  .exact .inr (qm hR.grow h)
 .intro g hg hr;rw[fD g (qn hg hR.grow) (λhm=>?_)]
  .exact hR.below g hg hr
  .obtain⟨f,hf,wy,b',aW⟩:=hrefs g hm;rcases hR.own f.name b' g aW wy with h|h
   .omega
   .exact hr h.1
theorem Qd(hR:Rel N np S0 w0 refs σ a w S γ){d:Nat}(hd:σ.bx d = .free){v':Value}{b:Bx}
  (hv:∀g,blk v'=some g->(w0.heap.size<=g/\refs.kw g=none)/\∀k b,σ.bx k = .live b->blk (γ k)≠some g)(hb:eF S w (gset γ d v') (σ.setB d (.live b)).bx d b) :
  Rel N np S0 w0 refs (σ.setB d (.live b)) a w S (gset γ d v')/\BxLe γ σ.bx (gset γ d v') (σ.setB d (.live b)).bx:=by
 have hle:BxLe γ σ.bx (gset γ d v') (σ.setB d (.live b)).bx:=by
  intro k hk;have bq:k≠d:=by rintro rfl;exact hk hd
  rw[cJ σ _ bq,gl γ v' bq];exact⟨hk,rfl,λb hb=>⟨b,hb,.refl b⟩⟩
 refine⟨Rel.step (bx':=(σ.setB d (.live b)).bx) hR (.refl S w) hle ?_ ?_ ?_ hR.new hR.here hR.below hR.grow hR.os hR.tape hR.output (λg _ yD h=>⟨rfl,λk b' aW dr=>by
  by_cases hk:k=d
  .subst hk;rw[fv]at dr;exact yD (hv g dr).1.2
  .rw[cJ σ _ hk]at aW;rw[gl γ v' hk]at dr;exact h k b' aW dr⟩),hle⟩
 .intro k b' aW;by_cases hk:k=d
  .subst hk;rw[gj]at aW;simp at aW;subst aW;exact hb
  .rw[cJ σ _ hk]at aW;exact eF.keep (.refl S w) hle (gl γ v' hk) (λg hg=>⟨rfl,λ_=>Iff.rfl⟩) (hR.box k b' aW)
 .intro k b' g aW hg;by_cases hk:k=d
  .subst hk;rw[fv]at hg;exact .inl (hv g hg).1.1
  .rw[cJ σ _ hk]at aW;rw[gl γ v' hk]at hg;exact hR.own k b' g aW hg
 .intro k k' b1 b2 g bq h1 h2 hg aC;by_cases hk:k=d
  .subst hk;have br:k'≠k:=λh=>bq h.symm;rw[fv]at hg;rw[cJ σ _ br]at h2;rw[gl γ v' br]at aC;exact(hv g hg).2 k' b2 h2 aC
  .by_cases br:k'=d
   .subst br;rw[fv]at aC;rw[cJ σ _ hk]at h1;rw[gl γ v' hk]at hg;exact(hv g aC).2 k b1 h1 hg
   .rw[cJ σ _ hk]at h1;rw[cJ σ _ br]at h2;rw[gl γ v' hk]at hg;rw[gl γ v' br]at aC;exact hR.apart k k' b1 b2 g bq h1 h2 hg aC
theorem yG{bx:Nat->BS}{x:TV}{u:Value}(h:VRep S w x u):bR S w γ bx (ob x.t x.v) u:=by
 obtain⟨t,v⟩:=x;obtain⟨h1,h2,h3⟩:=h;refine HI t v _ u h1 (λhm=>?_) (λha hn=>?_)
 .have:gK t=true:=by
   rcases hm with hm|⟨n,b,rfl⟩
   .cases t<;>simp_all[gK,Ty.agg]
   .rfl
  obtain⟨cs,rfl⟩:=h2 this;simp[Value.cells]
 .have:gK t=false:=by cases t<;>simp_all[gK,Ty.agg]
  exact yB (h3 this)
theorem E5:∀{ls:List RL}{n:Nat}{l:List Leaf}{u:Ups},soL n ls=some (l,u)->∀x∈u,n<=x.1/\x.1<n+ls.length
 |[],n,l,u,h=>by simp[soL]at h;obtain⟨rfl,rfl⟩:=h;simp
 |.d x::r,n,l,u,h=>by
  simp only[soL]at h;split at h
  .rename_i l' u' h';simp only[j4,j8]at h;obtain⟨rfl,rfl⟩:=h;intro y hy;have:=E5 h' y hy;simp only[jm];omega
  .simp at h
 |.own e ⟨.list a,xs⟩::r,n,l,u,h=>by
  simp only[soL]at h;split at h
  .rename_i l' u' h';simp only[j4,j8]at h;obtain⟨rfl,rfl⟩:=h;intro y hy;rcases jg.1 hy with rfl|hy
   .simp only[jm];omega
   .have:=E5 h' y hy;simp only[jm];omega
  .simp at h
 |.own e ⟨.int _,xs⟩::r,n,l,u,h=>by simp[soL]at h
 |.own e ⟨.bool,xs⟩::r,n,l,u,h=>by simp[soL]at h
 |.own e ⟨.str,xs⟩::r,n,l,u,h=>by simp[soL]at h
 |.own e ⟨.unit,xs⟩::r,n,l,u,h=>by simp[soL]at h
 |.own e ⟨.wrap _,xs⟩::r,n,l,u,h=>by simp[soL]at h
 |.own e ⟨.pair _ _,xs⟩::r,n,l,u,h=>by simp[soL]at h
 |.own e ⟨.arr _ _,xs⟩::r,n,l,u,h=>by simp[soL]at h
theorem Qe{n:Nat}{r:RV}{c:Cel}{u:Ups}(h:EB n r=some (c,u)):∀x∈u,n<=x.1/\x.1<n+rvW r:=by
 unfold EB at h;split at h
 .simp only[j4,j8]at h;obtain⟨rfl,rfl⟩:=h;simp
 .simp only[j4,j8]at h;obtain⟨rfl,rfl⟩:=h;simp[rvW]
 .simp at h
 .simp only[j4,j8]at h;obtain⟨rfl,rfl⟩:=h;simp[rvW]
 .simp at h
 .split at h<;>(simp only[j4,j8]at h;obtain⟨rfl,rfl⟩:=h;simp)
 .simp only[j4,j8]at h;obtain⟨rfl,rfl⟩:=h;simp
 .split at h
  .rename_i l u' h';simp only[j4,j8]at h;obtain⟨rfl,rfl⟩:=h;exact E5 h'
  .simp at h
theorem Qf:∀{n:Nat}{rs:List RV}{cs:List Cel}{u:Ups},tz n rs=some (cs,u)->∀x∈u,n<=x.1
 |n,[],cs,u,h=>by simp[tz]at h;obtain⟨rfl,rfl⟩:=h;simp
 |n,r::rs,cs,u,h=>by
  simp only[tz]at h;split at h
  .rename_i c u1 h1;split at h
   .rename_i Ie u2 h2;simp only[j4,j8]at h;obtain⟨rfl,rfl⟩:=h;intro x hx;rcases jn.1 hx with hx|hx
    .exact(Qe h1 x hx).1
    .have:=Qf h2 x hx;omega
   .simp at h
  .simp at h
theorem Qg{bx:Nat->BS}{ns:List Nat}:∀(k:Nat){ls:List Leaf}{cs:List Value},All2 (bY S w γ bx) ls cs->(∀i∈ns,∀z,k<=i->cs[i-k]? = some z->z = .slice none 0 0)->
  All2 (bY S w γ bx) ((ls.zipIdx k).map λy=>if ns.contains y.2 then .nil else y.1) cs
 |_,[],[],_,_=>trivial
 |k,l::ls,c::cs,h,hn=>by
  refine⟨?_,Qg (k+1) h.2 λi hi z hk hz=>hn i hi z (by omega) ?_⟩
  .by_cases hc:ns.contains k=true
   .simp only[hc,if_true];exact hn k (by simpa using hc) c (jl _) (by simp)
   .simp only[hc];exact h.1
  .rw[show i-k=(i-(k+1))+1 by omega];simpa using hz
 |_,[],_::_,h,_=>h.elim
 |_,_::_,[],h,_=>h.elim
theorem Ig:∀{ls:List RL}{zs:List Value}{n:Nat}{l:List Leaf}{u:Ups}{σ:St}{γ:Nat->Value},Rel N np S0 w0 refs σ a w S γ->soL n ls=some (l,u)->All2 (EZ S w) ls zs->
  (∀x∈u,σ.bx x.1 = .free)->(mL ls zs).Nodup->(∀g∈mL ls zs,(w0.heap.size<=g/\refs.kw g=none)/\∀k b,σ.bx k = .live b->blk (γ k)≠some g)->
  ∃γ',Rel N np S0 w0 refs (σ.upd u) a w S γ'/\BxLe γ σ.bx γ' (σ.upd u).bx/\All2 (bY S w γ' (σ.upd u).bx) l zs/\(∀z∈zs,One z)/\
   ∀k b g,(σ.upd u).bx k = .live b->blk (γ' k)=some g->(∃b',σ.bx k = .live b'/\blk (γ k)=some g)\/g∈mL ls zs
 |[],[],n,l,u,σ,γ,hR,h,_,_,_,_=>by
  simp[soL]at h;obtain⟨rfl,rfl⟩:=h;exact⟨γ,hR,.refl _ _,trivial,by simp,λk b g h1 h2=> .inl ⟨b,h1,h2⟩⟩
 |.d x::ls,z::zs,n,l,u,σ,γ,hR,h,ha,bg,dR,hblk=>by
  simp only[soL]at h;split at h
  .rename_i l' u' h';simp only[j4,j8]at h;obtain⟨rfl,rfl⟩:=h;obtain⟨γ',q1,q2,q3,q4,q5⟩:=Ig hR h' ha.2 bg dR hblk;exact⟨γ',q1,q2,⟨ha.1.2,q3⟩,λy hy=>(jg.1 hy).elim (λe=>e▸ha.1.1) (q4 y),q5⟩
  .simp at h
 |.own e ⟨.list t,xs⟩::ls,z::zs,n,l,u,σ,γ,hR,h,ha,bg,dR,hblk=>by
  simp only[soL]at h;split at h
  .rename_i l' u' h';simp only[j4,j8]at h;obtain⟨rfl,rfl⟩:=h;have aX:wq S w e ⟨.list t,xs⟩ z:=ha.1;have cX:One z:=by obtain⟨t',ys,_,cK,_⟩:=aX;exact cK.one
   have pt:σ.bx n = .free:=bg _ (zf ..);simp only[mL]at dR hblk;obtain⟨bD,hle⟩:=Qd hR pt (v':=z) (b:= .lst e t xs false) (λg hg=>hblk g (by simp[hg])) (BH (fv _ _ _) aX);have iJ:=E5 h'
   obtain⟨γ',q1,q2,q3,q4,q5⟩:=Ig bD h' ha.2 (λx hx=>by
    have:=iJ x hx;rw[cJ σ _ (by omega)];exact bg x (by simp[hx])) (qq.1 dR).2.1 (λg hg=>by
    obtain⟨p1,p2⟩:=hblk g (by simp[hg]);refine⟨p1,λk b' aW he=>?_⟩;by_cases hk:k=n
    .subst hk;rw[fv]at he;exact(qq.1 dR).2.2 g (by simp[he]) g hg rfl
    .rw[cJ σ _ hk]at aW;rw[gl γ z hk]at he;exact p2 k b' aW he)
   refine⟨γ',q1,λk hk=>?_,⟨bY.keep (.refl S w) q2 ⟨by rw[gj];simp,cX,λb _=>(fv γ n z).symm⟩,q3⟩,λy hy=>(jg.1 hy).elim (λe=>e▸cX) (q4 y),λk b g h1 h2=>?_⟩
   .obtain⟨a1,a2,a3⟩:=hle k hk;obtain⟨b1,b2,b3⟩:=q2 k a1;refine⟨b1,b2.trans a2,λb hb=>?_⟩;obtain⟨b',aW,dx⟩:=b3 b hb;obtain⟨BF,pq,pr⟩:=a3 b' aW;exact⟨BF,pq,pr.trans dx⟩
   .rcases q5 k b g h1 h2 with⟨b',aW,he⟩|h3
    .by_cases hk:k=n
     .subst hk;rw[fv]at he;exact .inr (by simp[mL,he])
     .rw[cJ σ _ hk]at aW;rw[gl γ z hk]at he;exact .inl ⟨b',aW,he⟩
    .exact .inr (by simp[mL,h3])
  .simp at h
 |.own e ⟨.int _,xs⟩::r,_,n,l,u,_,_,_,h,_,_,_,_=>by simp[soL]at h
 |.own e ⟨.bool,xs⟩::r,_,n,l,u,_,_,_,h,_,_,_,_=>by simp[soL]at h
 |.own e ⟨.str,xs⟩::r,_,n,l,u,_,_,_,h,_,_,_,_=>by simp[soL]at h
 |.own e ⟨.unit,xs⟩::r,_,n,l,u,_,_,_,h,_,_,_,_=>by simp[soL]at h
 |.own e ⟨.wrap _,xs⟩::r,_,n,l,u,_,_,_,h,_,_,_,_=>by simp[soL]at h
 |.own e ⟨.pair _ _,xs⟩::r,_,n,l,u,_,_,_,h,_,_,_,_=>by simp[soL]at h
 |.own e ⟨.arr _ _,xs⟩::r,_,n,l,u,_,_,_,h,_,_,_,_=>by simp[soL]at h
 |[],_::_,_,_,_,_,_,_,_,ha,_,_,_=>ha.elim
 |.d _::_,[],_,_,_,_,_,_,_,ha,_,_,_=>ha.elim
 |.own _ ⟨.list _,_⟩::_,[],_,_,_,_,_,_,_,ha,_,_,_=>ha.elim
theorem Qh:∀{rs:List RV}{vs:List Value}{n:Nat}{cs:List Cel}{un:Ups}{σ:St}{γ:Nat->Value},Rel N np S0 w0 refs σ a w S γ->tz n rs=some (cs,un)->All2 (oy S w) rs vs->
  (∀x∈un,σ.bx x.1 = .free)->(fy rs vs).Nodup->(∀g∈fy rs vs,(w0.heap.size<=g/\refs.kw g=none)/\∀k b,σ.bx k = .live b->blk (γ k)≠some g)->
  ∃γ',Rel N np S0 w0 refs (σ.upd un) a w S γ'/\BxLe γ σ.bx γ' (σ.upd un).bx/\All2 (bR S w γ' (σ.upd un).bx) cs vs
 |[],[],n,cs,un,σ,γ,hR,h,_,_,_,_=>by
  simp[tz]at h;obtain⟨rfl,rfl⟩:=h;exact⟨γ,hR,.refl _ _,trivial⟩
 |r::rs,u::us,n,cs,un,σ,γ,hR,h,ha,bg,dR,hblk=>by
  simp only[tz]at h;split at h
  .rename_i c u1 h1;split at h
   .rename_i Ie u2 h2;simp only[j4,j8]at h;obtain⟨rfl,rfl⟩:=h
    have BI:∀(σ1:St)(γ1:Nat->Value),Rel N np S0 w0 refs σ1 a w S γ1->σ1=σ.upd u1->BxLe γ σ.bx γ1 σ1.bx->bR S w γ1 σ1.bx c u->(∀x∈u2,σ1.bx x.1 = .free)->
      (fy rs us).Nodup->(∀g∈fy rs us,(w0.heap.size<=g/\refs.kw g=none)/\∀k b,σ1.bx k = .live b->blk (γ1 k)≠some g)->
      ∃γ',Rel N np S0 w0 refs (σ.upd (u1++u2)) a w S γ'/\BxLe γ σ.bx γ' (σ.upd (u1++u2)).bx/\All2 (bR S w γ' (σ.upd (u1++u2)).bx) (c::Ie) (u::us):=by
     intro σ1 γ1 bD he hle hc hf hn hb;obtain⟨γ',q1,q2,q3⟩:=Qh (σ:=σ1) (γ:=γ1) bD h2 ha.2 hf hn hb;subst he;rw[kH];refine⟨γ',q1,?_,bR.keep (.refl S w) q2 hc,q3⟩;intro k hk;obtain⟨a1,a2,a3⟩:=hle k hk;obtain⟨b1,b2,b3⟩:=q2 k a1;refine⟨b1,b2.trans a2,λb hb=>?_⟩;obtain⟨b',aW,dx⟩:=b3 b hb;obtain⟨BF,pq,pr⟩:=a3 b' aW;refine⟨BF,pq,?_⟩;exact pr.trans dx
    have iJ:=Qe h1;have l9:=Qf h2
    have dM:∀(v':Value)(b:Bx),kM r u=(blk v').toList->rvW r=1->u1=[(n,.live b)]->(∀bx',eF S w (gset γ n v') bx' n b)->(∀bx',(bx' n = .live b)->bR S w (gset γ n v') bx' c u)->
      ∃γ',Rel N np S0 w0 refs (σ.upd (u1++u2)) a w S γ'/\BxLe γ σ.bx γ' (σ.upd (u1++u2)).bx/\All2 (bR S w γ' (σ.upd (u1++u2)).bx) (c::Ie) (u::us):=by
     intro v' b gm Ih Qi di wz;subst Qi;rw[Ih]at l9;have pt:σ.bx n = .free:=bg (n,.live b) (by simp);simp only[fy,gm]at dR hblk;obtain⟨bD,hle⟩:=Qd hR pt (v':=v') (b:=b) (λg hg=>hblk g (by simp[hg])) (di _);refine BI _ _ bD rfl hle (wz _ (gj _ _ _)) (λx hx=>?_) ?_ (λg hg=>?_)
     .have:=l9 x hx;rw[cJ σ _ (by omega)];exact bg x (by simp[hx])
     .exact(qq.1 dR).2.1
     .obtain⟨p1,p2⟩:=hblk g (by simp[hg]);refine⟨p1,λk b' aW he=>?_⟩;by_cases hk:k=n
      .subst hk;rw[fv]at he;have:=(qq.1 dR).2.2 g (by simp[he]) g hg;exact this rfl
      .rw[cJ σ _ hk]at aW;rw[gl γ v' hk]at he;exact p2 k b' aW he
    unfold EB at h1;split at h1
    .rename_i x;simp only[j4,j8]at h1;obtain⟨rfl,rfl⟩:=h1;refine BI σ γ hR rfl (.refl _ _) (yG ha.1) (λx hx=>bg x (by simp[hx])) ?_ ?_
     .simpa[fy,mK,kM]using dR
     .simpa[fy,mK,kM]using hblk
    .rename_i e el xs;simp only[j4,j8]at h1;obtain⟨rfl,rfl⟩:=h1;have aX:wq S w e ⟨.list el,xs⟩ u:=ha.1;have cX:One u:=by obtain⟨t',ys,_,cK,_⟩:=aX;exact cK.one
     exact dM u _ rfl rfl rfl (λbx'=>BH (fv _ _ _) aX) (λbx' hb=>⟨⟨by rw[hb];simp,cX,λb _=>(fv γ n u).symm⟩,λ_=>cX⟩)
    .simp at h1
    .rename_i ls;simp only[j4,j8]at h1;obtain⟨rfl,rfl⟩:=h1;have BJ:BG S w ls u:=ha.1;obtain⟨g,cur,e,hu,_⟩:=id BJ;have cX:One u:=by rw[hu];rfl
     exact dM u _ rfl rfl rfl (λbx'=>Ic (fv _ _ _) BJ) (λbx' hb=>⟨⟨by rw[hb];simp,cX,λb _=>⟨g,by rw[fv,hu],hu⟩⟩,λ_=>cX⟩)
    .simp at h1
    .rename_i x ns;have hv:VRep S w x u/\∀cs,u = .agg cs->∀i∈ns,∀z,cs.toList[i]? = some z->z = .slice none 0 0:=ha.1;have px:bR S w γ σ.bx (ob x.t x.v) u:=yG hv.1
     have hc:bR S w γ σ.bx c u/\u1=[]:=by
      split at h1
      .rename_i ls he;simp only[j4,j8]at h1;obtain⟨rfl,rfl⟩:=h1;rw[he]at px;obtain⟨cs,hu,aB,cX⟩:=px;exact⟨⟨cs,hu,Qg 0 aB λi hi z _ hz=>hv.2 cs hu i hi z (by simpa using hz),cX⟩,rfl⟩
      .simp only[j4,j8]at h1;obtain⟨rfl,rfl⟩:=h1;exact⟨px,rfl⟩
     obtain⟨hc,rfl⟩:=hc;refine BI σ γ hR rfl (.refl _ _) hc (λx hx=>bg x (by simp[hx])) ?_ ?_
     .simpa[fy,mK,kM]using dR
     .simpa[fy,mK,kM]using hblk
    .rename_i f caps;simp only[j4,j8]at h1;obtain⟨rfl,rfl⟩:=h1;obtain⟨cv,hu,aB⟩:∃cv:Array Value,u = .func (.func f) #[] cv/\All2 (ic S w) caps cv.toList:=ha.1;refine BI σ γ hR rfl (.refl _ _) ⟨⟨cv,hu,aB⟩,λ_=>by rw[hu];rfl⟩ (λx hx=>bg x (by simp[hx])) ?_ ?_
     .simpa[fy,mK,kM]using dR
     .simpa[fy,mK,kM]using hblk
    .rename_i ls;split at h1
     .rename_i l fC hl;simp only[j4,j8]at h1;obtain⟨rfl,rfl⟩:=h1;obtain⟨sa,hu,aB⟩:∃cs:Array Value,u = .agg cs/\All2 (EZ S w) ls cs.toList:=ha.1;subst hu;have wA:kM (.so ls) (.agg sa)=mL ls sa.toList:=rfl;simp only[fy,wA]at dR hblk;obtain⟨γ1,q1,q2,q3,q4,q5⟩:=Ig hR hl aB (λx hx=>bg x (by simp[hx])) (qq.1 dR).1 (λg hg=>hblk g (by simp[hg]));refine BI _ γ1 q1 rfl q2 ⟨sa,rfl,q3,q4⟩ (λx hx=>?_) (qq.1 dR).2.1 (λg hg=>?_)
      .have h2:=l9 x hx;rw[lV fC σ]
       .exact bg x (by simp[hx])
       .rw[ql];intro y hy he;simp only[zm]at he;have:=iJ y hy;omega
      .obtain⟨p1,p2⟩:=hblk g (by simp[hg]);refine⟨p1,λk b' aW he=>?_⟩;rcases q5 k b' g aW he with⟨b2,eX,ZD⟩|h3
       .exact p2 k b2 eX ZD
       .exact(qq.1 dR).2.2 g h3 g hg rfl
     .simp at h1
   .simp at h
  .simp at h
 |[],_::_,_,_,_,_,_,_,_,ha,_,_,_=>ha.elim
 |_::_,[],_,_,_,_,_,_,_,ha,_,_,_=>ha.elim
end
section
variable{N:NT}{np:Nat}{S0:aP}{w0:World}{refs:Refs}{σ:St}{a:Go.Act}{w:World}{S:aP}{γ:Nat->Value}
theorem Ii{S':aP}{w':World}:∀(cs:List Cap)(cv:List Value)(os:List Out),lH S' w' (cs.map qX) cv os->os=[]
 |[],[],[],_=>rfl
 |[],[],_::_,h=>h.elim
 |[],_::_,_,h=>h.elim
 |c::cs,[],_,h=>by cases c<;>exact h.elim
 |.v _::cs,_::cv,os,h=>Ii cs cv os h
 |.p _::cs,_::cv,os,h=>Ii cs cv os h
theorem yH{S':aP}{w':World}{cs:List Cap}{cv:List Value}:∀{as:List Arg}{zs:List Value}{os:List Out},as.length=zs.length->
  lH S' w' (as++cs.map qX) (zs++cv) os->lH S' w' as zs os
 |[],[],os,_,h=>by
  have:=Ii cs cv os h;subst this;trivial
 |.ref ls::as,u::us,.ref ys::os,hl,⟨h1,h2⟩=>⟨h1,yH (by simpa using hl) h2⟩
 |.rl e x::as,u::us,.rl y::os,hl,⟨h1,h2,h3⟩=>⟨h1,h2,yH (by simpa using hl) h3⟩
 |.v _::as,_::us,os,hl,h=>yH (as:=as) (zs:=us) (by simpa using hl) h
 |.ip _::as,_::us,os,hl,h=>yH (as:=as) (zs:=us) (by simpa using hl) h
 |.clo _ _::as,_::us,os,hl,h=>yH (as:=as) (zs:=us) (by simpa using hl) h
 |[],_::_,_,hl,_=>by simp at hl
 |_::_,[],_,hl,_=>by simp at hl
 |.ref _::_,_::_,[],_,h=>h.elim
 |.ref _::_,_::_,.rl _::_,_,h=>h.elim
 |.rl _ _::_,_::_,[],_,h=>h.elim
 |.rl _ _::_,_::_,.ref _::_,_,h=>h.elim
theorem gp.congr{bx bx':Nat->BS}:∀{as:List Arg}{us:List Value}{fs:List Bk},(∀f∈fs,bx' f.name=bx f.name)->gp bx γ as us fs->gp bx' γ as us fs
 |[],[],[],_,_=>trivial
 |.ref ls::as,u::us,.ref k::fs,hc,⟨h1,⟨fX,h2⟩,h3⟩=>
  ⟨h1,⟨fX,(hc (.ref k) (by simp)).trans h2⟩,gp.congr (λf hf=>hc f (by simp[hf])) h3⟩
 |.rl e x::as,u::us,.rl k e' t::fs,hc,⟨h0,h1,⟨xs,h2,hx⟩,h3⟩=>
  ⟨h0,h1,⟨xs,(hc (.rl k e' t) (by simp)).trans h2,hx⟩,gp.congr (λf hf=>hc f (by simp[hf])) h3⟩
 |.v _::as,_::us,fs,hc,h=>gp.congr (as:=as) (us:=us) hc h
 |.ip _::as,_::us,fs,hc,h=>gp.congr (as:=as) (us:=us) hc h
 |.clo _ _::as,_::us,fs,hc,h=>gp.congr (as:=as) (us:=us) hc h
theorem BK{S1 S':aP}{w':World}(gq:∀g o,S g o->S' g o):∀{as:List Arg}{zs:List Value}{os:List Out},os.all Out.flat=true->lH S' w' as zs os->lH S w' as zs os
 |[],[],[],_,_=>trivial
 |.ref ls::as,u::us,.ref ys::os,hf,⟨⟨g,cur,e,h1,h2,h3,h4⟩,h5⟩=>by
  simp only[List.all_cons,jb,Out.flat]at hf;refine⟨⟨g,cur,e,h1,h2,?_,λo hs=>h4 o (gq g o hs)⟩,BK (S1:=S1) gq hf.2 h5⟩;have hl:=hf.1;clear h1 h2 hf h4 h5;generalize cur.toList=l at h3;induction ys generalizing l with
  |nil=>cases l with|nil=>trivial|cons _ _=>exact h3.elim
  |cons y ys ih=>
   cases l with
   |nil=>exact h3.elim
   |cons z l=>simp only[List.all_cons,jb]at hl;exact⟨r9 _ _ _ hl.1 h3.1,ih hl.2 l h3.2⟩
 |.rl e x::as,u::us,.rl y::os,hf,⟨⟨t,xs,h1,_⟩,_,_⟩=>by
  simp only[List.all_cons,jb,Out.flat,h1,Ty.flat]at hf;exact absurd hf.1 (by simp)
 |.v _::as,_::us,os,hf,h=>BK (S1:=S1) (as:=as) (zs:=us) gq hf h
 |.ip _::as,_::us,os,hf,h=>BK (S1:=S1) (as:=as) (zs:=us) gq hf h
 |.clo _ _::as,_::us,os,hf,h=>BK (S1:=S1) (as:=as) (zs:=us) gq hf h
theorem ZE{S S':aP}{w:World}{e:Nat}{a:Ty}{xs:List a.den}{u:Value}(hf:a.flat=true)(h:oW S' w e a xs u):oW S w e a xs u:=by
 rcases h with⟨hm,css,h1,h2⟩|⟨hm,h1⟩
 .exact .inl ⟨hm,css,h1,h2.mono λx c hx=>r9 _ _ _ hf hx⟩
 .refine .inr ⟨hm,?_⟩;revert hf h1;cases a with
  |pair k b=>intro hf h1;simp only[Ty.flat,jb]at hf;obtain⟨g,es,clock,hu,hh,ha⟩:=h1;exact⟨g,es,clock,hu,hh,ha.mono λx e hx=>⟨r9 _ _ _ hf.1 hx.1,r9 _ _ _ hf.2 hx.2.1,hx.2.2⟩⟩
  |_=>intro _ h1;exact h1.elim
theorem Qj{S':aP}{w':World}(gq:∀g o,S g o->S' g o):∀{rs:List RV}{vs:List Value},rs.all RV.flat=true->All2 (oy S' w') rs vs->All2 (oy S w') rs vs
 |[],[],_,_=>trivial
 |r::rs,v::vs,hf,h=>by
  simp only[List.all_cons,jb]at hf;have i1:=Qj gq hf.2 h.2;cases r with
  |v x=>obtain⟨h1,h2,h3⟩:=h.1;exact⟨⟨r9 _ _ _ hf.1 h1,h2,h3⟩,i1⟩
  |own e x=>obtain⟨a,xs,rfl,h1,h2⟩:=h.1;exact⟨⟨a,xs,rfl,ZE hf.1 h1,λg hg o hs=>h2 g hg o (gq g o hs)⟩,i1⟩
  |so ls=>simp[RV.flat]at hf
  |box ls=>simp[RV.flat]at hf
  |hd n=>simp[RV.flat]at hf
  |vn x ns=>simp[RV.flat]at hf
  |clo f cs=>simp[RV.flat]at hf
 |[],_::_,_,h=>h.elim
 |_::_,[],_,h=>h.elim
theorem ZF{rd:Nat->BS}(aZ:RdOk σ rd){un:Ups}(h:un.all (λe=>kF (rd e.1))=true):∀x∈un,σ.bx x.1 = .free:=
 λx hx=>aZ.free (jx.1 h x hx)
def Qk:List Cel->Slot
 |[c]=> .one c
 |cs=> .tup cs
theorem ZG{γ':Nat->Value}{bx:Nat->BS}{S':aP}{w':World}{ZH:Nat->Value}{cs:List Cel}{vs:List Value}(h:All2 (bR S' w' γ' bx) cs vs) :
  gG S' w' γ' bx ZH (Qk cs) (rj vs):=by
 match cs,vs,h with
 |[c],[v],h=>exact h.1
 |[],[],h=>exact⟨#[],rfl,trivial⟩
 |c::c'::cs,v::v'::vs,h=>exact⟨(v::v'::vs).toArray,rfl,by simpa using h⟩
 |[c],v::v'::vs,h=>exact h.2.elim
 |c::c'::cs,[v],h=>exact h.2.elim
 |[],v::vs,h=>exact h.elim
 |c::cs,[],h=>exact h.elim
theorem E6{bx:Nat->BS}{k e:Nat}{t:Ty}:∀{as:List Arg}{us:List Value}{fs:List Bk},gp bx γ as us (.rl k e t::fs)->∀(bs:List Arg)(vs:List Value),E0 (as++bs) (us++vs)=some (γ k)
 |.rl e x::as,u::us,fs,⟨_,h1,_,_⟩,bs,vs=>by rw[<-h1];rfl
 |.v _::as,_::us,fs,h,bs,vs=>E6 (as:=as) (us:=us) (fs:=fs) h bs vs
 |.ip _::as,_::us,fs,h,bs,vs=>E6 (as:=as) (us:=us) (fs:=fs) h bs vs
 |.clo _ _::as,_::us,fs,h,bs,vs=>E6 (as:=as) (us:=us) (fs:=fs) h bs vs
 |[],[],fs,h,_,_=>h.elim
 |.ref _::as,_::us,fs,h,_,_=>h.elim
 |[],_::_,fs,h,_,_=>h.elim
 |_::_,[],fs,h,_,_=>by cases ‹Arg› <;> exact h.elim
theorem Ql{P:Program}(hR:Rel N np S0 w0 refs σ a w S γ){rw rd rdf:Nat->BS}(ma:RdR σ rw)(aZ:RdOk σ rd)(bH:RdF np σ rdf){T:Nat->Option TyI}{ts:List Nat}{ms:List Bool}{cs:List Cel}{as:List Arg}{us:Ups}{fs:List Bk}{zs:List Value}
  (h:qW rw rdf T ts ms cs=some (as,us,fs))(ha:All2 (bR S w γ σ.bx) cs zs)(bF:bkOk us fs=true)
  {caps:List Cap}{cv:List Value}(rk:All2 (ic S w) caps cv){g:Nat}{K:Ret->Prop}
  (eM:E3 P g (as++caps.map qX) K)(n:Nat) :
  Calls P g (zs++cv).toArray w λe w'=>∃ret,K ret/\∀s u,rM rd rdf n us fs ret=some (s,u)->∃v S' γ',e = .returned v/\Rel N np S0 w0 refs (σ.upd u) a w' S' γ'/\gG S' w' γ' (σ.upd u).bx (tm a) s v:=by
 obtain⟨eV,dr,o8⟩:=P8 hR ma bH h ha;simp only[bkOk,jb]at bF;obtain⟨dR,wB⟩:=bF;have dR:=E4 dR
 have hlen:as.length=zs.length:=by
  have:∀{as:List Arg}{us:List Value}{fs:List Bk},gp σ.bx γ as us fs->as.length=us.length:=by
   intro as;induction as with
   |nil=>intro us fs hh;cases us with|nil=>rfl|cons _ _=>exact hh.elim
   |cons a as ih=>
    intro us fs hh;cases us with
    |nil=>cases a<;>exact hh.elim
    |cons u us=>
     cases a with
     |v x=>have:=ih (us:=us) (fs:=fs) hh;simp[this]
     |ip x=>have:=ih (us:=us) (fs:=fs) hh;simp[this]
     |clo x y=>have:=ih (us:=us) (fs:=fs) hh;simp[this]
     |ref ls=>match fs,hh with|.ref k::fs,⟨_,_,h3⟩=>have:=ih h3;simp[this]
     |rl e x=>match fs,hh with|.rl k e' t::fs,⟨_,_,_,h3⟩=>have:=ih h3;simp[this]
  exact this dr
 obtain⟨S1,bD,cG,gN,dO⟩:=nk us σ S hR eV;have BL:∀k,k∈fs.map Bk.name->us.any (λy=>y.1==k)=false:=by intro k hk;rw[ql];intro x hx he;have:=jx.1 wB x hx;simp only[zm]at he;subst he;simp only[q7,qa,kp]at this;exact this hk
 have py:∀f∈fs,(σ.upd us).bx f.name=σ.bx f.name:=λf hf=>lV us σ (BL _ (List.mem_map_of_mem hf));have wC:=dr.congr py
 have nu:∀k b,fs.any (λy=>y.name==k)=true->σ.bx k = .live b->∀g,blk (γ k)=some g->∀o,¬S1 g o:=by
  intro k b hk hb g hg o;obtain⟨f,hf,he⟩:=qw.1 hk;have he:f.name=k:=by simpa using he
  subst he;have dJ:(σ.upd us).bx f.name = .live b:=(py f hf).trans hb;have di:=bD.box f.name b dJ
  have kO:(∃fX,b = .cell fX false)\/(∃e t xs,b = .lst e t xs false):=by
   have:∀{as:List Arg}{us:List Value}{fs:List Bk},gp σ.bx γ as us fs->f∈fs->(∃fX,σ.bx f.name = .live (.cell fX false))\/(∃e t xs,σ.bx f.name = .live (.lst e t xs false)):=by
    intro as;induction as with
    |nil=>intro us fs hh hm;match us,fs,hh with|[],[],_=>simp at hm
    |cons a as ih=>
     intro us fs hh hm;cases us with
     |nil=>cases a<;>exact hh.elim
     |cons u us=>
      cases a with
      |v x=>exact ih (us:=us) (fs:=fs) hh hm
      |ip x=>exact ih (us:=us) (fs:=fs) hh hm
      |clo x y=>exact ih (us:=us) (fs:=fs) hh hm
      |ref ls=>
       match fs,hh with
       |.ref k::fs,⟨_,⟨fX,h2⟩,h3⟩=>
        rcases jg.1 hm with rfl|hm
        .exact .inl ⟨fX,h2⟩
        .exact ih h3 hm
      |rl e x=>
       match fs,hh with
       |.rl k e' t::fs,⟨_,_,⟨xs,h2,_⟩,h3⟩=>
        rcases jg.1 hm with rfl|hm
        .exact .inr ⟨_,t,xs,h2⟩
        .exact ih h3 hm
   rcases this dr hf with⟨fX,h2⟩|⟨e,t,xs,h2⟩
   .rw[hb]at h2;simp at h2;exact .inl ⟨fX,h2⟩
   .rw[hb]at h2;simp at h2;exact .inr ⟨e,t,xs,h2⟩
  rcases kO with⟨fX,rfl⟩|⟨e,t,xs,rfl⟩
  .obtain⟨g',cur,e,aC,_,_,_,hS,_⟩:=di;rw[aC]at hg;simp[blk]at hg;subst hg;exact hS rfl o
  .exact(di.2 g hg).1 rfl o
 have dq:All2 (mJ S1 w) as zs:=o8 S1 cG gN nu;have BM:All2 (mJ S1 w) (caps.map qX) cv:=P9 (rk.mono (λx z hx=>ic.keep cG hx));have hrefs:ej (as++caps.map qX) (zs++cv)=ej as zs:=by rw[Qb _ _ _ _ hlen,Qa,k7]
 have sb:(ej as zs).Nodup:=by rw[wu dr];have:=Ia hR dR (λk hk=>by obtain⟨f,hf,rfl⟩:=ka.1 hk;exact wv dr f hf);rwa[List.filterMap_map]at this
 refine(eM w S1 (zs++cv) (dq.append BM) (by rw[hrefs];exact sb) bD.here).mono ?_
 rintro e w' ⟨ret,hK,v,S',vs,rfl,cF⟩
 refine⟨ret,hK,λs u bJ=>?_⟩;obtain⟨dY,bA,wD,mb,eN,jE,dM,fk,fD,eL,oz,mM,cY,pz⟩:=cF;rw[hrefs]at fD;have eN:=yH hlen eN;refine⟨v,?_⟩;unfold rM at bJ;split at bJ
 ·-- the list Ij first,cut short
  rename_i m ZI;unfold mkHd at bJ;generalize gD:ret.outs=ro at bJ eN;split at bJ
  .rename_i k e el ZB y oA _;split at bJ
   .rename_i uo ys rm gn;split at bJ
    .rename_i dQ;simp only[jb]at dQ;simp only[j4,j8]at bJ;obtain⟨rfl,rfl⟩:=bJ;have cW:=Qc bD jE dM fk wC dR rm eN fD eL oz mM cY;obtain⟨kN,mN⟩:=tT bD wC rm eN;have rY:(uo.map (·.1)).Nodup:=by rw[kN];exact dR
     have Ik:(k,BS.live (.lst e el ys false))∈uo:=by
      simp only[rL,EA,gn]at rm;split at rm
      .simp only[j4]at rm;rw[<-rm];exact zf
      .simp at rm
     have eW:=Ib uo (σ.upd us) rY Ik;obtain⟨bl,wA⟩:=Bi dQ.2;have mH:=bH.par wA;have h0:=aZ.free dQ.1;have h1:(σ.upd us).bx n = .free:=dO.free h0;have mc:((σ.upd us).upd uo).bx n = .free:=by rw[lV uo,h1];rw[ql];intro y hy he;simp only[zm]at he;obtain⟨b0,_,h2,_⟩:=mN y hy;rw[he,h1]at h2;simp at h2
     obtain⟨ad,len,cap,iY,BN,lX⟩:=pz m ZI;have yI:γ k = .slice ad len cap:=by have:=E6 dr (caps.map qX) cv;rw[iY]at this;simpa using this.symm
     have BO:len=ys.length:=by
      obtain⟨css,aX,_⟩:=Pn yI (cW.box k _ eW);rcases aX.2 with⟨aC,hn⟩|⟨g,gL,cur,aC,_⟩
      .rw[yI]at aC;simp only[Value.slice.injEq]at aC;omega
      .rw[yI]at aC;simp only[Value.slice.injEq]at aC;omega
     obtain⟨γ',dt,fM⟩:=Zv cW eW mH mc (m:=m) (by omega) (by rw[yI,BO]);refine⟨S',γ',rfl,by rw[kH,kH];exact dt,?_⟩;rw[dY,lX,kH,kH];exact fM
    .simp at bJ
   .simp at bJ
  .simp at bJ
 split at bJ
 .rename_i uo rm;split at bJ
  .rename_i sa un jX;split at bJ
   .rename_i bg;have bg:=ZF aZ bg
    have dy:∀(jY:Ups)(Sx Sy:aP),(jY=us\/jY=[])->Rel N np S0 w0 refs (σ.upd jY) a w Sx γ->dg Sx w Sy w'->(∀g o,Sy g o->Sx g o\/w.heap.size<=g)->(∀g o,Sy g o->g<w'.heap.size)->
      lH Sy w' as zs ret.outs->All2 (oy Sy w') ret.vals vs->
      ∃S' γ',Rel N np S0 w0 refs (σ.upd (jY++uo++un)) a w' S' γ'/\All2 (bR S' w' γ' (σ.upd (jY++uo++un)).bx) sa vs:=by
     intro jY Sx Sy sd yJ wE BP wF tU BQ
     have BR:gp (σ.upd jY).bx γ as zs fs:=by
      rcases sd with rfl|rfl
      .exact wC
      .exact dr
     have cW:=Qc yJ wE BP wF BR dR rm tU fD eL oz mM cY;obtain⟨kN,mN⟩:=tT yJ BR rm tU
     have wG:∀k b,((σ.upd jY).upd uo).bx k = .live b->∃b',(σ.upd jY).bx k = .live b':=by
      intro k b hb;by_cases hk:uo.any (λy=>y.1==k)=true
      .obtain⟨x,hx,he⟩:=qw.1 hk;have he:x.1=k:=by simpa using he
       subst he;obtain⟨b0,_,h0,_⟩:=mN x hx;exact⟨b0,h0⟩
      .rw[lV uo _ (qf.2 hk)]at hb;exact⟨b,hb⟩
     have mc:∀x∈un,((σ.upd jY).upd uo).bx x.1 = .free:=by
      intro x hx;have h0:=bg x hx
      have h1:(σ.upd jY).bx x.1 = .free:=by
       rcases sd with rfl|rfl
       .exact dO.free h0
       .exact h0
      rw[lV uo,h1];rw[ql];intro y hy he;simp only[zm]at he;obtain⟨b0,_,h2,_⟩:=mN y hy;rw[he,h1]at h2;simp at h2
     obtain⟨γ',gI,_,wz⟩:=Qh cW jX BQ mc mb (λg hg=>by
      have nr:=wD g hg;refine⟨⟨qm hR.grow nr,hR.kw_new nr⟩,λk b hb he=>?_⟩;obtain⟨b',aW⟩:=wG k b hb;have:=lU (yJ.box k b' aW) he;omega)
     refine⟨Sy,γ',?_,?_⟩
     .rw[kH,kH];exact gI
     .rw[kH,kH];exact wz
    have cD:∃jY,(jY=us\/jY=[])/\jY=(if ret.vals.all RV.flat&&ret.outs.all Out.flat then [] else us)/\
      ∃S' γ',Rel N np S0 w0 refs (σ.upd (jY++uo++un)) a w' S' γ'/\All2 (bR S' w' γ' (σ.upd (jY++uo++un)).bx) sa vs:=by
     by_cases kP:(ret.vals.all RV.flat&&ret.outs.all Out.flat)=true
     .refine⟨[],.inr rfl,by rw[if_pos kP],?_⟩;obtain⟨rU,vU⟩:=Bool.and_eq_true_iff.1 kP;have gq:∀g o,S g o->S' g o:=λg o hs=>(jE g o (cG g o hs).1).1
      refine dy [] S S (.inr rfl) hR (λg o hs=>⟨hs,(jE g o (cG g o hs).1).2⟩) (λg o hs=> .inl hs) (λg o hs=>qn (hR.here g o hs) eL)
       (BK (S1:=S1) gq vU eN) (Qj gq rU bA)
     .exact⟨us,.inl rfl,by rw[if_neg kP],dy us S1 S' (.inl rfl) bD jE dM fk eN bA⟩
    obtain⟨jY,_,sd,S2,γ2,cW,tV⟩:=cD
    have hs:s=Qk sa/\u=(if ret.vals.all RV.flat&&ret.outs.all Out.flat then [] else us)++uo++un:=by
     clear tV dy cW jX;revert bJ;match sa with
     |[c]=>simp only[j4,j8];rintro⟨rfl,rfl⟩;exact⟨rfl,rfl⟩
     |[]=>simp only[j4,j8];rintro⟨rfl,rfl⟩;exact⟨rfl,rfl⟩
     |c::c'::r=>simp only[j4,j8];rintro⟨rfl,rfl⟩;exact⟨rfl,rfl⟩
    obtain⟨rfl,rfl⟩:=hs;rw[<-sd];exact⟨S2,γ2,rfl,cW,by rw[dY];exact ZG tV⟩
   .simp at bJ
  .simp at bJ
 .simp at bJ
theorem Qm{P:Program}{f:Nat}(hf:Fun P f){o:Oper}{cl:Call}(ho:o.op = .call cl){x:Operand}(hc:cl.callee = .value x){cv:Array Value}(hx:a.eval x = .func (.func f) #[] cv) :
  (execOp a.eval o).run P w = .ok (.enter f (cl.args.map a.eval++cv)) w:=by
 obtain⟨fn,h1,h2,h3⟩:=hf;have jV:¬fn.body=none:=λhn=>by rw[hn]at h2;simp at h2
 have tW : ¬ fn.name = "runtime.NumGoroutine" := by simpa using h3
 simp[execOp,ho,resolve,hc,Deferred.ofValue,hx,invoke,callFunc,h1,jV,tW]
end
section
variable{N:NT}{np:Nat}{S0:aP}{w0:World}{refs:Refs}{σ:St}{a:Go.Act}{w:World}{S:aP}{γ:Nat->Value}
def keyV:(k:Ty)->k.den->Value
 |.int q,n=> .int q n
 |.str,s=> .string s
 |_,_=>undef
theorem BT:∀{k:Ty}{x:k.den}{u:Value},k.isKey=true->(Rep S w k x [u]↔u=keyV k x)
 |.int q,x,u,_=>by simp[Rep,keyV]
 |.str,x,u,_=>by simp[Rep,keyV]
 |.bool,_,_,h=>by simp[Ty.isKey]at h
 |.unit,_,_,h=>by simp[Ty.isKey]at h
 |.wrap _,_,_,h=>by simp[Ty.isKey]at h
 |.pair _ _,_,_,h=>by simp[Ty.isKey]at h
 |.list _,_,_,h=>by simp[Ty.isKey]at h
 |.arr _ _,_,_,h=>by simp[Ty.isKey]at h
def keyD:Ty->TypeDesc
 |.int q=> .int q
 |_=> .string
theorem ZJ{P:Program}{T:Nat->Option TyI}(hT:cH P T){n:Nat}{ti:TyI}(hn:T n=some ti){k:Ty}(bG:ti.ty=some k)(hk:k.isKey=true):P.underlying n=some (keyD k):=by
 cases k with
 |int q=>exact HD hT hn bG
 |str=>exact HO hT hn bG
 |_=>simp[Ty.isKey]at hk
theorem Qn{k:Ty}(hk:k.isKey=true)(x:k.den):MapKept.IsKey (keyD k) (keyV k x):=by
 cases k with
 |int q=>rfl
 |str=>trivial
 |_=>simp[Ty.isKey]at hk
theorem ZK{k:Ty}(hk:k.isKey=true)(x y:k.den):Instr.sameNow (keyD k) (keyV k x) (keyV k y)=some (@BEq.beq _ k.keq x y):=by
 cases k with
 |int q=>simp[keyD,keyV,Instr.sameNow]
 |str=>simp[keyD,keyV,Instr.sameNow]
 |_=>simp[Ty.isKey]at hk
theorem ZL{k:Ty}(hk:k.isKey=true){x y:k.den}(h:@BEq.beq _ k.keq x y=true):x=y:=by
 cases k with
 |int q=>simpa[Ty.keq]using h
 |str=>exact(MapKept.bytes_beq x y).1 h
 |_=>simp[Ty.isKey]at hk
theorem ZM{k:Ty}(hk:k.isKey=true)(x:k.den):Instr.sameBits 10000 (keyV k x) (keyV k x)=true:=by
 cases k with
 |int q=>simp[keyV,Instr.sameBits]
 |str=>simp only[keyV,Instr.sameBits];exact(MapKept.bytes_beq x x).2 rfl
 |_=>simp[Ty.isKey]at hk
def E7(S:aP)(w:World)(k v:Ty)(x:k.den×v.den)(e:MapEntry):Prop:=Rep S w k x.1 [e.key]/\VRep S w ⟨v,x.2⟩ e.val
theorem Il{k v:Ty}(hk:k.isKey=true)(q:k.den):∀{xs:List (k.den×v.den)}{es:List MapEntry},All2 (E7 S w k v) xs es->∀i:Nat,
  (@ia _ _ k.keq xs q=true/\∃j e,Instr.findNow (keyD k) (keyV k q) es i=some (some (i+j,e.val))/\es[j]? = some e/\e.key=keyV k q/\VRep S w ⟨v,@gy _ _ k.keq v.dflt xs q⟩ e.val/\
   ∀(z:v.den)(e':MapEntry),e'.key=keyV k q->VRep S w ⟨v,z⟩ e'.val->All2 (E7 S w k v) (@gX _ _ k.keq xs q z) (es.set j e'))\/
  (@ia _ _ k.keq xs q=false/\Instr.findNow (keyD k) (keyV k q) es i=some none/\@gy _ _ k.keq v.dflt xs q=v.dflt/\∀z,@gX _ _ k.keq xs q z=xs++[(q,z)])
 |[],[],_,i=> .inr ⟨rfl,rfl,rfl,λ_=>rfl⟩
 |x::xs,e::es,h,i=>by
  have tX:e.key=keyV k x.1:=(BT hk).1 h.1.1;have hs:=ZK hk q x.1;rw[<-tX]at hs;cases hb:@BEq.beq _ k.keq q x.1 with
  |true=>
   rw[hb]at hs;have ZN:=ZL hk hb;refine .inl ⟨by simp[ia,hb],0,e,by simp[Instr.findNow,hs],rfl,by rw[tX,ZN],?_,λz e' h1 h2=>?_⟩
   .simp only[gy,hb,j5];exact h.1.2
   .simp only[gX,hb,j5,List.set_cons_zero];exact⟨⟨(BT hk).2 h1,h2⟩,h.2⟩
  |false=>
   rw[hb]at hs;rcases Il hk q h.2 (i+1) with⟨h1,j,e',h2,h3,h4,h5,h6⟩|⟨h1,h2,h3,h4⟩
   .refine .inl ⟨by simp only[ia,List.any_cons,hb,vc];exact h1,j+1,e',by simp only[Instr.findNow,hs,h2];congr 3;omega,by simpa using h3,h4,?_,λz e2 g1 g2=>?_⟩
    .simp only[gy,hb,j6];exact h5
    .simp only[gX,hb,j6,List.set_cons_succ];exact⟨h.1,h6 z e2 g1 g2⟩
   .refine .inr ⟨by simp only[ia,List.any_cons,hb,vc];exact h1,by simp only[Instr.findNow,hs,h2],?_,λz=>?_⟩
    .simp only[gy,hb,j6];exact h3
    .simp only[gX,hb,j6,h4 z];rfl
 |[],_::_,h,_=>h.elim
 |_::_,[],h,_=>h.elim
theorem Qo{P:Program}{T:Nat->Option TyI}(hT:cH P T){t:Nat}{k v:Ty}(h:vG T t=some (k,v)) :
  ∃kt vt tv,P.underlying t=some (.map kt vt)/\P.underlying kt=some (keyD k)/\k.isKey=true/\T vt=some tv/\tv.ty=some v:=by
 unfold vG at h;split at h
 .rename_i ti Bg;split at h
  .rename_i k0 v0 ZO;split at h
   .rename_i tk tv nv yK;split at h
    .rename_i k1 v1 dj ZP;split at h
     .rename_i gr;simp only[j4,j8]at h;obtain⟨rfl,rfl⟩:=h;exact⟨k0,v0,tv,YD hT Bg ZO,ZJ hT nv dj gr,gr,yK,ZP⟩
     .simp at h
    .simp at h
   .simp at h
  .simp at h
 .simp at h
theorem Qp{rw:Nat->BS}(ma:RdR σ rw){t:Nat}{k v:Ty}{x y:Leaf}{b:Nat}{ys:List (k.den×v.den)}{q:k.den}(h:mapC rw t k v x y=some (b,ys,q)) :
  x = .ol b/\y = .d k q/\σ.bx b = .live (.lst (4294967296+t) (.pair k v) ys false):=by
 unfold mapC at h;split at h
 .rename_i b0 tk key;split at h
  .rename_i e a0 xs hb;split at h
   .rename_i he;split at h
    .rename_i Hs q' h1 h2;simp only[j4,j8]at h;obtain⟨rfl,rfl,rfl⟩:=h;have e1:=lR h1;have e2:=lR h2;cases e1;cases e2;subst he;exact⟨rfl,rfl,ma.live hb⟩
    .simp at h
   .simp at h
  .simp at h
 .simp at h
theorem BU(t:Nat):isM (4294967296+t)=true:=by
 unfold isM;rw[Nat.ble_eq];exact Nat.le_add_right _ _
theorem Qq(hR:Rel N np S0 w0 refs σ a w S γ){b t:Nat}{k v:Ty}{ys:List (k.den×v.den)}{f:Bool}(hb:σ.bx b = .live (.lst (4294967296+t) (.pair k v) ys f)) :
  ∃g es clock,γ b = .map (some g)/\w.heap[g]? = some (.map es clock)/\All2 (E7 S w k v) ys es.toList:=by
 have h:=(hR.box b _ hb).1;rcases h with⟨hm,_⟩|⟨_,g,es,clock,h1,h2,h3⟩
 .rw[BU]at hm;simp at hm
 .exact⟨g,es,clock,h1,h2,h3⟩
theorem ZQ{P:Program}{T:Nat->Option TyI}(hT:cH P T){n:Nat}{ti:TyI}(hn:T n=some ti){t:Ty}(bG:ti.ty=some t):∃z,(zeroValue n).run P w = .ok z w/\VRep S w ⟨t,t.dflt⟩ z:=by
 obtain⟨i,d,hi,hd,hs,_,ha,_,h⟩:=lD hT hn;obtain⟨_,⟨z,hz,hc⟩,hdo⟩:=h t bG;have Qr:=YE hT hn hi hd;refine⟨z,by simp[zeroValue,typeInfo,hi,hz],?_,?_,?_⟩
 .rw[hc];exact ow t
 .intro hm;have:aggD d=true:=by cases d<;>cases t<;>simp_all[iU,gK,aggD,Ty.agg]
  simp only[zOk,hz]at Qr;cases z<;>simp_all
 .intro hm;have:aggD d=false:=by cases d<;>cases t<;>simp_all[iU,gK,aggD,Ty.agg]
  simp only[zOk,hz]at Qr;cases z<;>first|rfl|simp_all
theorem ZR{P:Program}{E:Env}(hT:cH P E.T)(hR:Rel N np S0 w0 refs σ a w S γ){rw:Nat->BS}(ma:RdR σ rw){t:Nat}{k v:Ty}(ht:vG E.T t=some (k,v)){x y:Leaf}{b:Nat}{ys:List (k.den×v.den)}{q:k.den}
  (h:mapC rw t k v x y=some (b,ys,q)){zx zy:Value}(hx:bY S w γ σ.bx x zx)(hy:bY S w γ σ.bx y zy) :
  ∃z,VRep S w ⟨v,@gy _ _ k.keq v.dflt ys q⟩ z/\∀ok,(Instr.lookup t zx zy ok).run P w = .ok (if ok then .tuple #[z,.bool (@ia _ _ k.keq ys q)] else z) w:=by
 obtain⟨kt,vt,tv,gu,wH,gr,yK,BV⟩:=Qo hT ht;obtain⟨rfl,rfl,hb⟩:=Qp ma h;obtain⟨g,es,clock,hg,hh,ha⟩:=Qq hR hb;have Im:zx = .map (some g):=(hx.2.2 _ hb).trans hg;have Io:zy=keyV k q:=(BT gr).1 hy;subst Im;subst Io;have fE:=MapKept.run_checkKey (w:=w) wH (Qn gr q) es.isEmpty 9999;rcases Il gr q ha 0 with⟨h1,j,e,h2,h3,h4,h5,h6⟩|⟨h1,h2,h3,h4⟩
 .refine⟨e.val,h5,λok=>?_⟩;have hf:=MapKept.run_findKey (w:=w) wH h2;simp only[Instr.lookup,Sem.run_bind,run_underlying gu,Result.andThen_ok,MapKept.run_getObj_map hh,Sem.run_pure,fE,hf,h1]
 .obtain⟨z,hz,ZS⟩:=ZQ (S:=S) (w:=w) hT yK BV;refine⟨z,by rw[h3];exact ZS,λok=>?_⟩;have hf:=MapKept.run_findKey (w:=w) wH h2;simp only[Instr.lookup,Sem.run_bind,run_underlying gu,Result.andThen_ok,MapKept.run_getObj_map hh,Sem.run_pure,fE,hf,h1,hz]
theorem ZT(hR:Rel N np S0 w0 refs σ a w S γ){k:Nat}{b b':Bx}(hk:σ.bx k = .live b){g:Nat}(hg:blk (γ k)=some g)(hS:∀o,¬S g o)(ot:iC b b')
  {w':World}(se:∀i,i≠g->w'.heap[i]? = w.heap[i]?)(cp:w'.heap.size=w.heap.size)(oz:w'.os=w.os)(E8:w'.tape=w.tape)(cY:w'.output=w.output)
  (hb:BxLe γ σ.bx γ (σ.setB k (.live b')).bx->dg S w S w'->eF S w' γ (σ.setB k (.live b')).bx k b') :
  Rel N np S0 w0 refs (σ.setB k (.live b')) a w' S γ:=by
 have hle:BxLe γ σ.bx γ (σ.setB k (.live b')).bx:=by
  intro k' br;by_cases cg:k'=k
  .subst cg;rw[gj];exact⟨by simp,rfl,λb1 dJ=>by simp at dJ;subst dJ;exact⟨b,hk,ot⟩⟩
  .rw[cJ σ _ cg];exact⟨br,rfl,λb hb=>⟨b,hb,.refl b⟩⟩
 have aM:dg S w S w':=by
  intro g' o h;refine⟨h,World.cell?_of_block (se g' ?_)⟩
  rintro rfl
  exact hS o h
 have bC:∀k' b1,(σ.setB k (.live b')).bx k' = .live b1->∃b2,σ.bx k' = .live b2:=by
  intro k' b1 h1;by_cases cg:k'=k
  .subst cg;exact⟨b,hk⟩
  .rw[cJ σ _ cg]at h1;exact⟨b1,h1⟩
 refine Rel.step (bx':=(σ.setB k (.live b')).bx) hR aM hle ?_ ?_ ?_ hR.new ?_ ?_ ?_ (oz.trans hR.os) (E8.trans hR.tape) (cY.trans hR.output) (λg' _ _ h=>⟨se g' (λe=>h k b hk (e▸hg)),λk' b1 h1=>by
  obtain⟨b2,h2⟩:=bC k' b1 h1;exact h k' b2 h2⟩)
 .intro k' b1 h1;by_cases cg:k'=k
  .subst cg;rw[gj]at h1;simp at h1;subst h1;exact hb hle aM
  .rw[cJ σ _ cg]at h1;refine eF.keep aM hle rfl (λg' aC=>⟨?_,λ_=>Iff.rfl⟩) (hR.box k' b1 h1);exact se g' (λh=>hR.apart k' k b1 b g cg h1 hk (h▸aC) hg)
 .intro k' b1 g' h1 aC;obtain⟨b2,h2⟩:=bC k' b1 h1;exact hR.own k' b2 g' h2 aC
 .intro k1 k2 b1 b2 g' bq h1 h2 aC;obtain⟨rS,kG⟩:=bC k1 b1 h1;obtain⟨rT,jV⟩:=bC k2 b2 h2;exact hR.apart k1 k2 rS rT g' bq kG jV aC
 .intro g' o h;rw[cp];exact hR.here g' o h
 .intro g' aC hr;rw[se g' ?_]
  .exact hR.below g' aC hr
  .rintro rfl
   rcases hR.own k b _ hk hg with h|h
   .omega
   .exact hr h.1
 .rw[cp];exact hR.grow
theorem ZU{P:Program}{E:Env}(hT:cH P E.T)(hR:Rel N np S0 w0 refs σ a w S γ){rw:Nat->BS}(ma:RdR σ rw){t:Nat}{k v:Ty}(ht:vG E.T t=some (k,v)){x y:Leaf}{b:Nat}{ys:List (k.den×v.den)}{q:k.den}
  (h:mapC rw t k v x y=some (b,ys,q)){zx zy zz:Value}(hx:bY S w γ σ.bx x zx)(hy:bY S w γ σ.bx y zy){rdf:Nat->BS}(bH:RdF np σ rdf){c:Cel}{z:v.den}{u:Ups}(hd:oa rdf v c=some (z,u))(hz:bR S w γ σ.bx c zz) :
  ∃w' S',(Instr.mapUpdate t zx zy zz).run P w = .ok () w'/\Rel N np S0 w0 refs (σ.upd (u++[(b,.live (.lst (4294967296+t) (.pair k v) (@gX _ _ k.keq ys q z) false))])) a w' S' γ:=by
 obtain⟨kt,vt,tv,gu,wH,gr,yK,BV⟩:=Qo hT ht;obtain⟨rfl,rfl,hb⟩:=Qp ma h;obtain⟨eV,bA,_⟩:=Bm bH hd hz;obtain⟨S1,bD,cG,gN,dO⟩:=nk u σ S hR eV;have BW:u.any (λy=>y.1==b)=false:=by rw[ql];intro y hy tY;obtain⟨_,e,t',xs,f,h1,_,hm⟩:=eV y hy;rw[show y.1=b by simpa using tY,hb]at h1;cases h1;rw[BU]at hm;simp at hm
 have dJ:(σ.upd u).bx b = .live (.lst (4294967296+t) (.pair k v) ys false):=(lV u σ BW).trans hb;obtain⟨g,es,clock,hg,hh,ha⟩:=Qq bD dJ;have Im:zx = .map (some g):=(hx.2.2 _ hb).trans hg;have Io:zy=keyV k q:=(BT gr).1 hy;subst Im;subst Io;have Qs:=bA S1 w cG gN;have Ip:blk (γ b)=some g:=by rw[hg];rfl
 have hS:∀o,¬S1 g o:=((bD.box b _ dJ).2 g Ip).1 rfl;have fE:=MapKept.run_checkKey (w:=w) wH (Qn gr q) false 9999
 have main:∃tZ me,(Instr.mapUpdate t (.map (some g)) (keyV k q) zz).run P w = .ok () { w with heap:=w.heap.setIfInBounds g (.map tZ me) }/\All2 (E7 S1 w k v) (@gX _ _ k.keq ys q z) tZ.toList:=by
  rcases Il gr q ha 0 with⟨h1,j,e,h2,h3,h4,h5,h6⟩|⟨h1,h2,h3,h4⟩
  .have hf:=MapKept.run_findKey (w:=w) wH h2;rw[ke]at hf;refine⟨es.modify j λe=>{ e with key:=keyV k q,val:=zz },clock,?_,?_⟩
   .have BX:((es[j]?).map (·.key)).getD (keyV k q)=keyV k q:=by rw[show es[j]? = some e by simpa using h3];exact h4
    simp only[Instr.mapUpdate,Sem.run_bind,run_underlying gu,Result.andThen_ok,MapKept.run_getObj_map hh,fE,hf,Instr.keyThatStays,BX,ZM gr q,if_true,Sem.run_pure,MapKept.run_setObj_map _ hh]
   .have e1:(es.modify j λe=>{ e with key:=keyV k q,val:=zz }).toList=es.toList.set j { e with key:=keyV k q,val:=zz }:=by
     refine vz λi=>?_;rw[qu,Array.getElem?_modify,List.getElem?_set];have tW:es[j]? = some e:=by simpa using h3
     by_cases dP:j=i
     .subst dP;simp only[if_true,tW,ky];rw[if_pos (by simpa using (jk.1 tW).1)]
     .simp[dP]
    rw[e1];exact h6 z _ rfl Qs
  .have hf:=MapKept.run_findKey (w:=w) wH h2;refine⟨es.push { key:=keyV k q,val:=zz,born:=clock },clock+1,?_,?_⟩
   .simp only[Instr.mapUpdate,Sem.run_bind,run_underlying gu,Result.andThen_ok,MapKept.run_getObj_map hh,fE,hf,MapKept.run_setObj_map _ hh]
   .rw[h4 z,Array.toList_push];exact ha.append ⟨⟨(BT gr).2 rfl,Qs⟩,trivial⟩
 obtain⟨tZ,me,aS,aB⟩:=main;have aA:g<w.heap.size:=(jk.1 hh).1;refine⟨_,S1,aS,?_⟩;rw[kH];refine ZT bD dJ Ip hS (b':= .lst (4294967296+t) (.pair k v) (@gX _ _ k.keq ys q z) false) ⟨rfl,rfl,λhm=>by rw[BU]at hm;simp at hm⟩ (λi hi=>by simp[Ne.symm hi]) (by simp) rfl rfl rfl λhle aM=>?_;refine⟨.inr ⟨BU t,g,tZ,me,hg,by simp[aA],aB.mono λx e hx=>⟨Rep.keep aM _ _ _ hx.1,VRep.keep aM hx.2⟩⟩,λg' aC=>?_⟩;rw[Ip]at aC;simp at aC;subst aC;exact⟨λ_=>hS,λh=>by simp at h⟩
theorem ZV{P:Program}(hR:Rel N np S0 w0 refs σ a w S γ){n t:Nat}{k v:Ty}(hn:σ.bx n = .free) :
  ∃γ',(Instr.makeMap t none).run P w = .ok (.map (some w.heap.size)) (w.alloc (.map #[] 0))/\Rel N np S0 w0 refs (σ.setB n (.live (.lst (4294967296+t) (.pair k v) [] false))) a (w.alloc (.map #[] 0)) S γ'/\
   bR S (w.alloc (.map #[] 0)) γ' (σ.setB n (.live (.lst (4294967296+t) (.pair k v) [] false))).bx (.one (.ol n)) (.map (some w.heap.size)):=by
 have BW:=HR hR hn (o:= .map #[] 0) (b:= .lst (4294967296+t) (.pair k v) [] false) (v:= .map (some w.heap.size)) (λg hg=>by simp[blk]at hg;exact hg.symm) (λhle=>by
  refine⟨.inr ⟨BU t,w.heap.size, #[],0,fv _ _ _,heap_alloc_new w _,trivial⟩,λg hg=>?_⟩;rw[fv]at hg;simp[blk]at hg;subst hg;exact⟨λ_ o ho=>by have:=hR.here _ o ho;omega,λh=>by simp at h⟩)
 refine⟨_,rfl,BW.1,⟨?_,rfl,λb hb=>(fv _ _ _).symm⟩,λ_=>rfl⟩;rw[gj];simp
end
section
variable{N:NT}{np:Nat}{S0:aP}{w0:World}{refs:Refs}{σ:St}{a:Go.Act}{w:World}{S:aP}{γ:Nat->Value}
theorem ZW{P:Program}{E:Env}(hT:cH P E.T)(hR:Rel N np S0 w0 refs σ a w S γ){rdf:Nat->BS}(bH:RdF np σ rdf){t:TypeId}{ti:TyI}(ht:E.T t=some ti)
  {m:Nat}{el:Ty}(bG:ti.ty=some (.arr m el)){ps:List (Nat×Cel)}{vs:Array (Nat×Value)}{xs:List el.den}{u:Ups}
  (gH:All2 (λp v=>p.1=v.1/\bR S w γ σ.bx p.2 v.2) ps vs.toList)(h:iA rdf el (List.replicate m el.dflt) [] ps=some (xs,u)) :
  ∃v S',(Instr.build t vs).run P w = .ok v w/\Rel N np S0 w0 refs (σ.upd u) a w S' γ/\bR S' w γ (σ.upd u).bx (.av m el xs) v:=by
 obtain⟨gu,bV,te,cV,ua⟩:=yy hT ht bG;have cp:=ni hT cV ua;obtain⟨z,hz,gC⟩:=yx hT ht w bG;obtain⟨eV,cQ⟩:=H0 bH bV ps vs.toList gH h .nil;obtain⟨S1,bD,cG,gN,dO⟩:=nk u σ S hR eV;obtain⟨P3,css,aB,kP⟩:=ow (S:=S1) (w:=w) (.arr m el);obtain⟨bz,jB,fP,gw,dn⟩:=cQ S1 cG gN css z.cells aB (by rw[gC];exact kP)
 have hlen:∀(ps:List (Nat×Cel)){xs cI:List el.den}{u u':Ups},iA rdf el xs u ps=some (cI,u')->cI.length=xs.length:=by
  intro ps;induction ps with
  |nil=>intro xs cI u u' h;simp[iA]at h;rw[h.1]
  |cons p ps ih=>
   intro xs cI u u' h;obtain⟨i,c⟩:=p;simp only[iA]at h;split at h
   .split at h
    .rw[ih h];simp
    .simp at h
   .simp at h
 have lZ:xs.length=m:=by rw[hlen ps h];simp
 refine⟨.agg bz,S1,?_,bD,bz,rfl,lZ,jB,gw,dn⟩;simp only[Instr.build,Sem.run_bind,hz,Result.andThen_ok,run_underlying gu,iV hT cV,<-cp,fP,Sem.run_pure]
theorem ZX{P:Program}{E:Env}(hT:cH P E.T){bx:Nat->BS}{t:TypeId}{ti:TyI}(ht:E.T t=some ti){m:Nat}{el:Ty}(bG:ti.ty=some (.arr m el)) :
  ∃v,(Instr.build t #[]).run P w = .ok v w/\bR S w γ bx (.st (mE (.arr m el))) v:=by
 obtain⟨gu,bV,te,cV,ua⟩:=yy hT ht bG;obtain⟨z,hz,gC⟩:=yx hT ht w bG;refine⟨.agg z.cells,?_,z.cells,rfl,by rw[gC];exact tK (.arr m el),λu hu=>EV gC u (by simpa using hu)⟩;simp only[Instr.build,Sem.run_bind,hz,Result.andThen_ok,run_underlying gu,iV hT cV];rfl
theorem Qt{rd:Nat->BS}(aZ:RdF np σ rd){el:Ty}:∀{ls:List Leaf}{xs:List el.den}{u:Ups}{zs:List Value},rI rd el ls=some (xs,u)->All2 (bY S w γ σ.bx) ls zs->
  FrzL np σ.bx u/\∀S' w',dg S w S' w'->Froz σ.bx γ S' w' u->All2 (λx z=>Rep S' w' el x [z]) xs zs
 |[],xs,u,zs,h,ha=>by
  simp[rI]at h;obtain⟨rfl,rfl⟩:=h;cases zs with
  |nil=>exact⟨.nil,λ_ _ _ _=>trivial⟩
  |cons _ _=>exact ha.elim
 |l::ls,xs,u,zs,h,ha=>by
  cases zs with
  |nil=>exact ha.elim
  |cons z zs=>
   simp only[rI]at h;split at h
   .rename_i x u1 EY u2 h1 h2;simp only[j4,j8]at h;obtain⟨rfl,rfl⟩:=h;obtain⟨f1,p1⟩:=tJ aZ h1 ha.1;obtain⟨f2,p2⟩:=Qt aZ h2 ha.2;exact⟨FrzL.app.2 ⟨f1,f2⟩,λS' w' hk hf=>⟨p1 S' w' hk (Froz.app.1 hf).1,p2 S' w' hk (Froz.app.1 hf).2⟩⟩
   .simp at h
theorem Qu{el:Ty}{S':aP}{w':World}:∀{xs:List el.den}{zs:List Value},All2 (λx z=>Rep S' w' el x [z]) xs zs->∃css,All2 (λx c=>Rep S' w' el x c) xs css/\zs=css.flatten
 |[],[],_=>⟨[],trivial,rfl⟩
 |x::xs,z::zs,h=>by
  obtain⟨css,h1,h2⟩:=Qu h.2;exact⟨[z]::css,⟨h.1,h1⟩,by simp[h2]⟩
 |[],_::_,h=>h.elim
 |_::_,[],h=>h.elim
theorem ZY{P:Program}{E:Env}(hT:cH P E.T)(hR:Rel N np S0 w0 refs σ a w S γ){rd rdf:Nat->BS}(aZ:RdOk σ rd)(bH:RdF np σ rdf){t:TypeId}{ti:TyI}(ht:E.T t=some ti)
  {x:Leaf}{m:Nat}{el:Ty}{ls:List Leaf}{xs:List el.den}{u:Ups}{v:Value}(h:rJ rd ti.ty x=some (m,el,ls))(hg:rI rdf el ls=some (xs,u))(hl:xs.length=m)(hx:bY S w γ σ.bx x v) :
  ∃z S',(Instr.loadAt t v).run P w = .ok z w/\Rel N np S0 w0 refs (σ.upd u) a w S' γ/\bR S' w γ (σ.upd u).bx (.av m el xs) z:=by
 unfold rJ at h;split at h
 .rename_i k;split at h
  .rename_i m' ES bG;split at h
   .split at h
    .rename_i fX hk;simp only[j4,j8]at h;obtain⟨rfl,rfl,rfl⟩:=h;have hk:=aZ.live hk;obtain⟨g,aC,hu⟩:=hx.2.2 _ hk;obtain⟨g',cur,e,nw,hh,ha,h1,_⟩:=hR.box k _ hk;rw[aC]at nw;simp at nw;subst nw;obtain⟨eV,cQ⟩:=Qt bH hg ha;obtain⟨S1,bD,cG,gN,dO⟩:=nk u σ S hR eV;obtain⟨css,aB,dL⟩:=Qu (cQ S1 w cG gN);have bA:Rep S1 w (.arr m' ES) xs cur.toList:=⟨hl,css,aB,dL⟩;obtain⟨HK,_,_⟩:=yy hT ht bG;obtain⟨i,d,hi,hd,hs,_,lE,_,Bh⟩:=lD hT ht;have cp:cur.size=ti.size:=by have:=Rep.length _ _ _ bA;rw[ni hT ht bG]at this;simpa using this
     refine⟨.agg cur,S1,?_,bD,cur,rfl,bA⟩;subst hu;have:=run_loadVar_row (P:=P) w g e t cur (0,0) d hh hd (by rw[HK]at hd;cases hd;rfl) (by rw[hi];simp[hs,cp]);simp only[Instr.loadAt,Sem.run_bind,Instr.sureAddr,Sem.run_pure,Result.andThen_ok,this]
    .simp at h
   .simp at h
  .simp at h
 .simp at h
def Slot.bare:Slot->Bool
 |.cnd _ _ _=>false
 |_=>true
theorem Qv(hR:Rel N np S0 w0 refs σ a w S γ){act:List (Nat×Bool)}(ba:o4 (tm a) act)(ps:List (Nat×Operand)) :
  All2 (λp v=>p.1=v.1/\bR S w γ σ.bx p.2 v.2) (ps.map λp=>(p.1,(σ.ev p.2).cel act)) (ps.map λp=>(p.1,a.eval p.2)):=by
 induction ps with
 |nil=>trivial
 |cons p ps ih=>exact⟨⟨rfl,ew hR ba p.2⟩,ih⟩
theorem E9(hR:Rel N np S0 w0 refs σ a w S γ){act:List (Nat×Bool)}(ba:o4 (tm a) act)(ps:List Operand) :
  All2 (bR S w γ σ.bx) (ps.map λp=>(σ.ev p).cel act) (ps.map a.eval):=by
 induction ps with
 |nil=>trivial
 |cons p ps ih=>exact⟨ew hR ba p,ih⟩
theorem BZ{rd:Nat->BS}(aZ:RdOk σ rd):RdF np σ (λk=>if parK np k then .gone else rd k):=by
 refine⟨λk=>?_,λk e a xs f h=>?_⟩
 rotate_left
 .dsimp only at h
  split at h
  .simp at h
  .exact aZ.2 k e a xs f h
 dsimp only
 split
 .exact .inr rfl
 .rename_i hp;rcases aZ.1 k with h|h
  .exact .inl ⟨h,by simpa using hp⟩
  .exact .inr h
theorem ub{P:Program}{o:Oper}{l:Leaf}{v:Value}(hR:Rel N np S0 w0 refs σ a w S γ)(hr:(execOp a.eval o).run P w = .ok (.value v) w)
  (hs:bY S w γ σ.bx l v)(h1:One v):HE P N np S0 w0 refs o σ a w S γ (.one (.one l)) []:=
 iW hR hr ⟨hs,λ_=>h1⟩
theorem wI{c:Cel}{l:Leaf}(h:lf c=l)(hd:l ≠ .dead):c = .one l:=by
 cases c with
 |one x=>simp[lf]at h;rw[h]
 |st ls=>simp[lf]at h;exact absurd h.symm hd
 |av n a xs=>simp[lf]at h;exact absurd h.symm hd
theorem Iq{P:Program}{E:Env}(hT:cH P E.T)(hR:Rel N E.np S0 w0 refs σ a w S γ){act:List (Nat×Bool)}(ba:o4 (tm a) act){rw:Nat->BS}(ma:RdR σ rw)
  {o:Oper}{s:Slot}{u:Ups}(h:dv E σ.ev rw act o=some (.val true s u)):HE P N E.np S0 w0 refs o σ a w S γ s u/\s.bare=true:=by
 have aZ:RdOk σ (mskM rw):=ma.msk;have bH:=BZ (np:=E.np) aZ;have hex:∀op,o.op=op->execOp a.eval o=execOp a.eval { o with op:=op }:=λop h=>by subst h;rfl
 unfold dv at h;dsimp only at h;split at h
 ·-- move
  rename_i x bT;split at h
  .rename_i l hl;simp only[j4,Act.val.injEq]at h;obtain⟨_,rfl,rfl⟩:=h;have:=oZ hR x;rw[hl]at this;exact⟨iW hR (v:=a.eval x) (by simp[execOp,bT]) this,rfl⟩
  .simp only[j4,Act.cel,Act.val.injEq]at h;obtain⟨_,rfl,rfl⟩:=h;exact⟨iW hR (v:=a.eval x) (by simp[execOp,bT]) (ew hR ba x),rfl⟩
 ·-- assign
  rename_i x bT;split at h
  .rename_i l hl;simp only[j4,Act.val.injEq]at h;obtain⟨_,rfl,rfl⟩:=h;have:=oZ hR x;rw[hl]at this;exact⟨iW hR (v:=a.eval x) (by simp[execOp,bT]) this,rfl⟩
  .simp only[j4,Act.cel,Act.val.injEq]at h;obtain⟨_,rfl,rfl⟩:=h;exact⟨iW hR (v:=a.eval x) (by simp[execOp,bT]) (ew hR ba x),rfl⟩
 ·-- pick
  rename_i x y z bT;split at h
  .rename_i v hv;have hx:=ew hR ba x;have Ir:a.eval x = .bool v:=by have:=wI hv (by simp);rw[this]at hx;exact rb hx
   have aS:(execOp a.eval o).run P w = .ok (.value (if v then a.eval y else a.eval z)) w:=by simp[execOp,bT,Ir,asBool]
   have hy:v=true->bR S w γ σ.bx ((σ.ev y).cel (EC x true act)) (a.eval y):=by
    intro uc;refine HF ?_ (oZ hR y);cases x with
    |tmp t=>
     intro g hg;rcases jg.1 hg with rfl|hg
     .simp only;rw[<-uc];exact Ir
     .exact ba g hg
    |_=>exact ba
   have hz:v=false->bR S w γ σ.bx ((σ.ev z).cel (EC x false act)) (a.eval z):=by
    intro uc;refine HF ?_ (oZ hR z);cases x with
    |tmp t=>
     intro g hg;rcases jg.1 hg with rfl|hg
     .simp only;rw[<-uc];exact Ir
     .exact ba g hg
    |_=>exact ba
   split at h
   .rename_i t p t' q hp hq;split at h
    .rename_i q' iF;simp only[j4,Act.leaf,Act.val.injEq]at h;obtain⟨_,rfl,rfl⟩:=h;have:=lR iF;cases this;refine⟨iW hR aS ?_,rfl⟩;cases v with
     |true=>have:=hy rfl;rw[hp]at this;exact this
     |false=>have:=hz rfl;rw[hq]at this;exact this
    .simp at h
   .rename_i t p hp hq;simp only[j4,Act.val.injEq]at h;obtain⟨gm,rfl,rfl⟩:=h;have gm:v=true:=gm;subst gm;refine⟨iW hR aS ?_,rfl⟩;have:=hy rfl;rw[hp]at this;exact this
   .rename_i t q hp hq;simp only[j4,Act.val.injEq]at h;obtain⟨gm,rfl,rfl⟩:=h;have gm:v=false:=by simpa using gm
    subst gm;refine⟨iW hR aS ?_,rfl⟩;have:=hz rfl;rw[hq]at this;exact this
   .simp at h
  .simp at h
 ·-- alloc
  rename_i t bT;split at h
  .rename_i ti ht;split at h
   .rename_i bg;have hd:=aZ.free bg;split at h
    .rename_i k el bG;split at h
     .simp only[j4,Act.val.injEq]at h;obtain⟨_,rfl,rfl⟩:=h;obtain⟨z,gC,hz⟩:=HZ (w:=w) hT ht bG;obtain⟨dt,hc⟩:=HS hR hd (ls:=mE (.arr k el)) (cur:=z.cells) (e:=t) (by rw[gC];exact tK (.arr k el)) (EV gC);exact⟨⟨_,_,S,_,.inl (by simp[execOp,bT,hz]),dt,hc⟩,rfl⟩
     simp only[j4,Act.val.injEq]at h;obtain⟨_,rfl,rfl⟩:=h;obtain⟨z,gC,hz⟩:=HZ (w:=w) hT ht bG;obtain⟨dt,hc⟩:=PG hR hd (m:=k) (t:=el) (xs:=List.replicate k el.dflt) (cur:=z.cells) (e:=t) (by rw[gC];exact ow (.arr k el));exact⟨⟨_,_,S,_,.inl (by simp[execOp,bT,hz]),dt,hc⟩,rfl⟩
    .rename_i ty bq bG;simp only[j4,Act.val.injEq]at h;obtain⟨_,rfl,rfl⟩:=h;obtain⟨z,gC,hz⟩:=HZ (w:=w) hT ht bG;obtain⟨dt,hc⟩:=HS hR hd (ls:=mE ty) (cur:=z.cells) (e:=t) (by rw[gC];exact tK ty) (EV gC);exact⟨⟨_,_,S,_,.inl (by simp[execOp,bT,hz]),dt,hc⟩,rfl⟩
    .simp at h
   .simp at h
  .simp at h
 ·-- box
  rename_i t x bT;split at h
  .rename_i bg;have hd:=aZ.free bg;have hx:=ew hR ba x;split at h
   .rename_i k el xs hc;simp only[j4,Act.val.injEq]at h;obtain⟨_,rfl,rfl⟩:=h;rw[hc]at hx;obtain⟨cs,hu,bA⟩:=hx;obtain⟨dt,fM⟩:=PG hR hd (m:=k) (t:=el) (xs:=xs) (cur:=(a.eval x).cells) (e:=t) (by rw[hu];exact bA);exact⟨⟨_,_,S,_,.inl (by simp[execOp,bT,PT]),dt,fM⟩,rfl⟩
   .split at h
    .rename_i ls ZZ;simp only[j4,Act.val.injEq]at h;obtain⟨_,rfl,rfl⟩:=h;obtain⟨hl,h1⟩:=Bo ZZ hx;obtain⟨dt,fM⟩:=HS hR hd (ls:=ls) (cur:=(a.eval x).cells) (e:=t) hl h1;exact⟨⟨_,_,S,_,.inl (by simp[execOp,bT,PT]),dt,fM⟩,rfl⟩
    .simp at h
  .simp at h
 ·-- build
  rename_i t ps bT;have gH:=Qv hR ba ps.toList;have sf:All2 (λp v=>p.1=v.1/\bR S w γ σ.bx p.2 v.2) (ps.toList.map λp=>(p.1,(σ.ev p.2).cel act)) (ps.map λp=>(p.1,a.eval p.2)).toList:=by simpa using gH
  split at h
  .rename_i ti ht;split at h
   .rename_i k el bG;split at h
    .rename_i Qw;simp only[j4,Act.cel,Act.val.injEq]at h;obtain⟨_,rfl,rfl⟩:=h;obtain⟨v,aS,hc⟩:=ZX (w:=w) (S:=S) (γ:=γ) (bx:=σ.bx) hT ht bG;have pC:ps = #[]:=by simp only[jb,List.isEmpty_iff]at Qw;exact Array.toList_eq_nil_iff.1 Qw.2
     subst pC;exact⟨iW hR (v:=v) (by simp[execOp,bT,aS]) hc,rfl⟩
    split at h
    .rename_i xs u' hb;simp only[j4,Act.val.injEq]at h;obtain⟨_,rfl,rfl⟩:=h;obtain⟨v,S',aS,dt,hc⟩:=ZW hT hR bH ht bG sf hb;exact⟨⟨v,w,S',γ,.inl (by simp[execOp,bT,aS]),dt,hc⟩,rfl⟩
    .simp at h
   .rename_i ty bq bG;split at h
    .rename_i lE;split at h
     .rename_i ls hb;simp only[j4,Act.cel,Act.val.injEq]at h;obtain⟨_,rfl,rfl⟩:=h;obtain⟨v,aS,hc⟩:=Zk hT ht bG lE sf hb;exact⟨iW hR (v:=v) (by simp[execOp,bT,aS]) hc,rfl⟩
     .simp at h
    .simp at h
   .simp at h
  .simp at h
 ·-- buildSlice
  rename_i t len ps bT;have gH:=Qv hR ba ps.toList;have sf:All2 (λp v=>p.1=v.1/\bR S w γ σ.bx p.2 v.2) (ps.toList.map λp=>(p.1,(σ.ev p.2).cel act)) (ps.map λp=>(p.1,a.eval p.2)).toList:=by simpa using gH
  split at h
  .rename_i ti ht;split at h
   .rename_i el bG;split at h
    .simp at h
    .rename_i hlen;split at h
     .rename_i xs u' hb;split at h
      .rename_i bg;simp only[j4,Act.val.injEq]at h;obtain⟨_,rfl,rfl⟩:=h;obtain⟨v',w',S',γ',aS,dt,hc⟩:=Zx hT hR bH ht bG (by omega) sf hb (aZ.free bg);exact⟨⟨v',w',S',γ',.inl (by simp[execOp,bT,aS]),dt,hc⟩,rfl⟩
      .simp at h
     .simp at h
   .simp at h
  .simp at h
 ·-- load
  rename_i t x bT;split at h
  .rename_i ti ht;split at h
   .rename_i m el ls pD;split at h
    .rename_i xs u' hg;split at h
     .rename_i hlen;simp only[j4,Act.val.injEq]at h;obtain⟨_,rfl,rfl⟩:=h;obtain⟨z,S',hz,dt,ig⟩:=ZY hT hR aZ bH ht pD hg hlen (iX (ew hR ba x));exact⟨⟨z,w,S',γ,.inl (by simp[execOp,bT,hz]),dt,ig⟩,rfl⟩
     .simp at h
    .simp at h
   unfold oCel at h;split at h
   .rename_i c hc;simp only[j4,Act.cel,Act.val.injEq]at h;obtain⟨_,rfl,rfl⟩:=h;obtain⟨z,hz,ig⟩:=PC hT hR aZ ht hc (iX (ew hR ba x));exact⟨iW hR (v:=z) (by simp[execOp,bT,hz]) ig,rfl⟩
   .simp at h
  .simp at h
 ·-- store
  rename_i t x y bT;split at h
  .rename_i ti ht;split at h
   .rename_i u' hu;simp only[j4,Act.val.injEq]at h;obtain⟨_,rfl,rfl⟩:=h;obtain⟨w',S',aS,dt⟩:=Za hT hR aZ bH ht hu (iX (ew hR ba x)) (ew hR ba y);exact⟨⟨undef,w',S',γ,.inr ⟨by simp[execOp,bT,aS],rfl⟩,dt,⟨trivial,λh=>absurd rfl h⟩⟩,rfl⟩
   .simp at h
  .simp at h
 ·-- nilCheck
  rename_i x bT;have hx:=ew hR ba x;split at h
  .rename_i k p hl;split at h
   .rename_i gv;simp only[j4,Act.leaf,Act.val.injEq]at h;obtain⟨_,rfl,rfl⟩:=h;rw[wI hl (by simp)]at hx;obtain⟨b,hb⟩:=Bi gv;obtain⟨g,_,hu⟩:=hx.1.2.2 b (aZ.live hb);exact⟨iW hR (v:=a.eval x) (by simp[execOp,bT,hu]) hx,rfl⟩
   .simp at h
  .rename_i k i p hl;split at h
   .rename_i gv;simp only[j4,Act.leaf,Act.val.injEq]at h;obtain⟨_,rfl,rfl⟩:=h;rw[wI hl (by simp)]at hx;obtain⟨b,hb⟩:=Bi gv;have h3:=hx.1.2.2 b (aZ.live hb)
    have hu:∃g o,a.eval x = .pointer (some ⟨g,o,none⟩):=by
     cases b with
     |cell ls f=>exact h3.elim
     |lst e t xs f=>obtain⟨_,_,g,cap,_,hu⟩:=h3;exact⟨_,_,hu⟩
     |arr n t xs=>obtain⟨_,g,_,hu⟩:=h3;exact⟨_,_,hu⟩
    obtain⟨g,Z0,hu⟩:=hu;exact⟨iW hR (v:=a.eval x) (by simp[execOp,bT,hu]) hx,rfl⟩
   .simp at h
  .rename_i ls hl;simp only[j4,Act.leaf,Act.val.injEq]at h;obtain⟨_,rfl,rfl⟩:=h;rw[wI hl (by simp)]at hx;obtain⟨g,Z0,cs,hu,_⟩:=hx.1;exact⟨iW hR (v:=a.eval x) (by simp[execOp,bT,hu]) hx,rfl⟩
  .simp at h
 ·-- binOp
  rename_i op t x y rest bT;unfold oChk at h;split at h
  .rename_i b c hc;simp only[j4,Act.val.injEq]at h;obtain⟨rfl,rfl,rfl⟩:=h;obtain⟨z,hz,hl,h1⟩:=YM (x:=x) (y:=y) hT hc (ew hR ba x) (ew hR ba y);refine⟨ub hR ?_ hl h1,rfl⟩;simp only[execOp,bT];rw[Sem.run_bind,hz];rfl
  .simp at h
 ·-- unOp
  rename_i op t x bT;unfold lQ at h;split at h
  .rename_i c hc;simp only[j4,Act.leaf,Act.val.injEq]at h;obtain⟨_,rfl,rfl⟩:=h;obtain⟨z,hz,hl,h1⟩:=YN hc (ew hR ba x);refine⟨ub hR ?_ hl h1,rfl⟩;simp only[execOp,bT];rw[Sem.run_bind,hz];rfl
  .simp at h
 ·-- convert
  rename_i src dst x bT;split at h
  .rename_i ts ti ny ht;split at h
   .rename_i k v k0 k' hl Is bG;simp only[j4,Act.leaf,Act.val.injEq]at h;obtain⟨_,rfl,rfl⟩:=h;have hx:=ew hR ba x;rw[wI hl (by simp)]at hx;have hu:=tI hx;have gu:=HD hT ht bG;refine⟨ub hR (v:= .int k' (k'.wrap v)) ?_ rfl rfl,rfl⟩;have B0:=HD hT ny Is;simp only[execOp,bT];rw[Sem.run_bind];have:(convert src dst (a.eval x)).run P w = .ok (.int k' (k'.wrap v)) w:=by simp only[hu,convert,Sem.run_bind,run_underlying B0,run_underlying gu,Result.andThen_ok];simp[Conv.intToInt]
    rw[this];rfl
   .simp at h
  .simp at h
 ·-- makeFunc
  rename_i f first caps bT
  split at h
  .rename_i gO;split at h
   .split at h
    .rename_i ks hl;simp only[j4,Act.val.injEq]at h;obtain⟨_,rfl,rfl⟩:=h;have dq:=E9 hR ba caps.toList;have nC:first = #[]:=by simpa using gO
     refine⟨⟨.func (.func f) #[] (caps.map a.eval),w,S,γ,.inl ?_,hR,⟨⟨_,rfl,by
      have:=P6 hl dq;rw[<-Array.toList_map]at this;exact this⟩,λ_=>rfl⟩⟩,rfl⟩
     simp[execOp,bT,nC,Instr.makeFunc]
    .simp at h
   split at h
   .rename_i l u' hl;simp only[j4,Act.val.injEq]at h;obtain⟨_,rfl,rfl⟩:=h;have dq:=E9 hR ba caps.toList;obtain⟨S',dt,_,cR,_⟩:=P5 bH hl hR dq;have nC:first = #[]:=by simpa using gO
    refine⟨⟨.func (.func f) #[] (caps.map a.eval),w,S',γ,.inl ?_,dt,⟨⟨_,rfl,by simpa using cR⟩,λ_=>rfl⟩⟩,rfl⟩;simp[execOp,bT,nC,Instr.makeFunc]
   .simp at h
  .simp at h
 ·-- fieldAddr
  rename_i t x i bT;split at h
  .rename_i ti ht;unfold lQ at h;split at h
   .rename_i c hc;simp only[j4,Act.leaf,Act.val.injEq]at h;obtain⟨_,rfl,rfl⟩:=h;obtain⟨z,hz,hl,h1⟩:=YX hT aZ ht hc (iX (ew hR ba x));exact⟨ub hR (by simp[execOp,bT,hz]) hl h1,rfl⟩
   .simp at h
  .simp at h
 ·-- field
  rename_i t x i bT;split at h
  .rename_i ti ht;split at h
   .rename_i ls f hc hf;split at h
    .rename_i tf oY;unfold oCel at h;split at h
     .rename_i c bJ;simp only[j4,Act.cel,Act.val.injEq]at h;obtain⟨_,rfl,rfl⟩:=h;have hx:=ew hR ba x;rw[hc]at hx;obtain⟨cs,hu,aB,h1⟩:=hx;obtain⟨fs,gu,fl,eV,jF,sg,tf',Z1,bV⟩:=Pq hT ht hf;rw[<-sg]at oY;have gw:=(aB.drop fl.offset).take tf.size;have kG:∀u∈(cs.toList.drop fl.offset).take tf.size,One u:=λu fj=>h1 u (zj (qg fj));rw[<-jF]at bJ
      have o5:∃z,(part fl.type cs fl.offset).run P w = .ok z w/\bR S w γ σ.bx c z:=by
       unfold rH at bJ;split at bJ
       .rename_i lT;split at bJ
        .rename_i hlen;simp only[j4]at bJ;subst bJ;refine⟨.agg (cs.extract fl.offset (fl.offset+tf.size)),?_,_,rfl,?_,?_⟩
         .simp only[part,Sem.run_bind,yw hT oY,lT,Result.andThen_ok,if_true,iV hT oY,Sem.run_pure]
         .have:(cs.extract fl.offset (fl.offset+tf.size)).toList=(cs.toList.drop fl.offset).take tf.size:=by simp[List.take_drop]
          rw[this];exact gw
         .have:(cs.extract fl.offset (fl.offset+tf.size)).toList=(cs.toList.drop fl.offset).take tf.size:=by simp[List.take_drop]
          rw[this];exact kG
        .simp at bJ
       .rename_i lT;split at bJ
        .rename_i l' kQ;simp only[j4]at bJ;subst bJ;rw[kQ]at gw;cases hq:(cs.toList.drop fl.offset).take tf.size with
         |nil=>rw[hq]at gw;exact gw.elim
         |cons z zs=>
          rw[hq]at gw kG
          have hz:cs[fl.offset]? = some z:=by
           have:((cs.toList.drop fl.offset).take tf.size)[0]? = some z:=by rw[hq];rfl
           have:=EI this;simpa using this
          refine⟨z,?_,gw.1,λ_=>kG z (by simp)⟩;simp only[part,Sem.run_bind,yw hT oY,Result.andThen_ok,if_neg lT,hz,Sem.run_pure]
        .simp at bJ
      obtain⟨z,hz,ig⟩:=o5;refine⟨iW hR (v:=z) ?_ ig,rfl⟩;simp only[execOp,bT,hu];rw[Sem.run_bind];have:(Instr.field t (.agg cs) i).run P w = .ok z w:=by simp only[Instr.field,Sem.run_bind,run_underlying gu,Result.andThen_ok,eV,asAgg,Sem.run_pure,hz]
      rw[this];rfl
     .simp at h
    .simp at h
   .simp at h
  .simp at h
 ·-- indexAddr
  rename_i t x i bT;split at h
  .rename_i ti ht;unfold oChk at h;split at h
   .rename_i b c hc;simp only[j4,Act.val.injEq]at h;obtain⟨rfl,rfl,rfl⟩:=h;obtain⟨z,hz,hl,h1⟩:=YY hT hR aZ ht hc (iX (ew hR ba x)) (iX (ew hR ba i));exact⟨ub hR (by simp[execOp,bT,hz]) hl h1,rfl⟩
   .simp at h
  .simp at h
 ·-- index
  rename_i t x i bT;split at h
  .rename_i ti ht;split at h
   .rename_i b c hc;simp only[j4,Act.val.injEq]at h;obtain⟨rfl,rfl,rfl⟩:=h;obtain⟨z,hz,ig⟩:=Y0 hT ht hc (ew hR ba x) (iX (ew hR ba i));exact⟨iW hR (v:=z) (by simp[execOp,bT,hz]) ig,rfl⟩
   .simp at h
  .simp at h
 ·-- makeMap
  rename_i t bT;split at h
  .rename_i k v ht;split at h
   .rename_i iY;simp only[j4,Act.val.injEq]at h;obtain⟨_,rfl,rfl⟩:=h;obtain⟨γ',aS,dt,fM⟩:=ZV (P:=P) (t:=t) (k:=k) (v:=v) hR (aZ.free iY);exact⟨⟨_,_,S,γ',.inl (by simp[execOp,bT,aS]),dt,fM⟩,rfl⟩
   .simp at h
  .simp at h
 ·-- lookup
  rename_i t x i ok bT;split at h
  .rename_i k v ht;split at h
   .rename_i b ys q hm;obtain⟨z,hz,aS⟩:=ZR hT hR ma ht hm (iX (ew hR ba x)) (iX (ew hR ba i));split at h
    .simp only[j4,Act.val.injEq]at h;obtain⟨_,rfl,rfl⟩:=h;have hr:=aS true;simp only[if_true]at hr;refine⟨iW hR (v:= .tuple #[z,.bool (@ia _ _ k.keq ys q)]) (by simp[execOp,bT,hr]) ?_,rfl⟩;exact⟨_,rfl,yG hz,⟨rfl,λ_=>rfl⟩,trivial⟩
    .simp only[j4,Act.cel,Act.val.injEq]at h;obtain⟨_,rfl,rfl⟩:=h;have hr:=aS false;simp only[k9,za]at hr;exact⟨iW hR (v:=z) (by simp[execOp,bT,hr]) (yG hz),rfl⟩
   .simp at h
  .simp at h
 ·-- mapUpdate
  rename_i t x i y bT;split at h
  .rename_i k v ht;split at h
   .rename_i b ys q z u' hm hd;simp only[j4,Act.val.injEq]at h;obtain⟨_,rfl,rfl⟩:=h;obtain⟨w',S',aS,dt⟩:=ZU hT hR ma ht hm (iX (ew hR ba x)) (iX (ew hR ba i)) bH hd (ew hR ba y);exact⟨⟨undef,w',S',γ,.inr ⟨by simp[execOp,bT,aS],rfl⟩,dt,⟨trivial,λh=>absurd rfl h⟩⟩,rfl⟩
   .simp at h
  .simp at h
 ·-- extract
  rename_i x i bT;split at h
  .rename_i l hl;split at h
   .rename_i c hc;simp only[j4,Act.cel,Act.val.injEq]at h;obtain⟨_,rfl,rfl⟩:=h;have hx:=oZ hR x;rw[hl]at hx;obtain⟨vs,hu,aB⟩:=hx;obtain⟨z,hz,ig⟩:=aB.get i c hc;refine⟨iW hR (v:=z) ?_ ig,rfl⟩;have ud:vs[i]? = some z:=by simpa using hz
    simp[execOp,bT,hu,Instr.extract,ud]
   .simp at h
  .simp at h
 ·-- call
  rename_i cl bT;have dq:=E9 hR ba cl.args.toList;split at h
  ·-- len
   rename_i cL;split at h
   .rename_i x t fY ny;split at h
    .rename_i ti ht;unfold lQ at h;split at h
     .rename_i c hc;simp only[j4,Act.leaf,Act.val.injEq]at h;obtain⟨_,rfl,rfl⟩:=h;obtain⟨z,hz,hl,h1⟩:=Y2 (ty:=o.type) hT hR aZ ht hc (iX (ew hR ba x));have e1:cl.args = #[x]:=by apply qr;simpa using fY
      have e2:cl.argTypes = #[t]:=by apply qr;simpa using ny
      refine⟨ub hR (v:=z) ?_ hl h1,rfl⟩;simp[execOp,bT,resolve,cL,invoke,builtin,e1,e2,hz]
     .simp at h
    .simp at h
   .simp at h
  ·-- min
   rename_i cL;unfold lQ at h;split at h
   .rename_i c hc;simp only[j4,Act.leaf,Act.val.injEq]at h;obtain⟨_,rfl,rfl⟩:=h;obtain⟨z,hz,hl,h1⟩:=YO (P:=P) (ts:=cl.argTypes) (ty:=o.type) hc dq;refine⟨ub hR (v:=z) ?_ hl h1,rfl⟩;have e1:cl.args.map a.eval=(cl.args.toList.map a.eval).toArray:=by apply qr;simp
    simp[execOp,bT,resolve,cL,invoke,builtin,e1,hz]
   .simp at h
  ·-- max
   rename_i cL;unfold lQ at h;split at h
   .rename_i c hc;simp only[j4,Act.leaf,Act.val.injEq]at h;obtain⟨_,rfl,rfl⟩:=h;obtain⟨z,hz,hl,h1⟩:=YP (P:=P) (ts:=cl.argTypes) (ty:=o.type) hc dq;refine⟨ub hR (v:=z) ?_ hl h1,rfl⟩;have e1:cl.args.map a.eval=(cl.args.toList.map a.eval).toArray:=by apply qr;simp
    simp[execOp,bT,resolve,cL,invoke,builtin,e1,hz]
   .simp at h
  ·-- append
   rename_i cL;split at h
   .rename_i t t' s' x ny fY;split at h
    .rename_i pE;subst pE;split at h
     .rename_i ti ht;split at h
      .rename_i el bG;split at h
       .rename_i xs frz u' ys hs hx;split at h
        .rename_i bg;simp only[j4,Act.val.injEq,jq]at h;obtain⟨eI,rfl,rfl⟩:=h;obtain⟨v',w',S',γ',aS,dt,fM⟩:=Zf (ty:=o.type) hT hR aZ bH ht bG hs hx (aZ.free bg) eI (iX (ew hR ba s')) (iX (ew hR ba x));have e1:cl.args = #[s',x]:=by apply qr;simpa using fY
         have e2:cl.argTypes = #[t,t]:=by apply qr;simpa using ny
         refine⟨⟨v',w',S',γ',.inl ?_,dt,fM⟩,rfl⟩;simp[execOp,bT,resolve,cL,invoke,builtin,e1,e2,aS]
        .simp at h
       .simp at h
      .simp at h
     .simp at h
    .simp at h
   .simp at h
  ·-- value
   split at h
   .split at h
    .split at h
     .simp at h
     .simp at h
    .simp at h
   .split at h
    .split at h
     .simp at h
     .simp at h
    .simp at h
   .simp at h
  ·-- copy
   rename_i cL;split at h
   .rename_i t t' x y ny fY;split at h
    .rename_i pE;subst pE;split at h
     .rename_i ti ht;split at h
      .rename_i c u' hc;simp only[j4,Act.val.injEq]at h;obtain⟨_,rfl,rfl⟩:=h;obtain⟨v',w',aS,dt,fM⟩:=Zs (ty:=o.type) hT hR aZ ht hc (iX (ew hR ba x)) (iX (ew hR ba y));have e1:cl.args = #[x,y]:=by apply qr;simpa using fY
       have e2:cl.argTypes = #[t,t]:=by apply qr;simpa using ny
       refine⟨⟨v',w',S,γ,.inl ?_,dt,fM⟩,rfl⟩;simp[execOp,bT,resolve,cL,invoke,builtin,e1,e2,aS]
      .simp at h
     .simp at h
    .simp at h
   .simp at h
  ·-- clear
   rename_i cL;split at h
   .rename_i t x ny fY;split at h
    .rename_i ti ht;split at h
     .rename_i u' hc;simp only[j4,Act.val.injEq]at h;obtain⟨_,rfl,rfl⟩:=h;obtain⟨v',w',aS,dt⟩:=Zt (ty:=o.type) hT hR aZ ht hc (iX (ew hR ba x));have e1:cl.args = #[x]:=by apply qr;simpa using fY
      have e2:cl.argTypes = #[t]:=by apply qr;simpa using ny
      refine⟨⟨v',w',S,γ,.inl ?_,dt,⟨trivial,λh=>absurd rfl h⟩⟩,rfl⟩;simp[execOp,bT,resolve,cL,invoke,builtin,e1,e2,aS]
     .simp at h
    .simp at h
   .simp at h
  .simp at h
 ·-- slice
  rename_i t x lo hi bT;split at h
  .rename_i ti ht;split at h
   .rename_i b c u' hc;simp only[j4,Act.val.injEq]at h;obtain⟨rfl,rfl,rfl⟩:=h
    have ho:∀y:Option Operand,ORep (bY S w γ σ.bx) (y.map λx=>lf ((σ.ev x).cel act)) (y.map a.eval):=by
     intro y;cases y with
     |none=>trivial
     |some y=>exact iX (ew hR ba y)
    obtain⟨v',S',γ',aS,dt,fM⟩:=Zo hT hR aZ ht (λk hk=>aZ.free hk) hc (iX (ew hR ba x)) (ho lo) (ho hi);refine⟨⟨v',w,S',γ',.inl ?_,dt,fM⟩,rfl⟩;simp[execOp,bT,aS]
   .simp at h
  .simp at h
 .simp at h
theorem Qx{P:Program}{E:Env}(hR:Rel N E.np S0 w0 refs σ a w S γ){act:List (Nat×Bool)}(ba:o4 (tm a) act){rw:Nat->BS}(ma:RdR σ rw)
  {o:Oper}{f:Nat}{args:List Arg}{mk:Ret->Option (Slot×Ups)}(h:dv E σ.ev rw act o=some (.call f args mk))(hf:Fun P f){K:Ret->Prop}(eM:E3 P f args K) :
  ∃vals,(execOp a.eval o).run P w = .ok (.enter f vals) w/\
   (Calls P f vals w λe w'=>∃ret,K ret/\∀s u,mk ret=some (s,u)->∃v S' γ',e = .returned v/\Rel N E.np S0 w0 refs (σ.upd u) a w' S' γ'/\gG S' w' γ' (σ.upd u).bx (tm a) s v)/\
   ∀ret s u,mk ret=some (s,u)->s.bare=true:=by
 have aZ:RdOk σ (mskM rw):=ma.msk;have bH:=BZ (np:=E.np) aZ;unfold dv at h;dsimp only at h;split at h
 case h_23 cl bT=>
  have dq:=E9 hR ba cl.args.toList;split at h
  case h_5 x cL=>
   split at h
   .rename_i g caps hl;split at h
    .rename_i as us fs has;split at h
     .rename_i bF;simp only[j4,Act.call.injEq]at h;obtain⟨rfl,rfl,rfl⟩:=h;have hx:=ew hR ba x;rw[wI hl (by simp)]at hx;obtain⟨cv,hu,rk⟩:=hx.1;refine⟨_,Qm hf bT cL hu,?_,?_⟩
      .have:=Ql hR ma aZ bH has dq bF rk eM ((o.dst.getD 0)*64);have e1:(cl.args.toList.map a.eval++cv.toList).toArray=cl.args.map a.eval++cv:=by apply qr;simp
       rwa[e1]at this
      .intro ret s u bJ;unfold rM at bJ;split at bJ
       .unfold mkHd at bJ;split at bJ
        .split at bJ
         .split at bJ
          .simp only[j4,j8]at bJ;rw[<-bJ.1];rfl
          .simp at bJ
         .simp at bJ
        .simp at bJ
       split at bJ
       .split at bJ
        .split at bJ
         .revert bJ;dsimp only;split<;>(intro bJ;simp only[j4,j8]at bJ;rw[<-bJ.1];rfl)
         .simp at bJ
        .simp at bJ
       .simp at bJ
     .simp at h
    .simp at h
   .rename_i g ks hl;split at h
    .rename_i as us fs has;split at h
     .rename_i bF;simp only[j4,Act.call.injEq]at h;obtain⟨rfl,rfl,rfl⟩:=h;have hx:=ew hR ba x;rw[wI hl (by simp)]at hx;obtain⟨cv,hu,rk⟩:=hx.1;refine⟨_,Qm hf bT cL hu,?_,?_⟩
      .have:=Ql hR ma aZ bH has (dq.append (P7 rk)) bF (caps:=[]) (cv:=[]) trivial (by simpa using eM) ((o.dst.getD 0)*64);have e1:((cl.args.toList.map a.eval++cv.toList)++[]).toArray=cl.args.map a.eval++cv:=by apply qr;simp
       rwa[e1]at this
      .intro ret s u bJ;unfold rM at bJ;split at bJ
       .unfold mkHd at bJ;split at bJ
        .split at bJ
         .split at bJ
          .simp only[j4,j8]at bJ;rw[<-bJ.1];rfl
          .simp at bJ
         .simp at bJ
        .simp at bJ
       split at bJ
       .split at bJ
        .split at bJ
         .revert bJ;dsimp only;split<;>(intro bJ;simp only[j4,j8]at bJ;rw[<-bJ.1];rfl)
         .simp at bJ
        .simp at bJ
       .simp at bJ
     .simp at h
    .simp at h
   .simp at h
  all_goals (first|(simp at h;done)|skip)
  all_goals (exfalso;revert h;try simp only[lQ])
  all_goals (repeat' split)
  all_goals simp[Act.leaf]
 all_goals (first|(simp at h;done)|skip)
 all_goals (repeat' (first|(simp at h;done)|split at h))<;>simp_all[lQ,oCel,oChk,Act.leaf,Act.cel]
 all_goals (repeat' (split at h))<;>simp_all
end
end Go.Lft
