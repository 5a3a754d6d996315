/- New variables; HN X4 variables. -/
import Derived.Test.YtaieocafhcjelaaGreatDLA
import Derived.MapKept
set_option linter.unusedVariables false
namespace Go.Lft
section
variable{N:NT}{np:Nat}{S0:aD}{w0:World}{refs:Refs}{σ:St}{a:Go.Act}{w:World}{S:aD}{γ:Nat->Value}
def gset(γ:Nat->Value)(n:Nat)(v:Value):Nat->Value:=λk=>if k=n then v else γ k
theorem fo(γ:Nat->Value)(n:Nat)(v:Value):gset γ n v n=v:=by simp[gset]
theorem fY(γ:Nat->Value){n k:Nat}(v:Value)(h:k≠n):gset γ n v k=γ k:=by simp[gset,h]
theorem zJ(hR:Rel N np S0 w0 refs σ a w S γ)(o:Obj):cW S w S (w.alloc o):=
 λg i h=>⟨h,World.cell?_alloc_lt w o ⟨g,i,none⟩ (hR.here g i h)⟩
theorem lY{bx:Nat->BS}{k:Nat}{b:Bx}(h:ei S w γ bx k b){g:Nat}(hg:blk (γ k)=some g):g<w.heap.size:=by
 cases b with
 |cell ls frz=>obtain⟨g',cur,e,h1,h2,_⟩:=h;rw[h1]at hg;simp[blk]at hg;subst hg;exact(jk.1 h2).1
 |lst e t xs frz=>exact h.1.lt hg
 |arr n t xs=>obtain⟨g',cur,e,h1,h2,_⟩:=h;rw[h1]at hg;simp[blk]at hg;subst hg;exact(jk.1 h2).1
theorem HO(hR:Rel N np S0 w0 refs σ a w S γ){n:Nat}(hn:σ.bx n = .free){o:Obj}{b:Bx}{v:Value}(hv:∀g,blk v=some g->g=w.heap.size)
  (hb:BxLe γ σ.bx (gset γ n v) (σ.setB n (.live b)).bx->ei S (w.alloc o) (gset γ n v) (σ.setB n (.live b)).bx n b) :
  Rel N np S0 w0 refs (σ.setB n (.live b)) a (w.alloc o) S (gset γ n v)/\BxLe γ σ.bx (gset γ n v) (σ.setB n (.live b)).bx:=by
 have hle:BxLe γ σ.bx (gset γ n v) (σ.setB n (.live b)).bx:=by
  intro k hk;have aZ:k≠n:=by rintro rfl;exact hk hn
  rw[cD σ _ aZ,fY γ v aZ];exact⟨hk,rfl,λb hb=>⟨b,hb,.refl b⟩⟩
 have aB:=zJ hR o
 refine⟨Rel.step (bx':=(σ.setB n (.live b)).bx) hR aB hle ?_ ?_ ?_ hR.new ?_ ?_ ?_ hR.os hR.tape hR.output (λg hg _ h=>⟨heap_alloc_old w o hg,λk b' aM di=>by
  by_cases hk:k=n
  .subst hk;rw[fo]at di;have:=hv g di;omega
  .rw[cD σ _ hk]at aM;rw[fY γ v hk]at di;exact h k b' aM di⟩),hle⟩
 .intro k b' aM;by_cases hk:k=n
  .subst hk;rw[fX]at aM;simp at aM;subst aM;exact hb hle
  .rw[cD σ _ hk]at aM;refine ei.keep aB hle (fY γ v hk) (λg hg=>⟨?_,λ_=>Iff.rfl⟩) (hR.box k b' aM);exact heap_alloc_old w o (lY (hR.box k b' aM) hg)
 .intro k b' g aM hg;by_cases hk:k=n
  .subst hk;rw[fo]at hg;exact .inl (by rw[hv g hg];exact hR.grow)
  .rw[cD σ _ hk]at aM;rw[fY γ v hk]at hg;exact hR.own k b' g aM hg
 .intro k k' b1 b2 g aZ h1 h2 hg aw;by_cases hk:k=n
  .subst hk;have bg:k'≠k:=λh=>aZ h.symm;rw[fo]at hg;rw[cD σ _ bg]at h2;rw[fY γ v bg]at aw;have:=lY (hR.box k' b2 h2) aw;rw[hv g hg]at this;omega
  .by_cases bg:k'=n
   .subst bg;rw[fo]at aw;rw[cD σ _ hk]at h1;rw[fY γ v hk]at hg;have:=lY (hR.box k b1 h1) hg;rw[hv g aw]at this;omega
   .rw[cD σ _ hk]at h1;rw[cD σ _ bg]at h2;rw[fY γ v hk]at hg;rw[fY γ v bg]at aw;exact hR.apart k k' b1 b2 g aZ h1 h2 hg aw
 .intro g i h;have:=hR.here g i h;simp;omega
 .intro g hg hr;rw[heap_alloc_old w o (by have:=hR.grow;omega)];exact hR.below g hg hr
 .have:=hR.grow;simp;omega
theorem EN(hR:Rel N np S0 w0 refs σ a w S γ)(o:Nat):¬S w.heap.size o:=λh=>by have:=hR.here _ _ h;omega
theorem HP(hR:Rel N np S0 w0 refs σ a w S γ){n:Nat}(hn:σ.bx n = .free){ls:List Leaf}{cur:Array Value}{e:TypeId}
  (hl:All2 (bO S w γ σ.bx) ls cur.toList)(h1:∀u∈cur.toList,One u) :
  Rel N np S0 w0 refs (σ.setB n (.live (.cell ls false))) a (w.alloc (.cells cur e)) S (gset γ n (.pointer (some ⟨w.heap.size,0,none⟩)))/\
   bJ S (w.alloc (.cells cur e)) (gset γ n (.pointer (some ⟨w.heap.size,0,none⟩))) (σ.setB n (.live (.cell ls false))).bx (.one (.bp n 0)) (.pointer (some ⟨w.heap.size,0,none⟩)):=by
 obtain⟨h,hle⟩:=HO hR hn (o:= .cells cur e) (b:= .cell ls false) (v:= .pointer (some ⟨w.heap.size,0,none⟩)) (λg hg=>by simp[blk]at hg;exact hg.symm) (λhle=>
  ⟨w.heap.size,cur,e,fo _ _ _,heap_alloc_new w _,hl.mono (λx u hx=>bO.keep (zJ hR _) hle hx),h1,λ_ o=>EN hR o,by simp⟩)
 refine⟨h,⟨by rw[fX];simp,rfl,λb _=>⟨w.heap.size,fo _ _ _,rfl⟩⟩,λ_=>rfl⟩
theorem OZ(hR:Rel N np S0 w0 refs σ a w S γ){n m:Nat}(hn:σ.bx n = .free){t:Ty}{xs:List t.den}{cur:Array Value}{e:TypeId}
  (hl:Rep S w (.arr m t) xs cur.toList) :
  Rel N np S0 w0 refs (σ.setB n (.live (.arr m t xs))) a (w.alloc (.cells cur e)) S (gset γ n (.pointer (some ⟨w.heap.size,0,none⟩)))/\
   bJ S (w.alloc (.cells cur e)) (gset γ n (.pointer (some ⟨w.heap.size,0,none⟩))) (σ.setB n (.live (.arr m t xs))).bx (.one (.bp n 0)) (.pointer (some ⟨w.heap.size,0,none⟩)):=by
 obtain⟨h,hle⟩:=HO hR hn (o:= .cells cur e) (b:= .arr m t xs) (v:= .pointer (some ⟨w.heap.size,0,none⟩)) (λg hg=>by simp[blk]at hg;exact hg.symm) (λ_=>
  ⟨w.heap.size,cur,e,fo _ _ _,heap_alloc_new w _,Rep.keep (zJ hR _) _ _ _ hl,λo=>EN hR o⟩)
 refine⟨h,⟨by rw[fX];simp,rfl,λb _=>⟨w.heap.size,fo _ _ _,rfl⟩⟩,λ_=>rfl⟩
theorem uu{bx:Nat->BS}:∀(t:Ty),All2 (bO S w γ bx) (mK t) (iA t)
 |.int _=>⟨rfl,trivial⟩
 |.bool=>⟨rfl,trivial⟩
 |.str=>⟨rfl,trivial⟩
 |.unit=>trivial
 |.wrap a=>uu a
 |.pair a b=>(uu a).append (uu b)
 |.list _=>⟨rfl,trivial⟩
 |.arr n a=>by
  show All2 _ ((List.range n).flatMap λ_=>mK a) ((List.replicate n (iA a)).flatten);induction n with
  |zero=>simp[All2]
  |succ n ih=>rw[List.range_succ,List.flatMap_append,List.replicate_succ',vb];refine ih.append ?_;simpa using uu a
theorem oJ:∀(t:Ty),Rep S w t t.dflt (iA t)
 |.int _=>rfl
 |.bool=>rfl
 |.str=>rfl
 |.unit=>rfl
 |.wrap a=>oJ a
 |.pair a b=>⟨_,_,rfl,oJ a,oJ b⟩
 |.list _=>⟨none,0,rfl,jj _,by simp[maxLen],λ_=>rfl,λb hb=>by simp at hb⟩
 |.arr n a=>by
  refine⟨List.length_replicate,List.replicate n (iA a),?_,rfl⟩;have hz:=oJ a
  have:∀n,All2 (λx c=>Rep S w a x c) (List.replicate n a.dflt) (List.replicate n (iA a)):=by
   intro n;induction n with
   |zero=>exact trivial
   |succ n ih=>exact⟨hz,ih⟩
  exact this n
theorem BU(hR:Rel N np S0 w0 refs σ a w S γ){k:Nat}{b b':Bx}(hk:σ.bx k = .live b){g:Nat}(hg:blk (γ k)=some g)(hS:∀o,¬S g o)(oH:iz b b')
  {old new:Array Value}{e:TypeId}(hh:w.heap[g]? = some (.cells old e (0,0)))
  (hb:BxLe γ σ.bx γ (σ.setB k (.live b')).bx->cW S w S (w.setRow g new)->ei S (w.setRow g new) γ (σ.setB k (.live b')).bx k b') :
  Rel N np S0 w0 refs (σ.setB k (.live b')) a (w.setRow g new) S γ:=by
 have hle:BxLe γ σ.bx γ (σ.setB k (.live b')).bx:=by
  intro k' bg;by_cases bY:k'=k
  .subst bY;rw[fX];exact⟨by simp,rfl,λb1 da=>by simp at da;subst da;exact⟨b,hk,oH⟩⟩
  .rw[cD σ _ bY];exact⟨bg,rfl,λb hb=>⟨b,hb,.refl b⟩⟩
 have aB:cW S w S (w.setRow g new):=by
  intro g' o h;refine⟨h,cell_setRow_other w g new ⟨g',o,none⟩ ?_⟩
  rintro rfl
  exact hS o h
 have bt:∀k' b1,(σ.setB k (.live b')).bx k' = .live b1->∃b2,σ.bx k' = .live b2:=by
  intro k' b1 h1;by_cases bY:k'=k
  .subst bY;exact⟨b,hk⟩
  .rw[cD σ _ bY]at h1;exact⟨b1,h1⟩
 have an:=(jk.1 hh).1
 refine Rel.step (bx':=(σ.setB k (.live b')).bx) hR aB hle ?_ ?_ ?_ hR.new ?_ ?_ ?_ hR.os hR.tape hR.output (λg' _ _ h=>⟨setRow_other w g g' new (λe=>h k b hk (e▸hg)),λk' b1 h1=>by
  obtain⟨b2,h2⟩:=bt k' b1 h1;exact h k' b2 h2⟩)
 .intro k' b1 h1;by_cases bY:k'=k
  .subst bY;rw[fX]at h1;simp at h1;subst h1;exact hb hle aB
  .rw[cD σ _ bY]at h1;refine ei.keep aB hle rfl (λg' aw=>⟨?_,λ_=>Iff.rfl⟩) (hR.box k' b1 h1);exact setRow_other w g g' new (λh=>hR.apart k' k b1 b g bY h1 hk (h▸aw) hg)
 .intro k' b1 g' h1 aw;obtain⟨b2,h2⟩:=bt k' b1 h1;exact hR.own k' b2 g' h2 aw
 .intro k1 k2 b1 b2 g' aZ h1 h2 aw;obtain⟨se,jP⟩:=bt k1 b1 h1;obtain⟨sf,jH⟩:=bt k2 b2 h2;exact hR.apart k1 k2 se sf g' aZ jP jH aw
 .intro g' o h;rw[size_setRow];exact hR.here g' o h
 .intro g' aw hr;rw[setRow_other w g g' new ?_]
  .exact hR.below g' aw hr
  .rintro rfl
   rcases hR.own k b _ hk hg with h|h
   .omega
   .exact hr h.1
 .rw[size_setRow];exact hR.grow
theorem EO{R:Leaf->Value->Prop}{ls new:List Leaf}{cs zs:List Value}{c:Nat}(h:All2 R ls cs)(h':All2 R new zs) :
  All2 R (vX ls c new) (cs.take c++zs++cs.drop (c+zs.length)):=by
 unfold vX;rw[h'.length];exact((h.take c).append h').append (h.drop _)
theorem BV{bx:Nat->BS}{c:Cel}{ls:List Leaf}{z:Value}(h:c.leaves=some ls)(hc:bJ S w γ bx c z) :
  All2 (bO S w γ bx) ls z.cells.toList/\∀u∈z.cells.toList,One u:=by
 unfold Cel.leaves at h;split at h
 .simp at h
 .rename_i l hd;simp at h;subst h;have h1:=hc.2 hd;rw[zI h1];exact⟨⟨hc.1,trivial⟩,λu hu=>by simp at hu;subst hu;exact h1⟩
 .simp at h;subst h;obtain⟨cs,rfl,ha,h1⟩:=hc;exact⟨ha,h1⟩
 .simp at h
end
theorem wy{m:Nat}:∀{l:List (List Value)},(∀c∈l,c.length=m)->l.flatten.length=l.length*m
 |[],_=>by simp
 |c::l,h=>by
  have h1:=h c (by simp);have h2:=wy (l:=l) (λd hd=>h d (zu _ hd));simp only[ky,ja,jl,Nat.add_mul,Nat.one_mul];omega
section
variable{N:NT}{np:Nat}{S0:aD}{w0:World}{refs:Refs}{σ:St}{a:Go.Act}{w:World}{S:aD}{γ:Nat->Value}
theorem lZ:∀(u:Ups)(σ:St){k:Nat},u.any (λy=>y.1==k)=false->(σ.upd u).bx k=σ.bx k
 |[],_,_,_=>rfl
 |e::u,σ,k,h=>by
  simp only[List.any_cons,Bool.or_eq_false_iff,beq_eq_false_iff_ne]at h;show ((σ.setB e.1 e.2).upd u).bx k=_;rw[lZ u _ h.2,cD σ _ (λhh=>h.1 hh.symm)]
theorem All2.all_len{t:Ty}{xs:List t.den}{css:List (List Value)}(h:All2 (λx c=>Rep S w t x c) xs css):∀c∈css,c.length=t.size:=by
 intro c hc;obtain⟨x,_,hx⟩:=h.mem_right c hc;exact Rep.length _ _ _ hx
theorem HQ{cur:List Value}{css:List (List Value)}{m n i c:Nat}{ci zs:List Value}(hm:∀c∈css,c.length=m)(hn:css.length=n)(er:cur.take (n*m)=css.flatten)
  (hi:css[i]? = some ci)(hc:c+zs.length<=m) :
  (cur.take (i*m+c)++zs++cur.drop (i*m+c+zs.length)).take (n*m)=(css.set i (ci.take c++zs++ci.drop (c+zs.length))).flatten:=by
 have an:i<css.length:=(ju.1 hi).1;have l5:css[i]=ci:=(ju.1 hi).2;have fj:ci.length=m:=hm ci (k9 hi);obtain⟨A,B,hA,hB,EP⟩:∃A B:List (List Value),A.length=i/\A.length+1+B.length=n/\css=A++ci::B:=by refine⟨css.take i,css.drop (i+1),by simp;omega,by simp;omega,?_⟩;rw[<-l5,List.getElem_cons_drop an,ki]
 have X5:∀c∈A,c.length=m:=λd hd=>hm d (by rw[EP];simp[hd]);have X6:∀c∈B,c.length=m:=λd hd=>hm d (by rw[EP];simp[hd]);have lA:A.flatten.length=i*m:=by rw[wy X5,hA]
 have lB:=wy X6;have wz:css.set i (ci.take c++zs++ci.drop (c+zs.length))=A++(ci.take c++zs++ci.drop (c+zs.length))::B:=by rw[EP,zo _ _ (by omega),hA,Nat.sub_self,List.set_cons_zero]
 have BW:cur=A.flatten++(ci++(B.flatten++cur.drop (n*m))):=by have:=ki (n*m) cur;rw[er,EP,vb,ky]at this;rw[<-jd ci,<-jd];exact this.symm
 have cC:ci=ci.take c++((ci.drop c).take zs.length++ci.drop (c+zs.length)):=by have h1:=ki c ci;have h2:=ki zs.length (ci.drop c);rw[List.drop_drop]at h2;rw[h2,h1]
 have lp:(ci.take c).length=c:=by simp;omega
 have lq:((ci.drop c).take zs.length).length=zs.length:=by simp;omega
 have lr:(ci.drop (c+zs.length)).length=m-(c+zs.length):=by simp[fj]
 generalize ci.take c=p at *
 generalize (ci.drop c).take zs.length=q at *
 generalize ci.drop (c+zs.length)=r at *
 generalize cur.drop (n*m)=tl at *
 have e1:cur.take (i*m+c)=A.flatten++p:=by rw[BW,cC];simp only[<-jd];rw[jd,jd,jd];exact List.take_left' (by simp[lA,lp])
 have e2:cur.drop (i*m+c+zs.length)=r++(B.flatten++tl):=by
  rw[BW,cC];have:A.flatten++(p++(q++r)++(B.flatten++tl))=(A.flatten++p++q)++(r++(B.flatten++tl)):=by simp
  rw[this];exact List.drop_left' (by simp[lA,lp,lq];omega)
 rw[e1,e2,wz,vb,ky];have:A.flatten++p++zs++(r++(B.flatten++tl))=(A.flatten++(p++zs++r++B.flatten))++tl:=by simp
 rw[this];refine List.take_left' ?_;simp only[ja,lA,lp,lr,lB];have:n*m=i*m+m+B.length*m:=by rw[<-hB,hA,Nat.add_mul,Nat.add_mul,Nat.one_mul]
 omega
theorem ER{P:Program}{T:Nat->Option TyI}(hT:cw P T){t:TypeId}{ti:TyI}(ht:T t=some ti){g o:Nat}{z:Value}{cur:Array Value}{e:TypeId}
  (hh:w.heap[g]? = some (.cells cur e (0,0)))(hs:z.cells.toList.length=ti.size)(hl:o+z.cells.toList.length<=cur.size)(h1:∀u∈z.cells.toList,One u) :
  (Instr.storeAt t (.pointer (some ⟨g,o,none⟩)) z).run P w = .ok () (w.setRow g (cur.toList.take o++z.cells.toList++cur.toList.drop (o+z.cells.toList.length)).toArray):=by
 have aB:=run_storeCells_at P g o e z.cells.toList 0 cur w hh (by simpa using hl) h1;simp only[Nat.add_zero]at aB;have aZ:¬z.cells.size≠ti.size:=by simpa using hs
 simp only[Instr.storeAt,Sem.run_bind,Instr.sureAddr,Sem.run_pure,Result.andThen_ok,storeVar,iO hT ht,Sem.run_ite,if_neg aZ,aB]
theorem X7{P:Program}{E:Env}(hT:cw P E.T)(hR:Rel N np S0 w0 refs σ a w S γ){rd rdf:Nat->BS}(aR:RdOk σ rd)(bC:RdF np σ rdf){t:TypeId}{ti:TyI}(ht:E.T t=some ti)
  {x:Leaf}{val:Cel}{u:Ups}{ux z:Value}(h:tZ rd rdf ti.size val x=some u)(hx:bO S w γ σ.bx x ux)(hz:bJ S w γ σ.bx val z) :
  ∃w' S',(Instr.storeAt t ux z).run P w = .ok () w'/\Rel N np S0 w0 refs (σ.upd u) a w' S' γ:=by
 unfold tZ at h;split at h
 .rename_i k c;split at h
  .rename_i ls hk;have hk:=aR.live hk;split at h
   .rename_i new dD;split at h
    .rename_i hc;simp only[j4]at h;subst h;obtain⟨bX,hle⟩:=hc;obtain⟨ha,h1⟩:=BV dD hz;obtain⟨g,hg,hu⟩:=hx.2.2 _ hk;obtain⟨g',cur,e,aw,hh,er,gu,hS,_⟩:=hR.box k _ hk;rw[hg]at aw;simp at aw;subst aw;subst hu;have hlen:=ha.length;have uv:=er.length;simp at uv;refine⟨_,S,ER hT ht hh (by omega) (by simp at hlen ⊢;omega) h1,?_⟩;refine BU hR hk (by rw[hg];rfl) (hS rfl) (b':= .cell (vX ls c new) false) trivial hh (λhle aB=>?_);refine⟨g,_,e,hg,setRow_heap w g cur _ e (0,0) hh,?_,?_,λ_=>hS rfl,by simp⟩
     .have:=EO (c:=c) (er.mono (λx u hx=>bO.keep aB hle hx)) (ha.mono (λx u hx=>bO.keep aB hle hx));simpa using this
     .intro v hv;simp only[jn]at hv;rcases hv with (hv|hv)|hv
      .exact gu v (qf hv)
      .exact h1 v hv
      .exact gu v (za hv)
    .simp at h
   .simp at h
  .rename_i n el xs hk;have hk:=aR.live hk;split at h
   .rename_i mL;subst mL;split at h
    .rename_i n' a' ys;split at h
     .rename_i Hp iB;split at h
      .rename_i bX;simp only[j4]at h;subst h;have sr:=lV iB;simp only[TV.mk.injEq,Ty.arr.injEq]at sr;obtain⟨⟨rfl,rfl⟩,sr⟩:=sr;obtain rfl:=eq_of_heq sr;obtain⟨cs,rfl,hr⟩:=hz;obtain⟨g,hg,hu⟩:=hx.2.2 _ hk;obtain⟨g',cur,e,aw,hh,bq,hS⟩:=hR.box k _ hk;rw[hg]at aw;simp at aw;subst aw;subst hu;have mM:=Rep.length _ _ _ hr;have wA:=Rep.length _ _ _ bq;have e1:(Value.agg cs).cells.toList=cs.toList:=rfl;refine⟨_,S,ER hT ht hh (by rw[e1,mM,bX];rfl) (by rw[e1,mM,<-wA];simp) (by rw[e1];exact Rep.one _ _ _ hr),?_⟩;refine BU hR hk (by rw[hg];rfl) hS (b':= .arr _ _ _) ⟨rfl,rfl⟩ hh (λhle aB=>?_);refine⟨g,_,e,hg,setRow_heap w g cur _ e (0,0) hh,?_,hS⟩;have hd:cur.toList.drop (0+cs.toList.length)=[]:=jf (by rw[mM,wA];omega);have hX:(cur.toList.take 0++(Value.agg cs).cells.toList++cur.toList.drop (0+(Value.agg cs).cells.toList.length)).toArray.toList=cs.toList:=by rw[e1,hd];simp
       rw[hX];exact Rep.keep aB _ _ _ hr
      .simp at h
     .simp at h
    .simp at h
   .simp at h
  .simp at h
 .rename_i k i c;split at h
  .rename_i el at_ xs hk;have bV:=aR.nm hk;have hk:=aR.live hk;split at h
   .rename_i new dD;split at h
    .rename_i hc;obtain⟨bX,hle⟩:=hc;split at h
     .rename_i en u1 HR;split at h
      .simp at h
      .rename_i su;simp only[j4]at h;subst h;obtain⟨ha,h1⟩:=BV dD hz;have hlen:=ha.length;have sv:z.cells.toList.length=z.cells.size:=qe;obtain⟨_,hi,g,cap,hg,hu⟩:=hx.2.2 _ hk;obtain⟨css,aN,ao,hSk⟩:=ia bV (hR.box k _ hk);rcases aN.2 with⟨_,h0⟩|⟨g',gH,cur,aw,eh,hh,jG,lh,dB,dS⟩
       .omega
       rw[hg]at aw;simp at aw;obtain⟨rfl,rfl⟩:=aw;subst hu;obtain⟨ci,l5,bq,cS⟩:=wm (λx c hx=>Rep.length at_ x c hx) ao i at_.dflt hi;have fj:=Rep.length _ _ _ bq;have cC:=EO (c:=c) (rv (oI at_ _ ci bq)) ha;obtain⟨hf,he,hp⟩:=wu bC at_ HR cC;obtain⟨S1,bu,ct,dE,dF⟩:=nD u1 σ S hR hf;have dz:(σ.upd u1).bx k = .live (.lst el at_ xs false):=by rw[lZ u1 σ (zb.2 su)];exact hk
       obtain⟨X8,O0,O1,O2⟩:=ia bV (bu.box k _ dz);have uw:∀o,¬S1 g o:=(O2 g (by rw[hg];rfl)).1 rfl;have O3:i*at_.size+at_.size<=xs.length*at_.size:=by have:(i+1)*at_.size<=xs.length*at_.size:=jv _ (by omega);rwa[v8]at this
       have O4:xs.length*at_.size<=cap*at_.size:=jv _ jG;have l7:c+z.cells.toList.length<=at_.size:=by omega
       refine⟨_,S1,ER hT ht hh (by omega) (by rw[dB];omega) h1,?_⟩;rw[jQ];refine BU bu dz (by rw[hg];rfl) uw (b':= .lst el at_ (xs.set i en) false) ⟨rfl,rfl,λ_=>by simp⟩ hh (λic db=>?_);have px:Rep S1 w at_ en (ci.take c++z.cells.toList++ci.drop (c+z.cells.toList.length)):=by have:=hp S1 w ct dE;rwa[List.take_of_length_le (by simp;omega)]at this
       refine BJ bV ⟨css.set i (ci.take c++z.cells.toList++ci.drop (c+z.cells.toList.length)),⟨?_,.inr ⟨g,cap,_,?_,kc _,setRow_heap w g cur _ el (0,0) hh,by simpa using jG,lh,?_,?_⟩⟩,?_,λg' aw=>?_⟩
       .rw[wy (m:=at_.size)]
        .simp[ao.length]
        .intro d hd;rcases List.mem_or_eq_of_mem_set hd with hd|rfl
         .exact All2.all_len ao d hd
         .simp;omega
       .simpa using hg
       .simp only[zt,ja,qk,zf,qe];omega
       .simp only[List.length_set];exact HQ (All2.all_len ao) ao.length.symm dS l5 l7
       .exact(ao.mono (λx c hx=>Rep.keep (ct.trans db) _ _ _ hx)).set i _ _ (Rep.keep db _ _ _ px)
       .rw[hg]at aw;simp[blk]at aw;subst aw;exact⟨λ_=>uw,by simp⟩
     .simp at h
    .simp at h
   .simp at h
  .rename_i n at_ xs hk;have hk:=aR.live hk;split at h
   .rename_i new dD;split at h
    .rename_i hc;obtain⟨bX,hle⟩:=hc;split at h
     .rename_i en u1 HR;split at h
      .simp at h
      .rename_i su;simp only[j4]at h;subst h;obtain⟨ha,h1⟩:=BV dD hz;have hlen:=ha.length;have sv:z.cells.toList.length=z.cells.size:=qe;obtain⟨hi,g,hg,hu⟩:=hx.2.2 _ hk;obtain⟨g',cur,e,aw,hh,⟨hn,css,ao,er⟩,hS⟩:=hR.box k _ hk;rw[hg]at aw;simp at aw;subst aw;subst hu;obtain⟨ci,l5,bq,cS⟩:=wm (λx c hx=>Rep.length at_ x c hx) ao i at_.dflt (by omega);have fj:=Rep.length _ _ _ bq;have cC:=EO (c:=c) (rv (oI at_ _ ci bq)) ha;obtain⟨hf,he,hp⟩:=wu bC at_ HR cC;obtain⟨S1,bu,ct,dE,dF⟩:=nD u1 σ S hR hf;have dz:(σ.upd u1).bx k = .live (.arr n at_ xs):=by rw[lZ u1 σ (zb.2 su)];exact hk
       obtain⟨g1,X9,e1,sw,hh1,_,uw⟩:=bu.box k _ dz;rw[hg]at sw;simp at sw;subst sw;have BX:cur.toList.length=n*at_.size:=by rw[er,wy (All2.all_len ao),<-ao.length,hn]
       have O3:i*at_.size+at_.size<=n*at_.size:=by have:(i+1)*at_.size<=n*at_.size:=jv _ (by omega);rwa[v8]at this
       have l7:c+z.cells.toList.length<=at_.size:=by omega
       refine⟨_,S1,ER hT ht hh (by omega) (by rw[<-qe,BX];omega) h1,?_⟩;rw[jQ];refine BU bu dz (by rw[hg];rfl) uw (b':= .arr n at_ (xs.set i en)) ⟨rfl,rfl⟩ hh (λic db=>?_);have px:Rep S1 w at_ en (ci.take c++z.cells.toList++ci.drop (c+z.cells.toList.length)):=by have:=hp S1 w ct dE;rwa[List.take_of_length_le (by simp;omega)]at this
       refine⟨g,_,e,hg,setRow_heap w g cur _ e (0,0) hh,⟨?_,css.set i (ci.take c++z.cells.toList++ci.drop (c+z.cells.toList.length)),?_,?_⟩,uw⟩
       .show List.length (List.set xs i en)=n;rw[List.length_set];exact hn
       .exact(ao.mono (λx c hx=>Rep.keep (ct.trans db) _ _ _ hx)).set i _ _ (Rep.keep db _ _ _ px)
       .have ES:=HQ (cur:=cur.toList) (n:=n) (zs:=z.cells.toList) (All2.all_len ao) (by rw[<-ao.length,hn]) (by rw[<-BX,List.take_length,er]) l5 l7;rw[<-ES];symm;refine(List.take_of_length_le ?_).trans (by simp);simp only[ja,qk,zf];omega
     .simp at h
    .simp at h
   .simp at h
  .simp at h
 .simp at h
end
theorem uy{m:Nat}:∀{l:List (List Value)}(i:Nat),(∀c∈l,c.length=m)->(l.take i).flatten=l.flatten.take (i*m)
 |[],i,_=>by simp
 |c::l,0,_=>by simp
 |c::l,i+1,h=>by
  have hc:=h c (by simp);have ih:=uy (l:=l) i (λd hd=>h d (by simp[hd]));rw[List.take_succ_cons,ky,ih,ky,v8,Nat.add_comm,List.take_append,hc];rw[List.take_of_length_le (l:=c) (by omega),show m+i*m-m=i*m by omega]
theorem ET{m:Nat}:∀{l:List (List Value)}(i:Nat),(∀c∈l,c.length=m)->(l.drop i).flatten=l.flatten.drop (i*m)
 |[],i,_=>by simp
 |c::l,0,_=>by simp
 |c::l,i+1,h=>by
  have hc:=h c (by simp);have ih:=ET (l:=l) i (λd hd=>h d (by simp[hd]));rw[List.drop_succ_cons,ih,ky,v8,Nat.add_comm,List.drop_append,hc];rw[jf (l:=c) (by omega),jm,show m+i*m-m=i*m by omega]
section
variable{N:NT}{np:Nat}{S0:aD}{w0:World}{refs:Refs}{σ:St}{a:Go.Act}{w:World}{S:aD}{γ:Nat->Value}
theorem HS(hR:Rel N np S0 w0 refs σ a w S γ){k:Nat}{b:Bx}(hk:σ.bx k = .live b):Rel N np S0 w0 refs (σ.setB k .gone) a w S γ:=by
 have hle:BxLe γ σ.bx γ (σ.setB k .gone).bx:=by
  intro k' bg;by_cases bY:k'=k
  .subst bY;rw[fX];exact⟨by simp,rfl,λb hb=>by simp at hb⟩
  .rw[cD σ _ bY];exact⟨bg,rfl,λb hb=>⟨b,hb,.refl b⟩⟩
 have bt:∀k' b1,(σ.setB k .gone).bx k' = .live b1->σ.bx k' = .live b1:=by
  intro k' b1 h1;by_cases bY:k'=k
  .subst bY;rw[fX]at h1;simp at h1
  .rwa[cD σ _ bY]at h1
 exact Rel.step (bx':=(σ.setB k .gone).bx) hR (.refl S w) hle (λk' b' h=>ei.keep (.refl S w) hle rfl (λ_ _=>⟨rfl,λ_=>Iff.rfl⟩) (hR.box k' b' (bt k' b' h)))
  (λk' b' g h=>hR.own k' b' g (bt k' b' h)) (λk1 k2 b1 b2 g aZ h1 h2=>hR.apart k1 k2 b1 b2 g aZ (bt _ _ h1) (bt _ _ h2)) hR.new hR.here hR.below hR.grow hR.os hR.tape hR.output
  (λg _ _ h=>⟨rfl,λk' b' aM=>h k' b' (bt k' b' aM)⟩)
theorem EU(hR:Rel N np S0 w0 refs σ a w S γ){d:Nat}(hd:σ.bx d = .free){w':World}{S':aD}{v':Value}{e:Nat}(hm:isM e=false){el:Ty}{zs:List el.den}{frz:Bool}{css:List (List Value)}
  (aB:cW S w S' w')(py:∀g,g<w.heap.size->blk v'≠some g->w'.heap[g]? = w.heap[g]?)(bX:w.heap.size<=w'.heap.size)
  (hv:∀g,blk v'=some g->w0.heap.size<=g/\(∀k b,σ.bx k = .live b->blk (γ k)≠some g)/\g<w'.heap.size)
  (hS:∀g o,S' g o->S g o\/blk v'=some g)(os:w'.os=w.os)(tape:w'.tape=w.tape)(output:w'.output=w.output)
  (cE:w'.ownsRow 0 e el.size v' zs.length css.flatten)(ao:All2 (λx c=>Rep S' w' el x c) zs css)
  (HT:∀g,blk v'=some g->(frz=false->∀o,¬S' g o)/\(frz=true->∀o,S' g o↔o<zs.length*el.size))(O5:∀g,blk v'=some g->refs.kw g=none) :
  Rel N np S0 w0 refs (σ.setB d (.live (.lst e el zs frz))) a w' S' (gset γ d v')/\
   bJ S' w' (gset γ d v') (σ.setB d (.live (.lst e el zs frz))).bx (.one (.ol d)) v':=by
 have hle:BxLe γ σ.bx (gset γ d v') (σ.setB d (.live (.lst e el zs frz))).bx:=by
  intro k hk;have aZ:k≠d:=by rintro rfl;exact hk hd
  rw[cD σ _ aZ,fY γ v' aZ];exact⟨hk,rfl,λb hb=>⟨b,hb,.refl b⟩⟩
 have cP:One v':=by rcases cE.2 with⟨rfl,_⟩|⟨g,cap,cur,rfl,_⟩<;>rfl
 refine⟨Rel.step (bx':=(σ.setB d (.live (.lst e el zs frz))).bx) hR aB hle ?_ ?_ ?_ ?_ ?_ ?_ (qg hR.grow bX) (os.trans hR.os) (tape.trans hR.tape) (output.trans hR.output) (λg hg zK h=>⟨py g hg (λhh=>zK (O5 g hh)),λk b' aM di=>by
  by_cases hk:k=d
  .subst hk;rw[fo]at di;exact zK (O5 g di)
  .rw[cD σ _ hk]at aM;rw[fY γ v' hk]at di;exact h k b' aM di⟩),?_⟩
 .intro k b hb;by_cases hk:k=d
  .subst hk;rw[fX]at hb;simp at hb;subst hb;refine BJ hm ⟨css,by rw[fo];exact cE,ao,λg hg=>?_⟩;rw[fo]at hg;exact HT g hg
  .rw[cD σ _ hk]at hb;refine ei.keep aB hle (fY γ v' hk) (λg hg=>?_) (hR.box k b hb);have wB:=lY (hR.box k b hb) hg;have aZ:blk v'≠some g:=λhh=>(hv g hh).2.1 k b hb hg;exact⟨py g wB aZ,λo=>⟨λhs=>(hS g o hs).resolve_right aZ,λhs=>(aB g o hs).1⟩⟩
 .intro k b g hb hg;by_cases hk:k=d
  .subst hk;rw[fo]at hg;exact .inl (hv g hg).1
  .rw[cD σ _ hk]at hb;rw[fY γ v' hk]at hg;exact hR.own k b g hb hg
 .intro k k' b1 b2 g aZ h1 h2 hg aw;by_cases hk:k=d
  .subst hk;have bg:k'≠k:=λh=>aZ h.symm;rw[fo]at hg;rw[cD σ _ bg]at h2;rw[fY γ v' bg]at aw;exact(hv g hg).2.1 k' b2 h2 aw
  .by_cases bg:k'=d
   .subst bg;rw[fo]at aw;rw[cD σ _ hk]at h1;rw[fY γ v' hk]at hg;exact(hv g aw).2.1 k b1 h1 hg
   .rw[cD σ _ hk]at h1;rw[cD σ _ bg]at h2;rw[fY γ v' hk]at hg;rw[fY γ v' bg]at aw;exact hR.apart k k' b1 b2 g aZ h1 h2 hg aw
 .intro g o hs;rcases hS g o hs with hs|hs
  .exact hR.new g o hs
  .exact .inr (hv g hs).1
 .intro g o hs;rcases hS g o hs with hs|hs
  .have:=hR.here g o hs;omega
  .exact(hv g hs).2.2
 .intro g hg hr;by_cases hb:blk v'=some g
  .have:=(hv g hb).1;omega
  .rw[py g (by have:=hR.grow;omega) hb];exact hR.below g hg hr
 .refine⟨⟨by rw[fX];simp,cP,λb hb=>(fo γ d v').symm⟩,λ_=>cP⟩
theorem Ya{P:Program}{T:Nat->Option TyI}(hT:cw P T){t ty:TypeId}{ti:TyI}(ht:T t=some ti){el:Ty}(bA:ti.ty=some (.list el))
  {v:Value}{n:Nat}{xs:List Value}(aN:w.ownsRow 0 ti.elem el.size v n xs){ad:Option Addr}{m c:Nat}{news:List Value}(fp:ad=none->m=0/\c=0)(hl:news.length=m*el.size)
  (gK:∀b,ad=some b->∀(j:Nat)(u:Value),news[j]? = some u->w.cell? (b.add j)=some u)(h1:∀u∈news,One u)(eu:n+m<=aS) :
  ∃v' w',(Builtin.append_ #[t,t] ty #[v,.slice ad m c]).run P w = .ok v' w'/\w'.ownsRow 0 ti.elem el.size v' (n+m) (xs++news)/\w'.os=w.os/\w'.tape=w.tape/\w'.output=w.output/\w.heap.size<=w'.heap.size/\
   ((v'=v/\w'=w)\/(blk v'=blk v/\(∃g,blk v=some g)/\∀g,blk v≠some g->w'.heap[g]? = w.heap[g]?)\/(blk v'=some w.heap.size/\∀g,g<w.heap.size->w'.heap[g]? = w.heap[g]?)):=by
 obtain⟨hd,bP,te,cN,cX⟩:=pj hT ht bA;have bX:=ny hT cN cX;obtain⟨i,de,hi,hde,his,BZ,_,_,hz⟩:=kY hT cN;obtain⟨_,⟨z,hz,gv⟩,_⟩:=hz el cX;have ew:i.size=el.size:=by omega
 have mN:z.cells.size=el.size:=by have h:=Rep.length el el.dflt _ (oJ (S:=λ_ _=>False) (w:=w) el);rw[<-gv]at h;simpa using h
 have B0:n+m<=maxLen:=by simp only[maxLen,aS]at *;omega
 have iS:(n+m)*i.bytes<=140737488355328:=by have:(n+m)*i.bytes<=aS*32768:=z6 eu BZ;simp only[aS]at this;omega
 have hlen:(xs++news).length=(n+m)*el.size:=by rw[ja,aN.1,hl,Nat.add_mul]
 cases ad with
 |none=>obtain⟨rfl,rfl⟩:=fp rfl;have sx:news=[]:=jz (by simpa using hl);subst sx;exact⟨v,w,run_append_owned_none (P:=P) w 0 t ty ti.elem i el.size hd hi v n xs aN,by simpa using aN,rfl,rfl,rfl,jj _,.inl ⟨rfl,rfl⟩⟩
 |some b=>
  have gK:=gK b rfl;rcases aN.2 with⟨rfl,rfl⟩|⟨g,cap,cur,rfl,_,hg,jG,lh,dB,dS⟩
  .have uz:w.ownsRow w.heap.size ti.elem el.size (.slice none 0 0) 0 xs:=⟨aN.1,.inl ⟨rfl,rfl⟩⟩;obtain⟨v',w',hr,ho,EV,hv⟩:=run_append_own (P:=P) w w.heap.size t ty ti.elem i z el.size i.bytes hd hi hz ew rfl mN bP _ 0 xs uz b m c news hl gK h1 B0 iS (jj _);refine⟨v',w',hr,⟨ho.1,ho.2.imp id (λ⟨g,cap,cur,h1,_,h3⟩=>⟨g,cap,cur,h1,kc _,h3⟩)⟩,EV.os,EV.tape,EV.output,EV.size,?_⟩;by_cases hm:m=0
   .subst hm;have sx:news=[]:=jz (by simpa using hl);subst sx;have:=run_append_own (P:=P) w w.heap.size t ty ti.elem i z el.size i.bytes hd hi hz ew rfl mN bP _ 0 xs uz b 0 c [] hl gK h1 B0 iS (jj _);left;have hx:(Builtin.append_ #[t,t] ty #[.slice none 0 0,.slice (some b) 0 c]).run P w = .ok (.slice none 0 0) w:=by simp[Builtin.append_,run_underlying hd,sizeOf,typeInfo,hi,Builtin.lenOf,Builtin.firstCells,loadCells,loadCellsFrom]
    rw[hx]at hr;simp at hr;exact⟨hr.1.symm,hr.2.symm⟩
   .have sy:=run_append_nil (P:=P) w t ty ti.elem i z hd hi hz b m c news (by rw[ew];exact hl) gK (by omega) (by simp only[maxLen]at B0;omega) (by have:=iS;simp only[kf]at this;omega);rw[sy]at hr;simp at hr;obtain⟨rfl,rfl⟩:=hr;exact .inr (.inr ⟨rfl,λg hg=>heap_alloc_old w.drew _ hg⟩)
  .by_cases pz:n+m<=cap
   .have B3:n*i.size+news.length<=cur.size:=by rw[ew,hl,dB,<-Nat.add_mul];exact jv _ pz
    have hr:=run_append_room (P:=P) w t ty ti.elem i hd hi g n cap cur hg b m c news (by rw[ew];exact hl) gK h1 pz B3;rw[ew]at hr B3;refine⟨_,_,hr,⟨hlen,.inr ⟨g,cap,_,rfl,kc _,setRow_heap w g cur _ ti.elem _ hg,pz,lh,?_,?_⟩⟩,rfl,rfl,rfl,by rw[size_setRow];exact jj _,.inr (.inl ⟨rfl,⟨g,rfl⟩,λg' aw=>?_⟩)⟩
    .simp only[zt,ja,qk,zf,qe];omega
    .rw[dS,<-hlen];exact List.take_left
    .exact setRow_other w g g' _ (λh=>aw (by rw[h];rfl))
   .have holds:∀(j:Nat)(u:Value),xs[j]? = some u->w.cell? ((⟨g,0,none⟩:Addr).add j)=some u:=aN.cells (g:=g) rfl;have hr:=run_append_grow (P:=P) w t ty ti.elem i z hd hi hz ⟨g,0,none⟩ n cap xs (by rw[ew];exact aN.1) holds b m c news (by rw[ew];exact hl) gK (by omega) (by simp only[maxLen]at B0;omega) (growslice_fits (by omega) iS);have nG:=grownCap_ge w (n+m) cap ti.elem;refine⟨_,_,hr,⟨hlen,.inr ⟨w.heap.size,_,_,rfl,kc _,heap_alloc_new w.drew _,nG,grownCap_le_maxLen w (n+m) cap ti.elem B0,?_,?_⟩⟩,rfl,rfl,rfl,by simp,.inr (.inr ⟨rfl,λg' aw=>heap_alloc_old w.drew _ aw⟩)⟩
    .simp only[Array.size_append,zt,size_zeroCells,mN,aN.1,hl,<-Nat.add_mul];congr 1;omega
    .simp only[Array.toList_append,jd];rw[<-jd,<-hlen];exact List.take_left
theorem O6(hR:Rel N np S0 w0 refs σ a w S γ){rd:Nat->BS}(aR:RdOk σ rd){el:Ty}{y:Leaf}{ys:List el.den}{z:Value}(h:appX rd el y=some ys)(hy:bO S w γ σ.bx y z) :
  ∃ad c css,z = .slice ad ys.length c/\(ad=none->ys.length=0/\c=0)/\All2 (λx c=>Rep S w el x c) ys css/\
   ∀b,ad=some b->∀(j:Nat)(u:Value),css.flatten[j]? = some u->w.cell? (b.add j)=some u:=by
 unfold appX at h;split at h
 .rename_i k;split at h
  .rename_i e EW xs f hk;have:=lV h;cases this;have bV:=aR.nm hk;have hk:=aR.live hk;have hz:=hy.2.2 _ hk;obtain⟨css,aN,ao,_⟩:=ia bV (hR.box k _ hk);rcases aN.2 with⟨hg,h0⟩|⟨g,cap,cur,hg,_⟩
   .exact⟨none,0,css,by rw[hz,hg,h0],λ_=>⟨h0,rfl⟩,ao,λb hb=>by simp at hb⟩
   .refine⟨some ⟨g,0,none⟩,cap,css,by rw[hz,hg],by simp,ao,λb hb j u hu=>?_⟩;simp at hb;subst hb;exact aN.cells (g:=g) (by rw[hg];rfl) j u hu
  .simp at h
 .rename_i t xs;have:=lV h;cases this;obtain⟨ad,cap,hz,hle,lh,hn,hb⟩:=hy;simp at hz;cases ad with
  |none=>
   have h0:=hn rfl;have sC:List.length ys=0:=by omega
   have:ys=[]:=jz sC;subst this;exact⟨none,cap,[],hz,λ_=>⟨rfl,h0⟩,trivial,λb hb=>by simp at hb⟩
  |some b=>
   obtain⟨cC,css,ha,hl⟩:=hb b rfl;refine⟨some b,cap,css,hz,by simp,ha,λb' aM j u hu=>?_⟩;simp at aM;subst aM
   have cC:=cC (λe=>by
    rw[e]at ha;cases css with
    |nil=>simp at hu
    |cons c cs=>exact ha)
   obtain⟨g,o,sp⟩:=b;simp at cC;subst cC;rw[Addr.add_lit];exact(hl j u hu).2
 .simp at h;subst h;exact⟨none,0,[],hy,λ_=>⟨rfl,rfl⟩,trivial,λb hb=>by simp at hb⟩
 .rename_i k j;split at h
  .rename_i e EW xs f hk;split at h
   .rename_i cB iB;have:=lV iB;cases this;simp only[j4]at h;subst h;have bV:=aR.nm hk;have hk:=aR.live hk;obtain⟨_,hj,ad,gH,aw,hu⟩:=hy.2.2 _ hk;obtain⟨css,aN,ao,_⟩:=ia bV (hR.box k _ hk);have fj:=All2.all_len ao;have hlen:(List.drop j cB).length=cB.length-j:=by simp
    rcases aN.2 with⟨hg,h0⟩|⟨g,cap,cur,hg,_,hh,jG,_⟩
    .rw[hg]at aw;simp only[Value.slice.injEq]at aw;obtain⟨rfl,_,rfl⟩:=aw;have rA:cB=[]:=jz h0;subst rA;refine⟨none,0,[],by rw[hu];simp,λ_=>⟨by simp,rfl⟩,by simp;trivial,λb hb=>by simp at hb⟩
    .rw[hg]at aw;simp only[Value.slice.injEq,qh]at aw;obtain⟨rfl,rfl⟩:=aw;by_cases hc:cap=j
     .have rA:List.drop j cB=[]:=jf (by omega);rw[rA];rw[if_pos hc]at hu;exact⟨some ⟨g,0,none⟩,cap-j,[],by rw[hu];simp;omega,by simp,trivial,λb hb q v hq=>by simp at hq⟩
     .rw[if_neg hc]at hu;simp only[kv,Addr.add_lit,kf]at hu;refine⟨some ⟨g,j*el.size,none⟩,cap-j,css.drop j,by rw[hu,hlen],by simp,ao.drop j,λb hb q v hq=>?_⟩;simp at hb;subst hb;have Yb:(css.drop j).flatten=css.flatten.drop (j*el.size):=ET j fj;rw[Yb,List.getElem?_drop]at hq;have:=aN.cells (g:=g) (by rw[hg];rfl) _ v hq;rw[Addr.add_lit]at this ⊢;simpa using this
   .simp at h
  .simp at h
 .simp at h
theorem Yc{P:Program}{E:Env}(hT:cw P E.T)(hR:Rel N np S0 w0 refs σ a w S γ){rd rdf:Nat->BS}(aR:RdOk σ rd)(bC:RdF np σ rdf){t ty:TypeId}{ti:TyI}(ht:E.T t=some ti)
  {el:Ty}(bA:ti.ty=some (.list el)){x y:Leaf}{xs ys:List el.den}{frz:Bool}{u:Ups}{d:Nat}{vx vy:Value}(h1:appS rdf ti.elem el x=some (xs,frz,u))(h2:appX rd el y=some ys)
  (hd:σ.bx d = .free)(eu:xs.length+ys.length<=aS)(hx:bO S w γ σ.bx x vx)(hy:bO S w γ σ.bx y vy) :
  ∃v' w' S' γ',(Builtin.append_ #[t,t] ty #[vx,vy]).run P w = .ok v' w'/\Rel N np S0 w0 refs (σ.upd (u++[(d,.live (.lst ti.elem el (xs++ys) frz))])) a w' S' γ'/\
   bJ S' w' γ' (σ.upd (u++[(d,.live (.lst ti.elem el (xs++ys) frz))])).bx (.one (.ol d)) v':=by
 obtain⟨ad,c,cy,HU,fp,wC,cS⟩:=O6 hR aR h2 hy;subst HU;have sD:cy.flatten.length=ys.length*el.size:=All2.flatten_length (λx c hx=>Rep.length el x c hx) wC;have Yd:∀u∈cy.flatten,One u:=by intro u hu;obtain⟨c,hc,BH⟩:=List.mem_flatten.1 hu;obtain⟨x,_,hx⟩:=wC.mem_right c hc;exact Rep.one el x c hx u BH
 obtain⟨nC,bP,te,cN,cX⟩:=pj hT ht bA
 have src:∃σ1,σ.upd u=σ1/\Rel N np S0 w0 refs σ1 a w S γ/\σ1.bx d = .free/\∃cx,w.ownsRow 0 ti.elem el.size vx xs.length cx.flatten/\All2 (λx c=>Rep S w el x c) xs cx/\
   ∀g,blk vx=some g->w0.heap.size<=g/\g<w.heap.size/\(∀k b,σ1.bx k = .live b->blk (γ k)≠some g)/\(frz=false->∀o,¬S g o)/\(frz=true->∀o,S g o↔o<xs.length*el.size)/\refs.kw g=none:=by
  unfold appS at h1;split at h1
  .rename_i k;split at h1
   .rename_i e' EW cB f hk;split at h1
    .rename_i OX iB;split at h1
     .rename_i he;simp only[j4,j8]at h1;obtain⟨rfl,rfl,rfl⟩:=h1;have:=lV iB;cases this;subst he;have mO:=bC.par hk;have bV:=bC.ok.nm hk;have hk:=bC.ok.live hk;have hz:=hx.2.2 _ hk;obtain⟨css,aN,ao,hS⟩:=ia bV (hR.box k _ hk);have rB:d≠k:=by rintro rfl;rw[hd]at hk;simp at hk
      refine⟨σ.setB k .gone,rfl,HS hR hk,by rw[cD σ _ rB];exact hd,css,by rw[hz];exact aN,ao,λg hg=>?_⟩;rw[hz]at hg;refine⟨?_,lY (hR.box k _ hk) hg,λk' b' aM aw=>?_,(hS g hg).1,(hS g hg).2,hR.kw_live hk hg⟩
      .rcases hR.own k _ g hk hg with h|h
       .exact h
       .rw[mO]at h;simp at h
      .have bY:k'≠k:=by rintro rfl;rw[fX]at aM;simp at aM
       rw[cD σ _ bY]at aM;exact hR.apart k' k _ _ g bY aM hk aw hg
     .simp at h1
    .simp at h1
   .simp at h1
  .simp only[j4,j8]at h1;obtain⟨rfl,rfl,rfl⟩:=h1;have hz:vx = .slice none 0 0:=hx;subst hz;exact⟨σ,rfl,hR,hd,[],World.ownsRow_nil w 0 ti.elem el.size,trivial,λg hg=>by simp[blk]at hg⟩
  .simp at h1
 obtain⟨σ1,Ye,bu,ry,cx,aN,EX,hblk⟩:=src;rw[jQ,Ye];obtain⟨v',w',hr,cE,os,tape,output,bX,cm⟩:=Ya hT ht bA (ty:=ty) aN fp sD cS Yd eu;have mP:cx.flatten.length=xs.length*el.size:=aN.1;let S':aD:=λg o=>S g o\/(frz=true/\blk v'=some g/\o<(xs++ys).length*el.size)
 have aB:cW S w S' w':=by
  intro g o hs;refine⟨.inl hs,?_⟩;rcases cm with⟨rfl,rfl⟩|⟨hb,⟨g0,gX⟩,hh⟩|⟨hb,hh⟩
  .rfl
  .by_cases hg:g=g0
   .subst hg;obtain⟨_,_,_,hf,rC,_⟩:=hblk g gX;cases frz with
    |false=>exact absurd hs (hf rfl o)
    |true=>
     have ho:=(rC rfl o).1 hs
     have gw:v'.ownBlock=some g:=by
      rw[gX]at hb;rcases cE.2 with⟨hn,_⟩|⟨g1,cap,cur,hn,_⟩
      .rw[hn]at hb;simp[blk]at hb
      .rw[hn]at hb ⊢;simp[blk]at hb;simp[Value.ownBlock,hb]
     have Yf:vx.ownBlock=some g:=by
      rcases aN.2 with⟨hn,_⟩|⟨g1,cap,cur,hn,_⟩
      .rw[hn]at gX;simp[blk]at gX
      .rw[hn]at gX ⊢;simp[blk]at gX;simp[Value.ownBlock,gX]
     have B4:(cx.flatten)[o]? = some (cx.flatten[o]'(by omega)):=ji (by omega);have e1:=aN.cells Yf o _ B4;have e2:=cE.cells gw o (cx.flatten[o]'(by omega)) (by rw[List.getElem?_append_left (by omega)];exact B4);rw[Addr.add_lit,kf]at e1 e2;rw[e1,e2]
   .have:=hh g (by rw[gX];simpa using λh=>hg h.symm);exact World.cell?_of_block (a:=⟨g,o,none⟩) this
  .exact World.cell?_of_block (a:=⟨g,o,none⟩) (hh g (hR.here g o hs))
 have EY:∀g,blk v'=some g->w0.heap.size<=g/\(∀k b,σ1.bx k = .live b->blk (γ k)≠some g)/\g<w'.heap.size:=by
  intro g hg
  have an:g<w'.heap.size:=by
   rcases cE.2 with⟨hn,_⟩|⟨g1,cap,cur,hn,_,hh,_⟩
   .rw[hn]at hg;simp[blk]at hg
   .rw[hn]at hg;simp[blk]at hg;subst hg;exact(jk.1 hh).1
  rcases cm with⟨rfl,rfl⟩|⟨hb,⟨g0,gX⟩,hh⟩|⟨hb,hh⟩
  .obtain⟨q1,q2,q3,_⟩:=hblk g hg;exact⟨q1,q3,an⟩
  .rw[hb]at hg;obtain⟨q1,q2,q3,_⟩:=hblk g hg;exact⟨q1,q3,an⟩
  .rw[hb]at hg;simp at hg;subst hg;exact⟨hR.grow,λk b hk aw=>by have:=lY (bu.box k b hk) aw;omega,an⟩
 obtain⟨dj,cT⟩:=EU bu ry (hm:=Hz hT ht) (w':=w') (S':=S') (v':=v') (e:=ti.elem) (el:=el) (zs:=xs++ys) (frz:=frz) (css:=cx++cy) aB (λg hg aZ=>by
   rcases cm with⟨rfl,rfl⟩|⟨hb,_,hh⟩|⟨hb,hh⟩
   .rfl
   .exact hh g (by rw[<-hb];exact aZ)
   .exact hh g hg) bX EY (λg o hs=>hs.imp id (λh=>h.2.1)) os tape output (by rw[vb,ja];exact cE)
  ((EX.mono (λx c hx=>Rep.keep aB _ _ _ hx)).append (wC.mono (λx c hx=>Rep.keep aB _ _ _ hx))) (λg hg=>by
    have hold:∀o,S g o->frz=true/\o<xs.length*el.size:=by
     intro o hs;rcases cm with⟨rfl,rfl⟩|⟨hb,⟨g0,gX⟩,hh⟩|⟨hb,hh⟩
     .obtain⟨_,_,_,hf,rC,_⟩:=hblk g hg;cases frz with
      |false=>exact absurd hs (hf rfl o)
      |true=>exact⟨rfl,(rC rfl o).1 hs⟩
     .rw[hb]at hg;obtain⟨_,_,_,hf,rC,_⟩:=hblk g hg;cases frz with
      |false=>exact absurd hs (hf rfl o)
      |true=>exact⟨rfl,(rC rfl o).1 hs⟩
     .rw[hb]at hg;simp at hg;subst hg;exact absurd hs (EN hR o)
    refine⟨λhf o hs=>?_,λhf o=>⟨λhs=>?_,λho=> .inr ⟨hf,hg,ho⟩⟩⟩
    .rcases hs with hs|hs
     .rw[hf]at hold;simp at hold;exact hold o hs
     .rw[hf]at hs;simp at hs
    .rcases hs with hs|hs
     .have:=(hold o hs).2;rw[ja,Nat.add_mul];omega
     .exact hs.2.2) (λg hg=>by
    rcases cm with⟨rfl,rfl⟩|⟨hb,⟨g0,gX⟩,hh⟩|⟨hb,hh⟩
    .exact(hblk g hg).2.2.2.2.2
    .rw[hb]at hg;exact(hblk g hg).2.2.2.2.2
    .rw[hb]at hg;simp at hg;subst hg;exact hR.kw_new (jj _))
 exact⟨v',w',S',_,hr,dj,cT⟩
end
theorem Yg(L l:List Value)(v:Value)(n:Nat)(h:n<L.length) :
  (L.set n v).take (n+1)++l++(L.set n v).drop (n+1+l.length)=L.take n++v::l++L.drop (n+(l.length+1)):=by
 obtain⟨A,x,B,hA,rfl⟩:∃A x B,List.length A=n/\L=A++x::B:=⟨L.take n,L[n],L.drop (n+1),by simp;omega,by rw[List.getElem_cons_drop h,ki]⟩;subst hA;rw[zo _ _ (jj _),Nat.sub_self,List.set_cons_zero];have e1:(A++v::B).take (A.length+1)=A++[v]:=by rw[show A++v::B=(A++[v])++B by simp];exact List.take_left' (by simp)
 have e2:(A++x::B).take A.length=A:=List.take_left' rfl;have e3:∀y,(A++y::B).drop (A.length+1+l.length)=B.drop l.length:=by intro y;rw[show A++y::B=(A++[y])++B by simp,<-List.drop_drop,List.drop_left' (by simp)]
 rw[e1,e2,e3,show A.length+(l.length+1)=A.length+1+l.length by omega,e3];simp
theorem O7(off:Nat):∀(l:List Value)(k:Nat)(cells:Array Value),off+k+l.length<=cells.size->
  ((l.zipIdx k).foldl (λcs x=>cs.setIfInBounds (off+x.2) x.1) cells).toList=cells.toList.take (off+k)++l++cells.toList.drop (off+k+l.length)
 |[],k,cells,_=>by simp
 |v::l,k,cells,h=>by
  simp only[jl]at h;rw[List.zipIdx_cons,vf,O7 off l (k+1) _ (by simp;omega)];simp only[Array.toList_setIfInBounds];rw[show off+(k+1)=off+k+1 by omega];exact Yg cells.toList l v (off+k) (by simp;omega)
theorem O8(cells:Array Value)(off:Nat)(zs:Array Value)(h:off+zs.size<=cells.size) :
  (zs.zipIdx.foldl (λcs (x:Value×Nat)=>cs.setIfInBounds (off+x.2) x.1) cells).toList=cells.toList.take off++zs.toList++cells.toList.drop (off+zs.size):=by
 rw[<-Array.foldl_toList,Array.toList_zipIdx];have:=O7 off zs.toList 0 cells (by simpa using h);simpa using this
theorem O9(z:List Value):∀(n p:Nat),p<n*z.length->(List.replicate n z).flatten[p]? = z[p%z.length]?
 |0,p,h=>by simp at h
 |n+1,p,h=>by
  rw[List.replicate_succ,ky];by_cases hp:p<z.length
  .rw[List.getElem?_append_left hp,Nat.mod_eq_of_lt hp]
  .rw[k7 (by omega),O9 z n (p-z.length) (by rw[Nat.add_mul]at h;omega)];congr 1;exact(Nat.mod_eq_sub_mod (by omega)).symm
theorem Pa(z:Array Value)(n:Nat)(hz:0<z.size):((Array.range (n*z.size)).map (λi=>z[i%z.size]!)).toList=(List.replicate n z.toList).flatten:=by
 apply vl;intro p;by_cases hp:p<n*z.size
 .rw[O9 z.toList n p (by simpa using hp)];have hm:p%z.size<z.size:=Nat.mod_lt _ hz;simp[hp,hm]
 .rw[qr (by simp;omega),qr (by rw[List.length_flatten];simp;omega)]
section
variable{N:NT}{np:Nat}{S0:aD}{w0:World}{refs:Refs}{σ:St}{a:Go.Act}{w:World}{S:aD}{γ:Nat->Value}
theorem HV{t:Ty}{z:Value}(h:z.cells.toList=iA t):z.cells.size=t.size:=by
 have:=Rep.length t t.dflt _ (oJ (S:=λ_ _=>False) (w:=(default:World)) t);rw[<-h]at this;simpa using this
theorem EZ{t:Ty}{z:Value}(h:z.cells.toList=iA t):∀u∈z.cells.toList,One u:=by
 rw[h];exact Rep.one t t.dflt _ (oJ (S:=λ_ _=>False) (w:=(default:World)) t)
theorem HW{P:Program}{T:Nat->Option TyI}(hT:cw P T){t:TypeId}{ti:TyI}(ht:T t=some ti){ty:Ty}(bA:ti.ty=some ty) :
  ∃z:Value,z.cells.toList=iA ty/\(Instr.alloc t true (.tuple #[])).run P w = .ok (.pointer (some ⟨w.heap.size,0,none⟩)) (w.alloc (.cells z.cells t)):=by
 obtain⟨z,hz,hc⟩:=zD hT ht w bA;refine⟨z,hc,?_⟩;simp only[Instr.alloc,Sem.run_bind,hz,Result.andThen_ok,newVar,newRow,run_newObj,Sem.run_pure,World.alloc_eq]
theorem Pb{P:Program}(t:TypeId)(v:Value):(Instr.box t v).run P w = .ok (.pointer (some ⟨w.heap.size,0,none⟩)) (w.alloc (.cells v.cells t)):=by
 simp only[Instr.box,Sem.run_bind,newVar,newRow,run_newObj,Result.andThen_ok,Sem.run_pure,World.alloc_eq]
theorem Pc{P:Program}{α β:Type}(f:α->Sem β)(g:α->β):∀(l:List α),(∀x∈l,(f x).run P w = .ok (g x) w)->(l.mapM f).run P w = .ok (l.map g) w
 |[],_=>by simp
 |x::l,h=>by
  rw[z7];simp only[Sem.run_bind,h x (by simp),Result.andThen_ok,Pc f g l (λy hy=>h y (by simp[hy])),Sem.run_pure,kr]
theorem Pd{bx:Nat->BS}{ti:TyI}{sz:Nat->Option Nat}{place:Nat->Option (Nat×Nat)}(hp:∀i f n,ti.flds[i]? = some f->sz f.2=some n->place i=some (f.1,n)) :
  ∀(ps:List (Nat×Cel))(vs:List (Nat×Value)){ls fR:List Leaf}{cells:Array Value},All2 (λp v=>p.1=v.1/\bJ S w γ bx p.2 v.2) ps vs->yR ti sz ls ps=some fR->
   All2 (bO S w γ bx) ls cells.toList->(∀u∈cells.toList,One u)->∃bh,Instr.fill place cells vs=some bh/\All2 (bO S w γ bx) fR bh.toList/\∀u∈bh.toList,One u
 |[],[],ls,fR,cells,_,h,ha,h1=>by
  simp[yR]at h;subst h;exact⟨cells,rfl,ha,h1⟩
 |(i,c)::ps,(j,v)::vs,ls,fR,cells,⟨⟨dG,hc⟩,gC⟩,h,ha,h1=>by
  simp only at dG;subst dG;simp only[yR]at h;split at h
  .rename_i f hf;split at h
   .rename_i new dD;split at h
    .rename_i dH;obtain⟨bX,hle⟩:=dH;obtain⟨hl,mM⟩:=BV dD hc;have hlen:=hl.length;have uv:=ha.length;have l9:v.cells.size=new.length:=by rw[hlen];simp
     have dB:cells.size=ls.length:=by rw[uv];simp
     have E0:=O8 cells f.1 v.cells (by omega);have cC:=EO (c:=f.1) ha hl
     obtain⟨bh,fJ,h2,h3⟩:=Pd hp ps vs (cells:=(v.cells.zipIdx.foldl (λcs (x:Value×Nat)=>cs.setIfInBounds (f.1+x.2) x.1) cells)) gC h
      (by rw[E0];simpa using cC) (by
       rw[E0];intro u hu;simp only[jn]at hu;rcases hu with (hu|hu)|hu
       .exact h1 u (qf hu)
       .exact mM u hu
       .exact h1 u (za hu))
     refine⟨bh,?_,h2,h3⟩;simp only[Instr.fill,hp i f _ hf bX];rw[if_neg (by simp[l9];omega)];exact fJ
    .simp at h
   .simp at h
  .simp at h
 |[],_::_,_,_,_,h,_,_,_=>h.elim
 |_::_,[],_,_,_,h,_,_,_=>h.elim
theorem Yh{P:Program}{E:Env}(hT:cw P E.T){bx:Nat->BS}{t:TypeId}{ti:TyI}(ht:E.T t=some ti){ty:Ty}(bA:ti.ty=some ty)(kZ:ty.agg=true)
  {ps:List (Nat×Cel)}{vs:Array (Nat×Value)}{ls:List Leaf}(gC:All2 (λp v=>p.1=v.1/\bJ S w γ bx p.2 v.2) ps vs.toList)
  (h:yR ti (λt=>(E.T t).map (·.size)) (mK ty) ps=some ls) :
  ∃z,(Instr.build t vs).run P w = .ok z w/\bJ S w γ bx (.st ls) z:=by
 obtain⟨z,hz,gv⟩:=zD hT ht w bA;obtain⟨i,d,hi,hd,_,_,_,eO,dA⟩:=kY hT ht;have nC:=(dA ty bA).2.2;cases d with
 |struct fs=>
  simp only[BK,jb,jo]at eO;obtain⟨sg,wv⟩:=eO
  have sE:(fs.mapM (λf=>do pure (f.offset,<-sizeOf f.type):Field->Sem (Nat×Nat))).run P w = .ok (fs.map λf=>(f.offset,((E.T f.type).map (·.size)).getD 0)) w:=by
   rw[Array.mapM_eq_mapM_toList]
   have:=Pc (P:=P) (w:=w) (λf=>(do pure (f.offset,<-sizeOf f.type):Sem (Nat×Nat))) (λf:Field=>(f.offset,((E.T f.type).map (·.size)).getD 0)) fs.toList (λf hf=>by
    have:=k5.1 wv f hf;split at this
    .rename_i tf pk;simp only[Sem.run_bind,iO hT pk,Result.andThen_ok,Sem.run_pure,pk,kv,q9]
    .simp at this)
   simp only[Sem.run_map,this,Result.andThen_ok];congr 1;apply qo;simp
  have hp:∀(i:Nat)(f:Nat×Nat)(n:Nat),ti.flds[i]? = some f->(E.T f.2).map (·.size)=some n->(fs.map λf=>(f.offset,((E.T f.type).map (·.size)).getD 0))[i]? = some (f.1,n):=by
   intro i f n hf hn;rw[<-sg,qm]at hf;cases hq:fs.toList[i]? with
   |none=>simp[hq]at hf
   |some fl=>
    simp only[hq,kv,j4]at hf;subst hf;have E3:fs[i]? = some fl:=by simpa using hq
    simp only at hn;simp[E3,hn]
  obtain⟨bh,fJ,ha,h1⟩:=Pd (S:=S) (w:=w) (γ:=γ) (place:=λi=>(fs.map λf=>(f.offset,((E.T f.type).map (·.size)).getD 0))[i]?) hp ps vs.toList (cells:=z.cells) gC h (by rw[gv];exact uu ty) (EZ gv);refine⟨.agg bh,?_,bh,rfl,ha,h1⟩;simp only[Instr.build,Sem.run_bind,hz,Result.andThen_ok,run_underlying hd,sE,fJ,Sem.run_pure]
 |_=>exfalso;revert nC kZ;cases ty<;>simp[iN,Ty.agg]
theorem Pe{rd:Nat->BS}{el:Ty}:∀(ps:List (Nat×Cel)){xs cB:List el.den}{u u':Ups},ix rd el xs u ps=some (cB,u')->∃u2,u'=u++u2
 |[],_,_,u,u',h=>by simp[ix]at h;exact⟨[],by simp[h.2]⟩
 |(i,c)::ps,xs,cB,u,u',h=>by
  simp only[ix]at h;split at h
  .split at h
   .obtain⟨u2,hu⟩:=Pe ps h;exact⟨_,by rw[hu,jd]⟩
   .simp at h
  .simp at h
theorem HX{rd:Nat->BS}(aR:RdF np σ rd){el:Ty}(bP:0<el.size):∀(ps:List (Nat×Cel))(vs:List (Nat×Value)){xs cB:List el.den}{u u':Ups},
  All2 (λp v=>p.1=v.1/\bJ S w γ σ.bx p.2 v.2) ps vs->ix rd el xs u ps=some (cB,u')->FrzL np σ.bx u->
  FrzL np σ.bx u'/\∀S',cW S w S' w->Froz σ.bx γ S' w u'->∀(css:List (List Value))(cells:Array Value),All2 (λx c=>Rep S' w el x c) xs css->cells.toList=css.flatten->
   ∃bh iU,Instr.fill (λi=>some (i*el.size,el.size)) cells vs=some bh/\All2 (λx c=>Rep S' w el x c) cB iU/\bh.toList=iU.flatten
 |[],[],xs,cB,u,u',_,h,hf=>by
  simp[ix]at h;obtain⟨rfl,rfl⟩:=h;exact⟨hf,λS' _ _ css cells ha hc=>⟨cells,css,rfl,ha,hc⟩⟩
 |(i,c)::ps,(j,v)::vs,xs,cB,u,u',⟨⟨dG,hc⟩,gC⟩,h,hf=>by
  simp only at dG;subst dG;simp only[ix]at h;split at h
  .rename_i x u1 hx;split at h
   .rename_i hi;obtain⟨sg,wD,mM⟩:=BT aR hx hc;obtain⟨Yi,cK⟩:=HX aR bP ps vs gC h (FrzL.app.2 ⟨hf,sg⟩);obtain⟨u2,Pg⟩:=Pe ps h;refine⟨Yi,λS' aB dE css cells ha df=>?_⟩;have Yj:=(wD S' w aB (Froz.app.1 (Froz.app.1 (Pg▸dE)).1).2).1;have HY:cells.size=xs.length*el.size:=by have:=All2.flatten_length (λx c hx=>Rep.length el x c hx) ha;rw[<-df]at this;simpa using this
    have O3:i*el.size+el.size<=xs.length*el.size:=by have:(i+1)*el.size<=xs.length*el.size:=jv _ (by omega);rwa[v8]at this
    have mM:v.cells.toList.length=el.size:=mM;have l9:v.cells.size=el.size:=by simpa using mM
    have sv:v.cells.toList.length=v.cells.size:=qe;have E0:=O8 cells (i*el.size) v.cells (by omega);obtain⟨ci,l5⟩:∃ci,css[i]? = some ci:=⟨css[i]'(by rw[<-ha.length];exact hi),ji _⟩;have ES:=HQ (cur:=cells.toList) (n:=xs.length) (c:=0) (zs:=v.cells.toList) (All2.all_len ha) ha.length.symm (by rw[df,<-df];exact List.take_of_length_le (by simp[HY])) l5 (by omega);have fj:ci.length=el.size:=All2.all_len ha ci (k9 l5)
    have dD:cells.toList.take (i*el.size)++v.cells.toList++cells.toList.drop (i*el.size+v.cells.size)=(css.set i v.cells.toList).flatten:=by
     have e1:ci.take 0++v.cells.toList++ci.drop (0+v.cells.toList.length)=v.cells.toList:=by rw[jf (by omega)];simp
     rw[e1]at ES;rw[<-ES];symm;refine(List.take_of_length_le ?_).trans ?_
     .simp;omega
     .simp
    obtain⟨bh,iU,h1,h2,h3⟩:=cK S' aB dE (css.set i v.cells.toList) _ (ha.set i x v.cells.toList Yj) (E0.trans dD);refine⟨bh,iU,?_,h2,h3⟩;simp only[Instr.fill];rw[if_neg (by simp[l9];omega)];exact h1
   .simp at h
  .simp at h
 |[],_::_,_,_,_,_,h,_,_=>h.elim
 |_::_,[],_,_,_,_,h,_,_=>h.elim
end
theorem Yk{P:Program}{t e:TypeId}(h:P.underlying t=some (.slice e)):P.elem t=e:=by simp[Program.elem,h]
def VB(d:Nat)(o:Option Value)(i:Nat):Prop:=(o=none/\i=d)\/∃k,o=some (.int k (i:Int))
theorem zL{P:Program}{w:World}{t:TypeId}{e s:Nat}(hd:P.underlying t=some (.slice e))(hs:(sizeOf e).run P w = .ok s w){ad:Option Addr}{len cap i j:Nat}{lo hi:Option Value}
  (jJ:VB 0 lo i)(lu:VB len hi j)(dG:i<=j)(hj:j<=cap) :
  (Instr.sliceAt t (.slice ad len cap) lo hi none).run P w = .ok (.slice (if cap=i then ad else ad.map (·.add (i*s))) (j-i) (cap-i)) w:=by
 have he:=Yk hd;have fW:P.underlying t=some (.slice (P.elem t)):=by rw[he];exact hd
 rw[run_sliceAt_slice w t _ _ _ _ fW];have dp:(sizeOf (P.elem t)).run P w = .ok s w:=by rw[he];exact hs
 rcases jJ with⟨rfl,rfl⟩|⟨kl,rfl⟩
 .rcases lu with⟨rfl,rfl⟩|⟨kh,rfl⟩
  .rw[run_slice_all w t ad _ cap fW,dp];simp[Result.andThen,sliced]
  .rw[run_slice_h w t ad len cap fW kh _ (by omega) (by omega),dp];simp[Result.andThen,sliced]
 .rcases lu with⟨rfl,rfl⟩|⟨kh,rfl⟩
  .rw[run_slice_l w t ad _ cap fW kl _ (by omega) (by omega),dp];simp[Result.andThen,sliced]
  .rw[run_slice_lh w t ad len cap fW kl kh _ _ (by omega) (by omega) (by omega),dp];simp[Result.andThen,sliced]
section
variable{N:NT}{np:Nat}{S0:aD}{w0:World}{refs:Refs}{σ:St}{a:Go.Act}{w:World}{S:aD}{γ:Nat->Value}
theorem Pj{el:Ty}{xs:List el.den}{ad:Option Addr}{cap:Nat}(h:Rep S w (.list el) xs [.slice ad (List.length xs) cap]){i j:Nat}(dG:i<=j)(hj:j<=List.length xs) :
  Rep S w (.list el) ((xs.take j).drop i) [.slice (if cap=i then ad else ad.map (·.add (i*el.size))) (j-i) (cap-i)]:=by
 obtain⟨ad',gH,he,hle,lh,hn,hb⟩:=h;simp only[List.cons.injEq,Value.slice.injEq,and_true,qh]at he;obtain⟨rfl,rfl⟩:=he;have hlen:((xs.take j).drop i).length=j-i:=by simp;omega
 refine⟨_,_,by rw[hlen],by rw[hlen];omega,by omega,λh=>?_,λb aM=>?_⟩
 .have:ad=none:=by
   split at h
   .exact h
   .simpa using h
  have:=hn this;omega
 .by_cases hc:cap=i
  .rw[if_pos hc]at aM;have hz:(xs.take j).drop i=[]:=jz (by omega);rw[hz];exact⟨λh=>absurd rfl h,[],trivial,λj v hv=>by simp at hv⟩
  .rw[if_neg hc]at aM;cases ad with
   |none=>simp at aM
   |some b0=>
    simp only[kv,j4]at aM;subst aM;obtain⟨cC,css,ha,hl⟩:=hb b0 rfl;by_cases hx:(xs.take j).drop i=[]
    .rw[hx];exact⟨λh=>absurd rfl h,[],trivial,λj v hv=>by simp at hv⟩
    .have fS:xs≠[]:=λh=>hx (by rw[h];simp);obtain⟨g,o,sp⟩:=b0;have cC:=cC fS;simp at cC;subst cC;have wE:(⟨g,o,none⟩:Addr).add (i*el.size)=⟨g,o+i*el.size,none⟩:=Addr.add_lit _ _ _;rw[wE];refine⟨λ_=>rfl,(css.take j).drop i,(ha.take j).drop i,λq v hq=>?_⟩;have fj:=All2.all_len ha;rw[ET i (λc hc=>fj c (qf hc)),uy j fj,List.getElem?_drop,ve]at hq;split at hq
     .have:=hl _ v hq;simpa[Nat.add_assoc]using this
     .simp at hq
def ORep(R:Leaf->Value->Prop):Option Leaf->Option Value->Prop
 |none,none=>True
 |some l,some v=>R l v
 |_,_=>False
theorem wF{d:Nat}{o:Option Leaf}{vo:Option Value}{i:Int}{bx:Nat->BS}(h:bnd d o=some i)(ho:ORep (bO S w γ bx) o vo)(hi:0<=i):VB d vo i.toNat:=by
 unfold bnd at h;split at h
 .cases vo with
  |none=>simp at h;exact .inl ⟨rfl,by omega⟩
  |some v=>exact ho.elim
 .cases vo with
  |none=>exact ho.elim
  |some v=>simp at h;rename_i k n;have hv:v = .int k n:=rq (S:=S) (w:=w) ho;refine .inr ⟨k,?_⟩;rw[hv,show (n:Int)=i from h,Int.toNat_of_nonneg hi]
 .simp at h
theorem Yl{P:Program}{E:Env}(hT:cw P E.T)(hR:Rel N np S0 w0 refs σ a w S γ){rd:Nat->BS}(aR:RdOk σ rd){t:TypeId}{ti:TyI}(ht:E.T t=some ti)
  {d:Nat}{x l:Leaf}{lo hi:Option Leaf}{vx:Value}{wG B5:Option Value}{u:Ups}(aY:∀k,jO (rd k)=true->σ.bx k = .free)(h:yS (parK np) rd ti d x lo hi=some (true,l,u))
  (hx:bO S w γ σ.bx x vx)(jJ:ORep (bO S w γ σ.bx) lo wG)(lu:ORep (bO S w γ σ.bx) hi B5) :
  ∃v S' γ',(Instr.sliceAt t vx wG B5 none).run P w = .ok v w/\Rel N np S0 w0 refs (σ.upd u) a w S' γ'/\bJ S' w γ' (σ.upd u).bx (.one l) v:=by
 unfold yS at h;split at h
 ·-- a datum
  rename_i el xs;split at h
  .rename_i bA;obtain⟨hd,_,te,cN,cX⟩:=pj hT ht bA;have bX:=ny hT cN cX;split at h
   .rename_i i j bF ez;simp only[j4,j8,jb,jo]at h;obtain⟨⟨h0,h1,h2⟩,rfl,rfl⟩:=h;have gJ:=hx;obtain⟨ad,cap,hv,hle,_⟩:=hx;simp at hv;subst hv;have hlen:((List.length xs:Nat):Int)=Int.ofNat (List.length xs):=rfl;refine⟨_,S,γ,zL hd (s:=el.size) ?_ (wF bF jJ h0) (wF ez lu (by omega)) (by omega) (by omega),hR,Pj gJ (by omega) (by omega),λ_=>rfl⟩;rw[iO hT cN,bX]
   .simp at h
  .simp at h
 .rename_i k;split at h
  ·-- the tail
   split at h
   .rename_i e el xs f hk;split at h
    .rename_i bA;obtain⟨hd,_,te,cN,cX⟩:=pj hT ht bA;have bX:=ny hT cN cX;split at h
     .rename_i i bF;simp only[j4,j8,jb,jo]at h;obtain⟨⟨h0,h1⟩,rfl,rfl⟩:=h;have bV:=aR.nm hk;have hk:=aR.live hk;have hz:=hx.2.2 _ hk;obtain⟨css,aN,_⟩:=ia bV (hR.box k _ hk)
      obtain⟨ad,cap,hg,cL⟩:∃ad cap,γ k = .slice ad xs.length cap/\xs.length<=cap:=by
       rcases aN.2 with⟨hg,hn⟩|⟨g,cap,cur,hg,_,_,jG,_⟩
       .exact⟨none,0,by rw[hg,hn],by omega⟩
       .exact⟨_,cap,hg,jG⟩
      have wH:VB xs.length B5 xs.length:=by
       cases B5 with
       |none=>exact .inl ⟨rfl,rfl⟩
       |some v=>exact lu.elim
      subst hz;have aK:=zL (ad:=ad) (w:=w) hd (s:=el.size) (by rw[iO hT cN,bX]) (wF bF jJ h0) wH (by omega) cL;rw[<-hg]at aK;refine⟨_,S,γ,aK,hR,⟨hx.1,rfl,λb hb=>?_⟩,λ_=>rfl⟩;rw[show (σ.upd []).bx k=σ.bx k from rfl,hk]at hb;cases hb;exact⟨bV,by omega,ad,cap,hg,rfl⟩
     .simp at h
    .simp at h
   .simp at h
  .rename_i hh;split at h
   .rename_i e el xs f hk;split at h
    .rename_i bA;obtain⟨hd,_,te,cN,cX⟩:=pj hT ht bA;have bX:=ny hT cN cX;split at h
     .rename_i i j bF ez;have bV:=aR.nm hk;have hk:=aR.live hk;have hz:=hx.2.2 _ hk;split at h
      ·-- a uA: its head
       split at h
       .rename_i Pl;simp only[Option.isNone_iff_eq_none]at Pl;subst Pl;simp only[j4,j8,jb,jo]at h;obtain⟨⟨h0,h1⟩,rfl,rfl⟩:=h;obtain⟨css,aN,_⟩:=ia bV (hR.box k _ hk)
        have sF:VB 0 wG 0:=by
         cases wG with
         |none=>exact .inl ⟨rfl,rfl⟩
         |some v=>exact jJ.elim
        have wH:=wF ez lu h0
        obtain⟨ad,cap,hg,cL,Ym⟩:∃ad cap,γ k = .slice ad xs.length cap/\xs.length<=cap/\(if cap=0 then ad else ad.map (·.add (0*el.size)))=ad:=by
         rcases aN.2 with⟨hg,hn⟩|⟨g,cap,cur,hg,_,_,jG,_⟩
         .exact⟨none,0,by rw[hg,hn],by omega,rfl⟩
         .exact⟨_,cap,hg,jG,by simp[Addr.add_lit]⟩
        have aK:=zL (ad:=ad) (w:=w) hd (s:=el.size) (by rw[iO hT cN,bX]) sF wH (by omega) (show j.toNat<=cap by omega);rw[<-hg,Ym]at aK;subst hz;refine⟨_,S,γ,aK,hR,⟨hx.1,rfl,λb hb=>?_⟩,λ_=>rfl⟩;rw[show (σ.upd []).bx k=σ.bx k from rfl,hk]at hb;cases hb;exact⟨bV,by omega,ad,cap,hg,rfl⟩
       .simp at h
      rename_i mO;have mO:parK np k=false:=by simpa using mO
      split at h
      ·-- cut short
       rename_i eR;simp only[jb,Option.isNone_iff_eq_none,Bool.not_eq_eq_eq_not,jr]at eR;obtain⟨rfl,rfl⟩:=eR;split at h
       .rename_i iR;simp only[j4,j8,jb,jo]at h;obtain⟨⟨h0,h1⟩,rfl,rfl⟩:=h;have B6:=aY d iR;have rB:d≠k:=by rintro rfl;rw[B6]at hk;simp at hk
        obtain⟨css,aN,ao,hS⟩:=ia bV (hR.box k _ hk);have fj:=All2.all_len ao
        have sF:VB 0 wG 0:=by
         cases wG with
         |none=>exact .inl ⟨rfl,rfl⟩
         |some v=>exact jJ.elim
        have wH:=wF ez lu h0;have bu:=HS hR hk;have ry:(σ.setB k .gone).bx d = .free:=by rw[cD σ _ rB];exact B6
        have wI:j.toNat<=xs.length:=by omega
        have Yn:css.length=xs.length:=ao.length.symm
        have key:∃v',(Instr.sliceAt t vx wG B5 none).run P w = .ok v' w/\w.ownsRow 0 e el.size v' (List.take j.toNat xs).length (List.take j.toNat css).flatten/\blk v'=blk vx:=by
         rw[hz];have an:(List.take j.toNat xs).length=j.toNat:=by simp;omega
         rcases aN.2 with⟨hg,hn⟩|⟨g,cap,cur,hg,_,hh,jG,lh,dB,dS⟩
         .rw[hg];have Yo:j.toNat=0:=by omega
          refine⟨_,zL hd (s:=el.size) (len:=0) (by rw[iO hT cN,bX]) sF (by rw[hn]at wH;exact wH) (by omega) (by omega),?_,by simp;rfl⟩;rw[Yo];simpa using World.ownsRow_nil w 0 e el.size
         .rw[hg];refine⟨_,zL hd (s:=el.size) (by rw[iO hT cN,bX]) sF wH (by omega) (by omega),?_,?_⟩
          .refine⟨?_,.inr ⟨g,cap,cur,?_,kc _,hh,by omega,lh,dB,?_⟩⟩
           .rw[uy _ fj,qk,aN.1,an];exact vg (jv _ wI)
           .rw[an];by_cases hc:cap=0
            .simp[hc]
            .simp[hc,Addr.add_lit]
           .rw[an,uy _ fj,<-dS,zw,vg (jv _ wI)]
          .by_cases hc:cap=0
           .simp[hc];rfl
           .simp[hc,Addr.add_lit];rfl
        obtain⟨v',aK,cE,hblk⟩:=key
        have ma:∀g,blk v'=some g->w0.heap.size<=g/\(∀k' b,(σ.setB k .gone).bx k' = .live b->blk (γ k')≠some g)/\g<w.heap.size:=by
         intro g hg;rw[hblk,hz]at hg;refine⟨?_,λk' b' aM aw=>?_,lY (hR.box k _ hk) hg⟩
         .rcases hR.own k _ g hk hg with h|h
          .exact h
          .rw[mO]at h;simp at h
         .have bY:k'≠k:=by rintro rfl;rw[fX]at aM;simp at aM
          rw[cD σ _ bY]at aM;exact hR.apart k' k _ _ g bY aM hk aw hg
        obtain⟨dj,cT⟩:=EU bu ry (hm:=bV) (w':=w) (S':=S) (v':=v') (e:=e) (el:=el) (zs:=List.take j.toNat xs) (frz:=false) (css:=List.take j.toNat css) (.refl S w) (λg hg aZ=>rfl) (jj _) ma
         (λg o hs=> .inl hs) rfl rfl rfl cE (ao.take _) (λg hg=>⟨λ_=>(hS g (by rw[<-hz,<-hblk];exact hg)).1 rfl,by simp⟩) (λg hg=>hR.kw_live hk (by rw[<-hz,<-hblk];exact hg))
        exact⟨v',S,_,aK,dj,cT⟩
       .simp at h
      ·-- shared
       simp only[j4,j8,jb,jo]at h;obtain⟨⟨h0,h1,h2⟩,rfl,rfl⟩:=h;obtain⟨S',cU,aB,bq⟩:=HM hR bV hk mO;have jR:=bq;obtain⟨ad,cap,hv,hle,_⟩:=bq;simp at hv;rw[hv]at jR;refine⟨_,S',γ,by rw[hz,hv];exact zL hd (s:=el.size) (by rw[iO hT cN,bX]) (wF bF jJ h0) (wF ez lu (by omega)) (by omega) (by omega),cU,Pj jR (by omega) (by omega),λ_=>rfl⟩
     .simp at h
    .simp at h
   .simp at h
 .simp at h
theorem Pm(hR:Rel N np S0 w0 refs σ a w S γ){x:Leaf}{k i e:Nat}{el:Ty}{xs:List el.den}{f:Bool}{vx:Value}(h:ED x=some (k,i))(bV:isM e=false)(hk:σ.bx k = .live (.lst e el xs f))
  (hx:bO S w γ σ.bx x vx):i<=xs.length/\((xs.length=0/\vx = .slice none 0 0)\/
   ∃g cap,γ k = .slice (some ⟨g,0,none⟩) xs.length cap/\xs.length<=cap/\vx = .slice (some ⟨g,if cap=i then 0 else i*el.size,none⟩) (xs.length-i) (cap-i)):=by
 obtain⟨css,aN,ao,hS⟩:=ia bV (hR.box k _ hk);unfold ED at h;split at h
 .simp only[j4,j8]at h;obtain⟨rfl,rfl⟩:=h;have hz:=hx.2.2 _ hk;refine⟨kc _,?_⟩;rcases aN.2 with⟨hg,hn⟩|⟨g,cap,cur,hg,_,hh,jG,lh,dB,dS⟩
  .exact .inl ⟨hn,by rw[hz,hg]⟩
  .exact .inr ⟨g,cap,hg,jG,by rw[hz,hg];simp⟩
 .rename_i k' i';simp only[j4,j8]at h;obtain⟨rfl,rfl⟩:=h;obtain⟨_,hi,ad,cap,aw,hv⟩:=hx.2.2 _ hk;refine⟨hi,?_⟩;rcases aN.2 with⟨hg,hn⟩|⟨g,gH,cur,hg,_,hh,jG,lh,dB,dS⟩
  .rw[hg]at aw;simp only[Value.slice.injEq]at aw;obtain⟨rfl,_,rfl⟩:=aw;exact .inl ⟨hn,by rw[hv];simp;omega⟩
  .rw[hg]at aw;simp only[Value.slice.injEq,qh]at aw;obtain⟨rfl,rfl⟩:=aw;refine .inr ⟨g,gH,hg,jG,?_⟩;rw[hv];by_cases hc:gH=i'
   .rw[if_pos hc,if_pos hc]
   .rw[if_neg hc,if_neg hc];simp[Addr.add_lit]
 .simp at h
theorem Pn{P:Program}(hR:Rel N np S0 w0 refs σ a w S γ){k i e g cap:Nat}{el:Ty}{xs zs:List el.den}(hk:σ.bx k = .live (.lst e el xs false))(hg:γ k = .slice (some ⟨g,0,none⟩) xs.length cap)
  {cz:List (List Value)}(hz:All2 (λx c=>Rep S w el x c) zs cz)(hl:i+zs.length<=xs.length) :
  ∃w',(storeCells ⟨g,i*el.size,none⟩ cz.flatten).run P w = .ok () w'/\Rel N np S0 w0 refs (σ.setB k (.live (.lst e el (List.take i xs++(zs++List.drop (i+zs.length) xs)) false))) a w' S γ:=by
 have bV:=OH hg (hR.box k _ hk);obtain⟨css,aN,ao,hS⟩:=ia bV (hR.box k _ hk);have wJ:cz.flatten.length=zs.length*el.size:=All2.flatten_length (λx c hx=>Rep.length el x c hx) hz;have h1:∀u∈cz.flatten,One u:=by intro u hu;obtain⟨c,hc,BH⟩:=List.mem_flatten.1 hu;obtain⟨x,_,hx⟩:=hz.mem_right c hc;exact Rep.one el x c hx u BH
 rcases aN.2 with⟨aw,hn⟩|⟨g',gH,cur,aw,_,hh,jG,lh,dB,dS⟩
 .rw[hg]at aw;simp at aw
 rw[hg]at aw;simp only[Value.slice.injEq,j4,Addr.mk.injEq,and_true,qh]at aw;obtain⟨rfl,rfl⟩:=aw;have fF:i*el.size+zs.length*el.size<=xs.length*el.size:=by rw[<-Nat.add_mul];exact jv _ hl
 have jS:xs.length*el.size<=cap*el.size:=jv _ jG;have aB:=run_storeCells_at P g (i*el.size) e cz.flatten 0 cur w hh (by rw[wJ,dB];omega) h1;simp only[Nat.add_zero]at aB;refine⟨_,aB,?_⟩;have fj:=All2.all_len ao;have HZ:=All2.all_len hz;have uw:∀o,¬S g o:=(hS g (by rw[hg];rfl)).1 rfl;refine BU hR hk (by rw[hg];rfl) uw (b':= .lst e el _ false) ⟨rfl,rfl,λ_=>by simp;omega⟩ hh (λic db=>?_);have hlen:(List.take i xs++(zs++List.drop (i+zs.length) xs)).length=xs.length:=by simp;omega
 refine BJ bV ⟨css.take i++(cz++css.drop (i+zs.length)),⟨?_,.inr ⟨g,cap,_,?_,kc _,setRow_heap w g cur _ e (0,0) hh,by rw[hlen];exact jG,lh,?_,?_⟩⟩,?_,λg' aw=>?_⟩
 .rw[hlen,wy (m:=el.size)]
  .have:=ao.length;have:=hz.length;simp only[ja,qk,zf];congr 1;omega
  .intro d hd;simp only[jn]at hd;rcases hd with hd|hd|hd
   .exact fj d (qf hd)
   .exact HZ d hd
   .exact fj d (za hd)
 .rw[hlen];exact hg
 .simp only[zt,ja,qk,zf,qe];omega
 .rw[hlen];simp only[vb,uy i fj,ET _ fj,<-dS];have hA:(cur.toList.take (i*el.size)).length=i*el.size:=by simp;omega
  rw[jd,List.take_append,hA,List.take_of_length_le (by omega),zw,vg (by omega)];congr 1;rw[List.take_append,wJ,List.take_of_length_le (by omega),Nat.add_mul];congr 1;rw[List.drop_take];congr 1;omega
 .exact((ao.mono (λx c hx=>Rep.keep db _ _ _ hx)).take _).append ((hz.mono (λx c hx=>Rep.keep db _ _ _ hx)).append ((ao.mono (λx c hx=>Rep.keep db _ _ _ hx)).drop _))
 .rw[hg]at aw;simp[blk]at aw;subst aw;exact⟨λ_=>uw,by simp⟩
theorem jps{σ:St}{k:Nat}{b:BS}(h:σ.bx k=b):σ.setB k b=σ:=by
 unfold St.setB;congr 1;funext j;split
 .rename_i hj;subst hj;exact h.symm
 .rfl
theorem Yp{P:Program}{E:Env}(hT:cw P E.T)(hR:Rel N np S0 w0 refs σ a w S γ){rd:Nat->BS}(aR:RdOk σ rd){t ty:TypeId}{ti:TyI}(ht:E.T t=some ti)
  {x y l:Leaf}{u:Ups}{vx vy:Value}(h:yT rd ti.ty x y=some (l,u))(hx:bO S w γ σ.bx x vx)(hy:bO S w γ σ.bx y vy) :
  ∃v w',(Builtin.copy_ #[t,t] ty #[vx,vy]).run P w = .ok v w'/\Rel N np S0 w0 refs (σ.upd u) a w' S γ/\bJ S w' γ (σ.upd u).bx (.one l) v:=by
 unfold yT at h;split at h
 .rename_i k i B7;split at h
  .rename_i e el xs hk;split at h
   .rename_i bA;split at h
    .rename_i ys fZ;simp only[j4,j8]at h;obtain⟨rfl,rfl⟩:=h;have bV:=aR.nm hk;have hk:=aR.live hk;obtain⟨hd,bP,te,cN,cX⟩:=pj hT ht bA;have bX:=ny hT cN cX;have ew:(sizeOf ti.elem).run P w = .ok el.size w:=by rw[iO hT cN,bX]
     obtain⟨ad,c,cy,HU,fp,wC,cS⟩:=O6 hR aR fZ hy;subst HU;obtain⟨hi,cm⟩:=Pm hR B7 bV hk hx;have B8:=All2.all_len wC;have lx:cy.length=ys.length:=wC.length.symm;have l7:(List.take (xs.length-i) ys).length=min ys.length (xs.length-i):=by simp;omega
     have B9:over xs i ys=List.take i xs++(List.take (xs.length-i) ys++List.drop (i+(List.take (xs.length-i) ys).length) xs):=by
      unfold over;congr 2;rw[l7];by_cases h:ys.length<=xs.length-i
      .rw[vg h]
      .rw[Nat.min_eq_right (by omega),jf (by omega),jf (by omega)]
     have uB:(Builtin.firstCells el.size (min ys.length (xs.length-i)) (.slice ad ys.length c)).run P w = .ok (List.take (xs.length-i) cy).flatten.toArray w:=by
      cases ad with
      |none=>have h0:=(fp rfl).1;have:cy=[]:=jz (by omega);subst this;simp[Builtin.firstCells]
      |some b=>
       have e1:(List.take (xs.length-i) cy).flatten.length=min ys.length (xs.length-i)*el.size:=by rw[wy (m:=el.size) (λc hc=>B8 c (qf hc)),qk,lx,Nat.min_comm]
       have:=run_loadCells_list (P:=P) w b (List.take (xs.length-i) cy).flatten (λj v hj=>by
        rw[uy _ B8,ve]at hj;split at hj
        .exact cS b rfl j v hj
        .simp at hj)
       rw[e1]at this;simpa[Builtin.firstCells]using this
     have aK:∀base dl dc w',vx = .slice base dl dc->dl=xs.length-i->(base=none->w'=w)->(∀ab,base=some ab->(storeCells ab (List.take (xs.length-i) cy).flatten).run P w = .ok () w')->
       (Builtin.copy_ #[t,t] ty #[vx,.slice ad ys.length c]).run P w = .ok (goInt ((min ys.length (xs.length-i):Nat):Int)) w':=by
      intro base dl dc w' hv pC da eP;subst hv pC;have sG:Nat.min ys.length (xs.length-i)=min ys.length (xs.length-i):=rfl;cases base with
      |none=>simp[Builtin.copy_,run_underlying hd,Builtin.lenOf,ew,sG,uB,da rfl]
      |some ab=>simp[Builtin.copy_,run_underlying hd,Builtin.lenOf,ew,sG,uB,eP ab rfl]
     by_cases hn:min ys.length (xs.length-i)=0
     .have hz:List.take (xs.length-i) ys=[]:=jz (by rw[l7];exact hn);have gv:(List.take (xs.length-i) cy).flatten=[]:=by have:List.take (xs.length-i) cy=[]:=jz (by rw[qk,lx];omega);rw[this];rfl
      have H0:over xs i ys=xs:=by rw[B9,hz];simp
      refine⟨_,w,?_,?_,⟨rfl,λ_=>rfl⟩⟩
      .rcases cm with⟨h0,hv⟩|⟨g,cap,hg,cL,hv⟩
       .exact aK none 0 0 w hv (by omega) (λ_=>rfl) (λab bz=>by simp at bz)
       .refine aK _ _ _ w hv rfl (λ_=>rfl) (λab bz=>?_);rw[gv];rfl
      .show Rel N np S0 w0 refs (σ.setB k (.live (.lst e el (over xs i ys) false))) a w S γ;rw[H0,jps hk];exact hR
     .rcases cm with⟨h0,hv⟩|⟨g,cap,hg,cL,hv⟩
      .omega
      .have l5:cap≠i:=by omega
       rw[if_neg l5]at hv;obtain⟨w',aB,dj⟩:=Pn (P:=P) hR hk hg (i:=i) (wC.take (xs.length-i)) (by rw[l7];omega);refine⟨_,w',aK _ _ _ w' hv rfl (λh=>by simp at h) (λab bz=>?_),?_,⟨rfl,λ_=>rfl⟩⟩
       .simp only[j4]at bz;subst bz;exact aB
       .show Rel N np S0 w0 refs (σ.setB k (.live (.lst e el (over xs i ys) false))) a w' S γ;rw[B9];exact dj
    .simp at h
   .simp at h
  .simp at h
 .simp at h
theorem Yq{P:Program}{E:Env}(hT:cw P E.T)(hR:Rel N np S0 w0 refs σ a w S γ){rd:Nat->BS}(aR:RdOk σ rd){t ty:TypeId}{ti:TyI}(ht:E.T t=some ti)
  {x:Leaf}{u:Ups}{vx:Value}(h:yU rd ti.ty x=some u)(hx:bO S w γ σ.bx x vx) :
  ∃v w',(Builtin.clear_ #[t] ty #[vx]).run P w = .ok v w'/\Rel N np S0 w0 refs (σ.upd u) a w' S γ:=by
 unfold yU at h;split at h
 .rename_i k i B7;split at h
  .rename_i e el xs hk;split at h
   .rename_i bA;simp only[j4]at h;subst h;have bV:=aR.nm hk;have hk:=aR.live hk;obtain⟨hd,bP,te,cN,cX⟩:=pj hT ht bA;have bX:=ny hT cN cX;obtain⟨z,hz,gv⟩:=zD hT cN w cX;obtain⟨hi,cm⟩:=Pm hR B7 bV hk hx;by_cases hn:xs.length-i=0
    .have B9:List.take i xs++List.replicate (xs.length-i) el.dflt=xs:=by rw[hn];simp[List.take_of_length_le (show xs.length<=i by omega)]
     refine⟨.tuple #[],w,?_,?_⟩
     .rcases cm with⟨h0,hv⟩|⟨g,cap,hg,cL,hv⟩
      .simp[Builtin.clear_,run_underlying hd,hv]
      .rw[hn]at hv;simp[Builtin.clear_,run_underlying hd,hv]
     .show Rel N np S0 w0 refs (σ.setB k (.live (.lst e el (List.take i xs++List.replicate (xs.length-i) el.dflt) false))) a w S γ;rw[B9,jps hk];exact hR
    .rcases cm with⟨h0,hv⟩|⟨g,cap,hg,cL,hv⟩
     .omega
     .have l5:cap≠i:=by omega
      rw[if_neg l5]at hv
      have Po:All2 (λx c=>Rep S w el x c) (List.replicate (xs.length-i) el.dflt) (List.replicate (xs.length-i) (iA el)):=by
       have h0:=oJ (S:=S) (w:=w) el
       have:∀n,All2 (λx c=>Rep S w el x c) (List.replicate n el.dflt) (List.replicate n (iA el)):=by
        intro n;induction n with
        |zero=>exact trivial
        |succ n ih=>exact⟨h0,ih⟩
       exact this _
      obtain⟨w',aB,dj⟩:=Pn (P:=P) hR hk hg (i:=i) Po (by simp;omega);refine⟨.tuple #[],w',?_,?_⟩
      .have Yr:0<z.cells.size:=by have:=HV gv;omega
       have df:(Builtin.zeroCells z.cells (xs.length-i)).toList=(List.replicate (xs.length-i) (iA el)).flatten:=by rw[<-gv];exact Pa z.cells (xs.length-i) Yr
       rw[hv];obtain⟨m,hm⟩:∃m,xs.length-i=m+1:=⟨xs.length-i-1,by omega⟩;rw[hm]at df aB ⊢;simp[Builtin.clear_,run_underlying hd,hz,df,aB]
      .show Rel N np S0 w0 refs (σ.setB k (.live (.lst e el (List.take i xs++List.replicate (xs.length-i) el.dflt) false))) a w' S γ;have:List.drop (i+(List.replicate (xs.length-i) el.dflt).length) xs=[]:=jf (by simp;omega);rw[this,kb]at dj;exact dj
   .simp at h
  .simp at h
 .simp at h
theorem Ys(hR:Rel N np S0 w0 refs σ a w S γ){k d e m:Nat}{el:Ty}{xs:List el.den}(hk:σ.bx k = .live (.lst e el xs false))(mO:parK np k=false)(B6:σ.bx d = .free){ad:Option Addr}{cap:Nat}(hm:m<=xs.length)
  (hg:γ k = .slice ad xs.length cap) :
  ∃γ',Rel N np S0 w0 refs (σ.upd [(k,.gone),(d,.live (.lst e el (List.take m xs) false))]) a w S γ'/\bJ S w γ' (σ.upd [(k,.gone),(d,.live (.lst e el (List.take m xs) false))]).bx (.one (.ol d)) (.slice ad m cap):=by
 have rB:d≠k:=by rintro rfl;rw[B6]at hk;simp at hk
 have bV:=OH hg (hR.box k _ hk);obtain⟨css,aN,ao,hS⟩:=ia bV (hR.box k _ hk);have fj:=All2.all_len ao;have bu:=HS hR hk;have ry:(σ.setB k .gone).bx d = .free:=by rw[cD σ _ rB];exact B6
 have an:(List.take m xs).length=m:=by simp;omega
 have hblk:blk (.slice ad m cap)=blk (γ k):=by rw[hg];cases ad<;>rfl
 have cE:w.ownsRow 0 e el.size (.slice ad m cap) (List.take m xs).length (List.take m css).flatten:=by
  refine⟨?_,?_⟩
  .rw[uy _ fj,qk,aN.1,an];exact vg (jv _ hm)
  .rcases aN.2 with⟨aw,hn⟩|⟨g,gH,cur,aw,_,hh,jG,lh,dB,dS⟩
   .rw[hg]at aw;simp only[Value.slice.injEq]at aw;obtain⟨rfl,_,rfl⟩:=aw;exact .inl ⟨by rw[show m=0 by omega],by omega⟩
   .rw[hg]at aw;simp only[Value.slice.injEq,qh]at aw;obtain⟨rfl,rfl⟩:=aw;refine .inr ⟨g,cap,cur,by rw[an],kc _,hh,by omega,lh,dB,?_⟩;rw[an,uy _ fj,<-dS,zw,vg (jv _ hm)]
 have ma:∀g,blk (.slice ad m cap)=some g->w0.heap.size<=g/\(∀k' b,(σ.setB k .gone).bx k' = .live b->blk (γ k')≠some g)/\g<w.heap.size:=by
  intro g hg;rw[hblk]at hg;refine⟨?_,λk' b' aM aw=>?_,lY (hR.box k _ hk) hg⟩
  .rcases hR.own k _ g hk hg with h|h
   .exact h
   .rw[mO]at h;simp at h
  .have bY:k'≠k:=by rintro rfl;rw[fX]at aM;simp at aM
   rw[cD σ _ bY]at aM;exact hR.apart k' k _ _ g bY aM hk aw hg
 obtain⟨dj,cT⟩:=EU bu ry (hm:=bV) (w':=w) (S':=S) (v':= .slice ad m cap) (e:=e) (el:=el) (zs:=List.take m xs) (frz:=false) (css:=List.take m css) (.refl S w) (λg hg aZ=>rfl) (jj _) ma
  (λg o hs=> .inl hs) rfl rfl rfl cE (ao.take _) (λg hg=>⟨λ_=>(hS g (by rw[<-hblk];exact hg)).1 rfl,by simp⟩) (λg hg=>hR.kw_live hk (by rw[<-hblk];exact hg))
 exact⟨_,dj,cT⟩
end
section
variable{N:NT}{np:Nat}{S0:aD}{w0:World}{refs:Refs}{σ:St}{a:Go.Act}{w:World}{S:aD}{γ:Nat->Value}
theorem Yt{el:Ty}{z:Value}(hz:z.cells.toList=iA el)(n:Nat)(bP:0<el.size) :
  ∃css,All2 (λx c=>Rep S w el x c) (List.replicate n el.dflt) css/\((Array.range (n*z.cells.size)).map (λi=>z.cells[i%z.cells.size]!)).toList=css.flatten:=by
 refine⟨List.replicate n (iA el),?_,?_⟩
 .have hz:=oJ (S:=S) (w:=w) el;induction n with
  |zero=>exact trivial
  |succ n ih=>exact⟨hz,ih⟩
 .rw[Pa z.cells n (by rw[HV hz];exact bP),hz]
theorem Yu{P:Program}{E:Env}(hT:cw P E.T)(hR:Rel N np S0 w0 refs σ a w S γ){rdf:Nat->BS}(bC:RdF np σ rdf){t:TypeId}{ti:TyI}(ht:E.T t=some ti)
  {el:Ty}(bA:ti.ty=some (.list el)){len d:Nat}{ps:List (Nat×Cel)}{vs:Array (Nat×Value)}{xs:List el.den}{u:Ups}(hlen:len*el.size<=16777216)
  (gC:All2 (λp v=>p.1=v.1/\bJ S w γ σ.bx p.2 v.2) ps vs.toList)(h:ix rdf el (List.replicate len el.dflt) [] ps=some (xs,u))(hd:σ.bx d = .free) :
  ∃v' w' S' γ',(Instr.buildSlice t len vs).run P w = .ok v' w'/\Rel N np S0 w0 refs (σ.upd (u++[(d,.live (.lst ti.elem el xs false))])) a w' S' γ'/\
   bJ S' w' γ' (σ.upd (u++[(d,.live (.lst ti.elem el xs false))])).bx (.one (.ol d)) v':=by
 obtain⟨nC,bP,te,cN,cX⟩:=pj hT ht bA;have bX:=ny hT cN cX;obtain⟨hf,cK⟩:=HX bC bP ps vs.toList gC h .nil;obtain⟨S1,bu,ct,dE,dF⟩:=nD u σ S hR hf;obtain⟨z,hz,gv⟩:=zD hT cN w cX;have mN:z.cells.size=el.size:=HV gv;obtain⟨H2,Ca,mL⟩:=Yt (S:=S1) (w:=w) gv len bP;obtain⟨bh,iU,fJ,ao,df⟩:=cK S1 ct dE H2 _ Ca mL
 have mQ:xs.length=len:=by
  have key:∀(ps:List (Nat×Cel)){xs cB:List el.den}{u u':Ups},ix rdf el xs u ps=some (cB,u')->cB.length=xs.length:=by
   intro ps;induction ps with
   |nil=>intro xs cB u u' h;simp[ix]at h;rw[h.1]
   |cons p ps ih=>
    intro xs cB u u' h;obtain⟨i,c⟩:=p;simp only[ix]at h;split at h
    .split at h
     .rw[ih h];simp
     .simp at h
    .simp at h
  rw[key ps h];simp
 have dB:bh.size=len*el.size:=by have:=All2.flatten_length (λx c hx=>Rep.length el x c hx) ao;rw[<-df,mQ]at this;simpa using this
 have hzero:(if len*ti.size=0 then (Pure.pure #[]:Sem (Array Value)) else (do pure (<-zeroValue ti.elem).cells))=(if len*ti.size=0 then Pure.pure #[] else (do pure (<-zeroValue ti.elem).cells)):=rfl
 have aK:(Instr.buildSlice t len vs).run P w = .ok (.slice (some ⟨w.heap.size,0,none⟩) len len) (w.alloc (.cells bh ti.elem)):=by
  have dI:¬len*te.size>2^24:=by rw[<-bX];omega
  simp only[Instr.buildSlice,Sem.run_bind,run_underlying nC,Result.andThen_ok,iO hT cN,Sem.run_ite,if_neg dI];by_cases h0:len*te.size=0
  .have sC:len=0:=by
    rw[<-bX]at h0;rcases Nat.mul_eq_zero.1 h0 with h|h
    .exact h
    .omega
   subst sC
   have pD:Instr.fill (λi=>some (i*te.size,te.size)) ((Array.range (0*te.size)).map (λi=>(#[]:Array Value)[i%(#[]:Array Value).size]!)) vs.toList=some bh:=by
    rw[<-bX];have:((Array.range (0*el.size)).map (λi=>(#[]:Array Value)[i%(#[]:Array Value).size]!))=((Array.range (0*z.cells.size)).map (λi=>z.cells[i%z.cells.size]!)):=by apply qo;simp
    rw[this];exact fJ
   rw[Nat.zero_mul]at pD;simp only[h0,if_true,Sem.run_pure,Result.andThen_ok,pD,Sem.run_bind,newRow,run_newObj,World.alloc_eq]
  .have wK:Instr.fill (λi=>some (i*te.size,te.size)) ((Array.range (len*te.size)).map (λi=>z.cells[i%z.cells.size]!)) vs.toList=some bh:=by rw[<-bX];rw[mN]at fJ ⊢;exact fJ
   simp only[h0,qz,Sem.run_bind,hz,Sem.run_pure,Result.andThen_ok,wK,newRow,run_newObj,World.alloc_eq]
 rw[jQ];have aB:=zJ bu (.cells bh ti.elem)
 obtain⟨dj,cT⟩:=EU bu (dF.free hd) (hm:=Hz hT ht) (w':=w.alloc (.cells bh ti.elem)) (S':=S1) (v':= .slice (some ⟨w.heap.size,0,none⟩) len len) (e:=ti.elem) (el:=el) (zs:=xs) (frz:=false) (css:=iU)
  aB (λg hg _=>heap_alloc_old w _ hg) (by simp) (λg hg=>by
   simp[blk]at hg;subst hg;exact⟨hR.grow,λk b hk aw=>by have:=lY (bu.box k b hk) aw;omega,by simp⟩) (λg o hs=> .inl hs) rfl rfl rfl
  (by
   rw[mQ,<-df];have hle:len<=maxLen:=by have:len*1<=len*el.size:=Nat.mul_le_mul_left _ bP;simp only[maxLen];omega
   exact World.ownsRow_lit w bh len (kc _) hle dB) (ao.mono (λx c hx=>Rep.keep aB _ _ _ hx)) (λg hg=>by
   simp[blk]at hg;subst hg;exact⟨λ_ o=>EN bu o,by simp⟩) (λg hg=>by simp[blk]at hg;subst hg;exact bu.kw_new (jj _))
 exact⟨_,_,S1,_,aK,dj,cT⟩
theorem zM{rd:Nat->BS}(aR:RdF np σ rd):∀{ls:List Leaf}{xs:List TV}{u:Ups}{zs:List Value},tvs rd ls=some (xs,u)->All2 (bO S w γ σ.bx) ls zs->
  FrzL np σ.bx u/\∀S' w',cW S w S' w'->Froz σ.bx γ S' w' u->All2 (λx z=>Rep S' w' x.t x.v [z]) xs zs
 |[],xs,u,zs,h,ha=>by
  simp[tvs]at h;obtain⟨rfl,rfl⟩:=h;cases zs with
  |nil=>exact⟨.nil,λ_ _ _ _=>trivial⟩
  |cons _ _=>exact ha.elim
 |l::ls,xs,u,zs,h,ha=>by
  cases zs with
  |nil=>exact ha.elim
  |cons z zs=>
   simp only[tvs]at h;split at h
   .rename_i E4 u1 h1;obtain⟨f1,p1⟩:=zM aR h1 ha.2;split at h
    .rename_i t v;simp only[j4,j8]at h;obtain⟨rfl,rfl⟩:=h;exact⟨f1,λS' w' hk hf=>⟨Rep.keep hk _ _ _ ha.1,p1 S' w' hk hf⟩⟩
    .rename_i k;split at h
     .rename_i e t es f hk;simp only[j4,j8]at h;obtain⟨rfl,rfl⟩:=h;have bg:=aR.ok.live hk;refine⟨λx hx=>?_,λS' w' aB hf=>⟨?_,p1 S' w' aB (λx hx=>hf x (zu _ hx))⟩⟩
      .rcases je.1 hx with rfl|hx
       .exact⟨aR.par hk,e,t,es,f,bg,rfl,aR.ok.nm hk⟩
       .exact f1 x hx
      .have:=hf (k,_) (qt ..) e t es f bg;rw[ha.1.2.2 _ bg];exact this
     .simp at h
    .simp at h
   .simp at h
theorem Yv(hR:Rel N np S0 w0 refs σ a w S γ){k:Nat}{ls:List Leaf}{f:Bool}(hk:σ.bx k = .live (.cell ls f))(hp:parK np k=false){xs:List TV}
  (hx:∀g cur e,γ k = .pointer (some ⟨g,0,none⟩)->w.heap[g]? = some (.cells cur e (0,0))->All2 (bO S w γ σ.bx) ls cur.toList->All2 (λx z=>Rep S w x.t x.v [z]) xs cur.toList) :
  ∃S' g,Rel N np S0 w0 refs (σ.setB k (.live (.cell (xs.map TV.leaf) true))) a w S' γ/\cW S w S' w/\γ k = .pointer (some ⟨g,0,none⟩)/\h9 S' w (.p xs) (.pointer (some ⟨g,0,none⟩)):=by
 obtain⟨g,cur,e,hg,hh,er,h1,O2,Pp⟩:=hR.box k _ hk;have fS:=hx g cur e hg hh er;let S':aD:=λg' o=>S g' o\/(g'=g/\o<cur.size)
 have aB:cW S w S' w:=λg o h=>⟨.inl h,rfl⟩
 have hle:BxLe γ σ.bx γ (σ.setB k (.live (.cell (xs.map TV.leaf) true))).bx:=by
  intro k' bg;by_cases bY:k'=k
  .subst bY;rw[fX];exact⟨by simp,rfl,λb hb=>by simp at hb;subst hb;exact⟨_,hk,trivial⟩⟩
  .rw[cD σ _ bY];exact⟨bg,rfl,λb hb=>⟨b,hb,.refl b⟩⟩
 have bt:∀k' b,(σ.setB k (.live (.cell (xs.map TV.leaf) true))).bx k' = .live b->∃b',σ.bx k' = .live b':=by
  intro k' b hb;by_cases bY:k'=k
  .subst bY;exact⟨_,hk⟩
  .rw[cD σ _ bY]at hb;exact⟨b,hb⟩
 refine⟨S',g,Rel.step (bx':=(σ.setB k (.live (.cell (xs.map TV.leaf) true))).bx) hR aB hle ?_ ?_ ?_ ?_ ?_ hR.below hR.grow hR.os hR.tape hR.output (λg _ _ h=>⟨rfl,λk' b' aM=>by obtain⟨b2,eP⟩:=bt k' b' aM;exact h k' b2 eP⟩),aB,hg,?_⟩
 .intro k' b hb;by_cases bY:k'=k
  .subst bY;rw[fX]at hb;simp at hb;subst hb;exact⟨g,cur,e,hg,hh,rv (fS.mono (λx z hz=>Rep.keep aB _ _ _ hz)),h1,by simp,λ_ o ho=> .inr ⟨rfl,ho⟩⟩
  .rw[cD σ _ bY]at hb;refine ei.keep aB hle rfl (λg' aw=>⟨rfl,λo=>⟨λhs=>?_,.inl⟩⟩) (hR.box k' b hb);rcases hs with hs|hs
   .exact hs
   .exact absurd (by rw[hg,hs.1];rfl) (hR.apart k' k b _ g' bY hb hk aw)
 .intro k' b g' hb aw;obtain⟨b',aM⟩:=bt k' b hb;exact hR.own k' b' g' aM aw
 .intro k1 k2 b1 b2 g' aZ h1 h2 aw;obtain⟨se,jP⟩:=bt k1 b1 h1;obtain⟨sf,jH⟩:=bt k2 b2 h2;exact hR.apart k1 k2 se sf g' aZ jP jH aw
 .intro g' o hs;rcases hs with hs|hs
  .exact hR.new g' o hs
  .rcases hR.own k _ g hk (by rw[hg];rfl) with h|h
   .exact .inr (by omega)
   .rw[hp]at h;simp at h
 .intro g' o hs;rcases hs with hs|hs
  .exact hR.here g' o hs
  .rw[hs.1];exact(jk.1 hh).1
 .refine⟨g,0,cur.toList,rfl,fS.mono (λx z hz=>Rep.keep aB _ _ _ hz),λj v hv=>?_⟩;have hj:j<cur.size:=by simpa using (ju.1 hv).1
  rw[kf];refine⟨.inr ⟨rfl,hj⟩,?_⟩;rw[cell_of_row w g j cur e (0,0) hh];simpa using hv
theorem Pq{rd:Nat->BS}(aR:RdF np σ rd):∀{cs:List Cel}{l:List Cap}{u:Ups}{zs:List Value},ua rd cs=some (l,u)->Rel N np S0 w0 refs σ a w S γ->All2 (bJ S w γ σ.bx) cs zs->
  ∃S',Rel N np S0 w0 refs (σ.upd u) a w S' γ/\cW S w S' w/\All2 (h9 S' w) l zs/\(∀k e t xs f,σ.bx k = .live (.lst e t xs f)->∃f',(σ.upd u).bx k = .live (.lst e t xs f'))/\BxLe γ σ.bx γ (σ.upd u).bx/\∀k,σ.bx k = .free->(σ.upd u).bx k = .free
 |[],l,u,zs,h,hR,ha=>by
  simp[ua]at h;obtain⟨rfl,rfl⟩:=h;cases zs with
  |nil=>exact⟨S,hR,.refl S w,trivial,λk e t xs f h=>⟨f,h⟩,.refl _ _,λ_ h=>h⟩
  |cons _ _=>exact ha.elim
 |c::r,l,u,zs,h,hR,ha=>by
  cases zs with
  |nil=>exact ha.elim
  |cons z zs=>
   simp only[ua]at h;split at h
   .rename_i l1 u1 h1;obtain⟨S1,bu,ct,gu,mM,mb,Cb⟩:=Pq aR h1 hR ha.2;split at h
    .rename_i t v;split at h
     .rename_i eR;simp only[j4,j8]at h;obtain⟨rfl,rfl⟩:=h;exact⟨S1,bu,ct,⟨⟨eR,Rep.keep ct _ _ _ ha.1.1⟩,gu⟩,mM,mb,Cb⟩
     .simp at h
    .rename_i k;split at h
     .rename_i ls f hk;split at h
      .rename_i xs u2 h2;split at h
       .simp at h
       .rename_i pE;simp only[j4,j8]at h;obtain⟨rfl,rfl⟩:=h;have mO:=aR.par hk;have hk:=aR.ok.live hk;have pE:(u1++u2).any (λy=>y.1==k)=false:=zb.2 pE;rw[List.any_append,Bool.or_eq_false_iff]at pE;obtain⟨g,cur,e,hg,hh,er,_⟩:=hR.box k _ hk;obtain⟨wv,uj⟩:=zM aR h2 er;have H3:FrzL np (σ.upd u1).bx u2:=by intro x hx;obtain⟨wL,e',t',cB,f',aM,gJ⟩:=wv x hx;obtain⟨f2,h2⟩:=mM _ e' t' cB f' aM;exact⟨wL,e',t',cB,f2,h2,gJ⟩
        obtain⟨S2,cO,db,pF,mc⟩:=nD u2 (σ.upd u1) S1 bu H3;have Cc:Froz σ.bx γ S2 w u2:=by intro x hx e' t' cB f' aM;obtain⟨f2,h2⟩:=mM _ e' t' cB f' aM;exact pF x hx e' t' cB f2 h2
        have gl:((σ.upd u1).upd u2).bx k = .live (.cell ls f):=by rw[lZ u2 _ pE.2,lZ u1 _ pE.1,hk]
        obtain⟨S3,g3,gD,Cd,H4,cL⟩:=Yv cO gl mO (xs:=xs) (λg' ie e' aw BO _=>by
         rw[hg]at aw;simp at aw;subst aw;rw[hh]at BO;simp at BO;obtain⟨rfl,_⟩:=BO;exact uj S2 w (ct.trans db) Cc)
        have hz:z=γ k:=by obtain⟨g4,h4,h5⟩:=ha.1.1.2.2 _ hk;rw[h5,h4]
        rw[jQ,jQ];refine⟨S3,gD,(ct.trans db).trans Cd,⟨by rw[hz,H4];exact cL,gu.mono (λx z hx=>h9.keep (db.trans Cd) hx)⟩,λk' e' t' cB f' aM=>?_,?_,λk' bg=>?_⟩
        .obtain⟨f2,h2⟩:=mM _ e' t' cB f' aM;obtain⟨f3,h3⟩:=mc.lst h2;have bY:k'≠k:=by rintro rfl;rw[gl]at h3;simp at h3
         exact⟨f3,by show (((σ.upd u1).upd u2).setB k _).bx k'=_;rw[cD _ _ bY];exact h3⟩
        .have ic:BxLe γ (σ.upd u1).bx γ ((σ.upd u1).upd u2).bx:=mc.le
         have H5:BxLe γ ((σ.upd u1).upd u2).bx γ ((((σ.upd u1).upd u2)).setB k (.live (.cell (xs.map TV.leaf) true))).bx:=by
          intro k' bg;by_cases bY:k'=k
          .subst bY;rw[fX];exact⟨by simp,rfl,λb hb=>by simp at hb;subst hb;exact⟨_,gl,trivial⟩⟩
          .rw[cD _ _ bY];exact⟨bg,rfl,λb hb=>⟨b,hb,.refl b⟩⟩
         have tr:∀{b1 b2 b3:Nat->BS},BxLe γ b1 γ b2->BxLe γ b2 γ b3->BxLe γ b1 γ b3:=by intro b1 b2 b3 wM Yw k' bg;obtain⟨q1,q2,q3⟩:=wM k' bg;obtain⟨r1,r2,r3⟩:=Yw k' q1;refine⟨r1,rfl,λb hb=>?_⟩;obtain⟨b',aM,dp⟩:=r3 b hb;obtain⟨Ce,pG,pH⟩:=q3 b' aM;refine⟨Ce,pG,?_⟩;exact pH.trans dp
         exact tr (tr mb ic) H5
        .have h3:=mc.free (Cb k' bg);have bY:k'≠k:=by rintro rfl;rw[hk]at bg;simp at bg
         show (((σ.upd u1).upd u2).setB k _).bx k'=_;rw[cD _ _ bY];exact h3
      .simp at h
     .simp at h
    .simp at h
   .simp at h
theorem Pr:∀{cs:List Cel}{ks:List Nat}{zs:List Value},Bt cs=some ks->All2 (bJ S w γ σ.bx) cs zs->All2 (BI γ σ.bx) ks zs
 |[],ks,zs,h,ha=>by
  simp[Bt]at h;subst h;cases zs with
  |nil=>trivial
  |cons _ _=>exact ha.elim
 |c::r,ks,zs,h,ha=>by
  cases zs with
  |nil=>exact ha.elim
  |cons z zs=>
   unfold Bt at h;split at h
   .rename_i h0;simp at h0
   .rename_i k r' h0;simp only[List.cons.injEq]at h0;obtain⟨rfl,rfl⟩:=h0;split at h
    .rename_i Hv hk;simp only[j4]at h;subst h;obtain⟨⟨h1,h2,h3⟩,_⟩:=ha.1;exact⟨⟨h1,h2,h3⟩,Pr hk ha.2⟩
    .simp at h
   .simp at h
theorem Ps:∀{ks:List Nat}{zs:List Value},All2 (BI γ σ.bx) ks zs->All2 (bJ S w γ σ.bx) (ks.map λk=> .one (.bp k 0)) zs
 |[],[],_=>trivial
 |k::ks,z::zs,h=>⟨⟨h.1,λ_=>h.1.2.1⟩,Ps h.2⟩
 |[],_::_,h=>h.elim
 |_::_,[],h=>h.elim
end
section
variable(S:aD)(w:World)
def Cf(ls:List TV)(u:Value):Prop:=
 ∃g cur e,u = .pointer (some ⟨g,0,none⟩)/\w.heap[g]? = some (.cells cur e (0,0))/\All2 (λx z=>Rep S w x.t x.v [z]) ls cur.toList/\∀o,¬S g o
def wN(e:Nat)(x:TV)(u:Value):Prop:=
 ∃(a:Ty)(xs:List a.den),x=⟨.list a,xs⟩/\ph S w e a xs u/\∀g,blk u=some g->∀o,¬S g o
def mR:Arg->Value->Prop
 |.v x,u=>VRep S w x u
 |.ref ls,u=>Cf S w ls u
 |.rl e x,u=>wN S w e x u
 |.ip ls,u=>∃g o cs,u = .pointer (some ⟨g,o,none⟩)/\All2 (λx z=>Rep S w x.t x.v [z]) ls cs/\Lies S w g o cs
 |.clo f caps,u=>∃cv:Array Value,u = .func (.func f) #[] cv/\All2 (h9 S w) caps cv.toList
def lz:Arg->Value->Option Nat
 |.ref _,u=>blk u
 |.rl _ _,u=>blk u
 |_,_=>none
def dU:List Arg->List Value->List Nat
 |a::as,u::us=>(lz a u).toList++dU as us
 |_,_=>[]
def E5:RL->Value->Prop
 |.d x,z=>One z/\Rep S w x.t x.v [z]
 |.own e x,z=>wN S w e x z
def oK:RV->Value->Prop
 |.v x,u=>VRep S w x u
 |.own e x,u=>wN S w e x u
 |.box ls,u=>Cf S w ls u
 |.hd _,u=>One u
 |.clo f caps,u=>∃cv:Array Value,u = .func (.func f) #[] cv/\All2 (h9 S w) caps cv.toList
 |.so ls,u=>∃cs:Array Value,u = .agg cs/\All2 (E5 S w) ls cs.toList
 |.vn x ns,u=>VRep S w x u/\∀cs,u = .agg cs->∀i∈ns,∀z,cs.toList[i]? = some z->z = .slice none 0 0
def mS:RV->Value->Option Nat
 |.v _,_=>none
 |.hd _,_=>none
 |.vn _ _,_=>none
 |.clo _ _,_=>none
 |.so _,_=>none
 |_,u=>blk u
def mT:List RL->List Value->List Nat
 |.own _ _::ls,z::zs=>(blk z).toList++mT ls zs
 |.d _::ls,_::zs=>mT ls zs
 |_,_=>[]
def jT:RV->Value->List Nat
 |.so ls,u=>mT ls u.cells.toList
 |r,u=>(mS r u).toList
def fq:List RV->List Value->List Nat
 |r::rs,u::us=>jT r u++fq rs us
 |_,_=>[]
def lF:List Arg->List Value->List Out->Prop
 |[],[],[]=>True
 |.ref _::as,u::us,.ref ys::os=>Cf S w ys u/\lF as us os
 |.rl e x::as,u::us,.rl y::os=>wN S w e y u/\y.t=x.t/\lF as us os
 |.v _::as,_::us,os=>lF as us os
 |.ip _::as,_::us,os=>lF as us os
 |.clo _ _::as,_::us,os=>lF as us os
 |_,_,_=>False
end
def rD(vs:List Value):Value:=match vs with
 |[v]=>v
 |vs=> .tuple vs.toArray
def E6:List Arg->List Value->Option Value
 |.ref _::_,u::_=>some u
 |.rl _ _::_,u::_=>some u
 |_::as,_::us=>E6 as us
 |_,_=>none
structure H6(w:World)(S:aD)(args:List Arg)(vals:List Value)(ret:Ret)(v:Value)(w':World)(S':aD)(vs:List Value):Prop where
 val:v=rD vs
 rep:All2 (oK S' w') ret.vals vs
 fresh:∀g∈fq ret.vals vs,w.heap.size<=g
 apart:(fq ret.vals vs).Nodup
 outs:lF S' w' args vals ret.outs
 stays:cW S w S' w'
 new:∀g o,S' g o->S g o\/w.heap.size<=g
 here:∀g o,S' g o->g<w'.heap.size
 below:∀g,g<w.heap.size->g∉dU args vals->w'.heap[g]? = w.heap[g]?
 grow:w.heap.size<=w'.heap.size
 os:w'.os=w.os
 tape:w'.tape=w.tape
 output:w'.output=w.output
 head:∀m,ret.vals=[.hd m]->∃ad len cap,E6 args vals=some (.slice ad len cap)/\m<=len/\vs=[.slice ad m cap]
def E7(P:Program)(f:Nat)(args:List Arg)(K:Ret->Prop):Prop:=
 ∀(w:World)(S:aD)(vals:List Value),All2 (mR S w) args vals->(dU args vals).Nodup->(∀g o,S g o->g<w.heap.size)->
  Calls P f vals.toArray w λe w'=>∃ret,K ret/\∃v S' vs,e = .returned v/\H6 w S args vals ret v w' S' vs
def Fun(P:Program)(f:Nat):Prop:=
 ∃ fn, P.funcs[f]? = some fn ∧ fn.body.isNone = false ∧ (fn.name == "runtime.NumGoroutine") = false
def FnOK(P:Program)(f:Nat)(c:List Arg->(R:Type)->(Ret->Option R)->Option R):Prop:=
 ∀(args:List Arg)(R:Type)(k:Ret->Option R)(r:R),c args R k=some r->Fun P f/\E7 P f args λret=>k ret=some r
def lG(P:Program)(C:Nat->List Arg->(R:Type)->(Ret->Option R)->Option R):Prop:=∀f,FnOK P f (C f)
section
variable{N:NT}{np:Nat}{S0:aD}{w0:World}{refs:Refs}{σ:St}{a:Go.Act}{w:World}{S:aD}{γ:Nat->Value}
theorem sH{S':aD}{w':World}:∀(t:Ty)(v:t.den)(cs:List Value),t.flat=true->Rep S w t v cs->Rep S' w' t v cs
 |.int _,_,_,_,h=>h
 |.bool,_,_,_,h=>h
 |.str,_,_,_,h=>h
 |.unit,_,_,_,h=>h
 |.wrap a,v,cs,hf,h=>sH a v cs hf h
 |.pair a b,_,_,hf,⟨c1,c2,e,h1,h2⟩=>by
  simp only[Ty.flat,jb]at hf;exact⟨c1,c2,e,sH a _ _ hf.1 h1,sH b _ _ hf.2 h2⟩
 |.list _,_,_,hf,_=>by simp[Ty.flat]at hf
 |.arr _ a,_,_,hf,⟨hn,css,ha,e⟩=>⟨hn,css,ha.mono (λx c hx=>sH a x c hf hx),e⟩
def gf(bx:Nat->BS)(γ:Nat->Value):List Arg->List Value->List Bk->Prop
 |[],[],[]=>True
 |.ref ls::as,u::us,.ref k::fs=>u=γ k/\(∃fR,bx k = .live (.cell fR false))/\gf bx γ as us fs
 |.rl e x::as,u::us,.rl k e' t::fs=>e=e'/\u=γ k/\(∃xs,bx k = .live (.lst e t xs false)/\x=⟨.list t,xs⟩)/\gf bx γ as us fs
 |.v _::as,_::us,fs=>gf bx γ as us fs
 |.ip _::as,_::us,fs=>gf bx γ as us fs
 |.clo _ _::as,_::us,fs=>gf bx γ as us fs
 |_,_,_=>False
theorem Yx{rd rdf:Nat->BS}(hR:Rel N np S0 w0 refs σ a w S γ)(aR:RdR σ rd)(bC:RdF np σ rdf){t:Option TyI}{rl:Bool}{c:Cel}{arg:Arg}{u:Ups}{f:Option Bk}{z:Value}
  (h:yV rd rdf t rl c=some (arg,u,f))(hc:bJ S w γ σ.bx c z) :
  FrzL np σ.bx u/\gf σ.bx γ [arg] [z] f.toList/\∀S',cW S w S' w->Froz σ.bx γ S' w u->(∀k b,f.toList.any (λy=>y.name==k)=true->σ.bx k = .live b->∀g,blk (γ k)=some g->∀o,¬S' g o)->mR S' w arg z:=by
 unfold yV at h;split at h
 .rename_i k;split at h
  .rename_i ls hk;split at h
   .rename_i xs u1 h1;simp only[j4,j8]at h;obtain⟨rfl,rfl,rfl⟩:=h;have hk:=aR.live hk;obtain⟨g,hg,hz⟩:=hc.1.2.2 _ hk;obtain⟨g',cur,e,aw,hh,er,_,_,hS⟩:=hR.box k _ hk;rw[hg]at aw;simp at aw;subst aw;obtain⟨hf,hp⟩:=zM bC h1 er;refine⟨hf,trivial,λS' aB dE _=>⟨g,0,cur.toList,hz,hp S' w aB dE,λj v hv=>?_⟩⟩;have hj:j<cur.size:=by simpa using (ju.1 hv).1
    rw[kf];refine⟨(aB _ _ (hS rfl j hj)).1,?_⟩;rw[cell_of_row w g j cur e (0,0) hh];simpa using hv
   .simp at h
  .rename_i ls hk;split at h
   .rename_i xs u1 h1;simp only[j4,j8]at h;obtain⟨rfl,rfl,rfl⟩:=h;have hk:=aR.live hk;obtain⟨g,hg,hz⟩:=hc.1.2.2 _ hk;obtain⟨g',cur,e,aw,hh,er,_⟩:=hR.box k _ hk;rw[hg]at aw;simp at aw;subst aw;obtain⟨hf,hp⟩:=zM bC h1 er;refine⟨hf,⟨hz.trans hg.symm,⟨ls,hk⟩,trivial⟩,λS' aB dE hn=>⟨g,cur,e,hz,hh,hp S' w aB dE,?_⟩⟩;exact hn k _ (by simp[Bk.name]) hk g (by rw[hg];rfl)
   .simp at h
  .simp at h
 .simp only[j4,j8]at h;obtain⟨rfl,rfl,rfl⟩:=h;refine⟨.nil,trivial,λS' aB _ _=>?_⟩;obtain⟨g,o,cs,hz,ha,hl⟩:=hc.1;exact⟨g,o,cs,hz,ha.mono (λx z hx=>Rep.keep aB _ _ _ hx),hl.keep aB⟩
 .simp only[j4,j8]at h;obtain⟨rfl,rfl,rfl⟩:=h;refine⟨.nil,trivial,λS' aB _ _=>?_⟩;obtain⟨cv,hz,ha⟩:=hc.1;exact⟨cv,hz,ha.mono (λx z hx=>h9.keep aB hx)⟩
 .rename_i k;split at h
  .split at h
   .rename_i e t xs hk;simp only[j4,j8]at h;obtain⟨rfl,rfl,rfl⟩:=h;have hk:=aR.live hk;have hz:=hc.1.2.2 _ hk;refine⟨.nil,⟨rfl,hz,⟨xs,hk,rfl⟩,trivial⟩,λS' aB _ hn=>?_⟩;have eT:=(hR.box k _ hk).1;exact⟨t,xs,rfl,by rw[hz];exact eT.keep aB (λ_ _=>rfl),λg hg=>hn k _ (by simp[Bk.name]) hk g (by rw[<-hz];exact hg)⟩
   .simp at h
  .split at h
   .rename_i e t xs fz hk;simp only[j4,j8]at h;obtain⟨rfl,rfl,rfl⟩:=h;have mO:=bC.par hk;have bV:=bC.ok.nm hk;have hk:=bC.ok.live hk;have hz:=hc.1.2.2 _ hk;refine⟨λx hx=>?_,trivial,λS' aB dE _=>?_⟩
    .have:=ke.1 hx;subst this;exact⟨mO,e,t,xs,fz,hk,rfl,bV⟩
    .have h1:One z:=hc.2 (by simp);have:=dE (k,_) (ke.2 rfl) e t xs fz hk;rw[<-hz]at this;exact⟨by rw[zI h1];exact this,by simp[gG,Ty.agg],λ_=>h1⟩
   .simp at h
 .split at h
  .split at h
   .rename_i ty bA;split at h
    .rename_i x u1 hx;simp only[j4,j8]at h;obtain⟨rfl,rfl,rfl⟩:=h;obtain⟨hf,hp,_⟩:=BT bC hx hc;exact⟨hf,trivial,λS' aB dE _=>hp S' w aB dE⟩
    .simp at h
   .simp at h
  .simp at h
theorem gf.app{bx:Nat->BS}{arg:Arg}{z:Value}{f:List Bk}:gf bx γ [arg] [z] f->∀{as:List Arg}{us:List Value}{fs:List Bk},gf bx γ as us fs->gf bx γ (arg::as) (z::us) (f++fs):=by
 intro h as us fs h';cases arg with
 |v x=>cases f with|nil=>exact h'|cons _ _=>exact h.elim
 |ip x=>cases f with|nil=>exact h'|cons _ _=>exact h.elim
 |clo x y=>cases f with|nil=>exact h'|cons _ _=>exact h.elim
 |ref ls=>
  match f,h with
  |[.ref k],⟨h1,h2,_⟩=>exact⟨h1,h2,h'⟩
  |.ref k::_::_,⟨_,_,h3⟩=>exact h3.elim
 |rl e x=>
  match f,h with
  |[.rl k e' t],⟨h0,h1,h2,_⟩=>exact⟨h0,h1,h2,h'⟩
  |.rl k e' t::_::_,⟨_,_,_,h3⟩=>exact h3.elim
theorem Pt{rd rdf:Nat->BS}(hR:Rel N np S0 w0 refs σ a w S γ)(aR:RdR σ rd)(bC:RdF np σ rdf){T:Nat->Option TyI}:∀{cs:List Cel}{ts:List Nat}{ms:List Bool}{as:List Arg}{u:Ups}{fs:List Bk}{zs:List Value},
  rk rd rdf T ts ms cs=some (as,u,fs)->All2 (bJ S w γ σ.bx) cs zs->
  FrzL np σ.bx u/\gf σ.bx γ as zs fs/\∀S',cW S w S' w->Froz σ.bx γ S' w u->(∀k b,fs.any (λy=>y.name==k)=true->σ.bx k = .live b->∀g,blk (γ k)=some g->∀o,¬S' g o)->All2 (mR S' w) as zs
 |[],ts,ms,as,u,fs,zs,h,ha=>by
  simp[rk]at h;obtain⟨rfl,rfl,rfl⟩:=h;cases zs with
  |nil=>exact⟨.nil,trivial,λ_ _ _ _=>trivial⟩
  |cons _ _=>exact ha.elim
 |c::cs,ts,ms,as,u,fs,zs,h,ha=>by
  cases zs with
  |nil=>exact ha.elim
  |cons z zs=>
   simp only[rk]at h;split at h
   .rename_i a1 u1 f1 h1;split at h
    .rename_i Hw fv Yy h2;simp only[j4,j8]at h;obtain⟨rfl,rfl,rfl⟩:=h;obtain⟨p1,q1,r1⟩:=Yx hR aR bC h1 ha.1;obtain⟨p2,q2,r2⟩:=Pt hR aR bC h2 ha.2;refine⟨FrzL.app.2 ⟨p1,p2⟩,q1.app q2,λS' aB dE hn=>?_⟩;obtain⟨z1,z2⟩:=Froz.app.1 dE;exact⟨r1 S' aB z1 (λk b hk=>hn k b (by rw[List.any_append,hk];rfl)),r2 S' aB z2 (λk b hk=>hn k b (by rw[List.any_append,hk];simp))⟩
    .simp at h
   .simp at h
theorem Pu:∀{cs:List Cap}{zs:List Value},All2 (h9 S w) cs zs->All2 (mR S w) (cs.map rm) zs
 |[],[],_=>trivial
 |c::cs,z::zs,h=>by
  refine⟨?_,Pu h.2⟩;cases c with
  |v x=>obtain⟨hl,hr⟩:=h.1;have h1:One z:=Rep.one _ _ _ hr z (by simp);refine⟨by rw[zI h1];exact hr,λhm=>?_,λ_=>h1⟩;exfalso;obtain⟨t,v⟩:=x;cases t<;>simp_all[Ty.leafy,gG,Ty.agg]
  |p ls=>exact h.1
 |[],_::_,h=>h.elim
 |_::_,[],h=>h.elim
theorem Pv:∀(cs:List Cap)(zs:List Value),dU (cs.map rm) zs=[]
 |[],_=>by cases ‹List Value› <;> rfl
 |c::cs,[]=>rfl
 |c::cs,z::zs=>by cases c<;>simp[dU,lz,rm,Pv cs zs]
theorem Px:∀(as:List Arg)(us:List Value)(bs:List Arg)(vs:List Value),as.length=us.length->dU (as++bs) (us++vs)=dU as us++dU bs vs
 |[],[],bs,vs,_=>rfl
 |a::as,u::us,bs,vs,h=>by simp[dU,Px as us bs vs (by simpa using h)]
 |[],_::_,_,_,h=>by simp at h
 |_::_,[],_,_,h=>by simp at h
theorem wO{bx:Nat->BS}:∀{as:List Arg}{us:List Value}{fs:List Bk},gf bx γ as us fs->dU as us=fs.filterMap λf=>blk (γ f.name)
 |[],[],[],_=>rfl
 |.ref ls::as,u::us,.ref k::fs,⟨h1,_,h3⟩=>by
  simp only[dU,lz,vc,Bk.name,h1,wO h3];cases blk (γ k)<;>rfl
 |.rl e x::as,u::us,.rl k e' t::fs,⟨_,h1,_,h3⟩=>by
  simp only[dU,lz,vc,Bk.name,h1,wO h3];cases blk (γ k)<;>rfl
 |.v _::as,_::us,fs,h=>by simp[dU,lz,wO (as:=as) (us:=us) (fs:=fs) h]
 |.ip _::as,_::us,fs,h=>by simp[dU,lz,wO (as:=as) (us:=us) (fs:=fs) h]
 |.clo _ _::as,_::us,fs,h=>by simp[dU,lz,wO (as:=as) (us:=us) (fs:=fs) h]
theorem wP{bx:Nat->BS}:∀{as:List Arg}{us:List Value}{fs:List Bk},gf bx γ as us fs->∀f∈fs,∃b,bx f.name = .live b
 |[],[],[],_,f,hf=>by simp at hf
 |.ref ls::as,u::us,.ref k::fs,⟨_,⟨fR,h2⟩,h3⟩,f,hf=>by
  rcases je.1 hf with rfl|hf
  .exact⟨_,h2⟩
  .exact wP h3 f hf
 |.rl e x::as,u::us,.rl k e' t::fs,⟨_,_,⟨xs,h2,_⟩,h3⟩,f,hf=>by
  rcases je.1 hf with rfl|hf
  .exact⟨_,h2⟩
  .exact wP h3 f hf
 |.v _::as,_::us,fs,h,f,hf=>wP (as:=as) (us:=us) (fs:=fs) h f hf
 |.ip _::as,_::us,fs,h,f,hf=>wP (as:=as) (us:=us) (fs:=fs) h f hf
 |.clo _ _::as,_::us,fs,h,f,hf=>wP (as:=as) (us:=us) (fs:=fs) h f hf
theorem E8:∀{l:List Nat},oz l=true->l.Nodup
 |[],_=>zg
 |x::l,h=>by
  simp only[oz,jb,qa,qb,kp]at h;exact qp.2 ⟨h.1,E8 h.2⟩
theorem H7(hR:Rel N np S0 w0 refs σ a w S γ):∀{l:List Nat},l.Nodup->(∀k∈l,∃b,σ.bx k = .live b)->(l.filterMap λk=>blk (γ k)).Nodup
 |[],_,_=>by simp
 |k::l,h,hl=>by
  obtain⟨h1,h2⟩:=qp.1 h;have ih:=H7 hR h2 (λk hk=>hl k (by simp[hk]));rw[vc];cases hb:blk (γ k) with
  |none=>exact ih
  |some g=>refine qp.2 ⟨λhm=>?_,ih⟩;obtain⟨k',bg,aw⟩:=zj.1 hm;obtain⟨b,da⟩:=hl k (by simp);obtain⟨b',eP⟩:=hl k' (by simp[bg]);exact hR.apart k k' b b' g (by rintro rfl;exact h1 bg) da eP hb aw
end
section
variable{N:NT}{np:Nat}{S0:aD}{w0:World}{refs:Refs}{σ:St}{a:Go.Act}{w:World}{S:aD}{γ:Nat->Value}
theorem H8:∀(u:Ups)(σ:St){k:Nat}{b:BS},(u.map (·.1)).Nodup->(k,b)∈u->(σ.upd u).bx k=b
 |[],_,_,_,_,h=>by simp at h
 |e::u,σ,k,b,hn,h=>by
  simp only[kr,qp]at hn;show ((σ.setB e.1 e.2).upd u).bx k=_;rcases je.1 h with h|h
  .subst h;rw[lZ u,fX];simp only[qi,qy];intro x hx he;exact hn.1 (jt.2 ⟨x,hx,he⟩)
  .exact H8 u _ hn.2 h
theorem Yz{e:Nat}{m n n':Nat}{v:Value}{w':World}{xs ys:List Value}(h:w.ownsRow 0 e m v n xs)(h':w'.ownsRow 0 e m v n' ys):n=n':=by
 rcases h.2 with⟨e1,e2⟩|⟨g,cap,cur,e1,_⟩<;>rcases h'.2 with⟨f1,f2⟩|⟨g',gH,ie,f1,_⟩
 .rw[e2,f2]
 .rw[e1]at f1;simp at f1
 .rw[e1]at f1;simp at f1
 .rw[e1]at f1;simp at f1;exact f1.2.1
theorem H9{bx:Nat->BS}{S':aD}{w':World}{ys:List TV}{k:Nat}{v:Value}(hg:γ k=v)(h:Cf S' w' ys v):ei S' w' γ bx k (.cell (ys.map TV.leaf) false):=by
 obtain⟨g,cur,e,hu,hh,ao,hS⟩:=h;exact⟨g,cur,e,hg.trans hu,hh,rv ao,λu fi=>by obtain⟨x,_,hx⟩:=ao.mem_right u fi;exact Rep.one _ _ _ hx u (by simp),λ_=>hS,by simp⟩
theorem Cg{bx:Nat->BS}{S':aD}{w':World}{e:Nat}{t:Ty}{ys:List t.den}{k:Nat}{v:Value}(hg:γ k=v)(h:wN S' w' e ⟨.list t,ys⟩ v):ei S' w' γ bx k (.lst e t ys false):=by
 obtain⟨t',xs,hx,cE,hS⟩:=h;cases hx;exact⟨by rw[hg];exact cE,λg aw=>⟨λ_=>hS g (by rw[<-hg];exact aw),by simp⟩⟩
theorem uC{S':aD}{w':World}(hR:Rel N np S0 w0 refs σ a w S γ):∀{as:List Arg}{zs:List Value}{fs:List Bk}{os:List Out}{uo:Ups},gf σ.bx γ as zs fs->r6 fs os=some uo->lF S' w' as zs os->
  uo.map (·.1)=fs.map Bk.name/\∀x∈uo,∃b b',σ.bx x.1 = .live b/\x.2 = .live b'/\iz b b'/\∀bx',ei S' w' γ bx' x.1 b'
 |[],[],[],[],uo,_,h,_=>by simp[r6]at h;subst h;simp
 |.ref ls::as,u::us,.ref k::fs,.ref ys::os,uo,⟨h1,⟨fR,h2⟩,h3⟩,h,⟨q1,q2⟩=>by
  simp only[r6,EE]at h;split at h
  .rename_i u' fi;simp only[j4]at h;subst h;obtain⟨i1,i2⟩:=uC hR h3 fi q2;refine⟨by simp[i1,Bk.name],λx hx=>?_⟩;rcases je.1 hx with rfl|hx
   .exact⟨_,_,h2,rfl,trivial,λbx'=>H9 h1.symm q1⟩
   .exact i2 x hx
  .simp at h
 |.rl e x::as,u::us,.rl k e' t::fs,.rl y::os,uo,⟨h0,h1,⟨xs,h2,jH⟩,h3⟩,h,⟨q1,q1',q2⟩=>by
  simp only[r6,EE]at h;split at h
  .rename_i y' sj;split at sj
   .rename_i ys fZ;simp only[j4]at sj;subst sj;split at h
    .rename_i u' fi;simp only[j4]at h;subst h;obtain⟨i1,i2⟩:=uC hR h3 fi q2;refine⟨by simp[i1,Bk.name],λx hx=>?_⟩;rcases je.1 hx with rfl|hx
     .have:=lV fZ;subst this;subst h0;refine⟨_,_,h2,rfl,⟨rfl,rfl,λhm=>?_⟩,λbx'=>Cg h1.symm q1⟩;obtain⟨css,aN,_⟩:=ia hm (hR.box k _ h2);obtain⟨iU,cE,_⟩:=ia (bx:=σ.bx) hm (Cg h1.symm q1);exact Yz aN cE
     .exact i2 x hx
    .simp at h
   .simp at sj
  .simp at h
 |.v _::as,_::us,fs,os,uo,h,h',q=>uC (as:=as) (zs:=us) (fs:=fs) hR h h' q
 |.ip _::as,_::us,fs,os,uo,h,h',q=>uC (as:=as) (zs:=us) (fs:=fs) hR h h' q
 |.clo _ _::as,_::us,fs,os,uo,h,h',q=>uC (as:=as) (zs:=us) (fs:=fs) hR h h' q
theorem Py(hR:Rel N np S0 w0 refs σ a w S γ){S':aD}{w':World}(aB:cW S w S' w')(dD:∀g o,S' g o->S g o\/w.heap.size<=g)(fk:∀g o,S' g o->g<w'.heap.size)
  {as:List Arg}{zs:List Value}{fs:List Bk}{os:List Out}{uo:Ups}(di:gf σ.bx γ as zs fs)(dJ:(fs.map Bk.name).Nodup)(ho:r6 fs os=some uo)(hq:lF S' w' as zs os)
  (fw:∀g,g<w.heap.size->g∉dU as zs->w'.heap[g]? = w.heap[g]?)(eE:w.heap.size<=w'.heap.size)(oL:w'.os=w.os)(mU:w'.tape=w.tape)(dg:w'.output=w.output) :
  Rel N np S0 w0 refs (σ.upd uo) a w' S' γ:=by
 obtain⟨jU,wQ⟩:=uC hR di ho hq;have su:(uo.map (·.1)).Nodup:=by rw[jU];exact dJ
 have eU:σ.upd uo={ σ with bx:=(σ.upd uo).bx }:=by have:=zG uo σ;cases h:σ.upd uo;rw[h]at this;simp only at this;rw[this]
 have cm:∀k,(uo.any (λy=>y.1==k)=false/\(σ.upd uo).bx k=σ.bx k)\/(∃b b',σ.bx k = .live b/\(σ.upd uo).bx k = .live b'/\iz b b'/\∀bx',ei S' w' γ bx' k b'):=by
  intro k;by_cases hk:uo.any (λy=>y.1==k)=true
  .right;obtain⟨x,hx,he⟩:=zh.1 hk;have he:x.1=k:=by simpa using he
   subst he;obtain⟨b,b',h1,h2,h3,h4⟩:=wQ x hx;exact⟨b,b',h1,by rw[H8 uo σ su (b:=x.2) hx,h2],h3,h4⟩
  .left;have bg:uo.any (λy=>y.1==k)=false:=zb.2 hk;exact⟨bg,lZ uo σ bg⟩
 have gm:∀k b,(σ.upd uo).bx k = .live b->∃b',σ.bx k = .live b':=by
  intro k b hb;rcases cm k with⟨_,h⟩|⟨b1,b2,h1,_⟩
  .exact⟨b,h▸hb⟩
  .exact⟨b1,h1⟩
 have hle:BxLe γ σ.bx γ (σ.upd uo).bx:=by
  intro k hk;rcases cm k with⟨_,h⟩|⟨b1,b2,h1,h2,h3,_⟩
  .rw[h];exact⟨hk,rfl,λb hb=>⟨b,hb,.refl b⟩⟩
  .rw[h2];exact⟨by simp,rfl,λb hb=>by simp at hb;subst hb;exact⟨b1,h1,h3⟩⟩
 have hrefs:∀g,g∈dU as zs->∃f∈fs,blk (γ f.name)=some g/\∃b,σ.bx f.name = .live b:=by intro g hg;rw[wO di]at hg;obtain⟨f,hf,wR⟩:=zj.1 hg;exact⟨f,hf,wR,wP di f hf⟩
 rw[eU]
 refine Rel.step hR aB hle ?_ ?_ ?_ ?_ fk ?_ (qg hR.grow eE) (oL.trans hR.os) (mU.trans hR.tape) (dg.trans hR.output) (λg hg _ h=>⟨fw g hg (λhm=>by
  obtain⟨f,hf,wR,b',aM⟩:=hrefs g hm;exact h f.name b' aM wR),λk b hb=>by
  obtain⟨b',aM⟩:=gm k b hb;exact h k b' aM⟩)
 .intro k b hb;rcases cm k with⟨hk,h⟩|⟨b1,b2,h1,h2,h3,h4⟩
  .rw[h]at hb;refine ei.keep aB hle rfl (λg hg=>?_) (hR.box k b hb);have wB:=lY (hR.box k b hb) hg;refine⟨fw g wB (λhm=>?_),λo=>⟨λhs=>(dD g o hs).resolve_right (by omega),λhs=>(aB g o hs).1⟩⟩;obtain⟨f,hf,wR,b',aM⟩:=hrefs g hm
   have aZ:k≠f.name:=by
    rintro rfl
    have:f.name∈uo.map (·.1):=by rw[jU];exact List.mem_map_of_mem hf
    obtain⟨x,hx,he⟩:=jt.1 this;have:=(qi.1 hk) x hx;simp[he]at this
   exact hR.apart k f.name b b' g aZ hb aM hg wR
  .rw[h2]at hb;simp at hb;subst hb;exact h4 _
 .intro k b g hb hg;obtain⟨b',aM⟩:=gm k b hb;exact hR.own k b' g aM hg
 .intro k k' b1 b2 g aZ h1 h2 hg;obtain⟨se,jP⟩:=gm k b1 h1;obtain⟨sf,jH⟩:=gm k' b2 h2;exact hR.apart k k' se sf g aZ jP jH hg
 .intro g o hs;rcases dD g o hs with h|h
  .exact hR.new g o h
  .exact .inr (qg hR.grow h)
 .intro g hg hr;rw[fw g (qj hg hR.grow) (λhm=>?_)]
  .exact hR.below g hg hr
  .obtain⟨f,hf,wR,b',aM⟩:=hrefs g hm;rcases hR.own f.name b' g aM wR with h|h
   .omega
   .exact hr h.1
theorem Pz(hR:Rel N np S0 w0 refs σ a w S γ){d:Nat}(hd:σ.bx d = .free){v':Value}{b:Bx}
  (hv:∀g,blk v'=some g->(w0.heap.size<=g/\refs.kw g=none)/\∀k b,σ.bx k = .live b->blk (γ k)≠some g)(hb:ei S w (gset γ d v') (σ.setB d (.live b)).bx d b) :
  Rel N np S0 w0 refs (σ.setB d (.live b)) a w S (gset γ d v')/\BxLe γ σ.bx (gset γ d v') (σ.setB d (.live b)).bx:=by
 have hle:BxLe γ σ.bx (gset γ d v') (σ.setB d (.live b)).bx:=by
  intro k hk;have aZ:k≠d:=by rintro rfl;exact hk hd
  rw[cD σ _ aZ,fY γ v' aZ];exact⟨hk,rfl,λb hb=>⟨b,hb,.refl b⟩⟩
 refine⟨Rel.step (bx':=(σ.setB d (.live b)).bx) hR (.refl S w) hle ?_ ?_ ?_ hR.new hR.here hR.below hR.grow hR.os hR.tape hR.output (λg _ zK h=>⟨rfl,λk b' aM di=>by
  by_cases hk:k=d
  .subst hk;rw[fo]at di;exact zK (hv g di).1.2
  .rw[cD σ _ hk]at aM;rw[fY γ v' hk]at di;exact h k b' aM di⟩),hle⟩
 .intro k b' aM;by_cases hk:k=d
  .subst hk;rw[fX]at aM;simp at aM;subst aM;exact hb
  .rw[cD σ _ hk]at aM;exact ei.keep (.refl S w) hle (fY γ v' hk) (λg hg=>⟨rfl,λ_=>Iff.rfl⟩) (hR.box k b' aM)
 .intro k b' g aM hg;by_cases hk:k=d
  .subst hk;rw[fo]at hg;exact .inl (hv g hg).1.1
  .rw[cD σ _ hk]at aM;rw[fY γ v' hk]at hg;exact hR.own k b' g aM hg
 .intro k k' b1 b2 g aZ h1 h2 hg aw;by_cases hk:k=d
  .subst hk;have bg:k'≠k:=λh=>aZ h.symm;rw[fo]at hg;rw[cD σ _ bg]at h2;rw[fY γ v' bg]at aw;exact(hv g hg).2 k' b2 h2 aw
  .by_cases bg:k'=d
   .subst bg;rw[fo]at aw;rw[cD σ _ hk]at h1;rw[fY γ v' hk]at hg;exact(hv g aw).2 k b1 h1 hg
   .rw[cD σ _ hk]at h1;rw[cD σ _ bg]at h2;rw[fY γ v' hk]at hg;rw[fY γ v' bg]at aw;exact hR.apart k k' b1 b2 g aZ h1 h2 hg aw
theorem zN{bx:Nat->BS}{x:TV}{u:Value}(h:VRep S w x u):bJ S w γ bx (ow x.t x.v) u:=by
 obtain⟨t,v⟩:=x;obtain⟨h1,h2,h3⟩:=h;refine HF t v _ u h1 (λhm=>?_) (λha hn=>?_)
 .have:gG t=true:=by
   rcases hm with hm|⟨n,b,rfl⟩
   .cases t<;>simp_all[gG,Ty.agg]
   .rfl
  obtain⟨cs,rfl⟩:=h2 this;simp[Value.cells]
 .have:gG t=false:=by cases t<;>simp_all[gG,Ty.agg]
  exact zI (h3 this)
theorem E9:∀{ls:List RL}{n:Nat}{l:List Leaf}{u:Ups},soL n ls=some (l,u)->∀x∈u,n<=x.1/\x.1<n+ls.length
 |[],n,l,u,h=>by simp[soL]at h;obtain⟨rfl,rfl⟩:=h;simp
 |.d x::r,n,l,u,h=>by
  simp only[soL]at h;split at h
  .rename_i l' u' h';simp only[j4,j8]at h;obtain⟨rfl,rfl⟩:=h;intro y hy;have:=E9 h' y hy;simp only[jl];omega
  .simp at h
 |.own e ⟨.list a,xs⟩::r,n,l,u,h=>by
  simp only[soL]at h;split at h
  .rename_i l' u' h';simp only[j4,j8]at h;obtain⟨rfl,rfl⟩:=h;intro y hy;rcases je.1 hy with rfl|hy
   .simp only[jl];omega
   .have:=E9 h' y hy;simp only[jl];omega
  .simp at h
 |.own e ⟨.int _,xs⟩::r,n,l,u,h=>by simp[soL]at h
 |.own e ⟨.bool,xs⟩::r,n,l,u,h=>by simp[soL]at h
 |.own e ⟨.str,xs⟩::r,n,l,u,h=>by simp[soL]at h
 |.own e ⟨.unit,xs⟩::r,n,l,u,h=>by simp[soL]at h
 |.own e ⟨.wrap _,xs⟩::r,n,l,u,h=>by simp[soL]at h
 |.own e ⟨.pair _ _,xs⟩::r,n,l,u,h=>by simp[soL]at h
 |.own e ⟨.arr _ _,xs⟩::r,n,l,u,h=>by simp[soL]at h
theorem PA{n:Nat}{r:RV}{c:Cel}{u:Ups}(h:EF n r=some (c,u)):∀x∈u,n<=x.1/\x.1<n+rvW r:=by
 unfold EF at h;split at h
 .simp only[j4,j8]at h;obtain⟨rfl,rfl⟩:=h;simp
 .simp only[j4,j8]at h;obtain⟨rfl,rfl⟩:=h;simp[rvW]
 .simp at h
 .simp only[j4,j8]at h;obtain⟨rfl,rfl⟩:=h;simp[rvW]
 .simp at h
 .split at h<;>(simp only[j4,j8]at h;obtain⟨rfl,rfl⟩:=h;simp)
 .simp only[j4,j8]at h;obtain⟨rfl,rfl⟩:=h;simp
 .split at h
  .rename_i l u' h';simp only[j4,j8]at h;obtain⟨rfl,rfl⟩:=h;exact E9 h'
  .simp at h
theorem PB:∀{n:Nat}{rs:List RV}{cs:List Cel}{u:Ups},ub n rs=some (cs,u)->∀x∈u,n<=x.1
 |n,[],cs,u,h=>by simp[ub]at h;obtain⟨rfl,rfl⟩:=h;simp
 |n,r::rs,cs,u,h=>by
  simp only[ub]at h;split at h
  .rename_i c u1 h1;split at h
   .rename_i Ia u2 h2;simp only[j4,j8]at h;obtain⟨rfl,rfl⟩:=h;intro x hx;rcases jn.1 hx with hx|hx
    .exact(PA h1 x hx).1
    .have:=PB h2 x hx;omega
   .simp at h
  .simp at h
theorem PC{bx:Nat->BS}{ns:List Nat}:∀(k:Nat){ls:List Leaf}{cs:List Value},All2 (bO S w γ bx) ls cs->(∀i∈ns,∀z,k<=i->cs[i-k]? = some z->z = .slice none 0 0)->
  All2 (bO S w γ bx) ((ls.zipIdx k).map λy=>if ns.contains y.2 then .nil else y.1) cs
 |_,[],[],_,_=>trivial
 |k,l::ls,c::cs,h,hn=>by
  refine⟨?_,PC (k+1) h.2 λi hi z hk hz=>hn i hi z (by omega) ?_⟩
  .by_cases hc:ns.contains k=true
   .simp only[hc,if_true];exact hn k (by simpa using hc) c (jj _) (by simp)
   .simp only[hc];exact h.1
  .rw[show i-k=(i-(k+1))+1 by omega];simpa using hz
 |_,[],_::_,h,_=>h.elim
 |_,_::_,[],h,_=>h.elim
theorem Ib:∀{ls:List RL}{zs:List Value}{n:Nat}{l:List Leaf}{u:Ups}{σ:St}{γ:Nat->Value},Rel N np S0 w0 refs σ a w S γ->soL n ls=some (l,u)->All2 (E5 S w) ls zs->
  (∀x∈u,σ.bx x.1 = .free)->(mT ls zs).Nodup->(∀g∈mT ls zs,(w0.heap.size<=g/\refs.kw g=none)/\∀k b,σ.bx k = .live b->blk (γ k)≠some g)->
  ∃γ',Rel N np S0 w0 refs (σ.upd u) a w S γ'/\BxLe γ σ.bx γ' (σ.upd u).bx/\All2 (bO S w γ' (σ.upd u).bx) l zs/\(∀z∈zs,One z)/\
   ∀k b g,(σ.upd u).bx k = .live b->blk (γ' k)=some g->(∃b',σ.bx k = .live b'/\blk (γ k)=some g)\/g∈mT ls zs
 |[],[],n,l,u,σ,γ,hR,h,_,_,_,_=>by
  simp[soL]at h;obtain⟨rfl,rfl⟩:=h;exact⟨γ,hR,.refl _ _,trivial,by simp,λk b g h1 h2=> .inl ⟨b,h1,h2⟩⟩
 |.d x::ls,z::zs,n,l,u,σ,γ,hR,h,ha,aY,dJ,hblk=>by
  simp only[soL]at h;split at h
  .rename_i l' u' h';simp only[j4,j8]at h;obtain⟨rfl,rfl⟩:=h;obtain⟨γ',q1,q2,q3,q4,q5⟩:=Ib hR h' ha.2 aY dJ hblk;exact⟨γ',q1,q2,⟨ha.1.2,q3⟩,λy hy=>(je.1 hy).elim (λe=>e▸ha.1.1) (q4 y),q5⟩
  .simp at h
 |.own e ⟨.list t,xs⟩::ls,z::zs,n,l,u,σ,γ,hR,h,ha,aY,dJ,hblk=>by
  simp only[soL]at h;split at h
  .rename_i l' u' h';simp only[j4,j8]at h;obtain⟨rfl,rfl⟩:=h;have aN:wN S w e ⟨.list t,xs⟩ z:=ha.1;have cP:One z:=by obtain⟨t',ys,_,cE,_⟩:=aN;exact cE.one
   have pI:σ.bx n = .free:=aY _ (qt ..);simp only[mT]at dJ hblk;obtain⟨bu,hle⟩:=Pz hR pI (v':=z) (b:= .lst e t xs false) (λg hg=>hblk g (by simp[hg])) (Cg (fo _ _ _) aN);have iC:=E9 h'
   obtain⟨γ',q1,q2,q3,q4,q5⟩:=Ib bu h' ha.2 (λx hx=>by
    have:=iC x hx;rw[cD σ _ (by omega)];exact aY x (by simp[hx])) (qn.1 dJ).2.1 (λg hg=>by
    obtain⟨p1,p2⟩:=hblk g (by simp[hg]);refine⟨p1,λk b' aM he=>?_⟩;by_cases hk:k=n
    .subst hk;rw[fo]at he;exact(qn.1 dJ).2.2 g (by simp[he]) g hg rfl
    .rw[cD σ _ hk]at aM;rw[fY γ z hk]at he;exact p2 k b' aM he)
   refine⟨γ',q1,λk hk=>?_,⟨bO.keep (.refl S w) q2 ⟨by rw[fX];simp,cP,λb _=>(fo γ n z).symm⟩,q3⟩,λy hy=>(je.1 hy).elim (λe=>e▸cP) (q4 y),λk b g h1 h2=>?_⟩
   .obtain⟨a1,a2,a3⟩:=hle k hk;obtain⟨b1,b2,b3⟩:=q2 k a1;refine⟨b1,b2.trans a2,λb hb=>?_⟩;obtain⟨b',aM,dp⟩:=b3 b hb;obtain⟨Ce,pG,pH⟩:=a3 b' aM;exact⟨Ce,pG,pH.trans dp⟩
   .rcases q5 k b g h1 h2 with⟨b',aM,he⟩|h3
    .by_cases hk:k=n
     .subst hk;rw[fo]at he;exact .inr (by simp[mT,he])
     .rw[cD σ _ hk]at aM;rw[fY γ z hk]at he;exact .inl ⟨b',aM,he⟩
    .exact .inr (by simp[mT,h3])
  .simp at h
 |.own e ⟨.int _,xs⟩::r,_,n,l,u,_,_,_,h,_,_,_,_=>by simp[soL]at h
 |.own e ⟨.bool,xs⟩::r,_,n,l,u,_,_,_,h,_,_,_,_=>by simp[soL]at h
 |.own e ⟨.str,xs⟩::r,_,n,l,u,_,_,_,h,_,_,_,_=>by simp[soL]at h
 |.own e ⟨.unit,xs⟩::r,_,n,l,u,_,_,_,h,_,_,_,_=>by simp[soL]at h
 |.own e ⟨.wrap _,xs⟩::r,_,n,l,u,_,_,_,h,_,_,_,_=>by simp[soL]at h
 |.own e ⟨.pair _ _,xs⟩::r,_,n,l,u,_,_,_,h,_,_,_,_=>by simp[soL]at h
 |.own e ⟨.arr _ _,xs⟩::r,_,n,l,u,_,_,_,h,_,_,_,_=>by simp[soL]at h
 |[],_::_,_,_,_,_,_,_,_,ha,_,_,_=>ha.elim
 |.d _::_,[],_,_,_,_,_,_,_,ha,_,_,_=>ha.elim
 |.own _ ⟨.list _,_⟩::_,[],_,_,_,_,_,_,_,ha,_,_,_=>ha.elim
theorem PD:∀{rs:List RV}{vs:List Value}{n:Nat}{cs:List Cel}{un:Ups}{σ:St}{γ:Nat->Value},Rel N np S0 w0 refs σ a w S γ->ub n rs=some (cs,un)->All2 (oK S w) rs vs->
  (∀x∈un,σ.bx x.1 = .free)->(fq rs vs).Nodup->(∀g∈fq rs vs,(w0.heap.size<=g/\refs.kw g=none)/\∀k b,σ.bx k = .live b->blk (γ k)≠some g)->
  ∃γ',Rel N np S0 w0 refs (σ.upd un) a w S γ'/\BxLe γ σ.bx γ' (σ.upd un).bx/\All2 (bJ S w γ' (σ.upd un).bx) cs vs
 |[],[],n,cs,un,σ,γ,hR,h,_,_,_,_=>by
  simp[ub]at h;obtain⟨rfl,rfl⟩:=h;exact⟨γ,hR,.refl _ _,trivial⟩
 |r::rs,u::us,n,cs,un,σ,γ,hR,h,ha,aY,dJ,hblk=>by
  simp only[ub]at h;split at h
  .rename_i c u1 h1;split at h
   .rename_i Ia u2 h2;simp only[j4,j8]at h;obtain⟨rfl,rfl⟩:=h
    have Ci:∀(σ1:St)(γ1:Nat->Value),Rel N np S0 w0 refs σ1 a w S γ1->σ1=σ.upd u1->BxLe γ σ.bx γ1 σ1.bx->bJ S w γ1 σ1.bx c u->(∀x∈u2,σ1.bx x.1 = .free)->
      (fq rs us).Nodup->(∀g∈fq rs us,(w0.heap.size<=g/\refs.kw g=none)/\∀k b,σ1.bx k = .live b->blk (γ1 k)≠some g)->
      ∃γ',Rel N np S0 w0 refs (σ.upd (u1++u2)) a w S γ'/\BxLe γ σ.bx γ' (σ.upd (u1++u2)).bx/\All2 (bJ S w γ' (σ.upd (u1++u2)).bx) (c::Ia) (u::us):=by
     intro σ1 γ1 bu he hle hc hf hn hb;obtain⟨γ',q1,q2,q3⟩:=PD (σ:=σ1) (γ:=γ1) bu h2 ha.2 hf hn hb;subst he;rw[jQ];refine⟨γ',q1,?_,bJ.keep (.refl S w) q2 hc,q3⟩;intro k hk;obtain⟨a1,a2,a3⟩:=hle k hk;obtain⟨b1,b2,b3⟩:=q2 k a1;refine⟨b1,b2.trans a2,λb hb=>?_⟩;obtain⟨b',aM,dp⟩:=b3 b hb;obtain⟨Ce,pG,pH⟩:=a3 b' aM;refine⟨Ce,pG,?_⟩;exact pH.trans dp
    have iC:=PA h1;have me:=PB h2
    have dD:∀(v':Value)(b:Bx),jT r u=(blk v').toList->rvW r=1->u1=[(n,.live b)]->(∀bx',ei S w (gset γ n v') bx' n b)->(∀bx',(bx' n = .live b)->bJ S w (gset γ n v') bx' c u)->
      ∃γ',Rel N np S0 w0 refs (σ.upd (u1++u2)) a w S γ'/\BxLe γ σ.bx γ' (σ.upd (u1++u2)).bx/\All2 (bJ S w γ' (σ.upd (u1++u2)).bx) (c::Ia) (u::us):=by
     intro v' b gw Fa YA cY wS;subst YA;rw[Fa]at me;have pI:σ.bx n = .free:=aY (n,.live b) (by simp);simp only[fq,gw]at dJ hblk;obtain⟨bu,hle⟩:=Pz hR pI (v':=v') (b:=b) (λg hg=>hblk g (by simp[hg])) (cY _);refine Ci _ _ bu rfl hle (wS _ (fX _ _ _)) (λx hx=>?_) ?_ (λg hg=>?_)
     .have:=me x hx;rw[cD σ _ (by omega)];exact aY x (by simp[hx])
     .exact(qn.1 dJ).2.1
     .obtain⟨p1,p2⟩:=hblk g (by simp[hg]);refine⟨p1,λk b' aM he=>?_⟩;by_cases hk:k=n
      .subst hk;rw[fo]at he;have:=(qn.1 dJ).2.2 g (by simp[he]) g hg;exact this rfl
      .rw[cD σ _ hk]at aM;rw[fY γ v' hk]at he;exact p2 k b' aM he
    unfold EF at h1;split at h1
    .rename_i x;simp only[j4,j8]at h1;obtain⟨rfl,rfl⟩:=h1;refine Ci σ γ hR rfl (.refl _ _) (zN ha.1) (λx hx=>aY x (by simp[hx])) ?_ ?_
     .simpa[fq,mS,jT]using dJ
     .simpa[fq,mS,jT]using hblk
    .rename_i e el xs;simp only[j4,j8]at h1;obtain⟨rfl,rfl⟩:=h1;have aN:wN S w e ⟨.list el,xs⟩ u:=ha.1;have cP:One u:=by obtain⟨t',ys,_,cE,_⟩:=aN;exact cE.one
     exact dD u _ rfl rfl rfl (λbx'=>Cg (fo _ _ _) aN) (λbx' hb=>⟨⟨by rw[hb];simp,cP,λb _=>(fo γ n u).symm⟩,λ_=>cP⟩)
    .simp at h1
    .rename_i ls;simp only[j4,j8]at h1;obtain⟨rfl,rfl⟩:=h1;have Cj:Cf S w ls u:=ha.1;obtain⟨g,cur,e,hu,_⟩:=id Cj;have cP:One u:=by rw[hu];rfl
     exact dD u _ rfl rfl rfl (λbx'=>H9 (fo _ _ _) Cj) (λbx' hb=>⟨⟨by rw[hb];simp,cP,λb _=>⟨g,by rw[fo,hu],hu⟩⟩,λ_=>cP⟩)
    .simp at h1
    .rename_i x ns;have hv:VRep S w x u/\∀cs,u = .agg cs->∀i∈ns,∀z,cs.toList[i]? = some z->z = .slice none 0 0:=ha.1;have pJ:bJ S w γ σ.bx (ow x.t x.v) u:=zN hv.1
     have hc:bJ S w γ σ.bx c u/\u1=[]:=by
      split at h1
      .rename_i ls he;simp only[j4,j8]at h1;obtain⟨rfl,rfl⟩:=h1;rw[he]at pJ;obtain⟨cs,hu,ao,cP⟩:=pJ;exact⟨⟨cs,hu,PC 0 ao λi hi z _ hz=>hv.2 cs hu i hi z (by simpa using hz),cP⟩,rfl⟩
      .simp only[j4,j8]at h1;obtain⟨rfl,rfl⟩:=h1;exact⟨pJ,rfl⟩
     obtain⟨hc,rfl⟩:=hc;refine Ci σ γ hR rfl (.refl _ _) hc (λx hx=>aY x (by simp[hx])) ?_ ?_
     .simpa[fq,mS,jT]using dJ
     .simpa[fq,mS,jT]using hblk
    .rename_i f caps;simp only[j4,j8]at h1;obtain⟨rfl,rfl⟩:=h1;obtain⟨cv,hu,ao⟩:∃cv:Array Value,u = .func (.func f) #[] cv/\All2 (h9 S w) caps cv.toList:=ha.1;refine Ci σ γ hR rfl (.refl _ _) ⟨⟨cv,hu,ao⟩,λ_=>by rw[hu];rfl⟩ (λx hx=>aY x (by simp[hx])) ?_ ?_
     .simpa[fq,mS,jT]using dJ
     .simpa[fq,mS,jT]using hblk
    .rename_i ls;split at h1
     .rename_i l fv hl;simp only[j4,j8]at h1;obtain⟨rfl,rfl⟩:=h1;obtain⟨sJ,hu,ao⟩:∃cs:Array Value,u = .agg cs/\All2 (E5 S w) ls cs.toList:=ha.1;subst hu;have uD:jT (.so ls) (.agg sJ)=mT ls sJ.toList:=rfl;simp only[fq,uD]at dJ hblk;obtain⟨γ1,q1,q2,q3,q4,q5⟩:=Ib hR hl ao (λx hx=>aY x (by simp[hx])) (qn.1 dJ).1 (λg hg=>hblk g (by simp[hg]));refine Ci _ γ1 q1 rfl q2 ⟨sJ,rfl,q3,q4⟩ (λx hx=>?_) (qn.1 dJ).2.1 (λg hg=>?_)
      .have h2:=me x hx;rw[lZ fv σ]
       .exact aY x (by simp[hx])
       .rw[qi];intro y hy he;simp only[qy]at he;have:=iC y hy;omega
      .obtain⟨p1,p2⟩:=hblk g (by simp[hg]);refine⟨p1,λk b' aM he=>?_⟩;rcases q5 k b' g aM he with⟨b2,eP,YB⟩|h3
       .exact p2 k b2 eP YB
       .exact(qn.1 dJ).2.2 g h3 g hg rfl
     .simp at h1
   .simp at h
  .simp at h
 |[],_::_,_,_,_,_,_,_,_,ha,_,_,_=>ha.elim
 |_::_,[],_,_,_,_,_,_,_,ha,_,_,_=>ha.elim
end
section
variable{N:NT}{np:Nat}{S0:aD}{w0:World}{refs:Refs}{σ:St}{a:Go.Act}{w:World}{S:aD}{γ:Nat->Value}
theorem Ic{S':aD}{w':World}:∀(cs:List Cap)(cv:List Value)(os:List Out),lF S' w' (cs.map rm) cv os->os=[]
 |[],[],[],_=>rfl
 |[],[],_::_,h=>h.elim
 |[],_::_,_,h=>h.elim
 |c::cs,[],_,h=>by cases c<;>exact h.elim
 |.v _::cs,_::cv,os,h=>Ic cs cv os h
 |.p _::cs,_::cv,os,h=>Ic cs cv os h
theorem zO{S':aD}{w':World}{cs:List Cap}{cv:List Value}:∀{as:List Arg}{zs:List Value}{os:List Out},as.length=zs.length->
  lF S' w' (as++cs.map rm) (zs++cv) os->lF S' w' as zs os
 |[],[],os,_,h=>by
  have:=Ic cs cv os h;subst this;trivial
 |.ref ls::as,u::us,.ref ys::os,hl,⟨h1,h2⟩=>⟨h1,zO (by simpa using hl) h2⟩
 |.rl e x::as,u::us,.rl y::os,hl,⟨h1,h2,h3⟩=>⟨h1,h2,zO (by simpa using hl) h3⟩
 |.v _::as,_::us,os,hl,h=>zO (as:=as) (zs:=us) (by simpa using hl) h
 |.ip _::as,_::us,os,hl,h=>zO (as:=as) (zs:=us) (by simpa using hl) h
 |.clo _ _::as,_::us,os,hl,h=>zO (as:=as) (zs:=us) (by simpa using hl) h
 |[],_::_,_,hl,_=>by simp at hl
 |_::_,[],_,hl,_=>by simp at hl
 |.ref _::_,_::_,[],_,h=>h.elim
 |.ref _::_,_::_,.rl _::_,_,h=>h.elim
 |.rl _ _::_,_::_,[],_,h=>h.elim
 |.rl _ _::_,_::_,.ref _::_,_,h=>h.elim
theorem gf.congr{bx bx':Nat->BS}:∀{as:List Arg}{us:List Value}{fs:List Bk},(∀f∈fs,bx' f.name=bx f.name)->gf bx γ as us fs->gf bx' γ as us fs
 |[],[],[],_,_=>trivial
 |.ref ls::as,u::us,.ref k::fs,hc,⟨h1,⟨fR,h2⟩,h3⟩=>
  ⟨h1,⟨fR,(hc (.ref k) (by simp)).trans h2⟩,gf.congr (λf hf=>hc f (by simp[hf])) h3⟩
 |.rl e x::as,u::us,.rl k e' t::fs,hc,⟨h0,h1,⟨xs,h2,hx⟩,h3⟩=>
  ⟨h0,h1,⟨xs,(hc (.rl k e' t) (by simp)).trans h2,hx⟩,gf.congr (λf hf=>hc f (by simp[hf])) h3⟩
 |.v _::as,_::us,fs,hc,h=>gf.congr (as:=as) (us:=us) hc h
 |.ip _::as,_::us,fs,hc,h=>gf.congr (as:=as) (us:=us) hc h
 |.clo _ _::as,_::us,fs,hc,h=>gf.congr (as:=as) (us:=us) hc h
theorem Ck{S1 S':aD}{w':World}(gg:∀g o,S g o->S' g o):∀{as:List Arg}{zs:List Value}{os:List Out},os.all Out.flat=true->lF S' w' as zs os->lF S w' as zs os
 |[],[],[],_,_=>trivial
 |.ref ls::as,u::us,.ref ys::os,hf,⟨⟨g,cur,e,h1,h2,h3,h4⟩,h5⟩=>by
  simp only[List.all_cons,jb,Out.flat]at hf;refine⟨⟨g,cur,e,h1,h2,?_,λo hs=>h4 o (gg g o hs)⟩,Ck (S1:=S1) gg hf.2 h5⟩;have hl:=hf.1;clear h1 h2 hf h4 h5;generalize cur.toList=l at h3;induction ys generalizing l with
  |nil=>cases l with|nil=>trivial|cons _ _=>exact h3.elim
  |cons y ys ih=>
   cases l with
   |nil=>exact h3.elim
   |cons z l=>simp only[List.all_cons,jb]at hl;exact⟨sH _ _ _ hl.1 h3.1,ih hl.2 l h3.2⟩
 |.rl e x::as,u::us,.rl y::os,hf,⟨⟨t,xs,h1,_⟩,_,_⟩=>by
  simp only[List.all_cons,jb,Out.flat,h1,Ty.flat]at hf;exact absurd hf.1 (by simp)
 |.v _::as,_::us,os,hf,h=>Ck (S1:=S1) (as:=as) (zs:=us) gg hf h
 |.ip _::as,_::us,os,hf,h=>Ck (S1:=S1) (as:=as) (zs:=us) gg hf h
 |.clo _ _::as,_::us,os,hf,h=>Ck (S1:=S1) (as:=as) (zs:=us) gg hf h
theorem YC{S S':aD}{w:World}{e:Nat}{a:Ty}{xs:List a.den}{u:Value}(hf:a.flat=true)(h:ph S' w e a xs u):ph S w e a xs u:=by
 rcases h with⟨hm,css,h1,h2⟩|⟨hm,h1⟩
 .exact .inl ⟨hm,css,h1,h2.mono λx c hx=>sH _ _ _ hf hx⟩
 .refine .inr ⟨hm,?_⟩;revert hf h1;cases a with
  |pair k b=>intro hf h1;simp only[Ty.flat,jb]at hf;obtain⟨g,es,clock,hu,hh,ha⟩:=h1;exact⟨g,es,clock,hu,hh,ha.mono λx e hx=>⟨sH _ _ _ hf.1 hx.1,sH _ _ _ hf.2 hx.2.1,hx.2.2⟩⟩
  |_=>intro _ h1;exact h1.elim
theorem PE{S':aD}{w':World}(gg:∀g o,S g o->S' g o):∀{rs:List RV}{vs:List Value},rs.all RV.flat=true->All2 (oK S' w') rs vs->All2 (oK S w') rs vs
 |[],[],_,_=>trivial
 |r::rs,v::vs,hf,h=>by
  simp only[List.all_cons,jb]at hf;have i1:=PE gg hf.2 h.2;cases r with
  |v x=>obtain⟨h1,h2,h3⟩:=h.1;exact⟨⟨sH _ _ _ hf.1 h1,h2,h3⟩,i1⟩
  |own e x=>obtain⟨a,xs,rfl,h1,h2⟩:=h.1;exact⟨⟨a,xs,rfl,YC hf.1 h1,λg hg o hs=>h2 g hg o (gg g o hs)⟩,i1⟩
  |so ls=>simp[RV.flat]at hf
  |box ls=>simp[RV.flat]at hf
  |hd n=>simp[RV.flat]at hf
  |vn x ns=>simp[RV.flat]at hf
  |clo f cs=>simp[RV.flat]at hf
 |[],_::_,_,h=>h.elim
 |_::_,[],_,h=>h.elim
theorem YD{rd:Nat->BS}(aR:RdOk σ rd){un:Ups}(h:un.all (λe=>jO (rd e.1))=true):∀x∈un,σ.bx x.1 = .free:=
 λx hx=>aR.free (k5.1 h x hx)
def PF:List Cel->Slot
 |[c]=> .one c
 |cs=> .tup cs
theorem YE{γ':Nat->Value}{bx:Nat->BS}{S':aD}{w':World}{YF:Nat->Value}{cs:List Cel}{vs:List Value}(h:All2 (bJ S' w' γ' bx) cs vs) :
  gz S' w' γ' bx YF (PF cs) (rD vs):=by
 match cs,vs,h with
 |[c],[v],h=>exact h.1
 |[],[],h=>exact⟨#[],rfl,trivial⟩
 |c::c'::cs,v::v'::vs,h=>exact⟨(v::v'::vs).toArray,rfl,by simpa using h⟩
 |[c],v::v'::vs,h=>exact h.2.elim
 |c::c'::cs,[v],h=>exact h.2.elim
 |[],v::vs,h=>exact h.elim
 |c::cs,[],h=>exact h.elim
theorem Fb{bx:Nat->BS}{k e:Nat}{t:Ty}:∀{as:List Arg}{us:List Value}{fs:List Bk},gf bx γ as us (.rl k e t::fs)->∀(bs:List Arg)(vs:List Value),E6 (as++bs) (us++vs)=some (γ k)
 |.rl e x::as,u::us,fs,⟨_,h1,_,_⟩,bs,vs=>by rw[<-h1];rfl
 |.v _::as,_::us,fs,h,bs,vs=>Fb (as:=as) (us:=us) (fs:=fs) h bs vs
 |.ip _::as,_::us,fs,h,bs,vs=>Fb (as:=as) (us:=us) (fs:=fs) h bs vs
 |.clo _ _::as,_::us,fs,h,bs,vs=>Fb (as:=as) (us:=us) (fs:=fs) h bs vs
 |[],[],fs,h,_,_=>h.elim
 |.ref _::as,_::us,fs,h,_,_=>h.elim
 |[],_::_,fs,h,_,_=>h.elim
 |_::_,[],fs,h,_,_=>by cases ‹Arg› <;> exact h.elim
theorem PG{P:Program}(hR:Rel N np S0 w0 refs σ a w S γ){rw rd rdf:Nat->BS}(mf:RdR σ rw)(aR:RdOk σ rd)(bC:RdF np σ rdf){T:Nat->Option TyI}{ts:List Nat}{ms:List Bool}{cs:List Cel}{as:List Arg}{us:Ups}{fs:List Bk}{zs:List Value}
  (h:rk rw rdf T ts ms cs=some (as,us,fs))(ha:All2 (bJ S w γ σ.bx) cs zs)(bH:bkOk us fs=true)
  {caps:List Cap}{cv:List Value}(rE:All2 (h9 S w) caps cv){g:Nat}{K:Ret->Prop}
  (eF:E7 P g (as++caps.map rm) K)(n:Nat) :
  Calls P g (zs++cv).toArray w λe w'=>∃ret,K ret/\∀s u,r7 rd rdf n us fs ret=some (s,u)->∃v S' γ',e = .returned v/\Rel N np S0 w0 refs (σ.upd u) a w' S' γ'/\gz S' w' γ' (σ.upd u).bx (tm a) s v:=by
 obtain⟨eO,di,pt⟩:=Pt hR mf bC h ha;simp only[bkOk,jb]at bH;obtain⟨dJ,wT⟩:=bH;have dJ:=E8 dJ
 have hlen:as.length=zs.length:=by
  have:∀{as:List Arg}{us:List Value}{fs:List Bk},gf σ.bx γ as us fs->as.length=us.length:=by
   intro as;induction as with
   |nil=>intro us fs hh;cases us with|nil=>rfl|cons _ _=>exact hh.elim
   |cons a as ih=>
    intro us fs hh;cases us with
    |nil=>cases a<;>exact hh.elim
    |cons u us=>
     cases a with
     |v x=>have:=ih (us:=us) (fs:=fs) hh;simp[this]
     |ip x=>have:=ih (us:=us) (fs:=fs) hh;simp[this]
     |clo x y=>have:=ih (us:=us) (fs:=fs) hh;simp[this]
     |ref ls=>match fs,hh with|.ref k::fs,⟨_,_,h3⟩=>have:=ih h3;simp[this]
     |rl e x=>match fs,hh with|.rl k e' t::fs,⟨_,_,_,h3⟩=>have:=ih h3;simp[this]
  exact this di
 obtain⟨S1,bu,ct,gL,dF⟩:=nD us σ S hR eO;have Cl:∀k,k∈fs.map Bk.name->us.any (λy=>y.1==k)=false:=by intro k hk;rw[qi];intro x hx he;have:=k5.1 wT x hx;simp only[qy]at he;subst he;simp only[qa,qb,kp]at this;exact this hk
 have pK:∀f∈fs,(σ.upd us).bx f.name=σ.bx f.name:=λf hf=>lZ us σ (Cl _ (List.mem_map_of_mem hf));have wU:=di.congr pK
 have nH:∀k b,fs.any (λy=>y.name==k)=true->σ.bx k = .live b->∀g,blk (γ k)=some g->∀o,¬S1 g o:=by
  intro k b hk hb g hg o;obtain⟨f,hf,he⟩:=zh.1 hk;have he:f.name=k:=by simpa using he
  subst he;have da:(σ.upd us).bx f.name = .live b:=(pK f hf).trans hb;have cY:=bu.box f.name b da
  have jV:(∃fR,b = .cell fR false)\/(∃e t xs,b = .lst e t xs false):=by
   have:∀{as:List Arg}{us:List Value}{fs:List Bk},gf σ.bx γ as us fs->f∈fs->(∃fR,σ.bx f.name = .live (.cell fR false))\/(∃e t xs,σ.bx f.name = .live (.lst e t xs false)):=by
    intro as;induction as with
    |nil=>intro us fs hh hm;match us,fs,hh with|[],[],_=>simp at hm
    |cons a as ih=>
     intro us fs hh hm;cases us with
     |nil=>cases a<;>exact hh.elim
     |cons u us=>
      cases a with
      |v x=>exact ih (us:=us) (fs:=fs) hh hm
      |ip x=>exact ih (us:=us) (fs:=fs) hh hm
      |clo x y=>exact ih (us:=us) (fs:=fs) hh hm
      |ref ls=>
       match fs,hh with
       |.ref k::fs,⟨_,⟨fR,h2⟩,h3⟩=>
        rcases je.1 hm with rfl|hm
        .exact .inl ⟨fR,h2⟩
        .exact ih h3 hm
      |rl e x=>
       match fs,hh with
       |.rl k e' t::fs,⟨_,_,⟨xs,h2,_⟩,h3⟩=>
        rcases je.1 hm with rfl|hm
        .exact .inr ⟨_,t,xs,h2⟩
        .exact ih h3 hm
   rcases this di hf with⟨fR,h2⟩|⟨e,t,xs,h2⟩
   .rw[hb]at h2;simp at h2;exact .inl ⟨fR,h2⟩
   .rw[hb]at h2;simp at h2;exact .inr ⟨e,t,xs,h2⟩
  rcases jV with⟨fR,rfl⟩|⟨e,t,xs,rfl⟩
  .obtain⟨g',cur,e,aw,_,_,_,hS,_⟩:=cY;rw[aw]at hg;simp[blk]at hg;subst hg;exact hS rfl o
  .exact(cY.2 g hg).1 rfl o
 have dh:All2 (mR S1 w) as zs:=pt S1 ct gL nH;have Cm:All2 (mR S1 w) (caps.map rm) cv:=Pu (rE.mono (λx z hx=>h9.keep ct hx));have hrefs:dU (as++caps.map rm) (zs++cv)=dU as zs:=by rw[Px _ _ _ _ hlen,Pv,kb]
 have sK:(dU as zs).Nodup:=by rw[wO di];have:=H7 hR dJ (λk hk=>by obtain⟨f,hf,rfl⟩:=jt.1 hk;exact wP di f hf);rwa[List.filterMap_map]at this
 refine(eF w S1 (zs++cv) (dh.append Cm) (by rw[hrefs];exact sK) bu.here).mono ?_
 rintro e w' ⟨ret,hK,v,S',vs,rfl,cp⟩
 refine⟨ret,hK,λs u bG=>?_⟩;obtain⟨dQ,bq,wV,mh,eH,iV,dD,fk,fw,eE,oL,mU,dg,pL⟩:=cp;rw[hrefs]at fw;have eH:=zO hlen eH;refine⟨v,?_⟩;unfold r7 at bG;split at bG
 ·-- the list Ie first,cut short
  rename_i m YG;unfold mkHd at bG;generalize gx:ret.outs=ro at bG eH;split at bG
  .rename_i k e el Yy y lH _;split at bG
   .rename_i uo ys rF fZ;split at bG
    .rename_i dH;simp only[jb]at dH;simp only[j4,j8]at bG;obtain⟨rfl,rfl⟩:=bG;have cO:=Py bu iV dD fk wU dJ rF eH fw eE oL mU dg;obtain⟨jU,mV⟩:=uC bu wU rF eH;have su:(uo.map (·.1)).Nodup:=by rw[jU];exact dJ
     have Ig:(k,BS.live (.lst e el ys false))∈uo:=by
      simp only[r6,EE,fZ]at rF;split at rF
      .simp only[j4]at rF;rw[<-rF];exact qt
      .simp at rF
     have gl:=H8 uo (σ.upd us) su Ig;obtain⟨bl,uD⟩:=BP dH.2;have mO:=bC.par uD;have h0:=aR.free dH.1;have h1:(σ.upd us).bx n = .free:=dF.free h0;have mi:((σ.upd us).upd uo).bx n = .free:=by rw[lZ uo,h1];rw[qi];intro y hy he;simp only[qy]at he;obtain⟨b0,_,h2,_⟩:=mV y hy;rw[he,h1]at h2;simp at h2
     obtain⟨ad,len,cap,iR,Fc,l9⟩:=pL m YG;have zP:γ k = .slice ad len cap:=by have:=Fb di (caps.map rm) cv;rw[iR]at this;simpa using this.symm
     have Cn:len=ys.length:=by
      obtain⟨css,aN,_⟩:=OG zP (cO.box k _ gl);rcases aN.2 with⟨aw,hn⟩|⟨g,gH,cur,aw,_⟩
      .rw[zP]at aw;simp only[Value.slice.injEq]at aw;omega
      .rw[zP]at aw;simp only[Value.slice.injEq]at aw;omega
     obtain⟨γ',dj,cT⟩:=Ys cO gl mO mi (m:=m) (by omega) (by rw[zP,Cn]);refine⟨S',γ',rfl,by rw[jQ,jQ];exact dj,?_⟩;rw[dQ,l9,jQ,jQ];exact cT
    .simp at bG
   .simp at bG
  .simp at bG
 split at bG
 .rename_i uo rF;split at bG
  .rename_i sJ un jK;split at bG
   .rename_i aY;have aY:=YD aR aY
    have dq:∀(jL:Ups)(Sx Sy:aD),(jL=us\/jL=[])->Rel N np S0 w0 refs (σ.upd jL) a w Sx γ->cW Sx w Sy w'->(∀g o,Sy g o->Sx g o\/w.heap.size<=g)->(∀g o,Sy g o->g<w'.heap.size)->
      lF Sy w' as zs ret.outs->All2 (oK Sy w') ret.vals vs->
      ∃S' γ',Rel N np S0 w0 refs (σ.upd (jL++uo++un)) a w' S' γ'/\All2 (bJ S' w' γ' (σ.upd (jL++uo++un)).bx) sJ vs:=by
     intro jL Sx Sy sL zQ wW Co wY uE Cp
     have Cq:gf (σ.upd jL).bx γ as zs fs:=by
      rcases sL with rfl|rfl
      .exact wU
      .exact di
     have cO:=Py zQ wW Co wY Cq dJ rF uE fw eE oL mU dg;obtain⟨jU,mV⟩:=uC zQ Cq rF uE
     have wZ:∀k b,((σ.upd jL).upd uo).bx k = .live b->∃b',(σ.upd jL).bx k = .live b':=by
      intro k b hb;by_cases hk:uo.any (λy=>y.1==k)=true
      .obtain⟨x,hx,he⟩:=zh.1 hk;have he:x.1=k:=by simpa using he
       subst he;obtain⟨b0,_,h0,_⟩:=mV x hx;exact⟨b0,h0⟩
      .rw[lZ uo _ (zb.2 hk)]at hb;exact⟨b,hb⟩
     have mi:∀x∈un,((σ.upd jL).upd uo).bx x.1 = .free:=by
      intro x hx;have h0:=aY x hx
      have h1:(σ.upd jL).bx x.1 = .free:=by
       rcases sL with rfl|rfl
       .exact dF.free h0
       .exact h0
      rw[lZ uo,h1];rw[qi];intro y hy he;simp only[qy]at he;obtain⟨b0,_,h2,_⟩:=mV y hy;rw[he,h1]at h2;simp at h2
     obtain⟨γ',gD,_,wS⟩:=PD cO jK Cp mi mh (λg hg=>by
      have nG:=wV g hg;refine⟨⟨qg hR.grow nG,hR.kw_new nG⟩,λk b hb he=>?_⟩;obtain⟨b',aM⟩:=wZ k b hb;have:=lY (zQ.box k b' aM) he;omega)
     refine⟨Sy,γ',?_,?_⟩
     .rw[jQ,jQ];exact gD
     .rw[jQ,jQ];exact wS
    have cm:∃jL,(jL=us\/jL=[])/\jL=(if ret.vals.all RV.flat&&ret.outs.all Out.flat then [] else us)/\
      ∃S' γ',Rel N np S0 w0 refs (σ.upd (jL++uo++un)) a w' S' γ'/\All2 (bJ S' w' γ' (σ.upd (jL++uo++un)).bx) sJ vs:=by
     by_cases jW:(ret.vals.all RV.flat&&ret.outs.all Out.flat)=true
     .refine⟨[],.inr rfl,by rw[if_pos jW],?_⟩;obtain⟨sg,wv⟩:=Bool.and_eq_true_iff.1 jW;have gg:∀g o,S g o->S' g o:=λg o hs=>(iV g o (ct g o hs).1).1
      refine dq [] S S (.inr rfl) hR (λg o hs=>⟨hs,(iV g o (ct g o hs).1).2⟩) (λg o hs=> .inl hs) (λg o hs=>qj (hR.here g o hs) eE)
       (Ck (S1:=S1) gg wv eH) (PE gg sg bq)
     .exact⟨us,.inl rfl,by rw[if_neg jW],dq us S1 S' (.inl rfl) bu iV dD fk eH bq⟩
    obtain⟨jL,_,sL,S2,γ2,cO,uF⟩:=cm
    have hs:s=PF sJ/\u=(if ret.vals.all RV.flat&&ret.outs.all Out.flat then [] else us)++uo++un:=by
     clear uF dq cO jK;revert bG;match sJ with
     |[c]=>simp only[j4,j8];rintro⟨rfl,rfl⟩;exact⟨rfl,rfl⟩
     |[]=>simp only[j4,j8];rintro⟨rfl,rfl⟩;exact⟨rfl,rfl⟩
     |c::c'::r=>simp only[j4,j8];rintro⟨rfl,rfl⟩;exact⟨rfl,rfl⟩
    obtain⟨rfl,rfl⟩:=hs;rw[<-sL];exact⟨S2,γ2,rfl,cO,by rw[dQ];exact YE uF⟩
   .simp at bG
  .simp at bG
 .simp at bG
theorem PH{P:Program}{f:Nat}(hf:Fun P f){o:Oper}{cl:Call}(ho:o.op = .call cl){x:Operand}(hc:cl.callee = .value x){cv:Array Value}(hx:a.eval x = .func (.func f) #[] cv) :
  (execOp a.eval o).run P w = .ok (.enter f (cl.args.map a.eval++cv)) w:=by
 obtain⟨fn,h1,h2,h3⟩:=hf;have jH:¬fn.body=none:=λhn=>by rw[hn]at h2;simp at h2
 have uG : ¬ fn.name = "runtime.NumGoroutine" := by simpa using h3
 simp[execOp,ho,resolve,hc,Deferred.ofValue,hx,invoke,callFunc,h1,jH,uG]
end
section
variable{N:NT}{np:Nat}{S0:aD}{w0:World}{refs:Refs}{σ:St}{a:Go.Act}{w:World}{S:aD}{γ:Nat->Value}
def keyV:(k:Ty)->k.den->Value
 |.int q,n=> .int q n
 |.str,s=> .string s
 |_,_=>undef
theorem Cr:∀{k:Ty}{x:k.den}{u:Value},k.isKey=true->(Rep S w k x [u]↔u=keyV k x)
 |.int q,x,u,_=>by simp[Rep,keyV]
 |.str,x,u,_=>by simp[Rep,keyV]
 |.bool,_,_,h=>by simp[Ty.isKey]at h
 |.unit,_,_,h=>by simp[Ty.isKey]at h
 |.wrap _,_,_,h=>by simp[Ty.isKey]at h
 |.pair _ _,_,_,h=>by simp[Ty.isKey]at h
 |.list _,_,_,h=>by simp[Ty.isKey]at h
 |.arr _ _,_,_,h=>by simp[Ty.isKey]at h
def keyD:Ty->TypeDesc
 |.int q=> .int q
 |_=> .string
theorem YH{P:Program}{T:Nat->Option TyI}(hT:cw P T){n:Nat}{ti:TyI}(hn:T n=some ti){k:Ty}(bA:ti.ty=some k)(hk:k.isKey=true):P.underlying n=some (keyD k):=by
 cases k with
 |int q=>exact HA hT hn bA
 |str=>exact HK hT hn bA
 |_=>simp[Ty.isKey]at hk
theorem PI{k:Ty}(hk:k.isKey=true)(x:k.den):MapKept.IsKey (keyD k) (keyV k x):=by
 cases k with
 |int q=>rfl
 |str=>trivial
 |_=>simp[Ty.isKey]at hk
theorem YI{k:Ty}(hk:k.isKey=true)(x y:k.den):Instr.sameNow (keyD k) (keyV k x) (keyV k y)=some (@BEq.beq _ k.keq x y):=by
 cases k with
 |int q=>simp[keyD,keyV,Instr.sameNow]
 |str=>simp[keyD,keyV,Instr.sameNow]
 |_=>simp[Ty.isKey]at hk
theorem YJ{k:Ty}(hk:k.isKey=true){x y:k.den}(h:@BEq.beq _ k.keq x y=true):x=y:=by
 cases k with
 |int q=>simpa[Ty.keq]using h
 |str=>exact(MapKept.bytes_beq x y).1 h
 |_=>simp[Ty.isKey]at hk
theorem YK{k:Ty}(hk:k.isKey=true)(x:k.den):Instr.sameBits 10000 (keyV k x) (keyV k x)=true:=by
 cases k with
 |int q=>simp[keyV,Instr.sameBits]
 |str=>simp only[keyV,Instr.sameBits];exact(MapKept.bytes_beq x x).2 rfl
 |_=>simp[Ty.isKey]at hk
def Fe(S:aD)(w:World)(k v:Ty)(x:k.den×v.den)(e:MapEntry):Prop:=Rep S w k x.1 [e.key]/\VRep S w ⟨v,x.2⟩ e.val
theorem Ih{k v:Ty}(hk:k.isKey=true)(q:k.den):∀{xs:List (k.den×v.den)}{es:List MapEntry},All2 (Fe S w k v) xs es->∀i:Nat,
  (@hG _ _ k.keq xs q=true/\∃j e,Instr.findNow (keyD k) (keyV k q) es i=some (some (i+j,e.val))/\es[j]? = some e/\e.key=keyV k q/\VRep S w ⟨v,@gq _ _ k.keq v.dflt xs q⟩ e.val/\
   ∀(z:v.den)(e':MapEntry),e'.key=keyV k q->VRep S w ⟨v,z⟩ e'.val->All2 (Fe S w k v) (@gU _ _ k.keq xs q z) (es.set j e'))\/
  (@hG _ _ k.keq xs q=false/\Instr.findNow (keyD k) (keyV k q) es i=some none/\@gq _ _ k.keq v.dflt xs q=v.dflt/\∀z,@gU _ _ k.keq xs q z=xs++[(q,z)])
 |[],[],_,i=> .inr ⟨rfl,rfl,rfl,λ_=>rfl⟩
 |x::xs,e::es,h,i=>by
  have uH:e.key=keyV k x.1:=(Cr hk).1 h.1.1;have hs:=YI hk q x.1;rw[<-uH]at hs;cases hb:@BEq.beq _ k.keq q x.1 with
  |true=>
   rw[hb]at hs;have YL:=YJ hk hb;refine .inl ⟨by simp[hG,hb],0,e,by simp[Instr.findNow,hs],rfl,by rw[uH,YL],?_,λz e' h1 h2=>?_⟩
   .simp only[gq,hb,j5];exact h.1.2
   .simp only[gU,hb,j5,List.set_cons_zero];exact⟨⟨(Cr hk).2 h1,h2⟩,h.2⟩
  |false=>
   rw[hb]at hs;rcases Ih hk q h.2 (i+1) with⟨h1,j,e',h2,h3,h4,h5,h6⟩|⟨h1,h2,h3,h4⟩
   .refine .inl ⟨by simp only[hG,List.any_cons,hb,Bool.false_or];exact h1,j+1,e',by simp only[Instr.findNow,hs,h2];congr 3;omega,by simpa using h3,h4,?_,λz e2 g1 g2=>?_⟩
    .simp only[gq,hb,j6];exact h5
    .simp only[gU,hb,j6,List.set_cons_succ];exact⟨h.1,h6 z e2 g1 g2⟩
   .refine .inr ⟨by simp only[hG,List.any_cons,hb,Bool.false_or];exact h1,by simp only[Instr.findNow,hs,h2],?_,λz=>?_⟩
    .simp only[gq,hb,j6];exact h3
    .simp only[gU,hb,j6,h4 z];rfl
 |[],_::_,h,_=>h.elim
 |_::_,[],h,_=>h.elim
theorem PJ{P:Program}{T:Nat->Option TyI}(hT:cw P T){t:Nat}{k v:Ty}(h:vY T t=some (k,v)) :
  ∃kt vt tv,P.underlying t=some (.map kt vt)/\P.underlying kt=some (keyD k)/\k.isKey=true/\T vt=some tv/\tv.ty=some v:=by
 unfold vY at h;split at h
 .rename_i ti BN;split at h
  .rename_i k0 v0 YM;split at h
   .rename_i tk tv mj zR;split at h
    .rename_i k1 v1 dz YN;split at h
     .rename_i iD;simp only[j4,j8]at h;obtain⟨rfl,rfl⟩:=h;exact⟨k0,v0,tv,Xy hT BN YM,YH hT mj dz iD,iD,zR,YN⟩
     .simp at h
    .simp at h
   .simp at h
  .simp at h
 .simp at h
theorem PK{rw:Nat->BS}(mf:RdR σ rw){t:Nat}{k v:Ty}{x y:Leaf}{b:Nat}{ys:List (k.den×v.den)}{q:k.den}(h:mapC rw t k v x y=some (b,ys,q)) :
  x = .ol b/\y = .d k q/\σ.bx b = .live (.lst (4294967296+t) (.pair k v) ys false):=by
 unfold mapC at h;split at h
 .rename_i b0 tk key;split at h
  .rename_i e a0 xs hb;split at h
   .rename_i he;split at h
    .rename_i Hp q' h1 h2;simp only[j4,j8]at h;obtain⟨rfl,rfl,rfl⟩:=h;have e1:=lV h1;have e2:=lV h2;cases e1;cases e2;subst he;exact⟨rfl,rfl,mf.live hb⟩
    .simp at h
   .simp at h
  .simp at h
 .simp at h
theorem Cs(t:Nat):isM (4294967296+t)=true:=by
 unfold isM;rw[Nat.ble_eq];exact Nat.le_add_right _ _
theorem PL(hR:Rel N np S0 w0 refs σ a w S γ){b t:Nat}{k v:Ty}{ys:List (k.den×v.den)}{f:Bool}(hb:σ.bx b = .live (.lst (4294967296+t) (.pair k v) ys f)) :
  ∃g es clock,γ b = .map (some g)/\w.heap[g]? = some (.map es clock)/\All2 (Fe S w k v) ys es.toList:=by
 have h:=(hR.box b _ hb).1;rcases h with⟨hm,_⟩|⟨_,g,es,clock,h1,h2,h3⟩
 .rw[Cs]at hm;simp at hm
 .exact⟨g,es,clock,h1,h2,h3⟩
theorem YO{P:Program}{T:Nat->Option TyI}(hT:cw P T){n:Nat}{ti:TyI}(hn:T n=some ti){t:Ty}(bA:ti.ty=some t):∃z,(zeroValue n).run P w = .ok z w/\VRep S w ⟨t,t.dflt⟩ z:=by
 obtain⟨i,d,hi,hd,hs,_,ha,_,h⟩:=kY hT hn;obtain⟨_,⟨z,hz,hc⟩,hdo⟩:=h t bA;have PM:=Xz hT hn hi hd;refine⟨z,by simp[zeroValue,typeInfo,hi,hz],?_,?_,?_⟩
 .rw[hc];exact oJ t
 .intro hm;have:aggD d=true:=by cases d<;>cases t<;>simp_all[iN,gG,aggD,Ty.agg]
  simp only[zOk,hz]at PM;cases z<;>simp_all
 .intro hm;have:aggD d=false:=by cases d<;>cases t<;>simp_all[iN,gG,aggD,Ty.agg]
  simp only[zOk,hz]at PM;cases z<;>first|rfl|simp_all
theorem YP{P:Program}{E:Env}(hT:cw P E.T)(hR:Rel N np S0 w0 refs σ a w S γ){rw:Nat->BS}(mf:RdR σ rw){t:Nat}{k v:Ty}(ht:vY E.T t=some (k,v)){x y:Leaf}{b:Nat}{ys:List (k.den×v.den)}{q:k.den}
  (h:mapC rw t k v x y=some (b,ys,q)){zx zy:Value}(hx:bO S w γ σ.bx x zx)(hy:bO S w γ σ.bx y zy) :
  ∃z,VRep S w ⟨v,@gq _ _ k.keq v.dflt ys q⟩ z/\∀ok,(Instr.lookup t zx zy ok).run P w = .ok (if ok then .tuple #[z,.bool (@hG _ _ k.keq ys q)] else z) w:=by
 obtain⟨kt,vt,tv,gh,w6,iD,zR,Ct⟩:=PJ hT ht;obtain⟨rfl,rfl,hb⟩:=PK mf h;obtain⟨g,es,clock,hg,hh,ha⟩:=PL hR hb;have Ii:zx = .map (some g):=(hx.2.2 _ hb).trans hg;have Ij:zy=keyV k q:=(Cr iD).1 hy;subst Ii;subst Ij;have Cu:=MapKept.run_checkKey (w:=w) w6 (PI iD q) es.isEmpty 9999;rcases Ih iD q ha 0 with⟨h1,j,e,h2,h3,h4,h5,h6⟩|⟨h1,h2,h3,h4⟩
 .refine⟨e.val,h5,λok=>?_⟩;have hf:=MapKept.run_findKey (w:=w) w6 h2;simp only[Instr.lookup,Sem.run_bind,run_underlying gh,Result.andThen_ok,MapKept.run_getObj_map hh,Sem.run_pure,Cu,hf,h1]
 .obtain⟨z,hz,YQ⟩:=YO (S:=S) (w:=w) hT zR Ct;refine⟨z,by rw[h3];exact YQ,λok=>?_⟩;have hf:=MapKept.run_findKey (w:=w) w6 h2;simp only[Instr.lookup,Sem.run_bind,run_underlying gh,Result.andThen_ok,MapKept.run_getObj_map hh,Sem.run_pure,Cu,hf,h1,hz]
theorem YR(hR:Rel N np S0 w0 refs σ a w S γ){k:Nat}{b b':Bx}(hk:σ.bx k = .live b){g:Nat}(hg:blk (γ k)=some g)(hS:∀o,¬S g o)(oH:iz b b')
  {w':World}(sM:∀i,i≠g->w'.heap[i]? = w.heap[i]?)(bX:w'.heap.size=w.heap.size)(oL:w'.os=w.os)(Ff:w'.tape=w.tape)(dg:w'.output=w.output)
  (hb:BxLe γ σ.bx γ (σ.setB k (.live b')).bx->cW S w S w'->ei S w' γ (σ.setB k (.live b')).bx k b') :
  Rel N np S0 w0 refs (σ.setB k (.live b')) a w' S γ:=by
 have hle:BxLe γ σ.bx γ (σ.setB k (.live b')).bx:=by
  intro k' bg;by_cases bY:k'=k
  .subst bY;rw[fX];exact⟨by simp,rfl,λb1 da=>by simp at da;subst da;exact⟨b,hk,oH⟩⟩
  .rw[cD σ _ bY];exact⟨bg,rfl,λb hb=>⟨b,hb,.refl b⟩⟩
 have aB:cW S w S w':=by
  intro g' o h;refine⟨h,World.cell?_of_block (sM g' ?_)⟩
  rintro rfl
  exact hS o h
 have bt:∀k' b1,(σ.setB k (.live b')).bx k' = .live b1->∃b2,σ.bx k' = .live b2:=by
  intro k' b1 h1;by_cases bY:k'=k
  .subst bY;exact⟨b,hk⟩
  .rw[cD σ _ bY]at h1;exact⟨b1,h1⟩
 refine Rel.step (bx':=(σ.setB k (.live b')).bx) hR aB hle ?_ ?_ ?_ hR.new ?_ ?_ ?_ (oL.trans hR.os) (Ff.trans hR.tape) (dg.trans hR.output) (λg' _ _ h=>⟨sM g' (λe=>h k b hk (e▸hg)),λk' b1 h1=>by
  obtain⟨b2,h2⟩:=bt k' b1 h1;exact h k' b2 h2⟩)
 .intro k' b1 h1;by_cases bY:k'=k
  .subst bY;rw[fX]at h1;simp at h1;subst h1;exact hb hle aB
  .rw[cD σ _ bY]at h1;refine ei.keep aB hle rfl (λg' aw=>⟨?_,λ_=>Iff.rfl⟩) (hR.box k' b1 h1);exact sM g' (λh=>hR.apart k' k b1 b g bY h1 hk (h▸aw) hg)
 .intro k' b1 g' h1 aw;obtain⟨b2,h2⟩:=bt k' b1 h1;exact hR.own k' b2 g' h2 aw
 .intro k1 k2 b1 b2 g' aZ h1 h2 aw;obtain⟨se,jP⟩:=bt k1 b1 h1;obtain⟨sf,jH⟩:=bt k2 b2 h2;exact hR.apart k1 k2 se sf g' aZ jP jH aw
 .intro g' o h;rw[bX];exact hR.here g' o h
 .intro g' aw hr;rw[sM g' ?_]
  .exact hR.below g' aw hr
  .rintro rfl
   rcases hR.own k b _ hk hg with h|h
   .omega
   .exact hr h.1
 .rw[bX];exact hR.grow
theorem YS{P:Program}{E:Env}(hT:cw P E.T)(hR:Rel N np S0 w0 refs σ a w S γ){rw:Nat->BS}(mf:RdR σ rw){t:Nat}{k v:Ty}(ht:vY E.T t=some (k,v)){x y:Leaf}{b:Nat}{ys:List (k.den×v.den)}{q:k.den}
  (h:mapC rw t k v x y=some (b,ys,q)){zx zy zz:Value}(hx:bO S w γ σ.bx x zx)(hy:bO S w γ σ.bx y zy){rdf:Nat->BS}(bC:RdF np σ rdf){c:Cel}{z:v.den}{u:Ups}(hd:ov rdf v c=some (z,u))(hz:bJ S w γ σ.bx c zz) :
  ∃w' S',(Instr.mapUpdate t zx zy zz).run P w = .ok () w'/\Rel N np S0 w0 refs (σ.upd (u++[(b,.live (.lst (4294967296+t) (.pair k v) (@gU _ _ k.keq ys q z) false))])) a w' S' γ:=by
 obtain⟨kt,vt,tv,gh,w6,iD,zR,Ct⟩:=PJ hT ht;obtain⟨rfl,rfl,hb⟩:=PK mf h;obtain⟨eO,bq,_⟩:=BT bC hd hz;obtain⟨S1,bu,ct,gL,dF⟩:=nD u σ S hR eO;have Cv:u.any (λy=>y.1==b)=false:=by rw[qi];intro y hy uI;obtain⟨_,e,t',xs,f,h1,_,hm⟩:=eO y hy;rw[show y.1=b by simpa using uI,hb]at h1;cases h1;rw[Cs]at hm;simp at hm
 have da:(σ.upd u).bx b = .live (.lst (4294967296+t) (.pair k v) ys false):=(lZ u σ Cv).trans hb;obtain⟨g,es,clock,hg,hh,ha⟩:=PL bu da;have Ii:zx = .map (some g):=(hx.2.2 _ hb).trans hg;have Ij:zy=keyV k q:=(Cr iD).1 hy;subst Ii;subst Ij;have PN:=bq S1 w ct gL;have Ik:blk (γ b)=some g:=by rw[hg];rfl
 have hS:∀o,¬S1 g o:=((bu.box b _ da).2 g Ik).1 rfl;have Cu:=MapKept.run_checkKey (w:=w) w6 (PI iD q) false 9999
 have main:∃uJ ml,(Instr.mapUpdate t (.map (some g)) (keyV k q) zz).run P w = .ok () { w with heap:=w.heap.setIfInBounds g (.map uJ ml) }/\All2 (Fe S1 w k v) (@gU _ _ k.keq ys q z) uJ.toList:=by
  rcases Ih iD q ha 0 with⟨h1,j,e,h2,h3,h4,h5,h6⟩|⟨h1,h2,h3,h4⟩
  .have hf:=MapKept.run_findKey (w:=w) w6 h2;rw[kf]at hf;refine⟨es.modify j λe=>{ e with key:=keyV k q,val:=zz },clock,?_,?_⟩
   .have Il:((es[j]?).map (·.key)).getD (keyV k q)=keyV k q:=by rw[show es[j]? = some e by simpa using h3];exact h4
    simp only[Instr.mapUpdate,Sem.run_bind,run_underlying gh,Result.andThen_ok,MapKept.run_getObj_map hh,Cu,hf,Instr.keyThatStays,Il,YK iD q,if_true,Sem.run_pure,MapKept.run_setObj_map _ hh]
   .have e1:(es.modify j λe=>{ e with key:=keyV k q,val:=zz }).toList=es.toList.set j { e with key:=keyV k q,val:=zz }:=by
     refine vl λi=>?_;rw[qs,Array.getElem?_modify,List.getElem?_set];have uG:es[j]? = some e:=by simpa using h3
     by_cases dG:j=i
     .subst dG;simp only[if_true,uG,kv];rw[if_pos (by simpa using (jk.1 uG).1)]
     .simp[dG]
    rw[e1];exact h6 z _ rfl PN
  .have hf:=MapKept.run_findKey (w:=w) w6 h2;refine⟨es.push { key:=keyV k q,val:=zz,born:=clock },clock+1,?_,?_⟩
   .simp only[Instr.mapUpdate,Sem.run_bind,run_underlying gh,Result.andThen_ok,MapKept.run_getObj_map hh,Cu,hf,MapKept.run_setObj_map _ hh]
   .rw[h4 z,Array.toList_push];exact ha.append ⟨⟨(Cr iD).2 rfl,PN⟩,trivial⟩
 obtain⟨uJ,ml,aK,ao⟩:=main;have an:g<w.heap.size:=(jk.1 hh).1;refine⟨_,S1,aK,?_⟩;rw[jQ];refine YR bu da Ik hS (b':= .lst (4294967296+t) (.pair k v) (@gU _ _ k.keq ys q z) false) ⟨rfl,rfl,λhm=>by rw[Cs]at hm;simp at hm⟩ (λi hi=>by simp[Ne.symm hi]) (by simp) rfl rfl rfl λhle aB=>?_;refine⟨.inr ⟨Cs t,g,uJ,ml,hg,by simp[an],ao.mono λx e hx=>⟨Rep.keep aB _ _ _ hx.1,VRep.keep aB hx.2⟩⟩,λg' aw=>?_⟩;rw[Ik]at aw;simp at aw;subst aw;exact⟨λ_=>hS,λh=>by simp at h⟩
theorem YT{P:Program}(hR:Rel N np S0 w0 refs σ a w S γ){n t:Nat}{k v:Ty}(hn:σ.bx n = .free) :
  ∃γ',(Instr.makeMap t none).run P w = .ok (.map (some w.heap.size)) (w.alloc (.map #[] 0))/\Rel N np S0 w0 refs (σ.setB n (.live (.lst (4294967296+t) (.pair k v) [] false))) a (w.alloc (.map #[] 0)) S γ'/\
   bJ S (w.alloc (.map #[] 0)) γ' (σ.setB n (.live (.lst (4294967296+t) (.pair k v) [] false))).bx (.one (.ol n)) (.map (some w.heap.size)):=by
 have Cv:=HO hR hn (o:= .map #[] 0) (b:= .lst (4294967296+t) (.pair k v) [] false) (v:= .map (some w.heap.size)) (λg hg=>by simp[blk]at hg;exact hg.symm) (λhle=>by
  refine⟨.inr ⟨Cs t,w.heap.size, #[],0,fo _ _ _,heap_alloc_new w _,trivial⟩,λg hg=>?_⟩;rw[fo]at hg;simp[blk]at hg;subst hg;exact⟨λ_ o ho=>by have:=hR.here _ o ho;omega,λh=>by simp at h⟩)
 refine⟨_,rfl,Cv.1,⟨?_,rfl,λb hb=>(fo _ _ _).symm⟩,λ_=>rfl⟩;rw[fX];simp
end
section
variable{N:NT}{np:Nat}{S0:aD}{w0:World}{refs:Refs}{σ:St}{a:Go.Act}{w:World}{S:aD}{γ:Nat->Value}
theorem YU{P:Program}{E:Env}(hT:cw P E.T)(hR:Rel N np S0 w0 refs σ a w S γ){rdf:Nat->BS}(bC:RdF np σ rdf){t:TypeId}{ti:TyI}(ht:E.T t=some ti)
  {m:Nat}{el:Ty}(bA:ti.ty=some (.arr m el)){ps:List (Nat×Cel)}{vs:Array (Nat×Value)}{xs:List el.den}{u:Ups}
  (gC:All2 (λp v=>p.1=v.1/\bJ S w γ σ.bx p.2 v.2) ps vs.toList)(h:ix rdf el (List.replicate m el.dflt) [] ps=some (xs,u)) :
  ∃v S',(Instr.build t vs).run P w = .ok v w/\Rel N np S0 w0 refs (σ.upd u) a w S' γ/\bJ S' w γ (σ.upd u).bx (.av m el xs) v:=by
 obtain⟨gh,bP,te,cN,uK⟩:=zF hT ht bA;have bX:=ny hT cN uK;obtain⟨z,hz,gv⟩:=zD hT ht w bA;obtain⟨eO,cK⟩:=HX bC bP ps vs.toList gC h .nil;obtain⟨S1,bu,ct,gL,dF⟩:=nD u σ S hR eO;obtain⟨Po,css,ao,jW⟩:=oJ (S:=S1) (w:=w) (.arr m el);obtain⟨bh,iU,fJ,gn,df⟩:=cK S1 ct gL css z.cells ao (by rw[gv];exact jW)
 have hlen:∀(ps:List (Nat×Cel)){xs cB:List el.den}{u u':Ups},ix rdf el xs u ps=some (cB,u')->cB.length=xs.length:=by
  intro ps;induction ps with
  |nil=>intro xs cB u u' h;simp[ix]at h;rw[h.1]
  |cons p ps ih=>
   intro xs cB u u' h;obtain⟨i,c⟩:=p;simp only[ix]at h;split at h
   .split at h
    .rw[ih h];simp
    .simp at h
   .simp at h
 have mQ:xs.length=m:=by rw[hlen ps h];simp
 refine⟨.agg bh,S1,?_,bu,bh,rfl,mQ,iU,gn,df⟩;simp only[Instr.build,Sem.run_bind,hz,Result.andThen_ok,run_underlying gh,iO hT cN,<-bX,fJ,Sem.run_pure]
theorem YV{P:Program}{E:Env}(hT:cw P E.T){bx:Nat->BS}{t:TypeId}{ti:TyI}(ht:E.T t=some ti){m:Nat}{el:Ty}(bA:ti.ty=some (.arr m el)) :
  ∃v,(Instr.build t #[]).run P w = .ok v w/\bJ S w γ bx (.st (mK (.arr m el))) v:=by
 obtain⟨gh,bP,te,cN,uK⟩:=zF hT ht bA;obtain⟨z,hz,gv⟩:=zD hT ht w bA;refine⟨.agg z.cells,?_,z.cells,rfl,by rw[gv];exact uu (.arr m el),λu hu=>EZ gv u (by simpa using hu)⟩;simp only[Instr.build,Sem.run_bind,hz,Result.andThen_ok,run_underlying gh,iO hT cN];rfl
theorem PO{rd:Nat->BS}(aR:RdF np σ rd){el:Ty}:∀{ls:List Leaf}{xs:List el.den}{u:Ups}{zs:List Value},rY rd el ls=some (xs,u)->All2 (bO S w γ σ.bx) ls zs->
  FrzL np σ.bx u/\∀S' w',cW S w S' w'->Froz σ.bx γ S' w' u->All2 (λx z=>Rep S' w' el x [z]) xs zs
 |[],xs,u,zs,h,ha=>by
  simp[rY]at h;obtain⟨rfl,rfl⟩:=h;cases zs with
  |nil=>exact⟨.nil,λ_ _ _ _=>trivial⟩
  |cons _ _=>exact ha.elim
 |l::ls,xs,u,zs,h,ha=>by
  cases zs with
  |nil=>exact ha.elim
  |cons z zs=>
   simp only[rY]at h;split at h
   .rename_i x u1 E4 u2 h1 h2;simp only[j4,j8]at h;obtain⟨rfl,rfl⟩:=h;obtain⟨f1,p1⟩:=ur aR h1 ha.1;obtain⟨f2,p2⟩:=PO aR h2 ha.2;exact⟨FrzL.app.2 ⟨f1,f2⟩,λS' w' hk hf=>⟨p1 S' w' hk (Froz.app.1 hf).1,p2 S' w' hk (Froz.app.1 hf).2⟩⟩
   .simp at h
theorem PQ{el:Ty}{S':aD}{w':World}:∀{xs:List el.den}{zs:List Value},All2 (λx z=>Rep S' w' el x [z]) xs zs->∃css,All2 (λx c=>Rep S' w' el x c) xs css/\zs=css.flatten
 |[],[],_=>⟨[],trivial,rfl⟩
 |x::xs,z::zs,h=>by
  obtain⟨css,h1,h2⟩:=PQ h.2;exact⟨[z]::css,⟨h.1,h1⟩,by simp[h2]⟩
 |[],_::_,h=>h.elim
 |_::_,[],h=>h.elim
theorem YW{P:Program}{E:Env}(hT:cw P E.T)(hR:Rel N np S0 w0 refs σ a w S γ){rd rdf:Nat->BS}(aR:RdOk σ rd)(bC:RdF np σ rdf){t:TypeId}{ti:TyI}(ht:E.T t=some ti)
  {x:Leaf}{m:Nat}{el:Ty}{ls:List Leaf}{xs:List el.den}{u:Ups}{v:Value}(h:rZ rd ti.ty x=some (m,el,ls))(hg:rY rdf el ls=some (xs,u))(hl:xs.length=m)(hx:bO S w γ σ.bx x v) :
  ∃z S',(Instr.loadAt t v).run P w = .ok z w/\Rel N np S0 w0 refs (σ.upd u) a w S' γ/\bJ S' w γ (σ.upd u).bx (.av m el xs) z:=by
 unfold rZ at h;split at h
 .rename_i k;split at h
  .rename_i m' EW bA;split at h
   .split at h
    .rename_i fR hk;simp only[j4,j8]at h;obtain⟨rfl,rfl,rfl⟩:=h;have hk:=aR.live hk;obtain⟨g,aw,hu⟩:=hx.2.2 _ hk;obtain⟨g',cur,e,nI,hh,ha,h1,_⟩:=hR.box k _ hk;rw[aw]at nI;simp at nI;subst nI;obtain⟨eO,cK⟩:=PO bC hg ha;obtain⟨S1,bu,ct,gL,dF⟩:=nD u σ S hR eO;obtain⟨css,ao,dB⟩:=PQ (cK S1 w ct gL);have bq:Rep S1 w (.arr m' EW) xs cur.toList:=⟨hl,css,ao,dB⟩;obtain⟨HH,_,_⟩:=zF hT ht bA;obtain⟨i,d,hi,hd,hs,_,kZ,_,BO⟩:=kY hT ht;have bX:cur.size=ti.size:=by have:=Rep.length _ _ _ bq;rw[ny hT ht bA]at this;simpa using this
     refine⟨.agg cur,S1,?_,bu,cur,rfl,bq⟩;subst hu;have:=run_loadVar_row (P:=P) w g e t cur (0,0) d hh hd (by rw[HH]at hd;cases hd;rfl) (by rw[hi];simp[hs,bX]);simp only[Instr.loadAt,Sem.run_bind,Instr.sureAddr,Sem.run_pure,Result.andThen_ok,this]
    .simp at h
   .simp at h
  .simp at h
 .simp at h
def Slot.bare:Slot->Bool
 |.cnd _ _ _=>false
 |_=>true
theorem PR(hR:Rel N np S0 w0 refs σ a w S γ){act:List (Nat×Bool)}(aT:pq (tm a) act)(ps:List (Nat×Operand)) :
  All2 (λp v=>p.1=v.1/\bJ S w γ σ.bx p.2 v.2) (ps.map λp=>(p.1,(σ.ev p.2).cel act)) (ps.map λp=>(p.1,a.eval p.2)):=by
 induction ps with
 |nil=>trivial
 |cons p ps ih=>exact⟨⟨rfl,ee hR aT p.2⟩,ih⟩
theorem Fg(hR:Rel N np S0 w0 refs σ a w S γ){act:List (Nat×Bool)}(aT:pq (tm a) act)(ps:List Operand) :
  All2 (bJ S w γ σ.bx) (ps.map λp=>(σ.ev p).cel act) (ps.map a.eval):=by
 induction ps with
 |nil=>trivial
 |cons p ps ih=>exact⟨ee hR aT p,ih⟩
theorem Cw{rd:Nat->BS}(aR:RdOk σ rd):RdF np σ (λk=>if parK np k then .gone else rd k):=by
 refine⟨λk=>?_,λk e a xs f h=>?_⟩
 rotate_left
 .dsimp only at h
  split at h
  .simp at h
  .exact aR.2 k e a xs f h
 dsimp only
 split
 .exact .inr rfl
 .rename_i hp;rcases aR.1 k with h|h
  .exact .inl ⟨h,by simpa using hp⟩
  .exact .inr h
theorem uL{P:Program}{o:Oper}{l:Leaf}{v:Value}(hR:Rel N np S0 w0 refs σ a w S γ)(hr:(execOp a.eval o).run P w = .ok (.value v) w)
  (hs:bO S w γ σ.bx l v)(h1:One v):HB P N np S0 w0 refs o σ a w S γ (.one (.one l)) []:=
 iP hR hr ⟨hs,λ_=>h1⟩
theorem w7{c:Cel}{l:Leaf}(h:lf c=l)(hd:l ≠ .dead):c = .one l:=by
 cases c with
 |one x=>simp[lf]at h;rw[h]
 |st ls=>simp[lf]at h;exact absurd h.symm hd
 |av n a xs=>simp[lf]at h;exact absurd h.symm hd
theorem Im{P:Program}{E:Env}(hT:cw P E.T)(hR:Rel N E.np S0 w0 refs σ a w S γ){act:List (Nat×Bool)}(aT:pq (tm a) act){rw:Nat->BS}(mf:RdR σ rw)
  {o:Oper}{s:Slot}{u:Ups}(h:dn E σ.ev rw act o=some (.val true s u)):HB P N E.np S0 w0 refs o σ a w S γ s u/\s.bare=true:=by
 have aR:RdOk σ (mskM rw):=mf.msk;have bC:=Cw (np:=E.np) aR;have hex:∀op,o.op=op->execOp a.eval o=execOp a.eval { o with op:=op }:=λop h=>by subst h;rfl
 unfold dn at h;dsimp only at h;split at h
 ·-- move
  rename_i x bN;split at h
  .rename_i l hl;simp only[j4,Act.val.injEq]at h;obtain⟨_,rfl,rfl⟩:=h;have:=po hR x;rw[hl]at this;exact⟨iP hR (v:=a.eval x) (by simp[execOp,bN]) this,rfl⟩
  .simp only[j4,Act.cel,Act.val.injEq]at h;obtain⟨_,rfl,rfl⟩:=h;exact⟨iP hR (v:=a.eval x) (by simp[execOp,bN]) (ee hR aT x),rfl⟩
 ·-- assign
  rename_i x bN;split at h
  .rename_i l hl;simp only[j4,Act.val.injEq]at h;obtain⟨_,rfl,rfl⟩:=h;have:=po hR x;rw[hl]at this;exact⟨iP hR (v:=a.eval x) (by simp[execOp,bN]) this,rfl⟩
  .simp only[j4,Act.cel,Act.val.injEq]at h;obtain⟨_,rfl,rfl⟩:=h;exact⟨iP hR (v:=a.eval x) (by simp[execOp,bN]) (ee hR aT x),rfl⟩
 ·-- pick
  rename_i x y z bN;split at h
  .rename_i v hv;have hx:=ee hR aT x;have Io:a.eval x = .bool v:=by have:=w7 hv (by simp);rw[this]at hx;exact ru hx
   have aK:(execOp a.eval o).run P w = .ok (.value (if v then a.eval y else a.eval z)) w:=by simp[execOp,bN,Io,asBool]
   have hy:v=true->bJ S w γ σ.bx ((σ.ev y).cel (EG x true act)) (a.eval y):=by
    intro w8;refine HC ?_ (po hR y);cases x with
    |tmp t=>
     intro g hg;rcases je.1 hg with rfl|hg
     .simp only;rw[<-w8];exact Io
     .exact aT g hg
    |_=>exact aT
   have hz:v=false->bJ S w γ σ.bx ((σ.ev z).cel (EG x false act)) (a.eval z):=by
    intro w8;refine HC ?_ (po hR z);cases x with
    |tmp t=>
     intro g hg;rcases je.1 hg with rfl|hg
     .simp only;rw[<-w8];exact Io
     .exact aT g hg
    |_=>exact aT
   split at h
   .rename_i t p t' q hp hq;split at h
    .rename_i q' iB;simp only[j4,Act.leaf,Act.val.injEq]at h;obtain⟨_,rfl,rfl⟩:=h;have:=lV iB;cases this;refine⟨iP hR aK ?_,rfl⟩;cases v with
     |true=>have:=hy rfl;rw[hp]at this;exact this
     |false=>have:=hz rfl;rw[hq]at this;exact this
    .simp at h
   .rename_i t p hp hq;simp only[j4,Act.val.injEq]at h;obtain⟨gw,rfl,rfl⟩:=h;have gw:v=true:=gw;subst gw;refine⟨iP hR aK ?_,rfl⟩;have:=hy rfl;rw[hp]at this;exact this
   .rename_i t q hp hq;simp only[j4,Act.val.injEq]at h;obtain⟨gw,rfl,rfl⟩:=h;have gw:v=false:=by simpa using gw
    subst gw;refine⟨iP hR aK ?_,rfl⟩;have:=hz rfl;rw[hq]at this;exact this
   .simp at h
  .simp at h
 ·-- alloc
  rename_i t bN;split at h
  .rename_i ti ht;split at h
   .rename_i aY;have hd:=aR.free aY;split at h
    .rename_i k el bA;split at h
     .simp only[j4,Act.val.injEq]at h;obtain⟨_,rfl,rfl⟩:=h;obtain⟨z,gv,hz⟩:=HW (w:=w) hT ht bA;obtain⟨dj,hc⟩:=HP hR hd (ls:=mK (.arr k el)) (cur:=z.cells) (e:=t) (by rw[gv];exact uu (.arr k el)) (EZ gv);exact⟨⟨_,_,S,_,.inl (by simp[execOp,bN,hz]),dj,hc⟩,rfl⟩
     simp only[j4,Act.val.injEq]at h;obtain⟨_,rfl,rfl⟩:=h;obtain⟨z,gv,hz⟩:=HW (w:=w) hT ht bA;obtain⟨dj,hc⟩:=OZ hR hd (m:=k) (t:=el) (xs:=List.replicate k el.dflt) (cur:=z.cells) (e:=t) (by rw[gv];exact oJ (.arr k el));exact⟨⟨_,_,S,_,.inl (by simp[execOp,bN,hz]),dj,hc⟩,rfl⟩
    .rename_i ty aZ bA;simp only[j4,Act.val.injEq]at h;obtain⟨_,rfl,rfl⟩:=h;obtain⟨z,gv,hz⟩:=HW (w:=w) hT ht bA;obtain⟨dj,hc⟩:=HP hR hd (ls:=mK ty) (cur:=z.cells) (e:=t) (by rw[gv];exact uu ty) (EZ gv);exact⟨⟨_,_,S,_,.inl (by simp[execOp,bN,hz]),dj,hc⟩,rfl⟩
    .simp at h
   .simp at h
  .simp at h
 ·-- box
  rename_i t x bN;split at h
  .rename_i aY;have hd:=aR.free aY;have hx:=ee hR aT x;split at h
   .rename_i k el xs hc;simp only[j4,Act.val.injEq]at h;obtain⟨_,rfl,rfl⟩:=h;rw[hc]at hx;obtain⟨cs,hu,bq⟩:=hx;obtain⟨dj,cT⟩:=OZ hR hd (m:=k) (t:=el) (xs:=xs) (cur:=(a.eval x).cells) (e:=t) (by rw[hu];exact bq);exact⟨⟨_,_,S,_,.inl (by simp[execOp,bN,Pb]),dj,cT⟩,rfl⟩
   .split at h
    .rename_i ls YX;simp only[j4,Act.val.injEq]at h;obtain⟨_,rfl,rfl⟩:=h;obtain⟨hl,h1⟩:=BV YX hx;obtain⟨dj,cT⟩:=HP hR hd (ls:=ls) (cur:=(a.eval x).cells) (e:=t) hl h1;exact⟨⟨_,_,S,_,.inl (by simp[execOp,bN,Pb]),dj,cT⟩,rfl⟩
    .simp at h
  .simp at h
 ·-- build
  rename_i t ps bN;have gC:=PR hR aT ps.toList;have sN:All2 (λp v=>p.1=v.1/\bJ S w γ σ.bx p.2 v.2) (ps.toList.map λp=>(p.1,(σ.ev p.2).cel act)) (ps.map λp=>(p.1,a.eval p.2)).toList:=by simpa using gC
  split at h
  .rename_i ti ht;split at h
   .rename_i k el bA;split at h
    .rename_i PS;simp only[j4,Act.cel,Act.val.injEq]at h;obtain⟨_,rfl,rfl⟩:=h;obtain⟨v,aK,hc⟩:=YV (w:=w) (S:=S) (γ:=γ) (bx:=σ.bx) hT ht bA;have sO:ps = #[]:=by simp only[jb,List.isEmpty_iff]at PS;exact Array.toList_eq_nil_iff.1 PS.2
     subst sO;exact⟨iP hR (v:=v) (by simp[execOp,bN,aK]) hc,rfl⟩
    split at h
    .rename_i xs u' hb;simp only[j4,Act.val.injEq]at h;obtain⟨_,rfl,rfl⟩:=h;obtain⟨v,S',aK,dj,hc⟩:=YU hT hR bC ht bA sN hb;exact⟨⟨v,w,S',γ,.inl (by simp[execOp,bN,aK]),dj,hc⟩,rfl⟩
    .simp at h
   .rename_i ty aZ bA;split at h
    .rename_i kZ;split at h
     .rename_i ls hb;simp only[j4,Act.cel,Act.val.injEq]at h;obtain⟨_,rfl,rfl⟩:=h;obtain⟨v,aK,hc⟩:=Yh hT ht bA kZ sN hb;exact⟨iP hR (v:=v) (by simp[execOp,bN,aK]) hc,rfl⟩
     .simp at h
    .simp at h
   .simp at h
  .simp at h
 ·-- buildSlice
  rename_i t len ps bN;have gC:=PR hR aT ps.toList;have sN:All2 (λp v=>p.1=v.1/\bJ S w γ σ.bx p.2 v.2) (ps.toList.map λp=>(p.1,(σ.ev p.2).cel act)) (ps.map λp=>(p.1,a.eval p.2)).toList:=by simpa using gC
  split at h
  .rename_i ti ht;split at h
   .rename_i el bA;split at h
    .simp at h
    .rename_i hlen;split at h
     .rename_i xs u' hb;split at h
      .rename_i aY;simp only[j4,Act.val.injEq]at h;obtain⟨_,rfl,rfl⟩:=h;obtain⟨v',w',S',γ',aK,dj,hc⟩:=Yu hT hR bC ht bA (by omega) sN hb (aR.free aY);exact⟨⟨v',w',S',γ',.inl (by simp[execOp,bN,aK]),dj,hc⟩,rfl⟩
      .simp at h
     .simp at h
   .simp at h
  .simp at h
 ·-- load
  rename_i t x bN;split at h
  .rename_i ti ht;split at h
   .rename_i m el ls pM;split at h
    .rename_i xs u' hg;split at h
     .rename_i hlen;simp only[j4,Act.val.injEq]at h;obtain⟨_,rfl,rfl⟩:=h;obtain⟨z,S',hz,dj,ib⟩:=YW hT hR aR bC ht pM hg hlen (iQ (ee hR aT x));exact⟨⟨z,w,S',γ,.inl (by simp[execOp,bN,hz]),dj,ib⟩,rfl⟩
     .simp at h
    .simp at h
   unfold oCel at h;split at h
   .rename_i c hc;simp only[j4,Act.cel,Act.val.injEq]at h;obtain⟨_,rfl,rfl⟩:=h;obtain⟨z,hz,ib⟩:=OV hT hR aR ht hc (iQ (ee hR aT x));exact⟨iP hR (v:=z) (by simp[execOp,bN,hz]) ib,rfl⟩
   .simp at h
  .simp at h
 ·-- store
  rename_i t x y bN;split at h
  .rename_i ti ht;split at h
   .rename_i u' hu;simp only[j4,Act.val.injEq]at h;obtain⟨_,rfl,rfl⟩:=h;obtain⟨w',S',aK,dj⟩:=X7 hT hR aR bC ht hu (iQ (ee hR aT x)) (ee hR aT y);exact⟨⟨undef,w',S',γ,.inr ⟨by simp[execOp,bN,aK],rfl⟩,dj,⟨trivial,λh=>absurd rfl h⟩⟩,rfl⟩
   .simp at h
  .simp at h
 ·-- nilCheck
  rename_i x bN;have hx:=ee hR aT x;split at h
  .rename_i k p hl;split at h
   .rename_i gm;simp only[j4,Act.leaf,Act.val.injEq]at h;obtain⟨_,rfl,rfl⟩:=h;rw[w7 hl (by simp)]at hx;obtain⟨b,hb⟩:=BP gm;obtain⟨g,_,hu⟩:=hx.1.2.2 b (aR.live hb);exact⟨iP hR (v:=a.eval x) (by simp[execOp,bN,hu]) hx,rfl⟩
   .simp at h
  .rename_i k i p hl;split at h
   .rename_i gm;simp only[j4,Act.leaf,Act.val.injEq]at h;obtain⟨_,rfl,rfl⟩:=h;rw[w7 hl (by simp)]at hx;obtain⟨b,hb⟩:=BP gm;have h3:=hx.1.2.2 b (aR.live hb)
    have hu:∃g o,a.eval x = .pointer (some ⟨g,o,none⟩):=by
     cases b with
     |cell ls f=>exact h3.elim
     |lst e t xs f=>obtain⟨_,_,g,cap,_,hu⟩:=h3;exact⟨_,_,hu⟩
     |arr n t xs=>obtain⟨_,g,_,hu⟩:=h3;exact⟨_,_,hu⟩
    obtain⟨g,YY,hu⟩:=hu;exact⟨iP hR (v:=a.eval x) (by simp[execOp,bN,hu]) hx,rfl⟩
   .simp at h
  .rename_i ls hl;simp only[j4,Act.leaf,Act.val.injEq]at h;obtain⟨_,rfl,rfl⟩:=h;rw[w7 hl (by simp)]at hx;obtain⟨g,YY,cs,hu,_⟩:=hx.1;exact⟨iP hR (v:=a.eval x) (by simp[execOp,bN,hu]) hx,rfl⟩
  .simp at h
 ·-- binOp
  rename_i op t x y rest bN;unfold oChk at h;split at h
  .rename_i b c hc;simp only[j4,Act.val.injEq]at h;obtain⟨rfl,rfl,rfl⟩:=h;obtain⟨z,hz,hl,h1⟩:=XI (x:=x) (y:=y) hT hc (ee hR aT x) (ee hR aT y);refine⟨uL hR ?_ hl h1,rfl⟩;simp only[execOp,bN];rw[Sem.run_bind,hz];rfl
  .simp at h
 ·-- unOp
  rename_i op t x bN;unfold lU at h;split at h
  .rename_i c hc;simp only[j4,Act.leaf,Act.val.injEq]at h;obtain⟨_,rfl,rfl⟩:=h;obtain⟨z,hz,hl,h1⟩:=XJ hc (ee hR aT x);refine⟨uL hR ?_ hl h1,rfl⟩;simp only[execOp,bN];rw[Sem.run_bind,hz];rfl
  .simp at h
 ·-- convert
  rename_i src dst x bN;split at h
  .rename_i ts ti nJ ht;split at h
   .rename_i k v k0 k' hl Ip bA;simp only[j4,Act.leaf,Act.val.injEq]at h;obtain⟨_,rfl,rfl⟩:=h;have hx:=ee hR aT x;rw[w7 hl (by simp)]at hx;have hu:=um hx;have gh:=HA hT ht bA;refine⟨uL hR (v:= .int k' (k'.wrap v)) ?_ rfl rfl,rfl⟩;have Cx:=HA hT nJ Ip;simp only[execOp,bN];rw[Sem.run_bind];have:(convert src dst (a.eval x)).run P w = .ok (.int k' (k'.wrap v)) w:=by simp only[hu,convert,Sem.run_bind,run_underlying Cx,run_underlying gh,Result.andThen_ok];simp[Conv.intToInt]
    rw[this];rfl
   .simp at h
  .simp at h
 ·-- makeFunc
  rename_i f first caps bN
  split at h
  .rename_i gM;split at h
   .split at h
    .rename_i ks hl;simp only[j4,Act.val.injEq]at h;obtain⟨_,rfl,rfl⟩:=h;have dh:=Fg hR aT caps.toList;have Fh:first = #[]:=by simpa using gM
     refine⟨⟨.func (.func f) #[] (caps.map a.eval),w,S,γ,.inl ?_,hR,⟨⟨_,rfl,by
      have:=Pr hl dh;rw[<-Array.toList_map]at this;exact this⟩,λ_=>rfl⟩⟩,rfl⟩
     simp[execOp,bN,Fh,Instr.makeFunc]
    .simp at h
   split at h
   .rename_i l u' hl;simp only[j4,Act.val.injEq]at h;obtain⟨_,rfl,rfl⟩:=h;have dh:=Fg hR aT caps.toList;obtain⟨S',dj,_,cL,_⟩:=Pq bC hl hR dh;have Fh:first = #[]:=by simpa using gM
    refine⟨⟨.func (.func f) #[] (caps.map a.eval),w,S',γ,.inl ?_,dj,⟨⟨_,rfl,by simpa using cL⟩,λ_=>rfl⟩⟩,rfl⟩;simp[execOp,bN,Fh,Instr.makeFunc]
   .simp at h
  .simp at h
 ·-- fieldAddr
  rename_i t x i bN;split at h
  .rename_i ti ht;unfold lU at h;split at h
   .rename_i c hc;simp only[j4,Act.leaf,Act.val.injEq]at h;obtain⟨_,rfl,rfl⟩:=h;obtain⟨z,hz,hl,h1⟩:=XU hT aR ht hc (iQ (ee hR aT x));exact⟨uL hR (by simp[execOp,bN,hz]) hl h1,rfl⟩
   .simp at h
  .simp at h
 ·-- field
  rename_i t x i bN;split at h
  .rename_i ti ht;split at h
   .rename_i ls f hc hf;split at h
    .rename_i tf pk;unfold oCel at h;split at h
     .rename_i c bG;simp only[j4,Act.cel,Act.val.injEq]at h;obtain⟨_,rfl,rfl⟩:=h;have hx:=ee hR aT x;rw[hc]at hx;obtain⟨cs,hu,ao,h1⟩:=hx;obtain⟨fs,gh,fl,eO,lI,sP,tf',YZ,bP⟩:=OJ hT ht hf;rw[<-sP]at pk;have gn:=(ao.drop fl.offset).take tf.size;have jP:∀u∈(cs.toList.drop fl.offset).take tf.size,One u:=λu fi=>h1 u (za (qf fi));rw[<-lI]at bG
      have pr:∃z,(part fl.type cs fl.offset).run P w = .ok z w/\bJ S w γ σ.bx c z:=by
       unfold rX at bG;split at bG
       .rename_i lW;split at bG
        .rename_i hlen;simp only[j4]at bG;subst bG;refine⟨.agg (cs.extract fl.offset (fl.offset+tf.size)),?_,_,rfl,?_,?_⟩
         .simp only[part,Sem.run_bind,zC hT pk,lW,Result.andThen_ok,if_true,iO hT pk,Sem.run_pure]
         .have:(cs.extract fl.offset (fl.offset+tf.size)).toList=(cs.toList.drop fl.offset).take tf.size:=by simp[List.take_drop]
          rw[this];exact gn
         .have:(cs.extract fl.offset (fl.offset+tf.size)).toList=(cs.toList.drop fl.offset).take tf.size:=by simp[List.take_drop]
          rw[this];exact jP
        .simp at bG
       .rename_i lW;split at bG
        .rename_i l' jX;simp only[j4]at bG;subst bG;rw[jX]at gn;cases hq:(cs.toList.drop fl.offset).take tf.size with
         |nil=>rw[hq]at gn;exact gn.elim
         |cons z zs=>
          rw[hq]at gn jP
          have hz:cs[fl.offset]? = some z:=by
           have:((cs.toList.drop fl.offset).take tf.size)[0]? = some z:=by rw[hq];rfl
           have:=EM this;simpa using this
          refine⟨z,?_,gn.1,λ_=>jP z (by simp)⟩;simp only[part,Sem.run_bind,zC hT pk,Result.andThen_ok,if_neg lW,hz,Sem.run_pure]
        .simp at bG
      obtain⟨z,hz,ib⟩:=pr;refine⟨iP hR (v:=z) ?_ ib,rfl⟩;simp only[execOp,bN,hu];rw[Sem.run_bind];have:(Instr.field t (.agg cs) i).run P w = .ok z w:=by simp only[Instr.field,Sem.run_bind,run_underlying gh,Result.andThen_ok,eO,asAgg,Sem.run_pure,hz]
      rw[this];rfl
     .simp at h
    .simp at h
   .simp at h
  .simp at h
 ·-- indexAddr
  rename_i t x i bN;split at h
  .rename_i ti ht;unfold oChk at h;split at h
   .rename_i b c hc;simp only[j4,Act.val.injEq]at h;obtain⟨rfl,rfl,rfl⟩:=h;obtain⟨z,hz,hl,h1⟩:=XV hT hR aR ht hc (iQ (ee hR aT x)) (iQ (ee hR aT i));exact⟨uL hR (by simp[execOp,bN,hz]) hl h1,rfl⟩
   .simp at h
  .simp at h
 ·-- index
  rename_i t x i bN;split at h
  .rename_i ti ht;split at h
   .rename_i b c hc;simp only[j4,Act.val.injEq]at h;obtain⟨rfl,rfl,rfl⟩:=h;obtain⟨z,hz,ib⟩:=XX hT ht hc (ee hR aT x) (iQ (ee hR aT i));exact⟨iP hR (v:=z) (by simp[execOp,bN,hz]) ib,rfl⟩
   .simp at h
  .simp at h
 ·-- makeMap
  rename_i t bN;split at h
  .rename_i k v ht;split at h
   .rename_i iR;simp only[j4,Act.val.injEq]at h;obtain⟨_,rfl,rfl⟩:=h;obtain⟨γ',aK,dj,cT⟩:=YT (P:=P) (t:=t) (k:=k) (v:=v) hR (aR.free iR);exact⟨⟨_,_,S,γ',.inl (by simp[execOp,bN,aK]),dj,cT⟩,rfl⟩
   .simp at h
  .simp at h
 ·-- lookup
  rename_i t x i ok bN;split at h
  .rename_i k v ht;split at h
   .rename_i b ys q hm;obtain⟨z,hz,aK⟩:=YP hT hR mf ht hm (iQ (ee hR aT x)) (iQ (ee hR aT i));split at h
    .simp only[j4,Act.val.injEq]at h;obtain⟨_,rfl,rfl⟩:=h;have hr:=aK true;simp only[if_true]at hr;refine⟨iP hR (v:= .tuple #[z,.bool (@hG _ _ k.keq ys q)]) (by simp[execOp,bN,hr]) ?_,rfl⟩;exact⟨_,rfl,zN hz,⟨rfl,λ_=>rfl⟩,trivial⟩
    .simp only[j4,Act.cel,Act.val.injEq]at h;obtain⟨_,rfl,rfl⟩:=h;have hr:=aK false;simp only[km,qz]at hr;exact⟨iP hR (v:=z) (by simp[execOp,bN,hr]) (zN hz),rfl⟩
   .simp at h
  .simp at h
 ·-- mapUpdate
  rename_i t x i y bN;split at h
  .rename_i k v ht;split at h
   .rename_i b ys q z u' hm hd;simp only[j4,Act.val.injEq]at h;obtain⟨_,rfl,rfl⟩:=h;obtain⟨w',S',aK,dj⟩:=YS hT hR mf ht hm (iQ (ee hR aT x)) (iQ (ee hR aT i)) bC hd (ee hR aT y);exact⟨⟨undef,w',S',γ,.inr ⟨by simp[execOp,bN,aK],rfl⟩,dj,⟨trivial,λh=>absurd rfl h⟩⟩,rfl⟩
   .simp at h
  .simp at h
 ·-- extract
  rename_i x i bN;split at h
  .rename_i l hl;split at h
   .rename_i c hc;simp only[j4,Act.cel,Act.val.injEq]at h;obtain⟨_,rfl,rfl⟩:=h;have hx:=po hR x;rw[hl]at hx;obtain⟨vs,hu,ao⟩:=hx;obtain⟨z,hz,ib⟩:=ao.get i c hc;refine⟨iP hR (v:=z) ?_ ib,rfl⟩;have Cy:vs[i]? = some z:=by simpa using hz
    simp[execOp,bN,hu,Instr.extract,Cy]
   .simp at h
  .simp at h
 ·-- call
  rename_i cl bN;have dh:=Fg hR aT cl.args.toList;split at h
  ·-- len
   rename_i dv;split at h
   .rename_i x t fS nJ;split at h
    .rename_i ti ht;unfold lU at h;split at h
     .rename_i c hc;simp only[j4,Act.leaf,Act.val.injEq]at h;obtain⟨_,rfl,rfl⟩:=h;obtain⟨z,hz,hl,h1⟩:=XZ (ty:=o.type) hT hR aR ht hc (iQ (ee hR aT x));have e1:cl.args = #[x]:=by apply qo;simpa using fS
      have e2:cl.argTypes = #[t]:=by apply qo;simpa using nJ
      refine⟨uL hR (v:=z) ?_ hl h1,rfl⟩;simp[execOp,bN,resolve,dv,invoke,builtin,e1,e2,hz]
     .simp at h
    .simp at h
   .simp at h
  ·-- min
   rename_i dv;unfold lU at h;split at h
   .rename_i c hc;simp only[j4,Act.leaf,Act.val.injEq]at h;obtain⟨_,rfl,rfl⟩:=h;obtain⟨z,hz,hl,h1⟩:=XK (P:=P) (ts:=cl.argTypes) (ty:=o.type) hc dh;refine⟨uL hR (v:=z) ?_ hl h1,rfl⟩;have e1:cl.args.map a.eval=(cl.args.toList.map a.eval).toArray:=by apply qo;simp
    simp[execOp,bN,resolve,dv,invoke,builtin,e1,hz]
   .simp at h
  ·-- max
   rename_i dv;unfold lU at h;split at h
   .rename_i c hc;simp only[j4,Act.leaf,Act.val.injEq]at h;obtain⟨_,rfl,rfl⟩:=h;obtain⟨z,hz,hl,h1⟩:=XL (P:=P) (ts:=cl.argTypes) (ty:=o.type) hc dh;refine⟨uL hR (v:=z) ?_ hl h1,rfl⟩;have e1:cl.args.map a.eval=(cl.args.toList.map a.eval).toArray:=by apply qo;simp
    simp[execOp,bN,resolve,dv,invoke,builtin,e1,hz]
   .simp at h
  ·-- append
   rename_i dv;split at h
   .rename_i t t' s' x nJ fS;split at h
    .rename_i w9;subst w9;split at h
     .rename_i ti ht;split at h
      .rename_i el bA;split at h
       .rename_i xs frz u' ys hs hx;split at h
        .rename_i aY;simp only[j4,Act.val.injEq,jo]at h;obtain⟨eu,rfl,rfl⟩:=h;obtain⟨v',w',S',γ',aK,dj,cT⟩:=Yc (ty:=o.type) hT hR aR bC ht bA hs hx (aR.free aY) eu (iQ (ee hR aT s')) (iQ (ee hR aT x));have e1:cl.args = #[s',x]:=by apply qo;simpa using fS
         have e2:cl.argTypes = #[t,t]:=by apply qo;simpa using nJ
         refine⟨⟨v',w',S',γ',.inl ?_,dj,cT⟩,rfl⟩;simp[execOp,bN,resolve,dv,invoke,builtin,e1,e2,aK]
        .simp at h
       .simp at h
      .simp at h
     .simp at h
    .simp at h
   .simp at h
  ·-- value
   split at h
   .split at h
    .split at h
     .simp at h
     .simp at h
    .simp at h
   .split at h
    .split at h
     .simp at h
     .simp at h
    .simp at h
   .simp at h
  ·-- copy
   rename_i dv;split at h
   .rename_i t t' x y nJ fS;split at h
    .rename_i w9;subst w9;split at h
     .rename_i ti ht;split at h
      .rename_i c u' hc;simp only[j4,Act.val.injEq]at h;obtain⟨_,rfl,rfl⟩:=h;obtain⟨v',w',aK,dj,cT⟩:=Yp (ty:=o.type) hT hR aR ht hc (iQ (ee hR aT x)) (iQ (ee hR aT y));have e1:cl.args = #[x,y]:=by apply qo;simpa using fS
       have e2:cl.argTypes = #[t,t]:=by apply qo;simpa using nJ
       refine⟨⟨v',w',S,γ,.inl ?_,dj,cT⟩,rfl⟩;simp[execOp,bN,resolve,dv,invoke,builtin,e1,e2,aK]
      .simp at h
     .simp at h
    .simp at h
   .simp at h
  ·-- clear
   rename_i dv;split at h
   .rename_i t x nJ fS;split at h
    .rename_i ti ht;split at h
     .rename_i u' hc;simp only[j4,Act.val.injEq]at h;obtain⟨_,rfl,rfl⟩:=h;obtain⟨v',w',aK,dj⟩:=Yq (ty:=o.type) hT hR aR ht hc (iQ (ee hR aT x));have e1:cl.args = #[x]:=by apply qo;simpa using fS
      have e2:cl.argTypes = #[t]:=by apply qo;simpa using nJ
      refine⟨⟨v',w',S,γ,.inl ?_,dj,⟨trivial,λh=>absurd rfl h⟩⟩,rfl⟩;simp[execOp,bN,resolve,dv,invoke,builtin,e1,e2,aK]
     .simp at h
    .simp at h
   .simp at h
  .simp at h
 ·-- slice
  rename_i t x lo hi bN;split at h
  .rename_i ti ht;split at h
   .rename_i b c u' hc;simp only[j4,Act.val.injEq]at h;obtain⟨rfl,rfl,rfl⟩:=h
    have ho:∀y:Option Operand,ORep (bO S w γ σ.bx) (y.map λx=>lf ((σ.ev x).cel act)) (y.map a.eval):=by
     intro y;cases y with
     |none=>trivial
     |some y=>exact iQ (ee hR aT y)
    obtain⟨v',S',γ',aK,dj,cT⟩:=Yl hT hR aR ht (λk hk=>aR.free hk) hc (iQ (ee hR aT x)) (ho lo) (ho hi);refine⟨⟨v',w,S',γ',.inl ?_,dj,cT⟩,rfl⟩;simp[execOp,bN,aK]
   .simp at h
  .simp at h
 .simp at h
theorem PT{P:Program}{E:Env}(hR:Rel N E.np S0 w0 refs σ a w S γ){act:List (Nat×Bool)}(aT:pq (tm a) act){rw:Nat->BS}(mf:RdR σ rw)
  {o:Oper}{f:Nat}{args:List Arg}{mk:Ret->Option (Slot×Ups)}(h:dn E σ.ev rw act o=some (.call f args mk))(hf:Fun P f){K:Ret->Prop}(eF:E7 P f args K) :
  ∃vals,(execOp a.eval o).run P w = .ok (.enter f vals) w/\
   (Calls P f vals w λe w'=>∃ret,K ret/\∀s u,mk ret=some (s,u)->∃v S' γ',e = .returned v/\Rel N E.np S0 w0 refs (σ.upd u) a w' S' γ'/\gz S' w' γ' (σ.upd u).bx (tm a) s v)/\
   ∀ret s u,mk ret=some (s,u)->s.bare=true:=by
 have aR:RdOk σ (mskM rw):=mf.msk;have bC:=Cw (np:=E.np) aR;unfold dn at h;dsimp only at h;split at h
 case h_23 cl bN=>
  have dh:=Fg hR aT cl.args.toList;split at h
  case h_5 x dv=>
   split at h
   .rename_i g caps hl;split at h
    .rename_i as us fs has;split at h
     .rename_i bH;simp only[j4,Act.call.injEq]at h;obtain⟨rfl,rfl,rfl⟩:=h;have hx:=ee hR aT x;rw[w7 hl (by simp)]at hx;obtain⟨cv,hu,rE⟩:=hx.1;refine⟨_,PH hf bN dv hu,?_,?_⟩
      .have:=PG hR mf aR bC has dh bH rE eF ((o.dst.getD 0)*64);have e1:(cl.args.toList.map a.eval++cv.toList).toArray=cl.args.map a.eval++cv:=by apply qo;simp
       rwa[e1]at this
      .intro ret s u bG;unfold r7 at bG;split at bG
       .unfold mkHd at bG;split at bG
        .split at bG
         .split at bG
          .simp only[j4,j8]at bG;rw[<-bG.1];rfl
          .simp at bG
         .simp at bG
        .simp at bG
       split at bG
       .split at bG
        .split at bG
         .revert bG;dsimp only;split<;>(intro bG;simp only[j4,j8]at bG;rw[<-bG.1];rfl)
         .simp at bG
        .simp at bG
       .simp at bG
     .simp at h
    .simp at h
   .rename_i g ks hl;split at h
    .rename_i as us fs has;split at h
     .rename_i bH;simp only[j4,Act.call.injEq]at h;obtain⟨rfl,rfl,rfl⟩:=h;have hx:=ee hR aT x;rw[w7 hl (by simp)]at hx;obtain⟨cv,hu,rE⟩:=hx.1;refine⟨_,PH hf bN dv hu,?_,?_⟩
      .have:=PG hR mf aR bC has (dh.append (Ps rE)) bH (caps:=[]) (cv:=[]) trivial (by simpa using eF) ((o.dst.getD 0)*64);have e1:((cl.args.toList.map a.eval++cv.toList)++[]).toArray=cl.args.map a.eval++cv:=by apply qo;simp
       rwa[e1]at this
      .intro ret s u bG;unfold r7 at bG;split at bG
       .unfold mkHd at bG;split at bG
        .split at bG
         .split at bG
          .simp only[j4,j8]at bG;rw[<-bG.1];rfl
          .simp at bG
         .simp at bG
        .simp at bG
       split at bG
       .split at bG
        .split at bG
         .revert bG;dsimp only;split<;>(intro bG;simp only[j4,j8]at bG;rw[<-bG.1];rfl)
         .simp at bG
        .simp at bG
       .simp at bG
     .simp at h
    .simp at h
   .simp at h
  all_goals (first|(simp at h;done)|skip)
  all_goals (exfalso;revert h;try simp only[lU])
  all_goals (repeat' split)
  all_goals simp[Act.leaf]
 all_goals (first|(simp at h;done)|skip)
 all_goals (repeat' (first|(simp at h;done)|split at h))<;>simp_all[lU,oCel,oChk,Act.leaf,Act.cel]
 all_goals (repeat' (split at h))<;>simp_all
end
end Go.Lft
