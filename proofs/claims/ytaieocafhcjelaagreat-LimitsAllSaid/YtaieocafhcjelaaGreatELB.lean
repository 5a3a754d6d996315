/- New variables; HV Yl variables. -/
import Derived.Test.YtaieocafhcjelaaGreatELA
import Derived.MapKept
set_option linter.unusedVariables false
namespace Go.Lft
section
variable{N:NT}{np:Nat}{S0:aF}{w0:World}{refs:Refs}{σ:St}{a:Go.Act}{w:World}{S:aF}{γ:Nat->Value}
def gset(γ:Nat->Value)(n:Nat)(v:Value):Nat->Value:=λk=>if k=n then v else γ k
theorem fy(γ:Nat->Value)(n:Nat)(v:Value):gset γ n v n=v:=by simp[gset]
theorem gh(γ:Nat->Value){n k:Nat}(v:Value)(h:k≠n):gset γ n v k=γ k:=by simp[gset,h]
theorem zR(hR:Rel N np S0 w0 refs σ a w S γ)(o:Obj):cX S w S (w.alloc o):=
 λg i h=>⟨h,World.cell?_alloc_lt w o ⟨g,i,none⟩ (hR.here g i h)⟩
theorem l9{bx:Nat->BS}{k:Nat}{b:Bx}(h:ez S w γ bx k b){g:Nat}(hg:blk (γ k)=some g):g<w.heap.size:=by
 cases b with
 |cell ls frz=>obtain⟨g',cur,e,h1,h2,_⟩:=h;rw[h1]at hg;simp[blk]at hg;subst hg;exact(jm.1 h2).1
 |lst e t xs frz=>exact h.1.lt hg
 |arr n t xs=>obtain⟨g',cur,e,h1,h2,_⟩:=h;rw[h1]at hg;simp[blk]at hg;subst hg;exact(jm.1 h2).1
theorem HW(hR:Rel N np S0 w0 refs σ a w S γ){n:Nat}(hn:σ.bx n = .free){o:Obj}{b:Bx}{v:Value}(hv:∀g,blk v=some g->g=w.heap.size)
  (hb:BxLe γ σ.bx (gset γ n v) (σ.setB n (.live b)).bx->ez S (w.alloc o) (gset γ n v) (σ.setB n (.live b)).bx n b) :
  Rel N np S0 w0 refs (σ.setB n (.live b)) a (w.alloc o) S (gset γ n v)/\BxLe γ σ.bx (gset γ n v) (σ.setB n (.live b)).bx:=by
 have hle:BxLe γ σ.bx (gset γ n v) (σ.setB n (.live b)).bx:=by
  intro k hk;have ba:k≠n:=by rintro rfl;exact hk hn
  rw[cE σ _ ba,gh γ v ba];exact⟨hk,rfl,λb hb=>⟨b,hb,.refl b⟩⟩
 have aC:=zR hR o
 refine⟨Rel.step (bx':=(σ.setB n (.live b)).bx) hR aC hle ?_ ?_ ?_ hR.new ?_ ?_ ?_ hR.os hR.tape hR.output (λg hg _ h=>⟨heap_alloc_old w o hg,λk b' aP dm=>by
  by_cases hk:k=n
  .subst hk;rw[fy]at dm;have:=hv g dm;omega
  .rw[cE σ _ hk]at aP;rw[gh γ v hk]at dm;exact h k b' aP dm⟩),hle⟩
 .intro k b' aP;by_cases hk:k=n
  .subst hk;rw[gg]at aP;simp at aP;subst aP;exact hb hle
  .rw[cE σ _ hk]at aP;refine ez.keep aC hle (gh γ v hk) (λg hg=>⟨?_,λ_=>Iff.rfl⟩) (hR.box k b' aP);exact heap_alloc_old w o (l9 (hR.box k b' aP) hg)
 .intro k b' g aP hg;by_cases hk:k=n
  .subst hk;rw[fy]at hg;exact .inl (by rw[hv g hg];exact hR.grow)
  .rw[cE σ _ hk]at aP;rw[gh γ v hk]at hg;exact hR.own k b' g aP hg
 .intro k k' b1 b2 g ba h1 h2 hg az;by_cases hk:k=n
  .subst hk;have bg:k'≠k:=λh=>ba h.symm;rw[fy]at hg;rw[cE σ _ bg]at h2;rw[gh γ v bg]at az;have:=l9 (hR.box k' b2 h2) az;rw[hv g hg]at this;omega
  .by_cases bg:k'=n
   .subst bg;rw[fy]at az;rw[cE σ _ hk]at h1;rw[gh γ v hk]at hg;have:=l9 (hR.box k b1 h1) hg;rw[hv g az]at this;omega
   .rw[cE σ _ hk]at h1;rw[cE σ _ bg]at h2;rw[gh γ v hk]at hg;rw[gh γ v bg]at az;exact hR.apart k k' b1 b2 g ba h1 h2 hg az
 .intro g i h;have:=hR.here g i h;simp;omega
 .intro g hg hr;rw[heap_alloc_old w o (by have:=hR.grow;omega)];exact hR.below g hg hr
 .have:=hR.grow;simp;omega
theorem E0(hR:Rel N np S0 w0 refs σ a w S γ)(o:Nat):¬S w.heap.size o:=λh=>by have:=hR.here _ _ h;omega
theorem HX(hR:Rel N np S0 w0 refs σ a w S γ){n:Nat}(hn:σ.bx n = .free){ls:List Leaf}{cur:Array Value}{e:TypeId}
  (hl:All2 (bO S w γ σ.bx) ls cur.toList)(h1:∀u∈cur.toList,One u) :
  Rel N np S0 w0 refs (σ.setB n (.live (.cell ls false))) a (w.alloc (.cells cur e)) S (gset γ n (.pointer (some ⟨w.heap.size,0,none⟩)))/\
   bJ S (w.alloc (.cells cur e)) (gset γ n (.pointer (some ⟨w.heap.size,0,none⟩))) (σ.setB n (.live (.cell ls false))).bx (.one (.bp n 0)) (.pointer (some ⟨w.heap.size,0,none⟩)):=by
 obtain⟨h,hle⟩:=HW hR hn (o:= .cells cur e) (b:= .cell ls false) (v:= .pointer (some ⟨w.heap.size,0,none⟩)) (λg hg=>by simp[blk]at hg;exact hg.symm) (λhle=>
  ⟨w.heap.size,cur,e,fy _ _ _,heap_alloc_new w _,hl.mono (λx u hx=>bO.keep (zR hR _) hle hx),h1,λ_ o=>E0 hR o,by simp⟩)
 refine⟨h,⟨by rw[gg];simp,rfl,λb _=>⟨w.heap.size,fy _ _ _,rfl⟩⟩,λ_=>rfl⟩
theorem Pd(hR:Rel N np S0 w0 refs σ a w S γ){n m:Nat}(hn:σ.bx n = .free){t:Ty}{xs:List t.den}{cur:Array Value}{e:TypeId}
  (hl:Rep S w (.arr m t) xs cur.toList) :
  Rel N np S0 w0 refs (σ.setB n (.live (.arr m t xs))) a (w.alloc (.cells cur e)) S (gset γ n (.pointer (some ⟨w.heap.size,0,none⟩)))/\
   bJ S (w.alloc (.cells cur e)) (gset γ n (.pointer (some ⟨w.heap.size,0,none⟩))) (σ.setB n (.live (.arr m t xs))).bx (.one (.bp n 0)) (.pointer (some ⟨w.heap.size,0,none⟩)):=by
 obtain⟨h,hle⟩:=HW hR hn (o:= .cells cur e) (b:= .arr m t xs) (v:= .pointer (some ⟨w.heap.size,0,none⟩)) (λg hg=>by simp[blk]at hg;exact hg.symm) (λ_=>
  ⟨w.heap.size,cur,e,fy _ _ _,heap_alloc_new w _,Rep.keep (zR hR _) _ _ _ hl,λo=>E0 hR o⟩)
 refine⟨h,⟨by rw[gg];simp,rfl,λb _=>⟨w.heap.size,fy _ _ _,rfl⟩⟩,λ_=>rfl⟩
theorem uv{bx:Nat->BS}:∀(t:Ty),All2 (bO S w γ bx) (mO t) (iG t)
 |.int _=>⟨rfl,trivial⟩
 |.bool=>⟨rfl,trivial⟩
 |.str=>⟨rfl,trivial⟩
 |.unit=>trivial
 |.wrap a=>uv a
 |.pair a b=>(uv a).append (uv b)
 |.list _=>⟨rfl,trivial⟩
 |.arr n a=>by
  show All2 _ ((List.range n).flatMap λ_=>mO a) ((List.replicate n (iG a)).flatten);induction n with
  |zero=>simp[All2]
  |succ n ih=>rw[List.range_succ,List.flatMap_append,List.replicate_succ',vd];refine ih.append ?_;simpa using uv a
theorem oQ:∀(t:Ty),Rep S w t t.dflt (iG t)
 |.int _=>rfl
 |.bool=>rfl
 |.str=>rfl
 |.unit=>rfl
 |.wrap a=>oQ a
 |.pair a b=>⟨_,_,rfl,oQ a,oQ b⟩
 |.list _=>⟨none,0,rfl,jg _,by simp[maxLen],λ_=>rfl,λb hb=>by simp at hb⟩
 |.arr n a=>by
  refine⟨List.length_replicate,List.replicate n (iG a),?_,rfl⟩;have hz:=oQ a
  have:∀n,All2 (λx c=>Rep S w a x c) (List.replicate n a.dflt) (List.replicate n (iG a)):=by
   intro n;induction n with
   |zero=>exact trivial
   |succ n ih=>exact⟨hz,ih⟩
  exact this n
theorem B4(hR:Rel N np S0 w0 refs σ a w S γ){k:Nat}{b b':Bx}(hk:σ.bx k = .live b){g:Nat}(hg:blk (γ k)=some g)(hS:∀o,¬S g o)(oO:iF b b')
  {old new:Array Value}{e:TypeId}(hh:w.heap[g]? = some (.cells old e (0,0)))
  (hb:BxLe γ σ.bx γ (σ.setB k (.live b')).bx->cX S w S (w.setRow g new)->ez S (w.setRow g new) γ (σ.setB k (.live b')).bx k b') :
  Rel N np S0 w0 refs (σ.setB k (.live b')) a (w.setRow g new) S γ:=by
 have hle:BxLe γ σ.bx γ (σ.setB k (.live b')).bx:=by
  intro k' bg;by_cases ca:k'=k
  .subst ca;rw[gg];exact⟨by simp,rfl,λb1 da=>by simp at da;subst da;exact⟨b,hk,oO⟩⟩
  .rw[cE σ _ ca];exact⟨bg,rfl,λb hb=>⟨b,hb,.refl b⟩⟩
 have aC:cX S w S (w.setRow g new):=by
  intro g' o h;refine⟨h,cell_setRow_other w g new ⟨g',o,none⟩ ?_⟩
  rintro rfl
  exact hS o h
 have bt:∀k' b1,(σ.setB k (.live b')).bx k' = .live b1->∃b2,σ.bx k' = .live b2:=by
  intro k' b1 h1;by_cases ca:k'=k
  .subst ca;exact⟨b,hk⟩
  .rw[cE σ _ ca]at h1;exact⟨b1,h1⟩
 have aq:=(jm.1 hh).1
 refine Rel.step (bx':=(σ.setB k (.live b')).bx) hR aC hle ?_ ?_ ?_ hR.new ?_ ?_ ?_ hR.os hR.tape hR.output (λg' _ _ h=>⟨setRow_other w g g' new (λe=>h k b hk (e▸hg)),λk' b1 h1=>by
  obtain⟨b2,h2⟩:=bt k' b1 h1;exact h k' b2 h2⟩)
 .intro k' b1 h1;by_cases ca:k'=k
  .subst ca;rw[gg]at h1;simp at h1;subst h1;exact hb hle aC
  .rw[cE σ _ ca]at h1;refine ez.keep aC hle rfl (λg' az=>⟨?_,λ_=>Iff.rfl⟩) (hR.box k' b1 h1);exact setRow_other w g g' new (λh=>hR.apart k' k b1 b g ca h1 hk (h▸az) hg)
 .intro k' b1 g' h1 az;obtain⟨b2,h2⟩:=bt k' b1 h1;exact hR.own k' b2 g' h2 az
 .intro k1 k2 b1 b2 g' ba h1 h2 az;obtain⟨sq,jU⟩:=bt k1 b1 h1;obtain⟨sr,jM⟩:=bt k2 b2 h2;exact hR.apart k1 k2 sq sr g' ba jU jM az
 .intro g' o h;rw[size_setRow];exact hR.here g' o h
 .intro g' az hr;rw[setRow_other w g g' new ?_]
  .exact hR.below g' az hr
  .rintro rfl
   rcases hR.own k b _ hk hg with h|h
   .omega
   .exact hr h.1
 .rw[size_setRow];exact hR.grow
theorem E3{R:Leaf->Value->Prop}{ls new:List Leaf}{cs zs:List Value}{c:Nat}(h:All2 R ls cs)(h':All2 R new zs) :
  All2 R (wi ls c new) (cs.take c++zs++cs.drop (c+zs.length)):=by
 unfold wi;rw[h'.length];exact((h.take c).append h').append (h.drop _)
theorem B5{bx:Nat->BS}{c:Cel}{ls:List Leaf}{z:Value}(h:c.leaves=some ls)(hc:bJ S w γ bx c z) :
  All2 (bO S w γ bx) ls z.cells.toList/\∀u∈z.cells.toList,One u:=by
 unfold Cel.leaves at h;split at h
 .simp at h
 .rename_i l hd;simp at h;subst h;have h1:=hc.2 hd;rw[zQ h1];exact⟨⟨hc.1,trivial⟩,λu hu=>by simp at hu;subst hu;exact h1⟩
 .simp at h;subst h;obtain⟨cs,rfl,ha,h1⟩:=hc;exact⟨ha,h1⟩
 .simp at h
end
theorem wG{m:Nat}:∀{l:List (List Value)},(∀c∈l,c.length=m)->l.flatten.length=l.length*m
 |[],_=>by simp
 |c::l,h=>by
  have h1:=h c (by simp);have h2:=wG (l:=l) (λd hd=>h d (zv _ hd));simp only[q7,ja,jk,Nat.add_mul,Nat.one_mul];omega
section
variable{N:NT}{np:Nat}{S0:aF}{w0:World}{refs:Refs}{σ:St}{a:Go.Act}{w:World}{S:aF}{γ:Nat->Value}
theorem ma:∀(u:Ups)(σ:St){k:Nat},u.any (λy=>y.1==k)=false->(σ.upd u).bx k=σ.bx k
 |[],_,_,_=>rfl
 |e::u,σ,k,h=>by
  simp only[List.any_cons,Bool.or_eq_false_iff,beq_eq_false_iff_ne]at h;show ((σ.setB e.1 e.2).upd u).bx k=_;rw[ma u _ h.2,cE σ _ (λhh=>h.1 hh.symm)]
theorem All2.all_len{t:Ty}{xs:List t.den}{css:List (List Value)}(h:All2 (λx c=>Rep S w t x c) xs css):∀c∈css,c.length=t.size:=by
 intro c hc;obtain⟨x,_,hx⟩:=h.mem_right c hc;exact Rep.length _ _ _ hx
theorem HY{cur:List Value}{css:List (List Value)}{m n i c:Nat}{ci zs:List Value}(hm:∀c∈css,c.length=m)(hn:css.length=n)(eF:cur.take (n*m)=css.flatten)
  (hi:css[i]? = some ci)(hc:c+zs.length<=m) :
  (cur.take (i*m+c)++zs++cur.drop (i*m+c+zs.length)).take (n*m)=(css.set i (ci.take c++zs++ci.drop (c+zs.length))).flatten:=by
 have aq:i<css.length:=(jw.1 hi).1;have mb:css[i]=ci:=(jw.1 hi).2;have fp:ci.length=m:=hm ci (k9 hi);obtain⟨A,B,hA,hB,E4⟩:∃A B:List (List Value),A.length=i/\A.length+1+B.length=n/\css=A++ci::B:=by refine⟨css.take i,css.drop (i+1),by simp;omega,by simp;omega,?_⟩;rw[<-mb,List.getElem_cons_drop aq,ki]
 have Ym:∀c∈A,c.length=m:=λd hd=>hm d (by rw[E4];simp[hd]);have Yn:∀c∈B,c.length=m:=λd hd=>hm d (by rw[E4];simp[hd]);have lA:A.flatten.length=i*m:=by rw[wG Ym,hA]
 have lB:=wG Yn;have wH:css.set i (ci.take c++zs++ci.drop (c+zs.length))=A++(ci.take c++zs++ci.drop (c+zs.length))::B:=by rw[E4,zp _ _ (by omega),hA,Nat.sub_self,List.set_cons_zero]
 have B6:cur=A.flatten++(ci++(B.flatten++cur.drop (n*m))):=by have:=ki (n*m) cur;rw[eF,E4,vd,q7]at this;rw[<-jd ci,<-jd];exact this.symm
 have cH:ci=ci.take c++((ci.drop c).take zs.length++ci.drop (c+zs.length)):=by have h1:=ki c ci;have h2:=ki zs.length (ci.drop c);rw[List.drop_drop]at h2;rw[h2,h1]
 have lp:(ci.take c).length=c:=by simp;omega
 have lq:((ci.drop c).take zs.length).length=zs.length:=by simp;omega
 have lr:(ci.drop (c+zs.length)).length=m-(c+zs.length):=by simp[fp]
 generalize ci.take c=p at *
 generalize (ci.drop c).take zs.length=q at *
 generalize ci.drop (c+zs.length)=r at *
 generalize cur.drop (n*m)=tl at *
 have e1:cur.take (i*m+c)=A.flatten++p:=by rw[B6,cH];simp only[<-jd];rw[jd,jd,jd];exact List.take_left' (by simp[lA,lp])
 have e2:cur.drop (i*m+c+zs.length)=r++(B.flatten++tl):=by
  rw[B6,cH];have:A.flatten++(p++(q++r)++(B.flatten++tl))=(A.flatten++p++q)++(r++(B.flatten++tl)):=by simp
  rw[this];exact List.drop_left' (by simp[lA,lp,lq];omega)
 rw[e1,e2,wH,vd,q7];have:A.flatten++p++zs++(r++(B.flatten++tl))=(A.flatten++(p++zs++r++B.flatten))++tl:=by simp
 rw[this];refine List.take_left' ?_;simp only[ja,lA,lp,lr,lB];have:n*m=i*m+m+B.length*m:=by rw[<-hB,hA,Nat.add_mul,Nat.add_mul,Nat.one_mul]
 omega
theorem E5{P:Program}{T:Nat->Option TyI}(hT:cB P T){t:TypeId}{ti:TyI}(ht:T t=some ti){g o:Nat}{z:Value}{cur:Array Value}{e:TypeId}
  (hh:w.heap[g]? = some (.cells cur e (0,0)))(hs:z.cells.toList.length=ti.size)(hl:o+z.cells.toList.length<=cur.size)(h1:∀u∈z.cells.toList,One u) :
  (Instr.storeAt t (.pointer (some ⟨g,o,none⟩)) z).run P w = .ok () (w.setRow g (cur.toList.take o++z.cells.toList++cur.toList.drop (o+z.cells.toList.length)).toArray):=by
 have aC:=run_storeCells_at P g o e z.cells.toList 0 cur w hh (by simpa using hl) h1;simp only[Nat.add_zero]at aC;have ba:¬z.cells.size≠ti.size:=by simpa using hs
 simp only[Instr.storeAt,Sem.run_bind,Instr.sureAddr,Sem.run_pure,Result.andThen_ok,storeVar,iU hT ht,Sem.run_ite,if_neg ba,aC]
theorem Yo{P:Program}{E:Env}(hT:cB P E.T)(hR:Rel N np S0 w0 refs σ a w S γ){rd rdf:Nat->BS}(aT:RdOk σ rd)(bC:RdF np σ rdf){t:TypeId}{ti:TyI}(ht:E.T t=some ti)
  {x:Leaf}{val:Cel}{u:Ups}{ux z:Value}(h:uc rd rdf ti.size val x=some u)(hx:bO S w γ σ.bx x ux)(hz:bJ S w γ σ.bx val z) :
  ∃w' S',(Instr.storeAt t ux z).run P w = .ok () w'/\Rel N np S0 w0 refs (σ.upd u) a w' S' γ:=by
 unfold uc at h;split at h
 .rename_i k c;split at h
  .rename_i ls hk;have hk:=aT.live hk;split at h
   .rename_i new dH;split at h
    .rename_i hc;simp only[j4]at h;subst h;obtain⟨bZ,hle⟩:=hc;obtain⟨ha,h1⟩:=B5 dH hz;obtain⟨g,hg,hu⟩:=hx.2.2 _ hk;obtain⟨g',cur,e,az,hh,eF,gy,hS,_⟩:=hR.box k _ hk;rw[hg]at az;simp at az;subst az;subst hu;have hlen:=ha.length;have uw:=eF.length;simp at uw;refine⟨_,S,E5 hT ht hh (by omega) (by simp at hlen ⊢;omega) h1,?_⟩;refine B4 hR hk (by rw[hg];rfl) (hS rfl) (b':= .cell (wi ls c new) false) trivial hh (λhle aC=>?_);refine⟨g,_,e,hg,setRow_heap w g cur _ e (0,0) hh,?_,?_,λ_=>hS rfl,by simp⟩
     .have:=E3 (c:=c) (eF.mono (λx u hx=>bO.keep aC hle hx)) (ha.mono (λx u hx=>bO.keep aC hle hx));simpa using this
     .intro v hv;simp only[jn]at hv;rcases hv with (hv|hv)|hv
      .exact gy v (qf hv)
      .exact h1 v hv
      .exact gy v (zd hv)
    .simp at h
   .simp at h
  .rename_i n el xs hk;have hk:=aT.live hk;split at h
   .rename_i mP;subst mP;split at h
    .rename_i n' a' ys;split at h
     .rename_i Hx iH;split at h
      .rename_i bZ;simp only[j4]at h;subst h;have sx:=lZ iH;simp only[TV.mk.injEq,Ty.arr.injEq]at sx;obtain⟨⟨rfl,rfl⟩,sx⟩:=sx;obtain rfl:=eq_of_heq sx;obtain⟨cs,rfl,hr⟩:=hz;obtain⟨g,hg,hu⟩:=hx.2.2 _ hk;obtain⟨g',cur,e,az,hh,bq,hS⟩:=hR.box k _ hk;rw[hg]at az;simp at az;subst az;subst hu;have mQ:=Rep.length _ _ _ hr;have wI:=Rep.length _ _ _ bq;have e1:(Value.agg cs).cells.toList=cs.toList:=rfl;refine⟨_,S,E5 hT ht hh (by rw[e1,mQ,bZ];rfl) (by rw[e1,mQ,<-wI];simp) (by rw[e1];exact Rep.one _ _ _ hr),?_⟩;refine B4 hR hk (by rw[hg];rfl) hS (b':= .arr _ _ _) ⟨rfl,rfl⟩ hh (λhle aC=>?_);refine⟨g,_,e,hg,setRow_heap w g cur _ e (0,0) hh,?_,hS⟩;have hd:cur.toList.drop (0+cs.toList.length)=[]:=jf (by rw[mQ,wI];omega);have hX:(cur.toList.take 0++(Value.agg cs).cells.toList++cur.toList.drop (0+(Value.agg cs).cells.toList.length)).toArray.toList=cs.toList:=by rw[e1,hd];simp
       rw[hX];exact Rep.keep aC _ _ _ hr
      .simp at h
     .simp at h
    .simp at h
   .simp at h
  .simp at h
 .rename_i k i c;split at h
  .rename_i el at_ xs hk;have bW:=aT.nm hk;have hk:=aT.live hk;split at h
   .rename_i new dH;split at h
    .rename_i hc;obtain⟨bZ,hle⟩:=hc;split at h
     .rename_i en u1 HZ;split at h
      .simp at h
      .rename_i sy;simp only[j4]at h;subst h;obtain⟨ha,h1⟩:=B5 dH hz;have hlen:=ha.length;have sC:z.cells.toList.length=z.cells.size:=qe;obtain⟨_,hi,g,cap,hg,hu⟩:=hx.2.2 _ hk;obtain⟨css,aQ,ar,hSk⟩:=ij bW (hR.box k _ hk);rcases aQ.2 with⟨_,h0⟩|⟨g',gM,cur,az,ew,hh,jL,lz,dG,dV⟩
       .omega
       rw[hg]at az;simp at az;obtain⟨rfl,rfl⟩:=az;subst hu;obtain⟨ci,mb,bq,cT⟩:=wz (λx c hx=>Rep.length at_ x c hx) ar i at_.dflt hi;have fp:=Rep.length _ _ _ bq;have cH:=E3 (c:=c) (rB (oP at_ _ ci bq)) ha;obtain⟨hf,he,hp⟩:=wD bC at_ HZ cH;obtain⟨S1,bu,cu,dI,dJ⟩:=nI u1 σ S hR hf;have dE:(σ.upd u1).bx k = .live (.lst el at_ xs false):=by rw[ma u1 σ (ze.2 sy)];exact hk
       obtain⟨Yp,Pe,Pg,Pj⟩:=ij bW (bu.box k _ dE);have uy:∀o,¬S1 g o:=(Pj g (by rw[hg];rfl)).1 rfl;have Pl:i*at_.size+at_.size<=xs.length*at_.size:=by have:(i+1)*at_.size<=xs.length*at_.size:=jx _ (by omega);rwa[va]at this
       have Pm:xs.length*at_.size<=cap*at_.size:=jx _ jL;have mc:c+z.cells.toList.length<=at_.size:=by omega
       refine⟨_,S1,E5 hT ht hh (by omega) (by rw[dG];omega) h1,?_⟩;rw[jV];refine B4 bu dE (by rw[hg];rfl) uy (b':= .lst el at_ (xs.set i en) false) ⟨rfl,rfl,λ_=>by simp⟩ hh (λil db=>?_);have pC:Rep S1 w at_ en (ci.take c++z.cells.toList++ci.drop (c+z.cells.toList.length)):=by have:=hp S1 w cu dI;rwa[List.take_of_length_le (by simp;omega)]at this
       refine BQ bW ⟨css.set i (ci.take c++z.cells.toList++ci.drop (c+z.cells.toList.length)),⟨?_,.inr ⟨g,cap,_,?_,kc _,setRow_heap w g cur _ el (0,0) hh,by simpa using jL,lz,?_,?_⟩⟩,?_,λg' az=>?_⟩
       .rw[wG (m:=at_.size)]
        .simp[ar.length]
        .intro d hd;rcases List.mem_or_eq_of_mem_set hd with hd|rfl
         .exact All2.all_len ar d hd
         .simp;omega
       .simpa using hg
       .simp only[zu,ja,ql,zh,qe];omega
       .simp only[List.length_set];exact HY (All2.all_len ar) ar.length.symm dV mb mc
       .exact(ar.mono (λx c hx=>Rep.keep (cu.trans db) _ _ _ hx)).set i _ _ (Rep.keep db _ _ _ pC)
       .rw[hg]at az;simp[blk]at az;subst az;exact⟨λ_=>uy,by simp⟩
     .simp at h
    .simp at h
   .simp at h
  .rename_i n at_ xs hk;have hk:=aT.live hk;split at h
   .rename_i new dH;split at h
    .rename_i hc;obtain⟨bZ,hle⟩:=hc;split at h
     .rename_i en u1 HZ;split at h
      .simp at h
      .rename_i sy;simp only[j4]at h;subst h;obtain⟨ha,h1⟩:=B5 dH hz;have hlen:=ha.length;have sC:z.cells.toList.length=z.cells.size:=qe;obtain⟨hi,g,hg,hu⟩:=hx.2.2 _ hk;obtain⟨g',cur,e,az,hh,⟨hn,css,ar,eF⟩,hS⟩:=hR.box k _ hk;rw[hg]at az;simp at az;subst az;subst hu;obtain⟨ci,mb,bq,cT⟩:=wz (λx c hx=>Rep.length at_ x c hx) ar i at_.dflt (by omega);have fp:=Rep.length _ _ _ bq;have cH:=E3 (c:=c) (rB (oP at_ _ ci bq)) ha;obtain⟨hf,he,hp⟩:=wD bC at_ HZ cH;obtain⟨S1,bu,cu,dI,dJ⟩:=nI u1 σ S hR hf;have dE:(σ.upd u1).bx k = .live (.arr n at_ xs):=by rw[ma u1 σ (ze.2 sy)];exact hk
       obtain⟨g1,Yq,e1,sD,hh1,_,uy⟩:=bu.box k _ dE;rw[hg]at sD;simp at sD;subst sD;have B7:cur.toList.length=n*at_.size:=by rw[eF,wG (All2.all_len ar),<-ar.length,hn]
       have Pl:i*at_.size+at_.size<=n*at_.size:=by have:(i+1)*at_.size<=n*at_.size:=jx _ (by omega);rwa[va]at this
       have mc:c+z.cells.toList.length<=at_.size:=by omega
       refine⟨_,S1,E5 hT ht hh (by omega) (by rw[<-qe,B7];omega) h1,?_⟩;rw[jV];refine B4 bu dE (by rw[hg];rfl) uy (b':= .arr n at_ (xs.set i en)) ⟨rfl,rfl⟩ hh (λil db=>?_);have pC:Rep S1 w at_ en (ci.take c++z.cells.toList++ci.drop (c+z.cells.toList.length)):=by have:=hp S1 w cu dI;rwa[List.take_of_length_le (by simp;omega)]at this
       refine⟨g,_,e,hg,setRow_heap w g cur _ e (0,0) hh,⟨?_,css.set i (ci.take c++z.cells.toList++ci.drop (c+z.cells.toList.length)),?_,?_⟩,uy⟩
       .show List.length (List.set xs i en)=n;rw[List.length_set];exact hn
       .exact(ar.mono (λx c hx=>Rep.keep (cu.trans db) _ _ _ hx)).set i _ _ (Rep.keep db _ _ _ pC)
       .have E6:=HY (cur:=cur.toList) (n:=n) (zs:=z.cells.toList) (All2.all_len ar) (by rw[<-ar.length,hn]) (by rw[<-B7,List.take_length,eF]) mb mc;rw[<-E6];symm;refine(List.take_of_length_le ?_).trans (by simp);simp only[ja,ql,zh];omega
     .simp at h
    .simp at h
   .simp at h
  .simp at h
 .simp at h
end
theorem uz{m:Nat}:∀{l:List (List Value)}(i:Nat),(∀c∈l,c.length=m)->(l.take i).flatten=l.flatten.take (i*m)
 |[],i,_=>by simp
 |c::l,0,_=>by simp
 |c::l,i+1,h=>by
  have hc:=h c (by simp);have ih:=uz (l:=l) i (λd hd=>h d (by simp[hd]));rw[List.take_succ_cons,q7,ih,q7,va,Nat.add_comm,List.take_append,hc];rw[List.take_of_length_le (l:=c) (by omega),show m+i*m-m=i*m by omega]
theorem E7{m:Nat}:∀{l:List (List Value)}(i:Nat),(∀c∈l,c.length=m)->(l.drop i).flatten=l.flatten.drop (i*m)
 |[],i,_=>by simp
 |c::l,0,_=>by simp
 |c::l,i+1,h=>by
  have hc:=h c (by simp);have ih:=E7 (l:=l) i (λd hd=>h d (by simp[hd]));rw[List.drop_succ_cons,ih,q7,va,Nat.add_comm,List.drop_append,hc];rw[jf (l:=c) (by omega),jl,show m+i*m-m=i*m by omega]
section
variable{N:NT}{np:Nat}{S0:aF}{w0:World}{refs:Refs}{σ:St}{a:Go.Act}{w:World}{S:aF}{γ:Nat->Value}
theorem H0(hR:Rel N np S0 w0 refs σ a w S γ){k:Nat}{b:Bx}(hk:σ.bx k = .live b):Rel N np S0 w0 refs (σ.setB k .gone) a w S γ:=by
 have hle:BxLe γ σ.bx γ (σ.setB k .gone).bx:=by
  intro k' bg;by_cases ca:k'=k
  .subst ca;rw[gg];exact⟨by simp,rfl,λb hb=>by simp at hb⟩
  .rw[cE σ _ ca];exact⟨bg,rfl,λb hb=>⟨b,hb,.refl b⟩⟩
 have bt:∀k' b1,(σ.setB k .gone).bx k' = .live b1->σ.bx k' = .live b1:=by
  intro k' b1 h1;by_cases ca:k'=k
  .subst ca;rw[gg]at h1;simp at h1
  .rwa[cE σ _ ca]at h1
 exact Rel.step (bx':=(σ.setB k .gone).bx) hR (.refl S w) hle (λk' b' h=>ez.keep (.refl S w) hle rfl (λ_ _=>⟨rfl,λ_=>Iff.rfl⟩) (hR.box k' b' (bt k' b' h)))
  (λk' b' g h=>hR.own k' b' g (bt k' b' h)) (λk1 k2 b1 b2 g ba h1 h2=>hR.apart k1 k2 b1 b2 g ba (bt _ _ h1) (bt _ _ h2)) hR.new hR.here hR.below hR.grow hR.os hR.tape hR.output
  (λg _ _ h=>⟨rfl,λk' b' aP=>h k' b' (bt k' b' aP)⟩)
theorem E8(hR:Rel N np S0 w0 refs σ a w S γ){d:Nat}(hd:σ.bx d = .free){w':World}{S':aF}{v':Value}{e:Nat}(hm:isM e=false){el:Ty}{zs:List el.den}{frz:Bool}{css:List (List Value)}
  (aC:cX S w S' w')(pD:∀g,g<w.heap.size->blk v'≠some g->w'.heap[g]? = w.heap[g]?)(bZ:w.heap.size<=w'.heap.size)
  (hv:∀g,blk v'=some g->w0.heap.size<=g/\(∀k b,σ.bx k = .live b->blk (γ k)≠some g)/\g<w'.heap.size)
  (hS:∀g o,S' g o->S g o\/blk v'=some g)(os:w'.os=w.os)(tape:w'.tape=w.tape)(output:w'.output=w.output)
  (cF:w'.ownsRow 0 e el.size v' zs.length css.flatten)(ar:All2 (λx c=>Rep S' w' el x c) zs css)
  (H2:∀g,blk v'=some g->(frz=false->∀o,¬S' g o)/\(frz=true->∀o,S' g o↔o<zs.length*el.size))(Pn:∀g,blk v'=some g->refs.kw g=none) :
  Rel N np S0 w0 refs (σ.setB d (.live (.lst e el zs frz))) a w' S' (gset γ d v')/\
   bJ S' w' (gset γ d v') (σ.setB d (.live (.lst e el zs frz))).bx (.one (.ol d)) v':=by
 have hle:BxLe γ σ.bx (gset γ d v') (σ.setB d (.live (.lst e el zs frz))).bx:=by
  intro k hk;have ba:k≠d:=by rintro rfl;exact hk hd
  rw[cE σ _ ba,gh γ v' ba];exact⟨hk,rfl,λb hb=>⟨b,hb,.refl b⟩⟩
 have cQ:One v':=by rcases cF.2 with⟨rfl,_⟩|⟨g,cap,cur,rfl,_⟩<;>rfl
 refine⟨Rel.step (bx':=(σ.setB d (.live (.lst e el zs frz))).bx) hR aC hle ?_ ?_ ?_ ?_ ?_ ?_ (qg hR.grow bZ) (os.trans hR.os) (tape.trans hR.tape) (output.trans hR.output) (λg hg zS h=>⟨pD g hg (λhh=>zS (Pn g hh)),λk b' aP dm=>by
  by_cases hk:k=d
  .subst hk;rw[fy]at dm;exact zS (Pn g dm)
  .rw[cE σ _ hk]at aP;rw[gh γ v' hk]at dm;exact h k b' aP dm⟩),?_⟩
 .intro k b hb;by_cases hk:k=d
  .subst hk;rw[gg]at hb;simp at hb;subst hb;refine BQ hm ⟨css,by rw[fy];exact cF,ar,λg hg=>?_⟩;rw[fy]at hg;exact H2 g hg
  .rw[cE σ _ hk]at hb;refine ez.keep aC hle (gh γ v' hk) (λg hg=>?_) (hR.box k b hb);have wJ:=l9 (hR.box k b hb) hg;have ba:blk v'≠some g:=λhh=>(hv g hh).2.1 k b hb hg;exact⟨pD g wJ ba,λo=>⟨λhs=>(hS g o hs).resolve_right ba,λhs=>(aC g o hs).1⟩⟩
 .intro k b g hb hg;by_cases hk:k=d
  .subst hk;rw[fy]at hg;exact .inl (hv g hg).1
  .rw[cE σ _ hk]at hb;rw[gh γ v' hk]at hg;exact hR.own k b g hb hg
 .intro k k' b1 b2 g ba h1 h2 hg az;by_cases hk:k=d
  .subst hk;have bg:k'≠k:=λh=>ba h.symm;rw[fy]at hg;rw[cE σ _ bg]at h2;rw[gh γ v' bg]at az;exact(hv g hg).2.1 k' b2 h2 az
  .by_cases bg:k'=d
   .subst bg;rw[fy]at az;rw[cE σ _ hk]at h1;rw[gh γ v' hk]at hg;exact(hv g az).2.1 k b1 h1 hg
   .rw[cE σ _ hk]at h1;rw[cE σ _ bg]at h2;rw[gh γ v' hk]at hg;rw[gh γ v' bg]at az;exact hR.apart k k' b1 b2 g ba h1 h2 hg az
 .intro g o hs;rcases hS g o hs with hs|hs
  .exact hR.new g o hs
  .exact .inr (hv g hs).1
 .intro g o hs;rcases hS g o hs with hs|hs
  .have:=hR.here g o hs;omega
  .exact(hv g hs).2.2
 .intro g hg hr;by_cases hb:blk v'=some g
  .have:=(hv g hb).1;omega
  .rw[pD g (by have:=hR.grow;omega) hb];exact hR.below g hg hr
 .refine⟨⟨by rw[gg];simp,cQ,λb hb=>(fy γ d v').symm⟩,λ_=>cQ⟩
theorem Yr{P:Program}{T:Nat->Option TyI}(hT:cB P T){t ty:TypeId}{ti:TyI}(ht:T t=some ti){el:Ty}(bB:ti.ty=some (.list el))
  {v:Value}{n:Nat}{xs:List Value}(aQ:w.ownsRow 0 ti.elem el.size v n xs){ad:Option Addr}{m c:Nat}{news:List Value}(fD:ad=none->m=0/\c=0)(hl:news.length=m*el.size)
  (gO:∀b,ad=some b->∀(j:Nat)(u:Value),news[j]? = some u->w.cell? (b.add j)=some u)(h1:∀u∈news,One u)(eH:n+m<=aR) :
  ∃v' w',(Builtin.append_ #[t,t] ty #[v,.slice ad m c]).run P w = .ok v' w'/\w'.ownsRow 0 ti.elem el.size v' (n+m) (xs++news)/\w'.os=w.os/\w'.tape=w.tape/\w'.output=w.output/\w.heap.size<=w'.heap.size/\
   ((v'=v/\w'=w)\/(blk v'=blk v/\(∃g,blk v=some g)/\∀g,blk v≠some g->w'.heap[g]? = w.heap[g]?)\/(blk v'=some w.heap.size/\∀g,g<w.heap.size->w'.heap[g]? = w.heap[g]?)):=by
 obtain⟨hd,bP,te,cN,cY⟩:=pq hT ht bB;have bZ:=nG hT cN cY;obtain⟨i,de,hi,hde,his,B8,_,_,hz⟩:=lj hT cN;obtain⟨_,⟨z,hz,gz⟩,_⟩:=hz el cY;have eI:i.size=el.size:=by omega
 have mR:z.cells.size=el.size:=by have h:=Rep.length el el.dflt _ (oQ (S:=λ_ _=>False) (w:=w) el);rw[<-gz]at h;simpa using h
 have B9:n+m<=maxLen:=by simp only[maxLen,aR]at *;omega
 have iY:(n+m)*i.bytes<=140737488355328:=by have:(n+m)*i.bytes<=aR*32768:=qw eH B8;simp only[aR]at this;omega
 have hlen:(xs++news).length=(n+m)*el.size:=by rw[ja,aQ.1,hl,Nat.add_mul]
 cases ad with
 |none=>obtain⟨rfl,rfl⟩:=fD rfl;have sE:news=[]:=jy (by simpa using hl);subst sE;exact⟨v,w,run_append_owned_none (P:=P) w 0 t ty ti.elem i el.size hd hi v n xs aQ,by simpa using aQ,rfl,rfl,rfl,jg _,.inl ⟨rfl,rfl⟩⟩
 |some b=>
  have gO:=gO b rfl;rcases aQ.2 with⟨rfl,rfl⟩|⟨g,cap,cur,rfl,_,hg,jL,lz,dG,dV⟩
  .have uA:w.ownsRow w.heap.size ti.elem el.size (.slice none 0 0) 0 xs:=⟨aQ.1,.inl ⟨rfl,rfl⟩⟩;obtain⟨v',w',hr,ho,E9,hv⟩:=run_append_own (P:=P) w w.heap.size t ty ti.elem i z el.size i.bytes hd hi hz eI rfl mR bP _ 0 xs uA b m c news hl gO h1 B9 iY (jg _);refine⟨v',w',hr,⟨ho.1,ho.2.imp id (λ⟨g,cap,cur,h1,_,h3⟩=>⟨g,cap,cur,h1,kc _,h3⟩)⟩,E9.os,E9.tape,E9.output,E9.size,?_⟩;by_cases hm:m=0
   .subst hm;have sE:news=[]:=jy (by simpa using hl);subst sE;have:=run_append_own (P:=P) w w.heap.size t ty ti.elem i z el.size i.bytes hd hi hz eI rfl mR bP _ 0 xs uA b 0 c [] hl gO h1 B9 iY (jg _);left;have hx:(Builtin.append_ #[t,t] ty #[.slice none 0 0,.slice (some b) 0 c]).run P w = .ok (.slice none 0 0) w:=by simp[Builtin.append_,run_underlying hd,sizeOf,typeInfo,hi,Builtin.lenOf,Builtin.firstCells,loadCells,loadCellsFrom]
    rw[hx]at hr;simp at hr;exact⟨hr.1.symm,hr.2.symm⟩
   .have sF:=run_append_nil (P:=P) w t ty ti.elem i z hd hi hz b m c news (by rw[eI];exact hl) gO (by omega) (by simp only[maxLen]at B9;omega) (by have:=iY;simp only[kf]at this;omega);rw[sF]at hr;simp at hr;obtain⟨rfl,rfl⟩:=hr;exact .inr (.inr ⟨rfl,λg hg=>heap_alloc_old w.drew _ hg⟩)
  .by_cases pE:n+m<=cap
   .have Ca:n*i.size+news.length<=cur.size:=by rw[eI,hl,dG,<-Nat.add_mul];exact jx _ pE
    have hr:=run_append_room (P:=P) w t ty ti.elem i hd hi g n cap cur hg b m c news (by rw[eI];exact hl) gO h1 pE Ca;rw[eI]at hr Ca;refine⟨_,_,hr,⟨hlen,.inr ⟨g,cap,_,rfl,kc _,setRow_heap w g cur _ ti.elem _ hg,pE,lz,?_,?_⟩⟩,rfl,rfl,rfl,by rw[size_setRow];exact jg _,.inr (.inl ⟨rfl,⟨g,rfl⟩,λg' az=>?_⟩)⟩
    .simp only[zu,ja,ql,zh,qe];omega
    .rw[dV,<-hlen];exact List.take_left
    .exact setRow_other w g g' _ (λh=>az (by rw[h];rfl))
   .have holds:∀(j:Nat)(u:Value),xs[j]? = some u->w.cell? ((⟨g,0,none⟩:Addr).add j)=some u:=aQ.cells (g:=g) rfl;have hr:=run_append_grow (P:=P) w t ty ti.elem i z hd hi hz ⟨g,0,none⟩ n cap xs (by rw[eI];exact aQ.1) holds b m c news (by rw[eI];exact hl) gO (by omega) (by simp only[maxLen]at B9;omega) (growslice_fits (by omega) iY);have nK:=grownCap_ge w (n+m) cap ti.elem;refine⟨_,_,hr,⟨hlen,.inr ⟨w.heap.size,_,_,rfl,kc _,heap_alloc_new w.drew _,nK,grownCap_le_maxLen w (n+m) cap ti.elem B9,?_,?_⟩⟩,rfl,rfl,rfl,by simp,.inr (.inr ⟨rfl,λg' az=>heap_alloc_old w.drew _ az⟩)⟩
    .simp only[Array.size_append,zu,size_zeroCells,mR,aQ.1,hl,<-Nat.add_mul];congr 1;omega
    .simp only[Array.toList_append,jd];rw[<-jd,<-hlen];exact List.take_left
theorem Po(hR:Rel N np S0 w0 refs σ a w S γ){rd:Nat->BS}(aT:RdOk σ rd){el:Ty}{y:Leaf}{ys:List el.den}{z:Value}(h:appX rd el y=some ys)(hy:bO S w γ σ.bx y z) :
  ∃ad c css,z = .slice ad ys.length c/\(ad=none->ys.length=0/\c=0)/\All2 (λx c=>Rep S w el x c) ys css/\
   ∀b,ad=some b->∀(j:Nat)(u:Value),css.flatten[j]? = some u->w.cell? (b.add j)=some u:=by
 unfold appX at h;split at h
 .rename_i k;split at h
  .rename_i e Fa xs f hk;have:=lZ h;cases this;have bW:=aT.nm hk;have hk:=aT.live hk;have hz:=hy.2.2 _ hk;obtain⟨css,aQ,ar,_⟩:=ij bW (hR.box k _ hk);rcases aQ.2 with⟨hg,h0⟩|⟨g,cap,cur,hg,_⟩
   .exact⟨none,0,css,by rw[hz,hg,h0],λ_=>⟨h0,rfl⟩,ar,λb hb=>by simp at hb⟩
   .refine⟨some ⟨g,0,none⟩,cap,css,by rw[hz,hg],by simp,ar,λb hb j u hu=>?_⟩;simp at hb;subst hb;exact aQ.cells (g:=g) (by rw[hg];rfl) j u hu
  .simp at h
 .rename_i t xs;have:=lZ h;cases this;obtain⟨ad,cap,hz,hle,lz,hn,hb⟩:=hy;simp at hz;cases ad with
  |none=>
   have h0:=hn rfl;have sG:List.length ys=0:=by omega
   have:ys=[]:=jy sG;subst this;exact⟨none,cap,[],hz,λ_=>⟨rfl,h0⟩,trivial,λb hb=>by simp at hb⟩
  |some b=>
   obtain⟨cH,css,ha,hl⟩:=hb b rfl;refine⟨some b,cap,css,hz,by simp,ha,λb' aP j u hu=>?_⟩;simp at aP;subst aP
   have cH:=cH (λe=>by
    rw[e]at ha;cases css with
    |nil=>simp at hu
    |cons c cs=>exact ha)
   obtain⟨g,o,sp⟩:=b;simp at cH;subst cH;rw[Addr.add_lit];exact(hl j u hu).2
 .simp at h;subst h;exact⟨none,0,[],hy,λ_=>⟨rfl,rfl⟩,trivial,λb hb=>by simp at hb⟩
 .rename_i k j;split at h
  .rename_i e Fa xs f hk;split at h
   .rename_i cD iH;have:=lZ iH;cases this;simp only[j4]at h;subst h;have bW:=aT.nm hk;have hk:=aT.live hk;obtain⟨_,hj,ad,gM,az,hu⟩:=hy.2.2 _ hk;obtain⟨css,aQ,ar,_⟩:=ij bW (hR.box k _ hk);have fp:=All2.all_len ar;have hlen:(List.drop j cD).length=cD.length-j:=by simp
    rcases aQ.2 with⟨hg,h0⟩|⟨g,cap,cur,hg,_,hh,jL,_⟩
    .rw[hg]at az;simp only[Value.slice.injEq]at az;obtain⟨rfl,_,rfl⟩:=az;have rE:cD=[]:=jy h0;subst rE;refine⟨none,0,[],by rw[hu];simp,λ_=>⟨by simp,rfl⟩,by simp;trivial,λb hb=>by simp at hb⟩
    .rw[hg]at az;simp only[Value.slice.injEq,qi]at az;obtain⟨rfl,rfl⟩:=az;by_cases hc:cap=j
     .have rE:List.drop j cD=[]:=jf (by omega);rw[rE];rw[if_pos hc]at hu;exact⟨some ⟨g,0,none⟩,cap-j,[],by rw[hu];simp;omega,by simp,trivial,λb hb q v hq=>by simp at hq⟩
     .rw[if_neg hc]at hu;simp only[kx,Addr.add_lit,kf]at hu;refine⟨some ⟨g,j*el.size,none⟩,cap-j,css.drop j,by rw[hu,hlen],by simp,ar.drop j,λb hb q v hq=>?_⟩;simp at hb;subst hb;have Ys:(css.drop j).flatten=css.flatten.drop (j*el.size):=E7 j fp;rw[Ys,List.getElem?_drop]at hq;have:=aQ.cells (g:=g) (by rw[hg];rfl) _ v hq;rw[Addr.add_lit]at this ⊢;simpa using this
   .simp at h
  .simp at h
 .simp at h
theorem Yt{P:Program}{E:Env}(hT:cB P E.T)(hR:Rel N np S0 w0 refs σ a w S γ){rd rdf:Nat->BS}(aT:RdOk σ rd)(bC:RdF np σ rdf){t ty:TypeId}{ti:TyI}(ht:E.T t=some ti)
  {el:Ty}(bB:ti.ty=some (.list el)){x y:Leaf}{xs ys:List el.den}{frz:Bool}{u:Ups}{d:Nat}{vx vy:Value}(h1:appS rdf ti.elem el x=some (xs,frz,u))(h2:appX rd el y=some ys)
  (hd:σ.bx d = .free)(eH:xs.length+ys.length<=aR)(hx:bO S w γ σ.bx x vx)(hy:bO S w γ σ.bx y vy) :
  ∃v' w' S' γ',(Builtin.append_ #[t,t] ty #[vx,vy]).run P w = .ok v' w'/\Rel N np S0 w0 refs (σ.upd (u++[(d,.live (.lst ti.elem el (xs++ys) frz))])) a w' S' γ'/\
   bJ S' w' γ' (σ.upd (u++[(d,.live (.lst ti.elem el (xs++ys) frz))])).bx (.one (.ol d)) v':=by
 obtain⟨ad,c,cy,H3,fD,wK,cT⟩:=Po hR aT h2 hy;subst H3;have sH:cy.flatten.length=ys.length*el.size:=All2.flatten_length (λx c hx=>Rep.length el x c hx) wK;have Yu:∀u∈cy.flatten,One u:=by intro u hu;obtain⟨c,hc,BO⟩:=List.mem_flatten.1 hu;obtain⟨x,_,hx⟩:=wK.mem_right c hc;exact Rep.one el x c hx u BO
 obtain⟨nH,bP,te,cN,cY⟩:=pq hT ht bB
 have src:∃σ1,σ.upd u=σ1/\Rel N np S0 w0 refs σ1 a w S γ/\σ1.bx d = .free/\∃cx,w.ownsRow 0 ti.elem el.size vx xs.length cx.flatten/\All2 (λx c=>Rep S w el x c) xs cx/\
   ∀g,blk vx=some g->w0.heap.size<=g/\g<w.heap.size/\(∀k b,σ1.bx k = .live b->blk (γ k)≠some g)/\(frz=false->∀o,¬S g o)/\(frz=true->∀o,S g o↔o<xs.length*el.size)/\refs.kw g=none:=by
  unfold appS at h1;split at h1
  .rename_i k;split at h1
   .rename_i e' Fa cD f hk;split at h1
    .rename_i Pb iH;split at h1
     .rename_i he;simp only[j4,j8]at h1;obtain⟨rfl,rfl,rfl⟩:=h1;have:=lZ iH;cases this;subst he;have mS:=bC.par hk;have bW:=bC.ok.nm hk;have hk:=bC.ok.live hk;have hz:=hx.2.2 _ hk;obtain⟨css,aQ,ar,hS⟩:=ij bW (hR.box k _ hk);have rF:d≠k:=by rintro rfl;rw[hd]at hk;simp at hk
      refine⟨σ.setB k .gone,rfl,H0 hR hk,by rw[cE σ _ rF];exact hd,css,by rw[hz];exact aQ,ar,λg hg=>?_⟩;rw[hz]at hg;refine⟨?_,l9 (hR.box k _ hk) hg,λk' b' aP az=>?_,(hS g hg).1,(hS g hg).2,hR.kw_live hk hg⟩
      .rcases hR.own k _ g hk hg with h|h
       .exact h
       .rw[mS]at h;simp at h
      .have ca:k'≠k:=by rintro rfl;rw[gg]at aP;simp at aP
       rw[cE σ _ ca]at aP;exact hR.apart k' k _ _ g ca aP hk az hg
     .simp at h1
    .simp at h1
   .simp at h1
  .simp only[j4,j8]at h1;obtain⟨rfl,rfl,rfl⟩:=h1;have hz:vx = .slice none 0 0:=hx;subst hz;exact⟨σ,rfl,hR,hd,[],World.ownsRow_nil w 0 ti.elem el.size,trivial,λg hg=>by simp[blk]at hg⟩
  .simp at h1
 obtain⟨σ1,Yv,bu,rC,cx,aQ,Fb,hblk⟩:=src;rw[jV,Yv];obtain⟨v',w',hr,cF,os,tape,output,bZ,cp⟩:=Yr hT ht bB (ty:=ty) aQ fD sH cT Yu eH;have mT:cx.flatten.length=xs.length*el.size:=aQ.1;let S':aF:=λg o=>S g o\/(frz=true/\blk v'=some g/\o<(xs++ys).length*el.size)
 have aC:cX S w S' w':=by
  intro g o hs;refine⟨.inl hs,?_⟩;rcases cp with⟨rfl,rfl⟩|⟨hb,⟨g0,h9⟩,hh⟩|⟨hb,hh⟩
  .rfl
  .by_cases hg:g=g0
   .subst hg;obtain⟨_,_,_,hf,rG,_⟩:=hblk g h9;cases frz with
    |false=>exact absurd hs (hf rfl o)
    |true=>
     have ho:=(rG rfl o).1 hs
     have gC:v'.ownBlock=some g:=by
      rw[h9]at hb;rcases cF.2 with⟨hn,_⟩|⟨g1,cap,cur,hn,_⟩
      .rw[hn]at hb;simp[blk]at hb
      .rw[hn]at hb ⊢;simp[blk]at hb;simp[Value.ownBlock,hb]
     have Yw:vx.ownBlock=some g:=by
      rcases aQ.2 with⟨hn,_⟩|⟨g1,cap,cur,hn,_⟩
      .rw[hn]at h9;simp[blk]at h9
      .rw[hn]at h9 ⊢;simp[blk]at h9;simp[Value.ownBlock,h9]
     have Cb:(cx.flatten)[o]? = some (cx.flatten[o]'(by omega)):=jj (by omega);have e1:=aQ.cells Yw o _ Cb;have e2:=cF.cells gC o (cx.flatten[o]'(by omega)) (by rw[List.getElem?_append_left (by omega)];exact Cb);rw[Addr.add_lit,kf]at e1 e2;rw[e1,e2]
   .have:=hh g (by rw[h9];simpa using λh=>hg h.symm);exact World.cell?_of_block (a:=⟨g,o,none⟩) this
  .exact World.cell?_of_block (a:=⟨g,o,none⟩) (hh g (hR.here g o hs))
 have Fc:∀g,blk v'=some g->w0.heap.size<=g/\(∀k b,σ1.bx k = .live b->blk (γ k)≠some g)/\g<w'.heap.size:=by
  intro g hg
  have aq:g<w'.heap.size:=by
   rcases cF.2 with⟨hn,_⟩|⟨g1,cap,cur,hn,_,hh,_⟩
   .rw[hn]at hg;simp[blk]at hg
   .rw[hn]at hg;simp[blk]at hg;subst hg;exact(jm.1 hh).1
  rcases cp with⟨rfl,rfl⟩|⟨hb,⟨g0,h9⟩,hh⟩|⟨hb,hh⟩
  .obtain⟨q1,q2,q3,_⟩:=hblk g hg;exact⟨q1,q3,aq⟩
  .rw[hb]at hg;obtain⟨q1,q2,q3,_⟩:=hblk g hg;exact⟨q1,q3,aq⟩
  .rw[hb]at hg;simp at hg;subst hg;exact⟨hR.grow,λk b hk az=>by have:=l9 (bu.box k b hk) az;omega,aq⟩
 obtain⟨dn,cU⟩:=E8 bu rC (hm:=HH hT ht) (w':=w') (S':=S') (v':=v') (e:=ti.elem) (el:=el) (zs:=xs++ys) (frz:=frz) (css:=cx++cy) aC (λg hg ba=>by
   rcases cp with⟨rfl,rfl⟩|⟨hb,_,hh⟩|⟨hb,hh⟩
   .rfl
   .exact hh g (by rw[<-hb];exact ba)
   .exact hh g hg) bZ Fc (λg o hs=>hs.imp id (λh=>h.2.1)) os tape output (by rw[vd,ja];exact cF)
  ((
   Fb.mono (λx c hx=>Rep.keep aC _ _ _ hx)).append (wK.mono (λx c hx=>Rep.keep aC _ _ _ hx))) (λg hg=>by
   have hold:∀o,S g o->frz=true/\o<xs.length*el.size:=by
    intro o hs;rcases cp with⟨rfl,rfl⟩|⟨hb,⟨g0,h9⟩,hh⟩|⟨hb,hh⟩
    .obtain⟨_,_,_,hf,rG,_⟩:=hblk g hg;cases frz with
     |false=>exact absurd hs (hf rfl o)
     |true=>exact⟨rfl,(rG rfl o).1 hs⟩
    .rw[hb]at hg;obtain⟨_,_,_,hf,rG,_⟩:=hblk g hg;cases frz with
     |false=>exact absurd hs (hf rfl o)
     |true=>exact⟨rfl,(rG rfl o).1 hs⟩
    .rw[hb]at hg;simp at hg;subst hg;exact absurd hs (E0 hR o)
   refine⟨λhf o hs=>?_,λhf o=>⟨λhs=>?_,λho=> .inr ⟨hf,hg,ho⟩⟩⟩
   .rcases hs with hs|hs
    .rw[hf]at hold;simp at hold;exact hold o hs
    .rw[hf]at hs;simp at hs
   .rcases hs with hs|hs
    .have:=(hold o hs).2;rw[ja,Nat.add_mul];omega
    .exact hs.2.2) (λg hg=>by
   rcases cp with⟨rfl,rfl⟩|⟨hb,⟨g0,h9⟩,hh⟩|⟨hb,hh⟩
   .exact(hblk g hg).2.2.2.2.2
   .rw[hb]at hg;exact(hblk g hg).2.2.2.2.2
   .rw[hb]at hg;simp at hg;subst hg;exact hR.kw_new (jg _))
 exact⟨v',w',S',_,hr,dn,cU⟩
end
theorem Yx(L l:List Value)(v:Value)(n:Nat)(h:n<L.length) :
  (L.set n v).take (n+1)++l++(L.set n v).drop (n+1+l.length)=L.take n++v::l++L.drop (n+(l.length+1)):=by
 obtain⟨A,x,B,hA,rfl⟩:∃A x B,List.length A=n/\L=A++x::B:=⟨L.take n,L[n],L.drop (n+1),by simp;omega,by rw[List.getElem_cons_drop h,ki]⟩;subst hA;rw[zp _ _ (jg _),Nat.sub_self,List.set_cons_zero];have e1:(A++v::B).take (A.length+1)=A++[v]:=by rw[show A++v::B=(A++[v])++B by simp];exact List.take_left' (by simp)
 have e2:(A++x::B).take A.length=A:=List.take_left' rfl;have e3:∀y,(A++y::B).drop (A.length+1+l.length)=B.drop l.length:=by intro y;rw[show A++y::B=(A++[y])++B by simp,<-List.drop_drop,List.drop_left' (by simp)]
 rw[e1,e2,e3,show A.length+(l.length+1)=A.length+1+l.length by omega,e3];simp
theorem Pp(off:Nat):∀(l:List Value)(k:Nat)(cells:Array Value),off+k+l.length<=cells.size->
  ((l.zipIdx k).foldl (λcs x=>cs.setIfInBounds (off+x.2) x.1) cells).toList=cells.toList.take (off+k)++l++cells.toList.drop (off+k+l.length)
 |[],k,cells,_=>by simp
 |v::l,k,cells,h=>by
  simp only[jk]at h;rw[List.zipIdx_cons,vk,Pp off l (k+1) _ (by simp;omega)];simp only[Array.toList_setIfInBounds];rw[show off+(k+1)=off+k+1 by omega];exact Yx cells.toList l v (off+k) (by simp;omega)
theorem Pq(cells:Array Value)(off:Nat)(zs:Array Value)(h:off+zs.size<=cells.size) :
  (zs.zipIdx.foldl (λcs (x:Value×Nat)=>cs.setIfInBounds (off+x.2) x.1) cells).toList=cells.toList.take off++zs.toList++cells.toList.drop (off+zs.size):=by
 rw[<-Array.foldl_toList,Array.toList_zipIdx];have:=Pp off zs.toList 0 cells (by simpa using h);simpa using this
theorem Pr(z:List Value):∀(n p:Nat),p<n*z.length->(List.replicate n z).flatten[p]? = z[p%z.length]?
 |0,p,h=>by simp at h
 |n+1,p,h=>by
  rw[List.replicate_succ,q7];by_cases hp:p<z.length
  .rw[List.getElem?_append_left hp,Nat.mod_eq_of_lt hp]
  .rw[k5 (by omega),Pr z n (p-z.length) (by rw[Nat.add_mul]at h;omega)];congr 1;exact(Nat.mod_eq_sub_mod (by omega)).symm
theorem Ps(z:Array Value)(n:Nat)(hz:0<z.size):((Array.range (n*z.size)).map (λi=>z[i%z.size]!)).toList=(List.replicate n z.toList).flatten:=by
 apply vu;intro p;by_cases hp:p<n*z.size
 .rw[Pr z.toList n p (by simpa using hp)];have hm:p%z.size<z.size:=Nat.mod_lt _ hz;simp[hp,hm]
 .rw[qr (by simp;omega),qr (by rw[List.length_flatten];simp;omega)]
section
variable{N:NT}{np:Nat}{S0:aF}{w0:World}{refs:Refs}{σ:St}{a:Go.Act}{w:World}{S:aF}{γ:Nat->Value}
theorem H4{t:Ty}{z:Value}(h:z.cells.toList=iG t):z.cells.size=t.size:=by
 have:=Rep.length t t.dflt _ (oQ (S:=λ_ _=>False) (w:=(default:World)) t);rw[<-h]at this;simpa using this
theorem Fe{t:Ty}{z:Value}(h:z.cells.toList=iG t):∀u∈z.cells.toList,One u:=by
 rw[h];exact Rep.one t t.dflt _ (oQ (S:=λ_ _=>False) (w:=(default:World)) t)
theorem H5{P:Program}{T:Nat->Option TyI}(hT:cB P T){t:TypeId}{ti:TyI}(ht:T t=some ti){ty:Ty}(bB:ti.ty=some ty) :
  ∃z:Value,z.cells.toList=iG ty/\(Instr.alloc t true (.tuple #[])).run P w = .ok (.pointer (some ⟨w.heap.size,0,none⟩)) (w.alloc (.cells z.cells t)):=by
 obtain⟨z,hz,hc⟩:=zM hT ht w bB;refine⟨z,hc,?_⟩;simp only[Instr.alloc,Sem.run_bind,hz,Result.andThen_ok,newVar,newRow,run_newObj,Sem.run_pure,World.alloc_eq]
theorem Pt{P:Program}(t:TypeId)(v:Value):(Instr.box t v).run P w = .ok (.pointer (some ⟨w.heap.size,0,none⟩)) (w.alloc (.cells v.cells t)):=by
 simp only[Instr.box,Sem.run_bind,newVar,newRow,run_newObj,Result.andThen_ok,Sem.run_pure,World.alloc_eq]
theorem Pu{P:Program}{α β:Type}(f:α->Sem β)(g:α->β):∀(l:List α),(∀x∈l,(f x).run P w = .ok (g x) w)->(l.mapM f).run P w = .ok (l.map g) w
 |[],_=>by simp
 |x::l,h=>by
  rw[z8];simp only[Sem.run_bind,h x (by simp),Result.andThen_ok,Pu f g l (λy hy=>h y (by simp[hy])),Sem.run_pure,kr]
theorem Pv{bx:Nat->BS}{ti:TyI}{sz:Nat->Option Nat}{place:Nat->Option (Nat×Nat)}(hp:∀i f n,ti.flds[i]? = some f->sz f.2=some n->place i=some (f.1,n)) :
  ∀(ps:List (Nat×Cel))(vs:List (Nat×Value)){ls fV:List Leaf}{cells:Array Value},All2 (λp v=>p.1=v.1/\bJ S w γ bx p.2 v.2) ps vs->yZ ti sz ls ps=some fV->
   All2 (bO S w γ bx) ls cells.toList->(∀u∈cells.toList,One u)->∃bj,Instr.fill place cells vs=some bj/\All2 (bO S w γ bx) fV bj.toList/\∀u∈bj.toList,One u
 |[],[],ls,fV,cells,_,h,ha,h1=>by
  simp[yZ]at h;subst h;exact⟨cells,rfl,ha,h1⟩
 |(i,c)::ps,(j,v)::vs,ls,fV,cells,⟨⟨dK,hc⟩,gG⟩,h,ha,h1=>by
  simp only at dK;subst dK;simp only[yZ]at h;split at h
  .rename_i f hf;split at h
   .rename_i new dH;split at h
    .rename_i dL;obtain⟨bZ,hle⟩:=dL;obtain⟨hl,mQ⟩:=B5 dH hc;have hlen:=hl.length;have uw:=ha.length;have me:v.cells.size=new.length:=by rw[hlen];simp
     have dG:cells.size=ls.length:=by rw[uw];simp
     have Ff:=Pq cells f.1 v.cells (by omega);have cH:=E3 (c:=f.1) ha hl
     obtain⟨bj,fN,h2,h3⟩:=Pv hp ps vs (cells:=(v.cells.zipIdx.foldl (λcs (x:Value×Nat)=>cs.setIfInBounds (f.1+x.2) x.1) cells)) gG h
      (by rw[Ff];simpa using cH) (by
       rw[Ff];intro u hu;simp only[jn]at hu;rcases hu with (hu|hu)|hu
       .exact h1 u (qf hu)
       .exact mQ u hu
       .exact h1 u (zd hu))
     refine⟨bj,?_,h2,h3⟩;simp only[Instr.fill,hp i f _ hf bZ];rw[if_neg (by simp[me];omega)];exact fN
    .simp at h
   .simp at h
  .simp at h
 |[],_::_,_,_,_,h,_,_,_=>h.elim
 |_::_,[],_,_,_,h,_,_,_=>h.elim
theorem Yy{P:Program}{E:Env}(hT:cB P E.T){bx:Nat->BS}{t:TypeId}{ti:TyI}(ht:E.T t=some ti){ty:Ty}(bB:ti.ty=some ty)(lu:ty.agg=true)
  {ps:List (Nat×Cel)}{vs:Array (Nat×Value)}{ls:List Leaf}(gG:All2 (λp v=>p.1=v.1/\bJ S w γ bx p.2 v.2) ps vs.toList)
  (h:yZ ti (λt=>(E.T t).map (·.size)) (mO ty) ps=some ls) :
  ∃z,(Instr.build t vs).run P w = .ok z w/\bJ S w γ bx (.st ls) z:=by
 obtain⟨z,hz,gz⟩:=zM hT ht w bB;obtain⟨i,d,hi,hd,_,_,_,fa,dF⟩:=lj hT ht;have nH:=(dF ty bB).2.2;cases d with
 |struct fs=>
  simp only[BR,jb,jo]at fa;obtain⟨su,wE⟩:=fa
  have sJ:(fs.mapM (λf=>do pure (f.offset,<-sizeOf f.type):Field->Sem (Nat×Nat))).run P w = .ok (fs.map λf=>(f.offset,((E.T f.type).map (·.size)).getD 0)) w:=by
   rw[Array.mapM_eq_mapM_toList]
   have:=Pu (P:=P) (w:=w) (λf=>(do pure (f.offset,<-sizeOf f.type):Sem (Nat×Nat))) (λf:Field=>(f.offset,((E.T f.type).map (·.size)).getD 0)) fs.toList (λf hf=>by
    have:=jz.1 wE f hf;split at this
    .rename_i tf pr;simp only[Sem.run_bind,iU hT pr,Result.andThen_ok,Sem.run_pure,pr,kx,kz]
    .simp at this)
   simp only[Sem.run_map,this,Result.andThen_ok];congr 1;apply qo;simp
  have hp:∀(i:Nat)(f:Nat×Nat)(n:Nat),ti.flds[i]? = some f->(E.T f.2).map (·.size)=some n->(fs.map λf=>(f.offset,((E.T f.type).map (·.size)).getD 0))[i]? = some (f.1,n):=by
   intro i f n hf hn;rw[<-su,qm]at hf;cases hq:fs.toList[i]? with
   |none=>simp[hq]at hf
   |some fl=>
    simp only[hq,kx,j4]at hf;subst hf;have Fg:fs[i]? = some fl:=by simpa using hq
    simp only at hn;simp[Fg,hn]
  obtain⟨bj,fN,ha,h1⟩:=Pv (S:=S) (w:=w) (γ:=γ) (place:=λi=>(fs.map λf=>(f.offset,((E.T f.type).map (·.size)).getD 0))[i]?) hp ps vs.toList (cells:=z.cells) gG h (by rw[gz];exact uv ty) (Fe gz);refine⟨.agg bj,?_,bj,rfl,ha,h1⟩;simp only[Instr.build,Sem.run_bind,hz,Result.andThen_ok,run_underlying hd,sJ,fN,Sem.run_pure]
 |_=>exfalso;revert nH lu;cases ty<;>simp[iS,Ty.agg]
theorem Px{rd:Nat->BS}{el:Ty}:∀(ps:List (Nat×Cel)){xs cD:List el.den}{u u':Ups},iD rd el xs u ps=some (cD,u')->∃u2,u'=u++u2
 |[],_,_,u,u',h=>by simp[iD]at h;exact⟨[],by simp[h.2]⟩
 |(i,c)::ps,xs,cD,u,u',h=>by
  simp only[iD]at h;split at h
  .split at h
   .obtain⟨u2,hu⟩:=Px ps h;exact⟨_,by rw[hu,jd]⟩
   .simp at h
  .simp at h
theorem H6{rd:Nat->BS}(aT:RdF np σ rd){el:Ty}(bP:0<el.size):∀(ps:List (Nat×Cel))(vs:List (Nat×Value)){xs cD:List el.den}{u u':Ups},
  All2 (λp v=>p.1=v.1/\bJ S w γ σ.bx p.2 v.2) ps vs->iD rd el xs u ps=some (cD,u')->FrzL np σ.bx u->
  FrzL np σ.bx u'/\∀S',cX S w S' w->Froz σ.bx γ S' w u'->∀(css:List (List Value))(cells:Array Value),All2 (λx c=>Rep S' w el x c) xs css->cells.toList=css.flatten->
   ∃bj iZ,Instr.fill (λi=>some (i*el.size,el.size)) cells vs=some bj/\All2 (λx c=>Rep S' w el x c) cD iZ/\bj.toList=iZ.flatten
 |[],[],xs,cD,u,u',_,h,hf=>by
  simp[iD]at h;obtain⟨rfl,rfl⟩:=h;exact⟨hf,λS' _ _ css cells ha hc=>⟨cells,css,rfl,ha,hc⟩⟩
 |(i,c)::ps,(j,v)::vs,xs,cD,u,u',⟨⟨dK,hc⟩,gG⟩,h,hf=>by
  simp only at dK;subst dK;simp only[iD]at h;split at h
  .rename_i x u1 hx;split at h
   .rename_i hi;obtain⟨su,wL,mQ⟩:=B3 aT hx hc;obtain⟨Fh,cL⟩:=H6 aT bP ps vs gG h (FrzL.app.2 ⟨hf,su⟩);obtain⟨u2,Py⟩:=Px ps h;refine⟨Fh,λS' aC dI css cells ha df=>?_⟩;have Yz:=(wL S' w aC (Froz.app.1 (Froz.app.1 (Py▸dI)).1).2).1;have H7:cells.size=xs.length*el.size:=by have:=All2.flatten_length (λx c hx=>Rep.length el x c hx) ha;rw[<-df]at this;simpa using this
    have Pl:i*el.size+el.size<=xs.length*el.size:=by have:(i+1)*el.size<=xs.length*el.size:=jx _ (by omega);rwa[va]at this
    have mQ:v.cells.toList.length=el.size:=mQ;have me:v.cells.size=el.size:=by simpa using mQ
    have sC:v.cells.toList.length=v.cells.size:=qe;have Ff:=Pq cells (i*el.size) v.cells (by omega);obtain⟨ci,mb⟩:∃ci,css[i]? = some ci:=⟨css[i]'(by rw[<-ha.length];exact hi),jj _⟩;have E6:=HY (cur:=cells.toList) (n:=xs.length) (c:=0) (zs:=v.cells.toList) (All2.all_len ha) ha.length.symm (by rw[df,<-df];exact List.take_of_length_le (by simp[H7])) mb (by omega);have fp:ci.length=el.size:=All2.all_len ha ci (k9 mb)
    have dH:cells.toList.take (i*el.size)++v.cells.toList++cells.toList.drop (i*el.size+v.cells.size)=(css.set i v.cells.toList).flatten:=by
     have e1:ci.take 0++v.cells.toList++ci.drop (0+v.cells.toList.length)=v.cells.toList:=by rw[jf (by omega)];simp
     rw[e1]at E6;rw[<-E6];symm;refine(List.take_of_length_le ?_).trans ?_
     .simp;omega
     .simp
    obtain⟨bj,iZ,h1,h2,h3⟩:=cL S' aC dI (css.set i v.cells.toList) _ (ha.set i x v.cells.toList Yz) (Ff.trans dH);refine⟨bj,iZ,?_,h2,h3⟩;simp only[Instr.fill];rw[if_neg (by simp[me];omega)];exact h1
   .simp at h
  .simp at h
 |[],_::_,_,_,_,_,h,_,_=>h.elim
 |_::_,[],_,_,_,_,h,_,_=>h.elim
end
theorem YA{P:Program}{t e:TypeId}(h:P.underlying t=some (.slice e)):P.elem t=e:=by simp[Program.elem,h]
def VB(d:Nat)(o:Option Value)(i:Nat):Prop:=(o=none/\i=d)\/∃k,o=some (.int k (i:Int))
theorem zT{P:Program}{w:World}{t:TypeId}{e s:Nat}(hd:P.underlying t=some (.slice e))(hs:(sizeOf e).run P w = .ok s w){ad:Option Addr}{len cap i j:Nat}{lo hi:Option Value}
  (jO:VB 0 lo i)(lF:VB len hi j)(dK:i<=j)(hj:j<=cap) :
  (Instr.sliceAt t (.slice ad len cap) lo hi none).run P w = .ok (.slice (if cap=i then ad else ad.map (·.add (i*s))) (j-i) (cap-i)) w:=by
 have he:=YA hd;have gf:P.underlying t=some (.slice (P.elem t)):=by rw[he];exact hd
 rw[run_sliceAt_slice w t _ _ _ _ gf];have dr:(sizeOf (P.elem t)).run P w = .ok s w:=by rw[he];exact hs
 rcases jO with⟨rfl,rfl⟩|⟨kl,rfl⟩
 .rcases lF with⟨rfl,rfl⟩|⟨kh,rfl⟩
  .rw[run_slice_all w t ad _ cap gf,dr];simp[Result.andThen,sliced]
  .rw[run_slice_h w t ad len cap gf kh _ (by omega) (by omega),dr];simp[Result.andThen,sliced]
 .rcases lF with⟨rfl,rfl⟩|⟨kh,rfl⟩
  .rw[run_slice_l w t ad _ cap gf kl _ (by omega) (by omega),dr];simp[Result.andThen,sliced]
  .rw[run_slice_lh w t ad len cap gf kl kh _ _ (by omega) (by omega) (by omega),dr];simp[Result.andThen,sliced]
section
variable{N:NT}{np:Nat}{S0:aF}{w0:World}{refs:Refs}{σ:St}{a:Go.Act}{w:World}{S:aF}{γ:Nat->Value}
theorem Pz{el:Ty}{xs:List el.den}{ad:Option Addr}{cap:Nat}(h:Rep S w (.list el) xs [.slice ad (List.length xs) cap]){i j:Nat}(dK:i<=j)(hj:j<=List.length xs) :
  Rep S w (.list el) ((xs.take j).drop i) [.slice (if cap=i then ad else ad.map (·.add (i*el.size))) (j-i) (cap-i)]:=by
 obtain⟨ad',gM,he,hle,lz,hn,hb⟩:=h;simp only[List.cons.injEq,Value.slice.injEq,and_true,qi]at he;obtain⟨rfl,rfl⟩:=he;have hlen:((xs.take j).drop i).length=j-i:=by simp;omega
 refine⟨_,_,by rw[hlen],by rw[hlen];omega,by omega,λh=>?_,λb aP=>?_⟩
 .have:ad=none:=by
   split at h
   .exact h
   .simpa using h
  have:=hn this;omega
 .by_cases hc:cap=i
  .rw[if_pos hc]at aP;have hz:(xs.take j).drop i=[]:=jy (by omega);rw[hz];exact⟨λh=>absurd rfl h,[],trivial,λj v hv=>by simp at hv⟩
  .rw[if_neg hc]at aP;cases ad with
   |none=>simp at aP
   |some b0=>
    simp only[kx,j4]at aP;subst aP;obtain⟨cH,css,ha,hl⟩:=hb b0 rfl;by_cases hx:(xs.take j).drop i=[]
    .rw[hx];exact⟨λh=>absurd rfl h,[],trivial,λj v hv=>by simp at hv⟩
    .have fW:xs≠[]:=λh=>hx (by rw[h];simp);obtain⟨g,o,sp⟩:=b0;have cH:=cH fW;simp at cH;subst cH;have wM:(⟨g,o,none⟩:Addr).add (i*el.size)=⟨g,o+i*el.size,none⟩:=Addr.add_lit _ _ _;rw[wM];refine⟨λ_=>rfl,(css.take j).drop i,(ha.take j).drop i,λq v hq=>?_⟩;have fp:=All2.all_len ha;rw[E7 i (λc hc=>fp c (qf hc)),uz j fp,List.getElem?_drop,vj]at hq;split at hq
     .have:=hl _ v hq;simpa[Nat.add_assoc]using this
     .simp at hq
def ORep(R:Leaf->Value->Prop):Option Leaf->Option Value->Prop
 |none,none=>True
 |some l,some v=>R l v
 |_,_=>False
theorem wN{d:Nat}{o:Option Leaf}{vo:Option Value}{i:Int}{bx:Nat->BS}(h:bnd d o=some i)(ho:ORep (bO S w γ bx) o vo)(hi:0<=i):VB d vo i.toNat:=by
 unfold bnd at h;split at h
 .cases vo with
  |none=>simp at h;exact .inl ⟨rfl,by omega⟩
  |some v=>exact ho.elim
 .cases vo with
  |none=>exact ho.elim
  |some v=>simp at h;rename_i k n;have hv:v = .int k n:=rz (S:=S) (w:=w) ho;refine .inr ⟨k,?_⟩;rw[hv,show (n:Int)=i from h,Int.toNat_of_nonneg hi]
 .simp at h
theorem YB{P:Program}{E:Env}(hT:cB P E.T)(hR:Rel N np S0 w0 refs σ a w S γ){rd:Nat->BS}(aT:RdOk σ rd){t:TypeId}{ti:TyI}(ht:E.T t=some ti)
  {d:Nat}{x l:Leaf}{lo hi:Option Leaf}{vx:Value}{wO Cc:Option Value}{u:Ups}(aY:∀k,jT (rd k)=true->σ.bx k = .free)(h:y8 (parK np) rd ti d x lo hi=some (true,l,u))
  (hx:bO S w γ σ.bx x vx)(jO:ORep (bO S w γ σ.bx) lo wO)(lF:ORep (bO S w γ σ.bx) hi Cc) :
  ∃v S' γ',(Instr.sliceAt t vx wO Cc none).run P w = .ok v w/\Rel N np S0 w0 refs (σ.upd u) a w S' γ'/\bJ S' w γ' (σ.upd u).bx (.one l) v:=by
 unfold y8 at h;split at h
 ·-- a datum
  rename_i el xs;split at h
  .rename_i bB;obtain⟨hd,_,te,cN,cY⟩:=pq hT ht bB;have bZ:=nG hT cN cY;split at h
   .rename_i i j bF eJ;simp only[j4,j8,jb,jo]at h;obtain⟨⟨h0,h1,h2⟩,rfl,rfl⟩:=h;have gN:=hx;obtain⟨ad,cap,hv,hle,_⟩:=hx;simp at hv;subst hv;have hlen:((List.length xs:Nat):Int)=Int.ofNat (List.length xs):=rfl;refine⟨_,S,γ,zT hd (s:=el.size) ?_ (wN bF jO h0) (wN eJ lF (by omega)) (by omega) (by omega),hR,Pz gN (by omega) (by omega),λ_=>rfl⟩;rw[iU hT cN,bZ]
   .simp at h
  .simp at h
 .rename_i k;split at h
  ·-- the tail
   split at h
   .rename_i e el xs f hk;split at h
    .rename_i bB;obtain⟨hd,_,te,cN,cY⟩:=pq hT ht bB;have bZ:=nG hT cN cY;split at h
     .rename_i i bF;simp only[j4,j8,jb,jo]at h;obtain⟨⟨h0,h1⟩,rfl,rfl⟩:=h;have bW:=aT.nm hk;have hk:=aT.live hk;have hz:=hx.2.2 _ hk;obtain⟨css,aQ,_⟩:=ij bW (hR.box k _ hk)
      obtain⟨ad,cap,hg,cM⟩:∃ad cap,γ k = .slice ad xs.length cap/\xs.length<=cap:=by
       rcases aQ.2 with⟨hg,hn⟩|⟨g,cap,cur,hg,_,_,jL,_⟩
       .exact⟨none,0,by rw[hg,hn],by omega⟩
       .exact⟨_,cap,hg,jL⟩
      have wP:VB xs.length Cc xs.length:=by
       cases Cc with
       |none=>exact .inl ⟨rfl,rfl⟩
       |some v=>exact lF.elim
      subst hz;have aL:=zT (ad:=ad) (w:=w) hd (s:=el.size) (by rw[iU hT cN,bZ]) (wN bF jO h0) wP (by omega) cM;rw[<-hg]at aL;refine⟨_,S,γ,aL,hR,⟨hx.1,rfl,λb hb=>?_⟩,λ_=>rfl⟩;rw[show (σ.upd []).bx k=σ.bx k from rfl,hk]at hb;cases hb;exact⟨bW,by omega,ad,cap,hg,rfl⟩
     .simp at h
    .simp at h
   .simp at h
  .rename_i hh;split at h
   .rename_i e el xs f hk;split at h
    .rename_i bB;obtain⟨hd,_,te,cN,cY⟩:=pq hT ht bB;have bZ:=nG hT cN cY;split at h
     .rename_i i j bF eJ;have bW:=aT.nm hk;have hk:=aT.live hk;have hz:=hx.2.2 _ hk;split at h
      ·-- a uB: its head
       split at h
       .rename_i PA;simp only[Option.isNone_iff_eq_none]at PA;subst PA;simp only[j4,j8,jb,jo]at h;obtain⟨⟨h0,h1⟩,rfl,rfl⟩:=h;obtain⟨css,aQ,_⟩:=ij bW (hR.box k _ hk)
        have sK:VB 0 wO 0:=by
         cases wO with
         |none=>exact .inl ⟨rfl,rfl⟩
         |some v=>exact jO.elim
        have wP:=wN eJ lF h0
        obtain⟨ad,cap,hg,cM,YC⟩:∃ad cap,γ k = .slice ad xs.length cap/\xs.length<=cap/\(if cap=0 then ad else ad.map (·.add (0*el.size)))=ad:=by
         rcases aQ.2 with⟨hg,hn⟩|⟨g,cap,cur,hg,_,_,jL,_⟩
         .exact⟨none,0,by rw[hg,hn],by omega,rfl⟩
         .exact⟨_,cap,hg,jL,by simp[Addr.add_lit]⟩
        have aL:=zT (ad:=ad) (w:=w) hd (s:=el.size) (by rw[iU hT cN,bZ]) sK wP (by omega) (show j.toNat<=cap by omega);rw[<-hg,YC]at aL;subst hz;refine⟨_,S,γ,aL,hR,⟨hx.1,rfl,λb hb=>?_⟩,λ_=>rfl⟩;rw[show (σ.upd []).bx k=σ.bx k from rfl,hk]at hb;cases hb;exact⟨bW,by omega,ad,cap,hg,rfl⟩
       .simp at h
      rename_i mS;have mS:parK np k=false:=by simpa using mS
      split at h
      ·-- cut short
       rename_i fe;simp only[jb,Option.isNone_iff_eq_none,Bool.not_eq_eq_eq_not,jq]at fe;obtain⟨rfl,rfl⟩:=fe;split at h
       .rename_i iX;simp only[j4,j8,jb,jo]at h;obtain⟨⟨h0,h1⟩,rfl,rfl⟩:=h;have Cd:=aY d iX;have rF:d≠k:=by rintro rfl;rw[Cd]at hk;simp at hk
        obtain⟨css,aQ,ar,hS⟩:=ij bW (hR.box k _ hk);have fp:=All2.all_len ar
        have sK:VB 0 wO 0:=by
         cases wO with
         |none=>exact .inl ⟨rfl,rfl⟩
         |some v=>exact jO.elim
        have wP:=wN eJ lF h0;have bu:=H0 hR hk;have rC:(σ.setB k .gone).bx d = .free:=by rw[cE σ _ rF];exact Cd
        have wQ:j.toNat<=xs.length:=by omega
        have YD:css.length=xs.length:=ar.length.symm
        have key:∃v',(Instr.sliceAt t vx wO Cc none).run P w = .ok v' w/\w.ownsRow 0 e el.size v' (List.take j.toNat xs).length (List.take j.toNat css).flatten/\blk v'=blk vx:=by
         rw[hz];have aq:(List.take j.toNat xs).length=j.toNat:=by simp;omega
         rcases aQ.2 with⟨hg,hn⟩|⟨g,cap,cur,hg,_,hh,jL,lz,dG,dV⟩
         .rw[hg];have YE:j.toNat=0:=by omega
          refine⟨_,zT hd (s:=el.size) (len:=0) (by rw[iU hT cN,bZ]) sK (by rw[hn]at wP;exact wP) (by omega) (by omega),?_,by simp;rfl⟩;rw[YE];simpa using World.ownsRow_nil w 0 e el.size
         .rw[hg];refine⟨_,zT hd (s:=el.size) (by rw[iU hT cN,bZ]) sK wP (by omega) (by omega),?_,?_⟩
          .refine⟨?_,.inr ⟨g,cap,cur,?_,kc _,hh,by omega,lz,dG,?_⟩⟩
           .rw[uz _ fp,ql,aQ.1,aq];exact vl (jx _ wQ)
           .rw[aq];by_cases hc:cap=0
            .simp[hc]
            .simp[hc,Addr.add_lit]
           .rw[aq,uz _ fp,<-dV,v6,vl (jx _ wQ)]
          .by_cases hc:cap=0
           .simp[hc];rfl
           .simp[hc,Addr.add_lit];rfl
        obtain⟨v',aL,cF,hblk⟩:=key
        have mf:∀g,blk v'=some g->w0.heap.size<=g/\(∀k' b,(σ.setB k .gone).bx k' = .live b->blk (γ k')≠some g)/\g<w.heap.size:=by
         intro g hg;rw[hblk,hz]at hg;refine⟨?_,λk' b' aP az=>?_,l9 (hR.box k _ hk) hg⟩
         .rcases hR.own k _ g hk hg with h|h
          .exact h
          .rw[mS]at h;simp at h
         .have ca:k'≠k:=by rintro rfl;rw[gg]at aP;simp at aP
          rw[cE σ _ ca]at aP;exact hR.apart k' k _ _ g ca aP hk az hg
        obtain⟨dn,cU⟩:=E8 bu rC (hm:=bW) (w':=w) (S':=S) (v':=v') (e:=e) (el:=el) (zs:=List.take j.toNat xs) (frz:=false) (css:=List.take j.toNat css) (.refl S w) (λg hg ba=>rfl) (jg _) mf
         (λg o hs=> .inl hs) rfl rfl rfl cF (ar.take _) (λg hg=>⟨λ_=>(hS g (by rw[<-hz,<-hblk];exact hg)).1 rfl,by simp⟩) (λg hg=>hR.kw_live hk (by rw[<-hz,<-hblk];exact hg))
        exact⟨v',S,_,aL,dn,cU⟩
       .simp at h
      ·-- shared
       simp only[j4,j8,jb,jo]at h;obtain⟨⟨h0,h1,h2⟩,rfl,rfl⟩:=h;obtain⟨S',cV,aC,bq⟩:=HU hR bW hk mS;have jW:=bq;obtain⟨ad,cap,hv,hle,_⟩:=bq;simp at hv;rw[hv]at jW;refine⟨_,S',γ,by rw[hz,hv];exact zT hd (s:=el.size) (by rw[iU hT cN,bZ]) (wN bF jO h0) (wN eJ lF (by omega)) (by omega) (by omega),cV,Pz jW (by omega) (by omega),λ_=>rfl⟩
     .simp at h
    .simp at h
   .simp at h
 .simp at h
theorem PB(hR:Rel N np S0 w0 refs σ a w S γ){x:Leaf}{k i e:Nat}{el:Ty}{xs:List el.den}{f:Bool}{vx:Value}(h:EP x=some (k,i))(bW:isM e=false)(hk:σ.bx k = .live (.lst e el xs f))
  (hx:bO S w γ σ.bx x vx):i<=xs.length/\((xs.length=0/\vx = .slice none 0 0)\/
   ∃g cap,γ k = .slice (some ⟨g,0,none⟩) xs.length cap/\xs.length<=cap/\vx = .slice (some ⟨g,if cap=i then 0 else i*el.size,none⟩) (xs.length-i) (cap-i)):=by
 obtain⟨css,aQ,ar,hS⟩:=ij bW (hR.box k _ hk);unfold EP at h;split at h
 .simp only[j4,j8]at h;obtain⟨rfl,rfl⟩:=h;have hz:=hx.2.2 _ hk;refine⟨kc _,?_⟩;rcases aQ.2 with⟨hg,hn⟩|⟨g,cap,cur,hg,_,hh,jL,lz,dG,dV⟩
  .exact .inl ⟨hn,by rw[hz,hg]⟩
  .exact .inr ⟨g,cap,hg,jL,by rw[hz,hg];simp⟩
 .rename_i k' i';simp only[j4,j8]at h;obtain⟨rfl,rfl⟩:=h;obtain⟨_,hi,ad,cap,az,hv⟩:=hx.2.2 _ hk;refine⟨hi,?_⟩;rcases aQ.2 with⟨hg,hn⟩|⟨g,gM,cur,hg,_,hh,jL,lz,dG,dV⟩
  .rw[hg]at az;simp only[Value.slice.injEq]at az;obtain⟨rfl,_,rfl⟩:=az;exact .inl ⟨hn,by rw[hv];simp;omega⟩
  .rw[hg]at az;simp only[Value.slice.injEq,qi]at az;obtain⟨rfl,rfl⟩:=az;refine .inr ⟨g,gM,hg,jL,?_⟩;rw[hv];by_cases hc:gM=i'
   .rw[if_pos hc,if_pos hc]
   .rw[if_neg hc,if_neg hc];simp[Addr.add_lit]
 .simp at h
theorem PC{P:Program}(hR:Rel N np S0 w0 refs σ a w S γ){k i e g cap:Nat}{el:Ty}{xs zs:List el.den}(hk:σ.bx k = .live (.lst e el xs false))(hg:γ k = .slice (some ⟨g,0,none⟩) xs.length cap)
  {cz:List (List Value)}(hz:All2 (λx c=>Rep S w el x c) zs cz)(hl:i+zs.length<=xs.length) :
  ∃w',(storeCells ⟨g,i*el.size,none⟩ cz.flatten).run P w = .ok () w'/\Rel N np S0 w0 refs (σ.setB k (.live (.lst e el (List.take i xs++(zs++List.drop (i+zs.length) xs)) false))) a w' S γ:=by
 have bW:=OW hg (hR.box k _ hk);obtain⟨css,aQ,ar,hS⟩:=ij bW (hR.box k _ hk);have wR:cz.flatten.length=zs.length*el.size:=All2.flatten_length (λx c hx=>Rep.length el x c hx) hz;have h1:∀u∈cz.flatten,One u:=by intro u hu;obtain⟨c,hc,BO⟩:=List.mem_flatten.1 hu;obtain⟨x,_,hx⟩:=hz.mem_right c hc;exact Rep.one el x c hx u BO
 rcases aQ.2 with⟨az,hn⟩|⟨g',gM,cur,az,_,hh,jL,lz,dG,dV⟩
 .rw[hg]at az;simp at az
 rw[hg]at az;simp only[Value.slice.injEq,j4,Addr.mk.injEq,and_true,qi]at az;obtain⟨rfl,rfl⟩:=az;have gj:i*el.size+zs.length*el.size<=xs.length*el.size:=by rw[<-Nat.add_mul];exact jx _ hl
 have jX:xs.length*el.size<=cap*el.size:=jx _ jL;have aC:=run_storeCells_at P g (i*el.size) e cz.flatten 0 cur w hh (by rw[wR,dG];omega) h1;simp only[Nat.add_zero]at aC;refine⟨_,aC,?_⟩;have fp:=All2.all_len ar;have H8:=All2.all_len hz;have uy:∀o,¬S g o:=(hS g (by rw[hg];rfl)).1 rfl;refine B4 hR hk (by rw[hg];rfl) uy (b':= .lst e el _ false) ⟨rfl,rfl,λ_=>by simp;omega⟩ hh (λil db=>?_);have hlen:(List.take i xs++(zs++List.drop (i+zs.length) xs)).length=xs.length:=by simp;omega
 refine BQ bW ⟨css.take i++(cz++css.drop (i+zs.length)),⟨?_,.inr ⟨g,cap,_,?_,kc _,setRow_heap w g cur _ e (0,0) hh,by rw[hlen];exact jL,lz,?_,?_⟩⟩,?_,λg' az=>?_⟩
 .rw[hlen,wG (m:=el.size)]
  .have:=ar.length;have:=hz.length;simp only[ja,ql,zh];congr 1;omega
  .intro d hd;simp only[jn]at hd;rcases hd with hd|hd|hd
   .exact fp d (qf hd)
   .exact H8 d hd
   .exact fp d (zd hd)
 .rw[hlen];exact hg
 .simp only[zu,ja,ql,zh,qe];omega
 .rw[hlen];simp only[vd,uz i fp,E7 _ fp,<-dV];have hA:(cur.toList.take (i*el.size)).length=i*el.size:=by simp;omega
  rw[jd,List.take_append,hA,List.take_of_length_le (by omega),v6,vl (by omega)];congr 1;rw[List.take_append,wR,List.take_of_length_le (by omega),Nat.add_mul];congr 1;rw[List.drop_take];congr 1;omega
 .exact((ar.mono (λx c hx=>Rep.keep db _ _ _ hx)).take _).append ((hz.mono (λx c hx=>Rep.keep db _ _ _ hx)).append ((ar.mono (λx c hx=>Rep.keep db _ _ _ hx)).drop _))
 .rw[hg]at az;simp[blk]at az;subst az;exact⟨λ_=>uy,by simp⟩
theorem PD{σ:St}{k:Nat}{b:BS}(h:σ.bx k=b):σ.setB k b=σ:=by
 unfold St.setB;congr 1;funext j;split
 .rename_i hj;subst hj;exact h.symm
 .rfl
theorem YF{P:Program}{E:Env}(hT:cB P E.T)(hR:Rel N np S0 w0 refs σ a w S γ){rd:Nat->BS}(aT:RdOk σ rd){t ty:TypeId}{ti:TyI}(ht:E.T t=some ti)
  {x y l:Leaf}{u:Ups}{vx vy:Value}(h:y9 rd ti.ty x y=some (l,u))(hx:bO S w γ σ.bx x vx)(hy:bO S w γ σ.bx y vy) :
  ∃v w',(Builtin.copy_ #[t,t] ty #[vx,vy]).run P w = .ok v w'/\Rel N np S0 w0 refs (σ.upd u) a w' S γ/\bJ S w' γ (σ.upd u).bx (.one l) v:=by
 unfold y9 at h;split at h
 .rename_i k i Ce;split at h
  .rename_i e el xs hk;split at h
   .rename_i bB;split at h
    .rename_i ys gl;simp only[j4,j8]at h;obtain⟨rfl,rfl⟩:=h;have bW:=aT.nm hk;have hk:=aT.live hk;obtain⟨hd,bP,te,cN,cY⟩:=pq hT ht bB;have bZ:=nG hT cN cY;have eI:(sizeOf ti.elem).run P w = .ok el.size w:=by rw[iU hT cN,bZ]
     obtain⟨ad,c,cy,H3,fD,wK,cT⟩:=Po hR aT gl hy;subst H3;obtain⟨hi,cp⟩:=PB hR Ce bW hk hx;have Cf:=All2.all_len wK;have lG:cy.length=ys.length:=wK.length.symm;have mc:(List.take (xs.length-i) ys).length=min ys.length (xs.length-i):=by simp;omega
     have Cg:over xs i ys=List.take i xs++(List.take (xs.length-i) ys++List.drop (i+(List.take (xs.length-i) ys).length) xs):=by
      unfold over;congr 2;rw[mc];by_cases h:ys.length<=xs.length-i
      .rw[vl h]
      .rw[Nat.min_eq_right (by omega),jf (by omega),jf (by omega)]
     have uC:(Builtin.firstCells el.size (min ys.length (xs.length-i)) (.slice ad ys.length c)).run P w = .ok (List.take (xs.length-i) cy).flatten.toArray w:=by
      cases ad with
      |none=>have h0:=(fD rfl).1;have:cy=[]:=jy (by omega);subst this;simp[Builtin.firstCells]
      |some b=>
       have e1:(List.take (xs.length-i) cy).flatten.length=min ys.length (xs.length-i)*el.size:=by rw[wG (m:=el.size) (λc hc=>Cf c (qf hc)),ql,lG,Nat.min_comm]
       have:=run_loadCells_list (P:=P) w b (List.take (xs.length-i) cy).flatten (λj v hj=>by
        rw[uz _ Cf,vj]at hj;split at hj
        .exact cT b rfl j v hj
        .simp at hj)
       rw[e1]at this;simpa[Builtin.firstCells]using this
     have aL:∀base dl dc w',vx = .slice base dl dc->dl=xs.length-i->(base=none->w'=w)->(∀ab,base=some ab->(storeCells ab (List.take (xs.length-i) cy).flatten).run P w = .ok () w')->
       (Builtin.copy_ #[t,t] ty #[vx,.slice ad ys.length c]).run P w = .ok (goInt ((min ys.length (xs.length-i):Nat):Int)) w':=by
      intro base dl dc w' hv nL da fc;subst hv nL;have sL:Nat.min ys.length (xs.length-i)=min ys.length (xs.length-i):=rfl;cases base with
      |none=>simp[Builtin.copy_,run_underlying hd,Builtin.lenOf,eI,sL,uC,da rfl]
      |some ab=>simp[Builtin.copy_,run_underlying hd,Builtin.lenOf,eI,sL,uC,fc ab rfl]
     by_cases hn:min ys.length (xs.length-i)=0
     .have hz:List.take (xs.length-i) ys=[]:=jy (by rw[mc];exact hn);have gz:(List.take (xs.length-i) cy).flatten=[]:=by have:List.take (xs.length-i) cy=[]:=jy (by rw[ql,lG];omega);rw[this];rfl
      have H9:over xs i ys=xs:=by rw[Cg,hz];simp
      refine⟨_,w,?_,?_,⟨rfl,λ_=>rfl⟩⟩
      .rcases cp with⟨h0,hv⟩|⟨g,cap,hg,cM,hv⟩
       .exact aL none 0 0 w hv (by omega) (λ_=>rfl) (λab bR=>by simp at bR)
       .refine aL _ _ _ w hv rfl (λ_=>rfl) (λab bR=>?_);rw[gz];rfl
      .show Rel N np S0 w0 refs (σ.setB k (.live (.lst e el (over xs i ys) false))) a w S γ;rw[H9,PD hk];exact hR
     .rcases cp with⟨h0,hv⟩|⟨g,cap,hg,cM,hv⟩
      .omega
      .have mb:cap≠i:=by omega
       rw[if_neg mb]at hv;obtain⟨w',aC,dn⟩:=PC (P:=P) hR hk hg (i:=i) (wK.take (xs.length-i)) (by rw[mc];omega);refine⟨_,w',aL _ _ _ w' hv rfl (λh=>by simp at h) (λab bR=>?_),?_,⟨rfl,λ_=>rfl⟩⟩
       .simp only[j4]at bR;subst bR;exact aC
       .show Rel N np S0 w0 refs (σ.setB k (.live (.lst e el (over xs i ys) false))) a w' S γ;rw[Cg];exact dn
    .simp at h
   .simp at h
  .simp at h
 .simp at h
theorem YG{P:Program}{E:Env}(hT:cB P E.T)(hR:Rel N np S0 w0 refs σ a w S γ){rd:Nat->BS}(aT:RdOk σ rd){t ty:TypeId}{ti:TyI}(ht:E.T t=some ti)
  {x:Leaf}{u:Ups}{vx:Value}(h:zA rd ti.ty x=some u)(hx:bO S w γ σ.bx x vx) :
  ∃v w',(Builtin.clear_ #[t] ty #[vx]).run P w = .ok v w'/\Rel N np S0 w0 refs (σ.upd u) a w' S γ:=by
 unfold zA at h;split at h
 .rename_i k i Ce;split at h
  .rename_i e el xs hk;split at h
   .rename_i bB;simp only[j4]at h;subst h;have bW:=aT.nm hk;have hk:=aT.live hk;obtain⟨hd,bP,te,cN,cY⟩:=pq hT ht bB;have bZ:=nG hT cN cY;obtain⟨z,hz,gz⟩:=zM hT cN w cY;obtain⟨hi,cp⟩:=PB hR Ce bW hk hx;by_cases hn:xs.length-i=0
    .have Cg:List.take i xs++List.replicate (xs.length-i) el.dflt=xs:=by rw[hn];simp[List.take_of_length_le (show xs.length<=i by omega)]
     refine⟨.tuple #[],w,?_,?_⟩
     .rcases cp with⟨h0,hv⟩|⟨g,cap,hg,cM,hv⟩
      .simp[Builtin.clear_,run_underlying hd,hv]
      .rw[hn]at hv;simp[Builtin.clear_,run_underlying hd,hv]
     .show Rel N np S0 w0 refs (σ.setB k (.live (.lst e el (List.take i xs++List.replicate (xs.length-i) el.dflt) false))) a w S γ;rw[Cg,PD hk];exact hR
    .rcases cp with⟨h0,hv⟩|⟨g,cap,hg,cM,hv⟩
     .omega
     .have mb:cap≠i:=by omega
      rw[if_neg mb]at hv
      have PE:All2 (λx c=>Rep S w el x c) (List.replicate (xs.length-i) el.dflt) (List.replicate (xs.length-i) (iG el)):=by
       have h0:=oQ (S:=S) (w:=w) el
       have:∀n,All2 (λx c=>Rep S w el x c) (List.replicate n el.dflt) (List.replicate n (iG el)):=by
        intro n;induction n with
        |zero=>exact trivial
        |succ n ih=>exact⟨h0,ih⟩
       exact this _
      obtain⟨w',aC,dn⟩:=PC (P:=P) hR hk hg (i:=i) PE (by simp;omega);refine⟨.tuple #[],w',?_,?_⟩
      .have YH:0<z.cells.size:=by have:=H4 gz;omega
       have df:(Builtin.zeroCells z.cells (xs.length-i)).toList=(List.replicate (xs.length-i) (iG el)).flatten:=by rw[<-gz];exact Ps z.cells (xs.length-i) YH
       rw[hv];obtain⟨m,hm⟩:∃m,xs.length-i=m+1:=⟨xs.length-i-1,by omega⟩;rw[hm]at df aC ⊢;simp[Builtin.clear_,run_underlying hd,hz,df,aC]
      .show Rel N np S0 w0 refs (σ.setB k (.live (.lst e el (List.take i xs++List.replicate (xs.length-i) el.dflt) false))) a w' S γ;have:List.drop (i+(List.replicate (xs.length-i) el.dflt).length) xs=[]:=jf (by simp;omega);rw[this,ka]at dn;exact dn
   .simp at h
  .simp at h
 .simp at h
theorem YI(hR:Rel N np S0 w0 refs σ a w S γ){k d e m:Nat}{el:Ty}{xs:List el.den}(hk:σ.bx k = .live (.lst e el xs false))(mS:parK np k=false)(Cd:σ.bx d = .free){ad:Option Addr}{cap:Nat}(hm:m<=xs.length)
  (hg:γ k = .slice ad xs.length cap) :
  ∃γ',Rel N np S0 w0 refs (σ.upd [(k,.gone),(d,.live (.lst e el (List.take m xs) false))]) a w S γ'/\bJ S w γ' (σ.upd [(k,.gone),(d,.live (.lst e el (List.take m xs) false))]).bx (.one (.ol d)) (.slice ad m cap):=by
 have rF:d≠k:=by rintro rfl;rw[Cd]at hk;simp at hk
 have bW:=OW hg (hR.box k _ hk);obtain⟨css,aQ,ar,hS⟩:=ij bW (hR.box k _ hk);have fp:=All2.all_len ar;have bu:=H0 hR hk;have rC:(σ.setB k .gone).bx d = .free:=by rw[cE σ _ rF];exact Cd
 have aq:(List.take m xs).length=m:=by simp;omega
 have hblk:blk (.slice ad m cap)=blk (γ k):=by rw[hg];cases ad<;>rfl
 have cF:w.ownsRow 0 e el.size (.slice ad m cap) (List.take m xs).length (List.take m css).flatten:=by
  refine⟨?_,?_⟩
  .rw[uz _ fp,ql,aQ.1,aq];exact vl (jx _ hm)
  .rcases aQ.2 with⟨az,hn⟩|⟨g,gM,cur,az,_,hh,jL,lz,dG,dV⟩
   .rw[hg]at az;simp only[Value.slice.injEq]at az;obtain⟨rfl,_,rfl⟩:=az;exact .inl ⟨by rw[show m=0 by omega],by omega⟩
   .rw[hg]at az;simp only[Value.slice.injEq,qi]at az;obtain⟨rfl,rfl⟩:=az;refine .inr ⟨g,cap,cur,by rw[aq],kc _,hh,by omega,lz,dG,?_⟩;rw[aq,uz _ fp,<-dV,v6,vl (jx _ hm)]
 have mf:∀g,blk (.slice ad m cap)=some g->w0.heap.size<=g/\(∀k' b,(σ.setB k .gone).bx k' = .live b->blk (γ k')≠some g)/\g<w.heap.size:=by
  intro g hg;rw[hblk]at hg;refine⟨?_,λk' b' aP az=>?_,l9 (hR.box k _ hk) hg⟩
  .rcases hR.own k _ g hk hg with h|h
   .exact h
   .rw[mS]at h;simp at h
  .have ca:k'≠k:=by rintro rfl;rw[gg]at aP;simp at aP
   rw[cE σ _ ca]at aP;exact hR.apart k' k _ _ g ca aP hk az hg
 obtain⟨dn,cU⟩:=E8 bu rC (hm:=bW) (w':=w) (S':=S) (v':= .slice ad m cap) (e:=e) (el:=el) (zs:=List.take m xs) (frz:=false) (css:=List.take m css) (.refl S w) (λg hg ba=>rfl) (jg _) mf
  (λg o hs=> .inl hs) rfl rfl rfl cF (ar.take _) (λg hg=>⟨λ_=>(hS g (by rw[<-hblk];exact hg)).1 rfl,by simp⟩) (λg hg=>hR.kw_live hk (by rw[<-hblk];exact hg))
 exact⟨_,dn,cU⟩
end
section
variable{N:NT}{np:Nat}{S0:aF}{w0:World}{refs:Refs}{σ:St}{a:Go.Act}{w:World}{S:aF}{γ:Nat->Value}
theorem YJ{el:Ty}{z:Value}(hz:z.cells.toList=iG el)(n:Nat)(bP:0<el.size) :
  ∃css,All2 (λx c=>Rep S w el x c) (List.replicate n el.dflt) css/\((Array.range (n*z.cells.size)).map (λi=>z.cells[i%z.cells.size]!)).toList=css.flatten:=by
 refine⟨List.replicate n (iG el),?_,?_⟩
 .have hz:=oQ (S:=S) (w:=w) el;induction n with
  |zero=>exact trivial
  |succ n ih=>exact⟨hz,ih⟩
 .rw[Ps z.cells n (by rw[H4 hz];exact bP),hz]
theorem YK{P:Program}{E:Env}(hT:cB P E.T)(hR:Rel N np S0 w0 refs σ a w S γ){rdf:Nat->BS}(bC:RdF np σ rdf){t:TypeId}{ti:TyI}(ht:E.T t=some ti)
  {el:Ty}(bB:ti.ty=some (.list el)){len d:Nat}{ps:List (Nat×Cel)}{vs:Array (Nat×Value)}{xs:List el.den}{u:Ups}(hlen:len*el.size<=16777216)
  (gG:All2 (λp v=>p.1=v.1/\bJ S w γ σ.bx p.2 v.2) ps vs.toList)(h:iD rdf el (List.replicate len el.dflt) [] ps=some (xs,u))(hd:σ.bx d = .free) :
  ∃v' w' S' γ',(Instr.buildSlice t len vs).run P w = .ok v' w'/\Rel N np S0 w0 refs (σ.upd (u++[(d,.live (.lst ti.elem el xs false))])) a w' S' γ'/\
   bJ S' w' γ' (σ.upd (u++[(d,.live (.lst ti.elem el xs false))])).bx (.one (.ol d)) v':=by
 obtain⟨nH,bP,te,cN,cY⟩:=pq hT ht bB;have bZ:=nG hT cN cY;obtain⟨hf,cL⟩:=H6 bC bP ps vs.toList gG h .nil;obtain⟨S1,bu,cu,dI,dJ⟩:=nI u σ S hR hf;obtain⟨z,hz,gz⟩:=zM hT cN w cY;have mR:z.cells.size=el.size:=H4 gz;obtain⟨Ia,Ci,mP⟩:=YJ (S:=S1) (w:=w) gz len bP;obtain⟨bj,iZ,fN,ar,df⟩:=cL S1 cu dI Ia _ Ci mP
 have mU:xs.length=len:=by
  have key:∀(ps:List (Nat×Cel)){xs cD:List el.den}{u u':Ups},iD rdf el xs u ps=some (cD,u')->cD.length=xs.length:=by
   intro ps;induction ps with
   |nil=>intro xs cD u u' h;simp[iD]at h;rw[h.1]
   |cons p ps ih=>
    intro xs cD u u' h;obtain⟨i,c⟩:=p;simp only[iD]at h;split at h
    .split at h
     .rw[ih h];simp
     .simp at h
    .simp at h
  rw[key ps h];simp
 have dG:bj.size=len*el.size:=by have:=All2.flatten_length (λx c hx=>Rep.length el x c hx) ar;rw[<-df,mU]at this;simpa using this
 have hzero:(if len*ti.size=0 then (Pure.pure #[]:Sem (Array Value)) else (do pure (<-zeroValue ti.elem).cells))=(if len*ti.size=0 then Pure.pure #[] else (do pure (<-zeroValue ti.elem).cells)):=rfl
 have aL:(Instr.buildSlice t len vs).run P w = .ok (.slice (some ⟨w.heap.size,0,none⟩) len len) (w.alloc (.cells bj ti.elem)):=by
  have dM:¬len*te.size>2^24:=by rw[<-bZ];omega
  simp only[Instr.buildSlice,Sem.run_bind,run_underlying nH,Result.andThen_ok,iU hT cN,Sem.run_ite,if_neg dM];by_cases h0:len*te.size=0
  .have sG:len=0:=by
    rw[<-bZ]at h0;rcases Nat.mul_eq_zero.1 h0 with h|h
    .exact h
    .omega
   subst sG
   have pF:Instr.fill (λi=>some (i*te.size,te.size)) ((Array.range (0*te.size)).map (λi=>(#[]:Array Value)[i%(#[]:Array Value).size]!)) vs.toList=some bj:=by
    rw[<-bZ];have:((Array.range (0*el.size)).map (λi=>(#[]:Array Value)[i%(#[]:Array Value).size]!))=((Array.range (0*z.cells.size)).map (λi=>z.cells[i%z.cells.size]!)):=by apply qo;simp
    rw[this];exact fN
   rw[Nat.zero_mul]at pF;simp only[h0,if_true,Sem.run_pure,Result.andThen_ok,pF,Sem.run_bind,newRow,run_newObj,World.alloc_eq]
  .have wS:Instr.fill (λi=>some (i*te.size,te.size)) ((Array.range (len*te.size)).map (λi=>z.cells[i%z.cells.size]!)) vs.toList=some bj:=by rw[<-bZ];rw[mR]at fN ⊢;exact fN
   simp only[h0,z7,Sem.run_bind,hz,Sem.run_pure,Result.andThen_ok,wS,newRow,run_newObj,World.alloc_eq]
 rw[jV];have aC:=zR bu (.cells bj ti.elem)
 obtain⟨dn,cU⟩:=E8 bu (dJ.free hd) (hm:=HH hT ht) (w':=w.alloc (.cells bj ti.elem)) (S':=S1) (v':= .slice (some ⟨w.heap.size,0,none⟩) len len) (e:=ti.elem) (el:=el) (zs:=xs) (frz:=false) (css:=iZ)
  aC (λg hg _=>heap_alloc_old w _ hg) (by simp) (λg hg=>by
   simp[blk]at hg;subst hg;exact⟨hR.grow,λk b hk az=>by have:=l9 (bu.box k b hk) az;omega,by simp⟩) (λg o hs=> .inl hs) rfl rfl rfl
  (by
   rw[mU,<-df];have hle:len<=maxLen:=by have:len*1<=len*el.size:=ve _ bP;simp only[maxLen];omega
   exact World.ownsRow_lit w bj len (kc _) hle dG) (ar.mono (λx c hx=>Rep.keep aC _ _ _ hx)) (λg hg=>by
   simp[blk]at hg;subst hg;exact⟨λ_ o=>E0 bu o,by simp⟩) (λg hg=>by simp[blk]at hg;subst hg;exact bu.kw_new (jg _))
 exact⟨_,_,S1,_,aL,dn,cU⟩
theorem zU{rd:Nat->BS}(aT:RdF np σ rd):∀{ls:List Leaf}{xs:List TV}{u:Ups}{zs:List Value},tvs rd ls=some (xs,u)->All2 (bO S w γ σ.bx) ls zs->
  FrzL np σ.bx u/\∀S' w',cX S w S' w'->Froz σ.bx γ S' w' u->All2 (λx z=>Rep S' w' x.t x.v [z]) xs zs
 |[],xs,u,zs,h,ha=>by
  simp[tvs]at h;obtain⟨rfl,rfl⟩:=h;cases zs with
  |nil=>exact⟨.nil,λ_ _ _ _=>trivial⟩
  |cons _ _=>exact ha.elim
 |l::ls,xs,u,zs,h,ha=>by
  cases zs with
  |nil=>exact ha.elim
  |cons z zs=>
   simp only[tvs]at h;split at h
   .rename_i Fi u1 h1;obtain⟨f1,p1⟩:=zU aT h1 ha.2;split at h
    .rename_i t v;simp only[j4,j8]at h;obtain⟨rfl,rfl⟩:=h;exact⟨f1,λS' w' hk hf=>⟨Rep.keep hk _ _ _ ha.1,p1 S' w' hk hf⟩⟩
    .rename_i k;split at h
     .rename_i e t es f hk;simp only[j4,j8]at h;obtain⟨rfl,rfl⟩:=h;have bg:=aT.ok.live hk;refine⟨λx hx=>?_,λS' w' aC hf=>⟨?_,p1 S' w' aC (λx hx=>hf x (zv _ hx))⟩⟩
      .rcases je.1 hx with rfl|hx
       .exact⟨aT.par hk,e,t,es,f,bg,rfl,aT.ok.nm hk⟩
       .exact f1 x hx
      .have:=hf (k,_) (qu ..) e t es f bg;rw[ha.1.2.2 _ bg];exact this
     .simp at h
    .simp at h
   .simp at h
theorem YL(hR:Rel N np S0 w0 refs σ a w S γ){k:Nat}{ls:List Leaf}{f:Bool}(hk:σ.bx k = .live (.cell ls f))(hp:parK np k=false){xs:List TV}
  (hx:∀g cur e,γ k = .pointer (some ⟨g,0,none⟩)->w.heap[g]? = some (.cells cur e (0,0))->All2 (bO S w γ σ.bx) ls cur.toList->All2 (λx z=>Rep S w x.t x.v [z]) xs cur.toList) :
  ∃S' g,Rel N np S0 w0 refs (σ.setB k (.live (.cell (xs.map TV.leaf) true))) a w S' γ/\cX S w S' w/\γ k = .pointer (some ⟨g,0,none⟩)/\ig S' w (.p xs) (.pointer (some ⟨g,0,none⟩)):=by
 obtain⟨g,cur,e,hg,hh,eF,h1,Pj,PF⟩:=hR.box k _ hk;have fW:=hx g cur e hg hh eF;let S':aF:=λg' o=>S g' o\/(g'=g/\o<cur.size)
 have aC:cX S w S' w:=λg o h=>⟨.inl h,rfl⟩
 have hle:BxLe γ σ.bx γ (σ.setB k (.live (.cell (xs.map TV.leaf) true))).bx:=by
  intro k' bg;by_cases ca:k'=k
  .subst ca;rw[gg];exact⟨by simp,rfl,λb hb=>by simp at hb;subst hb;exact⟨_,hk,trivial⟩⟩
  .rw[cE σ _ ca];exact⟨bg,rfl,λb hb=>⟨b,hb,.refl b⟩⟩
 have bt:∀k' b,(σ.setB k (.live (.cell (xs.map TV.leaf) true))).bx k' = .live b->∃b',σ.bx k' = .live b':=by
  intro k' b hb;by_cases ca:k'=k
  .subst ca;exact⟨_,hk⟩
  .rw[cE σ _ ca]at hb;exact⟨b,hb⟩
 refine⟨S',g,Rel.step (bx':=(σ.setB k (.live (.cell (xs.map TV.leaf) true))).bx) hR aC hle ?_ ?_ ?_ ?_ ?_ hR.below hR.grow hR.os hR.tape hR.output (λg _ _ h=>⟨rfl,λk' b' aP=>by obtain⟨b2,fc⟩:=bt k' b' aP;exact h k' b2 fc⟩),aC,hg,?_⟩
 .intro k' b hb;by_cases ca:k'=k
  .subst ca;rw[gg]at hb;simp at hb;subst hb;exact⟨g,cur,e,hg,hh,rB (fW.mono (λx z hz=>Rep.keep aC _ _ _ hz)),h1,by simp,λ_ o ho=> .inr ⟨rfl,ho⟩⟩
  .rw[cE σ _ ca]at hb;refine ez.keep aC hle rfl (λg' az=>⟨rfl,λo=>⟨λhs=>?_,.inl⟩⟩) (hR.box k' b hb);rcases hs with hs|hs
   .exact hs
   .exact absurd (by rw[hg,hs.1];rfl) (hR.apart k' k b _ g' ca hb hk az)
 .intro k' b g' hb az;obtain⟨b',aP⟩:=bt k' b hb;exact hR.own k' b' g' aP az
 .intro k1 k2 b1 b2 g' ba h1 h2 az;obtain⟨sq,jU⟩:=bt k1 b1 h1;obtain⟨sr,jM⟩:=bt k2 b2 h2;exact hR.apart k1 k2 sq sr g' ba jU jM az
 .intro g' o hs;rcases hs with hs|hs
  .exact hR.new g' o hs
  .rcases hR.own k _ g hk (by rw[hg];rfl) with h|h
   .exact .inr (by omega)
   .rw[hp]at h;simp at h
 .intro g' o hs;rcases hs with hs|hs
  .exact hR.here g' o hs
  .rw[hs.1];exact(jm.1 hh).1
 .refine⟨g,0,cur.toList,rfl,fW.mono (λx z hz=>Rep.keep aC _ _ _ hz),λj v hv=>?_⟩;have hj:j<cur.size:=by simpa using (jw.1 hv).1
  rw[kf];refine⟨.inr ⟨rfl,hj⟩,?_⟩;rw[cell_of_row w g j cur e (0,0) hh];simpa using hv
theorem PG{rd:Nat->BS}(aT:RdF np σ rd):∀{cs:List Cel}{l:List Cap}{u:Ups}{zs:List Value},ud rd cs=some (l,u)->Rel N np S0 w0 refs σ a w S γ->All2 (bJ S w γ σ.bx) cs zs->
  ∃S',Rel N np S0 w0 refs (σ.upd u) a w S' γ/\cX S w S' w/\All2 (ig S' w) l zs/\(∀k e t xs f,σ.bx k = .live (.lst e t xs f)->∃f',(σ.upd u).bx k = .live (.lst e t xs f'))/\BxLe γ σ.bx γ (σ.upd u).bx/\∀k,σ.bx k = .free->(σ.upd u).bx k = .free
 |[],l,u,zs,h,hR,ha=>by
  simp[ud]at h;obtain⟨rfl,rfl⟩:=h;cases zs with
  |nil=>exact⟨S,hR,.refl S w,trivial,λk e t xs f h=>⟨f,h⟩,.refl _ _,λ_ h=>h⟩
  |cons _ _=>exact ha.elim
 |c::r,l,u,zs,h,hR,ha=>by
  cases zs with
  |nil=>exact ha.elim
  |cons z zs=>
   simp only[ud]at h;split at h
   .rename_i l1 u1 h1;obtain⟨S1,bu,cu,gy,mQ,mh,Cj⟩:=PG aT h1 hR ha.2;split at h
    .rename_i t v;split at h
     .rename_i fe;simp only[j4,j8]at h;obtain⟨rfl,rfl⟩:=h;exact⟨S1,bu,cu,⟨⟨fe,Rep.keep cu _ _ _ ha.1.1⟩,gy⟩,mQ,mh,Cj⟩
     .simp at h
    .rename_i k;split at h
     .rename_i ls f hk;split at h
      .rename_i xs u2 h2;split at h
       .simp at h
       .rename_i pG;simp only[j4,j8]at h;obtain⟨rfl,rfl⟩:=h;have mS:=aT.par hk;have hk:=aT.ok.live hk;have pG:(u1++u2).any (λy=>y.1==k)=false:=ze.2 pG;rw[List.any_append,Bool.or_eq_false_iff]at pG;obtain⟨g,cur,e,hg,hh,eF,_⟩:=hR.box k _ hk;obtain⟨wE,uq⟩:=zU aT h2 eF;have Ib:FrzL np (σ.upd u1).bx u2:=by intro x hx;obtain⟨wT,e',t',cD,f',aP,gN⟩:=wE x hx;obtain⟨f2,h2⟩:=mQ _ e' t' cD f' aP;exact⟨wT,e',t',cD,f2,h2,gN⟩
        obtain⟨S2,cO,db,pH,mi⟩:=nI u2 (σ.upd u1) S1 bu Ib;have Ck:Froz σ.bx γ S2 w u2:=by intro x hx e' t' cD f' aP;obtain⟨f2,h2⟩:=mQ _ e' t' cD f' aP;exact pH x hx e' t' cD f2 h2
        have gq:((σ.upd u1).upd u2).bx k = .live (.cell ls f):=by rw[ma u2 _ pG.2,ma u1 _ pG.1,hk]
        obtain⟨S3,g3,gH,Cl,Ic,cM⟩:=YL cO gq mS (xs:=xs) (λg' im e' az BW _=>by
         rw[hg]at az;simp at az;subst az;rw[hh]at BW;simp at BW;obtain⟨rfl,_⟩:=BW;exact uq S2 w (cu.trans db) Ck)
        have hz:z=γ k:=by obtain⟨g4,h4,h5⟩:=ha.1.1.2.2 _ hk;rw[h5,h4]
        rw[jV,jV];refine⟨S3,gH,(cu.trans db).trans Cl,⟨by rw[hz,Ic];exact cM,gy.mono (λx z hx=>ig.keep (db.trans Cl) hx)⟩,λk' e' t' cD f' aP=>?_,?_,λk' bg=>?_⟩
        .obtain⟨f2,h2⟩:=mQ _ e' t' cD f' aP;obtain⟨f3,h3⟩:=mi.lst h2;have ca:k'≠k:=by rintro rfl;rw[gq]at h3;simp at h3
         exact⟨f3,by show (((σ.upd u1).upd u2).setB k _).bx k'=_;rw[cE _ _ ca];exact h3⟩
        .have il:BxLe γ (σ.upd u1).bx γ ((σ.upd u1).upd u2).bx:=mi.le
         have Ie:BxLe γ ((σ.upd u1).upd u2).bx γ ((((σ.upd u1).upd u2)).setB k (.live (.cell (xs.map TV.leaf) true))).bx:=by
          intro k' bg;by_cases ca:k'=k
          .subst ca;rw[gg];exact⟨by simp,rfl,λb hb=>by simp at hb;subst hb;exact⟨_,gq,trivial⟩⟩
          .rw[cE _ _ ca];exact⟨bg,rfl,λb hb=>⟨b,hb,.refl b⟩⟩
         have tr:∀{b1 b2 b3:Nat->BS},BxLe γ b1 γ b2->BxLe γ b2 γ b3->BxLe γ b1 γ b3:=by intro b1 b2 b3 wU YM k' bg;obtain⟨q1,q2,q3⟩:=wU k' bg;obtain⟨r1,r2,r3⟩:=YM k' q1;refine⟨r1,rfl,λb hb=>?_⟩;obtain⟨b',aP,dr⟩:=r3 b hb;obtain⟨Cm,pI,pJ⟩:=q3 b' aP;refine⟨Cm,pI,?_⟩;exact pJ.trans dr
         exact tr (tr mh il) Ie
        .have h3:=mi.free (Cj k' bg);have ca:k'≠k:=by rintro rfl;rw[hk]at bg;simp at bg
         show (((σ.upd u1).upd u2).setB k _).bx k'=_;rw[cE _ _ ca];exact h3
      .simp at h
     .simp at h
    .simp at h
   .simp at h
theorem PH:∀{cs:List Cel}{ks:List Nat}{zs:List Value},BC cs=some ks->All2 (bJ S w γ σ.bx) cs zs->All2 (BP γ σ.bx) ks zs
 |[],ks,zs,h,ha=>by
  simp[BC]at h;subst h;cases zs with
  |nil=>trivial
  |cons _ _=>exact ha.elim
 |c::r,ks,zs,h,ha=>by
  cases zs with
  |nil=>exact ha.elim
  |cons z zs=>
   unfold BC at h;split at h
   .rename_i h0;simp at h0
   .rename_i k r' h0;simp only[List.cons.injEq]at h0;obtain⟨rfl,rfl⟩:=h0;split at h
    .rename_i HD hk;simp only[j4]at h;subst h;obtain⟨⟨h1,h2,h3⟩,_⟩:=ha.1;exact⟨⟨h1,h2,h3⟩,PH hk ha.2⟩
    .simp at h
   .simp at h
theorem PI:∀{ks:List Nat}{zs:List Value},All2 (BP γ σ.bx) ks zs->All2 (bJ S w γ σ.bx) (ks.map λk=> .one (.bp k 0)) zs
 |[],[],_=>trivial
 |k::ks,z::zs,h=>⟨⟨h.1,λ_=>h.1.2.1⟩,PI h.2⟩
 |[],_::_,h=>h.elim
 |_::_,[],h=>h.elim
end
section
variable(S:aF)(w:World)
def Cn(ls:List TV)(u:Value):Prop:=
 ∃g cur e,u = .pointer (some ⟨g,0,none⟩)/\w.heap[g]? = some (.cells cur e (0,0))/\All2 (λx z=>Rep S w x.t x.v [z]) ls cur.toList/\∀o,¬S g o
def wV(e:Nat)(x:TV)(u:Value):Prop:=
 ∃(a:Ty)(xs:List a.den),x=⟨.list a,xs⟩/\po S w e a xs u/\∀g,blk u=some g->∀o,¬S g o
def mV:Arg->Value->Prop
 |.v x,u=>VRep S w x u
 |.ref ls,u=>Cn S w ls u
 |.rl e x,u=>wV S w e x u
 |.ip ls,u=>∃g o cs,u = .pointer (some ⟨g,o,none⟩)/\All2 (λx z=>Rep S w x.t x.v [z]) ls cs/\Lies S w g o cs
 |.clo f caps,u=>∃cv:Array Value,u = .func (.func f) #[] cv/\All2 (ig S w) caps cv.toList
def lH:Arg->Value->Option Nat
 |.ref _,u=>blk u
 |.rl _ _,u=>blk u
 |_,_=>none
def dX:List Arg->List Value->List Nat
 |a::as,u::us=>(lH a u).toList++dX as us
 |_,_=>[]
def Fj:RL->Value->Prop
 |.d x,z=>One z/\Rep S w x.t x.v [z]
 |.own e x,z=>wV S w e x z
def oT:RV->Value->Prop
 |.v x,u=>VRep S w x u
 |.own e x,u=>wV S w e x u
 |.box ls,u=>Cn S w ls u
 |.hd _,u=>One u
 |.clo f caps,u=>∃cv:Array Value,u = .func (.func f) #[] cv/\All2 (ig S w) caps cv.toList
 |.so ls,u=>∃cs:Array Value,u = .agg cs/\All2 (Fj S w) ls cs.toList
 |.vn x ns,u=>VRep S w x u/\∀cs,u = .agg cs->∀i∈ns,∀z,cs.toList[i]? = some z->z = .slice none 0 0
def mW:RV->Value->Option Nat
 |.v _,_=>none
 |.hd _,_=>none
 |.vn _ _,_=>none
 |.clo _ _,_=>none
 |.so _,_=>none
 |_,u=>blk u
def mX:List RL->List Value->List Nat
 |.own _ _::ls,z::zs=>(blk z).toList++mX ls zs
 |.d _::ls,_::zs=>mX ls zs
 |_,_=>[]
def jY:RV->Value->List Nat
 |.so ls,u=>mX ls u.cells.toList
 |r,u=>(mW r u).toList
def fE:List RV->List Value->List Nat
 |r::rs,u::us=>jY r u++fE rs us
 |_,_=>[]
def lI:List Arg->List Value->List Out->Prop
 |[],[],[]=>True
 |.ref _::as,u::us,.ref ys::os=>Cn S w ys u/\lI as us os
 |.rl e x::as,u::us,.rl y::os=>wV S w e y u/\y.t=x.t/\lI as us os
 |.v _::as,_::us,os=>lI as us os
 |.ip _::as,_::us,os=>lI as us os
 |.clo _ _::as,_::us,os=>lI as us os
 |_,_,_=>False
end
def rH(vs:List Value):Value:=match vs with
 |[v]=>v
 |vs=> .tuple vs.toArray
def Fk:List Arg->List Value->Option Value
 |.ref _::_,u::_=>some u
 |.rl _ _::_,u::_=>some u
 |_::as,_::us=>Fk as us
 |_,_=>none
structure Ig(w:World)(S:aF)(args:List Arg)(vals:List Value)(ret:Ret)(v:Value)(w':World)(S':aF)(vs:List Value):Prop where
 val:v=rH vs
 rep:All2 (oT S' w') ret.vals vs
 fresh:∀g∈fE ret.vals vs,w.heap.size<=g
 apart:(fE ret.vals vs).Nodup
 outs:lI S' w' args vals ret.outs
 stays:cX S w S' w'
 new:∀g o,S' g o->S g o\/w.heap.size<=g
 here:∀g o,S' g o->g<w'.heap.size
 below:∀g,g<w.heap.size->g∉dX args vals->w'.heap[g]? = w.heap[g]?
 grow:w.heap.size<=w'.heap.size
 os:w'.os=w.os
 tape:w'.tape=w.tape
 output:w'.output=w.output
 head:∀m,ret.vals=[.hd m]->∃ad len cap,Fk args vals=some (.slice ad len cap)/\m<=len/\vs=[.slice ad m cap]
def Fl(P:Program)(f:Nat)(args:List Arg)(K:Ret->Prop):Prop:=
 ∀(w:World)(S:aF)(vals:List Value),All2 (mV S w) args vals->(dX args vals).Nodup->(∀g o,S g o->g<w.heap.size)->
  Calls P f vals.toArray w λe w'=>∃ret,K ret/\∃v S' vs,e = .returned v/\Ig w S args vals ret v w' S' vs
def Fun(P:Program)(f:Nat):Prop:=
 ∃ fn, P.funcs[f]? = some fn ∧ fn.body.isNone = false ∧ (fn.name == "runtime.NumGoroutine") = false
def FnOK(P:Program)(f:Nat)(c:List Arg->(R:Type)->(Ret->Option R)->Option R):Prop:=
 ∀(args:List Arg)(R:Type)(k:Ret->Option R)(r:R),c args R k=some r->Fun P f/\Fl P f args λret=>k ret=some r
def lJ(P:Program)(C:Nat->List Arg->(R:Type)->(Ret->Option R)->Option R):Prop:=∀f,FnOK P f (C f)
section
variable{N:NT}{np:Nat}{S0:aF}{w0:World}{refs:Refs}{σ:St}{a:Go.Act}{w:World}{S:aF}{γ:Nat->Value}
theorem sM{S':aF}{w':World}:∀(t:Ty)(v:t.den)(cs:List Value),t.flat=true->Rep S w t v cs->Rep S' w' t v cs
 |.int _,_,_,_,h=>h
 |.bool,_,_,_,h=>h
 |.str,_,_,_,h=>h
 |.unit,_,_,_,h=>h
 |.wrap a,v,cs,hf,h=>sM a v cs hf h
 |.pair a b,_,_,hf,⟨c1,c2,e,h1,h2⟩=>by
  simp only[Ty.flat,jb]at hf;exact⟨c1,c2,e,sM a _ _ hf.1 h1,sM b _ _ hf.2 h2⟩
 |.list _,_,_,hf,_=>by simp[Ty.flat]at hf
 |.arr _ a,_,_,hf,⟨hn,css,ha,e⟩=>⟨hn,css,ha.mono (λx c hx=>sM a x c hf hx),e⟩
def gm(bx:Nat->BS)(γ:Nat->Value):List Arg->List Value->List Bk->Prop
 |[],[],[]=>True
 |.ref ls::as,u::us,.ref k::fs=>u=γ k/\(∃fV,bx k = .live (.cell fV false))/\gm bx γ as us fs
 |.rl e x::as,u::us,.rl k e' t::fs=>e=e'/\u=γ k/\(∃xs,bx k = .live (.lst e t xs false)/\x=⟨.list t,xs⟩)/\gm bx γ as us fs
 |.v _::as,_::us,fs=>gm bx γ as us fs
 |.ip _::as,_::us,fs=>gm bx γ as us fs
 |.clo _ _::as,_::us,fs=>gm bx γ as us fs
 |_,_,_=>False
theorem YN{rd rdf:Nat->BS}(hR:Rel N np S0 w0 refs σ a w S γ)(aT:RdR σ rd)(bC:RdF np σ rdf){t:Option TyI}{rl:Bool}{c:Cel}{arg:Arg}{u:Ups}{f:Option Bk}{z:Value}
  (h:zB rd rdf t rl c=some (arg,u,f))(hc:bJ S w γ σ.bx c z) :
  FrzL np σ.bx u/\gm σ.bx γ [arg] [z] f.toList/\∀S',cX S w S' w->Froz σ.bx γ S' w u->(∀k b,f.toList.any (λy=>y.name==k)=true->σ.bx k = .live b->∀g,blk (γ k)=some g->∀o,¬S' g o)->mV S' w arg z:=by
 unfold zB at h;split at h
 .rename_i k;split at h
  .rename_i ls hk;split at h
   .rename_i xs u1 h1;simp only[j4,j8]at h;obtain⟨rfl,rfl,rfl⟩:=h;have hk:=aT.live hk;obtain⟨g,hg,hz⟩:=hc.1.2.2 _ hk;obtain⟨g',cur,e,az,hh,eF,_,_,hS⟩:=hR.box k _ hk;rw[hg]at az;simp at az;subst az;obtain⟨hf,hp⟩:=zU bC h1 eF;refine⟨hf,trivial,λS' aC dI _=>⟨g,0,cur.toList,hz,hp S' w aC dI,λj v hv=>?_⟩⟩;have hj:j<cur.size:=by simpa using (jw.1 hv).1
    rw[kf];refine⟨(aC _ _ (hS rfl j hj)).1,?_⟩;rw[cell_of_row w g j cur e (0,0) hh];simpa using hv
   .simp at h
  .rename_i ls hk;split at h
   .rename_i xs u1 h1;simp only[j4,j8]at h;obtain⟨rfl,rfl,rfl⟩:=h;have hk:=aT.live hk;obtain⟨g,hg,hz⟩:=hc.1.2.2 _ hk;obtain⟨g',cur,e,az,hh,eF,_⟩:=hR.box k _ hk;rw[hg]at az;simp at az;subst az;obtain⟨hf,hp⟩:=zU bC h1 eF;refine⟨hf,⟨hz.trans hg.symm,⟨ls,hk⟩,trivial⟩,λS' aC dI hn=>⟨g,cur,e,hz,hh,hp S' w aC dI,?_⟩⟩;exact hn k _ (by simp[Bk.name]) hk g (by rw[hg];rfl)
   .simp at h
  .simp at h
 .simp only[j4,j8]at h;obtain⟨rfl,rfl,rfl⟩:=h;refine⟨.nil,trivial,λS' aC _ _=>?_⟩;obtain⟨g,o,cs,hz,ha,hl⟩:=hc.1;exact⟨g,o,cs,hz,ha.mono (λx z hx=>Rep.keep aC _ _ _ hx),hl.keep aC⟩
 .simp only[j4,j8]at h;obtain⟨rfl,rfl,rfl⟩:=h;refine⟨.nil,trivial,λS' aC _ _=>?_⟩;obtain⟨cv,hz,ha⟩:=hc.1;exact⟨cv,hz,ha.mono (λx z hx=>ig.keep aC hx)⟩
 .rename_i k;split at h
  .split at h
   .rename_i e t xs hk;simp only[j4,j8]at h;obtain⟨rfl,rfl,rfl⟩:=h;have hk:=aT.live hk;have hz:=hc.1.2.2 _ hk;refine⟨.nil,⟨rfl,hz,⟨xs,hk,rfl⟩,trivial⟩,λS' aC _ hn=>?_⟩;have ff:=(hR.box k _ hk).1;exact⟨t,xs,rfl,by rw[hz];exact ff.keep aC (λ_ _=>rfl),λg hg=>hn k _ (by simp[Bk.name]) hk g (by rw[<-hz];exact hg)⟩
   .simp at h
  .split at h
   .rename_i e t xs fz hk;simp only[j4,j8]at h;obtain⟨rfl,rfl,rfl⟩:=h;have mS:=bC.par hk;have bW:=bC.ok.nm hk;have hk:=bC.ok.live hk;have hz:=hc.1.2.2 _ hk;refine⟨λx hx=>?_,trivial,λS' aC dI _=>?_⟩
    .have:=ke.1 hx;subst this;exact⟨mS,e,t,xs,fz,hk,rfl,bW⟩
    .have h1:One z:=hc.2 (by simp);have:=dI (k,_) (ke.2 rfl) e t xs fz hk;rw[<-hz]at this;exact⟨by rw[zQ h1];exact this,by simp[gL,Ty.agg],λ_=>h1⟩
   .simp at h
 .split at h
  .split at h
   .rename_i ty bB;split at h
    .rename_i x u1 hx;simp only[j4,j8]at h;obtain⟨rfl,rfl,rfl⟩:=h;obtain⟨hf,hp,_⟩:=B3 bC hx hc;exact⟨hf,trivial,λS' aC dI _=>hp S' w aC dI⟩
    .simp at h
   .simp at h
  .simp at h
theorem gm.app{bx:Nat->BS}{arg:Arg}{z:Value}{f:List Bk}:gm bx γ [arg] [z] f->∀{as:List Arg}{us:List Value}{fs:List Bk},gm bx γ as us fs->gm bx γ (arg::as) (z::us) (f++fs):=by
 intro h as us fs h';cases arg with
 |v x=>cases f with|nil=>exact h'|cons _ _=>exact h.elim
 |ip x=>cases f with|nil=>exact h'|cons _ _=>exact h.elim
 |clo x y=>cases f with|nil=>exact h'|cons _ _=>exact h.elim
 |ref ls=>
  match f,h with
  |[.ref k],⟨h1,h2,_⟩=>exact⟨h1,h2,h'⟩
  |.ref k::_::_,⟨_,_,h3⟩=>exact h3.elim
 |rl e x=>
  match f,h with
  |[.rl k e' t],⟨h0,h1,h2,_⟩=>exact⟨h0,h1,h2,h'⟩
  |.rl k e' t::_::_,⟨_,_,_,h3⟩=>exact h3.elim
theorem PJ{rd rdf:Nat->BS}(hR:Rel N np S0 w0 refs σ a w S γ)(aT:RdR σ rd)(bC:RdF np σ rdf){T:Nat->Option TyI}:∀{cs:List Cel}{ts:List Nat}{ms:List Bool}{as:List Arg}{u:Ups}{fs:List Bk}{zs:List Value},
  ru rd rdf T ts ms cs=some (as,u,fs)->All2 (bJ S w γ σ.bx) cs zs->
  FrzL np σ.bx u/\gm σ.bx γ as zs fs/\∀S',cX S w S' w->Froz σ.bx γ S' w u->(∀k b,fs.any (λy=>y.name==k)=true->σ.bx k = .live b->∀g,blk (γ k)=some g->∀o,¬S' g o)->All2 (mV S' w) as zs
 |[],ts,ms,as,u,fs,zs,h,ha=>by
  simp[ru]at h;obtain⟨rfl,rfl,rfl⟩:=h;cases zs with
  |nil=>exact⟨.nil,trivial,λ_ _ _ _=>trivial⟩
  |cons _ _=>exact ha.elim
 |c::cs,ts,ms,as,u,fs,zs,h,ha=>by
  cases zs with
  |nil=>exact ha.elim
  |cons z zs=>
   simp only[ru]at h;split at h
   .rename_i a1 u1 f1 h1;split at h
    .rename_i HE fF YO h2;simp only[j4,j8]at h;obtain⟨rfl,rfl,rfl⟩:=h;obtain⟨p1,q1,r1⟩:=YN hR aT bC h1 ha.1;obtain⟨p2,q2,r2⟩:=PJ hR aT bC h2 ha.2;refine⟨FrzL.app.2 ⟨p1,p2⟩,q1.app q2,λS' aC dI hn=>?_⟩;obtain⟨z1,z2⟩:=Froz.app.1 dI;exact⟨r1 S' aC z1 (λk b hk=>hn k b (by rw[List.any_append,hk];rfl)),r2 S' aC z2 (λk b hk=>hn k b (by rw[List.any_append,hk];simp))⟩
    .simp at h
   .simp at h
theorem PK:∀{cs:List Cap}{zs:List Value},All2 (ig S w) cs zs->All2 (mV S w) (cs.map rv) zs
 |[],[],_=>trivial
 |c::cs,z::zs,h=>by
  refine⟨?_,PK h.2⟩;cases c with
  |v x=>obtain⟨hl,hr⟩:=h.1;have h1:One z:=Rep.one _ _ _ hr z (by simp);refine⟨by rw[zQ h1];exact hr,λhm=>?_,λ_=>h1⟩;exfalso;obtain⟨t,v⟩:=x;cases t<;>simp_all[Ty.leafy,gL,Ty.agg]
  |p ls=>exact h.1
 |[],_::_,h=>h.elim
 |_::_,[],h=>h.elim
theorem PL:∀(cs:List Cap)(zs:List Value),dX (cs.map rv) zs=[]
 |[],_=>by cases ‹List Value› <;> rfl
 |c::cs,[]=>rfl
 |c::cs,z::zs=>by cases c<;>simp[dX,lH,rv,PL cs zs]
theorem PM:∀(as:List Arg)(us:List Value)(bs:List Arg)(vs:List Value),as.length=us.length->dX (as++bs) (us++vs)=dX as us++dX bs vs
 |[],[],bs,vs,_=>rfl
 |a::as,u::us,bs,vs,h=>by simp[dX,PM as us bs vs (by simpa using h)]
 |[],_::_,_,_,h=>by simp at h
 |_::_,[],_,_,h=>by simp at h
theorem wW{bx:Nat->BS}:∀{as:List Arg}{us:List Value}{fs:List Bk},gm bx γ as us fs->dX as us=fs.filterMap λf=>blk (γ f.name)
 |[],[],[],_=>rfl
 |.ref ls::as,u::us,.ref k::fs,⟨h1,_,h3⟩=>by
  simp only[dX,lH,vf,Bk.name,h1,wW h3];cases blk (γ k)<;>rfl
 |.rl e x::as,u::us,.rl k e' t::fs,⟨_,h1,_,h3⟩=>by
  simp only[dX,lH,vf,Bk.name,h1,wW h3];cases blk (γ k)<;>rfl
 |.v _::as,_::us,fs,h=>by simp[dX,lH,wW (as:=as) (us:=us) (fs:=fs) h]
 |.ip _::as,_::us,fs,h=>by simp[dX,lH,wW (as:=as) (us:=us) (fs:=fs) h]
 |.clo _ _::as,_::us,fs,h=>by simp[dX,lH,wW (as:=as) (us:=us) (fs:=fs) h]
theorem wX{bx:Nat->BS}:∀{as:List Arg}{us:List Value}{fs:List Bk},gm bx γ as us fs->∀f∈fs,∃b,bx f.name = .live b
 |[],[],[],_,f,hf=>by simp at hf
 |.ref ls::as,u::us,.ref k::fs,⟨_,⟨fV,h2⟩,h3⟩,f,hf=>by
  rcases je.1 hf with rfl|hf
  .exact⟨_,h2⟩
  .exact wX h3 f hf
 |.rl e x::as,u::us,.rl k e' t::fs,⟨_,_,⟨xs,h2,_⟩,h3⟩,f,hf=>by
  rcases je.1 hf with rfl|hf
  .exact⟨_,h2⟩
  .exact wX h3 f hf
 |.v _::as,_::us,fs,h,f,hf=>wX (as:=as) (us:=us) (fs:=fs) h f hf
 |.ip _::as,_::us,fs,h,f,hf=>wX (as:=as) (us:=us) (fs:=fs) h f hf
 |.clo _ _::as,_::us,fs,h,f,hf=>wX (as:=as) (us:=us) (fs:=fs) h f hf
theorem Fm:∀{l:List Nat},oH l=true->l.Nodup
 |[],_=>zi
 |x::l,h=>by
  simp only[oH,jb,qb,qc,kp]at h;exact qp.2 ⟨h.1,Fm h.2⟩
theorem Ih(hR:Rel N np S0 w0 refs σ a w S γ):∀{l:List Nat},l.Nodup->(∀k∈l,∃b,σ.bx k = .live b)->(l.filterMap λk=>blk (γ k)).Nodup
 |[],_,_=>by simp
 |k::l,h,hl=>by
  obtain⟨h1,h2⟩:=qp.1 h;have ih:=Ih hR h2 (λk hk=>hl k (by simp[hk]));rw[vf];cases hb:blk (γ k) with
  |none=>exact ih
  |some g=>refine qp.2 ⟨λhm=>?_,ih⟩;obtain⟨k',bg,az⟩:=zm.1 hm;obtain⟨b,da⟩:=hl k (by simp);obtain⟨b',fc⟩:=hl k' (by simp[bg]);exact hR.apart k k' b b' g (by rintro rfl;exact h1 bg) da fc hb az
end
section
variable{N:NT}{np:Nat}{S0:aF}{w0:World}{refs:Refs}{σ:St}{a:Go.Act}{w:World}{S:aF}{γ:Nat->Value}
theorem Ii:∀(u:Ups)(σ:St){k:Nat}{b:BS},(u.map (·.1)).Nodup->(k,b)∈u->(σ.upd u).bx k=b
 |[],_,_,_,_,h=>by simp at h
 |e::u,σ,k,b,hn,h=>by
  simp only[kr,qp]at hn;show ((σ.setB e.1 e.2).upd u).bx k=_;rcases je.1 h with h|h
  .subst h;rw[ma u,gg];simp only[qj,z6];intro x hx he;exact hn.1 (ju.2 ⟨x,hx,he⟩)
  .exact Ii u _ hn.2 h
theorem YP{e:Nat}{m n n':Nat}{v:Value}{w':World}{xs ys:List Value}(h:w.ownsRow 0 e m v n xs)(h':w'.ownsRow 0 e m v n' ys):n=n':=by
 rcases h.2 with⟨e1,e2⟩|⟨g,cap,cur,e1,_⟩<;>rcases h'.2 with⟨f1,f2⟩|⟨g',gM,im,f1,_⟩
 .rw[e2,f2]
 .rw[e1]at f1;simp at f1
 .rw[e1]at f1;simp at f1
 .rw[e1]at f1;simp at f1;exact f1.2.1
theorem Ij{bx:Nat->BS}{S':aF}{w':World}{ys:List TV}{k:Nat}{v:Value}(hg:γ k=v)(h:Cn S' w' ys v):ez S' w' γ bx k (.cell (ys.map TV.leaf) false):=by
 obtain⟨g,cur,e,hu,hh,ar,hS⟩:=h;exact⟨g,cur,e,hg.trans hu,hh,rB ar,λu fo=>by obtain⟨x,_,hx⟩:=ar.mem_right u fo;exact Rep.one _ _ _ hx u (by simp),λ_=>hS,by simp⟩
theorem Co{bx:Nat->BS}{S':aF}{w':World}{e:Nat}{t:Ty}{ys:List t.den}{k:Nat}{v:Value}(hg:γ k=v)(h:wV S' w' e ⟨.list t,ys⟩ v):ez S' w' γ bx k (.lst e t ys false):=by
 obtain⟨t',xs,hx,cF,hS⟩:=h;cases hx;exact⟨by rw[hg];exact cF,λg az=>⟨λ_=>hS g (by rw[<-hg];exact az),by simp⟩⟩
theorem uD{S':aF}{w':World}(hR:Rel N np S0 w0 refs σ a w S γ):∀{as:List Arg}{zs:List Value}{fs:List Bk}{os:List Out}{uo:Ups},gm σ.bx γ as zs fs->sa fs os=some uo->lI S' w' as zs os->
  uo.map (·.1)=fs.map Bk.name/\∀x∈uo,∃b b',σ.bx x.1 = .live b/\x.2 = .live b'/\iF b b'/\∀bx',ez S' w' γ bx' x.1 b'
 |[],[],[],[],uo,_,h,_=>by simp[sa]at h;subst h;simp
 |.ref ls::as,u::us,.ref k::fs,.ref ys::os,uo,⟨h1,⟨fV,h2⟩,h3⟩,h,⟨q1,q2⟩=>by
  simp only[sa,ER]at h;split at h
  .rename_i u' fo;simp only[j4]at h;subst h;obtain⟨i1,i2⟩:=uD hR h3 fo q2;refine⟨by simp[i1,Bk.name],λx hx=>?_⟩;rcases je.1 hx with rfl|hx
   .exact⟨_,_,h2,rfl,trivial,λbx'=>Ij h1.symm q1⟩
   .exact i2 x hx
  .simp at h
 |.rl e x::as,u::us,.rl k e' t::fs,.rl y::os,uo,⟨h0,h1,⟨xs,h2,jM⟩,h3⟩,h,⟨q1,q1',q2⟩=>by
  simp only[sa,ER]at h;split at h
  .rename_i y' sv;split at sv
   .rename_i ys gl;simp only[j4]at sv;subst sv;split at h
    .rename_i u' fo;simp only[j4]at h;subst h;obtain⟨i1,i2⟩:=uD hR h3 fo q2;refine⟨by simp[i1,Bk.name],λx hx=>?_⟩;rcases je.1 hx with rfl|hx
     .have:=lZ gl;subst this;subst h0;refine⟨_,_,h2,rfl,⟨rfl,rfl,λhm=>?_⟩,λbx'=>Co h1.symm q1⟩;obtain⟨css,aQ,_⟩:=ij hm (hR.box k _ h2);obtain⟨iZ,cF,_⟩:=ij (bx:=σ.bx) hm (Co h1.symm q1);exact YP aQ cF
     .exact i2 x hx
    .simp at h
   .simp at sv
  .simp at h
 |.v _::as,_::us,fs,os,uo,h,h',q=>uD (as:=as) (zs:=us) (fs:=fs) hR h h' q
 |.ip _::as,_::us,fs,os,uo,h,h',q=>uD (as:=as) (zs:=us) (fs:=fs) hR h h' q
 |.clo _ _::as,_::us,fs,os,uo,h,h',q=>uD (as:=as) (zs:=us) (fs:=fs) hR h h' q
theorem PN(hR:Rel N np S0 w0 refs σ a w S γ){S':aF}{w':World}(aC:cX S w S' w')(dH:∀g o,S' g o->S g o\/w.heap.size<=g)(fq:∀g o,S' g o->g<w'.heap.size)
  {as:List Arg}{zs:List Value}{fs:List Bk}{os:List Out}{uo:Ups}(dm:gm σ.bx γ as zs fs)(dy:(fs.map Bk.name).Nodup)(ho:sa fs os=some uo)(hq:lI S' w' as zs os)
  (fG:∀g,g<w.heap.size->g∉dX as zs->w'.heap[g]? = w.heap[g]?)(eM:w.heap.size<=w'.heap.size)(oU:w'.os=w.os)(mY:w'.tape=w.tape)(dg:w'.output=w.output) :
  Rel N np S0 w0 refs (σ.upd uo) a w' S' γ:=by
 obtain⟨jZ,wY⟩:=uD hR dm ho hq;have sy:(uo.map (·.1)).Nodup:=by rw[jZ];exact dy
 have eu:σ.upd uo={ σ with bx:=(σ.upd uo).bx }:=by have:=zO uo σ;cases h:σ.upd uo;rw[h]at this;simp only at this;rw[this]
 have cp:∀k,(uo.any (λy=>y.1==k)=false/\(σ.upd uo).bx k=σ.bx k)\/(∃b b',σ.bx k = .live b/\(σ.upd uo).bx k = .live b'/\iF b b'/\∀bx',ez S' w' γ bx' k b'):=by
  intro k;by_cases hk:uo.any (λy=>y.1==k)=true
  .right;obtain⟨x,hx,he⟩:=zj.1 hk;have he:x.1=k:=by simpa using he
   subst he;obtain⟨b,b',h1,h2,h3,h4⟩:=wY x hx;exact⟨b,b',h1,by rw[Ii uo σ sy (b:=x.2) hx,h2],h3,h4⟩
  .left;have bg:uo.any (λy=>y.1==k)=false:=ze.2 hk;exact⟨bg,ma uo σ bg⟩
 have gr:∀k b,(σ.upd uo).bx k = .live b->∃b',σ.bx k = .live b':=by
  intro k b hb;rcases cp k with⟨_,h⟩|⟨b1,b2,h1,_⟩
  .exact⟨b,h▸hb⟩
  .exact⟨b1,h1⟩
 have hle:BxLe γ σ.bx γ (σ.upd uo).bx:=by
  intro k hk;rcases cp k with⟨_,h⟩|⟨b1,b2,h1,h2,h3,_⟩
  .rw[h];exact⟨hk,rfl,λb hb=>⟨b,hb,.refl b⟩⟩
  .rw[h2];exact⟨by simp,rfl,λb hb=>by simp at hb;subst hb;exact⟨b1,h1,h3⟩⟩
 have hrefs:∀g,g∈dX as zs->∃f∈fs,blk (γ f.name)=some g/\∃b,σ.bx f.name = .live b:=by intro g hg;rw[wW dm]at hg;obtain⟨f,hf,wZ⟩:=zm.1 hg;exact⟨f,hf,wZ,wX dm f hf⟩
 rw[eu]
 refine Rel.step hR aC hle ?_ ?_ ?_ ?_ fq ?_ (qg hR.grow eM) (oU.trans hR.os) (mY.trans hR.tape) (dg.trans hR.output) (λg hg _ h=>⟨fG g hg (λhm=>by
  obtain⟨f,hf,wZ,b',aP⟩:=hrefs g hm;exact h f.name b' aP wZ),λk b hb=>by
  obtain⟨b',aP⟩:=gr k b hb;exact h k b' aP⟩)
 .intro k b hb;rcases cp k with⟨hk,h⟩|⟨b1,b2,h1,h2,h3,h4⟩
  .rw[h]at hb;refine ez.keep aC hle rfl (λg hg=>?_) (hR.box k b hb);have wJ:=l9 (hR.box k b hb) hg;refine⟨fG g wJ (λhm=>?_),λo=>⟨λhs=>(dH g o hs).resolve_right (by omega),λhs=>(aC g o hs).1⟩⟩;obtain⟨f,hf,wZ,b',aP⟩:=hrefs g hm
   have ba:k≠f.name:=by
    rintro rfl
    have:f.name∈uo.map (·.1):=by rw[jZ];exact List.mem_map_of_mem hf
    obtain⟨x,hx,he⟩:=ju.1 this;have:=(qj.1 hk) x hx;simp[he]at this
   exact hR.apart k f.name b b' g ba hb aP hg wZ
  .rw[h2]at hb;simp at hb;subst hb;exact h4 _
 .intro k b g hb hg;obtain⟨b',aP⟩:=gr k b hb;exact hR.own k b' g aP hg
 .intro k k' b1 b2 g ba h1 h2 hg;obtain⟨sq,jU⟩:=gr k b1 h1;obtain⟨sr,jM⟩:=gr k' b2 h2;exact hR.apart k k' sq sr g ba jU jM hg
 .intro g o hs;rcases dH g o hs with h|h
  .exact hR.new g o h
  .exact .inr (qg hR.grow h)
 .intro g hg hr;rw[fG g (qk hg hR.grow) (λhm=>?_)]
  .exact hR.below g hg hr
  .obtain⟨f,hf,wZ,b',aP⟩:=hrefs g hm;rcases hR.own f.name b' g aP wZ with h|h
   .omega
   .exact hr h.1
theorem PO(hR:Rel N np S0 w0 refs σ a w S γ){d:Nat}(hd:σ.bx d = .free){v':Value}{b:Bx}
  (hv:∀g,blk v'=some g->(w0.heap.size<=g/\refs.kw g=none)/\∀k b,σ.bx k = .live b->blk (γ k)≠some g)(hb:ez S w (gset γ d v') (σ.setB d (.live b)).bx d b) :
  Rel N np S0 w0 refs (σ.setB d (.live b)) a w S (gset γ d v')/\BxLe γ σ.bx (gset γ d v') (σ.setB d (.live b)).bx:=by
 have hle:BxLe γ σ.bx (gset γ d v') (σ.setB d (.live b)).bx:=by
  intro k hk;have ba:k≠d:=by rintro rfl;exact hk hd
  rw[cE σ _ ba,gh γ v' ba];exact⟨hk,rfl,λb hb=>⟨b,hb,.refl b⟩⟩
 refine⟨Rel.step (bx':=(σ.setB d (.live b)).bx) hR (.refl S w) hle ?_ ?_ ?_ hR.new hR.here hR.below hR.grow hR.os hR.tape hR.output (λg _ zS h=>⟨rfl,λk b' aP dm=>by
  by_cases hk:k=d
  .subst hk;rw[fy]at dm;exact zS (hv g dm).1.2
  .rw[cE σ _ hk]at aP;rw[gh γ v' hk]at dm;exact h k b' aP dm⟩),hle⟩
 .intro k b' aP;by_cases hk:k=d
  .subst hk;rw[gg]at aP;simp at aP;subst aP;exact hb
  .rw[cE σ _ hk]at aP;exact ez.keep (.refl S w) hle (gh γ v' hk) (λg hg=>⟨rfl,λ_=>Iff.rfl⟩) (hR.box k b' aP)
 .intro k b' g aP hg;by_cases hk:k=d
  .subst hk;rw[fy]at hg;exact .inl (hv g hg).1.1
  .rw[cE σ _ hk]at aP;rw[gh γ v' hk]at hg;exact hR.own k b' g aP hg
 .intro k k' b1 b2 g ba h1 h2 hg az;by_cases hk:k=d
  .subst hk;have bg:k'≠k:=λh=>ba h.symm;rw[fy]at hg;rw[cE σ _ bg]at h2;rw[gh γ v' bg]at az;exact(hv g hg).2 k' b2 h2 az
  .by_cases bg:k'=d
   .subst bg;rw[fy]at az;rw[cE σ _ hk]at h1;rw[gh γ v' hk]at hg;exact(hv g az).2 k b1 h1 hg
   .rw[cE σ _ hk]at h1;rw[cE σ _ bg]at h2;rw[gh γ v' hk]at hg;rw[gh γ v' bg]at az;exact hR.apart k k' b1 b2 g ba h1 h2 hg az
theorem zV{bx:Nat->BS}{x:TV}{u:Value}(h:VRep S w x u):bJ S w γ bx (oE x.t x.v) u:=by
 obtain⟨t,v⟩:=x;obtain⟨h1,h2,h3⟩:=h;refine HO t v _ u h1 (λhm=>?_) (λha hn=>?_)
 .have:gL t=true:=by
   rcases hm with hm|⟨n,b,rfl⟩
   .cases t<;>simp_all[gL,Ty.agg]
   .rfl
  obtain⟨cs,rfl⟩:=h2 this;simp[Value.cells]
 .have:gL t=false:=by cases t<;>simp_all[gL,Ty.agg]
  exact zQ (h3 this)
theorem Fo:∀{ls:List RL}{n:Nat}{l:List Leaf}{u:Ups},soL n ls=some (l,u)->∀x∈u,n<=x.1/\x.1<n+ls.length
 |[],n,l,u,h=>by simp[soL]at h;obtain⟨rfl,rfl⟩:=h;simp
 |.d x::r,n,l,u,h=>by
  simp only[soL]at h;split at h
  .rename_i l' u' h';simp only[j4,j8]at h;obtain⟨rfl,rfl⟩:=h;intro y hy;have:=Fo h' y hy;simp only[jk];omega
  .simp at h
 |.own e ⟨.list a,xs⟩::r,n,l,u,h=>by
  simp only[soL]at h;split at h
  .rename_i l' u' h';simp only[j4,j8]at h;obtain⟨rfl,rfl⟩:=h;intro y hy;rcases je.1 hy with rfl|hy
   .simp only[jk];omega
   .have:=Fo h' y hy;simp only[jk];omega
  .simp at h
 |.own e ⟨.int _,xs⟩::r,n,l,u,h=>by simp[soL]at h
 |.own e ⟨.bool,xs⟩::r,n,l,u,h=>by simp[soL]at h
 |.own e ⟨.str,xs⟩::r,n,l,u,h=>by simp[soL]at h
 |.own e ⟨.unit,xs⟩::r,n,l,u,h=>by simp[soL]at h
 |.own e ⟨.wrap _,xs⟩::r,n,l,u,h=>by simp[soL]at h
 |.own e ⟨.pair _ _,xs⟩::r,n,l,u,h=>by simp[soL]at h
 |.own e ⟨.arr _ _,xs⟩::r,n,l,u,h=>by simp[soL]at h
theorem PQ{n:Nat}{r:RV}{c:Cel}{u:Ups}(h:ES n r=some (c,u)):∀x∈u,n<=x.1/\x.1<n+rvW r:=by
 unfold ES at h;split at h
 .simp only[j4,j8]at h;obtain⟨rfl,rfl⟩:=h;simp
 .simp only[j4,j8]at h;obtain⟨rfl,rfl⟩:=h;simp[rvW]
 .simp at h
 .simp only[j4,j8]at h;obtain⟨rfl,rfl⟩:=h;simp[rvW]
 .simp at h
 .split at h<;>(simp only[j4,j8]at h;obtain⟨rfl,rfl⟩:=h;simp)
 .simp only[j4,j8]at h;obtain⟨rfl,rfl⟩:=h;simp
 .split at h
  .rename_i l u' h';simp only[j4,j8]at h;obtain⟨rfl,rfl⟩:=h;exact Fo h'
  .simp at h
theorem PR:∀{n:Nat}{rs:List RV}{cs:List Cel}{u:Ups},ue n rs=some (cs,u)->∀x∈u,n<=x.1
 |n,[],cs,u,h=>by simp[ue]at h;obtain⟨rfl,rfl⟩:=h;simp
 |n,r::rs,cs,u,h=>by
  simp only[ue]at h;split at h
  .rename_i c u1 h1;split at h
   .rename_i Ik u2 h2;simp only[j4,j8]at h;obtain⟨rfl,rfl⟩:=h;intro x hx;rcases jn.1 hx with hx|hx
    .exact(PQ h1 x hx).1
    .have:=PR h2 x hx;omega
   .simp at h
  .simp at h
theorem PS{bx:Nat->BS}{ns:List Nat}:∀(k:Nat){ls:List Leaf}{cs:List Value},All2 (bO S w γ bx) ls cs->(∀i∈ns,∀z,k<=i->cs[i-k]? = some z->z = .slice none 0 0)->
  All2 (bO S w γ bx) ((ls.zipIdx k).map λy=>if ns.contains y.2 then .nil else y.1) cs
 |_,[],[],_,_=>trivial
 |k,l::ls,c::cs,h,hn=>by
  refine⟨?_,PS (k+1) h.2 λi hi z hk hz=>hn i hi z (by omega) ?_⟩
  .by_cases hc:ns.contains k=true
   .simp only[hc,if_true];exact hn k (by simpa using hc) c (jg _) (by simp)
   .simp only[hc];exact h.1
  .rw[show i-k=(i-(k+1))+1 by omega];simpa using hz
 |_,[],_::_,h,_=>h.elim
 |_,_::_,[],h,_=>h.elim
theorem Il:∀{ls:List RL}{zs:List Value}{n:Nat}{l:List Leaf}{u:Ups}{σ:St}{γ:Nat->Value},Rel N np S0 w0 refs σ a w S γ->soL n ls=some (l,u)->All2 (Fj S w) ls zs->
  (∀x∈u,σ.bx x.1 = .free)->(mX ls zs).Nodup->(∀g∈mX ls zs,(w0.heap.size<=g/\refs.kw g=none)/\∀k b,σ.bx k = .live b->blk (γ k)≠some g)->
  ∃γ',Rel N np S0 w0 refs (σ.upd u) a w S γ'/\BxLe γ σ.bx γ' (σ.upd u).bx/\All2 (bO S w γ' (σ.upd u).bx) l zs/\(∀z∈zs,One z)/\
   ∀k b g,(σ.upd u).bx k = .live b->blk (γ' k)=some g->(∃b',σ.bx k = .live b'/\blk (γ k)=some g)\/g∈mX ls zs
 |[],[],n,l,u,σ,γ,hR,h,_,_,_,_=>by
  simp[soL]at h;obtain⟨rfl,rfl⟩:=h;exact⟨γ,hR,.refl _ _,trivial,by simp,λk b g h1 h2=> .inl ⟨b,h1,h2⟩⟩
 |.d x::ls,z::zs,n,l,u,σ,γ,hR,h,ha,aY,dy,hblk=>by
  simp only[soL]at h;split at h
  .rename_i l' u' h';simp only[j4,j8]at h;obtain⟨rfl,rfl⟩:=h;obtain⟨γ',q1,q2,q3,q4,q5⟩:=Il hR h' ha.2 aY dy hblk;exact⟨γ',q1,q2,⟨ha.1.2,q3⟩,λy hy=>(je.1 hy).elim (λe=>e▸ha.1.1) (q4 y),q5⟩
  .simp at h
 |.own e ⟨.list t,xs⟩::ls,z::zs,n,l,u,σ,γ,hR,h,ha,aY,dy,hblk=>by
  simp only[soL]at h;split at h
  .rename_i l' u' h';simp only[j4,j8]at h;obtain⟨rfl,rfl⟩:=h;have aQ:wV S w e ⟨.list t,xs⟩ z:=ha.1;have cQ:One z:=by obtain⟨t',ys,_,cF,_⟩:=aQ;exact cF.one
   have pK:σ.bx n = .free:=aY _ (qu ..);simp only[mX]at dy hblk;obtain⟨bu,hle⟩:=PO hR pK (v':=z) (b:= .lst e t xs false) (λg hg=>hblk g (by simp[hg])) (Co (fy _ _ _) aQ);have iI:=Fo h'
   obtain⟨γ',q1,q2,q3,q4,q5⟩:=Il bu h' ha.2 (λx hx=>by
    have:=iI x hx;rw[cE σ _ (by omega)];exact aY x (by simp[hx])) (qn.1 dy).2.1 (λg hg=>by
    obtain⟨p1,p2⟩:=hblk g (by simp[hg]);refine⟨p1,λk b' aP he=>?_⟩;by_cases hk:k=n
    .subst hk;rw[fy]at he;exact(qn.1 dy).2.2 g (by simp[he]) g hg rfl
    .rw[cE σ _ hk]at aP;rw[gh γ z hk]at he;exact p2 k b' aP he)
   refine⟨γ',q1,λk hk=>?_,⟨bO.keep (.refl S w) q2 ⟨by rw[gg];simp,cQ,λb _=>(fy γ n z).symm⟩,q3⟩,λy hy=>(je.1 hy).elim (λe=>e▸cQ) (q4 y),λk b g h1 h2=>?_⟩
   .obtain⟨a1,a2,a3⟩:=hle k hk;obtain⟨b1,b2,b3⟩:=q2 k a1;refine⟨b1,b2.trans a2,λb hb=>?_⟩;obtain⟨b',aP,dr⟩:=b3 b hb;obtain⟨Cm,pI,pJ⟩:=a3 b' aP;exact⟨Cm,pI,pJ.trans dr⟩
   .rcases q5 k b g h1 h2 with⟨b',aP,he⟩|h3
    .by_cases hk:k=n
     .subst hk;rw[fy]at he;exact .inr (by simp[mX,he])
     .rw[cE σ _ hk]at aP;rw[gh γ z hk]at he;exact .inl ⟨b',aP,he⟩
    .exact .inr (by simp[mX,h3])
  .simp at h
 |.own e ⟨.int _,xs⟩::r,_,n,l,u,_,_,_,h,_,_,_,_=>by simp[soL]at h
 |.own e ⟨.bool,xs⟩::r,_,n,l,u,_,_,_,h,_,_,_,_=>by simp[soL]at h
 |.own e ⟨.str,xs⟩::r,_,n,l,u,_,_,_,h,_,_,_,_=>by simp[soL]at h
 |.own e ⟨.unit,xs⟩::r,_,n,l,u,_,_,_,h,_,_,_,_=>by simp[soL]at h
 |.own e ⟨.wrap _,xs⟩::r,_,n,l,u,_,_,_,h,_,_,_,_=>by simp[soL]at h
 |.own e ⟨.pair _ _,xs⟩::r,_,n,l,u,_,_,_,h,_,_,_,_=>by simp[soL]at h
 |.own e ⟨.arr _ _,xs⟩::r,_,n,l,u,_,_,_,h,_,_,_,_=>by simp[soL]at h
 |[],_::_,_,_,_,_,_,_,_,ha,_,_,_=>ha.elim
 |.d _::_,[],_,_,_,_,_,_,_,ha,_,_,_=>ha.elim
 |.own _ ⟨.list _,_⟩::_,[],_,_,_,_,_,_,_,ha,_,_,_=>ha.elim
theorem PT:∀{rs:List RV}{vs:List Value}{n:Nat}{cs:List Cel}{un:Ups}{σ:St}{γ:Nat->Value},Rel N np S0 w0 refs σ a w S γ->ue n rs=some (cs,un)->All2 (oT S w) rs vs->
  (∀x∈un,σ.bx x.1 = .free)->(fE rs vs).Nodup->(∀g∈fE rs vs,(w0.heap.size<=g/\refs.kw g=none)/\∀k b,σ.bx k = .live b->blk (γ k)≠some g)->
  ∃γ',Rel N np S0 w0 refs (σ.upd un) a w S γ'/\BxLe γ σ.bx γ' (σ.upd un).bx/\All2 (bJ S w γ' (σ.upd un).bx) cs vs
 |[],[],n,cs,un,σ,γ,hR,h,_,_,_,_=>by
  simp[ue]at h;obtain⟨rfl,rfl⟩:=h;exact⟨γ,hR,.refl _ _,trivial⟩
 |r::rs,u::us,n,cs,un,σ,γ,hR,h,ha,aY,dy,hblk=>by
  simp only[ue]at h;split at h
  .rename_i c u1 h1;split at h
   .rename_i Ik u2 h2;simp only[j4,j8]at h;obtain⟨rfl,rfl⟩:=h
    have Cp:∀(σ1:St)(γ1:Nat->Value),Rel N np S0 w0 refs σ1 a w S γ1->σ1=σ.upd u1->BxLe γ σ.bx γ1 σ1.bx->bJ S w γ1 σ1.bx c u->(∀x∈u2,σ1.bx x.1 = .free)->
      (fE rs us).Nodup->(∀g∈fE rs us,(w0.heap.size<=g/\refs.kw g=none)/\∀k b,σ1.bx k = .live b->blk (γ1 k)≠some g)->
      ∃γ',Rel N np S0 w0 refs (σ.upd (u1++u2)) a w S γ'/\BxLe γ σ.bx γ' (σ.upd (u1++u2)).bx/\All2 (bJ S w γ' (σ.upd (u1++u2)).bx) (c::Ik) (u::us):=by
     intro σ1 γ1 bu he hle hc hf hn hb;obtain⟨γ',q1,q2,q3⟩:=PT (σ:=σ1) (γ:=γ1) bu h2 ha.2 hf hn hb;subst he;rw[jV];refine⟨γ',q1,?_,bJ.keep (.refl S w) q2 hc,q3⟩;intro k hk;obtain⟨a1,a2,a3⟩:=hle k hk;obtain⟨b1,b2,b3⟩:=q2 k a1;refine⟨b1,b2.trans a2,λb hb=>?_⟩;obtain⟨b',aP,dr⟩:=b3 b hb;obtain⟨Cm,pI,pJ⟩:=a3 b' aP;refine⟨Cm,pI,?_⟩;exact pJ.trans dr
    have iI:=PQ h1;have mj:=PR h2
    have dH:∀(v':Value)(b:Bx),jY r u=(blk v').toList->rvW r=1->u1=[(n,.live b)]->(∀bx',ez S w (gset γ n v') bx' n b)->(∀bx',(bx' n = .live b)->bJ S w (gset γ n v') bx' c u)->
      ∃γ',Rel N np S0 w0 refs (σ.upd (u1++u2)) a w S γ'/\BxLe γ σ.bx γ' (σ.upd (u1++u2)).bx/\All2 (bJ S w γ' (σ.upd (u1++u2)).bx) (c::Ik) (u::us):=by
     intro v' b gC PU YQ cZ w6;subst YQ;rw[PU]at mj;have pK:σ.bx n = .free:=aY (n,.live b) (by simp);simp only[fE,gC]at dy hblk;obtain⟨bu,hle⟩:=PO hR pK (v':=v') (b:=b) (λg hg=>hblk g (by simp[hg])) (cZ _);refine Cp _ _ bu rfl hle (w6 _ (gg _ _ _)) (λx hx=>?_) ?_ (λg hg=>?_)
     .have:=mj x hx;rw[cE σ _ (by omega)];exact aY x (by simp[hx])
     .exact(qn.1 dy).2.1
     .obtain⟨p1,p2⟩:=hblk g (by simp[hg]);refine⟨p1,λk b' aP he=>?_⟩;by_cases hk:k=n
      .subst hk;rw[fy]at he;have:=(qn.1 dy).2.2 g (by simp[he]) g hg;exact this rfl
      .rw[cE σ _ hk]at aP;rw[gh γ v' hk]at he;exact p2 k b' aP he
    unfold ES at h1;split at h1
    .rename_i x;simp only[j4,j8]at h1;obtain⟨rfl,rfl⟩:=h1;refine Cp σ γ hR rfl (.refl _ _) (zV ha.1) (λx hx=>aY x (by simp[hx])) ?_ ?_
     .simpa[fE,mW,jY]using dy
     .simpa[fE,mW,jY]using hblk
    .rename_i e el xs;simp only[j4,j8]at h1;obtain⟨rfl,rfl⟩:=h1;have aQ:wV S w e ⟨.list el,xs⟩ u:=ha.1;have cQ:One u:=by obtain⟨t',ys,_,cF,_⟩:=aQ;exact cF.one
     exact dH u _ rfl rfl rfl (λbx'=>Co (fy _ _ _) aQ) (λbx' hb=>⟨⟨by rw[hb];simp,cQ,λb _=>(fy γ n u).symm⟩,λ_=>cQ⟩)
    .simp at h1
    .rename_i ls;simp only[j4,j8]at h1;obtain⟨rfl,rfl⟩:=h1;have Cq:Cn S w ls u:=ha.1;obtain⟨g,cur,e,hu,_⟩:=id Cq;have cQ:One u:=by rw[hu];rfl
     exact dH u _ rfl rfl rfl (λbx'=>Ij (fy _ _ _) Cq) (λbx' hb=>⟨⟨by rw[hb];simp,cQ,λb _=>⟨g,by rw[fy,hu],hu⟩⟩,λ_=>cQ⟩)
    .simp at h1
    .rename_i x ns;have hv:VRep S w x u/\∀cs,u = .agg cs->∀i∈ns,∀z,cs.toList[i]? = some z->z = .slice none 0 0:=ha.1;have pL:bJ S w γ σ.bx (oE x.t x.v) u:=zV hv.1
     have hc:bJ S w γ σ.bx c u/\u1=[]:=by
      split at h1
      .rename_i ls he;simp only[j4,j8]at h1;obtain⟨rfl,rfl⟩:=h1;rw[he]at pL;obtain⟨cs,hu,ar,cQ⟩:=pL;exact⟨⟨cs,hu,PS 0 ar λi hi z _ hz=>hv.2 cs hu i hi z (by simpa using hz),cQ⟩,rfl⟩
      .simp only[j4,j8]at h1;obtain⟨rfl,rfl⟩:=h1;exact⟨pL,rfl⟩
     obtain⟨hc,rfl⟩:=hc;refine Cp σ γ hR rfl (.refl _ _) hc (λx hx=>aY x (by simp[hx])) ?_ ?_
     .simpa[fE,mW,jY]using dy
     .simpa[fE,mW,jY]using hblk
    .rename_i f caps;simp only[j4,j8]at h1;obtain⟨rfl,rfl⟩:=h1;obtain⟨cv,hu,ar⟩:∃cv:Array Value,u = .func (.func f) #[] cv/\All2 (ig S w) caps cv.toList:=ha.1;refine Cp σ γ hR rfl (.refl _ _) ⟨⟨cv,hu,ar⟩,λ_=>by rw[hu];rfl⟩ (λx hx=>aY x (by simp[hx])) ?_ ?_
     .simpa[fE,mW,jY]using dy
     .simpa[fE,mW,jY]using hblk
    .rename_i ls;split at h1
     .rename_i l fF hl;simp only[j4,j8]at h1;obtain⟨rfl,rfl⟩:=h1;obtain⟨sN,hu,ar⟩:∃cs:Array Value,u = .agg cs/\All2 (Fj S w) ls cs.toList:=ha.1;subst hu;have uE:jY (.so ls) (.agg sN)=mX ls sN.toList:=rfl;simp only[fE,uE]at dy hblk;obtain⟨γ1,q1,q2,q3,q4,q5⟩:=Il hR hl ar (λx hx=>aY x (by simp[hx])) (qn.1 dy).1 (λg hg=>hblk g (by simp[hg]));refine Cp _ γ1 q1 rfl q2 ⟨sN,rfl,q3,q4⟩ (λx hx=>?_) (qn.1 dy).2.1 (λg hg=>?_)
      .have h2:=mj x hx;rw[ma fF σ]
       .exact aY x (by simp[hx])
       .rw[qj];intro y hy he;simp only[z6]at he;have:=iI y hy;omega
      .obtain⟨p1,p2⟩:=hblk g (by simp[hg]);refine⟨p1,λk b' aP he=>?_⟩;rcases q5 k b' g aP he with⟨b2,fc,YR⟩|h3
       .exact p2 k b2 fc YR
       .exact(qn.1 dy).2.2 g h3 g hg rfl
     .simp at h1
   .simp at h
  .simp at h
 |[],_::_,_,_,_,_,_,_,_,ha,_,_,_=>ha.elim
 |_::_,[],_,_,_,_,_,_,_,ha,_,_,_=>ha.elim
end
section
variable{N:NT}{np:Nat}{S0:aF}{w0:World}{refs:Refs}{σ:St}{a:Go.Act}{w:World}{S:aF}{γ:Nat->Value}
theorem Im{S':aF}{w':World}:∀(cs:List Cap)(cv:List Value)(os:List Out),lI S' w' (cs.map rv) cv os->os=[]
 |[],[],[],_=>rfl
 |[],[],_::_,h=>h.elim
 |[],_::_,_,h=>h.elim
 |c::cs,[],_,h=>by cases c<;>exact h.elim
 |.v _::cs,_::cv,os,h=>Im cs cv os h
 |.p _::cs,_::cv,os,h=>Im cs cv os h
theorem zW{S':aF}{w':World}{cs:List Cap}{cv:List Value}:∀{as:List Arg}{zs:List Value}{os:List Out},as.length=zs.length->
  lI S' w' (as++cs.map rv) (zs++cv) os->lI S' w' as zs os
 |[],[],os,_,h=>by
  have:=Im cs cv os h;subst this;trivial
 |.ref ls::as,u::us,.ref ys::os,hl,⟨h1,h2⟩=>⟨h1,zW (by simpa using hl) h2⟩
 |.rl e x::as,u::us,.rl y::os,hl,⟨h1,h2,h3⟩=>⟨h1,h2,zW (by simpa using hl) h3⟩
 |.v _::as,_::us,os,hl,h=>zW (as:=as) (zs:=us) (by simpa using hl) h
 |.ip _::as,_::us,os,hl,h=>zW (as:=as) (zs:=us) (by simpa using hl) h
 |.clo _ _::as,_::us,os,hl,h=>zW (as:=as) (zs:=us) (by simpa using hl) h
 |[],_::_,_,hl,_=>by simp at hl
 |_::_,[],_,hl,_=>by simp at hl
 |.ref _::_,_::_,[],_,h=>h.elim
 |.ref _::_,_::_,.rl _::_,_,h=>h.elim
 |.rl _ _::_,_::_,[],_,h=>h.elim
 |.rl _ _::_,_::_,.ref _::_,_,h=>h.elim
theorem gm.congr{bx bx':Nat->BS}:∀{as:List Arg}{us:List Value}{fs:List Bk},(∀f∈fs,bx' f.name=bx f.name)->gm bx γ as us fs->gm bx' γ as us fs
 |[],[],[],_,_=>trivial
 |.ref ls::as,u::us,.ref k::fs,hc,⟨h1,⟨fV,h2⟩,h3⟩=>
  ⟨h1,⟨fV,(hc (.ref k) (by simp)).trans h2⟩,gm.congr (λf hf=>hc f (by simp[hf])) h3⟩
 |.rl e x::as,u::us,.rl k e' t::fs,hc,⟨h0,h1,⟨xs,h2,hx⟩,h3⟩=>
  ⟨h0,h1,⟨xs,(hc (.rl k e' t) (by simp)).trans h2,hx⟩,gm.congr (λf hf=>hc f (by simp[hf])) h3⟩
 |.v _::as,_::us,fs,hc,h=>gm.congr (as:=as) (us:=us) hc h
 |.ip _::as,_::us,fs,hc,h=>gm.congr (as:=as) (us:=us) hc h
 |.clo _ _::as,_::us,fs,hc,h=>gm.congr (as:=as) (us:=us) hc h
theorem Cr{S1 S':aF}{w':World}(gn:∀g o,S g o->S' g o):∀{as:List Arg}{zs:List Value}{os:List Out},os.all Out.flat=true->lI S' w' as zs os->lI S w' as zs os
 |[],[],[],_,_=>trivial
 |.ref ls::as,u::us,.ref ys::os,hf,⟨⟨g,cur,e,h1,h2,h3,h4⟩,h5⟩=>by
  simp only[List.all_cons,jb,Out.flat]at hf;refine⟨⟨g,cur,e,h1,h2,?_,λo hs=>h4 o (gn g o hs)⟩,Cr (S1:=S1) gn hf.2 h5⟩;have hl:=hf.1;clear h1 h2 hf h4 h5;generalize cur.toList=l at h3;induction ys generalizing l with
  |nil=>cases l with|nil=>trivial|cons _ _=>exact h3.elim
  |cons y ys ih=>
   cases l with
   |nil=>exact h3.elim
   |cons z l=>simp only[List.all_cons,jb]at hl;exact⟨sM _ _ _ hl.1 h3.1,ih hl.2 l h3.2⟩
 |.rl e x::as,u::us,.rl y::os,hf,⟨⟨t,xs,h1,_⟩,_,_⟩=>by
  simp only[List.all_cons,jb,Out.flat,h1,Ty.flat]at hf;exact absurd hf.1 (by simp)
 |.v _::as,_::us,os,hf,h=>Cr (S1:=S1) (as:=as) (zs:=us) gn hf h
 |.ip _::as,_::us,os,hf,h=>Cr (S1:=S1) (as:=as) (zs:=us) gn hf h
 |.clo _ _::as,_::us,os,hf,h=>Cr (S1:=S1) (as:=as) (zs:=us) gn hf h
theorem YS{S S':aF}{w:World}{e:Nat}{a:Ty}{xs:List a.den}{u:Value}(hf:a.flat=true)(h:po S' w e a xs u):po S w e a xs u:=by
 rcases h with⟨hm,css,h1,h2⟩|⟨hm,h1⟩
 .exact .inl ⟨hm,css,h1,h2.mono λx c hx=>sM _ _ _ hf hx⟩
 .refine .inr ⟨hm,?_⟩;revert hf h1;cases a with
  |pair k b=>intro hf h1;simp only[Ty.flat,jb]at hf;obtain⟨g,es,clock,hu,hh,ha⟩:=h1;exact⟨g,es,clock,hu,hh,ha.mono λx e hx=>⟨sM _ _ _ hf.1 hx.1,sM _ _ _ hf.2 hx.2.1,hx.2.2⟩⟩
  |_=>intro _ h1;exact h1.elim
theorem PV{S':aF}{w':World}(gn:∀g o,S g o->S' g o):∀{rs:List RV}{vs:List Value},rs.all RV.flat=true->All2 (oT S' w') rs vs->All2 (oT S w') rs vs
 |[],[],_,_=>trivial
 |r::rs,v::vs,hf,h=>by
  simp only[List.all_cons,jb]at hf;have i1:=PV gn hf.2 h.2;cases r with
  |v x=>obtain⟨h1,h2,h3⟩:=h.1;exact⟨⟨sM _ _ _ hf.1 h1,h2,h3⟩,i1⟩
  |own e x=>obtain⟨a,xs,rfl,h1,h2⟩:=h.1;exact⟨⟨a,xs,rfl,YS hf.1 h1,λg hg o hs=>h2 g hg o (gn g o hs)⟩,i1⟩
  |so ls=>simp[RV.flat]at hf
  |box ls=>simp[RV.flat]at hf
  |hd n=>simp[RV.flat]at hf
  |vn x ns=>simp[RV.flat]at hf
  |clo f cs=>simp[RV.flat]at hf
 |[],_::_,_,h=>h.elim
 |_::_,[],_,h=>h.elim
theorem YT{rd:Nat->BS}(aT:RdOk σ rd){un:Ups}(h:un.all (λe=>jT (rd e.1))=true):∀x∈un,σ.bx x.1 = .free:=
 λx hx=>aT.free (jz.1 h x hx)
def PW:List Cel->Slot
 |[c]=> .one c
 |cs=> .tup cs
theorem YU{γ':Nat->Value}{bx:Nat->BS}{S':aF}{w':World}{YV:Nat->Value}{cs:List Cel}{vs:List Value}(h:All2 (bJ S' w' γ' bx) cs vs) :
  gF S' w' γ' bx YV (PW cs) (rH vs):=by
 match cs,vs,h with
 |[c],[v],h=>exact h.1
 |[],[],h=>exact⟨#[],rfl,trivial⟩
 |c::c'::cs,v::v'::vs,h=>exact⟨(v::v'::vs).toArray,rfl,by simpa using h⟩
 |[c],v::v'::vs,h=>exact h.2.elim
 |c::c'::cs,[v],h=>exact h.2.elim
 |[],v::vs,h=>exact h.elim
 |c::cs,[],h=>exact h.elim
theorem Fp{bx:Nat->BS}{k e:Nat}{t:Ty}:∀{as:List Arg}{us:List Value}{fs:List Bk},gm bx γ as us (.rl k e t::fs)->∀(bs:List Arg)(vs:List Value),Fk (as++bs) (us++vs)=some (γ k)
 |.rl e x::as,u::us,fs,⟨_,h1,_,_⟩,bs,vs=>by rw[<-h1];rfl
 |.v _::as,_::us,fs,h,bs,vs=>Fp (as:=as) (us:=us) (fs:=fs) h bs vs
 |.ip _::as,_::us,fs,h,bs,vs=>Fp (as:=as) (us:=us) (fs:=fs) h bs vs
 |.clo _ _::as,_::us,fs,h,bs,vs=>Fp (as:=as) (us:=us) (fs:=fs) h bs vs
 |[],[],fs,h,_,_=>h.elim
 |.ref _::as,_::us,fs,h,_,_=>h.elim
 |[],_::_,fs,h,_,_=>h.elim
 |_::_,[],fs,h,_,_=>by cases ‹Arg› <;> exact h.elim
theorem PX{P:Program}(hR:Rel N np S0 w0 refs σ a w S γ){rw rd rdf:Nat->BS}(ml:RdR σ rw)(aT:RdOk σ rd)(bC:RdF np σ rdf){T:Nat->Option TyI}{ts:List Nat}{ms:List Bool}{cs:List Cel}{as:List Arg}{us:Ups}{fs:List Bk}{zs:List Value}
  (h:ru rw rdf T ts ms cs=some (as,us,fs))(ha:All2 (bJ S w γ σ.bx) cs zs)(bH:bkOk us fs=true)
  {caps:List Cap}{cv:List Value}(rI:All2 (ig S w) caps cv){g:Nat}{K:Ret->Prop}
  (eN:Fl P g (as++caps.map rv) K)(n:Nat) :
  Calls P g (zs++cv).toArray w λe w'=>∃ret,K ret/\∀s u,sb rd rdf n us fs ret=some (s,u)->∃v S' γ',e = .returned v/\Rel N np S0 w0 refs (σ.upd u) a w' S' γ'/\gF S' w' γ' (σ.upd u).bx (tm a) s v:=by
 obtain⟨fa,dm,pz⟩:=PJ hR ml bC h ha;simp only[bkOk,jb]at bH;obtain⟨dy,w7⟩:=bH;have dy:=Fm dy
 have hlen:as.length=zs.length:=by
  have:∀{as:List Arg}{us:List Value}{fs:List Bk},gm σ.bx γ as us fs->as.length=us.length:=by
   intro as;induction as with
   |nil=>intro us fs hh;cases us with|nil=>rfl|cons _ _=>exact hh.elim
   |cons a as ih=>
    intro us fs hh;cases us with
    |nil=>cases a<;>exact hh.elim
    |cons u us=>
     cases a with
     |v x=>have:=ih (us:=us) (fs:=fs) hh;simp[this]
     |ip x=>have:=ih (us:=us) (fs:=fs) hh;simp[this]
     |clo x y=>have:=ih (us:=us) (fs:=fs) hh;simp[this]
     |ref ls=>match fs,hh with|.ref k::fs,⟨_,_,h3⟩=>have:=ih h3;simp[this]
     |rl e x=>match fs,hh with|.rl k e' t::fs,⟨_,_,_,h3⟩=>have:=ih h3;simp[this]
  exact this dm
 obtain⟨S1,bu,cu,gP,dJ⟩:=nI us σ S hR fa;have Cs:∀k,k∈fs.map Bk.name->us.any (λy=>y.1==k)=false:=by intro k hk;rw[qj];intro x hx he;have:=jz.1 w7 x hx;simp only[z6]at he;subst he;simp only[qb,qc,kp]at this;exact this hk
 have pM:∀f∈fs,(σ.upd us).bx f.name=σ.bx f.name:=λf hf=>ma us σ (Cs _ (List.mem_map_of_mem hf));have w8:=dm.congr pM
 have nM:∀k b,fs.any (λy=>y.name==k)=true->σ.bx k = .live b->∀g,blk (γ k)=some g->∀o,¬S1 g o:=by
  intro k b hk hb g hg o;obtain⟨f,hf,he⟩:=zj.1 hk;have he:f.name=k:=by simpa using he
  subst he;have da:(σ.upd us).bx f.name = .live b:=(pM f hf).trans hb;have cZ:=bu.box f.name b da
  have kA:(∃fV,b = .cell fV false)\/(∃e t xs,b = .lst e t xs false):=by
   have:∀{as:List Arg}{us:List Value}{fs:List Bk},gm σ.bx γ as us fs->f∈fs->(∃fV,σ.bx f.name = .live (.cell fV false))\/(∃e t xs,σ.bx f.name = .live (.lst e t xs false)):=by
    intro as;induction as with
    |nil=>intro us fs hh hm;match us,fs,hh with|[],[],_=>simp at hm
    |cons a as ih=>
     intro us fs hh hm;cases us with
     |nil=>cases a<;>exact hh.elim
     |cons u us=>
      cases a with
      |v x=>exact ih (us:=us) (fs:=fs) hh hm
      |ip x=>exact ih (us:=us) (fs:=fs) hh hm
      |clo x y=>exact ih (us:=us) (fs:=fs) hh hm
      |ref ls=>
       match fs,hh with
       |.ref k::fs,⟨_,⟨fV,h2⟩,h3⟩=>
        rcases je.1 hm with rfl|hm
        .exact .inl ⟨fV,h2⟩
        .exact ih h3 hm
      |rl e x=>
       match fs,hh with
       |.rl k e' t::fs,⟨_,_,⟨xs,h2,_⟩,h3⟩=>
        rcases je.1 hm with rfl|hm
        .exact .inr ⟨_,t,xs,h2⟩
        .exact ih h3 hm
   rcases this dm hf with⟨fV,h2⟩|⟨e,t,xs,h2⟩
   .rw[hb]at h2;simp at h2;exact .inl ⟨fV,h2⟩
   .rw[hb]at h2;simp at h2;exact .inr ⟨e,t,xs,h2⟩
  rcases kA with⟨fV,rfl⟩|⟨e,t,xs,rfl⟩
  .obtain⟨g',cur,e,az,_,_,_,hS,_⟩:=cZ;rw[az]at hg;simp[blk]at hg;subst hg;exact hS rfl o
  .exact(cZ.2 g hg).1 rfl o
 have dh:All2 (mV S1 w) as zs:=pz S1 cu gP nM;have Ct:All2 (mV S1 w) (caps.map rv) cv:=PK (rI.mono (λx z hx=>ig.keep cu hx));have hrefs:dX (as++caps.map rv) (zs++cv)=dX as zs:=by rw[PM _ _ _ _ hlen,PL,ka]
 have sO:(dX as zs).Nodup:=by rw[wW dm];have:=Ih hR dy (λk hk=>by obtain⟨f,hf,rfl⟩:=ju.1 hk;exact wX dm f hf);rwa[List.filterMap_map]at this
 refine(eN w S1 (zs++cv) (dh.append Ct) (by rw[hrefs];exact sO) bu.here).mono ?_
 rintro e w' ⟨ret,hK,v,S',vs,rfl,cq⟩
 refine⟨ret,hK,λs u bG=>?_⟩;obtain⟨dW,bq,w9,mm,eO,jA,dH,fq,fG,eM,oU,mY,dg,pN⟩:=cq;rw[hrefs]at fG;have eO:=zW hlen eO;refine⟨v,?_⟩;unfold sb at bG;split at bG
 ·-- the list Io first,cut short
  rename_i m YW;unfold mkHd at bG;generalize gD:ret.outs=ro at bG eO;split at bG
  .rename_i k e el YO y lK _;split at bG
   .rename_i uo ys rJ gl;split at bG
    .rename_i dL;simp only[jb]at dL;simp only[j4,j8]at bG;obtain⟨rfl,rfl⟩:=bG;have cO:=PN bu jA dH fq w8 dy rJ eO fG eM oU mY dg;obtain⟨jZ,mZ⟩:=uD bu w8 rJ eO;have sy:(uo.map (·.1)).Nodup:=by rw[jZ];exact dy
     have Ip:(k,BS.live (.lst e el ys false))∈uo:=by
      simp only[sa,ER,gl]at rJ;split at rJ
      .simp only[j4]at rJ;rw[<-rJ];exact qu
      .simp at rJ
     have gq:=Ii uo (σ.upd us) sy Ip;obtain⟨bl,uE⟩:=BX dL.2;have mS:=bC.par uE;have h0:=aT.free dL.1;have h1:(σ.upd us).bx n = .free:=dJ.free h0;have mn:((σ.upd us).upd uo).bx n = .free:=by rw[ma uo,h1];rw[qj];intro y hy he;simp only[z6]at he;obtain⟨b0,_,h2,_⟩:=mZ y hy;rw[he,h1]at h2;simp at h2
     obtain⟨ad,len,cap,iX,Fq,me⟩:=pN m YW;have zX:γ k = .slice ad len cap:=by have:=Fp dm (caps.map rv) cv;rw[iX]at this;simpa using this.symm
     have Cu:len=ys.length:=by
      obtain⟨css,aQ,_⟩:=OV zX (cO.box k _ gq);rcases aQ.2 with⟨az,hn⟩|⟨g,gM,cur,az,_⟩
      .rw[zX]at az;simp only[Value.slice.injEq]at az;omega
      .rw[zX]at az;simp only[Value.slice.injEq]at az;omega
     obtain⟨γ',dn,cU⟩:=YI cO gq mS mn (m:=m) (by omega) (by rw[zX,Cu]);refine⟨S',γ',rfl,by rw[jV,jV];exact dn,?_⟩;rw[dW,me,jV,jV];exact cU
    .simp at bG
   .simp at bG
  .simp at bG
 split at bG
 .rename_i uo rJ;split at bG
  .rename_i sN un jP;split at bG
   .rename_i aY;have aY:=YT aT aY
    have dt:∀(jQ:Ups)(Sx Sy:aF),(jQ=us\/jQ=[])->Rel N np S0 w0 refs (σ.upd jQ) a w Sx γ->cX Sx w Sy w'->(∀g o,Sy g o->Sx g o\/w.heap.size<=g)->(∀g o,Sy g o->g<w'.heap.size)->
      lI Sy w' as zs ret.outs->All2 (oT Sy w') ret.vals vs->
      ∃S' γ',Rel N np S0 w0 refs (σ.upd (jQ++uo++un)) a w' S' γ'/\All2 (bJ S' w' γ' (σ.upd (jQ++uo++un)).bx) sN vs:=by
     intro jQ Sx Sy sP zY xa Cv xb uF Cw
     have Cx:gm (σ.upd jQ).bx γ as zs fs:=by
      rcases sP with rfl|rfl
      .exact w8
      .exact dm
     have cO:=PN zY xa Cv xb Cx dy rJ uF fG eM oU mY dg;obtain⟨jZ,mZ⟩:=uD zY Cx rJ uF
     have xc:∀k b,((σ.upd jQ).upd uo).bx k = .live b->∃b',(σ.upd jQ).bx k = .live b':=by
      intro k b hb;by_cases hk:uo.any (λy=>y.1==k)=true
      .obtain⟨x,hx,he⟩:=zj.1 hk;have he:x.1=k:=by simpa using he
       subst he;obtain⟨b0,_,h0,_⟩:=mZ x hx;exact⟨b0,h0⟩
      .rw[ma uo _ (ze.2 hk)]at hb;exact⟨b,hb⟩
     have mn:∀x∈un,((σ.upd jQ).upd uo).bx x.1 = .free:=by
      intro x hx;have h0:=aY x hx
      have h1:(σ.upd jQ).bx x.1 = .free:=by
       rcases sP with rfl|rfl
       .exact dJ.free h0
       .exact h0
      rw[ma uo,h1];rw[qj];intro y hy he;simp only[z6]at he;obtain⟨b0,_,h2,_⟩:=mZ y hy;rw[he,h1]at h2;simp at h2
     obtain⟨γ',gH,_,w6⟩:=PT cO jP Cw mn mm (λg hg=>by
      have nK:=w9 g hg;refine⟨⟨qg hR.grow nK,hR.kw_new nK⟩,λk b hb he=>?_⟩;obtain⟨b',aP⟩:=xc k b hb;have:=l9 (zY.box k b' aP) he;omega)
     refine⟨Sy,γ',?_,?_⟩
     .rw[jV,jV];exact gH
     .rw[jV,jV];exact w6
    have cp:∃jQ,(jQ=us\/jQ=[])/\jQ=(if ret.vals.all RV.flat&&ret.outs.all Out.flat then [] else us)/\
      ∃S' γ',Rel N np S0 w0 refs (σ.upd (jQ++uo++un)) a w' S' γ'/\All2 (bJ S' w' γ' (σ.upd (jQ++uo++un)).bx) sN vs:=by
     by_cases kB:(ret.vals.all RV.flat&&ret.outs.all Out.flat)=true
     .refine⟨[],.inr rfl,by rw[if_pos kB],?_⟩;obtain⟨su,wE⟩:=Bool.and_eq_true_iff.1 kB;have gn:∀g o,S g o->S' g o:=λg o hs=>(jA g o (cu g o hs).1).1
      refine dt [] S S (.inr rfl) hR (λg o hs=>⟨hs,(jA g o (cu g o hs).1).2⟩) (λg o hs=> .inl hs) (λg o hs=>qk (hR.here g o hs) eM)
       (Cr (S1:=S1) gn wE eO) (PV gn su bq)
     .exact⟨us,.inl rfl,by rw[if_neg kB],dt us S1 S' (.inl rfl) bu jA dH fq eO bq⟩
    obtain⟨jQ,_,sP,S2,γ2,cO,uG⟩:=cp
    have hs:s=PW sN/\u=(if ret.vals.all RV.flat&&ret.outs.all Out.flat then [] else us)++uo++un:=by
     clear uG dt cO jP;revert bG;match sN with
     |[c]=>simp only[j4,j8];rintro⟨rfl,rfl⟩;exact⟨rfl,rfl⟩
     |[]=>simp only[j4,j8];rintro⟨rfl,rfl⟩;exact⟨rfl,rfl⟩
     |c::c'::r=>simp only[j4,j8];rintro⟨rfl,rfl⟩;exact⟨rfl,rfl⟩
    obtain⟨rfl,rfl⟩:=hs;rw[<-sP];exact⟨S2,γ2,rfl,cO,by rw[dW];exact YU uG⟩
   .simp at bG
  .simp at bG
 .simp at bG
theorem PY{P:Program}{f:Nat}(hf:Fun P f){o:Oper}{cl:Call}(ho:o.op = .call cl){x:Operand}(hc:cl.callee = .value x){cv:Array Value}(hx:a.eval x = .func (.func f) #[] cv) :
  (execOp a.eval o).run P w = .ok (.enter f (cl.args.map a.eval++cv)) w:=by
 obtain⟨fn,h1,h2,h3⟩:=hf;have jM:¬fn.body=none:=λhn=>by rw[hn]at h2;simp at h2
 have uH : ¬ fn.name = "runtime.NumGoroutine" := by simpa using h3
 simp[execOp,ho,resolve,hc,Deferred.ofValue,hx,invoke,callFunc,h1,jM,uH]
end
section
variable{N:NT}{np:Nat}{S0:aF}{w0:World}{refs:Refs}{σ:St}{a:Go.Act}{w:World}{S:aF}{γ:Nat->Value}
def keyV:(k:Ty)->k.den->Value
 |.int q,n=> .int q n
 |.str,s=> .string s
 |_,_=>undef
theorem Cy:∀{k:Ty}{x:k.den}{u:Value},k.isKey=true->(Rep S w k x [u]↔u=keyV k x)
 |.int q,x,u,_=>by simp[Rep,keyV]
 |.str,x,u,_=>by simp[Rep,keyV]
 |.bool,_,_,h=>by simp[Ty.isKey]at h
 |.unit,_,_,h=>by simp[Ty.isKey]at h
 |.wrap _,_,_,h=>by simp[Ty.isKey]at h
 |.pair _ _,_,_,h=>by simp[Ty.isKey]at h
 |.list _,_,_,h=>by simp[Ty.isKey]at h
 |.arr _ _,_,_,h=>by simp[Ty.isKey]at h
def keyD:Ty->TypeDesc
 |.int q=> .int q
 |_=> .string
theorem YX{P:Program}{T:Nat->Option TyI}(hT:cB P T){n:Nat}{ti:TyI}(hn:T n=some ti){k:Ty}(bB:ti.ty=some k)(hk:k.isKey=true):P.underlying n=some (keyD k):=by
 cases k with
 |int q=>exact HI hT hn bB
 |str=>exact HT hT hn bB
 |_=>simp[Ty.isKey]at hk
theorem PZ{k:Ty}(hk:k.isKey=true)(x:k.den):MapKept.IsKey (keyD k) (keyV k x):=by
 cases k with
 |int q=>rfl
 |str=>trivial
 |_=>simp[Ty.isKey]at hk
theorem YY{k:Ty}(hk:k.isKey=true)(x y:k.den):Instr.sameNow (keyD k) (keyV k x) (keyV k y)=some (@BEq.beq _ k.keq x y):=by
 cases k with
 |int q=>simp[keyD,keyV,Instr.sameNow]
 |str=>simp[keyD,keyV,Instr.sameNow]
 |_=>simp[Ty.isKey]at hk
theorem YZ{k:Ty}(hk:k.isKey=true){x y:k.den}(h:@BEq.beq _ k.keq x y=true):x=y:=by
 cases k with
 |int q=>simpa[Ty.keq]using h
 |str=>exact(MapKept.bytes_beq x y).1 h
 |_=>simp[Ty.isKey]at hk
theorem Y0{k:Ty}(hk:k.isKey=true)(x:k.den):Instr.sameBits 10000 (keyV k x) (keyV k x)=true:=by
 cases k with
 |int q=>simp[keyV,Instr.sameBits]
 |str=>simp only[keyV,Instr.sameBits];exact(MapKept.bytes_beq x x).2 rfl
 |_=>simp[Ty.isKey]at hk
def Fs(S:aF)(w:World)(k v:Ty)(x:k.den×v.den)(e:MapEntry):Prop:=Rep S w k x.1 [e.key]/\VRep S w ⟨v,x.2⟩ e.val
theorem Iq{k v:Ty}(hk:k.isKey=true)(q:k.den):∀{xs:List (k.den×v.den)}{es:List MapEntry},All2 (Fs S w k v) xs es->∀i:Nat,
  (@ic _ _ k.keq xs q=true/\∃j e,Instr.findNow (keyD k) (keyV k q) es i=some (some (i+j,e.val))/\es[j]? = some e/\e.key=keyV k q/\VRep S w ⟨v,@gw _ _ k.keq v.dflt xs q⟩ e.val/\
   ∀(z:v.den)(e':MapEntry),e'.key=keyV k q->VRep S w ⟨v,z⟩ e'.val->All2 (Fs S w k v) (@gY _ _ k.keq xs q z) (es.set j e'))\/
  (@ic _ _ k.keq xs q=false/\Instr.findNow (keyD k) (keyV k q) es i=some none/\@gw _ _ k.keq v.dflt xs q=v.dflt/\∀z,@gY _ _ k.keq xs q z=xs++[(q,z)])
 |[],[],_,i=> .inr ⟨rfl,rfl,rfl,λ_=>rfl⟩
 |x::xs,e::es,h,i=>by
  have uI:e.key=keyV k x.1:=(Cy hk).1 h.1.1;have hs:=YY hk q x.1;rw[<-uI]at hs;cases hb:@BEq.beq _ k.keq q x.1 with
  |true=>
   rw[hb]at hs;have Y1:=YZ hk hb;refine .inl ⟨by simp[ic,hb],0,e,by simp[Instr.findNow,hs],rfl,by rw[uI,Y1],?_,λz e' h1 h2=>?_⟩
   .simp only[gw,hb,j5];exact h.1.2
   .simp only[gY,hb,j5,List.set_cons_zero];exact⟨⟨(Cy hk).2 h1,h2⟩,h.2⟩
  |false=>
   rw[hb]at hs;rcases Iq hk q h.2 (i+1) with⟨h1,j,e',h2,h3,h4,h5,h6⟩|⟨h1,h2,h3,h4⟩
   .refine .inl ⟨by simp only[ic,List.any_cons,hb,Bool.false_or];exact h1,j+1,e',by simp only[Instr.findNow,hs,h2];congr 3;omega,by simpa using h3,h4,?_,λz e2 g1 g2=>?_⟩
    .simp only[gw,hb,j6];exact h5
    .simp only[gY,hb,j6,List.set_cons_succ];exact⟨h.1,h6 z e2 g1 g2⟩
   .refine .inr ⟨by simp only[ic,List.any_cons,hb,Bool.false_or];exact h1,by simp only[Instr.findNow,hs,h2],?_,λz=>?_⟩
    .simp only[gw,hb,j6];exact h3
    .simp only[gY,hb,j6,h4 z];rfl
 |[],_::_,h,_=>h.elim
 |_::_,[],h,_=>h.elim
theorem P0{P:Program}{T:Nat->Option TyI}(hT:cB P T){t:Nat}{k v:Ty}(h:wj T t=some (k,v)) :
  ∃kt vt tv,P.underlying t=some (.map kt vt)/\P.underlying kt=some (keyD k)/\k.isKey=true/\T vt=some tv/\tv.ty=some v:=by
 unfold wj at h;split at h
 .rename_i ti BV;split at h
  .rename_i k0 v0 Y2;split at h
   .rename_i tk tv mo zZ;split at h
    .rename_i k1 v1 dE Y3;split at h
     .rename_i iJ;simp only[j4,j8]at h;obtain⟨rfl,rfl⟩:=h;exact⟨k0,v0,tv,XQ hT BV Y2,YX hT mo dE iJ,iJ,zZ,Y3⟩
     .simp at h
    .simp at h
   .simp at h
  .simp at h
 .simp at h
theorem P1{rw:Nat->BS}(ml:RdR σ rw){t:Nat}{k v:Ty}{x y:Leaf}{b:Nat}{ys:List (k.den×v.den)}{q:k.den}(h:mapC rw t k v x y=some (b,ys,q)) :
  x = .ol b/\y = .d k q/\σ.bx b = .live (.lst (4294967296+t) (.pair k v) ys false):=by
 unfold mapC at h;split at h
 .rename_i b0 tk key;split at h
  .rename_i e a0 xs hb;split at h
   .rename_i he;split at h
    .rename_i Hx q' h1 h2;simp only[j4,j8]at h;obtain⟨rfl,rfl,rfl⟩:=h;have e1:=lZ h1;have e2:=lZ h2;cases e1;cases e2;subst he;exact⟨rfl,rfl,ml.live hb⟩
    .simp at h
   .simp at h
  .simp at h
 .simp at h
theorem Cz(t:Nat):isM (4294967296+t)=true:=by
 unfold isM;rw[Nat.ble_eq];exact Nat.le_add_right _ _
theorem P2(hR:Rel N np S0 w0 refs σ a w S γ){b t:Nat}{k v:Ty}{ys:List (k.den×v.den)}{f:Bool}(hb:σ.bx b = .live (.lst (4294967296+t) (.pair k v) ys f)) :
  ∃g es clock,γ b = .map (some g)/\w.heap[g]? = some (.map es clock)/\All2 (Fs S w k v) ys es.toList:=by
 have h:=(hR.box b _ hb).1;rcases h with⟨hm,_⟩|⟨_,g,es,clock,h1,h2,h3⟩
 .rw[Cz]at hm;simp at hm
 .exact⟨g,es,clock,h1,h2,h3⟩
theorem Y4{P:Program}{T:Nat->Option TyI}(hT:cB P T){n:Nat}{ti:TyI}(hn:T n=some ti){t:Ty}(bB:ti.ty=some t):∃z,(zeroValue n).run P w = .ok z w/\VRep S w ⟨t,t.dflt⟩ z:=by
 obtain⟨i,d,hi,hd,hs,_,ha,_,h⟩:=lj hT hn;obtain⟨_,⟨z,hz,hc⟩,hdo⟩:=h t bB;have P3:=XR hT hn hi hd;refine⟨z,by simp[zeroValue,typeInfo,hi,hz],?_,?_,?_⟩
 .rw[hc];exact oQ t
 .intro hm;have:aggD d=true:=by cases d<;>cases t<;>simp_all[iS,gL,aggD,Ty.agg]
  simp only[zOk,hz]at P3;cases z<;>simp_all
 .intro hm;have:aggD d=false:=by cases d<;>cases t<;>simp_all[iS,gL,aggD,Ty.agg]
  simp only[zOk,hz]at P3;cases z<;>first|rfl|simp_all
theorem Y5{P:Program}{E:Env}(hT:cB P E.T)(hR:Rel N np S0 w0 refs σ a w S γ){rw:Nat->BS}(ml:RdR σ rw){t:Nat}{k v:Ty}(ht:wj E.T t=some (k,v)){x y:Leaf}{b:Nat}{ys:List (k.den×v.den)}{q:k.den}
  (h:mapC rw t k v x y=some (b,ys,q)){zx zy:Value}(hx:bO S w γ σ.bx x zx)(hy:bO S w γ σ.bx y zy) :
  ∃z,VRep S w ⟨v,@gw _ _ k.keq v.dflt ys q⟩ z/\∀ok,(Instr.lookup t zx zy ok).run P w = .ok (if ok then .tuple #[z,.bool (@ic _ _ k.keq ys q)] else z) w:=by
 obtain⟨kt,vt,tv,gp,xd,iJ,zZ,CA⟩:=P0 hT ht;obtain⟨rfl,rfl,hb⟩:=P1 ml h;obtain⟨g,es,clock,hg,hh,ha⟩:=P2 hR hb;have Ir:zx = .map (some g):=(hx.2.2 _ hb).trans hg;have Is:zy=keyV k q:=(Cy iJ).1 hy;subst Ir;subst Is;have CB:=MapKept.run_checkKey (w:=w) xd (PZ iJ q) es.isEmpty 9999;rcases Iq iJ q ha 0 with⟨h1,j,e,h2,h3,h4,h5,h6⟩|⟨h1,h2,h3,h4⟩
 .refine⟨e.val,h5,λok=>?_⟩;have hf:=MapKept.run_findKey (w:=w) xd h2;simp only[Instr.lookup,Sem.run_bind,run_underlying gp,Result.andThen_ok,MapKept.run_getObj_map hh,Sem.run_pure,CB,hf,h1]
 .obtain⟨z,hz,Y6⟩:=Y4 (S:=S) (w:=w) hT zZ CA;refine⟨z,by rw[h3];exact Y6,λok=>?_⟩;have hf:=MapKept.run_findKey (w:=w) xd h2;simp only[Instr.lookup,Sem.run_bind,run_underlying gp,Result.andThen_ok,MapKept.run_getObj_map hh,Sem.run_pure,CB,hf,h1,hz]
theorem Y7(hR:Rel N np S0 w0 refs σ a w S γ){k:Nat}{b b':Bx}(hk:σ.bx k = .live b){g:Nat}(hg:blk (γ k)=some g)(hS:∀o,¬S g o)(oO:iF b b')
  {w':World}(sQ:∀i,i≠g->w'.heap[i]? = w.heap[i]?)(bZ:w'.heap.size=w.heap.size)(oU:w'.os=w.os)(Ft:w'.tape=w.tape)(dg:w'.output=w.output)
  (hb:BxLe γ σ.bx γ (σ.setB k (.live b')).bx->cX S w S w'->ez S w' γ (σ.setB k (.live b')).bx k b') :
  Rel N np S0 w0 refs (σ.setB k (.live b')) a w' S γ:=by
 have hle:BxLe γ σ.bx γ (σ.setB k (.live b')).bx:=by
  intro k' bg;by_cases ca:k'=k
  .subst ca;rw[gg];exact⟨by simp,rfl,λb1 da=>by simp at da;subst da;exact⟨b,hk,oO⟩⟩
  .rw[cE σ _ ca];exact⟨bg,rfl,λb hb=>⟨b,hb,.refl b⟩⟩
 have aC:cX S w S w':=by
  intro g' o h;refine⟨h,World.cell?_of_block (sQ g' ?_)⟩
  rintro rfl
  exact hS o h
 have bt:∀k' b1,(σ.setB k (.live b')).bx k' = .live b1->∃b2,σ.bx k' = .live b2:=by
  intro k' b1 h1;by_cases ca:k'=k
  .subst ca;exact⟨b,hk⟩
  .rw[cE σ _ ca]at h1;exact⟨b1,h1⟩
 refine Rel.step (bx':=(σ.setB k (.live b')).bx) hR aC hle ?_ ?_ ?_ hR.new ?_ ?_ ?_ (oU.trans hR.os) (Ft.trans hR.tape) (dg.trans hR.output) (λg' _ _ h=>⟨sQ g' (λe=>h k b hk (e▸hg)),λk' b1 h1=>by
  obtain⟨b2,h2⟩:=bt k' b1 h1;exact h k' b2 h2⟩)
 .intro k' b1 h1;by_cases ca:k'=k
  .subst ca;rw[gg]at h1;simp at h1;subst h1;exact hb hle aC
  .rw[cE σ _ ca]at h1;refine ez.keep aC hle rfl (λg' az=>⟨?_,λ_=>Iff.rfl⟩) (hR.box k' b1 h1);exact sQ g' (λh=>hR.apart k' k b1 b g ca h1 hk (h▸az) hg)
 .intro k' b1 g' h1 az;obtain⟨b2,h2⟩:=bt k' b1 h1;exact hR.own k' b2 g' h2 az
 .intro k1 k2 b1 b2 g' ba h1 h2 az;obtain⟨sq,jU⟩:=bt k1 b1 h1;obtain⟨sr,jM⟩:=bt k2 b2 h2;exact hR.apart k1 k2 sq sr g' ba jU jM az
 .intro g' o h;rw[bZ];exact hR.here g' o h
 .intro g' az hr;rw[sQ g' ?_]
  .exact hR.below g' az hr
  .rintro rfl
   rcases hR.own k b _ hk hg with h|h
   .omega
   .exact hr h.1
 .rw[bZ];exact hR.grow
theorem Y8{P:Program}{E:Env}(hT:cB P E.T)(hR:Rel N np S0 w0 refs σ a w S γ){rw:Nat->BS}(ml:RdR σ rw){t:Nat}{k v:Ty}(ht:wj E.T t=some (k,v)){x y:Leaf}{b:Nat}{ys:List (k.den×v.den)}{q:k.den}
  (h:mapC rw t k v x y=some (b,ys,q)){zx zy zz:Value}(hx:bO S w γ σ.bx x zx)(hy:bO S w γ σ.bx y zy){rdf:Nat->BS}(bC:RdF np σ rdf){c:Cel}{z:v.den}{u:Ups}(hd:oD rdf v c=some (z,u))(hz:bJ S w γ σ.bx c zz) :
  ∃w' S',(Instr.mapUpdate t zx zy zz).run P w = .ok () w'/\Rel N np S0 w0 refs (σ.upd (u++[(b,.live (.lst (4294967296+t) (.pair k v) (@gY _ _ k.keq ys q z) false))])) a w' S' γ:=by
 obtain⟨kt,vt,tv,gp,xd,iJ,zZ,CA⟩:=P0 hT ht;obtain⟨rfl,rfl,hb⟩:=P1 ml h;obtain⟨fa,bq,_⟩:=B3 bC hd hz;obtain⟨S1,bu,cu,gP,dJ⟩:=nI u σ S hR fa;have CC:u.any (λy=>y.1==b)=false:=by rw[qj];intro y hy uJ;obtain⟨_,e,t',xs,f,h1,_,hm⟩:=fa y hy;rw[show y.1=b by simpa using uJ,hb]at h1;cases h1;rw[Cz]at hm;simp at hm
 have da:(σ.upd u).bx b = .live (.lst (4294967296+t) (.pair k v) ys false):=(ma u σ CC).trans hb;obtain⟨g,es,clock,hg,hh,ha⟩:=P2 bu da;have Ir:zx = .map (some g):=(hx.2.2 _ hb).trans hg;have Is:zy=keyV k q:=(Cy iJ).1 hy;subst Ir;subst Is;have P4:=bq S1 w cu gP;have It:blk (γ b)=some g:=by rw[hg];rfl
 have hS:∀o,¬S1 g o:=((bu.box b _ da).2 g It).1 rfl;have CB:=MapKept.run_checkKey (w:=w) xd (PZ iJ q) false 9999
 have main:∃uK mq,(Instr.mapUpdate t (.map (some g)) (keyV k q) zz).run P w = .ok () { w with heap:=w.heap.setIfInBounds g (.map uK mq) }/\All2 (Fs S1 w k v) (@gY _ _ k.keq ys q z) uK.toList:=by
  rcases Iq iJ q ha 0 with⟨h1,j,e,h2,h3,h4,h5,h6⟩|⟨h1,h2,h3,h4⟩
  .have hf:=MapKept.run_findKey (w:=w) xd h2;rw[kf]at hf;refine⟨es.modify j λe=>{ e with key:=keyV k q,val:=zz },clock,?_,?_⟩
   .have Iu:((es[j]?).map (·.key)).getD (keyV k q)=keyV k q:=by rw[show es[j]? = some e by simpa using h3];exact h4
    simp only[Instr.mapUpdate,Sem.run_bind,run_underlying gp,Result.andThen_ok,MapKept.run_getObj_map hh,CB,hf,Instr.keyThatStays,Iu,Y0 iJ q,if_true,Sem.run_pure,MapKept.run_setObj_map _ hh]
   .have e1:(es.modify j λe=>{ e with key:=keyV k q,val:=zz }).toList=es.toList.set j { e with key:=keyV k q,val:=zz }:=by
     refine vu λi=>?_;rw[qs,Array.getElem?_modify,List.getElem?_set];have uH:es[j]? = some e:=by simpa using h3
     by_cases dK:j=i
     .subst dK;simp only[if_true,uH,kx];rw[if_pos (by simpa using (jm.1 uH).1)]
     .simp[dK]
    rw[e1];exact h6 z _ rfl P4
  .have hf:=MapKept.run_findKey (w:=w) xd h2;refine⟨es.push { key:=keyV k q,val:=zz,born:=clock },clock+1,?_,?_⟩
   .simp only[Instr.mapUpdate,Sem.run_bind,run_underlying gp,Result.andThen_ok,MapKept.run_getObj_map hh,CB,hf,MapKept.run_setObj_map _ hh]
   .rw[h4 z,Array.toList_push];exact ha.append ⟨⟨(Cy iJ).2 rfl,P4⟩,trivial⟩
 obtain⟨uK,mq,aL,ar⟩:=main;have aq:g<w.heap.size:=(jm.1 hh).1;refine⟨_,S1,aL,?_⟩;rw[jV];refine Y7 bu da It hS (b':= .lst (4294967296+t) (.pair k v) (@gY _ _ k.keq ys q z) false) ⟨rfl,rfl,λhm=>by rw[Cz]at hm;simp at hm⟩ (λi hi=>by simp[Ne.symm hi]) (by simp) rfl rfl rfl λhle aC=>?_;refine⟨.inr ⟨Cz t,g,uK,mq,hg,by simp[aq],ar.mono λx e hx=>⟨Rep.keep aC _ _ _ hx.1,VRep.keep aC hx.2⟩⟩,λg' az=>?_⟩;rw[It]at az;simp at az;subst az;exact⟨λ_=>hS,λh=>by simp at h⟩
theorem Y9{P:Program}(hR:Rel N np S0 w0 refs σ a w S γ){n t:Nat}{k v:Ty}(hn:σ.bx n = .free) :
  ∃γ',(Instr.makeMap t none).run P w = .ok (.map (some w.heap.size)) (w.alloc (.map #[] 0))/\Rel N np S0 w0 refs (σ.setB n (.live (.lst (4294967296+t) (.pair k v) [] false))) a (w.alloc (.map #[] 0)) S γ'/\
   bJ S (w.alloc (.map #[] 0)) γ' (σ.setB n (.live (.lst (4294967296+t) (.pair k v) [] false))).bx (.one (.ol n)) (.map (some w.heap.size)):=by
 have CC:=HW hR hn (o:= .map #[] 0) (b:= .lst (4294967296+t) (.pair k v) [] false) (v:= .map (some w.heap.size)) (λg hg=>by simp[blk]at hg;exact hg.symm) (λhle=>by
  refine⟨.inr ⟨Cz t,w.heap.size, #[],0,fy _ _ _,heap_alloc_new w _,trivial⟩,λg hg=>?_⟩;rw[fy]at hg;simp[blk]at hg;subst hg;exact⟨λ_ o ho=>by have:=hR.here _ o ho;omega,λh=>by simp at h⟩)
 refine⟨_,rfl,CC.1,⟨?_,rfl,λb hb=>(fy _ _ _).symm⟩,λ_=>rfl⟩;rw[gg];simp
end
section
variable{N:NT}{np:Nat}{S0:aF}{w0:World}{refs:Refs}{σ:St}{a:Go.Act}{w:World}{S:aF}{γ:Nat->Value}
theorem Za{P:Program}{E:Env}(hT:cB P E.T)(hR:Rel N np S0 w0 refs σ a w S γ){rdf:Nat->BS}(bC:RdF np σ rdf){t:TypeId}{ti:TyI}(ht:E.T t=some ti)
  {m:Nat}{el:Ty}(bB:ti.ty=some (.arr m el)){ps:List (Nat×Cel)}{vs:Array (Nat×Value)}{xs:List el.den}{u:Ups}
  (gG:All2 (λp v=>p.1=v.1/\bJ S w γ σ.bx p.2 v.2) ps vs.toList)(h:iD rdf el (List.replicate m el.dflt) [] ps=some (xs,u)) :
  ∃v S',(Instr.build t vs).run P w = .ok v w/\Rel N np S0 w0 refs (σ.upd u) a w S' γ/\bJ S' w γ (σ.upd u).bx (.av m el xs) v:=by
 obtain⟨gp,bP,te,cN,uL⟩:=zN hT ht bB;have bZ:=nG hT cN uL;obtain⟨z,hz,gz⟩:=zM hT ht w bB;obtain⟨fa,cL⟩:=H6 bC bP ps vs.toList gG h .nil;obtain⟨S1,bu,cu,gP,dJ⟩:=nI u σ S hR fa;obtain⟨PE,css,ar,kB⟩:=oQ (S:=S1) (w:=w) (.arr m el);obtain⟨bj,iZ,fN,gu,df⟩:=cL S1 cu gP css z.cells ar (by rw[gz];exact kB)
 have hlen:∀(ps:List (Nat×Cel)){xs cD:List el.den}{u u':Ups},iD rdf el xs u ps=some (cD,u')->cD.length=xs.length:=by
  intro ps;induction ps with
  |nil=>intro xs cD u u' h;simp[iD]at h;rw[h.1]
  |cons p ps ih=>
   intro xs cD u u' h;obtain⟨i,c⟩:=p;simp only[iD]at h;split at h
   .split at h
    .rw[ih h];simp
    .simp at h
   .simp at h
 have mU:xs.length=m:=by rw[hlen ps h];simp
 refine⟨.agg bj,S1,?_,bu,bj,rfl,mU,iZ,gu,df⟩;simp only[Instr.build,Sem.run_bind,hz,Result.andThen_ok,run_underlying gp,iU hT cN,<-bZ,fN,Sem.run_pure]
theorem Zb{P:Program}{E:Env}(hT:cB P E.T){bx:Nat->BS}{t:TypeId}{ti:TyI}(ht:E.T t=some ti){m:Nat}{el:Ty}(bB:ti.ty=some (.arr m el)) :
  ∃v,(Instr.build t #[]).run P w = .ok v w/\bJ S w γ bx (.st (mO (.arr m el))) v:=by
 obtain⟨gp,bP,te,cN,uL⟩:=zN hT ht bB;obtain⟨z,hz,gz⟩:=zM hT ht w bB;refine⟨.agg z.cells,?_,z.cells,rfl,by rw[gz];exact uv (.arr m el),λu hu=>Fe gz u (by simpa using hu)⟩;simp only[Instr.build,Sem.run_bind,hz,Result.andThen_ok,run_underlying gp,iU hT cN];rfl
theorem P5{rd:Nat->BS}(aT:RdF np σ rd){el:Ty}:∀{ls:List Leaf}{xs:List el.den}{u:Ups}{zs:List Value},r7 rd el ls=some (xs,u)->All2 (bO S w γ σ.bx) ls zs->
  FrzL np σ.bx u/\∀S' w',cX S w S' w'->Froz σ.bx γ S' w' u->All2 (λx z=>Rep S' w' el x [z]) xs zs
 |[],xs,u,zs,h,ha=>by
  simp[r7]at h;obtain⟨rfl,rfl⟩:=h;cases zs with
  |nil=>exact⟨.nil,λ_ _ _ _=>trivial⟩
  |cons _ _=>exact ha.elim
 |l::ls,xs,u,zs,h,ha=>by
  cases zs with
  |nil=>exact ha.elim
  |cons z zs=>
   simp only[r7]at h;split at h
   .rename_i x u1 Fi u2 h1 h2;simp only[j4,j8]at h;obtain⟨rfl,rfl⟩:=h;obtain⟨f1,p1⟩:=uu aT h1 ha.1;obtain⟨f2,p2⟩:=P5 aT h2 ha.2;exact⟨FrzL.app.2 ⟨f1,f2⟩,λS' w' hk hf=>⟨p1 S' w' hk (Froz.app.1 hf).1,p2 S' w' hk (Froz.app.1 hf).2⟩⟩
   .simp at h
theorem P6{el:Ty}{S':aF}{w':World}:∀{xs:List el.den}{zs:List Value},All2 (λx z=>Rep S' w' el x [z]) xs zs->∃css,All2 (λx c=>Rep S' w' el x c) xs css/\zs=css.flatten
 |[],[],_=>⟨[],trivial,rfl⟩
 |x::xs,z::zs,h=>by
  obtain⟨css,h1,h2⟩:=P6 h.2;exact⟨[z]::css,⟨h.1,h1⟩,by simp[h2]⟩
 |[],_::_,h=>h.elim
 |_::_,[],h=>h.elim
theorem Zc{P:Program}{E:Env}(hT:cB P E.T)(hR:Rel N np S0 w0 refs σ a w S γ){rd rdf:Nat->BS}(aT:RdOk σ rd)(bC:RdF np σ rdf){t:TypeId}{ti:TyI}(ht:E.T t=some ti)
  {x:Leaf}{m:Nat}{el:Ty}{ls:List Leaf}{xs:List el.den}{u:Ups}{v:Value}(h:r8 rd ti.ty x=some (m,el,ls))(hg:r7 rdf el ls=some (xs,u))(hl:xs.length=m)(hx:bO S w γ σ.bx x v) :
  ∃z S',(Instr.loadAt t v).run P w = .ok z w/\Rel N np S0 w0 refs (σ.upd u) a w S' γ/\bJ S' w γ (σ.upd u).bx (.av m el xs) z:=by
 unfold r8 at h;split at h
 .rename_i k;split at h
  .rename_i m' Fa bB;split at h
   .split at h
    .rename_i fV hk;simp only[j4,j8]at h;obtain⟨rfl,rfl,rfl⟩:=h;have hk:=aT.live hk;obtain⟨g,az,hu⟩:=hx.2.2 _ hk;obtain⟨g',cur,e,nN,hh,ha,h1,_⟩:=hR.box k _ hk;rw[az]at nN;simp at nN;subst nN;obtain⟨fa,cL⟩:=P5 bC hg ha;obtain⟨S1,bu,cu,gP,dJ⟩:=nI u σ S hR fa;obtain⟨css,ar,dG⟩:=P6 (cL S1 w cu gP);have bq:Rep S1 w (.arr m' Fa) xs cur.toList:=⟨hl,css,ar,dG⟩;obtain⟨HQ,_,_⟩:=zN hT ht bB;obtain⟨i,d,hi,hd,hs,_,lu,_,BW⟩:=lj hT ht;have bZ:cur.size=ti.size:=by have:=Rep.length _ _ _ bq;rw[nG hT ht bB]at this;simpa using this
     refine⟨.agg cur,S1,?_,bu,cur,rfl,bq⟩;subst hu;have:=run_loadVar_row (P:=P) w g e t cur (0,0) d hh hd (by rw[HQ]at hd;cases hd;rfl) (by rw[hi];simp[hs,bZ]);simp only[Instr.loadAt,Sem.run_bind,Instr.sureAddr,Sem.run_pure,Result.andThen_ok,this]
    .simp at h
   .simp at h
  .simp at h
 .simp at h
def Slot.bare:Slot->Bool
 |.cnd _ _ _=>false
 |_=>true
theorem P7(hR:Rel N np S0 w0 refs σ a w S γ){act:List (Nat×Bool)}(aU:px (tm a) act)(ps:List (Nat×Operand)) :
  All2 (λp v=>p.1=v.1/\bJ S w γ σ.bx p.2 v.2) (ps.map λp=>(p.1,(σ.ev p.2).cel act)) (ps.map λp=>(p.1,a.eval p.2)):=by
 induction ps with
 |nil=>trivial
 |cons p ps ih=>exact⟨⟨rfl,er hR aU p.2⟩,ih⟩
theorem Fu(hR:Rel N np S0 w0 refs σ a w S γ){act:List (Nat×Bool)}(aU:px (tm a) act)(ps:List Operand) :
  All2 (bJ S w γ σ.bx) (ps.map λp=>(σ.ev p).cel act) (ps.map a.eval):=by
 induction ps with
 |nil=>trivial
 |cons p ps ih=>exact⟨er hR aU p,ih⟩
theorem CD{rd:Nat->BS}(aT:RdOk σ rd):RdF np σ (λk=>if parK np k then .gone else rd k):=by
 refine⟨λk=>?_,λk e a xs f h=>?_⟩
 rotate_left
 .dsimp only at h
  split at h
  .simp at h
  .exact aT.2 k e a xs f h
 dsimp only
 split
 .exact .inr rfl
 .rename_i hp;rcases aT.1 k with h|h
  .exact .inl ⟨h,by simpa using hp⟩
  .exact .inr h
theorem uM{P:Program}{o:Oper}{l:Leaf}{v:Value}(hR:Rel N np S0 w0 refs σ a w S γ)(hr:(execOp a.eval o).run P w = .ok (.value v) w)
  (hs:bO S w γ σ.bx l v)(h1:One v):HJ P N np S0 w0 refs o σ a w S γ (.one (.one l)) []:=
 iV hR hr ⟨hs,λ_=>h1⟩
theorem xe{c:Cel}{l:Leaf}(h:lf c=l)(hd:l ≠ .dead):c = .one l:=by
 cases c with
 |one x=>simp[lf]at h;rw[h]
 |st ls=>simp[lf]at h;exact absurd h.symm hd
 |av n a xs=>simp[lf]at h;exact absurd h.symm hd
theorem Iv{P:Program}{E:Env}(hT:cB P E.T)(hR:Rel N E.np S0 w0 refs σ a w S γ){act:List (Nat×Bool)}(aU:px (tm a) act){rw:Nat->BS}(ml:RdR σ rw)
  {o:Oper}{s:Slot}{u:Ups}(h:dq E σ.ev rw act o=some (.val true s u)):HJ P N E.np S0 w0 refs o σ a w S γ s u/\s.bare=true:=by
 have aT:RdOk σ (mskM rw):=ml.msk;have bC:=CD (np:=E.np) aT;have hex:∀op,o.op=op->execOp a.eval o=execOp a.eval { o with op:=op }:=λop h=>by subst h;rfl
 unfold dq at h;dsimp only at h;split at h
 ·-- move
  rename_i x bN;split at h
  .rename_i l hl;simp only[j4,Act.val.injEq]at h;obtain⟨_,rfl,rfl⟩:=h;have:=pt hR x;rw[hl]at this;exact⟨iV hR (v:=a.eval x) (by simp[execOp,bN]) this,rfl⟩
  .simp only[j4,Act.cel,Act.val.injEq]at h;obtain⟨_,rfl,rfl⟩:=h;exact⟨iV hR (v:=a.eval x) (by simp[execOp,bN]) (er hR aU x),rfl⟩
 ·-- assign
  rename_i x bN;split at h
  .rename_i l hl;simp only[j4,Act.val.injEq]at h;obtain⟨_,rfl,rfl⟩:=h;have:=pt hR x;rw[hl]at this;exact⟨iV hR (v:=a.eval x) (by simp[execOp,bN]) this,rfl⟩
  .simp only[j4,Act.cel,Act.val.injEq]at h;obtain⟨_,rfl,rfl⟩:=h;exact⟨iV hR (v:=a.eval x) (by simp[execOp,bN]) (er hR aU x),rfl⟩
 ·-- pick
  rename_i x y z bN;split at h
  .rename_i v hv;have hx:=er hR aU x;have Iw:a.eval x = .bool v:=by have:=xe hv (by simp);rw[this]at hx;exact rA hx
   have aL:(execOp a.eval o).run P w = .ok (.value (if v then a.eval y else a.eval z)) w:=by simp[execOp,bN,Iw,asBool]
   have hy:v=true->bJ S w γ σ.bx ((σ.ev y).cel (ET x true act)) (a.eval y):=by
    intro xf;refine HK ?_ (pt hR y);cases x with
    |tmp t=>
     intro g hg;rcases je.1 hg with rfl|hg
     .simp only;rw[<-xf];exact Iw
     .exact aU g hg
    |_=>exact aU
   have hz:v=false->bJ S w γ σ.bx ((σ.ev z).cel (ET x false act)) (a.eval z):=by
    intro xf;refine HK ?_ (pt hR z);cases x with
    |tmp t=>
     intro g hg;rcases je.1 hg with rfl|hg
     .simp only;rw[<-xf];exact Iw
     .exact aU g hg
    |_=>exact aU
   split at h
   .rename_i t p t' q hp hq;split at h
    .rename_i q' iH;simp only[j4,Act.leaf,Act.val.injEq]at h;obtain⟨_,rfl,rfl⟩:=h;have:=lZ iH;cases this;refine⟨iV hR aL ?_,rfl⟩;cases v with
     |true=>have:=hy rfl;rw[hp]at this;exact this
     |false=>have:=hz rfl;rw[hq]at this;exact this
    .simp at h
   .rename_i t p hp hq;simp only[j4,Act.val.injEq]at h;obtain⟨gC,rfl,rfl⟩:=h;have gC:v=true:=gC;subst gC;refine⟨iV hR aL ?_,rfl⟩;have:=hy rfl;rw[hp]at this;exact this
   .rename_i t q hp hq;simp only[j4,Act.val.injEq]at h;obtain⟨gC,rfl,rfl⟩:=h;have gC:v=false:=by simpa using gC
    subst gC;refine⟨iV hR aL ?_,rfl⟩;have:=hz rfl;rw[hq]at this;exact this
   .simp at h
  .simp at h
 ·-- alloc
  rename_i t bN;split at h
  .rename_i ti ht;split at h
   .rename_i aY;have hd:=aT.free aY;split at h
    .rename_i k el bB;split at h
     .simp only[j4,Act.val.injEq]at h;obtain⟨_,rfl,rfl⟩:=h;obtain⟨z,gz,hz⟩:=H5 (w:=w) hT ht bB;obtain⟨dn,hc⟩:=HX hR hd (ls:=mO (.arr k el)) (cur:=z.cells) (e:=t) (by rw[gz];exact uv (.arr k el)) (Fe gz);exact⟨⟨_,_,S,_,.inl (by simp[execOp,bN,hz]),dn,hc⟩,rfl⟩
     simp only[j4,Act.val.injEq]at h;obtain⟨_,rfl,rfl⟩:=h;obtain⟨z,gz,hz⟩:=H5 (w:=w) hT ht bB;obtain⟨dn,hc⟩:=Pd hR hd (m:=k) (t:=el) (xs:=List.replicate k el.dflt) (cur:=z.cells) (e:=t) (by rw[gz];exact oQ (.arr k el));exact⟨⟨_,_,S,_,.inl (by simp[execOp,bN,hz]),dn,hc⟩,rfl⟩
    .rename_i ty ba bB;simp only[j4,Act.val.injEq]at h;obtain⟨_,rfl,rfl⟩:=h;obtain⟨z,gz,hz⟩:=H5 (w:=w) hT ht bB;obtain⟨dn,hc⟩:=HX hR hd (ls:=mO ty) (cur:=z.cells) (e:=t) (by rw[gz];exact uv ty) (Fe gz);exact⟨⟨_,_,S,_,.inl (by simp[execOp,bN,hz]),dn,hc⟩,rfl⟩
    .simp at h
   .simp at h
  .simp at h
 ·-- box
  rename_i t x bN;split at h
  .rename_i aY;have hd:=aT.free aY;have hx:=er hR aU x;split at h
   .rename_i k el xs hc;simp only[j4,Act.val.injEq]at h;obtain⟨_,rfl,rfl⟩:=h;rw[hc]at hx;obtain⟨cs,hu,bq⟩:=hx;obtain⟨dn,cU⟩:=Pd hR hd (m:=k) (t:=el) (xs:=xs) (cur:=(a.eval x).cells) (e:=t) (by rw[hu];exact bq);exact⟨⟨_,_,S,_,.inl (by simp[execOp,bN,Pt]),dn,cU⟩,rfl⟩
   .split at h
    .rename_i ls Zd;simp only[j4,Act.val.injEq]at h;obtain⟨_,rfl,rfl⟩:=h;obtain⟨hl,h1⟩:=B5 Zd hx;obtain⟨dn,cU⟩:=HX hR hd (ls:=ls) (cur:=(a.eval x).cells) (e:=t) hl h1;exact⟨⟨_,_,S,_,.inl (by simp[execOp,bN,Pt]),dn,cU⟩,rfl⟩
    .simp at h
  .simp at h
 ·-- build
  rename_i t ps bN;have gG:=P7 hR aU ps.toList;have sR:All2 (λp v=>p.1=v.1/\bJ S w γ σ.bx p.2 v.2) (ps.toList.map λp=>(p.1,(σ.ev p.2).cel act)) (ps.map λp=>(p.1,a.eval p.2)).toList:=by simpa using gG
  split at h
  .rename_i ti ht;split at h
   .rename_i k el bB;split at h
    .rename_i P8;simp only[j4,Act.cel,Act.val.injEq]at h;obtain⟨_,rfl,rfl⟩:=h;obtain⟨v,aL,hc⟩:=Zb (w:=w) (S:=S) (γ:=γ) (bx:=σ.bx) hT ht bB;have uN:ps = #[]:=by simp only[jb,List.isEmpty_iff]at P8;exact Array.toList_eq_nil_iff.1 P8.2
     subst uN;exact⟨iV hR (v:=v) (by simp[execOp,bN,aL]) hc,rfl⟩
    split at h
    .rename_i xs u' hb;simp only[j4,Act.val.injEq]at h;obtain⟨_,rfl,rfl⟩:=h;obtain⟨v,S',aL,dn,hc⟩:=Za hT hR bC ht bB sR hb;exact⟨⟨v,w,S',γ,.inl (by simp[execOp,bN,aL]),dn,hc⟩,rfl⟩
    .simp at h
   .rename_i ty ba bB;split at h
    .rename_i lu;split at h
     .rename_i ls hb;simp only[j4,Act.cel,Act.val.injEq]at h;obtain⟨_,rfl,rfl⟩:=h;obtain⟨v,aL,hc⟩:=Yy hT ht bB lu sR hb;exact⟨iV hR (v:=v) (by simp[execOp,bN,aL]) hc,rfl⟩
     .simp at h
    .simp at h
   .simp at h
  .simp at h
 ·-- buildSlice
  rename_i t len ps bN;have gG:=P7 hR aU ps.toList;have sR:All2 (λp v=>p.1=v.1/\bJ S w γ σ.bx p.2 v.2) (ps.toList.map λp=>(p.1,(σ.ev p.2).cel act)) (ps.map λp=>(p.1,a.eval p.2)).toList:=by simpa using gG
  split at h
  .rename_i ti ht;split at h
   .rename_i el bB;split at h
    .simp at h
    .rename_i hlen;split at h
     .rename_i xs u' hb;split at h
      .rename_i aY;simp only[j4,Act.val.injEq]at h;obtain⟨_,rfl,rfl⟩:=h;obtain⟨v',w',S',γ',aL,dn,hc⟩:=YK hT hR bC ht bB (by omega) sR hb (aT.free aY);exact⟨⟨v',w',S',γ',.inl (by simp[execOp,bN,aL]),dn,hc⟩,rfl⟩
      .simp at h
     .simp at h
   .simp at h
  .simp at h
 ·-- load
  rename_i t x bN;split at h
  .rename_i ti ht;split at h
   .rename_i m el ls pO;split at h
    .rename_i xs u' hg;split at h
     .rename_i hlen;simp only[j4,Act.val.injEq]at h;obtain⟨_,rfl,rfl⟩:=h;obtain⟨z,S',hz,dn,ik⟩:=Zc hT hR aT bC ht pO hg hlen (iW (er hR aU x));exact⟨⟨z,w,S',γ,.inl (by simp[execOp,bN,hz]),dn,ik⟩,rfl⟩
     .simp at h
    .simp at h
   unfold oCel at h;split at h
   .rename_i c hc;simp only[j4,Act.cel,Act.val.injEq]at h;obtain⟨_,rfl,rfl⟩:=h;obtain⟨z,hz,ik⟩:=O9 hT hR aT ht hc (iW (er hR aU x));exact⟨iV hR (v:=z) (by simp[execOp,bN,hz]) ik,rfl⟩
   .simp at h
  .simp at h
 ·-- store
  rename_i t x y bN;split at h
  .rename_i ti ht;split at h
   .rename_i u' hu;simp only[j4,Act.val.injEq]at h;obtain⟨_,rfl,rfl⟩:=h;obtain⟨w',S',aL,dn⟩:=Yo hT hR aT bC ht hu (iW (er hR aU x)) (er hR aU y);exact⟨⟨undef,w',S',γ,.inr ⟨by simp[execOp,bN,aL],rfl⟩,dn,⟨trivial,λh=>absurd rfl h⟩⟩,rfl⟩
   .simp at h
  .simp at h
 ·-- nilCheck
  rename_i x bN;have hx:=er hR aU x;split at h
  .rename_i k p hl;split at h
   .rename_i gr;simp only[j4,Act.leaf,Act.val.injEq]at h;obtain⟨_,rfl,rfl⟩:=h;rw[xe hl (by simp)]at hx;obtain⟨b,hb⟩:=BX gr;obtain⟨g,_,hu⟩:=hx.1.2.2 b (aT.live hb);exact⟨iV hR (v:=a.eval x) (by simp[execOp,bN,hu]) hx,rfl⟩
   .simp at h
  .rename_i k i p hl;split at h
   .rename_i gr;simp only[j4,Act.leaf,Act.val.injEq]at h;obtain⟨_,rfl,rfl⟩:=h;rw[xe hl (by simp)]at hx;obtain⟨b,hb⟩:=BX gr;have h3:=hx.1.2.2 b (aT.live hb)
    have hu:∃g o,a.eval x = .pointer (some ⟨g,o,none⟩):=by
     cases b with
     |cell ls f=>exact h3.elim
     |lst e t xs f=>obtain⟨_,_,g,cap,_,hu⟩:=h3;exact⟨_,_,hu⟩
     |arr n t xs=>obtain⟨_,g,_,hu⟩:=h3;exact⟨_,_,hu⟩
    obtain⟨g,Ze,hu⟩:=hu;exact⟨iV hR (v:=a.eval x) (by simp[execOp,bN,hu]) hx,rfl⟩
   .simp at h
  .rename_i ls hl;simp only[j4,Act.leaf,Act.val.injEq]at h;obtain⟨_,rfl,rfl⟩:=h;rw[xe hl (by simp)]at hx;obtain⟨g,Ze,cs,hu,_⟩:=hx.1;exact⟨iV hR (v:=a.eval x) (by simp[execOp,bN,hu]) hx,rfl⟩
  .simp at h
 ·-- binOp
  rename_i op t x y rest bN;unfold oChk at h;split at h
  .rename_i b c hc;simp only[j4,Act.val.injEq]at h;obtain⟨rfl,rfl,rfl⟩:=h;obtain⟨z,hz,hl,h1⟩:=X0 (x:=x) (y:=y) hT hc (er hR aU x) (er hR aU y);refine⟨uM hR ?_ hl h1,rfl⟩;simp only[execOp,bN];rw[Sem.run_bind,hz];rfl
  .simp at h
 ·-- unOp
  rename_i op t x bN;unfold lY at h;split at h
  .rename_i c hc;simp only[j4,Act.leaf,Act.val.injEq]at h;obtain⟨_,rfl,rfl⟩:=h;obtain⟨z,hz,hl,h1⟩:=X1 hc (er hR aU x);refine⟨uM hR ?_ hl h1,rfl⟩;simp only[execOp,bN];rw[Sem.run_bind,hz];rfl
  .simp at h
 ·-- convert
  rename_i src dst x bN;split at h
  .rename_i ts ti nO ht;split at h
   .rename_i k v k0 k' hl Ix bB;simp only[j4,Act.leaf,Act.val.injEq]at h;obtain⟨_,rfl,rfl⟩:=h;have hx:=er hR aU x;rw[xe hl (by simp)]at hx;have hu:=ur hx;have gp:=HI hT ht bB;refine⟨uM hR (v:= .int k' (k'.wrap v)) ?_ rfl rfl,rfl⟩;have CE:=HI hT nO Ix;simp only[execOp,bN];rw[Sem.run_bind];have:(convert src dst (a.eval x)).run P w = .ok (.int k' (k'.wrap v)) w:=by simp only[hu,convert,Sem.run_bind,run_underlying CE,run_underlying gp,Result.andThen_ok];simp[Conv.intToInt]
    rw[this];rfl
   .simp at h
  .simp at h
 ·-- makeFunc
  rename_i f first caps bN
  split at h
  .rename_i gQ;split at h
   .split at h
    .rename_i ks hl;simp only[j4,Act.val.injEq]at h;obtain⟨_,rfl,rfl⟩:=h;have dh:=Fu hR aU caps.toList;have Fv:first = #[]:=by simpa using gQ
     refine⟨⟨.func (.func f) #[] (caps.map a.eval),w,S,γ,.inl ?_,hR,⟨⟨_,rfl,by
      have:=PH hl dh;rw[<-Array.toList_map]at this;exact this⟩,λ_=>rfl⟩⟩,rfl⟩
     simp[execOp,bN,Fv,Instr.makeFunc]
    .simp at h
   split at h
   .rename_i l u' hl;simp only[j4,Act.val.injEq]at h;obtain⟨_,rfl,rfl⟩:=h;have dh:=Fu hR aU caps.toList;obtain⟨S',dn,_,cM,_⟩:=PG bC hl hR dh;have Fv:first = #[]:=by simpa using gQ
    refine⟨⟨.func (.func f) #[] (caps.map a.eval),w,S',γ,.inl ?_,dn,⟨⟨_,rfl,by simpa using cM⟩,λ_=>rfl⟩⟩,rfl⟩;simp[execOp,bN,Fv,Instr.makeFunc]
   .simp at h
  .simp at h
 ·-- fieldAddr
  rename_i t x i bN;split at h
  .rename_i ti ht;unfold lY at h;split at h
   .rename_i c hc;simp only[j4,Act.leaf,Act.val.injEq]at h;obtain⟨_,rfl,rfl⟩:=h;obtain⟨z,hz,hl,h1⟩:=Yb hT aT ht hc (iW (er hR aU x));exact⟨uM hR (by simp[execOp,bN,hz]) hl h1,rfl⟩
   .simp at h
  .simp at h
 ·-- field
  rename_i t x i bN;split at h
  .rename_i ti ht;split at h
   .rename_i ls f hc hf;split at h
    .rename_i tf pr;unfold oCel at h;split at h
     .rename_i c bG;simp only[j4,Act.cel,Act.val.injEq]at h;obtain⟨_,rfl,rfl⟩:=h;have hx:=er hR aU x;rw[hc]at hx;obtain⟨cs,hu,ar,h1⟩:=hx;obtain⟨fs,gp,fl,fa,lN,sS,tf',Zf,bP⟩:=OY hT ht hf;rw[<-sS]at pr;have gu:=(ar.drop fl.offset).take tf.size;have jU:∀u∈(cs.toList.drop fl.offset).take tf.size,One u:=λu fo=>h1 u (zd (qf fo));rw[<-lN]at bG
      have py:∃z,(part fl.type cs fl.offset).run P w = .ok z w/\bJ S w γ σ.bx c z:=by
       unfold r6 at bG;split at bG
       .rename_i l5;split at bG
        .rename_i hlen;simp only[j4]at bG;subst bG;refine⟨.agg (cs.extract fl.offset (fl.offset+tf.size)),?_,_,rfl,?_,?_⟩
         .simp only[part,Sem.run_bind,zL hT pr,l5,Result.andThen_ok,if_true,iU hT pr,Sem.run_pure]
         .have:(cs.extract fl.offset (fl.offset+tf.size)).toList=(cs.toList.drop fl.offset).take tf.size:=by simp[List.take_drop]
          rw[this];exact gu
         .have:(cs.extract fl.offset (fl.offset+tf.size)).toList=(cs.toList.drop fl.offset).take tf.size:=by simp[List.take_drop]
          rw[this];exact jU
        .simp at bG
       .rename_i l5;split at bG
        .rename_i l' kC;simp only[j4]at bG;subst bG;rw[kC]at gu;cases hq:(cs.toList.drop fl.offset).take tf.size with
         |nil=>rw[hq]at gu;exact gu.elim
         |cons z zs=>
          rw[hq]at gu jU
          have hz:cs[fl.offset]? = some z:=by
           have:((cs.toList.drop fl.offset).take tf.size)[0]? = some z:=by rw[hq];rfl
           have:=EZ this;simpa using this
          refine⟨z,?_,gu.1,λ_=>jU z (by simp)⟩;simp only[part,Sem.run_bind,zL hT pr,Result.andThen_ok,if_neg l5,hz,Sem.run_pure]
        .simp at bG
      obtain⟨z,hz,ik⟩:=py;refine⟨iV hR (v:=z) ?_ ik,rfl⟩;simp only[execOp,bN,hu];rw[Sem.run_bind];have:(Instr.field t (.agg cs) i).run P w = .ok z w:=by simp only[Instr.field,Sem.run_bind,run_underlying gp,Result.andThen_ok,fa,asAgg,Sem.run_pure,hz]
      rw[this];rfl
     .simp at h
    .simp at h
   .simp at h
  .simp at h
 ·-- indexAddr
  rename_i t x i bN;split at h
  .rename_i ti ht;unfold oChk at h;split at h
   .rename_i b c hc;simp only[j4,Act.val.injEq]at h;obtain⟨rfl,rfl,rfl⟩:=h;obtain⟨z,hz,hl,h1⟩:=Yc hT hR aT ht hc (iW (er hR aU x)) (iW (er hR aU i));exact⟨uM hR (by simp[execOp,bN,hz]) hl h1,rfl⟩
   .simp at h
  .simp at h
 ·-- index
  rename_i t x i bN;split at h
  .rename_i ti ht;split at h
   .rename_i b c hc;simp only[j4,Act.val.injEq]at h;obtain⟨rfl,rfl,rfl⟩:=h;obtain⟨z,hz,ik⟩:=Ye hT ht hc (er hR aU x) (iW (er hR aU i));exact⟨iV hR (v:=z) (by simp[execOp,bN,hz]) ik,rfl⟩
   .simp at h
  .simp at h
 ·-- makeMap
  rename_i t bN;split at h
  .rename_i k v ht;split at h
   .rename_i iX;simp only[j4,Act.val.injEq]at h;obtain⟨_,rfl,rfl⟩:=h;obtain⟨γ',aL,dn,cU⟩:=Y9 (P:=P) (t:=t) (k:=k) (v:=v) hR (aT.free iX);exact⟨⟨_,_,S,γ',.inl (by simp[execOp,bN,aL]),dn,cU⟩,rfl⟩
   .simp at h
  .simp at h
 ·-- lookup
  rename_i t x i ok bN;split at h
  .rename_i k v ht;split at h
   .rename_i b ys q hm;obtain⟨z,hz,aL⟩:=Y5 hT hR ml ht hm (iW (er hR aU x)) (iW (er hR aU i));split at h
    .simp only[j4,Act.val.injEq]at h;obtain⟨_,rfl,rfl⟩:=h;have hr:=aL true;simp only[if_true]at hr;refine⟨iV hR (v:= .tuple #[z,.bool (@ic _ _ k.keq ys q)]) (by simp[execOp,bN,hr]) ?_,rfl⟩;exact⟨_,rfl,zV hz,⟨rfl,λ_=>rfl⟩,trivial⟩
    .simp only[j4,Act.cel,Act.val.injEq]at h;obtain⟨_,rfl,rfl⟩:=h;have hr:=aL false;simp only[kn,z7]at hr;exact⟨iV hR (v:=z) (by simp[execOp,bN,hr]) (zV hz),rfl⟩
   .simp at h
  .simp at h
 ·-- mapUpdate
  rename_i t x i y bN;split at h
  .rename_i k v ht;split at h
   .rename_i b ys q z u' hm hd;simp only[j4,Act.val.injEq]at h;obtain⟨_,rfl,rfl⟩:=h;obtain⟨w',S',aL,dn⟩:=Y8 hT hR ml ht hm (iW (er hR aU x)) (iW (er hR aU i)) bC hd (er hR aU y);exact⟨⟨undef,w',S',γ,.inr ⟨by simp[execOp,bN,aL],rfl⟩,dn,⟨trivial,λh=>absurd rfl h⟩⟩,rfl⟩
   .simp at h
  .simp at h
 ·-- extract
  rename_i x i bN;split at h
  .rename_i l hl;split at h
   .rename_i c hc;simp only[j4,Act.cel,Act.val.injEq]at h;obtain⟨_,rfl,rfl⟩:=h;have hx:=pt hR x;rw[hl]at hx;obtain⟨vs,hu,ar⟩:=hx;obtain⟨z,hz,ik⟩:=ar.get i c hc;refine⟨iV hR (v:=z) ?_ ik,rfl⟩;have CF:vs[i]? = some z:=by simpa using hz
    simp[execOp,bN,hu,Instr.extract,CF]
   .simp at h
  .simp at h
 ·-- call
  rename_i cl bN;have dh:=Fu hR aU cl.args.toList;split at h
  ·-- len
   rename_i dz;split at h
   .rename_i x t fW nO;split at h
    .rename_i ti ht;unfold lY at h;split at h
     .rename_i c hc;simp only[j4,Act.leaf,Act.val.injEq]at h;obtain⟨_,rfl,rfl⟩:=h;obtain⟨z,hz,hl,h1⟩:=Yg (ty:=o.type) hT hR aT ht hc (iW (er hR aU x));have e1:cl.args = #[x]:=by apply qo;simpa using fW
      have e2:cl.argTypes = #[t]:=by apply qo;simpa using nO
      refine⟨uM hR (v:=z) ?_ hl h1,rfl⟩;simp[execOp,bN,resolve,dz,invoke,builtin,e1,e2,hz]
     .simp at h
    .simp at h
   .simp at h
  ·-- min
   rename_i dz;unfold lY at h;split at h
   .rename_i c hc;simp only[j4,Act.leaf,Act.val.injEq]at h;obtain⟨_,rfl,rfl⟩:=h;obtain⟨z,hz,hl,h1⟩:=X2 (P:=P) (ts:=cl.argTypes) (ty:=o.type) hc dh;refine⟨uM hR (v:=z) ?_ hl h1,rfl⟩;have e1:cl.args.map a.eval=(cl.args.toList.map a.eval).toArray:=by apply qo;simp
    simp[execOp,bN,resolve,dz,invoke,builtin,e1,hz]
   .simp at h
  ·-- max
   rename_i dz;unfold lY at h;split at h
   .rename_i c hc;simp only[j4,Act.leaf,Act.val.injEq]at h;obtain⟨_,rfl,rfl⟩:=h;obtain⟨z,hz,hl,h1⟩:=X3 (P:=P) (ts:=cl.argTypes) (ty:=o.type) hc dh;refine⟨uM hR (v:=z) ?_ hl h1,rfl⟩;have e1:cl.args.map a.eval=(cl.args.toList.map a.eval).toArray:=by apply qo;simp
    simp[execOp,bN,resolve,dz,invoke,builtin,e1,hz]
   .simp at h
  ·-- append
   rename_i dz;split at h
   .rename_i t t' s' x nO fW;split at h
    .rename_i xg;subst xg;split at h
     .rename_i ti ht;split at h
      .rename_i el bB;split at h
       .rename_i xs frz u' ys hs hx;split at h
        .rename_i aY;simp only[j4,Act.val.injEq,jo]at h;obtain⟨eH,rfl,rfl⟩:=h;obtain⟨v',w',S',γ',aL,dn,cU⟩:=Yt (ty:=o.type) hT hR aT bC ht bB hs hx (aT.free aY) eH (iW (er hR aU s')) (iW (er hR aU x));have e1:cl.args = #[s',x]:=by apply qo;simpa using fW
         have e2:cl.argTypes = #[t,t]:=by apply qo;simpa using nO
         refine⟨⟨v',w',S',γ',.inl ?_,dn,cU⟩,rfl⟩;simp[execOp,bN,resolve,dz,invoke,builtin,e1,e2,aL]
        .simp at h
       .simp at h
      .simp at h
     .simp at h
    .simp at h
   .simp at h
  ·-- value
   split at h
   .split at h
    .split at h
     .simp at h
     .simp at h
    .simp at h
   .split at h
    .split at h
     .simp at h
     .simp at h
    .simp at h
   .simp at h
  ·-- copy
   rename_i dz;split at h
   .rename_i t t' x y nO fW;split at h
    .rename_i xg;subst xg;split at h
     .rename_i ti ht;split at h
      .rename_i c u' hc;simp only[j4,Act.val.injEq]at h;obtain⟨_,rfl,rfl⟩:=h;obtain⟨v',w',aL,dn,cU⟩:=YF (ty:=o.type) hT hR aT ht hc (iW (er hR aU x)) (iW (er hR aU y));have e1:cl.args = #[x,y]:=by apply qo;simpa using fW
       have e2:cl.argTypes = #[t,t]:=by apply qo;simpa using nO
       refine⟨⟨v',w',S,γ,.inl ?_,dn,cU⟩,rfl⟩;simp[execOp,bN,resolve,dz,invoke,builtin,e1,e2,aL]
      .simp at h
     .simp at h
    .simp at h
   .simp at h
  ·-- clear
   rename_i dz;split at h
   .rename_i t x nO fW;split at h
    .rename_i ti ht;split at h
     .rename_i u' hc;simp only[j4,Act.val.injEq]at h;obtain⟨_,rfl,rfl⟩:=h;obtain⟨v',w',aL,dn⟩:=YG (ty:=o.type) hT hR aT ht hc (iW (er hR aU x));have e1:cl.args = #[x]:=by apply qo;simpa using fW
      have e2:cl.argTypes = #[t]:=by apply qo;simpa using nO
      refine⟨⟨v',w',S,γ,.inl ?_,dn,⟨trivial,λh=>absurd rfl h⟩⟩,rfl⟩;simp[execOp,bN,resolve,dz,invoke,builtin,e1,e2,aL]
     .simp at h
    .simp at h
   .simp at h
  .simp at h
 ·-- slice
  rename_i t x lo hi bN;split at h
  .rename_i ti ht;split at h
   .rename_i b c u' hc;simp only[j4,Act.val.injEq]at h;obtain⟨rfl,rfl,rfl⟩:=h
    have ho:∀y:Option Operand,ORep (bO S w γ σ.bx) (y.map λx=>lf ((σ.ev x).cel act)) (y.map a.eval):=by
     intro y;cases y with
     |none=>trivial
     |some y=>exact iW (er hR aU y)
    obtain⟨v',S',γ',aL,dn,cU⟩:=YB hT hR aT ht (λk hk=>aT.free hk) hc (iW (er hR aU x)) (ho lo) (ho hi);refine⟨⟨v',w,S',γ',.inl ?_,dn,cU⟩,rfl⟩;simp[execOp,bN,aL]
   .simp at h
  .simp at h
 .simp at h
theorem P9{P:Program}{E:Env}(hR:Rel N E.np S0 w0 refs σ a w S γ){act:List (Nat×Bool)}(aU:px (tm a) act){rw:Nat->BS}(ml:RdR σ rw)
  {o:Oper}{f:Nat}{args:List Arg}{mk:Ret->Option (Slot×Ups)}(h:dq E σ.ev rw act o=some (.call f args mk))(hf:Fun P f){K:Ret->Prop}(eN:Fl P f args K) :
  ∃vals,(execOp a.eval o).run P w = .ok (.enter f vals) w/\
   (Calls P f vals w λe w'=>∃ret,K ret/\∀s u,mk ret=some (s,u)->∃v S' γ',e = .returned v/\Rel N E.np S0 w0 refs (σ.upd u) a w' S' γ'/\gF S' w' γ' (σ.upd u).bx (tm a) s v)/\
   ∀ret s u,mk ret=some (s,u)->s.bare=true:=by
 have aT:RdOk σ (mskM rw):=ml.msk;have bC:=CD (np:=E.np) aT;unfold dq at h;dsimp only at h;split at h
 case h_23 cl bN=>
  have dh:=Fu hR aU cl.args.toList;split at h
  case h_5 x dz=>
   split at h
   .rename_i g caps hl;split at h
    .rename_i as us fs has;split at h
     .rename_i bH;simp only[j4,Act.call.injEq]at h;obtain⟨rfl,rfl,rfl⟩:=h;have hx:=er hR aU x;rw[xe hl (by simp)]at hx;obtain⟨cv,hu,rI⟩:=hx.1;refine⟨_,PY hf bN dz hu,?_,?_⟩
      .have:=PX hR ml aT bC has dh bH rI eN ((o.dst.getD 0)*64);have e1:(cl.args.toList.map a.eval++cv.toList).toArray=cl.args.map a.eval++cv:=by apply qo;simp
       rwa[e1]at this
      .intro ret s u bG;unfold sb at bG;split at bG
       .unfold mkHd at bG;split at bG
        .split at bG
         .split at bG
          .simp only[j4,j8]at bG;rw[<-bG.1];rfl
          .simp at bG
         .simp at bG
        .simp at bG
       split at bG
       .split at bG
        .split at bG
         .revert bG;dsimp only;split<;>(intro bG;simp only[j4,j8]at bG;rw[<-bG.1];rfl)
         .simp at bG
        .simp at bG
       .simp at bG
     .simp at h
    .simp at h
   .rename_i g ks hl;split at h
    .rename_i as us fs has;split at h
     .rename_i bH;simp only[j4,Act.call.injEq]at h;obtain⟨rfl,rfl,rfl⟩:=h;have hx:=er hR aU x;rw[xe hl (by simp)]at hx;obtain⟨cv,hu,rI⟩:=hx.1;refine⟨_,PY hf bN dz hu,?_,?_⟩
      .have:=PX hR ml aT bC has (dh.append (PI rI)) bH (caps:=[]) (cv:=[]) trivial (by simpa using eN) ((o.dst.getD 0)*64);have e1:((cl.args.toList.map a.eval++cv.toList)++[]).toArray=cl.args.map a.eval++cv:=by apply qo;simp
       rwa[e1]at this
      .intro ret s u bG;unfold sb at bG;split at bG
       .unfold mkHd at bG;split at bG
        .split at bG
         .split at bG
          .simp only[j4,j8]at bG;rw[<-bG.1];rfl
          .simp at bG
         .simp at bG
        .simp at bG
       split at bG
       .split at bG
        .split at bG
         .revert bG;dsimp only;split<;>(intro bG;simp only[j4,j8]at bG;rw[<-bG.1];rfl)
         .simp at bG
        .simp at bG
       .simp at bG
     .simp at h
    .simp at h
   .simp at h
  all_goals (first|(simp at h;done)|skip)
  all_goals (exfalso;revert h;try simp only[lY])
  all_goals (repeat' split)
  all_goals simp[Act.leaf]
 all_goals (first|(simp at h;done)|skip)
 all_goals (repeat' (first|(simp at h;done)|split at h))<;>simp_all[lY,oCel,oChk,Act.leaf,Act.cel]
 all_goals (repeat' (split at h))<;>simp_all
end
end Go.Lft
