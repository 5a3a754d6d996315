/- New variables; BG Mp variables. -/
import Derived.Test.YtbpjdcbbmibehaaZELA
import Derived.MapKept
set_option linter.unusedVariables false
namespace Go.Lft
section
variable{N:NT}{np:Nat}{S0:an}{w0:World}{refs:Refs}{σ:St}{a:Go.Act}{w:World}{S:an}{γ:Nat->Value}
def gset(γ:Nat->Value)(n:Nat)(v:Value):Nat->Value:=λk=>if k=n then v else γ k
theorem cT(γ:Nat->Value)(n:Nat)(v:Value):gset γ n v n=v:=by simp[gset]
theorem dn(γ:Nat->Value){n k:Nat}(v:Value)(h:k≠n):gset γ n v k=γ k:=by simp[gset,h]
theorem tM(hR:Rel N np S0 w0 refs σ a w S γ)(o:Obj):cm S w S (w.alloc o):=
 λg i h=>⟨h,World.cell?_alloc_lt w o ⟨g,i,none⟩ (hR.here g i h)⟩
theorem fj{bx:Nat->BS}{k:Nat}{b:Bx}(h:cP S w γ bx k b){g:Nat}(hg:blk (γ k)=some g):g<w.heap.size:=by
 cases b with
 |cell ls frz=>obtain⟨g',cur,e,h1,h2,_⟩:=h;rw[h1]at hg;simp[blk]at hg;subst hg;exact(jb.1 h2).1
 |lst e t xs frz=>exact h.1.lt hg
 |arr n t xs=>obtain⟨g',cur,e,h1,h2,_⟩:=h;rw[h1]at hg;simp[blk]at hg;subst hg;exact(jb.1 h2).1
theorem BH(hR:Rel N np S0 w0 refs σ a w S γ){n:Nat}(hn:σ.bx n = .free){o:Obj}{b:Bx}{v:Value}(hv:∀g,blk v=some g->g=w.heap.size)
  (hb:BxLe γ σ.bx (gset γ n v) (σ.setB n (.live b)).bx->cP S (w.alloc o) (gset γ n v) (σ.setB n (.live b)).bx n b) :
  Rel N np S0 w0 refs (σ.setB n (.live b)) a (w.alloc o) S (gset γ n v)/\BxLe γ σ.bx (gset γ n v) (σ.setB n (.live b)).bx:=by
 have hle:BxLe γ σ.bx (gset γ n v) (σ.setB n (.live b)).bx:=by
  intro k hk;have aG:k≠n:=by rintro rfl;exact hk hn
  rw[bu σ _ aG,dn γ v aG];exact⟨hk,rfl,λb hb=>⟨b,hb,.refl b⟩⟩
 have al:=tM hR o
 refine⟨Rel.step (bx':=(σ.setB n (.live b)).bx) hR al hle ?_ ?_ ?_ hR.new ?_ ?_ ?_ hR.os hR.tape hR.output (λg hg _ h=>⟨heap_alloc_old w o hg,λk b' aj bH=>by
  by_cases hk:k=n
  .subst hk;rw[cT]at bH;have:=hv g bH;omega
  .rw[bu σ _ hk]at aj;rw[dn γ v hk]at bH;exact h k b' aj bH⟩),hle⟩
 .intro k b' aj;by_cases hk:k=n
  .subst hk;rw[c9]at aj;simp at aj;subst aj;exact hb hle
  .rw[bu σ _ hk]at aj;refine cP.keep al hle (dn γ v hk) (λg hg=>⟨?_,λ_=>Iff.rfl⟩) (hR.box k b' aj);exact heap_alloc_old w o (fj (hR.box k b' aj) hg)
 .intro k b' g aj hg;by_cases hk:k=n
  .subst hk;rw[cT]at hg;exact .inl (.inl (by rw[hv g hg];exact hR.grow))
  .rw[bu σ _ hk]at aj;rw[dn γ v hk]at hg;exact hR.own k b' g aj hg
 .intro k k' b1 b2 g aG h1 h2 hg ae;by_cases hk:k=n
  .subst hk;have aS:k'≠k:=λh=>aG h.symm;rw[cT]at hg;rw[bu σ _ aS]at h2;rw[dn γ v aS]at ae;have:=fj (hR.box k' b2 h2) ae;rw[hv g hg]at this;omega
  .by_cases aS:k'=n
   .subst aS;rw[cT]at ae;rw[bu σ _ hk]at h1;rw[dn γ v hk]at hg;have:=fj (hR.box k b1 h1) hg;rw[hv g ae]at this;omega
   .rw[bu σ _ hk]at h1;rw[bu σ _ aS]at h2;rw[dn γ v hk]at hg;rw[dn γ v aS]at ae;exact hR.apart k k' b1 b2 g aG h1 h2 hg ae
 .intro g i h;have:=hR.here g i h;simp;omega
 .intro g hg hr;rw[heap_alloc_old w o (by have:=hR.grow;omega)];exact hR.below g hg hr
 .have:=hR.grow;simp;omega
theorem vA(hR:Rel N np S0 w0 refs σ a w S γ)(o:Nat):¬S w.heap.size o:=λh=>by have:=hR.here _ _ h;omega
theorem yz(hR:Rel N np S0 w0 refs σ a w S γ){n:Nat}(hn:σ.bx n = .free){ls:List Leaf}{cur:Array Value}{e:TypeId}
  (hl:All2 (aL S w γ σ.bx) ls cur.toList)(h1:∀u∈cur.toList,One u) :
  Rel N np S0 w0 refs (σ.setB n (.live (.cell ls false))) a (w.alloc (.cells cur e)) S (gset γ n (.pointer (some ⟨w.heap.size,0,none⟩)))/\
   aQ S (w.alloc (.cells cur e)) (gset γ n (.pointer (some ⟨w.heap.size,0,none⟩))) (σ.setB n (.live (.cell ls false))).bx (.one (.bp n 0)) (.pointer (some ⟨w.heap.size,0,none⟩)):=by
 obtain⟨h,hle⟩:=BH hR hn (o:= .cells cur e) (b:= .cell ls false) (v:= .pointer (some ⟨w.heap.size,0,none⟩)) (λg hg=>by simp[blk]at hg;exact hg.symm) (λhle=>
  ⟨w.heap.size,cur,e,cT _ _ _,heap_alloc_new w _,by rw[List.take_of_length_le (Nat.le_of_eq hl.length.symm)];exact hl.mono (λx u hx=>aL.keep (tM hR _) hle hx),λu hu=>h1 u (kr hu),λ_ o=>vA hR o,by simp⟩)
 refine⟨h,⟨by rw[c9];simp,rfl,λb _=>⟨w.heap.size,cT _ _ _,rfl⟩⟩,λ_=>rfl⟩
theorem Gj(hR:Rel N np S0 w0 refs σ a w S γ){n m:Nat}(hn:σ.bx n = .free){t:Ty}{xs:List t.den}{cur:Array Value}{e:TypeId}
  (hl:Rep S w (.arr m t) xs cur.toList) :
  Rel N np S0 w0 refs (σ.setB n (.live (.arr m t xs))) a (w.alloc (.cells cur e)) S (gset γ n (.pointer (some ⟨w.heap.size,0,none⟩)))/\
   aQ S (w.alloc (.cells cur e)) (gset γ n (.pointer (some ⟨w.heap.size,0,none⟩))) (σ.setB n (.live (.arr m t xs))).bx (.one (.bp n 0)) (.pointer (some ⟨w.heap.size,0,none⟩)):=by
 obtain⟨h,hle⟩:=BH hR hn (o:= .cells cur e) (b:= .arr m t xs) (v:= .pointer (some ⟨w.heap.size,0,none⟩)) (λg hg=>by simp[blk]at hg;exact hg.symm) (λ_=>
  ⟨w.heap.size,cur,e,cT _ _ _,heap_alloc_new w _,Rep.keep (tM hR _) _ _ _ hl,λo=>vA hR o⟩)
 refine⟨h,⟨by rw[c9];simp,rfl,λb _=>⟨w.heap.size,cT _ _ _,rfl⟩⟩,λ_=>rfl⟩
theorem pD{bx:Nat->BS}:∀(t:Ty),All2 (aL S w γ bx) (iQ t) (fI t)
 |.int _=>⟨rfl,trivial⟩
 |.bool=>⟨rfl,trivial⟩
 |.str=>⟨rfl,trivial⟩
 |.unit=>trivial
 |.wrap a=>pD a
 |.pair a b=>(pD a).append (pD b)
 |.list _=>⟨rfl,trivial⟩
 |.arr n a=>by
  show All2 _ ((List.range n).flatMap λ_=>iQ a) ((List.replicate n (fI a)).flatten);induction n with
  |zero=>simp[All2]
  |succ n ih=>rw[List.range_succ,List.flatMap_append,List.replicate_succ',zc];refine ih.append ?_;simpa using pD a
theorem la:∀(t:Ty),Rep S w t t.dflt (fI t)
 |.int _=>rfl
 |.bool=>rfl
 |.str=>rfl
 |.unit=>rfl
 |.wrap a=>la a
 |.pair a b=>⟨_,_,rfl,la a,la b⟩
 |.list _=>⟨none,0,rfl,jm _,by simp[maxLen],λ_=>rfl,λb hb=>by simp at hb⟩
 |.arr n a=>by
  refine⟨List.length_replicate,List.replicate n (fI a),?_,rfl⟩;have hz:=la a
  have:∀n,All2 (λx c=>Rep S w a x c) (List.replicate n a.dflt) (List.replicate n (fI a)):=by
   intro n;induction n with
   |zero=>exact trivial
   |succ n ih=>exact⟨hz,ih⟩
  exact this n
theorem vB(hR:Rel N np S0 w0 refs σ a w S γ){k:Nat}{b b':Bx}(hk:σ.bx k = .live b){g:Nat}(hg:blk (γ k)=some g)(hS:∀o,¬S g o)(pw:fg b b')
  {old new:Array Value}{e:TypeId}(hh:w.heap[g]? = some (.cells old e (0,0)))
  (hb:BxLe γ σ.bx γ (σ.setB k (.live b')).bx->cm S w S (w.setRow g new)->cP S (w.setRow g new) γ (σ.setB k (.live b')).bx k b') :
  Rel N np S0 w0 refs (σ.setB k (.live b')) a (w.setRow g new) S γ:=by
 have hle:BxLe γ σ.bx γ (σ.setB k (.live b')).bx:=by
  intro k' aS;by_cases ba:k'=k
  .subst ba;rw[c9];exact⟨by simp,rfl,λb1 cb=>by simp at cb;subst cb;exact⟨b,hk,pw⟩⟩
  .rw[bu σ _ ba];exact⟨aS,rfl,λb hb=>⟨b,hb,.refl b⟩⟩
 have al:cm S w S (w.setRow g new):=by
  intro g' o h;refine⟨h,cell_setRow_other w g new ⟨g',o,none⟩ ?_⟩
  rintro rfl
  exact hS o h
 have aO:∀k' b1,(σ.setB k (.live b')).bx k' = .live b1->∃b2,σ.bx k' = .live b2:=by
  intro k' b1 h1;by_cases ba:k'=k
  .subst ba;exact⟨b,hk⟩
  .rw[bu σ _ ba]at h1;exact⟨b1,h1⟩
 have ax:=(jb.1 hh).1
 refine Rel.step (bx':=(σ.setB k (.live b')).bx) hR al hle ?_ ?_ ?_ hR.new ?_ ?_ ?_ hR.os hR.tape hR.output (λg' _ _ h=>⟨setRow_other w g g' new (λe=>h k b hk (e▸hg)),λk' b1 h1=>by
  obtain⟨b2,h2⟩:=aO k' b1 h1;exact h k' b2 h2⟩)
 .intro k' b1 h1;by_cases ba:k'=k
  .subst ba;rw[c9]at h1;simp at h1;subst h1;exact hb hle al
  .rw[bu σ _ ba]at h1;refine cP.keep al hle rfl (λg' ae=>⟨?_,λ_=>Iff.rfl⟩) (hR.box k' b1 h1);exact setRow_other w g g' new (λh=>hR.apart k' k b1 b g ba h1 hk (h▸ae) hg)
 .intro k' b1 g' h1 ae;obtain⟨b2,h2⟩:=aO k' b1 h1;exact hR.own k' b2 g' h2 ae
 .intro k1 k2 b1 b2 g' aG h1 h2 ae;obtain⟨nT,gO⟩:=aO k1 b1 h1;obtain⟨nU,fX⟩:=aO k2 b2 h2;exact hR.apart k1 k2 nT nU g' aG gO fX ae
 .intro g' o h;rw[size_setRow];exact hR.here g' o h
 .intro g' ae hr;rw[setRow_other w g g' new ?_]
  .exact hR.below g' ae hr
  .rintro rfl
   rcases hR.own k b _ hk hg with h|h
   .exact h.no (by omega) hr
   .exact hr h.1
 .rw[size_setRow];exact hR.grow
theorem yA{R:Leaf->Value->Prop}{ls new:List Leaf}{cs zs:List Value}{c:Nat}(h:All2 R ls cs)(h':All2 R new zs) :
  All2 R (lv ls c new) (cs.take c++zs++cs.drop (c+zs.length)):=by
 unfold lv;rw[h'.length];exact((h.take c).append h').append (h.drop _)
theorem Gk{X zs:List Value}{c n:Nat}(h:c+zs.length<=n)(h':n<=X.length):(X.take c++zs++X.drop (c+zs.length)).take n=(X.take n).take c++zs++(X.take n).drop (c+zs.length):=by
 have e1:(X.take n).take c=X.take c:=by rw[List.take_take,Nat.min_eq_left (by omega)]
 have e2:(X.take c++zs).length=c+zs.length:=by simp;omega
 rw[e1,List.take_append,List.take_of_length_le (by rw[e2];exact h),e2,List.drop_take]
theorem tN{bx:Nat->BS}{c:Cel}{ls:List Leaf}{z:Value}(h:c.leaves=some ls)(hc:aQ S w γ bx c z) :
  All2 (aL S w γ bx) ls z.cells.toList/\∀u∈z.cells.toList,One u:=by
 unfold Cel.leaves at h;split at h
 .simp at h
 .rename_i l hd;simp at h;subst h;have h1:=hc.2 hd;rw[tL h1];exact⟨⟨hc.1,trivial⟩,λu hu=>by simp at hu;subst hu;exact h1⟩
 .simp at h;subst h;obtain⟨cs,rfl,ha,h1⟩:=hc;exact⟨ha,h1⟩
 .simp at h
end
theorem rM{m:Nat}:∀{l:List (List Value)},(∀c∈l,c.length=m)->l.flatten.length=l.length*m
 |[],_=>by simp
 |c::l,h=>by
  have h1:=h c (by simp);have h2:=rM (l:=l) (λd hd=>h d (z9 _ hd));simp only[km,ja,jn,Nat.add_mul,Nat.one_mul];omega
section
variable{N:NT}{np:Nat}{S0:an}{w0:World}{refs:Refs}{σ:St}{a:Go.Act}{w:World}{S:an}{γ:Nat->Value}
theorem fZ:∀(u:Ups)(σ:St){k:Nat},u.any (λy=>y.1==k)=false->(σ.upd u).bx k=σ.bx k
 |[],_,_,_=>rfl
 |e::u,σ,k,h=>by
  simp only[List.any_cons,Bool.or_eq_false_iff,beq_eq_false_iff_ne]at h;show ((σ.setB e.1 e.2).upd u).bx k=_;rw[fZ u _ h.2,bu σ _ (λhh=>h.1 hh.symm)]
theorem All2.all_len{t:Ty}{xs:List t.den}{css:List (List Value)}(h:All2 (λx c=>Rep S w t x c) xs css):∀c∈css,c.length=t.size:=by
 intro c hc;obtain⟨x,_,hx⟩:=h.mem_right c hc;exact Rep.length _ _ _ hx
theorem BI{cur:List Value}{css:List (List Value)}{m n i c:Nat}{ci zs:List Value}(hm:∀c∈css,c.length=m)(hn:css.length=n)(bT:cur.take (n*m)=css.flatten)
  (hi:css[i]? = some ci)(hc:c+zs.length<=m) :
  (cur.take (i*m+c)++zs++cur.drop (i*m+c+zs.length)).take (n*m)=(css.set i (ci.take c++zs++ci.drop (c+zs.length))).flatten:=by
 have ax:i<css.length:=(jk.1 hi).1;have iw:css[i]=ci:=(jk.1 hi).2;have dm:ci.length=m:=hm ci (jv hi);obtain⟨A,B,hA,hB,yB⟩:∃A B:List (List Value),A.length=i/\A.length+1+B.length=n/\css=A++ci::B:=by refine⟨css.take i,css.drop (i+1),by simp;omega,by simp;omega,?_⟩;rw[<-iw,List.getElem_cons_drop ax,jy]
 have Mq:∀c∈A,c.length=m:=λd hd=>hm d (by rw[yB];simp[hd]);have Mr:∀c∈B,c.length=m:=λd hd=>hm d (by rw[yB];simp[hd]);have lA:A.flatten.length=i*m:=by rw[rM Mq,hA]
 have lB:=rM Mr;have gP:css.set i (ci.take c++zs++ci.drop (c+zs.length))=A++(ci.take c++zs++ci.drop (c+zs.length))::B:=by rw[yB,List.set_append_right _ _ (by omega),hA,Nat.sub_self,List.set_cons_zero]
 have vC:cur=A.flatten++(ci++(B.flatten++cur.drop (n*m))):=by have:=jy (n*m) cur;rw[bT,yB,zc,km]at this;rw[<-jd ci,<-jd];exact this.symm
 have bW:ci=ci.take c++((ci.drop c).take zs.length++ci.drop (c+zs.length)):=by have h1:=jy c ci;have h2:=jy zs.length (ci.drop c);rw[zb]at h2;rw[h2,h1]
 have lp:(ci.take c).length=c:=by simp;omega
 have lq:((ci.drop c).take zs.length).length=zs.length:=by simp;omega
 have lr:(ci.drop (c+zs.length)).length=m-(c+zs.length):=by simp[dm]
 generalize ci.take c=p at *
 generalize (ci.drop c).take zs.length=q at *
 generalize ci.drop (c+zs.length)=r at *
 generalize cur.drop (n*m)=tl at *
 have e1:cur.take (i*m+c)=A.flatten++p:=by rw[vC,bW];simp only[<-jd];rw[jd,jd,jd];exact ze (by simp[lA,lp])
 have e2:cur.drop (i*m+c+zs.length)=r++(B.flatten++tl):=by
  rw[vC,bW];have:A.flatten++(p++(q++r)++(B.flatten++tl))=(A.flatten++p++q)++(r++(B.flatten++tl)):=by simp
  rw[this];exact List.drop_left' (by simp[lA,lp,lq];omega)
 rw[e1,e2,gP,zc,km];have:A.flatten++p++zs++(r++(B.flatten++tl))=(A.flatten++(p++zs++r++B.flatten))++tl:=by simp
 rw[this];refine ze ?_;simp only[ja,lA,lp,lr,lB];have:n*m=i*m+m+B.length*m:=by rw[<-hB,hA,Nat.add_mul,Nat.add_mul,Nat.one_mul]
 omega
theorem yC{P:Program}{T:Nat->Option TyI}(hT:bt P T){t:TypeId}{ti:TyI}(ht:T t=some ti){g o:Nat}{z:Value}{cur:Array Value}{e:TypeId}
  (hh:w.heap[g]? = some (.cells cur e (0,0)))(hs:z.cells.toList.length=ti.size)(hl:o+z.cells.toList.length<=cur.size)(h1:∀u∈z.cells.toList,One u) :
  (Instr.storeAt t (.pointer (some ⟨g,o,none⟩)) z).run P w = .ok () (w.setRow g (cur.toList.take o++z.cells.toList++cur.toList.drop (o+z.cells.toList.length)).toArray):=by
 have al:=run_storeCells_at P g o e z.cells.toList 0 cur w hh (by simpa using hl) h1;simp only[zh]at al;have aG:¬z.cells.size≠ti.size:=by simpa using hs
 simp only[Instr.storeAt,Sem.run_bind,Instr.sureAddr,Sem.run_pure,Result.andThen_ok,storeVar,eO hT ht,Sem.run_ite,if_neg aG,al]
theorem Ms{P:Program}{E:Env}(hT:bt P E.T)(hR:Rel N np S0 w0 refs σ a w S γ){rd rdf:Nat->BS}(aq:RdOk σ rd)(aE:RdF np σ rdf){t:TypeId}{ti:TyI}(ht:E.T t=some ti)
  {x:Leaf}{val:Cel}{u:Ups}{ux z:Value}(h:o7 rd rdf ti.size val x=some u)(hx:aL S w γ σ.bx x ux)(hz:aQ S w γ σ.bx val z) :
  ∃w' S',(Instr.storeAt t ux z).run P w = .ok () w'/\Rel N np S0 w0 refs (σ.upd u) a w' S' γ:=by
 unfold o7 at h;split at h
 .rename_i k c;split at h
  .rename_i ls hk;have hk:=aq.live hk;split at h
   .rename_i new cR;split at h
    .rename_i hc;simp only[j3]at h;subst h;obtain⟨bb,hle⟩:=hc;obtain⟨ha,h1⟩:=tN cR hz;obtain⟨g,hg,hu⟩:=hx.2.2 _ hk;obtain⟨g',cur,e,ae,hh,bT,dP,hS,_⟩:=hR.box k _ hk;rw[hg]at ae;simp at ae;subst ae;subst hu;have hlen:=ha.length;have pE:=bT.length;simp at pE;refine⟨_,S,yC hT ht hh (by omega) (by simp at hlen ⊢;omega) h1,?_⟩;refine vB hR hk (by rw[hg];rfl) (hS rfl) (b':= .cell (lv ls c new) false) trivial hh (λhle al=>?_);refine⟨g,_,e,hg,setRow_heap w g cur _ e (0,0) hh,?_,?_,λ_=>hS rfl,by simp⟩
     .have:=yA (c:=c) (bT.mono (λx u hx=>aL.keep al hle hx)) (ha.mono (λx u hx=>aL.keep al hle hx));have dg:(lv ls c new).length=ls.length:=by simp[lv];omega
      rw[dg];have:=Gk (X:=cur.toList) (zs:=z.cells.toList) (c:=c) (n:=ls.length) (by omega) (by simp;omega);simp only[this];assumption
     .intro v hv;have dg:(lv ls c new).length=ls.length:=by simp[lv];omega
      rw[dg]at hv;have lJ:=Gk (X:=cur.toList) (zs:=z.cells.toList) (c:=c) (n:=ls.length) (by omega) (by simp;omega);simp only[lJ]at hv;simp only[jq]at hv;rcases hv with (hv|hv)|hv
      .exact dP v (kr hv)
      .exact h1 v hv
      .exact dP v (z8 hv)
    .simp at h
   .simp at h
  .rename_i n el xs hk;have hk:=aq.live hk;split at h
   .rename_i rN;subst rN;split at h
    .rename_i n' a' ys;split at h
     .rename_i Bb fi;split at h
      .rename_i bb;simp only[j3]at h;subst h;have nW:=gN fi;simp only[TV.mk.injEq,Ty.arr.injEq]at nW;obtain⟨⟨rfl,rfl⟩,nW⟩:=nW;obtain rfl:=eq_of_heq nW;obtain⟨cs,rfl,hr⟩:=hz;obtain⟨g,hg,hu⟩:=hx.2.2 _ hk;obtain⟨g',cur,e,ae,hh,aH,hS⟩:=hR.box k _ hk;rw[hg]at ae;simp at ae;subst ae;subst hu;have iX:=Rep.length _ _ _ hr;have vD:=Rep.length _ _ _ aH;have e1:(Value.agg cs).cells.toList=cs.toList:=rfl;refine⟨_,S,yC hT ht hh (by rw[e1,iX,bb];rfl) (by rw[e1,iX,<-vD];simp) (by rw[e1];exact Rep.one _ _ _ hr),?_⟩;refine vB hR hk (by rw[hg];rfl) hS (b':= .arr _ _ _) ⟨rfl,rfl⟩ hh (λhle al=>?_);refine⟨g,_,e,hg,setRow_heap w g cur _ e (0,0) hh,?_,hS⟩;have hd:cur.toList.drop (0+cs.toList.length)=[]:=jh (by rw[iX,vD];omega);have hX:(cur.toList.take 0++(Value.agg cs).cells.toList++cur.toList.drop (0+(Value.agg cs).cells.toList.length)).toArray.toList=cs.toList:=by rw[e1,hd];simp
       rw[hX];exact Rep.keep al _ _ _ hr
      .simp at h
     .simp at h
    .simp at h
   .simp at h
  .simp at h
 .rename_i k i c;split at h
  .rename_i el at_ xs hk;have bD:=aq.nm hk;have hk:=aq.live hk;split at h
   .rename_i new cR;split at h
    .rename_i hc;obtain⟨bb,hle⟩:=hc;split at h
     .rename_i en u1 BJ;split at h
      .simp at h
      .rename_i lK;simp only[j3]at h;subst h;obtain⟨ha,h1⟩:=tN cR hz;have hlen:=ha.length;have nX:z.cells.toList.length=z.cells.size:=kz;obtain⟨_,hi,g,cap,hg,hu⟩:=hx.2.2 _ hk;obtain⟨css,ao,ah,Mt⟩:=eN bD (hR.box k _ hk);rcases ao.2 with⟨_,h0⟩|⟨g',dX,cur,ae,cJ,hh,fh,fV,cp,ca⟩
       .omega
       rw[hg]at ae;simp at ae;obtain⟨rfl,rfl⟩:=ae;subst hu;obtain⟨ci,iw,aH,cj⟩:=rJ (λx c hx=>Rep.length at_ x c hx) ah i at_.dflt hi;have dm:=Rep.length _ _ _ aH;have bW:=yA (c:=c) (lF (jV at_ _ ci aH)) ha;obtain⟨hf,he,hp⟩:=rK aE hR.box at_ BJ bW;obtain⟨S1,aJ,bF,cM,ct⟩:=iW u1 σ S hR hf;have cZ:(σ.upd u1).bx k = .live (.lst el at_ xs false):=by rw[fZ u1 σ (qk.2 lK)];exact hk
       obtain⟨Mu,Gl,Gm,Gn⟩:=eN bD (aJ.box k _ cZ);have pF:∀o,¬S1 g o:=(Gn g (by rw[hg];rfl)).1 rfl;have Gp:i*at_.size+at_.size<=xs.length*at_.size:=by have:(i+1)*at_.size<=xs.length*at_.size:=k6 _ (by omega);rwa[zi]at this
       have yD:xs.length*at_.size<=cap*at_.size:=k6 _ fh;have iY:c+z.cells.toList.length<=at_.size:=by omega
       refine⟨_,S1,yC hT ht hh (by omega) (by rw[cp];omega) h1,?_⟩;rw[fJ];refine vB aJ cZ (by rw[hg];rfl) pF (b':= .lst el at_ (xs.set i en) false) ⟨rfl,rfl,λ_=>by simp⟩ hh (λdB bO=>?_);have lL:Rep S1 w at_ en (ci.take c++z.cells.toList++ci.drop (c+z.cells.toList.length)):=by have:=hp S1 w bF cM;rwa[List.take_of_length_le (by simp;omega)]at this
       refine vp bD ⟨css.set i (ci.take c++z.cells.toList++ci.drop (c+z.cells.toList.length)),⟨?_,.inr ⟨g,cap,_,?_,kf _,setRow_heap w g cur _ el (0,0) hh,by simpa using fh,fV,?_,?_⟩⟩,?_,λg' ae=>?_⟩
       .rw[rM (m:=at_.size)]
        .simp[ah.length]
        .intro d hd;rcases List.mem_or_eq_of_mem_set hd with hd|rfl
         .exact All2.all_len ah d hd
         .simp;omega
       .simpa using hg
       .simp only[zg,ja,qa,qw,kz];omega
       .simp only[qn];exact BI (All2.all_len ah) ah.length.symm ca iw iY
       .exact(ah.mono (λx c hx=>Rep.keep (bF.trans bO) _ _ _ hx)).set i _ _ (Rep.keep bO _ _ _ lL)
       .rw[hg]at ae;simp[blk]at ae;subst ae;exact⟨λ_=>pF,by simp⟩
     .simp at h
    .simp at h
   .simp at h
  .rename_i n at_ xs hk;have hk:=aq.live hk;split at h
   .rename_i new cR;split at h
    .rename_i hc;obtain⟨bb,hle⟩:=hc;split at h
     .rename_i en u1 BJ;split at h
      .simp at h
      .rename_i lK;simp only[j3]at h;subst h;obtain⟨ha,h1⟩:=tN cR hz;have hlen:=ha.length;have nX:z.cells.toList.length=z.cells.size:=kz;obtain⟨hi,g,hg,hu⟩:=hx.2.2 _ hk;obtain⟨g',cur,e,ae,hh,⟨hn,css,ah,bT⟩,hS⟩:=hR.box k _ hk;rw[hg]at ae;simp at ae;subst ae;subst hu;obtain⟨ci,iw,aH,cj⟩:=rJ (λx c hx=>Rep.length at_ x c hx) ah i at_.dflt (by omega);have dm:=Rep.length _ _ _ aH;have bW:=yA (c:=c) (lF (jV at_ _ ci aH)) ha;obtain⟨hf,he,hp⟩:=rK aE hR.box at_ BJ bW;obtain⟨S1,aJ,bF,cM,ct⟩:=iW u1 σ S hR hf;have cZ:(σ.upd u1).bx k = .live (.arr n at_ xs):=by rw[fZ u1 σ (qk.2 lK)];exact hk
       obtain⟨g1,Mv,e1,ga,hh1,_,pF⟩:=aJ.box k _ cZ;rw[hg]at ga;simp at ga;subst ga;have vE:cur.toList.length=n*at_.size:=by rw[bT,rM (All2.all_len ah),<-ah.length,hn]
       have Gp:i*at_.size+at_.size<=n*at_.size:=by have:(i+1)*at_.size<=n*at_.size:=k6 _ (by omega);rwa[zi]at this
       have iY:c+z.cells.toList.length<=at_.size:=by omega
       refine⟨_,S1,yC hT ht hh (by omega) (by rw[<-kz,vE];omega) h1,?_⟩;rw[fJ];refine vB aJ cZ (by rw[hg];rfl) pF (b':= .arr n at_ (xs.set i en)) ⟨rfl,rfl⟩ hh (λdB bO=>?_);have lL:Rep S1 w at_ en (ci.take c++z.cells.toList++ci.drop (c+z.cells.toList.length)):=by have:=hp S1 w bF cM;rwa[List.take_of_length_le (by simp;omega)]at this
       refine⟨g,_,e,hg,setRow_heap w g cur _ e (0,0) hh,⟨?_,css.set i (ci.take c++z.cells.toList++ci.drop (c+z.cells.toList.length)),?_,?_⟩,pF⟩
       .show List.length (List.set xs i en)=n;rw[qn];exact hn
       .exact(ah.mono (λx c hx=>Rep.keep (bF.trans bO) _ _ _ hx)).set i _ _ (Rep.keep bO _ _ _ lL)
       .have yE:=BI (cur:=cur.toList) (n:=n) (zs:=z.cells.toList) (All2.all_len ah) (by rw[<-ah.length,hn]) (by rw[<-vE,List.take_length,bT]) iw iY;rw[<-yE];symm;refine(List.take_of_length_le ?_).trans (by simp);simp only[ja,qa,qw];omega
     .simp at h
    .simp at h
   .simp at h
  .simp at h
 .simp at h
end
theorem pG{m:Nat}:∀{l:List (List Value)}(i:Nat),(∀c∈l,c.length=m)->(l.take i).flatten=l.flatten.take (i*m)
 |[],i,_=>by simp
 |c::l,0,_=>by simp
 |c::l,i+1,h=>by
  have hc:=h c (by simp);have ih:=pG (l:=l) i (λd hd=>h d (by simp[hd]));rw[List.take_succ_cons,km,ih,km,zi,Nat.add_comm,List.take_append,hc];rw[List.take_of_length_le (l:=c) (by omega),show m+i*m-m=i*m by omega]
theorem vF{m:Nat}:∀{l:List (List Value)}(i:Nat),(∀c∈l,c.length=m)->(l.drop i).flatten=l.flatten.drop (i*m)
 |[],i,_=>by simp
 |c::l,0,_=>by simp
 |c::l,i+1,h=>by
  have hc:=h c (by simp);have ih:=vF (l:=l) i (λd hd=>h d (by simp[hd]));rw[List.drop_succ_cons,ih,km,zi,Nat.add_comm,List.drop_append,hc];rw[jh (l:=c) (by omega),js,show m+i*m-m=i*m by omega]
section
variable{N:NT}{np:Nat}{S0:an}{w0:World}{refs:Refs}{σ:St}{a:Go.Act}{w:World}{S:an}{γ:Nat->Value}
theorem yF(hR:Rel N np S0 w0 refs σ a w S γ){k:Nat}{b:Bx}(hk:σ.bx k = .live b):Rel N np S0 w0 refs (σ.setB k .gone) a w S γ:=by
 have hle:BxLe γ σ.bx γ (σ.setB k .gone).bx:=by
  intro k' aS;by_cases ba:k'=k
  .subst ba;rw[c9];exact⟨by simp,rfl,λb hb=>by simp at hb⟩
  .rw[bu σ _ ba];exact⟨aS,rfl,λb hb=>⟨b,hb,.refl b⟩⟩
 have aO:∀k' b1,(σ.setB k .gone).bx k' = .live b1->σ.bx k' = .live b1:=by
  intro k' b1 h1;by_cases ba:k'=k
  .subst ba;rw[c9]at h1;simp at h1
  .rwa[bu σ _ ba]at h1
 exact Rel.step (bx':=(σ.setB k .gone).bx) hR (.refl S w) hle (λk' b' h=>cP.keep (.refl S w) hle rfl (λ_ _=>⟨rfl,λ_=>Iff.rfl⟩) (hR.box k' b' (aO k' b' h)))
  (λk' b' g h=>hR.own k' b' g (aO k' b' h)) (λk1 k2 b1 b2 g aG h1 h2=>hR.apart k1 k2 b1 b2 g aG (aO _ _ h1) (aO _ _ h2)) hR.new hR.here hR.below hR.grow hR.os hR.tape hR.output
  (λg _ _ h=>⟨rfl,λk' b' aj=>h k' b' (aO k' b' aj)⟩)
theorem tO(hR:Rel N np S0 w0 refs σ a w S γ){d:Nat}(hd:σ.bx d = .free){w':World}{S':an}{v':Value}{e:Nat}(hm:isM e=false){el:Ty}{zs:List el.den}{frz:Bool}{css:List (List Value)}
  (al:cm S w S' w')(lM:∀g,g<w.heap.size->blk v'≠some g->w'.heap[g]? = w.heap[g]?)(bb:w.heap.size<=w'.heap.size)
  (hv:∀g,blk v'=some g->Own w0 refs g/\(∀k b,σ.bx k = .live b->blk (γ k)≠some g)/\g<w'.heap.size)
  (hS:∀g o,S' g o->S g o\/blk v'=some g)(os:w'.os=w.os)(tape:w'.tape=w.tape)(output:w'.output=w.output)
  (bk:w'.ownsRow 0 e el.size v' zs.length css.flatten)(ah:All2 (λx c=>Rep S' w' el x c) zs css)
  (BK:∀g,blk v'=some g->(frz=false->∀o,¬S' g o)/\(frz=true->∀o,S' g o↔o<zs.length*el.size))(yG:∀g,blk v'=some g->refs.kw g=none) :
  Rel N np S0 w0 refs (σ.setB d (.live (.lst e el zs frz))) a w' S' (gset γ d v')/\
   aQ S' w' (gset γ d v') (σ.setB d (.live (.lst e el zs frz))).bx (.one (.ol d)) v':=by
 have hle:BxLe γ σ.bx (gset γ d v') (σ.setB d (.live (.lst e el zs frz))).bx:=by
  intro k hk;have aG:k≠d:=by rintro rfl;exact hk hd
  rw[bu σ _ aG,dn γ v' aG];exact⟨hk,rfl,λb hb=>⟨b,hb,.refl b⟩⟩
 have bN:One v':=by rcases bk.2 with⟨rfl,_⟩|⟨g,cap,cur,rfl,_⟩<;>rfl
 refine⟨Rel.step (bx':=(σ.setB d (.live (.lst e el zs frz))).bx) hR al hle ?_ ?_ ?_ ?_ ?_ ?_ (qg hR.grow bb) (os.trans hR.os) (tape.trans hR.tape) (output.trans hR.output) (λg hg ix h=>⟨lM g hg (λhh=>ix (yG g hh)),λk b' aj bH=>by
  by_cases hk:k=d
  .subst hk;rw[cT]at bH;exact ix (yG g bH)
  .rw[bu σ _ hk]at aj;rw[dn γ v' hk]at bH;exact h k b' aj bH⟩),?_⟩
 .intro k b hb;by_cases hk:k=d
  .subst hk;rw[c9]at hb;simp at hb;subst hb;refine vp hm ⟨css,by rw[cT];exact bk,ah,λg hg=>?_⟩;rw[cT]at hg;exact BK g hg
  .rw[bu σ _ hk]at hb;refine cP.keep al hle (dn γ v' hk) (λg hg=>?_) (hR.box k b hb);have mY:=fj (hR.box k b hb) hg;have aG:blk v'≠some g:=λhh=>(hv g hh).2.1 k b hb hg;exact⟨lM g mY aG,λo=>⟨λhs=>(hS g o hs).resolve_right aG,λhs=>(al g o hs).1⟩⟩
 .intro k b g hb hg;by_cases hk:k=d
  .subst hk;rw[cT]at hg;exact .inl (hv g hg).1
  .rw[bu σ _ hk]at hb;rw[dn γ v' hk]at hg;exact hR.own k b g hb hg
 .intro k k' b1 b2 g aG h1 h2 hg ae;by_cases hk:k=d
  .subst hk;have aS:k'≠k:=λh=>aG h.symm;rw[cT]at hg;rw[bu σ _ aS]at h2;rw[dn γ v' aS]at ae;exact(hv g hg).2.1 k' b2 h2 ae
  .by_cases aS:k'=d
   .subst aS;rw[cT]at ae;rw[bu σ _ hk]at h1;rw[dn γ v' hk]at hg;exact(hv g ae).2.1 k b1 h1 hg
   .rw[bu σ _ hk]at h1;rw[bu σ _ aS]at h2;rw[dn γ v' hk]at hg;rw[dn γ v' aS]at ae;exact hR.apart k k' b1 b2 g aG h1 h2 hg ae
 .intro g o hs;rcases hS g o hs with hs|hs
  .exact hR.new g o hs
  .exact .inr (hv g hs).1
 .intro g o hs;rcases hS g o hs with hs|hs
  .have:=hR.here g o hs;omega
  .exact(hv g hs).2.2
 .intro g hg hr;by_cases hb:blk v'=some g
  .exact((hv g hb).1.no hg hr).elim
  .rw[lM g (by have:=hR.grow;omega) hb];exact hR.below g hg hr
 .refine⟨⟨by rw[c9];simp,bN,λb hb=>(cT γ d v').symm⟩,λ_=>bN⟩
theorem Gq{P:Program}{T:Nat->Option TyI}(hT:bt P T){t ty:TypeId}{ti:TyI}(ht:T t=some ti){el:Ty}(aD:ti.ty=some (.list el))
  {v:Value}{n:Nat}{xs:List Value}(ao:w.ownsRow 0 ti.elem el.size v n xs){ad:Option Addr}{m c:Nat}{news:List Value}(dD:ad=none->m=0/\c=0)(hl:news.length=m*el.size)
  (eR:∀b,ad=some b->∀(j:Nat)(u:Value),news[j]? = some u->w.cell? (b.add j)=some u)(h1:∀u∈news,One u)(dh:n+m<=cY) :
  ∃v' w',(Builtin.append_ #[t,t] ty #[v,.slice ad m c]).run P w = .ok v' w'/\w'.ownsRow 0 ti.elem el.size v' (n+m) (xs++news)/\w'.os=w.os/\w'.tape=w.tape/\w'.output=w.output/\w.heap.size<=w'.heap.size/\
   ((v'=v/\w'=w)\/(blk v'=blk v/\(∃g,blk v=some g)/\∀g,blk v≠some g->w'.heap[g]? = w.heap[g]?)\/(blk v'=some w.heap.size/\∀g,g<w.heap.size->w'.heap[g]? = w.heap[g]?)):=by
 obtain⟨hd,bZ,te,bJ,bo⟩:=iu hT ht aD;have bb:=gL hT bJ bo;obtain⟨i,de,hi,hde,his,BL,_,_,hz⟩:=ig hT bJ;obtain⟨_,⟨z,hz,ef⟩,_⟩:=hz el bo;have dq:i.size=el.size:=by omega
 have gQ:z.cells.size=el.size:=by have h:=Rep.length el el.dflt _ (la (S:=λ_ _=>False) (w:=w) el);rw[<-ef]at h;simpa using h
 have vG:n+m<=maxLen:=by simp only[maxLen,cY]at *;omega
 have gd:(n+m)*i.bytes<=140737488355328:=by have:(n+m)*i.bytes<=cY*32768:=Nat.mul_le_mul dh BL;simp only[cY]at this;omega
 have hlen:(xs++news).length=(n+m)*el.size:=by rw[ja,ao.1,hl,Nat.add_mul]
 cases ad with
 |none=>obtain⟨rfl,rfl⟩:=dD rfl;have iy:news=[]:=jp (by simpa using hl);subst iy;exact⟨v,w,run_append_owned_none (P:=P) w 0 t ty ti.elem i el.size hd hi v n xs ao,by simpa using ao,rfl,rfl,rfl,jm _,.inl ⟨rfl,rfl⟩⟩
 |some b=>
  have eR:=eR b rfl;rcases ao.2 with⟨rfl,rfl⟩|⟨g,cap,cur,rfl,_,hg,fh,fV,cp,ca⟩
  .have pH:w.ownsRow w.heap.size ti.elem el.size (.slice none 0 0) 0 xs:=⟨ao.1,.inl ⟨rfl,rfl⟩⟩;obtain⟨v',w',hr,ho,gD,hv⟩:=run_append_own (P:=P) w w.heap.size t ty ti.elem i z el.size i.bytes hd hi hz dq rfl gQ bZ _ 0 xs pH b m c news hl eR h1 vG gd (jm _);refine⟨v',w',hr,⟨ho.1,ho.2.imp id (λ⟨g,cap,cur,h1,_,h3⟩=>⟨g,cap,cur,h1,kf _,h3⟩)⟩,gD.os,gD.tape,gD.output,gD.size,?_⟩;by_cases hm:m=0
   .subst hm;have iy:news=[]:=jp (by simpa using hl);subst iy;have:=run_append_own (P:=P) w w.heap.size t ty ti.elem i z el.size i.bytes hd hi hz dq rfl gQ bZ _ 0 xs pH b 0 c [] hl eR h1 vG gd (jm _);left;have hx:(Builtin.append_ #[t,t] ty #[.slice none 0 0,.slice (some b) 0 c]).run P w = .ok (.slice none 0 0) w:=by simp[Builtin.append_,run_underlying hd,sizeOf,typeInfo,hi,Builtin.lenOf,Builtin.firstCells,loadCells,loadCellsFrom]
    rw[hx]at hr;simp at hr;exact⟨hr.1.symm,hr.2.symm⟩
   .have lN:=run_append_nil (P:=P) w t ty ti.elem i z hd hi hz b m c news (by rw[dq];exact hl) eR (by omega) (by simp only[maxLen]at vG;omega) (by have:=gd;simp only[ju]at this;omega);rw[lN]at hr;simp at hr;obtain⟨rfl,rfl⟩:=hr;exact .inr (.inr ⟨rfl,λg hg=>heap_alloc_old w.drew _ hg⟩)
  .by_cases lO:n+m<=cap
   .have vH:n*i.size+news.length<=cur.size:=by rw[dq,hl,cp,<-Nat.add_mul];exact k6 _ lO
    have hr:=run_append_room (P:=P) w t ty ti.elem i hd hi g n cap cur hg b m c news (by rw[dq];exact hl) eR h1 lO vH;rw[dq]at hr vH;refine⟨_,_,hr,⟨hlen,.inr ⟨g,cap,_,rfl,kf _,setRow_heap w g cur _ ti.elem _ hg,lO,fV,?_,?_⟩⟩,rfl,rfl,rfl,by rw[size_setRow];exact jm _,.inr (.inl ⟨rfl,⟨g,rfl⟩,λg' ae=>?_⟩)⟩
    .simp only[zg,ja,qa,qw,kz];omega
    .rw[ca,<-hlen];exact List.take_left
    .exact setRow_other w g g' _ (λh=>ae (by rw[h];rfl))
   .have holds:∀(j:Nat)(u:Value),xs[j]? = some u->w.cell? ((⟨g,0,none⟩:Addr).add j)=some u:=ao.cells (g:=g) rfl;have hr:=run_append_grow (P:=P) w t ty ti.elem i z hd hi hz ⟨g,0,none⟩ n cap xs (by rw[dq];exact ao.1) holds b m c news (by rw[dq];exact hl) eR (by omega) (by simp only[maxLen]at vG;omega) (growslice_fits (by omega) gd);have mZ:=grownCap_ge w (n+m) cap ti.elem;refine⟨_,_,hr,⟨hlen,.inr ⟨w.heap.size,_,_,rfl,kf _,heap_alloc_new w.drew _,mZ,grownCap_le_maxLen w (n+m) cap ti.elem vG,?_,?_⟩⟩,rfl,rfl,rfl,by simp,.inr (.inr ⟨rfl,λg' ae=>heap_alloc_old w.drew _ ae⟩)⟩
    .simp only[Array.size_append,zg,size_zeroCells,gQ,ao.1,hl,<-Nat.add_mul];congr 1;omega
    .simp only[Array.toList_append,jd];rw[<-jd,<-hlen];exact List.take_left
theorem Gr(hR:Rel N np S0 w0 refs σ a w S γ){rd:Nat->BS}(aq:RdOk σ rd){el:Ty}{y:Leaf}{ys:List el.den}{z:Value}(h:appX rd el y=some ys)(hy:aL S w γ σ.bx y z) :
  ∃ad c css,z = .slice ad ys.length c/\(ad=none->ys.length=0/\c=0)/\All2 (λx c=>Rep S w el x c) ys css/\
   ∀b,ad=some b->∀(j:Nat)(u:Value),css.flatten[j]? = some u->w.cell? (b.add j)=some u:=by
 unfold appX at h;split at h
 .rename_i k;split at h
  .rename_i e yH xs f hk;have:=gN h;cases this;have bD:=aq.nm hk;have hk:=aq.live hk;have hz:=hy.2.2 _ hk;obtain⟨css,ao,ah,_⟩:=eN bD (hR.box k _ hk);rcases ao.2 with⟨hg,h0⟩|⟨g,cap,cur,hg,_⟩
   .exact⟨none,0,css,by rw[hz,hg,h0],λ_=>⟨h0,rfl⟩,ah,λb hb=>by simp at hb⟩
   .refine⟨some ⟨g,0,none⟩,cap,css,by rw[hz,hg],by simp,ah,λb hb j u hu=>?_⟩;simp at hb;subst hb;exact ao.cells (g:=g) (by rw[hg];rfl) j u hu
  .simp at h
 .rename_i t xs;have:=gN h;cases this;obtain⟨ad,cap,hz,hle,fV,hn,hb⟩:=hy;simp at hz;cases ad with
  |none=>
   have h0:=hn rfl;have gR:List.length ys=0:=by omega
   have:ys=[]:=jp gR;subst this;exact⟨none,cap,[],hz,λ_=>⟨rfl,h0⟩,trivial,λb hb=>by simp at hb⟩
  |some b=>
   obtain⟨bW,css,ha,hl⟩:=hb b rfl;refine⟨some b,cap,css,hz,by simp,ha,λb' aj j u hu=>?_⟩;simp at aj;subst aj
   have bW:=bW (λe=>by
    rw[e]at ha;cases css with
    |nil=>simp at hu
    |cons c cs=>exact ha)
   obtain⟨g,o,sp⟩:=b;simp at bW;subst bW;rw[Addr.add_lit];exact(hl j u hu).2
 .simp at h;subst h;exact⟨none,0,[],hy,λ_=>⟨rfl,rfl⟩,trivial,λb hb=>by simp at hb⟩
 .rename_i k j;split at h
  .rename_i e yH xs f hk;split at h
   .rename_i bM fi;have:=gN fi;cases this;simp only[j3]at h;subst h;have bD:=aq.nm hk;have hk:=aq.live hk;obtain⟨_,hj,ad,dX,ae,hu⟩:=hy.2.2 _ hk;obtain⟨css,ao,ah,_⟩:=eN bD (hR.box k _ hk);have dm:=All2.all_len ah;have hlen:(List.drop j bM).length=bM.length-j:=by simp
    rcases ao.2 with⟨hg,h0⟩|⟨g,cap,cur,hg,_,hh,fh,_⟩
    .rw[hg]at ae;simp only[Value.slice.injEq]at ae;obtain⟨rfl,_,rfl⟩:=ae;have na:bM=[]:=jp h0;subst na;refine⟨none,0,[],by rw[hu];simp,λ_=>⟨by simp,rfl⟩,by simp;trivial,λb hb=>by simp at hb⟩
    .rw[hg]at ae;simp only[Value.slice.injEq,kx]at ae;obtain⟨rfl,rfl⟩:=ae;by_cases hc:cap=j
     .have na:List.drop j bM=[]:=jh (by omega);rw[na];rw[if_pos hc]at hu;exact⟨some ⟨g,0,none⟩,cap-j,[],by rw[hu];simp;omega,by simp,trivial,λb hb q v hq=>by simp at hq⟩
     .rw[if_neg hc]at hu;simp only[ki,Addr.add_lit,ju]at hu;refine⟨some ⟨g,j*el.size,none⟩,cap-j,css.drop j,by rw[hu,hlen],by simp,ah.drop j,λb hb q v hq=>?_⟩;simp at hb;subst hb;have Mw:(css.drop j).flatten=css.flatten.drop (j*el.size):=vF j dm;rw[Mw,qz]at hq;have:=ao.cells (g:=g) (by rw[hg];rfl) _ v hq;rw[Addr.add_lit]at this ⊢;simpa using this
   .simp at h
  .simp at h
 .simp at h
theorem Mx{P:Program}{E:Env}(hT:bt P E.T)(hR:Rel N np S0 w0 refs σ a w S γ){rd rdf:Nat->BS}(aq:RdOk σ rd)(aE:RdF np σ rdf){t ty:TypeId}{ti:TyI}(ht:E.T t=some ti)
  {el:Ty}(aD:ti.ty=some (.list el)){x y:Leaf}{xs ys:List el.den}{frz:Bool}{u:Ups}{d:Nat}{vx vy:Value}(h1:appS rdf ti.elem el x=some (xs,frz,u))(h2:appX rd el y=some ys)
  (hd:σ.bx d = .free)(dh:xs.length+ys.length<=cY)(hx:aL S w γ σ.bx x vx)(hy:aL S w γ σ.bx y vy) :
  ∃v' w' S' γ',(Builtin.append_ #[t,t] ty #[vx,vy]).run P w = .ok v' w'/\Rel N np S0 w0 refs (σ.upd (u++[(d,.live (.lst ti.elem el (xs++ys) frz))])) a w' S' γ'/\
   aQ S' w' γ' (σ.upd (u++[(d,.live (.lst ti.elem el (xs++ys) frz))])).bx (.one (.ol d)) v':=by
 obtain⟨ad,c,cy,BM,dD,rO,cj⟩:=Gr hR aq h2 hy;subst BM;have nY:cy.flatten.length=ys.length*el.size:=All2.flatten_length (λx c hx=>Rep.length el x c hx) rO;have My:∀u∈cy.flatten,One u:=by intro u hu;obtain⟨c,hc,rG⟩:=List.mem_flatten.1 hu;obtain⟨x,_,hx⟩:=rO.mem_right c hc;exact Rep.one el x c hx u rG
 obtain⟨jU,bZ,te,bJ,bo⟩:=iu hT ht aD
 have src:∃σ1,σ.upd u=σ1/\Rel N np S0 w0 refs σ1 a w S γ/\σ1.bx d = .free/\∃cx,w.ownsRow 0 ti.elem el.size vx xs.length cx.flatten/\All2 (λx c=>Rep S w el x c) xs cx/\
   ∀g,blk vx=some g->Own w0 refs g/\g<w.heap.size/\(∀k b,σ1.bx k = .live b->blk (γ k)≠some g)/\(frz=false->∀o,¬S g o)/\(frz=true->∀o,S g o↔o<xs.length*el.size)/\refs.kw g=none:=by
  unfold appS at h1;split at h1
  .rename_i k;split at h1
   .rename_i e' yH bM f hk;split at h1
    .rename_i Gg fi;split at h1
     .rename_i he;simp only[j3,j7]at h1;obtain⟨rfl,rfl,rfl⟩:=h1;have:=gN fi;cases this;subst he;have iZ:=aE.par hk;have bD:=aE.ok.nm hk;have hk:=aE.ok.live hk;have hz:=hx.2.2 _ hk;obtain⟨css,ao,ah,hS⟩:=eN bD (hR.box k _ hk);have nb:d≠k:=by rintro rfl;rw[hd]at hk;simp at hk
      refine⟨σ.setB k .gone,rfl,yF hR hk,by rw[bu σ _ nb];exact hd,css,by rw[hz];exact ao,ah,λg hg=>?_⟩;rw[hz]at hg;refine⟨?_,fj (hR.box k _ hk) hg,λk' b' aj ae=>?_,(hS g hg).1,(hS g hg).2,hR.kw_live hk hg⟩
      .rcases hR.own k _ g hk hg with h|h
       .exact h
       .rw[iZ]at h;simp at h
      .have ba:k'≠k:=by rintro rfl;rw[c9]at aj;simp at aj
       rw[bu σ _ ba]at aj;exact hR.apart k' k _ _ g ba aj hk ae hg
     .simp at h1
    .simp at h1
   .simp at h1
  .simp only[j3,j7]at h1;obtain⟨rfl,rfl,rfl⟩:=h1;have hz:vx = .slice none 0 0:=hx;subst hz;exact⟨σ,rfl,hR,hd,[],World.ownsRow_nil w 0 ti.elem el.size,trivial,λg hg=>by simp[blk]at hg⟩
  .simp at h1
 obtain⟨σ1,Mz,aJ,mX,cx,ao,yI,hblk⟩:=src;rw[fJ,Mz];obtain⟨v',w',hr,bk,os,tape,output,bb,bA⟩:=Gq hT ht aD (ty:=ty) ao dD nY cj My dh;have jA:cx.flatten.length=xs.length*el.size:=ao.1;let S':an:=λg o=>S g o\/(frz=true/\blk v'=some g/\o<(xs++ys).length*el.size)
 have al:cm S w S' w':=by
  intro g o hs;refine⟨.inl hs,?_⟩;rcases bA with⟨rfl,rfl⟩|⟨hb,⟨g0,gf⟩,hh⟩|⟨hb,hh⟩
  .rfl
  .by_cases hg:g=g0
   .subst hg;obtain⟨_,_,_,hf,tP,_⟩:=hblk g gf;cases frz with
    |false=>exact absurd hs (hf rfl o)
    |true=>
     have ho:=(tP rfl o).1 hs
     have eS:v'.ownBlock=some g:=by
      rw[gf]at hb;rcases bk.2 with⟨hn,_⟩|⟨g1,cap,cur,hn,_⟩
      .rw[hn]at hb;simp[blk]at hb
      .rw[hn]at hb ⊢;simp[blk]at hb;simp[Value.ownBlock,hb]
     have rP:vx.ownBlock=some g:=by
      rcases ao.2 with⟨hn,_⟩|⟨g1,cap,cur,hn,_⟩
      .rw[hn]at gf;simp[blk]at gf
      .rw[hn]at gf ⊢;simp[blk]at gf;simp[Value.ownBlock,gf]
     have vI:(cx.flatten)[o]? = some (cx.flatten[o]'(by omega)):=jt (by omega);have e1:=ao.cells rP o _ vI;have e2:=bk.cells eS o (cx.flatten[o]'(by omega)) (by rw[List.getElem?_append_left (by omega)];exact vI);rw[Addr.add_lit,ju]at e1 e2;rw[e1,e2]
   .have:=hh g (by rw[gf];simpa using λh=>hg h.symm);exact World.cell?_of_block (a:=⟨g,o,none⟩) this
  .exact World.cell?_of_block (a:=⟨g,o,none⟩) (hh g (hR.here g o hs))
 have MA:∀g,blk v'=some g->Own w0 refs g/\(∀k b,σ1.bx k = .live b->blk (γ k)≠some g)/\g<w'.heap.size:=by
  intro g hg
  have ax:g<w'.heap.size:=by
   rcases bk.2 with⟨hn,_⟩|⟨g1,cap,cur,hn,_,hh,_⟩
   .rw[hn]at hg;simp[blk]at hg
   .rw[hn]at hg;simp[blk]at hg;subst hg;exact(jb.1 hh).1
  rcases bA with⟨rfl,rfl⟩|⟨hb,⟨g0,gf⟩,hh⟩|⟨hb,hh⟩
  .obtain⟨q1,q2,q3,_⟩:=hblk g hg;exact⟨q1,q3,ax⟩
  .rw[hb]at hg;obtain⟨q1,q2,q3,_⟩:=hblk g hg;exact⟨q1,q3,ax⟩
  .rw[hb]at hg;simp at hg;subst hg;exact⟨.inl hR.grow,λk b hk ae=>by have:=fj (aJ.box k b hk) ae;omega,ax⟩
 obtain⟨bP,eT⟩:=tO aJ mX (hm:=Bs hT ht) (w':=w') (S':=S') (v':=v') (e:=ti.elem) (el:=el) (zs:=xs++ys) (frz:=frz) (css:=cx++cy) al (λg hg aG=>by
   rcases bA with⟨rfl,rfl⟩|⟨hb,_,hh⟩|⟨hb,hh⟩
   .rfl
   .exact hh g (by rw[<-hb];exact aG)
   .exact hh g hg) bb MA (λg o hs=>hs.imp id (λh=>h.2.1)) os tape output (by rw[zc,ja];exact bk)
  ((
   yI.mono (λx c hx=>Rep.keep al _ _ _ hx)).append (rO.mono (λx c hx=>Rep.keep al _ _ _ hx))) (λg hg=>by
   have hold:∀o,S g o->frz=true/\o<xs.length*el.size:=by
    intro o hs;rcases bA with⟨rfl,rfl⟩|⟨hb,⟨g0,gf⟩,hh⟩|⟨hb,hh⟩
    .obtain⟨_,_,_,hf,tP,_⟩:=hblk g hg;cases frz with
     |false=>exact absurd hs (hf rfl o)
     |true=>exact⟨rfl,(tP rfl o).1 hs⟩
    .rw[hb]at hg;obtain⟨_,_,_,hf,tP,_⟩:=hblk g hg;cases frz with
     |false=>exact absurd hs (hf rfl o)
     |true=>exact⟨rfl,(tP rfl o).1 hs⟩
    .rw[hb]at hg;simp at hg;subst hg;exact absurd hs (vA hR o)
   refine⟨λhf o hs=>?_,λhf o=>⟨λhs=>?_,λho=> .inr ⟨hf,hg,ho⟩⟩⟩
   .rcases hs with hs|hs
    .rw[hf]at hold;simp at hold;exact hold o hs
    .rw[hf]at hs;simp at hs
   .rcases hs with hs|hs
    .have:=(hold o hs).2;rw[ja,Nat.add_mul];omega
    .exact hs.2.2) (λg hg=>by
   rcases bA with⟨rfl,rfl⟩|⟨hb,⟨g0,gf⟩,hh⟩|⟨hb,hh⟩
   .exact(hblk g hg).2.2.2.2.2
   .rw[hb]at hg;exact(hblk g hg).2.2.2.2.2
   .rw[hb]at hg;simp at hg;subst hg;exact hR.kw_new (jm _))
 exact⟨v',w',S',_,hr,bP,eT⟩
end
theorem MB(L l:List Value)(v:Value)(n:Nat)(h:n<L.length) :
  (L.set n v).take (n+1)++l++(L.set n v).drop (n+1+l.length)=L.take n++v::l++L.drop (n+(l.length+1)):=by
 obtain⟨A,x,B,hA,rfl⟩:∃A x B,List.length A=n/\L=A++x::B:=⟨L.take n,L[n],L.drop (n+1),by simp;omega,by rw[List.getElem_cons_drop h,jy]⟩;subst hA;rw[List.set_append_right _ _ (jm _),Nat.sub_self,List.set_cons_zero];have e1:(A++v::B).take (A.length+1)=A++[v]:=by rw[show A++v::B=(A++[v])++B by simp];exact ze (by simp)
 have e2:(A++x::B).take A.length=A:=ze rfl;have e3:∀y,(A++y::B).drop (A.length+1+l.length)=B.drop l.length:=by intro y;rw[show A++y::B=(A++[y])++B by simp,<-zb,List.drop_left' (by simp)]
 rw[e1,e2,e3,show A.length+(l.length+1)=A.length+1+l.length by omega,e3];simp
theorem Gs(off:Nat):∀(l:List Value)(k:Nat)(cells:Array Value),off+k+l.length<=cells.size->
  ((l.zipIdx k).foldl (λcs x=>cs.setIfInBounds (off+x.2) x.1) cells).toList=cells.toList.take (off+k)++l++cells.toList.drop (off+k+l.length)
 |[],k,cells,_=>by simp
 |v::l,k,cells,h=>by
  simp only[jn]at h;rw[List.zipIdx_cons,List.foldl_cons,Gs off l (k+1) _ (by simp;omega)];simp only[Array.toList_setIfInBounds];rw[show off+(k+1)=off+k+1 by omega];exact MB cells.toList l v (off+k) (by simp;omega)
theorem BN(cells:Array Value)(off:Nat)(zs:Array Value)(h:off+zs.size<=cells.size) :
  (zs.zipIdx.foldl (λcs (x:Value×Nat)=>cs.setIfInBounds (off+x.2) x.1) cells).toList=cells.toList.take off++zs.toList++cells.toList.drop (off+zs.size):=by
 rw[<-Array.foldl_toList,Array.toList_zipIdx];have:=Gs off zs.toList 0 cells (by simpa using h);simpa using this
theorem Gt(z:List Value):∀(n p:Nat),p<n*z.length->(List.replicate n z).flatten[p]? = z[p%z.length]?
 |0,p,h=>by simp at h
 |n+1,p,h=>by
  rw[List.replicate_succ,km];by_cases hp:p<z.length
  .rw[List.getElem?_append_left hp,Nat.mod_eq_of_lt hp]
  .rw[jx (by omega),Gt z n (p-z.length) (by rw[Nat.add_mul]at h;omega)];congr 1;exact(Nat.mod_eq_sub_mod (by omega)).symm
theorem Gu(z:Array Value)(n:Nat)(hz:0<z.size):((Array.range (n*z.size)).map (λi=>z[i%z.size]!)).toList=(List.replicate n z.toList).flatten:=by
 apply z7;intro p;by_cases hp:p<n*z.size
 .rw[Gt z.toList n p (by simpa using hp)];have hm:p%z.size<z.size:=Nat.mod_lt _ hz;simp[hp,hm]
 .rw[qp (by simp;omega),qp (by rw[List.length_flatten];simp;omega)]
section
variable{N:NT}{np:Nat}{S0:an}{w0:World}{refs:Refs}{σ:St}{a:Go.Act}{w:World}{S:an}{γ:Nat->Value}
theorem yJ{t:Ty}{z:Value}(h:z.cells.toList=fI t):z.cells.size=t.size:=by
 have:=Rep.length t t.dflt _ (la (S:=λ_ _=>False) (w:=(default:World)) t);rw[<-h]at this;simpa using this
theorem yK{t:Ty}{z:Value}(h:z.cells.toList=fI t):∀u∈z.cells.toList,One u:=by
 rw[h];exact Rep.one t t.dflt _ (la (S:=λ_ _=>False) (w:=(default:World)) t)
theorem BO{P:Program}{T:Nat->Option TyI}(hT:bt P T){t:TypeId}{ti:TyI}(ht:T t=some ti){ty:Ty}(aD:ti.ty=some ty) :
  ∃z:Value,z.cells.toList=fI ty/\(Instr.alloc t true (.tuple #[])).run P w = .ok (.pointer (some ⟨w.heap.size,0,none⟩)) (w.alloc (.cells z.cells t)):=by
 obtain⟨z,hz,hc⟩:=rH hT ht w aD;refine⟨z,hc,?_⟩;simp only[Instr.alloc,Sem.run_bind,hz,Result.andThen_ok,newVar,newRow,run_newObj,Sem.run_pure,World.alloc_eq]
theorem Gv{P:Program}(t:TypeId)(v:Value):(Instr.box t v).run P w = .ok (.pointer (some ⟨w.heap.size,0,none⟩)) (w.alloc (.cells v.cells t)):=by
 simp only[Instr.box,Sem.run_bind,newVar,newRow,run_newObj,Result.andThen_ok,Sem.run_pure,World.alloc_eq]
theorem Gw{P:Program}{α β:Type}(f:α->Sem β)(g:α->β):∀(l:List α),(∀x∈l,(f x).run P w = .ok (g x) w)->(l.mapM f).run P w = .ok (l.map g) w
 |[],_=>by simp
 |x::l,h=>by
  rw[qq];simp only[Sem.run_bind,h x (by simp),Result.andThen_ok,Gw f g l (λy hy=>h y (by simp[hy])),Sem.run_pure,qi]
theorem Gx{bx:Nat->BS}{ti:TyI}{sz:Nat->Option Nat}{place:Nat->Option (Nat×Nat)}(hp:∀i f n,ti.flds[i]? = some f->sz f.2=some n->place i=some (f.1,n)) :
  ∀(ps:List (Nat×Cel))(vs:List (Nat×Value)){ls eg:List Leaf}{cells:Array Value},All2 (λp v=>p.1=v.1/\aQ S w γ bx p.2 v.2) ps vs->tj ti sz ls ps=some eg->
   All2 (aL S w γ bx) ls cells.toList->(∀u∈cells.toList,One u)->∃aK,Instr.fill place cells vs=some aK/\All2 (aL S w γ bx) eg aK.toList/\∀u∈aK.toList,One u
 |[],[],ls,eg,cells,_,h,ha,h1=>by
  simp[tj]at h;subst h;exact⟨cells,rfl,ha,h1⟩
 |(i,c)::ps,(j,v)::vs,ls,eg,cells,⟨⟨cC,hc⟩,fk⟩,h,ha,h1=>by
  simp only at cC;subst cC;simp only[tj]at h;split at h
  .rename_i f hf;split at h
   .rename_i new cR;split at h
    .rename_i aV;obtain⟨bb,hle⟩:=aV;obtain⟨hl,iX⟩:=tN cR hc;have hlen:=hl.length;have pE:=ha.length;have eI:v.cells.size=new.length:=by rw[hlen];simp
     have cp:cells.size=ls.length:=by rw[pE];simp
     have tQ:=BN cells f.1 v.cells (by omega);have bW:=yA (c:=f.1) ha hl
     obtain⟨aK,dr,h2,h3⟩:=Gx hp ps vs (cells:=(v.cells.zipIdx.foldl (λcs (x:Value×Nat)=>cs.setIfInBounds (f.1+x.2) x.1) cells)) fk h
      (by rw[tQ];simpa using bW) (by
       rw[tQ];intro u hu;simp only[jq]at hu;rcases hu with (hu|hu)|hu
       .exact h1 u (kr hu)
       .exact iX u hu
       .exact h1 u (z8 hu))
     refine⟨aK,?_,h2,h3⟩;simp only[Instr.fill,hp i f _ hf bb];rw[if_neg (by simp[eI];omega)];exact dr
    .simp at h
   .simp at h
  .simp at h
 |[],_::_,_,_,_,h,_,_,_=>h.elim
 |_::_,[],_,_,_,h,_,_,_=>h.elim
theorem MC{P:Program}{E:Env}(hT:bt P E.T){bx:Nat->BS}{t:TypeId}{ti:TyI}(ht:E.T t=some ti){ty:Ty}(aD:ti.ty=some ty)(iv:ty.agg=true)
  {ps:List (Nat×Cel)}{vs:Array (Nat×Value)}{ls:List Leaf}(fk:All2 (λp v=>p.1=v.1/\aQ S w γ bx p.2 v.2) ps vs.toList)
  (h:tj ti (λt=>(E.T t).map (·.size)) (iQ ty) ps=some ls) :
  ∃z,(Instr.build t vs).run P w = .ok z w/\aQ S w γ bx (.st ls) z:=by
 obtain⟨z,hz,ef⟩:=rH hT ht w aD;obtain⟨i,d,hi,hd,_,_,_,eP,cQ⟩:=ig hT ht;have jU:=(cQ ty aD).2.2;cases d with
 |struct fs=>
  simp only[vq,j9,jg]at eP;obtain⟨jX,nV⟩:=eP
  have nZ:(fs.mapM (λf=>do pure (f.offset,<-sizeOf f.type):Field->Sem (Nat×Nat))).run P w = .ok (fs.map λf=>(f.offset,((E.T f.type).map (·.size)).getD 0)) w:=by
   rw[za]
   have:=Gw (P:=P) (w:=w) (λf=>(do pure (f.offset,<-sizeOf f.type):Sem (Nat×Nat))) (λf:Field=>(f.offset,((E.T f.type).map (·.size)).getD 0)) fs.toList (λf hf=>by
    have:=ji.1 nV f hf;split at this
    .rename_i tf lD;simp only[Sem.run_bind,eO hT lD,Result.andThen_ok,Sem.run_pure,lD,ki,Option.getD_some]
    .simp at this)
   simp only[Sem.run_map,this,Result.andThen_ok];congr 1;apply k8;simp
  have hp:∀(i:Nat)(f:Nat×Nat)(n:Nat),ti.flds[i]? = some f->(E.T f.2).map (·.size)=some n->(fs.map λf=>(f.offset,((E.T f.type).map (·.size)).getD 0))[i]? = some (f.1,n):=by
   intro i f n hf hn;rw[<-jX,ko]at hf;cases hq:fs.toList[i]? with
   |none=>simp[hq]at hf
   |some fl=>
    simp only[hq,ki,j3]at hf;subst hf;have BP:fs[i]? = some fl:=by simpa using hq
    simp only at hn;simp[BP,hn]
  obtain⟨aK,dr,ha,h1⟩:=Gx (S:=S) (w:=w) (γ:=γ) (place:=λi=>(fs.map λf=>(f.offset,((E.T f.type).map (·.size)).getD 0))[i]?) hp ps vs.toList (cells:=z.cells) fk h (by rw[ef];exact pD ty) (yK ef);refine⟨.agg aK,?_,aK,rfl,ha,h1⟩;simp only[Instr.build,Sem.run_bind,hz,Result.andThen_ok,run_underlying hd,nZ,dr,Sem.run_pure]
 |_=>exfalso;revert jU iv;cases ty<;>simp[fT,Ty.agg]
theorem Gy{rd:Nat->BS}{el:Ty}:∀(ps:List (Nat×Cel)){xs bM:List el.den}{u u':Ups},fF rd el xs u ps=some (bM,u')->∃u2,u'=u++u2
 |[],_,_,u,u',h=>by simp[fF]at h;exact⟨[],by simp[h.2]⟩
 |(i,c)::ps,xs,bM,u,u',h=>by
  simp only[fF]at h;split at h
  .split at h
   .obtain⟨u2,hu⟩:=Gy ps h;exact⟨_,by rw[hu,jd]⟩
   .simp at h
  .simp at h
theorem BQ{rd:Nat->BS}(aq:RdF np σ rd)(hB:tK S w γ σ.bx){el:Ty}(bZ:0<el.size):∀(ps:List (Nat×Cel))(vs:List (Nat×Value)){xs bM:List el.den}{u u':Ups},
  All2 (λp v=>p.1=v.1/\aQ S w γ σ.bx p.2 v.2) ps vs->fF rd el xs u ps=some (bM,u')->FrzL np σ.bx u->
  FrzL np σ.bx u'/\∀S',cm S w S' w->Froz σ.bx γ S' w u'->∀(css:List (List Value))(cells:Array Value),All2 (λx c=>Rep S' w el x c) xs css->cells.toList=css.flatten->
   ∃aK gg,Instr.fill (λi=>some (i*el.size,el.size)) cells vs=some aK/\All2 (λx c=>Rep S' w el x c) bM gg/\aK.toList=gg.flatten
 |[],[],xs,bM,u,u',_,h,hf=>by
  simp[fF]at h;obtain⟨rfl,rfl⟩:=h;exact⟨hf,λS' _ _ css cells ha hc=>⟨cells,css,rfl,ha,hc⟩⟩
 |(i,c)::ps,(j,v)::vs,xs,bM,u,u',⟨⟨cC,hc⟩,fk⟩,h,hf=>by
  simp only at cC;subst cC;simp only[fF]at h;split at h
  .rename_i x u1 hx;split at h
   .rename_i hi;obtain⟨jX,MD,iX⟩:=yy aq hB hx hc;obtain⟨ME,bK⟩:=BQ aq hB bZ ps vs fk h (FrzL.app.2 ⟨hf,jX⟩);obtain⟨u2,BR⟩:=Gy ps h;refine⟨ME,λS' al cM css cells ha bU=>?_⟩;have MF:=(MD S' w al (Froz.app.1 (Froz.app.1 (BR▸cM)).1).2).1;have BT:cells.size=xs.length*el.size:=by have:=All2.flatten_length (λx c hx=>Rep.length el x c hx) ha;rw[<-bU]at this;simpa using this
    have Gp:i*el.size+el.size<=xs.length*el.size:=by have:(i+1)*el.size<=xs.length*el.size:=k6 _ (by omega);rwa[zi]at this
    have iX:v.cells.toList.length=el.size:=iX;have eI:v.cells.size=el.size:=by simpa using iX
    have nX:v.cells.toList.length=v.cells.size:=kz;have tQ:=BN cells (i*el.size) v.cells (by omega);obtain⟨ci,iw⟩:∃ci,css[i]? = some ci:=⟨css[i]'(by rw[<-ha.length];exact hi),jt _⟩;have yE:=BI (cur:=cells.toList) (n:=xs.length) (c:=0) (zs:=v.cells.toList) (All2.all_len ha) ha.length.symm (by rw[bU,<-bU];exact List.take_of_length_le (by simp[BT])) iw (by omega);have dm:ci.length=el.size:=All2.all_len ha ci (jv iw)
    have cR:cells.toList.take (i*el.size)++v.cells.toList++cells.toList.drop (i*el.size+v.cells.size)=(css.set i v.cells.toList).flatten:=by
     have e1:ci.take 0++v.cells.toList++ci.drop (0+v.cells.toList.length)=v.cells.toList:=by rw[jh (by omega)];simp
     rw[e1]at yE;rw[<-yE];symm;refine(List.take_of_length_le ?_).trans ?_
     .simp;omega
     .simp
    obtain⟨aK,gg,h1,h2,h3⟩:=bK S' al cM (css.set i v.cells.toList) _ (ha.set i x v.cells.toList MF) (tQ.trans cR);refine⟨aK,gg,?_,h2,h3⟩;simp only[Instr.fill];rw[if_neg (by simp[eI];omega)];exact h1
   .simp at h
  .simp at h
 |[],_::_,_,_,_,_,h,_,_=>h.elim
 |_::_,[],_,_,_,_,h,_,_=>h.elim
end
theorem Gz{P:Program}{t e:TypeId}(h:P.underlying t=some (.slice e)):P.elem t=e:=by simp[Program.elem,h]
def VB(d:Nat)(o:Option Value)(i:Nat):Prop:=(o=none/\i=d)\/∃k,o=some (.int k (i:Int))
theorem rQ{P:Program}{w:World}{t:TypeId}{e s:Nat}(hd:P.underlying t=some (.slice e))(hs:(sizeOf e).run P w = .ok s w){ad:Option Addr}{len cap i j:Nat}{lo hi:Option Value}
  (fm:VB 0 lo i)(gh:VB len hi j)(cC:i<=j)(hj:j<=cap) :
  (Instr.sliceAt t (.slice ad len cap) lo hi none).run P w = .ok (.slice (if cap=i then ad else ad.map (·.add (i*s))) (j-i) (cap-i)) w:=by
 have he:=Gz hd;have eH:P.underlying t=some (.slice (P.elem t)):=by rw[he];exact hd
 rw[run_sliceAt_slice w t _ _ _ _ eH];have dE:(sizeOf (P.elem t)).run P w = .ok s w:=by rw[he];exact hs
 rcases fm with⟨rfl,rfl⟩|⟨kl,rfl⟩
 .rcases gh with⟨rfl,rfl⟩|⟨kh,rfl⟩
  .rw[run_slice_all w t ad _ cap eH,dE];simp[Result.andThen,sliced]
  .rw[run_slice_h w t ad len cap eH kh _ (by omega) (by omega),dE];simp[Result.andThen,sliced]
 .rcases gh with⟨rfl,rfl⟩|⟨kh,rfl⟩
  .rw[run_slice_l w t ad _ cap eH kl _ (by omega) (by omega),dE];simp[Result.andThen,sliced]
  .rw[run_slice_lh w t ad len cap eH kl kh _ _ (by omega) (by omega) (by omega),dE];simp[Result.andThen,sliced]
section
variable{N:NT}{np:Nat}{S0:an}{w0:World}{refs:Refs}{σ:St}{a:Go.Act}{w:World}{S:an}{γ:Nat->Value}
theorem GA{el:Ty}{xs:List el.den}{ad:Option Addr}{cap:Nat}(h:Rep S w (.list el) xs [.slice ad (List.length xs) cap]){i j:Nat}(cC:i<=j)(hj:j<=List.length xs) :
  Rep S w (.list el) ((xs.take j).drop i) [.slice (if cap=i then ad else ad.map (·.add (i*el.size))) (j-i) (cap-i)]:=by
 obtain⟨MG,dX,he,hle,fV,hn,hb⟩:=h;simp only[List.cons.injEq,Value.slice.injEq,and_true,kx]at he;obtain⟨rfl,rfl⟩:=he;have hlen:((xs.take j).drop i).length=j-i:=by simp;omega
 refine⟨_,_,by rw[hlen],by rw[hlen];omega,by omega,λh=>?_,λb aj=>?_⟩
 .have:ad=none:=by
   split at h
   .exact h
   .simpa using h
  have:=hn this;omega
 .by_cases hc:cap=i
  .rw[if_pos hc]at aj;have hz:(xs.take j).drop i=[]:=jp (by omega);rw[hz];exact⟨λh=>absurd rfl h,[],trivial,λj v hv=>by simp at hv⟩
  .rw[if_neg hc]at aj;cases ad with
   |none=>simp at aj
   |some b0=>
    simp only[ki,j3]at aj;subst aj;obtain⟨bW,css,ha,hl⟩:=hb b0 rfl;by_cases hx:(xs.take j).drop i=[]
    .rw[hx];exact⟨λh=>absurd rfl h,[],trivial,λj v hv=>by simp at hv⟩
    .have dQ:xs≠[]:=λh=>hx (by rw[h];simp);obtain⟨g,o,sp⟩:=b0;have bW:=bW dQ;simp at bW;subst bW;have rR:(⟨g,o,none⟩:Addr).add (i*el.size)=⟨g,o+i*el.size,none⟩:=Addr.add_lit _ _ _;rw[rR];refine⟨λ_=>rfl,(css.take j).drop i,(ha.take j).drop i,λq v hq=>?_⟩;have dm:=All2.all_len ha;rw[vF i (λc hc=>dm c (kr hc)),pG j dm,qz,kn]at hq;split at hq
     .have:=hl _ v hq;simpa[Nat.add_assoc]using this
     .simp at hq
def ORep(R:Leaf->Value->Prop):Option Leaf->Option Value->Prop
 |none,none=>True
 |some l,some v=>R l v
 |_,_=>False
theorem oa{d:Nat}{o:Option Leaf}{vo:Option Value}{i:Int}{bx:Nat->BS}(h:bnd d o=some i)(ho:ORep (aL S w γ bx) o vo)(hi:0<=i):VB d vo i.toNat:=by
 unfold bnd at h;split at h
 .cases vo with
  |none=>simp at h;exact .inl ⟨rfl,by omega⟩
  |some v=>exact ho.elim
 .cases vo with
  |none=>exact ho.elim
  |some v=>simp at h;rename_i k n;have hv:v = .int k n:=iV (S:=S) (w:=w) ho;refine .inr ⟨k,?_⟩;rw[hv,show (n:Int)=i from h,Int.toNat_of_nonneg hi]
 .simp at h
theorem MH{P:Program}{E:Env}(hT:bt P E.T)(hR:Rel N np S0 w0 refs σ a w S γ){rd:Nat->BS}(aq:RdOk σ rd){t:TypeId}{ti:TyI}(ht:E.T t=some ti)
  {d:Nat}{x l:Leaf}{lo hi:Option Leaf}{vx:Value}{lP nc:Option Value}{u:Ups}(az:∀k,ed (rd k)=true->σ.bx k = .free)(h:tn (parK np) rd ti d x lo hi=some (true,l,u))
  (hx:aL S w γ σ.bx x vx)(fm:ORep (aL S w γ σ.bx) lo lP)(gh:ORep (aL S w γ σ.bx) hi nc) :
  ∃v S' γ',(Instr.sliceAt t vx lP nc none).run P w = .ok v w/\Rel N np S0 w0 refs (σ.upd u) a w S' γ'/\aQ S' w γ' (σ.upd u).bx (.one l) v:=by
 unfold tn at h;split at h
 ·-- a datum
  rename_i el xs;split at h
  .rename_i aD;obtain⟨hd,_,te,bJ,bo⟩:=iu hT ht aD;have bb:=gL hT bJ bo;split at h
   .rename_i i j eC jB;simp only[j3,j7,j9,jg]at h;obtain⟨⟨h0,h1,h2⟩,rfl,rfl⟩:=h;have kZ:=hx;obtain⟨ad,cap,hv,hle,_⟩:=hx;simp at hv;subst hv;have hlen:((List.length xs:Nat):Int)=Int.ofNat (List.length xs):=rfl;refine⟨_,S,γ,rQ hd (s:=el.size) ?_ (oa eC fm h0) (oa jB gh (by omega)) (by omega) (by omega),hR,GA kZ (by omega) (by omega),λ_=>rfl⟩;rw[eO hT bJ,bb]
   .simp at h
  .simp at h
 .rename_i k;split at h
  ·-- the tail
   split at h
   .rename_i e el xs f hk;split at h
    .rename_i aD;obtain⟨hd,_,te,bJ,bo⟩:=iu hT ht aD;have bb:=gL hT bJ bo;split at h
     .rename_i i eC;simp only[j3,j7,j9,jg]at h;obtain⟨⟨h0,h1⟩,rfl,rfl⟩:=h;have bD:=aq.nm hk;have hk:=aq.live hk;have hz:=hx.2.2 _ hk;obtain⟨css,ao,_⟩:=eN bD (hR.box k _ hk)
      obtain⟨ad,cap,hg,dY⟩:∃ad cap,γ k = .slice ad xs.length cap/\xs.length<=cap:=by
       rcases ao.2 with⟨hg,hn⟩|⟨g,cap,cur,hg,_,_,fh,_⟩
       .exact⟨none,0,by rw[hg,hn],by omega⟩
       .exact⟨_,cap,hg,fh⟩
      have ob:VB xs.length nc xs.length:=by
       cases nc with
       |none=>exact .inl ⟨rfl,rfl⟩
       |some v=>exact gh.elim
      subst hz;have ai:=rQ (ad:=ad) (w:=w) hd (s:=el.size) (by rw[eO hT bJ,bb]) (oa eC fm h0) ob (by omega) dY;rw[<-hg]at ai;refine⟨_,S,γ,ai,hR,⟨hx.1,rfl,λb hb=>?_⟩,λ_=>rfl⟩;rw[show (σ.upd []).bx k=σ.bx k from rfl,hk]at hb;cases hb;exact⟨bD,by omega,ad,cap,hg,rfl⟩
     .simp at h
    .simp at h
   .simp at h
  .rename_i hh;split at h
   .rename_i e el xs f hk;split at h
    .rename_i aD;obtain⟨hd,_,te,bJ,bo⟩:=iu hT ht aD;have bb:=gL hT bJ bo;split at h
     .rename_i i j eC jB;have bD:=aq.nm hk;have hk:=aq.live hk;have hz:=hx.2.2 _ hk;split at h
      ·-- a pI: its head
       split at h
       .rename_i nd;simp only[Option.isNone_iff_eq_none]at nd;subst nd;simp only[j3,j7,j9,jg]at h;obtain⟨⟨h0,h1⟩,rfl,rfl⟩:=h;obtain⟨css,ao,_⟩:=eN bD (hR.box k _ hk)
        have pJ:VB 0 lP 0:=by
         cases lP with
         |none=>exact .inl ⟨rfl,rfl⟩
         |some v=>exact fm.elim
        have ob:=oa jB gh h0
        obtain⟨ad,cap,hg,dY,MI⟩:∃ad cap,γ k = .slice ad xs.length cap/\xs.length<=cap/\(if cap=0 then ad else ad.map (·.add (0*el.size)))=ad:=by
         rcases ao.2 with⟨hg,hn⟩|⟨g,cap,cur,hg,_,_,fh,_⟩
         .exact⟨none,0,by rw[hg,hn],by omega,rfl⟩
         .exact⟨_,cap,hg,fh,by simp[Addr.add_lit]⟩
        have ai:=rQ (ad:=ad) (w:=w) hd (s:=el.size) (by rw[eO hT bJ,bb]) pJ ob (by omega) (show j.toNat<=cap by omega);rw[<-hg,MI]at ai;subst hz;refine⟨_,S,γ,ai,hR,⟨hx.1,rfl,λb hb=>?_⟩,λ_=>rfl⟩;rw[show (σ.upd []).bx k=σ.bx k from rfl,hk]at hb;cases hb;exact⟨bD,by omega,ad,cap,hg,rfl⟩
       .simp at h
      rename_i iZ;have iZ:parK np k=false:=by simpa using iZ
      split at h
      ·-- cut short
       rename_i db;simp only[j9,Option.isNone_iff_eq_none,Bool.not_eq_eq_eq_not,jc]at db;obtain⟨rfl,rfl⟩:=db;split at h
       .rename_i gy;simp only[j3,j7,j9,jg]at h;obtain⟨⟨h0,h1⟩,rfl,rfl⟩:=h;have vJ:=az d gy;have nb:d≠k:=by rintro rfl;rw[vJ]at hk;simp at hk
        obtain⟨css,ao,ah,hS⟩:=eN bD (hR.box k _ hk);have dm:=All2.all_len ah
        have pJ:VB 0 lP 0:=by
         cases lP with
         |none=>exact .inl ⟨rfl,rfl⟩
         |some v=>exact fm.elim
        have ob:=oa jB gh h0;have aJ:=yF hR hk;have mX:(σ.setB k .gone).bx d = .free:=by rw[bu σ _ nb];exact vJ
        have oc:j.toNat<=xs.length:=by omega
        have MJ:css.length=xs.length:=ah.length.symm
        have key:∃v',(Instr.sliceAt t vx lP nc none).run P w = .ok v' w/\w.ownsRow 0 e el.size v' (List.take j.toNat xs).length (List.take j.toNat css).flatten/\blk v'=blk vx:=by
         rw[hz];have ax:(List.take j.toNat xs).length=j.toNat:=by simp;omega
         rcases ao.2 with⟨hg,hn⟩|⟨g,cap,cur,hg,_,hh,fh,fV,cp,ca⟩
         .rw[hg];have BU:j.toNat=0:=by omega
          refine⟨_,rQ hd (s:=el.size) (len:=0) (by rw[eO hT bJ,bb]) pJ (by rw[hn]at ob;exact ob) (by omega) (by omega),?_,by simp;rfl⟩;rw[BU];simpa using World.ownsRow_nil w 0 e el.size
         .rw[hg];refine⟨_,rQ hd (s:=el.size) (by rw[eO hT bJ,bb]) pJ ob (by omega) (by omega),?_,?_⟩
          .refine⟨?_,.inr ⟨g,cap,cur,?_,kf _,hh,by omega,fV,cp,?_⟩⟩
           .rw[pG _ dm,qa,ao.1,ax];exact Nat.min_eq_left (k6 _ oc)
           .rw[ax];by_cases hc:cap=0
            .simp[hc]
            .simp[hc,Addr.add_lit]
           .rw[ax,pG _ dm,<-ca,List.take_take,Nat.min_eq_left (k6 _ oc)]
          .by_cases hc:cap=0
           .simp[hc];rfl
           .simp[hc,Addr.add_lit];rfl
        obtain⟨v',ai,bk,hblk⟩:=key
        have iz:∀g,blk v'=some g->Own w0 refs g/\(∀k' b,(σ.setB k .gone).bx k' = .live b->blk (γ k')≠some g)/\g<w.heap.size:=by
         intro g hg;rw[hblk,hz]at hg;refine⟨?_,λk' b' aj ae=>?_,fj (hR.box k _ hk) hg⟩
         .rcases hR.own k _ g hk hg with h|h
          .exact h
          .rw[iZ]at h;simp at h
         .have ba:k'≠k:=by rintro rfl;rw[c9]at aj;simp at aj
          rw[bu σ _ ba]at aj;exact hR.apart k' k _ _ g ba aj hk ae hg
        obtain⟨bP,eT⟩:=tO aJ mX (hm:=bD) (w':=w) (S':=S) (v':=v') (e:=e) (el:=el) (zs:=List.take j.toNat xs) (frz:=false) (css:=List.take j.toNat css) (.refl S w) (λg hg aG=>rfl) (jm _) iz
         (λg o hs=> .inl hs) rfl rfl rfl bk (ah.take _) (λg hg=>⟨λ_=>(hS g (by rw[<-hz,<-hblk];exact hg)).1 rfl,by simp⟩) (λg hg=>hR.kw_live hk (by rw[<-hz,<-hblk];exact hg))
        exact⟨v',S,_,ai,bP,eT⟩
       .simp at h
      ·-- shared
       simp only[j3,j7,j9,jg]at h;obtain⟨⟨h0,h1,h2⟩,rfl,rfl⟩:=h;obtain⟨S',aY,al,aH⟩:=BF hR bD hk iZ;have gS:=aH;obtain⟨ad,cap,hv,hle,_⟩:=aH;simp at hv;rw[hv]at gS;refine⟨_,S',γ,by rw[hz,hv];exact rQ hd (s:=el.size) (by rw[eO hT bJ,bb]) (oa eC fm h0) (oa jB gh (by omega)) (by omega) (by omega),aY,GA gS (by omega) (by omega),λ_=>rfl⟩
     .simp at h
    .simp at h
   .simp at h
 ·-- of a head
  rename_i k m;split at h
  .rename_i e el xs f hk;split at h
   .rename_i aD;obtain⟨aD,MK⟩:=aD;obtain⟨hd,_,te,bJ,bo⟩:=iu hT ht aD;have bb:=gL hT bJ bo;split at h
    .rename_i i j eC jB;simp only[j3,j7,j9,jg]at h;obtain⟨⟨h0,h1,h2⟩,rfl,rfl⟩:=h;have bD:=aq.nm hk;have hk:=aq.live hk;obtain⟨_,hm,ad,cap,hg,hz⟩:=hx.2.2 _ hk;obtain⟨css,ao,_⟩:=yr hg (hR.box k _ hk)
     have dY:xs.length<=cap:=by
      rcases ao.2 with⟨ae,hn⟩|⟨g,dX,cur,ae,_,_,fh,_⟩
      .omega
      .rw[hg]at ae;simp only[Value.slice.injEq,kx]at ae;omega
     have ob:VB m nc xs.length:=by
      have:=oa jB gh (by omega);rw[h2,j6]at this;rcases this with⟨h3,_⟩|h3
      .cases hi with
       |none=>simp at MK
       |some y=>subst h3;exact gh.elim
      .exact .inr h3
     have ai:=rQ (ad:=ad) (w:=w) hd (s:=el.size) (by rw[eO hT bJ,bb]) (oa eC fm h0) ob (by omega) dY;subst hz;refine⟨_,S,γ,ai,hR,⟨hx.1,rfl,λb hb=>?_⟩,λ_=>rfl⟩;rw[show (σ.upd []).bx k=σ.bx k from rfl,hk]at hb;cases hb;exact⟨bD,by omega,ad,cap,hg,rfl⟩
    .simp at h
   .simp at h
  .simp at h
 .simp at h
theorem ML{P:Program}{E:Env}(hT:bt P E.T)(hR:Rel N np S0 w0 refs σ a w S γ){rd:Nat->BS}(aq:RdOk σ rd){t:TypeId}{ti:TyI}(ht:E.T t=some ti)
  {x mx:Leaf}{lo hi:Option Leaf}{vx vm:Value}{lP nc:Option Value}(h:tp rd ti x lo hi mx=some true)
  (hx:aL S w γ σ.bx x vx)(fm:ORep (aL S w γ σ.bx) lo lP)(gh:ORep (aL S w γ σ.bx) hi nc)(yL:aL S w γ σ.bx mx vm) :
  ∃v,(Instr.sliceAt t vx lP nc (some vm)).run P w = .ok v w:=by
 unfold tp at h;split at h
 case h_2=>simp at h
 rename_i k k1 i k2 j k3 m;split at h
 case h_2=>simp at h
 rename_i e el xs f hk;split at h
 case isFalse=>simp at h
 rename_i aD;simp only[j3,j9,jg]at h;obtain⟨h0,h1,h2,h3⟩:=h;obtain⟨hd,_,te,bJ,bo⟩:=iu hT ht aD;have bb:=gL hT bJ bo;have bD:=aq.nm hk;have hk:=aq.live hk;have hz:=hx.2.2 _ hk;cases lP with
 |none=>exact fm.elim
 |some vl=>
 cases nc with
 |none=>exact gh.elim
 |some vh=>
 have e1:vl = .int k1 i:=iV (S:=S) (w:=w) fm;have e2:vh = .int k2 j:=iV (S:=S) (w:=w) gh;have e3:vm = .int k3 m:=iV (S:=S) (w:=w) yL;subst e1 e2 e3;obtain⟨css,ao,_⟩:=eN bD (hR.box k _ hk);have he:=Gz hd;have eH:P.underlying t=some (.slice (P.elem t)):=by rw[he];exact hd
 rw[run_sliceAt_slice w t _ _ _ _ eH];have dE:(sizeOf (P.elem t)).run P w = .ok el.size w:=by rw[he];rw[eO hT bJ,bb]
 have key:∀ad n cap,(m:Int)<=(cap:Nat)->∃v,(Instr.slice t (.slice ad n cap) (some (.int k1 i)) (some (.int k2 j)) (some (.int k3 m))).run P w = .ok v w:=by intro ad n cap hc;rw[run_slice_lhm w t ad n cap eH _ _ _ _ _ _ h0 h1 h2 hc,dE];exact⟨_,rfl⟩
 rcases ao.2 with⟨hg,hn⟩|⟨g,cap,cur,hg,_,hh,fh,_⟩
 .rw[hz,hg];exact key _ _ _ (Int.le_trans h3 (by omega))
 .rw[hz,hg];exact key _ _ _ (Int.le_trans h3 (by omega))
theorem GB(hR:Rel N np S0 w0 refs σ a w S γ){x:Leaf}{k i e:Nat}{el:Ty}{xs:List el.den}{f:Bool}{vx:Value}(h:yf x=some (k,i))(bD:isM e=false)(hk:σ.bx k = .live (.lst e el xs f))
  (hx:aL S w γ σ.bx x vx):i<=xs.length/\((xs.length=0/\vx = .slice none 0 0)\/
   ∃g cap,γ k = .slice (some ⟨g,0,none⟩) xs.length cap/\xs.length<=cap/\vx = .slice (some ⟨g,if cap=i then 0 else i*el.size,none⟩) (xs.length-i) (cap-i)):=by
 obtain⟨css,ao,ah,hS⟩:=eN bD (hR.box k _ hk);unfold yf at h;split at h
 .simp only[j3,j7]at h;obtain⟨rfl,rfl⟩:=h;have hz:=hx.2.2 _ hk;refine⟨kf _,?_⟩;rcases ao.2 with⟨hg,hn⟩|⟨g,cap,cur,hg,_,hh,fh,fV,cp,ca⟩
  .exact .inl ⟨hn,by rw[hz,hg]⟩
  .exact .inr ⟨g,cap,hg,fh,by rw[hz,hg];simp⟩
 .rename_i k' i';simp only[j3,j7]at h;obtain⟨rfl,rfl⟩:=h;obtain⟨_,hi,ad,cap,ae,hv⟩:=hx.2.2 _ hk;refine⟨hi,?_⟩;rcases ao.2 with⟨hg,hn⟩|⟨g,dX,cur,hg,_,hh,fh,fV,cp,ca⟩
  .rw[hg]at ae;simp only[Value.slice.injEq]at ae;obtain⟨rfl,_,rfl⟩:=ae;exact .inl ⟨hn,by rw[hv];simp;omega⟩
  .rw[hg]at ae;simp only[Value.slice.injEq,kx]at ae;obtain⟨rfl,rfl⟩:=ae;refine .inr ⟨g,dX,hg,fh,?_⟩;rw[hv];by_cases hc:dX=i'
   .rw[if_pos hc,if_pos hc]
   .rw[if_neg hc,if_neg hc];simp[Addr.add_lit]
 .simp at h
theorem BV{P:Program}(hR:Rel N np S0 w0 refs σ a w S γ){k i e g cap:Nat}{el:Ty}{xs zs:List el.den}(hk:σ.bx k = .live (.lst e el xs false))(hg:γ k = .slice (some ⟨g,0,none⟩) xs.length cap)
  {cz:List (List Value)}(hz:All2 (λx c=>Rep S w el x c) zs cz)(hl:i+zs.length<=xs.length) :
  ∃w',(storeCells ⟨g,i*el.size,none⟩ cz.flatten).run P w = .ok () w'/\Rel N np S0 w0 refs (σ.setB k (.live (.lst e el (List.take i xs++(zs++List.drop (i+zs.length) xs)) false))) a w' S γ:=by
 have bD:=F0 hg (hR.box k _ hk);obtain⟨css,ao,ah,hS⟩:=eN bD (hR.box k _ hk);have iA:cz.flatten.length=zs.length*el.size:=All2.flatten_length (λx c hx=>Rep.length el x c hx) hz;have h1:∀u∈cz.flatten,One u:=by intro u hu;obtain⟨c,hc,rG⟩:=List.mem_flatten.1 hu;obtain⟨x,_,hx⟩:=hz.mem_right c hc;exact Rep.one el x c hx u rG
 rcases ao.2 with⟨ae,hn⟩|⟨g',dX,cur,ae,_,hh,fh,fV,cp,ca⟩
 .rw[hg]at ae;simp at ae
 rw[hg]at ae;simp only[Value.slice.injEq,j3,Addr.mk.injEq,and_true,kx]at ae;obtain⟨rfl,rfl⟩:=ae;have ew:i*el.size+zs.length*el.size<=xs.length*el.size:=by rw[<-Nat.add_mul];exact k6 _ hl
 have ij:xs.length*el.size<=cap*el.size:=k6 _ fh;have al:=run_storeCells_at P g (i*el.size) e cz.flatten 0 cur w hh (by rw[iA,cp];omega) h1;simp only[zh]at al;refine⟨_,al,?_⟩;have dm:=All2.all_len ah;have BW:=All2.all_len hz;have pF:∀o,¬S g o:=(hS g (by rw[hg];rfl)).1 rfl;refine vB hR hk (by rw[hg];rfl) pF (b':= .lst e el _ false) ⟨rfl,rfl,λ_=>by simp;omega⟩ hh (λdB bO=>?_);have hlen:(List.take i xs++(zs++List.drop (i+zs.length) xs)).length=xs.length:=by simp;omega
 refine vp bD ⟨css.take i++(cz++css.drop (i+zs.length)),⟨?_,.inr ⟨g,cap,_,?_,kf _,setRow_heap w g cur _ e (0,0) hh,by rw[hlen];exact fh,fV,?_,?_⟩⟩,?_,λg' ae=>?_⟩
 .rw[hlen,rM (m:=el.size)]
  .have:=ah.length;have:=hz.length;simp only[ja,qa,qw];congr 1;omega
  .intro d hd;simp only[jq]at hd;rcases hd with hd|hd|hd
   .exact dm d (kr hd)
   .exact BW d hd
   .exact dm d (z8 hd)
 .rw[hlen];exact hg
 .simp only[zg,ja,qa,qw,kz];omega
 .rw[hlen];simp only[zc,pG i dm,vF _ dm,<-ca];have hA:(cur.toList.take (i*el.size)).length=i*el.size:=by simp;omega
  rw[jd,List.take_append,hA,List.take_of_length_le (by omega),List.take_take,Nat.min_eq_left (by omega)];congr 1;rw[List.take_append,iA,List.take_of_length_le (by omega),Nat.add_mul];congr 1;rw[List.drop_take];congr 1;omega
 .exact((ah.mono (λx c hx=>Rep.keep bO _ _ _ hx)).take _).append ((hz.mono (λx c hx=>Rep.keep bO _ _ _ hx)).append ((ah.mono (λx c hx=>Rep.keep bO _ _ _ hx)).drop _))
 .rw[hg]at ae;simp[blk]at ae;subst ae;exact⟨λ_=>pF,by simp⟩
theorem GC{σ:St}{k:Nat}{b:BS}(h:σ.bx k=b):σ.setB k b=σ:=by
 unfold St.setB;congr 1;funext j;split
 .rename_i hj;subst hj;exact h.symm
 .rfl
theorem MM{P:Program}{E:Env}(hT:bt P E.T)(hR:Rel N np S0 w0 refs σ a w S γ){rd:Nat->BS}(aq:RdOk σ rd){t ty:TypeId}{ti:TyI}(ht:E.T t=some ti)
  {x y l:Leaf}{u:Ups}{vx vy:Value}(h:tq rd ti.ty x y=some (l,u))(hx:aL S w γ σ.bx x vx)(hy:aL S w γ σ.bx y vy) :
  ∃v w',(Builtin.copy_ #[t,t] ty #[vx,vy]).run P w = .ok v w'/\Rel N np S0 w0 refs (σ.upd u) a w' S γ/\aQ S w' γ (σ.upd u).bx (.one l) v:=by
 unfold tq at h;split at h
 .rename_i k i vK;split at h
  .rename_i e el xs hk;split at h
   .rename_i aD;split at h
    .rename_i ys vL;simp only[j3,j7]at h;obtain⟨rfl,rfl⟩:=h;have bD:=aq.nm hk;have hk:=aq.live hk;obtain⟨hd,bZ,te,bJ,bo⟩:=iu hT ht aD;have bb:=gL hT bJ bo;have dq:(sizeOf ti.elem).run P w = .ok el.size w:=by rw[eO hT bJ,bb]
     obtain⟨ad,c,cy,BM,dD,rO,cj⟩:=Gr hR aq vL hy;subst BM;obtain⟨hi,bA⟩:=GB hR vK bD hk hx;have vM:=All2.all_len rO;have BX:cy.length=ys.length:=rO.length.symm;have iY:(List.take (xs.length-i) ys).length=min ys.length (xs.length-i):=by simp;omega
     have tR:over xs i ys=List.take i xs++(List.take (xs.length-i) ys++List.drop (i+(List.take (xs.length-i) ys).length) xs):=by
      unfold over;congr 2;rw[iY];by_cases h:ys.length<=xs.length-i
      .rw[Nat.min_eq_left h]
      .rw[Nat.min_eq_right (by omega),jh (by omega),jh (by omega)]
     have pK:(Builtin.firstCells el.size (min ys.length (xs.length-i)) (.slice ad ys.length c)).run P w = .ok (List.take (xs.length-i) cy).flatten.toArray w:=by
      cases ad with
      |none=>have h0:=(dD rfl).1;have:cy=[]:=jp (by omega);subst this;simp[Builtin.firstCells]
      |some b=>
       have e1:(List.take (xs.length-i) cy).flatten.length=min ys.length (xs.length-i)*el.size:=by rw[rM (m:=el.size) (λc hc=>vM c (kr hc)),qa,BX,Nat.min_comm]
       have:=run_loadCells_list (P:=P) w b (List.take (xs.length-i) cy).flatten (λj v hj=>by
        rw[pG _ vM,kn]at hj;split at hj
        .exact cj b rfl j v hj
        .simp at hj)
       rw[e1]at this;simpa[Builtin.firstCells]using this
     have ai:∀base dl dc w',vx = .slice base dl dc->dl=xs.length-i->(base=none->w'=w)->(∀ab,base=some ab->(storeCells ab (List.take (xs.length-i) cy).flatten).run P w = .ok () w')->
       (Builtin.copy_ #[t,t] ty #[vx,.slice ad ys.length c]).run P w = .ok (goInt ((min ys.length (xs.length-i):Nat):Int)) w':=by
      intro base dl dc w' hv jZ cb cG;subst hv jZ;have vN:Nat.min ys.length (xs.length-i)=min ys.length (xs.length-i):=rfl;cases base with
      |none=>simp[Builtin.copy_,run_underlying hd,Builtin.lenOf,dq,vN,pK,cb rfl]
      |some ab=>simp[Builtin.copy_,run_underlying hd,Builtin.lenOf,dq,vN,pK,cG ab rfl]
     by_cases hn:min ys.length (xs.length-i)=0
     .have hz:List.take (xs.length-i) ys=[]:=jp (by rw[iY];exact hn);have ef:(List.take (xs.length-i) cy).flatten=[]:=by have:List.take (xs.length-i) cy=[]:=jp (by rw[qa,BX];omega);rw[this];rfl
      have BZ:over xs i ys=xs:=by rw[tR,hz];simp
      refine⟨_,w,?_,?_,⟨rfl,λ_=>rfl⟩⟩
      .rcases bA with⟨h0,hv⟩|⟨g,cap,hg,dY,hv⟩
       .exact ai none 0 0 w hv (by omega) (λ_=>rfl) (λab pL=>by simp at pL)
       .refine ai _ _ _ w hv rfl (λ_=>rfl) (λab pL=>?_);rw[ef];rfl
      .show Rel N np S0 w0 refs (σ.setB k (.live (.lst e el (over xs i ys) false))) a w S γ;rw[BZ,GC hk];exact hR
     .rcases bA with⟨h0,hv⟩|⟨g,cap,hg,dY,hv⟩
      .omega
      .have iw:cap≠i:=by omega
       rw[if_neg iw]at hv;obtain⟨w',al,bP⟩:=BV (P:=P) hR hk hg (i:=i) (rO.take (xs.length-i)) (by rw[iY];omega);refine⟨_,w',ai _ _ _ w' hv rfl (λh=>by simp at h) (λab pL=>?_),?_,⟨rfl,λ_=>rfl⟩⟩
       .simp only[j3]at pL;subst pL;exact al
       .show Rel N np S0 w0 refs (σ.setB k (.live (.lst e el (over xs i ys) false))) a w' S γ;rw[tR];exact bP
    .simp at h
   .simp at h
  .simp at h
 .simp at h
theorem MN{P:Program}{E:Env}(hT:bt P E.T)(hR:Rel N np S0 w0 refs σ a w S γ){rd:Nat->BS}(aq:RdOk σ rd){t ty:TypeId}{ti:TyI}(ht:E.T t=some ti)
  {x:Leaf}{u:Ups}{vx:Value}(h:tt rd ti.ty x=some u)(hx:aL S w γ σ.bx x vx) :
  ∃v w',(Builtin.clear_ #[t] ty #[vx]).run P w = .ok v w'/\Rel N np S0 w0 refs (σ.upd u) a w' S γ:=by
 unfold tt at h;split at h
 .rename_i k i vK;split at h
  .rename_i e el xs hk;split at h
   .rename_i aD;simp only[j3]at h;subst h;have bD:=aq.nm hk;have hk:=aq.live hk;obtain⟨hd,bZ,te,bJ,bo⟩:=iu hT ht aD;have bb:=gL hT bJ bo;obtain⟨z,hz,ef⟩:=rH hT bJ w bo;obtain⟨hi,bA⟩:=GB hR vK bD hk hx;by_cases hn:xs.length-i=0
    .have tR:List.take i xs++List.replicate (xs.length-i) el.dflt=xs:=by rw[hn];simp[List.take_of_length_le (show xs.length<=i by omega)]
     refine⟨.tuple #[],w,?_,?_⟩
     .rcases bA with⟨h0,hv⟩|⟨g,cap,hg,dY,hv⟩
      .simp[Builtin.clear_,run_underlying hd,hv]
      .rw[hn]at hv;simp[Builtin.clear_,run_underlying hd,hv]
     .show Rel N np S0 w0 refs (σ.setB k (.live (.lst e el (List.take i xs++List.replicate (xs.length-i) el.dflt) false))) a w S γ;rw[tR,GC hk];exact hR
    .rcases bA with⟨h0,hv⟩|⟨g,cap,hg,dY,hv⟩
     .omega
     .have iw:cap≠i:=by omega
      rw[if_neg iw]at hv
      have GD:All2 (λx c=>Rep S w el x c) (List.replicate (xs.length-i) el.dflt) (List.replicate (xs.length-i) (fI el)):=by
       have h0:=la (S:=S) (w:=w) el
       have:∀n,All2 (λx c=>Rep S w el x c) (List.replicate n el.dflt) (List.replicate n (fI el)):=by
        intro n;induction n with
        |zero=>exact trivial
        |succ n ih=>exact⟨h0,ih⟩
       exact this _
      obtain⟨w',al,bP⟩:=BV (P:=P) hR hk hg (i:=i) GD (by simp;omega);refine⟨.tuple #[],w',?_,?_⟩
      .have MO:0<z.cells.size:=by have:=yJ ef;omega
       have bU:(Builtin.zeroCells z.cells (xs.length-i)).toList=(List.replicate (xs.length-i) (fI el)).flatten:=by rw[<-ef];exact Gu z.cells (xs.length-i) MO
       rw[hv];obtain⟨m,hm⟩:∃m,xs.length-i=m+1:=⟨xs.length-i-1,by omega⟩;rw[hm]at bU al ⊢;simp[Builtin.clear_,run_underlying hd,hz,bU,al]
      .show Rel N np S0 w0 refs (σ.setB k (.live (.lst e el (List.take i xs++List.replicate (xs.length-i) el.dflt) false))) a w' S γ;have:List.drop (i+(List.replicate (xs.length-i) el.dflt).length) xs=[]:=jh (by simp;omega);rw[this,jw]at bP;exact bP
   .simp at h
  .simp at h
 .simp at h
theorem MP{P:Program}{E:Env}(hT:bt P E.T)(hR:Rel N np S0 w0 refs σ a w S γ){rd:Nat->BS}(aq:RdOk σ rd){t ty:TypeId}{ti:TyI}(ht:E.T t=some ti){el:Ty}(aD:ti.ty=some (.list el))
  {s x v:Leaf}{u:Ups}{vs vx:Value}(h:appH rd ti.elem el s x=some (true,v,u))(hs:aL S w γ σ.bx s vs)(hx:aL S w γ σ.bx x vx) :
  ∃z w',(Builtin.append_ #[t,t] ty #[vs,vx]).run P w = .ok z w'/\Rel N np S0 w0 refs (σ.upd u) a w' S γ/\aL S w' γ (σ.upd u).bx v z/\One z:=by
 unfold appH at h;split at h
 case h_2=>simp at h
 rename_i k i k' j;split at h
 case isFalse=>simp at h
 rename_i ba;subst ba;split at h
 case h_2=>simp at h
 rename_i e b xs hk;split at h
 case isFalse=>simp at h
 rename_i hb;obtain⟨hb,he⟩:=hb;subst hb;subst he;simp only[j3,j7,jg]at h;obtain⟨cC,rfl,rfl⟩:=h;obtain⟨hd,_,te,bJ,bo⟩:=iu hT ht aD;have bb:=gL hT bJ bo;obtain⟨inf,d,hi,_,fY,_⟩:=ig hT bJ;have gi:inf.size=b.size:=by rw[fY,<-bb]
 have bD:=aq.nm hk;have hk:=aq.live hk;obtain⟨_,kA,ad,cap,hg,eI⟩:=hs.2.2 _ hk;obtain⟨_,tS,MG,dX,ae,rP⟩:=hx.2.2 _ hk;rw[hg]at ae;simp only[Value.slice.injEq,kx]at ae;obtain⟨rfl,rfl⟩:=ae;obtain⟨css,ao,ah,hS⟩:=yr hg (hR.box k _ hk);have dm:=All2.all_len ah;have jC:(List.take i xs++(List.drop j xs++List.drop (i+(xs.length-j)) xs)).length=xs.length:=by simp;omega
 have fL:∀(w':World),aL S w' γ (σ.setB k (.live (.lst ti.elem b (List.take i xs++(List.drop j xs++List.drop (i+(xs.length-j)) xs)) false))).bx (.hd k (i+(xs.length-j))) (.slice ad (i+(xs.length-j)) cap):=by intro w';refine⟨by rw[c9];simp,rfl,λb' aj=>?_⟩;rw[c9]at aj;cases aj;exact⟨bD,by rw[jC];omega,ad,cap,by rw[jC];exact hg,rfl⟩
 rcases ao.2 with⟨dp,hn⟩|⟨g,vO,cur,dp,_,hh,fh,fV,cp,ca⟩
 .rw[hg]at dp;simp only[Value.slice.injEq]at dp;obtain⟨rfl,_,rfl⟩:=dp;have na:xs=[]:=jp hn;subst na;have MQ:i=0:=by simpa using kA
  have BU:j=0:=by simpa using tS
  subst MQ BU;have ai:=run_append_owned_none (P:=P) w 0 t ty ti.elem inf b.size hd hi (.slice none 0 0) 0 [] (World.ownsRow_nil w 0 ti.elem b.size)
  have MR:σ.setB k (.live (.lst ti.elem b ([]:List b.den) false))=σ:=by
   show St.mk σ.sl _=σ
   have:(λj=>if j=k then BS.live (.lst ti.elem b ([]:List b.den) false) else σ.bx j)=σ.bx:=by
    funext j
    by_cases hj:j=k
    .subst hj;simp[hk]
    .simp[hj]
   rw[this]
  refine⟨_,w,by rw[eI,rP];exact ai,?_,fL w,rfl⟩;show Rel N np S0 w0 refs (σ.setB k (.live (.lst ti.elem b ([]:List b.den) false))) a w S γ;rw[MR];exact hR
 .rw[hg]at dp;simp only[Value.slice.injEq,kx]at dp;obtain⟨rfl,rfl⟩:=dp;obtain⟨w',al,bP⟩:=BV (P:=P) (i:=i) hR hk hg (ah.drop j) (by simp;omega);have iA:(css.drop j).flatten.length=(xs.length-j)*b.size:=by have:=All2.flatten_length (λx c hx=>Rep.length b x c hx) (ah.drop j);simpa using this
  have h1:∀u∈(css.drop j).flatten,One u:=by intro u hu;obtain⟨c,hc,rG⟩:=List.mem_flatten.1 hu;obtain⟨x,_,hx⟩:=(ah.drop j).mem_right c hc;exact Rep.one b x c hx u rG
  have ew:i*b.size+(xs.length-j)*b.size<=xs.length*b.size:=by rw[<-Nat.add_mul];exact k6 _ (by omega)
  have ij:xs.length*b.size<=cap*b.size:=k6 _ fh;have bO:=run_storeCells_at P g (i*b.size) _ (css.drop j).flatten 0 cur w hh (by rw[iA,cp];omega) h1;simp only[zh]at bO;have hw:w'=w.setRow g (cur.toList.take (i*b.size)++(css.drop j).flatten++cur.toList.drop (i*b.size+(css.drop j).flatten.length)).toArray:=by have:=al.symm.trans bO;simpa using this
  have bU:∀q u,(css.drop j).flatten[q]? = some u->w.cell? ((⟨g,if cap=j then 0 else j*b.size,none⟩:Addr).add q)=some u:=by
   intro q u hq;have GF:q<(xs.length-j)*b.size:=by rw[<-iA];exact(jk.1 hq).1
   have hc:¬cap=j:=by
    intro hc;have:xs.length-j=0:=by omega
    rw[this]at GF;simp at GF
   rw[if_neg hc,Addr.add_lit];rw[vF j dm,qz]at hq;have:=ao.cells (g:=g) (by rw[hg];rfl) _ u hq;rwa[Addr.add_lit,ju]at this
  have ai:=run_append_room (P:=P) w t ty ti.elem inf hd hi g i cap cur (by exact hh) ⟨g,if cap=j then 0 else j*b.size,none⟩ (xs.length-j) (cap-j) (css.drop j).flatten (by rw[gi];exact iA) bU h1 (by omega)
   (by rw[gi,iA,cp];omega)
  have B0:vx = .slice (some ⟨g,if cap=j then 0 else j*b.size,none⟩) (xs.length-j) (cap-j):=by
   rw[rP];by_cases hc:cap=j
   .rw[if_pos hc,if_pos hc]
   .rw[if_neg hc,if_neg hc];simp[Addr.add_lit]
  refine⟨_,w',by rw[eI,B0,ai,hw,gi],?_,fL w',rfl⟩;have:(List.drop j xs).length=xs.length-j:=by simp
  rw[this]at bP;exact bP
theorem MS{P:Program}{E:Env}(hT:bt P E.T)(hR:Rel N np S0 w0 refs σ a w S γ){rd rdf:Nat->BS}(aq:RdOk σ rd)(aE:RdF np σ rdf){t ty:TypeId}{ti:TyI}(ht:E.T t=some ti){el:Ty}(aD:ti.ty=some (.list el)){n:Nat}
  {s x v:Leaf}{u:Ups}{vs vx:Value}(h:appN rd rdf el n s x=some (v,u))(hs:aL S w γ σ.bx s vs)(hx:aL S w γ σ.bx x vx) :
  ∃z w' γ',(Builtin.append_ #[t,t] ty #[vs,vx]).run P w = .ok z w'/\Rel N np S0 w0 refs (σ.upd u) a w' S γ'/\aL S w' γ' (σ.upd u).bx v z/\One z:=by
 unfold appN at h;split at h
 case h_2=>simp at h
 rename_i k;split at h
 case h_2=>simp at h
 rename_i ls hk;split at h
 case isFalse=>simp at h
 rename_i hc;obtain⟨nd,gy⟩:=hc;simp only[j3,j7]at h;obtain⟨rfl,rfl⟩:=h;have hn:=aq.free gy;have hk:=aE.ok.live hk;have eI:vs = .slice none 0 0:=hs;subst eI;obtain⟨g,cap,hg,rfl,dP,eQ⟩:=hx.2.2 _ hk;obtain⟨g',cur,e,ae,hh,bT,h1,hS,_⟩:=hR.box k _ hk;rw[hg]at ae;simp at ae;subst ae;have lK:n≠k:=by rintro rfl;rw[hn]at hk;simp at hk
 have hlen:(cur.toList.take ls.length).length=el.size:=by rw[<-bT.length,nd]
 obtain⟨v',w',hr,bk,os,tape,output,bb,bA⟩:=Gq (ty:=ty) hT ht aD (World.ownsRow_nil w 0 ti.elem el.size) (ad:=some ⟨g,0,none⟩) (m:=1) (c:=cap) (news:=cur.toList.take ls.length) (by simp) (by rw[hlen];omega)
  (λb hb j u hu=>by
   simp at hb;subst hb;rw[Addr.add_lit,ju,cell_of_row w g j cur e (0,0) hh];rw[kn]at hu;split at hu
   .simpa using hu
   .simp at hu) h1 (by simp[cY])
 rw[js]at bk;rcases bk.2 with⟨_,hz⟩|⟨g2,vO,rS,rfl,_,tT,dB,B3,MT,lQ⟩
 .simp at hz
 have bA:g2=w.heap.size/\∀g,g<w.heap.size->w'.heap[g]? = w.heap[g]? := by
  rcases bA with⟨h2,_⟩|⟨_,⟨g3,h3⟩,_⟩|⟨h2,h3⟩
  .simp at h2
  .simp[blk]at h3
  .exact⟨by simpa[blk]using h2,h3⟩
 obtain⟨rfl,hold⟩:=bA;have al:cm S w S w':=λg o h=>⟨h,World.cell?_of_block (hold g (hR.here g o h))⟩
 have hle:BxLe γ σ.bx (gset γ n (.pointer (some ⟨w.heap.size,0,none⟩))) ((σ.setB k .gone).setB n (.live (.cell ls false))).bx:=by
  intro k' aS;have aG:k'≠n:=by rintro rfl;exact aS hn
  rw[bu _ _ aG,dn γ _ aG];by_cases ba:k'=k
  .subst ba;rw[c9];exact⟨by simp,rfl,λb hb=>by simp at hb⟩
  .rw[bu _ _ ba];exact⟨aS,rfl,λb hb=>⟨b,hb,.refl b⟩⟩
 have eh:∀k' b,((σ.setB k .gone).setB n (.live (.cell ls false))).bx k' = .live b->(k'=n/\b = .cell ls false)\/(k'≠n/\σ.bx k' = .live b):=by
  intro k' b hb;by_cases aG:k'=n
  .subst aG;rw[c9]at hb;simp at hb;exact .inl ⟨rfl,hb.symm⟩
  .rw[bu _ _ aG]at hb;by_cases ba:k'=k
   .subst ba;rw[c9]at hb;simp at hb
   .rw[bu _ _ ba]at hb;exact .inr ⟨aG,hb⟩
 refine⟨_,w',gset γ n (.pointer (some ⟨w.heap.size,0,none⟩)),hr,?_,?_,rfl⟩
 .refine Rel.step (bx':=((σ.setB k .gone).setB n (.live (.cell ls false))).bx) hR al hle ?_ ?_ ?_ hR.new ?_ ?_ (qg hR.grow bb) (os.trans hR.os) (tape.trans hR.tape) (output.trans hR.output) (λg hg _ h=>⟨hold g hg,λk' b hb bH=>?_⟩)
  .intro k' b hb;rcases eh k' b hb with⟨rfl,rfl⟩|⟨aG,hb⟩
   .refine⟨w.heap.size,rS,_,cT _ _ _,tT,?_,?_,λ_ o=>vA hR o,by simp⟩
    .have:rS.toList.take ls.length=cur.toList.take ls.length:=by rw[<-lQ,nd];congr 1;omega
     rw[this];exact bT.mono λx u hx=>aL.keep al hle hx
    .have:rS.toList.take ls.length=cur.toList.take ls.length:=by rw[<-lQ,nd];congr 1;omega
     rw[this];exact h1
   .exact cP.keep al hle (dn γ _ aG) (λg hg=>⟨hold g (fj (hR.box k' b hb) hg),λ_=>Iff.rfl⟩) (hR.box k' b hb)
  .intro k' b g hb hg;rcases eh k' b hb with⟨rfl,rfl⟩|⟨aG,hb⟩
   .rw[cT]at hg;simp[blk]at hg;subst hg;exact .inl (.inl hR.grow)
   .rw[dn γ _ aG]at hg;exact hR.own k' b g hb hg
  .intro k1 k2 b1 b2 g aG h1 h2 ga dp;rcases eh k1 b1 h1 with⟨q1,_⟩|⟨gE,q1⟩
   .rw[q1,cT]at ga;simp[blk]at ga;subst ga;rcases eh k2 b2 h2 with⟨q2,_⟩|⟨tU,q2⟩
    .exact aG (q1.trans q2.symm)
    .rw[dn γ _ tU]at dp;have:=fj (hR.box k2 b2 q2) dp;omega
   .rw[dn γ _ gE]at ga;rcases eh k2 b2 h2 with⟨q2,_⟩|⟨tU,q2⟩
    .rw[q2,cT]at dp;simp[blk]at dp;subst dp;have:=fj (hR.box k1 b1 q1) ga;omega
    .rw[dn γ _ tU]at dp;exact hR.apart k1 k2 b1 b2 g aG q1 q2 ga dp
  .intro g o hs;exact q9 (hR.here g o hs) bb
  .intro g hg lN;rw[hold g (q9 hg hR.grow)];exact hR.below g hg lN
  .rcases eh k' b hb with⟨rfl,rfl⟩|⟨aG,hb⟩
   .rw[cT]at bH;simp[blk]at bH;omega
   .rw[dn γ _ aG]at bH;exact h k' b hb bH
 .refine⟨by show ((σ.setB k .gone).setB n (.live (.cell ls false))).bx n≠_;rw[c9];simp,rfl,λb hb=>?_⟩;have hb:((σ.setB k .gone).setB n (.live (.cell ls false))).bx n = .live b:=hb;rw[c9]at hb;cases hb;exact⟨w.heap.size,vO,cT _ _ _,rfl,by omega,B3⟩
theorem MU(hR:Rel N np S0 w0 refs σ a w S γ){k d e m:Nat}{el:Ty}{xs:List el.den}(hk:σ.bx k = .live (.lst e el xs false))(iZ:parK np k=false)(vJ:σ.bx d = .free){ad:Option Addr}{cap:Nat}(hm:m<=xs.length)
  (hg:γ k = .slice ad xs.length cap) :
  ∃γ',Rel N np S0 w0 refs (σ.upd [(k,.gone),(d,.live (.lst e el (List.take m xs) false))]) a w S γ'/\aQ S w γ' (σ.upd [(k,.gone),(d,.live (.lst e el (List.take m xs) false))]).bx (.one (.ol d)) (.slice ad m cap):=by
 have nb:d≠k:=by rintro rfl;rw[vJ]at hk;simp at hk
 have bD:=F0 hg (hR.box k _ hk);obtain⟨css,ao,ah,hS⟩:=eN bD (hR.box k _ hk);have dm:=All2.all_len ah;have aJ:=yF hR hk;have mX:(σ.setB k .gone).bx d = .free:=by rw[bu σ _ nb];exact vJ
 have ax:(List.take m xs).length=m:=by simp;omega
 have hblk:blk (.slice ad m cap)=blk (γ k):=by rw[hg];cases ad<;>rfl
 have bk:w.ownsRow 0 e el.size (.slice ad m cap) (List.take m xs).length (List.take m css).flatten:=by
  refine⟨?_,?_⟩
  .rw[pG _ dm,qa,ao.1,ax];exact Nat.min_eq_left (k6 _ hm)
  .rcases ao.2 with⟨ae,hn⟩|⟨g,dX,cur,ae,_,hh,fh,fV,cp,ca⟩
   .rw[hg]at ae;simp only[Value.slice.injEq]at ae;obtain⟨rfl,_,rfl⟩:=ae;exact .inl ⟨by rw[show m=0 by omega],by omega⟩
   .rw[hg]at ae;simp only[Value.slice.injEq,kx]at ae;obtain⟨rfl,rfl⟩:=ae;refine .inr ⟨g,cap,cur,by rw[ax],kf _,hh,by omega,fV,cp,?_⟩;rw[ax,pG _ dm,<-ca,List.take_take,Nat.min_eq_left (k6 _ hm)]
 have iz:∀g,blk (.slice ad m cap)=some g->Own w0 refs g/\(∀k' b,(σ.setB k .gone).bx k' = .live b->blk (γ k')≠some g)/\g<w.heap.size:=by
  intro g hg;rw[hblk]at hg;refine⟨?_,λk' b' aj ae=>?_,fj (hR.box k _ hk) hg⟩
  .rcases hR.own k _ g hk hg with h|h
   .exact h
   .rw[iZ]at h;simp at h
  .have ba:k'≠k:=by rintro rfl;rw[c9]at aj;simp at aj
   rw[bu σ _ ba]at aj;exact hR.apart k' k _ _ g ba aj hk ae hg
 obtain⟨bP,eT⟩:=tO aJ mX (hm:=bD) (w':=w) (S':=S) (v':= .slice ad m cap) (e:=e) (el:=el) (zs:=List.take m xs) (frz:=false) (css:=List.take m css) (.refl S w) (λg hg aG=>rfl) (jm _) iz
  (λg o hs=> .inl hs) rfl rfl rfl bk (ah.take _) (λg hg=>⟨λ_=>(hS g (by rw[<-hblk];exact hg)).1 rfl,by simp⟩) (λg hg=>hR.kw_live hk (by rw[<-hblk];exact hg))
 exact⟨_,bP,eT⟩
end
section
variable{N:NT}{np:Nat}{S0:an}{w0:World}{refs:Refs}{σ:St}{a:Go.Act}{w:World}{S:an}{γ:Nat->Value}
theorem MV{el:Ty}{z:Value}(hz:z.cells.toList=fI el)(n:Nat)(bZ:0<el.size) :
  ∃css,All2 (λx c=>Rep S w el x c) (List.replicate n el.dflt) css/\((Array.range (n*z.cells.size)).map (λi=>z.cells[i%z.cells.size]!)).toList=css.flatten:=by
 refine⟨List.replicate n (fI el),?_,?_⟩
 .have hz:=la (S:=S) (w:=w) el;induction n with
  |zero=>exact trivial
  |succ n ih=>exact⟨hz,ih⟩
 .rw[Gu z.cells n (by rw[yJ hz];exact bZ),hz]
theorem MW{P:Program}{E:Env}(hT:bt P E.T)(hR:Rel N np S0 w0 refs σ a w S γ){rdf:Nat->BS}(aE:RdF np σ rdf){t:TypeId}{ti:TyI}(ht:E.T t=some ti)
  {el:Ty}(aD:ti.ty=some (.list el)){len d:Nat}{ps:List (Nat×Cel)}{vs:Array (Nat×Value)}{xs:List el.den}{u:Ups}(hlen:len*el.size<=16777216)
  (fk:All2 (λp v=>p.1=v.1/\aQ S w γ σ.bx p.2 v.2) ps vs.toList)(h:fF rdf el (List.replicate len el.dflt) [] ps=some (xs,u))(hd:σ.bx d = .free) :
  ∃v' w' S' γ',(Instr.buildSlice t len vs).run P w = .ok v' w'/\Rel N np S0 w0 refs (σ.upd (u++[(d,.live (.lst ti.elem el xs false))])) a w' S' γ'/\
   aQ S' w' γ' (σ.upd (u++[(d,.live (.lst ti.elem el xs false))])).bx (.one (.ol d)) v':=by
 obtain⟨jU,bZ,te,bJ,bo⟩:=iu hT ht aD;have bb:=gL hT bJ bo;obtain⟨hf,bK⟩:=BQ aE hR.box bZ ps vs.toList fk h .nil;obtain⟨S1,aJ,bF,cM,ct⟩:=iW u σ S hR hf;obtain⟨z,hz,ef⟩:=rH hT bJ w bo;have gQ:z.cells.size=el.size:=yJ ef;obtain⟨B4,vP,rN⟩:=MV (S:=S1) (w:=w) ef len bZ;obtain⟨aK,gg,dr,ah,bU⟩:=bK S1 bF cM B4 _ vP rN
 have kB:xs.length=len:=by
  have key:∀(ps:List (Nat×Cel)){xs bM:List el.den}{u u':Ups},fF rdf el xs u ps=some (bM,u')->bM.length=xs.length:=by
   intro ps;induction ps with
   |nil=>intro xs bM u u' h;simp[fF]at h;rw[h.1]
   |cons p ps ih=>
    intro xs bM u u' h;obtain⟨i,c⟩:=p;simp only[fF]at h;split at h
    .split at h
     .rw[ih h];simp
     .simp at h
    .simp at h
  rw[key ps h];simp
 have cp:aK.size=len*el.size:=by have:=All2.flatten_length (λx c hx=>Rep.length el x c hx) ah;rw[<-bU,kB]at this;simpa using this
 have hzero:(if len*ti.size=0 then (Pure.pure #[]:Sem (Array Value)) else (do pure (<-zeroValue ti.elem).cells))=(if len*ti.size=0 then Pure.pure #[] else (do pure (<-zeroValue ti.elem).cells)):=rfl
 have ai:(Instr.buildSlice t len vs).run P w = .ok (.slice (some ⟨w.heap.size,0,none⟩) len len) (w.alloc (.cells aK ti.elem)):=by
  have eJ:¬len*te.size>2^24:=by rw[<-bb];omega
  simp only[Instr.buildSlice,Sem.run_bind,run_underlying jU,Result.andThen_ok,eO hT bJ,Sem.run_ite,if_neg eJ];by_cases h0:len*te.size=0
  .have gR:len=0:=by
    rw[<-bb]at h0;rcases Nat.mul_eq_zero.1 h0 with h|h
    .exact h
    .omega
   subst gR
   have lR:Instr.fill (λi=>some (i*te.size,te.size)) ((Array.range (0*te.size)).map (λi=>(#[]:Array Value)[i%(#[]:Array Value).size]!)) vs.toList=some aK:=by
    rw[<-bb];have:((Array.range (0*el.size)).map (λi=>(#[]:Array Value)[i%(#[]:Array Value).size]!))=((Array.range (0*z.cells.size)).map (λi=>z.cells[i%z.cells.size]!)):=by apply k8;simp
    rw[this];exact dr
   rw[Nat.zero_mul]at lR;simp only[h0,if_true,Sem.run_pure,Result.andThen_ok,lR,Sem.run_bind,newRow,run_newObj,World.alloc_eq]
  .have rT:Instr.fill (λi=>some (i*te.size,te.size)) ((Array.range (len*te.size)).map (λi=>z.cells[i%z.cells.size]!)) vs.toList=some aK:=by rw[<-bb];rw[gQ]at dr ⊢;exact dr
   simp only[h0,qj,Sem.run_bind,hz,Sem.run_pure,Result.andThen_ok,rT,newRow,run_newObj,World.alloc_eq]
 rw[fJ];have al:=tM aJ (.cells aK ti.elem)
 obtain⟨bP,eT⟩:=tO aJ (ct.free hd) (hm:=Bs hT ht) (w':=w.alloc (.cells aK ti.elem)) (S':=S1) (v':= .slice (some ⟨w.heap.size,0,none⟩) len len) (e:=ti.elem) (el:=el) (zs:=xs) (frz:=false) (css:=gg)
  al (λg hg _=>heap_alloc_old w _ hg) (by simp) (λg hg=>by
   simp[blk]at hg;subst hg;exact⟨.inl hR.grow,λk b hk ae=>by have:=fj (aJ.box k b hk) ae;omega,by simp⟩) (λg o hs=> .inl hs) rfl rfl rfl
  (by
   rw[kB,<-bU];have hle:len<=maxLen:=by have:len*1<=len*el.size:=Nat.mul_le_mul_left _ bZ;simp only[maxLen];omega
   exact World.ownsRow_lit w aK len (kf _) hle cp) (ah.mono (λx c hx=>Rep.keep al _ _ _ hx)) (λg hg=>by
   simp[blk]at hg;subst hg;exact⟨λ_ o=>vA aJ o,by simp⟩) (λg hg=>by simp[blk]at hg;subst hg;exact aJ.kw_new (jm _))
 exact⟨_,_,S1,_,ai,bP,eT⟩
theorem MX{P:Program}{E:Env}(hT:bt P E.T)(hR:Rel N np S0 w0 refs σ a w S γ){t:TypeId}{ti:TyI}(ht:E.T t=some ti)
  {el:Ty}(aD:ti.ty=some (.list el)){n len:Nat}{fr:Bool}{ps:List (Nat×Cel)}{vs:Array (Nat×Value)}{b:Bool}{s:Slot}{u:Ups}(hn:fr=true->σ.bx n = .free)
  (fk:All2 (λp v=>p.1=v.1/\aQ S w γ σ.bx p.2 v.2) ps vs.toList)(h:one1 fr el n len ps=some (.val b s u)) :
  b=true/\s = .one (.one (.s1 n))/\∃v' w' γ',(Instr.buildSlice t len vs).run P w = .ok v' w'/\Rel N np S0 w0 refs (σ.upd u) a w' S γ'/\aQ S w' γ' (σ.upd u).bx (.one (.s1 n)) v':=by
 unfold one1 at h;split at h
 case h_2=>simp at h
 rename_i c;split at h
 case h_2=>simp at h
 rename_i ls vQ;split at h
 case isFalse=>simp at h
 rename_i hc;obtain⟨rfl,nd,dh,gy⟩:=hc;simp only[j3,Act.val.injEq]at h;obtain⟨rfl,rfl,rfl⟩:=h;refine⟨rfl,rfl,?_⟩
 obtain⟨⟨j,z⟩,eI⟩:∃p,vs.toList=[p]:=by
  match hv:vs.toList,fk with
  |[p],_=>exact⟨p,rfl⟩
 rw[eI]at fk;obtain⟨⟨hj,eu⟩,_⟩:=fk;simp only at hj eu;subst hj;obtain⟨ha,h1⟩:=tN vQ eu;have iY:z.cells.toList.length=el.size:=by rw[<-ha.length,nd]
 have gQ:z.cells.size=el.size:=by simpa using iY
 obtain⟨jU,bZ,te,bJ,bo⟩:=iu hT ht aD;have bb:=gL hT bJ bo;obtain⟨z0,GG,ef⟩:=rH hT bJ w bo;have MY:z0.cells.size=el.size:=yJ ef;have dr:Instr.fill (λi=>some (i*te.size,te.size)) ((Array.range (1*te.size)).map (λi=>z0.cells[i%z0.cells.size]!)) vs.toList=some z.cells:=by have tQ:=BN ((Array.range (1*te.size)).map (λi=>z0.cells[i%z0.cells.size]!)) 0 z.cells (by simp;omega);rw[eI];simp only[Instr.fill];rw[if_neg (by simp;omega)];congr 1;apply k8;rw[Nat.zero_mul,tQ];simp only[List.take_zero,js];rw[jh (by simp;omega),jw]
 have ai:(Instr.buildSlice t 1 vs).run P w = .ok (.slice (some ⟨w.heap.size,0,none⟩) 1 1) (w.alloc (.cells z.cells ti.elem)):=by
  have eJ:¬1*te.size>2^24:=by rw[<-bb];omega
  have h0:¬1*te.size=0:=by omega
  simp only[Instr.buildSlice,Sem.run_bind,run_underlying jU,Result.andThen_ok,eO hT bJ,Sem.run_ite,if_neg eJ];simp only[h0,qj,Sem.run_bind,GG,Sem.run_pure,Result.andThen_ok,dr,newRow,run_newObj,World.alloc_eq]
 obtain⟨bP,eT⟩:=yz hR (hn gy) (ls:=ls) (cur:=z.cells) (e:=ti.elem) ha h1;refine⟨_,_,_,ai,bP,⟨by show (σ.setB n _).bx n≠_;rw[c9];simp,rfl,λb' aj=>?_⟩,λ_=>rfl⟩;have aj:(σ.setB n (.live (.cell ls false))).bx n = .live b':=aj;rw[c9]at aj;cases aj;exact⟨w.heap.size,1,cT _ _ _,rfl,jm _,by simp[maxLen]⟩
theorem rU{rd:Nat->BS}(aq:RdF np σ rd):∀{ls:List Leaf}{xs:List TV}{u:Ups}{zs:List Value},tvs rd ls=some (xs,u)->All2 (aL S w γ σ.bx) ls zs->
  FrzL np σ.bx u/\∀S' w',cm S w S' w'->Froz σ.bx γ S' w' u->All2 (λx z=>Rep S' w' x.t x.v [z]) xs zs
 |[],xs,u,zs,h,ha=>by
  simp[tvs]at h;obtain⟨rfl,rfl⟩:=h;cases zs with
  |nil=>exact⟨.nil,λ_ _ _ _=>trivial⟩
  |cons _ _=>exact ha.elim
 |l::ls,xs,u,zs,h,ha=>by
  cases zs with
  |nil=>exact ha.elim
  |cons z zs=>
   simp only[tvs]at h;split at h
   .rename_i yM u1 h1;obtain⟨f1,p1⟩:=rU aq h1 ha.2;split at h
    .rename_i t v;simp only[j3,j7]at h;obtain⟨rfl,rfl⟩:=h;exact⟨f1,λS' w' hk hf=>⟨Rep.keep hk _ _ _ ha.1,p1 S' w' hk hf⟩⟩
    .rename_i k;split at h
     .rename_i e t es f hk;simp only[j3,j7]at h;obtain⟨rfl,rfl⟩:=h;have aS:=aq.ok.live hk;refine⟨λx hx=>?_,λS' w' al hf=>⟨?_,p1 S' w' al (λx hx=>hf x (z9 _ hx))⟩⟩
      .rcases jf.1 hx with rfl|hx
       .exact⟨aq.par hk,e,t,es,f,aS,rfl,aq.ok.nm hk⟩
       .exact f1 x hx
      .have:=hf (k,_) (List.mem_cons_self ..) e t es f aS;rw[ha.1.2.2 _ aS];exact this
     .simp at h
    .simp at h
   .simp at h
theorem GH(hR:Rel N np S0 w0 refs σ a w S γ){k:Nat}{ls:List Leaf}{f:Bool}(hk:σ.bx k = .live (.cell ls f))(hp:parK np k=false){xs:List TV}
  (hx:∀g cur e,γ k = .pointer (some ⟨g,0,none⟩)->w.heap[g]? = some (.cells cur e (0,0))->All2 (aL S w γ σ.bx) ls (cur.toList.take ls.length)->All2 (λx z=>Rep S w x.t x.v [z]) xs (cur.toList.take ls.length)) :
  ∃S' g,Rel N np S0 w0 refs (σ.setB k (.live (.cell (xs.map TV.leaf) true))) a w S' γ/\cm S w S' w/\γ k = .pointer (some ⟨g,0,none⟩)/\fR S' w (.p xs) (.pointer (some ⟨g,0,none⟩)):=by
 obtain⟨g,cur,e,hg,hh,bT,h1,Gn,GI⟩:=hR.box k _ hk;have dQ:=hx g cur e hg hh bT;let S':an:=λg' o=>S g' o\/(g'=g/\o<cur.size)
 have al:cm S w S' w:=λg o h=>⟨.inl h,rfl⟩
 have hle:BxLe γ σ.bx γ (σ.setB k (.live (.cell (xs.map TV.leaf) true))).bx:=by
  intro k' aS;by_cases ba:k'=k
  .subst ba;rw[c9];exact⟨by simp,rfl,λb hb=>by simp at hb;subst hb;exact⟨_,hk,trivial⟩⟩
  .rw[bu σ _ ba];exact⟨aS,rfl,λb hb=>⟨b,hb,.refl b⟩⟩
 have aO:∀k' b,(σ.setB k (.live (.cell (xs.map TV.leaf) true))).bx k' = .live b->∃b',σ.bx k' = .live b':=by
  intro k' b hb;by_cases ba:k'=k
  .subst ba;exact⟨_,hk⟩
  .rw[bu σ _ ba]at hb;exact⟨b,hb⟩
 refine⟨S',g,Rel.step (bx':=(σ.setB k (.live (.cell (xs.map TV.leaf) true))).bx) hR al hle ?_ ?_ ?_ ?_ ?_ hR.below hR.grow hR.os hR.tape hR.output (λg _ _ h=>⟨rfl,λk' b' aj=>by obtain⟨b2,cG⟩:=aO k' b' aj;exact h k' b2 cG⟩),al,hg,?_⟩
 .intro k' b hb;by_cases ba:k'=k
  .subst ba;rw[c9]at hb;simp at hb;subst hb;have hl:=yq bT dQ;exact⟨g,cur,e,hg,hh,by rw[qs,hl];exact lF (dQ.mono (λx z hz=>Rep.keep al _ _ _ hz)),by rw[qs,hl];exact h1,by simp,λ_ o ho=> .inr ⟨rfl,ho⟩⟩
  .rw[bu σ _ ba]at hb;refine cP.keep al hle rfl (λg' ae=>⟨rfl,λo=>⟨λhs=>?_,.inl⟩⟩) (hR.box k' b hb);rcases hs with hs|hs
   .exact hs
   .exact absurd (by rw[hg,hs.1];rfl) (hR.apart k' k b _ g' ba hb hk ae)
 .intro k' b g' hb ae;obtain⟨b',aj⟩:=aO k' b hb;exact hR.own k' b' g' aj ae
 .intro k1 k2 b1 b2 g' aG h1 h2 ae;obtain⟨nT,gO⟩:=aO k1 b1 h1;obtain⟨nU,fX⟩:=aO k2 b2 h2;exact hR.apart k1 k2 nT nU g' aG gO fX ae
 .intro g' o hs;rcases hs with hs|hs
  .exact hR.new g' o hs
  .rcases hR.own k _ g hk (by rw[hg];rfl) with h|h
   .refine .inr ?_;have:g'=g:=by omega
    rw[this];exact h
   .rw[hp]at h;simp at h
 .intro g' o hs;rcases hs with hs|hs
  .exact hR.here g' o hs
  .rw[hs.1];exact(jb.1 hh).1
 .refine⟨g,0,cur.toList.take ls.length,rfl,dQ.mono (λx z hz=>Rep.keep al _ _ _ hz),λj v hv=>?_⟩
  have hv:cur.toList[j]? = some v:=by
   rw[kn]at hv;split at hv
   .exact hv
   .simp at hv
  have hj:j<cur.size:=by simpa using (jk.1 hv).1
  rw[ju];refine⟨.inr ⟨rfl,hj⟩,?_⟩;rw[cell_of_row w g j cur e (0,0) hh];simpa using hv
theorem GJ{rd:Nat->BS}(aq:RdF np σ rd):∀{cs:List Cel}{l:List Cap}{u:Ups}{zs:List Value},o8 rd cs=some (l,u)->Rel N np S0 w0 refs σ a w S γ->All2 (aQ S w γ σ.bx) cs zs->
  ∃S',Rel N np S0 w0 refs (σ.upd u) a w S' γ/\cm S w S' w/\All2 (fR S' w) l zs/\(∀k e t xs f,σ.bx k = .live (.lst e t xs f)->∃f',(σ.upd u).bx k = .live (.lst e t xs f'))/\BxLe γ σ.bx γ (σ.upd u).bx/\∀k,σ.bx k = .free->(σ.upd u).bx k = .free
 |[],l,u,zs,h,hR,ha=>by
  simp[o8]at h;obtain⟨rfl,rfl⟩:=h;cases zs with
  |nil=>exact⟨S,hR,.refl S w,trivial,λk e t xs f h=>⟨f,h⟩,.refl _ _,λ_ h=>h⟩
  |cons _ _=>exact ha.elim
 |c::r,l,u,zs,h,hR,ha=>by
  cases zs with
  |nil=>exact ha.elim
  |cons z zs=>
   simp only[o8]at h;split at h
   .rename_i l1 u1 h1;obtain⟨S1,aJ,bF,dP,iX,eD,vR⟩:=GJ aq h1 hR ha.2;split at h
    .rename_i t v;split at h
     .rename_i db;simp only[j3,j7]at h;obtain⟨rfl,rfl⟩:=h;exact⟨S1,aJ,bF,⟨⟨db,Rep.keep bF _ _ _ ha.1.1⟩,dP⟩,iX,eD,vR⟩
     .simp at h
    .rename_i k;split at h
     .rename_i ls f hk;split at h
      .rename_i xs u2 h2;split at h
       .simp at h
       .rename_i gj;simp only[j3,j7]at h;obtain⟨rfl,rfl⟩:=h;have iZ:=aq.par hk;have hk:=aq.ok.live hk;have gj:(u1++u2).any (λy=>y.1==k)=false:=qk.2 gj;rw[List.any_append,Bool.or_eq_false_iff]at gj;obtain⟨g,cur,e,hg,hh,bT,_⟩:=hR.box k _ hk;obtain⟨nV,yu⟩:=rU aq h2 bT;have B5:FrzL np (σ.upd u1).bx u2:=by intro x hx;obtain⟨tV,e',t',bM,f',aj,kZ⟩:=nV x hx;obtain⟨f2,h2⟩:=iX _ e' t' bM f' aj;exact⟨tV,e',t',bM,f2,h2,kZ⟩
        obtain⟨S2,bc,bO,lS,iB⟩:=iW u2 (σ.upd u1) S1 aJ B5;have vS:Froz σ.bx γ S2 w u2:=by intro x hx e' t' bM f' aj;obtain⟨f2,h2⟩:=iX _ e' t' bM f' aj;exact lS x hx e' t' bM f2 h2
        have et:((σ.upd u1).upd u2).bx k = .live (.cell ls f):=by rw[fZ u2 _ gj.2,fZ u1 _ gj.1,hk]
        obtain⟨S3,g3,eU,od,GK,dY⟩:=GH bc et iZ (xs:=xs) (λg' rV e' ae py _=>by
         rw[hg]at ae;simp at ae;subst ae;rw[hh]at py;simp at py;obtain⟨rfl,_⟩:=py;exact yu S2 w (bF.trans bO) vS)
        have hz:z=γ k:=by obtain⟨g4,h4,h5⟩:=ha.1.1.2.2 _ hk;rw[h5,h4]
        rw[fJ,fJ];refine⟨S3,eU,(bF.trans bO).trans od,⟨by rw[hz,GK];exact dY,dP.mono (λx z hx=>fR.keep (bO.trans od) hx)⟩,λk' e' t' bM f' aj=>?_,?_,λk' aS=>?_⟩
        .obtain⟨f2,h2⟩:=iX _ e' t' bM f' aj;obtain⟨f3,h3⟩:=iB.lst h2;have ba:k'≠k:=by rintro rfl;rw[et]at h3;simp at h3
         exact⟨f3,by show (((σ.upd u1).upd u2).setB k _).bx k'=_;rw[bu _ _ ba];exact h3⟩
        .have dB:BxLe γ (σ.upd u1).bx γ ((σ.upd u1).upd u2).bx:=iB.le
         have oe:BxLe γ ((σ.upd u1).upd u2).bx γ ((((σ.upd u1).upd u2)).setB k (.live (.cell (xs.map TV.leaf) true))).bx:=by
          intro k' aS;by_cases ba:k'=k
          .subst ba;rw[c9];exact⟨by simp,rfl,λb hb=>by simp at hb;subst hb;exact⟨_,et,trivial⟩⟩
          .rw[bu _ _ ba];exact⟨aS,rfl,λb hb=>⟨b,hb,.refl b⟩⟩
         have tr:∀{b1 b2 b3:Nat->BS},BxLe γ b1 γ b2->BxLe γ b2 γ b3->BxLe γ b1 γ b3:=by intro b1 b2 b3 M0 M1 k' aS;obtain⟨q1,q2,q3⟩:=M0 k' aS;obtain⟨r1,r2,r3⟩:=M1 k' q1;refine⟨r1,rfl,λb hb=>?_⟩;obtain⟨b',aj,dE⟩:=r3 b hb;obtain⟨vT,lT,lU⟩:=q3 b' aj;refine⟨vT,lT,?_⟩;exact lU.trans dE
         exact tr (tr eD dB) oe
        .have h3:=iB.free (vR k' aS);have ba:k'≠k:=by rintro rfl;rw[hk]at aS;simp at aS
         show (((σ.upd u1).upd u2).setB k _).bx k'=_;rw[bu _ _ ba];exact h3
      .simp at h
     .simp at h
    .simp at h
   .simp at h
theorem GL:∀{cs:List Cel}{ks:List Nat}{zs:List Value},u0 cs=some ks->All2 (aQ S w γ σ.bx) cs zs->All2 (vj γ σ.bx) ks zs
 |[],ks,zs,h,ha=>by
  simp[u0]at h;subst h;cases zs with
  |nil=>trivial
  |cons _ _=>exact ha.elim
 |c::r,ks,zs,h,ha=>by
  cases zs with
  |nil=>exact ha.elim
  |cons z zs=>
   unfold u0 at h;split at h
   .rename_i h0;simp at h0
   .rename_i k r' h0;simp only[List.cons.injEq]at h0;obtain⟨rfl,rfl⟩:=h0;split at h
    .rename_i Bn hk;simp only[j3]at h;subst h;obtain⟨⟨h1,h2,h3⟩,_⟩:=ha.1;exact⟨⟨h1,h2,h3⟩,GL hk ha.2⟩
    .simp at h
   .simp at h
theorem GM:∀{ks:List Nat}{zs:List Value},All2 (vj γ σ.bx) ks zs->All2 (aQ S w γ σ.bx) (ks.map λk=> .one (.bp k 0)) zs
 |[],[],_=>trivial
 |k::ks,z::zs,h=>⟨⟨h.1,λ_=>h.1.2.1⟩,GM h.2⟩
 |[],_::_,h=>h.elim
 |_::_,[],h=>h.elim
end
section
variable(S:an)(w:World)
def vU(ls:List TV)(u:Value):Prop:=
 ∃g cur e,u = .pointer (some ⟨g,0,none⟩)/\w.heap[g]? = some (.cells cur e (0,0))/\All2 (λx z=>Rep S w x.t x.v [z]) ls (cur.toList.take ls.length)/\∀o,¬S g o
def pM(e:Nat)(x:TV)(u:Value):Prop:=
 ∃(a:Ty)(xs:List a.den),x=⟨.list a,xs⟩/\lC S w e a xs u/\∀g,blk u=some g->∀o,¬S g o
def kC:Arg->Value->Prop
 |.v x,u=>VRep S w x u
 |.ref ls,u=>vU S w ls u
 |.rl e x,u=>pM S w e x u
 |.ip ls,u=>∃g o cs,u = .pointer (some ⟨g,o,none⟩)/\All2 (λx z=>Rep S w x.t x.v [z]) ls cs/\Lies S w g o cs
 |.clo f caps,u=>∃cv:Array Value,u = .func (.func f) #[] cv/\All2 (fR S w) caps cv.toList
 |.mv e x,u=>pM S w e x u/\isM e=false
def gF:Arg->Value->Option Nat
 |.ref _,u=>blk u
 |.rl _ _,u=>blk u
 |.mv _ _,u=>blk u
 |_,_=>none
def cH:List Arg->List Value->List Nat
 |a::as,u::us=>(gF a u).toList++cH as us
 |_,_=>[]
def mvOf:List Arg->List Value->List Nat
 |.mv _ _::as,u::us=>(blk u).toList++mvOf as us
 |_::as,_::us=>mvOf as us
 |_,_=>[]
def yN:RL->Value->Prop
 |.d x,z=>One z/\Rep S w x.t x.v [z]
 |.own e x,z=>pM S w e x z
def lb:RV->Value->Prop
 |.v x,u=>VRep S w x u
 |.own e x,u=>pM S w e x u
 |.box ls,u=>vU S w ls u
 |.hd _,u=>One u
 |.clo f caps,u=>∃cv:Array Value,u = .func (.func f) #[] cv/\All2 (fR S w) caps cv.toList
 |.so ls,u=>∃cs:Array Value,u = .agg cs/\All2 (yN S w) ls cs.toList
 |.raw _ _,_=>True
 |.vn x ns,u=>VRep S w x u/\∀cs,u = .agg cs->∀i∈ns,∀z,cs.toList[i]? = some z->z = .slice none 0 0
def ik:RV->Value->Option Nat
 |.v _,_=>none
 |.hd _,_=>none
 |.vn _ _,_=>none
 |.clo _ _,_=>none
 |.so _,_=>none
 |.raw _ _,_=>none
 |_,u=>blk u
def jD:List RL->List Value->List Nat
 |.own _ _::ls,z::zs=>(blk z).toList++jD ls zs
 |.d _::ls,_::zs=>jD ls zs
 |_,_=>[]
def gl:RV->Value->List Nat
 |.so ls,u=>jD ls u.cells.toList
 |r,u=>(ik r u).toList
def eE:List RV->List Value->List Nat
 |r::rs,u::us=>gl r u++eE rs us
 |_,_=>[]
def gm:List Arg->List Value->List Out->Prop
 |[],[],[]=>True
 |.ref _::as,u::us,.ref ys::os=>vU S w ys u/\gm as us os
 |.rl e x::as,u::us,.rl y::os=>pM S w e y u/\y.t=x.t/\gm as us os
 |.v _::as,_::us,os=>gm as us os
 |.ip _::as,_::us,os=>gm as us os
 |.clo _ _::as,_::us,os=>gm as us os
 |.mv _ _::as,_::us,os=>gm as us os
 |_,_,_=>False
end
def gT(vs:List Value):Value:=match vs with
 |[v]=>v
 |vs=> .tuple vs.toArray
def yO:List Arg->List Value->Option Value
 |.ref _::_,u::_=>some u
 |.rl _ _::_,u::_=>some u
 |_::as,_::us=>yO as us
 |_,_=>none
def emp:St:=⟨λ_=> .one (.one .dead),λ_=> .free⟩
def B6(h0:Nat)(S:an)(w:World)(ns:List Nat)(s:Snap)(v:Value):Prop:=
 ∃γ zs,v=gT zs/\All2 (aQ S w γ (emp.upd (rawU ns s)).bx) (rawC ns s) zs/\(∀k b,(emp.upd (rawU ns s)).bx k = .live b->cP S w γ (emp.upd (rawU ns s)).bx k b)/\
  (∀k b g,(emp.upd (rawU ns s)).bx k = .live b->blk (γ k)=some g->h0<=g)/\
  ∀k k' b b' g,k≠k'->(emp.upd (rawU ns s)).bx k = .live b->(emp.upd (rawU ns s)).bx k' = .live b'->blk (γ k)=some g->blk (γ k')≠some g
structure yP(w:World)(S:an)(args:List Arg)(vals:List Value)(ret:Ret)(v:Value)(w':World)(S':an)(vs:List Value):Prop where
 val:v=gT vs
 rep:All2 (lb S' w') ret.vals vs
 fresh:∀g∈eE ret.vals vs,w.heap.size<=g\/g∈mvOf args vals
 apart:(eE ret.vals vs).Nodup
 outs:gm S' w' args vals ret.outs
 stays:cm S w S' w'
 new:∀g o,S' g o->S g o\/w.heap.size<=g\/g∈mvOf args vals
 here:∀g o,S' g o->g<w'.heap.size
 below:∀g,g<w.heap.size->g∉cH args vals->w'.heap[g]? = w.heap[g]?
 grow:w.heap.size<=w'.heap.size
 os:w'.os=w.os
 tape:w'.tape=w.tape
 output:w'.output=w.output
 raw:∀ns s,ret.vals=[.raw ns s]->B6 w.heap.size S' w' ns s v
 head:∀m,ret.vals=[.hd m]->∃ad len cap,yO args vals=some (.slice ad len cap)/\m<=len/\vs=[.slice ad m cap]
def yQ(P:Program)(f:Nat)(args:List Arg)(K:Ret->Prop):Prop:=
 ∀(w:World)(S:an)(vals:List Value),All2 (kC S w) args vals->(cH args vals).Nodup->(∀g o,S g o->g<w.heap.size)->
  Calls P f vals.toArray w λe w'=>∃ret,K ret/\∃v S' vs,e = .returned v/\yP w S args vals ret v w' S' vs
def Fun(P:Program)(f:Nat):Prop:=
 ∃ fn, P.funcs[f]? = some fn ∧ fn.body.isNone = false ∧ (fn.name == "runtime.NumGoroutine") = false
def FnOK(P:Program)(f:Nat)(c:List Arg->(R:Type)->(Ret->Option R)->Option R):Prop:=
 ∀(args:List Arg)(R:Type)(k:Ret->Option R)(r:R),c args R k=some r->Fun P f/\yQ P f args λret=>k ret=some r
def gn(P:Program)(C:Nat->List Arg->(R:Type)->(Ret->Option R)->Option R):Prop:=∀f,FnOK P f (C f)
section
variable{N:NT}{np:Nat}{S0:an}{w0:World}{refs:Refs}{σ:St}{a:Go.Act}{w:World}{S:an}{γ:Nat->Value}
theorem og{S':an}{w':World}:∀(t:Ty)(v:t.den)(cs:List Value),t.flat=true->Rep S w t v cs->Rep S' w' t v cs
 |.int _,_,_,_,h=>h
 |.bool,_,_,_,h=>h
 |.str,_,_,_,h=>h
 |.unit,_,_,_,h=>h
 |.wrap a,v,cs,hf,h=>og a v cs hf h
 |.pair a b,_,_,hf,⟨c1,c2,e,h1,h2⟩=>by
  simp only[Ty.flat,j9]at hf;exact⟨c1,c2,e,og a _ _ hf.1 h1,og b _ _ hf.2 h2⟩
 |.list _,_,_,hf,_=>by simp[Ty.flat]at hf
 |.arr _ a,_,_,hf,⟨hn,css,ha,e⟩=>⟨hn,css,ha.mono (λx c hx=>og a x c hf hx),e⟩
def dV(bx:Nat->BS)(γ:Nat->Value):List Arg->List Value->List Bk->Prop
 |[],[],[]=>True
 |.ref ls::as,u::us,.ref k::fs=>u=γ k/\(∃eg,bx k = .live (.cell eg false))/\dV bx γ as us fs
 |.rl e x::as,u::us,.rl k e' t::fs=>e=e'/\u=γ k/\(∃xs,bx k = .live (.lst e t xs false)/\x=⟨.list t,xs⟩)/\dV bx γ as us fs
 |.v _::as,_::us,fs=>dV bx γ as us fs
 |.ip _::as,_::us,fs=>dV bx γ as us fs
 |.clo _ _::as,_::us,fs=>dV bx γ as us fs
 |.mv e x::as,u::us,.mv k e' t::fs=>e=e'/\u=γ k/\(∃xs,bx k = .live (.lst e t xs false)/\x=⟨.list t,xs⟩)/\dV bx γ as us fs
 |_,_,_=>False
theorem M3{rd rdf:Nat->BS}(hR:Rel N np S0 w0 refs σ a w S γ)(aq:RdR σ rd)(aE:RdF np σ rdf){t:Option TyI}{mv rl:Bool}{c:Cel}{arg:Arg}{u:Ups}{f:Option Bk}{z:Value}
  (h:o9 rd rdf t mv rl c=some (arg,u,f))(hc:aQ S w γ σ.bx c z) :
  FrzL np σ.bx u/\dV σ.bx γ [arg] [z] f.toList/\∀S',cm S w S' w->Froz σ.bx γ S' w u->(∀k b,f.toList.any (λy=>y.name==k)=true->σ.bx k = .live b->∀g,blk (γ k)=some g->∀o,¬S' g o)->kC S' w arg z:=by
 unfold o9 at h;split at h
 .rename_i k;split at h
  .rename_i ls hk;split at h
   .rename_i xs u1 h1;simp only[j3,j7]at h;obtain⟨rfl,rfl,rfl⟩:=h;have hk:=aq.live hk;obtain⟨g,hg,hz⟩:=hc.1.2.2 _ hk;obtain⟨g',cur,e,ae,hh,bT,_,_,hS⟩:=hR.box k _ hk;rw[hg]at ae;simp at ae;subst ae;obtain⟨hf,hp⟩:=rU aE h1 bT;refine⟨hf,trivial,λS' al cM _=>⟨g,0,cur.toList.take ls.length,hz,hp S' w al cM,λj v hv=>?_⟩⟩
    have hv:cur.toList[j]? = some v:=by
     rw[kn]at hv;split at hv
     .exact hv
     .simp at hv
    have hj:j<cur.size:=by simpa using (jk.1 hv).1
    rw[ju];refine⟨(al _ _ (hS rfl j hj)).1,?_⟩;rw[cell_of_row w g j cur e (0,0) hh];simpa using hv
   .simp at h
  .rename_i ls hk;split at h
   .rename_i xs u1 h1;simp only[j3,j7]at h;obtain⟨rfl,rfl,rfl⟩:=h;have hk:=aq.live hk;obtain⟨g,hg,hz⟩:=hc.1.2.2 _ hk;obtain⟨g',cur,e,ae,hh,bT,_⟩:=hR.box k _ hk;rw[hg]at ae;simp at ae;subst ae;obtain⟨hf,hp⟩:=rU aE h1 bT;refine⟨hf,⟨hz.trans hg.symm,⟨ls,hk⟩,trivial⟩,λS' al cM hn=>⟨g,cur,e,hz,hh,by rw[yq bT (hp S' w al cM)];exact hp S' w al cM,?_⟩⟩;exact hn k _ (by simp[Bk.name]) hk g (by rw[hg];rfl)
   .simp at h
  .simp at h
 .simp only[j3,j7]at h;obtain⟨rfl,rfl,rfl⟩:=h;refine⟨.nil,trivial,λS' al _ _=>?_⟩;obtain⟨g,o,cs,hz,ha,hl⟩:=hc.1;exact⟨g,o,cs,hz,ha.mono (λx z hx=>Rep.keep al _ _ _ hx),hl.keep al⟩
 .simp only[j3,j7]at h;obtain⟨rfl,rfl,rfl⟩:=h;refine⟨.nil,trivial,λS' al _ _=>?_⟩;obtain⟨cv,hz,ha⟩:=hc.1;exact⟨cv,hz,ha.mono (λx z hx=>fR.keep al hx)⟩
 .rename_i k;split at h
  .cases mv with
   |true=>
    rw[j4]at h;split at h
    .rename_i e t xs hk;simp only[j3,j7]at h;obtain⟨rfl,rfl,rfl⟩:=h;have bD:=aE.ok.nm hk;have hk:=aE.ok.live hk;have hz:=hc.1.2.2 _ hk;refine⟨.nil,⟨rfl,hz,⟨xs,hk,rfl⟩,trivial⟩,λS' al _ hn=>?_⟩;have cU:=(hR.box k _ hk).1;exact⟨⟨t,xs,rfl,by rw[hz];exact cU.keep al (λ_ _=>rfl),λg hg=>hn k _ (by simp[Bk.name]) hk g (by rw[<-hz];exact hg)⟩,bD⟩
    .simp at h
   |false=>
   rw[j5]at h;split at h
   .rename_i e t xs hk;simp only[j3,j7]at h;obtain⟨rfl,rfl,rfl⟩:=h;have hk:=aq.live hk;have hz:=hc.1.2.2 _ hk;refine⟨.nil,⟨rfl,hz,⟨xs,hk,rfl⟩,trivial⟩,λS' al _ hn=>?_⟩;have cU:=(hR.box k _ hk).1;exact⟨t,xs,rfl,by rw[hz];exact cU.keep al (λ_ _=>rfl),λg hg=>hn k _ (by simp[Bk.name]) hk g (by rw[<-hz];exact hg)⟩
   .simp at h
  .split at h
   .rename_i e t xs fz hk;simp only[j3,j7]at h;obtain⟨rfl,rfl,rfl⟩:=h;have iZ:=aE.par hk;have bD:=aE.ok.nm hk;have hk:=aE.ok.live hk;have hz:=hc.1.2.2 _ hk;refine⟨λx hx=>?_,trivial,λS' al cM _=>?_⟩
    .have:=q8.1 hx;subst this;exact⟨iZ,e,t,xs,fz,hk,rfl,bD⟩
    .have h1:One z:=hc.2 (by simp);have:=cM (k,_) (q8.2 rfl) e t xs fz hk;rw[<-hz]at this;exact⟨by rw[tL h1];exact this,by simp[ff,Ty.agg],λ_=>h1⟩
   .simp at h
 .split at h
  .split at h
   .rename_i ty aD;split at h
    .rename_i x u1 hx;simp only[j3,j7]at h;obtain⟨rfl,rfl,rfl⟩:=h;obtain⟨hf,hp,_⟩:=yy aE hR.box hx hc;exact⟨hf,trivial,λS' al cM _=>hp S' w al cM⟩
    .simp at h
   .simp at h
  .simp at h
theorem dV.app{bx:Nat->BS}{arg:Arg}{z:Value}{f:List Bk}:dV bx γ [arg] [z] f->∀{as:List Arg}{us:List Value}{fs:List Bk},dV bx γ as us fs->dV bx γ (arg::as) (z::us) (f++fs):=by
 intro h as us fs h';cases arg with
 |v x=>cases f with|nil=>exact h'|cons _ _=>exact h.elim
 |ip x=>cases f with|nil=>exact h'|cons _ _=>exact h.elim
 |clo x y=>cases f with|nil=>exact h'|cons _ _=>exact h.elim
 |ref ls=>
  match f,h with
  |[.ref k],⟨h1,h2,_⟩=>exact⟨h1,h2,h'⟩
  |.ref k::_::_,⟨_,_,h3⟩=>exact h3.elim
 |rl e x=>
  match f,h with
  |[.rl k e' t],⟨h0,h1,h2,_⟩=>exact⟨h0,h1,h2,h'⟩
  |.rl k e' t::_::_,⟨_,_,_,h3⟩=>exact h3.elim
 |mv e x=>
  match f,h with
  |[.mv k e' t],⟨h0,h1,h2,_⟩=>exact⟨h0,h1,h2,h'⟩
  |.mv k e' t::_::_,⟨_,_,_,h3⟩=>exact h3.elim
theorem GN{rd rdf:Nat->BS}(hR:Rel N np S0 w0 refs σ a w S γ)(aq:RdR σ rd)(aE:RdF np σ rdf){T:Nat->Option TyI}{mv:Bool}:∀{cs:List Cel}{ts:List Nat}{ms:List Bool}{as:List Arg}{u:Ups}{fs:List Bk}{zs:List Value},
  jR rd rdf T mv ts ms cs=some (as,u,fs)->All2 (aQ S w γ σ.bx) cs zs->
  FrzL np σ.bx u/\dV σ.bx γ as zs fs/\∀S',cm S w S' w->Froz σ.bx γ S' w u->(∀k b,fs.any (λy=>y.name==k)=true->σ.bx k = .live b->∀g,blk (γ k)=some g->∀o,¬S' g o)->All2 (kC S' w) as zs
 |[],ts,ms,as,u,fs,zs,h,ha=>by
  simp[jR]at h;obtain⟨rfl,rfl,rfl⟩:=h;cases zs with
  |nil=>exact⟨.nil,trivial,λ_ _ _ _=>trivial⟩
  |cons _ _=>exact ha.elim
 |c::cs,ts,ms,as,u,fs,zs,h,ha=>by
  cases zs with
  |nil=>exact ha.elim
  |cons z zs=>
   simp only[jR]at h;split at h
   .rename_i a1 u1 f1 h1;split at h
    .rename_i yp dN GO h2;simp only[j3,j7]at h;obtain⟨rfl,rfl,rfl⟩:=h;obtain⟨p1,q1,r1⟩:=M3 hR aq aE h1 ha.1;obtain⟨p2,q2,r2⟩:=GN hR aq aE h2 ha.2;refine⟨FrzL.app.2 ⟨p1,p2⟩,q1.app q2,λS' al cM hn=>?_⟩;obtain⟨z1,z2⟩:=Froz.app.1 cM;exact⟨r1 S' al z1 (λk b hk=>hn k b (by rw[List.any_append,hk];rfl)),r2 S' al z2 (λk b hk=>hn k b (by rw[List.any_append,hk];simp))⟩
    .simp at h
   .simp at h
theorem GP:∀{cs:List Cap}{zs:List Value},All2 (fR S w) cs zs->All2 (kC S w) (cs.map jS) zs
 |[],[],_=>trivial
 |c::cs,z::zs,h=>by
  refine⟨?_,GP h.2⟩;cases c with
  |v x=>obtain⟨hl,hr⟩:=h.1;have h1:One z:=Rep.one _ _ _ hr z (by simp);refine⟨by rw[tL h1];exact hr,λhm=>?_,λ_=>h1⟩;exfalso;obtain⟨t,v⟩:=x;cases t<;>simp_all[Ty.leafy,ff,Ty.agg]
  |p ls=>exact h.1
 |[],_::_,h=>h.elim
 |_::_,[],h=>h.elim
theorem GQ:∀(cs:List Cap)(zs:List Value),cH (cs.map jS) zs=[]
 |[],_=>by cases ‹List Value› <;> rfl
 |c::cs,[]=>rfl
 |c::cs,z::zs=>by cases c<;>simp[cH,gF,jS,GQ cs zs]
theorem GR:∀(as:List Arg)(us:List Value)(bs:List Arg)(vs:List Value),as.length=us.length->cH (as++bs) (us++vs)=cH as us++cH bs vs
 |[],[],bs,vs,_=>rfl
 |a::as,u::us,bs,vs,h=>by simp[cH,GR as us bs vs (by simpa using h)]
 |[],_::_,_,_,h=>by simp at h
 |_::_,[],_,_,h=>by simp at h
theorem pN{bx:Nat->BS}:∀{as:List Arg}{us:List Value}{fs:List Bk},dV bx γ as us fs->cH as us=fs.filterMap λf=>blk (γ f.name)
 |[],[],[],_=>rfl
 |.ref ls::as,u::us,.ref k::fs,⟨h1,_,h3⟩=>by
  simp only[cH,gF,qv,Bk.name,h1,pN h3];cases blk (γ k)<;>rfl
 |.rl e x::as,u::us,.rl k e' t::fs,⟨_,h1,_,h3⟩=>by
  simp only[cH,gF,qv,Bk.name,h1,pN h3];cases blk (γ k)<;>rfl
 |.mv e x::as,u::us,.mv k e' t::fs,⟨_,h1,_,h3⟩=>by
  simp only[cH,gF,qv,Bk.name,h1,pN h3];cases blk (γ k)<;>rfl
 |.v _::as,_::us,fs,h=>by simp[cH,gF,pN (as:=as) (us:=us) (fs:=fs) h]
 |.ip _::as,_::us,fs,h=>by simp[cH,gF,pN (as:=as) (us:=us) (fs:=fs) h]
 |.clo _ _::as,_::us,fs,h=>by simp[cH,gF,pN (as:=as) (us:=us) (fs:=fs) h]
theorem GS:∀{as:List Arg}{us:List Value}{g:Nat},g∈mvOf as us->g∈cH as us
 |[],_,g,h=>by simp[mvOf]at h
 |_::_,[],g,h=>by rename_i a _;cases a<;>simp[mvOf]at h
 |a::as,u::us,g,h=>by
  have ih:=GS (as:=as) (us:=us) (g:=g);cases a with
  |mv e x=>simp only[mvOf,cH,gF,jq]at h ⊢;exact h.imp id ih
  |_=>simp only[mvOf]at h;simp only[cH,jq];exact .inr (ih h)
theorem pO{bx:Nat->BS}:∀{as:List Arg}{us:List Value}{fs:List Bk}{g:Nat},dV bx γ as us fs->g∈mvOf as us->∃f∈fs,f.isMv=true/\blk (γ f.name)=some g
 |[],[],[],g,_,h=>by simp[mvOf]at h
 |.ref ls::as,u::us,.ref k::fs,g,⟨_,_,h3⟩,h=>by
  obtain⟨f,hf,h1⟩:=pO (g:=g) h3 (by simpa only[mvOf]using h);exact⟨f,by simp[hf],h1⟩
 |.rl e x::as,u::us,.rl k e' t::fs,g,⟨_,_,_,h3⟩,h=>by
  obtain⟨f,hf,h1⟩:=pO (g:=g) h3 (by simpa only[mvOf]using h);exact⟨f,by simp[hf],h1⟩
 |.mv e x::as,u::us,.mv k e' t::fs,g,⟨_,h1,_,h3⟩,h=>by
  simp only[mvOf,jq,Option.mem_toList]at h;rcases h with h|h
  .exact⟨.mv k e' t,by simp,rfl,by rw[<-h];show blk (γ k)=blk u;rw[h1]⟩
  .obtain⟨f,hf,h1⟩:=pO (g:=g) h3 h;exact⟨f,by simp[hf],h1⟩
 |.v _::as,_::us,fs,g,hb,h=>pO (as:=as) (us:=us) (fs:=fs) hb (by simpa only[mvOf]using h)
 |.ip _::as,_::us,fs,g,hb,h=>pO (as:=as) (us:=us) (fs:=fs) hb (by simpa only[mvOf]using h)
 |.clo _ _::as,_::us,fs,g,hb,h=>pO (as:=as) (us:=us) (fs:=fs) hb (by simpa only[mvOf]using h)
theorem M4{rd rdf:Nat->BS}(aE:RdF np σ rdf){t:Option TyI}{mv rl:Bool}{c:Cel}{arg:Arg}{u:Ups}{f:Option Bk}(h:o9 rd rdf t mv rl c=some (arg,u,f)):∀x∈f.toList,x.isMv=true->parK np x.name=false:=by
 intro x hx hm;unfold o9 at h;split at h
 .split at h
  .split at h
   .simp only[j3,j7]at h;obtain⟨_,_,rfl⟩:=h;simp at hx
   .simp at h
  .split at h
   .simp only[j3,j7]at h;obtain⟨_,_,rfl⟩:=h;simp at hx;subst hx;simp[Bk.isMv]at hm
   .simp at h
  .simp at h
 .simp only[j3,j7]at h;obtain⟨_,_,rfl⟩:=h;simp at hx
 .simp only[j3,j7]at h;obtain⟨_,_,rfl⟩:=h;simp at hx
 .split at h
  .cases mv with
   |true=>
    rw[j4]at h;split at h
    .rename_i hk;simp only[j3,j7]at h;obtain⟨_,_,rfl⟩:=h;simp at hx;subst hx;exact aE.par hk
    .simp at h
   |false=>
    rw[j5]at h;split at h
    .simp only[j3,j7]at h;obtain⟨_,_,rfl⟩:=h;simp at hx;subst hx;simp[Bk.isMv]at hm
    .simp at h
  .split at h
   .simp only[j3,j7]at h;obtain⟨_,_,rfl⟩:=h;simp at hx
   .simp at h
 .split at h
  .split at h
   .split at h
    .simp only[j3,j7]at h;obtain⟨_,_,rfl⟩:=h;simp at hx
    .simp at h
   .simp at h
  .simp at h
theorem GU{rd rdf:Nat->BS}(aE:RdF np σ rdf){T:Nat->Option TyI}{mv:Bool}:∀{cs:List Cel}{ts:List Nat}{ms:List Bool}{as:List Arg}{u:Ups}{fs:List Bk},
  jR rd rdf T mv ts ms cs=some (as,u,fs)->∀x∈fs,x.isMv=true->parK np x.name=false
 |[],ts,ms,as,u,fs,h,x,hx,hm=>by
  simp[jR]at h;obtain⟨rfl,rfl,rfl⟩:=h;simp at hx
 |c::cs,ts,ms,as,u,fs,h,x,hx,hm=>by
  simp only[jR]at h;split at h
  .rename_i a1 u1 f1 h1;split at h
   .rename_i yp dN GO h2;simp only[j3,j7]at h;obtain⟨rfl,rfl,rfl⟩:=h;rcases jq.1 hx with hx|hx
    .exact M4 aE h1 x hx hm
    .exact GU aE h2 x hx hm
   .simp at h
  .simp at h
theorem nf{bx:Nat->BS}:∀{as:List Arg}{us:List Value}{fs:List Bk},dV bx γ as us fs->∀f∈fs,∃b,bx f.name = .live b
 |[],[],[],_,f,hf=>by simp at hf
 |.ref ls::as,u::us,.ref k::fs,⟨_,⟨eg,h2⟩,h3⟩,f,hf=>by
  rcases jf.1 hf with rfl|hf
  .exact⟨_,h2⟩
  .exact nf h3 f hf
 |.rl e x::as,u::us,.rl k e' t::fs,⟨_,_,⟨xs,h2,_⟩,h3⟩,f,hf=>by
  rcases jf.1 hf with rfl|hf
  .exact⟨_,h2⟩
  .exact nf h3 f hf
 |.mv e x::as,u::us,.mv k e' t::fs,⟨_,_,⟨xs,h2,_⟩,h3⟩,f,hf=>by
  rcases jf.1 hf with rfl|hf
  .exact⟨_,h2⟩
  .exact nf h3 f hf
 |.v _::as,_::us,fs,h,f,hf=>nf (as:=as) (us:=us) (fs:=fs) h f hf
 |.ip _::as,_::us,fs,h,f,hf=>nf (as:=as) (us:=us) (fs:=fs) h f hf
 |.clo _ _::as,_::us,fs,h,f,hf=>nf (as:=as) (us:=us) (fs:=fs) h f hf
theorem rW:∀{l:List Nat},iS l=true->l.Nodup
 |[],_=>List.nodup_nil
 |x::l,h=>by
  simp only[iS,j9,ke,kg,kb]at h;exact q7.2 ⟨h.1,rW h.2⟩
theorem B7(hR:Rel N np S0 w0 refs σ a w S γ):∀{l:List Nat},l.Nodup->(∀k∈l,∃b,σ.bx k = .live b)->(l.filterMap λk=>blk (γ k)).Nodup
 |[],_,_=>by simp
 |k::l,h,hl=>by
  obtain⟨h1,h2⟩:=q7.1 h;have ih:=B7 hR h2 (λk hk=>hl k (by simp[hk]));rw[qv];cases hb:blk (γ k) with
  |none=>exact ih
  |some g=>refine q7.2 ⟨λhm=>?_,ih⟩;obtain⟨k',aS,ae⟩:=z4.1 hm;obtain⟨b,cb⟩:=hl k (by simp);obtain⟨b',cG⟩:=hl k' (by simp[aS]);exact hR.apart k k' b b' g (by rintro rfl;exact h1 aS) cb cG hb ae
end
section
variable{N:NT}{np:Nat}{S0:an}{w0:World}{refs:Refs}{σ:St}{a:Go.Act}{w:World}{S:an}{γ:Nat->Value}
theorem pP:∀(u:Ups)(σ:St){k:Nat}{b:BS},(u.map (·.1)).Nodup->(k,b)∈u->(σ.upd u).bx k=b
 |[],_,_,_,_,h=>by simp at h
 |e::u,σ,k,b,hn,h=>by
  simp only[qi,q7]at hn;show ((σ.setB e.1 e.2).upd u).bx k=_;rcases jf.1 h with h|h
  .subst h;rw[fZ u,c9];simp only[kp,qt];intro x hx he;exact hn.1 (k9.2 ⟨x,hx,he⟩)
  .exact pP u _ hn.2 h
theorem M5{e:Nat}{m n n':Nat}{v:Value}{w':World}{xs ys:List Value}(h:w.ownsRow 0 e m v n xs)(h':w'.ownsRow 0 e m v n' ys):n=n':=by
 rcases h.2 with⟨e1,e2⟩|⟨g,cap,cur,e1,_⟩<;>rcases h'.2 with⟨f1,f2⟩|⟨g',dX,rV,f1,_⟩
 .rw[e2,f2]
 .rw[e1]at f1;simp at f1
 .rw[e1]at f1;simp at f1
 .rw[e1]at f1;simp at f1;exact f1.2.1
theorem B8{bx:Nat->BS}{S':an}{w':World}{ys:List TV}{k:Nat}{v:Value}(hg:γ k=v)(h:vU S' w' ys v):cP S' w' γ bx k (.cell (ys.map TV.leaf) false):=by
 obtain⟨g,cur,e,hu,hh,ah,hS⟩:=h;exact⟨g,cur,e,hg.trans hu,hh,by rw[qs];exact lF ah,λu cL=>by rw[qs]at cL;obtain⟨x,_,hx⟩:=ah.mem_right u cL;exact Rep.one _ _ _ hx u (by simp),λ_=>hS,by simp⟩
theorem tW{bx:Nat->BS}{S':an}{w':World}{e:Nat}{t:Ty}{ys:List t.den}{k:Nat}{v:Value}(hg:γ k=v)(h:pM S' w' e ⟨.list t,ys⟩ v):cP S' w' γ bx k (.lst e t ys false):=by
 obtain⟨t',xs,hx,bk,hS⟩:=h;cases hx;exact⟨by rw[hg];exact bk,λg ae=>⟨λ_=>hS g (by rw[<-hg];exact ae),by simp⟩⟩
theorem oh{S':an}{w':World}(hR:Rel N np S0 w0 refs σ a w S γ):∀{as:List Arg}{zs:List Value}{fs:List Bk}{os:List Out}{uo:Ups},dV σ.bx γ as zs fs->gJ fs os=some uo->gm S' w' as zs os->
  uo.map (·.1)=fs.map Bk.name/\∀x∈uo,∃b,σ.bx x.1 = .live b/\(x.2 = .gone\/∃b',x.2 = .live b'/\fg b b'/\∀bx',cP S' w' γ bx' x.1 b')
 |[],[],[],[],uo,_,h,_=>by simp[gJ]at h;subst h;simp
 |.ref ls::as,u::us,.ref k::fs,.ref ys::os,uo,⟨h1,⟨eg,h2⟩,h3⟩,h,⟨q1,q2⟩=>by
  simp only[gJ,yg]at h;split at h
  .rename_i u' cL;simp only[j3]at h;subst h;obtain⟨i1,i2⟩:=oh hR h3 cL q2;refine⟨by simp[i1,Bk.name],λx hx=>?_⟩;rcases jf.1 hx with rfl|hx
   .exact⟨_,h2,.inr ⟨_,rfl,trivial,λbx'=>B8 h1.symm q1⟩⟩
   .exact i2 x hx
  .simp at h
 |.rl e x::as,u::us,.rl k e' t::fs,.rl y::os,uo,⟨h0,h1,⟨xs,h2,fX⟩,h3⟩,h,⟨q1,q1',q2⟩=>by
  simp only[gJ,yg]at h;split at h
  .rename_i y' tJ;split at tJ
   .rename_i ys vL;simp only[j3]at tJ;subst tJ;split at h
    .rename_i u' cL;simp only[j3]at h;subst h;obtain⟨i1,i2⟩:=oh hR h3 cL q2;refine⟨by simp[i1,Bk.name],λx hx=>?_⟩;rcases jf.1 hx with rfl|hx
     .have:=gN vL;subst this;subst h0;refine⟨_,h2,.inr ⟨_,rfl,⟨rfl,rfl,λhm=>?_⟩,λbx'=>tW h1.symm q1⟩⟩;obtain⟨css,ao,_⟩:=eN hm (hR.box k _ h2);obtain⟨gg,bk,_⟩:=eN (bx:=σ.bx) hm (tW h1.symm q1);exact M5 ao bk
     .exact i2 x hx
    .simp at h
   .simp at tJ
  .simp at h
 |.mv e x::as,u::us,.mv k e' t::fs,os,uo,⟨h0,h1,⟨xs,h2,fX⟩,h3⟩,h,q=>by
  simp only[gJ]at h;split at h
  .rename_i u' cL;simp only[j3]at h;subst h;obtain⟨i1,i2⟩:=oh hR h3 cL (by simpa only[gm]using q);refine⟨by simp[i1,Bk.name],λx hx=>?_⟩;rcases jf.1 hx with rfl|hx
   .exact⟨_,h2,.inl rfl⟩
   .exact i2 x hx
  .simp at h
 |.v _::as,_::us,fs,os,uo,h,h',q=>oh (as:=as) (zs:=us) (fs:=fs) hR h h' q
 |.ip _::as,_::us,fs,os,uo,h,h',q=>oh (as:=as) (zs:=us) (fs:=fs) hR h h' q
 |.clo _ _::as,_::us,fs,os,uo,h,h',q=>oh (as:=as) (zs:=us) (fs:=fs) hR h h' q
theorem B9(hR:Rel N np S0 w0 refs σ a w S γ){GV:List Nat}{S':an}{w':World}(al:cm S w S' w')(cR:∀g o,S' g o->S g o\/w.heap.size<=g\/g∈GV)(gU:∀g o,S' g o->g<w'.heap.size)
  {as:List Arg}{zs:List Value}{fs:List Bk}{os:List Out}{uo:Ups}(vV:∀g∈GV,g∈mvOf as zs)(fw:∀f∈fs,f.isMv=true->parK np f.name=false)(bH:dV σ.bx γ as zs fs)(ck:(fs.map Bk.name).Nodup)(ho:gJ fs os=some uo)(hq:gm S' w' as zs os)
  (dt:∀g,g<w.heap.size->g∉cH as zs->w'.heap[g]? = w.heap[g]?)(fM:w.heap.size<=w'.heap.size)(kD:w'.os=w.os)(gV:w'.tape=w.tape)(cS:w'.output=w.output) :
  Rel N np S0 w0 refs (σ.upd uo) a w' S' γ:=by
 obtain⟨fN,rX⟩:=oh hR bH ho hq;have lK:(uo.map (·.1)).Nodup:=by rw[fN];exact ck
 have dg:σ.upd uo={ σ with bx:=(σ.upd uo).bx }:=by have:=pB uo σ;cases h:σ.upd uo;rw[h]at this;simp only at this;rw[this]
 have bA:∀k,(uo.any (λy=>y.1==k)=false/\(σ.upd uo).bx k=σ.bx k)\/(∃b,σ.bx k = .live b/\(σ.upd uo).bx k = .gone)\/(∃b b',σ.bx k = .live b/\(σ.upd uo).bx k = .live b'/\fg b b'/\∀bx',cP S' w' γ bx' k b'):=by
  intro k;by_cases hk:uo.any (λy=>y.1==k)=true
  .right;obtain⟨x,hx,he⟩:=List.any_eq_true.1 hk;have he:x.1=k:=by simpa using he
   subst he;obtain⟨b,h1,h2|⟨b',h2,h3,h4⟩⟩:=rX x hx
   .exact .inl ⟨b,h1,by rw[pP uo σ lK (b:=x.2) hx,h2]⟩
   .exact .inr ⟨b,b',h1,by rw[pP uo σ lK (b:=x.2) hx,h2],h3,h4⟩
  .left;have aS:uo.any (λy=>y.1==k)=false:=qk.2 hk;exact⟨aS,fZ uo σ aS⟩
 have du:∀k b,(σ.upd uo).bx k = .live b->∃b',σ.bx k = .live b':=by
  intro k b hb;rcases bA k with⟨_,h⟩|⟨b1,h1,_⟩|⟨b1,b2,h1,_⟩
  .exact⟨b,h▸hb⟩
  .exact⟨b1,h1⟩
  .exact⟨b1,h1⟩
 have hle:BxLe γ σ.bx γ (σ.upd uo).bx:=by
  intro k hk;rcases bA k with⟨_,h⟩|⟨b1,h1,h2⟩|⟨b1,b2,h1,h2,h3,_⟩
  .rw[h];exact⟨hk,rfl,λb hb=>⟨b,hb,.refl b⟩⟩
  .rw[h2];exact⟨by simp,rfl,λb hb=>by simp at hb⟩
  .rw[h2];exact⟨by simp,rfl,λb hb=>by simp at hb;subst hb;exact⟨b1,h1,h3⟩⟩
 have hrefs:∀g,g∈cH as zs->∃f∈fs,blk (γ f.name)=some g/\∃b,σ.bx f.name = .live b:=by intro g hg;rw[pN bH]at hg;obtain⟨f,hf,kE⟩:=z4.1 hg;exact⟨f,hf,kE,nf bH f hf⟩
 rw[dg]
 refine Rel.step hR al hle ?_ ?_ ?_ ?_ gU ?_ (qg hR.grow fM) (kD.trans hR.os) (gV.trans hR.tape) (cS.trans hR.output) (λg hg _ h=>⟨dt g hg (λhm=>by
  obtain⟨f,hf,kE,b',aj⟩:=hrefs g hm;exact h f.name b' aj kE),λk b hb=>by
  obtain⟨b',aj⟩:=du k b hb;exact h k b' aj⟩)
 .intro k b hb;rcases bA k with⟨hk,h⟩|⟨b1,h1,h2⟩|⟨b1,b2,h1,h2,h3,h4⟩
  case inr.inl=>rw[h2]at hb;simp at hb
  .rw[h]at hb;refine cP.keep al hle rfl (λg hg=>?_) (hR.box k b hb);have mY:=fj (hR.box k b hb) hg;suffices eJ:g∉cH as zs from⟨dt g mY eJ,λo=>⟨λhs=>(cR g o hs).resolve_right (λh=>h.elim (λh=>by omega) λh=>eJ (GS (vV g h))),λhs=>(al g o hs).1⟩⟩
   intro hm;obtain⟨f,hf,kE,b',aj⟩:=hrefs g hm
   have aG:k≠f.name:=by
    rintro rfl
    have:f.name∈uo.map (·.1):=by rw[fN];exact List.mem_map_of_mem hf
    obtain⟨x,hx,he⟩:=k9.1 this;have:=(kp.1 hk) x hx;simp[he]at this
   exact hR.apart k f.name b b' g aG hb aj hg kE
  .rw[h2]at hb;simp at hb;subst hb;exact h4 _
 .intro k b g hb hg;obtain⟨b',aj⟩:=du k b hb;exact hR.own k b' g aj hg
 .intro k k' b1 b2 g aG h1 h2 hg;obtain⟨nT,gO⟩:=du k b1 h1;obtain⟨nU,fX⟩:=du k' b2 h2;exact hR.apart k k' nT nU g aG gO fX hg
 .intro g o hs;rcases cR g o hs with h|h|h
  .exact hR.new g o h
  .exact .inr (.inl (qg hR.grow h))
  .obtain⟨f,hf,yR,kE⟩:=pO bH (vV g h);obtain⟨b',aj⟩:=nf bH f hf;rcases hR.own f.name b' g aj kE with h|h
   .exact .inr h
   .rw[fw f hf yR]at h;simp at h
 .intro g hg hr;rw[dt g (q9 hg hR.grow) (λhm=>?_)]
  .exact hR.below g hg hr
  .obtain⟨f,hf,kE,b',aj⟩:=hrefs g hm;rcases hR.own f.name b' g aj kE with h|h
   .exact h.no (by omega) hr
   .exact hr h.1
theorem Ca(hR:Rel N np S0 w0 refs σ a w S γ){d:Nat}(hd:σ.bx d = .free){v':Value}{b:Bx}
  (hv:∀g,blk v'=some g->(Own w0 refs g/\refs.kw g=none)/\∀k b,σ.bx k = .live b->blk (γ k)≠some g)(hb:cP S w (gset γ d v') (σ.setB d (.live b)).bx d b) :
  Rel N np S0 w0 refs (σ.setB d (.live b)) a w S (gset γ d v')/\BxLe γ σ.bx (gset γ d v') (σ.setB d (.live b)).bx:=by
 have hle:BxLe γ σ.bx (gset γ d v') (σ.setB d (.live b)).bx:=by
  intro k hk;have aG:k≠d:=by rintro rfl;exact hk hd
  rw[bu σ _ aG,dn γ v' aG];exact⟨hk,rfl,λb hb=>⟨b,hb,.refl b⟩⟩
 refine⟨Rel.step (bx':=(σ.setB d (.live b)).bx) hR (.refl S w) hle ?_ ?_ ?_ hR.new hR.here hR.below hR.grow hR.os hR.tape hR.output (λg _ ix h=>⟨rfl,λk b' aj bH=>by
  by_cases hk:k=d
  .subst hk;rw[cT]at bH;exact ix (hv g bH).1.2
  .rw[bu σ _ hk]at aj;rw[dn γ v' hk]at bH;exact h k b' aj bH⟩),hle⟩
 .intro k b' aj;by_cases hk:k=d
  .subst hk;rw[c9]at aj;simp at aj;subst aj;exact hb
  .rw[bu σ _ hk]at aj;exact cP.keep (.refl S w) hle (dn γ v' hk) (λg hg=>⟨rfl,λ_=>Iff.rfl⟩) (hR.box k b' aj)
 .intro k b' g aj hg;by_cases hk:k=d
  .subst hk;rw[cT]at hg;exact .inl (hv g hg).1.1
  .rw[bu σ _ hk]at aj;rw[dn γ v' hk]at hg;exact hR.own k b' g aj hg
 .intro k k' b1 b2 g aG h1 h2 hg ae;by_cases hk:k=d
  .subst hk;have aS:k'≠k:=λh=>aG h.symm;rw[cT]at hg;rw[bu σ _ aS]at h2;rw[dn γ v' aS]at ae;exact(hv g hg).2 k' b2 h2 ae
  .by_cases aS:k'=d
   .subst aS;rw[cT]at ae;rw[bu σ _ hk]at h1;rw[dn γ v' hk]at hg;exact(hv g ae).2 k b1 h1 hg
   .rw[bu σ _ hk]at h1;rw[bu σ _ aS]at h2;rw[dn γ v' hk]at hg;rw[dn γ v' aS]at ae;exact hR.apart k k' b1 b2 g aG h1 h2 hg ae
theorem rY{bx:Nat->BS}{x:TV}{u:Value}(h:VRep S w x u):aQ S w γ bx (iR x.t x.v) u:=by
 obtain⟨t,v⟩:=x;obtain⟨h1,h2,h3⟩:=h;refine BA t v _ u h1 (λhm=>?_) (λha hn=>?_)
 .have:ff t=true:=by
   rcases hm with hm|⟨n,b,rfl⟩
   .cases t<;>simp_all[ff,Ty.agg]
   .rfl
  obtain⟨cs,rfl⟩:=h2 this;simp[Value.cells]
 .have:ff t=false:=by cases t<;>simp_all[ff,Ty.agg]
  exact tL (h3 this)
theorem yS:∀{ls:List RL}{n:Nat}{l:List Leaf}{u:Ups},soL n ls=some (l,u)->∀x∈u,n<=x.1/\x.1<n+ls.length
 |[],n,l,u,h=>by simp[soL]at h;obtain⟨rfl,rfl⟩:=h;simp
 |.d x::r,n,l,u,h=>by
  simp only[soL]at h;split at h
  .rename_i l' u' h';simp only[j3,j7]at h;obtain⟨rfl,rfl⟩:=h;intro y hy;have:=yS h' y hy;simp only[jn];omega
  .simp at h
 |.own e ⟨.list a,xs⟩::r,n,l,u,h=>by
  simp only[soL]at h;split at h
  .rename_i l' u' h';simp only[j3,j7]at h;obtain⟨rfl,rfl⟩:=h;intro y hy;rcases jf.1 hy with rfl|hy
   .simp only[jn];omega
   .have:=yS h' y hy;simp only[jn];omega
  .simp at h
 |.own e ⟨.int _,xs⟩::r,n,l,u,h=>by simp[soL]at h
 |.own e ⟨.bool,xs⟩::r,n,l,u,h=>by simp[soL]at h
 |.own e ⟨.str,xs⟩::r,n,l,u,h=>by simp[soL]at h
 |.own e ⟨.unit,xs⟩::r,n,l,u,h=>by simp[soL]at h
 |.own e ⟨.wrap _,xs⟩::r,n,l,u,h=>by simp[soL]at h
 |.own e ⟨.pair _ _,xs⟩::r,n,l,u,h=>by simp[soL]at h
 |.own e ⟨.arr _ _,xs⟩::r,n,l,u,h=>by simp[soL]at h
theorem GW{n:Nat}{r:RV}{c:Cel}{u:Ups}(h:yh n r=some (c,u)):∀x∈u,n<=x.1/\x.1<n+rvW r:=by
 unfold yh at h;split at h
 .simp only[j3,j7]at h;obtain⟨rfl,rfl⟩:=h;simp
 .simp only[j3,j7]at h;obtain⟨rfl,rfl⟩:=h;simp[rvW]
 .simp at h
 .simp only[j3,j7]at h;obtain⟨rfl,rfl⟩:=h;simp[rvW]
 .simp at h
 .split at h<;>(simp only[j3,j7]at h;obtain⟨rfl,rfl⟩:=h;simp)
 .simp only[j3,j7]at h;obtain⟨rfl,rfl⟩:=h;simp
 .split at h
  .rename_i l u' h';simp only[j3,j7]at h;obtain⟨rfl,rfl⟩:=h;exact yS h'
  .simp at h
 .simp at h
theorem GX:∀{n:Nat}{rs:List RV}{cs:List Cel}{u:Ups},pb n rs=some (cs,u)->∀x∈u,n<=x.1
 |n,[],cs,u,h=>by simp[pb]at h;obtain⟨rfl,rfl⟩:=h;simp
 |n,r::rs,cs,u,h=>by
  simp only[pb]at h;split at h
  .rename_i c u1 h1;split at h
   .rename_i Cb u2 h2;simp only[j3,j7]at h;obtain⟨rfl,rfl⟩:=h;intro x hx;rcases jq.1 hx with hx|hx
    .exact(GW h1 x hx).1
    .have:=GX h2 x hx;omega
   .simp at h
  .simp at h
theorem GY{bx:Nat->BS}{ns:List Nat}:∀(k:Nat){ls:List Leaf}{cs:List Value},All2 (aL S w γ bx) ls cs->(∀i∈ns,∀z,k<=i->cs[i-k]? = some z->z = .slice none 0 0)->
  All2 (aL S w γ bx) ((ls.zipIdx k).map λy=>if ns.contains y.2 then .nil else y.1) cs
 |_,[],[],_,_=>trivial
 |k,l::ls,c::cs,h,hn=>by
  refine⟨?_,GY (k+1) h.2 λi hi z hk hz=>hn i hi z (by omega) ?_⟩
  .by_cases hc:ns.contains k=true
   .simp only[hc,if_true];exact hn k (by simpa using hc) c (jm _) (by simp)
   .simp only[hc];exact h.1
  .rw[show i-k=(i-(k+1))+1 by omega];simpa using hz
 |_,[],_::_,h,_=>h.elim
 |_,_::_,[],h,_=>h.elim
theorem M6(hR:Rel N np S0 w0 refs σ a w S γ){h0:Nat}(Cc:w0.heap.size<=h0)(du:∀k b g,σ.bx k = .live b->blk (γ k)=some g->g<h0)(yG:∀g,h0<=g->refs.kw g=none)
  {ns:List Nat}{s:Snap}{v:Value}(rZ:B6 h0 S w ns s v)(az:∀x∈rawU ns s,σ.bx x.1 = .free)(ck:((rawU ns s).map (·.1)).Nodup) :
  ∃γ',Rel N np S0 w0 refs (σ.upd (rawU ns s)) a w S γ'/\∃zs,v=gT zs/\All2 (aQ S w γ' (σ.upd (rawU ns s)).bx) (rawC ns s) zs:=by
 obtain⟨γr,zs,hv,hc,hb,mZ,M7⟩:=rZ;generalize rawU ns s=u at *;let γ':Nat->Value:=λk=>if u.any (λy=>y.1==k) then γr k else γ k
 have kA:∀k,u.any (λy=>y.1==k)=true->(σ.upd u).bx k=(emp.upd u).bx k/\γ' k=γr k/\σ.bx k = .free:=by
  intro k hk;have vW:=hk;obtain⟨x,hx,he⟩:=List.any_eq_true.1 hk;have he:x.1=k:=by simpa using he
  subst he;exact⟨(pP u σ ck (b:=x.2) hx).trans (pP u emp ck (b:=x.2) hx).symm,if_pos vW,az x hx⟩
 have cS:∀k,u.any (λy=>y.1==k)=false->(σ.upd u).bx k=σ.bx k/\(emp.upd u).bx k = .free/\γ' k=γ k:=by intro k hk;exact⟨fZ u σ hk,fZ u emp hk,if_neg (by rw[hk];simp)⟩
 have GZ:BxLe γr (emp.upd u).bx γ' (σ.upd u).bx:=by
  intro k hk;cases hu:u.any (λy=>y.1==k) with
  |false=>exact absurd (cS k hu).2.1 hk
  |true=>obtain⟨h1,h2,_⟩:=kA k hu;rw[h1];exact⟨hk,h2,λb hb=>⟨b,hb,.refl b⟩⟩
 have G0:BxLe γ σ.bx γ' (σ.upd u).bx:=by
  intro k hk;cases hu:u.any (λy=>y.1==k) with
  |true=>exact absurd (kA k hu).2.2 hk
  |false=>obtain⟨h1,_,h2⟩:=cS k hu;rw[h1];exact⟨hk,h2,λb hb=>⟨b,hb,.refl b⟩⟩
 have dg:σ.upd u={ σ with bx:=(σ.upd u).bx }:=by have:=pB u σ;cases h:σ.upd u;rw[h]at this;simp only at this;rw[this]
 refine⟨γ',?_,zs,hv,hc.mono λx z hx=>aQ.keep (.refl S w) GZ hx⟩;rw[dg];refine Rel.step hR (.refl S w) G0 ?_ ?_ ?_ hR.new hR.here hR.below hR.grow hR.os hR.tape hR.output (λg _ ix h=>⟨rfl,λk b hb bH=>?_⟩)
 .intro k b aj;cases hu:u.any (λy=>y.1==k) with
  |true=>obtain⟨h1,h2,_⟩:=kA k hu;rw[h1]at aj;exact cP.keep (.refl S w) GZ h2 (λg hg=>⟨rfl,λ_=>Iff.rfl⟩) (hb k b aj)
  |false=>obtain⟨h1,_,h2⟩:=cS k hu;rw[h1]at aj;exact cP.keep (.refl S w) G0 h2 (λg hg=>⟨rfl,λ_=>Iff.rfl⟩) (hR.box k b aj)
 .intro k b g aj hg;cases hu:u.any (λy=>y.1==k) with
  |true=>obtain⟨h1,h2,_⟩:=kA k hu;rw[h1]at aj;rw[h2]at hg;exact .inl (.inl (qg Cc (mZ k b g aj hg)))
  |false=>obtain⟨h1,_,h2⟩:=cS k hu;rw[h1]at aj;rw[h2]at hg;exact hR.own k b g aj hg
 .intro k k' b b' g aG cb cG ga dp;cases hu:u.any (λy=>y.1==k) with
  |true=>
   obtain⟨h1,h2,_⟩:=kA k hu;rw[h1]at cb;rw[h2]at ga;cases cL:u.any (λy=>y.1==k') with
   |true=>obtain⟨h3,h4,_⟩:=kA k' cL;rw[h3]at cG;rw[h4]at dp;exact M7 k k' b b' g aG cb cG ga dp
   |false=>obtain⟨h3,_,h4⟩:=cS k' cL;rw[h3]at cG;rw[h4]at dp;have:=du k' b' g cG dp;have:=mZ k b g cb ga;omega
  |false=>
   obtain⟨h1,_,h2⟩:=cS k hu;rw[h1]at cb;rw[h2]at ga;cases cL:u.any (λy=>y.1==k') with
   |true=>obtain⟨h3,h4,_⟩:=kA k' cL;rw[h3]at cG;rw[h4]at dp;have:=du k b g cb ga;have:=mZ k' b' g cG dp;omega
   |false=>obtain⟨h3,_,h4⟩:=cS k' cL;rw[h3]at cG;rw[h4]at dp;exact hR.apart k k' b b' g aG cb cG ga dp
 .cases hu:u.any (λy=>y.1==k) with
  |true=>obtain⟨h1,h2,_⟩:=kA k hu;rw[h1]at hb;rw[h2]at bH;exact ix (yG g (mZ k b g hb bH))
  |false=>obtain⟨h1,_,h2⟩:=cS k hu;rw[h1]at hb;rw[h2]at bH;exact h k b hb bH
theorem Cd:∀{ls:List RL}{zs:List Value}{n:Nat}{l:List Leaf}{u:Ups}{σ:St}{γ:Nat->Value},Rel N np S0 w0 refs σ a w S γ->soL n ls=some (l,u)->All2 (yN S w) ls zs->
  (∀x∈u,σ.bx x.1 = .free)->(jD ls zs).Nodup->(∀g∈jD ls zs,(Own w0 refs g/\refs.kw g=none)/\∀k b,σ.bx k = .live b->blk (γ k)≠some g)->
  ∃γ',Rel N np S0 w0 refs (σ.upd u) a w S γ'/\BxLe γ σ.bx γ' (σ.upd u).bx/\All2 (aL S w γ' (σ.upd u).bx) l zs/\(∀z∈zs,One z)/\
   ∀k b g,(σ.upd u).bx k = .live b->blk (γ' k)=some g->(∃b',σ.bx k = .live b'/\blk (γ k)=some g)\/g∈jD ls zs
 |[],[],n,l,u,σ,γ,hR,h,_,_,_,_=>by
  simp[soL]at h;obtain⟨rfl,rfl⟩:=h;exact⟨γ,hR,.refl _ _,trivial,by simp,λk b g h1 h2=> .inl ⟨b,h1,h2⟩⟩
 |.d x::ls,z::zs,n,l,u,σ,γ,hR,h,ha,az,ck,hblk=>by
  simp only[soL]at h;split at h
  .rename_i l' u' h';simp only[j3,j7]at h;obtain⟨rfl,rfl⟩:=h;obtain⟨γ',q1,q2,q3,q4,q5⟩:=Cd hR h' ha.2 az ck hblk;exact⟨γ',q1,q2,⟨ha.1.2,q3⟩,λy hy=>(jf.1 hy).elim (λe=>e▸ha.1.1) (q4 y),q5⟩
  .simp at h
 |.own e ⟨.list t,xs⟩::ls,z::zs,n,l,u,σ,γ,hR,h,ha,az,ck,hblk=>by
  simp only[soL]at h;split at h
  .rename_i l' u' h';simp only[j3,j7]at h;obtain⟨rfl,rfl⟩:=h;have ao:pM S w e ⟨.list t,xs⟩ z:=ha.1;have bN:One z:=by obtain⟨t',ys,_,bk,_⟩:=ao;exact bk.one
   have vX:σ.bx n = .free:=az _ (List.mem_cons_self ..);simp only[jD]at ck hblk;obtain⟨aJ,hle⟩:=Ca hR vX (v':=z) (b:= .lst e t xs false) (λg hg=>hblk g (by simp[hg])) (tW (cT _ _ _) ao);have fO:=yS h'
   obtain⟨γ',q1,q2,q3,q4,q5⟩:=Cd aJ h' ha.2 (λx hx=>by
    have:=fO x hx;rw[bu σ _ (by omega)];exact az x (by simp[hx])) (ql.1 ck).2.1 (λg hg=>by
    obtain⟨p1,p2⟩:=hblk g (by simp[hg]);refine⟨p1,λk b' aj he=>?_⟩;by_cases hk:k=n
    .subst hk;rw[cT]at he;exact(ql.1 ck).2.2 g (by simp[he]) g hg rfl
    .rw[bu σ _ hk]at aj;rw[dn γ z hk]at he;exact p2 k b' aj he)
   refine⟨γ',q1,λk hk=>?_,⟨aL.keep (.refl S w) q2 ⟨by rw[c9];simp,bN,λb _=>(cT γ n z).symm⟩,q3⟩,λy hy=>(jf.1 hy).elim (λe=>e▸bN) (q4 y),λk b g h1 h2=>?_⟩
   .obtain⟨a1,a2,a3⟩:=hle k hk;obtain⟨b1,b2,b3⟩:=q2 k a1;refine⟨b1,b2.trans a2,λb hb=>?_⟩;obtain⟨b',aj,dE⟩:=b3 b hb;obtain⟨vT,lT,lU⟩:=a3 b' aj;exact⟨vT,lT,lU.trans dE⟩
   .rcases q5 k b g h1 h2 with⟨b',aj,he⟩|h3
    .by_cases hk:k=n
     .subst hk;rw[cT]at he;exact .inr (by simp[jD,he])
     .rw[bu σ _ hk]at aj;rw[dn γ z hk]at he;exact .inl ⟨b',aj,he⟩
    .exact .inr (by simp[jD,h3])
  .simp at h
 |.own e ⟨.int _,xs⟩::r,_,n,l,u,_,_,_,h,_,_,_,_=>by simp[soL]at h
 |.own e ⟨.bool,xs⟩::r,_,n,l,u,_,_,_,h,_,_,_,_=>by simp[soL]at h
 |.own e ⟨.str,xs⟩::r,_,n,l,u,_,_,_,h,_,_,_,_=>by simp[soL]at h
 |.own e ⟨.unit,xs⟩::r,_,n,l,u,_,_,_,h,_,_,_,_=>by simp[soL]at h
 |.own e ⟨.wrap _,xs⟩::r,_,n,l,u,_,_,_,h,_,_,_,_=>by simp[soL]at h
 |.own e ⟨.pair _ _,xs⟩::r,_,n,l,u,_,_,_,h,_,_,_,_=>by simp[soL]at h
 |.own e ⟨.arr _ _,xs⟩::r,_,n,l,u,_,_,_,h,_,_,_,_=>by simp[soL]at h
 |[],_::_,_,_,_,_,_,_,_,ha,_,_,_=>ha.elim
 |.d _::_,[],_,_,_,_,_,_,_,ha,_,_,_=>ha.elim
 |.own _ ⟨.list _,_⟩::_,[],_,_,_,_,_,_,_,ha,_,_,_=>ha.elim
theorem G1:∀{rs:List RV}{vs:List Value}{n:Nat}{cs:List Cel}{un:Ups}{σ:St}{γ:Nat->Value},Rel N np S0 w0 refs σ a w S γ->pb n rs=some (cs,un)->All2 (lb S w) rs vs->
  (∀x∈un,σ.bx x.1 = .free)->(eE rs vs).Nodup->(∀g∈eE rs vs,(Own w0 refs g/\refs.kw g=none)/\∀k b,σ.bx k = .live b->blk (γ k)≠some g)->
  ∃γ',Rel N np S0 w0 refs (σ.upd un) a w S γ'/\BxLe γ σ.bx γ' (σ.upd un).bx/\All2 (aQ S w γ' (σ.upd un).bx) cs vs
 |[],[],n,cs,un,σ,γ,hR,h,_,_,_,_=>by
  simp[pb]at h;obtain⟨rfl,rfl⟩:=h;exact⟨γ,hR,.refl _ _,trivial⟩
 |r::rs,u::us,n,cs,un,σ,γ,hR,h,ha,az,ck,hblk=>by
  simp only[pb]at h;split at h
  .rename_i c u1 h1;split at h
   .rename_i Cb u2 h2;simp only[j3,j7]at h;obtain⟨rfl,rfl⟩:=h
    have iC:∀(σ1:St)(γ1:Nat->Value),Rel N np S0 w0 refs σ1 a w S γ1->σ1=σ.upd u1->BxLe γ σ.bx γ1 σ1.bx->aQ S w γ1 σ1.bx c u->(∀x∈u2,σ1.bx x.1 = .free)->
      (eE rs us).Nodup->(∀g∈eE rs us,(Own w0 refs g/\refs.kw g=none)/\∀k b,σ1.bx k = .live b->blk (γ1 k)≠some g)->
      ∃γ',Rel N np S0 w0 refs (σ.upd (u1++u2)) a w S γ'/\BxLe γ σ.bx γ' (σ.upd (u1++u2)).bx/\All2 (aQ S w γ' (σ.upd (u1++u2)).bx) (c::Cb) (u::us):=by
     intro σ1 γ1 aJ he hle hc hf hn hb;obtain⟨γ',q1,q2,q3⟩:=G1 (σ:=σ1) (γ:=γ1) aJ h2 ha.2 hf hn hb;subst he;rw[fJ];refine⟨γ',q1,?_,aQ.keep (.refl S w) q2 hc,q3⟩;intro k hk;obtain⟨a1,a2,a3⟩:=hle k hk;obtain⟨b1,b2,b3⟩:=q2 k a1;refine⟨b1,b2.trans a2,λb hb=>?_⟩;obtain⟨b',aj,dE⟩:=b3 b hb;obtain⟨vT,lT,lU⟩:=a3 b' aj;refine⟨vT,lT,?_⟩;exact lU.trans dE
    have fO:=GW h1;have iD:=GX h2
    have cR:∀(v':Value)(b:Bx),gl r u=(blk v').toList->rvW r=1->u1=[(n,.live b)]->(∀bx',cP S w (gset γ n v') bx' n b)->(∀bx',(bx' n = .live b)->aQ S w (gset γ n v') bx' c u)->
      ∃γ',Rel N np S0 w0 refs (σ.upd (u1++u2)) a w S γ'/\BxLe γ σ.bx γ' (σ.upd (u1++u2)).bx/\All2 (aQ S w γ' (σ.upd (u1++u2)).bx) (c::Cb) (u::us):=by
     intro v' b eS Ce vY bz iE;subst vY;rw[Ce]at iD;have vX:σ.bx n = .free:=az (n,.live b) (by simp);simp only[eE,eS]at ck hblk;obtain⟨aJ,hle⟩:=Ca hR vX (v':=v') (b:=b) (λg hg=>hblk g (by simp[hg])) (bz _);refine iC _ _ aJ rfl hle (iE _ (c9 _ _ _)) (λx hx=>?_) ?_ (λg hg=>?_)
     .have:=iD x hx;rw[bu σ _ (by omega)];exact az x (by simp[hx])
     .exact(ql.1 ck).2.1
     .obtain⟨p1,p2⟩:=hblk g (by simp[hg]);refine⟨p1,λk b' aj he=>?_⟩;by_cases hk:k=n
      .subst hk;rw[cT]at he;have:=(ql.1 ck).2.2 g (by simp[he]) g hg;exact this rfl
      .rw[bu σ _ hk]at aj;rw[dn γ v' hk]at he;exact p2 k b' aj he
    unfold yh at h1;split at h1
    .rename_i x;simp only[j3,j7]at h1;obtain⟨rfl,rfl⟩:=h1;refine iC σ γ hR rfl (.refl _ _) (rY ha.1) (λx hx=>az x (by simp[hx])) ?_ ?_
     .simpa[eE,ik,gl]using ck
     .simpa[eE,ik,gl]using hblk
    .rename_i e el xs;simp only[j3,j7]at h1;obtain⟨rfl,rfl⟩:=h1;have ao:pM S w e ⟨.list el,xs⟩ u:=ha.1;have bN:One u:=by obtain⟨t',ys,_,bk,_⟩:=ao;exact bk.one
     exact cR u _ rfl rfl rfl (λbx'=>tW (cT _ _ _) ao) (λbx' hb=>⟨⟨by rw[hb];simp,bN,λb _=>(cT γ n u).symm⟩,λ_=>bN⟩)
    .simp at h1
    .rename_i ls;simp only[j3,j7]at h1;obtain⟨rfl,rfl⟩:=h1;have vZ:vU S w ls u:=ha.1;obtain⟨g,cur,e,hu,_⟩:=id vZ;have bN:One u:=by rw[hu];rfl
     exact cR u _ rfl rfl rfl (λbx'=>B8 (cT _ _ _) vZ) (λbx' hb=>⟨⟨by rw[hb];simp,bN,λb _=>⟨g,by rw[cT,hu],hu⟩⟩,λ_=>bN⟩)
    .simp at h1
    .rename_i x ns;have hv:VRep S w x u/\∀cs,u = .agg cs->∀i∈ns,∀z,cs.toList[i]? = some z->z = .slice none 0 0:=ha.1;have lV:aQ S w γ σ.bx (iR x.t x.v) u:=rY hv.1
     have hc:aQ S w γ σ.bx c u/\u1=[]:=by
      split at h1
      .rename_i ls he;simp only[j3,j7]at h1;obtain⟨rfl,rfl⟩:=h1;rw[he]at lV;obtain⟨cs,hu,ah,bN⟩:=lV;exact⟨⟨cs,hu,GY 0 ah λi hi z _ hz=>hv.2 cs hu i hi z (by simpa using hz),bN⟩,rfl⟩
      .simp only[j3,j7]at h1;obtain⟨rfl,rfl⟩:=h1;exact⟨lV,rfl⟩
     obtain⟨hc,rfl⟩:=hc;refine iC σ γ hR rfl (.refl _ _) hc (λx hx=>az x (by simp[hx])) ?_ ?_
     .simpa[eE,ik,gl]using ck
     .simpa[eE,ik,gl]using hblk
    .rename_i f caps;simp only[j3,j7]at h1;obtain⟨rfl,rfl⟩:=h1;obtain⟨cv,hu,ah⟩:∃cv:Array Value,u = .func (.func f) #[] cv/\All2 (fR S w) caps cv.toList:=ha.1;refine iC σ γ hR rfl (.refl _ _) ⟨⟨cv,hu,ah⟩,λ_=>by rw[hu];rfl⟩ (λx hx=>az x (by simp[hx])) ?_ ?_
     .simpa[eE,ik,gl]using ck
     .simpa[eE,ik,gl]using hblk
    .rename_i ls;split at h1
     .rename_i l dN hl;simp only[j3,j7]at h1;obtain⟨rfl,rfl⟩:=h1;obtain⟨ng,hu,ah⟩:∃cs:Array Value,u = .agg cs/\All2 (yN S w) ls cs.toList:=ha.1;subst hu;have tX:gl (.so ls) (.agg ng)=jD ls ng.toList:=rfl;simp only[eE,tX]at ck hblk;obtain⟨γ1,q1,q2,q3,q4,q5⟩:=Cd hR hl ah (λx hx=>az x (by simp[hx])) (ql.1 ck).1 (λg hg=>hblk g (by simp[hg]));refine iC _ γ1 q1 rfl q2 ⟨ng,rfl,q3,q4⟩ (λx hx=>?_) (ql.1 ck).2.1 (λg hg=>?_)
      .have h2:=iD x hx;rw[fZ dN σ]
       .exact az x (by simp[hx])
       .rw[kp];intro y hy he;simp only[qt]at he;have:=fO y hy;omega
      .obtain⟨p1,p2⟩:=hblk g (by simp[hg]);refine⟨p1,λk b' aj he=>?_⟩;rcases q5 k b' g aj he with⟨b2,cG,M8⟩|h3
       .exact p2 k b2 cG M8
       .exact(ql.1 ck).2.2 g h3 g hg rfl
     .simp at h1
    .simp at h1
   .simp at h
  .simp at h
 |[],_::_,_,_,_,_,_,_,_,ha,_,_,_=>ha.elim
 |_::_,[],_,_,_,_,_,_,_,ha,_,_,_=>ha.elim
end
section
variable{N:NT}{np:Nat}{S0:an}{w0:World}{refs:Refs}{σ:St}{a:Go.Act}{w:World}{S:an}{γ:Nat->Value}
theorem Cf{S':an}{w':World}:∀(cs:List Cap)(cv:List Value)(os:List Out),gm S' w' (cs.map jS) cv os->os=[]
 |[],[],[],_=>rfl
 |[],[],_::_,h=>h.elim
 |[],_::_,_,h=>h.elim
 |c::cs,[],_,h=>by cases c<;>exact h.elim
 |.v _::cs,_::cv,os,h=>Cf cs cv os h
 |.p _::cs,_::cv,os,h=>Cf cs cv os h
theorem r5{S':an}{w':World}{cs:List Cap}{cv:List Value}:∀{as:List Arg}{zs:List Value}{os:List Out},as.length=zs.length->
  gm S' w' (as++cs.map jS) (zs++cv) os->gm S' w' as zs os
 |[],[],os,_,h=>by
  have:=Cf cs cv os h;subst this;trivial
 |.ref ls::as,u::us,.ref ys::os,hl,⟨h1,h2⟩=>⟨h1,r5 (by simpa using hl) h2⟩
 |.rl e x::as,u::us,.rl y::os,hl,⟨h1,h2,h3⟩=>⟨h1,h2,r5 (by simpa using hl) h3⟩
 |.v _::as,_::us,os,hl,h=>r5 (as:=as) (zs:=us) (by simpa using hl) h
 |.ip _::as,_::us,os,hl,h=>r5 (as:=as) (zs:=us) (by simpa using hl) h
 |.clo _ _::as,_::us,os,hl,h=>r5 (as:=as) (zs:=us) (by simpa using hl) h
 |.mv _ _::as,_::us,os,hl,h=>r5 (as:=as) (zs:=us) (by simpa using hl) h
 |[],_::_,_,hl,_=>by simp at hl
 |_::_,[],_,hl,_=>by simp at hl
 |.ref _::_,_::_,[],_,h=>h.elim
 |.ref _::_,_::_,.rl _::_,_,h=>h.elim
 |.rl _ _::_,_::_,[],_,h=>h.elim
 |.rl _ _::_,_::_,.ref _::_,_,h=>h.elim
theorem dV.congr{bx bx':Nat->BS}:∀{as:List Arg}{us:List Value}{fs:List Bk},(∀f∈fs,bx' f.name=bx f.name)->dV bx γ as us fs->dV bx' γ as us fs
 |[],[],[],_,_=>trivial
 |.ref ls::as,u::us,.ref k::fs,hc,⟨h1,⟨eg,h2⟩,h3⟩=>
  ⟨h1,⟨eg,(hc (.ref k) (by simp)).trans h2⟩,dV.congr (λf hf=>hc f (by simp[hf])) h3⟩
 |.rl e x::as,u::us,.rl k e' t::fs,hc,⟨h0,h1,⟨xs,h2,hx⟩,h3⟩=>
  ⟨h0,h1,⟨xs,(hc (.rl k e' t) (by simp)).trans h2,hx⟩,dV.congr (λf hf=>hc f (by simp[hf])) h3⟩
 |.mv e x::as,u::us,.mv k e' t::fs,hc,⟨h0,h1,⟨xs,h2,hx⟩,h3⟩=>
  ⟨h0,h1,⟨xs,(hc (.mv k e' t) (by simp)).trans h2,hx⟩,dV.congr (λf hf=>hc f (by simp[hf])) h3⟩
 |.v _::as,_::us,fs,hc,h=>dV.congr (as:=as) (us:=us) hc h
 |.ip _::as,_::us,fs,hc,h=>dV.congr (as:=as) (us:=us) hc h
 |.clo _ _::as,_::us,fs,hc,h=>dV.congr (as:=as) (us:=us) hc h
theorem tY{S1 S':an}{w':World}(dF:∀g o,S g o->S' g o):∀{as:List Arg}{zs:List Value}{os:List Out},os.all Out.flat=true->gm S' w' as zs os->gm S w' as zs os
 |[],[],[],_,_=>trivial
 |.ref ls::as,u::us,.ref ys::os,hf,⟨⟨g,cur,e,h1,h2,h3,h4⟩,h5⟩=>by
  simp only[qu,j9,Out.flat]at hf;refine⟨⟨g,cur,e,h1,h2,?_,λo hs=>h4 o (dF g o hs)⟩,tY (S1:=S1) dF hf.2 h5⟩;have hl:=hf.1;clear h1 h2 hf h4 h5;generalize cur.toList.take ys.length=l at h3;induction ys generalizing l with
  |nil=>cases l with|nil=>trivial|cons _ _=>exact h3.elim
  |cons y ys ih=>
   cases l with
   |nil=>exact h3.elim
   |cons z l=>simp only[qu,j9]at hl;exact⟨og _ _ _ hl.1 h3.1,ih hl.2 l h3.2⟩
 |.rl e x::as,u::us,.rl y::os,hf,⟨⟨t,xs,h1,_⟩,_,_⟩=>by
  simp only[qu,j9,Out.flat,h1,Ty.flat]at hf;exact absurd hf.1 (by simp)
 |.v _::as,_::us,os,hf,h=>tY (S1:=S1) (as:=as) (zs:=us) dF hf h
 |.ip _::as,_::us,os,hf,h=>tY (S1:=S1) (as:=as) (zs:=us) dF hf h
 |.clo _ _::as,_::us,os,hf,h=>tY (S1:=S1) (as:=as) (zs:=us) dF hf h
 |.mv _ _::as,_::us,os,hf,h=>tY (S1:=S1) (as:=as) (zs:=us) dF hf h
theorem M9{S S':an}{w:World}{e:Nat}{a:Ty}{xs:List a.den}{u:Value}(hf:a.flat=true)(h:lC S' w e a xs u):lC S w e a xs u:=by
 rcases h with⟨hm,css,h1,h2⟩|⟨hm,h1⟩
 .exact .inl ⟨hm,css,h1,h2.mono λx c hx=>og _ _ _ hf hx⟩
 .refine .inr ⟨hm,?_⟩;revert hf h1;cases a with
  |pair k b=>intro hf h1;simp only[Ty.flat,j9]at hf;obtain⟨g,es,clock,hu,hh,ha,hq⟩:=h1;exact⟨g,es,clock,hu,hh,ha.mono λx e hx=>⟨og _ _ _ hf.1 hx.1,og _ _ _ hf.2 hx.2.1,hx.2.2⟩,hq⟩
  |_=>intro _ h1;exact h1.elim
theorem G2{S':an}{w':World}(dF:∀g o,S g o->S' g o):∀{rs:List RV}{vs:List Value},rs.all RV.flat=true->All2 (lb S' w') rs vs->All2 (lb S w') rs vs
 |[],[],_,_=>trivial
 |r::rs,v::vs,hf,h=>by
  simp only[qu,j9]at hf;have i1:=G2 dF hf.2 h.2;cases r with
  |v x=>obtain⟨h1,h2,h3⟩:=h.1;exact⟨⟨og _ _ _ hf.1 h1,h2,h3⟩,i1⟩
  |own e x=>obtain⟨a,xs,rfl,h1,h2⟩:=h.1;exact⟨⟨a,xs,rfl,M9 hf.1 h1,λg hg o hs=>h2 g hg o (dF g o hs)⟩,i1⟩
  |so ls=>simp[RV.flat]at hf
  |box ls=>simp[RV.flat]at hf
  |hd n=>simp[RV.flat]at hf
  |vn x ns=>simp[RV.flat]at hf
  |clo f cs=>simp[RV.flat]at hf
  |raw ns s=>simp[RV.flat]at hf
 |[],_::_,_,h=>h.elim
 |_::_,[],_,h=>h.elim
theorem Na{rd:Nat->BS}(aq:RdOk σ rd){un:Ups}(h:un.all (λe=>ed (rd e.1))=true):∀x∈un,σ.bx x.1 = .free:=
 λx hx=>aq.free (ji.1 h x hx)
theorem All2.len{α β:Type}{R:α->β->Prop}{as:List α}{bs:List β}(h:All2 R as bs):as.length=bs.length:=h.length
theorem G3{γ':Nat->Value}{bx:Nat->BS}{S':an}{w':World}{Nb:Nat->Value}{cs:List Cel}{vs:List Value}(h:All2 (aQ S' w' γ' bx) cs vs) :
  fe S' w' γ' bx Nb (u3 cs) (gT vs):=by
 match cs,vs,h with
 |[c],[v],h=>exact h.1
 |[],[],h=>exact⟨#[],rfl,trivial⟩
 |c::c'::cs,v::v'::vs,h=>exact⟨(v::v'::vs).toArray,rfl,by simpa using h⟩
 |[c],v::v'::vs,h=>exact h.2.elim
 |c::c'::cs,[v],h=>exact h.2.elim
 |[],v::vs,h=>exact h.elim
 |c::cs,[],h=>exact h.elim
theorem yT{bx:Nat->BS}{k e:Nat}{t:Ty}:∀{as:List Arg}{us:List Value}{fs:List Bk},dV bx γ as us (.rl k e t::fs)->∀(bs:List Arg)(vs:List Value),yO (as++bs) (us++vs)=some (γ k)
 |.rl e x::as,u::us,fs,⟨_,h1,_,_⟩,bs,vs=>by rw[<-h1];rfl
 |.v _::as,_::us,fs,h,bs,vs=>yT (as:=as) (us:=us) (fs:=fs) h bs vs
 |.ip _::as,_::us,fs,h,bs,vs=>yT (as:=as) (us:=us) (fs:=fs) h bs vs
 |.clo _ _::as,_::us,fs,h,bs,vs=>yT (as:=as) (us:=us) (fs:=fs) h bs vs
 |[],[],fs,h,_,_=>h.elim
 |.ref _::as,_::us,fs,h,_,_=>h.elim
 |.mv _ _::as,_::us,fs,h,_,_=>h.elim
 |[],_::_,fs,h,_,_=>h.elim
 |_::_,[],fs,h,_,_=>by cases ‹Arg› <;> exact h.elim
theorem G4{α β:Type}:∀(l:List α)(l':List β),List.Sublist ((l.zip l').map (·.1)) l
 |[],_=>by simp
 |_::_,[]=>by simp
 |x::l,y::l'=>by simpa using G4 l l'
theorem G5:∀(as:List Arg)(us:List Value)(bs:List Arg)(vs:List Value),as.length=us.length->mvOf (as++bs) (us++vs)=mvOf as us++mvOf bs vs
 |[],[],bs,vs,_=>rfl
 |a::as,u::us,bs,vs,h=>by
  have ih:=G5 as us bs vs (by simpa using h);cases a<;>simp[mvOf,ih]
 |[],_::_,_,_,h=>by simp at h
 |_::_,[],_,_,h=>by simp at h
theorem G6:∀(cs:List Cap)(zs:List Value),mvOf (cs.map jS) zs=[]
 |[],_=>by cases ‹List Value› <;> rfl
 |c::cs,[]=>by cases c<;>rfl
 |c::cs,z::zs=>by cases c<;>simp[mvOf,jS,G6 cs zs]
theorem yU:∀{fs:List Bk}{os:List Out}{uo:Ups}{f:Bk},gJ fs os=some uo->f∈fs->f.isMv=true->(f.name,BS.gone)∈uo
 |[],os,uo,f,_,hf,_=>by simp at hf
 |.mv k e a::fs,os,uo,f,h,hf,hm=>by
  simp only[gJ]at h;split at h
  .rename_i u' cL;simp only[j3]at h;subst h;rcases jf.1 hf with rfl|hf
   .exact List.mem_cons_self
   .exact z9 _ (yU cL hf hm)
  .simp at h
 |.ref k::fs,[],uo,f,h,hf,hm=>by simp[gJ]at h
 |.rl k e a::fs,[],uo,f,h,hf,hm=>by simp[gJ]at h
 |.ref k::fs,o::os,uo,f,h,hf,hm=>by
  simp only[gJ]at h;split at h
  .split at h
   .rename_i u' cL;simp only[j3]at h;subst h;rcases jf.1 hf with rfl|hf
    .simp[Bk.isMv]at hm
    .exact z9 _ (yU cL hf hm)
   .simp at h
  .simp at h
 |.rl k e a::fs,o::os,uo,f,h,hf,hm=>by
  simp only[gJ]at h;split at h
  .split at h
   .rename_i u' cL;simp only[j3]at h;subst h;rcases jf.1 hf with rfl|hf
    .simp[Bk.isMv]at hm
    .exact z9 _ (yU cL hf hm)
   .simp at h
  .simp at h
theorem G7{P:Program}(hR:Rel N np S0 w0 refs σ a w S γ){rw rd rdf:Nat->BS}(eV:RdR σ rw)(aq:RdOk σ rd)(aE:RdF np σ rdf){T:Nat->Option TyI}{ts:List Nat}{ms:List Bool}{cs:List Cel}{as:List Arg}{us:Ups}{fs:List Bk}{zs:List Value}
  {mv:Bool}(h:jR rw rdf T mv ts ms cs=some (as,us,fs))(ha:All2 (aQ S w γ σ.bx) cs zs)(aM:bkOk us fs=true)
  {caps:List Cap}{cv:List Value}(gp:All2 (fR S w) caps cv){g:Nat}{K:Ret->Prop}
  (cu:yQ P g (as++caps.map jS) K)(n:Nat) :
  Calls P g (zs++cv).toArray w λe w'=>∃ret,K ret/\∀s u,nJ rd rdf n us fs ret=some (s,u)->∃v S' γ',e = .returned v/\Rel N np S0 w0 refs (σ.upd u) a w' S' γ'/\fe S' w' γ' (σ.upd u).bx (tm a) s v:=by
 obtain⟨eP,bH,lH⟩:=GN hR eV aE h ha;simp only[bkOk,j9]at aM;obtain⟨ck,r6⟩:=aM;have ck:=rW ck
 have hlen:as.length=zs.length:=by
  have:∀{as:List Arg}{us:List Value}{fs:List Bk},dV σ.bx γ as us fs->as.length=us.length:=by
   intro as;induction as with
   |nil=>intro us fs hh;cases us with|nil=>rfl|cons _ _=>exact hh.elim
   |cons a as ih=>
    intro us fs hh;cases us with
    |nil=>cases a<;>exact hh.elim
    |cons u us=>
     cases a with
     |v x=>have:=ih (us:=us) (fs:=fs) hh;simp[this]
     |ip x=>have:=ih (us:=us) (fs:=fs) hh;simp[this]
     |clo x y=>have:=ih (us:=us) (fs:=fs) hh;simp[this]
     |ref ls=>match fs,hh with|.ref k::fs,⟨_,_,h3⟩=>have:=ih h3;simp[this]
     |rl e x=>match fs,hh with|.rl k e' t::fs,⟨_,_,_,h3⟩=>have:=ih h3;simp[this]
     |mv e x=>match fs,hh with|.mv k e' t::fs,⟨_,_,_,h3⟩=>have:=ih h3;simp[this]
  exact this bH
 obtain⟨S1,aJ,bF,ei,ct⟩:=iW us σ S hR eP;have v7:∀k,k∈fs.map Bk.name->us.any (λy=>y.1==k)=false:=by intro k hk;rw[kp];intro x hx he;have:=ji.1 r6 x hx;simp only[qt]at he;subst he;simp only[ke,kg,kb]at this;exact this hk
 have lW:∀f∈fs,(σ.upd us).bx f.name=σ.bx f.name:=λf hf=>fZ us σ (v7 _ (List.mem_map_of_mem hf));have om:=bH.congr lW
 have kF:∀k b,fs.any (λy=>y.name==k)=true->σ.bx k = .live b->∀g,blk (γ k)=some g->∀o,¬S1 g o:=by
  intro k b hk hb g hg o;obtain⟨f,hf,he⟩:=List.any_eq_true.1 hk;have he:f.name=k:=by simpa using he
  subst he;have cb:(σ.upd us).bx f.name = .live b:=(lW f hf).trans hb;have bz:=aJ.box f.name b cb
  have gW:(∃eg,b = .cell eg false)\/(∃e t xs,b = .lst e t xs false):=by
   have:∀{as:List Arg}{us:List Value}{fs:List Bk},dV σ.bx γ as us fs->f∈fs->(∃eg,σ.bx f.name = .live (.cell eg false))\/(∃e t xs,σ.bx f.name = .live (.lst e t xs false)):=by
    intro as;induction as with
    |nil=>intro us fs hh hm;match us,fs,hh with|[],[],_=>simp at hm
    |cons a as ih=>
     intro us fs hh hm;cases us with
     |nil=>cases a<;>exact hh.elim
     |cons u us=>
      cases a with
      |v x=>exact ih (us:=us) (fs:=fs) hh hm
      |ip x=>exact ih (us:=us) (fs:=fs) hh hm
      |clo x y=>exact ih (us:=us) (fs:=fs) hh hm
      |ref ls=>
       match fs,hh with
       |.ref k::fs,⟨_,⟨eg,h2⟩,h3⟩=>
        rcases jf.1 hm with rfl|hm
        .exact .inl ⟨eg,h2⟩
        .exact ih h3 hm
      |rl e x=>
       match fs,hh with
       |.rl k e' t::fs,⟨_,_,⟨xs,h2,_⟩,h3⟩=>
        rcases jf.1 hm with rfl|hm
        .exact .inr ⟨_,t,xs,h2⟩
        .exact ih h3 hm
      |mv e x=>
       match fs,hh with
       |.mv k e' t::fs,⟨_,_,⟨xs,h2,_⟩,h3⟩=>
        rcases jf.1 hm with rfl|hm
        .exact .inr ⟨_,t,xs,h2⟩
        .exact ih h3 hm
   rcases this bH hf with⟨eg,h2⟩|⟨e,t,xs,h2⟩
   .rw[hb]at h2;simp at h2;exact .inl ⟨eg,h2⟩
   .rw[hb]at h2;simp at h2;exact .inr ⟨e,t,xs,h2⟩
  rcases gW with⟨eg,rfl⟩|⟨e,t,xs,rfl⟩
  .obtain⟨g',cur,e,ae,_,_,_,hS,_⟩:=bz;rw[ae]at hg;simp[blk]at hg;subst hg;exact hS rfl o
  .exact(bz.2 g hg).1 rfl o
 have bB:All2 (kC S1 w) as zs:=lH S1 bF ei kF;have v8:All2 (kC S1 w) (caps.map jS) cv:=GP (gp.mono (λx z hx=>fR.keep bF hx));have hrefs:cH (as++caps.map jS) (zs++cv)=cH as zs:=by rw[GR _ _ _ _ hlen,GQ,jw]
 have oo:(cH as zs).Nodup:=by rw[pN bH];have:=B7 hR ck (λk hk=>by obtain⟨f,hf,rfl⟩:=k9.1 hk;exact nf bH f hf);rwa[List.filterMap_map]at this
 refine(cu w S1 (zs++cv) (bB.append v8) (by rw[hrefs];exact oo) aJ.here).mono ?_
 rintro e w' ⟨ret,hK,v,S',vs,rfl,aW⟩
 refine⟨ret,hK,λs u aB=>?_⟩;obtain⟨cV,aH,lX,r7,cw,eW,cR,gU,dt,fM,kD,gV,cS,rZ,lY⟩:=aW;rw[hrefs]at dt;have Cg:mvOf (as++caps.map jS) (zs++cv)=mvOf as zs:=by rw[G5 _ _ _ _ hlen,G6,jw]
 rw[Cg]at lX cR;have fw:∀f∈fs,f.isMv=true->parK np f.name=false:=GU aE h;have cw:=r5 hlen cw;refine⟨v,?_⟩;unfold nJ at aB;split at aB
 ·-- the list Ch first,cut short
  rename_i m tZ;unfold mkHd at aB;generalize dG:ret.outs=ro at aB cw;split at aB
  .rename_i k e el GO y G8 _;split at aB
   .rename_i uo ys lZ vL;split at aB
    .rename_i aV;simp only[j9]at aV;simp only[j3,j7]at aB;obtain⟨rfl,rfl⟩:=aB;have bc:=B9 aJ eW cR gU (λ_ h=>h) fw om ck lZ cw dt fM kD gV cS;obtain⟨fN,jE⟩:=oh aJ om lZ cw;have lK:(uo.map (·.1)).Nodup:=by rw[fN];exact ck
     have Ci:(k,BS.live (.lst e el ys false))∈uo:=by
      simp only[gJ,yg,vL]at lZ;split at lZ
      .simp only[j3]at lZ;rw[<-lZ];exact List.mem_cons_self
      .simp at lZ
     have et:=pP uo (σ.upd us) lK Ci;obtain⟨bl,tX⟩:=vv aV.2;have iZ:=aE.par tX;have h0:=aq.free aV.1;have h1:(σ.upd us).bx n = .free:=ct.free h0;have iF:((σ.upd us).upd uo).bx n = .free:=by rw[fZ uo,h1];rw[kp];intro y hy he;simp only[qt]at he;obtain⟨b0,h2,_⟩:=jE y hy;rw[he,h1]at h2;simp at h2
     obtain⟨ad,len,cap,gy,hml,eI⟩:=lY m tZ;have r8:γ k = .slice ad len cap:=by have:=yT bH (caps.map jS) cv;rw[gy]at this;simpa using this.symm
     have jC:len=ys.length:=by
      obtain⟨css,ao,_⟩:=yr r8 (bc.box k _ et);rcases ao.2 with⟨ae,hn⟩|⟨g,dX,cur,ae,_⟩
      .rw[r8]at ae;simp only[Value.slice.injEq]at ae;omega
      .rw[r8]at ae;simp only[Value.slice.injEq]at ae;omega
     obtain⟨γ',bP,eT⟩:=MU bc et iZ iF (m:=m) (by omega) (by rw[r8,jC]);refine⟨S',γ',rfl,by rw[fJ,fJ];exact bP,?_⟩;rw[cV,eI,fJ,fJ];exact eT
    .simp at aB
   .simp at aB
  .simp at aB
 ·-- the results as Cj lie
  rename_i ns sn tZ;unfold u4 at aB;generalize dG:ret.outs=ro at aB cw;split at aB
  case h_2=>simp at aB
  split at aB
  case isFalse=>simp at aB
  rename_i aV;simp only[j9]at aV;simp only[j3,j7]at aB;obtain⟨rfl,rfl⟩:=aB;have bc:=B9 aJ eW cR gU (λ_ h=>h) fw om ck (uo:=[]) rfl cw dt fM kD gV cS;have dF:∀x∈rawU ns sn,x.1∈ns:=λx hx=>(List.of_mem_zip hx).1
  obtain⟨γ',eU,zs',eS,bY⟩:=M6 (h0:=w.heap.size) bc hR.grow (λk b g hb hg=>fj (aJ.box k b hb) hg) (λg hg=>hR.kw_new hg) (rZ ns sn tZ)
   (λx hx=>ct.free (aq.free (ji.1 aV.2 x.1 (dF x hx)))) (by
    exact List.Nodup.sublist (G4 _ _) (rW aV.1))
  refine⟨S',γ',rfl,by rw[fJ];exact eU,?_⟩;rw[eS,fJ];exact G3 bY
 split at aB
 .rename_i uo lZ;split at aB
  .rename_i ng un fy;split at aB
   .rename_i az;have az:=Na aq az
    have dR:∀(gq:Ups)(Sx Sy:an),(gq=us\/gq=[])->Rel N np S0 w0 refs (σ.upd gq) a w Sx γ->cm Sx w Sy w'->(∀g o,Sy g o->Sx g o\/w.heap.size<=g\/g∈mvOf as zs)->(∀g o,Sy g o->g<w'.heap.size)->
      gm Sy w' as zs ret.outs->All2 (lb Sy w') ret.vals vs->
      ∃S' γ',Rel N np S0 w0 refs (σ.upd (gq++uo++un)) a w' S' γ'/\All2 (aQ S' w' γ' (σ.upd (gq++uo++un)).bx) ng vs:=by
     intro gq Sx Sy oq ot Ck wa r9 pQ wb
     have ou:dV (σ.upd gq).bx γ as zs fs:=by
      rcases oq with rfl|rfl
      .exact om
      .exact bH
     have bc:=B9 ot Ck wa r9 (λ_ h=>h) fw ou ck lZ pQ dt fM kD gV cS;obtain⟨fN,jE⟩:=oh ot ou lZ pQ
     have l5:∀k b,((σ.upd gq).upd uo).bx k = .live b->∃b',(σ.upd gq).bx k = .live b':=by
      intro k b hb;by_cases hk:uo.any (λy=>y.1==k)=true
      .obtain⟨x,hx,he⟩:=List.any_eq_true.1 hk;have he:x.1=k:=by simpa using he
       subst he;obtain⟨b0,h0,_⟩:=jE x hx;exact⟨b0,h0⟩
      .rw[fZ uo _ (qk.2 hk)]at hb;exact⟨b,hb⟩
     have iF:∀x∈un,((σ.upd gq).upd uo).bx x.1 = .free:=by
      intro x hx;have h0:=az x hx
      have h1:(σ.upd gq).bx x.1 = .free:=by
       rcases oq with rfl|rfl
       .exact ct.free h0
       .exact h0
      rw[fZ uo,h1];rw[kp];intro y hy he;simp only[qt]at he;obtain⟨b0,h2,_⟩:=jE y hy;rw[he,h1]at h2;simp at h2
     obtain⟨γ',eU,_,iE⟩:=G1 bc fy wb iF r7 (λg hg=>by
      rcases lX g hg with mZ|Nc
      .refine⟨⟨.inl (qg hR.grow mZ),hR.kw_new mZ⟩,λk b hb he=>?_⟩;obtain⟨b',aj⟩:=l5 k b hb;have:=fj (ot.box k b' aj) he;omega
      .obtain⟨f,hf,yR,kE⟩:=pO ou Nc;obtain⟨bf,ua⟩:=nf ou f hf;refine⟨⟨?_,ot.kw_live ua kE⟩,λk b hb he=>?_⟩
       .rcases ot.own f.name bf g ua kE with h|h
        .exact h
        .rw[fw f hf yR]at h;simp at h
       .obtain⟨b',aj⟩:=l5 k b hb
        have Nd:k≠f.name:=by
         rintro rfl
         have wc:=yU lZ hf yR;rw[pP uo (σ.upd gq) (by rw[fN];exact ck) wc]at hb;simp at hb
        exact ot.apart k f.name b' bf g Nd aj ua he kE)
     refine⟨Sy,γ',?_,?_⟩
     .rw[fJ,fJ];exact eU
     .rw[fJ,fJ];exact iE
    have bA:∃gq,(gq=us\/gq=[])/\gq=(if ret.vals.all RV.flat&&ret.outs.all Out.flat then [] else us)/\
      ∃S' γ',Rel N np S0 w0 refs (σ.upd (gq++uo++un)) a w' S' γ'/\All2 (aQ S' w' γ' (σ.upd (gq++uo++un)).bx) ng vs:=by
     by_cases gX:(ret.vals.all RV.flat&&ret.outs.all Out.flat)=true
     .refine⟨[],.inr rfl,by rw[if_pos gX],?_⟩;obtain⟨jX,nV⟩:=Bool.and_eq_true_iff.1 gX;have dF:∀g o,S g o->S' g o:=λg o hs=>(eW g o (bF g o hs).1).1
      refine dR [] S S (.inr rfl) hR (λg o hs=>⟨hs,(eW g o (bF g o hs).1).2⟩) (λg o hs=> .inl hs) (λg o hs=>q9 (hR.here g o hs) fM)
       (tY (S1:=S1) dF nV cw) (G2 dF jX aH)
     .exact⟨us,.inl rfl,by rw[if_neg gX],dR us S1 S' (.inl rfl) aJ eW cR gU cw aH⟩
    obtain⟨gq,_,oq,S2,γ2,bc,pR⟩:=bA
    have hs:s=u3 ng/\u=(if ret.vals.all RV.flat&&ret.outs.all Out.flat then [] else us)++uo++un:=by
     clear pR dR bc fy;revert aB;match ng with
     |[c]=>simp only[j3,j7];rintro⟨rfl,rfl⟩;exact⟨rfl,rfl⟩
     |[]=>simp only[j3,j7];rintro⟨rfl,rfl⟩;exact⟨rfl,rfl⟩
     |c::c'::r=>simp only[j3,j7];rintro⟨rfl,rfl⟩;exact⟨rfl,rfl⟩
    obtain⟨rfl,rfl⟩:=hs;rw[<-oq];exact⟨S2,γ2,rfl,bc,by rw[cV];exact G3 pR⟩
   .simp at aB
  .simp at aB
 .simp at aB
theorem we{P:Program}{f:Nat}(hf:Fun P f){o:Oper}{cl:Call}(ho:o.op = .call cl){x:Operand}(hc:cl.callee = .value x){cv:Array Value}(hx:a.eval x = .func (.func f) #[] cv) :
  (execOp a.eval o).run P w = .ok (.enter f (cl.args.map a.eval++cv)) w:=by
 obtain⟨fn,h1,h2,h3⟩:=hf;have fX:¬fn.body=none:=λhn=>by rw[hn]at h2;simp at h2
 have pS : ¬ fn.name = "runtime.NumGoroutine" := by simpa using h3
 simp[execOp,ho,resolve,hc,Deferred.ofValue,hx,invoke,callFunc,h1,fX,pS]
end
section
variable{N:NT}{np:Nat}{S0:an}{w0:World}{refs:Refs}{σ:St}{a:Go.Act}{w:World}{S:an}{γ:Nat->Value}
def keyV:(k:Ty)->k.den->Value
 |.int q,n=> .int q n
 |.str,s=> .string s
 |_,_=>undef
theorem ub:∀{k:Ty}{x:k.den}{u:Value},k.isKey=true->(Rep S w k x [u]↔u=keyV k x)
 |.int q,x,u,_=>by simp[Rep,keyV]
 |.str,x,u,_=>by simp[Rep,keyV]
 |.bool,_,_,h=>by simp[Ty.isKey]at h
 |.unit,_,_,h=>by simp[Ty.isKey]at h
 |.wrap _,_,_,h=>by simp[Ty.isKey]at h
 |.pair _ _,_,_,h=>by simp[Ty.isKey]at h
 |.list _,_,_,h=>by simp[Ty.isKey]at h
 |.arr _ _,_,_,h=>by simp[Ty.isKey]at h
def keyD:Ty->TypeDesc
 |.int q=> .int q
 |_=> .string
theorem Nf{P:Program}{T:Nat->Option TyI}(hT:bt P T){n:Nat}{ti:TyI}(hn:T n=some ti){k:Ty}(aD:ti.ty=some k)(hk:k.isKey=true):P.underlying n=some (keyD k):=by
 cases k with
 |int q=>exact Bt hT hn aD
 |str=>exact BE hT hn aD
 |_=>simp[Ty.isKey]at hk
theorem G9{k:Ty}(hk:k.isKey=true)(x:k.den):MapKept.IsKey (keyD k) (keyV k x):=by
 cases k with
 |int q=>rfl
 |str=>trivial
 |_=>simp[Ty.isKey]at hk
theorem Cl{k:Ty}(hk:k.isKey=true)(x y:k.den):Instr.sameNow (keyD k) (keyV k x) (keyV k y)=some (@BEq.beq _ k.keq x y):=by
 cases k with
 |int q=>simp[keyD,keyV,Instr.sameNow]
 |str=>simp[keyD,keyV,Instr.sameNow]
 |_=>simp[Ty.isKey]at hk
theorem Ng{k:Ty}(hk:k.isKey=true){x y:k.den}(h:@BEq.beq _ k.keq x y=true):x=y:=by
 cases k with
 |int q=>simpa[Ty.keq]using h
 |str=>exact(MapKept.bytes_beq x y).1 h
 |_=>simp[Ty.isKey]at hk
theorem Ha{k:Ty}(hk:k.isKey=true)(x:k.den):Instr.sameBits 10000 (keyV k x) (keyV k x)=true:=by
 cases k with
 |int q=>simp[keyV,Instr.sameBits]
 |str=>simp only[keyV,Instr.sameBits];exact(MapKept.bytes_beq x x).2 rfl
 |_=>simp[Ty.isKey]at hk
def sa(S:an)(w:World)(k v:Ty)(x:k.den×v.den)(e:MapEntry):Prop:=Rep S w k x.1 [e.key]/\VRep S w ⟨v,x.2⟩ e.val
theorem Cm{k v:Ty}(hk:k.isKey=true)(q:k.den):∀{xs:List (k.den×v.den)}{es:List MapEntry},All2 (sa S w k v) xs es->∀i:Nat,
  (@mS _ _ k.keq xs q=true/\∃j e,Instr.findNow (keyD k) (keyV k q) es i=some (some (i+j,e.val))/\es[j]? = some e/\e.key=keyV k q/\VRep S w ⟨v,@nD _ _ k.keq v.dflt xs q⟩ e.val/\
   ∀(z:v.den)(e':MapEntry),e'.key=keyV k q->VRep S w ⟨v,z⟩ e'.val->All2 (sa S w k v) (@gx _ _ k.keq xs q z) (es.set j e'))\/
  (@mS _ _ k.keq xs q=false/\Instr.findNow (keyD k) (keyV k q) es i=some none/\@nD _ _ k.keq v.dflt xs q=v.dflt/\∀z,@gx _ _ k.keq xs q z=xs++[(q,z)])
 |[],[],_,i=> .inr ⟨rfl,rfl,rfl,λ_=>rfl⟩
 |x::xs,e::es,h,i=>by
  have nh:e.key=keyV k x.1:=(ub hk).1 h.1.1;have hs:=Cl hk q x.1;rw[<-nh]at hs;cases hb:@BEq.beq _ k.keq q x.1 with
  |true=>
   rw[hb]at hs;have Nh:=Ng hk hb;refine .inl ⟨by simp[mS,hb],0,e,by simp[Instr.findNow,hs],rfl,by rw[nh,Nh],?_,λz e' h1 h2=>?_⟩
   .simp only[nD,hb,j4];exact h.1.2
   .simp only[gx,hb,j4,List.set_cons_zero];exact⟨⟨(ub hk).2 h1,h2⟩,h.2⟩
  |false=>
   rw[hb]at hs;rcases Cm hk q h.2 (i+1) with⟨h1,j,e',h2,h3,h4,h5,h6⟩|⟨h1,h2,h3,h4⟩
   .refine .inl ⟨by simp only[mS,List.any_cons,hb,Bool.false_or];exact h1,j+1,e',by simp only[Instr.findNow,hs,h2];congr 3;omega,by simpa using h3,h4,?_,λz e2 g1 g2=>?_⟩
    .simp only[nD,hb,j5];exact h5
    .simp only[gx,hb,j5,List.set_cons_succ];exact⟨h.1,h6 z e2 g1 g2⟩
   .refine .inr ⟨by simp only[mS,List.any_cons,hb,Bool.false_or];exact h1,by simp only[Instr.findNow,hs,h2],?_,λz=>?_⟩
    .simp only[nD,hb,j5];exact h3
    .simp only[gx,hb,j5,h4 z];rfl
 |[],_::_,h,_=>h.elim
 |_::_,[],h,_=>h.elim
theorem Hb{k v:Ty}(hk:k.isKey=true){q:k.den}:∀{xs:List (k.den×v.den)}{es:List MapEntry},All2 (sa S w k v) xs es->@mS _ _ k.keq xs q=false->∀e∈es,e.key≠keyV k q
 |[],[],_,_=>by simp
 |x::xs,e::es,h,hn=>by
  simp only[mS,List.any_cons,Bool.or_eq_false_iff]at hn;intro e' uc;rcases jf.1 uc with rfl|uc
  .intro hq;have nh:=(ub hk).1 h.1.1;have hs:=Cl hk q x.1;rw[<-nh,hq,Cl hk q q,hn.1]at hs;simp only[j3]at hs;have:=Ha hk q;cases k with
   |int z=>simp at hs
   |str=>have:=(MapKept.bytes_beq q q).2 rfl;exact absurd (hs.symm.trans this) (by simp)
   |_=>simp[Ty.isKey]at hk
  .exact Hb hk h.2 hn.2 e' uc
 |[],_::_,h,_=>h.elim
 |_::_,[],h,_=>h.elim
theorem Cn{P:Program}{T:Nat->Option TyI}(hT:bt P T){t:Nat}{k v:Ty}(h:lx T t=some (k,v)) :
  ∃kt vt tv,P.underlying t=some (.map kt vt)/\P.underlying kt=some (keyD k)/\k.isKey=true/\T vt=some tv/\tv.ty=some v:=by
 unfold lx at h;split at h
 .rename_i ti px;split at h
  .rename_i k0 v0 Ni;split at h
   .rename_i tk tv Nj yV;split at h
    .rename_i k1 v1 cZ Co;split at h
     .rename_i kG;simp only[j3,j7]at h;obtain⟨rfl,rfl⟩:=h;exact⟨k0,v0,tv,LO hT px Ni,Nf hT Nj cZ kG,kG,yV,Co⟩
     .simp at h
    .simp at h
   .simp at h
  .simp at h
 .simp at h
theorem Hc{rw:Nat->BS}(eV:RdR σ rw){t:Nat}{k v:Ty}{x y:Leaf}{b:Nat}{ys:List (k.den×v.den)}{q:k.den}(h:mapC rw t k v x y=some (b,ys,q)) :
  x = .ol b/\y = .d k q/\σ.bx b = .live (.lst (4294967296+t) (.pair k v) ys false):=by
 unfold mapC at h;split at h
 .rename_i b0 tk key;split at h
  .rename_i e a0 xs hb;split at h
   .rename_i he;split at h
    .rename_i Bb q' h1 h2;simp only[j3,j7]at h;obtain⟨rfl,rfl,rfl⟩:=h;have e1:=gN h1;have e2:=gN h2;cases e1;cases e2;subst he;exact⟨rfl,rfl,eV.live hb⟩
    .simp at h
   .simp at h
  .simp at h
 .simp at h
theorem wg(t:Nat):isM (4294967296+t)=true:=by
 unfold isM;rw[Nat.ble_eq];exact Nat.le_add_right _ _
theorem Hd(hR:Rel N np S0 w0 refs σ a w S γ){b t:Nat}{k v:Ty}{ys:List (k.den×v.den)}{f:Bool}(hb:σ.bx b = .live (.lst (4294967296+t) (.pair k v) ys f)) :
  ∃g es clock,γ b = .map (some g)/\w.heap[g]? = some (.map es clock)/\All2 (sa S w k v) ys es.toList/\pr es clock:=by
 have h:=(hR.box b _ hb).1;rcases h with⟨hm,_⟩|⟨_,g,es,clock,h1,h2,h3,h4⟩
 .rw[wg]at hm;simp at hm
 .exact⟨g,es,clock,h1,h2,h3,h4⟩
theorem Nk{P:Program}{T:Nat->Option TyI}(hT:bt P T){n:Nat}{ti:TyI}(hn:T n=some ti){t:Ty}(aD:ti.ty=some t):∃z,(zeroValue n).run P w = .ok z w/\VRep S w ⟨t,t.dflt⟩ z:=by
 obtain⟨i,d,hi,hd,hs,_,ha,_,h⟩:=ig hT hn;obtain⟨_,⟨z,hz,hc⟩,hdo⟩:=h t aD;have He:=LQ hT hn hi hd;refine⟨z,by simp[zeroValue,typeInfo,hi,hz],?_,?_,?_⟩
 .rw[hc];exact la t
 .intro hm;have:aggD d=true:=by cases d<;>cases t<;>simp_all[fT,ff,aggD,Ty.agg]
  simp only[zOk,hz]at He;cases z<;>simp_all
 .intro hm;have:aggD d=false:=by cases d<;>cases t<;>simp_all[fT,ff,aggD,Ty.agg]
  simp only[zOk,hz]at He;cases z<;>first|rfl|simp_all
theorem Nl{P:Program}{E:Env}(hT:bt P E.T)(hR:Rel N np S0 w0 refs σ a w S γ){rw:Nat->BS}(eV:RdR σ rw){t:Nat}{k v:Ty}(ht:lx E.T t=some (k,v)){x y:Leaf}{b:Nat}{ys:List (k.den×v.den)}{q:k.den}
  (h:mapC rw t k v x y=some (b,ys,q)){zx zy:Value}(hx:aL S w γ σ.bx x zx)(hy:aL S w γ σ.bx y zy) :
  ∃z,VRep S w ⟨v,@nD _ _ k.keq v.dflt ys q⟩ z/\∀ok,(Instr.lookup t zx zy ok).run P w = .ok (if ok then .tuple #[z,.bool (@mS _ _ k.keq ys q)] else z) w:=by
 obtain⟨kt,vt,tv,dS,sb,kG,yV,wh⟩:=Cn hT ht;obtain⟨rfl,rfl,hb⟩:=Hc eV h;obtain⟨g,es,clock,hg,hh,ha,_⟩:=Hd hR hb;have sc:zx = .map (some g):=(hx.2.2 _ hb).trans hg;have wi:zy=keyV k q:=(ub kG).1 hy;subst sc;subst wi;have wj:=MapKept.run_checkKey (w:=w) sb (G9 kG q) es.isEmpty 9999;rcases Cm kG q ha 0 with⟨h1,j,e,h2,h3,h4,h5,h6⟩|⟨h1,h2,h3,h4⟩
 .refine⟨e.val,h5,λok=>?_⟩;have hf:=MapKept.run_findKey (w:=w) sb h2;simp only[Instr.lookup,Sem.run_bind,run_underlying dS,Result.andThen_ok,MapKept.run_getObj_map hh,Sem.run_pure,wj,hf,h1]
 .obtain⟨z,hz,Nn⟩:=Nk (S:=S) (w:=w) hT yV wh;refine⟨z,by rw[h3];exact Nn,λok=>?_⟩;have hf:=MapKept.run_findKey (w:=w) sb h2;simp only[Instr.lookup,Sem.run_bind,run_underlying dS,Result.andThen_ok,MapKept.run_getObj_map hh,Sem.run_pure,wj,hf,h1,hz]
theorem Np(hR:Rel N np S0 w0 refs σ a w S γ){k:Nat}{b b':Bx}(hk:σ.bx k = .live b){g:Nat}(hg:blk (γ k)=some g)(hS:∀o,¬S g o)(pw:fg b b')
  {w':World}(ov:∀i,i≠g->w'.heap[i]? = w.heap[i]?)(bb:w'.heap.size=w.heap.size)(kD:w'.os=w.os)(yW:w'.tape=w.tape)(cS:w'.output=w.output)
  (hb:BxLe γ σ.bx γ (σ.setB k (.live b')).bx->cm S w S w'->cP S w' γ (σ.setB k (.live b')).bx k b') :
  Rel N np S0 w0 refs (σ.setB k (.live b')) a w' S γ:=by
 have hle:BxLe γ σ.bx γ (σ.setB k (.live b')).bx:=by
  intro k' aS;by_cases ba:k'=k
  .subst ba;rw[c9];exact⟨by simp,rfl,λb1 cb=>by simp at cb;subst cb;exact⟨b,hk,pw⟩⟩
  .rw[bu σ _ ba];exact⟨aS,rfl,λb hb=>⟨b,hb,.refl b⟩⟩
 have al:cm S w S w':=by
  intro g' o h;refine⟨h,World.cell?_of_block (ov g' ?_)⟩
  rintro rfl
  exact hS o h
 have aO:∀k' b1,(σ.setB k (.live b')).bx k' = .live b1->∃b2,σ.bx k' = .live b2:=by
  intro k' b1 h1;by_cases ba:k'=k
  .subst ba;exact⟨b,hk⟩
  .rw[bu σ _ ba]at h1;exact⟨b1,h1⟩
 refine Rel.step (bx':=(σ.setB k (.live b')).bx) hR al hle ?_ ?_ ?_ hR.new ?_ ?_ ?_ (kD.trans hR.os) (yW.trans hR.tape) (cS.trans hR.output) (λg' _ _ h=>⟨ov g' (λe=>h k b hk (e▸hg)),λk' b1 h1=>by
  obtain⟨b2,h2⟩:=aO k' b1 h1;exact h k' b2 h2⟩)
 .intro k' b1 h1;by_cases ba:k'=k
  .subst ba;rw[c9]at h1;simp at h1;subst h1;exact hb hle al
  .rw[bu σ _ ba]at h1;refine cP.keep al hle rfl (λg' ae=>⟨?_,λ_=>Iff.rfl⟩) (hR.box k' b1 h1);exact ov g' (λh=>hR.apart k' k b1 b g ba h1 hk (h▸ae) hg)
 .intro k' b1 g' h1 ae;obtain⟨b2,h2⟩:=aO k' b1 h1;exact hR.own k' b2 g' h2 ae
 .intro k1 k2 b1 b2 g' aG h1 h2 ae;obtain⟨nT,gO⟩:=aO k1 b1 h1;obtain⟨nU,fX⟩:=aO k2 b2 h2;exact hR.apart k1 k2 nT nU g' aG gO fX ae
 .intro g' o h;rw[bb];exact hR.here g' o h
 .intro g' ae hr;rw[ov g' ?_]
  .exact hR.below g' ae hr
  .rintro rfl
   rcases hR.own k b _ hk hg with h|h
   .exact h.no (by omega) hr
   .exact hr h.1
 .rw[bb];exact hR.grow
theorem Nq{P:Program}{E:Env}(hT:bt P E.T)(hR:Rel N np S0 w0 refs σ a w S γ){rw:Nat->BS}(eV:RdR σ rw){t:Nat}{k v:Ty}(ht:lx E.T t=some (k,v)){x y:Leaf}{b:Nat}{ys:List (k.den×v.den)}{q:k.den}
  (h:mapC rw t k v x y=some (b,ys,q)){zx zy zz:Value}(hx:aL S w γ σ.bx x zx)(hy:aL S w γ σ.bx y zy){rdf:Nat->BS}(aE:RdF np σ rdf){c:Cel}{z:v.den}{u:Ups}(hd:mT rdf v c=some (z,u))(hz:aQ S w γ σ.bx c zz) :
  ∃w' S',(Instr.mapUpdate t zx zy zz).run P w = .ok () w'/\Rel N np S0 w0 refs (σ.upd (u++[(b,.live (.lst (4294967296+t) (.pair k v) (@gx _ _ k.keq ys q z) false))])) a w' S' γ:=by
 obtain⟨kt,vt,tv,dS,sb,kG,yV,wh⟩:=Cn hT ht;obtain⟨rfl,rfl,hb⟩:=Hc eV h;obtain⟨eP,aH,_⟩:=yy aE hR.box hd hz;obtain⟨S1,aJ,bF,ei,ct⟩:=iW u σ S hR eP;have wk:u.any (λy=>y.1==b)=false:=by rw[kp];intro y hy Nr;obtain⟨_,e,t',xs,f,h1,_,hm⟩:=eP y hy;rw[show y.1=b by simpa using Nr,hb]at h1;cases h1;rw[wg]at hm;simp at hm
 have cb:(σ.upd u).bx b = .live (.lst (4294967296+t) (.pair k v) ys false):=(fZ u σ wk).trans hb;obtain⟨g,es,clock,hg,hh,ha,hq⟩:=Hd aJ cb;have sc:zx = .map (some g):=(hx.2.2 _ hb).trans hg;have wi:zy=keyV k q:=(ub kG).1 hy;subst sc;subst wi;have Hf:=aH S1 w bF ei;have sd:blk (γ b)=some g:=by rw[hg];rfl
 have hS:∀o,¬S1 g o:=((aJ.box b _ cb).2 g sd).1 rfl;have wj:=MapKept.run_checkKey (w:=w) sb (G9 kG q) false 9999
 have main:∃es' cW,(Instr.mapUpdate t (.map (some g)) (keyV k q) zz).run P w = .ok () { w with heap:=w.heap.setIfInBounds g (.map es' cW) }/\All2 (sa S1 w k v) (@gx _ _ k.keq ys q z) es'.toList/\pr es' cW:=by
  rcases Cm kG q ha 0 with⟨h1,j,e,h2,h3,h4,h5,h6⟩|⟨h1,h2,h3,h4⟩
  .have hf:=MapKept.run_findKey (w:=w) sb h2;rw[ju]at hf;refine⟨es.modify j λe=>{ e with key:=keyV k q,val:=zz },clock,?_,?_,MapKept.stamped_modify hq.1 j _ (λ_ _=>rfl) (λe1 _ Hg=>?_),?_⟩
   .have Ns:((es[j]?).map (·.key)).getD (keyV k q)=keyV k q:=by rw[show es[j]? = some e by simpa using h3];exact h4
    simp only[Instr.mapUpdate,Sem.run_bind,run_underlying dS,Result.andThen_ok,MapKept.run_getObj_map hh,wj,hf,Instr.keyThatStays,Ns,Ha kG q,if_true,Sem.run_pure,MapKept.run_setObj_map _ hh]
   .have e1:(es.modify j λe=>{ e with key:=keyV k q,val:=zz }).toList=es.toList.set j { e with key:=keyV k q,val:=zz }:=by
     refine z7 λi=>?_;rw[z5,Array.getElem?_modify,List.getElem?_set];have pS:es[j]? = some e:=by simpa using h3
     by_cases cC:j=i
     .subst cC;simp only[if_true,pS,ki];rw[if_pos (by simpa using (jb.1 pS).1)]
     .simp[cC]
    rw[e1];exact h6 z _ rfl Hf
   .rw[show es[j]? = some e by simpa using h3]at Hg;cases Hg;exact h4.symm
   .rw[<-hq.2];refine z7 λi=>?_;rw[ko,ko,z5,z5,Array.getElem?_modify];split
    .rename_i cC;subst cC;cases es[j]? <;> rfl
    .rfl
  .have hf:=MapKept.run_findKey (w:=w) sb h2;refine⟨es.push { key:=keyV k q,val:=zz,born:=clock },clock+1,?_,?_,MapKept.stamped_push hq.1 (Hb kG ha h1),by rw[Array.toList_push,List.map_append,hq.2,List.range_succ];rfl⟩
   .simp only[Instr.mapUpdate,Sem.run_bind,run_underlying dS,Result.andThen_ok,MapKept.run_getObj_map hh,wj,hf,MapKept.run_setObj_map _ hh]
   .rw[h4 z,Array.toList_push];exact ha.append ⟨⟨(ub kG).2 rfl,Hf⟩,trivial⟩
 obtain⟨es',cW,ai,ah,BP⟩:=main;have ax:g<w.heap.size:=(jb.1 hh).1;refine⟨_,S1,ai,?_⟩;rw[fJ];refine Np aJ cb sd hS (b':= .lst (4294967296+t) (.pair k v) (@gx _ _ k.keq ys q z) false) ⟨rfl,rfl,λhm=>by rw[wg]at hm;simp at hm⟩ (λi hi=>by simp[Ne.symm hi]) (by simp) rfl rfl rfl λhle al=>?_;refine⟨.inr ⟨wg t,g,es',cW,hg,by simp[ax],ah.mono λx e hx=>⟨Rep.keep al _ _ _ hx.1,VRep.keep al hx.2⟩,BP⟩,λg' ae=>?_⟩;rw[sd]at ae;simp at ae;subst ae;exact⟨λ_=>hS,λh=>by simp at h⟩
theorem Nt{P:Program}(hR:Rel N np S0 w0 refs σ a w S γ){n t:Nat}{k v:Ty}(hn:σ.bx n = .free) :
  ∃γ',(Instr.makeMap t none).run P w = .ok (.map (some w.heap.size)) (w.alloc (.map #[] 0))/\Rel N np S0 w0 refs (σ.setB n (.live (.lst (4294967296+t) (.pair k v) [] false))) a (w.alloc (.map #[] 0)) S γ'/\
   aQ S (w.alloc (.map #[] 0)) γ' (σ.setB n (.live (.lst (4294967296+t) (.pair k v) [] false))).bx (.one (.ol n)) (.map (some w.heap.size)):=by
 have wk:=BH hR hn (o:= .map #[] 0) (b:= .lst (4294967296+t) (.pair k v) [] false) (v:= .map (some w.heap.size)) (λg hg=>by simp[blk]at hg;exact hg.symm) (λhle=>by
  refine⟨.inr ⟨wg t,w.heap.size, #[],0,cT _ _ _,heap_alloc_new w _,trivial,MapKept.stamped_empty 0,rfl⟩,λg hg=>?_⟩;rw[cT]at hg;simp[blk]at hg;subst hg;exact⟨λ_ o ho=>by have:=hR.here _ o ho;omega,λh=>by simp at h⟩)
 refine⟨_,rfl,wk.1,⟨?_,rfl,λb hb=>(cT _ _ _).symm⟩,λ_=>rfl⟩;rw[c9];simp
end
section
variable{N:NT}{np:Nat}{S0:an}{w0:World}{refs:Refs}{σ:St}{a:Go.Act}{w:World}{S:an}{γ:Nat->Value}
theorem Nu{P:Program}{E:Env}(hT:bt P E.T)(hR:Rel N np S0 w0 refs σ a w S γ){rdf:Nat->BS}(aE:RdF np σ rdf){t:TypeId}{ti:TyI}(ht:E.T t=some ti)
  {m:Nat}{el:Ty}(aD:ti.ty=some (.arr m el)){ps:List (Nat×Cel)}{vs:Array (Nat×Value)}{xs:List el.den}{u:Ups}
  (fk:All2 (λp v=>p.1=v.1/\aQ S w γ σ.bx p.2 v.2) ps vs.toList)(h:fF rdf el (List.replicate m el.dflt) [] ps=some (xs,u)) :
  ∃v S',(Instr.build t vs).run P w = .ok v w/\Rel N np S0 w0 refs (σ.upd u) a w S' γ/\aQ S' w γ (σ.upd u).bx (.av m el xs) v:=by
 obtain⟨dS,bZ,te,bJ,pT⟩:=tH hT ht aD;have bb:=gL hT bJ pT;obtain⟨z,hz,ef⟩:=rH hT ht w aD;obtain⟨eP,bK⟩:=BQ aE hR.box bZ ps vs.toList fk h .nil;obtain⟨S1,aJ,bF,ei,ct⟩:=iW u σ S hR eP;obtain⟨GD,css,ah,gX⟩:=la (S:=S1) (w:=w) (.arr m el);obtain⟨aK,gg,dr,cA,bU⟩:=bK S1 bF ei css z.cells ah (by rw[ef];exact gX)
 have hlen:∀(ps:List (Nat×Cel)){xs bM:List el.den}{u u':Ups},fF rdf el xs u ps=some (bM,u')->bM.length=xs.length:=by
  intro ps;induction ps with
  |nil=>intro xs bM u u' h;simp[fF]at h;rw[h.1]
  |cons p ps ih=>
   intro xs bM u u' h;obtain⟨i,c⟩:=p;simp only[fF]at h;split at h
   .split at h
    .rw[ih h];simp
    .simp at h
   .simp at h
 have kB:xs.length=m:=by rw[hlen ps h];simp
 refine⟨.agg aK,S1,?_,aJ,aK,rfl,kB,gg,cA,bU⟩;simp only[Instr.build,Sem.run_bind,hz,Result.andThen_ok,run_underlying dS,eO hT bJ,<-bb,dr,Sem.run_pure]
theorem Nv{P:Program}{E:Env}(hT:bt P E.T){bx:Nat->BS}{t:TypeId}{ti:TyI}(ht:E.T t=some ti){m:Nat}{el:Ty}(aD:ti.ty=some (.arr m el)) :
  ∃v,(Instr.build t #[]).run P w = .ok v w/\aQ S w γ bx (.st (iQ (.arr m el))) v:=by
 obtain⟨dS,bZ,te,bJ,pT⟩:=tH hT ht aD;obtain⟨z,hz,ef⟩:=rH hT ht w aD;refine⟨.agg z.cells,?_,z.cells,rfl,by rw[ef];exact pD (.arr m el),λu hu=>yK ef u (by simpa using hu)⟩;simp only[Instr.build,Sem.run_bind,hz,Result.andThen_ok,run_underlying dS,eO hT bJ];rfl
theorem Hh{rd:Nat->BS}(aq:RdF np σ rd)(hB:tK S w γ σ.bx){el:Ty}:∀{ls:List Leaf}{xs:List el.den}{u:Ups}{zs:List Value},nG rd el ls=some (xs,u)->All2 (aL S w γ σ.bx) ls zs->
  FrzL np σ.bx u/\∀S' w',cm S w S' w'->Froz σ.bx γ S' w' u->All2 (λx z=>Rep S' w' el x [z]) xs zs
 |[],xs,u,zs,h,ha=>by
  simp[nG]at h;obtain⟨rfl,rfl⟩:=h;cases zs with
  |nil=>exact⟨.nil,λ_ _ _ _=>trivial⟩
  |cons _ _=>exact ha.elim
 |l::ls,xs,u,zs,h,ha=>by
  cases zs with
  |nil=>exact ha.elim
  |cons z zs=>
   simp only[nG]at h;split at h
   .rename_i x u1 yM u2 h1 h2;simp only[j3,j7]at h;obtain⟨rfl,rfl⟩:=h;obtain⟨f1,p1⟩:=pC aq hB h1 ha.1;obtain⟨f2,p2⟩:=Hh aq hB h2 ha.2;exact⟨FrzL.app.2 ⟨f1,f2⟩,λS' w' hk hf=>⟨p1 S' w' hk (Froz.app.1 hf).1,p2 S' w' hk (Froz.app.1 hf).2⟩⟩
   .simp at h
theorem Hi{el:Ty}{S':an}{w':World}:∀{xs:List el.den}{zs:List Value},All2 (λx z=>Rep S' w' el x [z]) xs zs->∃css,All2 (λx c=>Rep S' w' el x c) xs css/\zs=css.flatten
 |[],[],_=>⟨[],trivial,rfl⟩
 |x::xs,z::zs,h=>by
  obtain⟨css,h1,h2⟩:=Hi h.2;exact⟨[z]::css,⟨h.1,h1⟩,by simp[h2]⟩
 |[],_::_,h=>h.elim
 |_::_,[],h=>h.elim
theorem Nw{P:Program}{E:Env}(hT:bt P E.T)(hR:Rel N np S0 w0 refs σ a w S γ){rd rdf:Nat->BS}(aq:RdOk σ rd)(aE:RdF np σ rdf){t:TypeId}{ti:TyI}(ht:E.T t=some ti)
  {x:Leaf}{m:Nat}{el:Ty}{ls:List Leaf}{xs:List el.den}{u:Ups}{v:Value}(h:nH rd ti.ty x=some (m,el,ls))(hg:nG rdf el ls=some (xs,u))(hl:xs.length=m)(hx:aL S w γ σ.bx x v) :
  ∃z S',(Instr.loadAt t v).run P w = .ok z w/\Rel N np S0 w0 refs (σ.upd u) a w S' γ/\aQ S' w γ (σ.upd u).bx (.av m el xs) z:=by
 unfold nH at h;split at h
 .rename_i k;split at h
  .rename_i m' yH aD;split at h
   .split at h
    .rename_i eg hk;simp only[j3,j7]at h;obtain⟨rfl,rfl,rfl⟩:=h;have hk:=aq.live hk;obtain⟨g,ae,hu⟩:=hx.2.2 _ hk;obtain⟨g',cur,e,dp,hh,ha,h1,_⟩:=hR.box k _ hk;rw[ae]at dp;simp at dp;subst dp;obtain⟨eP,bK⟩:=Hh aE hR.box hg ha;obtain⟨S1,aJ,bF,ei,ct⟩:=iW u σ S hR eP;obtain⟨css,ah,cp⟩:=Hi (bK S1 w bF ei);have aH:Rep S1 w (.arr m' yH) xs (cur.toList.take eg.length):=⟨hl,css,ah,cp⟩;obtain⟨BC,_,_⟩:=tH hT ht aD;have bb:(cur.toList.take eg.length).length=ti.size:=by have:=Rep.length _ _ _ aH;rw[gL hT ht aD]at this;exact this
     refine⟨.agg (cur.toList.take eg.length).toArray,S1,?_,aJ,(cur.toList.take eg.length).toArray,rfl,by simpa using aH⟩;subst hu
     have Hj:=Gc (w:=w) (g:=g) (o:=0) (cs:=cur.toList.take eg.length) (λj v hv=>by
      rw[ju,cell_of_row w g j cur e (0,0) hh];rw[kn]at hv;split at hv
      .simpa using hv
      .simp at hv) P
     rw[bb]at Hj;have fW:(isAgg t).run P w = .ok true w:=by simp[isAgg,run_underlying BC]
     simp only[Instr.loadAt,Sem.run_bind,Instr.sureAddr,Sem.run_pure,Result.andThen_ok,loadVar,fW,if_true,eO hT ht,Hj]
    .simp at h
   .simp at h
  .simp at h
 .simp at h
def Slot.bare:Slot->Bool
 |.cnd _ _ _=>false
 |_=>true
theorem Nx{fr:Bool}{b:Ty}{n len:Nat}{ps:List (Nat×Cel)}{f:Nat}{args:List Arg}{mk:Ret->Option (Slot×Ups)}:one1 fr b n len ps≠some (.call f args mk):=by
 unfold one1;split
 .split
  .split<;>simp
  .simp
 .simp
theorem Hk(cs:List Cel):(u3 cs).bare=true:=by
 unfold u3;split<;>rfl
theorem Hl(hR:Rel N np S0 w0 refs σ a w S γ){act:List (Nat×Bool)}(ar:lE (tm a) act)(ps:List (Nat×Operand)) :
  All2 (λp v=>p.1=v.1/\aQ S w γ σ.bx p.2 v.2) (ps.map λp=>(p.1,(σ.ev p.2).cel act)) (ps.map λp=>(p.1,a.eval p.2)):=by
 induction ps with
 |nil=>trivial
 |cons p ps ih=>exact⟨⟨rfl,cK hR ar p.2⟩,ih⟩
theorem yX(hR:Rel N np S0 w0 refs σ a w S γ){act:List (Nat×Bool)}(ar:lE (tm a) act)(ps:List Operand) :
  All2 (aQ S w γ σ.bx) (ps.map λp=>(σ.ev p).cel act) (ps.map a.eval):=by
 induction ps with
 |nil=>trivial
 |cons p ps ih=>exact⟨cK hR ar p,ih⟩
theorem ud{rd:Nat->BS}(aq:RdOk σ rd):RdF np σ (λk=>if parK np k then .gone else rd k):=by
 refine⟨λk=>?_,λk e a xs f h=>?_⟩
 rotate_left
 .dsimp only at h
  split at h
  .simp at h
  .exact aq.2 k e a xs f h
 dsimp only
 split
 .exact .inr rfl
 .rename_i hp;rcases aq.1 k with h|h
  .exact .inl ⟨h,by simpa using hp⟩
  .exact .inr h
theorem pU{P:Program}{o:Oper}{l:Leaf}{v:Value}(hR:Rel N np S0 w0 refs σ a w S γ)(hr:(execOp a.eval o).run P w = .ok (.value v) w)
  (hs:aL S w γ σ.bx l v)(h1:One v):Bu P N np S0 w0 refs o σ a w S γ (.one (.one l)) []:=
 fU hR hr ⟨hs,λ_=>h1⟩
theorem sf{c:Cel}{l:Leaf}(h:lf c=l)(hd:l ≠ .dead):c = .one l:=by
 cases c with
 |one x=>simp[lf]at h;rw[h]
 |st ls=>simp[lf]at h;exact absurd h.symm hd
 |av n a xs=>simp[lf]at h;exact absurd h.symm hd
theorem Cp{P:Program}{E:Env}(hT:bt P E.T)(hR:Rel N E.np S0 w0 refs σ a w S γ){act:List (Nat×Bool)}(ar:lE (tm a) act){rw:Nat->BS}(eV:RdR σ rw)
  {o:Oper}{s:Slot}{u:Ups}(h:cE E σ.ev rw act o=some (.val true s u)):Bu P N E.np S0 w0 refs o σ a w S γ s u/\s.bare=true:=by
 have aq:RdOk σ (mskM rw):=eV.msk;have aE:=ud (np:=E.np) aq;have hex:∀op,o.op=op->execOp a.eval o=execOp a.eval { o with op:=op }:=λop h=>by subst h;rfl
 unfold cE at h;dsimp only at h;split at h
 ·-- move
  rename_i x aU;split at h
  .rename_i l hl;simp only[j3,Act.val.injEq]at h;obtain⟨_,rfl,rfl⟩:=h;have:=gM hR x;rw[hl]at this;exact⟨fU hR (v:=a.eval x) (by simp[execOp,aU]) this,rfl⟩
  .simp only[j3,Act.cel,Act.val.injEq]at h;obtain⟨_,rfl,rfl⟩:=h;exact⟨fU hR (v:=a.eval x) (by simp[execOp,aU]) (cK hR ar x),rfl⟩
 ·-- assign
  rename_i x aU;split at h
  .rename_i l hl;simp only[j3,Act.val.injEq]at h;obtain⟨_,rfl,rfl⟩:=h;have:=gM hR x;rw[hl]at this;exact⟨fU hR (v:=a.eval x) (by simp[execOp,aU]) this,rfl⟩
  .simp only[j3,Act.cel,Act.val.injEq]at h;obtain⟨_,rfl,rfl⟩:=h;exact⟨fU hR (v:=a.eval x) (by simp[execOp,aU]) (cK hR ar x),rfl⟩
 ·-- pick
  rename_i x y z aU;split at h
  .rename_i v hv;have hx:=cK hR ar x;have Cq:a.eval x = .bool v:=by have:=sf hv (by simp);rw[this]at hx;exact mW hx
   have ai:(execOp a.eval o).run P w = .ok (.value (if v then a.eval y else a.eval z)) w:=by simp[execOp,aU,Cq,asBool]
   have hy:v=true->aQ S w γ σ.bx ((σ.ev y).cel (yi x true act)) (a.eval y):=by
    intro Cr;refine Bv ?_ (gM hR y);cases x with
    |tmp t=>
     intro g hg;rcases jf.1 hg with rfl|hg
     .simp only;rw[<-Cr];exact Cq
     .exact ar g hg
    |_=>exact ar
   have hz:v=false->aQ S w γ σ.bx ((σ.ev z).cel (yi x false act)) (a.eval z):=by
    intro Cr;refine Bv ?_ (gM hR z);cases x with
    |tmp t=>
     intro g hg;rcases jf.1 hg with rfl|hg
     .simp only;rw[<-Cr];exact Cq
     .exact ar g hg
    |_=>exact ar
   split at h
   .rename_i t p t' q hp hq;split at h
    .rename_i q' fi;simp only[j3,Act.leaf,Act.val.injEq]at h;obtain⟨_,rfl,rfl⟩:=h;have:=gN fi;cases this;refine⟨fU hR ai ?_,rfl⟩;cases v with
     |true=>have:=hy rfl;rw[hp]at this;exact this
     |false=>have:=hz rfl;rw[hq]at this;exact this
    .simp at h
   .rename_i t p hp hq;simp only[j3,Act.val.injEq]at h;obtain⟨eS,rfl,rfl⟩:=h;have eS:v=true:=eS;subst eS;refine⟨fU hR ai ?_,rfl⟩;have:=hy rfl;rw[hp]at this;exact this
   .rename_i t q hp hq;simp only[j3,Act.val.injEq]at h;obtain⟨eS,rfl,rfl⟩:=h;have eS:v=false:=by simpa using eS
    subst eS;refine⟨fU hR ai ?_,rfl⟩;have:=hz rfl;rw[hq]at this;exact this
   .simp at h
  .simp at h
 ·-- alloc
  rename_i t aU;split at h
  .rename_i ti ht;split at h
   .rename_i az;have hd:=aq.free az;split at h
    .rename_i k el aD;split at h
     .simp only[j3,Act.val.injEq]at h;obtain⟨_,rfl,rfl⟩:=h;obtain⟨z,ef,hz⟩:=BO (w:=w) hT ht aD;obtain⟨bP,hc⟩:=yz hR hd (ls:=iQ (.arr k el)) (cur:=z.cells) (e:=t) (by rw[ef];exact pD (.arr k el)) (yK ef);exact⟨⟨_,_,S,_,.inl (by simp[execOp,aU,hz]),bP,hc⟩,rfl⟩
     simp only[j3,Act.val.injEq]at h;obtain⟨_,rfl,rfl⟩:=h;obtain⟨z,ef,hz⟩:=BO (w:=w) hT ht aD;obtain⟨bP,hc⟩:=Gj hR hd (m:=k) (t:=el) (xs:=List.replicate k el.dflt) (cur:=z.cells) (e:=t) (by rw[ef];exact la (.arr k el));exact⟨⟨_,_,S,_,.inl (by simp[execOp,aU,hz]),bP,hc⟩,rfl⟩
    .rename_i ty aG aD;simp only[j3,Act.val.injEq]at h;obtain⟨_,rfl,rfl⟩:=h;obtain⟨z,ef,hz⟩:=BO (w:=w) hT ht aD;obtain⟨bP,hc⟩:=yz hR hd (ls:=iQ ty) (cur:=z.cells) (e:=t) (by rw[ef];exact pD ty) (yK ef);exact⟨⟨_,_,S,_,.inl (by simp[execOp,aU,hz]),bP,hc⟩,rfl⟩
    .simp at h
   .simp at h
  .simp at h
 ·-- box
  rename_i t x aU;split at h
  .rename_i az;have hd:=aq.free az;have hx:=cK hR ar x;split at h
   .rename_i k el xs hc;simp only[j3,Act.val.injEq]at h;obtain⟨_,rfl,rfl⟩:=h;rw[hc]at hx;obtain⟨cs,hu,aH⟩:=hx;obtain⟨bP,eT⟩:=Gj hR hd (m:=k) (t:=el) (xs:=xs) (cur:=(a.eval x).cells) (e:=t) (by rw[hu];exact aH);exact⟨⟨_,_,S,_,.inl (by simp[execOp,aU,Gv]),bP,eT⟩,rfl⟩
   .split at h
    .rename_i ls vQ;simp only[j3,Act.val.injEq]at h;obtain⟨_,rfl,rfl⟩:=h;obtain⟨hl,h1⟩:=tN vQ hx;obtain⟨bP,eT⟩:=yz hR hd (ls:=ls) (cur:=(a.eval x).cells) (e:=t) hl h1;exact⟨⟨_,_,S,_,.inl (by simp[execOp,aU,Gv]),bP,eT⟩,rfl⟩
    .simp at h
  .simp at h
 ·-- build
  rename_i t ps aU;have fk:=Hl hR ar ps.toList;have l7:All2 (λp v=>p.1=v.1/\aQ S w γ σ.bx p.2 v.2) (ps.toList.map λp=>(p.1,(σ.ev p.2).cel act)) (ps.map λp=>(p.1,a.eval p.2)).toList:=by simpa using fk
  split at h
  .rename_i ti ht;split at h
   .rename_i k el aD;split at h
    .rename_i ow;simp only[j3,Act.cel,Act.val.injEq]at h;obtain⟨_,rfl,rfl⟩:=h;obtain⟨v,ai,hc⟩:=Nv (w:=w) (S:=S) (γ:=γ) (bx:=σ.bx) hT ht aD;have Ny:ps = #[]:=by simp only[j9,List.isEmpty_iff]at ow;exact zd.1 ow.2
     subst Ny;exact⟨fU hR (v:=v) (by simp[execOp,aU,ai]) hc,rfl⟩
    split at h
    .rename_i xs u' hb;simp only[j3,Act.val.injEq]at h;obtain⟨_,rfl,rfl⟩:=h;obtain⟨v,S',ai,bP,hc⟩:=Nu hT hR aE ht aD l7 hb;exact⟨⟨v,w,S',γ,.inl (by simp[execOp,aU,ai]),bP,hc⟩,rfl⟩
    .simp at h
   .rename_i ty aG aD;split at h
    .rename_i iv;split at h
     .rename_i ls hb;simp only[j3,Act.cel,Act.val.injEq]at h;obtain⟨_,rfl,rfl⟩:=h;obtain⟨v,ai,hc⟩:=MC hT ht aD iv l7 hb;exact⟨fU hR (v:=v) (by simp[execOp,aU,ai]) hc,rfl⟩
     .simp at h
    .simp at h
   .simp at h
  .simp at h
 ·-- buildSlice
  rename_i t len ps aU;have fk:=Hl hR ar ps.toList;have l7:All2 (λp v=>p.1=v.1/\aQ S w γ σ.bx p.2 v.2) (ps.toList.map λp=>(p.1,(σ.ev p.2).cel act)) (ps.map λp=>(p.1,a.eval p.2)).toList:=by simpa using fk
  split at h
  .rename_i ti ht;split at h
   .rename_i el aD;split at h
    .obtain⟨_,rfl,v',w',γ',ai,bP,hc⟩:=MX hT hR ht aD aq.free l7 h;exact⟨⟨v',w',S,γ',.inl (by simp[execOp,aU,ai]),bP,hc⟩,rfl⟩
    split at h
    .simp at h
    .rename_i hlen;split at h
     .rename_i xs u' hb;split at h
      .rename_i az;simp only[j3,Act.val.injEq]at h;obtain⟨_,rfl,rfl⟩:=h;obtain⟨v',w',S',γ',ai,bP,hc⟩:=MW hT hR aE ht aD (by omega) l7 hb (aq.free az);exact⟨⟨v',w',S',γ',.inl (by simp[execOp,aU,ai]),bP,hc⟩,rfl⟩
      .simp at h
     .simp at h
   .simp at h
  .simp at h
 ·-- load
  rename_i t x aU;split at h
  .rename_i ti ht;split at h
   .rename_i m el ls l8;split at h
    .rename_i xs u' hg;split at h
     .rename_i hlen;simp only[j3,Act.val.injEq]at h;obtain⟨_,rfl,rfl⟩:=h;obtain⟨z,S',hz,bP,eu⟩:=Nw hT hR aq aE ht l8 hg hlen (er (cK hR ar x));exact⟨⟨z,w,S',γ,.inl (by simp[execOp,aU,hz]),bP,eu⟩,rfl⟩
     .simp at h
    .simp at h
   unfold oCel at h;split at h
   .rename_i c hc;simp only[j3,Act.cel,Act.val.injEq]at h;obtain⟨_,rfl,rfl⟩:=h;obtain⟨z,hz,eu⟩:=Ge hT hR aq ht hc (er (cK hR ar x));exact⟨fU hR (v:=z) (by simp[execOp,aU,hz]) eu,rfl⟩
   .simp at h
  .simp at h
 ·-- store
  rename_i t x y aU;split at h
  .rename_i ti ht;split at h
   .rename_i u' hu;simp only[j3,Act.val.injEq]at h;obtain⟨_,rfl,rfl⟩:=h;obtain⟨w',S',ai,bP⟩:=Ms hT hR aq aE ht hu (er (cK hR ar x)) (cK hR ar y);exact⟨⟨undef,w',S',γ,.inr ⟨by simp[execOp,aU,ai],rfl⟩,bP,⟨trivial,λh=>absurd rfl h⟩⟩,rfl⟩
   .simp at h
  .simp at h
 ·-- nilCheck
  rename_i x aU;have hx:=cK hR ar x;split at h
  .rename_i k p hl;split at h
   .rename_i du;simp only[j3,Act.leaf,Act.val.injEq]at h;obtain⟨_,rfl,rfl⟩:=h;rw[sf hl (by simp)]at hx;obtain⟨b,hb⟩:=vv du;obtain⟨g,_,hu⟩:=hx.1.2.2 b (aq.live hb);exact⟨fU hR (v:=a.eval x) (by simp[execOp,aU,hu]) hx,rfl⟩
   .simp at h
  .rename_i k i p hl;split at h
   .rename_i du;simp only[j3,Act.leaf,Act.val.injEq]at h;obtain⟨_,rfl,rfl⟩:=h;rw[sf hl (by simp)]at hx;obtain⟨b,hb⟩:=vv du;have h3:=hx.1.2.2 b (aq.live hb)
    have hu:∃g o,a.eval x = .pointer (some ⟨g,o,none⟩):=by
     cases b with
     |cell ls f=>exact h3.elim
     |lst e t xs f=>obtain⟨_,_,g,cap,_,hu⟩:=h3;exact⟨_,_,hu⟩
     |arr n t xs=>obtain⟨_,g,_,hu⟩:=h3;exact⟨_,_,hu⟩
    obtain⟨g,Nz,hu⟩:=hu;exact⟨fU hR (v:=a.eval x) (by simp[execOp,aU,hu]) hx,rfl⟩
   .simp at h
  .rename_i ls hl;simp only[j3,Act.leaf,Act.val.injEq]at h;obtain⟨_,rfl,rfl⟩:=h;rw[sf hl (by simp)]at hx;obtain⟨g,Nz,cs,hu,_⟩:=hx.1;exact⟨fU hR (v:=a.eval x) (by simp[execOp,aU,hu]) hx,rfl⟩
  .simp at h
 ·-- binOp
  rename_i op t x y rest aU;unfold oChk at h;split at h
  .rename_i b c hc;simp only[j3,Act.val.injEq]at h;obtain⟨rfl,rfl,rfl⟩:=h;obtain⟨z,hz,hl,h1⟩:=L0 (x:=x) (y:=y) hT hc (cK hR ar x) (cK hR ar y);refine⟨pU hR ?_ hl h1,rfl⟩;simp only[execOp,aU];rw[Sem.run_bind,hz];rfl
  .simp at h
 ·-- unOp
  rename_i op t x aU;unfold ir at h;split at h
  .rename_i c hc;simp only[j3,Act.leaf,Act.val.injEq]at h;obtain⟨_,rfl,rfl⟩:=h;obtain⟨z,hz,hl,h1⟩:=L1 hc (cK hR ar x);refine⟨pU hR ?_ hl h1,rfl⟩;simp only[execOp,aU];rw[Sem.run_bind,hz];rfl
  .simp at h
 ·-- convert
  rename_i src dst x aU;split at h
  .rename_i ts ti iG ht;split at h
   .rename_i k v k0 k' hl Cs aD;simp only[j3,Act.leaf,Act.val.injEq]at h;obtain⟨_,rfl,rfl⟩:=h;have hx:=cK hR ar x;rw[sf hl (by simp)]at hx;have hu:=nS hx;have dS:=Bt hT ht aD;refine⟨pU hR (v:= .int k' (k'.wrap v)) ?_ rfl rfl,rfl⟩;have wm:=Bt hT iG Cs;simp only[execOp,aU];rw[Sem.run_bind];have:(convert src dst (a.eval x)).run P w = .ok (.int k' (k'.wrap v)) w:=by simp only[hu,convert,Sem.run_bind,run_underlying wm,run_underlying dS,Result.andThen_ok];simp[Conv.intToInt]
    rw[this];rfl
   .simp at h
  .simp at h
 ·-- makeFunc
  rename_i f first caps aU
  split at h
  .rename_i l9;split at h
   .split at h
    .rename_i ks hl;simp only[j3,Act.val.injEq]at h;obtain⟨_,rfl,rfl⟩:=h;have bB:=yX hR ar caps.toList;have ma:first = #[]:=by simpa using l9
     refine⟨⟨.func (.func f) #[] (caps.map a.eval),w,S,γ,.inl ?_,hR,⟨⟨_,rfl,by
      have:=GL hl bB;rw[<-Array.toList_map]at this;exact this⟩,λ_=>rfl⟩⟩,rfl⟩
     simp[execOp,aU,ma,Instr.makeFunc]
    .simp at h
   split at h
   .rename_i l u' hl;simp only[j3,Act.val.injEq]at h;obtain⟨_,rfl,rfl⟩:=h;have bB:=yX hR ar caps.toList;obtain⟨S',bP,_,dY,_⟩:=GJ aE hl hR bB;have ma:first = #[]:=by simpa using l9
    refine⟨⟨.func (.func f) #[] (caps.map a.eval),w,S',γ,.inl ?_,bP,⟨⟨_,rfl,by simpa using dY⟩,λ_=>rfl⟩⟩,rfl⟩;simp[execOp,aU,ma,Instr.makeFunc]
   .simp at h
  .simp at h
 ·-- fieldAddr
  rename_i t x i aU;split at h
  .rename_i ti ht;unfold ir at h;split at h
   .rename_i c hc;simp only[j3,Act.leaf,Act.val.injEq]at h;obtain⟨_,rfl,rfl⟩:=h;obtain⟨z,hz,hl,h1⟩:=Ma hT aq ht hc (er (cK hR ar x));exact⟨pU hR (by simp[execOp,aU,hz]) hl h1,rfl⟩
   .simp at h
  .simp at h
 ·-- field
  rename_i t x i aU;split at h
  .rename_i ti ht;split at h
   .rename_i ls f hc hf;split at h
    .rename_i tf lD;unfold oCel at h;split at h
     .rename_i c aB;simp only[j3,Act.cel,Act.val.injEq]at h;obtain⟨_,rfl,rfl⟩:=h;have hx:=cK hR ar x;rw[hc]at hx;obtain⟨cs,hu,ah,h1⟩:=hx;obtain⟨fs,dS,fl,eP,eX,sg,tf',NA,bZ⟩:=F2 hT ht hf;rw[<-sg]at lD;have cA:=(ah.drop fl.offset).take tf.size;have gO:∀u∈(cs.toList.drop fl.offset).take tf.size,One u:=λu cL=>h1 u (z8 (kr cL));rw[<-eX]at aB
      have lG:∃z,(part fl.type cs fl.offset).run P w = .ok z w/\aQ S w γ σ.bx c z:=by
       unfold nF at aB;split at aB
       .rename_i fW;split at aB
        .rename_i hlen;simp only[j3]at aB;subst aB;refine⟨.agg (cs.extract fl.offset (fl.offset+tf.size)),?_,_,rfl,?_,?_⟩
         .simp only[part,Sem.run_bind,tG hT lD,fW,Result.andThen_ok,if_true,eO hT lD,Sem.run_pure]
         .have:(cs.extract fl.offset (fl.offset+tf.size)).toList=(cs.toList.drop fl.offset).take tf.size:=by simp[List.take_drop]
          rw[this];exact cA
         .have:(cs.extract fl.offset (fl.offset+tf.size)).toList=(cs.toList.drop fl.offset).take tf.size:=by simp[List.take_drop]
          rw[this];exact gO
        .simp at aB
       .rename_i fW;split at aB
        .rename_i l' iH;simp only[j3]at aB;subst aB;rw[iH]at cA;cases hq:(cs.toList.drop fl.offset).take tf.size with
         |nil=>rw[hq]at cA;exact cA.elim
         |cons z zs=>
          rw[hq]at cA gO
          have hz:cs[fl.offset]? = some z:=by
           have:((cs.toList.drop fl.offset).take tf.size)[0]? = some z:=by rw[hq];rfl
           have:=yv this;simpa using this
          refine⟨z,?_,cA.1,λ_=>gO z (by simp)⟩;simp only[part,Sem.run_bind,tG hT lD,Result.andThen_ok,if_neg fW,hz,Sem.run_pure]
        .simp at aB
      obtain⟨z,hz,eu⟩:=lG;refine⟨fU hR (v:=z) ?_ eu,rfl⟩;simp only[execOp,aU,hu];rw[Sem.run_bind];have:(Instr.field t (.agg cs) i).run P w = .ok z w:=by simp only[Instr.field,Sem.run_bind,run_underlying dS,Result.andThen_ok,eP,asAgg,Sem.run_pure,hz]
      rw[this];rfl
     .simp at h
    .simp at h
   .simp at h
  .simp at h
 ·-- indexAddr
  rename_i t x i aU;split at h
  .rename_i ti ht;unfold oChk at h;split at h
   .rename_i b c hc;simp only[j3,Act.val.injEq]at h;obtain⟨rfl,rfl,rfl⟩:=h;obtain⟨z,hz,hl,h1⟩:=Mb hT hR aq ht hc (er (cK hR ar x)) (er (cK hR ar i));exact⟨pU hR (by simp[execOp,aU,hz]) hl h1,rfl⟩
   .simp at h
  .simp at h
 ·-- index
  rename_i t x i aU;split at h
  .rename_i ti ht;split at h
   .rename_i b c hc;simp only[j3,Act.val.injEq]at h;obtain⟨rfl,rfl,rfl⟩:=h;obtain⟨z,hz,eu⟩:=Me hT ht hc (cK hR ar x) (er (cK hR ar i));exact⟨fU hR (v:=z) (by simp[execOp,aU,hz]) eu,rfl⟩
   .simp at h
  .simp at h
 ·-- makeMap
  rename_i t aU;split at h
  .rename_i k v ht;split at h
   .rename_i gy;simp only[j3,Act.val.injEq]at h;obtain⟨_,rfl,rfl⟩:=h;obtain⟨γ',ai,bP,eT⟩:=Nt (P:=P) (t:=t) (k:=k) (v:=v) hR (aq.free gy);exact⟨⟨_,_,S,γ',.inl (by simp[execOp,aU,ai]),bP,eT⟩,rfl⟩
   .simp at h
  .simp at h
 ·-- lookup
  rename_i t x i ok aU;split at h
  .rename_i k v ht;split at h
   .rename_i b ys q hm;obtain⟨z,hz,ai⟩:=Nl hT hR eV ht hm (er (cK hR ar x)) (er (cK hR ar i));split at h
    .simp only[j3,Act.val.injEq]at h;obtain⟨_,rfl,rfl⟩:=h;have hr:=ai true;simp only[if_true]at hr;refine⟨fU hR (v:= .tuple #[z,.bool (@mS _ _ k.keq ys q)]) (by simp[execOp,aU,hr]) ?_,rfl⟩;exact⟨_,rfl,rY hz,⟨rfl,λ_=>rfl⟩,trivial⟩
    .simp only[j3,Act.cel,Act.val.injEq]at h;obtain⟨_,rfl,rfl⟩:=h;have hr:=ai false;simp only[ka,qj]at hr;exact⟨fU hR (v:=z) (by simp[execOp,aU,hr]) (rY hz),rfl⟩
   .simp at h
  .simp at h
 ·-- mapUpdate
  rename_i t x i y aU;split at h
  .rename_i k v ht;split at h
   .rename_i b ys q z u' hm hd;simp only[j3,Act.val.injEq]at h;obtain⟨_,rfl,rfl⟩:=h;obtain⟨w',S',ai,bP⟩:=Nq hT hR eV ht hm (er (cK hR ar x)) (er (cK hR ar i)) aE hd (cK hR ar y);exact⟨⟨undef,w',S',γ,.inr ⟨by simp[execOp,aU,ai],rfl⟩,bP,⟨trivial,λh=>absurd rfl h⟩⟩,rfl⟩
   .simp at h
  .simp at h
 ·-- extract
  rename_i x i aU;split at h
  .rename_i l hl;split at h
   .rename_i c hc;simp only[j3,Act.cel,Act.val.injEq]at h;obtain⟨_,rfl,rfl⟩:=h;have hx:=gM hR x;rw[hl]at hx;obtain⟨vs,hu,ah⟩:=hx;obtain⟨z,hz,eu⟩:=ah.get i c hc;refine⟨fU hR (v:=z) ?_ eu,rfl⟩;have NB:vs[i]? = some z:=by simpa using hz
    simp[execOp,aU,hu,Instr.extract,NB]
   .simp at h
  .simp at h
 ·-- call
  rename_i cl aU;have bB:=yX hR ar cl.args.toList;split at h
  ·-- len
   rename_i dH;split at h
   .rename_i x t dQ iG;split at h
    .rename_i ti ht;unfold ir at h;split at h
     .rename_i c hc;simp only[j3,Act.leaf,Act.val.injEq]at h;obtain⟨_,rfl,rfl⟩:=h;obtain⟨z,hz,hl,h1⟩:=Mg (ty:=o.type) hT hR aq ht hc (er (cK hR ar x));have e1:cl.args = #[x]:=by apply k8;simpa using dQ
      have e2:cl.argTypes = #[t]:=by apply k8;simpa using iG
      refine⟨pU hR (v:=z) ?_ hl h1,rfl⟩;simp[execOp,aU,resolve,dH,invoke,builtin,e1,e2,hz]
     .simp at h
    .simp at h
   .simp at h
  ·-- min
   rename_i dH;unfold ir at h;split at h
   .rename_i c hc;simp only[j3,Act.leaf,Act.val.injEq]at h;obtain⟨_,rfl,rfl⟩:=h;obtain⟨z,hz,hl,h1⟩:=L2 (P:=P) (ts:=cl.argTypes) (ty:=o.type) hc bB;refine⟨pU hR (v:=z) ?_ hl h1,rfl⟩;have e1:cl.args.map a.eval=(cl.args.toList.map a.eval).toArray:=by apply k8;simp
    simp[execOp,aU,resolve,dH,invoke,builtin,e1,hz]
   .simp at h
  ·-- max
   rename_i dH;unfold ir at h;split at h
   .rename_i c hc;simp only[j3,Act.leaf,Act.val.injEq]at h;obtain⟨_,rfl,rfl⟩:=h;obtain⟨z,hz,hl,h1⟩:=L3 (P:=P) (ts:=cl.argTypes) (ty:=o.type) hc bB;refine⟨pU hR (v:=z) ?_ hl h1,rfl⟩;have e1:cl.args.map a.eval=(cl.args.toList.map a.eval).toArray:=by apply k8;simp
    simp[execOp,aU,resolve,dH,invoke,builtin,e1,hz]
   .simp at h
  ·-- append
   rename_i dH;split at h
   .rename_i t t' s' x iG dQ;split at h
    .rename_i Ct;subst Ct;split at h
     .rename_i ti ht;split at h
      .rename_i el aD;split at h
       .rename_i b' v' u' hh;simp only[j3,Act.val.injEq]at h;obtain⟨rfl,rfl,rfl⟩:=h;obtain⟨z,w',ai,bP,hl,h1⟩:=MP (ty:=o.type) hT hR aq ht aD hh (er (cK hR ar s')) (er (cK hR ar x));have e1:cl.args = #[s',x]:=by apply k8;simpa using dQ
        have e2:cl.argTypes = #[t,t]:=by apply k8;simpa using iG
        refine⟨⟨z,w',S,γ,.inl ?_,bP,hl,λ_=>h1⟩,rfl⟩;simp[execOp,aU,resolve,dH,invoke,builtin,e1,e2,ai]
       split at h
       .rename_i v' u' hh;simp only[j3,Act.val.injEq]at h;obtain⟨_,rfl,rfl⟩:=h;obtain⟨z,w',γ',ai,bP,hl,h1⟩:=MS (ty:=o.type) hT hR aq aE ht aD hh (er (cK hR ar s')) (er (cK hR ar x));have e1:cl.args = #[s',x]:=by apply k8;simpa using dQ
        have e2:cl.argTypes = #[t,t]:=by apply k8;simpa using iG
        refine⟨⟨z,w',S,γ',.inl ?_,bP,hl,λ_=>h1⟩,rfl⟩;simp[execOp,aU,resolve,dH,invoke,builtin,e1,e2,ai]
       split at h
       .rename_i xs frz u' ys hs hx;split at h
        .rename_i az;simp only[j3,Act.val.injEq,jg]at h;obtain⟨dh,rfl,rfl⟩:=h;obtain⟨v',w',S',γ',ai,bP,eT⟩:=Mx (ty:=o.type) hT hR aq aE ht aD hs hx (aq.free az) dh (er (cK hR ar s')) (er (cK hR ar x));have e1:cl.args = #[s',x]:=by apply k8;simpa using dQ
         have e2:cl.argTypes = #[t,t]:=by apply k8;simpa using iG
         refine⟨⟨v',w',S',γ',.inl ?_,bP,eT⟩,rfl⟩;simp[execOp,aU,resolve,dH,invoke,builtin,e1,e2,ai]
        .simp at h
       .simp at h
      .simp at h
     .simp at h
    .simp at h
   .simp at h
  ·-- value
   split at h
   .split at h
    .split at h
     .simp at h
     .simp at h
    .simp at h
   .split at h
    .split at h
     .simp at h
     .simp at h
    .simp at h
   .simp at h
  ·-- copy
   rename_i dH;split at h
   .rename_i t t' x y iG dQ;split at h
    .rename_i Ct;subst Ct;split at h
     .rename_i ti ht;split at h
      .rename_i c u' hc;simp only[j3,Act.val.injEq]at h;obtain⟨_,rfl,rfl⟩:=h;obtain⟨v',w',ai,bP,eT⟩:=MM (ty:=o.type) hT hR aq ht hc (er (cK hR ar x)) (er (cK hR ar y));have e1:cl.args = #[x,y]:=by apply k8;simpa using dQ
       have e2:cl.argTypes = #[t,t]:=by apply k8;simpa using iG
       refine⟨⟨v',w',S,γ,.inl ?_,bP,eT⟩,rfl⟩;simp[execOp,aU,resolve,dH,invoke,builtin,e1,e2,ai]
      .simp at h
     .simp at h
    .simp at h
   .simp at h
  ·-- clear
   rename_i dH;split at h
   .rename_i t x iG dQ;split at h
    .rename_i ti ht;split at h
     .rename_i u' hc;simp only[j3,Act.val.injEq]at h;obtain⟨_,rfl,rfl⟩:=h;obtain⟨v',w',ai,bP⟩:=MN (ty:=o.type) hT hR aq ht hc (er (cK hR ar x));have e1:cl.args = #[x]:=by apply k8;simpa using dQ
      have e2:cl.argTypes = #[t]:=by apply k8;simpa using iG
      refine⟨⟨v',w',S,γ,.inl ?_,bP,⟨trivial,λh=>absurd rfl h⟩⟩,rfl⟩;simp[execOp,aU,resolve,dH,invoke,builtin,e1,e2,ai]
     .simp at h
    .simp at h
   .simp at h
  .simp at h
 ·-- slice
  rename_i t x lo hi aU;split at h
  .rename_i ti ht;split at h
   .rename_i b c u' hc;simp only[j3,Act.val.injEq]at h;obtain⟨rfl,rfl,rfl⟩:=h
    have ho:∀y:Option Operand,ORep (aL S w γ σ.bx) (y.map λx=>lf ((σ.ev x).cel act)) (y.map a.eval):=by
     intro y;cases y with
     |none=>trivial
     |some y=>exact er (cK hR ar y)
    obtain⟨v',S',γ',ai,bP,eT⟩:=MH hT hR aq ht (λk hk=>aq.free hk) hc (er (cK hR ar x)) (ho lo) (ho hi);refine⟨⟨v',w,S',γ',.inl ?_,bP,eT⟩,rfl⟩;simp[execOp,aU,ai]
   .simp at h
  .simp at h
 ·-- slice with a capacity
  rename_i t x lo hi mx aU;split at h
  .rename_i ti ht;split at h
   .rename_i b hc;simp only[j3,Act.val.injEq]at h;obtain⟨rfl,rfl,rfl⟩:=h
    have ho:∀y:Option Operand,ORep (aL S w γ σ.bx) (y.map λx=>lf ((σ.ev x).cel act)) (y.map a.eval):=by
     intro y;cases y with
     |none=>trivial
     |some y=>exact er (cK hR ar y)
    obtain⟨v',ai⟩:=ML hT hR aq ht hc (er (cK hR ar x)) (ho lo) (ho hi) (er (cK hR ar mx));refine⟨⟨v',w,S,γ,.inl ?_,hR,⟨trivial,λh=>absurd rfl h⟩⟩,rfl⟩;simp[execOp,aU,ai]
   .simp at h
  .simp at h
 .simp at h
theorem Hm{P:Program}{E:Env}(hR:Rel N E.np S0 w0 refs σ a w S γ){act:List (Nat×Bool)}(ar:lE (tm a) act){rw:Nat->BS}(eV:RdR σ rw)
  {o:Oper}{f:Nat}{args:List Arg}{mk:Ret->Option (Slot×Ups)}(h:cE E σ.ev rw act o=some (.call f args mk))(hf:Fun P f){K:Ret->Prop}(cu:yQ P f args K) :
  ∃vals,(execOp a.eval o).run P w = .ok (.enter f vals) w/\
   (Calls P f vals w λe w'=>∃ret,K ret/\∀s u,mk ret=some (s,u)->∃v S' γ',e = .returned v/\Rel N E.np S0 w0 refs (σ.upd u) a w' S' γ'/\fe S' w' γ' (σ.upd u).bx (tm a) s v)/\
   ∀ret s u,mk ret=some (s,u)->s.bare=true:=by
 have aq:RdOk σ (mskM rw):=eV.msk;have aE:=ud (np:=E.np) aq;unfold cE at h;dsimp only at h;split at h
 case h_23 cl aU=>
  have bB:=yX hR ar cl.args.toList;split at h
  case h_5 x dH=>
   split at h
   .rename_i g caps hl;split at h
    .rename_i as us fs has;split at h
     .rename_i aM;simp only[j3,Act.call.injEq]at h;obtain⟨rfl,rfl,rfl⟩:=h;have hx:=cK hR ar x;rw[sf hl (by simp)]at hx;obtain⟨cv,hu,gp⟩:=hx.1;refine⟨_,we hf aU dH hu,?_,?_⟩
      .have:=G7 hR eV aq aE has bB aM gp cu ((o.dst.getD 0)*64);have e1:(cl.args.toList.map a.eval++cv.toList).toArray=cl.args.map a.eval++cv:=by apply k8;simp
       rwa[e1]at this
      .intro ret s u aB;unfold nJ at aB;split at aB
       .unfold mkHd at aB;split at aB
        .split at aB
         .split at aB
          .simp only[j3,j7]at aB;rw[<-aB.1];rfl
          .simp at aB
         .simp at aB
        .simp at aB
       .unfold u4 at aB;split at aB
        .split at aB
         .simp only[j3,j7]at aB;rw[<-aB.1];exact Hk _
         .simp at aB
        .simp at aB
       split at aB
       .split at aB
        .split at aB
         .revert aB;dsimp only;split<;>(intro aB;simp only[j3,j7]at aB;rw[<-aB.1];rfl)
         .simp at aB
        .simp at aB
       .simp at aB
     .simp at h
    .simp at h
   .rename_i g ks hl;split at h
    .rename_i as us fs has;split at h
     .rename_i aM;simp only[j3,Act.call.injEq]at h;obtain⟨rfl,rfl,rfl⟩:=h;have hx:=cK hR ar x;rw[sf hl (by simp)]at hx;obtain⟨cv,hu,gp⟩:=hx.1;refine⟨_,we hf aU dH hu,?_,?_⟩
      .have:=G7 hR eV aq aE has (bB.append (GM gp)) aM (caps:=[]) (cv:=[]) trivial (by simpa using cu) ((o.dst.getD 0)*64);have e1:((cl.args.toList.map a.eval++cv.toList)++[]).toArray=cl.args.map a.eval++cv:=by apply k8;simp
       rwa[e1]at this
      .intro ret s u aB;unfold nJ at aB;split at aB
       .unfold mkHd at aB;split at aB
        .split at aB
         .split at aB
          .simp only[j3,j7]at aB;rw[<-aB.1];rfl
          .simp at aB
         .simp at aB
        .simp at aB
       .unfold u4 at aB;split at aB
        .split at aB
         .simp only[j3,j7]at aB;rw[<-aB.1];exact Hk _
         .simp at aB
        .simp at aB
       split at aB
       .split at aB
        .split at aB
         .revert aB;dsimp only;split<;>(intro aB;simp only[j3,j7]at aB;rw[<-aB.1];rfl)
         .simp at aB
        .simp at aB
       .simp at aB
     .simp at h
    .simp at h
   .simp at h
  all_goals (first|(simp at h;done)|skip)
  all_goals (exfalso;revert h;try simp only[ir])
  all_goals (repeat' split)
  all_goals simp[Act.leaf]
 all_goals (first|(simp at h;done)|skip)
 all_goals (repeat' (first|(simp at h;done)|(exact absurd h Nx)|split at h))<;>simp_all[ir,oCel,oChk,Act.leaf,Act.cel]
 all_goals (repeat' (split at h))<;>simp_all
end
end Go.Lft
