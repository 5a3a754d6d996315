/- mN.Violations. -/
import Derived.Test.YtaieocafhcjelaaGreatEPP
import Derived.Test.YtaieocafhcjelaaGreatEPK
open Go Go.Lft
namespace Go.Proofs.Pw
def gE(p:Int)(cl:bL):List Int:=(cl.filter λz=>z.1==p).map (·.2.2.2.1)
theorem jxz(p:Int)(z:lg)(r:bL):gE p (z::r)=cond (z.1==p) (z.2.2.2.1::gE p r) (gE p r):=by
 unfold gE;cases h:(z.1==p)<;>simp[h]
theorem jzG(p:Int)(cl:bL):(gE p cl).length<=cl.length:=by
 unfold gE;rw[kb];exact qt _ _
theorem OC{p:Int}{A B C:List Int}{cl:bL}(hl:cl.length<=1000000):∀(n j:Nat)(acc:List Int),j+n=cl.length->acc.length<=j->
  mE p (cl.length:Int) (j:Int) cl A B C acc=some (p,A,B,C,acc++gE p (cl.drop j))
 |0,j,acc,hj,_=>by
  rw[Th];simp only[j3s];rw[al (by omega),j6,aW,jf (by omega)];simp[gE]
 |n+1,j,acc,hj,ha=>by
  have eJ:j<cl.length:=by omega
  have bh:cl.getD j ((0:Int),((0:Int),((0:Int),((0:Int),(0:Int)))))=cl[j]:=by simp[List.getD,eJ]
  rw[Th,jc eJ,jxz];simp only[j3s];rw[aj (show (j:Int)<(cl.length:Int) by omega),aX (by omega) (by omega)];simp only[j5,j7,bh];rw[ai (x:=(j:Int)+1) (by omega) (by omega)];cases hq:(cl[j].1==p) with
  |true=>have ih:=OC (p:=p) (A:=A) (B:=B) (C:=C) hl n (j+1) (acc++[cl[j].2.2.2.1]) (by omega) (by simp;omega);rw[show ((j+1:Nat):Int)=(j:Int)+1 by omega]at ih;rw[j5,j5,aj (by simp[aR];omega),j5,aJ,ih,jd];rfl
  |false=>have ih:=OC (p:=p) (A:=A) (B:=B) (C:=C) hl n (j+1) acc (by omega) (by omega);rw[show ((j+1:Nat):Int)=(j:Int)+1 by omega]at ih;rw[j6,j6,aJ,ih]
def vK(k p:Int)(L:List Int):aS:=L.map λt=>(k,(p,t))
theorem Xp{p k:Int}{F:List (List Int)}{i:Int}{L:List Int}(hl:L.length<=1000000):∀(n j:Nat)(acc:aS),j+n=L.length->acc.length<=10000000+j->
  rV p k F i L (L.length:Int) (j:Int) acc=some (p,F,i,acc++vK k p (L.drop j))
 |0,j,acc,hj,_=>by
  rw[Ti];simp only[j3t];rw[al (by omega),j6,aW,jf (by omega)];simp[vK]
 |n+1,j,acc,hj,ha=>by
  have eJ:j<L.length:=by omega
  have bh:L.getD j (0:Int)=L[j]:=by simp[List.getD,eJ]
  have ih:=Xp (p:=p) (k:=k) (F:=F) (i:=i) hl n (j+1) (acc++[(k,(p,L[j]))]) (by omega) (by simp;omega);rw[show ((j+1:Nat):Int)=(j:Int)+1 by omega]at ih;rw[Ti,jc eJ];simp only[j3t];rw[aj (show (j:Int)<(L.length:Int) by omega),aX (by omega) (by omega)];simp only[j5,j7,bh];rw[ai (x:=(j:Int)+1) (by omega) (by omega),aj (by simp[aR];omega),j5,aJ,ih,jd];rfl
def jJ(p:Int)(A B C E:List Int):aS:=vK 0 p A++(vK 1 p B++(vK 2 p C++vK 3 p E))
theorem jBD{p:Int}{A B C E:List Int}(hA:A.length<=1000000)(hB:B.length<=1000000)(hC:C.length<=1000000)(hE:E.length<=1000000) :
  nj p [A,B,C,E] 0 []=some (jJ p A B C E):=by
 have q:=λ(k:Int)(L:List Int)(hL:L.length<=1000000)(acc:aS)(eT:acc.length<=10000000)=>Xp (p:=p) (k:=k) (F:=[A,B,C,E]) (i:=k) hL L.length 0 acc (by omega) (by omega);have lv:∀k (L:List Int),(vK k p L).length=L.length:=λk L=>by simp[vK]
 have q0:=q 0 A hA [] (by simp);have q1:=q 1 B hB (vK 0 p A) (by rw[lv];omega);have q2:=q 2 C hC (vK 0 p A++vK 1 p B) (by rw[ja,lv,lv];omega);have q3:=q 3 E hE (vK 0 p A++vK 1 p B++vK 2 p C) (by rw[ja,ja,lv,lv,lv];omega);simp only[jv,jl]at q0 q1 q2 q3;rw[Dv];simp only[j0T];rw[aj (show (0:Int)<4 by omega),aX (show (0:Int)<=0 by omega) (by omega)];simp only[j5,Int.toNat_zero,List.getD_cons_zero,show Int.ofNat A.length=(A.length:Int) from rfl];rw[show rV p 0 [A,B,C,E] 0 A (A.length:Int) 0 []=_ from q0];simp only[j3];rw[ai (x:=(0:Int)+1) (by omega) (by omega),aJ,show (0:Int)+1=1 by omega,Dv];simp only[j0T];rw[aj (show (1:Int)<4 by omega),aX (show (0:Int)<=1 by omega) (by omega)];simp only[j5,show (1:Int).toNat=1 from rfl,List.getD_cons_succ,List.getD_cons_zero,show Int.ofNat B.length=(B.length:Int) from rfl];rw[show rV p 1 [A,B,C,E] 1 B (B.length:Int) 0 (vK 0 p A)=_ from q1];simp only[j3];rw[ai (x:=(1:Int)+1) (by omega) (by omega),aJ,show (1:Int)+1=2 by omega,Dv];simp only[j0T];rw[aj (show (2:Int)<4 by omega),aX (show (0:Int)<=2 by omega) (by omega)];simp only[j5,show (2:Int).toNat=2 from rfl,List.getD_cons_succ,List.getD_cons_zero,show Int.ofNat C.length=(C.length:Int) from rfl];rw[show rV p 2 [A,B,C,E] 2 C (C.length:Int) 0 (vK 0 p A++vK 1 p B)=_ from q2];simp only[j3];rw[ai (x:=(2:Int)+1) (by omega) (by omega),aJ,show (2:Int)+1=3 by omega,Dv];simp only[j0T];rw[aj (show (3:Int)<4 by omega),aX (show (0:Int)<=3 by omega) (by omega)]
 simp only[j5,show (3:Int).toNat=3 from rfl,List.getD_cons_succ,List.getD_cons_zero,show Int.ofNat E.length=(E.length:Int) from rfl];rw[show rV p 3 [A,B,C,E] 3 E (E.length:Int) 0 (vK 0 p A++vK 1 p B++vK 2 p C)=_ from q3];simp only[j3];rw[ai (x:=(3:Int)+1) (by omega) (by omega),aJ,show (3:Int)+1=4 by omega,Dv];simp only[j0T];rw[al (by omega),j6,aW];simp only[jJ,jd]
noncomputable def OD(p:Int)(cl:bL)(A B C:List Int):Option (aS×Int):=
 (mE p (Int.ofNat (List.length cl)) (0:Int) cl A B C ([]:(List Int))).bind λq0=>
 (nj q0.1 [q0.2.1,q0.2.2.1,q0.2.2.2.1,q0.2.2.2.2] (0:Int) ([]:aS)).bind λq2=>
 (j03 q2).bind λOE=>
 (j05 OE).bind λtX=>
 cond (decide (Int.ofNat (List.length (List.take (Int.toNat tX.1) tX.2))>(16384:Int))) (
 some (([]:aS),(5:Int))) (
 some (List.take (Int.toNat tX.1) tX.2,(0:Int)))
theorem jBE{p:Int}(hp:0<=p/\p<=1000){cl:bL}{A B C:List Int}(hl:A.length+B.length+C.length+(gE p cl).length<=16384)(fp:cl.length<=1000000)
  (hb:∀t,t∈A\/t∈B\/t∈C\/t∈gE p cl -> -1000000000000<=t/\t<=1000000000000) :
  ∃V,OD p cl A B C=some (V,0)/\V.Pairwise fk/\(∀x,x∈V↔x∈jJ p A B C (gE p cl))/\V.length<=A.length+B.length+C.length+(gE p cl).length:=by
 have e0:=OC (p:=p) (A:=A) (B:=B) (C:=C) fp cl.length 0 [] (by omega) (by simp);rw[jl,jv]at e0;have e2:=jBD (p:=p) (A:=A) (B:=B) (C:=C) (E:=gE p cl) (by omega) (by omega) (by omega) (by omega);have lv:∀k (L:List Int),(vK k p L).length=L.length:=λk L=>by simp[vK]
 have sK:(jJ p A B C (gE p cl)).length=A.length+B.length+C.length+(gE p cl).length:=by simp only[jJ,ja,lv];omega
 have ia:∀x∈jJ p A B C (gE p cl),oz x:=λx hx=>by
  have key:∀k (L:List Int),0<=k->k<=3->x∈vK k p L->(∀t∈L, -1000000000000<=t/\t<=1000000000000)->oz x:=λk L k0 k1 h hL=>by
   obtain⟨t,ht,rfl⟩:=ju.1 h;have:=hL t ht;unfold oz;dsimp only;omega
  simp only[jJ,jn]at hx;rcases hx with h|h|h|h
  .exact key 0 A (by omega) (by omega) h λt ht=>hb t (.inl ht)
  .exact key 1 B (by omega) (by omega) h λt ht=>hb t (.inr (.inl ht))
  .exact key 2 C (by omega) (by omega) h λt ht=>hb t (.inr (.inr (.inl ht)))
  .exact key 3 _ (by omega) (by omega) h λt ht=>hb t (.inr (.inr (.inr ht)))
 obtain⟨L,e3,p3,s3⟩:=Xn (l:=jJ p A B C (gE p cl)) (by omega) ia;have hLl:=p3.length_eq;obtain⟨n,m,e4,h4⟩:=js3 (l:=L) (by omega);have hcl4:=jzF L;refine⟨oy L,?_,jzE s3,λx=>(jzD x).trans p3.mem_iff,by omega⟩;unfold OD;rw[show mE p (Int.ofNat (List.length cl)) 0 cl A B C []=_ from e0];simp only[j3];rw[e2];simp only[j3,e3,e4,h4,show Int.ofNat (oy L).length=((oy L).length:Int) from rfl];rw[al (show¬((oy L).length:Int)>16384 by omega),j6]
def fA(m:Int)(D:SL)(a b:Int)(A:List Int):Prop:=m=0/\A=[]\/m≠0/\Ov D m a b (4*D.length+1) A
def fB(r:Int)(D:SL)(B:List Int):Prop:=r=0/\B=[]\/r≠0/\B=ox r D
def fC(c:Bool)(z:Int×bT)(w:WL)(D:SL)(a b:Int)(C:List Int):Prop:=c=true/\C=[]\/c=false/\∃W Q,j2x z w a b=some W/\bK (a-1) W/\(∀u∈W,a<=u.1/\u.2<=b)/\
 j4p D W=some Q/\bK (a-1) Q/\(∀x,bz x Q↔bz x D/\bz x W)/\Q.length<=D.length+210/\C=Q.map (·.1)
theorem Xq{n:Int}(h:j5j n=some true):0<=n/\n<=604800:=by
 simp only[j5j,j7A]at h;by_cases h1:n<0
 .exfalso;revert h;rw[al (show¬(0:Int)<=n by omega)]<;>simp
 .by_cases h2:n>604800
  .exfalso;revert h;rw[al (show¬n<=(604800:Int) by omega)]<;>simp
  .omega
section
variable{zs:List bY}{ps:List dB}{cs:List bf}(hs:eX zs ps cs)
include hs
theorem jzI{ss:List cA}(hc:tP (zs,(ps,(cs,ss)))){p:Nat}(hp:p<ps.length){a b:Int}(ha:0<=a)(bR:a<b)(hb:b<=8589934592)(hlen:b-a<=1209600){D:SL}
  (eD:j5k ((zs,(ps,(cs,ss))),zs.map tb) (p:Int) a b=some (D,0))(hD:bK (a-1) D)(lD:D.length<=3800)(bD:∀u∈D,a<=u.1/\u.2<=b)
  {cl:bL}(eC:j39 (zs,(ps,(cs,ss))) a b=some (cl,0)) :
  ∃A B C,j14 (zs,(ps,(cs,ss))) (p:Int) a b=OD (p:Int) cl A B C/\fA ps[p].2.2.2.1 D a b A/\fB ps[p].2.2.2.2.1 D B/\fC ps[p].2.2.2.2.2 (tb (aK zs ps[p].2.1)) ps[p].2.2.1 D a b C:=by
 have rh:=hc.pc ps[p] (jh hp);have hz:nq (aK zs ps[p].2.1):=jF hs.so.ok rh.z0 rh.z1;have bh:ps.getD p (ByteArray.empty,((0:Int),(([]:List (Int×Int)),((0:Int),((0:Int),false)))))=ps[p]:=by simp[List.getD,hp]
 have hm:=Xq rh.m;have hr:=Xq rh.r
 have ow:Sml D:=λs hq=>by
  have h1:=bD s hq;have h2:=(hD.mem s hq).2;omega
 obtain⟨A,eA,hA⟩:=jxw (l:=D) (by omega) (λs hq=>by have:=bD s hq;omega) hD hm.1 hm.2 ha bR hb;have eB:=jxx (l:=D) (by omega) ow ps[p].2.2.2.2.1;have ib:(tb (aK zs ps[p].2.1)).2.length<=4:=G6 hz;obtain⟨W,eW,w1,w2,w3,_⟩:=Vn hz.ztab.2 (qg ib (by omega)) rh.w rh.wl (M:=2) (by omega) ha (Int.le_of_lt bR) hb (by omega);have wlen:W.length<=210:=by have:ps[p].2.2.1.length*(2+1)*((tb (aK zs ps[p].2.1)).2.length+1)<=14*(2+1)*(4+1):=qw (jx _ rh.wl) (by omega);omega
 obtain⟨Q,eQ,q1,q2,q3⟩:=Vp hD w1 (by omega) (by omega);have eG:=jwh (l:=Q) (by omega);simp only[j14];rw[show j6v (zs,ps,cs,ss) (p:Int) a b=_ from jwi hs hc hp ha (Int.le_of_lt bR) hb (by omega)];simp only[j3,jp,j6];rw[eD];simp only[j3,jp,j6];rw[show j39 (zs,ps,cs,ss) a b=_ from eC];simp only[j3,jp,j6];rw[aX (by omega) (by omega)];simp only[j5,j7,bh];have tq:j3r ((zs,ps,cs,ss),zs.map tb) ps[p].2.1=_:=N1 rh.z0 rh.z1;have tY:ps[p].2.2.2.2.2=false->fC ps[p].2.2.2.2.2 (tb (aK zs ps[p].2.1)) ps[p].2.2.1 D a b (Q.map (·.1)):=λh=> .inr ⟨h,W,Q,eW,w1,w2,eQ,q1,q2,by omega,rfl⟩;have tZ:ps[p].2.2.2.2.2=true->fC ps[p].2.2.2.2.2 (tb (aK zs ps[p].2.1)) ps[p].2.2.1 D a b []:=λh=> .inl ⟨h,rfl⟩;have Hv:j2x ((tb (aK zs ps[p].2.1)).1,(tb (aK zs ps[p].2.1)).2) ps[p].2.2.1 a b=some W:=eW;by_cases gI:ps[p].2.2.2.1=0
 .rw[show (ps[p].2.2.2.1 != (0:Int))=false by rw[gI];rfl];simp only[j6];by_cases oA:ps[p].2.2.2.2.1=0
  .rw[show (ps[p].2.2.2.2.1 != (0:Int))=false by rw[oA];rfl];simp only[j6];cases cU:ps[p].2.2.2.2.2 with
   |false=>simp only[k7,j5,tq,j3,Hv,eQ];rw[al (show¬Int.ofNat Q.length>4096 by show¬(Q.length:Int)>4096;omega)];simp only[j6,eG,j3];exact⟨[],[],Q.map (·.1),rfl,.inl ⟨gI,rfl⟩,.inl ⟨oA,rfl⟩,cU▸tY cU⟩
   |true=>simp only[jq,j6];exact⟨[],[],[],rfl,.inl ⟨gI,rfl⟩,.inl ⟨oA,rfl⟩,cU▸tZ cU⟩
  .rw[show (ps[p].2.2.2.2.1 != (0:Int))=true from bne_iff_ne.2 oA];simp only[j5,eB,j3];cases cU:ps[p].2.2.2.2.2 with
   |false=>simp only[k7,j5,tq,j3,Hv,eQ];rw[al (show¬Int.ofNat Q.length>4096 by show¬(Q.length:Int)>4096;omega)];simp only[j6,eG,j3];exact⟨[],_,Q.map (·.1),rfl,.inl ⟨gI,rfl⟩,.inr ⟨oA,rfl⟩,cU▸tY cU⟩
   |true=>simp only[jq,j6];exact⟨[],_,[],rfl,.inl ⟨gI,rfl⟩,.inr ⟨oA,rfl⟩,cU▸tZ cU⟩
 .rw[show (ps[p].2.2.2.1 != (0:Int))=true from bne_iff_ne.2 gI];simp only[j5,eA,j3];by_cases oA:ps[p].2.2.2.2.1=0
  .rw[show (ps[p].2.2.2.2.1 != (0:Int))=false by rw[oA];rfl];simp only[j6];cases cU:ps[p].2.2.2.2.2 with
   |false=>simp only[k7,j5,tq,j3,Hv,eQ];rw[al (show¬Int.ofNat Q.length>4096 by show¬(Q.length:Int)>4096;omega)];simp only[j6,eG,j3];exact⟨A,[],Q.map (·.1),rfl,.inr ⟨gI,hA⟩,.inl ⟨oA,rfl⟩,cU▸tY cU⟩
   |true=>simp only[jq,j6];exact⟨A,[],[],rfl,.inr ⟨gI,hA⟩,.inl ⟨oA,rfl⟩,cU▸tZ cU⟩
  .rw[show (ps[p].2.2.2.2.1 != (0:Int))=true from bne_iff_ne.2 oA];simp only[j5,eB,j3];cases cU:ps[p].2.2.2.2.2 with
   |false=>simp only[k7,j5,tq,j3,Hv,eQ];rw[al (show¬Int.ofNat Q.length>4096 by show¬(Q.length:Int)>4096;omega)];simp only[j6,eG,j3];exact⟨A,_,Q.map (·.1),rfl,.inr ⟨gI,hA⟩,.inr ⟨oA,rfl⟩,cU▸tY cU⟩
   |true=>simp only[jq,j6];exact⟨A,_,[],rfl,.inr ⟨gI,hA⟩,.inr ⟨oA,rfl⟩,cU▸tZ cU⟩
end
theorem OG{k:Int}:∀{l:SL}{p x:Int},x∈rq k p l->∃s∈l,s.1=x
 |s::r,p,x,h=>by
  simp only[rq]at h;split at h
  .rcases je.1 h with rfl|h
   .exact⟨s,by simp,rfl⟩
   .obtain⟨u,hu,e⟩:=OG h;exact⟨u,by simp[hu],e⟩
  .obtain⟨u,hu,e⟩:=OG h;exact⟨u,by simp[hu],e⟩
theorem jxA{k:Int}{l:SL}{x:Int}(h:x∈ox k l):∃s∈l,s.1=x:=by
 match l,h with
 |s::r,h=>obtain⟨u,hu,e⟩:=OG h;exact⟨u,by simp[hu],e⟩
theorem jxB{k:Int}{l:SL}:(ox k l).length<=l.length:=by
 match l with
 |[]=>simp[ox]
 |s::r=>have:=Xh k r s.2;simp only[ox,jk];omega
def dj(f:Nat->Nat):Nat->Nat
 |0=>0
 |n+1=>dj f n+f n
theorem EL(f g:Nat->Nat):∀n,dj (λi=>f i+g i) n=dj f n+dj g n
 |0=>rfl
 |n+1=>by simp only[dj,EL f g n];omega
theorem Xr{f g:Nat->Nat}:∀n,(∀i,i<n->f i<=g i)->dj f n<=dj g n
 |0,_=>jg _
 |n+1,h=>by
  have:=Xr n (λi hi=>h i (by omega));have:=h n (by omega);simp only[dj];omega
theorem Xs(k:Int):∀n:Nat,dj (λi=>if k=(i:Int) then 1 else 0) n=if 0<=k/\k<n then 1 else 0
 |0=>by
  simp only[dj];rw[if_neg (by omega)]
 |n+1=>by
  simp only[dj,Xs k n];by_cases h:k=(n:Int)
  .rw[if_neg (by omega),if_pos h,if_pos (by omega)]
  .rw[if_neg h];by_cases h1:0<=k/\k<(n:Int)
   .rw[if_pos h1,if_pos (by omega)]
   .rw[if_neg h1,if_neg (by omega)]
theorem OH:∀n,dj (λ_=>0) n=0
 |0=>rfl
 |n+1=>by simp only[dj,OH n]
theorem OI{α:Type}(key:α->Int)(n:Nat):∀xs:List α,dj (λi=>(xs.filter λx=>key x==(i:Int)).length) n<=xs.length
 |[]=>by simp only[List.filter_nil,kq,OH];omega
 |x::r=>by
  have ih:=OI key n r
  have e:∀i:Nat,((x::r).filter λx=>key x==(i:Int)).length=(if key x=(i:Int) then 1 else 0)+(r.filter λx=>key x==(i:Int)).length:=λi=>by
   by_cases h:key x=(i:Int)
   .rw[if_pos h,List.filter_cons_of_pos (by simpa using h),jk];omega
   .rw[if_neg h,List.filter_cons_of_neg (by simpa using h)];omega
  simp only[e];rw[EL,Xs];rw[jk];split<;>omega
def lX(F:cA->aS)(p:Int):List cA->Nat
 |[]=>0
 |s::r=>(iB p (F s)).length+lX F p r
theorem Xt(F:cA->aS){K:Nat}(n:Nat):∀ss:List cA,(∀s∈ss,(F s).length<=K)->dj (λi=>lX F (i:Int) ss) n<=K*ss.length
 |[],_=>by simp only[lX,OH];omega
 |s::r,h=>by
  have ih:=Xt F n r (λu hu=>h u (by simp[hu]));have h1:=h s (by simp);simp only[lX];rw[EL];have h2:=OI (λx:ej=>x.2.2) n (F s)
  have e:(λi:Nat=>(iB (i:Int) (F s)).length)=λi:Nat=>((F s).filter λx=>x.2.2==(i:Int)).length:=by
   funext i
   unfold iB;rw[kb]
  rw[e,jk,vv];omega
theorem jtU{f:Int->Int}{a b:Int}{S:aS}(hS:di f b none a S)(ha:0<=a)(hb:b<=8589934592)(hl:S.length<=1000000)(v:Int) :
  ∃out,j6x S v=some out/\bK (a-1) out/\(∀x,bz x out↔a<=x/\x<b/\f x=v)/\out.length<=(iB v S).length/\∀u∈out,a<=u.1/\u.2<=b:=by
 have eu:(iB v S).length<=S.length:=by unfold iB;rw[kb];exact qt _ _
 have tl:=Ob (v:=v) (S:=S) (by omega) S.length 0 [] (by omega) (by simp);rw[jl,jv]at tl
 have OJ:∀u∈iB v S,a<=u.1/\u.2<=b/\u.1<u.2:=λu hu=>by
  obtain⟨s,hm,rfl⟩:=ju.1 hu;have hm:=(qq.1 hm).1;have hc:=hS.ch.mem _ hm;exact⟨hc.1,hc.2.2.1,hS.pos _ hm⟩
 obtain⟨out,e3,h1,h2,h3,h4⟩:=Bl (l:=iB v S) (by omega) (λu hu=>by have:=OJ u hu;omega) (lo:=a) (hi:=b) (λu hu _=>⟨(OJ u hu).1,(OJ u hu).2.1⟩);refine⟨out,?_,h1,λx=>(h2 x).trans (jAT hS),h3,h4⟩;simp only[j6x,show Int.ofNat S.length=(S.length:Int) from rfl];rw[show yk v S (S.length:Int) 0 []=_ from tl];simp only[j3,e3]
section
variable{zs:List bY}{ps:List dB}{cs:List bf}{rr:List cA}{p a b:Int}{F:cA->aS}{K:Nat}(hK:K<=2500)(ha:0<=a)(hb:b<=8589934592)
include hK ha hb
theorem Xu{ss:List cA}(uZ:∀s∈ss,j0N ((zs,(ps,(cs,rr))),zs.map tb) s a b=some (F s)/\di (dU zs cs s) b none a (F s)/\(F s).length<=K)(hl:ss.length<=100):∀(n i:Nat)(acc:SL),i+n=ss.length->acc.length<=2500*i->
  ∃L,yl p a b ss (ss.length:Int) (i:Int) zs ps cs rr (zs.map tb) acc=some (.inr (acc++L))/\L.length<=lX F p (ss.drop i)/\L.length<=2500*n/\(∀u∈L,a<=u.1/\u.2<=b/\u.1<u.2)/\∀x,bz x L↔∃s∈ss.drop i,a<=x/\x<b/\dU zs cs s x=p
 |0,i,acc,hi,Hr=>by
  rw[SP];simp only[j2A];rw[al (by omega),j6,aW,jf (by omega)];exact⟨[],by simp,by simp,by simp,by simp,λx=>by simp[bz]⟩
 |n+1,i,acc,hi,Hr=>by
  have bF:i<ss.length:=by omega
  have bh:ss.getD i (ByteArray.empty,(([]:List cg),([]:List eU)))=ss[i]:=by simp[List.getD,bF]
  obtain⟨e,hS,lS⟩:=uZ _ (jh bF);obtain⟨T,e2,t1,t2,t3,t4⟩:=jtU hS ha hb (by omega) p;have eu:(iB p (F ss[i])).length<=(F ss[i]).length:=by unfold iB;rw[kb];exact qt _ _
  obtain⟨L,e3,l0,l1,l2,l3⟩:=Xu uZ hl n (i+1) (acc++T) (by omega) (by rw[ja];omega);rw[SP,jc bF];simp only[j2A,lX];rw[aj (show (i:Int)<(ss.length:Int) by omega),aX (show (0:Int)<=(i:Int) by omega) (by omega)];simp only[j5,j7,bh];rw[show j0N ((zs,(ps,(cs,rr))),zs.map tb) (ss[i].1,(ss[i].2.1,ss[i].2.2)) a b=_ from e];simp only[j3,show Int.ofNat (F ss[i]).length=((F ss[i]).length:Int) from rfl];rw[al (show¬((F ss[i]).length:Int)>16384 by omega),j6,e2];simp only[j3];rw[aj (show acc.length+T.length<=aR by simp[aR];omega),j5,ai (x:=(i:Int)+1) (by omega) (by omega),aJ];rw[show ((i+1:Nat):Int)=(i:Int)+1 by omega]at e3;refine⟨T++L,by rw[e3,jd],by rw[ja];omega,by rw[ja];omega,λu hu=>?_,λx=>?_⟩
  .rcases jn.1 hu with hu|hu
   .exact⟨(t4 u hu).1,(t4 u hu).2,(t1.mem u hu).2⟩
   .exact l2 u hu
  .rw[Ep,t2 x,l3 x];simp only[je,exists_eq_or_imp]
theorem jzJ{ss:List cA}(uZ:∀s∈ss,j0N ((zs,(ps,(cs,rr))),zs.map tb) s a b=some (F s)/\di (dU zs cs s) b none a (F s)/\(F s).length<=K)(hl:ss.length<=3)(hrr:rr=ss)(hd:lX F p ss<=3800) :
  ∃D,j5k ((zs,(ps,(cs,rr))),zs.map tb) p a b=some (D,0)/\bK (a-1) D/\(∀x,bz x D↔a<=x/\x<b/\onD zs cs ss p x)/\D.length<=lX F p ss/\∀u∈D,a<=u.1/\u.2<=b:=by
 subst hrr;obtain⟨L,e,l0,l1,l2,l3⟩:=Xu (rr:=rr) (p:=p) hK ha hb uZ (by omega) rr.length 0 [] (by omega) (by simp);rw[jl]at e;rw[jv]at l0;obtain⟨D,e3,h1,h2,h3,h4⟩:=Bl (l:=L) (by omega) (λu hu=>by have:=l2 u hu;omega) (lo:=a) (hi:=b) (λu hu _=>⟨(l2 u hu).1,(l2 u hu).2.1⟩);refine⟨D,?_,h1,λx=>?_,by omega,h4⟩
 .simp only[j5k,show Int.ofNat rr.length=(rr.length:Int) from rfl];rw[show yl p a b rr (rr.length:Int) 0 zs ps cs rr (zs.map tb) []=_ from e];simp only[j3,nV,e3,show Int.ofNat D.length=(D.length:Int) from rfl];rw[al (show¬(D.length:Int)>4096 by omega),j6]
 .rw[h2 x,l3 x,jv];constructor
  .rintro⟨s,g1,g2,g3,g4⟩;exact⟨g2,g3,s,g1,g4⟩
  .rintro⟨g2,g3,s,g1,g4⟩;exact⟨s,g1,g2,g3,g4⟩
end
section
variable{zs:List bY}{ps:List dB}{cs:List bf}(hs:eX zs ps cs)
include hs
theorem jxC{K:Nat}(hK:K<=2500){F:cA->aS}{ss:List cA}(hc:tP (zs,(ps,(cs,ss)))){a b:Int}(ha:0<=a)(bR:a<b)(hb:b<=8589934592)(hlen:b-a<=1209600)
  (uZ:∀s∈ss,j0N ((zs,(ps,(cs,ss))),zs.map tb) s a b=some (F s)/\di (dU zs cs s) b none a (F s)/\(F s).length<=K)(hl:ss.length<=3){p:Nat}(hp:p<ps.length)(hd:lX F (p:Int) ss<=3800)
  {L:bL}(eL:j39 (zs,(ps,(cs,ss))) a b=some (br ah L,0))(hI:ph (λj=>dU zs cs (ss.getD j (ByteArray.empty,([],[])))) ss.length a b ss.length (ss.length+1) L)(lL:L.length<=100000)
  (yY:4*lX F (p:Int) ss+211+(gE (p:Int) (br ah L)).length<=16384) :
  ∃V,j14 (zs,(ps,(cs,ss))) (p:Int) a b=some (V,0)/\V.Pairwise fk/\V.length<=4*lX F (p:Int) ss+211+(gE (p:Int) (br ah L)).length/\∀y∈V,y.2.1=(p:Int)/\oz y:=by
 obtain⟨D,eD,d1,d2,d3,d4⟩:=jzJ (p:=(p:Int)) hK ha hb uZ hl rfl hd;have EM:=rY (key:=ah) L;have EN:=rZ (key:=ah) L;have fv:ps.length<=32:=hc.pl;obtain⟨A,B,C,eV,hA,hB,hC⟩:=jzI hs hc hp ha bR hb hlen eD d1 (by omega) d4 eL
 have lA:A.length<=2*D.length+1/\∀t∈A,a<=t/\t<=b:=by
  rcases hA with⟨_,rfl⟩|⟨_,h⟩
  .simp
  .have:=h.len;refine⟨by split at this<;>omega,λt ht=>⟨Int.le_of_lt (h.ok t ht).1,(h.ok t ht).2.1⟩⟩
 have lB:B.length<=D.length/\∀t∈B,a<=t/\t<=b:=by
  rcases hB with⟨_,rfl⟩|⟨_,rfl⟩
  .simp
  .have:=jxB (k:=ps[p].2.2.2.2.1) (l:=D);refine⟨by omega,λt ht=>?_⟩;obtain⟨s,ia,rfl⟩:=jxA ht;have h1:=d4 s ia;have h2:=(d1.mem s ia).2;omega
 have lC:C.length<=D.length+210/\∀t∈C,a<=t/\t<=b:=by
  rcases hC with⟨_,rfl⟩|⟨_,W,Q,_,_,_,_,q1,q2,q3,rfl⟩
  .simp
  .refine⟨by rw[kb];omega,λt ht=>?_⟩;obtain⟨s,ia,rfl⟩:=ju.1 ht;have h2:=(q1.mem s ia);have:=(d2 s.1).1 ((q2 s.1).1 ⟨s,ia,by omega,by omega⟩).1;omega
 have bE:∀t∈gE (p:Int) (br ah L),a<=t/\t<=b:=λt ht=>by
  obtain⟨z,hz,rfl⟩:=ju.1 ht;obtain⟨i',k',g1,g2,g3,g4⟩:=hI.ok z (EM.mem_iff.1 (qq.1 hz).1);have:=g4.lo;have:=g4.lt;have:=g4.hi;omega
 obtain⟨V,e,v1,v2,v3⟩:=jBE (p:=(p:Int)) (by omega) (cl:=br ah L) (A:=A) (B:=B) (C:=C) (by omega) (by omega) (λt ht=>by
  rcases ht with h|h|h|h
  .have:=lA.2 t h;omega
  .have:=lB.2 t h;omega
  .have:=lC.2 t h;omega
  .have:=bE t h;omega)
 refine⟨V,eV.trans e,v1,by omega,λy hy=>?_⟩;have hy:=(v2 y).1 hy
 have key:∀k (X:List Int),0<=k->k<=3->(∀t∈X,a<=t/\t<=b)->y∈vK k (p:Int) X->y.2.1=(p:Int)/\oz y:=λk X k0 k1 hX h=>by
  obtain⟨u,hu,rfl⟩:=ju.1 h;have:=hX u hu;refine⟨rfl,?_⟩;unfold oz;dsimp only;omega
 simp only[jJ,jn]at hy;rcases hy with h|h|h|h
 .exact key 0 A (by omega) (by omega) lA.2 h
 .exact key 1 B (by omega) (by omega) lB.2 h
 .exact key 2 C (by omega) (by omega) lC.2 h
 .exact key 3 _ (by omega) (by omega) bE h
end
end Go.Proofs.Pw
