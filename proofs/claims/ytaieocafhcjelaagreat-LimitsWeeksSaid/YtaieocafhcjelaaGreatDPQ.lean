/- mJ.Violations. -/
import Derived.Test.YtaieocafhcjelaaGreatDPP
import Derived.Test.YtaieocafhcjelaaGreatDPK
open Go Go.Lft
namespace Go.Proofs.Pw
def iL(p:Int)(cl:bL):List Int:=(cl.filter λz=>z.1==p).map (·.2.2.2.1)
theorem jxp(p:Int)(z:lT)(r:bL):iL p (z::r)=cond (z.1==p) (z.2.2.2.1::iL p r) (iL p r):=by
 unfold iL;cases h:(z.1==p)<;>simp[h]
theorem Xg(p:Int)(cl:bL):(iL p cl).length<=cl.length:=by
 unfold iL;rw[kn];exact List.length_filter_le _ _
theorem Oo{p:Int}{A B C:List Int}{cl:bL}(hl:cl.length<=1000000):∀(n j:Nat)(acc:List Int),j+n=cl.length->acc.length<=j->
  my p (cl.length:Int) (j:Int) cl A B C acc=some (p,A,B,C,acc++iL p (cl.drop j))
 |0,j,acc,hj,_=>by
  rw[SU];simp only[j3p];rw[ak (by omega),j6,aW,jf (by omega)];simp[iL]
 |n+1,j,acc,hj,ha=>by
  have ez:j<cl.length:=by omega
  have bf:cl.getD j ((0:Int),((0:Int),((0:Int),((0:Int),(0:Int)))))=cl[j]:=by simp[List.getD,ez]
  rw[SU,jc ez,jxp];simp only[j3p];rw[aj (show (j:Int)<(cl.length:Int) by omega),aU (by omega) (by omega)];simp only[j5,j7,bf];rw[ah (x:=(j:Int)+1) (by omega) (by omega)];cases hq:(cl[j].1==p) with
  |true=>have ih:=Oo (p:=p) (A:=A) (B:=B) (C:=C) hl n (j+1) (acc++[cl[j].2.2.2.1]) (by omega) (by simp;omega);rw[show ((j+1:Nat):Int)=(j:Int)+1 by omega]at ih;rw[j5,j5,aj (by simp[aS];omega),j5,aF,ih,jd];rfl
  |false=>have ih:=Oo (p:=p) (A:=A) (B:=B) (C:=C) hl n (j+1) acc (by omega) (by omega);rw[show ((j+1:Nat):Int)=(j:Int)+1 by omega]at ih;rw[j6,j6,aF,ih]
def vK(k p:Int)(L:List Int):aX:=L.map λt=>(k,(p,t))
theorem Xh{p k:Int}{F:List (List Int)}{i:Int}{L:List Int}(hl:L.length<=1000000):∀(n j:Nat)(acc:aX),j+n=L.length->acc.length<=10000000+j->
  rR p k F i L (L.length:Int) (j:Int) acc=some (p,F,i,acc++vK k p (L.drop j))
 |0,j,acc,hj,_=>by
  rw[SV];simp only[j3q];rw[ak (by omega),j6,aW,jf (by omega)];simp[vK]
 |n+1,j,acc,hj,ha=>by
  have ez:j<L.length:=by omega
  have bf:L.getD j (0:Int)=L[j]:=by simp[List.getD,ez]
  have ih:=Xh (p:=p) (k:=k) (F:=F) (i:=i) hl n (j+1) (acc++[(k,(p,L[j]))]) (by omega) (by simp;omega);rw[show ((j+1:Nat):Int)=(j:Int)+1 by omega]at ih;rw[SV,jc ez];simp only[j3q];rw[aj (show (j:Int)<(L.length:Int) by omega),aU (by omega) (by omega)];simp only[j5,j7,bf];rw[ah (x:=(j:Int)+1) (by omega) (by omega),aj (by simp[aS];omega),j5,aF,ih,jd];rfl
def gT(p:Int)(A B C E:List Int):aX:=vK 0 p A++(vK 1 p B++(vK 2 p C++vK 3 p E))
theorem jBl{p:Int}{A B C E:List Int}(hA:A.length<=1000000)(hB:B.length<=1000000)(hC:C.length<=1000000)(hE:E.length<=1000000) :
  nf p [A,B,C,E] 0 []=some (gT p A B C E):=by
 have q:=λ(k:Int)(L:List Int)(hL:L.length<=1000000)(acc:aX)(fc:acc.length<=10000000)=>Xh (p:=p) (k:=k) (F:=[A,B,C,E]) (i:=k) hL L.length 0 acc (by omega) (by omega);have lv:∀k (L:List Int),(vK k p L).length=L.length:=λk L=>by simp[vK]
 have q0:=q 0 A hA [] (by simp);have q1:=q 1 B hB (vK 0 p A) (by rw[lv];omega);have q2:=q 2 C hC (vK 0 p A++vK 1 p B) (by rw[ja,lv,lv];omega);have q3:=q 3 E hE (vK 0 p A++vK 1 p B++vK 2 p C) (by rw[ja,ja,lv,lv,lv];omega);simp only[jw,jm]at q0 q1 q2 q3;rw[Dn];simp only[j0S];rw[aj (show (0:Int)<4 by omega),aU (show (0:Int)<=0 by omega) (by omega)];simp only[j5,Int.toNat_zero,List.getD_cons_zero,show Int.ofNat A.length=(A.length:Int) from rfl];rw[show rR p 0 [A,B,C,E] 0 A (A.length:Int) 0 []=_ from q0];simp only[j3];rw[ah (x:=(0:Int)+1) (by omega) (by omega),aF,show (0:Int)+1=1 by omega,Dn];simp only[j0S];rw[aj (show (1:Int)<4 by omega),aU (show (0:Int)<=1 by omega) (by omega)];simp only[j5,show (1:Int).toNat=1 from rfl,List.getD_cons_succ,List.getD_cons_zero,show Int.ofNat B.length=(B.length:Int) from rfl];rw[show rR p 1 [A,B,C,E] 1 B (B.length:Int) 0 (vK 0 p A)=_ from q1];simp only[j3];rw[ah (x:=(1:Int)+1) (by omega) (by omega),aF,show (1:Int)+1=2 by omega,Dn];simp only[j0S];rw[aj (show (2:Int)<4 by omega),aU (show (0:Int)<=2 by omega) (by omega)];simp only[j5,show (2:Int).toNat=2 from rfl,List.getD_cons_succ,List.getD_cons_zero,show Int.ofNat C.length=(C.length:Int) from rfl];rw[show rR p 2 [A,B,C,E] 2 C (C.length:Int) 0 (vK 0 p A++vK 1 p B)=_ from q2];simp only[j3];rw[ah (x:=(2:Int)+1) (by omega) (by omega),aF,show (2:Int)+1=3 by omega,Dn];simp only[j0S];rw[aj (show (3:Int)<4 by omega),aU (show (0:Int)<=3 by omega) (by omega)]
 simp only[j5,show (3:Int).toNat=3 from rfl,List.getD_cons_succ,List.getD_cons_zero,show Int.ofNat E.length=(E.length:Int) from rfl];rw[show rR p 3 [A,B,C,E] 3 E (E.length:Int) 0 (vK 0 p A++vK 1 p B++vK 2 p C)=_ from q3];simp only[j3];rw[ah (x:=(3:Int)+1) (by omega) (by omega),aF,show (3:Int)+1=4 by omega,Dn];simp only[j0S];rw[ak (by omega),j6,aW];simp only[gT,jd]
noncomputable def Oq(p:Int)(cl:bL)(A B C:List Int):Option (aX×Int):=
 (my p (Int.ofNat (List.length cl)) (0:Int) cl A B C ([]:(List Int))).bind λq0=>
 (nf q0.1 [q0.2.1,q0.2.2.1,q0.2.2.2.1,q0.2.2.2.2] (0:Int) ([]:aX)).bind λq2=>
 (j04 q2).bind λOt=>
 (j06 Ot).bind λtU=>
 cond (decide (Int.ofNat (List.length (List.take (Int.toNat tU.1) tU.2))>(16384:Int))) (
 some (([]:aX),(5:Int))) (
 some (List.take (Int.toNat tU.1) tU.2,(0:Int)))
theorem jBm{p:Int}(hp:0<=p/\p<=1000){cl:bL}{A B C:List Int}(hl:A.length+B.length+C.length+(iL p cl).length<=16384)(fj:cl.length<=1000000)
  (hb:∀t,t∈A\/t∈B\/t∈C\/t∈iL p cl -> -1000000000000<=t/\t<=1000000000000) :
  ∃V,Oq p cl A B C=some (V,0)/\V.Pairwise jE/\(∀x,x∈V↔x∈gT p A B C (iL p cl))/\V.length<=A.length+B.length+C.length+(iL p cl).length:=by
 have e0:=Oo (p:=p) (A:=A) (B:=B) (C:=C) fj cl.length 0 [] (by omega) (by simp);rw[jm,jw]at e0;have e2:=jBl (p:=p) (A:=A) (B:=B) (C:=C) (E:=iL p cl) (by omega) (by omega) (by omega) (by omega);have lv:∀k (L:List Int),(vK k p L).length=L.length:=λk L=>by simp[vK]
 have sF:(gT p A B C (iL p cl)).length=A.length+B.length+C.length+(iL p cl).length:=by simp only[gT,ja,lv];omega
 have gY:∀x∈gT p A B C (iL p cl),Br x:=λx hx=>by
  have key:∀k (L:List Int),0<=k->k<=3->x∈vK k p L->(∀t∈L, -1000000000000<=t/\t<=1000000000000)->Br x:=λk L k0 k1 h hL=>by
   obtain⟨t,ht,rfl⟩:=jt.1 h;have:=hL t ht;unfold Br;dsimp only;omega
  simp only[gT,jn]at hx;rcases hx with h|h|h|h
  .exact key 0 A (by omega) (by omega) h λt ht=>hb t (.inl ht)
  .exact key 1 B (by omega) (by omega) h λt ht=>hb t (.inr (.inl ht))
  .exact key 2 C (by omega) (by omega) h λt ht=>hb t (.inr (.inr (.inl ht)))
  .exact key 3 _ (by omega) (by omega) h λt ht=>hb t (.inr (.inr (.inr ht)))
 obtain⟨L,e3,p3,s3⟩:=jxo (l:=gT p A B C (iL p cl)) (by omega) gY;have hLl:=p3.length_eq;obtain⟨n,m,e4,h4⟩:=jrT (l:=L) (by omega);have hcl4:=jzs L;refine⟨ot L,?_,jzr s3,λx=>(jzq x).trans p3.mem_iff,by omega⟩;unfold Oq;rw[show my p (Int.ofNat (List.length cl)) 0 cl A B C []=_ from e0];simp only[j3];rw[e2];simp only[j3,e3,e4,h4,show Int.ofNat (ot L).length=((ot L).length:Int) from rfl];rw[ak (show¬((ot L).length:Int)>16384 by omega),j6]
def fA(m:Int)(D:SL)(a b:Int)(A:List Int):Prop:=m=0/\A=[]\/m≠0/\Of D m a b (4*D.length+1) A
def fB(r:Int)(D:SL)(B:List Int):Prop:=r=0/\B=[]\/r≠0/\B=oq r D
def fC(c:Bool)(z:Int×bR)(w:WL)(D:SL)(a b:Int)(C:List Int):Prop:=c=true/\C=[]\/c=false/\∃W Q,j2u z w a b=some W/\bB (a-1) W/\(∀u∈W,a<=u.1/\u.2<=b)/\
 j4o D W=some Q/\bB (a-1) Q/\(∀x,br x Q↔br x D/\br x W)/\Q.length<=D.length+210/\C=Q.map (·.1)
theorem Ou{n:Int}(h:j5k n=some true):0<=n/\n<=604800:=by
 simp only[j5k,j7y]at h;by_cases h1:n<0
 .exfalso;revert h;rw[ak (show¬(0:Int)<=n by omega)]<;>simp
 .by_cases h2:n>604800
  .exfalso;revert h;rw[ak (show¬n<=(604800:Int) by omega)]<;>simp
  .omega
section
variable{zs:List cg}{ps:List dP}{cs:List bk}(hs:fe zs ps cs)
include hs
theorem jzu{ss:List cM}(hc:tK (zs,(ps,(cs,ss)))){p:Nat}(hp:p<ps.length){a b:Int}(ha:0<=a)(bz:a<b)(hb:b<=8589934592)(hlen:b-a<=1209600){D:SL}
  (eD:j4B ((zs,(ps,(cs,ss))),zs.map tb) (p:Int) a b=some (D,0))(hD:bB (a-1) D)(lD:D.length<=3800)(bD:∀u∈D,a<=u.1/\u.2<=b)
  {cl:bL}(eC:j39 (zs,(ps,(cs,ss))) a b=some (cl,0)) :
  ∃A B C,j2l (zs,(ps,(cs,ss))) (p:Int) a b=Oq (p:Int) cl A B C/\fA ps[p].2.2.2.1 D a b A/\fB ps[p].2.2.2.2.1 D B/\fC ps[p].2.2.2.2.2 (tb (aH zs ps[p].2.1)) ps[p].2.2.1 D a b C:=by
 have om:=hc.pc ps[p] (jg hp);have hz:ni (aH zs ps[p].2.1):=jA hs.so.ok om.z0 om.z1;have bf:ps.getD p (ByteArray.empty,((0:Int),(([]:List (Int×Int)),((0:Int),((0:Int),false)))))=ps[p]:=by simp[List.getD,hp]
 have hm:=Ou om.m;have hr:=Ou om.r
 have kW:Sml D:=λs hq=>by
  have h1:=bD s hq;have h2:=(hD.mem s hq).2;omega
 obtain⟨A,eA,hA⟩:=jxl (l:=D) (by omega) (λs hq=>by have:=bD s hq;omega) hD hm.1 hm.2 ha bz hb;have eB:=jxm (l:=D) (by omega) kW ps[p].2.2.2.2.1;have gZ:(tb (aH zs ps[p].2.1)).2.length<=4:=GZ hz;obtain⟨W,eW,w1,w2,w3,_⟩:=Vb hz.ztab.2 (qg gZ (by omega)) om.w om.wl (M:=2) (by omega) ha (vm bz) hb (by omega);have wlen:W.length<=210:=by have:ps[p].2.2.1.length*(2+1)*((tb (aH zs ps[p].2.1)).2.length+1)<=14*(2+1)*(4+1):=z6 (jv _ om.wl) (by omega);omega
 obtain⟨Q,eQ,q1,q2,q3⟩:=Vd hD w1 (by omega) (by omega);have eG:=jw8 (l:=Q) (by omega);simp only[j2l];rw[show j5I (zs,ps,cs,ss) (p:Int) a b=_ from Xb hs hc hp ha (vm bz) hb (by omega)];simp only[j3,jp,j6];rw[eD];simp only[j3,jp,j6];rw[show j39 (zs,ps,cs,ss) a b=_ from eC];simp only[j3,jp,j6];rw[aU (by omega) (by omega)];simp only[j5,j7,bf];have tq:j3o ((zs,ps,cs,ss),zs.map tb) ps[p].2.1=_:=NM om.z0 om.z1;have tV:ps[p].2.2.2.2.2=false->fC ps[p].2.2.2.2.2 (tb (aH zs ps[p].2.1)) ps[p].2.2.1 D a b (Q.map (·.1)):=λh=> .inr ⟨h,W,Q,eW,w1,w2,eQ,q1,q2,by omega,rfl⟩;have tW:ps[p].2.2.2.2.2=true->fC ps[p].2.2.2.2.2 (tb (aH zs ps[p].2.1)) ps[p].2.2.1 D a b []:=λh=> .inl ⟨h,rfl⟩;have Hm:j2u ((tb (aH zs ps[p].2.1)).1,(tb (aH zs ps[p].2.1)).2) ps[p].2.2.1 a b=some W:=eW;by_cases gj:ps[p].2.2.2.1=0
 .rw[show (ps[p].2.2.2.1 != (0:Int))=false by rw[gj];rfl];simp only[j6];by_cases ou:ps[p].2.2.2.2.1=0
  .rw[show (ps[p].2.2.2.2.1 != (0:Int))=false by rw[ou];rfl];simp only[j6];cases cT:ps[p].2.2.2.2.2 with
   |false=>simp only[jy,j5,tq,j3,Hm,eQ];rw[ak (show¬Int.ofNat Q.length>4096 by show¬(Q.length:Int)>4096;omega)];simp only[j6,eG,j3];exact⟨[],[],Q.map (·.1),rfl,.inl ⟨gj,rfl⟩,.inl ⟨ou,rfl⟩,cT▸tV cT⟩
   |true=>simp only[jr,j6];exact⟨[],[],[],rfl,.inl ⟨gj,rfl⟩,.inl ⟨ou,rfl⟩,cT▸tW cT⟩
  .rw[show (ps[p].2.2.2.2.1 != (0:Int))=true from bne_iff_ne.2 ou];simp only[j5,eB,j3];cases cT:ps[p].2.2.2.2.2 with
   |false=>simp only[jy,j5,tq,j3,Hm,eQ];rw[ak (show¬Int.ofNat Q.length>4096 by show¬(Q.length:Int)>4096;omega)];simp only[j6,eG,j3];exact⟨[],_,Q.map (·.1),rfl,.inl ⟨gj,rfl⟩,.inr ⟨ou,rfl⟩,cT▸tV cT⟩
   |true=>simp only[jr,j6];exact⟨[],_,[],rfl,.inl ⟨gj,rfl⟩,.inr ⟨ou,rfl⟩,cT▸tW cT⟩
 .rw[show (ps[p].2.2.2.1 != (0:Int))=true from bne_iff_ne.2 gj];simp only[j5,eA,j3];by_cases ou:ps[p].2.2.2.2.1=0
  .rw[show (ps[p].2.2.2.2.1 != (0:Int))=false by rw[ou];rfl];simp only[j6];cases cT:ps[p].2.2.2.2.2 with
   |false=>simp only[jy,j5,tq,j3,Hm,eQ];rw[ak (show¬Int.ofNat Q.length>4096 by show¬(Q.length:Int)>4096;omega)];simp only[j6,eG,j3];exact⟨A,[],Q.map (·.1),rfl,.inr ⟨gj,hA⟩,.inl ⟨ou,rfl⟩,cT▸tV cT⟩
   |true=>simp only[jr,j6];exact⟨A,[],[],rfl,.inr ⟨gj,hA⟩,.inl ⟨ou,rfl⟩,cT▸tW cT⟩
  .rw[show (ps[p].2.2.2.2.1 != (0:Int))=true from bne_iff_ne.2 ou];simp only[j5,eB,j3];cases cT:ps[p].2.2.2.2.2 with
   |false=>simp only[jy,j5,tq,j3,Hm,eQ];rw[ak (show¬Int.ofNat Q.length>4096 by show¬(Q.length:Int)>4096;omega)];simp only[j6,eG,j3];exact⟨A,_,Q.map (·.1),rfl,.inr ⟨gj,hA⟩,.inr ⟨ou,rfl⟩,cT▸tV cT⟩
   |true=>simp only[jr,j6];exact⟨A,_,[],rfl,.inr ⟨gj,hA⟩,.inr ⟨ou,rfl⟩,cT▸tW cT⟩
end
theorem Xi{l:SL}(hl:l.length<=100000)(hb:∀s∈l,0<=s.1/\s.2<=8589934592){p:Int}(hS:bB p l):∀(n i:Nat),i+n=l.length->Dr l l (l.length:Int) (i:Int)=some (.inr ())
 |0,i,hi=>by
  rw[Tc];simp only[j6g];rw[ak (by omega),j6,aW]
 |n+1,i,hi=>by
  have an:i<l.length:=by omega
  have bf:l.getD i ((0:Int),(0:Int))=l[i]:=by simp[List.getD,an]
  have h1:=hb _ (jg an);have h2:=(hS.mem _ (jg an)).2;have ih:=Xi hl hb hS n (i+1) (by omega);rw[show ((i+1:Nat):Int)=(i:Int)+1 by omega]at ih;rw[Tc];simp only[j6g];rw[aj (show (i:Int)<(l.length:Int) by omega),aU (show (0:Int)<=(i:Int) by omega) (by omega)];simp only[j5,j7,bf];rw[ak (show¬l[i].1<0 by omega),ak (show¬l[i].1>=l[i].2 by omega),ak (show¬l[i].2>8589934592 by omega),ah (x:=(i:Int)+1) (by omega) (by omega)];simp only[j6];cases i with
  |zero=>rw[ak (show¬((0:Nat):Int)>0 by omega),j6,aF];exact ih
  |succ k=>
   have hk:k<l.length:=by omega
   have zP:l.getD k ((0:Int),(0:Int))=l[k]:=by simp[List.getD,hk]
   have gap:l[k].2<l[k+1].1:=by
    have key:∀(l:SL)(p:Int),bB p l->∀k (h:k+1<l.length),l[k].2<l[k+1].1:=by
     intro l;induction l with
     |nil=>intro p _ k h;simp at h
     |cons s r ihr=>
      intro p hS k h;cases k with
      |zero=>
       match r,hS,h with
       |u::r,hS,_=>exact hS.2.2.1
      |succ k=>exact ihr s.2 hS.2.2 k (by simpa using h)
    exact key l p hS k an
   rw[aj (show ((k+1:Nat):Int)>0 by omega),j5,ah (x:=((k+1:Nat):Int)-1) (by omega) (by omega),show ((k+1:Nat):Int)-1=(k:Int) by omega,aU (show (0:Int)<=(k:Int) by omega) (by omega)];simp only[j5,j7,zP];rw[ak (show¬l[k+1].1<=l[k].2 by omega),j6,aF];exact ih
theorem jwd{l:SL}(hl:l.length<=4096)(hb:∀s∈l,0<=s.1/\s.2<=8589934592){p:Int}(hS:bB p l):jh4 l=some true:=by
 have e:=Xi (by omega) hb hS l.length 0 (by omega);simp only[jh4,show Int.ofNat l.length=(l.length:Int) from rfl];rw[ak (show¬(l.length:Int)>4096 by omega),j6,show Dr l l (l.length:Int) 0=_ from e];rfl
theorem Ov{l:SL}(hl:l.length<=4096)(hb:∀s∈l,0<=s.1/\s.2<=8589934592){p:Int}(hS:bB p l){t:Int}(h0:0<=t)(h1:t<=8589934592):j3x l t=some (cZ t l):=by
 have kW:Sml l:=λs hs=>by
  have h1:=hb s hs;have h2:=(hS.mem s hs).2;omega
 simp only[j3x,jwd hl hb hS,j3,jr,j6];rw[if_neg (show¬(-1:Int)>t by omega),if_neg (show¬(17179869184:Int)<t by omega),Oe (by omega) (by omega) (by omega) kW hS];rfl
def o9:aX->Int
 |[]=>0
 |x::r=>(if x.1=0 then 1 else 0)+o9 r
theorem Xj:∀V:aX,0<=o9 V
 |[]=>by simp[o9]
 |x::r=>by have:=Xj r;simp only[o9];split<;>omega
theorem Xk:∀{V:aX}{x:eX},x∈V->x.1=0->0<o9 V
 |y::r,x,h,hx=>by
  have:=Xj r;simp only[o9];rcases je.1 h with rfl|h
  .rw[if_pos hx];omega
  .have:=Xk h hx;split<;>omega
theorem Ow{n p a b m:Int}{D:SL}(gj:0<=m)(fF:m<=604800)(hl:D.length<=4096)(hb:∀s∈D,0<=s.1/\s.2<=8589934592){q:Int}(hS:bB q D){V:aX}(hV:V.length<=1000000)(hP:V.Pairwise jE)(hp:∀x∈V,x.2.1=p)
  (hw:∀x∈V,x.1=0->m≠0/\1<=x.2.2/\x.2.2<=8589934592/\cZ x.2.2 D=m+1/\cZ (x.2.2-1) D=m):∀(d j:Nat)(c:Int),j+d=V.length->0<=c->c<=j->
  Ds n p a b m c (V.length:Int) (j:Int) V D=some (.inr (n,a,b,m,c+o9 (V.drop j),D))
 |0,j,c,hj,_,_=>by
  rw[Td];simp only[j3s];rw[ak (by omega),j6,aW,jf (by omega)];simp[o9]
 |d+1,j,c,hj,c0,c1=>by
  have ez:j<V.length:=by omega
  have bf:V.getD j ((0:Int),((0:Int),(0:Int)))=V[j]:=by simp[List.getD,ez]
  have hpj:=hp _ (jg ez);have an:decide ((j:Int)<(V.length:Int))=true:=aj (by omega);have mw:inR (j:Int) V.length=true:=aU (by omega) (by omega);have aZ:(V[j].2.1 != p)=false:=by rw[hpj];exact jp _
  have Fa:w64 ((j:Int)+1)=(j:Int)+1:=ah (by omega) (by omega);rw[Td,jc ez];simp only[j3s,an,mw,j5,j7,bf,aZ,j6,Fa,Bool.true_or,o9]
  have Ez:j=0\/∃j':Nat,j=j'+1/\∃h':j'<V.length,V[j'].2.2<V[j].2.2\/V[j'].2.2=V[j].2.2/\V[j'].1<V[j].1:=by
   cases j with
   |zero=>exact .inl rfl
   |succ j'=>
    have h':j'<V.length:=by omega
    have:=kx.1 hP j' (j'+1) h' ez (by omega);have uq:=hp _ (jg h');unfold jE at this;exact .inr ⟨j',rfl,h',by omega⟩
  by_cases hk:V[j].1=0
  .obtain⟨g1,g2,g3,g4,g5⟩:=hw _ (jg ez) hk;have ih:=Ow (n:=n) (a:=a) (b:=b) gj fF hl hb hS hV hP hp hw d (j+1) (c+1) (by omega) (by omega) (by omega);rw[show ((j+1:Nat):Int)=(j:Int)+1 by omega]at ih;have k1:(V[j].1==(0:Int))=true:=dT hk;have k2:(m==(0:Int))=false:=cJ g1;have w1:=Ov hl hb hS (t:=V[j].2.2) (by omega) (by omega);have w2:=Ov hl hb hS (t:=V[j].2.2-1) (by omega) (by omega);rw[g4]at w1;rw[g5]at w2;have w3:w64 (V[j].2.2-1)=V[j].2.2-1:=ah (by omega) (by omega);have w4:w64 (m+1)=m+1:=ah (by omega) (by omega);have w5:w64 (c+1)=c+1:=ah (by omega) (by omega);simp only[k1,k2,j5,j6,w1,j3,w3,w4,w5,w2,jp];rw[if_pos hk,show c+(1+o9 (V.drop (j+1)))=c+1+o9 (V.drop (j+1)) by omega];rcases Ez with rfl|⟨j',rfl,h',ho⟩
   .rw[ak (show¬((0:Nat):Int)>0 by omega),j6,aF];exact ih
   .have yQ:V.getD j' ((0:Int),((0:Int),(0:Int)))=V[j']:=by simp[List.getD,h']
    rw[aj (show ((j'+1:Nat):Int)>0 by omega),j5,ah (x:=((j'+1:Nat):Int)-1) (by omega) (by omega),show ((j'+1:Nat):Int)-1=(j':Int) by omega,aU (show (0:Int)<=(j':Int) by omega) (by omega)];simp only[j5,j7,yQ];rcases ho with ho|⟨ho,hx⟩
    .rw[ak (show¬V[j'+1].2.2<V[j'].2.2 by omega),j6,cJ (show V[j'+1].2.2≠V[j'].2.2 by omega),j6,aF];exact ih
    .rw[ak (show¬V[j'+1].2.2<V[j'].2.2 by omega),j6,dT ho.symm,j5,ak (show¬V[j'+1].1<=V[j'].1 by omega),j6,aF];exact ih
  .have ih:=Ow (n:=n) (a:=a) (b:=b) gj fF hl hb hS hV hP hp hw d (j+1) c (by omega) (by omega) (by omega);rw[show ((j+1:Nat):Int)=(j:Int)+1 by omega]at ih;have k1:(V[j].1==(0:Int))=false:=cJ hk;simp only[k1,j6];rw[if_neg hk,Int.zero_add];rcases Ez with rfl|⟨j',rfl,h',ho⟩
   .rw[ak (show¬((0:Nat):Int)>0 by omega),j6,aF];exact ih
   .have yQ:V.getD j' ((0:Int),((0:Int),(0:Int)))=V[j']:=by simp[List.getD,h']
    rw[aj (show ((j'+1:Nat):Int)>0 by omega),j5,ah (x:=((j'+1:Nat):Int)-1) (by omega) (by omega),show ((j'+1:Nat):Int)-1=(j':Int) by omega,aU (show (0:Int)<=(j':Int) by omega) (by omega)];simp only[j5,j7,yQ];rcases ho with ho|⟨ho,hx⟩
    .rw[ak (show¬V[j'+1].2.2<V[j'].2.2 by omega),j6,cJ (show V[j'+1].2.2≠V[j'].2.2 by omega),j6,aF];exact ih
    .rw[ak (show¬V[j'+1].2.2<V[j'].2.2 by omega),j6,dT ho.symm,j5,ak (show¬V[j'+1].1<=V[j'].1 by omega),j6,aF];exact ih
theorem Ox{k:Int}:∀{l:SL}{p x:Int},x∈rj k p l->∃s∈l,s.1=x
 |s::r,p,x,h=>by
  simp only[rj]at h;split at h
  .rcases je.1 h with rfl|h
   .exact⟨s,by simp,rfl⟩
   .obtain⟨u,hu,e⟩:=Ox h;exact⟨u,by simp[hu],e⟩
  .obtain⟨u,hu,e⟩:=Ox h;exact⟨u,by simp[hu],e⟩
theorem jxq{k:Int}{l:SL}{x:Int}(h:x∈oq k l):∃s∈l,s.1=x:=by
 match l,h with
 |s::r,h=>obtain⟨u,hu,e⟩:=Ox h;exact⟨u,by simp[hu],e⟩
theorem Xl{k:Int}{l:SL}:(oq k l).length<=l.length:=by
 match l with
 |[]=>simp[oq]
 |s::r=>have:=W7 k r s.2;simp only[oq,jl];omega
section
variable{zs:List cg}{ps:List dP}{cs:List bk}(hs:fe zs ps cs)
include hs
theorem jxr{ss:List cM}(hc:tK (zs,(ps,(cs,ss))))(kR:∀s∈ss,s.2.1.length<=3/\s.2.2.length<=6)(hl:ss.length<=2)(eY:ps.length<=1000){p:Nat}(hp:p<ps.length){a b:Int}(ha:0<=a)(bz:a<b)(hb:b<=8589934592)(hlen:b-a<=1209600) :
  ∃V D A B C L,j2l (zs,(ps,(cs,ss))) (p:Int) a b=some (V,0)/\j4D (zs,(ps,(cs,ss))) (p:Int) a b=some (D,0)/\bB (a-1) D/\(∀x,br x D↔a<=x/\x<b/\Xa zs cs ss p x)/\D.length<=2500/\(∀u∈D,a<=u.1/\u.2<=b)/\
   fA ps[p].2.2.2.1 D a b A/\fB ps[p].2.2.2.2.1 D B/\fC ps[p].2.2.2.2.2 (tb (aH zs ps[p].2.1)) ps[p].2.2.1 D a b C/\
   j39 (zs,(ps,(cs,ss))) a b=some (bK ai L,0)/\o5 (λj=>gy zs cs (ss.getD j (ByteArray.empty,([],[])))) ss.length a b ss.length (ss.length+1) L/\L.length<=5000/\
   V.Pairwise jE/\(∀x,x∈V↔x∈gT p A B C (iL p (bK ai L)))/\V.length<=A.length+B.length+C.length+(iL p (bK ai L)).length/\0<=ps[p].2.2.2.1/\ps[p].2.2.2.1<=604800:=by
 obtain⟨D,eD,d1,d2,d3,d4⟩:=jtL hs (ss:=ss) (p:=(p:Int)) (λs h=>⟨hc.sc s h,kR s h⟩) (by omega) ha bz hb hlen rfl;obtain⟨L,eL,hI,lL⟩:=jtK hs hc kR (by omega) ha bz hb hlen;have om:=hc.pc ps[p] (jg hp);have hm:=Ou om.m
 have Ew:tS ss.length<=1:=by
  have:ss.length=0\/ss.length=1\/ss.length=2:=by omega
  rcases this with h|h|h<;>rw[h]<;>decide
 have EA:=rW (key:=ai) L;have EB:=rV (key:=ai) L;obtain⟨A,B,C,eV,hA,hB,hC⟩:=jzu hs hc hp ha bz hb hlen eD d1 (by omega) d4 eL
 have lA:A.length<=5001/\∀t∈A,a<t/\t<=b:=by
  rcases hA with⟨_,rfl⟩|⟨_,h⟩
  .simp
  .have:=h.len;refine⟨by split at this<;>omega,λt ht=>⟨(h.ok t ht).1,(h.ok t ht).2.1⟩⟩
 have lB:B.length<=2500/\∀t∈B,a<=t/\t<=b:=by
  rcases hB with⟨_,rfl⟩|⟨_,rfl⟩
  .simp
  .have:=Xl (k:=ps[p].2.2.2.2.1) (l:=D);refine⟨by omega,λt ht=>?_⟩;obtain⟨s,gY,rfl⟩:=jxq ht;have h1:=d4 s gY;have h2:=(d1.mem s gY).2;omega
 have lC:C.length<=2710/\∀t∈C,a<=t/\t<=b:=by
  rcases hC with⟨_,rfl⟩|⟨_,W,Q,_,_,_,_,q1,q2,q3,rfl⟩
  .simp
  .refine⟨by rw[kn];omega,λt ht=>?_⟩;obtain⟨s,gY,rfl⟩:=jt.1 ht;have h2:=(q1.mem s gY);have:=(d2 s.1).1 ((q2 s.1).1 ⟨s,gY,by omega,by omega⟩).1;omega
 have lE:=Xg (p:Int) (bK ai L)
 have bE:∀t∈iL (p:Int) (bK ai L),a<=t/\t<=b:=λt ht=>by
  obtain⟨z,hz,rfl⟩:=jt.1 ht;obtain⟨i',k',g1,g2,g3,g4⟩:=hI.ok z (EB.mem_iff.1 (qq.1 hz).1);have:=g4.lo;have:=g4.lt;have:=g4.hi;omega
 obtain⟨V,e,v1,v2,v3⟩:=jBm (p:=(p:Int)) (by omega) (cl:=bK ai L) (A:=A) (B:=B) (C:=C) (by omega) (by omega) (λt ht=>by
  rcases ht with h|h|h|h
  .have:=lA.2 t h;omega
  .have:=lB.2 t h;omega
  .have:=lC.2 t h;omega
  .have:=bE t h;omega)
 exact⟨V,D,A,B,C,L,eV.trans e,jwa hs hc (λs h=>⟨hc.sc s h,kR s h⟩) (by omega) hp ha bz hb eD hlen,d1,d2,by omega,d4,hA,hB,hC,eL,hI,by omega,v1,v2,v3,hm.1,hm.2⟩
end
theorem jkP(t:List Int)(_h:Wf (.list (.int .i64)) t)(n:Int)(_h1:Wf (.int .i64) n):jb2 t n=some true:=by
 simp only[jb2,jjK,j3,show Int.ofNat (List.length t)=(t.length:Int) from rfl];by_cases hl:(t.length:Int)<=500
 .rw[aj hl];simp only[jr,j6,jlR,j3];obtain⟨zs,ps,cs,ss,a1,e1,hs,g0,g1,g2,g3,d1⟩:=jtD (L:=t) (a:=0) (n:=2) ⟨by omega,by omega,by omega⟩ (by omega) (by omega);have hc:=jz3 hs (ss:=ss) (by omega) (by rw[g2];exact jz2.take _) (λs h=>(g3 s h).ck);have eY:ps.length<=32:=hc.pl;have sO:=hs.so.p0;obtain⟨p,a2,e2,p0,p1,d2⟩:=cH (n:=(ps.length:Int)) d1 (by omega) (by omega);obtain⟨x,a3,e3,x0,x1,d3⟩:=Uv d2;obtain⟨i,rfl⟩:∃i:Nat,p=i:=⟨p.toNat,by omega⟩;have hi:i<ps.length:=by omega
  have bf:ps.getD i (ByteArray.empty,((0:Int),(([]:List (Int×Int)),((0:Int),((0:Int),false)))))=ps[i]:=by simp[List.getD,hi]
  obtain⟨V,D,A,B,C,L,eV,eD,Hn,d2',d3',d4',hA,hB,hC,eL,hI,lL,v1,v2,v3,m0,m1⟩:=jxr hs hc (λs h=>⟨(g3 s h).ll,by have:=(g3 s h).el;omega⟩) (by omega) (by omega) hi (a:=x) (b:=x+1036800) (by omega) (by omega) (by omega) (by omega);have Xm:∀s∈D,0<=s.1/\s.2<=8589934592:=λs h=>by have:=d4' s h;omega
  have Xn:∀y∈V,y.2.1=(i:Int)/\(y.1=0->y.2.2∈A):=λy hy=>by
   have hy:=(v2 y).1 hy;simp only[gT,jn]at hy;rcases hy with h|h|h|h
   all_goals
    obtain⟨u,hu,rfl⟩:=jt.1 h;refine⟨rfl,λh0=>?_⟩
    first
     |exact hu
     |(exfalso;simp at h0)
  have lA:A.length<=5001:=by
   rcases hA with⟨_,rfl⟩|⟨_,h⟩
   .simp
   .have:=h.len;split at this<;>omega
  have lB:B.length<=2500:=by
   rcases hB with⟨_,rfl⟩|⟨_,rfl⟩
   .simp
   .have:=Xl (k:=ps[i].2.2.2.2.1) (l:=D);omega
  have lC:C.length<=2710:=by
   rcases hC with⟨_,rfl⟩|⟨_,W,Q,_,_,_,_,q1,q2,q3,rfl⟩
   .simp
   .rw[kn];omega
  have lE:=Xg (i:Int) (bK ai L);have EA:=rW (key:=ai) L
  have l0:=Ow (n:=n) (p:=(i:Int)) (a:=x) (b:=x+1036800) m0 m1 (by omega) Xm Hn (V:=V) (by omega) v1 (λy hy=>(Xn y hy).1) (λy hy h0=>by
   have Xo:=(Xn y hy).2 h0;rcases hA with⟨_,rfl⟩|⟨hm,h⟩
   .simp at Xo
   .have:=h.ok _ Xo;exact⟨hm,by omega,by omega,this.2.2.1,this.2.2.2⟩) V.length 0 0 (by omega) (by omega) (by omega)
  rw[jw,Int.zero_add]at l0;have n0:=Int.emod_nonneg n (show (1036800:Int)≠0 by omega);have n1:=Int.emod_lt_of_pos n (show (0:Int)<1036800 by omega);have wX:=Ov (by omega) Xm Hn (t:=x+1+n%1036800) (by omega) (by omega);have leX:=Ey (t:=x+1+n%1036800) Hn;simp only[e1,j3,show Int.ofNat ps.length=(ps.length:Int) from rfl,e2,e3];rw[ah (x:=x+1036800) (by omega) (by omega),show j2l (zs,ps,cs,ss) (i:Int) x (x+1036800)=_ from eV,show j4D (zs,ps,cs,ss) (i:Int) x (x+1036800)=_ from eD];simp only[j3,jp,j6];rw[aU (by omega) (by omega)];simp only[j5,j7,bf,show Int.ofNat V.length=(V.length:Int) from rfl];rw[show Ds n (i:Int) x (x+1036800) ps[i].2.2.2.1 0 (V.length:Int) 0 V D=_ from l0];simp only[j3,qA];rw[ah (x:=x+1) (by omega) (by omega),ah (x:=x+1036800-x) (by omega) (by omega),show x+1036800-x=1036800 by omega,jzY n 1036800 (by omega) (by omega)];simp only[j3];rw[ah (x:=x+1+n%1036800) (by omega) (by omega),wX];simp only[j3,Xf];rw[aj (show cZ (x+1+n%1036800) D<=604800 by omega)];by_cases hm:ps[i].2.2.2.1=0
  .rw[dT hm,j5,j5]
  .rw[cJ hm,j6]
   have Oy:cond (decide (cZ (x+1+n%1036800) D<=ps[i].2.2.2.1)) true (decide (o9 V>0))=true:=by
    by_cases hk:cZ (x+1+n%1036800) D<=ps[i].2.2.2.1
    .rw[aj hk];rfl
    .rw[ak hk,j6];rcases hA with⟨h,_⟩|⟨_,h⟩
     .exact absurd h hm
     .rcases h.all with h1|h1|h1
      .obtain⟨y,hy⟩:=List.exists_mem_of_ne_nil A h1
       exact aj (Xk (V:=V) (x:=((0:Int),((i:Int),y))) ((v2 _).2 (by
        simp only[gT,jn];exact .inl (jt.2 ⟨y,hy,rfl⟩))) rfl)
      .have:=WV (t:=x) Hn (by omega);omega
      .exact absurd (h1 _ (by omega) (by omega)) hk
   rw[Oy,j5,j5]
 .rw[ak hl];simp only[jy,j5,Xf,j3]
end Go.Proofs.Pw
