/- eU 5: the law WeekExact, on plain gf. -/
import Derived.Test.YtbpjdcbbmibehaaGreatWEPE
import Derived.Test.YtbpjdcbbmibehaaGreatWEPA
import Derived.Test.YtbpjdcbbmibehaaGreatWELD
open Go Go.Lft
namespace Go.Proofs.Pw
def cw(p:Int):WL->Int
 |[]=>0
 |v::r=>if v.1<0\/v.1>=v.2\/v.2>604800 then 1 else if v.1<p then 6 else cw v.2 r
def qU(w:WL)(i:Nat):Int:=if i=0 then 0 else (w.getD (i-1) (0,0)).2
theorem AB(w:WL)(i:Nat):qU w (i+1)=(w.getD i (0,0)).2:=by simp[qU]
theorem Li:∀{w:WL}{p:Int},p<=604800->cw p w=0->eB p w
 |[],p,hp,_=>hp
 |v::r,p,hp,h=>by
  simp only[cw]at h;split at h
  .simp at h
  split at h
  .simp at h
  exact⟨by omega,by omega,by omega,Li (by omega) h⟩
def AD(c:Int):Int ⊕ Unit:=if c=0 then .inr () else .inl c
theorem Lj{w:WL}(hl:w.length<=14):∀(n i:Nat),i+n=w.length->sC w w (w.length:Int) (i:Int)=some (AD (cw (qU w i) (w.drop i)))
 |0,i,hi=>by
  rw[zG,jd (by omega)];simp only[j19];rw[aw (by omega),j7,bC];rfl
 |n+1,i,hi=>by
  have ih:=Lj hl n (i+1) (by omega);have ak:i<w.length:=by omega
  have cU:w.getD i ((0:Int),(0:Int))=w[i]:=by simp[ak]
  rw[zG,je ak];simp only[j19];rw[ao (show (i:Int)<(w.length:Int) by omega),bT (by omega) (by omega),an (x:=(i:Int)+1) (by omega) (by omega)];simp only[j6,j8,cU,cw];rw[AB,cU]at ih;by_cases c1:w[i].1<0\/w[i].1>=w[i].2\/w[i].2>604800
  .rw[if_pos c1,show (cond (cond (decide (w[i].1<0)) true (decide (w[i].1>=w[i].2))) true (decide (w[i].2>604800)))=true by simp only[Bool.cond_true_left,q9,jg];omega];simp only[j6,bC];rfl
  .rw[if_neg c1,show (cond (cond (decide (w[i].1<0)) true (decide (w[i].1>=w[i].2))) true (decide (w[i].2>604800)))=false by rw[qd];simp only[ne_eq,Bool.cond_true_left,q9,jg];omega];simp only[j7];by_cases h0:i=0
   .subst h0;rw[aw (by omega),if_neg (by simp[qU];omega)];simp only[j7,bF];exact ih
   .obtain⟨j,rfl⟩:∃j,i=j+1:=⟨i-1,by omega⟩;rw[ao (by omega),an (x:=((j+1:Nat):Int)-1) (by omega) (by omega),bT (by omega) (by omega),show (((j+1:Nat):Int)-1).toNat=j by omega,AB];simp only[j6];by_cases c2:w[j+1].1<(w.getD j (0,0)).2
    .rw[ao c2,if_pos c2,j6,bC];rfl
    .rw[aw c2,if_neg c2,j7,bF];exact ih
theorem Lk{w:WL}(hl:w.length<=14):∀(n i:Nat),i+n=w.length->zI w (i:Int)=some (AD (cw (qU w i) (w.drop i)))
 |0,i,hi=>by
  rw[Jt,jd (by omega)];simp only[j2l,show Int.ofNat w.length=(w.length:Int) from rfl];rw[aw (by omega),j7,bC];rfl
 |n+1,i,hi=>by
  have ih:=Lk hl n (i+1) (by omega);have ak:i<w.length:=by omega
  have cU:w.getD i ((0:Int),(0:Int))=w[i]:=by simp[ak]
  rw[Jt,je ak];simp only[j2l,show Int.ofNat w.length=(w.length:Int) from rfl];rw[ao (show (i:Int)<(w.length:Int) by omega),bT (by omega) (by omega),an (x:=(i:Int)+1) (by omega) (by omega)];simp only[j6,j8,cU,cw];rw[AB,cU]at ih;by_cases a1:w[i].1<0
  .rw[ao a1,if_pos (Or.inl a1),j6,bC];rfl
  by_cases a2:w[i].1>=w[i].2
  .rw[aw a1,ao a2,if_pos (Or.inr (Or.inl a2)),j6,j7,bC];rfl
  by_cases a3:w[i].2>604800
  .rw[aw a1,aw a2,ao a3,if_pos (Or.inr (Or.inr a3)),j6,j7,j7,bC];rfl
  rw[aw a1,aw a2,aw a3,if_neg (by omega)];simp only[j7];by_cases h0:i=0
  .subst h0;rw[aw (by omega),if_neg (by simp[qU];omega)];simp only[j7,bF];exact ih
  .obtain⟨j,rfl⟩:∃j,i=j+1:=⟨i-1,by omega⟩;rw[ao (by omega),an (x:=((j+1:Nat):Int)-1) (by omega) (by omega),bT (show (0:Int)<=((j+1:Nat):Int)-1 by omega) (by omega),show (((j+1:Nat):Int)-1).toNat=j by omega,AB];simp only[j6];by_cases c2:w[j+1].1<(w.getD j (0,0)).2
   .rw[ao c2,if_pos c2,j6,bC];rfl
   .rw[aw c2,if_neg c2,j7,bF];exact ih
theorem xL(w:WL):∃c,j1w w=some c/\j2X w=some c/\(c=0->eB 0 w/\w.length<=14):=by
 by_cases hl:w.length>14
 .refine⟨5,?_,?_,by omega⟩
  .simp only[j1w,show Int.ofNat w.length=(w.length:Int) from rfl];rw[ao (by omega),j6]
  .simp only[j2X,show Int.ofNat w.length=(w.length:Int) from rfl];rw[ao (by omega),j6]
 .refine⟨cw 0 w,?_,?_,λh=>⟨Li (by omega) h,by omega⟩⟩
  .have:=Lj (w:=w) (by omega) w.length 0 (by omega);rw[show ((0:Nat):Int)=0 from rfl,ka,show qU w 0=0 from rfl]at this;simp only[j1w,show Int.ofNat w.length=(w.length:Int) from rfl];rw[aw (by omega),j7,this];simp only[AD];split
   .next h=>simp[h,sumC]
   .rfl
  .have:=Lk (w:=w) (by omega) w.length 0 (by omega);rw[show ((0:Nat):Int)=0 from rfl,ka,show qU w 0=0 from rfl]at this;simp only[j2X,show Int.ofNat w.length=(w.length:Int) from rfl];rw[aw (by omega),j7,this];simp only[AD];split
   .next h=>simp[h,sumC]
   .rfl
abbrev PZ:=ByteArray×(Int×List aP)
theorem Ll{z:PZ}{l:bd}(hz:eO z l)(hr:Z4 z l)(t:Int):∃s e,j1F z t=some (s,e)/\j4o z t=some (s,e):=by
 by_cases ht:0<=t/\t<=8589934592
 .obtain⟨k,hk,k1,k2⟩:=Fb hz.2 (t:=t) ht.1 ht.2;have o0:=hz.2.of0 k hk;have o1:=hz.2.of1 k hk;refine⟨_,_,U1 hz ht.1 ht.2 hk k1 k2,?_⟩;simp only[j4o,show j4n (z.1,(z.2.1,z.2.2)) t=_ from UI hr ht.1 ht.2 hk k1 k2,j4,jl,j7];rw[xK (by omega) (by omega) (by omega) (by omega)];simp only[j4];congr 2;omega
 .refine⟨0,1,?_,?_⟩
  .simp only[j1F,j1Z,j3O,show j5k (z.1,(z.2.1,z.2.2))=_ from Fp hz,j4,jl,j7,xF ht,qc,j6];rfl
  .have hf:j5l t 0 8589934592=some false:=xF ht;simp only[j4o,j4n,j3E,show j0V (z.1,(z.2.1,z.2.2))=_ from hr.1,j4,jl,j7,hf,qc,j6];rfl
theorem Lm{w:WL}(hl:w.length<=14)(s:Int):∀(n i:Nat),i+n=w.length->zQ w s (i:Int)=some (cond (hasB s (w.drop i)) (.inl true) (.inr ()))
 |0,i,hi=>by
  rw[JG,jd (by omega)];simp only[j26,show Int.ofNat w.length=(w.length:Int) from rfl];rw[aw (by omega),j7,bC];rfl
 |n+1,i,hi=>by
  have ak:i<w.length:=by omega
  have cU:w.getD i ((0:Int),(0:Int))=w[i]:=by simp[ak]
  rw[JG,je ak];simp only[j26,show Int.ofNat w.length=(w.length:Int) from rfl];rw[ao (show (i:Int)<(w.length:Int) by omega),bT (by omega) (by omega),an (x:=(i:Int)+1) (by omega) (by omega)];simp only[j6,j8,cU,hasB,Bool.true_or,ge_iff_le];cases cond (decide (w[i].1<=s)) (decide (s<w[i].2)) false with
  |true=>simp only[j6,bC]
  |false=>simp only[j7,bF];exact Lm hl s n (i+1) (by omega)
theorem Va{w:WL}(hl:w.length<=14)(s:Int):j8m w s=some (hasB s w):=by
 have:=Lm hl s w.length 0 (by omega);rw[show ((0:Nat):Int)=0 from rfl,ka]at this;simp only[j8m,this,j4];cases hasB s w<;>rfl
theorem Vb{z:PZ}{l:bd}(hz:eO z l)(hr:Z4 z l)(w:WL)(t:Int):∃b,j6V z w t=some b/\jhw z w t=some b:=by
 obtain⟨s,e,s1,s2⟩:=Ll hz hr t;obtain⟨c,c1,c2,c3⟩:=xL w;simp only[j6V,jhw,show j1F (z.1,(z.2.1,z.2.2)) t=_ from s1,show j4o (z.1,(z.2.1,z.2.2)) t=_ from s2,c1,c2,j4];cases (e==0) with
 |false=>exact⟨false,rfl,rfl⟩
 |true=>
  simp only[j6];cases hc:(c==0) with
  |false=>exact⟨false,rfl,rfl⟩
  |true=>obtain⟨_,hl⟩:=c3 (by simpa using hc);simp only[j6,UN hl,Va hl,j4];exact⟨_,rfl,rfl⟩
theorem FG{w:WL}(hl:w.length<=14):∀(n i:Nat)(p:Int)(acc:WL),i+n=w.length->acc.length<=i->xh w p (i:Int) acc=some (acc++df p (w.drop i))
 |0,i,p,acc,hi,ha=>by
  have h2:∀sO:WL,xh w 604800 ((i+1:Nat):Int) sO=some sO:=λsO=>by
   rw[D0];simp only[j1x,show Int.ofNat w.length=(w.length:Int) from rfl];rw[aw (by omega),j7,bC]
  rw[D0,jd (by omega)];simp only[j1x,show Int.ofNat w.length=(w.length:Int) from rfl,df];rw[ao (show (i:Int)<=(w.length:Int) by omega),aw (show¬(i:Int)<(w.length:Int) by omega),an (x:=(i:Int)+1) (by omega) (by omega)];simp only[j6,j7];by_cases hp:p<604800
  .rw[ao hp,if_pos hp,ao (by simp[bI];omega)];simp only[j6,bF];exact h2 _
  .rw[aw hp,if_neg hp];simp only[j7,bF,kz];exact h2 _
 |n+1,i,p,acc,hi,ha=>by
  have ak:i<w.length:=by omega
  have cU:w.getD i ((0:Int),(0:Int))=w[i]:=by simp[ak]
  rw[D0,je ak];simp only[j1x,show Int.ofNat w.length=(w.length:Int) from rfl,df];rw[ao (show (i:Int)<=(w.length:Int) by omega),ao (show (i:Int)<(w.length:Int) by omega),bT (by omega) (by omega),an (x:=(i:Int)+1) (by omega) (by omega)];simp only[j6,j8,cU];by_cases hp:p<w[i].1
  .rw[ao hp,if_pos hp,ao (by simp[bI];omega)];simp only[j6,bF];have:=FG hl n (i+1) w[i].2 (acc++[(p,w[i].1)]) (by omega) (by simp;omega);rw[jj]at this;exact this
  .rw[aw hp,if_neg hp];simp only[j7,bF];exact FG hl n (i+1) w[i].2 acc (by omega) (by omega)
theorem Vc(w:WL):∃l e,j2x w=some (l,e)/\j6t w=some (l,e)/\l.length<=4096:=by
 obtain⟨c,c1,c2,c3⟩:=xL w;by_cases hc:c=0
 .subst hc;obtain⟨hw,hl⟩:=c3 rfl;have i1:=Fv (w:=w) (by omega) w.length 0 0 [] (by omega) (by simp);rw[show ((0:Nat):Int)=0 from rfl,ka,kj]at i1;have i2:=FG (w:=w) (by omega) w.length 0 0 [] (by omega) (by simp);rw[show ((0:Nat):Int)=0 from rfl,ka,kj]at i2;have hg:=KP w 0;have yU:=KO w 0;refine⟨(if (df 0 w).length>14 then (([]:WL),(5:Int)) else (df 0 w,0)).1,(if (df 0 w).length>14 then (([]:WL),(5:Int)) else (df 0 w,0)).2,?_,?_,?_⟩
  .simp only[j2x,c1,j4,jl,j7,show Int.ofNat (List.length w)=(w.length:Int) from rfl,i1];rw[KN];by_cases gL:mT 0 w<604800
   .rw[ao gL,if_pos gL,ao (by simp[bI];omega)];simp only[j6];by_cases xM:(eb 0 w++[(mT 0 w,(604800:Int))]).length>14
    .rw[if_pos xM,ao (by show ((eb 0 w++[(mT 0 w,(604800:Int))]).length:Int)>14;omega),j6]
    .rw[if_neg xM,aw (by show¬((eb 0 w++[(mT 0 w,(604800:Int))]).length:Int)>14;omega),j7]
   .rw[aw gL,if_neg gL];simp only[j7,kz];rw[if_neg (by omega),aw (by show¬((eb 0 w).length:Int)>14;omega),j7]
  .simp only[j6t,c2,j4,jl,j7,i2,show Int.ofNat (df 0 w).length=((df 0 w).length:Int) from rfl];by_cases xM:(df 0 w).length>14
   .rw[if_pos xM,ao (by omega),j6]
   .rw[if_neg xM,aw (by omega),j7]
  .split
   .simp
   .show (df 0 w).length<=4096;omega
 .have hb:(c != 0)=true:=by simp[hc]
  refine⟨[],8,?_,?_,by simp⟩
  .simp only[j2x,c1,j4,hb,j6]
  .simp only[j6t,c2,j4,hb,j6]
theorem Ln{w:WL}(h:eB 0 w)(hl:w.length<=14)(nk:j2X w=some 0):∀(n i:Nat)(s:Int),i+n=w.length->0<=s->s<=604800*i->zK w s (i:Int)=some (s+fL (w.drop i))
 |0,i,s,hi,_,_=>by
  rw[D1,jd (by omega)];simp only[j1y,show Int.ofNat w.length=(w.length:Int) from rfl];rw[aw (by omega),j7,bC];simp[fL]
 |n+1,i,s,hi,h0,h1=>by
  have ak:i<w.length:=by omega
  have cU:w.getD i ((0:Int),(0:Int))=w[i]:=by simp[ak]
  have hg:=oY h i ak;rw[cU]at hg;rw[D1,je ak];simp only[j1y,show Int.ofNat w.length=(w.length:Int) from rfl];rw[ao (show (i:Int)<(w.length:Int) by omega),bT (by omega) (by omega),an (x:=(i:Int)+1) (by omega) (by omega)];simp only[j6,nk,j4,ze,j8,cU,bF];rw[an (x:=w[i].2-w[i].1) (by omega) (by omega),an (x:=s+(w[i].2-w[i].1)) (by omega) (by omega)];have:=Ln h hl nk n (i+1) (s+(w[i].2-w[i].1)) (by omega) (by omega) (by omega);rw[show ((i:Int)+1)=((i+1:Nat):Int) from rfl,this];simp only[fL];congr 1;omega
theorem Vd(w:WL):∃n,j4m w=some n/\j6v w=some n:=by
 obtain⟨c,c1,c2,c3⟩:=xL w;by_cases hc:c=0
 .subst hc;obtain⟨hw,hl⟩:=c3 rfl;refine⟨_,UM hw hl,?_⟩;have:=Ln hw hl c2 w.length 0 0 (by omega) (by omega) (by omega);rw[show ((0:Nat):Int)=0 from rfl,ka,Int.zero_add]at this;simp only[j6v,this,j4]
 .have hb:(c != 0)=true:=by simp[hc]
  have cA:(c==0)=false:=by simp[hc]
  refine⟨0,?_,?_⟩
  .simp only[j4m,c1,j4,hb,j6]
  .simp only[j6v];rw[D1];simp only[j1y,c2,j4,cA,j7];cases decide ((0:Int)<Int.ofNat w.length)<;>rfl
theorem Ve{z:PZ}{l:bd}(hz:eO z l)(hr:Z4 z l)(ie:l.length<=20)(w:WL)(a b:Int):∃L e,j3F z w a b=some (L,e)/\j4N z w a b=some (L,e)/\L.length<=4096:=by
 obtain⟨c,c1,c2,c3⟩:=xL w;have q1:j5k (z.1,(z.2.1,z.2.2))=_:=Fp hz;have q2:j0V (z.1,(z.2.1,z.2.2))=_:=hr.1;by_cases hc:c=0
 .subst hc;obtain⟨hw,hl⟩:=c3 rfl;by_cases hg:0<=a/\a<=8589934592/\a<=b/\b<=8589934592
  .obtain⟨g1,g2,g3,g4⟩:=hg;by_cases hq:b-a<=34560000
   .obtain⟨out,e1,s1,s2,_,s4⟩:=UY hz.2 ie hw hl (M:=60) (by omega) g1 g3 g4 (by omega);obtain⟨fM,f1,t1,t2,_,t4⟩:=U9 hr ie c2 hw hl (M:=60) (by omega) g1 g3 g4 (by omega) hq
    have:fM=out:=K5 t1 s1 λx=>by
     by_cases hx:a<=x/\x<b
     .obtain⟨k,hk,k1,k2⟩:=Fb hz.2 (t:=x) (by omega) (by omega);rw[s4 k hk x hx.1 hx.2 k1 k2,t4 k hk x hx.1 hx.2 k1 k2]
     .constructor
      .intro h;have:=t1.low h;obtain⟨u,hu,u1,u2⟩:=h;have:=t2 u hu;omega
      .intro h;have:=s1.low h;obtain⟨u,hu,u1,u2⟩:=h;have:=(s2 u hu).2;omega
    subst this
    have e0:j3F z w a b=some (if fM.length>4096 then ([],5) else (fM,0)):=by
     simp only[j3F,q1,j4,jl,j7,c1];rw[aw (show¬a<0 by omega),aw (show¬a>8589934592 by omega),aw (show¬b<a by omega),aw (show¬b>8589934592 by omega),an (x:=b-a) (by omega) (by omega),aw (show¬b-a>34560000 by omega)];simp only[j7,e1,j4,show Int.ofNat (List.length fM)=(fM.length:Int) from rfl];by_cases hg:fM.length>4096
     .rw[ao (show (fM.length:Int)>4096 by omega),if_pos hg];rfl
     .rw[aw (show¬(fM.length:Int)>4096 by omega),if_neg hg];rfl
    by_cases hg:fM.length>4096
    .rw[if_pos hg]at e0 f1;exact⟨[],5,e0,f1,by simp⟩
    .rw[if_neg hg]at e0 f1;exact⟨fM,0,e0,f1,by omega⟩
   .refine⟨[],1,?_,?_,by simp⟩
    .simp only[j3F,q1,j4,jl,j7,c1];rw[aw (show¬a<0 by omega),aw (show¬a>8589934592 by omega),aw (show¬b<a by omega),aw (show¬b>8589934592 by omega),an (x:=b-a) (by omega) (by omega),ao (show b-a>34560000 by omega)];rfl
    .simp only[j4N,q2,j4,jl,j7,c2,j6w];rw[ao (show a>=0 by omega),ao (show a<=8589934592 by omega),ao (show b>=a by omega),ao (show b<=8589934592 by omega),an (x:=b-a) (by omega) (by omega),aw (show¬b-a<=34560000 by omega)];rfl
  .refine⟨[],1,?_,?_,by simp⟩
   .simp only[j3F,q1,j4,jl,j7,c1];rw[show (cond (cond (cond (decide (a<0)) true (decide (a>8589934592))) true (decide (b<a))) true (decide (b>8589934592)))=true by simp only[Bool.cond_true_left,q9,jg];omega];rfl
   .simp only[j4N,q2,j4,jl,j7,c2,j6w];rw[show (cond (cond (cond (decide (a>=0)) (decide (a<=8589934592)) false) (decide (b>=a)) false) (decide (b<=8589934592)) false)=false by rw[qd];simp only[ne_eq,Bool.cond_false_right,jb,jg];omega];rfl
 .have hb:(c != 0)=true:=by simp[hc]
  refine⟨[],8,?_,?_,by simp⟩
  .simp only[j3F,q1,c1,j4,jl,j7,hb,j6]
  .simp only[j4N,q2,c2,j4,jl,j7,hb,j6]
theorem Lo{l:WL}(hl:l.length<=4096):∀(n i:Nat),i+n=l.length->zL l l (l.length:Int) (i:Int)=some (.inr ())
 |0,i,hi=>by
  rw[Jv];simp only[j20];rw[aw (by omega),j7,bC]
 |n+1,i,hi=>by
  rw[Jv];simp only[j20];rw[ao (show (i:Int)<(l.length:Int) by omega),bT (by omega) (by omega),an (x:=(i:Int)+1) (by omega) (by omega)];simp only[j6,ze,Bool.and_self,ju,j7,bF];exact Lo hl n (i+1) (by omega)
theorem Lp{l:WL}(hl:l.length<=4096):j8h l l=some true:=by
 have:=Lo hl l.length 0 (by omega);rw[show ((0:Nat):Int)=0 from rfl]at this;simp only[j8h,jl,j7,show Int.ofNat l.length=(l.length:Int) from rfl,this,j4,ub]
theorem Vf{l:WL}(hl:l.length<=4096):j8U l l=some true:=Lp hl
theorem Lq{nm:ByteArray}{o:Int}{rs:List aP}{l:bd}(hz:eO (nm,(o,rs)) l)(hr:Z4 (nm,(o,rs)) l)(s2 s3 s4 ly lz:Int)(w:WL)(gG:List WL)(sP:Int)(L:List Int) :
  ∀(n j:Nat),j+n=3->Aa s2 s3 s4 ly lz w gG sP L (j:Int) nm o rs=some (.inr (s2,s3,s4,ly,lz,w,gG,sP,nm,o,rs))
 |0,j,hj=>by
  rw[JQ];simp only[j1f];rw[aw (by omega),j7,bC]
 |n+1,j,hj=>by
  obtain⟨s,e,a1,a2⟩:=Ll hz hr (L.getD j 0);obtain⟨b,b1,b2⟩:=Vb hz hr w (L.getD j 0);rw[JQ];simp only[j1f];rw[ao (show (j:Int)<3 by omega),bT (by omega) (by omega),an (x:=(j:Int)+1) (by omega) (by omega)];simp only[j6,j8,a1,a2,b1,b2,j4,jl,ze,ju,j7,bF];exact Lq hz hr s2 s3 s4 ly lz w gG sP L n (j+1) (by omega)
theorem Lr{nm:ByteArray}{o:Int}{rs:List aP}{l:bd}(hz:eO (nm,(o,rs)) l)(hr:Z4 (nm,(o,rs)) l)(ie:l.length<=20)(s2 s3 s4 ly lz:Int)(w:WL)(gG:List WL)(sP:Int)(L:List (List Int)) :
  ∀(n j:Nat),j+n=3->Ab s2 s3 s4 ly lz w gG sP L (j:Int) nm o rs=some (.inr (s2,s3,s4,ly,lz,gG,sP,nm,o,rs))
 |0,j,hj=>by
  rw[JR];simp only[j1g];rw[aw (by omega),j7,bC]
 |n+1,j,hj=>by
  obtain⟨S,e,a1,a2,a3⟩:=Ve hz hr ie w ((L.getD j (List.replicate 2 0)).getD 0 0) ((L.getD j (List.replicate 2 0)).getD 1 0);rw[JR];simp only[j1g];rw[ao (show (j:Int)<3 by omega),bT (by omega) (by omega),an (x:=(j:Int)+1) (by omega) (by omega)];simp only[j6,j8,a1,a2,Vf a3,j4,jl,ju,j7,bF];exact Lr hz hr ie s2 s3 s4 ly lz w gG sP L n (j+1) (by omega)
theorem Ls{nm:ByteArray}{o:Int}{rs:List aP}{l:bd}(hz:eO (nm,(o,rs)) l)(hr:Z4 (nm,(o,rs)) l)(ie:l.length<=20)(s2 s3 s4 ly lz:Int)(gG:List WL) :
  ∀(n j:Nat),j+n=3->Ac s2 s3 s4 ly lz gG (j:Int) nm o rs=some (.inr ())
 |0,j,hj=>by
  rw[JS];simp only[j1h];rw[aw (by omega),j7,bC]
 |n+1,j,hj=>by
  obtain⟨I,e,a1,a2,a3⟩:=Vc (gG.getD j []);obtain⟨c,c1,c2,_⟩:=xL (gG.getD j []);obtain⟨q,q1,q2⟩:=Vd (gG.getD j []);have hm:j9G s2 2=some (s2%2):=TB s2 2 (by omega) (by omega);rw[JS];simp only[j1h];rw[ao (show (j:Int)<3 by omega),bT (by omega) (by omega)];simp only[j6,j8,a1,a2,c1,c2,q1,q2,Lp a3,j4,jl,ju,j7];have e2:=λL=>Lq hz hr s2 s3 s4 ly lz (gG.getD j []) gG (j:Int) L 3 0 (by omega);have e4:=λL=>Lr hz hr ie s2 s3 s4 ly lz (gG.getD j []) gG (j:Int) L 3 0 (by omega);rw[show ((0:Nat):Int)=0 from rfl]at e2 e4;simp only[e2,j4,ub,hm,e4,bF];rw[an (x:=(j:Int)+1) (by omega) (by omega)];exact Ls hz hr ie s2 s3 s4 ly lz gG n (j+1) (by omega)
theorem jcy(raw:List (Int×Int))(_h0:Wf (.list (.pair (.int .i64) (.int .i64))) raw)(t:List Int)(_h1:Wf (.list (.int .i64)) t)(x:Int)(_h2:Wf (.int .i64) x)(a:Int)(_h3:Wf (.int .i64) a)(b:Int)(_h4:Wf (.int .i64) b) :
  j5o raw t x a b=some true:=by
 simp only[j5o,ja9,j4,show Int.ofNat (List.length t)=(t.length:Int) from rfl,show Int.ofNat (List.length raw)=(raw.length:Int) from rfl];by_cases xN:(raw.length:Int)>20
 .rw[ao xN];simp only[j6,Fk,j4]
 rw[aw xN,j7];by_cases hl:(t.length:Int)<=500
 .rw[ao hl];simp only[ju,j7,jbP,j4];obtain⟨o,rs,a1,e1,hm,d1⟩:=Ur (L:=t) (a:=0) ⟨by omega,by omega,by omega⟩ (ByteArray.mk #[97]);have hz:=hm.tab (ByteArray.mk #[97]);have hr:=hm.r4 (ByteArray.mk #[97]);have Vg:=U3 hm;obtain⟨w,a2,e2,hw,yU,d2⟩:=UJ d1;obtain⟨p,a3,e3,_,d3⟩:=sL d2 (xs:=[0,5,604800, -1,604799]) (by simp) (by simp);obtain⟨q,a4,e4,_,d4⟩:=sL d3 (xs:=[604800,604801,5,0]) (by simp) (by simp);obtain⟨y,a5,e5,_,_,d5⟩:=KS d4;obtain⟨y2,a6,e6,_,_,_⟩:=KS d5;have hx:=λgG=>Ls hz hr Vg x a b y y2 gG 3 0 (by omega);rw[show ((0:Nat):Int)=0 from rfl]at hx;simp only[e1,e2,e3,e4,e5,e6,j4,kj];rw[ao (show ([]:WL).length+w.length<=bI by simp[bI];omega),ao (show w.length+[(p,q)].length<=bI by simp[bI];omega)];simp only[j6,hx,j4,ub,Fk]
 .rw[aw hl];simp only[qc,j6,Fk,j4]
end Go.Proofs.Pw
