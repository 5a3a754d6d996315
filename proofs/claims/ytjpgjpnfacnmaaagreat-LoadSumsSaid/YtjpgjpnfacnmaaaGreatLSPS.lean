/- The law LoadSums, on plain la. -/
import Derived.Test.YtjpgjpnfacnmaaaGreatLSPO
import Derived.Test.YtjpgjpnfacnmaaaGreatLSPR
import Derived.Test.YtjpgjpnfacnmaaaGreatLSLD
open Go Go.Lft
namespace Go.Proofs.Pw
theorem SN{f:Int->Int}{b v:Int}:∀{S:bD}{q:Option Int}{a lo:Int},dW f b q a S->(lo<a\/q=some v/\lo<=a)->bP lo (l5 v S)
 |[],_,_,_,_,_=>trivial
 |s::r,q,a,lo,h,hl=>by
  obtain⟨h1,h2,h3,_,h5⟩:=h;rw[jvA];by_cases hv:s.2.2=v
  .rw[if_pos hv]
   have iu:lo<a:=by
    rcases hl with hl|⟨hl,_⟩
    .exact hl
    .exact absurd (hl.trans (by rw[hv])) h3
   refine⟨by show lo<s.1;omega,by show s.1<s.2.1;omega,?_⟩;exact SN h5 (.inr ⟨by rw[hv],k9 _⟩)
  .rw[if_neg hv,jv];exact SN h5 (.inl (by omega))
theorem jDV{f:Int->Int}{a:Int}{N:Nat}{v:Int}{S:bD}(h:dW f (a+N) none a S)(ha:0<=a)(hb:a+N<=8589934592)(hl:S.length<=4096):j8O (l5 v S)=some (bq (λx=>decide (f x=v)) a N):=by
 have aM:=SN (v:=v) h (lo:=a-1) (.inl (by omega));have dV:(l5 v S).length<=4096:=by unfold l5;rw[k5];have:=qt (λs:jD=>s.2.2==v) S;omega
 have we:∀u∈l5 v S,u.2<=a+N:=λu hu=>by
  have hm:=aM.mem u hu;have:=(Ss h (x:=u.2-1)).1 ⟨u,hu,by omega,by omega⟩;omega
 have qA:=aM.ino;rw[show a-1+1=a by omega]at qA
 have hc:eB (l5 v S)=bq (λx=>decide (f x=v)) a N:=by
  rw[Sn qA we];refine J3 λx h1 h2=>?_;rw[zr,xo,jo];have:=Ss h (v:=v) (x:=x);constructor
  .intro hx;exact(this.1 hx).2.2
  .intro hx;exact this.2 ⟨h1,h2,hx⟩
 have hr:=GA (λx=>decide (f x=v)) a N;rw[jwW aM (by omega) dV (λu hu=>by have:=we u hu;omega) (by omega),hc]
def iN:List oE->Int
 |[]=>0
 |x::r=>x.2.1+iN r
def qB:List oE->Int
 |[]=>0
 |x::r=>x.2.2+qB r
def tS(u:Int->Int):Nat->Int
 |0=>0
 |n+1=>tS u n+u n
theorem jzZ:∀a b:List oE,iN (a++b)=iN a+iN b
 |[],b=>by simp[iN]
 |x::a,b=>by simp only[zv,iN,jzZ a b];omega
theorem jvK{u v:Int->Int}(h0:∀p,0<=u p):∀n:Nat,iN (iG n u v)=tS u n
 |0=>rfl
 |n+1=>by
  have ih:=jvK (v:=v) h0 n;have hn:=h0 n;unfold iG at ih ⊢;rw[List.range_succ,List.filterMap_append,jzZ,ih];simp only[tS,z8,List.filterMap_nil];by_cases hu:0<u n
  .rw[if_pos hu];simp[iN]
  .rw[if_neg hu];simp only[iN];omega
theorem jCw(y:Int):∀n:Nat,tS (λp=>cond (decide (y=p)) 1 0) n=if 0<=y/\y<n then 1 else 0
 |0=>by rw[if_neg (by omega)];rfl
 |n+1=>by
  have ih:=jCw y n;simp only[tS];rw[ih];by_cases h:y=(n:Int)
  .rw[ag h,if_neg (by omega),if_pos (by omega)];rfl
  .rw[ah h];by_cases h2:0<=y/\y<(n:Int)
   .rw[if_pos h2,if_pos (by omega)];rfl
   .rw[if_neg h2,if_neg (by omega)];rfl
theorem jCx(u v:Int->Int):∀n:Nat,tS (λp=>u p+v p) n=tS u n+tS v n
 |0=>rfl
 |n+1=>by simp only[tS,jCx u v n];omega
theorem jA0:∀n:Nat,tS (λ_=>0) n=0
 |0=>rfl
 |n+1=>by simp only[tS,jA0 n];omega
theorem jA1{f:Int->Int}{np:Nat}{a:Int}:∀N:Nat,(∀x,a<=x->x<a+N -> -1<=f x/\f x<np)->tS (λp=>bq (λx=>decide (f x=p)) a N) np+bq (λx=>decide (f x = -1)) a N=N
 |0,_=>by
  show tS (λ_=>0) np+0=0;rw[jA0];rfl
 |N+1,h=>by
  have ih:=jA1 N (λx h1 h2=>h x h1 (by omega));have hx:=h (a+N) (by omega) (by omega);simp only[bq];rw[jCx (λp=>bq (λx=>decide (f x=p)) a N) (λp=>cond (decide (f (a+N)=p)) 1 0) np,jCw];by_cases hf:f (a+N) = -1
  .rw[ag hf,if_neg (by omega),j6];omega
  .rw[ah hf,if_pos (by omega),j7];omega
theorem jCy{l:List oE}(hl:l.length<=1000)(h0:∀x∈l,0<=x.2.1/\0<=x.2.2){b2 b3 b4:Int}:∀(n i:Nat)(s1 s2:Int),i+n=l.length->0<=s1->0<=s2->s1+iN (l.drop i)<=1000000000000->s2+qB (l.drop i)<=1000000000000->
  BR l (l.length:Int) (i:Int) b2 b3 b4 (-1) s1 s2=some (b2,b3,b4, -1,s1+iN (l.drop i),s2+qB (l.drop i))
 |0,i,s1,s2,hi,_,_,_,_=>by
  rw[Wh,jd (by omega)];simp only[j66];rw[ah (by omega),j7,aW];simp[iN,qB]
 |n+1,i,s1,s2,hi,p1,p2,q1,q2=>by
  have ak:i<l.length:=by omega
  have aR:l.getD i ((0:Int),((0:Int),(0:Int)))=l[i]:=by simp[List.getD,ak]
  obtain⟨x1,x2⟩:=h0 _ (jf ak)
  have SE:∀r:List oE,(∀x∈r,0<=x.2.1/\0<=x.2.2)->0<=iN r/\0<=qB r:=λr=>by
   induction r with
   |nil=>intro _;exact⟨k9 _,k9 _⟩
   |cons y r ih=>intro hr;have a1:=hr y (by simp);have a2:=ih (λx hx=>hr x (by simp[hx]));simp only[iN,qB];omega
  have hn:=SE (l.drop (i+1)) (λx hx=>h0 x (zm hx));rw[jb ak]at q1 q2 ⊢;simp only[iN,qB]at q1 q2 ⊢;rw[Wh];simp only[j66];rw[ag (show (i:Int)<(l.length:Int) by omega),bz];simp only[j6,j8,aR];rw[ai (x:=(i:Int)+1),ai (x:=s1+l[i].2.1),ai (x:=s2+l[i].2.2),aK];have:=jCy hl h0 (b2:=b2) (b3:=b3) (b4:=b4) n (i+1) (s1+l[i].2.1) (s2+l[i].2.2) (by omega) (by omega) (by omega) (by omega) (by omega);rw[show s1+(l[i].2.1+iN (l.drop (i+1)))=s1+l[i].2.1+iN (l.drop (i+1)) by omega,show s2+(l[i].2.2+qB (l.drop (i+1)))=s2+l[i].2.2+qB (l.drop (i+1)) by omega];exact this
theorem jFr:∀l:List oE,(∀x∈l,x.2.2=x.2.1)->qB l=iN l
 |[],_=>rfl
 |x::r,h=>by
  have h1:=h x (by simp);have h2:=jFr r (λy hy=>h y (by simp[hy]));simp only[iN,qB];omega
section
variable{zs:List br}{ps:List cZ}{cs:List aX}{s:cF}
theorem jFs{K:List Int}{U V:Int->Int}(hK:K.Pairwise (· < ·))(hl:K.length<=1000)(hU:∀k∈K,0<U k/\U k<=V k/\V k<=8*U k/\U k<=8589934592){a b:Int}{A B:List oE}(hA:A=K.map λk=>(k,(U k,U k)))(hB:B=K.map λk=>(k,(U k,V k)))
  {T:Int->SL}(hT:∀p,jeu (zs,(ps,(cs,[s]))) 0 p a b=some (T p,0))(hL:∀p,j8O (T p)=some (U p)):∀(n i:Nat),i+n=K.length->
  I5 a b (K.length:Int) (i:Int) zs ps cs [s] A B=some (.inr ())
 |0,i,hi=>by
  rw[Ya];simp only[j2I];rw[ah (by omega),j7,aW]
 |n+1,i,hi=>by
  have ak:i<K.length:=by omega
  have hlA:A.length=K.length:=by rw[hA,k5]
  have hlB:B.length=K.length:=by rw[hB,k5]
  have hgA:A.getD i ((0:Int),((0:Int),(0:Int)))=(K[i],(U K[i],U K[i])):=by rw[hA];simp[List.getD,ak]
  have hgB:B.getD i ((0:Int),((0:Int),(0:Int)))=(K[i],(U K[i],V K[i])):=by rw[hB];simp[List.getD,ak]
  obtain⟨u1,u2,u3,u4⟩:=hU _ (jf ak);have ih:=jFs hK hl hU hA hB hT hL n (i+1) (by omega);rw[Ya];simp only[j2I];rw[ag (show (i:Int)<(K.length:Int) by omega),cw (n:=A.length) (show (0:Int)<=(i:Int) by omega) (by omega),cw (n:=B.length) (show (0:Int)<=(i:Int) by omega) (by omega)];simp only[j6,j8,hgA,hgB,hT,hL,j4,jh,j7];rw[ah (show¬U K[i]<=0 by omega),ah (show¬V K[i]<U K[i] by omega),ai (x:=8*U K[i]),ah (show¬V K[i]>8*U K[i] by omega),ai (x:=(i:Int)+1)];simp only[j7];by_cases h0:i=0
  .rw[ah (show¬(i:Int)>0 by omega)];simp only[j7,aK];exact ih
  .obtain⟨j,rfl⟩:∃j,i=j+1:=⟨i-1,by omega⟩;have hj:j<K.length:=by omega
   have QX:A.getD j ((0:Int),((0:Int),(0:Int)))=(K[j],(U K[j],U K[j])):=by rw[hA];simp[List.getD,hj]
   have mK:=ko.1 hK j (j+1) hj ak (by omega);rw[ag (show ((j+1:Nat):Int)>0 by omega),ai (x:=((j+1:Nat):Int)-1),cw (n:=A.length) (show (0:Int)<=((j+1:Nat):Int)-1 by omega) (by omega),show (((j+1:Nat):Int)-1).toNat=j by omega,QX];simp only[j6];rw[ah (show¬K[j+1]<=K[j] by omega)];simp only[j7,aK];exact ih
end
theorem jqE(t:List Int)(_h:Wf (.list (.int .i64)) t):jdt t=some true:=by
 simp only[jdt,jko,j4,show Int.ofNat (List.length t)=(t.length:Int) from rfl];by_cases hl:(t.length:Int)<=500
 .rw[ag hl];simp only[jl,j7,jmx,j4];obtain⟨zs,ps,cs,nm,ls,es,a1,e1,hs,hc,eE,eX,d1⟩:=jDF (L:=t) (a:=0) ⟨by omega,by omega,by omega⟩;have s7:=hs.so.p1;have rb:=hs.so.z0;have rh:=hs.so.z1;obtain⟨x,a2,e2,x0,x1,d2⟩:=Ze d1;simp only[e1,e2,j4,show Int.ofNat zs.length=(zs.length:Int) from rfl];obtain⟨zi,a3,e3,z0,z1,d3⟩:=dj (n:=(zs.length:Int)) d2 (by omega) (by omega);obtain⟨z,rfl⟩:∃z:Nat,zi=(z:Int):=⟨zi.toNat,by omega⟩;have hz:z<zs.length:=by omega
  obtain⟨ws,a4,e4,hw,d4⟩:=jwZ d3;have Az:(nm,(ls,es)).2.2.length<=6:=by show es.length<=6;omega
  have yW:sZ ([]:mY):=⟨by show ei 0 [];show (0:Int)<=604800;omega,by simp,λy hy=>by simp at hy⟩;rw[ai (x:=x+691200)];simp only[e3,e4,j4];have hb:x+((691200:Nat):Int)<=8589934592:=by omega
  have q1:=joO hs hc eE Az hz yW (a:=x) (N:=691200) (by omega) hb (by omega);have q2:=joO hs hc eE Az hz hw (a:=x) (N:=691200) (by omega) hb (by omega);have uv:=jFi (cs:=cs) (s:=(nm,(ls,es))) hs hz hw (a:=x) (N:=691200) (by omega) hb (by omega) (np:=ps.length);have Kf:=jFi (cs:=cs) (s:=(nm,(ls,es))) hs hz yW (a:=x) (N:=691200) (by omega) hb (by omega) (np:=ps.length)
  have eV0:GH zs cs (nm,(ls,es)) (tb zs[z]) [] x 691200=vM zs cs (nm,(ls,es)) x 691200:=funext λp=>by
   show vM zs cs (nm,(ls,es)) x 691200 p+dO (cR zs cs (nm,(ls,es))) (tb zs[z]).1 (tb zs[z]).2 x 691200 p []=_;simp[dO]
  rw[eV0]at q1 Kf;rw[show x+((691200:Nat):Int)=x+691200 from rfl]at q1 q2;have hk:=hc.sc (nm,(ls,es)) (by simp);obtain⟨S,eS,hS,_⟩:=jsK hs hc eE Az (a:=x) (N:=691200) (by omega) hb (by omega);obtain⟨E,hE1,hE2⟩:=jzB hs hk (a:=x) (b:=x+691200) (by omega) (by omega) (by omega) (M:=2) (by omega) (by omega) rfl;have tM:=R6 hS (λy h1 h2 h3=>hE2 y h1 h2 h3);have tM:S.length<=4096:=by have h1:(nm,(ls,es)).2.1.length<=3:=eE;omega
  have hT:=λp=>jx4 hs (ss:=[(nm,(ls,es))]) hc (i:=0) (by simp) (a:=x) (b:=x+691200) (by omega) (by omega) (by omega) (by omega) (S:=S) hS tM p;rw[show ((0:Nat):Int)=0 from rfl]at hT;have hL:∀p,j8O (vO p S)=some (vM zs cs (nm,(ls,es)) x 691200 p):=λp=>jDV (v:=p) hS (by omega) hb tM;rw[show j9S (zs,(ps,(cs,[(nm,(ls,es))]))) 0 x (x+691200) (z:Int) []=_ from q1];simp only[j4];rw[show j9S (zs,(ps,(cs,[(nm,(ls,es))]))) 0 x (x+691200) (z:Int) ws=_ from q2];have hG:jlM (zs,(ps,(cs,[(nm,(ls,es))]))) 0 x (x+691200)=some (vO (-1) S,0):=by simp only[jlM,hT,j4]
  generalize hU:vM zs cs (nm,(ls,es)) x 691200=U at *
  generalize GH zs cs (nm,(ls,es)) (tb zs[z]) ws x 691200=V at *
  have cA:=GF ps.length U U;have cB:=GF ps.length U V;have lA:(iG ps.length U U).length=(p9 ps.length U).length:=by rw[cA,k5]
  have lB:(iG ps.length U V).length=(p9 ps.length U).length:=by rw[cB,k5]
  have eM:=jzJ ps.length U U;have xu:=jzI Kf;have AA:=jzH (l:=iG ps.length U U) (by omega) (jBi _ _ _) (show ps.length<=32 by omega) xu;have au:tS U ps.length+U (-1)=691200:=by rw[<-hU];exact jA1 691200 (λy h1 h2=>⟨jDL hs hk (by omega) (by omega),jzC hs hk (by omega) (by omega)⟩)
  have Au:iN (iG ps.length U U)=tS U ps.length:=jvK Kf.u0 _;have hUm:=Kf.u0 (-1)
  have lG:qB (iG ps.length U U)=iN (iG ps.length U U):=jFr _ (λy hy=>by
   rw[cA]at hy;obtain⟨k,_,rfl⟩:=jt.1 hy;rfl)
  have KU:=jCy (l:=iG ps.length U U) (by omega) (λy hy=>by have:=xu y hy;unfold Sv at this;omega) (b2:=0) (b3:=0) (b4:=0) (iG ps.length U U).length 0 0 0 (by omega) (by omega) (by omega) (by rw[jr];omega) (by rw[jr];omega);rw[show ((0:Nat):Int)=0 from rfl,jr,Int.zero_add,Int.zero_add]at KU;have SO:jbt (iG ps.length U U)=some (-1,(iN (iG ps.length U U),qB (iG ps.length U U))):=by simp only[jbt,AA,j4,jl,j7,show Int.ofNat (iG ps.length U U).length=((iG ps.length U U).length:Int) from rfl,KU]
  have pK:=jFs (zs:=zs) (ps:=ps) (cs:=cs) (s:=(nm,(ls,es))) (K:=p9 ps.length U) (U:=U) (V:=V) (J5 U _) (by omega) (λk hk=>by
   have h1:=(GD.1 hk).2.2;have h2:=uv.u1 k;have h3:=uv.v0 k;have h4:=uv.v1 k;exact⟨h1,h3,h4,by omega⟩) cA cB (T:=λp=>vO p S) hT hL (p9 ps.length U).length 0 (by omega)
  rw[show ((0:Nat):Int)=0 from rfl]at pK;simp only[j4,hG,jh,j7,lA,lB,SO,hL];rw[ai (x:=iN (iG ps.length U U)+U (-1)),ai (x:=x+691200-x),show iN (iG ps.length U U)+U (-1)=691200 by omega,show x+691200-x=691200 by omega];simp only[jh,j7,show Int.ofNat (p9 ps.length U).length=((p9 ps.length U).length:Int) from rfl,pK,j4,nw,YY]
 .rw[ah hl];simp only[ka,j6,YY,j4]
end Go.Proofs.Pw
