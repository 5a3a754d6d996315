/- The xZ that the Uf make are right. -/
import Derived.Test.YtbpjdcbbmibehaaZEPB
import Derived.Test.YtbpjdcbbmibehaaZEPA
open Go Go.Lft
namespace Go.Proofs.Pw
theorem Kr{y m k w:Int}(ew:1<=m)(ij:m<=12)(cZ:2<=k)(et:k<=5):num y m 1+7<=nth y m k w/\nth y m k w<=num y m 1+34:=by
 have hd:=xL y m ew ij;unfold nth;dsimp only;split<;>omega
theorem Ft{y m k w:Int}(ew:1<=m)(ij:m<=12)(cZ:1<=k)(et:k<=4):num y m 1<=nth y m k w/\nth y m k w<=num y m 1+27:=by
 have hd:=xL y m ew ij;unfold nth;dsimp only;split<;>omega
theorem Ks{a b:Int×Int}(h:a.1<b.1):cD [a,b]=[a,b]:=by
 simp[cD,eK,e8,show¬b.1<a.1 by omega]
theorem Kt{a b c d:Int×Int}(h1:a.1<c.1)(h2:c.1<b.1)(h3:b.1<d.1):cD [a,b,c,d]=[a,c,b,d]:=by
 simp[cD,eK,e8,show¬b.1<a.1 by omega,h2,show¬c.1<a.1 by omega,show¬d.1<b.1 by omega]
theorem Ku(r1 r2:aT)(h1:r1.1=2025)(h2:r1.2.1=2025)(h3:r2.1=2025)(h4:r2.2.1=2025):occs [r1,r2]=[bC r1 2025,bC r2 2025]:=by
 simp[occs,dK,h1,h2,h3,h4]
theorem Kv(r1 r2:aT)(h1:r1.1=2025)(h2:r1.2.1=2026)(h3:r2.1=2025)(h4:r2.2.1=2026):occs [r1,r2]=[bC r1 2025,bC r1 2026,bC r2 2025,bC r2 2026]:=by
 simp[occs,dK,h1,h2,h3,h4,List.range_succ]
theorem kS{now:Int}{p:Option Int}{x:Int×Int}{r:aR}(hx:x.2≠now)(h : -86400<x.2-now/\x.2-now<86400/\1000000<x.1-now/\x.1-now<=8589000000 /\ -64800<=x.2/\x.2<=64800)
  (hp:∀q,p=some q->q+604800<=x.1-now)(hr:Good x.2 (some (x.1-now)) r):Good now p (x::r):=by
 simp only[Good];rw[if_neg hx];exact⟨⟨h.1,h.2.1,h.2.2.1,h.2.2.2.1,hp,h.2.2.2.2.1,h.2.2.2.2.2⟩,hr⟩
theorem Ug{now:Int}{p:Option Int}{x:Int×Int}{r:aR}(hx:x.2=now)(hr:Good now p r):Good now p (x::r):=by
 simp only[Good];rw[if_pos hx];exact hr
theorem x5{P:Int->Prop}:∀q,(none:Option Int)=some q->P q:=λ_ h=>by simp at h
theorem rb{P:Int->Prop}{a:Int}(h:P a):∀q,some a=some q->P q:=λq hq=>by simp at hq;subst hq;exact h
theorem n251:num 2025 1 1=20089:=by decide
theorem n261:num 2026 1 1=20454:=by decide
theorem n252:num 2025 2 1=20120:=by decide
theorem n253:num 2025 3 1=20148:=by decide
theorem n262:num 2026 2 1=20485:=by decide
theorem n263:num 2026 3 1=20513:=by decide
structure MZ(o:Int)(rs:List aT):Prop where
 o0 : -43200<=o
 o1:o<=45000
 ok:∀r∈rs,e9 r
 len:rs.length<=2
 few:(occs rs).length<=4
 good:Good o none (cD (occs rs))
theorem MZ.tab{o:Int}{rs:List aT}(h:MZ o rs)(nm:ByteArray):xY (nm,(o,rs)) (cB o (cD (occs rs))):=
 Ue h.ok (by have:=h.o0;omega) (by have:=h.o1;omega) (by have:=h.len;omega) (by have:=h.few;omega) h.good
theorem Uh{o:Int}(h0 : -43200<=o)(h1:o<=45000):MZ o []:=⟨h0,h1,by simp,by simp,by decide,trivial⟩
theorem Kw{r1 r2:aT}(h1:e9 r1)(h2:e9 r2):∀r∈[r1,r2],e9 r:=by
 intro r hr;simp at hr;rcases hr with rfl|rfl
 .exact h1
 .exact h2
theorem Ui{o last:Int}(h0 : -43200<=o)(h1:o<=45000)(hl:last=2025\/last=2026):MZ o [(2025,(last,(3,(5,(6,(7200,o+3600)))))),(2025,(last,(10,(5,(6,(10800,o))))))]:=by
 have a1:nth 2025 3 5 6=20177:=by decide
 have a2:nth 2025 10 5 6=20387:=by decide
 have a3:nth 2026 3 5 6=20541:=by decide
 have a4:nth 2026 10 5 6=20751:=by decide
 have aM:=Kw (r1:=(2025,(last,(3,(5,(6,(7200,o+3600))))))) (r2:=(2025,(last,(10,(5,(6,(10800,o))))))) (by constructor<;>(dsimp only;omega)) (by constructor<;>(dsimp only;omega));rcases hl with rfl|rfl
 .have e:=Ku (2025,(2025,(3,(5,(6,(7200,o+3600)))))) (2025,(2025,(10,(5,(6,(10800,o)))))) rfl rfl rfl rfl;refine⟨h0,h1,aM,by simp,by rw[e];simp,?_⟩;rw[e,Ks (by simp only[bC];omega)];refine kS (by simp only[bC];omega) (by simp only[bC];omega) x5 (kS (by simp only[bC];omega) (by simp only[bC];omega) (rb (by simp only[bC];omega)) trivial)
 .have e:=Kv (2025,(2026,(3,(5,(6,(7200,o+3600)))))) (2025,(2026,(10,(5,(6,(10800,o)))))) rfl rfl rfl rfl;refine⟨h0,h1,aM,by simp,by rw[e];simp,?_⟩;rw[e,Kt (by simp only[bC];omega) (by simp only[bC];omega) (by simp only[bC];omega)]
  refine kS (by simp only[bC];omega) (by simp only[bC];omega) x5 (kS (by simp only[bC];omega) (by simp only[bC];omega) (rb (by simp only[bC];omega))
   (kS (by simp only[bC];omega) (by simp only[bC];omega) (rb (by simp only[bC];omega)) (kS (by simp only[bC];omega) (by simp only[bC];omega) (rb (by simp only[bC];omega)) trivial)))
theorem Uj{o last k1 w1 s1 c m2 k2 w2 s2:Int}(h0 : -43200<=o)(h1:o<=45000)(hl:last=2025\/last=2026)(hk:1<=k1)(aS:k1<=4)(hw:0<=w1)(Cz:w1<=6)(hs:0<=s1)(dE:s1<=82800)(hc:1800<=c)(bY:c<=14400)
  (hm:m2=2\/m2=3)(hj:2<=k2)(jB:k2<=5)(hx:0<=w2)(kZ:w2<=6)(ht:0<=s2)(tP:s2<=82800):MZ o [(2025,(last,(1,(k1,(w1,(s1,o+c)))))),(2025,(last,(m2,(k2,(w2,(s2,o))))))]:=by
 have aM:=Kw (r1:=(2025,(last,(1,(k1,(w1,(s1,o+c))))))) (r2:=(2025,(last,(m2,(k2,(w2,(s2,o))))))) (by constructor<;>(dsimp only;omega)) (by constructor<;>(dsimp only;omega));have b1:=Ft (y:=2025) (m:=1) (k:=k1) (w:=w1) (by omega) (by omega) hk aS;have b2:=Ft (y:=2026) (m:=1) (k:=k1) (w:=w1) (by omega) (by omega) hk aS;have b3:=Kr (y:=2025) (m:=m2) (k:=k2) (w:=w2) (by omega) (by omega) hj jB;have b4:=Kr (y:=2026) (m:=m2) (k:=k2) (w:=w2) (by omega) (by omega) hj jB;have c1:20120<=num 2025 m2 1/\num 2025 m2 1<=20148:=by rcases hm with rfl|rfl<;>simp[n252,n253]
 have c2:20485<=num 2026 m2 1/\num 2026 m2 1<=20513:=by rcases hm with rfl|rfl<;>simp[n262,n263]
 rw[n251]at b1;rw[n261]at b2;rcases hl with rfl|rfl
 .have e:=Ku (2025,(2025,(1,(k1,(w1,(s1,o+c)))))) (2025,(2025,(m2,(k2,(w2,(s2,o)))))) rfl rfl rfl rfl;refine⟨h0,h1,aM,by simp,by rw[e];simp,?_⟩;rw[e,Ks (by simp only[bC];omega)];refine kS (by simp only[bC];omega) (by simp only[bC];omega) x5 (kS (by simp only[bC];omega) (by simp only[bC];omega) (rb (by simp only[bC];omega)) trivial)
 .have e:=Kv (2025,(2026,(1,(k1,(w1,(s1,o+c)))))) (2025,(2026,(m2,(k2,(w2,(s2,o)))))) rfl rfl rfl rfl;refine⟨h0,h1,aM,by simp,by rw[e];simp,?_⟩;rw[e,Kt (by simp only[bC];omega) (by simp only[bC];omega) (by simp only[bC];omega)]
  refine kS (by simp only[bC];omega) (by simp only[bC];omega) x5 (kS (by simp only[bC];omega) (by simp only[bC];omega) (rb (by simp only[bC];omega))
   (kS (by simp only[bC];omega) (by simp only[bC];omega) (rb (by simp only[bC];omega)) (kS (by simp only[bC];omega) (by simp only[bC];omega) (rb (by simp only[bC];omega)) trivial)))
theorem Kx{o w s x:Int}(h0 : -43200<=o)(h1:o<=45000)(hw:0<=w)(Cz:w<=6)(hs:0<=s)(dE:s<=84600)(na : -64800<=x)(nr:x<=64800)(rN : -86400<x-o)(dP:x-o<86400):MZ o [(2026,(2026,(1,(2,(w,(s,x))))))]:=by
 have b:=Ft (y:=2026) (m:=1) (k:=2) (w:=w) (by omega) (by omega) (by omega) (by omega);rw[n261]at b;have e:occs [((2026:Int),((2026:Int),((1:Int),((2:Int),(w,(s,x))))))]=[bC (2026,(2026,(1,(2,(w,(s,x)))))) 2026]:=by simp[occs,dK]
 refine⟨h0,h1,λr hr=>?_,by simp,by rw[e];simp,?_⟩
 .simp at hr;subst hr;constructor<;>(dsimp only;omega)
 .rw[e];have hi:cD [bC (2026,(2026,(1,(2,(w,(s,x)))))) 2026]=[bC (2026,(2026,(1,(2,(w,(s,x)))))) 2026]:=by simp[cD,eK,e8]
  rw[hi];by_cases Ky:x=o
  .exact Ug Ky trivial
  .exact kS Ky (by simp only[bC];omega) x5 trivial
theorem Uk{L:List Int}{a:Int}(h:sY L a)(nm:ByteArray):∃o rs a',j4X L a nm=some ((nm,(o,rs)),L,a')/\MZ o rs/\sY L a':=by
 obtain⟨p,a1,e1,m1,d1⟩:=uS h (xs:=[(0:Int),(4:Int),(-20:Int),(22:Int),(48:Int),(-47:Int)]) (by simp) (by simp);obtain⟨x2,a2,e2,x20,x21,d2⟩:=ic (n:=2) d1 (by omega) (by omega);obtain⟨x3,a3,e3,x30,x31,d3⟩:=ic (n:=3) d2 (by omega) (by omega);obtain⟨y,a4,e4,y0,y1,d4⟩:=ic (n:=2) d3 (by omega) (by omega);obtain⟨q,a5,e5,q0,q1,d5⟩:=ic (n:=4) d4 (by omega) (by omega);have hp : -47<=p/\p<=48:=by simp at m1;omega
 have hmul:0<=x2*x3/\x2*x3<=2:=by
  obtain rfl|rfl:x2=0\/x2=1:=by omega
  all_goals omega
 have gI : -43200<=900*(p+x2*x3):=by omega
 have eX:900*(p+x2*x3)<=45000:=by omega
 have bL:2025+y=2025\/2025+y=2026:=by omega
 simp only[j4X,e1,e2,e3,e4,e5,j0];rw[ak (x:=x2*x3) (by omega) (by omega),ak (x:=p+x2*x3) (by omega) (by omega),ak (x:=900*(p+x2*x3)) (by omega) (by omega),ak (x:=2025+y) (by omega) (by omega)];generalize 900*(p+x2*x3)=o at *;generalize 2025+y=last at *;by_cases Kz:q=1
 .rw[qZ Kz,j4,ak (x:=o+3600) (by omega) (by omega)];exact⟨_,_,_,rfl,Ui gI eX bL,d5⟩
 .rw[jK Kz,j5];by_cases KA:q=2
  .rw[qZ KA,j4];obtain⟨b1,c1,f1,b10,b11,g1⟩:=ic (n:=4) d5 (by omega) (by omega);obtain⟨b2,c2,f2,AH,Ul,g2⟩:=ic (n:=7) g1 (by omega) (by omega);obtain⟨b3,c3,f3,Um,Un,g3⟩:=ic (n:=24) g2 (by omega) (by omega);obtain⟨b4,c4,f4,b40,b41,g4⟩:=ic (n:=8) g3 (by omega) (by omega);obtain⟨b5,c5,f5,b50,b51,g5⟩:=ic (n:=2) g4 (by omega) (by omega);obtain⟨b6,c6,f6,m6,g6⟩:=uS g5 (xs:=[(2:Int),(3:Int),(5:Int)]) (by simp) (by simp);obtain⟨b7,c7,f7,Uo,b71,g7⟩:=ic (n:=7) g6 (by omega) (by omega);obtain⟨b8,c8,f8,b80,b81,g8⟩:=ic (n:=24) g7 (by omega) (by omega);have h6:2<=b6/\b6<=5:=by simp at m6;omega
   simp only[f1,f2,f3,f4,f5,f6,f7,f8,j0]
   rw[ak (x:=1+b1) (by omega) (by omega),ak (x:=3600*b3) (by omega) (by omega),ak (x:=1+b4) (by omega) (by omega),ak (x:=1800*(1+b4)) (by omega) (by omega),ak (x:=o+1800*(1+b4)) (by omega) (by omega),
    ak (x:=2+b5) (by omega) (by omega),ak (x:=3600*b8) (by omega) (by omega)]
   exact⟨_,_,_,rfl,Uj gI eX bL (by omega) (by omega) AH (by omega) (by omega) (by omega) (by omega) (by omega) (by omega) h6.1 h6.2 Uo (by omega) (by omega) (by omega),g8⟩
  .rw[jK KA,j5];by_cases KB:q=3
   .rw[qZ KB,j4];obtain⟨b1,c1,f1,m1,g1⟩:=uS d5 (xs:=[(3600:Int),(-3600:Int),(82800:Int),(-82800:Int),(43200:Int)]) (by simp) (by simp);obtain⟨b2,c2,f2,AH,Ul,g2⟩:=ic (n:=7) g1 (by omega) (by omega);obtain⟨b3,c3,f3,Um,Un,g3⟩:=ic (n:=48) g2 (by omega) (by omega);have cb : -82800<=b1/\b1<=82800:=by simp at m1;omega
    simp only[f1,f2,f3,j0];rw[ak (x:=o+b1) (by omega) (by omega),ak (x:=1800*b3) (by omega) (by omega)];by_cases mM:o+b1>64800\/o+b1 < -64800
    .have hb:cond (decide (o+b1>64800)) true (decide (o+b1 < -64800))=true:=by
      rcases mM with mM|mM
      .rw[aw mM];rfl
      .rw[aw mM];cases decide (o+b1>64800)<;>rfl
     rw[hb,j4];exact⟨_,_,_,rfl,Kx gI eX AH (by omega) (by omega) (by omega) (by omega) (by omega) (by omega) (by omega),g3⟩
    .rw[ay (show¬o+b1>64800 by omega),ay (show¬o+b1 < -64800 by omega)];simp only[j5];exact⟨_,_,_,rfl,Kx gI eX AH (by omega) (by omega) (by omega) (by omega) (by omega) (by omega) (by omega),g3⟩
   .rw[jK KB,j5];exact⟨_,_,_,rfl,Uh gI eX,d5⟩
section
variable{o:Int}{l:aR}(h:jL o l)
include h
end
section
variable{o:Int}{l:aR}(h:jL o l)
include h
end
theorem Up(y:Int):j12 y=some (oV y):=Kg y
theorem AJ(y m:Int):j7c y m=some (dA y m):=by
 by_cases h:m<1\/12<m
 .have hk:∀k:Int,1<=k->k<=12->(m==k)=false:=λk h1 h2=>jK (by omega);have:dA y m=0:=if_pos h;rw[this]
  simp only[j7c,hk 1 (by omega) (by omega),hk 2 (by omega) (by omega),hk 3 (by omega) (by omega),hk 4 (by omega) (by omega),hk 5 (by omega) (by omega),hk 6 (by omega) (by omega),hk 7 (by omega) (by omega),
   hk 8 (by omega) (by omega),hk 9 (by omega) (by omega),hk 10 (by omega) (by omega),hk 11 (by omega) (by omega),hk 12 (by omega) (by omega),j5]
 .obtain rfl|rfl|rfl|rfl|rfl|rfl|rfl|rfl|rfl|rfl|rfl|rfl:m=1\/m=2\/m=3\/m=4\/m=5\/m=6\/m=7\/m=8\/m=9\/m=10\/m=11\/m=12:=by omega
  case inr.inl=>have e:j7c y 2=(j12 y).bind λr=>cond r (some (29:Int)) (some (28:Int)):=rfl;rw[e,Up,dA,Ke];simp only[j0];cases oV y<;>rfl
  all_goals rfl
theorem Uq(y m d:Int):j9t (y,m,d)=some (decide (oW y m d)):=by
 simp only[j9t,AJ,j0];by_cases hv:oW y m d
 .have hm:=Fh hv;have eS:=hv;obtain⟨a1,a2,a3,a4⟩:=hv;rw[aw (show y>=1970 from a1),aw a2,aw (show m>=1 from hm.1),aw hm.2,aw (show d>=1 from a3),aw a4,aw eS];rfl
 .rw[ay hv];by_cases a1:y>=1970
  .by_cases a2:y<=2240
   .by_cases a3:m>=1
    .by_cases a4:m<=12
     .by_cases a5:d>=1
      .rw[aw a1,aw a2,aw a3,aw a4,aw a5,ay (show¬d<=dA y m fromλh=>hv ⟨a1,a2,a5,h⟩)];rfl
      .rw[aw a1,aw a2,aw a3,aw a4,ay a5];rfl
     .rw[aw a1,aw a2,aw a3,ay a4];rfl
    .rw[aw a1,aw a2,ay a3];rfl
   .rw[aw a1,ay a2];rfl
  .rw[ay a1];rfl
theorem Ur(y:Int)(h1:1969<=y)(h2:y<=1000000000):jb7 y=some (fq y):=by
 simp only[jb7];rw[ak (x:=y-1970) (by omega) (by omega),ak (x:=y-1969) (by omega) (by omega),ak (x:=y-1901) (by omega) (by omega),ak (x:=y-1601) (by omega) (by omega)];rw[uR (show 0<=y-1969 by omega),uR (show 0<=y-1901 by omega),uR (show 0<=y-1601 by omega)];simp (disch:=omega) only[ak];congr 1;unfold fq;omega
theorem KC(y m d:Int)(hm:m<=13):∀(n:Nat)(s k:Int),1<=k->k+n=m -> -1000000000000<=s->s+31*n<=1000000000000->Aa s k y m d=some (s+gH y m-gH y k,y,m,d)
 |0,s,k,hk,hn,_,_=>by
  rw[JF];have:k=m:=by omega
  subst this;simp only[j3C,ay (show¬k<k by omega),j5,bS];congr 2;omega
 |n+1,s,k,hk,hn,h1,h2=>by
  rw[JF];have hd:=mF y k;have hc:=Fc y k hk (by omega);simp only[j3C,AJ,j0,aw (show k<m by omega),j4,bR];rw[ak (x:=s+dA y k) (by omega) (by omega),ak (x:=k+1) (by omega) (by omega)];rw[KC y m d hm n (s+dA y k) (k+1) (by omega) (by omega) (by omega) (by omega)];congr 2;omega
theorem dT{y m d:Int}(hv:oW y m d):jdY (y,m,d)=some (num y m d,0):=by
 have hm:=Fh hv;have hd:=mF y m;have hb : -1000000000<=fq y/\fq y<=1000000000:=by have:=hv.1;have:=hv.2.1;unfold fq;omega
 have hc:=Kf y m;obtain⟨h1,h2,h3,h4⟩:=id hv;simp only[jdY,Uq,aw hv,j0,jc,j5,Ur y (by omega) (by omega),KC y m d (by omega) (m-1).toNat (fq y) 1 (by omega) (by omega) (by omega) (by omega)];have:gH y 1=0:=rfl;rw[ak (x:=fq y+gH y m-gH y 1+d) (by omega) (by omega),ak (by omega) (by omega)];unfold num;congr 2;omega
theorem KD(d:Int):j8Q d=j3P d:=rfl
theorem KE(y m k w n e:Int)(iy:0<=n)(gE:n<=1000000)(Fu:e<=6)(AK:(n+e+3)%7=w) :
  ∀(j:Nat)(s:Int),0<=s->s+j=e->Ab y m k w n (n+s)=some (y,m,k,n,n+e)
 |0,s,hs,hj=>by
  rw[JG];have:s=e:=by omega
  subst this;have hb:((n+s+3)%7 != w)=false:=by simp[AK]
  simp only[j3D,KD,Fg (n+s) (by omega),j0,hb,j5,bS]
 |j+1,s,hs,hj=>by
  rw[JG];have hb:((n+s+3)%7 != w)=true:=by simp only[bne_iff_ne,ne_eq];omega
  simp only[j3D,KD,Fg (n+s) (by omega),j0,hb,j4,bR];rw[ak (x:=n+s+1) (by omega) (by omega),show n+s+1=n+(s+1) by omega];exact KE y m k w n e iy gE Fu AK j (s+1) (by omega) (by omega)
theorem Fv(y m n t:Int)(iy:0<=n)(gE:n<=1000000)(Us:t<n+dA y m)(ur:n+dA y m<=t+7)(oX : -1000<=t) :
  ∀(j:Nat)(s:Int),s+7*j=t -> -1000<=s->Ac y m n s=some t
 |0,s,hs,_=>by
  have hd:=mF y m;rw[JH];have:s=t:=by omega
  subst this;simp only[j3E,AJ,j0];rw[ak (x:=s+7) (by omega) (by omega),ak (x:=n+dA y m) (by omega) (by omega),ay (show¬s+7<n+dA y m by omega),j5,bS]
 |j+1,s,hs,h1=>by
  have hd:=mF y m;rw[JH];simp only[j3E,AJ,j0];rw[ak (x:=s+7) (by omega) (by omega),ak (x:=n+dA y m) (by omega) (by omega),aw (show s+7<n+dA y m by omega),j4,bR];exact Fv y m n t iy gE Us ur oX j (s+7) (by omega) (by omega)
theorem dU(y m k w:Int)(h1:1970<=y)(h2:y<=2240)(ew:1<=m)(ij:m<=12)(cZ:1<=k)(et:k<=5)(Ce:0<=w)(qH:w<=6):jdZ y m k w=some (nth y m k w,0):=by
 have hv:=xN y m h1 h2 ew ij;have hr:=xM hv;have hd:=xL y m ew ij;have jY:=mF y m;simp only[jdZ,dT hv,j0,je];rw[ay (show¬k<1 by omega),ay (show¬k>5 by omega),ay (show¬w<0 by omega),ay (show¬w>6 by omega)];simp only[j5];unfold nth;generalize num y m 1=n at *;obtain⟨e,he0,Fu,AK,wP⟩:∃e,0<=e/\e<=6/\(n+e+3)%7=w/\n+(w-(n+3)%7+7)%7=n+e:=⟨(w-(n+3)%7+7)%7,by omega,by omega,by omega,rfl⟩;rw[wP];have hl:=KE y m k w n e hr.1 (by omega) Fu AK e.toNat 0 (by omega) (by omega);rw[Int.add_zero]at hl;simp only[hl,j0];by_cases hk:k<5
 .rw[aw hk,j4,ak (x:=k-1) (by omega) (by omega),ak (x:=7*(k-1)) (by omega) (by omega),ak (by omega) (by omega),if_neg (by omega)]
 .have gG:k=5:=by omega
  subst gG;rw[ay hk,j5];by_cases hc:n+e+7*(5-1)>=n+dA y m
  .rw[Fv y m n (n+e+21) hr.1 (by omega) (by omega) (by omega) (by omega) 3 (n+e) (by omega) (by omega),if_pos hc];simp only[j0];congr 2;omega
  .rw[Fv y m n (n+e+28) hr.1 (by omega) (by omega) (by omega) (by omega) 4 (n+e) (by omega) (by omega),if_neg hc];simp only[j0];congr 2
theorem KF{x y:Int×Int}:∀{l:aR},y∈e8 x l->y=x\/y∈l
 |[],h=>by simp[e8]at h;exact .inl h
 |z::zs,h=>by
  unfold e8 at h;split at h
  .rcases jf.1 h with rfl|h
   .exact .inr (by simp)
   .rcases KF h with h|h
    .exact .inl h
    .exact .inr (by simp[h])
  .rcases jf.1 h with rfl|h
   .exact .inl rfl
   .exact .inr h
theorem KG{y:Int×Int}:∀{l acc:aR},y∈eK l acc->y∈l\/y∈acc
 |[],_,h=> .inr h
 |x::xs,acc,h=>by
  rcases KG (l:=xs) h with h|h
  .exact .inl (by simp[h])
  .rcases KF h with rfl|h
   .exact .inl (by simp)
   .exact .inr h
theorem Ut{y:Int×Int}{l:aR}(h:y∈cD l):y∈l:=by
 rcases KG (List.mem_reverse.1 h) with h|h
 .exact h
 .simp at h
theorem Uu{x:Int×Int}{l:List aT}(h:x∈occs l):∃r∈l,∃j:Nat,(j:Int)<=r.2.1-r.1/\x=bC r (r.1+(j:Int)):=by
 obtain⟨r,hr,hx⟩:=List.mem_flatMap.1 h;obtain⟨i,hi,rfl⟩:=k9.1 hx;have hi:=List.mem_range.1 hi;exact⟨r,hr,i,by omega,rfl⟩
theorem fE{n lo hi:Int}(h1:lo<=n)(h2:n<=hi):j3Z n lo hi=some true:=by
 simp only[j3Z];rw[aw (show n>=lo from h1),aw h2];rfl
theorem re{n lo hi:Int}(h:¬(lo<=n/\n<=hi)):j3Z n lo hi=some false:=by
 simp only[j3Z];by_cases h1:n>=lo
 .rw[aw h1,ay (λh2=>h ⟨h1,h2⟩)];rfl
 .rw[ay h1];rfl
theorem Uv{r:aT}(h:e9 r):j59 r=some true:=by
 simp only[j59,fE h.y0 (show r.1<=2240 by have:=h.y1;have:=h.y2;omega),fE h.y1 h.y2,fE h.m0 h.m1,fE h.k0 h.k1,fE h.d0 h.d1,fE h.s0 h.s1,fE h.o0 h.o1,j0,j4]
theorem KH(x:Int×Int):∀l:aR,e8 x l=l.takeWhile (λy=>decide (x.1<y.1))++x::l.dropWhile (λy=>decide (x.1<y.1))
 |[]=>rfl
 |y::ys=>by
  unfold e8;by_cases h:x.1<y.1
  .rw[if_pos h,KH x ys];simp[h]
  .rw[if_neg h];simp[h]
theorem KI{rs:List aT}{i y a b:Int}:∀(rp mid:aR),rp.length+mid.length<=100000->
  xx rs i y (rp.length:Int) a b (rp.reverse++mid)=some (rs,i,y,((rp.dropWhile (λz=>decide (a<z.1))).length:Int),a,b,rp.reverse++mid)
 |[],mid,_=>by
  rw[JI];simp only[j1F];rw[ay (by simp),j5,bS];rfl
 |z::zs,mid,hl=>by
  have hL:((z::zs).reverse++mid).length=zs.length+1+mid.length:=by simp;omega
  simp only[jn]at hl;have g2:((z::zs).reverse++mid).getD ((((zs.length+1:Nat):Int)-1).toNat) ((0:Int),(0:Int))=z:=by rw[show (((zs.length+1:Nat):Int)-1).toNat=zs.length by omega];simp
  rw[JI];simp only[j1F,jn];simp only[ak (x:=((zs.length+1:Nat):Int)-1) (by omega) (by omega),g2];rw[aw (show ((zs.length+1:Nat):Int)>0 by omega),bG (by omega) (by rw[hL];omega)];simp only[j4];by_cases hc:a<z.1
  .rw[aw (show z.1>a from hc)];simp only[j4,bR];have ih:=KI (rs:=rs) (i:=i) (y:=y) (a:=a) (b:=b) zs (z::mid) (by simp;omega);have e:(z::zs).reverse++mid=zs.reverse++z::mid:=by simp
   rw[e,show ((zs.length+1:Nat):Int)-1=(zs.length:Int) by omega,ih];simp[hc]
  .rw[ay (show¬z.1>a from hc)];simp only[j5,bS];simp[hc]
theorem Uw(l:aR)(x:Int×Int){k:Nat}(hk:k<=l.length):List.set (over (l++[x]) (k+1) (List.drop k (l++[x]))) k x=l.take k++x::l.drop k:=by
 have h1:(l++[x]).length=l.length+1:=by simp
 unfold over;rw[h1,jh (show (l++[x]).length<=k+1+(List.drop k (l++[x])).length by simp;omega),jw];have e1:List.drop k (l++[x])=List.drop k l++[x]:=by rw[List.drop_append_of_le_length hk]
 rw[e1];have e2:List.take (l.length+1-(k+1)) (List.drop k l++[x])=List.drop k l:=by rw[List.take_append_of_le_length (by simp),List.take_of_length_le (by simp)]
 rw[e2];by_cases h:k<l.length
 .have e3:List.take (k+1) (l++[x])=l.take k++[l[k]]:=by rw[List.take_append_of_le_length (by omega),List.take_succ_eq_append_getElem h]
  rw[e3,jd,List.set_append_right _ _ (by simp;omega)];simp[Nat.min_eq_left hk]
 .have aS:k=l.length:=by omega
  subst aS;have e3:List.take (l.length+1) (l++[x])=l++[x]:=List.take_of_length_le (by simp);rw[e3];simp
theorem KJ{rs:List aT}{i:Nat}(hi:i<rs.length){r:aT}(hr:rs[i]=r)(h:e9 r):∀(n j:Nat)(acc:aR),r.1+(j:Int)+n=r.2.1+1->acc.length+n<=90000->
  Ad rs (i:Int) (r.1+(j:Int)) acc.reverse=some (rs,(i:Int),(eK ((List.range n).map λ(q:Nat)=>bC r (r.1+(j:Int)+(q:Int))) acc).reverse)
 |0,j,acc,hj,_=>by
  have hg:rs.getD i ((0:Int),((0:Int),((0:Int),((0:Int),((0:Int),((0:Int),(0:Int)))))))=r:=by simp[hi,hr]
  rw[JJ];simp only[j1G];rw[bG (by omega) (by omega)];simp only[j4,j6,hg];rw[ay (by omega),j5,bS];rfl
 |n+1,j,acc,hj,hl=>by
  have hg:rs.getD i ((0:Int),((0:Int),((0:Int),((0:Int),((0:Int),((0:Int),(0:Int)))))))=r:=by simp[hi,hr]
  have h0:=h.y0;have h2:=h.y2;have il:=h.s0;have gC:=h.s1;have hv:=xM (xN (r.1+(j:Int)) r.2.2.1 (by omega) (by omega) h.m0 h.m1);have hn:=Fk (w:=r.2.2.2.2.1) (y:=r.1+(j:Int)) (by omega) (by omega) h.m0 h.m1 h.k0 h.k1;have hd:=mF (r.1+(j:Int)) r.2.2.1;rw[JJ];simp only[j1G];rw[bG (by omega) (by omega)];simp only[j4,j6,hg];rw[aw (show r.1+(j:Int)<=r.2.1 by omega),dU _ _ _ _ (by omega) (by omega) h.m0 h.m1 h.k0 h.k1 h.d0 h.d1];simp only[j4,j0];rw[ak (x:=nth (r.1+(j:Int)) r.2.2.1 r.2.2.2.1 r.2.2.2.2.1*86400) (by omega) (by omega),ak (x:=nth (r.1+(j:Int)) r.2.2.1 r.2.2.2.1 r.2.2.2.2.1*86400+r.2.2.2.2.2.1) (by omega) (by omega)];have xW:=KI (rs:=rs) (i:=(i:Int)) (y:=r.1+(j:Int)) (a:=(bC r (r.1+(j:Int))).1) (b:=(bC r (r.1+(j:Int))).2) acc [] (by simp;omega);rw[jw]at xW;rw[show Int.ofNat (List.length acc.reverse)=(acc.length:Int) by simp];rw[show xx rs (i:Int) (r.1+(j:Int)) (acc.length:Int) (nth (r.1+(j:Int)) r.2.2.1 r.2.2.2.1 r.2.2.2.2.1*86400+r.2.2.2.2.2.1) r.2.2.2.2.2.2 acc.reverse=_ from xW];simp only[j0];generalize hx:bC r (r.1+(j:Int))=x at *;have jZ:(acc.dropWhile (λz=>decide (x.1<z.1))).length<=acc.length:=(List.dropWhile_sublist _).length_le;generalize hD:acc.dropWhile (λz=>decide (x.1<z.1))=D at *;have rf:(acc.reverse++[(x.1,x.2)]).length=acc.length+1:=by simp
  rw[aw (by simp[cY];omega)];simp only[j4]
  rw[ak (x:=(D.length:Int)+1) (by omega) (by omega),aw (show (0:Int)<=(D.length:Int)+1 by omega),aw (show (D.length:Int)+1<=Int.ofNat (acc.reverse++[(x.1,x.2)]).length by rw[rf];show (D.length:Int)+1<=((acc.length+1:Nat):Int);omega),
   aw (show (0:Int)<=(D.length:Int) by omega),aw (show (D.length:Int)<=Int.ofNat (acc.reverse++[(x.1,x.2)]).length by rw[rf];show (D.length:Int)<=((acc.length+1:Nat):Int);omega)]
  simp only[Bool.and_self,j4,j6,show ((D.length:Int)+1).toNat=D.length+1 by omega];have tR:(over (acc.reverse++[(x.1,x.2)]) (D.length+1) (List.drop D.length (acc.reverse++[(x.1,x.2)]))).length=acc.length+1:=by unfold over;simp;omega
  rw[bG (by omega) (by rw[tR];omega),Uw acc.reverse (x.1,x.2) (by simpa using jZ)];simp only[j4];rw[ak (x:=r.1+(j:Int)+1) (by omega) (by omega),bR];have sZ:acc.reverse.take D.length++(x.1,x.2)::acc.reverse.drop D.length=(e8 x acc).reverse:=by have bW:=List.takeWhile_append_dropWhile (p:=λz:Int×Int=>decide (x.1<z.1)) (l:=acc);rw[KH,hD];rw[hD]at bW;generalize acc.takeWhile (λz=>decide (x.1<z.1))=T at bW ⊢;rw[<-bW];simp
  rw[sZ];have ih:=KJ hi hr h n (j+1) (e8 x acc) (by omega) (by rw[xJ];omega);rw[show r.1+(j:Int)+1=r.1+((j+1:Nat):Int) by omega];refine ih.trans ?_
  have s7:(List.range n).map (λ(q:Nat)=>bC r (r.1+((j+1:Nat):Int)+(q:Int)))=(List.range n).map ((λ(q:Nat)=>bC r (r.1+(j:Int)+(q:Int))) ∘ Nat.succ):=List.map_congr_left λq _=>by
   simp only[Function.comp];congr 1;omega
  rw[List.range_succ_eq_map,qi,List.map_map,s7];simp[eK,hx]
theorem KK:∀(a b acc:aR),eK (a++b) acc=eK b (eK a acc)
 |[],_,_=>rfl
 |x::a,b,acc=>by simp only[kj,eK];exact KK a b _
theorem KL{rs:List aT}(h:∀r∈rs,e9 r)(hlen:rs.length<=100):∀(n i:Nat)(acc:aR),i+n=rs.length->acc.length<=300*i->
  xy rs (i:Int) acc.reverse=some (eK (occs (rs.drop i)) acc).reverse
 |0,i,acc,hi,_=>by
  rw[JK];simp only[j1H,show Int.ofNat (List.length rs)=(rs.length:Int) from rfl];rw[ay (by omega),j5,bS,jh (by omega)];rfl
 |n+1,i,acc,hi,hl=>by
  have ax:i<rs.length:=by omega
  have hr:=h rs[i] (qh ax);have h0:=hr.y0;have h1:=hr.y1;have h2:=hr.y2;have hg:rs.getD i ((0:Int),((0:Int),((0:Int),((0:Int),((0:Int),((0:Int),(0:Int)))))))=rs[i]:=by simp[ax]
  have vD:=KJ ax rfl hr (rs[i].2.1-rs[i].1+1).toNat 0 acc (by omega) (by omega);rw[show rs[i].1+((0:Nat):Int)=rs[i].1 by omega]at vD;have ih:=KL h hlen n (i+1) (eK (dK rs[i]) acc) (by omega) (by rw[xK];simp[dK];omega);rw[JK];simp only[j1H,show Int.ofNat (List.length rs)=(rs.length:Int) from rfl];rw[aw (show (i:Int)<(rs.length:Int) by omega),bG (by omega) (by omega)];simp only[j4,j6,hg,vD,j0];rw[ak (by omega) (by omega),bR,jo ax];refine ih.trans ?_;show _=some (eK (dK rs[i]++occs (rs.drop (i+1))) acc).reverse;rw[KK]
theorem KM{rs:List aT}(h:∀r∈rs,e9 r)(hlen:rs.length<=100):j4s rs=some (cD (occs rs)):=by
 have e:=KL h hlen rs.length 0 [] (by omega) (by simp);simp only[j4s];rw[show xy rs 0 []=_ from e];rfl
theorem Fw{rs:List aT}(h:∀r∈rs,e9 r)(hlen:rs.length<=100)(nm:ByteArray)(o:Int):∀(n i:Nat)(s:Int),i+n=rs.length->0<=s->s<=300*i->
  uK s (i:Int) nm o rs=some (.inr (s+((occs (rs.drop i)).length:Int),nm,o,rs))
 |0,i,s,hi,_,_=>by
  rw[Ef];simp only[j1k,show Int.ofNat (List.length rs)=(rs.length:Int) from rfl];rw[ay (by omega),j5,bS,jh (by omega)];simp[occs]
 |n+1,i,s,hi,il,gC=>by
  have ax:i<rs.length:=by omega
  have hr:=h rs[i] (qh ax);have h0:=hr.y0;have h1:=hr.y1;have h2:=hr.y2;have hg:rs.getD i ((0:Int),((0:Int),((0:Int),((0:Int),((0:Int),((0:Int),(0:Int)))))))=rs[i]:=by simp[ax]
  have ih:=Fw h hlen nm o n (i+1) (s+(rs[i].2.1-rs[i].1+1)) (by omega) (by omega) (by omega);have mL:j59 (rs[i].1,(rs[i].2.1,(rs[i].2.2.1,(rs[i].2.2.2.1,(rs[i].2.2.2.2.1,(rs[i].2.2.2.2.2.1,rs[i].2.2.2.2.2.2))))))=some true:=Uv hr;rw[Ef];simp only[j1k,show Int.ofNat (List.length rs)=(rs.length:Int) from rfl];rw[aw (show (i:Int)<(rs.length:Int) by omega),bG (by omega) (by omega)];simp only[j4,j6,hg,mL,j0,jc,j5];rw[ak (x:=rs[i].2.1-rs[i].1) (by omega) (by omega),ak (x:=rs[i].2.1-rs[i].1+1) (by omega) (by omega),ak (x:=s+(rs[i].2.1-rs[i].1+1)) (by omega) (by omega),ak (x:=(i:Int)+1) (by omega) (by omega),bR];refine ih.trans ?_;rw[jo ax]
  have:((occs (rs[i]::rs.drop (i+1))).length:Int)=(rs[i].2.1-rs[i].1+1)+((occs (rs.drop (i+1))).length:Int):=by
   have e1:(dK rs[i]).length=(rs[i].2.1-rs[i].1+1).toNat:=by simp[dK]
   show ((dK rs[i]++occs (rs.drop (i+1))).length:Int)=_;rw[ja,e1];omega
  rw[this];congr 3;omega
theorem Fx(L:aR)(hL:L.length<=1000):∀(n i:Nat)(now:Int)(acc:aR),i+n=L.length -> -64800<=now->now<=64800->acc.length<=i->(∀x∈acc,0<=x.1/\x.1<=8589934592)->Good now (acc.getLast?.map (·.1)) (L.drop i)->
  uL now (i:Int) acc L=some (.inr (acc++cB now (L.drop i)))
 |0,i,now,acc,hi,_,_,_,_,_=>by
  rw[Ae];simp only[j13,show Int.ofNat (List.length L)=(L.length:Int) from rfl];rw[ay (by omega),j5,bS,jh (by omega)];simp[cB]
 |n+1,i,now,acc,hi,iy,gE,kI,fa,hg=>by
  have ax:i<L.length:=by omega
  rw[jo ax]at hg ⊢;have xX:L.getD i ((0:Int),(0:Int))=L[i]:=by simp[ax]
  rw[Ae];simp only[j13,show Int.ofNat (List.length L)=(L.length:Int) from rfl];rw[aw (show (i:Int)<(L.length:Int) by omega),bG (by omega) (by omega)];simp only[j4,j6,xX];generalize L[i]=x at *;rw[ak (x:=(i:Int)+1) (by omega) (by omega)];simp only[Good]at hg;by_cases hx:x.2=now
  .rw[if_pos hx]at hg;rw[qZ hx];simp only[j4,bR,cB];rw[if_pos hx];exact Fx L hL n (i+1) now acc (by omega) iy gE (by omega) fa hg
  .rw[if_neg hx]at hg;obtain⟨⟨g1,g2,g3,g4,g5,g6,g7⟩,g8⟩:=hg;rw[jK hx,ak (x:=x.1-now) (by omega) (by omega),ak (x:=x.2-now) (by omega) (by omega)];simp only[j5,fE (show (-86399:Int)<=x.2-now by omega) (show x.2-now<=86399 by omega),fE (show (0:Int)<=x.1-now by omega) (show x.1-now<=8589934592 by omega),j0,jc,show Int.ofNat (List.length acc)=(acc.length:Int) from rfl]
   have dy:=Fx L hL n (i+1) x.2 (acc++[(x.1-now,x.2)]) (by omega) g6 g7 (by simp;omega)
    (λy hy=>by
     rcases jq.1 hy with hy|hy
     .exact fa y hy
     .simp at hy;subst hy;exact⟨by show (0:Int)<=x.1-now;omega,by show x.1-now<=8589934592;omega⟩) (by simpa using g8)
   have cS:cB now (x::L.drop (i+1))=(x.1-now,x.2)::cB x.2 (L.drop (i+1)):=by simp[cB,hx]
   rw[cS];rw[jd]at dy;rw[ak (x:=(acc.length:Int)-1) (by omega) (by omega)];by_cases ha:acc=[]
   .subst ha;simp only[ku];rw[show decide (((0:Nat):Int)>0)=false from rfl];simp only[j5];rw[aw (by simp[cY])];simp only[j4,bR];exact dy
   .have bZ:0<acc.length:=kc.2 ha;have bL:acc.getLast? = some (acc.getD (acc.length-1) (0,0)):=by rw[List.getLast?_eq_getElem?,jl,jt (show acc.length-1<acc.length by omega)];rfl
    rw[bL]at g5;have g5:(acc.getD (acc.length-1) ((0:Int),(0:Int))).1+604800<=x.1-now:=g5 _ rfl;have hb:=fa (acc.getD (acc.length-1) (0,0)) (List.mem_of_getLast? bL);rw[bG (by omega) (by omega),aw (show (acc.length:Int)>0 by omega),show ((acc.length:Int)-1).toNat=acc.length-1 by omega];simp only[j4];rw[ak (by omega) (by omega),ay (show¬x.1-now-(acc.getD (acc.length-1) ((0:Int),(0:Int))).1<604800 by omega),aw (by simp[cY];omega)];simp only[j4,j5,bR];exact dy
theorem Ux{nm:ByteArray}{o:Int}{rs:List aT}(h:∀r∈rs,e9 r)(gI : -64800<=o)(eX:o<=64800)(hlen:rs.length<=16)(hn:(occs rs).length<=640)(hg:Good o none (cD (occs rs))) :
  j0t (nm,(o,rs))=some (cB o (cD (occs rs)),0):=by
 have hl:(cD (occs rs)).length<=1000:=by simp[cD,xK];omega
 have e0:=Fw h (by omega) nm o rs.length 0 0 (by omega) (by omega) (by omega);rw[qx]at e0;have e2:=Fx (cD (occs rs)) hl (cD (occs rs)).length 0 o [] (by omega) gI eX (by simp) (by simp) hg;rw[qx]at e2;simp only[j0t,fE gI eX,j0,jc,j5,show Int.ofNat (List.length rs)=(rs.length:Int) from rfl];rw[ay (show¬(rs.length:Int)>16 by omega),j5,show uK 0 0 nm o rs=_ from e0];simp only[j0,ln];rw[ay (by omega),j5,KM h (by omega)];simp only[j0];rw[show uL o 0 [] (cD (occs rs))=_ from e2];rfl
def Z4(z:ByteArray×(Int×List aT))(l:aR):Prop:=j0t z=some (l,0)/\jL z.2.1 l
theorem MZ.r4{o:Int}{rs:List aT}(h:MZ o rs)(nm:ByteArray):Z4 (nm,(o,rs)) (cB o (cD (occs rs))):=by
 have ht:=h.tab nm;refine⟨Ux h.ok (by have:=h.o0;omega) (by have:=h.o1;omega) ?_ ?_ h.good,ht.2⟩
 .have:=h.len;omega
 .have:=h.few;omega
section
variable{o:Int}{l:aR}(h:jL o l)
include h
end
theorem Uy{t o:Int}(h1 : -864000<=t+o)(h2:t+o<=1000000000000):j9y t o=some ((t+o)/86400,(t+o)%86400):=by
 simp only[j9y];rw[ak (x:=t+o) (by omega) (by omega),ak (x:=t+o+864000) (by omega) (by omega),uR (by omega),AD (by omega),ak (x:=(t+o+864000)/86400) (by omega) (by omega),ak (by omega) (by omega)];congr 2<;>omega
section
variable{z:ByteArray×(Int×List aT)}{l:aR}(h:Z4 z l)
include h
end
section
variable{o:Int}{l:aR}(h:jL o l)
include h
def gu(o:Int)(l:aR)(s:Int):Nat->Nat->List Int
 |_,0=>[]
 |j,n+1=>(if kR o l s j then [s-bX o l j] else [])++gu o l s (j+1) n
omit h in
theorem KN(s:Int):∀n j,(gu o l s j n).length<=n
 |0,_=>by simp[gu]
 |n+1,j=>by
  have:=KN s n (j+1);simp only[gu];split<;>simp<;>omega
omit h in
theorem KO{s:Int}{j:Nat}:(cond (decide (s-bX o l j>=aA l j)) (decide (s-bX o l j<aA l (j+1))) false)=decide (kR o l s j):=by
 by_cases h1:aA l j<=s-bX o l j
 .rw[aw (show s-bX o l j>=aA l j from h1),j4];by_cases h2:s-bX o l j<aA l (j+1)
  .rw[aw h2,aw (show kR o l s j from⟨h1,h2⟩)]
  .rw[ay h2,ay (λhs:kR o l s j=>h2 hs.2)]
 .rw[ay (show¬s-bX o l j>=aA l j from h1),j5,ay (λhs:kR o l s j=>h1 hs.1)]
end
section
variable{z:ByteArray×(Int×List aT)}{l:aR}(h:Z4 z l)
include h
end
end Go.Proofs.Pw
