/- Twins with a bound on their rounds, printed by a program. -/
import Derived.Test.YtbpjdcbbmibehaaZEFns
import Derived.Test.YtbpjdcbbmibehaaZELD
import Derived.KernelRfl
import Derived.Test.YtbpjdcbbmibehaaZEPA
open Go Go.Lft
set_option linter.unusedVariables false
set_option maxRecDepth 100000
namespace Go.Proofs.Pw
noncomputable section
theorem Td(N a b c d e):OLe (@uC (bV N) a b c d e) (uC a b c d e):=OLe.loop N _ λ_=>oR _
theorem Te(N a):OLe (@j3A (bV N) a) (j3A a):=by
 unfold j3A;with_reducible repeat' (first|exact oR _|exact oN _|exact Td N _ _ _ _ _|apply oC|apply oS|refine oB ?_ ?_|intro _)
theorem Tf(N a b c d):OLe (@j5J (bV N) a b c d) (j5J a b c d):=by
 unfold j5J;with_reducible repeat' (first|exact oR _|exact oN _|exact Te N _|apply oC|apply oS|refine oB ?_ ?_|intro _)
theorem Tg(N a b c d e):OLe (@sS (bV N) a b c d e) (sS a b c d e):=OLe.loop N _ λ_=>oR _
theorem Th(N a b c d):OLe (@j02 (bV N) a b c d) (j02 a b c d):=by
 unfold j02;with_reducible repeat' (first|exact oR _|exact oN _|exact Tg N _ _ _ _ _|apply oC|apply oS|refine oB ?_ ?_|intro _)
theorem Ti(N a b c d):OLe (@sT (bV N) a b c d) (sT a b c d):=OLe.loop N _ λ_=>Th N _ _ _ _
theorem Ki(N a b c):OLe (@j05 (bV N) a b c) (j05 a b c):=by
 unfold j05;with_reducible repeat' (first|exact oR _|exact oN _|exact Ti N _ _ _ _|apply oC|apply oS|refine oB ?_ ?_|intro _)
theorem Tj(N a b c d e):OLe (@sU (bV N) a b c d e) (sU a b c d e):=OLe.loop N _ λ_=>oR _
theorem Kj(N a b c d):OLe (@j0e (bV N) a b c d) (j0e a b c d):=by
 unfold j0e;with_reducible repeat' (first|exact oR _|exact oN _|exact Tj N _ _ _ _ _|apply oC|apply oS|refine oB ?_ ?_|intro _)
theorem Tk(N a b c d):OLe (@j0n (bV N) a b c d) (j0n a b c d):=by
 unfold j0n;with_reducible repeat' (first|exact oR _|exact oN _|exact Kj N _ _ _ _|apply oC|apply oS|refine oB ?_ ?_|intro _)
theorem Tl(N a b c d):OLe (@uE (bV N) a b c d) (uE a b c d):=OLe.loop N _ λ_=>Tk N _ _ _ _
theorem Tm(N a b c d):OLe (@j0m (bV N) a b c d) (j0m a b c d):=by
 unfold j0m;with_reducible repeat' (first|exact oR _|exact oN _|exact Tl N _ _ _ _|exact Kj N _ _ _ _|apply oC|apply oS|refine oB ?_ ?_|intro _)
theorem Tn(N:Nat)(rec bh:af->Int->Int->Int->Option (af))(aX:∀v0 v1 v2 v3,OLe (rec v0 v1 v2 v3) (bh v0 v1 v2 v3))(s1 mG xP:Int)(b0:af):OLe (@oT (bV N) rec s1 mG xP b0) (oT bh s1 mG xP b0):=OLe.loop N _ λh=>OLe.refl _
theorem To(rec bh:af->Int->Int->Int->Option (af))(aX:∀v0 v1 v2 v3,OLe (rec v0 v1 v2 v3) (bh v0 v1 v2 v3))(s1 mG xP:Int)(b0:af):OLe (oT rec s1 mG xP b0) (oT bh s1 mG xP b0):=OLe.loopOpt _ λh=>OLe.refl _
theorem Tp(N:Nat)(rec bh:af->Int->Int->Int->Option (af))(aX:∀v0 v1 v2 v3,OLe (rec v0 v1 v2 v3) (bh v0 v1 v2 v3))(mG xQ:Int)(b0:af):OLe (@qR (bV N) rec mG xQ b0) (qR bh mG xQ b0):=OLe.loop N _ λh=>OLe.refl _
theorem Tq(rec bh:af->Int->Int->Int->Option (af))(aX:∀v0 v1 v2 v3,OLe (rec v0 v1 v2 v3) (bh v0 v1 v2 v3))(mG xQ:Int)(b0:af):OLe (qR rec mG xQ b0) (qR bh mG xQ b0):=OLe.loopOpt _ λh=>OLe.refl _
theorem Tr(N:Nat)(rec bh:af->Int->Int->Int->Option (af))(aX:∀v0 v1 v2 v3,OLe (rec v0 v1 v2 v3) (bh v0 v1 v2 v3))(s2 mH xR:Int)(b0:af):OLe (@oU (bV N) rec s2 mH xR b0) (oU bh s2 mH xR b0):=OLe.loop N _ λh=>OLe.refl _
theorem Ts(rec bh:af->Int->Int->Int->Option (af))(aX:∀v0 v1 v2 v3,OLe (rec v0 v1 v2 v3) (bh v0 v1 v2 v3))(s2 mH xR:Int)(b0:af):OLe (oU rec s2 mH xR b0) (oU bh s2 mH xR b0):=OLe.loopOpt _ λh=>OLe.refl _
theorem Tt(N:Nat)(rec bh:af->Int->Int->Int->Option (af))(aX:∀v0 v1 v2 v3,OLe (rec v0 v1 v2 v3) (bh v0 v1 v2 v3))(mH xS:Int)(b0:af):OLe (@qS (bV N) rec mH xS b0) (qS bh mH xS b0):=OLe.loop N _ λh=>OLe.refl _
theorem Tu(rec bh:af->Int->Int->Int->Option (af))(aX:∀v0 v1 v2 v3,OLe (rec v0 v1 v2 v3) (bh v0 v1 v2 v3))(mH xS:Int)(b0:af):OLe (qS rec mH xS b0) (qS bh mH xS b0):=OLe.loopOpt _ λh=>OLe.refl _
theorem Tv(N:Nat)(rec bh:af->Int->Int->Int->Option (af))(aX:∀v0 v1 v2 v3,OLe (rec v0 v1 v2 v3) (bh v0 v1 v2 v3))(s1 s2 s3 s18 s19 xT xU xV:Int)(b0:af):OLe (@nB (bV N) rec s1 s2 s3 s18 s19 xT xU xV b0) (nB bh s1 s2 s3 s18 s19 xT xU xV b0):=OLe.loop N _ λh=>OLe.refl _
theorem Tw(rec bh:af->Int->Int->Int->Option (af))(aX:∀v0 v1 v2 v3,OLe (rec v0 v1 v2 v3) (bh v0 v1 v2 v3))(s1 s2 s3 s18 s19 xT xU xV:Int)(b0:af):OLe (nB rec s1 s2 s3 s18 s19 xT xU xV b0) (nB bh s1 s2 s3 s18 s19 xT xU xV b0):=OLe.loopOpt _ λh=>OLe.refl _
theorem Tx(N:Nat)(rec bh:af->Int->Int->Int->Option (af))(aX:∀v0 v1 v2 v3,OLe (rec v0 v1 v2 v3) (bh v0 v1 v2 v3))(ec:af)(mI mJ mK:Int):OLe (@nC (bV N) rec ec mI mJ mK) (nC bh ec mI mJ mK):=by
 unfold nC;with_reducible repeat' (first|exact oR _|exact oN _|exact aX _ _ _ _|exact Tn N _ _ aX _ _ _ _|exact Tp N _ _ aX _ _ _|exact Tr N _ _ aX _ _ _ _|exact Tt N _ _ aX _ _ _|exact Tv N _ _ aX _ _ _ _ _ _ _ _ _|exact Tm N _ _ _ _|apply oC|apply oS|refine oB ?_ ?_|intro _)
theorem Tz(rec bh:af->Int->Int->Int->Option (af))(aX:∀v0 v1 v2 v3,OLe (rec v0 v1 v2 v3) (bh v0 v1 v2 v3))(ec:af)(mI mJ mK:Int):OLe (nC rec ec mI mJ mK) (nC bh ec mI mJ mK):=by
 unfold nC;with_reducible repeat' (first|exact oR _|exact oN _|exact aX _ _ _ _|exact To _ _ aX _ _ _ _|exact Tq _ _ aX _ _ _|exact Ts _ _ aX _ _ _ _|exact Tu _ _ aX _ _ _|exact Tw _ _ aX _ _ _ _ _ _ _ _ _|apply oC|apply oS|refine oB ?_ ?_|intro _)
theorem TA(N:Nat)(g g':(af×Int×Int×Int)->Option (af))(hg:∀a,OLe (g a) (g' a))(h:af×Int×Int×Int):OLe (@j06 (bV N) g h) (j06 g' h):=Tx N _ _ (by intros;exact hg _) _ _ _ _
theorem TB(g g':(af×Int×Int×Int)->Option (af))(hg:∀a,OLe (g a) (g' a))(h:af×Int×Int×Int):OLe (j06 g h) (j06 g' h):=Tz _ _ (by intros;exact hg _) _ _ _ _
theorem Kk(N a b c d):OLe (@j0w (bV N) a b c d) (j0w a b c d):=OLe.rec N _ (λg g' hg a=>TA N g g' hg a) (λg g' hg a=>TB g g' hg a)
theorem TC(N a b c d e):OLe (@j08 (bV N) a b c d e) (j08 a b c d e):=by
 unfold j08;with_reducible repeat' (first|exact oR _|exact oN _|exact Ki N _ _ _|apply oC|apply oS|refine oB ?_ ?_|intro _)
theorem TD(N a b c d e):OLe (@qT (bV N) a b c d e) (qT a b c d e):=OLe.loop N _ λ_=>TC N _ _ _ _ _
theorem TE(N a b c d e):OLe (@j0b (bV N) a b c d e) (j0b a b c d e):=by
 unfold j0b;with_reducible repeat' (first|exact oR _|exact oN _|exact Kk N _ _ _ _|apply oC|apply oS|refine oB ?_ ?_|intro _)
theorem TF(N a b c d e):OLe (@sV (bV N) a b c d e) (sV a b c d e):=OLe.loop N _ λ_=>TE N _ _ _ _ _
theorem TH(N a b c):OLe (@j0c (bV N) a b c) (j0c a b c):=by
 unfold j0c;with_reducible repeat' (first|exact oR _|exact oN _|exact TF N _ _ _ _ _|exact Kk N _ _ _ _|apply oC|apply oS|refine oB ?_ ?_|intro _)
theorem TI(N a b c):OLe (@qU (bV N) a b c) (qU a b c):=OLe.loop N _ λ_=>TH N _ _ _
theorem TJ(N a b):OLe (@j0A (bV N) a b) (j0A a b):=by
 unfold j0A;with_reducible repeat' (first|exact oR _|exact oN _|exact TD N _ _ _ _ _|exact Ki N _ _ _|exact TI N _ _ _|apply oC|apply oS|refine oB ?_ ?_|intro _)
theorem TK(N a):OLe (@j03 (bV N) a) (j03 a):=by
 unfold j03;with_reducible repeat' (first|exact oR _|exact oN _|exact TJ N _ _|apply oC|apply oS|refine oB ?_ ?_|intro _)
theorem TL(N a b c d e f g):OLe (@qV (bV N) a b c d e f g) (qV a b c d e f g):=OLe.loop N _ λ_=>oR _
theorem TM(N a b c d e f g h i j k l):OLe (@j0V (bV N) a b c d e f g h i j k l) (j0V a b c d e f g h i j k l):=by
 unfold j0V;with_reducible repeat' (first|exact oR _|exact oN _|exact Tf N _ _ _ _|apply oC|apply oS|refine oB ?_ ?_|intro _)
theorem TN(N a b c d e f g h i j k l):OLe (@uF (bV N) a b c d e f g h i j k l) (uF a b c d e f g h i j k l):=OLe.loop N _ λ_=>TM N _ _ _ _ _ _ _ _ _ _ _ _
theorem TO(N a b c d):OLe (@j0W (bV N) a b c d) (j0W a b c d):=by
 unfold j0W;with_reducible repeat' (first|exact oR _|exact oN _|exact TN N _ _ _ _ _ _ _ _ _ _ _ _|apply oC|apply oS|refine oB ?_ ?_|intro _)
theorem TP(N a b c d):OLe (@sW (bV N) a b c d) (sW a b c d):=OLe.loop N _ λ_=>TO N _ _ _ _
theorem TQ(N a):OLe (@j10 (bV N) a) (j10 a):=by
 unfold j10;with_reducible repeat' (first|exact oR _|exact oN _|exact TL N _ _ _ _ _ _ _|exact TP N _ _ _ _|exact TK N _|apply oC|apply oS|refine oB ?_ ?_|intro _)
theorem TR(N a b c d e):OLe (@qW (bV N) a b c d e) (qW a b c d e):=OLe.loop N _ λ_=>oR _
theorem TS(N a):OLe (@j0B (bV N) a) (j0B a):=by
 unfold j0B;with_reducible repeat' (first|exact oR _|exact oN _|exact TQ N _|exact TR N _ _ _ _ _|apply oC|apply oS|refine oB ?_ ?_|intro _)
theorem Kl(N a):OLe (@j7b (bV N) a) (j7b a):=by
 unfold j7b;with_reducible repeat' (first|exact oR _|exact oN _|exact TS N _|apply oC|apply oS|refine oB ?_ ?_|intro _)
theorem Km(N a b):OLe (@j1i (bV N) a b) (j1i a b):=by
 unfold j1i;with_reducible repeat' (first|exact oR _|exact oN _|exact Kl N _|apply oC|apply oS|refine oB ?_ ?_|intro _)
theorem TT(N a b c d e):OLe (@uG (bV N) a b c d e) (uG a b c d e):=OLe.loop N _ λ_=>oR _
theorem TU(N a b c d):OLe (@j4Q (bV N) a b c d) (j4Q a b c d):=by
 unfold j4Q;with_reducible repeat' (first|exact oR _|exact oN _|exact TT N _ _ _ _ _|apply oC|apply oS|refine oB ?_ ?_|intro _)
theorem Kn(N a b):OLe (@j1M (bV N) a b) (j1M a b):=by
 unfold j1M;with_reducible repeat' (first|exact oR _|exact oN _|exact TU N _ _ _ _|apply oC|apply oS|refine oB ?_ ?_|intro _)
theorem TW(N a b c d e):OLe (@j0S (bV N) a b c d e) (j0S a b c d e):=by
 unfold j0S;with_reducible repeat' (first|exact oR _|exact oN _|exact Kn N _ _|apply oC|apply oS|refine oB ?_ ?_|intro _)
theorem TX(N a b c d e):OLe (@uH (bV N) a b c d e) (uH a b c d e):=OLe.loop N _ λ_=>TW N _ _ _ _ _
theorem Ko(N a b c):OLe (@j1t (bV N) a b c) (j1t a b c):=by
 unfold j1t;with_reducible repeat' (first|exact oR _|exact oN _|exact TX N _ _ _ _ _|apply oC|apply oS|refine oB ?_ ?_|intro _)
theorem TY(N a b c d e f):OLe (@uI (bV N) a b c d e f) (uI a b c d e f):=OLe.loop N _ λ_=>oR _
theorem TZ(N a b):OLe (@j3l (bV N) a b) (j3l a b):=by
 unfold j3l;with_reducible repeat' (first|exact oR _|exact oN _|exact Ko N _ _ _|exact TY N _ _ _ _ _ _|apply oC|apply oS|refine oB ?_ ?_|intro _)
theorem T0(N a b):OLe (@j19 (bV N) a b) (j19 a b):=by
 unfold j19;with_reducible repeat' (first|exact oR _|exact oN _|exact Km N _ _|exact TZ N _ _|apply oC|apply oS|refine oB ?_ ?_|intro _)
theorem T1(N a b c d e):OLe (@uJ (bV N) a b c d e) (uJ a b c d e):=OLe.loop N _ λ_=>oR _
theorem T2(N a b):OLe (@j2n (bV N) a b) (j2n a b):=by
 unfold j2n;with_reducible repeat' (first|exact oR _|exact oN _|exact Ko N _ _ _|exact T1 N _ _ _ _ _|apply oC|apply oS|refine oB ?_ ?_|intro _)
theorem T3(N a b):OLe (@j2o (bV N) a b) (j2o a b):=by
 unfold j2o;with_reducible repeat' (first|exact oR _|exact oN _|exact Km N _ _|exact T2 N _ _|apply oC|apply oS|refine oB ?_ ?_|intro _)
theorem T4(N a b):OLe (@j3d (bV N) a b) (j3d a b):=by
 unfold j3d;with_reducible repeat' (first|exact oR _|exact oN _|exact Kl N _|apply oC|apply oS|refine oB ?_ ?_|intro _)
theorem T5(N a b):OLe (@j1v (bV N) a b) (j1v a b):=by
 unfold j1v;with_reducible repeat' (first|exact oR _|exact oN _|exact Kn N _ _|apply oC|apply oS|refine oB ?_ ?_|intro _)
theorem T6(N a b):OLe (@j27 (bV N) a b) (j27 a b):=by
 unfold j27;with_reducible repeat' (first|exact oR _|exact oN _|exact T5 N _ _|apply oC|apply oS|refine oB ?_ ?_|intro _)
theorem T7(N a b):OLe (@j1W (bV N) a b) (j1W a b):=by
 unfold j1W;with_reducible repeat' (first|exact oR _|exact oN _|exact T4 N _ _|exact T6 N _ _|apply oC|apply oS|refine oB ?_ ?_|intro _)
theorem T8(N):OLe (@j4i (bV N) ) (j4i ):=by
 unfold j4i;with_reducible repeat' (first|exact oR _|exact oN _|exact T0 N _ _|exact T3 N _ _|exact T7 N _ _|apply oC|apply oS|refine oB ?_ ?_|intro _)
end
theorem Fj:j4i=some true:=T8 60 true (by kernel_rfl)
abbrev aT:=Int×(Int×(Int×(Int×(Int×(Int×Int)))))
theorem dJ{n lo hi:Int}(h1:lo<=n)(h2:n<=hi):j3m n lo hi=some true:=by
 simp only[j3m];rw[aw (show n>=lo from h1),aw h2];rfl
theorem iO{n lo hi:Int}(h:¬(lo<=n/\n<=hi)):j3m n lo hi=some false:=by
 simp only[j3m];by_cases h1:n>=lo
 .rw[aw h1,ay (λh2=>h ⟨h1,h2⟩)];rfl
 .rw[ay h1];rfl
structure e9(r:aT):Prop where
 y0:1970<=r.1
 y1:r.1<=r.2.1
 y2:r.2.1<=2240
 m0:1<=r.2.2.1
 m1:r.2.2.1<=12
 k0:1<=r.2.2.2.1
 k1:r.2.2.2.1<=5
 d0:0<=r.2.2.2.2.1
 d1:r.2.2.2.2.1<=6
 s0:0<=r.2.2.2.2.2.1
 s1:r.2.2.2.2.2.1<=86399
 o0 : -64800<=r.2.2.2.2.2.2
 o1:r.2.2.2.2.2.2<=64800
theorem T9{r:aT}(h:e9 r):j58 r=some 0:=by
 simp only[j58,dJ h.y0 (show r.1<=2240 by have:=h.y1;have:=h.y2;omega),dJ h.y1 h.y2,dJ h.m0 h.m1,dJ h.k0 h.k1,dJ h.d0 h.d1,dJ h.s0 h.s1,dJ h.o0 h.o1,j0,jc,j5]
theorem Fk{y m k w:Int}(_h1:1970<=y)(_h2:y<=2240)(ew:1<=m)(ij:m<=12)(cZ:1<=k)(et:k<=5):num y m 1<=nth y m k w/\nth y m k w<num y m 1+dA y m\/nth y m k w<num y m 1+35/\num y m 1<=nth y m k w:=by
 right;have hd:=xL y m ew ij;unfold nth;dsimp only;split<;>omega
def bC(r:aT)(y:Int):Int×Int:=(nth y r.2.2.1 r.2.2.2.1 r.2.2.2.2.1*86400+r.2.2.2.2.2.1,r.2.2.2.2.2.2)
def dK(r:aT):aR:=(List.range (r.2.1-r.1+1).toNat).map λ(i:Nat)=>bC r (r.1+(i:Int))
def occs(l:List aT):aR:=l.flatMap dK
theorem Ua{r:aT}(h:e9 r){y:Int}(h1:1970<=y)(h2:y<=2240):0<=(bC r y).1/\(bC r y).1<=10000000000:=by
 have hv:=xM (xN y r.2.2.1 h1 h2 h.m0 h.m1);have il:=h.s0;have gC:=h.s1;have:=Fk (w:=r.2.2.2.2.1) h1 h2 h.m0 h.m1 h.k0 h.k1;have hd:=mF y r.2.2.1;unfold bC;dsimp only;omega
theorem Ub{r:aT}(h:e9 r):Sm (dK r):=by
 intro x hx;obtain⟨i,hi,rfl⟩:=k9.1 hx;have hi:=List.mem_range.1 hi;have h0:=h.y0;have h2:=h.y2;have:=Ua h (y:=r.1+(i:Int)) (by omega) (by omega);omega
theorem Fl{l:List aT}(h:∀r∈l,e9 r):Sm (occs l):=by
 intro x hx;obtain⟨r,hr,hx⟩:=List.mem_flatMap.1 hx;exact Ub (h r hr) x hx
theorem Kp{r:aT}(h:e9 r)(rs:List aT)(a b:Int):∀(n:Nat)(i:Nat)(acc:aR),r.1+(i:Int)+n=r.2.1+1->acc.length+n<=100000->
  uF (r.1+(i:Int)) rs a b r.1 r.2.1 r.2.2.1 r.2.2.2.1 r.2.2.2.2.1 r.2.2.2.2.2.1 r.2.2.2.2.2.2 acc=some (rs,a,b,acc++(List.range n).map λ(j:Nat)=>bC r (r.1+(i:Int)+(j:Int)))
 |0,i,acc,hi,_=>by
  rw[Jz];simp only[j0V];rw[ay (by omega),j5,bS];simp
 |n+1,i,acc,hi,hl=>by
  have h0:=h.y0;have h2:=h.y2;have il:=h.s0;have gC:=h.s1;have hv:=xM (xN (r.1+(i:Int)) r.2.2.1 (by omega) (by omega) h.m0 h.m1);have hn:=Fk (w:=r.2.2.2.2.1) (y:=r.1+(i:Int)) (by omega) (by omega) h.m0 h.m1 h.k0 h.k1;have hd:=mF (r.1+(i:Int)) r.2.2.1;rw[Jz];simp only[j0V];rw[aw (show r.1+(i:Int)<=r.2.1 by omega),Tc _ _ _ _ (by omega) (by omega) h.m0 h.m1 h.k0 h.k1 h.d0 h.d1];simp only[j4,j0]
  rw[ak (x:=nth (r.1+(i:Int)) r.2.2.1 r.2.2.2.1 r.2.2.2.2.1*86400) (by omega) (by omega),ak (x:=nth (r.1+(i:Int)) r.2.2.1 r.2.2.2.1 r.2.2.2.2.1*86400+r.2.2.2.2.2.1) (by omega) (by omega),
   ak (x:=r.1+(i:Int)+1) (by omega) (by omega)]
  rw[aw (by simp[cY];omega)];simp only[j4,bR];have ih:=Kp h rs a b n (i+1) (acc++[bC r (r.1+(i:Int))]) (by omega) (by simp;omega);rw[show r.1+(i:Int)+1=r.1+((i+1:Nat):Int) by omega];refine ih.trans ?_
  have s7:(List.range n).map (λ(j:Nat)=>bC r (r.1+((i+1:Nat):Int)+(j:Int)))=(List.range n).map ((λ(j:Nat)=>bC r (r.1+(i:Int)+(j:Int))) ∘ Nat.succ):=List.map_congr_left λj _=>by
   simp only[Function.comp];congr 1;omega
  rw[List.range_succ_eq_map,qi,List.map_map,s7];simp
theorem Fm{rs:List aT}(h:∀r∈rs,e9 r)(hlen:rs.length<=100):∀(n i:Nat)(acc:aR),i+n=rs.length->acc.length<=300*i->
  sW rs (rs.length:Int) (i:Int) acc=some (acc++occs (rs.drop i))
 |0,i,acc,hi,_=>by
  rw[JA];simp only[j0W];rw[ay (by omega),j5,bS,jh (by omega)];simp[occs]
 |n+1,i,acc,hi,hl=>by
  have ax:i<rs.length:=by omega
  have hr:=h rs[i] (qh ax);have h0:=hr.y0;have h1:=hr.y1;have h2:=hr.y2;have hg:rs.getD i ((0:Int),((0:Int),((0:Int),((0:Int),((0:Int),((0:Int),(0:Int)))))))=rs[i]:=by simp[ax]
  have xW:=Kp hr rs (rs.length:Int) (i:Int) (rs[i].2.1-rs[i].1+1).toNat 0 acc (by omega) (by omega);rw[show rs[i].1+((0:Nat):Int)=rs[i].1 by omega]at xW;have ih:=Fm h hlen n (i+1) (acc++dK rs[i]) (by omega) (by simp[dK];omega);rw[JA];simp only[j0W];rw[aw (show (i:Int)<(rs.length:Int) by omega),bG (by omega) (by omega)];simp only[j4,j6,hg,xW,j0];rw[ak (by omega) (by omega),bR,jo ax];refine ih.trans ?_;rw[jd];rfl
theorem Fo{rs:List aT}(h:∀r∈rs,e9 r)(hlen:rs.length<=100)(nm:ByteArray)(o:Int):∀(n i:Nat)(s:Int),i+n=rs.length->0<=s->s<=300*i->
  qV s rs (rs.length:Int) (i:Int) nm o rs=some (.inr (s+((occs (rs.drop i)).length:Int),nm,o,rs))
 |0,i,s,hi,_,_=>by
  rw[Ee];simp only[j1d];rw[ay (by omega),j5,bS,jh (by omega)];simp[occs]
 |n+1,i,s,hi,il,gC=>by
  have ax:i<rs.length:=by omega
  have hr:=h rs[i] (qh ax);have h0:=hr.y0;have h1:=hr.y1;have h2:=hr.y2;have hg:rs.getD i ((0:Int),((0:Int),((0:Int),((0:Int),((0:Int),((0:Int),(0:Int)))))))=rs[i]:=by simp[ax]
  have ih:=Fo h hlen nm o n (i+1) (s+(rs[i].2.1-rs[i].1+1)) (by omega) (by omega) (by omega);have mL:j58 (rs[i].1,(rs[i].2.1,(rs[i].2.2.1,(rs[i].2.2.2.1,(rs[i].2.2.2.2.1,(rs[i].2.2.2.2.2.1,rs[i].2.2.2.2.2.2))))))=some 0:=T9 hr;rw[Ee];simp only[j1d];rw[aw (show (i:Int)<(rs.length:Int) by omega),bG (by omega) (by omega)];simp only[j4,j6,hg,mL,j0,je,j5];rw[ak (x:=rs[i].2.1-rs[i].1) (by omega) (by omega),ak (x:=rs[i].2.1-rs[i].1+1) (by omega) (by omega),ak (x:=s+(rs[i].2.1-rs[i].1+1)) (by omega) (by omega),ak (x:=(i:Int)+1) (by omega) (by omega),bR];refine ih.trans ?_;rw[jo ax]
  have:((occs (rs[i]::rs.drop (i+1))).length:Int)=(rs[i].2.1-rs[i].1+1)+((occs (rs.drop (i+1))).length:Int):=by
   have e1:(dK rs[i]).length=(rs[i].2.1-rs[i].1+1).toNat:=by simp[dK]
   show ((dK rs[i]++occs (rs.drop (i+1))).length:Int)=_;rw[ja,e1];omega
  rw[this];congr 3;omega
theorem Uc{nm:ByteArray}{o:Int}{rs:List aT}(h:∀r∈rs,e9 r)(gI : -64800<=o)(eX:o<=64800)(hlen:rs.length<=16)(hn:(occs rs).length<20):j10 (nm,(o,rs))=some (cD (occs rs),0):=by
 have e0:=Fo h (by omega) nm o rs.length 0 0 (by omega) (by omega) (by omega);have e2:=Fm h (by omega) rs.length 0 [] (by omega) (by simp);rw[qx]at e0 e2;simp only[j10,dJ gI eX,j0,jc,j5,show Int.ofNat (List.length rs)=(rs.length:Int) from rfl];rw[ay (show¬(rs.length:Int)>16 by omega),j5,show qV 0 rs (rs.length:Int) 0 nm o rs=_ from e0];simp only[j0,ln];rw[ay (by omega),j5,show Int.ofNat (List.length rs)=(rs.length:Int) from rfl,show sW rs (rs.length:Int) 0 []=_ from e2];simp only[j0,js,SY (Fl h) hn]
def cB(now:Int):aR->aR
 |[]=>[]
 |x::r=>if x.2=now then cB now r else (x.1-now,x.2)::cB x.2 r
def Good(now:Int)(p:Option Int):aR->Prop
 |[]=>True
 |x::r=>if x.2=now then Good now p r else (-86400<x.2-now/\x.2-now<86400/\1000000<x.1-now/\x.1-now<=8589000000/\(∀q,p=some q->q+604800<=x.1-now) /\ -64800<=x.2/\x.2<=64800)/\Good x.2 (some (x.1-now)) r
theorem Fp(L:aR)(hL:L.length<=1000):∀(n i:Nat)(now:Int)(acc:aR),i+n=L.length -> -64800<=now->now<=64800->acc.length<=i->(∀x∈acc,0<=x.1/\x.1<=8589934592)->Good now (acc.getLast?.map (·.1)) (L.drop i)->
  qW now (L.length:Int) (i:Int) acc L=some (.inr (acc++cB now (L.drop i)))
 |0,i,now,acc,hi,_,_,_,_,_=>by
  rw[zZ];simp only[j11];rw[ay (by omega),j5,bS,jh (by omega)];simp[cB]
 |n+1,i,now,acc,hi,iy,gE,kI,fa,hg=>by
  have ax:i<L.length:=by omega
  rw[jo ax]at hg ⊢;have xX:L.getD i ((0:Int),(0:Int))=L[i]:=by simp[ax]
  rw[zZ];simp only[j11];rw[aw (show (i:Int)<(L.length:Int) by omega),bG (by omega) (by omega)];simp only[j4,j6,xX];generalize L[i]=x at *;rw[ak (x:=(i:Int)+1) (by omega) (by omega)];simp only[Good]at hg;by_cases hx:x.2=now
  .rw[if_pos hx]at hg;rw[qZ hx];simp only[j4,bR,cB];rw[if_pos hx];exact Fp L hL n (i+1) now acc (by omega) iy gE (by omega) fa hg
  .rw[if_neg hx]at hg;obtain⟨⟨g1,g2,g3,g4,g5,g6,g7⟩,g8⟩:=hg;rw[jK hx,ak (x:=x.1-now) (by omega) (by omega),ak (x:=x.2-now) (by omega) (by omega),ay (show¬x.2-now>=86400 by omega),ay (show¬x.2-now <= -86400 by omega)];simp only[j5,dJ (show (0:Int)<=x.1-now by omega) (show x.1-now<=8589934592 by omega),j0,jc,jj,Bool.true_and,show Int.ofNat (List.length acc)=(acc.length:Int) from rfl];rw[ak (x:=(acc.length:Int)-1) (by omega) (by omega)]
   have dy:=Fp L hL n (i+1) x.2 (acc++[(x.1-now,x.2)]) (by omega) g6 g7 (by simp;omega)
    (λy hy=>by
     rcases jq.1 hy with hy|hy
     .exact fa y hy
     .simp at hy;subst hy;exact⟨by show (0:Int)<=x.1-now;omega,by show x.1-now<=8589934592;omega⟩) (by simpa using g8)
   have cS:cB now (x::L.drop (i+1))=(x.1-now,x.2)::cB x.2 (L.drop (i+1)):=by simp[cB,hx]
   rw[cS];rw[jd]at dy;by_cases ha:acc=[]
   .subst ha;simp only[ku];rw[show inR (((0:Nat):Int)-1) 0=false from rfl,show decide (((0:Nat):Int)>0)=false from rfl];simp only[jj,j4,j5,Bool.or_true];rw[aw (by simp[cY])];simp only[j4,bR];exact dy
   .have bZ:0<acc.length:=kc.2 ha;have bL:acc.getLast? = some (acc.getD (acc.length-1) (0,0)):=by rw[List.getLast?_eq_getElem?,jl,jt (show acc.length-1<acc.length by omega)];rfl
    rw[bL]at g5;have g5:(acc.getD (acc.length-1) ((0:Int),(0:Int))).1+604800<=x.1-now:=g5 _ rfl;have hb:=fa (acc.getD (acc.length-1) (0,0)) (List.mem_of_getLast? bL);rw[bG (by omega) (by omega),aw (show (acc.length:Int)>0 by omega),show ((acc.length:Int)-1).toNat=acc.length-1 by omega];simp only[Bool.true_or,j4];rw[ak (by omega) (by omega),ay (show¬x.1-now<(acc.getD (acc.length-1) ((0:Int),(0:Int))).1+604800 by omega),aw (by simp[cY];omega)];simp only[j4,j5,bR];exact dy
def AG(p:Option Int):aR->Prop
 |[]=>True
 |x::r=>(1000000<x.1/\x.1<=8589000000/\(∀q,p=some q->q+604800<=x.1) /\ -64800<=x.2/\x.2<=64800)/\AG (some x.1) r
theorem Fq:∀(L:aR)(now:Int)(p:Option Int),Good now p L->AG p (cB now L)
 |[],_,_,_=>trivial
 |x::r,now,p,h=>by
  simp only[Good]at h;by_cases hx:x.2=now
  .rw[if_pos hx]at h;simp only[cB];rw[if_pos hx];exact Fq r now p h
  .rw[if_neg hx]at h;simp only[cB];rw[if_neg hx];obtain⟨⟨g1,g2,g3,g4,g5,g6,g7⟩,g8⟩:=h;exact⟨⟨g3,g4,g5,g6,g7⟩,Fq r x.2 _ g8⟩
theorem Fs:∀(L:aR)(now:Int),(cB now L).length<=L.length
 |[],_=>jm _
 |x::r,now=>by
  simp only[cB];split
  .have:=Fs r now;simp;omega
  .have:=Fs r x.2;simp;omega
theorem Kq:∀(l:aR)(p:Option Int),AG p l->(∀i,i+1<l.length->cN l i+604800<=cN l (i+1))/\(∀i,i<l.length->1000000<cN l i/\cN l i<=8589000000)/\
  (∀o i, -64800<=o->o<=64800->i<=l.length -> -64800<=bX o l i/\bX o l i<=64800)
 |[],_,_=>⟨λi h=>by simp at h,λi h=>by simp at h,λo i h1 h2 h3=>by
  have:i=0:=by simpa using h3
  subst this;exact⟨h1,h2⟩⟩
 |x::r,p,h=>by
  obtain⟨⟨g3,g4,g5,g6,g7⟩,g8⟩:=h;obtain⟨h1,h2,h3⟩:=Kq r _ g8;refine⟨λi hi=>?_,λi hi=>?_,λo i gI eX hi=>?_⟩
  .cases i with
   |zero=>
    cases r with
    |nil=>simp at hi
    |cons y ys=>have:=g8.1.2.2.1 _ rfl;exact this
   |succ i=>exact h1 i (by simp at hi ⊢;omega)
  .cases i with
   |zero=>exact⟨g3,g4⟩
   |succ i=>exact h2 i (by simp at hi ⊢;omega)
  .cases i with
   |zero=>exact⟨gI,eX⟩
   |succ i=>
    cases i with
    |zero=>exact⟨g6,g7⟩
    |succ i=>exact h3 x.2 (i+1) g6 g7 (by simp at hi ⊢;omega)
theorem Ud{o:Int}{l:aR}(h:AG none l)(hl:l.length<=1000)(h0 : -64800<=o)(h1:o<=64800):jL o l:=by
 obtain⟨a,b,c⟩:=Kq l none h;exact⟨hl,a,λi hi=>(b i hi).1,λi hi=>(b i hi).2,λi hi=>(c o i h0 h1 hi).1,λi hi=>(c o i h0 h1 hi).2⟩
def xY(z:ByteArray×(Int×List aT))(l:aR):Prop:=j0B z=some (l,0)/\jL z.2.1 l
theorem Ue{nm:ByteArray}{o:Int}{rs:List aT}(h:∀r∈rs,e9 r)(gI : -64800<=o)(eX:o<=64800)(hlen:rs.length<=16)(hn:(occs rs).length<20)(hg:Good o none (cD (occs rs))):xY (nm,(o,rs)) (cB o (cD (occs rs))):=by
 have hl:(cD (occs rs)).length<=1000:=by simp[cD,xK];omega
 refine⟨?_,Ud (Fq _ _ _ hg) (by have:=Fs (cD (occs rs)) o;omega) gI eX⟩;have:=Fp (cD (occs rs)) hl (cD (occs rs)).length 0 o [] (by omega) gI eX (by simp) (by simp) hg;simp only[j0B,Uc h gI eX hlen hn,j0,je,j5,show Int.ofNat (List.length (cD (occs rs)))=((cD (occs rs)).length:Int) from rfl];rw[qx]at this;rw[show qW o ((cD (occs rs)).length:Int) 0 [] (cD (occs rs))=_ from this];rfl
end Go.Proofs.Pw
