/- Twins with a bound on their rounds, printed by a program. -/
import Derived.Test.YtaieocafhcjelaaGreatCFns
import Derived.Test.YtaieocafhcjelaaGreatCLD
open Go Go.Lft
set_option linter.unusedVariables false
set_option maxRecDepth 100000
namespace Go.Proofs.Pw
noncomputable section
theorem jmX(N a b c):OLe (@xf (aK N) a b c) (xf a b c):=OLe.loop N _ λ_=>oR _
theorem DV(N a):OLe (@j7F (aK N) a) (j7F a):=by
 unfold j7F;with_reducible repeat' (first|exact oR _|exact oN _|exact jmX N _ _ _|apply oC|apply oS|refine oB ?_ ?_|intro _)
theorem DW(N a b):OLe (@j4o (aK N) a b) (j4o a b):=by
 unfold j4o;with_reducible repeat' (first|exact oR _|exact oN _|exact DV N _|apply oC|apply oS|refine oB ?_ ?_|intro _)
theorem jlj(N a b c d e):OLe (@zG (aK N) a b c d e) (zG a b c d e):=OLe.loop N _ λ_=>oR _
theorem joD(N a):OLe (@j80 (aK N) a) (j80 a):=by
 unfold j80;with_reducible repeat' (first|exact oR _|exact oN _|exact jlj N _ _ _ _ _|apply oC|apply oS|refine oB ?_ ?_|intro _)
theorem jtj(N a b c d):OLe (@jdg (aK N) a b c d) (jdg a b c d):=by
 unfold jdg;with_reducible repeat' (first|exact oR _|exact oN _|exact joD N _|apply oC|apply oS|refine oB ?_ ?_|intro _)
theorem j5H(N a b c d e):OLe (@zH (aK N) a b c d e) (zH a b c d e):=OLe.loop N _ λ_=>oR _
theorem j53(N a b c d):OLe (@j09 (aK N) a b c d) (j09 a b c d):=by
 unfold j09;with_reducible repeat' (first|exact oR _|exact oN _|exact j5H N _ _ _ _ _|apply oC|apply oS|refine oB ?_ ?_|intro _)
theorem j5I(N a b c d):OLe (@zI (aK N) a b c d) (zI a b c d):=OLe.loop N _ λ_=>j53 N _ _ _ _
theorem UZ(N a b c):OLe (@j0d (aK N) a b c) (j0d a b c):=by
 unfold j0d;with_reducible repeat' (first|exact oR _|exact oN _|exact j5I N _ _ _ _|apply oC|apply oS|refine oB ?_ ?_|intro _)
theorem j6o(N a b c d e):OLe (@j0g (aK N) a b c d e) (j0g a b c d e):=by
 unfold j0g;with_reducible repeat' (first|exact oR _|exact oN _|exact UZ N _ _ _|apply oC|apply oS|refine oB ?_ ?_|intro _)
theorem j7C(N a b c d e):OLe (@zJ (aK N) a b c d e) (zJ a b c d e):=OLe.loop N _ λ_=>j6o N _ _ _ _ _
theorem j7D(N a b c d e):OLe (@Kg (aK N) a b c d e) (Kg a b c d e):=OLe.loop N _ λ_=>oR _
theorem j6p(N a b c):OLe (@j0h (aK N) a b c) (j0h a b c):=by
 unfold j0h;with_reducible repeat' (first|exact oR _|exact oN _|exact j7D N _ _ _ _ _|apply oC|apply oS|refine oB ?_ ?_|intro _)
theorem j7E(N a b c):OLe (@zK (aK N) a b c) (zK a b c):=OLe.loop N _ λ_=>j6p N _ _ _
theorem j8x(N a b):OLe (@j0S (aK N) a b) (j0S a b):=by
 unfold j0S;with_reducible repeat' (first|exact oR _|exact oN _|exact j7C N _ _ _ _ _|exact UZ N _ _ _|exact j7E N _ _ _|apply oC|apply oS|refine oB ?_ ?_|intro _)
theorem j4F(N a):OLe (@j0c (aK N) a) (j0c a):=by
 unfold j0c;with_reducible repeat' (first|exact oR _|exact oN _|exact j8x N _ _|apply oC|apply oS|refine oB ?_ ?_|intro _)
theorem jh7(N a b c d e f g):OLe (@xg (aK N) a b c d e f g) (xg a b c d e f g):=OLe.loop N _ λ_=>oR _
theorem jdY(N a b c d e f g h i j k l):OLe (@j1j (aK N) a b c d e f g h i j k l) (j1j a b c d e f g h i j k l):=by
 unfold j1j;with_reducible repeat' (first|exact oR _|exact oN _|exact jtj N _ _ _ _|apply oC|apply oS|refine oB ?_ ?_|intro _)
theorem jh8(N a b c d e f g h i j k l):OLe (@zL (aK N) a b c d e f g h i j k l) (zL a b c d e f g h i j k l):=OLe.loop N _ λ_=>jdY N _ _ _ _ _ _ _ _ _ _ _ _
theorem jdZ(N a b c d):OLe (@j1k (aK N) a b c d) (j1k a b c d):=by
 unfold j1k;with_reducible repeat' (first|exact oR _|exact oN _|exact jh8 N _ _ _ _ _ _ _ _ _ _ _ _|apply oC|apply oS|refine oB ?_ ?_|intro _)
theorem jh9(N a b c d):OLe (@xh (aK N) a b c d) (xh a b c d):=OLe.loop N _ λ_=>jdZ N _ _ _ _
theorem jk1(N a):OLe (@j4Q (aK N) a) (j4Q a):=by
 unfold j4Q;with_reducible repeat' (first|exact oR _|exact oN _|exact jh7 N _ _ _ _ _ _ _|exact jh9 N _ _ _ _|exact j4F N _|apply oC|apply oS|refine oB ?_ ?_|intro _)
theorem jha(N a b c d e):OLe (@xi (aK N) a b c d e) (xi a b c d e):=OLe.loop N _ λ_=>oR _
theorem U0(N a):OLe (@j2V (aK N) a) (j2V a):=by
 unfold j2V;with_reducible repeat' (first|exact oR _|exact oN _|exact jk1 N _|exact jha N _ _ _ _ _|apply oC|apply oS|refine oB ?_ ?_|intro _)
theorem jro(N a):OLe (@j9U (aK N) a) (j9U a):=by
 unfold j9U;with_reducible repeat' (first|exact oR _|exact oN _|exact U0 N _|apply oC|apply oS|refine oB ?_ ?_|intro _)
theorem j6d(N a b c):OLe (@zM (aK N) a b c) (zM a b c):=OLe.loop N _ λ_=>oR _
theorem j6T(N a):OLe (@j0v (aK N) a) (j0v a):=by
 unfold j0v;with_reducible repeat' (first|exact oR _|exact oN _|exact j6d N _ _ _|apply oC|apply oS|refine oB ?_ ?_|intro _)
theorem j6e(N a):OLe (@j0o (aK N) a) (j0o a):=by
 unfold j0o;with_reducible repeat' (first|exact oR _|exact oN _|exact j6T N _|apply oC|apply oS|refine oB ?_ ?_|intro _)
theorem jiM(N a):OLe (@j3p (aK N) a) (j3p a):=by
 unfold j3p;with_reducible repeat' (first|exact oR _|exact oN _|exact jro N _|exact j6e N _|apply oC|apply oS|refine oB ?_ ?_|intro _)
theorem jaz(N a b c d):OLe (@j0K (aK N) a b c d) (j0K a b c d):=by
 unfold j0K;with_reducible repeat' (first|exact oR _|exact oN _|exact DW N _ _|exact jiM N _|apply oC|apply oS|refine oB ?_ ?_|intro _)
theorem jd0(N a b c d):OLe (@xj (aK N) a b c d) (xj a b c d):=OLe.loop N _ λ_=>jaz N _ _ _ _
theorem jf8(N a):OLe (@j2B (aK N) a) (j2B a):=by
 unfold j2B;with_reducible repeat' (first|exact oR _|exact oN _|exact jd0 N _ _ _ _|apply oC|apply oS|refine oB ?_ ?_|intro _)
theorem jmY(N a b c d):OLe (@zN (aK N) a b c d) (zN a b c d):=OLe.loop N _ λ_=>oR _
theorem U3(N a):OLe (@j9V (aK N) a) (j9V a):=by
 unfold j9V;with_reducible repeat' (first|exact oR _|exact oN _|exact jmY N _ _ _ _|apply oC|apply oS|refine oB ?_ ?_|intro _)
theorem jhb(N a b):OLe (@j2h (aK N) a b) (j2h a b):=by
 unfold j2h;with_reducible repeat' (first|exact oR _|exact oN _|exact U3 N _|apply oC|apply oS|refine oB ?_ ?_|intro _)
theorem jmZ(N a b):OLe (@Kh (aK N) a b) (Kh a b):=OLe.loop N _ λ_=>oR _
theorem jrp(N a):OLe (@jfp (aK N) a) (jfp a):=by
 unfold jfp;with_reducible repeat' (first|exact oR _|exact oN _|exact jmZ N _ _|apply oC|apply oS|refine oB ?_ ?_|intro _)
theorem jll(N a b c d e f g):OLe (@Ki (aK N) a b c d e f g) (Ki a b c d e f g):=OLe.loop N _ λ_=>oR _
theorem joE(N a):OLe (@j5R (aK N) a) (j5R a):=by
 unfold j5R;with_reducible repeat' (first|exact oR _|exact oN _|exact jrp N _|exact jll N _ _ _ _ _ _ _|apply oC|apply oS|refine oB ?_ ?_|intro _)
theorem GO(N a):OLe (@j17 (aK N) a) (j17 a):=by
 unfold j17;with_reducible repeat' (first|exact oR _|exact oN _|exact joE N _|apply oC|apply oS|refine oB ?_ ?_|intro _)
theorem je1(N a):OLe (@j2H (aK N) a) (j2H a):=by
 unfold j2H;with_reducible repeat' (first|exact oR _|exact oN _|exact GO N _|apply oC|apply oS|refine oB ?_ ?_|intro _)
theorem j9Q(N a b c):OLe (@j0y (aK N) a b c) (j0y a b c):=by
 unfold j0y;with_reducible repeat' (first|exact oR _|exact oN _|exact je1 N _|apply oC|apply oS|refine oB ?_ ?_|intro _)
theorem jc8(N a b c):OLe (@zO (aK N) a b c) (zO a b c):=OLe.loop N _ λ_=>j9Q N _ _ _
theorem je2(N a):OLe (@j2I (aK N) a) (j2I a):=by
 unfold j2I;with_reducible repeat' (first|exact oR _|exact oN _|exact jc8 N _ _ _|apply oC|apply oS|refine oB ?_ ?_|intro _)
theorem jc9(N a):OLe (@j21 (aK N) a) (j21 a):=by
 unfold j21;with_reducible repeat' (first|exact oR _|exact oN _|exact je2 N _|apply oC|apply oS|refine oB ?_ ?_|intro _)
theorem je3(N a b c d e):OLe (@zP (aK N) a b c d e) (zP a b c d e):=OLe.loop N _ λ_=>oR _
theorem jfG(N a b):OLe (@j29 (aK N) a b) (j29 a b):=by
 unfold j29;with_reducible repeat' (first|exact oR _|exact oN _|exact jc9 N _|exact je3 N _ _ _ _ _|apply oC|apply oS|refine oB ?_ ?_|intro _)
theorem jk2(N a b c d e):OLe (@j5J (aK N) a b c d e) (j5J a b c d e):=by
 unfold j5J;with_reducible repeat' (first|exact oR _|exact oN _|exact jfG N _ _|apply oC|apply oS|refine oB ?_ ?_|intro _)
theorem j9a(N a b c d e f g h):OLe (@j0t (aK N) a b c d e f g h) (j0t a b c d e f g h):=by
 unfold j0t;with_reducible repeat' (first|exact oR _|exact oN _|exact DW N _ _|exact jk2 N _ _ _ _ _|apply oC|apply oS|refine oB ?_ ?_|intro _)
theorem jaM(N a b c d e f g h):OLe (@xk (aK N) a b c d e f g h) (xk a b c d e f g h):=OLe.loop N _ λ_=>j9a N _ _ _ _ _ _ _ _
theorem jcC(N a b c d e):OLe (@j1w (aK N) a b c d e) (j1w a b c d e):=by
 unfold j1w;with_reducible repeat' (first|exact oR _|exact oN _|exact jaM N _ _ _ _ _ _ _ _|apply oC|apply oS|refine oB ?_ ?_|intro _)
theorem jaA(N a b c d e f g):OLe (@zQ (aK N) a b c d e f g) (zQ a b c d e f g):=OLe.loop N _ λ_=>oR _
theorem jca(N a b c d e):OLe (@j22 (aK N) a b c d e) (j22 a b c d e):=by
 unfold j22;with_reducible repeat' (first|exact oR _|exact oN _|exact jaA N _ _ _ _ _ _ _|apply oC|apply oS|refine oB ?_ ?_|intro _)
theorem jaB(N a b c d e):OLe (@j1m (aK N) a b c d e) (j1m a b c d e):=by
 unfold j1m;with_reducible repeat' (first|exact oR _|exact oN _|exact jca N _ _ _ _ _|apply oC|apply oS|refine oB ?_ ?_|intro _)
theorem ji8(N a b):OLe (@j35 (aK N) a b) (j35 a b):=by
 unfold j35;with_reducible repeat' (first|exact oR _|exact oN _|exact GO N _|exact jaB N _ _ _ _ _|exact U3 N _|apply oC|apply oS|refine oB ?_ ?_|intro _)
theorem je4(N a b c d e):OLe (@j2K (aK N) a b c d e) (j2K a b c d e):=by
 unfold j2K;with_reducible repeat' (first|exact oR _|exact oN _|exact ji8 N _ _|apply oC|apply oS|refine oB ?_ ?_|intro _)
theorem ja1(N a b c d e f g h):OLe (@j0C (aK N) a b c d e f g h) (j0C a b c d e f g h):=by
 unfold j0C;with_reducible repeat' (first|exact oR _|exact oN _|exact DW N _ _|exact je4 N _ _ _ _ _|apply oC|apply oS|refine oB ?_ ?_|intro _)
theorem jcD(N a b c d e f g h):OLe (@xl (aK N) a b c d e f g h) (xl a b c d e f g h):=OLe.loop N _ λ_=>ja1 N _ _ _ _ _ _ _ _
theorem jek(N a b c d e):OLe (@j2i (aK N) a b c d e) (j2i a b c d e):=by
 unfold j2i;with_reducible repeat' (first|exact oR _|exact oN _|exact jcD N _ _ _ _ _ _ _ _|apply oC|apply oS|refine oB ?_ ?_|intro _)
theorem jiN(N a b):OLe (@j3q (aK N) a b) (j3q a b):=by
 unfold j3q;with_reducible repeat' (first|exact oR _|exact oN _|exact GO N _|apply oC|apply oS|refine oB ?_ ?_|intro _)
theorem jaN(N a b c d e f g):OLe (@j0Q (aK N) a b c d e f g) (j0Q a b c d e f g):=by
 unfold j0Q;with_reducible repeat' (first|exact oR _|exact oN _|exact jiN N _ _|apply oC|apply oS|refine oB ?_ ?_|intro _)
theorem je5(N a b c d e f g):OLe (@zR (aK N) a b c d e f g) (zR a b c d e f g):=OLe.loop N _ λ_=>jaN N _ _ _ _ _ _ _
theorem jfH(N a b):OLe (@j2a (aK N) a b) (j2a a b):=by
 unfold j2a;with_reducible repeat' (first|exact oR _|exact oN _|exact jek N _ _ _ _ _|exact je5 N _ _ _ _ _ _ _|apply oC|apply oS|refine oB ?_ ?_|intro _)
theorem jk3(N a b c d e):OLe (@j5K (aK N) a b c d e) (j5K a b c d e):=by
 unfold j5K;with_reducible repeat' (first|exact oR _|exact oN _|exact jfH N _ _|apply oC|apply oS|refine oB ?_ ?_|intro _)
theorem j9b(N a b c d e f g h):OLe (@j0u (aK N) a b c d e f g h) (j0u a b c d e f g h):=by
 unfold j0u;with_reducible repeat' (first|exact oR _|exact oN _|exact DW N _ _|exact jk3 N _ _ _ _ _|apply oC|apply oS|refine oB ?_ ?_|intro _)
theorem jaO(N a b c d e f g h):OLe (@xm (aK N) a b c d e f g h) (xm a b c d e f g h):=OLe.loop N _ λ_=>j9b N _ _ _ _ _ _ _ _
theorem jcE(N a b c d e):OLe (@j2g (aK N) a b c d e) (j2g a b c d e):=by
 unfold j2g;with_reducible repeat' (first|exact oR _|exact oN _|exact jaO N _ _ _ _ _ _ _ _|apply oC|apply oS|refine oB ?_ ?_|intro _)
theorem jfI(N a b c d e f g h):OLe (@j2b (aK N) a b c d e f g h) (j2b a b c d e f g h):=by
 unfold j2b;with_reducible repeat' (first|exact oR _|exact oN _|exact DW N _ _|exact jhb N _ _|apply oC|apply oS|refine oB ?_ ?_|intro _)
theorem jk4(N a b c d e f g h):OLe (@xn (aK N) a b c d e f g h) (xn a b c d e f g h):=OLe.loop N _ λ_=>jfI N _ _ _ _ _ _ _ _
theorem jn0(N a):OLe (@j5T (aK N) a) (j5T a):=by
 unfold j5T;with_reducible repeat' (first|exact oR _|exact oN _|exact jf8 N _|exact jk4 N _ _ _ _ _ _ _ _|exact jcC N _ _ _ _ _|exact jcE N _ _ _ _ _|apply oC|apply oS|refine oB ?_ ?_|intro _)
theorem jwS(N a):OLe (@jhz (aK N) a) (jhz a):=by
 unfold jhz;with_reducible repeat' (first|exact oR _|exact oN _|exact U0 N _|apply oC|apply oS|refine oB ?_ ?_|intro _)
theorem jhc(N a b c d):OLe (@j2N (aK N) a b c d) (j2N a b c d):=by
 unfold j2N;with_reducible repeat' (first|exact oR _|exact oN _|exact jwS N _|apply oC|apply oS|refine oB ?_ ?_|intro _)
theorem jmg(N a b c d):OLe (@xo (aK N) a b c d) (xo a b c d):=OLe.loop N _ λ_=>jhc N _ _ _ _
theorem jpm(N a):OLe (@jba (aK N) a) (jba a):=by
 unfold jba;with_reducible repeat' (first|exact oR _|exact oN _|exact jmg N _ _ _ _|apply oC|apply oS|refine oB ?_ ?_|intro _)
theorem jtk(N a):OLe (@jdj (aK N) a) (jdj a):=by
 unfold jdj;with_reducible repeat' (first|exact oR _|exact oN _|exact jpm N _|apply oC|apply oS|refine oB ?_ ?_|intro _)
theorem U4(N a):OLe (@jg0 (aK N) a) (jg0 a):=by
 unfold jg0;with_reducible repeat' (first|exact oR _|exact oN _|exact jn0 N _|exact jtk N _|apply oC|apply oS|refine oB ?_ ?_|intro _)
theorem U5(N a b c d):OLe (@jbb (aK N) a b c d) (jbb a b c d):=by
 unfold jbb;with_reducible repeat' (first|exact oR _|exact oN _|exact U4 N _|apply oC|apply oS|refine oB ?_ ?_|intro _)
theorem jmh(N a b c d e):OLe (@zS (aK N) a b c d e) (zS a b c d e):=OLe.loop N _ λ_=>oR _
theorem jpn(N a b c d):OLe (@jbd (aK N) a b c d) (jbd a b c d):=by
 unfold jbd;with_reducible repeat' (first|exact oR _|exact oN _|exact jmh N _ _ _ _ _|apply oC|apply oS|refine oB ?_ ?_|intro _)
theorem U6(N a b):OLe (@j42 (aK N) a b) (j42 a b):=by
 unfold j42;with_reducible repeat' (first|exact oR _|exact oN _|exact jpn N _ _ _ _|apply oC|apply oS|refine oB ?_ ?_|intro _)
theorem jd1(N a b c d e):OLe (@j0r (aK N) a b c d e) (j0r a b c d e):=by
 unfold j0r;with_reducible repeat' (first|exact oR _|exact oN _|exact U6 N _ _|apply oC|apply oS|refine oB ?_ ?_|intro _)
theorem jgA(N a b c d e):OLe (@uN (aK N) a b c d e) (uN a b c d e):=OLe.loop N _ λ_=>jd1 N _ _ _ _ _
theorem Ns(N a b c):OLe (@j1A (aK N) a b c) (j1A a b c):=by
 unfold j1A;with_reducible repeat' (first|exact oR _|exact oN _|exact jgA N _ _ _ _ _|apply oC|apply oS|refine oB ?_ ?_|intro _)
theorem jhd(N a b c d e):OLe (@xp (aK N) a b c d e) (xp a b c d e):=OLe.loop N _ λ_=>oR _
theorem U7(N a b):OLe (@j1B (aK N) a b) (j1B a b):=by
 unfold j1B;with_reducible repeat' (first|exact oR _|exact oN _|exact Ns N _ _ _|exact jhd N _ _ _ _ _|apply oC|apply oS|refine oB ?_ ?_|intro _)
theorem Ap(N a b c):OLe (@j0F (aK N) a b c) (j0F a b c):=by
 unfold j0F;with_reducible repeat' (first|exact oR _|exact oN _|exact U7 N _ _|apply oC|apply oS|refine oB ?_ ?_|intro _)
theorem jhe(N a b c d e f g h i j k l):OLe (@Kj (aK N) a b c d e f g h i j k l) (Kj a b c d e f g h i j k l):=OLe.loop N _ λ_=>oR _
theorem je8(N a b c d e f g h i):OLe (@j3r (aK N) a b c d e f g h i) (j3r a b c d e f g h i):=by
 unfold j3r;with_reducible repeat' (first|exact oR _|exact oN _|exact Ap N _ _ _|exact U7 N _ _|apply oC|apply oS|refine oB ?_ ?_|intro _)
theorem jhf(N a b c d e f g h i):OLe (@Kk (aK N) a b c d e f g h i) (Kk a b c d e f g h i):=OLe.loop N _ λ_=>je8 N _ _ _ _ _ _ _ _ _
theorem U8(N a b):OLe (@j5L (aK N) a b) (j5L a b):=by
 unfold j5L;with_reducible repeat' (first|exact oR _|exact oN _|exact jhe N _ _ _ _ _ _ _ _ _ _ _ _|exact jhf N _ _ _ _ _ _ _ _ _|apply oC|apply oS|refine oB ?_ ?_|intro _)
theorem jaC(N a b c d e):OLe (@xq (aK N) a b c d e) (xq a b c d e):=OLe.loop N _ λ_=>oR _
theorem jcb(N a b c):OLe (@j24 (aK N) a b c) (j24 a b c):=by
 unfold j24;with_reducible repeat' (first|exact oR _|exact oN _|exact jaC N _ _ _ _ _|apply oC|apply oS|refine oB ?_ ?_|intro _)
theorem jbs(N a b c d e):OLe (@zU (aK N) a b c d e) (zU a b c d e):=OLe.loop N _ λ_=>oR _
theorem jd2(N a b c):OLe (@j1N (aK N) a b c) (j1N a b c):=by
 unfold j1N;with_reducible repeat' (first|exact oR _|exact oN _|exact jcb N _ _ _|exact jbs N _ _ _ _ _|apply oC|apply oS|refine oB ?_ ?_|intro _)
theorem jd3(N a b c d):OLe (@xr (aK N) a b c d) (xr a b c d):=OLe.loop N _ λ_=>oR _
theorem jaD(N a b):OLe (@j0L (aK N) a b) (j0L a b):=by
 unfold j0L;with_reducible repeat' (first|exact oR _|exact oN _|exact jd3 N _ _ _ _|apply oC|apply oS|refine oB ?_ ?_|intro _)
theorem jd4(N a b):OLe (@sQ (aK N) a b) (sQ a b):=OLe.loop N _ λ_=>jaD N _ _
theorem jf9(N a):OLe (@j2C (aK N) a) (j2C a):=by
 unfold j2C;with_reducible repeat' (first|exact oR _|exact oN _|exact jd4 N _ _|apply oC|apply oS|refine oB ?_ ?_|intro _)
theorem jtl(N a b c):OLe (@jdk (aK N) a b c) (jdk a b c):=by
 unfold jdk;with_reducible repeat' (first|exact oR _|exact oN _|exact jd2 N _ _ _|exact jf9 N _|apply oC|apply oS|refine oB ?_ ?_|intro _)
theorem j7X(N a b c):OLe (@xt (aK N) a b c) (xt a b c):=OLe.loop N _ λ_=>oR _
theorem j9d(N a):OLe (@j13 (aK N) a) (j13 a):=by
 unfold j13;with_reducible repeat' (first|exact oR _|exact oN _|exact j7X N _ _ _|apply oC|apply oS|refine oB ?_ ?_|intro _)
theorem j7M(N a b c):OLe (@zV (aK N) a b c) (zV a b c):=OLe.loop N _ λ_=>oR _
theorem j8K(N a):OLe (@j0z (aK N) a) (j0z a):=by
 unfold j0z;with_reducible repeat' (first|exact oR _|exact oN _|exact j9d N _|exact j7M N _ _ _|apply oC|apply oS|refine oB ?_ ?_|intro _)
theorem jn1(N a b c d):OLe (@xu (aK N) a b c d) (xu a b c d):=OLe.loop N _ λ_=>oR _
theorem DX(N a):OLe (@j6F (aK N) a) (j6F a):=by
 unfold j6F;with_reducible repeat' (first|exact oR _|exact oN _|exact j8K N _|exact jn1 N _ _ _ _|apply oC|apply oS|refine oB ?_ ?_|intro _)
theorem jlm(N a b c d e f g h i j k l):OLe (@zW (aK N) a b c d e f g h i j k l) (zW a b c d e f g h i j k l):=OLe.loop N _ λ_=>oR _
theorem jgB(N a b c d e f g h i):OLe (@j2x (aK N) a b c d e f g h i) (j2x a b c d e f g h i):=by
 unfold j2x;with_reducible repeat' (first|exact oR _|exact oN _|exact jlm N _ _ _ _ _ _ _ _ _ _ _ _|apply oC|apply oS|refine oB ?_ ?_|intro _)
theorem jln(N a b c d e f g h i):OLe (@zX (aK N) a b c d e f g h i) (zX a b c d e f g h i):=OLe.loop N _ λ_=>jgB N _ _ _ _ _ _ _ _ _
theorem jgC(N a b c d e):OLe (@j2y (aK N) a b c d e) (j2y a b c d e):=by
 unfold j2y;with_reducible repeat' (first|exact oR _|exact oN _|exact jln N _ _ _ _ _ _ _ _ _|apply oC|apply oS|refine oB ?_ ?_|intro _)
theorem jlo(N a b c d e):OLe (@zY (aK N) a b c d e) (zY a b c d e):=OLe.loop N _ λ_=>jgC N _ _ _ _ _
theorem joF(N a b c d):OLe (@j4q (aK N) a b c d) (j4q a b c d):=by
 unfold j4q;with_reducible repeat' (first|exact oR _|exact oN _|exact Ns N _ _ _|exact jlo N _ _ _ _ _|exact DX N _|apply oC|apply oS|refine oB ?_ ?_|intro _)
theorem jiO(N a b c d e f g h i j k l m):OLe (@xv (aK N) a b c d e f g h i j k l m) (xv a b c d e f g h i j k l m):=OLe.loop N _ λ_=>oR _
theorem jfa(N a b c d e f g):OLe (@j1W (aK N) a b c d e f g) (j1W a b c d e f g):=by
 unfold j1W;with_reducible repeat' (first|exact oR _|exact oN _|exact jiO N _ _ _ _ _ _ _ _ _ _ _ _ _|apply oC|apply oS|refine oB ?_ ?_|intro _)
theorem jiP(N a b c d e f g):OLe (@xw (aK N) a b c d e f g) (xw a b c d e f g):=OLe.loop N _ λ_=>jfa N _ _ _ _ _ _ _
theorem jmi(N a b c d):OLe (@j28 (aK N) a b c d) (j28 a b c d):=by
 unfold j28;with_reducible repeat' (first|exact oR _|exact oN _|exact Ns N _ _ _|exact jiP N _ _ _ _ _ _ _|exact DX N _|apply oC|apply oS|refine oB ?_ ?_|intro _)
theorem jlp(N a b c d e f g h):OLe (@zZ (aK N) a b c d e f g h) (zZ a b c d e f g h):=OLe.loop N _ λ_=>oR _
theorem jlq(N a b c d e f g h i j):OLe (@xx (aK N) a b c d e f g h i j) (xx a b c d e f g h i j):=OLe.loop N _ λ_=>oR _
theorem jgD(N a b c d e f):OLe (@j2z (aK N) a b c d e f) (j2z a b c d e f):=by
 unfold j2z;with_reducible repeat' (first|exact oR _|exact oN _|exact jlp N _ _ _ _ _ _ _ _|exact jlq N _ _ _ _ _ _ _ _ _ _|apply oC|apply oS|refine oB ?_ ?_|intro _)
theorem jlr(N a b c d e f):OLe (@uO (aK N) a b c d e f) (uO a b c d e f):=OLe.loop N _ λ_=>jgD N _ _ _ _ _ _
theorem Nt(N a b):OLe (@j2O (aK N) a b) (j2O a b):=by
 unfold j2O;with_reducible repeat' (first|exact oR _|exact oN _|exact jlr N _ _ _ _ _ _|apply oC|apply oS|refine oB ?_ ?_|intro _)
theorem jmj(N a b c d e):OLe (@sR (aK N) a b c d e) (sR a b c d e):=OLe.loop N _ λ_=>oR _
theorem jpo(N a b):OLe (@j85 (aK N) a b) (j85 a b):=by
 unfold j85;with_reducible repeat' (first|exact oR _|exact oN _|exact jmj N _ _ _ _ _|apply oC|apply oS|refine oB ?_ ?_|intro _)
theorem jls(N a b c d):OLe (@j4s (aK N) a b c d) (j4s a b c d):=by
 unfold j4s;with_reducible repeat' (first|exact oR _|exact oN _|exact Ap N _ _ _|exact joF N _ _ _ _|exact jmi N _ _ _ _|exact Nt N _ _|exact jpo N _ _|apply oC|apply oS|refine oB ?_ ?_|intro _)
theorem jiQ(N a b):OLe (@j4c (aK N) a b) (j4c a b):=by
 unfold j4c;with_reducible repeat' (first|exact oR _|exact oN _|exact U6 N _ _|apply oC|apply oS|refine oB ?_ ?_|intro _)
theorem jk5(N a b):OLe (@j1C (aK N) a b) (j1C a b):=by
 unfold j1C;with_reducible repeat' (first|exact oR _|exact oN _|exact jiQ N _ _|apply oC|apply oS|refine oB ?_ ?_|intro _)
theorem jfJ(N a b c d e f g h i j k l m n):OLe (@j2d (aK N) a b c d e f g h i j k l m n) (j2d a b c d e f g h i j k l m n):=by
 unfold j2d;with_reducible repeat' (first|exact oR _|exact oN _|exact Ap N _ _ _|apply oC|apply oS|refine oB ?_ ?_|intro _)
theorem jk6(N a b c d e f g h i j k l m n):OLe (@Aa (aK N) a b c d e f g h i j k l m n) (Aa a b c d e f g h i j k l m n):=OLe.loop N _ λ_=>jfJ N _ _ _ _ _ _ _ _ _ _ _ _ _ _
theorem jfK(N a b c d e f g h i j k l m n):OLe (@j2P (aK N) a b c d e f g h i j k l m n) (j2P a b c d e f g h i j k l m n):=by
 unfold j2P;with_reducible repeat' (first|exact oR _|exact oN _|exact Ap N _ _ _|apply oC|apply oS|refine oB ?_ ?_|intro _)
theorem jk7(N a b c d e f g h i j k l m n):OLe (@Ab (aK N) a b c d e f g h i j k l m n) (Ab a b c d e f g h i j k l m n):=OLe.loop N _ λ_=>jfK N _ _ _ _ _ _ _ _ _ _ _ _ _ _
theorem jn2(N a b c):OLe (@j3a (aK N) a b c) (j3a a b c):=by
 unfold j3a;with_reducible repeat' (first|exact oR _|exact oN _|exact Ap N _ _ _|exact jk5 N _ _|exact jk6 N _ _ _ _ _ _ _ _ _ _ _ _ _ _|exact jk7 N _ _ _ _ _ _ _ _ _ _ _ _ _ _|apply oC|apply oS|refine oB ?_ ?_|intro _)
theorem jn3(N a b c d):OLe (@uP (aK N) a b c d) (uP a b c d):=OLe.loop N _ λ_=>oR _
theorem Nu(N a):OLe (@j7H (aK N) a) (j7H a):=by
 unfold j7H;with_reducible repeat' (first|exact oR _|exact oN _|exact jn3 N _ _ _ _|apply oC|apply oS|refine oB ?_ ?_|intro _)
theorem jcF(N a b c d e f g h i j k l m n o p q r s t u v):OLe (@j1y (aK N) a b c d e f g h i j k l m n o p q r s t u v) (j1y a b c d e f g h i j k l m n o p q r s t u v):=by
 unfold j1y;with_reducible repeat' (first|exact oR _|exact oN _|exact jn2 N _ _ _|exact Ap N _ _ _|apply oC|apply oS|refine oB ?_ ?_|intro _)
theorem jfL(N a b c d e f g h i j k l m n o p q r s t u v):OLe (@xy (aK N) a b c d e f g h i j k l m n o p q r s t u v) (xy a b c d e f g h i j k l m n o p q r s t u v):=OLe.loop N _ λ_=>jcF N _ _ _ _ _ _ _ _ _ _ _ _ _ _ _ _ _ _ _ _ _ _
theorem jcG(N a b c d e f g h i j k l m n o p q r s t):OLe (@j1a (aK N) a b c d e f g h i j k l m n o p q r s t) (j1a a b c d e f g h i j k l m n o p q r s t):=by
 unfold j1a;with_reducible repeat' (first|exact oR _|exact oN _|exact jfL N _ _ _ _ _ _ _ _ _ _ _ _ _ _ _ _ _ _ _ _ _ _|apply oC|apply oS|refine oB ?_ ?_|intro _)
theorem jfM(N a b c d e f g h i j k l m n o p q r s t):OLe (@xz (aK N) a b c d e f g h i j k l m n o p q r s t) (xz a b c d e f g h i j k l m n o p q r s t):=OLe.loop N _ λ_=>jcG N _ _ _ _ _ _ _ _ _ _ _ _ _ _ _ _ _ _ _ _
theorem ji9(N a b c d):OLe (@j1E (aK N) a b c d) (j1E a b c d):=by
 unfold j1E;with_reducible repeat' (first|exact oR _|exact oN _|exact jls N _ _ _ _|exact jfM N _ _ _ _ _ _ _ _ _ _ _ _ _ _ _ _ _ _ _ _|exact Nu N _|apply oC|apply oS|refine oB ?_ ?_|intro _)
theorem jlt(N a b c d e):OLe (@xA (aK N) a b c d e) (xA a b c d e):=OLe.loop N _ λ_=>oR _
theorem joG(N a b):OLe (@j5h (aK N) a b) (j5h a b):=by
 unfold j5h;with_reducible repeat' (first|exact oR _|exact oN _|exact jlt N _ _ _ _ _|exact DX N _|apply oC|apply oS|refine oB ?_ ?_|intro _)
theorem jk8(N a b c d e f g h i j k l m n):OLe (@sS (aK N) a b c d e f g h i j k l m n) (sS a b c d e f g h i j k l m n):=OLe.loop N _ λ_=>oR _
theorem jfN(N a b c d e f g h):OLe (@j2e (aK N) a b c d e f g h) (j2e a b c d e f g h):=by
 unfold j2e;with_reducible repeat' (first|exact oR _|exact oN _|exact joG N _ _|exact Nt N _ _|exact jk8 N _ _ _ _ _ _ _ _ _ _ _ _ _ _|apply oC|apply oS|refine oB ?_ ?_|intro _)
theorem jk9(N a b c d e f g h):OLe (@uQ (aK N) a b c d e f g h) (uQ a b c d e f g h):=OLe.loop N _ λ_=>jfN N _ _ _ _ _ _ _ _
theorem jn4(N a b):OLe (@j5X (aK N) a b) (j5X a b):=by
 unfold j5X;with_reducible repeat' (first|exact oR _|exact oN _|exact jk9 N _ _ _ _ _ _ _ _|apply oC|apply oS|refine oB ?_ ?_|intro _)
theorem jlu(N a b c d e):OLe (@sT (aK N) a b c d e) (sT a b c d e):=OLe.loop N _ λ_=>oR _
theorem joH(N a b):OLe (@j86 (aK N) a b) (j86 a b):=by
 unfold j86;with_reducible repeat' (first|exact oR _|exact oN _|exact jlu N _ _ _ _ _|apply oC|apply oS|refine oB ?_ ?_|intro _)
theorem jmk(N a b c d):OLe (@xB (aK N) a b c d) (xB a b c d):=OLe.loop N _ λ_=>oR _
theorem jpp(N a):OLe (@j87 (aK N) a) (j87 a):=by
 unfold j87;with_reducible repeat' (first|exact oR _|exact oN _|exact jmk N _ _ _ _|exact DX N _|apply oC|apply oS|refine oB ?_ ?_|intro _)
theorem jeb(N a b c d e f g h i j k l m n):OLe (@j1n (aK N) a b c d e f g h i j k l m n) (j1n a b c d e f g h i j k l m n):=by
 unfold j1n;with_reducible repeat' (first|exact oR _|exact oN _|exact ji9 N _ _ _ _|exact jn4 N _ _|exact joH N _ _|exact jpp N _|exact Nt N _ _|apply oC|apply oS|refine oB ?_ ?_|intro _)
theorem jhg(N a b c d e f g h i j k l m n):OLe (@xC (aK N) a b c d e f g h i j k l m n) (xC a b c d e f g h i j k l m n):=OLe.loop N _ λ_=>jeb N _ _ _ _ _ _ _ _ _ _ _ _ _ _
theorem jhh(N a b c d):OLe (@xD (aK N) a b c d) (xD a b c d):=OLe.loop N _ λ_=>oR _
theorem jka(N a b c d):OLe (@j3c (aK N) a b c d) (j3c a b c d):=by
 unfold j3c;with_reducible repeat' (first|exact oR _|exact oN _|exact jhg N _ _ _ _ _ _ _ _ _ _ _ _ _ _|exact jhh N _ _ _ _|exact Nu N _|apply oC|apply oS|refine oB ?_ ?_|intro _)
theorem jaF(N a b c d e):OLe (@Ac (aK N) a b c d e) (Ac a b c d e):=OLe.loop N _ λ_=>oR _
theorem jcc(N a b):OLe (@j1g (aK N) a b) (j1g a b):=by
 unfold j1g;with_reducible repeat' (first|exact oR _|exact oN _|exact jaF N _ _ _ _ _|apply oC|apply oS|refine oB ?_ ?_|intro _)
theorem joI(N a b c d e):OLe (@xE (aK N) a b c d e) (xE a b c d e):=OLe.loop N _ λ_=>oR _
theorem jtm(N a b c):OLe (@jdo (aK N) a b c) (jdo a b c):=by
 unfold jdo;with_reducible repeat' (first|exact oR _|exact oN _|exact joI N _ _ _ _ _|apply oC|apply oS|refine oB ?_ ?_|intro _)
theorem jia(N a b c d e f g h i j k l m n):OLe (@xF (aK N) a b c d e f g h i j k l m n) (xF a b c d e f g h i j k l m n):=OLe.loop N _ λ_=>oR _
theorem jel(N a b c d e f g h i j k l m):OLe (@j1F (aK N) a b c d e f g h i j k l m) (j1F a b c d e f g h i j k l m):=by
 unfold j1F;with_reducible repeat' (first|exact oR _|exact oN _|exact jtm N _ _ _|apply oC|apply oS|refine oB ?_ ?_|intro _)
theorem jib(N a b c d e f g h i j k l m):OLe (@Ad (aK N) a b c d e f g h i j k l m) (Ad a b c d e f g h i j k l m):=OLe.loop N _ λ_=>jel N _ _ _ _ _ _ _ _ _ _ _ _ _
theorem jem(N a b c d e f g h):OLe (@j1G (aK N) a b c d e f g h) (j1G a b c d e f g h):=by
 unfold j1G;with_reducible repeat' (first|exact oR _|exact oN _|exact jcc N _ _|exact jib N _ _ _ _ _ _ _ _ _ _ _ _ _|apply oC|apply oS|refine oB ?_ ?_|intro _)
theorem jic(N a b c d e f g h):OLe (@xG (aK N) a b c d e f g h) (xG a b c d e f g h):=OLe.loop N _ λ_=>jem N _ _ _ _ _ _ _ _
theorem U9(N a b c d):OLe (@j2S (aK N) a b c d) (j2S a b c d):=by
 unfold j2S;with_reducible repeat' (first|exact oR _|exact oN _|exact jia N _ _ _ _ _ _ _ _ _ _ _ _ _ _|exact jtl N _ _ _|exact jka N _ _ _ _|exact jic N _ _ _ _ _ _ _ _|exact Nu N _|apply oC|apply oS|refine oB ?_ ?_|intro _)
theorem jlv(N a b c d e f g h i j k l m):OLe (@Km (aK N) a b c d e f g h i j k l m) (Km a b c d e f g h i j k l m):=OLe.loop N _ λ_=>oR _
theorem jgF(N a b c d e f g h i j):OLe (@j52 (aK N) a b c d e f g h i j) (j52 a b c d e f g h i j):=by
 unfold j52;with_reducible repeat' (first|exact oR _|exact oN _|exact U9 N _ _ _ _|exact jlv N _ _ _ _ _ _ _ _ _ _ _ _ _|apply oC|apply oS|refine oB ?_ ?_|intro _)
theorem jlw(N a b c d e f g h i j):OLe (@Kn (aK N) a b c d e f g h i j) (Kn a b c d e f g h i j):=OLe.loop N _ λ_=>jgF N _ _ _ _ _ _ _ _ _ _
theorem joJ(N a b c d):OLe (@jbL (aK N) a b c d) (jbL a b c d):=by
 unfold jbL;with_reducible repeat' (first|exact oR _|exact oN _|exact jlw N _ _ _ _ _ _ _ _ _ _|apply oC|apply oS|refine oB ?_ ?_|intro _)
theorem jkb(N a b c):OLe (@j5O (aK N) a b c) (j5O a b c):=by
 unfold j5O;with_reducible repeat' (first|exact oR _|exact oN _|exact U5 N _ _ _ _|exact U8 N _ _|exact joJ N _ _ _ _|apply oC|apply oS|refine oB ?_ ?_|intro _)
theorem jlx(N a b c d):OLe (@j89 (aK N) a b c d) (j89 a b c d):=by
 unfold j89;with_reducible repeat' (first|exact oR _|exact oN _|exact U5 N _ _ _ _|exact U9 N _ _ _ _|apply oC|apply oS|refine oB ?_ ?_|intro _)
theorem jiR(N a b c d e):OLe (@Ko (aK N) a b c d e) (Ko a b c d e):=OLe.loop N _ λ_=>oR _
theorem jml(N a b):OLe (@j9h (aK N) a b) (j9h a b):=by
 unfold j9h;with_reducible repeat' (first|exact oR _|exact oN _|exact jiR N _ _ _ _ _|exact DX N _|apply oC|apply oS|refine oB ?_ ?_|intro _)
theorem joK(N a b c d e):OLe (@jbM (aK N) a b c d e) (jbM a b c d e):=by
 unfold jbM;with_reducible repeat' (first|exact oR _|exact oN _|exact jlx N _ _ _ _|exact jml N _ _|apply oC|apply oS|refine oB ?_ ?_|intro _)
theorem Va(N a b c d):OLe (@j8C (aK N) a b c d) (j8C a b c d):=by
 unfold j8C;with_reducible repeat' (first|exact oR _|exact oN _|exact joK N _ _ _ _ _|apply oC|apply oS|refine oB ?_ ?_|intro _)
theorem jkc(N a b c d):OLe (@j7m (aK N) a b c d) (j7m a b c d):=by
 unfold j7m;with_reducible repeat' (first|exact oR _|exact oN _|exact Va N _ _ _ _|apply oC|apply oS|refine oB ?_ ?_|intro _)
theorem jkd(N a b):OLe (@j7n (aK N) a b) (j7n a b):=by
 unfold j7n;with_reducible repeat' (first|exact oR _|exact oN _|exact U4 N _|exact U8 N _ _|apply oC|apply oS|refine oB ?_ ?_|intro _)
theorem jrq(N):OLe (@jbf (aK N) ) (jbf ):=by
 unfold jbf;with_reducible repeat' (first|exact oR _|exact oN _|exact jkb N _ _ _|exact Va N _ _ _ _|exact jkc N _ _ _ _|exact jkd N _ _|apply oC|apply oS|refine oB ?_ ?_|intro _)
abbrev jrr(N:Nat):=@j17 (aK N)
end
end Go.Proofs.Pw
