/- Twins with a bound on their rounds, printed by a program. -/
import Derived.Test.YtaieocafhcjelaaGreatDFns
import Derived.Test.YtaieocafhcjelaaGreatDLD
open Go Go.Lft
set_option linter.unusedVariables false
set_option maxRecDepth 100000
namespace Go.Proofs.Pw
noncomputable section
theorem jkE(N a b c):OLe (@Ke (ar N) a b c) (Ke a b c):=OLe.loop N _ λ_=>oR _
theorem DL(N a):OLe (@j9L (ar N) a) (j9L a):=by
 unfold j9L;with_reducible repeat' (first|exact oR _|exact oN _|exact jkE N _ _ _|apply oC|apply oS|refine oB ?_ ?_|intro _)
theorem DM(N a b):OLe (@j4F (ar N) a b) (j4F a b):=by
 unfold j4F;with_reducible repeat' (first|exact oR _|exact oN _|exact DL N _|apply oC|apply oS|refine oB ?_ ?_|intro _)
theorem jjc(N a b c d e):OLe (@Aj (ar N) a b c d e) (Aj a b c d e):=OLe.loop N _ λ_=>oR _
theorem jml(N a):OLe (@j81 (ar N) a) (j81 a):=by
 unfold j81;with_reducible repeat' (first|exact oR _|exact oN _|exact jjc N _ _ _ _ _|apply oC|apply oS|refine oB ?_ ?_|intro _)
theorem jqs(N a b c d):OLe (@jcJ (ar N) a b c d) (jcJ a b c d):=by
 unfold jcJ;with_reducible repeat' (first|exact oR _|exact oN _|exact jml N _|apply oC|apply oS|refine oB ?_ ?_|intro _)
theorem j5Z(N a b c d e):OLe (@Ak (ar N) a b c d e) (Ak a b c d e):=OLe.loop N _ λ_=>oR _
theorem j5g(N a b c d):OLe (@j0c (ar N) a b c d) (j0c a b c d):=by
 unfold j0c;with_reducible repeat' (first|exact oR _|exact oN _|exact j5Z N _ _ _ _ _|apply oC|apply oS|refine oB ?_ ?_|intro _)
theorem j60(N a b c d):OLe (@Al (ar N) a b c d) (Al a b c d):=OLe.loop N _ λ_=>j5g N _ _ _ _
theorem T1(N a b c):OLe (@j0k (ar N) a b c) (j0k a b c):=by
 unfold j0k;with_reducible repeat' (first|exact oR _|exact oN _|exact j60 N _ _ _ _|apply oC|apply oS|refine oB ?_ ?_|intro _)
theorem j6z(N a b c d e):OLe (@j0s (ar N) a b c d e) (j0s a b c d e):=by
 unfold j0s;with_reducible repeat' (first|exact oR _|exact oN _|exact T1 N _ _ _|apply oC|apply oS|refine oB ?_ ?_|intro _)
theorem j7u(N a b c d e):OLe (@Am (ar N) a b c d e) (Am a b c d e):=OLe.loop N _ λ_=>j6z N _ _ _ _ _
theorem j7v(N a b c d e):OLe (@Kg (ar N) a b c d e) (Kg a b c d e):=OLe.loop N _ λ_=>oR _
theorem j6A(N a b c):OLe (@j0t (ar N) a b c) (j0t a b c):=by
 unfold j0t;with_reducible repeat' (first|exact oR _|exact oN _|exact j7v N _ _ _ _ _|apply oC|apply oS|refine oB ?_ ?_|intro _)
theorem j7w(N a b c):OLe (@An (ar N) a b c) (An a b c):=OLe.loop N _ λ_=>j6A N _ _ _
theorem j8l(N a b):OLe (@j1g (ar N) a b) (j1g a b):=by
 unfold j1g;with_reducible repeat' (first|exact oR _|exact oN _|exact j7u N _ _ _ _ _|exact T1 N _ _ _|exact j7w N _ _ _|apply oC|apply oS|refine oB ?_ ?_|intro _)
theorem j4R(N a):OLe (@j0h (ar N) a) (j0h a):=by
 unfold j0h;with_reducible repeat' (first|exact oR _|exact oN _|exact j8l N _ _|apply oC|apply oS|refine oB ?_ ?_|intro _)
theorem jfW(N a b c d e f g):OLe (@xE (ar N) a b c d e f g) (xE a b c d e f g):=OLe.loop N _ λ_=>oR _
theorem jdc(N a b c d e f g h i j k l):OLe (@j1E (ar N) a b c d e f g h i j k l) (j1E a b c d e f g h i j k l):=by
 unfold j1E;with_reducible repeat' (first|exact oR _|exact oN _|exact jqs N _ _ _ _|apply oC|apply oS|refine oB ?_ ?_|intro _)
theorem jfX(N a b c d e f g h i j k l):OLe (@Ao (ar N) a b c d e f g h i j k l) (Ao a b c d e f g h i j k l):=OLe.loop N _ λ_=>jdc N _ _ _ _ _ _ _ _ _ _ _ _
theorem jdd(N a b c d):OLe (@j1F (ar N) a b c d) (j1F a b c d):=by
 unfold j1F;with_reducible repeat' (first|exact oR _|exact oN _|exact jfX N _ _ _ _ _ _ _ _ _ _ _ _|apply oC|apply oS|refine oB ?_ ?_|intro _)
theorem jfY(N a b c d):OLe (@xF (ar N) a b c d) (xF a b c d):=OLe.loop N _ λ_=>jdd N _ _ _ _
theorem jib(N a):OLe (@j51 (ar N) a) (j51 a):=by
 unfold j51;with_reducible repeat' (first|exact oR _|exact oN _|exact jfW N _ _ _ _ _ _ _|exact jfY N _ _ _ _|exact j4R N _|apply oC|apply oS|refine oB ?_ ?_|intro _)
theorem jfZ(N a b c d e):OLe (@xG (ar N) a b c d e) (xG a b c d e):=OLe.loop N _ λ_=>oR _
theorem T2(N a):OLe (@j38 (ar N) a) (j38 a):=by
 unfold j38;with_reducible repeat' (first|exact oR _|exact oN _|exact jib N _|exact jfZ N _ _ _ _ _|apply oC|apply oS|refine oB ?_ ?_|intro _)
theorem joU(N a):OLe (@j9M (ar N) a) (j9M a):=by
 unfold j9M;with_reducible repeat' (first|exact oR _|exact oN _|exact T2 N _|apply oC|apply oS|refine oB ?_ ?_|intro _)
theorem j6m(N a b c):OLe (@Ap (ar N) a b c) (Ap a b c):=OLe.loop N _ λ_=>oR _
theorem j70(N a):OLe (@j0N (ar N) a) (j0N a):=by
 unfold j0N;with_reducible repeat' (first|exact oR _|exact oN _|exact j6m N _ _ _|apply oC|apply oS|refine oB ?_ ?_|intro _)
theorem j6n(N a):OLe (@j0D (ar N) a) (j0D a):=by
 unfold j0D;with_reducible repeat' (first|exact oR _|exact oN _|exact j70 N _|apply oC|apply oS|refine oB ?_ ?_|intro _)
theorem jhe(N a):OLe (@j3N (ar N) a) (j3N a):=by
 unfold j3N;with_reducible repeat' (first|exact oR _|exact oN _|exact joU N _|exact j6n N _|apply oC|apply oS|refine oB ?_ ?_|intro _)
theorem jao(N a b c d):OLe (@j15 (ar N) a b c d) (j15 a b c d):=by
 unfold j15;with_reducible repeat' (first|exact oR _|exact oN _|exact DM N _ _|exact jhe N _|apply oC|apply oS|refine oB ?_ ?_|intro _)
theorem jcw(N a b c d):OLe (@xH (ar N) a b c d) (xH a b c d):=OLe.loop N _ λ_=>jao N _ _ _ _
theorem jei(N a):OLe (@j2O (ar N) a) (j2O a):=by
 unfold j2O;with_reducible repeat' (first|exact oR _|exact oN _|exact jcw N _ _ _ _|apply oC|apply oS|refine oB ?_ ?_|intro _)
theorem jkF(N a b c d):OLe (@Aq (ar N) a b c d) (Aq a b c d):=OLe.loop N _ λ_=>oR _
theorem T3(N a):OLe (@j9N (ar N) a) (j9N a):=by
 unfold j9N;with_reducible repeat' (first|exact oR _|exact oN _|exact jkF N _ _ _ _|apply oC|apply oS|refine oB ?_ ?_|intro _)
theorem jg0(N a b):OLe (@j2A (ar N) a b) (j2A a b):=by
 unfold j2A;with_reducible repeat' (first|exact oR _|exact oN _|exact T3 N _|apply oC|apply oS|refine oB ?_ ?_|intro _)
theorem jkG(N a b):OLe (@Kh (ar N) a b) (Kh a b):=OLe.loop N _ λ_=>oR _
theorem joV(N a):OLe (@jeB (ar N) a) (jeB a):=by
 unfold jeB;with_reducible repeat' (first|exact oR _|exact oN _|exact jkG N _ _|apply oC|apply oS|refine oB ?_ ?_|intro _)
theorem jje(N a b c d e f g):OLe (@Ki (ar N) a b c d e f g) (Ki a b c d e f g):=OLe.loop N _ λ_=>oR _
theorem jmm(N a):OLe (@j82 (ar N) a) (j82 a):=by
 unfold j82;with_reducible repeat' (first|exact oR _|exact oN _|exact joV N _|exact jje N _ _ _ _ _ _ _|apply oC|apply oS|refine oB ?_ ?_|intro _)
theorem GN(N a):OLe (@j2f (ar N) a) (j2f a):=by
 unfold j2f;with_reducible repeat' (first|exact oR _|exact oN _|exact jmm N _|apply oC|apply oS|refine oB ?_ ?_|intro _)
theorem jdf(N a):OLe (@j2U (ar N) a) (j2U a):=by
 unfold j2U;with_reducible repeat' (first|exact oR _|exact oN _|exact GN N _|apply oC|apply oS|refine oB ?_ ?_|intro _)
theorem j9I(N a b c):OLe (@j0T (ar N) a b c) (j0T a b c):=by
 unfold j0T;with_reducible repeat' (first|exact oR _|exact oN _|exact jdf N _|apply oC|apply oS|refine oB ?_ ?_|intro _)
theorem jbH(N a b c):OLe (@Ar (ar N) a b c) (Ar a b c):=OLe.loop N _ λ_=>j9I N _ _ _
theorem jdg(N a):OLe (@j2V (ar N) a) (j2V a):=by
 unfold j2V;with_reducible repeat' (first|exact oR _|exact oN _|exact jbH N _ _ _|apply oC|apply oS|refine oB ?_ ?_|intro _)
theorem jbI(N a):OLe (@j2h (ar N) a) (j2h a):=by
 unfold j2h;with_reducible repeat' (first|exact oR _|exact oN _|exact jdg N _|apply oC|apply oS|refine oB ?_ ?_|intro _)
theorem jdh(N a b c d e):OLe (@As (ar N) a b c d e) (As a b c d e):=OLe.loop N _ λ_=>oR _
theorem jeN(N a b):OLe (@j2q (ar N) a b) (j2q a b):=by
 unfold j2q;with_reducible repeat' (first|exact oR _|exact oN _|exact jbI N _|exact jdh N _ _ _ _ _|apply oC|apply oS|refine oB ?_ ?_|intro _)
theorem jic(N a b c d e):OLe (@j61 (ar N) a b c d e) (j61 a b c d e):=by
 unfold j61;with_reducible repeat' (first|exact oR _|exact oN _|exact jeN N _ _|apply oC|apply oS|refine oB ?_ ?_|intro _)
theorem j97(N a b c d e f g h):OLe (@j0L (ar N) a b c d e f g h) (j0L a b c d e f g h):=by
 unfold j0L;with_reducible repeat' (first|exact oR _|exact oN _|exact DM N _ _|exact jic N _ _ _ _ _|apply oC|apply oS|refine oB ?_ ?_|intro _)
theorem jaD(N a b c d e f g h):OLe (@xI (ar N) a b c d e f g h) (xI a b c d e f g h):=OLe.loop N _ λ_=>j97 N _ _ _ _ _ _ _ _
theorem jc9(N a b c d e):OLe (@j1T (ar N) a b c d e) (j1T a b c d e):=by
 unfold j1T;with_reducible repeat' (first|exact oR _|exact oN _|exact jaD N _ _ _ _ _ _ _ _|apply oC|apply oS|refine oB ?_ ?_|intro _)
theorem jap(N a b c d e f g):OLe (@Au (ar N) a b c d e f g) (Au a b c d e f g):=OLe.loop N _ λ_=>oR _
theorem jbJ(N a b c d e):OLe (@j2i (ar N) a b c d e) (j2i a b c d e):=by
 unfold j2i;with_reducible repeat' (first|exact oR _|exact oN _|exact jap N _ _ _ _ _ _ _|apply oC|apply oS|refine oB ?_ ?_|intro _)
theorem jaq(N a b c d e):OLe (@j1H (ar N) a b c d e) (j1H a b c d e):=by
 unfold j1H;with_reducible repeat' (first|exact oR _|exact oN _|exact jbJ N _ _ _ _ _|apply oC|apply oS|refine oB ?_ ?_|intro _)
theorem jgG(N a b):OLe (@j3i (ar N) a b) (j3i a b):=by
 unfold j3i;with_reducible repeat' (first|exact oR _|exact oN _|exact GN N _|exact jaq N _ _ _ _ _|exact T3 N _|apply oC|apply oS|refine oB ?_ ?_|intro _)
theorem jdi(N a b c d e):OLe (@j2X (ar N) a b c d e) (j2X a b c d e):=by
 unfold j2X;with_reducible repeat' (first|exact oR _|exact oN _|exact jgG N _ _|apply oC|apply oS|refine oB ?_ ?_|intro _)
theorem j9T(N a b c d e f g h):OLe (@j11 (ar N) a b c d e f g h) (j11 a b c d e f g h):=by
 unfold j11;with_reducible repeat' (first|exact oR _|exact oN _|exact DM N _ _|exact jdi N _ _ _ _ _|apply oC|apply oS|refine oB ?_ ?_|intro _)
theorem jca(N a b c d e f g h):OLe (@xJ (ar N) a b c d e f g h) (xJ a b c d e f g h):=OLe.loop N _ λ_=>j9T N _ _ _ _ _ _ _ _
theorem jdx(N a b c d e):OLe (@j2B (ar N) a b c d e) (j2B a b c d e):=by
 unfold j2B;with_reducible repeat' (first|exact oR _|exact oN _|exact jca N _ _ _ _ _ _ _ _|apply oC|apply oS|refine oB ?_ ?_|intro _)
theorem jhf(N a b):OLe (@j3O (ar N) a b) (j3O a b):=by
 unfold j3O;with_reducible repeat' (first|exact oR _|exact oN _|exact GN N _|apply oC|apply oS|refine oB ?_ ?_|intro _)
theorem jaE(N a b c d e f g):OLe (@j1c (ar N) a b c d e f g) (j1c a b c d e f g):=by
 unfold j1c;with_reducible repeat' (first|exact oR _|exact oN _|exact jhf N _ _|apply oC|apply oS|refine oB ?_ ?_|intro _)
theorem jdj(N a b c d e f g):OLe (@Av (ar N) a b c d e f g) (Av a b c d e f g):=OLe.loop N _ λ_=>jaE N _ _ _ _ _ _ _
theorem jeO(N a b):OLe (@j2r (ar N) a b) (j2r a b):=by
 unfold j2r;with_reducible repeat' (first|exact oR _|exact oN _|exact jdx N _ _ _ _ _|exact jdj N _ _ _ _ _ _ _|apply oC|apply oS|refine oB ?_ ?_|intro _)
theorem jid(N a b c d e):OLe (@j62 (ar N) a b c d e) (j62 a b c d e):=by
 unfold j62;with_reducible repeat' (first|exact oR _|exact oN _|exact jeO N _ _|apply oC|apply oS|refine oB ?_ ?_|intro _)
theorem j98(N a b c d e f g h):OLe (@j0M (ar N) a b c d e f g h) (j0M a b c d e f g h):=by
 unfold j0M;with_reducible repeat' (first|exact oR _|exact oN _|exact DM N _ _|exact jid N _ _ _ _ _|apply oC|apply oS|refine oB ?_ ?_|intro _)
theorem jaF(N a b c d e f g h):OLe (@xK (ar N) a b c d e f g h) (xK a b c d e f g h):=OLe.loop N _ λ_=>j98 N _ _ _ _ _ _ _ _
theorem jcb(N a b c d e):OLe (@j2z (ar N) a b c d e) (j2z a b c d e):=by
 unfold j2z;with_reducible repeat' (first|exact oR _|exact oN _|exact jaF N _ _ _ _ _ _ _ _|apply oC|apply oS|refine oB ?_ ?_|intro _)
theorem jeP(N a b c d e f g h):OLe (@j2s (ar N) a b c d e f g h) (j2s a b c d e f g h):=by
 unfold j2s;with_reducible repeat' (first|exact oR _|exact oN _|exact DM N _ _|exact jg0 N _ _|apply oC|apply oS|refine oB ?_ ?_|intro _)
theorem jie(N a b c d e f g h):OLe (@xL (ar N) a b c d e f g h) (xL a b c d e f g h):=OLe.loop N _ λ_=>jeP N _ _ _ _ _ _ _ _
theorem jkH(N a):OLe (@j6a (ar N) a) (j6a a):=by
 unfold j6a;with_reducible repeat' (first|exact oR _|exact oN _|exact jei N _|exact jie N _ _ _ _ _ _ _ _|exact jc9 N _ _ _ _ _|exact jcb N _ _ _ _ _|apply oC|apply oS|refine oB ?_ ?_|intro _)
theorem jtC(N a):OLe (@jgp (ar N) a) (jgp a):=by
 unfold jgp;with_reducible repeat' (first|exact oR _|exact oN _|exact T2 N _|apply oC|apply oS|refine oB ?_ ?_|intro _)
theorem jg1(N a b c d):OLe (@j30 (ar N) a b c d) (j30 a b c d):=by
 unfold j30;with_reducible repeat' (first|exact oR _|exact oN _|exact jtC N _|apply oC|apply oS|refine oB ?_ ?_|intro _)
theorem jk0(N a b c d):OLe (@xM (ar N) a b c d) (xM a b c d):=OLe.loop N _ λ_=>jg1 N _ _ _ _
theorem jn2(N a):OLe (@jaZ (ar N) a) (jaZ a):=by
 unfold jaZ;with_reducible repeat' (first|exact oR _|exact oN _|exact jk0 N _ _ _ _|apply oC|apply oS|refine oB ?_ ?_|intro _)
theorem jqt(N a):OLe (@jcM (ar N) a) (jcM a):=by
 unfold jcM;with_reducible repeat' (first|exact oR _|exact oN _|exact jn2 N _|apply oC|apply oS|refine oB ?_ ?_|intro _)
theorem T4(N a):OLe (@jgq (ar N) a) (jgq a):=by
 unfold jgq;with_reducible repeat' (first|exact oR _|exact oN _|exact jkH N _|exact jqt N _|apply oC|apply oS|refine oB ?_ ?_|intro _)
theorem MD(N a b c d):OLe (@j5I (ar N) a b c d) (j5I a b c d):=by
 unfold j5I;with_reducible repeat' (first|exact oR _|exact oN _|exact T4 N _|apply oC|apply oS|refine oB ?_ ?_|intro _)
theorem jar(N a b c d e):OLe (@xN (ar N) a b c d e) (xN a b c d e):=OLe.loop N _ λ_=>oR _
theorem jbK(N a b c):OLe (@j2j (ar N) a b c) (j2j a b c):=by
 unfold j2j;with_reducible repeat' (first|exact oR _|exact oN _|exact jar N _ _ _ _ _|apply oC|apply oS|refine oB ?_ ?_|intro _)
theorem jbc(N a b c d e):OLe (@Aw (ar N) a b c d e) (Aw a b c d e):=OLe.loop N _ λ_=>oR _
theorem jcx(N a b c):OLe (@j25 (ar N) a b c) (j25 a b c):=by
 unfold j25;with_reducible repeat' (first|exact oR _|exact oN _|exact jbK N _ _ _|exact jbc N _ _ _ _ _|apply oC|apply oS|refine oB ?_ ?_|intro _)
theorem jcy(N a b c d):OLe (@xO (ar N) a b c d) (xO a b c d):=OLe.loop N _ λ_=>oR _
theorem jas(N a b):OLe (@j16 (ar N) a b) (j16 a b):=by
 unfold j16;with_reducible repeat' (first|exact oR _|exact oN _|exact jcy N _ _ _ _|apply oC|apply oS|refine oB ?_ ?_|intro _)
theorem jcz(N a b):OLe (@tw (ar N) a b) (tw a b):=OLe.loop N _ λ_=>jas N _ _
theorem jek(N a):OLe (@j2P (ar N) a) (j2P a):=by
 unfold j2P;with_reducible repeat' (first|exact oR _|exact oN _|exact jcz N _ _|apply oC|apply oS|refine oB ?_ ?_|intro _)
theorem T5(N a b c):OLe (@jbt (ar N) a b c) (jbt a b c):=by
 unfold jbt;with_reducible repeat' (first|exact oR _|exact oN _|exact jcx N _ _ _|exact jek N _|apply oC|apply oS|refine oB ?_ ?_|intro _)
theorem jk1(N a b c d e):OLe (@Ax (ar N) a b c d e) (Ax a b c d e):=OLe.loop N _ λ_=>oR _
theorem jn3(N a b c d):OLe (@jb1 (ar N) a b c d) (jb1 a b c d):=by
 unfold jb1;with_reducible repeat' (first|exact oR _|exact oN _|exact jk1 N _ _ _ _ _|apply oC|apply oS|refine oB ?_ ?_|intro _)
theorem T6(N a b):OLe (@j4e (ar N) a b) (j4e a b):=by
 unfold j4e;with_reducible repeat' (first|exact oR _|exact oN _|exact jn3 N _ _ _ _|apply oC|apply oS|refine oB ?_ ?_|intro _)
theorem jcA(N a b c d e):OLe (@j0H (ar N) a b c d e) (j0H a b c d e):=by
 unfold j0H;with_reducible repeat' (first|exact oR _|exact oN _|exact T6 N _ _|apply oC|apply oS|refine oB ?_ ?_|intro _)
theorem jfn(N a b c d e):OLe (@vD (ar N) a b c d e) (vD a b c d e):=OLe.loop N _ λ_=>jcA N _ _ _ _ _
theorem ME(N a b c):OLe (@j1X (ar N) a b c) (j1X a b c):=by
 unfold j1X;with_reducible repeat' (first|exact oR _|exact oN _|exact jfn N _ _ _ _ _|apply oC|apply oS|refine oB ?_ ?_|intro _)
theorem jg2(N a b c d e):OLe (@xP (ar N) a b c d e) (xP a b c d e):=OLe.loop N _ λ_=>oR _
theorem jif(N a b):OLe (@j2F (ar N) a b) (j2F a b):=by
 unfold j2F;with_reducible repeat' (first|exact oR _|exact oN _|exact ME N _ _ _|exact jg2 N _ _ _ _ _|apply oC|apply oS|refine oB ?_ ?_|intro _)
theorem DN(N a b c):OLe (@j1d (ar N) a b c) (j1d a b c):=by
 unfold j1d;with_reducible repeat' (first|exact oR _|exact oN _|exact jif N _ _|apply oC|apply oS|refine oB ?_ ?_|intro _)
theorem j7S(N a b c):OLe (@xQ (ar N) a b c) (xQ a b c):=OLe.loop N _ λ_=>oR _
theorem j9a(N a):OLe (@j1p (ar N) a) (j1p a):=by
 unfold j1p;with_reducible repeat' (first|exact oR _|exact oN _|exact j7S N _ _ _|apply oC|apply oS|refine oB ?_ ?_|intro _)
theorem j7E(N a b c):OLe (@Az (ar N) a b c) (Az a b c):=OLe.loop N _ λ_=>oR _
theorem j8D(N a):OLe (@j0X (ar N) a) (j0X a):=by
 unfold j0X;with_reducible repeat' (first|exact oR _|exact oN _|exact j9a N _|exact j7E N _ _ _|apply oC|apply oS|refine oB ?_ ?_|intro _)
theorem jkI(N a b c d):OLe (@xR (ar N) a b c d) (xR a b c d):=OLe.loop N _ λ_=>oR _
theorem AX(N a):OLe (@j63 (ar N) a) (j63 a):=by
 unfold j63;with_reducible repeat' (first|exact oR _|exact oN _|exact j8D N _|exact jkI N _ _ _ _|apply oC|apply oS|refine oB ?_ ?_|intro _)
theorem jjf(N a b c d e f g h i j k l):OLe (@AA (ar N) a b c d e f g h i j k l) (AA a b c d e f g h i j k l):=OLe.loop N _ λ_=>oR _
theorem jfo(N a b c d e f g h i):OLe (@j2J (ar N) a b c d e f g h i) (j2J a b c d e f g h i):=by
 unfold j2J;with_reducible repeat' (first|exact oR _|exact oN _|exact jjf N _ _ _ _ _ _ _ _ _ _ _ _|apply oC|apply oS|refine oB ?_ ?_|intro _)
theorem jjg(N a b c d e f g h i):OLe (@AB (ar N) a b c d e f g h i) (AB a b c d e f g h i):=OLe.loop N _ λ_=>jfo N _ _ _ _ _ _ _ _ _
theorem jfp(N a b c d e):OLe (@j2K (ar N) a b c d e) (j2K a b c d e):=by
 unfold j2K;with_reducible repeat' (first|exact oR _|exact oN _|exact jjg N _ _ _ _ _ _ _ _ _|apply oC|apply oS|refine oB ?_ ?_|intro _)
theorem jjh(N a b c d e):OLe (@AD (ar N) a b c d e) (AD a b c d e):=OLe.loop N _ λ_=>jfp N _ _ _ _ _
theorem T7(N a b c d):OLe (@j2u (ar N) a b c d) (j2u a b c d):=by
 unfold j2u;with_reducible repeat' (first|exact oR _|exact oN _|exact ME N _ _ _|exact jjh N _ _ _ _ _|exact AX N _|apply oC|apply oS|refine oB ?_ ?_|intro _)
theorem jhg(N a b c d e f g h i j k l m):OLe (@xS (ar N) a b c d e f g h i j k l m) (xS a b c d e f g h i j k l m):=OLe.loop N _ λ_=>oR _
theorem jel(N a b c d e f g):OLe (@j2c (ar N) a b c d e f g) (j2c a b c d e f g):=by
 unfold j2c;with_reducible repeat' (first|exact oR _|exact oN _|exact jhg N _ _ _ _ _ _ _ _ _ _ _ _ _|apply oC|apply oS|refine oB ?_ ?_|intro _)
theorem jhh(N a b c d e f g):OLe (@xT (ar N) a b c d e f g) (xT a b c d e f g):=OLe.loop N _ λ_=>jel N _ _ _ _ _ _ _
theorem jk2(N a b c d):OLe (@j2o (ar N) a b c d) (j2o a b c d):=by
 unfold j2o;with_reducible repeat' (first|exact oR _|exact oN _|exact ME N _ _ _|exact jhh N _ _ _ _ _ _ _|exact AX N _|apply oC|apply oS|refine oB ?_ ?_|intro _)
theorem jji(N a b c d e f g h):OLe (@AE (ar N) a b c d e f g h) (AE a b c d e f g h):=OLe.loop N _ λ_=>oR _
theorem jjj(N a b c d e f g h i j):OLe (@xU (ar N) a b c d e f g h i j) (xU a b c d e f g h i j):=OLe.loop N _ λ_=>oR _
theorem jfq(N a b c d e f):OLe (@j2L (ar N) a b c d e f) (j2L a b c d e f):=by
 unfold j2L;with_reducible repeat' (first|exact oR _|exact oN _|exact jji N _ _ _ _ _ _ _ _|exact jjj N _ _ _ _ _ _ _ _ _ _|apply oC|apply oS|refine oB ?_ ?_|intro _)
theorem jjk(N a b c d e f):OLe (@vE (ar N) a b c d e f) (vE a b c d e f):=OLe.loop N _ λ_=>jfq N _ _ _ _ _ _
theorem MF(N a b):OLe (@j31 (ar N) a b) (j31 a b):=by
 unfold j31;with_reducible repeat' (first|exact oR _|exact oN _|exact jjk N _ _ _ _ _ _|apply oC|apply oS|refine oB ?_ ?_|intro _)
theorem jk3(N a b c d e):OLe (@tx (ar N) a b c d e) (tx a b c d e):=OLe.loop N _ λ_=>oR _
theorem T8(N a b):OLe (@j4o (ar N) a b) (j4o a b):=by
 unfold j4o;with_reducible repeat' (first|exact oR _|exact oN _|exact jk3 N _ _ _ _ _|apply oC|apply oS|refine oB ?_ ?_|intro _)
theorem jjl(N a b c d):OLe (@j4I (ar N) a b c d) (j4I a b c d):=by
 unfold j4I;with_reducible repeat' (first|exact oR _|exact oN _|exact DN N _ _ _|exact T7 N _ _ _ _|exact jk2 N _ _ _ _|exact MF N _ _|exact T8 N _ _|apply oC|apply oS|refine oB ?_ ?_|intro _)
theorem jhi(N a b):OLe (@j4p (ar N) a b) (j4p a b):=by
 unfold j4p;with_reducible repeat' (first|exact oR _|exact oN _|exact T6 N _ _|apply oC|apply oS|refine oB ?_ ?_|intro _)
theorem T9(N a b):OLe (@j1y (ar N) a b) (j1y a b):=by
 unfold j1y;with_reducible repeat' (first|exact oR _|exact oN _|exact jhi N _ _|apply oC|apply oS|refine oB ?_ ?_|intro _)
theorem jeQ(N a b c d e f g h i j k l m n):OLe (@j2v (ar N) a b c d e f g h i j k l m n) (j2v a b c d e f g h i j k l m n):=by
 unfold j2v;with_reducible repeat' (first|exact oR _|exact oN _|exact DN N _ _ _|apply oC|apply oS|refine oB ?_ ?_|intro _)
theorem jig(N a b c d e f g h i j k l m n):OLe (@AF (ar N) a b c d e f g h i j k l m n) (AF a b c d e f g h i j k l m n):=OLe.loop N _ λ_=>jeQ N _ _ _ _ _ _ _ _ _ _ _ _ _ _
theorem jeR(N a b c d e f g h i j k l m n):OLe (@j32 (ar N) a b c d e f g h i j k l m n) (j32 a b c d e f g h i j k l m n):=by
 unfold j32;with_reducible repeat' (first|exact oR _|exact oN _|exact DN N _ _ _|apply oC|apply oS|refine oB ?_ ?_|intro _)
theorem jih(N a b c d e f g h i j k l m n):OLe (@AG (ar N) a b c d e f g h i j k l m n) (AG a b c d e f g h i j k l m n):=OLe.loop N _ λ_=>jeR N _ _ _ _ _ _ _ _ _ _ _ _ _ _
theorem jkJ(N a b c):OLe (@j3u (ar N) a b c) (j3u a b c):=by
 unfold j3u;with_reducible repeat' (first|exact oR _|exact oN _|exact DN N _ _ _|exact T9 N _ _|exact jig N _ _ _ _ _ _ _ _ _ _ _ _ _ _|exact jih N _ _ _ _ _ _ _ _ _ _ _ _ _ _|apply oC|apply oS|refine oB ?_ ?_|intro _)
theorem jkK(N a b c d):OLe (@vF (ar N) a b c d) (vF a b c d):=OLe.loop N _ λ_=>oR _
theorem MG(N a):OLe (@j7A (ar N) a) (j7A a):=by
 unfold j7A;with_reducible repeat' (first|exact oR _|exact oN _|exact jkK N _ _ _ _|apply oC|apply oS|refine oB ?_ ?_|intro _)
theorem jcc(N a b c d e f g h i j k l m n o p q r s t u v):OLe (@j1V (ar N) a b c d e f g h i j k l m n o p q r s t u v) (j1V a b c d e f g h i j k l m n o p q r s t u v):=by
 unfold j1V;with_reducible repeat' (first|exact oR _|exact oN _|exact jkJ N _ _ _|exact DN N _ _ _|apply oC|apply oS|refine oB ?_ ?_|intro _)
theorem jeS(N a b c d e f g h i j k l m n o p q r s t u v):OLe (@xV (ar N) a b c d e f g h i j k l m n o p q r s t u v) (xV a b c d e f g h i j k l m n o p q r s t u v):=OLe.loop N _ λ_=>jcc N _ _ _ _ _ _ _ _ _ _ _ _ _ _ _ _ _ _ _ _ _ _
theorem jcd(N a b c d e f g h i j k l m n o p q r s t):OLe (@j1v (ar N) a b c d e f g h i j k l m n o p q r s t) (j1v a b c d e f g h i j k l m n o p q r s t):=by
 unfold j1v;with_reducible repeat' (first|exact oR _|exact oN _|exact jeS N _ _ _ _ _ _ _ _ _ _ _ _ _ _ _ _ _ _ _ _ _ _|apply oC|apply oS|refine oB ?_ ?_|intro _)
theorem jeT(N a b c d e f g h i j k l m n o p q r s t):OLe (@xW (ar N) a b c d e f g h i j k l m n o p q r s t) (xW a b c d e f g h i j k l m n o p q r s t):=OLe.loop N _ λ_=>jcd N _ _ _ _ _ _ _ _ _ _ _ _ _ _ _ _ _ _ _ _
theorem jgI(N a b c d):OLe (@j1Z (ar N) a b c d) (j1Z a b c d):=by
 unfold j1Z;with_reducible repeat' (first|exact oR _|exact oN _|exact jjl N _ _ _ _|exact jeT N _ _ _ _ _ _ _ _ _ _ _ _ _ _ _ _ _ _ _ _|exact MG N _|apply oC|apply oS|refine oB ?_ ?_|intro _)
theorem jjm(N a b c d e):OLe (@xX (ar N) a b c d e) (xX a b c d e):=OLe.loop N _ λ_=>oR _
theorem jmn(N a b):OLe (@j5w (ar N) a b) (j5w a b):=by
 unfold j5w;with_reducible repeat' (first|exact oR _|exact oN _|exact jjm N _ _ _ _ _|exact AX N _|apply oC|apply oS|refine oB ?_ ?_|intro _)
theorem jii(N a b c d e f g h i j k l m n):OLe (@tz (ar N) a b c d e f g h i j k l m n) (tz a b c d e f g h i j k l m n):=OLe.loop N _ λ_=>oR _
theorem jeU(N a b c d e f g h):OLe (@j2w (ar N) a b c d e f g h) (j2w a b c d e f g h):=by
 unfold j2w;with_reducible repeat' (first|exact oR _|exact oN _|exact jmn N _ _|exact MF N _ _|exact jii N _ _ _ _ _ _ _ _ _ _ _ _ _ _|apply oC|apply oS|refine oB ?_ ?_|intro _)
theorem jij(N a b c d e f g h):OLe (@vG (ar N) a b c d e f g h) (vG a b c d e f g h):=OLe.loop N _ λ_=>jeU N _ _ _ _ _ _ _ _
theorem jkL(N a b):OLe (@j6e (ar N) a b) (j6e a b):=by
 unfold j6e;with_reducible repeat' (first|exact oR _|exact oN _|exact jij N _ _ _ _ _ _ _ _|apply oC|apply oS|refine oB ?_ ?_|intro _)
theorem jjn(N a b c d e):OLe (@tA (ar N) a b c d e) (tA a b c d e):=OLe.loop N _ λ_=>oR _
theorem jmo(N a b):OLe (@j86 (ar N) a b) (j86 a b):=by
 unfold j86;with_reducible repeat' (first|exact oR _|exact oN _|exact jjn N _ _ _ _ _|apply oC|apply oS|refine oB ?_ ?_|intro _)
theorem jk4(N a b c d):OLe (@xY (ar N) a b c d) (xY a b c d):=OLe.loop N _ λ_=>oR _
theorem jn4(N a):OLe (@j87 (ar N) a) (j87 a):=by
 unfold j87;with_reducible repeat' (first|exact oR _|exact oN _|exact jk4 N _ _ _ _|exact AX N _|apply oC|apply oS|refine oB ?_ ?_|intro _)
theorem jdn(N a b c d e f g h i j k l m n):OLe (@j1I (ar N) a b c d e f g h i j k l m n) (j1I a b c d e f g h i j k l m n):=by
 unfold j1I;with_reducible repeat' (first|exact oR _|exact oN _|exact jgI N _ _ _ _|exact jkL N _ _|exact jmo N _ _|exact jn4 N _|exact MF N _ _|apply oC|apply oS|refine oB ?_ ?_|intro _)
theorem jg3(N a b c d e f g h i j k l m n):OLe (@xZ (ar N) a b c d e f g h i j k l m n) (xZ a b c d e f g h i j k l m n):=OLe.loop N _ λ_=>jdn N _ _ _ _ _ _ _ _ _ _ _ _ _ _
theorem jg4(N a b c d):OLe (@x8 (ar N) a b c d) (x8 a b c d):=OLe.loop N _ λ_=>oR _
theorem jik(N a b c d):OLe (@j3w (ar N) a b c d) (j3w a b c d):=by
 unfold j3w;with_reducible repeat' (first|exact oR _|exact oN _|exact jg3 N _ _ _ _ _ _ _ _ _ _ _ _ _ _|exact jg4 N _ _ _ _|exact MG N _|apply oC|apply oS|refine oB ?_ ?_|intro _)
theorem jat(N a b c d e):OLe (@AH (ar N) a b c d e) (AH a b c d e):=OLe.loop N _ λ_=>oR _
theorem jbL(N a b):OLe (@j1D (ar N) a b) (j1D a b):=by
 unfold j1D;with_reducible repeat' (first|exact oR _|exact oN _|exact jat N _ _ _ _ _|apply oC|apply oS|refine oB ?_ ?_|intro _)
theorem jmp(N a b c d e):OLe (@x9 (ar N) a b c d e) (x9 a b c d e):=OLe.loop N _ λ_=>oR _
theorem jqu(N a b c):OLe (@jcQ (ar N) a b c) (jcQ a b c):=by
 unfold jcQ;with_reducible repeat' (first|exact oR _|exact oN _|exact jmp N _ _ _ _ _|apply oC|apply oS|refine oB ?_ ?_|intro _)
theorem jgJ(N a b c d e f g h i j k l m n):OLe (@ya (ar N) a b c d e f g h i j k l m n) (ya a b c d e f g h i j k l m n):=OLe.loop N _ λ_=>oR _
theorem jdy(N a b c d e f g h i j k l m):OLe (@j20 (ar N) a b c d e f g h i j k l m) (j20 a b c d e f g h i j k l m):=by
 unfold j20;with_reducible repeat' (first|exact oR _|exact oN _|exact jqu N _ _ _|apply oC|apply oS|refine oB ?_ ?_|intro _)
theorem jgK(N a b c d e f g h i j k l m):OLe (@AJ (ar N) a b c d e f g h i j k l m) (AJ a b c d e f g h i j k l m):=OLe.loop N _ λ_=>jdy N _ _ _ _ _ _ _ _ _ _ _ _ _
theorem jdz(N a b c d e f g h):OLe (@j21 (ar N) a b c d e f g h) (j21 a b c d e f g h):=by
 unfold j21;with_reducible repeat' (first|exact oR _|exact oN _|exact jbL N _ _|exact jgK N _ _ _ _ _ _ _ _ _ _ _ _ _|apply oC|apply oS|refine oB ?_ ?_|intro _)
theorem jgL(N a b c d e f g h):OLe (@yb (ar N) a b c d e f g h) (yb a b c d e f g h):=OLe.loop N _ λ_=>jdz N _ _ _ _ _ _ _ _
theorem Ua(N a b c d):OLe (@j35 (ar N) a b c d) (j35 a b c d):=by
 unfold j35;with_reducible repeat' (first|exact oR _|exact oN _|exact jgJ N _ _ _ _ _ _ _ _ _ _ _ _ _ _|exact T5 N _ _ _|exact jik N _ _ _ _|exact jgL N _ _ _ _ _ _ _ _|exact MG N _|apply oC|apply oS|refine oB ?_ ?_|intro _)
theorem jhj(N a b c d e):OLe (@yc (ar N) a b c d e) (yc a b c d e):=OLe.loop N _ λ_=>oR _
theorem jk5(N a b):OLe (@j6u (ar N) a b) (j6u a b):=by
 unfold j6u;with_reducible repeat' (first|exact oR _|exact oN _|exact jhj N _ _ _ _ _|exact AX N _|apply oC|apply oS|refine oB ?_ ?_|intro _)
theorem jeV(N a b c d e f g h i j k l):OLe (@j2x (ar N) a b c d e f g h i j k l) (j2x a b c d e f g h i j k l):=by
 unfold j2x;with_reducible repeat' (first|exact oR _|exact oN _|exact Ua N _ _ _ _|exact jk5 N _ _|apply oC|apply oS|refine oB ?_ ?_|intro _)
theorem jil(N a b c d e f g h i j k l):OLe (@yd (ar N) a b c d e f g h i j k l) (yd a b c d e f g h i j k l):=OLe.loop N _ λ_=>jeV N _ _ _ _ _ _ _ _ _ _ _ _
theorem Ub(N a b c d):OLe (@j4B (ar N) a b c d) (j4B a b c d):=by
 unfold j4B;with_reducible repeat' (first|exact oR _|exact oN _|exact jil N _ _ _ _ _ _ _ _ _ _ _ _|exact AX N _|apply oC|apply oS|refine oB ?_ ?_|intro _)
theorem jgM(N a b c d e f g):OLe (@tB (ar N) a b c d e f g) (tB a b c d e f g):=OLe.loop N _ λ_=>oR _
theorem jjo(N a b c d):OLe (@j5M (ar N) a b c d) (j5M a b c d):=by
 unfold j5M;with_reducible repeat' (first|exact oR _|exact oN _|exact jgM N _ _ _ _ _ _ _|apply oC|apply oS|refine oB ?_ ?_|intro _)
theorem j7k(N a b c d e):OLe (@AK (ar N) a b c d e) (AK a b c d e):=OLe.loop N _ λ_=>oR _
theorem j6o(N a b c d):OLe (@j0e (ar N) a b c d) (j0e a b c d):=by
 unfold j0e;with_reducible repeat' (first|exact oR _|exact oN _|exact j7k N _ _ _ _ _|apply oC|apply oS|refine oB ?_ ?_|intro _)
theorem j7l(N a b c d):OLe (@AL (ar N) a b c d) (AL a b c d):=OLe.loop N _ λ_=>j6o N _ _ _ _
theorem Uc(N a b c):OLe (@j0p (ar N) a b c) (j0p a b c):=by
 unfold j0p;with_reducible repeat' (first|exact oR _|exact oN _|exact j7l N _ _ _ _|apply oC|apply oS|refine oB ?_ ?_|intro _)
theorem j8m(N a b c d e):OLe (@ye (ar N) a b c d e) (ye a b c d e):=OLe.loop N _ λ_=>oR _
theorem Ud(N a b c d):OLe (@j0r (ar N) a b c d) (j0r a b c d):=by
 unfold j0r;with_reducible repeat' (first|exact oR _|exact oN _|exact j8m N _ _ _ _ _|apply oC|apply oS|refine oB ?_ ?_|intro _)
theorem j7F(N a b c d):OLe (@j0K (ar N) a b c d) (j0K a b c d):=by
 unfold j0K;with_reducible repeat' (first|exact oR _|exact oN _|exact Ud N _ _ _ _|apply oC|apply oS|refine oB ?_ ?_|intro _)
theorem j9j(N a b c d):OLe (@AM (ar N) a b c d) (AM a b c d):=OLe.loop N _ λ_=>j7F N _ _ _ _
theorem jau(N a b c d):OLe (@j0Q (ar N) a b c d) (j0Q a b c d):=by
 unfold j0Q;with_reducible repeat' (first|exact oR _|exact oN _|exact j9j N _ _ _ _|exact Ud N _ _ _ _|apply oC|apply oS|refine oB ?_ ?_|intro _)
theorem j8F(N:Nat)(rec bT:ae->Int->Int->Int->Option (ae))(bM:∀v0 v1 v2 v3,OLe (rec v0 v1 v2 v3) (bT v0 v1 v2 v3))(s1 qO DO:Int)(b0:ae):OLe (@tC (ar N) rec s1 qO DO b0) (tC bT s1 qO DO b0):=OLe.loop N _ λh=>OLe.refl _
theorem j7T(rec bT:ae->Int->Int->Int->Option (ae))(bM:∀v0 v1 v2 v3,OLe (rec v0 v1 v2 v3) (bT v0 v1 v2 v3))(s1 qO DO:Int)(b0:ae):OLe (tC rec s1 qO DO b0) (tC bT s1 qO DO b0):=OLe.loopOpt _ λh=>OLe.refl _
theorem j8G(N:Nat)(rec bT:ae->Int->Int->Int->Option (ae))(bM:∀v0 v1 v2 v3,OLe (rec v0 v1 v2 v3) (bT v0 v1 v2 v3))(qO DP:Int)(b0:ae):OLe (@vH (ar N) rec qO DP b0) (vH bT qO DP b0):=OLe.loop N _ λh=>OLe.refl _
theorem j7U(rec bT:ae->Int->Int->Int->Option (ae))(bM:∀v0 v1 v2 v3,OLe (rec v0 v1 v2 v3) (bT v0 v1 v2 v3))(qO DP:Int)(b0:ae):OLe (vH rec qO DP b0) (vH bT qO DP b0):=OLe.loopOpt _ λh=>OLe.refl _
theorem j8H(N:Nat)(rec bT:ae->Int->Int->Int->Option (ae))(bM:∀v0 v1 v2 v3,OLe (rec v0 v1 v2 v3) (bT v0 v1 v2 v3))(s2 qP DQ:Int)(b0:ae):OLe (@tD (ar N) rec s2 qP DQ b0) (tD bT s2 qP DQ b0):=OLe.loop N _ λh=>OLe.refl _
theorem j7V(rec bT:ae->Int->Int->Int->Option (ae))(bM:∀v0 v1 v2 v3,OLe (rec v0 v1 v2 v3) (bT v0 v1 v2 v3))(s2 qP DQ:Int)(b0:ae):OLe (tD rec s2 qP DQ b0) (tD bT s2 qP DQ b0):=OLe.loopOpt _ λh=>OLe.refl _
theorem j8I(N:Nat)(rec bT:ae->Int->Int->Int->Option (ae))(bM:∀v0 v1 v2 v3,OLe (rec v0 v1 v2 v3) (bT v0 v1 v2 v3))(qP DR:Int)(b0:ae):OLe (@vI (ar N) rec qP DR b0) (vI bT qP DR b0):=OLe.loop N _ λh=>OLe.refl _
theorem j7W(rec bT:ae->Int->Int->Int->Option (ae))(bM:∀v0 v1 v2 v3,OLe (rec v0 v1 v2 v3) (bT v0 v1 v2 v3))(qP DR:Int)(b0:ae):OLe (vI rec qP DR b0) (vI bT qP DR b0):=OLe.loopOpt _ λh=>OLe.refl _
theorem j8J(N:Nat)(rec bT:ae->Int->Int->Int->Option (ae))(bM:∀v0 v1 v2 v3,OLe (rec v0 v1 v2 v3) (bT v0 v1 v2 v3))(s1 s2 s3 s18 s19 DS DT DU:Int)(b0:ae):OLe (@rP (ar N) rec s1 s2 s3 s18 s19 DS DT DU b0) (rP bT s1 s2 s3 s18 s19 DS DT DU b0):=OLe.loop N _ λh=>OLe.refl _
theorem j7X(rec bT:ae->Int->Int->Int->Option (ae))(bM:∀v0 v1 v2 v3,OLe (rec v0 v1 v2 v3) (bT v0 v1 v2 v3))(s1 s2 s3 s18 s19 DS DT DU:Int)(b0:ae):OLe (rP rec s1 s2 s3 s18 s19 DS DT DU b0) (rP bT s1 s2 s3 s18 s19 DS DT DU b0):=OLe.loopOpt _ λh=>OLe.refl _
theorem j7Y(N:Nat)(rec bT:ae->Int->Int->Int->Option (ae))(bM:∀v0 v1 v2 v3,OLe (rec v0 v1 v2 v3) (bT v0 v1 v2 v3))(fP:ae)(qQ qR qS:Int):OLe (@rQ (ar N) rec fP qQ qR qS) (rQ bT fP qQ qR qS):=by
 unfold rQ;with_reducible repeat' (first|exact oR _|exact oN _|exact bM _ _ _ _|exact j8F N _ _ bM _ _ _ _|exact j8G N _ _ bM _ _ _|exact j8H N _ _ bM _ _ _ _|exact j8I N _ _ bM _ _ _|exact j8J N _ _ bM _ _ _ _ _ _ _ _ _|exact jau N _ _ _ _|apply oC|apply oS|refine oB ?_ ?_|intro _)
theorem j7x(rec bT:ae->Int->Int->Int->Option (ae))(bM:∀v0 v1 v2 v3,OLe (rec v0 v1 v2 v3) (bT v0 v1 v2 v3))(fP:ae)(qQ qR qS:Int):OLe (rQ rec fP qQ qR qS) (rQ bT fP qQ qR qS):=by
 unfold rQ;with_reducible repeat' (first|exact oR _|exact oN _|exact bM _ _ _ _|exact j7T _ _ bM _ _ _ _|exact j7U _ _ bM _ _ _|exact j7V _ _ bM _ _ _ _|exact j7W _ _ bM _ _ _|exact j7X _ _ bM _ _ _ _ _ _ _ _ _|apply oC|apply oS|refine oB ?_ ?_|intro _)
theorem j8n(N:Nat)(g g':(ae×Int×Int×Int)->Option (ae))(hg:∀a,OLe (g a) (g' a))(h:ae×Int×Int×Int):OLe (@j0i (ar N) g h) (j0i g' h):=j7Y N _ _ (by intros;exact hg _) _ _ _ _
theorem j7G(g g':(ae×Int×Int×Int)->Option (ae))(hg:∀a,OLe (g a) (g' a))(h:ae×Int×Int×Int):OLe (j0i g h) (j0i g' h):=j7x _ _ (by intros;exact hg _) _ _ _ _
theorem Ue(N a b c d):OLe (@j1f (ar N) a b c d) (j1f a b c d):=OLe.rec N _ (λg g' hg a=>j8n N g g' hg a) (λg g' hg a=>j7G g g' hg a)
theorem j7H(N a b c d e):OLe (@j0m (ar N) a b c d e) (j0m a b c d e):=by
 unfold j0m;with_reducible repeat' (first|exact oR _|exact oN _|exact Uc N _ _ _|apply oC|apply oS|refine oB ?_ ?_|intro _)
theorem j9k(N a b c d e):OLe (@yf (ar N) a b c d e) (yf a b c d e):=OLe.loop N _ λ_=>j7H N _ _ _ _ _
theorem j7I(N a b c d e):OLe (@j0n (ar N) a b c d e) (j0n a b c d e):=by
 unfold j0n;with_reducible repeat' (first|exact oR _|exact oN _|exact Ue N _ _ _ _|apply oC|apply oS|refine oB ?_ ?_|intro _)
theorem j9l(N a b c d e):OLe (@yg (ar N) a b c d e) (yg a b c d e):=OLe.loop N _ λ_=>j7I N _ _ _ _ _
theorem j7J(N a b c):OLe (@j0x (ar N) a b c) (j0x a b c):=by
 unfold j0x;with_reducible repeat' (first|exact oR _|exact oN _|exact j9l N _ _ _ _ _|exact Ue N _ _ _ _|apply oC|apply oS|refine oB ?_ ?_|intro _)
theorem j9m(N a b c):OLe (@yh (ar N) a b c) (yh a b c):=OLe.loop N _ λ_=>j7J N _ _ _
theorem jav(N a b):OLe (@j1K (ar N) a b) (j1K a b):=by
 unfold j1K;with_reducible repeat' (first|exact oR _|exact oN _|exact j9k N _ _ _ _ _|exact Uc N _ _ _|exact j9m N _ _ _|apply oC|apply oS|refine oB ?_ ?_|intro _)
theorem j75(N a):OLe (@j0o (ar N) a) (j0o a):=by
 unfold j0o;with_reducible repeat' (first|exact oR _|exact oN _|exact jav N _ _|apply oC|apply oS|refine oB ?_ ?_|intro _)
theorem jdo(N a b c d e f g h i j k):OLe (@j1L (ar N) a b c d e f g h i j k) (j1L a b c d e f g h i j k):=by
 unfold j1L;with_reducible repeat' (first|exact oR _|exact oN _|exact Ua N _ _ _ _|apply oC|apply oS|refine oB ?_ ?_|intro _)
theorem jg5(N a b c d e f g h i j k):OLe (@yi (ar N) a b c d e f g h i j k) (yi a b c d e f g h i j k):=OLe.loop N _ λ_=>jdo N _ _ _ _ _ _ _ _ _ _ _
theorem jdp(N a b c d e f):OLe (@j1M (ar N) a b c d e f) (j1M a b c d e f):=by
 unfold j1M;with_reducible repeat' (first|exact oR _|exact oN _|exact jjo N _ _ _ _|apply oC|apply oS|refine oB ?_ ?_|intro _)
theorem jg6(N a b c d e f):OLe (@yj (ar N) a b c d e f) (yj a b c d e f):=OLe.loop N _ λ_=>jdp N _ _ _ _ _ _
theorem jdq(N a b c d):OLe (@j1N (ar N) a b c d) (j1N a b c d):=by
 unfold j1N;with_reducible repeat' (first|exact oR _|exact oN _|exact jg6 N _ _ _ _ _ _|apply oC|apply oS|refine oB ?_ ?_|intro _)
theorem jg7(N a b c d):OLe (@yk (ar N) a b c d) (yk a b c d):=OLe.loop N _ λ_=>jdq N _ _ _ _
theorem jim(N a b c):OLe (@j39 (ar N) a b c) (j39 a b c):=by
 unfold j39;with_reducible repeat' (first|exact oR _|exact oN _|exact T4 N _|exact jg5 N _ _ _ _ _ _ _ _ _ _ _|exact jg7 N _ _ _ _|exact j75 N _|apply oC|apply oS|refine oB ?_ ?_|intro _)
theorem jin(N a b c d e):OLe (@AN (ar N) a b c d e) (AN a b c d e):=OLe.loop N _ λ_=>oR _
theorem jkM(N a b):OLe (@j5l (ar N) a b) (j5l a b):=by
 unfold j5l;with_reducible repeat' (first|exact oR _|exact oN _|exact jin N _ _ _ _ _|apply oC|apply oS|refine oB ?_ ?_|intro _)
theorem jjp(N a b c d e f g h):OLe (@yl (ar N) a b c d e f g h) (yl a b c d e f g h):=OLe.loop N _ λ_=>oR _
theorem jfs(N a b c d e f g):OLe (@j2M (ar N) a b c d e f g) (j2M a b c d e f g):=by
 unfold j2M;with_reducible repeat' (first|exact oR _|exact oN _|exact jkM N _ _|apply oC|apply oS|refine oB ?_ ?_|intro _)
theorem jjq(N a b c d e f g):OLe (@ym (ar N) a b c d e f g) (ym a b c d e f g):=OLe.loop N _ λ_=>jfs N _ _ _ _ _ _ _
theorem jmq(N a b c d):OLe (@j89 (ar N) a b c d) (j89 a b c d):=by
 unfold j89;with_reducible repeat' (first|exact oR _|exact oN _|exact jjp N _ _ _ _ _ _ _ _|exact T5 N _ _ _|exact jjq N _ _ _ _ _ _ _|apply oC|apply oS|refine oB ?_ ?_|intro _)
theorem jjr(N a b c d):OLe (@AO (ar N) a b c d) (AO a b c d):=OLe.loop N _ λ_=>oR _
theorem jmr(N a b):OLe (@j77 (ar N) a b) (j77 a b):=by
 unfold j77;with_reducible repeat' (first|exact oR _|exact oN _|exact jjr N _ _ _ _|apply oC|apply oS|refine oB ?_ ?_|intro _)
theorem jio(N a b c d):OLe (@yn (ar N) a b c d) (yn a b c d):=OLe.loop N _ λ_=>oR _
theorem jkN(N a):OLe (@j4C (ar N) a) (j4C a):=by
 unfold j4C;with_reducible repeat' (first|exact oR _|exact oN _|exact jio N _ _ _ _|apply oC|apply oS|refine oB ?_ ?_|intro _)
theorem j6p(N a b c d):OLe (@yo (ar N) a b c d) (yo a b c d):=OLe.loop N _ λ_=>oR _
theorem j5t(N a b):OLe (@j0d (ar N) a b) (j0d a b):=by
 unfold j0d;with_reducible repeat' (first|exact oR _|exact oN _|exact j6p N _ _ _ _|apply oC|apply oS|refine oB ?_ ?_|intro _)
theorem j6q(N a b):OLe (@tE (ar N) a b) (tE a b):=OLe.loop N _ λ_=>j5t N _ _
theorem j71(N a):OLe (@j06 (ar N) a) (j06 a):=by
 unfold j06;with_reducible repeat' (first|exact oR _|exact oN _|exact j6q N _ _|apply oC|apply oS|refine oB ?_ ?_|intro _)
theorem jft(N a b c d e f g h):OLe (@my (ar N) a b c d e f g h) (my a b c d e f g h):=OLe.loop N _ λ_=>oR _
theorem jfu(N a b c d e f g h):OLe (@rR (ar N) a b c d e f g h) (rR a b c d e f g h):=OLe.loop N _ λ_=>oR _
theorem jcB(N a b c d):OLe (@j0S (ar N) a b c d) (j0S a b c d):=by
 unfold j0S;with_reducible repeat' (first|exact oR _|exact oN _|exact jfu N _ _ _ _ _ _ _ _|apply oC|apply oS|refine oB ?_ ?_|intro _)
theorem jfv(N a b c d):OLe (@nf (ar N) a b c d) (nf a b c d):=OLe.loop N _ λ_=>jcB N _ _ _ _
theorem jhk(N a b c d):OLe (@j2l (ar N) a b c d) (j2l a b c d):=by
 unfold j2l;with_reducible repeat' (first|exact oR _|exact oN _|exact MD N _ _ _ _|exact Ub N _ _ _ _|exact jim N _ _ _|exact jmq N _ _ _ _|exact jmr N _ _|exact T7 N _ _ _ _|exact T8 N _ _|exact jkN N _|exact jft N _ _ _ _ _ _ _ _|exact jfv N _ _ _ _|exact j71 N _|apply oC|apply oS|refine oB ?_ ?_|intro _)
theorem jkO(N a b c d):OLe (@j4D (ar N) a b c d) (j4D a b c d):=by
 unfold j4D;with_reducible repeat' (first|exact oR _|exact oN _|exact MD N _ _ _ _|exact Ub N _ _ _ _|apply oC|apply oS|refine oB ?_ ?_|intro _)
theorem jn5(N a b c d):OLe (@Ko (ar N) a b c d) (Ko a b c d):=OLe.loop N _ λ_=>oR _
theorem jrB(N a b):OLe (@jh2 (ar N) a b) (jh2 a b):=by
 unfold jh2;with_reducible repeat' (first|exact oR _|exact oN _|exact jn5 N _ _ _ _|apply oC|apply oS|refine oB ?_ ?_|intro _)
theorem jip(N a b c d):OLe (@j67 (ar N) a b c d) (j67 a b c d):=by
 unfold j67;with_reducible repeat' (first|exact oR _|exact oN _|exact MD N _ _ _ _|exact T9 N _ _|exact jrB N _ _|apply oC|apply oS|refine oB ?_ ?_|intro _)
theorem joW(N):OLe (@j9P (ar N) ) (j9P ):=by
 unfold j9P;with_reducible repeat' (first|exact oR _|exact oN _|exact jhk N _ _ _ _|exact jkO N _ _ _ _|exact jip N _ _ _ _|apply oC|apply oS|refine oB ?_ ?_|intro _)
abbrev joX(N:Nat):=@j2f (ar N)
end
end Go.Proofs.Pw
