/- Twins with a bound on their rounds, printed by a program. -/
import Derived.Test.YtaieocafhcjelaaGreatEFns
import Derived.Test.YtaieocafhcjelaaGreatELD
open Go Go.Lft
set_option linter.unusedVariables false
set_option maxRecDepth 100000
namespace Go.Proofs.Pw
noncomputable section
theorem jkN(N a b c):OLe (@Kl (aw N) a b c) (Kl a b c):=OLe.loop N _ λ_=>oR _
theorem DY(N a):OLe (@j9Q (aw N) a) (j9Q a):=by
 unfold j9Q;with_reducible repeat' (first|exact oR _|exact oN _|exact jkN N _ _ _|apply oC|apply oS|refine oB ?_ ?_|intro _)
theorem DZ(N a b):OLe (@j4D (aw N) a b) (j4D a b):=by
 unfold j4D;with_reducible repeat' (first|exact oR _|exact oN _|exact DY N _|apply oC|apply oS|refine oB ?_ ?_|intro _)
theorem jjh(N a b c d e):OLe (@Ar (aw N) a b c d e) (Ar a b c d e):=OLe.loop N _ λ_=>oR _
theorem jmq(N a):OLe (@j84 (aw N) a) (j84 a):=by
 unfold j84;with_reducible repeat' (first|exact oR _|exact oN _|exact jjh N _ _ _ _ _|apply oC|apply oS|refine oB ?_ ?_|intro _)
theorem jqD(N a b c d):OLe (@jcO (aw N) a b c d) (jcO a b c d):=by
 unfold jcO;with_reducible repeat' (first|exact oR _|exact oN _|exact jmq N _|apply oC|apply oS|refine oB ?_ ?_|intro _)
theorem j5X(N a b c d e):OLe (@As (aw N) a b c d e) (As a b c d e):=OLe.loop N _ λ_=>oR _
theorem j5f(N a b c d):OLe (@j0c (aw N) a b c d) (j0c a b c d):=by
 unfold j0c;with_reducible repeat' (first|exact oR _|exact oN _|exact j5X N _ _ _ _ _|apply oC|apply oS|refine oB ?_ ?_|intro _)
theorem j5Y(N a b c d):OLe (@Au (aw N) a b c d) (Au a b c d):=OLe.loop N _ λ_=>j5f N _ _ _ _
theorem Ud(N a b c):OLe (@j0k (aw N) a b c) (j0k a b c):=by
 unfold j0k;with_reducible repeat' (first|exact oR _|exact oN _|exact j5Y N _ _ _ _|apply oC|apply oS|refine oB ?_ ?_|intro _)
theorem j6C(N a b c d e):OLe (@j0s (aw N) a b c d e) (j0s a b c d e):=by
 unfold j0s;with_reducible repeat' (first|exact oR _|exact oN _|exact Ud N _ _ _|apply oC|apply oS|refine oB ?_ ?_|intro _)
theorem j7w(N a b c d e):OLe (@Av (aw N) a b c d e) (Av a b c d e):=OLe.loop N _ λ_=>j6C N _ _ _ _ _
theorem j7x(N a b c d e):OLe (@Kn (aw N) a b c d e) (Kn a b c d e):=OLe.loop N _ λ_=>oR _
theorem j6D(N a b c):OLe (@j0t (aw N) a b c) (j0t a b c):=by
 unfold j0t;with_reducible repeat' (first|exact oR _|exact oN _|exact j7x N _ _ _ _ _|apply oC|apply oS|refine oB ?_ ?_|intro _)
theorem j7y(N a b c):OLe (@Aw (aw N) a b c) (Aw a b c):=OLe.loop N _ λ_=>j6D N _ _ _
theorem j8p(N a b):OLe (@j1j (aw N) a b) (j1j a b):=by
 unfold j1j;with_reducible repeat' (first|exact oR _|exact oN _|exact j7w N _ _ _ _ _|exact Ud N _ _ _|exact j7y N _ _ _|apply oC|apply oS|refine oB ?_ ?_|intro _)
theorem j4R(N a):OLe (@j0h (aw N) a) (j0h a):=by
 unfold j0h;with_reducible repeat' (first|exact oR _|exact oN _|exact j8p N _ _|apply oC|apply oS|refine oB ?_ ?_|intro _)
theorem jg5(N a b c d e f g):OLe (@xM (aw N) a b c d e f g) (xM a b c d e f g):=OLe.loop N _ λ_=>oR _
theorem jdk(N a b c d e f g h i j k l):OLe (@j1G (aw N) a b c d e f g h i j k l) (j1G a b c d e f g h i j k l):=by
 unfold j1G;with_reducible repeat' (first|exact oR _|exact oN _|exact jqD N _ _ _ _|apply oC|apply oS|refine oB ?_ ?_|intro _)
theorem jg6(N a b c d e f g h i j k l):OLe (@Ax (aw N) a b c d e f g h i j k l) (Ax a b c d e f g h i j k l):=OLe.loop N _ λ_=>jdk N _ _ _ _ _ _ _ _ _ _ _ _
theorem jdl(N a b c d):OLe (@j1H (aw N) a b c d) (j1H a b c d):=by
 unfold j1H;with_reducible repeat' (first|exact oR _|exact oN _|exact jg6 N _ _ _ _ _ _ _ _ _ _ _ _|apply oC|apply oS|refine oB ?_ ?_|intro _)
theorem jg7(N a b c d):OLe (@xN (aw N) a b c d) (xN a b c d):=OLe.loop N _ λ_=>jdl N _ _ _ _
theorem jih(N a):OLe (@j51 (aw N) a) (j51 a):=by
 unfold j51;with_reducible repeat' (first|exact oR _|exact oN _|exact jg5 N _ _ _ _ _ _ _|exact jg7 N _ _ _ _|exact j4R N _|apply oC|apply oS|refine oB ?_ ?_|intro _)
theorem jg8(N a b c d e):OLe (@xO (aw N) a b c d e) (xO a b c d e):=OLe.loop N _ λ_=>oR _
theorem Ue(N a):OLe (@j38 (aw N) a) (j38 a):=by
 unfold j38;with_reducible repeat' (first|exact oR _|exact oN _|exact jih N _|exact jg8 N _ _ _ _ _|apply oC|apply oS|refine oB ?_ ?_|intro _)
theorem jp2(N a):OLe (@j9R (aw N) a) (j9R a):=by
 unfold j9R;with_reducible repeat' (first|exact oR _|exact oN _|exact Ue N _|apply oC|apply oS|refine oB ?_ ?_|intro _)
theorem j6o(N a b c):OLe (@Ay (aw N) a b c) (Ay a b c):=OLe.loop N _ λ_=>oR _
theorem j73(N a):OLe (@j0O (aw N) a) (j0O a):=by
 unfold j0O;with_reducible repeat' (first|exact oR _|exact oN _|exact j6o N _ _ _|apply oC|apply oS|refine oB ?_ ?_|intro _)
theorem j6p(N a):OLe (@j0D (aw N) a) (j0D a):=by
 unfold j0D;with_reducible repeat' (first|exact oR _|exact oN _|exact j73 N _|apply oC|apply oS|refine oB ?_ ?_|intro _)
theorem jhl(N a):OLe (@j3N (aw N) a) (j3N a):=by
 unfold j3N;with_reducible repeat' (first|exact oR _|exact oN _|exact jp2 N _|exact j6p N _|apply oC|apply oS|refine oB ?_ ?_|intro _)
theorem jas(N a b c d):OLe (@j17 (aw N) a b c d) (j17 a b c d):=by
 unfold j17;with_reducible repeat' (first|exact oR _|exact oN _|exact DZ N _ _|exact jhl N _|apply oC|apply oS|refine oB ?_ ?_|intro _)
theorem jcB(N a b c d):OLe (@xP (aw N) a b c d) (xP a b c d):=OLe.loop N _ λ_=>jas N _ _ _ _
theorem jer(N a):OLe (@j2P (aw N) a) (j2P a):=by
 unfold j2P;with_reducible repeat' (first|exact oR _|exact oN _|exact jcB N _ _ _ _|apply oC|apply oS|refine oB ?_ ?_|intro _)
theorem jkO(N a b c d):OLe (@Az (aw N) a b c d) (Az a b c d):=OLe.loop N _ λ_=>oR _
theorem Uf(N a):OLe (@j9S (aw N) a) (j9S a):=by
 unfold j9S;with_reducible repeat' (first|exact oR _|exact oN _|exact jkO N _ _ _ _|apply oC|apply oS|refine oB ?_ ?_|intro _)
theorem jg9(N a b):OLe (@j2C (aw N) a b) (j2C a b):=by
 unfold j2C;with_reducible repeat' (first|exact oR _|exact oN _|exact Uf N _|apply oC|apply oS|refine oB ?_ ?_|intro _)
theorem jkP(N a b):OLe (@Ko (aw N) a b) (Ko a b):=OLe.loop N _ λ_=>oR _
theorem jp3(N a):OLe (@jeK (aw N) a) (jeK a):=by
 unfold jeK;with_reducible repeat' (first|exact oR _|exact oN _|exact jkP N _ _|apply oC|apply oS|refine oB ?_ ?_|intro _)
theorem jjj(N a b c d e f g):OLe (@Kp (aw N) a b c d e f g) (Kp a b c d e f g):=OLe.loop N _ λ_=>oR _
theorem jmr(N a):OLe (@j85 (aw N) a) (j85 a):=by
 unfold j85;with_reducible repeat' (first|exact oR _|exact oN _|exact jp3 N _|exact jjj N _ _ _ _ _ _ _|apply oC|apply oS|refine oB ?_ ?_|intro _)
theorem GV(N a):OLe (@j2k (aw N) a) (j2k a):=by
 unfold j2k;with_reducible repeat' (first|exact oR _|exact oN _|exact jmr N _|apply oC|apply oS|refine oB ?_ ?_|intro _)
theorem jdn(N a):OLe (@j2V (aw N) a) (j2V a):=by
 unfold j2V;with_reducible repeat' (first|exact oR _|exact oN _|exact GV N _|apply oC|apply oS|refine oB ?_ ?_|intro _)
theorem j9N(N a b c):OLe (@j0U (aw N) a b c) (j0U a b c):=by
 unfold j0U;with_reducible repeat' (first|exact oR _|exact oN _|exact jdn N _|apply oC|apply oS|refine oB ?_ ?_|intro _)
theorem jbN(N a b c):OLe (@AA (aw N) a b c) (AA a b c):=OLe.loop N _ λ_=>j9N N _ _ _
theorem jdo(N a):OLe (@j2W (aw N) a) (j2W a):=by
 unfold j2W;with_reducible repeat' (first|exact oR _|exact oN _|exact jbN N _ _ _|apply oC|apply oS|refine oB ?_ ?_|intro _)
theorem jbO(N a):OLe (@j2m (aw N) a) (j2m a):=by
 unfold j2m;with_reducible repeat' (first|exact oR _|exact oN _|exact jdo N _|apply oC|apply oS|refine oB ?_ ?_|intro _)
theorem jdp(N a b c d e):OLe (@AB (aw N) a b c d e) (AB a b c d e):=OLe.loop N _ λ_=>oR _
theorem jeW(N a b):OLe (@j2t (aw N) a b) (j2t a b):=by
 unfold j2t;with_reducible repeat' (first|exact oR _|exact oN _|exact jbO N _|exact jdp N _ _ _ _ _|apply oC|apply oS|refine oB ?_ ?_|intro _)
theorem jii(N a b c d e):OLe (@j5Z (aw N) a b c d e) (j5Z a b c d e):=by
 unfold j5Z;with_reducible repeat' (first|exact oR _|exact oN _|exact jeW N _ _|apply oC|apply oS|refine oB ?_ ?_|intro _)
theorem j9b(N a b c d e f g h):OLe (@j0L (aw N) a b c d e f g h) (j0L a b c d e f g h):=by
 unfold j0L;with_reducible repeat' (first|exact oR _|exact oN _|exact DZ N _ _|exact jii N _ _ _ _ _|apply oC|apply oS|refine oB ?_ ?_|intro _)
theorem jaH(N a b c d e f g h):OLe (@xQ (aw N) a b c d e f g h) (xQ a b c d e f g h):=OLe.loop N _ λ_=>j9b N _ _ _ _ _ _ _ _
theorem jcf(N a b c d e):OLe (@j1V (aw N) a b c d e) (j1V a b c d e):=by
 unfold j1V;with_reducible repeat' (first|exact oR _|exact oN _|exact jaH N _ _ _ _ _ _ _ _|apply oC|apply oS|refine oB ?_ ?_|intro _)
theorem jat(N a b c d e f g):OLe (@AD (aw N) a b c d e f g) (AD a b c d e f g):=OLe.loop N _ λ_=>oR _
theorem jbP(N a b c d e):OLe (@j2n (aw N) a b c d e) (j2n a b c d e):=by
 unfold j2n;with_reducible repeat' (first|exact oR _|exact oN _|exact jat N _ _ _ _ _ _ _|apply oC|apply oS|refine oB ?_ ?_|intro _)
theorem jau(N a b c d e):OLe (@j1J (aw N) a b c d e) (j1J a b c d e):=by
 unfold j1J;with_reducible repeat' (first|exact oR _|exact oN _|exact jbP N _ _ _ _ _|apply oC|apply oS|refine oB ?_ ?_|intro _)
theorem jgN(N a b):OLe (@j3l (aw N) a b) (j3l a b):=by
 unfold j3l;with_reducible repeat' (first|exact oR _|exact oN _|exact GV N _|exact jau N _ _ _ _ _|exact Uf N _|apply oC|apply oS|refine oB ?_ ?_|intro _)
theorem jdq(N a b c d e):OLe (@j2Y (aw N) a b c d e) (j2Y a b c d e):=by
 unfold j2Y;with_reducible repeat' (first|exact oR _|exact oN _|exact jgN N _ _|apply oC|apply oS|refine oB ?_ ?_|intro _)
theorem j9X(N a b c d e f g h):OLe (@j12 (aw N) a b c d e f g h) (j12 a b c d e f g h):=by
 unfold j12;with_reducible repeat' (first|exact oR _|exact oN _|exact DZ N _ _|exact jdq N _ _ _ _ _|apply oC|apply oS|refine oB ?_ ?_|intro _)
theorem jcg(N a b c d e f g h):OLe (@xR (aw N) a b c d e f g h) (xR a b c d e f g h):=OLe.loop N _ λ_=>j9X N _ _ _ _ _ _ _ _
theorem jdF(N a b c d e):OLe (@j2D (aw N) a b c d e) (j2D a b c d e):=by
 unfold j2D;with_reducible repeat' (first|exact oR _|exact oN _|exact jcg N _ _ _ _ _ _ _ _|apply oC|apply oS|refine oB ?_ ?_|intro _)
theorem jhm(N a b):OLe (@j3O (aw N) a b) (j3O a b):=by
 unfold j3O;with_reducible repeat' (first|exact oR _|exact oN _|exact GV N _|apply oC|apply oS|refine oB ?_ ?_|intro _)
theorem jaI(N a b c d e f g):OLe (@j1f (aw N) a b c d e f g) (j1f a b c d e f g):=by
 unfold j1f;with_reducible repeat' (first|exact oR _|exact oN _|exact jhm N _ _|apply oC|apply oS|refine oB ?_ ?_|intro _)
theorem jdr(N a b c d e f g):OLe (@AE (aw N) a b c d e f g) (AE a b c d e f g):=OLe.loop N _ λ_=>jaI N _ _ _ _ _ _ _
theorem jeX(N a b):OLe (@j2u (aw N) a b) (j2u a b):=by
 unfold j2u;with_reducible repeat' (first|exact oR _|exact oN _|exact jdF N _ _ _ _ _|exact jdr N _ _ _ _ _ _ _|apply oC|apply oS|refine oB ?_ ?_|intro _)
theorem jij(N a b c d e):OLe (@j60 (aw N) a b c d e) (j60 a b c d e):=by
 unfold j60;with_reducible repeat' (first|exact oR _|exact oN _|exact jeX N _ _|apply oC|apply oS|refine oB ?_ ?_|intro _)
theorem j9c(N a b c d e f g h):OLe (@j0M (aw N) a b c d e f g h) (j0M a b c d e f g h):=by
 unfold j0M;with_reducible repeat' (first|exact oR _|exact oN _|exact DZ N _ _|exact jij N _ _ _ _ _|apply oC|apply oS|refine oB ?_ ?_|intro _)
theorem jaJ(N a b c d e f g h):OLe (@xS (aw N) a b c d e f g h) (xS a b c d e f g h):=OLe.loop N _ λ_=>j9c N _ _ _ _ _ _ _ _
theorem jch(N a b c d e):OLe (@j2B (aw N) a b c d e) (j2B a b c d e):=by
 unfold j2B;with_reducible repeat' (first|exact oR _|exact oN _|exact jaJ N _ _ _ _ _ _ _ _|apply oC|apply oS|refine oB ?_ ?_|intro _)
theorem jeY(N a b c d e f g h):OLe (@j2v (aw N) a b c d e f g h) (j2v a b c d e f g h):=by
 unfold j2v;with_reducible repeat' (first|exact oR _|exact oN _|exact DZ N _ _|exact jg9 N _ _|apply oC|apply oS|refine oB ?_ ?_|intro _)
theorem jik(N a b c d e f g h):OLe (@xT (aw N) a b c d e f g h) (xT a b c d e f g h):=OLe.loop N _ λ_=>jeY N _ _ _ _ _ _ _ _
theorem jkQ(N a):OLe (@j68 (aw N) a) (j68 a):=by
 unfold j68;with_reducible repeat' (first|exact oR _|exact oN _|exact jer N _|exact jik N _ _ _ _ _ _ _ _|exact jcf N _ _ _ _ _|exact jch N _ _ _ _ _|apply oC|apply oS|refine oB ?_ ?_|intro _)
theorem jtM(N a):OLe (@jgy (aw N) a) (jgy a):=by
 unfold jgy;with_reducible repeat' (first|exact oR _|exact oN _|exact Ue N _|apply oC|apply oS|refine oB ?_ ?_|intro _)
theorem jga(N a b c d):OLe (@j31 (aw N) a b c d) (j31 a b c d):=by
 unfold j31;with_reducible repeat' (first|exact oR _|exact oN _|exact jtM N _|apply oC|apply oS|refine oB ?_ ?_|intro _)
theorem jk8(N a b c d):OLe (@xU (aw N) a b c d) (xU a b c d):=OLe.loop N _ λ_=>jga N _ _ _ _
theorem jn7(N a):OLe (@jb3 (aw N) a) (jb3 a):=by
 unfold jb3;with_reducible repeat' (first|exact oR _|exact oN _|exact jk8 N _ _ _ _|apply oC|apply oS|refine oB ?_ ?_|intro _)
theorem jqE(N a):OLe (@jcR (aw N) a) (jcR a):=by
 unfold jcR;with_reducible repeat' (first|exact oR _|exact oN _|exact jn7 N _|apply oC|apply oS|refine oB ?_ ?_|intro _)
theorem Ug(N a):OLe (@jfi (aw N) a) (jfi a):=by
 unfold jfi;with_reducible repeat' (first|exact oR _|exact oN _|exact jkQ N _|exact jqE N _|apply oC|apply oS|refine oB ?_ ?_|intro _)
theorem MQ(N a b c d):OLe (@j6v (aw N) a b c d) (j6v a b c d):=by
 unfold j6v;with_reducible repeat' (first|exact oR _|exact oN _|exact Ug N _|apply oC|apply oS|refine oB ?_ ?_|intro _)
theorem jav(N a b c d e):OLe (@xV (aw N) a b c d e) (xV a b c d e):=OLe.loop N _ λ_=>oR _
theorem jbQ(N a b c):OLe (@j2o (aw N) a b c) (j2o a b c):=by
 unfold j2o;with_reducible repeat' (first|exact oR _|exact oN _|exact jav N _ _ _ _ _|apply oC|apply oS|refine oB ?_ ?_|intro _)
theorem jbi(N a b c d e):OLe (@AF (aw N) a b c d e) (AF a b c d e):=OLe.loop N _ λ_=>oR _
theorem jcC(N a b c):OLe (@j29 (aw N) a b c) (j29 a b c):=by
 unfold j29;with_reducible repeat' (first|exact oR _|exact oN _|exact jbQ N _ _ _|exact jbi N _ _ _ _ _|apply oC|apply oS|refine oB ?_ ?_|intro _)
theorem jcD(N a b c d):OLe (@xW (aw N) a b c d) (xW a b c d):=OLe.loop N _ λ_=>oR _
theorem jaw(N a b):OLe (@j18 (aw N) a b) (j18 a b):=by
 unfold j18;with_reducible repeat' (first|exact oR _|exact oN _|exact jcD N _ _ _ _|apply oC|apply oS|refine oB ?_ ?_|intro _)
theorem jcE(N a b):OLe (@tB (aw N) a b) (tB a b):=OLe.loop N _ λ_=>jaw N _ _
theorem jet(N a):OLe (@j2Q (aw N) a) (j2Q a):=by
 unfold j2Q;with_reducible repeat' (first|exact oR _|exact oN _|exact jcE N _ _|apply oC|apply oS|refine oB ?_ ?_|intro _)
theorem Uh(N a b c):OLe (@jby (aw N) a b c) (jby a b c):=by
 unfold jby;with_reducible repeat' (first|exact oR _|exact oN _|exact jcC N _ _ _|exact jet N _|apply oC|apply oS|refine oB ?_ ?_|intro _)
theorem jk9(N a b c d e):OLe (@AG (aw N) a b c d e) (AG a b c d e):=OLe.loop N _ λ_=>oR _
theorem jn8(N a b c d):OLe (@jb6 (aw N) a b c d) (jb6 a b c d):=by
 unfold jb6;with_reducible repeat' (first|exact oR _|exact oN _|exact jk9 N _ _ _ _ _|apply oC|apply oS|refine oB ?_ ?_|intro _)
theorem Ui(N a b):OLe (@j4f (aw N) a b) (j4f a b):=by
 unfold j4f;with_reducible repeat' (first|exact oR _|exact oN _|exact jn8 N _ _ _ _|apply oC|apply oS|refine oB ?_ ?_|intro _)
theorem jcF(N a b c d e):OLe (@j0H (aw N) a b c d e) (j0H a b c d e):=by
 unfold j0H;with_reducible repeat' (first|exact oR _|exact oN _|exact Ui N _ _|apply oC|apply oS|refine oB ?_ ?_|intro _)
theorem jfx(N a b c d e):OLe (@vJ (aw N) a b c d e) (vJ a b c d e):=OLe.loop N _ λ_=>jcF N _ _ _ _ _
theorem MR(N a b c):OLe (@j1Z (aw N) a b c) (j1Z a b c):=by
 unfold j1Z;with_reducible repeat' (first|exact oR _|exact oN _|exact jfx N _ _ _ _ _|apply oC|apply oS|refine oB ?_ ?_|intro _)
theorem jgb(N a b c d e):OLe (@xX (aw N) a b c d e) (xX a b c d e):=OLe.loop N _ λ_=>oR _
theorem jil(N a b):OLe (@j2H (aw N) a b) (j2H a b):=by
 unfold j2H;with_reducible repeat' (first|exact oR _|exact oN _|exact MR N _ _ _|exact jgb N _ _ _ _ _|apply oC|apply oS|refine oB ?_ ?_|intro _)
theorem D0(N a b c):OLe (@j1g (aw N) a b c) (j1g a b c):=by
 unfold j1g;with_reducible repeat' (first|exact oR _|exact oN _|exact jil N _ _|apply oC|apply oS|refine oB ?_ ?_|intro _)
theorem j7V(N a b c):OLe (@xY (aw N) a b c) (xY a b c):=OLe.loop N _ λ_=>oR _
theorem j9e(N a):OLe (@j1s (aw N) a) (j1s a):=by
 unfold j1s;with_reducible repeat' (first|exact oR _|exact oN _|exact j7V N _ _ _|apply oC|apply oS|refine oB ?_ ?_|intro _)
theorem j7H(N a b c):OLe (@AJ (aw N) a b c) (AJ a b c):=OLe.loop N _ λ_=>oR _
theorem j8G(N a):OLe (@j0X (aw N) a) (j0X a):=by
 unfold j0X;with_reducible repeat' (first|exact oR _|exact oN _|exact j9e N _|exact j7H N _ _ _|apply oC|apply oS|refine oB ?_ ?_|intro _)
theorem jkR(N a b c d):OLe (@xZ (aw N) a b c d) (xZ a b c d):=OLe.loop N _ λ_=>oR _
theorem Be(N a):OLe (@j61 (aw N) a) (j61 a):=by
 unfold j61;with_reducible repeat' (first|exact oR _|exact oN _|exact j8G N _|exact jkR N _ _ _ _|apply oC|apply oS|refine oB ?_ ?_|intro _)
theorem jjk(N a b c d e f g h i j k l):OLe (@AK (aw N) a b c d e f g h i j k l) (AK a b c d e f g h i j k l):=OLe.loop N _ λ_=>oR _
theorem jfy(N a b c d e f g h i):OLe (@j2K (aw N) a b c d e f g h i) (j2K a b c d e f g h i):=by
 unfold j2K;with_reducible repeat' (first|exact oR _|exact oN _|exact jjk N _ _ _ _ _ _ _ _ _ _ _ _|apply oC|apply oS|refine oB ?_ ?_|intro _)
theorem jjl(N a b c d e f g h i):OLe (@AL (aw N) a b c d e f g h i) (AL a b c d e f g h i):=OLe.loop N _ λ_=>jfy N _ _ _ _ _ _ _ _ _
theorem jfz(N a b c d e):OLe (@j2L (aw N) a b c d e) (j2L a b c d e):=by
 unfold j2L;with_reducible repeat' (first|exact oR _|exact oN _|exact jjl N _ _ _ _ _ _ _ _ _|apply oC|apply oS|refine oB ?_ ?_|intro _)
theorem jjm(N a b c d e):OLe (@AM (aw N) a b c d e) (AM a b c d e):=OLe.loop N _ λ_=>jfz N _ _ _ _ _
theorem Uj(N a b c d):OLe (@j2x (aw N) a b c d) (j2x a b c d):=by
 unfold j2x;with_reducible repeat' (first|exact oR _|exact oN _|exact MR N _ _ _|exact jjm N _ _ _ _ _|exact Be N _|apply oC|apply oS|refine oB ?_ ?_|intro _)
theorem jhn(N a b c d e f g h i j k l m):OLe (@x8 (aw N) a b c d e f g h i j k l m) (x8 a b c d e f g h i j k l m):=OLe.loop N _ λ_=>oR _
theorem jeu(N a b c d e f g):OLe (@j2h (aw N) a b c d e f g) (j2h a b c d e f g):=by
 unfold j2h;with_reducible repeat' (first|exact oR _|exact oN _|exact jhn N _ _ _ _ _ _ _ _ _ _ _ _ _|apply oC|apply oS|refine oB ?_ ?_|intro _)
theorem jho(N a b c d e f g):OLe (@x9 (aw N) a b c d e f g) (x9 a b c d e f g):=OLe.loop N _ λ_=>jeu N _ _ _ _ _ _ _
theorem jka(N a b c d):OLe (@j2s (aw N) a b c d) (j2s a b c d):=by
 unfold j2s;with_reducible repeat' (first|exact oR _|exact oN _|exact MR N _ _ _|exact jho N _ _ _ _ _ _ _|exact Be N _|apply oC|apply oS|refine oB ?_ ?_|intro _)
theorem jjn(N a b c d e f g h):OLe (@AN (aw N) a b c d e f g h) (AN a b c d e f g h):=OLe.loop N _ λ_=>oR _
theorem jjo(N a b c d e f g h i j):OLe (@ya (aw N) a b c d e f g h i j) (ya a b c d e f g h i j):=OLe.loop N _ λ_=>oR _
theorem jfA(N a b c d e f):OLe (@j2M (aw N) a b c d e f) (j2M a b c d e f):=by
 unfold j2M;with_reducible repeat' (first|exact oR _|exact oN _|exact jjn N _ _ _ _ _ _ _ _|exact jjo N _ _ _ _ _ _ _ _ _ _|apply oC|apply oS|refine oB ?_ ?_|intro _)
theorem jjp(N a b c d e f):OLe (@vL (aw N) a b c d e f) (vL a b c d e f):=OLe.loop N _ λ_=>jfA N _ _ _ _ _ _
theorem MS(N a b):OLe (@j32 (aw N) a b) (j32 a b):=by
 unfold j32;with_reducible repeat' (first|exact oR _|exact oN _|exact jjp N _ _ _ _ _ _|apply oC|apply oS|refine oB ?_ ?_|intro _)
theorem jkb(N a b c d e):OLe (@tC (aw N) a b c d e) (tC a b c d e):=OLe.loop N _ λ_=>oR _
theorem Uk(N a b):OLe (@j4p (aw N) a b) (j4p a b):=by
 unfold j4p;with_reducible repeat' (first|exact oR _|exact oN _|exact jkb N _ _ _ _ _|apply oC|apply oS|refine oB ?_ ?_|intro _)
theorem jjq(N a b c d):OLe (@j4G (aw N) a b c d) (j4G a b c d):=by
 unfold j4G;with_reducible repeat' (first|exact oR _|exact oN _|exact D0 N _ _ _|exact Uj N _ _ _ _|exact jka N _ _ _ _|exact MS N _ _|exact Uk N _ _|apply oC|apply oS|refine oB ?_ ?_|intro _)
theorem jhp(N a b):OLe (@j4q (aw N) a b) (j4q a b):=by
 unfold j4q;with_reducible repeat' (first|exact oR _|exact oN _|exact Ui N _ _|apply oC|apply oS|refine oB ?_ ?_|intro _)
theorem Ul(N a b):OLe (@j1B (aw N) a b) (j1B a b):=by
 unfold j1B;with_reducible repeat' (first|exact oR _|exact oN _|exact jhp N _ _|apply oC|apply oS|refine oB ?_ ?_|intro _)
theorem jeZ(N a b c d e f g h i j k l m n):OLe (@j2y (aw N) a b c d e f g h i j k l m n) (j2y a b c d e f g h i j k l m n):=by
 unfold j2y;with_reducible repeat' (first|exact oR _|exact oN _|exact D0 N _ _ _|apply oC|apply oS|refine oB ?_ ?_|intro _)
theorem jim(N a b c d e f g h i j k l m n):OLe (@AO (aw N) a b c d e f g h i j k l m n) (AO a b c d e f g h i j k l m n):=OLe.loop N _ λ_=>jeZ N _ _ _ _ _ _ _ _ _ _ _ _ _ _
theorem jf0(N a b c d e f g h i j k l m n):OLe (@j33 (aw N) a b c d e f g h i j k l m n) (j33 a b c d e f g h i j k l m n):=by
 unfold j33;with_reducible repeat' (first|exact oR _|exact oN _|exact D0 N _ _ _|apply oC|apply oS|refine oB ?_ ?_|intro _)
theorem jin(N a b c d e f g h i j k l m n):OLe (@AP (aw N) a b c d e f g h i j k l m n) (AP a b c d e f g h i j k l m n):=OLe.loop N _ λ_=>jf0 N _ _ _ _ _ _ _ _ _ _ _ _ _ _
theorem jkS(N a b c):OLe (@j3v (aw N) a b c) (j3v a b c):=by
 unfold j3v;with_reducible repeat' (first|exact oR _|exact oN _|exact D0 N _ _ _|exact Ul N _ _|exact jim N _ _ _ _ _ _ _ _ _ _ _ _ _ _|exact jin N _ _ _ _ _ _ _ _ _ _ _ _ _ _|apply oC|apply oS|refine oB ?_ ?_|intro _)
theorem jkT(N a b c d):OLe (@vM (aw N) a b c d) (vM a b c d):=OLe.loop N _ λ_=>oR _
theorem MT(N a):OLe (@j7C (aw N) a) (j7C a):=by
 unfold j7C;with_reducible repeat' (first|exact oR _|exact oN _|exact jkT N _ _ _ _|apply oC|apply oS|refine oB ?_ ?_|intro _)
theorem jci(N a b c d e f g h i j k l m n o p q r s t u v):OLe (@j1X (aw N) a b c d e f g h i j k l m n o p q r s t u v) (j1X a b c d e f g h i j k l m n o p q r s t u v):=by
 unfold j1X;with_reducible repeat' (first|exact oR _|exact oN _|exact jkS N _ _ _|exact D0 N _ _ _|apply oC|apply oS|refine oB ?_ ?_|intro _)
theorem jf1(N a b c d e f g h i j k l m n o p q r s t u v):OLe (@yb (aw N) a b c d e f g h i j k l m n o p q r s t u v) (yb a b c d e f g h i j k l m n o p q r s t u v):=OLe.loop N _ λ_=>jci N _ _ _ _ _ _ _ _ _ _ _ _ _ _ _ _ _ _ _ _ _ _
theorem jcj(N a b c d e f g h i j k l m n o p q r s t):OLe (@j1y (aw N) a b c d e f g h i j k l m n o p q r s t) (j1y a b c d e f g h i j k l m n o p q r s t):=by
 unfold j1y;with_reducible repeat' (first|exact oR _|exact oN _|exact jf1 N _ _ _ _ _ _ _ _ _ _ _ _ _ _ _ _ _ _ _ _ _ _|apply oC|apply oS|refine oB ?_ ?_|intro _)
theorem jf2(N a b c d e f g h i j k l m n o p q r s t):OLe (@yc (aw N) a b c d e f g h i j k l m n o p q r s t) (yc a b c d e f g h i j k l m n o p q r s t):=OLe.loop N _ λ_=>jcj N _ _ _ _ _ _ _ _ _ _ _ _ _ _ _ _ _ _ _ _
theorem jgP(N a b c d):OLe (@j21 (aw N) a b c d) (j21 a b c d):=by
 unfold j21;with_reducible repeat' (first|exact oR _|exact oN _|exact jjq N _ _ _ _|exact jf2 N _ _ _ _ _ _ _ _ _ _ _ _ _ _ _ _ _ _ _ _|exact MT N _|apply oC|apply oS|refine oB ?_ ?_|intro _)
theorem jjr(N a b c d e):OLe (@yd (aw N) a b c d e) (yd a b c d e):=OLe.loop N _ λ_=>oR _
theorem jms(N a b):OLe (@j5v (aw N) a b) (j5v a b):=by
 unfold j5v;with_reducible repeat' (first|exact oR _|exact oN _|exact jjr N _ _ _ _ _|exact Be N _|apply oC|apply oS|refine oB ?_ ?_|intro _)
theorem jio(N a b c d e f g h i j k l m n):OLe (@tD (aw N) a b c d e f g h i j k l m n) (tD a b c d e f g h i j k l m n):=OLe.loop N _ λ_=>oR _
theorem jf3(N a b c d e f g h):OLe (@j2z (aw N) a b c d e f g h) (j2z a b c d e f g h):=by
 unfold j2z;with_reducible repeat' (first|exact oR _|exact oN _|exact jms N _ _|exact MS N _ _|exact jio N _ _ _ _ _ _ _ _ _ _ _ _ _ _|apply oC|apply oS|refine oB ?_ ?_|intro _)
theorem jip(N a b c d e f g h):OLe (@vN (aw N) a b c d e f g h) (vN a b c d e f g h):=OLe.loop N _ λ_=>jf3 N _ _ _ _ _ _ _ _
theorem jkU(N a b):OLe (@j6c (aw N) a b) (j6c a b):=by
 unfold j6c;with_reducible repeat' (first|exact oR _|exact oN _|exact jip N _ _ _ _ _ _ _ _|apply oC|apply oS|refine oB ?_ ?_|intro _)
theorem jjs(N a b c d e):OLe (@tE (aw N) a b c d e) (tE a b c d e):=OLe.loop N _ λ_=>oR _
theorem jmt(N a b):OLe (@j89 (aw N) a b) (j89 a b):=by
 unfold j89;with_reducible repeat' (first|exact oR _|exact oN _|exact jjs N _ _ _ _ _|apply oC|apply oS|refine oB ?_ ?_|intro _)
theorem jkc(N a b c d):OLe (@ye (aw N) a b c d) (ye a b c d):=OLe.loop N _ λ_=>oR _
theorem jn9(N a):OLe (@j8a (aw N) a) (j8a a):=by
 unfold j8a;with_reducible repeat' (first|exact oR _|exact oN _|exact jkc N _ _ _ _|exact Be N _|apply oC|apply oS|refine oB ?_ ?_|intro _)
theorem jdv(N a b c d e f g h i j k l m n):OLe (@j1K (aw N) a b c d e f g h i j k l m n) (j1K a b c d e f g h i j k l m n):=by
 unfold j1K;with_reducible repeat' (first|exact oR _|exact oN _|exact jgP N _ _ _ _|exact jkU N _ _|exact jmt N _ _|exact jn9 N _|exact MS N _ _|apply oC|apply oS|refine oB ?_ ?_|intro _)
theorem jgc(N a b c d e f g h i j k l m n):OLe (@yf (aw N) a b c d e f g h i j k l m n) (yf a b c d e f g h i j k l m n):=OLe.loop N _ λ_=>jdv N _ _ _ _ _ _ _ _ _ _ _ _ _ _
theorem jgd(N a b c d):OLe (@yg (aw N) a b c d) (yg a b c d):=OLe.loop N _ λ_=>oR _
theorem jiq(N a b c d):OLe (@j3x (aw N) a b c d) (j3x a b c d):=by
 unfold j3x;with_reducible repeat' (first|exact oR _|exact oN _|exact jgc N _ _ _ _ _ _ _ _ _ _ _ _ _ _|exact jgd N _ _ _ _|exact MT N _|apply oC|apply oS|refine oB ?_ ?_|intro _)
theorem jax(N a b c d e):OLe (@AQ (aw N) a b c d e) (AQ a b c d e):=OLe.loop N _ λ_=>oR _
theorem jbR(N a b):OLe (@j1F (aw N) a b) (j1F a b):=by
 unfold j1F;with_reducible repeat' (first|exact oR _|exact oN _|exact jax N _ _ _ _ _|apply oC|apply oS|refine oB ?_ ?_|intro _)
theorem jmu(N a b c d e):OLe (@yh (aw N) a b c d e) (yh a b c d e):=OLe.loop N _ λ_=>oR _
theorem jqF(N a b c):OLe (@jcV (aw N) a b c) (jcV a b c):=by
 unfold jcV;with_reducible repeat' (first|exact oR _|exact oN _|exact jmu N _ _ _ _ _|apply oC|apply oS|refine oB ?_ ?_|intro _)
theorem jgQ(N a b c d e f g h i j k l m n):OLe (@yi (aw N) a b c d e f g h i j k l m n) (yi a b c d e f g h i j k l m n):=OLe.loop N _ λ_=>oR _
theorem jdG(N a b c d e f g h i j k l m):OLe (@j22 (aw N) a b c d e f g h i j k l m) (j22 a b c d e f g h i j k l m):=by
 unfold j22;with_reducible repeat' (first|exact oR _|exact oN _|exact jqF N _ _ _|apply oC|apply oS|refine oB ?_ ?_|intro _)
theorem jgR(N a b c d e f g h i j k l m):OLe (@AR (aw N) a b c d e f g h i j k l m) (AR a b c d e f g h i j k l m):=OLe.loop N _ λ_=>jdG N _ _ _ _ _ _ _ _ _ _ _ _ _
theorem jdH(N a b c d e f g h):OLe (@j23 (aw N) a b c d e f g h) (j23 a b c d e f g h):=by
 unfold j23;with_reducible repeat' (first|exact oR _|exact oN _|exact jbR N _ _|exact jgR N _ _ _ _ _ _ _ _ _ _ _ _ _|apply oC|apply oS|refine oB ?_ ?_|intro _)
theorem jgS(N a b c d e f g h):OLe (@yj (aw N) a b c d e f g h) (yj a b c d e f g h):=OLe.loop N _ λ_=>jdH N _ _ _ _ _ _ _ _
theorem Um(N a b c d):OLe (@j0N (aw N) a b c d) (j0N a b c d):=by
 unfold j0N;with_reducible repeat' (first|exact oR _|exact oN _|exact jgQ N _ _ _ _ _ _ _ _ _ _ _ _ _ _|exact Uh N _ _ _|exact jiq N _ _ _ _|exact jgS N _ _ _ _ _ _ _ _|exact MT N _|apply oC|apply oS|refine oB ?_ ?_|intro _)
theorem jhq(N a b c d e):OLe (@yk (aw N) a b c d e) (yk a b c d e):=OLe.loop N _ λ_=>oR _
theorem jkd(N a b):OLe (@j6x (aw N) a b) (j6x a b):=by
 unfold j6x;with_reducible repeat' (first|exact oR _|exact oN _|exact jhq N _ _ _ _ _|exact Be N _|apply oC|apply oS|refine oB ?_ ?_|intro _)
theorem jf4(N a b c d e f g h i j k l):OLe (@j2A (aw N) a b c d e f g h i j k l) (j2A a b c d e f g h i j k l):=by
 unfold j2A;with_reducible repeat' (first|exact oR _|exact oN _|exact Um N _ _ _ _|exact jkd N _ _|apply oC|apply oS|refine oB ?_ ?_|intro _)
theorem jir(N a b c d e f g h i j k l):OLe (@yl (aw N) a b c d e f g h i j k l) (yl a b c d e f g h i j k l):=OLe.loop N _ λ_=>jf4 N _ _ _ _ _ _ _ _ _ _ _ _
theorem Un(N a b c d):OLe (@j5k (aw N) a b c d) (j5k a b c d):=by
 unfold j5k;with_reducible repeat' (first|exact oR _|exact oN _|exact jir N _ _ _ _ _ _ _ _ _ _ _ _|exact Be N _|apply oC|apply oS|refine oB ?_ ?_|intro _)
theorem jgT(N a b c d e f g):OLe (@tF (aw N) a b c d e f g) (tF a b c d e f g):=OLe.loop N _ λ_=>oR _
theorem jjt(N a b c d):OLe (@j5K (aw N) a b c d) (j5K a b c d):=by
 unfold j5K;with_reducible repeat' (first|exact oR _|exact oN _|exact jgT N _ _ _ _ _ _ _|apply oC|apply oS|refine oB ?_ ?_|intro _)
theorem j7n(N a b c d e):OLe (@AS (aw N) a b c d e) (AS a b c d e):=OLe.loop N _ λ_=>oR _
theorem j6q(N a b c d):OLe (@j0e (aw N) a b c d) (j0e a b c d):=by
 unfold j0e;with_reducible repeat' (first|exact oR _|exact oN _|exact j7n N _ _ _ _ _|apply oC|apply oS|refine oB ?_ ?_|intro _)
theorem j7o(N a b c d):OLe (@AU (aw N) a b c d) (AU a b c d):=OLe.loop N _ λ_=>j6q N _ _ _ _
theorem Uo(N a b c):OLe (@j0p (aw N) a b c) (j0p a b c):=by
 unfold j0p;with_reducible repeat' (first|exact oR _|exact oN _|exact j7o N _ _ _ _|apply oC|apply oS|refine oB ?_ ?_|intro _)
theorem j8q(N a b c d e):OLe (@ym (aw N) a b c d e) (ym a b c d e):=OLe.loop N _ λ_=>oR _
theorem Up(N a b c d):OLe (@j0r (aw N) a b c d) (j0r a b c d):=by
 unfold j0r;with_reducible repeat' (first|exact oR _|exact oN _|exact j8q N _ _ _ _ _|apply oC|apply oS|refine oB ?_ ?_|intro _)
theorem j7I(N a b c d):OLe (@j0K (aw N) a b c d) (j0K a b c d):=by
 unfold j0K;with_reducible repeat' (first|exact oR _|exact oN _|exact Up N _ _ _ _|apply oC|apply oS|refine oB ?_ ?_|intro _)
theorem j9o(N a b c d):OLe (@AV (aw N) a b c d) (AV a b c d):=OLe.loop N _ λ_=>j7I N _ _ _ _
theorem jay(N a b c d):OLe (@j0R (aw N) a b c d) (j0R a b c d):=by
 unfold j0R;with_reducible repeat' (first|exact oR _|exact oN _|exact j9o N _ _ _ _|exact Up N _ _ _ _|apply oC|apply oS|refine oB ?_ ?_|intro _)
theorem j8I(N:Nat)(rec bU:af->Int->Int->Int->Option (af))(bM:∀v0 v1 v2 v3,OLe (rec v0 v1 v2 v3) (bU v0 v1 v2 v3))(s1 s10 D1:Int)(b0:af):OLe (@tG (aw N) rec s1 s10 D1 b0) (tG bU s1 s10 D1 b0):=OLe.loop N _ λh=>OLe.refl _
theorem j7W(rec bU:af->Int->Int->Int->Option (af))(bM:∀v0 v1 v2 v3,OLe (rec v0 v1 v2 v3) (bU v0 v1 v2 v3))(s1 s10 D1:Int)(b0:af):OLe (tG rec s1 s10 D1 b0) (tG bU s1 s10 D1 b0):=OLe.loopOpt _ λh=>OLe.refl _
theorem j8J(N:Nat)(rec bU:af->Int->Int->Int->Option (af))(bM:∀v0 v1 v2 v3,OLe (rec v0 v1 v2 v3) (bU v0 v1 v2 v3))(s10 D2:Int)(b0:af):OLe (@vO (aw N) rec s10 D2 b0) (vO bU s10 D2 b0):=OLe.loop N _ λh=>OLe.refl _
theorem j7X(rec bU:af->Int->Int->Int->Option (af))(bM:∀v0 v1 v2 v3,OLe (rec v0 v1 v2 v3) (bU v0 v1 v2 v3))(s10 D2:Int)(b0:af):OLe (vO rec s10 D2 b0) (vO bU s10 D2 b0):=OLe.loopOpt _ λh=>OLe.refl _
theorem j8K(N:Nat)(rec bU:af->Int->Int->Int->Option (af))(bM:∀v0 v1 v2 v3,OLe (rec v0 v1 v2 v3) (bU v0 v1 v2 v3))(s2 qR D3:Int)(b0:af):OLe (@tH (aw N) rec s2 qR D3 b0) (tH bU s2 qR D3 b0):=OLe.loop N _ λh=>OLe.refl _
theorem j7Y(rec bU:af->Int->Int->Int->Option (af))(bM:∀v0 v1 v2 v3,OLe (rec v0 v1 v2 v3) (bU v0 v1 v2 v3))(s2 qR D3:Int)(b0:af):OLe (tH rec s2 qR D3 b0) (tH bU s2 qR D3 b0):=OLe.loopOpt _ λh=>OLe.refl _
theorem j8L(N:Nat)(rec bU:af->Int->Int->Int->Option (af))(bM:∀v0 v1 v2 v3,OLe (rec v0 v1 v2 v3) (bU v0 v1 v2 v3))(qR D4:Int)(b0:af):OLe (@vP (aw N) rec qR D4 b0) (vP bU qR D4 b0):=OLe.loop N _ λh=>OLe.refl _
theorem j7Z(rec bU:af->Int->Int->Int->Option (af))(bM:∀v0 v1 v2 v3,OLe (rec v0 v1 v2 v3) (bU v0 v1 v2 v3))(qR D4:Int)(b0:af):OLe (vP rec qR D4 b0) (vP bU qR D4 b0):=OLe.loopOpt _ λh=>OLe.refl _
theorem j8M(N:Nat)(rec bU:af->Int->Int->Int->Option (af))(bM:∀v0 v1 v2 v3,OLe (rec v0 v1 v2 v3) (bU v0 v1 v2 v3))(s1 s2 s3 s18 s19 D5 D6 D7:Int)(b0:af):OLe (@rT (aw N) rec s1 s2 s3 s18 s19 D5 D6 D7 b0) (rT bU s1 s2 s3 s18 s19 D5 D6 D7 b0):=OLe.loop N _ λh=>OLe.refl _
theorem j80(rec bU:af->Int->Int->Int->Option (af))(bM:∀v0 v1 v2 v3,OLe (rec v0 v1 v2 v3) (bU v0 v1 v2 v3))(s1 s2 s3 s18 s19 D5 D6 D7:Int)(b0:af):OLe (rT rec s1 s2 s3 s18 s19 D5 D6 D7 b0) (rT bU s1 s2 s3 s18 s19 D5 D6 D7 b0):=OLe.loopOpt _ λh=>OLe.refl _
theorem j81(N:Nat)(rec bU:af->Int->Int->Int->Option (af))(bM:∀v0 v1 v2 v3,OLe (rec v0 v1 v2 v3) (bU v0 v1 v2 v3))(fT:af)(qS qT qU:Int):OLe (@rU (aw N) rec fT qS qT qU) (rU bU fT qS qT qU):=by
 unfold rU;with_reducible repeat' (first|exact oR _|exact oN _|exact bM _ _ _ _|exact j8I N _ _ bM _ _ _ _|exact j8J N _ _ bM _ _ _|exact j8K N _ _ bM _ _ _ _|exact j8L N _ _ bM _ _ _|exact j8M N _ _ bM _ _ _ _ _ _ _ _ _|exact jay N _ _ _ _|apply oC|apply oS|refine oB ?_ ?_|intro _)
theorem j7z(rec bU:af->Int->Int->Int->Option (af))(bM:∀v0 v1 v2 v3,OLe (rec v0 v1 v2 v3) (bU v0 v1 v2 v3))(fT:af)(qS qT qU:Int):OLe (rU rec fT qS qT qU) (rU bU fT qS qT qU):=by
 unfold rU;with_reducible repeat' (first|exact oR _|exact oN _|exact bM _ _ _ _|exact j7W _ _ bM _ _ _ _|exact j7X _ _ bM _ _ _|exact j7Y _ _ bM _ _ _ _|exact j7Z _ _ bM _ _ _|exact j80 _ _ bM _ _ _ _ _ _ _ _ _|apply oC|apply oS|refine oB ?_ ?_|intro _)
theorem j8r(N:Nat)(g g':(af×Int×Int×Int)->Option (af))(hg:∀a,OLe (g a) (g' a))(h:af×Int×Int×Int):OLe (@j0i (aw N) g h) (j0i g' h):=j81 N _ _ (by intros;exact hg _) _ _ _ _
theorem j7J(g g':(af×Int×Int×Int)->Option (af))(hg:∀a,OLe (g a) (g' a))(h:af×Int×Int×Int):OLe (j0i g h) (j0i g' h):=j7z _ _ (by intros;exact hg _) _ _ _ _
theorem Uq(N a b c d):OLe (@j1i (aw N) a b c d) (j1i a b c d):=OLe.rec N _ (λg g' hg a=>j8r N g g' hg a) (λg g' hg a=>j7J g g' hg a)
theorem j7K(N a b c d e):OLe (@j0m (aw N) a b c d e) (j0m a b c d e):=by
 unfold j0m;with_reducible repeat' (first|exact oR _|exact oN _|exact Uo N _ _ _|apply oC|apply oS|refine oB ?_ ?_|intro _)
theorem j9p(N a b c d e):OLe (@yn (aw N) a b c d e) (yn a b c d e):=OLe.loop N _ λ_=>j7K N _ _ _ _ _
theorem j7L(N a b c d e):OLe (@j0n (aw N) a b c d e) (j0n a b c d e):=by
 unfold j0n;with_reducible repeat' (first|exact oR _|exact oN _|exact Uq N _ _ _ _|apply oC|apply oS|refine oB ?_ ?_|intro _)
theorem j9q(N a b c d e):OLe (@yo (aw N) a b c d e) (yo a b c d e):=OLe.loop N _ λ_=>j7L N _ _ _ _ _
theorem j7M(N a b c):OLe (@j0x (aw N) a b c) (j0x a b c):=by
 unfold j0x;with_reducible repeat' (first|exact oR _|exact oN _|exact j9q N _ _ _ _ _|exact Uq N _ _ _ _|apply oC|apply oS|refine oB ?_ ?_|intro _)
theorem j9r(N a b c):OLe (@yp (aw N) a b c) (yp a b c):=OLe.loop N _ λ_=>j7M N _ _ _
theorem jaz(N a b):OLe (@j1M (aw N) a b) (j1M a b):=by
 unfold j1M;with_reducible repeat' (first|exact oR _|exact oN _|exact j9p N _ _ _ _ _|exact Uo N _ _ _|exact j9r N _ _ _|apply oC|apply oS|refine oB ?_ ?_|intro _)
theorem j78(N a):OLe (@j0o (aw N) a) (j0o a):=by
 unfold j0o;with_reducible repeat' (first|exact oR _|exact oN _|exact jaz N _ _|apply oC|apply oS|refine oB ?_ ?_|intro _)
theorem jdw(N a b c d e f g h i j k):OLe (@j1N (aw N) a b c d e f g h i j k) (j1N a b c d e f g h i j k):=by
 unfold j1N;with_reducible repeat' (first|exact oR _|exact oN _|exact Um N _ _ _ _|apply oC|apply oS|refine oB ?_ ?_|intro _)
theorem jge(N a b c d e f g h i j k):OLe (@yq (aw N) a b c d e f g h i j k) (yq a b c d e f g h i j k):=OLe.loop N _ λ_=>jdw N _ _ _ _ _ _ _ _ _ _ _
theorem jdx(N a b c d e f):OLe (@j1O (aw N) a b c d e f) (j1O a b c d e f):=by
 unfold j1O;with_reducible repeat' (first|exact oR _|exact oN _|exact jjt N _ _ _ _|apply oC|apply oS|refine oB ?_ ?_|intro _)
theorem jgf(N a b c d e f):OLe (@yr (aw N) a b c d e f) (yr a b c d e f):=OLe.loop N _ λ_=>jdx N _ _ _ _ _ _
theorem jdy(N a b c d):OLe (@j1P (aw N) a b c d) (j1P a b c d):=by
 unfold j1P;with_reducible repeat' (first|exact oR _|exact oN _|exact jgf N _ _ _ _ _ _|apply oC|apply oS|refine oB ?_ ?_|intro _)
theorem jgg(N a b c d):OLe (@yt (aw N) a b c d) (yt a b c d):=OLe.loop N _ λ_=>jdy N _ _ _ _
theorem jis(N a b c):OLe (@j39 (aw N) a b c) (j39 a b c):=by
 unfold j39;with_reducible repeat' (first|exact oR _|exact oN _|exact Ug N _|exact jge N _ _ _ _ _ _ _ _ _ _ _|exact jgg N _ _ _ _|exact j78 N _|apply oC|apply oS|refine oB ?_ ?_|intro _)
theorem jit(N a b c d e):OLe (@AW (aw N) a b c d e) (AW a b c d e):=OLe.loop N _ λ_=>oR _
theorem jkV(N a b):OLe (@j6d (aw N) a b) (j6d a b):=by
 unfold j6d;with_reducible repeat' (first|exact oR _|exact oN _|exact jit N _ _ _ _ _|apply oC|apply oS|refine oB ?_ ?_|intro _)
theorem jju(N a b c d e f g h):OLe (@yu (aw N) a b c d e f g h) (yu a b c d e f g h):=OLe.loop N _ λ_=>oR _
theorem jfC(N a b c d e f g):OLe (@j2N (aw N) a b c d e f g) (j2N a b c d e f g):=by
 unfold j2N;with_reducible repeat' (first|exact oR _|exact oN _|exact jkV N _ _|apply oC|apply oS|refine oB ?_ ?_|intro _)
theorem jjv(N a b c d e f g):OLe (@yw (aw N) a b c d e f g) (yw a b c d e f g):=OLe.loop N _ λ_=>jfC N _ _ _ _ _ _ _
theorem jmv(N a b c d):OLe (@j8c (aw N) a b c d) (j8c a b c d):=by
 unfold j8c;with_reducible repeat' (first|exact oR _|exact oN _|exact jju N _ _ _ _ _ _ _ _|exact Uh N _ _ _|exact jjv N _ _ _ _ _ _ _|apply oC|apply oS|refine oB ?_ ?_|intro _)
theorem jjw(N a b c d):OLe (@AX (aw N) a b c d) (AX a b c d):=OLe.loop N _ λ_=>oR _
theorem jmw(N a b):OLe (@j7a (aw N) a b) (j7a a b):=by
 unfold j7a;with_reducible repeat' (first|exact oR _|exact oN _|exact jjw N _ _ _ _|apply oC|apply oS|refine oB ?_ ?_|intro _)
theorem jiu(N a b c d):OLe (@yx (aw N) a b c d) (yx a b c d):=OLe.loop N _ λ_=>oR _
theorem jkW(N a):OLe (@j4B (aw N) a) (j4B a):=by
 unfold j4B;with_reducible repeat' (first|exact oR _|exact oN _|exact jiu N _ _ _ _|apply oC|apply oS|refine oB ?_ ?_|intro _)
theorem j6r(N a b c d):OLe (@yy (aw N) a b c d) (yy a b c d):=OLe.loop N _ λ_=>oR _
theorem j5s(N a b):OLe (@j0d (aw N) a b) (j0d a b):=by
 unfold j0d;with_reducible repeat' (first|exact oR _|exact oN _|exact j6r N _ _ _ _|apply oC|apply oS|refine oB ?_ ?_|intro _)
theorem j6s(N a b):OLe (@tI (aw N) a b) (tI a b):=OLe.loop N _ λ_=>j5s N _ _
theorem j74(N a):OLe (@j05 (aw N) a) (j05 a):=by
 unfold j05;with_reducible repeat' (first|exact oR _|exact oN _|exact j6s N _ _|apply oC|apply oS|refine oB ?_ ?_|intro _)
theorem jfD(N a b c d e f g h):OLe (@mE (aw N) a b c d e f g h) (mE a b c d e f g h):=OLe.loop N _ λ_=>oR _
theorem jfE(N a b c d e f g h):OLe (@rV (aw N) a b c d e f g h) (rV a b c d e f g h):=OLe.loop N _ λ_=>oR _
theorem jcG(N a b c d):OLe (@j0T (aw N) a b c d) (j0T a b c d):=by
 unfold j0T;with_reducible repeat' (first|exact oR _|exact oN _|exact jfE N _ _ _ _ _ _ _ _|apply oC|apply oS|refine oB ?_ ?_|intro _)
theorem jfF(N a b c d):OLe (@nj (aw N) a b c d) (nj a b c d):=OLe.loop N _ λ_=>jcG N _ _ _ _
theorem jhr(N a b c d):OLe (@j14 (aw N) a b c d) (j14 a b c d):=by
 unfold j14;with_reducible repeat' (first|exact oR _|exact oN _|exact MQ N _ _ _ _|exact Un N _ _ _ _|exact jis N _ _ _|exact jmv N _ _ _ _|exact jmw N _ _|exact Uj N _ _ _ _|exact Uk N _ _|exact jkW N _|exact jfD N _ _ _ _ _ _ _ _|exact jfF N _ _ _ _|exact j74 N _|apply oC|apply oS|refine oB ?_ ?_|intro _)
theorem jkX(N a b c d):OLe (@ja9 (aw N) a b c d) (ja9 a b c d):=by
 unfold ja9;with_reducible repeat' (first|exact oR _|exact oN _|exact MQ N _ _ _ _|exact Un N _ _ _ _|apply oC|apply oS|refine oB ?_ ?_|intro _)
theorem jna(N a b c d):OLe (@Kv (aw N) a b c d) (Kv a b c d):=OLe.loop N _ λ_=>oR _
theorem jrK(N a b):OLe (@jh9 (aw N) a b) (jh9 a b):=by
 unfold jh9;with_reducible repeat' (first|exact oR _|exact oN _|exact jna N _ _ _ _|apply oC|apply oS|refine oB ?_ ?_|intro _)
theorem jiv(N a b c d):OLe (@j65 (aw N) a b c d) (j65 a b c d):=by
 unfold j65;with_reducible repeat' (first|exact oR _|exact oN _|exact MQ N _ _ _ _|exact Ul N _ _|exact jrK N _ _|apply oC|apply oS|refine oB ?_ ?_|intro _)
theorem jp4(N):OLe (@jb7 (aw N) ) (jb7 ):=by
 unfold jb7;with_reducible repeat' (first|exact oR _|exact oN _|exact jhr N _ _ _ _|exact jkX N _ _ _ _|exact jiv N _ _ _ _|apply oC|apply oS|refine oB ?_ ?_|intro _)
abbrev jp5(N:Nat):=@j2k (aw N)
end
end Go.Proofs.Pw
