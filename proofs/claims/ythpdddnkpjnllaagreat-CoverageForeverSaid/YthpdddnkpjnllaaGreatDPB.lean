/- Twins with a bound on their rounds, printed by a program. -/
import Derived.Test.YthpdddnkpjnllaaGreatDFns
import Derived.Test.YthpdddnkpjnllaaGreatDLD
open Go Go.Lft
set_option linter.unusedVariables false
set_option maxRecDepth 100000
namespace Go.Proofs.Pw
noncomputable section
theorem jmf (N a b c):OLe (@j6t (j0d N) a b c) (j6t a b c):=OLe.loop N _ fun _=>oR _
theorem j9U (N a):OLe (@j7a (j0d N) a) (j7a a):=by
 unfold j7a
 with_reducible repeat' (first | exact oR _ | exact oN _ | exact jmf N _ _ _ | apply oC | apply oS | refine oB ?_ ?_ | intro _)
theorem j81 (N a b):OLe (@j40 (j0d N) a b) (j40 a b):=by
 unfold j40
 with_reducible repeat' (first | exact oR _ | exact oN _ | exact j9U N _ | apply oC | apply oS | refine oB ?_ ?_ | intro _)
theorem jkz (N a b c d e):OLe (@j65 (j0d N) a b c d e) (j65 a b c d e):=OLe.loop N _ fun _=>oR _
theorem jnP (N a):OLe (@j7v (j0d N) a) (j7v a):=by
 unfold j7v
 with_reducible repeat' (first | exact oR _ | exact oN _ | exact jkz N _ _ _ _ _ | apply oC | apply oS | refine oB ?_ ?_ | intro _)
theorem jss (N a b c d):OLe (@jcA (j0d N) a b c d) (jcA a b c d):=by
 unfold jcA
 with_reducible repeat' (first | exact oR _ | exact oN _ | exact jnP N _ | apply oC | apply oS | refine oB ?_ ?_ | intro _)
theorem j5c (N a b c d e):OLe (@j0k (j0d N) a b c d e) (j0k a b c d e):=OLe.loop N _ fun _=>oR _
theorem j4D (N a b c d):OLe (@j09 (j0d N) a b c d) (j09 a b c d):=by
 unfold j09
 with_reducible repeat' (first | exact oR _ | exact oN _ | exact j5c N _ _ _ _ _ | apply oC | apply oS | refine oB ?_ ?_ | intro _)
theorem j5d (N a b c d):OLe (@j0l (j0d N) a b c d) (j0l a b c d):=OLe.loop N _ fun _=>j4D N _ _ _ _
theorem j2V (N a b c):OLe (@j0e (j0d N) a b c) (j0e a b c):=by
 unfold j0e
 with_reducible repeat' (first | exact oR _ | exact oN _ | exact j5d N _ _ _ _ | apply oC | apply oS | refine oB ?_ ?_ | intro _)
theorem j5Q (N a b c d e):OLe (@j0f (j0d N) a b c d e) (j0f a b c d e):=by
 unfold j0f
 with_reducible repeat' (first | exact oR _ | exact oN _ | exact j2V N _ _ _ | apply oC | apply oS | refine oB ?_ ?_ | intro _)
theorem j76 (N a b c d e):OLe (@j0C (j0d N) a b c d e) (j0C a b c d e):=OLe.loop N _ fun _=>j5Q N _ _ _ _ _
theorem j77 (N a b c d e):OLe (@j2r (j0d N) a b c d e) (j2r a b c d e):=OLe.loop N _ fun _=>oR _
theorem j5R (N a b c):OLe (@j0g (j0d N) a b c) (j0g a b c):=by
 unfold j0g
 with_reducible repeat' (first | exact oR _ | exact oN _ | exact j77 N _ _ _ _ _ | apply oC | apply oS | refine oB ?_ ?_ | intro _)
theorem j78 (N a b c):OLe (@j0D (j0d N) a b c) (j0D a b c):=OLe.loop N _ fun _=>j5R N _ _ _
theorem j82 (N a b):OLe (@j0P (j0d N) a b) (j0P a b):=by
 unfold j0P
 with_reducible repeat' (first | exact oR _ | exact oN _ | exact j76 N _ _ _ _ _ | exact j2V N _ _ _ | exact j78 N _ _ _ | apply oC | apply oS | refine oB ?_ ?_ | intro _)
theorem j4g (N a):OLe (@j0c (j0d N) a) (j0c a):=by
 unfold j0c
 with_reducible repeat' (first | exact oR _ | exact oN _ | exact j82 N _ _ | apply oC | apply oS | refine oB ?_ ?_ | intro _)
theorem jgu (N a b c d e f g):OLe (@j2W (j0d N) a b c d e f g) (j2W a b c d e f g):=OLe.loop N _ fun _=>oR _
theorem jdj (N a b c d e f g h i j k l):OLe (@j1b (j0d N) a b c d e f g h i j k l) (j1b a b c d e f g h i j k l):=by
 unfold j1b
 with_reducible repeat' (first | exact oR _ | exact oN _ | exact jss N _ _ _ _ | apply oC | apply oS | refine oB ?_ ?_ | intro _)
theorem jgv (N a b c d e f g h i j k l):OLe (@j3I (j0d N) a b c d e f g h i j k l) (j3I a b c d e f g h i j k l):=OLe.loop N _ fun _=>jdj N _ _ _ _ _ _ _ _ _ _ _ _
theorem jdk (N a b c d):OLe (@j1c (j0d N) a b c d) (j1c a b c d):=by
 unfold j1c
 with_reducible repeat' (first | exact oR _ | exact oN _ | exact jgv N _ _ _ _ _ _ _ _ _ _ _ _ | apply oC | apply oS | refine oB ?_ ?_ | intro _)
theorem jgw (N a b c d):OLe (@j2X (j0d N) a b c d) (j2X a b c d):=OLe.loop N _ fun _=>jdk N _ _ _ _
theorem jjk (N a):OLe (@j4n (j0d N) a) (j4n a):=by
 unfold j4n
 with_reducible repeat' (first | exact oR _ | exact oN _ | exact jgu N _ _ _ _ _ _ _ | exact jgw N _ _ _ _ | exact j4g N _ | apply oC | apply oS | refine oB ?_ ?_ | intro _)
theorem jgx (N a b c d e):OLe (@j2Y (j0d N) a b c d e) (j2Y a b c d e):=OLe.loop N _ fun _=>oR _
theorem jdl (N a):OLe (@j2A (j0d N) a) (j2A a):=by
 unfold j2A
 with_reducible repeat' (first | exact oR _ | exact oN _ | exact jjk N _ | exact jgx N _ _ _ _ _ | apply oC | apply oS | refine oB ?_ ?_ | intro _)
theorem jqE (N a):OLe (@j9i (j0d N) a) (j9i a):=by
 unfold j9i
 with_reducible repeat' (first | exact oR _ | exact oN _ | exact jdl N _ | apply oC | apply oS | refine oB ?_ ?_ | intro _)
theorem j5G (N a b c):OLe (@j0o (j0d N) a b c) (j0o a b c):=OLe.loop N _ fun _=>oR _
theorem j6m (N a):OLe (@j0x (j0d N) a) (j0x a):=by
 unfold j0x
 with_reducible repeat' (first | exact oR _ | exact oN _ | exact j5G N _ _ _ | apply oC | apply oS | refine oB ?_ ?_ | intro _)
theorem j5H (N a):OLe (@j0p (j0d N) a) (j0p a):=by
 unfold j0p
 with_reducible repeat' (first | exact oR _ | exact oN _ | exact j6m N _ | apply oC | apply oS | refine oB ?_ ?_ | intro _)
theorem jia (N a):OLe (@j37 (j0d N) a) (j37 a):=by
 unfold j37
 with_reducible repeat' (first | exact oR _ | exact oN _ | exact jqE N _ | exact j5H N _ | apply oC | apply oS | refine oB ?_ ?_ | intro _)
theorem j9V (N a b c d):OLe (@j0G (j0d N) a b c d) (j0G a b c d):=by
 unfold j0G
 with_reducible repeat' (first | exact oR _ | exact oN _ | exact j81 N _ _ | exact jia N _ | apply oC | apply oS | refine oB ?_ ?_ | intro _)
theorem jcj (N a b c d):OLe (@j1y (j0d N) a b c d) (j1y a b c d):=OLe.loop N _ fun _=>j9V N _ _ _ _
theorem jeu (N a):OLe (@j2e (j0d N) a) (j2e a):=by
 unfold j2e
 with_reducible repeat' (first | exact oR _ | exact oN _ | exact jcj N _ _ _ _ | apply oC | apply oS | refine oB ?_ ?_ | intro _)
theorem jmg (N a b c d):OLe (@j84 (j0d N) a b c d) (j84 a b c d):=OLe.loop N _ fun _=>oR _
theorem jkA (N a):OLe (@j9j (j0d N) a) (j9j a):=by
 unfold j9j
 with_reducible repeat' (first | exact oR _ | exact oN _ | exact jmg N _ _ _ _ | apply oC | apply oS | refine oB ?_ ?_ | intro _)
theorem jgy (N a b):OLe (@j20 (j0d N) a b) (j20 a b):=by
 unfold j20
 with_reducible repeat' (first | exact oR _ | exact oN _ | exact jkA N _ | apply oC | apply oS | refine oB ?_ ?_ | intro _)
theorem jmh (N a b):OLe (@jfm (j0d N) a b) (jfm a b):=OLe.loop N _ fun _=>oR _
theorem jqF (N a):OLe (@jeN (j0d N) a) (jeN a):=by
 unfold jeN
 with_reducible repeat' (first | exact oR _ | exact oN _ | exact jmh N _ _ | apply oC | apply oS | refine oB ?_ ?_ | intro _)
theorem jkB (N a b c d e f g):OLe (@jcB (j0d N) a b c d e f g) (jcB a b c d e f g):=OLe.loop N _ fun _=>oR _
theorem jnQ (N a):OLe (@j4N (j0d N) a) (j4N a):=by
 unfold j4N
 with_reducible repeat' (first | exact oR _ | exact oN _ | exact jqF N _ | exact jkB N _ _ _ _ _ _ _ | apply oC | apply oS | refine oB ?_ ?_ | intro _)
theorem jaV (N a):OLe (@j0Q (j0d N) a) (j0Q a):=by
 unfold j0Q
 with_reducible repeat' (first | exact oR _ | exact oN _ | exact jnQ N _ | apply oC | apply oS | refine oB ?_ ?_ | intro _)
theorem jdm (N a):OLe (@j2k (j0d N) a) (j2k a):=by
 unfold j2k
 with_reducible repeat' (first | exact oR _ | exact oN _ | exact jaV N _ | apply oC | apply oS | refine oB ?_ ?_ | intro _)
theorem j9f (N a b c):OLe (@j0z (j0d N) a b c) (j0z a b c):=by
 unfold j0z
 with_reducible repeat' (first | exact oR _ | exact oN _ | exact jdm N _ | apply oC | apply oS | refine oB ?_ ?_ | intro _)
theorem jbq (N a b c):OLe (@j1K (j0d N) a b c) (j1K a b c):=OLe.loop N _ fun _=>j9f N _ _ _
theorem jdn (N a):OLe (@j2l (j0d N) a) (j2l a):=by
 unfold j2l
 with_reducible repeat' (first | exact oR _ | exact oN _ | exact jbq N _ _ _ | apply oC | apply oS | refine oB ?_ ?_ | intro _)
theorem jbr (N a):OLe (@j1L (j0d N) a) (j1L a):=by
 unfold j1L
 with_reducible repeat' (first | exact oR _ | exact oN _ | exact jdn N _ | apply oC | apply oS | refine oB ?_ ?_ | intro _)
theorem jdo (N a b c d e):OLe (@j2m (j0d N) a b c d e) (j2m a b c d e):=OLe.loop N _ fun _=>oR _
theorem jf3 (N a b):OLe (@j1T (j0d N) a b) (j1T a b):=by
 unfold j1T
 with_reducible repeat' (first | exact oR _ | exact oN _ | exact jbr N _ | exact jdo N _ _ _ _ _ | apply oC | apply oS | refine oB ?_ ?_ | intro _)
theorem jjl (N a b c d e):OLe (@j5f (j0d N) a b c d e) (j5f a b c d e):=by
 unfold j5f
 with_reducible repeat' (first | exact oR _ | exact oN _ | exact jf3 N _ _ | apply oC | apply oS | refine oB ?_ ?_ | intro _)
theorem j8D (N a b c d e f g h):OLe (@j0v (j0d N) a b c d e f g h) (j0v a b c d e f g h):=by
 unfold j0v
 with_reducible repeat' (first | exact oR _ | exact oN _ | exact j81 N _ _ | exact jjl N _ _ _ _ _ | apply oC | apply oS | refine oB ?_ ?_ | intro _)
theorem ja5 (N a b c d e f g h):OLe (@j11 (j0d N) a b c d e f g h) (j11 a b c d e f g h):=OLe.loop N _ fun _=>j8D N _ _ _ _ _ _ _ _
theorem jbU (N a b c d e):OLe (@j1l (j0d N) a b c d e) (j1l a b c d e):=by
 unfold j1l
 with_reducible repeat' (first | exact oR _ | exact oN _ | exact ja5 N _ _ _ _ _ _ _ _ | apply oC | apply oS | refine oB ?_ ?_ | intro _)
theorem j9W (N a b c d e f g):OLe (@j1d (j0d N) a b c d e f g) (j1d a b c d e f g):=OLe.loop N _ fun _=>oR _
theorem jbs (N a b c d e):OLe (@j1M (j0d N) a b c d e) (j1M a b c d e):=by
 unfold j1M
 with_reducible repeat' (first | exact oR _ | exact oN _ | exact j9W N _ _ _ _ _ _ _ | apply oC | apply oS | refine oB ?_ ?_ | intro _)
theorem j9X (N a b c d e):OLe (@j1e (j0d N) a b c d e) (j1e a b c d e):=by
 unfold j1e
 with_reducible repeat' (first | exact oR _ | exact oN _ | exact jbs N _ _ _ _ _ | apply oC | apply oS | refine oB ?_ ?_ | intro _)
theorem jhz (N a b):OLe (@j2N (j0d N) a b) (j2N a b):=by
 unfold j2N
 with_reducible repeat' (first | exact oR _ | exact oN _ | exact jaV N _ | exact j9X N _ _ _ _ _ | exact jkA N _ | apply oC | apply oS | refine oB ?_ ?_ | intro _)
theorem jdp (N a b c d e):OLe (@j2n (j0d N) a b c d e) (j2n a b c d e):=by
 unfold j2n
 with_reducible repeat' (first | exact oR _ | exact oN _ | exact jhz N _ _ | apply oC | apply oS | refine oB ?_ ?_ | intro _)
theorem j9p (N a b c d e f g h):OLe (@j0E (j0d N) a b c d e f g h) (j0E a b c d e f g h):=by
 unfold j0E
 with_reducible repeat' (first | exact oR _ | exact oN _ | exact j81 N _ _ | exact jdp N _ _ _ _ _ | apply oC | apply oS | refine oB ?_ ?_ | intro _)
theorem jbV (N a b c d e f g h):OLe (@j1m (j0d N) a b c d e f g h) (j1m a b c d e f g h):=OLe.loop N _ fun _=>j9p N _ _ _ _ _ _ _ _
theorem jdF (N a b c d e):OLe (@j21 (j0d N) a b c d e) (j21 a b c d e):=by
 unfold j21
 with_reducible repeat' (first | exact oR _ | exact oN _ | exact jbV N _ _ _ _ _ _ _ _ | apply oC | apply oS | refine oB ?_ ?_ | intro _)
theorem jib (N a b):OLe (@j38 (j0d N) a b) (j38 a b):=by
 unfold j38
 with_reducible repeat' (first | exact oR _ | exact oN _ | exact jaV N _ | apply oC | apply oS | refine oB ?_ ?_ | intro _)
theorem ja6 (N a b c d e f g):OLe (@j0M (j0d N) a b c d e f g) (j0M a b c d e f g):=by
 unfold j0M
 with_reducible repeat' (first | exact oR _ | exact oN _ | exact jib N _ _ | apply oC | apply oS | refine oB ?_ ?_ | intro _)
theorem jdq (N a b c d e f g):OLe (@j2o (j0d N) a b c d e f g) (j2o a b c d e f g):=OLe.loop N _ fun _=>ja6 N _ _ _ _ _ _ _
theorem jf4 (N a b):OLe (@j1U (j0d N) a b) (j1U a b):=by
 unfold j1U
 with_reducible repeat' (first | exact oR _ | exact oN _ | exact jdF N _ _ _ _ _ | exact jdq N _ _ _ _ _ _ _ | apply oC | apply oS | refine oB ?_ ?_ | intro _)
theorem jjm (N a b c d e):OLe (@j5g (j0d N) a b c d e) (j5g a b c d e):=by
 unfold j5g
 with_reducible repeat' (first | exact oR _ | exact oN _ | exact jf4 N _ _ | apply oC | apply oS | refine oB ?_ ?_ | intro _)
theorem j8E (N a b c d e f g h):OLe (@j0w (j0d N) a b c d e f g h) (j0w a b c d e f g h):=by
 unfold j0w
 with_reducible repeat' (first | exact oR _ | exact oN _ | exact j81 N _ _ | exact jjm N _ _ _ _ _ | apply oC | apply oS | refine oB ?_ ?_ | intro _)
theorem ja7 (N a b c d e f g h):OLe (@j12 (j0d N) a b c d e f g h) (j12 a b c d e f g h):=OLe.loop N _ fun _=>j8E N _ _ _ _ _ _ _ _
theorem jbW (N a b c d e):OLe (@j1Z (j0d N) a b c d e) (j1Z a b c d e):=by
 unfold j1Z
 with_reducible repeat' (first | exact oR _ | exact oN _ | exact ja7 N _ _ _ _ _ _ _ _ | apply oC | apply oS | refine oB ?_ ?_ | intro _)
theorem jf5 (N a b c d e f g h):OLe (@j1V (j0d N) a b c d e f g h) (j1V a b c d e f g h):=by
 unfold j1V
 with_reducible repeat' (first | exact oR _ | exact oN _ | exact j81 N _ _ | exact jgy N _ _ | apply oC | apply oS | refine oB ?_ ?_ | intro _)
theorem jjn (N a b c d e f g h):OLe (@j4o (j0d N) a b c d e f g h) (j4o a b c d e f g h):=OLe.loop N _ fun _=>jf5 N _ _ _ _ _ _ _ _
theorem jmi (N a):OLe (@j5m (j0d N) a) (j5m a):=by
 unfold j5m
 with_reducible repeat' (first | exact oR _ | exact oN _ | exact jeu N _ | exact jjn N _ _ _ _ _ _ _ _ | exact jbU N _ _ _ _ _ | exact jbW N _ _ _ _ _ | apply oC | apply oS | refine oB ?_ ?_ | intro _)
theorem jw4 (N a):OLe (@jgW (j0d N) a) (jgW a):=by
 unfold jgW
 with_reducible repeat' (first | exact oR _ | exact oN _ | exact jdl N _ | apply oC | apply oS | refine oB ?_ ?_ | intro _)
theorem jgz (N a b c d):OLe (@j2s (j0d N) a b c d) (j2s a b c d):=by
 unfold j2s
 with_reducible repeat' (first | exact oR _ | exact oN _ | exact jw4 N _ | apply oC | apply oS | refine oB ?_ ?_ | intro _)
theorem jlv (N a b c d):OLe (@j5J (j0d N) a b c d) (j5J a b c d):=OLe.loop N _ fun _=>jgz N _ _ _ _
theorem joC (N a):OLe (@jat (j0d N) a) (jat a):=by
 unfold jat
 with_reducible repeat' (first | exact oR _ | exact oN _ | exact jlv N _ _ _ _ | apply oC | apply oS | refine oB ?_ ?_ | intro _)
theorem jst (N a):OLe (@jcD (j0d N) a) (jcD a):=by
 unfold jcD
 with_reducible repeat' (first | exact oR _ | exact oN _ | exact joC N _ | apply oC | apply oS | refine oB ?_ ?_ | intro _)
theorem jpe (N a):OLe (@jfn (j0d N) a) (jfn a):=by
 unfold jfn
 with_reducible repeat' (first | exact oR _ | exact oN _ | exact jmi N _ | exact jst N _ | apply oC | apply oS | refine oB ?_ ?_ | intro _)
theorem jiv (N a b c d):OLe (@j6v (j0d N) a b c d) (j6v a b c d):=by
 unfold j6v
 with_reducible repeat' (first | exact oR _ | exact oN _ | exact jpe N _ | apply oC | apply oS | refine oB ?_ ?_ | intro _)
theorem jlw (N a b c d e):OLe (@j7b (j0d N) a b c d e) (j7b a b c d e):=OLe.loop N _ fun _=>oR _
theorem joD (N a b c d):OLe (@jaw (j0d N) a b c d) (jaw a b c d):=by
 unfold jaw
 with_reducible repeat' (first | exact oR _ | exact oN _ | exact jlw N _ _ _ _ _ | apply oC | apply oS | refine oB ?_ ?_ | intro _)
theorem jdr (N a b):OLe (@j3C (j0d N) a b) (j3C a b):=by
 unfold j3C
 with_reducible repeat' (first | exact oR _ | exact oN _ | exact joD N _ _ _ _ | apply oC | apply oS | refine oB ?_ ?_ | intro _)
theorem jck (N a b c d e):OLe (@j0s (j0d N) a b c d e) (j0s a b c d e):=by
 unfold j0s
 with_reducible repeat' (first | exact oR _ | exact oN _ | exact jdr N _ _ | apply oC | apply oS | refine oB ?_ ?_ | intro _)
theorem jfZ (N a b c d e):OLe (@j29 (j0d N) a b c d e) (j29 a b c d e):=OLe.loop N _ fun _=>jck N _ _ _ _ _
theorem j8F (N a b c):OLe (@j1q (j0d N) a b c) (j1q a b c):=by
 unfold j1q
 with_reducible repeat' (first | exact oR _ | exact oN _ | exact jfZ N _ _ _ _ _ | apply oC | apply oS | refine oB ?_ ?_ | intro _)
theorem jgA (N a b c d e):OLe (@j2Z (j0d N) a b c d e) (j2Z a b c d e):=OLe.loop N _ fun _=>oR _
theorem jds (N a b):OLe (@j17 (j0d N) a b) (j17 a b):=by
 unfold j17
 with_reducible repeat' (first | exact oR _ | exact oN _ | exact j8F N _ _ _ | exact jgA N _ _ _ _ _ | apply oC | apply oS | refine oB ?_ ?_ | intro _)
theorem j3T (N a b c):OLe (@j0A (j0d N) a b c) (j0A a b c):=by
 unfold j0A
 with_reducible repeat' (first | exact oR _ | exact oN _ | exact jds N _ _ | apply oC | apply oS | refine oB ?_ ?_ | intro _)
theorem jgB (N a b c d e f g h i j k l):OLe (@j2t (j0d N) a b c d e f g h i j k l) (j2t a b c d e f g h i j k l):=OLe.loop N _ fun _=>oR _
theorem jdt (N a b c d e f g h i):OLe (@j10 (j0d N) a b c d e f g h i) (j10 a b c d e f g h i):=by
 unfold j10
 with_reducible repeat' (first | exact oR _ | exact oN _ | exact j3T N _ _ _ | exact jds N _ _ | apply oC | apply oS | refine oB ?_ ?_ | intro _)
theorem jgC (N a b c d e f g h i):OLe (@j2u (j0d N) a b c d e f g h i) (j2u a b c d e f g h i):=OLe.loop N _ fun _=>jdt N _ _ _ _ _ _ _ _ _
theorem jdu (N a b):OLe (@j2B (j0d N) a b) (j2B a b):=by
 unfold j2B
 with_reducible repeat' (first | exact oR _ | exact oN _ | exact jgB N _ _ _ _ _ _ _ _ _ _ _ _ | exact jgC N _ _ _ _ _ _ _ _ _ | apply oC | apply oS | refine oB ?_ ?_ | intro _)
theorem j9Y (N a b c d e):OLe (@j0X (j0d N) a b c d e) (j0X a b c d e):=OLe.loop N _ fun _=>oR _
theorem jbt (N a b c):OLe (@j1O (j0d N) a b c) (j1O a b c):=by
 unfold j1O
 with_reducible repeat' (first | exact oR _ | exact oN _ | exact j9Y N _ _ _ _ _ | apply oC | apply oS | refine oB ?_ ?_ | intro _)
theorem jaN (N a b c d e):OLe (@j1E (j0d N) a b c d e) (j1E a b c d e):=OLe.loop N _ fun _=>oR _
theorem jcl (N a b c):OLe (@j1z (j0d N) a b c) (j1z a b c):=by
 unfold j1z
 with_reducible repeat' (first | exact oR _ | exact oN _ | exact jbt N _ _ _ | exact jaN N _ _ _ _ _ | apply oC | apply oS | refine oB ?_ ?_ | intro _)
theorem j8G (N a b c d e):OLe (@j0U (j0d N) a b c d e) (j0U a b c d e):=OLe.loop N _ fun _=>oR _
theorem j79 (N a b c d):OLe (@j0h (j0d N) a b c d) (j0h a b c d):=by
 unfold j0h
 with_reducible repeat' (first | exact oR _ | exact oN _ | exact j8G N _ _ _ _ _ | apply oC | apply oS | refine oB ?_ ?_ | intro _)
theorem j8H (N a b c d):OLe (@j0V (j0d N) a b c d) (j0V a b c d):=OLe.loop N _ fun _=>j79 N _ _ _ _
theorem j9q (N a b c):OLe (@j0R (j0d N) a b c) (j0R a b c):=by
 unfold j0R
 with_reducible repeat' (first | exact oR _ | exact oN _ | exact j8H N _ _ _ _ | apply oC | apply oS | refine oB ?_ ?_ | intro _)
theorem j8U (N a b c d e f):OLe (@j0J (j0d N) a b c d e f) (j0J a b c d e f):=by
 unfold j0J
 with_reducible repeat' (first | exact oR _ | exact oN _ | exact j9q N _ _ _ | apply oC | apply oS | refine oB ?_ ?_ | intro _)
theorem jaO (N a b c d e f):OLe (@j2h (j0d N) a b c d e f) (j2h a b c d e f):=OLe.loop N _ fun _=>j8U N _ _ _ _ _ _
theorem jcm (N a b c d):OLe (@j1A (j0d N) a b c d) (j1A a b c d):=by
 unfold j1A
 with_reducible repeat' (first | exact oR _ | exact oN _ | exact jaO N _ _ _ _ _ _ | apply oC | apply oS | refine oB ?_ ?_ | intro _)
theorem jgD (N a):OLe (@j30 (j0d N) a) (j30 a):=by
 unfold j30
 with_reducible repeat' (first | exact oR _ | exact oN _ | exact jcm N _ _ _ _ | apply oC | apply oS | refine oB ?_ ?_ | intro _)
theorem jcn (N a b c d):OLe (@j1B (j0d N) a b c d) (j1B a b c d):=OLe.loop N _ fun _=>oR _
theorem j9Z (N a b):OLe (@j0H (j0d N) a b) (j0H a b):=by
 unfold j0H
 with_reducible repeat' (first | exact oR _ | exact oN _ | exact jcn N _ _ _ _ | apply oC | apply oS | refine oB ?_ ?_ | intro _)
theorem jco (N a b):OLe (@j0T (j0d N) a b) (j0T a b):=OLe.loop N _ fun _=>j9Z N _ _
theorem jev (N a):OLe (@j2f (j0d N) a) (j2f a):=by
 unfold j2f
 with_reducible repeat' (first | exact oR _ | exact oN _ | exact jco N _ _ | apply oC | apply oS | refine oB ?_ ?_ | intro _)
theorem jsu (N a b c):OLe (@jcF (j0d N) a b c) (jcF a b c):=by
 unfold jcF
 with_reducible repeat' (first | exact oR _ | exact oN _ | exact jcl N _ _ _ | exact jgD N _ | exact jev N _ | apply oC | apply oS | refine oB ?_ ?_ | intro _)
theorem j7s (N a b c):OLe (@j0y (j0d N) a b c) (j0y a b c):=OLe.loop N _ fun _=>oR _
theorem j8I (N a):OLe (@j0W (j0d N) a) (j0W a):=by
 unfold j0W
 with_reducible repeat' (first | exact oR _ | exact oN _ | exact j7s N _ _ _ | apply oC | apply oS | refine oB ?_ ?_ | intro _)
theorem j7h (N a b c):OLe (@j0F (j0d N) a b c) (j0F a b c):=OLe.loop N _ fun _=>oR _
theorem j8g (N a):OLe (@j0B (j0d N) a) (j0B a):=by
 unfold j0B
 with_reducible repeat' (first | exact oR _ | exact oN _ | exact j8I N _ | exact j7h N _ _ _ | apply oC | apply oS | refine oB ?_ ?_ | intro _)
theorem jmj (N a b c d):OLe (@j6w (j0d N) a b c d) (j6w a b c d):=OLe.loop N _ fun _=>oR _
theorem ja0 (N a):OLe (@j68 (j0d N) a) (j68 a):=by
 unfold j68
 with_reducible repeat' (first | exact oR _ | exact oN _ | exact j8g N _ | exact jmj N _ _ _ _ | apply oC | apply oS | refine oB ?_ ?_ | intro _)
theorem jkC (N a b c d e f g h i j k l):OLe (@j69 (j0d N) a b c d e f g h i j k l) (j69 a b c d e f g h i j k l):=OLe.loop N _ fun _=>oR _
theorem jg0 (N a b c d e f g h i):OLe (@j2a (j0d N) a b c d e f g h i) (j2a a b c d e f g h i):=by
 unfold j2a
 with_reducible repeat' (first | exact oR _ | exact oN _ | exact jkC N _ _ _ _ _ _ _ _ _ _ _ _ | apply oC | apply oS | refine oB ?_ ?_ | intro _)
theorem jkD (N a b c d e f g h i):OLe (@j6a (j0d N) a b c d e f g h i) (j6a a b c d e f g h i):=OLe.loop N _ fun _=>jg0 N _ _ _ _ _ _ _ _ _
theorem jg1 (N a b c d e):OLe (@j2b (j0d N) a b c d e) (j2b a b c d e):=by
 unfold j2b
 with_reducible repeat' (first | exact oR _ | exact oN _ | exact jkD N _ _ _ _ _ _ _ _ _ | apply oC | apply oS | refine oB ?_ ?_ | intro _)
theorem jkE (N a b c d e):OLe (@j6b (j0d N) a b c d e) (j6b a b c d e):=OLe.loop N _ fun _=>jg1 N _ _ _ _ _
theorem jnR (N a b c d):OLe (@j42 (j0d N) a b c d) (j42 a b c d):=by
 unfold j42
 with_reducible repeat' (first | exact oR _ | exact oN _ | exact j8F N _ _ _ | exact jkE N _ _ _ _ _ | exact ja0 N _ | apply oC | apply oS | refine oB ?_ ?_ | intro _)
theorem jic (N a b c d e f g h i j k l m):OLe (@j3L (j0d N) a b c d e f g h i j k l m) (j3L a b c d e f g h i j k l m):=OLe.loop N _ fun _=>oR _
theorem jew (N a b c d e f g):OLe (@j1G (j0d N) a b c d e f g) (j1G a b c d e f g):=by
 unfold j1G
 with_reducible repeat' (first | exact oR _ | exact oN _ | exact jic N _ _ _ _ _ _ _ _ _ _ _ _ _ | apply oC | apply oS | refine oB ?_ ?_ | intro _)
theorem jid (N a b c d e f g):OLe (@j3M (j0d N) a b c d e f g) (j3M a b c d e f g):=OLe.loop N _ fun _=>jew N _ _ _ _ _ _ _
theorem jlx (N a b c d):OLe (@j1R (j0d N) a b c d) (j1R a b c d):=by
 unfold j1R
 with_reducible repeat' (first | exact oR _ | exact oN _ | exact j8F N _ _ _ | exact jid N _ _ _ _ _ _ _ | exact ja0 N _ | apply oC | apply oS | refine oB ?_ ?_ | intro _)
theorem jkF (N a b c d e f g h):OLe (@j6c (j0d N) a b c d e f g h) (j6c a b c d e f g h):=OLe.loop N _ fun _=>oR _
theorem jkG (N a b c d e f g h i j):OLe (@j4Y (j0d N) a b c d e f g h i j) (j4Y a b c d e f g h i j):=OLe.loop N _ fun _=>oR _
theorem jg2 (N a b c d e f):OLe (@j2c (j0d N) a b c d e f) (j2c a b c d e f):=by
 unfold j2c
 with_reducible repeat' (first | exact oR _ | exact oN _ | exact jkF N _ _ _ _ _ _ _ _ | exact jkG N _ _ _ _ _ _ _ _ _ _ | apply oC | apply oS | refine oB ?_ ?_ | intro _)
theorem jkH (N a b c d e f):OLe (@j43 (j0d N) a b c d e f) (j43 a b c d e f):=OLe.loop N _ fun _=>jg2 N _ _ _ _ _ _
theorem jdv (N a b):OLe (@j2v (j0d N) a b) (j2v a b):=by
 unfold j2v
 with_reducible repeat' (first | exact oR _ | exact oN _ | exact jkH N _ _ _ _ _ _ | apply oC | apply oS | refine oB ?_ ?_ | intro _)
theorem jly (N a b c d e):OLe (@j3X (j0d N) a b c d e) (j3X a b c d e):=OLe.loop N _ fun _=>oR _
theorem joE (N a b):OLe (@j7z (j0d N) a b) (j7z a b):=by
 unfold j7z
 with_reducible repeat' (first | exact oR _ | exact oN _ | exact jly N _ _ _ _ _ | apply oC | apply oS | refine oB ?_ ?_ | intro _)
theorem jkI (N a b c d):OLe (@j44 (j0d N) a b c d) (j44 a b c d):=by
 unfold j44
 with_reducible repeat' (first | exact oR _ | exact oN _ | exact j3T N _ _ _ | exact jnR N _ _ _ _ | exact jlx N _ _ _ _ | exact jdv N _ _ | exact joE N _ _ | apply oC | apply oS | refine oB ?_ ?_ | intro _)
theorem jie (N a b):OLe (@j3N (j0d N) a b) (j3N a b):=by
 unfold j3N
 with_reducible repeat' (first | exact oR _ | exact oN _ | exact jdr N _ _ | apply oC | apply oS | refine oB ?_ ?_ | intro _)
theorem jjo (N a b):OLe (@j0n (j0d N) a b) (j0n a b):=by
 unfold j0n
 with_reducible repeat' (first | exact oR _ | exact oN _ | exact jie N _ _ | apply oC | apply oS | refine oB ?_ ?_ | intro _)
theorem jf6 (N a b c d e f g h i j k l m n):OLe (@j1X (j0d N) a b c d e f g h i j k l m n) (j1X a b c d e f g h i j k l m n):=by
 unfold j1X
 with_reducible repeat' (first | exact oR _ | exact oN _ | exact j3T N _ _ _ | apply oC | apply oS | refine oB ?_ ?_ | intro _)
theorem jjp (N a b c d e f g h i j k l m n):OLe (@j5h (j0d N) a b c d e f g h i j k l m n) (j5h a b c d e f g h i j k l m n):=OLe.loop N _ fun _=>jf6 N _ _ _ _ _ _ _ _ _ _ _ _ _ _
theorem jf7 (N a b c d e f g h i j k l m n):OLe (@j2w (j0d N) a b c d e f g h i j k l m n) (j2w a b c d e f g h i j k l m n):=by
 unfold j2w
 with_reducible repeat' (first | exact oR _ | exact oN _ | exact j3T N _ _ _ | apply oC | apply oS | refine oB ?_ ?_ | intro _)
theorem jjq (N a b c d e f g h i j k l m n):OLe (@j5i (j0d N) a b c d e f g h i j k l m n) (j5i a b c d e f g h i j k l m n):=OLe.loop N _ fun _=>jf7 N _ _ _ _ _ _ _ _ _ _ _ _ _ _
theorem jmk (N a b c):OLe (@j23 (j0d N) a b c) (j23 a b c):=by
 unfold j23
 with_reducible repeat' (first | exact oR _ | exact oN _ | exact j3T N _ _ _ | exact jjo N _ _ | exact jjp N _ _ _ _ _ _ _ _ _ _ _ _ _ _ | exact jjq N _ _ _ _ _ _ _ _ _ _ _ _ _ _ | apply oC | apply oS | refine oB ?_ ?_ | intro _)
theorem jml (N a b c d):OLe (@j5p (j0d N) a b c d) (j5p a b c d):=OLe.loop N _ fun _=>oR _
theorem jg3 (N a):OLe (@j7c (j0d N) a) (j7c a):=by
 unfold j7c
 with_reducible repeat' (first | exact oR _ | exact oN _ | exact jml N _ _ _ _ | apply oC | apply oS | refine oB ?_ ?_ | intro _)
theorem jbX (N a b c d e f g h i j k l m n o p q r s t u v):OLe (@j1n (j0d N) a b c d e f g h i j k l m n o p q r s t u v) (j1n a b c d e f g h i j k l m n o p q r s t u v):=by
 unfold j1n
 with_reducible repeat' (first | exact oR _ | exact oN _ | exact jmk N _ _ _ | exact j3T N _ _ _ | apply oC | apply oS | refine oB ?_ ?_ | intro _)
theorem jf8 (N a b c d e f g h i j k l m n o p q r s t u v):OLe (@j2x (j0d N) a b c d e f g h i j k l m n o p q r s t u v) (j2x a b c d e f g h i j k l m n o p q r s t u v):=OLe.loop N _ fun _=>jbX N _ _ _ _ _ _ _ _ _ _ _ _ _ _ _ _ _ _ _ _ _ _
theorem jbY (N a b c d e f g h i j k l m n o p q r s t):OLe (@j13 (j0d N) a b c d e f g h i j k l m n o p q r s t) (j13 a b c d e f g h i j k l m n o p q r s t):=by
 unfold j13
 with_reducible repeat' (first | exact oR _ | exact oN _ | exact jf8 N _ _ _ _ _ _ _ _ _ _ _ _ _ _ _ _ _ _ _ _ _ _ | apply oC | apply oS | refine oB ?_ ?_ | intro _)
theorem jf9 (N a b c d e f g h i j k l m n o p q r s t):OLe (@j2y (j0d N) a b c d e f g h i j k l m n o p q r s t) (j2y a b c d e f g h i j k l m n o p q r s t):=OLe.loop N _ fun _=>jbY N _ _ _ _ _ _ _ _ _ _ _ _ _ _ _ _ _ _ _ _
theorem jhA (N a b c d):OLe (@j1S (j0d N) a b c d) (j1S a b c d):=by
 unfold j1S
 with_reducible repeat' (first | exact oR _ | exact oN _ | exact jkI N _ _ _ _ | exact jf9 N _ _ _ _ _ _ _ _ _ _ _ _ _ _ _ _ _ _ _ _ | exact jg3 N _ | apply oC | apply oS | refine oB ?_ ?_ | intro _)
theorem jkJ (N a b c d e):OLe (@j4Z (j0d N) a b c d e) (j4Z a b c d e):=OLe.loop N _ fun _=>oR _
theorem jnS (N a b):OLe (@j4P (j0d N) a b) (j4P a b):=by
 unfold j4P
 with_reducible repeat' (first | exact oR _ | exact oN _ | exact jkJ N _ _ _ _ _ | exact ja0 N _ | apply oC | apply oS | refine oB ?_ ?_ | intro _)
theorem jjr (N a b c d e f g h i j k l m n):OLe (@j2R (j0d N) a b c d e f g h i j k l m n) (j2R a b c d e f g h i j k l m n):=OLe.loop N _ fun _=>oR _
theorem jfa (N a b c d e f g h):OLe (@j1Y (j0d N) a b c d e f g h) (j1Y a b c d e f g h):=by
 unfold j1Y
 with_reducible repeat' (first | exact oR _ | exact oN _ | exact jnS N _ _ | exact jdv N _ _ | exact jjr N _ _ _ _ _ _ _ _ _ _ _ _ _ _ | apply oC | apply oS | refine oB ?_ ?_ | intro _)
theorem jjs (N a b c d e f g h):OLe (@j3D (j0d N) a b c d e f g h) (j3D a b c d e f g h):=OLe.loop N _ fun _=>jfa N _ _ _ _ _ _ _ _
theorem jmm (N a b):OLe (@j5q (j0d N) a b) (j5q a b):=by
 unfold j5q
 with_reducible repeat' (first | exact oR _ | exact oN _ | exact jjs N _ _ _ _ _ _ _ _ | apply oC | apply oS | refine oB ?_ ?_ | intro _)
theorem jkK (N a b c d e):OLe (@j3l (j0d N) a b c d e) (j3l a b c d e):=OLe.loop N _ fun _=>oR _
theorem jnT (N a b):OLe (@j7A (j0d N) a b) (j7A a b):=by
 unfold j7A
 with_reducible repeat' (first | exact oR _ | exact oN _ | exact jkK N _ _ _ _ _ | apply oC | apply oS | refine oB ?_ ?_ | intro _)
theorem jlz (N a b c d):OLe (@j5K (j0d N) a b c d) (j5K a b c d):=OLe.loop N _ fun _=>oR _
theorem joF (N a):OLe (@j7B (j0d N) a) (j7B a):=by
 unfold j7B
 with_reducible repeat' (first | exact oR _ | exact oN _ | exact jlz N _ _ _ _ | exact ja0 N _ | apply oC | apply oS | refine oB ?_ ?_ | intro _)
theorem jdw (N a b c d e f g h i j k l m n):OLe (@j1f (j0d N) a b c d e f g h i j k l m n) (j1f a b c d e f g h i j k l m n):=by
 unfold j1f
 with_reducible repeat' (first | exact oR _ | exact oN _ | exact jhA N _ _ _ _ | exact jmm N _ _ | exact jnT N _ _ | exact joF N _ | exact jdv N _ _ | apply oC | apply oS | refine oB ?_ ?_ | intro _)
theorem jgE (N a b c d e f g h i j k l m n):OLe (@j31 (j0d N) a b c d e f g h i j k l m n) (j31 a b c d e f g h i j k l m n):=OLe.loop N _ fun _=>jdw N _ _ _ _ _ _ _ _ _ _ _ _ _ _
theorem jgF (N a b c d):OLe (@j32 (j0d N) a b c d) (j32 a b c d):=OLe.loop N _ fun _=>oR _
theorem jjt (N a b c d):OLe (@j2S (j0d N) a b c d) (j2S a b c d):=by
 unfold j2S
 with_reducible repeat' (first | exact oR _ | exact oN _ | exact jgE N _ _ _ _ _ _ _ _ _ _ _ _ _ _ | exact jgF N _ _ _ _ | exact jg3 N _ | apply oC | apply oS | refine oB ?_ ?_ | intro _)
theorem ja1 (N a b c d e):OLe (@j1g (j0d N) a b c d e) (j1g a b c d e):=OLe.loop N _ fun _=>oR _
theorem jbu (N a b):OLe (@j0i (j0d N) a b) (j0i a b):=by
 unfold j0i
 with_reducible repeat' (first | exact oR _ | exact oN _ | exact ja1 N _ _ _ _ _ | apply oC | apply oS | refine oB ?_ ?_ | intro _)
theorem jnU (N a b c d e):OLe (@j7C (j0d N) a b c d e) (j7C a b c d e):=OLe.loop N _ fun _=>oR _
theorem jsv (N a b c):OLe (@jb2 (j0d N) a b c) (jb2 a b c):=by
 unfold jb2
 with_reducible repeat' (first | exact oR _ | exact oN _ | exact jnU N _ _ _ _ _ | apply oC | apply oS | refine oB ?_ ?_ | intro _)
theorem jhB (N a b c d e f g h i j k l m n):OLe (@j3n (j0d N) a b c d e f g h i j k l m n) (j3n a b c d e f g h i j k l m n):=OLe.loop N _ fun _=>oR _
theorem jdG (N a b c d e f g h i j k l m):OLe (@j1t (j0d N) a b c d e f g h i j k l m) (j1t a b c d e f g h i j k l m):=by
 unfold j1t
 with_reducible repeat' (first | exact oR _ | exact oN _ | exact jsv N _ _ _ | apply oC | apply oS | refine oB ?_ ?_ | intro _)
theorem jhC (N a b c d e f g h i j k l m):OLe (@j4i (j0d N) a b c d e f g h i j k l m) (j4i a b c d e f g h i j k l m):=OLe.loop N _ fun _=>jdG N _ _ _ _ _ _ _ _ _ _ _ _ _
theorem jdH (N a b c d e f g h):OLe (@j1u (j0d N) a b c d e f g h) (j1u a b c d e f g h):=by
 unfold j1u
 with_reducible repeat' (first | exact oR _ | exact oN _ | exact jbu N _ _ | exact jhC N _ _ _ _ _ _ _ _ _ _ _ _ _ | apply oC | apply oS | refine oB ?_ ?_ | intro _)
theorem jhD (N a b c d e f g h):OLe (@j3o (j0d N) a b c d e f g h) (j3o a b c d e f g h):=OLe.loop N _ fun _=>jdH N _ _ _ _ _ _ _ _
theorem je1 (N a b c d):OLe (@j3p (j0d N) a b c d) (j3p a b c d):=by
 unfold j3p
 with_reducible repeat' (first | exact oR _ | exact oN _ | exact jhB N _ _ _ _ _ _ _ _ _ _ _ _ _ _ | exact jsu N _ _ _ | exact jjt N _ _ _ _ | exact jhD N _ _ _ _ _ _ _ _ | exact jg3 N _ | apply oC | apply oS | refine oB ?_ ?_ | intro _)
theorem jkL (N a b c d e f g h i j k l m):OLe (@j3q (j0d N) a b c d e f g h i j k l m) (j3q a b c d e f g h i j k l m):=OLe.loop N _ fun _=>oR _
theorem jg4 (N a b c d e f g h i j):OLe (@j1H (j0d N) a b c d e f g h i j) (j1H a b c d e f g h i j):=by
 unfold j1H
 with_reducible repeat' (first | exact oR _ | exact oN _ | exact je1 N _ _ _ _ | exact jkL N _ _ _ _ _ _ _ _ _ _ _ _ _ | apply oC | apply oS | refine oB ?_ ?_ | intro _)
theorem jkM (N a b c d e f g h i j):OLe (@j51 (j0d N) a b c d e f g h i j) (j51 a b c d e f g h i j):=OLe.loop N _ fun _=>jg4 N _ _ _ _ _ _ _ _ _ _
theorem jnV (N a b c d):OLe (@j9l (j0d N) a b c d) (j9l a b c d):=by
 unfold j9l
 with_reducible repeat' (first | exact oR _ | exact oN _ | exact jkM N _ _ _ _ _ _ _ _ _ _ | apply oC | apply oS | refine oB ?_ ?_ | intro _)
theorem jju (N a b c):OLe (@j1I (j0d N) a b c) (j1I a b c):=by
 unfold j1I
 with_reducible repeat' (first | exact oR _ | exact oN _ | exact jiv N _ _ _ _ | exact jdu N _ _ | exact jnV N _ _ _ _ | apply oC | apply oS | refine oB ?_ ?_ | intro _)
theorem jkN (N a b c d):OLe (@j7D (j0d N) a b c d) (j7D a b c d):=by
 unfold j7D
 with_reducible repeat' (first | exact oR _ | exact oN _ | exact jiv N _ _ _ _ | exact je1 N _ _ _ _ | apply oC | apply oS | refine oB ?_ ?_ | intro _)
theorem jif (N a b c d e):OLe (@jay (j0d N) a b c d e) (jay a b c d e):=OLe.loop N _ fun _=>oR _
theorem jlA (N a b):OLe (@j8L (j0d N) a b) (j8L a b):=by
 unfold j8L
 with_reducible repeat' (first | exact oR _ | exact oN _ | exact jif N _ _ _ _ _ | exact ja0 N _ | apply oC | apply oS | refine oB ?_ ?_ | intro _)
theorem jnW (N a b c d e):OLe (@jb6 (j0d N) a b c d e) (jb6 a b c d e):=by
 unfold jb6
 with_reducible repeat' (first | exact oR _ | exact oN _ | exact jkN N _ _ _ _ | exact jlA N _ _ | apply oC | apply oS | refine oB ?_ ?_ | intro _)
theorem jgl (N a b c d):OLe (@j87 (j0d N) a b c d) (j87 a b c d):=by
 unfold j87
 with_reducible repeat' (first | exact oR _ | exact oN _ | exact jnW N _ _ _ _ _ | apply oC | apply oS | refine oB ?_ ?_ | intro _)
theorem jjv (N a b c d):OLe (@j6Q (j0d N) a b c d) (j6Q a b c d):=by
 unfold j6Q
 with_reducible repeat' (first | exact oR _ | exact oN _ | exact jgl N _ _ _ _ | apply oC | apply oS | refine oB ?_ ?_ | intro _)
theorem jjw (N a b):OLe (@j2T (j0d N) a b) (j2T a b):=by
 unfold j2T
 with_reducible repeat' (first | exact oR _ | exact oN _ | exact jpe N _ | exact jdu N _ _ | apply oC | apply oS | refine oB ?_ ?_ | intro _)
theorem jqG (N):OLe (@j88 (j0d N) ) (j88 ):=by
 unfold j88
 with_reducible repeat' (first | exact oR _ | exact oN _ | exact jju N _ _ _ | exact jgl N _ _ _ _ | exact jjv N _ _ _ _ | exact jjw N _ _ | apply oC | apply oS | refine oB ?_ ?_ | intro _)
abbrev jqH (N:Nat):=@j0Q (j0d N)
end
end Go.Proofs.Pw
