/- Twins with a bound on their rounds, printed by a program. -/
import Derived.Test.YthpdddnkpjnllaaGreatDFns
import Derived.Test.YthpdddnkpjnllaaGreatDLD
open Go Go.Lft
set_option linter.unusedVariables false
set_option maxRecDepth 100000
namespace Go.Proofs.Pw
noncomputable section
theorem jmj (N a b c):OLe (@j6m (j0d N) a b c) (j6m a b c):=OLe.loop N _ fun _=>oR _
theorem j9K (N a):OLe (@j73 (j0d N) a) (j73 a):=by
 unfold j73
 with_reducible repeat' (first | exact oR _ | exact oN _ | exact jmj N _ _ _ | apply oC | apply oS | refine oB ?_ ?_ | intro _)
theorem j7S (N a b):OLe (@j3Q (j0d N) a b) (j3Q a b):=by
 unfold j3Q
 with_reducible repeat' (first | exact oR _ | exact oN _ | exact j9K N _ | apply oC | apply oS | refine oB ?_ ?_ | intro _)
theorem jkx (N a b c d e):OLe (@j5V (j0d N) a b c d e) (j5V a b c d e):=OLe.loop N _ fun _=>oR _
theorem jnV (N a):OLe (@j7p (j0d N) a) (j7p a):=by
 unfold j7p
 with_reducible repeat' (first | exact oR _ | exact oN _ | exact jkx N _ _ _ _ _ | apply oC | apply oS | refine oB ?_ ?_ | intro _)
theorem jsw (N a b c d):OLe (@jcs (j0d N) a b c d) (jcs a b c d):=by
 unfold jcs
 with_reducible repeat' (first | exact oR _ | exact oN _ | exact jnV N _ | apply oC | apply oS | refine oB ?_ ?_ | intro _)
theorem j4Z (N a b c d e):OLe (@j0k (j0d N) a b c d e) (j0k a b c d e):=OLe.loop N _ fun _=>oR _
theorem j4u (N a b c d):OLe (@j09 (j0d N) a b c d) (j09 a b c d):=by
 unfold j09
 with_reducible repeat' (first | exact oR _ | exact oN _ | exact j4Z N _ _ _ _ _ | apply oC | apply oS | refine oB ?_ ?_ | intro _)
theorem j50 (N a b c d):OLe (@j0l (j0d N) a b c d) (j0l a b c d):=OLe.loop N _ fun _=>j4u N _ _ _ _
theorem j2O (N a b c):OLe (@j0e (j0d N) a b c) (j0e a b c):=by
 unfold j0e
 with_reducible repeat' (first | exact oR _ | exact oN _ | exact j50 N _ _ _ _ | apply oC | apply oS | refine oB ?_ ?_ | intro _)
theorem j5G (N a b c d e):OLe (@j0f (j0d N) a b c d e) (j0f a b c d e):=by
 unfold j0f
 with_reducible repeat' (first | exact oR _ | exact oN _ | exact j2O N _ _ _ | apply oC | apply oS | refine oB ?_ ?_ | intro _)
theorem j6Z (N a b c d e):OLe (@j0B (j0d N) a b c d e) (j0B a b c d e):=OLe.loop N _ fun _=>j5G N _ _ _ _ _
theorem j70 (N a b c d e):OLe (@j2n (j0d N) a b c d e) (j2n a b c d e):=OLe.loop N _ fun _=>oR _
theorem j5H (N a b c):OLe (@j0g (j0d N) a b c) (j0g a b c):=by
 unfold j0g
 with_reducible repeat' (first | exact oR _ | exact oN _ | exact j70 N _ _ _ _ _ | apply oC | apply oS | refine oB ?_ ?_ | intro _)
theorem j71 (N a b c):OLe (@j0C (j0d N) a b c) (j0C a b c):=OLe.loop N _ fun _=>j5H N _ _ _
theorem j7T (N a b):OLe (@j0P (j0d N) a b) (j0P a b):=by
 unfold j0P
 with_reducible repeat' (first | exact oR _ | exact oN _ | exact j6Z N _ _ _ _ _ | exact j2O N _ _ _ | exact j71 N _ _ _ | apply oC | apply oS | refine oB ?_ ?_ | intro _)
theorem j47 (N a):OLe (@j0c (j0d N) a) (j0c a):=by
 unfold j0c
 with_reducible repeat' (first | exact oR _ | exact oN _ | exact j7T N _ _ | apply oC | apply oS | refine oB ?_ ?_ | intro _)
theorem jgl (N a b c d e f g):OLe (@j2P (j0d N) a b c d e f g) (j2P a b c d e f g):=OLe.loop N _ fun _=>oR _
theorem jdd (N a b c d e f g h i j k l):OLe (@j18 (j0d N) a b c d e f g h i j k l) (j18 a b c d e f g h i j k l):=by
 unfold j18
 with_reducible repeat' (first | exact oR _ | exact oN _ | exact jsw N _ _ _ _ | apply oC | apply oS | refine oB ?_ ?_ | intro _)
theorem jgm (N a b c d e f g h i j k l):OLe (@j3y (j0d N) a b c d e f g h i j k l) (j3y a b c d e f g h i j k l):=OLe.loop N _ fun _=>jdd N _ _ _ _ _ _ _ _ _ _ _ _
theorem jde (N a b c d):OLe (@j19 (j0d N) a b c d) (j19 a b c d):=by
 unfold j19
 with_reducible repeat' (first | exact oR _ | exact oN _ | exact jgm N _ _ _ _ _ _ _ _ _ _ _ _ | apply oC | apply oS | refine oB ?_ ?_ | intro _)
theorem jgn (N a b c d):OLe (@j2Q (j0d N) a b c d) (j2Q a b c d):=OLe.loop N _ fun _=>jde N _ _ _ _
theorem jjh (N a):OLe (@j4e (j0d N) a) (j4e a):=by
 unfold j4e
 with_reducible repeat' (first | exact oR _ | exact oN _ | exact jgl N _ _ _ _ _ _ _ | exact jgn N _ _ _ _ | exact j47 N _ | apply oC | apply oS | refine oB ?_ ?_ | intro _)
theorem jgo (N a b c d e):OLe (@j2R (j0d N) a b c d e) (j2R a b c d e):=OLe.loop N _ fun _=>oR _
theorem jdf (N a):OLe (@j2u (j0d N) a) (j2u a):=by
 unfold j2u
 with_reducible repeat' (first | exact oR _ | exact oN _ | exact jjh N _ | exact jgo N _ _ _ _ _ | apply oC | apply oS | refine oB ?_ ?_ | intro _)
theorem jqI (N a):OLe (@j98 (j0d N) a) (j98 a):=by
 unfold j98
 with_reducible repeat' (first | exact oR _ | exact oN _ | exact jdf N _ | apply oC | apply oS | refine oB ?_ ?_ | intro _)
theorem j5w (N a b c):OLe (@j0n (j0d N) a b c) (j0n a b c):=OLe.loop N _ fun _=>oR _
theorem j6f (N a):OLe (@j0w (j0d N) a) (j0w a):=by
 unfold j0w
 with_reducible repeat' (first | exact oR _ | exact oN _ | exact j5w N _ _ _ | apply oC | apply oS | refine oB ?_ ?_ | intro _)
theorem j5x (N a):OLe (@j0o (j0d N) a) (j0o a):=by
 unfold j0o
 with_reducible repeat' (first | exact oR _ | exact oN _ | exact j6f N _ | apply oC | apply oS | refine oB ?_ ?_ | intro _)
theorem ji4 (N a):OLe (@j30 (j0d N) a) (j30 a):=by
 unfold j30
 with_reducible repeat' (first | exact oR _ | exact oN _ | exact jqI N _ | exact j5x N _ | apply oC | apply oS | refine oB ?_ ?_ | intro _)
theorem j9L (N a b c d):OLe (@j0G (j0d N) a b c d) (j0G a b c d):=by
 unfold j0G
 with_reducible repeat' (first | exact oR _ | exact oN _ | exact j7S N _ _ | exact ji4 N _ | apply oC | apply oS | refine oB ?_ ?_ | intro _)
theorem jcb (N a b c d):OLe (@j1v (j0d N) a b c d) (j1v a b c d):=OLe.loop N _ fun _=>j9L N _ _ _ _
theorem jep (N a):OLe (@j2a (j0d N) a) (j2a a):=by
 unfold j2a
 with_reducible repeat' (first | exact oR _ | exact oN _ | exact jcb N _ _ _ _ | apply oC | apply oS | refine oB ?_ ?_ | intro _)
theorem jmk (N a b c d):OLe (@j7V (j0d N) a b c d) (j7V a b c d):=OLe.loop N _ fun _=>oR _
theorem jky (N a):OLe (@j99 (j0d N) a) (j99 a):=by
 unfold j99
 with_reducible repeat' (first | exact oR _ | exact oN _ | exact jmk N _ _ _ _ | apply oC | apply oS | refine oB ?_ ?_ | intro _)
theorem jgp (N a b):OLe (@j1W (j0d N) a b) (j1W a b):=by
 unfold j1W
 with_reducible repeat' (first | exact oR _ | exact oN _ | exact jky N _ | apply oC | apply oS | refine oB ?_ ?_ | intro _)
theorem jml (N a b):OLe (@jfg (j0d N) a b) (jfg a b):=OLe.loop N _ fun _=>oR _
theorem jqJ (N a):OLe (@jeI (j0d N) a) (jeI a):=by
 unfold jeI
 with_reducible repeat' (first | exact oR _ | exact oN _ | exact jml N _ _ | apply oC | apply oS | refine oB ?_ ?_ | intro _)
theorem jkz (N a b c d e f g):OLe (@jct (j0d N) a b c d e f g) (jct a b c d e f g):=OLe.loop N _ fun _=>oR _
theorem jnW (N a):OLe (@j5a (j0d N) a) (j5a a):=by
 unfold j5a
 with_reducible repeat' (first | exact oR _ | exact oN _ | exact jqJ N _ | exact jkz N _ _ _ _ _ _ _ | apply oC | apply oS | refine oB ?_ ?_ | intro _)
theorem jaJ (N a):OLe (@j0W (j0d N) a) (j0W a):=by
 unfold j0W
 with_reducible repeat' (first | exact oR _ | exact oN _ | exact jnW N _ | apply oC | apply oS | refine oB ?_ ?_ | intro _)
theorem jdg (N a):OLe (@j2f (j0d N) a) (j2f a):=by
 unfold j2f
 with_reducible repeat' (first | exact oR _ | exact oN _ | exact jaJ N _ | apply oC | apply oS | refine oB ?_ ?_ | intro _)
theorem j95 (N a b c):OLe (@j0y (j0d N) a b c) (j0y a b c):=by
 unfold j0y
 with_reducible repeat' (first | exact oR _ | exact oN _ | exact jdg N _ | apply oC | apply oS | refine oB ?_ ?_ | intro _)
theorem jbf (N a b c):OLe (@j1G (j0d N) a b c) (j1G a b c):=OLe.loop N _ fun _=>j95 N _ _ _
theorem jdh (N a):OLe (@j2g (j0d N) a) (j2g a):=by
 unfold j2g
 with_reducible repeat' (first | exact oR _ | exact oN _ | exact jbf N _ _ _ | apply oC | apply oS | refine oB ?_ ?_ | intro _)
theorem jbg (N a):OLe (@j1H (j0d N) a) (j1H a):=by
 unfold j1H
 with_reducible repeat' (first | exact oR _ | exact oN _ | exact jdh N _ | apply oC | apply oS | refine oB ?_ ?_ | intro _)
theorem jdi (N a b c d e):OLe (@j2h (j0d N) a b c d e) (j2h a b c d e):=OLe.loop N _ fun _=>oR _
theorem jeY (N a b):OLe (@j1P (j0d N) a b) (j1P a b):=by
 unfold j1P
 with_reducible repeat' (first | exact oR _ | exact oN _ | exact jbg N _ | exact jdi N _ _ _ _ _ | apply oC | apply oS | refine oB ?_ ?_ | intro _)
theorem jji (N a b c d e):OLe (@j52 (j0d N) a b c d e) (j52 a b c d e):=by
 unfold j52
 with_reducible repeat' (first | exact oR _ | exact oN _ | exact jeY N _ _ | apply oC | apply oS | refine oB ?_ ?_ | intro _)
theorem j8t (N a b c d e f g h):OLe (@j0u (j0d N) a b c d e f g h) (j0u a b c d e f g h):=by
 unfold j0u
 with_reducible repeat' (first | exact oR _ | exact oN _ | exact j7S N _ _ | exact jji N _ _ _ _ _ | apply oC | apply oS | refine oB ?_ ?_ | intro _)
theorem j9U (N a b c d e f g h):OLe (@j10 (j0d N) a b c d e f g h) (j10 a b c d e f g h):=OLe.loop N _ fun _=>j8t N _ _ _ _ _ _ _ _
theorem jbK (N a b c d e):OLe (@j1i (j0d N) a b c d e) (j1i a b c d e):=by
 unfold j1i
 with_reducible repeat' (first | exact oR _ | exact oN _ | exact j9U N _ _ _ _ _ _ _ _ | apply oC | apply oS | refine oB ?_ ?_ | intro _)
theorem j9M (N a b c d e f g):OLe (@j1a (j0d N) a b c d e f g) (j1a a b c d e f g):=OLe.loop N _ fun _=>oR _
theorem jbh (N a b c d e):OLe (@j1I (j0d N) a b c d e) (j1I a b c d e):=by
 unfold j1I
 with_reducible repeat' (first | exact oR _ | exact oN _ | exact j9M N _ _ _ _ _ _ _ | apply oC | apply oS | refine oB ?_ ?_ | intro _)
theorem j9N (N a b c d e):OLe (@j1b (j0d N) a b c d e) (j1b a b c d e):=by
 unfold j1b
 with_reducible repeat' (first | exact oR _ | exact oN _ | exact jbh N _ _ _ _ _ | apply oC | apply oS | refine oB ?_ ?_ | intro _)
theorem jht (N a b):OLe (@j2G (j0d N) a b) (j2G a b):=by
 unfold j2G
 with_reducible repeat' (first | exact oR _ | exact oN _ | exact jaJ N _ | exact j9N N _ _ _ _ _ | exact jky N _ | apply oC | apply oS | refine oB ?_ ?_ | intro _)
theorem jdj (N a b c d e):OLe (@j2i (j0d N) a b c d e) (j2i a b c d e):=by
 unfold j2i
 with_reducible repeat' (first | exact oR _ | exact oN _ | exact jht N _ _ | apply oC | apply oS | refine oB ?_ ?_ | intro _)
theorem j9g (N a b c d e f g h):OLe (@j0D (j0d N) a b c d e f g h) (j0D a b c d e f g h):=by
 unfold j0D
 with_reducible repeat' (first | exact oR _ | exact oN _ | exact j7S N _ _ | exact jdj N _ _ _ _ _ | apply oC | apply oS | refine oB ?_ ?_ | intro _)
theorem jbL (N a b c d e f g h):OLe (@j1j (j0d N) a b c d e f g h) (j1j a b c d e f g h):=OLe.loop N _ fun _=>j9g N _ _ _ _ _ _ _ _
theorem jdz (N a b c d e):OLe (@j1X (j0d N) a b c d e) (j1X a b c d e):=by
 unfold j1X
 with_reducible repeat' (first | exact oR _ | exact oN _ | exact jbL N _ _ _ _ _ _ _ _ | apply oC | apply oS | refine oB ?_ ?_ | intro _)
theorem ji5 (N a b):OLe (@j31 (j0d N) a b) (j31 a b):=by
 unfold j31
 with_reducible repeat' (first | exact oR _ | exact oN _ | exact jaJ N _ | apply oC | apply oS | refine oB ?_ ?_ | intro _)
theorem j9V (N a b c d e f g):OLe (@j0M (j0d N) a b c d e f g) (j0M a b c d e f g):=by
 unfold j0M
 with_reducible repeat' (first | exact oR _ | exact oN _ | exact ji5 N _ _ | apply oC | apply oS | refine oB ?_ ?_ | intro _)
theorem jdk (N a b c d e f g):OLe (@j2j (j0d N) a b c d e f g) (j2j a b c d e f g):=OLe.loop N _ fun _=>j9V N _ _ _ _ _ _ _
theorem jeZ (N a b):OLe (@j1Q (j0d N) a b) (j1Q a b):=by
 unfold j1Q
 with_reducible repeat' (first | exact oR _ | exact oN _ | exact jdz N _ _ _ _ _ | exact jdk N _ _ _ _ _ _ _ | apply oC | apply oS | refine oB ?_ ?_ | intro _)
theorem jjj (N a b c d e):OLe (@j53 (j0d N) a b c d e) (j53 a b c d e):=by
 unfold j53
 with_reducible repeat' (first | exact oR _ | exact oN _ | exact jeZ N _ _ | apply oC | apply oS | refine oB ?_ ?_ | intro _)
theorem j8u (N a b c d e f g h):OLe (@j0v (j0d N) a b c d e f g h) (j0v a b c d e f g h):=by
 unfold j0v
 with_reducible repeat' (first | exact oR _ | exact oN _ | exact j7S N _ _ | exact jjj N _ _ _ _ _ | apply oC | apply oS | refine oB ?_ ?_ | intro _)
theorem j9W (N a b c d e f g h):OLe (@j11 (j0d N) a b c d e f g h) (j11 a b c d e f g h):=OLe.loop N _ fun _=>j8u N _ _ _ _ _ _ _ _
theorem jbM (N a b c d e):OLe (@j1V (j0d N) a b c d e) (j1V a b c d e):=by
 unfold j1V
 with_reducible repeat' (first | exact oR _ | exact oN _ | exact j9W N _ _ _ _ _ _ _ _ | apply oC | apply oS | refine oB ?_ ?_ | intro _)
theorem jf0 (N a b c d e f g h):OLe (@j1R (j0d N) a b c d e f g h) (j1R a b c d e f g h):=by
 unfold j1R
 with_reducible repeat' (first | exact oR _ | exact oN _ | exact j7S N _ _ | exact jgp N _ _ | apply oC | apply oS | refine oB ?_ ?_ | intro _)
theorem jjk (N a b c d e f g h):OLe (@j4f (j0d N) a b c d e f g h) (j4f a b c d e f g h):=OLe.loop N _ fun _=>jf0 N _ _ _ _ _ _ _ _
theorem jmm (N a):OLe (@j5c (j0d N) a) (j5c a):=by
 unfold j5c
 with_reducible repeat' (first | exact oR _ | exact oN _ | exact jep N _ | exact jjk N _ _ _ _ _ _ _ _ | exact jbK N _ _ _ _ _ | exact jbM N _ _ _ _ _ | apply oC | apply oS | refine oB ?_ ?_ | intro _)
theorem jwd (N a):OLe (@jgN (j0d N) a) (jgN a):=by
 unfold jgN
 with_reducible repeat' (first | exact oR _ | exact oN _ | exact jdf N _ | apply oC | apply oS | refine oB ?_ ?_ | intro _)
theorem jgq (N a b c d):OLe (@j2o (j0d N) a b c d) (j2o a b c d):=by
 unfold j2o
 with_reducible repeat' (first | exact oR _ | exact oN _ | exact jwd N _ | apply oC | apply oS | refine oB ?_ ?_ | intro _)
theorem jlv (N a b c d):OLe (@j5z (j0d N) a b c d) (j5z a b c d):=OLe.loop N _ fun _=>jgq N _ _ _ _
theorem joH (N a):OLe (@jag (j0d N) a) (jag a):=by
 unfold jag
 with_reducible repeat' (first | exact oR _ | exact oN _ | exact jlv N _ _ _ _ | apply oC | apply oS | refine oB ?_ ?_ | intro _)
theorem jsx (N a):OLe (@jcv (j0d N) a) (jcv a):=by
 unfold jcv
 with_reducible repeat' (first | exact oR _ | exact oN _ | exact joH N _ | apply oC | apply oS | refine oB ?_ ?_ | intro _)
theorem jpj (N a):OLe (@jfh (j0d N) a) (jfh a):=by
 unfold jfh
 with_reducible repeat' (first | exact oR _ | exact oN _ | exact jmm N _ | exact jsx N _ | apply oC | apply oS | refine oB ?_ ?_ | intro _)
theorem jio (N a b c d):OLe (@j6o (j0d N) a b c d) (j6o a b c d):=by
 unfold j6o
 with_reducible repeat' (first | exact oR _ | exact oN _ | exact jpj N _ | apply oC | apply oS | refine oB ?_ ?_ | intro _)
theorem jlw (N a b c d e):OLe (@j74 (j0d N) a b c d e) (j74 a b c d e):=OLe.loop N _ fun _=>oR _
theorem joI (N a b c d):OLe (@jai (j0d N) a b c d) (jai a b c d):=by
 unfold jai
 with_reducible repeat' (first | exact oR _ | exact oN _ | exact jlw N _ _ _ _ _ | apply oC | apply oS | refine oB ?_ ?_ | intro _)
theorem jdl (N a b):OLe (@j3r (j0d N) a b) (j3r a b):=by
 unfold j3r
 with_reducible repeat' (first | exact oR _ | exact oN _ | exact joI N _ _ _ _ | apply oC | apply oS | refine oB ?_ ?_ | intro _)
theorem jcc (N a b c d e):OLe (@j0q (j0d N) a b c d e) (j0q a b c d e):=by
 unfold j0q
 with_reducible repeat' (first | exact oR _ | exact oN _ | exact jdl N _ _ | apply oC | apply oS | refine oB ?_ ?_ | intro _)
theorem jfR (N a b c d e):OLe (@j25 (j0d N) a b c d e) (j25 a b c d e):=OLe.loop N _ fun _=>jcc N _ _ _ _ _
theorem j8v (N a b c):OLe (@j1m (j0d N) a b c) (j1m a b c):=by
 unfold j1m
 with_reducible repeat' (first | exact oR _ | exact oN _ | exact jfR N _ _ _ _ _ | apply oC | apply oS | refine oB ?_ ?_ | intro _)
theorem jgr (N a b c d e):OLe (@j2S (j0d N) a b c d e) (j2S a b c d e):=OLe.loop N _ fun _=>oR _
theorem jdm (N a b):OLe (@j1n (j0d N) a b) (j1n a b):=by
 unfold j1n
 with_reducible repeat' (first | exact oR _ | exact oN _ | exact j8v N _ _ _ | exact jgr N _ _ _ _ _ | apply oC | apply oS | refine oB ?_ ?_ | intro _)
theorem j3J (N a b c):OLe (@j0E (j0d N) a b c) (j0E a b c):=by
 unfold j0E
 with_reducible repeat' (first | exact oR _ | exact oN _ | exact jdm N _ _ | apply oC | apply oS | refine oB ?_ ?_ | intro _)
theorem jgs (N a b c d e f g h i j k l):OLe (@j8U (j0d N) a b c d e f g h i j k l) (j8U a b c d e f g h i j k l):=OLe.loop N _ fun _=>oR _
theorem jdn (N a b c d e f g h i):OLe (@j32 (j0d N) a b c d e f g h i) (j32 a b c d e f g h i):=by
 unfold j32
 with_reducible repeat' (first | exact oR _ | exact oN _ | exact j3J N _ _ _ | exact jdm N _ _ | apply oC | apply oS | refine oB ?_ ?_ | intro _)
theorem jgt (N a b c d e f g h i):OLe (@j8V (j0d N) a b c d e f g h i) (j8V a b c d e f g h i):=OLe.loop N _ fun _=>jdn N _ _ _ _ _ _ _ _ _
theorem jdo (N a b):OLe (@j54 (j0d N) a b) (j54 a b):=by
 unfold j54
 with_reducible repeat' (first | exact oR _ | exact oN _ | exact jgs N _ _ _ _ _ _ _ _ _ _ _ _ | exact jgt N _ _ _ _ _ _ _ _ _ | apply oC | apply oS | refine oB ?_ ?_ | intro _)
theorem j9O (N a b c d e):OLe (@j0X (j0d N) a b c d e) (j0X a b c d e):=OLe.loop N _ fun _=>oR _
theorem jbi (N a b c):OLe (@j1K (j0d N) a b c) (j1K a b c):=by
 unfold j1K
 with_reducible repeat' (first | exact oR _ | exact oN _ | exact j9O N _ _ _ _ _ | apply oC | apply oS | refine oB ?_ ?_ | intro _)
theorem jaA (N a b c d e):OLe (@j1B (j0d N) a b c d e) (j1B a b c d e):=OLe.loop N _ fun _=>oR _
theorem jcd (N a b c):OLe (@j1w (j0d N) a b c) (j1w a b c):=by
 unfold j1w
 with_reducible repeat' (first | exact oR _ | exact oN _ | exact jbi N _ _ _ | exact jaA N _ _ _ _ _ | apply oC | apply oS | refine oB ?_ ?_ | intro _)
theorem j8w (N a b c d e):OLe (@j0T (j0d N) a b c d e) (j0T a b c d e):=OLe.loop N _ fun _=>oR _
theorem j72 (N a b c d):OLe (@j0h (j0d N) a b c d) (j0h a b c d):=by
 unfold j0h
 with_reducible repeat' (first | exact oR _ | exact oN _ | exact j8w N _ _ _ _ _ | apply oC | apply oS | refine oB ?_ ?_ | intro _)
theorem j8x (N a b c d):OLe (@j0U (j0d N) a b c d) (j0U a b c d):=OLe.loop N _ fun _=>j72 N _ _ _ _
theorem j9h (N a b c):OLe (@j0Q (j0d N) a b c) (j0Q a b c):=by
 unfold j0Q
 with_reducible repeat' (first | exact oR _ | exact oN _ | exact j8x N _ _ _ _ | apply oC | apply oS | refine oB ?_ ?_ | intro _)
theorem j8I (N a b c d e f):OLe (@j0J (j0d N) a b c d e f) (j0J a b c d e f):=by
 unfold j0J
 with_reducible repeat' (first | exact oR _ | exact oN _ | exact j9h N _ _ _ | apply oC | apply oS | refine oB ?_ ?_ | intro _)
theorem jaB (N a b c d e f):OLe (@j2d (j0d N) a b c d e f) (j2d a b c d e f):=OLe.loop N _ fun _=>j8I N _ _ _ _ _ _
theorem jce (N a b c d):OLe (@j1x (j0d N) a b c d) (j1x a b c d):=by
 unfold j1x
 with_reducible repeat' (first | exact oR _ | exact oN _ | exact jaB N _ _ _ _ _ _ | apply oC | apply oS | refine oB ?_ ?_ | intro _)
theorem jgu (N a):OLe (@j2T (j0d N) a) (j2T a):=by
 unfold j2T
 with_reducible repeat' (first | exact oR _ | exact oN _ | exact jce N _ _ _ _ | apply oC | apply oS | refine oB ?_ ?_ | intro _)
theorem jcf (N a b c d):OLe (@j1y (j0d N) a b c d) (j1y a b c d):=OLe.loop N _ fun _=>oR _
theorem j9P (N a b):OLe (@j0H (j0d N) a b) (j0H a b):=by
 unfold j0H
 with_reducible repeat' (first | exact oR _ | exact oN _ | exact jcf N _ _ _ _ | apply oC | apply oS | refine oB ?_ ?_ | intro _)
theorem jcg (N a b):OLe (@j0S (j0d N) a b) (j0S a b):=OLe.loop N _ fun _=>j9P N _ _
theorem jeq (N a):OLe (@j2b (j0d N) a) (j2b a):=by
 unfold j2b
 with_reducible repeat' (first | exact oR _ | exact oN _ | exact jcg N _ _ | apply oC | apply oS | refine oB ?_ ?_ | intro _)
theorem jsy (N a b c):OLe (@jcx (j0d N) a b c) (jcx a b c):=by
 unfold jcx
 with_reducible repeat' (first | exact oR _ | exact oN _ | exact jcd N _ _ _ | exact jgu N _ | exact jeq N _ | apply oC | apply oS | refine oB ?_ ?_ | intro _)
theorem j7m (N a b c):OLe (@j0x (j0d N) a b c) (j0x a b c):=OLe.loop N _ fun _=>oR _
theorem j8y (N a):OLe (@j0V (j0d N) a) (j0V a):=by
 unfold j0V
 with_reducible repeat' (first | exact oR _ | exact oN _ | exact j7m N _ _ _ | apply oC | apply oS | refine oB ?_ ?_ | intro _)
theorem j7b (N a b c):OLe (@j0F (j0d N) a b c) (j0F a b c):=OLe.loop N _ fun _=>oR _
theorem j84 (N a):OLe (@j0A (j0d N) a) (j0A a):=by
 unfold j0A
 with_reducible repeat' (first | exact oR _ | exact oN _ | exact j8y N _ | exact j7b N _ _ _ | apply oC | apply oS | refine oB ?_ ?_ | intro _)
theorem jmn (N a b c d):OLe (@j6q (j0d N) a b c d) (j6q a b c d):=OLe.loop N _ fun _=>oR _
theorem j9Q (N a):OLe (@j5Y (j0d N) a) (j5Y a):=by
 unfold j5Y
 with_reducible repeat' (first | exact oR _ | exact oN _ | exact j84 N _ | exact jmn N _ _ _ _ | apply oC | apply oS | refine oB ?_ ?_ | intro _)
theorem jkA (N a b c d e f g h i j k l):OLe (@j5Z (j0d N) a b c d e f g h i j k l) (j5Z a b c d e f g h i j k l):=OLe.loop N _ fun _=>oR _
theorem jfS (N a b c d e f g h i):OLe (@j26 (j0d N) a b c d e f g h i) (j26 a b c d e f g h i):=by
 unfold j26
 with_reducible repeat' (first | exact oR _ | exact oN _ | exact jkA N _ _ _ _ _ _ _ _ _ _ _ _ | apply oC | apply oS | refine oB ?_ ?_ | intro _)
theorem jkB (N a b c d e f g h i):OLe (@j60 (j0d N) a b c d e f g h i) (j60 a b c d e f g h i):=OLe.loop N _ fun _=>jfS N _ _ _ _ _ _ _ _ _
theorem jfT (N a b c d e):OLe (@j27 (j0d N) a b c d e) (j27 a b c d e):=by
 unfold j27
 with_reducible repeat' (first | exact oR _ | exact oN _ | exact jkB N _ _ _ _ _ _ _ _ _ | apply oC | apply oS | refine oB ?_ ?_ | intro _)
theorem jkC (N a b c d e):OLe (@j61 (j0d N) a b c d e) (j61 a b c d e):=OLe.loop N _ fun _=>jfT N _ _ _ _ _
theorem jnX (N a b c d):OLe (@j3S (j0d N) a b c d) (j3S a b c d):=by
 unfold j3S
 with_reducible repeat' (first | exact oR _ | exact oN _ | exact j8v N _ _ _ | exact jkC N _ _ _ _ _ | exact j9Q N _ | apply oC | apply oS | refine oB ?_ ?_ | intro _)
theorem ji6 (N a b c d e f g h i j k l m):OLe (@j3A (j0d N) a b c d e f g h i j k l m) (j3A a b c d e f g h i j k l m):=OLe.loop N _ fun _=>oR _
theorem jer (N a b c d e f g):OLe (@j1E (j0d N) a b c d e f g) (j1E a b c d e f g):=by
 unfold j1E
 with_reducible repeat' (first | exact oR _ | exact oN _ | exact ji6 N _ _ _ _ _ _ _ _ _ _ _ _ _ | apply oC | apply oS | refine oB ?_ ?_ | intro _)
theorem ji7 (N a b c d e f g):OLe (@j3B (j0d N) a b c d e f g) (j3B a b c d e f g):=OLe.loop N _ fun _=>jer N _ _ _ _ _ _ _
theorem jlx (N a b c d):OLe (@j1N (j0d N) a b c d) (j1N a b c d):=by
 unfold j1N
 with_reducible repeat' (first | exact oR _ | exact oN _ | exact j8v N _ _ _ | exact ji7 N _ _ _ _ _ _ _ | exact j9Q N _ | apply oC | apply oS | refine oB ?_ ?_ | intro _)
theorem jkD (N a b c d e f g h):OLe (@j62 (j0d N) a b c d e f g h) (j62 a b c d e f g h):=OLe.loop N _ fun _=>oR _
theorem jkE (N a b c d e f g h i j):OLe (@j4M (j0d N) a b c d e f g h i j) (j4M a b c d e f g h i j):=OLe.loop N _ fun _=>oR _
theorem jfU (N a b c d e f):OLe (@j28 (j0d N) a b c d e f) (j28 a b c d e f):=by
 unfold j28
 with_reducible repeat' (first | exact oR _ | exact oN _ | exact jkD N _ _ _ _ _ _ _ _ | exact jkE N _ _ _ _ _ _ _ _ _ _ | apply oC | apply oS | refine oB ?_ ?_ | intro _)
theorem jkF (N a b c d e f):OLe (@j3T (j0d N) a b c d e f) (j3T a b c d e f):=OLe.loop N _ fun _=>jfU N _ _ _ _ _ _
theorem jdp (N a b):OLe (@j2p (j0d N) a b) (j2p a b):=by
 unfold j2p
 with_reducible repeat' (first | exact oR _ | exact oN _ | exact jkF N _ _ _ _ _ _ | apply oC | apply oS | refine oB ?_ ?_ | intro _)
theorem jly (N a b c d e):OLe (@j3N (j0d N) a b c d e) (j3N a b c d e):=OLe.loop N _ fun _=>oR _
theorem joJ (N a b):OLe (@j7u (j0d N) a b) (j7u a b):=by
 unfold j7u
 with_reducible repeat' (first | exact oR _ | exact oN _ | exact jly N _ _ _ _ _ | apply oC | apply oS | refine oB ?_ ?_ | intro _)
theorem jkG (N a b c d):OLe (@j3U (j0d N) a b c d) (j3U a b c d):=by
 unfold j3U
 with_reducible repeat' (first | exact oR _ | exact oN _ | exact j3J N _ _ _ | exact jnX N _ _ _ _ | exact jlx N _ _ _ _ | exact jdp N _ _ | exact joJ N _ _ | apply oC | apply oS | refine oB ?_ ?_ | intro _)
theorem ji8 (N a b):OLe (@j3C (j0d N) a b) (j3C a b):=by
 unfold j3C
 with_reducible repeat' (first | exact oR _ | exact oN _ | exact jdl N _ _ | apply oC | apply oS | refine oB ?_ ?_ | intro _)
theorem jjl (N a b):OLe (@j0r (j0d N) a b) (j0r a b):=by
 unfold j0r
 with_reducible repeat' (first | exact oR _ | exact oN _ | exact ji8 N _ _ | apply oC | apply oS | refine oB ?_ ?_ | intro _)
theorem jf1 (N a b c d e f g h i j k l m n):OLe (@j1T (j0d N) a b c d e f g h i j k l m n) (j1T a b c d e f g h i j k l m n):=by
 unfold j1T
 with_reducible repeat' (first | exact oR _ | exact oN _ | exact j3J N _ _ _ | apply oC | apply oS | refine oB ?_ ?_ | intro _)
theorem jjm (N a b c d e f g h i j k l m n):OLe (@j55 (j0d N) a b c d e f g h i j k l m n) (j55 a b c d e f g h i j k l m n):=OLe.loop N _ fun _=>jf1 N _ _ _ _ _ _ _ _ _ _ _ _ _ _
theorem jf2 (N a b c d e f g h i j k l m n):OLe (@j2q (j0d N) a b c d e f g h i j k l m n) (j2q a b c d e f g h i j k l m n):=by
 unfold j2q
 with_reducible repeat' (first | exact oR _ | exact oN _ | exact j3J N _ _ _ | apply oC | apply oS | refine oB ?_ ?_ | intro _)
theorem jjn (N a b c d e f g h i j k l m n):OLe (@j56 (j0d N) a b c d e f g h i j k l m n) (j56 a b c d e f g h i j k l m n):=OLe.loop N _ fun _=>jf2 N _ _ _ _ _ _ _ _ _ _ _ _ _ _
theorem jmo (N a b c):OLe (@j1Z (j0d N) a b c) (j1Z a b c):=by
 unfold j1Z
 with_reducible repeat' (first | exact oR _ | exact oN _ | exact j3J N _ _ _ | exact jjl N _ _ | exact jjm N _ _ _ _ _ _ _ _ _ _ _ _ _ _ | exact jjn N _ _ _ _ _ _ _ _ _ _ _ _ _ _ | apply oC | apply oS | refine oB ?_ ?_ | intro _)
theorem jmp (N a b c d):OLe (@j5f (j0d N) a b c d) (j5f a b c d):=OLe.loop N _ fun _=>oR _
theorem jfV (N a):OLe (@j75 (j0d N) a) (j75 a):=by
 unfold j75
 with_reducible repeat' (first | exact oR _ | exact oN _ | exact jmp N _ _ _ _ | apply oC | apply oS | refine oB ?_ ?_ | intro _)
theorem jbN (N a b c d e f g h i j k l m n o p q r s t u v):OLe (@j1k (j0d N) a b c d e f g h i j k l m n o p q r s t u v) (j1k a b c d e f g h i j k l m n o p q r s t u v):=by
 unfold j1k
 with_reducible repeat' (first | exact oR _ | exact oN _ | exact jmo N _ _ _ | exact j3J N _ _ _ | apply oC | apply oS | refine oB ?_ ?_ | intro _)
theorem jf3 (N a b c d e f g h i j k l m n o p q r s t u v):OLe (@j2r (j0d N) a b c d e f g h i j k l m n o p q r s t u v) (j2r a b c d e f g h i j k l m n o p q r s t u v):=OLe.loop N _ fun _=>jbN N _ _ _ _ _ _ _ _ _ _ _ _ _ _ _ _ _ _ _ _ _ _
theorem jbO (N a b c d e f g h i j k l m n o p q r s t):OLe (@j12 (j0d N) a b c d e f g h i j k l m n o p q r s t) (j12 a b c d e f g h i j k l m n o p q r s t):=by
 unfold j12
 with_reducible repeat' (first | exact oR _ | exact oN _ | exact jf3 N _ _ _ _ _ _ _ _ _ _ _ _ _ _ _ _ _ _ _ _ _ _ | apply oC | apply oS | refine oB ?_ ?_ | intro _)
theorem jf4 (N a b c d e f g h i j k l m n o p q r s t):OLe (@j2s (j0d N) a b c d e f g h i j k l m n o p q r s t) (j2s a b c d e f g h i j k l m n o p q r s t):=OLe.loop N _ fun _=>jbO N _ _ _ _ _ _ _ _ _ _ _ _ _ _ _ _ _ _ _ _
theorem jhu (N a b c d):OLe (@j1p (j0d N) a b c d) (j1p a b c d):=by
 unfold j1p
 with_reducible repeat' (first | exact oR _ | exact oN _ | exact jkG N _ _ _ _ | exact jf4 N _ _ _ _ _ _ _ _ _ _ _ _ _ _ _ _ _ _ _ _ | exact jfV N _ | apply oC | apply oS | refine oB ?_ ?_ | intro _)
theorem jkH (N a b c d e):OLe (@j4N (j0d N) a b c d e) (j4N a b c d e):=OLe.loop N _ fun _=>oR _
theorem jnY (N a b):OLe (@j4D (j0d N) a b) (j4D a b):=by
 unfold j4D
 with_reducible repeat' (first | exact oR _ | exact oN _ | exact jkH N _ _ _ _ _ | exact j9Q N _ | apply oC | apply oS | refine oB ?_ ?_ | intro _)
theorem jjo (N a b c d e f g h i j k l m n):OLe (@j2K (j0d N) a b c d e f g h i j k l m n) (j2K a b c d e f g h i j k l m n):=OLe.loop N _ fun _=>oR _
theorem jf5 (N a b c d e f g h):OLe (@j1U (j0d N) a b c d e f g h) (j1U a b c d e f g h):=by
 unfold j1U
 with_reducible repeat' (first | exact oR _ | exact oN _ | exact jnY N _ _ | exact jdp N _ _ | exact jjo N _ _ _ _ _ _ _ _ _ _ _ _ _ _ | apply oC | apply oS | refine oB ?_ ?_ | intro _)
theorem jjp (N a b c d e f g h):OLe (@j3s (j0d N) a b c d e f g h) (j3s a b c d e f g h):=OLe.loop N _ fun _=>jf5 N _ _ _ _ _ _ _ _
theorem jmq (N a b):OLe (@j5g (j0d N) a b) (j5g a b):=by
 unfold j5g
 with_reducible repeat' (first | exact oR _ | exact oN _ | exact jjp N _ _ _ _ _ _ _ _ | apply oC | apply oS | refine oB ?_ ?_ | intro _)
theorem jkI (N a b c d e):OLe (@j3c (j0d N) a b c d e) (j3c a b c d e):=OLe.loop N _ fun _=>oR _
theorem jnZ (N a b):OLe (@j7v (j0d N) a b) (j7v a b):=by
 unfold j7v
 with_reducible repeat' (first | exact oR _ | exact oN _ | exact jkI N _ _ _ _ _ | apply oC | apply oS | refine oB ?_ ?_ | intro _)
theorem jlz (N a b c d):OLe (@j5A (j0d N) a b c d) (j5A a b c d):=OLe.loop N _ fun _=>oR _
theorem joK (N a):OLe (@j7w (j0d N) a) (j7w a):=by
 unfold j7w
 with_reducible repeat' (first | exact oR _ | exact oN _ | exact jlz N _ _ _ _ | exact j9Q N _ | apply oC | apply oS | refine oB ?_ ?_ | intro _)
theorem jdq (N a b c d e f g h i j k l m n):OLe (@j1c (j0d N) a b c d e f g h i j k l m n) (j1c a b c d e f g h i j k l m n):=by
 unfold j1c
 with_reducible repeat' (first | exact oR _ | exact oN _ | exact jhu N _ _ _ _ | exact jmq N _ _ | exact jnZ N _ _ | exact joK N _ | exact jdp N _ _ | apply oC | apply oS | refine oB ?_ ?_ | intro _)
theorem jgv (N a b c d e f g h i j k l m n):OLe (@j2U (j0d N) a b c d e f g h i j k l m n) (j2U a b c d e f g h i j k l m n):=OLe.loop N _ fun _=>jdq N _ _ _ _ _ _ _ _ _ _ _ _ _ _
theorem jgw (N a b c d):OLe (@j2V (j0d N) a b c d) (j2V a b c d):=OLe.loop N _ fun _=>oR _
theorem jjq (N a b c d):OLe (@j2L (j0d N) a b c d) (j2L a b c d):=by
 unfold j2L
 with_reducible repeat' (first | exact oR _ | exact oN _ | exact jgv N _ _ _ _ _ _ _ _ _ _ _ _ _ _ | exact jgw N _ _ _ _ | exact jfV N _ | apply oC | apply oS | refine oB ?_ ?_ | intro _)
theorem j9R (N a b c d e):OLe (@j1d (j0d N) a b c d e) (j1d a b c d e):=OLe.loop N _ fun _=>oR _
theorem jbj (N a b):OLe (@j0i (j0d N) a b) (j0i a b):=by
 unfold j0i
 with_reducible repeat' (first | exact oR _ | exact oN _ | exact j9R N _ _ _ _ _ | apply oC | apply oS | refine oB ?_ ?_ | intro _)
theorem jo0 (N a b c d e):OLe (@j7x (j0d N) a b c d e) (j7x a b c d e):=OLe.loop N _ fun _=>oR _
theorem jsz (N a b c):OLe (@jaQ (j0d N) a b c) (jaQ a b c):=by
 unfold jaQ
 with_reducible repeat' (first | exact oR _ | exact oN _ | exact jo0 N _ _ _ _ _ | apply oC | apply oS | refine oB ?_ ?_ | intro _)
theorem jhv (N a b c d e f g h i j k l m n):OLe (@j3e (j0d N) a b c d e f g h i j k l m n) (j3e a b c d e f g h i j k l m n):=OLe.loop N _ fun _=>oR _
theorem jdA (N a b c d e f g h i j k l m):OLe (@j1q (j0d N) a b c d e f g h i j k l m) (j1q a b c d e f g h i j k l m):=by
 unfold j1q
 with_reducible repeat' (first | exact oR _ | exact oN _ | exact jsz N _ _ _ | apply oC | apply oS | refine oB ?_ ?_ | intro _)
theorem jhw (N a b c d e f g h i j k l m):OLe (@j49 (j0d N) a b c d e f g h i j k l m) (j49 a b c d e f g h i j k l m):=OLe.loop N _ fun _=>jdA N _ _ _ _ _ _ _ _ _ _ _ _ _
theorem jdB (N a b c d e f g h):OLe (@j1r (j0d N) a b c d e f g h) (j1r a b c d e f g h):=by
 unfold j1r
 with_reducible repeat' (first | exact oR _ | exact oN _ | exact jbj N _ _ | exact jhw N _ _ _ _ _ _ _ _ _ _ _ _ _ | apply oC | apply oS | refine oB ?_ ?_ | intro _)
theorem jhx (N a b c d e f g h):OLe (@j3f (j0d N) a b c d e f g h) (j3f a b c d e f g h):=OLe.loop N _ fun _=>jdB N _ _ _ _ _ _ _ _
theorem jdW (N a b c d):OLe (@j3g (j0d N) a b c d) (j3g a b c d):=by
 unfold j3g
 with_reducible repeat' (first | exact oR _ | exact oN _ | exact jhv N _ _ _ _ _ _ _ _ _ _ _ _ _ _ | exact jsy N _ _ _ | exact jjq N _ _ _ _ | exact jhx N _ _ _ _ _ _ _ _ | exact jfV N _ | apply oC | apply oS | refine oB ?_ ?_ | intro _)
theorem jkJ (N a b c d e f g h i j k l m):OLe (@jcB (j0d N) a b c d e f g h i j k l m) (jcB a b c d e f g h i j k l m):=OLe.loop N _ fun _=>oR _
theorem jfW (N a b c d e f g h i j):OLe (@j4t (j0d N) a b c d e f g h i j) (j4t a b c d e f g h i j):=by
 unfold j4t
 with_reducible repeat' (first | exact oR _ | exact oN _ | exact jdW N _ _ _ _ | exact jkJ N _ _ _ _ _ _ _ _ _ _ _ _ _ | apply oC | apply oS | refine oB ?_ ?_ | intro _)
theorem jkK (N a b c d e f g h i j):OLe (@jcC (j0d N) a b c d e f g h i j) (jcC a b c d e f g h i j):=OLe.loop N _ fun _=>jfW N _ _ _ _ _ _ _ _ _ _
theorem jo1 (N a b c d):OLe (@jaU (j0d N) a b c d) (jaU a b c d):=by
 unfold jaU
 with_reducible repeat' (first | exact oR _ | exact oN _ | exact jkK N _ _ _ _ _ _ _ _ _ _ | apply oC | apply oS | refine oB ?_ ?_ | intro _)
theorem jjr (N a b c):OLe (@j57 (j0d N) a b c) (j57 a b c):=by
 unfold j57
 with_reducible repeat' (first | exact oR _ | exact oN _ | exact jio N _ _ _ _ | exact jdo N _ _ | exact jo1 N _ _ _ _ | apply oC | apply oS | refine oB ?_ ?_ | intro _)
theorem jkL (N a b c d):OLe (@j64 (j0d N) a b c d) (j64 a b c d):=by
 unfold j64
 with_reducible repeat' (first | exact oR _ | exact oN _ | exact jio N _ _ _ _ | exact jdW N _ _ _ _ | apply oC | apply oS | refine oB ?_ ?_ | intro _)
theorem ji9 (N a b c d e):OLe (@j3E (j0d N) a b c d e) (j3E a b c d e):=OLe.loop N _ fun _=>oR _
theorem jlA (N a b):OLe (@j76 (j0d N) a b) (j76 a b):=by
 unfold j76
 with_reducible repeat' (first | exact oR _ | exact oN _ | exact ji9 N _ _ _ _ _ | exact j9Q N _ | apply oC | apply oS | refine oB ?_ ?_ | intro _)
theorem jo2 (N a b c d e):OLe (@j9c (j0d N) a b c d e) (j9c a b c d e):=by
 unfold j9c
 with_reducible repeat' (first | exact oR _ | exact oN _ | exact jkL N _ _ _ _ | exact jlA N _ _ | apply oC | apply oS | refine oB ?_ ?_ | intro _)
theorem jgc (N a b c d):OLe (@j2M (j0d N) a b c d) (j2M a b c d):=by
 unfold j2M
 with_reducible repeat' (first | exact oR _ | exact oN _ | exact jo2 N _ _ _ _ _ | apply oC | apply oS | refine oB ?_ ?_ | intro _)
theorem jjs (N a b c d):OLe (@j24 (j0d N) a b c d) (j24 a b c d):=by
 unfold j24
 with_reducible repeat' (first | exact oR _ | exact oN _ | exact jgc N _ _ _ _ | apply oC | apply oS | refine oB ?_ ?_ | intro _)
theorem jjt (N a b):OLe (@j6J (j0d N) a b) (j6J a b):=by
 unfold j6J
 with_reducible repeat' (first | exact oR _ | exact oN _ | exact jpj N _ | exact jdo N _ _ | apply oC | apply oS | refine oB ?_ ?_ | intro _)
theorem jqK (N):OLe (@jak (j0d N) ) (jak ):=by
 unfold jak
 with_reducible repeat' (first | exact oR _ | exact oN _ | exact jjr N _ _ _ | exact jgc N _ _ _ _ | exact jjs N _ _ _ _ | exact jjt N _ _ | apply oC | apply oS | refine oB ?_ ?_ | intro _)
abbrev jqL (N:Nat):=@j0W (j0d N)
end
end Go.Proofs.Pw
