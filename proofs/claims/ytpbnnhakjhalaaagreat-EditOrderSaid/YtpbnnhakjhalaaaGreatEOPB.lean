/- Twins with a bound on their rounds, printed by a program. -/
import Derived.Test.YtpbnnhakjhalaaaGreatEOFns
import Derived.Test.YtpbnnhakjhalaaaGreatEOLD
import Derived.KernelRfl
open Go Go.Lft
set_option linter.unusedVariables false
set_option maxRecDepth 100000
namespace Go.Proofs.Pw
noncomputable section
theorem jhQ (N a b c):OLe (@j4R (j0B N) a b c) (j4R a b c):=OLe.loop N _ fun _=>oR _
theorem j7z (N a):OLe (@j4s (j0B N) a) (j4s a):=by
 unfold j4s
 with_reducible repeat' (first | exact oR _ | exact oN _ | exact jhQ N _ _ _ | apply oC | apply oS | refine oB ?_ ?_ | intro _)
theorem j63 (N a b):OLe (@j2M (j0B N) a b) (j2M a b):=by
 unfold j2M
 with_reducible repeat' (first | exact oR _ | exact oN _ | exact j7z N _ | apply oC | apply oS | refine oB ?_ ?_ | intro _)
theorem jgE (N a b c d e):OLe (@j4t (j0B N) a b c d e) (j4t a b c d e):=OLe.loop N _ fun _=>oR _
theorem jjr (N a):OLe (@j5H (j0B N) a) (j5H a):=by
 unfold j5H
 with_reducible repeat' (first | exact oR _ | exact oN _ | exact jgE N _ _ _ _ _ | apply oC | apply oS | refine oB ?_ ?_ | intro _)
theorem jnP (N a b c d):OLe (@j9Q (j0B N) a b c d) (j9Q a b c d):=by
 unfold j9Q
 with_reducible repeat' (first | exact oR _ | exact oN _ | exact jjr N _ | apply oC | apply oS | refine oB ?_ ?_ | intro _)
theorem j3J (N a b c d e):OLe (@j0i (j0B N) a b c d e) (j0i a b c d e):=OLe.loop N _ fun _=>oR _
theorem j3d (N a b c d):OLe (@j08 (j0B N) a b c d) (j08 a b c d):=by
 unfold j08
 with_reducible repeat' (first | exact oR _ | exact oN _ | exact j3J N _ _ _ _ _ | apply oC | apply oS | refine oB ?_ ?_ | intro _)
theorem j3K (N a b c d):OLe (@j0j (j0B N) a b c d) (j0j a b c d):=OLe.loop N _ fun _=>j3d N _ _ _ _
theorem j1X (N a b c):OLe (@j0c (j0B N) a b c) (j0c a b c):=by
 unfold j0c
 with_reducible repeat' (first | exact oR _ | exact oN _ | exact j3K N _ _ _ _ | apply oC | apply oS | refine oB ?_ ?_ | intro _)
theorem j4g (N a b c d e):OLe (@j0g (j0B N) a b c d e) (j0g a b c d e):=by
 unfold j0g
 with_reducible repeat' (first | exact oR _ | exact oN _ | exact j1X N _ _ _ | apply oC | apply oS | refine oB ?_ ?_ | intro _)
theorem j5e (N a b c d e):OLe (@j0w (j0B N) a b c d e) (j0w a b c d e):=OLe.loop N _ fun _=>j4g N _ _ _ _ _
theorem j5f (N a b c d e):OLe (@j1D (j0B N) a b c d e) (j1D a b c d e):=OLe.loop N _ fun _=>oR _
theorem j4h (N a b c):OLe (@j0h (j0B N) a b c) (j0h a b c):=by
 unfold j0h
 with_reducible repeat' (first | exact oR _ | exact oN _ | exact j5f N _ _ _ _ _ | apply oC | apply oS | refine oB ?_ ?_ | intro _)
theorem j5g (N a b c):OLe (@j0x (j0B N) a b c) (j0x a b c):=OLe.loop N _ fun _=>j4h N _ _ _
theorem j64 (N a b):OLe (@j0H (j0B N) a b) (j0H a b):=by
 unfold j0H
 with_reducible repeat' (first | exact oR _ | exact oN _ | exact j5e N _ _ _ _ _ | exact j1X N _ _ _ | exact j5g N _ _ _ | apply oC | apply oS | refine oB ?_ ?_ | intro _)
theorem j2W (N a):OLe (@j0a (j0B N) a) (j0a a):=by
 unfold j0a
 with_reducible repeat' (first | exact oR _ | exact oN _ | exact j64 N _ _ | apply oC | apply oS | refine oB ?_ ?_ | intro _)
theorem jd6 (N a b c d e f g):OLe (@j1Y (j0B N) a b c d e f g) (j1Y a b c d e f g):=OLe.loop N _ fun _=>oR _
theorem jap (N a b c d e f g h i j k l):OLe (@j0R (j0B N) a b c d e f g h i j k l) (j0R a b c d e f g h i j k l):=by
 unfold j0R
 with_reducible repeat' (first | exact oR _ | exact oN _ | exact jnP N _ _ _ _ | apply oC | apply oS | refine oB ?_ ?_ | intro _)
theorem jd7 (N a b c d e f g h i j k l):OLe (@j2C (j0B N) a b c d e f g h i j k l) (j2C a b c d e f g h i j k l):=OLe.loop N _ fun _=>jap N _ _ _ _ _ _ _ _ _ _ _ _
theorem jaq (N a b c d):OLe (@j0S (j0B N) a b c d) (j0S a b c d):=by
 unfold j0S
 with_reducible repeat' (first | exact oR _ | exact oN _ | exact jd7 N _ _ _ _ _ _ _ _ _ _ _ _ | apply oC | apply oS | refine oB ?_ ?_ | intro _)
theorem jd8 (N a b c d):OLe (@j1Z (j0B N) a b c d) (j1Z a b c d):=OLe.loop N _ fun _=>jaq N _ _ _ _
theorem jfD (N a):OLe (@j36 (j0B N) a) (j36 a):=by
 unfold j36
 with_reducible repeat' (first | exact oR _ | exact oN _ | exact jd6 N _ _ _ _ _ _ _ | exact jd8 N _ _ _ _ | exact j2W N _ | apply oC | apply oS | refine oB ?_ ?_ | intro _)
theorem jd9 (N a b c d e):OLe (@j20 (j0B N) a b c d e) (j20 a b c d e):=OLe.loop N _ fun _=>oR _
theorem jar (N a):OLe (@j1H (j0B N) a) (j1H a):=by
 unfold j1H
 with_reducible repeat' (first | exact oR _ | exact oN _ | exact jfD N _ | exact jd9 N _ _ _ _ _ | apply oC | apply oS | refine oB ?_ ?_ | intro _)
theorem jm7 (N a):OLe (@j72 (j0B N) a) (j72 a):=by
 unfold j72
 with_reducible repeat' (first | exact oR _ | exact oN _ | exact jar N _ | apply oC | apply oS | refine oB ?_ ?_ | intro _)
theorem j48 (N a b c):OLe (@j0k (j0B N) a b c) (j0k a b c):=OLe.loop N _ fun _=>oR _
theorem j4H (N a):OLe (@j0r (j0B N) a) (j0r a):=by
 unfold j0r
 with_reducible repeat' (first | exact oR _ | exact oN _ | exact j48 N _ _ _ | apply oC | apply oS | refine oB ?_ ?_ | intro _)
theorem j49 (N a):OLe (@j0l (j0B N) a) (j0l a):=by
 unfold j0l
 with_reducible repeat' (first | exact oR _ | exact oN _ | exact j4H N _ | apply oC | apply oS | refine oB ?_ ?_ | intro _)
theorem jez (N a):OLe (@j27 (j0B N) a) (j27 a):=by
 unfold j27
 with_reducible repeat' (first | exact oR _ | exact oN _ | exact jm7 N _ | exact j49 N _ | apply oC | apply oS | refine oB ?_ ?_ | intro _)
theorem j7A (N a b c d):OLe (@j0A (j0B N) a b c d) (j0A a b c d):=by
 unfold j0A
 with_reducible repeat' (first | exact oR _ | exact oN _ | exact j63 N _ _ | exact jez N _ | apply oC | apply oS | refine oB ?_ ?_ | intro _)
theorem j9D (N a b c d):OLe (@j16 (j0B N) a b c d) (j16 a b c d):=OLe.loop N _ fun _=>j7A N _ _ _ _
theorem jbj (N a):OLe (@j1v (j0B N) a) (j1v a):=by
 unfold j1v
 with_reducible repeat' (first | exact oR _ | exact oN _ | exact j9D N _ _ _ _ | apply oC | apply oS | refine oB ?_ ?_ | intro _)
theorem jhR (N a b c d):OLe (@j67 (j0B N) a b c d) (j67 a b c d):=OLe.loop N _ fun _=>oR _
theorem jgF (N a):OLe (@j73 (j0B N) a) (j73 a):=by
 unfold j73
 with_reducible repeat' (first | exact oR _ | exact oN _ | exact jhR N _ _ _ _ | apply oC | apply oS | refine oB ?_ ?_ | intro _)
theorem jda (N a b):OLe (@j1n (j0B N) a b) (j1n a b):=by
 unfold j1n
 with_reducible repeat' (first | exact oR _ | exact oN _ | exact jgF N _ | apply oC | apply oS | refine oB ?_ ?_ | intro _)
theorem jhS (N a b):OLe (@jce (j0B N) a b) (jce a b):=OLe.loop N _ fun _=>oR _
theorem jm8 (N a):OLe (@jbB (j0B N) a) (jbB a):=by
 unfold jbB
 with_reducible repeat' (first | exact oR _ | exact oN _ | exact jhS N _ _ | apply oC | apply oS | refine oB ?_ ?_ | intro _)
theorem jgG (N a b c d e f g):OLe (@j9R (j0B N) a b c d e f g) (j9R a b c d e f g):=OLe.loop N _ fun _=>oR _
theorem jjs (N a):OLe (@j4K (j0B N) a) (j4K a):=by
 unfold j4K
 with_reducible repeat' (first | exact oR _ | exact oN _ | exact jm8 N _ | exact jgG N _ _ _ _ _ _ _ | apply oC | apply oS | refine oB ?_ ?_ | intro _)
theorem j8o (N a):OLe (@j0P (j0B N) a) (j0P a):=by
 unfold j0P
 with_reducible repeat' (first | exact oR _ | exact oN _ | exact jjs N _ | apply oC | apply oS | refine oB ?_ ?_ | intro _)
theorem jas (N a):OLe (@j1y (j0B N) a) (j1y a):=by
 unfold j1y
 with_reducible repeat' (first | exact oR _ | exact oN _ | exact j8o N _ | apply oC | apply oS | refine oB ?_ ?_ | intro _)
theorem j6Y (N a b c):OLe (@j0t (j0B N) a b c) (j0t a b c):=by
 unfold j0t
 with_reducible repeat' (first | exact oR _ | exact oN _ | exact jas N _ | apply oC | apply oS | refine oB ?_ ?_ | intro _)
theorem j8R (N a b c):OLe (@j1b (j0B N) a b c) (j1b a b c):=OLe.loop N _ fun _=>j6Y N _ _ _
theorem jat (N a):OLe (@j1z (j0B N) a) (j1z a):=by
 unfold j1z
 with_reducible repeat' (first | exact oR _ | exact oN _ | exact j8R N _ _ _ | apply oC | apply oS | refine oB ?_ ?_ | intro _)
theorem j8S (N a):OLe (@j1c (j0B N) a) (j1c a):=by
 unfold j1c
 with_reducible repeat' (first | exact oR _ | exact oN _ | exact jat N _ | apply oC | apply oS | refine oB ?_ ?_ | intro _)
theorem jau (N a b c d e):OLe (@j1A (j0B N) a b c d e) (j1A a b c d e):=OLe.loop N _ fun _=>oR _
theorem jbV (N a b):OLe (@j1g (j0B N) a b) (j1g a b):=by
 unfold j1g
 with_reducible repeat' (first | exact oR _ | exact oN _ | exact j8S N _ | exact jau N _ _ _ _ _ | apply oC | apply oS | refine oB ?_ ?_ | intro _)
theorem jfE (N a b c d e):OLe (@j3L (j0B N) a b c d e) (j3L a b c d e):=by
 unfold j3L
 with_reducible repeat' (first | exact oR _ | exact oN _ | exact jbV N _ _ | apply oC | apply oS | refine oB ?_ ?_ | intro _)
theorem j6A (N a b c d e f g h):OLe (@j0p (j0B N) a b c d e f g h) (j0p a b c d e f g h):=by
 unfold j0p
 with_reducible repeat' (first | exact oR _ | exact oN _ | exact j63 N _ _ | exact jfE N _ _ _ _ _ | apply oC | apply oS | refine oB ?_ ?_ | intro _)
theorem j7H (N a b c d e f g h):OLe (@j0M (j0B N) a b c d e f g h) (j0M a b c d e f g h):=OLe.loop N _ fun _=>j6A N _ _ _ _ _ _ _ _
theorem j9i (N a b c d e):OLe (@j10 (j0B N) a b c d e) (j10 a b c d e):=by
 unfold j10
 with_reducible repeat' (first | exact oR _ | exact oN _ | exact j7H N _ _ _ _ _ _ _ _ | apply oC | apply oS | refine oB ?_ ?_ | intro _)
theorem j7B (N a b c d e f g):OLe (@j0T (j0B N) a b c d e f g) (j0T a b c d e f g):=OLe.loop N _ fun _=>oR _
theorem j8T (N a b c d e):OLe (@j1d (j0B N) a b c d e) (j1d a b c d e):=by
 unfold j1d
 with_reducible repeat' (first | exact oR _ | exact oN _ | exact j7B N _ _ _ _ _ _ _ | apply oC | apply oS | refine oB ?_ ?_ | intro _)
theorem j7C (N a b c d e):OLe (@j0U (j0B N) a b c d e) (j0U a b c d e):=by
 unfold j0U
 with_reducible repeat' (first | exact oR _ | exact oN _ | exact j8T N _ _ _ _ _ | apply oC | apply oS | refine oB ?_ ?_ | intro _)
theorem je8 (N a b):OLe (@j1S (j0B N) a b) (j1S a b):=by
 unfold j1S
 with_reducible repeat' (first | exact oR _ | exact oN _ | exact j8o N _ | exact j7C N _ _ _ _ _ | exact jgF N _ | apply oC | apply oS | refine oB ?_ ?_ | intro _)
theorem jav (N a b c d e):OLe (@j1B (j0B N) a b c d e) (j1B a b c d e):=by
 unfold j1B
 with_reducible repeat' (first | exact oR _ | exact oN _ | exact je8 N _ _ | apply oC | apply oS | refine oB ?_ ?_ | intro _)
theorem j79 (N a b c d e f g h):OLe (@j0y (j0B N) a b c d e f g h) (j0y a b c d e f g h):=by
 unfold j0y
 with_reducible repeat' (first | exact oR _ | exact oN _ | exact j63 N _ _ | exact jav N _ _ _ _ _ | apply oC | apply oS | refine oB ?_ ?_ | intro _)
theorem j9j (N a b c d e f g h):OLe (@j11 (j0B N) a b c d e f g h) (j11 a b c d e f g h):=OLe.loop N _ fun _=>j79 N _ _ _ _ _ _ _ _
theorem jaG (N a b c d e):OLe (@j1o (j0B N) a b c d e) (j1o a b c d e):=by
 unfold j1o
 with_reducible repeat' (first | exact oR _ | exact oN _ | exact j9j N _ _ _ _ _ _ _ _ | apply oC | apply oS | refine oB ?_ ?_ | intro _)
theorem jeA (N a b):OLe (@j28 (j0B N) a b) (j28 a b):=by
 unfold j28
 with_reducible repeat' (first | exact oR _ | exact oN _ | exact j8o N _ | apply oC | apply oS | refine oB ?_ ?_ | intro _)
theorem j7I (N a b c d e f g):OLe (@j0F (j0B N) a b c d e f g) (j0F a b c d e f g):=by
 unfold j0F
 with_reducible repeat' (first | exact oR _ | exact oN _ | exact jeA N _ _ | apply oC | apply oS | refine oB ?_ ?_ | intro _)
theorem jaw (N a b c d e f g):OLe (@j1C (j0B N) a b c d e f g) (j1C a b c d e f g):=OLe.loop N _ fun _=>j7I N _ _ _ _ _ _ _
theorem jbW (N a b):OLe (@j1h (j0B N) a b) (j1h a b):=by
 unfold j1h
 with_reducible repeat' (first | exact oR _ | exact oN _ | exact jaG N _ _ _ _ _ | exact jaw N _ _ _ _ _ _ _ | apply oC | apply oS | refine oB ?_ ?_ | intro _)
theorem jfF (N a b c d e):OLe (@j3M (j0B N) a b c d e) (j3M a b c d e):=by
 unfold j3M
 with_reducible repeat' (first | exact oR _ | exact oN _ | exact jbW N _ _ | apply oC | apply oS | refine oB ?_ ?_ | intro _)
theorem j6B (N a b c d e f g h):OLe (@j0q (j0B N) a b c d e f g h) (j0q a b c d e f g h):=by
 unfold j0q
 with_reducible repeat' (first | exact oR _ | exact oN _ | exact j63 N _ _ | exact jfF N _ _ _ _ _ | apply oC | apply oS | refine oB ?_ ?_ | intro _)
theorem j7J (N a b c d e f g h):OLe (@j0N (j0B N) a b c d e f g h) (j0N a b c d e f g h):=OLe.loop N _ fun _=>j6B N _ _ _ _ _ _ _ _
theorem j9k (N a b c d e):OLe (@j1m (j0B N) a b c d e) (j1m a b c d e):=by
 unfold j1m
 with_reducible repeat' (first | exact oR _ | exact oN _ | exact j7J N _ _ _ _ _ _ _ _ | apply oC | apply oS | refine oB ?_ ?_ | intro _)
theorem jbX (N a b c d e f g h):OLe (@j1i (j0B N) a b c d e f g h) (j1i a b c d e f g h):=by
 unfold j1i
 with_reducible repeat' (first | exact oR _ | exact oN _ | exact j63 N _ _ | exact jda N _ _ | apply oC | apply oS | refine oB ?_ ?_ | intro _)
theorem jfG (N a b c d e f g h):OLe (@j37 (j0B N) a b c d e f g h) (j37 a b c d e f g h):=OLe.loop N _ fun _=>jbX N _ _ _ _ _ _ _ _
theorem j9l (N a):OLe (@j2L (j0B N) a) (j2L a):=by
 unfold j2L
 with_reducible repeat' (first | exact oR _ | exact oN _ | exact jbj N _ | exact jfG N _ _ _ _ _ _ _ _ | exact j9i N _ _ _ _ _ | exact j9k N _ _ _ _ _ | apply oC | apply oS | refine oB ?_ ?_ | intro _)
theorem jjt (N a b c d e f g h):OLe (@jdA (j0B N) a b c d e f g h) (jdA a b c d e f g h):=OLe.loop N _ fun _=>oR _
theorem jju (N a b c d e f g h):OLe (@jdB (j0B N) a b c d e f g h) (jdB a b c d e f g h):=OLe.loop N _ fun _=>oR _
theorem jjv (N a b c d e f g h):OLe (@jdC (j0B N) a b c d e f g h) (jdC a b c d e f g h):=OLe.loop N _ fun _=>oR _
theorem jjw (N a b c d e f g h i j):OLe (@jaQ (j0B N) a b c d e f g h i j) (jaQ a b c d e f g h i j):=OLe.loop N _ fun _=>oR _
theorem jnQ (N a):OLe (@jdD (j0B N) a) (jdD a):=by
 unfold jdD
 with_reducible repeat' (first | exact oR _ | exact oN _ | exact jjt N _ _ _ _ _ _ _ _ | exact jju N _ _ _ _ _ _ _ _ | exact jjv N _ _ _ _ _ _ _ _ | exact jjw N _ _ _ _ _ _ _ _ _ _ | apply oC | apply oS | refine oB ?_ ?_ | intro _)
theorem jhx (N a b):OLe (@jbG (j0B N) a b) (jbG a b):=by
 unfold jbG
 with_reducible repeat' (first | exact oR _ | exact oN _ | exact j9l N _ | exact jnQ N _ | apply oC | apply oS | refine oB ?_ ?_ | intro _)
theorem jm9 (N a b c):OLe (@j9H (j0B N) a b c) (j9H a b c):=by
 unfold j9H
 with_reducible repeat' (first | exact oR _ | exact oN _ | exact jhx N _ _ | exact j9l N _ | apply oC | apply oS | refine oB ?_ ?_ | intro _)
theorem jk6 (N a b c):OLe (@j82 (j0B N) a b c) (j82 a b c):=by
 unfold j82
 with_reducible repeat' (first | exact oR _ | exact oN _ | exact jhx N _ _ | apply oC | apply oS | refine oB ?_ ?_ | intro _)
theorem jr2 (N a):OLe (@jdE (j0B N) a) (jdE a):=by
 unfold jdE
 with_reducible repeat' (first | exact oR _ | exact oN _ | exact jar N _ | apply oC | apply oS | refine oB ?_ ?_ | intro _)
theorem jdb (N a b c d):OLe (@j1E (j0B N) a b c d) (j1E a b c d):=by
 unfold j1E
 with_reducible repeat' (first | exact oR _ | exact oN _ | exact jr2 N _ | apply oC | apply oS | refine oB ?_ ?_ | intro _)
theorem jhc (N a b c d):OLe (@j4b (j0B N) a b c d) (j4b a b c d):=OLe.loop N _ fun _=>jdb N _ _ _ _
theorem jk7 (N a):OLe (@j83 (j0B N) a) (j83 a):=by
 unfold j83
 with_reducible repeat' (first | exact oR _ | exact oN _ | exact jhc N _ _ _ _ | apply oC | apply oS | refine oB ?_ ?_ | intro _)
theorem jnR (N a):OLe (@j9T (j0B N) a) (j9T a):=by
 unfold j9T
 with_reducible repeat' (first | exact oR _ | exact oN _ | exact jk7 N _ | apply oC | apply oS | refine oB ?_ ?_ | intro _)
theorem jr3 (N a):OLe (@jf6 (j0B N) a) (jf6 a):=by
 unfold jf6
 with_reducible repeat' (first | exact oR _ | exact oN _ | exact j9l N _ | exact jnR N _ | apply oC | apply oS | refine oB ?_ ?_ | intro _)
theorem jhd (N a b c d e):OLe (@j5h (j0B N) a b c d e) (j5h a b c d e):=OLe.loop N _ fun _=>oR _
theorem jk8 (N a b c d):OLe (@j85 (j0B N) a b c d) (j85 a b c d):=by
 unfold j85
 with_reducible repeat' (first | exact oR _ | exact oN _ | exact jhd N _ _ _ _ _ | apply oC | apply oS | refine oB ?_ ?_ | intro _)
theorem jax (N a b):OLe (@j2w (j0B N) a b) (j2w a b):=by
 unfold j2w
 with_reducible repeat' (first | exact oR _ | exact oN _ | exact jk8 N _ _ _ _ | apply oC | apply oS | refine oB ?_ ?_ | intro _)
theorem j9E (N a b c d e):OLe (@j0O (j0B N) a b c d e) (j0O a b c d e):=by
 unfold j0O
 with_reducible repeat' (first | exact oR _ | exact oN _ | exact jax N _ _ | apply oC | apply oS | refine oB ?_ ?_ | intro _)
theorem jcN (N a b c d e):OLe (@j1Q (j0B N) a b c d e) (j1Q a b c d e):=OLe.loop N _ fun _=>j9E N _ _ _ _ _
theorem jeB (N a b c):OLe (@j2E (j0B N) a b c) (j2E a b c):=by
 unfold j2E
 with_reducible repeat' (first | exact oR _ | exact oN _ | exact jcN N _ _ _ _ _ | apply oC | apply oS | refine oB ?_ ?_ | intro _)
theorem jdc (N a b c d e):OLe (@j22 (j0B N) a b c d e) (j22 a b c d e):=OLe.loop N _ fun _=>oR _
theorem jfH (N a b):OLe (@j1s (j0B N) a b) (j1s a b):=by
 unfold j1s
 with_reducible repeat' (first | exact oR _ | exact oN _ | exact jeB N _ _ _ | exact jdc N _ _ _ _ _ | apply oC | apply oS | refine oB ?_ ?_ | intro _)
theorem j6Z (N a b c):OLe (@j1a (j0B N) a b c) (j1a a b c):=by
 unfold j1a
 with_reducible repeat' (first | exact oR _ | exact oN _ | exact jfH N _ _ | apply oC | apply oS | refine oB ?_ ?_ | intro _)
theorem jeC (N a b):OLe (@j2F (j0B N) a b) (j2F a b):=by
 unfold j2F
 with_reducible repeat' (first | exact oR _ | exact oN _ | exact jax N _ _ | apply oC | apply oS | refine oB ?_ ?_ | intro _)
theorem jay (N a b):OLe (@j0u (j0B N) a b) (j0u a b):=by
 unfold j0u
 with_reducible repeat' (first | exact oR _ | exact oN _ | exact jeC N _ _ | apply oC | apply oS | refine oB ?_ ?_ | intro _)
theorem jbY (N a b c d e f g h i j k l m n):OLe (@j1j (j0B N) a b c d e f g h i j k l m n) (j1j a b c d e f g h i j k l m n):=by
 unfold j1j
 with_reducible repeat' (first | exact oR _ | exact oN _ | exact j6Z N _ _ _ | apply oC | apply oS | refine oB ?_ ?_ | intro _)
theorem jfI (N a b c d e f g h i j k l m n):OLe (@j3N (j0B N) a b c d e f g h i j k l m n) (j3N a b c d e f g h i j k l m n):=OLe.loop N _ fun _=>jbY N _ _ _ _ _ _ _ _ _ _ _ _ _ _
theorem jbZ (N a b c d e f g h i j k l m n):OLe (@j1F (j0B N) a b c d e f g h i j k l m n) (j1F a b c d e f g h i j k l m n):=by
 unfold j1F
 with_reducible repeat' (first | exact oR _ | exact oN _ | exact j6Z N _ _ _ | apply oC | apply oS | refine oB ?_ ?_ | intro _)
theorem jfJ (N a b c d e f g h i j k l m n):OLe (@j3O (j0B N) a b c d e f g h i j k l m n) (j3O a b c d e f g h i j k l m n):=OLe.loop N _ fun _=>jbZ N _ _ _ _ _ _ _ _ _ _ _ _ _ _
theorem jhT (N a b c):OLe (@j1W (j0B N) a b c) (j1W a b c):=by
 unfold j1W
 with_reducible repeat' (first | exact oR _ | exact oN _ | exact j6Z N _ _ _ | exact jay N _ _ | exact jfI N _ _ _ _ _ _ _ _ _ _ _ _ _ _ | exact jfJ N _ _ _ _ _ _ _ _ _ _ _ _ _ _ | apply oC | apply oS | refine oB ?_ ?_ | intro _)
theorem jk9 (N a b c d):OLe (@j86 (j0B N) a b c d) (j86 a b c d):=OLe.loop N _ fun _=>oR _
theorem jp8 (N a b):OLe (@jcg (j0B N) a b) (jcg a b):=by
 unfold jcg
 with_reducible repeat' (first | exact oR _ | exact oN _ | exact jk9 N _ _ _ _ | apply oC | apply oS | refine oB ?_ ?_ | intro _)
theorem j7D (N a b c d e):OLe (@j0V (j0B N) a b c d e) (j0V a b c d e):=OLe.loop N _ fun _=>oR _
theorem j8U (N a b):OLe (@j0C (j0B N) a b) (j0C a b):=by
 unfold j0C
 with_reducible repeat' (first | exact oR _ | exact oN _ | exact j7D N _ _ _ _ _ | apply oC | apply oS | refine oB ?_ ?_ | intro _)
theorem jjx (N a b c):OLe (@j3o (j0B N) a b c) (j3o a b c):=by
 unfold j3o
 with_reducible repeat' (first | exact oR _ | exact oN _ | exact jhT N _ _ _ | exact jay N _ _ | exact jp8 N _ _ | exact j8U N _ _ | apply oC | apply oS | refine oB ?_ ?_ | intro _)
theorem jfK (N a b c):OLe (@j1t (j0B N) a b c) (j1t a b c):=by
 unfold j1t
 with_reducible repeat' (first | exact oR _ | exact oN _ | exact jjx N _ _ _ | apply oC | apply oS | refine oB ?_ ?_ | intro _)
theorem j5B (N a b c d e):OLe (@j0s (j0B N) a b c d e) (j0s a b c d e):=OLe.loop N _ fun _=>oR _
theorem j6C (N a b c):OLe (@j0J (j0B N) a b c) (j0J a b c):=by
 unfold j0J
 with_reducible repeat' (first | exact oR _ | exact oN _ | exact j5B N _ _ _ _ _ | apply oC | apply oS | refine oB ?_ ?_ | intro _)
theorem j5C (N a b c):OLe (@j0D (j0B N) a b c) (j0D a b c):=by
 unfold j0D
 with_reducible repeat' (first | exact oR _ | exact oN _ | exact j6C N _ _ _ | apply oC | apply oS | refine oB ?_ ?_ | intro _)
theorem jma (N a b c):OLe (@j87 (j0B N) a b c) (j87 a b c):=by
 unfold j87
 with_reducible repeat' (first | exact oR _ | exact oN _ | exact j5C N _ _ _ | apply oC | apply oS | refine oB ?_ ?_ | intro _)
theorem jc0 (N a b c d e f g h i j k l m):OLe (@j1k (j0B N) a b c d e f g h i j k l m) (j1k a b c d e f g h i j k l m):=by
 unfold j1k
 with_reducible repeat' (first | exact oR _ | exact oN _ | exact jfK N _ _ _ | exact jma N _ _ _ | apply oC | apply oS | refine oB ?_ ?_ | intro _)
theorem jfL (N a b c d e f g h i j k l m):OLe (@j38 (j0B N) a b c d e f g h i j k l m) (j38 a b c d e f g h i j k l m):=OLe.loop N _ fun _=>jc0 N _ _ _ _ _ _ _ _ _ _ _ _ _
theorem jhU (N a b c):OLe (@j3g (j0B N) a b c) (j3g a b c):=by
 unfold j3g
 with_reducible repeat' (first | exact oR _ | exact oN _ | exact jfL N _ _ _ _ _ _ _ _ _ _ _ _ _ | apply oC | apply oS | refine oB ?_ ?_ | intro _)
theorem jjy (N a b c d e):OLe (@j4N (j0B N) a b c d e) (j4N a b c d e):=OLe.loop N _ fun _=>oR _
theorem jnS (N a b c):OLe (@j8u (j0B N) a b c) (j8u a b c):=by
 unfold j8u
 with_reducible repeat' (first | exact oR _ | exact oN _ | exact jjy N _ _ _ _ _ | apply oC | apply oS | refine oB ?_ ?_ | intro _)
theorem jmb (N a b c):OLe (@j74 (j0B N) a b c) (j74 a b c):=by
 unfold j74
 with_reducible repeat' (first | exact oR _ | exact oN _ | exact jhU N _ _ _ | exact jnS N _ _ _ | apply oC | apply oS | refine oB ?_ ?_ | intro _)
theorem jp9 (N a b c):OLe (@j69 (j0B N) a b c) (j69 a b c):=by
 unfold j69
 with_reducible repeat' (first | exact oR _ | exact oN _ | exact jr3 N _ | exact jmb N _ _ _ | apply oC | apply oS | refine oB ?_ ?_ | intro _)
theorem jmc (N):OLe (@j88 (j0B N) ) (j88 ):=by
 unfold j88
 with_reducible repeat' (first | exact oR _ | exact oN _ | exact jm9 N _ _ _ | exact jk6 N _ _ _ | exact jp9 N _ _ _ | apply oC | apply oS | refine oB ?_ ?_ | intro _)
abbrev jmd (N:Nat):=@j0P (j0B N)
end
theorem jux:j88=some true:=jmc 60 true (by kernel_rfl)
end Go.Proofs.Pw
