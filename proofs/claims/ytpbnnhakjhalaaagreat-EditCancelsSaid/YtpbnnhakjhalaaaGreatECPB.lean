/- Twins with a bound on their rounds, printed by a program. -/
import Derived.Test.YtpbnnhakjhalaaaGreatECFns
import Derived.Test.YtpbnnhakjhalaaaGreatECLD
import Derived.KernelRfl
open Go Go.Lft
set_option linter.unusedVariables false
set_option maxRecDepth 100000
namespace Go.Proofs.Pw
noncomputable section
theorem jh4 (N a b c):OLe (@j4w (j0z N) a b c) (j4w a b c):=OLe.loop N _ fun _=>oR _
theorem j7i (N a):OLe (@j48 (j0z N) a) (j48 a):=by
 unfold j48
 with_reducible repeat' (first | exact oR _ | exact oN _ | exact jh4 N _ _ _ | apply oC | apply oS | refine oB ?_ ?_ | intro _)
theorem j5N (N a b):OLe (@j2A (j0z N) a b) (j2A a b):=by
 unfold j2A
 with_reducible repeat' (first | exact oR _ | exact oN _ | exact j7i N _ | apply oC | apply oS | refine oB ?_ ?_ | intro _)
theorem jfW (N a b c d e):OLe (@j49 (j0z N) a b c d e) (j49 a b c d e):=OLe.loop N _ fun _=>oR _
theorem jiG (N a):OLe (@j5n (j0z N) a) (j5n a):=by
 unfold j5n
 with_reducible repeat' (first | exact oR _ | exact oN _ | exact jfW N _ _ _ _ _ | apply oC | apply oS | refine oB ?_ ?_ | intro _)
theorem jmC (N a b c d):OLe (@j9s (j0z N) a b c d) (j9s a b c d):=by
 unfold j9s
 with_reducible repeat' (first | exact oR _ | exact oN _ | exact jiG N _ | apply oC | apply oS | refine oB ?_ ?_ | intro _)
theorem j3u (N a b c d e):OLe (@j0g (j0z N) a b c d e) (j0g a b c d e):=OLe.loop N _ fun _=>oR _
theorem j35 (N a b c d):OLe (@j07 (j0z N) a b c d) (j07 a b c d):=by
 unfold j07
 with_reducible repeat' (first | exact oR _ | exact oN _ | exact j3u N _ _ _ _ _ | apply oC | apply oS | refine oB ?_ ?_ | intro _)
theorem j3v (N a b c d):OLe (@j0h (j0z N) a b c d) (j0h a b c d):=OLe.loop N _ fun _=>j35 N _ _ _ _
theorem j1P (N a b c):OLe (@j0b (j0z N) a b c) (j0b a b c):=by
 unfold j0b
 with_reducible repeat' (first | exact oR _ | exact oN _ | exact j3v N _ _ _ _ | apply oC | apply oS | refine oB ?_ ?_ | intro _)
theorem j3W (N a b c d e):OLe (@j0d (j0z N) a b c d e) (j0d a b c d e):=by
 unfold j0d
 with_reducible repeat' (first | exact oR _ | exact oN _ | exact j1P N _ _ _ | apply oC | apply oS | refine oB ?_ ?_ | intro _)
theorem j4W (N a b c d e):OLe (@j0u (j0z N) a b c d e) (j0u a b c d e):=OLe.loop N _ fun _=>j3W N _ _ _ _ _
theorem j4X (N a b c d e):OLe (@j1w (j0z N) a b c d e) (j1w a b c d e):=OLe.loop N _ fun _=>oR _
theorem j3X (N a b c):OLe (@j0e (j0z N) a b c) (j0e a b c):=by
 unfold j0e
 with_reducible repeat' (first | exact oR _ | exact oN _ | exact j4X N _ _ _ _ _ | apply oC | apply oS | refine oB ?_ ?_ | intro _)
theorem j4Y (N a b c):OLe (@j0v (j0z N) a b c) (j0v a b c):=OLe.loop N _ fun _=>j3X N _ _ _
theorem j5O (N a b):OLe (@j0C (j0z N) a b) (j0C a b):=by
 unfold j0C
 with_reducible repeat' (first | exact oR _ | exact oN _ | exact j4W N _ _ _ _ _ | exact j1P N _ _ _ | exact j4Y N _ _ _ | apply oC | apply oS | refine oB ?_ ?_ | intro _)
theorem j2O (N a):OLe (@j08 (j0z N) a) (j08 a):=by
 unfold j08
 with_reducible repeat' (first | exact oR _ | exact oN _ | exact j5O N _ _ | apply oC | apply oS | refine oB ?_ ?_ | intro _)
theorem jct (N a b c d e f g):OLe (@j1Q (j0z N) a b c d e f g) (j1Q a b c d e f g):=OLe.loop N _ fun _=>oR _
theorem ja2 (N a b c d e f g h i j k l):OLe (@j0J (j0z N) a b c d e f g h i j k l) (j0J a b c d e f g h i j k l):=by
 unfold j0J
 with_reducible repeat' (first | exact oR _ | exact oN _ | exact jmC N _ _ _ _ | apply oC | apply oS | refine oB ?_ ?_ | intro _)
theorem jcu (N a b c d e f g h i j k l):OLe (@j2u (j0z N) a b c d e f g h i j k l) (j2u a b c d e f g h i j k l):=OLe.loop N _ fun _=>ja2 N _ _ _ _ _ _ _ _ _ _ _ _
theorem ja3 (N a b c d):OLe (@j0K (j0z N) a b c d) (j0K a b c d):=by
 unfold j0K
 with_reducible repeat' (first | exact oR _ | exact oN _ | exact jcu N _ _ _ _ _ _ _ _ _ _ _ _ | apply oC | apply oS | refine oB ?_ ?_ | intro _)
theorem jcv (N a b c d):OLe (@j1R (j0z N) a b c d) (j1R a b c d):=OLe.loop N _ fun _=>ja3 N _ _ _ _
theorem jeU (N a):OLe (@j2W (j0z N) a) (j2W a):=by
 unfold j2W
 with_reducible repeat' (first | exact oR _ | exact oN _ | exact jct N _ _ _ _ _ _ _ | exact jcv N _ _ _ _ | exact j2O N _ | apply oC | apply oS | refine oB ?_ ?_ | intro _)
theorem jcw (N a b c d e):OLe (@j1S (j0z N) a b c d e) (j1S a b c d e):=OLe.loop N _ fun _=>oR _
theorem ja4 (N a):OLe (@j1O (j0z N) a) (j1O a):=by
 unfold j1O
 with_reducible repeat' (first | exact oR _ | exact oN _ | exact jeU N _ | exact jcw N _ _ _ _ _ | apply oC | apply oS | refine oB ?_ ?_ | intro _)
theorem jl6 (N a):OLe (@j6N (j0z N) a) (j6N a):=by
 unfold j6N
 with_reducible repeat' (first | exact oR _ | exact oN _ | exact ja4 N _ | apply oC | apply oS | refine oB ?_ ?_ | intro _)
theorem j3P (N a b c):OLe (@j0j (j0z N) a b c) (j0j a b c):=OLe.loop N _ fun _=>oR _
theorem j4p (N a):OLe (@j0r (j0z N) a) (j0r a):=by
 unfold j0r
 with_reducible repeat' (first | exact oR _ | exact oN _ | exact j3P N _ _ _ | apply oC | apply oS | refine oB ?_ ?_ | intro _)
theorem j3Q (N a):OLe (@j0k (j0z N) a) (j0k a):=by
 unfold j0k
 with_reducible repeat' (first | exact oR _ | exact oN _ | exact j4p N _ | apply oC | apply oS | refine oB ?_ ?_ | intro _)
theorem jdR (N a):OLe (@j1X (j0z N) a) (j1X a):=by
 unfold j1X
 with_reducible repeat' (first | exact oR _ | exact oN _ | exact jl6 N _ | exact j3Q N _ | apply oC | apply oS | refine oB ?_ ?_ | intro _)
theorem j7j (N a b c d):OLe (@j0y (j0z N) a b c d) (j0y a b c d):=by
 unfold j0y
 with_reducible repeat' (first | exact oR _ | exact oN _ | exact j5N N _ _ | exact jdR N _ | apply oC | apply oS | refine oB ?_ ?_ | intro _)
theorem j9g (N a b c d):OLe (@j0X (j0z N) a b c d) (j0X a b c d):=OLe.loop N _ fun _=>j7j N _ _ _ _
theorem jaS (N a):OLe (@j1n (j0z N) a) (j1n a):=by
 unfold j1n
 with_reducible repeat' (first | exact oR _ | exact oN _ | exact j9g N _ _ _ _ | apply oC | apply oS | refine oB ?_ ?_ | intro _)
theorem jh5 (N a b c d):OLe (@j5R (j0z N) a b c d) (j5R a b c d):=OLe.loop N _ fun _=>oR _
theorem jfX (N a):OLe (@j6O (j0z N) a) (j6O a):=by
 unfold j6O
 with_reducible repeat' (first | exact oR _ | exact oN _ | exact jh5 N _ _ _ _ | apply oC | apply oS | refine oB ?_ ?_ | intro _)
theorem jcx (N a b):OLe (@j1h (j0z N) a b) (j1h a b):=by
 unfold j1h
 with_reducible repeat' (first | exact oR _ | exact oN _ | exact jfX N _ | apply oC | apply oS | refine oB ?_ ?_ | intro _)
theorem jh6 (N a b):OLe (@jbH (j0z N) a b) (jbH a b):=OLe.loop N _ fun _=>oR _
theorem jl7 (N a):OLe (@jba (j0z N) a) (jba a):=by
 unfold jba
 with_reducible repeat' (first | exact oR _ | exact oN _ | exact jh6 N _ _ | apply oC | apply oS | refine oB ?_ ?_ | intro _)
theorem jfY (N a b c d e f g):OLe (@j9t (j0z N) a b c d e f g) (j9t a b c d e f g):=OLe.loop N _ fun _=>oR _
theorem jiH (N a):OLe (@j5o (j0z N) a) (j5o a):=by
 unfold j5o
 with_reducible repeat' (first | exact oR _ | exact oN _ | exact jl7 N _ | exact jfY N _ _ _ _ _ _ _ | apply oC | apply oS | refine oB ?_ ?_ | intro _)
theorem j82 (N a):OLe (@j0Y (j0z N) a) (j0Y a):=by
 unfold j0Y
 with_reducible repeat' (first | exact oR _ | exact oN _ | exact jiH N _ | apply oC | apply oS | refine oB ?_ ?_ | intro _)
theorem ja5 (N a):OLe (@j1q (j0z N) a) (j1q a):=by
 unfold j1q
 with_reducible repeat' (first | exact oR _ | exact oN _ | exact j82 N _ | apply oC | apply oS | refine oB ?_ ?_ | intro _)
theorem j6J (N a b c):OLe (@j0s (j0z N) a b c) (j0s a b c):=by
 unfold j0s
 with_reducible repeat' (first | exact oR _ | exact oN _ | exact ja5 N _ | apply oC | apply oS | refine oB ?_ ?_ | intro _)
theorem j8v (N a b c):OLe (@j16 (j0z N) a b c) (j16 a b c):=OLe.loop N _ fun _=>j6J N _ _ _
theorem ja6 (N a):OLe (@j1r (j0z N) a) (j1r a):=by
 unfold j1r
 with_reducible repeat' (first | exact oR _ | exact oN _ | exact j8v N _ _ _ | apply oC | apply oS | refine oB ?_ ?_ | intro _)
theorem j8w (N a):OLe (@j17 (j0z N) a) (j17 a):=by
 unfold j17
 with_reducible repeat' (first | exact oR _ | exact oN _ | exact ja6 N _ | apply oC | apply oS | refine oB ?_ ?_ | intro _)
theorem ja7 (N a b c d e):OLe (@j1s (j0z N) a b c d e) (j1s a b c d e):=OLe.loop N _ fun _=>oR _
theorem jbo (N a b):OLe (@j1c (j0z N) a b) (j1c a b):=by
 unfold j1c
 with_reducible repeat' (first | exact oR _ | exact oN _ | exact j8w N _ | exact ja7 N _ _ _ _ _ | apply oC | apply oS | refine oB ?_ ?_ | intro _)
theorem jeV (N a b c d e):OLe (@j3w (j0z N) a b c d e) (j3w a b c d e):=by
 unfold j3w
 with_reducible repeat' (first | exact oR _ | exact oN _ | exact jbo N _ _ | apply oC | apply oS | refine oB ?_ ?_ | intro _)
theorem j6m (N a b c d e f g h):OLe (@j0p (j0z N) a b c d e f g h) (j0p a b c d e f g h):=by
 unfold j0p
 with_reducible repeat' (first | exact oR _ | exact oN _ | exact j5N N _ _ | exact jeV N _ _ _ _ _ | apply oC | apply oS | refine oB ?_ ?_ | intro _)
theorem j7q (N a b c d e f g h):OLe (@j0F (j0z N) a b c d e f g h) (j0F a b c d e f g h):=OLe.loop N _ fun _=>j6m N _ _ _ _ _ _ _ _
theorem j8Z (N a b c d e):OLe (@j0R (j0z N) a b c d e) (j0R a b c d e):=by
 unfold j0R
 with_reducible repeat' (first | exact oR _ | exact oN _ | exact j7q N _ _ _ _ _ _ _ _ | apply oC | apply oS | refine oB ?_ ?_ | intro _)
theorem j7k (N a b c d e f g):OLe (@j0L (j0z N) a b c d e f g) (j0L a b c d e f g):=OLe.loop N _ fun _=>oR _
theorem j8x (N a b c d e):OLe (@j18 (j0z N) a b c d e) (j18 a b c d e):=by
 unfold j18
 with_reducible repeat' (first | exact oR _ | exact oN _ | exact j7k N _ _ _ _ _ _ _ | apply oC | apply oS | refine oB ?_ ?_ | intro _)
theorem j7l (N a b c d e):OLe (@j0M (j0z N) a b c d e) (j0M a b c d e):=by
 unfold j0M
 with_reducible repeat' (first | exact oR _ | exact oN _ | exact j8x N _ _ _ _ _ | apply oC | apply oS | refine oB ?_ ?_ | intro _)
theorem jds (N a b):OLe (@j1I (j0z N) a b) (j1I a b):=by
 unfold j1I
 with_reducible repeat' (first | exact oR _ | exact oN _ | exact j82 N _ | exact j7l N _ _ _ _ _ | exact jfX N _ | apply oC | apply oS | refine oB ?_ ?_ | intro _)
theorem ja8 (N a b c d e):OLe (@j1t (j0z N) a b c d e) (j1t a b c d e):=by
 unfold j1t
 with_reducible repeat' (first | exact oR _ | exact oN _ | exact jds N _ _ | apply oC | apply oS | refine oB ?_ ?_ | intro _)
theorem j6V (N a b c d e f g h):OLe (@j0w (j0z N) a b c d e f g h) (j0w a b c d e f g h):=by
 unfold j0w
 with_reducible repeat' (first | exact oR _ | exact oN _ | exact j5N N _ _ | exact ja8 N _ _ _ _ _ | apply oC | apply oS | refine oB ?_ ?_ | intro _)
theorem j90 (N a b c d e f g h):OLe (@j0S (j0z N) a b c d e f g h) (j0S a b c d e f g h):=OLe.loop N _ fun _=>j6V N _ _ _ _ _ _ _ _
theorem jai (N a b c d e):OLe (@j1i (j0z N) a b c d e) (j1i a b c d e):=by
 unfold j1i
 with_reducible repeat' (first | exact oR _ | exact oN _ | exact j90 N _ _ _ _ _ _ _ _ | apply oC | apply oS | refine oB ?_ ?_ | intro _)
theorem jdS (N a b):OLe (@j1Y (j0z N) a b) (j1Y a b):=by
 unfold j1Y
 with_reducible repeat' (first | exact oR _ | exact oN _ | exact j82 N _ | apply oC | apply oS | refine oB ?_ ?_ | intro _)
theorem j7r (N a b c d e f g):OLe (@j0B (j0z N) a b c d e f g) (j0B a b c d e f g):=by
 unfold j0B
 with_reducible repeat' (first | exact oR _ | exact oN _ | exact jdS N _ _ | apply oC | apply oS | refine oB ?_ ?_ | intro _)
theorem ja9 (N a b c d e f g):OLe (@j1u (j0z N) a b c d e f g) (j1u a b c d e f g):=OLe.loop N _ fun _=>j7r N _ _ _ _ _ _ _
theorem jbp (N a b):OLe (@j1d (j0z N) a b) (j1d a b):=by
 unfold j1d
 with_reducible repeat' (first | exact oR _ | exact oN _ | exact jai N _ _ _ _ _ | exact ja9 N _ _ _ _ _ _ _ | apply oC | apply oS | refine oB ?_ ?_ | intro _)
theorem jeW (N a b c d e):OLe (@j3x (j0z N) a b c d e) (j3x a b c d e):=by
 unfold j3x
 with_reducible repeat' (first | exact oR _ | exact oN _ | exact jbp N _ _ | apply oC | apply oS | refine oB ?_ ?_ | intro _)
theorem j6n (N a b c d e f g h):OLe (@j0q (j0z N) a b c d e f g h) (j0q a b c d e f g h):=by
 unfold j0q
 with_reducible repeat' (first | exact oR _ | exact oN _ | exact j5N N _ _ | exact jeW N _ _ _ _ _ | apply oC | apply oS | refine oB ?_ ?_ | intro _)
theorem j7s (N a b c d e f g h):OLe (@j0G (j0z N) a b c d e f g h) (j0G a b c d e f g h):=OLe.loop N _ fun _=>j6n N _ _ _ _ _ _ _ _
theorem j91 (N a b c d e):OLe (@j1g (j0z N) a b c d e) (j1g a b c d e):=by
 unfold j1g
 with_reducible repeat' (first | exact oR _ | exact oN _ | exact j7s N _ _ _ _ _ _ _ _ | apply oC | apply oS | refine oB ?_ ?_ | intro _)
theorem jbq (N a b c d e f g h):OLe (@j1e (j0z N) a b c d e f g h) (j1e a b c d e f g h):=by
 unfold j1e
 with_reducible repeat' (first | exact oR _ | exact oN _ | exact j5N N _ _ | exact jcx N _ _ | apply oC | apply oS | refine oB ?_ ?_ | intro _)
theorem jeX (N a b c d e f g h):OLe (@j2X (j0z N) a b c d e f g h) (j2X a b c d e f g h):=OLe.loop N _ fun _=>jbq N _ _ _ _ _ _ _ _
theorem j92 (N a):OLe (@j2z (j0z N) a) (j2z a):=by
 unfold j2z
 with_reducible repeat' (first | exact oR _ | exact oN _ | exact jaS N _ | exact jeX N _ _ _ _ _ _ _ _ | exact j8Z N _ _ _ _ _ | exact j91 N _ _ _ _ _ | apply oC | apply oS | refine oB ?_ ?_ | intro _)
theorem jiI (N a b c d e f g h):OLe (@j5s (j0z N) a b c d e f g h) (j5s a b c d e f g h):=OLe.loop N _ fun _=>oR _
theorem jiJ (N a b c d e f g h):OLe (@j5t (j0z N) a b c d e f g h) (j5t a b c d e f g h):=OLe.loop N _ fun _=>oR _
theorem jiK (N a b c d e f g h):OLe (@j5u (j0z N) a b c d e f g h) (j5u a b c d e f g h):=OLe.loop N _ fun _=>oR _
theorem jiL (N a b c d e f g h i j):OLe (@j4t (j0z N) a b c d e f g h i j) (j4t a b c d e f g h i j):=OLe.loop N _ fun _=>oR _
theorem jmD (N a):OLe (@j9v (j0z N) a) (j9v a):=by
 unfold j9v
 with_reducible repeat' (first | exact oR _ | exact oN _ | exact jiI N _ _ _ _ _ _ _ _ | exact jiJ N _ _ _ _ _ _ _ _ | exact jiK N _ _ _ _ _ _ _ _ | exact jiL N _ _ _ _ _ _ _ _ _ _ | apply oC | apply oS | refine oB ?_ ?_ | intro _)
theorem jgK (N a b):OLe (@j88 (j0z N) a b) (j88 a b):=by
 unfold j88
 with_reducible repeat' (first | exact oR _ | exact oN _ | exact j92 N _ | exact jmD N _ | apply oC | apply oS | refine oB ?_ ?_ | intro _)
theorem jl8 (N a b c):OLe (@j9k (j0z N) a b c) (j9k a b c):=by
 unfold j9k
 with_reducible repeat' (first | exact oR _ | exact oN _ | exact jgK N _ _ | exact j92 N _ | apply oC | apply oS | refine oB ?_ ?_ | intro _)
theorem jjg (N a b c):OLe (@j19 (j0z N) a b c) (j19 a b c):=by
 unfold j19
 with_reducible repeat' (first | exact oR _ | exact oN _ | exact jgK N _ _ | apply oC | apply oS | refine oB ?_ ?_ | intro _)
theorem jpu (N a):OLe (@jie (j0z N) a) (jie a):=by
 unfold jie
 with_reducible repeat' (first | exact oR _ | exact oN _ | exact ja4 N _ | apply oC | apply oS | refine oB ?_ ?_ | intro _)
theorem jcy (N a b c d):OLe (@j3g (j0z N) a b c d) (j3g a b c d):=by
 unfold j3g
 with_reducible repeat' (first | exact oR _ | exact oN _ | exact jpu N _ | apply oC | apply oS | refine oB ?_ ?_ | intro _)
theorem jgr (N a b c d):OLe (@jaA (j0z N) a b c d) (jaA a b c d):=OLe.loop N _ fun _=>jcy N _ _ _ _
theorem jjh (N a):OLe (@j9w (j0z N) a) (j9w a):=by
 unfold j9w
 with_reducible repeat' (first | exact oR _ | exact oN _ | exact jgr N _ _ _ _ | apply oC | apply oS | refine oB ?_ ?_ | intro _)
theorem jmE (N a):OLe (@jd1 (j0z N) a) (jd1 a):=by
 unfold jd1
 with_reducible repeat' (first | exact oR _ | exact oN _ | exact jjh N _ | apply oC | apply oS | refine oB ?_ ?_ | intro _)
theorem jpv (N a):OLe (@jif (j0z N) a) (jif a):=by
 unfold jif
 with_reducible repeat' (first | exact oR _ | exact oN _ | exact j92 N _ | exact jmE N _ | apply oC | apply oS | refine oB ?_ ?_ | intro _)
theorem jgs (N a b c d e):OLe (@jaB (j0z N) a b c d e) (jaB a b c d e):=OLe.loop N _ fun _=>oR _
theorem jji (N a b c d):OLe (@j9z (j0z N) a b c d) (j9z a b c d):=by
 unfold j9z
 with_reducible repeat' (first | exact oR _ | exact oN _ | exact jgs N _ _ _ _ _ | apply oC | apply oS | refine oB ?_ ?_ | intro _)
theorem jaa (N a b):OLe (@j3y (j0z N) a b) (j3y a b):=by
 unfold j3y
 with_reducible repeat' (first | exact oR _ | exact oN _ | exact jji N _ _ _ _ | apply oC | apply oS | refine oB ?_ ?_ | intro _)
theorem j9h (N a b c d e):OLe (@j1L (j0z N) a b c d e) (j1L a b c d e):=by
 unfold j1L
 with_reducible repeat' (first | exact oR _ | exact oN _ | exact jaa N _ _ | apply oC | apply oS | refine oB ?_ ?_ | intro _)
theorem jcb (N a b c d e):OLe (@j64 (j0z N) a b c d e) (j64 a b c d e):=OLe.loop N _ fun _=>j9h N _ _ _ _ _
theorem jdT (N a b c):OLe (@j4f (j0z N) a b c) (j4f a b c):=by
 unfold j4f
 with_reducible repeat' (first | exact oR _ | exact oN _ | exact jcb N _ _ _ _ _ | apply oC | apply oS | refine oB ?_ ?_ | intro _)
theorem jcz (N a b c d e):OLe (@j6C (j0z N) a b c d e) (j6C a b c d e):=OLe.loop N _ fun _=>oR _
theorem jeY (N a b):OLe (@j3z (j0z N) a b) (j3z a b):=by
 unfold j3z
 with_reducible repeat' (first | exact oR _ | exact oN _ | exact jdT N _ _ _ | exact jcz N _ _ _ _ _ | apply oC | apply oS | refine oB ?_ ?_ | intro _)
theorem j6K (N a b c):OLe (@j2Y (j0z N) a b c) (j2Y a b c):=by
 unfold j2Y
 with_reducible repeat' (first | exact oR _ | exact oN _ | exact jeY N _ _ | apply oC | apply oS | refine oB ?_ ?_ | intro _)
theorem jdU (N a b):OLe (@j4g (j0z N) a b) (j4g a b):=by
 unfold j4g
 with_reducible repeat' (first | exact oR _ | exact oN _ | exact jaa N _ _ | apply oC | apply oS | refine oB ?_ ?_ | intro _)
theorem jab (N a b):OLe (@j2n (j0z N) a b) (j2n a b):=by
 unfold j2n
 with_reducible repeat' (first | exact oR _ | exact oN _ | exact jdU N _ _ | apply oC | apply oS | refine oB ?_ ?_ | intro _)
theorem jbr (N a b c d e f g h i j k l m n):OLe (@j2B (j0z N) a b c d e f g h i j k l m n) (j2B a b c d e f g h i j k l m n):=by
 unfold j2B
 with_reducible repeat' (first | exact oR _ | exact oN _ | exact j6K N _ _ _ | apply oC | apply oS | refine oB ?_ ?_ | intro _)
theorem jeZ (N a b c d e f g h i j k l m n):OLe (@j8I (j0z N) a b c d e f g h i j k l m n) (j8I a b c d e f g h i j k l m n):=OLe.loop N _ fun _=>jbr N _ _ _ _ _ _ _ _ _ _ _ _ _ _
theorem jbs (N a b c d e f g h i j k l m n):OLe (@j2C (j0z N) a b c d e f g h i j k l m n) (j2C a b c d e f g h i j k l m n):=by
 unfold j2C
 with_reducible repeat' (first | exact oR _ | exact oN _ | exact j6K N _ _ _ | apply oC | apply oS | refine oB ?_ ?_ | intro _)
theorem jf0 (N a b c d e f g h i j k l m n):OLe (@j8J (j0z N) a b c d e f g h i j k l m n) (j8J a b c d e f g h i j k l m n):=OLe.loop N _ fun _=>jbs N _ _ _ _ _ _ _ _ _ _ _ _ _ _
theorem jh7 (N a b c):OLe (@j72 (j0z N) a b c) (j72 a b c):=by
 unfold j72
 with_reducible repeat' (first | exact oR _ | exact oN _ | exact j6K N _ _ _ | exact jab N _ _ | exact jeZ N _ _ _ _ _ _ _ _ _ _ _ _ _ _ | exact jf0 N _ _ _ _ _ _ _ _ _ _ _ _ _ _ | apply oC | apply oS | refine oB ?_ ?_ | intro _)
theorem jjj (N a b c d):OLe (@jep (j0z N) a b c d) (jep a b c d):=OLe.loop N _ fun _=>oR _
theorem jnM (N a b):OLe (@jfp (j0z N) a b) (jfp a b):=by
 unfold jfp
 with_reducible repeat' (first | exact oR _ | exact oN _ | exact jjj N _ _ _ _ | apply oC | apply oS | refine oB ?_ ?_ | intro _)
theorem j7m (N a b c d e):OLe (@j2D (j0z N) a b c d e) (j2D a b c d e):=OLe.loop N _ fun _=>oR _
theorem j8y (N a b):OLe (@j1a (j0z N) a b) (j1a a b):=by
 unfold j1a
 with_reducible repeat' (first | exact oR _ | exact oN _ | exact j7m N _ _ _ _ _ | apply oC | apply oS | refine oB ?_ ?_ | intro _)
theorem jiM (N a b c):OLe (@j89 (j0z N) a b c) (j89 a b c):=by
 unfold j89
 with_reducible repeat' (first | exact oR _ | exact oN _ | exact jh7 N _ _ _ | exact jab N _ _ | exact jnM N _ _ | exact j8y N _ _ | apply oC | apply oS | refine oB ?_ ?_ | intro _)
theorem jf1 (N a b c):OLe (@j4H (j0z N) a b c) (j4H a b c):=by
 unfold j4H
 with_reducible repeat' (first | exact oR _ | exact oN _ | exact jiM N _ _ _ | apply oC | apply oS | refine oB ?_ ?_ | intro _)
theorem j5h (N a b c d e):OLe (@j1G (j0z N) a b c d e) (j1G a b c d e):=OLe.loop N _ fun _=>oR _
theorem j6o (N a b c):OLe (@j0P (j0z N) a b c) (j0P a b c):=by
 unfold j0P
 with_reducible repeat' (first | exact oR _ | exact oN _ | exact j5h N _ _ _ _ _ | apply oC | apply oS | refine oB ?_ ?_ | intro _)
theorem j5i (N a b c):OLe (@j0H (j0z N) a b c) (j0H a b c):=by
 unfold j0H
 with_reducible repeat' (first | exact oR _ | exact oN _ | exact j6o N _ _ _ | apply oC | apply oS | refine oB ?_ ?_ | intro _)
theorem jl9 (N a b c):OLe (@jbb (j0z N) a b c) (jbb a b c):=by
 unfold jbb
 with_reducible repeat' (first | exact oR _ | exact oN _ | exact j5i N _ _ _ | apply oC | apply oS | refine oB ?_ ?_ | intro _)
theorem jbt (N a b c d e f g h i j k l m):OLe (@j2E (j0z N) a b c d e f g h i j k l m) (j2E a b c d e f g h i j k l m):=by
 unfold j2E
 with_reducible repeat' (first | exact oR _ | exact oN _ | exact jf1 N _ _ _ | exact jl9 N _ _ _ | apply oC | apply oS | refine oB ?_ ?_ | intro _)
theorem jf2 (N a b c d e f g h i j k l m):OLe (@j8L (j0z N) a b c d e f g h i j k l m) (j8L a b c d e f g h i j k l m):=OLe.loop N _ fun _=>jbt N _ _ _ _ _ _ _ _ _ _ _ _ _
theorem jh8 (N a b c):OLe (@j73 (j0z N) a b c) (j73 a b c):=by
 unfold j73
 with_reducible repeat' (first | exact oR _ | exact oN _ | exact jf2 N _ _ _ _ _ _ _ _ _ _ _ _ _ | apply oC | apply oS | refine oB ?_ ?_ | intro _)
theorem jiN (N a b c d e):OLe (@jd2 (j0z N) a b c d e) (jd2 a b c d e):=OLe.loop N _ fun _=>oR _
theorem jmF (N a b c):OLe (@jd3 (j0z N) a b c) (jd3 a b c):=by
 unfold jd3
 with_reducible repeat' (first | exact oR _ | exact oN _ | exact jiN N _ _ _ _ _ | apply oC | apply oS | refine oB ?_ ?_ | intro _)
theorem jla (N a b c):OLe (@jbd (j0z N) a b c) (jbd a b c):=by
 unfold jbd
 with_reducible repeat' (first | exact oR _ | exact oN _ | exact jh8 N _ _ _ | exact jmF N _ _ _ | apply oC | apply oS | refine oB ?_ ?_ | intro _)
theorem jnN (N a b c):OLe (@jar (j0z N) a b c) (jar a b c):=by
 unfold jar
 with_reducible repeat' (first | exact oR _ | exact oN _ | exact jpv N _ | exact jla N _ _ _ | apply oC | apply oS | refine oB ?_ ?_ | intro _)
theorem jlb (N):OLe (@j6Q (j0z N) ) (j6Q ):=by
 unfold j6Q
 with_reducible repeat' (first | exact oR _ | exact oN _ | exact jl8 N _ _ _ | exact jjg N _ _ _ | exact jnN N _ _ _ | apply oC | apply oS | refine oB ?_ ?_ | intro _)
abbrev jlc (N:Nat):=@j0Y (j0z N)
end
theorem jr7:j6Q=some true:=jlb 60 true (by kernel_rfl)
end Go.Proofs.Pw
