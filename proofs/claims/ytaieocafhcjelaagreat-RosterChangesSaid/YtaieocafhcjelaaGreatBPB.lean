/- Twins with a bound on their rounds, printed by a program. -/
import Derived.Test.YtaieocafhcjelaaGreatBFns
import Derived.Test.YtaieocafhcjelaaGreatBLD
open Go Go.Lft
set_option linter.unusedVariables false
set_option maxRecDepth 100000
namespace Go.Proofs.Pw
noncomputable section
theorem jic (N a b c):OLe (@jcV (j0c N) a b c) (jcV a b c):=OLe.loop N _ fun _=>oR _
theorem j8s (N a):OLe (@j7S (j0c N) a) (j7S a):=by
 unfold j7S
 with_reducible repeat' (first | exact oR _ | exact oN _ | exact jic N _ _ _ | apply oC | apply oS | refine oB ?_ ?_ | intro _)
theorem j6F (N a b):OLe (@j3z (j0c N) a b) (j3z a b):=by
 unfold j3z
 with_reducible repeat' (first | exact oR _ | exact oN _ | exact j8s N _ | apply oC | apply oS | refine oB ?_ ?_ | intro _)
theorem jgG (N a b c d e):OLe (@j5g (j0c N) a b c d e) (j5g a b c d e):=OLe.loop N _ fun _=>oR _
theorem jjM (N a):OLe (@j6o (j0c N) a) (j6o a):=by
 unfold j6o
 with_reducible repeat' (first | exact oR _ | exact oN _ | exact jgG N _ _ _ _ _ | apply oC | apply oS | refine oB ?_ ?_ | intro _)
theorem jnQ (N a b c d):OLe (@jaD (j0c N) a b c d) (jaD a b c d):=by
 unfold jaD
 with_reducible repeat' (first | exact oR _ | exact oN _ | exact jjM N _ | apply oC | apply oS | refine oB ?_ ?_ | intro _)
theorem j4y (N a b c d e):OLe (@j0j (j0c N) a b c d e) (j0j a b c d e):=OLe.loop N _ fun _=>oR _
theorem j42 (N a b c d):OLe (@j08 (j0c N) a b c d) (j08 a b c d):=by
 unfold j08
 with_reducible repeat' (first | exact oR _ | exact oN _ | exact j4y N _ _ _ _ _ | apply oC | apply oS | refine oB ?_ ?_ | intro _)
theorem j4z (N a b c d):OLe (@j0k (j0c N) a b c d) (j0k a b c d):=OLe.loop N _ fun _=>j42 N _ _ _ _
theorem j2G (N a b c):OLe (@j0d (j0c N) a b c) (j0d a b c):=by
 unfold j0d
 with_reducible repeat' (first | exact oR _ | exact oN _ | exact j4z N _ _ _ _ | apply oC | apply oS | refine oB ?_ ?_ | intro _)
theorem j55 (N a b c d e):OLe (@j0f (j0c N) a b c d e) (j0f a b c d e):=by
 unfold j0f
 with_reducible repeat' (first | exact oR _ | exact oN _ | exact j2G N _ _ _ | apply oC | apply oS | refine oB ?_ ?_ | intro _)
theorem j5Y (N a b c d e):OLe (@j0A (j0c N) a b c d e) (j0A a b c d e):=OLe.loop N _ fun _=>j55 N _ _ _ _ _
theorem j5Z (N a b c d e):OLe (@j2e (j0c N) a b c d e) (j2e a b c d e):=OLe.loop N _ fun _=>oR _
theorem j56 (N a b c):OLe (@j0g (j0c N) a b c) (j0g a b c):=by
 unfold j0g
 with_reducible repeat' (first | exact oR _ | exact oN _ | exact j5Z N _ _ _ _ _ | apply oC | apply oS | refine oB ?_ ?_ | intro _)
theorem j60 (N a b c):OLe (@j0B (j0c N) a b c) (j0B a b c):=OLe.loop N _ fun _=>j56 N _ _ _
theorem j6G (N a b):OLe (@j0N (j0c N) a b) (j0N a b):=by
 unfold j0N
 with_reducible repeat' (first | exact oR _ | exact oN _ | exact j5Y N _ _ _ _ _ | exact j2G N _ _ _ | exact j60 N _ _ _ | apply oC | apply oS | refine oB ?_ ?_ | intro _)
theorem j3J (N a):OLe (@j0a (j0c N) a) (j0a a):=by
 unfold j0a
 with_reducible repeat' (first | exact oR _ | exact oN _ | exact j6G N _ _ | apply oC | apply oS | refine oB ?_ ?_ | intro _)
theorem jdF (N a b c d e f g):OLe (@j2H (j0c N) a b c d e f g) (j2H a b c d e f g):=OLe.loop N _ fun _=>oR _
theorem jb7 (N a b c d e f g h i j k l):OLe (@j13 (j0c N) a b c d e f g h i j k l) (j13 a b c d e f g h i j k l):=by
 unfold j13
 with_reducible repeat' (first | exact oR _ | exact oN _ | exact jnQ N _ _ _ _ | apply oC | apply oS | refine oB ?_ ?_ | intro _)
theorem jdG (N a b c d e f g h i j k l):OLe (@j3i (j0c N) a b c d e f g h i j k l) (j3i a b c d e f g h i j k l):=OLe.loop N _ fun _=>jb7 N _ _ _ _ _ _ _ _ _ _ _ _
theorem jb8 (N a b c d):OLe (@j14 (j0c N) a b c d) (j14 a b c d):=by
 unfold j14
 with_reducible repeat' (first | exact oR _ | exact oN _ | exact jdG N _ _ _ _ _ _ _ _ _ _ _ _ | apply oC | apply oS | refine oB ?_ ?_ | intro _)
theorem jdH (N a b c d):OLe (@j2I (j0c N) a b c d) (j2I a b c d):=OLe.loop N _ fun _=>jb8 N _ _ _ _
theorem jfJ (N a):OLe (@j3P (j0c N) a) (j3P a):=by
 unfold j3P
 with_reducible repeat' (first | exact oR _ | exact oN _ | exact jdF N _ _ _ _ _ _ _ | exact jdH N _ _ _ _ | exact j3J N _ | apply oC | apply oS | refine oB ?_ ?_ | intro _)
theorem jdI (N a b c d e):OLe (@j2J (j0c N) a b c d e) (j2J a b c d e):=OLe.loop N _ fun _=>oR _
theorem jb9 (N a):OLe (@j2m (j0c N) a) (j2m a):=by
 unfold j2m
 with_reducible repeat' (first | exact oR _ | exact oN _ | exact jfJ N _ | exact jdI N _ _ _ _ _ | apply oC | apply oS | refine oB ?_ ?_ | intro _)
theorem jmj (N a):OLe (@j7T (j0c N) a) (j7T a):=by
 unfold j7T
 with_reducible repeat' (first | exact oR _ | exact oN _ | exact jb9 N _ | apply oC | apply oS | refine oB ?_ ?_ | intro _)
theorem j4T (N a b c):OLe (@j0l (j0c N) a b c) (j0l a b c):=OLe.loop N _ fun _=>oR _
theorem j5v (N a):OLe (@j0t (j0c N) a) (j0t a):=by
 unfold j0t
 with_reducible repeat' (first | exact oR _ | exact oN _ | exact j4T N _ _ _ | apply oC | apply oS | refine oB ?_ ?_ | intro _)
theorem j4U (N a):OLe (@j0m (j0c N) a) (j0m a):=by
 unfold j0m
 with_reducible repeat' (first | exact oR _ | exact oN _ | exact j5v N _ | apply oC | apply oS | refine oB ?_ ?_ | intro _)
theorem jeM (N a):OLe (@j2R (j0c N) a) (j2R a):=by
 unfold j2R
 with_reducible repeat' (first | exact oR _ | exact oN _ | exact jmj N _ | exact j4U N _ | apply oC | apply oS | refine oB ?_ ?_ | intro _)
theorem j8t (N a b c d):OLe (@j0E (j0c N) a b c d) (j0E a b c d):=by
 unfold j0E
 with_reducible repeat' (first | exact oR _ | exact oN _ | exact j6F N _ _ | exact jeM N _ | apply oC | apply oS | refine oB ?_ ?_ | intro _)
theorem jap (N a b c d):OLe (@j1q (j0c N) a b c d) (j1q a b c d):=OLe.loop N _ fun _=>j8t N _ _ _ _
theorem jc9 (N a):OLe (@j23 (j0c N) a) (j23 a):=by
 unfold j23
 with_reducible repeat' (first | exact oR _ | exact oN _ | exact jap N _ _ _ _ | apply oC | apply oS | refine oB ?_ ?_ | intro _)
theorem jid (N a b c d):OLe (@j6J (j0c N) a b c d) (j6J a b c d):=OLe.loop N _ fun _=>oR _
theorem jgH (N a):OLe (@j7U (j0c N) a) (j7U a):=by
 unfold j7U
 with_reducible repeat' (first | exact oR _ | exact oN _ | exact jid N _ _ _ _ | apply oC | apply oS | refine oB ?_ ?_ | intro _)
theorem jdJ (N a b):OLe (@j1Q (j0c N) a b) (j1Q a b):=by
 unfold j1Q
 with_reducible repeat' (first | exact oR _ | exact oN _ | exact jgH N _ | apply oC | apply oS | refine oB ?_ ?_ | intro _)
theorem jie (N a b):OLe (@jcW (j0c N) a b) (jcW a b):=OLe.loop N _ fun _=>oR _
theorem jmk (N a):OLe (@jco (j0c N) a) (jco a):=by
 unfold jco
 with_reducible repeat' (first | exact oR _ | exact oN _ | exact jie N _ _ | apply oC | apply oS | refine oB ?_ ?_ | intro _)
theorem jgI (N a b c d e f g):OLe (@jaE (j0c N) a b c d e f g) (jaE a b c d e f g):=OLe.loop N _ fun _=>oR _
theorem jjN (N a):OLe (@j6p (j0c N) a) (j6p a):=by
 unfold j6p
 with_reducible repeat' (first | exact oR _ | exact oN _ | exact jmk N _ | exact jgI N _ _ _ _ _ _ _ | apply oC | apply oS | refine oB ?_ ?_ | intro _)
theorem j9k (N a):OLe (@j1z (j0c N) a) (j1z a):=by
 unfold j1z
 with_reducible repeat' (first | exact oR _ | exact oN _ | exact jjN N _ | apply oC | apply oS | refine oB ?_ ?_ | intro _)
theorem jba (N a):OLe (@j28 (j0c N) a) (j28 a):=by
 unfold j28
 with_reducible repeat' (first | exact oR _ | exact oN _ | exact j9k N _ | apply oC | apply oS | refine oB ?_ ?_ | intro _)
theorem j7P (N a b c):OLe (@j0x (j0c N) a b c) (j0x a b c):=by
 unfold j0x
 with_reducible repeat' (first | exact oR _ | exact oN _ | exact jba N _ | apply oC | apply oS | refine oB ?_ ?_ | intro _)
theorem j9F (N a b c):OLe (@j1A (j0c N) a b c) (j1A a b c):=OLe.loop N _ fun _=>j7P N _ _ _
theorem jbb (N a):OLe (@j29 (j0c N) a) (j29 a):=by
 unfold j29
 with_reducible repeat' (first | exact oR _ | exact oN _ | exact j9F N _ _ _ | apply oC | apply oS | refine oB ?_ ?_ | intro _)
theorem j9G (N a):OLe (@j1B (j0c N) a) (j1B a):=by
 unfold j1B
 with_reducible repeat' (first | exact oR _ | exact oN _ | exact jbb N _ | apply oC | apply oS | refine oB ?_ ?_ | intro _)
theorem jbc (N a b c d e):OLe (@j2a (j0c N) a b c d e) (j2a a b c d e):=OLe.loop N _ fun _=>oR _
theorem jcC (N a b):OLe (@j1I (j0c N) a b) (j1I a b):=by
 unfold j1I
 with_reducible repeat' (first | exact oR _ | exact oN _ | exact j9G N _ | exact jbc N _ _ _ _ _ | apply oC | apply oS | refine oB ?_ ?_ | intro _)
theorem jfK (N a b c d e):OLe (@j4A (j0c N) a b c d e) (j4A a b c d e):=by
 unfold j4A
 with_reducible repeat' (first | exact oR _ | exact oN _ | exact jcC N _ _ | apply oC | apply oS | refine oB ?_ ?_ | intro _)
theorem j7h (N a b c d e f g h):OLe (@j0r (j0c N) a b c d e f g h) (j0r a b c d e f g h):=by
 unfold j0r
 with_reducible repeat' (first | exact oR _ | exact oN _ | exact j6F N _ _ | exact jfK N _ _ _ _ _ | apply oC | apply oS | refine oB ?_ ?_ | intro _)
theorem j8D (N a b c d e f g h):OLe (@j0V (j0c N) a b c d e f g h) (j0V a b c d e f g h):=OLe.loop N _ fun _=>j7h N _ _ _ _ _ _ _ _
theorem ja4 (N a b c d e):OLe (@j1e (j0c N) a b c d e) (j1e a b c d e):=by
 unfold j1e
 with_reducible repeat' (first | exact oR _ | exact oN _ | exact j8D N _ _ _ _ _ _ _ _ | apply oC | apply oS | refine oB ?_ ?_ | intro _)
theorem j8u (N a b c d e f g):OLe (@j15 (j0c N) a b c d e f g) (j15 a b c d e f g):=OLe.loop N _ fun _=>oR _
theorem j9H (N a b c d e):OLe (@j1C (j0c N) a b c d e) (j1C a b c d e):=by
 unfold j1C
 with_reducible repeat' (first | exact oR _ | exact oN _ | exact j8u N _ _ _ _ _ _ _ | apply oC | apply oS | refine oB ?_ ?_ | intro _)
theorem j8v (N a b c d e):OLe (@j16 (j0c N) a b c d e) (j16 a b c d e):=by
 unfold j16
 with_reducible repeat' (first | exact oR _ | exact oN _ | exact j9H N _ _ _ _ _ | apply oC | apply oS | refine oB ?_ ?_ | intro _)
theorem jej (N a b):OLe (@j2x (j0c N) a b) (j2x a b):=by
 unfold j2x
 with_reducible repeat' (first | exact oR _ | exact oN _ | exact j9k N _ | exact j8v N _ _ _ _ _ | exact jgH N _ | apply oC | apply oS | refine oB ?_ ?_ | intro _)
theorem jbd (N a b c d e):OLe (@j2b (j0c N) a b c d e) (j2b a b c d e):=by
 unfold j2b
 with_reducible repeat' (first | exact oR _ | exact oN _ | exact jej N _ _ | apply oC | apply oS | refine oB ?_ ?_ | intro _)
theorem j7Y (N a b c d e f g h):OLe (@j0C (j0c N) a b c d e f g h) (j0C a b c d e f g h):=by
 unfold j0C
 with_reducible repeat' (first | exact oR _ | exact oN _ | exact j6F N _ _ | exact jbd N _ _ _ _ _ | apply oC | apply oS | refine oB ?_ ?_ | intro _)
theorem ja5 (N a b c d e f g h):OLe (@j1f (j0c N) a b c d e f g h) (j1f a b c d e f g h):=OLe.loop N _ fun _=>j7Y N _ _ _ _ _ _ _ _
theorem jbp (N a b c d e):OLe (@j1R (j0c N) a b c d e) (j1R a b c d e):=by
 unfold j1R
 with_reducible repeat' (first | exact oR _ | exact oN _ | exact ja5 N _ _ _ _ _ _ _ _ | apply oC | apply oS | refine oB ?_ ?_ | intro _)
theorem jeN (N a b):OLe (@j2S (j0c N) a b) (j2S a b):=by
 unfold j2S
 with_reducible repeat' (first | exact oR _ | exact oN _ | exact j9k N _ | apply oC | apply oS | refine oB ?_ ?_ | intro _)
theorem j8E (N a b c d e f g):OLe (@j0J (j0c N) a b c d e f g) (j0J a b c d e f g):=by
 unfold j0J
 with_reducible repeat' (first | exact oR _ | exact oN _ | exact jeN N _ _ | apply oC | apply oS | refine oB ?_ ?_ | intro _)
theorem jbe (N a b c d e f g):OLe (@j2c (j0c N) a b c d e f g) (j2c a b c d e f g):=OLe.loop N _ fun _=>j8E N _ _ _ _ _ _ _
theorem jcD (N a b):OLe (@j1J (j0c N) a b) (j1J a b):=by
 unfold j1J
 with_reducible repeat' (first | exact oR _ | exact oN _ | exact jbp N _ _ _ _ _ | exact jbe N _ _ _ _ _ _ _ | apply oC | apply oS | refine oB ?_ ?_ | intro _)
theorem jfL (N a b c d e):OLe (@j4B (j0c N) a b c d e) (j4B a b c d e):=by
 unfold j4B
 with_reducible repeat' (first | exact oR _ | exact oN _ | exact jcD N _ _ | apply oC | apply oS | refine oB ?_ ?_ | intro _)
theorem j7i (N a b c d e f g h):OLe (@j0s (j0c N) a b c d e f g h) (j0s a b c d e f g h):=by
 unfold j0s
 with_reducible repeat' (first | exact oR _ | exact oN _ | exact j6F N _ _ | exact jfL N _ _ _ _ _ | apply oC | apply oS | refine oB ?_ ?_ | intro _)
theorem j8F (N a b c d e f g h):OLe (@j0W (j0c N) a b c d e f g h) (j0W a b c d e f g h):=OLe.loop N _ fun _=>j7i N _ _ _ _ _ _ _ _
theorem ja6 (N a b c d e):OLe (@j1P (j0c N) a b c d e) (j1P a b c d e):=by
 unfold j1P
 with_reducible repeat' (first | exact oR _ | exact oN _ | exact j8F N _ _ _ _ _ _ _ _ | apply oC | apply oS | refine oB ?_ ?_ | intro _)
theorem jcE (N a b c d e f g h):OLe (@j1K (j0c N) a b c d e f g h) (j1K a b c d e f g h):=by
 unfold j1K
 with_reducible repeat' (first | exact oR _ | exact oN _ | exact j6F N _ _ | exact jdJ N _ _ | apply oC | apply oS | refine oB ?_ ?_ | intro _)
theorem jfM (N a b c d e f g h):OLe (@j3Q (j0c N) a b c d e f g h) (j3Q a b c d e f g h):=OLe.loop N _ fun _=>jcE N _ _ _ _ _ _ _ _
theorem jif (N a):OLe (@j4H (j0c N) a) (j4H a):=by
 unfold j4H
 with_reducible repeat' (first | exact oR _ | exact oN _ | exact jc9 N _ | exact jfM N _ _ _ _ _ _ _ _ | exact ja4 N _ _ _ _ _ | exact ja6 N _ _ _ _ _ | apply oC | apply oS | refine oB ?_ ?_ | intro _)
theorem jqE (N a):OLe (@je4 (j0c N) a) (je4 a):=by
 unfold je4
 with_reducible repeat' (first | exact oR _ | exact oN _ | exact jb9 N _ | apply oC | apply oS | refine oB ?_ ?_ | intro _)
theorem jdK (N a b c d):OLe (@j2f (j0c N) a b c d) (j2f a b c d):=by
 unfold j2f
 with_reducible repeat' (first | exact oR _ | exact oN _ | exact jqE N _ | apply oC | apply oS | refine oB ?_ ?_ | intro _)
theorem jht (N a b c d):OLe (@j4W (j0c N) a b c d) (j4W a b c d):=OLe.loop N _ fun _=>jdK N _ _ _ _
theorem jko (N a):OLe (@j8V (j0c N) a) (j8V a):=by
 unfold j8V
 with_reducible repeat' (first | exact oR _ | exact oN _ | exact jht N _ _ _ _ | apply oC | apply oS | refine oB ?_ ?_ | intro _)
theorem jnR (N a):OLe (@jaG (j0c N) a) (jaG a):=by
 unfold jaG
 with_reducible repeat' (first | exact oR _ | exact oN _ | exact jko N _ | apply oC | apply oS | refine oB ?_ ?_ | intro _)
theorem jhu (N a):OLe (@jcX (j0c N) a) (jcX a):=by
 unfold jcX
 with_reducible repeat' (first | exact oR _ | exact oN _ | exact jif N _ | exact jnR N _ | apply oC | apply oS | refine oB ?_ ?_ | intro _)
theorem jf3 (N a b c d):OLe (@j4X (j0c N) a b c d) (j4X a b c d):=by
 unfold j4X
 with_reducible repeat' (first | exact oR _ | exact oN _ | exact jhu N _ | apply oC | apply oS | refine oB ?_ ?_ | intro _)
theorem j8w (N a b c d e):OLe (@j0T (j0c N) a b c d e) (j0T a b c d e):=OLe.loop N _ fun _=>oR _
theorem j9I (N a b c):OLe (@j1D (j0c N) a b c) (j1D a b c):=by
 unfold j1D
 with_reducible repeat' (first | exact oR _ | exact oN _ | exact j8w N _ _ _ _ _ | apply oC | apply oS | refine oB ?_ ?_ | intro _)
theorem j9b (N a b c d e):OLe (@j1v (j0c N) a b c d e) (j1v a b c d e):=OLe.loop N _ fun _=>oR _
theorem jaq (N a b c):OLe (@j1r (j0c N) a b c) (j1r a b c):=by
 unfold j1r
 with_reducible repeat' (first | exact oR _ | exact oN _ | exact j9I N _ _ _ | exact j9b N _ _ _ _ _ | apply oC | apply oS | refine oB ?_ ?_ | intro _)
theorem jar (N a b c d):OLe (@j1s (j0c N) a b c d) (j1s a b c d):=OLe.loop N _ fun _=>oR _
theorem j8x (N a b):OLe (@j0F (j0c N) a b) (j0F a b):=by
 unfold j0F
 with_reducible repeat' (first | exact oR _ | exact oN _ | exact jar N _ _ _ _ | apply oC | apply oS | refine oB ?_ ?_ | intro _)
theorem jas (N a b):OLe (@j0P (j0c N) a b) (j0P a b):=OLe.loop N _ fun _=>j8x N _ _
theorem jca (N a):OLe (@j24 (j0c N) a) (j24 a):=by
 unfold j24
 with_reducible repeat' (first | exact oR _ | exact oN _ | exact jas N _ _ | apply oC | apply oS | refine oB ?_ ?_ | intro _)
theorem jnS (N a b c):OLe (@jaI (j0c N) a b c) (jaI a b c):=by
 unfold jaI
 with_reducible repeat' (first | exact oR _ | exact oN _ | exact jaq N _ _ _ | exact jca N _ | apply oC | apply oS | refine oB ?_ ?_ | intro _)
theorem jhv (N a b c d e):OLe (@j61 (j0c N) a b c d e) (j61 a b c d e):=OLe.loop N _ fun _=>oR _
theorem jkp (N a b c d):OLe (@j8X (j0c N) a b c d) (j8X a b c d):=by
 unfold j8X
 with_reducible repeat' (first | exact oR _ | exact oN _ | exact jhv N _ _ _ _ _ | apply oC | apply oS | refine oB ?_ ?_ | intro _)
theorem jbf (N a b):OLe (@j3b (j0c N) a b) (j3b a b):=by
 unfold j3b
 with_reducible repeat' (first | exact oR _ | exact oN _ | exact jkp N _ _ _ _ | apply oC | apply oS | refine oB ?_ ?_ | intro _)
theorem jat (N a b c d e):OLe (@j0p (j0c N) a b c d e) (j0p a b c d e):=by
 unfold j0p
 with_reducible repeat' (first | exact oR _ | exact oN _ | exact jbf N _ _ | apply oC | apply oS | refine oB ?_ ?_ | intro _)
theorem jdf (N a b c d e):OLe (@j1Y (j0c N) a b c d e) (j1Y a b c d e):=OLe.loop N _ fun _=>jat N _ _ _ _ _
theorem j7j (N a b c):OLe (@j1i (j0c N) a b c) (j1i a b c):=by
 unfold j1i
 with_reducible repeat' (first | exact oR _ | exact oN _ | exact jdf N _ _ _ _ _ | apply oC | apply oS | refine oB ?_ ?_ | intro _)
theorem jdL (N a b c d e):OLe (@j2K (j0c N) a b c d e) (j2K a b c d e):=OLe.loop N _ fun _=>oR _
theorem jfN (N a b):OLe (@j1V (j0c N) a b) (j1V a b):=by
 unfold j1V
 with_reducible repeat' (first | exact oR _ | exact oN _ | exact j7j N _ _ _ | exact jdL N _ _ _ _ _ | apply oC | apply oS | refine oB ?_ ?_ | intro _)
theorem j4r (N a b c):OLe (@j0K (j0c N) a b c) (j0K a b c):=by
 unfold j0K
 with_reducible repeat' (first | exact oR _ | exact oN _ | exact jfN N _ _ | apply oC | apply oS | refine oB ?_ ?_ | intro _)
theorem j6j (N a b c):OLe (@j0v (j0c N) a b c) (j0v a b c):=OLe.loop N _ fun _=>oR _
theorem j7k (N a):OLe (@j0R (j0c N) a) (j0R a):=by
 unfold j0R
 with_reducible repeat' (first | exact oR _ | exact oN _ | exact j6j N _ _ _ | apply oC | apply oS | refine oB ?_ ?_ | intro _)
theorem j66 (N a b c):OLe (@j0D (j0c N) a b c) (j0D a b c):=OLe.loop N _ fun _=>oR _
theorem j6S (N a):OLe (@j0y (j0c N) a) (j0y a):=by
 unfold j0y
 with_reducible repeat' (first | exact oR _ | exact oN _ | exact j7k N _ | exact j66 N _ _ _ | apply oC | apply oS | refine oB ?_ ?_ | intro _)
theorem jig (N a b c d):OLe (@j5F (j0c N) a b c d) (j5F a b c d):=OLe.loop N _ fun _=>oR _
theorem j8y (N a):OLe (@j5j (j0c N) a) (j5j a):=by
 unfold j5j
 with_reducible repeat' (first | exact oR _ | exact oN _ | exact j6S N _ | exact jig N _ _ _ _ | apply oC | apply oS | refine oB ?_ ?_ | intro _)
theorem jgJ (N a b c d e f g h i j k l):OLe (@j5k (j0c N) a b c d e f g h i j k l) (j5k a b c d e f g h i j k l):=OLe.loop N _ fun _=>oR _
theorem jdg (N a b c d e f g h i):OLe (@j1Z (j0c N) a b c d e f g h i) (j1Z a b c d e f g h i):=by
 unfold j1Z
 with_reducible repeat' (first | exact oR _ | exact oN _ | exact jgJ N _ _ _ _ _ _ _ _ _ _ _ _ | apply oC | apply oS | refine oB ?_ ?_ | intro _)
theorem jgK (N a b c d e f g h i):OLe (@j5l (j0c N) a b c d e f g h i) (j5l a b c d e f g h i):=OLe.loop N _ fun _=>jdg N _ _ _ _ _ _ _ _ _
theorem jdh (N a b c d e):OLe (@j20 (j0c N) a b c d e) (j20 a b c d e):=by
 unfold j20
 with_reducible repeat' (first | exact oR _ | exact oN _ | exact jgK N _ _ _ _ _ _ _ _ _ | apply oC | apply oS | refine oB ?_ ?_ | intro _)
theorem jgL (N a b c d e):OLe (@j5m (j0c N) a b c d e) (j5m a b c d e):=OLe.loop N _ fun _=>jdh N _ _ _ _ _
theorem jjO (N a b c d):OLe (@j3B (j0c N) a b c d) (j3B a b c d):=by
 unfold j3B
 with_reducible repeat' (first | exact oR _ | exact oN _ | exact j7j N _ _ _ | exact jgL N _ _ _ _ _ | exact j8y N _ | apply oC | apply oS | refine oB ?_ ?_ | intro _)
theorem jeO (N a b c d e f g h i j k l m):OLe (@j3k (j0c N) a b c d e f g h i j k l m) (j3k a b c d e f g h i j k l m):=OLe.loop N _ fun _=>oR _
theorem jcb (N a b c d e f g):OLe (@j1x (j0c N) a b c d e f g) (j1x a b c d e f g):=by
 unfold j1x
 with_reducible repeat' (first | exact oR _ | exact oN _ | exact jeO N _ _ _ _ _ _ _ _ _ _ _ _ _ | apply oC | apply oS | refine oB ?_ ?_ | intro _)
theorem jeP (N a b c d e f g):OLe (@j3l (j0c N) a b c d e f g) (j3l a b c d e f g):=OLe.loop N _ fun _=>jcb N _ _ _ _ _ _ _
theorem jhw (N a b c d):OLe (@j1H (j0c N) a b c d) (j1H a b c d):=by
 unfold j1H
 with_reducible repeat' (first | exact oR _ | exact oN _ | exact j7j N _ _ _ | exact jeP N _ _ _ _ _ _ _ | exact j8y N _ | apply oC | apply oS | refine oB ?_ ?_ | intro _)
theorem jgM (N a b c d e f g h):OLe (@j5n (j0c N) a b c d e f g h) (j5n a b c d e f g h):=OLe.loop N _ fun _=>oR _
theorem jgN (N a b c d e f g h i j):OLe (@j4k (j0c N) a b c d e f g h i j) (j4k a b c d e f g h i j):=OLe.loop N _ fun _=>oR _
theorem jdi (N a b c d e f):OLe (@j21 (j0c N) a b c d e f) (j21 a b c d e f):=by
 unfold j21
 with_reducible repeat' (first | exact oR _ | exact oN _ | exact jgM N _ _ _ _ _ _ _ _ | exact jgN N _ _ _ _ _ _ _ _ _ _ | apply oC | apply oS | refine oB ?_ ?_ | intro _)
theorem jgO (N a b c d e f):OLe (@j3C (j0c N) a b c d e f) (j3C a b c d e f):=OLe.loop N _ fun _=>jdi N _ _ _ _ _ _
theorem jbg (N a b):OLe (@j2g (j0c N) a b) (j2g a b):=by
 unfold j2g
 with_reducible repeat' (first | exact oR _ | exact oN _ | exact jgO N _ _ _ _ _ _ | apply oC | apply oS | refine oB ?_ ?_ | intro _)
theorem jhx (N a b c d e):OLe (@j3v (j0c N) a b c d e) (j3v a b c d e):=OLe.loop N _ fun _=>oR _
theorem jkq (N a b):OLe (@j6t (j0c N) a b) (j6t a b):=by
 unfold j6t
 with_reducible repeat' (first | exact oR _ | exact oN _ | exact jhx N _ _ _ _ _ | apply oC | apply oS | refine oB ?_ ?_ | intro _)
theorem jgP (N a b c d):OLe (@j3D (j0c N) a b c d) (j3D a b c d):=by
 unfold j3D
 with_reducible repeat' (first | exact oR _ | exact oN _ | exact j4r N _ _ _ | exact jjO N _ _ _ _ | exact jhw N _ _ _ _ | exact jbg N _ _ | exact jkq N _ _ | apply oC | apply oS | refine oB ?_ ?_ | intro _)
theorem jeQ (N a b):OLe (@j3m (j0c N) a b) (j3m a b):=by
 unfold j3m
 with_reducible repeat' (first | exact oR _ | exact oN _ | exact jbf N _ _ | apply oC | apply oS | refine oB ?_ ?_ | intro _)
theorem jbh (N a b):OLe (@j0u (j0c N) a b) (j0u a b):=by
 unfold j0u
 with_reducible repeat' (first | exact oR _ | exact oN _ | exact jeQ N _ _ | apply oC | apply oS | refine oB ?_ ?_ | intro _)
theorem jcF (N a b c d e f g h i j k l m n):OLe (@j1M (j0c N) a b c d e f g h i j k l m n) (j1M a b c d e f g h i j k l m n):=by
 unfold j1M
 with_reducible repeat' (first | exact oR _ | exact oN _ | exact j4r N _ _ _ | apply oC | apply oS | refine oB ?_ ?_ | intro _)
theorem jfO (N a b c d e f g h i j k l m n):OLe (@j4C (j0c N) a b c d e f g h i j k l m n) (j4C a b c d e f g h i j k l m n):=OLe.loop N _ fun _=>jcF N _ _ _ _ _ _ _ _ _ _ _ _ _ _
theorem jcG (N a b c d e f g h i j k l m n):OLe (@j2h (j0c N) a b c d e f g h i j k l m n) (j2h a b c d e f g h i j k l m n):=by
 unfold j2h
 with_reducible repeat' (first | exact oR _ | exact oN _ | exact j4r N _ _ _ | apply oC | apply oS | refine oB ?_ ?_ | intro _)
theorem jfP (N a b c d e f g h i j k l m n):OLe (@j4D (j0c N) a b c d e f g h i j k l m n) (j4D a b c d e f g h i j k l m n):=OLe.loop N _ fun _=>jcG N _ _ _ _ _ _ _ _ _ _ _ _ _ _
theorem jdx (N a b c):OLe (@j1S (j0c N) a b c) (j1S a b c):=by
 unfold j1S
 with_reducible repeat' (first | exact oR _ | exact oN _ | exact j4r N _ _ _ | exact jbh N _ _ | exact jfO N _ _ _ _ _ _ _ _ _ _ _ _ _ _ | exact jfP N _ _ _ _ _ _ _ _ _ _ _ _ _ _ | apply oC | apply oS | refine oB ?_ ?_ | intro _)
theorem jih (N a b c d):OLe (@j4K (j0c N) a b c d) (j4K a b c d):=OLe.loop N _ fun _=>oR _
theorem jdj (N a):OLe (@j62 (j0c N) a) (j62 a):=by
 unfold j62
 with_reducible repeat' (first | exact oR _ | exact oN _ | exact jih N _ _ _ _ | apply oC | apply oS | refine oB ?_ ?_ | intro _)
theorem ja7 (N a b c d e f g h i j k l m n o p q r s t u v):OLe (@j1g (j0c N) a b c d e f g h i j k l m n o p q r s t u v) (j1g a b c d e f g h i j k l m n o p q r s t u v):=by
 unfold j1g
 with_reducible repeat' (first | exact oR _ | exact oN _ | exact jdx N _ _ _ | exact j4r N _ _ _ | apply oC | apply oS | refine oB ?_ ?_ | intro _)
theorem jcH (N a b c d e f g h i j k l m n o p q r s t u v):OLe (@j2i (j0c N) a b c d e f g h i j k l m n o p q r s t u v) (j2i a b c d e f g h i j k l m n o p q r s t u v):=OLe.loop N _ fun _=>ja7 N _ _ _ _ _ _ _ _ _ _ _ _ _ _ _ _ _ _ _ _ _ _
theorem ja8 (N a b c d e f g h i j k l m n o p q r s t):OLe (@j0X (j0c N) a b c d e f g h i j k l m n o p q r s t) (j0X a b c d e f g h i j k l m n o p q r s t):=by
 unfold j0X
 with_reducible repeat' (first | exact oR _ | exact oN _ | exact jcH N _ _ _ _ _ _ _ _ _ _ _ _ _ _ _ _ _ _ _ _ _ _ | apply oC | apply oS | refine oB ?_ ?_ | intro _)
theorem jcI (N a b c d e f g h i j k l m n o p q r s t):OLe (@j2j (j0c N) a b c d e f g h i j k l m n o p q r s t) (j2j a b c d e f g h i j k l m n o p q r s t):=OLe.loop N _ fun _=>ja8 N _ _ _ _ _ _ _ _ _ _ _ _ _ _ _ _ _ _ _ _
theorem jek (N a b c d):OLe (@j1k (j0c N) a b c d) (j1k a b c d):=by
 unfold j1k
 with_reducible repeat' (first | exact oR _ | exact oN _ | exact jgP N _ _ _ _ | exact jcI N _ _ _ _ _ _ _ _ _ _ _ _ _ _ _ _ _ _ _ _ | exact jdj N _ | apply oC | apply oS | refine oB ?_ ?_ | intro _)
theorem jgQ (N a b c d e):OLe (@j4l (j0c N) a b c d e) (j4l a b c d e):=OLe.loop N _ fun _=>oR _
theorem jjP (N a b):OLe (@j4c (j0c N) a b) (j4c a b):=by
 unfold j4c
 with_reducible repeat' (first | exact oR _ | exact oN _ | exact jgQ N _ _ _ _ _ | exact j8y N _ | apply oC | apply oS | refine oB ?_ ?_ | intro _)
theorem jfQ (N a b c d e f g h i j k l m n):OLe (@j2E (j0c N) a b c d e f g h i j k l m n) (j2E a b c d e f g h i j k l m n):=OLe.loop N _ fun _=>oR _
theorem jcJ (N a b c d e f g h):OLe (@j1N (j0c N) a b c d e f g h) (j1N a b c d e f g h):=by
 unfold j1N
 with_reducible repeat' (first | exact oR _ | exact oN _ | exact jjP N _ _ | exact jbg N _ _ | exact jfQ N _ _ _ _ _ _ _ _ _ _ _ _ _ _ | apply oC | apply oS | refine oB ?_ ?_ | intro _)
theorem jfR (N a b c d e f g h):OLe (@j3c (j0c N) a b c d e f g h) (j3c a b c d e f g h):=OLe.loop N _ fun _=>jcJ N _ _ _ _ _ _ _ _
theorem jii (N a b):OLe (@j4L (j0c N) a b) (j4L a b):=by
 unfold j4L
 with_reducible repeat' (first | exact oR _ | exact oN _ | exact jfR N _ _ _ _ _ _ _ _ | apply oC | apply oS | refine oB ?_ ?_ | intro _)
theorem jgR (N a b c d e):OLe (@j32 (j0c N) a b c d e) (j32 a b c d e):=OLe.loop N _ fun _=>oR _
theorem jjQ (N a b):OLe (@j6u (j0c N) a b) (j6u a b):=by
 unfold j6u
 with_reducible repeat' (first | exact oR _ | exact oN _ | exact jgR N _ _ _ _ _ | apply oC | apply oS | refine oB ?_ ?_ | intro _)
theorem jhy (N a b c d):OLe (@j4Y (j0c N) a b c d) (j4Y a b c d):=OLe.loop N _ fun _=>oR _
theorem jkr (N a):OLe (@j6v (j0c N) a) (j6v a):=by
 unfold j6v
 with_reducible repeat' (first | exact oR _ | exact oN _ | exact jhy N _ _ _ _ | exact j8y N _ | apply oC | apply oS | refine oB ?_ ?_ | intro _)
theorem jbi (N a b c d e f g h i j k l m n):OLe (@j17 (j0c N) a b c d e f g h i j k l m n) (j17 a b c d e f g h i j k l m n):=by
 unfold j17
 with_reducible repeat' (first | exact oR _ | exact oN _ | exact jek N _ _ _ _ | exact jii N _ _ | exact jjQ N _ _ | exact jkr N _ | exact jbg N _ _ | apply oC | apply oS | refine oB ?_ ?_ | intro _)
theorem jdM (N a b c d e f g h i j k l m n):OLe (@j2L (j0c N) a b c d e f g h i j k l m n) (j2L a b c d e f g h i j k l m n):=OLe.loop N _ fun _=>jbi N _ _ _ _ _ _ _ _ _ _ _ _ _ _
theorem jdN (N a b c d):OLe (@j2M (j0c N) a b c d) (j2M a b c d):=OLe.loop N _ fun _=>oR _
theorem jfS (N a b c d):OLe (@j2F (j0c N) a b c d) (j2F a b c d):=by
 unfold j2F
 with_reducible repeat' (first | exact oR _ | exact oN _ | exact jdM N _ _ _ _ _ _ _ _ _ _ _ _ _ _ | exact jdN N _ _ _ _ | exact jdj N _ | apply oC | apply oS | refine oB ?_ ?_ | intro _)
theorem j8z (N a b c d e):OLe (@j18 (j0c N) a b c d e) (j18 a b c d e):=OLe.loop N _ fun _=>oR _
theorem j5A (N a b):OLe (@j0h (j0c N) a b) (j0h a b):=by
 unfold j0h
 with_reducible repeat' (first | exact oR _ | exact oN _ | exact j8z N _ _ _ _ _ | apply oC | apply oS | refine oB ?_ ?_ | intro _)
theorem jjR (N a b c d e):OLe (@j4M (j0c N) a b c d e) (j4M a b c d e):=OLe.loop N _ fun _=>oR _
theorem jhQ (N a b c):OLe (@j7p (j0c N) a b c) (j7p a b c):=by
 unfold j7p
 with_reducible repeat' (first | exact oR _ | exact oN _ | exact jjR N _ _ _ _ _ | apply oC | apply oS | refine oB ?_ ?_ | intro _)
theorem jel (N a b c d e f g h i j k l m n):OLe (@j34 (j0c N) a b c d e f g h i j k l m n) (j34 a b c d e f g h i j k l m n):=OLe.loop N _ fun _=>oR _
theorem jbq (N a b c d e f g h i j k l m):OLe (@j1l (j0c N) a b c d e f g h i j k l m) (j1l a b c d e f g h i j k l m):=by
 unfold j1l
 with_reducible repeat' (first | exact oR _ | exact oN _ | exact jhQ N _ _ _ | apply oC | apply oS | refine oB ?_ ?_ | intro _)
theorem jem (N a b c d e f g h i j k l m):OLe (@j3L (j0c N) a b c d e f g h i j k l m) (j3L a b c d e f g h i j k l m):=OLe.loop N _ fun _=>jbq N _ _ _ _ _ _ _ _ _ _ _ _ _
theorem jbr (N a b c d e f g h):OLe (@j1m (j0c N) a b c d e f g h) (j1m a b c d e f g h):=by
 unfold j1m
 with_reducible repeat' (first | exact oR _ | exact oN _ | exact j5A N _ _ | exact jem N _ _ _ _ _ _ _ _ _ _ _ _ _ | apply oC | apply oS | refine oB ?_ ?_ | intro _)
theorem jen (N a b c d e f g h):OLe (@j35 (j0c N) a b c d e f g h) (j35 a b c d e f g h):=OLe.loop N _ fun _=>jbr N _ _ _ _ _ _ _ _
theorem jbM (N a b c d):OLe (@j2B (j0c N) a b c d) (j2B a b c d):=by
 unfold j2B
 with_reducible repeat' (first | exact oR _ | exact oN _ | exact jel N _ _ _ _ _ _ _ _ _ _ _ _ _ _ | exact jnS N _ _ _ | exact jfS N _ _ _ _ | exact jen N _ _ _ _ _ _ _ _ | exact jdj N _ | apply oC | apply oS | refine oB ?_ ?_ | intro _)
theorem j8A (N a b c d):OLe (@j2C (j0c N) a b c d) (j2C a b c d):=by
 unfold j2C
 with_reducible repeat' (first | exact oR _ | exact oN _ | exact jf3 N _ _ _ _ | exact jbM N _ _ _ _ | apply oC | apply oS | refine oB ?_ ?_ | intro _)
theorem jeR (N a b c):OLe (@j3o (j0c N) a b c) (j3o a b c):=OLe.loop N _ fun _=>oR _
theorem jhz (N a b c d):OLe (@j4Z (j0c N) a b c d) (j4Z a b c d):=by
 unfold j4Z
 with_reducible repeat' (first | exact oR _ | exact oN _ | exact j8A N _ _ _ _ | exact jeR N _ _ _ | apply oC | apply oS | refine oB ?_ ?_ | intro _)
theorem jks (N a b c d):OLe (@j8Y (j0c N) a b c d) (j8Y a b c d):=OLe.loop N _ fun _=>oR _
theorem joV (N a b):OLe (@jcY (j0c N) a b) (jcY a b):=by
 unfold jcY
 with_reducible repeat' (first | exact oR _ | exact oN _ | exact jks N _ _ _ _ | apply oC | apply oS | refine oB ?_ ?_ | intro _)
theorem jjS (N a b c):OLe (@j4d (j0c N) a b c) (j4d a b c):=by
 unfold j4d
 with_reducible repeat' (first | exact oR _ | exact oN _ | exact jdx N _ _ _ | exact jbh N _ _ | exact joV N _ _ | exact j5A N _ _ | apply oC | apply oS | refine oB ?_ ?_ | intro _)
theorem jfT (N a b c):OLe (@j1W (j0c N) a b c) (j1W a b c):=by
 unfold j1W
 with_reducible repeat' (first | exact oR _ | exact oN _ | exact jjS N _ _ _ | apply oC | apply oS | refine oB ?_ ?_ | intro _)
theorem j6k (N a b c d e):OLe (@j0w (j0c N) a b c d e) (j0w a b c d e):=OLe.loop N _ fun _=>oR _
theorem j7l (N a b c):OLe (@j0S (j0c N) a b c) (j0S a b c):=by
 unfold j0S
 with_reducible repeat' (first | exact oR _ | exact oN _ | exact j6k N _ _ _ _ _ | apply oC | apply oS | refine oB ?_ ?_ | intro _)
theorem j6l (N a b c):OLe (@j0H (j0c N) a b c) (j0H a b c):=by
 unfold j0H
 with_reducible repeat' (first | exact oR _ | exact oN _ | exact j7l N _ _ _ | apply oC | apply oS | refine oB ?_ ?_ | intro _)
theorem jml (N a b c):OLe (@j8Z (j0c N) a b c) (j8Z a b c):=by
 unfold j8Z
 with_reducible repeat' (first | exact oR _ | exact oN _ | exact j6l N _ _ _ | apply oC | apply oS | refine oB ?_ ?_ | intro _)
theorem jcK (N a b c d e f g h i j k l m):OLe (@j1O (j0c N) a b c d e f g h i j k l m) (j1O a b c d e f g h i j k l m):=by
 unfold j1O
 with_reducible repeat' (first | exact oR _ | exact oN _ | exact jfT N _ _ _ | exact jml N _ _ _ | apply oC | apply oS | refine oB ?_ ?_ | intro _)
theorem jfU (N a b c d e f g h i j k l m):OLe (@j3R (j0c N) a b c d e f g h i j k l m) (j3R a b c d e f g h i j k l m):=OLe.loop N _ fun _=>jcK N _ _ _ _ _ _ _ _ _ _ _ _ _
theorem jij (N a b c):OLe (@j36 (j0c N) a b c) (j36 a b c):=by
 unfold j36
 with_reducible repeat' (first | exact oR _ | exact oN _ | exact jfU N _ _ _ _ _ _ _ _ _ _ _ _ _ | apply oC | apply oS | refine oB ?_ ?_ | intro _)
theorem jdk (N a b c):OLe (@j5p (j0c N) a b c) (j5p a b c):=by
 unfold j5p
 with_reducible repeat' (first | exact oR _ | exact oN _ | exact jij N _ _ _ | exact jhQ N _ _ _ | apply oC | apply oS | refine oB ?_ ?_ | intro _)
theorem jhA (N a b c d e f g h i j k l m n o p q r):OLe (@j7r (j0c N) a b c d e f g h i j k l m n o p q r) (j7r a b c d e f g h i j k l m n o p q r):=OLe.loop N _ fun _=>oR _
theorem jkt (N a b c):OLe (@j4n (j0c N) a b c) (j4n a b c):=by
 unfold j4n
 with_reducible repeat' (first | exact oR _ | exact oN _ | exact jf3 N _ _ _ _ | exact jbM N _ _ _ _ | exact jhA N _ _ _ _ _ _ _ _ _ _ _ _ _ _ _ _ _ _ | exact jdk N _ _ _ | apply oC | apply oS | refine oB ?_ ?_ | intro _)
theorem jeS (N a b c d e):OLe (@j90 (j0c N) a b c d e) (j90 a b c d e):=OLe.loop N _ fun _=>oR _
theorem jhB (N a b):OLe (@j7s (j0c N) a b) (j7s a b):=by
 unfold j7s
 with_reducible repeat' (first | exact oR _ | exact oN _ | exact jeS N _ _ _ _ _ | exact j8y N _ | apply oC | apply oS | refine oB ?_ ?_ | intro _)
theorem jjT (N a b c d e):OLe (@j9x (j0c N) a b c d e) (j9x a b c d e):=by
 unfold j9x
 with_reducible repeat' (first | exact oR _ | exact oN _ | exact j8A N _ _ _ _ | exact jhB N _ _ | apply oC | apply oS | refine oB ?_ ?_ | intro _)
theorem jeo (N a b c d e f g h i j):OLe (@j4N (j0c N) a b c d e f g h i j) (j4N a b c d e f g h i j):=by
 unfold j4N
 with_reducible repeat' (first | exact oR _ | exact oN _ | exact jdk N _ _ _ | apply oC | apply oS | refine oB ?_ ?_ | intro _)
theorem jik (N a b c d e f g h i j):OLe (@jd0 (j0c N) a b c d e f g h i j) (jd0 a b c d e f g h i j):=OLe.loop N _ fun _=>jeo N _ _ _ _ _ _ _ _ _ _
theorem jmm (N a b):OLe (@jct (j0c N) a b) (jct a b):=by
 unfold jct
 with_reducible repeat' (first | exact oR _ | exact oN _ | exact jhu N _ | exact jik N _ _ _ _ _ _ _ _ _ _ | apply oC | apply oS | refine oB ?_ ?_ | intro _)
theorem joW (N a b c):OLe (@jeD (j0c N) a b c) (jeD a b c):=by
 unfold jeD
 with_reducible repeat' (first | exact oR _ | exact oN _ | exact jhu N _ | exact jdk N _ _ _ | apply oC | apply oS | refine oB ?_ ?_ | intro _)
theorem jmn (N a b c):OLe (@j5q (j0c N) a b c) (j5q a b c):=by
 unfold j5q
 with_reducible repeat' (first | exact oR _ | exact oN _ | exact joW N _ _ _ | apply oC | apply oS | refine oB ?_ ?_ | intro _)
theorem jmo (N):OLe (@j91 (j0c N) ) (j91 ):=by
 unfold j91
 with_reducible repeat' (first | exact oR _ | exact oN _ | exact jhz N _ _ _ _ | exact jkt N _ _ _ | exact j8A N _ _ _ _ | exact jjT N _ _ _ _ _ | exact jmm N _ _ | exact jmn N _ _ _ | apply oC | apply oS | refine oB ?_ ?_ | intro _)
abbrev jmp (N:Nat):=@j1z (j0c N)
end
end Go.Proofs.Pw
