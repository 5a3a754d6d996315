/- Twins with a bound on their rounds, printed by a program. -/
import Derived.Test.YtcegmhnnglcgeaaGreatIFns
import Derived.Test.YtcegmhnnglcgeaaGreatILD
open Go Go.Lft
set_option linter.unusedVariables false
set_option maxRecDepth 100000
namespace Go.Proofs.Pw
noncomputable section
theorem jiZ (N a b c):OLe (@jds (j0c N) a b c) (jds a b c):=OLe.loop N _ fun _=>oR _
theorem j8N (N a):OLe (@j8c (j0c N) a) (j8c a):=by
 unfold j8c
 with_reducible repeat' (first | exact oR _ | exact oN _ | exact jiZ N _ _ _ | apply oC | apply oS | refine oB ?_ ?_ | intro _)
theorem j6W (N a b):OLe (@j3L (j0c N) a b) (j3L a b):=by
 unfold j3L
 with_reducible repeat' (first | exact oR _ | exact oN _ | exact j8N N _ | apply oC | apply oS | refine oB ?_ ?_ | intro _)
theorem jhp (N a b c d e):OLe (@j5s (j0c N) a b c d e) (j5s a b c d e):=OLe.loop N _ fun _=>oR _
theorem jkv (N a):OLe (@j6E (j0c N) a) (j6E a):=by
 unfold j6E
 with_reducible repeat' (first | exact oR _ | exact oN _ | exact jhp N _ _ _ _ _ | apply oC | apply oS | refine oB ?_ ?_ | intro _)
theorem joE (N a b c d):OLe (@jb5 (j0c N) a b c d) (jb5 a b c d):=by
 unfold jb5
 with_reducible repeat' (first | exact oR _ | exact oN _ | exact jkv N _ | apply oC | apply oS | refine oB ?_ ?_ | intro _)
theorem j4K (N a b c d e):OLe (@j0k (j0c N) a b c d e) (j0k a b c d e):=OLe.loop N _ fun _=>oR _
theorem j4g (N a b c d):OLe (@j08 (j0c N) a b c d) (j08 a b c d):=by
 unfold j08
 with_reducible repeat' (first | exact oR _ | exact oN _ | exact j4K N _ _ _ _ _ | apply oC | apply oS | refine oB ?_ ?_ | intro _)
theorem j4L (N a b c d):OLe (@j0l (j0c N) a b c d) (j0l a b c d):=OLe.loop N _ fun _=>j4g N _ _ _ _
theorem j2P (N a b c):OLe (@j0d (j0c N) a b c) (j0d a b c):=by
 unfold j0d
 with_reducible repeat' (first | exact oR _ | exact oN _ | exact j4L N _ _ _ _ | apply oC | apply oS | refine oB ?_ ?_ | intro _)
theorem j5i (N a b c d e):OLe (@j0f (j0c N) a b c d e) (j0f a b c d e):=by
 unfold j0f
 with_reducible repeat' (first | exact oR _ | exact oN _ | exact j2P N _ _ _ | apply oC | apply oS | refine oB ?_ ?_ | intro _)
theorem j6c (N a b c d e):OLe (@j0A (j0c N) a b c d e) (j0A a b c d e):=OLe.loop N _ fun _=>j5i N _ _ _ _ _
theorem j6d (N a b c d e):OLe (@j2n (j0c N) a b c d e) (j2n a b c d e):=OLe.loop N _ fun _=>oR _
theorem j5j (N a b c):OLe (@j0g (j0c N) a b c) (j0g a b c):=by
 unfold j0g
 with_reducible repeat' (first | exact oR _ | exact oN _ | exact j6d N _ _ _ _ _ | apply oC | apply oS | refine oB ?_ ?_ | intro _)
theorem j6e (N a b c):OLe (@j0B (j0c N) a b c) (j0B a b c):=OLe.loop N _ fun _=>j5j N _ _ _
theorem j6X (N a b):OLe (@j0P (j0c N) a b) (j0P a b):=by
 unfold j0P
 with_reducible repeat' (first | exact oR _ | exact oN _ | exact j6c N _ _ _ _ _ | exact j2P N _ _ _ | exact j6e N _ _ _ | apply oC | apply oS | refine oB ?_ ?_ | intro _)
theorem j3V (N a):OLe (@j0b (j0c N) a) (j0b a):=by
 unfold j0b
 with_reducible repeat' (first | exact oR _ | exact oN _ | exact j6X N _ _ | apply oC | apply oS | refine oB ?_ ?_ | intro _)
theorem jee (N a b c d e f g):OLe (@j2Q (j0c N) a b c d e f g) (j2Q a b c d e f g):=OLe.loop N _ fun _=>oR _
theorem jbD (N a b c d e f g h i j k l):OLe (@j1c (j0c N) a b c d e f g h i j k l) (j1c a b c d e f g h i j k l):=by
 unfold j1c
 with_reducible repeat' (first | exact oR _ | exact oN _ | exact joE N _ _ _ _ | apply oC | apply oS | refine oB ?_ ?_ | intro _)
theorem jef (N a b c d e f g h i j k l):OLe (@j3t (j0c N) a b c d e f g h i j k l) (j3t a b c d e f g h i j k l):=OLe.loop N _ fun _=>jbD N _ _ _ _ _ _ _ _ _ _ _ _
theorem jbE (N a b c d):OLe (@j1d (j0c N) a b c d) (j1d a b c d):=by
 unfold j1d
 with_reducible repeat' (first | exact oR _ | exact oN _ | exact jef N _ _ _ _ _ _ _ _ _ _ _ _ | apply oC | apply oS | refine oB ?_ ?_ | intro _)
theorem jeg (N a b c d):OLe (@j2R (j0c N) a b c d) (j2R a b c d):=OLe.loop N _ fun _=>jbE N _ _ _ _
theorem jgq (N a):OLe (@j41 (j0c N) a) (j41 a):=by
 unfold j41
 with_reducible repeat' (first | exact oR _ | exact oN _ | exact jee N _ _ _ _ _ _ _ | exact jeg N _ _ _ _ | exact j3V N _ | apply oC | apply oS | refine oB ?_ ?_ | intro _)
theorem jeh (N a b c d e):OLe (@j2S (j0c N) a b c d e) (j2S a b c d e):=OLe.loop N _ fun _=>oR _
theorem jbF (N a):OLe (@j2v (j0c N) a) (j2v a):=by
 unfold j2v
 with_reducible repeat' (first | exact oR _ | exact oN _ | exact jgq N _ | exact jeh N _ _ _ _ _ | apply oC | apply oS | refine oB ?_ ?_ | intro _)
theorem jn7 (N a):OLe (@j8d (j0c N) a) (j8d a):=by
 unfold j8d
 with_reducible repeat' (first | exact oR _ | exact oN _ | exact jbF N _ | apply oC | apply oS | refine oB ?_ ?_ | intro _)
theorem j57 (N a b c):OLe (@j0n (j0c N) a b c) (j0n a b c):=OLe.loop N _ fun _=>oR _
theorem j5I (N a):OLe (@j0u (j0c N) a) (j0u a):=by
 unfold j0u
 with_reducible repeat' (first | exact oR _ | exact oN _ | exact j57 N _ _ _ | apply oC | apply oS | refine oB ?_ ?_ | intro _)
theorem j58 (N a):OLe (@j0o (j0c N) a) (j0o a):=by
 unfold j0o
 with_reducible repeat' (first | exact oR _ | exact oN _ | exact j5I N _ | apply oC | apply oS | refine oB ?_ ?_ | intro _)
theorem jfu (N a):OLe (@j31 (j0c N) a) (j31 a):=by
 unfold j31
 with_reducible repeat' (first | exact oR _ | exact oN _ | exact jn7 N _ | exact j58 N _ | apply oC | apply oS | refine oB ?_ ?_ | intro _)
theorem j8O (N a b c d):OLe (@j0F (j0c N) a b c d) (j0F a b c d):=by
 unfold j0F
 with_reducible repeat' (first | exact oR _ | exact oN _ | exact j6W N _ _ | exact jfu N _ | apply oC | apply oS | refine oB ?_ ?_ | intro _)
theorem jaO (N a b c d):OLe (@j1w (j0c N) a b c d) (j1w a b c d):=OLe.loop N _ fun _=>j8O N _ _ _ _
theorem jcF (N a):OLe (@j2c (j0c N) a) (j2c a):=by
 unfold j2c
 with_reducible repeat' (first | exact oR _ | exact oN _ | exact jaO N _ _ _ _ | apply oC | apply oS | refine oB ?_ ?_ | intro _)
theorem jj0 (N a b c d):OLe (@j70 (j0c N) a b c d) (j70 a b c d):=OLe.loop N _ fun _=>oR _
theorem jhq (N a):OLe (@j8e (j0c N) a) (j8e a):=by
 unfold j8e
 with_reducible repeat' (first | exact oR _ | exact oN _ | exact jj0 N _ _ _ _ | apply oC | apply oS | refine oB ?_ ?_ | intro _)
theorem jei (N a b):OLe (@j1Y (j0c N) a b) (j1Y a b):=by
 unfold j1Y
 with_reducible repeat' (first | exact oR _ | exact oN _ | exact jhq N _ | apply oC | apply oS | refine oB ?_ ?_ | intro _)
theorem jj1 (N a b):OLe (@jdt (j0c N) a b) (jdt a b):=OLe.loop N _ fun _=>oR _
theorem jn8 (N a):OLe (@jcW (j0c N) a) (jcW a):=by
 unfold jcW
 with_reducible repeat' (first | exact oR _ | exact oN _ | exact jj1 N _ _ | apply oC | apply oS | refine oB ?_ ?_ | intro _)
theorem jhr (N a b c d e f g):OLe (@jb6 (j0c N) a b c d e f g) (jb6 a b c d e f g):=OLe.loop N _ fun _=>oR _
theorem jkw (N a):OLe (@j6F (j0c N) a) (j6F a):=by
 unfold j6F
 with_reducible repeat' (first | exact oR _ | exact oN _ | exact jn8 N _ | exact jhr N _ _ _ _ _ _ _ | apply oC | apply oS | refine oB ?_ ?_ | intro _)
theorem j9M (N a):OLe (@j1H (j0c N) a) (j1H a):=by
 unfold j1H
 with_reducible repeat' (first | exact oR _ | exact oN _ | exact jkw N _ | apply oC | apply oS | refine oB ?_ ?_ | intro _)
theorem jbG (N a):OLe (@j2h (j0c N) a) (j2h a):=by
 unfold j2h
 with_reducible repeat' (first | exact oR _ | exact oN _ | exact j9M N _ | apply oC | apply oS | refine oB ?_ ?_ | intro _)
theorem j89 (N a b c):OLe (@j0y (j0c N) a b c) (j0y a b c):=by
 unfold j0y
 with_reducible repeat' (first | exact oR _ | exact oN _ | exact jbG N _ | apply oC | apply oS | refine oB ?_ ?_ | intro _)
theorem ja5 (N a b c):OLe (@j1I (j0c N) a b c) (j1I a b c):=OLe.loop N _ fun _=>j89 N _ _ _
theorem jbH (N a):OLe (@j2i (j0c N) a) (j2i a):=by
 unfold j2i
 with_reducible repeat' (first | exact oR _ | exact oN _ | exact ja5 N _ _ _ | apply oC | apply oS | refine oB ?_ ?_ | intro _)
theorem ja6 (N a):OLe (@j1J (j0c N) a) (j1J a):=by
 unfold j1J
 with_reducible repeat' (first | exact oR _ | exact oN _ | exact jbH N _ | apply oC | apply oS | refine oB ?_ ?_ | intro _)
theorem jbI (N a b c d e):OLe (@j2j (j0c N) a b c d e) (j2j a b c d e):=OLe.loop N _ fun _=>oR _
theorem jd9 (N a b):OLe (@j1Q (j0c N) a b) (j1Q a b):=by
 unfold j1Q
 with_reducible repeat' (first | exact oR _ | exact oN _ | exact ja6 N _ | exact jbI N _ _ _ _ _ | apply oC | apply oS | refine oB ?_ ?_ | intro _)
theorem jgr (N a b c d e):OLe (@j4N (j0c N) a b c d e) (j4N a b c d e):=by
 unfold j4N
 with_reducible repeat' (first | exact oR _ | exact oN _ | exact jd9 N _ _ | apply oC | apply oS | refine oB ?_ ?_ | intro _)
theorem j7y (N a b c d e f g h):OLe (@j0s (j0c N) a b c d e f g h) (j0s a b c d e f g h):=by
 unfold j0s
 with_reducible repeat' (first | exact oR _ | exact oN _ | exact j6W N _ _ | exact jgr N _ _ _ _ _ | apply oC | apply oS | refine oB ?_ ?_ | intro _)
theorem j8Y (N a b c d e f g h):OLe (@j11 (j0c N) a b c d e f g h) (j11 a b c d e f g h):=OLe.loop N _ fun _=>j7y N _ _ _ _ _ _ _ _
theorem jas (N a b c d e):OLe (@j1m (j0c N) a b c d e) (j1m a b c d e):=by
 unfold j1m
 with_reducible repeat' (first | exact oR _ | exact oN _ | exact j8Y N _ _ _ _ _ _ _ _ | apply oC | apply oS | refine oB ?_ ?_ | intro _)
theorem j8P (N a b c d e f g):OLe (@j1e (j0c N) a b c d e f g) (j1e a b c d e f g):=OLe.loop N _ fun _=>oR _
theorem ja7 (N a b c d e):OLe (@j1K (j0c N) a b c d e) (j1K a b c d e):=by
 unfold j1K
 with_reducible repeat' (first | exact oR _ | exact oN _ | exact j8P N _ _ _ _ _ _ _ | apply oC | apply oS | refine oB ?_ ?_ | intro _)
theorem j8Q (N a b c d e):OLe (@j1f (j0c N) a b c d e) (j1f a b c d e):=by
 unfold j1f
 with_reducible repeat' (first | exact oR _ | exact oN _ | exact ja7 N _ _ _ _ _ | apply oC | apply oS | refine oB ?_ ?_ | intro _)
theorem jf0 (N a b):OLe (@j2H (j0c N) a b) (j2H a b):=by
 unfold j2H
 with_reducible repeat' (first | exact oR _ | exact oN _ | exact j9M N _ | exact j8Q N _ _ _ _ _ | exact jhq N _ | apply oC | apply oS | refine oB ?_ ?_ | intro _)
theorem jbJ (N a b c d e):OLe (@j2k (j0c N) a b c d e) (j2k a b c d e):=by
 unfold j2k
 with_reducible repeat' (first | exact oR _ | exact oN _ | exact jf0 N _ _ | apply oC | apply oS | refine oB ?_ ?_ | intro _)
theorem j8i (N a b c d e f g h):OLe (@j0C (j0c N) a b c d e f g h) (j0C a b c d e f g h):=by
 unfold j0C
 with_reducible repeat' (first | exact oR _ | exact oN _ | exact j6W N _ _ | exact jbJ N _ _ _ _ _ | apply oC | apply oS | refine oB ?_ ?_ | intro _)
theorem jat (N a b c d e f g h):OLe (@j1n (j0c N) a b c d e f g h) (j1n a b c d e f g h):=OLe.loop N _ fun _=>j8i N _ _ _ _ _ _ _ _
theorem jbV (N a b c d e):OLe (@j1Z (j0c N) a b c d e) (j1Z a b c d e):=by
 unfold j1Z
 with_reducible repeat' (first | exact oR _ | exact oN _ | exact jat N _ _ _ _ _ _ _ _ | apply oC | apply oS | refine oB ?_ ?_ | intro _)
theorem jfv (N a b):OLe (@j32 (j0c N) a b) (j32 a b):=by
 unfold j32
 with_reducible repeat' (first | exact oR _ | exact oN _ | exact j9M N _ | apply oC | apply oS | refine oB ?_ ?_ | intro _)
theorem j8Z (N a b c d e f g):OLe (@j0L (j0c N) a b c d e f g) (j0L a b c d e f g):=by
 unfold j0L
 with_reducible repeat' (first | exact oR _ | exact oN _ | exact jfv N _ _ | apply oC | apply oS | refine oB ?_ ?_ | intro _)
theorem jbK (N a b c d e f g):OLe (@j2l (j0c N) a b c d e f g) (j2l a b c d e f g):=OLe.loop N _ fun _=>j8Z N _ _ _ _ _ _ _
theorem jda (N a b):OLe (@j1R (j0c N) a b) (j1R a b):=by
 unfold j1R
 with_reducible repeat' (first | exact oR _ | exact oN _ | exact jbV N _ _ _ _ _ | exact jbK N _ _ _ _ _ _ _ | apply oC | apply oS | refine oB ?_ ?_ | intro _)
theorem jgs (N a b c d e):OLe (@j4O (j0c N) a b c d e) (j4O a b c d e):=by
 unfold j4O
 with_reducible repeat' (first | exact oR _ | exact oN _ | exact jda N _ _ | apply oC | apply oS | refine oB ?_ ?_ | intro _)
theorem j7z (N a b c d e f g h):OLe (@j0t (j0c N) a b c d e f g h) (j0t a b c d e f g h):=by
 unfold j0t
 with_reducible repeat' (first | exact oR _ | exact oN _ | exact j6W N _ _ | exact jgs N _ _ _ _ _ | apply oC | apply oS | refine oB ?_ ?_ | intro _)
theorem j90 (N a b c d e f g h):OLe (@j12 (j0c N) a b c d e f g h) (j12 a b c d e f g h):=OLe.loop N _ fun _=>j7z N _ _ _ _ _ _ _ _
theorem jau (N a b c d e):OLe (@j1X (j0c N) a b c d e) (j1X a b c d e):=by
 unfold j1X
 with_reducible repeat' (first | exact oR _ | exact oN _ | exact j90 N _ _ _ _ _ _ _ _ | apply oC | apply oS | refine oB ?_ ?_ | intro _)
theorem jdb (N a b c d e f g h):OLe (@j1S (j0c N) a b c d e f g h) (j1S a b c d e f g h):=by
 unfold j1S
 with_reducible repeat' (first | exact oR _ | exact oN _ | exact j6W N _ _ | exact jei N _ _ | apply oC | apply oS | refine oB ?_ ?_ | intro _)
theorem jgt (N a b c d e f g h):OLe (@j42 (j0c N) a b c d e f g h) (j42 a b c d e f g h):=OLe.loop N _ fun _=>jdb N _ _ _ _ _ _ _ _
theorem jj2 (N a):OLe (@j4U (j0c N) a) (j4U a):=by
 unfold j4U
 with_reducible repeat' (first | exact oR _ | exact oN _ | exact jcF N _ | exact jgt N _ _ _ _ _ _ _ _ | exact jas N _ _ _ _ _ | exact jau N _ _ _ _ _ | apply oC | apply oS | refine oB ?_ ?_ | intro _)
theorem jrI (N a):OLe (@jeE (j0c N) a) (jeE a):=by
 unfold jeE
 with_reducible repeat' (first | exact oR _ | exact oN _ | exact jbF N _ | apply oC | apply oS | refine oB ?_ ?_ | intro _)
theorem jej (N a b c d):OLe (@j2o (j0c N) a b c d) (j2o a b c d):=by
 unfold j2o
 with_reducible repeat' (first | exact oR _ | exact oN _ | exact jrI N _ | apply oC | apply oS | refine oB ?_ ?_ | intro _)
theorem jie (N a b c d):OLe (@j5b (j0c N) a b c d) (j5b a b c d):=OLe.loop N _ fun _=>jej N _ _ _ _
theorem jlh (N a):OLe (@j9i (j0c N) a) (j9i a):=by
 unfold j9i
 with_reducible repeat' (first | exact oR _ | exact oN _ | exact jie N _ _ _ _ | apply oC | apply oS | refine oB ?_ ?_ | intro _)
theorem joF (N a):OLe (@jb8 (j0c N) a) (jb8 a):=by
 unfold jb8
 with_reducible repeat' (first | exact oR _ | exact oN _ | exact jlh N _ | apply oC | apply oS | refine oB ?_ ?_ | intro _)
theorem jif (N a):OLe (@jdu (j0c N) a) (jdu a):=by
 unfold jdu
 with_reducible repeat' (first | exact oR _ | exact oN _ | exact jj2 N _ | exact joF N _ | apply oC | apply oS | refine oB ?_ ?_ | intro _)
theorem jfJ (N a b c d):OLe (@j5R (j0c N) a b c d) (j5R a b c d):=by
 unfold j5R
 with_reducible repeat' (first | exact oR _ | exact oN _ | exact jif N _ | apply oC | apply oS | refine oB ?_ ?_ | intro _)
theorem j8R (N a b c d e):OLe (@j0Y (j0c N) a b c d e) (j0Y a b c d e):=OLe.loop N _ fun _=>oR _
theorem ja8 (N a b c):OLe (@j1L (j0c N) a b c) (j1L a b c):=by
 unfold j1L
 with_reducible repeat' (first | exact oR _ | exact oN _ | exact j8R N _ _ _ _ _ | apply oC | apply oS | refine oB ?_ ?_ | intro _)
theorem j9A (N a b c d e):OLe (@j1C (j0c N) a b c d e) (j1C a b c d e):=OLe.loop N _ fun _=>oR _
theorem jaP (N a b c):OLe (@j1x (j0c N) a b c) (j1x a b c):=by
 unfold j1x
 with_reducible repeat' (first | exact oR _ | exact oN _ | exact ja8 N _ _ _ | exact j9A N _ _ _ _ _ | apply oC | apply oS | refine oB ?_ ?_ | intro _)
theorem j7A (N a b c d e):OLe (@j0U (j0c N) a b c d e) (j0U a b c d e):=OLe.loop N _ fun _=>oR _
theorem j6f (N a b c d):OLe (@j0h (j0c N) a b c d) (j0h a b c d):=by
 unfold j0h
 with_reducible repeat' (first | exact oR _ | exact oN _ | exact j7A N _ _ _ _ _ | apply oC | apply oS | refine oB ?_ ?_ | intro _)
theorem j7B (N a b c d):OLe (@j0V (j0c N) a b c d) (j0V a b c d):=OLe.loop N _ fun _=>j6f N _ _ _ _
theorem j8j (N a b c):OLe (@j0S (j0c N) a b c) (j0S a b c):=by
 unfold j0S
 with_reducible repeat' (first | exact oR _ | exact oN _ | exact j7B N _ _ _ _ | apply oC | apply oS | refine oB ?_ ?_ | intro _)
theorem j7Q (N a b c d e f):OLe (@j0H (j0c N) a b c d e f) (j0H a b c d e f):=by
 unfold j0H
 with_reducible repeat' (first | exact oR _ | exact oN _ | exact j8j N _ _ _ | apply oC | apply oS | refine oB ?_ ?_ | intro _)
theorem j9B (N a b c d e f):OLe (@j2f (j0c N) a b c d e f) (j2f a b c d e f):=OLe.loop N _ fun _=>j7Q N _ _ _ _ _ _
theorem jaQ (N a b c d):OLe (@j1y (j0c N) a b c d) (j1y a b c d):=by
 unfold j1y
 with_reducible repeat' (first | exact oR _ | exact oN _ | exact j9B N _ _ _ _ _ _ | apply oC | apply oS | refine oB ?_ ?_ | intro _)
theorem jek (N a):OLe (@j2T (j0c N) a) (j2T a):=by
 unfold j2T
 with_reducible repeat' (first | exact oR _ | exact oN _ | exact jaQ N _ _ _ _ | apply oC | apply oS | refine oB ?_ ?_ | intro _)
theorem jaR (N a b c d):OLe (@j1z (j0c N) a b c d) (j1z a b c d):=OLe.loop N _ fun _=>oR _
theorem j8S (N a b):OLe (@j0G (j0c N) a b) (j0G a b):=by
 unfold j0G
 with_reducible repeat' (first | exact oR _ | exact oN _ | exact jaR N _ _ _ _ | apply oC | apply oS | refine oB ?_ ?_ | intro _)
theorem jaS (N a b):OLe (@j0T (j0c N) a b) (j0T a b):=OLe.loop N _ fun _=>j8S N _ _
theorem jcG (N a):OLe (@j2d (j0c N) a) (j2d a):=by
 unfold j2d
 with_reducible repeat' (first | exact oR _ | exact oN _ | exact jaS N _ _ | apply oC | apply oS | refine oB ?_ ?_ | intro _)
theorem joG (N a b c):OLe (@jba (j0c N) a b c) (jba a b c):=by
 unfold jba
 with_reducible repeat' (first | exact oR _ | exact oN _ | exact jaP N _ _ _ | exact jek N _ | exact jcG N _ | apply oC | apply oS | refine oB ?_ ?_ | intro _)
theorem jig (N a b c d e):OLe (@j6g (j0c N) a b c d e) (j6g a b c d e):=OLe.loop N _ fun _=>oR _
theorem jli (N a b c d):OLe (@j9l (j0c N) a b c d) (j9l a b c d):=by
 unfold j9l
 with_reducible repeat' (first | exact oR _ | exact oN _ | exact jig N _ _ _ _ _ | apply oC | apply oS | refine oB ?_ ?_ | intro _)
theorem jbL (N a b):OLe (@j3m (j0c N) a b) (j3m a b):=by
 unfold j3m
 with_reducible repeat' (first | exact oR _ | exact oN _ | exact jli N _ _ _ _ | apply oC | apply oS | refine oB ?_ ?_ | intro _)
theorem jaT (N a b c d e):OLe (@j0q (j0c N) a b c d e) (j0q a b c d e):=by
 unfold j0q
 with_reducible repeat' (first | exact oR _ | exact oN _ | exact jbL N _ _ | apply oC | apply oS | refine oB ?_ ?_ | intro _)
theorem jdM (N a b c d e):OLe (@j27 (j0c N) a b c d e) (j27 a b c d e):=OLe.loop N _ fun _=>jaT N _ _ _ _ _
theorem j7C (N a b c):OLe (@j1q (j0c N) a b c) (j1q a b c):=by
 unfold j1q
 with_reducible repeat' (first | exact oR _ | exact oN _ | exact jdM N _ _ _ _ _ | apply oC | apply oS | refine oB ?_ ?_ | intro _)
theorem jel (N a b c d e):OLe (@j2U (j0c N) a b c d e) (j2U a b c d e):=OLe.loop N _ fun _=>oR _
theorem jgu (N a b):OLe (@j23 (j0c N) a b) (j23 a b):=by
 unfold j23
 with_reducible repeat' (first | exact oR _ | exact oN _ | exact j7C N _ _ _ | exact jel N _ _ _ _ _ | apply oC | apply oS | refine oB ?_ ?_ | intro _)
theorem j4C (N a b c):OLe (@j0M (j0c N) a b c) (j0M a b c):=by
 unfold j0M
 with_reducible repeat' (first | exact oR _ | exact oN _ | exact jgu N _ _ | apply oC | apply oS | refine oB ?_ ?_ | intro _)
theorem j6y (N a b c):OLe (@j0w (j0c N) a b c) (j0w a b c):=OLe.loop N _ fun _=>oR _
theorem j7D (N a):OLe (@j0W (j0c N) a) (j0W a):=by
 unfold j0W
 with_reducible repeat' (first | exact oR _ | exact oN _ | exact j6y N _ _ _ | apply oC | apply oS | refine oB ?_ ?_ | intro _)
theorem j6m (N a b c):OLe (@j0E (j0c N) a b c) (j0E a b c):=OLe.loop N _ fun _=>oR _
theorem j7b (N a):OLe (@j0z (j0c N) a) (j0z a):=by
 unfold j0z
 with_reducible repeat' (first | exact oR _ | exact oN _ | exact j7D N _ | exact j6m N _ _ _ | apply oC | apply oS | refine oB ?_ ?_ | intro _)
theorem jj3 (N a b c d):OLe (@j5S (j0c N) a b c d) (j5S a b c d):=OLe.loop N _ fun _=>oR _
theorem j8T (N a):OLe (@j5v (j0c N) a) (j5v a):=by
 unfold j5v
 with_reducible repeat' (first | exact oR _ | exact oN _ | exact j7b N _ | exact jj3 N _ _ _ _ | apply oC | apply oS | refine oB ?_ ?_ | intro _)
theorem jhs (N a b c d e f g h i j k l):OLe (@j5w (j0c N) a b c d e f g h i j k l) (j5w a b c d e f g h i j k l):=OLe.loop N _ fun _=>oR _
theorem jdN (N a b c d e f g h i):OLe (@j28 (j0c N) a b c d e f g h i) (j28 a b c d e f g h i):=by
 unfold j28
 with_reducible repeat' (first | exact oR _ | exact oN _ | exact jhs N _ _ _ _ _ _ _ _ _ _ _ _ | apply oC | apply oS | refine oB ?_ ?_ | intro _)
theorem jht (N a b c d e f g h i):OLe (@j5x (j0c N) a b c d e f g h i) (j5x a b c d e f g h i):=OLe.loop N _ fun _=>jdN N _ _ _ _ _ _ _ _ _
theorem jdO (N a b c d e):OLe (@j29 (j0c N) a b c d e) (j29 a b c d e):=by
 unfold j29
 with_reducible repeat' (first | exact oR _ | exact oN _ | exact jht N _ _ _ _ _ _ _ _ _ | apply oC | apply oS | refine oB ?_ ?_ | intro _)
theorem jhu (N a b c d e):OLe (@j5y (j0c N) a b c d e) (j5y a b c d e):=OLe.loop N _ fun _=>jdO N _ _ _ _ _
theorem jkx (N a b c d):OLe (@j3N (j0c N) a b c d) (j3N a b c d):=by
 unfold j3N
 with_reducible repeat' (first | exact oR _ | exact oN _ | exact j7C N _ _ _ | exact jhu N _ _ _ _ _ | exact j8T N _ | apply oC | apply oS | refine oB ?_ ?_ | intro _)
theorem jfw (N a b c d e f g h i j k l m):OLe (@j3v (j0c N) a b c d e f g h i j k l m) (j3v a b c d e f g h i j k l m):=OLe.loop N _ fun _=>oR _
theorem jcH (N a b c d e f g):OLe (@j1F (j0c N) a b c d e f g) (j1F a b c d e f g):=by
 unfold j1F
 with_reducible repeat' (first | exact oR _ | exact oN _ | exact jfw N _ _ _ _ _ _ _ _ _ _ _ _ _ | apply oC | apply oS | refine oB ?_ ?_ | intro _)
theorem jfx (N a b c d e f g):OLe (@j3w (j0c N) a b c d e f g) (j3w a b c d e f g):=OLe.loop N _ fun _=>jcH N _ _ _ _ _ _ _
theorem jih (N a b c d):OLe (@j1P (j0c N) a b c d) (j1P a b c d):=by
 unfold j1P
 with_reducible repeat' (first | exact oR _ | exact oN _ | exact j7C N _ _ _ | exact jfx N _ _ _ _ _ _ _ | exact j8T N _ | apply oC | apply oS | refine oB ?_ ?_ | intro _)
theorem jhv (N a b c d e f g h):OLe (@j5z (j0c N) a b c d e f g h) (j5z a b c d e f g h):=OLe.loop N _ fun _=>oR _
theorem jhw (N a b c d e f g h i j):OLe (@j4w (j0c N) a b c d e f g h i j) (j4w a b c d e f g h i j):=OLe.loop N _ fun _=>oR _
theorem jdP (N a b c d e f):OLe (@j2a (j0c N) a b c d e f) (j2a a b c d e f):=by
 unfold j2a
 with_reducible repeat' (first | exact oR _ | exact oN _ | exact jhv N _ _ _ _ _ _ _ _ | exact jhw N _ _ _ _ _ _ _ _ _ _ | apply oC | apply oS | refine oB ?_ ?_ | intro _)
theorem jhx (N a b c d e f):OLe (@j3O (j0c N) a b c d e f) (j3O a b c d e f):=OLe.loop N _ fun _=>jdP N _ _ _ _ _ _
theorem jbM (N a b):OLe (@j2p (j0c N) a b) (j2p a b):=by
 unfold j2p
 with_reducible repeat' (first | exact oR _ | exact oN _ | exact jhx N _ _ _ _ _ _ | apply oC | apply oS | refine oB ?_ ?_ | intro _)
theorem jii (N a b c d e):OLe (@j3H (j0c N) a b c d e) (j3H a b c d e):=OLe.loop N _ fun _=>oR _
theorem jlj (N a b):OLe (@j6J (j0c N) a b) (j6J a b):=by
 unfold j6J
 with_reducible repeat' (first | exact oR _ | exact oN _ | exact jii N _ _ _ _ _ | apply oC | apply oS | refine oB ?_ ?_ | intro _)
theorem jhy (N a b c d):OLe (@j3P (j0c N) a b c d) (j3P a b c d):=by
 unfold j3P
 with_reducible repeat' (first | exact oR _ | exact oN _ | exact j4C N _ _ _ | exact jkx N _ _ _ _ | exact jih N _ _ _ _ | exact jbM N _ _ | exact jlj N _ _ | apply oC | apply oS | refine oB ?_ ?_ | intro _)
theorem jfy (N a b):OLe (@j3x (j0c N) a b) (j3x a b):=by
 unfold j3x
 with_reducible repeat' (first | exact oR _ | exact oN _ | exact jbL N _ _ | apply oC | apply oS | refine oB ?_ ?_ | intro _)
theorem jbN (N a b):OLe (@j0v (j0c N) a b) (j0v a b):=by
 unfold j0v
 with_reducible repeat' (first | exact oR _ | exact oN _ | exact jfy N _ _ | apply oC | apply oS | refine oB ?_ ?_ | intro _)
theorem jdc (N a b c d e f g h i j k l m n):OLe (@j1U (j0c N) a b c d e f g h i j k l m n) (j1U a b c d e f g h i j k l m n):=by
 unfold j1U
 with_reducible repeat' (first | exact oR _ | exact oN _ | exact j4C N _ _ _ | apply oC | apply oS | refine oB ?_ ?_ | intro _)
theorem jgv (N a b c d e f g h i j k l m n):OLe (@j4P (j0c N) a b c d e f g h i j k l m n) (j4P a b c d e f g h i j k l m n):=OLe.loop N _ fun _=>jdc N _ _ _ _ _ _ _ _ _ _ _ _ _ _
theorem jdd (N a b c d e f g h i j k l m n):OLe (@j2q (j0c N) a b c d e f g h i j k l m n) (j2q a b c d e f g h i j k l m n):=by
 unfold j2q
 with_reducible repeat' (first | exact oR _ | exact oN _ | exact j4C N _ _ _ | apply oC | apply oS | refine oB ?_ ?_ | intro _)
theorem jgw (N a b c d e f g h i j k l m n):OLe (@j4Q (j0c N) a b c d e f g h i j k l m n) (j4Q a b c d e f g h i j k l m n):=OLe.loop N _ fun _=>jdd N _ _ _ _ _ _ _ _ _ _ _ _ _ _
theorem je6 (N a b c):OLe (@j20 (j0c N) a b c) (j20 a b c):=by
 unfold j20
 with_reducible repeat' (first | exact oR _ | exact oN _ | exact j4C N _ _ _ | exact jbN N _ _ | exact jgv N _ _ _ _ _ _ _ _ _ _ _ _ _ _ | exact jgw N _ _ _ _ _ _ _ _ _ _ _ _ _ _ | apply oC | apply oS | refine oB ?_ ?_ | intro _)
theorem jj4 (N a b c d):OLe (@j4X (j0c N) a b c d) (j4X a b c d):=OLe.loop N _ fun _=>oR _
theorem jdQ (N a):OLe (@j6h (j0c N) a) (j6h a):=by
 unfold j6h
 with_reducible repeat' (first | exact oR _ | exact oN _ | exact jj4 N _ _ _ _ | apply oC | apply oS | refine oB ?_ ?_ | intro _)
theorem jav (N a b c d e f g h i j k l m n o p q r s t u v):OLe (@j1o (j0c N) a b c d e f g h i j k l m n o p q r s t u v) (j1o a b c d e f g h i j k l m n o p q r s t u v):=by
 unfold j1o
 with_reducible repeat' (first | exact oR _ | exact oN _ | exact je6 N _ _ _ | exact j4C N _ _ _ | apply oC | apply oS | refine oB ?_ ?_ | intro _)
theorem jde (N a b c d e f g h i j k l m n o p q r s t u v):OLe (@j2r (j0c N) a b c d e f g h i j k l m n o p q r s t u v) (j2r a b c d e f g h i j k l m n o p q r s t u v):=OLe.loop N _ fun _=>jav N _ _ _ _ _ _ _ _ _ _ _ _ _ _ _ _ _ _ _ _ _ _
theorem jaw (N a b c d e f g h i j k l m n o p q r s t):OLe (@j13 (j0c N) a b c d e f g h i j k l m n o p q r s t) (j13 a b c d e f g h i j k l m n o p q r s t):=by
 unfold j13
 with_reducible repeat' (first | exact oR _ | exact oN _ | exact jde N _ _ _ _ _ _ _ _ _ _ _ _ _ _ _ _ _ _ _ _ _ _ | apply oC | apply oS | refine oB ?_ ?_ | intro _)
theorem jdf (N a b c d e f g h i j k l m n o p q r s t):OLe (@j2s (j0c N) a b c d e f g h i j k l m n o p q r s t) (j2s a b c d e f g h i j k l m n o p q r s t):=OLe.loop N _ fun _=>jaw N _ _ _ _ _ _ _ _ _ _ _ _ _ _ _ _ _ _ _ _
theorem jf1 (N a b c d):OLe (@j16 (j0c N) a b c d) (j16 a b c d):=by
 unfold j16
 with_reducible repeat' (first | exact oR _ | exact oN _ | exact jhy N _ _ _ _ | exact jdf N _ _ _ _ _ _ _ _ _ _ _ _ _ _ _ _ _ _ _ _ | exact jdQ N _ | apply oC | apply oS | refine oB ?_ ?_ | intro _)
theorem jhz (N a b c d e):OLe (@j4x (j0c N) a b c d e) (j4x a b c d e):=OLe.loop N _ fun _=>oR _
theorem jky (N a b):OLe (@j4o (j0c N) a b) (j4o a b):=by
 unfold j4o
 with_reducible repeat' (first | exact oR _ | exact oN _ | exact jhz N _ _ _ _ _ | exact j8T N _ | apply oC | apply oS | refine oB ?_ ?_ | intro _)
theorem jgx (N a b c d e f g h i j k l m n):OLe (@j2N (j0c N) a b c d e f g h i j k l m n) (j2N a b c d e f g h i j k l m n):=OLe.loop N _ fun _=>oR _
theorem jdg (N a b c d e f g h):OLe (@j1V (j0c N) a b c d e f g h) (j1V a b c d e f g h):=by
 unfold j1V
 with_reducible repeat' (first | exact oR _ | exact oN _ | exact jky N _ _ | exact jbM N _ _ | exact jgx N _ _ _ _ _ _ _ _ _ _ _ _ _ _ | apply oC | apply oS | refine oB ?_ ?_ | intro _)
theorem jgy (N a b c d e f g h):OLe (@j3n (j0c N) a b c d e f g h) (j3n a b c d e f g h):=OLe.loop N _ fun _=>jdg N _ _ _ _ _ _ _ _
theorem jj5 (N a b):OLe (@j4Y (j0c N) a b) (j4Y a b):=by
 unfold j4Y
 with_reducible repeat' (first | exact oR _ | exact oN _ | exact jgy N _ _ _ _ _ _ _ _ | apply oC | apply oS | refine oB ?_ ?_ | intro _)
theorem jhA (N a b c d e):OLe (@j3c (j0c N) a b c d e) (j3c a b c d e):=OLe.loop N _ fun _=>oR _
theorem jkz (N a b):OLe (@j6K (j0c N) a b) (j6K a b):=by
 unfold j6K
 with_reducible repeat' (first | exact oR _ | exact oN _ | exact jhA N _ _ _ _ _ | apply oC | apply oS | refine oB ?_ ?_ | intro _)
theorem jij (N a b c d):OLe (@j5c (j0c N) a b c d) (j5c a b c d):=OLe.loop N _ fun _=>oR _
theorem jlk (N a):OLe (@j6L (j0c N) a) (j6L a):=by
 unfold j6L
 with_reducible repeat' (first | exact oR _ | exact oN _ | exact jij N _ _ _ _ | exact j8T N _ | apply oC | apply oS | refine oB ?_ ?_ | intro _)
theorem jbO (N a b c d e f g h i j k l m n):OLe (@j1g (j0c N) a b c d e f g h i j k l m n) (j1g a b c d e f g h i j k l m n):=by
 unfold j1g
 with_reducible repeat' (first | exact oR _ | exact oN _ | exact jf1 N _ _ _ _ | exact jj5 N _ _ | exact jkz N _ _ | exact jlk N _ | exact jbM N _ _ | apply oC | apply oS | refine oB ?_ ?_ | intro _)
theorem jem (N a b c d e f g h i j k l m n):OLe (@j2V (j0c N) a b c d e f g h i j k l m n) (j2V a b c d e f g h i j k l m n):=OLe.loop N _ fun _=>jbO N _ _ _ _ _ _ _ _ _ _ _ _ _ _
theorem jen (N a b c d):OLe (@j2W (j0c N) a b c d) (j2W a b c d):=OLe.loop N _ fun _=>oR _
theorem jgz (N a b c d):OLe (@j2O (j0c N) a b c d) (j2O a b c d):=by
 unfold j2O
 with_reducible repeat' (first | exact oR _ | exact oN _ | exact jem N _ _ _ _ _ _ _ _ _ _ _ _ _ _ | exact jen N _ _ _ _ | exact jdQ N _ | apply oC | apply oS | refine oB ?_ ?_ | intro _)
theorem j8U (N a b c d e):OLe (@j1h (j0c N) a b c d e) (j1h a b c d e):=OLe.loop N _ fun _=>oR _
theorem j5M (N a b):OLe (@j0j (j0c N) a b) (j0j a b):=by
 unfold j0j
 with_reducible repeat' (first | exact oR _ | exact oN _ | exact j8U N _ _ _ _ _ | apply oC | apply oS | refine oB ?_ ?_ | intro _)
theorem jkA (N a b c d e):OLe (@j4Z (j0c N) a b c d e) (j4Z a b c d e):=OLe.loop N _ fun _=>oR _
theorem jiD (N a b c):OLe (@j7I (j0c N) a b c) (j7I a b c):=by
 unfold j7I
 with_reducible repeat' (first | exact oR _ | exact oN _ | exact jkA N _ _ _ _ _ | apply oC | apply oS | refine oB ?_ ?_ | intro _)
theorem jf2 (N a b c d e f g h i j k l m n):OLe (@j3e (j0c N) a b c d e f g h i j k l m n) (j3e a b c d e f g h i j k l m n):=OLe.loop N _ fun _=>oR _
theorem jbW (N a b c d e f g h i j k l m):OLe (@j1s (j0c N) a b c d e f g h i j k l m) (j1s a b c d e f g h i j k l m):=by
 unfold j1s
 with_reducible repeat' (first | exact oR _ | exact oN _ | exact jiD N _ _ _ | apply oC | apply oS | refine oB ?_ ?_ | intro _)
theorem jf3 (N a b c d e f g h i j k l m):OLe (@j3X (j0c N) a b c d e f g h i j k l m) (j3X a b c d e f g h i j k l m):=OLe.loop N _ fun _=>jbW N _ _ _ _ _ _ _ _ _ _ _ _ _
theorem jbX (N a b c d e f g h):OLe (@j1t (j0c N) a b c d e f g h) (j1t a b c d e f g h):=by
 unfold j1t
 with_reducible repeat' (first | exact oR _ | exact oN _ | exact j5M N _ _ | exact jf3 N _ _ _ _ _ _ _ _ _ _ _ _ _ | apply oC | apply oS | refine oB ?_ ?_ | intro _)
theorem jf4 (N a b c d e f g h):OLe (@j3f (j0c N) a b c d e f g h) (j3f a b c d e f g h):=OLe.loop N _ fun _=>jbX N _ _ _ _ _ _ _ _
theorem jch (N a b c d):OLe (@j3g (j0c N) a b c d) (j3g a b c d):=by
 unfold j3g
 with_reducible repeat' (first | exact oR _ | exact oN _ | exact jf2 N _ _ _ _ _ _ _ _ _ _ _ _ _ _ | exact joG N _ _ _ | exact jgz N _ _ _ _ | exact jf4 N _ _ _ _ _ _ _ _ | exact jdQ N _ | apply oC | apply oS | refine oB ?_ ?_ | intro _)
theorem j8V (N a b c d):OLe (@j2L (j0c N) a b c d) (j2L a b c d):=by
 unfold j2L
 with_reducible repeat' (first | exact oR _ | exact oN _ | exact jfJ N _ _ _ _ | exact jch N _ _ _ _ | apply oC | apply oS | refine oB ?_ ?_ | intro _)
theorem jfz (N a b c):OLe (@j9m (j0c N) a b c) (j9m a b c):=OLe.loop N _ fun _=>oR _
theorem jik (N a b c d):OLe (@j7J (j0c N) a b c d) (j7J a b c d):=by
 unfold j7J
 with_reducible repeat' (first | exact oR _ | exact oN _ | exact j8V N _ _ _ _ | exact jfz N _ _ _ | apply oC | apply oS | refine oB ?_ ?_ | intro _)
theorem jll (N a b c d):OLe (@j9n (j0c N) a b c d) (j9n a b c d):=OLe.loop N _ fun _=>oR _
theorem jpK (N a b):OLe (@jdw (j0c N) a b) (jdw a b):=by
 unfold jdw
 with_reducible repeat' (first | exact oR _ | exact oN _ | exact jll N _ _ _ _ | apply oC | apply oS | refine oB ?_ ?_ | intro _)
theorem jkB (N a b c):OLe (@j4p (j0c N) a b c) (j4p a b c):=by
 unfold j4p
 with_reducible repeat' (first | exact oR _ | exact oN _ | exact je6 N _ _ _ | exact jbN N _ _ | exact jpK N _ _ | exact j5M N _ _ | apply oC | apply oS | refine oB ?_ ?_ | intro _)
theorem jgA (N a b c):OLe (@j24 (j0c N) a b c) (j24 a b c):=by
 unfold j24
 with_reducible repeat' (first | exact oR _ | exact oN _ | exact jkB N _ _ _ | apply oC | apply oS | refine oB ?_ ?_ | intro _)
theorem j6z (N a b c d e):OLe (@j0x (j0c N) a b c d e) (j0x a b c d e):=OLe.loop N _ fun _=>oR _
theorem j7E (N a b c):OLe (@j0X (j0c N) a b c) (j0X a b c):=by
 unfold j0X
 with_reducible repeat' (first | exact oR _ | exact oN _ | exact j6z N _ _ _ _ _ | apply oC | apply oS | refine oB ?_ ?_ | intro _)
theorem j6A (N a b c):OLe (@j0J (j0c N) a b c) (j0J a b c):=by
 unfold j0J
 with_reducible repeat' (first | exact oR _ | exact oN _ | exact j7E N _ _ _ | apply oC | apply oS | refine oB ?_ ?_ | intro _)
theorem jn9 (N a b c):OLe (@j9o (j0c N) a b c) (j9o a b c):=by
 unfold j9o
 with_reducible repeat' (first | exact oR _ | exact oN _ | exact j6A N _ _ _ | apply oC | apply oS | refine oB ?_ ?_ | intro _)
theorem jdh (N a b c d e f g h i j k l m):OLe (@j1W (j0c N) a b c d e f g h i j k l m) (j1W a b c d e f g h i j k l m):=by
 unfold j1W
 with_reducible repeat' (first | exact oR _ | exact oN _ | exact jgA N _ _ _ | exact jn9 N _ _ _ | apply oC | apply oS | refine oB ?_ ?_ | intro _)
theorem jgB (N a b c d e f g h i j k l m):OLe (@j43 (j0c N) a b c d e f g h i j k l m) (j43 a b c d e f g h i j k l m):=OLe.loop N _ fun _=>jdh N _ _ _ _ _ _ _ _ _ _ _ _ _
theorem jj6 (N a b c):OLe (@j3h (j0c N) a b c) (j3h a b c):=by
 unfold j3h
 with_reducible repeat' (first | exact oR _ | exact oN _ | exact jgB N _ _ _ _ _ _ _ _ _ _ _ _ _ | apply oC | apply oS | refine oB ?_ ?_ | intro _)
theorem jdR (N a b c):OLe (@j5B (j0c N) a b c) (j5B a b c):=by
 unfold j5B
 with_reducible repeat' (first | exact oR _ | exact oN _ | exact jj6 N _ _ _ | exact jiD N _ _ _ | apply oC | apply oS | refine oB ?_ ?_ | intro _)
theorem jil (N a b c d e f g h i j k l m n o p q r):OLe (@jco (j0c N) a b c d e f g h i j k l m n o p q r) (jco a b c d e f g h i j k l m n o p q r):=OLe.loop N _ fun _=>oR _
theorem jlm (N a b c):OLe (@jbg (j0c N) a b c) (jbg a b c):=by
 unfold jbg
 with_reducible repeat' (first | exact oR _ | exact oN _ | exact jfJ N _ _ _ _ | exact jch N _ _ _ _ | exact jil N _ _ _ _ _ _ _ _ _ _ _ _ _ _ _ _ _ _ | exact jdR N _ _ _ | apply oC | apply oS | refine oB ?_ ?_ | intro _)
theorem jfA (N a b c d e):OLe (@j3z (j0c N) a b c d e) (j3z a b c d e):=OLe.loop N _ fun _=>oR _
theorem jim (N a b):OLe (@j6i (j0c N) a b) (j6i a b):=by
 unfold j6i
 with_reducible repeat' (first | exact oR _ | exact oN _ | exact jfA N _ _ _ _ _ | exact j8T N _ | apply oC | apply oS | refine oB ?_ ?_ | intro _)
theorem jkC (N a b c d e):OLe (@j50 (j0c N) a b c d e) (j50 a b c d e):=by
 unfold j50
 with_reducible repeat' (first | exact oR _ | exact oN _ | exact j8V N _ _ _ _ | exact jim N _ _ | apply oC | apply oS | refine oB ?_ ?_ | intro _)
theorem jf5 (N a b c d e f g h i j):OLe (@j2I (j0c N) a b c d e f g h i j) (j2I a b c d e f g h i j):=by
 unfold j2I
 with_reducible repeat' (first | exact oR _ | exact oN _ | exact jdR N _ _ _ | apply oC | apply oS | refine oB ?_ ?_ | intro _)
theorem jj7 (N a b c d e f g h i j):OLe (@j5U (j0c N) a b c d e f g h i j) (j5U a b c d e f g h i j):=OLe.loop N _ fun _=>jf5 N _ _ _ _ _ _ _ _ _ _
theorem jna (N a b):OLe (@j73 (j0c N) a b) (j73 a b):=by
 unfold j73
 with_reducible repeat' (first | exact oR _ | exact oN _ | exact jif N _ | exact jj7 N _ _ _ _ _ _ _ _ _ _ | apply oC | apply oS | refine oB ?_ ?_ | intro _)
theorem jpL (N a b c):OLe (@jfi (j0c N) a b c) (jfi a b c):=by
 unfold jfi
 with_reducible repeat' (first | exact oR _ | exact oN _ | exact jif N _ | exact jdR N _ _ _ | apply oC | apply oS | refine oB ?_ ?_ | intro _)
theorem jnb (N a b c):OLe (@j5C (j0c N) a b c) (j5C a b c):=by
 unfold j5C
 with_reducible repeat' (first | exact oR _ | exact oN _ | exact jpL N _ _ _ | apply oC | apply oS | refine oB ?_ ?_ | intro _)
theorem jnc (N):OLe (@j9p (j0c N) ) (j9p ):=by
 unfold j9p
 with_reducible repeat' (first | exact oR _ | exact oN _ | exact jik N _ _ _ _ | exact jlm N _ _ _ | exact j8V N _ _ _ _ | exact jkC N _ _ _ _ _ | exact jna N _ _ | exact jnb N _ _ _ | apply oC | apply oS | refine oB ?_ ?_ | intro _)
abbrev jnd (N:Nat):=@j1H (j0c N)
end
end Go.Proofs.Pw
