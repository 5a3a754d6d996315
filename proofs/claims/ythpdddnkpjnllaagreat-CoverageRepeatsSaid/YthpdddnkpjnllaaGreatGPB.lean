/- Twins with a bound on their rounds, printed by a program. -/
import Derived.Test.YthpdddnkpjnllaaGreatGFns
import Derived.Test.YthpdddnkpjnllaaGreatGLD
open Go Go.Lft
set_option linter.unusedVariables false
set_option maxRecDepth 100000
namespace Go.Proofs.Pw
noncomputable section
theorem jlj (N a b c):OLe (@j5r (j0b N) a b c) (j5r a b c):=OLe.loop N _ fun _=>oR _
theorem j8R (N a):OLe (@j62 (j0b N) a) (j62 a):=by
 unfold j62
 with_reducible repeat' (first | exact oR _ | exact oN _ | exact jlj N _ _ _ | apply oC | apply oS | refine oB ?_ ?_ | intro _)
theorem j6O (N a b):OLe (@j3c (j0b N) a b) (j3c a b):=by
 unfold j3c
 with_reducible repeat' (first | exact oR _ | exact oN _ | exact j8R N _ | apply oC | apply oS | refine oB ?_ ?_ | intro _)
theorem jjK (N a b c d e):OLe (@j58 (j0b N) a b c d e) (j58 a b c d e):=OLe.loop N _ fun _=>oR _
theorem jmU (N a):OLe (@j6l (j0b N) a) (j6l a):=by
 unfold j6l
 with_reducible repeat' (first | exact oR _ | exact oN _ | exact jjK N _ _ _ _ _ | apply oC | apply oS | refine oB ?_ ?_ | intro _)
theorem jri (N a b c d):OLe (@jbD (j0b N) a b c d) (jbD a b c d):=by
 unfold jbD
 with_reducible repeat' (first | exact oR _ | exact oN _ | exact jmU N _ | apply oC | apply oS | refine oB ?_ ?_ | intro _)
theorem j4h (N a b c d e):OLe (@j0i (j0b N) a b c d e) (j0i a b c d e):=OLe.loop N _ fun _=>oR _
theorem j3J (N a b c d):OLe (@j06 (j0b N) a b c d) (j06 a b c d):=by
 unfold j06
 with_reducible repeat' (first | exact oR _ | exact oN _ | exact j4h N _ _ _ _ _ | apply oC | apply oS | refine oB ?_ ?_ | intro _)
theorem j4i (N a b c d):OLe (@j0j (j0b N) a b c d) (j0j a b c d):=OLe.loop N _ fun _=>j3J N _ _ _ _
theorem j2g (N a b c):OLe (@j0d (j0b N) a b c) (j0d a b c):=by
 unfold j0d
 with_reducible repeat' (first | exact oR _ | exact oN _ | exact j4i N _ _ _ _ | apply oC | apply oS | refine oB ?_ ?_ | intro _)
theorem j4V (N a b c d e):OLe (@j0f (j0b N) a b c d e) (j0f a b c d e):=by
 unfold j0f
 with_reducible repeat' (first | exact oR _ | exact oN _ | exact j2g N _ _ _ | apply oC | apply oS | refine oB ?_ ?_ | intro _)
theorem j5Y (N a b c d e):OLe (@j0v (j0b N) a b c d e) (j0v a b c d e):=OLe.loop N _ fun _=>j4V N _ _ _ _ _
theorem j5Z (N a b c d e):OLe (@j1K (j0b N) a b c d e) (j1K a b c d e):=OLe.loop N _ fun _=>oR _
theorem j4W (N a b c):OLe (@j0g (j0b N) a b c) (j0g a b c):=by
 unfold j0g
 with_reducible repeat' (first | exact oR _ | exact oN _ | exact j5Z N _ _ _ _ _ | apply oC | apply oS | refine oB ?_ ?_ | intro _)
theorem j60 (N a b c):OLe (@j0w (j0b N) a b c) (j0w a b c):=OLe.loop N _ fun _=>j4W N _ _ _
theorem j6P (N a b):OLe (@j0C (j0b N) a b) (j0C a b):=by
 unfold j0C
 with_reducible repeat' (first | exact oR _ | exact oN _ | exact j5Y N _ _ _ _ _ | exact j2g N _ _ _ | exact j60 N _ _ _ | apply oC | apply oS | refine oB ?_ ?_ | intro _)
theorem j3q (N a):OLe (@j09 (j0b N) a) (j09 a):=by
 unfold j09
 with_reducible repeat' (first | exact oR _ | exact oN _ | exact j6P N _ _ | apply oC | apply oS | refine oB ?_ ?_ | intro _)
theorem jfC (N a b c d e f g):OLe (@j2h (j0b N) a b c d e f g) (j2h a b c d e f g):=OLe.loop N _ fun _=>oR _
theorem jcw (N a b c d e f g h i j k l):OLe (@j0T (j0b N) a b c d e f g h i j k l) (j0T a b c d e f g h i j k l):=by
 unfold j0T
 with_reducible repeat' (first | exact oR _ | exact oN _ | exact jri N _ _ _ _ | apply oC | apply oS | refine oB ?_ ?_ | intro _)
theorem jfD (N a b c d e f g h i j k l):OLe (@j2Z (j0b N) a b c d e f g h i j k l) (j2Z a b c d e f g h i j k l):=OLe.loop N _ fun _=>jcw N _ _ _ _ _ _ _ _ _ _ _ _
theorem jcx (N a b c d):OLe (@j0U (j0b N) a b c d) (j0U a b c d):=by
 unfold j0U
 with_reducible repeat' (first | exact oR _ | exact oN _ | exact jfD N _ _ _ _ _ _ _ _ _ _ _ _ | apply oC | apply oS | refine oB ?_ ?_ | intro _)
theorem jfE (N a b c d):OLe (@j2i (j0b N) a b c d) (j2i a b c d):=OLe.loop N _ fun _=>jcx N _ _ _ _
theorem jit (N a):OLe (@j3v (j0b N) a) (j3v a):=by
 unfold j3v
 with_reducible repeat' (first | exact oR _ | exact oN _ | exact jfC N _ _ _ _ _ _ _ | exact jfE N _ _ _ _ | exact j3q N _ | apply oC | apply oS | refine oB ?_ ?_ | intro _)
theorem jfF (N a b c d e):OLe (@j2j (j0b N) a b c d e) (j2j a b c d e):=OLe.loop N _ fun _=>oR _
theorem jcy (N a):OLe (@j1P (j0b N) a) (j1P a):=by
 unfold j1P
 with_reducible repeat' (first | exact oR _ | exact oN _ | exact jit N _ | exact jfF N _ _ _ _ _ | apply oC | apply oS | refine oB ?_ ?_ | intro _)
theorem jpA (N a):OLe (@j8a (j0b N) a) (j8a a):=by
 unfold j8a
 with_reducible repeat' (first | exact oR _ | exact oN _ | exact jcy N _ | apply oC | apply oS | refine oB ?_ ?_ | intro _)
theorem j4K (N a b c):OLe (@j0l (j0b N) a b c) (j0l a b c):=OLe.loop N _ fun _=>oR _
theorem j5i (N a):OLe (@j0r (j0b N) a) (j0r a):=by
 unfold j0r
 with_reducible repeat' (first | exact oR _ | exact oN _ | exact j4K N _ _ _ | apply oC | apply oS | refine oB ?_ ?_ | intro _)
theorem j4L (N a):OLe (@j0m (j0b N) a) (j0m a):=by
 unfold j0m
 with_reducible repeat' (first | exact oR _ | exact oN _ | exact j5i N _ | apply oC | apply oS | refine oB ?_ ?_ | intro _)
theorem jhi (N a):OLe (@j2s (j0b N) a) (j2s a):=by
 unfold j2s
 with_reducible repeat' (first | exact oR _ | exact oN _ | exact jpA N _ | exact j4L N _ | apply oC | apply oS | refine oB ?_ ?_ | intro _)
theorem j8S (N a b c d):OLe (@j0y (j0b N) a b c d) (j0y a b c d):=by
 unfold j0y
 with_reducible repeat' (first | exact oR _ | exact oN _ | exact j6O N _ _ | exact jhi N _ | apply oC | apply oS | refine oB ?_ ?_ | intro _)
theorem jbl (N a b c d):OLe (@j1a (j0b N) a b c d) (j1a a b c d):=OLe.loop N _ fun _=>j8S N _ _ _ _
theorem jdF (N a):OLe (@j1z (j0b N) a) (j1z a):=by
 unfold j1z
 with_reducible repeat' (first | exact oR _ | exact oN _ | exact jbl N _ _ _ _ | apply oC | apply oS | refine oB ?_ ?_ | intro _)
theorem jlk (N a b c d):OLe (@j6R (j0b N) a b c d) (j6R a b c d):=OLe.loop N _ fun _=>oR _
theorem jjL (N a):OLe (@j8b (j0b N) a) (j8b a):=by
 unfold j8b
 with_reducible repeat' (first | exact oR _ | exact oN _ | exact jlk N _ _ _ _ | apply oC | apply oS | refine oB ?_ ?_ | intro _)
theorem jfG (N a b):OLe (@j1s (j0b N) a b) (j1s a b):=by
 unfold j1s
 with_reducible repeat' (first | exact oR _ | exact oN _ | exact jjL N _ | apply oC | apply oS | refine oB ?_ ?_ | intro _)
theorem jll (N a b):OLe (@jew (j0b N) a b) (jew a b):=OLe.loop N _ fun _=>oR _
theorem jpB (N a):OLe (@jdY (j0b N) a) (jdY a):=by
 unfold jdY
 with_reducible repeat' (first | exact oR _ | exact oN _ | exact jll N _ _ | apply oC | apply oS | refine oB ?_ ?_ | intro _)
theorem jjM (N a b c d e f g):OLe (@jbE (j0b N) a b c d e f g) (jbE a b c d e f g):=OLe.loop N _ fun _=>oR _
theorem jmV (N a):OLe (@j3T (j0b N) a) (j3T a):=by
 unfold j3T
 with_reducible repeat' (first | exact oR _ | exact oN _ | exact jpB N _ | exact jjM N _ _ _ _ _ _ _ | apply oC | apply oS | refine oB ?_ ?_ | intro _)
theorem j9U (N a):OLe (@j0D (j0b N) a) (j0D a):=by
 unfold j0D
 with_reducible repeat' (first | exact oR _ | exact oN _ | exact jmV N _ | apply oC | apply oS | refine oB ?_ ?_ | intro _)
theorem jcz (N a):OLe (@j1D (j0b N) a) (j1D a):=by
 unfold j1D
 with_reducible repeat' (first | exact oR _ | exact oN _ | exact j9U N _ | apply oC | apply oS | refine oB ?_ ?_ | intro _)
theorem j87 (N a b c):OLe (@j0u (j0b N) a b c) (j0u a b c):=by
 unfold j0u
 with_reducible repeat' (first | exact oR _ | exact oN _ | exact jcz N _ | apply oC | apply oS | refine oB ?_ ?_ | intro _)
theorem jao (N a b c):OLe (@j1f (j0b N) a b c) (j1f a b c):=OLe.loop N _ fun _=>j87 N _ _ _
theorem jcA (N a):OLe (@j1E (j0b N) a) (j1E a):=by
 unfold j1E
 with_reducible repeat' (first | exact oR _ | exact oN _ | exact jao N _ _ _ | apply oC | apply oS | refine oB ?_ ?_ | intro _)
theorem jap (N a):OLe (@j1g (j0b N) a) (j1g a):=by
 unfold j1g
 with_reducible repeat' (first | exact oR _ | exact oN _ | exact jcA N _ | apply oC | apply oS | refine oB ?_ ?_ | intro _)
theorem jcB (N a b c d e):OLe (@j1F (j0b N) a b c d e) (j1F a b c d e):=OLe.loop N _ fun _=>oR _
theorem jee (N a b):OLe (@j1m (j0b N) a b) (j1m a b):=by
 unfold j1m
 with_reducible repeat' (first | exact oR _ | exact oN _ | exact jap N _ | exact jcB N _ _ _ _ _ | apply oC | apply oS | refine oB ?_ ?_ | intro _)
theorem jiu (N a b c d e):OLe (@j4k (j0b N) a b c d e) (j4k a b c d e):=by
 unfold j4k
 with_reducible repeat' (first | exact oR _ | exact oN _ | exact jee N _ _ | apply oC | apply oS | refine oB ?_ ?_ | intro _)
theorem j7r (N a b c d e f g h):OLe (@j0p (j0b N) a b c d e f g h) (j0p a b c d e f g h):=by
 unfold j0p
 with_reducible repeat' (first | exact oR _ | exact oN _ | exact j6O N _ _ | exact jiu N _ _ _ _ _ | apply oC | apply oS | refine oB ?_ ?_ | intro _)
theorem j91 (N a b c d e f g h):OLe (@j0K (j0b N) a b c d e f g h) (j0K a b c d e f g h):=OLe.loop N _ fun _=>j7r N _ _ _ _ _ _ _ _
theorem jaS (N a b c d e):OLe (@j13 (j0b N) a b c d e) (j13 a b c d e):=by
 unfold j13
 with_reducible repeat' (first | exact oR _ | exact oN _ | exact j91 N _ _ _ _ _ _ _ _ | apply oC | apply oS | refine oB ?_ ?_ | intro _)
theorem j8T (N a b c d e f g):OLe (@j0V (j0b N) a b c d e f g) (j0V a b c d e f g):=OLe.loop N _ fun _=>oR _
theorem jaq (N a b c d e):OLe (@j1h (j0b N) a b c d e) (j1h a b c d e):=by
 unfold j1h
 with_reducible repeat' (first | exact oR _ | exact oN _ | exact j8T N _ _ _ _ _ _ _ | apply oC | apply oS | refine oB ?_ ?_ | intro _)
theorem j8U (N a b c d e):OLe (@j0W (j0b N) a b c d e) (j0W a b c d e):=by
 unfold j0W
 with_reducible repeat' (first | exact oR _ | exact oN _ | exact jaq N _ _ _ _ _ | apply oC | apply oS | refine oB ?_ ?_ | intro _)
theorem jgJ (N a b):OLe (@j27 (j0b N) a b) (j27 a b):=by
 unfold j27
 with_reducible repeat' (first | exact oR _ | exact oN _ | exact j9U N _ | exact j8U N _ _ _ _ _ | exact jjL N _ | apply oC | apply oS | refine oB ?_ ?_ | intro _)
theorem jcC (N a b c d e):OLe (@j1G (j0b N) a b c d e) (j1G a b c d e):=by
 unfold j1G
 with_reducible repeat' (first | exact oR _ | exact oN _ | exact jgJ N _ _ | apply oC | apply oS | refine oB ?_ ?_ | intro _)
theorem j8h (N a b c d e f g h):OLe (@j0x (j0b N) a b c d e f g h) (j0x a b c d e f g h):=by
 unfold j0x
 with_reducible repeat' (first | exact oR _ | exact oN _ | exact j6O N _ _ | exact jcC N _ _ _ _ _ | apply oC | apply oS | refine oB ?_ ?_ | intro _)
theorem jaT (N a b c d e f g h):OLe (@j14 (j0b N) a b c d e f g h) (j14 a b c d e f g h):=OLe.loop N _ fun _=>j8h N _ _ _ _ _ _ _ _
theorem jcS (N a b c d e):OLe (@j1t (j0b N) a b c d e) (j1t a b c d e):=by
 unfold j1t
 with_reducible repeat' (first | exact oR _ | exact oN _ | exact jaT N _ _ _ _ _ _ _ _ | apply oC | apply oS | refine oB ?_ ?_ | intro _)
theorem jhj (N a b):OLe (@j2t (j0b N) a b) (j2t a b):=by
 unfold j2t
 with_reducible repeat' (first | exact oR _ | exact oN _ | exact j9U N _ | apply oC | apply oS | refine oB ?_ ?_ | intro _)
theorem j92 (N a b c d e f g):OLe (@j0A (j0b N) a b c d e f g) (j0A a b c d e f g):=by
 unfold j0A
 with_reducible repeat' (first | exact oR _ | exact oN _ | exact jhj N _ _ | apply oC | apply oS | refine oB ?_ ?_ | intro _)
theorem jcD (N a b c d e f g):OLe (@j1H (j0b N) a b c d e f g) (j1H a b c d e f g):=OLe.loop N _ fun _=>j92 N _ _ _ _ _ _ _
theorem jef (N a b):OLe (@j1n (j0b N) a b) (j1n a b):=by
 unfold j1n
 with_reducible repeat' (first | exact oR _ | exact oN _ | exact jcS N _ _ _ _ _ | exact jcD N _ _ _ _ _ _ _ | apply oC | apply oS | refine oB ?_ ?_ | intro _)
theorem jiv (N a b c d e):OLe (@j4l (j0b N) a b c d e) (j4l a b c d e):=by
 unfold j4l
 with_reducible repeat' (first | exact oR _ | exact oN _ | exact jef N _ _ | apply oC | apply oS | refine oB ?_ ?_ | intro _)
theorem j7s (N a b c d e f g h):OLe (@j0q (j0b N) a b c d e f g h) (j0q a b c d e f g h):=by
 unfold j0q
 with_reducible repeat' (first | exact oR _ | exact oN _ | exact j6O N _ _ | exact jiv N _ _ _ _ _ | apply oC | apply oS | refine oB ?_ ?_ | intro _)
theorem j93 (N a b c d e f g h):OLe (@j0L (j0b N) a b c d e f g h) (j0L a b c d e f g h):=OLe.loop N _ fun _=>j7s N _ _ _ _ _ _ _ _
theorem jaU (N a b c d e):OLe (@j1r (j0b N) a b c d e) (j1r a b c d e):=by
 unfold j1r
 with_reducible repeat' (first | exact oR _ | exact oN _ | exact j93 N _ _ _ _ _ _ _ _ | apply oC | apply oS | refine oB ?_ ?_ | intro _)
theorem jeg (N a b c d e f g h):OLe (@j1o (j0b N) a b c d e f g h) (j1o a b c d e f g h):=by
 unfold j1o
 with_reducible repeat' (first | exact oR _ | exact oN _ | exact j6O N _ _ | exact jfG N _ _ | apply oC | apply oS | refine oB ?_ ?_ | intro _)
theorem jiw (N a b c d e f g h):OLe (@j3w (j0b N) a b c d e f g h) (j3w a b c d e f g h):=OLe.loop N _ fun _=>jeg N _ _ _ _ _ _ _ _
theorem jlm (N a):OLe (@j4s (j0b N) a) (j4s a):=by
 unfold j4s
 with_reducible repeat' (first | exact oR _ | exact oN _ | exact jdF N _ | exact jiw N _ _ _ _ _ _ _ _ | exact jaS N _ _ _ _ _ | exact jaU N _ _ _ _ _ | apply oC | apply oS | refine oB ?_ ?_ | intro _)
theorem juE (N a):OLe (@jg4 (j0b N) a) (jg4 a):=by
 unfold jg4
 with_reducible repeat' (first | exact oR _ | exact oN _ | exact jcy N _ | apply oC | apply oS | refine oB ?_ ?_ | intro _)
theorem jfH (N a b c d):OLe (@j1L (j0b N) a b c d) (j1L a b c d):=by
 unfold j1L
 with_reducible repeat' (first | exact oR _ | exact oN _ | exact juE N _ | apply oC | apply oS | refine oB ?_ ?_ | intro _)
theorem jkD (N a b c d):OLe (@j4N (j0b N) a b c d) (j4N a b c d):=OLe.loop N _ fun _=>jfH N _ _ _ _
theorem jnF (N a):OLe (@j9p (j0b N) a) (j9p a):=by
 unfold j9p
 with_reducible repeat' (first | exact oR _ | exact oN _ | exact jkD N _ _ _ _ | apply oC | apply oS | refine oB ?_ ?_ | intro _)
theorem jrj (N a):OLe (@jbG (j0b N) a) (jbG a):=by
 unfold jbG
 with_reducible repeat' (first | exact oR _ | exact oN _ | exact jnF N _ | apply oC | apply oS | refine oB ?_ ?_ | intro _)
theorem jog (N a):OLe (@jex (j0b N) a) (jex a):=by
 unfold jex
 with_reducible repeat' (first | exact oR _ | exact oN _ | exact jlm N _ | exact jrj N _ | apply oC | apply oS | refine oB ?_ ?_ | intro _)
theorem jhD (N a b c d):OLe (@j9q (j0b N) a b c d) (j9q a b c d):=by
 unfold j9q
 with_reducible repeat' (first | exact oR _ | exact oN _ | exact jog N _ | apply oC | apply oS | refine oB ?_ ?_ | intro _)
theorem jkE (N a b c d e):OLe (@j63 (j0b N) a b c d e) (j63 a b c d e):=OLe.loop N _ fun _=>oR _
theorem jnG (N a b c d):OLe (@j9s (j0b N) a b c d) (j9s a b c d):=by
 unfold j9s
 with_reducible repeat' (first | exact oR _ | exact oN _ | exact jkE N _ _ _ _ _ | apply oC | apply oS | refine oB ?_ ?_ | intro _)
theorem jcE (N a b):OLe (@j2T (j0b N) a b) (j2T a b):=by
 unfold j2T
 with_reducible repeat' (first | exact oR _ | exact oN _ | exact jnG N _ _ _ _ | apply oC | apply oS | refine oB ?_ ?_ | intro _)
theorem jbm (N a b c d e):OLe (@j0N (j0b N) a b c d e) (j0N a b c d e):=by
 unfold j0N
 with_reducible repeat' (first | exact oR _ | exact oN _ | exact jcE N _ _ | apply oC | apply oS | refine oB ?_ ?_ | intro _)
theorem jf8 (N a b c d e):OLe (@j23 (j0b N) a b c d e) (j23 a b c d e):=OLe.loop N _ fun _=>jbm N _ _ _ _ _
theorem j7t (N a b c):OLe (@j1S (j0b N) a b c) (j1S a b c):=by
 unfold j1S
 with_reducible repeat' (first | exact oR _ | exact oN _ | exact jf8 N _ _ _ _ _ | apply oC | apply oS | refine oB ?_ ?_ | intro _)
theorem jfI (N a b c d e):OLe (@j2k (j0b N) a b c d e) (j2k a b c d e):=OLe.loop N _ fun _=>oR _
theorem jcF (N a b):OLe (@j0P (j0b N) a b) (j0P a b):=by
 unfold j0P
 with_reducible repeat' (first | exact oR _ | exact oN _ | exact j7t N _ _ _ | exact jfI N _ _ _ _ _ | apply oC | apply oS | refine oB ?_ ?_ | intro _)
theorem j37 (N a b c):OLe (@j0F (j0b N) a b c) (j0F a b c):=by
 unfold j0F
 with_reducible repeat' (first | exact oR _ | exact oN _ | exact jcF N _ _ | apply oC | apply oS | refine oB ?_ ?_ | intro _)
theorem jfJ (N a b c d e f g h i j k l):OLe (@j2l (j0b N) a b c d e f g h i j k l) (j2l a b c d e f g h i j k l):=OLe.loop N _ fun _=>oR _
theorem jcG (N a b c d e f g h i):OLe (@j0I (j0b N) a b c d e f g h i) (j0I a b c d e f g h i):=by
 unfold j0I
 with_reducible repeat' (first | exact oR _ | exact oN _ | exact j37 N _ _ _ | exact jcF N _ _ | apply oC | apply oS | refine oB ?_ ?_ | intro _)
theorem jfK (N a b c d e f g h i):OLe (@j2m (j0b N) a b c d e f g h i) (j2m a b c d e f g h i):=OLe.loop N _ fun _=>jcG N _ _ _ _ _ _ _ _ _
theorem jcH (N a b):OLe (@j3x (j0b N) a b) (j3x a b):=by
 unfold j3x
 with_reducible repeat' (first | exact oR _ | exact oN _ | exact jfJ N _ _ _ _ _ _ _ _ _ _ _ _ | exact jfK N _ _ _ _ _ _ _ _ _ | apply oC | apply oS | refine oB ?_ ?_ | intro _)
theorem j8V (N a b c d e):OLe (@j3d (j0b N) a b c d e) (j3d a b c d e):=OLe.loop N _ fun _=>oR _
theorem jar (N a b c):OLe (@j1M (j0b N) a b c) (j1M a b c):=by
 unfold j1M
 with_reducible repeat' (first | exact oR _ | exact oN _ | exact j8V N _ _ _ _ _ | apply oC | apply oS | refine oB ?_ ?_ | intro _)
theorem j9M (N a b c d e):OLe (@j3L (j0b N) a b c d e) (j3L a b c d e):=OLe.loop N _ fun _=>oR _
theorem jbn (N a b c):OLe (@j29 (j0b N) a b c) (j29 a b c):=by
 unfold j29
 with_reducible repeat' (first | exact oR _ | exact oN _ | exact jar N _ _ _ | exact j9M N _ _ _ _ _ | apply oC | apply oS | refine oB ?_ ?_ | intro _)
theorem j7u (N a b c d e):OLe (@j2z (j0b N) a b c d e) (j2z a b c d e):=OLe.loop N _ fun _=>oR _
theorem j61 (N a b c d):OLe (@j0G (j0b N) a b c d) (j0G a b c d):=by
 unfold j0G
 with_reducible repeat' (first | exact oR _ | exact oN _ | exact j7u N _ _ _ _ _ | apply oC | apply oS | refine oB ?_ ?_ | intro _)
theorem j7v (N a b c d):OLe (@j2A (j0b N) a b c d) (j2A a b c d):=OLe.loop N _ fun _=>j61 N _ _ _ _
theorem j8i (N a b c):OLe (@j1j (j0b N) a b c) (j1j a b c):=by
 unfold j1j
 with_reducible repeat' (first | exact oR _ | exact oN _ | exact j7v N _ _ _ _ | apply oC | apply oS | refine oB ?_ ?_ | intro _)
theorem j7H (N a b c d e f):OLe (@j16 (j0b N) a b c d e f) (j16 a b c d e f):=by
 unfold j16
 with_reducible repeat' (first | exact oR _ | exact oN _ | exact j8i N _ _ _ | apply oC | apply oS | refine oB ?_ ?_ | intro _)
theorem j9N (N a b c d e f):OLe (@j3M (j0b N) a b c d e f) (j3M a b c d e f):=OLe.loop N _ fun _=>j7H N _ _ _ _ _ _
theorem jbo (N a b c d):OLe (@j2a (j0b N) a b c d) (j2a a b c d):=by
 unfold j2a
 with_reducible repeat' (first | exact oR _ | exact oN _ | exact j9N N _ _ _ _ _ _ | apply oC | apply oS | refine oB ?_ ?_ | intro _)
theorem jfL (N a):OLe (@j45 (j0b N) a) (j45 a):=by
 unfold j45
 with_reducible repeat' (first | exact oR _ | exact oN _ | exact jbo N _ _ _ _ | apply oC | apply oS | refine oB ?_ ?_ | intro _)
theorem jbp (N a b c d):OLe (@j4O (j0b N) a b c d) (j4O a b c d):=OLe.loop N _ fun _=>oR _
theorem j8W (N a b):OLe (@j1p (j0b N) a b) (j1p a b):=by
 unfold j1p
 with_reducible repeat' (first | exact oR _ | exact oN _ | exact jbp N _ _ _ _ | apply oC | apply oS | refine oB ?_ ?_ | intro _)
theorem jbq (N a b):OLe (@j4P (j0b N) a b) (j4P a b):=OLe.loop N _ fun _=>j8W N _ _
theorem jdG (N a):OLe (@j2X (j0b N) a) (j2X a):=by
 unfold j2X
 with_reducible repeat' (first | exact oR _ | exact oN _ | exact jbq N _ _ | apply oC | apply oS | refine oB ?_ ?_ | intro _)
theorem jrk (N a b c):OLe (@jg7 (j0b N) a b c) (jg7 a b c):=by
 unfold jg7
 with_reducible repeat' (first | exact oR _ | exact oN _ | exact jbn N _ _ _ | exact jfL N _ | exact jdG N _ | apply oC | apply oS | refine oB ?_ ?_ | intro _)
theorem j6i (N a b c):OLe (@j24 (j0b N) a b c) (j24 a b c):=OLe.loop N _ fun _=>oR _
theorem j7w (N a):OLe (@j11 (j0b N) a) (j11 a):=by
 unfold j11
 with_reducible repeat' (first | exact oR _ | exact oN _ | exact j6i N _ _ _ | apply oC | apply oS | refine oB ?_ ?_ | intro _)
theorem j68 (N a b c):OLe (@j1T (j0b N) a b c) (j1T a b c):=OLe.loop N _ fun _=>oR _
theorem j74 (N a):OLe (@j0S (j0b N) a) (j0S a):=by
 unfold j0S
 with_reducible repeat' (first | exact oR _ | exact oN _ | exact j7w N _ | exact j68 N _ _ _ | apply oC | apply oS | refine oB ?_ ?_ | intro _)
theorem jln (N a b c d):OLe (@jez (j0b N) a b c d) (jez a b c d):=OLe.loop N _ fun _=>oR _
theorem j8X (N a):OLe (@j6T (j0b N) a) (j6T a):=by
 unfold j6T
 with_reducible repeat' (first | exact oR _ | exact oN _ | exact j74 N _ | exact jln N _ _ _ _ | apply oC | apply oS | refine oB ?_ ?_ | intro _)
theorem jjN (N a b c d e f g h i j k l):OLe (@jbJ (j0b N) a b c d e f g h i j k l) (jbJ a b c d e f g h i j k l):=OLe.loop N _ fun _=>oR _
theorem jf9 (N a b c d e f g h i):OLe (@j3F (j0b N) a b c d e f g h i) (j3F a b c d e f g h i):=by
 unfold j3F
 with_reducible repeat' (first | exact oR _ | exact oN _ | exact jjN N _ _ _ _ _ _ _ _ _ _ _ _ | apply oC | apply oS | refine oB ?_ ?_ | intro _)
theorem jjO (N a b c d e f g h i):OLe (@jbK (j0b N) a b c d e f g h i) (jbK a b c d e f g h i):=OLe.loop N _ fun _=>jf9 N _ _ _ _ _ _ _ _ _
theorem jfa (N a b c d e):OLe (@j3G (j0b N) a b c d e) (j3G a b c d e):=by
 unfold j3G
 with_reducible repeat' (first | exact oR _ | exact oN _ | exact jjO N _ _ _ _ _ _ _ _ _ | apply oC | apply oS | refine oB ?_ ?_ | intro _)
theorem jjP (N a b c d e):OLe (@jbL (j0b N) a b c d e) (jbL a b c d e):=OLe.loop N _ fun _=>jfa N _ _ _ _ _
theorem jmW (N a b c d):OLe (@ja0 (j0b N) a b c d) (ja0 a b c d):=by
 unfold ja0
 with_reducible repeat' (first | exact oR _ | exact oN _ | exact j7t N _ _ _ | exact jjP N _ _ _ _ _ | exact j8X N _ | apply oC | apply oS | refine oB ?_ ?_ | intro _)
theorem jhk (N a b c d e f g h i j k l m):OLe (@j9t (j0b N) a b c d e f g h i j k l m) (j9t a b c d e f g h i j k l m):=OLe.loop N _ fun _=>oR _
theorem jdH (N a b c d e f g):OLe (@j2Y (j0b N) a b c d e f g) (j2Y a b c d e f g):=by
 unfold j2Y
 with_reducible repeat' (first | exact oR _ | exact oN _ | exact jhk N _ _ _ _ _ _ _ _ _ _ _ _ _ | apply oC | apply oS | refine oB ?_ ?_ | intro _)
theorem jhl (N a b c d e f g):OLe (@j9u (j0b N) a b c d e f g) (j9u a b c d e f g):=OLe.loop N _ fun _=>jdH N _ _ _ _ _ _ _
theorem jkF (N a b c d):OLe (@j3V (j0b N) a b c d) (j3V a b c d):=by
 unfold j3V
 with_reducible repeat' (first | exact oR _ | exact oN _ | exact j7t N _ _ _ | exact jhl N _ _ _ _ _ _ _ | exact j8X N _ | apply oC | apply oS | refine oB ?_ ?_ | intro _)
theorem jjQ (N a b c d e f g h):OLe (@jbM (j0b N) a b c d e f g h) (jbM a b c d e f g h):=OLe.loop N _ fun _=>oR _
theorem jjR (N a b c d e f g h i j):OLe (@jbN (j0b N) a b c d e f g h i j) (jbN a b c d e f g h i j):=OLe.loop N _ fun _=>oR _
theorem jfb (N a b c d e f):OLe (@j3H (j0b N) a b c d e f) (j3H a b c d e f):=by
 unfold j3H
 with_reducible repeat' (first | exact oR _ | exact oN _ | exact jjQ N _ _ _ _ _ _ _ _ | exact jjR N _ _ _ _ _ _ _ _ _ _ | apply oC | apply oS | refine oB ?_ ?_ | intro _)
theorem jjS (N a b c d e f):OLe (@jbO (j0b N) a b c d e f) (jbO a b c d e f):=OLe.loop N _ fun _=>jfb N _ _ _ _ _ _
theorem jcI (N a b):OLe (@j4u (j0b N) a b) (j4u a b):=by
 unfold j4u
 with_reducible repeat' (first | exact oR _ | exact oN _ | exact jjS N _ _ _ _ _ _ | apply oC | apply oS | refine oB ?_ ?_ | intro _)
theorem jkG (N a b c d e):OLe (@jde (j0b N) a b c d e) (jde a b c d e):=OLe.loop N _ fun _=>oR _
theorem jnH (N a b):OLe (@j9v (j0b N) a b) (j9v a b):=by
 unfold j9v
 with_reducible repeat' (first | exact oR _ | exact oN _ | exact jkG N _ _ _ _ _ | apply oC | apply oS | refine oB ?_ ?_ | intro _)
theorem jjT (N a b c d):OLe (@j6p (j0b N) a b c d) (j6p a b c d):=by
 unfold j6p
 with_reducible repeat' (first | exact oR _ | exact oN _ | exact j37 N _ _ _ | exact jmW N _ _ _ _ | exact jkF N _ _ _ _ | exact jcI N _ _ | exact jnH N _ _ | apply oC | apply oS | refine oB ?_ ?_ | intro _)
theorem jhm (N a b):OLe (@j32 (j0b N) a b) (j32 a b):=by
 unfold j32
 with_reducible repeat' (first | exact oR _ | exact oN _ | exact jcE N _ _ | apply oC | apply oS | refine oB ?_ ?_ | intro _)
theorem jix (N a b):OLe (@j0s (j0b N) a b) (j0s a b):=by
 unfold j0s
 with_reducible repeat' (first | exact oR _ | exact oN _ | exact jhm N _ _ | apply oC | apply oS | refine oB ?_ ?_ | intro _)
theorem jeh (N a b c d e f g h i j k l m n):OLe (@j1q (j0b N) a b c d e f g h i j k l m n) (j1q a b c d e f g h i j k l m n):=by
 unfold j1q
 with_reducible repeat' (first | exact oR _ | exact oN _ | exact j37 N _ _ _ | apply oC | apply oS | refine oB ?_ ?_ | intro _)
theorem jiy (N a b c d e f g h i j k l m n):OLe (@j4m (j0b N) a b c d e f g h i j k l m n) (j4m a b c d e f g h i j k l m n):=OLe.loop N _ fun _=>jeh N _ _ _ _ _ _ _ _ _ _ _ _ _ _
theorem jei (N a b c d e f g h i j k l m n):OLe (@j1N (j0b N) a b c d e f g h i j k l m n) (j1N a b c d e f g h i j k l m n):=by
 unfold j1N
 with_reducible repeat' (first | exact oR _ | exact oN _ | exact j37 N _ _ _ | apply oC | apply oS | refine oB ?_ ?_ | intro _)
theorem jiz (N a b c d e f g h i j k l m n):OLe (@j4n (j0b N) a b c d e f g h i j k l m n) (j4n a b c d e f g h i j k l m n):=OLe.loop N _ fun _=>jei N _ _ _ _ _ _ _ _ _ _ _ _ _ _
theorem jlo (N a b c):OLe (@j1U (j0b N) a b c) (j1U a b c):=by
 unfold j1U
 with_reducible repeat' (first | exact oR _ | exact oN _ | exact j37 N _ _ _ | exact jix N _ _ | exact jiy N _ _ _ _ _ _ _ _ _ _ _ _ _ _ | exact jiz N _ _ _ _ _ _ _ _ _ _ _ _ _ _ | apply oC | apply oS | refine oB ?_ ?_ | intro _)
theorem jlp (N a b c d):OLe (@jeA (j0b N) a b c d) (jeA a b c d):=OLe.loop N _ fun _=>oR _
theorem jfc (N a):OLe (@j9w (j0b N) a) (j9w a):=by
 unfold j9w
 with_reducible repeat' (first | exact oR _ | exact oN _ | exact jlp N _ _ _ _ | apply oC | apply oS | refine oB ?_ ?_ | intro _)
theorem jaV (N a b c d e f g h i j k l m n o p q r s t u v):OLe (@j21 (j0b N) a b c d e f g h i j k l m n o p q r s t u v) (j21 a b c d e f g h i j k l m n o p q r s t u v):=by
 unfold j21
 with_reducible repeat' (first | exact oR _ | exact oN _ | exact jlo N _ _ _ | exact j37 N _ _ _ | apply oC | apply oS | refine oB ?_ ?_ | intro _)
theorem jej (N a b c d e f g h i j k l m n o p q r s t u v):OLe (@j6q (j0b N) a b c d e f g h i j k l m n o p q r s t u v) (j6q a b c d e f g h i j k l m n o p q r s t u v):=OLe.loop N _ fun _=>jaV N _ _ _ _ _ _ _ _ _ _ _ _ _ _ _ _ _ _ _ _ _ _
theorem jaW (N a b c d e f g h i j k l m n o p q r s t):OLe (@j22 (j0b N) a b c d e f g h i j k l m n o p q r s t) (j22 a b c d e f g h i j k l m n o p q r s t):=by
 unfold j22
 with_reducible repeat' (first | exact oR _ | exact oN _ | exact jej N _ _ _ _ _ _ _ _ _ _ _ _ _ _ _ _ _ _ _ _ _ _ | apply oC | apply oS | refine oB ?_ ?_ | intro _)
theorem jek (N a b c d e f g h i j k l m n o p q r s t):OLe (@j6r (j0b N) a b c d e f g h i j k l m n o p q r s t) (j6r a b c d e f g h i j k l m n o p q r s t):=OLe.loop N _ fun _=>jaW N _ _ _ _ _ _ _ _ _ _ _ _ _ _ _ _ _ _ _ _
theorem jgK (N a b c d):OLe (@j4v (j0b N) a b c d) (j4v a b c d):=by
 unfold j4v
 with_reducible repeat' (first | exact oR _ | exact oN _ | exact jjT N _ _ _ _ | exact jek N _ _ _ _ _ _ _ _ _ _ _ _ _ _ _ _ _ _ _ _ | exact jfc N _ | apply oC | apply oS | refine oB ?_ ?_ | intro _)
theorem jjU (N a b c d e):OLe (@jbR (j0b N) a b c d e) (jbR a b c d e):=OLe.loop N _ fun _=>oR _
theorem jmX (N a b):OLe (@ja1 (j0b N) a b) (ja1 a b):=by
 unfold ja1
 with_reducible repeat' (first | exact oR _ | exact oN _ | exact jjU N _ _ _ _ _ | exact j8X N _ | apply oC | apply oS | refine oB ?_ ?_ | intro _)
theorem jiA (N a b c d e f g h i j k l m n):OLe (@j7L (j0b N) a b c d e f g h i j k l m n) (j7L a b c d e f g h i j k l m n):=OLe.loop N _ fun _=>oR _
theorem jel (N a b c d e f g h):OLe (@j3f (j0b N) a b c d e f g h) (j3f a b c d e f g h):=by
 unfold j3f
 with_reducible repeat' (first | exact oR _ | exact oN _ | exact jmX N _ _ | exact jcI N _ _ | exact jiA N _ _ _ _ _ _ _ _ _ _ _ _ _ _ | apply oC | apply oS | refine oB ?_ ?_ | intro _)
theorem jiB (N a b c d e f g h):OLe (@jaA (j0b N) a b c d e f g h) (jaA a b c d e f g h):=OLe.loop N _ fun _=>jel N _ _ _ _ _ _ _ _
theorem jlq (N a b):OLe (@j8r (j0b N) a b) (j8r a b):=by
 unfold j8r
 with_reducible repeat' (first | exact oR _ | exact oN _ | exact jiB N _ _ _ _ _ _ _ _ | apply oC | apply oS | refine oB ?_ ?_ | intro _)
theorem jjV (N a b c d e):OLe (@jbS (j0b N) a b c d e) (jbS a b c d e):=OLe.loop N _ fun _=>oR _
theorem jmY (N a b):OLe (@ja3 (j0b N) a b) (ja3 a b):=by
 unfold ja3
 with_reducible repeat' (first | exact oR _ | exact oN _ | exact jjV N _ _ _ _ _ | apply oC | apply oS | refine oB ?_ ?_ | intro _)
theorem jkH (N a b c d):OLe (@jdf (j0b N) a b c d) (jdf a b c d):=OLe.loop N _ fun _=>oR _
theorem jnI (N a):OLe (@jbU (j0b N) a) (jbU a):=by
 unfold jbU
 with_reducible repeat' (first | exact oR _ | exact oN _ | exact jkH N _ _ _ _ | exact j8X N _ | apply oC | apply oS | refine oB ?_ ?_ | intro _)
theorem jcJ (N a b c d e f g h i j k l m n):OLe (@j2v (j0b N) a b c d e f g h i j k l m n) (j2v a b c d e f g h i j k l m n):=by
 unfold j2v
 with_reducible repeat' (first | exact oR _ | exact oN _ | exact jgK N _ _ _ _ | exact jlq N _ _ | exact jmY N _ _ | exact jnI N _ | exact jcI N _ _ | apply oC | apply oS | refine oB ?_ ?_ | intro _)
theorem jfM (N a b c d e f g h i j k l m n):OLe (@j7V (j0b N) a b c d e f g h i j k l m n) (j7V a b c d e f g h i j k l m n):=OLe.loop N _ fun _=>jcJ N _ _ _ _ _ _ _ _ _ _ _ _ _ _
theorem jfN (N a b c d):OLe (@j7W (j0b N) a b c d) (j7W a b c d):=OLe.loop N _ fun _=>oR _
theorem jiC (N a b c d):OLe (@j5I (j0b N) a b c d) (j5I a b c d):=by
 unfold j5I
 with_reducible repeat' (first | exact oR _ | exact oN _ | exact jfM N _ _ _ _ _ _ _ _ _ _ _ _ _ _ | exact jfN N _ _ _ _ | exact jfc N _ | apply oC | apply oS | refine oB ?_ ?_ | intro _)
theorem j8Y (N a b c d e):OLe (@j0X (j0b N) a b c d e) (j0X a b c d e):=OLe.loop N _ fun _=>oR _
theorem jas (N a b):OLe (@j0t (j0b N) a b) (j0t a b):=by
 unfold j0t
 with_reducible repeat' (first | exact oR _ | exact oN _ | exact j8Y N _ _ _ _ _ | apply oC | apply oS | refine oB ?_ ?_ | intro _)
theorem jmZ (N a b c d e):OLe (@jg8 (j0b N) a b c d e) (jg8 a b c d e):=OLe.loop N _ fun _=>oR _
theorem jrl (N a b c):OLe (@je2 (j0b N) a b c) (je2 a b c):=by
 unfold je2
 with_reducible repeat' (first | exact oR _ | exact oN _ | exact jmZ N _ _ _ _ _ | apply oC | apply oS | refine oB ?_ ?_ | intro _)
theorem jgL (N a b c d e f g h i j k l m n):OLe (@j8u (j0b N) a b c d e f g h i j k l m n) (j8u a b c d e f g h i j k l m n):=OLe.loop N _ fun _=>oR _
theorem jcT (N a b c d e f g h i j k l m):OLe (@j2H (j0b N) a b c d e f g h i j k l m) (j2H a b c d e f g h i j k l m):=by
 unfold j2H
 with_reducible repeat' (first | exact oR _ | exact oN _ | exact jrl N _ _ _ | apply oC | apply oS | refine oB ?_ ?_ | intro _)
theorem jgM (N a b c d e f g h i j k l m):OLe (@j8v (j0b N) a b c d e f g h i j k l m) (j8v a b c d e f g h i j k l m):=OLe.loop N _ fun _=>jcT N _ _ _ _ _ _ _ _ _ _ _ _ _
theorem jcU (N a b c d e f g h):OLe (@j2I (j0b N) a b c d e f g h) (j2I a b c d e f g h):=by
 unfold j2I
 with_reducible repeat' (first | exact oR _ | exact oN _ | exact jas N _ _ | exact jgM N _ _ _ _ _ _ _ _ _ _ _ _ _ | apply oC | apply oS | refine oB ?_ ?_ | intro _)
theorem jgN (N a b c d e f g h):OLe (@j8w (j0b N) a b c d e f g h) (j8w a b c d e f g h):=OLe.loop N _ fun _=>jcU N _ _ _ _ _ _ _ _
theorem jd9 (N a b c d):OLe (@j5a (j0b N) a b c d) (j5a a b c d):=by
 unfold j5a
 with_reducible repeat' (first | exact oR _ | exact oN _ | exact jgL N _ _ _ _ _ _ _ _ _ _ _ _ _ _ | exact jrk N _ _ _ | exact jiC N _ _ _ _ | exact jgN N _ _ _ _ _ _ _ _ | exact jfc N _ | apply oC | apply oS | refine oB ?_ ?_ | intro _)
theorem jjW (N a b c d e f g h i j k l m):OLe (@jbV (j0b N) a b c d e f g h i j k l m) (jbV a b c d e f g h i j k l m):=OLe.loop N _ fun _=>oR _
theorem jfd (N a b c d e f g h i j):OLe (@j3I (j0b N) a b c d e f g h i j) (j3I a b c d e f g h i j):=by
 unfold j3I
 with_reducible repeat' (first | exact oR _ | exact oN _ | exact jd9 N _ _ _ _ | exact jjW N _ _ _ _ _ _ _ _ _ _ _ _ _ | apply oC | apply oS | refine oB ?_ ?_ | intro _)
theorem jjX (N a b c d e f g h i j):OLe (@jbW (j0b N) a b c d e f g h i j) (jbW a b c d e f g h i j):=OLe.loop N _ fun _=>jfd N _ _ _ _ _ _ _ _ _ _
theorem jn0 (N a b c d):OLe (@ja4 (j0b N) a b c d) (ja4 a b c d):=by
 unfold ja4
 with_reducible repeat' (first | exact oR _ | exact oN _ | exact jjX N _ _ _ _ _ _ _ _ _ _ | apply oC | apply oS | refine oB ?_ ?_ | intro _)
theorem jiD (N a b c):OLe (@j4o (j0b N) a b c) (j4o a b c):=by
 unfold j4o
 with_reducible repeat' (first | exact oR _ | exact oN _ | exact jhD N _ _ _ _ | exact jcH N _ _ | exact jn0 N _ _ _ _ | apply oC | apply oS | refine oB ?_ ?_ | intro _)
theorem jjY (N a b c d):OLe (@j6s (j0b N) a b c d) (j6s a b c d):=by
 unfold j6s
 with_reducible repeat' (first | exact oR _ | exact oN _ | exact jhD N _ _ _ _ | exact jd9 N _ _ _ _ | apply oC | apply oS | refine oB ?_ ?_ | intro _)
theorem jhn (N a b c d e):OLe (@j9x (j0b N) a b c d e) (j9x a b c d e):=OLe.loop N _ fun _=>oR _
theorem jkI (N a b):OLe (@j7y (j0b N) a b) (j7y a b):=by
 unfold j7y
 with_reducible repeat' (first | exact oR _ | exact oN _ | exact jhn N _ _ _ _ _ | exact j8X N _ | apply oC | apply oS | refine oB ?_ ?_ | intro _)
theorem jn1 (N a b c d e):OLe (@ja5 (j0b N) a b c d e) (ja5 a b c d e):=by
 unfold ja5
 with_reducible repeat' (first | exact oR _ | exact oN _ | exact jjY N _ _ _ _ | exact jkI N _ _ | apply oC | apply oS | refine oB ?_ ?_ | intro _)
theorem jft (N a b c d):OLe (@j6U (j0b N) a b c d) (j6U a b c d):=by
 unfold j6U
 with_reducible repeat' (first | exact oR _ | exact oN _ | exact jn1 N _ _ _ _ _ | apply oC | apply oS | refine oB ?_ ?_ | intro _)
theorem jiE (N a b c d):OLe (@j5J (j0b N) a b c d) (j5J a b c d):=by
 unfold j5J
 with_reducible repeat' (first | exact oR _ | exact oN _ | exact jft N _ _ _ _ | apply oC | apply oS | refine oB ?_ ?_ | intro _)
theorem jiF (N a b):OLe (@j2e (j0b N) a b) (j2e a b):=by
 unfold j2e
 with_reducible repeat' (first | exact oR _ | exact oN _ | exact jog N _ | exact jcH N _ _ | apply oC | apply oS | refine oB ?_ ?_ | intro _)
theorem jpC (N):OLe (@j8d (j0b N) ) (j8d ):=by
 unfold j8d
 with_reducible repeat' (first | exact oR _ | exact oN _ | exact jiD N _ _ _ | exact jft N _ _ _ _ | exact jiE N _ _ _ _ | exact jiF N _ _ | apply oC | apply oS | refine oB ?_ ?_ | intro _)
abbrev jpD (N:Nat):=@j0D (j0b N)
end
end Go.Proofs.Pw
