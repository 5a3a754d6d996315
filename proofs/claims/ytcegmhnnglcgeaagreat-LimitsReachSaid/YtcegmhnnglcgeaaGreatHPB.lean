/- Twins with a bound on their rounds, printed by a program. -/
import Derived.Test.YtcegmhnnglcgeaaGreatHFns
import Derived.Test.YtcegmhnnglcgeaaGreatHLD
open Go Go.Lft
set_option linter.unusedVariables false
set_option maxRecDepth 100000
namespace Go.Proofs.Pw
noncomputable section
theorem jjL (N a b c):OLe (@jdU (j07 N) a b c) (jdU a b c):=OLe.loop N _ fun _=>oR _
theorem j8B (N a):OLe (@j7W (j07 N) a) (j7W a):=by
 unfold j7W
 with_reducible repeat' (first | exact oR _ | exact oN _ | exact jjL N _ _ _ | apply oC | apply oS | refine oB ?_ ?_ | intro _)
theorem j6x (N a b):OLe (@j3e (j07 N) a b) (j3e a b):=by
 unfold j3e
 with_reducible repeat' (first | exact oR _ | exact oN _ | exact j8B N _ | apply oC | apply oS | refine oB ?_ ?_ | intro _)
theorem jih (N a b c d e):OLe (@j53 (j07 N) a b c d e) (j53 a b c d e):=OLe.loop N _ fun _=>oR _
theorem jli (N a):OLe (@j6a (j07 N) a) (j6a a):=by
 unfold j6a
 with_reducible repeat' (first | exact oR _ | exact oN _ | exact jih N _ _ _ _ _ | apply oC | apply oS | refine oB ?_ ?_ | intro _)
theorem jp2 (N a b c d):OLe (@jbj (j07 N) a b c d) (jbj a b c d):=by
 unfold jbj
 with_reducible repeat' (first | exact oR _ | exact oN _ | exact jli N _ | apply oC | apply oS | refine oB ?_ ?_ | intro _)
theorem j4h (N a b c d e):OLe (@j0i (j07 N) a b c d e) (j0i a b c d e):=OLe.loop N _ fun _=>oR _
theorem j3I (N a b c d):OLe (@j08 (j07 N) a b c d) (j08 a b c d):=by
 unfold j08
 with_reducible repeat' (first | exact oR _ | exact oN _ | exact j4h N _ _ _ _ _ | apply oC | apply oS | refine oB ?_ ?_ | intro _)
theorem j4i (N a b c d):OLe (@j0j (j07 N) a b c d) (j0j a b c d):=OLe.loop N _ fun _=>j3I N _ _ _ _
theorem j2g (N a b c):OLe (@j0b (j07 N) a b c) (j0b a b c):=by
 unfold j0b
 with_reducible repeat' (first | exact oR _ | exact oN _ | exact j4i N _ _ _ _ | apply oC | apply oS | refine oB ?_ ?_ | intro _)
theorem j4S (N a b c d e):OLe (@j0e (j07 N) a b c d e) (j0e a b c d e):=by
 unfold j0e
 with_reducible repeat' (first | exact oR _ | exact oN _ | exact j2g N _ _ _ | apply oC | apply oS | refine oB ?_ ?_ | intro _)
theorem j5N (N a b c d e):OLe (@j0u (j07 N) a b c d e) (j0u a b c d e):=OLe.loop N _ fun _=>j4S N _ _ _ _ _
theorem j5O (N a b c d e):OLe (@j1M (j07 N) a b c d e) (j1M a b c d e):=OLe.loop N _ fun _=>oR _
theorem j4T (N a b c):OLe (@j0f (j07 N) a b c) (j0f a b c):=by
 unfold j0f
 with_reducible repeat' (first | exact oR _ | exact oN _ | exact j5O N _ _ _ _ _ | apply oC | apply oS | refine oB ?_ ?_ | intro _)
theorem j5P (N a b c):OLe (@j0v (j07 N) a b c) (j0v a b c):=OLe.loop N _ fun _=>j4T N _ _ _
theorem j6y (N a b):OLe (@j0C (j07 N) a b) (j0C a b):=by
 unfold j0C
 with_reducible repeat' (first | exact oR _ | exact oN _ | exact j5N N _ _ _ _ _ | exact j2g N _ _ _ | exact j5P N _ _ _ | apply oC | apply oS | refine oB ?_ ?_ | intro _)
theorem j3q (N a):OLe (@j0a (j07 N) a) (j0a a):=by
 unfold j0a
 with_reducible repeat' (first | exact oR _ | exact oN _ | exact j6y N _ _ | apply oC | apply oS | refine oB ?_ ?_ | intro _)
theorem jeM (N a b c d e f g):OLe (@j2h (j07 N) a b c d e f g) (j2h a b c d e f g):=OLe.loop N _ fun _=>oR _
theorem jbX (N a b c d e f g h i j k l):OLe (@j0U (j07 N) a b c d e f g h i j k l) (j0U a b c d e f g h i j k l):=by
 unfold j0U
 with_reducible repeat' (first | exact oR _ | exact oN _ | exact jp2 N _ _ _ _ | apply oC | apply oS | refine oB ?_ ?_ | intro _)
theorem jeN (N a b c d e f g h i j k l):OLe (@j32 (j07 N) a b c d e f g h i j k l) (j32 a b c d e f g h i j k l):=OLe.loop N _ fun _=>jbX N _ _ _ _ _ _ _ _ _ _ _ _
theorem jbY (N a b c d):OLe (@j0V (j07 N) a b c d) (j0V a b c d):=by
 unfold j0V
 with_reducible repeat' (first | exact oR _ | exact oN _ | exact jeN N _ _ _ _ _ _ _ _ _ _ _ _ | apply oC | apply oS | refine oB ?_ ?_ | intro _)
theorem jeO (N a b c d):OLe (@j2i (j07 N) a b c d) (j2i a b c d):=OLe.loop N _ fun _=>jbY N _ _ _ _
theorem jha (N a):OLe (@j3v (j07 N) a) (j3v a):=by
 unfold j3v
 with_reducible repeat' (first | exact oR _ | exact oN _ | exact jeM N _ _ _ _ _ _ _ | exact jeO N _ _ _ _ | exact j3q N _ | apply oC | apply oS | refine oB ?_ ?_ | intro _)
theorem jeP (N a b c d e):OLe (@j2j (j07 N) a b c d e) (j2j a b c d e):=OLe.loop N _ fun _=>oR _
theorem jbZ (N a):OLe (@j1S (j07 N) a) (j1S a):=by
 unfold j1S
 with_reducible repeat' (first | exact oR _ | exact oN _ | exact jha N _ | exact jeP N _ _ _ _ _ | apply oC | apply oS | refine oB ?_ ?_ | intro _)
theorem jnG (N a):OLe (@j7X (j07 N) a) (j7X a):=by
 unfold j7X
 with_reducible repeat' (first | exact oR _ | exact oN _ | exact jbZ N _ | apply oC | apply oS | refine oB ?_ ?_ | intro _)
theorem j4F (N a b c):OLe (@j0l (j07 N) a b c) (j0l a b c):=OLe.loop N _ fun _=>oR _
theorem j5c (N a):OLe (@j0s (j07 N) a) (j0s a):=by
 unfold j0s
 with_reducible repeat' (first | exact oR _ | exact oN _ | exact j4F N _ _ _ | apply oC | apply oS | refine oB ?_ ?_ | intro _)
theorem j4G (N a):OLe (@j0m (j07 N) a) (j0m a):=by
 unfold j0m
 with_reducible repeat' (first | exact oR _ | exact oN _ | exact j5c N _ | apply oC | apply oS | refine oB ?_ ?_ | intro _)
theorem jgd (N a):OLe (@j2o (j07 N) a) (j2o a):=by
 unfold j2o
 with_reducible repeat' (first | exact oR _ | exact oN _ | exact jnG N _ | exact j4G N _ | apply oC | apply oS | refine oB ?_ ?_ | intro _)
theorem j8C (N a b c d):OLe (@j0y (j07 N) a b c d) (j0y a b c d):=by
 unfold j0y
 with_reducible repeat' (first | exact oR _ | exact oN _ | exact j6x N _ _ | exact jgd N _ | apply oC | apply oS | refine oB ?_ ?_ | intro _)
theorem jb3 (N a b c d):OLe (@j1a (j07 N) a b c d) (j1a a b c d):=OLe.loop N _ fun _=>j8C N _ _ _ _
theorem jd0 (N a):OLe (@j1A (j07 N) a) (j1A a):=by
 unfold j1A
 with_reducible repeat' (first | exact oR _ | exact oN _ | exact jb3 N _ _ _ _ | apply oC | apply oS | refine oB ?_ ?_ | intro _)
theorem jjM (N a b c d):OLe (@j6A (j07 N) a b c d) (j6A a b c d):=OLe.loop N _ fun _=>oR _
theorem jii (N a):OLe (@j7Y (j07 N) a) (j7Y a):=by
 unfold j7Y
 with_reducible repeat' (first | exact oR _ | exact oN _ | exact jjM N _ _ _ _ | apply oC | apply oS | refine oB ?_ ?_ | intro _)
theorem jeQ (N a b):OLe (@j1u (j07 N) a b) (j1u a b):=by
 unfold j1u
 with_reducible repeat' (first | exact oR _ | exact oN _ | exact jii N _ | apply oC | apply oS | refine oB ?_ ?_ | intro _)
theorem jjN (N a b):OLe (@jdV (j07 N) a b) (jdV a b):=OLe.loop N _ fun _=>oR _
theorem jnH (N a):OLe (@jdk (j07 N) a) (jdk a):=by
 unfold jdk
 with_reducible repeat' (first | exact oR _ | exact oN _ | exact jjN N _ _ | apply oC | apply oS | refine oB ?_ ?_ | intro _)
theorem jij (N a b c d e f g):OLe (@jbk (j07 N) a b c d e f g) (jbk a b c d e f g):=OLe.loop N _ fun _=>oR _
theorem jlj (N a):OLe (@j9G (j07 N) a) (j9G a):=by
 unfold j9G
 with_reducible repeat' (first | exact oR _ | exact oN _ | exact jnH N _ | exact jij N _ _ _ _ _ _ _ | apply oC | apply oS | refine oB ?_ ?_ | intro _)
theorem j9B (N a):OLe (@j22 (j07 N) a) (j22 a):=by
 unfold j22
 with_reducible repeat' (first | exact oR _ | exact oN _ | exact jlj N _ | apply oC | apply oS | refine oB ?_ ?_ | intro _)
theorem jc0 (N a):OLe (@j1F (j07 N) a) (j1F a):=by
 unfold j1F
 with_reducible repeat' (first | exact oR _ | exact oN _ | exact j9B N _ | apply oC | apply oS | refine oB ?_ ?_ | intro _)
theorem j7T (N a b c):OLe (@j0t (j07 N) a b c) (j0t a b c):=by
 unfold j0t
 with_reducible repeat' (first | exact oR _ | exact oN _ | exact jc0 N _ | apply oC | apply oS | refine oB ?_ ?_ | intro _)
theorem ja3 (N a b c):OLe (@j1g (j07 N) a b c) (j1g a b c):=OLe.loop N _ fun _=>j7T N _ _ _
theorem jc1 (N a):OLe (@j1G (j07 N) a) (j1G a):=by
 unfold j1G
 with_reducible repeat' (first | exact oR _ | exact oN _ | exact ja3 N _ _ _ | apply oC | apply oS | refine oB ?_ ?_ | intro _)
theorem ja4 (N a):OLe (@j1h (j07 N) a) (j1h a):=by
 unfold j1h
 with_reducible repeat' (first | exact oR _ | exact oN _ | exact jc1 N _ | apply oC | apply oS | refine oB ?_ ?_ | intro _)
theorem jc2 (N a b c d e):OLe (@j1H (j07 N) a b c d e) (j1H a b c d e):=OLe.loop N _ fun _=>oR _
theorem jdA (N a b):OLe (@j1o (j07 N) a b) (j1o a b):=by
 unfold j1o
 with_reducible repeat' (first | exact oR _ | exact oN _ | exact ja4 N _ | exact jc2 N _ _ _ _ _ | apply oC | apply oS | refine oB ?_ ?_ | intro _)
theorem jhb (N a b c d e):OLe (@j4k (j07 N) a b c d e) (j4k a b c d e):=by
 unfold j4k
 with_reducible repeat' (first | exact oR _ | exact oN _ | exact jdA N _ _ | apply oC | apply oS | refine oB ?_ ?_ | intro _)
theorem j7b (N a b c d e f g h):OLe (@j0q (j07 N) a b c d e f g h) (j0q a b c d e f g h):=by
 unfold j0q
 with_reducible repeat' (first | exact oR _ | exact oN _ | exact j6x N _ _ | exact jhb N _ _ _ _ _ | apply oC | apply oS | refine oB ?_ ?_ | intro _)
theorem j8N (N a b c d e f g h):OLe (@j0K (j07 N) a b c d e f g h) (j0K a b c d e f g h):=OLe.loop N _ fun _=>j7b N _ _ _ _ _ _ _ _
theorem jaB (N a b c d e):OLe (@j14 (j07 N) a b c d e) (j14 a b c d e):=by
 unfold j14
 with_reducible repeat' (first | exact oR _ | exact oN _ | exact j8N N _ _ _ _ _ _ _ _ | apply oC | apply oS | refine oB ?_ ?_ | intro _)
theorem j8D (N a b c d e f g):OLe (@j0W (j07 N) a b c d e f g) (j0W a b c d e f g):=OLe.loop N _ fun _=>oR _
theorem ja5 (N a b c d e):OLe (@j1i (j07 N) a b c d e) (j1i a b c d e):=by
 unfold j1i
 with_reducible repeat' (first | exact oR _ | exact oN _ | exact j8D N _ _ _ _ _ _ _ | apply oC | apply oS | refine oB ?_ ?_ | intro _)
theorem j8E (N a b c d e):OLe (@j0X (j07 N) a b c d e) (j0X a b c d e):=by
 unfold j0X
 with_reducible repeat' (first | exact oR _ | exact oN _ | exact ja5 N _ _ _ _ _ | apply oC | apply oS | refine oB ?_ ?_ | intro _)
theorem jfF (N a b):OLe (@j25 (j07 N) a b) (j25 a b):=by
 unfold j25
 with_reducible repeat' (first | exact oR _ | exact oN _ | exact j9B N _ | exact j8E N _ _ _ _ _ | exact jii N _ | apply oC | apply oS | refine oB ?_ ?_ | intro _)
theorem jc3 (N a b c d e):OLe (@j1I (j07 N) a b c d e) (j1I a b c d e):=by
 unfold j1I
 with_reducible repeat' (first | exact oR _ | exact oN _ | exact jfF N _ _ | apply oC | apply oS | refine oB ?_ ?_ | intro _)
theorem j84 (N a b c d e f g h):OLe (@j0w (j07 N) a b c d e f g h) (j0w a b c d e f g h):=by
 unfold j0w
 with_reducible repeat' (first | exact oR _ | exact oN _ | exact j6x N _ _ | exact jc3 N _ _ _ _ _ | apply oC | apply oS | refine oB ?_ ?_ | intro _)
theorem jaC (N a b c d e f g h):OLe (@j15 (j07 N) a b c d e f g h) (j15 a b c d e f g h):=OLe.loop N _ fun _=>j84 N _ _ _ _ _ _ _ _
theorem jcj (N a b c d e):OLe (@j1v (j07 N) a b c d e) (j1v a b c d e):=by
 unfold j1v
 with_reducible repeat' (first | exact oR _ | exact oN _ | exact jaC N _ _ _ _ _ _ _ _ | apply oC | apply oS | refine oB ?_ ?_ | intro _)
theorem jge (N a b):OLe (@j2p (j07 N) a b) (j2p a b):=by
 unfold j2p
 with_reducible repeat' (first | exact oR _ | exact oN _ | exact j9B N _ | apply oC | apply oS | refine oB ?_ ?_ | intro _)
theorem j8O (N a b c d e f g):OLe (@j0B (j07 N) a b c d e f g) (j0B a b c d e f g):=by
 unfold j0B
 with_reducible repeat' (first | exact oR _ | exact oN _ | exact jge N _ _ | apply oC | apply oS | refine oB ?_ ?_ | intro _)
theorem jc4 (N a b c d e f g):OLe (@j1J (j07 N) a b c d e f g) (j1J a b c d e f g):=OLe.loop N _ fun _=>j8O N _ _ _ _ _ _ _
theorem jdB (N a b):OLe (@j1p (j07 N) a b) (j1p a b):=by
 unfold j1p
 with_reducible repeat' (first | exact oR _ | exact oN _ | exact jcj N _ _ _ _ _ | exact jc4 N _ _ _ _ _ _ _ | apply oC | apply oS | refine oB ?_ ?_ | intro _)
theorem jhc (N a b c d e):OLe (@j4l (j07 N) a b c d e) (j4l a b c d e):=by
 unfold j4l
 with_reducible repeat' (first | exact oR _ | exact oN _ | exact jdB N _ _ | apply oC | apply oS | refine oB ?_ ?_ | intro _)
theorem j7c (N a b c d e f g h):OLe (@j0r (j07 N) a b c d e f g h) (j0r a b c d e f g h):=by
 unfold j0r
 with_reducible repeat' (first | exact oR _ | exact oN _ | exact j6x N _ _ | exact jhc N _ _ _ _ _ | apply oC | apply oS | refine oB ?_ ?_ | intro _)
theorem j8P (N a b c d e f g h):OLe (@j0L (j07 N) a b c d e f g h) (j0L a b c d e f g h):=OLe.loop N _ fun _=>j7c N _ _ _ _ _ _ _ _
theorem jaD (N a b c d e):OLe (@j1t (j07 N) a b c d e) (j1t a b c d e):=by
 unfold j1t
 with_reducible repeat' (first | exact oR _ | exact oN _ | exact j8P N _ _ _ _ _ _ _ _ | apply oC | apply oS | refine oB ?_ ?_ | intro _)
theorem jdC (N a b c d e f g h):OLe (@j1q (j07 N) a b c d e f g h) (j1q a b c d e f g h):=by
 unfold j1q
 with_reducible repeat' (first | exact oR _ | exact oN _ | exact j6x N _ _ | exact jeQ N _ _ | apply oC | apply oS | refine oB ?_ ?_ | intro _)
theorem jhd (N a b c d e f g h):OLe (@j3w (j07 N) a b c d e f g h) (j3w a b c d e f g h):=OLe.loop N _ fun _=>jdC N _ _ _ _ _ _ _ _
theorem jjO (N a):OLe (@j4p (j07 N) a) (j4p a):=by
 unfold j4p
 with_reducible repeat' (first | exact oR _ | exact oN _ | exact jd0 N _ | exact jhd N _ _ _ _ _ _ _ _ | exact jaB N _ _ _ _ _ | exact jaD N _ _ _ _ _ | apply oC | apply oS | refine oB ?_ ?_ | intro _)
theorem jrz (N a):OLe (@jff (j07 N) a) (jff a):=by
 unfold jff
 with_reducible repeat' (first | exact oR _ | exact oN _ | exact jbZ N _ | apply oC | apply oS | refine oB ?_ ?_ | intro _)
theorem jeR (N a b c d):OLe (@j1N (j07 N) a b c d) (j1N a b c d):=by
 unfold j1N
 with_reducible repeat' (first | exact oR _ | exact oN _ | exact jrz N _ | apply oC | apply oS | refine oB ?_ ?_ | intro _)
theorem jj6 (N a b c d):OLe (@j4K (j07 N) a b c d) (j4K a b c d):=OLe.loop N _ fun _=>jeR N _ _ _ _
theorem jlV (N a):OLe (@j97 (j07 N) a) (j97 a):=by
 unfold j97
 with_reducible repeat' (first | exact oR _ | exact oN _ | exact jj6 N _ _ _ _ | apply oC | apply oS | refine oB ?_ ?_ | intro _)
theorem jp3 (N a):OLe (@jbm (j07 N) a) (jbm a):=by
 unfold jbm
 with_reducible repeat' (first | exact oR _ | exact oN _ | exact jlV N _ | apply oC | apply oS | refine oB ?_ ?_ | intro _)
theorem jmw (N a):OLe (@jfg (j07 N) a) (jfg a):=by
 unfold jfg
 with_reducible repeat' (first | exact oR _ | exact oN _ | exact jjO N _ | exact jp3 N _ | apply oC | apply oS | refine oB ?_ ?_ | intro _)
theorem jd1 (N a b c d):OLe (@j43 (j07 N) a b c d) (j43 a b c d):=by
 unfold j43
 with_reducible repeat' (first | exact oR _ | exact oN _ | exact jmw N _ | apply oC | apply oS | refine oB ?_ ?_ | intro _)
theorem j8F (N a b c d e):OLe (@j3f (j07 N) a b c d e) (j3f a b c d e):=OLe.loop N _ fun _=>oR _
theorem ja6 (N a b c):OLe (@j1O (j07 N) a b c) (j1O a b c):=by
 unfold j1O
 with_reducible repeat' (first | exact oR _ | exact oN _ | exact j8F N _ _ _ _ _ | apply oC | apply oS | refine oB ?_ ?_ | intro _)
theorem j9s (N a b c d e):OLe (@j3K (j07 N) a b c d e) (j3K a b c d e):=OLe.loop N _ fun _=>oR _
theorem jb4 (N a b c):OLe (@j27 (j07 N) a b c) (j27 a b c):=by
 unfold j27
 with_reducible repeat' (first | exact oR _ | exact oN _ | exact ja6 N _ _ _ | exact j9s N _ _ _ _ _ | apply oC | apply oS | refine oB ?_ ?_ | intro _)
theorem j7d (N a b c d e):OLe (@j2y (j07 N) a b c d e) (j2y a b c d e):=OLe.loop N _ fun _=>oR _
theorem j5Q (N a b c d):OLe (@j0G (j07 N) a b c d) (j0G a b c d):=by
 unfold j0G
 with_reducible repeat' (first | exact oR _ | exact oN _ | exact j7d N _ _ _ _ _ | apply oC | apply oS | refine oB ?_ ?_ | intro _)
theorem j7e (N a b c d):OLe (@j2z (j07 N) a b c d) (j2z a b c d):=OLe.loop N _ fun _=>j5Q N _ _ _ _
theorem j85 (N a b c):OLe (@j1j (j07 N) a b c) (j1j a b c):=by
 unfold j1j
 with_reducible repeat' (first | exact oR _ | exact oN _ | exact j7e N _ _ _ _ | apply oC | apply oS | refine oB ?_ ?_ | intro _)
theorem j7o (N a b c d e f):OLe (@j17 (j07 N) a b c d e f) (j17 a b c d e f):=by
 unfold j17
 with_reducible repeat' (first | exact oR _ | exact oN _ | exact j85 N _ _ _ | apply oC | apply oS | refine oB ?_ ?_ | intro _)
theorem j9t (N a b c d e f):OLe (@j3L (j07 N) a b c d e f) (j3L a b c d e f):=OLe.loop N _ fun _=>j7o N _ _ _ _ _ _
theorem jb5 (N a b c d):OLe (@j28 (j07 N) a b c d) (j28 a b c d):=by
 unfold j28
 with_reducible repeat' (first | exact oR _ | exact oN _ | exact j9t N _ _ _ _ _ _ | apply oC | apply oS | refine oB ?_ ?_ | intro _)
theorem jeS (N a):OLe (@j45 (j07 N) a) (j45 a):=by
 unfold j45
 with_reducible repeat' (first | exact oR _ | exact oN _ | exact jb5 N _ _ _ _ | apply oC | apply oS | refine oB ?_ ?_ | intro _)
theorem jb6 (N a b c d):OLe (@j4L (j07 N) a b c d) (j4L a b c d):=OLe.loop N _ fun _=>oR _
theorem j8G (N a b):OLe (@j1r (j07 N) a b) (j1r a b):=by
 unfold j1r
 with_reducible repeat' (first | exact oR _ | exact oN _ | exact jb6 N _ _ _ _ | apply oC | apply oS | refine oB ?_ ?_ | intro _)
theorem jb7 (N a b):OLe (@j4M (j07 N) a b) (j4M a b):=OLe.loop N _ fun _=>j8G N _ _
theorem jd2 (N a):OLe (@j30 (j07 N) a) (j30 a):=by
 unfold j30
 with_reducible repeat' (first | exact oR _ | exact oN _ | exact jb7 N _ _ | apply oC | apply oS | refine oB ?_ ?_ | intro _)
theorem jjo (N a b c):OLe (@jdm (j07 N) a b c) (jdm a b c):=by
 unfold jdm
 with_reducible repeat' (first | exact oR _ | exact oN _ | exact jb4 N _ _ _ | exact jeS N _ | exact jd2 N _ | apply oC | apply oS | refine oB ?_ ?_ | intro _)
theorem jj7 (N a b c d e):OLe (@j5R (j07 N) a b c d e) (j5R a b c d e):=OLe.loop N _ fun _=>oR _
theorem jlW (N a b c d):OLe (@j98 (j07 N) a b c d) (j98 a b c d):=by
 unfold j98
 with_reducible repeat' (first | exact oR _ | exact oN _ | exact jj7 N _ _ _ _ _ | apply oC | apply oS | refine oB ?_ ?_ | intro _)
theorem jc5 (N a b):OLe (@j2W (j07 N) a b) (j2W a b):=by
 unfold j2W
 with_reducible repeat' (first | exact oR _ | exact oN _ | exact jlW N _ _ _ _ | apply oC | apply oS | refine oB ?_ ?_ | intro _)
theorem jb8 (N a b c d e):OLe (@j29 (j07 N) a b c d e) (j29 a b c d e):=by
 unfold j29
 with_reducible repeat' (first | exact oR _ | exact oN _ | exact jc5 N _ _ | apply oC | apply oS | refine oB ?_ ?_ | intro _)
theorem jei (N a b c d e):OLe (@j6U (j07 N) a b c d e) (j6U a b c d e):=OLe.loop N _ fun _=>jb8 N _ _ _ _ _
theorem j7f (N a b c):OLe (@j34 (j07 N) a b c) (j34 a b c):=by
 unfold j34
 with_reducible repeat' (first | exact oR _ | exact oN _ | exact jei N _ _ _ _ _ | apply oC | apply oS | refine oB ?_ ?_ | intro _)
theorem jeT (N a b c d e):OLe (@j7E (j07 N) a b c d e) (j7E a b c d e):=OLe.loop N _ fun _=>oR _
theorem jhe (N a b):OLe (@j4m (j07 N) a b) (j4m a b):=by
 unfold j4m
 with_reducible repeat' (first | exact oR _ | exact oN _ | exact j7f N _ _ _ | exact jeT N _ _ _ _ _ | apply oC | apply oS | refine oB ?_ ?_ | intro _)
theorem j4a (N a b c):OLe (@j2e (j07 N) a b c) (j2e a b c):=by
 unfold j2e
 with_reducible repeat' (first | exact oR _ | exact oN _ | exact jhe N _ _ | apply oC | apply oS | refine oB ?_ ?_ | intro _)
theorem j66 (N a b c):OLe (@j23 (j07 N) a b c) (j23 a b c):=OLe.loop N _ fun _=>oR _
theorem j7g (N a):OLe (@j12 (j07 N) a) (j12 a):=by
 unfold j12
 with_reducible repeat' (first | exact oR _ | exact oN _ | exact j66 N _ _ _ | apply oC | apply oS | refine oB ?_ ?_ | intro _)
theorem j5W (N a b c):OLe (@j1W (j07 N) a b c) (j1W a b c):=OLe.loop N _ fun _=>oR _
theorem j6N (N a):OLe (@j0T (j07 N) a) (j0T a):=by
 unfold j0T
 with_reducible repeat' (first | exact oR _ | exact oN _ | exact j7g N _ | exact j5W N _ _ _ | apply oC | apply oS | refine oB ?_ ?_ | intro _)
theorem jjP (N a b c d):OLe (@jdY (j07 N) a b c d) (jdY a b c d):=OLe.loop N _ fun _=>oR _
theorem j6O (N a):OLe (@j5S (j07 N) a) (j5S a):=by
 unfold j5S
 with_reducible repeat' (first | exact oR _ | exact oN _ | exact j6N N _ | exact jjP N _ _ _ _ | apply oC | apply oS | refine oB ?_ ?_ | intro _)
theorem jik (N a b c d e f g h i j k l):OLe (@jbn (j07 N) a b c d e f g h i j k l) (jbn a b c d e f g h i j k l):=OLe.loop N _ fun _=>oR _
theorem jej (N a b c d e f g h i):OLe (@j3C (j07 N) a b c d e f g h i) (j3C a b c d e f g h i):=by
 unfold j3C
 with_reducible repeat' (first | exact oR _ | exact oN _ | exact jik N _ _ _ _ _ _ _ _ _ _ _ _ | apply oC | apply oS | refine oB ?_ ?_ | intro _)
theorem jil (N a b c d e f g h i):OLe (@jbo (j07 N) a b c d e f g h i) (jbo a b c d e f g h i):=OLe.loop N _ fun _=>jej N _ _ _ _ _ _ _ _ _
theorem jek (N a b c d e):OLe (@j3D (j07 N) a b c d e) (j3D a b c d e):=by
 unfold j3D
 with_reducible repeat' (first | exact oR _ | exact oN _ | exact jil N _ _ _ _ _ _ _ _ _ | apply oC | apply oS | refine oB ?_ ?_ | intro _)
theorem jim (N a b c d e):OLe (@jbp (j07 N) a b c d e) (jbp a b c d e):=OLe.loop N _ fun _=>jek N _ _ _ _ _
theorem jfG (N a b c d):OLe (@j4r (j07 N) a b c d) (j4r a b c d):=by
 unfold j4r
 with_reducible repeat' (first | exact oR _ | exact oN _ | exact j7f N _ _ _ | exact jim N _ _ _ _ _ | exact j6O N _ | apply oC | apply oS | refine oB ?_ ?_ | intro _)
theorem jgf (N a b c d e f g h i j k l m):OLe (@j99 (j07 N) a b c d e f g h i j k l m) (j99 a b c d e f g h i j k l m):=OLe.loop N _ fun _=>oR _
theorem jd3 (N a b c d e f g):OLe (@j31 (j07 N) a b c d e f g) (j31 a b c d e f g):=by
 unfold j31
 with_reducible repeat' (first | exact oR _ | exact oN _ | exact jgf N _ _ _ _ _ _ _ _ _ _ _ _ _ | apply oC | apply oS | refine oB ?_ ?_ | intro _)
theorem jgg (N a b c d e f g):OLe (@j9a (j07 N) a b c d e f g) (j9a a b c d e f g):=OLe.loop N _ fun _=>jd3 N _ _ _ _ _ _ _
theorem jj8 (N a b c d):OLe (@j3T (j07 N) a b c d) (j3T a b c d):=by
 unfold j3T
 with_reducible repeat' (first | exact oR _ | exact oN _ | exact j7f N _ _ _ | exact jgg N _ _ _ _ _ _ _ | exact j6O N _ | apply oC | apply oS | refine oB ?_ ?_ | intro _)
theorem jin (N a b c d e f g h):OLe (@jbq (j07 N) a b c d e f g h) (jbq a b c d e f g h):=OLe.loop N _ fun _=>oR _
theorem jio (N a b c d e f g h i j):OLe (@jbr (j07 N) a b c d e f g h i j) (jbr a b c d e f g h i j):=OLe.loop N _ fun _=>oR _
theorem jel (N a b c d e f):OLe (@j3E (j07 N) a b c d e f) (j3E a b c d e f):=by
 unfold j3E
 with_reducible repeat' (first | exact oR _ | exact oN _ | exact jin N _ _ _ _ _ _ _ _ | exact jio N _ _ _ _ _ _ _ _ _ _ | apply oC | apply oS | refine oB ?_ ?_ | intro _)
theorem jip (N a b c d e f):OLe (@jbs (j07 N) a b c d e f) (jbs a b c d e f):=OLe.loop N _ fun _=>jel N _ _ _ _ _ _
theorem jc6 (N a b):OLe (@j4s (j07 N) a b) (j4s a b):=by
 unfold j4s
 with_reducible repeat' (first | exact oR _ | exact oN _ | exact jip N _ _ _ _ _ _ | apply oC | apply oS | refine oB ?_ ?_ | intro _)
theorem jj9 (N a b c d e):OLe (@jcH (j07 N) a b c d e) (jcH a b c d e):=OLe.loop N _ fun _=>oR _
theorem jgs (N a b):OLe (@j4N (j07 N) a b) (j4N a b):=by
 unfold j4N
 with_reducible repeat' (first | exact oR _ | exact oN _ | exact jj9 N _ _ _ _ _ | apply oC | apply oS | refine oB ?_ ?_ | intro _)
theorem jiq (N a b c d):OLe (@j6e (j07 N) a b c d) (j6e a b c d):=by
 unfold j6e
 with_reducible repeat' (first | exact oR _ | exact oN _ | exact j4a N _ _ _ | exact jfG N _ _ _ _ | exact jj8 N _ _ _ _ | exact jc6 N _ _ | exact jgs N _ _ | apply oC | apply oS | refine oB ?_ ?_ | intro _)
theorem jgh (N a b):OLe (@j35 (j07 N) a b) (j35 a b):=by
 unfold j35
 with_reducible repeat' (first | exact oR _ | exact oN _ | exact jc5 N _ _ | apply oC | apply oS | refine oB ?_ ?_ | intro _)
theorem jc7 (N a b):OLe (@j0P (j07 N) a b) (j0P a b):=by
 unfold j0P
 with_reducible repeat' (first | exact oR _ | exact oN _ | exact jgh N _ _ | apply oC | apply oS | refine oB ?_ ?_ | intro _)
theorem jdD (N a b c d e f g h i j k l m n):OLe (@j3h (j07 N) a b c d e f g h i j k l m n) (j3h a b c d e f g h i j k l m n):=by
 unfold j3h
 with_reducible repeat' (first | exact oR _ | exact oN _ | exact j4a N _ _ _ | apply oC | apply oS | refine oB ?_ ?_ | intro _)
theorem jhf (N a b c d e f g h i j k l m n):OLe (@jaf (j07 N) a b c d e f g h i j k l m n) (jaf a b c d e f g h i j k l m n):=OLe.loop N _ fun _=>jdD N _ _ _ _ _ _ _ _ _ _ _ _ _ _
theorem jdE (N a b c d e f g h i j k l m n):OLe (@j3i (j07 N) a b c d e f g h i j k l m n) (j3i a b c d e f g h i j k l m n):=by
 unfold j3i
 with_reducible repeat' (first | exact oR _ | exact oN _ | exact j4a N _ _ _ | apply oC | apply oS | refine oB ?_ ?_ | intro _)
theorem jhg (N a b c d e f g h i j k l m n):OLe (@jag (j07 N) a b c d e f g h i j k l m n) (jag a b c d e f g h i j k l m n):=OLe.loop N _ fun _=>jdE N _ _ _ _ _ _ _ _ _ _ _ _ _ _
theorem jjQ (N a b c):OLe (@j8b (j07 N) a b c) (j8b a b c):=by
 unfold j8b
 with_reducible repeat' (first | exact oR _ | exact oN _ | exact j4a N _ _ _ | exact jc7 N _ _ | exact jhf N _ _ _ _ _ _ _ _ _ _ _ _ _ _ | exact jhg N _ _ _ _ _ _ _ _ _ _ _ _ _ _ | apply oC | apply oS | refine oB ?_ ?_ | intro _)
theorem jjR (N a b c d):OLe (@jdZ (j07 N) a b c d) (jdZ a b c d):=OLe.loop N _ fun _=>oR _
theorem jem (N a):OLe (@j9b (j07 N) a) (j9b a):=by
 unfold j9b
 with_reducible repeat' (first | exact oR _ | exact oN _ | exact jjR N _ _ _ _ | apply oC | apply oS | refine oB ?_ ?_ | intro _)
theorem jaE (N a b c d e f g h i j k l m n o p q r s t u v):OLe (@j20 (j07 N) a b c d e f g h i j k l m n o p q r s t u v) (j20 a b c d e f g h i j k l m n o p q r s t u v):=by
 unfold j20
 with_reducible repeat' (first | exact oR _ | exact oN _ | exact jjQ N _ _ _ | exact j4a N _ _ _ | apply oC | apply oS | refine oB ?_ ?_ | intro _)
theorem jdF (N a b c d e f g h i j k l m n o p q r s t u v):OLe (@j6f (j07 N) a b c d e f g h i j k l m n o p q r s t u v) (j6f a b c d e f g h i j k l m n o p q r s t u v):=OLe.loop N _ fun _=>jaE N _ _ _ _ _ _ _ _ _ _ _ _ _ _ _ _ _ _ _ _ _ _
theorem jaF (N a b c d e f g h i j k l m n o p q r s t):OLe (@j21 (j07 N) a b c d e f g h i j k l m n o p q r s t) (j21 a b c d e f g h i j k l m n o p q r s t):=by
 unfold j21
 with_reducible repeat' (first | exact oR _ | exact oN _ | exact jdF N _ _ _ _ _ _ _ _ _ _ _ _ _ _ _ _ _ _ _ _ _ _ | apply oC | apply oS | refine oB ?_ ?_ | intro _)
theorem jdG (N a b c d e f g h i j k l m n o p q r s t):OLe (@j6g (j07 N) a b c d e f g h i j k l m n o p q r s t) (j6g a b c d e f g h i j k l m n o p q r s t):=OLe.loop N _ fun _=>jaF N _ _ _ _ _ _ _ _ _ _ _ _ _ _ _ _ _ _ _ _
theorem jfH (N a b c d):OLe (@j4t (j07 N) a b c d) (j4t a b c d):=by
 unfold j4t
 with_reducible repeat' (first | exact oR _ | exact oN _ | exact jiq N _ _ _ _ | exact jdG N _ _ _ _ _ _ _ _ _ _ _ _ _ _ _ _ _ _ _ _ | exact jem N _ | apply oC | apply oS | refine oB ?_ ?_ | intro _)
theorem jir (N a b c d e):OLe (@jbu (j07 N) a b c d e) (jbu a b c d e):=OLe.loop N _ fun _=>oR _
theorem jlk (N a b):OLe (@j9H (j07 N) a b) (j9H a b):=by
 unfold j9H
 with_reducible repeat' (first | exact oR _ | exact oN _ | exact jir N _ _ _ _ _ | exact j6O N _ | apply oC | apply oS | refine oB ?_ ?_ | intro _)
theorem jhh (N a b c d e f g h i j k l m n):OLe (@j7v (j07 N) a b c d e f g h i j k l m n) (j7v a b c d e f g h i j k l m n):=OLe.loop N _ fun _=>oR _
theorem jdH (N a b c d e f g h):OLe (@j3j (j07 N) a b c d e f g h) (j3j a b c d e f g h):=by
 unfold j3j
 with_reducible repeat' (first | exact oR _ | exact oN _ | exact jlk N _ _ | exact jc6 N _ _ | exact jhh N _ _ _ _ _ _ _ _ _ _ _ _ _ _ | apply oC | apply oS | refine oB ?_ ?_ | intro _)
theorem jhi (N a b c d e f g h):OLe (@jah (j07 N) a b c d e f g h) (jah a b c d e f g h):=OLe.loop N _ fun _=>jdH N _ _ _ _ _ _ _ _
theorem jjS (N a b):OLe (@j8c (j07 N) a b) (j8c a b):=by
 unfold j8c
 with_reducible repeat' (first | exact oR _ | exact oN _ | exact jhi N _ _ _ _ _ _ _ _ | apply oC | apply oS | refine oB ?_ ?_ | intro _)
theorem jis (N a b c d e):OLe (@jbv (j07 N) a b c d e) (jbv a b c d e):=OLe.loop N _ fun _=>oR _
theorem jll (N a b):OLe (@j9J (j07 N) a b) (j9J a b):=by
 unfold j9J
 with_reducible repeat' (first | exact oR _ | exact oN _ | exact jis N _ _ _ _ _ | apply oC | apply oS | refine oB ?_ ?_ | intro _)
theorem jja (N a b c d):OLe (@jcI (j07 N) a b c d) (jcI a b c d):=OLe.loop N _ fun _=>oR _
theorem jlX (N a):OLe (@jbx (j07 N) a) (jbx a):=by
 unfold jbx
 with_reducible repeat' (first | exact oR _ | exact oN _ | exact jja N _ _ _ _ | exact j6O N _ | apply oC | apply oS | refine oB ?_ ?_ | intro _)
theorem jc8 (N a b c d e f g h i j k l m n):OLe (@j2q (j07 N) a b c d e f g h i j k l m n) (j2q a b c d e f g h i j k l m n):=by
 unfold j2q
 with_reducible repeat' (first | exact oR _ | exact oN _ | exact jfH N _ _ _ _ | exact jjS N _ _ | exact jll N _ _ | exact jlX N _ | exact jc6 N _ _ | apply oC | apply oS | refine oB ?_ ?_ | intro _)
theorem jeU (N a b c d e f g h i j k l m n):OLe (@j7F (j07 N) a b c d e f g h i j k l m n) (j7F a b c d e f g h i j k l m n):=OLe.loop N _ fun _=>jc8 N _ _ _ _ _ _ _ _ _ _ _ _ _ _
theorem jeV (N a b c d):OLe (@j7G (j07 N) a b c d) (j7G a b c d):=OLe.loop N _ fun _=>oR _
theorem jhj (N a b c d):OLe (@j5I (j07 N) a b c d) (j5I a b c d):=by
 unfold j5I
 with_reducible repeat' (first | exact oR _ | exact oN _ | exact jeU N _ _ _ _ _ _ _ _ _ _ _ _ _ _ | exact jeV N _ _ _ _ | exact jem N _ | apply oC | apply oS | refine oB ?_ ?_ | intro _)
theorem j8H (N a b c d e):OLe (@j3k (j07 N) a b c d e) (j3k a b c d e):=OLe.loop N _ fun _=>oR _
theorem ja7 (N a b):OLe (@j1P (j07 N) a b) (j1P a b):=by
 unfold j1P
 with_reducible repeat' (first | exact oR _ | exact oN _ | exact j8H N _ _ _ _ _ | apply oC | apply oS | refine oB ?_ ?_ | intro _)
theorem jlm (N a b c d e):OLe (@jfk (j07 N) a b c d e) (jfk a b c d e):=OLe.loop N _ fun _=>oR _
theorem jp4 (N a b c):OLe (@jfl (j07 N) a b c) (jfl a b c):=by
 unfold jfl
 with_reducible repeat' (first | exact oR _ | exact oN _ | exact jlm N _ _ _ _ _ | apply oC | apply oS | refine oB ?_ ?_ | intro _)
theorem jfI (N a b c d e f g h i j k l m n):OLe (@j8e (j07 N) a b c d e f g h i j k l m n) (j8e a b c d e f g h i j k l m n):=OLe.loop N _ fun _=>oR _
theorem jck (N a b c d e f g h i j k l m):OLe (@j2H (j07 N) a b c d e f g h i j k l m) (j2H a b c d e f g h i j k l m):=by
 unfold j2H
 with_reducible repeat' (first | exact oR _ | exact oN _ | exact jp4 N _ _ _ | apply oC | apply oS | refine oB ?_ ?_ | intro _)
theorem jfJ (N a b c d e f g h i j k l m):OLe (@j8f (j07 N) a b c d e f g h i j k l m) (j8f a b c d e f g h i j k l m):=OLe.loop N _ fun _=>jck N _ _ _ _ _ _ _ _ _ _ _ _ _
theorem jcl (N a b c d e f g h):OLe (@j2I (j07 N) a b c d e f g h) (j2I a b c d e f g h):=by
 unfold j2I
 with_reducible repeat' (first | exact oR _ | exact oN _ | exact ja7 N _ _ | exact jfJ N _ _ _ _ _ _ _ _ _ _ _ _ _ | apply oC | apply oS | refine oB ?_ ?_ | intro _)
theorem jfK (N a b c d e f g h):OLe (@j8g (j07 N) a b c d e f g h) (j8g a b c d e f g h):=OLe.loop N _ fun _=>jcl N _ _ _ _ _ _ _ _
theorem jcD (N a b c d):OLe (@j55 (j07 N) a b c d) (j55 a b c d):=by
 unfold j55
 with_reducible repeat' (first | exact oR _ | exact oN _ | exact jfI N _ _ _ _ _ _ _ _ _ _ _ _ _ _ | exact jjo N _ _ _ | exact jhj N _ _ _ _ | exact jfK N _ _ _ _ _ _ _ _ | exact jem N _ | apply oC | apply oS | refine oB ?_ ?_ | intro _)
theorem jgi (N a b c d e):OLe (@j9c (j07 N) a b c d e) (j9c a b c d e):=OLe.loop N _ fun _=>oR _
theorem jjb (N a b):OLe (@j7i (j07 N) a b) (j7i a b):=by
 unfold j7i
 with_reducible repeat' (first | exact oR _ | exact oN _ | exact jgi N _ _ _ _ _ | exact j6O N _ | apply oC | apply oS | refine oB ?_ ?_ | intro _)
theorem jdI (N a b c d e f g h i j k l):OLe (@j3l (j07 N) a b c d e f g h i j k l) (j3l a b c d e f g h i j k l):=by
 unfold j3l
 with_reducible repeat' (first | exact oR _ | exact oN _ | exact jcD N _ _ _ _ | exact jjb N _ _ | apply oC | apply oS | refine oB ?_ ?_ | intro _)
theorem jhk (N a b c d e f g h i j k l):OLe (@jaj (j07 N) a b c d e f g h i j k l) (jaj a b c d e f g h i j k l):=OLe.loop N _ fun _=>jdI N _ _ _ _ _ _ _ _ _ _ _ _
theorem jeD (N a b c d):OLe (@j6C (j07 N) a b c d) (j6C a b c d):=by
 unfold j6C
 with_reducible repeat' (first | exact oR _ | exact oN _ | exact jhk N _ _ _ _ _ _ _ _ _ _ _ _ | exact j6O N _ | apply oC | apply oS | refine oB ?_ ?_ | intro _)
theorem jfL (N a b c d e f g):OLe (@j8i (j07 N) a b c d e f g) (j8i a b c d e f g):=OLe.loop N _ fun _=>oR _
theorem jit (N a b c d):OLe (@j6h (j07 N) a b c d) (j6h a b c d):=by
 unfold j6h
 with_reducible repeat' (first | exact oR _ | exact oN _ | exact jfL N _ _ _ _ _ _ _ | apply oC | apply oS | refine oB ?_ ?_ | intro _)
theorem j5D (N a b c d e):OLe (@j1C (j07 N) a b c d e) (j1C a b c d e):=OLe.loop N _ fun _=>oR _
theorem j4H (N a b c d):OLe (@j0x (j07 N) a b c d) (j0x a b c d):=by
 unfold j0x
 with_reducible repeat' (first | exact oR _ | exact oN _ | exact j5D N _ _ _ _ _ | apply oC | apply oS | refine oB ?_ ?_ | intro _)
theorem j5E (N a b c d):OLe (@j1D (j07 N) a b c d) (j1D a b c d):=OLe.loop N _ fun _=>j4H N _ _ _ _
theorem j3c (N a b c):OLe (@j0A (j07 N) a b c) (j0A a b c):=by
 unfold j0A
 with_reducible repeat' (first | exact oR _ | exact oN _ | exact j5E N _ _ _ _ | apply oC | apply oS | refine oB ?_ ?_ | intro _)
theorem j5X (N a b c d e):OLe (@j0I (j07 N) a b c d e) (j0I a b c d e):=by
 unfold j0I
 with_reducible repeat' (first | exact oR _ | exact oN _ | exact j3c N _ _ _ | apply oC | apply oS | refine oB ?_ ?_ | intro _)
theorem j7p (N a b c d e):OLe (@j2J (j07 N) a b c d e) (j2J a b c d e):=OLe.loop N _ fun _=>j5X N _ _ _ _ _
theorem j7q (N a b c d e):OLe (@j2K (j07 N) a b c d e) (j2K a b c d e):=OLe.loop N _ fun _=>oR _
theorem j5Y (N a b c):OLe (@j0J (j07 N) a b c) (j0J a b c):=by
 unfold j0J
 with_reducible repeat' (first | exact oR _ | exact oN _ | exact j7q N _ _ _ _ _ | apply oC | apply oS | refine oB ?_ ?_ | intro _)
theorem j7r (N a b c):OLe (@j2L (j07 N) a b c) (j2L a b c):=OLe.loop N _ fun _=>j5Y N _ _ _
theorem j8I (N a b):OLe (@j1s (j07 N) a b) (j1s a b):=by
 unfold j1s
 with_reducible repeat' (first | exact oR _ | exact oN _ | exact j7p N _ _ _ _ _ | exact j3c N _ _ _ | exact j7r N _ _ _ | apply oC | apply oS | refine oB ?_ ?_ | intro _)
theorem j5i (N a):OLe (@j0D (j07 N) a) (j0D a):=by
 unfold j0D
 with_reducible repeat' (first | exact oR _ | exact oN _ | exact j8I N _ _ | apply oC | apply oS | refine oB ?_ ?_ | intro _)
theorem jc9 (N a b c d e f g h i j k):OLe (@j2s (j07 N) a b c d e f g h i j k) (j2s a b c d e f g h i j k):=by
 unfold j2s
 with_reducible repeat' (first | exact oR _ | exact oN _ | exact jcD N _ _ _ _ | apply oC | apply oS | refine oB ?_ ?_ | intro _)
theorem jeW (N a b c d e f g h i j k):OLe (@j7H (j07 N) a b c d e f g h i j k) (j7H a b c d e f g h i j k):=OLe.loop N _ fun _=>jc9 N _ _ _ _ _ _ _ _ _ _ _
theorem jca (N a b c d e f):OLe (@j2t (j07 N) a b c d e f) (j2t a b c d e f):=by
 unfold j2t
 with_reducible repeat' (first | exact oR _ | exact oN _ | exact jit N _ _ _ _ | apply oC | apply oS | refine oB ?_ ?_ | intro _)
theorem jeX (N a b c d e f):OLe (@j7I (j07 N) a b c d e f) (j7I a b c d e f):=OLe.loop N _ fun _=>jca N _ _ _ _ _ _
theorem jcb (N a b c d):OLe (@j2u (j07 N) a b c d) (j2u a b c d):=by
 unfold j2u
 with_reducible repeat' (first | exact oR _ | exact oN _ | exact jeX N _ _ _ _ _ _ | apply oC | apply oS | refine oB ?_ ?_ | intro _)
theorem jeY (N a b c d):OLe (@j7J (j07 N) a b c d) (j7J a b c d):=OLe.loop N _ fun _=>jcb N _ _ _ _
theorem jhl (N a b c):OLe (@j5J (j07 N) a b c) (j5J a b c):=by
 unfold j5J
 with_reducible repeat' (first | exact oR _ | exact oN _ | exact jmw N _ | exact jeW N _ _ _ _ _ _ _ _ _ _ _ | exact jeY N _ _ _ _ | exact j5i N _ | apply oC | apply oS | refine oB ?_ ?_ | intro _)
theorem jhm (N a b c d e):OLe (@jak (j07 N) a b c d e) (jak a b c d e):=OLe.loop N _ fun _=>oR _
theorem jjT (N a b):OLe (@j6D (j07 N) a b) (j6D a b):=by
 unfold j6D
 with_reducible repeat' (first | exact oR _ | exact oN _ | exact jhm N _ _ _ _ _ | apply oC | apply oS | refine oB ?_ ?_ | intro _)
theorem jiu (N a b c d e f g h):OLe (@jbz (j07 N) a b c d e f g h) (jbz a b c d e f g h):=OLe.loop N _ fun _=>oR _
theorem jen (N a b c d e f g):OLe (@j3F (j07 N) a b c d e f g) (j3F a b c d e f g):=by
 unfold j3F
 with_reducible repeat' (first | exact oR _ | exact oN _ | exact jjT N _ _ | apply oC | apply oS | refine oB ?_ ?_ | intro _)
theorem jiv (N a b c d e f g):OLe (@jbA (j07 N) a b c d e f g) (jbA a b c d e f g):=OLe.loop N _ fun _=>jen N _ _ _ _ _ _ _
theorem jln (N a b c d):OLe (@j9L (j07 N) a b c d) (j9L a b c d):=by
 unfold j9L
 with_reducible repeat' (first | exact oR _ | exact oN _ | exact jiu N _ _ _ _ _ _ _ _ | exact jjo N _ _ _ | exact jiv N _ _ _ _ _ _ _ | apply oC | apply oS | refine oB ?_ ?_ | intro _)
theorem jiw (N a b c d):OLe (@jbB (j07 N) a b c d) (jbB a b c d):=OLe.loop N _ fun _=>oR _
theorem jlo (N a b):OLe (@j81 (j07 N) a b) (j81 a b):=by
 unfold j81
 with_reducible repeat' (first | exact oR _ | exact oN _ | exact jiw N _ _ _ _ | apply oC | apply oS | refine oB ?_ ?_ | intro _)
theorem jhn (N a b c d):OLe (@jal (j07 N) a b c d) (jal a b c d):=OLe.loop N _ fun _=>oR _
theorem jjU (N a):OLe (@j4u (j07 N) a) (j4u a):=by
 unfold j4u
 with_reducible repeat' (first | exact oR _ | exact oN _ | exact jhn N _ _ _ _ | apply oC | apply oS | refine oB ?_ ?_ | intro _)
theorem j4I (N a b c d):OLe (@j1k (j07 N) a b c d) (j1k a b c d):=OLe.loop N _ fun _=>oR _
theorem j3S (N a b):OLe (@j0p (j07 N) a b) (j0p a b):=by
 unfold j0p
 with_reducible repeat' (first | exact oR _ | exact oN _ | exact j4I N _ _ _ _ | apply oC | apply oS | refine oB ?_ ?_ | intro _)
theorem j4J (N a b):OLe (@j1l (j07 N) a b) (j1l a b):=OLe.loop N _ fun _=>j3S N _ _
theorem j5d (N a):OLe (@j05 (j07 N) a) (j05 a):=by
 unfold j05
 with_reducible repeat' (first | exact oR _ | exact oN _ | exact j4J N _ _ | apply oC | apply oS | refine oB ?_ ?_ | intro _)
theorem jeo (N a b c d e):OLe (@j0Z (j07 N) a b c d e) (j0Z a b c d e):=OLe.loop N _ fun _=>oR _
theorem jep (N a b c d e f g h):OLe (@j6V (j07 N) a b c d e f g h) (j6V a b c d e f g h):=OLe.loop N _ fun _=>oR _
theorem jb9 (N a b c d):OLe (@j2b (j07 N) a b c d) (j2b a b c d):=by
 unfold j2b
 with_reducible repeat' (first | exact oR _ | exact oN _ | exact jep N _ _ _ _ _ _ _ _ | apply oC | apply oS | refine oB ?_ ?_ | intro _)
theorem jeq (N a b c d):OLe (@j10 (j07 N) a b c d) (j10 a b c d):=OLe.loop N _ fun _=>jb9 N _ _ _ _
theorem jgj (N a b c d):OLe (@j3X (j07 N) a b c d) (j3X a b c d):=by
 unfold j3X
 with_reducible repeat' (first | exact oR _ | exact oN _ | exact jd1 N _ _ _ _ | exact jeD N _ _ _ _ | exact jhl N _ _ _ | exact jln N _ _ _ _ | exact jlo N _ _ | exact jfG N _ _ _ _ | exact jgs N _ _ | exact jjU N _ | exact jeo N _ _ _ _ _ | exact jeq N _ _ _ _ | exact j5d N _ | apply oC | apply oS | refine oB ?_ ?_ | intro _)
theorem jjV (N a b c d):OLe (@j8j (j07 N) a b c d) (j8j a b c d):=by
 unfold j8j
 with_reducible repeat' (first | exact oR _ | exact oN _ | exact jd1 N _ _ _ _ | exact jeD N _ _ _ _ | apply oC | apply oS | refine oB ?_ ?_ | intro _)
theorem jlY (N a b c d):OLe (@j9d (j07 N) a b c d) (j9d a b c d):=OLe.loop N _ fun _=>oR _
theorem jq0 (N a b):OLe (@jcy (j07 N) a b) (jcy a b):=by
 unfold jcy
 with_reducible repeat' (first | exact oR _ | exact oN _ | exact jlY N _ _ _ _ | apply oC | apply oS | refine oB ?_ ?_ | intro _)
theorem jho (N a b c d):OLe (@j0F (j07 N) a b c d) (j0F a b c d):=by
 unfold j0F
 with_reducible repeat' (first | exact oR _ | exact oN _ | exact jd1 N _ _ _ _ | exact jc7 N _ _ | exact jq0 N _ _ | apply oC | apply oS | refine oB ?_ ?_ | intro _)
theorem jnI (N):OLe (@j9e (j07 N) ) (j9e ):=by
 unfold j9e
 with_reducible repeat' (first | exact oR _ | exact oN _ | exact jgj N _ _ _ _ | exact jjV N _ _ _ _ | exact jho N _ _ _ _ | apply oC | apply oS | refine oB ?_ ?_ | intro _)
abbrev jnJ (N:Nat):=@j22 (j07 N)
end
end Go.Proofs.Pw
