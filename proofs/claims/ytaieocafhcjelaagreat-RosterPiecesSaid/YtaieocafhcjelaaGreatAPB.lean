/- Twins with a bound on their rounds, printed by a program. -/
import Derived.Test.YtaieocafhcjelaaGreatAFns
import Derived.Test.YtaieocafhcjelaaGreatALD
open Go Go.Lft
set_option linter.unusedVariables false
set_option maxRecDepth 100000
namespace Go.Proofs.Pw
noncomputable section
theorem jlQ (N a b c):OLe (@j6g (j0d N) a b c) (j6g a b c):=OLe.loop N _ fun _=>oR _
theorem j7S (N a):OLe (@j51 (j0d N) a) (j51 a):=by
 unfold j51
 with_reducible repeat' (first | exact oR _ | exact oN _ | exact jlQ N _ _ _ | apply oC | apply oS | refine oB ?_ ?_ | intro _)
theorem j7F (N a b):OLe (@j3K (j0d N) a b) (j3K a b):=by
 unfold j3K
 with_reducible repeat' (first | exact oR _ | exact oN _ | exact j7S N _ | apply oC | apply oS | refine oB ?_ ?_ | intro _)
theorem jk4 (N a b c d e):OLe (@j5R (j0d N) a b c d e) (j5R a b c d e):=OLe.loop N _ fun _=>oR _
theorem jnz (N a):OLe (@j7i (j0d N) a) (j7i a):=by
 unfold j7i
 with_reducible repeat' (first | exact oR _ | exact oN _ | exact jk4 N _ _ _ _ _ | apply oC | apply oS | refine oB ?_ ?_ | intro _)
theorem jsi (N a b c d):OLe (@jci (j0d N) a b c d) (jci a b c d):=by
 unfold jci
 with_reducible repeat' (first | exact oR _ | exact oN _ | exact jnz N _ | apply oC | apply oS | refine oB ?_ ?_ | intro _)
theorem j4Z (N a b c d e):OLe (@j0k (j0d N) a b c d e) (j0k a b c d e):=OLe.loop N _ fun _=>oR _
theorem j4o (N a b c d):OLe (@j09 (j0d N) a b c d) (j09 a b c d):=by
 unfold j09
 with_reducible repeat' (first | exact oR _ | exact oN _ | exact j4Z N _ _ _ _ _ | apply oC | apply oS | refine oB ?_ ?_ | intro _)
theorem j50 (N a b c d):OLe (@j0l (j0d N) a b c d) (j0l a b c d):=OLe.loop N _ fun _=>j4o N _ _ _ _
theorem j2L (N a b c):OLe (@j0e (j0d N) a b c) (j0e a b c):=by
 unfold j0e
 with_reducible repeat' (first | exact oR _ | exact oN _ | exact j50 N _ _ _ _ | apply oC | apply oS | refine oB ?_ ?_ | intro _)
theorem j5G (N a b c d e):OLe (@j0g (j0d N) a b c d e) (j0g a b c d e):=by
 unfold j0g
 with_reducible repeat' (first | exact oR _ | exact oN _ | exact j2L N _ _ _ | apply oC | apply oS | refine oB ?_ ?_ | intro _)
theorem j6N (N a b c d e):OLe (@j0C (j0d N) a b c d e) (j0C a b c d e):=OLe.loop N _ fun _=>j5G N _ _ _ _ _
theorem j6O (N a b c d e):OLe (@j2i (j0d N) a b c d e) (j2i a b c d e):=OLe.loop N _ fun _=>oR _
theorem j5H (N a b c):OLe (@j0h (j0d N) a b c) (j0h a b c):=by
 unfold j0h
 with_reducible repeat' (first | exact oR _ | exact oN _ | exact j6O N _ _ _ _ _ | apply oC | apply oS | refine oB ?_ ?_ | intro _)
theorem j6P (N a b c):OLe (@j0D (j0d N) a b c) (j0D a b c):=OLe.loop N _ fun _=>j5H N _ _ _
theorem j7G (N a b):OLe (@j0P (j0d N) a b) (j0P a b):=by
 unfold j0P
 with_reducible repeat' (first | exact oR _ | exact oN _ | exact j6N N _ _ _ _ _ | exact j2L N _ _ _ | exact j6P N _ _ _ | apply oC | apply oS | refine oB ?_ ?_ | intro _)
theorem j42 (N a):OLe (@j0b (j0d N) a) (j0b a):=by
 unfold j0b
 with_reducible repeat' (first | exact oR _ | exact oN _ | exact j7G N _ _ | apply oC | apply oS | refine oB ?_ ?_ | intro _)
theorem jgb (N a b c d e f g):OLe (@j2M (j0d N) a b c d e f g) (j2M a b c d e f g):=OLe.loop N _ fun _=>oR _
theorem jcZ (N a b c d e f g h i j k l):OLe (@j15 (j0d N) a b c d e f g h i j k l) (j15 a b c d e f g h i j k l):=by
 unfold j15
 with_reducible repeat' (first | exact oR _ | exact oN _ | exact jsi N _ _ _ _ | apply oC | apply oS | refine oB ?_ ?_ | intro _)
theorem jgc (N a b c d e f g h i j k l):OLe (@j3t (j0d N) a b c d e f g h i j k l) (j3t a b c d e f g h i j k l):=OLe.loop N _ fun _=>jcZ N _ _ _ _ _ _ _ _ _ _ _ _
theorem jd0 (N a b c d):OLe (@j16 (j0d N) a b c d) (j16 a b c d):=by
 unfold j16
 with_reducible repeat' (first | exact oR _ | exact oN _ | exact jgc N _ _ _ _ _ _ _ _ _ _ _ _ | apply oC | apply oS | refine oB ?_ ?_ | intro _)
theorem jgd (N a b c d):OLe (@j2N (j0d N) a b c d) (j2N a b c d):=OLe.loop N _ fun _=>jd0 N _ _ _ _
theorem jiT (N a):OLe (@j4a (j0d N) a) (j4a a):=by
 unfold j4a
 with_reducible repeat' (first | exact oR _ | exact oN _ | exact jgb N _ _ _ _ _ _ _ | exact jgd N _ _ _ _ | exact j42 N _ | apply oC | apply oS | refine oB ?_ ?_ | intro _)
theorem jge (N a b c d e):OLe (@j2O (j0d N) a b c d e) (j2O a b c d e):=OLe.loop N _ fun _=>oR _
theorem jd1 (N a):OLe (@j2q (j0d N) a) (j2q a):=by
 unfold j2q
 with_reducible repeat' (first | exact oR _ | exact oN _ | exact jiT N _ | exact jge N _ _ _ _ _ | apply oC | apply oS | refine oB ?_ ?_ | intro _)
theorem jqo (N a):OLe (@j8U (j0d N) a) (j8U a):=by
 unfold j8U
 with_reducible repeat' (first | exact oR _ | exact oN _ | exact jd1 N _ | apply oC | apply oS | refine oB ?_ ?_ | intro _)
theorem j5w (N a b c):OLe (@j0m (j0d N) a b c) (j0m a b c):=OLe.loop N _ fun _=>oR _
theorem j68 (N a):OLe (@j0v (j0d N) a) (j0v a):=by
 unfold j0v
 with_reducible repeat' (first | exact oR _ | exact oN _ | exact j5w N _ _ _ | apply oC | apply oS | refine oB ?_ ?_ | intro _)
theorem j5x (N a):OLe (@j0n (j0d N) a) (j0n a):=by
 unfold j0n
 with_reducible repeat' (first | exact oR _ | exact oN _ | exact j68 N _ | apply oC | apply oS | refine oB ?_ ?_ | intro _)
theorem jhL (N a):OLe (@j2W (j0d N) a) (j2W a):=by
 unfold j2W
 with_reducible repeat' (first | exact oR _ | exact oN _ | exact jqo N _ | exact j5x N _ | apply oC | apply oS | refine oB ?_ ?_ | intro _)
theorem j9B (N a b c d):OLe (@j0G (j0d N) a b c d) (j0G a b c d):=by
 unfold j0G
 with_reducible repeat' (first | exact oR _ | exact oN _ | exact j7F N _ _ | exact jhL N _ | apply oC | apply oS | refine oB ?_ ?_ | intro _)
theorem jc1 (N a b c d):OLe (@j1s (j0d N) a b c d) (j1s a b c d):=OLe.loop N _ fun _=>j9B N _ _ _ _
theorem jec (N a):OLe (@j27 (j0d N) a) (j27 a):=by
 unfold j27
 with_reducible repeat' (first | exact oR _ | exact oN _ | exact jc1 N _ _ _ _ | apply oC | apply oS | refine oB ?_ ?_ | intro _)
theorem jlR (N a b c d):OLe (@j7I (j0d N) a b c d) (j7I a b c d):=OLe.loop N _ fun _=>oR _
theorem jk5 (N a):OLe (@j8V (j0d N) a) (j8V a):=by
 unfold j8V
 with_reducible repeat' (first | exact oR _ | exact oN _ | exact jlR N _ _ _ _ | apply oC | apply oS | refine oB ?_ ?_ | intro _)
theorem jgf (N a b):OLe (@j1T (j0d N) a b) (j1T a b):=by
 unfold j1T
 with_reducible repeat' (first | exact oR _ | exact oN _ | exact jk5 N _ | apply oC | apply oS | refine oB ?_ ?_ | intro _)
theorem jlS (N a b):OLe (@jf2 (j0d N) a b) (jf2 a b):=OLe.loop N _ fun _=>oR _
theorem jqp (N a):OLe (@jeq (j0d N) a) (jeq a):=by
 unfold jeq
 with_reducible repeat' (first | exact oR _ | exact oN _ | exact jlS N _ _ | apply oC | apply oS | refine oB ?_ ?_ | intro _)
theorem jk6 (N a b c d e f g):OLe (@jcj (j0d N) a b c d e f g) (jcj a b c d e f g):=OLe.loop N _ fun _=>oR _
theorem jnA (N a):OLe (@j59 (j0d N) a) (j59 a):=by
 unfold j59
 with_reducible repeat' (first | exact oR _ | exact oN _ | exact jqp N _ | exact jk6 N _ _ _ _ _ _ _ | apply oC | apply oS | refine oB ?_ ?_ | intro _)
theorem jaE (N a):OLe (@j0W (j0d N) a) (j0W a):=by
 unfold j0W
 with_reducible repeat' (first | exact oR _ | exact oN _ | exact jnA N _ | apply oC | apply oS | refine oB ?_ ?_ | intro _)
theorem jd2 (N a):OLe (@j2d (j0d N) a) (j2d a):=by
 unfold j2d
 with_reducible repeat' (first | exact oR _ | exact oN _ | exact jaE N _ | apply oC | apply oS | refine oB ?_ ?_ | intro _)
theorem j8R (N a b c):OLe (@j0z (j0d N) a b c) (j0z a b c):=by
 unfold j0z
 with_reducible repeat' (first | exact oR _ | exact oN _ | exact jd2 N _ | apply oC | apply oS | refine oB ?_ ?_ | intro _)
theorem jbb (N a b c):OLe (@j1C (j0d N) a b c) (j1C a b c):=OLe.loop N _ fun _=>j8R N _ _ _
theorem jd3 (N a):OLe (@j2e (j0d N) a) (j2e a):=by
 unfold j2e
 with_reducible repeat' (first | exact oR _ | exact oN _ | exact jbb N _ _ _ | apply oC | apply oS | refine oB ?_ ?_ | intro _)
theorem jbc (N a):OLe (@j1D (j0d N) a) (j1D a):=by
 unfold j1D
 with_reducible repeat' (first | exact oR _ | exact oN _ | exact jd3 N _ | apply oC | apply oS | refine oB ?_ ?_ | intro _)
theorem jd4 (N a b c d e):OLe (@j2f (j0d N) a b c d e) (j2f a b c d e):=OLe.loop N _ fun _=>oR _
theorem jeJ (N a b):OLe (@j1K (j0d N) a b) (j1K a b):=by
 unfold j1K
 with_reducible repeat' (first | exact oR _ | exact oN _ | exact jbc N _ | exact jd4 N _ _ _ _ _ | apply oC | apply oS | refine oB ?_ ?_ | intro _)
theorem jiU (N a b c d e):OLe (@j52 (j0d N) a b c d e) (j52 a b c d e):=by
 unfold j52
 with_reducible repeat' (first | exact oR _ | exact oN _ | exact jeJ N _ _ | apply oC | apply oS | refine oB ?_ ?_ | intro _)
theorem j8h (N a b c d e f g h):OLe (@j0t (j0d N) a b c d e f g h) (j0t a b c d e f g h):=by
 unfold j0t
 with_reducible repeat' (first | exact oR _ | exact oN _ | exact j7F N _ _ | exact jiU N _ _ _ _ _ | apply oC | apply oS | refine oB ?_ ?_ | intro _)
theorem j9L (N a b c d e f g h):OLe (@j0X (j0d N) a b c d e f g h) (j0X a b c d e f g h):=OLe.loop N _ fun _=>j8h N _ _ _ _ _ _ _ _
theorem jbD (N a b c d e):OLe (@j1f (j0d N) a b c d e) (j1f a b c d e):=by
 unfold j1f
 with_reducible repeat' (first | exact oR _ | exact oN _ | exact j9L N _ _ _ _ _ _ _ _ | apply oC | apply oS | refine oB ?_ ?_ | intro _)
theorem j9C (N a b c d e f g):OLe (@j17 (j0d N) a b c d e f g) (j17 a b c d e f g):=OLe.loop N _ fun _=>oR _
theorem jbd (N a b c d e):OLe (@j1E (j0d N) a b c d e) (j1E a b c d e):=by
 unfold j1E
 with_reducible repeat' (first | exact oR _ | exact oN _ | exact j9C N _ _ _ _ _ _ _ | apply oC | apply oS | refine oB ?_ ?_ | intro _)
theorem j9D (N a b c d e):OLe (@j18 (j0d N) a b c d e) (j18 a b c d e):=by
 unfold j18
 with_reducible repeat' (first | exact oR _ | exact oN _ | exact jbd N _ _ _ _ _ | apply oC | apply oS | refine oB ?_ ?_ | intro _)
theorem jh8 (N a b):OLe (@j2F (j0d N) a b) (j2F a b):=by
 unfold j2F
 with_reducible repeat' (first | exact oR _ | exact oN _ | exact jaE N _ | exact j9D N _ _ _ _ _ | exact jk5 N _ | apply oC | apply oS | refine oB ?_ ?_ | intro _)
theorem jd5 (N a b c d e):OLe (@j2g (j0d N) a b c d e) (j2g a b c d e):=by
 unfold j2g
 with_reducible repeat' (first | exact oR _ | exact oN _ | exact jh8 N _ _ | apply oC | apply oS | refine oB ?_ ?_ | intro _)
theorem j94 (N a b c d e f g h):OLe (@j0E (j0d N) a b c d e f g h) (j0E a b c d e f g h):=by
 unfold j0E
 with_reducible repeat' (first | exact oR _ | exact oN _ | exact j7F N _ _ | exact jd5 N _ _ _ _ _ | apply oC | apply oS | refine oB ?_ ?_ | intro _)
theorem jbE (N a b c d e f g h):OLe (@j1g (j0d N) a b c d e f g h) (j1g a b c d e f g h):=OLe.loop N _ fun _=>j94 N _ _ _ _ _ _ _ _
theorem jdi (N a b c d e):OLe (@j1U (j0d N) a b c d e) (j1U a b c d e):=by
 unfold j1U
 with_reducible repeat' (first | exact oR _ | exact oN _ | exact jbE N _ _ _ _ _ _ _ _ | apply oC | apply oS | refine oB ?_ ?_ | intro _)
theorem jhM (N a b):OLe (@j2X (j0d N) a b) (j2X a b):=by
 unfold j2X
 with_reducible repeat' (first | exact oR _ | exact oN _ | exact jaE N _ | apply oC | apply oS | refine oB ?_ ?_ | intro _)
theorem j9M (N a b c d e f g):OLe (@j0L (j0d N) a b c d e f g) (j0L a b c d e f g):=by
 unfold j0L
 with_reducible repeat' (first | exact oR _ | exact oN _ | exact jhM N _ _ | apply oC | apply oS | refine oB ?_ ?_ | intro _)
theorem jd6 (N a b c d e f g):OLe (@j2h (j0d N) a b c d e f g) (j2h a b c d e f g):=OLe.loop N _ fun _=>j9M N _ _ _ _ _ _ _
theorem jeK (N a b):OLe (@j1L (j0d N) a b) (j1L a b):=by
 unfold j1L
 with_reducible repeat' (first | exact oR _ | exact oN _ | exact jdi N _ _ _ _ _ | exact jd6 N _ _ _ _ _ _ _ | apply oC | apply oS | refine oB ?_ ?_ | intro _)
theorem jiV (N a b c d e):OLe (@j53 (j0d N) a b c d e) (j53 a b c d e):=by
 unfold j53
 with_reducible repeat' (first | exact oR _ | exact oN _ | exact jeK N _ _ | apply oC | apply oS | refine oB ?_ ?_ | intro _)
theorem j8i (N a b c d e f g h):OLe (@j0u (j0d N) a b c d e f g h) (j0u a b c d e f g h):=by
 unfold j0u
 with_reducible repeat' (first | exact oR _ | exact oN _ | exact j7F N _ _ | exact jiV N _ _ _ _ _ | apply oC | apply oS | refine oB ?_ ?_ | intro _)
theorem j9N (N a b c d e f g h):OLe (@j0Y (j0d N) a b c d e f g h) (j0Y a b c d e f g h):=OLe.loop N _ fun _=>j8i N _ _ _ _ _ _ _ _
theorem jbF (N a b c d e):OLe (@j1S (j0d N) a b c d e) (j1S a b c d e):=by
 unfold j1S
 with_reducible repeat' (first | exact oR _ | exact oN _ | exact j9N N _ _ _ _ _ _ _ _ | apply oC | apply oS | refine oB ?_ ?_ | intro _)
theorem jeL (N a b c d e f g h):OLe (@j1M (j0d N) a b c d e f g h) (j1M a b c d e f g h):=by
 unfold j1M
 with_reducible repeat' (first | exact oR _ | exact oN _ | exact j7F N _ _ | exact jgf N _ _ | apply oC | apply oS | refine oB ?_ ?_ | intro _)
theorem jiW (N a b c d e f g h):OLe (@j4b (j0d N) a b c d e f g h) (j4b a b c d e f g h):=OLe.loop N _ fun _=>jeL N _ _ _ _ _ _ _ _
theorem jlT (N a):OLe (@j5b (j0d N) a) (j5b a):=by
 unfold j5b
 with_reducible repeat' (first | exact oR _ | exact oN _ | exact jec N _ | exact jiW N _ _ _ _ _ _ _ _ | exact jbD N _ _ _ _ _ | exact jbF N _ _ _ _ _ | apply oC | apply oS | refine oB ?_ ?_ | intro _)
theorem jvM (N a):OLe (@jgA (j0d N) a) (jgA a):=by
 unfold jgA
 with_reducible repeat' (first | exact oR _ | exact oN _ | exact jd1 N _ | apply oC | apply oS | refine oB ?_ ?_ | intro _)
theorem jgg (N a b c d):OLe (@j2j (j0d N) a b c d) (j2j a b c d):=by
 unfold j2j
 with_reducible repeat' (first | exact oR _ | exact oN _ | exact jvM N _ | apply oC | apply oS | refine oB ?_ ?_ | intro _)
theorem jkW (N a b c d):OLe (@j5z (j0d N) a b c d) (j5z a b c d):=OLe.loop N _ fun _=>jgg N _ _ _ _
theorem joi (N a):OLe (@ja9 (j0d N) a) (ja9 a):=by
 unfold ja9
 with_reducible repeat' (first | exact oR _ | exact oN _ | exact jkW N _ _ _ _ | apply oC | apply oS | refine oB ?_ ?_ | intro _)
theorem jsj (N a):OLe (@jcl (j0d N) a) (jcl a):=by
 unfold jcl
 with_reducible repeat' (first | exact oR _ | exact oN _ | exact joi N _ | apply oC | apply oS | refine oB ?_ ?_ | intro _)
theorem jkX (N a):OLe (@jf3 (j0d N) a) (jf3 a):=by
 unfold jf3
 with_reducible repeat' (first | exact oR _ | exact oN _ | exact jlT N _ | exact jsj N _ | apply oC | apply oS | refine oB ?_ ?_ | intro _)
theorem ji5 (N a b c d):OLe (@j6i (j0d N) a b c d) (j6i a b c d):=by
 unfold j6i
 with_reducible repeat' (first | exact oR _ | exact oN _ | exact jkX N _ | apply oC | apply oS | refine oB ?_ ?_ | intro _)
theorem j9E (N a b c d e):OLe (@j0U (j0d N) a b c d e) (j0U a b c d e):=OLe.loop N _ fun _=>oR _
theorem jbe (N a b c):OLe (@j1F (j0d N) a b c) (j1F a b c):=by
 unfold j1F
 with_reducible repeat' (first | exact oR _ | exact oN _ | exact j9E N _ _ _ _ _ | apply oC | apply oS | refine oB ?_ ?_ | intro _)
theorem jaw (N a b c d e):OLe (@j1x (j0d N) a b c d e) (j1x a b c d e):=OLe.loop N _ fun _=>oR _
theorem jc2 (N a b c):OLe (@j1t (j0d N) a b c) (j1t a b c):=by
 unfold j1t
 with_reducible repeat' (first | exact oR _ | exact oN _ | exact jbe N _ _ _ | exact jaw N _ _ _ _ _ | apply oC | apply oS | refine oB ?_ ?_ | intro _)
theorem jc3 (N a b c d):OLe (@j1u (j0d N) a b c d) (j1u a b c d):=OLe.loop N _ fun _=>oR _
theorem j9F (N a b):OLe (@j0H (j0d N) a b) (j0H a b):=by
 unfold j0H
 with_reducible repeat' (first | exact oR _ | exact oN _ | exact jc3 N _ _ _ _ | apply oC | apply oS | refine oB ?_ ?_ | intro _)
theorem jc4 (N a b):OLe (@j0R (j0d N) a b) (j0R a b):=OLe.loop N _ fun _=>j9F N _ _
theorem jed (N a):OLe (@j28 (j0d N) a) (j28 a):=by
 unfold j28
 with_reducible repeat' (first | exact oR _ | exact oN _ | exact jc4 N _ _ | apply oC | apply oS | refine oB ?_ ?_ | intro _)
theorem jsk (N a b c):OLe (@jcn (j0d N) a b c) (jcn a b c):=by
 unfold jcn
 with_reducible repeat' (first | exact oR _ | exact oN _ | exact jc2 N _ _ _ | exact jed N _ | apply oC | apply oS | refine oB ?_ ?_ | intro _)
theorem jkY (N a b c d e):OLe (@j6Q (j0d N) a b c d e) (j6Q a b c d e):=OLe.loop N _ fun _=>oR _
theorem joj (N a b c d):OLe (@jab (j0d N) a b c d) (jab a b c d):=by
 unfold jab
 with_reducible repeat' (first | exact oR _ | exact oN _ | exact jkY N _ _ _ _ _ | apply oC | apply oS | refine oB ?_ ?_ | intro _)
theorem jd7 (N a b):OLe (@j3n (j0d N) a b) (j3n a b):=by
 unfold j3n
 with_reducible repeat' (first | exact oR _ | exact oN _ | exact joj N _ _ _ _ | apply oC | apply oS | refine oB ?_ ?_ | intro _)
theorem jc5 (N a b c d e):OLe (@j0p (j0d N) a b c d e) (j0p a b c d e):=by
 unfold j0p
 with_reducible repeat' (first | exact oR _ | exact oN _ | exact jd7 N _ _ | apply oC | apply oS | refine oB ?_ ?_ | intro _)
theorem jfG (N a b c d e):OLe (@j22 (j0d N) a b c d e) (j22 a b c d e):=OLe.loop N _ fun _=>jc5 N _ _ _ _ _
theorem j8j (N a b c):OLe (@j1j (j0d N) a b c) (j1j a b c):=by
 unfold j1j
 with_reducible repeat' (first | exact oR _ | exact oN _ | exact jfG N _ _ _ _ _ | apply oC | apply oS | refine oB ?_ ?_ | intro _)
theorem jgh (N a b c d e):OLe (@j2P (j0d N) a b c d e) (j2P a b c d e):=OLe.loop N _ fun _=>oR _
theorem jiX (N a b):OLe (@j1Z (j0d N) a b) (j1Z a b):=by
 unfold j1Z
 with_reducible repeat' (first | exact oR _ | exact oN _ | exact j8j N _ _ _ | exact jgh N _ _ _ _ _ | apply oC | apply oS | refine oB ?_ ?_ | intro _)
theorem j4R (N a b c):OLe (@j0M (j0d N) a b c) (j0M a b c):=by
 unfold j0M
 with_reducible repeat' (first | exact oR _ | exact oN _ | exact jiX N _ _ | apply oC | apply oS | refine oB ?_ ?_ | intro _)
theorem j7d (N a b c):OLe (@j0x (j0d N) a b c) (j0x a b c):=OLe.loop N _ fun _=>oR _
theorem j8k (N a):OLe (@j0S (j0d N) a) (j0S a):=by
 unfold j0S
 with_reducible repeat' (first | exact oR _ | exact oN _ | exact j7d N _ _ _ | apply oC | apply oS | refine oB ?_ ?_ | intro _)
theorem j6W (N a b c):OLe (@j0F (j0d N) a b c) (j0F a b c):=OLe.loop N _ fun _=>oR _
theorem j7T (N a):OLe (@j0A (j0d N) a) (j0A a):=by
 unfold j0A
 with_reducible repeat' (first | exact oR _ | exact oN _ | exact j8k N _ | exact j6W N _ _ _ | apply oC | apply oS | refine oB ?_ ?_ | intro _)
theorem jlU (N a b c d):OLe (@j6k (j0d N) a b c d) (j6k a b c d):=OLe.loop N _ fun _=>oR _
theorem j9G (N a):OLe (@j5U (j0d N) a) (j5U a):=by
 unfold j5U
 with_reducible repeat' (first | exact oR _ | exact oN _ | exact j7T N _ | exact jlU N _ _ _ _ | apply oC | apply oS | refine oB ?_ ?_ | intro _)
theorem jk7 (N a b c d e f g h i j k l):OLe (@j5V (j0d N) a b c d e f g h i j k l) (j5V a b c d e f g h i j k l):=OLe.loop N _ fun _=>oR _
theorem jfH (N a b c d e f g h i):OLe (@j23 (j0d N) a b c d e f g h i) (j23 a b c d e f g h i):=by
 unfold j23
 with_reducible repeat' (first | exact oR _ | exact oN _ | exact jk7 N _ _ _ _ _ _ _ _ _ _ _ _ | apply oC | apply oS | refine oB ?_ ?_ | intro _)
theorem jk8 (N a b c d e f g h i):OLe (@j5W (j0d N) a b c d e f g h i) (j5W a b c d e f g h i):=OLe.loop N _ fun _=>jfH N _ _ _ _ _ _ _ _ _
theorem jfI (N a b c d e):OLe (@j24 (j0d N) a b c d e) (j24 a b c d e):=by
 unfold j24
 with_reducible repeat' (first | exact oR _ | exact oN _ | exact jk8 N _ _ _ _ _ _ _ _ _ | apply oC | apply oS | refine oB ?_ ?_ | intro _)
theorem jk9 (N a b c d e):OLe (@j5X (j0d N) a b c d e) (j5X a b c d e):=OLe.loop N _ fun _=>jfI N _ _ _ _ _
theorem jnB (N a b c d):OLe (@j3M (j0d N) a b c d) (j3M a b c d):=by
 unfold j3M
 with_reducible repeat' (first | exact oR _ | exact oN _ | exact j8j N _ _ _ | exact jk9 N _ _ _ _ _ | exact j9G N _ | apply oC | apply oS | refine oB ?_ ?_ | intro _)
theorem jhN (N a b c d e f g h i j k l m):OLe (@j3v (j0d N) a b c d e f g h i j k l m) (j3v a b c d e f g h i j k l m):=OLe.loop N _ fun _=>oR _
theorem jee (N a b c d e f g):OLe (@j1A (j0d N) a b c d e f g) (j1A a b c d e f g):=by
 unfold j1A
 with_reducible repeat' (first | exact oR _ | exact oN _ | exact jhN N _ _ _ _ _ _ _ _ _ _ _ _ _ | apply oC | apply oS | refine oB ?_ ?_ | intro _)
theorem jhO (N a b c d e f g):OLe (@j3w (j0d N) a b c d e f g) (j3w a b c d e f g):=OLe.loop N _ fun _=>jee N _ _ _ _ _ _ _
theorem jkZ (N a b c d):OLe (@j1J (j0d N) a b c d) (j1J a b c d):=by
 unfold j1J
 with_reducible repeat' (first | exact oR _ | exact oN _ | exact j8j N _ _ _ | exact jhO N _ _ _ _ _ _ _ | exact j9G N _ | apply oC | apply oS | refine oB ?_ ?_ | intro _)
theorem jka (N a b c d e f g h):OLe (@j5Y (j0d N) a b c d e f g h) (j5Y a b c d e f g h):=OLe.loop N _ fun _=>oR _
theorem jkb (N a b c d e f g h i j):OLe (@j4I (j0d N) a b c d e f g h i j) (j4I a b c d e f g h i j):=OLe.loop N _ fun _=>oR _
theorem jfJ (N a b c d e f):OLe (@j25 (j0d N) a b c d e f) (j25 a b c d e f):=by
 unfold j25
 with_reducible repeat' (first | exact oR _ | exact oN _ | exact jka N _ _ _ _ _ _ _ _ | exact jkb N _ _ _ _ _ _ _ _ _ _ | apply oC | apply oS | refine oB ?_ ?_ | intro _)
theorem jkc (N a b c d e f):OLe (@j3N (j0d N) a b c d e f) (j3N a b c d e f):=OLe.loop N _ fun _=>jfJ N _ _ _ _ _ _
theorem jd8 (N a b):OLe (@j2k (j0d N) a b) (j2k a b):=by
 unfold j2k
 with_reducible repeat' (first | exact oR _ | exact oN _ | exact jkc N _ _ _ _ _ _ | apply oC | apply oS | refine oB ?_ ?_ | intro _)
theorem jl0 (N a b c d e):OLe (@j3G (j0d N) a b c d e) (j3G a b c d e):=OLe.loop N _ fun _=>oR _
theorem jok (N a b):OLe (@j7m (j0d N) a b) (j7m a b):=by
 unfold j7m
 with_reducible repeat' (first | exact oR _ | exact oN _ | exact jl0 N _ _ _ _ _ | apply oC | apply oS | refine oB ?_ ?_ | intro _)
theorem jkd (N a b c d):OLe (@j3O (j0d N) a b c d) (j3O a b c d):=by
 unfold j3O
 with_reducible repeat' (first | exact oR _ | exact oN _ | exact j4R N _ _ _ | exact jnB N _ _ _ _ | exact jkZ N _ _ _ _ | exact jd8 N _ _ | exact jok N _ _ | apply oC | apply oS | refine oB ?_ ?_ | intro _)
theorem jhP (N a b):OLe (@j3x (j0d N) a b) (j3x a b):=by
 unfold j3x
 with_reducible repeat' (first | exact oR _ | exact oN _ | exact jd7 N _ _ | apply oC | apply oS | refine oB ?_ ?_ | intro _)
theorem jd9 (N a b):OLe (@j0q (j0d N) a b) (j0q a b):=by
 unfold j0q
 with_reducible repeat' (first | exact oR _ | exact oN _ | exact jhP N _ _ | apply oC | apply oS | refine oB ?_ ?_ | intro _)
theorem jeM (N a b c d e f g h i j k l m n):OLe (@j1O (j0d N) a b c d e f g h i j k l m n) (j1O a b c d e f g h i j k l m n):=by
 unfold j1O
 with_reducible repeat' (first | exact oR _ | exact oN _ | exact j4R N _ _ _ | apply oC | apply oS | refine oB ?_ ?_ | intro _)
theorem jiY (N a b c d e f g h i j k l m n):OLe (@j54 (j0d N) a b c d e f g h i j k l m n) (j54 a b c d e f g h i j k l m n):=OLe.loop N _ fun _=>jeM N _ _ _ _ _ _ _ _ _ _ _ _ _ _
theorem jeN (N a b c d e f g h i j k l m n):OLe (@j2l (j0d N) a b c d e f g h i j k l m n) (j2l a b c d e f g h i j k l m n):=by
 unfold j2l
 with_reducible repeat' (first | exact oR _ | exact oN _ | exact j4R N _ _ _ | apply oC | apply oS | refine oB ?_ ?_ | intro _)
theorem jiZ (N a b c d e f g h i j k l m n):OLe (@j55 (j0d N) a b c d e f g h i j k l m n) (j55 a b c d e f g h i j k l m n):=OLe.loop N _ fun _=>jeN N _ _ _ _ _ _ _ _ _ _ _ _ _ _
theorem jg3 (N a b c):OLe (@j1V (j0d N) a b c) (j1V a b c):=by
 unfold j1V
 with_reducible repeat' (first | exact oR _ | exact oN _ | exact j4R N _ _ _ | exact jd9 N _ _ | exact jiY N _ _ _ _ _ _ _ _ _ _ _ _ _ _ | exact jiZ N _ _ _ _ _ _ _ _ _ _ _ _ _ _ | apply oC | apply oS | refine oB ?_ ?_ | intro _)
theorem jlV (N a b c d):OLe (@j5e (j0d N) a b c d) (j5e a b c d):=OLe.loop N _ fun _=>oR _
theorem jfK (N a):OLe (@j6R (j0d N) a) (j6R a):=by
 unfold j6R
 with_reducible repeat' (first | exact oR _ | exact oN _ | exact jlV N _ _ _ _ | apply oC | apply oS | refine oB ?_ ?_ | intro _)
theorem jbG (N a b c d e f g h i j k l m n o p q r s t u v):OLe (@j1h (j0d N) a b c d e f g h i j k l m n o p q r s t u v) (j1h a b c d e f g h i j k l m n o p q r s t u v):=by
 unfold j1h
 with_reducible repeat' (first | exact oR _ | exact oN _ | exact jg3 N _ _ _ | exact j4R N _ _ _ | apply oC | apply oS | refine oB ?_ ?_ | intro _)
theorem jeO (N a b c d e f g h i j k l m n o p q r s t u v):OLe (@j2m (j0d N) a b c d e f g h i j k l m n o p q r s t u v) (j2m a b c d e f g h i j k l m n o p q r s t u v):=OLe.loop N _ fun _=>jbG N _ _ _ _ _ _ _ _ _ _ _ _ _ _ _ _ _ _ _ _ _ _
theorem jbH (N a b c d e f g h i j k l m n o p q r s t):OLe (@j0Z (j0d N) a b c d e f g h i j k l m n o p q r s t) (j0Z a b c d e f g h i j k l m n o p q r s t):=by
 unfold j0Z
 with_reducible repeat' (first | exact oR _ | exact oN _ | exact jeO N _ _ _ _ _ _ _ _ _ _ _ _ _ _ _ _ _ _ _ _ _ _ | apply oC | apply oS | refine oB ?_ ?_ | intro _)
theorem jeP (N a b c d e f g h i j k l m n o p q r s t):OLe (@j2n (j0d N) a b c d e f g h i j k l m n o p q r s t) (j2n a b c d e f g h i j k l m n o p q r s t):=OLe.loop N _ fun _=>jbH N _ _ _ _ _ _ _ _ _ _ _ _ _ _ _ _ _ _ _ _
theorem jh9 (N a b c d):OLe (@j1l (j0d N) a b c d) (j1l a b c d):=by
 unfold j1l
 with_reducible repeat' (first | exact oR _ | exact oN _ | exact jkd N _ _ _ _ | exact jeP N _ _ _ _ _ _ _ _ _ _ _ _ _ _ _ _ _ _ _ _ | exact jfK N _ | apply oC | apply oS | refine oB ?_ ?_ | intro _)
theorem jke (N a b c d e):OLe (@j4J (j0d N) a b c d e) (j4J a b c d e):=OLe.loop N _ fun _=>oR _
theorem jnC (N a b):OLe (@j4z (j0d N) a b) (j4z a b):=by
 unfold j4z
 with_reducible repeat' (first | exact oR _ | exact oN _ | exact jke N _ _ _ _ _ | exact j9G N _ | apply oC | apply oS | refine oB ?_ ?_ | intro _)
theorem jj0 (N a b c d e f g h i j k l m n):OLe (@j2J (j0d N) a b c d e f g h i j k l m n) (j2J a b c d e f g h i j k l m n):=OLe.loop N _ fun _=>oR _
theorem jeQ (N a b c d e f g h):OLe (@j1P (j0d N) a b c d e f g h) (j1P a b c d e f g h):=by
 unfold j1P
 with_reducible repeat' (first | exact oR _ | exact oN _ | exact jnC N _ _ | exact jd8 N _ _ | exact jj0 N _ _ _ _ _ _ _ _ _ _ _ _ _ _ | apply oC | apply oS | refine oB ?_ ?_ | intro _)
theorem jj1 (N a b c d e f g h):OLe (@j3o (j0d N) a b c d e f g h) (j3o a b c d e f g h):=OLe.loop N _ fun _=>jeQ N _ _ _ _ _ _ _ _
theorem jlW (N a b):OLe (@j5f (j0d N) a b) (j5f a b):=by
 unfold j5f
 with_reducible repeat' (first | exact oR _ | exact oN _ | exact jj1 N _ _ _ _ _ _ _ _ | apply oC | apply oS | refine oB ?_ ?_ | intro _)
theorem jkf (N a b c d e):OLe (@j39 (j0d N) a b c d e) (j39 a b c d e):=OLe.loop N _ fun _=>oR _
theorem jnD (N a b):OLe (@j7n (j0d N) a b) (j7n a b):=by
 unfold j7n
 with_reducible repeat' (first | exact oR _ | exact oN _ | exact jkf N _ _ _ _ _ | apply oC | apply oS | refine oB ?_ ?_ | intro _)
theorem jl1 (N a b c d):OLe (@j5A (j0d N) a b c d) (j5A a b c d):=OLe.loop N _ fun _=>oR _
theorem jol (N a):OLe (@j7o (j0d N) a) (j7o a):=by
 unfold j7o
 with_reducible repeat' (first | exact oR _ | exact oN _ | exact jl1 N _ _ _ _ | exact j9G N _ | apply oC | apply oS | refine oB ?_ ?_ | intro _)
theorem jda (N a b c d e f g h i j k l m n):OLe (@j19 (j0d N) a b c d e f g h i j k l m n) (j19 a b c d e f g h i j k l m n):=by
 unfold j19
 with_reducible repeat' (first | exact oR _ | exact oN _ | exact jh9 N _ _ _ _ | exact jlW N _ _ | exact jnD N _ _ | exact jol N _ | exact jd8 N _ _ | apply oC | apply oS | refine oB ?_ ?_ | intro _)
theorem jgi (N a b c d e f g h i j k l m n):OLe (@j2Q (j0d N) a b c d e f g h i j k l m n) (j2Q a b c d e f g h i j k l m n):=OLe.loop N _ fun _=>jda N _ _ _ _ _ _ _ _ _ _ _ _ _ _
theorem jgj (N a b c d):OLe (@j2R (j0d N) a b c d) (j2R a b c d):=OLe.loop N _ fun _=>oR _
theorem jj2 (N a b c d):OLe (@j2K (j0d N) a b c d) (j2K a b c d):=by
 unfold j2K
 with_reducible repeat' (first | exact oR _ | exact oN _ | exact jgi N _ _ _ _ _ _ _ _ _ _ _ _ _ _ | exact jgj N _ _ _ _ | exact jfK N _ | apply oC | apply oS | refine oB ?_ ?_ | intro _)
theorem j9H (N a b c d e):OLe (@j1a (j0d N) a b c d e) (j1a a b c d e):=OLe.loop N _ fun _=>oR _
theorem j6d (N a b):OLe (@j0i (j0d N) a b) (j0i a b):=by
 unfold j0i
 with_reducible repeat' (first | exact oR _ | exact oN _ | exact j9H N _ _ _ _ _ | apply oC | apply oS | refine oB ?_ ?_ | intro _)
theorem jnE (N a b c d e):OLe (@j6b (j0d N) a b c d e) (j6b a b c d e):=OLe.loop N _ fun _=>oR _
theorem jlo (N a b c):OLe (@j9e (j0d N) a b c) (j9e a b c):=by
 unfold j9e
 with_reducible repeat' (first | exact oR _ | exact oN _ | exact jnE N _ _ _ _ _ | apply oC | apply oS | refine oB ?_ ?_ | intro _)
theorem jha (N a b c d e f g h i j k l m n):OLe (@j3b (j0d N) a b c d e f g h i j k l m n) (j3b a b c d e f g h i j k l m n):=OLe.loop N _ fun _=>oR _
theorem jdj (N a b c d e f g h i j k l m):OLe (@j1m (j0d N) a b c d e f g h i j k l m) (j1m a b c d e f g h i j k l m):=by
 unfold j1m
 with_reducible repeat' (first | exact oR _ | exact oN _ | exact jlo N _ _ _ | apply oC | apply oS | refine oB ?_ ?_ | intro _)
theorem jhb (N a b c d e f g h i j k l m):OLe (@j45 (j0d N) a b c d e f g h i j k l m) (j45 a b c d e f g h i j k l m):=OLe.loop N _ fun _=>jdj N _ _ _ _ _ _ _ _ _ _ _ _ _
theorem jdk (N a b c d e f g h):OLe (@j1n (j0d N) a b c d e f g h) (j1n a b c d e f g h):=by
 unfold j1n
 with_reducible repeat' (first | exact oR _ | exact oN _ | exact j6d N _ _ | exact jhb N _ _ _ _ _ _ _ _ _ _ _ _ _ | apply oC | apply oS | refine oB ?_ ?_ | intro _)
theorem jhc (N a b c d e f g h):OLe (@j3c (j0d N) a b c d e f g h) (j3c a b c d e f g h):=OLe.loop N _ fun _=>jdk N _ _ _ _ _ _ _ _
theorem jdF (N a b c d):OLe (@j3d (j0d N) a b c d) (j3d a b c d):=by
 unfold j3d
 with_reducible repeat' (first | exact oR _ | exact oN _ | exact jha N _ _ _ _ _ _ _ _ _ _ _ _ _ _ | exact jsk N _ _ _ | exact jj2 N _ _ _ _ | exact jhc N _ _ _ _ _ _ _ _ | exact jfK N _ | apply oC | apply oS | refine oB ?_ ?_ | intro _)
theorem j9I (N a b c d):OLe (@j2o (j0d N) a b c d) (j2o a b c d):=by
 unfold j2o
 with_reducible repeat' (first | exact oR _ | exact oN _ | exact ji5 N _ _ _ _ | exact jdF N _ _ _ _ | apply oC | apply oS | refine oB ?_ ?_ | intro _)
theorem jhQ (N a b c):OLe (@jac (j0d N) a b c) (jac a b c):=OLe.loop N _ fun _=>oR _
theorem jl2 (N a b c d):OLe (@j8p (j0d N) a b c d) (j8p a b c d):=by
 unfold j8p
 with_reducible repeat' (first | exact oR _ | exact oN _ | exact j9I N _ _ _ _ | exact jhQ N _ _ _ | apply oC | apply oS | refine oB ?_ ?_ | intro _)
theorem jom (N a b c d):OLe (@jad (j0d N) a b c d) (jad a b c d):=OLe.loop N _ fun _=>oR _
theorem jtJ (N a b):OLe (@jf4 (j0d N) a b) (jf4 a b):=by
 unfold jf4
 with_reducible repeat' (first | exact oR _ | exact oN _ | exact jom N _ _ _ _ | apply oC | apply oS | refine oB ?_ ?_ | intro _)
theorem jnF (N a b c):OLe (@j4A (j0d N) a b c) (j4A a b c):=by
 unfold j4A
 with_reducible repeat' (first | exact oR _ | exact oN _ | exact jg3 N _ _ _ | exact jd9 N _ _ | exact jtJ N _ _ | exact j6d N _ _ | apply oC | apply oS | refine oB ?_ ?_ | intro _)
theorem jj3 (N a b c):OLe (@j20 (j0d N) a b c) (j20 a b c):=by
 unfold j20
 with_reducible repeat' (first | exact oR _ | exact oN _ | exact jnF N _ _ _ | apply oC | apply oS | refine oB ?_ ?_ | intro _)
theorem j7e (N a b c d e):OLe (@j0y (j0d N) a b c d e) (j0y a b c d e):=OLe.loop N _ fun _=>oR _
theorem j8l (N a b c):OLe (@j0T (j0d N) a b c) (j0T a b c):=by
 unfold j0T
 with_reducible repeat' (first | exact oR _ | exact oN _ | exact j7e N _ _ _ _ _ | apply oC | apply oS | refine oB ?_ ?_ | intro _)
theorem j7f (N a b c):OLe (@j0J (j0d N) a b c) (j0J a b c):=by
 unfold j0J
 with_reducible repeat' (first | exact oR _ | exact oN _ | exact j8l N _ _ _ | apply oC | apply oS | refine oB ?_ ?_ | intro _)
theorem jqq (N a b c):OLe (@jae (j0d N) a b c) (jae a b c):=by
 unfold jae
 with_reducible repeat' (first | exact oR _ | exact oN _ | exact j7f N _ _ _ | apply oC | apply oS | refine oB ?_ ?_ | intro _)
theorem jeR (N a b c d e f g h i j k l m):OLe (@j1Q (j0d N) a b c d e f g h i j k l m) (j1Q a b c d e f g h i j k l m):=by
 unfold j1Q
 with_reducible repeat' (first | exact oR _ | exact oN _ | exact jj3 N _ _ _ | exact jqq N _ _ _ | apply oC | apply oS | refine oB ?_ ?_ | intro _)
theorem jj4 (N a b c d e f g h i j k l m):OLe (@j4c (j0d N) a b c d e f g h i j k l m) (j4c a b c d e f g h i j k l m):=OLe.loop N _ fun _=>jeR N _ _ _ _ _ _ _ _ _ _ _ _ _
theorem jlX (N a b c):OLe (@j4r (j0d N) a b c) (j4r a b c):=by
 unfold j4r
 with_reducible repeat' (first | exact oR _ | exact oN _ | exact jj4 N _ _ _ _ _ _ _ _ _ _ _ _ _ | apply oC | apply oS | refine oB ?_ ?_ | intro _)
theorem jfL (N a b c):OLe (@j8X (j0d N) a b c) (j8X a b c):=by
 unfold j8X
 with_reducible repeat' (first | exact oR _ | exact oN _ | exact jlX N _ _ _ | exact jlo N _ _ _ | apply oC | apply oS | refine oB ?_ ?_ | intro _)
theorem jl3 (N a b c d e f g h i j k l m n o p q r):OLe (@jdO (j0d N) a b c d e f g h i j k l m n o p q r) (jdO a b c d e f g h i j k l m n o p q r):=OLe.loop N _ fun _=>oR _
theorem jon (N a b c):OLe (@jct (j0d N) a b c) (jct a b c):=by
 unfold jct
 with_reducible repeat' (first | exact oR _ | exact oN _ | exact ji5 N _ _ _ _ | exact jdF N _ _ _ _ | exact jl3 N _ _ _ _ _ _ _ _ _ _ _ _ _ _ _ _ _ _ | exact jfL N _ _ _ | apply oC | apply oS | refine oB ?_ ?_ | intro _)
theorem jhR (N a b c d e):OLe (@jaf (j0d N) a b c d e) (jaf a b c d e):=OLe.loop N _ fun _=>oR _
theorem jl4 (N a b):OLe (@j8q (j0d N) a b) (j8q a b):=by
 unfold j8q
 with_reducible repeat' (first | exact oR _ | exact oN _ | exact jhR N _ _ _ _ _ | exact j9G N _ | apply oC | apply oS | refine oB ?_ ?_ | intro _)
theorem jnG (N a b c d e):OLe (@jaR (j0d N) a b c d e) (jaR a b c d e):=by
 unfold jaR
 with_reducible repeat' (first | exact oR _ | exact oN _ | exact j9I N _ _ _ _ | exact jl4 N _ _ | apply oC | apply oS | refine oB ?_ ?_ | intro _)
theorem jhd (N a b c d e f g h i j):OLe (@j5g (j0d N) a b c d e f g h i j) (j5g a b c d e f g h i j):=by
 unfold j5g
 with_reducible repeat' (first | exact oR _ | exact oN _ | exact jfL N _ _ _ | apply oC | apply oS | refine oB ?_ ?_ | intro _)
theorem jlY (N a b c d e f g h i j):OLe (@jf6 (j0d N) a b c d e f g h i j) (jf6 a b c d e f g h i j):=OLe.loop N _ fun _=>jhd N _ _ _ _ _ _ _ _ _ _
theorem jqr (N a b):OLe (@jev (j0d N) a b) (jev a b):=by
 unfold jev
 with_reducible repeat' (first | exact oR _ | exact oN _ | exact jkX N _ | exact jlY N _ _ _ _ _ _ _ _ _ _ | apply oC | apply oS | refine oB ?_ ?_ | intro _)
theorem jtK (N a b c):OLe (@jhu (j0d N) a b c) (jhu a b c):=by
 unfold jhu
 with_reducible repeat' (first | exact oR _ | exact oN _ | exact jkX N _ | exact jfL N _ _ _ | apply oC | apply oS | refine oB ?_ ?_ | intro _)
theorem jqs (N a b c):OLe (@j7L (j0d N) a b c) (j7L a b c):=by
 unfold j7L
 with_reducible repeat' (first | exact oR _ | exact oN _ | exact jtK N _ _ _ | apply oC | apply oS | refine oB ?_ ?_ | intro _)
theorem jqt (N):OLe (@jag (j0d N) ) (jag ):=by
 unfold jag
 with_reducible repeat' (first | exact oR _ | exact oN _ | exact jl2 N _ _ _ _ | exact jon N _ _ _ | exact j9I N _ _ _ _ | exact jnG N _ _ _ _ _ | exact jqr N _ _ | exact jqs N _ _ _ | apply oC | apply oS | refine oB ?_ ?_ | intro _)
abbrev jqu (N:Nat):=@j0W (j0d N)
end
end Go.Proofs.Pw
