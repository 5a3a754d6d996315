/- Twins with a bound on their rounds, printed by a program. -/
import Derived.Test.YtpbnnhakjhalaaaGreatSLFns
import Derived.Test.YtpbnnhakjhalaaaGreatSLLD
open Go Go.Lft
set_option linter.unusedVariables false
set_option maxRecDepth 100000
namespace Go.Proofs.Pw
noncomputable section
theorem jgP (N a b c):OLe (@jbA (j0f N) a b c) (jbA a b c):=OLe.loop N _ fun _=>oR _
theorem j75 (N a):OLe (@j5x (j0f N) a) (j5x a):=by
 unfold j5x
 with_reducible repeat' (first | exact oR _ | exact oN _ | exact jgP N _ _ _ | apply oC | apply oS | refine oB ?_ ?_ | intro _)
theorem j5u (N a b):OLe (@j2S (j0f N) a b) (j2S a b):=by
 unfold j2S
 with_reducible repeat' (first | exact oR _ | exact oN _ | exact j75 N _ | apply oC | apply oS | refine oB ?_ ?_ | intro _)
theorem jft (N a b c d e):OLe (@j4j (j0f N) a b c d e) (j4j a b c d e):=OLe.loop N _ fun _=>oR _
theorem jip (N a):OLe (@j59 (j0f N) a) (j59 a):=by
 unfold j59
 with_reducible repeat' (first | exact oR _ | exact oN _ | exact jft N _ _ _ _ _ | apply oC | apply oS | refine oB ?_ ?_ | intro _)
theorem jmo (N a b c d):OLe (@j9l (j0f N) a b c d) (j9l a b c d):=by
 unfold j9l
 with_reducible repeat' (first | exact oR _ | exact oN _ | exact jip N _ | apply oC | apply oS | refine oB ?_ ?_ | intro _)
theorem j3E (N a b c d e):OLe (@j0g (j0f N) a b c d e) (j0g a b c d e):=OLe.loop N _ fun _=>oR _
theorem j3f (N a b c d):OLe (@j06 (j0f N) a b c d) (j06 a b c d):=by
 unfold j06
 with_reducible repeat' (first | exact oR _ | exact oN _ | exact j3E N _ _ _ _ _ | apply oC | apply oS | refine oB ?_ ?_ | intro _)
theorem j3F (N a b c d):OLe (@j0h (j0f N) a b c d) (j0h a b c d):=OLe.loop N _ fun _=>j3f N _ _ _ _
theorem j28 (N a b c):OLe (@j09 (j0f N) a b c) (j09 a b c):=by
 unfold j09
 with_reducible repeat' (first | exact oR _ | exact oN _ | exact j3F N _ _ _ _ | apply oC | apply oS | refine oB ?_ ?_ | intro _)
theorem j46 (N a b c d e):OLe (@j0d (j0f N) a b c d e) (j0d a b c d e):=by
 unfold j0d
 with_reducible repeat' (first | exact oR _ | exact oN _ | exact j28 N _ _ _ | apply oC | apply oS | refine oB ?_ ?_ | intro _)
theorem j4M (N a b c d e):OLe (@j0u (j0f N) a b c d e) (j0u a b c d e):=OLe.loop N _ fun _=>j46 N _ _ _ _ _
theorem j4N (N a b c d e):OLe (@j1I (j0f N) a b c d e) (j1I a b c d e):=OLe.loop N _ fun _=>oR _
theorem j47 (N a b c):OLe (@j0e (j0f N) a b c) (j0e a b c):=by
 unfold j0e
 with_reducible repeat' (first | exact oR _ | exact oN _ | exact j4N N _ _ _ _ _ | apply oC | apply oS | refine oB ?_ ?_ | intro _)
theorem j4O (N a b c):OLe (@j0v (j0f N) a b c) (j0v a b c):=OLe.loop N _ fun _=>j47 N _ _ _
theorem j5v (N a b):OLe (@j0H (j0f N) a b) (j0H a b):=by
 unfold j0H
 with_reducible repeat' (first | exact oR _ | exact oN _ | exact j4M N _ _ _ _ _ | exact j28 N _ _ _ | exact j4O N _ _ _ | apply oC | apply oS | refine oB ?_ ?_ | intro _)
theorem j2Z (N a):OLe (@j07 (j0f N) a) (j07 a):=by
 unfold j07
 with_reducible repeat' (first | exact oR _ | exact oN _ | exact j5v N _ _ | apply oC | apply oS | refine oB ?_ ?_ | intro _)
theorem jck (N a b c d e f g):OLe (@j29 (j0f N) a b c d e f g) (j29 a b c d e f g):=OLe.loop N _ fun _=>oR _
theorem j9Y (N a b c d e f g h i j k l):OLe (@j0S (j0f N) a b c d e f g h i j k l) (j0S a b c d e f g h i j k l):=by
 unfold j0S
 with_reducible repeat' (first | exact oR _ | exact oN _ | exact jmo N _ _ _ _ | apply oC | apply oS | refine oB ?_ ?_ | intro _)
theorem jcl (N a b c d e f g h i j k l):OLe (@j2I (j0f N) a b c d e f g h i j k l) (j2I a b c d e f g h i j k l):=OLe.loop N _ fun _=>j9Y N _ _ _ _ _ _ _ _ _ _ _ _
theorem j9Z (N a b c d):OLe (@j0T (j0f N) a b c d) (j0T a b c d):=by
 unfold j0T
 with_reducible repeat' (first | exact oR _ | exact oN _ | exact jcl N _ _ _ _ _ _ _ _ _ _ _ _ | apply oC | apply oS | refine oB ?_ ?_ | intro _)
theorem jcm (N a b c d):OLe (@j2a (j0f N) a b c d) (j2a a b c d):=OLe.loop N _ fun _=>j9Z N _ _ _ _
theorem jes (N a):OLe (@j35 (j0f N) a) (j35 a):=by
 unfold j35
 with_reducible repeat' (first | exact oR _ | exact oN _ | exact jck N _ _ _ _ _ _ _ | exact jcm N _ _ _ _ | exact j2Z N _ | apply oC | apply oS | refine oB ?_ ?_ | intro _)
theorem jcn (N a b c d e):OLe (@j2b (j0f N) a b c d e) (j2b a b c d e):=OLe.loop N _ fun _=>oR _
theorem ja0 (N a):OLe (@j1N (j0f N) a) (j1N a):=by
 unfold j1N
 with_reducible repeat' (first | exact oR _ | exact oN _ | exact jes N _ | exact jcn N _ _ _ _ _ | apply oC | apply oS | refine oB ?_ ?_ | intro _)
theorem jkW (N a):OLe (@j6x (j0f N) a) (j6x a):=by
 unfold j6x
 with_reducible repeat' (first | exact oR _ | exact oN _ | exact ja0 N _ | apply oC | apply oS | refine oB ?_ ?_ | intro _)
theorem j3Y (N a b c):OLe (@j0i (j0f N) a b c) (j0i a b c):=OLe.loop N _ fun _=>oR _
theorem j4o (N a):OLe (@j0q (j0f N) a) (j0q a):=by
 unfold j0q
 with_reducible repeat' (first | exact oR _ | exact oN _ | exact j3Y N _ _ _ | apply oC | apply oS | refine oB ?_ ?_ | intro _)
theorem j3Z (N a):OLe (@j0j (j0f N) a) (j0j a):=by
 unfold j0j
 with_reducible repeat' (first | exact oR _ | exact oN _ | exact j4o N _ | apply oC | apply oS | refine oB ?_ ?_ | intro _)
theorem jdw (N a):OLe (@j2g (j0f N) a) (j2g a):=by
 unfold j2g
 with_reducible repeat' (first | exact oR _ | exact oN _ | exact jkW N _ | exact j3Z N _ | apply oC | apply oS | refine oB ?_ ?_ | intro _)
theorem j76 (N a b c d):OLe (@j0A (j0f N) a b c d) (j0A a b c d):=by
 unfold j0A
 with_reducible repeat' (first | exact oR _ | exact oN _ | exact j5u N _ _ | exact jdw N _ | apply oC | apply oS | refine oB ?_ ?_ | intro _)
theorem j99 (N a b c d):OLe (@j19 (j0f N) a b c d) (j19 a b c d):=OLe.loop N _ fun _=>j76 N _ _ _ _
theorem jaN (N a):OLe (@j1z (j0f N) a) (j1z a):=by
 unfold j1z
 with_reducible repeat' (first | exact oR _ | exact oN _ | exact j99 N _ _ _ _ | apply oC | apply oS | refine oB ?_ ?_ | intro _)
theorem jgQ (N a b c d):OLe (@j5z (j0f N) a b c d) (j5z a b c d):=OLe.loop N _ fun _=>oR _
theorem jfu (N a):OLe (@j6y (j0f N) a) (j6y a):=by
 unfold j6y
 with_reducible repeat' (first | exact oR _ | exact oN _ | exact jgQ N _ _ _ _ | apply oC | apply oS | refine oB ?_ ?_ | intro _)
theorem jco (N a b):OLe (@j1n (j0f N) a b) (j1n a b):=by
 unfold j1n
 with_reducible repeat' (first | exact oR _ | exact oN _ | exact jfu N _ | apply oC | apply oS | refine oB ?_ ?_ | intro _)
theorem jgR (N a b):OLe (@jbB (j0f N) a b) (jbB a b):=OLe.loop N _ fun _=>oR _
theorem jkX (N a):OLe (@jb3 (j0f N) a) (jb3 a):=by
 unfold jb3
 with_reducible repeat' (first | exact oR _ | exact oN _ | exact jgR N _ _ | apply oC | apply oS | refine oB ?_ ?_ | intro _)
theorem jfv (N a b c d e f g):OLe (@j9m (j0f N) a b c d e f g) (j9m a b c d e f g):=OLe.loop N _ fun _=>oR _
theorem jiq (N a):OLe (@j6z (j0f N) a) (j6z a):=by
 unfold j6z
 with_reducible repeat' (first | exact oR _ | exact oN _ | exact jkX N _ | exact jfv N _ _ _ _ _ _ _ | apply oC | apply oS | refine oB ?_ ?_ | intro _)
theorem j7V (N a):OLe (@j1o (j0f N) a) (j1o a):=by
 unfold j1o
 with_reducible repeat' (first | exact oR _ | exact oN _ | exact jiq N _ | apply oC | apply oS | refine oB ?_ ?_ | intro _)
theorem ja1 (N a):OLe (@j1D (j0f N) a) (j1D a):=by
 unfold j1D
 with_reducible repeat' (first | exact oR _ | exact oN _ | exact j7V N _ | apply oC | apply oS | refine oB ?_ ?_ | intro _)
theorem j6u (N a b c):OLe (@j0s (j0f N) a b c) (j0s a b c):=by
 unfold j0s
 with_reducible repeat' (first | exact oR _ | exact oN _ | exact ja1 N _ | apply oC | apply oS | refine oB ?_ ?_ | intro _)
theorem j8j (N a b c):OLe (@j1d (j0f N) a b c) (j1d a b c):=OLe.loop N _ fun _=>j6u N _ _ _
theorem ja2 (N a):OLe (@j1E (j0f N) a) (j1E a):=by
 unfold j1E
 with_reducible repeat' (first | exact oR _ | exact oN _ | exact j8j N _ _ _ | apply oC | apply oS | refine oB ?_ ?_ | intro _)
theorem j8k (N a):OLe (@j1e (j0f N) a) (j1e a):=by
 unfold j1e
 with_reducible repeat' (first | exact oR _ | exact oN _ | exact ja2 N _ | apply oC | apply oS | refine oB ?_ ?_ | intro _)
theorem ja3 (N a b c d e):OLe (@j1F (j0f N) a b c d e) (j1F a b c d e):=OLe.loop N _ fun _=>oR _
theorem jbe (N a b):OLe (@j1h (j0f N) a b) (j1h a b):=by
 unfold j1h
 with_reducible repeat' (first | exact oR _ | exact oN _ | exact j8k N _ | exact ja3 N _ _ _ _ _ | apply oC | apply oS | refine oB ?_ ?_ | intro _)
theorem jet (N a b c d e):OLe (@j3G (j0f N) a b c d e) (j3G a b c d e):=by
 unfold j3G
 with_reducible repeat' (first | exact oR _ | exact oN _ | exact jbe N _ _ | apply oC | apply oS | refine oB ?_ ?_ | intro _)
theorem j65 (N a b c d e f g h):OLe (@j0o (j0f N) a b c d e f g h) (j0o a b c d e f g h):=by
 unfold j0o
 with_reducible repeat' (first | exact oR _ | exact oN _ | exact j5u N _ _ | exact jet N _ _ _ _ _ | apply oC | apply oS | refine oB ?_ ?_ | intro _)
theorem j7d (N a b c d e f g h):OLe (@j0L (j0f N) a b c d e f g h) (j0L a b c d e f g h):=OLe.loop N _ fun _=>j65 N _ _ _ _ _ _ _ _
theorem j8J (N a b c d e):OLe (@j12 (j0f N) a b c d e) (j12 a b c d e):=by
 unfold j12
 with_reducible repeat' (first | exact oR _ | exact oN _ | exact j7d N _ _ _ _ _ _ _ _ | apply oC | apply oS | refine oB ?_ ?_ | intro _)
theorem j77 (N a b c d e f g):OLe (@j0U (j0f N) a b c d e f g) (j0U a b c d e f g):=OLe.loop N _ fun _=>oR _
theorem j8l (N a b c d e):OLe (@j1f (j0f N) a b c d e) (j1f a b c d e):=by
 unfold j1f
 with_reducible repeat' (first | exact oR _ | exact oN _ | exact j77 N _ _ _ _ _ _ _ | apply oC | apply oS | refine oB ?_ ?_ | intro _)
theorem j78 (N a b c d e):OLe (@j0V (j0f N) a b c d e) (j0V a b c d e):=by
 unfold j0V
 with_reducible repeat' (first | exact oR _ | exact oN _ | exact j8l N _ _ _ _ _ | apply oC | apply oS | refine oB ?_ ?_ | intro _)
theorem jd5 (N a b):OLe (@j24 (j0f N) a b) (j24 a b):=by
 unfold j24
 with_reducible repeat' (first | exact oR _ | exact oN _ | exact j7V N _ | exact j78 N _ _ _ _ _ | exact jfu N _ | apply oC | apply oS | refine oB ?_ ?_ | intro _)
theorem ja4 (N a b c d e):OLe (@j1G (j0f N) a b c d e) (j1G a b c d e):=by
 unfold j1G
 with_reducible repeat' (first | exact oR _ | exact oN _ | exact jd5 N _ _ | apply oC | apply oS | refine oB ?_ ?_ | intro _)
theorem j6F (N a b c d e f g h):OLe (@j0w (j0f N) a b c d e f g h) (j0w a b c d e f g h):=by
 unfold j0w
 with_reducible repeat' (first | exact oR _ | exact oN _ | exact j5u N _ _ | exact ja4 N _ _ _ _ _ | apply oC | apply oS | refine oB ?_ ?_ | intro _)
theorem j8K (N a b c d e f g h):OLe (@j13 (j0f N) a b c d e f g h) (j13 a b c d e f g h):=OLe.loop N _ fun _=>j6F N _ _ _ _ _ _ _ _
theorem jag (N a b c d e):OLe (@j1p (j0f N) a b c d e) (j1p a b c d e):=by
 unfold j1p
 with_reducible repeat' (first | exact oR _ | exact oN _ | exact j8K N _ _ _ _ _ _ _ _ | apply oC | apply oS | refine oB ?_ ?_ | intro _)
theorem jdx (N a b):OLe (@j2h (j0f N) a b) (j2h a b):=by
 unfold j2h
 with_reducible repeat' (first | exact oR _ | exact oN _ | exact j7V N _ | apply oC | apply oS | refine oB ?_ ?_ | intro _)
theorem j7e (N a b c d e f g):OLe (@j0F (j0f N) a b c d e f g) (j0F a b c d e f g):=by
 unfold j0F
 with_reducible repeat' (first | exact oR _ | exact oN _ | exact jdx N _ _ | apply oC | apply oS | refine oB ?_ ?_ | intro _)
theorem ja5 (N a b c d e f g):OLe (@j1H (j0f N) a b c d e f g) (j1H a b c d e f g):=OLe.loop N _ fun _=>j7e N _ _ _ _ _ _ _
theorem jbf (N a b):OLe (@j1i (j0f N) a b) (j1i a b):=by
 unfold j1i
 with_reducible repeat' (first | exact oR _ | exact oN _ | exact jag N _ _ _ _ _ | exact ja5 N _ _ _ _ _ _ _ | apply oC | apply oS | refine oB ?_ ?_ | intro _)
theorem jeu (N a b c d e):OLe (@j3H (j0f N) a b c d e) (j3H a b c d e):=by
 unfold j3H
 with_reducible repeat' (first | exact oR _ | exact oN _ | exact jbf N _ _ | apply oC | apply oS | refine oB ?_ ?_ | intro _)
theorem j66 (N a b c d e f g h):OLe (@j0p (j0f N) a b c d e f g h) (j0p a b c d e f g h):=by
 unfold j0p
 with_reducible repeat' (first | exact oR _ | exact oN _ | exact j5u N _ _ | exact jeu N _ _ _ _ _ | apply oC | apply oS | refine oB ?_ ?_ | intro _)
theorem j7f (N a b c d e f g h):OLe (@j0M (j0f N) a b c d e f g h) (j0M a b c d e f g h):=OLe.loop N _ fun _=>j66 N _ _ _ _ _ _ _ _
theorem j8L (N a b c d e):OLe (@j1m (j0f N) a b c d e) (j1m a b c d e):=by
 unfold j1m
 with_reducible repeat' (first | exact oR _ | exact oN _ | exact j7f N _ _ _ _ _ _ _ _ | apply oC | apply oS | refine oB ?_ ?_ | intro _)
theorem jbg (N a b c d e f g h):OLe (@j1j (j0f N) a b c d e f g h) (j1j a b c d e f g h):=by
 unfold j1j
 with_reducible repeat' (first | exact oR _ | exact oN _ | exact j5u N _ _ | exact jco N _ _ | apply oC | apply oS | refine oB ?_ ?_ | intro _)
theorem jev (N a b c d e f g h):OLe (@j36 (j0f N) a b c d e f g h) (j36 a b c d e f g h):=OLe.loop N _ fun _=>jbg N _ _ _ _ _ _ _ _
theorem jgS (N a):OLe (@j3M (j0f N) a) (j3M a):=by
 unfold j3M
 with_reducible repeat' (first | exact oR _ | exact oN _ | exact jaN N _ | exact jev N _ _ _ _ _ _ _ _ | exact j8J N _ _ _ _ _ | exact j8L N _ _ _ _ _ | apply oC | apply oS | refine oB ?_ ?_ | intro _)
theorem jp4 (N a):OLe (@jcQ (j0f N) a) (jcQ a):=by
 unfold jcQ
 with_reducible repeat' (first | exact oR _ | exact oN _ | exact ja0 N _ | apply oC | apply oS | refine oB ?_ ?_ | intro _)
theorem jcp (N a b c d):OLe (@j1J (j0f N) a b c d) (j1J a b c d):=by
 unfold j1J
 with_reducible repeat' (first | exact oR _ | exact oN _ | exact jp4 N _ | apply oC | apply oS | refine oB ?_ ?_ | intro _)
theorem jge (N a b c d):OLe (@j41 (j0f N) a b c d) (j41 a b c d):=OLe.loop N _ fun _=>jcp N _ _ _ _
theorem jj1 (N a):OLe (@j7x (j0f N) a) (j7x a):=by
 unfold j7x
 with_reducible repeat' (first | exact oR _ | exact oN _ | exact jge N _ _ _ _ | apply oC | apply oS | refine oB ?_ ?_ | intro _)
theorem jmp (N a):OLe (@j9o (j0f N) a) (j9o a):=by
 unfold j9o
 with_reducible repeat' (first | exact oR _ | exact oN _ | exact jj1 N _ | apply oC | apply oS | refine oB ?_ ?_ | intro _)
theorem jjK (N a):OLe (@jcR (j0f N) a) (jcR a):=by
 unfold jcR
 with_reducible repeat' (first | exact oR _ | exact oN _ | exact jgS N _ | exact jmp N _ | apply oC | apply oS | refine oB ?_ ?_ | intro _)
theorem jj2 (N a b c d):OLe (@j9p (j0f N) a b c d) (j9p a b c d):=by
 unfold j9p
 with_reducible repeat' (first | exact oR _ | exact oN _ | exact jjK N _ | apply oC | apply oS | refine oB ?_ ?_ | intro _)
theorem jgf (N a b c d e):OLe (@j4P (j0f N) a b c d e) (j4P a b c d e):=OLe.loop N _ fun _=>oR _
theorem jj3 (N a b c d):OLe (@j7z (j0f N) a b c d) (j7z a b c d):=by
 unfold j7z
 with_reducible repeat' (first | exact oR _ | exact oN _ | exact jgf N _ _ _ _ _ | apply oC | apply oS | refine oB ?_ ?_ | intro _)
theorem ja6 (N a b):OLe (@j2F (j0f N) a b) (j2F a b):=by
 unfold j2F
 with_reducible repeat' (first | exact oR _ | exact oN _ | exact jj3 N _ _ _ _ | apply oC | apply oS | refine oB ?_ ?_ | intro _)
theorem j9a (N a b c d e):OLe (@j0N (j0f N) a b c d e) (j0N a b c d e):=by
 unfold j0N
 with_reducible repeat' (first | exact oR _ | exact oN _ | exact ja6 N _ _ | apply oC | apply oS | refine oB ?_ ?_ | intro _)
theorem jbX (N a b c d e):OLe (@j21 (j0f N) a b c d e) (j21 a b c d e):=OLe.loop N _ fun _=>j9a N _ _ _ _ _
theorem j67 (N a b c):OLe (@j1R (j0f N) a b c) (j1R a b c):=by
 unfold j1R
 with_reducible repeat' (first | exact oR _ | exact oN _ | exact jbX N _ _ _ _ _ | apply oC | apply oS | refine oB ?_ ?_ | intro _)
theorem jcq (N a b c d e):OLe (@j2c (j0f N) a b c d e) (j2c a b c d e):=OLe.loop N _ fun _=>oR _
theorem jew (N a b):OLe (@j1u (j0f N) a b) (j1u a b):=by
 unfold j1u
 with_reducible repeat' (first | exact oR _ | exact oN _ | exact j67 N _ _ _ | exact jcq N _ _ _ _ _ | apply oC | apply oS | refine oB ?_ ?_ | intro _)
theorem j3y (N a b c):OLe (@j0O (j0f N) a b c) (j0O a b c):=by
 unfold j0O
 with_reducible repeat' (first | exact oR _ | exact oN _ | exact jew N _ _ | apply oC | apply oS | refine oB ?_ ?_ | intro _)
theorem j52 (N a b c):OLe (@j22 (j0f N) a b c) (j22 a b c):=OLe.loop N _ fun _=>oR _
theorem j68 (N a):OLe (@j10 (j0f N) a) (j10 a):=by
 unfold j10
 with_reducible repeat' (first | exact oR _ | exact oN _ | exact j52 N _ _ _ | apply oC | apply oS | refine oB ?_ ?_ | intro _)
theorem j4U (N a b c):OLe (@j1S (j0f N) a b c) (j1S a b c):=OLe.loop N _ fun _=>oR _
theorem j5J (N a):OLe (@j0R (j0f N) a) (j0R a):=by
 unfold j0R
 with_reducible repeat' (first | exact oR _ | exact oN _ | exact j68 N _ | exact j4U N _ _ _ | apply oC | apply oS | refine oB ?_ ?_ | intro _)
theorem jgT (N a b c d):OLe (@jbE (j0f N) a b c d) (jbE a b c d):=OLe.loop N _ fun _=>oR _
theorem j9b (N a):OLe (@j6A (j0f N) a) (j6A a):=by
 unfold j6A
 with_reducible repeat' (first | exact oR _ | exact oN _ | exact j5J N _ | exact jgT N _ _ _ _ | apply oC | apply oS | refine oB ?_ ?_ | intro _)
theorem jfw (N a b c d e f g h i j k l):OLe (@j9q (j0f N) a b c d e f g h i j k l) (j9q a b c d e f g h i j k l):=OLe.loop N _ fun _=>oR _
theorem jbY (N a b c d e f g h i):OLe (@j3b (j0f N) a b c d e f g h i) (j3b a b c d e f g h i):=by
 unfold j3b
 with_reducible repeat' (first | exact oR _ | exact oN _ | exact jfw N _ _ _ _ _ _ _ _ _ _ _ _ | apply oC | apply oS | refine oB ?_ ?_ | intro _)
theorem jfx (N a b c d e f g h i):OLe (@j9r (j0f N) a b c d e f g h i) (j9r a b c d e f g h i):=OLe.loop N _ fun _=>jbY N _ _ _ _ _ _ _ _ _
theorem jbZ (N a b c d e):OLe (@j3c (j0f N) a b c d e) (j3c a b c d e):=by
 unfold j3c
 with_reducible repeat' (first | exact oR _ | exact oN _ | exact jfx N _ _ _ _ _ _ _ _ _ | apply oC | apply oS | refine oB ?_ ?_ | intro _)
theorem jfy (N a b c d e):OLe (@j9s (j0f N) a b c d e) (j9s a b c d e):=OLe.loop N _ fun _=>jbZ N _ _ _ _ _
theorem jir (N a b c d):OLe (@j81 (j0f N) a b c d) (j81 a b c d):=by
 unfold j81
 with_reducible repeat' (first | exact oR _ | exact oN _ | exact j67 N _ _ _ | exact jfy N _ _ _ _ _ | exact j9b N _ | apply oC | apply oS | refine oB ?_ ?_ | intro _)
theorem jdy (N a b c d e f g h i j k l m):OLe (@j7A (j0f N) a b c d e f g h i j k l m) (j7A a b c d e f g h i j k l m):=OLe.loop N _ fun _=>oR _
theorem jaO (N a b c d e f g):OLe (@j2H (j0f N) a b c d e f g) (j2H a b c d e f g):=by
 unfold j2H
 with_reducible repeat' (first | exact oR _ | exact oN _ | exact jdy N _ _ _ _ _ _ _ _ _ _ _ _ _ | apply oC | apply oS | refine oB ?_ ?_ | intro _)
theorem jdz (N a b c d e f g):OLe (@j7B (j0f N) a b c d e f g) (j7B a b c d e f g):=OLe.loop N _ fun _=>jaO N _ _ _ _ _ _ _
theorem jgg (N a b c d):OLe (@j3p (j0f N) a b c d) (j3p a b c d):=by
 unfold j3p
 with_reducible repeat' (first | exact oR _ | exact oN _ | exact j67 N _ _ _ | exact jdz N _ _ _ _ _ _ _ | exact j9b N _ | apply oC | apply oS | refine oB ?_ ?_ | intro _)
theorem jfz (N a b c d e f g h):OLe (@j9t (j0f N) a b c d e f g h) (j9t a b c d e f g h):=OLe.loop N _ fun _=>oR _
theorem jfA (N a b c d e f g h i j):OLe (@j9u (j0f N) a b c d e f g h i j) (j9u a b c d e f g h i j):=OLe.loop N _ fun _=>oR _
theorem jc0 (N a b c d e f):OLe (@j3d (j0f N) a b c d e f) (j3d a b c d e f):=by
 unfold j3d
 with_reducible repeat' (first | exact oR _ | exact oN _ | exact jfz N _ _ _ _ _ _ _ _ | exact jfA N _ _ _ _ _ _ _ _ _ _ | apply oC | apply oS | refine oB ?_ ?_ | intro _)
theorem jfB (N a b c d e f):OLe (@j9v (j0f N) a b c d e f) (j9v a b c d e f):=OLe.loop N _ fun _=>jc0 N _ _ _ _ _ _
theorem ja7 (N a b):OLe (@j3N (j0f N) a b) (j3N a b):=by
 unfold j3N
 with_reducible repeat' (first | exact oR _ | exact oN _ | exact jfB N _ _ _ _ _ _ | apply oC | apply oS | refine oB ?_ ?_ | intro _)
theorem jgh (N a b c d e):OLe (@jay (j0f N) a b c d e) (jay a b c d e):=OLe.loop N _ fun _=>oR _
theorem jj4 (N a b):OLe (@j7C (j0f N) a b) (j7C a b):=by
 unfold j7C
 with_reducible repeat' (first | exact oR _ | exact oN _ | exact jgh N _ _ _ _ _ | apply oC | apply oS | refine oB ?_ ?_ | intro _)
theorem jfC (N a b c d):OLe (@j5d (j0f N) a b c d) (j5d a b c d):=by
 unfold j5d
 with_reducible repeat' (first | exact oR _ | exact oN _ | exact j3y N _ _ _ | exact jir N _ _ _ _ | exact jgg N _ _ _ _ | exact ja7 N _ _ | exact jj4 N _ _ | apply oC | apply oS | refine oB ?_ ?_ | intro _)
theorem jdA (N a b):OLe (@j2K (j0f N) a b) (j2K a b):=by
 unfold j2K
 with_reducible repeat' (first | exact oR _ | exact oN _ | exact ja6 N _ _ | apply oC | apply oS | refine oB ?_ ?_ | intro _)
theorem ja8 (N a b):OLe (@j0y (j0f N) a b) (j0y a b):=by
 unfold j0y
 with_reducible repeat' (first | exact oR _ | exact oN _ | exact jdA N _ _ | apply oC | apply oS | refine oB ?_ ?_ | intro _)
theorem jbh (N a b c d e f g h i j k l m n):OLe (@j1k (j0f N) a b c d e f g h i j k l m n) (j1k a b c d e f g h i j k l m n):=by
 unfold j1k
 with_reducible repeat' (first | exact oR _ | exact oN _ | exact j3y N _ _ _ | apply oC | apply oS | refine oB ?_ ?_ | intro _)
theorem jex (N a b c d e f g h i j k l m n):OLe (@j3I (j0f N) a b c d e f g h i j k l m n) (j3I a b c d e f g h i j k l m n):=OLe.loop N _ fun _=>jbh N _ _ _ _ _ _ _ _ _ _ _ _ _ _
theorem jbi (N a b c d e f g h i j k l m n):OLe (@j1K (j0f N) a b c d e f g h i j k l m n) (j1K a b c d e f g h i j k l m n):=by
 unfold j1K
 with_reducible repeat' (first | exact oR _ | exact oN _ | exact j3y N _ _ _ | apply oC | apply oS | refine oB ?_ ?_ | intro _)
theorem jey (N a b c d e f g h i j k l m n):OLe (@j3J (j0f N) a b c d e f g h i j k l m n) (j3J a b c d e f g h i j k l m n):=OLe.loop N _ fun _=>jbi N _ _ _ _ _ _ _ _ _ _ _ _ _ _
theorem jcc (N a b c):OLe (@j1T (j0f N) a b c) (j1T a b c):=by
 unfold j1T
 with_reducible repeat' (first | exact oR _ | exact oN _ | exact j3y N _ _ _ | exact ja8 N _ _ | exact jex N _ _ _ _ _ _ _ _ _ _ _ _ _ _ | exact jey N _ _ _ _ _ _ _ _ _ _ _ _ _ _ | apply oC | apply oS | refine oB ?_ ?_ | intro _)
theorem jgU (N a b c d):OLe (@jbF (j0f N) a b c d) (jbF a b c d):=OLe.loop N _ fun _=>oR _
theorem jfD (N a):OLe (@j9e (j0f N) a) (j9e a):=by
 unfold j9e
 with_reducible repeat' (first | exact oR _ | exact oN _ | exact jgU N _ _ _ _ | apply oC | apply oS | refine oB ?_ ?_ | intro _)
theorem j8M (N a b c d e f g h i j k l m n o p q r s t u v):OLe (@j1Z (j0f N) a b c d e f g h i j k l m n o p q r s t u v) (j1Z a b c d e f g h i j k l m n o p q r s t u v):=by
 unfold j1Z
 with_reducible repeat' (first | exact oR _ | exact oN _ | exact jcc N _ _ _ | exact j3y N _ _ _ | apply oC | apply oS | refine oB ?_ ?_ | intro _)
theorem jbj (N a b c d e f g h i j k l m n o p q r s t u v):OLe (@j5e (j0f N) a b c d e f g h i j k l m n o p q r s t u v) (j5e a b c d e f g h i j k l m n o p q r s t u v):=OLe.loop N _ fun _=>j8M N _ _ _ _ _ _ _ _ _ _ _ _ _ _ _ _ _ _ _ _ _ _
theorem j8N (N a b c d e f g h i j k l m n o p q r s t):OLe (@j20 (j0f N) a b c d e f g h i j k l m n o p q r s t) (j20 a b c d e f g h i j k l m n o p q r s t):=by
 unfold j20
 with_reducible repeat' (first | exact oR _ | exact oN _ | exact jbj N _ _ _ _ _ _ _ _ _ _ _ _ _ _ _ _ _ _ _ _ _ _ | apply oC | apply oS | refine oB ?_ ?_ | intro _)
theorem jbk (N a b c d e f g h i j k l m n o p q r s t):OLe (@j5f (j0f N) a b c d e f g h i j k l m n o p q r s t) (j5f a b c d e f g h i j k l m n o p q r s t):=OLe.loop N _ fun _=>j8N N _ _ _ _ _ _ _ _ _ _ _ _ _ _ _ _ _ _ _ _
theorem jd6 (N a b c d):OLe (@j3O (j0f N) a b c d) (j3O a b c d):=by
 unfold j3O
 with_reducible repeat' (first | exact oR _ | exact oN _ | exact jfC N _ _ _ _ | exact jbk N _ _ _ _ _ _ _ _ _ _ _ _ _ _ _ _ _ _ _ _ | exact jfD N _ | apply oC | apply oS | refine oB ?_ ?_ | intro _)
theorem jfE (N a b c d e):OLe (@j9y (j0f N) a b c d e) (j9y a b c d e):=OLe.loop N _ fun _=>oR _
theorem jis (N a b):OLe (@j82 (j0f N) a b) (j82 a b):=by
 unfold j82
 with_reducible repeat' (first | exact oR _ | exact oN _ | exact jfE N _ _ _ _ _ | exact j9b N _ | apply oC | apply oS | refine oB ?_ ?_ | intro _)
theorem jez (N a b c d e f g h i j k l m n):OLe (@j6h (j0f N) a b c d e f g h i j k l m n) (j6h a b c d e f g h i j k l m n):=OLe.loop N _ fun _=>oR _
theorem jbl (N a b c d e f g h):OLe (@j2T (j0f N) a b c d e f g h) (j2T a b c d e f g h):=by
 unfold j2T
 with_reducible repeat' (first | exact oR _ | exact oN _ | exact jis N _ _ | exact ja7 N _ _ | exact jez N _ _ _ _ _ _ _ _ _ _ _ _ _ _ | apply oC | apply oS | refine oB ?_ ?_ | intro _)
theorem jeA (N a b c d e f g h):OLe (@j8v (j0f N) a b c d e f g h) (j8v a b c d e f g h):=OLe.loop N _ fun _=>jbl N _ _ _ _ _ _ _ _
theorem jgV (N a b):OLe (@j6P (j0f N) a b) (j6P a b):=by
 unfold j6P
 with_reducible repeat' (first | exact oR _ | exact oN _ | exact jeA N _ _ _ _ _ _ _ _ | apply oC | apply oS | refine oB ?_ ?_ | intro _)
theorem jfF (N a b c d e):OLe (@j9z (j0f N) a b c d e) (j9z a b c d e):=OLe.loop N _ fun _=>oR _
theorem jit (N a b):OLe (@j84 (j0f N) a b) (j84 a b):=by
 unfold j84
 with_reducible repeat' (first | exact oR _ | exact oN _ | exact jfF N _ _ _ _ _ | apply oC | apply oS | refine oB ?_ ?_ | intro _)
theorem jgi (N a b c d):OLe (@jaz (j0f N) a b c d) (jaz a b c d):=OLe.loop N _ fun _=>oR _
theorem jj5 (N a):OLe (@j9B (j0f N) a) (j9B a):=by
 unfold j9B
 with_reducible repeat' (first | exact oR _ | exact oN _ | exact jgi N _ _ _ _ | exact j9b N _ | apply oC | apply oS | refine oB ?_ ?_ | intro _)
theorem ja9 (N a b c d e f g h i j k l m n):OLe (@j2i (j0f N) a b c d e f g h i j k l m n) (j2i a b c d e f g h i j k l m n):=by
 unfold j2i
 with_reducible repeat' (first | exact oR _ | exact oN _ | exact jd6 N _ _ _ _ | exact jgV N _ _ | exact jit N _ _ | exact jj5 N _ | exact ja7 N _ _ | apply oC | apply oS | refine oB ?_ ?_ | intro _)
theorem jcr (N a b c d e f g h i j k l m n):OLe (@j6n (j0f N) a b c d e f g h i j k l m n) (j6n a b c d e f g h i j k l m n):=OLe.loop N _ fun _=>ja9 N _ _ _ _ _ _ _ _ _ _ _ _ _ _
theorem jcs (N a b c d):OLe (@j6o (j0f N) a b c d) (j6o a b c d):=OLe.loop N _ fun _=>oR _
theorem jeB (N a b c d):OLe (@j4H (j0f N) a b c d) (j4H a b c d):=by
 unfold j4H
 with_reducible repeat' (first | exact oR _ | exact oN _ | exact jcr N _ _ _ _ _ _ _ _ _ _ _ _ _ _ | exact jcs N _ _ _ _ | exact jfD N _ | apply oC | apply oS | refine oB ?_ ?_ | intro _)
theorem jgj (N a b c d):OLe (@j6b (j0f N) a b c d) (j6b a b c d):=by
 unfold j6b
 with_reducible repeat' (first | exact oR _ | exact oN _ | exact jj2 N _ _ _ _ | exact jeB N _ _ _ _ | apply oC | apply oS | refine oB ?_ ?_ | intro _)
theorem jfG (N a b):OLe (@j6C (j0f N) a b) (j6C a b):=by
 unfold j6C
 with_reducible repeat' (first | exact oR _ | exact oN _ | exact jjK N _ | apply oC | apply oS | refine oB ?_ ?_ | intro _)
theorem jj6 (N a b c d):OLe (@j7D (j0f N) a b c d) (j7D a b c d):=OLe.loop N _ fun _=>oR _
theorem jnp (N a b):OLe (@jbG (j0f N) a b) (jbG a b):=by
 unfold jbG
 with_reducible repeat' (first | exact oR _ | exact oN _ | exact jj6 N _ _ _ _ | apply oC | apply oS | refine oB ?_ ?_ | intro _)
theorem j79 (N a b c d e):OLe (@j0W (j0f N) a b c d e) (j0W a b c d e):=OLe.loop N _ fun _=>oR _
theorem j8m (N a b):OLe (@j0B (j0f N) a b) (j0B a b):=by
 unfold j0B
 with_reducible repeat' (first | exact oR _ | exact oN _ | exact j79 N _ _ _ _ _ | apply oC | apply oS | refine oB ?_ ?_ | intro _)
theorem jiu (N a b c):OLe (@j3q (j0f N) a b c) (j3q a b c):=by
 unfold j3q
 with_reducible repeat' (first | exact oR _ | exact oN _ | exact jcc N _ _ _ | exact ja8 N _ _ | exact jnp N _ _ | exact j8m N _ _ | apply oC | apply oS | refine oB ?_ ?_ | intro _)
theorem jeC (N a b c):OLe (@j1c (j0f N) a b c) (j1c a b c):=by
 unfold j1c
 with_reducible repeat' (first | exact oR _ | exact oN _ | exact jiu N _ _ _ | apply oC | apply oS | refine oB ?_ ?_ | intro _)
theorem j53 (N a b c d e):OLe (@j0r (j0f N) a b c d e) (j0r a b c d e):=OLe.loop N _ fun _=>oR _
theorem j69 (N a b c):OLe (@j0J (j0f N) a b c) (j0J a b c):=by
 unfold j0J
 with_reducible repeat' (first | exact oR _ | exact oN _ | exact j53 N _ _ _ _ _ | apply oC | apply oS | refine oB ?_ ?_ | intro _)
theorem j54 (N a b c):OLe (@j0C (j0f N) a b c) (j0C a b c):=by
 unfold j0C
 with_reducible repeat' (first | exact oR _ | exact oN _ | exact j69 N _ _ _ | apply oC | apply oS | refine oB ?_ ?_ | intro _)
theorem jfH (N a b c):OLe (@j6D (j0f N) a b c) (j6D a b c):=by
 unfold j6D
 with_reducible repeat' (first | exact oR _ | exact oN _ | exact j54 N _ _ _ | apply oC | apply oS | refine oB ?_ ?_ | intro _)
theorem jbm (N a b c d e f g h i j k l m):OLe (@j1l (j0f N) a b c d e f g h i j k l m) (j1l a b c d e f g h i j k l m):=by
 unfold j1l
 with_reducible repeat' (first | exact oR _ | exact oN _ | exact jeC N _ _ _ | exact jfH N _ _ _ | apply oC | apply oS | refine oB ?_ ?_ | intro _)
theorem jeD (N a b c d e f g h i j k l m):OLe (@j37 (j0f N) a b c d e f g h i j k l m) (j37 a b c d e f g h i j k l m):=OLe.loop N _ fun _=>jbm N _ _ _ _ _ _ _ _ _ _ _ _ _
theorem jcd (N a b c):OLe (@j2R (j0f N) a b c) (j2R a b c):=by
 unfold j2R
 with_reducible repeat' (first | exact oR _ | exact oN _ | exact jeD N _ _ _ _ _ _ _ _ _ _ _ _ _ | apply oC | apply oS | refine oB ?_ ?_ | intro _)
theorem jmq (N a b c):OLe (@j4J (j0f N) a b c) (j4J a b c):=by
 unfold j4J
 with_reducible repeat' (first | exact oR _ | exact oN _ | exact jfG N _ _ | exact jcd N _ _ _ | apply oC | apply oS | refine oB ?_ ?_ | intro _)
theorem jj7 (N a b c):OLe (@j5g (j0f N) a b c) (j5g a b c):=by
 unfold j5g
 with_reducible repeat' (first | exact oR _ | exact oN _ | exact jfG N _ _ | exact jcd N _ _ _ | apply oC | apply oS | refine oB ?_ ?_ | intro _)
theorem jkY (N):OLe (@j7E (j0f N) ) (j7E ):=by
 unfold j7E
 with_reducible repeat' (first | exact oR _ | exact oN _ | exact jgj N _ _ _ _ | exact jmq N _ _ _ | exact jj7 N _ _ _ | exact jfH N _ _ _ | apply oC | apply oS | refine oB ?_ ?_ | intro _)
abbrev jkZ (N:Nat):=@j1o (j0f N)
end
end Go.Proofs.Pw
