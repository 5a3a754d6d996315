/- Twins with a bound on their rounds, printed by a program. -/
import Derived.Test.YtpbnnhakjhalaaaGreatESFns
import Derived.Test.YtpbnnhakjhalaaaGreatESLD
import Derived.KernelRfl
open Go Go.Lft
set_option linter.unusedVariables false
set_option maxRecDepth 100000
namespace Go.Proofs.Pw
noncomputable section
theorem jfe (N a b c):OLe (@jaF (j0B N) a b c) (jaF a b c):=OLe.loop N _ fun _=>oR _
theorem j6O (N a):OLe (@j5t (j0B N) a) (j5t a):=by
 unfold j5t
 with_reducible repeat' (first | exact oR _ | exact oN _ | exact jfe N _ _ _ | apply oC | apply oS | refine oB ?_ ?_ | intro _)
theorem j5q (N a b):OLe (@j2N (j0B N) a b) (j2N a b):=by
 unfold j2N
 with_reducible repeat' (first | exact oR _ | exact oN _ | exact j6O N _ | apply oC | apply oS | refine oB ?_ ?_ | intro _)
theorem jed (N a b c d e):OLe (@j46 (j0B N) a b c d e) (j46 a b c d e):=OLe.loop N _ fun _=>oR _
theorem jgI (N a):OLe (@j54 (j0B N) a) (j54 a):=by
 unfold j54
 with_reducible repeat' (first | exact oR _ | exact oN _ | exact jed N _ _ _ _ _ | apply oC | apply oS | refine oB ?_ ?_ | intro _)
theorem jky (N a b c d):OLe (@j8H (j0B N) a b c d) (j8H a b c d):=by
 unfold j8H
 with_reducible repeat' (first | exact oR _ | exact oN _ | exact jgI N _ | apply oC | apply oS | refine oB ?_ ?_ | intro _)
theorem j3v (N a b c d e):OLe (@j0e (j0B N) a b c d e) (j0e a b c d e):=OLe.loop N _ fun _=>oR _
theorem j37 (N a b c d):OLe (@j06 (j0B N) a b c d) (j06 a b c d):=by
 unfold j06
 with_reducible repeat' (first | exact oR _ | exact oN _ | exact j3v N _ _ _ _ _ | apply oC | apply oS | refine oB ?_ ?_ | intro _)
theorem j3w (N a b c d):OLe (@j0f (j0B N) a b c d) (j0f a b c d):=OLe.loop N _ fun _=>j37 N _ _ _ _
theorem j23 (N a b c):OLe (@j0a (j0B N) a b c) (j0a a b c):=by
 unfold j0a
 with_reducible repeat' (first | exact oR _ | exact oN _ | exact j3w N _ _ _ _ | apply oC | apply oS | refine oB ?_ ?_ | intro _)
theorem j3U (N a b c d e):OLe (@j0c (j0B N) a b c d e) (j0c a b c d e):=by
 unfold j0c
 with_reducible repeat' (first | exact oR _ | exact oN _ | exact j23 N _ _ _ | apply oC | apply oS | refine oB ?_ ?_ | intro _)
theorem j4D (N a b c d e):OLe (@j0v (j0B N) a b c d e) (j0v a b c d e):=OLe.loop N _ fun _=>j3U N _ _ _ _ _
theorem j4E (N a b c d e):OLe (@j1I (j0B N) a b c d e) (j1I a b c d e):=OLe.loop N _ fun _=>oR _
theorem j3V (N a b c):OLe (@j0d (j0B N) a b c) (j0d a b c):=by
 unfold j0d
 with_reducible repeat' (first | exact oR _ | exact oN _ | exact j4E N _ _ _ _ _ | apply oC | apply oS | refine oB ?_ ?_ | intro _)
theorem j4F (N a b c):OLe (@j0w (j0B N) a b c) (j0w a b c):=OLe.loop N _ fun _=>j3V N _ _ _
theorem j5r (N a b):OLe (@j0I (j0B N) a b) (j0I a b):=by
 unfold j0I
 with_reducible repeat' (first | exact oR _ | exact oN _ | exact j4D N _ _ _ _ _ | exact j23 N _ _ _ | exact j4F N _ _ _ | apply oC | apply oS | refine oB ?_ ?_ | intro _)
theorem j2S (N a):OLe (@j07 (j0B N) a) (j07 a):=by
 unfold j07
 with_reducible repeat' (first | exact oR _ | exact oN _ | exact j5r N _ _ | apply oC | apply oS | refine oB ?_ ?_ | intro _)
theorem jbe (N a b c d e f g):OLe (@j24 (j0B N) a b c d e f g) (j24 a b c d e f g):=OLe.loop N _ fun _=>oR _
theorem j99 (N a b c d e f g h i j k l):OLe (@j0Q (j0B N) a b c d e f g h i j k l) (j0Q a b c d e f g h i j k l):=by
 unfold j0Q
 with_reducible repeat' (first | exact oR _ | exact oN _ | exact jky N _ _ _ _ | apply oC | apply oS | refine oB ?_ ?_ | intro _)
theorem jbf (N a b c d e f g h i j k l):OLe (@j2E (j0B N) a b c d e f g h i j k l) (j2E a b c d e f g h i j k l):=OLe.loop N _ fun _=>j99 N _ _ _ _ _ _ _ _ _ _ _ _
theorem j9a (N a b c d):OLe (@j0R (j0B N) a b c d) (j0R a b c d):=by
 unfold j0R
 with_reducible repeat' (first | exact oR _ | exact oN _ | exact jbf N _ _ _ _ _ _ _ _ _ _ _ _ | apply oC | apply oS | refine oB ?_ ?_ | intro _)
theorem jbg (N a b c d):OLe (@j25 (j0B N) a b c d) (j25 a b c d):=OLe.loop N _ fun _=>j9a N _ _ _ _
theorem jdj (N a):OLe (@j30 (j0B N) a) (j30 a):=by
 unfold j30
 with_reducible repeat' (first | exact oR _ | exact oN _ | exact jbe N _ _ _ _ _ _ _ | exact jbg N _ _ _ _ | exact j2S N _ | apply oC | apply oS | refine oB ?_ ?_ | intro _)
theorem jbh (N a b c d e):OLe (@j26 (j0B N) a b c d e) (j26 a b c d e):=OLe.loop N _ fun _=>oR _
theorem j9b (N a):OLe (@j1M (j0B N) a) (j1M a):=by
 unfold j1M
 with_reducible repeat' (first | exact oR _ | exact oN _ | exact jdj N _ | exact jbh N _ _ _ _ _ | apply oC | apply oS | refine oB ?_ ?_ | intro _)
theorem jj6 (N a):OLe (@j6k (j0B N) a) (j6k a):=by
 unfold j6k
 with_reducible repeat' (first | exact oR _ | exact oN _ | exact j9b N _ | apply oC | apply oS | refine oB ?_ ?_ | intro _)
theorem j3M (N a b c):OLe (@j0g (j0B N) a b c) (j0g a b c):=OLe.loop N _ fun _=>oR _
theorem j4j (N a):OLe (@j0p (j0B N) a) (j0p a):=by
 unfold j0p
 with_reducible repeat' (first | exact oR _ | exact oN _ | exact j3M N _ _ _ | apply oC | apply oS | refine oB ?_ ?_ | intro _)
theorem j3N (N a):OLe (@j0h (j0B N) a) (j0h a):=by
 unfold j0h
 with_reducible repeat' (first | exact oR _ | exact oN _ | exact j4j N _ | apply oC | apply oS | refine oB ?_ ?_ | intro _)
theorem jcn (N a):OLe (@j2d (j0B N) a) (j2d a):=by
 unfold j2d
 with_reducible repeat' (first | exact oR _ | exact oN _ | exact jj6 N _ | exact j3N N _ | apply oC | apply oS | refine oB ?_ ?_ | intro _)
theorem j6P (N a b c d):OLe (@j0A (j0B N) a b c d) (j0A a b c d):=by
 unfold j0A
 with_reducible repeat' (first | exact oR _ | exact oN _ | exact j5q N _ _ | exact jcn N _ | apply oC | apply oS | refine oB ?_ ?_ | intro _)
theorem j8y (N a b c d):OLe (@j14 (j0B N) a b c d) (j14 a b c d):=OLe.loop N _ fun _=>j6P N _ _ _ _
theorem j9T (N a):OLe (@j1A (j0B N) a) (j1A a):=by
 unfold j1A
 with_reducible repeat' (first | exact oR _ | exact oN _ | exact j8y N _ _ _ _ | apply oC | apply oS | refine oB ?_ ?_ | intro _)
theorem jff (N a b c d):OLe (@j5v (j0B N) a b c d) (j5v a b c d):=OLe.loop N _ fun _=>oR _
theorem jee (N a):OLe (@j6l (j0B N) a) (j6l a):=by
 unfold j6l
 with_reducible repeat' (first | exact oR _ | exact oN _ | exact jff N _ _ _ _ | apply oC | apply oS | refine oB ?_ ?_ | intro _)
theorem jbi (N a b):OLe (@j1p (j0B N) a b) (j1p a b):=by
 unfold j1p
 with_reducible repeat' (first | exact oR _ | exact oN _ | exact jee N _ | apply oC | apply oS | refine oB ?_ ?_ | intro _)
theorem jfg (N a b):OLe (@jaG (j0B N) a b) (jaG a b):=OLe.loop N _ fun _=>oR _
theorem jj7 (N a):OLe (@jaa (j0B N) a) (jaa a):=by
 unfold jaa
 with_reducible repeat' (first | exact oR _ | exact oN _ | exact jfg N _ _ | apply oC | apply oS | refine oB ?_ ?_ | intro _)
theorem jef (N a b c d e f g):OLe (@j8I (j0B N) a b c d e f g) (j8I a b c d e f g):=OLe.loop N _ fun _=>oR _
theorem jgJ (N a):OLe (@j6m (j0B N) a) (j6m a):=by
 unfold j6m
 with_reducible repeat' (first | exact oR _ | exact oN _ | exact jj7 N _ | exact jef N _ _ _ _ _ _ _ | apply oC | apply oS | refine oB ?_ ?_ | intro _)
theorem j7y (N a):OLe (@j1q (j0B N) a) (j1q a):=by
 unfold j1q
 with_reducible repeat' (first | exact oR _ | exact oN _ | exact jgJ N _ | apply oC | apply oS | refine oB ?_ ?_ | intro _)
theorem j9c (N a):OLe (@j1D (j0B N) a) (j1D a):=by
 unfold j1D
 with_reducible repeat' (first | exact oR _ | exact oN _ | exact j7y N _ | apply oC | apply oS | refine oB ?_ ?_ | intro _)
theorem j6f (N a b c):OLe (@j0s (j0B N) a b c) (j0s a b c):=by
 unfold j0s
 with_reducible repeat' (first | exact oR _ | exact oN _ | exact j9c N _ | apply oC | apply oS | refine oB ?_ ?_ | intro _)
theorem j7T (N a b c):OLe (@j1d (j0B N) a b c) (j1d a b c):=OLe.loop N _ fun _=>j6f N _ _ _
theorem j9d (N a):OLe (@j1E (j0B N) a) (j1E a):=by
 unfold j1E
 with_reducible repeat' (first | exact oR _ | exact oN _ | exact j7T N _ _ _ | apply oC | apply oS | refine oB ?_ ?_ | intro _)
theorem j7U (N a):OLe (@j1e (j0B N) a) (j1e a):=by
 unfold j1e
 with_reducible repeat' (first | exact oR _ | exact oN _ | exact j9d N _ | apply oC | apply oS | refine oB ?_ ?_ | intro _)
theorem j9e (N a b c d e):OLe (@j1F (j0B N) a b c d e) (j1F a b c d e):=OLe.loop N _ fun _=>oR _
theorem jam (N a b):OLe (@j1h (j0B N) a b) (j1h a b):=by
 unfold j1h
 with_reducible repeat' (first | exact oR _ | exact oN _ | exact j7U N _ | exact j9e N _ _ _ _ _ | apply oC | apply oS | refine oB ?_ ?_ | intro _)
theorem jdk (N a b c d e):OLe (@j3x (j0B N) a b c d e) (j3x a b c d e):=by
 unfold j3x
 with_reducible repeat' (first | exact oR _ | exact oN _ | exact jam N _ _ | apply oC | apply oS | refine oB ?_ ?_ | intro _)
theorem j5W (N a b c d e f g h):OLe (@j0n (j0B N) a b c d e f g h) (j0n a b c d e f g h):=by
 unfold j0n
 with_reducible repeat' (first | exact oR _ | exact oN _ | exact j5q N _ _ | exact jdk N _ _ _ _ _ | apply oC | apply oS | refine oB ?_ ?_ | intro _)
theorem j6X (N a b c d e f g h):OLe (@j0L (j0B N) a b c d e f g h) (j0L a b c d e f g h):=OLe.loop N _ fun _=>j5W N _ _ _ _ _ _ _ _
theorem j8h (N a b c d e):OLe (@j0Y (j0B N) a b c d e) (j0Y a b c d e):=by
 unfold j0Y
 with_reducible repeat' (first | exact oR _ | exact oN _ | exact j6X N _ _ _ _ _ _ _ _ | apply oC | apply oS | refine oB ?_ ?_ | intro _)
theorem j6Q (N a b c d e f g):OLe (@j0S (j0B N) a b c d e f g) (j0S a b c d e f g):=OLe.loop N _ fun _=>oR _
theorem j7V (N a b c d e):OLe (@j1f (j0B N) a b c d e) (j1f a b c d e):=by
 unfold j1f
 with_reducible repeat' (first | exact oR _ | exact oN _ | exact j6Q N _ _ _ _ _ _ _ | apply oC | apply oS | refine oB ?_ ?_ | intro _)
theorem j6R (N a b c d e):OLe (@j0T (j0B N) a b c d e) (j0T a b c d e):=by
 unfold j0T
 with_reducible repeat' (first | exact oR _ | exact oN _ | exact j7V N _ _ _ _ _ | apply oC | apply oS | refine oB ?_ ?_ | intro _)
theorem jbZ (N a b):OLe (@j1W (j0B N) a b) (j1W a b):=by
 unfold j1W
 with_reducible repeat' (first | exact oR _ | exact oN _ | exact j7y N _ | exact j6R N _ _ _ _ _ | exact jee N _ | apply oC | apply oS | refine oB ?_ ?_ | intro _)
theorem j9f (N a b c d e):OLe (@j1G (j0B N) a b c d e) (j1G a b c d e):=by
 unfold j1G
 with_reducible repeat' (first | exact oR _ | exact oN _ | exact jbZ N _ _ | apply oC | apply oS | refine oB ?_ ?_ | intro _)
theorem j6s (N a b c d e f g h):OLe (@j0x (j0B N) a b c d e f g h) (j0x a b c d e f g h):=by
 unfold j0x
 with_reducible repeat' (first | exact oR _ | exact oN _ | exact j5q N _ _ | exact j9f N _ _ _ _ _ | apply oC | apply oS | refine oB ?_ ?_ | intro _)
theorem j8i (N a b c d e f g h):OLe (@j0Z (j0B N) a b c d e f g h) (j0Z a b c d e f g h):=OLe.loop N _ fun _=>j6s N _ _ _ _ _ _ _ _
theorem j9q (N a b c d e):OLe (@j1r (j0B N) a b c d e) (j1r a b c d e):=by
 unfold j1r
 with_reducible repeat' (first | exact oR _ | exact oN _ | exact j8i N _ _ _ _ _ _ _ _ | apply oC | apply oS | refine oB ?_ ?_ | intro _)
theorem jco (N a b):OLe (@j2e (j0B N) a b) (j2e a b):=by
 unfold j2e
 with_reducible repeat' (first | exact oR _ | exact oN _ | exact j7y N _ | apply oC | apply oS | refine oB ?_ ?_ | intro _)
theorem j6Y (N a b c d e f g):OLe (@j0F (j0B N) a b c d e f g) (j0F a b c d e f g):=by
 unfold j0F
 with_reducible repeat' (first | exact oR _ | exact oN _ | exact jco N _ _ | apply oC | apply oS | refine oB ?_ ?_ | intro _)
theorem j9g (N a b c d e f g):OLe (@j1H (j0B N) a b c d e f g) (j1H a b c d e f g):=OLe.loop N _ fun _=>j6Y N _ _ _ _ _ _ _
theorem jan (N a b):OLe (@j1i (j0B N) a b) (j1i a b):=by
 unfold j1i
 with_reducible repeat' (first | exact oR _ | exact oN _ | exact j9q N _ _ _ _ _ | exact j9g N _ _ _ _ _ _ _ | apply oC | apply oS | refine oB ?_ ?_ | intro _)
theorem jdl (N a b c d e):OLe (@j3y (j0B N) a b c d e) (j3y a b c d e):=by
 unfold j3y
 with_reducible repeat' (first | exact oR _ | exact oN _ | exact jan N _ _ | apply oC | apply oS | refine oB ?_ ?_ | intro _)
theorem j5X (N a b c d e f g h):OLe (@j0o (j0B N) a b c d e f g h) (j0o a b c d e f g h):=by
 unfold j0o
 with_reducible repeat' (first | exact oR _ | exact oN _ | exact j5q N _ _ | exact jdl N _ _ _ _ _ | apply oC | apply oS | refine oB ?_ ?_ | intro _)
theorem j6Z (N a b c d e f g h):OLe (@j0M (j0B N) a b c d e f g h) (j0M a b c d e f g h):=OLe.loop N _ fun _=>j5X N _ _ _ _ _ _ _ _
theorem j8j (N a b c d e):OLe (@j1o (j0B N) a b c d e) (j1o a b c d e):=by
 unfold j1o
 with_reducible repeat' (first | exact oR _ | exact oN _ | exact j6Z N _ _ _ _ _ _ _ _ | apply oC | apply oS | refine oB ?_ ?_ | intro _)
theorem jao (N a b c d e f g h):OLe (@j1j (j0B N) a b c d e f g h) (j1j a b c d e f g h):=by
 unfold j1j
 with_reducible repeat' (first | exact oR _ | exact oN _ | exact j5q N _ _ | exact jbi N _ _ | apply oC | apply oS | refine oB ?_ ?_ | intro _)
theorem jdm (N a b c d e f g h):OLe (@j31 (j0B N) a b c d e f g h) (j31 a b c d e f g h):=OLe.loop N _ fun _=>jao N _ _ _ _ _ _ _ _
theorem j8k (N a):OLe (@j21 (j0B N) a) (j21 a):=by
 unfold j21
 with_reducible repeat' (first | exact oR _ | exact oN _ | exact j9T N _ | exact jdm N _ _ _ _ _ _ _ _ | exact j8h N _ _ _ _ _ | exact j8j N _ _ _ _ _ | apply oC | apply oS | refine oB ?_ ?_ | intro _)
theorem jgK (N a b c d e f g h):OLe (@j58 (j0B N) a b c d e f g h) (j58 a b c d e f g h):=OLe.loop N _ fun _=>oR _
theorem jgL (N a b c d e f g h):OLe (@j59 (j0B N) a b c d e f g h) (j59 a b c d e f g h):=OLe.loop N _ fun _=>oR _
theorem jgM (N a b c d e f g h):OLe (@j5a (j0B N) a b c d e f g h) (j5a a b c d e f g h):=OLe.loop N _ fun _=>oR _
theorem jgN (N a b c d e f g h i j):OLe (@j4n (j0B N) a b c d e f g h i j) (j4n a b c d e f g h i j):=OLe.loop N _ fun _=>oR _
theorem jkz (N a):OLe (@j8L (j0B N) a) (j8L a):=by
 unfold j8L
 with_reducible repeat' (first | exact oR _ | exact oN _ | exact jgK N _ _ _ _ _ _ _ _ | exact jgL N _ _ _ _ _ _ _ _ | exact jgM N _ _ _ _ _ _ _ _ | exact jgN N _ _ _ _ _ _ _ _ _ _ | apply oC | apply oS | refine oB ?_ ?_ | intro _)
theorem jeY (N a b):OLe (@j7E (j0B N) a b) (j7E a b):=by
 unfold j7E
 with_reducible repeat' (first | exact oR _ | exact oN _ | exact j8k N _ | exact jkz N _ | apply oC | apply oS | refine oB ?_ ?_ | intro _)
theorem jj8 (N a b c):OLe (@j2U (j0B N) a b c) (j2U a b c):=by
 unfold j2U
 with_reducible repeat' (first | exact oR _ | exact oN _ | exact jeY N _ _ | exact j8k N _ | apply oC | apply oS | refine oB ?_ ?_ | intro _)
theorem jhi (N a b c):OLe (@j7g (j0B N) a b c) (j7g a b c):=by
 unfold j7g
 with_reducible repeat' (first | exact oR _ | exact oN _ | exact jeY N _ _ | apply oC | apply oS | refine oB ?_ ?_ | intro _)
theorem jn9 (N a):OLe (@jbM (j0B N) a) (jbM a):=by
 unfold jbM
 with_reducible repeat' (first | exact oR _ | exact oN _ | exact j9b N _ | apply oC | apply oS | refine oB ?_ ?_ | intro _)
theorem jbj (N a b c d):OLe (@j1J (j0B N) a b c d) (j1J a b c d):=by
 unfold j1J
 with_reducible repeat' (first | exact oR _ | exact oN _ | exact jn9 N _ | apply oC | apply oS | refine oB ?_ ?_ | intro _)
theorem jeI (N a b c d):OLe (@j3P (j0B N) a b c d) (j3P a b c d):=OLe.loop N _ fun _=>jbj N _ _ _ _
theorem jhj (N a):OLe (@j7h (j0B N) a) (j7h a):=by
 unfold j7h
 with_reducible repeat' (first | exact oR _ | exact oN _ | exact jeI N _ _ _ _ | apply oC | apply oS | refine oB ?_ ?_ | intro _)
theorem jkA (N a):OLe (@j8M (j0B N) a) (j8M a):=by
 unfold j8M
 with_reducible repeat' (first | exact oR _ | exact oN _ | exact jhj N _ | apply oC | apply oS | refine oB ?_ ?_ | intro _)
theorem jna (N a):OLe (@jcP (j0B N) a) (jcP a):=by
 unfold jcP
 with_reducible repeat' (first | exact oR _ | exact oN _ | exact j8k N _ | exact jkA N _ | apply oC | apply oS | refine oB ?_ ?_ | intro _)
theorem jeJ (N a b c d e):OLe (@j4G (j0B N) a b c d e) (j4G a b c d e):=OLe.loop N _ fun _=>oR _
theorem jhk (N a b c d):OLe (@j7j (j0B N) a b c d) (j7j a b c d):=by
 unfold j7j
 with_reducible repeat' (first | exact oR _ | exact oN _ | exact jeJ N _ _ _ _ _ | apply oC | apply oS | refine oB ?_ ?_ | intro _)
theorem j9h (N a b):OLe (@j2z (j0B N) a b) (j2z a b):=by
 unfold j2z
 with_reducible repeat' (first | exact oR _ | exact oN _ | exact jhk N _ _ _ _ | apply oC | apply oS | refine oB ?_ ?_ | intro _)
theorem j8z (N a b c d e):OLe (@j0N (j0B N) a b c d e) (j0N a b c d e):=by
 unfold j0N
 with_reducible repeat' (first | exact oR _ | exact oN _ | exact j9h N _ _ | apply oC | apply oS | refine oB ?_ ?_ | intro _)
theorem jaY (N a b c d e):OLe (@j1U (j0B N) a b c d e) (j1U a b c d e):=OLe.loop N _ fun _=>j8z N _ _ _ _ _
theorem jcp (N a b c):OLe (@j2G (j0B N) a b c) (j2G a b c):=by
 unfold j2G
 with_reducible repeat' (first | exact oR _ | exact oN _ | exact jaY N _ _ _ _ _ | apply oC | apply oS | refine oB ?_ ?_ | intro _)
theorem jbk (N a b c d e):OLe (@j28 (j0B N) a b c d e) (j28 a b c d e):=OLe.loop N _ fun _=>oR _
theorem jdn (N a b):OLe (@j1v (j0B N) a b) (j1v a b):=by
 unfold j1v
 with_reducible repeat' (first | exact oR _ | exact oN _ | exact jcp N _ _ _ | exact jbk N _ _ _ _ _ | apply oC | apply oS | refine oB ?_ ?_ | intro _)
theorem j6g (N a b c):OLe (@j1c (j0B N) a b c) (j1c a b c):=by
 unfold j1c
 with_reducible repeat' (first | exact oR _ | exact oN _ | exact jdn N _ _ | apply oC | apply oS | refine oB ?_ ?_ | intro _)
theorem jcq (N a b):OLe (@j2H (j0B N) a b) (j2H a b):=by
 unfold j2H
 with_reducible repeat' (first | exact oR _ | exact oN _ | exact j9h N _ _ | apply oC | apply oS | refine oB ?_ ?_ | intro _)
theorem j9i (N a b):OLe (@j0y (j0B N) a b) (j0y a b):=by
 unfold j0y
 with_reducible repeat' (first | exact oR _ | exact oN _ | exact jcq N _ _ | apply oC | apply oS | refine oB ?_ ?_ | intro _)
theorem jap (N a b c d e f g h i j k l m n):OLe (@j1l (j0B N) a b c d e f g h i j k l m n) (j1l a b c d e f g h i j k l m n):=by
 unfold j1l
 with_reducible repeat' (first | exact oR _ | exact oN _ | exact j6g N _ _ _ | apply oC | apply oS | refine oB ?_ ?_ | intro _)
theorem jdo (N a b c d e f g h i j k l m n):OLe (@j3z (j0B N) a b c d e f g h i j k l m n) (j3z a b c d e f g h i j k l m n):=OLe.loop N _ fun _=>jap N _ _ _ _ _ _ _ _ _ _ _ _ _ _
theorem jaq (N a b c d e f g h i j k l m n):OLe (@j1K (j0B N) a b c d e f g h i j k l m n) (j1K a b c d e f g h i j k l m n):=by
 unfold j1K
 with_reducible repeat' (first | exact oR _ | exact oN _ | exact j6g N _ _ _ | apply oC | apply oS | refine oB ?_ ?_ | intro _)
theorem jdp (N a b c d e f g h i j k l m n):OLe (@j3A (j0B N) a b c d e f g h i j k l m n) (j3A a b c d e f g h i j k l m n):=OLe.loop N _ fun _=>jaq N _ _ _ _ _ _ _ _ _ _ _ _ _ _
theorem jfh (N a b c):OLe (@j22 (j0B N) a b c) (j22 a b c):=by
 unfold j22
 with_reducible repeat' (first | exact oR _ | exact oN _ | exact j6g N _ _ _ | exact j9i N _ _ | exact jdo N _ _ _ _ _ _ _ _ _ _ _ _ _ _ | exact jdp N _ _ _ _ _ _ _ _ _ _ _ _ _ _ | apply oC | apply oS | refine oB ?_ ?_ | intro _)
theorem jhl (N a b c d):OLe (@j7k (j0B N) a b c d) (j7k a b c d):=OLe.loop N _ fun _=>oR _
theorem jlx (N a b):OLe (@jaH (j0B N) a b) (jaH a b):=by
 unfold jaH
 with_reducible repeat' (first | exact oR _ | exact oN _ | exact jhl N _ _ _ _ | apply oC | apply oS | refine oB ?_ ?_ | intro _)
theorem j6S (N a b c d e):OLe (@j0U (j0B N) a b c d e) (j0U a b c d e):=OLe.loop N _ fun _=>oR _
theorem j7W (N a b):OLe (@j0C (j0B N) a b) (j0C a b):=by
 unfold j0C
 with_reducible repeat' (first | exact oR _ | exact oN _ | exact j6S N _ _ _ _ _ | apply oC | apply oS | refine oB ?_ ?_ | intro _)
theorem jgO (N a b c):OLe (@j3g (j0B N) a b c) (j3g a b c):=by
 unfold j3g
 with_reducible repeat' (first | exact oR _ | exact oN _ | exact jfh N _ _ _ | exact j9i N _ _ | exact jlx N _ _ | exact j7W N _ _ | apply oC | apply oS | refine oB ?_ ?_ | intro _)
theorem jdq (N a b c):OLe (@j1w (j0B N) a b c) (j1w a b c):=by
 unfold j1w
 with_reducible repeat' (first | exact oR _ | exact oN _ | exact jgO N _ _ _ | apply oC | apply oS | refine oB ?_ ?_ | intro _)
theorem j4Y (N a b c d e):OLe (@j0q (j0B N) a b c d e) (j0q a b c d e):=OLe.loop N _ fun _=>oR _
theorem j5Y (N a b c):OLe (@j0J (j0B N) a b c) (j0J a b c):=by
 unfold j0J
 with_reducible repeat' (first | exact oR _ | exact oN _ | exact j4Y N _ _ _ _ _ | apply oC | apply oS | refine oB ?_ ?_ | intro _)
theorem j4Z (N a b c):OLe (@j0D (j0B N) a b c) (j0D a b c):=by
 unfold j0D
 with_reducible repeat' (first | exact oR _ | exact oN _ | exact j5Y N _ _ _ | apply oC | apply oS | refine oB ?_ ?_ | intro _)
theorem jj9 (N a b c):OLe (@j7l (j0B N) a b c) (j7l a b c):=by
 unfold j7l
 with_reducible repeat' (first | exact oR _ | exact oN _ | exact j4Z N _ _ _ | apply oC | apply oS | refine oB ?_ ?_ | intro _)
theorem jar (N a b c d e f g h i j k l m):OLe (@j1m (j0B N) a b c d e f g h i j k l m) (j1m a b c d e f g h i j k l m):=by
 unfold j1m
 with_reducible repeat' (first | exact oR _ | exact oN _ | exact jdq N _ _ _ | exact jj9 N _ _ _ | apply oC | apply oS | refine oB ?_ ?_ | intro _)
theorem jdr (N a b c d e f g h i j k l m):OLe (@j32 (j0B N) a b c d e f g h i j k l m) (j32 a b c d e f g h i j k l m):=OLe.loop N _ fun _=>jar N _ _ _ _ _ _ _ _ _ _ _ _ _
theorem jfi (N a b c):OLe (@j3a (j0B N) a b c) (j3a a b c):=by
 unfold j3a
 with_reducible repeat' (first | exact oR _ | exact oN _ | exact jdr N _ _ _ _ _ _ _ _ _ _ _ _ _ | apply oC | apply oS | refine oB ?_ ?_ | intro _)
theorem jgP (N a b c d e):OLe (@j5b (j0B N) a b c d e) (j5b a b c d e):=OLe.loop N _ fun _=>oR _
theorem jkB (N a b c):OLe (@jad (j0B N) a b c) (jad a b c):=by
 unfold jad
 with_reducible repeat' (first | exact oR _ | exact oN _ | exact jgP N _ _ _ _ _ | apply oC | apply oS | refine oB ?_ ?_ | intro _)
theorem jja (N a b c):OLe (@j6n (j0B N) a b c) (j6n a b c):=by
 unfold j6n
 with_reducible repeat' (first | exact oR _ | exact oN _ | exact jfi N _ _ _ | exact jkB N _ _ _ | apply oC | apply oS | refine oB ?_ ?_ | intro _)
theorem jly (N a b c):OLe (@j4N (j0B N) a b c) (j4N a b c):=by
 unfold j4N
 with_reducible repeat' (first | exact oR _ | exact oN _ | exact jna N _ | exact jja N _ _ _ | apply oC | apply oS | refine oB ?_ ?_ | intro _)
theorem jjb (N):OLe (@j6o (j0B N) ) (j6o ):=by
 unfold j6o
 with_reducible repeat' (first | exact oR _ | exact oN _ | exact jj8 N _ _ _ | exact jhi N _ _ _ | exact jly N _ _ _ | apply oC | apply oS | refine oB ?_ ?_ | intro _)
abbrev jjc (N:Nat):=@j1q (j0B N)
end
theorem joM:j6o=some true:=jjb 60 true (by kernel_rfl)
end Go.Proofs.Pw
