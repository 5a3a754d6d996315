/- Twins with a bound on their rounds, printed by a program. -/
import Derived.Test.YtpbnnhakjhalaaaGreatELFns
import Derived.Test.YtpbnnhakjhalaaaGreatELLD
import Derived.KernelRfl
open Go Go.Lft
set_option linter.unusedVariables false
set_option maxRecDepth 100000
namespace Go.Proofs.Pw
noncomputable section
theorem jfZ (N a b c):OLe (@jbe (j0B N) a b c) (jbe a b c):=OLe.loop N _ fun _=>oR _
theorem j7b (N a):OLe (@j5R (j0B N) a) (j5R a):=by
 unfold j5R
 with_reducible repeat' (first | exact oR _ | exact oN _ | exact jfZ N _ _ _ | apply oC | apply oS | refine oB ?_ ?_ | intro _)
theorem j5N (N a b):OLe (@j2T (j0B N) a b) (j2T a b):=by
 unfold j2T
 with_reducible repeat' (first | exact oR _ | exact oN _ | exact j7b N _ | apply oC | apply oS | refine oB ?_ ?_ | intro _)
theorem jeX (N a b c d e):OLe (@j4j (j0B N) a b c d e) (j4j a b c d e):=OLe.loop N _ fun _=>oR _
theorem jhu (N a):OLe (@j5n (j0B N) a) (j5n a):=by
 unfold j5n
 with_reducible repeat' (first | exact oR _ | exact oN _ | exact jeX N _ _ _ _ _ | apply oC | apply oS | refine oB ?_ ?_ | intro _)
theorem jli (N a b c d):OLe (@j9a (j0B N) a b c d) (j9a a b c d):=by
 unfold j9a
 with_reducible repeat' (first | exact oR _ | exact oN _ | exact jhu N _ | apply oC | apply oS | refine oB ?_ ?_ | intro _)
theorem j3E (N a b c d e):OLe (@j0f (j0B N) a b c d e) (j0f a b c d e):=OLe.loop N _ fun _=>oR _
theorem j3d (N a b c d):OLe (@j07 (j0B N) a b c d) (j07 a b c d):=by
 unfold j07
 with_reducible repeat' (first | exact oR _ | exact oN _ | exact j3E N _ _ _ _ _ | apply oC | apply oS | refine oB ?_ ?_ | intro _)
theorem j3F (N a b c d):OLe (@j0g (j0B N) a b c d) (j0g a b c d):=OLe.loop N _ fun _=>j3d N _ _ _ _
theorem j25 (N a b c):OLe (@j0a (j0B N) a b c) (j0a a b c):=by
 unfold j0a
 with_reducible repeat' (first | exact oR _ | exact oN _ | exact j3F N _ _ _ _ | apply oC | apply oS | refine oB ?_ ?_ | intro _)
theorem j47 (N a b c d e):OLe (@j0d (j0B N) a b c d e) (j0d a b c d e):=by
 unfold j0d
 with_reducible repeat' (first | exact oR _ | exact oN _ | exact j25 N _ _ _ | apply oC | apply oS | refine oB ?_ ?_ | intro _)
theorem j4U (N a b c d e):OLe (@j0v (j0B N) a b c d e) (j0v a b c d e):=OLe.loop N _ fun _=>j47 N _ _ _ _ _
theorem j4V (N a b c d e):OLe (@j1H (j0B N) a b c d e) (j1H a b c d e):=OLe.loop N _ fun _=>oR _
theorem j48 (N a b c):OLe (@j0e (j0B N) a b c) (j0e a b c):=by
 unfold j0e
 with_reducible repeat' (first | exact oR _ | exact oN _ | exact j4V N _ _ _ _ _ | apply oC | apply oS | refine oB ?_ ?_ | intro _)
theorem j4W (N a b c):OLe (@j0w (j0B N) a b c) (j0w a b c):=OLe.loop N _ fun _=>j48 N _ _ _
theorem j5O (N a b):OLe (@j0H (j0B N) a b) (j0H a b):=by
 unfold j0H
 with_reducible repeat' (first | exact oR _ | exact oN _ | exact j4U N _ _ _ _ _ | exact j25 N _ _ _ | exact j4W N _ _ _ | apply oC | apply oS | refine oB ?_ ?_ | intro _)
theorem j2X (N a):OLe (@j08 (j0B N) a) (j08 a):=by
 unfold j08
 with_reducible repeat' (first | exact oR _ | exact oN _ | exact j5O N _ _ | apply oC | apply oS | refine oB ?_ ?_ | intro _)
theorem jbO (N a b c d e f g):OLe (@j26 (j0B N) a b c d e f g) (j26 a b c d e f g):=OLe.loop N _ fun _=>oR _
theorem j9E (N a b c d e f g h i j k l):OLe (@j0P (j0B N) a b c d e f g h i j k l) (j0P a b c d e f g h i j k l):=by
 unfold j0P
 with_reducible repeat' (first | exact oR _ | exact oN _ | exact jli N _ _ _ _ | apply oC | apply oS | refine oB ?_ ?_ | intro _)
theorem jbP (N a b c d e f g h i j k l):OLe (@j2K (j0B N) a b c d e f g h i j k l) (j2K a b c d e f g h i j k l):=OLe.loop N _ fun _=>j9E N _ _ _ _ _ _ _ _ _ _ _ _
theorem j9F (N a b c d):OLe (@j0Q (j0B N) a b c d) (j0Q a b c d):=by
 unfold j0Q
 with_reducible repeat' (first | exact oR _ | exact oN _ | exact jbP N _ _ _ _ _ _ _ _ _ _ _ _ | apply oC | apply oS | refine oB ?_ ?_ | intro _)
theorem jbQ (N a b c d):OLe (@j27 (j0B N) a b c d) (j27 a b c d):=OLe.loop N _ fun _=>j9F N _ _ _ _
theorem je1 (N a):OLe (@j34 (j0B N) a) (j34 a):=by
 unfold j34
 with_reducible repeat' (first | exact oR _ | exact oN _ | exact jbO N _ _ _ _ _ _ _ | exact jbQ N _ _ _ _ | exact j2X N _ | apply oC | apply oS | refine oB ?_ ?_ | intro _)
theorem jbR (N a b c d e):OLe (@j28 (j0B N) a b c d e) (j28 a b c d e):=OLe.loop N _ fun _=>oR _
theorem j9G (N a):OLe (@j1L (j0B N) a) (j1L a):=by
 unfold j1L
 with_reducible repeat' (first | exact oR _ | exact oN _ | exact je1 N _ | exact jbR N _ _ _ _ _ | apply oC | apply oS | refine oB ?_ ?_ | intro _)
theorem jjQ (N a):OLe (@j6J (j0B N) a) (j6J a):=by
 unfold j6J
 with_reducible repeat' (first | exact oR _ | exact oN _ | exact j9G N _ | apply oC | apply oS | refine oB ?_ ?_ | intro _)
theorem j3Y (N a b c):OLe (@j0h (j0B N) a b c) (j0h a b c):=OLe.loop N _ fun _=>oR _
theorem j4v (N a):OLe (@j0r (j0B N) a) (j0r a):=by
 unfold j0r
 with_reducible repeat' (first | exact oR _ | exact oN _ | exact j3Y N _ _ _ | apply oC | apply oS | refine oB ?_ ?_ | intro _)
theorem j3Z (N a):OLe (@j0i (j0B N) a) (j0i a):=by
 unfold j0i
 with_reducible repeat' (first | exact oR _ | exact oN _ | exact j4v N _ | apply oC | apply oS | refine oB ?_ ?_ | intro _)
theorem jcZ (N a):OLe (@j2f (j0B N) a) (j2f a):=by
 unfold j2f
 with_reducible repeat' (first | exact oR _ | exact oN _ | exact jjQ N _ | exact j3Z N _ | apply oC | apply oS | refine oB ?_ ?_ | intro _)
theorem j7c (N a b c d):OLe (@j0A (j0B N) a b c d) (j0A a b c d):=by
 unfold j0A
 with_reducible repeat' (first | exact oR _ | exact oN _ | exact j5N N _ _ | exact jcZ N _ | apply oC | apply oS | refine oB ?_ ?_ | intro _)
theorem j91 (N a b c d):OLe (@j14 (j0B N) a b c d) (j14 a b c d):=OLe.loop N _ fun _=>j7c N _ _ _ _
theorem jaq (N a):OLe (@j1z (j0B N) a) (j1z a):=by
 unfold j1z
 with_reducible repeat' (first | exact oR _ | exact oN _ | exact j91 N _ _ _ _ | apply oC | apply oS | refine oB ?_ ?_ | intro _)
theorem jg0 (N a b c d):OLe (@j5T (j0B N) a b c d) (j5T a b c d):=OLe.loop N _ fun _=>oR _
theorem jeY (N a):OLe (@j6K (j0B N) a) (j6K a):=by
 unfold j6K
 with_reducible repeat' (first | exact oR _ | exact oN _ | exact jg0 N _ _ _ _ | apply oC | apply oS | refine oB ?_ ?_ | intro _)
theorem jbS (N a b):OLe (@j1q (j0B N) a b) (j1q a b):=by
 unfold j1q
 with_reducible repeat' (first | exact oR _ | exact oN _ | exact jeY N _ | apply oC | apply oS | refine oB ?_ ?_ | intro _)
theorem jg1 (N a b):OLe (@jbf (j0B N) a b) (jbf a b):=OLe.loop N _ fun _=>oR _
theorem jjR (N a):OLe (@jaH (j0B N) a) (jaH a):=by
 unfold jaH
 with_reducible repeat' (first | exact oR _ | exact oN _ | exact jg1 N _ _ | apply oC | apply oS | refine oB ?_ ?_ | intro _)
theorem jeZ (N a b c d e f g):OLe (@j9b (j0B N) a b c d e f g) (j9b a b c d e f g):=OLe.loop N _ fun _=>oR _
theorem jhv (N a):OLe (@j5o (j0B N) a) (j5o a):=by
 unfold j5o
 with_reducible repeat' (first | exact oR _ | exact oN _ | exact jjR N _ | exact jeZ N _ _ _ _ _ _ _ | apply oC | apply oS | refine oB ?_ ?_ | intro _)
theorem j7Y (N a):OLe (@j1e (j0B N) a) (j1e a):=by
 unfold j1e
 with_reducible repeat' (first | exact oR _ | exact oN _ | exact jhv N _ | apply oC | apply oS | refine oB ?_ ?_ | intro _)
theorem j9H (N a):OLe (@j1C (j0B N) a) (j1C a):=by
 unfold j1C
 with_reducible repeat' (first | exact oR _ | exact oN _ | exact j7Y N _ | apply oC | apply oS | refine oB ?_ ?_ | intro _)
theorem j6F (N a b c):OLe (@j0t (j0B N) a b c) (j0t a b c):=by
 unfold j0t
 with_reducible repeat' (first | exact oR _ | exact oN _ | exact j9H N _ | apply oC | apply oS | refine oB ?_ ?_ | intro _)
theorem j8m (N a b c):OLe (@j1f (j0B N) a b c) (j1f a b c):=OLe.loop N _ fun _=>j6F N _ _ _
theorem j9I (N a):OLe (@j1D (j0B N) a) (j1D a):=by
 unfold j1D
 with_reducible repeat' (first | exact oR _ | exact oN _ | exact j8m N _ _ _ | apply oC | apply oS | refine oB ?_ ?_ | intro _)
theorem j8n (N a):OLe (@j1g (j0B N) a) (j1g a):=by
 unfold j1g
 with_reducible repeat' (first | exact oR _ | exact oN _ | exact j9I N _ | apply oC | apply oS | refine oB ?_ ?_ | intro _)
theorem j9J (N a b c d e):OLe (@j1E (j0B N) a b c d e) (j1E a b c d e):=OLe.loop N _ fun _=>oR _
theorem jaU (N a b):OLe (@j1j (j0B N) a b) (j1j a b):=by
 unfold j1j
 with_reducible repeat' (first | exact oR _ | exact oN _ | exact j8n N _ | exact j9J N _ _ _ _ _ | apply oC | apply oS | refine oB ?_ ?_ | intro _)
theorem je2 (N a b c d e):OLe (@j3G (j0B N) a b c d e) (j3G a b c d e):=by
 unfold j3G
 with_reducible repeat' (first | exact oR _ | exact oN _ | exact jaU N _ _ | apply oC | apply oS | refine oB ?_ ?_ | intro _)
theorem j6l (N a b c d e f g h):OLe (@j0p (j0B N) a b c d e f g h) (j0p a b c d e f g h):=by
 unfold j0p
 with_reducible repeat' (first | exact oR _ | exact oN _ | exact j5N N _ _ | exact je2 N _ _ _ _ _ | apply oC | apply oS | refine oB ?_ ?_ | intro _)
theorem j7k (N a b c d e f g h):OLe (@j0L (j0B N) a b c d e f g h) (j0L a b c d e f g h):=OLe.loop N _ fun _=>j6l N _ _ _ _ _ _ _ _
theorem j8L (N a b c d e):OLe (@j0X (j0B N) a b c d e) (j0X a b c d e):=by
 unfold j0X
 with_reducible repeat' (first | exact oR _ | exact oN _ | exact j7k N _ _ _ _ _ _ _ _ | apply oC | apply oS | refine oB ?_ ?_ | intro _)
theorem j7d (N a b c d e f g):OLe (@j0R (j0B N) a b c d e f g) (j0R a b c d e f g):=OLe.loop N _ fun _=>oR _
theorem j8o (N a b c d e):OLe (@j1h (j0B N) a b c d e) (j1h a b c d e):=by
 unfold j1h
 with_reducible repeat' (first | exact oR _ | exact oN _ | exact j7d N _ _ _ _ _ _ _ | apply oC | apply oS | refine oB ?_ ?_ | intro _)
theorem j7e (N a b c d e):OLe (@j0S (j0B N) a b c d e) (j0S a b c d e):=by
 unfold j0S
 with_reducible repeat' (first | exact oR _ | exact oN _ | exact j8o N _ _ _ _ _ | apply oC | apply oS | refine oB ?_ ?_ | intro _)
theorem jcB (N a b):OLe (@j1Y (j0B N) a b) (j1Y a b):=by
 unfold j1Y
 with_reducible repeat' (first | exact oR _ | exact oN _ | exact j7Y N _ | exact j7e N _ _ _ _ _ | exact jeY N _ | apply oC | apply oS | refine oB ?_ ?_ | intro _)
theorem j9K (N a b c d e):OLe (@j1F (j0B N) a b c d e) (j1F a b c d e):=by
 unfold j1F
 with_reducible repeat' (first | exact oR _ | exact oN _ | exact jcB N _ _ | apply oC | apply oS | refine oB ?_ ?_ | intro _)
theorem j6O (N a b c d e f g h):OLe (@j0x (j0B N) a b c d e f g h) (j0x a b c d e f g h):=by
 unfold j0x
 with_reducible repeat' (first | exact oR _ | exact oN _ | exact j5N N _ _ | exact j9K N _ _ _ _ _ | apply oC | apply oS | refine oB ?_ ?_ | intro _)
theorem j8M (N a b c d e f g h):OLe (@j0Y (j0B N) a b c d e f g h) (j0Y a b c d e f g h):=OLe.loop N _ fun _=>j6O N _ _ _ _ _ _ _ _
theorem j9U (N a b c d e):OLe (@j1r (j0B N) a b c d e) (j1r a b c d e):=by
 unfold j1r
 with_reducible repeat' (first | exact oR _ | exact oN _ | exact j8M N _ _ _ _ _ _ _ _ | apply oC | apply oS | refine oB ?_ ?_ | intro _)
theorem jd0 (N a b):OLe (@j2g (j0B N) a b) (j2g a b):=by
 unfold j2g
 with_reducible repeat' (first | exact oR _ | exact oN _ | exact j7Y N _ | apply oC | apply oS | refine oB ?_ ?_ | intro _)
theorem j7l (N a b c d e f g):OLe (@j0F (j0B N) a b c d e f g) (j0F a b c d e f g):=by
 unfold j0F
 with_reducible repeat' (first | exact oR _ | exact oN _ | exact jd0 N _ _ | apply oC | apply oS | refine oB ?_ ?_ | intro _)
theorem j9L (N a b c d e f g):OLe (@j1G (j0B N) a b c d e f g) (j1G a b c d e f g):=OLe.loop N _ fun _=>j7l N _ _ _ _ _ _ _
theorem jaV (N a b):OLe (@j1k (j0B N) a b) (j1k a b):=by
 unfold j1k
 with_reducible repeat' (first | exact oR _ | exact oN _ | exact j9U N _ _ _ _ _ | exact j9L N _ _ _ _ _ _ _ | apply oC | apply oS | refine oB ?_ ?_ | intro _)
theorem je3 (N a b c d e):OLe (@j3H (j0B N) a b c d e) (j3H a b c d e):=by
 unfold j3H
 with_reducible repeat' (first | exact oR _ | exact oN _ | exact jaV N _ _ | apply oC | apply oS | refine oB ?_ ?_ | intro _)
theorem j6m (N a b c d e f g h):OLe (@j0q (j0B N) a b c d e f g h) (j0q a b c d e f g h):=by
 unfold j0q
 with_reducible repeat' (first | exact oR _ | exact oN _ | exact j5N N _ _ | exact je3 N _ _ _ _ _ | apply oC | apply oS | refine oB ?_ ?_ | intro _)
theorem j7m (N a b c d e f g h):OLe (@j0M (j0B N) a b c d e f g h) (j0M a b c d e f g h):=OLe.loop N _ fun _=>j6m N _ _ _ _ _ _ _ _
theorem j8N (N a b c d e):OLe (@j1p (j0B N) a b c d e) (j1p a b c d e):=by
 unfold j1p
 with_reducible repeat' (first | exact oR _ | exact oN _ | exact j7m N _ _ _ _ _ _ _ _ | apply oC | apply oS | refine oB ?_ ?_ | intro _)
theorem jaW (N a b c d e f g h):OLe (@j1l (j0B N) a b c d e f g h) (j1l a b c d e f g h):=by
 unfold j1l
 with_reducible repeat' (first | exact oR _ | exact oN _ | exact j5N N _ _ | exact jbS N _ _ | apply oC | apply oS | refine oB ?_ ?_ | intro _)
theorem je4 (N a b c d e f g h):OLe (@j35 (j0B N) a b c d e f g h) (j35 a b c d e f g h):=OLe.loop N _ fun _=>jaW N _ _ _ _ _ _ _ _
theorem j8O (N a):OLe (@j23 (j0B N) a) (j23 a):=by
 unfold j23
 with_reducible repeat' (first | exact oR _ | exact oN _ | exact jaq N _ | exact je4 N _ _ _ _ _ _ _ _ | exact j8L N _ _ _ _ _ | exact j8N N _ _ _ _ _ | apply oC | apply oS | refine oB ?_ ?_ | intro _)
theorem jhw (N a b c d e f g h):OLe (@j5s (j0B N) a b c d e f g h) (j5s a b c d e f g h):=OLe.loop N _ fun _=>oR _
theorem jhx (N a b c d e f g h):OLe (@j5t (j0B N) a b c d e f g h) (j5t a b c d e f g h):=OLe.loop N _ fun _=>oR _
theorem jhy (N a b c d e f g h):OLe (@j5u (j0B N) a b c d e f g h) (j5u a b c d e f g h):=OLe.loop N _ fun _=>oR _
theorem jhz (N a b c d e f g h i j):OLe (@j4z (j0B N) a b c d e f g h i j) (j4z a b c d e f g h i j):=OLe.loop N _ fun _=>oR _
theorem jlj (N a):OLe (@j9d (j0B N) a) (j9d a):=by
 unfold j9d
 with_reducible repeat' (first | exact oR _ | exact oN _ | exact jhw N _ _ _ _ _ _ _ _ | exact jhx N _ _ _ _ _ _ _ _ | exact jhy N _ _ _ _ _ _ _ _ | exact jhz N _ _ _ _ _ _ _ _ _ _ | apply oC | apply oS | refine oB ?_ ?_ | intro _)
theorem jfI (N a b):OLe (@j84 (j0B N) a b) (j84 a b):=by
 unfold j84
 with_reducible repeat' (first | exact oR _ | exact oN _ | exact j8O N _ | exact jlj N _ | apply oC | apply oS | refine oB ?_ ?_ | intro _)
theorem jjS (N a b c):OLe (@j4X (j0B N) a b c) (j4X a b c):=by
 unfold j4X
 with_reducible repeat' (first | exact oR _ | exact oN _ | exact jfI N _ _ | exact j8O N _ | apply oC | apply oS | refine oB ?_ ?_ | intro _)
theorem ji4 (N a b c):OLe (@j41 (j0B N) a b c) (j41 a b c):=by
 unfold j41
 with_reducible repeat' (first | exact oR _ | exact oN _ | exact jfI N _ _ | apply oC | apply oS | refine oB ?_ ?_ | intro _)
theorem jnY (N a):OLe (@jcm (j0B N) a) (jcm a):=by
 unfold jcm
 with_reducible repeat' (first | exact oR _ | exact oN _ | exact j9G N _ | apply oC | apply oS | refine oB ?_ ?_ | intro _)
theorem jbT (N a b c d):OLe (@j1I (j0B N) a b c d) (j1I a b c d):=by
 unfold j1I
 with_reducible repeat' (first | exact oR _ | exact oN _ | exact jnY N _ | apply oC | apply oS | refine oB ?_ ?_ | intro _)
theorem jfs (N a b c d):OLe (@j42 (j0B N) a b c d) (j42 a b c d):=OLe.loop N _ fun _=>jbT N _ _ _ _
theorem ji5 (N a):OLe (@j7G (j0B N) a) (j7G a):=by
 unfold j7G
 with_reducible repeat' (first | exact oR _ | exact oN _ | exact jfs N _ _ _ _ | apply oC | apply oS | refine oB ?_ ?_ | intro _)
theorem jlk (N a):OLe (@j9e (j0B N) a) (j9e a):=by
 unfold j9e
 with_reducible repeat' (first | exact oR _ | exact oN _ | exact ji5 N _ | apply oC | apply oS | refine oB ?_ ?_ | intro _)
theorem jnZ (N a):OLe (@jdw (j0B N) a) (jdw a):=by
 unfold jdw
 with_reducible repeat' (first | exact oR _ | exact oN _ | exact j8O N _ | exact jlk N _ | apply oC | apply oS | refine oB ?_ ?_ | intro _)
theorem jft (N a b c d e):OLe (@j4Y (j0B N) a b c d e) (j4Y a b c d e):=OLe.loop N _ fun _=>oR _
theorem ji6 (N a b c d):OLe (@j7I (j0B N) a b c d) (j7I a b c d):=by
 unfold j7I
 with_reducible repeat' (first | exact oR _ | exact oN _ | exact jft N _ _ _ _ _ | apply oC | apply oS | refine oB ?_ ?_ | intro _)
theorem j9M (N a b):OLe (@j2G (j0B N) a b) (j2G a b):=by
 unfold j2G
 with_reducible repeat' (first | exact oR _ | exact oN _ | exact ji6 N _ _ _ _ | apply oC | apply oS | refine oB ?_ ?_ | intro _)
theorem j92 (N a b c d e):OLe (@j0N (j0B N) a b c d e) (j0N a b c d e):=by
 unfold j0N
 with_reducible repeat' (first | exact oR _ | exact oN _ | exact j9M N _ _ | apply oC | apply oS | refine oB ?_ ?_ | intro _)
theorem jby (N a b c d e):OLe (@j1W (j0B N) a b c d e) (j1W a b c d e):=OLe.loop N _ fun _=>j92 N _ _ _ _ _
theorem jd1 (N a b c):OLe (@j2M (j0B N) a b c) (j2M a b c):=by
 unfold j2M
 with_reducible repeat' (first | exact oR _ | exact oN _ | exact jby N _ _ _ _ _ | apply oC | apply oS | refine oB ?_ ?_ | intro _)
theorem jbU (N a b c d e):OLe (@j2a (j0B N) a b c d e) (j2a a b c d e):=OLe.loop N _ fun _=>oR _
theorem je5 (N a b):OLe (@j1v (j0B N) a b) (j1v a b):=by
 unfold j1v
 with_reducible repeat' (first | exact oR _ | exact oN _ | exact jd1 N _ _ _ | exact jbU N _ _ _ _ _ | apply oC | apply oS | refine oB ?_ ?_ | intro _)
theorem j6G (N a b c):OLe (@j1d (j0B N) a b c) (j1d a b c):=by
 unfold j1d
 with_reducible repeat' (first | exact oR _ | exact oN _ | exact je5 N _ _ | apply oC | apply oS | refine oB ?_ ?_ | intro _)
theorem jd2 (N a b):OLe (@j2N (j0B N) a b) (j2N a b):=by
 unfold j2N
 with_reducible repeat' (first | exact oR _ | exact oN _ | exact j9M N _ _ | apply oC | apply oS | refine oB ?_ ?_ | intro _)
theorem j9N (N a b):OLe (@j0y (j0B N) a b) (j0y a b):=by
 unfold j0y
 with_reducible repeat' (first | exact oR _ | exact oN _ | exact jd2 N _ _ | apply oC | apply oS | refine oB ?_ ?_ | intro _)
theorem jaX (N a b c d e f g h i j k l m n):OLe (@j1n (j0B N) a b c d e f g h i j k l m n) (j1n a b c d e f g h i j k l m n):=by
 unfold j1n
 with_reducible repeat' (first | exact oR _ | exact oN _ | exact j6G N _ _ _ | apply oC | apply oS | refine oB ?_ ?_ | intro _)
theorem je6 (N a b c d e f g h i j k l m n):OLe (@j3I (j0B N) a b c d e f g h i j k l m n) (j3I a b c d e f g h i j k l m n):=OLe.loop N _ fun _=>jaX N _ _ _ _ _ _ _ _ _ _ _ _ _ _
theorem jaY (N a b c d e f g h i j k l m n):OLe (@j1J (j0B N) a b c d e f g h i j k l m n) (j1J a b c d e f g h i j k l m n):=by
 unfold j1J
 with_reducible repeat' (first | exact oR _ | exact oN _ | exact j6G N _ _ _ | apply oC | apply oS | refine oB ?_ ?_ | intro _)
theorem je7 (N a b c d e f g h i j k l m n):OLe (@j3J (j0B N) a b c d e f g h i j k l m n) (j3J a b c d e f g h i j k l m n):=OLe.loop N _ fun _=>jaY N _ _ _ _ _ _ _ _ _ _ _ _ _ _
theorem jg2 (N a b c):OLe (@j24 (j0B N) a b c) (j24 a b c):=by
 unfold j24
 with_reducible repeat' (first | exact oR _ | exact oN _ | exact j6G N _ _ _ | exact j9N N _ _ | exact je6 N _ _ _ _ _ _ _ _ _ _ _ _ _ _ | exact je7 N _ _ _ _ _ _ _ _ _ _ _ _ _ _ | apply oC | apply oS | refine oB ?_ ?_ | intro _)
theorem ji7 (N a b c d):OLe (@j7J (j0B N) a b c d) (j7J a b c d):=OLe.loop N _ fun _=>oR _
theorem jmk (N a b):OLe (@jbg (j0B N) a b) (jbg a b):=by
 unfold jbg
 with_reducible repeat' (first | exact oR _ | exact oN _ | exact ji7 N _ _ _ _ | apply oC | apply oS | refine oB ?_ ?_ | intro _)
theorem j7f (N a b c d e):OLe (@j0T (j0B N) a b c d e) (j0T a b c d e):=OLe.loop N _ fun _=>oR _
theorem j8p (N a b):OLe (@j0C (j0B N) a b) (j0C a b):=by
 unfold j0C
 with_reducible repeat' (first | exact oR _ | exact oN _ | exact j7f N _ _ _ _ _ | apply oC | apply oS | refine oB ?_ ?_ | intro _)
theorem jhA (N a b c):OLe (@j3m (j0B N) a b c) (j3m a b c):=by
 unfold j3m
 with_reducible repeat' (first | exact oR _ | exact oN _ | exact jg2 N _ _ _ | exact j9N N _ _ | exact jmk N _ _ | exact j8p N _ _ | apply oC | apply oS | refine oB ?_ ?_ | intro _)
theorem je8 (N a b c):OLe (@j1w (j0B N) a b c) (j1w a b c):=by
 unfold j1w
 with_reducible repeat' (first | exact oR _ | exact oN _ | exact jhA N _ _ _ | apply oC | apply oS | refine oB ?_ ?_ | intro _)
theorem j5h (N a b c d e):OLe (@j0s (j0B N) a b c d e) (j0s a b c d e):=OLe.loop N _ fun _=>oR _
theorem j6n (N a b c):OLe (@j0J (j0B N) a b c) (j0J a b c):=by
 unfold j0J
 with_reducible repeat' (first | exact oR _ | exact oN _ | exact j5h N _ _ _ _ _ | apply oC | apply oS | refine oB ?_ ?_ | intro _)
theorem j5i (N a b c):OLe (@j0D (j0B N) a b c) (j0D a b c):=by
 unfold j0D
 with_reducible repeat' (first | exact oR _ | exact oN _ | exact j6n N _ _ _ | apply oC | apply oS | refine oB ?_ ?_ | intro _)
theorem jjT (N a b c):OLe (@j7K (j0B N) a b c) (j7K a b c):=by
 unfold j7K
 with_reducible repeat' (first | exact oR _ | exact oN _ | exact j5i N _ _ _ | apply oC | apply oS | refine oB ?_ ?_ | intro _)
theorem jaZ (N a b c d e f g h i j k l m):OLe (@j1o (j0B N) a b c d e f g h i j k l m) (j1o a b c d e f g h i j k l m):=by
 unfold j1o
 with_reducible repeat' (first | exact oR _ | exact oN _ | exact je8 N _ _ _ | exact jjT N _ _ _ | apply oC | apply oS | refine oB ?_ ?_ | intro _)
theorem je9 (N a b c d e f g h i j k l m):OLe (@j36 (j0B N) a b c d e f g h i j k l m) (j36 a b c d e f g h i j k l m):=OLe.loop N _ fun _=>jaZ N _ _ _ _ _ _ _ _ _ _ _ _ _
theorem jg3 (N a b c):OLe (@j3g (j0B N) a b c) (j3g a b c):=by
 unfold j3g
 with_reducible repeat' (first | exact oR _ | exact oN _ | exact je9 N _ _ _ _ _ _ _ _ _ _ _ _ _ | apply oC | apply oS | refine oB ?_ ?_ | intro _)
theorem jhB (N a b c d e):OLe (@j5v (j0B N) a b c d e) (j5v a b c d e):=OLe.loop N _ fun _=>oR _
theorem jll (N a b c):OLe (@jaK (j0B N) a b c) (jaK a b c):=by
 unfold jaK
 with_reducible repeat' (first | exact oR _ | exact oN _ | exact jhB N _ _ _ _ _ | apply oC | apply oS | refine oB ?_ ?_ | intro _)
theorem jjU (N a b c):OLe (@j5V (j0B N) a b c) (j5V a b c):=by
 unfold j5V
 with_reducible repeat' (first | exact oR _ | exact oN _ | exact jg3 N _ _ _ | exact jll N _ _ _ | apply oC | apply oS | refine oB ?_ ?_ | intro _)
theorem jml (N a b c):OLe (@j56 (j0B N) a b c) (j56 a b c):=by
 unfold j56
 with_reducible repeat' (first | exact oR _ | exact oN _ | exact jnZ N _ | exact jjU N _ _ _ | apply oC | apply oS | refine oB ?_ ?_ | intro _)
theorem jjV (N):OLe (@j7L (j0B N) ) (j7L ):=by
 unfold j7L
 with_reducible repeat' (first | exact oR _ | exact oN _ | exact jjS N _ _ _ | exact ji4 N _ _ _ | exact jml N _ _ _ | apply oC | apply oS | refine oB ?_ ?_ | intro _)
abbrev jjW (N:Nat):=@j1e (j0B N)
end
theorem jre:j7L=some true:=jjV 60 true (by kernel_rfl)
end Go.Proofs.Pw
