/- Twins with a bound on their rounds, printed by a program. -/
import Derived.Test.YtcegmhnnglcgeaaGreatFFns
import Derived.Test.YtcegmhnnglcgeaaGreatFLD
open Go Go.Lft
set_option linter.unusedVariables false
set_option maxRecDepth 100000
namespace Go.Proofs.Pw
noncomputable section
theorem jgq (N a b c):OLe (@jbr (j03 N) a b c) (jbr a b c):=OLe.loop N _ fun _=>oR _
theorem jjN (N a):OLe (@jaY (j03 N) a) (jaY a):=by
 unfold jaY
 with_reducible repeat' (first | exact oR _ | exact oN _ | exact jgq N _ _ _ | apply oC | apply oS | refine oB ?_ ?_ | intro _)
theorem j4U (N a b):OLe (@j3i (j03 N) a b) (j3i a b):=by
 unfold j3i
 with_reducible repeat' (first | exact oR _ | exact oN _ | exact jjN N _ | apply oC | apply oS | refine oB ?_ ?_ | intro _)
theorem jfd (N a b c d e):OLe (@j91 (j03 N) a b c d e) (j91 a b c d e):=OLe.loop N _ fun _=>oR _
theorem jhN (N a):OLe (@j7y (j03 N) a) (j7y a):=by
 unfold j7y
 with_reducible repeat' (first | exact oR _ | exact oN _ | exact jfd N _ _ _ _ _ | apply oC | apply oS | refine oB ?_ ?_ | intro _)
theorem jkW (N a b c d):OLe (@jcL (j03 N) a b c d) (jcL a b c d):=by
 unfold jcL
 with_reducible repeat' (first | exact oR _ | exact oN _ | exact jhN N _ | apply oC | apply oS | refine oB ?_ ?_ | intro _)
theorem j3b (N a b c d e):OLe (@j0G (j03 N) a b c d e) (j0G a b c d e):=OLe.loop N _ fun _=>oR _
theorem j2G (N a b c d):OLe (@j09 (j03 N) a b c d) (j09 a b c d):=by
 unfold j09
 with_reducible repeat' (first | exact oR _ | exact oN _ | exact j3b N _ _ _ _ _ | apply oC | apply oS | refine oB ?_ ?_ | intro _)
theorem j3c (N a b c d):OLe (@j0H (j03 N) a b c d) (j0H a b c d):=OLe.loop N _ fun _=>j2G N _ _ _ _
theorem j1u (N a b c):OLe (@j0b (j03 N) a b c) (j0b a b c):=by
 unfold j0b
 with_reducible repeat' (first | exact oR _ | exact oN _ | exact j3c N _ _ _ _ | apply oC | apply oS | refine oB ?_ ?_ | intro _)
theorem j3G (N a b c d e):OLe (@j0f (j03 N) a b c d e) (j0f a b c d e):=by
 unfold j0f
 with_reducible repeat' (first | exact oR _ | exact oN _ | exact j1u N _ _ _ | apply oC | apply oS | refine oB ?_ ?_ | intro _)
theorem j4s (N a b c d e):OLe (@j15 (j03 N) a b c d e) (j15 a b c d e):=OLe.loop N _ fun _=>j3G N _ _ _ _ _
theorem j4t (N a b c d e):OLe (@j16 (j03 N) a b c d e) (j16 a b c d e):=OLe.loop N _ fun _=>oR _
theorem j3H (N a b c):OLe (@j0g (j03 N) a b c) (j0g a b c):=by
 unfold j0g
 with_reducible repeat' (first | exact oR _ | exact oN _ | exact j4t N _ _ _ _ _ | apply oC | apply oS | refine oB ?_ ?_ | intro _)
theorem j4u (N a b c):OLe (@j17 (j03 N) a b c) (j17 a b c):=OLe.loop N _ fun _=>j3H N _ _ _
theorem j4V (N a b):OLe (@j0q (j03 N) a b) (j0q a b):=by
 unfold j0q
 with_reducible repeat' (first | exact oR _ | exact oN _ | exact j4s N _ _ _ _ _ | exact j1u N _ _ _ | exact j4u N _ _ _ | apply oC | apply oS | refine oB ?_ ?_ | intro _)
theorem j2r (N a):OLe (@j07 (j03 N) a) (j07 a):=by
 unfold j07
 with_reducible repeat' (first | exact oR _ | exact oN _ | exact j4V N _ _ | apply oC | apply oS | refine oB ?_ ?_ | intro _)
theorem jcj (N a b c d e f g):OLe (@j5R (j03 N) a b c d e f g) (j5R a b c d e f g):=OLe.loop N _ fun _=>oR _
theorem j9F (N a b c d e f g h i j k l):OLe (@j1x (j03 N) a b c d e f g h i j k l) (j1x a b c d e f g h i j k l):=by
 unfold j1x
 with_reducible repeat' (first | exact oR _ | exact oN _ | exact jkW N _ _ _ _ | apply oC | apply oS | refine oB ?_ ?_ | intro _)
theorem jck (N a b c d e f g h i j k l):OLe (@j5S (j03 N) a b c d e f g h i j k l) (j5S a b c d e f g h i j k l):=OLe.loop N _ fun _=>j9F N _ _ _ _ _ _ _ _ _ _ _ _
theorem j9G (N a b c d):OLe (@j1y (j03 N) a b c d) (j1y a b c d):=by
 unfold j1y
 with_reducible repeat' (first | exact oR _ | exact oN _ | exact jck N _ _ _ _ _ _ _ _ _ _ _ _ | apply oC | apply oS | refine oB ?_ ?_ | intro _)
theorem jcl (N a b c d):OLe (@j5T (j03 N) a b c d) (j5T a b c d):=OLe.loop N _ fun _=>j9G N _ _ _ _
theorem jeh (N a):OLe (@j4k (j03 N) a) (j4k a):=by
 unfold j4k
 with_reducible repeat' (first | exact oR _ | exact oN _ | exact jcj N _ _ _ _ _ _ _ | exact jcl N _ _ _ _ | exact j2r N _ | apply oC | apply oS | refine oB ?_ ?_ | intro _)
theorem jcm (N a b c d e):OLe (@j5U (j03 N) a b c d e) (j5U a b c d e):=OLe.loop N _ fun _=>oR _
theorem j9H (N a):OLe (@j3e (j03 N) a) (j3e a):=by
 unfold j3e
 with_reducible repeat' (first | exact oR _ | exact oN _ | exact jeh N _ | exact jcm N _ _ _ _ _ | apply oC | apply oS | refine oB ?_ ?_ | intro _)
theorem jjO (N a):OLe (@jaZ (j03 N) a) (jaZ a):=by
 unfold jaZ
 with_reducible repeat' (first | exact oR _ | exact oN _ | exact j9H N _ | apply oC | apply oS | refine oB ?_ ?_ | intro _)
theorem j3t (N a b c):OLe (@j0L (j03 N) a b c) (j0L a b c):=OLe.loop N _ fun _=>oR _
theorem j3X (N a):OLe (@j0j (j03 N) a) (j0j a):=by
 unfold j0j
 with_reducible repeat' (first | exact oR _ | exact oN _ | exact j3t N _ _ _ | apply oC | apply oS | refine oB ?_ ?_ | intro _)
theorem j3u (N a):OLe (@j0d (j03 N) a) (j0d a):=by
 unfold j0d
 with_reducible repeat' (first | exact oR _ | exact oN _ | exact j3X N _ | apply oC | apply oS | refine oB ?_ ?_ | intro _)
theorem jds (N a):OLe (@j3N (j03 N) a) (j3N a):=by
 unfold j3N
 with_reducible repeat' (first | exact oR _ | exact oN _ | exact jjO N _ | exact j3u N _ | apply oC | apply oS | refine oB ?_ ?_ | intro _)
theorem j6H (N a b c d):OLe (@j0S (j03 N) a b c d) (j0S a b c d):=by
 unfold j0S
 with_reducible repeat' (first | exact oR _ | exact oN _ | exact j4U N _ _ | exact jds N _ | apply oC | apply oS | refine oB ?_ ?_ | intro _)
theorem j8I (N a b c d):OLe (@j3y (j03 N) a b c d) (j3y a b c d):=OLe.loop N _ fun _=>j6H N _ _ _ _
theorem jaC (N a):OLe (@j1Z (j03 N) a) (j1Z a):=by
 unfold j1Z
 with_reducible repeat' (first | exact oR _ | exact oN _ | exact j8I N _ _ _ _ | apply oC | apply oS | refine oB ?_ ?_ | intro _)
theorem jgr (N a b c d):OLe (@jbt (j03 N) a b c d) (jbt a b c d):=OLe.loop N _ fun _=>oR _
theorem jfe (N a):OLe (@j8T (j03 N) a) (j8T a):=by
 unfold j8T
 with_reducible repeat' (first | exact oR _ | exact oN _ | exact jgr N _ _ _ _ | apply oC | apply oS | refine oB ?_ ?_ | intro _)
theorem jcn (N a b):OLe (@j22 (j03 N) a b) (j22 a b):=by
 unfold j22
 with_reducible repeat' (first | exact oR _ | exact oN _ | exact jfe N _ | apply oC | apply oS | refine oB ?_ ?_ | intro _)
theorem jgs (N a b):OLe (@jbv (j03 N) a b) (jbv a b):=OLe.loop N _ fun _=>oR _
theorem jjP (N a):OLe (@jb0 (j03 N) a) (jb0 a):=by
 unfold jb0
 with_reducible repeat' (first | exact oR _ | exact oN _ | exact jgs N _ _ | apply oC | apply oS | refine oB ?_ ?_ | intro _)
theorem jff (N a b c d e f g):OLe (@j93 (j03 N) a b c d e f g) (j93 a b c d e f g):=OLe.loop N _ fun _=>oR _
theorem jhO (N a):OLe (@j7z (j03 N) a) (j7z a):=by
 unfold j7z
 with_reducible repeat' (first | exact oR _ | exact oN _ | exact jjP N _ | exact jff N _ _ _ _ _ _ _ | apply oC | apply oS | refine oB ?_ ?_ | intro _)
theorem jaD (N a):OLe (@j47 (j03 N) a) (j47 a):=by
 unfold j47
 with_reducible repeat' (first | exact oR _ | exact oN _ | exact jhO N _ | apply oC | apply oS | refine oB ?_ ?_ | intro _)
theorem j9I (N a):OLe (@j1z (j03 N) a) (j1z a):=by
 unfold j1z
 with_reducible repeat' (first | exact oR _ | exact oN _ | exact jaD N _ | apply oC | apply oS | refine oB ?_ ?_ | intro _)
theorem j66 (N a b c):OLe (@j0F (j03 N) a b c) (j0F a b c):=by
 unfold j0F
 with_reducible repeat' (first | exact oR _ | exact oN _ | exact j9I N _ | apply oC | apply oS | refine oB ?_ ?_ | intro _)
theorem j7M (N a b c):OLe (@j2V (j03 N) a b c) (j2V a b c):=OLe.loop N _ fun _=>j66 N _ _ _
theorem j9J (N a):OLe (@j1A (j03 N) a) (j1A a):=by
 unfold j1A
 with_reducible repeat' (first | exact oR _ | exact oN _ | exact j7M N _ _ _ | apply oC | apply oS | refine oB ?_ ?_ | intro _)
theorem j7N (N a):OLe (@j18 (j03 N) a) (j18 a):=by
 unfold j18
 with_reducible repeat' (first | exact oR _ | exact oN _ | exact j9J N _ | apply oC | apply oS | refine oB ?_ ?_ | intro _)
theorem j9K (N a b c d e):OLe (@j3O (j03 N) a b c d e) (j3O a b c d e):=OLe.loop N _ fun _=>oR _
theorem jb8 (N a b):OLe (@j2c (j03 N) a b) (j2c a b):=by
 unfold j2c
 with_reducible repeat' (first | exact oR _ | exact oN _ | exact j7N N _ | exact j9K N _ _ _ _ _ | apply oC | apply oS | refine oB ?_ ?_ | intro _)
theorem jei (N a b c d e):OLe (@j4m (j03 N) a b c d e) (j4m a b c d e):=by
 unfold j4m
 with_reducible repeat' (first | exact oR _ | exact oN _ | exact jb8 N _ _ | apply oC | apply oS | refine oB ?_ ?_ | intro _)
theorem j5s (N a b c d e f g h):OLe (@j0x (j03 N) a b c d e f g h) (j0x a b c d e f g h):=by
 unfold j0x
 with_reducible repeat' (first | exact oR _ | exact oN _ | exact j4U N _ _ | exact jei N _ _ _ _ _ | apply oC | apply oS | refine oB ?_ ?_ | intro _)
theorem j6S (N a b c d e f g h):OLe (@j2u (j03 N) a b c d e f g h) (j2u a b c d e f g h):=OLe.loop N _ fun _=>j5s N _ _ _ _ _ _ _ _
theorem j8g (N a b c d e):OLe (@j1j (j03 N) a b c d e) (j1j a b c d e):=by
 unfold j1j
 with_reducible repeat' (first | exact oR _ | exact oN _ | exact j6S N _ _ _ _ _ _ _ _ | apply oC | apply oS | refine oB ?_ ?_ | intro _)
theorem j6I (N a b c d e f g):OLe (@j2d (j03 N) a b c d e f g) (j2d a b c d e f g):=OLe.loop N _ fun _=>oR _
theorem j7O (N a b c d e):OLe (@j19 (j03 N) a b c d e) (j19 a b c d e):=by
 unfold j19
 with_reducible repeat' (first | exact oR _ | exact oN _ | exact j6I N _ _ _ _ _ _ _ | apply oC | apply oS | refine oB ?_ ?_ | intro _)
theorem j6J (N a b c d e):OLe (@j0T (j03 N) a b c d e) (j0T a b c d e):=by
 unfold j0T
 with_reducible repeat' (first | exact oR _ | exact oN _ | exact j7O N _ _ _ _ _ | apply oC | apply oS | refine oB ?_ ?_ | intro _)
theorem jd5 (N a b):OLe (@j3k (j03 N) a b) (j3k a b):=by
 unfold j3k
 with_reducible repeat' (first | exact oR _ | exact oN _ | exact jaD N _ | exact j6J N _ _ _ _ _ | exact jfe N _ | apply oC | apply oS | refine oB ?_ ?_ | intro _)
theorem j9L (N a b c d e):OLe (@j1B (j03 N) a b c d e) (j1B a b c d e):=by
 unfold j1B
 with_reducible repeat' (first | exact oR _ | exact oN _ | exact jd5 N _ _ | apply oC | apply oS | refine oB ?_ ?_ | intro _)
theorem j6h (N a b c d e f g h):OLe (@j0M (j03 N) a b c d e f g h) (j0M a b c d e f g h):=by
 unfold j0M
 with_reducible repeat' (first | exact oR _ | exact oN _ | exact j4U N _ _ | exact j9L N _ _ _ _ _ | apply oC | apply oS | refine oB ?_ ?_ | intro _)
theorem j8h (N a b c d e f g h):OLe (@j38 (j03 N) a b c d e f g h) (j38 a b c d e f g h):=OLe.loop N _ fun _=>j6h N _ _ _ _ _ _ _ _
theorem ja1 (N a b c d e):OLe (@j1O (j03 N) a b c d e) (j1O a b c d e):=by
 unfold j1O
 with_reducible repeat' (first | exact oR _ | exact oN _ | exact j8h N _ _ _ _ _ _ _ _ | apply oC | apply oS | refine oB ?_ ?_ | intro _)
theorem jdt (N a b):OLe (@j3P (j03 N) a b) (j3P a b):=by
 unfold j3P
 with_reducible repeat' (first | exact oR _ | exact oN _ | exact jaD N _ | apply oC | apply oS | refine oB ?_ ?_ | intro _)
theorem j6T (N a b c d e f g):OLe (@j0W (j03 N) a b c d e f g) (j0W a b c d e f g):=by
 unfold j0W
 with_reducible repeat' (first | exact oR _ | exact oN _ | exact jdt N _ _ | apply oC | apply oS | refine oB ?_ ?_ | intro _)
theorem j9M (N a b c d e f g):OLe (@j3Q (j03 N) a b c d e f g) (j3Q a b c d e f g):=OLe.loop N _ fun _=>j6T N _ _ _ _ _ _ _
theorem jb9 (N a b):OLe (@j2e (j03 N) a b) (j2e a b):=by
 unfold j2e
 with_reducible repeat' (first | exact oR _ | exact oN _ | exact ja1 N _ _ _ _ _ | exact j9M N _ _ _ _ _ _ _ | apply oC | apply oS | refine oB ?_ ?_ | intro _)
theorem jej (N a b c d e):OLe (@j4n (j03 N) a b c d e) (j4n a b c d e):=by
 unfold j4n
 with_reducible repeat' (first | exact oR _ | exact oN _ | exact jb9 N _ _ | apply oC | apply oS | refine oB ?_ ?_ | intro _)
theorem j5t (N a b c d e f g h):OLe (@j0y (j03 N) a b c d e f g h) (j0y a b c d e f g h):=by
 unfold j0y
 with_reducible repeat' (first | exact oR _ | exact oN _ | exact j4U N _ _ | exact jej N _ _ _ _ _ | apply oC | apply oS | refine oB ?_ ?_ | intro _)
theorem j6U (N a b c d e f g h):OLe (@j2v (j03 N) a b c d e f g h) (j2v a b c d e f g h):=OLe.loop N _ fun _=>j5t N _ _ _ _ _ _ _ _
theorem j8i (N a b c d e):OLe (@j1k (j03 N) a b c d e) (j1k a b c d e):=by
 unfold j1k
 with_reducible repeat' (first | exact oR _ | exact oN _ | exact j6U N _ _ _ _ _ _ _ _ | apply oC | apply oS | refine oB ?_ ?_ | intro _)
theorem jba (N a b c d e f g h):OLe (@j2f (j03 N) a b c d e f g h) (j2f a b c d e f g h):=by
 unfold j2f
 with_reducible repeat' (first | exact oR _ | exact oN _ | exact j4U N _ _ | exact jcn N _ _ | apply oC | apply oS | refine oB ?_ ?_ | intro _)
theorem jek (N a b c d e f g h):OLe (@j7U (j03 N) a b c d e f g h) (j7U a b c d e f g h):=OLe.loop N _ fun _=>jba N _ _ _ _ _ _ _ _
theorem jgt (N a):OLe (@j6o (j03 N) a) (j6o a):=by
 unfold j6o
 with_reducible repeat' (first | exact oR _ | exact oN _ | exact jaC N _ | exact jek N _ _ _ _ _ _ _ _ | exact j8g N _ _ _ _ _ | exact j8i N _ _ _ _ _ | apply oC | apply oS | refine oB ?_ ?_ | intro _)
theorem jmW (N a):OLe (@jhp (j03 N) a) (jhp a):=by
 unfold jhp
 with_reducible repeat' (first | exact oR _ | exact oN _ | exact j9H N _ | apply oC | apply oS | refine oB ?_ ?_ | intro _)
theorem jco (N a b c d):OLe (@j2X (j03 N) a b c d) (j2X a b c d):=by
 unfold j2X
 with_reducible repeat' (first | exact oR _ | exact oN _ | exact jmW N _ | apply oC | apply oS | refine oB ?_ ?_ | intro _)
theorem jfU (N a b c d):OLe (@jam (j03 N) a b c d) (jam a b c d):=OLe.loop N _ fun _=>jco N _ _ _ _
theorem jik (N a):OLe (@j94 (j03 N) a) (j94 a):=by
 unfold j94
 with_reducible repeat' (first | exact oR _ | exact oN _ | exact jfU N _ _ _ _ | apply oC | apply oS | refine oB ?_ ?_ | intro _)
theorem jkX (N a):OLe (@jcM (j03 N) a) (jcM a):=by
 unfold jcM
 with_reducible repeat' (first | exact oR _ | exact oN _ | exact jik N _ | apply oC | apply oS | refine oB ?_ ?_ | intro _)
theorem jiV (N a):OLe (@jfJ (j03 N) a) (jfJ a):=by
 unfold jfJ
 with_reducible repeat' (first | exact oR _ | exact oN _ | exact jgt N _ | exact jkX N _ | apply oC | apply oS | refine oB ?_ ?_ | intro _)
theorem jaE (N a b c d):OLe (@j5V (j03 N) a b c d) (j5V a b c d):=by
 unfold j5V
 with_reducible repeat' (first | exact oR _ | exact oN _ | exact jiV N _ | apply oC | apply oS | refine oB ?_ ?_ | intro _)
theorem j6K (N a b c d e):OLe (@j2g (j03 N) a b c d e) (j2g a b c d e):=OLe.loop N _ fun _=>oR _
theorem j7P (N a b c):OLe (@j1a (j03 N) a b c) (j1a a b c):=by
 unfold j1a
 with_reducible repeat' (first | exact oR _ | exact oN _ | exact j6K N _ _ _ _ _ | apply oC | apply oS | refine oB ?_ ?_ | intro _)
theorem j7n (N a b c d e):OLe (@j2J (j03 N) a b c d e) (j2J a b c d e):=OLe.loop N _ fun _=>oR _
theorem j8J (N a b c):OLe (@j1o (j03 N) a b c) (j1o a b c):=by
 unfold j1o
 with_reducible repeat' (first | exact oR _ | exact oN _ | exact j7P N _ _ _ | exact j7n N _ _ _ _ _ | apply oC | apply oS | refine oB ?_ ?_ | intro _)
theorem j5u (N a b c d e):OLe (@j1H (j03 N) a b c d e) (j1H a b c d e):=OLe.loop N _ fun _=>oR _
theorem j4v (N a b c d):OLe (@j0l (j03 N) a b c d) (j0l a b c d):=by
 unfold j0l
 with_reducible repeat' (first | exact oR _ | exact oN _ | exact j5u N _ _ _ _ _ | apply oC | apply oS | refine oB ?_ ?_ | intro _)
theorem j5v (N a b c d):OLe (@j1I (j03 N) a b c d) (j1I a b c d):=OLe.loop N _ fun _=>j4v N _ _ _ _
theorem j6i (N a b c):OLe (@j0N (j03 N) a b c) (j0N a b c):=by
 unfold j0N
 with_reducible repeat' (first | exact oR _ | exact oN _ | exact j5v N _ _ _ _ | apply oC | apply oS | refine oB ?_ ?_ | intro _)
theorem j5F (N a b c d e f):OLe (@j0B (j03 N) a b c d e f) (j0B a b c d e f):=by
 unfold j0B
 with_reducible repeat' (first | exact oR _ | exact oN _ | exact j6i N _ _ _ | apply oC | apply oS | refine oB ?_ ?_ | intro _)
theorem j7o (N a b c d e f):OLe (@j2K (j03 N) a b c d e f) (j2K a b c d e f):=OLe.loop N _ fun _=>j5F N _ _ _ _ _ _
theorem j8K (N a b c d):OLe (@j1p (j03 N) a b c d) (j1p a b c d):=by
 unfold j1p
 with_reducible repeat' (first | exact oR _ | exact oN _ | exact j7o N _ _ _ _ _ _ | apply oC | apply oS | refine oB ?_ ?_ | intro _)
theorem jcp (N a):OLe (@j2Z (j03 N) a) (j2Z a):=by
 unfold j2Z
 with_reducible repeat' (first | exact oR _ | exact oN _ | exact j8K N _ _ _ _ | apply oC | apply oS | refine oB ?_ ?_ | intro _)
theorem j8L (N a b c d):OLe (@j3z (j03 N) a b c d) (j3z a b c d):=OLe.loop N _ fun _=>oR _
theorem j6L (N a b):OLe (@j0U (j03 N) a b) (j0U a b):=by
 unfold j0U
 with_reducible repeat' (first | exact oR _ | exact oN _ | exact j8L N _ _ _ _ | apply oC | apply oS | refine oB ?_ ?_ | intro _)
theorem j8M (N a b):OLe (@j3A (j03 N) a b) (j3A a b):=OLe.loop N _ fun _=>j6L N _ _
theorem jaF (N a):OLe (@j20 (j03 N) a) (j20 a):=by
 unfold j20
 with_reducible repeat' (first | exact oR _ | exact oN _ | exact j8M N _ _ | apply oC | apply oS | refine oB ?_ ?_ | intro _)
theorem jga (N a b c):OLe (@jb1 (j03 N) a b c) (jb1 a b c):=by
 unfold jb1
 with_reducible repeat' (first | exact oR _ | exact oN _ | exact j8J N _ _ _ | exact jcp N _ | exact jaF N _ | apply oC | apply oS | refine oB ?_ ?_ | intro _)
theorem jfV (N a b c d e):OLe (@jan (j03 N) a b c d e) (jan a b c d e):=OLe.loop N _ fun _=>oR _
theorem jil (N a b c d):OLe (@j97 (j03 N) a b c d) (j97 a b c d):=by
 unfold j97
 with_reducible repeat' (first | exact oR _ | exact oN _ | exact jfV N _ _ _ _ _ | apply oC | apply oS | refine oB ?_ ?_ | intro _)
theorem j9N (N a b):OLe (@j3f (j03 N) a b) (j3f a b):=by
 unfold j3f
 with_reducible repeat' (first | exact oR _ | exact oN _ | exact jil N _ _ _ _ | apply oC | apply oS | refine oB ?_ ?_ | intro _)
theorem j8N (N a b c d e):OLe (@j1q (j03 N) a b c d e) (j1q a b c d e):=by
 unfold j1q
 with_reducible repeat' (first | exact oR _ | exact oN _ | exact j9N N _ _ | apply oC | apply oS | refine oB ?_ ?_ | intro _)
theorem jbN (N a b c d e):OLe (@j5b (j03 N) a b c d e) (j5b a b c d e):=OLe.loop N _ fun _=>j8N N _ _ _ _ _
theorem j5w (N a b c):OLe (@j23 (j03 N) a b c) (j23 a b c):=by
 unfold j23
 with_reducible repeat' (first | exact oR _ | exact oN _ | exact jbN N _ _ _ _ _ | apply oC | apply oS | refine oB ?_ ?_ | intro _)
theorem jcq (N a b c d e):OLe (@j5W (j03 N) a b c d e) (j5W a b c d e):=OLe.loop N _ fun _=>oR _
theorem jel (N a b):OLe (@j3g (j03 N) a b) (j3g a b):=by
 unfold j3g
 with_reducible repeat' (first | exact oR _ | exact oN _ | exact j5w N _ _ _ | exact jcq N _ _ _ _ _ | apply oC | apply oS | refine oB ?_ ?_ | intro _)
theorem j34 (N a b c):OLe (@j1s (j03 N) a b c) (j1s a b c):=by
 unfold j1s
 with_reducible repeat' (first | exact oR _ | exact oN _ | exact jel N _ _ | apply oC | apply oS | refine oB ?_ ?_ | intro _)
theorem j4E (N a b c):OLe (@j1n (j03 N) a b c) (j1n a b c):=OLe.loop N _ fun _=>oR _
theorem j5x (N a):OLe (@j0z (j03 N) a) (j0z a):=by
 unfold j0z
 with_reducible repeat' (first | exact oR _ | exact oN _ | exact j4E N _ _ _ | apply oC | apply oS | refine oB ?_ ?_ | intro _)
theorem j4A (N a b c):OLe (@j1h (j03 N) a b c) (j1h a b c):=OLe.loop N _ fun _=>oR _
theorem j56 (N a):OLe (@j0t (j03 N) a) (j0t a):=by
 unfold j0t
 with_reducible repeat' (first | exact oR _ | exact oN _ | exact j5x N _ | exact j4A N _ _ _ | apply oC | apply oS | refine oB ?_ ?_ | intro _)
theorem jgu (N a b c d):OLe (@jby (j03 N) a b c d) (jby a b c d):=OLe.loop N _ fun _=>oR _
theorem j57 (N a):OLe (@j4w (j03 N) a) (j4w a):=by
 unfold j4w
 with_reducible repeat' (first | exact oR _ | exact oN _ | exact j56 N _ | exact jgu N _ _ _ _ | apply oC | apply oS | refine oB ?_ ?_ | intro _)
theorem jfg (N a b c d e f g h i j k l):OLe (@j98 (j03 N) a b c d e f g h i j k l) (j98 a b c d e f g h i j k l):=OLe.loop N _ fun _=>oR _
theorem jbO (N a b c d e f g h i):OLe (@j2B (j03 N) a b c d e f g h i) (j2B a b c d e f g h i):=by
 unfold j2B
 with_reducible repeat' (first | exact oR _ | exact oN _ | exact jfg N _ _ _ _ _ _ _ _ _ _ _ _ | apply oC | apply oS | refine oB ?_ ?_ | intro _)
theorem jfh (N a b c d e f g h i):OLe (@j99 (j03 N) a b c d e f g h i) (j99 a b c d e f g h i):=OLe.loop N _ fun _=>jbO N _ _ _ _ _ _ _ _ _
theorem jbP (N a b c d e):OLe (@j2C (j03 N) a b c d e) (j2C a b c d e):=by
 unfold j2C
 with_reducible repeat' (first | exact oR _ | exact oN _ | exact jfh N _ _ _ _ _ _ _ _ _ | apply oC | apply oS | refine oB ?_ ?_ | intro _)
theorem jfi (N a b c d e):OLe (@j9a (j03 N) a b c d e) (j9a a b c d e):=OLe.loop N _ fun _=>jbP N _ _ _ _ _
theorem jd6 (N a b c d):OLe (@j3m (j03 N) a b c d) (j3m a b c d):=by
 unfold j3m
 with_reducible repeat' (first | exact oR _ | exact oN _ | exact j5w N _ _ _ | exact jfi N _ _ _ _ _ | exact j57 N _ | apply oC | apply oS | refine oB ?_ ?_ | intro _)
theorem jdu (N a b c d e f g h i j k l m):OLe (@j77 (j03 N) a b c d e f g h i j k l m) (j77 a b c d e f g h i j k l m):=OLe.loop N _ fun _=>oR _
theorem jaG (N a b c d e f g):OLe (@j21 (j03 N) a b c d e f g) (j21 a b c d e f g):=by
 unfold j21
 with_reducible repeat' (first | exact oR _ | exact oN _ | exact jdu N _ _ _ _ _ _ _ _ _ _ _ _ _ | apply oC | apply oS | refine oB ?_ ?_ | intro _)
theorem jdv (N a b c d e f g):OLe (@j78 (j03 N) a b c d e f g) (j78 a b c d e f g):=OLe.loop N _ fun _=>jaG N _ _ _ _ _ _ _
theorem jfW (N a b c d):OLe (@j2R (j03 N) a b c d) (j2R a b c d):=by
 unfold j2R
 with_reducible repeat' (first | exact oR _ | exact oN _ | exact j5w N _ _ _ | exact jdv N _ _ _ _ _ _ _ | exact j57 N _ | apply oC | apply oS | refine oB ?_ ?_ | intro _)
theorem jfj (N a b c d e f g h):OLe (@j9b (j03 N) a b c d e f g h) (j9b a b c d e f g h):=OLe.loop N _ fun _=>oR _
theorem jfk (N a b c d e f g h i j):OLe (@j9c (j03 N) a b c d e f g h i j) (j9c a b c d e f g h i j):=OLe.loop N _ fun _=>oR _
theorem jbQ (N a b c d e f):OLe (@j2D (j03 N) a b c d e f) (j2D a b c d e f):=by
 unfold j2D
 with_reducible repeat' (first | exact oR _ | exact oN _ | exact jfj N _ _ _ _ _ _ _ _ | exact jfk N _ _ _ _ _ _ _ _ _ _ | apply oC | apply oS | refine oB ?_ ?_ | intro _)
theorem jfl (N a b c d e f):OLe (@j9d (j03 N) a b c d e f) (j9d a b c d e f):=OLe.loop N _ fun _=>jbQ N _ _ _ _ _ _
theorem j9O (N a b):OLe (@j3n (j03 N) a b) (j3n a b):=by
 unfold j3n
 with_reducible repeat' (first | exact oR _ | exact oN _ | exact jfl N _ _ _ _ _ _ | apply oC | apply oS | refine oB ?_ ?_ | intro _)
theorem jfX (N a b c d e):OLe (@jao (j03 N) a b c d e) (jao a b c d e):=OLe.loop N _ fun _=>oR _
theorem jdF (N a b):OLe (@j3B (j03 N) a b) (j3B a b):=by
 unfold j3B
 with_reducible repeat' (first | exact oR _ | exact oN _ | exact jfX N _ _ _ _ _ | apply oC | apply oS | refine oB ?_ ?_ | intro _)
theorem jfm (N a b c d):OLe (@j4H (j03 N) a b c d) (j4H a b c d):=by
 unfold j4H
 with_reducible repeat' (first | exact oR _ | exact oN _ | exact j34 N _ _ _ | exact jd6 N _ _ _ _ | exact jfW N _ _ _ _ | exact j9O N _ _ | exact jdF N _ _ | apply oC | apply oS | refine oB ?_ ?_ | intro _)
theorem jdw (N a b):OLe (@j3R (j03 N) a b) (j3R a b):=by
 unfold j3R
 with_reducible repeat' (first | exact oR _ | exact oN _ | exact j9N N _ _ | apply oC | apply oS | refine oB ?_ ?_ | intro _)
theorem j9P (N a b):OLe (@j2w (j03 N) a b) (j2w a b):=by
 unfold j2w
 with_reducible repeat' (first | exact oR _ | exact oN _ | exact jdw N _ _ | apply oC | apply oS | refine oB ?_ ?_ | intro _)
theorem jbb (N a b c d e f g h i j k l m n):OLe (@j2i (j03 N) a b c d e f g h i j k l m n) (j2i a b c d e f g h i j k l m n):=by
 unfold j2i
 with_reducible repeat' (first | exact oR _ | exact oN _ | exact j34 N _ _ _ | apply oC | apply oS | refine oB ?_ ?_ | intro _)
theorem jem (N a b c d e f g h i j k l m n):OLe (@j7V (j03 N) a b c d e f g h i j k l m n) (j7V a b c d e f g h i j k l m n):=OLe.loop N _ fun _=>jbb N _ _ _ _ _ _ _ _ _ _ _ _ _ _
theorem jbc (N a b c d e f g h i j k l m n):OLe (@j2j (j03 N) a b c d e f g h i j k l m n) (j2j a b c d e f g h i j k l m n):=by
 unfold j2j
 with_reducible repeat' (first | exact oR _ | exact oN _ | exact j34 N _ _ _ | apply oC | apply oS | refine oB ?_ ?_ | intro _)
theorem jen (N a b c d e f g h i j k l m n):OLe (@j7W (j03 N) a b c d e f g h i j k l m n) (j7W a b c d e f g h i j k l m n):=OLe.loop N _ fun _=>jbc N _ _ _ _ _ _ _ _ _ _ _ _ _ _
theorem jgv (N a b c):OLe (@j6p (j03 N) a b c) (j6p a b c):=by
 unfold j6p
 with_reducible repeat' (first | exact oR _ | exact oN _ | exact j34 N _ _ _ | exact j9P N _ _ | exact jem N _ _ _ _ _ _ _ _ _ _ _ _ _ _ | exact jen N _ _ _ _ _ _ _ _ _ _ _ _ _ _ | apply oC | apply oS | refine oB ?_ ?_ | intro _)
theorem jgw (N a b c d):OLe (@jbz (j03 N) a b c d) (jbz a b c d):=OLe.loop N _ fun _=>oR _
theorem jbR (N a):OLe (@j79 (j03 N) a) (j79 a):=by
 unfold j79
 with_reducible repeat' (first | exact oR _ | exact oN _ | exact jgw N _ _ _ _ | apply oC | apply oS | refine oB ?_ ?_ | intro _)
theorem j8j (N a b c d e f g h i j k l m n o p q r s t u v):OLe (@j1l (j03 N) a b c d e f g h i j k l m n o p q r s t u v) (j1l a b c d e f g h i j k l m n o p q r s t u v):=by
 unfold j1l
 with_reducible repeat' (first | exact oR _ | exact oN _ | exact jgv N _ _ _ | exact j34 N _ _ _ | apply oC | apply oS | refine oB ?_ ?_ | intro _)
theorem jbd (N a b c d e f g h i j k l m n o p q r s t u v):OLe (@j4I (j03 N) a b c d e f g h i j k l m n o p q r s t u v) (j4I a b c d e f g h i j k l m n o p q r s t u v):=OLe.loop N _ fun _=>j8j N _ _ _ _ _ _ _ _ _ _ _ _ _ _ _ _ _ _ _ _ _ _
theorem j8k (N a b c d e f g h i j k l m n o p q r s t):OLe (@j1m (j03 N) a b c d e f g h i j k l m n o p q r s t) (j1m a b c d e f g h i j k l m n o p q r s t):=by
 unfold j1m
 with_reducible repeat' (first | exact oR _ | exact oN _ | exact jbd N _ _ _ _ _ _ _ _ _ _ _ _ _ _ _ _ _ _ _ _ _ _ | apply oC | apply oS | refine oB ?_ ?_ | intro _)
theorem jbe (N a b c d e f g h i j k l m n o p q r s t):OLe (@j4J (j03 N) a b c d e f g h i j k l m n o p q r s t) (j4J a b c d e f g h i j k l m n o p q r s t):=OLe.loop N _ fun _=>j8k N _ _ _ _ _ _ _ _ _ _ _ _ _ _ _ _ _ _ _ _
theorem jd7 (N a b c d):OLe (@j3o (j03 N) a b c d) (j3o a b c d):=by
 unfold j3o
 with_reducible repeat' (first | exact oR _ | exact oN _ | exact jfm N _ _ _ _ | exact jbe N _ _ _ _ _ _ _ _ _ _ _ _ _ _ _ _ _ _ _ _ | exact jbR N _ | apply oC | apply oS | refine oB ?_ ?_ | intro _)
theorem jfn (N a b c d e):OLe (@j9f (j03 N) a b c d e) (j9f a b c d e):=OLe.loop N _ fun _=>oR _
theorem jhP (N a b):OLe (@j7B (j03 N) a b) (j7B a b):=by
 unfold j7B
 with_reducible repeat' (first | exact oR _ | exact oN _ | exact jfn N _ _ _ _ _ | exact j57 N _ | apply oC | apply oS | refine oB ?_ ?_ | intro _)
theorem jeo (N a b c d e f g h i j k l m n):OLe (@j5M (j03 N) a b c d e f g h i j k l m n) (j5M a b c d e f g h i j k l m n):=OLe.loop N _ fun _=>oR _
theorem jbf (N a b c d e f g h):OLe (@j2k (j03 N) a b c d e f g h) (j2k a b c d e f g h):=by
 unfold j2k
 with_reducible repeat' (first | exact oR _ | exact oN _ | exact jhP N _ _ | exact j9O N _ _ | exact jeo N _ _ _ _ _ _ _ _ _ _ _ _ _ _ | apply oC | apply oS | refine oB ?_ ?_ | intro _)
theorem jep (N a b c d e f g h):OLe (@j7X (j03 N) a b c d e f g h) (j7X a b c d e f g h):=OLe.loop N _ fun _=>jbf N _ _ _ _ _ _ _ _
theorem jgx (N a b):OLe (@j6q (j03 N) a b) (j6q a b):=by
 unfold j6q
 with_reducible repeat' (first | exact oR _ | exact oN _ | exact jep N _ _ _ _ _ _ _ _ | apply oC | apply oS | refine oB ?_ ?_ | intro _)
theorem jfo (N a b c d e):OLe (@j9g (j03 N) a b c d e) (j9g a b c d e):=OLe.loop N _ fun _=>oR _
theorem jhQ (N a b):OLe (@j7D (j03 N) a b) (j7D a b):=by
 unfold j7D
 with_reducible repeat' (first | exact oR _ | exact oN _ | exact jfo N _ _ _ _ _ | apply oC | apply oS | refine oB ?_ ?_ | intro _)
theorem jfY (N a b c d):OLe (@jap (j03 N) a b c d) (jap a b c d):=OLe.loop N _ fun _=>oR _
theorem jim (N a):OLe (@j9i (j03 N) a) (j9i a):=by
 unfold j9i
 with_reducible repeat' (first | exact oR _ | exact oN _ | exact jfY N _ _ _ _ | exact j57 N _ | apply oC | apply oS | refine oB ?_ ?_ | intro _)
theorem j9Q (N a b c d e f g h i j k l m n):OLe (@j1C (j03 N) a b c d e f g h i j k l m n) (j1C a b c d e f g h i j k l m n):=by
 unfold j1C
 with_reducible repeat' (first | exact oR _ | exact oN _ | exact jd7 N _ _ _ _ | exact jgx N _ _ | exact jhQ N _ _ | exact jim N _ | exact j9O N _ _ | apply oC | apply oS | refine oB ?_ ?_ | intro _)
theorem jcr (N a b c d e f g h i j k l m n):OLe (@j5X (j03 N) a b c d e f g h i j k l m n) (j5X a b c d e f g h i j k l m n):=OLe.loop N _ fun _=>j9Q N _ _ _ _ _ _ _ _ _ _ _ _ _ _
theorem jcs (N a b c d):OLe (@j5Y (j03 N) a b c d) (j5Y a b c d):=OLe.loop N _ fun _=>oR _
theorem jeq (N a b c d):OLe (@j4o (j03 N) a b c d) (j4o a b c d):=by
 unfold j4o
 with_reducible repeat' (first | exact oR _ | exact oN _ | exact jcr N _ _ _ _ _ _ _ _ _ _ _ _ _ _ | exact jcs N _ _ _ _ | exact jbR N _ | apply oC | apply oS | refine oB ?_ ?_ | intro _)
theorem j6M (N a b c d e):OLe (@j2l (j03 N) a b c d e) (j2l a b c d e):=OLe.loop N _ fun _=>oR _
theorem j7Q (N a b):OLe (@j1b (j03 N) a b) (j1b a b):=by
 unfold j1b
 with_reducible repeat' (first | exact oR _ | exact oN _ | exact j6M N _ _ _ _ _ | apply oC | apply oS | refine oB ?_ ?_ | intro _)
theorem jhR (N a b c d e):OLe (@jcQ (j03 N) a b c d e) (jcQ a b c d e):=OLe.loop N _ fun _=>oR _
theorem jkY (N a b c):OLe (@jcR (j03 N) a b c) (jcR a b c):=by
 unfold jcR
 with_reducible repeat' (first | exact oR _ | exact oN _ | exact jhR N _ _ _ _ _ | apply oC | apply oS | refine oB ?_ ?_ | intro _)
theorem jd8 (N a b c d e f g h i j k l m n):OLe (@j6s (j03 N) a b c d e f g h i j k l m n) (j6s a b c d e f g h i j k l m n):=OLe.loop N _ fun _=>oR _
theorem ja2 (N a b c d e f g h i j k l m):OLe (@j1Q (j03 N) a b c d e f g h i j k l m) (j1Q a b c d e f g h i j k l m):=by
 unfold j1Q
 with_reducible repeat' (first | exact oR _ | exact oN _ | exact jkY N _ _ _ | apply oC | apply oS | refine oB ?_ ?_ | intro _)
theorem jd9 (N a b c d e f g h i j k l m):OLe (@j6t (j03 N) a b c d e f g h i j k l m) (j6t a b c d e f g h i j k l m):=OLe.loop N _ fun _=>ja2 N _ _ _ _ _ _ _ _ _ _ _ _ _
theorem ja3 (N a b c d e f g h):OLe (@j1R (j03 N) a b c d e f g h) (j1R a b c d e f g h):=by
 unfold j1R
 with_reducible repeat' (first | exact oR _ | exact oN _ | exact j7Q N _ _ | exact jd9 N _ _ _ _ _ _ _ _ _ _ _ _ _ | apply oC | apply oS | refine oB ?_ ?_ | intro _)
theorem jda (N a b c d e f g h):OLe (@j6u (j03 N) a b c d e f g h) (j6u a b c d e f g h):=OLe.loop N _ fun _=>ja3 N _ _ _ _ _ _ _ _
theorem jai (N a b c d):OLe (@j3S (j03 N) a b c d) (j3S a b c d):=by
 unfold j3S
 with_reducible repeat' (first | exact oR _ | exact oN _ | exact jd8 N _ _ _ _ _ _ _ _ _ _ _ _ _ _ | exact jga N _ _ _ | exact jeq N _ _ _ _ | exact jda N _ _ _ _ _ _ _ _ | exact jbR N _ | apply oC | apply oS | refine oB ?_ ?_ | intro _)
theorem jdx (N a b c d e):OLe (@j7a (j03 N) a b c d e) (j7a a b c d e):=OLe.loop N _ fun _=>oR _
theorem jfZ (N a b):OLe (@j5z (j03 N) a b) (j5z a b):=by
 unfold j5z
 with_reducible repeat' (first | exact oR _ | exact oN _ | exact jdx N _ _ _ _ _ | exact j57 N _ | apply oC | apply oS | refine oB ?_ ?_ | intro _)
theorem jbg (N a b c d e f g h i j k l):OLe (@j2m (j03 N) a b c d e f g h i j k l) (j2m a b c d e f g h i j k l):=by
 unfold j2m
 with_reducible repeat' (first | exact oR _ | exact oN _ | exact jai N _ _ _ _ | exact jfZ N _ _ | apply oC | apply oS | refine oB ?_ ?_ | intro _)
theorem jer (N a b c d e f g h i j k l):OLe (@j7Z (j03 N) a b c d e f g h i j k l) (j7Z a b c d e f g h i j k l):=OLe.loop N _ fun _=>jbg N _ _ _ _ _ _ _ _ _ _ _ _
theorem jca (N a b c d):OLe (@j4X (j03 N) a b c d) (j4X a b c d):=by
 unfold j4X
 with_reducible repeat' (first | exact oR _ | exact oN _ | exact jer N _ _ _ _ _ _ _ _ _ _ _ _ | exact j57 N _ | apply oC | apply oS | refine oB ?_ ?_ | intro _)
theorem jdb (N a b c d e f g):OLe (@j6w (j03 N) a b c d e f g) (j6w a b c d e f g):=OLe.loop N _ fun _=>oR _
theorem jfp (N a b c d):OLe (@j4K (j03 N) a b c d) (j4K a b c d):=by
 unfold j4K
 with_reducible repeat' (first | exact oR _ | exact oN _ | exact jdb N _ _ _ _ _ _ _ | apply oC | apply oS | refine oB ?_ ?_ | intro _)
theorem j4i (N a b c d e):OLe (@j0Z (j03 N) a b c d e) (j0Z a b c d e):=OLe.loop N _ fun _=>oR _
theorem j3v (N a b c d):OLe (@j0e (j03 N) a b c d) (j0e a b c d):=by
 unfold j0e
 with_reducible repeat' (first | exact oR _ | exact oN _ | exact j4i N _ _ _ _ _ | apply oC | apply oS | refine oB ?_ ?_ | intro _)
theorem j4j (N a b c d):OLe (@j10 (j03 N) a b c d) (j10 a b c d):=OLe.loop N _ fun _=>j3v N _ _ _ _
theorem j2a (N a b c):OLe (@j0i (j03 N) a b c) (j0i a b c):=by
 unfold j0i
 with_reducible repeat' (first | exact oR _ | exact oN _ | exact j4j N _ _ _ _ | apply oC | apply oS | refine oB ?_ ?_ | intro _)
theorem j4B (N a b c d e):OLe (@j0o (j03 N) a b c d e) (j0o a b c d e):=by
 unfold j0o
 with_reducible repeat' (first | exact oR _ | exact oN _ | exact j2a N _ _ _ | apply oC | apply oS | refine oB ?_ ?_ | intro _)
theorem j5G (N a b c d e):OLe (@j1S (j03 N) a b c d e) (j1S a b c d e):=OLe.loop N _ fun _=>j4B N _ _ _ _ _
theorem j5H (N a b c d e):OLe (@j1T (j03 N) a b c d e) (j1T a b c d e):=OLe.loop N _ fun _=>oR _
theorem j4C (N a b c):OLe (@j0p (j03 N) a b c) (j0p a b c):=by
 unfold j0p
 with_reducible repeat' (first | exact oR _ | exact oN _ | exact j5H N _ _ _ _ _ | apply oC | apply oS | refine oB ?_ ?_ | intro _)
theorem j5I (N a b c):OLe (@j1U (j03 N) a b c) (j1U a b c):=OLe.loop N _ fun _=>j4C N _ _ _
theorem j6N (N a b):OLe (@j0V (j03 N) a b) (j0V a b):=by
 unfold j0V
 with_reducible repeat' (first | exact oR _ | exact oN _ | exact j5G N _ _ _ _ _ | exact j2a N _ _ _ | exact j5I N _ _ _ | apply oC | apply oS | refine oB ?_ ?_ | intro _)
theorem j42 (N a):OLe (@j0k (j03 N) a) (j0k a):=by
 unfold j0k
 with_reducible repeat' (first | exact oR _ | exact oN _ | exact j6N N _ _ | apply oC | apply oS | refine oB ?_ ?_ | intro _)
theorem j9R (N a b c d e f g h i j k):OLe (@j1E (j03 N) a b c d e f g h i j k) (j1E a b c d e f g h i j k):=by
 unfold j1E
 with_reducible repeat' (first | exact oR _ | exact oN _ | exact jai N _ _ _ _ | apply oC | apply oS | refine oB ?_ ?_ | intro _)
theorem jct (N a b c d e f g h i j k):OLe (@j5Z (j03 N) a b c d e f g h i j k) (j5Z a b c d e f g h i j k):=OLe.loop N _ fun _=>j9R N _ _ _ _ _ _ _ _ _ _ _
theorem j9S (N a b c d e f):OLe (@j1F (j03 N) a b c d e f) (j1F a b c d e f):=by
 unfold j1F
 with_reducible repeat' (first | exact oR _ | exact oN _ | exact jfp N _ _ _ _ | apply oC | apply oS | refine oB ?_ ?_ | intro _)
theorem jcu (N a b c d e f):OLe (@j60 (j03 N) a b c d e f) (j60 a b c d e f):=OLe.loop N _ fun _=>j9S N _ _ _ _ _ _
theorem j9T (N a b c d):OLe (@j1G (j03 N) a b c d) (j1G a b c d):=by
 unfold j1G
 with_reducible repeat' (first | exact oR _ | exact oN _ | exact jcu N _ _ _ _ _ _ | apply oC | apply oS | refine oB ?_ ?_ | intro _)
theorem jcv (N a b c d):OLe (@j61 (j03 N) a b c d) (j61 a b c d):=OLe.loop N _ fun _=>j9T N _ _ _ _
theorem jes (N a b c):OLe (@j4p (j03 N) a b c) (j4p a b c):=by
 unfold j4p
 with_reducible repeat' (first | exact oR _ | exact oN _ | exact jiV N _ | exact jct N _ _ _ _ _ _ _ _ _ _ _ | exact jcv N _ _ _ _ | exact j42 N _ | apply oC | apply oS | refine oB ?_ ?_ | intro _)
theorem jet (N a b c d e):OLe (@j80 (j03 N) a b c d e) (j80 a b c d e):=OLe.loop N _ fun _=>oR _
theorem jgy (N a b):OLe (@j4Y (j03 N) a b) (j4Y a b):=by
 unfold j4Y
 with_reducible repeat' (first | exact oR _ | exact oN _ | exact jet N _ _ _ _ _ | apply oC | apply oS | refine oB ?_ ?_ | intro _)
theorem jfq (N a b c d e f g h):OLe (@j9k (j03 N) a b c d e f g h) (j9k a b c d e f g h):=OLe.loop N _ fun _=>oR _
theorem jbS (N a b c d e f g):OLe (@j2E (j03 N) a b c d e f g) (j2E a b c d e f g):=by
 unfold j2E
 with_reducible repeat' (first | exact oR _ | exact oN _ | exact jgy N _ _ | apply oC | apply oS | refine oB ?_ ?_ | intro _)
theorem jfr (N a b c d e f g):OLe (@j9l (j03 N) a b c d e f g) (j9l a b c d e f g):=OLe.loop N _ fun _=>jbS N _ _ _ _ _ _ _
theorem jhS (N a b c d):OLe (@j7F (j03 N) a b c d) (j7F a b c d):=by
 unfold j7F
 with_reducible repeat' (first | exact oR _ | exact oN _ | exact jfq N _ _ _ _ _ _ _ _ | exact jga N _ _ _ | exact jfr N _ _ _ _ _ _ _ | apply oC | apply oS | refine oB ?_ ?_ | intro _)
theorem jfs (N a b c d):OLe (@j9m (j03 N) a b c d) (j9m a b c d):=OLe.loop N _ fun _=>oR _
theorem jhT (N a b):OLe (@j6e (j03 N) a b) (j6e a b):=by
 unfold j6e
 with_reducible repeat' (first | exact oR _ | exact oN _ | exact jfs N _ _ _ _ | apply oC | apply oS | refine oB ?_ ?_ | intro _)
theorem jeu (N a b c d):OLe (@j81 (j03 N) a b c d) (j81 a b c d):=OLe.loop N _ fun _=>oR _
theorem jgz (N a):OLe (@j3p (j03 N) a) (j3p a):=by
 unfold j3p
 with_reducible repeat' (first | exact oR _ | exact oN _ | exact jeu N _ _ _ _ | apply oC | apply oS | refine oB ?_ ?_ | intro _)
theorem j3w (N a b c d):OLe (@j0O (j03 N) a b c d) (j0O a b c d):=OLe.loop N _ fun _=>oR _
theorem j2Q (N a b):OLe (@j0a (j03 N) a b) (j0a a b):=by
 unfold j0a
 with_reducible repeat' (first | exact oR _ | exact oN _ | exact j3w N _ _ _ _ | apply oC | apply oS | refine oB ?_ ?_ | intro _)
theorem j3x (N a b):OLe (@j0P (j03 N) a b) (j0P a b):=OLe.loop N _ fun _=>j2Q N _ _
theorem j3Y (N a):OLe (@j02 (j03 N) a) (j02 a):=by
 unfold j02
 with_reducible repeat' (first | exact oR _ | exact oN _ | exact j3x N _ _ | apply oC | apply oS | refine oB ?_ ?_ | intro _)
theorem jbT (N a b c d e):OLe (@j0v (j03 N) a b c d e) (j0v a b c d e):=OLe.loop N _ fun _=>oR _
theorem jbU (N a b c d e f g h):OLe (@j5c (j03 N) a b c d e f g h) (j5c a b c d e f g h):=OLe.loop N _ fun _=>oR _
theorem j8O (N a b c d):OLe (@j1r (j03 N) a b c d) (j1r a b c d):=by
 unfold j1r
 with_reducible repeat' (first | exact oR _ | exact oN _ | exact jbU N _ _ _ _ _ _ _ _ | apply oC | apply oS | refine oB ?_ ?_ | intro _)
theorem jbV (N a b c d):OLe (@j0w (j03 N) a b c d) (j0w a b c d):=OLe.loop N _ fun _=>j8O N _ _ _ _
theorem j2H (N a b c d):OLe (@j08 (j03 N) a b c d) (j08 a b c d):=by
 unfold j08
 with_reducible repeat' (first | exact oR _ | exact oN _ | exact jaE N _ _ _ _ | exact jca N _ _ _ _ | exact jes N _ _ _ | exact jhS N _ _ _ _ | exact jhT N _ _ | exact jd6 N _ _ _ _ | exact jdF N _ _ | exact jgz N _ | exact jbT N _ _ _ _ _ | exact jbV N _ _ _ _ | exact j3Y N _ | apply oC | apply oS | refine oB ?_ ?_ | intro _)
theorem jgA (N a b c d):OLe (@j6x (j03 N) a b c d) (j6x a b c d):=by
 unfold j6x
 with_reducible repeat' (first | exact oR _ | exact oN _ | exact jaE N _ _ _ _ | exact jca N _ _ _ _ | apply oC | apply oS | refine oB ?_ ?_ | intro _)
theorem jin (N a b c d):OLe (@jdX (j03 N) a b c d) (jdX a b c d):=OLe.loop N _ fun _=>oR _
theorem jlI (N a b):OLe (@jdm (j03 N) a b) (jdm a b):=by
 unfold jdm
 with_reducible repeat' (first | exact oR _ | exact oN _ | exact jin N _ _ _ _ | apply oC | apply oS | refine oB ?_ ?_ | intro _)
theorem jev (N a b c d):OLe (@j3h (j03 N) a b c d) (j3h a b c d):=by
 unfold j3h
 with_reducible repeat' (first | exact oR _ | exact oN _ | exact jaE N _ _ _ _ | exact j9P N _ _ | exact jlI N _ _ | apply oC | apply oS | refine oB ?_ ?_ | intro _)
theorem jjQ (N):OLe (@j8U (j03 N) ) (j8U ):=by
 unfold j8U
 with_reducible repeat' (first | exact oR _ | exact oN _ | exact j2H N _ _ _ _ | exact jgA N _ _ _ _ | exact jev N _ _ _ _ | apply oC | apply oS | refine oB ?_ ?_ | intro _)
end
end Go.Proofs.Pw
