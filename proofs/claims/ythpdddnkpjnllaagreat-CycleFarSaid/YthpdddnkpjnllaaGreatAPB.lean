/- Twins with a bound on their rounds, printed by a program. -/
import Derived.Test.YthpdddnkpjnllaaGreatAFns
import Derived.Test.YthpdddnkpjnllaaGreatALD
open Go Go.Lft
set_option linter.unusedVariables false
set_option maxRecDepth 100000
namespace Go.Proofs.Pw
noncomputable section
theorem j0ft (N a b c):OLe (@j04l (natLP N) a b c) (j04l a b c):=OLe.loop N _ fun _=>oR _
theorem j06Q (N a):OLe (@j054 (natLP N) a) (j054 a):=by
 unfold j054
 with_reducible repeat' (first | exact oR _ | exact oN _ | exact j0ft N _ _ _ | apply oC | apply oS | refine oB ?_ ?_ | intro _)
theorem j05g (N a b):OLe (@j02B (natLP N) a b) (j02B a b):=by
 unfold j02B
 with_reducible repeat' (first | exact oR _ | exact oN _ | exact j06Q N _ | apply oC | apply oS | refine oB ?_ ?_ | intro _)
theorem j0ec (N a b c d e):OLe (@j044 (natLP N) a b c d e) (j044 a b c d e):=OLe.loop N _ fun _=>oR _
theorem j0fV (N a):OLe (@j05q (natLP N) a) (j05q a):=by
 unfold j05q
 with_reducible repeat' (first | exact oR _ | exact oN _ | exact j0ec N _ _ _ _ _ | apply oC | apply oS | refine oB ?_ ?_ | intro _)
theorem j0jj (N a b c d):OLe (@j09w (natLP N) a b c d) (j09w a b c d):=by
 unfold j09w
 with_reducible repeat' (first | exact oR _ | exact oN _ | exact j0fV N _ | apply oC | apply oS | refine oB ?_ ?_ | intro _)
theorem j031 (N a b c d e):OLe (@j00a (natLP N) a b c d e) (j00a a b c d e):=OLe.loop N _ fun _=>oR _
theorem j02w (N a b c d):OLe (@j004 (natLP N) a b c d) (j004 a b c d):=by
 unfold j004
 with_reducible repeat' (first | exact oR _ | exact oN _ | exact j031 N _ _ _ _ _ | apply oC | apply oS | refine oB ?_ ?_ | intro _)
theorem j032 (N a b c d):OLe (@j00b (natLP N) a b c d) (j00b a b c d):=OLe.loop N _ fun _=>j02w N _ _ _ _
theorem j01F (N a b c):OLe (@j006 (natLP N) a b c) (j006 a b c):=by
 unfold j006
 with_reducible repeat' (first | exact oR _ | exact oN _ | exact j032 N _ _ _ _ | apply oC | apply oS | refine oB ?_ ?_ | intro _)
theorem j03e (N a b c d e):OLe (@j008 (natLP N) a b c d e) (j008 a b c d e):=by
 unfold j008
 with_reducible repeat' (first | exact oR _ | exact oN _ | exact j01F N _ _ _ | apply oC | apply oS | refine oB ?_ ?_ | intro _)
theorem j04c (N a b c d e):OLe (@j00n (natLP N) a b c d e) (j00n a b c d e):=OLe.loop N _ fun _=>j03e N _ _ _ _ _
theorem j04d (N a b c d e):OLe (@j01i (natLP N) a b c d e) (j01i a b c d e):=OLe.loop N _ fun _=>oR _
theorem j03f (N a b c):OLe (@j009 (natLP N) a b c) (j009 a b c):=by
 unfold j009
 with_reducible repeat' (first | exact oR _ | exact oN _ | exact j04d N _ _ _ _ _ | apply oC | apply oS | refine oB ?_ ?_ | intro _)
theorem j04e (N a b c):OLe (@j00o (natLP N) a b c) (j00o a b c):=OLe.loop N _ fun _=>j03f N _ _ _
theorem j04S (N a b):OLe (@j00v (natLP N) a b) (j00v a b):=by
 unfold j00v
 with_reducible repeat' (first | exact oR _ | exact oN _ | exact j04c N _ _ _ _ _ | exact j01F N _ _ _ | exact j04e N _ _ _ | apply oC | apply oS | refine oB ?_ ?_ | intro _)
theorem j02p (N a):OLe (@j005 (natLP N) a) (j005 a):=by
 unfold j005
 with_reducible repeat' (first | exact oR _ | exact oN _ | exact j04S N _ _ | apply oC | apply oS | refine oB ?_ ?_ | intro _)
theorem j0b7 (N a b c d e f g):OLe (@j01J (natLP N) a b c d e f g) (j01J a b c d e f g):=OLe.loop N _ fun _=>oR _
theorem j08a (N a b c d e f g h i j k l):OLe (@j00K (natLP N) a b c d e f g h i j k l) (j00K a b c d e f g h i j k l):=by
 unfold j00K
 with_reducible repeat' (first | exact oR _ | exact oN _ | exact j0jj N _ _ _ _ | apply oC | apply oS | refine oB ?_ ?_ | intro _)
theorem j0b8 (N a b c d e f g h i j k l):OLe (@j02f (natLP N) a b c d e f g h i j k l) (j02f a b c d e f g h i j k l):=OLe.loop N _ fun _=>j08a N _ _ _ _ _ _ _ _ _ _ _ _
theorem j08b (N a b c d):OLe (@j00L (natLP N) a b c d) (j00L a b c d):=by
 unfold j00L
 with_reducible repeat' (first | exact oR _ | exact oN _ | exact j0b8 N _ _ _ _ _ _ _ _ _ _ _ _ | apply oC | apply oS | refine oB ?_ ?_ | intro _)
theorem j0b9 (N a b c d):OLe (@j01K (natLP N) a b c d) (j01K a b c d):=OLe.loop N _ fun _=>j08b N _ _ _ _
theorem j0df (N a):OLe (@j02D (natLP N) a) (j02D a):=by
 unfold j02D
 with_reducible repeat' (first | exact oR _ | exact oN _ | exact j0b7 N _ _ _ _ _ _ _ | exact j0b9 N _ _ _ _ | exact j02p N _ | apply oC | apply oS | refine oB ?_ ?_ | intro _)
theorem j0ba (N a b c d e):OLe (@j01M (natLP N) a b c d e) (j01M a b c d e):=OLe.loop N _ fun _=>oR _
theorem j08G (N a):OLe (@j01w (natLP N) a) (j01w a):=by
 unfold j01w
 with_reducible repeat' (first | exact oR _ | exact oN _ | exact j0df N _ | exact j0ba N _ _ _ _ _ | apply oC | apply oS | refine oB ?_ ?_ | intro _)
theorem j0i8 (N a):OLe (@j06C (natLP N) a) (j06C a):=by
 unfold j06C
 with_reducible repeat' (first | exact oR _ | exact oN _ | exact j08G N _ | apply oC | apply oS | refine oB ?_ ?_ | intro _)
theorem j03a (N a b c):OLe (@j00c (natLP N) a b c) (j00c a b c):=OLe.loop N _ fun _=>oR _
theorem j03H (N a):OLe (@j00i (natLP N) a) (j00i a):=by
 unfold j00i
 with_reducible repeat' (first | exact oR _ | exact oN _ | exact j03a N _ _ _ | apply oC | apply oS | refine oB ?_ ?_ | intro _)
theorem j03b (N a):OLe (@j00d (natLP N) a) (j00d a):=by
 unfold j00d
 with_reducible repeat' (first | exact oR _ | exact oN _ | exact j03H N _ | apply oC | apply oS | refine oB ?_ ?_ | intro _)
theorem j0cb (N a):OLe (@j01W (natLP N) a) (j01W a):=by
 unfold j01W
 with_reducible repeat' (first | exact oR _ | exact oN _ | exact j0i8 N _ | exact j03b N _ | apply oC | apply oS | refine oB ?_ ?_ | intro _)
theorem j068 (N a b c d):OLe (@j00q (natLP N) a b c d) (j00q a b c d):=by
 unfold j00q
 with_reducible repeat' (first | exact oR _ | exact oN _ | exact j05g N _ _ | exact j0cb N _ | apply oC | apply oS | refine oB ?_ ?_ | intro _)
theorem j083 (N a b c d):OLe (@j00U (natLP N) a b c d) (j00U a b c d):=OLe.loop N _ fun _=>j068 N _ _ _ _
theorem j09r (N a):OLe (@j01e (natLP N) a) (j01e a):=by
 unfold j01e
 with_reducible repeat' (first | exact oR _ | exact oN _ | exact j083 N _ _ _ _ | apply oC | apply oS | refine oB ?_ ?_ | intro _)
theorem j0fu (N a b c d):OLe (@j05I (natLP N) a b c d) (j05I a b c d):=OLe.loop N _ fun _=>oR _
theorem j0en (N a):OLe (@j06D (natLP N) a) (j06D a):=by
 unfold j06D
 with_reducible repeat' (first | exact oR _ | exact oN _ | exact j0fu N _ _ _ _ | apply oC | apply oS | refine oB ?_ ?_ | intro _)
theorem j0bb (N a b):OLe (@j01b (natLP N) a b) (j01b a b):=by
 unfold j01b
 with_reducible repeat' (first | exact oR _ | exact oN _ | exact j0en N _ | apply oC | apply oS | refine oB ?_ ?_ | intro _)
theorem j0fv (N a b):OLe (@j0aw (natLP N) a b) (j0aw a b):=OLe.loop N _ fun _=>oR _
theorem j0i9 (N a):OLe (@j0ax (natLP N) a) (j0ax a):=by
 unfold j0ax
 with_reducible repeat' (first | exact oR _ | exact oN _ | exact j0fv N _ _ | apply oC | apply oS | refine oB ?_ ?_ | intro _)
theorem j0ed (N a b c d e f g):OLe (@j08M (natLP N) a b c d e f g) (j08M a b c d e f g):=OLe.loop N _ fun _=>oR _
theorem j0fW (N a):OLe (@j033 (natLP N) a) (j033 a):=by
 unfold j033
 with_reducible repeat' (first | exact oR _ | exact oN _ | exact j0i9 N _ | exact j0ed N _ _ _ _ _ _ _ | apply oC | apply oS | refine oB ?_ ?_ | intro _)
theorem j07s (N a):OLe (@j00B (natLP N) a) (j00B a):=by
 unfold j00B
 with_reducible repeat' (first | exact oR _ | exact oN _ | exact j0fW N _ | apply oC | apply oS | refine oB ?_ ?_ | intro _)
theorem j08c (N a):OLe (@j01j (natLP N) a) (j01j a):=by
 unfold j01j
 with_reducible repeat' (first | exact oR _ | exact oN _ | exact j07s N _ | apply oC | apply oS | refine oB ?_ ?_ | intro _)
theorem j05J (N a b c):OLe (@j00k (natLP N) a b c) (j00k a b c):=by
 unfold j00k
 with_reducible repeat' (first | exact oR _ | exact oN _ | exact j08c N _ | apply oC | apply oS | refine oB ?_ ?_ | intro _)
theorem j075 (N a b c):OLe (@j00X (natLP N) a b c) (j00X a b c):=OLe.loop N _ fun _=>j05J N _ _ _
theorem j08d (N a):OLe (@j01k (natLP N) a) (j01k a):=by
 unfold j01k
 with_reducible repeat' (first | exact oR _ | exact oN _ | exact j075 N _ _ _ | apply oC | apply oS | refine oB ?_ ?_ | intro _)
theorem j076 (N a):OLe (@j00Y (natLP N) a) (j00Y a):=by
 unfold j00Y
 with_reducible repeat' (first | exact oR _ | exact oN _ | exact j08d N _ | apply oC | apply oS | refine oB ?_ ?_ | intro _)
theorem j08e (N a b c d e):OLe (@j01l (natLP N) a b c d e) (j01l a b c d e):=OLe.loop N _ fun _=>oR _
theorem j0a3 (N a b):OLe (@j015 (natLP N) a b) (j015 a b):=by
 unfold j015
 with_reducible repeat' (first | exact oR _ | exact oN _ | exact j076 N _ | exact j08e N _ _ _ _ _ | apply oC | apply oS | refine oB ?_ ?_ | intro _)
theorem j0dg (N a b c d e):OLe (@j03k (natLP N) a b c d e) (j03k a b c d e):=by
 unfold j03k
 with_reducible repeat' (first | exact oR _ | exact oN _ | exact j0a3 N _ _ | apply oC | apply oS | refine oB ?_ ?_ | intro _)
theorem j05h (N a b c d e f g h):OLe (@j00g (natLP N) a b c d e f g h) (j00g a b c d e f g h):=by
 unfold j00g
 with_reducible repeat' (first | exact oR _ | exact oN _ | exact j05g N _ _ | exact j0dg N _ _ _ _ _ | apply oC | apply oS | refine oB ?_ ?_ | intro _)
theorem j06n (N a b c d e f g h):OLe (@j00y (natLP N) a b c d e f g h) (j00y a b c d e f g h):=OLe.loop N _ fun _=>j05h N _ _ _ _ _ _ _ _
theorem j07t (N a b c d e):OLe (@j00P (natLP N) a b c d e) (j00P a b c d e):=by
 unfold j00P
 with_reducible repeat' (first | exact oR _ | exact oN _ | exact j06n N _ _ _ _ _ _ _ _ | apply oC | apply oS | refine oB ?_ ?_ | intro _)
theorem j069 (N a b c d e f g):OLe (@j00G (natLP N) a b c d e f g) (j00G a b c d e f g):=OLe.loop N _ fun _=>oR _
theorem j077 (N a b c d e):OLe (@j00Z (natLP N) a b c d e) (j00Z a b c d e):=by
 unfold j00Z
 with_reducible repeat' (first | exact oR _ | exact oN _ | exact j069 N _ _ _ _ _ _ _ | apply oC | apply oS | refine oB ?_ ?_ | intro _)
theorem j06a (N a b c d e):OLe (@j00H (natLP N) a b c d e) (j00H a b c d e):=by
 unfold j00H
 with_reducible repeat' (first | exact oR _ | exact oN _ | exact j077 N _ _ _ _ _ | apply oC | apply oS | refine oB ?_ ?_ | intro _)
theorem j0bB (N a b):OLe (@j01C (natLP N) a b) (j01C a b):=by
 unfold j01C
 with_reducible repeat' (first | exact oR _ | exact oN _ | exact j07s N _ | exact j06a N _ _ _ _ _ | exact j0en N _ | apply oC | apply oS | refine oB ?_ ?_ | intro _)
theorem j08f (N a b c d e):OLe (@j01m (natLP N) a b c d e) (j01m a b c d e):=by
 unfold j01m
 with_reducible repeat' (first | exact oR _ | exact oN _ | exact j0bB N _ _ | apply oC | apply oS | refine oB ?_ ?_ | intro _)
theorem j065 (N a b c d e f g h):OLe (@j00p (natLP N) a b c d e f g h) (j00p a b c d e f g h):=by
 unfold j00p
 with_reducible repeat' (first | exact oR _ | exact oN _ | exact j05g N _ _ | exact j08f N _ _ _ _ _ | apply oC | apply oS | refine oB ?_ ?_ | intro _)
theorem j07u (N a b c d e f g h):OLe (@j00Q (natLP N) a b c d e f g h) (j00Q a b c d e f g h):=OLe.loop N _ fun _=>j065 N _ _ _ _ _ _ _ _
theorem j096 (N a b c d e):OLe (@j01a (natLP N) a b c d e) (j01a a b c d e):=by
 unfold j01a
 with_reducible repeat' (first | exact oR _ | exact oN _ | exact j07u N _ _ _ _ _ _ _ _ | apply oC | apply oS | refine oB ?_ ?_ | intro _)
theorem j0cc (N a b):OLe (@j01X (natLP N) a b) (j01X a b):=by
 unfold j01X
 with_reducible repeat' (first | exact oR _ | exact oN _ | exact j07s N _ | apply oC | apply oS | refine oB ?_ ?_ | intro _)
theorem j06o (N a b c d e f g):OLe (@j00u (natLP N) a b c d e f g) (j00u a b c d e f g):=by
 unfold j00u
 with_reducible repeat' (first | exact oR _ | exact oN _ | exact j0cc N _ _ | apply oC | apply oS | refine oB ?_ ?_ | intro _)
theorem j08g (N a b c d e f g):OLe (@j01n (natLP N) a b c d e f g) (j01n a b c d e f g):=OLe.loop N _ fun _=>j06o N _ _ _ _ _ _ _
theorem j0a4 (N a b):OLe (@j016 (natLP N) a b) (j016 a b):=by
 unfold j016
 with_reducible repeat' (first | exact oR _ | exact oN _ | exact j096 N _ _ _ _ _ | exact j08g N _ _ _ _ _ _ _ | apply oC | apply oS | refine oB ?_ ?_ | intro _)
theorem j0dh (N a b c d e):OLe (@j03m (natLP N) a b c d e) (j03m a b c d e):=by
 unfold j03m
 with_reducible repeat' (first | exact oR _ | exact oN _ | exact j0a4 N _ _ | apply oC | apply oS | refine oB ?_ ?_ | intro _)
theorem j05i (N a b c d e f g h):OLe (@j00h (natLP N) a b c d e f g h) (j00h a b c d e f g h):=by
 unfold j00h
 with_reducible repeat' (first | exact oR _ | exact oN _ | exact j05g N _ _ | exact j0dh N _ _ _ _ _ | apply oC | apply oS | refine oB ?_ ?_ | intro _)
theorem j06p (N a b c d e f g h):OLe (@j00z (natLP N) a b c d e f g h) (j00z a b c d e f g h):=OLe.loop N _ fun _=>j05i N _ _ _ _ _ _ _ _
theorem j07v (N a b c d e):OLe (@j014 (natLP N) a b c d e) (j014 a b c d e):=by
 unfold j014
 with_reducible repeat' (first | exact oR _ | exact oN _ | exact j06p N _ _ _ _ _ _ _ _ | apply oC | apply oS | refine oB ?_ ?_ | intro _)
theorem j0a5 (N a b c d e f g h):OLe (@j017 (natLP N) a b c d e f g h) (j017 a b c d e f g h):=by
 unfold j017
 with_reducible repeat' (first | exact oR _ | exact oN _ | exact j05g N _ _ | exact j0bb N _ _ | apply oC | apply oS | refine oB ?_ ?_ | intro _)
theorem j0di (N a b c d e f g h):OLe (@j02E (natLP N) a b c d e f g h) (j02E a b c d e f g h):=OLe.loop N _ fun _=>j0a5 N _ _ _ _ _ _ _ _
theorem j0bc (N a):OLe (@j02x (natLP N) a) (j02x a):=by
 unfold j02x
 with_reducible repeat' (first | exact oR _ | exact oN _ | exact j09r N _ | exact j0di N _ _ _ _ _ _ _ _ | exact j07t N _ _ _ _ _ | exact j07v N _ _ _ _ _ | apply oC | apply oS | refine oB ?_ ?_ | intro _)
theorem j0fX (N a b):OLe (@j06g (natLP N) a b) (j06g a b):=OLe.loop N _ fun _=>oR _
theorem j0jk (N a b):OLe (@j09x (natLP N) a b) (j09x a b):=by
 unfold j09x
 with_reducible repeat' (first | exact oR _ | exact oN _ | exact j0fX N _ _ | apply oC | apply oS | refine oB ?_ ?_ | intro _)
theorem j0ee (N a b):OLe (@j02y (natLP N) a b) (j02y a b):=by
 unfold j02y
 with_reducible repeat' (first | exact oR _ | exact oN _ | exact j0jk N _ _ | apply oC | apply oS | refine oB ?_ ?_ | intro _)
theorem j05K (N a b c d):OLe (@j00l (natLP N) a b c d) (j00l a b c d):=by
 unfold j00l
 with_reducible repeat' (first | exact oR _ | exact oN _ | exact j0ee N _ _ | apply oC | apply oS | refine oB ?_ ?_ | intro _)
theorem j078 (N a b c d):OLe (@j00F (natLP N) a b c d) (j00F a b c d):=OLe.loop N _ fun _=>j05K N _ _ _ _
theorem j08h (N a b):OLe (@j01o (natLP N) a b) (j01o a b):=by
 unfold j01o
 with_reducible repeat' (first | exact oR _ | exact oN _ | exact j078 N _ _ _ _ | apply oC | apply oS | refine oB ?_ ?_ | intro _)
theorem j0bL (N a b):OLe (@j034 (natLP N) a b) (j034 a b):=by
 unfold j034
 with_reducible repeat' (first | exact oR _ | exact oN _ | exact j0bc N _ | exact j08h N _ _ | apply oC | apply oS | refine oB ?_ ?_ | intro _)
theorem j0m7 (N a):OLe (@zone_Of (natLP N) a) (zone_Of a):=by
 unfold zone_Of
 with_reducible repeat' (first | exact oR _ | exact oN _ | exact j08G N _ | apply oC | apply oS | refine oB ?_ ?_ | intro _)
theorem j0bd (N a b c d):OLe (@j01t (natLP N) a b c d) (j01t a b c d):=by
 unfold j01t
 with_reducible repeat' (first | exact oR _ | exact oN _ | exact j0m7 N _ | apply oC | apply oS | refine oB ?_ ?_ | intro _)
theorem j0ex (N a b c d):OLe (@j03L (natLP N) a b c d) (j03L a b c d):=OLe.loop N _ fun _=>j0bd N _ _ _ _
theorem j0h6 (N a):OLe (@j07z (natLP N) a) (j07z a):=by
 unfold j07z
 with_reducible repeat' (first | exact oR _ | exact oN _ | exact j0ex N _ _ _ _ | apply oC | apply oS | refine oB ?_ ?_ | intro _)
theorem j0jl (N a):OLe (@j09y (natLP N) a) (j09y a):=by
 unfold j09y
 with_reducible repeat' (first | exact oR _ | exact oN _ | exact j0h6 N _ | apply oC | apply oS | refine oB ?_ ?_ | intro _)
theorem j0ia (N a):OLe (@duty_Of (natLP N) a) (duty_Of a):=by
 unfold duty_Of
 with_reducible repeat' (first | exact oR _ | exact oN _ | exact j0bc N _ | exact j0jl N _ | apply oC | apply oS | refine oB ?_ ?_ | intro _)
theorem j0ey (N a b c d e):OLe (@j04J (natLP N) a b c d e) (j04J a b c d e):=OLe.loop N _ fun _=>oR _
theorem j0h7 (N a b c d):OLe (@j07A (natLP N) a b c d) (j07A a b c d):=by
 unfold j07A
 with_reducible repeat' (first | exact oR _ | exact oN _ | exact j0ey N _ _ _ _ _ | apply oC | apply oS | refine oB ?_ ?_ | intro _)
theorem j08H (N a b):OLe (@j029 (natLP N) a b) (j029 a b):=by
 unfold j029
 with_reducible repeat' (first | exact oR _ | exact oN _ | exact j0h7 N _ _ _ _ | apply oC | apply oS | refine oB ?_ ?_ | intro _)
theorem j084 (N a b c d e):OLe (@j00C (natLP N) a b c d e) (j00C a b c d e):=by
 unfold j00C
 with_reducible repeat' (first | exact oR _ | exact oN _ | exact j08H N _ _ | apply oC | apply oS | refine oB ?_ ?_ | intro _)
theorem j0ai (N a b c d e):OLe (@j01z (natLP N) a b c d e) (j01z a b c d e):=OLe.loop N _ fun _=>j084 N _ _ _ _ _
theorem j0cd (N a b c):OLe (@j02j (natLP N) a b c) (j02j a b c):=by
 unfold j02j
 with_reducible repeat' (first | exact oR _ | exact oN _ | exact j0ai N _ _ _ _ _ | apply oC | apply oS | refine oB ?_ ?_ | intro _)
theorem j0be (N a b c d e):OLe (@j01N (natLP N) a b c d e) (j01N a b c d e):=OLe.loop N _ fun _=>oR _
theorem j08I (N a b):OLe (@j00M (natLP N) a b) (j00M a b):=by
 unfold j00M
 with_reducible repeat' (first | exact oR _ | exact oN _ | exact j0cd N _ _ _ | exact j0be N _ _ _ _ _ | apply oC | apply oS | refine oB ?_ ?_ | intro _)
theorem j04j (N a b c):OLe (@j00N (natLP N) a b c) (j00N a b c):=by
 unfold j00N
 with_reducible repeat' (first | exact oR _ | exact oN _ | exact j08I N _ _ | apply oC | apply oS | refine oB ?_ ?_ | intro _)
theorem j0bf (N a b c d e f g h i j k l):OLe (@j01P (natLP N) a b c d e f g h i j k l) (j01P a b c d e f g h i j k l):=OLe.loop N _ fun _=>oR _
theorem j08i (N a b c d e f g h i):OLe (@j00A (natLP N) a b c d e f g h i) (j00A a b c d e f g h i):=by
 unfold j00A
 with_reducible repeat' (first | exact oR _ | exact oN _ | exact j04j N _ _ _ | exact j08I N _ _ | apply oC | apply oS | refine oB ?_ ?_ | intro _)
theorem j0bg (N a b c d e f g h i):OLe (@j01Q (natLP N) a b c d e f g h i) (j01Q a b c d e f g h i):=OLe.loop N _ fun _=>j08i N _ _ _ _ _ _ _ _ _
theorem j0dj (N a b):OLe (@j03o (natLP N) a b) (j03o a b):=by
 unfold j03o
 with_reducible repeat' (first | exact oR _ | exact oN _ | exact j0bf N _ _ _ _ _ _ _ _ _ _ _ _ | exact j0bg N _ _ _ _ _ _ _ _ _ | apply oC | apply oS | refine oB ?_ ?_ | intro _)
theorem j0dk (N a b):OLe (@j02F (natLP N) a b) (j02F a b):=by
 unfold j02F
 with_reducible repeat' (first | exact oR _ | exact oN _ | exact j0ia N _ | exact j0dj N _ _ | apply oC | apply oS | refine oB ?_ ?_ | intro _)
theorem j0bM (N a b c):OLe (@j028 (natLP N) a b c) (j028 a b c):=by
 unfold j028
 with_reducible repeat' (first | exact oR _ | exact oN _ | exact j0bL N _ _ | exact j0dk N _ _ | apply oC | apply oS | refine oB ?_ ?_ | intro _)
theorem j0ce (N a b):OLe (@j02k (natLP N) a b) (j02k a b):=by
 unfold j02k
 with_reducible repeat' (first | exact oR _ | exact oN _ | exact j08H N _ _ | apply oC | apply oS | refine oB ?_ ?_ | intro _)
theorem j08J (N a b):OLe (@j00m (natLP N) a b) (j00m a b):=by
 unfold j00m
 with_reducible repeat' (first | exact oR _ | exact oN _ | exact j0ce N _ _ | apply oC | apply oS | refine oB ?_ ?_ | intro _)
theorem j0a6 (N a b c d e f g h i j k l m n):OLe (@j018 (natLP N) a b c d e f g h i j k l m n) (j018 a b c d e f g h i j k l m n):=by
 unfold j018
 with_reducible repeat' (first | exact oR _ | exact oN _ | exact j04j N _ _ _ | apply oC | apply oS | refine oB ?_ ?_ | intro _)
theorem j0dl (N a b c d e f g h i j k l m n):OLe (@j03p (natLP N) a b c d e f g h i j k l m n) (j03p a b c d e f g h i j k l m n):=OLe.loop N _ fun _=>j0a6 N _ _ _ _ _ _ _ _ _ _ _ _ _ _
theorem j0a7 (N a b c d e f g h i j k l m n):OLe (@j01q (natLP N) a b c d e f g h i j k l m n) (j01q a b c d e f g h i j k l m n):=by
 unfold j01q
 with_reducible repeat' (first | exact oR _ | exact oN _ | exact j04j N _ _ _ | apply oC | apply oS | refine oB ?_ ?_ | intro _)
theorem j0dm (N a b c d e f g h i j k l m n):OLe (@j03q (natLP N) a b c d e f g h i j k l m n) (j03q a b c d e f g h i j k l m n):=OLe.loop N _ fun _=>j0a7 N _ _ _ _ _ _ _ _ _ _ _ _ _ _
theorem j0fw (N a b c):OLe (@j01Y (natLP N) a b c) (j01Y a b c):=by
 unfold j01Y
 with_reducible repeat' (first | exact oR _ | exact oN _ | exact j04j N _ _ _ | exact j08J N _ _ | exact j0dl N _ _ _ _ _ _ _ _ _ _ _ _ _ _ | exact j0dm N _ _ _ _ _ _ _ _ _ _ _ _ _ _ | apply oC | apply oS | refine oB ?_ ?_ | intro _)
theorem j0h8 (N a b c d):OLe (@j07B (natLP N) a b c d) (j07B a b c d):=OLe.loop N _ fun _=>oR _
theorem j0kO (N a b):OLe (@j0bQ (natLP N) a b) (j0bQ a b):=by
 unfold j0bQ
 with_reducible repeat' (first | exact oR _ | exact oN _ | exact j0h8 N _ _ _ _ | apply oC | apply oS | refine oB ?_ ?_ | intro _)
theorem j06b (N a b c d e):OLe (@j00I (natLP N) a b c d e) (j00I a b c d e):=OLe.loop N _ fun _=>oR _
theorem j079 (N a b):OLe (@j00s (natLP N) a b) (j00s a b):=by
 unfold j00s
 with_reducible repeat' (first | exact oR _ | exact oN _ | exact j06b N _ _ _ _ _ | apply oC | apply oS | refine oB ?_ ?_ | intro _)
theorem j0fY (N a b c):OLe (@j037 (natLP N) a b c) (j037 a b c):=by
 unfold j037
 with_reducible repeat' (first | exact oR _ | exact oN _ | exact j0fw N _ _ _ | exact j08J N _ _ | exact j0kO N _ _ | exact j079 N _ _ | apply oC | apply oS | refine oB ?_ ?_ | intro _)
theorem j0dn (N a b c):OLe (@j01f (natLP N) a b c) (j01f a b c):=by
 unfold j01f
 with_reducible repeat' (first | exact oR _ | exact oN _ | exact j0fY N _ _ _ | apply oC | apply oS | refine oB ?_ ?_ | intro _)
theorem j04G (N a b c d e):OLe (@j00j (natLP N) a b c d e) (j00j a b c d e):=OLe.loop N _ fun _=>oR _
theorem j05j (N a b c):OLe (@j00x (natLP N) a b c) (j00x a b c):=by
 unfold j00x
 with_reducible repeat' (first | exact oR _ | exact oN _ | exact j04G N _ _ _ _ _ | apply oC | apply oS | refine oB ?_ ?_ | intro _)
theorem j04H (N a b c):OLe (@j00r (natLP N) a b c) (j00r a b c):=by
 unfold j00r
 with_reducible repeat' (first | exact oR _ | exact oN _ | exact j05j N _ _ _ | apply oC | apply oS | refine oB ?_ ?_ | intro _)
theorem j0ib (N a b c):OLe (@j07K (natLP N) a b c) (j07K a b c):=by
 unfold j07K
 with_reducible repeat' (first | exact oR _ | exact oN _ | exact j04H N _ _ _ | apply oC | apply oS | refine oB ?_ ?_ | intro _)
theorem j0a8 (N a b c d e f g h i j k l m):OLe (@j019 (natLP N) a b c d e f g h i j k l m) (j019 a b c d e f g h i j k l m):=by
 unfold j019
 with_reducible repeat' (first | exact oR _ | exact oN _ | exact j0dn N _ _ _ | exact j0ib N _ _ _ | apply oC | apply oS | refine oB ?_ ?_ | intro _)
theorem j0do (N a b c d e f g h i j k l m):OLe (@j02G (natLP N) a b c d e f g h i j k l m) (j02G a b c d e f g h i j k l m):=OLe.loop N _ fun _=>j0a8 N _ _ _ _ _ _ _ _ _ _ _ _ _
theorem j0fx (N a b c):OLe (@j02V (natLP N) a b c) (j02V a b c):=by
 unfold j02V
 with_reducible repeat' (first | exact oR _ | exact oN _ | exact j0do N _ _ _ _ _ _ _ _ _ _ _ _ _ | apply oC | apply oS | refine oB ?_ ?_ | intro _)
theorem j0fZ (N a b c d e):OLe (@j05s (natLP N) a b c d e) (j05s a b c d e):=OLe.loop N _ fun _=>oR _
theorem j0jm (N a b c):OLe (@j0bo (natLP N) a b c) (j0bo a b c):=by
 unfold j0bo
 with_reducible repeat' (first | exact oR _ | exact oN _ | exact j0fZ N _ _ _ _ _ | apply oC | apply oS | refine oB ?_ ?_ | intro _)
theorem j0ic (N a b c):OLe (@j09e (natLP N) a b c) (j09e a b c):=by
 unfold j09e
 with_reducible repeat' (first | exact oR _ | exact oN _ | exact j0fx N _ _ _ | exact j0jm N _ _ _ | apply oC | apply oS | refine oB ?_ ?_ | intro _)
theorem j0kP (N a b c):OLe (@j0dF (natLP N) a b c) (j0dF a b c):=by
 unfold j0dF
 with_reducible repeat' (first | exact oR _ | exact oN _ | exact j0ia N _ | exact j0ic N _ _ _ | apply oC | apply oS | refine oB ?_ ?_ | intro _)
theorem j0id (N a b c):OLe (@j06G (natLP N) a b c) (j06G a b c):=by
 unfold j06G
 with_reducible repeat' (first | exact oR _ | exact oN _ | exact j0kP N _ _ _ | apply oC | apply oS | refine oB ?_ ?_ | intro _)
theorem j0jn (N a b c):OLe (@j08q (natLP N) a b c) (j08q a b c):=by
 unfold j08q
 with_reducible repeat' (first | exact oR _ | exact oN _ | exact j0bM N _ _ _ | exact j0id N _ _ _ | apply oC | apply oS | refine oB ?_ ?_ | intro _)
theorem j0ie (N):OLe (@j06H (natLP N) ) (j06H ):=by
 unfold j06H
 with_reducible repeat' (first | exact oR _ | exact oN _ | exact j0bL N _ _ | exact j0bM N _ _ _ | exact j0jn N _ _ _ | apply oC | apply oS | refine oB ?_ ?_ | intro _)
abbrev j0if (N:Nat):=@j00B (natLP N)
end
end Go.Proofs.Pw
