/- Twins with a bound on their rounds, printed by a program. -/
import Derived.Test.YthpdddnkpjnllaaGreatBFns
import Derived.Test.YthpdddnkpjnllaaGreatBLD
open Go Go.Lft
set_option linter.unusedVariables false
set_option maxRecDepth 100000
namespace Go.Proofs.Pw
noncomputable section
theorem j0gx (N a b c):OLe (@j04z (natLP N) a b c) (j04z a b c):=OLe.loop N _ fun _=>oR _
theorem j065 (N a):OLe (@j047 (natLP N) a) (j047 a):=by
 unfold j047
 with_reducible repeat' (first | exact oR _ | exact oN _ | exact j0gx N _ _ _ | apply oC | apply oS | refine oB ?_ ?_ | intro _)
theorem j05y (N a b):OLe (@j02L (natLP N) a b) (j02L a b):=by
 unfold j02L
 with_reducible repeat' (first | exact oR _ | exact oN _ | exact j065 N _ | apply oC | apply oS | refine oB ?_ ?_ | intro _)
theorem j0eY (N a b c d e):OLe (@j04h (natLP N) a b c d e) (j04h a b c d e):=OLe.loop N _ fun _=>oR _
theorem j0h6 (N a):OLe (@j05L (natLP N) a) (j05L a):=by
 unfold j05L
 with_reducible repeat' (first | exact oR _ | exact oN _ | exact j0eY N _ _ _ _ _ | apply oC | apply oS | refine oB ?_ ?_ | intro _)
theorem j0kH (N a b c d):OLe (@j0ar (natLP N) a b c d) (j0ar a b c d):=by
 unfold j0ar
 with_reducible repeat' (first | exact oR _ | exact oN _ | exact j0h6 N _ | apply oC | apply oS | refine oB ?_ ?_ | intro _)
theorem j03e (N a b c d e):OLe (@j00a (natLP N) a b c d e) (j00a a b c d e):=OLe.loop N _ fun _=>oR _
theorem j02H (N a b c d):OLe (@j003 (natLP N) a b c d) (j003 a b c d):=by
 unfold j003
 with_reducible repeat' (first | exact oR _ | exact oN _ | exact j03e N _ _ _ _ _ | apply oC | apply oS | refine oB ?_ ?_ | intro _)
theorem j03f (N a b c d):OLe (@j00b (natLP N) a b c d) (j00b a b c d):=OLe.loop N _ fun _=>j02H N _ _ _ _
theorem j01Q (N a b c):OLe (@j006 (natLP N) a b c) (j006 a b c):=by
 unfold j006
 with_reducible repeat' (first | exact oR _ | exact oN _ | exact j03f N _ _ _ _ | apply oC | apply oS | refine oB ?_ ?_ | intro _)
theorem j03p (N a b c d e):OLe (@j008 (natLP N) a b c d e) (j008 a b c d e):=by
 unfold j008
 with_reducible repeat' (first | exact oR _ | exact oN _ | exact j01Q N _ _ _ | apply oC | apply oS | refine oB ?_ ?_ | intro _)
theorem j04p (N a b c d e):OLe (@j00l (natLP N) a b c d e) (j00l a b c d e):=OLe.loop N _ fun _=>j03p N _ _ _ _ _
theorem j04q (N a b c d e):OLe (@j01n (natLP N) a b c d e) (j01n a b c d e):=OLe.loop N _ fun _=>oR _
theorem j03q (N a b c):OLe (@j009 (natLP N) a b c) (j009 a b c):=by
 unfold j009
 with_reducible repeat' (first | exact oR _ | exact oN _ | exact j04q N _ _ _ _ _ | apply oC | apply oS | refine oB ?_ ?_ | intro _)
theorem j04r (N a b c):OLe (@j00m (natLP N) a b c) (j00m a b c):=OLe.loop N _ fun _=>j03q N _ _ _
theorem j058 (N a b):OLe (@j00u (natLP N) a b) (j00u a b):=by
 unfold j00u
 with_reducible repeat' (first | exact oR _ | exact oN _ | exact j04p N _ _ _ _ _ | exact j01Q N _ _ _ | exact j04r N _ _ _ | apply oC | apply oS | refine oB ?_ ?_ | intro _)
theorem j02x (N a):OLe (@j005 (natLP N) a) (j005 a):=by
 unfold j005
 with_reducible repeat' (first | exact oR _ | exact oN _ | exact j058 N _ _ | apply oC | apply oS | refine oB ?_ ?_ | intro _)
theorem j0c9 (N a b c d e f g):OLe (@j01U (natLP N) a b c d e f g) (j01U a b c d e f g):=OLe.loop N _ fun _=>oR _
theorem j08Y (N a b c d e f g h i j k l):OLe (@j00I (natLP N) a b c d e f g h i j k l) (j00I a b c d e f g h i j k l):=by
 unfold j00I
 with_reducible repeat' (first | exact oR _ | exact oN _ | exact j0kH N _ _ _ _ | apply oC | apply oS | refine oB ?_ ?_ | intro _)
theorem j0ca (N a b c d e f g h i j k l):OLe (@j02q (natLP N) a b c d e f g h i j k l) (j02q a b c d e f g h i j k l):=OLe.loop N _ fun _=>j08Y N _ _ _ _ _ _ _ _ _ _ _ _
theorem j08Z (N a b c d):OLe (@j00J (natLP N) a b c d) (j00J a b c d):=by
 unfold j00J
 with_reducible repeat' (first | exact oR _ | exact oN _ | exact j0ca N _ _ _ _ _ _ _ _ _ _ _ _ | apply oC | apply oS | refine oB ?_ ?_ | intro _)
theorem j0cb (N a b c d):OLe (@j01V (natLP N) a b c d) (j01V a b c d):=OLe.loop N _ fun _=>j08Z N _ _ _ _
theorem j0e9 (N a):OLe (@j02N (natLP N) a) (j02N a):=by
 unfold j02N
 with_reducible repeat' (first | exact oR _ | exact oN _ | exact j0c9 N _ _ _ _ _ _ _ | exact j0cb N _ _ _ _ | exact j02x N _ | apply oC | apply oS | refine oB ?_ ?_ | intro _)
theorem j0cc (N a b c d e):OLe (@j01X (natLP N) a b c d e) (j01X a b c d e):=OLe.loop N _ fun _=>oR _
theorem j09t (N a):OLe (@j01D (natLP N) a) (j01D a):=by
 unfold j01D
 with_reducible repeat' (first | exact oR _ | exact oN _ | exact j0e9 N _ | exact j0cc N _ _ _ _ _ | apply oC | apply oS | refine oB ?_ ?_ | intro _)
theorem j0js (N a):OLe (@j075 (natLP N) a) (j075 a):=by
 unfold j075
 with_reducible repeat' (first | exact oR _ | exact oN _ | exact j09t N _ | apply oC | apply oS | refine oB ?_ ?_ | intro _)
theorem j03l (N a b c):OLe (@j00c (natLP N) a b c) (j00c a b c):=OLe.loop N _ fun _=>oR _
theorem j03S (N a):OLe (@j00i (natLP N) a) (j00i a):=by
 unfold j00i
 with_reducible repeat' (first | exact oR _ | exact oN _ | exact j03l N _ _ _ | apply oC | apply oS | refine oB ?_ ?_ | intro _)
theorem j03m (N a):OLe (@j00d (natLP N) a) (j00d a):=by
 unfold j00d
 with_reducible repeat' (first | exact oR _ | exact oN _ | exact j03S N _ | apply oC | apply oS | refine oB ?_ ?_ | intro _)
theorem j0d4 (N a):OLe (@j024 (natLP N) a) (j024 a):=by
 unfold j024
 with_reducible repeat' (first | exact oR _ | exact oN _ | exact j0js N _ | exact j03m N _ | apply oC | apply oS | refine oB ?_ ?_ | intro _)
theorem j06z (N a b c d):OLe (@j00p (natLP N) a b c d) (j00p a b c d):=by
 unfold j00p
 with_reducible repeat' (first | exact oR _ | exact oN _ | exact j05y N _ _ | exact j0d4 N _ | apply oC | apply oS | refine oB ?_ ?_ | intro _)
theorem j08S (N a b c d):OLe (@j00U (natLP N) a b c d) (j00U a b c d):=OLe.loop N _ fun _=>j06z N _ _ _ _
theorem j0al (N a):OLe (@j01i (natLP N) a) (j01i a):=by
 unfold j01i
 with_reducible repeat' (first | exact oR _ | exact oN _ | exact j08S N _ _ _ _ | apply oC | apply oS | refine oB ?_ ?_ | intro _)
theorem j0gy (N a b c d):OLe (@j064 (natLP N) a b c d) (j064 a b c d):=OLe.loop N _ fun _=>oR _
theorem j0fj (N a):OLe (@j076 (natLP N) a) (j076 a):=by
 unfold j076
 with_reducible repeat' (first | exact oR _ | exact oN _ | exact j0gy N _ _ _ _ | apply oC | apply oS | refine oB ?_ ?_ | intro _)
theorem j0cd (N a b):OLe (@j01e (natLP N) a b) (j01e a b):=by
 unfold j01e
 with_reducible repeat' (first | exact oR _ | exact oN _ | exact j0fj N _ | apply oC | apply oS | refine oB ?_ ?_ | intro _)
theorem j0gz (N a b):OLe (@j0bt (natLP N) a b) (j0bt a b):=OLe.loop N _ fun _=>oR _
theorem j0jt (N a):OLe (@j0bu (natLP N) a) (j0bu a):=by
 unfold j0bu
 with_reducible repeat' (first | exact oR _ | exact oN _ | exact j0gz N _ _ | apply oC | apply oS | refine oB ?_ ?_ | intro _)
theorem j0eZ (N a b c d e f g):OLe (@j09z (natLP N) a b c d e f g) (j09z a b c d e f g):=OLe.loop N _ fun _=>oR _
theorem j0h7 (N a):OLe (@j04C (natLP N) a) (j04C a):=by
 unfold j04C
 with_reducible repeat' (first | exact oR _ | exact oN _ | exact j0jt N _ | exact j0eZ N _ _ _ _ _ _ _ | apply oC | apply oS | refine oB ?_ ?_ | intro _)
theorem j07Y (N a):OLe (@j00V (natLP N) a) (j00V a):=by
 unfold j00V
 with_reducible repeat' (first | exact oR _ | exact oN _ | exact j0h7 N _ | apply oC | apply oS | refine oB ?_ ?_ | intro _)
theorem j090 (N a):OLe (@j01o (natLP N) a) (j01o a):=by
 unfold j01o
 with_reducible repeat' (first | exact oR _ | exact oN _ | exact j07Y N _ | apply oC | apply oS | refine oB ?_ ?_ | intro _)
theorem j066 (N a b c):OLe (@j00k (natLP N) a b c) (j00k a b c):=by
 unfold j00k
 with_reducible repeat' (first | exact oR _ | exact oN _ | exact j090 N _ | apply oC | apply oS | refine oB ?_ ?_ | intro _)
theorem j07z (N a b c):OLe (@j00X (natLP N) a b c) (j00X a b c):=OLe.loop N _ fun _=>j066 N _ _ _
theorem j091 (N a):OLe (@j01p (natLP N) a) (j01p a):=by
 unfold j01p
 with_reducible repeat' (first | exact oR _ | exact oN _ | exact j07z N _ _ _ | apply oC | apply oS | refine oB ?_ ?_ | intro _)
theorem j07A (N a):OLe (@j00Y (natLP N) a) (j00Y a):=by
 unfold j00Y
 with_reducible repeat' (first | exact oR _ | exact oN _ | exact j091 N _ | apply oC | apply oS | refine oB ?_ ?_ | intro _)
theorem j092 (N a b c d e):OLe (@j01q (natLP N) a b c d e) (j01q a b c d e):=OLe.loop N _ fun _=>oR _
theorem j0aW (N a b):OLe (@j018 (natLP N) a b) (j018 a b):=by
 unfold j018
 with_reducible repeat' (first | exact oR _ | exact oN _ | exact j07A N _ | exact j092 N _ _ _ _ _ | apply oC | apply oS | refine oB ?_ ?_ | intro _)
theorem j0ea (N a b c d e):OLe (@j03w (natLP N) a b c d e) (j03w a b c d e):=by
 unfold j03w
 with_reducible repeat' (first | exact oR _ | exact oN _ | exact j0aW N _ _ | apply oC | apply oS | refine oB ?_ ?_ | intro _)
theorem j05z (N a b c d e f g h):OLe (@j00g (natLP N) a b c d e f g h) (j00g a b c d e f g h):=by
 unfold j00g
 with_reducible repeat' (first | exact oR _ | exact oN _ | exact j05y N _ _ | exact j0ea N _ _ _ _ _ | apply oC | apply oS | refine oB ?_ ?_ | intro _)
theorem j06P (N a b c d e f g h):OLe (@j00x (natLP N) a b c d e f g h) (j00x a b c d e f g h):=OLe.loop N _ fun _=>j05z N _ _ _ _ _ _ _ _
theorem j07Z (N a b c d e):OLe (@j00N (natLP N) a b c d e) (j00N a b c d e):=by
 unfold j00N
 with_reducible repeat' (first | exact oR _ | exact oN _ | exact j06P N _ _ _ _ _ _ _ _ | apply oC | apply oS | refine oB ?_ ?_ | intro _)
theorem j06A (N a b c d e f g):OLe (@j00D (natLP N) a b c d e f g) (j00D a b c d e f g):=OLe.loop N _ fun _=>oR _
theorem j07B (N a b c d e):OLe (@j00Z (natLP N) a b c d e) (j00Z a b c d e):=by
 unfold j00Z
 with_reducible repeat' (first | exact oR _ | exact oN _ | exact j06A N _ _ _ _ _ _ _ | apply oC | apply oS | refine oB ?_ ?_ | intro _)
theorem j06B (N a b c d e):OLe (@j00E (natLP N) a b c d e) (j00E a b c d e):=by
 unfold j00E
 with_reducible repeat' (first | exact oR _ | exact oN _ | exact j07B N _ _ _ _ _ | apply oC | apply oS | refine oB ?_ ?_ | intro _)
theorem j0cE (N a b):OLe (@j01M (natLP N) a b) (j01M a b):=by
 unfold j01M
 with_reducible repeat' (first | exact oR _ | exact oN _ | exact j07Y N _ | exact j06B N _ _ _ _ _ | exact j0fj N _ | apply oC | apply oS | refine oB ?_ ?_ | intro _)
theorem j093 (N a b c d e):OLe (@j01r (natLP N) a b c d e) (j01r a b c d e):=by
 unfold j01r
 with_reducible repeat' (first | exact oR _ | exact oN _ | exact j0cE N _ _ | apply oC | apply oS | refine oB ?_ ?_ | intro _)
theorem j06v (N a b c d e f g h):OLe (@j00n (natLP N) a b c d e f g h) (j00n a b c d e f g h):=by
 unfold j00n
 with_reducible repeat' (first | exact oR _ | exact oN _ | exact j05y N _ _ | exact j093 N _ _ _ _ _ | apply oC | apply oS | refine oB ?_ ?_ | intro _)
theorem j080 (N a b c d e f g h):OLe (@j00O (natLP N) a b c d e f g h) (j00O a b c d e f g h):=OLe.loop N _ fun _=>j06v N _ _ _ _ _ _ _ _
theorem j09Z (N a b c d e):OLe (@j01d (natLP N) a b c d e) (j01d a b c d e):=by
 unfold j01d
 with_reducible repeat' (first | exact oR _ | exact oN _ | exact j080 N _ _ _ _ _ _ _ _ | apply oC | apply oS | refine oB ?_ ?_ | intro _)
theorem j0d5 (N a b):OLe (@j025 (natLP N) a b) (j025 a b):=by
 unfold j025
 with_reducible repeat' (first | exact oR _ | exact oN _ | exact j07Y N _ | apply oC | apply oS | refine oB ?_ ?_ | intro _)
theorem j06Q (N a b c d e f g):OLe (@j00t (natLP N) a b c d e f g) (j00t a b c d e f g):=by
 unfold j00t
 with_reducible repeat' (first | exact oR _ | exact oN _ | exact j0d5 N _ _ | apply oC | apply oS | refine oB ?_ ?_ | intro _)
theorem j094 (N a b c d e f g):OLe (@j01s (natLP N) a b c d e f g) (j01s a b c d e f g):=OLe.loop N _ fun _=>j06Q N _ _ _ _ _ _ _
theorem j0aX (N a b):OLe (@j019 (natLP N) a b) (j019 a b):=by
 unfold j019
 with_reducible repeat' (first | exact oR _ | exact oN _ | exact j09Z N _ _ _ _ _ | exact j094 N _ _ _ _ _ _ _ | apply oC | apply oS | refine oB ?_ ?_ | intro _)
theorem j0eb (N a b c d e):OLe (@j03y (natLP N) a b c d e) (j03y a b c d e):=by
 unfold j03y
 with_reducible repeat' (first | exact oR _ | exact oN _ | exact j0aX N _ _ | apply oC | apply oS | refine oB ?_ ?_ | intro _)
theorem j05A (N a b c d e f g h):OLe (@j00h (natLP N) a b c d e f g h) (j00h a b c d e f g h):=by
 unfold j00h
 with_reducible repeat' (first | exact oR _ | exact oN _ | exact j05y N _ _ | exact j0eb N _ _ _ _ _ | apply oC | apply oS | refine oB ?_ ?_ | intro _)
theorem j06R (N a b c d e f g h):OLe (@j00y (natLP N) a b c d e f g h) (j00y a b c d e f g h):=OLe.loop N _ fun _=>j05A N _ _ _ _ _ _ _ _
theorem j081 (N a b c d e):OLe (@j016 (natLP N) a b c d e) (j016 a b c d e):=by
 unfold j016
 with_reducible repeat' (first | exact oR _ | exact oN _ | exact j06R N _ _ _ _ _ _ _ _ | apply oC | apply oS | refine oB ?_ ?_ | intro _)
theorem j0aY (N a b c d e f g h):OLe (@j01a (natLP N) a b c d e f g h) (j01a a b c d e f g h):=by
 unfold j01a
 with_reducible repeat' (first | exact oR _ | exact oN _ | exact j05y N _ _ | exact j0cd N _ _ | apply oC | apply oS | refine oB ?_ ?_ | intro _)
theorem j0ec (N a b c d e f g h):OLe (@j02O (natLP N) a b c d e f g h) (j02O a b c d e f g h):=OLe.loop N _ fun _=>j0aY N _ _ _ _ _ _ _ _
theorem j0gA (N a):OLe (@j03U (natLP N) a) (j03U a):=by
 unfold j03U
 with_reducible repeat' (first | exact oR _ | exact oN _ | exact j0al N _ | exact j0ec N _ _ _ _ _ _ _ _ | exact j07Z N _ _ _ _ _ | exact j081 N _ _ _ _ _ | apply oC | apply oS | refine oB ?_ ?_ | intro _)
theorem j0nk (N a):OLe (@zone_Of (natLP N) a) (zone_Of a):=by
 unfold zone_Of
 with_reducible repeat' (first | exact oR _ | exact oN _ | exact j09t N _ | apply oC | apply oS | refine oB ?_ ?_ | intro _)
theorem j0ce (N a b c d):OLe (@j01A (natLP N) a b c d) (j01A a b c d):=by
 unfold j01A
 with_reducible repeat' (first | exact oR _ | exact oN _ | exact j0nk N _ | apply oC | apply oS | refine oB ?_ ?_ | intro _)
theorem j0fw (N a b c d):OLe (@j03X (natLP N) a b c d) (j03X a b c d):=OLe.loop N _ fun _=>j0ce N _ _ _ _
theorem j0ii (N a):OLe (@j086 (natLP N) a) (j086 a):=by
 unfold j086
 with_reducible repeat' (first | exact oR _ | exact oN _ | exact j0fw N _ _ _ _ | apply oC | apply oS | refine oB ?_ ?_ | intro _)
theorem j0kI (N a):OLe (@j0as (natLP N) a) (j0as a):=by
 unfold j0as
 with_reducible repeat' (first | exact oR _ | exact oN _ | exact j0ii N _ | apply oC | apply oS | refine oB ?_ ?_ | intro _)
theorem j0ju (N a):OLe (@duty_Of (natLP N) a) (duty_Of a):=by
 unfold duty_Of
 with_reducible repeat' (first | exact oR _ | exact oN _ | exact j0gA N _ | exact j0kI N _ | apply oC | apply oS | refine oB ?_ ?_ | intro _)
theorem j0ij (N a b c d):OLe (@j0a8 (natLP N) a b c d) (j0a8 a b c d):=by
 unfold j0a8
 with_reducible repeat' (first | exact oR _ | exact oN _ | exact j0ju N _ | apply oC | apply oS | refine oB ?_ ?_ | intro _)
theorem j0fx (N a b c d e):OLe (@j04X (natLP N) a b c d e) (j04X a b c d e):=OLe.loop N _ fun _=>oR _
theorem j0ik (N a b c d):OLe (@j087 (natLP N) a b c d) (j087 a b c d):=by
 unfold j087
 with_reducible repeat' (first | exact oR _ | exact oN _ | exact j0fx N _ _ _ _ _ | apply oC | apply oS | refine oB ?_ ?_ | intro _)
theorem j09u (N a b):OLe (@j02h (natLP N) a b) (j02h a b):=by
 unfold j02h
 with_reducible repeat' (first | exact oR _ | exact oN _ | exact j0ik N _ _ _ _ | apply oC | apply oS | refine oB ?_ ?_ | intro _)
theorem j08T (N a b c d e):OLe (@j00z (natLP N) a b c d e) (j00z a b c d e):=by
 unfold j00z
 with_reducible repeat' (first | exact oR _ | exact oN _ | exact j09u N _ _ | apply oC | apply oS | refine oB ?_ ?_ | intro _)
theorem j0bc (N a b c d e):OLe (@j01J (natLP N) a b c d e) (j01J a b c d e):=OLe.loop N _ fun _=>j08T N _ _ _ _ _
theorem j062 (N a b c):OLe (@j01I (natLP N) a b c) (j01I a b c):=by
 unfold j01I
 with_reducible repeat' (first | exact oR _ | exact oN _ | exact j0bc N _ _ _ _ _ | apply oC | apply oS | refine oB ?_ ?_ | intro _)
theorem j0cf (N a b c d e):OLe (@j01Y (natLP N) a b c d e) (j01Y a b c d e):=OLe.loop N _ fun _=>oR _
theorem j0ed (N a b):OLe (@j01j (natLP N) a b) (j01j a b):=by
 unfold j01j
 with_reducible repeat' (first | exact oR _ | exact oN _ | exact j062 N _ _ _ | exact j0cf N _ _ _ _ _ | apply oC | apply oS | refine oB ?_ ?_ | intro _)
theorem j03g (N a b c):OLe (@j00K (natLP N) a b c) (j00K a b c):=by
 unfold j00K
 with_reducible repeat' (first | exact oR _ | exact oN _ | exact j0ed N _ _ | apply oC | apply oS | refine oB ?_ ?_ | intro _)
theorem j04T (N a b c):OLe (@j01F (natLP N) a b c) (j01F a b c):=OLe.loop N _ fun _=>oR _
theorem j05B (N a):OLe (@j00L (natLP N) a) (j00L a):=by
 unfold j00L
 with_reducible repeat' (first | exact oR _ | exact oN _ | exact j04T N _ _ _ | apply oC | apply oS | refine oB ?_ ?_ | intro _)
theorem j04x (N a b c):OLe (@j01v (natLP N) a b c) (j01v a b c):=OLe.loop N _ fun _=>oR _
theorem j05k (N a):OLe (@j00B (natLP N) a) (j00B a):=by
 unfold j00B
 with_reducible repeat' (first | exact oR _ | exact oN _ | exact j05B N _ | exact j04x N _ _ _ | apply oC | apply oS | refine oB ?_ ?_ | intro _)
theorem j0gB (N a b c d):OLe (@j0bw (natLP N) a b c d) (j0bw a b c d):=OLe.loop N _ fun _=>oR _
theorem j09v (N a):OLe (@j077 (natLP N) a) (j077 a):=by
 unfold j077
 with_reducible repeat' (first | exact oR _ | exact oN _ | exact j05k N _ | exact j0gB N _ _ _ _ | apply oC | apply oS | refine oB ?_ ?_ | intro _)
theorem j0f0 (N a b c d e f g h i j k l):OLe (@j09A (natLP N) a b c d e f g h i j k l) (j09A a b c d e f g h i j k l):=OLe.loop N _ fun _=>oR _
theorem j0bd (N a b c d e f g h i):OLe (@j02P (natLP N) a b c d e f g h i) (j02P a b c d e f g h i):=by
 unfold j02P
 with_reducible repeat' (first | exact oR _ | exact oN _ | exact j0f0 N _ _ _ _ _ _ _ _ _ _ _ _ | apply oC | apply oS | refine oB ?_ ?_ | intro _)
theorem j0f1 (N a b c d e f g h i):OLe (@j09B (natLP N) a b c d e f g h i) (j09B a b c d e f g h i):=OLe.loop N _ fun _=>j0bd N _ _ _ _ _ _ _ _ _
theorem j0be (N a b c d e):OLe (@j02Q (natLP N) a b c d e) (j02Q a b c d e):=by
 unfold j02Q
 with_reducible repeat' (first | exact oR _ | exact oN _ | exact j0f1 N _ _ _ _ _ _ _ _ _ | apply oC | apply oS | refine oB ?_ ?_ | intro _)
theorem j0f2 (N a b c d e):OLe (@j09C (natLP N) a b c d e) (j09C a b c d e):=OLe.loop N _ fun _=>j0be N _ _ _ _ _
theorem j0h8 (N a b c d):OLe (@j08j (natLP N) a b c d) (j08j a b c d):=by
 unfold j08j
 with_reducible repeat' (first | exact oR _ | exact oN _ | exact j062 N _ _ _ | exact j0f2 N _ _ _ _ _ | exact j09v N _ | apply oC | apply oS | refine oB ?_ ?_ | intro _)
theorem j0d6 (N a b c d e f g h i j k l m):OLe (@j07l (natLP N) a b c d e f g h i j k l m) (j07l a b c d e f g h i j k l m):=OLe.loop N _ fun _=>oR _
theorem j0am (N a b c d e f g):OLe (@j02i (natLP N) a b c d e f g) (j02i a b c d e f g):=by
 unfold j02i
 with_reducible repeat' (first | exact oR _ | exact oN _ | exact j0d6 N _ _ _ _ _ _ _ _ _ _ _ _ _ | apply oC | apply oS | refine oB ?_ ?_ | intro _)
theorem j0d7 (N a b c d e f g):OLe (@j07m (natLP N) a b c d e f g) (j07m a b c d e f g):=OLe.loop N _ fun _=>j0am N _ _ _ _ _ _ _
theorem j0fy (N a b c d):OLe (@j037 (natLP N) a b c d) (j037 a b c d):=by
 unfold j037
 with_reducible repeat' (first | exact oR _ | exact oN _ | exact j062 N _ _ _ | exact j0d7 N _ _ _ _ _ _ _ | exact j09v N _ | apply oC | apply oS | refine oB ?_ ?_ | intro _)
theorem j0f3 (N a b c d e f g h):OLe (@j09D (natLP N) a b c d e f g h) (j09D a b c d e f g h):=OLe.loop N _ fun _=>oR _
theorem j0f4 (N a b c d e f g h i j):OLe (@j09E (natLP N) a b c d e f g h i j) (j09E a b c d e f g h i j):=OLe.loop N _ fun _=>oR _
theorem j0bf (N a b c d e f):OLe (@j02R (natLP N) a b c d e f) (j02R a b c d e f):=by
 unfold j02R
 with_reducible repeat' (first | exact oR _ | exact oN _ | exact j0f3 N _ _ _ _ _ _ _ _ | exact j0f4 N _ _ _ _ _ _ _ _ _ _ | apply oC | apply oS | refine oB ?_ ?_ | intro _)
theorem j0f5 (N a b c d e f):OLe (@j09F (natLP N) a b c d e f) (j09F a b c d e f):=OLe.loop N _ fun _=>j0bf N _ _ _ _ _ _
theorem j0a0 (N a b):OLe (@j03Y (natLP N) a b) (j03Y a b):=by
 unfold j03Y
 with_reducible repeat' (first | exact oR _ | exact oN _ | exact j0f5 N _ _ _ _ _ _ | apply oC | apply oS | refine oB ?_ ?_ | intro _)
theorem j0fz (N a b c d e):OLe (@j0at (natLP N) a b c d e) (j0at a b c d e):=OLe.loop N _ fun _=>oR _
theorem j0il (N a b):OLe (@j088 (natLP N) a b) (j088 a b):=by
 unfold j088
 with_reducible repeat' (first | exact oR _ | exact oN _ | exact j0fz N _ _ _ _ _ | apply oC | apply oS | refine oB ?_ ?_ | intro _)
theorem j0f6 (N a b c d):OLe (@j05l (natLP N) a b c d) (j05l a b c d):=by
 unfold j05l
 with_reducible repeat' (first | exact oR _ | exact oN _ | exact j03g N _ _ _ | exact j0h8 N _ _ _ _ | exact j0fy N _ _ _ _ | exact j0a0 N _ _ | exact j0il N _ _ | apply oC | apply oS | refine oB ?_ ?_ | intro _)
theorem j0d8 (N a b):OLe (@j02s (natLP N) a b) (j02s a b):=by
 unfold j02s
 with_reducible repeat' (first | exact oR _ | exact oN _ | exact j09u N _ _ | apply oC | apply oS | refine oB ?_ ?_ | intro _)
theorem j09w (N a b):OLe (@j00o (natLP N) a b) (j00o a b):=by
 unfold j00o
 with_reducible repeat' (first | exact oR _ | exact oN _ | exact j0d8 N _ _ | apply oC | apply oS | refine oB ?_ ?_ | intro _)
theorem j0aZ (N a b c d e f g h i j k l m n):OLe (@j01b (natLP N) a b c d e f g h i j k l m n) (j01b a b c d e f g h i j k l m n):=by
 unfold j01b
 with_reducible repeat' (first | exact oR _ | exact oN _ | exact j03g N _ _ _ | apply oC | apply oS | refine oB ?_ ?_ | intro _)
theorem j0ee (N a b c d e f g h i j k l m n):OLe (@j03A (natLP N) a b c d e f g h i j k l m n) (j03A a b c d e f g h i j k l m n):=OLe.loop N _ fun _=>j0aZ N _ _ _ _ _ _ _ _ _ _ _ _ _ _
theorem j0b0 (N a b c d e f g h i j k l m n):OLe (@j01w (natLP N) a b c d e f g h i j k l m n) (j01w a b c d e f g h i j k l m n):=by
 unfold j01w
 with_reducible repeat' (first | exact oR _ | exact oN _ | exact j03g N _ _ _ | apply oC | apply oS | refine oB ?_ ?_ | intro _)
theorem j0ef (N a b c d e f g h i j k l m n):OLe (@j03B (natLP N) a b c d e f g h i j k l m n) (j03B a b c d e f g h i j k l m n):=OLe.loop N _ fun _=>j0b0 N _ _ _ _ _ _ _ _ _ _ _ _ _ _
theorem j0cg (N a b c):OLe (@j01N (natLP N) a b c) (j01N a b c):=by
 unfold j01N
 with_reducible repeat' (first | exact oR _ | exact oN _ | exact j03g N _ _ _ | exact j09w N _ _ | exact j0ee N _ _ _ _ _ _ _ _ _ _ _ _ _ _ | exact j0ef N _ _ _ _ _ _ _ _ _ _ _ _ _ _ | apply oC | apply oS | refine oB ?_ ?_ | intro _)
theorem j0gC (N a b c d):OLe (@j0bx (natLP N) a b c d) (j0bx a b c d):=OLe.loop N _ fun _=>oR _
theorem j0fk (N a):OLe (@j0ab (natLP N) a) (j0ab a):=by
 unfold j0ab
 with_reducible repeat' (first | exact oR _ | exact oN _ | exact j0gC N _ _ _ _ | apply oC | apply oS | refine oB ?_ ?_ | intro _)
theorem j082 (N a b c d e f g h i j k l m n o p q r s t u v):OLe (@j01G (natLP N) a b c d e f g h i j k l m n o p q r s t u v) (j01G a b c d e f g h i j k l m n o p q r s t u v):=by
 unfold j01G
 with_reducible repeat' (first | exact oR _ | exact oN _ | exact j0cg N _ _ _ | exact j03g N _ _ _ | apply oC | apply oS | refine oB ?_ ?_ | intro _)
theorem j0b1 (N a b c d e f g h i j k l m n o p q r s t u v):OLe (@j05c (natLP N) a b c d e f g h i j k l m n o p q r s t u v) (j05c a b c d e f g h i j k l m n o p q r s t u v):=OLe.loop N _ fun _=>j082 N _ _ _ _ _ _ _ _ _ _ _ _ _ _ _ _ _ _ _ _ _ _
theorem j083 (N a b c d e f g h i j k l m n o p q r s t):OLe (@j01H (natLP N) a b c d e f g h i j k l m n o p q r s t) (j01H a b c d e f g h i j k l m n o p q r s t):=by
 unfold j01H
 with_reducible repeat' (first | exact oR _ | exact oN _ | exact j0b1 N _ _ _ _ _ _ _ _ _ _ _ _ _ _ _ _ _ _ _ _ _ _ | apply oC | apply oS | refine oB ?_ ?_ | intro _)
theorem j0b2 (N a b c d e f g h i j k l m n o p q r s t):OLe (@j05d (natLP N) a b c d e f g h i j k l m n o p q r s t) (j05d a b c d e f g h i j k l m n o p q r s t):=OLe.loop N _ fun _=>j083 N _ _ _ _ _ _ _ _ _ _ _ _ _ _ _ _ _ _ _ _
theorem j0cF (N a b c d):OLe (@j03C (natLP N) a b c d) (j03C a b c d):=by
 unfold j03C
 with_reducible repeat' (first | exact oR _ | exact oN _ | exact j0f6 N _ _ _ _ | exact j0b2 N _ _ _ _ _ _ _ _ _ _ _ _ _ _ _ _ _ _ _ _ | exact j0fk N _ | apply oC | apply oS | refine oB ?_ ?_ | intro _)
theorem j0f7 (N a b c d e):OLe (@j09G (natLP N) a b c d e) (j09G a b c d e):=OLe.loop N _ fun _=>oR _
theorem j0h9 (N a b):OLe (@j08n (natLP N) a b) (j08n a b):=by
 unfold j08n
 with_reducible repeat' (first | exact oR _ | exact oN _ | exact j0f7 N _ _ _ _ _ | exact j09v N _ | apply oC | apply oS | refine oB ?_ ?_ | intro _)
theorem j0eg (N a b c d e f g h i j k l m n):OLe (@j06b (natLP N) a b c d e f g h i j k l m n) (j06b a b c d e f g h i j k l m n):=OLe.loop N _ fun _=>oR _
theorem j0b3 (N a b c d e f g h):OLe (@j02y (natLP N) a b c d e f g h) (j02y a b c d e f g h):=by
 unfold j02y
 with_reducible repeat' (first | exact oR _ | exact oN _ | exact j0h9 N _ _ | exact j0a0 N _ _ | exact j0eg N _ _ _ _ _ _ _ _ _ _ _ _ _ _ | apply oC | apply oS | refine oB ?_ ?_ | intro _)
theorem j0eh (N a b c d e f g h):OLe (@j08o (natLP N) a b c d e f g h) (j08o a b c d e f g h):=OLe.loop N _ fun _=>j0b3 N _ _ _ _ _ _ _ _
theorem j0gD (N a b):OLe (@j079 (natLP N) a b) (j079 a b):=by
 unfold j079
 with_reducible repeat' (first | exact oR _ | exact oN _ | exact j0eh N _ _ _ _ _ _ _ _ | apply oC | apply oS | refine oB ?_ ?_ | intro _)
theorem j0f8 (N a b c d e):OLe (@j09H (natLP N) a b c d e) (j09H a b c d e):=OLe.loop N _ fun _=>oR _
theorem j0ha (N a b):OLe (@j08q (natLP N) a b) (j08q a b):=by
 unfold j08q
 with_reducible repeat' (first | exact oR _ | exact oN _ | exact j0f8 N _ _ _ _ _ | apply oC | apply oS | refine oB ?_ ?_ | intro _)
theorem j0fA (N a b c d):OLe (@j0au (natLP N) a b c d) (j0au a b c d):=OLe.loop N _ fun _=>oR _
theorem j0im (N a):OLe (@j0ac (natLP N) a) (j0ac a):=by
 unfold j0ac
 with_reducible repeat' (first | exact oR _ | exact oN _ | exact j0fA N _ _ _ _ | exact j09v N _ | apply oC | apply oS | refine oB ?_ ?_ | intro _)
theorem j095 (N a b c d e f g h i j k l m n):OLe (@j01Z (natLP N) a b c d e f g h i j k l m n) (j01Z a b c d e f g h i j k l m n):=by
 unfold j01Z
 with_reducible repeat' (first | exact oR _ | exact oN _ | exact j0cF N _ _ _ _ | exact j0gD N _ _ | exact j0ha N _ _ | exact j0im N _ | exact j0a0 N _ _ | apply oC | apply oS | refine oB ?_ ?_ | intro _)
theorem j0ch (N a b c d e f g h i j k l m n):OLe (@j06c (natLP N) a b c d e f g h i j k l m n) (j06c a b c d e f g h i j k l m n):=OLe.loop N _ fun _=>j095 N _ _ _ _ _ _ _ _ _ _ _ _ _ _
theorem j0ci (N a b c d):OLe (@j06e (natLP N) a b c d) (j06e a b c d):=OLe.loop N _ fun _=>oR _
theorem j0ei (N a b c d):OLe (@j04D (natLP N) a b c d) (j04D a b c d):=by
 unfold j04D
 with_reducible repeat' (first | exact oR _ | exact oN _ | exact j0ch N _ _ _ _ _ _ _ _ _ _ _ _ _ _ | exact j0ci N _ _ _ _ | exact j0fk N _ | apply oC | apply oS | refine oB ?_ ?_ | intro _)
theorem j0fB (N a b c d):OLe (@j06f (natLP N) a b c d) (j06f a b c d):=by
 unfold j06f
 with_reducible repeat' (first | exact oR _ | exact oN _ | exact j0ij N _ _ _ _ | exact j0ei N _ _ _ _ | apply oC | apply oS | refine oB ?_ ?_ | intro _)
theorem j0fl (N a b):OLe (@j07a (natLP N) a b) (j07a a b):=by
 unfold j07a
 with_reducible repeat' (first | exact oR _ | exact oN _ | exact j0ju N _ | apply oC | apply oS | refine oB ?_ ?_ | intro _)
theorem j0in (N a b c d):OLe (@j089 (natLP N) a b c d) (j089 a b c d):=OLe.loop N _ fun _=>oR _
theorem j0m5 (N a b):OLe (@j0cQ (natLP N) a b) (j0cQ a b):=by
 unfold j0cQ
 with_reducible repeat' (first | exact oR _ | exact oN _ | exact j0in N _ _ _ _ | apply oC | apply oS | refine oB ?_ ?_ | intro _)
theorem j06C (N a b c d e):OLe (@j00F (natLP N) a b c d e) (j00F a b c d e):=OLe.loop N _ fun _=>oR _
theorem j07C (N a b):OLe (@j00r (natLP N) a b) (j00r a b):=by
 unfold j00r
 with_reducible repeat' (first | exact oR _ | exact oN _ | exact j06C N _ _ _ _ _ | apply oC | apply oS | refine oB ?_ ?_ | intro _)
theorem j0hb (N a b c):OLe (@j03i (natLP N) a b c) (j03i a b c):=by
 unfold j03i
 with_reducible repeat' (first | exact oR _ | exact oN _ | exact j0cg N _ _ _ | exact j09w N _ _ | exact j0m5 N _ _ | exact j07C N _ _ | apply oC | apply oS | refine oB ?_ ?_ | intro _)
theorem j0ej (N a b c):OLe (@j013 (natLP N) a b c) (j013 a b c):=by
 unfold j013
 with_reducible repeat' (first | exact oR _ | exact oN _ | exact j0hb N _ _ _ | apply oC | apply oS | refine oB ?_ ?_ | intro _)
theorem j04U (N a b c d e):OLe (@j00j (natLP N) a b c d e) (j00j a b c d e):=OLe.loop N _ fun _=>oR _
theorem j05C (N a b c):OLe (@j00w (natLP N) a b c) (j00w a b c):=by
 unfold j00w
 with_reducible repeat' (first | exact oR _ | exact oN _ | exact j04U N _ _ _ _ _ | apply oC | apply oS | refine oB ?_ ?_ | intro _)
theorem j04V (N a b c):OLe (@j00q (natLP N) a b c) (j00q a b c):=by
 unfold j00q
 with_reducible repeat' (first | exact oR _ | exact oN _ | exact j05C N _ _ _ | apply oC | apply oS | refine oB ?_ ?_ | intro _)
theorem j0fm (N a b c):OLe (@j05m (natLP N) a b c) (j05m a b c):=by
 unfold j05m
 with_reducible repeat' (first | exact oR _ | exact oN _ | exact j04V N _ _ _ | apply oC | apply oS | refine oB ?_ ?_ | intro _)
theorem j0b4 (N a b c d e f g h i j k l m):OLe (@j01c (natLP N) a b c d e f g h i j k l m) (j01c a b c d e f g h i j k l m):=by
 unfold j01c
 with_reducible repeat' (first | exact oR _ | exact oN _ | exact j0ej N _ _ _ | exact j0fm N _ _ _ | apply oC | apply oS | refine oB ?_ ?_ | intro _)
theorem j0ek (N a b c d e f g h i j k l m):OLe (@j02S (natLP N) a b c d e f g h i j k l m) (j02S a b c d e f g h i j k l m):=OLe.loop N _ fun _=>j0b4 N _ _ _ _ _ _ _ _ _ _ _ _ _
theorem j0cj (N a b c):OLe (@j02I (natLP N) a b c) (j02I a b c):=by
 unfold j02I
 with_reducible repeat' (first | exact oR _ | exact oN _ | exact j0ek N _ _ _ _ _ _ _ _ _ _ _ _ _ | apply oC | apply oS | refine oB ?_ ?_ | intro _)
theorem j0kJ (N a b c):OLe (@j06h (natLP N) a b c) (j06h a b c):=by
 unfold j06h
 with_reducible repeat' (first | exact oR _ | exact oN _ | exact j0fl N _ _ | exact j0cj N _ _ _ | apply oC | apply oS | refine oB ?_ ?_ | intro _)
theorem j0io (N a b c):OLe (@j04Y (natLP N) a b c) (j04Y a b c):=by
 unfold j04Y
 with_reducible repeat' (first | exact oR _ | exact oN _ | exact j0fl N _ _ | exact j0cj N _ _ _ | apply oC | apply oS | refine oB ?_ ?_ | intro _)
theorem j0jv (N):OLe (@j08r (natLP N) ) (j08r ):=by
 unfold j08r
 with_reducible repeat' (first | exact oR _ | exact oN _ | exact j0fB N _ _ _ _ | exact j0kJ N _ _ _ | exact j0io N _ _ _ | exact j0fm N _ _ _ | apply oC | apply oS | refine oB ?_ ?_ | intro _)
abbrev j0jw (N:Nat):=@j00V (natLP N)
end
end Go.Proofs.Pw
