/- Twins with a bound on their rounds, printed by a program. -/
import Derived.Test.YthpdddnkpjnllaaGreatCFns
import Derived.Test.YthpdddnkpjnllaaGreatCLD
open Go Go.Lft
set_option linter.unusedVariables false
set_option maxRecDepth 100000
namespace Go.Proofs.Pw
noncomputable section
theorem j0dV (N a b c):OLe (@j0a8 (natLP N) a b c) (j0a8 a b c):=OLe.loop N _ fun _=>oR _
theorem j06R (N a):OLe (@j06C (natLP N) a) (j06C a):=by
 unfold j06C
 with_reducible repeat' (first | exact oR _ | exact oN _ | exact j0dV N _ _ _ | apply oC | apply oS | refine oB ?_ ?_ | intro _)
theorem j05m (N a b):OLe (@j033 (natLP N) a b) (j033 a b):=by
 unfold j033
 with_reducible repeat' (first | exact oR _ | exact oN _ | exact j06R N _ | apply oC | apply oS | refine oB ?_ ?_ | intro _)
theorem j0cF (N a b c d e):OLe (@j04m (natLP N) a b c d e) (j04m a b c d e):=OLe.loop N _ fun _=>oR _
theorem j0er (N a):OLe (@j05x (natLP N) a) (j05x a):=by
 unfold j05x
 with_reducible repeat' (first | exact oR _ | exact oN _ | exact j0cF N _ _ _ _ _ | apply oC | apply oS | refine oB ?_ ?_ | intro _)
theorem j0hm (N a b c d):OLe (@j09j (natLP N) a b c d) (j09j a b c d):=by
 unfold j09j
 with_reducible repeat' (first | exact oR _ | exact oN _ | exact j0er N _ | apply oC | apply oS | refine oB ?_ ?_ | intro _)
theorem j03v (N a b c d e):OLe (@j00a (natLP N) a b c d e) (j00a a b c d e):=OLe.loop N _ fun _=>oR _
theorem j02V (N a b c d):OLe (@j003 (natLP N) a b c d) (j003 a b c d):=by
 unfold j003
 with_reducible repeat' (first | exact oR _ | exact oN _ | exact j03v N _ _ _ _ _ | apply oC | apply oS | refine oB ?_ ?_ | intro _)
theorem j03w (N a b c d):OLe (@j00b (natLP N) a b c d) (j00b a b c d):=OLe.loop N _ fun _=>j02V N _ _ _ _
theorem j024 (N a b c):OLe (@j006 (natLP N) a b c) (j006 a b c):=by
 unfold j006
 with_reducible repeat' (first | exact oR _ | exact oN _ | exact j03w N _ _ _ _ | apply oC | apply oS | refine oB ?_ ?_ | intro _)
theorem j03J (N a b c d e):OLe (@j008 (natLP N) a b c d e) (j008 a b c d e):=by
 unfold j008
 with_reducible repeat' (first | exact oR _ | exact oN _ | exact j024 N _ _ _ | apply oC | apply oS | refine oB ?_ ?_ | intro _)
theorem j04y (N a b c d e):OLe (@j00p (natLP N) a b c d e) (j00p a b c d e):=OLe.loop N _ fun _=>j03J N _ _ _ _ _
theorem j04z (N a b c d e):OLe (@j01E (natLP N) a b c d e) (j01E a b c d e):=OLe.loop N _ fun _=>oR _
theorem j03K (N a b c):OLe (@j009 (natLP N) a b c) (j009 a b c):=by
 unfold j009
 with_reducible repeat' (first | exact oR _ | exact oN _ | exact j04z N _ _ _ _ _ | apply oC | apply oS | refine oB ?_ ?_ | intro _)
theorem j04A (N a b c):OLe (@j00q (natLP N) a b c) (j00q a b c):=OLe.loop N _ fun _=>j03K N _ _ _
theorem j053 (N a b):OLe (@j00B (natLP N) a b) (j00B a b):=by
 unfold j00B
 with_reducible repeat' (first | exact oR _ | exact oN _ | exact j04y N _ _ _ _ _ | exact j024 N _ _ _ | exact j04A N _ _ _ | apply oC | apply oS | refine oB ?_ ?_ | intro _)
theorem j02O (N a):OLe (@j004 (natLP N) a) (j004 a):=by
 unfold j004
 with_reducible repeat' (first | exact oR _ | exact oN _ | exact j053 N _ _ | apply oC | apply oS | refine oB ?_ ?_ | intro _)
theorem j0ar (N a b c d e f g):OLe (@j028 (natLP N) a b c d e f g) (j028 a b c d e f g):=OLe.loop N _ fun _=>oR _
theorem j088 (N a b c d e f g h i j k l):OLe (@j00R (natLP N) a b c d e f g h i j k l) (j00R a b c d e f g h i j k l):=by
 unfold j00R
 with_reducible repeat' (first | exact oR _ | exact oN _ | exact j0hm N _ _ _ _ | apply oC | apply oS | refine oB ?_ ?_ | intro _)
theorem j0as (N a b c d e f g h i j k l):OLe (@j02D (natLP N) a b c d e f g h i j k l) (j02D a b c d e f g h i j k l):=OLe.loop N _ fun _=>j088 N _ _ _ _ _ _ _ _ _ _ _ _
theorem j089 (N a b c d):OLe (@j00S (natLP N) a b c d) (j00S a b c d):=by
 unfold j00S
 with_reducible repeat' (first | exact oR _ | exact oN _ | exact j0as N _ _ _ _ _ _ _ _ _ _ _ _ | apply oC | apply oS | refine oB ?_ ?_ | intro _)
theorem j0at (N a b c d):OLe (@j029 (natLP N) a b c d) (j029 a b c d):=OLe.loop N _ fun _=>j089 N _ _ _ _
theorem j0bU (N a):OLe (@j035 (natLP N) a) (j035 a):=by
 unfold j035
 with_reducible repeat' (first | exact oR _ | exact oN _ | exact j0ar N _ _ _ _ _ _ _ | exact j0at N _ _ _ _ | exact j02O N _ | apply oC | apply oS | refine oB ?_ ?_ | intro _)
theorem j0au (N a b c d e):OLe (@j02b (natLP N) a b c d e) (j02b a b c d e):=OLe.loop N _ fun _=>oR _
theorem j08v (N a):OLe (@j01V (natLP N) a) (j01V a):=by
 unfold j01V
 with_reducible repeat' (first | exact oR _ | exact oN _ | exact j0bU N _ | exact j0au N _ _ _ _ _ | apply oC | apply oS | refine oB ?_ ?_ | intro _)
theorem j0gv (N a):OLe (@j06H (natLP N) a) (j06H a):=by
 unfold j06H
 with_reducible repeat' (first | exact oR _ | exact oN _ | exact j08v N _ | apply oC | apply oS | refine oB ?_ ?_ | intro _)
theorem j03F (N a b c):OLe (@j00c (natLP N) a b c) (j00c a b c):=OLe.loop N _ fun _=>oR _
theorem j043 (N a):OLe (@j00j (natLP N) a) (j00j a):=by
 unfold j00j
 with_reducible repeat' (first | exact oR _ | exact oN _ | exact j03F N _ _ _ | apply oC | apply oS | refine oB ?_ ?_ | intro _)
theorem j03G (N a):OLe (@j00d (natLP N) a) (j00d a):=by
 unfold j00d
 with_reducible repeat' (first | exact oR _ | exact oN _ | exact j043 N _ | apply oC | apply oS | refine oB ?_ ?_ | intro _)
theorem j0b7 (N a):OLe (@j02m (natLP N) a) (j02m a):=by
 unfold j02m
 with_reducible repeat' (first | exact oR _ | exact oN _ | exact j0gv N _ | exact j03G N _ | apply oC | apply oS | refine oB ?_ ?_ | intro _)
theorem j06h (N a b c d):OLe (@j00t (natLP N) a b c d) (j00t a b c d):=by
 unfold j00t
 with_reducible repeat' (first | exact oR _ | exact oN _ | exact j05m N _ _ | exact j0b7 N _ | apply oC | apply oS | refine oB ?_ ?_ | intro _)
theorem j082 (N a b c d):OLe (@j013 (natLP N) a b c d) (j013 a b c d):=OLe.loop N _ fun _=>j06h N _ _ _ _
theorem j09c (N a):OLe (@j01u (natLP N) a) (j01u a):=by
 unfold j01u
 with_reducible repeat' (first | exact oR _ | exact oN _ | exact j082 N _ _ _ _ | apply oC | apply oS | refine oB ?_ ?_ | intro _)
theorem j0dW (N a b c d):OLe (@j05S (natLP N) a b c d) (j05S a b c d):=OLe.loop N _ fun _=>oR _
theorem j0cW (N a):OLe (@j06I (natLP N) a) (j06I a):=by
 unfold j06I
 with_reducible repeat' (first | exact oR _ | exact oN _ | exact j0dW N _ _ _ _ | apply oC | apply oS | refine oB ?_ ?_ | intro _)
theorem j0av (N a b):OLe (@j01o (natLP N) a b) (j01o a b):=by
 unfold j01o
 with_reducible repeat' (first | exact oR _ | exact oN _ | exact j0cW N _ | apply oC | apply oS | refine oB ?_ ?_ | intro _)
theorem j0dX (N a b):OLe (@j0aa (natLP N) a b) (j0aa a b):=OLe.loop N _ fun _=>oR _
theorem j0gw (N a):OLe (@j0ab (natLP N) a) (j0ab a):=by
 unfold j0ab
 with_reducible repeat' (first | exact oR _ | exact oN _ | exact j0dX N _ _ | apply oC | apply oS | refine oB ?_ ?_ | intro _)
theorem j0cG (N a b c d e f g):OLe (@j08B (natLP N) a b c d e f g) (j08B a b c d e f g):=OLe.loop N _ fun _=>oR _
theorem j0es (N a):OLe (@j05z (natLP N) a) (j05z a):=by
 unfold j05z
 with_reducible repeat' (first | exact oR _ | exact oN _ | exact j0gw N _ | exact j0cG N _ _ _ _ _ _ _ | apply oC | apply oS | refine oB ?_ ?_ | intro _)
theorem j07r (N a):OLe (@j01t (natLP N) a) (j01t a):=by
 unfold j01t
 with_reducible repeat' (first | exact oR _ | exact oN _ | exact j0es N _ | apply oC | apply oS | refine oB ?_ ?_ | intro _)
theorem j08a (N a):OLe (@j01F (natLP N) a) (j01F a):=by
 unfold j01F
 with_reducible repeat' (first | exact oR _ | exact oN _ | exact j07r N _ | apply oC | apply oS | refine oB ?_ ?_ | intro _)
theorem j05Y (N a b c):OLe (@j00m (natLP N) a b c) (j00m a b c):=by
 unfold j00m
 with_reducible repeat' (first | exact oR _ | exact oN _ | exact j08a N _ | apply oC | apply oS | refine oB ?_ ?_ | intro _)
theorem j076 (N a b c):OLe (@j018 (natLP N) a b c) (j018 a b c):=OLe.loop N _ fun _=>j05Y N _ _ _
theorem j08b (N a):OLe (@j01G (natLP N) a) (j01G a):=by
 unfold j01G
 with_reducible repeat' (first | exact oR _ | exact oN _ | exact j076 N _ _ _ | apply oC | apply oS | refine oB ?_ ?_ | intro _)
theorem j077 (N a):OLe (@j019 (natLP N) a) (j019 a):=by
 unfold j019
 with_reducible repeat' (first | exact oR _ | exact oN _ | exact j08b N _ | apply oC | apply oS | refine oB ?_ ?_ | intro _)
theorem j08c (N a b c d e):OLe (@j01H (natLP N) a b c d e) (j01H a b c d e):=OLe.loop N _ fun _=>oR _
theorem j09B (N a b):OLe (@j01h (natLP N) a b) (j01h a b):=by
 unfold j01h
 with_reducible repeat' (first | exact oR _ | exact oN _ | exact j077 N _ | exact j08c N _ _ _ _ _ | apply oC | apply oS | refine oB ?_ ?_ | intro _)
theorem j0bV (N a b c d e):OLe (@j03P (natLP N) a b c d e) (j03P a b c d e):=by
 unfold j03P
 with_reducible repeat' (first | exact oR _ | exact oN _ | exact j09B N _ _ | apply oC | apply oS | refine oB ?_ ?_ | intro _)
theorem j05n (N a b c d e f g h):OLe (@j00h (natLP N) a b c d e f g h) (j00h a b c d e f g h):=by
 unfold j00h
 with_reducible repeat' (first | exact oR _ | exact oN _ | exact j05m N _ _ | exact j0bV N _ _ _ _ _ | apply oC | apply oS | refine oB ?_ ?_ | intro _)
theorem j06t (N a b c d e f g h):OLe (@j00G (natLP N) a b c d e f g h) (j00G a b c d e f g h):=OLe.loop N _ fun _=>j05n N _ _ _ _ _ _ _ _
theorem j07s (N a b c d e):OLe (@j00V (natLP N) a b c d e) (j00V a b c d e):=by
 unfold j00V
 with_reducible repeat' (first | exact oR _ | exact oN _ | exact j06t N _ _ _ _ _ _ _ _ | apply oC | apply oS | refine oB ?_ ?_ | intro _)
theorem j06i (N a b c d e f g):OLe (@j00N (natLP N) a b c d e f g) (j00N a b c d e f g):=OLe.loop N _ fun _=>oR _
theorem j078 (N a b c d e):OLe (@j01a (natLP N) a b c d e) (j01a a b c d e):=by
 unfold j01a
 with_reducible repeat' (first | exact oR _ | exact oN _ | exact j06i N _ _ _ _ _ _ _ | apply oC | apply oS | refine oB ?_ ?_ | intro _)
theorem j06j (N a b c d e):OLe (@j00O (natLP N) a b c d e) (j00O a b c d e):=by
 unfold j00O
 with_reducible repeat' (first | exact oR _ | exact oN _ | exact j078 N _ _ _ _ _ | apply oC | apply oS | refine oB ?_ ?_ | intro _)
theorem j0aQ (N a b):OLe (@j020 (natLP N) a b) (j020 a b):=by
 unfold j020
 with_reducible repeat' (first | exact oR _ | exact oN _ | exact j07r N _ | exact j06j N _ _ _ _ _ | exact j0cW N _ | apply oC | apply oS | refine oB ?_ ?_ | intro _)
theorem j08d (N a b c d e):OLe (@j01I (natLP N) a b c d e) (j01I a b c d e):=by
 unfold j01I
 with_reducible repeat' (first | exact oR _ | exact oN _ | exact j0aQ N _ _ | apply oC | apply oS | refine oB ?_ ?_ | intro _)
theorem j06d (N a b c d e f g h):OLe (@j00r (natLP N) a b c d e f g h) (j00r a b c d e f g h):=by
 unfold j00r
 with_reducible repeat' (first | exact oR _ | exact oN _ | exact j05m N _ _ | exact j08d N _ _ _ _ _ | apply oC | apply oS | refine oB ?_ ?_ | intro _)
theorem j07t (N a b c d e f g h):OLe (@j00W (natLP N) a b c d e f g h) (j00W a b c d e f g h):=OLe.loop N _ fun _=>j06d N _ _ _ _ _ _ _ _
theorem j08S (N a b c d e):OLe (@j01n (natLP N) a b c d e) (j01n a b c d e):=by
 unfold j01n
 with_reducible repeat' (first | exact oR _ | exact oN _ | exact j07t N _ _ _ _ _ _ _ _ | apply oC | apply oS | refine oB ?_ ?_ | intro _)
theorem j0b8 (N a b):OLe (@j02n (natLP N) a b) (j02n a b):=by
 unfold j02n
 with_reducible repeat' (first | exact oR _ | exact oN _ | exact j07r N _ | apply oC | apply oS | refine oB ?_ ?_ | intro _)
theorem j06u (N a b c d e f g):OLe (@j00A (natLP N) a b c d e f g) (j00A a b c d e f g):=by
 unfold j00A
 with_reducible repeat' (first | exact oR _ | exact oN _ | exact j0b8 N _ _ | apply oC | apply oS | refine oB ?_ ?_ | intro _)
theorem j08e (N a b c d e f g):OLe (@j01J (natLP N) a b c d e f g) (j01J a b c d e f g):=OLe.loop N _ fun _=>j06u N _ _ _ _ _ _ _
theorem j09C (N a b):OLe (@j01i (natLP N) a b) (j01i a b):=by
 unfold j01i
 with_reducible repeat' (first | exact oR _ | exact oN _ | exact j08S N _ _ _ _ _ | exact j08e N _ _ _ _ _ _ _ | apply oC | apply oS | refine oB ?_ ?_ | intro _)
theorem j0bW (N a b c d e):OLe (@j03R (natLP N) a b c d e) (j03R a b c d e):=by
 unfold j03R
 with_reducible repeat' (first | exact oR _ | exact oN _ | exact j09C N _ _ | apply oC | apply oS | refine oB ?_ ?_ | intro _)
theorem j05o (N a b c d e f g h):OLe (@j00i (natLP N) a b c d e f g h) (j00i a b c d e f g h):=by
 unfold j00i
 with_reducible repeat' (first | exact oR _ | exact oN _ | exact j05m N _ _ | exact j0bW N _ _ _ _ _ | apply oC | apply oS | refine oB ?_ ?_ | intro _)
theorem j06v (N a b c d e f g h):OLe (@j00H (natLP N) a b c d e f g h) (j00H a b c d e f g h):=OLe.loop N _ fun _=>j05o N _ _ _ _ _ _ _ _
theorem j07u (N a b c d e):OLe (@j01g (natLP N) a b c d e) (j01g a b c d e):=by
 unfold j01g
 with_reducible repeat' (first | exact oR _ | exact oN _ | exact j06v N _ _ _ _ _ _ _ _ | apply oC | apply oS | refine oB ?_ ?_ | intro _)
theorem j09D (N a b c d e f g h):OLe (@j01j (natLP N) a b c d e f g h) (j01j a b c d e f g h):=by
 unfold j01j
 with_reducible repeat' (first | exact oR _ | exact oN _ | exact j05m N _ _ | exact j0av N _ _ | apply oC | apply oS | refine oB ?_ ?_ | intro _)
theorem j0bX (N a b c d e f g h):OLe (@j036 (natLP N) a b c d e f g h) (j036 a b c d e f g h):=OLe.loop N _ fun _=>j09D N _ _ _ _ _ _ _ _
theorem j0dY (N a):OLe (@j044 (natLP N) a) (j044 a):=by
 unfold j044
 with_reducible repeat' (first | exact oR _ | exact oN _ | exact j09c N _ | exact j0bX N _ _ _ _ _ _ _ _ | exact j07s N _ _ _ _ _ | exact j07u N _ _ _ _ _ | apply oC | apply oS | refine oB ?_ ?_ | intro _)
theorem j0jz (N a):OLe (@zone_Of (natLP N) a) (zone_Of a):=by
 unfold zone_Of
 with_reducible repeat' (first | exact oR _ | exact oN _ | exact j08v N _ | apply oC | apply oS | refine oB ?_ ?_ | intro _)
theorem j0aw (N a b c d):OLe (@j01R (natLP N) a b c d) (j01R a b c d):=by
 unfold j01R
 with_reducible repeat' (first | exact oR _ | exact oN _ | exact j0jz N _ | apply oC | apply oS | refine oB ?_ ?_ | intro _)
theorem j0d7 (N a b c d):OLe (@j049 (natLP N) a b c d) (j049 a b c d):=OLe.loop N _ fun _=>j0aw N _ _ _ _
theorem j0fw (N a):OLe (@j07z (natLP N) a) (j07z a):=by
 unfold j07z
 with_reducible repeat' (first | exact oR _ | exact oN _ | exact j0d7 N _ _ _ _ | apply oC | apply oS | refine oB ?_ ?_ | intro _)
theorem j0hn (N a):OLe (@j09k (natLP N) a) (j09k a):=by
 unfold j09k
 with_reducible repeat' (first | exact oR _ | exact oN _ | exact j0fw N _ | apply oC | apply oS | refine oB ?_ ?_ | intro _)
theorem j0gx (N a):OLe (@duty_Of (natLP N) a) (duty_Of a):=by
 unfold duty_Of
 with_reducible repeat' (first | exact oR _ | exact oN _ | exact j0dY N _ | exact j0hn N _ | apply oC | apply oS | refine oB ?_ ?_ | intro _)
theorem j0fx (N a b c d):OLe (@j05T (natLP N) a b c d) (j05T a b c d):=by
 unfold j05T
 with_reducible repeat' (first | exact oR _ | exact oN _ | exact j0gx N _ | apply oC | apply oS | refine oB ?_ ?_ | intro _)
theorem j0d8 (N a b c d e):OLe (@j04T (natLP N) a b c d e) (j04T a b c d e):=OLe.loop N _ fun _=>oR _
theorem j0fy (N a b c d):OLe (@j07A (natLP N) a b c d) (j07A a b c d):=by
 unfold j07A
 with_reducible repeat' (first | exact oR _ | exact oN _ | exact j0d8 N _ _ _ _ _ | apply oC | apply oS | refine oB ?_ ?_ | intro _)
theorem j08w (N a b):OLe (@j02u (natLP N) a b) (j02u a b):=by
 unfold j02u
 with_reducible repeat' (first | exact oR _ | exact oN _ | exact j0fy N _ _ _ _ | apply oC | apply oS | refine oB ?_ ?_ | intro _)
theorem j083 (N a b c d e):OLe (@j00g (natLP N) a b c d e) (j00g a b c d e):=by
 unfold j00g
 with_reducible repeat' (first | exact oR _ | exact oN _ | exact j08w N _ _ | apply oC | apply oS | refine oB ?_ ?_ | intro _)
theorem j09S (N a b c d e):OLe (@j01v (natLP N) a b c d e) (j01v a b c d e):=OLe.loop N _ fun _=>j083 N _ _ _ _ _
theorem j05P (N a b c):OLe (@j011 (natLP N) a b c) (j011 a b c):=by
 unfold j011
 with_reducible repeat' (first | exact oR _ | exact oN _ | exact j09S N _ _ _ _ _ | apply oC | apply oS | refine oB ?_ ?_ | intro _)
theorem j0ax (N a b c d e):OLe (@j02c (natLP N) a b c d e) (j02c a b c d e):=OLe.loop N _ fun _=>oR _
theorem j0bY (N a b):OLe (@j01w (natLP N) a b) (j01w a b):=by
 unfold j01w
 with_reducible repeat' (first | exact oR _ | exact oN _ | exact j05P N _ _ _ | exact j0ax N _ _ _ _ _ | apply oC | apply oS | refine oB ?_ ?_ | intro _)
theorem j03x (N a b c):OLe (@j00C (natLP N) a b c) (j00C a b c):=by
 unfold j00C
 with_reducible repeat' (first | exact oR _ | exact oN _ | exact j0bY N _ _ | apply oC | apply oS | refine oB ?_ ?_ | intro _)
theorem j04Q (N a b c):OLe (@j00k (natLP N) a b c) (j00k a b c):=OLe.loop N _ fun _=>oR _
theorem j05p (N a):OLe (@j00E (natLP N) a) (j00E a):=by
 unfold j00E
 with_reducible repeat' (first | exact oR _ | exact oN _ | exact j04Q N _ _ _ | apply oC | apply oS | refine oB ?_ ?_ | intro _)
theorem j04F (N a b c):OLe (@j00s (natLP N) a b c) (j00s a b c):=OLe.loop N _ fun _=>oR _
theorem j05d (N a):OLe (@j00o (natLP N) a) (j00o a):=by
 unfold j00o
 with_reducible repeat' (first | exact oR _ | exact oN _ | exact j05p N _ | exact j04F N _ _ _ | apply oC | apply oS | refine oB ?_ ?_ | intro _)
theorem j0dZ (N a b c d):OLe (@j04J (natLP N) a b c d) (j04J a b c d):=OLe.loop N _ fun _=>oR _
theorem j08x (N a):OLe (@j05e (natLP N) a) (j05e a):=by
 unfold j05e
 with_reducible repeat' (first | exact oR _ | exact oN _ | exact j05d N _ | exact j0dZ N _ _ _ _ | apply oC | apply oS | refine oB ?_ ?_ | intro _)
theorem j0cH (N a b c d e f g h i j k l):OLe (@j04n (natLP N) a b c d e f g h i j k l) (j04n a b c d e f g h i j k l):=OLe.loop N _ fun _=>oR _
theorem j09T (N a b c d e f g h i):OLe (@j01x (natLP N) a b c d e f g h i) (j01x a b c d e f g h i):=by
 unfold j01x
 with_reducible repeat' (first | exact oR _ | exact oN _ | exact j0cH N _ _ _ _ _ _ _ _ _ _ _ _ | apply oC | apply oS | refine oB ?_ ?_ | intro _)
theorem j0cI (N a b c d e f g h i):OLe (@j04o (natLP N) a b c d e f g h i) (j04o a b c d e f g h i):=OLe.loop N _ fun _=>j09T N _ _ _ _ _ _ _ _ _
theorem j09U (N a b c d e):OLe (@j01y (natLP N) a b c d e) (j01y a b c d e):=by
 unfold j01y
 with_reducible repeat' (first | exact oR _ | exact oN _ | exact j0cI N _ _ _ _ _ _ _ _ _ | apply oC | apply oS | refine oB ?_ ?_ | intro _)
theorem j0cJ (N a b c d e):OLe (@j04p (natLP N) a b c d e) (j04p a b c d e):=OLe.loop N _ fun _=>j09U N _ _ _ _ _
theorem j0et (N a b c d):OLe (@j038 (natLP N) a b c d) (j038 a b c d):=by
 unfold j038
 with_reducible repeat' (first | exact oR _ | exact oN _ | exact j05P N _ _ _ | exact j0cJ N _ _ _ _ _ | exact j08x N _ | apply oC | apply oS | refine oB ?_ ?_ | intro _)
theorem j0b9 (N a b c d e f g h i j k l m):OLe (@j02H (natLP N) a b c d e f g h i j k l m) (j02H a b c d e f g h i j k l m):=OLe.loop N _ fun _=>oR _
theorem j09d (N a b c d e f g):OLe (@j017 (natLP N) a b c d e f g) (j017 a b c d e f g):=by
 unfold j017
 with_reducible repeat' (first | exact oR _ | exact oN _ | exact j0b9 N _ _ _ _ _ _ _ _ _ _ _ _ _ | apply oC | apply oS | refine oB ?_ ?_ | intro _)
theorem j0ba (N a b c d e f g):OLe (@j02I (natLP N) a b c d e f g) (j02I a b c d e f g):=OLe.loop N _ fun _=>j09d N _ _ _ _ _ _ _
theorem j0d9 (N a b c d):OLe (@j01q (natLP N) a b c d) (j01q a b c d):=by
 unfold j01q
 with_reducible repeat' (first | exact oR _ | exact oN _ | exact j05P N _ _ _ | exact j0ba N _ _ _ _ _ _ _ | exact j08x N _ | apply oC | apply oS | refine oB ?_ ?_ | intro _)
theorem j0cK (N a b c d e f g h):OLe (@j04q (natLP N) a b c d e f g h) (j04q a b c d e f g h):=OLe.loop N _ fun _=>oR _
theorem j0cL (N a b c d e f g h i j):OLe (@j03z (natLP N) a b c d e f g h i j) (j03z a b c d e f g h i j):=OLe.loop N _ fun _=>oR _
theorem j09V (N a b c d e f):OLe (@j01z (natLP N) a b c d e f) (j01z a b c d e f):=by
 unfold j01z
 with_reducible repeat' (first | exact oR _ | exact oN _ | exact j0cK N _ _ _ _ _ _ _ _ | exact j0cL N _ _ _ _ _ _ _ _ _ _ | apply oC | apply oS | refine oB ?_ ?_ | intro _)
theorem j0cM (N a b c d e f):OLe (@j02W (natLP N) a b c d e f) (j02W a b c d e f):=OLe.loop N _ fun _=>j09V N _ _ _ _ _ _
theorem j08T (N a b):OLe (@j01Y (natLP N) a b) (j01Y a b):=by
 unfold j01Y
 with_reducible repeat' (first | exact oR _ | exact oN _ | exact j0cM N _ _ _ _ _ _ | apply oC | apply oS | refine oB ?_ ?_ | intro _)
theorem j0da (N a b c d e):OLe (@j02T (natLP N) a b c d e) (j02T a b c d e):=OLe.loop N _ fun _=>oR _
theorem j0fz (N a b):OLe (@j05V (natLP N) a b) (j05V a b):=by
 unfold j05V
 with_reducible repeat' (first | exact oR _ | exact oN _ | exact j0da N _ _ _ _ _ | apply oC | apply oS | refine oB ?_ ?_ | intro _)
theorem j0cN (N a b c d):OLe (@j02X (natLP N) a b c d) (j02X a b c d):=by
 unfold j02X
 with_reducible repeat' (first | exact oR _ | exact oN _ | exact j03x N _ _ _ | exact j0et N _ _ _ _ | exact j0d9 N _ _ _ _ | exact j08T N _ _ | exact j0fz N _ _ | apply oC | apply oS | refine oB ?_ ?_ | intro _)
theorem j0bb (N a b):OLe (@j02J (natLP N) a b) (j02J a b):=by
 unfold j02J
 with_reducible repeat' (first | exact oR _ | exact oN _ | exact j08w N _ _ | apply oC | apply oS | refine oB ?_ ?_ | intro _)
theorem j08y (N a b):OLe (@j00n (natLP N) a b) (j00n a b):=by
 unfold j00n
 with_reducible repeat' (first | exact oR _ | exact oN _ | exact j0bb N _ _ | apply oC | apply oS | refine oB ?_ ?_ | intro _)
theorem j09E (N a b c d e f g h i j k l m n):OLe (@j01k (natLP N) a b c d e f g h i j k l m n) (j01k a b c d e f g h i j k l m n):=by
 unfold j01k
 with_reducible repeat' (first | exact oR _ | exact oN _ | exact j03x N _ _ _ | apply oC | apply oS | refine oB ?_ ?_ | intro _)
theorem j0bZ (N a b c d e f g h i j k l m n):OLe (@j03T (natLP N) a b c d e f g h i j k l m n) (j03T a b c d e f g h i j k l m n):=OLe.loop N _ fun _=>j09E N _ _ _ _ _ _ _ _ _ _ _ _ _ _
theorem j09F (N a b c d e f g h i j k l m n):OLe (@j01L (natLP N) a b c d e f g h i j k l m n) (j01L a b c d e f g h i j k l m n):=by
 unfold j01L
 with_reducible repeat' (first | exact oR _ | exact oN _ | exact j03x N _ _ _ | apply oC | apply oS | refine oB ?_ ?_ | intro _)
theorem j0c0 (N a b c d e f g h i j k l m n):OLe (@j03U (natLP N) a b c d e f g h i j k l m n) (j03U a b c d e f g h i j k l m n):=OLe.loop N _ fun _=>j09F N _ _ _ _ _ _ _ _ _ _ _ _ _ _
theorem j0ay (N a b c):OLe (@j01A (natLP N) a b c) (j01A a b c):=by
 unfold j01A
 with_reducible repeat' (first | exact oR _ | exact oN _ | exact j03x N _ _ _ | exact j08y N _ _ | exact j0bZ N _ _ _ _ _ _ _ _ _ _ _ _ _ _ | exact j0c0 N _ _ _ _ _ _ _ _ _ _ _ _ _ _ | apply oC | apply oS | refine oB ?_ ?_ | intro _)
theorem j0e0 (N a b c d):OLe (@j045 (natLP N) a b c d) (j045 a b c d):=OLe.loop N _ fun _=>oR _
theorem j0cX (N a):OLe (@j063 (natLP N) a) (j063 a):=by
 unfold j063
 with_reducible repeat' (first | exact oR _ | exact oN _ | exact j0e0 N _ _ _ _ | apply oC | apply oS | refine oB ?_ ?_ | intro _)
theorem j07v (N a b c d e f g h i j k l m n o p q r s t u v):OLe (@j00X (natLP N) a b c d e f g h i j k l m n o p q r s t u v) (j00X a b c d e f g h i j k l m n o p q r s t u v):=by
 unfold j00X
 with_reducible repeat' (first | exact oR _ | exact oN _ | exact j0ay N _ _ _ | exact j03x N _ _ _ | apply oC | apply oS | refine oB ?_ ?_ | intro _)
theorem j09G (N a b c d e f g h i j k l m n o p q r s t u v):OLe (@j01M (natLP N) a b c d e f g h i j k l m n o p q r s t u v) (j01M a b c d e f g h i j k l m n o p q r s t u v):=OLe.loop N _ fun _=>j07v N _ _ _ _ _ _ _ _ _ _ _ _ _ _ _ _ _ _ _ _ _ _
theorem j07w (N a b c d e f g h i j k l m n o p q r s t):OLe (@j00I (natLP N) a b c d e f g h i j k l m n o p q r s t) (j00I a b c d e f g h i j k l m n o p q r s t):=by
 unfold j00I
 with_reducible repeat' (first | exact oR _ | exact oN _ | exact j09G N _ _ _ _ _ _ _ _ _ _ _ _ _ _ _ _ _ _ _ _ _ _ | apply oC | apply oS | refine oB ?_ ?_ | intro _)
theorem j09H (N a b c d e f g h i j k l m n o p q r s t):OLe (@j01N (natLP N) a b c d e f g h i j k l m n o p q r s t) (j01N a b c d e f g h i j k l m n o p q r s t):=OLe.loop N _ fun _=>j07w N _ _ _ _ _ _ _ _ _ _ _ _ _ _ _ _ _ _ _ _
theorem j0aR (N a b c d):OLe (@j014 (natLP N) a b c d) (j014 a b c d):=by
 unfold j014
 with_reducible repeat' (first | exact oR _ | exact oN _ | exact j0cN N _ _ _ _ | exact j09H N _ _ _ _ _ _ _ _ _ _ _ _ _ _ _ _ _ _ _ _ | exact j0cX N _ | apply oC | apply oS | refine oB ?_ ?_ | intro _)
theorem j0cO (N a b c d e):OLe (@j03A (natLP N) a b c d e) (j03A a b c d e):=OLe.loop N _ fun _=>oR _
theorem j0eu (N a b):OLe (@j03B (natLP N) a b) (j03B a b):=by
 unfold j03B
 with_reducible repeat' (first | exact oR _ | exact oN _ | exact j0cO N _ _ _ _ _ | exact j08x N _ | apply oC | apply oS | refine oB ?_ ?_ | intro _)
theorem j0c1 (N a b c d e f g h i j k l m n):OLe (@j02d (natLP N) a b c d e f g h i j k l m n) (j02d a b c d e f g h i j k l m n):=OLe.loop N _ fun _=>oR _
theorem j09I (N a b c d e f g h):OLe (@j01l (natLP N) a b c d e f g h) (j01l a b c d e f g h):=by
 unfold j01l
 with_reducible repeat' (first | exact oR _ | exact oN _ | exact j0eu N _ _ | exact j08T N _ _ | exact j0c1 N _ _ _ _ _ _ _ _ _ _ _ _ _ _ | apply oC | apply oS | refine oB ?_ ?_ | intro _)
theorem j0c2 (N a b c d e f g h):OLe (@j02x (natLP N) a b c d e f g h) (j02x a b c d e f g h):=OLe.loop N _ fun _=>j09I N _ _ _ _ _ _ _ _
theorem j0e1 (N a b):OLe (@j046 (natLP N) a b) (j046 a b):=by
 unfold j046
 with_reducible repeat' (first | exact oR _ | exact oN _ | exact j0c2 N _ _ _ _ _ _ _ _ | apply oC | apply oS | refine oB ?_ ?_ | intro _)
theorem j0cP (N a b c d e):OLe (@j02t (natLP N) a b c d e) (j02t a b c d e):=OLe.loop N _ fun _=>oR _
theorem j0ev (N a b):OLe (@j05A (natLP N) a b) (j05A a b):=by
 unfold j05A
 with_reducible repeat' (first | exact oR _ | exact oN _ | exact j0cP N _ _ _ _ _ | apply oC | apply oS | refine oB ?_ ?_ | intro _)
theorem j0db (N a b c d):OLe (@j04b (natLP N) a b c d) (j04b a b c d):=OLe.loop N _ fun _=>oR _
theorem j0fA (N a):OLe (@j05W (natLP N) a) (j05W a):=by
 unfold j05W
 with_reducible repeat' (first | exact oR _ | exact oN _ | exact j0db N _ _ _ _ | exact j08x N _ | apply oC | apply oS | refine oB ?_ ?_ | intro _)
theorem j08f (N a b c d e f g h i j k l m n):OLe (@j00T (natLP N) a b c d e f g h i j k l m n) (j00T a b c d e f g h i j k l m n):=by
 unfold j00T
 with_reducible repeat' (first | exact oR _ | exact oN _ | exact j0aR N _ _ _ _ | exact j0e1 N _ _ | exact j0ev N _ _ | exact j0fA N _ | exact j08T N _ _ | apply oC | apply oS | refine oB ?_ ?_ | intro _)
theorem j0az (N a b c d e f g h i j k l m n):OLe (@j02e (natLP N) a b c d e f g h i j k l m n) (j02e a b c d e f g h i j k l m n):=OLe.loop N _ fun _=>j08f N _ _ _ _ _ _ _ _ _ _ _ _ _ _
theorem j0aA (N a b c d):OLe (@j02g (natLP N) a b c d) (j02g a b c d):=OLe.loop N _ fun _=>oR _
theorem j0c3 (N a b c d):OLe (@j02h (natLP N) a b c d) (j02h a b c d):=by
 unfold j02h
 with_reducible repeat' (first | exact oR _ | exact oN _ | exact j0az N _ _ _ _ _ _ _ _ _ _ _ _ _ _ | exact j0aA N _ _ _ _ | exact j0cX N _ | apply oC | apply oS | refine oB ?_ ?_ | intro _)
theorem j0dc (N a b c d):OLe (@j02U (natLP N) a b c d) (j02U a b c d):=by
 unfold j02U
 with_reducible repeat' (first | exact oR _ | exact oN _ | exact j0fx N _ _ _ _ | exact j0c3 N _ _ _ _ | apply oC | apply oS | refine oB ?_ ?_ | intro _)
theorem j0cY (N a b):OLe (@j06M (natLP N) a b) (j06M a b):=by
 unfold j06M
 with_reducible repeat' (first | exact oR _ | exact oN _ | exact j0gx N _ | apply oC | apply oS | refine oB ?_ ?_ | intro _)
theorem j0fB (N a b c d):OLe (@j07B (natLP N) a b c d) (j07B a b c d):=OLe.loop N _ fun _=>oR _
theorem j0iu (N a b):OLe (@j0aY (natLP N) a b) (j0aY a b):=by
 unfold j0aY
 with_reducible repeat' (first | exact oR _ | exact oN _ | exact j0fB N _ _ _ _ | apply oC | apply oS | refine oB ?_ ?_ | intro _)
theorem j06k (N a b c d e):OLe (@j00P (natLP N) a b c d e) (j00P a b c d e):=OLe.loop N _ fun _=>oR _
theorem j079 (N a b):OLe (@j00x (natLP N) a b) (j00x a b):=by
 unfold j00x
 with_reducible repeat' (first | exact oR _ | exact oN _ | exact j06k N _ _ _ _ _ | apply oC | apply oS | refine oB ?_ ?_ | intro _)
theorem j0ew (N a b c):OLe (@j03C (natLP N) a b c) (j03C a b c):=by
 unfold j03C
 with_reducible repeat' (first | exact oR _ | exact oN _ | exact j0ay N _ _ _ | exact j08y N _ _ | exact j0iu N _ _ | exact j079 N _ _ | apply oC | apply oS | refine oB ?_ ?_ | intro _)
theorem j0c4 (N a b c):OLe (@j01e (natLP N) a b c) (j01e a b c):=by
 unfold j01e
 with_reducible repeat' (first | exact oR _ | exact oN _ | exact j0ew N _ _ _ | apply oC | apply oS | refine oB ?_ ?_ | intro _)
theorem j04R (N a b c d e):OLe (@j00l (natLP N) a b c d e) (j00l a b c d e):=OLe.loop N _ fun _=>oR _
theorem j05q (N a b c):OLe (@j00F (natLP N) a b c) (j00F a b c):=by
 unfold j00F
 with_reducible repeat' (first | exact oR _ | exact oN _ | exact j04R N _ _ _ _ _ | apply oC | apply oS | refine oB ?_ ?_ | intro _)
theorem j04S (N a b c):OLe (@j00w (natLP N) a b c) (j00w a b c):=by
 unfold j00w
 with_reducible repeat' (first | exact oR _ | exact oN _ | exact j05q N _ _ _ | apply oC | apply oS | refine oB ?_ ?_ | intro _)
theorem j0cZ (N a b c):OLe (@j06N (natLP N) a b c) (j06N a b c):=by
 unfold j06N
 with_reducible repeat' (first | exact oR _ | exact oN _ | exact j04S N _ _ _ | apply oC | apply oS | refine oB ?_ ?_ | intro _)
theorem j09J (N a b c d e f g h i j k l m):OLe (@j01m (natLP N) a b c d e f g h i j k l m) (j01m a b c d e f g h i j k l m):=by
 unfold j01m
 with_reducible repeat' (first | exact oR _ | exact oN _ | exact j0c4 N _ _ _ | exact j0cZ N _ _ _ | apply oC | apply oS | refine oB ?_ ?_ | intro _)
theorem j0c5 (N a b c d e f g h i j k l m):OLe (@j03c (natLP N) a b c d e f g h i j k l m) (j03c a b c d e f g h i j k l m):=OLe.loop N _ fun _=>j09J N _ _ _ _ _ _ _ _ _ _ _ _ _
theorem j0aB (N a b c):OLe (@j02Z (natLP N) a b c) (j02Z a b c):=by
 unfold j02Z
 with_reducible repeat' (first | exact oR _ | exact oN _ | exact j0c5 N _ _ _ _ _ _ _ _ _ _ _ _ _ | apply oC | apply oS | refine oB ?_ ?_ | intro _)
theorem j0ho (N a b c):OLe (@j03r (natLP N) a b c) (j03r a b c):=by
 unfold j03r
 with_reducible repeat' (first | exact oR _ | exact oN _ | exact j0cY N _ _ | exact j0aB N _ _ _ | apply oC | apply oS | refine oB ?_ ?_ | intro _)
theorem j0fC (N a b c):OLe (@j05X (natLP N) a b c) (j05X a b c):=by
 unfold j05X
 with_reducible repeat' (first | exact oR _ | exact oN _ | exact j0cY N _ _ | exact j0aB N _ _ _ | apply oC | apply oS | refine oB ?_ ?_ | intro _)
theorem j0gy (N):OLe (@j07M (natLP N) ) (j07M ):=by
 unfold j07M
 with_reducible repeat' (first | exact oR _ | exact oN _ | exact j0dc N _ _ _ _ | exact j0ho N _ _ _ | exact j0fC N _ _ _ | exact j0cZ N _ _ _ | apply oC | apply oS | refine oB ?_ ?_ | intro _)
abbrev j0gz (N:Nat):=@j01t (natLP N)
end
end Go.Proofs.Pw
