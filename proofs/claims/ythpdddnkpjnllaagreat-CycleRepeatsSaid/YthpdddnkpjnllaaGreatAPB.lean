/- Twins with a bound on their rounds, printed by a program. -/
import Derived.Test.YthpdddnkpjnllaaGreatAFns
import Derived.Test.YthpdddnkpjnllaaGreatALD
open Go Go.Lft
set_option linter.unusedVariables false
set_option maxRecDepth 100000
namespace Go.Proofs.Pw
noncomputable section
theorem j0fp (N a b c):OLe (@j04b (natLP N) a b c) (j04b a b c):=OLe.loop N _ fun _=>oR _
theorem j06K (N a):OLe (@j04V (natLP N) a) (j04V a):=by
 unfold j04V
 with_reducible repeat' (first | exact oR _ | exact oN _ | exact j0fp N _ _ _ | apply oC | apply oS | refine oB ?_ ?_ | intro _)
theorem j059 (N a b):OLe (@j02t (natLP N) a b) (j02t a b):=by
 unfold j02t
 with_reducible repeat' (first | exact oR _ | exact oN _ | exact j06K N _ | apply oC | apply oS | refine oB ?_ ?_ | intro _)
theorem j0e7 (N a b c d e):OLe (@j03T (natLP N) a b c d e) (j03T a b c d e):=OLe.loop N _ fun _=>oR _
theorem j0fR (N a):OLe (@j05j (natLP N) a) (j05j a):=by
 unfold j05j
 with_reducible repeat' (first | exact oR _ | exact oN _ | exact j0e7 N _ _ _ _ _ | apply oC | apply oS | refine oB ?_ ?_ | intro _)
theorem j0je (N a b c d):OLe (@j09m (natLP N) a b c d) (j09m a b c d):=by
 unfold j09m
 with_reducible repeat' (first | exact oR _ | exact oN _ | exact j0fR N _ | apply oC | apply oS | refine oB ?_ ?_ | intro _)
theorem j02T (N a b c d e):OLe (@j00a (natLP N) a b c d e) (j00a a b c d e):=OLe.loop N _ fun _=>oR _
theorem j02p (N a b c d):OLe (@j004 (natLP N) a b c d) (j004 a b c d):=by
 unfold j004
 with_reducible repeat' (first | exact oR _ | exact oN _ | exact j02T N _ _ _ _ _ | apply oC | apply oS | refine oB ?_ ?_ | intro _)
theorem j02U (N a b c d):OLe (@j00b (natLP N) a b c d) (j00b a b c d):=OLe.loop N _ fun _=>j02p N _ _ _ _
theorem j01C (N a b c):OLe (@j006 (natLP N) a b c) (j006 a b c):=by
 unfold j006
 with_reducible repeat' (first | exact oR _ | exact oN _ | exact j02U N _ _ _ _ | apply oC | apply oS | refine oB ?_ ?_ | intro _)
theorem j035 (N a b c d e):OLe (@j008 (natLP N) a b c d e) (j008 a b c d e):=by
 unfold j008
 with_reducible repeat' (first | exact oR _ | exact oN _ | exact j01C N _ _ _ | apply oC | apply oS | refine oB ?_ ?_ | intro _)
theorem j041 (N a b c d e):OLe (@j00n (natLP N) a b c d e) (j00n a b c d e):=OLe.loop N _ fun _=>j035 N _ _ _ _ _
theorem j042 (N a b c d e):OLe (@j01g (natLP N) a b c d e) (j01g a b c d e):=OLe.loop N _ fun _=>oR _
theorem j036 (N a b c):OLe (@j009 (natLP N) a b c) (j009 a b c):=by
 unfold j009
 with_reducible repeat' (first | exact oR _ | exact oN _ | exact j042 N _ _ _ _ _ | apply oC | apply oS | refine oB ?_ ?_ | intro _)
theorem j043 (N a b c):OLe (@j00o (natLP N) a b c) (j00o a b c):=OLe.loop N _ fun _=>j036 N _ _ _
theorem j04J (N a b):OLe (@j00v (natLP N) a b) (j00v a b):=by
 unfold j00v
 with_reducible repeat' (first | exact oR _ | exact oN _ | exact j041 N _ _ _ _ _ | exact j01C N _ _ _ | exact j043 N _ _ _ | apply oC | apply oS | refine oB ?_ ?_ | intro _)
theorem j02i (N a):OLe (@j005 (natLP N) a) (j005 a):=by
 unfold j005
 with_reducible repeat' (first | exact oR _ | exact oN _ | exact j04J N _ _ | apply oC | apply oS | refine oB ?_ ?_ | intro _)
theorem j0aZ (N a b c d e f g):OLe (@j01F (natLP N) a b c d e f g) (j01F a b c d e f g):=OLe.loop N _ fun _=>oR _
theorem j083 (N a b c d e f g h i j k l):OLe (@j00J (natLP N) a b c d e f g h i j k l) (j00J a b c d e f g h i j k l):=by
 unfold j00J
 with_reducible repeat' (first | exact oR _ | exact oN _ | exact j0je N _ _ _ _ | apply oC | apply oS | refine oB ?_ ?_ | intro _)
theorem j0b0 (N a b c d e f g h i j k l):OLe (@j029 (natLP N) a b c d e f g h i j k l) (j029 a b c d e f g h i j k l):=OLe.loop N _ fun _=>j083 N _ _ _ _ _ _ _ _ _ _ _ _
theorem j084 (N a b c d):OLe (@j00K (natLP N) a b c d) (j00K a b c d):=by
 unfold j00K
 with_reducible repeat' (first | exact oR _ | exact oN _ | exact j0b0 N _ _ _ _ _ _ _ _ _ _ _ _ | apply oC | apply oS | refine oB ?_ ?_ | intro _)
theorem j0b1 (N a b c d):OLe (@j01G (natLP N) a b c d) (j01G a b c d):=OLe.loop N _ fun _=>j084 N _ _ _ _
theorem j0dc (N a):OLe (@j02v (natLP N) a) (j02v a):=by
 unfold j02v
 with_reducible repeat' (first | exact oR _ | exact oN _ | exact j0aZ N _ _ _ _ _ _ _ | exact j0b1 N _ _ _ _ | exact j02i N _ | apply oC | apply oS | refine oB ?_ ?_ | intro _)
theorem j0b2 (N a b c d e):OLe (@j01I (natLP N) a b c d e) (j01I a b c d e):=OLe.loop N _ fun _=>oR _
theorem j08x (N a):OLe (@j01J (natLP N) a) (j01J a):=by
 unfold j01J
 with_reducible repeat' (first | exact oR _ | exact oN _ | exact j0dc N _ | exact j0b2 N _ _ _ _ _ | apply oC | apply oS | refine oB ?_ ?_ | intro _)
theorem j0i2 (N a):OLe (@j06y (natLP N) a) (j06y a):=by
 unfold j06y
 with_reducible repeat' (first | exact oR _ | exact oN _ | exact j08x N _ | apply oC | apply oS | refine oB ?_ ?_ | intro _)
theorem j031 (N a b c):OLe (@j00c (natLP N) a b c) (j00c a b c):=OLe.loop N _ fun _=>oR _
theorem j03y (N a):OLe (@j00i (natLP N) a) (j00i a):=by
 unfold j00i
 with_reducible repeat' (first | exact oR _ | exact oN _ | exact j031 N _ _ _ | apply oC | apply oS | refine oB ?_ ?_ | intro _)
theorem j032 (N a):OLe (@j00d (natLP N) a) (j00d a):=by
 unfold j00d
 with_reducible repeat' (first | exact oR _ | exact oN _ | exact j03y N _ | apply oC | apply oS | refine oB ?_ ?_ | intro _)
theorem j0c5 (N a):OLe (@j01R (natLP N) a) (j01R a):=by
 unfold j01R
 with_reducible repeat' (first | exact oR _ | exact oN _ | exact j0i2 N _ | exact j032 N _ | apply oC | apply oS | refine oB ?_ ?_ | intro _)
theorem j064 (N a b c d):OLe (@j00q (natLP N) a b c d) (j00q a b c d):=by
 unfold j00q
 with_reducible repeat' (first | exact oR _ | exact oN _ | exact j059 N _ _ | exact j0c5 N _ | apply oC | apply oS | refine oB ?_ ?_ | intro _)
theorem j07W (N a b c d):OLe (@j00R (natLP N) a b c d) (j00R a b c d):=OLe.loop N _ fun _=>j064 N _ _ _ _
theorem j09h (N a):OLe (@j01d (natLP N) a) (j01d a):=by
 unfold j01d
 with_reducible repeat' (first | exact oR _ | exact oN _ | exact j07W N _ _ _ _ | apply oC | apply oS | refine oB ?_ ?_ | intro _)
theorem j0fq (N a b c d):OLe (@j05A (natLP N) a b c d) (j05A a b c d):=OLe.loop N _ fun _=>oR _
theorem j0ei (N a):OLe (@j06z (natLP N) a) (j06z a):=by
 unfold j06z
 with_reducible repeat' (first | exact oR _ | exact oN _ | exact j0fq N _ _ _ _ | apply oC | apply oS | refine oB ?_ ?_ | intro _)
theorem j0b3 (N a b):OLe (@j01a (natLP N) a b) (j01a a b):=by
 unfold j01a
 with_reducible repeat' (first | exact oR _ | exact oN _ | exact j0ei N _ | apply oC | apply oS | refine oB ?_ ?_ | intro _)
theorem j0fr (N a b):OLe (@j0al (natLP N) a b) (j0al a b):=OLe.loop N _ fun _=>oR _
theorem j0i3 (N a):OLe (@j0am (natLP N) a) (j0am a):=by
 unfold j0am
 with_reducible repeat' (first | exact oR _ | exact oN _ | exact j0fr N _ _ | apply oC | apply oS | refine oB ?_ ?_ | intro _)
theorem j0e8 (N a b c d e f g):OLe (@j08D (natLP N) a b c d e f g) (j08D a b c d e f g):=OLe.loop N _ fun _=>oR _
theorem j0fS (N a):OLe (@j02V (natLP N) a) (j02V a):=by
 unfold j02V
 with_reducible repeat' (first | exact oR _ | exact oN _ | exact j0i3 N _ | exact j0e8 N _ _ _ _ _ _ _ | apply oC | apply oS | refine oB ?_ ?_ | intro _)
theorem j07m (N a):OLe (@j00A (natLP N) a) (j00A a):=by
 unfold j00A
 with_reducible repeat' (first | exact oR _ | exact oN _ | exact j0fS N _ | apply oC | apply oS | refine oB ?_ ?_ | intro _)
theorem j085 (N a):OLe (@j01h (natLP N) a) (j01h a):=by
 unfold j01h
 with_reducible repeat' (first | exact oR _ | exact oN _ | exact j07m N _ | apply oC | apply oS | refine oB ?_ ?_ | intro _)
theorem j05B (N a b c):OLe (@j00k (natLP N) a b c) (j00k a b c):=by
 unfold j00k
 with_reducible repeat' (first | exact oR _ | exact oN _ | exact j085 N _ | apply oC | apply oS | refine oB ?_ ?_ | intro _)
theorem j06Z (N a b c):OLe (@j00W (natLP N) a b c) (j00W a b c):=OLe.loop N _ fun _=>j05B N _ _ _
theorem j086 (N a):OLe (@j01i (natLP N) a) (j01i a):=by
 unfold j01i
 with_reducible repeat' (first | exact oR _ | exact oN _ | exact j06Z N _ _ _ | apply oC | apply oS | refine oB ?_ ?_ | intro _)
theorem j070 (N a):OLe (@j00X (natLP N) a) (j00X a):=by
 unfold j00X
 with_reducible repeat' (first | exact oR _ | exact oN _ | exact j086 N _ | apply oC | apply oS | refine oB ?_ ?_ | intro _)
theorem j087 (N a b c d e):OLe (@j01j (natLP N) a b c d e) (j01j a b c d e):=OLe.loop N _ fun _=>oR _
theorem j09S (N a b):OLe (@j014 (natLP N) a b) (j014 a b):=by
 unfold j014
 with_reducible repeat' (first | exact oR _ | exact oN _ | exact j070 N _ | exact j087 N _ _ _ _ _ | apply oC | apply oS | refine oB ?_ ?_ | intro _)
theorem j0dd (N a b c d e):OLe (@j03b (natLP N) a b c d e) (j03b a b c d e):=by
 unfold j03b
 with_reducible repeat' (first | exact oR _ | exact oN _ | exact j09S N _ _ | apply oC | apply oS | refine oB ?_ ?_ | intro _)
theorem j05a (N a b c d e f g h):OLe (@j00g (natLP N) a b c d e f g h) (j00g a b c d e f g h):=by
 unfold j00g
 with_reducible repeat' (first | exact oR _ | exact oN _ | exact j059 N _ _ | exact j0dd N _ _ _ _ _ | apply oC | apply oS | refine oB ?_ ?_ | intro _)
theorem j06j (N a b c d e f g h):OLe (@j00y (natLP N) a b c d e f g h) (j00y a b c d e f g h):=OLe.loop N _ fun _=>j05a N _ _ _ _ _ _ _ _
theorem j07n (N a b c d e):OLe (@j00M (natLP N) a b c d e) (j00M a b c d e):=by
 unfold j00M
 with_reducible repeat' (first | exact oR _ | exact oN _ | exact j06j N _ _ _ _ _ _ _ _ | apply oC | apply oS | refine oB ?_ ?_ | intro _)
theorem j065 (N a b c d e f g):OLe (@j00F (natLP N) a b c d e f g) (j00F a b c d e f g):=OLe.loop N _ fun _=>oR _
theorem j071 (N a b c d e):OLe (@j00Y (natLP N) a b c d e) (j00Y a b c d e):=by
 unfold j00Y
 with_reducible repeat' (first | exact oR _ | exact oN _ | exact j065 N _ _ _ _ _ _ _ | apply oC | apply oS | refine oB ?_ ?_ | intro _)
theorem j066 (N a b c d e):OLe (@j00G (natLP N) a b c d e) (j00G a b c d e):=by
 unfold j00G
 with_reducible repeat' (first | exact oR _ | exact oN _ | exact j071 N _ _ _ _ _ | apply oC | apply oS | refine oB ?_ ?_ | intro _)
theorem j0bs (N a b):OLe (@j01z (natLP N) a b) (j01z a b):=by
 unfold j01z
 with_reducible repeat' (first | exact oR _ | exact oN _ | exact j07m N _ | exact j066 N _ _ _ _ _ | exact j0ei N _ | apply oC | apply oS | refine oB ?_ ?_ | intro _)
theorem j088 (N a b c d e):OLe (@j01k (natLP N) a b c d e) (j01k a b c d e):=by
 unfold j01k
 with_reducible repeat' (first | exact oR _ | exact oN _ | exact j0bs N _ _ | apply oC | apply oS | refine oB ?_ ?_ | intro _)
theorem j061 (N a b c d e f g h):OLe (@j00p (natLP N) a b c d e f g h) (j00p a b c d e f g h):=by
 unfold j00p
 with_reducible repeat' (first | exact oR _ | exact oN _ | exact j059 N _ _ | exact j088 N _ _ _ _ _ | apply oC | apply oS | refine oB ?_ ?_ | intro _)
theorem j07o (N a b c d e f g h):OLe (@j00N (natLP N) a b c d e f g h) (j00N a b c d e f g h):=OLe.loop N _ fun _=>j061 N _ _ _ _ _ _ _ _
theorem j08V (N a b c d e):OLe (@j019 (natLP N) a b c d e) (j019 a b c d e):=by
 unfold j019
 with_reducible repeat' (first | exact oR _ | exact oN _ | exact j07o N _ _ _ _ _ _ _ _ | apply oC | apply oS | refine oB ?_ ?_ | intro _)
theorem j0c6 (N a b):OLe (@j01S (natLP N) a b) (j01S a b):=by
 unfold j01S
 with_reducible repeat' (first | exact oR _ | exact oN _ | exact j07m N _ | apply oC | apply oS | refine oB ?_ ?_ | intro _)
theorem j06k (N a b c d e f g):OLe (@j00u (natLP N) a b c d e f g) (j00u a b c d e f g):=by
 unfold j00u
 with_reducible repeat' (first | exact oR _ | exact oN _ | exact j0c6 N _ _ | apply oC | apply oS | refine oB ?_ ?_ | intro _)
theorem j089 (N a b c d e f g):OLe (@j01l (natLP N) a b c d e f g) (j01l a b c d e f g):=OLe.loop N _ fun _=>j06k N _ _ _ _ _ _ _
theorem j09T (N a b):OLe (@j015 (natLP N) a b) (j015 a b):=by
 unfold j015
 with_reducible repeat' (first | exact oR _ | exact oN _ | exact j08V N _ _ _ _ _ | exact j089 N _ _ _ _ _ _ _ | apply oC | apply oS | refine oB ?_ ?_ | intro _)
theorem j0de (N a b c d e):OLe (@j03d (natLP N) a b c d e) (j03d a b c d e):=by
 unfold j03d
 with_reducible repeat' (first | exact oR _ | exact oN _ | exact j09T N _ _ | apply oC | apply oS | refine oB ?_ ?_ | intro _)
theorem j05b (N a b c d e f g h):OLe (@j00h (natLP N) a b c d e f g h) (j00h a b c d e f g h):=by
 unfold j00h
 with_reducible repeat' (first | exact oR _ | exact oN _ | exact j059 N _ _ | exact j0de N _ _ _ _ _ | apply oC | apply oS | refine oB ?_ ?_ | intro _)
theorem j06l (N a b c d e f g h):OLe (@j00z (natLP N) a b c d e f g h) (j00z a b c d e f g h):=OLe.loop N _ fun _=>j05b N _ _ _ _ _ _ _ _
theorem j07p (N a b c d e):OLe (@j013 (natLP N) a b c d e) (j013 a b c d e):=by
 unfold j013
 with_reducible repeat' (first | exact oR _ | exact oN _ | exact j06l N _ _ _ _ _ _ _ _ | apply oC | apply oS | refine oB ?_ ?_ | intro _)
theorem j09U (N a b c d e f g h):OLe (@j016 (natLP N) a b c d e f g h) (j016 a b c d e f g h):=by
 unfold j016
 with_reducible repeat' (first | exact oR _ | exact oN _ | exact j059 N _ _ | exact j0b3 N _ _ | apply oC | apply oS | refine oB ?_ ?_ | intro _)
theorem j0df (N a b c d e f g h):OLe (@j02w (natLP N) a b c d e f g h) (j02w a b c d e f g h):=OLe.loop N _ fun _=>j09U N _ _ _ _ _ _ _ _
theorem j0b4 (N a):OLe (@j02L (natLP N) a) (j02L a):=by
 unfold j02L
 with_reducible repeat' (first | exact oR _ | exact oN _ | exact j09h N _ | exact j0df N _ _ _ _ _ _ _ _ | exact j07n N _ _ _ _ _ | exact j07p N _ _ _ _ _ | apply oC | apply oS | refine oB ?_ ?_ | intro _)
theorem j0fT (N a b):OLe (@j06b (natLP N) a b) (j06b a b):=OLe.loop N _ fun _=>oR _
theorem j0jf (N a b):OLe (@j09n (natLP N) a b) (j09n a b):=by
 unfold j09n
 with_reducible repeat' (first | exact oR _ | exact oN _ | exact j0fT N _ _ | apply oC | apply oS | refine oB ?_ ?_ | intro _)
theorem j0e9 (N a b):OLe (@j02q (natLP N) a b) (j02q a b):=by
 unfold j02q
 with_reducible repeat' (first | exact oR _ | exact oN _ | exact j0jf N _ _ | apply oC | apply oS | refine oB ?_ ?_ | intro _)
theorem j05C (N a b c d):OLe (@j00l (natLP N) a b c d) (j00l a b c d):=by
 unfold j00l
 with_reducible repeat' (first | exact oR _ | exact oN _ | exact j0e9 N _ _ | apply oC | apply oS | refine oB ?_ ?_ | intro _)
theorem j072 (N a b c d):OLe (@j00E (natLP N) a b c d) (j00E a b c d):=OLe.loop N _ fun _=>j05C N _ _ _ _
theorem j08a (N a b):OLe (@j01m (natLP N) a b) (j01m a b):=by
 unfold j01m
 with_reducible repeat' (first | exact oR _ | exact oN _ | exact j072 N _ _ _ _ | apply oC | apply oS | refine oB ?_ ?_ | intro _)
theorem j0bD (N a b):OLe (@j02W (natLP N) a b) (j02W a b):=by
 unfold j02W
 with_reducible repeat' (first | exact oR _ | exact oN _ | exact j0b4 N _ | exact j08a N _ _ | apply oC | apply oS | refine oB ?_ ?_ | intro _)
theorem j0m2 (N a):OLe (@zone_Of (natLP N) a) (zone_Of a):=by
 unfold zone_Of
 with_reducible repeat' (first | exact oR _ | exact oN _ | exact j08x N _ | apply oC | apply oS | refine oB ?_ ?_ | intro _)
theorem j0b5 (N a b c d):OLe (@j02M (natLP N) a b c d) (j02M a b c d):=by
 unfold j02M
 with_reducible repeat' (first | exact oR _ | exact oN _ | exact j0m2 N _ | apply oC | apply oS | refine oB ?_ ?_ | intro _)
theorem j0es (N a b c d):OLe (@j09o (natLP N) a b c d) (j09o a b c d):=OLe.loop N _ fun _=>j0b5 N _ _ _ _
theorem j0h1 (N a):OLe (@j094 (natLP N) a) (j094 a):=by
 unfold j094
 with_reducible repeat' (first | exact oR _ | exact oN _ | exact j0es N _ _ _ _ | apply oC | apply oS | refine oB ?_ ?_ | intro _)
theorem j0jg (N a):OLe (@j0co (natLP N) a) (j0co a):=by
 unfold j0co
 with_reducible repeat' (first | exact oR _ | exact oN _ | exact j0h1 N _ | apply oC | apply oS | refine oB ?_ ?_ | intro _)
theorem j0i4 (N a):OLe (@duty_Of (natLP N) a) (duty_Of a):=by
 unfold duty_Of
 with_reducible repeat' (first | exact oR _ | exact oN _ | exact j0b4 N _ | exact j0jg N _ | apply oC | apply oS | refine oB ?_ ?_ | intro _)
theorem j0et (N a b c d e):OLe (@j04A (natLP N) a b c d e) (j04A a b c d e):=OLe.loop N _ fun _=>oR _
theorem j0h2 (N a b c d):OLe (@j07t (natLP N) a b c d) (j07t a b c d):=by
 unfold j07t
 with_reducible repeat' (first | exact oR _ | exact oN _ | exact j0et N _ _ _ _ _ | apply oC | apply oS | refine oB ?_ ?_ | intro _)
theorem j08y (N a b):OLe (@j023 (natLP N) a b) (j023 a b):=by
 unfold j023
 with_reducible repeat' (first | exact oR _ | exact oN _ | exact j0h2 N _ _ _ _ | apply oC | apply oS | refine oB ?_ ?_ | intro _)
theorem j07X (N a b c d e):OLe (@j00B (natLP N) a b c d e) (j00B a b c d e):=by
 unfold j00B
 with_reducible repeat' (first | exact oR _ | exact oN _ | exact j08y N _ _ | apply oC | apply oS | refine oB ?_ ?_ | intro _)
theorem j0a7 (N a b c d e):OLe (@j01w (natLP N) a b c d e) (j01w a b c d e):=OLe.loop N _ fun _=>j07X N _ _ _ _ _
theorem j0c7 (N a b c):OLe (@j02c (natLP N) a b c) (j02c a b c):=by
 unfold j02c
 with_reducible repeat' (first | exact oR _ | exact oN _ | exact j0a7 N _ _ _ _ _ | apply oC | apply oS | refine oB ?_ ?_ | intro _)
theorem j0b6 (N a b c d e):OLe (@j01K (natLP N) a b c d e) (j01K a b c d e):=OLe.loop N _ fun _=>oR _
theorem j08z (N a b):OLe (@j00S (natLP N) a b) (j00S a b):=by
 unfold j00S
 with_reducible repeat' (first | exact oR _ | exact oN _ | exact j0c7 N _ _ _ | exact j0b6 N _ _ _ _ _ | apply oC | apply oS | refine oB ?_ ?_ | intro _)
theorem j049 (N a b c):OLe (@j00T (natLP N) a b c) (j00T a b c):=by
 unfold j00T
 with_reducible repeat' (first | exact oR _ | exact oN _ | exact j08z N _ _ | apply oC | apply oS | refine oB ?_ ?_ | intro _)
theorem j0b7 (N a b c d e f g h i j k l):OLe (@j05J (natLP N) a b c d e f g h i j k l) (j05J a b c d e f g h i j k l):=OLe.loop N _ fun _=>oR _
theorem j08b (N a b c d e f g h i):OLe (@j01L (natLP N) a b c d e f g h i) (j01L a b c d e f g h i):=by
 unfold j01L
 with_reducible repeat' (first | exact oR _ | exact oN _ | exact j049 N _ _ _ | exact j08z N _ _ | apply oC | apply oS | refine oB ?_ ?_ | intro _)
theorem j0b8 (N a b c d e f g h i):OLe (@j05K (natLP N) a b c d e f g h i) (j05K a b c d e f g h i):=OLe.loop N _ fun _=>j08b N _ _ _ _ _ _ _ _ _
theorem j0dg (N a b):OLe (@j04e (natLP N) a b) (j04e a b):=by
 unfold j04e
 with_reducible repeat' (first | exact oR _ | exact oN _ | exact j0b7 N _ _ _ _ _ _ _ _ _ _ _ _ | exact j0b8 N _ _ _ _ _ _ _ _ _ | apply oC | apply oS | refine oB ?_ ?_ | intro _)
theorem j0dh (N a b):OLe (@j04f (natLP N) a b) (j04f a b):=by
 unfold j04f
 with_reducible repeat' (first | exact oR _ | exact oN _ | exact j0i4 N _ | exact j0dg N _ _ | apply oC | apply oS | refine oB ?_ ?_ | intro _)
theorem j0bE (N a b c):OLe (@j06c (natLP N) a b c) (j06c a b c):=by
 unfold j06c
 with_reducible repeat' (first | exact oR _ | exact oN _ | exact j0bD N _ _ | exact j0dh N _ _ | apply oC | apply oS | refine oB ?_ ?_ | intro _)
theorem j0c8 (N a b):OLe (@j02d (natLP N) a b) (j02d a b):=by
 unfold j02d
 with_reducible repeat' (first | exact oR _ | exact oN _ | exact j08y N _ _ | apply oC | apply oS | refine oB ?_ ?_ | intro _)
theorem j08A (N a b):OLe (@j00m (natLP N) a b) (j00m a b):=by
 unfold j00m
 with_reducible repeat' (first | exact oR _ | exact oN _ | exact j0c8 N _ _ | apply oC | apply oS | refine oB ?_ ?_ | intro _)
theorem j09V (N a b c d e f g h i j k l m n):OLe (@j017 (natLP N) a b c d e f g h i j k l m n) (j017 a b c d e f g h i j k l m n):=by
 unfold j017
 with_reducible repeat' (first | exact oR _ | exact oN _ | exact j049 N _ _ _ | apply oC | apply oS | refine oB ?_ ?_ | intro _)
theorem j0di (N a b c d e f g h i j k l m n):OLe (@j03f (natLP N) a b c d e f g h i j k l m n) (j03f a b c d e f g h i j k l m n):=OLe.loop N _ fun _=>j09V N _ _ _ _ _ _ _ _ _ _ _ _ _ _
theorem j09W (N a b c d e f g h i j k l m n):OLe (@j01o (natLP N) a b c d e f g h i j k l m n) (j01o a b c d e f g h i j k l m n):=by
 unfold j01o
 with_reducible repeat' (first | exact oR _ | exact oN _ | exact j049 N _ _ _ | apply oC | apply oS | refine oB ?_ ?_ | intro _)
theorem j0dj (N a b c d e f g h i j k l m n):OLe (@j03g (natLP N) a b c d e f g h i j k l m n) (j03g a b c d e f g h i j k l m n):=OLe.loop N _ fun _=>j09W N _ _ _ _ _ _ _ _ _ _ _ _ _ _
theorem j0fs (N a b c):OLe (@j01T (natLP N) a b c) (j01T a b c):=by
 unfold j01T
 with_reducible repeat' (first | exact oR _ | exact oN _ | exact j049 N _ _ _ | exact j08A N _ _ | exact j0di N _ _ _ _ _ _ _ _ _ _ _ _ _ _ | exact j0dj N _ _ _ _ _ _ _ _ _ _ _ _ _ _ | apply oC | apply oS | refine oB ?_ ?_ | intro _)
theorem j0h3 (N a b c d):OLe (@j07u (natLP N) a b c d) (j07u a b c d):=OLe.loop N _ fun _=>oR _
theorem j0kJ (N a b):OLe (@j0bI (natLP N) a b) (j0bI a b):=by
 unfold j0bI
 with_reducible repeat' (first | exact oR _ | exact oN _ | exact j0h3 N _ _ _ _ | apply oC | apply oS | refine oB ?_ ?_ | intro _)
theorem j067 (N a b c d e):OLe (@j00H (natLP N) a b c d e) (j00H a b c d e):=OLe.loop N _ fun _=>oR _
theorem j073 (N a b):OLe (@j00s (natLP N) a b) (j00s a b):=by
 unfold j00s
 with_reducible repeat' (first | exact oR _ | exact oN _ | exact j067 N _ _ _ _ _ | apply oC | apply oS | refine oB ?_ ?_ | intro _)
theorem j0fU (N a b c):OLe (@j02Y (natLP N) a b c) (j02Y a b c):=by
 unfold j02Y
 with_reducible repeat' (first | exact oR _ | exact oN _ | exact j0fs N _ _ _ | exact j08A N _ _ | exact j0kJ N _ _ | exact j073 N _ _ | apply oC | apply oS | refine oB ?_ ?_ | intro _)
theorem j0dk (N a b c):OLe (@j01u (natLP N) a b c) (j01u a b c):=by
 unfold j01u
 with_reducible repeat' (first | exact oR _ | exact oN _ | exact j0fU N _ _ _ | apply oC | apply oS | refine oB ?_ ?_ | intro _)
theorem j04x (N a b c d e):OLe (@j00j (natLP N) a b c d e) (j00j a b c d e):=OLe.loop N _ fun _=>oR _
theorem j05c (N a b c):OLe (@j00x (natLP N) a b c) (j00x a b c):=by
 unfold j00x
 with_reducible repeat' (first | exact oR _ | exact oN _ | exact j04x N _ _ _ _ _ | apply oC | apply oS | refine oB ?_ ?_ | intro _)
theorem j04y (N a b c):OLe (@j00r (natLP N) a b c) (j00r a b c):=by
 unfold j00r
 with_reducible repeat' (first | exact oR _ | exact oN _ | exact j05c N _ _ _ | apply oC | apply oS | refine oB ?_ ?_ | intro _)
theorem j0i5 (N a b c):OLe (@j07D (natLP N) a b c) (j07D a b c):=by
 unfold j07D
 with_reducible repeat' (first | exact oR _ | exact oN _ | exact j04y N _ _ _ | apply oC | apply oS | refine oB ?_ ?_ | intro _)
theorem j09X (N a b c d e f g h i j k l m):OLe (@j018 (natLP N) a b c d e f g h i j k l m) (j018 a b c d e f g h i j k l m):=by
 unfold j018
 with_reducible repeat' (first | exact oR _ | exact oN _ | exact j0dk N _ _ _ | exact j0i5 N _ _ _ | apply oC | apply oS | refine oB ?_ ?_ | intro _)
theorem j0dl (N a b c d e f g h i j k l m):OLe (@j03h (natLP N) a b c d e f g h i j k l m) (j03h a b c d e f g h i j k l m):=OLe.loop N _ fun _=>j09X N _ _ _ _ _ _ _ _ _ _ _ _ _
theorem j0ft (N a b c):OLe (@j06A (natLP N) a b c) (j06A a b c):=by
 unfold j06A
 with_reducible repeat' (first | exact oR _ | exact oN _ | exact j0dl N _ _ _ _ _ _ _ _ _ _ _ _ _ | apply oC | apply oS | refine oB ?_ ?_ | intro _)
theorem j0fV (N a b c d e):OLe (@j0bJ (natLP N) a b c d e) (j0bJ a b c d e):=OLe.loop N _ fun _=>oR _
theorem j0jh (N a b c):OLe (@j0cs (natLP N) a b c) (j0cs a b c):=by
 unfold j0cs
 with_reducible repeat' (first | exact oR _ | exact oN _ | exact j0fV N _ _ _ _ _ | apply oC | apply oS | refine oB ?_ ?_ | intro _)
theorem j0i6 (N a b c):OLe (@j0ao (natLP N) a b c) (j0ao a b c):=by
 unfold j0ao
 with_reducible repeat' (first | exact oR _ | exact oN _ | exact j0ft N _ _ _ | exact j0jh N _ _ _ | apply oC | apply oS | refine oB ?_ ?_ | intro _)
theorem j0kK (N a b c):OLe (@j0eX (natLP N) a b c) (j0eX a b c):=by
 unfold j0eX
 with_reducible repeat' (first | exact oR _ | exact oN _ | exact j0i4 N _ | exact j0i6 N _ _ _ | apply oC | apply oS | refine oB ?_ ?_ | intro _)
theorem j0i7 (N a b c):OLe (@j0ap (natLP N) a b c) (j0ap a b c):=by
 unfold j0ap
 with_reducible repeat' (first | exact oR _ | exact oN _ | exact j0kK N _ _ _ | apply oC | apply oS | refine oB ?_ ?_ | intro _)
theorem j0ji (N a b c):OLe (@j0ct (natLP N) a b c) (j0ct a b c):=by
 unfold j0ct
 with_reducible repeat' (first | exact oR _ | exact oN _ | exact j0bE N _ _ _ | exact j0i7 N _ _ _ | apply oC | apply oS | refine oB ?_ ?_ | intro _)
theorem j0i8 (N):OLe (@j04X (natLP N) ) (j04X ):=by
 unfold j04X
 with_reducible repeat' (first | exact oR _ | exact oN _ | exact j0bD N _ _ | exact j0bE N _ _ _ | exact j0ji N _ _ _ | apply oC | apply oS | refine oB ?_ ?_ | intro _)
abbrev j0i9 (N:Nat):=@j00A (natLP N)
end
end Go.Proofs.Pw
