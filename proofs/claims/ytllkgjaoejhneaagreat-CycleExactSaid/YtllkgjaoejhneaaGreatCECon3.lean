/- bZ: each given function is its plain function, printed by a program. -/
import Derived.Test.YtllkgjaoejhneaaGreatCECon2
open _root_ renaming trivial->c
open Bool renaming false->e
noncomputable section
open Go Go.Lft
set_option linter.unusedVariables false
set_option maxRecDepth 100000
namespace Go.Proofs.Pk
def Lb:Con:=⟨81,[.v bu,.v iT,.clo 82 []],[bu,iT],⟨[.v iT],[]⟩,[iT],Pw.unc2 Pw.j4B⟩
def ϙ:FnD where
 N:=21
 np:=3
 cs:=[La]
 ds:=[⟨0,[sI,sC 82 [],sD bu,sI,sI],[iT,bu,iT,iT],[⟨.exit 0,[sI],[iT]⟩],Pw.unc4 (Pw.j13)⟩]
 keep:=[(0,⟨[1,2,9,10,11],[],[],[]⟩)]
 keepX:=[(0,.exit 0,⟨[1],[],[],[]⟩)]
theorem Ϛ:aJ Lb:=
 cOf aH aK ϙ Lb Tryz.func81 (jg Ϙ c) (jg (λh=>by kernel_rfl) c)
def yN:Con:=⟨32,[.v aF,.v iT],[aF,iT],⟨[.v iT,.v iT],[]⟩,[iT,iT],Pw.unc2 Pw.j3v⟩
def ϛ:FnD where
 N:=24
 np:=2
 cs:=[F3,CL,Lb]
theorem F4:aJ yN:=
 cOf aH aK ϛ yN Tryz.func32 (jg SX (jg K8 (jg Ϛ c))) c
def Lc:Con:=⟨208,[.v aU],[aU],⟨[.v cK,.v iT],[]⟩,[cK,iT],λh=>Pw.jiV h⟩
def Ϝ:FnD where
 N:=16
 np:=1
 cs:=[F1]
theorem ϝ:aJ Lc:=
 cOf aH aK Ϝ Lc Tryz.func208 (jg SS c) c
def Ld:Con:=⟨140,[.v aw],[aw],⟨[.own 183 ff],[]⟩,[ff],λh=>Pw.jeT h⟩
def Ϟ:FnD where
 N:=25
 np:=1
 cs:=[Lc]
 ds:=[⟨0,[sO 1000000,sD aw,sI,sI,.b (.lst 183 cK e)],[aw,iT,iT,ff],[⟨.exit 0,[sO 1500100,.b (.lst 183 cK e)],[ff]⟩],Pw.unc4 (Pw.j3H)⟩]
 keep:=[(0,⟨[3,8,9,10],[],[⟨1000000,183,cK,[.slot 3],e⟩],[]⟩)]
 keepX:=[(0,.exit 0,⟨[3],[],[⟨1500100,183,cK,[.slot 3],e⟩],[]⟩)]
 ro:=[true]
theorem ϟ:aJ Ld:=
 cOf aH aK Ϟ Ld Tryz.func140 (jg ϝ c) (jg (λh=>by kernel_rfl) c)
def Le:Con:=⟨92,[.v aF],[aF],⟨[.v fm],[]⟩,[fm],λh=>Pw.jfT h⟩
def Ϡ:FnD where
 N:=8
 np:=1
 cs:=[Ld]
 dw:=[(1,[[],[],[],[384],[],[128]])]
theorem ϡ:aJ Le:=
 cOf aH aK Ϡ Le Tryz.func92 (jg ϟ c) c
def F5:Con:=⟨66,[.v aF],[aF],⟨[.v fm,.v .bool],[]⟩,[fm,.bool],λh=>Pw.jeU h⟩
def Ϣ:FnD where
 N:=10
 np:=1
 cs:=[F3,Le]
theorem SY:aJ F5:=
 cOf aH aK Ϣ F5 Tryz.func66 (jg SX (jg ϡ c)) c
def F6:Con:=⟨199,[.v fm,.v iT],[fm,iT],⟨[.v cK],[]⟩,[cK],Pw.unc2 Pw.j3I⟩
def ϣ:FnD where
 N:=10
 np:=2
theorem SZ:aJ F6:=
 cOf aH aK ϣ F6 Tryz.func199 c c
def Lf:Con:=⟨200,[.v cK],[cK],⟨[.v .bool],[]⟩,[.bool],λh=>Pw.j7p h⟩
def Ϥ:FnD where
 N:=7
 np:=1
theorem ϥ:aJ Lf:=
 cOf aH aK Ϥ Lf Tryz.func200 c c
def Lg:Con:=⟨201,[.v cK],[cK],⟨[.v iT],[]⟩,[iT],λh=>Pw.j9V h⟩
def Ϧ:FnD where
 N:=16
 np:=1
theorem ϧ:aJ Lg:=
 cOf aH aK Ϧ Lg Tryz.func201 c c
def Lh:Con:=⟨198,[.v iT,.ref [aw,aA,az,aC,ff],.ref [iT]],[iT,aw,aA,az,aC,ff,iT],⟨[],[.ref [aw,aA,az,aC,ff],.ref [iT]]⟩,[aw,aA,az,aC,ff,iT],Pw.unc7 Pw.j2C⟩
def Ϩ:FnD where
 N:=15
 np:=3
 cs:=[F6,Lf,Lg]
 dw:=[(2,[[],[],[],[],[],[128]])]
theorem ϩ:aJ Lh:=
 cOf aH aK Ϩ Lh Tryz.func198 (jg SZ (jg ϥ (jg ϧ c))) c
def F7:Con:=⟨209,[.v aY],[aY],⟨[.v iT],[]⟩,[iT],λh=>Pw.j8c h⟩
def Ϫ:FnD where
 N:=11
 np:=1
theorem S7:aJ F7:=
 cOf aH aK Ϫ F7 Tryz.func209 c c
def Li:Con:=⟨270,[.v iT,.ip [iT,aB],.ip [iT]],[iT,iT,aB,iT],⟨[.v .bool],[]⟩,[.bool],Pw.unc4 Pw.j6X⟩
def ϫ:FnD where
 N:=13
 np:=3
theorem Ϭ:aJ Li:=
 cOf aH aK ϫ Li Tryz.func270 c c
def Lj:Con:=⟨269,[.v iT,.clo 270 [.p [iT,aB],.p [iT]]],[iT,iT,aB,iT],⟨[.v iT],[]⟩,[iT],Pw.unc4 Pw.jeV⟩
def ϭ:FnD where
 N:=26
 np:=2
 cs:=[Li]
 ds:=[⟨0,[sC 270 [.p [iT,aB],.p [iT]],sI,sI],[iT,aB,iT,iT,iT],[⟨.exit 0,[sI],[iT]⟩],Pw.unc5 (Pw.j2D)⟩]
 keep:=[(0,⟨[1,5,6],[],[],[]⟩)]
 keepX:=[(0,.exit 0,⟨[5],[],[],[]⟩)]
theorem Ϯ:aJ Lj:=
 cOf aH aK ϭ Lj Tryz.func269 (jg Ϭ c) (jg (λh=>by kernel_rfl) c)
def F8:Con:=⟨240,[.v cK,.v iT],[cK,iT],⟨[.v iT],[]⟩,[iT],Pw.unc2 Pw.j54⟩
def ϯ:FnD where
 N:=10
 np:=2
 cs:=[Lj]
theorem S8:aJ F8:=
 cOf aH aK ϯ F8 Tryz.func240 (jg Ϯ c) c
def F9:Con:=⟨239,[.v cK,.v iT],[cK,iT],⟨[.v iT],[]⟩,[iT],Pw.unc2 Pw.j3z⟩
def ϰ:FnD where
 N:=16
 np:=2
theorem S9:aJ F9:=
 cOf aH aK ϰ F9 Tryz.func239 c c
def Lk:Con:=⟨218,[.v cK,.v iT,.v iT],[cK,iT,iT],⟨[.own 247 pL],[]⟩,[pL],Pw.unc3 Pw.j5V⟩
def ϱ:FnD where
 N:=41
 np:=3
 cs:=[F8,F9]
 ds:=[⟨0,[sI,sI,sB 192 0,sO 1000000,.b (.cell [.d iT,.d aB] e),.b (.lst 247 eM e)],[iT,iT,iT,aB,pL],[⟨.exit 0,[sO 1500100,.b (.lst 247 eM e)],[pL]⟩],Pw.unc5 (Pw.j1O)⟩]
 keep:=[(0,⟨[1,2,3,7],[192],[⟨1000000,247,eM,[.slot 7],e⟩],[]⟩)]
 keepX:=[(0,.exit 0,⟨[7],[],[⟨1500100,247,eM,[.slot 7],e⟩],[]⟩)]
 ro:=[true]
theorem ϲ:aJ Lk:=
 cOf aH aK ϱ Lk Tryz.func218 (jg S8 (jg S9 c)) (jg (λh=>by kernel_rfl) c)
def Ll:Con:=⟨238,[.v bT],[bT],⟨[.v iT],[]⟩,[iT],λh=>Pw.j3w h⟩
def ϳ:FnD where
 N:=11
 np:=1
theorem ϴ:aJ Ll:=
 cOf aH aK ϳ Ll Tryz.func238 c c
def Ga:Con:=⟨202,[.v cK,.v bT],[cK,bT],⟨[.v iT,.v .bool],[]⟩,[iT,.bool],Pw.unc2 Pw.j1l⟩
def ϵ:FnD where
 N:=30
 np:=2
 cs:=[Lk,Ll]
 ds:=[⟨0,[sB 192 0,sO 1000000,sI,sI,.b (.cell [.d iT,.d iT] e),.b (.lst 247 eM e)],[iT,iT,iT,iT,pL],[⟨.ret,[sI,sD .bool],[iT,.bool]⟩,⟨.exit 0,[],[]⟩],Pw.unc5 (Pw.j1b)⟩]
 keep:=[(0,⟨[3,10,11,12],[192],[⟨1000000,247,eM,[.slot 10],e⟩],[]⟩)]
 keepX:=[(0,.ret,⟨[4,5],[],[],[]⟩)]
theorem Ta:aJ Ga:=
 cOf aH aK ϵ Ga Tryz.func202 (jg ϲ (jg ϴ c)) (jg (λh=>by kernel_rfl) c)
def Gb:Con:=⟨148,[.v cK,.v aY,.v iT],[cK,aY,iT],⟨[.v iT,.v .bool],[]⟩,[iT,.bool],Pw.unc3 Pw.j1m⟩
def Ϸ:FnD where
 N:=50
 np:=3
 cs:=[F7,Ga]
 dw:=[(5,[[],[],[],[],[],[],[],[],[512]])]
theorem Tb:aJ Gb:=
 cOf aH aK Ϸ Gb Tryz.func148 (jg S7 (jg Ta c)) c
def Lm:Con:=⟨136,[.v fm,.v cA],[fm,cA],⟨[.v iT],[]⟩,[iT],Pw.unc2 Pw.j98⟩
def ϸ:FnD where
 N:=95
 np:=2
 cs:=[F6,Lh,Ga,Gb]
 ds:=[⟨0,[sB 128 0,sB 192 0,sB 320 0,sD bC,sI,sI,.b (.cell [.d aw,.d aA,.d az,.d aC,.d ff] e),.b (.cell [.d .str,.d bu,.d bC] e),.b (.cell [.d iT] e)],[bC,iT,iT,aw,aA,az,aC,ff,.str,bu,bC,iT],[⟨.exit 0,[sB 128 0,sB 192 0,sB 320 0,.b (.cell [.d aw,.d aA,.d az,.d aC,.d ff] e),.b (.cell [.d .str,.d bu,.d bC] e),.b (.cell [.d iT] e)],[aw,aA,az,aC,ff,.str,bu,bC,iT]⟩],Pw.u8 Pw.unc4 (Pw.j23)⟩,⟨2,[sB 128 0,sB 320 0,.s (.one (.clr 198 [128,320])),sD bu,sI,sI,.b (.cell [.d aw,.d aA,.d az,.d aC,.d ff] e),.b (.cell [.d iT] e)],[bu,iT,iT,aw,aA,az,aC,ff,iT],[⟨.exit 2,[sB 320 0,.b (.cell [.d iT] e)],[iT]⟩],Pw.unc9 (Pw.j1x)⟩]
 keep:=[(0,⟨[2,3,5,18,19,20],[128,192,320],[],[]⟩),(2,⟨[2,5,8,31,32,33],[128,320],[],[]⟩)]
 keepX:=[(0,.exit 0,⟨[2,3,5],[128,192,320],[],[]⟩),(2,.exit 2,⟨[5],[320],[],[]⟩)]
 cr:=[198]
theorem Ϲ:aJ Lm:=
 cOf aH aK ϸ Lm Tryz.func136 (jg SZ (jg ϩ (jg Ta (jg Tb c)))) (jg (λh=>by kernel_rfl) (jg (λh=>by kernel_rfl) c))
end Go.Proofs.Pk
