/- cb: each given function is its plain function, printed by a program. -/
import Derived.Test.YtmccfdihkphfaaaGreatRETab
import Derived.Test.YtmccfdihkphfaaaGreatRESrt
open _root_ renaming trivial->e
noncomputable section
open Go Go.Lft
set_option linter.unusedVariables false
set_option maxRecDepth 100000
namespace Go.Proofs.Pk
abbrev aM(c:Con):=Con.OK Tryz.prog c
abbrev FI:Ty:=(.list (.arr 2 iT))
abbrev aT:Ty:=(.pair iT iT)
abbrev af:Ty:=(.list aT)
abbrev aF:Ty:=(.pair iT aT)
abbrev fm:Ty:=(.pair .str (.pair iT (.list iT)))
abbrev df:Ty:=(.pair iT af)
abbrev aH:Ty:=(.list aF)
abbrev aw:Ty:=(.list fm)
abbrev eM:Ty:=(.list df)
abbrev fw:Ty:=(.pair iT (.pair iT aF))
abbrev bt:Ty:=(.list fw)
abbrev fN:Ty:=(.pair .str (.pair iT (.pair af (.pair iT (.pair iT .bool)))))
abbrev ov:Ty:=(.pair iT (.pair iT fw))
abbrev ax:Ty:=(.list fN)
abbrev bP:Ty:=(.list ov)
abbrev bk:Ty:=(.pair .str (.pair iT bP))
abbrev au:Ty:=(.list bk)
abbrev bD:Ty:=(.pair .str (.pair iT (.pair aT (.pair iT (.pair iT (.pair (.list iT) (.pair af aT)))))))
abbrev bC:Ty:=(.list bD)
abbrev cB:Ty:=(.pair .str (.pair bC bt))
abbrev aA:Ty:=(.list cB)
abbrev aB:Ty:=(.pair au (.pair ax (.pair aw aA)))
abbrev iv:Ty:=(.list aB)
abbrev dX:Ty:=(.pair aB eM)
def OL:Con:=⟨6,[.v (.list iT)],[(.list iT)],⟨[.v .bool],[]⟩,[.bool],λh=>Pw.jll h⟩
def jsC:FnD where
 N:=6
 np:=1
theorem jqQ:aM OL:=
 cOf aN aO jsC OL Tryz.func6 e e
def OM:Con:=⟨113,[],[],⟨[.so [(some 105,au),(some 107,ax),(some 110,aw),(some 91,aA)]],[]⟩,[au,ax,aw,aA],λh=>Pw.jnP⟩
def jqR:FnD where
 N:=26
 np:=0
 ro:=[true]
 so:=[.own 105 bk,.own 107 fN,.own 110 fm,.own 91 cB]
theorem joL:aM OM:=
 cOf aN aO jqR OM Tryz.func113 e e
def Zc:Con:=⟨52,[],[],⟨[.v aB],[]⟩,[aB],λh=>Pw.jfL⟩
def jnV:FnD where
 N:=11
 np:=0
 cs:=[OM]
theorem jmj:aM Zc:=
 cOf aN aO jnV Zc Tryz.func52 (ja joL e) e
def ON:Con:=⟨189,[.v bk],[bk],⟨[.v .str],[]⟩,[.str],λh=>Pw.j8I h⟩
def jkq:FnD where
 N:=5
 np:=1
theorem jjc:aM ON:=
 cOf aN aO jkq ON Tryz.func189 e e
def OO:Con:=⟨307,[.v (.int .u8)],[(.int .u8)],⟨[.v .bool],[]⟩,[.bool],λh=>Pw.jcN h⟩
def jqS:FnD where
 N:=9
 np:=1
theorem joM:aM OO:=
 cOf aN aO jqS OO Tryz.func307 e e
def OP:Con:=⟨308,[.v (.int .u8)],[(.int .u8)],⟨[.v .bool],[]⟩,[.bool],λh=>Pw.jj5 h⟩
def jqT:FnD where
 N:=9
 np:=1
theorem joN:aM OP:=
 cOf aN aO jqT OP Tryz.func308 e e
def OQ:Con:=⟨250,[.v .str],[.str],⟨[.v .bool],[]⟩,[.bool],λh=>Pw.jf7 h⟩
def jsD:FnD where
 N:=43
 np:=1
 cs:=[OO,OP]
 ds:=[⟨0,[sD .str,sI,sI],[.str,iT,iT],[⟨.ret,[sD .bool],[.bool]⟩,⟨.exit 0,[],[]⟩],Pw.unc3 (Pw.j51)⟩]
 keep:=[(0,⟨[0,19,20],[],[],[]⟩)]
 keepX:=[(0,.ret,⟨[2],[],[],[]⟩)]
theorem jqU:aM OQ:=
 cOf aN aO jsD OQ Tryz.func250 (ja joM (ja joN e)) (ja (λh=>by kernel_rfl) e)
def Am:Con:=⟨191,[.v .str,.rl 4294967535 (.list (.pair .str .bool))],[.str,(.list (.pair .str .bool))],⟨[.v iT],[.rl (.list (.pair .str .bool))]⟩,[iT,(.list (.pair .str .bool))],Pw.unc2 Pw.j4r⟩
def joO:FnD where
 N:=13
 np:=2
 cs:=[OQ]
theorem FJ:aM Am:=
 cOf aN aO joO Am Tryz.func191 (ja jqU e) e
def FK:Con:=⟨328,[.v iT,.v iT,.v iT],[iT,iT,iT],⟨[.v .bool],[]⟩,[.bool],Pw.unc3 Pw.j87⟩
def jzx:FnD where
 N:=15
 np:=3
theorem OR:aM FK:=
 cOf aN aO jzx FK Tryz.func328 e e
def OS:Con:=⟨337,[.v ov],[ov],⟨[.v iT],[]⟩,[iT],λh=>Pw.jbj h⟩
def juu:FnD where
 N:=45
 np:=1
 cs:=[FK]
theorem jsE:aM OS:=
 cOf aN aO juu OS Tryz.func337 (ja OR e) e
def OT:Con:=⟨342,[.v iT],[iT],⟨[.v .bool],[]⟩,[.bool],λh=>Pw.jlm h⟩
def jsF:FnD where
 N:=16
 np:=1
theorem jqV:aM OT:=
 cOf aN aO jsF OT Tryz.func342 e e
def Cx:Con:=⟨331,[.v iT,.v iT],[iT,iT],⟨[.v iT],[]⟩,[iT],Pw.unc2 Pw.j7N⟩
def jsG:FnD where
 N:=24
 np:=2
 cs:=[OT]
theorem JP:aM Cx:=
 cOf aN aO jsG Cx Tryz.func331 (ja jqV e) e
def OU:Con:=⟨343,[.v aF],[aF],⟨[.v .bool],[]⟩,[.bool],λh=>Pw.jcO h⟩
def jqW:FnD where
 N:=26
 np:=1
 cs:=[Cx]
theorem joP:aM OU:=
 cOf aN aO jqW OU Tryz.func343 (ja JP e) e
def JQ:Con:=⟨341,[.v iT,.v iT],[iT,iT],⟨[.v iT],[]⟩,[iT],Pw.unc2 Pw.j92⟩
def jqX:FnD where
 N:=16
 np:=2
theorem Zd:aM JQ:=
 cOf aN aO jqX JQ Tryz.func341 e e
def FL:Con:=⟨329,[.v iT],[iT],⟨[.v iT],[]⟩,[iT],λh=>Pw.j5w h⟩
def jqY:FnD where
 N:=19
 np:=1
 cs:=[JQ]
theorem OV:aM FL:=
 cOf aN aO jqY FL Tryz.func329 (ja Zd e) e
def OW:Con:=⟨344,[.v aF],[aF],⟨[.v iT],[]⟩,[iT],λh=>Pw.jdU h⟩
def joQ:FnD where
 N:=25
 np:=1
 cs:=[Cx,FL]
 ds:=[⟨0,[sB 64 0,sI,sI,.b (.cell [.d iT,.d iT,.d iT] false)],[iT,iT,iT,iT,iT],[⟨.exit 0,[sI],[iT]⟩],Pw.unc5 (Pw.j48)⟩]
 keep:=[(0,⟨[1,3,4],[64],[],[]⟩)]
 keepX:=[(0,.exit 0,⟨[3],[],[],[]⟩)]
theorem jnW:aM OW:=
 cOf aN aO joQ OW Tryz.func344 (ja JP (ja OV e)) (ja (λh=>by kernel_rfl) e)
def JR:Con:=⟨157,[.v iT],[iT],⟨[.v iT],[]⟩,[iT],λh=>Pw.j6g h⟩
def jnX:FnD where
 N:=7
 np:=1
theorem Ze:aM JR:=
 cOf aN aO jnX JR Tryz.func157 e e
def OX:Con:=⟨338,[.v iT,.v iT,.v iT,.v iT],[iT,iT,iT,iT],⟨[.v iT,.v iT],[]⟩,[iT,iT],Pw.unc4 Pw.jk7⟩
def juv:FnD where
 N:=59
 np:=4
 cs:=[Cx,OU,OW,JR]
theorem jsH:aM OX:=
 cOf aN aO juv OX Tryz.func338 (ja JP (ja joP (ja jnW (ja Ze e)))) e
def OY:Con:=⟨340,[.v aT,.v aT],[aT,aT],⟨[.v iT],[]⟩,[iT],Pw.unc2 Pw.j93⟩
def jht:FnD where
 N:=10
 np:=2
theorem jgP:aM OY:=
 cOf aN aO jht OY Tryz.func340 e e
def OZ:Con:=⟨346,[.rl 349 af,.v iT,.v iT,.clo 340 []],[af,iT,iT],⟨[],[.rl af]⟩,[af],Pw.unc3 Pw.j0s⟩
def j64:FnD where
 N:=53
 np:=4
 cs:=[OY]
 ds:=[⟨0,[sO 0,sI,sI,sC 340 [],sI,.b (.lst 349 aT false)],[iT,iT,iT,af],[⟨.exit 0,[.b (.lst 349 aT false)],[af]⟩],Pw.unc4 (Pw.j0i)⟩,⟨2,[sO 0,sI,sI,sC 340 [],sI,sI,.b (.lst 349 aT false)],[iT,iT,iT,iT,af],[⟨.exit 2,[sO 0,sI,sI,sC 340 [],sI,.b (.lst 349 aT false)],[iT,iT,iT,af]⟩],Pw.unc5 (Pw.j0h)⟩]
 keep:=[(0,⟨[0,1,2,3,8],[0],[],[]⟩),(2,⟨[0,1,2,3,8,9],[0],[],[]⟩)]
 keepX:=[(0,.exit 0,⟨[],[0],[],[]⟩),(2,.exit 2,⟨[0,1,2,3,8],[0],[],[]⟩)]
 dw:=[(6,[[],[],[],[],[],[],[],[],[],[],[],[],[],[],[],[0],[],[0]])]
theorem j5F:aM OZ:=
 cOf aN aO j64 OZ Tryz.func346 (ja jgP e) (ja (λh=>by kernel_rfl) (ja (λh=>by kernel_rfl) e))
end Go.Proofs.Pk
