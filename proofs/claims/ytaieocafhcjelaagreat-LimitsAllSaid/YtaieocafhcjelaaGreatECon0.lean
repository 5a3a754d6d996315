/- cJ: each given function is its plain function, printed by a program. -/
import Derived.Test.YtaieocafhcjelaaGreatETab
import Derived.Test.YtaieocafhcjelaaGreatESrt
noncomputable section
open Go Go.Lft
set_option linter.unusedVariables false
set_option maxRecDepth 100000
namespace Go.Proofs.Pk
abbrev Ky:Ty:=(.list (.list iT))
abbrev aV:Ty:=(.pair iT iT)
abbrev ae:Ty:=(.list aV)
abbrev an:Ty:=(.pair iT aV)
abbrev eb:Ty:=(.pair .str (.pair iT (.list iT)))
abbrev cb:Ty:=(.pair iT ae)
abbrev ak:Ty:=(.list an)
abbrev aG:Ty:=(.list eb)
abbrev ec:Ty:=(.list cb)
abbrev qM:Ty:=(.list ak)
abbrev bd:Ty:=(.pair iT (.pair iT an))
abbrev ay:Ty:=(.list bd)
abbrev fh:Ty:=(.pair .str (.pair iT (.pair ae (.pair iT (.pair iT .bool)))))
abbrev qN:Ty:=(.pair iT (.pair iT bd))
abbrev aH:Ty:=(.list fh)
abbrev dT:Ty:=(.list qN)
abbrev cj:Ty:=(.pair .str (.pair iT dT))
abbrev aD:Ty:=(.list cj)
abbrev cw:Ty:=(.pair .str (.pair iT (.pair aV (.pair iT (.pair iT (.pair (.list iT) (.pair ae aV)))))))
abbrev cd:Ty:=(.list cw)
abbrev cG:Ty:=(.pair .str (.pair cd ay))
abbrev aO:Ty:=(.list cG)
abbrev bQ:Ty:=(.pair aD (.pair aH (.pair aG aO)))
abbrev dQ:Ty:=(.pair bQ ec)
def Kz:Con:=⟨17,[.v (.list iT)],[(.list iT)],⟨[.v .bool],[]⟩,[.bool],λh=>Pw.jjQ h⟩
def jqc:FnD where
 N:=6
 np:=1
 cs:=[]
 ds:=[]
 ro:=[false]
theorem joz:Con.OK Tryz.prog Kz:=
 cOf aM aN jqc Kz Tryz.func17 trivial trivial
def KA:Con:=⟨110,[.v iT,.v iT,.v .bool],[iT,iT,.bool],⟨[.so [(some 91,aD),(some 93,aH),(some 152,aG),(some 45,aO)]],[]⟩,[aD,aH,aG,aO],Pw.unc3 Pw.jlW⟩
def joA:FnD where
 N:=26
 np:=3
 cs:=[]
 ds:=[]
 ro:=[true]
 so:=[.own 91 cj,.own 93 fh,.own 152 eb,.own 45 cG]
theorem jmM:Con.OK Tryz.prog KA:=
 cOf aM aN joA KA Tryz.func110 trivial trivial
def KB:Con:=⟨166,[.v cj],[cj],⟨[.v .str],[]⟩,[.str],λh=>Pw.jbV h⟩
def jiT:FnD where
 N:=5
 np:=1
 cs:=[]
 ds:=[]
 ro:=[false]
theorem jhV:Con.OK Tryz.prog KB:=
 cOf aM aN jiT KB Tryz.func166 trivial trivial
def KC:Con:=⟨320,[.v (.int .u8)],[(.int .u8)],⟨[.v .bool],[]⟩,[.bool],λh=>Pw.jhR h⟩
def joB:FnD where
 N:=9
 np:=1
 cs:=[]
 ds:=[]
 ro:=[false]
theorem jmN:Con.OK Tryz.prog KC:=
 cOf aM aN joB KC Tryz.func320 trivial trivial
def KD:Con:=⟨321,[.v (.int .u8)],[(.int .u8)],⟨[.v .bool],[]⟩,[.bool],λh=>Pw.jlX h⟩
def joC:FnD where
 N:=9
 np:=1
 cs:=[]
 ds:=[]
 ro:=[false]
theorem jmO:Con.OK Tryz.prog KD:=
 cOf aM aN joC KD Tryz.func321 trivial trivial
def KE:Con:=⟨249,[.v .str],[.str],⟨[.v .bool],[]⟩,[.bool],λh=>Pw.j9Q h⟩
def jqd:FnD where
 N:=43
 np:=1
 cs:=[KC,KD]
 ds:=[⟨0,[.s (.one (.d .str)),sI,sI],[.str,iT,iT],[⟨.ret,[.s (.one (.d .bool))],[.bool]⟩,⟨.exit 0,[],[]⟩],Pw.unc3 (Pw.jdO)⟩]
 modes:=[(320,[false]),(321,[false])]
 keep:=[(0,⟨[0,19,20],[],[],[]⟩)]
 keepX:=[(0,.ret,⟨[2],[],[],[]⟩),
  (0,.exit 0,⟨[],[],[],[]⟩)]
 ro:=[false]
theorem joD:Con.OK Tryz.prog KE:=
 cOf aM aN jqd KE Tryz.func249 (j9 jmN (j9 jmO trivial)) (j9 (λh=>by kernel_rfl) trivial)
def yz:Con:=⟨168,[.v .str,.rl 4294967523 (.list (.pair .str .bool))],[.str,(.list (.pair .str .bool))],⟨[.v iT],[.rl (.list (.pair .str .bool))]⟩,[iT,(.list (.pair .str .bool))],Pw.unc2 Pw.j4D⟩
def jmP:FnD where
 N:=13
 np:=2
 cs:=[KE]
 ds:=[]
 modes:=[(249,[false])]
 ro:=[false]
theorem DE:Con.OK Tryz.prog yz:=
 cOf aM aN jmP yz Tryz.func168 (j9 joD trivial) trivial
def DF:Con:=⟨300,[.v iT,.v iT,.v iT],[iT,iT,iT],⟨[.v .bool],[]⟩,[.bool],Pw.unc3 Pw.jbW⟩
def jvf:FnD where
 N:=15
 np:=3
 cs:=[]
 ds:=[]
 ro:=[false]
theorem KF:Con.OK Tryz.prog DF:=
 cOf aM aN jvf DF Tryz.func300 trivial trivial
def KG:Con:=⟨340,[.v qN],[qN],⟨[.v iT],[]⟩,[iT],λh=>Pw.jgx h⟩
def jry:FnD where
 N:=45
 np:=1
 cs:=[DF]
 ds:=[]
 modes:=[(300,[false,false,false])]
 ro:=[false]
theorem jqe:Con.OK Tryz.prog KG:=
 cOf aM aN jry KG Tryz.func340 (j9 KF trivial) trivial
def KH:Con:=⟨394,[.v iT],[iT],⟨[.v .bool],[]⟩,[.bool],λh=>Pw.jjR h⟩
def jqf:FnD where
 N:=16
 np:=1
 cs:=[]
 ds:=[]
 ro:=[false]
theorem joE:Con.OK Tryz.prog KH:=
 cOf aM aN jqf KH Tryz.func394 trivial trivial
def AZ:Con:=⟨368,[.v iT,.v iT],[iT,iT],⟨[.v iT],[]⟩,[iT],Pw.unc2 Pw.j8u⟩
def jqg:FnD where
 N:=24
 np:=2
 cs:=[KH]
 ds:=[]
 modes:=[(394,[false])]
 ro:=[false]
theorem Gp:Con.OK Tryz.prog AZ:=
 cOf aM aN jqg AZ Tryz.func368 (j9 joE trivial) trivial
def KI:Con:=⟨383,[.v an],[an],⟨[.v .bool],[]⟩,[.bool],λh=>Pw.jcN h⟩
def joF:FnD where
 N:=26
 np:=1
 cs:=[AZ]
 ds:=[]
 modes:=[(368,[false,false])]
 ro:=[false]
theorem jmQ:Con.OK Tryz.prog KI:=
 cOf aM aN joF KI Tryz.func383 (j9 Gp trivial) trivial
def Gq:Con:=⟨393,[.v iT,.v iT],[iT,iT],⟨[.v iT],[]⟩,[iT],Pw.unc2 Pw.j9C⟩
def joG:FnD where
 N:=16
 np:=2
 cs:=[]
 ds:=[]
 ro:=[false]
theorem Tw:Con.OK Tryz.prog Gq:=
 cOf aM aN joG Gq Tryz.func393 trivial trivial
def DG:Con:=⟨366,[.v iT],[iT],⟨[.v iT],[]⟩,[iT],λh=>Pw.j6t h⟩
def joH:FnD where
 N:=19
 np:=1
 cs:=[Gq]
 ds:=[]
 modes:=[(393,[false,false])]
 ro:=[false]
theorem KJ:Con.OK Tryz.prog DG:=
 cOf aM aN joH DG Tryz.func366 (j9 Tw trivial) trivial
def KK:Con:=⟨384,[.v an],[an],⟨[.v iT],[]⟩,[iT],λh=>Pw.j84 h⟩
def jmR:FnD where
 N:=25
 np:=1
 cs:=[AZ,DG]
 ds:=[⟨0,[.s (.one (.bp 64 0)),sI,sI,.b (.cell [.d iT,.d iT,.d iT] false)],[iT,iT,iT,iT,iT],[⟨.exit 0,[sI],[iT]⟩],Pw.unc5 (Pw.j58)⟩]
 modes:=[(366,[false]),(368,[false,false])]
 keep:=[(0,⟨[1,3,4],[64],[],[]⟩)]
 keepX:=[(0,.exit 0,⟨[3],[],[],[]⟩)]
 ro:=[false]
theorem jlZ:Con.OK Tryz.prog KK:=
 cOf aM aN jmR KK Tryz.func384 (j9 Gp (j9 KJ trivial)) (j9 (λh=>by kernel_rfl) trivial)
def Gr:Con:=⟨263,[.v iT],[iT],⟨[.v iT],[]⟩,[iT],λh=>Pw.j8v h⟩
def jm0:FnD where
 N:=7
 np:=1
 cs:=[]
 ds:=[]
 ro:=[false]
theorem Tx:Con.OK Tryz.prog Gr:=
 cOf aM aN jm0 Gr Tryz.func263 trivial trivial
def KL:Con:=⟨341,[.v iT,.v iT,.v iT,.v iT],[iT,iT,iT,iT],⟨[.v iT,.v iT],[]⟩,[iT,iT],Pw.unc4 Pw.jcO⟩
def jrz:FnD where
 N:=59
 np:=4
 cs:=[AZ,KI,KK,Gr]
 ds:=[]
 modes:=[(263,[false]),(368,[false,false]),(383,[false]),(384,[false])]
 ro:=[false,false]
theorem jqh:Con.OK Tryz.prog KL:=
 cOf aM aN jrz KL Tryz.func341 (j9 Gp (j9 jmQ (j9 jlZ (j9 Tx trivial)))) trivial
def KM:Con:=⟨343,[.v aV,.v aV],[aV,aV],⟨[.v iT],[]⟩,[iT],Pw.unc2 Pw.j9D⟩
def jgA:FnD where
 N:=10
 np:=2
 cs:=[]
 ds:=[]
 ro:=[false]
theorem jfZ:Con.OK Tryz.prog KM:=
 cOf aM aN jgA KM Tryz.func343 trivial trivial
def KN:Con:=⟨398,[.rl 338 ae,.v iT,.v iT,.clo 343 []],[ae,iT,iT],⟨[],[.rl ae]⟩,[ae],Pw.unc3 Pw.j0k⟩
def j6Z:FnD where
 N:=53
 np:=4
 cs:=[KM]
 ds:=[⟨0,[.s (.one (.ol 0)),sI,sI,.s (.one (.clo 343 [])),sI,.b (.lst 338 aV false)],[iT,iT,iT,ae],[⟨.exit 0,[.b (.lst 338 aV false)],[ae]⟩],Pw.unc4 (Pw.j0c)⟩,
  ⟨2,[.s (.one (.ol 0)),sI,sI,.s (.one (.clo 343 [])),sI,sI,.b (.lst 338 aV false)],[iT,iT,iT,iT,ae],[⟨.exit 2,[.s (.one (.ol 0)),sI,sI,.s (.one (.clo 343 [])),sI,.b (.lst 338 aV false)],[iT,iT,iT,ae]⟩],Pw.unc5 (Pw.j0E)⟩]
 modes:=[(343,[false,false])]
 keep:=[(0,⟨[0,1,2,3,8],[0],[],[]⟩),
  (2,⟨[0,1,2,3,8,9],[0],[],[]⟩)]
 keepX:=[(0,.exit 0,⟨[],[0],[],[]⟩),
  (2,.exit 2,⟨[0,1,2,3,8],[0],[],[]⟩)]
 dw:=[(6,[[],[],[],[],[],[],[],[],[],[],[],[],[],[],[],[0],[],[0]])]
theorem j6G:Con.OK Tryz.prog KN:=
 cOf aM aN j6Z KN Tryz.func398 (j9 jfZ trivial) (j9 (λh=>by kernel_rfl) (j9 (λh=>by kernel_rfl) trivial))
def KO:Con:=⟨385,[.rl 338 ae,.v iT,.clo 343 []],[ae,iT],⟨[],[.rl ae]⟩,[ae],Pw.unc2 Pw.j1j⟩
def j8z:FnD where
 N:=63
 np:=3
 cs:=[KN]
 ds:=[⟨0,[.s (.one (.ol 0)),sI,.s (.one (.clo 343 [])),sI,sI,sI,.b (.lst 338 aV false)],[iT,iT,iT,iT,ae],[⟨.exit 0,[.s (.one (.ol 0)),sI,.s (.one (.clo 343 [])),sI,sI,.b (.lst 338 aV false)],[iT,iT,iT,ae]⟩],Pw.unc5 (Pw.j0s)⟩,
  ⟨2,[.s (.one (.ol 0)),sI,.s (.one (.clo 343 [])),sI,.b (.lst 338 aV false)],[iT,iT,ae],[⟨.exit 2,[.b (.lst 338 aV false)],[ae]⟩],Pw.unc3 (Pw.j0t)⟩,
  ⟨4,[.s (.one (.ol 0)),sI,.s (.one (.clo 343 [])),sI,sI,sI,.b (.lst 338 aV false)],[iT,iT,iT,iT,ae],[⟨.exit 4,[.s (.one (.ol 0)),sI,.s (.one (.clo 343 [])),sI,sI,.b (.lst 338 aV false)],[iT,iT,iT,ae]⟩],Pw.unc5 (Pw.j3X)⟩]
 modes:=[(398,[true,false,false,false])]
 keep:=[(0,⟨[0,1,2,6,7,8],[0],[],[]⟩),
  (2,⟨[0,1,2,6],[0],[],[]⟩),
  (4,⟨[0,1,2,6,7,8],[0],[],[]⟩)]
 keepX:=[(0,.exit 0,⟨[0,1,2,6,7],[0],[],[]⟩),
  (2,.exit 2,⟨[],[0],[],[]⟩),
  (4,.exit 4,⟨[0,1,2,6,7],[0],[],[]⟩)]
theorem j8h:Con.OK Tryz.prog KO:=
 cOf aM aN j8z KO Tryz.func385 (j9 j6G trivial) (j9 (λh=>by kernel_rfl) (j9 (λh=>by kernel_rfl) (j9 (λh=>by kernel_rfl) trivial)))
end Go.Proofs.Pk
