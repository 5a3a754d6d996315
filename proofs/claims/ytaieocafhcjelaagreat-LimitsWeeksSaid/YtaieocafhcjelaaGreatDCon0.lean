/- cI: each given function is its plain function, printed by a program. -/
import Derived.Test.YtaieocafhcjelaaGreatDTab
import Derived.Test.YtaieocafhcjelaaGreatDSrt
noncomputable section
open Go Go.Lft
set_option linter.unusedVariables false
set_option maxRecDepth 100000
namespace Go.Proofs.Pk
abbrev Kq:Ty:=(.list (.list iT))
abbrev aQ:Ty:=(.pair iT iT)
abbrev aa:Ty:=(.list aQ)
abbrev ay:Ty:=(.pair iT aQ)
abbrev dZ:Ty:=(.pair .str (.pair iT (.list iT)))
abbrev bZ:Ty:=(.pair iT aa)
abbrev aq:Ty:=(.list ay)
abbrev aO:Ty:=(.list dZ)
abbrev ea:Ty:=(.list bZ)
abbrev qK:Ty:=(.list aq)
abbrev bd:Ty:=(.pair iT (.pair iT ay))
abbrev au:Ty:=(.list bd)
abbrev fa:Ty:=(.pair .str (.pair iT (.pair aa (.pair iT (.pair iT .bool)))))
abbrev qL:Ty:=(.pair iT (.pair iT bd))
abbrev aP:Ty:=(.list fa)
abbrev dR:Ty:=(.list qL)
abbrev cd:Ty:=(.pair .str (.pair iT dR))
abbrev aG:Ty:=(.list cd)
abbrev cu:Ty:=(.pair .str (.pair iT (.pair aQ (.pair iT (.pair iT (.pair (.list iT) (.pair aa aQ)))))))
abbrev ca:Ty:=(.list cu)
abbrev cF:Ty:=(.pair .str (.pair ca au))
abbrev aV:Ty:=(.list cF)
abbrev bS:Ty:=(.pair aG (.pair aP (.pair aO aV)))
abbrev dN:Ty:=(.pair bS ea)
def Kr:Con:=⟨17,[.v (.list iT)],[(.list iT)],⟨[.v .bool],[]⟩,[.bool],λh=>Pw.jjK h⟩
def jq2:FnD where
 N:=6
 np:=1
 cs:=[]
 ds:=[]
 ro:=[false]
theorem jot:Con.OK Tryz.prog Kr:=
 cOf aJ aL jq2 Kr Tryz.func17 trivial trivial
def Ks:Con:=⟨110,[.v iT,.v iT,.v .bool],[iT,iT,.bool],⟨[.so [(some 91,aG),(some 93,aP),(some 152,aO),(some 45,aV)]],[]⟩,[aG,aP,aO,aV],Pw.unc3 Pw.jlP⟩
def jou:FnD where
 N:=26
 np:=3
 cs:=[]
 ds:=[]
 ro:=[true]
 so:=[.own 91 cd,.own 93 fa,.own 152 dZ,.own 45 cF]
theorem jmH:Con.OK Tryz.prog Ks:=
 cOf aJ aL jou Ks Tryz.func110 trivial trivial
def Kt:Con:=⟨166,[.v cd],[cd],⟨[.v .str],[]⟩,[.str],λh=>Pw.jbP h⟩
def jiN:FnD where
 N:=5
 np:=1
 cs:=[]
 ds:=[]
 ro:=[false]
theorem jhO:Con.OK Tryz.prog Kt:=
 cOf aJ aL jiN Kt Tryz.func166 trivial trivial
def Ku:Con:=⟨320,[.v (.int .u8)],[(.int .u8)],⟨[.v .bool],[]⟩,[.bool],λh=>Pw.jhK h⟩
def jov:FnD where
 N:=9
 np:=1
 cs:=[]
 ds:=[]
 ro:=[false]
theorem jmI:Con.OK Tryz.prog Ku:=
 cOf aJ aL jov Ku Tryz.func320 trivial trivial
def Kv:Con:=⟨321,[.v (.int .u8)],[(.int .u8)],⟨[.v .bool],[]⟩,[.bool],λh=>Pw.jlQ h⟩
def jow:FnD where
 N:=9
 np:=1
 cs:=[]
 ds:=[]
 ro:=[false]
theorem jmJ:Con.OK Tryz.prog Kv:=
 cOf aJ aL jow Kv Tryz.func321 trivial trivial
def Kw:Con:=⟨249,[.v .str],[.str],⟨[.v .bool],[]⟩,[.bool],λh=>Pw.j9L h⟩
def jq3:FnD where
 N:=43
 np:=1
 cs:=[Ku,Kv]
 ds:=[⟨0,[.s (.one (.d .str)),sI,sI],[.str,iT,iT],[⟨.ret,[.s (.one (.d .bool))],[.bool]⟩,⟨.exit 0,[],[]⟩],Pw.unc3 (Pw.jdG)⟩]
 modes:=[(320,[false]),(321,[false])]
 keep:=[(0,⟨[0,19,20],[],[],[]⟩)]
 keepX:=[(0,.ret,⟨[2],[],[],[]⟩),
  (0,.exit 0,⟨[],[],[],[]⟩)]
 ro:=[false]
theorem jox:Con.OK Tryz.prog Kw:=
 cOf aJ aL jq3 Kw Tryz.func249 (j9 jmI (j9 jmJ trivial)) (j9 (λh=>by kernel_rfl) trivial)
def yp:Con:=⟨168,[.v .str,.rl 4294967523 (.list (.pair .str .bool))],[.str,(.list (.pair .str .bool))],⟨[.v iT],[.rl (.list (.pair .str .bool))]⟩,[iT,(.list (.pair .str .bool))],Pw.unc2 Pw.j4F⟩
def jmK:FnD where
 N:=13
 np:=2
 cs:=[Kw]
 ds:=[]
 modes:=[(249,[false])]
 ro:=[false]
theorem Du:Con.OK Tryz.prog yp:=
 cOf aJ aL jmK yp Tryz.func168 (j9 jox trivial) trivial
def Dv:Con:=⟨300,[.v iT,.v iT,.v iT],[iT,iT,iT],⟨[.v .bool],[]⟩,[.bool],Pw.unc3 Pw.jbQ⟩
def jv6:FnD where
 N:=15
 np:=3
 cs:=[]
 ds:=[]
 ro:=[false]
theorem Kx:Con.OK Tryz.prog Dv:=
 cOf aJ aL jv6 Dv Tryz.func300 trivial trivial
def Ky:Con:=⟨340,[.v qL],[qL],⟨[.v iT],[]⟩,[iT],λh=>Pw.jgo h⟩
def jro:FnD where
 N:=45
 np:=1
 cs:=[Dv]
 ds:=[]
 modes:=[(300,[false,false,false])]
 ro:=[false]
theorem jq4:Con.OK Tryz.prog Ky:=
 cOf aJ aL jro Ky Tryz.func340 (j9 Kx trivial) trivial
def Kz:Con:=⟨394,[.v iT],[iT],⟨[.v .bool],[]⟩,[.bool],λh=>Pw.jjL h⟩
def jq5:FnD where
 N:=16
 np:=1
 cs:=[]
 ds:=[]
 ro:=[false]
theorem joy:Con.OK Tryz.prog Kz:=
 cOf aJ aL jq5 Kz Tryz.func394 trivial trivial
def AQ:Con:=⟨368,[.v iT,.v iT],[iT,iT],⟨[.v iT],[]⟩,[iT],Pw.unc2 Pw.j8p⟩
def jq6:FnD where
 N:=24
 np:=2
 cs:=[Kz]
 ds:=[]
 modes:=[(394,[false])]
 ro:=[false]
theorem Gb:Con.OK Tryz.prog AQ:=
 cOf aJ aL jq6 AQ Tryz.func368 (j9 joy trivial) trivial
def KA:Con:=⟨383,[.v ay],[ay],⟨[.v .bool],[]⟩,[.bool],λh=>Pw.jcI h⟩
def joz:FnD where
 N:=26
 np:=1
 cs:=[AQ]
 ds:=[]
 modes:=[(368,[false,false])]
 ro:=[false]
theorem jmL:Con.OK Tryz.prog KA:=
 cOf aJ aL joz KA Tryz.func383 (j9 Gb trivial) trivial
def Gc:Con:=⟨393,[.v iT,.v iT],[iT,iT],⟨[.v iT],[]⟩,[iT],Pw.unc2 Pw.j9x⟩
def joA:FnD where
 N:=16
 np:=2
 cs:=[]
 ds:=[]
 ro:=[false]
theorem Tf:Con.OK Tryz.prog Gc:=
 cOf aJ aL joA Gc Tryz.func393 trivial trivial
def Dw:Con:=⟨366,[.v iT],[iT],⟨[.v iT],[]⟩,[iT],λh=>Pw.j6r h⟩
def joB:FnD where
 N:=19
 np:=1
 cs:=[Gc]
 ds:=[]
 modes:=[(393,[false,false])]
 ro:=[false]
theorem KB:Con.OK Tryz.prog Dw:=
 cOf aJ aL joB Dw Tryz.func366 (j9 Tf trivial) trivial
def KC:Con:=⟨384,[.v ay],[ay],⟨[.v iT],[]⟩,[iT],λh=>Pw.j81 h⟩
def jmM:FnD where
 N:=25
 np:=1
 cs:=[AQ,Dw]
 ds:=[⟨0,[.s (.one (.bp 64 0)),sI,sI,.b (.cell [.d iT,.d iT,.d iT] false)],[iT,iT,iT,iT,iT],[⟨.exit 0,[sI],[iT]⟩],Pw.unc5 (Pw.j58)⟩]
 modes:=[(366,[false]),(368,[false,false])]
 keep:=[(0,⟨[1,3,4],[64],[],[]⟩)]
 keepX:=[(0,.exit 0,⟨[3],[],[],[]⟩)]
 ro:=[false]
theorem jlS:Con.OK Tryz.prog KC:=
 cOf aJ aL jmM KC Tryz.func384 (j9 Gb (j9 KB trivial)) (j9 (λh=>by kernel_rfl) trivial)
def Gd:Con:=⟨263,[.v iT],[iT],⟨[.v iT],[]⟩,[iT],λh=>Pw.j8q h⟩
def jlT:FnD where
 N:=7
 np:=1
 cs:=[]
 ds:=[]
 ro:=[false]
theorem Tg:Con.OK Tryz.prog Gd:=
 cOf aJ aL jlT Gd Tryz.func263 trivial trivial
def KD:Con:=⟨341,[.v iT,.v iT,.v iT,.v iT],[iT,iT,iT,iT],⟨[.v iT,.v iT],[]⟩,[iT,iT],Pw.unc4 Pw.jcJ⟩
def jrp:FnD where
 N:=59
 np:=4
 cs:=[AQ,KA,KC,Gd]
 ds:=[]
 modes:=[(263,[false]),(368,[false,false]),(383,[false]),(384,[false])]
 ro:=[false,false]
theorem jq7:Con.OK Tryz.prog KD:=
 cOf aJ aL jrp KD Tryz.func341 (j9 Gb (j9 jmL (j9 jlS (j9 Tg trivial)))) trivial
def KE:Con:=⟨343,[.v aQ,.v aQ],[aQ,aQ],⟨[.v iT],[]⟩,[iT],Pw.unc2 Pw.j9y⟩
def jgs:FnD where
 N:=10
 np:=2
 cs:=[]
 ds:=[]
 ro:=[false]
theorem jfQ:Con.OK Tryz.prog KE:=
 cOf aJ aL jgs KE Tryz.func343 trivial trivial
def KF:Con:=⟨398,[.rl 338 aa,.v iT,.v iT,.clo 343 []],[aa,iT,iT],⟨[],[.rl aa]⟩,[aa],Pw.unc3 Pw.j0k⟩
def j6W:FnD where
 N:=53
 np:=4
 cs:=[KE]
 ds:=[⟨0,[.s (.one (.ol 0)),sI,sI,.s (.one (.clo 343 [])),sI,.b (.lst 338 aQ false)],[iT,iT,iT,aa],[⟨.exit 0,[.b (.lst 338 aQ false)],[aa]⟩],Pw.unc4 (Pw.j0c)⟩,
  ⟨2,[.s (.one (.ol 0)),sI,sI,.s (.one (.clo 343 [])),sI,sI,.b (.lst 338 aQ false)],[iT,iT,iT,iT,aa],[⟨.exit 2,[.s (.one (.ol 0)),sI,sI,.s (.one (.clo 343 [])),sI,.b (.lst 338 aQ false)],[iT,iT,iT,aa]⟩],Pw.unc5 (Pw.j0E)⟩]
 modes:=[(343,[false,false])]
 keep:=[(0,⟨[0,1,2,3,8],[0],[],[]⟩),
  (2,⟨[0,1,2,3,8,9],[0],[],[]⟩)]
 keepX:=[(0,.exit 0,⟨[],[0],[],[]⟩),
  (2,.exit 2,⟨[0,1,2,3,8],[0],[],[]⟩)]
 dw:=[(6,[[],[],[],[],[],[],[],[],[],[],[],[],[],[],[],[0],[],[0]])]
theorem j6D:Con.OK Tryz.prog KF:=
 cOf aJ aL j6W KF Tryz.func398 (j9 jfQ trivial) (j9 (λh=>by kernel_rfl) (j9 (λh=>by kernel_rfl) trivial))
def KG:Con:=⟨385,[.rl 338 aa,.v iT,.clo 343 []],[aa,iT],⟨[],[.rl aa]⟩,[aa],Pw.unc2 Pw.j1g⟩
def j8u:FnD where
 N:=63
 np:=3
 cs:=[KF]
 ds:=[⟨0,[.s (.one (.ol 0)),sI,.s (.one (.clo 343 [])),sI,sI,sI,.b (.lst 338 aQ false)],[iT,iT,iT,iT,aa],[⟨.exit 0,[.s (.one (.ol 0)),sI,.s (.one (.clo 343 [])),sI,sI,.b (.lst 338 aQ false)],[iT,iT,iT,aa]⟩],Pw.unc5 (Pw.j0s)⟩,
  ⟨2,[.s (.one (.ol 0)),sI,.s (.one (.clo 343 [])),sI,.b (.lst 338 aQ false)],[iT,iT,aa],[⟨.exit 2,[.b (.lst 338 aQ false)],[aa]⟩],Pw.unc3 (Pw.j0t)⟩,
  ⟨4,[.s (.one (.ol 0)),sI,.s (.one (.clo 343 [])),sI,sI,sI,.b (.lst 338 aQ false)],[iT,iT,iT,iT,aa],[⟨.exit 4,[.s (.one (.ol 0)),sI,.s (.one (.clo 343 [])),sI,sI,.b (.lst 338 aQ false)],[iT,iT,iT,aa]⟩],Pw.unc5 (Pw.j3X)⟩]
 modes:=[(398,[true,false,false,false])]
 keep:=[(0,⟨[0,1,2,6,7,8],[0],[],[]⟩),
  (2,⟨[0,1,2,6],[0],[],[]⟩),
  (4,⟨[0,1,2,6,7,8],[0],[],[]⟩)]
 keepX:=[(0,.exit 0,⟨[0,1,2,6,7],[0],[],[]⟩),
  (2,.exit 2,⟨[],[0],[],[]⟩),
  (4,.exit 4,⟨[0,1,2,6,7],[0],[],[]⟩)]
theorem j8d:Con.OK Tryz.prog KG:=
 cOf aJ aL j8u KG Tryz.func385 (j9 j6D trivial) (j9 (λh=>by kernel_rfl) (j9 (λh=>by kernel_rfl) (j9 (λh=>by kernel_rfl) trivial)))
end Go.Proofs.Pk
