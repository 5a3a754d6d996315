/- Contracts. -/
import Derived.Test.YtmccfdihkphfaaaGreatCETab
import Derived.Test.YtmccfdihkphfaaaGreatCESrt
open _root_ renaming trivial->e
noncomputable section
open Go Go.Lft
set_option linter.unusedVariables false
set_option maxRecDepth 100000
namespace Go.Proofs.Pk
abbrev aJ(c:Con):=Con.OK Tryz.prog c
abbrev AY:Ty:=(.list (.arr 2 iT))
abbrev aR:Ty:=(.pair iT iT)
abbrev af:Ty:=(.list aR)
abbrev aT:Ty:=(.pair iT aR)
abbrev fm:Ty:=(.pair .str (.pair iT (.list iT)))
abbrev cA:Ty:=(.pair iT af)
abbrev aF:Ty:=(.list aT)
abbrev ar:Ty:=(.list fm)
abbrev cX:Ty:=(.list cA)
abbrev lD:Ty:=(.list aF)
abbrev bc:Ty:=(.pair iT (.pair iT aT))
abbrev ak:Ty:=(.list bc)
abbrev fY:Ty:=(.pair .str (.pair iT (.pair af (.pair iT (.pair iT .bool)))))
abbrev po:Ty:=(.pair iT (.pair iT bc))
abbrev au:Ty:=(.list fY)
abbrev bQ:Ty:=(.list po)
abbrev bj:Ty:=(.pair .str (.pair iT bQ))
abbrev al:Ty:=(.list bj)
abbrev bE:Ty:=(.pair .str (.pair iT (.pair aR (.pair iT (.pair iT (.pair (.list iT) (.pair af aR)))))))
abbrev bh:Ty:=(.list bE)
abbrev cD:Ty:=(.pair .str (.pair bh ak))
abbrev ay:Ty:=(.list cD)
abbrev aG:Ty:=(.pair al (.pair au (.pair ar ay)))
abbrev kE:Ty:=(.list aG)
abbrev eE:Ty:=(.pair aG cX)
def Qw:Con:=⟨6,[.v (.list iT)],[(.list iT)],⟨[.v .bool],[]⟩,[.bool],λh=>Pw.jnr h⟩
def jv1:FnD where
 N:=6
 np:=1
theorem jt2:aJ Qw:=
 cOf aM aN jv1 Qw Tryz.func6 e e
def Qx:Con:=⟨71,[.v .bool],[.bool],⟨[.v aG],[]⟩,[aG],λh=>Pw.jns h⟩
def jv2:FnD where
 N:=35
 np:=1
theorem jt3:aJ Qx:=
 cOf aM aN jv2 Qx Tryz.func71 e e
def Qy:Con:=⟨189,[.v bj],[bj],⟨[.v .str],[]⟩,[.str],λh=>Pw.ja2 h⟩
def jmq:FnD where
 N:=5
 np:=1
theorem jlf:aJ Qy:=
 cOf aM aN jmq Qy Tryz.func189 e e
def Qz:Con:=⟨307,[.v (.int .u8)],[(.int .u8)],⟨[.v .bool],[]⟩,[.bool],λh=>Pw.jet h⟩
def jt4:FnD where
 N:=9
 np:=1
theorem jqS:aJ Qz:=
 cOf aM aN jt4 Qz Tryz.func307 e e
def QA:Con:=⟨308,[.v (.int .u8)],[(.int .u8)],⟨[.v .bool],[]⟩,[.bool],λh=>Pw.jl1 h⟩
def jt5:FnD where
 N:=9
 np:=1
theorem jqT:aJ QA:=
 cOf aM aN jt5 QA Tryz.func308 e e
def QB:Con:=⟨250,[.v .str],[.str],⟨[.v .bool],[]⟩,[.bool],λh=>Pw.jh4 h⟩
def jv3:FnD where
 N:=43
 np:=1
 cs:=[Qz,QA]
 ds:=[⟨0,[sD .str,sI,sI],[.str,iT,iT],[⟨.ret,[sD .bool],[.bool]⟩,⟨.exit 0,[],[]⟩],Pw.unc3 (Pw.j64)⟩]
 keep:=[(0,⟨[0,19,20],[],[],[]⟩)]
 keepX:=[(0,.ret,⟨[2],[],[],[]⟩)]
theorem jt6:aJ QB:=
 cOf aM aN jv3 QB Tryz.func250 (ja jqS (ja jqT e)) (ja (λh=>by kernel_rfl) e)
def AZ:Con:=⟨191,[.v .str,.rl 4294967535 (.list (.pair .str .bool))],[.str,(.list (.pair .str .bool))],⟨[.v iT],[.rl (.list (.pair .str .bool))]⟩,[iT,(.list (.pair .str .bool))],Pw.unc2 Pw.j5r⟩
def jqU:FnD where
 N:=13
 np:=2
 cs:=[QB]
theorem Gk:aJ AZ:=
 cOf aM aN jqU AZ Tryz.func191 (ja jt6 e) e
def Gl:Con:=⟨328,[.v iT,.v iT,.v iT],[iT,iT,iT],⟨[.v .bool],[]⟩,[.bool],Pw.unc3 Pw.j9l⟩
def jC5:FnD where
 N:=15
 np:=3
theorem QC:aJ Gl:=
 cOf aM aN jC5 Gl Tryz.func328 e e
def QD:Con:=⟨337,[.v po],[po],⟨[.v iT],[]⟩,[iT],λh=>Pw.jcP h⟩
def jwV:FnD where
 N:=45
 np:=1
 cs:=[Gl]
theorem jv4:aJ QD:=
 cOf aM aN jwV QD Tryz.func337 (ja QC e) e
def QE:Con:=⟨342,[.v iT],[iT],⟨[.v .bool],[]⟩,[.bool],λh=>Pw.jnt h⟩
def jv5:FnD where
 N:=16
 np:=1
theorem jt7:aJ QE:=
 cOf aM aN jv5 QE Tryz.func342 e e
def Dk:Con:=⟨331,[.v iT,.v iT],[iT,iT],⟨[.v iT],[]⟩,[iT],Pw.unc2 Pw.j91⟩
def jv6:FnD where
 N:=24
 np:=2
 cs:=[QE]
theorem J9:aJ Dk:=
 cOf aM aN jv6 Dk Tryz.func331 (ja jt7 e) e
def QF:Con:=⟨343,[.v aT],[aT],⟨[.v .bool],[]⟩,[.bool],λh=>Pw.jeu h⟩
def jt8:FnD where
 N:=26
 np:=1
 cs:=[Dk]
theorem jqV:aJ QF:=
 cOf aM aN jt8 QF Tryz.func343 (ja J9 e) e
def Ka:Con:=⟨341,[.v iT,.v iT],[iT,iT],⟨[.v iT],[]⟩,[iT],Pw.unc2 Pw.jad⟩
def jt9:FnD where
 N:=16
 np:=2
theorem G_:aJ Ka:=
 cOf aM aN jt9 Ka Tryz.func341 e e
def Gm:Con:=⟨329,[.v iT],[iT],⟨[.v iT],[]⟩,[iT],λh=>Pw.j6x h⟩
def jta:FnD where
 N:=19
 np:=1
 cs:=[Ka]
theorem QG:aJ Gm:=
 cOf aM aN jta Gm Tryz.func329 (ja G_ e) e
def QH:Con:=⟨344,[.v aT],[aT],⟨[.v iT],[]⟩,[iT],λh=>Pw.jfI h⟩
def jqW:FnD where
 N:=25
 np:=1
 cs:=[Dk,Gm]
 ds:=[⟨0,[sB 64 0,sI,sI,.b (.cell [.d iT,.d iT,.d iT] false)],[iT,iT,iT,iT,iT],[⟨.exit 0,[sI],[iT]⟩],Pw.unc5 (Pw.j52)⟩]
 keep:=[(0,⟨[1,3,4],[64],[],[]⟩)]
 keepX:=[(0,.exit 0,⟨[3],[],[],[]⟩)]
theorem jpY:aJ QH:=
 cOf aM aN jqW QH Tryz.func344 (ja J9 (ja QG e)) (ja (λh=>by kernel_rfl) e)
def QI:Con:=⟨157,[.v iT],[iT],⟨[.v iT],[]⟩,[iT],λh=>Pw.j7i h⟩
def jpZ:FnD where
 N:=7
 np:=1
theorem jos:aJ QI:=
 cOf aM aN jpZ QI Tryz.func157 e e
def QJ:Con:=⟨338,[.v iT,.v iT,.v iT,.v iT],[iT,iT,iT,iT],⟨[.v iT,.v iT],[]⟩,[iT,iT],Pw.unc4 Pw.jm9⟩
def jwW:FnD where
 N:=59
 np:=4
 cs:=[Dk,QF,QH,QI]
theorem jv7:aJ QJ:=
 cOf aM aN jwW QJ Tryz.func338 (ja J9 (ja jqV (ja jpY (ja jos e)))) e
def Kb:Con:=⟨340,[.v aR,.v aR],[aR,aR],⟨[.v iT],[]⟩,[iT],Pw.unc2 Pw.j40⟩
def jjq:FnD where
 N:=10
 np:=2
theorem H_:aJ Kb:=
 cOf aM aN jjq Kb Tryz.func340 e e
def QK:Con:=⟨346,[.rl 349 af,.v iT,.v iT,.clo 340 []],[af,iT,iT],⟨[],[.rl af]⟩,[af],Pw.unc3 Pw.j0v⟩
def j74:FnD where
 N:=53
 np:=4
 cs:=[Kb]
 ds:=[⟨0,[sO 0,sI,sI,sC 340 [],sI,.b (.lst 349 aR false)],[iT,iT,iT,af],[⟨.exit 0,[.b (.lst 349 aR false)],[af]⟩],Pw.unc4 (Pw.j0h)⟩,⟨2,[sO 0,sI,sI,sC 340 [],sI,sI,.b (.lst 349 aR false)],[iT,iT,iT,iT,af],[⟨.exit 2,[sO 0,sI,sI,sC 340 [],sI,.b (.lst 349 aR false)],[iT,iT,iT,af]⟩],Pw.unc5 (Pw.j0u)⟩]
 keep:=[(0,⟨[0,1,2,3,8],[0],[],[]⟩),(2,⟨[0,1,2,3,8,9],[0],[],[]⟩)]
 keepX:=[(0,.exit 0,⟨[],[0],[],[]⟩),(2,.exit 2,⟨[0,1,2,3,8],[0],[],[]⟩)]
 dw:=[(6,[[],[],[],[],[],[],[],[],[],[],[],[],[],[],[],[0],[],[0]])]
theorem j6G:aJ QK:=
 cOf aM aN j74 QK Tryz.func346 (ja H_ e) (ja (λh=>by kernel_rfl) (ja (λh=>by kernel_rfl) e))
def QL:Con:=⟨349,[.rl 349 af,.v iT,.v iT,.v iT,.clo 340 []],[af,iT,iT,iT],⟨[],[.rl af]⟩,[af],Pw.unc4 Pw.j1m⟩
def j8j:FnD where
 N:=38
 np:=5
 ds:=[⟨0,[sO 0,sI,sI,sI,sI,.b (.lst 349 aR false)],[iT,iT,iT,iT,af],[⟨.exit 0,[.b (.lst 349 aR false)],[af]⟩],Pw.unc5 (Pw.j2J)⟩]
 keep:=[(0,⟨[0,1,2,3,10],[0],[],[]⟩)]
 keepX:=[(0,.exit 0,⟨[],[0],[],[]⟩)]
 dw:=[(3,[[],[],[],[],[],[],[],[],[],[],[],[],[],[],[],[],[],[],[],[],[],[0],[],[0]])]
theorem j7Z:aJ QL:=
 cOf aM aN j8j QL Tryz.func349 e (ja (λh=>by kernel_rfl) e)
end Go.Proofs.Pk
