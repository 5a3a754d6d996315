/- Contracts. -/
import Derived.Test.YtmccfdihkphfaaaGreatCECon9
open Bool renaming false->e,true->j
open _root_ renaming trivial->i,Option->k
noncomputable section
open Go Go.Lft
set_option linter.unusedVariables false
set_option maxRecDepth 100000
namespace Go.Proofs.Pk
def Q3:Con:=⟨99,[.v bj,.v af,.v iT,.v iT],[bj,af,iT,iT],⟨[.own 59 af,.v iT],[]⟩,[af,iT],Pw.unc4 Pw.jhd⟩
def jwX:FnD where
 N:=84
 np:=4
 cs:=[uR,Dl,Dm,Q4,Q5]
 ds:=[⟨0,[sD af,sI,sI,sB 256 0,sO 1000000,sO 1000001,sI,.b (.cell [.d .str,.d iT,.d bQ] e),.b (.lst 201 aR e),.b (.lst 59 aR e)],[af,iT,iT,iT,.str,iT,bQ,af,af],[⟨.exit 0,[sO 1500100,.b (.lst 59 aR e)],[af]⟩],Pw.unc9 (Pw.j72)⟩]
 modes:=[(154,[j,e])]
 keep:=[(0,⟨[1,2,3,4,10,12,13],[256],[⟨1000000,201,aR,[.slot 10],e⟩,⟨1000001,59,aR,[.slot 12],e⟩],[]⟩)]
 keepX:=[(0,.exit 0,⟨[12],[],[⟨1500100,59,aR,[.slot 12],e⟩],[]⟩)]
 ro:=[j,e]
 mvf:=[154]
theorem jvc:aJ Q3:=
 cOf aM aN jwX Q3 Tryz.func99 (ja yC (ja Kg (ja Kh (ja jvL (ja jxw i))))) (ja (λh=>by kernel_rfl) i)
def Q6:Con:=⟨244,[.v bj,.v aR],[bj,aR],⟨[.own 3 (.list iT),.v iT],[]⟩,[(.list iT),iT],Pw.unc2 Pw.j96⟩
def jq3:FnD where
 N:=81
 np:=2
 cs:=[yD,uR,Ki]
 ds:=[⟨0,[sB 128 0,sB 192 0,sO 1000000,sO 1000001,sI,.b (.cell [.d .str,.d iT,.d bQ] e),.b (.cell [.d iT,.d iT] e),.b (.lst 201 aR e),.b (.lst 3 iT e)],[iT,.str,iT,bQ,iT,iT,af,(.list iT)],[⟨.exit 0,[sO 1500100,.b (.lst 3 iT e)],[(.list iT)]⟩],Pw.unc8 (Pw.j4B)⟩]
 keep:=[(0,⟨[2,3,6,8,9],[128,192],[⟨1000000,201,aR,[.slot 6],e⟩,⟨1000001,3,iT,[.slot 8],e⟩],[]⟩)]
 keepX:=[(0,.exit 0,⟨[8],[],[⟨1500100,3,iT,[.slot 8],e⟩],[]⟩)]
 ro:=[j,e]
theorem jou:aJ Q6:=
 cOf aM aN jq3 Q6 Tryz.func244 (ja Dn (ja yC (ja L_ i))) (ja (λh=>by kernel_rfl) i)
def Q7:Con:=⟨182,[.v aG,.v bE,.v iT,.v iT],[aG,bE,iT,iT],⟨[.own 3 (.list iT)],[]⟩,[(.list iT)],Pw.unc4 Pw.jmm⟩
def jzS:FnD where
 N:=138
 np:=4
 cs:=[uR,Q8,Q3,Q6]
 ds:=[⟨0,[sB 256 0,sB 320 0,sO 1000000,sO 1000001,sI,.b (.cell [.d al,.d au,.d ar,.d ay] e),.b (.cell [.d .str,.d iT,.d iT,.d iT,.d iT,.d iT,.d (.list iT),.d af,.d iT,.d iT] e),.b (.lst 3 iT e),.b (.lst 59 aR e)],[iT,al,au,ar,ay,.str,iT,iT,iT,iT,iT,(.list iT),af,iT,iT,(.list iT),af],[⟨.exit 0,[sB 256 0,sB 320 0,sO 1500100,.b (.cell [.d al,.d au,.d ar,.d ay] e),.b (.cell [.d .str,.d iT,.d iT,.d iT,.d iT,.d iT,.d (.list iT),.d af,.d iT,.d iT] e),.b (.lst 3 iT e)],[al,au,ar,ay,.str,iT,iT,iT,iT,iT,(.list iT),af,iT,iT,(.list iT)]⟩],Pw.u8 Pw.unc9 (Pw.j7Q)⟩,⟨2,[sB 256 0,sO 1002000,sB 960 0,sO 1002001,sI,.b (.cell [.d al,.d au,.d ar,.d ay] e),.b (.cell [.d .str,.d iT,.d (.list iT)] e),.b (.lst 3 iT e),.b (.lst 201 aR e)],[iT,al,au,ar,ay,.str,iT,(.list iT),(.list iT),af],[⟨.exit 2,[sB 256 0,sO 1502300,sB 960 0,.b (.cell [.d al,.d au,.d ar,.d ay] e),.b (.cell [.d .str,.d iT,.d (.list iT)] e),.b (.lst 3 iT e)],[al,au,ar,ay,.str,iT,(.list iT),(.list iT)]⟩],Pw.u8 Pw.unc2 (Pw.j7R)⟩,⟨4,[sB 256 0,sO 1004000,sB 960 0,sI,.b (.cell [.d al,.d au,.d ar,.d ay] e),.b (.cell [.d .str,.d iT,.d (.list iT)] e),.b (.lst 3 iT e)],[iT,al,au,ar,ay,.str,iT,(.list iT),(.list iT)],[⟨.exit 4,[sO 1504500,.b (.lst 3 iT e)],[(.list iT)]⟩],Pw.unc9 (Pw.j7S)⟩,⟨6,[sB 256 0,sO 1006000,sB 960 0,sI,sI,.b (.cell [.d al,.d au,.d ar,.d ay] e),.b (.cell [.d .str,.d iT,.d (.list iT)] e),.b (.lst 3 iT e)],[iT,iT,al,au,ar,ay,.str,iT,(.list iT),(.list iT)],[⟨.exit 6,[sB 256 0,sO 1506700,sB 960 0,sI,.b (.cell [.d al,.d au,.d ar,.d ay] e),.b (.cell [.d .str,.d iT,.d (.list iT)] e),.b (.lst 3 iT e)],[iT,al,au,ar,ay,.str,iT,(.list iT),(.list iT)]⟩],Pw.u8 Pw.unc2 (Pw.j61)⟩]
 keep:=[(0,⟨[4,5,10,12,14],[256,320],[⟨1000000,3,iT,[.slot 10],e⟩,⟨1000001,59,aR,[.slot 12],e⟩],[]⟩),(2,⟨[4,10,15,16,18],[256,960],[⟨1002000,3,iT,[.slot 10],e⟩,⟨1002001,201,aR,[.slot 16],e⟩],[]⟩),(4,⟨[4,10,15,19],[256,960],[⟨1004000,3,iT,[.slot 10],e⟩],[]⟩),(6,⟨[4,10,15,19,20],[256,960],[⟨1006000,3,iT,[.slot 10],e⟩],[]⟩)]
 keepX:=[(0,.exit 0,⟨[4,5,10],[256,320],[⟨1500100,3,iT,[.slot 10],e⟩],[]⟩),(2,.exit 2,⟨[4,10,15],[256,960],[⟨1502300,3,iT,[.slot 10],e⟩],[]⟩),(4,.exit 4,⟨[10],[],[⟨1504500,3,iT,[.slot 10],e⟩],[]⟩),(6,.exit 6,⟨[4,10,15,19],[256,960],[⟨1506700,3,iT,[.slot 10],e⟩],[]⟩)]
 ro:=[j]
 dw:=[(9,[[],[],[],[],[],[],[],[],[],[],[],[4416],[4480,1000000],[]]),(24,[[],[],[],[],[],[],[],[],[],[],[],[],[],[],[8384],[],[],[],[],[]])]
theorem jwY:aJ Q7:=
 cOf aM aN jzS Q7 Tryz.func182 (ja yC (ja joM (ja jvc (ja jou i)))) (ja (λh=>by kernel_rfl) (ja (λh=>by kernel_rfl) (ja (λh=>by kernel_rfl) (ja (λh=>by kernel_rfl) i))))
def M_:Con:=⟨102,[.v (.list iT)],[(.list iT)],⟨[.own 3 (.list iT)],[]⟩,[(.list iT)],λh=>Pw.jsZ h⟩
def Kj(g:HL [(.list iT)]->k (HL [(.list iT)])):Con:=⟨102,[.v (.list iT)],[(.list iT)],⟨[.own 3 (.list iT)],[]⟩,[(.list iT)],g⟩
def jzT(g:HL [(.list iT)]->k (HL [(.list iT)])):FnD where
 N:=88
 np:=1
 cs:=[Kj g]
 ds:=[⟨0,[sO 1000000,sO 1000001,sO 1000002,sI,sI,.b (.lst 3 iT e),.b (.lst 3 iT e),.b (.lst 3 iT e)],[iT,iT,(.list iT),(.list iT),(.list iT)],[⟨.exit 0,[sO 1500100,.b (.lst 3 iT e)],[(.list iT)]⟩],Pw.unc5 (Pw.j7T (λv0=>g v0))⟩]
 keep:=[(0,⟨[3,4,5,6,7],[],[⟨1000000,3,iT,[.slot 3],e⟩,⟨1000001,3,iT,[.slot 4],e⟩,⟨1000002,3,iT,[.slot 5],e⟩],[]⟩)]
 keepX:=[(0,.exit 0,⟨[3],[],[⟨1500100,3,iT,[.slot 3],e⟩],[]⟩)]
 ro:=[j]
 dw:=[(4,[[],[],[],[],[],[1280],[],[],[],[],[],[1664],[],[]])]
theorem jtd(g:HL [(.list iT)]->k (HL [(.list iT)]))(hg:aJ (Kj g)):aJ (Kj (Pw.j6n g)):=
 cOf aM aN (jzT g) (Kj (Pw.j6n g)) Tryz.func102 (ja hg i) (ja (λh=>by kernel_rfl) i)
theorem jwZ:aJ M_:=I5 (f:=102) (ps:=[.v (.list iT)]) (ts:=[(.list iT)]) (rp:=⟨[.own 3 (.list iT)],[]⟩) (rs:=[(.list iT)]) (B:=Pw.j6n) jtd
def Q9:Con:=⟨151,[.v (.list iT),.v iT,.v iT],[(.list iT),iT,iT],⟨[.own 3 (.list iT)],[]⟩,[(.list iT)],Pw.unc3 Pw.jhS⟩
def jte:FnD where
 N:=49
 np:=3
 cs:=[M_]
 ds:=[⟨0,[sI,sI,sO 1000000,sO 1000001,sI,.b (.lst 3 iT e),.b (.lst 3 iT e)],[iT,iT,iT,(.list iT),(.list iT)],[⟨.exit 0,[sI,sI,sO 1500100,.b (.lst 3 iT e)],[iT,iT,(.list iT)]⟩],Pw.unc5 (Pw.j5K)⟩]
 keep:=[(0,⟨[1,2,7,8,9],[],[⟨1000000,3,iT,[.slot 7],e⟩,⟨1000001,3,iT,[.slot 8],e⟩],[]⟩)]
 keepX:=[(0,.exit 0,⟨[1,2,7],[],[⟨1500100,3,iT,[.slot 7],e⟩],[]⟩)]
 ro:=[j]
theorem jqY:aJ Q9:=
 cOf aM aN jte Q9 Tryz.func151 (ja jwZ i) (ja (λh=>by kernel_rfl) i)
def Ra:Con:=⟨125,[.v aG,.v iT,.v iT,.v iT],[aG,iT,iT,iT],⟨[.own 3 (.list iT)],[]⟩,[(.list iT)],Pw.unc4 Pw.jp1⟩
def jzU:FnD where
 N:=62
 np:=4
 cs:=[Q7,Q9]
 ds:=[⟨0,[sI,sI,sB 256 0,sB 576 0,sO 1000000,sI,.b (.cell [.d al,.d au,.d ar,.d ay] e),.b (.cell [.d .str,.d bh,.d ak] e),.b (.lst 3 iT e)],[iT,iT,iT,al,au,ar,ay,.str,bh,ak,(.list iT)],[⟨.exit 0,[sI,sI,sB 576 0,sO 1500100,.b (.cell [.d .str,.d bh,.d ak] e),.b (.lst 3 iT e)],[iT,iT,.str,bh,ak,(.list iT)]⟩],Pw.u8 Pw.unc3 (Pw.j7U)⟩,⟨2,[sI,sI,sB 576 0,sO 1002000,sI,.b (.cell [.d .str,.d bh,.d ak] e),.b (.lst 3 iT e)],[iT,iT,iT,.str,bh,ak,(.list iT)],[⟨.exit 2,[sI,sI,sO 1502300,.b (.lst 3 iT e)],[iT,iT,(.list iT)]⟩],Pw.unc7 (Pw.j7V)⟩]
 keep:=[(0,⟨[2,3,4,9,10,11],[256,576],[⟨1000000,3,iT,[.slot 10],e⟩],[]⟩),(2,⟨[2,3,9,10,12],[576],[⟨1002000,3,iT,[.slot 10],e⟩],[]⟩)]
 keepX:=[(0,.exit 0,⟨[2,3,9,10],[576],[⟨1500100,3,iT,[.slot 10],e⟩],[]⟩),(2,.exit 2,⟨[2,3,10],[],[⟨1502300,3,iT,[.slot 10],e⟩],[]⟩)]
 ro:=[j]
 dw:=[(6,[[],[],[],[],[],[],[],[],[],[2176],[2240,1000000],[]]),(10,[[],[],[],[],[],[],[],[],[],[],[],[],[],[3584],[3648,1002000],[]])]
theorem jx0:aJ Ra:=
 cOf aM aN jzU Ra Tryz.func125 (ja jwY (ja jqY i)) (ja (λh=>by kernel_rfl) (ja (λh=>by kernel_rfl) i))
def Rb:Con:=⟨295,[.v bj,.v bE,.v iT],[bj,bE,iT],⟨[.v iT,.v iT],[]⟩,[iT,iT],Pw.unc3 Pw.jjn⟩
def jx1:FnD where
 N:=22
 np:=3
 cs:=[Gq,Kk]
theorem jvd:aJ Rb:=
 cOf aM aN jx1 Rb Tryz.func295 (ja Rc (ja N_ i)) i
def Re:Con:=⟨160,[.v bj,.v iT],[bj,iT],⟨[.v iT,.v iT],[]⟩,[iT,iT],Pw.unc2 Pw.jem⟩
def jve:FnD where
 N:=19
 np:=2
 cs:=[Gr,Kl]
theorem jtf:aJ Re:=
 cOf aM aN jve Re Tryz.func160 (ja Rf (ja O_ i)) i
def Rg:Con:=⟨161,[.v af,.v iT],[af,iT],⟨[.v .bool],[]⟩,[.bool],Pw.unc2 Pw.jka⟩
def jvf:FnD where
 N:=28
 np:=2
 ds:=[⟨0,[sD af,sI,sI],[af,iT,iT],[⟨.ret,[sD .bool],[.bool]⟩,⟨.exit 0,[],[]⟩],Pw.unc3 (Pw.j6o)⟩]
 keep:=[(0,⟨[0,1,5],[],[],[]⟩)]
 keepX:=[(0,.ret,⟨[4],[],[],[]⟩)]
theorem jtg:aJ Rg:=
 cOf aM aN jvf Rg Tryz.func161 i (ja (λh=>by kernel_rfl) i)
def Rh:Con:=⟨106,[.v bj,.v af,.v iT],[bj,af,iT],⟨[.v .bool],[]⟩,[.bool],Pw.unc3 Pw.jv0⟩
def jEq:FnD where
 N:=27
 np:=3
 cs:=[Dl,Re,Rg]
theorem jC6:aJ Rh:=
 cOf aM aN jEq Rh Tryz.func106 (ja Kg (ja jtf (ja jtg i))) i
def Ri:Con:=⟨242,[.v aG,.v bE,.v iT],[aG,bE,iT],⟨[.v iT,.v .bool],[]⟩,[iT,.bool],Pw.unc3 Pw.jmn⟩
def jzV:FnD where
 N:=94
 np:=3
 cs:=[Gr,Rb,Rh]
 ds:=[⟨0,[sB 256 0,sI,sB 704 0,sB 768 0,sD .bool,sI,.b (.cell [.d .str,.d iT,.d iT,.d iT,.d iT,.d iT,.d (.list iT),.d af,.d iT,.d iT] e),.b (.cell [.d .str,.d iT,.d (.list iT)] e),.b (.cell [.d iT,.d iT] e)],[iT,.bool,iT,.str,iT,iT,iT,iT,iT,(.list iT),af,iT,iT,.str,iT,(.list iT),iT,iT],[⟨.exit 0,[sB 256 0,sI,sD .bool,.b (.cell [.d .str,.d iT,.d iT,.d iT,.d iT,.d iT,.d (.list iT),.d af,.d iT,.d iT] e)],[iT,.bool,.str,iT,iT,iT,iT,iT,(.list iT),af,iT,iT]⟩],Pw.u8 (Pw.u8 Pw.unc2) (Pw.j7W)⟩]
 keep:=[(0,⟨[4,9,11,12,14,15],[256,704,768],[],[]⟩)]
 keepX:=[(0,.exit 0,⟨[4,9,14],[256],[],[]⟩)]
theorem jx2:aJ Ri:=
 cOf aM aN jzV Ri Tryz.func242 (ja Rf (ja jvd (ja jC6 i))) (ja (λh=>by kernel_rfl) i)
def Rj:Con:=⟨180,[.v aG,.v bE,.v iT],[aG,bE,iT],⟨[.v iT],[]⟩,[iT],Pw.unc3 Pw.jpW⟩
def jC7:FnD where
 N:=27
 np:=3
 cs:=[Ri]
theorem jzW:aJ Rj:=
 cOf aM aN jC7 Rj Tryz.func180 (ja jx2 i) i
def Rl:Con:=⟨181,[.v cD,.v iT,.v iT],[cD,iT,iT],⟨[.v .bool],[]⟩,[.bool],Pw.unc3 Pw.jp2⟩
def jzX:FnD where
 N:=42
 np:=3
 ds:=[⟨0,[sI,sI,sB 192 0,sI,.b (.cell [.d .str,.d bh,.d ak] e)],[iT,iT,iT,.str,bh,ak],[⟨.ret,[sD .bool],[.bool]⟩,⟨.exit 0,[],[]⟩],Pw.unc6 (Pw.j7X)⟩]
 keep:=[(0,⟨[1,2,3,7],[192],[],[]⟩)]
 keepX:=[(0,.ret,⟨[6],[],[],[]⟩)]
theorem jx3:aJ Rl:=
 cOf aM aN jzX Rl Tryz.func181 i (ja (λh=>by kernel_rfl) i)
def Rm:Con:=⟨123,[.v aG,.v iT,.v iT],[aG,iT,iT],⟨[.v iT,.v iT],[]⟩,[iT,iT],Pw.unc3 Pw.jt0⟩
def jC8:FnD where
 N:=43
 np:=3
 cs:=[Rj,Rl]
 ds:=[⟨0,[sI,sB 192 0,sB 512 0,sI,.b (.cell [.d al,.d au,.d ar,.d ay] e),.b (.cell [.d .str,.d bh,.d ak] e)],[iT,iT,al,au,ar,ay,.str,bh,ak],[⟨.ret,[sI,sI],[iT,iT]⟩,⟨.exit 0,[],[]⟩],Pw.unc9 (Pw.j8O)⟩]
 keep:=[(0,⟨[2,3,8,9],[192,512],[],[]⟩)]
 keepX:=[(0,.ret,⟨[6,7],[],[],[]⟩)]
theorem jzY:aJ Rm:=
 cOf aM aN jC8 Rm Tryz.func123 (ja jzW (ja jx3 i)) (ja (λh=>by kernel_rfl) i)
def Rn:Con:=⟨124,[.v ak,.v iT,.v iT],[ak,iT,iT],⟨[.v iT],[]⟩,[iT],Pw.unc3 Pw.jt1⟩
def jzZ:FnD where
 N:=61
 np:=3
 ds:=[⟨0,[sD ak,sI,sI,sI],[ak,iT,iT,iT],[⟨.exit 0,[sI],[iT]⟩],Pw.unc4 (Pw.j7Y)⟩]
 keep:=[(0,⟨[0,1,2,7],[],[],[]⟩)]
 keepX:=[(0,.exit 0,⟨[1],[],[],[]⟩)]
theorem jx4:aJ Rn:=
 cOf aM aN jzZ Rn Tryz.func124 i (ja (λh=>by kernel_rfl) i)
def Ro:Con:=⟨64,[.v aG,.v iT,.v iT],[aG,iT,iT],⟨[.v iT],[]⟩,[iT],Pw.unc3 Pw.jpX⟩
def jC9:FnD where
 N:=25
 np:=3
 cs:=[Rm,Rn]
theorem jA0:aJ Ro:=
 cOf aM aN jC9 Ro Tryz.func64 (ja jzY (ja jx4 i)) i
def Rp:Con:=⟨126,[.mv 123 aF,.v aT],[aF,aT],⟨[.own 123 aF],[]⟩,[aF],Pw.unc2 Pw.jkc⟩
def jvg:FnD where
 N:=50
 np:=2
 ro:=[j]
theorem jth:aJ Rp:=
 cOf aM aN jvg Rp Tryz.func126 i i
def Km:Con:=⟨65,[.v aG,.v iT,.v iT,.v iT],[aG,iT,iT,iT],⟨[.own 123 aF],[]⟩,[aF],Pw.unc4 Pw.jen⟩
def jvh:FnD where
 N:=44
 np:=4
 cs:=[Ra,Ro,Rp]
 ds:=[⟨0,[sI,sB 256 0,sO 1000000,sO 1000001,sI,.b (.cell [.d al,.d au,.d ar,.d ay] e),.b (.lst 3 iT e),.b (.lst 123 aT e)],[iT,iT,al,au,ar,ay,(.list iT),aF],[⟨.exit 0,[sO 1500100,.b (.lst 123 aT e)],[aF]⟩],Pw.unc8 (Pw.j6p)⟩]
 modes:=[(126,[j,e])]
 keep:=[(0,⟨[1,4,9,10,11],[256],[⟨1000000,3,iT,[.slot 9],e⟩,⟨1000001,123,aT,[.slot 10],e⟩],[]⟩)]
 keepX:=[(0,.exit 0,⟨[10],[],[⟨1500100,123,aT,[.slot 10],e⟩],[]⟩)]
 ro:=[j]
 dw:=[(6,[[],[],[],[],[],[],[],[],[],[],[],[],[],[],[],[],[],[],[2688,1000001],[]])]
 mvf:=[126]
theorem P_:aJ Km:=
 cOf aM aN jvh Km Tryz.func65 (ja jx0 (ja jA0 (ja jth i))) (ja (λh=>by kernel_rfl) i)
def Kn:Con:=⟨19,[.v aG,.v iT,.v iT,.v iT],[aG,iT,iT,iT],⟨[.own 123 aF,.v iT],[]⟩,[aF,iT],Pw.unc4 Pw.j7d⟩
def jqZ:FnD where
 N:=29
 np:=4
 cs:=[Ko,Km]
 ro:=[j,e]
theorem Q_:aJ Kn:=
 cOf aM aN jqZ Kn Tryz.func19 (ja R_ (ja P_ i)) i
def Rq:Con:=⟨77,[.v iT,.v iT,.v aF,.v aF],[iT,iT,aF,aF],⟨[.own 66 ak],[]⟩,[ak],Pw.unc4 Pw.jmp⟩
def jA1:FnD where
 N:=99
 np:=4
 ds:=[⟨0,[sI,sI,sD aF,sD aF,sO 1000000,sI,sI,.b (.lst 66 bc e)],[iT,iT,aF,aF,iT,iT,ak],[⟨.exit 0,[sO 1500100,.b (.lst 66 bc e)],[ak]⟩],Pw.unc7 (Pw.j62)⟩]
 keep:=[(0,⟨[0,1,2,3,9,10,11],[],[⟨1000000,66,bc,[.slot 9],e⟩],[]⟩)]
 keepX:=[(0,.exit 0,⟨[9],[],[⟨1500100,66,bc,[.slot 9],e⟩],[]⟩)]
 ro:=[j]
theorem jx5:aJ Rq:=
 cOf aM aN jA1 Rq Tryz.func77 i (ja (λh=>by kernel_rfl) i)
end Go.Proofs.Pk
