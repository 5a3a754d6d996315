/- Contracts. -/
import Derived.Test.YtmccfdihkphfaaaGreatCECon10
open Bool renaming false->e
open _root_ renaming trivial->i,Option->j
noncomputable section
open Go Go.Lft
set_option linter.unusedVariables false
set_option maxRecDepth 100000
namespace Go.Proofs.Pk
def Rr:Con:=⟨136,[.v bc,.v bc],[bc,bc],⟨[.v .bool],[]⟩,[.bool],Pw.unc2 Pw.jhf⟩
def jvi:FnD where
 N:=32
 np:=2
theorem jti:aJ Rr:=
 cOf aM aN jvi Rr Tryz.func136 i i
def S_:Con:=⟨78,[.v ak],[ak],⟨[.v ak],[]⟩,[ak],λh=>Pw.jny h⟩
def Kp(g:HL [ak]->j (HL [ak])):Con:=⟨78,[.v ak],[ak],⟨[.v ak],[]⟩,[ak],g⟩
def jvj(g:HL [ak]->j (HL [ak])):FnD where
 N:=75
 np:=1
 cs:=[Kp g,Rr]
 ds:=[⟨0,[sD ak,sD ak,sO 1000000,sI,sI,.b (.lst 66 bc e)],[ak,ak,iT,iT,ak],[⟨.exit 0,[sO 1500100,.b (.lst 66 bc e)],[ak]⟩],Pw.unc5 (Pw.j6q (λv0=>g v0))⟩]
 keep:=[(0,⟨[3,4,5,6,7],[],[⟨1000000,66,bc,[.slot 5],e⟩],[]⟩)]
 keepX:=[(0,.exit 0,⟨[5],[],[⟨1500100,66,bc,[.slot 5],e⟩],[]⟩)]
theorem jq4(g:HL [ak]->j (HL [ak]))(hg:aJ (Kp g)):aJ (Kp (Pw.j4i g)):=
 cOf aM aN (jvj g) (Kp (Pw.j4i g)) Tryz.func78 (ja hg (ja jti i)) (ja (λh=>by kernel_rfl) i)
theorem jtj:aJ S_:=I5 (f:=78) (ps:=[.v ak]) (ts:=[ak]) (rp:=⟨[.v ak],[]⟩) (rs:=[ak]) (B:=Pw.j4i) jq4
def Rs:Con:=⟨29,[.v aG,.v iT,.v iT],[aG,iT,iT],⟨[.v ak,.v iT],[]⟩,[ak,iT],Pw.unc3 Pw.jam⟩
def jtk:FnD where
 N:=76
 np:=3
 cs:=[Gs,Dm,Kn,Rq,S_]
 ds:=[⟨0,[sI,sI,sB 192 0,sO 1000000,sI,.b (.cell [.d al,.d au,.d ar,.d ay] e),.b (.lst 48 aF e)],[iT,iT,iT,al,au,ar,ay,lD],[⟨.ret,[.s (.one (.nil)),sI],[iT]⟩,⟨.exit 0,[sO 1500100,.b (.lst 48 aF e)],[lD]⟩],Pw.unc8 (Pw.j5L)⟩,⟨2,[sO 1002000,sO 1002001,sI,.b (.lst 48 aF e),.b (.lst 66 bc e)],[iT,lD,ak],[⟨.exit 2,[sO 1502300,.b (.lst 66 bc e)],[ak]⟩],Pw.unc3 (Pw.j5N)⟩,⟨4,[sO 1004000,sO 1004001,sI,sI,.b (.lst 48 aF e),.b (.lst 66 bc e)],[iT,iT,lD,ak],[⟨.exit 4,[sO 1504500,sO 1504501,sI,.b (.lst 48 aF e),.b (.lst 66 bc e)],[iT,lD,ak]⟩],Pw.unc4 (Pw.j5M)⟩]
 keep:=[(0,⟨[1,2,3,8,9],[192],[⟨1000000,48,aF,[.slot 8],e⟩],[]⟩),(2,⟨[8,12,13],[],[⟨1002000,48,aF,[.slot 8],e⟩,⟨1002001,66,bc,[.slot 12],e⟩],[]⟩),(4,⟨[8,12,13,14],[],[⟨1004000,48,aF,[.slot 8],e⟩,⟨1004001,66,bc,[.slot 12],e⟩],[]⟩)]
 keepX:=[(0,.ret,⟨[6,7],[],[],[]⟩),(0,.exit 0,⟨[8],[],[⟨1500100,48,aF,[.slot 8],e⟩],[]⟩),(2,.exit 2,⟨[12],[],[⟨1502300,66,bc,[.slot 12],e⟩],[]⟩),(4,.exit 4,⟨[8,12,13],[],[⟨1504500,48,aF,[.slot 8],e⟩,⟨1504501,66,bc,[.slot 12],e⟩],[]⟩)]
 dw:=[(20,[[],[],[],[],[],[],[],[],[],[],[],[4416],[4480,1004001],[]])]
theorem jr0:aJ Rs:=
 cOf aM aN jtk Rs Tryz.func29 (ja Ru (ja Kh (ja Q_ (ja jx5 (ja jtj i))))) (ja (λh=>by kernel_rfl) (ja (λh=>by kernel_rfl) (ja (λh=>by kernel_rfl) i)))
def Rv:Con:=⟨23,[.v aG,.v iT,.v iT,.v iT,.v iT],[aG,iT,iT,iT,iT],⟨[.own 59 af,.v iT],[]⟩,[af,iT],Pw.unc5 Pw.jjp⟩
def jx6:FnD where
 N:=58
 np:=5
 cs:=[Kn]
 ds:=[⟨0,[sI,sO 1000000,sO 1000001,sI,.b (.lst 123 aT e),.b (.lst 59 aR e)],[iT,iT,aF,af],[⟨.exit 0,[sO 1500100,.b (.lst 59 aR e)],[af]⟩],Pw.unc4 (Pw.j73)⟩]
 keep:=[(0,⟨[2,12,14,15],[],[⟨1000000,123,aT,[.slot 12],e⟩,⟨1000001,59,aR,[.slot 14],e⟩],[]⟩)]
 keepX:=[(0,.exit 0,⟨[14],[],[⟨1500100,59,aR,[.slot 14],e⟩],[]⟩)]
 ro:=[true,e]
 dw:=[(9,[[],[],[],[],[],[],[],[],[],[],[],[],[3328],[3392,1000001],[]])]
theorem jvk:aJ Rv:=
 cOf aM aN jx6 Rv Tryz.func23 (ja Q_ i) (ja (λh=>by kernel_rfl) i)
def Kq:Con:=⟨31,[.v aG,.v iT,.v iT,.v iT],[aG,iT,iT,iT],⟨[.own 59 af,.v iT],[]⟩,[af,iT],Pw.unc4 Pw.jkd⟩
def jA2:FnD where
 N:=17
 np:=4
 cs:=[Rv]
 ro:=[true,e]
theorem T_:aJ Kq:=
 cOf aM aN jA2 Kq Tryz.func31 (ja jvk i) i
def Rw:Con:=⟨33,[.v aG,.v iT,.v iT,.v iT],[aG,iT,iT,iT],⟨[.v .bool],[]⟩,[.bool],Pw.unc4 Pw.jhW⟩
def jtl:FnD where
 N:=26
 np:=4
 cs:=[Kq]
theorem jr1:aJ Rw:=
 cOf aM aN jtl Rw Tryz.func33 (ja T_ i) i
def Rx:Con:=⟨143,[.v bj],[bj],⟨[.v iT],[]⟩,[iT],λh=>Pw.jle h⟩
def jtm:FnD where
 N:=24
 np:=1
 cs:=[uR]
theorem jr2:aJ Rx:=
 cOf aM aN jtm Rx Tryz.func143 (ja yC i) i
def Ry:Con:=⟨81,[.v bj],[bj],⟨[.v iT],[]⟩,[iT],λh=>Pw.jfZ h⟩
def jA3:FnD where
 N:=20
 np:=1
 cs:=[uR,Rx]
theorem jx7:aJ Ry:=
 cOf aM aN jA3 Ry Tryz.func81 (ja yC (ja jr2 i)) i
def Rz:Con:=⟨82,[.v bj,.v bE,.v iT],[bj,bE,iT],⟨[.v iT,.v iT],[]⟩,[iT,iT],Pw.unc3 Pw.jg0⟩
def jr3:FnD where
 N:=31
 np:=3
 cs:=[Gq,Gt]
theorem jq6:aJ Rz:=
 cOf aM aN jr3 Rz Tryz.func82 (ja Rc (ja RA i)) i
def Kr:Con:=⟨35,[.v aG,.v iT],[aG,iT],⟨[.v iT],[]⟩,[iT],Pw.unc2 Pw.j6z⟩
def jtn:FnD where
 N:=134
 np:=2
 cs:=[Gs,Gu,Ry,Rz]
 ds:=[⟨0,[sB 128 0,sB 320 0,sI,sI,.b (.cell [.d al,.d au,.d ar,.d ay] e),.b (.cell [.d .str,.d bh,.d ak] e)],[iT,iT,al,au,ar,ay,.str,bh,ak],[⟨.exit 0,[sB 320 0,sI,.b (.cell [.d .str,.d bh,.d ak] e)],[iT,.str,bh,ak]⟩],Pw.unc9 (Pw.j46)⟩,⟨2,[sB 320 0,sI,sI,.b (.cell [.d .str,.d bh,.d ak] e)],[iT,iT,.str,bh,ak],[⟨.exit 2,[sI],[iT]⟩],Pw.unc5 (Pw.j5O)⟩]
 keep:=[(0,⟨[2,5,6,7],[128,320],[],[]⟩),(2,⟨[5,6,15],[320],[],[]⟩)]
 keepX:=[(0,.exit 0,⟨[5,6],[320],[],[]⟩),(2,.exit 2,⟨[6],[],[],[]⟩)]
theorem U_:aJ Kr:=
 cOf aM aN jtn Kr Tryz.func35 (ja Ru (ja RB (ja jx7 (ja jq6 i)))) (ja (λh=>by kernel_rfl) (ja (λh=>by kernel_rfl) i))
def RC:Con:=⟨37,[.v aG,.v iT,.v iT],[aG,iT,iT],⟨[.v iT,.v .bool,.v iT],[]⟩,[iT,.bool,iT],Pw.unc3 Pw.jeU⟩
def jto:FnD where
 N:=59
 np:=3
 cs:=[Ko,Km,Kr]
 ds:=[⟨0,[sI,sI,sB 192 0,sI,.b (.cell [.d al,.d au,.d ar,.d ay] e)],[iT,iT,iT,al,au,ar,ay],[⟨.ret,[sI,sD .bool,sI],[iT,.bool,iT]⟩,⟨.exit 0,[],[]⟩],Pw.unc7 (Pw.j47)⟩,⟨2,[sI,sB 192 0,sI,sI,sO 1002000,sI,.b (.cell [.d al,.d au,.d ar,.d ay] e),.b (.lst 123 aT e)],[iT,iT,iT,iT,al,au,ar,ay,aF],[⟨.ret,[sI,sD .bool,sI],[iT,.bool,iT]⟩,⟨.exit 2,[sI,sB 192 0,sI,sI,.b (.cell [.d al,.d au,.d ar,.d ay] e)],[iT,iT,iT,al,au,ar,ay]⟩],Pw.unc9 (Pw.j5P)⟩]
 keep:=[(0,⟨[1,2,3,10],[192],[],[]⟩),(2,⟨[1,3,10,11,12,13],[192],[⟨1002000,123,aT,[.slot 12],e⟩],[]⟩)]
 keepX:=[(0,.ret,⟨[6,7,8],[],[],[]⟩),(2,.ret,⟨[6,7,8],[],[],[]⟩),(2,.exit 2,⟨[1,3,10,11],[192],[],[]⟩)]
theorem jr4:aJ RC:=
 cOf aM aN jto RC Tryz.func37 (ja R_ (ja P_ (ja U_ i))) (ja (λh=>by kernel_rfl) (ja (λh=>by kernel_rfl) i))
def V_:Con:=⟨4,[.v (.list iT),.v iT,.v iT,.v iT,.v iT],[(.list iT),iT,iT,iT,iT],⟨[.v .bool],[]⟩,[.bool],Pw.unc5 Pw.jan⟩
def jjA:FnD where
 N:=244
 np:=5
 cs:=[Qw,Ks,Gv,Kt,Ku,RD,RE,pq,Kv,RF,W_,RG,Rs,Kq,Rw,Kr,RC]
 ds:=[⟨0,[sI,sI,sI,sI,sB 2880 0,.s (.av 2 aG),sI,.b (.cell [.d (.list iT),.d iT] e)],[iT,iT,iT,iT,kE,iT,(.list iT),iT],[⟨.ret,[sD .bool],[.bool]⟩,⟨.exit 0,[],[]⟩],Pw.unc8 (Pw.j2m)⟩,⟨2,[sI,sI,sI,sI,sB 2880 0,sB 896 0,sI,.s (.av 2 aG),sI,.s (.av 2 (.arr 2 iT)),sI,.b (.cell [.d al,.d au,.d ar,.d ay] e),.b (.cell [.d (.list iT),.d iT] e)],[iT,iT,iT,iT,iT,kE,iT,AY,iT,al,au,ar,ay,(.list iT),iT],[⟨.ret,[sD .bool],[.bool]⟩,⟨.exit 2,[sI,sI,sI,sI,sB 2880 0,sB 896 0,sI,.s (.av 2 aG),sI,.b (.cell [.d al,.d au,.d ar,.d ay] e),.b (.cell [.d (.list iT),.d iT] e)],[iT,iT,iT,iT,iT,kE,iT,al,au,ar,ay,(.list iT),iT]⟩],Pw.u8 Pw.unc7 (Pw.j2l)⟩,⟨4,[sI,sI,sI,sI,sB 2880 0,sB 896 0,sI,sB 1088 0,sO 1004000,sD ak,.s (.av 2 aG),sI,.s (.av 2 (.arr 2 iT)),sI,sI,sI,.b (.cell [.d al,.d au,.d ar,.d ay] e),.b (.arr 2 iT),.b (.cell [.d (.list iT),.d iT] e),.b (.lst 66 bc e)],[iT,iT,iT,iT,iT,ak,kE,iT,AY,iT,iT,iT,al,au,ar,ay,(.list iT),(.list iT),iT,ak],[⟨.ret,[sD .bool],[.bool]⟩,⟨.exit 4,[sI,sI,sI,sI,sB 2880 0,sB 896 0,sI,sB 1088 0,.s (.av 2 aG),sI,.s (.av 2 (.arr 2 iT)),sI,.b (.cell [.d al,.d au,.d ar,.d ay] e),.b (.arr 2 iT),.b (.cell [.d (.list iT),.d iT] e)],[iT,iT,iT,iT,iT,kE,iT,AY,iT,al,au,ar,ay,(.list iT),(.list iT),iT]⟩],Pw.u8 (Pw.u8 Pw.unc4) (Pw.j2i)⟩,⟨6,[sI,sI,sI,sI,sB 2880 0,sB 896 0,sI,sB 1088 0,.s (.av 2 aG),sI,.s (.av 2 (.arr 2 iT)),sI,.s (.av 2 iT),sI,.b (.cell [.d al,.d au,.d ar,.d ay] e),.b (.arr 2 iT),.b (.cell [.d (.list iT),.d iT] e)],[iT,iT,iT,iT,iT,kE,iT,AY,iT,(.list iT),iT,al,au,ar,ay,(.list iT),(.list iT),iT],[⟨.ret,[sD .bool],[.bool]⟩,⟨.exit 6,[sI,sI,sI,sI,sB 2880 0,sB 896 0,sI,.s (.av 2 aG),sI,.s (.av 2 (.arr 2 iT)),sI,.b (.cell [.d al,.d au,.d ar,.d ay] e),.b (.cell [.d (.list iT),.d iT] e)],[iT,iT,iT,iT,iT,kE,iT,AY,iT,al,au,ar,ay,(.list iT),iT]⟩],Pw.u8 (Pw.u8 Pw.unc2) (Pw.j2k)⟩,⟨8,[sI,sI,sI,sI,sB 2880 0,sB 896 0,sI,sB 1088 0,sO 1008000,sO 1008001,.s (.av 2 aG),sI,.s (.av 2 (.arr 2 iT)),sI,.s (.av 2 iT),sI,sI,sI,.b (.cell [.d al,.d au,.d ar,.d ay] e),.b (.arr 2 iT),.b (.cell [.d (.list iT),.d iT] e),.b (.lst 59 aR e),.b (.lst 59 aR e)],[iT,iT,iT,iT,iT,kE,iT,AY,iT,(.list iT),iT,iT,iT,al,au,ar,ay,(.list iT),(.list iT),iT,af,af],[⟨.ret,[sD .bool],[.bool]⟩,⟨.exit 8,[sI,sI,sI,sI,sB 2880 0,sB 896 0,sI,sB 1088 0,.s (.av 2 aG),sI,.s (.av 2 (.arr 2 iT)),sI,.s (.av 2 iT),sI,.b (.cell [.d al,.d au,.d ar,.d ay] e),.b (.arr 2 iT),.b (.cell [.d (.list iT),.d iT] e)],[iT,iT,iT,iT,iT,kE,iT,AY,iT,(.list iT),iT,al,au,ar,ay,(.list iT),(.list iT),iT]⟩],Pw.u8 (Pw.u8 Pw.unc6) (Pw.j2j)⟩,⟨10,[sI,sI,sI,sI,sB 2880 0,sB 896 0,.s (.av 2 aG),sI,.s (.av 2 iT),sI,.b (.cell [.d al,.d au,.d ar,.d ay] e),.b (.cell [.d (.list iT),.d iT] e)],[iT,iT,iT,iT,kE,iT,(.list iT),iT,al,au,ar,ay,(.list iT),iT],[⟨.ret,[sD .bool],[.bool]⟩,⟨.exit 10,[sI,sI,sI,sI,sB 2880 0,.s (.av 2 aG),sI,.b (.cell [.d (.list iT),.d iT] e)],[iT,iT,iT,iT,kE,iT,(.list iT),iT]⟩],Pw.u8 Pw.unc6 (Pw.j24)⟩]
 keep:=[(0,⟨[1,2,3,4,11,52,53],[2880],[],[]⟩),(2,⟨[1,2,3,4,11,14,15,52,53,65,66],[896,2880],[],[]⟩),(4,⟨[1,2,3,4,11,14,15,17,18,20,52,53,65,66,98,99],[896,1088,2880],[⟨1004000,66,bc,[.slot 18],e⟩],[]⟩),(6,⟨[1,2,3,4,11,14,15,17,52,53,65,66,115,116],[896,1088,2880],[],[]⟩),(8,⟨[1,2,3,4,11,14,15,17,25,27,52,53,65,66,115,116,176,177],[896,1088,2880],[⟨1008000,59,aR,[.slot 25],e⟩,⟨1008001,59,aR,[.slot 27],e⟩],[]⟩),(10,⟨[1,2,3,4,11,14,52,53,194,195],[896,2880],[],[]⟩)]
 keepX:=[(0,.ret,⟨[10],[],[],[]⟩),(2,.ret,⟨[10],[],[],[]⟩),(2,.exit 2,⟨[1,2,3,4,11,14,15,52,53],[896,2880],[],[]⟩),(4,.ret,⟨[10],[],[],[]⟩),(4,.exit 4,⟨[1,2,3,4,11,14,15,17,52,53,65,66],[896,1088,2880],[],[]⟩),(6,.ret,⟨[10],[],[],[]⟩),(6,.exit 6,⟨[1,2,3,4,11,14,15,52,53,65,66],[896,2880],[],[]⟩),(8,.ret,⟨[10],[],[],[]⟩),(8,.exit 8,⟨[1,2,3,4,11,14,15,17,52,53,65,66,115,116],[896,1088,2880],[],[]⟩),(10,.ret,⟨[10],[],[],[]⟩),(10,.exit 10,⟨[1,2,3,4,11,52,53],[2880],[],[]⟩)]
 dw:=[(5,[[],[],[],[2880],[],[]])]
theorem law15_CoverageExact_ok:aJ V_:=
 cOf aM aN jjA V_ Tryz.func4 (ja jt2 (ja X_ (ja RH (ja Y_ (ja Z_ (ja jty (ja jvv (ja rj (ja Α (ja jlz (ja joJ (ja jlA (ja jr0 (ja T_ (ja jr1 (ja U_ (ja jr4 i))))))))))))))))) (ja (λh=>by kernel_rfl) (ja (λh=>by kernel_rfl) (ja (λh=>by kernel_rfl) (ja (λh=>by kernel_rfl) (ja (λh=>by kernel_rfl) (ja (λh=>by kernel_rfl) i))))))
end Go.Proofs.Pk
