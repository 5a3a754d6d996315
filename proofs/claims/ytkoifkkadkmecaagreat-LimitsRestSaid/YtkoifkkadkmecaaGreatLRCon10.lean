/- cB: each given function is its plain function, printed by a program. -/
import Derived.Test.YtkoifkkadkmecaaGreatLRCon9
open Bool renaming false->e,true->j
open _root_ renaming trivial->i,Option->k
noncomputable section
open Go Go.Lft
set_option linter.unusedVariables false
set_option maxRecDepth 100000
namespace Go.Proofs.Pk
def Ps:Con:=⟨261,[.v br,.v aa,.v iT],[br,aa,iT],⟨[.v .bool],[]⟩,[.bool],Pw.unc3 Pw.jt8⟩
def jCb:FnD where
 N:=27
 np:=3
 cs:=[CO,Pt,Pu]
theorem jzS:aH Ps:=
 cOf aK aM jCb Ps Tryz.func261 (ja Ke (ja jrQ (ja jrR i))) i
def Pv:Con:=⟨246,[.v bk,.v bT,.v iT],[bk,bT,iT],⟨[.v iT,.v .bool],[]⟩,[iT,.bool],Pw.unc3 Pw.jle⟩
def jxS:FnD where
 N:=94
 np:=3
 cs:=[Gr,Px,Ps]
 ds:=[⟨0,[sB 256 0,sI,sB 704 0,sB 768 0,sD .bool,sI,.b (.cell [.d .str,.d iT,.d iT,.d iT,.d iT,.d iT,.d (.list iT),.d aa,.d iT,.d iT] e),.b (.cell [.d .str,.d iT,.d (.list iT)] e),.b (.cell [.d iT,.d iT] e)],[iT,.bool,iT,.str,iT,iT,iT,iT,iT,(.list iT),aa,iT,iT,.str,iT,(.list iT),iT,iT],[⟨.exit 0,[sB 256 0,sI,sD .bool,.b (.cell [.d .str,.d iT,.d iT,.d iT,.d iT,.d iT,.d (.list iT),.d aa,.d iT,.d iT] e)],[iT,.bool,.str,iT,iT,iT,iT,iT,(.list iT),aa,iT,iT]⟩],Pw.u8 (Pw.u8 Pw.unc2) (Pw.j7T)⟩]
 keep:=[(0,⟨[4,9,11,12,14,15],[256,704,768],[],[]⟩)]
 keepX:=[(0,.exit 0,⟨[4,9,14],[256],[],[]⟩)]
theorem juR:aH Pv:=
 cOf aK aM jxS Pv Tryz.func246 (ja Py (ja jtM (ja jzS i))) (ja (λh=>by kernel_rfl) i)
def Pz:Con:=⟨213,[.v bk,.v bT,.v iT],[bk,bT,iT],⟨[.v iT],[]⟩,[iT],Pw.unc3 Pw.jon⟩
def jzT:FnD where
 N:=27
 np:=3
 cs:=[Pv]
theorem jxT:aH Pz:=
 cOf aK aM jzT Pz Tryz.func213 (ja juR i) i
def PA:Con:=⟨214,[.v cZ,.v iT,.v iT],[cZ,iT,iT],⟨[.v .bool],[]⟩,[.bool],Pw.unc3 Pw.jnr⟩
def jxU:FnD where
 N:=42
 np:=3
 ds:=[⟨0,[sI,sI,sB 192 0,sI,.b (.cell [.d .str,.d bM,.d an] e)],[iT,iT,iT,.str,bM,an],[⟨.ret,[sD .bool],[.bool]⟩,⟨.exit 0,[],[]⟩],Pw.unc6 (Pw.j7U)⟩]
 keep:=[(0,⟨[1,2,3,7],[192],[],[]⟩)]
 keepX:=[(0,.ret,⟨[6],[],[],[]⟩)]
theorem juS:aH PA:=
 cOf aK aM jxU PA Tryz.func214 i (ja (λh=>by kernel_rfl) i)
def PB:Con:=⟨165,[.v bk,.v iT,.v iT],[bk,iT,iT],⟨[.v iT,.v iT],[]⟩,[iT,iT],Pw.unc3 Pw.jrh⟩
def jzU:FnD where
 N:=43
 np:=3
 cs:=[Pz,PA]
 ds:=[⟨0,[sI,sB 192 0,sB 512 0,sI,.b (.cell [.d ax,.d az,.d ay,.d aC] e),.b (.cell [.d .str,.d bM,.d an] e)],[iT,iT,ax,az,ay,aC,.str,bM,an],[⟨.ret,[sI,sI],[iT,iT]⟩,⟨.exit 0,[],[]⟩],Pw.unc9 (Pw.j8E)⟩]
 keep:=[(0,⟨[2,3,8,9],[192,512],[],[]⟩)]
 keepX:=[(0,.ret,⟨[6,7],[],[],[]⟩)]
theorem jxV:aH PB:=
 cOf aK aM jzU PB Tryz.func165 (ja jxT (ja juS i)) (ja (λh=>by kernel_rfl) i)
def PC:Con:=⟨166,[.v an,.v iT,.v iT],[an,iT,iT],⟨[.v iT],[]⟩,[iT],Pw.unc3 Pw.jri⟩
def jxW:FnD where
 N:=61
 np:=3
 ds:=[⟨0,[sD an,sI,sI,sI],[an,iT,iT,iT],[⟨.exit 0,[sI],[iT]⟩],Pw.unc4 (Pw.j7V)⟩]
 keep:=[(0,⟨[0,1,2,7],[],[],[]⟩)]
 keepX:=[(0,.exit 0,⟨[1],[],[],[]⟩)]
theorem juT:aH PC:=
 cOf aK aM jxW PC Tryz.func166 i (ja (λh=>by kernel_rfl) i)
def PD:Con:=⟨120,[.v bk,.v iT,.v iT],[bk,iT,iT],⟨[.v iT],[]⟩,[iT],Pw.unc3 Pw.joo⟩
def jzV:FnD where
 N:=25
 np:=3
 cs:=[PB,PC]
theorem jxX:aH PD:=
 cOf aK aM jzV PD Tryz.func120 (ja jxV (ja juT i)) i
def PE:Con:=⟨119,[.mv 143 au,.v aJ],[au,aJ],⟨[.own 143 au],[]⟩,[au],Pw.unc2 Pw.jjd⟩
def jtj:FnD where
 N:=50
 np:=2
 ro:=[j]
theorem jrv:aH PE:=
 cOf aK aM jtj PE Tryz.func119 i i
def PF:Con:=⟨69,[.v bk,.v iT,.v iT,.v iT],[bk,iT,iT,iT],⟨[.own 143 au],[]⟩,[au],Pw.unc4 Pw.jje⟩
def jtk:FnD where
 N:=44
 np:=4
 cs:=[PG,PD,PE]
 ds:=[⟨0,[sI,sB 256 0,sO 1000000,sO 1000001,sI,.b (.cell [.d ax,.d az,.d ay,.d aC] e),.b (.lst 3 iT e),.b (.lst 143 aJ e)],[iT,iT,ax,az,ay,aC,(.list iT),au],[⟨.exit 0,[sO 1500100,.b (.lst 143 aJ e)],[au]⟩],Pw.unc8 (Pw.j6f)⟩]
 modes:=[(119,[j,e])]
 keep:=[(0,⟨[1,4,9,10,11],[256],[⟨1000000,3,iT,[.slot 9],e⟩,⟨1000001,143,aJ,[.slot 10],e⟩],[]⟩)]
 keepX:=[(0,.exit 0,⟨[10],[],[⟨1500100,143,aJ,[.slot 10],e⟩],[]⟩)]
 ro:=[j]
 dw:=[(6,[[],[],[],[],[],[],[],[],[],[],[],[],[],[],[],[],[],[],[2688,1000001],[]])]
 mvf:=[119]
theorem jrw:aH PF:=
 cOf aK aM jtk PF Tryz.func69 (ja jvp (ja jxX (ja jrv i))) (ja (λh=>by kernel_rfl) i)
def PH:Con:=⟨38,[.v bk,.v iT,.v iT,.v iT],[bk,iT,iT,iT],⟨[.own 143 au,.v iT],[]⟩,[au,iT],Pw.unc4 Pw.jcI⟩
def jpr:FnD where
 N:=29
 np:=4
 cs:=[PI,PF]
 ro:=[j,e]
theorem jou:aH PH:=
 cOf aK aM jpr PH Tryz.func38 (ja jtH (ja jrw i)) i
def PJ:Con:=⟨39,[.v iT,.v iT,.v au,.v au],[iT,iT,au,au],⟨[.own 60 an],[]⟩,[an],Pw.unc4 Pw.jns⟩
def jxY:FnD where
 N:=99
 np:=4
 ds:=[⟨0,[sI,sI,sD au,sD au,sO 1000000,sI,sI,.b (.lst 60 bg e)],[iT,iT,au,au,iT,iT,an],[⟨.exit 0,[sO 1500100,.b (.lst 60 bg e)],[an]⟩],Pw.unc7 (Pw.j7W)⟩]
 keep:=[(0,⟨[0,1,2,3,9,10,11],[],[⟨1000000,60,bg,[.slot 9],e⟩],[]⟩)]
 keepX:=[(0,.exit 0,⟨[9],[],[⟨1500100,60,bg,[.slot 9],e⟩],[]⟩)]
 ro:=[j]
theorem juU:aH PJ:=
 cOf aK aM jxY PJ Tryz.func39 i (ja (λh=>by kernel_rfl) i)
def PK:Con:=⟨70,[.v bg,.v bg],[bg,bg],⟨[.v .bool],[]⟩,[.bool],Pw.unc2 Pw.jgk⟩
def jtl:FnD where
 N:=32
 np:=2
theorem jrx:aH PK:=
 cOf aK aM jtl PK Tryz.func70 i i
def ZM:Con:=⟨40,[.v an],[an],⟨[.v an],[]⟩,[an],λh=>Pw.jma h⟩
def Kf(g:HL [an]->k (HL [an])):Con:=⟨40,[.v an],[an],⟨[.v an],[]⟩,[an],g⟩
def jtm(g:HL [an]->k (HL [an])):FnD where
 N:=75
 np:=1
 cs:=[Kf g,PK]
 ds:=[⟨0,[sD an,sD an,sO 1000000,sI,sI,.b (.lst 60 bg e)],[an,an,iT,iT,an],[⟨.exit 0,[sO 1500100,.b (.lst 60 bg e)],[an]⟩],Pw.unc5 (Pw.j6g (λv0=>g v0))⟩]
 keep:=[(0,⟨[3,4,5,6,7],[],[⟨1000000,60,bg,[.slot 5],e⟩],[]⟩)]
 keepX:=[(0,.exit 0,⟨[5],[],[⟨1500100,60,bg,[.slot 5],e⟩],[]⟩)]
theorem jov(g:HL [an]->k (HL [an]))(hg:aH (Kf g)):aH (Kf (Pw.j3Y g)):=
 cOf aK aM (jtm g) (Kf (Pw.j3Y g)) Tryz.func40 (ja hg (ja jrx i)) (ja (λh=>by kernel_rfl) i)
theorem jry:aH ZM:=NZ (f:=40) (ps:=[.v an]) (ts:=[an]) (rp:=⟨[.v an],[]⟩) (rs:=[an]) (B:=Pw.j3Y) jov
def PL:Con:=⟨12,[.v bk,.v iT,.v iT],[bk,iT,iT],⟨[.v an,.v iT],[]⟩,[an,iT],Pw.unc3 Pw.jeo⟩
def jrz:FnD where
 N:=76
 np:=3
 cs:=[Kg,CP,PH,PJ,ZM]
 ds:=[⟨0,[sI,sI,sB 192 0,sO 1000000,sI,.b (.cell [.d ax,.d az,.d ay,.d aC] e),.b (.lst 103 au e)],[iT,iT,iT,ax,az,ay,aC,kX],[⟨.ret,[.s (.one (.nil)),sI],[iT]⟩,⟨.exit 0,[sO 1500100,.b (.lst 103 au e)],[kX]⟩],Pw.unc8 (Pw.j5z)⟩,⟨2,[sO 1002000,sO 1002001,sI,.b (.lst 103 au e),.b (.lst 60 bg e)],[iT,kX,an],[⟨.exit 2,[sO 1502300,.b (.lst 60 bg e)],[an]⟩],Pw.unc3 (Pw.j5B)⟩,⟨4,[sO 1004000,sO 1004001,sI,sI,.b (.lst 103 au e),.b (.lst 60 bg e)],[iT,iT,kX,an],[⟨.exit 4,[sO 1504500,sO 1504501,sI,.b (.lst 103 au e),.b (.lst 60 bg e)],[iT,kX,an]⟩],Pw.unc4 (Pw.j5A)⟩]
 keep:=[(0,⟨[1,2,3,8,9],[192],[⟨1000000,103,au,[.slot 8],e⟩],[]⟩),(2,⟨[8,12,13],[],[⟨1002000,103,au,[.slot 8],e⟩,⟨1002001,60,bg,[.slot 12],e⟩],[]⟩),(4,⟨[8,12,13,14],[],[⟨1004000,103,au,[.slot 8],e⟩,⟨1004001,60,bg,[.slot 12],e⟩],[]⟩)]
 keepX:=[(0,.ret,⟨[6,7],[],[],[]⟩),(0,.exit 0,⟨[8],[],[⟨1500100,103,au,[.slot 8],e⟩],[]⟩),(2,.exit 2,⟨[12],[],[⟨1502300,60,bg,[.slot 12],e⟩],[]⟩),(4,.exit 4,⟨[8,12,13],[],[⟨1504500,103,au,[.slot 8],e⟩,⟨1504501,60,bg,[.slot 12],e⟩],[]⟩)]
 dw:=[(20,[[],[],[],[],[],[],[],[],[],[],[],[4416],[4480,1004001],[]])]
theorem jps:aH PL:=
 cOf aK aM jrz PL Tryz.func12 (ja ZN (ja Kh (ja jou (ja juU (ja jry i))))) (ja (λh=>by kernel_rfl) (ja (λh=>by kernel_rfl) (ja (λh=>by kernel_rfl) i)))
def PM:Con:=⟨75,[.v aa],[aa],⟨[.v .bool],[]⟩,[.bool],λh=>Pw.jin h⟩
def juV:FnD where
 N:=58
 np:=1
 ds:=[⟨0,[sD aa,sI],[aa,iT],[⟨.ret,[sD .bool],[.bool]⟩,⟨.exit 0,[],[]⟩],Pw.unc2 (Pw.j70)⟩]
 keep:=[(0,⟨[0,3],[],[],[]⟩)]
 keepX:=[(0,.ret,⟨[2],[],[],[]⟩)]
theorem jtn:aH PM:=
 cOf aK aM juV PM Tryz.func75 i (ja (λh=>by kernel_rfl) i)
def PN:Con:=⟨77,[.v aa,.v iT],[aa,iT],⟨[.v .bool],[]⟩,[.bool],Pw.unc2 Pw.jk6⟩
def jzW:FnD where
 N:=40
 np:=2
 ds:=[⟨0,[sD aa,sI,sI,sI],[aa,iT,iT,iT],[⟨.exit 0,[sD aa,sI,sI],[aa,iT,iT]⟩],Pw.unc4 (Pw.j8G)⟩]
 keep:=[(0,⟨[0,1,5,6],[],[],[]⟩)]
 keepX:=[(0,.exit 0,⟨[0,1,5],[],[],[]⟩)]
theorem jxZ:aH PN:=
 cOf aK aM jzW PN Tryz.func77 i (ja (λh=>by kernel_rfl) i)
def PO:Con:=⟨45,[.v aa,.v aa,.v iT],[aa,aa,iT],⟨[.own 58 aa,.v iT],[]⟩,[aa,iT],Pw.unc3 Pw.jk7⟩
def jrA:FnD where
 N:=160
 np:=3
 cs:=[PQ,PM,PN]
 ds:=[⟨0,[sD aa,sD aa,sI,sO 1000000,sI,.b (.lst 3 iT e)],[aa,aa,iT,iT,(.list iT)],[⟨.exit 0,[sD aa,sD aa,sI,sO 1500100,.b (.lst 3 iT e)],[aa,aa,iT,(.list iT)]⟩],Pw.unc5 (Pw.j5C)⟩,⟨2,[sD aa,sD aa,sI,sO 1002000,sI,.b (.lst 3 iT e)],[aa,aa,iT,iT,(.list iT)],[⟨.exit 2,[sD aa,sD aa,sI,sO 1502300,.b (.lst 3 iT e)],[aa,aa,iT,(.list iT)]⟩],Pw.unc5 (Pw.j5D)⟩,⟨4,[sD aa,sD aa,sI,sO 1004000,sO 1004001,sI,.b (.lst 3 iT e),.b (.lst 58 aO e)],[aa,aa,iT,iT,(.list iT),aa],[⟨.exit 4,[sO 1504500,.b (.lst 58 aO e)],[aa]⟩],Pw.unc6 (Pw.j3M)⟩]
 keep:=[(0,⟨[0,1,2,8,9],[],[⟨1000000,3,iT,[.slot 8],e⟩],[]⟩),(2,⟨[0,1,2,8,10],[],[⟨1002000,3,iT,[.slot 8],e⟩],[]⟩),(4,⟨[0,1,2,8,11,12],[],[⟨1004000,3,iT,[.slot 8],e⟩,⟨1004001,58,aO,[.slot 11],e⟩],[]⟩)]
 keepX:=[(0,.exit 0,⟨[0,1,2,8],[],[⟨1500100,3,iT,[.slot 8],e⟩],[]⟩),(2,.exit 2,⟨[0,1,2,8],[],[⟨1502300,3,iT,[.slot 8],e⟩],[]⟩),(4,.exit 4,⟨[11],[],[⟨1504500,58,aO,[.slot 11],e⟩],[]⟩)]
 ro:=[j,e]
 dw:=[(7,[[],[],[],[],[],[],[],[],[],[],[],[2624],[2688,1000000],[]]),(11,[[],[],[],[],[],[],[],[],[],[],[],[3840],[3904,1002000],[]]),(22,[[],[],[],[],[],[],[],[],[],[],[],[9856],[9920,1004001],[]])]
theorem jpt:aH PO:=
 cOf aK aM jrA PO Tryz.func45 (ja ZO (ja jtn (ja jxZ i))) (ja (λh=>by kernel_rfl) (ja (λh=>by kernel_rfl) (ja (λh=>by kernel_rfl) i)))
def PR:Con:=⟨14,[.v aa,.v aa],[aa,aa],⟨[.own 58 aa,.v iT],[]⟩,[aa,iT],Pw.unc2 Pw.jnt⟩
def jy0:FnD where
 N:=11
 np:=2
 cs:=[PO]
 ro:=[j,e]
theorem juW:aH PR:=
 cOf aK aM jy0 PR Tryz.func14 (ja jpt i) i
def PS:Con:=⟨15,[.v iT,.v iT,.ip [au]],[iT,iT,au],⟨[.v .bool],[]⟩,[.bool],Pw.unc3 Pw.j3N⟩
def jiv:FnD where
 N:=29
 np:=3
 ds:=[⟨0,[sI,sI,.s (.one (.ip [au])),sI,sI],[iT,iT,au,iT,iT],[⟨.ret,[sD .bool],[.bool]⟩,⟨.exit 0,[],[]⟩],Pw.unc5 (Pw.j2e)⟩]
 keep:=[(0,⟨[0,1,2,8,9],[],[],[]⟩)]
 keepX:=[(0,.ret,⟨[5],[],[],[]⟩)]
theorem jhO:aH PS:=
 cOf aK aM jiv PS Tryz.func15 i (ja (λh=>by kernel_rfl) i)
def ZP:Con:=⟨3,[.v (.list iT)],[(.list iT)],⟨[.v .bool],[]⟩,[.bool],λh=>Pw.jd0 h⟩
def jlm:FnD where
 N:=250
 np:=1
 cs:=[OR,Ki,Kj,PT,PU,sg,Kk,PV,Kl,PL,PR,PS]
 ds:=[⟨0,[sB 256 0,sI,sB 512 0,sO 1000000,sD an,sO 1000001,sC 15 [.p [au]],sI,sI,sI,sI,sI,.b (.cell [.d ax,.d az,.d ay,.d aC] e),.b (.cell [.d au] j),.b (.lst 58 aO e),.b (.lst 58 aO e)],[iT,an,au,iT,iT,iT,iT,iT,ax,az,ay,aC,au,aa,aa],[⟨.exit 0,[sB 256 0,sI,sO 1500100,sD an,sO 1500101,sC 15 [.p [au]],sI,sI,sI,.b (.cell [.d ax,.d az,.d ay,.d aC] e),.b (.lst 58 aO e),.b (.lst 58 aO e)],[iT,an,au,iT,iT,iT,ax,az,ay,aC,aa,aa]⟩],Pw.u8 Pw.unc7 (Pw.j30)⟩,⟨3,[sB 256 0,sI,sO 1003000,sD an,sO 1003001,sC 15 [.p [au]],sI,sI,sI,sI,.b (.cell [.d ax,.d az,.d ay,.d aC] e),.b (.lst 58 aO e),.b (.lst 58 aO e)],[iT,an,au,iT,iT,iT,iT,ax,az,ay,aC,aa,aa],[⟨.ret,[sD .bool],[.bool]⟩,⟨.exit 3,[sB 256 0,sI,sD an,sO 1503400,sC 15 [.p [au]],sI,sI,sI,.b (.cell [.d ax,.d az,.d ay,.d aC] e),.b (.lst 58 aO e)],[iT,an,au,iT,iT,iT,ax,az,ay,aC,aa]⟩],Pw.u8 Pw.unc5 (Pw.j2c)⟩,⟨5,[sB 256 0,sI,sD an,sO 1005000,sC 15 [.p [au]],sI,sI,sI,sI,sI,.b (.cell [.d ax,.d az,.d ay,.d aC] e),.b (.lst 58 aO e)],[iT,an,au,iT,iT,iT,iT,iT,ax,az,ay,aC,aa],[⟨.ret,[sD .bool],[.bool]⟩,⟨.exit 5,[sI,sD an,sC 15 [.p [au]],sI,sI,sI],[iT,an,au,iT,iT,iT]⟩],Pw.u8 Pw.unc5 (Pw.j31)⟩,⟨7,[sI,sD an,sC 15 [.p [au]],sI,sI,sI,sI,sI,sI],[iT,an,au,iT,iT,iT,iT,iT,iT],[⟨.ret,[sD .bool],[.bool]⟩,⟨.exit 7,[sI,sI,sI],[iT,iT,iT]⟩],Pw.unc9 (Pw.j32)⟩]
 keep:=[(0,⟨[4,5,8,10,12,16,18,19,20,21,114,115],[256,512],[⟨1000000,58,aO,[.slot 10],e⟩,⟨1000001,58,aO,[.slot 16],e⟩],[]⟩),(3,⟨[4,5,10,12,16,18,19,20,21,23],[256],[⟨1003000,58,aO,[.slot 10],e⟩,⟨1003001,58,aO,[.slot 16],e⟩],[]⟩),(5,⟨[4,5,12,16,18,19,20,21,174,175],[256],[⟨1005000,58,aO,[.slot 16],e⟩],[]⟩),(7,⟨[5,12,18,19,20,21,26,203,204],[],[],[]⟩)]
 keepX:=[(0,.exit 0,⟨[4,5,10,12,16,18,19,20,21],[256],[⟨1500100,58,aO,[.slot 10],e⟩,⟨1500101,58,aO,[.slot 16],e⟩],[]⟩),(3,.ret,⟨[2],[],[],[]⟩),(3,.exit 3,⟨[4,5,12,16,18,19,20,21],[256],[⟨1503400,58,aO,[.slot 16],e⟩],[]⟩),(5,.ret,⟨[2],[],[],[]⟩),(5,.exit 5,⟨[5,12,18,19,20,21],[],[],[]⟩),(7,.ret,⟨[2],[],[],[]⟩),(7,.exit 7,⟨[19,20,21],[],[],[]⟩)]
 dw:=[(11,[[],[],[],[],[],[],[],[],[],[],[],[],[],[],[],[],[],[],[5568],[],[],[],[],[]])]
theorem law18_LimitsRest_ok:aH ZP:=
 cOf aK aM jlm ZP Tryz.func3 (ja jrj (ja ZQ (ja ZR (ja jrI (ja jtx (ja uX (ja ZS (ja jkw (ja ZT (ja jps (ja juW (ja jhO i)))))))))))) (ja (λh=>by kernel_rfl) (ja (λh=>by kernel_rfl) (ja (λh=>by kernel_rfl) (ja (λh=>by kernel_rfl) i))))
end Go.Proofs.Pk
