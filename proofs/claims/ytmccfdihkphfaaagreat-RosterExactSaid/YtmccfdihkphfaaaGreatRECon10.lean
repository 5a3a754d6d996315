/- cb: each given function is its plain function, printed by a program. -/
import Derived.Test.YtmccfdihkphfaaaGreatRECon9
open Bool renaming false->e,true->j
open _root_ renaming trivial->i,Option->k
noncomputable section
open Go Go.Lft
set_option linter.unusedVariables false
set_option maxRecDepth 100000
namespace Go.Proofs.Pk
def FP:Con:=⟨64,[.v aB,.v iT,.v iT],[aB,iT,iT],⟨[.v iT],[]⟩,[iT],Pw.unc3 Pw.jfT⟩
def jzy:FnD where
 N:=25
 np:=3
 cs:=[Pl,Pm]
theorem Pn:aM FP:=
 cOf aN aO jzy FP Tryz.func64 (ja jxE (ja jv7 i)) i
def Po:Con:=⟨243,[.v bk,.v bD,.v iT,.v iT],[bk,bD,iT,iT],⟨[.own 3 (.list iT),.v iT],[]⟩,[(.list iT),iT],Pw.unc4 Pw.j9V⟩
def jo1:FnD where
 N:=51
 np:=4
 cs:=[FQ,JU,JV,JW]
 ds:=[⟨0,[sI,sI,sB 256 0,sB 320 0,sO 1000000,sI,.b (.cell [.d .str,.d iT,.d bP] e),.b (.cell [.d .str,.d iT,.d iT,.d iT,.d iT,.d iT,.d (.list iT),.d af,.d iT,.d iT] e),.b (.lst 3 iT e)],[iT,iT,iT,.str,iT,bP,.str,iT,iT,iT,iT,iT,(.list iT),af,iT,iT,(.list iT)],[⟨.ret,[sO 1500000,sI,.b (.lst 3 iT e)],[iT,(.list iT)]⟩],Pw.u8 Pw.unc9 (Pw.j5k)⟩]
 keep:=[(0,⟨[2,3,4,5,10,11],[256,320],[⟨1000000,3,iT,[.slot 10],e⟩],[]⟩)]
 keepX:=[(0,.ret,⟨[8,9],[],[⟨1500000,3,iT,[.slot 8],e⟩],[]⟩)]
 ro:=[j,e]
theorem jml:aM Po:=
 cOf aN aO jo1 Po Tryz.func243 (ja Pp (ja Zh (ja Zi (ja Zj i)))) (ja (λh=>by kernel_rfl) i)
def Pq:Con:=⟨155,[.v af,.v iT,.v iT,.v iT],[af,iT,iT,iT],⟨[.own 59 af],[]⟩,[af],Pw.unc4 Pw.jbz⟩
def juw:FnD where
 N:=72
 np:=4
 cs:=[JX]
 ds:=[⟨0,[sD af,sI,sI,sO 1000000,sI,.b (.lst 59 aT e)],[af,iT,iT,iT,af],[⟨.exit 0,[sO 1500100,.b (.lst 59 aT e)],[af]⟩],Pw.unc5 (Pw.j61)⟩,⟨2,[sD af,sI,sI,sO 1002000,sI,sI,.b (.lst 59 aT e)],[af,iT,iT,iT,iT,af],[⟨.exit 2,[sD af,sI,sI,sO 1502300,sI,.b (.lst 59 aT e)],[af,iT,iT,iT,af]⟩],Pw.unc6 (Pw.j60)⟩]
 keep:=[(0,⟨[0,1,2,9,10],[],[⟨1000000,59,aT,[.slot 9],e⟩],[]⟩),(2,⟨[0,1,2,9,10,11],[],[⟨1002000,59,aT,[.slot 9],e⟩],[]⟩)]
 keepX:=[(0,.exit 0,⟨[9],[],[⟨1500100,59,aT,[.slot 9],e⟩],[]⟩),(2,.exit 2,⟨[0,1,2,9,10],[],[⟨1502300,59,aT,[.slot 9],e⟩],[]⟩)]
 ro:=[j]
 dw:=[(8,[[],[],[],[],[],[],[],[],[],[],[],[],[],[],[],[],[],[],[],[768],[768]])]
theorem jsM:aM Pq:=
 cOf aN aO juw Pq Tryz.func155 (ja Zk i) (ja (λh=>by kernel_rfl) (ja (λh=>by kernel_rfl) i))
def Pr:Con:=⟨154,[.mv 59 af,.v af],[af,af],⟨[.own 59 af],[]⟩,[af],Pw.unc2 Pw.jeb⟩
def jxk:FnD where
 N:=49
 np:=2
 ds:=[⟨0,[sO 1000000,sD af,sI,.b (.lst 59 aT e)],[af,iT,af],[⟨.exit 0,[sO 1500100,.b (.lst 59 aT e)],[af]⟩],Pw.unc3 (Pw.j6J)⟩]
 keep:=[(0,⟨[0,1,5],[],[⟨1000000,59,aT,[.slot 0],e⟩],[]⟩)]
 keepX:=[(0,.exit 0,⟨[0],[],[⟨1500100,59,aT,[.slot 0],e⟩],[]⟩)]
 ro:=[j]
theorem jux:aM Pr:=
 cOf aN aO jxk Pr Tryz.func154 i (ja (λh=>by kernel_rfl) i)
def Ps:Con:=⟨99,[.v bk,.v af,.v iT,.v iT],[bk,af,iT,iT],⟨[.own 59 af,.v iT],[]⟩,[af,iT],Pw.unc4 Pw.jfh⟩
def juy:FnD where
 N:=84
 np:=4
 cs:=[xm,Cy,FQ,Pq,Pr]
 ds:=[⟨0,[sD af,sI,sI,sB 256 0,sO 1000000,sO 1000001,sI,.b (.cell [.d .str,.d iT,.d bP] e),.b (.lst 201 aT e),.b (.lst 59 aT e)],[af,iT,iT,iT,.str,iT,bP,af,af],[⟨.exit 0,[sO 1500100,.b (.lst 59 aT e)],[af]⟩],Pw.unc9 (Pw.j62)⟩]
 modes:=[(154,[j,e])]
 keep:=[(0,⟨[1,2,3,4,10,12,13],[256],[⟨1000000,201,aT,[.slot 10],e⟩,⟨1000001,59,aT,[.slot 12],e⟩],[]⟩)]
 keepX:=[(0,.exit 0,⟨[12],[],[⟨1500100,59,aT,[.slot 12],e⟩],[]⟩)]
 ro:=[j,e]
 mvf:=[154]
theorem jsN:aM Ps:=
 cOf aN aO juy Ps Tryz.func99 (ja Cz (ja JY (ja Pp (ja jsM (ja jux i))))) (ja (λh=>by kernel_rfl) i)
def Pt:Con:=⟨244,[.v bk,.v aT],[bk,aT],⟨[.own 3 (.list iT),.v iT],[]⟩,[(.list iT),iT],Pw.unc2 Pw.j7V⟩
def jo2:FnD where
 N:=81
 np:=2
 cs:=[xn,xm,JZ]
 ds:=[⟨0,[sB 128 0,sB 192 0,sO 1000000,sO 1000001,sI,.b (.cell [.d .str,.d iT,.d bP] e),.b (.cell [.d iT,.d iT] e),.b (.lst 201 aT e),.b (.lst 3 iT e)],[iT,.str,iT,bP,iT,iT,af,(.list iT)],[⟨.exit 0,[sO 1500100,.b (.lst 3 iT e)],[(.list iT)]⟩],Pw.unc8 (Pw.j3J)⟩]
 keep:=[(0,⟨[2,3,6,8,9],[128,192],[⟨1000000,201,aT,[.slot 6],e⟩,⟨1000001,3,iT,[.slot 8],e⟩],[]⟩)]
 keepX:=[(0,.exit 0,⟨[8],[],[⟨1500100,3,iT,[.slot 8],e⟩],[]⟩)]
 ro:=[j,e]
theorem jmm:aM Pt:=
 cOf aN aO jo2 Pt Tryz.func244 (ja CA (ja Cz (ja Zl i))) (ja (λh=>by kernel_rfl) i)
def Pu:Con:=⟨182,[.v aB,.v bD,.v iT,.v iT],[aB,bD,iT,iT],⟨[.own 3 (.list iT)],[]⟩,[(.list iT)],Pw.unc4 Pw.jkm⟩
def jxl:FnD where
 N:=138
 np:=4
 cs:=[xm,Po,Ps,Pt]
 ds:=[⟨0,[sB 256 0,sB 320 0,sO 1000000,sO 1000001,sI,.b (.cell [.d au,.d ax,.d aw,.d aA] e),.b (.cell [.d .str,.d iT,.d iT,.d iT,.d iT,.d iT,.d (.list iT),.d af,.d iT,.d iT] e),.b (.lst 3 iT e),.b (.lst 59 aT e)],[iT,au,ax,aw,aA,.str,iT,iT,iT,iT,iT,(.list iT),af,iT,iT,(.list iT),af],[⟨.exit 0,[sB 256 0,sB 320 0,sO 1500100,.b (.cell [.d au,.d ax,.d aw,.d aA] e),.b (.cell [.d .str,.d iT,.d iT,.d iT,.d iT,.d iT,.d (.list iT),.d af,.d iT,.d iT] e),.b (.lst 3 iT e)],[au,ax,aw,aA,.str,iT,iT,iT,iT,iT,(.list iT),af,iT,iT,(.list iT)]⟩],Pw.u8 Pw.unc9 (Pw.j6K)⟩,⟨2,[sB 256 0,sO 1002000,sB 960 0,sO 1002001,sI,.b (.cell [.d au,.d ax,.d aw,.d aA] e),.b (.cell [.d .str,.d iT,.d (.list iT)] e),.b (.lst 3 iT e),.b (.lst 201 aT e)],[iT,au,ax,aw,aA,.str,iT,(.list iT),(.list iT),af],[⟨.exit 2,[sB 256 0,sO 1502300,sB 960 0,.b (.cell [.d au,.d ax,.d aw,.d aA] e),.b (.cell [.d .str,.d iT,.d (.list iT)] e),.b (.lst 3 iT e)],[au,ax,aw,aA,.str,iT,(.list iT),(.list iT)]⟩],Pw.u8 Pw.unc2 (Pw.j6L)⟩,⟨4,[sB 256 0,sO 1004000,sB 960 0,sI,.b (.cell [.d au,.d ax,.d aw,.d aA] e),.b (.cell [.d .str,.d iT,.d (.list iT)] e),.b (.lst 3 iT e)],[iT,au,ax,aw,aA,.str,iT,(.list iT),(.list iT)],[⟨.exit 4,[sO 1504500,.b (.lst 3 iT e)],[(.list iT)]⟩],Pw.unc9 (Pw.j6M)⟩,⟨6,[sB 256 0,sO 1006000,sB 960 0,sI,sI,.b (.cell [.d au,.d ax,.d aw,.d aA] e),.b (.cell [.d .str,.d iT,.d (.list iT)] e),.b (.lst 3 iT e)],[iT,iT,au,ax,aw,aA,.str,iT,(.list iT),(.list iT)],[⟨.exit 6,[sB 256 0,sO 1506700,sB 960 0,sI,.b (.cell [.d au,.d ax,.d aw,.d aA] e),.b (.cell [.d .str,.d iT,.d (.list iT)] e),.b (.lst 3 iT e)],[iT,au,ax,aw,aA,.str,iT,(.list iT),(.list iT)]⟩],Pw.u8 Pw.unc2 (Pw.j4X)⟩]
 keep:=[(0,⟨[4,5,10,12,14],[256,320],[⟨1000000,3,iT,[.slot 10],e⟩,⟨1000001,59,aT,[.slot 12],e⟩],[]⟩),(2,⟨[4,10,15,16,18],[256,960],[⟨1002000,3,iT,[.slot 10],e⟩,⟨1002001,201,aT,[.slot 16],e⟩],[]⟩),(4,⟨[4,10,15,19],[256,960],[⟨1004000,3,iT,[.slot 10],e⟩],[]⟩),(6,⟨[4,10,15,19,20],[256,960],[⟨1006000,3,iT,[.slot 10],e⟩],[]⟩)]
 keepX:=[(0,.exit 0,⟨[4,5,10],[256,320],[⟨1500100,3,iT,[.slot 10],e⟩],[]⟩),(2,.exit 2,⟨[4,10,15],[256,960],[⟨1502300,3,iT,[.slot 10],e⟩],[]⟩),(4,.exit 4,⟨[10],[],[⟨1504500,3,iT,[.slot 10],e⟩],[]⟩),(6,.exit 6,⟨[4,10,15,19],[256,960],[⟨1506700,3,iT,[.slot 10],e⟩],[]⟩)]
 ro:=[j]
 dw:=[(9,[[],[],[],[],[],[],[],[],[],[],[],[4416],[4480,1000000],[]]),(24,[[],[],[],[],[],[],[],[],[],[],[],[],[],[],[8384],[],[],[],[],[]])]
theorem juz:aM Pu:=
 cOf aN aO jxl Pu Tryz.func182 (ja Cz (ja jml (ja jsN (ja jmm i)))) (ja (λh=>by kernel_rfl) (ja (λh=>by kernel_rfl) (ja (λh=>by kernel_rfl) (ja (λh=>by kernel_rfl) i))))
def Zm:Con:=⟨102,[.v (.list iT)],[(.list iT)],⟨[.own 3 (.list iT)],[]⟩,[(.list iT)],λh=>Pw.jqP h⟩
def J0(g:HL [(.list iT)]->k (HL [(.list iT)])):Con:=⟨102,[.v (.list iT)],[(.list iT)],⟨[.own 3 (.list iT)],[]⟩,[(.list iT)],g⟩
def jxm(g:HL [(.list iT)]->k (HL [(.list iT)])):FnD where
 N:=88
 np:=1
 cs:=[J0 g]
 ds:=[⟨0,[sO 1000000,sO 1000001,sO 1000002,sI,sI,.b (.lst 3 iT e),.b (.lst 3 iT e),.b (.lst 3 iT e)],[iT,iT,(.list iT),(.list iT),(.list iT)],[⟨.exit 0,[sO 1500100,.b (.lst 3 iT e)],[(.list iT)]⟩],Pw.unc5 (Pw.j6N (λv0=>g v0))⟩]
 keep:=[(0,⟨[3,4,5,6,7],[],[⟨1000000,3,iT,[.slot 3],e⟩,⟨1000001,3,iT,[.slot 4],e⟩,⟨1000002,3,iT,[.slot 5],e⟩],[]⟩)]
 keepX:=[(0,.exit 0,⟨[3],[],[⟨1500100,3,iT,[.slot 3],e⟩],[]⟩)]
 ro:=[j]
 dw:=[(4,[[],[],[],[],[],[1280],[],[],[],[],[],[1664],[],[]])]
theorem jr2(g:HL [(.list iT)]->k (HL [(.list iT)]))(hg:aM (J0 g)):aM (J0 (Pw.j5l g)):=
 cOf aN aO (jxm g) (J0 (Pw.j5l g)) Tryz.func102 (ja hg i) (ja (λh=>by kernel_rfl) i)
theorem juA:aM Zm:=jFg (f:=102) (ps:=[.v (.list iT)]) (ts:=[(.list iT)]) (rp:=⟨[.own 3 (.list iT)],[]⟩) (rs:=[(.list iT)]) (B:=Pw.j5l) jr2
def Pv:Con:=⟨151,[.v (.list iT),.v iT,.v iT],[(.list iT),iT,iT],⟨[.own 3 (.list iT)],[]⟩,[(.list iT)],Pw.unc3 Pw.jfY⟩
def jr3:FnD where
 N:=49
 np:=3
 cs:=[Zm]
 ds:=[⟨0,[sI,sI,sO 1000000,sO 1000001,sI,.b (.lst 3 iT e),.b (.lst 3 iT e)],[iT,iT,iT,(.list iT),(.list iT)],[⟨.exit 0,[sI,sI,sO 1500100,.b (.lst 3 iT e)],[iT,iT,(.list iT)]⟩],Pw.unc5 (Pw.j4K)⟩]
 keep:=[(0,⟨[1,2,7,8,9],[],[⟨1000000,3,iT,[.slot 7],e⟩,⟨1000001,3,iT,[.slot 8],e⟩],[]⟩)]
 keepX:=[(0,.exit 0,⟨[1,2,7],[],[⟨1500100,3,iT,[.slot 7],e⟩],[]⟩)]
 ro:=[j]
theorem joS:aM Pv:=
 cOf aN aO jr3 Pv Tryz.func151 (ja juA i) (ja (λh=>by kernel_rfl) i)
def Px:Con:=⟨125,[.v aB,.v iT,.v iT,.v iT],[aB,iT,iT,iT],⟨[.own 3 (.list iT)],[]⟩,[(.list iT)],Pw.unc4 Pw.jn1⟩
def jxn:FnD where
 N:=62
 np:=4
 cs:=[Pu,Pv]
 ds:=[⟨0,[sI,sI,sB 256 0,sB 576 0,sO 1000000,sI,.b (.cell [.d au,.d ax,.d aw,.d aA] e),.b (.cell [.d .str,.d bC,.d bt] e),.b (.lst 3 iT e)],[iT,iT,iT,au,ax,aw,aA,.str,bC,bt,(.list iT)],[⟨.exit 0,[sI,sI,sB 576 0,sO 1500100,.b (.cell [.d .str,.d bC,.d bt] e),.b (.lst 3 iT e)],[iT,iT,.str,bC,bt,(.list iT)]⟩],Pw.u8 Pw.unc3 (Pw.j6O)⟩,⟨2,[sI,sI,sB 576 0,sO 1002000,sI,.b (.cell [.d .str,.d bC,.d bt] e),.b (.lst 3 iT e)],[iT,iT,iT,.str,bC,bt,(.list iT)],[⟨.exit 2,[sI,sI,sO 1502300,.b (.lst 3 iT e)],[iT,iT,(.list iT)]⟩],Pw.unc7 (Pw.j6P)⟩]
 keep:=[(0,⟨[2,3,4,9,10,11],[256,576],[⟨1000000,3,iT,[.slot 10],e⟩],[]⟩),(2,⟨[2,3,9,10,12],[576],[⟨1002000,3,iT,[.slot 10],e⟩],[]⟩)]
 keepX:=[(0,.exit 0,⟨[2,3,9,10],[576],[⟨1500100,3,iT,[.slot 10],e⟩],[]⟩),(2,.exit 2,⟨[2,3,10],[],[⟨1502300,3,iT,[.slot 10],e⟩],[]⟩)]
 ro:=[j]
 dw:=[(6,[[],[],[],[],[],[],[],[],[],[2176],[2240,1000000],[]]),(10,[[],[],[],[],[],[],[],[],[],[],[],[],[],[3584],[3648,1002000],[]])]
theorem juB:aM Px:=
 cOf aN aO jxn Px Tryz.func125 (ja juz (ja joS i)) (ja (λh=>by kernel_rfl) (ja (λh=>by kernel_rfl) i))
def Py:Con:=⟨126,[.mv 123 aH,.v aF],[aH,aF],⟨[.own 123 aH],[]⟩,[aH],Pw.unc2 Pw.jif⟩
def jsO:FnD where
 N:=50
 np:=2
 ro:=[j]
theorem jr4:aM Py:=
 cOf aN aO jsO Py Tryz.func126 i i
def J1:Con:=⟨65,[.v aB,.v iT,.v iT,.v iT],[aB,iT,iT,iT],⟨[.own 123 aH],[]⟩,[aH],Pw.unc4 Pw.jfj⟩
def jsP:FnD where
 N:=44
 np:=4
 cs:=[FP,Px,Py]
 ds:=[⟨0,[sI,sB 256 0,sO 1000000,sO 1000001,sI,.b (.cell [.d au,.d ax,.d aw,.d aA] e),.b (.lst 3 iT e),.b (.lst 123 aF e)],[iT,iT,au,ax,aw,aA,(.list iT),aH],[⟨.exit 0,[sO 1500100,.b (.lst 123 aF e)],[aH]⟩],Pw.unc8 (Pw.j5m)⟩]
 modes:=[(126,[j,e])]
 keep:=[(0,⟨[1,4,9,10,11],[256],[⟨1000000,3,iT,[.slot 9],e⟩,⟨1000001,123,aF,[.slot 10],e⟩],[]⟩)]
 keepX:=[(0,.exit 0,⟨[10],[],[⟨1500100,123,aF,[.slot 10],e⟩],[]⟩)]
 ro:=[j]
 dw:=[(6,[[],[],[],[],[],[],[],[],[],[],[],[],[],[],[],[],[],[],[2688,1000001],[]])]
 mvf:=[126]
theorem Zn:aM J1:=
 cOf aN aO jsP J1 Tryz.func65 (ja Pn (ja juB (ja jr4 i))) (ja (λh=>by kernel_rfl) i)
def Pz:Con:=⟨15,[.v aB,.v iT,.v iT],[aB,iT,iT],⟨[.v aF,.v iT],[]⟩,[aF,iT],Pw.unc3 Pw.jkn⟩
def jxo:FnD where
 N:=83
 np:=3
 cs:=[J2,FP,J1]
 ds:=[⟨0,[sI,sB 192 0,sB 384 0,sI,sI,sI,.b (.cell [.d au,.d ax,.d aw,.d aA] e),.b (.cell [.d iT,.d iT,.d iT] e)],[iT,iT,iT,iT,au,ax,aw,aA,iT,iT,iT],[⟨.ret,[sB 384 0,sI,.b (.cell [.d iT,.d iT,.d iT] e)],[iT,iT,iT,iT]⟩,⟨.exit 0,[sI,sB 192 0,sB 384 0,sI,sI,.b (.cell [.d au,.d ax,.d aw,.d aA] e),.b (.cell [.d iT,.d iT,.d iT] e)],[iT,iT,iT,au,ax,aw,aA,iT,iT,iT]⟩],Pw.u8 Pw.unc3 (Pw.j4Y)⟩,⟨2,[sI,sB 192 0,sB 384 0,sI,sI,sI,sO 1002000,sI,.b (.cell [.d au,.d ax,.d aw,.d aA] e),.b (.cell [.d iT,.d iT,.d iT] e),.b (.lst 123 aF e)],[iT,iT,iT,iT,iT,au,ax,aw,aA,iT,iT,iT,aH],[⟨.ret,[sB 384 0,sI,.b (.cell [.d iT,.d iT,.d iT] e)],[iT,iT,iT,iT]⟩,⟨.exit 2,[sI,sB 192 0,sB 384 0,sI,sI,sI,.b (.cell [.d au,.d ax,.d aw,.d aA] e),.b (.cell [.d iT,.d iT,.d iT] e)],[iT,iT,iT,iT,au,ax,aw,aA,iT,iT,iT]⟩],Pw.u8 Pw.unc5 (Pw.j6Q)⟩]
 keep:=[(0,⟨[1,3,6,9,10,11],[192,384],[],[]⟩),(2,⟨[1,3,6,9,10,12,13,14],[192,384],[⟨1002000,123,aF,[.slot 13],e⟩],[]⟩)]
 keepX:=[(0,.ret,⟨[6,7],[384],[],[]⟩),(0,.exit 0,⟨[1,3,6,9,10],[192,384],[],[]⟩),(2,.ret,⟨[6,7],[384],[],[]⟩),(2,.exit 2,⟨[1,3,6,9,10,12],[192,384],[],[]⟩)]
 dw:=[(14,[[],[],[],[],[],[],[],[],[],[],[],[],[384],[]])]
theorem juC:aM Pz:=
 cOf aN aO jxo Pz Tryz.func15 (ja Zo (ja Pn (ja Zn i))) (ja (λh=>by kernel_rfl) (ja (λh=>by kernel_rfl) i))
def PA:Con:=⟨127,[.v aB,.v iT,.v iT],[aB,iT,iT],⟨[.v .bool],[]⟩,[.bool],Pw.unc3 Pw.jpP⟩
def jBH:FnD where
 N:=29
 np:=3
 cs:=[FT]
theorem jzz:aM PA:=
 cOf aN aO jBH PA Tryz.func127 (ja PB i) i
def PC:Con:=⟨67,[.v aB,.v iT,.v iT],[aB,iT,iT],⟨[.v iT],[]⟩,[iT],Pw.unc3 Pw.jlr⟩
def jzA:FnD where
 N:=16
 np:=3
 cs:=[FP,PA]
theorem jxp:aM PC:=
 cOf aN aO jzA PC Tryz.func67 (ja Pn (ja jzz i)) i
def J3:Con:=⟨17,[.v aB,.v iT,.v iT],[aB,iT,iT],⟨[.v iT],[]⟩,[iT],Pw.unc3 Pw.jer⟩
def jzB:FnD where
 N:=11
 np:=3
 cs:=[PC]
theorem Zp:aM J3:=
 cOf aN aO jzB J3 Tryz.func17 (ja jxp i) i
def FU:Con:=⟨19,[.v aB,.v iT,.v iT,.v iT],[aB,iT,iT,iT],⟨[.own 123 aH,.v iT],[]⟩,[aH,iT],Pw.unc4 Pw.j7A⟩
def joT:FnD where
 N:=29
 np:=4
 cs:=[J2,J1]
 ro:=[j,e]
theorem PD:aM FU:=
 cOf aN aO joT FU Tryz.func19 (ja Zo (ja Zn i)) i
def PE:Con:=⟨21,[.v aB,.v iT,.v iT,.v iT],[aB,iT,iT,iT],⟨[.own 42 aH,.v iT],[]⟩,[aH,iT],Pw.unc4 Pw.jg1⟩
def jr5:FnD where
 N:=52
 np:=4
 cs:=[FU]
 ds:=[⟨0,[sO 1000000,sO 1000001,sI,.b (.lst 123 aF e),.b (.lst 42 aF e)],[iT,aH,aH],[⟨.exit 0,[sO 1500100,.b (.lst 42 aF e)],[aH]⟩],Pw.unc3 (Pw.j4L)⟩]
 keep:=[(0,⟨[10,12,13],[],[⟨1000000,123,aF,[.slot 10],e⟩,⟨1000001,42,aF,[.slot 12],e⟩],[]⟩)]
 keepX:=[(0,.exit 0,⟨[12],[],[⟨1500100,42,aF,[.slot 12],e⟩],[]⟩)]
 ro:=[j,e]
 dw:=[(8,[[],[],[],[],[],[],[],[],[],[],[],[],[],[],[],[],[],[],[3136],[3200,1000001],[]])]
theorem joU:aM PE:=
 cOf aN aO jr5 PE Tryz.func21 (ja PD i) (ja (λh=>by kernel_rfl) i)
def PF:Con:=⟨23,[.v aB,.v iT,.v iT,.v iT,.v iT],[aB,iT,iT,iT,iT],⟨[.own 59 af,.v iT],[]⟩,[af,iT],Pw.unc5 Pw.jko⟩
def juD:FnD where
 N:=58
 np:=5
 cs:=[FU]
 ds:=[⟨0,[sI,sO 1000000,sO 1000001,sI,.b (.lst 123 aF e),.b (.lst 59 aT e)],[iT,iT,aH,af],[⟨.exit 0,[sO 1500100,.b (.lst 59 aT e)],[af]⟩],Pw.unc4 (Pw.j63)⟩]
 keep:=[(0,⟨[2,12,14,15],[],[⟨1000000,123,aF,[.slot 12],e⟩,⟨1000001,59,aT,[.slot 14],e⟩],[]⟩)]
 keepX:=[(0,.exit 0,⟨[14],[],[⟨1500100,59,aT,[.slot 14],e⟩],[]⟩)]
 ro:=[j,e]
 dw:=[(9,[[],[],[],[],[],[],[],[],[],[],[],[],[3328],[3392,1000001],[]])]
theorem jsQ:aM PF:=
 cOf aN aO juD PF Tryz.func23 (ja PD i) (ja (λh=>by kernel_rfl) i)
def PG:Con:=⟨24,[.v aH,.v aH],[aH,aH],⟨[.v .bool],[]⟩,[.bool],Pw.unc2 Pw.jig⟩
def jsR:FnD where
 N:=26
 np:=2
 ds:=[⟨0,[sD aH,sD aH,sI,sI],[aH,aH,iT,iT],[⟨.ret,[sD .bool],[.bool]⟩,⟨.exit 0,[],[]⟩],Pw.unc4 (Pw.j5n)⟩]
 keep:=[(0,⟨[0,1,12,13],[],[],[]⟩)]
 keepX:=[(0,.ret,⟨[4],[],[],[]⟩)]
theorem jr6:aM PG:=
 cOf aN aO jsR PG Tryz.func24 i (ja (λh=>by kernel_rfl) i)
end Go.Proofs.Pk
