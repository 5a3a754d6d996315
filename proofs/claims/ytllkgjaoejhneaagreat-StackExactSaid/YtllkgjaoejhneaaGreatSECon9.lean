/- cJ: each given function is its plain function, printed by a program. -/
import Derived.Test.YtllkgjaoejhneaaGreatSECon8
open Bool renaming false->e,true->j
open _root_ renaming trivial->i,Option->k
noncomputable section
open Go Go.Lft
set_option linter.unusedVariables false
set_option maxRecDepth 100000
namespace Go.Proofs.Pk
def PG:Con:=⟨54,[.v aR,.v iT,.v iT],[aR,iT,iT],⟨[.v iT],[]⟩,[iT],Pw.unc3 Pw.jbH⟩
def js7:FnD where
 N:=22
 np:=3
 cs:=[I4,Fc]
theorem jqx:aN PG:=
 cOf aP aQ js7 PG Tryz.func54 (jg Xp (jg PF i)) i
def PH:Con:=⟨56,[.v aR,.v iT,.v iT],[aR,iT,iT],⟨[.v iT],[]⟩,[iT],Pw.unc3 Pw.jh6⟩
def jwq:FnD where
 N:=22
 np:=3
 cs:=[I4,Fc]
theorem jun:aN PH:=
 cOf aP aQ jwq PH Tryz.func56 (jg Xp (jg PF i)) i
def Fe:Con:=⟨100,[.v iT,.v iT],[iT,iT],⟨[.v .bool],[]⟩,[.bool],Pw.unc2 Pw.j8P⟩
def js8:FnD where
 N:=26
 np:=2
theorem PI:aN Fe:=
 cOf aP aQ js8 Fe Tryz.func100 i i
def PJ:Con:=⟨112,[.v aR,.v iT,.v iT,.v iT],[aR,iT,iT,iT],⟨[.v iT],[]⟩,[iT],Pw.unc4 Pw.jdG⟩
def js9:FnD where
 N:=28
 np:=4
 cs:=[I3,Fe]
theorem jqy:aN PJ:=
 cOf aP aQ js9 PJ Tryz.func112 (jg Xo (jg PI i)) i
def PK:Con:=⟨154,[.v bh,.v bu,.v iT,.v iT],[bh,bu,iT,iT],⟨[.own 3 (.list iT),.v iT],[]⟩,[(.list iT),iT],Pw.unc4 Pw.j8Q⟩
def jlH:FnD where
 N:=51
 np:=4
 cs:=[I5,I8,I9,Fe]
 ds:=[⟨0,[sI,sI,sB 256 0,sB 320 0,sO 1000000,sI,.b (.cell [.d .str,.d iT,.d bK] e),.b (.cell [.d .str,.d iT,.d iT,.d iT,.d iT,.d iT,.d (.list iT),.d ag,.d iT,.d iT] e),.b (.lst 3 iT e)],[iT,iT,iT,.str,iT,bK,.str,iT,iT,iT,iT,iT,(.list iT),ag,iT,iT,(.list iT)],[⟨.ret,[sO 1500000,sI,.b (.lst 3 iT e)],[iT,(.list iT)]⟩],Pw.u8 Pw.unc9 (Pw.j4O)⟩]
 keep:=[(0,⟨[2,3,4,5,10,11],[256,320],[⟨1000000,3,iT,[.slot 10],e⟩],[]⟩)]
 keepX:=[(0,.ret,⟨[8,9],[],[⟨1500000,3,iT,[.slot 8],e⟩],[]⟩)]
 ro:=[j,e]
theorem jkb:aN PK:=
 cOf aP aQ jlH PK Tryz.func154 (jg Xq (jg Xt (jg Xu (jg PI i)))) (jg (λh=>by kernel_rfl) i)
def PL:Con:=⟨221,[.v ag,.v iT,.v iT,.v iT],[ag,iT,iT,iT],⟨[.own 131 ag],[]⟩,[ag],Pw.unc4 Pw.jaf⟩
def jsa:FnD where
 N:=72
 np:=4
 cs:=[Ja]
 ds:=[⟨0,[sD ag,sI,sI,sO 1000000,sI,.b (.lst 131 aT e)],[ag,iT,iT,iT,ag],[⟨.exit 0,[sO 1500100,.b (.lst 131 aT e)],[ag]⟩],Pw.unc5 (Pw.j5k)⟩,⟨2,[sD ag,sI,sI,sO 1002000,sI,sI,.b (.lst 131 aT e)],[ag,iT,iT,iT,iT,ag],[⟨.exit 2,[sD ag,sI,sI,sO 1502300,sI,.b (.lst 131 aT e)],[ag,iT,iT,iT,ag]⟩],Pw.unc6 (Pw.j5j)⟩]
 keep:=[(0,⟨[0,1,2,9,10],[],[⟨1000000,131,aT,[.slot 9],e⟩],[]⟩),(2,⟨[0,1,2,9,10,11],[],[⟨1002000,131,aT,[.slot 9],e⟩],[]⟩)]
 keepX:=[(0,.exit 0,⟨[9],[],[⟨1500100,131,aT,[.slot 9],e⟩],[]⟩),(2,.exit 2,⟨[0,1,2,9,10],[],[⟨1502300,131,aT,[.slot 9],e⟩],[]⟩)]
 ro:=[j]
 dw:=[(8,[[],[],[],[],[],[],[],[],[],[],[],[],[],[],[],[],[],[],[],[768],[768]])]
theorem jqz:aN PL:=
 cOf aP aQ jsa PL Tryz.func221 (jg Xv i) (jg (λh=>by kernel_rfl) (jg (λh=>by kernel_rfl) i))
def PM:Con:=⟨103,[.mv 131 ag,.v ag],[ag,ag],⟨[.own 131 ag],[]⟩,[ag],Pw.unc2 Pw.jcE⟩
def juo:FnD where
 N:=49
 np:=2
 ds:=[⟨0,[sO 1000000,sD ag,sI,.b (.lst 131 aT e)],[ag,iT,ag],[⟨.exit 0,[sO 1500100,.b (.lst 131 aT e)],[ag]⟩],Pw.unc3 (Pw.j63)⟩]
 keep:=[(0,⟨[0,1,5],[],[⟨1000000,131,aT,[.slot 0],e⟩],[]⟩)]
 keepX:=[(0,.exit 0,⟨[0],[],[⟨1500100,131,aT,[.slot 0],e⟩],[]⟩)]
 ro:=[j]
theorem jsb:aN PM:=
 cOf aP aQ juo PM Tryz.func103 i (jg (λh=>by kernel_rfl) i)
def PN:Con:=⟨155,[.v bh,.v ag,.v iT,.v iT],[bh,ag,iT,iT],⟨[.own 131 ag,.v iT],[]⟩,[ag,iT],Pw.unc4 Pw.jdH⟩
def jsc:FnD where
 N:=84
 np:=4
 cs:=[wK,B5,Fe,PL,PM]
 ds:=[⟨0,[sD ag,sI,sI,sB 256 0,sO 1000000,sO 1000001,sI,.b (.cell [.d .str,.d iT,.d bK] e),.b (.lst 200 aT e),.b (.lst 131 aT e)],[ag,iT,iT,iT,.str,iT,bK,ag,ag],[⟨.exit 0,[sO 1500100,.b (.lst 131 aT e)],[ag]⟩],Pw.unc9 (Pw.j5l)⟩]
 modes:=[(103,[j,e])]
 keep:=[(0,⟨[1,2,3,4,10,12,13],[256],[⟨1000000,200,aT,[.slot 10],e⟩,⟨1000001,131,aT,[.slot 12],e⟩],[]⟩)]
 keepX:=[(0,.exit 0,⟨[12],[],[⟨1500100,131,aT,[.slot 12],e⟩],[]⟩)]
 ro:=[j,e]
 mvf:=[103]
theorem jqA:aN PN:=
 cOf aP aQ jsc PN Tryz.func155 (jg B4 (jg I2 (jg PI (jg jqz (jg jsb i))))) (jg (λh=>by kernel_rfl) i)
def PO:Con:=⟨157,[.v bh,.v aT],[bh,aT],⟨[.own 3 (.list iT),.v iT],[]⟩,[(.list iT),iT],Pw.unc2 Pw.j70⟩
def jlI:FnD where
 N:=81
 np:=2
 cs:=[wJ,wK,I6]
 ds:=[⟨0,[sB 128 0,sB 192 0,sO 1000000,sO 1000001,sI,.b (.cell [.d .str,.d iT,.d bK] e),.b (.cell [.d iT,.d iT] e),.b (.lst 200 aT e),.b (.lst 3 iT e)],[iT,.str,iT,bK,iT,iT,ag,(.list iT)],[⟨.exit 0,[sO 1500100,.b (.lst 3 iT e)],[(.list iT)]⟩],Pw.unc8 (Pw.j3o)⟩]
 keep:=[(0,⟨[2,3,6,8,9],[128,192],[⟨1000000,200,aT,[.slot 6],e⟩,⟨1000001,3,iT,[.slot 8],e⟩],[]⟩)]
 keepX:=[(0,.exit 0,⟨[8],[],[⟨1500100,3,iT,[.slot 8],e⟩],[]⟩)]
 ro:=[j,e]
theorem jkc:aN PO:=
 cOf aP aQ jlI PO Tryz.func157 (jg B3 (jg B4 (jg Xr i))) (jg (λh=>by kernel_rfl) i)
def PQ:Con:=⟨102,[.v aR,.v bu,.v iT,.v iT],[aR,bu,iT,iT],⟨[.own 3 (.list iT)],[]⟩,[(.list iT)],Pw.unc4 Pw.jid⟩
def jup:FnD where
 N:=138
 np:=4
 cs:=[wK,PK,PN,PO]
 ds:=[⟨0,[sB 256 0,sB 320 0,sO 1000000,sO 1000001,sI,.b (.cell [.d aA,.d aC,.d aB,.d aG] e),.b (.cell [.d .str,.d iT,.d iT,.d iT,.d iT,.d iT,.d (.list iT),.d ag,.d iT,.d iT] e),.b (.lst 3 iT e),.b (.lst 131 aT e)],[iT,aA,aC,aB,aG,.str,iT,iT,iT,iT,iT,(.list iT),ag,iT,iT,(.list iT),ag],[⟨.exit 0,[sB 256 0,sB 320 0,sO 1500100,.b (.cell [.d aA,.d aC,.d aB,.d aG] e),.b (.cell [.d .str,.d iT,.d iT,.d iT,.d iT,.d iT,.d (.list iT),.d ag,.d iT,.d iT] e),.b (.lst 3 iT e)],[aA,aC,aB,aG,.str,iT,iT,iT,iT,iT,(.list iT),ag,iT,iT,(.list iT)]⟩],Pw.u8 Pw.unc9 (Pw.j64)⟩,⟨2,[sB 256 0,sO 1002000,sB 960 0,sO 1002001,sI,.b (.cell [.d aA,.d aC,.d aB,.d aG] e),.b (.cell [.d .str,.d iT,.d (.list iT)] e),.b (.lst 3 iT e),.b (.lst 200 aT e)],[iT,aA,aC,aB,aG,.str,iT,(.list iT),(.list iT),ag],[⟨.exit 2,[sB 256 0,sO 1502300,sB 960 0,.b (.cell [.d aA,.d aC,.d aB,.d aG] e),.b (.cell [.d .str,.d iT,.d (.list iT)] e),.b (.lst 3 iT e)],[aA,aC,aB,aG,.str,iT,(.list iT),(.list iT)]⟩],Pw.u8 Pw.unc2 (Pw.j65)⟩,⟨4,[sB 256 0,sO 1004000,sB 960 0,sI,.b (.cell [.d aA,.d aC,.d aB,.d aG] e),.b (.cell [.d .str,.d iT,.d (.list iT)] e),.b (.lst 3 iT e)],[iT,aA,aC,aB,aG,.str,iT,(.list iT),(.list iT)],[⟨.exit 4,[sO 1504500,.b (.lst 3 iT e)],[(.list iT)]⟩],Pw.unc9 (Pw.j66)⟩,⟨6,[sB 256 0,sO 1006000,sB 960 0,sI,sI,.b (.cell [.d aA,.d aC,.d aB,.d aG] e),.b (.cell [.d .str,.d iT,.d (.list iT)] e),.b (.lst 3 iT e)],[iT,iT,aA,aC,aB,aG,.str,iT,(.list iT),(.list iT)],[⟨.exit 6,[sB 256 0,sO 1506700,sB 960 0,sI,.b (.cell [.d aA,.d aC,.d aB,.d aG] e),.b (.cell [.d .str,.d iT,.d (.list iT)] e),.b (.lst 3 iT e)],[iT,aA,aC,aB,aG,.str,iT,(.list iT),(.list iT)]⟩],Pw.u8 Pw.unc2 (Pw.j4y)⟩]
 keep:=[(0,⟨[4,5,10,12,14],[256,320],[⟨1000000,3,iT,[.slot 10],e⟩,⟨1000001,131,aT,[.slot 12],e⟩],[]⟩),(2,⟨[4,10,15,16,18],[256,960],[⟨1002000,3,iT,[.slot 10],e⟩,⟨1002001,200,aT,[.slot 16],e⟩],[]⟩),(4,⟨[4,10,15,19],[256,960],[⟨1004000,3,iT,[.slot 10],e⟩],[]⟩),(6,⟨[4,10,15,19,20],[256,960],[⟨1006000,3,iT,[.slot 10],e⟩],[]⟩)]
 keepX:=[(0,.exit 0,⟨[4,5,10],[256,320],[⟨1500100,3,iT,[.slot 10],e⟩],[]⟩),(2,.exit 2,⟨[4,10,15],[256,960],[⟨1502300,3,iT,[.slot 10],e⟩],[]⟩),(4,.exit 4,⟨[10],[],[⟨1504500,3,iT,[.slot 10],e⟩],[]⟩),(6,.exit 6,⟨[4,10,15,19],[256,960],[⟨1506700,3,iT,[.slot 10],e⟩],[]⟩)]
 ro:=[j]
 dw:=[(9,[[],[],[],[],[],[],[],[],[],[],[],[4416],[4480,1000000],[]]),(24,[[],[],[],[],[],[],[],[],[],[],[],[],[],[],[8384],[],[],[],[],[]])]
theorem jsd:aN PQ:=
 cOf aP aQ jup PQ Tryz.func102 (jg B4 (jg jkb (jg jqA (jg jkc i)))) (jg (λh=>by kernel_rfl) (jg (λh=>by kernel_rfl) (jg (λh=>by kernel_rfl) (jg (λh=>by kernel_rfl) i))))
def Xx:Con:=⟨153,[.v (.list iT)],[(.list iT)],⟨[.own 3 (.list iT)],[]⟩,[(.list iT)],λh=>Pw.joa h⟩
def Jc(g:HL [(.list iT)]->k (HL [(.list iT)])):Con:=⟨153,[.v (.list iT)],[(.list iT)],⟨[.own 3 (.list iT)],[]⟩,[(.list iT)],g⟩
def juq(g:HL [(.list iT)]->k (HL [(.list iT)])):FnD where
 N:=88
 np:=1
 cs:=[Jc g]
 ds:=[⟨0,[sO 1000000,sO 1000001,sO 1000002,sI,sI,.b (.lst 3 iT e),.b (.lst 3 iT e),.b (.lst 3 iT e)],[iT,iT,(.list iT),(.list iT),(.list iT)],[⟨.exit 0,[sO 1500100,.b (.lst 3 iT e)],[(.list iT)]⟩],Pw.unc5 (Pw.j67 (λv0=>g v0))⟩]
 keep:=[(0,⟨[3,4,5,6,7],[],[⟨1000000,3,iT,[.slot 3],e⟩,⟨1000001,3,iT,[.slot 4],e⟩,⟨1000002,3,iT,[.slot 5],e⟩],[]⟩)]
 keepX:=[(0,.exit 0,⟨[3],[],[⟨1500100,3,iT,[.slot 3],e⟩],[]⟩)]
 ro:=[j]
 dw:=[(4,[[],[],[],[],[],[1280],[],[],[],[],[],[1664],[],[]])]
theorem joG(g:HL [(.list iT)]->k (HL [(.list iT)]))(hg:aN (Jc g)):aN (Jc (Pw.j4P g)):=
 cOf aP aQ (juq g) (Jc (Pw.j4P g)) Tryz.func153 (jg hg i) (jg (λh=>by kernel_rfl) i)
theorem jse:aN Xx:=ż (f:=153) (ps:=[.v (.list iT)]) (ts:=[(.list iT)]) (rp:=⟨[.own 3 (.list iT)],[]⟩) (rs:=[(.list iT)]) (B:=Pw.j4P) joG
def PR:Con:=⟨101,[.v (.list iT),.v iT,.v iT],[(.list iT),iT,iT],⟨[.own 3 (.list iT)],[]⟩,[(.list iT)],Pw.unc3 Pw.jeg⟩
def joH:FnD where
 N:=49
 np:=3
 cs:=[Xx]
 ds:=[⟨0,[sI,sI,sO 1000000,sO 1000001,sI,.b (.lst 3 iT e),.b (.lst 3 iT e)],[iT,iT,iT,(.list iT),(.list iT)],[⟨.exit 0,[sI,sI,sO 1500100,.b (.lst 3 iT e)],[iT,iT,(.list iT)]⟩],Pw.unc5 (Pw.j4p)⟩]
 keep:=[(0,⟨[1,2,7,8,9],[],[⟨1000000,3,iT,[.slot 7],e⟩,⟨1000001,3,iT,[.slot 8],e⟩],[]⟩)]
 keepX:=[(0,.exit 0,⟨[1,2,7],[],[⟨1500100,3,iT,[.slot 7],e⟩],[]⟩)]
 ro:=[j]
theorem jmv:aN PR:=
 cOf aP aQ joH PR Tryz.func101 (jg jse i) (jg (λh=>by kernel_rfl) i)
def PS:Con:=⟨113,[.v aR,.v iT,.v iT,.v iT],[aR,iT,iT,iT],⟨[.own 3 (.list iT)],[]⟩,[(.list iT)],Pw.unc4 Pw.jks⟩
def jur:FnD where
 N:=62
 np:=4
 cs:=[PQ,PR]
 ds:=[⟨0,[sI,sI,sB 256 0,sB 576 0,sO 1000000,sI,.b (.cell [.d aA,.d aC,.d aB,.d aG] e),.b (.cell [.d .str,.d bL,.d bV] e),.b (.lst 3 iT e)],[iT,iT,iT,aA,aC,aB,aG,.str,bL,bV,(.list iT)],[⟨.exit 0,[sI,sI,sB 576 0,sO 1500100,.b (.cell [.d .str,.d bL,.d bV] e),.b (.lst 3 iT e)],[iT,iT,.str,bL,bV,(.list iT)]⟩],Pw.u8 Pw.unc3 (Pw.j68)⟩,⟨2,[sI,sI,sB 576 0,sO 1002000,sI,.b (.cell [.d .str,.d bL,.d bV] e),.b (.lst 3 iT e)],[iT,iT,iT,.str,bL,bV,(.list iT)],[⟨.exit 2,[sI,sI,sO 1502300,.b (.lst 3 iT e)],[iT,iT,(.list iT)]⟩],Pw.unc7 (Pw.j69)⟩]
 keep:=[(0,⟨[2,3,4,9,10,11],[256,576],[⟨1000000,3,iT,[.slot 10],e⟩],[]⟩),(2,⟨[2,3,9,10,12],[576],[⟨1002000,3,iT,[.slot 10],e⟩],[]⟩)]
 keepX:=[(0,.exit 0,⟨[2,3,9,10],[576],[⟨1500100,3,iT,[.slot 10],e⟩],[]⟩),(2,.exit 2,⟨[2,3,10],[],[⟨1502300,3,iT,[.slot 10],e⟩],[]⟩)]
 ro:=[j]
 dw:=[(6,[[],[],[],[],[],[],[],[],[],[2176],[2240,1000000],[]]),(10,[[],[],[],[],[],[],[],[],[],[],[],[],[],[3584],[3648,1002000],[]])]
theorem jsf:aN PS:=
 cOf aP aQ jur PS Tryz.func113 (jg jsd (jg jmv i)) (jg (λh=>by kernel_rfl) (jg (λh=>by kernel_rfl) i))
def PT:Con:=⟨105,[.mv 130 aY,.v aZ],[aY,aZ],⟨[.own 130 aY],[]⟩,[aY],Pw.unc2 Pw.jgc⟩
def jqB:FnD where
 N:=50
 np:=2
 ro:=[j]
theorem joI:aN PT:=
 cOf aP aQ jqB PT Tryz.func105 i i
def PU:Con:=⟨58,[.v aR,.v iT,.v iT,.v iT],[aR,iT,iT,iT],⟨[.own 130 aY,.v iT],[]⟩,[aY,iT],Pw.unc4 Pw.j6K⟩
def jmw:FnD where
 N:=63
 np:=4
 cs:=[Fc,PJ,PS,PT]
 ds:=[⟨0,[sI,sB 256 0,sO 1000000,sO 1000001,sI,.b (.cell [.d aA,.d aC,.d aB,.d aG] e),.b (.lst 3 iT e),.b (.lst 130 aZ e)],[iT,iT,aA,aC,aB,aG,(.list iT),aY],[⟨.exit 0,[sO 1500100,.b (.lst 130 aZ e)],[aY]⟩],Pw.unc8 (Pw.j3V)⟩]
 modes:=[(105,[j,e])]
 keep:=[(0,⟨[1,4,11,12,13],[256],[⟨1000000,3,iT,[.slot 11],e⟩,⟨1000001,130,aZ,[.slot 12],e⟩],[]⟩)]
 keepX:=[(0,.exit 0,⟨[12],[],[⟨1500100,130,aZ,[.slot 12],e⟩],[]⟩)]
 ro:=[j,e]
 dw:=[(10,[[],[],[],[],[],[],[],[],[],[],[],[],[3712,1000001],[]])]
 mvf:=[105]
theorem jlJ:aN PU:=
 cOf aP aQ jmw PU Tryz.func58 (jg PF (jg jqy (jg jsf (jg joI i)))) (jg (λh=>by kernel_rfl) i)
def PV:Con:=⟨59,[.v aY,.v aY],[aY,aY],⟨[.v .bool],[]⟩,[.bool],Pw.unc2 Pw.jgd⟩
def jqC:FnD where
 N:=26
 np:=2
 ds:=[⟨0,[sD aY,sD aY,sI,sI],[aY,aY,iT,iT],[⟨.ret,[sD .bool],[.bool]⟩,⟨.exit 0,[],[]⟩],Pw.unc4 (Pw.j4Q)⟩]
 keep:=[(0,⟨[0,1,12,13],[],[],[]⟩)]
 keepX:=[(0,.ret,⟨[4],[],[],[]⟩)]
theorem joJ:aN PV:=
 cOf aP aQ jqC PV Tryz.func59 i (jg (λh=>by kernel_rfl) i)
def Xy:Con:=⟨6,[.v (.list iT),.v iT,.v iT,.v iT,.v iT],[(.list iT),iT,iT,iT,iT],⟨[.v .bool],[]⟩,[.bool],Pw.unc5 Pw.jao⟩
def jiD:FnD where
 N:=157
 np:=5
 cs:=[Nn,IK,E6,IP,IQ,OZ,O0,oe,IX,O5,Xk,Jb,PG,PH,PU,PV]
 ds:=[⟨0,[sI,sI,sI,sI,sB 2176 0,.s (.av 2 aR),sI,.b (.cell [.d (.list iT),.d iT] e)],[iT,iT,iT,iT,lz,iT,(.list iT),iT],[⟨.ret,[sD .bool],[.bool]⟩,⟨.exit 0,[],[]⟩],Pw.unc8 (Pw.j2m)⟩,⟨2,[sI,sI,sI,sI,sB 2176 0,sB 896 0,sI,.s (.av 2 aR),sI,.s (.av 3 iT),sI,.b (.cell [.d aA,.d aC,.d aB,.d aG] e),.b (.cell [.d (.list iT),.d iT] e)],[iT,iT,iT,iT,iT,lz,iT,(.list iT),iT,aA,aC,aB,aG,(.list iT),iT],[⟨.ret,[sD .bool],[.bool]⟩,⟨.exit 2,[sI,sI,sI,sI,sB 2176 0,sB 896 0,sI,.s (.av 2 aR),sI,.b (.cell [.d aA,.d aC,.d aB,.d aG] e),.b (.cell [.d (.list iT),.d iT] e)],[iT,iT,iT,iT,iT,lz,iT,aA,aC,aB,aG,(.list iT),iT]⟩],Pw.u8 Pw.unc7 (Pw.j2k)⟩,⟨4,[sI,sI,sI,sI,sB 2176 0,sB 896 0,sI,sI,.s (.av 2 aR),sI,.s (.av 3 iT),sI,.s (.av 3 iT),sI,.b (.cell [.d aA,.d aC,.d aB,.d aG] e),.b (.cell [.d (.list iT),.d iT] e)],[iT,iT,iT,iT,iT,iT,lz,iT,(.list iT),iT,(.list iT),iT,aA,aC,aB,aG,(.list iT),iT],[⟨.ret,[sD .bool],[.bool]⟩,⟨.exit 4,[sI,sI,sI,sI,sB 2176 0,sB 896 0,sI,sI,.s (.av 2 aR),sI,.s (.av 3 iT),sI,.b (.cell [.d aA,.d aC,.d aB,.d aG] e),.b (.cell [.d (.list iT),.d iT] e)],[iT,iT,iT,iT,iT,iT,lz,iT,(.list iT),iT,aA,aC,aB,aG,(.list iT),iT]⟩],Pw.u8 (Pw.u8 Pw.unc2) (Pw.j2i)⟩,⟨6,[sI,sI,sI,sI,sB 2176 0,sB 896 0,sI,sI,.s (.av 2 aR),sI,.s (.av 3 iT),sI,.s (.av 3 (.arr 2 iT)),sI,.b (.cell [.d aA,.d aC,.d aB,.d aG] e),.b (.cell [.d (.list iT),.d iT] e)],[iT,iT,iT,iT,iT,iT,lz,iT,(.list iT),iT,(.list (.arr 2 iT)),iT,aA,aC,aB,aG,(.list iT),iT],[⟨.ret,[sD .bool],[.bool]⟩,⟨.exit 6,[sI,sI,sI,sI,sB 2176 0,sB 896 0,sI,.s (.av 2 aR),sI,.s (.av 3 iT),sI,.b (.cell [.d aA,.d aC,.d aB,.d aG] e),.b (.cell [.d (.list iT),.d iT] e)],[iT,iT,iT,iT,iT,lz,iT,(.list iT),iT,aA,aC,aB,aG,(.list iT),iT]⟩],Pw.u8 (Pw.u8 Pw.unc2) (Pw.j2j)⟩,⟨8,[sI,sI,sI,sI,sB 2176 0,sB 896 0,.s (.av 2 aR),sI,.s (.av 3 iT),sI,.b (.cell [.d aA,.d aC,.d aB,.d aG] e),.b (.cell [.d (.list iT),.d iT] e)],[iT,iT,iT,iT,lz,iT,(.list iT),iT,aA,aC,aB,aG,(.list iT),iT],[⟨.ret,[sD .bool],[.bool]⟩,⟨.exit 8,[sI,sI,sI,sI,sB 2176 0,.s (.av 2 aR),sI,.b (.cell [.d (.list iT),.d iT] e)],[iT,iT,iT,iT,lz,iT,(.list iT),iT]⟩],Pw.u8 Pw.unc6 (Pw.j2l)⟩]
 keep:=[(0,⟨[1,2,3,4,11,41,42],[2176],[],[]⟩),(2,⟨[1,2,3,4,11,14,15,41,42,50,51],[896,2176],[],[]⟩),(4,⟨[1,2,3,4,11,14,15,17,41,42,50,51,58,59],[896,2176],[],[]⟩),(6,⟨[1,2,3,4,11,14,15,17,41,42,50,51,94,95],[896,2176],[],[]⟩),(8,⟨[1,2,3,4,11,14,41,42,133,134],[896,2176],[],[]⟩)]
 keepX:=[(0,.ret,⟨[10],[],[],[]⟩),(2,.ret,⟨[10],[],[],[]⟩),(2,.exit 2,⟨[1,2,3,4,11,14,15,41,42],[896,2176],[],[]⟩),(4,.ret,⟨[10],[],[],[]⟩),(4,.exit 4,⟨[1,2,3,4,11,14,15,17,41,42,50,51],[896,2176],[],[]⟩),(6,.ret,⟨[10],[],[],[]⟩),(6,.exit 6,⟨[1,2,3,4,11,14,15,41,42,50,51],[896,2176],[],[]⟩),(8,.ret,⟨[10],[],[],[]⟩),(8,.exit 8,⟨[1,2,3,4,11,41,42],[2176],[],[]⟩)]
 dw:=[(5,[[],[],[],[2176],[],[]])]
theorem law12_StackExact_ok:aN Xy:=
 cOf aP aQ jiD Xy Tryz.func6 (jg job (jg Xa (jg OY (jg Xd (jg Xe (jg jow (jg jqe (jg pS (jg Xh (jg jhq (jg jk8 (jg Xw (jg jqx (jg jun (jg jlJ (jg joJ i)))))))))))))))) (jg (λh=>by kernel_rfl) (jg (λh=>by kernel_rfl) (jg (λh=>by kernel_rfl) (jg (λh=>by kernel_rfl) (jg (λh=>by kernel_rfl) i)))))
end Go.Proofs.Pk
