/- cB: each given function is its plain function, printed by a program. -/
import Derived.Test.YtgfoijaggkhgnaaGreatLXCon8
open Bool renaming false->e,true->j
open _root_ renaming trivial->i,Option->k
noncomputable section
open Go Go.Lft
set_option linter.unusedVariables false
set_option maxRecDepth 100000
namespace Go.Proofs.Pk
def Sl:Con:=⟨275,[.v bq,.v iT],[bq,iT],⟨[.v iT,.v iT],[]⟩,[iT,iT],Pw.unc2 Pw.jbE⟩
def jpu:FnD where
 N:=22
 np:=2
 cs:=[xW,xX,Sk]
theorem joD:aG Sl:=
 cOf aJ aK jpu Sl Tryz.func275 (ja C7 (ja C8 (ja jrO i))) i
def Sn:Con:=⟨276,[.v iT,.v iT],[iT,iT],⟨[.v aN],[]⟩,[aN],Pw.unc2 Pw.jkU⟩
def jvD:FnD where
 N:=16
 np:=2
theorem jtV:aG Sn:=
 cOf aJ aK jvD Sn Tryz.func276 i i
def Hi:Con:=⟨269,[.v bq,.v iT],[bq,iT],⟨[.v aN,.v iT],[]⟩,[aN,iT],Pw.unc2 Pw.j3Q⟩
def jrP:FnD where
 N:=21
 np:=2
 cs:=[Sl,Sn]
theorem Sp:aG Hi:=
 cOf aJ aK jrP Hi Tryz.func269 (ja joD (ja jtV i)) i
def Ld:Con:=⟨246,[.v bq,.v bX,.v iT],[bq,bX,iT],⟨[.v iT,.v .bool],[]⟩,[iT,.bool],Pw.unc3 Pw.j7K⟩
def jpv:FnD where
 N:=66
 np:=3
 cs:=[Lc]
theorem _Y:aG Ld:=
 cOf aJ aK jpv Ld Tryz.func246 (ja _X i) i
def Le:Con:=⟨245,[.v bq,.v bX,.v iT],[bq,bX,iT],⟨[.v iT],[]⟩,[iT],Pw.unc3 Pw.jdq⟩
def jvE:FnD where
 N:=81
 np:=3
 cs:=[Lc,Hi,Ld]
 ds:=[⟨0,[sI,sB 192 0,sB 256 0,sI,.b (.cell [.d .str,.d iT,.d bW] e),.b (.cell [.d .str,.d iT,.d iT,.d iT,.d iT,.d iT,.d (.list iT),.d ag,.d iT,.d iT] e)],[iT,iT,.str,iT,bW,.str,iT,iT,iT,iT,iT,(.list iT),ag,iT,iT],[⟨.exit 0,[sI],[iT]⟩],Pw.u8 Pw.unc7 (Pw.j61)⟩]
 keep:=[(0,⟨[2,3,4,7],[192,256],[],[]⟩)]
 keepX:=[(0,.exit 0,⟨[7],[],[],[]⟩)]
theorem _Z:aG Le:=
 cOf aJ aK jvE Le Tryz.func245 (ja _X (ja Sp (ja _Y i))) (ja (λh=>by kernel_rfl) i)
def Sq:Con:=⟨197,[.v bq,.v bX,.v iT,.v iT],[bq,bX,iT,iT],⟨[.own 3 (.list iT),.v iT],[]⟩,[(.list iT),iT],Pw.unc4 Pw.ja7⟩
def joE:FnD where
 N:=51
 np:=4
 cs:=[Hh,La,Ld,Le]
 ds:=[⟨0,[sI,sI,sB 256 0,sB 320 0,sO 1000000,sI,.b (.cell [.d .str,.d iT,.d bW] e),.b (.cell [.d .str,.d iT,.d iT,.d iT,.d iT,.d iT,.d (.list iT),.d ag,.d iT,.d iT] e),.b (.lst 3 iT e)],[iT,iT,iT,.str,iT,bW,.str,iT,iT,iT,iT,iT,(.list iT),ag,iT,iT,(.list iT)],[⟨.ret,[sO 1500000,sI,.b (.lst 3 iT e)],[iT,(.list iT)]⟩],Pw.u8 Pw.unc9 (Pw.j5c)⟩]
 keep:=[(0,⟨[2,3,4,5,10,11],[256,320],[⟨1000000,3,iT,[.slot 10],e⟩],[]⟩)]
 keepX:=[(0,.ret,⟨[8,9],[],[⟨1500000,3,iT,[.slot 8],e⟩],[]⟩)]
 ro:=[j,e]
theorem jn2:aG Sq:=
 cOf aJ aK joE Sq Tryz.func197 (ja Sj (ja _V (ja _Y (ja _Z i)))) (ja (λh=>by kernel_rfl) i)
def Lf:Con:=⟨105,[.v aN],[aN],⟨[.v iT],[]⟩,[iT],λh=>Pw.j8c h⟩
def jtW:FnD where
 N:=10
 np:=1
 cs:=[K8]
theorem _0:aG Lf:=
 cOf aJ aK jtW Lf Tryz.func105 (ja _T i) i
def Sr:Con:=⟨70,[.v ag,.v iT,.v iT,.v iT],[ag,iT,iT,iT],⟨[.own 113 ag],[]⟩,[ag],Pw.unc4 Pw.jbF⟩
def jvF:FnD where
 N:=72
 np:=4
 cs:=[Lf]
 ds:=[⟨0,[sD ag,sI,sI,sO 1000000,sI,.b (.lst 113 aN e)],[ag,iT,iT,iT,ag],[⟨.exit 0,[sO 1500100,.b (.lst 113 aN e)],[ag]⟩],Pw.unc5 (Pw.j63)⟩,⟨2,[sD ag,sI,sI,sO 1002000,sI,sI,.b (.lst 113 aN e)],[ag,iT,iT,iT,iT,ag],[⟨.exit 2,[sD ag,sI,sI,sO 1502300,sI,.b (.lst 113 aN e)],[ag,iT,iT,iT,ag]⟩],Pw.unc6 (Pw.j62)⟩]
 keep:=[(0,⟨[0,1,2,9,10],[],[⟨1000000,113,aN,[.slot 9],e⟩],[]⟩),(2,⟨[0,1,2,9,10,11],[],[⟨1002000,113,aN,[.slot 9],e⟩],[]⟩)]
 keepX:=[(0,.exit 0,⟨[9],[],[⟨1500100,113,aN,[.slot 9],e⟩],[]⟩),(2,.exit 2,⟨[0,1,2,9,10],[],[⟨1502300,113,aN,[.slot 9],e⟩],[]⟩)]
 ro:=[j]
 dw:=[(8,[[],[],[],[],[],[],[],[],[],[],[],[],[],[],[],[],[],[],[],[768],[768]])]
theorem jtX:aG Sr:=
 cOf aJ aK jvF Sr Tryz.func70 (ja _0 i) (ja (λh=>by kernel_rfl) (ja (λh=>by kernel_rfl) i))
def Ss:Con:=⟨69,[.mv 113 ag,.v ag],[ag,ag],⟨[.own 113 ag],[]⟩,[ag],Pw.unc2 Pw.jeq⟩
def jyw:FnD where
 N:=49
 np:=2
 ds:=[⟨0,[sO 1000000,sD ag,sI,.b (.lst 113 aN e)],[ag,iT,ag],[⟨.exit 0,[sO 1500100,.b (.lst 113 aN e)],[ag]⟩],Pw.unc3 (Pw.j6N)⟩]
 keep:=[(0,⟨[0,1,5],[],[⟨1000000,113,aN,[.slot 0],e⟩],[]⟩)]
 keepX:=[(0,.exit 0,⟨[0],[],[⟨1500100,113,aN,[.slot 0],e⟩],[]⟩)]
 ro:=[j]
theorem jvG:aG Ss:=
 cOf aJ aK jyw Ss Tryz.func69 i (ja (λh=>by kernel_rfl) i)
def KO:Con:=⟨48,[.v bq,.v ag,.v iT,.v iT],[bq,ag,iT,iT],⟨[.own 113 ag,.v iT],[]⟩,[ag,iT],Pw.unc4 Pw.j5d⟩
def jvH:FnD where
 N:=84
 np:=4
 cs:=[Bc,xX,Hh,Sr,Ss]
 ds:=[⟨0,[sD ag,sI,sI,sB 256 0,sO 1000000,sO 1000001,sI,.b (.cell [.d .str,.d iT,.d bW] e),.b (.lst 145 aN e),.b (.lst 113 aN e)],[ag,iT,iT,iT,.str,iT,bW,ag,ag],[⟨.exit 0,[sO 1500100,.b (.lst 113 aN e)],[ag]⟩],Pw.unc9 (Pw.j64)⟩]
 modes:=[(69,[j,e])]
 keep:=[(0,⟨[1,2,3,4,10,12,13],[256],[⟨1000000,145,aN,[.slot 10],e⟩,⟨1000001,113,aN,[.slot 12],e⟩],[]⟩)]
 keepX:=[(0,.exit 0,⟨[12],[],[⟨1500100,113,aN,[.slot 12],e⟩],[]⟩)]
 ro:=[j,e]
 mvf:=[69]
theorem _z:aG KO:=
 cOf aJ aK jvH KO Tryz.func48 (ja G0 (ja C8 (ja Sj (ja jtX (ja jvG i))))) (ja (λh=>by kernel_rfl) i)
def Su:Con:=⟨198,[.v bq,.v aN],[bq,aN],⟨[.own 3 (.list iT),.v iT],[]⟩,[(.list iT),iT],Pw.unc2 Pw.j8d⟩
def joF:FnD where
 N:=81
 np:=2
 cs:=[xW,xX,Lb]
 ds:=[⟨0,[sB 128 0,sB 192 0,sO 1000000,sO 1000001,sI,.b (.cell [.d .str,.d iT,.d bW] e),.b (.cell [.d iT,.d iT] e),.b (.lst 145 aN e),.b (.lst 3 iT e)],[iT,.str,iT,bW,iT,iT,ag,(.list iT)],[⟨.exit 0,[sO 1500100,.b (.lst 3 iT e)],[(.list iT)]⟩],Pw.unc8 (Pw.j3x)⟩]
 keep:=[(0,⟨[2,3,6,8,9],[128,192],[⟨1000000,145,aN,[.slot 6],e⟩,⟨1000001,3,iT,[.slot 8],e⟩],[]⟩)]
 keepX:=[(0,.exit 0,⟨[8],[],[⟨1500100,3,iT,[.slot 8],e⟩],[]⟩)]
 ro:=[j,e]
theorem jn3:aG Su:=
 cOf aJ aK joF Su Tryz.func198 (ja C7 (ja C8 (ja _W i))) (ja (λh=>by kernel_rfl) i)
def Sv:Con:=⟨138,[.v bh,.v bX,.v iT,.v iT],[bh,bX,iT,iT],⟨[.own 3 (.list iT)],[]⟩,[(.list iT)],Pw.unc4 Pw.jkV⟩
def jyx:FnD where
 N:=138
 np:=4
 cs:=[xX,Sq,KO,Su]
 ds:=[⟨0,[sB 256 0,sB 320 0,sO 1000000,sO 1000001,sI,.b (.cell [.d ay,.d aB,.d aA,.d aF] e),.b (.cell [.d .str,.d iT,.d iT,.d iT,.d iT,.d iT,.d (.list iT),.d ag,.d iT,.d iT] e),.b (.lst 3 iT e),.b (.lst 113 aN e)],[iT,ay,aB,aA,aF,.str,iT,iT,iT,iT,iT,(.list iT),ag,iT,iT,(.list iT),ag],[⟨.exit 0,[sB 256 0,sB 320 0,sO 1500100,.b (.cell [.d ay,.d aB,.d aA,.d aF] e),.b (.cell [.d .str,.d iT,.d iT,.d iT,.d iT,.d iT,.d (.list iT),.d ag,.d iT,.d iT] e),.b (.lst 3 iT e)],[ay,aB,aA,aF,.str,iT,iT,iT,iT,iT,(.list iT),ag,iT,iT,(.list iT)]⟩],Pw.u8 Pw.unc9 (Pw.j6O)⟩,⟨2,[sB 256 0,sO 1002000,sB 960 0,sO 1002001,sI,.b (.cell [.d ay,.d aB,.d aA,.d aF] e),.b (.cell [.d .str,.d iT,.d (.list iT)] e),.b (.lst 3 iT e),.b (.lst 145 aN e)],[iT,ay,aB,aA,aF,.str,iT,(.list iT),(.list iT),ag],[⟨.exit 2,[sB 256 0,sO 1502300,sB 960 0,.b (.cell [.d ay,.d aB,.d aA,.d aF] e),.b (.cell [.d .str,.d iT,.d (.list iT)] e),.b (.lst 3 iT e)],[ay,aB,aA,aF,.str,iT,(.list iT),(.list iT)]⟩],Pw.u8 Pw.unc2 (Pw.j6P)⟩,⟨4,[sB 256 0,sO 1004000,sB 960 0,sI,.b (.cell [.d ay,.d aB,.d aA,.d aF] e),.b (.cell [.d .str,.d iT,.d (.list iT)] e),.b (.lst 3 iT e)],[iT,ay,aB,aA,aF,.str,iT,(.list iT),(.list iT)],[⟨.exit 4,[sO 1504500,.b (.lst 3 iT e)],[(.list iT)]⟩],Pw.unc9 (Pw.j6Q)⟩,⟨6,[sB 256 0,sO 1006000,sB 960 0,sI,sI,.b (.cell [.d ay,.d aB,.d aA,.d aF] e),.b (.cell [.d .str,.d iT,.d (.list iT)] e),.b (.lst 3 iT e)],[iT,iT,ay,aB,aA,aF,.str,iT,(.list iT),(.list iT)],[⟨.exit 6,[sB 256 0,sO 1506700,sB 960 0,sI,.b (.cell [.d ay,.d aB,.d aA,.d aF] e),.b (.cell [.d .str,.d iT,.d (.list iT)] e),.b (.lst 3 iT e)],[iT,ay,aB,aA,aF,.str,iT,(.list iT),(.list iT)]⟩],Pw.u8 Pw.unc2 (Pw.j4P)⟩]
 keep:=[(0,⟨[4,5,10,12,14],[256,320],[⟨1000000,3,iT,[.slot 10],e⟩,⟨1000001,113,aN,[.slot 12],e⟩],[]⟩),(2,⟨[4,10,15,16,18],[256,960],[⟨1002000,3,iT,[.slot 10],e⟩,⟨1002001,145,aN,[.slot 16],e⟩],[]⟩),(4,⟨[4,10,15,19],[256,960],[⟨1004000,3,iT,[.slot 10],e⟩],[]⟩),(6,⟨[4,10,15,19,20],[256,960],[⟨1006000,3,iT,[.slot 10],e⟩],[]⟩)]
 keepX:=[(0,.exit 0,⟨[4,5,10],[256,320],[⟨1500100,3,iT,[.slot 10],e⟩],[]⟩),(2,.exit 2,⟨[4,10,15],[256,960],[⟨1502300,3,iT,[.slot 10],e⟩],[]⟩),(4,.exit 4,⟨[10],[],[⟨1504500,3,iT,[.slot 10],e⟩],[]⟩),(6,.exit 6,⟨[4,10,15,19],[256,960],[⟨1506700,3,iT,[.slot 10],e⟩],[]⟩)]
 ro:=[j]
 dw:=[(9,[[],[],[],[],[],[],[],[],[],[],[],[4416],[4480,1000000],[]]),(24,[[],[],[],[],[],[],[],[],[],[],[],[],[],[],[8384],[],[],[],[],[]])]
theorem jvI:aG Sv:=
 cOf aJ aK jyx Sv Tryz.func138 (ja C8 (ja jn2 (ja _z (ja jn3 i)))) (ja (λh=>by kernel_rfl) (ja (λh=>by kernel_rfl) (ja (λh=>by kernel_rfl) (ja (λh=>by kernel_rfl) i))))
def _1:Con:=⟨199,[.v (.list iT)],[(.list iT)],⟨[.own 3 (.list iT)],[]⟩,[(.list iT)],λh=>Pw.jrc h⟩
def Lg(g:HL [(.list iT)]->k (HL [(.list iT)])):Con:=⟨199,[.v (.list iT)],[(.list iT)],⟨[.own 3 (.list iT)],[]⟩,[(.list iT)],g⟩
def jyy(g:HL [(.list iT)]->k (HL [(.list iT)])):FnD where
 N:=88
 np:=1
 cs:=[Lg g]
 ds:=[⟨0,[sO 1000000,sO 1000001,sO 1000002,sI,sI,.b (.lst 3 iT e),.b (.lst 3 iT e),.b (.lst 3 iT e)],[iT,iT,(.list iT),(.list iT),(.list iT)],[⟨.exit 0,[sO 1500100,.b (.lst 3 iT e)],[(.list iT)]⟩],Pw.unc5 (Pw.j6R (λv0=>g v0))⟩]
 keep:=[(0,⟨[3,4,5,6,7],[],[⟨1000000,3,iT,[.slot 3],e⟩,⟨1000001,3,iT,[.slot 4],e⟩,⟨1000002,3,iT,[.slot 5],e⟩],[]⟩)]
 keepX:=[(0,.exit 0,⟨[3],[],[⟨1500100,3,iT,[.slot 3],e⟩],[]⟩)]
 ro:=[j]
 dw:=[(4,[[],[],[],[],[],[1280],[],[],[],[],[],[1664],[],[]])]
theorem jrQ(g:HL [(.list iT)]->k (HL [(.list iT)]))(hg:aG (Lg g)):aG (Lg (Pw.j5e g)):=
 cOf aJ aK (jyy g) (Lg (Pw.j5e g)) Tryz.func199 (ja hg i) (ja (λh=>by kernel_rfl) i)
theorem jvJ:aG _1:=jGv (f:=199) (ps:=[.v (.list iT)]) (ts:=[(.list iT)]) (rp:=⟨[.own 3 (.list iT)],[]⟩) (rs:=[(.list iT)]) (B:=Pw.j5e) jrQ
def Sw:Con:=⟨139,[.v (.list iT),.v iT,.v iT],[(.list iT),iT,iT],⟨[.own 3 (.list iT)],[]⟩,[(.list iT)],Pw.unc3 Pw.jgh⟩
def jrR:FnD where
 N:=49
 np:=3
 cs:=[_1]
 ds:=[⟨0,[sI,sI,sO 1000000,sO 1000001,sI,.b (.lst 3 iT e),.b (.lst 3 iT e)],[iT,iT,iT,(.list iT),(.list iT)],[⟨.exit 0,[sI,sI,sO 1500100,.b (.lst 3 iT e)],[iT,iT,(.list iT)]⟩],Pw.unc5 (Pw.j4D)⟩]
 keep:=[(0,⟨[1,2,7,8,9],[],[⟨1000000,3,iT,[.slot 7],e⟩,⟨1000001,3,iT,[.slot 8],e⟩],[]⟩)]
 keepX:=[(0,.exit 0,⟨[1,2,7],[],[⟨1500100,3,iT,[.slot 7],e⟩],[]⟩)]
 ro:=[j]
theorem jpw:aG Sw:=
 cOf aJ aK jrR Sw Tryz.func139 (ja jvJ i) (ja (λh=>by kernel_rfl) i)
def Qd:Con:=⟨99,[.v bh,.v iT,.v iT,.v iT],[bh,iT,iT,iT],⟨[.own 3 (.list iT)],[]⟩,[(.list iT)],Pw.unc4 Pw.jnf⟩
def jyz:FnD where
 N:=62
 np:=4
 cs:=[Sv,Sw]
 ds:=[⟨0,[sI,sI,sB 256 0,sB 576 0,sO 1000000,sI,.b (.cell [.d ay,.d aB,.d aA,.d aF] e),.b (.cell [.d .str,.d bS,.d bL] e),.b (.lst 3 iT e)],[iT,iT,iT,ay,aB,aA,aF,.str,bS,bL,(.list iT)],[⟨.exit 0,[sI,sI,sB 576 0,sO 1500100,.b (.cell [.d .str,.d bS,.d bL] e),.b (.lst 3 iT e)],[iT,iT,.str,bS,bL,(.list iT)]⟩],Pw.u8 Pw.unc3 (Pw.j6S)⟩,⟨2,[sI,sI,sB 576 0,sO 1002000,sI,.b (.cell [.d .str,.d bS,.d bL] e),.b (.lst 3 iT e)],[iT,iT,iT,.str,bS,bL,(.list iT)],[⟨.exit 2,[sI,sI,sO 1502300,.b (.lst 3 iT e)],[iT,iT,(.list iT)]⟩],Pw.unc7 (Pw.j6T)⟩]
 keep:=[(0,⟨[2,3,4,9,10,11],[256,576],[⟨1000000,3,iT,[.slot 10],e⟩],[]⟩),(2,⟨[2,3,9,10,12],[576],[⟨1002000,3,iT,[.slot 10],e⟩],[]⟩)]
 keepX:=[(0,.exit 0,⟨[2,3,9,10],[576],[⟨1500100,3,iT,[.slot 10],e⟩],[]⟩),(2,.exit 2,⟨[2,3,10],[],[⟨1502300,3,iT,[.slot 10],e⟩],[]⟩)]
 ro:=[j]
 dw:=[(6,[[],[],[],[],[],[],[],[],[],[2176],[2240,1000000],[]]),(10,[[],[],[],[],[],[],[],[],[],[],[],[],[],[3584],[3648,1002000],[]])]
theorem jvK:aG Qd:=
 cOf aJ aK jyz Qd Tryz.func99 (ja jvI (ja jpw i)) (ja (λh=>by kernel_rfl) (ja (λh=>by kernel_rfl) i))
def Sz:Con:=⟨270,[.v bq,.v bX,.v iT],[bq,bX,iT],⟨[.v iT,.v iT],[]⟩,[iT,iT],Pw.unc3 Pw.jhT⟩
def jvL:FnD where
 N:=22
 np:=3
 cs:=[La,Le]
theorem jtY:aG Sz:=
 cOf aJ aK jvL Sz Tryz.func270 (ja _V (ja _Z i)) i
def SC:Con:=⟨277,[.v bq,.v iT],[bq,iT],⟨[.v iT,.v iT],[]⟩,[iT,iT],Pw.unc2 Pw.jcY⟩
def jtZ:FnD where
 N:=19
 np:=2
 cs:=[Hi,Lf]
theorem jrS:aG SC:=
 cOf aJ aK jtZ SC Tryz.func277 (ja Sp (ja _0 i)) i
def SD:Con:=⟨278,[.v ag,.v iT],[ag,iT],⟨[.v .bool],[]⟩,[.bool],Pw.unc2 Pw.jiJ⟩
def ju0:FnD where
 N:=28
 np:=2
 ds:=[⟨0,[sD ag,sI,sI],[ag,iT,iT],[⟨.ret,[sD .bool],[.bool]⟩,⟨.exit 0,[],[]⟩],Pw.unc3 (Pw.j5f)⟩]
 keep:=[(0,⟨[0,1,5],[],[],[]⟩)]
 keepX:=[(0,.ret,⟨[4],[],[],[]⟩)]
theorem jrT:aG SD:=
 cOf aJ aK ju0 SD Tryz.func278 i (ja (λh=>by kernel_rfl) i)
def SE:Con:=⟨271,[.v bq,.v ag,.v iT],[bq,ag,iT],⟨[.v .bool],[]⟩,[.bool],Pw.unc3 Pw.jta⟩
def jCR:FnD where
 N:=27
 np:=3
 cs:=[Bc,SC,SD]
theorem jAA:aG SE:=
 cOf aJ aK jCR SE Tryz.func271 (ja G0 (ja jrS (ja jrT i))) i
def P6:Con:=⟨248,[.v bh,.v bX,.v iT],[bh,bX,iT],⟨[.v iT,.v .bool],[]⟩,[iT,.bool],Pw.unc3 Pw.jkW⟩
def jyA:FnD where
 N:=94
 np:=3
 cs:=[Hi,Sz,SE]
 ds:=[⟨0,[sB 256 0,sI,sB 704 0,sB 768 0,sD .bool,sI,.b (.cell [.d .str,.d iT,.d iT,.d iT,.d iT,.d iT,.d (.list iT),.d ag,.d iT,.d iT] e),.b (.cell [.d .str,.d iT,.d (.list iT)] e),.b (.cell [.d iT,.d iT] e)],[iT,.bool,iT,.str,iT,iT,iT,iT,iT,(.list iT),ag,iT,iT,.str,iT,(.list iT),iT,iT],[⟨.exit 0,[sB 256 0,sI,sD .bool,.b (.cell [.d .str,.d iT,.d iT,.d iT,.d iT,.d iT,.d (.list iT),.d ag,.d iT,.d iT] e)],[iT,.bool,.str,iT,iT,iT,iT,iT,(.list iT),ag,iT,iT]⟩],Pw.u8 (Pw.u8 Pw.unc2) (Pw.j6U)⟩]
 keep:=[(0,⟨[4,9,11,12,14,15],[256,704,768],[],[]⟩)]
 keepX:=[(0,.exit 0,⟨[4,9,14],[256],[],[]⟩)]
theorem jvM:aG P6:=
 cOf aJ aK jyA P6 Tryz.func248 (ja Sp (ja jtY (ja jAA i))) (ja (λh=>by kernel_rfl) i)
end Go.Proofs.Pk
