/- cB: each given function is its plain function, printed by a program. -/
import Derived.Test.YtkoifkkadkmecaaGreatLRCon4
open Bool renaming false->e,true->k
open _root_ renaming trivial->j,Option->l
noncomputable section
open Go Go.Lft
set_option linter.unusedVariables false
set_option maxRecDepth 100000
namespace Go.Proofs.Pk
def QE:Con:=⟨138,[.v au,.v aa],[au,aa],⟨[.own 143 au],[]⟩,[au],Pw.unc2 Pw.jf9⟩
def jpB:FnD where
 N:=72
 np:=2
 ds:=[⟨0,[sD au,sD aa,sO 1000000,sI,sI,.b (.lst 143 aJ e)],[au,aa,iT,iT,au],[⟨.exit 0,[sO 1500100,.b (.lst 143 aJ e)],[au]⟩],Pw.unc5 (Pw.j6y)⟩]
 keep:=[(0,⟨[0,1,5,6,7],[],[⟨1000000,143,aJ,[.slot 5],e⟩],[]⟩)]
 keepX:=[(0,.exit 0,⟨[5],[],[⟨1500100,143,aJ,[.slot 5],e⟩],[]⟩)]
 ro:=[k]
 dw:=[(4,[[],[],[],[],[],[],[],[],[],[],[],[],[],[],[],[],[],[],[],[],[],[],[],[],[],[],[],[],[512],[512]])]
theorem joD:aH QE:=
 cOf aK aM jpB QE Tryz.func138 j (ja (λh=>by kernel_rfl) j)
def QF:Con:=⟨142,[.v au],[au],⟨[.own 58 aa],[]⟩,[aa],λh=>Pw.je5 h⟩
def jrG:FnD where
 N:=23
 np:=1
 cs:=[yO]
 ds:=[⟨0,[sO 1000000,sD au,sI,sI,.b (.lst 58 aO e)],[au,iT,iT,aa],[⟨.exit 0,[sO 1500100,.b (.lst 58 aO e)],[aa]⟩],Pw.unc4 (Pw.j5q)⟩]
 keep:=[(0,⟨[3,6,7,8],[],[⟨1000000,58,aO,[.slot 3],e⟩],[]⟩)]
 keepX:=[(0,.exit 0,⟨[3],[],[⟨1500100,58,aO,[.slot 3],e⟩],[]⟩)]
 ro:=[k]
theorem jpC:aH QF:=
 cOf aK aM jrG QF Tryz.func142 (ja CQ j) (ja (λh=>by kernel_rfl) j)
def QG:Con:=⟨144,[.v aJ,.v aJ],[aJ,aJ],⟨[.v iT],[]⟩,[iT],Pw.unc2 Pw.j3L⟩
def jiB:FnD where
 N:=10
 np:=2
theorem jsf:aH QG:=
 cOf aK aM jiB QG Tryz.func144 j j
def _a:Con:=⟨143,[.rl 143 au,.clo 144 []],[au],⟨[],[.rl au]⟩,[au],λh=>Pw.j0E h⟩
def jav:FnD where
 N:=14
 np:=2
 cs:=[QG]
theorem j36:aH _a:=
 Ow Tryz.sort143 (aJ) rfl 143 (by kernel_rfl) Tryz.isAgg143 Tryz.sizeOf143 _ 144 (enters_of Tryz.func144 (by kernel_rfl) rfl) juN juO 143 rfl
def QH:Con:=⟨83,[.v eZ,.v cZ,.v iT,.v iT],[eZ,cZ,iT,iT],⟨[.own 143 au],[]⟩,[au],Pw.unc4 Pw.j5S⟩
def jlx:FnD where
 N:=63
 np:=4
 cs:=[Qk,Gv,Gw,QB,QD,QE,QF,_a]
 ds:=[⟨0,[sI,sB 256 0,sB 320 0,sB 384 0,sB 448 0,sB 576 0,sB 640 0,sC 185 [.p [bM]],.b (.cell [.d ax,.d az,.d ay,.d aC,.d fF] e),.b (.cell [.d .str,.d bM,.d an] e),.b (.cell [.d iT] e),.b (.cell [.d iT] e),.b (.cell [.ol 1000000] e),.b (.cell [.ol 1000001] e),.b (.lst 58 aO e),.b (.lst 143 aJ e)],[iT,bM,ax,az,ay,aC,fF,.str,bM,an,iT,iT,aa,au],[⟨.normal,[sB 576 0,sB 640 0,.b (.cell [.ol 1500050] e),.b (.cell [.ol 1500051] e),.b (.lst 58 aO e),.b (.lst 143 aJ e)],[aa,au]⟩],Pw.u8 Pw.unc6 (Pw.j2S)⟩,⟨2,[sB 640 0,sO 1002000,sI,sI,.b (.cell [.ol 1002001] e),.b (.lst 58 aO e),.b (.lst 143 aJ e)],[iT,iT,aa,au],[⟨.exit 2,[sB 640 0,.b (.cell [.ol 1502300] e),.b (.lst 143 aJ e)],[au]⟩],Pw.unc4 (Pw.j2T)⟩]
 modes:=[(143,[k,e])]
 keep:=[(0,⟨[4,5,6,7,9,10,25],[256,320,384,448,576,640],[⟨1000000,58,aO,[.cell 576 0],e⟩,⟨1000001,143,aJ,[.cell 640 0],e⟩],[]⟩),(2,⟨[10,44,45,46],[640],[⟨1002000,58,aO,[.slot 44],e⟩,⟨1002001,143,aJ,[.cell 640 0],e⟩],[]⟩)]
 keepX:=[(0,.normal,⟨[9,10],[576,640],[⟨1500050,58,aO,[.cell 576 0],e⟩,⟨1500051,143,aJ,[.cell 640 0],e⟩],[]⟩),(2,.exit 2,⟨[10],[640],[⟨1502300,143,aJ,[.cell 640 0],e⟩],[]⟩)]
 ro:=[k]
 dw:=[(7,[[],[],[],[],[],[2112],[2176],[],[2304],[]]),(9,[[],[],[2688],[2752],[576]])]
 bw:=[(185,(e,bT))]
theorem jCc:ItOK Tryz.prog 185 e (bT):=jHu <| jFW aK Tryz.func185 (fn:=Tryz.f185) (A0:=bwA Tryz.f185 0) (A1:=bwA Tryz.f185 1) (A2:=bwA Tryz.f185 2) (A3:=bwA Tryz.f185 3) (by kernel_rfl) (by kernel_rfl) (by kernel_rfl) (by kernel_rfl) (by kernel_rfl) (by kernel_rfl) (by kernel_rfl) (by kernel_rfl) (by kernel_rfl) (by kernel_rfl) (by kernel_rfl) ⟨(by kernel_rfl),(by kernel_rfl)⟩
 (λxs=>by kernel_rfl) (λi=>by kernel_rfl) (λi=>by kernel_rfl) (λxs i=>by kernel_rfl) (λb i=>by kernel_rfl)
theorem jkp:aH QH:=
 cOf aK aM jlx QH Tryz.func83 (ja j92 (ja Qv (ja QA (ja jiA (ja jmZ (ja joD (ja jpC (ja j36 j)))))))) (ja (λh=>by kernel_rfl) (ja (λh=>by kernel_rfl) j)) (ja jCc j)
def QI:Con:=⟨191,[.v iT],[iT],⟨[.v .bool],[]⟩,[.bool],λh=>Pw.jdz h⟩
def joE:FnD where
 N:=6
 np:=1
theorem jn0:aH QI:=
 cOf aK aM joE QI Tryz.func191 j j
def QJ:Con:=⟨145,[.v iT,.v iT],[iT,iT],⟨[.v .bool],[]⟩,[.bool],Pw.unc2 Pw.jfa⟩
def jpD:FnD where
 N:=17
 np:=2
 cs:=[QI]
theorem joF:aH QJ:=
 cOf aK aM jpD QJ Tryz.func145 (ja jn0 j) j
def QK:Con:=⟨146,[.v iT],[iT],⟨[.v .bool],[]⟩,[.bool],λh=>Pw.j9V h⟩
def jly:FnD where
 N:=6
 np:=1
theorem jkq:aH QK:=
 cOf aK aM jly QK Tryz.func146 j j
def QL:Con:=⟨84,[.v (.list iT),.v iT],[(.list iT),iT],⟨[.v iT,.v .bool],[]⟩,[iT,.bool],Pw.unc2 Pw.j3e⟩
def jdd:FnD where
 N:=54
 np:=2
 cs:=[QJ,QK]
 ds:=[⟨0,[sD (.list iT),sI,sI,sI,sI],[(.list iT),iT,iT,iT,iT],[⟨.exit 0,[sD (.list iT),sI,sI,sI],[(.list iT),iT,iT,iT]⟩],Pw.unc5 (Pw.j1T)⟩]
 keep:=[(0,⟨[0,1,6,7,8],[],[],[]⟩)]
 keepX:=[(0,.exit 0,⟨[0,1,6,7],[],[],[]⟩)]
theorem jcM:aH QL:=
 cOf aK aM jdd QL Tryz.func84 (ja joF (ja jkq j)) (ja (λh=>by kernel_rfl) j)
def QM:Con:=⟨147,[.v bg,.v iT],[bg,iT],⟨[.v .bool],[]⟩,[.bool],Pw.unc2 Pw.jk3⟩
def jrH:FnD where
 N:=15
 np:=2
theorem jpE:aH QM:=
 cOf aK aM jrH QM Tryz.func147 j j
def QN:Con:=⟨85,[.v an,.v iT,.v iT],[an,iT,iT],⟨[.v iT],[]⟩,[iT],Pw.unc3 Pw.jl3⟩
def juZ:FnD where
 N:=51
 np:=3
 cs:=[QM]
 ds:=[⟨0,[sI,sI,sD an,sI,sI],[iT,iT,an,iT,iT],[⟨.exit 0,[sI],[iT]⟩],Pw.unc5 (Pw.j6P)⟩]
 keep:=[(0,⟨[1,2,9,10,11],[],[],[]⟩)]
 keepX:=[(0,.exit 0,⟨[1],[],[],[]⟩)]
theorem jtv:aH QN:=
 cOf aK aM juZ QN Tryz.func85 (ja jpE j) (ja (λh=>by kernel_rfl) j)
def Kx:Con:=⟨53,[.v eZ,.v cZ,.v iT,.v iT],[eZ,cZ,iT,iT],⟨[.own 143 au],[]⟩,[au],Pw.unc4 Pw.j0G⟩
def jmf:FnD where
 N:=88
 np:=4
 cs:=[Kp,Gw,QH,QL,QN]
 ds:=[⟨0,[sI,sI,sB 256 0,sB 320 0,sO 1000000,sD an,sI,sI,.b (.cell [.d ax,.d az,.d ay,.d aC,.d fF] e),.b (.cell [.d .str,.d bM,.d an] e),.b (.lst 3 iT e)],[iT,iT,an,iT,iT,ax,az,ay,aC,fF,.str,bM,an,(.list iT)],[⟨.exit 0,[sI,sI,sB 256 0,sB 320 0,sO 1500100,.b (.cell [.d ax,.d az,.d ay,.d aC,.d fF] e),.b (.cell [.d .str,.d bM,.d an] e),.b (.lst 3 iT e)],[iT,iT,ax,az,ay,aC,fF,.str,bM,an,(.list iT)]⟩],Pw.u8 Pw.unc6 (Pw.j3f)⟩,⟨2,[sB 320 0,sO 1002000,sO 1002001,sO 1002002,sI,sI,.b (.cell [.d .str,.d bM,.d an] e),.b (.lst 3 iT e),.b (.lst 143 aJ e),.b (.lst 143 aJ e)],[iT,iT,.str,bM,an,(.list iT),au,au],[⟨.exit 2,[sO 1502300,.b (.lst 143 aJ e)],[au]⟩],Pw.unc8 (Pw.j3h)⟩,⟨4,[sB 320 0,sO 1004000,sO 1004001,sB 960 0,sI,sI,sO 1004002,sI,sI,.b (.cell [.d .str,.d bM,.d an] e),.b (.cell [.d iT,.d iT,.d iT] e),.b (.lst 3 iT e),.b (.lst 143 aJ e),.b (.lst 143 aJ e)],[iT,iT,iT,iT,.str,bM,an,iT,iT,iT,(.list iT),au,au],[⟨.exit 4,[sB 320 0,sO 1504500,sO 1504501,sO 1504502,sI,sI,.b (.cell [.d .str,.d bM,.d an] e),.b (.lst 3 iT e),.b (.lst 143 aJ e),.b (.lst 143 aJ e)],[iT,iT,.str,bM,an,(.list iT),au,au]⟩],Pw.u8 Pw.unc5 (Pw.j3g)⟩]
 keep:=[(0,⟨[2,3,4,5,9,21,22,23],[256,320],[⟨1000000,3,iT,[.slot 9],e⟩],[]⟩),(2,⟨[5,12,13,43,44,45],[320],[⟨1002000,3,iT,[.slot 12],e⟩,⟨1002001,143,aJ,[.slot 13],e⟩,⟨1002002,143,aJ,[.slot 43],e⟩],[]⟩),(4,⟨[5,12,13,15,16,18,43,44,45],[320,960],[⟨1004000,3,iT,[.slot 12],e⟩,⟨1004001,143,aJ,[.slot 13],e⟩,⟨1004002,143,aJ,[.slot 43],e⟩],[]⟩)]
 keepX:=[(0,.exit 0,⟨[2,3,4,5,9],[256,320],[⟨1500100,3,iT,[.slot 9],e⟩],[]⟩),(2,.exit 2,⟨[13],[],[⟨1502300,143,aJ,[.slot 13],e⟩],[]⟩),(4,.exit 4,⟨[5,12,13,43,44,45],[320],[⟨1504500,3,iT,[.slot 12],e⟩,⟨1504501,143,aJ,[.slot 13],e⟩,⟨1504502,143,aJ,[.slot 43],e⟩],[]⟩)]
 ro:=[k]
theorem _b:aH Kx:=
 cOf aK aM jmf Kx Tryz.func53 (ja ZZ (ja QA (ja jkp (ja jcM (ja jtv j))))) (ja (λh=>by kernel_rfl) (ja (λh=>by kernel_rfl) (ja (λh=>by kernel_rfl) j)))
def QP:Con:=⟨54,[.v au,.v iT],[au,iT],⟨[.own 58 aa],[]⟩,[aa],Pw.unc2 Pw.jc6⟩
def jn1:FnD where
 N:=29
 np:=2
 cs:=[yO]
 ds:=[⟨0,[sI,sO 1000000,sD au,sI,sI,.b (.lst 58 aO e)],[iT,au,iT,iT,aa],[⟨.exit 0,[sO 1500100,.b (.lst 58 aO e)],[aa]⟩],Pw.unc5 (Pw.j3I)⟩]
 keep:=[(0,⟨[1,5,8,9,10],[],[⟨1000000,58,aO,[.slot 5],e⟩],[]⟩)]
 keepX:=[(0,.exit 0,⟨[5],[],[⟨1500100,58,aO,[.slot 5],e⟩],[]⟩)]
 ro:=[k]
theorem jmg:aH QP:=
 cOf aK aM jn1 QP Tryz.func54 (ja CQ j) (ja (λh=>by kernel_rfl) j)
def Ky:Con:=⟨25,[.v eZ,.v iT,.v iT,.v iT],[eZ,iT,iT,iT],⟨[.own 58 aa,.v iT],[]⟩,[aa,iT],Pw.unc4 Pw.j7e⟩
def joG:FnD where
 N:=43
 np:=4
 cs:=[yO,Kx,QP]
 ds:=[⟨0,[sI,sI,sI,sB 256 0,sO 1000000,sD aC,sI,sI,.b (.cell [.d ax,.d az,.d ay,.d aC,.d fF] e),.b (.lst 58 aO e)],[iT,iT,iT,aC,iT,iT,ax,az,ay,aC,fF,aa],[⟨.ret,[.s (.one (.nil)),sI],[iT]⟩,⟨.exit 0,[sO 1500100,.b (.lst 58 aO e)],[aa]⟩],Pw.u8 Pw.unc4 (Pw.j49)⟩]
 keep:=[(0,⟨[1,2,3,4,10,17,18,19],[256],[⟨1000000,58,aO,[.slot 10],e⟩],[]⟩)]
 keepX:=[(0,.ret,⟨[8,9],[],[],[]⟩),(0,.exit 0,⟨[10],[],[⟨1500100,58,aO,[.slot 10],e⟩],[]⟩)]
 ro:=[k,e]
theorem _c:aH Ky:=
 cOf aK aM joG Ky Tryz.func25 (ja CQ (ja _b (ja jmg j))) (ja (λh=>by kernel_rfl) j)
def QQ:Con:=⟨56,[.v au,.v au,.v iT,.v iT],[au,au,iT,iT],⟨[.own 60 an],[]⟩,[an],Pw.unc4 Pw.jaK⟩
def jmh:FnD where
 N:=93
 np:=4
 ds:=[⟨0,[sD au,sD au,sI,sI,sO 1000000,sI,sI,.b (.lst 60 bg e)],[au,au,iT,iT,iT,iT,an],[⟨.exit 0,[sO 1500100,.b (.lst 60 bg e)],[an]⟩],Pw.unc7 (Pw.j3i)⟩]
 keep:=[(0,⟨[0,1,2,3,9,10,11],[],[⟨1000000,60,bg,[.slot 9],e⟩],[]⟩)]
 keepX:=[(0,.exit 0,⟨[9],[],[⟨1500100,60,bg,[.slot 9],e⟩],[]⟩)]
 ro:=[k]
theorem jlz:aH QQ:=
 cOf aK aM jmh QQ Tryz.func56 j (ja (λh=>by kernel_rfl) j)
def Kz:Con:=⟨58,[.v bg,.v bg],[bg,bg],⟨[.v iT],[]⟩,[iT],Pw.unc2 Pw.j2L⟩
def jiC:FnD where
 N:=10
 np:=2
theorem _d:aH Kz:=
 cOf aK aM jiC Kz Tryz.func58 j j
def QR:Con:=⟨150,[.rl 60 an,.v iT,.v iT,.clo 58 []],[an,iT,iT],⟨[],[.rl an]⟩,[an],Pw.unc3 Pw.j0B⟩
def j8P:FnD where
 N:=53
 np:=4
 cs:=[Kz]
 ds:=[⟨0,[sO 0,sI,sI,sC 58 [],sI,.b (.lst 60 bg e)],[iT,iT,iT,an],[⟨.exit 0,[.b (.lst 60 bg e)],[an]⟩],Pw.unc4 (Pw.j0g)⟩,⟨2,[sO 0,sI,sI,sC 58 [],sI,sI,.b (.lst 60 bg e)],[iT,iT,iT,iT,an],[⟨.exit 2,[sO 0,sI,sI,sC 58 [],sI,.b (.lst 60 bg e)],[iT,iT,iT,an]⟩],Pw.unc5 (Pw.j0r)⟩]
 keep:=[(0,⟨[0,1,2,3,8],[0],[],[]⟩),(2,⟨[0,1,2,3,8,9],[0],[],[]⟩)]
 keepX:=[(0,.exit 0,⟨[],[0],[],[]⟩),(2,.exit 2,⟨[0,1,2,3,8],[0],[],[]⟩)]
 dw:=[(6,[[],[],[],[],[],[],[],[],[],[],[],[],[],[],[],[0],[],[0]])]
theorem j8i:aH QR:=
 cOf aK aM j8P QR Tryz.func150 (ja _d j) (ja (λh=>by kernel_rfl) (ja (λh=>by kernel_rfl) j))
def QS:Con:=⟨238,[.rl 60 an,.v iT,.v iT,.v iT,.clo 58 []],[an,iT,iT,iT],⟨[],[.rl an]⟩,[an],Pw.unc4 Pw.j0A⟩
def jac:FnD where
 N:=38
 np:=5
 ds:=[⟨0,[sO 0,sI,sI,sI,sI,.b (.lst 60 bg e)],[iT,iT,iT,iT,an],[⟨.exit 0,[.b (.lst 60 bg e)],[an]⟩],Pw.unc5 (Pw.j0H)⟩]
 keep:=[(0,⟨[0,1,2,3,10],[0],[],[]⟩)]
 keepX:=[(0,.exit 0,⟨[],[0],[],[]⟩)]
 dw:=[(3,[[],[],[],[],[],[],[],[],[],[],[],[],[],[],[],[],[],[],[],[],[],[0],[],[0]])]
theorem j9N:aH QS:=
 cOf aK aM jac QS Tryz.func238 j (ja (λh=>by kernel_rfl) j)
def QT:Con:=⟨200,[.rl 60 an,.v iT,.v iT,.v iT,.clo 58 []],[an,iT,iT,iT],⟨[],[.rl an]⟩,[an],Pw.unc4 Pw.j1c⟩
def jbj:FnD where
 N:=58
 np:=5
 cs:=[QS]
 ds:=[⟨0,[sO 0,sI,sC 58 [],sI,sI,.b (.lst 60 bg e)],[iT,iT,iT,an],[⟨.exit 0,[sO 0,sI,sC 58 [],sI,.b (.lst 60 bg e)],[iT,iT,an]⟩],Pw.unc4 (Pw.j1A)⟩]
 modes:=[(238,[k,e,e,e,e])]
 keep:=[(0,⟨[0,2,4,10,11],[0],[],[]⟩)]
 keepX:=[(0,.exit 0,⟨[0,2,4,10],[0],[],[]⟩)]
theorem jb9:aH QT:=
 cOf aK aM jbj QT Tryz.func200 (ja j9N j) (ja (λh=>by kernel_rfl) j)
def _e:Con:=⟨151,[.rl 60 an,.v iT,.v iT,.v iT,.clo 58 []],[an,iT,iT,iT],⟨[],[.rl an]⟩,[an],λh=>Pw.j1C h.1 h.2.1 h.2.2.1 h.2.2.2⟩
def KA(g:HL [an,iT,iT,iT]->l (HL [an])):Con:=⟨151,[.rl 60 an,.v iT,.v iT,.v iT,.clo 58 []],[an,iT,iT,iT],⟨[],[.rl an]⟩,[an],g⟩
def jau(g:HL [an,iT,iT,iT]->l (HL [an])):FnD where
 N:=220
 np:=5
 cs:=[KA g,Kz,QT]
 ds:=[⟨0,[sO 0,sI,sC 58 [],sI,sI,.b (.lst 60 bg e)],[iT,iT,iT,an],[⟨.exit 0,[sO 0,sI,sI,.b (.lst 60 bg e)],[iT,iT,an]⟩],Pw.unc4 (Pw.j0M (λv0 v1 v2 v3=>g (v0,v1,v2,v3)))⟩,⟨2,[sO 0,sI,sI,.b (.lst 60 bg e)],[iT,iT,an],[⟨.exit 2,[.b (.lst 60 bg e)],[an]⟩],Pw.unc3 (Pw.j0N (λv0 v1 v2 v3=>g (v0,v1,v2,v3)))⟩,⟨4,[sO 0,sI,sC 58 [],sI,sI,.b (.lst 60 bg e)],[iT,iT,iT,an],[⟨.exit 4,[sO 0,sI,sI,.b (.lst 60 bg e)],[iT,iT,an]⟩],Pw.unc4 (Pw.j0O (λv0 v1 v2 v3=>g (v0,v1,v2,v3)))⟩,⟨6,[sO 0,sI,sI,.b (.lst 60 bg e)],[iT,iT,an],[⟨.exit 6,[.b (.lst 60 bg e)],[an]⟩],Pw.unc3 (Pw.j0P (λv0 v1 v2 v3=>g (v0,v1,v2,v3)))⟩,⟨8,[sO 0,sI,sI,sI,sC 58 [],sI,sI,sI,sI,sI,.b (.lst 60 bg e)],[iT,iT,iT,iT,iT,iT,iT,iT,an],[⟨.exit 8,[sO 0,sI,sI,sI,sC 58 [],sI,sI,sI,.b (.lst 60 bg e)],[iT,iT,iT,iT,iT,iT,an]⟩],Pw.unc9 (Pw.j0Q (λv0 v1 v2 v3=>g (v0,v1,v2,v3)))⟩]
 modes:=[(151,[k,e,e,e,e]),(200,[k,e,e,e,e])]
 keep:=[(0,⟨[0,1,4,10,11],[0],[],[]⟩),(2,⟨[0,10,13],[0],[],[]⟩),(4,⟨[0,2,4,14,15],[0],[],[]⟩),(6,⟨[0,14,17],[0],[],[]⟩),(8,⟨[0,1,2,3,4,18,19,20,21,22],[0],[],[]⟩)]
 keepX:=[(0,.exit 0,⟨[0,1,10],[0],[],[]⟩),(2,.exit 2,⟨[],[0],[],[]⟩),(4,.exit 4,⟨[0,2,14],[0],[],[]⟩),(6,.exit 6,⟨[],[0],[],[]⟩),(8,.exit 8,⟨[0,1,2,3,4,18,19,20],[0],[],[]⟩)]
 dw:=[(11,[[],[],[],[],[],[],[],[],[],[],[],[],[],[],[],[0],[],[0]]),(23,[[],[],[],[],[],[],[],[],[],[],[],[],[],[],[],[0],[],[0]])]
theorem j9u(g:HL [an,iT,iT,iT]->l (HL [an]))(hg:aH (KA g)):aH (KA (Pw.j0p g)):=
 cOf aK aM (jau g) (KA (Pw.j0p g)) Tryz.func151 (ja hg (ja _d (ja jb9 j))) (ja (λh=>by kernel_rfl) (ja (λh=>by kernel_rfl) (ja (λh=>by kernel_rfl) (ja (λh=>by kernel_rfl) (ja (λh=>by kernel_rfl) j)))))
theorem jad:aH _e:=NZ (f:=151) (ps:=[.rl 60 an,.v iT,.v iT,.v iT,.clo 58 []]) (ts:=[an,iT,iT,iT]) (rp:=⟨[],[.rl an]⟩) (rs:=[an]) (B:=Pw.j0p) j9u
end Go.Proofs.Pk
