/- Contracts. -/
import Derived.Test.YtmccfdihkphfaaaGreatCECon4
open Bool renaming false->e,true->k
open _root_ renaming trivial->j
noncomputable section
open Go Go.Lft
set_option linter.unusedVariables false
set_option maxRecDepth 100000
namespace Go.Proofs.Pk
def Sw:Con:=⟨235,[.v eE,.v bE,.v iT,.v iT],[eE,bE,iT,iT],⟨[.own 59 af],[]⟩,[af],Pw.unc4 Pw.j8D⟩
def jnG:FnD where
 N:=90
 np:=4
 cs:=[Dp,Sq,Sr,GA,Sv]
 ro:=[k]
 dw:=[(7,[[],[],[],[],[],[],[],[],[],[],[3584],[]]),(10,[[],[],[],[],[],[],[],[],[],[],[],[4608],[4672],[]]),(12,[[],[],[],[],[],[],[],[],[],[],[],[5568],[5632],[]])]
theorem jmG:aJ Sw:=
 cOf aM aN jnG Sw Tryz.func235 (ja KE (ja jqb (ja jnF (ja Su (ja jrb j))))) j
def Sz:Con:=⟨159,[.v cA,.v iT],[cA,iT],⟨[.v iT],[]⟩,[iT],Pw.unc2 Pw.j93⟩
def jlt:FnD where
 N:=10
 np:=2
 cs:=[KB,KC]
theorem jko:aJ Sz:=
 cOf aM aN jlt Sz Tryz.func159 (ja Η (ja Θ j)) j
def SC:Con:=⟨158,[.v iT],[iT],⟨[.v aR],[]⟩,[aR],λh=>Pw.jk5 h⟩
def jvr:FnD where
 N:=17
 np:=1
theorem jtv:aJ SC:=
 cOf aM aN jvr SC Tryz.func158 j j
def SD:Con:=⟨105,[.v cA,.v iT],[cA,iT],⟨[.v aR],[]⟩,[aR],Pw.unc2 Pw.j1V⟩
def jmH:FnD where
 N:=11
 np:=2
 cs:=[Sz,SC]
theorem jlu:aJ SD:=
 cOf aM aN jmH SD Tryz.func105 (ja jko (ja jtv j)) j
def SE:Con:=⟨236,[.v cA,.v bE,.v iT],[cA,bE,iT],⟨[.v iT],[]⟩,[iT],Pw.unc3 Pw.j6b⟩
def jqc:FnD where
 N:=84
 np:=3
 cs:=[KA,Dp,SD]
 ds:=[⟨0,[sI,sB 192 0,sB 256 0,sI,.b (.cell [.d iT,.d af] e),.b (.cell [.d .str,.d iT,.d iT,.d iT,.d iT,.d iT,.d (.list iT),.d af,.d iT,.d iT] e)],[iT,iT,iT,af,.str,iT,iT,iT,iT,iT,(.list iT),af,iT,iT],[⟨.exit 0,[sI,sB 192 0,sB 256 0,sI,.b (.cell [.d iT,.d af] e),.b (.cell [.d .str,.d iT,.d iT,.d iT,.d iT,.d iT,.d (.list iT),.d af,.d iT,.d iT] e)],[iT,iT,iT,af,.str,iT,iT,iT,iT,iT,(.list iT),af,iT,iT]⟩],Pw.u8 Pw.unc6 (Pw.j4o)⟩,⟨2,[sI,sB 192 0,sB 256 0,sI,.b (.cell [.d iT,.d af] e),.b (.cell [.d .str,.d iT,.d iT,.d iT,.d iT,.d iT,.d (.list iT),.d af,.d iT,.d iT] e)],[iT,iT,iT,af,.str,iT,iT,iT,iT,iT,(.list iT),af,iT,iT],[⟨.ret,[sI],[iT]⟩],Pw.u8 Pw.unc6 (Pw.j6a)⟩]
 keep:=[(0,⟨[2,3,4,9],[192,256],[],[]⟩),(2,⟨[2,3,4,9],[192,256],[],[]⟩)]
 keepX:=[(0,.exit 0,⟨[2,3,4,9],[192,256],[],[]⟩),(2,.ret,⟨[6],[],[],[]⟩)]
theorem jox:aJ SE:=
 cOf aM aN jqc SE Tryz.func236 (ja Ζ (ja KE (ja jlu j))) (ja (λh=>by kernel_rfl) (ja (λh=>by kernel_rfl) j))
def GB:Con:=⟨120,[.v aF],[aF],⟨[.own 123 aF],[]⟩,[aF],λh=>Pw.jc5 h⟩
def jvs:FnD where
 N:=57
 np:=1
 ds:=[⟨0,[sO 1000000,sD aF,sI,sI,.b (.lst 123 aT e)],[aF,iT,iT,aF],[⟨.exit 0,[sO 1500100,.b (.lst 123 aT e)],[aF]⟩],Pw.unc4 (Pw.j6c)⟩]
 keep:=[(0,⟨[3,7,8,9],[],[⟨1000000,123,aT,[.slot 3],e⟩],[]⟩)]
 keepX:=[(0,.exit 0,⟨[3],[],[⟨1500100,123,aT,[.slot 3],e⟩],[]⟩)]
 ro:=[k]
theorem SF:aJ GB:=
 cOf aM aN jvs GB Tryz.func120 j (ja (λh=>by kernel_rfl) j)
def SH:Con:=⟨170,[.v eE,.v bE,.v iT,.v iT],[eE,bE,iT,iT],⟨[.own 123 aF],[]⟩,[aF],Pw.unc4 Pw.j3s⟩
def jkp:FnD where
 N:=95
 np:=4
 cs:=[Dp,Sw,SE,GB]
 ds:=[⟨0,[sI,sB 320 0,sO 1000000,sB 640 0,sI,sI,sI,sO 1000001,sI,sI,.b (.cell [.d .str,.d iT,.d iT,.d iT,.d iT,.d iT,.d (.list iT),.d af,.d iT,.d iT] e),.b (.cell [.d iT,.d af] e),.b (.lst 123 aT e),.b (.lst 59 aR e)],[iT,iT,iT,iT,iT,iT,.str,iT,iT,iT,iT,iT,(.list iT),af,iT,iT,iT,af,aF,af],[⟨.exit 0,[sI,sO 1500100,sI,.b (.lst 123 aT e)],[iT,iT,aF]⟩],Pw.u8 (Pw.u8 Pw.unc4) (Pw.j2B)⟩,⟨2,[sI,sB 320 0,sO 1002000,sB 640 0,sI,sI,sI,sB 960 0,sO 1002001,sI,sI,.b (.cell [.d .str,.d iT,.d iT,.d iT,.d iT,.d iT,.d (.list iT),.d af,.d iT,.d iT] e),.b (.cell [.d iT,.d af] e),.b (.cell [.d iT,.d iT] e),.b (.lst 123 aT e),.b (.lst 59 aR e)],[iT,iT,iT,iT,iT,iT,.str,iT,iT,iT,iT,iT,(.list iT),af,iT,iT,iT,af,iT,iT,aF,af],[⟨.exit 2,[sI,sB 320 0,sO 1502300,sB 640 0,sI,sI,sI,sO 1502301,sI,sI,.b (.cell [.d .str,.d iT,.d iT,.d iT,.d iT,.d iT,.d (.list iT),.d af,.d iT,.d iT] e),.b (.cell [.d iT,.d af] e),.b (.lst 123 aT e),.b (.lst 59 aR e)],[iT,iT,iT,iT,iT,iT,.str,iT,iT,iT,iT,iT,(.list iT),af,iT,iT,iT,af,aF,af]⟩],Pw.u8 (Pw.u8 Pw.unc6) (Pw.j3S)⟩]
 keep:=[(0,⟨[3,5,9,10,11,12,13,30,31,32],[320,640],[⟨1000000,123,aT,[.slot 9],e⟩,⟨1000001,59,aR,[.slot 30],e⟩],[]⟩),(2,⟨[3,5,9,10,11,12,13,15,30,31,32],[320,640,960],[⟨1002000,123,aT,[.slot 9],e⟩,⟨1002001,59,aR,[.slot 30],e⟩],[]⟩)]
 keepX:=[(0,.exit 0,⟨[3,9,11],[],[⟨1500100,123,aT,[.slot 9],e⟩],[]⟩),(2,.exit 2,⟨[3,5,9,10,11,12,13,30,31,32],[320,640],[⟨1502300,123,aT,[.slot 9],e⟩,⟨1502301,59,aR,[.slot 30],e⟩],[]⟩)]
 ro:=[k]
 dw:=[(17,[[],[],[],[],[],[],[],[],[],[],[],[],[],[5376],[5440,1002000],[]])]
theorem jjG:aJ SH:=
 cOf aM aN jkp SH Tryz.func170 (ja KE (ja jmG (ja jox (ja SF j)))) (ja (λh=>by kernel_rfl) (ja (λh=>by kernel_rfl) j))
def SI:Con:=⟨234,[.v cD,.v iT],[cD,iT],⟨[.own 59 af],[]⟩,[af],Pw.unc2 Pw.j8E⟩
def jrc:FnD where
 N:=35
 np:=2
 cs:=[Bb]
 ds:=[⟨0,[sI,sO 1000000,sD ak,sI,sI,.b (.lst 59 aR e)],[iT,ak,iT,iT,af],[⟨.exit 0,[sO 1500100,.b (.lst 59 aR e)],[af]⟩],Pw.unc5 (Pw.j5b)⟩]
 keep:=[(0,⟨[1,5,9,10,11],[],[⟨1000000,59,aR,[.slot 5],e⟩],[]⟩)]
 keepX:=[(0,.exit 0,⟨[5],[],[⟨1500100,59,aR,[.slot 5],e⟩],[]⟩)]
 ro:=[k]
theorem jqd:aJ SI:=
 cOf aM aN jrc SI Tryz.func234 (ja Gz j) (ja (λh=>by kernel_rfl) j)
def SJ:Con:=⟨169,[.v cD,.v aF],[cD,aF],⟨[.own 123 aF],[]⟩,[aF],Pw.unc2 Pw.jaW⟩
def jqe:FnD where
 N:=68
 np:=2
 cs:=[GA,SI]
 ds:=[⟨0,[sB 128 0,sO 1000000,sO 1000001,sD aF,sI,sI,.b (.cell [.d .str,.d bh,.d ak] e),.b (.lst 4294967575 cA e),.b (.lst 123 aT e)],[aF,iT,iT,.str,bh,ak,cX,aF],[⟨.exit 0,[sO 1500100,.b (.lst 123 aT e)],[aF]⟩],Pw.unc8 (Pw.j4q)⟩,⟨2,[sB 128 0,sO 1002000,sO 1002001,sB 512 0,sD aF,sI,sI,sO 1002002,sI,sI,.b (.cell [.d .str,.d bh,.d ak] e),.b (.cell [.d iT,.d iT,.d iT] e),.b (.lst 4294967575 cA e),.b (.lst 123 aT e),.b (.lst 59 aR e)],[aF,iT,iT,iT,iT,.str,bh,ak,iT,iT,iT,cX,aF,af],[⟨.exit 2,[sB 128 0,sO 1502300,sO 1502301,sD aF,sI,sI,.b (.cell [.d .str,.d bh,.d ak] e),.b (.lst 4294967575 cA e),.b (.lst 123 aT e)],[aF,iT,iT,.str,bh,ak,cX,aF]⟩],Pw.u8 Pw.unc6 (Pw.j4p)⟩]
 keep:=[(0,⟨[2,5,6,14,15,16],[128],[⟨1000000,4294967575,cA,[.slot 5],e⟩,⟨1000001,123,aT,[.slot 6],e⟩],[]⟩),(2,⟨[2,5,6,8,14,15,16,49,50,51],[128,512],[⟨1002000,4294967575,cA,[.slot 5],e⟩,⟨1002001,123,aT,[.slot 6],e⟩,⟨1002002,59,aR,[.slot 49],e⟩],[]⟩)]
 keepX:=[(0,.exit 0,⟨[6],[],[⟨1500100,123,aT,[.slot 6],e⟩],[]⟩),(2,.exit 2,⟨[2,5,6,14,15,16],[128],[⟨1502300,4294967575,cA,[.slot 5],e⟩,⟨1502301,123,aT,[.slot 6],e⟩],[]⟩)]
 ro:=[k]
 dw:=[(9,[[],[],[],[],[],[],[2432],[2432,1000000]])]
theorem joy:aJ SJ:=
 cOf aM aN jqe SJ Tryz.func169 (ja Su (ja jqd j)) (ja (λh=>by kernel_rfl) (ja (λh=>by kernel_rfl) j))
def SK:Con:=⟨168,[.v aF,.v af],[aF,af],⟨[.own 123 aF],[]⟩,[aF],Pw.unc2 Pw.jfR⟩
def jrd:FnD where
 N:=72
 np:=2
 ds:=[⟨0,[sD aF,sD af,sO 1000000,sI,sI,.b (.lst 123 aT e)],[aF,af,iT,iT,aF],[⟨.exit 0,[sO 1500100,.b (.lst 123 aT e)],[aF]⟩],Pw.unc5 (Pw.j6I)⟩]
 keep:=[(0,⟨[0,1,5,6,7],[],[⟨1000000,123,aT,[.slot 5],e⟩],[]⟩)]
 keepX:=[(0,.exit 0,⟨[5],[],[⟨1500100,123,aT,[.slot 5],e⟩],[]⟩)]
 ro:=[k]
 dw:=[(4,[[],[],[],[],[],[],[],[],[],[],[],[],[],[],[],[],[],[],[],[],[],[],[],[],[],[],[],[],[512],[512]])]
theorem jqf:aJ SK:=
 cOf aM aN jrd SK Tryz.func168 j (ja (λh=>by kernel_rfl) j)
def SM:Con:=⟨172,[.v aF],[aF],⟨[.own 59 af],[]⟩,[af],λh=>Pw.jeI h⟩
def jtw:FnD where
 N:=23
 np:=1
 cs:=[Bb]
 ds:=[⟨0,[sO 1000000,sD aF,sI,sI,.b (.lst 59 aR e)],[aF,iT,iT,af],[⟨.exit 0,[sO 1500100,.b (.lst 59 aR e)],[af]⟩],Pw.unc4 (Pw.j5I)⟩]
 keep:=[(0,⟨[3,6,7,8],[],[⟨1000000,59,aR,[.slot 3],e⟩],[]⟩)]
 keepX:=[(0,.exit 0,⟨[3],[],[⟨1500100,59,aR,[.slot 3],e⟩],[]⟩)]
 ro:=[k]
theorem jre:aJ SM:=
 cOf aM aN jtw SM Tryz.func172 (ja Gz j) (ja (λh=>by kernel_rfl) j)
def SN:Con:=⟨174,[.v aT,.v aT],[aT,aT],⟨[.v iT],[]⟩,[iT],Pw.unc2 Pw.j43⟩
def jjH:FnD where
 N:=10
 np:=2
theorem ju4:aJ SN:=
 cOf aM aN jjH SN Tryz.func174 j j
def Τ:Con:=⟨173,[.rl 123 aF,.clo 174 []],[aF],⟨[],[.rl aF]⟩,[aF],λh=>Pw.j0A h⟩
def jaL:FnD where
 N:=14
 np:=2
 cs:=[SN]
theorem j3i:aJ Τ:=
 ZH Tryz.sort173 (aT) rfl 123 (by kernel_rfl) Tryz.isAgg123 Tryz.sizeOf123 _ 174 (enters_of Tryz.func174 (by kernel_rfl) rfl) jwT jwU 173 rfl
def SO:Con:=⟨117,[.v eE,.v cD,.v iT,.v iT],[eE,cD,iT,iT],⟨[.own 123 aF],[]⟩,[aF],Pw.unc4 Pw.j5Z⟩
def jmI:FnD where
 N:=63
 np:=4
 cs:=[Sk,GA,GB,SH,SJ,SK,SM,Τ]
 ds:=[⟨0,[sI,sB 256 0,sB 320 0,sB 384 0,sB 448 0,sB 576 0,sB 640 0,sC 233 [.p [bh]],.b (.cell [.d al,.d au,.d ar,.d ay,.d cX] e),.b (.cell [.d .str,.d bh,.d ak] e),.b (.cell [.d iT] e),.b (.cell [.d iT] e),.b (.cell [.ol 1000000] e),.b (.cell [.ol 1000001] e),.b (.lst 59 aR e),.b (.lst 123 aT e)],[iT,bh,al,au,ar,ay,cX,.str,bh,ak,iT,iT,af,aF],[⟨.normal,[sB 576 0,sB 640 0,.b (.cell [.ol 1500050] e),.b (.cell [.ol 1500051] e),.b (.lst 59 aR e),.b (.lst 123 aT e)],[af,aF]⟩],Pw.u8 Pw.unc6 (Pw.j38)⟩,⟨2,[sB 640 0,sO 1002000,sI,sI,.b (.cell [.ol 1002001] e),.b (.lst 59 aR e),.b (.lst 123 aT e)],[iT,iT,af,aF],[⟨.exit 2,[sB 640 0,.b (.cell [.ol 1502300] e),.b (.lst 123 aT e)],[aF]⟩],Pw.unc4 (Pw.j39)⟩]
 modes:=[(173,[k,e])]
 keep:=[(0,⟨[4,5,6,7,9,10,25],[256,320,384,448,576,640],[⟨1000000,59,aR,[.cell 576 0],e⟩,⟨1000001,123,aT,[.cell 640 0],e⟩],[]⟩),(2,⟨[10,44,45,46],[640],[⟨1002000,59,aR,[.slot 44],e⟩,⟨1002001,123,aT,[.cell 640 0],e⟩],[]⟩)]
 keepX:=[(0,.normal,⟨[9,10],[576,640],[⟨1500050,59,aR,[.cell 576 0],e⟩,⟨1500051,123,aT,[.cell 640 0],e⟩],[]⟩),(2,.exit 2,⟨[10],[640],[⟨1502300,123,aT,[.cell 640 0],e⟩],[]⟩)]
 ro:=[k]
 dw:=[(7,[[],[],[],[],[],[2112],[2176],[],[2304],[]]),(9,[[],[],[2688],[2752],[576]])]
 bw:=[(233,(e,bE))]
theorem jEr:ItOK Tryz.prog 233 e (bE):=jJL <| jIw aM Tryz.func233 (fn:=Tryz.f233) (A0:=bwA Tryz.f233 0) (A1:=bwA Tryz.f233 1) (A2:=bwA Tryz.f233 2) (A3:=bwA Tryz.f233 3) (by kernel_rfl) (by kernel_rfl) (by kernel_rfl) (by kernel_rfl) (by kernel_rfl) (by kernel_rfl) (by kernel_rfl) (by kernel_rfl) (by kernel_rfl) (by kernel_rfl) (by kernel_rfl) ⟨(by kernel_rfl),(by kernel_rfl)⟩
 (λxs=>by kernel_rfl) (λi=>by kernel_rfl) (λi=>by kernel_rfl) (λxs i=>by kernel_rfl) (λb i=>by kernel_rfl)
theorem jlv:aJ SO:=
 cOf aM aN jmI SO Tryz.func117 (ja j99 (ja Su (ja SF (ja jjG (ja joy (ja jqf (ja jre (ja j3i j)))))))) (ja (λh=>by kernel_rfl) (ja (λh=>by kernel_rfl) j)) (ja jEr j)
def SP:Con:=⟨238,[.v iT],[iT],⟨[.v .bool],[]⟩,[.bool],λh=>Pw.jdX h⟩
def jqg:FnD where
 N:=6
 np:=1
theorem joz:aJ SP:=
 cOf aM aN jqg SP Tryz.func238 j j
def SQ:Con:=⟨175,[.v iT,.v iT],[iT,iT],⟨[.v .bool],[]⟩,[.bool],Pw.unc2 Pw.jfS⟩
def jrf:FnD where
 N:=17
 np:=2
 cs:=[SP]
theorem jqh:aJ SQ:=
 cOf aM aN jrf SQ Tryz.func175 (ja joz j) j
def SR:Con:=⟨176,[.v iT],[iT],⟨[.v .bool],[]⟩,[.bool],λh=>Pw.ja8 h⟩
def jmJ:FnD where
 N:=6
 np:=1
theorem jlw:aJ SR:=
 cOf aM aN jmJ SR Tryz.func176 j j
def SS:Con:=⟨118,[.v (.list iT),.v iT],[(.list iT),iT],⟨[.v iT,.v .bool],[]⟩,[iT,.bool],Pw.unc2 Pw.j3t⟩
def jdF:FnD where
 N:=54
 np:=2
 cs:=[SQ,SR]
 ds:=[⟨0,[sD (.list iT),sI,sI,sI,sI],[(.list iT),iT,iT,iT,iT],[⟨.exit 0,[sD (.list iT),sI,sI,sI],[(.list iT),iT,iT,iT]⟩],Pw.unc5 (Pw.j1M)⟩]
 keep:=[(0,⟨[0,1,6,7,8],[],[],[]⟩)]
 keepX:=[(0,.exit 0,⟨[0,1,6,7],[],[],[]⟩)]
theorem jdd:aJ SS:=
 cOf aM aN jdF SS Tryz.func118 (ja jqh (ja jlw j)) (ja (λh=>by kernel_rfl) j)
def SU:Con:=⟨177,[.v bc,.v iT],[bc,iT],⟨[.v .bool],[]⟩,[.bool],Pw.unc2 Pw.jl5⟩
def jtx:FnD where
 N:=15
 np:=2
theorem jrg:aJ SU:=
 cOf aM aN jtx SU Tryz.func177 j j
def SX:Con:=⟨119,[.v ak,.v iT,.v iT],[ak,iT,iT],⟨[.v iT],[]⟩,[iT],Pw.unc3 Pw.jmd⟩
def jxa:FnD where
 N:=51
 np:=3
 cs:=[SU]
 ds:=[⟨0,[sI,sI,sD ak,sI,sI],[iT,iT,ak,iT,iT],[⟨.exit 0,[sI],[iT]⟩],Pw.unc5 (Pw.j6T)⟩]
 keep:=[(0,⟨[1,2,9,10,11],[],[],[]⟩)]
 keepX:=[(0,.exit 0,⟨[1],[],[],[]⟩)]
theorem jvt:aJ SX:=
 cOf aM aN jxa SX Tryz.func119 (ja jrg j) (ja (λh=>by kernel_rfl) j)
end Go.Proofs.Pk
