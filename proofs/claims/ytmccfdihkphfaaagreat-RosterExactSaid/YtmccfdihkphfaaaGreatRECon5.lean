/- cb: each given function is its plain function, printed by a program. -/
import Derived.Test.YtmccfdihkphfaaaGreatRECon4
open Bool renaming false->e,true->k
open _root_ renaming trivial->j
noncomputable section
open Go Go.Lft
set_option linter.unusedVariables false
set_option maxRecDepth 100000
namespace Go.Proofs.Pk
def Qv:Con:=⟨234,[.v cB,.v iT],[cB,iT],⟨[.own 59 af],[]⟩,[af],Pw.unc2 Pw.j7p⟩
def jp2:FnD where
 N:=35
 np:=2
 cs:=[Ao]
 ds:=[⟨0,[sI,sO 1000000,sD bt,sI,sI,.b (.lst 59 aT e)],[iT,bt,iT,iT,af],[⟨.exit 0,[sO 1500100,.b (.lst 59 aT e)],[af]⟩],Pw.unc5 (Pw.j4g)⟩]
 keep:=[(0,⟨[1,5,9,10,11],[],[⟨1000000,59,aT,[.slot 5],e⟩],[]⟩)]
 keepX:=[(0,.exit 0,⟨[5],[],[⟨1500100,59,aT,[.slot 5],e⟩],[]⟩)]
 ro:=[k]
theorem jo9:aM Qv:=
 cOf aN aO jp2 Qv Tryz.func234 (ja FY j) (ja (λh=>by kernel_rfl) j)
def Qw:Con:=⟨169,[.v cB,.v aH],[cB,aH],⟨[.own 123 aH],[]⟩,[aH],Pw.unc2 Pw.j9K⟩
def joa:FnD where
 N:=68
 np:=2
 cs:=[FZ,Qv]
 ds:=[⟨0,[sB 128 0,sO 1000000,sO 1000001,sD aH,sI,sI,.b (.cell [.d .str,.d bC,.d bt] e),.b (.lst 4294967575 df e),.b (.lst 123 aF e)],[aH,iT,iT,.str,bC,bt,eM,aH],[⟨.exit 0,[sO 1500100,.b (.lst 123 aF e)],[aH]⟩],Pw.unc8 (Pw.j3A)⟩,⟨2,[sB 128 0,sO 1002000,sO 1002001,sB 512 0,sD aH,sI,sI,sO 1002002,sI,sI,.b (.cell [.d .str,.d bC,.d bt] e),.b (.cell [.d iT,.d iT,.d iT] e),.b (.lst 4294967575 df e),.b (.lst 123 aF e),.b (.lst 59 aT e)],[aH,iT,iT,iT,iT,.str,bC,bt,iT,iT,iT,eM,aH,af],[⟨.exit 2,[sB 128 0,sO 1502300,sO 1502301,sD aH,sI,sI,.b (.cell [.d .str,.d bC,.d bt] e),.b (.lst 4294967575 df e),.b (.lst 123 aF e)],[aH,iT,iT,.str,bC,bt,eM,aH]⟩],Pw.u8 Pw.unc6 (Pw.j3z)⟩]
 keep:=[(0,⟨[2,5,6,14,15,16],[128],[⟨1000000,4294967575,df,[.slot 5],e⟩,⟨1000001,123,aF,[.slot 6],e⟩],[]⟩),(2,⟨[2,5,6,8,14,15,16,49,50,51],[128,512],[⟨1002000,4294967575,df,[.slot 5],e⟩,⟨1002001,123,aF,[.slot 6],e⟩,⟨1002002,59,aT,[.slot 49],e⟩],[]⟩)]
 keepX:=[(0,.exit 0,⟨[6],[],[⟨1500100,123,aF,[.slot 6],e⟩],[]⟩),(2,.exit 2,⟨[2,5,6,14,15,16],[128],[⟨1502300,4294967575,df,[.slot 5],e⟩,⟨1502301,123,aF,[.slot 6],e⟩],[]⟩)]
 ro:=[k]
 dw:=[(9,[[],[],[],[],[],[],[2432],[2432,1000000]])]
theorem jmp:aM Qw:=
 cOf aN aO joa Qw Tryz.func169 (ja Qo (ja jo9 j)) (ja (λh=>by kernel_rfl) (ja (λh=>by kernel_rfl) j))
def Qx:Con:=⟨168,[.v aH,.v af],[aH,af],⟨[.own 123 aH],[]⟩,[aH],Pw.unc2 Pw.je3⟩
def jp3:FnD where
 N:=72
 np:=2
 ds:=[⟨0,[sD aH,sD af,sO 1000000,sI,sI,.b (.lst 123 aF e)],[aH,af,iT,iT,aH],[⟨.exit 0,[sO 1500100,.b (.lst 123 aF e)],[aH]⟩],Pw.unc5 (Pw.j5H)⟩]
 keep:=[(0,⟨[0,1,5,6,7],[],[⟨1000000,123,aF,[.slot 5],e⟩],[]⟩)]
 keepX:=[(0,.exit 0,⟨[5],[],[⟨1500100,123,aF,[.slot 5],e⟩],[]⟩)]
 ro:=[k]
 dw:=[(4,[[],[],[],[],[],[],[],[],[],[],[],[],[],[],[],[],[],[],[],[],[],[],[],[],[],[],[],[],[512],[512]])]
theorem job:aM Qx:=
 cOf aN aO jp3 Qx Tryz.func168 j (ja (λh=>by kernel_rfl) j)
def Qy:Con:=⟨172,[.v aH],[aH],⟨[.own 59 af],[]⟩,[af],λh=>Pw.jcU h⟩
def jre:FnD where
 N:=23
 np:=1
 cs:=[Ao]
 ds:=[⟨0,[sO 1000000,sD aH,sI,sI,.b (.lst 59 aT e)],[aH,iT,iT,af],[⟨.exit 0,[sO 1500100,.b (.lst 59 aT e)],[af]⟩],Pw.unc4 (Pw.j4F)⟩]
 keep:=[(0,⟨[3,6,7,8],[],[⟨1000000,59,aT,[.slot 3],e⟩],[]⟩)]
 keepX:=[(0,.exit 0,⟨[3],[],[⟨1500100,59,aT,[.slot 3],e⟩],[]⟩)]
 ro:=[k]
theorem jp4:aM Qy:=
 cOf aN aO jre Qy Tryz.func172 (ja FY j) (ja (λh=>by kernel_rfl) j)
def Qz:Con:=⟨174,[.v aF,.v aF],[aF,aF],⟨[.v iT],[]⟩,[iT],Pw.unc2 Pw.j3f⟩
def jhD:FnD where
 N:=10
 np:=2
theorem jrI:aM Qz:=
 cOf aN aO jhD Qz Tryz.func174 j j
def ZO:Con:=⟨173,[.rl 123 aH,.clo 174 []],[aH],⟨[],[.rl aH]⟩,[aH],λh=>Pw.j0v h⟩
def j9u:FnD where
 N:=14
 np:=2
 cs:=[Qz]
theorem j2E:aM ZO:=
 Xr Tryz.sort173 (aF) rfl 123 (by kernel_rfl) Tryz.isAgg123 Tryz.sizeOf123 _ 174 (enters_of Tryz.func174 (by kernel_rfl) rfl) jus jut 173 rfl
def QA:Con:=⟨117,[.v dX,.v cB,.v iT,.v iT],[dX,cB,iT,iT],⟨[.own 123 aH],[]⟩,[aH],Pw.unc4 Pw.j4V⟩
def jkF:FnD where
 N:=63
 np:=4
 cs:=[Kf,FZ,F0,Qu,Qw,Qx,Qy,ZO]
 ds:=[⟨0,[sI,sB 256 0,sB 320 0,sB 384 0,sB 448 0,sB 576 0,sB 640 0,sC 233 [.p [bC]],.b (.cell [.d au,.d ax,.d aw,.d aA,.d eM] e),.b (.cell [.d .str,.d bC,.d bt] e),.b (.cell [.d iT] e),.b (.cell [.d iT] e),.b (.cell [.ol 1000000] e),.b (.cell [.ol 1000001] e),.b (.lst 59 aT e),.b (.lst 123 aF e)],[iT,bC,au,ax,aw,aA,eM,.str,bC,bt,iT,iT,af,aH],[⟨.normal,[sB 576 0,sB 640 0,.b (.cell [.ol 1500050] e),.b (.cell [.ol 1500051] e),.b (.lst 59 aT e),.b (.lst 123 aF e)],[af,aH]⟩],Pw.u8 Pw.unc6 (Pw.j2t)⟩,⟨2,[sB 640 0,sO 1002000,sI,sI,.b (.cell [.ol 1002001] e),.b (.lst 59 aT e),.b (.lst 123 aF e)],[iT,iT,af,aH],[⟨.exit 2,[sB 640 0,.b (.cell [.ol 1502300] e),.b (.lst 123 aF e)],[aH]⟩],Pw.unc4 (Pw.j2u)⟩]
 modes:=[(173,[k,e])]
 keep:=[(0,⟨[4,5,6,7,9,10,25],[256,320,384,448,576,640],[⟨1000000,59,aT,[.cell 576 0],e⟩,⟨1000001,123,aF,[.cell 640 0],e⟩],[]⟩),(2,⟨[10,44,45,46],[640],[⟨1002000,59,aT,[.slot 44],e⟩,⟨1002001,123,aF,[.cell 640 0],e⟩],[]⟩)]
 keepX:=[(0,.normal,⟨[9,10],[576,640],[⟨1500050,59,aT,[.cell 576 0],e⟩,⟨1500051,123,aF,[.cell 640 0],e⟩],[]⟩),(2,.exit 2,⟨[10],[640],[⟨1502300,123,aF,[.cell 640 0],e⟩],[]⟩)]
 ro:=[k]
 dw:=[(7,[[],[],[],[],[],[2112],[2176],[],[2304],[]]),(9,[[],[],[2688],[2752],[576]])]
 bw:=[(233,(e,bD))]
theorem ZP:ItOK Tryz.prog 233 e (bD):=jGw <| jFj aN Tryz.func233 (fn:=Tryz.f233) (A0:=bwA Tryz.f233 0) (A1:=bwA Tryz.f233 1) (A2:=bwA Tryz.f233 2) (A3:=bwA Tryz.f233 3) (by kernel_rfl) (by kernel_rfl) (by kernel_rfl) (by kernel_rfl) (by kernel_rfl) (by kernel_rfl) (by kernel_rfl) (by kernel_rfl) (by kernel_rfl) (by kernel_rfl) (by kernel_rfl) ⟨(by kernel_rfl),(by kernel_rfl)⟩
 (λxs=>by kernel_rfl) (λi=>by kernel_rfl) (λi=>by kernel_rfl) (λxs i=>by kernel_rfl) (λb i=>by kernel_rfl)
theorem jjs:aM QA:=
 cOf aN aO jkF QA Tryz.func117 (ja ZE (ja Qo (ja Qt (ja jhC (ja jmp (ja job (ja jp4 (ja j2E j)))))))) (ja (λh=>by kernel_rfl) (ja (λh=>by kernel_rfl) j)) (ja ZP j)
def QB:Con:=⟨238,[.v iT],[iT],⟨[.v .bool],[]⟩,[.bool],λh=>Pw.jce h⟩
def joc:FnD where
 N:=6
 np:=1
theorem jmq:aM QB:=
 cOf aN aO joc QB Tryz.func238 j j
def QC:Con:=⟨175,[.v iT,.v iT],[iT,iT],⟨[.v .bool],[]⟩,[.bool],Pw.unc2 Pw.je4⟩
def jp5:FnD where
 N:=17
 np:=2
 cs:=[QB]
theorem jod:aM QC:=
 cOf aN aO jp5 QC Tryz.func175 (ja jmq j) j
def QD:Con:=⟨176,[.v iT],[iT],⟨[.v .bool],[]⟩,[.bool],λh=>Pw.j6B h⟩
def jkG:FnD where
 N:=6
 np:=1
theorem jjt:aM QD:=
 cOf aN aO jkG QD Tryz.func176 j j
def Km:Con:=⟨118,[.v (.list iT),.v iT],[(.list iT),iT],⟨[.v iT,.v .bool],[]⟩,[iT,.bool],Pw.unc2 Pw.j0u⟩
def jbV:FnD where
 N:=54
 np:=2
 cs:=[QC,QD]
 ds:=[⟨0,[sD (.list iT),sI,sI,sI,sI],[(.list iT),iT,iT,iT,iT],[⟨.exit 0,[sD (.list iT),sI,sI,sI],[(.list iT),iT,iT,iT]⟩],Pw.unc5 (Pw.j1B)⟩]
 keep:=[(0,⟨[0,1,6,7,8],[],[],[]⟩)]
 keepX:=[(0,.exit 0,⟨[0,1,6,7],[],[],[]⟩)]
theorem ZQ:aM Km:=
 cOf aN aO jbV Km Tryz.func118 (ja jod (ja jjt j)) (ja (λh=>by kernel_rfl) j)
def QE:Con:=⟨177,[.v fw,.v iT],[fw,iT],⟨[.v .bool],[]⟩,[.bool],Pw.unc2 Pw.jj9⟩
def jrf:FnD where
 N:=15
 np:=2
theorem jp6:aM QE:=
 cOf aN aO jrf QE Tryz.func177 j j
def Kn:Con:=⟨119,[.v bt,.v iT,.v iT],[bt,iT,iT],⟨[.v iT],[]⟩,[iT],Pw.unc3 Pw.jfd⟩
def juG:FnD where
 N:=51
 np:=3
 cs:=[QE]
 ds:=[⟨0,[sI,sI,sD bt,sI,sI],[iT,iT,bt,iT,iT],[⟨.exit 0,[sI],[iT]⟩],Pw.unc5 (Pw.j5V)⟩]
 keep:=[(0,⟨[1,2,9,10,11],[],[],[]⟩)]
 keepX:=[(0,.exit 0,⟨[1],[],[],[]⟩)]
theorem ZR:aM Kn:=
 cOf aN aO juG Kn Tryz.func119 (ja jp6 j) (ja (λh=>by kernel_rfl) j)
def Ko:Con:=⟨60,[.v dX,.v cB,.v iT,.v iT],[dX,cB,iT,iT],⟨[.own 123 aH],[]⟩,[aH],Pw.unc4 Pw.j4I⟩
def jly:FnD where
 N:=88
 np:=4
 cs:=[Qc,F0,QA,Km,Kn]
 ds:=[⟨0,[sI,sI,sB 256 0,sB 320 0,sO 1000000,sD bt,sI,sI,.b (.cell [.d au,.d ax,.d aw,.d aA,.d eM] e),.b (.cell [.d .str,.d bC,.d bt] e),.b (.lst 3 iT e)],[iT,iT,bt,iT,iT,au,ax,aw,aA,eM,.str,bC,bt,(.list iT)],[⟨.exit 0,[sI,sI,sB 256 0,sB 320 0,sO 1500100,.b (.cell [.d au,.d ax,.d aw,.d aA,.d eM] e),.b (.cell [.d .str,.d bC,.d bt] e),.b (.lst 3 iT e)],[iT,iT,au,ax,aw,aA,eM,.str,bC,bt,(.list iT)]⟩],Pw.u8 Pw.unc6 (Pw.j2L)⟩,⟨2,[sB 320 0,sO 1002000,sO 1002001,sO 1002002,sI,sI,.b (.cell [.d .str,.d bC,.d bt] e),.b (.lst 3 iT e),.b (.lst 123 aF e),.b (.lst 123 aF e)],[iT,iT,.str,bC,bt,(.list iT),aH,aH],[⟨.exit 2,[sO 1502300,.b (.lst 123 aF e)],[aH]⟩],Pw.unc8 (Pw.j2N)⟩,⟨4,[sB 320 0,sO 1004000,sO 1004001,sB 960 0,sI,sI,sO 1004002,sI,sI,.b (.cell [.d .str,.d bC,.d bt] e),.b (.cell [.d iT,.d iT,.d iT] e),.b (.lst 3 iT e),.b (.lst 123 aF e),.b (.lst 123 aF e)],[iT,iT,iT,iT,.str,bC,bt,iT,iT,iT,(.list iT),aH,aH],[⟨.exit 4,[sB 320 0,sO 1504500,sO 1504501,sO 1504502,sI,sI,.b (.cell [.d .str,.d bC,.d bt] e),.b (.lst 3 iT e),.b (.lst 123 aF e),.b (.lst 123 aF e)],[iT,iT,.str,bC,bt,(.list iT),aH,aH]⟩],Pw.u8 Pw.unc5 (Pw.j2M)⟩]
 keep:=[(0,⟨[2,3,4,5,9,21,22,23],[256,320],[⟨1000000,3,iT,[.slot 9],e⟩],[]⟩),(2,⟨[5,12,13,43,44,45],[320],[⟨1002000,3,iT,[.slot 12],e⟩,⟨1002001,123,aF,[.slot 13],e⟩,⟨1002002,123,aF,[.slot 43],e⟩],[]⟩),(4,⟨[5,12,13,15,16,18,43,44,45],[320,960],[⟨1004000,3,iT,[.slot 12],e⟩,⟨1004001,123,aF,[.slot 13],e⟩,⟨1004002,123,aF,[.slot 43],e⟩],[]⟩)]
 keepX:=[(0,.exit 0,⟨[2,3,4,5,9],[256,320],[⟨1500100,3,iT,[.slot 9],e⟩],[]⟩),(2,.exit 2,⟨[13],[],[⟨1502300,123,aF,[.slot 13],e⟩],[]⟩),(4,.exit 4,⟨[5,12,13,43,44,45],[320],[⟨1504500,3,iT,[.slot 12],e⟩,⟨1504501,123,aF,[.slot 13],e⟩,⟨1504502,123,aF,[.slot 43],e⟩],[]⟩)]
 ro:=[k]
theorem ZS:aM Ko:=
 cOf aN aO jly Ko Tryz.func60 (ja jsV (ja Qt (ja jjs (ja ZQ (ja ZR j))))) (ja (λh=>by kernel_rfl) (ja (λh=>by kernel_rfl) (ja (λh=>by kernel_rfl) j)))
def CB:Con:=⟨18,[.v aB,.v iT,.v iT,.v iT],[aB,iT,iT,iT],⟨[.own 123 aH,.v iT],[]⟩,[aH,iT],Pw.unc4 Pw.j3B⟩
def jlz:FnD where
 N:=37
 np:=4
 cs:=[Kd,Ko]
 ro:=[k,e]
 dw:=[(4,[[],[],[],[],[],[],[],[],[2048],[]])]
theorem Ka:aM CB:=
 cOf aN aO jlz CB Tryz.func18 (ja ZA (ja ZS j)) j
def Kp:Con:=⟨61,[.v aH],[aH],⟨[.clo 121 [.p [aH]]],[]⟩,[aH],λh=>Pw.j8u h⟩
def jmr:FnD where
 N:=4
 np:=1
theorem ZT:aM Kp:=
 cOf aN aO jmr Kp Tryz.func61 j j
def J4:Con:=⟨20,[.v aB,.v iT,.v iT,.v iT],[aB,iT,iT,iT],⟨[.own 42 aH,.v iT],[]⟩,[aH,iT],Pw.unc4 Pw.j8v⟩
def jms:FnD where
 N:=33
 np:=4
 cs:=[CB,Kp]
 ds:=[⟨0,[sI,sB 768 0,sC 121 [.p [aH]],.b (.cell [.ol 1000000] e),.b (.lst 42 aF e)],[iT,aH,aH],[⟨.normal,[sB 768 0,.b (.cell [.ol 1500050] e),.b (.lst 42 aF e)],[aH]⟩],Pw.unc3 (Pw.j38)⟩]
 keep:=[(0,⟨[12,26],[768],[⟨1000000,42,aF,[.cell 768 0],e⟩],[]⟩)]
 keepX:=[(0,.normal,⟨[12],[768],[⟨1500050,42,aF,[.cell 768 0],e⟩],[]⟩)]
 ro:=[k,e]
 bw:=[(121,(k,aF))]
theorem ZU:ItOK Tryz.prog 121 k (aF):=
 jDX aN aO Tryz.func121 (fn:=Tryz.f121) (by kernel_rfl) (by kernel_rfl) (by kernel_rfl) (by kernel_rfl) (by kernel_rfl) (by kernel_rfl) (by kernel_rfl) (by kernel_rfl) (by kernel_rfl) (by kernel_rfl) (by kernel_rfl) (by kernel_rfl)
  (λxs i=>by kernel_rfl) (λi=>by kernel_rfl) (λxs i=>by kernel_rfl) (λb i=>by kernel_rfl)
theorem Zt:aM J4:=
 cOf aN aO jms J4 Tryz.func20 (ja Ka (ja ZT j)) (ja (λh=>by kernel_rfl) j) (ja ZU j)
def QF:Con:=⟨104,[.v aT],[aT],⟨[.v iT],[]⟩,[iT],λh=>Pw.j3p h⟩
def joe:FnD where
 N:=10
 np:=1
 cs:=[JR]
theorem jmt:aM QF:=
 cOf aN aO joe QF Tryz.func104 (ja Ze j) j
def QG:Con:=⟨103,[.v af,.v iT],[af,iT],⟨[.v .bool],[]⟩,[.bool],Pw.unc2 Pw.jmX⟩
def jxs:FnD where
 N:=24
 np:=2
 ds:=[⟨0,[sI,sD af,sI,sI],[iT,af,iT,iT],[⟨.ret,[sD .bool],[.bool]⟩,⟨.exit 0,[],[]⟩],Pw.unc4 (Pw.j6C)⟩]
 keep:=[(0,⟨[1,7,8,9],[],[],[]⟩)]
 keepX:=[(0,.ret,⟨[4],[],[],[]⟩)]
theorem juH:aM QG:=
 cOf aN aO jxs QG Tryz.func103 j (ja (λh=>by kernel_rfl) j)
def QH:Con:=⟨239,[.v dX,.v bD,.v iT],[dX,bD,iT],⟨[.v iT,.v .bool],[]⟩,[iT,.bool],Pw.unc3 Pw.j7q⟩
def jp7:FnD where
 N:=79
 np:=3
 cs:=[Kk,Kl,Km,QF,QG]
theorem jof:aM QH:=
 cOf aN aO jp7 QH Tryz.func239 (ja ZM (ja ZN (ja ZQ (ja jmt (ja juH j))))) j
end Go.Proofs.Pk
