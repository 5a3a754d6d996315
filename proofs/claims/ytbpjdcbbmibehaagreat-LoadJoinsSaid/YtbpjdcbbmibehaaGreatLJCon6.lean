/- cL: each given function is its plain function, printed by a program. -/
import Derived.Test.YtbpjdcbbmibehaaGreatLJCon5
noncomputable section
open Go Go.Lft
set_option linter.unusedVariables false
set_option maxRecDepth 100000
namespace Go.Proofs.Pk
def Oc:Con:=⟨322,[.v cG,.v cX,.v iT],[cG,cX,iT],⟨[.v iT],[]⟩,[iT],Pw.unc3 Pw.j3H⟩
def jju:FnD where
 N:=84
 np:=3
 cs:=[H5,EK,Ob]
 ds:=[⟨0,[sI,.s (.one (.bp 192 0)),.s (.one (.bp 256 0)),sI,.b (.cell [.d iT,.d aa] false),.b (.cell [.d .str,.d iT,.d iT,.d iT,.d iT,.d iT,.d (.list iT),.d aa,.d iT,.d iT] false)],[iT,iT,iT,aa,.str,iT,iT,iT,iT,iT,(.list iT),aa,iT,iT],[⟨.exit 0,[sI,.s (.one (.bp 192 0)),.s (.one (.bp 256 0)),sI,.b (.cell [.d iT,.d aa] false),.b (.cell [.d .str,.d iT,.d iT,.d iT,.d iT,.d iT,.d (.list iT),.d aa,.d iT,.d iT] false)],[iT,iT,iT,aa,.str,iT,iT,iT,iT,iT,(.list iT),aa,iT,iT]⟩],Pw.jk6 (Pw.j34)⟩,
  ⟨2,[sI,.s (.one (.bp 192 0)),.s (.one (.bp 256 0)),sI,.b (.cell [.d iT,.d aa] false),.b (.cell [.d .str,.d iT,.d iT,.d iT,.d iT,.d iT,.d (.list iT),.d aa,.d iT,.d iT] false)],[iT,iT,iT,aa,.str,iT,iT,iT,iT,iT,(.list iT),aa,iT,iT],[⟨.ret,[sI],[iT]⟩],Pw.jk6 (Pw.j4s)⟩]
 modes:=[(146,[false,false]),(323,[false,false,false]),(362,[false])]
 keep:=[(0,⟨[2,3,4,9],[192,256],[],[]⟩),
  (2,⟨[2,3,4,9],[192,256],[],[]⟩)]
 keepX:=[(0,.exit 0,⟨[2,3,4,9],[192,256],[],[]⟩),
  (2,.ret,⟨[6],[],[],[]⟩)]
 ro:=[false]
theorem jhY:Con.OK Tryz.prog Oc:=
 cOf aC aD jju Oc Tryz.func322 (j9 VI (j9 N2 (j9 jfB trivial))) (j9 (λh=>by kernel_rfl) (j9 (λh=>by kernel_rfl) trivial))
def EN:Con:=⟨198,[.v ai],[ai],⟨[.own 144 ai],[]⟩,[ai],λh=>Pw.j8P h⟩
def joo:FnD where
 N:=57
 np:=1
 cs:=[]
 ds:=[⟨0,[.s (.one (.ol 1000000)),.s (.one (.d ai)),sI,sI,.b (.lst 144 ar false)],[ai,iT,iT,ai],[⟨.exit 0,[.s (.one (.ol 1500100)),.b (.lst 144 ar false)],[ai]⟩],Pw.unc4 (Pw.j4t)⟩]
 keep:=[(0,⟨[3,7,8,9],[],[⟨1000000,144,ar,[.slot 3],false⟩],[]⟩)]
 keepX:=[(0,.exit 0,⟨[3],[],[⟨1500100,144,ar,[.slot 3],false⟩],[]⟩)]
 ro:=[true]
theorem Od:Con.OK Tryz.prog EN:=
 cOf aC aD joo EN Tryz.func198 trivial (j9 (λh=>by kernel_rfl) trivial)
def Oe:Con:=⟨269,[.v fP,.v cX,.v iT,.v iT],[fP,cX,iT,iT],⟨[.own 144 ai],[]⟩,[ai],Pw.unc4 Pw.j1S⟩
def jeM:FnD where
 N:=95
 np:=4
 cs:=[EK,N8,Oc,EN]
 ds:=[⟨0,[sI,.s (.one (.bp 320 0)),.s (.one (.ol 1000000)),.s (.one (.bp 640 0)),sI,sI,sI,.s (.one (.ol 1000001)),sI,sI,.b (.cell [.d .str,.d iT,.d iT,.d iT,.d iT,.d iT,.d (.list iT),.d aa,.d iT,.d iT] false),.b (.cell [.d iT,.d aa] false),.b (.lst 144 ar false),.b (.lst 72 aF false)],[iT,iT,iT,iT,iT,iT,.str,iT,iT,iT,iT,iT,(.list iT),aa,iT,iT,iT,aa,ai,aa],[⟨.exit 0,[sI,.s (.one (.ol 1500100)),sI,.b (.lst 144 ar false)],[iT,iT,ai]⟩],Pw.jyu (Pw.j1N)⟩,
  ⟨2,[sI,.s (.one (.bp 320 0)),.s (.one (.ol 1002000)),.s (.one (.bp 640 0)),sI,sI,sI,.s (.one (.bp 960 0)),.s (.one (.ol 1002001)),sI,sI,.b (.cell [.d .str,.d iT,.d iT,.d iT,.d iT,.d iT,.d (.list iT),.d aa,.d iT,.d iT] false),.b (.cell [.d iT,.d aa] false),.b (.cell [.d iT,.d iT] false),.b (.lst 144 ar false),.b (.lst 72 aF false)],[iT,iT,iT,iT,iT,iT,.str,iT,iT,iT,iT,iT,(.list iT),aa,iT,iT,iT,aa,iT,iT,ai,aa],[⟨.exit 2,[sI,.s (.one (.bp 320 0)),.s (.one (.ol 1502300)),.s (.one (.bp 640 0)),sI,sI,sI,.s (.one (.ol 1502301)),sI,sI,.b (.cell [.d .str,.d iT,.d iT,.d iT,.d iT,.d iT,.d (.list iT),.d aa,.d iT,.d iT] false),.b (.cell [.d iT,.d aa] false),.b (.lst 144 ar false),.b (.lst 72 aF false)],[iT,iT,iT,iT,iT,iT,.str,iT,iT,iT,iT,iT,(.list iT),aa,iT,iT,iT,aa,ai,aa]⟩],Pw.jyv (Pw.j2I)⟩]
 modes:=[(198,[false]),(321,[false,false,false,false]),(322,[false,false,false]),(323,[false,false,false])]
 keep:=[(0,⟨[3,5,9,10,11,12,13,30,31,32],[320,640],[⟨1000000,144,ar,[.slot 9],false⟩,⟨1000001,72,aF,[.slot 30],false⟩],[]⟩),
  (2,⟨[3,5,9,10,11,12,13,15,30,31,32],[320,640,960],[⟨1002000,144,ar,[.slot 9],false⟩,⟨1002001,72,aF,[.slot 30],false⟩],[]⟩)]
 keepX:=[(0,.exit 0,⟨[3,9,11],[],[⟨1500100,144,ar,[.slot 9],false⟩],[]⟩),
  (2,.exit 2,⟨[3,5,9,10,11,12,13,30,31,32],[320,640],[⟨1502300,144,ar,[.slot 9],false⟩,⟨1502301,72,aF,[.slot 30],false⟩],[]⟩)]
 ro:=[true]
 dw:=[(17,[[],[],[],[],[],[],[],[],[],[],[],[],[],[5376],[5440,1002000],[]])]
theorem jed:Con.OK Tryz.prog Oe:=
 cOf aC aD jeM Oe Tryz.func269 (j9 N2 (j9 jgA (j9 jhY (j9 Od trivial)))) (j9 (λh=>by kernel_rfl) (j9 (λh=>by kernel_rfl) trivial))
def Of:Con:=⟨320,[.v dp,.v iT],[dp,iT],⟨[.own 72 aa],[]⟩,[aa],Pw.unc2 Pw.j6h⟩
def jkn:FnD where
 N:=35
 np:=2
 cs:=[yN]
 ds:=[⟨0,[sI,.s (.one (.ol 1000000)),.s (.one (.d cH)),sI,sI,.b (.lst 72 aF false)],[iT,cH,iT,iT,aa],[⟨.exit 0,[.s (.one (.ol 1500100)),.b (.lst 72 aF false)],[aa]⟩],Pw.unc5 (Pw.j3C)⟩]
 modes:=[(140,[false])]
 keep:=[(0,⟨[1,5,9,10,11],[],[⟨1000000,72,aF,[.slot 5],false⟩],[]⟩)]
 keepX:=[(0,.exit 0,⟨[5],[],[⟨1500100,72,aF,[.slot 5],false⟩],[]⟩)]
 ro:=[true]
theorem jjv:Con.OK Tryz.prog Of:=
 cOf aC aD jkn Of Tryz.func320 (j9 EL trivial) (j9 (λh=>by kernel_rfl) trivial)
def Og:Con:=⟨268,[.v dp,.v ai],[dp,ai],⟨[.own 144 ai],[]⟩,[ai],Pw.unc2 Pw.j86⟩
def jjw:FnD where
 N:=68
 np:=2
 cs:=[EM,Of]
 ds:=[⟨0,[.s (.one (.bp 128 0)),.s (.one (.ol 1000000)),.s (.one (.ol 1000001)),.s (.one (.d ai)),sI,sI,.b (.cell [.d .str,.d cp,.d cH] false),.b (.lst 4294967656 cG false),.b (.lst 144 ar false)],[ai,iT,iT,.str,cp,cH,gE,ai],[⟨.exit 0,[.s (.one (.ol 1500100)),.b (.lst 144 ar false)],[ai]⟩],Pw.unc8 (Pw.j38)⟩,
  ⟨2,[.s (.one (.bp 128 0)),.s (.one (.ol 1002000)),.s (.one (.ol 1002001)),.s (.one (.bp 512 0)),.s (.one (.d ai)),sI,sI,.s (.one (.ol 1002002)),sI,sI,.b (.cell [.d .str,.d cp,.d cH] false),.b (.cell [.d iT,.d iT,.d iT] false),.b (.lst 4294967656 cG false),.b (.lst 144 ar false),.b (.lst 72 aF false)],[ai,iT,iT,iT,iT,.str,cp,cH,iT,iT,iT,gE,ai,aa],[⟨.exit 2,[.s (.one (.bp 128 0)),.s (.one (.ol 1502300)),.s (.one (.ol 1502301)),.s (.one (.d ai)),sI,sI,.b (.cell [.d .str,.d cp,.d cH] false),.b (.lst 4294967656 cG false),.b (.lst 144 ar false)],[ai,iT,iT,.str,cp,cH,gE,ai]⟩],Pw.jk6 (Pw.j37)⟩]
 modes:=[(270,[false,false]),(320,[false,false])]
 keep:=[(0,⟨[2,5,6,14,15,16],[128],[⟨1000000,4294967656,cG,[.slot 5],false⟩,⟨1000001,144,ar,[.slot 6],false⟩],[]⟩),
  (2,⟨[2,5,6,8,14,15,16,49,50,51],[128,512],[⟨1002000,4294967656,cG,[.slot 5],false⟩,⟨1002001,144,ar,[.slot 6],false⟩,⟨1002002,72,aF,[.slot 49],false⟩],[]⟩)]
 keepX:=[(0,.exit 0,⟨[6],[],[⟨1500100,144,ar,[.slot 6],false⟩],[]⟩),
  (2,.exit 2,⟨[2,5,6,14,15,16],[128],[⟨1502300,4294967656,cG,[.slot 5],false⟩,⟨1502301,144,ar,[.slot 6],false⟩],[]⟩)]
 ro:=[true]
 dw:=[(9,[[],[],[],[],[],[],[2432],[2432,1000000]])]
theorem jhZ:Con.OK Tryz.prog Og:=
 cOf aC aD jjw Og Tryz.func268 (j9 N7 (j9 jjv trivial)) (j9 (λh=>by kernel_rfl) (j9 (λh=>by kernel_rfl) trivial))
def Oh:Con:=⟨267,[.v ai,.v aa],[ai,aa],⟨[.own 144 ai],[]⟩,[ai],Pw.unc2 Pw.jbm⟩
def jko:FnD where
 N:=72
 np:=2
 cs:=[]
 ds:=[⟨0,[.s (.one (.d ai)),.s (.one (.d aa)),.s (.one (.ol 1000000)),sI,sI,.b (.lst 144 ar false)],[ai,aa,iT,iT,ai],[⟨.exit 0,[.s (.one (.ol 1500100)),.b (.lst 144 ar false)],[ai]⟩],Pw.unc5 (Pw.j4S)⟩]
 keep:=[(0,⟨[0,1,5,6,7],[],[⟨1000000,144,ar,[.slot 5],false⟩],[]⟩)]
 keepX:=[(0,.exit 0,⟨[5],[],[⟨1500100,144,ar,[.slot 5],false⟩],[]⟩)]
 ro:=[true]
 dw:=[(4,[[],[],[],[],[],[],[],[],[],[],[],[],[],[],[],[],[],[],[],[],[],[],[],[],[],[],[],[],[512],[512]])]
theorem jjx:Con.OK Tryz.prog Oh:=
 cOf aC aD jko Oh Tryz.func267 trivial (j9 (λh=>by kernel_rfl) trivial)
def Oi:Con:=⟨271,[.v ai],[ai],⟨[.own 72 aa],[]⟩,[aa],λh=>Pw.jaB h⟩
def jmy:FnD where
 N:=23
 np:=1
 cs:=[yN]
 ds:=[⟨0,[.s (.one (.ol 1000000)),.s (.one (.d ai)),sI,sI,.b (.lst 72 aF false)],[ai,iT,iT,aa],[⟨.exit 0,[.s (.one (.ol 1500100)),.b (.lst 72 aF false)],[aa]⟩],Pw.unc4 (Pw.j43)⟩]
 modes:=[(140,[false])]
 keep:=[(0,⟨[3,6,7,8],[],[⟨1000000,72,aF,[.slot 3],false⟩],[]⟩)]
 keepX:=[(0,.exit 0,⟨[3],[],[⟨1500100,72,aF,[.slot 3],false⟩],[]⟩)]
 ro:=[true]
theorem jkp:Con.OK Tryz.prog Oi:=
 cOf aC aD jmy Oi Tryz.func271 (j9 EL trivial) (j9 (λh=>by kernel_rfl) trivial)
def Oj:Con:=⟨273,[.v ar,.v ar],[ar,ar],⟨[.v iT],[]⟩,[iT],Pw.unc2 Pw.j2Q⟩
def jee:FnD where
 N:=10
 np:=2
 cs:=[]
 ds:=[]
 ro:=[false]
theorem jn3:Con.OK Tryz.prog Oj:=
 cOf aC aD jee Oj Tryz.func273 trivial trivial
def VQ:Con:=⟨272,[.rl 144 ai,.clo 273 []],[ai],⟨[],[.rl ai]⟩,[ai],λh=>Pw.j0p h⟩
def j7O:FnD where
 N:=14
 np:=2
 cs:=[Oj]
 ds:=[]
 modes:=[(273,[false,false])]
theorem j2j:Con.OK Tryz.prog VQ:=
 Ue Tryz.sort272 (ar) rfl 144 (by kernel_rfl) Tryz.isAgg144 Tryz.sizeOf144 _ 273 (enters_of Tryz.func273 (by kernel_rfl) rfl) jpw jpx 272 rfl
def Ol:Con:=⟨195,[.v fP,.v dp,.v iT,.v iT],[fP,dp,iT,iT],⟨[.own 144 ai],[]⟩,[ai],Pw.unc4 Pw.j3q⟩
def jgC:FnD where
 N:=63
 np:=4
 cs:=[NW,EM,EN,Oe,Og,Oh,Oi,VQ]
 ds:=[⟨0,[sI,.s (.one (.bp 256 0)),.s (.one (.bp 320 0)),.s (.one (.bp 384 0)),.s (.one (.bp 448 0)),.s (.one (.bp 576 0)),.s (.one (.bp 640 0)),.s (.one (.clo 319 [.p [cp]])),.b (.cell [.d aK,.d aS,.d aR,.d aZ,.d gE] false),.b (.cell [.d .str,.d cp,.d cH] false),.b (.cell [.d iT] false),.b (.cell [.d iT] false),.b (.cell [.ol 1000000] false),.b (.cell [.ol 1000001] false),.b (.lst 72 aF false),.b (.lst 144 ar false)],[iT,cp,aK,aS,aR,aZ,gE,.str,cp,cH,iT,iT,aa,ai],[⟨.normal,[.s (.one (.bp 576 0)),.s (.one (.bp 640 0)),.b (.cell [.ol 1500050] false),.b (.cell [.ol 1500051] false),.b (.lst 72 aF false),.b (.lst 144 ar false)],[aa,ai]⟩],Pw.jk6 (Pw.j2d)⟩,
  ⟨2,[.s (.one (.bp 640 0)),.s (.one (.ol 1002000)),sI,sI,.b (.cell [.ol 1002001] false),.b (.lst 72 aF false),.b (.lst 144 ar false)],[iT,iT,aa,ai],[⟨.exit 2,[.s (.one (.bp 640 0)),.b (.cell [.ol 1502300] false),.b (.lst 144 ar false)],[ai]⟩],Pw.unc4 (Pw.j2e)⟩]
 modes:=[(198,[false]),(266,[false]),(267,[false,false]),(268,[false,false]),(269,[false,false,false,false]),(270,[false,false]),(271,[false]),(272,[true,false])]
 keep:=[(0,⟨[4,5,6,7,9,10,25],[256,320,384,448,576,640],[⟨1000000,72,aF,[.cell 576 0],false⟩,⟨1000001,144,ar,[.cell 640 0],false⟩],[]⟩),
  (2,⟨[10,44,45,46],[640],[⟨1002000,72,aF,[.slot 44],false⟩,⟨1002001,144,ar,[.cell 640 0],false⟩],[]⟩)]
 keepX:=[(0,.normal,⟨[9,10],[576,640],[⟨1500050,72,aF,[.cell 576 0],false⟩,⟨1500051,144,ar,[.cell 640 0],false⟩],[]⟩),
  (2,.exit 2,⟨[10],[640],[⟨1502300,144,ar,[.cell 640 0],false⟩],[]⟩)]
 ro:=[true]
 dw:=[(7,[[],[],[],[],[],[2112],[2176],[],[2304],[]]),(9,[[],[],[2688],[2752],[576]])]
 bw:=[(319,(false,cX))]
theorem jvw:ItOK Tryz.prog 319 false (cX):=jzt <| jys aC Tryz.func319 (fn:=Tryz.f319) (A0:=bwA Tryz.f319 0) (A1:=bwA Tryz.f319 1) (A2:=bwA Tryz.f319 2) (A3:=bwA Tryz.f319 3) (by kernel_rfl) (by kernel_rfl) (by kernel_rfl) (by kernel_rfl) (by kernel_rfl) (by kernel_rfl) (by kernel_rfl) (by kernel_rfl) (by kernel_rfl) (by kernel_rfl) (by kernel_rfl) ⟨(by kernel_rfl),(by kernel_rfl)⟩
 (λxs=>by kernel_rfl) (λi=>by kernel_rfl) (λi=>by kernel_rfl) (λxs i=>by kernel_rfl) (λb i=>by kernel_rfl)
theorem jfC:Con.OK Tryz.prog Ol:=
 cOf aC aD jgC Ol Tryz.func195 (j9 j6J (j9 N7 (j9 Od (j9 jed (j9 jhZ (j9 jjx (j9 jkp (j9 j2j trivial)))))))) (j9 (λh=>by kernel_rfl) (j9 (λh=>by kernel_rfl) trivial)) (j9 jvw trivial)
def Om:Con:=⟨325,[.v iT],[iT],⟨[.v .bool],[]⟩,[.bool],λh=>Pw.ja9 h⟩
def jjy:FnD where
 N:=6
 np:=1
 cs:=[]
 ds:=[]
 ro:=[false]
theorem ji0:Con.OK Tryz.prog Om:=
 cOf aC aD jjy Om Tryz.func325 trivial trivial
def On:Con:=⟨274,[.v iT,.v iT],[iT,iT],⟨[.v .bool],[]⟩,[.bool],Pw.unc2 Pw.jbn⟩
def jkq:FnD where
 N:=17
 np:=2
 cs:=[Om]
 ds:=[]
 modes:=[(325,[false])]
 ro:=[false]
theorem jjz:Con.OK Tryz.prog On:=
 cOf aC aD jkq On Tryz.func274 (j9 ji0 trivial) trivial
def Oo:Con:=⟨275,[.v iT],[iT],⟨[.v .bool],[]⟩,[.bool],λh=>Pw.j7q h⟩
def jgD:FnD where
 N:=6
 np:=1
 cs:=[]
 ds:=[]
 ro:=[false]
theorem jfD:Con.OK Tryz.prog Oo:=
 cOf aC aD jgD Oo Tryz.func275 trivial trivial
def Oq:Con:=⟨196,[.v (.list iT),.v iT],[(.list iT),iT],⟨[.v iT,.v .bool],[]⟩,[iT,.bool],Pw.unc2 Pw.j2v⟩
def j9V:FnD where
 N:=54
 np:=2
 cs:=[On,Oo]
 ds:=[⟨0,[.s (.one (.d (.list iT))),sI,sI,sI,sI],[(.list iT),iT,iT,iT,iT],[⟨.exit 0,[.s (.one (.d (.list iT))),sI,sI,sI],[(.list iT),iT,iT,iT]⟩],Pw.unc5 (Pw.j1j)⟩]
 modes:=[(274,[false,false]),(275,[false])]
 keep:=[(0,⟨[0,1,6,7,8],[],[],[]⟩)]
 keepX:=[(0,.exit 0,⟨[0,1,6,7],[],[],[]⟩)]
 ro:=[false,false]
theorem j9t:Con.OK Tryz.prog Oq:=
 cOf aC aD j9V Oq Tryz.func196 (j9 jjz (j9 jfD trivial)) (j9 (λh=>by kernel_rfl) trivial)
def Ot:Con:=⟨276,[.v ie,.v iT],[ie,iT],⟨[.v .bool],[]⟩,[.bool],Pw.unc2 Pw.jfi⟩
def jmz:FnD where
 N:=15
 np:=2
 cs:=[]
 ds:=[]
 ro:=[false]
theorem jkr:Con.OK Tryz.prog Ot:=
 cOf aC aD jmz Ot Tryz.func276 trivial trivial
def Ou:Con:=⟨197,[.v cH,.v iT,.v iT],[cH,iT,iT],⟨[.v iT],[]⟩,[iT],Pw.unc3 Pw.jgg⟩
def jpH:FnD where
 N:=51
 np:=3
 cs:=[Ot]
 ds:=[⟨0,[sI,sI,.s (.one (.d cH)),sI,sI],[iT,iT,cH,iT,iT],[⟨.exit 0,[sI],[iT]⟩],Pw.unc5 (Pw.j5a)⟩]
 modes:=[(276,[false,false])]
 keep:=[(0,⟨[1,2,9,10,11],[],[],[]⟩)]
 keepX:=[(0,.exit 0,⟨[1],[],[],[]⟩)]
 ro:=[false]
theorem jop:Con.OK Tryz.prog Ou:=
 cOf aC aD jpH Ou Tryz.func197 (j9 jkr trivial) (j9 (λh=>by kernel_rfl) trivial)
def Ov:Con:=⟨134,[.v fP,.v dp,.v iT,.v iT],[fP,dp,iT,iT],⟨[.own 144 ai],[]⟩,[ai],Pw.unc4 Pw.j39⟩
def jhg:FnD where
 N:=88
 np:=4
 cs:=[NV,EN,Ol,Oq,Ou]
 ds:=[⟨0,[sI,sI,.s (.one (.bp 256 0)),.s (.one (.bp 320 0)),.s (.one (.ol 1000000)),.s (.one (.d cH)),sI,sI,.b (.cell [.d aK,.d aS,.d aR,.d aZ,.d gE] false),.b (.cell [.d .str,.d cp,.d cH] false),.b (.lst 3 iT false)],[iT,iT,cH,iT,iT,aK,aS,aR,aZ,gE,.str,cp,cH,(.list iT)],[⟨.exit 0,[sI,sI,.s (.one (.bp 256 0)),.s (.one (.bp 320 0)),.s (.one (.ol 1500100)),.b (.cell [.d aK,.d aS,.d aR,.d aZ,.d gE] false),.b (.cell [.d .str,.d cp,.d cH] false),.b (.lst 3 iT false)],[iT,iT,aK,aS,aR,aZ,gE,.str,cp,cH,(.list iT)]⟩],Pw.jk6 (Pw.j2w)⟩,
  ⟨2,[.s (.one (.bp 320 0)),.s (.one (.ol 1002000)),.s (.one (.ol 1002001)),.s (.one (.ol 1002002)),sI,sI,.b (.cell [.d .str,.d cp,.d cH] false),.b (.lst 3 iT false),.b (.lst 144 ar false),.b (.lst 144 ar false)],[iT,iT,.str,cp,cH,(.list iT),ai,ai],[⟨.exit 2,[.s (.one (.ol 1502300)),.b (.lst 144 ar false)],[ai]⟩],Pw.unc8 (Pw.j1G)⟩,
  ⟨4,[.s (.one (.bp 320 0)),.s (.one (.ol 1004000)),.s (.one (.ol 1004001)),.s (.one (.bp 960 0)),sI,sI,.s (.one (.ol 1004002)),sI,sI,.b (.cell [.d .str,.d cp,.d cH] false),.b (.cell [.d iT,.d iT,.d iT] false),.b (.lst 3 iT false),.b (.lst 144 ar false),.b (.lst 144 ar false)],[iT,iT,iT,iT,.str,cp,cH,iT,iT,iT,(.list iT),ai,ai],[⟨.exit 4,[.s (.one (.bp 320 0)),.s (.one (.ol 1504500)),.s (.one (.ol 1504501)),.s (.one (.ol 1504502)),sI,sI,.b (.cell [.d .str,.d cp,.d cH] false),.b (.lst 3 iT false),.b (.lst 144 ar false),.b (.lst 144 ar false)],[iT,iT,.str,cp,cH,(.list iT),ai,ai]⟩],Pw.jvv (Pw.j2x)⟩]
 modes:=[(152,[false,false,false]),(195,[false,false,false,false]),(196,[false,false]),(197,[false,false,false]),(198,[false])]
 keep:=[(0,⟨[2,3,4,5,9,21,22,23],[256,320],[⟨1000000,3,iT,[.slot 9],false⟩],[]⟩),
  (2,⟨[5,12,13,43,44,45],[320],[⟨1002000,3,iT,[.slot 12],false⟩,⟨1002001,144,ar,[.slot 13],false⟩,⟨1002002,144,ar,[.slot 43],false⟩],[]⟩),
  (4,⟨[5,12,13,15,16,18,43,44,45],[320,960],[⟨1004000,3,iT,[.slot 12],false⟩,⟨1004001,144,ar,[.slot 13],false⟩,⟨1004002,144,ar,[.slot 43],false⟩],[]⟩)]
 keepX:=[(0,.exit 0,⟨[2,3,4,5,9],[256,320],[⟨1500100,3,iT,[.slot 9],false⟩],[]⟩),
  (2,.exit 2,⟨[13],[],[⟨1502300,144,ar,[.slot 13],false⟩],[]⟩),
  (4,.exit 4,⟨[5,12,13,43,44,45],[320],[⟨1504500,3,iT,[.slot 12],false⟩,⟨1504501,144,ar,[.slot 13],false⟩,⟨1504502,144,ar,[.slot 43],false⟩],[]⟩)]
 ro:=[true]
theorem jgE:Con.OK Tryz.prog Ov:=
 cOf aC aD jhg Ov Tryz.func134 (j9 jok (j9 Od (j9 jfC (j9 j9t (j9 jop trivial))))) (j9 (λh=>by kernel_rfl) (j9 (λh=>by kernel_rfl) (j9 (λh=>by kernel_rfl) trivial)))
def Ow:Con:=⟨71,[.v ct,.v iT,.v iT,.v iT],[ct,iT,iT,iT],⟨[.own 144 ai,.v iT],[]⟩,[ai,iT],Pw.unc4 Pw.j46⟩
def jhh:FnD where
 N:=37
 np:=4
 cs:=[NQ,Ov]
 ds:=[]
 modes:=[(133,[false,false,false,false]),(134,[false,false,false,false])]
 ro:=[true,false]
 dw:=[(4,[[],[],[],[],[],[],[],[],[2048],[]])]
theorem jgF:Con.OK Tryz.prog Ow:=
 cOf aC aD jhh Ow Tryz.func71 (j9 jkh (j9 jgE trivial)) trivial
def Ox:Con:=⟨135,[.v dr],[dr],⟨[.own 99 aa],[]⟩,[aa],λh=>Pw.jbp h⟩
def jks:FnD where
 N:=19
 np:=1
 cs:=[]
 ds:=[⟨0,[.s (.one (.ol 1000000)),.s (.one (.d dr)),sI,sI,.b (.lst 99 aF false)],[dr,iT,iT,aa],[⟨.exit 0,[.s (.one (.ol 1500100)),.b (.lst 99 aF false)],[aa]⟩],Pw.unc4 (Pw.j3D)⟩]
 keep:=[(0,⟨[3,6,7,8],[],[⟨1000000,99,aF,[.slot 3],false⟩],[]⟩)]
 keepX:=[(0,.exit 0,⟨[3],[],[⟨1500100,99,aF,[.slot 3],false⟩],[]⟩)]
 ro:=[true]
theorem jjA:Con.OK Tryz.prog Ox:=
 cOf aC aD jks Ox Tryz.func135 trivial (j9 (λh=>by kernel_rfl) trivial)
def Oy:Con:=⟨137,[.v nP],[nP],⟨[.v .bool],[]⟩,[.bool],λh=>Pw.jcO h⟩
def jjB:FnD where
 N:=11
 np:=1
 cs:=[]
 ds:=[]
 ro:=[false]
theorem ji1:Con.OK Tryz.prog Oy:=
 cOf aC aD jjB Oy Tryz.func137 trivial trivial
end Go.Proofs.Pk
