/- cC: each given function is its plain function, printed by a program. -/
import Derived.Test.YtpbnnhakjhalaaaGreatLWCon6
noncomputable section
open Go Go.Lft
set_option linter.unusedVariables false
set_option maxRecDepth 100000
namespace Go.Proofs.Pk
def L3:Con:=⟨356,[.v fo,.v eV,.v iT,.v iT],[fo,eV,iT,iT],⟨[.own 77 aa],[]⟩,[aa],Pw.unc4 Pw.j1N⟩
def jij:FnD where
 N:=58
 np:=4
 cs:=[CO,yE]
 ds:=[⟨0,[.s (.one (.bp 320 0)),.s (.one (.ol 1000000)),.s (.one (.ol 1000001)),sI,sI,.b (.cell [.d .str,.d iT,.d (.list iT)] false),.b (.lst 77 aM false),.b (.lst 248 ax false)],[iT,iT,.str,iT,(.list iT),aa,ar],[⟨.exit 0,[.s (.one (.ol 1500100)),.b (.lst 77 aM false)],[aa]⟩],Pw.unc7 (Pw.j2z)⟩,
  ⟨2,[.s (.one (.bp 320 0)),.s (.one (.ol 1002000)),.s (.one (.bp 704 0)),.s (.one (.ol 1002001)),sI,sI,.s (.one (.d (.list iT))),sI,sI,.b (.cell [.d .str,.d iT,.d (.list iT)] false),.b (.cell [.d iT,.d iT,.d iT] false),.b (.lst 77 aM false),.b (.lst 248 ax false)],[iT,iT,(.list iT),iT,iT,.str,iT,(.list iT),iT,iT,iT,aa,ar],[⟨.exit 2,[.s (.one (.bp 320 0)),.s (.one (.ol 1502300)),.s (.one (.ol 1502301)),sI,sI,.b (.cell [.d .str,.d iT,.d (.list iT)] false),.b (.lst 77 aM false),.b (.lst 248 ax false)],[iT,iT,.str,iT,(.list iT),aa,ar]⟩],Pw.jvA (Pw.j2y)⟩]
 modes:=[(175,[false]),(181,[false,false,false])]
 keep:=[(0,⟨[5,9,23,24,25],[320],[⟨1000000,77,aM,[.slot 9],false⟩,⟨1000001,248,ax,[.slot 23],false⟩],[]⟩),
  (2,⟨[5,9,11,23,24,25,30,31,32],[320,704],[⟨1002000,77,aM,[.slot 9],false⟩,⟨1002001,248,ax,[.slot 23],false⟩],[]⟩)]
 keepX:=[(0,.exit 0,⟨[9],[],[⟨1500100,77,aM,[.slot 9],false⟩],[]⟩),
  (2,.exit 2,⟨[5,9,23,24,25],[320],[⟨1502300,77,aM,[.slot 9],false⟩,⟨1502301,248,ax,[.slot 23],false⟩],[]⟩)]
 ro:=[true]
theorem jhC:Con.OK Tryz.prog L3:=
 cOf aF aG jij L3 Tryz.func356 (j9 LW (j9 FY trivial)) (j9 (λh=>by kernel_rfl) (j9 (λh=>by kernel_rfl) trivial))
def CQ:Con:=⟨242,[.v aa,.v aa],[aa,aa],⟨[.own 77 aa],[]⟩,[aa],Pw.unc2 Pw.j2t⟩
def jkD:FnD where
 N:=89
 np:=2
 cs:=[]
 ds:=[⟨0,[.s (.one (.d aa)),.s (.one (.ol 1000000)),sI,.s (.one (.d aa)),sI,sI,.b (.lst 77 aM false)],[aa,iT,aa,iT,iT,aa],[⟨.exit 0,[.s (.one (.ol 1500100)),.b (.lst 77 aM false)],[aa]⟩],Pw.unc6 (Pw.j3p)⟩,
  ⟨2,[.s (.one (.d aa)),.s (.one (.ol 1002000)),sI,.s (.one (.bp 512 0)),.s (.one (.d aa)),sI,sI,.b (.cell [.d iT,.d iT] false),.b (.lst 77 aM false)],[aa,iT,aa,iT,iT,iT,iT,aa],[⟨.exit 2,[.s (.one (.d aa)),.s (.one (.ol 1502300)),sI,.s (.one (.bp 512 0)),.s (.one (.d aa)),sI,sI,.b (.cell [.d iT,.d iT] false),.b (.lst 77 aM false)],[aa,iT,aa,iT,iT,iT,iT,aa]⟩],Pw.unc8 (Pw.j3n)⟩,
  ⟨4,[.s (.one (.d aa)),.s (.one (.ol 1004000)),sI,.s (.one (.bp 512 0)),sI,sI,.s (.one (.d aa)),sI,sI,.b (.cell [.d iT,.d iT] false),.b (.lst 77 aM false)],[aa,iT,iT,iT,aa,iT,iT,iT,iT,aa],[⟨.exit 4,[.s (.one (.d aa)),.s (.one (.ol 1504500)),sI,.s (.one (.bp 512 0)),sI,.s (.one (.d aa)),sI,sI,.b (.cell [.d iT,.d iT] false),.b (.lst 77 aM false)],[aa,iT,iT,aa,iT,iT,iT,iT,aa]⟩],Pw.jkk (Pw.j3o)⟩]
 keep:=[(0,⟨[1,5,6,11,12,13],[],[⟨1000000,77,aM,[.slot 5],false⟩],[]⟩),
  (2,⟨[1,5,6,8,11,12,13],[512],[⟨1002000,77,aM,[.slot 5],false⟩],[]⟩),
  (4,⟨[1,5,6,8,9,10,11,12,13],[512],[⟨1004000,77,aM,[.slot 5],false⟩],[]⟩)]
 keepX:=[(0,.exit 0,⟨[5],[],[⟨1500100,77,aM,[.slot 5],false⟩],[]⟩),
  (2,.exit 2,⟨[1,5,6,8,11,12,13],[512],[⟨1502300,77,aM,[.slot 5],false⟩],[]⟩),
  (4,.exit 4,⟨[1,5,6,8,9,11,12,13],[512],[⟨1504500,77,aM,[.slot 5],false⟩],[]⟩)]
 ro:=[true]
theorem L4:Con.OK Tryz.prog CQ:=
 cOf aF aG jkD CQ Tryz.func242 trivial (j9 (λh=>by kernel_rfl) (j9 (λh=>by kernel_rfl) (j9 (λh=>by kernel_rfl) trivial)))
def L5:Con:=⟨95,[.v aa,.v aa],[aa,aa],⟨[.own 77 aa],[]⟩,[aa],Pw.unc2 Pw.jaC⟩
def jmI:FnD where
 N:=67
 np:=2
 cs:=[]
 ds:=[⟨0,[.s (.one (.d aa)),.s (.one (.d aa)),.s (.one (.ol 1000000)),sI,sI,.b (.lst 77 aM false)],[aa,aa,iT,iT,aa],[⟨.exit 0,[.s (.one (.ol 1500100)),.b (.lst 77 aM false)],[aa]⟩],Pw.unc5 (Pw.j5r)⟩]
 keep:=[(0,⟨[0,1,5,6,7],[],[⟨1000000,77,aM,[.slot 5],false⟩],[]⟩)]
 keepX:=[(0,.exit 0,⟨[5],[],[⟨1500100,77,aM,[.slot 5],false⟩],[]⟩)]
 ro:=[true]
 dw:=[(4,[[],[],[],[],[],[],[],[],[],[],[],[],[],[],[],[],[],[],[],[],[],[],[],[512],[512]])]
theorem jkE:Con.OK Tryz.prog L5:=
 cOf aF aG jmI L5 Tryz.func95 trivial (j9 (λh=>by kernel_rfl) trivial)
def L6:Con:=⟨316,[.v fo,.v cA,.v iT,.v iT],[fo,cA,iT,iT],⟨[.own 77 aa],[]⟩,[aa],Pw.unc4 Pw.j6o⟩
def jhD:FnD where
 N:=90
 np:=4
 cs:=[CP,FZ,L3,CQ,L5]
 ds:=[]
 modes:=[(95,[false,false]),(96,[false,false,false,false]),(242,[false,false]),(318,[false,false,false]),(356,[false,false,false,false])]
 ro:=[true]
 dw:=[(7,[[],[],[],[],[],[],[],[],[],[],[3584],[]]),(10,[[],[],[],[],[],[],[],[],[],[],[],[4608],[4672],[]]),(12,[[],[],[],[],[],[],[],[],[],[],[],[5568],[5632],[]])]
theorem jgW:Con.OK Tryz.prog L6:=
 cOf aF aG jhD L6 Tryz.func316 (j9 LZ (j9 Tu (j9 jhC (j9 L4 (j9 jkE trivial))))) trivial
def L7:Con:=⟨252,[.v cw,.v iT],[cw,iT],⟨[.v iT],[]⟩,[iT],Pw.unc2 Pw.j6F⟩
def jfV:FnD where
 N:=10
 np:=2
 cs:=[FV,FW]
 ds:=[]
 modes:=[(264,[false,false]),(265,[false,false])]
 ro:=[false]
theorem jeZ:Con.OK Tryz.prog L7:=
 cOf aF aG jfV L7 Tryz.func252 (j9 Tp (j9 Tq trivial)) trivial
def L8:Con:=⟨251,[.v iT],[iT],⟨[.v aM],[]⟩,[aM],λh=>Pw.jeP h⟩
def joD:FnD where
 N:=17
 np:=1
 cs:=[]
 ds:=[]
 ro:=[false]
theorem jmJ:Con.OK Tryz.prog L8:=
 cOf aF aG joD L8 Tryz.func251 trivial trivial
def L9:Con:=⟨172,[.v cw,.v iT],[cw,iT],⟨[.v aM],[]⟩,[aM],Pw.unc2 Pw.j1P⟩
def jgX:FnD where
 N:=11
 np:=2
 cs:=[L7,L8]
 ds:=[]
 modes:=[(251,[false]),(252,[false,false])]
 ro:=[false]
theorem jfW:Con.OK Tryz.prog L9:=
 cOf aF aG jgX L9 Tryz.func172 (j9 jeZ (j9 jmJ trivial)) trivial
def Ma:Con:=⟨317,[.v cw,.v cA,.v iT],[cw,cA,iT],⟨[.v iT],[]⟩,[iT],Pw.unc3 Pw.j3v⟩
def jjQ:FnD where
 N:=84
 np:=3
 cs:=[FU,CP,L9]
 ds:=[⟨0,[sI,.s (.one (.bp 192 0)),.s (.one (.bp 256 0)),sI,.b (.cell [.d iT,.d aa] false),.b (.cell [.d .str,.d iT,.d iT,.d iT,.d iT,.d iT,.d (.list iT),.d aa,.d iT,.d iT] false)],[iT,iT,iT,aa,.str,iT,iT,iT,iT,iT,(.list iT),aa,iT,iT],[⟨.exit 0,[sI,.s (.one (.bp 192 0)),.s (.one (.bp 256 0)),sI,.b (.cell [.d iT,.d aa] false),.b (.cell [.d .str,.d iT,.d iT,.d iT,.d iT,.d iT,.d (.list iT),.d aa,.d iT,.d iT] false)],[iT,iT,iT,aa,.str,iT,iT,iT,iT,iT,(.list iT),aa,iT,iT]⟩],Pw.jkl (Pw.j2W)⟩,
  ⟨2,[sI,.s (.one (.bp 192 0)),.s (.one (.bp 256 0)),sI,.b (.cell [.d iT,.d aa] false),.b (.cell [.d .str,.d iT,.d iT,.d iT,.d iT,.d iT,.d (.list iT),.d aa,.d iT,.d iT] false)],[iT,iT,iT,aa,.str,iT,iT,iT,iT,iT,(.list iT),aa,iT,iT],[⟨.ret,[sI],[iT]⟩],Pw.jkl (Pw.j4o)⟩]
 modes:=[(172,[false,false]),(318,[false,false,false]),(357,[false])]
 keep:=[(0,⟨[2,3,4,9],[192,256],[],[]⟩),
  (2,⟨[2,3,4,9],[192,256],[],[]⟩)]
 keepX:=[(0,.exit 0,⟨[2,3,4,9],[192,256],[],[]⟩),
  (2,.ret,⟨[6],[],[],[]⟩)]
 ro:=[false]
theorem jik:Con.OK Tryz.prog Ma:=
 cOf aF aG jjQ Ma Tryz.func317 (j9 To (j9 LZ (j9 jfW trivial))) (j9 (λh=>by kernel_rfl) (j9 (λh=>by kernel_rfl) trivial))
def CR:Con:=⟨246,[.v ar],[ar],⟨[.own 181 ar],[]⟩,[ar],λh=>Pw.j8E h⟩
def joE:FnD where
 N:=57
 np:=1
 cs:=[]
 ds:=[⟨0,[.s (.one (.ol 1000000)),.s (.one (.d ar)),sI,sI,.b (.lst 181 ax false)],[ar,iT,iT,ar],[⟨.exit 0,[.s (.one (.ol 1500100)),.b (.lst 181 ax false)],[ar]⟩],Pw.unc4 (Pw.j4p)⟩]
 keep:=[(0,⟨[3,7,8,9],[],[⟨1000000,181,ax,[.slot 3],false⟩],[]⟩)]
 keepX:=[(0,.exit 0,⟨[3],[],[⟨1500100,181,ax,[.slot 3],false⟩],[]⟩)]
 ro:=[true]
theorem Mb:Con.OK Tryz.prog CR:=
 cOf aF aG joE CR Tryz.func246 trivial (j9 (λh=>by kernel_rfl) trivial)
def Mc:Con:=⟨241,[.v fo,.v cA,.v iT,.v iT],[fo,cA,iT,iT],⟨[.own 181 ar],[]⟩,[ar],Pw.unc4 Pw.j1F⟩
def jf0:FnD where
 N:=95
 np:=4
 cs:=[CP,L6,Ma,CR]
 ds:=[⟨0,[sI,.s (.one (.bp 320 0)),.s (.one (.ol 1000000)),.s (.one (.bp 640 0)),sI,sI,sI,.s (.one (.ol 1000001)),sI,sI,.b (.cell [.d .str,.d iT,.d iT,.d iT,.d iT,.d iT,.d (.list iT),.d aa,.d iT,.d iT] false),.b (.cell [.d iT,.d aa] false),.b (.lst 181 ax false),.b (.lst 77 aM false)],[iT,iT,iT,iT,iT,iT,.str,iT,iT,iT,iT,iT,(.list iT),aa,iT,iT,iT,aa,ar,aa],[⟨.exit 0,[sI,.s (.one (.ol 1500100)),sI,.b (.lst 181 ax false)],[iT,iT,ar]⟩],Pw.jyo (Pw.j1C)⟩,
  ⟨2,[sI,.s (.one (.bp 320 0)),.s (.one (.ol 1002000)),.s (.one (.bp 640 0)),sI,sI,sI,.s (.one (.bp 960 0)),.s (.one (.ol 1002001)),sI,sI,.b (.cell [.d .str,.d iT,.d iT,.d iT,.d iT,.d iT,.d (.list iT),.d aa,.d iT,.d iT] false),.b (.cell [.d iT,.d aa] false),.b (.cell [.d iT,.d iT] false),.b (.lst 181 ax false),.b (.lst 77 aM false)],[iT,iT,iT,iT,iT,iT,.str,iT,iT,iT,iT,iT,(.list iT),aa,iT,iT,iT,aa,iT,iT,ar,aa],[⟨.exit 2,[sI,.s (.one (.bp 320 0)),.s (.one (.ol 1502300)),.s (.one (.bp 640 0)),sI,sI,sI,.s (.one (.ol 1502301)),sI,sI,.b (.cell [.d .str,.d iT,.d iT,.d iT,.d iT,.d iT,.d (.list iT),.d aa,.d iT,.d iT] false),.b (.cell [.d iT,.d aa] false),.b (.lst 181 ax false),.b (.lst 77 aM false)],[iT,iT,iT,iT,iT,iT,.str,iT,iT,iT,iT,iT,(.list iT),aa,iT,iT,iT,aa,ar,aa]⟩],Pw.jyp (Pw.j2v)⟩]
 modes:=[(246,[false]),(316,[false,false,false,false]),(317,[false,false,false]),(318,[false,false,false])]
 keep:=[(0,⟨[3,5,9,10,11,12,13,30,31,32],[320,640],[⟨1000000,181,ax,[.slot 9],false⟩,⟨1000001,77,aM,[.slot 30],false⟩],[]⟩),
  (2,⟨[3,5,9,10,11,12,13,15,30,31,32],[320,640,960],[⟨1002000,181,ax,[.slot 9],false⟩,⟨1002001,77,aM,[.slot 30],false⟩],[]⟩)]
 keepX:=[(0,.exit 0,⟨[3,9,11],[],[⟨1500100,181,ax,[.slot 9],false⟩],[]⟩),
  (2,.exit 2,⟨[3,5,9,10,11,12,13,30,31,32],[320,640],[⟨1502300,181,ax,[.slot 9],false⟩,⟨1502301,77,aM,[.slot 30],false⟩],[]⟩)]
 ro:=[true]
 dw:=[(17,[[],[],[],[],[],[],[],[],[],[],[],[],[],[5376],[5440,1002000],[]])]
theorem jev:Con.OK Tryz.prog Mc:=
 cOf aF aG jf0 Mc Tryz.func241 (j9 LZ (j9 jgW (j9 jik (j9 Mb trivial)))) (j9 (λh=>by kernel_rfl) (j9 (λh=>by kernel_rfl) trivial))
def Md:Con:=⟨315,[.v cV,.v iT],[cV,iT],⟨[.own 77 aa],[]⟩,[aa],Pw.unc2 Pw.j6q⟩
def jkF:FnD where
 N:=35
 np:=2
 cs:=[yE]
 ds:=[⟨0,[sI,.s (.one (.ol 1000000)),.s (.one (.d bN)),sI,sI,.b (.lst 77 aM false)],[iT,bN,iT,iT,aa],[⟨.exit 0,[.s (.one (.ol 1500100)),.b (.lst 77 aM false)],[aa]⟩],Pw.unc5 (Pw.j3q)⟩]
 modes:=[(175,[false])]
 keep:=[(0,⟨[1,5,9,10,11],[],[⟨1000000,77,aM,[.slot 5],false⟩],[]⟩)]
 keepX:=[(0,.exit 0,⟨[5],[],[⟨1500100,77,aM,[.slot 5],false⟩],[]⟩)]
 ro:=[true]
theorem jjR:Con.OK Tryz.prog Md:=
 cOf aF aG jkF Md Tryz.func315 (j9 FY trivial) (j9 (λh=>by kernel_rfl) trivial)
def Me:Con:=⟨240,[.v cV,.v ar],[cV,ar],⟨[.own 181 ar],[]⟩,[ar],Pw.unc2 Pw.j84⟩
def jjS:FnD where
 N:=68
 np:=2
 cs:=[CQ,Md]
 ds:=[⟨0,[.s (.one (.bp 128 0)),.s (.one (.ol 1000000)),.s (.one (.ol 1000001)),.s (.one (.d ar)),sI,sI,.b (.cell [.d .str,.d bO,.d bN] false),.b (.lst 4294967645 cw false),.b (.lst 181 ax false)],[ar,iT,iT,.str,bO,bN,fU,ar],[⟨.exit 0,[.s (.one (.ol 1500100)),.b (.lst 181 ax false)],[ar]⟩],Pw.unc8 (Pw.j30)⟩,
  ⟨2,[.s (.one (.bp 128 0)),.s (.one (.ol 1002000)),.s (.one (.ol 1002001)),.s (.one (.bp 512 0)),.s (.one (.d ar)),sI,sI,.s (.one (.ol 1002002)),sI,sI,.b (.cell [.d .str,.d bO,.d bN] false),.b (.cell [.d iT,.d iT,.d iT] false),.b (.lst 4294967645 cw false),.b (.lst 181 ax false),.b (.lst 77 aM false)],[ar,iT,iT,iT,iT,.str,bO,bN,iT,iT,iT,fU,ar,aa],[⟨.exit 2,[.s (.one (.bp 128 0)),.s (.one (.ol 1502300)),.s (.one (.ol 1502301)),.s (.one (.d ar)),sI,sI,.b (.cell [.d .str,.d bO,.d bN] false),.b (.lst 4294967645 cw false),.b (.lst 181 ax false)],[ar,iT,iT,.str,bO,bN,fU,ar]⟩],Pw.jkl (Pw.j2Z)⟩]
 modes:=[(242,[false,false]),(315,[false,false])]
 keep:=[(0,⟨[2,5,6,14,15,16],[128],[⟨1000000,4294967645,cw,[.slot 5],false⟩,⟨1000001,181,ax,[.slot 6],false⟩],[]⟩),
  (2,⟨[2,5,6,8,14,15,16,49,50,51],[128,512],[⟨1002000,4294967645,cw,[.slot 5],false⟩,⟨1002001,181,ax,[.slot 6],false⟩,⟨1002002,77,aM,[.slot 49],false⟩],[]⟩)]
 keepX:=[(0,.exit 0,⟨[6],[],[⟨1500100,181,ax,[.slot 6],false⟩],[]⟩),
  (2,.exit 2,⟨[2,5,6,14,15,16],[128],[⟨1502300,4294967645,cw,[.slot 5],false⟩,⟨1502301,181,ax,[.slot 6],false⟩],[]⟩)]
 ro:=[true]
 dw:=[(9,[[],[],[],[],[],[],[2432],[2432,1000000]])]
theorem jil:Con.OK Tryz.prog Me:=
 cOf aF aG jjS Me Tryz.func240 (j9 L4 (j9 jjR trivial)) (j9 (λh=>by kernel_rfl) (j9 (λh=>by kernel_rfl) trivial))
def Mf:Con:=⟨239,[.v ar,.v aa],[ar,aa],⟨[.own 181 ar],[]⟩,[ar],Pw.unc2 Pw.jbw⟩
def jkG:FnD where
 N:=72
 np:=2
 cs:=[]
 ds:=[⟨0,[.s (.one (.d ar)),.s (.one (.d aa)),.s (.one (.ol 1000000)),sI,sI,.b (.lst 181 ax false)],[ar,aa,iT,iT,ar],[⟨.exit 0,[.s (.one (.ol 1500100)),.b (.lst 181 ax false)],[ar]⟩],Pw.unc5 (Pw.j4K)⟩]
 keep:=[(0,⟨[0,1,5,6,7],[],[⟨1000000,181,ax,[.slot 5],false⟩],[]⟩)]
 keepX:=[(0,.exit 0,⟨[5],[],[⟨1500100,181,ax,[.slot 5],false⟩],[]⟩)]
 ro:=[true]
 dw:=[(4,[[],[],[],[],[],[],[],[],[],[],[],[],[],[],[],[],[],[],[],[],[],[],[],[],[],[],[],[],[512],[512]])]
theorem jjT:Con.OK Tryz.prog Mf:=
 cOf aF aG jkG Mf Tryz.func239 trivial (j9 (λh=>by kernel_rfl) trivial)
def Mg:Con:=⟨243,[.v ar],[ar],⟨[.own 77 aa],[]⟩,[aa],λh=>Pw.jaG h⟩
def jmK:FnD where
 N:=23
 np:=1
 cs:=[yE]
 ds:=[⟨0,[.s (.one (.ol 1000000)),.s (.one (.d ar)),sI,sI,.b (.lst 77 aM false)],[ar,iT,iT,aa],[⟨.exit 0,[.s (.one (.ol 1500100)),.b (.lst 77 aM false)],[aa]⟩],Pw.unc4 (Pw.j3U)⟩]
 modes:=[(175,[false])]
 keep:=[(0,⟨[3,6,7,8],[],[⟨1000000,77,aM,[.slot 3],false⟩],[]⟩)]
 keepX:=[(0,.exit 0,⟨[3],[],[⟨1500100,77,aM,[.slot 3],false⟩],[]⟩)]
 ro:=[true]
theorem jkH:Con.OK Tryz.prog Mg:=
 cOf aF aG jmK Mg Tryz.func243 (j9 FY trivial) (j9 (λh=>by kernel_rfl) trivial)
def Mh:Con:=⟨245,[.v ax,.v ax],[ax,ax],⟨[.v iT],[]⟩,[iT],Pw.unc2 Pw.j2D⟩
def jew:FnD where
 N:=10
 np:=2
 cs:=[]
 ds:=[]
 ro:=[false]
theorem jna:Con.OK Tryz.prog Mh:=
 cOf aF aG jew Mh Tryz.func245 trivial trivial
def Tv:Con:=⟨244,[.rl 181 ar,.clo 245 []],[ar],⟨[],[.rl ar]⟩,[ar],λh=>Pw.j0n h⟩
def j7L:FnD where
 N:=14
 np:=2
 cs:=[Mh]
 ds:=[]
 modes:=[(245,[false,false])]
theorem j26:Con.OK Tryz.prog Tv:=
 Rs Tryz.sort244 (ax) rfl 181 (by kernel_rfl) Tryz.isAgg181 Tryz.sizeOf181 _ 245 (enters_of Tryz.func245 (by kernel_rfl) rfl) jpC jpD 244 rfl
def Mi:Con:=⟨165,[.v fo,.v cV,.v iT,.v iT],[fo,cV,iT,iT],⟨[.own 181 ar],[]⟩,[ar],Pw.unc4 Pw.j49⟩
def jgY:FnD where
 N:=63
 np:=4
 cs:=[LQ,CQ,CR,Mc,Me,Mf,Mg,Tv]
 ds:=[⟨0,[sI,.s (.one (.bp 256 0)),.s (.one (.bp 320 0)),.s (.one (.bp 384 0)),.s (.one (.bp 448 0)),.s (.one (.bp 576 0)),.s (.one (.bp 640 0)),.s (.one (.clo 248 [.p [bO]])),.b (.cell [.d ay,.d aC,.d aB,.d aK,.d fU] false),.b (.cell [.d .str,.d bO,.d bN] false),.b (.cell [.d iT] false),.b (.cell [.d iT] false),.b (.cell [.ol 1000000] false),.b (.cell [.ol 1000001] false),.b (.lst 77 aM false),.b (.lst 181 ax false)],[iT,bO,ay,aC,aB,aK,fU,.str,bO,bN,iT,iT,aa,ar],[⟨.normal,[.s (.one (.bp 576 0)),.s (.one (.bp 640 0)),.b (.cell [.ol 1500050] false),.b (.cell [.ol 1500051] false),.b (.lst 77 aM false),.b (.lst 181 ax false)],[aa,ar]⟩],Pw.jkl (Pw.j20)⟩,
  ⟨2,[.s (.one (.bp 640 0)),.s (.one (.ol 1002000)),sI,sI,.b (.cell [.ol 1002001] false),.b (.lst 77 aM false),.b (.lst 181 ax false)],[iT,iT,aa,ar],[⟨.exit 2,[.s (.one (.bp 640 0)),.b (.cell [.ol 1502300] false),.b (.lst 181 ax false)],[ar]⟩],Pw.unc4 (Pw.j21)⟩]
 modes:=[(168,[false]),(239,[false,false]),(240,[false,false]),(241,[false,false,false,false]),(242,[false,false]),(243,[false]),(244,[true,false]),(246,[false])]
 keep:=[(0,⟨[4,5,6,7,9,10,25],[256,320,384,448,576,640],[⟨1000000,77,aM,[.cell 576 0],false⟩,⟨1000001,181,ax,[.cell 640 0],false⟩],[]⟩),
  (2,⟨[10,44,45,46],[640],[⟨1002000,77,aM,[.slot 44],false⟩,⟨1002001,181,ax,[.cell 640 0],false⟩],[]⟩)]
 keepX:=[(0,.normal,⟨[9,10],[576,640],[⟨1500050,77,aM,[.cell 576 0],false⟩,⟨1500051,181,ax,[.cell 640 0],false⟩],[]⟩),
  (2,.exit 2,⟨[10],[640],[⟨1502300,181,ax,[.cell 640 0],false⟩],[]⟩)]
 ro:=[true]
 dw:=[(7,[[],[],[],[],[],[2112],[2176],[],[2304],[]]),(9,[[],[],[2688],[2752],[576]])]
 bw:=[(248,(false,cA))]
theorem jvD:ItOK Tryz.prog 248 false (cA):=Zw <| jyl aF Tryz.func248 (fn:=Tryz.f248) (A0:=bwA Tryz.f248 0) (A1:=bwA Tryz.f248 1) (A2:=bwA Tryz.f248 2) (A3:=bwA Tryz.f248 3) (by kernel_rfl) (by kernel_rfl) (by kernel_rfl) (by kernel_rfl) (by kernel_rfl) (by kernel_rfl) (by kernel_rfl) (by kernel_rfl) (by kernel_rfl) (by kernel_rfl) (by kernel_rfl) ⟨(by kernel_rfl),(by kernel_rfl)⟩
 (λxs=>by kernel_rfl) (λi=>by kernel_rfl) (λi=>by kernel_rfl) (λxs i=>by kernel_rfl) (λb i=>by kernel_rfl)
theorem jfX:Con.OK Tryz.prog Mi:=
 cOf aF aG jgY Mi Tryz.func165 (j9 j6K (j9 L4 (j9 Mb (j9 jev (j9 jil (j9 jjT (j9 jkH (j9 j26 trivial)))))))) (j9 (λh=>by kernel_rfl) (j9 (λh=>by kernel_rfl) trivial)) (j9 jvD trivial)
def Mj:Con:=⟨367,[.v iT],[iT],⟨[.v .bool],[]⟩,[.bool],λh=>Pw.ja3 h⟩
def jjU:FnD where
 N:=6
 np:=1
 cs:=[]
 ds:=[]
 ro:=[false]
theorem jim:Con.OK Tryz.prog Mj:=
 cOf aF aG jjU Mj Tryz.func367 trivial trivial
def Mk:Con:=⟨320,[.v iT,.v iT],[iT,iT],⟨[.v .bool],[]⟩,[.bool],Pw.unc2 Pw.jbx⟩
def jkI:FnD where
 N:=17
 np:=2
 cs:=[Mj]
 ds:=[]
 modes:=[(367,[false])]
 ro:=[false]
theorem jjV:Con.OK Tryz.prog Mk:=
 cOf aF aG jkI Mk Tryz.func320 (j9 jim trivial) trivial
def Ml:Con:=⟨321,[.v iT],[iT],⟨[.v .bool],[]⟩,[.bool],λh=>Pw.j7p h⟩
def jgZ:FnD where
 N:=6
 np:=1
 cs:=[]
 ds:=[]
 ro:=[false]
theorem jfY:Con.OK Tryz.prog Ml:=
 cOf aF aG jgZ Ml Tryz.func321 trivial trivial
end Go.Proofs.Pk
