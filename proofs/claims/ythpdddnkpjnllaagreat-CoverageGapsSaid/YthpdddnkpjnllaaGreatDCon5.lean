/- Contracts: each given function is its plain function, printed by a program. -/
import Derived.Test.YthpdddnkpjnllaaGreatDCon4
noncomputable section
open Go Go.Lft
set_option linter.unusedVariables false
set_option maxRecDepth 100000
namespace Go.Proofs.Pk
def j9D:Con:=⟨191,[.v ty81,.v ty22,.v iT,.v iT],[ty81,ty22,iT,iT],⟨[.own 113 ty12],[]⟩,[ty12],fun h=>Pw.j1N h.1 h.2.1 h.2.2.1 h.2.2.2⟩
def jm9:FnD where
 N:=58
 np:=4
 cs:=[j44,j5F]
 ds:=[⟨0,[.s (.one (.bp 320 0)),.s (.one (.ol 1000000)),.s (.one (.ol 1000001)),sI,sI,.b (.cell [.d .str,.d iT,.d (.list iT)] false),.b (.lst 113 ty8 false),.b (.lst 212 ty20 false)],[iT,iT,.str,iT,(.list iT),ty12,ty24],[⟨.exit 0,[.s (.one (.ol 1500100)),.b (.lst 113 ty8 false)],[ty12]⟩],fun h=>Pw.j1E h.1 h.2.1 h.2.2.1 h.2.2.2.1 h.2.2.2.2.1 h.2.2.2.2.2.1 h.2.2.2.2.2.2⟩,
  ⟨2,[.s (.one (.bp 320 0)),.s (.one (.ol 1002000)),.s (.one (.bp 704 0)),.s (.one (.ol 1002001)),sI,sI,.s (.one (.d (.list iT))),sI,sI,.b (.cell [.d .str,.d iT,.d (.list iT)] false),.b (.cell [.d iT,.d iT,.d iT] false),.b (.lst 113 ty8 false),.b (.lst 212 ty20 false)],[iT,iT,(.list iT),iT,iT,.str,iT,(.list iT),iT,iT,iT,ty12,ty24],[⟨.exit 2,[.s (.one (.bp 320 0)),.s (.one (.ol 1502300)),.s (.one (.ol 1502301)),sI,sI,.b (.cell [.d .str,.d iT,.d (.list iT)] false),.b (.lst 113 ty8 false),.b (.lst 212 ty20 false)],[iT,iT,.str,iT,(.list iT),ty12,ty24]⟩],fun h=>Pw.j3w h.1 h.2.1 h.2.2.1 h.2.2.2.1 h.2.2.2.2.1 h.2.2.2.2.2.1 h.2.2.2.2.2.2.1 h.2.2.2.2.2.2.2.1 h.2.2.2.2.2.2.2.2.1 h.2.2.2.2.2.2.2.2.2.1 h.2.2.2.2.2.2.2.2.2.2.1 h.2.2.2.2.2.2.2.2.2.2.2.1 h.2.2.2.2.2.2.2.2.2.2.2.2⟩]
 modes:=[(160,[false]),(165,[false,false,false])]
 keep:=[(0,⟨[5,9,23,24,25],[320],[⟨1000000,113,ty8,[.slot 9],false⟩,⟨1000001,212,ty20,[.slot 23],false⟩],[]⟩),
  (2,⟨[5,9,11,23,24,25,30,31,32],[320,704],[⟨1002000,113,ty8,[.slot 9],false⟩,⟨1002001,212,ty20,[.slot 23],false⟩],[]⟩)]
 keepX:=[(0,.exit 0,⟨[9],[],[⟨1500100,113,ty8,[.slot 9],false⟩],[]⟩),
  (2,.exit 2,⟨[5,9,23,24,25],[320],[⟨1502300,113,ty8,[.slot 9],false⟩,⟨1502301,212,ty20,[.slot 23],false⟩],[]⟩)]
 ro:=[true]
theorem jlg:Con.OK Tryz.prog j9D:=
 cOf j0a j03 jm9 j9D Tryz.func191 (j9 j8k (j9 j9C trivial)) (j9 (fun h=>by kernel_rfl) (j9 (fun h=>by kernel_rfl) trivial))
def j6X:Con:=⟨108,[.v ty12,.v ty12],[ty12,ty12],⟨[.own 113 ty12],[]⟩,[ty12],fun h=>Pw.j2p h.1 h.2⟩
def jow:FnD where
 N:=89
 np:=2
 cs:=[]
 ds:=[⟨0,[.s (.one (.d ty12)),.s (.one (.ol 1000000)),sI,.s (.one (.d ty12)),sI,sI,.b (.lst 113 ty8 false)],[ty12,iT,ty12,iT,iT,ty12],[⟨.exit 0,[.s (.one (.ol 1500100)),.b (.lst 113 ty8 false)],[ty12]⟩],fun h=>Pw.j28 h.1 h.2.1 h.2.2.1 h.2.2.2.1 h.2.2.2.2.1 h.2.2.2.2.2⟩,
  ⟨2,[.s (.one (.d ty12)),.s (.one (.ol 1002000)),sI,.s (.one (.bp 512 0)),.s (.one (.d ty12)),sI,sI,.b (.cell [.d iT,.d iT] false),.b (.lst 113 ty8 false)],[ty12,iT,ty12,iT,iT,iT,iT,ty12],[⟨.exit 2,[.s (.one (.d ty12)),.s (.one (.ol 1502300)),sI,.s (.one (.bp 512 0)),.s (.one (.d ty12)),sI,sI,.b (.cell [.d iT,.d iT] false),.b (.lst 113 ty8 false)],[ty12,iT,ty12,iT,iT,iT,iT,ty12]⟩],fun h=>Pw.j4q h.1 h.2.1 h.2.2.1 h.2.2.2.1 h.2.2.2.2.1 h.2.2.2.2.2.1 h.2.2.2.2.2.2.1 h.2.2.2.2.2.2.2⟩,
  ⟨4,[.s (.one (.d ty12)),.s (.one (.ol 1004000)),sI,.s (.one (.bp 512 0)),sI,sI,.s (.one (.d ty12)),sI,sI,.b (.cell [.d iT,.d iT] false),.b (.lst 113 ty8 false)],[ty12,iT,iT,iT,ty12,iT,iT,iT,iT,ty12],[⟨.exit 4,[.s (.one (.d ty12)),.s (.one (.ol 1504500)),sI,.s (.one (.bp 512 0)),sI,.s (.one (.d ty12)),sI,sI,.b (.cell [.d iT,.d iT] false),.b (.lst 113 ty8 false)],[ty12,iT,iT,ty12,iT,iT,iT,iT,ty12]⟩],fun h=>Pw.j4r h.1 h.2.1 h.2.2.1 h.2.2.2.1 h.2.2.2.2.1 h.2.2.2.2.2.1 h.2.2.2.2.2.2.1 h.2.2.2.2.2.2.2.1 h.2.2.2.2.2.2.2.2.1 h.2.2.2.2.2.2.2.2.2⟩]
 keep:=[(0,⟨[1,5,6,11,12,13],[],[⟨1000000,113,ty8,[.slot 5],false⟩],[]⟩),
  (2,⟨[1,5,6,8,11,12,13],[512],[⟨1002000,113,ty8,[.slot 5],false⟩],[]⟩),
  (4,⟨[1,5,6,8,9,10,11,12,13],[512],[⟨1004000,113,ty8,[.slot 5],false⟩],[]⟩)]
 keepX:=[(0,.exit 0,⟨[5],[],[⟨1500100,113,ty8,[.slot 5],false⟩],[]⟩),
  (2,.exit 2,⟨[1,5,6,8,11,12,13],[512],[⟨1502300,113,ty8,[.slot 5],false⟩],[]⟩),
  (4,.exit 4,⟨[1,5,6,8,9,11,12,13],[512],[⟨1504500,113,ty8,[.slot 5],false⟩],[]⟩)]
 ro:=[true]
theorem jd5:Con.OK Tryz.prog j6X:=
 cOf j0a j03 jow j6X Tryz.func108 trivial (j9 (fun h=>by kernel_rfl) (j9 (fun h=>by kernel_rfl) (j9 (fun h=>by kernel_rfl) trivial)))
def jd6:Con:=⟨192,[.v ty12,.v ty12],[ty12,ty12],⟨[.own 113 ty12],[]⟩,[ty12],fun h=>Pw.j7u h.1 h.2⟩
def jqo:FnD where
 N:=67
 np:=2
 cs:=[]
 ds:=[⟨0,[.s (.one (.d ty12)),.s (.one (.d ty12)),.s (.one (.ol 1000000)),sI,sI,.b (.lst 113 ty8 false)],[ty12,ty12,iT,iT,ty12],[⟨.exit 0,[.s (.one (.ol 1500100)),.b (.lst 113 ty8 false)],[ty12]⟩],fun h=>Pw.j6r h.1 h.2.1 h.2.2.1 h.2.2.2.1 h.2.2.2.2⟩]
 keep:=[(0,⟨[0,1,5,6,7],[],[⟨1000000,113,ty8,[.slot 5],false⟩],[]⟩)]
 keepX:=[(0,.exit 0,⟨[5],[],[⟨1500100,113,ty8,[.slot 5],false⟩],[]⟩)]
 ro:=[true]
 dw:=[(4,[[],[],[],[],[],[],[],[],[],[],[],[],[],[],[],[],[],[],[],[],[],[],[],[512],[512]])]
theorem jox:Con.OK Tryz.prog jd6:=
 cOf j0a j03 jqo jd6 Tryz.func192 trivial (j9 (fun h=>by kernel_rfl) trivial)
def j8Z:Con:=⟨158,[.v ty81,.v ty67,.v iT,.v iT],[ty81,ty67,iT,iT],⟨[.own 113 ty12],[]⟩,[ty12],fun h=>Pw.j3U h.1 h.2.1 h.2.2.1 h.2.2.2⟩
def jlh:FnD where
 N:=90
 np:=4
 cs:=[j3q,jbB,j9D,j6X,jd6]
 ds:=[]
 modes:=[(108,[false,false]),(118,[false,false,false]),(190,[false,false,false,false]),(191,[false,false,false,false]),(192,[false,false])]
 ro:=[true]
 dw:=[(7,[[],[],[],[],[],[],[],[],[],[],[3584],[]]),(10,[[],[],[],[],[],[],[],[],[],[],[],[4608],[4672],[]]),(12,[[],[],[],[],[],[],[],[],[],[],[],[5568],[5632],[]])]
theorem jkj:Con.OK Tryz.prog j8Z:=
 cOf j0a j03 jlh j8Z Tryz.func158 (j9 j6z (j9 jnD (j9 jlg (j9 jd5 (j9 jox trivial))))) trivial
def j7P:Con:=⟨232,[.v ty25,.v iT],[ty25,iT],⟨[.v iT],[]⟩,[iT],fun h=>Pw.j3C h.1 h.2⟩
def jiW:FnD where
 N:=10
 np:=2
 cs:=[j5P,j5t]
 ds:=[]
 modes:=[(209,[false,false]),(210,[false,false])]
 ro:=[false]
theorem ji1:Con.OK Tryz.prog j7P:=
 cOf j0a j03 jiW j7P Tryz.func232 (j9 jd0 (j9 jbV trivial)) trivial
def jeg:Con:=⟨231,[.v iT],[iT],⟨[.v ty8],[]⟩,[ty8],fun h=>Pw.jhL h⟩
def js3:FnD where
 N:=17
 np:=1
 cs:=[]
 ds:=[]
 ro:=[false]
theorem jqp:Con.OK Tryz.prog jeg:=
 cOf j0a j03 js3 jeg Tryz.func231 trivial trivial
def j5S:Con:=⟨189,[.v ty25,.v iT],[ty25,iT],⟨[.v ty8],[]⟩,[ty8],fun h=>Pw.j0r h.1 h.2⟩
def jkk:FnD where
 N:=11
 np:=2
 cs:=[j7P,jeg]
 ds:=[]
 modes:=[(231,[false]),(232,[false,false])]
 ro:=[false]
theorem jd7:Con.OK Tryz.prog j5S:=
 cOf j0a j03 jkk j5S Tryz.func189 (j9 ji1 (j9 jqp trivial)) trivial
def j82:Con:=⟨159,[.v ty25,.v ty67,.v iT],[ty25,ty67,iT],⟨[.v iT],[]⟩,[iT],fun h=>Pw.j1Z h.1 h.2.1 h.2.2⟩
def jnE:FnD where
 N:=84
 np:=3
 cs:=[jaH,j3q,j5S]
 ds:=[⟨0,[sI,.s (.one (.bp 192 0)),.s (.one (.bp 256 0)),sI,.b (.cell [.d iT,.d ty12] false),.b (.cell [.d .str,.d iT,.d iT,.d iT,.d iT,.d iT,.d (.list iT),.d ty12,.d iT,.d iT] false)],[iT,iT,iT,ty12,.str,iT,iT,iT,iT,iT,(.list iT),ty12,iT,iT],[⟨.exit 0,[sI,.s (.one (.bp 192 0)),.s (.one (.bp 256 0)),sI,.b (.cell [.d iT,.d ty12] false),.b (.cell [.d .str,.d iT,.d iT,.d iT,.d iT,.d iT,.d (.list iT),.d ty12,.d iT,.d iT] false)],[iT,iT,iT,ty12,.str,iT,iT,iT,iT,iT,(.list iT),ty12,iT,iT]⟩],fun h=>Pw.j1T h.1 h.2.1 h.2.2.1 h.2.2.2.1 h.2.2.2.2.1 h.2.2.2.2.2.1 h.2.2.2.2.2.2.1 h.2.2.2.2.2.2.2.1 h.2.2.2.2.2.2.2.2.1 h.2.2.2.2.2.2.2.2.2.1 h.2.2.2.2.2.2.2.2.2.2.1 h.2.2.2.2.2.2.2.2.2.2.2.1 h.2.2.2.2.2.2.2.2.2.2.2.2.1 h.2.2.2.2.2.2.2.2.2.2.2.2.2⟩,
  ⟨2,[sI,.s (.one (.bp 192 0)),.s (.one (.bp 256 0)),sI,.b (.cell [.d iT,.d ty12] false),.b (.cell [.d .str,.d iT,.d iT,.d iT,.d iT,.d iT,.d (.list iT),.d ty12,.d iT,.d iT] false)],[iT,iT,iT,ty12,.str,iT,iT,iT,iT,iT,(.list iT),ty12,iT,iT],[⟨.ret,[sI],[iT]⟩],fun h=>Pw.j2q h.1 h.2.1 h.2.2.1 h.2.2.2.1 h.2.2.2.2.1 h.2.2.2.2.2.1 h.2.2.2.2.2.2.1 h.2.2.2.2.2.2.2.1 h.2.2.2.2.2.2.2.2.1 h.2.2.2.2.2.2.2.2.2.1 h.2.2.2.2.2.2.2.2.2.2.1 h.2.2.2.2.2.2.2.2.2.2.2.1 h.2.2.2.2.2.2.2.2.2.2.2.2.1 h.2.2.2.2.2.2.2.2.2.2.2.2.2⟩]
 modes:=[(118,[false,false,false]),(164,[false]),(189,[false,false])]
 keep:=[(0,⟨[2,3,4,9],[192,256],[],[]⟩),
  (2,⟨[2,3,4,9],[192,256],[],[]⟩)]
 keepX:=[(0,.exit 0,⟨[2,3,4,9],[192,256],[],[]⟩),
  (2,.ret,⟨[6],[],[],[]⟩)]
 ro:=[false]
theorem jgb:Con.OK Tryz.prog j82:=
 cOf j0a j03 jnE j82 Tryz.func159 (j9 jkd (j9 j6z (j9 jd7 trivial))) (j9 (fun h=>by kernel_rfl) (j9 (fun h=>by kernel_rfl) trivial))
def j8G:Con:=⟨112,[.v ty24],[ty24],⟨[.own 60 ty24],[]⟩,[ty24],fun h=>Pw.j75 h⟩
def js4:FnD where
 N:=57
 np:=1
 cs:=[]
 ds:=[⟨0,[.s (.one (.ol 1000000)),.s (.one (.d ty24)),sI,sI,.b (.lst 60 ty20 false)],[ty24,iT,iT,ty24],[⟨.exit 0,[.s (.one (.ol 1500100)),.b (.lst 60 ty20 false)],[ty24]⟩],fun h=>Pw.j5e h.1 h.2.1 h.2.2.1 h.2.2.2⟩]
 keep:=[(0,⟨[3,7,8,9],[],[⟨1000000,60,ty20,[.slot 3],false⟩],[]⟩)]
 keepX:=[(0,.exit 0,⟨[3],[],[⟨1500100,60,ty20,[.slot 3],false⟩],[]⟩)]
 ro:=[true]
theorem jfz:Con.OK Tryz.prog j8G:=
 cOf j0a j03 js4 j8G Tryz.func112 trivial (j9 (fun h=>by kernel_rfl) trivial)
def j7a:Con:=⟨107,[.v ty81,.v ty67,.v iT,.v iT],[ty81,ty67,iT,iT],⟨[.own 60 ty24],[]⟩,[ty24],fun h=>Pw.j1p h.1 h.2.1 h.2.2.1 h.2.2.2⟩
def ji2:FnD where
 N:=95
 np:=4
 cs:=[j3q,j8Z,j82,j8G]
 ds:=[⟨0,[sI,.s (.one (.bp 320 0)),.s (.one (.ol 1000000)),.s (.one (.bp 640 0)),sI,sI,sI,.s (.one (.ol 1000001)),sI,sI,.b (.cell [.d .str,.d iT,.d iT,.d iT,.d iT,.d iT,.d (.list iT),.d ty12,.d iT,.d iT] false),.b (.cell [.d iT,.d ty12] false),.b (.lst 60 ty20 false),.b (.lst 113 ty8 false)],[iT,iT,iT,iT,iT,iT,.str,iT,iT,iT,iT,iT,(.list iT),ty12,iT,iT,iT,ty12,ty24,ty12],[⟨.exit 0,[sI,.s (.one (.ol 1500100)),sI,.b (.lst 60 ty20 false)],[iT,iT,ty24]⟩],fun h=>Pw.j12 h.1 h.2.1 h.2.2.1 h.2.2.2.1 h.2.2.2.2.1 h.2.2.2.2.2.1 h.2.2.2.2.2.2.1 h.2.2.2.2.2.2.2.1 h.2.2.2.2.2.2.2.2.1 h.2.2.2.2.2.2.2.2.2.1 h.2.2.2.2.2.2.2.2.2.2.1 h.2.2.2.2.2.2.2.2.2.2.2.1 h.2.2.2.2.2.2.2.2.2.2.2.2.1 h.2.2.2.2.2.2.2.2.2.2.2.2.2.1 h.2.2.2.2.2.2.2.2.2.2.2.2.2.2.1 h.2.2.2.2.2.2.2.2.2.2.2.2.2.2.2.1 h.2.2.2.2.2.2.2.2.2.2.2.2.2.2.2.2.1 h.2.2.2.2.2.2.2.2.2.2.2.2.2.2.2.2.2.1 h.2.2.2.2.2.2.2.2.2.2.2.2.2.2.2.2.2.2.1 h.2.2.2.2.2.2.2.2.2.2.2.2.2.2.2.2.2.2.2⟩,
  ⟨2,[sI,.s (.one (.bp 320 0)),.s (.one (.ol 1002000)),.s (.one (.bp 640 0)),sI,sI,sI,.s (.one (.bp 960 0)),.s (.one (.ol 1002001)),sI,sI,.b (.cell [.d .str,.d iT,.d iT,.d iT,.d iT,.d iT,.d (.list iT),.d ty12,.d iT,.d iT] false),.b (.cell [.d iT,.d ty12] false),.b (.cell [.d iT,.d iT] false),.b (.lst 60 ty20 false),.b (.lst 113 ty8 false)],[iT,iT,iT,iT,iT,iT,.str,iT,iT,iT,iT,iT,(.list iT),ty12,iT,iT,iT,ty12,iT,iT,ty24,ty12],[⟨.exit 2,[sI,.s (.one (.bp 320 0)),.s (.one (.ol 1502300)),.s (.one (.bp 640 0)),sI,sI,sI,.s (.one (.ol 1502301)),sI,sI,.b (.cell [.d .str,.d iT,.d iT,.d iT,.d iT,.d iT,.d (.list iT),.d ty12,.d iT,.d iT] false),.b (.cell [.d iT,.d ty12] false),.b (.lst 60 ty20 false),.b (.lst 113 ty8 false)],[iT,iT,iT,iT,iT,iT,.str,iT,iT,iT,iT,iT,(.list iT),ty12,iT,iT,iT,ty12,ty24,ty12]⟩],fun h=>Pw.j1k h.1 h.2.1 h.2.2.1 h.2.2.2.1 h.2.2.2.2.1 h.2.2.2.2.2.1 h.2.2.2.2.2.2.1 h.2.2.2.2.2.2.2.1 h.2.2.2.2.2.2.2.2.1 h.2.2.2.2.2.2.2.2.2.1 h.2.2.2.2.2.2.2.2.2.2.1 h.2.2.2.2.2.2.2.2.2.2.2.1 h.2.2.2.2.2.2.2.2.2.2.2.2.1 h.2.2.2.2.2.2.2.2.2.2.2.2.2.1 h.2.2.2.2.2.2.2.2.2.2.2.2.2.2.1 h.2.2.2.2.2.2.2.2.2.2.2.2.2.2.2.1 h.2.2.2.2.2.2.2.2.2.2.2.2.2.2.2.2.1 h.2.2.2.2.2.2.2.2.2.2.2.2.2.2.2.2.2.1 h.2.2.2.2.2.2.2.2.2.2.2.2.2.2.2.2.2.2.1 h.2.2.2.2.2.2.2.2.2.2.2.2.2.2.2.2.2.2.2.1 h.2.2.2.2.2.2.2.2.2.2.2.2.2.2.2.2.2.2.2.2.1 h.2.2.2.2.2.2.2.2.2.2.2.2.2.2.2.2.2.2.2.2.2⟩]
 modes:=[(112,[false]),(118,[false,false,false]),(158,[false,false,false,false]),(159,[false,false,false])]
 keep:=[(0,⟨[3,5,9,10,11,12,13,30,31,32],[320,640],[⟨1000000,60,ty20,[.slot 9],false⟩,⟨1000001,113,ty8,[.slot 30],false⟩],[]⟩),
  (2,⟨[3,5,9,10,11,12,13,15,30,31,32],[320,640,960],[⟨1002000,60,ty20,[.slot 9],false⟩,⟨1002001,113,ty8,[.slot 30],false⟩],[]⟩)]
 keepX:=[(0,.exit 0,⟨[3,9,11],[],[⟨1500100,60,ty20,[.slot 9],false⟩],[]⟩),
  (2,.exit 2,⟨[3,5,9,10,11,12,13,30,31,32],[320,640],[⟨1502300,60,ty20,[.slot 9],false⟩,⟨1502301,113,ty8,[.slot 30],false⟩],[]⟩)]
 ro:=[true]
 dw:=[(17,[[],[],[],[],[],[],[],[],[],[],[],[],[],[5376],[5440,1002000],[]])]
theorem jhe:Con.OK Tryz.prog j7a:=
 cOf j0a j03 ji2 j7a Tryz.func107 (j9 j6z (j9 jkj (j9 jgb (j9 jfz trivial)))) (j9 (fun h=>by kernel_rfl) (j9 (fun h=>by kernel_rfl) trivial))
def jbC:Con:=⟨157,[.v ty72,.v iT],[ty72,iT],⟨[.own 113 ty12],[]⟩,[ty12],fun h=>Pw.j4D h.1 h.2⟩
def joy:FnD where
 N:=35
 np:=2
 cs:=[j5F]
 ds:=[⟨0,[sI,.s (.one (.ol 1000000)),.s (.one (.d ty39)),sI,sI,.b (.lst 113 ty8 false)],[iT,ty39,iT,iT,ty12],[⟨.exit 0,[.s (.one (.ol 1500100)),.b (.lst 113 ty8 false)],[ty12]⟩],fun h=>Pw.j4s h.1 h.2.1 h.2.2.1 h.2.2.2.1 h.2.2.2.2⟩]
 modes:=[(160,[false])]
 keep:=[(0,⟨[1,5,9,10,11],[],[⟨1000000,113,ty8,[.slot 5],false⟩],[]⟩)]
 keepX:=[(0,.exit 0,⟨[5],[],[⟨1500100,113,ty8,[.slot 5],false⟩],[]⟩)]
 ro:=[true]
theorem jnF:Con.OK Tryz.prog jbC:=
 cOf j0a j03 joy jbC Tryz.func157 (j9 j9C trivial) (j9 (fun h=>by kernel_rfl) trivial)
def jau:Con:=⟨106,[.v ty72,.v ty24],[ty72,ty24],⟨[.own 60 ty24],[]⟩,[ty24],fun h=>Pw.j5g h.1 h.2⟩
def jnG:FnD where
 N:=68
 np:=2
 cs:=[j6X,jbC]
 ds:=[⟨0,[.s (.one (.bp 128 0)),.s (.one (.ol 1000000)),.s (.one (.ol 1000001)),.s (.one (.d ty24)),sI,sI,.b (.cell [.d .str,.d ty68,.d ty39] false),.b (.lst 4294967494 ty25 false),.b (.lst 60 ty20 false)],[ty24,iT,iT,.str,ty68,ty39,ty29,ty24],[⟨.exit 0,[.s (.one (.ol 1500100)),.b (.lst 60 ty20 false)],[ty24]⟩],fun h=>Pw.j1U h.1 h.2.1 h.2.2.1 h.2.2.2.1 h.2.2.2.2.1 h.2.2.2.2.2.1 h.2.2.2.2.2.2.1 h.2.2.2.2.2.2.2⟩,
  ⟨2,[.s (.one (.bp 128 0)),.s (.one (.ol 1002000)),.s (.one (.ol 1002001)),.s (.one (.bp 512 0)),.s (.one (.d ty24)),sI,sI,.s (.one (.ol 1002002)),sI,sI,.b (.cell [.d .str,.d ty68,.d ty39] false),.b (.cell [.d iT,.d iT,.d iT] false),.b (.lst 4294967494 ty25 false),.b (.lst 60 ty20 false),.b (.lst 113 ty8 false)],[ty24,iT,iT,iT,iT,.str,ty68,ty39,iT,iT,iT,ty29,ty24,ty12],[⟨.exit 2,[.s (.one (.bp 128 0)),.s (.one (.ol 1502300)),.s (.one (.ol 1502301)),.s (.one (.d ty24)),sI,sI,.b (.cell [.d .str,.d ty68,.d ty39] false),.b (.lst 4294967494 ty25 false),.b (.lst 60 ty20 false)],[ty24,iT,iT,.str,ty68,ty39,ty29,ty24]⟩],fun h=>Pw.j3V h.1 h.2.1 h.2.2.1 h.2.2.2.1 h.2.2.2.2.1 h.2.2.2.2.2.1 h.2.2.2.2.2.2.1 h.2.2.2.2.2.2.2.1 h.2.2.2.2.2.2.2.2.1 h.2.2.2.2.2.2.2.2.2.1 h.2.2.2.2.2.2.2.2.2.2.1 h.2.2.2.2.2.2.2.2.2.2.2.1 h.2.2.2.2.2.2.2.2.2.2.2.2.1 h.2.2.2.2.2.2.2.2.2.2.2.2.2⟩]
 modes:=[(108,[false,false]),(157,[false,false])]
 keep:=[(0,⟨[2,5,6,14,15,16],[128],[⟨1000000,4294967494,ty25,[.slot 5],false⟩,⟨1000001,60,ty20,[.slot 6],false⟩],[]⟩),
  (2,⟨[2,5,6,8,14,15,16,49,50,51],[128,512],[⟨1002000,4294967494,ty25,[.slot 5],false⟩,⟨1002001,60,ty20,[.slot 6],false⟩,⟨1002002,113,ty8,[.slot 49],false⟩],[]⟩)]
 keepX:=[(0,.exit 0,⟨[6],[],[⟨1500100,60,ty20,[.slot 6],false⟩],[]⟩),
  (2,.exit 2,⟨[2,5,6,14,15,16],[128],[⟨1502300,4294967494,ty25,[.slot 5],false⟩,⟨1502301,60,ty20,[.slot 6],false⟩],[]⟩)]
 ro:=[true]
 dw:=[(9,[[],[],[],[],[],[],[2432],[2432,1000000]])]
theorem jma:Con.OK Tryz.prog jau:=
 cOf j0a j03 jnG jau Tryz.func106 (j9 jd5 (j9 jnF trivial)) (j9 (fun h=>by kernel_rfl) (j9 (fun h=>by kernel_rfl) trivial))
def jbD:Con:=⟨105,[.v ty24,.v ty12],[ty24,ty12],⟨[.own 60 ty24],[]⟩,[ty24],fun h=>Pw.j7v h.1 h.2⟩
def joz:FnD where
 N:=72
 np:=2
 cs:=[]
 ds:=[⟨0,[.s (.one (.d ty24)),.s (.one (.d ty12)),.s (.one (.ol 1000000)),sI,sI,.b (.lst 60 ty20 false)],[ty24,ty12,iT,iT,ty24],[⟨.exit 0,[.s (.one (.ol 1500100)),.b (.lst 60 ty20 false)],[ty24]⟩],fun h=>Pw.j5M h.1 h.2.1 h.2.2.1 h.2.2.2.1 h.2.2.2.2⟩]
 keep:=[(0,⟨[0,1,5,6,7],[],[⟨1000000,60,ty20,[.slot 5],false⟩],[]⟩)]
 keepX:=[(0,.exit 0,⟨[5],[],[⟨1500100,60,ty20,[.slot 5],false⟩],[]⟩)]
 ro:=[true]
 dw:=[(4,[[],[],[],[],[],[],[],[],[],[],[],[],[],[],[],[],[],[],[],[],[],[],[],[],[],[],[],[],[512],[512]])]
theorem jnH:Con.OK Tryz.prog jbD:=
 cOf j0a j03 joz jbD Tryz.func105 trivial (j9 (fun h=>by kernel_rfl) trivial)
def jd8:Con:=⟨109,[.v ty24],[ty24],⟨[.own 113 ty12],[]⟩,[ty12],fun h=>Pw.j7w h⟩
def jqq:FnD where
 N:=23
 np:=1
 cs:=[j5F]
 ds:=[⟨0,[.s (.one (.ol 1000000)),.s (.one (.d ty24)),sI,sI,.b (.lst 113 ty8 false)],[ty24,iT,iT,ty12],[⟨.exit 0,[.s (.one (.ol 1500100)),.b (.lst 113 ty8 false)],[ty12]⟩],fun h=>Pw.j4O h.1 h.2.1 h.2.2.1 h.2.2.2⟩]
 modes:=[(160,[false])]
 keep:=[(0,⟨[3,6,7,8],[],[⟨1000000,113,ty8,[.slot 3],false⟩],[]⟩)]
 keepX:=[(0,.exit 0,⟨[3],[],[⟨1500100,113,ty8,[.slot 3],false⟩],[]⟩)]
 ro:=[true]
theorem joA:Con.OK Tryz.prog jd8:=
 cOf j0a j03 jqq jd8 Tryz.func109 (j9 j9C trivial) (j9 (fun h=>by kernel_rfl) trivial)
def j6B:Con:=⟨111,[.v ty20,.v ty20],[ty20,ty20],⟨[.v iT],[]⟩,[iT],fun h=>Pw.j3D h.1 h.2⟩
def jhf:FnD where
 N:=10
 np:=2
 cs:=[]
 ds:=[]
 ro:=[false]
theorem jqV:Con.OK Tryz.prog j6B:=
 cOf j0a j03 jhf j6B Tryz.func111 trivial trivial
def j1e:Con:=⟨110,[.rl 60 ty24,.clo 111 []],[ty24],⟨[],[.rl ty24]⟩,[ty24],fun h=>Pw.j0L h⟩
def j9i:FnD where
 N:=14
 np:=2
 cs:=[j6B]
 ds:=[]
 modes:=[(111,[false,false])]
theorem j39:Con.OK Tryz.prog j1e:=
 juT Tryz.sort110 (ty20) rfl 60 (by kernel_rfl) Tryz.isAgg60 Tryz.sizeOf60 _ 111 (enters_of Tryz.func111 (by kernel_rfl) rfl) jto jtp 110 rfl
def j8o:Con:=⟨61,[.v ty81,.v ty72,.v iT,.v iT],[ty81,ty72,iT,iT],⟨[.own 60 ty24],[]⟩,[ty24],fun h=>Pw.j2L h.1 h.2.1 h.2.2.1 h.2.2.2⟩
def jkl:FnD where
 N:=63
 np:=4
 cs:=[j1s,j6X,j8G,j7a,jau,jbD,jd8,j1e]
 ds:=[⟨0,[sI,.s (.one (.bp 256 0)),.s (.one (.bp 320 0)),.s (.one (.bp 384 0)),.s (.one (.bp 448 0)),.s (.one (.bp 576 0)),.s (.one (.bp 640 0)),.s (.one (.clo 155 [.p [ty68]])),.b (.cell [.d ty61,.d ty51,.d ty26,.d ty73,.d ty29] false),.b (.cell [.d .str,.d ty68,.d ty39] false),.b (.cell [.d iT] false),.b (.cell [.d iT] false),.b (.cell [.ol 1000000] false),.b (.cell [.ol 1000001] false),.b (.lst 113 ty8 false),.b (.lst 60 ty20 false)],[iT,ty68,ty61,ty51,ty26,ty73,ty29,.str,ty68,ty39,iT,iT,ty12,ty24],[⟨.normal,[.s (.one (.bp 576 0)),.s (.one (.bp 640 0)),.b (.cell [.ol 1500050] false),.b (.cell [.ol 1500051] false),.b (.lst 113 ty8 false),.b (.lst 60 ty20 false)],[ty12,ty24]⟩],fun h=>Pw.j1c h.1 h.2.1 h.2.2.1 h.2.2.2.1 h.2.2.2.2.1 h.2.2.2.2.2.1 h.2.2.2.2.2.2.1 h.2.2.2.2.2.2.2.1 h.2.2.2.2.2.2.2.2.1 h.2.2.2.2.2.2.2.2.2.1 h.2.2.2.2.2.2.2.2.2.2.1 h.2.2.2.2.2.2.2.2.2.2.2.1 h.2.2.2.2.2.2.2.2.2.2.2.2.1 h.2.2.2.2.2.2.2.2.2.2.2.2.2⟩,
  ⟨2,[.s (.one (.bp 640 0)),.s (.one (.ol 1002000)),sI,sI,.b (.cell [.ol 1002001] false),.b (.lst 113 ty8 false),.b (.lst 60 ty20 false)],[iT,iT,ty12,ty24],[⟨.exit 2,[.s (.one (.bp 640 0)),.b (.cell [.ol 1502300] false),.b (.lst 60 ty20 false)],[ty24]⟩],fun h=>Pw.j33 h.1 h.2.1 h.2.2.1 h.2.2.2⟩]
 modes:=[(102,[false]),(105,[false,false]),(106,[false,false]),(107,[false,false,false,false]),(108,[false,false]),(109,[false]),(110,[true,false]),(112,[false])]
 keep:=[(0,⟨[4,5,6,7,9,10,25],[256,320,384,448,576,640],[⟨1000000,113,ty8,[.cell 576 0],false⟩,⟨1000001,60,ty20,[.cell 640 0],false⟩],[]⟩),
  (2,⟨[10,44,45,46],[640],[⟨1002000,113,ty8,[.slot 44],false⟩,⟨1002001,60,ty20,[.cell 640 0],false⟩],[]⟩)]
 keepX:=[(0,.normal,⟨[9,10],[576,640],[⟨1500050,113,ty8,[.cell 576 0],false⟩,⟨1500051,60,ty20,[.cell 640 0],false⟩],[]⟩),
  (2,.exit 2,⟨[10],[640],[⟨1502300,60,ty20,[.cell 640 0],false⟩],[]⟩)]
 ro:=[true]
 dw:=[(7,[[],[],[],[],[],[2112],[2176],[],[2304],[]]),(9,[[],[],[2688],[2752],[576]])]
 bw:=[(155,ty67)]
theorem juV:BwOK Tryz.prog 155 (ty67):=
 jCq j0a Tryz.func155 (fn:=Tryz.f155) (A0:=bwA Tryz.f155 0) (A1:=bwA Tryz.f155 1) (A2:=bwA Tryz.f155 2) (A3:=bwA Tryz.f155 3) (by kernel_rfl) (by kernel_rfl) (by kernel_rfl) (by kernel_rfl) (by kernel_rfl) (by kernel_rfl) (by kernel_rfl) (by kernel_rfl) (by kernel_rfl) (by kernel_rfl) (by kernel_rfl) ⟨(by kernel_rfl),(by kernel_rfl)⟩
  (fun xs=>by kernel_rfl) (fun i=>by kernel_rfl) (fun i=>by kernel_rfl) (fun xs i=>by kernel_rfl) (fun b i=>by kernel_rfl)
theorem jiX:Con.OK Tryz.prog j8o:=
 cOf j0a j03 jkl j8o Tryz.func61 (j9 j4a (j9 jd5 (j9 jfz (j9 jhe (j9 jma (j9 jnH (j9 joA (j9 j39 trivial)))))))) (j9 (fun h=>by kernel_rfl) (j9 (fun h=>by kernel_rfl) trivial)) (j9 juV trivial)
def j8p:Con:=⟨217,[.v iT],[iT],⟨[.v .bool],[]⟩,[.bool],fun h=>Pw.j6I h⟩
def jkm:FnD where
 N:=6
 np:=1
 cs:=[]
 ds:=[]
 ro:=[false]
theorem jiY:Con.OK Tryz.prog j8p:=
 cOf j0a j03 jkm j8p Tryz.func217 trivial trivial
def j2A:Con:=⟨168,[.v (.list iT),.v iT],[(.list iT),iT],⟨[.v iT,.v .bool],[]⟩,[iT,.bool],fun h=>Pw.j0i h.1 h.2⟩
def jbE:FnD where
 N:=54
 np:=2
 cs:=[j8P,j8p]
 ds:=[⟨0,[.s (.one (.d (.list iT))),sI,sI,sI,sI],[(.list iT),iT,iT,iT,iT],[⟨.exit 0,[.s (.one (.d (.list iT))),sI,sI,sI],[(.list iT),iT,iT,iT]⟩],fun h=>Pw.j20 h.1 h.2.1 h.2.2.1 h.2.2.2.1 h.2.2.2.2⟩]
 modes:=[(216,[false,false]),(217,[false])]
 keep:=[(0,⟨[0,1,6,7,8],[],[],[]⟩)]
 keepX:=[(0,.exit 0,⟨[0,1,6,7],[],[],[]⟩)]
 ro:=[false,false]
theorem j6i:Con.OK Tryz.prog j2A:=
 cOf j0a j03 jbE j2A Tryz.func168 (j9 jhc (j9 jiY trivial)) (j9 (fun h=>by kernel_rfl) trivial)
def jd9:Con:=⟨218,[.v ty37,.v iT],[ty37,iT],⟨[.v .bool],[]⟩,[.bool],fun h=>Pw.jiI h.1 h.2⟩
def jqr:FnD where
 N:=15
 np:=2
 cs:=[]
 ds:=[]
 ro:=[false]
theorem joB:Con.OK Tryz.prog jd9:=
 cOf j0a j03 jqr jd9 Tryz.func218 trivial trivial
end Go.Proofs.Pk
