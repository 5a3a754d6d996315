/- Contracts: each given function is its plain function, printed by a program. -/
import Derived.Test.YthpdddnkpjnllaaGreatGCon4
noncomputable section
open Go Go.Lft
set_option linter.unusedVariables false
set_option maxRecDepth 100000
namespace Go.Proofs.Pk
def j8K:Con:=⟨191,[.v ty81,.v ty22,.v iT,.v iT],[ty81,ty22,iT,iT],⟨[.own 113 ty12],[]⟩,[ty12],fun h=>Pw.j3V h.1 h.2.1 h.2.2.1 h.2.2.2⟩
def jl7:FnD where
 N:=58
 np:=4
 cs:=[j3o,j4U]
 ds:=[⟨0,[.s (.one (.bp 320 0)),.s (.one (.ol 1000000)),.s (.one (.ol 1000001)),sI,sI,.b (.cell [.d .str,.d iT,.d (.list iT)] false),.b (.lst 113 ty8 false),.b (.lst 212 ty20 false)],[iT,iT,.str,iT,(.list iT),ty12,ty24],[⟨.exit 0,[.s (.one (.ol 1500100)),.b (.lst 113 ty8 false)],[ty12]⟩],fun h=>Pw.j2Y h.1 h.2.1 h.2.2.1 h.2.2.2.1 h.2.2.2.2.1 h.2.2.2.2.2.1 h.2.2.2.2.2.2⟩,
  ⟨2,[.s (.one (.bp 320 0)),.s (.one (.ol 1002000)),.s (.one (.bp 704 0)),.s (.one (.ol 1002001)),sI,sI,.s (.one (.d (.list iT))),sI,sI,.b (.cell [.d .str,.d iT,.d (.list iT)] false),.b (.cell [.d iT,.d iT,.d iT] false),.b (.lst 113 ty8 false),.b (.lst 212 ty20 false)],[iT,iT,(.list iT),iT,iT,.str,iT,(.list iT),iT,iT,iT,ty12,ty24],[⟨.exit 2,[.s (.one (.bp 320 0)),.s (.one (.ol 1502300)),.s (.one (.ol 1502301)),sI,sI,.b (.cell [.d .str,.d iT,.d (.list iT)] false),.b (.lst 113 ty8 false),.b (.lst 212 ty20 false)],[iT,iT,.str,iT,(.list iT),ty12,ty24]⟩],fun h=>Pw.j9c h.1 h.2.1 h.2.2.1 h.2.2.2.1 h.2.2.2.2.1 h.2.2.2.2.2.1 h.2.2.2.2.2.2.1 h.2.2.2.2.2.2.2.1 h.2.2.2.2.2.2.2.2.1 h.2.2.2.2.2.2.2.2.2.1 h.2.2.2.2.2.2.2.2.2.2.1 h.2.2.2.2.2.2.2.2.2.2.2.1 h.2.2.2.2.2.2.2.2.2.2.2.2⟩]
 modes:=[(160,[false]),(165,[false,false,false])]
 keep:=[(0,⟨[5,9,23,24,25],[320],[⟨1000000,113,ty8,[.slot 9],false⟩,⟨1000001,212,ty20,[.slot 23],false⟩],[]⟩),
  (2,⟨[5,9,11,23,24,25,30,31,32],[320,704],[⟨1002000,113,ty8,[.slot 9],false⟩,⟨1002001,212,ty20,[.slot 23],false⟩],[]⟩)]
 keepX:=[(0,.exit 0,⟨[9],[],[⟨1500100,113,ty8,[.slot 9],false⟩],[]⟩),
  (2,.exit 2,⟨[5,9,23,24,25],[320],[⟨1502300,113,ty8,[.slot 9],false⟩,⟨1502301,212,ty20,[.slot 23],false⟩],[]⟩)]
 ro:=[true]
theorem jkn:Con.OK Tryz.prog j8K:=
 cOf j07 j02 jl7 j8K Tryz.func191 (j9 j7g (j9 j8J trivial)) (j9 (fun h=>by kernel_rfl) (j9 (fun h=>by kernel_rfl) trivial))
def j5X:Con:=⟨108,[.v ty12,.v ty12],[ty12,ty12],⟨[.own 113 ty12],[]⟩,[ty12],fun h=>Pw.j4u h.1 h.2⟩
def jnt:FnD where
 N:=89
 np:=2
 cs:=[]
 ds:=[⟨0,[.s (.one (.d ty12)),.s (.one (.ol 1000000)),sI,.s (.one (.d ty12)),sI,sI,.b (.lst 113 ty8 false)],[ty12,iT,ty12,iT,iT,ty12],[⟨.exit 0,[.s (.one (.ol 1500100)),.b (.lst 113 ty8 false)],[ty12]⟩],fun h=>Pw.j3H h.1 h.2.1 h.2.2.1 h.2.2.2.1 h.2.2.2.2.1 h.2.2.2.2.2⟩,
  ⟨2,[.s (.one (.d ty12)),.s (.one (.ol 1002000)),sI,.s (.one (.bp 512 0)),.s (.one (.d ty12)),sI,sI,.b (.cell [.d iT,.d iT] false),.b (.lst 113 ty8 false)],[ty12,iT,ty12,iT,iT,iT,iT,ty12],[⟨.exit 2,[.s (.one (.d ty12)),.s (.one (.ol 1502300)),sI,.s (.one (.bp 512 0)),.s (.one (.d ty12)),sI,sI,.b (.cell [.d iT,.d iT] false),.b (.lst 113 ty8 false)],[ty12,iT,ty12,iT,iT,iT,iT,ty12]⟩],fun h=>Pw.jb1 h.1 h.2.1 h.2.2.1 h.2.2.2.1 h.2.2.2.2.1 h.2.2.2.2.2.1 h.2.2.2.2.2.2.1 h.2.2.2.2.2.2.2⟩,
  ⟨4,[.s (.one (.d ty12)),.s (.one (.ol 1004000)),sI,.s (.one (.bp 512 0)),sI,sI,.s (.one (.d ty12)),sI,sI,.b (.cell [.d iT,.d iT] false),.b (.lst 113 ty8 false)],[ty12,iT,iT,iT,ty12,iT,iT,iT,iT,ty12],[⟨.exit 4,[.s (.one (.d ty12)),.s (.one (.ol 1504500)),sI,.s (.one (.bp 512 0)),sI,.s (.one (.d ty12)),sI,sI,.b (.cell [.d iT,.d iT] false),.b (.lst 113 ty8 false)],[ty12,iT,iT,ty12,iT,iT,iT,iT,ty12]⟩],fun h=>Pw.jb2 h.1 h.2.1 h.2.2.1 h.2.2.2.1 h.2.2.2.2.1 h.2.2.2.2.2.1 h.2.2.2.2.2.2.1 h.2.2.2.2.2.2.2.1 h.2.2.2.2.2.2.2.2.1 h.2.2.2.2.2.2.2.2.2⟩]
 keep:=[(0,⟨[1,5,6,11,12,13],[],[⟨1000000,113,ty8,[.slot 5],false⟩],[]⟩),
  (2,⟨[1,5,6,8,11,12,13],[512],[⟨1002000,113,ty8,[.slot 5],false⟩],[]⟩),
  (4,⟨[1,5,6,8,9,10,11,12,13],[512],[⟨1004000,113,ty8,[.slot 5],false⟩],[]⟩)]
 keepX:=[(0,.exit 0,⟨[5],[],[⟨1500100,113,ty8,[.slot 5],false⟩],[]⟩),
  (2,.exit 2,⟨[1,5,6,8,11,12,13],[512],[⟨1502300,113,ty8,[.slot 5],false⟩],[]⟩),
  (4,.exit 4,⟨[1,5,6,8,9,11,12,13],[512],[⟨1504500,113,ty8,[.slot 5],false⟩],[]⟩)]
 ro:=[true]
theorem jcp:Con.OK Tryz.prog j5X:=
 cOf j07 j02 jnt j5X Tryz.func108 trivial (j9 (fun h=>by kernel_rfl) (j9 (fun h=>by kernel_rfl) (j9 (fun h=>by kernel_rfl) trivial)))
def jcq:Con:=⟨192,[.v ty12,.v ty12],[ty12,ty12],⟨[.own 113 ty12],[]⟩,[ty12],fun h=>Pw.j9v h.1 h.2⟩
def jph:FnD where
 N:=67
 np:=2
 cs:=[]
 ds:=[⟨0,[.s (.one (.d ty12)),.s (.one (.d ty12)),.s (.one (.ol 1000000)),sI,sI,.b (.lst 113 ty8 false)],[ty12,ty12,iT,iT,ty12],[⟨.exit 0,[.s (.one (.ol 1500100)),.b (.lst 113 ty8 false)],[ty12]⟩],fun h=>Pw.jbP h.1 h.2.1 h.2.2.1 h.2.2.2.1 h.2.2.2.2⟩]
 keep:=[(0,⟨[0,1,5,6,7],[],[⟨1000000,113,ty8,[.slot 5],false⟩],[]⟩)]
 keepX:=[(0,.exit 0,⟨[5],[],[⟨1500100,113,ty8,[.slot 5],false⟩],[]⟩)]
 ro:=[true]
 dw:=[(4,[[],[],[],[],[],[],[],[],[],[],[],[],[],[],[],[],[],[],[],[],[],[],[],[512],[512]])]
theorem jnu:Con.OK Tryz.prog jcq:=
 cOf j07 j02 jph jcq Tryz.func192 trivial (j9 (fun h=>by kernel_rfl) trivial)
def j80:Con:=⟨158,[.v ty81,.v ty67,.v iT,.v iT],[ty81,ty67,iT,iT],⟨[.own 113 ty12],[]⟩,[ty12],fun h=>Pw.j6p h.1 h.2.1 h.2.2.1 h.2.2.2⟩
def jko:FnD where
 N:=90
 np:=4
 cs:=[j2S,jaJ,j8K,j5X,jcq]
 ds:=[]
 modes:=[(108,[false,false]),(118,[false,false,false]),(190,[false,false,false,false]),(191,[false,false,false,false]),(192,[false,false])]
 ro:=[true]
 dw:=[(7,[[],[],[],[],[],[],[],[],[],[],[3584],[]]),(10,[[],[],[],[],[],[],[],[],[],[],[],[4608],[4672],[]]),(12,[[],[],[],[],[],[],[],[],[],[],[],[5568],[5632],[]])]
theorem jjw:Con.OK Tryz.prog j80:=
 cOf j07 j02 jko j80 Tryz.func158 (j9 j5B (j9 jmz (j9 jkn (j9 jcp (j9 jnu trivial))))) trivial
def j6K:Con:=⟨232,[.v ty25,.v iT],[ty25,iT],⟨[.v iT],[]⟩,[iT],fun h=>Pw.j32 h.1 h.2⟩
def jia:FnD where
 N:=10
 np:=2
 cs:=[j52,j4I]
 ds:=[]
 modes:=[(209,[false,false]),(210,[false,false])]
 ro:=[false]
theorem jhf:Con.OK Tryz.prog j6K:=
 cOf j07 j02 jia j6K Tryz.func232 (j9 jck (j9 jb6 trivial)) trivial
def jdv:Con:=⟨231,[.v iT],[iT],⟨[.v ty8],[]⟩,[ty8],fun h=>Pw.jh2 h⟩
def jqP:FnD where
 N:=17
 np:=1
 cs:=[]
 ds:=[]
 ro:=[false]
theorem jpi:Con.OK Tryz.prog jdv:=
 cOf j07 j02 jqP jdv Tryz.func231 trivial trivial
def j55:Con:=⟨189,[.v ty25,.v iT],[ty25,iT],⟨[.v ty8],[]⟩,[ty8],fun h=>Pw.j0s h.1 h.2⟩
def jjx:FnD where
 N:=11
 np:=2
 cs:=[j6K,jdv]
 ds:=[]
 modes:=[(231,[false]),(232,[false,false])]
 ro:=[false]
theorem jcr:Con.OK Tryz.prog j55:=
 cOf j07 j02 jjx j55 Tryz.func189 (j9 jhf (j9 jpi trivial)) trivial
def j70:Con:=⟨159,[.v ty25,.v ty67,.v iT],[ty25,ty67,iT],⟨[.v iT],[]⟩,[iT],fun h=>Pw.j1U h.1 h.2.1 h.2.2⟩
def jmA:FnD where
 N:=84
 np:=3
 cs:=[j9S,j2S,j55]
 ds:=[⟨0,[sI,.s (.one (.bp 192 0)),.s (.one (.bp 256 0)),sI,.b (.cell [.d iT,.d ty12] false),.b (.cell [.d .str,.d iT,.d iT,.d iT,.d iT,.d iT,.d (.list iT),.d ty12,.d iT,.d iT] false)],[iT,iT,iT,ty12,.str,iT,iT,iT,iT,iT,(.list iT),ty12,iT,iT],[⟨.exit 0,[sI,.s (.one (.bp 192 0)),.s (.one (.bp 256 0)),sI,.b (.cell [.d iT,.d ty12] false),.b (.cell [.d .str,.d iT,.d iT,.d iT,.d iT,.d iT,.d (.list iT),.d ty12,.d iT,.d iT] false)],[iT,iT,iT,ty12,.str,iT,iT,iT,iT,iT,(.list iT),ty12,iT,iT]⟩],fun h=>Pw.j1q h.1 h.2.1 h.2.2.1 h.2.2.2.1 h.2.2.2.2.1 h.2.2.2.2.2.1 h.2.2.2.2.2.2.1 h.2.2.2.2.2.2.2.1 h.2.2.2.2.2.2.2.2.1 h.2.2.2.2.2.2.2.2.2.1 h.2.2.2.2.2.2.2.2.2.2.1 h.2.2.2.2.2.2.2.2.2.2.2.1 h.2.2.2.2.2.2.2.2.2.2.2.2.1 h.2.2.2.2.2.2.2.2.2.2.2.2.2⟩,
  ⟨2,[sI,.s (.one (.bp 192 0)),.s (.one (.bp 256 0)),sI,.b (.cell [.d iT,.d ty12] false),.b (.cell [.d .str,.d iT,.d iT,.d iT,.d iT,.d iT,.d (.list iT),.d ty12,.d iT,.d iT] false)],[iT,iT,iT,ty12,.str,iT,iT,iT,iT,iT,(.list iT),ty12,iT,iT],[⟨.ret,[sI],[iT]⟩],fun h=>Pw.j1N h.1 h.2.1 h.2.2.1 h.2.2.2.1 h.2.2.2.2.1 h.2.2.2.2.2.1 h.2.2.2.2.2.2.1 h.2.2.2.2.2.2.2.1 h.2.2.2.2.2.2.2.2.1 h.2.2.2.2.2.2.2.2.2.1 h.2.2.2.2.2.2.2.2.2.2.1 h.2.2.2.2.2.2.2.2.2.2.2.1 h.2.2.2.2.2.2.2.2.2.2.2.2.1 h.2.2.2.2.2.2.2.2.2.2.2.2.2⟩]
 modes:=[(118,[false,false,false]),(164,[false]),(189,[false,false])]
 keep:=[(0,⟨[2,3,4,9],[192,256],[],[]⟩),
  (2,⟨[2,3,4,9],[192,256],[],[]⟩)]
 keepX:=[(0,.exit 0,⟨[2,3,4,9],[192,256],[],[]⟩),
  (2,.ret,⟨[6],[],[],[]⟩)]
 ro:=[false]
theorem jfr:Con.OK Tryz.prog j70:=
 cOf j07 j02 jmA j70 Tryz.func159 (j9 jjq (j9 j5B (j9 jcr trivial))) (j9 (fun h=>by kernel_rfl) (j9 (fun h=>by kernel_rfl) trivial))
def j7E:Con:=⟨112,[.v ty24],[ty24],⟨[.own 60 ty24],[]⟩,[ty24],fun h=>Pw.j9w h⟩
def jqQ:FnD where
 N:=57
 np:=1
 cs:=[]
 ds:=[⟨0,[.s (.one (.ol 1000000)),.s (.one (.d ty24)),sI,sI,.b (.lst 60 ty20 false)],[ty24,iT,iT,ty24],[⟨.exit 0,[.s (.one (.ol 1500100)),.b (.lst 60 ty20 false)],[ty24]⟩],fun h=>Pw.jd4 h.1 h.2.1 h.2.2.1 h.2.2.2⟩]
 keep:=[(0,⟨[3,7,8,9],[],[⟨1000000,60,ty20,[.slot 3],false⟩],[]⟩)]
 keepX:=[(0,.exit 0,⟨[3],[],[⟨1500100,60,ty20,[.slot 3],false⟩],[]⟩)]
 ro:=[true]
theorem jeR:Con.OK Tryz.prog j7E:=
 cOf j07 j02 jqQ j7E Tryz.func112 trivial (j9 (fun h=>by kernel_rfl) trivial)
def j67:Con:=⟨107,[.v ty81,.v ty67,.v iT,.v iT],[ty81,ty67,iT,iT],⟨[.own 60 ty24],[]⟩,[ty24],fun h=>Pw.j4v h.1 h.2.1 h.2.2.1 h.2.2.2⟩
def jhg:FnD where
 N:=95
 np:=4
 cs:=[j2S,j80,j70,j7E]
 ds:=[⟨0,[sI,.s (.one (.bp 320 0)),.s (.one (.ol 1000000)),.s (.one (.bp 640 0)),sI,sI,sI,.s (.one (.ol 1000001)),sI,sI,.b (.cell [.d .str,.d iT,.d iT,.d iT,.d iT,.d iT,.d (.list iT),.d ty12,.d iT,.d iT] false),.b (.cell [.d iT,.d ty12] false),.b (.lst 60 ty20 false),.b (.lst 113 ty8 false)],[iT,iT,iT,iT,iT,iT,.str,iT,iT,iT,iT,iT,(.list iT),ty12,iT,iT,iT,ty12,ty24,ty12],[⟨.exit 0,[sI,.s (.one (.ol 1500100)),sI,.b (.lst 60 ty20 false)],[iT,iT,ty24]⟩],fun h=>Pw.j22 h.1 h.2.1 h.2.2.1 h.2.2.2.1 h.2.2.2.2.1 h.2.2.2.2.2.1 h.2.2.2.2.2.2.1 h.2.2.2.2.2.2.2.1 h.2.2.2.2.2.2.2.2.1 h.2.2.2.2.2.2.2.2.2.1 h.2.2.2.2.2.2.2.2.2.2.1 h.2.2.2.2.2.2.2.2.2.2.2.1 h.2.2.2.2.2.2.2.2.2.2.2.2.1 h.2.2.2.2.2.2.2.2.2.2.2.2.2.1 h.2.2.2.2.2.2.2.2.2.2.2.2.2.2.1 h.2.2.2.2.2.2.2.2.2.2.2.2.2.2.2.1 h.2.2.2.2.2.2.2.2.2.2.2.2.2.2.2.2.1 h.2.2.2.2.2.2.2.2.2.2.2.2.2.2.2.2.2.1 h.2.2.2.2.2.2.2.2.2.2.2.2.2.2.2.2.2.2.1 h.2.2.2.2.2.2.2.2.2.2.2.2.2.2.2.2.2.2.2⟩,
  ⟨2,[sI,.s (.one (.bp 320 0)),.s (.one (.ol 1002000)),.s (.one (.bp 640 0)),sI,sI,sI,.s (.one (.bp 960 0)),.s (.one (.ol 1002001)),sI,sI,.b (.cell [.d .str,.d iT,.d iT,.d iT,.d iT,.d iT,.d (.list iT),.d ty12,.d iT,.d iT] false),.b (.cell [.d iT,.d ty12] false),.b (.cell [.d iT,.d iT] false),.b (.lst 60 ty20 false),.b (.lst 113 ty8 false)],[iT,iT,iT,iT,iT,iT,.str,iT,iT,iT,iT,iT,(.list iT),ty12,iT,iT,iT,ty12,iT,iT,ty24,ty12],[⟨.exit 2,[sI,.s (.one (.bp 320 0)),.s (.one (.ol 1502300)),.s (.one (.bp 640 0)),sI,sI,sI,.s (.one (.ol 1502301)),sI,sI,.b (.cell [.d .str,.d iT,.d iT,.d iT,.d iT,.d iT,.d (.list iT),.d ty12,.d iT,.d iT] false),.b (.cell [.d iT,.d ty12] false),.b (.lst 60 ty20 false),.b (.lst 113 ty8 false)],[iT,iT,iT,iT,iT,iT,.str,iT,iT,iT,iT,iT,(.list iT),ty12,iT,iT,iT,ty12,ty24,ty12]⟩],fun h=>Pw.j21 h.1 h.2.1 h.2.2.1 h.2.2.2.1 h.2.2.2.2.1 h.2.2.2.2.2.1 h.2.2.2.2.2.2.1 h.2.2.2.2.2.2.2.1 h.2.2.2.2.2.2.2.2.1 h.2.2.2.2.2.2.2.2.2.1 h.2.2.2.2.2.2.2.2.2.2.1 h.2.2.2.2.2.2.2.2.2.2.2.1 h.2.2.2.2.2.2.2.2.2.2.2.2.1 h.2.2.2.2.2.2.2.2.2.2.2.2.2.1 h.2.2.2.2.2.2.2.2.2.2.2.2.2.2.1 h.2.2.2.2.2.2.2.2.2.2.2.2.2.2.2.1 h.2.2.2.2.2.2.2.2.2.2.2.2.2.2.2.2.1 h.2.2.2.2.2.2.2.2.2.2.2.2.2.2.2.2.2.1 h.2.2.2.2.2.2.2.2.2.2.2.2.2.2.2.2.2.2.1 h.2.2.2.2.2.2.2.2.2.2.2.2.2.2.2.2.2.2.2.1 h.2.2.2.2.2.2.2.2.2.2.2.2.2.2.2.2.2.2.2.2.1 h.2.2.2.2.2.2.2.2.2.2.2.2.2.2.2.2.2.2.2.2.2⟩]
 modes:=[(112,[false]),(118,[false,false,false]),(158,[false,false,false,false]),(159,[false,false,false])]
 keep:=[(0,⟨[3,5,9,10,11,12,13,30,31,32],[320,640],[⟨1000000,60,ty20,[.slot 9],false⟩,⟨1000001,113,ty8,[.slot 30],false⟩],[]⟩),
  (2,⟨[3,5,9,10,11,12,13,15,30,31,32],[320,640,960],[⟨1002000,60,ty20,[.slot 9],false⟩,⟨1002001,113,ty8,[.slot 30],false⟩],[]⟩)]
 keepX:=[(0,.exit 0,⟨[3,9,11],[],[⟨1500100,60,ty20,[.slot 9],false⟩],[]⟩),
  (2,.exit 2,⟨[3,5,9,10,11,12,13,30,31,32],[320,640],[⟨1502300,60,ty20,[.slot 9],false⟩,⟨1502301,113,ty8,[.slot 30],false⟩],[]⟩)]
 ro:=[true]
 dw:=[(17,[[],[],[],[],[],[],[],[],[],[],[],[],[],[5376],[5440,1002000],[]])]
theorem jgt:Con.OK Tryz.prog j67:=
 cOf j07 j02 jhg j67 Tryz.func107 (j9 j5B (j9 jjw (j9 jfr (j9 jeR trivial)))) (j9 (fun h=>by kernel_rfl) (j9 (fun h=>by kernel_rfl) trivial))
def jaK:Con:=⟨157,[.v ty72,.v iT],[ty72,iT],⟨[.own 113 ty12],[]⟩,[ty12],fun h=>Pw.ja1 h.1 h.2⟩
def jnv:FnD where
 N:=35
 np:=2
 cs:=[j4U]
 ds:=[⟨0,[sI,.s (.one (.ol 1000000)),.s (.one (.d ty39)),sI,sI,.b (.lst 113 ty8 false)],[iT,ty39,iT,iT,ty12],[⟨.exit 0,[.s (.one (.ol 1500100)),.b (.lst 113 ty8 false)],[ty12]⟩],fun h=>Pw.jb3 h.1 h.2.1 h.2.2.1 h.2.2.2.1 h.2.2.2.2⟩]
 modes:=[(160,[false])]
 keep:=[(0,⟨[1,5,9,10,11],[],[⟨1000000,113,ty8,[.slot 5],false⟩],[]⟩)]
 keepX:=[(0,.exit 0,⟨[5],[],[⟨1500100,113,ty8,[.slot 5],false⟩],[]⟩)]
 ro:=[true]
theorem jmB:Con.OK Tryz.prog jaK:=
 cOf j07 j02 jnv jaK Tryz.func157 (j9 j8J trivial) (j9 (fun h=>by kernel_rfl) trivial)
def j9F:Con:=⟨106,[.v ty72,.v ty24],[ty72,ty24],⟨[.own 60 ty24],[]⟩,[ty24],fun h=>Pw.j8r h.1 h.2⟩
def jmC:FnD where
 N:=68
 np:=2
 cs:=[j5X,jaK]
 ds:=[⟨0,[.s (.one (.bp 128 0)),.s (.one (.ol 1000000)),.s (.one (.ol 1000001)),.s (.one (.d ty24)),sI,sI,.b (.cell [.d .str,.d ty68,.d ty39] false),.b (.lst 4294967494 ty25 false),.b (.lst 60 ty20 false)],[ty24,iT,iT,.str,ty68,ty39,ty29,ty24],[⟨.exit 0,[.s (.one (.ol 1500100)),.b (.lst 60 ty20 false)],[ty24]⟩],fun h=>Pw.j3f h.1 h.2.1 h.2.2.1 h.2.2.2.1 h.2.2.2.2.1 h.2.2.2.2.2.1 h.2.2.2.2.2.2.1 h.2.2.2.2.2.2.2⟩,
  ⟨2,[.s (.one (.bp 128 0)),.s (.one (.ol 1002000)),.s (.one (.ol 1002001)),.s (.one (.bp 512 0)),.s (.one (.d ty24)),sI,sI,.s (.one (.ol 1002002)),sI,sI,.b (.cell [.d .str,.d ty68,.d ty39] false),.b (.cell [.d iT,.d iT,.d iT] false),.b (.lst 4294967494 ty25 false),.b (.lst 60 ty20 false),.b (.lst 113 ty8 false)],[ty24,iT,iT,iT,iT,.str,ty68,ty39,iT,iT,iT,ty29,ty24,ty12],[⟨.exit 2,[.s (.one (.bp 128 0)),.s (.one (.ol 1502300)),.s (.one (.ol 1502301)),.s (.one (.d ty24)),sI,sI,.b (.cell [.d .str,.d ty68,.d ty39] false),.b (.lst 4294967494 ty25 false),.b (.lst 60 ty20 false)],[ty24,iT,iT,.str,ty68,ty39,ty29,ty24]⟩],fun h=>Pw.ja2 h.1 h.2.1 h.2.2.1 h.2.2.2.1 h.2.2.2.2.1 h.2.2.2.2.2.1 h.2.2.2.2.2.2.1 h.2.2.2.2.2.2.2.1 h.2.2.2.2.2.2.2.2.1 h.2.2.2.2.2.2.2.2.2.1 h.2.2.2.2.2.2.2.2.2.2.1 h.2.2.2.2.2.2.2.2.2.2.2.1 h.2.2.2.2.2.2.2.2.2.2.2.2.1 h.2.2.2.2.2.2.2.2.2.2.2.2.2⟩]
 modes:=[(108,[false,false]),(157,[false,false])]
 keep:=[(0,⟨[2,5,6,14,15,16],[128],[⟨1000000,4294967494,ty25,[.slot 5],false⟩,⟨1000001,60,ty20,[.slot 6],false⟩],[]⟩),
  (2,⟨[2,5,6,8,14,15,16,49,50,51],[128,512],[⟨1002000,4294967494,ty25,[.slot 5],false⟩,⟨1002001,60,ty20,[.slot 6],false⟩,⟨1002002,113,ty8,[.slot 49],false⟩],[]⟩)]
 keepX:=[(0,.exit 0,⟨[6],[],[⟨1500100,60,ty20,[.slot 6],false⟩],[]⟩),
  (2,.exit 2,⟨[2,5,6,14,15,16],[128],[⟨1502300,4294967494,ty25,[.slot 5],false⟩,⟨1502301,60,ty20,[.slot 6],false⟩],[]⟩)]
 ro:=[true]
 dw:=[(9,[[],[],[],[],[],[],[2432],[2432,1000000]])]
theorem jl8:Con.OK Tryz.prog j9F:=
 cOf j07 j02 jmC j9F Tryz.func106 (j9 jcp (j9 jmB trivial)) (j9 (fun h=>by kernel_rfl) (j9 (fun h=>by kernel_rfl) trivial))
def jaL:Con:=⟨105,[.v ty24,.v ty12],[ty24,ty12],⟨[.own 60 ty24],[]⟩,[ty24],fun h=>Pw.ja3 h.1 h.2⟩
def jnw:FnD where
 N:=72
 np:=2
 cs:=[]
 ds:=[⟨0,[.s (.one (.d ty24)),.s (.one (.d ty12)),.s (.one (.ol 1000000)),sI,sI,.b (.lst 60 ty20 false)],[ty24,ty12,iT,iT,ty24],[⟨.exit 0,[.s (.one (.ol 1500100)),.b (.lst 60 ty20 false)],[ty24]⟩],fun h=>Pw.jb4 h.1 h.2.1 h.2.2.1 h.2.2.2.1 h.2.2.2.2⟩]
 keep:=[(0,⟨[0,1,5,6,7],[],[⟨1000000,60,ty20,[.slot 5],false⟩],[]⟩)]
 keepX:=[(0,.exit 0,⟨[5],[],[⟨1500100,60,ty20,[.slot 5],false⟩],[]⟩)]
 ro:=[true]
 dw:=[(4,[[],[],[],[],[],[],[],[],[],[],[],[],[],[],[],[],[],[],[],[],[],[],[],[],[],[],[],[],[512],[512]])]
theorem jmD:Con.OK Tryz.prog jaL:=
 cOf j07 j02 jnw jaL Tryz.func105 trivial (j9 (fun h=>by kernel_rfl) trivial)
def jcs:Con:=⟨109,[.v ty24],[ty24],⟨[.own 113 ty12],[]⟩,[ty12],fun h=>Pw.jbU h⟩
def jpj:FnD where
 N:=23
 np:=1
 cs:=[j4U]
 ds:=[⟨0,[.s (.one (.ol 1000000)),.s (.one (.d ty24)),sI,sI,.b (.lst 113 ty8 false)],[ty24,iT,iT,ty12],[⟨.exit 0,[.s (.one (.ol 1500100)),.b (.lst 113 ty8 false)],[ty12]⟩],fun h=>Pw.jbT h.1 h.2.1 h.2.2.1 h.2.2.2⟩]
 modes:=[(160,[false])]
 keep:=[(0,⟨[3,6,7,8],[],[⟨1000000,113,ty8,[.slot 3],false⟩],[]⟩)]
 keepX:=[(0,.exit 0,⟨[3],[],[⟨1500100,113,ty8,[.slot 3],false⟩],[]⟩)]
 ro:=[true]
theorem jnx:Con.OK Tryz.prog jcs:=
 cOf j07 j02 jpj jcs Tryz.func109 (j9 j8J trivial) (j9 (fun h=>by kernel_rfl) trivial)
def j5D:Con:=⟨111,[.v ty20,.v ty20],[ty20,ty20],⟨[.v iT],[]⟩,[iT],fun h=>Pw.j5t h.1 h.2⟩
def jgu:FnD where
 N:=10
 np:=2
 cs:=[]
 ds:=[]
 ro:=[false]
theorem jpI:Con.OK Tryz.prog j5D:=
 cOf j07 j02 jgu j5D Tryz.func111 trivial trivial
def j0Y:Con:=⟨110,[.rl 60 ty24,.clo 111 []],[ty24],⟨[],[.rl ty24]⟩,[ty24],fun h=>Pw.j19 h⟩
def j8j:FnD where
 N:=14
 np:=2
 cs:=[j5D]
 ds:=[]
 modes:=[(111,[false,false])]
theorem j2D:Con.OK Tryz.prog j0Y:=
 jts Tryz.sort110 (ty20) rfl 60 (by kernel_rfl) Tryz.isAgg60 Tryz.sizeOf60 _ 111 (enters_of Tryz.func111 (by kernel_rfl) rfl) js6 js7 110 rfl
def j7k:Con:=⟨61,[.v ty81,.v ty72,.v iT,.v iT],[ty81,ty72,iT,iT],⟨[.own 60 ty24],[]⟩,[ty24],fun h=>Pw.j5I h.1 h.2.1 h.2.2.1 h.2.2.2⟩
def jjy:FnD where
 N:=63
 np:=4
 cs:=[j17,j5X,j7E,j67,j9F,jaL,jcs,j0Y]
 ds:=[⟨0,[sI,.s (.one (.bp 256 0)),.s (.one (.bp 320 0)),.s (.one (.bp 384 0)),.s (.one (.bp 448 0)),.s (.one (.bp 576 0)),.s (.one (.bp 640 0)),.s (.one (.clo 155 [.p [ty68]])),.b (.cell [.d ty61,.d ty51,.d ty26,.d ty73,.d ty29] false),.b (.cell [.d .str,.d ty68,.d ty39] false),.b (.cell [.d iT] false),.b (.cell [.d iT] false),.b (.cell [.ol 1000000] false),.b (.cell [.ol 1000001] false),.b (.lst 113 ty8 false),.b (.lst 60 ty20 false)],[iT,ty68,ty61,ty51,ty26,ty73,ty29,.str,ty68,ty39,iT,iT,ty12,ty24],[⟨.normal,[.s (.one (.bp 576 0)),.s (.one (.bp 640 0)),.b (.cell [.ol 1500050] false),.b (.cell [.ol 1500051] false),.b (.lst 113 ty8 false),.b (.lst 60 ty20 false)],[ty12,ty24]⟩],fun h=>Pw.j2v h.1 h.2.1 h.2.2.1 h.2.2.2.1 h.2.2.2.2.1 h.2.2.2.2.2.1 h.2.2.2.2.2.2.1 h.2.2.2.2.2.2.2.1 h.2.2.2.2.2.2.2.2.1 h.2.2.2.2.2.2.2.2.2.1 h.2.2.2.2.2.2.2.2.2.2.1 h.2.2.2.2.2.2.2.2.2.2.2.1 h.2.2.2.2.2.2.2.2.2.2.2.2.1 h.2.2.2.2.2.2.2.2.2.2.2.2.2⟩,
  ⟨2,[.s (.one (.bp 640 0)),.s (.one (.ol 1002000)),sI,sI,.b (.cell [.ol 1002001] false),.b (.lst 113 ty8 false),.b (.lst 60 ty20 false)],[iT,iT,ty12,ty24],[⟨.exit 2,[.s (.one (.bp 640 0)),.b (.cell [.ol 1502300] false),.b (.lst 60 ty20 false)],[ty24]⟩],fun h=>Pw.j8c h.1 h.2.1 h.2.2.1 h.2.2.2⟩]
 modes:=[(102,[false]),(105,[false,false]),(106,[false,false]),(107,[false,false,false,false]),(108,[false,false]),(109,[false]),(110,[true,false]),(112,[false])]
 keep:=[(0,⟨[4,5,6,7,9,10,25],[256,320,384,448,576,640],[⟨1000000,113,ty8,[.cell 576 0],false⟩,⟨1000001,60,ty20,[.cell 640 0],false⟩],[]⟩),
  (2,⟨[10,44,45,46],[640],[⟨1002000,113,ty8,[.slot 44],false⟩,⟨1002001,60,ty20,[.cell 640 0],false⟩],[]⟩)]
 keepX:=[(0,.normal,⟨[9,10],[576,640],[⟨1500050,113,ty8,[.cell 576 0],false⟩,⟨1500051,60,ty20,[.cell 640 0],false⟩],[]⟩),
  (2,.exit 2,⟨[10],[640],[⟨1502300,60,ty20,[.cell 640 0],false⟩],[]⟩)]
 ro:=[true]
 dw:=[(7,[[],[],[],[],[],[2112],[2176],[],[2304],[]]),(9,[[],[],[2688],[2752],[576]])]
 bw:=[(155,ty67)]
theorem jtu:BwOK Tryz.prog 155 (ty67):=
 jzK j07 Tryz.func155 (fn:=Tryz.f155) (A0:=bwA Tryz.f155 0) (A1:=bwA Tryz.f155 1) (A2:=bwA Tryz.f155 2) (A3:=bwA Tryz.f155 3) (by kernel_rfl) (by kernel_rfl) (by kernel_rfl) (by kernel_rfl) (by kernel_rfl) (by kernel_rfl) (by kernel_rfl) (by kernel_rfl) (by kernel_rfl) (by kernel_rfl) (by kernel_rfl) ⟨(by kernel_rfl),(by kernel_rfl)⟩
  (fun xs=>by kernel_rfl) (fun i=>by kernel_rfl) (fun i=>by kernel_rfl) (fun xs i=>by kernel_rfl) (fun b i=>by kernel_rfl)
theorem jib:Con.OK Tryz.prog j7k:=
 cOf j07 j02 jjy j7k Tryz.func61 (j9 j3r (j9 jcp (j9 jeR (j9 jgt (j9 jl8 (j9 jmD (j9 jnx (j9 j2D trivial)))))))) (j9 (fun h=>by kernel_rfl) (j9 (fun h=>by kernel_rfl) trivial)) (j9 jtu trivial)
def j7l:Con:=⟨217,[.v iT],[iT],⟨[.v .bool],[]⟩,[.bool],fun h=>Pw.j7M h⟩
def jjz:FnD where
 N:=6
 np:=1
 cs:=[]
 ds:=[]
 ro:=[false]
theorem jic:Con.OK Tryz.prog j7l:=
 cOf j07 j02 jjz j7l Tryz.func217 trivial trivial
def j1Y:Con:=⟨168,[.v (.list iT),.v iT],[(.list iT),iT],⟨[.v iT,.v .bool],[]⟩,[iT,.bool],fun h=>Pw.j0t h.1 h.2⟩
def jaM:FnD where
 N:=54
 np:=2
 cs:=[j7Q,j7l]
 ds:=[⟨0,[.s (.one (.d (.list iT))),sI,sI,sI,sI],[(.list iT),iT,iT,iT,iT],[⟨.exit 0,[.s (.one (.d (.list iT))),sI,sI,sI],[(.list iT),iT,iT,iT]⟩],fun h=>Pw.j1u h.1 h.2.1 h.2.2.1 h.2.2.2.1 h.2.2.2.2⟩]
 modes:=[(216,[false,false]),(217,[false])]
 keep:=[(0,⟨[0,1,6,7,8],[],[],[]⟩)]
 keepX:=[(0,.exit 0,⟨[0,1,6,7],[],[],[]⟩)]
 ro:=[false,false]
theorem j5n:Con.OK Tryz.prog j1Y:=
 cOf j07 j02 jaM j1Y Tryz.func168 (j9 jgr (j9 jic trivial)) (j9 (fun h=>by kernel_rfl) trivial)
def jct:Con:=⟨218,[.v ty37,.v iT],[ty37,iT],⟨[.v .bool],[]⟩,[.bool],fun h=>Pw.jmi h.1 h.2⟩
def jpk:FnD where
 N:=15
 np:=2
 cs:=[]
 ds:=[]
 ro:=[false]
theorem jny:Con.OK Tryz.prog jct:=
 cOf j07 j02 jpk jct Tryz.func218 trivial trivial
end Go.Proofs.Pk
