/- Contracts: each given function is its plain function, printed by a program. -/
import Derived.Test.YtlnljpfkgigljaaGreatPOCon5
open Bool renaming false->e,true->m
open Nat renaming le_of_ble_eq_true->i
open And renaming intro->j
open _root_ renaming trivial->l
noncomputable section
open Go Go.Lft
set_option linter.unusedVariables false
set_option maxRecDepth 100000
namespace Go.Proofs.Pk
open Tryz
def j8K:CKt:=
 cQ tb {} [lD 0 [sI,sO 1,sD ty24,sI,sI,.b (.lst 99 ty6 e)] ⟨[1,5,8,9,10],[],[⟨1,99,ty6,[.slot 5],e⟩]⟩ [xD (.exit 0) [sO 2,.b (.lst 99 ty6 e)] ⟨[5],[],[⟨2,99,ty6,[.slot 5],e⟩]⟩] (Pw.unc5 (Pw.j3e))] 54 [.v ty24,.v iT] [.own 99 ty11] [] (Pw.unc2 Pw.j3x) func54 [j9a]
def jiF:CKt:=
 cQ tb {} [lD 0 [sI,sD ty11,sI,sI] ⟨[3,6,7,8],[],[]⟩ [xD (.exit 0) [sI] ⟨[3],[],[]⟩] (Pw.unc4 (Pw.j4K))] 52 [.v ty11] [.v iT] [] (λh=>Pw.jeH h) func52
theorem jz6:BwK Tryz.prog 114 (m,(.arr 115 (.arr 3 .bool))):=
 jwn Tryz.keys115 Tryz.sorted114 Tryz.sort174 (by kernel_rfl) (by kernel_rfl) (by kernel_rfl) (by kernel_rfl)
def jiG:CKt:=
 cQ tb {bw:=[(114,m,(.arr 115 (.arr 3 .bool)))],ks:=[2]} [lD 0 [sO 0,sO 1,sO 2,sI,sI,.b (.lst 4294967421 ty33 e),.b (.lst 83 ty19 e),.b (.lst 3 iT e)] ⟨[0,3,8,9,10],[0],[⟨1,83,ty19,[.slot 3],e⟩,⟨2,3,iT,[.slot 8],e⟩]⟩ [xD (.exit 0) [sO 3,.b (.lst 4294967421 ty33 e),.b (.lst 83 ty19 e)] ⟨[3],[0],[⟨3,83,ty19,[.slot 3],e⟩]⟩] (Pw.unc5 (Pw.j4L))] 55 [.rl 4294967421 ty37] [.own 83 ty24] [.rl ty37] (λh=>Pw.jcn h) func55 (hbw:=(j jz6 l))
def jpY:FnD where
 N:=132
 np:=6
 cs:=[jlH.1,jaF.1,jbU.1,jav.1,jjY.1,j8K.1,jiF.1,jiG.1]
 ds:=[⟨1,[sI,sI,sD ty25,sO 1001000,sB 1024 0,sO 1001001,sO 1001000,sI,sI,.b (.cell [.d iT,.d ty11] e),.b (.lst 92 ty19 e),.b (.lst 4294967421 ty33 e)],[iT,iT,ty25,iT,iT,iT,ty11,ty24,ty37],[⟨.exit 1,[sI,sI,sD ty25,sO 1501200,sB 1024 0,sO 1501201,.b (.cell [.d iT,.d ty11] e),.b (.lst 92 ty19 e),.b (.lst 4294967421 ty33 e)],[iT,iT,ty25,iT,ty11,ty24,ty37]⟩],Pw.unc9 (Pw.j56)⟩,⟨3,[sI,sI,sO 1003000,sB 1024 0,sO 1003001,sD ty25,sI,sI,.b (.cell [.d iT,.d ty11] e),.b (.lst 92 ty19 e),.b (.lst 4294967421 ty33 e)],[iT,iT,ty25,iT,iT,iT,ty11,ty24,ty37],[⟨.exit 3,[sO 1503400,.b (.lst 4294967421 ty33 e)],[ty37]⟩],Pw.unc9 (Pw.j57)⟩,⟨5,[],[],[],λ_=>none⟩]
 modes:=[(55,[m])]
 keep:=[(1,⟨[2,3,5,14,16,18,63,64,65],[1024],[⟨1001000,92,ty19,[.slot 14,.slot 63],e⟩,⟨1001001,4294967421,ty33,[.slot 18],e⟩]⟩),(3,⟨[2,3,14,16,18,92,93,94],[1024],[⟨1003000,92,ty19,[.slot 14],e⟩,⟨1003001,4294967421,ty33,[.slot 18],e⟩]⟩),(5,⟨[2,3,14,16,18,23,24,92,93,94],[1024,1472],[⟨1005000,92,ty19,[.slot 14],e⟩,⟨1005002,99,ty6,[.slot 24],e⟩,⟨1005001,4294967421,ty33,[.slot 18],e⟩]⟩)]
 keepX:=[(1,.exit 1,⟨[2,3,5,14,16,18],[1024],[⟨1501200,92,ty19,[.slot 14],e⟩,⟨1501201,4294967421,ty33,[.slot 18],e⟩]⟩),(3,.exit 3,⟨[18],[],[⟨1503400,4294967421,ty33,[.slot 18],e⟩]⟩)]
 ro:=[m,e]
 dw:=[(24,[[],[],[],[],[],[],[],[7616],[],[7744],[],[],[],[],[1664]])]
 ms:=[⟨5,18,1005001,[sI,sI,sO 1005000,sB 1024 0,sO 1005001,sB 1472 0,sO 1005002,sD ty25,sI,sI,.b (.cell [.d iT,.d ty11] e),.b (.cell [.d iT,.d iT,.d iT] e),.b (.lst 92 ty19 e),.b (.lst 99 ty6 e),.b (.lst 4294967421 ty33 e)],[iT,iT,ty25,iT,iT,iT,ty11,iT,iT,iT,ty24,ty11,ty37],4294967421,ty19,λh q z R k=>Pw.jbI h.1 h.2.1 h.2.2.1 h.2.2.2.1 h.2.2.2.2.1 h.2.2.2.2.2.1 h.2.2.2.2.2.2.1 h.2.2.2.2.2.2.2.1 h.2.2.2.2.2.2.2.2.1 h.2.2.2.2.2.2.2.2.2.1 h.2.2.2.2.2.2.2.2.2.2.1 h.2.2.2.2.2.2.2.2.2.2.2.1 h.2.2.2.2.2.2.2.2.2.2.2.2 q z k⟩]
def jjZ:Con:=⟨27,[.v ty82,.v iT,.v iT,.v iT,.v iT,.v ty25],[ty82,iT,iT,iT,iT,ty25],⟨[.own 83 ty24,.v iT],[]⟩,[ty24,iT],Pw.unc6 Pw.je8⟩
def jpZ:CKt:=
 ⟨jjZ,cOf jhx j9S jpY jjZ func27 (j jlH.2 (j jaF.2 (j jbU.2 (j jav.2 (j jjY.2 (j j8K.2 (j jiF.2 (j jiG.2 l)))))))) (j (λh=>by kernel_rfl) (j (λh=>by kernel_rfl) (j (λh=>by kernel_rfl) l))) (hms:=(j ⟨by kernel_rfl,λh zs=>by kernel_rfl,λh zs=>by kernel_rfl,λh zs q z R k=>by kernel_rfl⟩ l))⟩
def j9Z:FnD where
 N:=8
 np:=1
 ro:=[m]
def ja0:CKt:=
 ⟨⟨83,[.v ty64],[ty64],⟨[.own 98 ty64],[]⟩,[ty64],λh=>Pw.j2b h⟩,j8f jhx j9S j9Z 83 ty63 98 Tryz.f83 (Tryz.f83.body.getD .skip) func83 (by kernel_rfl) (by kernel_rfl) (i (by kernel_rfl)) (by kernel_rfl) l (by kernel_rfl)
   (λh R k=>by kernel_rfl)⟩
def j8m:FnD where
 N:=8
 np:=1
 ro:=[m]
def j8n:CKt:=
 ⟨⟨84,[.v ty54],[ty54],⟨[.own 112 ty54],[]⟩,[ty54],λh=>Pw.j1E h⟩,j8f jhx j9S j8m 84 ty51 112 Tryz.f84 (Tryz.f84.body.getD .skip) func84 (by kernel_rfl) (by kernel_rfl) (i (by kernel_rfl)) (by kernel_rfl) l (by kernel_rfl)
   (λh R k=>by kernel_rfl)⟩
def j7f:FnD where
 N:=8
 np:=1
 ro:=[m]
def j7g:CKt:=
 ⟨⟨85,[.v ty27],[ty27],⟨[.own 117 ty27],[]⟩,[ty27],λh=>Pw.j1c h⟩,j8f jhx j9S j7f 85 ty22 117 Tryz.f85 (Tryz.f85.body.getD .skip) func85 (by kernel_rfl) (by kernel_rfl) (i (by kernel_rfl)) (by kernel_rfl) l (by kernel_rfl)
   (λh R k=>by kernel_rfl)⟩
def j7h:FnD where
 N:=8
 np:=1
 ro:=[m]
def j7i:CKt:=
 ⟨⟨86,[.v ty76],[ty76],⟨[.own 60 ty76],[]⟩,[ty76],λh=>Pw.j1d h⟩,j8f jhx j9S j7h 86 ty75 60 Tryz.f86 (Tryz.f86.body.getD .skip) func86 (by kernel_rfl) (by kernel_rfl) (i (by kernel_rfl)) (by kernel_rfl) l (by kernel_rfl)
   (λh R k=>by kernel_rfl)⟩
def j7j:FnD where
 N:=8
 np:=1
 ro:=[m]
def j7k:CKt:=
 ⟨⟨87,[.v ty56],[ty56],⟨[.own 174 ty56],[]⟩,[ty56],λh=>Pw.j1e h⟩,j8f jhx j9S j7j 87 ty53 174 Tryz.f87 (Tryz.f87.body.getD .skip) func87 (by kernel_rfl) (by kernel_rfl) (i (by kernel_rfl)) (by kernel_rfl) l (by kernel_rfl)
   (λh R k=>by kernel_rfl)⟩
def j8o:FnD where
 N:=8
 np:=1
 ro:=[m]
def j8p:CKt:=
 ⟨⟨88,[.v ty11],[ty11],⟨[.own 73 ty11],[]⟩,[ty11],λh=>Pw.j14 h⟩,j8f jhx j9S j8o 88 ty6 73 Tryz.f88 (Tryz.f88.body.getD .skip) func88 (by kernel_rfl) (by kernel_rfl) (i (by kernel_rfl)) (by kernel_rfl) l (by kernel_rfl)
   (λh R k=>by kernel_rfl)⟩
def j9c:FnD where
 N:=8
 np:=1
 ro:=[m]
def j9d:CKt:=
 ⟨⟨90,[.v ty71],[ty71],⟨[.own 65 ty71],[]⟩,[ty71],λh=>Pw.j1g h⟩,j8f jhx j9S j9c 90 ty70 65 Tryz.f90 (Tryz.f90.body.getD .skip) func90 (by kernel_rfl) (by kernel_rfl) (i (by kernel_rfl)) (by kernel_rfl) l (by kernel_rfl)
   (λh R k=>by kernel_rfl)⟩
def ja1:FnD where
 N:=8
 np:=1
 ro:=[m]
def ja2:CKt:=
 ⟨⟨91,[.v ty42],[ty42],⟨[.own 69 ty42],[]⟩,[ty42],λh=>Pw.j1w h⟩,j8f jhx j9S ja1 91 ty40 69 Tryz.f91 (Tryz.f91.body.getD .skip) func91 (by kernel_rfl) (by kernel_rfl) (i (by kernel_rfl)) (by kernel_rfl) l (by kernel_rfl)
   (λh R k=>by kernel_rfl)⟩
def jlP:CKt:=
 cQ tb {dw:=[(1,dz [(2,[704]),(2,[896]),(2,[1088]),(2,[1280]),(1,[64]),(1,[64]),(1,[64]),(1,[64])]),(5,dz [(9,[2560]),(2,[2560,1])]),(10,dz [(9,[3776]),(2,[3776,2])]),(15,dz [(9,[4992]),(2,[4992,3])]),(21,dz [(6,[6272,6288,1508903]),(4,[6592,6608]),(2,[1281]),(2,[1281])]),(25,dz [(18,[8576]),(8,[9152]),(2,[8576,4]),(2,[9152,4])])],un:=[6],unr:=2,pre:=[(17,[.ex 64 3 1281 1])],rw:=m,rn:=[1508900,1508901,1508902,1281,1508903,1508904]} [lD 0 [sB 64 0,sB 128 0,sI,sI,.b (.cell [.ol 1,.ol 5,.ol 6,.ol 7] e),.b (.cell [.nil,.nil,.nil,.nil] e),.b (.lst 98 ty63 e),.b (.lst 112 ty51 e),.b (.lst 117 ty22 e),.b (.lst 60 ty75 e)] ⟨[1,2,27,28],[64,128],[⟨1,98,ty63,[.cell 64 0],e⟩,⟨5,112,ty51,[.cell 64 1],e⟩,⟨6,117,ty22,[.cell 64 2],e⟩,⟨7,60,ty75,[.cell 64 3],e⟩]⟩ [xD (.exit 0) [sB 64 0,sB 128 0,.b (.cell [.ol 8,.ol 9,.ol 10,.ol 11] e),.b (.cell [.nil,.nil,.nil,.nil] e),.b (.lst 98 ty63 e),.b (.lst 112 ty51 e),.b (.lst 117 ty22 e),.b (.lst 60 ty75 e)] ⟨[1,2],[64,128],[⟨8,98,ty63,[.cell 64 0],e⟩,⟨9,112,ty51,[.cell 64 1],e⟩,⟨10,117,ty22,[.cell 64 2],e⟩,⟨11,60,ty75,[.cell 64 3],e⟩]⟩] (Pw.unc6 (Pw.j5Q)),lD 2 [sB 64 0,sB 128 0,sI,sI,.b (.cell [.ol 12,.ol 2,.ol 13,.ol 14] e),.b (.cell [.nil,.nil,.nil,.nil] e),.b (.lst 98 ty63 e),.b (.lst 112 ty51 e),.b (.lst 117 ty22 e),.b (.lst 60 ty75 e)] ⟨[1,2,46,47],[64,128],[⟨12,98,ty63,[.cell 64 0],e⟩,⟨2,112,ty51,[.cell 64 1],e⟩,⟨13,117,ty22,[.cell 64 2],e⟩,⟨14,60,ty75,[.cell 64 3],e⟩]⟩ [xD (.exit 2) [sB 64 0,sB 128 0,.b (.cell [.ol 15,.ol 65,.ol 66,.ol 67] e),.b (.cell [.nil,.nil,.nil,.nil] e),.b (.lst 98 ty63 e),.b (.lst 112 ty51 e),.b (.lst 117 ty22 e),.b (.lst 60 ty75 e)] ⟨[1,2],[64,128],[⟨15,98,ty63,[.cell 64 0],e⟩,⟨65,112,ty51,[.cell 64 1],e⟩,⟨66,117,ty22,[.cell 64 2],e⟩,⟨67,60,ty75,[.cell 64 3],e⟩]⟩] (Pw.unc6 (Pw.j5R)),lD 4 [sB 64 0,sB 128 0,sI,sI,.b (.cell [.ol 68,.ol 69,.ol 3,.ol 70] e),.b (.cell [.nil,.nil,.nil,.nil] e),.b (.lst 98 ty63 e),.b (.lst 112 ty51 e),.b (.lst 117 ty22 e),.b (.lst 60 ty75 e)] ⟨[1,2,65,66],[64,128],[⟨68,98,ty63,[.cell 64 0],e⟩,⟨69,112,ty51,[.cell 64 1],e⟩,⟨3,117,ty22,[.cell 64 2],e⟩,⟨70,60,ty75,[.cell 64 3],e⟩]⟩ [xD (.exit 4) [sB 64 0,sB 128 0,.b (.cell [.ol 71,.ol 72,.ol 73,.ol 74] e),.b (.cell [.nil,.nil,.nil,.nil] e),.b (.lst 98 ty63 e),.b (.lst 112 ty51 e),.b (.lst 117 ty22 e),.b (.lst 60 ty75 e)] ⟨[1,2],[64,128],[⟨71,98,ty63,[.cell 64 0],e⟩,⟨72,112,ty51,[.cell 64 1],e⟩,⟨73,117,ty22,[.cell 64 2],e⟩,⟨74,60,ty75,[.cell 64 3],e⟩]⟩] (Pw.unc6 (Pw.j5S)),lD 6 [] ⟨[],[],[]⟩ [] (λ_=>none),lD 8 [sB 64 0,sB 128 0,.s (.one (.ep 1281 0 0)),sI,sI,sI,sI,.b (.cell [.ol 75,.ol 76,.ol 77,.ol 1281] e),.b (.cell [.nil,.nil,.nil,.nil] e),.b (.row 60 ty75 1 [.d .str,.ol 4,.ol 78]),.b (.lst 98 ty63 e),.b (.lst 112 ty51 e),.b (.lst 117 ty22 e),.b (.lst 65 ty70 e),.b (.lst 69 ty40 e)] ⟨[1,2,7,84,85,112,113],[64,128,1281],[⟨75,98,ty63,[.cell 64 0],e⟩,⟨76,112,ty51,[.cell 64 1],e⟩,⟨77,117,ty22,[.cell 64 2],e⟩,⟨4,65,ty70,[.cell 1281 1],e⟩,⟨78,69,ty40,[.cell 1281 2],e⟩]⟩ [xD (.exit 8) [sB 64 0,sB 128 0,sI,sI,.b (.cell [.ol 1508900,.ol 1508901,.ol 1508902,.ol 1281] e),.b (.cell [.nil,.nil,.nil,.nil] e),.b (.row 60 ty75 1 [.d .str,.ol 1508903,.ol 1508904]),.b (.lst 98 ty63 e),.b (.lst 112 ty51 e),.b (.lst 117 ty22 e),.b (.lst 65 ty70 e),.b (.lst 69 ty40 e)] ⟨[1,2,84,85],[64,128,1281],[⟨1508900,98,ty63,[.cell 64 0],e⟩,⟨1508901,112,ty51,[.cell 64 1],e⟩,⟨1508902,117,ty22,[.cell 64 2],e⟩,⟨1508903,65,ty70,[.cell 1281 1],e⟩,⟨1508904,69,ty40,[.cell 1281 2],e⟩]⟩] (Pw.u8 Pw.unc2 (Pw.j5T))] 44 [.v ty82] [.raw [1508900,1508901,1508902,1281,1508903,1508904] [.s (.st [.ol 1508900,.ol 1508901,.ol 1508902,.ol 1281]),.b (.lst 98 ty63 e),.b (.lst 112 ty51 e),.b (.lst 117 ty22 e),.b (.row 60 ty75 1 [.d .str,.ol 1508903,.ol 1508904]),.b (.lst 65 ty70 e),.b (.lst 69 ty40 e)]] [] (λh=>Pw.jfM h) func44 [jah,ja0,j8n,j7g,j7i,j7k,j8p,j9d,ja2]
def jrj:CKt:=
 cQ tb {rw:=m,rn:=[1508900,1508901,1508902,1281,1508903,1508904]} [] 133 [.v ty82,.v iT] [.raw [1508900,1508901,1508902,1281,1508903,1508904] [.s (.st [.ol 1508900,.ol 1508901,.ol 1508902,.ol 1281]),sI,.b (.lst 98 ty63 e),.b (.lst 112 ty51 e),.b (.lst 117 ty22 e),.b (.row 60 ty75 1 [.d .str,.ol 1508903,.ol 1508904]),.b (.lst 65 ty70 e),.b (.lst 69 ty40 e)]] [] (Pw.unc2 Pw.jib) func133 [j9T,jeX,jlP]
def jq0:CKt:=
 cQ tb {dw:=[(5,dz [(6,[1984]),(0,[2048,1508904]),(2,[1281])])],pre:=[(6,[.rl 1281])]} [] 65 [.v ty82,.v iT,.v ty40] [.v ty82,.v iT] [] (Pw.unc3 Pw.je9) func65 [j9T,jrj]
def jgf:CKt:=
 cQ tb {} [] 36 [.v ty82,.v iT,.v iT,.v iT,.v iT] [.v ty82,.v iT] [] (Pw.unc5 Pw.j7V) func36 [jq0]
def jjq:CKt:=
 cQ tb {} [] 67 [.v ty40,.ip [iT],.ip [iT],.ip [iT]] [.v .bool] [] (Pw.unc4 Pw.jco) func67
def j8q:CKt:=
 cQ tb {} [lD 0 [sD ty42,sC 67 [.p [iT],.p [iT],.p [iT]],sI,sI] ⟨[0,1,7,8],[],[]⟩ [xD .ret [sI] ⟨[4],[],[]⟩,xD (.exit 0) [] ⟨[],[],[]⟩] (Pw.unc6 (Pw.j0D))] 134 [.v ty42,.clo 67 [.p [iT],.p [iT],.p [iT]]] [.v iT] [] (Pw.unc4 Pw.j2F) func134 [jjq]
def j7K:CKt:=
 cQ tb {} [] 66 [.v ty42,.clo 67 [.p [iT],.p [iT],.p [iT]]] [.v .bool] [] (Pw.unc4 Pw.j25) func66 [j8q]
def jmy:CKt:=
 cQ tb {} [] 37 [.v ty75,.v iT,.v iT,.v iT] [.v .bool] [] (Pw.unc4 Pw.jaR) func37 [j7K]
end Go.Proofs.Pk
