/- cJ: each given function is its plain function, printed by a program. -/
import Derived.Test.YtllkgjaoejhneaaGreatSECon3
open Bool renaming false->e,true->k
open _root_ renaming trivial->j
noncomputable section
open Go Go.Lft
set_option linter.unusedVariables false
set_option maxRecDepth 100000
namespace Go.Proofs.Pk
def B0:Con:=⟨219,[.v ag],[ag],⟨[.own 131 ag],[]⟩,[ag],λh=>Pw.j9q h⟩
def jq8:FnD where
 N:=54
 np:=1
 cs:=[WW,Ou,WY]
 ds:=[⟨0,[sO 1000000,sO 1000001,sI,sI,.b (.lst 131 aT e),.b (.lst 131 aT e)],[iT,iT,ag,ag],[⟨.exit 0,[sO 1500100,.b (.lst 131 aT e)],[ag]⟩],Pw.unc4 (Pw.j3z)⟩]
 modes:=[(246,[k,e]),(249,[k,e])]
 keep:=[(0,⟨[4,13,14,15],[],[⟨1000000,131,aT,[.slot 4],e⟩,⟨1000001,131,aT,[.slot 13],e⟩],[]⟩)]
 keepX:=[(0,.exit 0,⟨[4],[],[⟨1500100,131,aT,[.slot 4],e⟩],[]⟩)]
 ro:=[k]
 dw:=[(9,[[],[],[],[],[],[],[],[],[],[],[],[],[],[],[1000000]])]
theorem IG:aN B0:=
 cOf aP aQ jq8 B0 Tryz.func219 (jg j8W (jg j74 (jg j44 j))) (jg (λh=>by kernel_rfl) j)
def Ow:Con:=⟨149,[.v cZ,.v ag,.v iT,.v iT],[cZ,ag,iT,iT],⟨[.own 131 ag],[]⟩,[ag],Pw.unc4 Pw.j5u⟩
def jmk:FnD where
 N:=73
 np:=4
 cs:=[E3,B0]
 ds:=[⟨0,[sD ag,sO 1000000,sO 1000001,sI,sI,.b (.lst 131 aT e),.b (.lst 247 aZ e)],[ag,iT,iT,ag,aY],[⟨.exit 0,[sO 1500100,.b (.lst 131 aT e)],[ag]⟩],Pw.unc5 (Pw.j3Q)⟩,⟨2,[sD ag,sO 1002000,sB 704 0,sI,sO 1002001,sI,sI,.b (.cell [.d iT,.d iT,.d iT] e),.b (.lst 131 aT e),.b (.lst 247 aZ e)],[ag,iT,iT,iT,iT,iT,iT,ag,aY],[⟨.exit 2,[sD ag,sO 1502300,sO 1502301,sI,sI,.b (.lst 131 aT e),.b (.lst 247 aZ e)],[ag,iT,iT,ag,aY]⟩],Pw.unc9 (Pw.j3P)⟩,⟨4,[sD ag,sO 1004000,sB 704 0,sI,sO 1004001,sI,sI,sD ag,sI,sI,.b (.cell [.d iT,.d iT,.d iT] e),.b (.lst 131 aT e),.b (.lst 247 aZ e)],[ag,iT,iT,iT,ag,iT,iT,iT,iT,iT,ag,aY],[⟨.exit 4,[sD ag,sO 1504500,sB 704 0,sI,sO 1504501,sI,sI,.b (.cell [.d iT,.d iT,.d iT] e),.b (.lst 131 aT e),.b (.lst 247 aZ e)],[ag,iT,iT,iT,iT,iT,iT,ag,aY]⟩],Pw.u8 Pw.unc4 (Pw.j3O)⟩]
 keep:=[(0,⟨[1,9,19,20,21],[],[⟨1000000,131,aT,[.slot 9],e⟩,⟨1000001,247,aZ,[.slot 19],e⟩],[]⟩),(2,⟨[1,9,11,13,19,20,21],[704],[⟨1002000,131,aT,[.slot 9],e⟩,⟨1002001,247,aZ,[.slot 19],e⟩],[]⟩),(4,⟨[1,9,11,13,19,20,21,45,46,47],[704],[⟨1004000,131,aT,[.slot 9],e⟩,⟨1004001,247,aZ,[.slot 19],e⟩],[]⟩)]
 keepX:=[(0,.exit 0,⟨[9],[],[⟨1500100,131,aT,[.slot 9],e⟩],[]⟩),(2,.exit 2,⟨[1,9,19,20,21],[],[⟨1502300,131,aT,[.slot 9],e⟩,⟨1502301,247,aZ,[.slot 19],e⟩],[]⟩),(4,.exit 4,⟨[1,9,11,13,19,20,21],[704],[⟨1504500,131,aT,[.slot 9],e⟩,⟨1504501,247,aZ,[.slot 19],e⟩],[]⟩)]
 ro:=[k]
theorem jlr:aN Ow:=
 cOf aP aQ jmk Ow Tryz.func149 (jg Om (jg IG j)) (jg (λh=>by kernel_rfl) (jg (λh=>by kernel_rfl) (jg (λh=>by kernel_rfl) j)))
def Ox:Con:=⟨151,[.v ej,.v fg,.v iT,.v iT],[ej,fg,iT,iT],⟨[.own 131 ag],[]⟩,[ag],Pw.unc4 Pw.j23⟩
def jjV:FnD where
 N:=58
 np:=4
 cs:=[E3,B0]
 ds:=[⟨0,[sB 320 0,sO 1000000,sO 1000001,sI,sI,.b (.cell [.d .str,.d iT,.d (.list iT)] e),.b (.lst 131 aT e),.b (.lst 247 aZ e)],[iT,iT,.str,iT,(.list iT),ag,aY],[⟨.exit 0,[sO 1500100,.b (.lst 131 aT e)],[ag]⟩],Pw.unc7 (Pw.j2R)⟩,⟨2,[sB 320 0,sO 1002000,sB 704 0,sO 1002001,sI,sI,sD (.list iT),sI,sI,.b (.cell [.d .str,.d iT,.d (.list iT)] e),.b (.cell [.d iT,.d iT,.d iT] e),.b (.lst 131 aT e),.b (.lst 247 aZ e)],[iT,iT,(.list iT),iT,iT,.str,iT,(.list iT),iT,iT,iT,ag,aY],[⟨.exit 2,[sB 320 0,sO 1502300,sO 1502301,sI,sI,.b (.cell [.d .str,.d iT,.d (.list iT)] e),.b (.lst 131 aT e),.b (.lst 247 aZ e)],[iT,iT,.str,iT,(.list iT),ag,aY]⟩],Pw.u8 Pw.unc5 (Pw.j2Q)⟩]
 keep:=[(0,⟨[5,9,23,24,25],[320],[⟨1000000,131,aT,[.slot 9],e⟩,⟨1000001,247,aZ,[.slot 23],e⟩],[]⟩),(2,⟨[5,9,11,23,24,25,30,31,32],[320,704],[⟨1002000,131,aT,[.slot 9],e⟩,⟨1002001,247,aZ,[.slot 23],e⟩],[]⟩)]
 keepX:=[(0,.exit 0,⟨[9],[],[⟨1500100,131,aT,[.slot 9],e⟩],[]⟩),(2,.exit 2,⟨[5,9,23,24,25],[320],[⟨1502300,131,aT,[.slot 9],e⟩,⟨1502301,247,aZ,[.slot 23],e⟩],[]⟩)]
 ro:=[k]
theorem jjc:aN Ox:=
 cOf aP aQ jjV Ox Tryz.func151 (jg Om (jg IG j)) (jg (λh=>by kernel_rfl) (jg (λh=>by kernel_rfl) j))
def E5:Con:=⟨150,[.v ag,.v ag],[ag,ag],⟨[.own 131 ag],[]⟩,[ag],Pw.unc2 Pw.j2I⟩
def jml:FnD where
 N:=89
 np:=2
 ds:=[⟨0,[sD ag,sO 1000000,sI,sD ag,sI,sI,.b (.lst 131 aT e)],[ag,iT,ag,iT,iT,ag],[⟨.exit 0,[sO 1500100,.b (.lst 131 aT e)],[ag]⟩],Pw.unc6 (Pw.j3T)⟩,⟨2,[sD ag,sO 1002000,sI,sB 512 0,sD ag,sI,sI,.b (.cell [.d iT,.d iT] e),.b (.lst 131 aT e)],[ag,iT,ag,iT,iT,iT,iT,ag],[⟨.exit 2,[sD ag,sO 1502300,sI,sB 512 0,sD ag,sI,sI,.b (.cell [.d iT,.d iT] e),.b (.lst 131 aT e)],[ag,iT,ag,iT,iT,iT,iT,ag]⟩],Pw.unc8 (Pw.j3R)⟩,⟨4,[sD ag,sO 1004000,sI,sB 512 0,sI,sI,sD ag,sI,sI,.b (.cell [.d iT,.d iT] e),.b (.lst 131 aT e)],[ag,iT,iT,iT,ag,iT,iT,iT,iT,ag],[⟨.exit 4,[sD ag,sO 1504500,sI,sB 512 0,sI,sD ag,sI,sI,.b (.cell [.d iT,.d iT] e),.b (.lst 131 aT e)],[ag,iT,iT,ag,iT,iT,iT,iT,ag]⟩],Pw.u8 Pw.unc2 (Pw.j3S)⟩]
 keep:=[(0,⟨[1,5,6,11,12,13],[],[⟨1000000,131,aT,[.slot 5],e⟩],[]⟩),(2,⟨[1,5,6,8,11,12,13],[512],[⟨1002000,131,aT,[.slot 5],e⟩],[]⟩),(4,⟨[1,5,6,8,9,10,11,12,13],[512],[⟨1004000,131,aT,[.slot 5],e⟩],[]⟩)]
 keepX:=[(0,.exit 0,⟨[5],[],[⟨1500100,131,aT,[.slot 5],e⟩],[]⟩),(2,.exit 2,⟨[1,5,6,8,11,12,13],[512],[⟨1502300,131,aT,[.slot 5],e⟩],[]⟩),(4,.exit 4,⟨[1,5,6,8,9,11,12,13],[512],[⟨1504500,131,aT,[.slot 5],e⟩],[]⟩)]
 ro:=[k]
theorem Oy:aN E5:=
 cOf aP aQ jml E5 Tryz.func150 j (jg (λh=>by kernel_rfl) (jg (λh=>by kernel_rfl) (jg (λh=>by kernel_rfl) j)))
def Oz:Con:=⟨152,[.v ag,.v ag],[ag,ag],⟨[.own 131 ag],[]⟩,[ag],Pw.unc2 Pw.jbp⟩
def jos:FnD where
 N:=67
 np:=2
 ds:=[⟨0,[sD ag,sD ag,sO 1000000,sI,sI,.b (.lst 131 aT e)],[ag,ag,iT,iT,ag],[⟨.exit 0,[sO 1500100,.b (.lst 131 aT e)],[ag]⟩],Pw.unc5 (Pw.j5B)⟩]
 keep:=[(0,⟨[0,1,5,6,7],[],[⟨1000000,131,aT,[.slot 5],e⟩],[]⟩)]
 keepX:=[(0,.exit 0,⟨[5],[],[⟨1500100,131,aT,[.slot 5],e⟩],[]⟩)]
 ro:=[k]
 dw:=[(4,[[],[],[],[],[],[],[],[],[],[],[],[],[],[],[],[],[],[],[],[],[],[],[],[512],[512]])]
theorem jmm:aN Oz:=
 cOf aP aQ jos Oz Tryz.func152 j (jg (λh=>by kernel_rfl) j)
def OA:Con:=⟨99,[.v ej,.v bu,.v iT,.v iT],[ej,bu,iT,iT],⟨[.own 131 ag],[]⟩,[ag],Pw.unc4 Pw.j6x⟩
def jjd:FnD where
 N:=90
 np:=4
 cs:=[E4,Ow,Ox,E5,Oz]
 ro:=[k]
 dw:=[(7,[[],[],[],[],[],[],[],[],[],[],[3584],[]]),(10,[[],[],[],[],[],[],[],[],[],[],[],[4608],[4672],[]]),(12,[[],[],[],[],[],[],[],[],[],[],[],[5568],[5632],[]])]
theorem jiq:aN OA:=
 cOf aP aQ jjd OA Tryz.func99 (jg Oq (jg jlr (jg jjc (jg Oy (jg jmm j))))) j
def OC:Con:=⟨212,[.v cZ,.v iT],[cZ,iT],⟨[.v iT],[]⟩,[iT],Pw.unc2 Pw.j6X⟩
def jhk:FnD where
 N:=10
 np:=2
 cs:=[ID,IE]
theorem jgo:aN OC:=
 cOf aP aQ jhk OC Tryz.func212 (jg WU (jg WV j)) j
def OD:Con:=⟨211,[.v iT],[iT],⟨[.v aT],[]⟩,[aT],λh=>Pw.jg2 h⟩
def jq9:FnD where
 N:=17
 np:=1
theorem jot:aN OD:=
 cOf aP aQ jq9 OD Tryz.func211 j j
def IH:Con:=⟨144,[.v cZ,.v iT],[cZ,iT],⟨[.v aT],[]⟩,[aT],Pw.unc2 Pw.j0o⟩
def jir:FnD where
 N:=11
 np:=2
 cs:=[OC,OD]
theorem WZ:aN IH:=
 cOf aP aQ jir IH Tryz.func144 (jg jgo (jg jot j)) j
def II:Con:=⟨141,[.v cZ,.v bu,.v iT],[cZ,bu,iT],⟨[.v iT],[]⟩,[iT],Pw.unc3 Pw.j26⟩
def jls:FnD where
 N:=84
 np:=3
 cs:=[IC,E4,IH]
 ds:=[⟨0,[sI,sB 192 0,sB 256 0,sI,.b (.cell [.d iT,.d ag] e),.b (.cell [.d .str,.d iT,.d iT,.d iT,.d iT,.d iT,.d (.list iT),.d ag,.d iT,.d iT] e)],[iT,iT,iT,ag,.str,iT,iT,iT,iT,iT,(.list iT),ag,iT,iT],[⟨.exit 0,[sI,sB 192 0,sB 256 0,sI,.b (.cell [.d iT,.d ag] e),.b (.cell [.d .str,.d iT,.d iT,.d iT,.d iT,.d iT,.d (.list iT),.d ag,.d iT,.d iT] e)],[iT,iT,iT,ag,.str,iT,iT,iT,iT,iT,(.list iT),ag,iT,iT]⟩],Pw.u8 Pw.unc6 (Pw.j3c)⟩,⟨2,[sI,sB 192 0,sB 256 0,sI,.b (.cell [.d iT,.d ag] e),.b (.cell [.d .str,.d iT,.d iT,.d iT,.d iT,.d iT,.d (.list iT),.d ag,.d iT,.d iT] e)],[iT,iT,iT,ag,.str,iT,iT,iT,iT,iT,(.list iT),ag,iT,iT],[⟨.ret,[sI],[iT]⟩],Pw.u8 Pw.unc6 (Pw.j4D)⟩]
 keep:=[(0,⟨[2,3,4,9],[192,256],[],[]⟩),(2,⟨[2,3,4,9],[192,256],[],[]⟩)]
 keepX:=[(0,.exit 0,⟨[2,3,4,9],[192,256],[],[]⟩),(2,.ret,⟨[6],[],[],[]⟩)]
theorem W0:aN II:=
 cOf aP aQ jls II Tryz.func141 (jg WT (jg Oq (jg WZ j))) (jg (λh=>by kernel_rfl) (jg (λh=>by kernel_rfl) j))
def IJ:Con:=⟨50,[.v aY],[aY],⟨[.own 130 aY],[]⟩,[aY],λh=>Pw.jbe h⟩
def jqa:FnD where
 N:=57
 np:=1
 ds:=[⟨0,[sO 1000000,sD aY,sI,sI,.b (.lst 130 aZ e)],[aY,iT,iT,aY],[⟨.exit 0,[sO 1500100,.b (.lst 130 aZ e)],[aY]⟩],Pw.unc4 (Pw.j4E)⟩]
 keep:=[(0,⟨[3,7,8,9],[],[⟨1000000,130,aZ,[.slot 3],e⟩],[]⟩)]
 keepX:=[(0,.exit 0,⟨[3],[],[⟨1500100,130,aZ,[.slot 3],e⟩],[]⟩)]
 ro:=[k]
theorem W7:aN IJ:=
 cOf aP aQ jqa IJ Tryz.func50 j (jg (λh=>by kernel_rfl) j)
def OE:Con:=⟨104,[.v ej,.v bu,.v iT,.v iT],[ej,bu,iT,iT],⟨[.own 130 aY],[]⟩,[aY],Pw.unc4 Pw.j2x⟩
def jgp:FnD where
 N:=95
 np:=4
 cs:=[E4,OA,II,IJ]
 ds:=[⟨0,[sI,sB 320 0,sO 1000000,sB 640 0,sI,sI,sI,sO 1000001,sI,sI,.b (.cell [.d .str,.d iT,.d iT,.d iT,.d iT,.d iT,.d (.list iT),.d ag,.d iT,.d iT] e),.b (.cell [.d iT,.d ag] e),.b (.lst 130 aZ e),.b (.lst 131 aT e)],[iT,iT,iT,iT,iT,iT,.str,iT,iT,iT,iT,iT,(.list iT),ag,iT,iT,iT,ag,aY,ag],[⟨.exit 0,[sI,sO 1500100,sI,.b (.lst 130 aZ e)],[iT,iT,aY]⟩],Pw.u8 (Pw.u8 Pw.unc4) (Pw.j1W)⟩,⟨2,[sI,sB 320 0,sO 1002000,sB 640 0,sI,sI,sI,sB 960 0,sO 1002001,sI,sI,.b (.cell [.d .str,.d iT,.d iT,.d iT,.d iT,.d iT,.d (.list iT),.d ag,.d iT,.d iT] e),.b (.cell [.d iT,.d ag] e),.b (.cell [.d iT,.d iT] e),.b (.lst 130 aZ e),.b (.lst 131 aT e)],[iT,iT,iT,iT,iT,iT,.str,iT,iT,iT,iT,iT,(.list iT),ag,iT,iT,iT,ag,iT,iT,aY,ag],[⟨.exit 2,[sI,sB 320 0,sO 1502300,sB 640 0,sI,sI,sI,sO 1502301,sI,sI,.b (.cell [.d .str,.d iT,.d iT,.d iT,.d iT,.d iT,.d (.list iT),.d ag,.d iT,.d iT] e),.b (.cell [.d iT,.d ag] e),.b (.lst 130 aZ e),.b (.lst 131 aT e)],[iT,iT,iT,iT,iT,iT,.str,iT,iT,iT,iT,iT,(.list iT),ag,iT,iT,iT,ag,aY,ag]⟩],Pw.u8 (Pw.u8 Pw.unc6) (Pw.j2N)⟩]
 keep:=[(0,⟨[3,5,9,10,11,12,13,30,31,32],[320,640],[⟨1000000,130,aZ,[.slot 9],e⟩,⟨1000001,131,aT,[.slot 30],e⟩],[]⟩),(2,⟨[3,5,9,10,11,12,13,15,30,31,32],[320,640,960],[⟨1002000,130,aZ,[.slot 9],e⟩,⟨1002001,131,aT,[.slot 30],e⟩],[]⟩)]
 keepX:=[(0,.exit 0,⟨[3,9,11],[],[⟨1500100,130,aZ,[.slot 9],e⟩],[]⟩),(2,.exit 2,⟨[3,5,9,10,11,12,13,30,31,32],[320,640],[⟨1502300,130,aZ,[.slot 9],e⟩,⟨1502301,131,aT,[.slot 30],e⟩],[]⟩)]
 ro:=[k]
 dw:=[(17,[[],[],[],[],[],[],[],[],[],[],[],[],[],[5376],[5440,1002000],[]])]
theorem jfD:aN OE:=
 cOf aP aQ jgp OE Tryz.func104 (jg Oq (jg jiq (jg W0 (jg W7 j)))) (jg (λh=>by kernel_rfl) (jg (λh=>by kernel_rfl) j))
def OG:Con:=⟨225,[.v cD,.v iT],[cD,iT],⟨[.own 131 ag],[]⟩,[ag],Pw.unc2 Pw.j6z⟩
def jmn:FnD where
 N:=35
 np:=2
 cs:=[B0]
 ds:=[⟨0,[sI,sO 1000000,sD bV,sI,sI,.b (.lst 131 aT e)],[iT,bV,iT,iT,ag],[⟨.exit 0,[sO 1500100,.b (.lst 131 aT e)],[ag]⟩],Pw.unc5 (Pw.j3U)⟩]
 keep:=[(0,⟨[1,5,9,10,11],[],[⟨1000000,131,aT,[.slot 5],e⟩],[]⟩)]
 keepX:=[(0,.exit 0,⟨[5],[],[⟨1500100,131,aT,[.slot 5],e⟩],[]⟩)]
 ro:=[k]
theorem jlt:aN OG:=
 cOf aP aQ jmn OG Tryz.func225 (jg IG j) (jg (λh=>by kernel_rfl) j)
def OH:Con:=⟨160,[.v cD,.v aY],[cD,aY],⟨[.own 130 aY],[]⟩,[aY],Pw.unc2 Pw.j8F⟩
def jlu:FnD where
 N:=68
 np:=2
 cs:=[E5,OG]
 ds:=[⟨0,[sB 128 0,sO 1000000,sO 1000001,sD aY,sI,sI,.b (.cell [.d .str,.d bL,.d bV] e),.b (.lst 4294967551 cZ e),.b (.lst 130 aZ e)],[aY,iT,iT,.str,bL,bV,iC,aY],[⟨.exit 0,[sO 1500100,.b (.lst 130 aZ e)],[aY]⟩],Pw.unc8 (Pw.j3g)⟩,⟨2,[sB 128 0,sO 1002000,sO 1002001,sB 512 0,sD aY,sI,sI,sO 1002002,sI,sI,.b (.cell [.d .str,.d bL,.d bV] e),.b (.cell [.d iT,.d iT,.d iT] e),.b (.lst 4294967551 cZ e),.b (.lst 130 aZ e),.b (.lst 131 aT e)],[aY,iT,iT,iT,iT,.str,bL,bV,iT,iT,iT,iC,aY,ag],[⟨.exit 2,[sB 128 0,sO 1502300,sO 1502301,sD aY,sI,sI,.b (.cell [.d .str,.d bL,.d bV] e),.b (.lst 4294967551 cZ e),.b (.lst 130 aZ e)],[aY,iT,iT,.str,bL,bV,iC,aY]⟩],Pw.u8 Pw.unc6 (Pw.j3f)⟩]
 keep:=[(0,⟨[2,5,6,14,15,16],[128],[⟨1000000,4294967551,cZ,[.slot 5],e⟩,⟨1000001,130,aZ,[.slot 6],e⟩],[]⟩),(2,⟨[2,5,6,8,14,15,16,49,50,51],[128,512],[⟨1002000,4294967551,cZ,[.slot 5],e⟩,⟨1002001,130,aZ,[.slot 6],e⟩,⟨1002002,131,aT,[.slot 49],e⟩],[]⟩)]
 keepX:=[(0,.exit 0,⟨[6],[],[⟨1500100,130,aZ,[.slot 6],e⟩],[]⟩),(2,.exit 2,⟨[2,5,6,14,15,16],[128],[⟨1502300,4294967551,cZ,[.slot 5],e⟩,⟨1502301,130,aZ,[.slot 6],e⟩],[]⟩)]
 ro:=[k]
 dw:=[(9,[[],[],[],[],[],[],[2432],[2432,1000000]])]
theorem jjW:aN OH:=
 cOf aP aQ jlu OH Tryz.func160 (jg Oy (jg jlt j)) (jg (λh=>by kernel_rfl) (jg (λh=>by kernel_rfl) j))
def OI:Con:=⟨159,[.v aY,.v ag],[aY,ag],⟨[.own 130 aY],[]⟩,[aY],Pw.unc2 Pw.jcx⟩
def jmo:FnD where
 N:=72
 np:=2
 ds:=[⟨0,[sD aY,sD ag,sO 1000000,sI,sI,.b (.lst 130 aZ e)],[aY,ag,iT,iT,aY],[⟨.exit 0,[sO 1500100,.b (.lst 130 aZ e)],[aY]⟩],Pw.unc5 (Pw.j57)⟩]
 keep:=[(0,⟨[0,1,5,6,7],[],[⟨1000000,130,aZ,[.slot 5],e⟩],[]⟩)]
 keepX:=[(0,.exit 0,⟨[5],[],[⟨1500100,130,aZ,[.slot 5],e⟩],[]⟩)]
 ro:=[k]
 dw:=[(4,[[],[],[],[],[],[],[],[],[],[],[],[],[],[],[],[],[],[],[],[],[],[],[],[],[],[],[],[],[512],[512]])]
theorem jlv:aN OI:=
 cOf aP aQ jmo OI Tryz.func159 j (jg (λh=>by kernel_rfl) j)
def OJ:Con:=⟨161,[.v aY],[aY],⟨[.own 131 ag],[]⟩,[ag],λh=>Pw.jbt h⟩
def jou:FnD where
 N:=23
 np:=1
 cs:=[B0]
 ds:=[⟨0,[sO 1000000,sD aY,sI,sI,.b (.lst 131 aT e)],[aY,iT,iT,ag],[⟨.exit 0,[sO 1500100,.b (.lst 131 aT e)],[ag]⟩],Pw.unc4 (Pw.j4l)⟩]
 keep:=[(0,⟨[3,6,7,8],[],[⟨1000000,131,aT,[.slot 3],e⟩],[]⟩)]
 keepX:=[(0,.exit 0,⟨[3],[],[⟨1500100,131,aT,[.slot 3],e⟩],[]⟩)]
 ro:=[k]
theorem jmp:aN OJ:=
 cOf aP aQ jou OJ Tryz.func161 (jg IG j) (jg (λh=>by kernel_rfl) j)
def OL:Con:=⟨163,[.v aZ,.v aZ],[aZ,aZ],⟨[.v iT],[]⟩,[iT],Pw.unc2 Pw.j2X⟩
def jfE:FnD where
 N:=10
 np:=2
theorem joY:aN OL:=
 cOf aP aQ jfE OL Tryz.func163 j j
def W8:Con:=⟨162,[.rl 130 aY,.clo 163 []],[aY],⟨[],[.rl aY]⟩,[aY],λh=>Pw.j0t h⟩
def j8p:FnD where
 N:=14
 np:=2
 cs:=[OL]
theorem j2r:aN W8:=
 Vf Tryz.sort162 (aZ) rfl 130 (by kernel_rfl) Tryz.isAgg130 Tryz.sizeOf130 _ 163 (enters_of Tryz.func163 (by kernel_rfl) rfl) jrG jrH 162 rfl
def OM:Con:=⟨111,[.v ej,.v cD,.v iT,.v iT],[ej,cD,iT,iT],⟨[.own 130 aY],[]⟩,[aY],Pw.unc4 Pw.j5W⟩
def jit:FnD where
 N:=63
 np:=4
 cs:=[IB,E5,IJ,OE,OH,OI,OJ,W8]
 ds:=[⟨0,[sI,sB 256 0,sB 320 0,sB 384 0,sB 448 0,sB 576 0,sB 640 0,sC 224 [.p [bL]],.b (.cell [.d aA,.d aC,.d aB,.d aG,.d iC] e),.b (.cell [.d .str,.d bL,.d bV] e),.b (.cell [.d iT] e),.b (.cell [.d iT] e),.b (.cell [.ol 1000000] e),.b (.cell [.ol 1000001] e),.b (.lst 131 aT e),.b (.lst 130 aZ e)],[iT,bL,aA,aC,aB,aG,iC,.str,bL,bV,iT,iT,ag,aY],[⟨.normal,[sB 576 0,sB 640 0,.b (.cell [.ol 1500050] e),.b (.cell [.ol 1500051] e),.b (.lst 131 aT e),.b (.lst 130 aZ e)],[ag,aY]⟩],Pw.u8 Pw.unc6 (Pw.j2d)⟩,⟨2,[sB 640 0,sO 1002000,sI,sI,.b (.cell [.ol 1002001] e),.b (.lst 131 aT e),.b (.lst 130 aZ e)],[iT,iT,ag,aY],[⟨.exit 2,[sB 640 0,.b (.cell [.ol 1502300] e),.b (.lst 130 aZ e)],[aY]⟩],Pw.unc4 (Pw.j2e)⟩]
 modes:=[(162,[k,e])]
 keep:=[(0,⟨[4,5,6,7,9,10,25],[256,320,384,448,576,640],[⟨1000000,131,aT,[.cell 576 0],e⟩,⟨1000001,130,aZ,[.cell 640 0],e⟩],[]⟩),(2,⟨[10,44,45,46],[640],[⟨1002000,131,aT,[.slot 44],e⟩,⟨1002001,130,aZ,[.cell 640 0],e⟩],[]⟩)]
 keepX:=[(0,.normal,⟨[9,10],[576,640],[⟨1500050,131,aT,[.cell 576 0],e⟩,⟨1500051,130,aZ,[.cell 640 0],e⟩],[]⟩),(2,.exit 2,⟨[10],[640],[⟨1502300,130,aZ,[.cell 640 0],e⟩],[]⟩)]
 ro:=[k]
 dw:=[(7,[[],[],[],[],[],[2112],[2176],[],[2304],[]]),(9,[[],[],[2688],[2752],[576]])]
 bw:=[(224,(e,bu))]
theorem W9:ItOK Tryz.prog 224 e (bu):=Ĺ <| jBI aP Tryz.func224 (fn:=Tryz.f224) (A0:=bwA Tryz.f224 0) (A1:=bwA Tryz.f224 1) (A2:=bwA Tryz.f224 2) (A3:=bwA Tryz.f224 3) (by kernel_rfl) (by kernel_rfl) (by kernel_rfl) (by kernel_rfl) (by kernel_rfl) (by kernel_rfl) (by kernel_rfl) (by kernel_rfl) (by kernel_rfl) (by kernel_rfl) (by kernel_rfl) ⟨(by kernel_rfl),(by kernel_rfl)⟩
 (λxs=>by kernel_rfl) (λi=>by kernel_rfl) (λi=>by kernel_rfl) (λxs i=>by kernel_rfl) (λb i=>by kernel_rfl)
theorem jhl:aN OM:=
 cOf aP aQ jit OM Tryz.func111 (jg WS (jg Oy (jg W7 (jg jfD (jg jjW (jg jlv (jg jmp (jg j2r j)))))))) (jg (λh=>by kernel_rfl) (jg (λh=>by kernel_rfl) j)) (jg W9 j)
def IK:Con:=⟨57,[.v aR,.v iT,.v iT,.v iT],[aR,iT,iT,iT],⟨[.own 130 aY,.v iT],[]⟩,[aY,iT],Pw.unc4 Pw.j47⟩
def jjX:FnD where
 N:=37
 np:=4
 cs:=[Oi,OM]
 ro:=[k,e]
 dw:=[(4,[[],[],[],[],[],[],[],[],[2048],[]])]
theorem Xa:aN IK:=
 cOf aP aQ jjX IK Tryz.func57 (jg jmh (jg jhl j)) j
end Go.Proofs.Pk
