/- cB: each given function is its plain function, printed by a program. -/
import Derived.Test.YtgfoijaggkhgnaaGreatLXCon5
open Bool renaming false->e,true->k
open _root_ renaming trivial->j
noncomputable section
open Go Go.Lft
set_option linter.unusedVariables false
set_option maxRecDepth 100000
namespace Go.Proofs.Pk
def Hc:Con:=⟨116,[.v ag,.v ag],[ag,ag],⟨[.own 113 ag],[]⟩,[ag],Pw.unc2 Pw.j2Q⟩
def jpm:FnD where
 N:=89
 np:=2
 ds:=[⟨0,[sD ag,sO 1000000,sI,sD ag,sI,sI,.b (.lst 113 aN e)],[ag,iT,ag,iT,iT,ag],[⟨.exit 0,[sO 1500100,.b (.lst 113 aN e)],[ag]⟩],Pw.unc6 (Pw.j44)⟩,⟨2,[sD ag,sO 1002000,sI,sB 512 0,sD ag,sI,sI,.b (.cell [.d iT,.d iT] e),.b (.lst 113 aN e)],[ag,iT,ag,iT,iT,iT,iT,ag],[⟨.exit 2,[sD ag,sO 1502300,sI,sB 512 0,sD ag,sI,sI,.b (.cell [.d iT,.d iT] e),.b (.lst 113 aN e)],[ag,iT,ag,iT,iT,iT,iT,ag]⟩],Pw.unc8 (Pw.j42)⟩,⟨4,[sD ag,sO 1004000,sI,sB 512 0,sI,sI,sD ag,sI,sI,.b (.cell [.d iT,.d iT] e),.b (.lst 113 aN e)],[ag,iT,iT,iT,ag,iT,iT,iT,iT,ag],[⟨.exit 4,[sD ag,sO 1504500,sI,sB 512 0,sI,sD ag,sI,sI,.b (.cell [.d iT,.d iT] e),.b (.lst 113 aN e)],[ag,iT,iT,ag,iT,iT,iT,iT,ag]⟩],Pw.u8 Pw.unc2 (Pw.j43)⟩]
 keep:=[(0,⟨[1,5,6,11,12,13],[],[⟨1000000,113,aN,[.slot 5],e⟩],[]⟩),(2,⟨[1,5,6,8,11,12,13],[512],[⟨1002000,113,aN,[.slot 5],e⟩],[]⟩),(4,⟨[1,5,6,8,9,10,11,12,13],[512],[⟨1004000,113,aN,[.slot 5],e⟩],[]⟩)]
 keepX:=[(0,.exit 0,⟨[5],[],[⟨1500100,113,aN,[.slot 5],e⟩],[]⟩),(2,.exit 2,⟨[1,5,6,8,11,12,13],[512],[⟨1502300,113,aN,[.slot 5],e⟩],[]⟩),(4,.exit 4,⟨[1,5,6,8,9,11,12,13],[512],[⟨1504500,113,aN,[.slot 5],e⟩],[]⟩)]
 ro:=[k]
theorem Rz:aG Hc:=
 cOf aJ aK jpm Hc Tryz.func116 j (ja (λh=>by kernel_rfl) (ja (λh=>by kernel_rfl) (ja (λh=>by kernel_rfl) j)))
def K5:Con:=⟨43,[.v ag,.v ag],[ag,ag],⟨[.own 113 ag],[]⟩,[ag],Pw.unc2 Pw.j9f⟩
def jrE:FnD where
 N:=67
 np:=2
 ds:=[⟨0,[sD ag,sD ag,sO 1000000,sI,sI,.b (.lst 113 aN e)],[ag,ag,iT,iT,ag],[⟨.exit 0,[sO 1500100,.b (.lst 113 aN e)],[ag]⟩],Pw.unc5 (Pw.j6p)⟩]
 keep:=[(0,⟨[0,1,5,6,7],[],[⟨1000000,113,aN,[.slot 5],e⟩],[]⟩)]
 keepX:=[(0,.exit 0,⟨[5],[],[⟨1500100,113,aN,[.slot 5],e⟩],[]⟩)]
 ro:=[k]
 dw:=[(4,[[],[],[],[],[],[],[],[],[],[],[],[],[],[],[],[],[],[],[],[],[],[],[],[512],[512]])]
theorem _Q:aG K5:=
 cOf aJ aK jrE K5 Tryz.func43 j (ja (λh=>by kernel_rfl) j)
def RA:Con:=⟨161,[.v gv,.v bX,.v iT,.v iT],[gv,bX,iT,iT],⟨[.own 113 ag],[]⟩,[ag],Pw.unc4 Pw.j7C⟩
def jm5:FnD where
 N:=90
 np:=4
 cs:=[Ha,K4,Ry,Hc,K5]
 ro:=[k]
 dw:=[(7,[[],[],[],[],[],[],[],[],[],[],[3584],[]]),(10,[[],[],[],[],[],[],[],[],[],[],[],[4608],[4672],[]]),(12,[[],[],[],[],[],[],[],[],[],[],[],[5568],[5632],[]])]
theorem jlj:aG RA:=
 cOf aJ aK jm5 RA Tryz.func161 (ja Ru (ja _P (ja jm4 (ja Rz (ja _Q j))))) j
def RB:Con:=⟨258,[.v dg,.v iT],[dg,iT],⟨[.v iT],[]⟩,[iT],Pw.unc2 Pw.j8a⟩
def jka:FnD where
 N:=10
 np:=2
 cs:=[KY,KZ]
theorem jj0:aG RB:=
 cOf aJ aK jka RB Tryz.func258 (ja _K (ja _L j)) j
def RC:Con:=⟨257,[.v iT],[iT],⟨[.v aN],[]⟩,[aN],λh=>Pw.jiE h⟩
def jtG:FnD where
 N:=17
 np:=1
theorem jrF:aG RC:=
 cOf aJ aK jtG RC Tryz.func257 j j
def RD:Con:=⟨219,[.v dg,.v iT],[dg,iT],⟨[.v aN],[]⟩,[aN],Pw.unc2 Pw.j1y⟩
def jlk:FnD where
 N:=11
 np:=2
 cs:=[RB,RC]
theorem jkb:aG RD:=
 cOf aJ aK jlk RD Tryz.func219 (ja jj0 (ja jrF j)) j
def RE:Con:=⟨162,[.v dg,.v bX,.v iT],[dg,bX,iT],⟨[.v iT],[]⟩,[iT],Pw.unc3 Pw.j4b⟩
def jou:FnD where
 N:=84
 np:=3
 cs:=[KX,Ha,RD]
 ds:=[⟨0,[sI,sB 192 0,sB 256 0,sI,.b (.cell [.d iT,.d ag] e),.b (.cell [.d .str,.d iT,.d iT,.d iT,.d iT,.d iT,.d (.list iT),.d ag,.d iT,.d iT] e)],[iT,iT,iT,ag,.str,iT,iT,iT,iT,iT,(.list iT),ag,iT,iT],[⟨.exit 0,[sI,sB 192 0,sB 256 0,sI,.b (.cell [.d iT,.d ag] e),.b (.cell [.d .str,.d iT,.d iT,.d iT,.d iT,.d iT,.d (.list iT),.d ag,.d iT,.d iT] e)],[iT,iT,iT,ag,.str,iT,iT,iT,iT,iT,(.list iT),ag,iT,iT]⟩],Pw.u8 Pw.unc6 (Pw.j3m)⟩,⟨2,[sI,sB 192 0,sB 256 0,sI,.b (.cell [.d iT,.d ag] e),.b (.cell [.d .str,.d iT,.d iT,.d iT,.d iT,.d iT,.d (.list iT),.d ag,.d iT,.d iT] e)],[iT,iT,iT,ag,.str,iT,iT,iT,iT,iT,(.list iT),ag,iT,iT],[⟨.ret,[sI],[iT]⟩],Pw.u8 Pw.unc6 (Pw.j4X)⟩]
 keep:=[(0,⟨[2,3,4,9],[192,256],[],[]⟩),(2,⟨[2,3,4,9],[192,256],[],[]⟩)]
 keepX:=[(0,.exit 0,⟨[2,3,4,9],[192,256],[],[]⟩),(2,.ret,⟨[6],[],[],[]⟩)]
theorem jmW:aG RE:=
 cOf aJ aK jou RE Tryz.func162 (ja _J (ja Ru (ja jkb j))) (ja (λh=>by kernel_rfl) (ja (λh=>by kernel_rfl) j))
def Hd:Con:=⟨85,[.v ak],[ak],⟨[.own 103 ak],[]⟩,[ak],λh=>Pw.jaM h⟩
def jtH:FnD where
 N:=57
 np:=1
 ds:=[⟨0,[sO 1000000,sD ak,sI,sI,.b (.lst 103 aw e)],[ak,iT,iT,ak],[⟨.exit 0,[sO 1500100,.b (.lst 103 aw e)],[ak]⟩],Pw.unc4 (Pw.j4Y)⟩]
 keep:=[(0,⟨[3,7,8,9],[],[⟨1000000,103,aw,[.slot 3],e⟩],[]⟩)]
 keepX:=[(0,.exit 0,⟨[3],[],[⟨1500100,103,aw,[.slot 3],e⟩],[]⟩)]
 ro:=[k]
theorem RF:aG Hd:=
 cOf aJ aK jtH Hd Tryz.func85 j (ja (λh=>by kernel_rfl) j)
def RG:Con:=⟨115,[.v gv,.v bX,.v iT,.v iT],[gv,bX,iT,iT],⟨[.own 103 ak],[]⟩,[ak],Pw.unc4 Pw.j1Z⟩
def jj1:FnD where
 N:=95
 np:=4
 cs:=[Ha,RA,RE,Hd]
 ds:=[⟨0,[sI,sB 320 0,sO 1000000,sB 640 0,sI,sI,sI,sO 1000001,sI,sI,.b (.cell [.d .str,.d iT,.d iT,.d iT,.d iT,.d iT,.d (.list iT),.d ag,.d iT,.d iT] e),.b (.cell [.d iT,.d ag] e),.b (.lst 103 aw e),.b (.lst 113 aN e)],[iT,iT,iT,iT,iT,iT,.str,iT,iT,iT,iT,iT,(.list iT),ag,iT,iT,iT,ag,ak,ag],[⟨.exit 0,[sI,sO 1500100,sI,.b (.lst 103 aw e)],[iT,iT,ak]⟩],Pw.u8 (Pw.u8 Pw.unc4) (Pw.j1U)⟩,⟨2,[sI,sB 320 0,sO 1002000,sB 640 0,sI,sI,sI,sB 960 0,sO 1002001,sI,sI,.b (.cell [.d .str,.d iT,.d iT,.d iT,.d iT,.d iT,.d (.list iT),.d ag,.d iT,.d iT] e),.b (.cell [.d iT,.d ag] e),.b (.cell [.d iT,.d iT] e),.b (.lst 103 aw e),.b (.lst 113 aN e)],[iT,iT,iT,iT,iT,iT,.str,iT,iT,iT,iT,iT,(.list iT),ag,iT,iT,iT,ag,iT,iT,ak,ag],[⟨.exit 2,[sI,sB 320 0,sO 1502300,sB 640 0,sI,sI,sI,sO 1502301,sI,sI,.b (.cell [.d .str,.d iT,.d iT,.d iT,.d iT,.d iT,.d (.list iT),.d ag,.d iT,.d iT] e),.b (.cell [.d iT,.d ag] e),.b (.lst 103 aw e),.b (.lst 113 aN e)],[iT,iT,iT,iT,iT,iT,.str,iT,iT,iT,iT,iT,(.list iT),ag,iT,iT,iT,ag,ak,ag]⟩],Pw.u8 (Pw.u8 Pw.unc6) (Pw.j2T)⟩]
 keep:=[(0,⟨[3,5,9,10,11,12,13,30,31,32],[320,640],[⟨1000000,103,aw,[.slot 9],e⟩,⟨1000001,113,aN,[.slot 30],e⟩],[]⟩),(2,⟨[3,5,9,10,11,12,13,15,30,31,32],[320,640,960],[⟨1002000,103,aw,[.slot 9],e⟩,⟨1002001,113,aN,[.slot 30],e⟩],[]⟩)]
 keepX:=[(0,.exit 0,⟨[3,9,11],[],[⟨1500100,103,aw,[.slot 9],e⟩],[]⟩),(2,.exit 2,⟨[3,5,9,10,11,12,13,30,31,32],[320,640],[⟨1502300,103,aw,[.slot 9],e⟩,⟨1502301,113,aN,[.slot 30],e⟩],[]⟩)]
 ro:=[k]
 dw:=[(17,[[],[],[],[],[],[],[],[],[],[],[],[],[],[5376],[5440,1002000],[]])]
theorem jia:aG RG:=
 cOf aJ aK jj1 RG Tryz.func115 (ja Ru (ja jlj (ja jmW (ja RF j)))) (ja (λh=>by kernel_rfl) (ja (λh=>by kernel_rfl) j))
def RH:Con:=⟨160,[.v dA,.v iT],[dA,iT],⟨[.own 113 ag],[]⟩,[ag],Pw.unc2 Pw.j7E⟩
def jpn:FnD where
 N:=35
 np:=2
 cs:=[Bg]
 ds:=[⟨0,[sI,sO 1000000,sD bL,sI,sI,.b (.lst 113 aN e)],[iT,bL,iT,iT,ag],[⟨.exit 0,[sO 1500100,.b (.lst 113 aN e)],[ag]⟩],Pw.unc5 (Pw.j45)⟩]
 keep:=[(0,⟨[1,5,9,10,11],[],[⟨1000000,113,aN,[.slot 5],e⟩],[]⟩)]
 keepX:=[(0,.exit 0,⟨[5],[],[⟨1500100,113,aN,[.slot 5],e⟩],[]⟩)]
 ro:=[k]
theorem jov:aG RH:=
 cOf aJ aK jpn RH Tryz.func160 (ja Hb j) (ja (λh=>by kernel_rfl) j)
def RI:Con:=⟨114,[.v dA,.v ak],[dA,ak],⟨[.own 103 ak],[]⟩,[ak],Pw.unc2 Pw.j9Z⟩
def jow:FnD where
 N:=68
 np:=2
 cs:=[Hc,RH]
 ds:=[⟨0,[sB 128 0,sO 1000000,sO 1000001,sD ak,sI,sI,.b (.cell [.d .str,.d bS,.d bL] e),.b (.lst 4294967521 dg e),.b (.lst 103 aw e)],[ak,iT,iT,.str,bS,bL,iv,ak],[⟨.exit 0,[sO 1500100,.b (.lst 103 aw e)],[ak]⟩],Pw.unc8 (Pw.j3q)⟩,⟨2,[sB 128 0,sO 1002000,sO 1002001,sB 512 0,sD ak,sI,sI,sO 1002002,sI,sI,.b (.cell [.d .str,.d bS,.d bL] e),.b (.cell [.d iT,.d iT,.d iT] e),.b (.lst 4294967521 dg e),.b (.lst 103 aw e),.b (.lst 113 aN e)],[ak,iT,iT,iT,iT,.str,bS,bL,iT,iT,iT,iv,ak,ag],[⟨.exit 2,[sB 128 0,sO 1502300,sO 1502301,sD ak,sI,sI,.b (.cell [.d .str,.d bS,.d bL] e),.b (.lst 4294967521 dg e),.b (.lst 103 aw e)],[ak,iT,iT,.str,bS,bL,iv,ak]⟩],Pw.u8 Pw.unc6 (Pw.j3p)⟩]
 keep:=[(0,⟨[2,5,6,14,15,16],[128],[⟨1000000,4294967521,dg,[.slot 5],e⟩,⟨1000001,103,aw,[.slot 6],e⟩],[]⟩),(2,⟨[2,5,6,8,14,15,16,49,50,51],[128,512],[⟨1002000,4294967521,dg,[.slot 5],e⟩,⟨1002001,103,aw,[.slot 6],e⟩,⟨1002002,113,aN,[.slot 49],e⟩],[]⟩)]
 keepX:=[(0,.exit 0,⟨[6],[],[⟨1500100,103,aw,[.slot 6],e⟩],[]⟩),(2,.exit 2,⟨[2,5,6,14,15,16],[128],[⟨1502300,4294967521,dg,[.slot 5],e⟩,⟨1502301,103,aw,[.slot 6],e⟩],[]⟩)]
 ro:=[k]
 dw:=[(9,[[],[],[],[],[],[],[2432],[2432,1000000]])]
theorem jmX:aG RI:=
 cOf aJ aK jow RI Tryz.func114 (ja Rz (ja jov j)) (ja (λh=>by kernel_rfl) (ja (λh=>by kernel_rfl) j))
def RJ:Con:=⟨113,[.v ak,.v ag],[ak,ag],⟨[.own 103 ak],[]⟩,[ak],Pw.unc2 Pw.jem⟩
def jpo:FnD where
 N:=72
 np:=2
 ds:=[⟨0,[sD ak,sD ag,sO 1000000,sI,sI,.b (.lst 103 aw e)],[ak,ag,iT,iT,ak],[⟨.exit 0,[sO 1500100,.b (.lst 103 aw e)],[ak]⟩],Pw.unc5 (Pw.j5C)⟩]
 keep:=[(0,⟨[0,1,5,6,7],[],[⟨1000000,103,aw,[.slot 5],e⟩],[]⟩)]
 keepX:=[(0,.exit 0,⟨[5],[],[⟨1500100,103,aw,[.slot 5],e⟩],[]⟩)]
 ro:=[k]
 dw:=[(4,[[],[],[],[],[],[],[],[],[],[],[],[],[],[],[],[],[],[],[],[],[],[],[],[],[],[],[],[],[512],[512]])]
theorem jox:aG RJ:=
 cOf aJ aK jpo RJ Tryz.func113 j (ja (λh=>by kernel_rfl) j)
def RK:Con:=⟨117,[.v ak],[ak],⟨[.own 113 ag],[]⟩,[ag],λh=>Pw.jdf h⟩
def jrG:FnD where
 N:=23
 np:=1
 cs:=[Bg]
 ds:=[⟨0,[sO 1000000,sD ak,sI,sI,.b (.lst 113 aN e)],[ak,iT,iT,ag],[⟨.exit 0,[sO 1500100,.b (.lst 113 aN e)],[ag]⟩],Pw.unc4 (Pw.j4x)⟩]
 keep:=[(0,⟨[3,6,7,8],[],[⟨1000000,113,aN,[.slot 3],e⟩],[]⟩)]
 keepX:=[(0,.exit 0,⟨[3],[],[⟨1500100,113,aN,[.slot 3],e⟩],[]⟩)]
 ro:=[k]
theorem jpp:aG RK:=
 cOf aJ aK jrG RK Tryz.func117 (ja Hb j) (ja (λh=>by kernel_rfl) j)
def RM:Con:=⟨119,[.v aw,.v aw],[aw,aw],⟨[.v iT],[]⟩,[iT],Pw.unc2 Pw.j35⟩
def jib:FnD where
 N:=10
 np:=2
theorem jsc:aG RM:=
 cOf aJ aK jib RM Tryz.func119 j j
def _R:Con:=⟨118,[.rl 103 ak,.clo 119 []],[ak],⟨[],[.rl ak]⟩,[ak],λh=>Pw.j0s h⟩
def j9G:FnD where
 N:=14
 np:=2
 cs:=[RM]
theorem j2q:aG _R:=
 Yn Tryz.sort118 (aw) rfl 103 (by kernel_rfl) Tryz.isAgg103 Tryz.sizeOf103 _ 119 (enters_of Tryz.func119 (by kernel_rfl) rfl) jv1 jv2 118 rfl
def RN:Con:=⟨82,[.v gv,.v dA,.v iT,.v iT],[gv,dA,iT,iT],⟨[.own 103 ak],[]⟩,[ak],Pw.unc4 Pw.j4O⟩
def jll:FnD where
 N:=63
 np:=4
 cs:=[Rn,Hc,Hd,RG,RI,RJ,RK,_R]
 ds:=[⟨0,[sI,sB 256 0,sB 320 0,sB 384 0,sB 448 0,sB 576 0,sB 640 0,sC 159 [.p [bS]],.b (.cell [.d ay,.d aB,.d aA,.d aF,.d iv] e),.b (.cell [.d .str,.d bS,.d bL] e),.b (.cell [.d iT] e),.b (.cell [.d iT] e),.b (.cell [.ol 1000000] e),.b (.cell [.ol 1000001] e),.b (.lst 113 aN e),.b (.lst 103 aw e)],[iT,bS,ay,aB,aA,aF,iv,.str,bS,bL,iT,iT,ag,ak],[⟨.normal,[sB 576 0,sB 640 0,.b (.cell [.ol 1500050] e),.b (.cell [.ol 1500051] e),.b (.lst 113 aN e),.b (.lst 103 aw e)],[ag,ak]⟩],Pw.u8 Pw.unc6 (Pw.j2k)⟩,⟨2,[sB 640 0,sO 1002000,sI,sI,.b (.cell [.ol 1002001] e),.b (.lst 113 aN e),.b (.lst 103 aw e)],[iT,iT,ag,ak],[⟨.exit 2,[sB 640 0,.b (.cell [.ol 1502300] e),.b (.lst 103 aw e)],[ak]⟩],Pw.unc4 (Pw.j2l)⟩]
 modes:=[(118,[k,e])]
 keep:=[(0,⟨[4,5,6,7,9,10,25],[256,320,384,448,576,640],[⟨1000000,113,aN,[.cell 576 0],e⟩,⟨1000001,103,aw,[.cell 640 0],e⟩],[]⟩),(2,⟨[10,44,45,46],[640],[⟨1002000,113,aN,[.slot 44],e⟩,⟨1002001,103,aw,[.cell 640 0],e⟩],[]⟩)]
 keepX:=[(0,.normal,⟨[9,10],[576,640],[⟨1500050,113,aN,[.cell 576 0],e⟩,⟨1500051,103,aw,[.cell 640 0],e⟩],[]⟩),(2,.exit 2,⟨[10],[640],[⟨1502300,103,aw,[.cell 640 0],e⟩],[]⟩)]
 ro:=[k]
 dw:=[(7,[[],[],[],[],[],[2112],[2176],[],[2304],[]]),(9,[[],[],[2688],[2752],[576]])]
 bw:=[(159,(e,bX))]
theorem jCO:ItOK Tryz.prog 159 e (bX):=jI2 <| jGz aJ Tryz.func159 (fn:=Tryz.f159) (A0:=bwA Tryz.f159 0) (A1:=bwA Tryz.f159 1) (A2:=bwA Tryz.f159 2) (A3:=bwA Tryz.f159 3) (by kernel_rfl) (by kernel_rfl) (by kernel_rfl) (by kernel_rfl) (by kernel_rfl) (by kernel_rfl) (by kernel_rfl) (by kernel_rfl) (by kernel_rfl) (by kernel_rfl) (by kernel_rfl) ⟨(by kernel_rfl),(by kernel_rfl)⟩
 (λxs=>by kernel_rfl) (λi=>by kernel_rfl) (λi=>by kernel_rfl) (λxs i=>by kernel_rfl) (λb i=>by kernel_rfl)
theorem jkc:aG RN:=
 cOf aJ aK jll RN Tryz.func82 (ja j8g (ja Rz (ja RF (ja jia (ja jmX (ja jox (ja jpp (ja j2q j)))))))) (ja (λh=>by kernel_rfl) (ja (λh=>by kernel_rfl) j)) (ja jCO j)
def RO:Con:=⟨165,[.v iT],[iT],⟨[.v .bool],[]⟩,[.bool],λh=>Pw.jcA h⟩
def joy:FnD where
 N:=6
 np:=1
theorem jmY:aG RO:=
 cOf aJ aK joy RO Tryz.func165 j j
def RP:Con:=⟨120,[.v iT,.v iT],[iT,iT],⟨[.v .bool],[]⟩,[.bool],Pw.unc2 Pw.jen⟩
def jpq:FnD where
 N:=17
 np:=2
 cs:=[RO]
theorem joz:aG RP:=
 cOf aJ aK jpq RP Tryz.func120 (ja jmY j) j
def RQ:Con:=⟨121,[.v iT],[iT],⟨[.v .bool],[]⟩,[.bool],λh=>Pw.j97 h⟩
def jlm:FnD where
 N:=6
 np:=1
theorem jkd:aG RQ:=
 cOf aJ aK jlm RQ Tryz.func121 j j
def RR:Con:=⟨83,[.v (.list iT),.v iT],[(.list iT),iT],⟨[.v iT,.v .bool],[]⟩,[iT,.bool],Pw.unc2 Pw.j2B⟩
def jcl:FnD where
 N:=54
 np:=2
 cs:=[RP,RQ]
 ds:=[⟨0,[sD (.list iT),sI,sI,sI,sI],[(.list iT),iT,iT,iT,iT],[⟨.exit 0,[sD (.list iT),sI,sI,sI],[(.list iT),iT,iT,iT]⟩],Pw.unc5 (Pw.j1n)⟩]
 keep:=[(0,⟨[0,1,6,7,8],[],[],[]⟩)]
 keepX:=[(0,.exit 0,⟨[0,1,6,7],[],[],[]⟩)]
theorem jbR:aG RR:=
 cOf aJ aK jcl RR Tryz.func83 (ja joz (ja jkd j)) (ja (λh=>by kernel_rfl) j)
end Go.Proofs.Pk
