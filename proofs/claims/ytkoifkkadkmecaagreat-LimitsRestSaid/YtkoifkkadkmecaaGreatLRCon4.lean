/- cB: each given function is its plain function, printed by a program. -/
import Derived.Test.YtkoifkkadkmecaaGreatLRCon3
open Bool renaming false->e,true->j
open _root_ renaming trivial->i
noncomputable section
open Go Go.Lft
set_option linter.unusedVariables false
set_option maxRecDepth 100000
namespace Go.Proofs.Pk
def Z3:Con:=⟨88,[.v aa],[aa],⟨[.own 58 aa],[]⟩,[aa],λh=>Pw.j43 h⟩
def jbi:FnD where
 N:=8
 np:=1
 ro:=[j]
theorem jb5:aH Z3:=
 Xg aK aM jbi 88 aO 58 Tryz.f88 (Tryz.f88.body.getD .skip) Tryz.func88 (by kernel_rfl) (by kernel_rfl) (Nat.le_of_ble_eq_true (by kernel_rfl)) (by kernel_rfl) i (by kernel_rfl)
  (λh R k=>by kernel_rfl)
def Kt:Con:=⟨89,[.v aO],[aO],⟨[.v .bool],[]⟩,[.bool],λh=>Pw.jaC h⟩
def joy:FnD where
 N:=8
 np:=1
theorem Z5:aH Kt:=
 cOf aK aM joy Kt Tryz.func89 i i
def Qr:Con:=⟨148,[.rl 58 aa,.clo 89 []],[aa],⟨[.v iT],[.rl aa]⟩,[iT,aa],λh=>Pw.j34 h⟩
def j9L:FnD where
 N:=19
 np:=2
 cs:=[Kt]
 ds:=[⟨0,[sO 0,sC 89 [],sI,sI,.b (.lst 58 aO e)],[iT,iT,aa],[⟨.ret,[sI,.b (.lst 58 aO e)],[iT,aa]⟩,⟨.exit 0,[.b (.lst 58 aO e)],[aa]⟩],Pw.unc3 (Pw.j0F)⟩]
 keep:=[(0,⟨[0,1,7,8],[0],[],[]⟩)]
 keepX:=[(0,.ret,⟨[4],[0],[],[]⟩),(0,.exit 0,⟨[],[0],[],[]⟩)]
theorem j9q:aH Qr:=
 cOf aK aM j9L Qr Tryz.func148 (ja Z5 i) (ja (λh=>by kernel_rfl) i)
def Qs:Con:=⟨87,[.rl 58 aa,.clo 89 []],[aa],⟨[.hd],[.rl aa]⟩,[iT,aa],λh=>Pw.j1S h⟩
def j9r:FnD where
 N:=42
 np:=2
 cs:=[Kt,Qr]
 ds:=[⟨0,[sO 0,sC 89 [],sI,sI,.b (.lst 58 aO e)],[iT,iT,aa],[⟨.exit 0,[sO 0,sI,.b (.lst 58 aO e)],[iT,aa]⟩],Pw.unc3 (Pw.j0z)⟩]
 modes:=[(148,[j,e])]
 keep:=[(0,⟨[0,1,5,6],[0],[],[]⟩)]
 keepX:=[(0,.exit 0,⟨[0,5],[0],[],[]⟩)]
 hd:=j
theorem j94:aH Qs:=
 cOf aK aM j9r Qs Tryz.func87 (ja Z5 (ja j9q i)) (ja (λh=>by kernel_rfl) i)
def Qt:Con:=⟨91,[.v aO,.v aO],[aO,aO],⟨[.v iT],[]⟩,[iT],Pw.unc2 Pw.j8U⟩
def joz:FnD where
 N:=10
 np:=2
theorem jyv:aH Qt:=
 cOf aK aM joz Qt Tryz.func91 i i
def Z6:Con:=⟨90,[.rl 58 aa,.clo 91 []],[aa],⟨[],[.rl aa]⟩,[aa],λh=>Pw.j1e h⟩
def jdX:FnD where
 N:=14
 np:=2
 cs:=[Qt]
theorem j52:aH Z6:=
 Ow Tryz.sort90 (aO) rfl 58 (by kernel_rfl) Tryz.isAgg58 Tryz.sizeOf58 _ 91 (enters_of Tryz.func91 (by kernel_rfl) rfl) jxO jxP 90 rfl
def yO:Con:=⟨55,[.v aa],[aa],⟨[.own 58 aa],[]⟩,[aa],λh=>Pw.j8V h⟩
def jts:FnD where
 N:=54
 np:=1
 cs:=[Z3,Qs,Z6]
 ds:=[⟨0,[sO 1000000,sO 1000001,sI,sI,.b (.lst 58 aO e),.b (.lst 58 aO e)],[iT,iT,aa,aa],[⟨.exit 0,[sO 1500100,.b (.lst 58 aO e)],[aa]⟩],Pw.unc4 (Pw.j4q)⟩]
 modes:=[(87,[j,e]),(90,[j,e])]
 keep:=[(0,⟨[4,13,14,15],[],[⟨1000000,58,aO,[.slot 4],e⟩,⟨1000001,58,aO,[.slot 13],e⟩],[]⟩)]
 keepX:=[(0,.exit 0,⟨[4],[],[⟨1500100,58,aO,[.slot 4],e⟩],[]⟩)]
 ro:=[j]
 dw:=[(9,[[],[],[],[],[],[],[],[],[],[],[],[],[],[],[1000000]])]
theorem CQ:aH yO:=
 cOf aK aM jts yO Tryz.func55 (ja jb5 (ja j94 (ja j52 i))) (ja (λh=>by kernel_rfl) i)
def Ku:Con:=⟨30,[.v cK,.v aa,.v iT,.v iT],[cK,aa,iT,iT],⟨[.own 58 aa],[]⟩,[aa],Pw.unc4 Pw.j2d⟩
def jpy:FnD where
 N:=73
 np:=4
 cs:=[Gt,yO]
 ds:=[⟨0,[sD aa,sO 1000000,sO 1000001,sI,sI,.b (.lst 58 aO e),.b (.lst 136 aJ e)],[aa,iT,iT,aa,au],[⟨.exit 0,[sO 1500100,.b (.lst 58 aO e)],[aa]⟩],Pw.unc5 (Pw.j4L)⟩,⟨2,[sD aa,sO 1002000,sB 704 0,sI,sO 1002001,sI,sI,.b (.cell [.d iT,.d iT,.d iT] e),.b (.lst 58 aO e),.b (.lst 136 aJ e)],[aa,iT,iT,iT,iT,iT,iT,aa,au],[⟨.exit 2,[sD aa,sO 1502300,sO 1502301,sI,sI,.b (.lst 58 aO e),.b (.lst 136 aJ e)],[aa,iT,iT,aa,au]⟩],Pw.unc9 (Pw.j4K)⟩,⟨4,[sD aa,sO 1004000,sB 704 0,sI,sO 1004001,sI,sI,sD aa,sI,sI,.b (.cell [.d iT,.d iT,.d iT] e),.b (.lst 58 aO e),.b (.lst 136 aJ e)],[aa,iT,iT,iT,aa,iT,iT,iT,iT,iT,aa,au],[⟨.exit 4,[sD aa,sO 1504500,sB 704 0,sI,sO 1504501,sI,sI,.b (.cell [.d iT,.d iT,.d iT] e),.b (.lst 58 aO e),.b (.lst 136 aJ e)],[aa,iT,iT,iT,iT,iT,iT,aa,au]⟩],Pw.u8 Pw.unc4 (Pw.j4J)⟩]
 keep:=[(0,⟨[1,9,19,20,21],[],[⟨1000000,58,aO,[.slot 9],e⟩,⟨1000001,136,aJ,[.slot 19],e⟩],[]⟩),(2,⟨[1,9,11,13,19,20,21],[704],[⟨1002000,58,aO,[.slot 9],e⟩,⟨1002001,136,aJ,[.slot 19],e⟩],[]⟩),(4,⟨[1,9,11,13,19,20,21,45,46,47],[704],[⟨1004000,58,aO,[.slot 9],e⟩,⟨1004001,136,aJ,[.slot 19],e⟩],[]⟩)]
 keepX:=[(0,.exit 0,⟨[9],[],[⟨1500100,58,aO,[.slot 9],e⟩],[]⟩),(2,.exit 2,⟨[1,9,19,20,21],[],[⟨1502300,58,aO,[.slot 9],e⟩,⟨1502301,136,aJ,[.slot 19],e⟩],[]⟩),(4,.exit 4,⟨[1,9,11,13,19,20,21],[704],[⟨1504500,58,aO,[.slot 9],e⟩,⟨1504501,136,aJ,[.slot 19],e⟩],[]⟩)]
 ro:=[j]
theorem Z7:aH Ku:=
 cOf aK aM jpy Ku Tryz.func30 (ja Qn (ja CQ i)) (ja (λh=>by kernel_rfl) (ja (λh=>by kernel_rfl) (ja (λh=>by kernel_rfl) i)))
def Qu:Con:=⟨224,[.v eZ,.v fE,.v iT,.v iT],[eZ,fE,iT,iT],⟨[.own 58 aa],[]⟩,[aa],Pw.unc4 Pw.j2C⟩
def jmX:FnD where
 N:=58
 np:=4
 cs:=[Gt,yO]
 ds:=[⟨0,[sB 320 0,sO 1000000,sO 1000001,sI,sI,.b (.cell [.d .str,.d iT,.d (.list iT)] e),.b (.lst 58 aO e),.b (.lst 136 aJ e)],[iT,iT,.str,iT,(.list iT),aa,au],[⟨.exit 0,[sO 1500100,.b (.lst 58 aO e)],[aa]⟩],Pw.unc7 (Pw.j3H)⟩,⟨2,[sB 320 0,sO 1002000,sB 704 0,sO 1002001,sI,sI,sD (.list iT),sI,sI,.b (.cell [.d .str,.d iT,.d (.list iT)] e),.b (.cell [.d iT,.d iT,.d iT] e),.b (.lst 58 aO e),.b (.lst 136 aJ e)],[iT,iT,(.list iT),iT,iT,.str,iT,(.list iT),iT,iT,iT,aa,au],[⟨.exit 2,[sB 320 0,sO 1502300,sO 1502301,sI,sI,.b (.cell [.d .str,.d iT,.d (.list iT)] e),.b (.lst 58 aO e),.b (.lst 136 aJ e)],[iT,iT,.str,iT,(.list iT),aa,au]⟩],Pw.u8 Pw.unc5 (Pw.j3G)⟩]
 keep:=[(0,⟨[5,9,23,24,25],[320],[⟨1000000,58,aO,[.slot 9],e⟩,⟨1000001,136,aJ,[.slot 23],e⟩],[]⟩),(2,⟨[5,9,11,23,24,25,30,31,32],[320,704],[⟨1002000,58,aO,[.slot 9],e⟩,⟨1002001,136,aJ,[.slot 23],e⟩],[]⟩)]
 keepX:=[(0,.exit 0,⟨[9],[],[⟨1500100,58,aO,[.slot 9],e⟩],[]⟩),(2,.exit 2,⟨[5,9,23,24,25],[320],[⟨1502300,58,aO,[.slot 9],e⟩,⟨1502301,136,aJ,[.slot 23],e⟩],[]⟩)]
 ro:=[j]
theorem jmd:aH Qu:=
 cOf aK aM jmX Qu Tryz.func224 (ja Qn (ja CQ i)) (ja (λh=>by kernel_rfl) (ja (λh=>by kernel_rfl) i))
def Gv:Con:=⟨141,[.v aa,.v aa],[aa,aa],⟨[.own 58 aa],[]⟩,[aa],Pw.unc2 Pw.j3A⟩
def jpz:FnD where
 N:=89
 np:=2
 ds:=[⟨0,[sD aa,sO 1000000,sI,sD aa,sI,sI,.b (.lst 58 aO e)],[aa,iT,aa,iT,iT,aa],[⟨.exit 0,[sO 1500100,.b (.lst 58 aO e)],[aa]⟩],Pw.unc6 (Pw.j4O)⟩,⟨2,[sD aa,sO 1002000,sI,sB 512 0,sD aa,sI,sI,.b (.cell [.d iT,.d iT] e),.b (.lst 58 aO e)],[aa,iT,aa,iT,iT,iT,iT,aa],[⟨.exit 2,[sD aa,sO 1502300,sI,sB 512 0,sD aa,sI,sI,.b (.cell [.d iT,.d iT] e),.b (.lst 58 aO e)],[aa,iT,aa,iT,iT,iT,iT,aa]⟩],Pw.unc8 (Pw.j4M)⟩,⟨4,[sD aa,sO 1004000,sI,sB 512 0,sI,sI,sD aa,sI,sI,.b (.cell [.d iT,.d iT] e),.b (.lst 58 aO e)],[aa,iT,iT,iT,aa,iT,iT,iT,iT,aa],[⟨.exit 4,[sD aa,sO 1504500,sI,sB 512 0,sI,sD aa,sI,sI,.b (.cell [.d iT,.d iT] e),.b (.lst 58 aO e)],[aa,iT,iT,aa,iT,iT,iT,iT,aa]⟩],Pw.u8 Pw.unc2 (Pw.j4N)⟩]
 keep:=[(0,⟨[1,5,6,11,12,13],[],[⟨1000000,58,aO,[.slot 5],e⟩],[]⟩),(2,⟨[1,5,6,8,11,12,13],[512],[⟨1002000,58,aO,[.slot 5],e⟩],[]⟩),(4,⟨[1,5,6,8,9,10,11,12,13],[512],[⟨1004000,58,aO,[.slot 5],e⟩],[]⟩)]
 keepX:=[(0,.exit 0,⟨[5],[],[⟨1500100,58,aO,[.slot 5],e⟩],[]⟩),(2,.exit 2,⟨[1,5,6,8,11,12,13],[512],[⟨1502300,58,aO,[.slot 5],e⟩],[]⟩),(4,.exit 4,⟨[1,5,6,8,9,11,12,13],[512],[⟨1504500,58,aO,[.slot 5],e⟩],[]⟩)]
 ro:=[j]
theorem Qv:aH Gv:=
 cOf aK aM jpz Gv Tryz.func141 i (ja (λh=>by kernel_rfl) (ja (λh=>by kernel_rfl) (ja (λh=>by kernel_rfl) i)))
def Kv:Con:=⟨29,[.v aa,.v aa],[aa,aa],⟨[.own 58 aa],[]⟩,[aa],Pw.unc2 Pw.j6o⟩
def jrE:FnD where
 N:=67
 np:=2
 ds:=[⟨0,[sD aa,sD aa,sO 1000000,sI,sI,.b (.lst 58 aO e)],[aa,aa,iT,iT,aa],[⟨.exit 0,[sO 1500100,.b (.lst 58 aO e)],[aa]⟩],Pw.unc5 (Pw.j7d)⟩]
 keep:=[(0,⟨[0,1,5,6,7],[],[⟨1000000,58,aO,[.slot 5],e⟩],[]⟩)]
 keepX:=[(0,.exit 0,⟨[5],[],[⟨1500100,58,aO,[.slot 5],e⟩],[]⟩)]
 ro:=[j]
 dw:=[(4,[[],[],[],[],[],[],[],[],[],[],[],[],[],[],[],[],[],[],[],[],[],[],[],[512],[512]])]
theorem Z8:aH Kv:=
 cOf aK aM jrE Kv Tryz.func29 i (ja (λh=>by kernel_rfl) i)
def Qw:Con:=⟨187,[.v eZ,.v bT,.v iT,.v iT],[eZ,bT,iT,iT],⟨[.own 58 aa],[]⟩,[aa],Pw.unc4 Pw.j8s⟩
def jme:FnD where
 N:=90
 np:=4
 cs:=[Gu,Ku,Qu,Gv,Kv]
 ro:=[j]
 dw:=[(7,[[],[],[],[],[],[],[],[],[],[],[3584],[]]),(10,[[],[],[],[],[],[],[],[],[],[],[],[4608],[4672],[]]),(12,[[],[],[],[],[],[],[],[],[],[],[],[5568],[5632],[]])]
theorem jlv:aH Qw:=
 cOf aK aM jme Qw Tryz.func187 (ja Qq (ja Z7 (ja jmd (ja Qv (ja Z8 i))))) i
def Qx:Con:=⟨80,[.v cK,.v iT],[cK,iT],⟨[.v iT],[]⟩,[iT],Pw.unc2 Pw.j8W⟩
def jko:FnD where
 N:=10
 np:=2
 cs:=[Kr,Ks]
theorem jjp:aH Qx:=
 cOf aK aM jko Qx Tryz.func80 (ja Z1 (ja Z2 i)) i
def Qy:Con:=⟨79,[.v iT],[iT],⟨[.v aO],[]⟩,[aO],λh=>Pw.jj5 h⟩
def jtt:FnD where
 N:=17
 np:=1
theorem jrF:aH Qy:=
 cOf aK aM jtt Qy Tryz.func79 i i
def Kw:Con:=⟨48,[.v cK,.v iT],[cK,iT],⟨[.v aO],[]⟩,[aO],Pw.unc2 Pw.j1n⟩
def jlw:FnD where
 N:=11
 np:=2
 cs:=[Qx,Qy]
theorem Z9:aH Kw:=
 cOf aK aM jlw Kw Tryz.func48 (ja jjp (ja jrF i)) i
def Qz:Con:=⟨188,[.v cK,.v bT,.v iT],[cK,bT,iT],⟨[.v iT],[]⟩,[iT],Pw.unc3 Pw.j4W⟩
def joA:FnD where
 N:=84
 np:=3
 cs:=[Kq,Gu,Kw]
 ds:=[⟨0,[sI,sB 192 0,sB 256 0,sI,.b (.cell [.d iT,.d aa] e),.b (.cell [.d .str,.d iT,.d iT,.d iT,.d iT,.d iT,.d (.list iT),.d aa,.d iT,.d iT] e)],[iT,iT,iT,aa,.str,iT,iT,iT,iT,iT,(.list iT),aa,iT,iT],[⟨.exit 0,[sI,sB 192 0,sB 256 0,sI,.b (.cell [.d iT,.d aa] e),.b (.cell [.d .str,.d iT,.d iT,.d iT,.d iT,.d iT,.d (.list iT),.d aa,.d iT,.d iT] e)],[iT,iT,iT,aa,.str,iT,iT,iT,iT,iT,(.list iT),aa,iT,iT]⟩],Pw.u8 Pw.unc6 (Pw.j44)⟩,⟨2,[sI,sB 192 0,sB 256 0,sI,.b (.cell [.d iT,.d aa] e),.b (.cell [.d .str,.d iT,.d iT,.d iT,.d iT,.d iT,.d (.list iT),.d aa,.d iT,.d iT] e)],[iT,iT,iT,aa,.str,iT,iT,iT,iT,iT,(.list iT),aa,iT,iT],[⟨.ret,[sI],[iT]⟩],Pw.u8 Pw.unc6 (Pw.j5Y)⟩]
 keep:=[(0,⟨[2,3,4,9],[192,256],[],[]⟩),(2,⟨[2,3,4,9],[192,256],[],[]⟩)]
 keepX:=[(0,.exit 0,⟨[2,3,4,9],[192,256],[],[]⟩),(2,.ret,⟨[6],[],[],[]⟩)]
theorem jmY:aH Qz:=
 cOf aK aM joA Qz Tryz.func188 (ja Z0 (ja Qq (ja Z9 i))) (ja (λh=>by kernel_rfl) (ja (λh=>by kernel_rfl) i))
def Gw:Con:=⟨86,[.v au],[au],⟨[.own 143 au],[]⟩,[au],λh=>Pw.jbK h⟩
def jtu:FnD where
 N:=57
 np:=1
 ds:=[⟨0,[sO 1000000,sD au,sI,sI,.b (.lst 143 aJ e)],[au,iT,iT,au],[⟨.exit 0,[sO 1500100,.b (.lst 143 aJ e)],[au]⟩],Pw.unc4 (Pw.j5Z)⟩]
 keep:=[(0,⟨[3,7,8,9],[],[⟨1000000,143,aJ,[.slot 3],e⟩],[]⟩)]
 keepX:=[(0,.exit 0,⟨[3],[],[⟨1500100,143,aJ,[.slot 3],e⟩],[]⟩)]
 ro:=[j]
theorem QA:aH Gw:=
 cOf aK aM jtu Gw Tryz.func86 i (ja (λh=>by kernel_rfl) i)
def QB:Con:=⟨140,[.v eZ,.v bT,.v iT,.v iT],[eZ,bT,iT,iT],⟨[.own 143 au],[]⟩,[au],Pw.unc4 Pw.j2u⟩
def jjq:FnD where
 N:=95
 np:=4
 cs:=[Gu,Qw,Qz,Gw]
 ds:=[⟨0,[sI,sB 320 0,sO 1000000,sB 640 0,sI,sI,sI,sO 1000001,sI,sI,.b (.cell [.d .str,.d iT,.d iT,.d iT,.d iT,.d iT,.d (.list iT),.d aa,.d iT,.d iT] e),.b (.cell [.d iT,.d aa] e),.b (.lst 143 aJ e),.b (.lst 58 aO e)],[iT,iT,iT,iT,iT,iT,.str,iT,iT,iT,iT,iT,(.list iT),aa,iT,iT,iT,aa,au,aa],[⟨.exit 0,[sI,sO 1500100,sI,.b (.lst 143 aJ e)],[iT,iT,au]⟩],Pw.u8 (Pw.u8 Pw.unc4) (Pw.j2p)⟩,⟨2,[sI,sB 320 0,sO 1002000,sB 640 0,sI,sI,sI,sB 960 0,sO 1002001,sI,sI,.b (.cell [.d .str,.d iT,.d iT,.d iT,.d iT,.d iT,.d (.list iT),.d aa,.d iT,.d iT] e),.b (.cell [.d iT,.d aa] e),.b (.cell [.d iT,.d iT] e),.b (.lst 143 aJ e),.b (.lst 58 aO e)],[iT,iT,iT,iT,iT,iT,.str,iT,iT,iT,iT,iT,(.list iT),aa,iT,iT,iT,aa,iT,iT,au,aa],[⟨.exit 2,[sI,sB 320 0,sO 1502300,sB 640 0,sI,sI,sI,sO 1502301,sI,sI,.b (.cell [.d .str,.d iT,.d iT,.d iT,.d iT,.d iT,.d (.list iT),.d aa,.d iT,.d iT] e),.b (.cell [.d iT,.d aa] e),.b (.lst 143 aJ e),.b (.lst 58 aO e)],[iT,iT,iT,iT,iT,iT,.str,iT,iT,iT,iT,iT,(.list iT),aa,iT,iT,iT,aa,au,aa]⟩],Pw.u8 (Pw.u8 Pw.unc6) (Pw.j3D)⟩]
 keep:=[(0,⟨[3,5,9,10,11,12,13,30,31,32],[320,640],[⟨1000000,143,aJ,[.slot 9],e⟩,⟨1000001,58,aO,[.slot 30],e⟩],[]⟩),(2,⟨[3,5,9,10,11,12,13,15,30,31,32],[320,640,960],[⟨1002000,143,aJ,[.slot 9],e⟩,⟨1002001,58,aO,[.slot 30],e⟩],[]⟩)]
 keepX:=[(0,.exit 0,⟨[3,9,11],[],[⟨1500100,143,aJ,[.slot 9],e⟩],[]⟩),(2,.exit 2,⟨[3,5,9,10,11,12,13,30,31,32],[320,640],[⟨1502300,143,aJ,[.slot 9],e⟩,⟨1502301,58,aO,[.slot 30],e⟩],[]⟩)]
 ro:=[j]
 dw:=[(17,[[],[],[],[],[],[],[],[],[],[],[],[],[],[5376],[5440,1002000],[]])]
theorem jiA:aH QB:=
 cOf aK aM jjq QB Tryz.func140 (ja Qq (ja jlv (ja jmY (ja QA i)))) (ja (λh=>by kernel_rfl) (ja (λh=>by kernel_rfl) i))
def QC:Con:=⟨186,[.v cZ,.v iT],[cZ,iT],⟨[.own 58 aa],[]⟩,[aa],Pw.unc2 Pw.j8u⟩
def jpA:FnD where
 N:=35
 np:=2
 cs:=[yO]
 ds:=[⟨0,[sI,sO 1000000,sD an,sI,sI,.b (.lst 58 aO e)],[iT,an,iT,iT,aa],[⟨.exit 0,[sO 1500100,.b (.lst 58 aO e)],[aa]⟩],Pw.unc5 (Pw.j4P)⟩]
 keep:=[(0,⟨[1,5,9,10,11],[],[⟨1000000,58,aO,[.slot 5],e⟩],[]⟩)]
 keepX:=[(0,.exit 0,⟨[5],[],[⟨1500100,58,aO,[.slot 5],e⟩],[]⟩)]
 ro:=[j]
theorem joB:aH QC:=
 cOf aK aM jpA QC Tryz.func186 (ja CQ i) (ja (λh=>by kernel_rfl) i)
def QD:Con:=⟨139,[.v cZ,.v au],[cZ,au],⟨[.own 143 au],[]⟩,[au],Pw.unc2 Pw.jaI⟩
def joC:FnD where
 N:=68
 np:=2
 cs:=[Gv,QC]
 ds:=[⟨0,[sB 128 0,sO 1000000,sO 1000001,sD au,sI,sI,.b (.cell [.d .str,.d bM,.d an] e),.b (.lst 4294967537 cK e),.b (.lst 143 aJ e)],[au,iT,iT,.str,bM,an,fF,au],[⟨.exit 0,[sO 1500100,.b (.lst 143 aJ e)],[au]⟩],Pw.unc8 (Pw.j48)⟩,⟨2,[sB 128 0,sO 1002000,sO 1002001,sB 512 0,sD au,sI,sI,sO 1002002,sI,sI,.b (.cell [.d .str,.d bM,.d an] e),.b (.cell [.d iT,.d iT,.d iT] e),.b (.lst 4294967537 cK e),.b (.lst 143 aJ e),.b (.lst 58 aO e)],[au,iT,iT,iT,iT,.str,bM,an,iT,iT,iT,fF,au,aa],[⟨.exit 2,[sB 128 0,sO 1502300,sO 1502301,sD au,sI,sI,.b (.cell [.d .str,.d bM,.d an] e),.b (.lst 4294967537 cK e),.b (.lst 143 aJ e)],[au,iT,iT,.str,bM,an,fF,au]⟩],Pw.u8 Pw.unc6 (Pw.j47)⟩]
 keep:=[(0,⟨[2,5,6,14,15,16],[128],[⟨1000000,4294967537,cK,[.slot 5],e⟩,⟨1000001,143,aJ,[.slot 6],e⟩],[]⟩),(2,⟨[2,5,6,8,14,15,16,49,50,51],[128,512],[⟨1002000,4294967537,cK,[.slot 5],e⟩,⟨1002001,143,aJ,[.slot 6],e⟩,⟨1002002,58,aO,[.slot 49],e⟩],[]⟩)]
 keepX:=[(0,.exit 0,⟨[6],[],[⟨1500100,143,aJ,[.slot 6],e⟩],[]⟩),(2,.exit 2,⟨[2,5,6,14,15,16],[128],[⟨1502300,4294967537,cK,[.slot 5],e⟩,⟨1502301,143,aJ,[.slot 6],e⟩],[]⟩)]
 ro:=[j]
 dw:=[(9,[[],[],[],[],[],[],[2432],[2432,1000000]])]
theorem jmZ:aH QD:=
 cOf aK aM joC QD Tryz.func139 (ja Qv (ja joB i)) (ja (λh=>by kernel_rfl) (ja (λh=>by kernel_rfl) i))
end Go.Proofs.Pk
