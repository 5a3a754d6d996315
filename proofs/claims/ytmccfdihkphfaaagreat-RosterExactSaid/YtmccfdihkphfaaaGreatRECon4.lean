/- cb: each given function is its plain function, printed by a program. -/
import Derived.Test.YtmccfdihkphfaaaGreatRECon3
open Bool renaming false->e,true->j
open _root_ renaming trivial->i
noncomputable section
open Go Go.Lft
set_option linter.unusedVariables false
set_option maxRecDepth 100000
namespace Go.Proofs.Pk
def Qh:Con:=⟨141,[.v df,.v aT],[df,aT],⟨[.v iT,.v .bool],[]⟩,[iT,.bool],Pw.unc2 Pw.j2X⟩
def jkB:FnD where
 N:=30
 np:=2
 cs:=[FW,Qg]
 ds:=[⟨0,[sB 192 0,sO 1000000,sI,sI,.b (.cell [.d iT,.d iT] e),.b (.lst 205 aF e)],[iT,iT,iT,iT,aH],[⟨.ret,[sI,sD .bool],[iT,.bool]⟩,⟨.exit 0,[],[]⟩],Pw.unc5 (Pw.j1r)⟩]
 keep:=[(0,⟨[3,10,11,12],[192],[⟨1000000,205,aF,[.slot 10],e⟩],[]⟩)]
 keepX:=[(0,.ret,⟨[4,5],[],[],[]⟩)]
theorem jjq:aM Qh:=
 cOf aN aO jkB Qh Tryz.func141 (ja Qf (ja jo4 i)) (ja (λh=>by kernel_rfl) i)
def FX:Con:=⟨140,[.v df,.v bD,.v iT],[df,bD,iT],⟨[.v iT,.v .bool],[]⟩,[iT,.bool],Pw.unc3 Pw.j0V⟩
def jkC:FnD where
 N:=50
 np:=3
 cs:=[Kg,Qh]
 dw:=[(5,[[],[],[],[],[],[],[],[],[512]])]
theorem Qi:aM FX:=
 cOf aN aO jkC FX Tryz.func140 (ja ZG (ja jjq i)) i
def ZJ:Con:=⟨184,[.v af],[af],⟨[.own 59 af],[]⟩,[af],λh=>Pw.j3v h⟩
def jah:FnD where
 N:=8
 np:=1
 ro:=[j]
theorem ja7:aM ZJ:=
 WZ aN aO jah 184 aT 59 Tryz.f184 (Tryz.f184.body.getD .skip) Tryz.func184 (by kernel_rfl) (by kernel_rfl) (vq (by kernel_rfl)) (by kernel_rfl) i (by kernel_rfl)
  (λh R k=>by kernel_rfl)
def Kj:Con:=⟨185,[.v aT],[aT],⟨[.v .bool],[]⟩,[.bool],λh=>Pw.j9E h⟩
def jo5:FnD where
 N:=8
 np:=1
theorem ZK:aM Kj:=
 cOf aN aO jo5 Kj Tryz.func185 i i
def Qj:Con:=⟨245,[.rl 59 af,.clo 185 []],[af],⟨[.v iT],[.rl af]⟩,[iT,af],λh=>Pw.j2B h⟩
def j8A:FnD where
 N:=19
 np:=2
 cs:=[Kj]
 ds:=[⟨0,[sO 0,sC 185 [],sI,sI,.b (.lst 59 aT e)],[iT,iT,af],[⟨.ret,[sI,.b (.lst 59 aT e)],[iT,af]⟩,⟨.exit 0,[.b (.lst 59 aT e)],[af]⟩],Pw.unc3 (Pw.j0x)⟩]
 keep:=[(0,⟨[0,1,7,8],[0],[],[]⟩)]
 keepX:=[(0,.ret,⟨[4],[0],[],[]⟩),(0,.exit 0,⟨[],[0],[],[]⟩)]
theorem j8j:aM Qj:=
 cOf aN aO j8A Qj Tryz.func245 (ja ZK i) (ja (λh=>by kernel_rfl) i)
def Qk:Con:=⟨183,[.rl 59 af,.clo 185 []],[af],⟨[.hd],[.rl af]⟩,[iT,af],λh=>Pw.j1A h⟩
def j8k:FnD where
 N:=42
 np:=2
 cs:=[Kj,Qj]
 ds:=[⟨0,[sO 0,sC 185 [],sI,sI,.b (.lst 59 aT e)],[iT,iT,af],[⟨.exit 0,[sO 0,sI,.b (.lst 59 aT e)],[iT,af]⟩],Pw.unc3 (Pw.j0t)⟩]
 modes:=[(245,[j,e])]
 keep:=[(0,⟨[0,1,5,6],[0],[],[]⟩)]
 keepX:=[(0,.exit 0,⟨[0,5],[0],[],[]⟩)]
 hd:=j
theorem j7Z:aM Qk:=
 cOf aN aO j8k Qk Tryz.func183 (ja ZK (ja j8j i)) (ja (λh=>by kernel_rfl) i)
def Ql:Con:=⟨187,[.v aT,.v aT],[aT,aT],⟨[.v iT],[]⟩,[iT],Pw.unc2 Pw.j7O⟩
def jo6:FnD where
 N:=10
 np:=2
theorem jxW:aM Ql:=
 cOf aN aO jo6 Ql Tryz.func187 i i
def ZL:Con:=⟨186,[.rl 59 af,.clo 187 []],[af],⟨[],[.rl af]⟩,[af],λh=>Pw.j12 h⟩
def jcI:FnD where
 N:=14
 np:=2
 cs:=[Ql]
theorem j4q:aM ZL:=
 Xr Tryz.sort186 (aT) rfl 59 (by kernel_rfl) Tryz.isAgg59 Tryz.sizeOf59 _ 187 (enters_of Tryz.func187 (by kernel_rfl) rfl) juq jur 186 rfl
def Ao:Con:=⟨128,[.v af],[af],⟨[.own 59 af],[]⟩,[af],λh=>Pw.j9h h⟩
def jsX:FnD where
 N:=54
 np:=1
 cs:=[ZJ,Qk,ZL]
 ds:=[⟨0,[sO 1000000,sO 1000001,sI,sI,.b (.lst 59 aT e),.b (.lst 59 aT e)],[iT,iT,af,af],[⟨.exit 0,[sO 1500100,.b (.lst 59 aT e)],[af]⟩],Pw.unc4 (Pw.j3U)⟩]
 modes:=[(183,[j,e]),(186,[j,e])]
 keep:=[(0,⟨[4,13,14,15],[],[⟨1000000,59,aT,[.slot 4],e⟩,⟨1000001,59,aT,[.slot 13],e⟩],[]⟩)]
 keepX:=[(0,.exit 0,⟨[4],[],[⟨1500100,59,aT,[.slot 4],e⟩],[]⟩)]
 ro:=[j]
 dw:=[(9,[[],[],[],[],[],[],[],[],[],[],[],[],[],[],[1000000]])]
theorem FY:aM Ao:=
 cOf aN aO jsX Ao Tryz.func128 (ja ja7 (ja j7Z (ja j4q i))) (ja (λh=>by kernel_rfl) i)
def Qm:Con:=⟨91,[.v df,.v af,.v iT,.v iT],[df,af,iT,iT],⟨[.own 59 af],[]⟩,[af],Pw.unc4 Pw.j6b⟩
def joZ:FnD where
 N:=73
 np:=4
 cs:=[FW,Ao]
 ds:=[⟨0,[sD af,sO 1000000,sO 1000001,sI,sI,.b (.lst 59 aT e),.b (.lst 205 aF e)],[af,iT,iT,af,aH],[⟨.exit 0,[sO 1500100,.b (.lst 59 aT e)],[af]⟩],Pw.unc5 (Pw.j4c)⟩,⟨2,[sD af,sO 1002000,sB 704 0,sI,sO 1002001,sI,sI,.b (.cell [.d iT,.d iT,.d iT] e),.b (.lst 59 aT e),.b (.lst 205 aF e)],[af,iT,iT,iT,iT,iT,iT,af,aH],[⟨.exit 2,[sD af,sO 1502300,sO 1502301,sI,sI,.b (.lst 59 aT e),.b (.lst 205 aF e)],[af,iT,iT,af,aH]⟩],Pw.unc9 (Pw.j4b)⟩,⟨4,[sD af,sO 1004000,sB 704 0,sI,sO 1004001,sI,sI,sD af,sI,sI,.b (.cell [.d iT,.d iT,.d iT] e),.b (.lst 59 aT e),.b (.lst 205 aF e)],[af,iT,iT,iT,af,iT,iT,iT,iT,iT,af,aH],[⟨.exit 4,[sD af,sO 1504500,sB 704 0,sI,sO 1504501,sI,sI,.b (.cell [.d iT,.d iT,.d iT] e),.b (.lst 59 aT e),.b (.lst 205 aF e)],[af,iT,iT,iT,iT,iT,iT,af,aH]⟩],Pw.u8 Pw.unc4 (Pw.j4a)⟩]
 keep:=[(0,⟨[1,9,19,20,21],[],[⟨1000000,59,aT,[.slot 9],e⟩,⟨1000001,205,aF,[.slot 19],e⟩],[]⟩),(2,⟨[1,9,11,13,19,20,21],[704],[⟨1002000,59,aT,[.slot 9],e⟩,⟨1002001,205,aF,[.slot 19],e⟩],[]⟩),(4,⟨[1,9,11,13,19,20,21,45,46,47],[704],[⟨1004000,59,aT,[.slot 9],e⟩,⟨1004001,205,aF,[.slot 19],e⟩],[]⟩)]
 keepX:=[(0,.exit 0,⟨[9],[],[⟨1500100,59,aT,[.slot 9],e⟩],[]⟩),(2,.exit 2,⟨[1,9,19,20,21],[],[⟨1502300,59,aT,[.slot 9],e⟩,⟨1502301,205,aF,[.slot 19],e⟩],[]⟩),(4,.exit 4,⟨[1,9,11,13,19,20,21],[704],[⟨1504500,59,aT,[.slot 9],e⟩,⟨1504501,205,aF,[.slot 19],e⟩],[]⟩)]
 ro:=[j]
theorem jo7:aM Qm:=
 cOf aN aO joZ Qm Tryz.func91 (ja Qf (ja FY i)) (ja (λh=>by kernel_rfl) (ja (λh=>by kernel_rfl) (ja (λh=>by kernel_rfl) i)))
def Qn:Con:=⟨285,[.v dX,.v fm,.v iT,.v iT],[dX,fm,iT,iT],⟨[.own 59 af],[]⟩,[af],Pw.unc4 Pw.j2g⟩
def jmo:FnD where
 N:=58
 np:=4
 cs:=[FW,Ao]
 ds:=[⟨0,[sB 320 0,sO 1000000,sO 1000001,sI,sI,.b (.cell [.d .str,.d iT,.d (.list iT)] e),.b (.lst 59 aT e),.b (.lst 205 aF e)],[iT,iT,.str,iT,(.list iT),af,aH],[⟨.exit 0,[sO 1500100,.b (.lst 59 aT e)],[af]⟩],Pw.unc7 (Pw.j37)⟩,⟨2,[sB 320 0,sO 1002000,sB 704 0,sO 1002001,sI,sI,sD (.list iT),sI,sI,.b (.cell [.d .str,.d iT,.d (.list iT)] e),.b (.cell [.d iT,.d iT,.d iT] e),.b (.lst 59 aT e),.b (.lst 205 aF e)],[iT,iT,(.list iT),iT,iT,.str,iT,(.list iT),iT,iT,iT,af,aH],[⟨.exit 2,[sB 320 0,sO 1502300,sO 1502301,sI,sI,.b (.cell [.d .str,.d iT,.d (.list iT)] e),.b (.lst 59 aT e),.b (.lst 205 aF e)],[iT,iT,.str,iT,(.list iT),af,aH]⟩],Pw.u8 Pw.unc5 (Pw.j36)⟩]
 keep:=[(0,⟨[5,9,23,24,25],[320],[⟨1000000,59,aT,[.slot 9],e⟩,⟨1000001,205,aF,[.slot 23],e⟩],[]⟩),(2,⟨[5,9,11,23,24,25,30,31,32],[320,704],[⟨1002000,59,aT,[.slot 9],e⟩,⟨1002001,205,aF,[.slot 23],e⟩],[]⟩)]
 keepX:=[(0,.exit 0,⟨[9],[],[⟨1500100,59,aT,[.slot 9],e⟩],[]⟩),(2,.exit 2,⟨[5,9,23,24,25],[320],[⟨1502300,59,aT,[.slot 9],e⟩,⟨1502301,205,aF,[.slot 23],e⟩],[]⟩)]
 ro:=[j]
theorem jlw:aM Qn:=
 cOf aN aO jmo Qn Tryz.func285 (ja Qf (ja FY i)) (ja (λh=>by kernel_rfl) (ja (λh=>by kernel_rfl) i))
def FZ:Con:=⟨171,[.v af,.v af],[af,af],⟨[.own 59 af],[]⟩,[af],Pw.unc2 Pw.j2Y⟩
def jp0:FnD where
 N:=89
 np:=2
 ds:=[⟨0,[sD af,sO 1000000,sI,sD af,sI,sI,.b (.lst 59 aT e)],[af,iT,af,iT,iT,af],[⟨.exit 0,[sO 1500100,.b (.lst 59 aT e)],[af]⟩],Pw.unc6 (Pw.j4f)⟩,⟨2,[sD af,sO 1002000,sI,sB 512 0,sD af,sI,sI,.b (.cell [.d iT,.d iT] e),.b (.lst 59 aT e)],[af,iT,af,iT,iT,iT,iT,af],[⟨.exit 2,[sD af,sO 1502300,sI,sB 512 0,sD af,sI,sI,.b (.cell [.d iT,.d iT] e),.b (.lst 59 aT e)],[af,iT,af,iT,iT,iT,iT,af]⟩],Pw.unc8 (Pw.j4d)⟩,⟨4,[sD af,sO 1004000,sI,sB 512 0,sI,sI,sD af,sI,sI,.b (.cell [.d iT,.d iT] e),.b (.lst 59 aT e)],[af,iT,iT,iT,af,iT,iT,iT,iT,af],[⟨.exit 4,[sD af,sO 1504500,sI,sB 512 0,sI,sD af,sI,sI,.b (.cell [.d iT,.d iT] e),.b (.lst 59 aT e)],[af,iT,iT,af,iT,iT,iT,iT,af]⟩],Pw.u8 Pw.unc2 (Pw.j4e)⟩]
 keep:=[(0,⟨[1,5,6,11,12,13],[],[⟨1000000,59,aT,[.slot 5],e⟩],[]⟩),(2,⟨[1,5,6,8,11,12,13],[512],[⟨1002000,59,aT,[.slot 5],e⟩],[]⟩),(4,⟨[1,5,6,8,9,10,11,12,13],[512],[⟨1004000,59,aT,[.slot 5],e⟩],[]⟩)]
 keepX:=[(0,.exit 0,⟨[5],[],[⟨1500100,59,aT,[.slot 5],e⟩],[]⟩),(2,.exit 2,⟨[1,5,6,8,11,12,13],[512],[⟨1502300,59,aT,[.slot 5],e⟩],[]⟩),(4,.exit 4,⟨[1,5,6,8,9,11,12,13],[512],[⟨1504500,59,aT,[.slot 5],e⟩],[]⟩)]
 ro:=[j]
theorem Qo:aM FZ:=
 cOf aN aO jp0 FZ Tryz.func171 i (ja (λh=>by kernel_rfl) (ja (λh=>by kernel_rfl) (ja (λh=>by kernel_rfl) i)))
def Qp:Con:=⟨90,[.v af,.v af],[af,af],⟨[.own 59 af],[]⟩,[af],Pw.unc2 Pw.jcQ⟩
def jrc:FnD where
 N:=67
 np:=2
 ds:=[⟨0,[sD af,sD af,sO 1000000,sI,sI,.b (.lst 59 aT e)],[af,af,iT,iT,af],[⟨.exit 0,[sO 1500100,.b (.lst 59 aT e)],[af]⟩],Pw.unc5 (Pw.j6k)⟩]
 keep:=[(0,⟨[0,1,5,6,7],[],[⟨1000000,59,aT,[.slot 5],e⟩],[]⟩)]
 keepX:=[(0,.exit 0,⟨[5],[],[⟨1500100,59,aT,[.slot 5],e⟩],[]⟩)]
 ro:=[j]
 dw:=[(4,[[],[],[],[],[],[],[],[],[],[],[],[],[],[],[],[],[],[],[],[],[],[],[],[512],[512]])]
theorem jp1:aM Qp:=
 cOf aN aO jrc Qp Tryz.func90 i (ja (λh=>by kernel_rfl) i)
def Qq:Con:=⟨235,[.v dX,.v bD,.v iT,.v iT],[dX,bD,iT,iT],⟨[.own 59 af],[]⟩,[af],Pw.unc4 Pw.j7n⟩
def jlx:FnD where
 N:=90
 np:=4
 cs:=[FX,Qm,Qn,FZ,Qp]
 ro:=[j]
 dw:=[(7,[[],[],[],[],[],[],[],[],[],[],[3584],[]]),(10,[[],[],[],[],[],[],[],[],[],[],[],[4608],[4672],[]]),(12,[[],[],[],[],[],[],[],[],[],[],[],[5568],[5632],[]])]
theorem jkD:aM Qq:=
 cOf aN aO jlx Qq Tryz.func235 (ja Qi (ja jo7 (ja jlw (ja Qo (ja jp1 i))))) i
def Qr:Con:=⟨159,[.v df,.v iT],[df,iT],⟨[.v iT],[]⟩,[iT],Pw.unc2 Pw.j7P⟩
def jjr:FnD where
 N:=10
 np:=2
 cs:=[Kh,Ki]
theorem jiq:aM Qr:=
 cOf aN aO jjr Qr Tryz.func159 (ja ZH (ja ZI i)) i
def Qs:Con:=⟨158,[.v iT],[iT],⟨[.v aT],[]⟩,[aT],λh=>Pw.ji5 h⟩
def jsY:FnD where
 N:=17
 np:=1
theorem jrd:aM Qs:=
 cOf aN aO jsY Qs Tryz.func158 i i
def Kk:Con:=⟨105,[.v df,.v iT],[df,iT],⟨[.v aT],[]⟩,[aT],Pw.unc2 Pw.j0p⟩
def jkE:FnD where
 N:=11
 np:=2
 cs:=[Qr,Qs]
theorem ZM:aM Kk:=
 cOf aN aO jkE Kk Tryz.func105 (ja jiq (ja jrd i)) i
def Kl:Con:=⟨236,[.v df,.v bD,.v iT],[df,bD,iT],⟨[.v iT],[]⟩,[iT],Pw.unc3 Pw.j2o⟩
def jo8:FnD where
 N:=84
 np:=3
 cs:=[Kg,FX,Kk]
 ds:=[⟨0,[sI,sB 192 0,sB 256 0,sI,.b (.cell [.d iT,.d af] e),.b (.cell [.d .str,.d iT,.d iT,.d iT,.d iT,.d iT,.d (.list iT),.d af,.d iT,.d iT] e)],[iT,iT,iT,af,.str,iT,iT,iT,iT,iT,(.list iT),af,iT,iT],[⟨.exit 0,[sI,sB 192 0,sB 256 0,sI,.b (.cell [.d iT,.d af] e),.b (.cell [.d .str,.d iT,.d iT,.d iT,.d iT,.d iT,.d (.list iT),.d af,.d iT,.d iT] e)],[iT,iT,iT,af,.str,iT,iT,iT,iT,iT,(.list iT),af,iT,iT]⟩],Pw.u8 Pw.unc6 (Pw.j3w)⟩,⟨2,[sI,sB 192 0,sB 256 0,sI,.b (.cell [.d iT,.d af] e),.b (.cell [.d .str,.d iT,.d iT,.d iT,.d iT,.d iT,.d (.list iT),.d af,.d iT,.d iT] e)],[iT,iT,iT,af,.str,iT,iT,iT,iT,iT,(.list iT),af,iT,iT],[⟨.ret,[sI],[iT]⟩],Pw.u8 Pw.unc6 (Pw.j56)⟩]
 keep:=[(0,⟨[2,3,4,9],[192,256],[],[]⟩),(2,⟨[2,3,4,9],[192,256],[],[]⟩)]
 keepX:=[(0,.exit 0,⟨[2,3,4,9],[192,256],[],[]⟩),(2,.ret,⟨[6],[],[],[]⟩)]
theorem ZN:aM Kl:=
 cOf aN aO jo8 Kl Tryz.func236 (ja ZG (ja Qi (ja ZM i))) (ja (λh=>by kernel_rfl) (ja (λh=>by kernel_rfl) i))
def F0:Con:=⟨120,[.v aH],[aH],⟨[.own 123 aH],[]⟩,[aH],λh=>Pw.jax h⟩
def jsZ:FnD where
 N:=57
 np:=1
 ds:=[⟨0,[sO 1000000,sD aH,sI,sI,.b (.lst 123 aF e)],[aH,iT,iT,aH],[⟨.exit 0,[sO 1500100,.b (.lst 123 aF e)],[aH]⟩],Pw.unc4 (Pw.j57)⟩]
 keep:=[(0,⟨[3,7,8,9],[],[⟨1000000,123,aF,[.slot 3],e⟩],[]⟩)]
 keepX:=[(0,.exit 0,⟨[3],[],[⟨1500100,123,aF,[.slot 3],e⟩],[]⟩)]
 ro:=[j]
theorem Qt:aM F0:=
 cOf aN aO jsZ F0 Tryz.func120 i (ja (λh=>by kernel_rfl) i)
def Qu:Con:=⟨170,[.v dX,.v bD,.v iT,.v iT],[dX,bD,iT,iT],⟨[.own 123 aH],[]⟩,[aH],Pw.unc4 Pw.j2K⟩
def jir:FnD where
 N:=95
 np:=4
 cs:=[FX,Qq,Kl,F0]
 ds:=[⟨0,[sI,sB 320 0,sO 1000000,sB 640 0,sI,sI,sI,sO 1000001,sI,sI,.b (.cell [.d .str,.d iT,.d iT,.d iT,.d iT,.d iT,.d (.list iT),.d af,.d iT,.d iT] e),.b (.cell [.d iT,.d af] e),.b (.lst 123 aF e),.b (.lst 59 aT e)],[iT,iT,iT,iT,iT,iT,.str,iT,iT,iT,iT,iT,(.list iT),af,iT,iT,iT,af,aH,af],[⟨.exit 0,[sI,sO 1500100,sI,.b (.lst 123 aF e)],[iT,iT,aH]⟩],Pw.u8 (Pw.u8 Pw.unc4) (Pw.j25)⟩,⟨2,[sI,sB 320 0,sO 1002000,sB 640 0,sI,sI,sI,sB 960 0,sO 1002001,sI,sI,.b (.cell [.d .str,.d iT,.d iT,.d iT,.d iT,.d iT,.d (.list iT),.d af,.d iT,.d iT] e),.b (.cell [.d iT,.d af] e),.b (.cell [.d iT,.d iT] e),.b (.lst 123 aF e),.b (.lst 59 aT e)],[iT,iT,iT,iT,iT,iT,.str,iT,iT,iT,iT,iT,(.list iT),af,iT,iT,iT,af,iT,iT,aH,af],[⟨.exit 2,[sI,sB 320 0,sO 1502300,sB 640 0,sI,sI,sI,sO 1502301,sI,sI,.b (.cell [.d .str,.d iT,.d iT,.d iT,.d iT,.d iT,.d (.list iT),.d af,.d iT,.d iT] e),.b (.cell [.d iT,.d af] e),.b (.lst 123 aF e),.b (.lst 59 aT e)],[iT,iT,iT,iT,iT,iT,.str,iT,iT,iT,iT,iT,(.list iT),af,iT,iT,iT,af,aH,af]⟩],Pw.u8 (Pw.u8 Pw.unc6) (Pw.j33)⟩]
 keep:=[(0,⟨[3,5,9,10,11,12,13,30,31,32],[320,640],[⟨1000000,123,aF,[.slot 9],e⟩,⟨1000001,59,aT,[.slot 30],e⟩],[]⟩),(2,⟨[3,5,9,10,11,12,13,15,30,31,32],[320,640,960],[⟨1002000,123,aF,[.slot 9],e⟩,⟨1002001,59,aT,[.slot 30],e⟩],[]⟩)]
 keepX:=[(0,.exit 0,⟨[3,9,11],[],[⟨1500100,123,aF,[.slot 9],e⟩],[]⟩),(2,.exit 2,⟨[3,5,9,10,11,12,13,30,31,32],[320,640],[⟨1502300,123,aF,[.slot 9],e⟩,⟨1502301,59,aT,[.slot 30],e⟩],[]⟩)]
 ro:=[j]
 dw:=[(17,[[],[],[],[],[],[],[],[],[],[],[],[],[],[5376],[5440,1002000],[]])]
theorem jhC:aM Qu:=
 cOf aN aO jir Qu Tryz.func170 (ja Qi (ja jkD (ja ZN (ja Qt i)))) (ja (λh=>by kernel_rfl) (ja (λh=>by kernel_rfl) i))
end Go.Proofs.Pk
