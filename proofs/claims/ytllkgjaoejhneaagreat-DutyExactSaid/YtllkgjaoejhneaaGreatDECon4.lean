/- Contracts: each given function is its plain function, printed by a program. -/
import Derived.Test.YtllkgjaoejhneaaGreatDECon3
open Bool renaming false->e,true->j
open _root_ renaming trivial->i
noncomputable section
open Go Go.Lft
set_option linter.unusedVariables false
set_option maxRecDepth 100000
namespace Go.Proofs.Pk
def j85:Con:=⟨151,[.v ty93,.v ty24,.v iT,.v iT],[ty93,ty24,iT,iT],⟨[.own 131 ty14],[]⟩,[ty14],Pw.unc4 Pw.j1T⟩
def jiF:FnD where
 N:=58
 np:=4
 cs:=[j33,j8O]
 ds:=[⟨0,[sB 320 0,sO 1000000,sO 1000001,sI,sI,.b (.cell [.d .str,.d iT,.d (.list iT)] e),.b (.lst 131 ty9 e),.b (.lst 247 ty22 e)],[iT,iT,.str,iT,(.list iT),ty14,ty26],[⟨.exit 0,[sO 1500100,.b (.lst 131 ty9 e)],[ty14]⟩],Pw.unc7 (Pw.j2A)⟩,⟨2,[sB 320 0,sO 1002000,sB 704 0,sO 1002001,sI,sI,sD (.list iT),sI,sI,.b (.cell [.d .str,.d iT,.d (.list iT)] e),.b (.cell [.d iT,.d iT,.d iT] e),.b (.lst 131 ty9 e),.b (.lst 247 ty22 e)],[iT,iT,(.list iT),iT,iT,.str,iT,(.list iT),iT,iT,iT,ty14,ty26],[⟨.exit 2,[sB 320 0,sO 1502300,sO 1502301,sI,sI,.b (.cell [.d .str,.d iT,.d (.list iT)] e),.b (.lst 131 ty9 e),.b (.lst 247 ty22 e)],[iT,iT,.str,iT,(.list iT),ty14,ty26]⟩],Pw.u8 Pw.unc5 (Pw.j2z)⟩]
 keep:=[(0,⟨[5,9,23,24,25],[320],[⟨1000000,131,ty9,[.slot 9],e⟩,⟨1000001,247,ty22,[.slot 23],e⟩],[]⟩),(2,⟨[5,9,11,23,24,25,30,31,32],[320,704],[⟨1002000,131,ty9,[.slot 9],e⟩,⟨1002001,247,ty22,[.slot 23],e⟩],[]⟩)]
 keepX:=[(0,.exit 0,⟨[9],[],[⟨1500100,131,ty9,[.slot 9],e⟩],[]⟩),(2,.exit 2,⟨[5,9,23,24,25],[320],[⟨1502300,131,ty9,[.slot 9],e⟩,⟨1502301,247,ty22,[.slot 23],e⟩],[]⟩)]
 ro:=[j]
theorem jhW:OKc j85:=
 cOf j0d j04 jiF j85 Tryz.func151 (jg j6C (jg jhf i)) (jg (fun h=>by kernel_rfl) (jg (fun h=>by kernel_rfl) i))
def j9B:Con:=⟨150,[.v ty14,.v ty14],[ty14,ty14],⟨[.own 131 ty14],[]⟩,[ty14],Pw.unc2 Pw.j94⟩
def jl1:FnD where
 N:=89
 np:=2
 ds:=[⟨0,[sD ty14,sO 1000000,sI,sD ty14,sI,sI,.b (.lst 131 ty9 e)],[ty14,iT,ty14,iT,iT,ty14],[⟨.exit 0,[sO 1500100,.b (.lst 131 ty9 e)],[ty14]⟩],Pw.unc6 (Pw.j3v)⟩,⟨2,[sD ty14,sO 1002000,sI,sB 512 0,sD ty14,sI,sI,.b (.cell [.d iT,.d iT] e),.b (.lst 131 ty9 e)],[ty14,iT,ty14,iT,iT,iT,iT,ty14],[⟨.exit 2,[sD ty14,sO 1502300,sI,sB 512 0,sD ty14,sI,sI,.b (.cell [.d iT,.d iT] e),.b (.lst 131 ty9 e)],[ty14,iT,ty14,iT,iT,iT,iT,ty14]⟩],Pw.unc8 (Pw.j3t)⟩,⟨4,[sD ty14,sO 1004000,sI,sB 512 0,sI,sI,sD ty14,sI,sI,.b (.cell [.d iT,.d iT] e),.b (.lst 131 ty9 e)],[ty14,iT,iT,iT,ty14,iT,iT,iT,iT,ty14],[⟨.exit 4,[sD ty14,sO 1504500,sI,sB 512 0,sI,sD ty14,sI,sI,.b (.cell [.d iT,.d iT] e),.b (.lst 131 ty9 e)],[ty14,iT,iT,ty14,iT,iT,iT,iT,ty14]⟩],Pw.u8 Pw.unc2 (Pw.j3u)⟩]
 keep:=[(0,⟨[1,5,6,11,12,13],[],[⟨1000000,131,ty9,[.slot 5],e⟩],[]⟩),(2,⟨[1,5,6,8,11,12,13],[512],[⟨1002000,131,ty9,[.slot 5],e⟩],[]⟩),(4,⟨[1,5,6,8,9,10,11,12,13],[512],[⟨1004000,131,ty9,[.slot 5],e⟩],[]⟩)]
 keepX:=[(0,.exit 0,⟨[5],[],[⟨1500100,131,ty9,[.slot 5],e⟩],[]⟩),(2,.exit 2,⟨[1,5,6,8,11,12,13],[512],[⟨1502300,131,ty9,[.slot 5],e⟩],[]⟩),(4,.exit 4,⟨[1,5,6,8,9,11,12,13],[512],[⟨1504500,131,ty9,[.slot 5],e⟩],[]⟩)]
 ro:=[j]
theorem jka:OKc j9B:=
 cOf j0d j04 jl1 j9B Tryz.func150 i (jg (fun h=>by kernel_rfl) (jg (fun h=>by kernel_rfl) (jg (fun h=>by kernel_rfl) i)))
def jaV:Con:=⟨152,[.v ty14,.v ty14],[ty14,ty14],⟨[.own 131 ty14],[]⟩,[ty14],Pw.unc2 Pw.jas⟩
def jmZ:FnD where
 N:=67
 np:=2
 ds:=[⟨0,[sD ty14,sD ty14,sO 1000000,sI,sI,.b (.lst 131 ty9 e)],[ty14,ty14,iT,iT,ty14],[⟨.exit 0,[sO 1500100,.b (.lst 131 ty9 e)],[ty14]⟩],Pw.unc5 (Pw.j57)⟩]
 keep:=[(0,⟨[0,1,5,6,7],[],[⟨1000000,131,ty9,[.slot 5],e⟩],[]⟩)]
 keepX:=[(0,.exit 0,⟨[5],[],[⟨1500100,131,ty9,[.slot 5],e⟩],[]⟩)]
 ro:=[j]
 dw:=[(4,[[],[],[],[],[],[],[],[],[],[],[],[],[],[],[],[],[],[],[],[],[],[],[],[512],[512]])]
theorem jl2:OKc jaV:=
 cOf j0d j04 jmZ jaV Tryz.func152 i (jg (fun h=>by kernel_rfl) i)
def j5e:Con:=⟨99,[.v ty93,.v ty73,.v iT,.v iT],[ty93,ty73,iT,iT],⟨[.own 131 ty14],[]⟩,[ty14],Pw.unc4 Pw.j3U⟩
def jhX:FnD where
 N:=90
 np:=4
 cs:=[j3x,j9A,j85,j9B,jaV]
 ro:=[j]
 dw:=[(7,[[],[],[],[],[],[],[],[],[],[],[3584],[]]),(10,[[],[],[],[],[],[],[],[],[],[],[],[4608],[4672],[]]),(12,[[],[],[],[],[],[],[],[],[],[],[],[5568],[5632],[]])]
theorem jbG:OKc j5e:=
 cOf j0d j04 jhX j5e Tryz.func99 (jg j7i (jg jk9 (jg jhW (jg jka (jg jl2 i))))) i
def j69:Con:=⟨212,[.v ty27,.v iT],[ty27,iT],⟨[.v iT],[]⟩,[iT],Pw.unc2 Pw.j6e⟩
def jgd:FnD where
 N:=10
 np:=2
 cs:=[j4G,j4s]
theorem jfm:OKc j69:=
 cOf j0d j04 jgd j69 Tryz.func212 (jg jaU (jg j9J i)) i
def jc4:Con:=⟨211,[.v iT],[iT],⟨[.v ty9],[]⟩,[ty9],fun h=>Pw.jf5 h⟩
def jox:FnD where
 N:=17
 np:=1
theorem jn0:OKc jc4:=
 cOf j0d j04 jox jc4 Tryz.func211 i i
def j4H:Con:=⟨144,[.v ty27,.v iT],[ty27,iT],⟨[.v ty9],[]⟩,[ty9],Pw.unc2 Pw.j0o⟩
def jhg:FnD where
 N:=11
 np:=2
 cs:=[j69,jc4]
theorem jaW:OKc j4H:=
 cOf j0d j04 jhg j4H Tryz.func144 (jg jfm (jg jn0 i)) i
def j6n:Con:=⟨141,[.v ty27,.v ty73,.v iT],[ty27,ty73,iT],⟨[.v iT],[]⟩,[iT],Pw.unc3 Pw.j1W⟩
def jkb:FnD where
 N:=84
 np:=3
 cs:=[j8N,j3x,j4H]
 ds:=[⟨0,[sI,sB 192 0,sB 256 0,sI,.b (.cell [.d iT,.d ty14] e),.b (.cell [.d .str,.d iT,.d iT,.d iT,.d iT,.d iT,.d (.list iT),.d ty14,.d iT,.d iT] e)],[iT,iT,iT,ty14,.str,iT,iT,iT,iT,iT,(.list iT),ty14,iT,iT],[⟨.exit 0,[sI,sB 192 0,sB 256 0,sI,.b (.cell [.d iT,.d ty14] e),.b (.cell [.d .str,.d iT,.d iT,.d iT,.d iT,.d iT,.d (.list iT),.d ty14,.d iT,.d iT] e)],[iT,iT,iT,ty14,.str,iT,iT,iT,iT,iT,(.list iT),ty14,iT,iT]⟩],Pw.u8 Pw.unc6 (Pw.j2R)⟩,⟨2,[sI,sB 192 0,sB 256 0,sI,.b (.cell [.d iT,.d ty14] e),.b (.cell [.d .str,.d iT,.d iT,.d iT,.d iT,.d iT,.d (.list iT),.d ty14,.d iT,.d iT] e)],[iT,iT,iT,ty14,.str,iT,iT,iT,iT,iT,(.list iT),ty14,iT,iT],[⟨.ret,[sI],[iT]⟩],Pw.u8 Pw.unc6 (Pw.j4d)⟩]
 keep:=[(0,⟨[2,3,4,9],[192,256],[],[]⟩),(2,⟨[2,3,4,9],[192,256],[],[]⟩)]
 keepX:=[(0,.exit 0,⟨[2,3,4,9],[192,256],[],[]⟩),(2,.ret,⟨[6],[],[],[]⟩)]
theorem je5:OKc j6n:=
 cOf j0d j04 jkb j6n Tryz.func141 (jg jhb (jg j7i (jg jaW i))) (jg (fun h=>by kernel_rfl) (jg (fun h=>by kernel_rfl) i))
def j8P:Con:=⟨50,[.v ty26],[ty26],⟨[.own 130 ty26],[]⟩,[ty26],fun h=>Pw.jag h⟩
def joy:FnD where
 N:=57
 np:=1
 ds:=[⟨0,[sO 1000000,sD ty26,sI,sI,.b (.lst 130 ty22 e)],[ty26,iT,iT,ty26],[⟨.exit 0,[sO 1500100,.b (.lst 130 ty22 e)],[ty26]⟩],Pw.unc4 (Pw.j4e)⟩]
 keep:=[(0,⟨[3,7,8,9],[],[⟨1000000,130,ty22,[.slot 3],e⟩],[]⟩)]
 keepX:=[(0,.exit 0,⟨[3],[],[⟨1500100,130,ty22,[.slot 3],e⟩],[]⟩)]
 ro:=[j]
theorem jhh:OKc j8P:=
 cOf j0d j04 joy j8P Tryz.func50 i (jg (fun h=>by kernel_rfl) i)
def j5A:Con:=⟨104,[.v ty93,.v ty73,.v iT,.v iT],[ty93,ty73,iT,iT],⟨[.own 130 ty26],[]⟩,[ty26],Pw.unc4 Pw.j3c⟩
def jfn:FnD where
 N:=95
 np:=4
 cs:=[j3x,j5e,j6n,j8P]
 ds:=[⟨0,[sI,sB 320 0,sO 1000000,sB 640 0,sI,sI,sI,sO 1000001,sI,sI,.b (.cell [.d .str,.d iT,.d iT,.d iT,.d iT,.d iT,.d (.list iT),.d ty14,.d iT,.d iT] e),.b (.cell [.d iT,.d ty14] e),.b (.lst 130 ty22 e),.b (.lst 131 ty9 e)],[iT,iT,iT,iT,iT,iT,.str,iT,iT,iT,iT,iT,(.list iT),ty14,iT,iT,iT,ty14,ty26,ty14],[⟨.exit 0,[sI,sO 1500100,sI,.b (.lst 130 ty22 e)],[iT,iT,ty26]⟩],Pw.u8 (Pw.u8 Pw.unc4) (Pw.j1M)⟩,⟨2,[sI,sB 320 0,sO 1002000,sB 640 0,sI,sI,sI,sB 960 0,sO 1002001,sI,sI,.b (.cell [.d .str,.d iT,.d iT,.d iT,.d iT,.d iT,.d (.list iT),.d ty14,.d iT,.d iT] e),.b (.cell [.d iT,.d ty14] e),.b (.cell [.d iT,.d iT] e),.b (.lst 130 ty22 e),.b (.lst 131 ty9 e)],[iT,iT,iT,iT,iT,iT,.str,iT,iT,iT,iT,iT,(.list iT),ty14,iT,iT,iT,ty14,iT,iT,ty26,ty14],[⟨.exit 2,[sI,sB 320 0,sO 1502300,sB 640 0,sI,sI,sI,sO 1502301,sI,sI,.b (.cell [.d .str,.d iT,.d iT,.d iT,.d iT,.d iT,.d (.list iT),.d ty14,.d iT,.d iT] e),.b (.cell [.d iT,.d ty14] e),.b (.lst 130 ty22 e),.b (.lst 131 ty9 e)],[iT,iT,iT,iT,iT,iT,.str,iT,iT,iT,iT,iT,(.list iT),ty14,iT,iT,iT,ty14,ty26,ty14]⟩],Pw.u8 (Pw.u8 Pw.unc6) (Pw.j2w)⟩]
 keep:=[(0,⟨[3,5,9,10,11,12,13,30,31,32],[320,640],[⟨1000000,130,ty22,[.slot 9],e⟩,⟨1000001,131,ty9,[.slot 30],e⟩],[]⟩),(2,⟨[3,5,9,10,11,12,13,15,30,31,32],[320,640,960],[⟨1002000,130,ty22,[.slot 9],e⟩,⟨1002001,131,ty9,[.slot 30],e⟩],[]⟩)]
 keepX:=[(0,.exit 0,⟨[3,9,11],[],[⟨1500100,130,ty22,[.slot 9],e⟩],[]⟩),(2,.exit 2,⟨[3,5,9,10,11,12,13,30,31,32],[320,640],[⟨1502300,130,ty22,[.slot 9],e⟩,⟨1502301,131,ty9,[.slot 30],e⟩],[]⟩)]
 ro:=[j]
 dw:=[(17,[[],[],[],[],[],[],[],[],[],[],[],[],[],[5376],[5440,1002000],[]])]
theorem jeK:OKc j5A:=
 cOf j0d j04 jfn j5A Tryz.func104 (jg j7i (jg jbG (jg je5 (jg jhh i)))) (jg (fun h=>by kernel_rfl) (jg (fun h=>by kernel_rfl) i))
def j6o:Con:=⟨46,[.v ty87,.v ty73,.v iT,.v iT],[ty87,ty73,iT,iT],⟨[.own 130 ty26,.v iT],[]⟩,[ty26,iT],Pw.unc4 Pw.j7P⟩
def jkc:FnD where
 N:=30
 np:=4
 cs:=[j8M,j6k,j5A]
 ro:=[j,e]
 dw:=[(4,[[],[],[],[],[],[1600],[]])]
theorem je6:OKc j6o:=
 cOf j0d j04 jkc j6o Tryz.func46 (jg jha (jg jbF (jg jeK i))) i
def j8Q:Con:=⟨44,[.v ty87,.v ty73,.v iT,.v iT],[ty87,ty73,iT,iT],⟨[.own 131 ty14,.v iT],[]⟩,[ty14,iT],Pw.unc4 Pw.jcF⟩
def joz:FnD where
 N:=30
 np:=4
 cs:=[j8M,j6k,j5e]
 ro:=[j,e]
 dw:=[(4,[[],[],[],[],[],[1600],[]])]
theorem jhi:OKc j8Q:=
 cOf j0d j04 joz j8Q Tryz.func44 (jg jha (jg jbF (jg jbG i))) i
def j8x:Con:=⟨143,[.v ty9],[ty9],⟨[.v iT],[]⟩,[iT],fun h=>Pw.j2L h⟩
def jkd:FnD where
 N:=10
 np:=1
 cs:=[j6i]
theorem jiG:OKc j8x:=
 cOf j0d j04 jkd j8x Tryz.func143 (jg je3 i) i
def jeL:Con:=⟨142,[.v ty14,.v iT],[ty14,iT],⟨[.v .bool],[]⟩,[.bool],Pw.unc2 Pw.jj6⟩
def jsy:FnD where
 N:=24
 np:=2
 ds:=[⟨0,[sI,sD ty14,sI,sI],[iT,ty14,iT,iT],[⟨.ret,[sD .bool],[.bool]⟩,⟨.exit 0,[],[]⟩],Pw.unc4 (Pw.j5l)⟩]
 keep:=[(0,⟨[1,7,8,9],[],[],[]⟩)]
 keepX:=[(0,.ret,⟨[4],[],[],[]⟩)]
theorem jq8:OKc jeL:=
 cOf j0d j04 jsy jeL Tryz.func142 i (jg (fun h=>by kernel_rfl) i)
def j8y:Con:=⟨241,[.v iT],[iT],⟨[.v .bool],[]⟩,[.bool],fun h=>Pw.j9T h⟩
def jke:FnD where
 N:=6
 np:=1
theorem jiH:OKc j8y:=
 cOf j0d j04 jke j8y Tryz.func241 i i
def j9C:Con:=⟨213,[.v iT,.v iT],[iT,iT],⟨[.v .bool],[]⟩,[.bool],Pw.unc2 Pw.jbu⟩
def jl3:FnD where
 N:=17
 np:=2
 cs:=[j8y]
theorem jkf:OKc j9C:=
 cOf j0d j04 jl3 j9C Tryz.func213 (jg jiH i) i
def j6G:Con:=⟨214,[.v iT],[iT],⟨[.v .bool],[]⟩,[.bool],fun h=>Pw.j71 h⟩
def jhj:FnD where
 N:=6
 np:=1
theorem jge:OKc j6G:=
 cOf j0d j04 jhj j6G Tryz.func214 i i
def j2J:Con:=⟨145,[.v (.list iT),.v iT],[(.list iT),iT],⟨[.v iT,.v .bool],[]⟩,[iT,.bool],Pw.unc2 Pw.j19⟩
def j9D:FnD where
 N:=54
 np:=2
 cs:=[j9C,j6G]
 ds:=[⟨0,[sD (.list iT),sI,sI,sI,sI],[(.list iT),iT,iT,iT,iT],[⟨.exit 0,[sD (.list iT),sI,sI,sI],[(.list iT),iT,iT,iT]⟩],Pw.unc5 (Pw.j1i)⟩]
 keep:=[(0,⟨[0,1,6,7,8],[],[],[]⟩)]
 keepX:=[(0,.exit 0,⟨[0,1,6,7],[],[],[]⟩)]
theorem j9o:OKc j2J:=
 cOf j0d j04 j9D j2J Tryz.func145 (jg jkf (jg jge i)) (jg (fun h=>by kernel_rfl) i)
def j7a:Con:=⟨93,[.v ty93,.v ty73,.v iT],[ty93,ty73,iT],⟨[.v iT,.v .bool],[]⟩,[iT,.bool],Pw.unc3 Pw.j21⟩
def jl4:FnD where
 N:=79
 np:=3
 cs:=[j4H,j6n,j8x,jeL,j2J]
theorem jeM:OKc j7a:=
 cOf j0d j04 jl4 j7a Tryz.func93 (jg jaW (jg je5 (jg jiG (jg jq8 (jg j9o i))))) i
def j6H:Con:=⟨96,[.v ty93,.v ty73,.v iT],[ty93,ty73,iT],⟨[.v iT],[]⟩,[iT],Pw.unc3 Pw.j3j⟩
def jhk:FnD where
 N:=27
 np:=3
 cs:=[j7a]
theorem jgf:OKc j6H:=
 cOf j0d j04 jhk j6H Tryz.func96 (jg jeM i) i
end Go.Proofs.Pk
