/- Contracts: each given function is its plain function, printed by a program. -/
import Derived.Test.YtllkgjaoejhneaaGreatDECon2
open _root_ renaming trivial->e
open Bool renaming false->i,true->j
noncomputable section
open Go Go.Lft
set_option linter.unusedVariables false
set_option maxRecDepth 100000
namespace Go.Proofs.Pk
def jg9:Con:=⟨208,[.v ty66],[ty66],⟨[.v ty27,.v iT],[]⟩,[ty27,iT],fun h=>Pw.jjX h⟩
def jux:FnD where
 N:=16
 np:=1
 cs:=[j4F]
theorem jsx:OKc jg9:=
 cOf j0d j04 jux jg9 Tryz.func208 (jg jaN e) e
def jaS:Con:=⟨140,[.v ty67],[ty67],⟨[.own 183 ty31],[]⟩,[ty31],fun h=>Pw.jfW h⟩
def jmX:FnD where
 N:=25
 np:=1
 cs:=[jg9]
 ds:=[⟨0,[sO 1000000,sD ty67,sI,sI,.b (.lst 183 ty27 i)],[ty67,iT,iT,ty31],[⟨.exit 0,[sO 1500100,.b (.lst 183 ty27 i)],[ty31]⟩],Pw.unc4 (Pw.j3S)⟩]
 keep:=[(0,⟨[3,8,9,10],[],[⟨1000000,183,ty27,[.slot 3],i⟩],[]⟩)]
 keepX:=[(0,.exit 0,⟨[3],[],[⟨1500100,183,ty27,[.slot 3],i⟩],[]⟩)]
 ro:=[j]
theorem jkX:OKc jaS:=
 cOf j0d j04 jmX jaS Tryz.func140 (jg jsx e) (jg (fun h=>by kernel_rfl) e)
def j6k:Con:=⟨92,[.v ty87],[ty87],⟨[.v ty93],[]⟩,[ty93],fun h=>Pw.jar h⟩
def jq7:FnD where
 N:=8
 np:=1
 cs:=[jaS]
 dw:=[(1,[[],[],[],[384],[],[128]])]
theorem jbF:OKc j6k:=
 cOf j0d j04 jq7 j6k Tryz.func92 (jg jkX e) e
def j8N:Con:=⟨209,[.v ty73],[ty73],⟨[.v iT],[]⟩,[iT],fun h=>Pw.j8p h⟩
def jov:FnD where
 N:=11
 np:=1
theorem jhb:OKc j8N:=
 cOf j0d j04 jov j8N Tryz.func209 e e
def j5d:Con:=⟨270,[.v iT,.ip [iT,ty14],.ip [iT]],[iT,iT,ty14,iT],⟨[.v .bool],[]⟩,[.bool],Pw.unc4 Pw.j7f⟩
def jeJ:FnD where
 N:=13
 np:=3
theorem jec:OKc j5d:=
 cOf j0d j04 jeJ j5d Tryz.func270 e e
def jaT:Con:=⟨269,[.v iT,.clo 270 [.p [iT,ty14],.p [iT]]],[iT,iT,ty14,iT],⟨[.v iT],[]⟩,[iT],Pw.unc4 Pw.jfX⟩
def jmY:FnD where
 N:=26
 np:=2
 cs:=[j5d]
 ds:=[⟨0,[sC 270 [.p [iT,ty14],.p [iT]],sI,sI],[iT,ty14,iT,iT,iT],[⟨.exit 0,[sI],[iT]⟩],Pw.unc5 (Pw.j2E)⟩]
 keep:=[(0,⟨[1,5,6],[],[],[]⟩)]
 keepX:=[(0,.exit 0,⟨[5],[],[],[]⟩)]
theorem jkY:OKc jaT:=
 cOf j0d j04 jmY jaT Tryz.func269 (jg jec e) (jg (fun h=>by kernel_rfl) e)
def j4G:Con:=⟨240,[.v ty27,.v iT],[ty27,iT],⟨[.v iT],[]⟩,[iT],Pw.unc2 Pw.j5k⟩
def jhc:FnD where
 N:=10
 np:=2
 cs:=[jaT]
theorem jaU:OKc j4G:=
 cOf j0d j04 jhc j4G Tryz.func240 (jg jkY e) e
def j4s:Con:=⟨239,[.v ty27,.v iT],[ty27,iT],⟨[.v iT],[]⟩,[iT],Pw.unc2 Pw.j3K⟩
def jga:FnD where
 N:=16
 np:=2
theorem j9J:OKc j4s:=
 cOf j0d j04 jga j4s Tryz.func239 e e
def j33:Con:=⟨218,[.v ty27,.v iT,.v iT],[ty27,iT,iT],⟨[.own 247 ty26],[]⟩,[ty26],Pw.unc3 Pw.j1F⟩
def jgb:FnD where
 N:=41
 np:=3
 cs:=[j4G,j4s]
 ds:=[⟨0,[sI,sI,sB 192 0,sO 1000000,.b (.cell [.d iT,.d ty14] i),.b (.lst 247 ty22 i)],[iT,iT,iT,ty14,ty26],[⟨.exit 0,[sO 1500100,.b (.lst 247 ty22 i)],[ty26]⟩],Pw.unc5 (Pw.j0w)⟩]
 keep:=[(0,⟨[1,2,3,7],[192],[⟨1000000,247,ty22,[.slot 7],i⟩],[]⟩)]
 keepX:=[(0,.exit 0,⟨[7],[],[⟨1500100,247,ty22,[.slot 7],i⟩],[]⟩)]
 ro:=[j]
theorem j6C:OKc j33:=
 cOf j0d j04 jgb j33 Tryz.func218 (jg jaU (jg j9J e)) (jg (fun h=>by kernel_rfl) e)
def j9z:Con:=⟨238,[.v ty9],[ty9],⟨[.v iT],[]⟩,[iT],fun h=>Pw.j3I h⟩
def jkZ:FnD where
 N:=11
 np:=1
theorem jk6:OKc j9z:=
 cOf j0d j04 jkZ j9z Tryz.func238 e e
def j6D:Con:=⟨202,[.v ty27,.v ty9],[ty27,ty9],⟨[.v iT,.v .bool],[]⟩,[iT,.bool],Pw.unc2 Pw.j2r⟩
def jhd:FnD where
 N:=30
 np:=2
 cs:=[j33,j9z]
 ds:=[⟨0,[sB 192 0,sO 1000000,sI,sI,.b (.cell [.d iT,.d iT] i),.b (.lst 247 ty22 i)],[iT,iT,iT,iT,ty26],[⟨.ret,[sI,sD .bool],[iT,.bool]⟩,⟨.exit 0,[],[]⟩],Pw.unc5 (Pw.j18)⟩]
 keep:=[(0,⟨[3,10,11,12],[192],[⟨1000000,247,ty22,[.slot 10],i⟩],[]⟩)]
 keepX:=[(0,.ret,⟨[4,5],[],[],[]⟩)]
theorem jgc:OKc j6D:=
 cOf j0d j04 jhd j6D Tryz.func202 (jg j6C (jg jk6 e)) (jg (fun h=>by kernel_rfl) e)
def j3x:Con:=⟨148,[.v ty27,.v ty73,.v iT],[ty27,ty73,iT],⟨[.v iT,.v .bool],[]⟩,[iT,.bool],Pw.unc3 Pw.j0N⟩
def jhe:FnD where
 N:=50
 np:=3
 cs:=[j8N,j6D]
 dw:=[(5,[[],[],[],[],[],[],[],[],[512]])]
theorem j7i:OKc j3x:=
 cOf j0d j04 jhe j3x Tryz.func148 (jg jhb (jg jgc e)) e
def j41:Con:=⟨247,[.v ty14],[ty14],⟨[.own 131 ty14],[]⟩,[ty14],fun h=>Pw.j2Q h⟩
def j8c:FnD where
 N:=8
 np:=1
 ro:=[j]
theorem j84:OKc j41:=
 juo j0d j04 j8c 247 ty9 131 Tryz.f247 (Tryz.f247.body.getD .skip) Tryz.func247 (by kernel_rfl) (by kernel_rfl) (zb (by kernel_rfl)) (by kernel_rfl) e (by kernel_rfl)
  (fun h R k=>by kernel_rfl)
def j6l:Con:=⟨248,[.v ty9],[ty9],⟨[.v .bool],[]⟩,[.bool],fun h=>Pw.j7J h⟩
def jk7:FnD where
 N:=8
 np:=1
theorem je4:OKc j6l:=
 cOf j0d j04 jk7 j6l Tryz.func248 e e
def j1H:Con:=⟨272,[.rl 131 ty14,.clo 248 []],[ty14],⟨[.v iT],[.rl ty14]⟩,[iT,ty14],fun h=>Pw.j26 h⟩
def j6P:FnD where
 N:=19
 np:=2
 cs:=[j6l]
 ds:=[⟨0,[sO 0,sC 248 [],sI,sI,.b (.lst 131 ty9 i)],[iT,iT,ty14],[⟨.ret,[sI,.b (.lst 131 ty9 i)],[iT,ty14]⟩,⟨.exit 0,[.b (.lst 131 ty9 i)],[ty14]⟩],Pw.unc3 (Pw.j0u)⟩]
 keep:=[(0,⟨[0,1,7,8],[0],[],[]⟩)]
 keepX:=[(0,.ret,⟨[4],[0],[],[]⟩),(0,.exit 0,⟨[],[0],[],[]⟩)]
theorem j6E:OKc j1H:=
 cOf j0d j04 j6P j1H Tryz.func272 (jg je4 e) (jg (fun h=>by kernel_rfl) e)
def j1B:Con:=⟨246,[.rl 131 ty14,.clo 248 []],[ty14],⟨[.hd],[.rl ty14]⟩,[iT,ty14],fun h=>Pw.j1h h⟩
def j6F:FnD where
 N:=42
 np:=2
 cs:=[j6l,j1H]
 ds:=[⟨0,[sO 0,sC 248 [],sI,sI,.b (.lst 131 ty9 i)],[iT,iT,ty14],[⟨.exit 0,[sO 0,sI,.b (.lst 131 ty9 i)],[iT,ty14]⟩],Pw.unc3 (Pw.j0t)⟩]
 modes:=[(272,[j,i])]
 keep:=[(0,⟨[0,1,5,6],[0],[],[]⟩)]
 keepX:=[(0,.exit 0,⟨[0,5],[0],[],[]⟩)]
 hd:=j
theorem j6m:OKc j1B:=
 cOf j0d j04 j6F j1B Tryz.func246 (jg je4 (jg j6E e)) (jg (fun h=>by kernel_rfl) e)
def j8w:Con:=⟨250,[.v ty9,.v ty9],[ty9,ty9],⟨[.v iT],[]⟩,[iT],Pw.unc2 Pw.j6d⟩
def jk8:FnD where
 N:=10
 np:=2
theorem jsT:OKc j8w:=
 cOf j0d j04 jk8 j8w Tryz.func250 e e
def j1r:Con:=⟨249,[.rl 131 ty14,.clo 250 []],[ty14],⟨[],[.rl ty14]⟩,[ty14],fun h=>Pw.j0R h⟩
def jak:FnD where
 N:=14
 np:=2
 cs:=[j8w]
theorem j3G:OKc j1r:=
 jwa Tryz.sort249 (ty9) rfl 131 (by kernel_rfl) Tryz.isAgg131 Tryz.sizeOf131 _ 250 (enters_of Tryz.func250 (by kernel_rfl) rfl) jq2 jq3 249 rfl
def j8O:Con:=⟨219,[.v ty14],[ty14],⟨[.own 131 ty14],[]⟩,[ty14],fun h=>Pw.jcD h⟩
def jow:FnD where
 N:=54
 np:=1
 cs:=[j41,j1B,j1r]
 ds:=[⟨0,[sO 1000000,sO 1000001,sI,sI,.b (.lst 131 ty9 i),.b (.lst 131 ty9 i)],[iT,iT,ty14,ty14],[⟨.exit 0,[sO 1500100,.b (.lst 131 ty9 i)],[ty14]⟩],Pw.unc4 (Pw.j3b)⟩]
 modes:=[(246,[j,i]),(249,[j,i])]
 keep:=[(0,⟨[4,13,14,15],[],[⟨1000000,131,ty9,[.slot 4],i⟩,⟨1000001,131,ty9,[.slot 13],i⟩],[]⟩)]
 keepX:=[(0,.exit 0,⟨[4],[],[⟨1500100,131,ty9,[.slot 4],i⟩],[]⟩)]
 ro:=[j]
 dw:=[(9,[[],[],[],[],[],[],[],[],[],[],[],[],[],[],[1000000]])]
theorem jhf:OKc j8O:=
 cOf j0d j04 jow j8O Tryz.func219 (jg j84 (jg j6m (jg j3G e))) (jg (fun h=>by kernel_rfl) e)
def j9A:Con:=⟨149,[.v ty27,.v ty14,.v iT,.v iT],[ty27,ty14,iT,iT],⟨[.own 131 ty14],[]⟩,[ty14],Pw.unc4 Pw.j50⟩
def jl0:FnD where
 N:=73
 np:=4
 cs:=[j33,j8O]
 ds:=[⟨0,[sD ty14,sO 1000000,sO 1000001,sI,sI,.b (.lst 131 ty9 i),.b (.lst 247 ty22 i)],[ty14,iT,iT,ty14,ty26],[⟨.exit 0,[sO 1500100,.b (.lst 131 ty9 i)],[ty14]⟩],Pw.unc5 (Pw.j3s)⟩,⟨2,[sD ty14,sO 1002000,sB 704 0,sI,sO 1002001,sI,sI,.b (.cell [.d iT,.d iT,.d iT] i),.b (.lst 131 ty9 i),.b (.lst 247 ty22 i)],[ty14,iT,iT,iT,iT,iT,iT,ty14,ty26],[⟨.exit 2,[sD ty14,sO 1502300,sO 1502301,sI,sI,.b (.lst 131 ty9 i),.b (.lst 247 ty22 i)],[ty14,iT,iT,ty14,ty26]⟩],Pw.unc9 (Pw.j3r)⟩,⟨4,[sD ty14,sO 1004000,sB 704 0,sI,sO 1004001,sI,sI,sD ty14,sI,sI,.b (.cell [.d iT,.d iT,.d iT] i),.b (.lst 131 ty9 i),.b (.lst 247 ty22 i)],[ty14,iT,iT,iT,ty14,iT,iT,iT,iT,iT,ty14,ty26],[⟨.exit 4,[sD ty14,sO 1504500,sB 704 0,sI,sO 1504501,sI,sI,.b (.cell [.d iT,.d iT,.d iT] i),.b (.lst 131 ty9 i),.b (.lst 247 ty22 i)],[ty14,iT,iT,iT,iT,iT,iT,ty14,ty26]⟩],Pw.u8 Pw.unc4 (Pw.j3q)⟩]
 keep:=[(0,⟨[1,9,19,20,21],[],[⟨1000000,131,ty9,[.slot 9],i⟩,⟨1000001,247,ty22,[.slot 19],i⟩],[]⟩),(2,⟨[1,9,11,13,19,20,21],[704],[⟨1002000,131,ty9,[.slot 9],i⟩,⟨1002001,247,ty22,[.slot 19],i⟩],[]⟩),(4,⟨[1,9,11,13,19,20,21,45,46,47],[704],[⟨1004000,131,ty9,[.slot 9],i⟩,⟨1004001,247,ty22,[.slot 19],i⟩],[]⟩)]
 keepX:=[(0,.exit 0,⟨[9],[],[⟨1500100,131,ty9,[.slot 9],i⟩],[]⟩),(2,.exit 2,⟨[1,9,19,20,21],[],[⟨1502300,131,ty9,[.slot 9],i⟩,⟨1502301,247,ty22,[.slot 19],i⟩],[]⟩),(4,.exit 4,⟨[1,9,11,13,19,20,21],[704],[⟨1504500,131,ty9,[.slot 9],i⟩,⟨1504501,247,ty22,[.slot 19],i⟩],[]⟩)]
 ro:=[j]
theorem jk9:OKc j9A:=
 cOf j0d j04 jl0 j9A Tryz.func149 (jg j6C (jg jhf e)) (jg (fun h=>by kernel_rfl) (jg (fun h=>by kernel_rfl) (jg (fun h=>by kernel_rfl) e)))
end Go.Proofs.Pk
