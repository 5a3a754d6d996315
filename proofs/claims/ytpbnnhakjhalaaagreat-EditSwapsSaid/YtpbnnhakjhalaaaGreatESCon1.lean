/- Contracts: each given function is its plain function, printed by a program. -/
import Derived.Test.YtpbnnhakjhalaaaGreatESCon0
noncomputable section
open Go Go.Lft
set_option linter.unusedVariables false
set_option maxRecDepth 100000
namespace Go.Proofs.Pk
def j0K:Con:=⟨341,[.rl 332 ty13,.clo 342 []],[ty13],⟨[],[.rl ty13]⟩,[ty13],fun h=>Pw.j07 h⟩
def j34:FnD where
 N:=9
 np:=2
 cs:=[j1C]
 ds:=[]
 modes:=[(393,[true,false,false])]
theorem j2R:Con.OK Tryz.prog j0K:=
 cOf j0r j04 j34 j0K Tryz.func341 (j9 j5i trivial) trivial
def j5I:Con:=⟨292,[.v ty65],[ty65],⟨[.own 332 ty13,.v iT],[]⟩,[ty13,iT],fun h=>Pw.j30 h⟩
def jdT:FnD where
 N:=86
 np:=1
 cs:=[j8T,jaK,jaL,j0K]
 ds:=[⟨0,[.s (.one (.bp 64 0)),sI,.s (.one (.d ty58)),sI,sI,.b (.cell [.d .str,.d iT,.d ty58] false)],[iT,ty58,iT,iT,.str,iT,ty58],[⟨.ret,[.s (.one (.nil)),sI],[iT]⟩,⟨.exit 0,[.s (.one (.bp 64 0)),sI,.b (.cell [.d .str,.d iT,.d ty58] false)],[iT,.str,iT,ty58]⟩],Pw.unc7 (Pw.j2b)⟩,
  ⟨2,[.s (.one (.ol 1002000)),.s (.one (.d ty58)),sI,sI,.b (.lst 332 ty8 false)],[ty58,iT,iT,ty13],[⟨.exit 2,[.s (.one (.ol 1502300)),.b (.lst 332 ty8 false)],[ty13]⟩],Pw.unc4 (Pw.j0R)⟩,
  ⟨4,[.s (.one (.ol 1004000)),.s (.one (.bp 640 0)),sI,.s (.one (.d ty58)),sI,sI,.b (.cell [.d iT,.d iT,.d iT,.d iT,.d iT,.d iT,.d iT] false),.b (.lst 332 ty8 false)],[iT,ty58,iT,iT,iT,iT,iT,iT,iT,iT,iT,ty13],[⟨.exit 4,[.s (.one (.ol 1504500)),.s (.one (.d ty58)),sI,sI,.b (.lst 332 ty8 false)],[ty58,iT,iT,ty13]⟩],Pw.jrQ (Pw.j0Q)⟩]
 modes:=[(293,[false,false,false]),(339,[false]),(340,[false,false,false,false]),(341,[true,false])]
 keep:=[(0,⟨[1,4,23,24,25],[64],[],[]⟩),
  (2,⟨[8,46,47,48],[],[⟨1002000,332,ty8,[.slot 8],false⟩],[]⟩),
  (4,⟨[8,10,11,46,47,48],[640],[⟨1004000,332,ty8,[.slot 8],false⟩],[]⟩)]
 keepX:=[(0,.ret,⟨[2,3],[],[],[]⟩),
  (0,.exit 0,⟨[1,4],[64],[],[]⟩),
  (2,.exit 2,⟨[8],[],[⟨1502300,332,ty8,[.slot 8],false⟩],[]⟩),
  (4,.exit 4,⟨[8,46,47,48],[],[⟨1504500,332,ty8,[.slot 8],false⟩],[]⟩)]
 ro:=[true,false]
theorem jcU:Con.OK Tryz.prog j5I:=
 cOf j0r j04 jdT j5I Tryz.func292 (j9 jey (j9 jk6 (j9 jk9 (j9 j2R trivial)))) (j9 (fun h=>by kernel_rfl) (j9 (fun h=>by kernel_rfl) (j9 (fun h=>by kernel_rfl) trivial)))
def j41:Con:=⟨201,[.v ty65],[ty65],⟨[.own 167 ty13,.v iT],[]⟩,[ty13,iT],fun h=>Pw.j1M h⟩
def jdU:FnD where
 N:=79
 np:=1
 cs:=[j8T,j5I]
 ds:=[⟨0,[.s (.one (.ol 1000000)),sI,.s (.one (.ol 1000001)),sI,sI,.b (.lst 167 ty8 false),.b (.lst 332 ty8 false)],[iT,iT,iT,ty13,ty13],[⟨.ret,[.s (.one (.nil)),sI],[iT]⟩,⟨.exit 0,[.s (.one (.ol 1500100)),.b (.lst 167 ty8 false)],[ty13]⟩],Pw.unc5 (Pw.j2c)⟩]
 modes:=[(292,[false]),(293,[false,false,false])]
 keep:=[(0,⟨[6,7,22,23,24],[],[⟨1000000,167,ty8,[.slot 6],false⟩,⟨1000001,332,ty8,[.slot 22],false⟩],[]⟩)]
 keepX:=[(0,.ret,⟨[2,3],[],[],[]⟩),
  (0,.exit 0,⟨[6],[],[⟨1500100,167,ty8,[.slot 6],false⟩],[]⟩)]
 ro:=[true,false]
theorem j8V:Con.OK Tryz.prog j41:=
 cOf j0r j04 jdU j41 Tryz.func201 (j9 jey (j9 jcU trivial)) (j9 (fun h=>by kernel_rfl) trivial)
def j9J:Con:=⟨223,[.v ty65],[ty65],⟨[.v iT],[]⟩,[iT],fun h=>Pw.j6k h⟩
def jka:FnD where
 N:=11
 np:=1
 cs:=[j41]
 ds:=[]
 modes:=[(201,[false])]
 ro:=[false]
theorem jiM:Con.OK Tryz.prog j9J:=
 cOf j0r j04 jka j9J Tryz.func223 (j9 j8V trivial) trivial
def j4g:Con:=⟨225,[.v ty55],[ty55],⟨[.v .bool],[]⟩,[.bool],fun h=>Pw.j5G h⟩
def jba:FnD where
 N:=7
 np:=1
 cs:=[]
 ds:=[]
 ro:=[false]
theorem jaM:Con.OK Tryz.prog j4g:=
 cOf j0r j04 jba j4g Tryz.func225 trivial trivial
def j1b:Con:=⟨305,[.v ty58,.clo 225 []],[ty58],⟨[.v iT],[]⟩,[iT],fun h=>Pw.j0p h⟩
def j4k:FnD where
 N:=19
 np:=2
 cs:=[j4g]
 ds:=[⟨0,[.s (.one (.d ty58)),.s (.one (.clo 225 [])),sI,sI],[ty58,iT,iT],[⟨.ret,[sI],[iT]⟩,⟨.exit 0,[],[]⟩],Pw.unc3 (Pw.j0k)⟩]
 modes:=[(225,[false])]
 keep:=[(0,⟨[0,1,7,8],[],[],[]⟩)]
 keepX:=[(0,.ret,⟨[4],[],[],[]⟩),
  (0,.exit 0,⟨[],[],[],[]⟩)]
 ro:=[false]
theorem j4h:Con.OK Tryz.prog j1b:=
 cOf j0r j04 j4k j1b Tryz.func305 (j9 jaM trivial) (j9 (fun h=>by kernel_rfl) trivial)
def j10:Con:=⟨224,[.v ty58,.clo 225 []],[ty58],⟨[.v .bool],[]⟩,[.bool],fun h=>Pw.j0h h⟩
def j3Q:FnD where
 N:=9
 np:=2
 cs:=[j1b]
 ds:=[]
 modes:=[(305,[false,false])]
 ro:=[false]
theorem j3I:Con.OK Tryz.prog j10:=
 cOf j0r j04 j3Q j10 Tryz.func224 (j9 j4h trivial) trivial
def j5j:Con:=⟨151,[.v ty65],[ty65],⟨[.v iT],[]⟩,[iT],fun h=>Pw.j2d h⟩
def jcV:FnD where
 N:=17
 np:=1
 cs:=[j9J,j10]
 ds:=[]
 modes:=[(223,[false]),(224,[false,false])]
 ro:=[false]
theorem jci:Con.OK Tryz.prog j5j:=
 cOf j0r j04 jcV j5j Tryz.func151 (j9 jiM (j9 j3I trivial)) trivial
def j3u:Con:=⟨149,[.v ty66,.clo 150 [],.clo 151 []],[ty66],⟨[.v iT],[]⟩,[iT],fun h=>Pw.j1A h⟩
def jaf:FnD where
 N:=34
 np:=3
 cs:=[j5H,j33,j5j]
 ds:=[⟨0,[.s (.one (.clo 150 [])),.s (.one (.clo 151 [])),.s (.one (.ol 1000000)),.s (.one (.d ty66)),sI,sI,.b (.lst 4294967512 (.pair .str .bool) false)],[ty66,iT,iT,(.list (.pair .str .bool))],[⟨.ret,[sI],[iT]⟩,⟨.exit 0,[],[]⟩],Pw.unc4 (Pw.j0A)⟩]
 modes:=[(150,[false]),(151,[false]),(152,[false,true])]
 keep:=[(0,⟨[1,2,7,13,14,15],[],[⟨1000000,4294967512,(.pair .str .bool),[.slot 7],false⟩],[]⟩)]
 keepX:=[(0,.ret,⟨[6],[],[],[]⟩),
  (0,.exit 0,⟨[],[],[],[]⟩)]
 ro:=[false]
theorem j9K:Con.OK Tryz.prog j3u:=
 cOf j0r j04 jaf j3u Tryz.func149 (j9 jcT (j9 j5g (j9 jci trivial))) (j9 (fun h=>by kernel_rfl) trivial)
def j2I:Con:=⟨227,[.v iT,.v iT],[iT,iT],⟨[.v .bool],[]⟩,[.bool],Pw.unc2 Pw.j1O⟩
def jgr:FnD where
 N:=12
 np:=2
 cs:=[]
 ds:=[]
 ro:=[false]
theorem j4C:Con.OK Tryz.prog j2I:=
 cOf j0r j04 jgr j2I Tryz.func227 trivial trivial
def j7u:Con:=⟨197,[.v ty13],[ty13],⟨[.v iT],[]⟩,[iT],fun h=>Pw.j6l h⟩
def jkb:FnD where
 N:=46
 np:=1
 cs:=[]
 ds:=[⟨0,[.s (.one (.d ty13)),.s (.one (.d ty13)),sI,sI],[ty13,ty13,iT,iT],[⟨.ret,[sI],[iT]⟩,⟨.exit 0,[],[]⟩],Pw.unc4 (Pw.j3B)⟩]
 keep:=[(0,⟨[0,8,9,10],[],[],[]⟩)]
 keepX:=[(0,.ret,⟨[2],[],[],[]⟩),
  (0,.exit 0,⟨[],[],[],[]⟩)]
 ro:=[false]
theorem jdV:Con.OK Tryz.prog j7u:=
 cOf j0r j04 jkb j7u Tryz.func197 trivial (j9 (fun h=>by kernel_rfl) trivial)
def j60:Con:=⟨308,[.v iT,.v iT,.v iT],[iT,iT,iT],⟨[.v .bool],[]⟩,[.bool],Pw.unc3 Pw.j5w⟩
def jkc:FnD where
 N:=15
 np:=3
 cs:=[]
 ds:=[]
 ro:=[false]
theorem jaN:Con.OK Tryz.prog j60:=
 cOf j0r j04 jkc j60 Tryz.func308 trivial trivial
def j7m:Con:=⟨228,[.v iT],[iT],⟨[.v .bool],[]⟩,[.bool],fun h=>Pw.j4r h⟩
def jgs:FnD where
 N:=10
 np:=1
 cs:=[j60]
 ds:=[]
 modes:=[(308,[false,false,false])]
 ro:=[false]
theorem jf3:Con.OK Tryz.prog j7m:=
 cOf j0r j04 jgs j7m Tryz.func228 (j9 jaN trivial) trivial
def j4v:Con:=⟨153,[.v ty84,.v ty53],[ty84,ty53],⟨[.v iT],[]⟩,[iT],Pw.unc2 Pw.j1p⟩
def jbQ:FnD where
 N:=29
 np:=2
 cs:=[j2I,j7u,j7m]
 ds:=[]
 modes:=[(197,[false]),(227,[false,false]),(228,[false])]
 ro:=[false]
theorem jbb:Con.OK Tryz.prog j4v:=
 cOf j0r j04 jbQ j4v Tryz.func153 (j9 j4C (j9 jdV (j9 jf3 trivial))) trivial
def j5J:Con:=⟨155,[.v ty24],[ty24],⟨[.v .str],[]⟩,[.str],fun h=>Pw.j84 h⟩
def jdW:FnD where
 N:=5
 np:=1
 cs:=[]
 ds:=[]
 ro:=[false]
theorem jcW:Con.OK Tryz.prog j5J:=
 cOf j0r j04 jdW j5J Tryz.func155 trivial trivial
def j9L:Con:=⟨348,[.v iT],[iT],⟨[.v iT],[]⟩,[iT],fun h=>Pw.jaa h⟩
def jkd:FnD where
 N:=15
 np:=1
 cs:=[j6G,j5h]
 ds:=[⟨0,[sI,sI],[iT,iT],[⟨.exit 0,[sI],[iT]⟩],Pw.unc2 (Pw.j9z)⟩]
 modes:=[(347,[false]),(395,[false,false])]
 keep:=[(0,⟨[0,3],[],[],[]⟩)]
 keepX:=[(0,.exit 0,⟨[3],[],[],[]⟩)]
 ro:=[false]
theorem jiN:Con.OK Tryz.prog j9L:=
 cOf j0r j04 jkd j9L Tryz.func348 (j9 jcw (j9 j9I trivial)) (j9 (fun h=>by kernel_rfl) trivial)
def j87:Con:=⟨310,[.v iT],[iT],⟨[.v ty21,.v iT],[]⟩,[ty21,iT],fun h=>Pw.j6m h⟩
def jh9:FnD where
 N:=45
 np:=1
 cs:=[j4H,j5h,j9L]
 ds:=[⟨0,[.s (.one (.bp 128 0)),.s (.one (.bp 256 0)),sI,.b (.cell [.d iT,.d iT,.d iT] false),.b (.cell [.d iT,.d iT,.d iT] false)],[iT,iT,iT,iT,iT,iT,iT],[⟨.exit 0,[.s (.one (.bp 128 0)),.s (.one (.bp 256 0)),sI,.b (.cell [.d iT,.d iT,.d iT] false),.b (.cell [.d iT,.d iT,.d iT] false)],[iT,iT,iT,iT,iT,iT,iT]⟩],Pw.unc7 (Pw.j8m)⟩]
 modes:=[(347,[false]),(348,[false]),(349,[false,false])]
 keep:=[(0,⟨[2,4,5],[128,256],[],[]⟩)]
 keepX:=[(0,.exit 0,⟨[2,4,5],[128,256],[],[]⟩)]
 ro:=[false,false]
theorem jgt:Con.OK Tryz.prog j87:=
 cOf j0r j04 jh9 j87 Tryz.func310 (j9 j8u (j9 j9I (j9 jiN trivial))) (j9 (fun h=>by kernel_rfl) trivial)
def j5k:Con:=⟨231,[.v iT],[iT],⟨[.v .bool],[]⟩,[.bool],fun h=>Pw.j1q h⟩
def jiO:FnD where
 N:=12
 np:=1
 cs:=[j87]
 ds:=[]
 modes:=[(310,[false])]
 ro:=[false]
theorem j9M:Con.OK Tryz.prog j5k:=
 cOf j0r j04 jiO j5k Tryz.func231 (j9 jgt trivial) trivial
def j3b:Con:=⟨230,[.v iT],[iT],⟨[.v .bool],[]⟩,[.bool],fun h=>Pw.j1D h⟩
def j9k:FnD where
 N:=6
 np:=1
 cs:=[j5k]
 ds:=[]
 modes:=[(231,[false])]
 ro:=[false]
theorem j8W:Con.OK Tryz.prog j3b:=
 cOf j0r j04 j9k j3b Tryz.func230 (j9 j9M trivial) trivial
def j3c:Con:=⟨309,[.v (.list iT),.clo 230 []],[(.list iT)],⟨[.v iT],[]⟩,[iT],fun h=>Pw.j1E h⟩
def j9l:FnD where
 N:=19
 np:=2
 cs:=[j3b]
 ds:=[⟨0,[.s (.one (.d (.list iT))),.s (.one (.clo 230 [])),sI,sI],[(.list iT),iT,iT],[⟨.ret,[sI],[iT]⟩,⟨.exit 0,[],[]⟩],Pw.unc3 (Pw.j0s)⟩]
 modes:=[(230,[false])]
 keep:=[(0,⟨[0,1,7,8],[],[],[]⟩)]
 keepX:=[(0,.ret,⟨[4],[],[],[]⟩),
  (0,.exit 0,⟨[],[],[],[]⟩)]
 ro:=[false]
theorem j8X:Con.OK Tryz.prog j3c:=
 cOf j0r j04 j9l j3c Tryz.func309 (j9 j8W trivial) (j9 (fun h=>by kernel_rfl) trivial)
end Go.Proofs.Pk
