/- Contracts: each given function is its plain function, printed by a program. -/
import Derived.Test.YtpbnnhakjhalaaaGreatSLCon0
noncomputable section
open Go Go.Lft
set_option linter.unusedVariables false
set_option maxRecDepth 100000
namespace Go.Proofs.Pk
def j0K:Con:=⟨341,[.rl 332 ty13,.clo 342 []],[ty13],⟨[],[.rl ty13]⟩,[ty13],fun h=>Pw.j07 h⟩
def j39:FnD where
 N:=9
 np:=2
 cs:=[j1C]
 ds:=[]
 modes:=[(393,[true,false,false])]
theorem j2X:Con.OK Tryz.prog j0K:=
 cOf j0l j04 j39 j0K Tryz.func341 (j9 j5n trivial) trivial
def j5P:Con:=⟨292,[.v ty65],[ty65],⟨[.own 332 ty13,.v iT],[]⟩,[ty13,iT],fun h=>Pw.j35 h⟩
def jf5:FnD where
 N:=86
 np:=1
 cs:=[j9G,jbJ,jbK,j0K]
 ds:=[⟨0,[.s (.one (.bp 64 0)),sI,.s (.one (.d ty58)),sI,sI,.b (.cell [.d .str,.d iT,.d ty58] false)],[iT,ty58,iT,iT,.str,iT,ty58],[⟨.ret,[.s (.one (.nil)),sI],[iT]⟩,⟨.exit 0,[.s (.one (.bp 64 0)),sI,.b (.cell [.d .str,.d iT,.d ty58] false)],[iT,.str,iT,ty58]⟩],Pw.unc7 (Pw.j2e)⟩,
  ⟨2,[.s (.one (.ol 1002000)),.s (.one (.d ty58)),sI,sI,.b (.lst 332 ty8 false)],[ty58,iT,iT,ty13],[⟨.exit 2,[.s (.one (.ol 1502300)),.b (.lst 332 ty8 false)],[ty13]⟩],Pw.unc4 (Pw.j0T)⟩,
  ⟨4,[.s (.one (.ol 1004000)),.s (.one (.bp 640 0)),sI,.s (.one (.d ty58)),sI,sI,.b (.cell [.d iT,.d iT,.d iT,.d iT,.d iT,.d iT,.d iT] false),.b (.lst 332 ty8 false)],[iT,ty58,iT,iT,iT,iT,iT,iT,iT,iT,iT,ty13],[⟨.exit 4,[.s (.one (.ol 1504500)),.s (.one (.d ty58)),sI,sI,.b (.lst 332 ty8 false)],[ty58,iT,iT,ty13]⟩],Pw.jrO (Pw.j0S)⟩]
 modes:=[(293,[false,false,false]),(339,[false]),(340,[false,false,false,false]),(341,[true,false])]
 keep:=[(0,⟨[1,4,23,24,25],[64],[],[]⟩),
  (2,⟨[8,46,47,48],[],[⟨1002000,332,ty8,[.slot 8],false⟩],[]⟩),
  (4,⟨[8,10,11,46,47,48],[640],[⟨1004000,332,ty8,[.slot 8],false⟩],[]⟩)]
 keepX:=[(0,.ret,⟨[2,3],[],[],[]⟩),
  (0,.exit 0,⟨[1,4],[64],[],[]⟩),
  (2,.exit 2,⟨[8],[],[⟨1502300,332,ty8,[.slot 8],false⟩],[]⟩),
  (4,.exit 4,⟨[8,46,47,48],[],[⟨1504500,332,ty8,[.slot 8],false⟩],[]⟩)]
 ro:=[true,false]
theorem je3:Con.OK Tryz.prog j5P:=
 cOf j0l j04 jf5 j5P Tryz.func292 (j9 jg2 (j9 jlV (j9 jlY (j9 j2X trivial)))) (j9 (fun h=>by kernel_rfl) (j9 (fun h=>by kernel_rfl) (j9 (fun h=>by kernel_rfl) trivial)))
def j4e:Con:=⟨201,[.v ty65],[ty65],⟨[.own 167 ty13,.v iT],[]⟩,[ty13,iT],fun h=>Pw.j1N h⟩
def jf6:FnD where
 N:=79
 np:=1
 cs:=[j9G,j5P]
 ds:=[⟨0,[.s (.one (.ol 1000000)),sI,.s (.one (.ol 1000001)),sI,sI,.b (.lst 167 ty8 false),.b (.lst 332 ty8 false)],[iT,iT,iT,ty13,ty13],[⟨.ret,[.s (.one (.nil)),sI],[iT]⟩,⟨.exit 0,[.s (.one (.ol 1500100)),.b (.lst 167 ty8 false)],[ty13]⟩],Pw.unc5 (Pw.j2f)⟩]
 modes:=[(292,[false]),(293,[false,false,false])]
 keep:=[(0,⟨[6,7,22,23,24],[],[⟨1000000,167,ty8,[.slot 6],false⟩,⟨1000001,332,ty8,[.slot 22],false⟩],[]⟩)]
 keepX:=[(0,.ret,⟨[2,3],[],[],[]⟩),
  (0,.exit 0,⟨[6],[],[⟨1500100,167,ty8,[.slot 6],false⟩],[]⟩)]
 ro:=[true,false]
theorem j9I:Con.OK Tryz.prog j4e:=
 cOf j0l j04 jf6 j4e Tryz.func201 (j9 jg2 (j9 je3 trivial)) (j9 (fun h=>by kernel_rfl) trivial)
def jaE:Con:=⟨223,[.v ty65],[ty65],⟨[.v iT],[]⟩,[iT],fun h=>Pw.j6x h⟩
def jlZ:FnD where
 N:=11
 np:=1
 cs:=[j4e]
 ds:=[]
 modes:=[(201,[false])]
 ro:=[false]
theorem jkB:Con.OK Tryz.prog jaE:=
 cOf j0l j04 jlZ jaE Tryz.func223 (j9 j9I trivial) trivial
def j4m:Con:=⟨225,[.v ty55],[ty55],⟨[.v .bool],[]⟩,[.bool],fun h=>Pw.j5N h⟩
def jcg:FnD where
 N:=7
 np:=1
 cs:=[]
 ds:=[]
 ro:=[false]
theorem jbL:Con.OK Tryz.prog j4m:=
 cOf j0l j04 jcg j4m Tryz.func225 trivial trivial
def j1b:Con:=⟨305,[.v ty58,.clo 225 []],[ty58],⟨[.v iT],[]⟩,[iT],fun h=>Pw.j0q h⟩
def j4p:FnD where
 N:=19
 np:=2
 cs:=[j4m]
 ds:=[⟨0,[.s (.one (.d ty58)),.s (.one (.clo 225 [])),sI,sI],[ty58,iT,iT],[⟨.ret,[sI],[iT]⟩,⟨.exit 0,[],[]⟩],Pw.unc3 (Pw.j0m)⟩]
 modes:=[(225,[false])]
 keep:=[(0,⟨[0,1,7,8],[],[],[]⟩)]
 keepX:=[(0,.ret,⟨[4],[],[],[]⟩),
  (0,.exit 0,⟨[],[],[],[]⟩)]
 ro:=[false]
theorem j4n:Con.OK Tryz.prog j1b:=
 cOf j0l j04 j4p j1b Tryz.func305 (j9 jbL trivial) (j9 (fun h=>by kernel_rfl) trivial)
def j14:Con:=⟨224,[.v ty58,.clo 225 []],[ty58],⟨[.v .bool],[]⟩,[.bool],fun h=>Pw.j0j h⟩
def j42:FnD where
 N:=9
 np:=2
 cs:=[j1b]
 ds:=[]
 modes:=[(305,[false,false])]
 ro:=[false]
theorem j3U:Con.OK Tryz.prog j14:=
 cOf j0l j04 j42 j14 Tryz.func224 (j9 j4n trivial) trivial
def j5o:Con:=⟨151,[.v ty65],[ty65],⟨[.v iT],[]⟩,[iT],fun h=>Pw.j2g h⟩
def je4:FnD where
 N:=17
 np:=1
 cs:=[jaE,j14]
 ds:=[]
 modes:=[(223,[false]),(224,[false,false])]
 ro:=[false]
theorem jdr:Con.OK Tryz.prog j5o:=
 cOf j0l j04 je4 j5o Tryz.func151 (j9 jkB (j9 j3U trivial)) trivial
def j3D:Con:=⟨149,[.v ty66,.clo 150 [],.clo 151 []],[ty66],⟨[.v iT],[]⟩,[iT],fun h=>Pw.j1z h⟩
def jb7:FnD where
 N:=34
 np:=3
 cs:=[j5O,j38,j5o]
 ds:=[⟨0,[.s (.one (.clo 150 [])),.s (.one (.clo 151 [])),.s (.one (.ol 1000000)),.s (.one (.d ty66)),sI,sI,.b (.lst 4294967512 (.pair .str .bool) false)],[ty66,iT,iT,(.list (.pair .str .bool))],[⟨.ret,[sI],[iT]⟩,⟨.exit 0,[],[]⟩],Pw.unc4 (Pw.j0A)⟩]
 modes:=[(150,[false]),(151,[false]),(152,[false,true])]
 keep:=[(0,⟨[1,2,7,13,14,15],[],[⟨1000000,4294967512,(.pair .str .bool),[.slot 7],false⟩],[]⟩)]
 keepX:=[(0,.ret,⟨[6],[],[],[]⟩),
  (0,.exit 0,⟨[],[],[],[]⟩)]
 ro:=[false]
theorem jaF:Con.OK Tryz.prog j3D:=
 cOf j0l j04 jb7 j3D Tryz.func149 (j9 je2 (j9 j5l (j9 jdr trivial))) (j9 (fun h=>by kernel_rfl) trivial)
def j2L:Con:=⟨227,[.v iT,.v iT],[iT,iT],⟨[.v .bool],[]⟩,[.bool],Pw.unc2 Pw.j1Q⟩
def ji3:FnD where
 N:=12
 np:=2
 cs:=[]
 ds:=[]
 ro:=[false]
theorem j4K:Con.OK Tryz.prog j2L:=
 cOf j0l j04 ji3 j2L Tryz.func227 trivial trivial
def j7P:Con:=⟨197,[.v ty13],[ty13],⟨[.v iT],[]⟩,[iT],fun h=>Pw.j6y h⟩
def jm0:FnD where
 N:=46
 np:=1
 cs:=[]
 ds:=[⟨0,[.s (.one (.d ty13)),.s (.one (.d ty13)),sI,sI],[ty13,ty13,iT,iT],[⟨.ret,[sI],[iT]⟩,⟨.exit 0,[],[]⟩],Pw.unc4 (Pw.j3K)⟩]
 keep:=[(0,⟨[0,8,9,10],[],[],[]⟩)]
 keepX:=[(0,.ret,⟨[2],[],[],[]⟩),
  (0,.exit 0,⟨[],[],[],[]⟩)]
 ro:=[false]
theorem jf7:Con.OK Tryz.prog j7P:=
 cOf j0l j04 jm0 j7P Tryz.func197 trivial (j9 (fun h=>by kernel_rfl) trivial)
def j6c:Con:=⟨308,[.v iT,.v iT,.v iT],[iT,iT,iT],⟨[.v .bool],[]⟩,[.bool],Pw.unc3 Pw.j5A⟩
def jm1:FnD where
 N:=15
 np:=3
 cs:=[]
 ds:=[]
 ro:=[false]
theorem jbM:Con.OK Tryz.prog j6c:=
 cOf j0l j04 jm1 j6c Tryz.func308 trivial trivial
def j7G:Con:=⟨228,[.v iT],[iT],⟨[.v .bool],[]⟩,[.bool],fun h=>Pw.j4w h⟩
def ji4:FnD where
 N:=10
 np:=1
 cs:=[j6c]
 ds:=[]
 modes:=[(308,[false,false,false])]
 ro:=[false]
theorem jgC:Con.OK Tryz.prog j7G:=
 cOf j0l j04 ji4 j7G Tryz.func228 (j9 jbM trivial) trivial
def j4B:Con:=⟨153,[.v ty84,.v ty53],[ty84,ty53],⟨[.v iT],[]⟩,[iT],Pw.unc2 Pw.j1n⟩
def jcV:FnD where
 N:=29
 np:=2
 cs:=[j2L,j7P,j7G]
 ds:=[]
 modes:=[(197,[false]),(227,[false,false]),(228,[false])]
 ro:=[false]
theorem jch:Con.OK Tryz.prog j4B:=
 cOf j0l j04 jcV j4B Tryz.func153 (j9 j4K (j9 jf7 (j9 jgC trivial))) trivial
def j5Q:Con:=⟨155,[.v ty24],[ty24],⟨[.v .str],[]⟩,[.str],fun h=>Pw.j8t h⟩
def jf8:FnD where
 N:=5
 np:=1
 cs:=[]
 ds:=[]
 ro:=[false]
theorem je5:Con.OK Tryz.prog j5Q:=
 cOf j0l j04 jf8 j5Q Tryz.func155 trivial trivial
def jaG:Con:=⟨348,[.v iT],[iT],⟨[.v iT],[]⟩,[iT],fun h=>Pw.jb3 h⟩
def jm2:FnD where
 N:=15
 np:=1
 cs:=[j6X,j5m]
 ds:=[⟨0,[sI,sI],[iT,iT],[⟨.exit 0,[sI],[iT]⟩],Pw.unc2 (Pw.jar)⟩]
 modes:=[(347,[false]),(395,[false,false])]
 keep:=[(0,⟨[0,3],[],[],[]⟩)]
 keepX:=[(0,.exit 0,⟨[3],[],[],[]⟩)]
 ro:=[false]
theorem jkC:Con.OK Tryz.prog jaG:=
 cOf j0l j04 jm2 jaG Tryz.func348 (j9 jdG (j9 jaD trivial)) (j9 (fun h=>by kernel_rfl) trivial)
def j8x:Con:=⟨310,[.v iT],[iT],⟨[.v ty21,.v iT],[]⟩,[ty21,iT],fun h=>Pw.j6z h⟩
def jiM:FnD where
 N:=45
 np:=1
 cs:=[j4Q,j5m,jaG]
 ds:=[⟨0,[.s (.one (.bp 128 0)),.s (.one (.bp 256 0)),sI,.b (.cell [.d iT,.d iT,.d iT] false),.b (.cell [.d iT,.d iT,.d iT] false)],[iT,iT,iT,iT,iT,iT,iT],[⟨.exit 0,[.s (.one (.bp 128 0)),.s (.one (.bp 256 0)),sI,.b (.cell [.d iT,.d iT,.d iT] false),.b (.cell [.d iT,.d iT,.d iT] false)],[iT,iT,iT,iT,iT,iT,iT]⟩],Pw.unc7 (Pw.j8Q)⟩]
 modes:=[(347,[false]),(348,[false]),(349,[false,false])]
 keep:=[(0,⟨[2,4,5],[128,256],[],[]⟩)]
 keepX:=[(0,.exit 0,⟨[2,4,5],[128,256],[],[]⟩)]
 ro:=[false,false]
theorem ji5:Con.OK Tryz.prog j8x:=
 cOf j0l j04 jiM j8x Tryz.func310 (j9 j94 (j9 jaD (j9 jkC trivial))) (j9 (fun h=>by kernel_rfl) trivial)
def j5p:Con:=⟨231,[.v iT],[iT],⟨[.v .bool],[]⟩,[.bool],fun h=>Pw.j1o h⟩
def jkD:FnD where
 N:=12
 np:=1
 cs:=[j8x]
 ds:=[]
 modes:=[(310,[false])]
 ro:=[false]
theorem jaH:Con.OK Tryz.prog j5p:=
 cOf j0l j04 jkD j5p Tryz.func231 (j9 ji5 trivial) trivial
def j3j:Con:=⟨230,[.v iT],[iT],⟨[.v .bool],[]⟩,[.bool],fun h=>Pw.j1D h⟩
def jab:FnD where
 N:=6
 np:=1
 cs:=[j5p]
 ds:=[]
 modes:=[(231,[false])]
 ro:=[false]
theorem j9J:Con.OK Tryz.prog j3j:=
 cOf j0l j04 jab j3j Tryz.func230 (j9 jaH trivial) trivial
def j3k:Con:=⟨309,[.v (.list iT),.clo 230 []],[(.list iT)],⟨[.v iT],[]⟩,[iT],fun h=>Pw.j1E h⟩
def jac:FnD where
 N:=19
 np:=2
 cs:=[j3j]
 ds:=[⟨0,[.s (.one (.d (.list iT))),.s (.one (.clo 230 [])),sI,sI],[(.list iT),iT,iT],[⟨.ret,[sI],[iT]⟩,⟨.exit 0,[],[]⟩],Pw.unc3 (Pw.j0s)⟩]
 modes:=[(230,[false])]
 keep:=[(0,⟨[0,1,7,8],[],[],[]⟩)]
 keepX:=[(0,.ret,⟨[4],[],[],[]⟩),
  (0,.exit 0,⟨[],[],[],[]⟩)]
 ro:=[false]
theorem j9K:Con.OK Tryz.prog j3k:=
 cOf j0l j04 jac j3k Tryz.func309 (j9 j9J trivial) (j9 (fun h=>by kernel_rfl) trivial)
end Go.Proofs.Pk
