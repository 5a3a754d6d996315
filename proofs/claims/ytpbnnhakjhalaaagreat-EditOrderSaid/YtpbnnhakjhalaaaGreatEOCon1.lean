/- Contracts: each given function is its plain function, printed by a program. -/
import Derived.Test.YtpbnnhakjhalaaaGreatEOCon0
noncomputable section
open Go Go.Lft
set_option linter.unusedVariables false
set_option maxRecDepth 100000
namespace Go.Proofs.Pk
def j0K:Con:=⟨341,[.rl 332 ty13,.clo 342 []],[ty13],⟨[],[.rl ty13]⟩,[ty13],fun h=>Pw.j0a h⟩
def j3b:FnD where
 N:=9
 np:=2
 cs:=[j1x]
 ds:=[]
 modes:=[(393,[true,false,false])]
theorem j2V:Con.OK Tryz.prog j0K:=
 cOf j0e j03 j3b j0K Tryz.func341 (j9 j5U trivial) trivial
def j6l:Con:=⟨292,[.v ty65],[ty65],⟨[.own 332 ty13,.v iT],[]⟩,[ty13,iT],fun h=>Pw.j36 h⟩
def jgj:FnD where
 N:=86
 np:=1
 cs:=[ja9,jcm,jcn,j0K]
 ds:=[⟨0,[.s (.one (.bp 64 0)),sI,.s (.one (.d ty58)),sI,sI,.b (.cell [.d .str,.d iT,.d ty58] false)],[iT,ty58,iT,iT,.str,iT,ty58],[⟨.ret,[.s (.one (.nil)),sI],[iT]⟩,⟨.exit 0,[.s (.one (.bp 64 0)),sI,.b (.cell [.d .str,.d iT,.d ty58] false)],[iT,.str,iT,ty58]⟩],Pw.unc7 (Pw.j25)⟩,
  ⟨2,[.s (.one (.ol 1002000)),.s (.one (.d ty58)),sI,sI,.b (.lst 332 ty8 false)],[ty58,iT,iT,ty13],[⟨.exit 2,[.s (.one (.ol 1502300)),.b (.lst 332 ty8 false)],[ty13]⟩],Pw.unc4 (Pw.j0S)⟩,
  ⟨4,[.s (.one (.ol 1004000)),.s (.one (.bp 640 0)),sI,.s (.one (.d ty58)),sI,sI,.b (.cell [.d iT,.d iT,.d iT,.d iT,.d iT,.d iT,.d iT] false),.b (.lst 332 ty8 false)],[iT,ty58,iT,iT,iT,iT,iT,iT,iT,iT,iT,ty13],[⟨.exit 4,[.s (.one (.ol 1504500)),.s (.one (.d ty58)),sI,sI,.b (.lst 332 ty8 false)],[ty58,iT,iT,ty13]⟩],Pw.jwe (Pw.j0R)⟩]
 modes:=[(293,[false,false,false]),(339,[false]),(340,[false,false,false,false]),(341,[true,false])]
 keep:=[(0,⟨[1,4,23,24,25],[64],[],[]⟩),
  (2,⟨[8,46,47,48],[],[⟨1002000,332,ty8,[.slot 8],false⟩],[]⟩),
  (4,⟨[8,10,11,46,47,48],[640],[⟨1004000,332,ty8,[.slot 8],false⟩],[]⟩)]
 keepX:=[(0,.ret,⟨[2,3],[],[],[]⟩),
  (0,.exit 0,⟨[1,4],[64],[],[]⟩),
  (2,.exit 2,⟨[8],[],[⟨1502300,332,ty8,[.slot 8],false⟩],[]⟩),
  (4,.exit 4,⟨[8,46,47,48],[],[⟨1504500,332,ty8,[.slot 8],false⟩],[]⟩)]
 ro:=[true,false]
theorem jfb:Con.OK Tryz.prog j6l:=
 cOf j0e j03 jgj j6l Tryz.func292 (j9 jh1 (j9 jn8 (j9 jnb (j9 j2V trivial)))) (j9 (fun h=>by kernel_rfl) (j9 (fun h=>by kernel_rfl) (j9 (fun h=>by kernel_rfl) trivial)))
def j4n:Con:=⟨201,[.v ty65],[ty65],⟨[.own 167 ty13,.v iT],[]⟩,[ty13,iT],fun h=>Pw.j1H h⟩
def jgk:FnD where
 N:=79
 np:=1
 cs:=[ja9,j6l]
 ds:=[⟨0,[.s (.one (.ol 1000000)),sI,.s (.one (.ol 1000001)),sI,sI,.b (.lst 167 ty8 false),.b (.lst 332 ty8 false)],[iT,iT,iT,ty13,ty13],[⟨.ret,[.s (.one (.nil)),sI],[iT]⟩,⟨.exit 0,[.s (.one (.ol 1500100)),.b (.lst 167 ty8 false)],[ty13]⟩],Pw.unc5 (Pw.j26)⟩]
 modes:=[(292,[false]),(293,[false,false,false])]
 keep:=[(0,⟨[6,7,22,23,24],[],[⟨1000000,167,ty8,[.slot 6],false⟩,⟨1000001,332,ty8,[.slot 22],false⟩],[]⟩)]
 keepX:=[(0,.ret,⟨[2,3],[],[],[]⟩),
  (0,.exit 0,⟨[6],[],[⟨1500100,167,ty8,[.slot 6],false⟩],[]⟩)]
 ro:=[true,false]
theorem jab:Con.OK Tryz.prog j4n:=
 cOf j0e j03 jgk j4n Tryz.func201 (j9 jh1 (j9 jfb trivial)) (j9 (fun h=>by kernel_rfl) trivial)
def jb2:Con:=⟨223,[.v ty65],[ty65],⟨[.v iT],[]⟩,[iT],fun h=>Pw.j72 h⟩
def jnc:FnD where
 N:=11
 np:=1
 cs:=[j4n]
 ds:=[]
 modes:=[(201,[false])]
 ro:=[false]
theorem jlE:Con.OK Tryz.prog jb2:=
 cOf j0e j03 jnc jb2 Tryz.func223 (j9 jab trivial) trivial
def j4E:Con:=⟨225,[.v ty55],[ty55],⟨[.v .bool],[]⟩,[.bool],fun h=>Pw.j6i h⟩
def jd2:FnD where
 N:=7
 np:=1
 cs:=[]
 ds:=[]
 ro:=[false]
theorem jco:Con.OK Tryz.prog j4E:=
 cOf j0e j03 jd2 j4E Tryz.func225 trivial trivial
def j19:Con:=⟨305,[.v ty58,.clo 225 []],[ty58],⟨[.v iT],[]⟩,[iT],fun h=>Pw.j0r h⟩
def j4I:FnD where
 N:=19
 np:=2
 cs:=[j4E]
 ds:=[⟨0,[.s (.one (.d ty58)),.s (.one (.clo 225 [])),sI,sI],[ty58,iT,iT],[⟨.ret,[sI],[iT]⟩,⟨.exit 0,[],[]⟩],Pw.unc3 (Pw.j0n)⟩]
 modes:=[(225,[false])]
 keep:=[(0,⟨[0,1,7,8],[],[],[]⟩)]
 keepX:=[(0,.ret,⟨[4],[],[],[]⟩),
  (0,.exit 0,⟨[],[],[],[]⟩)]
 ro:=[false]
theorem j4F:Con.OK Tryz.prog j19:=
 cOf j0e j03 j4I j19 Tryz.func305 (j9 jco trivial) (j9 (fun h=>by kernel_rfl) trivial)
def j12:Con:=⟨224,[.v ty58,.clo 225 []],[ty58],⟨[.v .bool],[]⟩,[.bool],fun h=>Pw.j0l h⟩
def j4c:FnD where
 N:=9
 np:=2
 cs:=[j19]
 ds:=[]
 modes:=[(305,[false,false])]
 ro:=[false]
theorem j44:Con.OK Tryz.prog j12:=
 cOf j0e j03 j4c j12 Tryz.func224 (j9 j4F trivial) trivial
def j5V:Con:=⟨151,[.v ty65],[ty65],⟨[.v iT],[]⟩,[iT],fun h=>Pw.j27 h⟩
def jfc:FnD where
 N:=17
 np:=1
 cs:=[jb2,j12]
 ds:=[]
 modes:=[(223,[false]),(224,[false,false])]
 ro:=[false]
theorem jeu:Con.OK Tryz.prog j5V:=
 cOf j0e j03 jfc j5V Tryz.func151 (j9 jlE (j9 j44 trivial)) trivial
def j3I:Con:=⟨149,[.v ty66,.clo 150 [],.clo 151 []],[ty66],⟨[.v iT],[]⟩,[iT],fun h=>Pw.j1v h⟩
def jbN:FnD where
 N:=34
 np:=3
 cs:=[j6k,j3a,j5V]
 ds:=[⟨0,[.s (.one (.clo 150 [])),.s (.one (.clo 151 [])),.s (.one (.ol 1000000)),.s (.one (.d ty66)),sI,sI,.b (.lst 4294967512 (.pair .str .bool) false)],[ty66,iT,iT,(.list (.pair .str .bool))],[⟨.ret,[sI],[iT]⟩,⟨.exit 0,[],[]⟩],Pw.unc4 (Pw.j0A)⟩]
 modes:=[(150,[false]),(151,[false]),(152,[false,true])]
 keep:=[(0,⟨[1,2,7,13,14,15],[],[⟨1000000,4294967512,(.pair .str .bool),[.slot 7],false⟩],[]⟩)]
 keepX:=[(0,.ret,⟨[6],[],[],[]⟩),
  (0,.exit 0,⟨[],[],[],[]⟩)]
 ro:=[false]
theorem jb3:Con.OK Tryz.prog j3I:=
 cOf j0e j03 jbN j3I Tryz.func149 (j9 jfa (j9 j5S (j9 jeu trivial))) (j9 (fun h=>by kernel_rfl) trivial)
def j2G:Con:=⟨227,[.v iT,.v iT],[iT,iT],⟨[.v .bool],[]⟩,[.bool],Pw.unc2 Pw.j1J⟩
def jj5:FnD where
 N:=12
 np:=2
 cs:=[]
 ds:=[]
 ro:=[false]
theorem j5d:Con.OK Tryz.prog j2G:=
 cOf j0e j03 jj5 j2G Tryz.func227 trivial trivial
def j8l:Con:=⟨197,[.v ty13],[ty13],⟨[.v iT],[]⟩,[iT],fun h=>Pw.j73 h⟩
def jnd:FnD where
 N:=46
 np:=1
 cs:=[]
 ds:=[⟨0,[.s (.one (.d ty13)),.s (.one (.d ty13)),sI,sI],[ty13,ty13,iT,iT],[⟨.ret,[sI],[iT]⟩,⟨.exit 0,[],[]⟩],Pw.unc4 (Pw.j3P)⟩]
 keep:=[(0,⟨[0,8,9,10],[],[],[]⟩)]
 keepX:=[(0,.ret,⟨[2],[],[],[]⟩),
  (0,.exit 0,⟨[],[],[],[]⟩)]
 ro:=[false]
theorem jgl:Con.OK Tryz.prog j8l:=
 cOf j0e j03 jnd j8l Tryz.func197 trivial (j9 (fun h=>by kernel_rfl) trivial)
def j6G:Con:=⟨308,[.v iT,.v iT,.v iT],[iT,iT,iT],⟨[.v .bool],[]⟩,[.bool],Pw.unc3 Pw.j68⟩
def jne:FnD where
 N:=15
 np:=3
 cs:=[]
 ds:=[]
 ro:=[false]
theorem jcp:Con.OK Tryz.prog j6G:=
 cOf j0e j03 jne j6G Tryz.func308 trivial trivial
def j8a:Con:=⟨228,[.v iT],[iT],⟨[.v .bool],[]⟩,[.bool],fun h=>Pw.j3Q h⟩
def jj6:FnD where
 N:=10
 np:=1
 cs:=[j6G]
 ds:=[]
 modes:=[(308,[false,false,false])]
 ro:=[false]
theorem jhD:Con.OK Tryz.prog j8a:=
 cOf j0e j03 jj6 j8a Tryz.func228 (j9 jcp trivial) trivial
def j4W:Con:=⟨153,[.v ty84,.v ty53],[ty84,ty53],⟨[.v iT],[]⟩,[iT],Pw.unc2 Pw.j1n⟩
def jdT:FnD where
 N:=29
 np:=2
 cs:=[j2G,j8l,j8a]
 ds:=[]
 modes:=[(197,[false]),(227,[false,false]),(228,[false])]
 ro:=[false]
theorem jd3:Con.OK Tryz.prog j4W:=
 cOf j0e j03 jdT j4W Tryz.func153 (j9 j5d (j9 jgl (j9 jhD trivial))) trivial
def j6m:Con:=⟨155,[.v ty24],[ty24],⟨[.v .str],[]⟩,[.str],fun h=>Pw.j92 h⟩
def jgm:FnD where
 N:=5
 np:=1
 cs:=[]
 ds:=[]
 ro:=[false]
theorem jfd:Con.OK Tryz.prog j6m:=
 cOf j0e j03 jgm j6m Tryz.func155 trivial trivial
def jb4:Con:=⟨348,[.v iT],[iT],⟨[.v iT],[]⟩,[iT],fun h=>Pw.jbB h⟩
def jnf:FnD where
 N:=15
 np:=1
 cs:=[j7p,j5T]
 ds:=[⟨0,[sI,sI],[iT,iT],[⟨.exit 0,[sI],[iT]⟩],Pw.unc2 (Pw.jaP)⟩]
 modes:=[(347,[false]),(395,[false,false])]
 keep:=[(0,⟨[0,3],[],[],[]⟩)]
 keepX:=[(0,.exit 0,⟨[3],[],[],[]⟩)]
 ro:=[false]
theorem jlF:Con.OK Tryz.prog jb4:=
 cOf j0e j03 jnf jb4 Tryz.func348 (j9 jeN (j9 jb1 trivial)) (j9 (fun h=>by kernel_rfl) trivial)
def j96:Con:=⟨310,[.v iT],[iT],⟨[.v ty21,.v iT],[]⟩,[ty21,iT],fun h=>Pw.j4K h⟩
def jjV:FnD where
 N:=45
 np:=1
 cs:=[j5j,j5T,jb4]
 ds:=[⟨0,[.s (.one (.bp 128 0)),.s (.one (.bp 256 0)),sI,.b (.cell [.d iT,.d iT,.d iT] false),.b (.cell [.d iT,.d iT,.d iT] false)],[iT,iT,iT,iT,iT,iT,iT],[⟨.exit 0,[.s (.one (.bp 128 0)),.s (.one (.bp 256 0)),sI,.b (.cell [.d iT,.d iT,.d iT] false),.b (.cell [.d iT,.d iT,.d iT] false)],[iT,iT,iT,iT,iT,iT,iT]⟩],Pw.unc7 (Pw.j9n)⟩]
 modes:=[(347,[false]),(348,[false]),(349,[false,false])]
 keep:=[(0,⟨[2,4,5],[128,256],[],[]⟩)]
 keepX:=[(0,.exit 0,⟨[2,4,5],[128,256],[],[]⟩)]
 ro:=[false,false]
theorem jj7:Con.OK Tryz.prog j96:=
 cOf j0e j03 jjV j96 Tryz.func310 (j9 j9v (j9 jb1 (j9 jlF trivial))) (j9 (fun h=>by kernel_rfl) trivial)
def j5W:Con:=⟨231,[.v iT],[iT],⟨[.v .bool],[]⟩,[.bool],fun h=>Pw.j0P h⟩
def jlG:FnD where
 N:=12
 np:=1
 cs:=[j96]
 ds:=[]
 modes:=[(310,[false])]
 ro:=[false]
theorem jb5:Con.OK Tryz.prog j5W:=
 cOf j0e j03 jlG j5W Tryz.func231 (j9 jj7 trivial) trivial
def j3h:Con:=⟨230,[.v iT],[iT],⟨[.v .bool],[]⟩,[.bool],fun h=>Pw.j1y h⟩
def jaB:FnD where
 N:=6
 np:=1
 cs:=[j5W]
 ds:=[]
 modes:=[(231,[false])]
 ro:=[false]
theorem jac:Con.OK Tryz.prog j3h:=
 cOf j0e j03 jaB j3h Tryz.func230 (j9 jb5 trivial) trivial
def j3i:Con:=⟨309,[.v (.list iT),.clo 230 []],[(.list iT)],⟨[.v iT],[]⟩,[iT],fun h=>Pw.j1z h⟩
def jaC:FnD where
 N:=19
 np:=2
 cs:=[j3h]
 ds:=[⟨0,[.s (.one (.d (.list iT))),.s (.one (.clo 230 [])),sI,sI],[(.list iT),iT,iT],[⟨.ret,[sI],[iT]⟩,⟨.exit 0,[],[]⟩],Pw.unc3 (Pw.j0t)⟩]
 modes:=[(230,[false])]
 keep:=[(0,⟨[0,1,7,8],[],[],[]⟩)]
 keepX:=[(0,.ret,⟨[4],[],[],[]⟩),
  (0,.exit 0,⟨[],[],[],[]⟩)]
 ro:=[false]
theorem jad:Con.OK Tryz.prog j3i:=
 cOf j0e j03 jaC j3i Tryz.func309 (j9 jac trivial) (j9 (fun h=>by kernel_rfl) trivial)
end Go.Proofs.Pk
