/- Contracts: each given function is its plain function, printed by a program. -/
import Derived.Test.YtllkgjaoejhneaaGreatDECon0
open _root_ renaming trivial->e
open Bool renaming false->i,true->j
noncomputable section
open Go Go.Lft
set_option linter.unusedVariables false
set_option maxRecDepth 100000
namespace Go.Proofs.Pk
def j0z:Con:=⟨284,[.rl 289 ty14,.clo 285 []],[ty14],⟨[],[.rl ty14]⟩,[ty14],fun h=>Pw.j0f h⟩
def j3n:FnD where
 N:=9
 np:=2
 cs:=[j1u]
 modes:=[(301,[j,i,i])]
theorem j34:OKc j0z:=
 cOf j0d j04 j3n j0z Tryz.func284 (jg j65 e) e
def j6x:Con:=⟨263,[.v ty66],[ty66],⟨[.own 289 ty14,.v iT],[]⟩,[ty14,iT],fun h=>Pw.j1V h⟩
def jh3:FnD where
 N:=86
 np:=1
 cs:=[jaL,jdn,jdo,j0z]
 ds:=[⟨0,[sB 64 0,sI,sD ty59,sI,sI,.b (.cell [.d .str,.d iT,.d ty59] i)],[iT,ty59,iT,iT,.str,iT,ty59],[⟨.ret,[.s (.one (.nil)),sI],[iT]⟩,⟨.exit 0,[sB 64 0,sI,.b (.cell [.d .str,.d iT,.d ty59] i)],[iT,.str,iT,ty59]⟩],Pw.unc7 (Pw.j1w)⟩,⟨2,[sO 1002000,sD ty59,sI,sI,.b (.lst 289 ty9 i)],[ty59,iT,iT,ty14],[⟨.exit 2,[sO 1502300,.b (.lst 289 ty9 i)],[ty14]⟩],Pw.unc4 (Pw.j20)⟩,⟨4,[sO 1004000,sB 640 0,sI,sD ty59,sI,sI,.b (.cell [.d iT,.d iT,.d iT,.d iT,.d iT,.d iT,.d iT] i),.b (.lst 289 ty9 i)],[iT,ty59,iT,iT,iT,iT,iT,iT,iT,iT,iT,ty14],[⟨.exit 4,[sO 1504500,sD ty59,sI,sI,.b (.lst 289 ty9 i)],[ty59,iT,iT,ty14]⟩],Pw.u8 Pw.unc4 (Pw.j1Z)⟩]
 modes:=[(284,[j,i])]
 keep:=[(0,⟨[1,4,23,24,25],[64],[],[]⟩),(2,⟨[8,46,47,48],[],[⟨1002000,289,ty9,[.slot 8],i⟩],[]⟩),(4,⟨[8,10,11,46,47,48],[640],[⟨1004000,289,ty9,[.slot 8],i⟩],[]⟩)]
 keepX:=[(0,.ret,⟨[2,3],[],[],[]⟩),(0,.exit 0,⟨[1,4],[64],[],[]⟩),(2,.exit 2,⟨[8],[],[⟨1502300,289,ty9,[.slot 8],i⟩],[]⟩),(4,.exit 4,⟨[8,46,47,48],[],[⟨1504500,289,ty9,[.slot 8],i⟩],[]⟩)]
 ro:=[j,i]
theorem jg2:OKc j6x:=
 cOf j0d j04 jh3 j6x Tryz.func263 (jg jhV (jg jol (jg joo (jg j34 e)))) (jg (fun h=>by kernel_rfl) (jg (fun h=>by kernel_rfl) (jg (fun h=>by kernel_rfl) e)))
def j4F:Con:=⟨228,[.v ty66],[ty66],⟨[.own 200 ty14,.v iT],[]⟩,[ty14,iT],fun h=>Pw.j0M h⟩
def jh4:FnD where
 N:=79
 np:=1
 cs:=[jaL,j6x]
 ds:=[⟨0,[sO 1000000,sI,sO 1000001,sI,sI,.b (.lst 200 ty9 i),.b (.lst 289 ty9 i)],[iT,iT,iT,ty14,ty14],[⟨.ret,[.s (.one (.nil)),sI],[iT]⟩,⟨.exit 0,[sO 1500100,.b (.lst 200 ty9 i)],[ty14]⟩],Pw.unc5 (Pw.j15)⟩]
 keep:=[(0,⟨[6,7,22,23,24],[],[⟨1000000,200,ty9,[.slot 6],i⟩,⟨1000001,289,ty9,[.slot 22],i⟩],[]⟩)]
 keepX:=[(0,.ret,⟨[2,3],[],[],[]⟩),(0,.exit 0,⟨[6],[],[⟨1500100,200,ty9,[.slot 6],i⟩],[]⟩)]
 ro:=[j,i]
theorem jaN:OKc j4F:=
 cOf j0d j04 jh4 j4F Tryz.func228 (jg jhV (jg jg2 e)) (jg (fun h=>by kernel_rfl) e)
def jbY:Con:=⟨174,[.v ty66],[ty66],⟨[.v iT],[]⟩,[iT],fun h=>Pw.jcz h⟩
def jop:FnD where
 N:=11
 np:=1
 cs:=[j4F]
theorem jmT:OKc jbY:=
 cOf j0d j04 jop jbY Tryz.func174 (jg jaN e) e
def j4V:Con:=⟨176,[.v ty56],[ty56],⟨[.v .bool],[]⟩,[.bool],fun h=>Pw.j6v h⟩
def jea:FnD where
 N:=7
 np:=1
theorem jdp:OKc j4V:=
 cOf j0d j04 jea j4V Tryz.func176 e e
def j14:Con:=⟨229,[.v ty59,.clo 176 []],[ty59],⟨[.v iT],[]⟩,[iT],fun h=>Pw.j1n h⟩
def j4X:FnD where
 N:=19
 np:=2
 cs:=[j4V]
 ds:=[⟨0,[sD ty59,sC 176 [],sI,sI],[ty59,iT,iT],[⟨.ret,[sI],[iT]⟩,⟨.exit 0,[],[]⟩],Pw.unc3 (Pw.j0i)⟩]
 keep:=[(0,⟨[0,1,7,8],[],[],[]⟩)]
 keepX:=[(0,.ret,⟨[4],[],[],[]⟩)]
theorem j4W:OKc j14:=
 cOf j0d j04 j4X j14 Tryz.func229 (jg jdp e) (jg (fun h=>by kernel_rfl) e)
def j0V:Con:=⟨175,[.v ty59,.clo 176 []],[ty59],⟨[.v .bool],[]⟩,[.bool],fun h=>Pw.j0D h⟩
def j4x:FnD where
 N:=9
 np:=2
 cs:=[j14]
theorem j4r:OKc j0V:=
 cOf j0d j04 j4x j0V Tryz.func175 (jg j4W e) e
def j66:Con:=⟨120,[.v ty66],[ty66],⟨[.v iT],[]⟩,[iT],fun h=>Pw.j1D h⟩
def jg3:FnD where
 N:=17
 np:=1
 cs:=[jbY,j0V]
theorem jfj:OKc j66:=
 cOf j0d j04 jg3 j66 Tryz.func120 (jg jmT (jg j4r e)) e
def j45:Con:=⟨118,[.v ty67,.clo 119 [],.clo 120 []],[ty67],⟨[.v iT],[]⟩,[iT],fun h=>Pw.j2x h⟩
def jcO:FnD where
 N:=34
 np:=3
 cs:=[j6w,j3m,j66]
 ds:=[⟨0,[sC 119 [],sC 120 [],sO 1000000,sD ty67,sI,sI,.b (.lst 4294967458 (.pair .str .bool) i)],[ty67,iT,iT,(.list (.pair .str .bool))],[⟨.ret,[sI],[iT]⟩,⟨.exit 0,[],[]⟩],Pw.unc4 (Pw.j0P)⟩]
 modes:=[(121,[i,j])]
 keep:=[(0,⟨[1,2,7,13,14,15],[],[⟨1000000,4294967458,(.pair .str .bool),[.slot 7],i⟩],[]⟩)]
 keepX:=[(0,.ret,⟨[6],[],[],[]⟩)]
theorem jbZ:OKc j45:=
 cOf j0d j04 jcO j45 Tryz.func118 (jg jg1 (jg j63 (jg jfj e))) (jg (fun h=>by kernel_rfl) e)
def j2G:Con:=⟨178,[.v iT,.v iT],[iT,iT],⟨[.v .bool],[]⟩,[.bool],Pw.unc2 Pw.j1f⟩
def jk2:FnD where
 N:=12
 np:=2
theorem j5u:OKc j2G:=
 cOf j0d j04 jk2 j2G Tryz.func178 e e
def j8L:Con:=⟨179,[.v ty14],[ty14],⟨[.v iT],[]⟩,[iT],fun h=>Pw.jaf h⟩
def joq:FnD where
 N:=46
 np:=1
 ds:=[⟨0,[sD ty14,sD ty14,sI,sI],[ty14,ty14,iT,iT],[⟨.ret,[sI],[iT]⟩,⟨.exit 0,[],[]⟩],Pw.unc4 (Pw.j4a)⟩]
 keep:=[(0,⟨[0,8,9,10],[],[],[]⟩)]
 keepX:=[(0,.ret,⟨[2],[],[],[]⟩)]
theorem jh5:OKc j8L:=
 cOf j0d j04 joq j8L Tryz.func179 e (jg (fun h=>by kernel_rfl) e)
def j6O:Con:=⟨232,[.v iT,.v iT,.v iT],[iT,iT,iT],⟨[.v .bool],[]⟩,[.bool],Pw.unc3 Pw.j36⟩
def jor:FnD where
 N:=15
 np:=3
theorem jdq:OKc j6O:=
 cOf j0d j04 jor j6O Tryz.func232 e e
def j8u:Con:=⟨180,[.v iT],[iT],⟨[.v .bool],[]⟩,[.bool],fun h=>Pw.j56 h⟩
def jk3:FnD where
 N:=10
 np:=1
 cs:=[j6O]
theorem jiD:OKc j8u:=
 cOf j0d j04 jk3 j8u Tryz.func180 (jg jdq e) e
def j5c:Con:=⟨122,[.v ty87,.v ty54],[ty87,ty54],⟨[.v iT],[]⟩,[iT],Pw.unc2 Pw.j3Q⟩
def jeG:FnD where
 N:=29
 np:=2
 cs:=[j2G,j8L,j8u]
theorem jeb:OKc j5c:=
 cOf j0d j04 jeG j5c Tryz.func122 (jg j5u (jg jh5 (jg jiD e))) e
def j6y:Con:=⟨124,[.v ty24],[ty24],⟨[.v .str],[]⟩,[.str],fun h=>Pw.j6V h⟩
def jh6:FnD where
 N:=5
 np:=1
theorem jg4:OKc j6y:=
 cOf j0d j04 jh6 j6y Tryz.func124 e e
def jc0:Con:=⟨266,[.v iT],[iT],⟨[.v iT],[]⟩,[iT],fun h=>Pw.jf3 h⟩
def jos:FnD where
 N:=15
 np:=1
 cs:=[j81,j64]
 ds:=[⟨0,[sI,sI],[iT,iT],[⟨.exit 0,[sI],[iT]⟩],Pw.unc2 (Pw.j4b)⟩]
 keep:=[(0,⟨[0,3],[],[],[]⟩)]
 keepX:=[(0,.exit 0,⟨[3],[],[],[]⟩)]
theorem jmU:OKc jc0:=
 cOf j0d j04 jos jc0 Tryz.func266 (jg jfB (jg jbX e)) (jg (fun h=>by kernel_rfl) e)
def j9u:Con:=⟨234,[.v iT],[iT],⟨[.v ty22,.v iT],[]⟩,[ty22,iT],fun h=>Pw.j4Z h⟩
def jkW:FnD where
 N:=45
 np:=1
 cs:=[j5x,j64,jc0]
 ds:=[⟨0,[sB 128 0,sB 256 0,sI,.b (.cell [.d iT,.d iT,.d iT] i),.b (.cell [.d iT,.d iT,.d iT] i)],[iT,iT,iT,iT,iT,iT,iT],[⟨.exit 0,[sB 128 0,sB 256 0,sI,.b (.cell [.d iT,.d iT,.d iT] i),.b (.cell [.d iT,.d iT,.d iT] i)],[iT,iT,iT,iT,iT,iT,iT]⟩],Pw.unc7 (Pw.j3p)⟩]
 keep:=[(0,⟨[2,4,5],[128,256],[],[]⟩)]
 keepX:=[(0,.exit 0,⟨[2,4,5],[128,256],[],[]⟩)]
theorem jk4:OKc j9u:=
 cOf j0d j04 jkW j9u Tryz.func234 (jg j9Z (jg jbX (jg jmU e))) (jg (fun h=>by kernel_rfl) e)
def j67:Con:=⟨183,[.v iT],[iT],⟨[.v .bool],[]⟩,[.bool],fun h=>Pw.j1g h⟩
def jmV:FnD where
 N:=12
 np:=1
 cs:=[j9u]
theorem jc1:OKc j67:=
 cOf j0d j04 jmV j67 Tryz.func183 (jg jk4 e) e
def j3C:Con:=⟨182,[.v iT],[iT],⟨[.v .bool],[]⟩,[.bool],fun h=>Pw.j37 h⟩
def jb6:FnD where
 N:=6
 np:=1
 cs:=[j67]
theorem jaO:OKc j3C:=
 cOf j0d j04 jb6 j3C Tryz.func182 (jg jc1 e) e
def j3D:Con:=⟨233,[.v (.list iT),.clo 182 []],[(.list iT)],⟨[.v iT],[]⟩,[iT],fun h=>Pw.j38 h⟩
def jb7:FnD where
 N:=19
 np:=2
 cs:=[j3C]
 ds:=[⟨0,[sD (.list iT),sC 182 [],sI,sI],[(.list iT),iT,iT],[⟨.ret,[sI],[iT]⟩,⟨.exit 0,[],[]⟩],Pw.unc3 (Pw.j0v)⟩]
 keep:=[(0,⟨[0,1,7,8],[],[],[]⟩)]
 keepX:=[(0,.ret,⟨[4],[],[],[]⟩)]
theorem jaP:OKc j3D:=
 cOf j0d j04 jb7 j3D Tryz.func233 (jg jaO e) (jg (fun h=>by kernel_rfl) e)
end Go.Proofs.Pk
