/- Contracts: each given function is its plain function, printed by a program. -/
import Derived.Test.YtlnljpfkgigljaaGreatPOCon0
open Bool renaming false->e
noncomputable section
open Go Go.Lft
set_option linter.unusedVariables false
set_option maxRecDepth 100000
namespace Go.Proofs.Pk
open Tryz
def j48:CKt:=
 cQ tb {} [] 224 [.rl 256 ty11,.clo 225 []] [] [.rl ty11] (λh=>Pw.j0t h) func224 [j7Z]
def jiv:CKt:=
 cQ tb {} [lD 0 [sB 64 0,sI,sD ty56,sI,sI,.b (.cell [.d .str,.d iT,.d ty56] e)] ⟨[1,4,23,24,25],[64],[]⟩ [xD .ret [.s (.one (.nil)),sI] ⟨[2,3],[],[]⟩,xD (.exit 0) [sB 64 0,sI,.b (.cell [.d .str,.d iT,.d ty56] e)] ⟨[1,4],[64],[]⟩] (Pw.unc7 (Pw.j2p)),lD 2 [sO 1,sD ty56,sI,sI,.b (.lst 256 ty6 e)] ⟨[8,46,47,48],[],[⟨1,256,ty6,[.slot 8],e⟩]⟩ [xD (.exit 2) [sO 2,.b (.lst 256 ty6 e)] ⟨[8],[],[⟨2,256,ty6,[.slot 8],e⟩]⟩] (Pw.unc4 (Pw.j2r)),lD 4 [sO 3,sB 640 0,sI,sD ty56,sI,sI,.b (.cell [.d iT,.d iT,.d iT,.d iT,.d iT,.d iT,.d iT] e),.b (.lst 256 ty6 e)] ⟨[8,10,11,46,47,48],[640],[⟨3,256,ty6,[.slot 8],e⟩]⟩ [xD (.exit 4) [sO 4,sD ty56,sI,sI,.b (.lst 256 ty6 e)] ⟨[8,46,47,48],[],[⟨4,256,ty6,[.slot 8],e⟩]⟩] (Pw.u8 Pw.unc4 (Pw.j2q))] 164 [.v ty63] [.own 256 ty11,.v iT] [] (λh=>Pw.j8w h) func164 [jlv,jr8,jr9,j48]
def jdw:CKt:=
 cQ tb {} [lD 0 [sO 1,sI,sO 2,sI,sI,.b (.lst 140 ty6 e),.b (.lst 256 ty6 e)] ⟨[6,7,22,23,24],[],[⟨1,140,ty6,[.slot 6],e⟩,⟨2,256,ty6,[.slot 22],e⟩]⟩ [xD .ret [.s (.one (.nil)),sI] ⟨[2,3],[],[]⟩,xD (.exit 0) [sO 3,.b (.lst 140 ty6 e)] ⟨[6],[],[⟨3,140,ty6,[.slot 6],e⟩]⟩] (Pw.unc5 (Pw.j2s))] 111 [.v ty63] [.own 140 ty11,.v iT] [] (λh=>Pw.j46 h) func111 [jlv,jiv]
def jpL:CKt:=
 cQ tb {} [] 145 [.v ty63] [.v iT] [] (λh=>Pw.je1 h) func145 [jdw]
def jfk:CKt:=
 cQ tb {} [] 147 [.v ty53] [.v .bool] [] (λh=>Pw.j86 h) func147
def j69:CKt:=
 cQ tb {} [lD 0 [sD ty56,sC 147 [],sI,sI] ⟨[0,1,7,8],[],[]⟩ [xD .ret [sI] ⟨[4],[],[]⟩,xD (.exit 0) [] ⟨[],[],[]⟩] (Pw.unc3 (Pw.j0j))] 204 [.v ty56,.clo 147 []] [.v iT] [] (λh=>Pw.j1A h) func204 [jfk]
def j5q:CKt:=
 cQ tb {} [] 146 [.v ty56,.clo 147 []] [.v .bool] [] (λh=>Pw.j1m h) func146 [j69]
def jhy:CKt:=
 cQ tb {} [] 94 [.v ty63] [.v iT] [] (λh=>Pw.j5D h) func94 [jpL,j5q]
def jeh:CKt:=
 cQ tb {} [lD 0 [sC 93 [],sC 94 [],sO 1,sD ty64,sI,sI,.b (.lst 4294967479 (.pair .str .bool) e)] ⟨[1,2,7,13,14,15],[],[⟨1,4294967479,(.pair .str .bool),[.slot 7],e⟩]⟩ [xD .ret [sI] ⟨[6],[],[]⟩,xD (.exit 0) [] ⟨[],[],[]⟩] (Pw.unc4 (Pw.j1s))] 92 [.v ty64,.clo 93 [],.clo 94 []] [.v iT] [] (λh=>Pw.j4P h) func92 [jit,j8k,jhy]
def j7J:CKt:=
 cQ tb {} [] 149 [.v iT,.v iT] [.v .bool] [] (Pw.unc2 Pw.j1R) func149
def jg6:CKt:=
 cQ tb {} [lD 0 [sD ty11,sD ty11,sI,sI] ⟨[0,8,9,10],[],[]⟩ [xD .ret [sI] ⟨[2],[],[]⟩,xD (.exit 0) [] ⟨[],[],[]⟩] (Pw.unc4 (Pw.j2M))] 107 [.v ty11] [.v iT] [] (λh=>Pw.j7P h) func107
def jg7:CKt:=
 cQ tb {} [] 207 [.v iT,.v iT,.v iT] [.v .bool] [] (Pw.unc3 Pw.j6Y) func207
def jlx:CKt:=
 cQ tb {} [] 150 [.v iT] [.v .bool] [] (λh=>Pw.j3t h) func150 [jg7]
def jg8:CKt:=
 cQ tb {} [] 96 [.v ty82,.v ty51] [.v iT] [] (Pw.unc2 Pw.j3f) func96 [j7J,jg6,jlx]
def jiw:CKt:=
 cQ tb {} [] 98 [.v ty22] [.v .str] [] (λh=>Pw.jbc h) func98
def jpM:CKt:=
 cQ tb {} [lD 0 [sI,sI] ⟨[0,3],[],[]⟩ [xD (.exit 0) [sI] ⟨[3],[],[]⟩] (Pw.unc2 (Pw.jd3))] 254 [.v iT] [.v iT] [] (λh=>Pw.jnf h) func254 [jiu,jeR]
def jmp:CKt:=
 cQ tb {} [lD 0 [sB 128 0,sB 256 0,sI,.b (.cell [.d iT,.d iT,.d iT] e),.b (.cell [.d iT,.d iT,.d iT] e)] ⟨[2,4,5],[128,256],[]⟩ [xD (.exit 0) [sB 128 0,sB 256 0,sI,.b (.cell [.d iT,.d iT,.d iT] e),.b (.cell [.d iT,.d iT,.d iT] e)] ⟨[2,4,5],[128,256],[]⟩] (Pw.unc7 (Pw.jbs))] 209 [.v iT] [.v ty19,.v iT] [] (λh=>Pw.j91 h) func209 [jdv,jeR,jpM]
def jeS:CKt:=
 cQ tb {} [] 153 [.v iT] [.v .bool] [] (λh=>Pw.j18 h) func153 [jmp]
def jcP:CKt:=
 cQ tb {} [] 152 [.v iT] [.v .bool] [] (λh=>Pw.j5E h) func152 [jeS]
def jcQ:CKt:=
 cQ tb {} [lD 0 [sD (.list iT),sC 152 [],sI,sI] ⟨[0,1,7,8],[],[]⟩ [xD .ret [sI] ⟨[4],[],[]⟩,xD (.exit 0) [] ⟨[],[],[]⟩] (Pw.unc3 (Pw.j1f))] 208 [.v (.list iT),.clo 152 []] [.v iT] [] (λh=>Pw.j5F h) func208 [jcP]
end Go.Proofs.Pk
