/- Contracts: each given function is its plain function, printed by a program. -/
import Derived.Test.YtgepoeafaklbjaaGreatPFCon0
open Bool renaming false->e
noncomputable section
open Go Go.Lft
set_option linter.unusedVariables false
set_option maxRecDepth 100000
namespace Go.Proofs.Pk
open Tryz
def j42:CKt:=
 cQ tb {} [] 224 [.rl 251 ty12,.clo 225 []] [] [.rl ty12] (λh=>Pw.j0s h) func224 [j7O]
def ji4:CKt:=
 cQ tb {} [lD 0 [sB 64 0,sI,sD ty57,sI,sI,.b (.cell [.d .str,.d iT,.d ty57] e)] ⟨[1,4,23,24,25],[64],[]⟩ [xD .ret [.s (.one (.nil)),sI] ⟨[2,3],[],[]⟩,xD (.exit 0) [sB 64 0,sI,.b (.cell [.d .str,.d iT,.d ty57] e)] ⟨[1,4],[64],[]⟩] (Pw.unc7 (Pw.j2l)),lD 2 [sO 1,sD ty57,sI,sI,.b (.lst 251 ty7 e)] ⟨[8,46,47,48],[],[⟨1,251,ty7,[.slot 8],e⟩]⟩ [xD (.exit 2) [sO 2,.b (.lst 251 ty7 e)] ⟨[8],[],[⟨2,251,ty7,[.slot 8],e⟩]⟩] (Pw.unc4 (Pw.j2n)),lD 4 [sO 3,sB 640 0,sI,sD ty57,sI,sI,.b (.cell [.d iT,.d iT,.d iT,.d iT,.d iT,.d iT,.d iT] e),.b (.lst 251 ty7 e)] ⟨[8,10,11,46,47,48],[640],[⟨3,251,ty7,[.slot 8],e⟩]⟩ [xD (.exit 4) [sO 4,sD ty57,sI,sI,.b (.lst 251 ty7 e)] ⟨[8,46,47,48],[],[⟨4,251,ty7,[.slot 8],e⟩]⟩] (Pw.u8 Pw.unc4 (Pw.j2m))] 162 [.v ty64] [.own 251 ty12,.v iT] [] (λh=>Pw.j8k h) func162 [jl1,jqA,jqB,j42]
def jd5:CKt:=
 cQ tb {} [lD 0 [sO 1,sI,sO 2,sI,sI,.b (.lst 254 ty7 e),.b (.lst 251 ty7 e)] ⟨[6,7,22,23,24],[],[⟨1,254,ty7,[.slot 6],e⟩,⟨2,251,ty7,[.slot 22],e⟩]⟩ [xD .ret [.s (.one (.nil)),sI] ⟨[2,3],[],[]⟩,xD (.exit 0) [sO 3,.b (.lst 254 ty7 e)] ⟨[6],[],[⟨3,254,ty7,[.slot 6],e⟩]⟩] (Pw.unc5 (Pw.j2o))] 110 [.v ty64] [.own 254 ty12,.v iT] [] (λh=>Pw.j40 h) func110 [jl1,ji4]
def jpc:CKt:=
 cQ tb {} [] 143 [.v ty64] [.v iT] [] (λh=>Pw.jdD h) func143 [jd5]
def jeS:CKt:=
 cQ tb {} [] 145 [.v ty54] [.v .bool] [] (λh=>Pw.j7V h) func145
def j61:CKt:=
 cQ tb {} [lD 0 [sD ty57,sC 145 [],sI,sI] ⟨[0,1,7,8],[],[]⟩ [xD .ret [sI] ⟨[4],[],[]⟩,xD (.exit 0) [] ⟨[],[],[]⟩] (Pw.unc3 (Pw.j0i))] 204 [.v ty57,.clo 145 []] [.v iT] [] (λh=>Pw.j1y h) func204 [jeS]
def j5l:CKt:=
 cQ tb {} [] 144 [.v ty57,.clo 145 []] [.v .bool] [] (λh=>Pw.j1k h) func144 [j61]
def jh6:CKt:=
 cQ tb {} [] 93 [.v ty64] [.v iT] [] (λh=>Pw.j5x h) func93 [jpc,j5l]
def jdR:CKt:=
 cQ tb {} [lD 0 [sC 92 [],sC 93 [],sO 1,sD ty65,sI,sI,.b (.lst 4294967477 (.pair .str .bool) e)] ⟨[1,2,7,13,14,15],[],[⟨1,4294967477,(.pair .str .bool),[.slot 7],e⟩]⟩ [xD .ret [sI] ⟨[6],[],[]⟩,xD (.exit 0) [] ⟨[],[],[]⟩] (Pw.unc4 (Pw.j1o))] 91 [.v ty65,.clo 92 [],.clo 93 []] [.v iT] [] (λh=>Pw.j4K h) func91 [ji2,j88,jh6]
def j7A:CKt:=
 cQ tb {} [] 147 [.v iT,.v iT] [.v .bool] [] (Pw.unc2 Pw.j1Q) func147
def jfF:CKt:=
 cQ tb {} [lD 0 [sD ty12,sD ty12,sI,sI] ⟨[0,8,9,10],[],[]⟩ [xD .ret [sI] ⟨[2],[],[]⟩,xD (.exit 0) [] ⟨[],[],[]⟩] (Pw.unc4 (Pw.j4W))] 106 [.v ty12] [.v iT] [] (λh=>Pw.jbB h) func106
def jfG:CKt:=
 cQ tb {} [] 207 [.v iT,.v iT,.v iT] [.v .bool] [] (Pw.unc3 Pw.j6R) func207
def jl3:CKt:=
 cQ tb {} [] 148 [.v iT] [.v .bool] [] (λh=>Pw.j3o h) func148 [jfG]
def jfH:CKt:=
 cQ tb {} [] 95 [.v ty83,.v ty52] [.v iT] [] (Pw.unc2 Pw.j3f) func95 [j7A,jfF,jl3]
def ji5:CKt:=
 cQ tb {} [] 97 [.v ty23] [.v .str] [] (λh=>Pw.jaT h) func97
def jpd:CKt:=
 cQ tb {} [lD 0 [sI,sI] ⟨[0,3],[],[]⟩ [xD (.exit 0) [sI] ⟨[3],[],[]⟩] (Pw.unc2 (Pw.jcC))] 250 [.v iT] [.v iT] [] (λh=>Pw.jmI h) func250 [ji3,jeo]
def jlT:CKt:=
 cQ tb {} [lD 0 [sB 128 0,sB 256 0,sI,.b (.cell [.d iT,.d iT,.d iT] e),.b (.cell [.d iT,.d iT,.d iT] e)] ⟨[2,4,5],[128,256],[]⟩ [xD (.exit 0) [sB 128 0,sB 256 0,sI,.b (.cell [.d iT,.d iT,.d iT] e),.b (.cell [.d iT,.d iT,.d iT] e)] ⟨[2,4,5],[128,256],[]⟩] (Pw.unc7 (Pw.jb8))] 209 [.v iT] [.v ty20,.v iT] [] (λh=>Pw.j8P h) func209 [jd4,jeo,jpd]
def jep:CKt:=
 cQ tb {} [] 151 [.v iT] [.v .bool] [] (λh=>Pw.j16 h) func151 [jlT]
def jco:CKt:=
 cQ tb {} [] 150 [.v iT] [.v .bool] [] (λh=>Pw.j5y h) func150 [jep]
def jcp:CKt:=
 cQ tb {} [lD 0 [sD (.list iT),sC 150 [],sI,sI] ⟨[0,1,7,8],[],[]⟩ [xD .ret [sI] ⟨[4],[],[]⟩,xD (.exit 0) [] ⟨[],[],[]⟩] (Pw.unc3 (Pw.j1d))] 208 [.v (.list iT),.clo 150 []] [.v iT] [] (λh=>Pw.j5z h) func208 [jco]
end Go.Proofs.Pk
