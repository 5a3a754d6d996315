/- Contracts: each given function is its plain function, printed by a program. -/
import Derived.Test.YtgepoeafaklbjaaGreatPFTab
import Derived.Test.YtgepoeafaklbjaaGreatPFSrt
open Bool renaming false->e
noncomputable section
open Go Go.Lft
set_option linter.unusedVariables false
set_option maxRecDepth 100000
namespace Go.Proofs.Pk
open Tryz
abbrev CKt:=CK Tryz.prog
def tb:TB Tryz.prog:=⟨tabL,jh5,j9D⟩
abbrev OKc(c:Con):=Con.OK Tryz.prog c
def jp9:CKt:=
 cQ tb {} [] 4 [.v (.list iT)] [.v .bool] [] (λh=>Pw.jiJ h) func4
def jqz:CKt:=
 cQ tb {} [] 14 [] [.v ty83] [] (λh=>Pw.jkU) func14
def ji2:CKt:=
 cQ tb {} [] 92 [.v ty64] [.v .str] [] (λh=>Pw.jaR h) func92
def jnH:CKt:=
 cQ tb {} [] 205 [.v (.int .u8)] [.v .bool] [] (λh=>Pw.jbL h) func205
def jnI:CKt:=
 cQ tb {} [] 206 [.v (.int .u8)] [.v .bool] [] (λh=>Pw.jgP h) func206
def jpa:CKt:=
 cQ tb {} [lD 0 [sD .str,sI,sI] ⟨[0,19,20],[],[]⟩ [xD .ret [sD .bool] ⟨[2],[],[]⟩,xD (.exit 0) [] ⟨[],[],[]⟩] (Pw.unc3 (Pw.j6V))] 146 [.v .str] [.v .bool] [] (λh=>Pw.j8O h) func146 [jnH,jnI]
def j88:CKt:=
 cQ tb {} [] 94 [.v .str,.rl 4294967477 (.list (.pair .str .bool))] [.v iT] [.rl (.list (.pair .str .bool))] (Pw.unc2 Pw.j4V) func94 [jpa]
def jl1:CKt:=
 cQ tb {} [] 163 [.v iT,.v iT,.v iT] [.v .bool] [] (Pw.unc3 Pw.jaS) func163
def jqA:CKt:=
 cQ tb {} [] 222 [.v ty54] [.v iT] [] (λh=>Pw.jfd h) func222 [jl1]
def jpb:CKt:=
 cQ tb {} [] 296 [.v iT] [.v .bool] [] (λh=>Pw.jiK h) func296
def jd4:CKt:=
 cQ tb {} [] 251 [.v iT,.v iT] [.v iT] [] (Pw.unc2 Pw.j7F) func251 [jpb]
def jnJ:CKt:=
 cQ tb {} [] 259 [.v ty20] [.v .bool] [] (λh=>Pw.jbM h) func259 [jd4]
def ji3:CKt:=
 cQ tb {} [] 295 [.v iT,.v iT] [.v iT] [] (Pw.unc2 Pw.j8A) func295
def jeo:CKt:=
 cQ tb {} [] 249 [.v iT] [.v iT] [] (λh=>Pw.j5i h) func249 [ji3]
def jlS:CKt:=
 cQ tb {} [lD 0 [sB 64 0,sI,sI,.b (.cell [.d iT,.d iT,.d iT] e)] ⟨[1,3,4],[64],[]⟩ [xD (.exit 0) [sI] ⟨[3],[],[]⟩] (Pw.unc5 (Pw.j44))] 260 [.v ty20] [.v iT] [] (λh=>Pw.jcB h) func260 [jd4,jeo]
def jl2:CKt:=
 cQ tb {} [] 261 [.v iT] [.v iT] [] (λh=>Pw.j6a h) func261
def jqB:CKt:=
 cQ tb {} [] 223 [.v iT,.v iT,.v iT,.v iT] [.v iT,.v iT] [] (Pw.unc4 Pw.jhC) func223 [jd4,jnJ,jlS,jl2]
def jfE:CKt:=
 cQ tb {} [] 225 [.v ty7,.v ty7] [.v iT] [] (Pw.unc2 Pw.j8B) func225
def j5Y:CKt:=
 cQ tb {dw:=[(6,dz [(15,[0]),(1,[0])])]} [lD 0 [sO 0,sI,sI,sC 225 [],sI,.b (.lst 251 ty7 e)] ⟨[0,1,2,3,8],[0],[]⟩ [xD (.exit 0) [.b (.lst 251 ty7 e)] ⟨[],[0],[]⟩] (Pw.unc4 (Pw.j0g)),lD 2 [sO 0,sI,sI,sC 225 [],sI,sI,.b (.lst 251 ty7 e)] ⟨[0,1,2,3,8,9],[0],[]⟩ [xD (.exit 2) [sO 0,sI,sI,sC 225 [],sI,.b (.lst 251 ty7 e)] ⟨[0,1,2,3,8],[0],[]⟩] (Pw.unc5 (Pw.j0t))] 309 [.rl 251 ty12,.v iT,.v iT,.clo 225 []] [] [.rl ty12] (Pw.unc3 Pw.j0u) func309 [jfE]
def j7O:CKt:=
 cQ tb {} [lD 0 [sO 0,sI,sC 225 [],sI,sI,sI,.b (.lst 251 ty7 e)] ⟨[0,1,2,6,7,8],[0],[]⟩ [xD (.exit 0) [sO 0,sI,sC 225 [],sI,sI,.b (.lst 251 ty7 e)] ⟨[0,1,2,6,7],[0],[]⟩] (Pw.unc5 (Pw.j0L)),lD 2 [sO 0,sI,sC 225 [],sI,.b (.lst 251 ty7 e)] ⟨[0,1,2,6],[0],[]⟩ [xD (.exit 2) [.b (.lst 251 ty7 e)] ⟨[],[0],[]⟩] (Pw.unc3 (Pw.j0M)),lD 4 [sO 0,sI,sC 225 [],sI,sI,sI,.b (.lst 251 ty7 e)] ⟨[0,1,2,6,7,8],[0],[]⟩ [xD (.exit 4) [sO 0,sI,sC 225 [],sI,sI,.b (.lst 251 ty7 e)] ⟨[0,1,2,6,7],[0],[]⟩] (Pw.unc5 (Pw.j2D))] 262 [.rl 251 ty12,.v iT,.clo 225 []] [] [.rl ty12] (Pw.unc2 Pw.j2c) func262 [j5Y]
end Go.Proofs.Pk
