/- Contracts: each given function is its plain function, printed by a program. -/
import Derived.Test.YtlnljpfkgigljaaGreatPOTab
import Derived.Test.YtlnljpfkgigljaaGreatPOSrt
open Bool renaming false->e
noncomputable section
open Go Go.Lft
set_option linter.unusedVariables false
set_option maxRecDepth 100000
namespace Go.Proofs.Pk
open Tryz
abbrev CKt:=CK Tryz.prog
def tb:TB Tryz.prog:=⟨tabL,jhx,j9S⟩
abbrev OKc(c:Con):=Con.OK Tryz.prog c
def jpI:CKt:=
 cQ tb {} [] 4 [.v (.list iT)] [.v .bool] [] (λh=>Pw.jjd h) func4
def jr7:CKt:=
 cQ tb {} [] 17 [] [.v ty82] [] (λh=>Pw.jln) func17
def jit:CKt:=
 cQ tb {} [] 93 [.v ty63] [.v .str] [] (λh=>Pw.jba h) func93
def joh:CKt:=
 cQ tb {} [] 205 [.v (.int .u8)] [.v .bool] [] (λh=>Pw.jcc h) func205
def joi:CKt:=
 cQ tb {} [] 206 [.v (.int .u8)] [.v .bool] [] (λh=>Pw.jhg h) func206
def jpJ:CKt:=
 cQ tb {} [lD 0 [sD .str,sI,sI] ⟨[0,19,20],[],[]⟩ [xD .ret [sD .bool] ⟨[2],[],[]⟩,xD (.exit 0) [] ⟨[],[],[]⟩] (Pw.unc3 (Pw.j72))] 148 [.v .str] [.v .bool] [] (λh=>Pw.j90 h) func148 [joh,joi]
def j8k:CKt:=
 cQ tb {} [] 95 [.v .str,.rl 4294967479 (.list (.pair .str .bool))] [.v iT] [.rl (.list (.pair .str .bool))] (Pw.unc2 Pw.j6c) func95 [jpJ]
def jlv:CKt:=
 cQ tb {} [] 165 [.v iT,.v iT,.v iT] [.v .bool] [] (Pw.unc3 Pw.jbb) func165
def jr8:CKt:=
 cQ tb {} [] 222 [.v ty53] [.v iT] [] (λh=>Pw.jfF h) func222 [jlv]
def jpK:CKt:=
 cQ tb {} [] 297 [.v iT] [.v .bool] [] (λh=>Pw.jje h) func297
def jdv:CKt:=
 cQ tb {} [] 255 [.v iT,.v iT] [.v iT] [] (Pw.unc2 Pw.j7O) func255 [jpK]
def joj:CKt:=
 cQ tb {} [] 263 [.v ty19] [.v .bool] [] (λh=>Pw.jcd h) func263 [jdv]
def jiu:CKt:=
 cQ tb {} [] 296 [.v iT,.v iT] [.v iT] [] (Pw.unc2 Pw.j8M) func296
def jeR:CKt:=
 cQ tb {} [] 253 [.v iT] [.v iT] [] (λh=>Pw.j5p h) func253 [jiu]
def jmo:CKt:=
 cQ tb {} [lD 0 [sB 64 0,sI,sI,.b (.cell [.d iT,.d iT,.d iT] e)] ⟨[1,3,4],[64],[]⟩ [xD (.exit 0) [sI] ⟨[3],[],[]⟩] (Pw.unc5 (Pw.j4a))] 264 [.v ty19] [.v iT] [] (λh=>Pw.jd2 h) func264 [jdv,jeR]
def jlw:CKt:=
 cQ tb {} [] 265 [.v iT] [.v iT] [] (λh=>Pw.j6j h) func265
def jr9:CKt:=
 cQ tb {} [] 223 [.v iT,.v iT,.v iT,.v iT] [.v iT,.v iT] [] (Pw.unc4 Pw.ji7) func223 [jdv,joj,jmo,jlw]
def jg5:CKt:=
 cQ tb {} [] 225 [.v ty6,.v ty6] [.v iT] [] (Pw.unc2 Pw.j8N) func225
def j67:CKt:=
 cQ tb {dw:=[(6,dz [(15,[0]),(1,[0])])]} [lD 0 [sO 0,sI,sI,sC 225 [],sI,.b (.lst 256 ty6 e)] ⟨[0,1,2,3,8],[0],[]⟩ [xD (.exit 0) [.b (.lst 256 ty6 e)] ⟨[],[0],[]⟩] (Pw.unc4 (Pw.j0h)),lD 2 [sO 0,sI,sI,sC 225 [],sI,sI,.b (.lst 256 ty6 e)] ⟨[0,1,2,3,8,9],[0],[]⟩ [xD (.exit 2) [sO 0,sI,sI,sC 225 [],sI,.b (.lst 256 ty6 e)] ⟨[0,1,2,3,8],[0],[]⟩] (Pw.unc5 (Pw.j0v))] 310 [.rl 256 ty11,.v iT,.v iT,.clo 225 []] [] [.rl ty11] (Pw.unc3 Pw.j0w) func310 [jg5]
def j7Z:CKt:=
 cQ tb {} [lD 0 [sO 0,sI,sC 225 [],sI,sI,sI,.b (.lst 256 ty6 e)] ⟨[0,1,2,6,7,8],[0],[]⟩ [xD (.exit 0) [sO 0,sI,sC 225 [],sI,sI,.b (.lst 256 ty6 e)] ⟨[0,1,2,6,7],[0],[]⟩] (Pw.unc5 (Pw.j0O)),lD 2 [sO 0,sI,sC 225 [],sI,.b (.lst 256 ty6 e)] ⟨[0,1,2,6],[0],[]⟩ [xD (.exit 2) [.b (.lst 256 ty6 e)] ⟨[],[0],[]⟩] (Pw.unc3 (Pw.j0P)),lD 4 [sO 0,sI,sC 225 [],sI,sI,sI,.b (.lst 256 ty6 e)] ⟨[0,1,2,6,7,8],[0],[]⟩ [xD (.exit 4) [sO 0,sI,sC 225 [],sI,sI,.b (.lst 256 ty6 e)] ⟨[0,1,2,6,7],[0],[]⟩] (Pw.unc5 (Pw.j2H))] 266 [.rl 256 ty11,.v iT,.clo 225 []] [] [.rl ty11] (Pw.unc2 Pw.j2e) func266 [j67]
end Go.Proofs.Pk
