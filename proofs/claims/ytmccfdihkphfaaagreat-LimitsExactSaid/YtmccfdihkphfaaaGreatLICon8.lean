/- Contracts: each given function is its plain function, printed by a program. -/
import Derived.Test.YtmccfdihkphfaaaGreatLICon7
open Bool renaming false->e
noncomputable section
open Go Go.Lft
set_option linter.unusedVariables false
set_option maxRecDepth 100000
namespace Go.Proofs.Pk
open Tryz
def jhw:CKt:=
 cQ tb {} [] 146 [.v iT,.v iT,.v iT] [.v .bool] [] (Pw.unc3 Pw.j9e) func146
def jsh:CKt:=
 cQ tb {} [] 214 [.v ty56] [.v .bool] [] (λh=>Pw.jbD h) func214 [jhw]
def jv6:CKt:=
 cQ tb {} [] 333 [.v iT] [.v .bool] [] (λh=>Pw.jlo h) func333
def jkq:CKt:=
 cQ tb {} [] 315 [.v iT,.v iT] [.v iT] [] (Pw.unc2 Pw.jfm) func315 [jv6]
def jsi:CKt:=
 cQ tb {} [] 332 [.v ty24] [.v .bool] [] (λh=>Pw.jj5 h) func332 [jkq]
def jnZ:CKt:=
 cQ tb {} [] 264 [.v iT] [.v iT] [] (λh=>Pw.jj6 h) func264
def jx0:CKt:=
 cQ tb {} [lD 0 [sB 64 0,sI,sI,.b (.cell [.d iT,.d iT,.d iT] e)] ⟨[1,4,5],[64],[]⟩ [xD (.exit 0) [sB 64 0,sI,.b (.cell [.d iT,.d iT,.d iT] e)] ⟨[1,4],[64],[]⟩] (Pw.unc5 (Pw.j8k))] 314 [.v ty24] [.v iT,.v iT] [] (λh=>Pw.joV h) func314 [jkq,jsi,jnZ]
def jjC:CKt:=
 cQ tb {} [] 274 [.v iT] [.v iT] [] (λh=>Pw.jd6 h) func274
def jx1:CKt:=
 cQ tb {} [lD 0 [sI,sI,sI,sI,sI,sI] ⟨[0,1,2,3,10,12],[],[]⟩ [xD (.exit 0) [sI,sI,sI,sI,sI] ⟨[0,1,2,10,12],[],[]⟩] (Pw.unc6 (Pw.j8l)),lD 2 [sI,sI,sI,sI] ⟨[0,1,10,12],[],[]⟩ [xD (.exit 2) [sI] ⟨[12],[],[]⟩] (Pw.unc4 (Pw.j8m))] 266 [.v iT,.v iT,.v iT,.v iT] [.v iT,.v iT] [] (Pw.unc4 Pw.joW) func266 [jkq,jx0,jjC]
def jkr:CKt:=
 cQ tb {dw:=[(9,dz [(14,[512]),(0,[512])]),(14,dz [(7,[5376])])]} [lD 0 [sD ty59,sO 1,sI,.b (.lst 261 ty9 e)] ⟨[0,3,4],[],[⟨1,261,ty9,[.slot 3],e⟩]⟩ [xD (.exit 0) [sO 2,.b (.lst 261 ty9 e)] ⟨[3],[],[⟨2,261,ty9,[.slot 3],e⟩]⟩] (Pw.unc3 (Pw.j3C)),lD 2 [sD ty59,sO 3,sI,sI,.b (.lst 261 ty9 e)] ⟨[0,3,4,5],[],[⟨3,261,ty9,[.slot 3],e⟩]⟩ [xD (.exit 2) [sD ty59,sO 4,sI,.b (.lst 261 ty9 e)] ⟨[0,3,4],[],[⟨4,261,ty9,[.slot 3],e⟩]⟩] (Pw.unc4 (Pw.j3B)),lD 4 [sD ty59,sO 5,sI,sI,sB 512 0,sI,.b (.cell [.d iT,.d iT] e),.b (.lst 261 ty9 e)] ⟨[0,3,4,5,8,9],[512],[⟨5,261,ty9,[.slot 3],e⟩]⟩ [xD (.exit 4) [sD ty59,sO 6,sI,sI,sB 512 0,sI,.b (.cell [.d iT,.d iT] e),.b (.lst 261 ty9 e)] ⟨[0,3,4,5,8,9],[512],[⟨6,261,ty9,[.slot 3],e⟩]⟩] (Pw.unc7 (Pw.j5i))] 215 [.v ty59] [.own 261 ty15] [] (λh=>Pw.jah h) func215 [jx1]
def j5u:CKt:=
 cQ tb {dw:=[(21,dz [(13,[640]),(0,[640])]),(24,dz [(2,[7296]),(0,[7360,1])])]} [lD 0 [sB 64 0,sI,sI,.b (.cell [.d .str,.d iT,.d ty59] e)] ⟨[1,4,5],[64],[]⟩ [xD .ret [.s (.one (.nil)),sI] ⟨[2,3],[],[]⟩,xD (.exit 0) [sB 64 0,sI,.b (.cell [.d .str,.d iT,.d ty59] e)] ⟨[1,4],[64],[]⟩] (Pw.unc5 (Pw.j2h)),lD 2 [sO 1,sO 2,sI,sI,.b (.lst 201 ty9 e),.b (.lst 261 ty9 e)] ⟨[6,7,8,9],[],[⟨1,201,ty9,[.slot 6],e⟩,⟨2,261,ty9,[.slot 7],e⟩]⟩ [xD .ret [.s (.one (.nil)),sI] ⟨[2,3],[],[]⟩,xD (.exit 2) [sO 3,.b (.lst 201 ty9 e)] ⟨[6],[],[⟨3,201,ty9,[.slot 6],e⟩]⟩] (Pw.unc4 (Pw.j1T))] 142 [.v ty66] [.own 201 ty15,.v iT] [] (λh=>Pw.j0c h) func142 [jhw,jsh,jkr]
def jmG:CKt:=
 cQ tb {} [] 203 [.v ty66] [.v iT] [] (λh=>Pw.j8o h) func203 [j5u]
def jpa:CKt:=
 cQ tb {} [lD 0 [sB 64 0,sD .bool,sI,.b (.cell [.d .str,.d iT,.d ty59] e)] ⟨[1,3,4],[64],[]⟩ [xD (.exit 0) [sD .bool] ⟨[3],[],[]⟩] (Pw.unc5 (Pw.j5D))] 204 [.v ty66] [.v .bool] [] (λh=>Pw.jb0 h) func204
def jsj:CKt:=
 cQ tb {} [lD 0 [sB 64 0,sO 1,sI,.b (.cell [.d ty67,.d ty57,.d ty31,.d ty79] e),.b (.lst 9 .str e)] ⟨[1,3,4],[64],[⟨1,9,.str,[.slot 3],e⟩]⟩ [xD .ret [sI] ⟨[2],[],[]⟩,xD (.exit 0) [] ⟨[],[],[]⟩] (Pw.unc6 (Pw.j6J))] 131 [.v ty85] [.v iT] [] (λh=>Pw.jja h) func131 [jhv,jmG,jpa]
def jjD:CKt:=
 cQ tb {} [] 205 [.v iT,.v iT,.v iT] [.v .bool] [] (Pw.unc3 Pw.j8W) func205
def jfD:CKt:=
 cQ tb {} [lD 0 [sD ty15,sI] ⟨[0,3],[],[]⟩ [xD .ret [sI] ⟨[2],[],[]⟩,xD (.exit 0) [] ⟨[],[],[]⟩] (Pw.unc2 (Pw.j44))] 153 [.v ty15] [.v iT] [] (λh=>Pw.j8p h) func153
def jsk:CKt:=
 cQ tb {} [] 206 [.v iT] [.v .bool] [] (λh=>Pw.jgB h) func206 [jjD]
def jqW:CKt:=
 cQ tb {} [lD 0 [sB 64 0,sO 1,sI,.b (.cell [.d ty67,.d ty57,.d ty31,.d ty79] e),.b (.lst 9 .str e)] ⟨[1,3,4],[64],[⟨1,9,.str,[.slot 3],e⟩]⟩ [xD .ret [sI] ⟨[2],[],[]⟩,xD (.exit 0) [] ⟨[],[],[]⟩] (Pw.unc6 (Pw.j67))] 132 [.v ty85] [.v iT] [] (λh=>Pw.jhk h) func132 [jhv,jjD,jfD,jsk]
def jh3:CKt:=
 cQ tb {} [] 207 [] [.v iT] [] (λh=>Pw.jcF) func207 [jnZ]
def jmH:CKt:=
 cQ tb {} [lD 0 [sB 64 0,sO 1,sI,.b (.cell [.d ty67,.d ty57,.d ty31,.d ty79] e),.b (.lst 9 .str e)] ⟨[1,3,4],[64],[⟨1,9,.str,[.slot 3],e⟩]⟩ [xD .ret [sI] ⟨[2],[],[]⟩,xD (.exit 0) [] ⟨[],[],[]⟩] (Pw.unc6 (Pw.j4u)),lD 2 [sB 64 0,sO 2,sI,sB 320 0,sI,.b (.cell [.d ty67,.d ty57,.d ty31,.d ty79] e),.b (.cell [.d .str,.d iT,.d (.list iT)] e),.b (.lst 9 .str e)] ⟨[1,3,4,5,7],[64,320],[⟨2,9,.str,[.slot 3],e⟩]⟩ [xD .ret [sI] ⟨[2],[],[]⟩,xD (.exit 2) [sB 64 0,sO 3,sI,sB 320 0,.b (.cell [.d ty67,.d ty57,.d ty31,.d ty79] e),.b (.cell [.d .str,.d iT,.d (.list iT)] e),.b (.lst 9 .str e)] ⟨[1,3,4,5],[64,320],[⟨3,9,.str,[.slot 3],e⟩]⟩] (Pw.u8 Pw.unc2 (Pw.j4s)),lD 4 [sB 64 0,sO 4,sI,sB 320 0,sI,.b (.cell [.d ty67,.d ty57,.d ty31,.d ty79] e),.b (.cell [.d .str,.d iT,.d (.list iT)] e),.b (.lst 9 .str e)] ⟨[1,3,4,5,8],[64,320],[⟨4,9,.str,[.slot 3],e⟩]⟩ [xD .ret [sI] ⟨[2],[],[]⟩,xD (.exit 4) [sB 64 0,sO 5,sI,.b (.cell [.d ty67,.d ty57,.d ty31,.d ty79] e),.b (.lst 9 .str e)] ⟨[1,3,4],[64],[⟨5,9,.str,[.slot 3],e⟩]⟩] (Pw.u8 Pw.unc2 (Pw.j4t))] 133 [.v ty85] [.v iT] [] (λh=>Pw.jcl h) func133 [jhv,jjD,jh3]
end Go.Proofs.Pk
