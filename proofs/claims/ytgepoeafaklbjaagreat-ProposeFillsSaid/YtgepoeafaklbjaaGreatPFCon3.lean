/- Contracts: each given function is its plain function, printed by a program. -/
import Derived.Test.YtgepoeafaklbjaaGreatPFCon2
open Bool renaming false->e,true->i
noncomputable section
open Go Go.Lft
set_option linter.unusedVariables false
set_option maxRecDepth 100000
namespace Go.Proofs.Pk
open Tryz
def jnM:CKt:=
 cQ tb {} [lD 0 [sO 1,sD ty65,sI,sI,.b (.lst 136 ty27 e)] ⟨[3,8,9,10],[],[⟨1,136,ty27,[.slot 3],e⟩]⟩ [xD (.exit 0) [sO 2,.b (.lst 136 ty27 e)] ⟨[3],[],[⟨2,136,ty27,[.slot 3],e⟩]⟩] (Pw.unc4 (Pw.j4C))] 233 [.v ty65] [.own 136 ty32] [] (λh=>Pw.jgR h) func233 [jlc]
def jqK:CKt:=
 cQ tb {dw:=[(1,dz [(3,[384]),(1,[128])])]} [] 179 [.v ty83] [.v ty85] [] (λh=>Pw.jhD h) func179 [jnM]
def jld:CKt:=
 cQ tb {} [] 126 [.v ty83] [.v ty85,.v .bool] [] (λh=>Pw.jiL h) func126 [j9E,jqK]
def jfI:CKt:=
 cQ tb {} [] 127 [.v iT,.v iT] [.v .bool] [] (Pw.unc2 Pw.ja9) func127
def jnN:CKt:=
 cQ tb {} [] 104 [.v ty83,.v iT,.v iT,.v iT] [.v ty85,.v iT] [] (Pw.unc4 Pw.jaa) func104 [jeu,jld,jfI]
def jeT:FnD where
 N:=8
 np:=1
 ro:=[i]
def ja1:CKt:=
 ⟨⟨52,[.v (.list iT)],[(.list iT)],⟨[.own 3 (.list iT)],[]⟩,[(.list iT)],λh=>Pw.j23 h⟩,j83 jh5 j9D jeT 52 iT 3 Tryz.f52 (Tryz.f52.body.getD .skip) func52 (by kernel_rfl) (by kernel_rfl) (Nat.le_of_ble_eq_true (by kernel_rfl)) (by kernel_rfl) trivial (by kernel_rfl)
   (λh R k=>by kernel_rfl)⟩
def jgB:CKt:=
 cQ tb {} [] 182 [.v iT,.ip [iT],.ip [iT]] [.v .bool] [] (Pw.unc3 Pw.jax) func182
def jb2:CKt:=
 cQ tb {} [lD 0 [sO 0,sC 182 [.p [iT],.p [iT]],sI,sI,.b (.lst 3 iT e)] ⟨[0,1,7,8],[0],[]⟩ [xD .ret [sI,.b (.lst 3 iT e)] ⟨[4],[0],[]⟩,xD (.exit 0) [.b (.lst 3 iT e)] ⟨[],[0],[]⟩] (Pw.unc5 (Pw.j0U))] 208 [.rl 3 (.list iT),.clo 182 [.p [iT],.p [iT]]] [.v iT] [.rl (.list iT)] (Pw.unc3 Pw.j4D) func208 [jgB]
def jcj:CKt:=
 cQ tb {hd:=i} [lD 0 [sO 0,sC 182 [.p [iT],.p [iT]],sI,sI,.b (.lst 3 iT e)] ⟨[0,1,5,6],[0],[]⟩ [xD (.exit 0) [sO 0,sI,.b (.lst 3 iT e)] ⟨[0,5],[0],[]⟩] (Pw.unc5 (Pw.j14))] 181 [.rl 3 (.list iT),.clo 182 [.p [iT],.p [iT]]] [.hd] [.rl (.list iT)] (Pw.unc3 Pw.j3p) func181 [jgB,jb2]
def jpn:FnD where
 N:=11
 np:=1
def jfJ:CKt:=
 ⟨⟨172,[.rl 3 (.list iT)],[(.list iT)],⟨[],[.rl (.list iT)]⟩,[(.list iT)],λh=>Pw.j6e h⟩,jvB Tryz.sort172 3 (by kernel_rfl) 172 rfl⟩
def jdS:CKt:=
 cQ tb {hd:=i} [lD 0 [sO 0,sI,.b (.lst 3 iT e)] ⟨[0,3],[0],[]⟩ [xD .ret [.s (.one (.hd 0)),.b (.lst 3 iT e)] ⟨[2],[0],[]⟩,xD (.exit 0) [sO 0,.b (.lst 3 iT e)] ⟨[0],[0],[]⟩] (Pw.unc2 (Pw.j1s)),lD 2 [sO 0,sI,.s (.one (.tl 0)),sI,.b (.lst 3 iT e)] ⟨[0,3,4,5],[0],[]⟩ [xD (.exit 2) [sO 0,sI,.b (.lst 3 iT e)] ⟨[0,3],[0],[]⟩] (Pw.unc4 (Pw.j1r))] 183 [.rl 3 (.list iT)] [.hd] [.rl (.list iT)] (λh=>Pw.j4L h) func183
def jle:CKt:=
 cQ tb {dw:=[(3,dz [(1,[704,960]),(1,[1088]),(0,[960,1152])])]} [] 131 [.v (.list iT),.v iT,.v iT] [.own 3 (.list iT)] [] (Pw.unc3 Pw.jfe) func131 [ja1,jcj,jfJ,jdS]
def j7Z:CKt:=
 cQ tb {} [] 211 [.v ty72] [.clo 252 [.p [ty72]]] [] (λh=>Pw.j2k h) func211
def jjt:CKt:=
 cQ tb {} [] 299 [.v ty71] [.v iT] [] (λh=>Pw.jab h) func299
def jfK:CKt:=
 cQ tb {} [] 227 [.v iT,.ip [iT,ty12],.ip [iT]] [.v .bool] [] (Pw.unc4 Pw.j8E) func227
def jnO:CKt:=
 cQ tb {} [lD 0 [sC 227 [.p [iT,ty12],.p [iT]],sI,sI] ⟨[1,5,6],[],[]⟩ [xD (.exit 0) [sI] ⟨[5],[],[]⟩] (Pw.unc5 (Pw.j3g))] 226 [.v iT,.clo 227 [.p [iT,ty12],.p [iT]]] [.v iT] [] (Pw.unc4 Pw.jgS) func226 [jfK]
def jd6:CKt:=
 cQ tb {} [] 164 [.v ty27,.v iT] [.v iT] [] (Pw.unc2 Pw.j6x) func164 [jnO]
def jck:CKt:=
 cQ tb {} [] 165 [.v ty27,.v iT] [.v iT] [] (Pw.unc2 Pw.j4u) func165
def j8J:CKt:=
 cQ tb {} [lD 0 [sI,sI,sB 192 0,sO 1,.b (.cell [.d iT,.d ty12] e),.b (.lst 202 ty20 e)] ⟨[1,2,3,7],[192],[⟨1,202,ty20,[.slot 7],e⟩]⟩ [xD (.exit 0) [sO 2,.b (.lst 202 ty20 e)] ⟨[7],[],[⟨2,202,ty20,[.slot 7],e⟩]⟩] (Pw.unc5 (Pw.j0F))] 111 [.v ty27,.v iT,.v iT] [.own 202 ty25] [] (Pw.unc3 Pw.j1T) func111 [jd6,jck]
def jlW:CKt:=
 cQ tb {} [] 324 [.v ty7] [.v iT] [] (λh=>Pw.j4p h) func324
end Go.Proofs.Pk
