/- Contracts: each given function is its plain function, printed by a program. -/
import Derived.Test.YtlnljpfkgigljaaGreatPOCon2
open Bool renaming false->e,true->i
noncomputable section
open Go Go.Lft
set_option linter.unusedVariables false
set_option maxRecDepth 100000
namespace Go.Proofs.Pk
open Tryz
def jom:CKt:=
 cQ tb {} [lD 0 [sO 1,sD ty64,sI,sI,.b (.lst 122 ty26 e)] ⟨[3,8,9,10],[],[⟨1,122,ty26,[.slot 3],e⟩]⟩ [xD (.exit 0) [sO 2,.b (.lst 122 ty26 e)] ⟨[3],[],[⟨2,122,ty26,[.slot 3],e⟩]⟩] (Pw.unc4 (Pw.j4H))] 246 [.v ty64] [.own 122 ty31] [] (λh=>Pw.jhi h) func246 [jlH]
def jrh:CKt:=
 cQ tb {dw:=[(1,dz [(3,[384]),(1,[128])])]} [] 189 [.v ty82] [.v ty84] [] (λh=>Pw.ji8 h) func189 [jom]
def jlI:CKt:=
 cQ tb {} [] 135 [.v ty82] [.v ty84,.v .bool] [] (λh=>Pw.jjf h) func135 [j9T,jrh]
def jg9:CKt:=
 cQ tb {} [] 136 [.v iT,.v iT] [.v .bool] [] (Pw.unc2 Pw.jap) func136
def jon:CKt:=
 cQ tb {} [] 105 [.v ty82,.v iT,.v iT,.v iT] [.v ty84,.v iT] [] (Pw.unc4 Pw.jcg) func105 [jeX,jlI,jg9]
def jfl:FnD where
 N:=8
 np:=1
 ro:=[i]
def jah:CKt:=
 ⟨⟨89,[.v (.list iT)],[(.list iT)],⟨[.own 3 (.list iT)],[]⟩,[(.list iT)],λh=>Pw.j24 h⟩,j8f jhx j9S jfl 89 iT 3 Tryz.f89 (Tryz.f89.body.getD .skip) func89 (by kernel_rfl) (by kernel_rfl) (Nat.le_of_ble_eq_true (by kernel_rfl)) (by kernel_rfl) trivial (by kernel_rfl)
   (λh R k=>by kernel_rfl)⟩
def jh1:CKt:=
 cQ tb {} [] 192 [.v iT,.ip [iT],.ip [iT]] [.v .bool] [] (Pw.unc3 Pw.jaM) func192
def jbm:CKt:=
 cQ tb {} [lD 0 [sO 0,sC 192 [.p [iT],.p [iT]],sI,sI,.b (.lst 3 iT e)] ⟨[0,1,7,8],[0],[]⟩ [xD .ret [sI,.b (.lst 3 iT e)] ⟨[4],[0],[]⟩,xD (.exit 0) [.b (.lst 3 iT e)] ⟨[],[0],[]⟩] (Pw.unc5 (Pw.j0X))] 208 [.rl 3 (.list iT),.clo 192 [.p [iT],.p [iT]]] [.v iT] [.rl (.list iT)] (Pw.unc3 Pw.j4I) func208 [jh1]
def jcL:CKt:=
 cQ tb {hd:=i} [lD 0 [sO 0,sC 192 [.p [iT],.p [iT]],sI,sI,.b (.lst 3 iT e)] ⟨[0,1,5,6],[0],[]⟩ [xD (.exit 0) [sO 0,sI,.b (.lst 3 iT e)] ⟨[0,5],[0],[]⟩] (Pw.unc5 (Pw.j16))] 191 [.rl 3 (.list iT),.clo 192 [.p [iT],.p [iT]]] [.hd] [.rl (.list iT)] (Pw.unc3 Pw.j3u) func191 [jh1,jbm]
def jpW:FnD where
 N:=11
 np:=1
def jga:CKt:=
 ⟨⟨174,[.rl 3 (.list iT)],[(.list iT)],⟨[],[.rl (.list iT)]⟩,[(.list iT)],λh=>Pw.j6n h⟩,jwm Tryz.sort174 3 (by kernel_rfl) 174 rfl⟩
def jei:CKt:=
 cQ tb {hd:=i} [lD 0 [sO 0,sI,.b (.lst 3 iT e)] ⟨[0,3],[0],[]⟩ [xD .ret [.s (.one (.hd 0)),.b (.lst 3 iT e)] ⟨[2],[0],[]⟩,xD (.exit 0) [sO 0,.b (.lst 3 iT e)] ⟨[0],[0],[]⟩] (Pw.unc2 (Pw.j1v)),lD 2 [sO 0,sI,.s (.one (.tl 0)),sI,.b (.lst 3 iT e)] ⟨[0,3,4,5],[0],[]⟩ [xD (.exit 2) [sO 0,sI,.b (.lst 3 iT e)] ⟨[0,3],[0],[]⟩] (Pw.unc4 (Pw.j1u))] 193 [.rl 3 (.list iT)] [.hd] [.rl (.list iT)] (λh=>Pw.j4Q h) func193
def jlJ:CKt:=
 cQ tb {dw:=[(3,dz [(1,[704,960]),(1,[1088]),(0,[960,1152])])]} [] 140 [.v (.list iT),.v iT,.v iT] [.own 3 (.list iT)] [] (Pw.unc3 Pw.jfG) func140 [jah,jcL,jga,jei]
def j8a:CKt:=
 cQ tb {} [] 211 [.v ty71] [.clo 256 [.p [ty71]]] [] (λh=>Pw.j2o h) func211
def jjX:CKt:=
 cQ tb {} [] 300 [.v ty70] [.v iT] [] (λh=>Pw.jaq h) func300
def jgb:CKt:=
 cQ tb {} [] 227 [.v iT,.ip [iT,ty11],.ip [iT]] [.v .bool] [] (Pw.unc4 Pw.j8Q) func227
def joo:CKt:=
 cQ tb {} [lD 0 [sC 227 [.p [iT,ty11],.p [iT]],sI,sI] ⟨[1,5,6],[],[]⟩ [xD (.exit 0) [sI] ⟨[5],[],[]⟩] (Pw.unc5 (Pw.j3g))] 226 [.v iT,.clo 227 [.p [iT,ty11],.p [iT]]] [.v iT] [] (Pw.unc4 Pw.jhj) func226 [jgb]
def jdx:CKt:=
 cQ tb {} [] 166 [.v ty26,.v iT] [.v iT] [] (Pw.unc2 Pw.j6F) func166 [joo]
def jcM:CKt:=
 cQ tb {} [] 167 [.v ty26,.v iT] [.v iT] [] (Pw.unc2 Pw.j4A) func167
def j8V:CKt:=
 cQ tb {} [lD 0 [sI,sI,sB 192 0,sO 1,.b (.cell [.d iT,.d ty11] e),.b (.lst 201 ty19 e)] ⟨[1,2,3,7],[192],[⟨1,201,ty19,[.slot 7],e⟩]⟩ [xD (.exit 0) [sO 2,.b (.lst 201 ty19 e)] ⟨[7],[],[⟨2,201,ty19,[.slot 7],e⟩]⟩] (Pw.unc5 (Pw.j0I))] 112 [.v ty26,.v iT,.v iT] [.own 201 ty24] [] (Pw.unc3 Pw.j1T) func112 [jdx,jcM]
def jmt:CKt:=
 cQ tb {} [] 327 [.v ty6] [.v iT] [] (λh=>Pw.j4v h) func327
end Go.Proofs.Pk
