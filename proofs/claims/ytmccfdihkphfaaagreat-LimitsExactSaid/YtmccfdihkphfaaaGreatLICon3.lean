/- Contracts: each given function is its plain function, printed by a program. -/
import Derived.Test.YtmccfdihkphfaaaGreatLICon2
open Bool renaming false->e,true->i
noncomputable section
open Go Go.Lft
set_option linter.unusedVariables false
set_option maxRecDepth 100000
namespace Go.Proofs.Pk
open Tryz
def jwZ:CKt:=
 cQ tb {} [] 262 [.v ty66] [.v ty30,.v iT] [] (λh=>Pw.jmg h) func262 [je1]
def jp6:CKt:=
 cQ tb {} [lD 0 [sO 1,sD ty67,sI,sI,.b (.lst 157 ty30 e)] ⟨[3,8,9,10],[],[⟨1,157,ty30,[.slot 3],e⟩]⟩ [xD (.exit 0) [sO 2,.b (.lst 157 ty30 e)] ⟨[3],[],[⟨2,157,ty30,[.slot 3],e⟩]⟩] (Pw.unc4 (Pw.j5y))] 201 [.v ty67] [.own 157 ty34] [] (λh=>Pw.jid h) func201 [jwZ]
def jsd:CKt:=
 cQ tb {dw:=[(1,dz [(3,[384]),(1,[128])])]} [] 130 [.v ty85] [.v ty89] [] (λh=>Pw.jj0 h) func130 [jp6]
def jmx:CKt:=
 cQ tb {} [] 69 [.v ty85] [.v ty89,.v .bool] [] (λh=>Pw.jfk h) func69 [jmw,jsd]
def jgU:CKt:=
 cQ tb {} [] 72 [.v iT,.v iT] [.v .bool] [] (Pw.unc2 Pw.jaW) func72
def jfC:CKt:=
 cQ tb {} [] 86 [.v ty85,.v iT,.v iT,.v iT] [.v ty89,.v iT] [] (Pw.unc4 Pw.j5z) func86 [jmx,jgU]
noncomputable def jga:FnD where
 N:=8
 np:=1
 ro:=[i]
def jgb:CKt:=
 ⟨⟨163,[.v (.list iT)],[(.list iT)],⟨[.own 3 (.list iT)],[]⟩,[(.list iT)],λh=>Pw.j90 h⟩,jqv jqz jis jga 163 iT 3 Tryz.f163 (Tryz.f163.body.getD .skip) func163 (by kernel_rfl) (by kernel_rfl) (Nat.le_of_ble_eq_true (by kernel_rfl)) (by kernel_rfl) trivial (by kernel_rfl)
   (λh R k=>by kernel_rfl)⟩
def jhV:CKt:=
 cQ tb {} [] 164 [.v iT,.ip [iT],.ip [iT]] [.v .bool] [] (Pw.unc3 Pw.jbu) func164
def jc4:CKt:=
 cQ tb {} [lD 0 [sO 0,sC 164 [.p [iT],.p [iT]],sI,sI,.b (.lst 3 iT e)] ⟨[0,1,7,8],[0],[]⟩ [xD .ret [sI,.b (.lst 3 iT e)] ⟨[4],[0],[]⟩,xD (.exit 0) [.b (.lst 3 iT e)] ⟨[],[0],[]⟩] (Pw.unc5 (Pw.j18))] 231 [.rl 3 (.list iT),.clo 164 [.p [iT],.p [iT]]] [.v iT] [.rl (.list iT)] (Pw.unc3 Pw.j5A) func231 [jhV]
def jdh:CKt:=
 cQ tb {hd:=i} [lD 0 [sO 0,sC 164 [.p [iT],.p [iT]],sI,sI,.b (.lst 3 iT e)] ⟨[0,1,5,6],[0],[]⟩ [xD (.exit 0) [sO 0,sI,.b (.lst 3 iT e)] ⟨[0,5],[0],[]⟩] (Pw.unc5 (Pw.j1o))] 162 [.rl 3 (.list iT),.clo 164 [.p [iT],.p [iT]]] [.hd] [.rl (.list iT)] (Pw.unc3 Pw.j49) func162 [jhV,jc4]
noncomputable def jqR:FnD where
 N:=11
 np:=1
def jgV:CKt:=
 ⟨⟨165,[.rl 3 (.list iT)],[(.list iT)],⟨[],[.rl (.list iT)]⟩,[(.list iT)],λh=>Pw.j74 h⟩,jwT Tryz.sort165 3 (by kernel_rfl) 165 rfl⟩
def jf0:CKt:=
 cQ tb {hd:=i} [lD 0 [sO 0,sI,.b (.lst 3 iT e)] ⟨[0,3],[0],[]⟩ [xD .ret [.s (.one (.hd 0)),.b (.lst 3 iT e)] ⟨[2],[0],[]⟩,xD (.exit 0) [sO 0,.b (.lst 3 iT e)] ⟨[0],[0],[]⟩] (Pw.unc2 (Pw.j1K)),lD 2 [sO 0,sI,.s (.one (.tl 0)),sI,.b (.lst 3 iT e)] ⟨[0,3,4,5],[0],[]⟩ [xD (.exit 2) [sO 0,sI,.b (.lst 3 iT e)] ⟨[0,3],[0],[]⟩] (Pw.unc4 (Pw.j1J))] 166 [.rl 3 (.list iT)] [.hd] [.rl (.list iT)] (λh=>Pw.j5M h) func166
def jmy:CKt:=
 cQ tb {dw:=[(3,dz [(1,[704,960]),(1,[1088]),(0,[960,1152])])]} [] 116 [.v (.list iT),.v iT,.v iT] [.own 3 (.list iT)] [] (Pw.unc3 Pw.jgt) func116 [jgb,jdh,jgV,jf0]
def j96:CKt:=
 cQ tb {} [] 167 [.v ty74] [.clo 233 [.p [ty74]]] [] (λh=>Pw.j2S h) func167
def jkS:CKt:=
 cQ tb {} [] 212 [.v ty73] [.v iT] [] (λh=>Pw.jaX h) func212
def jgW:CKt:=
 cQ tb {} [] 268 [.v iT,.ip [iT,ty15],.ip [iT]] [.v .bool] [] (Pw.unc4 Pw.j9z) func268
def jp7:CKt:=
 cQ tb {} [lD 0 [sC 268 [.p [iT,ty15],.p [iT]],sI,sI] ⟨[1,5,6],[],[]⟩ [xD (.exit 0) [sI] ⟨[5],[],[]⟩] (Pw.unc5 (Pw.j41))] 267 [.v iT,.clo 268 [.p [iT,ty15],.p [iT]]] [.v iT] [] (Pw.unc4 Pw.jie) func267 [jgW]
def je2:CKt:=
 cQ tb {} [] 216 [.v ty30,.v iT] [.v iT] [] (Pw.unc2 Pw.j7p) func216 [jp7]
def jdi:CKt:=
 cQ tb {} [] 217 [.v ty30,.v iT] [.v iT] [] (Pw.unc2 Pw.j5o) func217
def j9C:CKt:=
 cQ tb {} [lD 0 [sI,sI,sB 192 0,sO 1,.b (.cell [.d iT,.d ty15] e),.b (.lst 205 ty24 e)] ⟨[1,2,3,7],[192],[⟨1,205,ty24,[.slot 7],e⟩]⟩ [xD (.exit 0) [sO 2,.b (.lst 205 ty24 e)] ⟨[7],[],[⟨2,205,ty24,[.slot 7],e⟩]⟩] (Pw.unc5 (Pw.j0S))] 148 [.v ty30,.v iT,.v iT] [.own 205 ty29] [] (Pw.unc3 Pw.j31) func148 [je2,jdi]
end Go.Proofs.Pk
