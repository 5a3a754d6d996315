/- Contracts: each given function is its plain function, printed by a program. -/
import Derived.Test.YtmccfdihkphfaaaGreatLICon3
open Bool renaming false->e
noncomputable section
open Go Go.Lft
set_option linter.unusedVariables false
set_option maxRecDepth 100000
namespace Go.Proofs.Pk
open Tryz
def jni:CKt:=
 cQ tb {} [] 213 [.v ty9] [.v iT] [] (λh=>Pw.j5k h) func213
def jjw:CKt:=
 cQ tb {} [lD 0 [sB 192 0,sO 1,sI,sI,.b (.cell [.d iT,.d iT] e),.b (.lst 205 ty24 e)] ⟨[3,10,11,12],[192],[⟨1,205,ty24,[.slot 10],e⟩]⟩ [xD .ret [sI,sD .bool] ⟨[4,5],[],[]⟩,xD (.exit 0) [] ⟨[],[],[]⟩] (Pw.unc5 (Pw.j1G))] 141 [.v ty30,.v ty9] [.v iT,.v .bool] [] (Pw.unc2 Pw.j3I) func141 [j9C,jni]
def jat:CKt:=
 cQ tb {dw:=[(5,dz [(8,[512])])]} [] 140 [.v ty30,.v ty73,.v iT] [.v iT,.v .bool] [] (Pw.unc3 Pw.j16) func140 [jkS,jjw]
noncomputable def jaz:FnD where
 N:=8
 np:=1
 ro:=[true]
def jaA:CKt:=
 ⟨⟨184,[.v ty15],[ty15],⟨[.own 59 ty15],[]⟩,[ty15],λh=>Pw.j4e h⟩,jqv jqz jis jaz 184 ty9 59 Tryz.f184 (Tryz.f184.body.getD .skip) func184 (by kernel_rfl) (by kernel_rfl) (Nat.le_of_ble_eq_true (by kernel_rfl)) (by kernel_rfl) trivial (by kernel_rfl)
   (λh R k=>by kernel_rfl)⟩
def jgX:CKt:=
 cQ tb {} [] 185 [.v ty9] [.v .bool] [] (λh=>Pw.j9Z h) func185
def j9g:CKt:=
 cQ tb {} [lD 0 [sO 0,sC 185 [],sI,sI,.b (.lst 59 ty9 e)] ⟨[0,1,7,8],[0],[]⟩ [xD .ret [sI,.b (.lst 59 ty9 e)] ⟨[4],[0],[]⟩,xD (.exit 0) [.b (.lst 59 ty9 e)] ⟨[],[0],[]⟩] (Pw.unc3 (Pw.j0D))] 245 [.rl 59 ty15,.clo 185 []] [.v iT] [.rl ty15] (λh=>Pw.j3d h) func245 [jgX]
def j97:CKt:=
 cQ tb {hd:=true} [lD 0 [sO 0,sC 185 [],sI,sI,.b (.lst 59 ty9 e)] ⟨[0,1,5,6],[0],[]⟩ [xD (.exit 0) [sO 0,sI,.b (.lst 59 ty9 e)] ⟨[0,5],[0],[]⟩] (Pw.unc3 (Pw.j0y))] 183 [.rl 59 ty15,.clo 185 []] [.hd] [.rl ty15] (λh=>Pw.j1O h) func183 [jgX,j9g]
def jmz:CKt:=
 cQ tb {} [] 187 [.v ty9,.v ty9] [.v iT] [] (Pw.unc2 Pw.j8F) func187
noncomputable def jcI:FnD where
 N:=14
 np:=2
 cs:=[jmz.1]
def j5t:CKt:=
 ⟨⟨186,[.rl 59 ty15,.clo 187 []],[ty15],⟨[],[.rl ty15]⟩,[ty15],λh=>Pw.j1e h⟩,joS Tryz.sort186 (ty9) rfl 59 (by kernel_rfl) isAgg59 sizeOf59 _ 187 (enters_of func187 (by kernel_rfl) rfl) js5 js6 186 rfl⟩
def j9O:CKt:=
 cQ tb {dw:=[(9,dz [(14,[1])])]} [lD 0 [sO 1,sO 2,sI,sI,.b (.lst 59 ty9 e),.b (.lst 59 ty9 e)] ⟨[4,13,14,15],[],[⟨1,59,ty9,[.slot 4],e⟩,⟨2,59,ty9,[.slot 13],e⟩]⟩ [xD (.exit 0) [sO 3,.b (.lst 59 ty9 e)] ⟨[4],[],[⟨3,59,ty9,[.slot 4],e⟩]⟩] (Pw.unc4 (Pw.j4E))] 128 [.v ty15] [.own 59 ty15] [] (λh=>Pw.j8G h) func128 [jaA,j97,j5t]
def jhW:CKt:=
 cQ tb {} [lD 0 [sD ty15,sO 1,sO 2,sI,sI,.b (.lst 59 ty9 e),.b (.lst 205 ty24 e)] ⟨[1,9,19,20,21],[],[⟨1,59,ty9,[.slot 9],e⟩,⟨2,205,ty24,[.slot 19],e⟩]⟩ [xD (.exit 0) [sO 3,.b (.lst 59 ty9 e)] ⟨[9],[],[⟨3,59,ty9,[.slot 9],e⟩]⟩] (Pw.unc5 (Pw.j52)),lD 2 [sD ty15,sO 4,sB 704 0,sI,sO 5,sI,sI,.b (.cell [.d iT,.d iT,.d iT] e),.b (.lst 59 ty9 e),.b (.lst 205 ty24 e)] ⟨[1,9,11,13,19,20,21],[704],[⟨4,59,ty9,[.slot 9],e⟩,⟨5,205,ty24,[.slot 19],e⟩]⟩ [xD (.exit 2) [sD ty15,sO 6,sO 7,sI,sI,.b (.lst 59 ty9 e),.b (.lst 205 ty24 e)] ⟨[1,9,19,20,21],[],[⟨6,59,ty9,[.slot 9],e⟩,⟨7,205,ty24,[.slot 19],e⟩]⟩] (Pw.unc9 (Pw.j51)),lD 4 [sD ty15,sO 8,sB 704 0,sI,sO 9,sI,sI,sD ty15,sI,sI,.b (.cell [.d iT,.d iT,.d iT] e),.b (.lst 59 ty9 e),.b (.lst 205 ty24 e)] ⟨[1,9,11,13,19,20,21,45,46,47],[704],[⟨8,59,ty9,[.slot 9],e⟩,⟨9,205,ty24,[.slot 19],e⟩]⟩ [xD (.exit 4) [sD ty15,sO 10,sB 704 0,sI,sO 11,sI,sI,.b (.cell [.d iT,.d iT,.d iT] e),.b (.lst 59 ty9 e),.b (.lst 205 ty24 e)] ⟨[1,9,11,13,19,20,21],[704],[⟨10,59,ty9,[.slot 9],e⟩,⟨11,205,ty24,[.slot 19],e⟩]⟩] (Pw.u8 Pw.unc4 (Pw.j50))] 91 [.v ty30,.v ty15,.v iT,.v iT] [.own 59 ty15] [] (Pw.unc4 Pw.j4f) func91 [j9C,j9O]
def jl4:CKt:=
 cQ tb {} [lD 0 [sB 320 0,sO 1,sO 2,sI,sI,.b (.cell [.d .str,.d iT,.d (.list iT)] e),.b (.lst 59 ty9 e),.b (.lst 205 ty24 e)] ⟨[5,9,23,24,25],[320],[⟨1,59,ty9,[.slot 9],e⟩,⟨2,205,ty24,[.slot 23],e⟩]⟩ [xD (.exit 0) [sO 3,.b (.lst 59 ty9 e)] ⟨[9],[],[⟨3,59,ty9,[.slot 9],e⟩]⟩] (Pw.unc7 (Pw.j3S)),lD 2 [sB 320 0,sO 4,sB 704 0,sO 5,sI,sI,sD (.list iT),sI,sI,.b (.cell [.d .str,.d iT,.d (.list iT)] e),.b (.cell [.d iT,.d iT,.d iT] e),.b (.lst 59 ty9 e),.b (.lst 205 ty24 e)] ⟨[5,9,11,23,24,25,30,31,32],[320,704],[⟨4,59,ty9,[.slot 9],e⟩,⟨5,205,ty24,[.slot 23],e⟩]⟩ [xD (.exit 2) [sB 320 0,sO 6,sO 7,sI,sI,.b (.cell [.d .str,.d iT,.d (.list iT)] e),.b (.lst 59 ty9 e),.b (.lst 205 ty24 e)] ⟨[5,9,23,24,25],[320],[⟨6,59,ty9,[.slot 9],e⟩,⟨7,205,ty24,[.slot 23],e⟩]⟩] (Pw.u8 Pw.unc5 (Pw.j3R))] 285 [.v ty89,.v ty26,.v iT,.v iT] [.own 59 ty15] [] (Pw.unc4 Pw.j9a) func285 [j9C,j9O]
def jeh:CKt:=
 cQ tb {} [lD 0 [sD ty15,sO 1,sI,sD ty15,sI,sI,.b (.lst 59 ty9 e)] ⟨[1,5,6,11,12,13],[],[⟨1,59,ty9,[.slot 5],e⟩]⟩ [xD (.exit 0) [sO 2,.b (.lst 59 ty9 e)] ⟨[5],[],[⟨2,59,ty9,[.slot 5],e⟩]⟩] (Pw.unc6 (Pw.j55)),lD 2 [sD ty15,sO 3,sI,sB 512 0,sD ty15,sI,sI,.b (.cell [.d iT,.d iT] e),.b (.lst 59 ty9 e)] ⟨[1,5,6,8,11,12,13],[512],[⟨3,59,ty9,[.slot 5],e⟩]⟩ [xD (.exit 2) [sD ty15,sO 4,sI,sB 512 0,sD ty15,sI,sI,.b (.cell [.d iT,.d iT] e),.b (.lst 59 ty9 e)] ⟨[1,5,6,8,11,12,13],[512],[⟨4,59,ty9,[.slot 5],e⟩]⟩] (Pw.unc8 (Pw.j53)),lD 4 [sD ty15,sO 5,sI,sB 512 0,sI,sI,sD ty15,sI,sI,.b (.cell [.d iT,.d iT] e),.b (.lst 59 ty9 e)] ⟨[1,5,6,8,9,10,11,12,13],[512],[⟨5,59,ty9,[.slot 5],e⟩]⟩ [xD (.exit 4) [sD ty15,sO 6,sI,sB 512 0,sI,sD ty15,sI,sI,.b (.cell [.d iT,.d iT] e),.b (.lst 59 ty9 e)] ⟨[1,5,6,8,9,11,12,13],[512],[⟨6,59,ty9,[.slot 5],e⟩]⟩] (Pw.u8 Pw.unc2 (Pw.j54))] 171 [.v ty15,.v ty15] [.own 59 ty15] [] (Pw.unc2 Pw.j5l) func171
def jjx:CKt:=
 cQ tb {dw:=[(4,dz [(23,[512]),(0,[512])])]} [lD 0 [sD ty15,sD ty15,sO 1,sI,sI,.b (.lst 59 ty9 e)] ⟨[0,1,5,6,7],[],[⟨1,59,ty9,[.slot 5],e⟩]⟩ [xD (.exit 0) [sO 2,.b (.lst 59 ty9 e)] ⟨[5],[],[⟨2,59,ty9,[.slot 5],e⟩]⟩] (Pw.unc5 (Pw.j76))] 90 [.v ty15,.v ty15] [.own 59 ty15] [] (Pw.unc2 Pw.jcV) func90
def jkm:CKt:=
 cQ tb {dw:=[(7,dz [(10,[3584])]),(10,dz [(11,[4608]),(0,[4672])]),(12,dz [(11,[5568]),(0,[5632])])]} [] 235 [.v ty89,.v ty73,.v iT,.v iT] [.own 59 ty15] [] (Pw.unc4 Pw.j8e) func235 [jat,jhW,jl4,jeh,jjx]
def jiv:CKt:=
 cQ tb {} [] 159 [.v ty30,.v iT] [.v iT] [] (Pw.unc2 Pw.j8J) func159 [je2,jdi]
def jqS:CKt:=
 cQ tb {} [] 158 [.v iT] [.v ty9] [] (λh=>Pw.jhh h) func158
def je3:CKt:=
 cQ tb {} [] 105 [.v ty30,.v iT] [.v ty9] [] (Pw.unc2 Pw.j1V) func105 [jiv,jqS]
def jmA:CKt:=
 cQ tb {} [lD 0 [sI,sB 192 0,sB 256 0,sI,.b (.cell [.d iT,.d ty15] e),.b (.cell [.d .str,.d iT,.d iT,.d iT,.d iT,.d iT,.d (.list iT),.d ty15,.d iT,.d iT] e)] ⟨[2,3,4,9],[192,256],[]⟩ [xD (.exit 0) [sI,sB 192 0,sB 256 0,sI,.b (.cell [.d iT,.d ty15] e),.b (.cell [.d .str,.d iT,.d iT,.d iT,.d iT,.d iT,.d (.list iT),.d ty15,.d iT,.d iT] e)] ⟨[2,3,4,9],[192,256],[]⟩] (Pw.u8 Pw.unc6 (Pw.j4g)),lD 2 [sI,sB 192 0,sB 256 0,sI,.b (.cell [.d iT,.d ty15] e),.b (.cell [.d .str,.d iT,.d iT,.d iT,.d iT,.d iT,.d (.list iT),.d ty15,.d iT,.d iT] e)] ⟨[2,3,4,9],[192,256],[]⟩ [xD .ret [sI] ⟨[6],[],[]⟩] (Pw.u8 Pw.unc6 (Pw.j61))] 236 [.v ty30,.v ty73,.v iT] [.v iT] [] (Pw.unc3 Pw.j62) func236 [jkS,jat,je3]
def jgY:CKt:=
 cQ tb {} [lD 0 [sO 1,sD ty29,sI,sI,.b (.lst 123 ty24 e)] ⟨[3,7,8,9],[],[⟨1,123,ty24,[.slot 3],e⟩]⟩ [xD (.exit 0) [sO 2,.b (.lst 123 ty24 e)] ⟨[3],[],[⟨2,123,ty24,[.slot 3],e⟩]⟩] (Pw.unc4 (Pw.j63))] 120 [.v ty29] [.own 123 ty29] [] (λh=>Pw.jaY h) func120
end Go.Proofs.Pk
