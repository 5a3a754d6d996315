/- Contracts: each given function is its plain function, printed by a program. -/
import Derived.Test.YtlnljpfkgigljaaGreatPOCon3
open Bool renaming false->e
noncomputable section
open Go Go.Lft
set_option linter.unusedVariables false
set_option maxRecDepth 100000
namespace Go.Proofs.Pk
open Tryz
def jiB:CKt:=
 cQ tb {} [lD 0 [sB 192 0,sO 1,sI,sI,.b (.cell [.d iT,.d iT] e),.b (.lst 201 ty19 e)] ⟨[3,10,11,12],[192],[⟨1,201,ty19,[.slot 10],e⟩]⟩ [xD .ret [sI,sD .bool] ⟨[4,5],[],[]⟩,xD (.exit 0) [] ⟨[],[],[]⟩] (Pw.unc5 (Pw.j1o))] 301 [.v ty26,.v ty6] [.v iT,.v .bool] [] (Pw.unc2 Pw.j35) func301 [j8V,jmt]
def j9U:CKt:=
 cQ tb {dw:=[(5,dz [(8,[512])])]} [] 260 [.v ty26,.v ty70,.v iT] [.v iT,.v .bool] [] (Pw.unc3 Pw.j0V) func260 [jjX,jiB]
def j9X:FnD where
 N:=8
 np:=1
 ro:=[true]
def j9Y:CKt:=
 ⟨⟨169,[.v ty11],[ty11],⟨[.own 99 ty11],[]⟩,[ty11],λh=>Pw.j3E h⟩,j8f jhx j9S j9X 169 ty6 99 Tryz.f169 (Tryz.f169.body.getD .skip) func169 (by kernel_rfl) (by kernel_rfl) (Nat.le_of_ble_eq_true (by kernel_rfl)) (by kernel_rfl) trivial (by kernel_rfl)
   (λh R k=>by kernel_rfl)⟩
def jgc:CKt:=
 cQ tb {} [] 170 [.v ty6] [.v .bool] [] (λh=>Pw.j9j h) func170
def j8l:CKt:=
 cQ tb {} [lD 0 [sO 0,sC 170 [],sI,sI,.b (.lst 99 ty6 e)] ⟨[0,1,7,8],[0],[]⟩ [xD .ret [sI,.b (.lst 99 ty6 e)] ⟨[4],[0],[]⟩,xD (.exit 0) [.b (.lst 99 ty6 e)] ⟨[],[0],[]⟩] (Pw.unc3 (Pw.j0C))] 228 [.rl 99 ty11,.clo 170 []] [.v iT] [.rl ty11] (λh=>Pw.j2E h) func228 [jgc]
def j8b:CKt:=
 cQ tb {hd:=true} [lD 0 [sO 0,sC 170 [],sI,sI,.b (.lst 99 ty6 e)] ⟨[0,1,5,6],[0],[]⟩ [xD (.exit 0) [sO 0,sI,.b (.lst 99 ty6 e)] ⟨[0,5],[0],[]⟩] (Pw.unc3 (Pw.j0x))] 168 [.rl 99 ty11,.clo 170 []] [.hd] [.rl ty11] (λh=>Pw.j1x h) func168 [jgc,j8l]
def jlK:CKt:=
 cQ tb {} [] 172 [.v ty6,.v ty6] [.v iT] [] (Pw.unc2 Pw.j7Q) func172
def jc4:FnD where
 N:=14
 np:=2
 cs:=[jlK.1]
def j4C:CKt:=
 ⟨⟨171,[.rl 99 ty11,.clo 172 []],[ty11],⟨[],[.rl ty11]⟩,[ty11],λh=>Pw.j0Z h⟩,jkq Tryz.sort171 (ty6) rfl 99 (by kernel_rfl) isAgg99 sizeOf99 _ 172 (enters_of func172 (by kernel_rfl) rfl) jr3 jr4 171 rfl⟩
def j9a:CKt:=
 cQ tb {dw:=[(9,dz [(14,[1])])]} [lD 0 [sO 1,sO 2,sI,sI,.b (.lst 99 ty6 e),.b (.lst 99 ty6 e)] ⟨[4,13,14,15],[],[⟨1,99,ty6,[.slot 4],e⟩,⟨2,99,ty6,[.slot 13],e⟩]⟩ [xD (.exit 0) [sO 3,.b (.lst 99 ty6 e)] ⟨[4],[],[⟨3,99,ty6,[.slot 4],e⟩]⟩] (Pw.unc4 (Pw.j3W))] 113 [.v ty11] [.own 99 ty11] [] (λh=>Pw.j7R h) func113 [j9Y,j8b,j4C]
def jaF:CKt:=
 cQ tb {} [lD 0 [sD ty11,sO 1,sO 2,sI,sI,.b (.lst 99 ty6 e),.b (.lst 201 ty19 e)] ⟨[1,9,19,20,21],[],[⟨1,99,ty6,[.slot 9],e⟩,⟨2,201,ty19,[.slot 19],e⟩]⟩ [xD (.exit 0) [sO 3,.b (.lst 99 ty6 e)] ⟨[9],[],[⟨3,99,ty6,[.slot 9],e⟩]⟩] (Pw.unc5 (Pw.j4d)),lD 2 [sD ty11,sO 4,sB 704 0,sI,sO 5,sI,sI,.b (.cell [.d iT,.d iT,.d iT] e),.b (.lst 99 ty6 e),.b (.lst 201 ty19 e)] ⟨[1,9,11,13,19,20,21],[704],[⟨4,99,ty6,[.slot 9],e⟩,⟨5,201,ty19,[.slot 19],e⟩]⟩ [xD (.exit 2) [sD ty11,sO 6,sO 7,sI,sI,.b (.lst 99 ty6 e),.b (.lst 201 ty19 e)] ⟨[1,9,19,20,21],[],[⟨6,99,ty6,[.slot 9],e⟩,⟨7,201,ty19,[.slot 19],e⟩]⟩] (Pw.unc9 (Pw.j4c)),lD 4 [sD ty11,sO 8,sB 704 0,sI,sO 9,sI,sI,sD ty11,sI,sI,.b (.cell [.d iT,.d iT,.d iT] e),.b (.lst 99 ty6 e),.b (.lst 201 ty19 e)] ⟨[1,9,11,13,19,20,21,45,46,47],[704],[⟨8,99,ty6,[.slot 9],e⟩,⟨9,201,ty19,[.slot 19],e⟩]⟩ [xD (.exit 4) [sD ty11,sO 10,sB 704 0,sI,sO 11,sI,sI,.b (.cell [.d iT,.d iT,.d iT] e),.b (.lst 99 ty6 e),.b (.lst 201 ty19 e)] ⟨[1,9,11,13,19,20,21],[704],[⟨10,99,ty6,[.slot 9],e⟩,⟨11,201,ty19,[.slot 19],e⟩]⟩] (Pw.u8 Pw.unc4 (Pw.j4b))] 51 [.v ty26,.v ty11,.v iT,.v iT] [.own 99 ty11] [] (Pw.unc4 Pw.j1F) func51 [j8V,j9a]
def jk9:CKt:=
 cQ tb {} [lD 0 [sB 320 0,sO 1,sO 2,sI,sI,.b (.cell [.d .str,.d iT,.d (.list iT)] e),.b (.lst 99 ty6 e),.b (.lst 201 ty19 e)] ⟨[5,9,23,24,25],[320],[⟨1,99,ty6,[.slot 9],e⟩,⟨2,201,ty19,[.slot 23],e⟩]⟩ [xD (.exit 0) [sO 3,.b (.lst 99 ty6 e)] ⟨[9],[],[⟨3,99,ty6,[.slot 9],e⟩]⟩] (Pw.unc7 (Pw.j3d)),lD 2 [sB 320 0,sO 4,sB 704 0,sO 5,sI,sI,sD (.list iT),sI,sI,.b (.cell [.d .str,.d iT,.d (.list iT)] e),.b (.cell [.d iT,.d iT,.d iT] e),.b (.lst 99 ty6 e),.b (.lst 201 ty19 e)] ⟨[5,9,11,23,24,25,30,31,32],[320,704],[⟨4,99,ty6,[.slot 9],e⟩,⟨5,201,ty19,[.slot 23],e⟩]⟩ [xD (.exit 2) [sB 320 0,sO 6,sO 7,sI,sI,.b (.cell [.d .str,.d iT,.d (.list iT)] e),.b (.lst 99 ty6 e),.b (.lst 201 ty19 e)] ⟨[5,9,23,24,25],[320],[⟨6,99,ty6,[.slot 9],e⟩,⟨7,201,ty19,[.slot 23],e⟩]⟩] (Pw.u8 Pw.unc5 (Pw.j3c))] 298 [.v ty84,.v ty22,.v iT,.v iT] [.own 99 ty11] [] (Pw.unc4 Pw.j3w) func298 [j8V,j9a]
def jdE:CKt:=
 cQ tb {} [lD 0 [sD ty11,sO 1,sI,sD ty11,sI,sI,.b (.lst 99 ty6 e)] ⟨[1,5,6,11,12,13],[],[⟨1,99,ty6,[.slot 5],e⟩]⟩ [xD (.exit 0) [sO 2,.b (.lst 99 ty6 e)] ⟨[5],[],[⟨2,99,ty6,[.slot 5],e⟩]⟩] (Pw.unc6 (Pw.j4g)),lD 2 [sD ty11,sO 3,sI,sB 512 0,sD ty11,sI,sI,.b (.cell [.d iT,.d iT] e),.b (.lst 99 ty6 e)] ⟨[1,5,6,8,11,12,13],[512],[⟨3,99,ty6,[.slot 5],e⟩]⟩ [xD (.exit 2) [sD ty11,sO 4,sI,sB 512 0,sD ty11,sI,sI,.b (.cell [.d iT,.d iT] e),.b (.lst 99 ty6 e)] ⟨[1,5,6,8,11,12,13],[512],[⟨4,99,ty6,[.slot 5],e⟩]⟩] (Pw.unc8 (Pw.j4e)),lD 4 [sD ty11,sO 5,sI,sB 512 0,sI,sI,sD ty11,sI,sI,.b (.cell [.d iT,.d iT] e),.b (.lst 99 ty6 e)] ⟨[1,5,6,8,9,10,11,12,13],[512],[⟨5,99,ty6,[.slot 5],e⟩]⟩ [xD (.exit 4) [sD ty11,sO 6,sI,sB 512 0,sI,sD ty11,sI,sI,.b (.cell [.d iT,.d iT] e),.b (.lst 99 ty6 e)] ⟨[1,5,6,8,9,11,12,13],[512],[⟨6,99,ty6,[.slot 5],e⟩]⟩] (Pw.u8 Pw.unc2 (Pw.j4f))] 215 [.v ty11,.v ty11] [.own 99 ty11] [] (Pw.unc2 Pw.j4w) func215
def jbU:CKt:=
 cQ tb {dw:=[(4,dz [(23,[512]),(0,[512])])]} [lD 0 [sD ty11,sD ty11,sO 1,sI,sI,.b (.lst 99 ty6 e)] ⟨[0,1,5,6,7],[],[⟨1,99,ty6,[.slot 5],e⟩]⟩ [xD (.exit 0) [sO 2,.b (.lst 99 ty6 e)] ⟨[5],[],[⟨2,99,ty6,[.slot 5],e⟩]⟩] (Pw.unc5 (Pw.j6p))] 53 [.v ty11,.v ty11] [.own 99 ty11] [] (Pw.unc2 Pw.j7t) func53
def jjp:CKt:=
 cQ tb {dw:=[(7,dz [(10,[3584])]),(10,dz [(11,[4608]),(0,[4672])]),(12,dz [(11,[5568]),(0,[5632])])]} [] 258 [.v ty84,.v ty70,.v iT,.v iT] [.own 99 ty11] [] (Pw.unc4 Pw.j7u) func258 [j9U,jaF,jk9,jdE,jbU]
def jhC:CKt:=
 cQ tb {} [] 326 [.v ty26,.v iT] [.v iT] [] (Pw.unc2 Pw.j7U) func326 [jdx,jcM]
def jpX:CKt:=
 cQ tb {} [] 325 [.v iT] [.v ty6] [] (λh=>Pw.jgu h) func325
def jiC:CKt:=
 cQ tb {} [] 299 [.v ty26,.v iT] [.v ty6] [] (Pw.unc2 Pw.j1D) func299 [jhC,jpX]
def jlL:CKt:=
 cQ tb {} [lD 0 [sI,sB 192 0,sB 256 0,sI,.b (.cell [.d iT,.d ty11] e),.b (.cell [.d .str,.d iT,.d iT,.d iT,.d iT,.d iT,.d (.list iT),.d ty11,.d iT,.d iT] e)] ⟨[2,3,4,9],[192,256],[]⟩ [xD (.exit 0) [sI,sB 192 0,sB 256 0,sI,.b (.cell [.d iT,.d ty11] e),.b (.cell [.d .str,.d iT,.d iT,.d iT,.d iT,.d iT,.d (.list iT),.d ty11,.d iT,.d iT] e)] ⟨[2,3,4,9],[192,256],[]⟩] (Pw.u8 Pw.unc6 (Pw.j3F)),lD 2 [sI,sB 192 0,sB 256 0,sI,.b (.cell [.d iT,.d ty11] e),.b (.cell [.d .str,.d iT,.d iT,.d iT,.d iT,.d iT,.d (.list iT),.d ty11,.d iT,.d iT] e)] ⟨[2,3,4,9],[192,256],[]⟩ [xD .ret [sI] ⟨[6],[],[]⟩] (Pw.u8 Pw.unc6 (Pw.j54))] 259 [.v ty26,.v ty70,.v iT] [.v iT] [] (Pw.unc3 Pw.j4s) func259 [jjX,j9U,jiC]
def jgd:CKt:=
 cQ tb {} [lD 0 [sO 1,sD ty24,sI,sI,.b (.lst 92 ty19 e)] ⟨[3,7,8,9],[],[⟨1,92,ty19,[.slot 3],e⟩]⟩ [xD (.exit 0) [sO 2,.b (.lst 92 ty19 e)] ⟨[3],[],[⟨2,92,ty19,[.slot 3],e⟩]⟩] (Pw.unc4 (Pw.j55))] 162 [.v ty24] [.own 92 ty24] [] (λh=>Pw.jar h) func162
def jgL:CKt:=
 cQ tb {dw:=[(17,dz [(13,[5376]),(0,[5440,1])])]} [lD 0 [sI,sB 320 0,sO 2,sB 640 0,sI,sI,sI,sO 3,sI,sI,.b (.cell [.d .str,.d iT,.d iT,.d iT,.d iT,.d iT,.d (.list iT),.d ty11,.d iT,.d iT] e),.b (.cell [.d iT,.d ty11] e),.b (.lst 92 ty19 e),.b (.lst 99 ty6 e)] ⟨[3,5,9,10,11,12,13,30,31,32],[320,640],[⟨2,92,ty19,[.slot 9],e⟩,⟨3,99,ty6,[.slot 30],e⟩]⟩ [xD (.exit 0) [sI,sO 4,sI,.b (.lst 92 ty19 e)] ⟨[3,9,11],[],[⟨4,92,ty19,[.slot 9],e⟩]⟩] (Pw.u8 (Pw.u8 Pw.unc4) (Pw.j1Z)),lD 2 [sI,sB 320 0,sO 1,sB 640 0,sI,sI,sI,sB 960 0,sO 5,sI,sI,.b (.cell [.d .str,.d iT,.d iT,.d iT,.d iT,.d iT,.d (.list iT),.d ty11,.d iT,.d iT] e),.b (.cell [.d iT,.d ty11] e),.b (.cell [.d iT,.d iT] e),.b (.lst 92 ty19 e),.b (.lst 99 ty6 e)] ⟨[3,5,9,10,11,12,13,15,30,31,32],[320,640,960],[⟨1,92,ty19,[.slot 9],e⟩,⟨5,99,ty6,[.slot 30],e⟩]⟩ [xD (.exit 2) [sI,sB 320 0,sO 6,sB 640 0,sI,sI,sI,sO 7,sI,sI,.b (.cell [.d .str,.d iT,.d iT,.d iT,.d iT,.d iT,.d (.list iT),.d ty11,.d iT,.d iT] e),.b (.cell [.d iT,.d ty11] e),.b (.lst 92 ty19 e),.b (.lst 99 ty6 e)] ⟨[3,5,9,10,11,12,13,30,31,32],[320,640],[⟨6,92,ty19,[.slot 9],e⟩,⟨7,99,ty6,[.slot 30],e⟩]⟩] (Pw.u8 (Pw.u8 Pw.unc6) (Pw.j39))] 214 [.v ty84,.v ty70,.v iT,.v iT] [.own 92 ty24] [] (Pw.unc4 Pw.j2a) func214 [j9U,jjp,jlL,jgd]
end Go.Proofs.Pk
