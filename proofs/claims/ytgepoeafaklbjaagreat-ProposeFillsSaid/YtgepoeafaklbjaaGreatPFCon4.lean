/- Contracts: each given function is its plain function, printed by a program. -/
import Derived.Test.YtgepoeafaklbjaaGreatPFCon3
open Bool renaming false->e
noncomputable section
open Go Go.Lft
set_option linter.unusedVariables false
set_option maxRecDepth 100000
namespace Go.Proofs.Pk
open Tryz
def jia:CKt:=
 cQ tb {} [lD 0 [sB 192 0,sO 1,sI,sI,.b (.cell [.d iT,.d iT] e),.b (.lst 202 ty20 e)] ⟨[3,10,11,12],[192],[⟨1,202,ty20,[.slot 10],e⟩]⟩ [xD .ret [sI,sD .bool] ⟨[4,5],[],[]⟩,xD (.exit 0) [] ⟨[],[],[]⟩] (Pw.unc5 (Pw.j1m))] 300 [.v ty27,.v ty7] [.v iT,.v .bool] [] (Pw.unc2 Pw.j2Z) func300 [j8J,jlW]
def j9F:CKt:=
 cQ tb {dw:=[(5,dz [(8,[512])])]} [] 256 [.v ty27,.v ty71,.v iT] [.v iT,.v .bool] [] (Pw.unc3 Pw.j0S) func256 [jjt,jia]
def j9H:FnD where
 N:=8
 np:=1
 ro:=[true]
def j9I:CKt:=
 ⟨⟨167,[.v ty12],[ty12],⟨[.own 42 ty12],[]⟩,[ty12],λh=>Pw.j3x h⟩,j83 jh5 j9D j9H 167 ty7 42 Tryz.f167 (Tryz.f167.body.getD .skip) func167 (by kernel_rfl) (by kernel_rfl) (Nat.le_of_ble_eq_true (by kernel_rfl)) (by kernel_rfl) trivial (by kernel_rfl)
   (λh R k=>by kernel_rfl)⟩
def jfL:CKt:=
 cQ tb {} [] 168 [.v ty7] [.v .bool] [] (λh=>Pw.j95 h) func168
def j89:CKt:=
 cQ tb {} [lD 0 [sO 0,sC 168 [],sI,sI,.b (.lst 42 ty7 e)] ⟨[0,1,7,8],[0],[]⟩ [xD .ret [sI,.b (.lst 42 ty7 e)] ⟨[4],[0],[]⟩,xD (.exit 0) [.b (.lst 42 ty7 e)] ⟨[],[0],[]⟩] (Pw.unc3 (Pw.j0z))] 228 [.rl 42 ty12,.clo 168 []] [.v iT] [.rl ty12] (λh=>Pw.j2A h) func228 [jfL]
def j80:CKt:=
 cQ tb {hd:=true} [lD 0 [sO 0,sC 168 [],sI,sI,.b (.lst 42 ty7 e)] ⟨[0,1,5,6],[0],[]⟩ [xD (.exit 0) [sO 0,sI,.b (.lst 42 ty7 e)] ⟨[0,5],[0],[]⟩] (Pw.unc3 (Pw.j0v))] 166 [.rl 42 ty12,.clo 168 []] [.hd] [.rl ty12] (λh=>Pw.j1u h) func166 [jfL,j89]
def jlf:CKt:=
 cQ tb {} [] 170 [.v ty7,.v ty7] [.v iT] [] (Pw.unc2 Pw.j7G) func170
def jbE:FnD where
 N:=14
 np:=2
 cs:=[jlf.1]
def j4x:CKt:=
 ⟨⟨169,[.rl 42 ty12,.clo 170 []],[ty12],⟨[],[.rl ty12]⟩,[ty12],λh=>Pw.j0Y h⟩,jjW Tryz.sort169 (ty7) rfl 42 (by kernel_rfl) isAgg42 sizeOf42 _ 170 (enters_of func170 (by kernel_rfl) rfl) jqv jqw 169 rfl⟩
def j8W:CKt:=
 cQ tb {dw:=[(9,dz [(14,[1])])]} [lD 0 [sO 1,sO 2,sI,sI,.b (.lst 42 ty7 e),.b (.lst 42 ty7 e)] ⟨[4,13,14,15],[],[⟨1,42,ty7,[.slot 4],e⟩,⟨2,42,ty7,[.slot 13],e⟩]⟩ [xD (.exit 0) [sO 3,.b (.lst 42 ty7 e)] ⟨[4],[],[⟨3,42,ty7,[.slot 4],e⟩]⟩] (Pw.unc4 (Pw.j3P))] 112 [.v ty12] [.own 42 ty12] [] (λh=>Pw.j7H h) func112 [j9I,j80,j4x]
def jap:CKt:=
 cQ tb {} [lD 0 [sD ty12,sO 1,sO 2,sI,sI,.b (.lst 42 ty7 e),.b (.lst 202 ty20 e)] ⟨[1,9,19,20,21],[],[⟨1,42,ty7,[.slot 9],e⟩,⟨2,202,ty20,[.slot 19],e⟩]⟩ [xD (.exit 0) [sO 3,.b (.lst 42 ty7 e)] ⟨[9],[],[⟨3,42,ty7,[.slot 9],e⟩]⟩] (Pw.unc5 (Pw.j47)),lD 2 [sD ty12,sO 4,sB 704 0,sI,sO 5,sI,sI,.b (.cell [.d iT,.d iT,.d iT] e),.b (.lst 42 ty7 e),.b (.lst 202 ty20 e)] ⟨[1,9,11,13,19,20,21],[704],[⟨4,42,ty7,[.slot 9],e⟩,⟨5,202,ty20,[.slot 19],e⟩]⟩ [xD (.exit 2) [sD ty12,sO 6,sO 7,sI,sI,.b (.lst 42 ty7 e),.b (.lst 202 ty20 e)] ⟨[1,9,19,20,21],[],[⟨6,42,ty7,[.slot 9],e⟩,⟨7,202,ty20,[.slot 19],e⟩]⟩] (Pw.unc9 (Pw.j46)),lD 4 [sD ty12,sO 8,sB 704 0,sI,sO 9,sI,sI,sD ty12,sI,sI,.b (.cell [.d iT,.d iT,.d iT] e),.b (.lst 42 ty7 e),.b (.lst 202 ty20 e)] ⟨[1,9,11,13,19,20,21,45,46,47],[704],[⟨8,42,ty7,[.slot 9],e⟩,⟨9,202,ty20,[.slot 19],e⟩]⟩ [xD (.exit 4) [sD ty12,sO 10,sB 704 0,sI,sO 11,sI,sI,.b (.cell [.d iT,.d iT,.d iT] e),.b (.lst 42 ty7 e),.b (.lst 202 ty20 e)] ⟨[1,9,11,13,19,20,21],[704],[⟨10,42,ty7,[.slot 9],e⟩,⟨11,202,ty20,[.slot 19],e⟩]⟩] (Pw.u8 Pw.unc4 (Pw.j45))] 64 [.v ty27,.v ty12,.v iT,.v iT] [.own 42 ty12] [] (Pw.unc4 Pw.j30) func64 [j8J,j8W]
def jjF:CKt:=
 cQ tb {} [lD 0 [sB 320 0,sO 1,sO 2,sI,sI,.b (.cell [.d .str,.d iT,.d (.list iT)] e),.b (.lst 42 ty7 e),.b (.lst 202 ty20 e)] ⟨[5,9,23,24,25],[320],[⟨1,42,ty7,[.slot 9],e⟩,⟨2,202,ty20,[.slot 23],e⟩]⟩ [xD (.exit 0) [sO 3,.b (.lst 42 ty7 e)] ⟨[9],[],[⟨3,42,ty7,[.slot 9],e⟩]⟩] (Pw.unc7 (Pw.j3c)),lD 2 [sB 320 0,sO 4,sB 704 0,sO 5,sI,sI,sD (.list iT),sI,sI,.b (.cell [.d .str,.d iT,.d (.list iT)] e),.b (.cell [.d iT,.d iT,.d iT] e),.b (.lst 42 ty7 e),.b (.lst 202 ty20 e)] ⟨[5,9,11,23,24,25,30,31,32],[320,704],[⟨4,42,ty7,[.slot 9],e⟩,⟨5,202,ty20,[.slot 23],e⟩]⟩ [xD (.exit 2) [sB 320 0,sO 6,sO 7,sI,sI,.b (.cell [.d .str,.d iT,.d (.list iT)] e),.b (.lst 42 ty7 e),.b (.lst 202 ty20 e)] ⟨[5,9,23,24,25],[320],[⟨6,42,ty7,[.slot 9],e⟩,⟨7,202,ty20,[.slot 23],e⟩]⟩] (Pw.u8 Pw.unc5 (Pw.j3b))] 297 [.v ty85,.v ty23,.v iT,.v iT] [.own 42 ty12] [] (Pw.unc4 Pw.j3r) func297 [j8J,j8W]
def jdg:CKt:=
 cQ tb {} [lD 0 [sD ty12,sO 1,sI,sD ty12,sI,sI,.b (.lst 42 ty7 e)] ⟨[1,5,6,11,12,13],[],[⟨1,42,ty7,[.slot 5],e⟩]⟩ [xD (.exit 0) [sO 2,.b (.lst 42 ty7 e)] ⟨[5],[],[⟨2,42,ty7,[.slot 5],e⟩]⟩] (Pw.unc6 (Pw.j4a)),lD 2 [sD ty12,sO 3,sI,sB 512 0,sD ty12,sI,sI,.b (.cell [.d iT,.d iT] e),.b (.lst 42 ty7 e)] ⟨[1,5,6,8,11,12,13],[512],[⟨3,42,ty7,[.slot 5],e⟩]⟩ [xD (.exit 2) [sD ty12,sO 4,sI,sB 512 0,sD ty12,sI,sI,.b (.cell [.d iT,.d iT] e),.b (.lst 42 ty7 e)] ⟨[1,5,6,8,11,12,13],[512],[⟨4,42,ty7,[.slot 5],e⟩]⟩] (Pw.unc8 (Pw.j48)),lD 4 [sD ty12,sO 5,sI,sB 512 0,sI,sI,sD ty12,sI,sI,.b (.cell [.d iT,.d iT] e),.b (.lst 42 ty7 e)] ⟨[1,5,6,8,9,10,11,12,13],[512],[⟨5,42,ty7,[.slot 5],e⟩]⟩ [xD (.exit 4) [sD ty12,sO 6,sI,sB 512 0,sI,sD ty12,sI,sI,.b (.cell [.d iT,.d iT] e),.b (.lst 42 ty7 e)] ⟨[1,5,6,8,9,11,12,13],[512],[⟨6,42,ty7,[.slot 5],e⟩]⟩] (Pw.u8 Pw.unc2 (Pw.j49))] 215 [.v ty12,.v ty12] [.own 42 ty12] [] (Pw.unc2 Pw.j4q) func215
def jbv:CKt:=
 cQ tb {dw:=[(4,dz [(23,[512]),(0,[512])])]} [lD 0 [sD ty12,sD ty12,sO 1,sI,sI,.b (.lst 42 ty7 e)] ⟨[0,1,5,6,7],[],[⟨1,42,ty7,[.slot 5],e⟩]⟩ [xD (.exit 0) [sO 2,.b (.lst 42 ty7 e)] ⟨[5],[],[⟨2,42,ty7,[.slot 5],e⟩]⟩] (Pw.unc5 (Pw.j6g))] 66 [.v ty12,.v ty12] [.own 42 ty12] [] (Pw.unc2 Pw.j8F) func66
def jiW:CKt:=
 cQ tb {dw:=[(7,dz [(10,[3584])]),(10,dz [(11,[4608]),(0,[4672])]),(12,dz [(11,[5568]),(0,[5632])])]} [] 254 [.v ty85,.v ty71,.v iT,.v iT] [.own 42 ty12] [] (Pw.unc4 Pw.j7m) func254 [j9F,jap,jjF,jdg,jbv]
def jh9:CKt:=
 cQ tb {} [] 323 [.v ty27,.v iT] [.v iT] [] (Pw.unc2 Pw.j7K) func323 [jd6,jck]
def jpo:CKt:=
 cQ tb {} [] 322 [.v iT] [.v ty7] [] (λh=>Pw.jg4 h) func322
def jib:CKt:=
 cQ tb {} [] 298 [.v ty27,.v iT] [.v ty7] [] (Pw.unc2 Pw.j1B) func298 [jh9,jpo]
def jlg:CKt:=
 cQ tb {} [lD 0 [sI,sB 192 0,sB 256 0,sI,.b (.cell [.d iT,.d ty12] e),.b (.cell [.d .str,.d iT,.d iT,.d iT,.d iT,.d iT,.d (.list iT),.d ty12,.d iT,.d iT] e)] ⟨[2,3,4,9],[192,256],[]⟩ [xD (.exit 0) [sI,sB 192 0,sB 256 0,sI,.b (.cell [.d iT,.d ty12] e),.b (.cell [.d .str,.d iT,.d iT,.d iT,.d iT,.d iT,.d (.list iT),.d ty12,.d iT,.d iT] e)] ⟨[2,3,4,9],[192,256],[]⟩] (Pw.u8 Pw.unc6 (Pw.j3y)),lD 2 [sI,sB 192 0,sB 256 0,sI,.b (.cell [.d iT,.d ty12] e),.b (.cell [.d .str,.d iT,.d iT,.d iT,.d iT,.d iT,.d (.list iT),.d ty12,.d iT,.d iT] e)] ⟨[2,3,4,9],[192,256],[]⟩ [xD .ret [sI] ⟨[6],[],[]⟩] (Pw.u8 Pw.unc6 (Pw.j50))] 255 [.v ty27,.v ty71,.v iT] [.v iT] [] (Pw.unc3 Pw.j4l) func255 [jjt,j9F,jib]
def jfM:CKt:=
 cQ tb {} [lD 0 [sO 1,sD ty25,sI,sI,.b (.lst 128 ty20 e)] ⟨[3,7,8,9],[],[⟨1,128,ty20,[.slot 3],e⟩]⟩ [xD (.exit 0) [sO 2,.b (.lst 128 ty20 e)] ⟨[3],[],[⟨2,128,ty20,[.slot 3],e⟩]⟩] (Pw.unc4 (Pw.j51))] 160 [.v ty25] [.own 128 ty25] [] (λh=>Pw.jac h) func160
def jgl:CKt:=
 cQ tb {dw:=[(17,dz [(13,[5376]),(0,[5440,1])])]} [lD 0 [sI,sB 320 0,sO 2,sB 640 0,sI,sI,sI,sO 3,sI,sI,.b (.cell [.d .str,.d iT,.d iT,.d iT,.d iT,.d iT,.d (.list iT),.d ty12,.d iT,.d iT] e),.b (.cell [.d iT,.d ty12] e),.b (.lst 128 ty20 e),.b (.lst 42 ty7 e)] ⟨[3,5,9,10,11,12,13,30,31,32],[320,640],[⟨2,128,ty20,[.slot 9],e⟩,⟨3,42,ty7,[.slot 30],e⟩]⟩ [xD (.exit 0) [sI,sO 4,sI,.b (.lst 128 ty20 e)] ⟨[3,9,11],[],[⟨4,128,ty20,[.slot 9],e⟩]⟩] (Pw.u8 (Pw.u8 Pw.unc4) (Pw.j1Y)),lD 2 [sI,sB 320 0,sO 1,sB 640 0,sI,sI,sI,sB 960 0,sO 5,sI,sI,.b (.cell [.d .str,.d iT,.d iT,.d iT,.d iT,.d iT,.d (.list iT),.d ty12,.d iT,.d iT] e),.b (.cell [.d iT,.d ty12] e),.b (.cell [.d iT,.d iT] e),.b (.lst 128 ty20 e),.b (.lst 42 ty7 e)] ⟨[3,5,9,10,11,12,13,15,30,31,32],[320,640,960],[⟨1,128,ty20,[.slot 9],e⟩,⟨5,42,ty7,[.slot 30],e⟩]⟩ [xD (.exit 2) [sI,sB 320 0,sO 6,sB 640 0,sI,sI,sI,sO 7,sI,sI,.b (.cell [.d .str,.d iT,.d iT,.d iT,.d iT,.d iT,.d (.list iT),.d ty12,.d iT,.d iT] e),.b (.cell [.d iT,.d ty12] e),.b (.lst 128 ty20 e),.b (.lst 42 ty7 e)] ⟨[3,5,9,10,11,12,13,30,31,32],[320,640],[⟨6,128,ty20,[.slot 9],e⟩,⟨7,42,ty7,[.slot 30],e⟩]⟩] (Pw.u8 (Pw.u8 Pw.unc6) (Pw.j37))] 214 [.v ty85,.v ty71,.v iT,.v iT] [.own 128 ty25] [] (Pw.unc4 Pw.j28) func214 [j9F,jiW,jlg,jfM]
end Go.Proofs.Pk
