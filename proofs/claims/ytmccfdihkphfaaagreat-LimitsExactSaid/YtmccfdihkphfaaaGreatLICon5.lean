/- Contracts: each given function is its plain function, printed by a program. -/
import Derived.Test.YtmccfdihkphfaaaGreatLICon4
open Bool renaming false->e
noncomputable section
open Go Go.Lft
set_option linter.unusedVariables false
set_option maxRecDepth 100000
namespace Go.Proofs.Pk
open Tryz
def jhE:CKt:=
 cQ tb {dw:=[(17,dz [(13,[5376]),(0,[5440,1])])]} [lD 0 [sI,sB 320 0,sO 2,sB 640 0,sI,sI,sI,sO 3,sI,sI,.b (.cell [.d .str,.d iT,.d iT,.d iT,.d iT,.d iT,.d (.list iT),.d ty15,.d iT,.d iT] e),.b (.cell [.d iT,.d ty15] e),.b (.lst 123 ty24 e),.b (.lst 59 ty9 e)] ⟨[3,5,9,10,11,12,13,30,31,32],[320,640],[⟨2,123,ty24,[.slot 9],e⟩,⟨3,59,ty9,[.slot 30],e⟩]⟩ [xD (.exit 0) [sI,sO 4,sI,.b (.lst 123 ty24 e)] ⟨[3,9,11],[],[⟨4,123,ty24,[.slot 9],e⟩]⟩] (Pw.u8 (Pw.u8 Pw.unc4) (Pw.j2n)),lD 2 [sI,sB 320 0,sO 1,sB 640 0,sI,sI,sI,sB 960 0,sO 5,sI,sI,.b (.cell [.d .str,.d iT,.d iT,.d iT,.d iT,.d iT,.d (.list iT),.d ty15,.d iT,.d iT] e),.b (.cell [.d iT,.d ty15] e),.b (.cell [.d iT,.d iT] e),.b (.lst 123 ty24 e),.b (.lst 59 ty9 e)] ⟨[3,5,9,10,11,12,13,15,30,31,32],[320,640,960],[⟨1,123,ty24,[.slot 9],e⟩,⟨5,59,ty9,[.slot 30],e⟩]⟩ [xD (.exit 2) [sI,sB 320 0,sO 6,sB 640 0,sI,sI,sI,sO 7,sI,sI,.b (.cell [.d .str,.d iT,.d iT,.d iT,.d iT,.d iT,.d (.list iT),.d ty15,.d iT,.d iT] e),.b (.cell [.d iT,.d ty15] e),.b (.lst 123 ty24 e),.b (.lst 59 ty9 e)] ⟨[3,5,9,10,11,12,13,30,31,32],[320,640],[⟨6,123,ty24,[.slot 9],e⟩,⟨7,59,ty9,[.slot 30],e⟩]⟩] (Pw.u8 (Pw.u8 Pw.unc6) (Pw.j3O))] 170 [.v ty89,.v ty73,.v iT,.v iT] [.own 123 ty29] [] (Pw.unc4 Pw.j3o) func170 [jat,jkm,jmA,jgY]
def jnj:CKt:=
 cQ tb {} [lD 0 [sI,sO 1,sD ty45,sI,sI,.b (.lst 59 ty9 e)] ⟨[1,5,9,10,11],[],[⟨1,59,ty9,[.slot 5],e⟩]⟩ [xD (.exit 0) [sO 2,.b (.lst 59 ty9 e)] ⟨[5],[],[⟨2,59,ty9,[.slot 5],e⟩]⟩] (Pw.unc5 (Pw.j56))] 234 [.v ty78,.v iT] [.own 59 ty15] [] (Pw.unc2 Pw.j8f) func234 [j9O]
def jmB:CKt:=
 cQ tb {dw:=[(9,dz [(6,[2432]),(0,[2432,1])])]} [lD 0 [sB 128 0,sO 1,sO 2,sD ty29,sI,sI,.b (.cell [.d .str,.d ty74,.d ty45] e),.b (.lst 4294967575 ty30 e),.b (.lst 123 ty24 e)] ⟨[2,5,6,14,15,16],[128],[⟨1,4294967575,ty30,[.slot 5],e⟩,⟨2,123,ty24,[.slot 6],e⟩]⟩ [xD (.exit 0) [sO 3,.b (.lst 123 ty24 e)] ⟨[6],[],[⟨3,123,ty24,[.slot 6],e⟩]⟩] (Pw.unc8 (Pw.j4k)),lD 2 [sB 128 0,sO 4,sO 5,sB 512 0,sD ty29,sI,sI,sO 6,sI,sI,.b (.cell [.d .str,.d ty74,.d ty45] e),.b (.cell [.d iT,.d iT,.d iT] e),.b (.lst 4294967575 ty30 e),.b (.lst 123 ty24 e),.b (.lst 59 ty9 e)] ⟨[2,5,6,8,14,15,16,49,50,51],[128,512],[⟨4,4294967575,ty30,[.slot 5],e⟩,⟨5,123,ty24,[.slot 6],e⟩,⟨6,59,ty9,[.slot 49],e⟩]⟩ [xD (.exit 2) [sB 128 0,sO 7,sO 8,sD ty29,sI,sI,.b (.cell [.d .str,.d ty74,.d ty45] e),.b (.lst 4294967575 ty30 e),.b (.lst 123 ty24 e)] ⟨[2,5,6,14,15,16],[128],[⟨7,4294967575,ty30,[.slot 5],e⟩,⟨8,123,ty24,[.slot 6],e⟩]⟩] (Pw.u8 Pw.unc6 (Pw.j4j))] 169 [.v ty78,.v ty29] [.own 123 ty29] [] (Pw.unc2 Pw.ja4) func169 [jeh,jnj]
def jnk:CKt:=
 cQ tb {dw:=[(4,dz [(28,[512]),(0,[512])])]} [lD 0 [sD ty29,sD ty15,sO 1,sI,sI,.b (.lst 123 ty24 e)] ⟨[0,1,5,6,7],[],[⟨1,123,ty24,[.slot 5],e⟩]⟩ [xD (.exit 0) [sO 2,.b (.lst 123 ty24 e)] ⟨[5],[],[⟨2,123,ty24,[.slot 5],e⟩]⟩] (Pw.unc5 (Pw.j6A))] 168 [.v ty29,.v ty15] [.own 123 ty29] [] (Pw.unc2 Pw.jdQ) func168
def jp8:CKt:=
 cQ tb {} [lD 0 [sO 1,sD ty29,sI,sI,.b (.lst 59 ty9 e)] ⟨[3,6,7,8],[],[⟨1,59,ty9,[.slot 3],e⟩]⟩ [xD (.exit 0) [sO 2,.b (.lst 59 ty9 e)] ⟨[3],[],[⟨2,59,ty9,[.slot 3],e⟩]⟩] (Pw.unc4 (Pw.j5B))] 172 [.v ty29] [.own 59 ty15] [] (λh=>Pw.jcZ h) func172 [j9O]
def jgZ:CKt:=
 cQ tb {} [] 174 [.v ty24,.v ty24] [.v iT] [] (Pw.unc2 Pw.j42) func174
noncomputable def j9T:FnD where
 N:=14
 np:=2
 cs:=[jgZ.1]
def j3g:CKt:=
 ⟨⟨173,[.rl 123 ty29,.clo 174 []],[ty29],⟨[],[.rl ty29]⟩,[ty29],λh=>Pw.j0C h⟩,joS Tryz.sort173 (ty24) rfl 123 (by kernel_rfl) isAgg123 sizeOf123 _ 174 (enters_of func174 (by kernel_rfl) rfl) js7 js8 173 rfl⟩
theorem jzp:ItOK Tryz.prog 233 e (ty73):=jFb <| jDB jqz func233 (fn:=Tryz.f233) (A0:=bwA Tryz.f233 0) (A1:=bwA Tryz.f233 1) (A2:=bwA Tryz.f233 2) (A3:=bwA Tryz.f233 3) (by kernel_rfl) (by kernel_rfl) (by kernel_rfl) (by kernel_rfl) (by kernel_rfl) (by kernel_rfl) (by kernel_rfl) (by kernel_rfl) (by kernel_rfl) (by kernel_rfl) (by kernel_rfl) ⟨(by kernel_rfl),(by kernel_rfl)⟩
 (λxs=>by kernel_rfl) (λi=>by kernel_rfl) (λi=>by kernel_rfl) (λxs i=>by kernel_rfl) (λb i=>by kernel_rfl)
def jjy:CKt:=
 cQ tb {dw:=[(7,dz [(5,[2112]),(0,[2176]),(1,[2304])]),(9,dz [(2,[2688]),(0,[2752]),(0,[576])])],bw:=[(233,e,ty73)]} [lD 0 [sI,sB 256 0,sB 320 0,sB 384 0,sB 448 0,sB 576 0,sB 640 0,sC 233 [.p [ty74]],.b (.cell [.d ty67,.d ty57,.d ty31,.d ty79,.d ty34] e),.b (.cell [.d .str,.d ty74,.d ty45] e),.b (.cell [.d iT] e),.b (.cell [.d iT] e),.b (.cell [.ol 1] e),.b (.cell [.ol 2] e),.b (.lst 59 ty9 e),.b (.lst 123 ty24 e)] ⟨[4,5,6,7,9,10,25],[256,320,384,448,576,640],[⟨1,59,ty9,[.cell 576 0],e⟩,⟨2,123,ty24,[.cell 640 0],e⟩]⟩ [xD .normal [sB 576 0,sB 640 0,.b (.cell [.ol 3] e),.b (.cell [.ol 4] e),.b (.lst 59 ty9 e),.b (.lst 123 ty24 e)] ⟨[9,10],[576,640],[⟨3,59,ty9,[.cell 576 0],e⟩,⟨4,123,ty24,[.cell 640 0],e⟩]⟩] (Pw.u8 Pw.unc6 (Pw.j32)),lD 2 [sB 640 0,sO 5,sI,sI,.b (.cell [.ol 6] e),.b (.lst 59 ty9 e),.b (.lst 123 ty24 e)] ⟨[10,44,45,46],[640],[⟨5,59,ty9,[.slot 44],e⟩,⟨6,123,ty24,[.cell 640 0],e⟩]⟩ [xD (.exit 2) [sB 640 0,.b (.cell [.ol 7] e),.b (.lst 123 ty24 e)] ⟨[10],[640],[⟨7,123,ty24,[.cell 640 0],e⟩]⟩] (Pw.unc4 (Pw.j33))] 117 [.v ty89,.v ty78,.v iT,.v iT] [.own 123 ty29] [] (Pw.unc4 Pw.j7r) func117 [j96,jeh,jgY,jhE,jmB,jnk,jp8,j3g] (hbw:=(And.intro jzp trivial))
def jmC:CKt:=
 cQ tb {} [] 238 [.v iT] [.v .bool] [] (λh=>Pw.jcj h) func238
def jnl:CKt:=
 cQ tb {} [] 175 [.v iT,.v iT] [.v .bool] [] (Pw.unc2 Pw.jdR) func175 [jmC]
def jjz:CKt:=
 cQ tb {} [] 176 [.v iT] [.v .bool] [] (λh=>Pw.j9r h) func176
def jc5:CKt:=
 cQ tb {} [lD 0 [sD (.list iT),sI,sI,sI,sI] ⟨[0,1,6,7,8],[],[]⟩ [xD (.exit 0) [sD (.list iT),sI,sI,sI] ⟨[0,1,6,7],[],[]⟩] (Pw.unc5 (Pw.j1P))] 118 [.v (.list iT),.v iT] [.v iT,.v .bool] [] (Pw.unc2 Pw.j3p) func118 [jnl,jjz]
def jp9:CKt:=
 cQ tb {} [] 177 [.v ty43,.v iT] [.v .bool] [] (Pw.unc2 Pw.jig) func177
def jse:CKt:=
 cQ tb {} [lD 0 [sI,sI,sD ty45,sI,sI] ⟨[1,2,9,10,11],[],[]⟩ [xD (.exit 0) [sI] ⟨[1],[],[]⟩] (Pw.unc5 (Pw.j6I))] 119 [.v ty45,.v iT,.v iT] [.v iT] [] (Pw.unc3 Pw.jj2) func119 [jp9]
def jf1:CKt:=
 cQ tb {} [lD 0 [sI,sI,sB 256 0,sB 320 0,sO 1,sD ty45,sI,sI,.b (.cell [.d ty67,.d ty57,.d ty31,.d ty79,.d ty34] e),.b (.cell [.d .str,.d ty74,.d ty45] e),.b (.lst 3 iT e)] ⟨[2,3,4,5,9,21,22,23],[256,320],[⟨1,3,iT,[.slot 9],e⟩]⟩ [xD (.exit 0) [sI,sI,sB 256 0,sB 320 0,sO 2,.b (.cell [.d ty67,.d ty57,.d ty31,.d ty79,.d ty34] e),.b (.cell [.d .str,.d ty74,.d ty45] e),.b (.lst 3 iT e)] ⟨[2,3,4,5,9],[256,320],[⟨2,3,iT,[.slot 9],e⟩]⟩] (Pw.u8 Pw.unc6 (Pw.j3q)),lD 2 [sB 320 0,sO 3,sO 4,sO 5,sI,sI,.b (.cell [.d .str,.d ty74,.d ty45] e),.b (.lst 3 iT e),.b (.lst 123 ty24 e),.b (.lst 123 ty24 e)] ⟨[5,12,13,43,44,45],[320],[⟨3,3,iT,[.slot 12],e⟩,⟨4,123,ty24,[.slot 13],e⟩,⟨5,123,ty24,[.slot 43],e⟩]⟩ [xD (.exit 2) [sO 6,.b (.lst 123 ty24 e)] ⟨[13],[],[⟨6,123,ty24,[.slot 13],e⟩]⟩] (Pw.unc8 (Pw.j3s)),lD 4 [sB 320 0,sO 7,sO 8,sB 960 0,sI,sI,sO 9,sI,sI,.b (.cell [.d .str,.d ty74,.d ty45] e),.b (.cell [.d iT,.d iT,.d iT] e),.b (.lst 3 iT e),.b (.lst 123 ty24 e),.b (.lst 123 ty24 e)] ⟨[5,12,13,15,16,18,43,44,45],[320,960],[⟨7,3,iT,[.slot 12],e⟩,⟨8,123,ty24,[.slot 13],e⟩,⟨9,123,ty24,[.slot 43],e⟩]⟩ [xD (.exit 4) [sB 320 0,sO 10,sO 11,sO 12,sI,sI,.b (.cell [.d .str,.d ty74,.d ty45] e),.b (.lst 3 iT e),.b (.lst 123 ty24 e),.b (.lst 123 ty24 e)] ⟨[5,12,13,43,44,45],[320],[⟨10,3,iT,[.slot 12],e⟩,⟨11,123,ty24,[.slot 13],e⟩,⟨12,123,ty24,[.slot 43],e⟩]⟩] (Pw.u8 Pw.unc5 (Pw.j3r))] 60 [.v ty89,.v ty78,.v iT,.v iT] [.own 123 ty29] [] (Pw.unc4 Pw.j4m) func60 [jmy,jgY,jjy,jc5,jse]
def jl5:CKt:=
 cQ tb {} [lD 0 [sI,sO 1,sD ty29,sI,sI,.b (.lst 59 ty9 e)] ⟨[1,5,8,9,10],[],[⟨1,59,ty9,[.slot 5],e⟩]⟩ [xD (.exit 0) [sO 2,.b (.lst 59 ty9 e)] ⟨[5],[],[⟨2,59,ty9,[.slot 5],e⟩]⟩] (Pw.unc5 (Pw.j3T))] 68 [.v ty29,.v iT] [.own 59 ty15] [] (Pw.unc2 Pw.jbf) func68 [j9O]
def jh0:CKt:=
 cQ tb {} [lD 0 [sI,sI,sI,sB 256 0,sO 1,sD ty79,sI,sI,.b (.cell [.d ty67,.d ty57,.d ty31,.d ty79,.d ty34] e),.b (.lst 59 ty9 e)] ⟨[1,2,3,4,10,17,18,19],[256],[⟨1,59,ty9,[.slot 10],e⟩]⟩ [xD .ret [.s (.one (.nil)),sI] ⟨[8,9],[],[]⟩,xD (.exit 0) [sO 2,.b (.lst 59 ty9 e)] ⟨[10],[],[⟨2,59,ty9,[.slot 10],e⟩]⟩] (Pw.u8 Pw.unc4 (Pw.j4n))] 87 [.v ty89,.v iT,.v iT,.v iT] [.own 59 ty15,.v iT] [] (Pw.unc4 Pw.j7a) func87 [j9O,jf1,jl5]
def jkn:CKt:=
 cQ tb {} [lD 0 [sD ty29,sD ty29,sI,sI,sO 1,sI,sI,.b (.lst 66 ty43 e)] ⟨[0,1,2,3,9,10,11],[],[⟨1,66,ty43,[.slot 9],e⟩]⟩ [xD (.exit 0) [sO 2,.b (.lst 66 ty43 e)] ⟨[9],[],[⟨2,66,ty43,[.slot 9],e⟩]⟩] (Pw.unc7 (Pw.j2g))] 73 [.v ty29,.v ty29,.v iT,.v iT] [.own 66 ty45] [] (Pw.unc4 Pw.j8h) func73
def j8A:CKt:=
 cQ tb {} [] 75 [.v ty43,.v ty43] [.v iT] [] (Pw.unc2 Pw.j2T) func75
def j8B:CKt:=
 cQ tb {dw:=[(6,dz [(15,[0]),(1,[0])])]} [lD 0 [sO 0,sI,sI,sC 75 [],sI,.b (.lst 66 ty43 e)] ⟨[0,1,2,3,8],[0],[]⟩ [xD (.exit 0) [.b (.lst 66 ty43 e)] ⟨[],[0],[]⟩] (Pw.unc4 (Pw.j0h)),lD 2 [sO 0,sI,sI,sC 75 [],sI,sI,.b (.lst 66 ty43 e)] ⟨[0,1,2,3,8,9],[0],[]⟩ [xD (.exit 2) [sO 0,sI,sI,sC 75 [],sI,.b (.lst 66 ty43 e)] ⟨[0,1,2,3,8],[0],[]⟩] (Pw.unc5 (Pw.j0s))] 210 [.rl 66 ty45,.v iT,.v iT,.clo 75 []] [] [.rl ty45] (Pw.unc3 Pw.j0A) func210 [j8A]
end Go.Proofs.Pk
