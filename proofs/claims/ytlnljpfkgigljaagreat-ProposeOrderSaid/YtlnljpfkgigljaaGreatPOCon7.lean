/- Contracts: each given function is its plain function, printed by a program. -/
import Derived.Test.YtlnljpfkgigljaaGreatPOCon6
open Bool renaming false->e
noncomputable section
open Go Go.Lft
set_option linter.unusedVariables false
set_option maxRecDepth 100000
namespace Go.Proofs.Pk
open Tryz
def jor:CKt:=
 cQ tb {} [] 68 [.v ty82,.v iT,.v iT,.v iT] [.v ty84,.v iT] [] (Pw.unc4 Pw.jcp) func68 [jlI,jg9]
def jlQ:CKt:=
 cQ tb {} [lD 0 [sI,sI,sI,sB 256 0,sO 1,sD ty76,sI,sI,.b (.cell [.d ty64,.d ty54,.d ty27,.d ty76,.d ty31] e),.b (.lst 99 ty6 e)] ⟨[1,2,3,4,10,17,18,19],[256],[⟨1,99,ty6,[.slot 10],e⟩]⟩ [xD .ret [.s (.one (.nil)),sI] ⟨[8,9],[],[]⟩,xD (.exit 0) [sO 2,.b (.lst 99 ty6 e)] ⟨[10],[],[⟨2,99,ty6,[.slot 10],e⟩]⟩] (Pw.u8 Pw.unc4 (Pw.j3M))] 69 [.v ty84,.v iT,.v iT,.v iT] [.own 99 ty11,.v iT] [] (Pw.unc4 Pw.j9s) func69 [j9a,jau,j8K]
def jjr:CKt:=
 cQ tb {} [lD 0 [sD ty24,sD ty24,sI,sI,sO 1,sI,sI,.b (.lst 160 ty40 e)] ⟨[0,1,2,3,9,10,11],[],[⟨1,160,ty40,[.slot 9],e⟩]⟩ [xD (.exit 0) [sO 2,.b (.lst 160 ty40 e)] ⟨[9],[],[⟨2,160,ty40,[.slot 9],e⟩]⟩] (Pw.unc7 (Pw.j9t))] 137 [.v ty24,.v ty24,.v iT,.v iT] [.own 160 ty42] [] (Pw.unc4 Pw.jfN) func137
def jgg:CKt:=
 cQ tb {} [] 139 [.v ty40,.v ty40] [.v iT] [] (Pw.unc2 Pw.jcr) func139
def j7L:CKt:=
 cQ tb {dw:=[(6,dz [(15,[0]),(1,[0])])]} [lD 0 [sO 0,sI,sI,sC 139 [],sI,.b (.lst 160 ty40 e)] ⟨[0,1,2,3,8],[0],[]⟩ [xD (.exit 0) [.b (.lst 160 ty40 e)] ⟨[],[0],[]⟩] (Pw.unc4 (Pw.j2w)),lD 2 [sO 0,sI,sI,sC 139 [],sI,sI,.b (.lst 160 ty40 e)] ⟨[0,1,2,3,8,9],[0],[]⟩ [xD (.exit 2) [sO 0,sI,sI,sC 139 [],sI,.b (.lst 160 ty40 e)] ⟨[0,1,2,3,8],[0],[]⟩] (Pw.unc5 (Pw.j2v))] 247 [.rl 160 ty42,.v iT,.v iT,.clo 139 []] [] [.rl ty42] (Pw.unc3 Pw.j26) func247 [jgg]
def ja3:CKt:=
 cQ tb {} [lD 0 [sO 0,sI,sC 139 [],sI,sI,sI,.b (.lst 160 ty40 e)] ⟨[0,1,2,6,7,8],[0],[]⟩ [xD (.exit 0) [sO 0,sI,sC 139 [],sI,sI,.b (.lst 160 ty40 e)] ⟨[0,1,2,6,7],[0],[]⟩] (Pw.unc5 (Pw.j3Y)),lD 2 [sO 0,sI,sC 139 [],sI,.b (.lst 160 ty40 e)] ⟨[0,1,2,6],[0],[]⟩ [xD (.exit 2) [.b (.lst 160 ty40 e)] ⟨[],[0],[]⟩] (Pw.unc3 (Pw.j40)),lD 4 [sO 0,sI,sC 139 [],sI,sI,sI,.b (.lst 160 ty40 e)] ⟨[0,1,2,6,7,8],[0],[]⟩ [xD (.exit 4) [sO 0,sI,sC 139 [],sI,sI,.b (.lst 160 ty40 e)] ⟨[0,1,2,6,7],[0],[]⟩] (Pw.unc5 (Pw.j3Z))] 190 [.rl 160 ty42,.v iT,.clo 139 []] [] [.rl ty42] (Pw.unc2 Pw.j6e) func190 [j7L]
def j6A:CKt:=
 cQ tb {} [] 138 [.rl 160 ty42,.clo 139 []] [] [.rl ty42] (λh=>Pw.j1H h) func138 [ja3]
def jiH:CKt:=
 cQ tb {dw:=[(22,dz [(11,[4736]),(0,[4800,1])])]} [lD 1 [sI,sI,sB 512 0,sO 2,sD ty76,sI,sI,.b (.cell [.d ty64,.d ty54,.d ty27,.d ty76,.d ty31] e),.b (.lst 87 ty24 e)] ⟨[1,2,8,10,31,32,33],[512],[⟨2,87,ty24,[.slot 10],e⟩]⟩ [xD .ret [.s (.one (.nil)),sI] ⟨[6,7],[],[]⟩,xD (.exit 1) [sO 3,.b (.lst 87 ty24 e)] ⟨[10],[],[⟨3,87,ty24,[.slot 10],e⟩]⟩] (Pw.u8 Pw.unc3 (Pw.j2x)),lD 3 [sO 4,sO 5,sI,sI,.b (.lst 87 ty24 e),.b (.lst 160 ty40 e)] ⟨[10,14,51,52],[],[⟨4,87,ty24,[.slot 10],e⟩,⟨5,160,ty40,[.slot 14],e⟩]⟩ [xD (.exit 3) [sO 6,.b (.lst 160 ty40 e)] ⟨[14],[],[⟨6,160,ty40,[.slot 14],e⟩]⟩] (Pw.unc4 (Pw.j2y)),lD 5 [sO 7,sO 1,sI,sI,sI,sI,.b (.lst 87 ty24 e),.b (.lst 160 ty40 e)] ⟨[10,14,15,16,51,52],[],[⟨7,87,ty24,[.slot 10],e⟩,⟨1,160,ty40,[.slot 14],e⟩]⟩ [xD (.exit 5) [sO 8,sO 9,sI,sI,.b (.lst 87 ty24 e),.b (.lst 160 ty40 e)] ⟨[10,14,51,52],[],[⟨8,87,ty24,[.slot 10],e⟩,⟨9,160,ty40,[.slot 14],e⟩]⟩] (Pw.unc6 (Pw.j41))] 70 [.v ty82,.v iT,.v iT] [.own 160 ty42,.v iT] [] (Pw.unc3 Pw.j4X) func70 [jlI,jg9,jau,jjr,j6A]
def jlR:CKt:=
 cQ tb {} [lD 0 [sI,sI,sD ty11,sI,sI] ⟨[1,5,8,9,10],[],[]⟩ [xD (.exit 0) [sI] ⟨[5],[],[]⟩] (Pw.unc5 (Pw.j3N))] 141 [.v ty11,.v iT] [.v iT] [] (Pw.unc2 Pw.j9x) func141
def jmz:CKt:=
 cQ tb {} [lD 0 [sD ty11,sI,sI,sI,sO 1,sD ty11,sI,sI,.b (.lst 3 iT e)] ⟨[0,1,2,3,9,18,19,20],[],[⟨1,3,iT,[.slot 9],e⟩]⟩ [xD (.exit 0) [sD ty11,sI,sI,sI,sO 2,.b (.lst 3 iT e)] ⟨[0,1,2,3,9],[],[⟨2,3,iT,[.slot 9],e⟩]⟩] (Pw.unc8 (Pw.j4j)),lD 2 [sD ty11,sI,sO 3,sI,sO 4,sI,sI,.b (.lst 3 iT e),.b (.lst 3 iT e)] ⟨[0,1,12,13,42,43,44],[],[⟨3,3,iT,[.slot 12],e⟩,⟨4,3,iT,[.slot 42],e⟩]⟩ [xD (.exit 2) [sO 5,.b (.lst 3 iT e)] ⟨[12],[],[⟨5,3,iT,[.slot 12],e⟩]⟩] (Pw.unc7 (Pw.j4k))] 71 [.v ty11,.v iT,.v iT,.v iT] [.own 3 (.list iT)] [] (Pw.unc4 Pw.jdk) func71 [jlJ,jlR]
def jmA:CKt:=
 cQ tb {} [lD 0 [sD ty11,sI,sO 1,sI,.b (.lst 3 iT e)] ⟨[0,1,5,6],[],[⟨1,3,iT,[.slot 5],e⟩]⟩ [xD (.exit 0) [sO 2,.b (.lst 3 iT e)] ⟨[5],[],[⟨2,3,iT,[.slot 5],e⟩]⟩] (Pw.unc4 (Pw.j34))] 72 [.v ty11,.v iT] [.own 3 (.list iT)] [] (Pw.unc2 Pw.jdl) func72
def jjs:CKt:=
 cQ tb {} [] 73 [.v ty84,.v iT] [.v ty26] [] (Pw.unc2 Pw.j7x) func73
def jlS:CKt:=
 cQ tb {} [lD 0 [sO 1,sD ty11,sI,sI,.b (.lst 3 iT e)] ⟨[3,6,7,8],[],[⟨1,3,iT,[.slot 3],e⟩]⟩ [xD (.exit 0) [sO 2,.b (.lst 3 iT e)] ⟨[3],[],[⟨2,3,iT,[.slot 3],e⟩]⟩] (Pw.unc4 (Pw.j3O))] 74 [.v ty11] [.own 3 (.list iT)] [] (λh=>Pw.jbK h) func74
def jmB:CKt:=
 cQ tb {} [] 76 [.v ty19,.v ty19] [.v iT] [] (Pw.unc2 Pw.j4x) func76
def ja4:FnD where
 N:=14
 np:=2
 cs:=[jmB.1]
def j36:CKt:=
 ⟨⟨75,[.rl 108 ty24,.clo 76 []],[ty24],⟨[],[.rl ty24]⟩,[ty24],λh=>Pw.j0m h⟩,jkq Tryz.sort75 (ty19) rfl 108 (by kernel_rfl) isAgg108 sizeOf108 _ 76 (enters_of func76 (by kernel_rfl) rfl) jua jub 75 rfl⟩
def j6a:CKt:=
 cQ tb {hd:=true} [lD 0 [sO 0,sI,.b (.lst 108 ty19 e)] ⟨[0,3],[0],[]⟩ [xD .ret [.s (.one (.hd 0)),.b (.lst 108 ty19 e)] ⟨[2],[0],[]⟩,xD (.exit 0) [sO 0,.b (.lst 108 ty19 e)] ⟨[0],[0],[]⟩] (Pw.unc2 (Pw.j0l)),lD 2 [sO 0,sI,.s (.one (.tl 0)),sI,.b (.lst 108 ty19 e)] ⟨[0,3,4,5],[0],[]⟩ [xD (.exit 2) [sO 0,sI,.b (.lst 108 ty19 e)] ⟨[0,3],[0],[]⟩] (Pw.unc4 (Pw.j0k))] 77 [.rl 108 ty24] [.hd] [.rl ty24] (λh=>Pw.j0E h) func77
def jhD:CKt:=
 cQ tb {dw:=[(17,dz [(9,[5888]),(0,[5952])])]} [lD 0 [sI,sB 960 0,sO 1,sI,sI,.b (.cell [.ol 2,.ol 3,.ol 4,.ol 5] e),.b (.lst 160 ty40 e),.b (.lst 3 iT e),.b (.lst 3 iT e),.b (.lst 3 iT e),.b (.lst 3 iT e)] ⟨[1,15,100,101,102],[960],[⟨1,160,ty40,[.slot 100],e⟩,⟨2,3,iT,[.cell 960 0],e⟩,⟨3,3,iT,[.cell 960 1],e⟩,⟨4,3,iT,[.cell 960 2],e⟩,⟨5,3,iT,[.cell 960 3],e⟩]⟩ [xD (.exit 0) [sI,sB 960 0,.b (.cell [.ol 6,.ol 7,.ol 8,.ol 9] e),.b (.lst 3 iT e),.b (.lst 3 iT e),.b (.lst 3 iT e),.b (.lst 3 iT e)] ⟨[1,15],[960],[⟨6,3,iT,[.cell 960 0],e⟩,⟨7,3,iT,[.cell 960 1],e⟩,⟨8,3,iT,[.cell 960 2],e⟩,⟨9,3,iT,[.cell 960 3],e⟩]⟩] (Pw.unc8 (Pw.j2g)),lD 2 [sI,sO 10,.s (.av 4 (.list iT)),sI,.b (.lst 108 ty19 e)] ⟨[1,19,118,119],[],[⟨10,108,ty19,[.slot 19],e⟩]⟩ [xD (.exit 2) [sO 11,.b (.lst 108 ty19 e)] ⟨[19],[],[⟨11,108,ty19,[.slot 19],e⟩]⟩] (Pw.unc4 (Pw.j0U)),lD 4 [sI,sO 12,sI,.s (.av 4 (.list iT)),sI,sD (.list iT),sI,sI,.b (.lst 108 ty19 e)] ⟨[1,19,20,118,119,123,124,125],[],[⟨12,108,ty19,[.slot 19],e⟩]⟩ [xD (.exit 4) [sI,sO 13,.s (.av 4 (.list iT)),sI,.b (.lst 108 ty19 e)] ⟨[1,19,118,119],[],[⟨13,108,ty19,[.slot 19],e⟩]⟩] (Pw.unc8 (Pw.j2h))] 38 [.v ty82,.v iT,.v iT,.v iT] [.own 108 ty24,.v iT] [] (Pw.unc4 Pw.j3i) func38 [jaF,jbU,jor,jlQ,jiH,jmz,jmA,jjs,jlS,j36,j6a]
def j6V:CKt:=
 cQ tb {} [lD 0 [sD ty24,sB 192 0,sI,sI,.b (.cell [.d iT,.d iT,.d iT] e)] ⟨[0,3,7,8],[192],[]⟩ [xD .ret [sI] ⟨[4],[],[]⟩,xD (.exit 0) [] ⟨[],[],[]⟩] (Pw.unc6 (Pw.j0o))] 79 [.v ty24,.v ty19] [.v iT] [] (Pw.unc2 Pw.j1K) func79
def j68:CKt:=
 cQ tb {} [] 41 [.v ty24,.v ty19] [.v .bool] [] (Pw.unc2 Pw.j1z) func41 [j6V]
def jka:CKt:=
 cQ tb {} [] 40 [.v ty19,.ip [ty24]] [.v .bool] [] (Pw.unc2 Pw.j8h) func40 [j68]
end Go.Proofs.Pk
