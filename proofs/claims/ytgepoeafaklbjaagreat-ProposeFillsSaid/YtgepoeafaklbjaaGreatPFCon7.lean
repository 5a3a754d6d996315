/- Contracts: each given function is its plain function, printed by a program. -/
import Derived.Test.YtgepoeafaklbjaaGreatPFCon6
open Bool renaming false->e
noncomputable section
open Go Go.Lft
set_option linter.unusedVariables false
set_option maxRecDepth 100000
namespace Go.Proofs.Pk
open Tryz
def jnR:CKt:=
 cQ tb {} [] 73 [.v ty83,.v iT,.v iT,.v iT] [.v ty85,.v iT] [] (Pw.unc4 Pw.jbX) func73 [jld,jfI]
def jll:CKt:=
 cQ tb {} [lD 0 [sI,sI,sI,sB 256 0,sO 1,sD ty77,sI,sI,.b (.cell [.d ty65,.d ty55,.d ty28,.d ty77,.d ty32] e),.b (.lst 42 ty7 e)] ⟨[1,2,3,4,10,17,18,19],[256],[⟨1,42,ty7,[.slot 10],e⟩]⟩ [xD .ret [.s (.one (.nil)),sI] ⟨[8,9],[],[]⟩,xD (.exit 0) [sO 2,.b (.lst 42 ty7 e)] ⟨[10],[],[⟨2,42,ty7,[.slot 10],e⟩]⟩] (Pw.u8 Pw.unc4 (Pw.j3F))] 74 [.v ty85,.v iT,.v iT,.v iT] [.own 42 ty12,.v iT] [] (Pw.unc4 Pw.j9e) func74 [j8W,jaf,j8y]
def jiY:CKt:=
 cQ tb {} [lD 0 [sD ty25,sD ty25,sI,sI,sO 1,sI,sI,.b (.lst 167 ty41 e)] ⟨[0,1,2,3,9,10,11],[],[⟨1,167,ty41,[.slot 9],e⟩]⟩ [xD (.exit 0) [sO 2,.b (.lst 167 ty41 e)] ⟨[9],[],[⟨2,167,ty41,[.slot 9],e⟩]⟩] (Pw.unc7 (Pw.j9f))] 128 [.v ty25,.v ty25,.v iT,.v iT] [.own 167 ty43] [] (Pw.unc4 Pw.jfm) func128
def jfP:CKt:=
 cQ tb {} [] 130 [.v ty41,.v ty41] [.v iT] [] (Pw.unc2 Pw.jbZ) func130
def j7C:CKt:=
 cQ tb {dw:=[(6,dz [(15,[0]),(1,[0])])]} [lD 0 [sO 0,sI,sI,sC 130 [],sI,.b (.lst 167 ty41 e)] ⟨[0,1,2,3,8],[0],[]⟩ [xD (.exit 0) [.b (.lst 167 ty41 e)] ⟨[],[0],[]⟩] (Pw.unc4 (Pw.j2s)),lD 2 [sO 0,sI,sI,sC 130 [],sI,sI,.b (.lst 167 ty41 e)] ⟨[0,1,2,3,8,9],[0],[]⟩ [xD (.exit 2) [sO 0,sI,sI,sC 130 [],sI,.b (.lst 167 ty41 e)] ⟨[0,1,2,3,8],[0],[]⟩] (Pw.unc5 (Pw.j2r))] 234 [.rl 167 ty43,.v iT,.v iT,.clo 130 []] [] [.rl ty43] (Pw.unc3 Pw.j25) func234 [jfP]
def j9N:CKt:=
 cQ tb {} [lD 0 [sO 0,sI,sC 130 [],sI,sI,sI,.b (.lst 167 ty41 e)] ⟨[0,1,2,6,7,8],[0],[]⟩ [xD (.exit 0) [sO 0,sI,sC 130 [],sI,sI,.b (.lst 167 ty41 e)] ⟨[0,1,2,6,7],[0],[]⟩] (Pw.unc5 (Pw.j3R)),lD 2 [sO 0,sI,sC 130 [],sI,.b (.lst 167 ty41 e)] ⟨[0,1,2,6],[0],[]⟩ [xD (.exit 2) [.b (.lst 167 ty41 e)] ⟨[],[0],[]⟩] (Pw.unc3 (Pw.j3T)),lD 4 [sO 0,sI,sC 130 [],sI,sI,sI,.b (.lst 167 ty41 e)] ⟨[0,1,2,6,7,8],[0],[]⟩ [xD (.exit 4) [sO 0,sI,sC 130 [],sI,sI,.b (.lst 167 ty41 e)] ⟨[0,1,2,6,7],[0],[]⟩] (Pw.unc5 (Pw.j3S))] 180 [.rl 167 ty43,.v iT,.clo 130 []] [] [.rl ty43] (Pw.unc2 Pw.j65) func180 [j7C]
def j6r:CKt:=
 cQ tb {} [] 129 [.rl 167 ty43,.clo 130 []] [] [.rl ty43] (λh=>Pw.j1F h) func129 [j9N]
def jig:CKt:=
 cQ tb {dw:=[(22,dz [(11,[4736]),(0,[4800,1])])]} [lD 1 [sI,sI,sB 512 0,sO 2,sD ty77,sI,sI,.b (.cell [.d ty65,.d ty55,.d ty28,.d ty77,.d ty32] e),.b (.lst 124 ty25 e)] ⟨[1,2,8,10,31,32,33],[512],[⟨2,124,ty25,[.slot 10],e⟩]⟩ [xD .ret [.s (.one (.nil)),sI] ⟨[6,7],[],[]⟩,xD (.exit 1) [sO 3,.b (.lst 124 ty25 e)] ⟨[10],[],[⟨3,124,ty25,[.slot 10],e⟩]⟩] (Pw.u8 Pw.unc3 (Pw.j2t)),lD 3 [sO 4,sO 5,sI,sI,.b (.lst 124 ty25 e),.b (.lst 167 ty41 e)] ⟨[10,14,51,52],[],[⟨4,124,ty25,[.slot 10],e⟩,⟨5,167,ty41,[.slot 14],e⟩]⟩ [xD (.exit 3) [sO 6,.b (.lst 167 ty41 e)] ⟨[14],[],[⟨6,167,ty41,[.slot 14],e⟩]⟩] (Pw.unc4 (Pw.j2u)),lD 5 [sO 7,sO 1,sI,sI,sI,sI,.b (.lst 124 ty25 e),.b (.lst 167 ty41 e)] ⟨[10,14,15,16,51,52],[],[⟨7,124,ty25,[.slot 10],e⟩,⟨1,167,ty41,[.slot 14],e⟩]⟩ [xD (.exit 5) [sO 8,sO 9,sI,sI,.b (.lst 124 ty25 e),.b (.lst 167 ty41 e)] ⟨[10,14,51,52],[],[⟨8,124,ty25,[.slot 10],e⟩,⟨9,167,ty41,[.slot 14],e⟩]⟩] (Pw.unc6 (Pw.j3U))] 75 [.v ty83,.v iT,.v iT] [.own 167 ty43,.v iT] [] (Pw.unc3 Pw.j4R) func75 [jld,jfI,jaf,jiY,j6r]
def jlm:CKt:=
 cQ tb {} [lD 0 [sI,sI,sD ty12,sI,sI] ⟨[1,5,8,9,10],[],[]⟩ [xD (.exit 0) [sI] ⟨[5],[],[]⟩] (Pw.unc5 (Pw.j3G))] 132 [.v ty12,.v iT] [.v iT] [] (Pw.unc2 Pw.j9j) func132
def jm2:CKt:=
 cQ tb {} [lD 0 [sD ty12,sI,sI,sI,sO 1,sD ty12,sI,sI,.b (.lst 3 iT e)] ⟨[0,1,2,3,9,18,19,20],[],[⟨1,3,iT,[.slot 9],e⟩]⟩ [xD (.exit 0) [sD ty12,sI,sI,sI,sO 2,.b (.lst 3 iT e)] ⟨[0,1,2,3,9],[],[⟨2,3,iT,[.slot 9],e⟩]⟩] (Pw.unc8 (Pw.j4c)),lD 2 [sD ty12,sI,sO 3,sI,sO 4,sI,sI,.b (.lst 3 iT e),.b (.lst 3 iT e)] ⟨[0,1,12,13,42,43,44],[],[⟨3,3,iT,[.slot 12],e⟩,⟨4,3,iT,[.slot 42],e⟩]⟩ [xD (.exit 2) [sO 5,.b (.lst 3 iT e)] ⟨[12],[],[⟨5,3,iT,[.slot 12],e⟩]⟩] (Pw.unc7 (Pw.j4d))] 76 [.v ty12,.v iT,.v iT,.v iT] [.own 3 (.list iT)] [] (Pw.unc4 Pw.jcT) func76 [jle,jlm]
def jm3:CKt:=
 cQ tb {} [lD 0 [sD ty12,sI,sO 1,sI,.b (.lst 3 iT e)] ⟨[0,1,5,6],[],[⟨1,3,iT,[.slot 5],e⟩]⟩ [xD (.exit 0) [sO 2,.b (.lst 3 iT e)] ⟨[5],[],[⟨2,3,iT,[.slot 5],e⟩]⟩] (Pw.unc4 (Pw.j2X))] 77 [.v ty12,.v iT] [.own 3 (.list iT)] [] (Pw.unc2 Pw.jcU) func77
def jiZ:CKt:=
 cQ tb {} [] 78 [.v ty85,.v iT] [.v ty27] [] (Pw.unc2 Pw.j7o) func78
def jln:CKt:=
 cQ tb {} [lD 0 [sO 1,sD ty12,sI,sI,.b (.lst 3 iT e)] ⟨[3,6,7,8],[],[⟨1,3,iT,[.slot 3],e⟩]⟩ [xD (.exit 0) [sO 2,.b (.lst 3 iT e)] ⟨[3],[],[⟨2,3,iT,[.slot 3],e⟩]⟩] (Pw.unc4 (Pw.j3H))] 79 [.v ty12] [.own 3 (.list iT)] [] (λh=>Pw.jbl h) func79
def jm4:CKt:=
 cQ tb {} [] 81 [.v ty20,.v ty20] [.v iT] [] (Pw.unc2 Pw.j4r) func81
def j9O:FnD where
 N:=14
 np:=2
 cs:=[jm4.1]
def j32:CKt:=
 ⟨⟨80,[.rl 105 ty25,.clo 81 []],[ty25],⟨[],[.rl ty25]⟩,[ty25],λh=>Pw.j0l h⟩,jjW Tryz.sort80 (ty20) rfl 105 (by kernel_rfl) isAgg105 sizeOf105 _ 81 (enters_of func81 (by kernel_rfl) rfl) jtm jtn 80 rfl⟩
def j62:CKt:=
 cQ tb {hd:=true} [lD 0 [sO 0,sI,.b (.lst 105 ty20 e)] ⟨[0,3],[0],[]⟩ [xD .ret [.s (.one (.hd 0)),.b (.lst 105 ty20 e)] ⟨[2],[0],[]⟩,xD (.exit 0) [sO 0,.b (.lst 105 ty20 e)] ⟨[0],[0],[]⟩] (Pw.unc2 (Pw.j0k)),lD 2 [sO 0,sI,.s (.one (.tl 0)),sI,.b (.lst 105 ty20 e)] ⟨[0,3,4,5],[0],[]⟩ [xD (.exit 2) [sO 0,sI,.b (.lst 105 ty20 e)] ⟨[0,3],[0],[]⟩] (Pw.unc4 (Pw.j0j))] 82 [.rl 105 ty25] [.hd] [.rl ty25] (λh=>Pw.j0B h) func82
def jha:CKt:=
 cQ tb {dw:=[(17,dz [(9,[5888]),(0,[5952])])]} [lD 0 [sI,sB 960 0,sO 1,sI,sI,.b (.cell [.ol 2,.ol 3,.ol 4,.ol 5] e),.b (.lst 167 ty41 e),.b (.lst 3 iT e),.b (.lst 3 iT e),.b (.lst 3 iT e),.b (.lst 3 iT e)] ⟨[1,15,100,101,102],[960],[⟨1,167,ty41,[.slot 100],e⟩,⟨2,3,iT,[.cell 960 0],e⟩,⟨3,3,iT,[.cell 960 1],e⟩,⟨4,3,iT,[.cell 960 2],e⟩,⟨5,3,iT,[.cell 960 3],e⟩]⟩ [xD (.exit 0) [sI,sB 960 0,.b (.cell [.ol 6,.ol 7,.ol 8,.ol 9] e),.b (.lst 3 iT e),.b (.lst 3 iT e),.b (.lst 3 iT e),.b (.lst 3 iT e)] ⟨[1,15],[960],[⟨6,3,iT,[.cell 960 0],e⟩,⟨7,3,iT,[.cell 960 1],e⟩,⟨8,3,iT,[.cell 960 2],e⟩,⟨9,3,iT,[.cell 960 3],e⟩]⟩] (Pw.unc8 (Pw.j2d)),lD 2 [sI,sO 10,.s (.av 4 (.list iT)),sI,.b (.lst 105 ty20 e)] ⟨[1,19,118,119],[],[⟨10,105,ty20,[.slot 19],e⟩]⟩ [xD (.exit 2) [sO 11,.b (.lst 105 ty20 e)] ⟨[19],[],[⟨11,105,ty20,[.slot 19],e⟩]⟩] (Pw.unc4 (Pw.j0R)),lD 4 [sI,sO 12,sI,.s (.av 4 (.list iT)),sI,sD (.list iT),sI,sI,.b (.lst 105 ty20 e)] ⟨[1,19,20,118,119,123,124,125],[],[⟨12,105,ty20,[.slot 19],e⟩]⟩ [xD (.exit 4) [sI,sO 13,.s (.av 4 (.list iT)),sI,.b (.lst 105 ty20 e)] ⟨[1,19,118,119],[],[⟨13,105,ty20,[.slot 19],e⟩]⟩] (Pw.unc8 (Pw.j2e))] 39 [.v ty83,.v iT,.v iT,.v iT] [.own 105 ty25,.v iT] [] (Pw.unc4 Pw.j3i) func39 [jap,jbv,jnR,jll,jig,jm2,jm3,jiZ,jln,j32,j62]
def j6N:CKt:=
 cQ tb {} [lD 0 [sD ty25,sB 192 0,sI,sI,.b (.cell [.d iT,.d iT,.d iT] e)] ⟨[0,3,7,8],[192],[]⟩ [xD .ret [sI] ⟨[4],[],[]⟩,xD (.exit 0) [] ⟨[],[],[]⟩] (Pw.unc6 (Pw.j0n))] 84 [.v ty25,.v ty20] [.v iT] [] (Pw.unc2 Pw.j1J) func84
def j5Z:CKt:=
 cQ tb {} [] 42 [.v ty25,.v ty20] [.v .bool] [] (Pw.unc2 Pw.j1w) func42 [j6N]
def jjG:CKt:=
 cQ tb {} [] 41 [.v ty20,.ip [ty25]] [.v .bool] [] (Pw.unc2 Pw.j85) func41 [j5Z]
end Go.Proofs.Pk
