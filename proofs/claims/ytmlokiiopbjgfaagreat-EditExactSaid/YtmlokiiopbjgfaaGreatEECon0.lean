/- Contracts: each given function is its plain function, printed by a program. -/
import Derived.Test.YtmlokiiopbjgfaaGreatEETab
noncomputable section
open Go Go.Lft
set_option linter.unusedVariables false
set_option maxRecDepth 100000
namespace Go.Proofs.Pk
abbrev CKt:=CK Tryz.prog
def tb:TB Tryz.prog:=⟨tabL,jeK,j8h⟩
abbrev OKc(c:Con):=Con.OK Tryz.prog c
def jjU:CKt:=
 cQ tb {} [] 4 [.v (.list iT)] [.v .bool] [] (λh=>Pw.jeC h) Tryz.func4
def jiA:CKt:=
 cQ tb {so:=[.own 72 ty62,.own 74 ty50,.own 78 ty20,.own 52 ty74]} [] 24 [] [.so [(some 72,ty63),(some 74,ty53),(some 78,ty24),(some 52,ty75)]] [] (λh=>Pw.jcV) Tryz.func24
def jdT:CKt:=
 cQ tb {} [] 53 [.v ty62] [.v .str] [] (λh=>Pw.j69 h) Tryz.func53
def jiB:CKt:=
 cQ tb {} [] 117 [.v (.int .u8)] [.v .bool] [] (λh=>Pw.j8N h) Tryz.func117
def jiC:CKt:=
 cQ tb {} [] 118 [.v (.int .u8)] [.v .bool] [] (λh=>Pw.jcW h) Tryz.func118
def jjV:CKt:=
 cQ tb {} [lD 0 [sD .str,sI,sI] ⟨[0,19,20],[],[]⟩ [xD .ret [sD .bool] ⟨[2],[],[]⟩,xD (.exit 0) [] ⟨[],[],[]⟩] (Pw.unc3 (Pw.j3U))] 88 [.v .str] [.v .bool] [] (λh=>Pw.ja6 h) Tryz.func88 [jiB,jiC]
def j62:CKt:=
 cQ tb {} [] 55 [.v .str,.rl 4294967404 (.list (.pair .str .bool))] [.v iT] [.rl (.list (.pair .str .bool))] (Pw.unc2 Pw.j3B) Tryz.func55 [jjV]
def jgq:CKt:=
 cQ tb {} [] 136 [.v iT,.v iT,.v iT] [.v .bool] [] (Pw.unc3 Pw.j5T) Tryz.func136
def jlg:CKt:=
 cQ tb {} [] 157 [.v ty52] [.v iT] [] (λh=>Pw.j7J h) Tryz.func157 [jgq]
def jjW:CKt:=
 cQ tb {} [] 162 [.v iT] [.v .bool] [] (λh=>Pw.jeD h) Tryz.func162
def j9A:CKt:=
 cQ tb {} [] 139 [.v iT,.v iT] [.v iT] [] (Pw.unc2 Pw.j5M) Tryz.func139 [jjW]
def jiD:CKt:=
 cQ tb {} [] 172 [.v ty18] [.v .bool] [] (λh=>Pw.j8O h) Tryz.func172 [j9A]
def jdU:CKt:=
 cQ tb {} [] 161 [.v iT,.v iT] [.v iT] [] (Pw.unc2 Pw.j6n) Tryz.func161
def jaT:CKt:=
 cQ tb {} [] 137 [.v iT] [.v iT] [] (λh=>Pw.j5v h) Tryz.func137 [jdU]
def jgX:CKt:=
 cQ tb {} [lD 0 [sB 64 0,sI,sI,.b (.cell [.d iT,.d iT,.d iT] false)] ⟨[1,3,4],[64],[]⟩ [xD (.exit 0) [sI] ⟨[3],[],[]⟩] (Pw.unc5 (Pw.j3k))] 173 [.v ty18] [.v iT] [] (λh=>Pw.j9r h) Tryz.func173 [j9A,jaT]
def jc0:CKt:=
 cQ tb {} [] 146 [.v iT] [.v iT] [] (λh=>Pw.j4F h) Tryz.func146
def jlh:CKt:=
 cQ tb {} [] 158 [.v iT,.v iT,.v iT,.v iT] [.v iT,.v iT] [] (Pw.unc4 Pw.jdB) Tryz.func158 [j9A,jiD,jgX,jc0]
def j5I:CKt:=
 cQ tb {} [] 160 [.v ty6,.v ty6] [.v iT] [] (Pw.unc2 Pw.j2N) Tryz.func160
def j4x:CKt:=
 cQ tb {dw:=[(6,dz [(15,[0]),(1,[0])])]} [lD 0 [sO 0,sI,sI,sC 160 [],sI,.b (.lst 187 ty6 false)] ⟨[0,1,2,3,8],[0],[]⟩ [xD (.exit 0) [.b (.lst 187 ty6 false)] ⟨[],[0],[]⟩] (Pw.unc4 (Pw.j0h)),lD 2 [sO 0,sI,sI,sC 160 [],sI,sI,.b (.lst 187 ty6 false)] ⟨[0,1,2,3,8,9],[0],[]⟩ [xD (.exit 2) [sO 0,sI,sI,sC 160 [],sI,.b (.lst 187 ty6 false)] ⟨[0,1,2,3,8],[0],[]⟩] (Pw.unc5 (Pw.j0v))] 183 [.rl 187 ty10,.v iT,.v iT,.clo 160 []] [] [.rl ty10] (Pw.unc3 Pw.j0w) Tryz.func183 [j5I]
def j5d:CKt:=
 cQ tb {dw:=[(3,dz [(21,[0]),(1,[0])])]} [lD 0 [sO 0,sI,sI,sI,sI,.b (.lst 187 ty6 false)] ⟨[0,1,2,3,10],[0],[]⟩ [xD (.exit 0) [.b (.lst 187 ty6 false)] ⟨[],[0],[]⟩] (Pw.unc5 (Pw.j1K))] 188 [.rl 187 ty10,.v iT,.v iT,.v iT,.clo 160 []] [] [.rl ty10] (Pw.unc4 Pw.j0X) Tryz.func188
end Go.Proofs.Pk
