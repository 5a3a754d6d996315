/- Contracts: each given function is its plain function, printed by a program. -/
import Derived.Test.YtmlokiiopbjgfaaGreatEECon6
open Bool renaming false->c
noncomputable section
open Go Go.Lft
set_option linter.unusedVariables false
set_option maxRecDepth 100000
namespace Go.Proofs.Pk
def jno:CKt:=
 cQ tb {} [lD 0 [sD .str,sI] ⟨[0,3],[],[]⟩ [xD .ret [sD .bool] ⟨[2],[],[]⟩,xD (.exit 0) [] ⟨[],[],[]⟩] (Pw.unc2 (Pw.j4V))] 123 [.v .str] [.v .bool] [] (λh=>Pw.jfA h) Tryz.func123 [jlk]
def jcp:CKt:=
 cQ tb {} [lD 0 [sD (.list .str),sI,sI] ⟨[0,1,5],[],[]⟩ [xD .ret [sI] ⟨[4],[],[]⟩,xD (.exit 0) [] ⟨[],[],[]⟩] (Pw.unc3 (Pw.j4W))] 100 [.v (.list .str),.v iT] [.v iT] [] (Pw.unc2 Pw.j9x) Tryz.func100 [jno]
def je6:CKt:=
 cQ tb {} [] 141 [.v iT,.v iT,.v iT] [.v .bool] [] (Pw.unc3 Pw.j6y) Tryz.func141
def jll:CKt:=
 cQ tb {} [] 142 [.v ty52] [.v .bool] [] (λh=>Pw.j7P h) Tryz.func142 [je6]
def jnp:CKt:=
 cQ tb {} [] 186 [.v iT] [.v .bool] [] (λh=>Pw.jfB h) Tryz.func186
def jeO:CKt:=
 cQ tb {} [] 177 [.v iT,.v iT] [.v iT] [] (Pw.unc2 Pw.jaI) Tryz.func177 [jnp]
def jlm:CKt:=
 cQ tb {} [] 185 [.v ty18] [.v .bool] [] (λh=>Pw.jdE h) Tryz.func185 [jeO]
def jhI:CKt:=
 cQ tb {} [] 125 [.v iT] [.v iT] [] (λh=>Pw.jdF h) Tryz.func125
def jpb:CKt:=
 cQ tb {} [lD 0 [sB 64 0,sI,sI,.b (.cell [.d iT,.d iT,.d iT] c)] ⟨[1,4,5],[64],[]⟩ [xD (.exit 0) [sB 64 0,sI,.b (.cell [.d iT,.d iT,.d iT] c)] ⟨[1,4],[64],[]⟩] (Pw.unc5 (Pw.j5B))] 175 [.v ty18] [.v iT,.v iT] [] (λh=>Pw.jix h) Tryz.func175 [jeO,jlm,jhI]
def je7:CKt:=
 cQ tb {} [] 176 [.v iT] [.v iT] [] (λh=>Pw.jaJ h) Tryz.func176
def jpc:CKt:=
 cQ tb {} [lD 0 [sI,sI,sI,sI,sI,sI] ⟨[0,1,2,3,10,12],[],[]⟩ [xD (.exit 0) [sI,sI,sI,sI,sI] ⟨[0,1,2,10,12],[],[]⟩] (Pw.unc6 (Pw.j5C)),lD 2 [sI,sI,sI,sI] ⟨[0,1,10,12],[],[]⟩ [xD (.exit 2) [sI] ⟨[12],[],[]⟩] (Pw.unc4 (Pw.j5D))] 163 [.v iT,.v iT,.v iT,.v iT] [.v iT,.v iT] [] (Pw.unc4 Pw.jiy) Tryz.func163 [jeO,jpb,je7]
def jeP:CKt:=
 cQ tb {dw:=[(9,dz [(14,[512]),(0,[512])]),(14,dz [(7,[5376])])]} [lD 0 [sD ty55,sO 1,sI,.b (.lst 192 ty6 c)] ⟨[0,3,4],[],[⟨1,192,ty6,[.slot 3],c⟩]⟩ [xD (.exit 0) [sO 2,.b (.lst 192 ty6 c)] ⟨[3],[],[⟨2,192,ty6,[.slot 3],c⟩]⟩] (Pw.unc3 (Pw.j2r)),lD 2 [sD ty55,sO 3,sI,sI,.b (.lst 192 ty6 c)] ⟨[0,3,4,5],[],[⟨3,192,ty6,[.slot 3],c⟩]⟩ [xD (.exit 2) [sD ty55,sO 4,sI,.b (.lst 192 ty6 c)] ⟨[0,3,4],[],[⟨4,192,ty6,[.slot 3],c⟩]⟩] (Pw.unc4 (Pw.j2q)),lD 4 [sD ty55,sO 5,sI,sI,sB 512 0,sI,.b (.cell [.d iT,.d iT] c),.b (.lst 192 ty6 c)] ⟨[0,3,4,5,8,9],[512],[⟨5,192,ty6,[.slot 3],c⟩]⟩ [xD (.exit 4) [sD ty55,sO 6,sI,sI,sB 512 0,sI,.b (.cell [.d iT,.d iT] c),.b (.lst 192 ty6 c)] ⟨[0,3,4,5,8,9],[512],[⟨6,192,ty6,[.slot 3],c⟩]⟩] (Pw.unc7 (Pw.j3z))] 143 [.v ty55] [.own 192 ty10] [] (λh=>Pw.j6X h) Tryz.func143 [jpc]
def j7w:CKt:=
 cQ tb {dw:=[(21,dz [(13,[640]),(0,[640])]),(24,dz [(2,[7296]),(0,[7360,1])])]} [lD 0 [sB 64 0,sI,sI,.b (.cell [.d .str,.d iT,.d ty55] c)] ⟨[1,4,5],[64],[]⟩ [xD .ret [.s (.one (.nil)),sI] ⟨[2,3],[],[]⟩,xD (.exit 0) [sB 64 0,sI,.b (.cell [.d .str,.d iT,.d ty55] c)] ⟨[1,4],[64],[]⟩] (Pw.unc5 (Pw.j1y)),lD 2 [sO 1,sO 2,sI,sI,.b (.lst 189 ty6 c),.b (.lst 192 ty6 c)] ⟨[6,7,8,9],[],[⟨1,189,ty6,[.slot 6],c⟩,⟨2,192,ty6,[.slot 7],c⟩]⟩ [xD .ret [.s (.one (.nil)),sI] ⟨[2,3],[],[]⟩,xD (.exit 2) [sO 3,.b (.lst 189 ty6 c)] ⟨[6],[],[⟨3,189,ty6,[.slot 6],c⟩]⟩] (Pw.unc4 (Pw.j1e))] 124 [.v ty62] [.own 189 ty10,.v iT] [] (λh=>Pw.j0x h) Tryz.func124 [je6,jll,jeP]
def jgz:CKt:=
 cQ tb {} [] 101 [.v ty62] [.v iT] [] (λh=>Pw.j5F h) Tryz.func101 [j7w]
def jiJ:CKt:=
 cQ tb {} [lD 0 [sB 64 0,sD .bool,sI,.b (.cell [.d .str,.d iT,.d ty55] c)] ⟨[1,3,4],[64],[]⟩ [xD (.exit 0) [sD .bool] ⟨[3],[],[]⟩] (Pw.unc5 (Pw.j3O))] 102 [.v ty62] [.v .bool] [] (λh=>Pw.j7u h) Tryz.func102
def jln:CKt:=
 cQ tb {} [lD 0 [sB 64 0,sO 1,sI,.b (.cell [.d ty63,.d ty53,.d ty24,.d ty75] c),.b (.lst 9 .str c)] ⟨[1,3,4],[64],[⟨1,9,.str,[.slot 3],c⟩]⟩ [xD .ret [sI] ⟨[2],[],[]⟩,xD (.exit 0) [] ⟨[],[],[]⟩] (Pw.unc6 (Pw.j4t))] 65 [.v ty81] [.v iT] [] (λh=>Pw.jdJ h) Tryz.func65 [jcp,jgz,jiJ]
def je8:CKt:=
 cQ tb {} [] 103 [.v iT,.v iT,.v iT] [.v .bool] [] (Pw.unc3 Pw.j5S) Tryz.func103
def jda:CKt:=
 cQ tb {} [lD 0 [sD ty10,sI] ⟨[0,3],[],[]⟩ [xD .ret [sI] ⟨[2],[],[]⟩,xD (.exit 0) [] ⟨[],[],[]⟩] (Pw.unc2 (Pw.j2U))] 104 [.v ty10] [.v iT] [] (λh=>Pw.j6Z h) Tryz.func104
def jlo:CKt:=
 cQ tb {} [] 105 [.v iT] [.v .bool] [] (λh=>Pw.jbT h) Tryz.func105 [je8]
def jka:CKt:=
 cQ tb {} [lD 0 [sB 64 0,sO 1,sI,.b (.cell [.d ty63,.d ty53,.d ty24,.d ty75] c),.b (.lst 9 .str c)] ⟨[1,3,4],[64],[⟨1,9,.str,[.slot 3],c⟩]⟩ [xD .ret [sI] ⟨[2],[],[]⟩,xD (.exit 0) [] ⟨[],[],[]⟩] (Pw.unc6 (Pw.j4e))] 66 [.v ty81] [.v iT] [] (λh=>Pw.jcl h) Tryz.func66 [jcp,je8,jda,jlo]
end Go.Proofs.Pk
