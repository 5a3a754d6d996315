/- Contracts: each given function is its plain function, printed by a program. -/
import Derived.Test.YtlnljpfkgigljaaGreatPOCon8
open Bool renaming false->e
noncomputable section
open Go Go.Lft
set_option linter.unusedVariables false
set_option maxRecDepth 100000
namespace Go.Proofs.Pk
open Tryz
def jng:CKt:=
 cQ tb {} [] 284 [.v iT] [.v iT] [] (λh=>Pw.jif h) func284
def jwu:CKt:=
 cQ tb {} [lD 0 [sB 64 0,sI,sI,.b (.cell [.d iT,.d iT,.d iT] e)] ⟨[1,4,5],[64],[]⟩ [xD (.exit 0) [sB 64 0,sI,.b (.cell [.d iT,.d iT,.d iT] e)] ⟨[1,4],[64],[]⟩] (Pw.unc5 (Pw.j7B))] 244 [.v ty19] [.v iT,.v iT] [] (λh=>Pw.joe h) func244 [jjt,jrm,jng]
def jiI:CKt:=
 cQ tb {} [] 188 [.v iT] [.v iT] [] (λh=>Pw.jcw h) func188
def jwv:CKt:=
 cQ tb {} [lD 0 [sI,sI,sI,sI,sI,sI] ⟨[0,1,2,3,10,12],[],[]⟩ [xD (.exit 0) [sI,sI,sI,sI,sI] ⟨[0,1,2,10,12],[],[]⟩] (Pw.unc6 (Pw.j7C)),lD 2 [sI,sI,sI,sI] ⟨[0,1,10,12],[],[]⟩ [xD (.exit 2) [sI] ⟨[12],[],[]⟩] (Pw.unc4 (Pw.j7D))] 187 [.v iT,.v iT,.v iT,.v iT] [.v iT,.v iT] [] (Pw.unc4 Pw.jof) func187 [jjt,jwu,jiI]
def jju:CKt:=
 cQ tb {dw:=[(9,dz [(14,[512]),(0,[512])]),(14,dz [(7,[5376])])]} [lD 0 [sD ty56,sO 1,sI,.b (.lst 225 ty6 e)] ⟨[0,3,4],[],[⟨1,225,ty6,[.slot 3],e⟩]⟩ [xD (.exit 0) [sO 2,.b (.lst 225 ty6 e)] ⟨[3],[],[⟨2,225,ty6,[.slot 3],e⟩]⟩] (Pw.unc3 (Pw.j2V)),lD 2 [sD ty56,sO 3,sI,sI,.b (.lst 225 ty6 e)] ⟨[0,3,4,5],[],[⟨3,225,ty6,[.slot 3],e⟩]⟩ [xD (.exit 2) [sD ty56,sO 4,sI,.b (.lst 225 ty6 e)] ⟨[0,3,4],[],[⟨4,225,ty6,[.slot 3],e⟩]⟩] (Pw.unc4 (Pw.j2U)),lD 4 [sD ty56,sO 5,sI,sI,sB 512 0,sI,.b (.cell [.d iT,.d iT] e),.b (.lst 225 ty6 e)] ⟨[0,3,4,5,8,9],[512],[⟨5,225,ty6,[.slot 3],e⟩]⟩ [xD (.exit 4) [sD ty56,sO 6,sI,sI,sB 512 0,sI,.b (.cell [.d iT,.d iT] e),.b (.lst 225 ty6 e)] ⟨[0,3,4,5,8,9],[512],[⟨6,225,ty6,[.slot 3],e⟩]⟩] (Pw.unc7 (Pw.j4t))] 131 [.v ty56] [.own 225 ty11] [] (λh=>Pw.j9G h) func131 [jwv]
def j4D:CKt:=
 cQ tb {dw:=[(21,dz [(13,[640]),(0,[640])]),(24,dz [(2,[7296]),(0,[7360,1])])]} [lD 0 [sB 64 0,sI,sI,.b (.cell [.d .str,.d iT,.d ty56] e)] ⟨[1,4,5],[64],[]⟩ [xD .ret [.s (.one (.nil)),sI] ⟨[2,3],[],[]⟩,xD (.exit 0) [sB 64 0,sI,.b (.cell [.d .str,.d iT,.d ty56] e)] ⟨[1,4],[64],[]⟩] (Pw.unc5 (Pw.j2W)),lD 2 [sO 1,sO 2,sI,sI,.b (.lst 140 ty6 e),.b (.lst 225 ty6 e)] ⟨[6,7,8,9],[],[⟨1,140,ty6,[.slot 6],e⟩,⟨2,225,ty6,[.slot 7],e⟩]⟩ [xD .ret [.s (.one (.nil)),sI] ⟨[2,3],[],[]⟩,xD (.exit 2) [sO 3,.b (.lst 140 ty6 e)] ⟨[6],[],[⟨3,140,ty6,[.slot 6],e⟩]⟩] (Pw.unc4 (Pw.j2X))] 61 [.v ty63] [.own 140 ty11,.v iT] [] (λh=>Pw.j0s h) func61 [jgC,jrl,jju]
def jlU:CKt:=
 cQ tb {} [] 234 [.v ty63] [.v iT] [] (λh=>Pw.j7E h) func234 [j4D]
def jos:CKt:=
 cQ tb {} [lD 0 [sB 64 0,sD .bool,sI,.b (.cell [.d .str,.d iT,.d ty56] e)] ⟨[1,3,4],[64],[]⟩ [xD (.exit 0) [sD .bool] ⟨[3],[],[]⟩] (Pw.unc5 (Pw.j4M))] 235 [.v ty63] [.v .bool] [] (λh=>Pw.jcx h) func235
def jrn:CKt:=
 cQ tb {} [lD 0 [sB 64 0,sO 1,sI,.b (.cell [.d ty64,.d ty54,.d ty27,.d ty76] e),.b (.lst 9 .str e)] ⟨[1,3,4],[64],[⟨1,9,.str,[.slot 3],e⟩]⟩ [xD .ret [sI] ⟨[2],[],[]⟩,xD (.exit 0) [] ⟨[],[],[]⟩] (Pw.unc6 (Pw.j5V))] 181 [.v ty82] [.v iT] [] (λh=>Pw.jlr h) func181 [jgB,jlU,jos]
def jiJ:CKt:=
 cQ tb {} [] 236 [.v iT,.v iT,.v iT] [.v .bool] [] (Pw.unc3 Pw.j8i) func236
def jcN:CKt:=
 cQ tb {} [lD 0 [sD ty11,sI] ⟨[0,3],[],[]⟩ [xD .ret [sI] ⟨[2],[],[]⟩,xD (.exit 0) [] ⟨[],[],[]⟩] (Pw.unc2 (Pw.j3k))] 60 [.v ty11] [.v iT] [] (λh=>Pw.j3P h) func60
def jro:CKt:=
 cQ tb {} [] 237 [.v iT] [.v .bool] [] (λh=>Pw.jij h) func237 [jiJ]
def jq1:CKt:=
 cQ tb {} [lD 0 [sB 64 0,sO 1,sI,.b (.cell [.d ty64,.d ty54,.d ty27,.d ty76] e),.b (.lst 9 .str e)] ⟨[1,3,4],[64],[⟨1,9,.str,[.slot 3],e⟩]⟩ [xD .ret [sI] ⟨[2],[],[]⟩,xD (.exit 0) [] ⟨[],[],[]⟩] (Pw.unc6 (Pw.j5c))] 182 [.v ty82] [.v iT] [] (λh=>Pw.jjk h) func182 [jgB,jiJ,jcN,jro]
def jgh:CKt:=
 cQ tb {} [] 238 [] [.v iT] [] (λh=>Pw.jeb) func238 [jng]
def jlV:CKt:=
 cQ tb {} [lD 0 [sB 64 0,sO 1,sI,.b (.cell [.d ty64,.d ty54,.d ty27,.d ty76] e),.b (.lst 9 .str e)] ⟨[1,3,4],[64],[⟨1,9,.str,[.slot 3],e⟩]⟩ [xD .ret [sI] ⟨[2],[],[]⟩,xD (.exit 0) [] ⟨[],[],[]⟩] (Pw.unc6 (Pw.j3R)),lD 2 [sB 64 0,sO 2,sI,sB 320 0,sI,.b (.cell [.d ty64,.d ty54,.d ty27,.d ty76] e),.b (.cell [.d .str,.d iT,.d (.list iT)] e),.b (.lst 9 .str e)] ⟨[1,3,4,5,7],[64,320],[⟨2,9,.str,[.slot 3],e⟩]⟩ [xD .ret [sI] ⟨[2],[],[]⟩,xD (.exit 2) [sB 64 0,sO 3,sI,sB 320 0,.b (.cell [.d ty64,.d ty54,.d ty27,.d ty76] e),.b (.cell [.d .str,.d iT,.d (.list iT)] e),.b (.lst 9 .str e)] ⟨[1,3,4,5],[64,320],[⟨3,9,.str,[.slot 3],e⟩]⟩] (Pw.u8 Pw.unc2 (Pw.j3Q)),lD 4 [sB 64 0,sO 4,sI,sB 320 0,sI,.b (.cell [.d ty64,.d ty54,.d ty27,.d ty76] e),.b (.cell [.d .str,.d iT,.d (.list iT)] e),.b (.lst 9 .str e)] ⟨[1,3,4,5,8],[64,320],[⟨4,9,.str,[.slot 3],e⟩]⟩ [xD .ret [sI] ⟨[2],[],[]⟩,xD (.exit 4) [sB 64 0,sO 5,sI,.b (.cell [.d ty64,.d ty54,.d ty27,.d ty76] e),.b (.lst 9 .str e)] ⟨[1,3,4],[64],[⟨5,9,.str,[.slot 3],e⟩]⟩] (Pw.u8 Pw.unc2 (Pw.j5d))] 183 [.v ty82] [.v iT] [] (λh=>Pw.jeK h) func183 [jgB,jiJ,jgh]
def jrp:CKt:=
 cQ tb {} [lD 1 [sB 128 0,sB 192 0,sI,.b (.cell [.d ty64,.d ty54,.d ty27,.d ty76] e),.b (.cell [.d .str,.d iT,.d iT,.d iT,.d iT,.d iT,.d (.list iT),.d ty11,.d iT,.d iT] e)] ⟨[2,3,5],[128,192],[]⟩ [xD .ret [sI] ⟨[4],[],[]⟩,xD (.exit 1) [sB 128 0,sB 192 0,.b (.cell [.d ty64,.d ty54,.d ty27,.d ty76] e),.b (.cell [.d .str,.d iT,.d iT,.d iT,.d iT,.d iT,.d (.list iT),.d ty11,.d iT,.d iT] e)] ⟨[2,3],[128,192],[]⟩] (Pw.u8 Pw.unc7 (Pw.j5W))] 239 [.v ty82,.v ty70] [.v iT] [] (Pw.unc2 Pw.jfR) func239 [jiJ,jcN,jgh]
def juo:CKt:=
 cQ tb {} [] 240 [.v ty82,.v ty40] [.v iT] [] (Pw.unc2 Pw.jik) func240 [jiJ,jgh]
def jlW:CKt:=
 cQ tb {} [lD 0 [sB 64 0,sO 1,sI,.b (.cell [.d ty64,.d ty54,.d ty27,.d ty76] e),.b (.lst 9 .str e)] ⟨[1,3,4],[64],[⟨1,9,.str,[.slot 3],e⟩]⟩ [xD .ret [sI] ⟨[2],[],[]⟩,xD (.exit 0) [] ⟨[],[],[]⟩] (Pw.unc6 (Pw.j3U)),lD 2 [sB 64 0,sO 2,sI,sB 320 0,sO 3,sI,.b (.cell [.d ty64,.d ty54,.d ty27,.d ty76] e),.b (.cell [.d .str,.d ty71,.d ty42] e),.b (.lst 9 .str e),.b (.lst 9 .str e)] ⟨[1,3,4,5,7,8],[64,320],[⟨2,9,.str,[.slot 3],e⟩,⟨3,9,.str,[.slot 7],e⟩]⟩ [xD .ret [sI] ⟨[2],[],[]⟩,xD (.exit 2) [sB 64 0,sO 4,sI,sB 320 0,.b (.cell [.d ty64,.d ty54,.d ty27,.d ty76] e),.b (.cell [.d .str,.d ty71,.d ty42] e),.b (.lst 9 .str e)] ⟨[1,3,4,5],[64,320],[⟨4,9,.str,[.slot 3],e⟩]⟩] (Pw.u8 Pw.unc3 (Pw.j3S)),lD 4 [sB 64 0,sO 5,sI,sB 320 0,sI,.b (.cell [.d ty64,.d ty54,.d ty27,.d ty76] e),.b (.cell [.d .str,.d ty71,.d ty42] e),.b (.lst 9 .str e)] ⟨[1,3,4,5,11],[64,320],[⟨5,9,.str,[.slot 3],e⟩]⟩ [xD .ret [sI] ⟨[2],[],[]⟩,xD (.exit 4) [sB 64 0,sO 6,sI,.b (.cell [.d ty64,.d ty54,.d ty27,.d ty76] e),.b (.lst 9 .str e)] ⟨[1,3,4],[64],[⟨6,9,.str,[.slot 3],e⟩]⟩] (Pw.u8 Pw.unc2 (Pw.j3T))] 184 [.v ty82] [.v iT] [] (λh=>Pw.jeL h) func184 [jgB,jrp,juo]
def jlX:CKt:=
 cQ tb {} [] 126 [.v ty82] [.v iT] [] (λh=>Pw.jec h) func126 [jrn,jq1,jlV,jlW]
def jz7:CKt:=
 cQ tb {} [] 80 [.v ty82,.v iT,.v iT] [.v .bool] [] (Pw.unc3 Pw.jwo) func80 [jlX]
end Go.Proofs.Pk
