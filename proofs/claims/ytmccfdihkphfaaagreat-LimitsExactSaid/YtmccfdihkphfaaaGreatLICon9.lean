/- Contracts: each given function is its plain function, printed by a program. -/
import Derived.Test.YtmccfdihkphfaaaGreatLICon8
open Bool renaming false->e
noncomputable section
open Go Go.Lft
set_option linter.unusedVariables false
set_option maxRecDepth 100000
namespace Go.Proofs.Pk
open Tryz
def jsl:CKt:=
 cQ tb {} [lD 1 [sB 128 0,sB 192 0,sI,.b (.cell [.d ty67,.d ty57,.d ty31,.d ty79] e),.b (.cell [.d .str,.d iT,.d iT,.d iT,.d iT,.d iT,.d (.list iT),.d ty15,.d iT,.d iT] e)] ⟨[2,3,5],[128,192],[]⟩ [xD .ret [sI] ⟨[4],[],[]⟩,xD (.exit 1) [sB 128 0,sB 192 0,.b (.cell [.d ty67,.d ty57,.d ty31,.d ty79] e),.b (.cell [.d .str,.d iT,.d iT,.d iT,.d iT,.d iT,.d (.list iT),.d ty15,.d iT,.d iT] e)] ⟨[2,3],[128,192],[]⟩] (Pw.u8 Pw.unc7 (Pw.j6K))] 208 [.v ty85,.v ty73] [.v iT] [] (Pw.unc2 Pw.jgE) func208 [jjD,jfD,jh3]
def jv7:CKt:=
 cQ tb {} [] 209 [.v ty85,.v ty43] [.v iT] [] (Pw.unc2 Pw.jjb) func209 [jjD,jh3]
def jmI:CKt:=
 cQ tb {} [lD 0 [sB 64 0,sO 1,sI,.b (.cell [.d ty67,.d ty57,.d ty31,.d ty79] e),.b (.lst 9 .str e)] ⟨[1,3,4],[64],[⟨1,9,.str,[.slot 3],e⟩]⟩ [xD .ret [sI] ⟨[2],[],[]⟩,xD (.exit 0) [] ⟨[],[],[]⟩] (Pw.unc6 (Pw.j4x)),lD 2 [sB 64 0,sO 2,sI,sB 320 0,sO 3,sI,.b (.cell [.d ty67,.d ty57,.d ty31,.d ty79] e),.b (.cell [.d .str,.d ty74,.d ty45] e),.b (.lst 9 .str e),.b (.lst 9 .str e)] ⟨[1,3,4,5,7,8],[64,320],[⟨2,9,.str,[.slot 3],e⟩,⟨3,9,.str,[.slot 7],e⟩]⟩ [xD .ret [sI] ⟨[2],[],[]⟩,xD (.exit 2) [sB 64 0,sO 4,sI,sB 320 0,.b (.cell [.d ty67,.d ty57,.d ty31,.d ty79] e),.b (.cell [.d .str,.d ty74,.d ty45] e),.b (.lst 9 .str e)] ⟨[1,3,4,5],[64,320],[⟨4,9,.str,[.slot 3],e⟩]⟩] (Pw.u8 Pw.unc3 (Pw.j4v)),lD 4 [sB 64 0,sO 5,sI,sB 320 0,sI,.b (.cell [.d ty67,.d ty57,.d ty31,.d ty79] e),.b (.cell [.d .str,.d ty74,.d ty45] e),.b (.lst 9 .str e)] ⟨[1,3,4,5,11],[64,320],[⟨5,9,.str,[.slot 3],e⟩]⟩ [xD .ret [sI] ⟨[2],[],[]⟩,xD (.exit 4) [sB 64 0,sO 6,sI,.b (.cell [.d ty67,.d ty57,.d ty31,.d ty79] e),.b (.lst 9 .str e)] ⟨[1,3,4],[64],[⟨6,9,.str,[.slot 3],e⟩]⟩] (Pw.u8 Pw.unc2 (Pw.j4w))] 134 [.v ty85] [.v iT] [] (λh=>Pw.jfo h) func134 [jhv,jsl,jv7]
def jfE:CKt:=
 cQ tb {} [] 70 [.v ty85] [.v iT] [] (λh=>Pw.j8q h) func70 [jsj,jqW,jmH,jmI]
def jb6:CKt:=
 cQ tb {} [] 76 [.v iT,.v iT] [.v .bool] [] (Pw.unc2 Pw.j5E) func76
def jmJ:CKt:=
 cQ tb {} [] 101 [.v ty85,.v iT,.v iT,.v iT] [.v iT] [] (Pw.unc4 Pw.jbI) func101 [jfE,jb6]
def jsm:CKt:=
 cQ tb {} [] 63 [.v ty85,.v iT,.v iT,.v iT] [.v iT] [] (Pw.unc4 Pw.jmj) func63 [jfE,jb6]
def jmK:CKt:=
 cQ tb {} [] 144 [.v ty66,.v ty73] [.v iT] [] (Pw.unc2 Pw.jeM) func144 [jmG]
def jmL:CKt:=
 cQ tb {} [] 147 [.v iT] [.v .bool] [] (λh=>Pw.jeN h) func147 [jhw]
def jmM:CKt:=
 cQ tb {} [lD 0 [sB 128 0,sB 192 0,sO 1,sI,.b (.cell [.d .str,.d iT,.d ty59] e),.b (.cell [.d iT,.d iT] e),.b (.lst 201 ty9 e)] ⟨[2,3,6,8],[128,192],[⟨1,201,ty9,[.slot 6],e⟩]⟩ [xD .ret [sI,sI] ⟨[4,5],[],[]⟩,xD (.exit 0) [] ⟨[],[],[]⟩] (Pw.unc7 (Pw.j5r))] 83 [.v ty66,.v ty9] [.v iT,.v iT] [] (Pw.unc2 Pw.j68) func83 [jhw,j5u,jmL]
def jqX:CKt:=
 cQ tb {} [lD 0 [sD ty15,sI,sI,sI] ⟨[1,2,7,8],[],[]⟩ [xD (.exit 0) [sI] ⟨[7],[],[]⟩] (Pw.unc4 (Pw.j69))] 317 [.v ty66,.v ty15,.v iT] [.v iT] [] (Pw.unc3 Pw.jhl) func317
def jnp:CKt:=
 cQ tb {} [] 275 [.v ty66,.v iT] [.v iT,.v iT] [] (Pw.unc2 Pw.jbJ) func275 [jhw,j5u,jqX]
def jsn:CKt:=
 cQ tb {} [] 276 [.v iT,.v iT] [.v ty9] [] (Pw.unc2 Pw.jjc) func276
def jfF:CKt:=
 cQ tb {} [] 230 [.v ty66,.v iT] [.v ty9,.v iT] [] (Pw.unc2 Pw.j6u) func230 [jnp,jsn]
def jhX:CKt:=
 cQ tb {} [] 145 [.v ty66,.v ty73,.v iT] [.v iT,.v .bool] [] (Pw.unc3 Pw.j8r) func145 [jmM]
def jmN:CKt:=
 cQ tb {} [lD 0 [sI,sB 192 0,sB 256 0,sI,.b (.cell [.d .str,.d iT,.d ty59] e),.b (.cell [.d .str,.d iT,.d iT,.d iT,.d iT,.d iT,.d (.list iT),.d ty15,.d iT,.d iT] e)] ⟨[2,3,4,7],[192,256],[]⟩ [xD (.exit 0) [sI] ⟨[7],[],[]⟩] (Pw.u8 Pw.unc7 (Pw.j6L))] 296 [.v ty66,.v ty73,.v iT] [.v iT] [] (Pw.unc3 Pw.jeO) func296 [jmM,jfF,jhX]
def jmO:CKt:=
 cQ tb {} [lD 0 [sI,sI,sB 256 0,sB 320 0,sO 1,sI,.b (.cell [.d .str,.d iT,.d ty59] e),.b (.cell [.d .str,.d iT,.d iT,.d iT,.d iT,.d iT,.d (.list iT),.d ty15,.d iT,.d iT] e),.b (.lst 3 iT e)] ⟨[2,3,4,5,10,11],[256,320],[⟨1,3,iT,[.slot 10],e⟩]⟩ [xD .ret [sO 2,sI,.b (.lst 3 iT e)] ⟨[8,9],[],[⟨2,3,iT,[.slot 8],e⟩]⟩] (Pw.u8 Pw.unc9 (Pw.j6a))] 243 [.v ty66,.v ty73,.v iT,.v iT] [.own 3 (.list iT),.v iT] [] (Pw.unc4 Pw.jaj) func243 [jb6,jmK,jhX,jmN]
def jkU:CKt:=
 cQ tb {} [] 228 [.v ty9] [.v iT] [] (λh=>Pw.j9K h) func228 [jjC]
def jso:CKt:=
 cQ tb {dw:=[(8,dz [(19,[768]),(0,[768])])]} [lD 0 [sD ty15,sI,sI,sO 1,sI,.b (.lst 59 ty9 e)] ⟨[0,1,2,9,10],[],[⟨1,59,ty9,[.slot 9],e⟩]⟩ [xD (.exit 0) [sO 2,.b (.lst 59 ty9 e)] ⟨[9],[],[⟨2,59,ty9,[.slot 9],e⟩]⟩] (Pw.unc5 (Pw.j6N)),lD 2 [sD ty15,sI,sI,sO 3,sI,sI,.b (.lst 59 ty9 e)] ⟨[0,1,2,9,10,11],[],[⟨3,59,ty9,[.slot 9],e⟩]⟩ [xD (.exit 2) [sD ty15,sI,sI,sO 4,sI,.b (.lst 59 ty9 e)] ⟨[0,1,2,9,10],[],[⟨4,59,ty9,[.slot 9],e⟩]⟩] (Pw.unc6 (Pw.j6M))] 155 [.v ty15,.v iT,.v iT,.v iT] [.own 59 ty15] [] (Pw.unc4 Pw.jgJ) func155 [jkU]
def jv8:CKt:=
 cQ tb {} [lD 0 [sO 1,sD ty15,sI,.b (.lst 59 ty9 e)] ⟨[0,1,5],[],[⟨1,59,ty9,[.slot 0],e⟩]⟩ [xD (.exit 0) [sO 2,.b (.lst 59 ty9 e)] ⟨[0],[],[⟨2,59,ty9,[.slot 0],e⟩]⟩] (Pw.unc3 (Pw.j7w))] 154 [.mv 59 ty15,.v ty15] [.own 59 ty15] [] (Pw.unc2 Pw.jjd) func154
end Go.Proofs.Pk
