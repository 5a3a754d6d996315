/- Contracts: each given function is its plain function, printed by a program. -/
import Derived.Test.YtmccfdihkphfaaaGreatLICon0
open Bool renaming false->e
open And renaming intro->i
noncomputable section
open Go Go.Lft
set_option linter.unusedVariables false
set_option maxRecDepth 100000
namespace Go.Proofs.Pk
open Tryz
def j4Q:CKt:=
 cQ tb {} [lD 0 [sO 0,sI,sC 340 [],sI,sI,.b (.lst 349 ty9 e)] ⟨[0,2,4,10,11],[0],[]⟩ [xD (.exit 0) [sO 0,sI,sC 340 [],sI,.b (.lst 349 ty9 e)] ⟨[0,2,4,10],[0],[]⟩] (Pw.unc4 (Pw.j3e))] 348 [.rl 349 ty15,.v iT,.v iT,.v iT,.clo 340 []] [] [.rl ty15] (Pw.unc4 Pw.j2z) func348 [j7T]
noncomputable def j11(g:HL [ty15,iT,iT,iT]->Option (HL [ty15])):Con:=⟨347,[.rl 349 ty15,.v iT,.v iT,.v iT,.clo 340 []],[ty15,iT,iT,iT],⟨[],[.rl ty15]⟩,[ty15],g⟩
noncomputable def j85(g:HL [ty15,iT,iT,iT]->Option (HL [ty15])):FnD where
 N:=220
 np:=5
 cs:=[j11 g,j8y.1,j4Q.1]
 ds:=[⟨0,[sO 0,sI,sC 340 [],sI,sI,.b (.lst 349 ty9 e)],[iT,iT,iT,ty15],[⟨.exit 0,[sO 0,sI,sI,.b (.lst 349 ty9 e)],[iT,iT,ty15]⟩],Pw.unc4 (Pw.j2N (λv0 v1 v2 v3=>g (v0,v1,v2,v3)))⟩,⟨2,[sO 0,sI,sI,.b (.lst 349 ty9 e)],[iT,iT,ty15],[⟨.exit 2,[.b (.lst 349 ty9 e)],[ty15]⟩],Pw.unc3 (Pw.j2O (λv0 v1 v2 v3=>g (v0,v1,v2,v3)))⟩,⟨4,[sO 0,sI,sC 340 [],sI,sI,.b (.lst 349 ty9 e)],[iT,iT,iT,ty15],[⟨.exit 4,[sO 0,sI,sI,.b (.lst 349 ty9 e)],[iT,iT,ty15]⟩],Pw.unc4 (Pw.j2P (λv0 v1 v2 v3=>g (v0,v1,v2,v3)))⟩,⟨6,[sO 0,sI,sI,.b (.lst 349 ty9 e)],[iT,iT,ty15],[⟨.exit 6,[.b (.lst 349 ty9 e)],[ty15]⟩],Pw.unc3 (Pw.j2Q (λv0 v1 v2 v3=>g (v0,v1,v2,v3)))⟩,⟨8,[sO 0,sI,sI,sI,sC 340 [],sI,sI,sI,sI,sI,.b (.lst 349 ty9 e)],[iT,iT,iT,iT,iT,iT,iT,iT,ty15],[⟨.exit 8,[sO 0,sI,sI,sI,sC 340 [],sI,sI,sI,.b (.lst 349 ty9 e)],[iT,iT,iT,iT,iT,iT,ty15]⟩],Pw.unc9 (Pw.j2R (λv0 v1 v2 v3=>g (v0,v1,v2,v3)))⟩]
 modes:=[(347,[true,e,e,e,e]),(348,[true,e,e,e,e])]
 keep:=[(0,⟨[0,1,4,10,11],[0],[]⟩),(2,⟨[0,10,13],[0],[]⟩),(4,⟨[0,2,4,14,15],[0],[]⟩),(6,⟨[0,14,17],[0],[]⟩),(8,⟨[0,1,2,3,4,18,19,20,21,22],[0],[]⟩)]
 keepX:=[(0,.exit 0,⟨[0,1,10],[0],[]⟩),(2,.exit 2,⟨[],[0],[]⟩),(4,.exit 4,⟨[0,2,14],[0],[]⟩),(6,.exit 6,⟨[],[0],[]⟩),(8,.exit 8,⟨[0,1,2,3,4,18,19,20],[0],[]⟩)]
 dw:=[(11,[[],[],[],[],[],[],[],[],[],[],[],[],[],[],[],[0],[],[0]]),(23,[[],[],[],[],[],[],[],[],[],[],[],[],[],[],[],[0],[],[0]])]
theorem j7j(g:HL [ty15,iT,iT,iT]->Option (HL [ty15]))(hg:OKc (j11 g)):OKc (j11 (Pw.j15 g)):=
 cOf jqz jis (j85 g) (j11 (Pw.j15 g)) func347 (i hg (i j8y.2 (i j4Q.2 trivial))) (i (λh=>by kernel_rfl) (i (λh=>by kernel_rfl) (i (λh=>by kernel_rfl) (i (λh=>by kernel_rfl) (i (λh=>by kernel_rfl) trivial)))))
def j86:CKt:=
 ⟨⟨347,[.rl 349 ty15,.v iT,.v iT,.v iT,.clo 340 []],[ty15,iT,iT,iT],⟨[],[.rl ty15]⟩,[ty15],λh=>Pw.j2c h.1 h.2.1 h.2.2.1 h.2.2.2⟩,jtv (f:=347) (ps:=[.rl 349 ty15,.v iT,.v iT,.v iT,.clo 340 []]) (ts:=[ty15,iT,iT,iT]) (rp:=⟨[],[.rl ty15]⟩) (rs:=[ty15]) (B:=Pw.j15) j7j⟩
def j8S:CKt:=
 cQ tb {} [lD 0 [sO 0,sI,sC 340 [],sI,sI,sI,.b (.lst 349 ty9 e)] ⟨[0,1,2,6,7,8],[0],[]⟩ [xD (.exit 0) [sO 0,sI,sC 340 [],sI,sI,.b (.lst 349 ty9 e)] ⟨[0,1,2,6,7],[0],[]⟩] (Pw.unc5 (Pw.j0Y)),lD 2 [sO 0,sI,sC 340 [],sI,.b (.lst 349 ty9 e)] ⟨[0,1,2,6],[0],[]⟩ [xD (.exit 2) [.b (.lst 349 ty9 e)] ⟨[],[0],[]⟩] (Pw.unc3 (Pw.j0Z)),lD 4 [sO 0,sI,sC 340 [],sI,sI,sI,.b (.lst 349 ty9 e)] ⟨[0,1,2,6,7,8],[0],[]⟩ [xD (.exit 4) [sO 0,sI,sC 340 [],sI,sI,.b (.lst 349 ty9 e)] ⟨[0,1,2,6,7],[0],[]⟩] (Pw.unc5 (Pw.j3f))] 345 [.rl 349 ty15,.v iT,.clo 340 []] [] [.rl ty15] (Pw.unc2 Pw.j2A) func345 [j6S,j86]
def j4W:CKt:=
 cQ tb {} [] 339 [.rl 349 ty15,.clo 340 []] [] [.rl ty15] (λh=>Pw.j0g h) func339 [j8S]
def jjq:CKt:=
 cQ tb {} [lD 0 [sB 64 0,sI,sD ty59,sI,sI,.b (.cell [.d .str,.d iT,.d ty59] e)] ⟨[1,4,23,24,25],[64],[]⟩ [xD .ret [.s (.one (.nil)),sI] ⟨[2,3],[],[]⟩,xD (.exit 0) [sB 64 0,sI,.b (.cell [.d .str,.d iT,.d ty59] e)] ⟨[1,4],[64],[]⟩] (Pw.unc7 (Pw.j25)),lD 2 [sO 1,sD ty59,sI,sI,.b (.lst 349 ty9 e)] ⟨[8,46,47,48],[],[⟨1,349,ty9,[.slot 8],e⟩]⟩ [xD (.exit 2) [sO 2,.b (.lst 349 ty9 e)] ⟨[8],[],[⟨2,349,ty9,[.slot 8],e⟩]⟩] (Pw.unc4 (Pw.j2Y)),lD 4 [sO 3,sB 640 0,sI,sD ty59,sI,sI,.b (.cell [.d iT,.d iT,.d iT,.d iT,.d iT,.d iT,.d iT] e),.b (.lst 349 ty9 e)] ⟨[8,10,11,46,47,48],[640],[⟨3,349,ty9,[.slot 8],e⟩]⟩ [xD (.exit 4) [sO 4,sD ty59,sI,sI,.b (.lst 349 ty9 e)] ⟨[8,46,47,48],[],[⟨4,349,ty9,[.slot 8],e⟩]⟩] (Pw.u8 Pw.unc4 (Pw.j2X))] 327 [.v ty66] [.own 349 ty15,.v iT] [] (λh=>Pw.j3H h) func327 [jmn,js9,jsa,j4W]
def je1:CKt:=
 cQ tb {} [lD 0 [sO 1,sI,sO 2,sI,sI,.b (.lst 201 ty9 e),.b (.lst 349 ty9 e)] ⟨[6,7,22,23,24],[],[⟨1,201,ty9,[.slot 6],e⟩,⟨2,349,ty9,[.slot 22],e⟩]⟩ [xD .ret [.s (.one (.nil)),sI] ⟨[2,3],[],[]⟩,xD (.exit 0) [sO 3,.b (.lst 201 ty9 e)] ⟨[6],[],[⟨3,201,ty9,[.slot 6],e⟩]⟩] (Pw.unc5 (Pw.j1B))] 305 [.v ty66] [.own 201 ty15,.v iT] [] (λh=>Pw.j1A h) func305 [jmn,jjq]
def jqD:CKt:=
 cQ tb {} [] 247 [.v ty66] [.v iT] [] (λh=>Pw.jeF h) func247 [je1]
def jg9:CKt:=
 cQ tb {} [] 249 [.v ty56] [.v .bool] [] (λh=>Pw.j8Z h) func249
def j6T:CKt:=
 cQ tb {} [lD 0 [sD ty59,sC 249 [],sI,sI] ⟨[0,1,7,8],[],[]⟩ [xD .ret [sI] ⟨[4],[],[]⟩,xD (.exit 0) [] ⟨[],[],[]⟩] (Pw.unc3 (Pw.j0l))] 306 [.v ty59,.clo 249 []] [.v iT] [] (λh=>Pw.j1U h) func306 [jg9]
def j6w:CKt:=
 cQ tb {} [] 248 [.v ty59,.clo 249 []] [.v .bool] [] (λh=>Pw.j0V h) func248 [j6T]
def jit:CKt:=
 cQ tb {} [] 190 [.v ty66] [.v iT] [] (λh=>Pw.j2d h) func190 [jqD,j6w]
def jeZ:CKt:=
 cQ tb {} [lD 0 [sC 189 [],sC 190 [],sO 1,sD ty67,sI,sI,.b (.lst 4294967535 (.pair .str .bool) e)] ⟨[1,2,7,13,14,15],[],[⟨1,4294967535,(.pair .str .bool),[.slot 7],e⟩]⟩ [xD .ret [sI] ⟨[6],[],[]⟩,xD (.exit 0) [] ⟨[],[],[]⟩] (Pw.unc4 (Pw.j1b))] 188 [.v ty67,.clo 189 [],.clo 190 []] [.v iT] [] (λh=>Pw.j1X h) func188 [jjo,j9f,jit]
def j8z:CKt:=
 cQ tb {} [] 251 [.v iT,.v iT] [.v .bool] [] (Pw.unc2 Pw.j1n) func251
def jkO:CKt:=
 cQ tb {} [lD 0 [sD ty15,sD ty15,sI,sI] ⟨[0,8,9,10],[],[]⟩ [xD .ret [sI] ⟨[2],[],[]⟩,xD (.exit 0) [] ⟨[],[],[]⟩] (Pw.unc4 (Pw.j5X))] 252 [.v ty15] [.v iT] [] (λh=>Pw.jcD h) func252
def jgS:CKt:=
 cQ tb {} [] 309 [.v iT,.v iT,.v iT] [.v .bool] [] (Pw.unc3 Pw.j3D) func309
def jmo:CKt:=
 cQ tb {} [] 253 [.v iT] [.v .bool] [] (λh=>Pw.j2e h) func253 [jgS]
def jgT:CKt:=
 cQ tb {} [] 192 [.v ty85,.v ty54] [.v iT] [] (Pw.unc2 Pw.j1q) func192 [j8z,jkO,jmo]
def jjr:CKt:=
 cQ tb {} [] 194 [.v ty26] [.v .str] [] (λh=>Pw.j9m h) func194
def jqE:CKt:=
 cQ tb {} [lD 0 [sI,sI] ⟨[0,3],[],[]⟩ [xD (.exit 0) [sI] ⟨[3],[],[]⟩] (Pw.unc2 (Pw.j5Y))] 330 [.v iT] [.v iT] [] (λh=>Pw.jhg h) func330 [jjp,jfx]
def jnh:CKt:=
 cQ tb {} [lD 0 [sB 128 0,sB 256 0,sI,.b (.cell [.d iT,.d iT,.d iT] e),.b (.cell [.d iT,.d iT,.d iT] e)] ⟨[2,4,5],[128,256],[]⟩ [xD (.exit 0) [sB 128 0,sB 256 0,sI,.b (.cell [.d iT,.d iT,.d iT] e),.b (.cell [.d iT,.d iT,.d iT] e)] ⟨[2,4,5],[128,256],[]⟩] (Pw.unc7 (Pw.j4Y))] 310 [.v iT] [.v ty24,.v iT] [] (λh=>Pw.j6W h) func310 [je0,jfx,jqE]
end Go.Proofs.Pk
