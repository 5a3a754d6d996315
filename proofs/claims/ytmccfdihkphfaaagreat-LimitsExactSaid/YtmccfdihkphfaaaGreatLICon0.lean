/- Contracts: each given function is its plain function, printed by a program. -/
import Derived.Test.YtmccfdihkphfaaaGreatLITab
import Derived.Test.YtmccfdihkphfaaaGreatLISrt
noncomputable section
open Go Go.Lft
set_option linter.unusedVariables false
set_option maxRecDepth 100000
namespace Go.Proofs.Pk
open Tryz
abbrev CKt:=CK Tryz.prog
def tb:TB Tryz.prog:=⟨tabL,jqz,jis⟩
abbrev OKc(c:Con):=Con.OK Tryz.prog c
def jqA:CKt:=
 cQ tb {} [] 6 [.v (.list iT)] [.v .bool] [] (λh=>Pw.jkc h) func6
def joZ:CKt:=
 cQ tb {so:=[.own 105 ty66,.own 107 ty54,.own 110 ty26,.own 91 ty78]} [] 85 [.v iT,.v iT,.v .bool] [.so [(some 105,ty67),(some 107,ty57),(some 110,ty31),(some 91,ty79)]] [] (Pw.unc3 Pw.jmf) func85
def jjo:CKt:=
 cQ tb {} [] 189 [.v ty66] [.v .str] [] (λh=>Pw.j9l h) func189
def jp0:CKt:=
 cQ tb {} [] 307 [.v (.int .u8)] [.v .bool] [] (λh=>Pw.jcP h) func307
def jp1:CKt:=
 cQ tb {} [] 308 [.v (.int .u8)] [.v .bool] [] (λh=>Pw.jic h) func308
def jqB:CKt:=
 cQ tb {} [lD 0 [sD .str,sI,sI] ⟨[0,19,20],[],[]⟩ [xD .ret [sD .bool] ⟨[2],[],[]⟩,xD (.exit 0) [] ⟨[],[],[]⟩] (Pw.unc3 (Pw.j5W))] 250 [.v .str] [.v .bool] [] (λh=>Pw.jeE h) func250 [jp0,jp1]
def j9f:CKt:=
 cQ tb {} [] 191 [.v .str,.rl 4294967535 (.list (.pair .str .bool))] [.v iT] [.rl (.list (.pair .str .bool))] (Pw.unc2 Pw.j5j) func191 [jqB]
def jmn:CKt:=
 cQ tb {} [] 328 [.v iT,.v iT,.v iT] [.v .bool] [] (Pw.unc3 Pw.j8Y) func328
def js9:CKt:=
 cQ tb {} [] 337 [.v ty56] [.v iT] [] (λh=>Pw.jbt h) func337 [jmn]
def jqC:CKt:=
 cQ tb {} [] 342 [.v iT] [.v .bool] [] (λh=>Pw.jkd h) func342
def je0:CKt:=
 cQ tb {} [] 331 [.v iT,.v iT] [.v iT] [] (Pw.unc2 Pw.j8E) func331 [jqC]
def jp2:CKt:=
 cQ tb {} [] 343 [.v ty24] [.v .bool] [] (λh=>Pw.jcQ h) func343 [je0]
def jjp:CKt:=
 cQ tb {} [] 341 [.v iT,.v iT] [.v iT] [] (Pw.unc2 Pw.j9w) func341
def jfx:CKt:=
 cQ tb {} [] 329 [.v iT] [.v iT] [] (λh=>Pw.j6t h) func329 [jjp]
def jng:CKt:=
 cQ tb {} [lD 0 [sB 64 0,sI,sI,.b (.cell [.d iT,.d iT,.d iT] false)] ⟨[1,3,4],[64],[]⟩ [xD (.exit 0) [sI] ⟨[3],[],[]⟩] (Pw.unc5 (Pw.j4X))] 344 [.v ty24] [.v iT] [] (λh=>Pw.jdH h) func344 [je0,jfx]
def jgR:CKt:=
 cQ tb {} [] 157 [.v iT] [.v iT] [] (λh=>Pw.j71 h) func157
def jsa:CKt:=
 cQ tb {} [] 338 [.v iT,.v iT,.v iT,.v iT] [.v iT,.v iT] [] (Pw.unc4 Pw.jiZ) func338 [je0,jp2,jng,jgR]
def j8y:CKt:=
 cQ tb {} [] 340 [.v ty9,.v ty9] [.v iT] [] (Pw.unc2 Pw.j40) func340
def j6S:CKt:=
 cQ tb {dw:=[(6,dz [(15,[0]),(1,[0])])]} [lD 0 [sO 0,sI,sI,sC 340 [],sI,.b (.lst 349 ty9 false)] ⟨[0,1,2,3,8],[0],[]⟩ [xD (.exit 0) [.b (.lst 349 ty9 false)] ⟨[],[0],[]⟩] (Pw.unc4 (Pw.j0j)),lD 2 [sO 0,sI,sI,sC 340 [],sI,sI,.b (.lst 349 ty9 false)] ⟨[0,1,2,3,8,9],[0],[]⟩ [xD (.exit 2) [sO 0,sI,sI,sC 340 [],sI,.b (.lst 349 ty9 false)] ⟨[0,1,2,3,8],[0],[]⟩] (Pw.unc5 (Pw.j0w))] 346 [.rl 349 ty15,.v iT,.v iT,.clo 340 []] [] [.rl ty15] (Pw.unc3 Pw.j0x) func346 [j8y]
def j7T:CKt:=
 cQ tb {dw:=[(3,dz [(21,[0]),(1,[0])])]} [lD 0 [sO 0,sI,sI,sI,sI,.b (.lst 349 ty9 false)] ⟨[0,1,2,3,10],[0],[]⟩ [xD (.exit 0) [.b (.lst 349 ty9 false)] ⟨[],[0],[]⟩] (Pw.unc5 (Pw.j2y))] 349 [.rl 349 ty15,.v iT,.v iT,.v iT,.clo 340 []] [] [.rl ty15] (Pw.unc4 Pw.j1m) func349
end Go.Proofs.Pk
