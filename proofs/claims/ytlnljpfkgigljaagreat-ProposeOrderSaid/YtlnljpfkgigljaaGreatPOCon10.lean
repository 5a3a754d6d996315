/- Contracts: each given function is its plain function, printed by a program. -/
import Derived.Test.YtlnljpfkgigljaaGreatPOCon9
open Bool renaming false->e
noncomputable section
open Go Go.Lft
set_option linter.unusedVariables false
set_option maxRecDepth 100000
namespace Go.Proofs.Pk
open Tryz
def jly:CKt:=
 cQ tb {} [] 285 [.v ty63,.v ty70] [.v iT] [] (Pw.unc2 Pw.jcD) func285 [jlU]
def jlz:CKt:=
 cQ tb {} [] 288 [.v iT] [.v .bool] [] (λh=>Pw.jed h) func288 [jgC]
def jlA:CKt:=
 cQ tb {} [lD 0 [sB 128 0,sB 192 0,sO 1,sI,.b (.cell [.d .str,.d iT,.d ty56] e),.b (.cell [.d iT,.d iT] e),.b (.lst 140 ty6 e)] ⟨[2,3,6,8],[128,192],[⟨1,140,ty6,[.slot 6],e⟩]⟩ [xD .ret [sI,sI] ⟨[4,5],[],[]⟩,xD (.exit 0) [] ⟨[],[],[]⟩] (Pw.unc7 (Pw.j4B))] 319 [.v ty63,.v ty6] [.v iT,.v iT] [] (Pw.unc2 Pw.j5e) func319 [jgC,j4D,jlz]
def jpN:CKt:=
 cQ tb {} [lD 0 [sD ty11,sI,sI,sI] ⟨[1,2,7,8],[],[]⟩ [xD (.exit 0) [sI] ⟨[7],[],[]⟩] (Pw.unc4 (Pw.j5f))] 334 [.v ty63,.v ty11,.v iT] [.v iT] [] (Pw.unc3 Pw.jgv) func334
def jmq:CKt:=
 cQ tb {} [] 323 [.v ty63,.v iT] [.v iT,.v iT] [] (Pw.unc2 Pw.jaY) func323 [jgC,j4D,jpN]
def jra:CKt:=
 cQ tb {} [] 324 [.v iT,.v iT] [.v ty6] [] (Pw.unc2 Pw.jil) func324
def jeT:CKt:=
 cQ tb {} [] 295 [.v ty63,.v iT] [.v ty6,.v iT] [] (Pw.unc2 Pw.j4N) func295 [jmq,jra]
def jh0:CKt:=
 cQ tb {} [] 287 [.v ty63,.v ty70,.v iT] [.v iT,.v .bool] [] (Pw.unc3 Pw.j7F) func287 [jlA]
def jlB:CKt:=
 cQ tb {} [lD 0 [sI,sB 192 0,sB 256 0,sI,.b (.cell [.d .str,.d iT,.d ty56] e),.b (.cell [.d .str,.d iT,.d iT,.d iT,.d iT,.d iT,.d (.list iT),.d ty11,.d iT,.d iT] e)] ⟨[2,3,4,7],[192,256],[]⟩ [xD (.exit 0) [sI] ⟨[7],[],[]⟩] (Pw.u8 Pw.unc7 (Pw.j5X))] 286 [.v ty63,.v ty70,.v iT] [.v iT] [] (Pw.unc3 Pw.jcF) func286 [jlA,jeT,jh0]
def jrb:CKt:=
 cQ tb {} [] 293 [.v ty63,.v ty70,.v iT] [.v iT,.v iT] [] (Pw.unc3 Pw.jfT) func293 [jly,jlB]
def jjV:CKt:=
 cQ tb {} [] 132 [.v ty6] [.v iT] [] (λh=>Pw.j7W h) func132 [jiI]
def jpO:CKt:=
 cQ tb {} [] 321 [.v ty63,.v iT] [.v iT,.v iT] [] (Pw.unc2 Pw.jc3) func321 [jeT,jjV]
def jpP:CKt:=
 cQ tb {} [lD 0 [sD ty11,sI,sI] ⟨[0,1,5],[],[]⟩ [xD .ret [sD .bool] ⟨[4],[],[]⟩,xD (.exit 0) [] ⟨[],[],[]⟩] (Pw.unc3 (Pw.j5g))] 322 [.v ty11,.v iT] [.v .bool] [] (Pw.unc2 Pw.jgw) func322
def jz4:CKt:=
 cQ tb {} [] 294 [.v ty63,.v ty11,.v iT] [.v .bool] [] (Pw.unc3 Pw.jpH) func294 [jcN,jpO,jpP]
def jue:CKt:=
 cQ tb {} [lD 0 [sB 256 0,sI,sB 704 0,sB 768 0,sD .bool,sI,.b (.cell [.d .str,.d iT,.d iT,.d iT,.d iT,.d iT,.d (.list iT),.d ty11,.d iT,.d iT] e),.b (.cell [.d .str,.d iT,.d (.list iT)] e),.b (.cell [.d iT,.d iT] e)] ⟨[4,9,11,12,14,15],[256,704,768],[]⟩ [xD (.exit 0) [sB 256 0,sI,sD .bool,.b (.cell [.d .str,.d iT,.d iT,.d iT,.d iT,.d iT,.d (.list iT),.d ty11,.d iT,.d iT] e)] ⟨[4,9,14],[256],[]⟩] (Pw.u8 (Pw.u8 Pw.unc2) (Pw.j6K))] 252 [.v ty82,.v ty70,.v iT] [.v iT,.v .bool] [] (Pw.unc3 Pw.jim) func252 [jeT,jrb,jz4]
def jwq:CKt:=
 cQ tb {} [] 202 [.v ty82,.v ty70,.v iT] [.v iT] [] (Pw.unc3 Pw.jls) func202 [jue]
def juf:CKt:=
 cQ tb {} [lD 0 [sI,sI,sB 192 0,sI,.b (.cell [.d .str,.d ty71,.d ty42] e)] ⟨[1,2,3,7],[192],[]⟩ [xD .ret [sD .bool] ⟨[6],[],[]⟩,xD (.exit 0) [] ⟨[],[],[]⟩] (Pw.unc6 (Pw.j6L))] 203 [.v ty75,.v iT,.v iT] [.v .bool] [] (Pw.unc3 Pw.jkt) func203
def jwr:CKt:=
 cQ tb {} [lD 0 [sI,sB 192 0,sB 512 0,sI,.b (.cell [.d ty64,.d ty54,.d ty27,.d ty76] e),.b (.cell [.d .str,.d ty71,.d ty42] e)] ⟨[2,3,8,9],[192,512],[]⟩ [xD .ret [sI,sI] ⟨[6,7],[],[]⟩,xD (.exit 0) [] ⟨[],[],[]⟩] (Pw.unc9 (Pw.j7G))] 143 [.v ty82,.v iT,.v iT] [.v iT,.v iT] [] (Pw.unc3 Pw.jjl) func143 [jwq,juf]
def jug:CKt:=
 cQ tb {} [lD 0 [sD ty42,sI,sI,sI] ⟨[0,1,2,7],[],[]⟩ [xD (.exit 0) [sI] ⟨[1],[],[]⟩] (Pw.unc4 (Pw.j6M))] 144 [.v ty42,.v iT,.v iT] [.v iT] [] (Pw.unc3 Pw.jku) func144
def jpQ:CKt:=
 cQ tb {} [] 81 [.v ty82,.v iT,.v iT] [.v iT] [] (Pw.unc3 Pw.jhp) func81 [jwr,jug]
end Go.Proofs.Pk
