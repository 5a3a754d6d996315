/- Contracts: each given function is its plain function, printed by a program. -/
import Derived.Test.YtgepoeafaklbjaaGreatPFCon9
open Bool renaming false->e
noncomputable section
open Go Go.Lft
set_option linter.unusedVariables false
set_option maxRecDepth 100000
namespace Go.Proofs.Pk
open Tryz
def jl4:CKt:=
 cQ tb {} [] 281 [.v ty64,.v ty71] [.v iT] [] (Pw.unc2 Pw.jcb) func281 [jlp]
def jl5:CKt:=
 cQ tb {} [] 289 [.v iT] [.v .bool] [] (λh=>Pw.jdN h) func289 [jgd]
def jl6:CKt:=
 cQ tb {} [lD 0 [sB 128 0,sB 192 0,sO 1,sI,.b (.cell [.d .str,.d iT,.d ty57] e),.b (.cell [.d iT,.d iT] e),.b (.lst 254 ty7 e)] ⟨[2,3,6,8],[128,192],[⟨1,254,ty7,[.slot 6],e⟩]⟩ [xD .ret [sI,sI] ⟨[4,5],[],[]⟩,xD (.exit 0) [] ⟨[],[],[]⟩] (Pw.unc7 (Pw.j4v))] 318 [.v ty64,.v ty7] [.v iT,.v iT] [] (Pw.unc2 Pw.j59) func318 [jgd,j4y,jl5]
def jpe:CKt:=
 cQ tb {} [lD 0 [sD ty12,sI,sI,sI] ⟨[1,2,7,8],[],[]⟩ [xD (.exit 0) [sI] ⟨[7],[],[]⟩] (Pw.unc4 (Pw.j5a))] 321 [.v ty64,.v ty12,.v iT] [.v iT] [] (Pw.unc3 Pw.jg6) func321
def jlU:CKt:=
 cQ tb {} [] 293 [.v ty64,.v iT] [.v iT,.v iT] [] (Pw.unc2 Pw.jaJ) func293 [jgd,j4y,jpe]
def jqC:CKt:=
 cQ tb {} [] 294 [.v iT,.v iT] [.v ty7] [] (Pw.unc2 Pw.jhT) func294
def jeq:CKt:=
 cQ tb {} [] 248 [.v ty64,.v iT] [.v ty7,.v iT] [] (Pw.unc2 Pw.j4I) func248 [jlU,jqC]
def jgA:CKt:=
 cQ tb {} [] 283 [.v ty64,.v ty71,.v iT] [.v iT,.v .bool] [] (Pw.unc3 Pw.j7w) func283 [jl6]
def jl7:CKt:=
 cQ tb {} [lD 0 [sI,sB 192 0,sB 256 0,sI,.b (.cell [.d .str,.d iT,.d ty57] e),.b (.cell [.d .str,.d iT,.d iT,.d iT,.d iT,.d iT,.d (.list iT),.d ty12,.d iT,.d iT] e)] ⟨[2,3,4,7],[192,256],[]⟩ [xD (.exit 0) [sI] ⟨[7],[],[]⟩] (Pw.u8 Pw.unc7 (Pw.j5R))] 282 [.v ty64,.v ty71,.v iT] [.v iT] [] (Pw.unc3 Pw.jcd) func282 [jl6,jeq,jgA]
def jqD:CKt:=
 cQ tb {} [] 246 [.v ty64,.v ty71,.v iT] [.v iT,.v iT] [] (Pw.unc3 Pw.jfu) func246 [jl4,jl7]
def jjr:CKt:=
 cQ tb {} [] 319 [.v ty7] [.v iT] [] (λh=>Pw.j7M h) func319 [jih]
def jpf:CKt:=
 cQ tb {} [] 291 [.v ty64,.v iT] [.v iT,.v iT] [] (Pw.unc2 Pw.jbD) func291 [jeq,jjr]
def jpg:CKt:=
 cQ tb {} [lD 0 [sD ty12,sI,sI] ⟨[0,1,5],[],[]⟩ [xD .ret [sD .bool] ⟨[4],[],[]⟩,xD (.exit 0) [] ⟨[],[],[]⟩] (Pw.unc3 (Pw.j5b))] 292 [.v ty12,.v iT] [.v .bool] [] (Pw.unc2 Pw.jg7) func292
def jyb:CKt:=
 cQ tb {} [] 247 [.v ty64,.v ty12,.v iT] [.v .bool] [] (Pw.unc3 Pw.jp8) func247 [jey,jpf,jpg]
def jtq:CKt:=
 cQ tb {} [lD 0 [sB 256 0,sI,sB 704 0,sB 768 0,sD .bool,sI,.b (.cell [.d .str,.d iT,.d iT,.d iT,.d iT,.d iT,.d (.list iT),.d ty12,.d iT,.d iT] e),.b (.cell [.d .str,.d iT,.d (.list iT)] e),.b (.cell [.d iT,.d iT] e)] ⟨[4,9,11,12,14,15],[256,704,768],[]⟩ [xD (.exit 0) [sB 256 0,sI,sD .bool,.b (.cell [.d .str,.d iT,.d iT,.d iT,.d iT,.d iT,.d (.list iT),.d ty12,.d iT,.d iT] e)] ⟨[4,9,14],[256],[]⟩] (Pw.u8 (Pw.u8 Pw.unc2) (Pw.j6C))] 203 [.v ty83,.v ty71,.v iT] [.v iT,.v .bool] [] (Pw.unc3 Pw.jhU) func203 [jeq,jqD,jyb]
def jvF:CKt:=
 cQ tb {} [] 141 [.v ty83,.v ty71,.v iT] [.v iT] [] (Pw.unc3 Pw.jkZ) func141 [jtq]
def jtr:CKt:=
 cQ tb {} [lD 0 [sI,sI,sB 192 0,sI,.b (.cell [.d .str,.d ty72,.d ty43] e)] ⟨[1,2,3,7],[192],[]⟩ [xD .ret [sD .bool] ⟨[6],[],[]⟩,xD (.exit 0) [] ⟨[],[],[]⟩] (Pw.unc6 (Pw.j6D))] 142 [.v ty76,.v iT,.v iT] [.v .bool] [] (Pw.unc3 Pw.jjZ) func142
def jvG:CKt:=
 cQ tb {} [lD 0 [sI,sB 192 0,sB 512 0,sI,.b (.cell [.d ty65,.d ty55,.d ty28,.d ty77] e),.b (.cell [.d .str,.d ty72,.d ty43] e)] ⟨[2,3,8,9],[192,512],[]⟩ [xD .ret [sI,sI] ⟨[6,7],[],[]⟩,xD (.exit 0) [] ⟨[],[],[]⟩] (Pw.unc9 (Pw.j7x))] 88 [.v ty83,.v iT,.v iT] [.v iT,.v iT] [] (Pw.unc3 Pw.jiR) func88 [jvF,jtr]
def jts:CKt:=
 cQ tb {} [lD 0 [sD ty43,sI,sI,sI] ⟨[0,1,2,7],[],[]⟩ [xD (.exit 0) [sI] ⟨[1],[],[]⟩] (Pw.unc4 (Pw.j6E))] 89 [.v ty43,.v iT,.v iT] [.v iT] [] (Pw.unc3 Pw.jk0) func89
def jph:CKt:=
 cQ tb {} [] 57 [.v ty83,.v iT,.v iT] [.v iT] [] (Pw.unc3 Pw.jgY) func57 [jvG,jts]
end Go.Proofs.Pk
