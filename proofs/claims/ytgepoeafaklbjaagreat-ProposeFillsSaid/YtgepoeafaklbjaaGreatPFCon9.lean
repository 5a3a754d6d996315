/- Contracts: each given function is its plain function, printed by a program. -/
import Derived.Test.YtgepoeafaklbjaaGreatPFCon8
open Bool renaming false->e
noncomputable section
open Go Go.Lft
set_option linter.unusedVariables false
set_option maxRecDepth 100000
namespace Go.Proofs.Pk
open Tryz
def jmJ:CKt:=
 cQ tb {} [] 245 [.v iT] [.v iT] [] (λh=>Pw.jhN h) func245
def jvK:CKt:=
 cQ tb {} [lD 0 [sB 64 0,sI,sI,.b (.cell [.d iT,.d iT,.d iT] e)] ⟨[1,4,5],[64],[]⟩ [xD (.exit 0) [sB 64 0,sI,.b (.cell [.d iT,.d iT,.d iT] e)] ⟨[1,4],[64],[]⟩] (Pw.unc5 (Pw.j7s))] 332 [.v ty20] [.v iT,.v iT] [] (λh=>Pw.jnE h) func332 [jj0,jqP,jmJ]
def jih:CKt:=
 cQ tb {} [] 331 [.v iT] [.v iT] [] (λh=>Pw.jc4 h) func331
def jvL:CKt:=
 cQ tb {} [lD 0 [sI,sI,sI,sI,sI,sI] ⟨[0,1,2,3,10,12],[],[]⟩ [xD (.exit 0) [sI,sI,sI,sI,sI] ⟨[0,1,2,10,12],[],[]⟩] (Pw.unc6 (Pw.j7t)),lD 2 [sI,sI,sI,sI] ⟨[0,1,10,12],[],[]⟩ [xD (.exit 2) [sI] ⟨[12],[],[]⟩] (Pw.unc4 (Pw.j7u))] 320 [.v iT,.v iT,.v iT,.v iT] [.v iT,.v iT] [] (Pw.unc4 Pw.jnF) func320 [jj0,jvK,jih]
def jj1:CKt:=
 cQ tb {dw:=[(9,dz [(14,[512]),(0,[512])]),(14,dz [(7,[5376])])]} [lD 0 [sD ty57,sO 1,sI,.b (.lst 347 ty7 e)] ⟨[0,3,4],[],[⟨1,347,ty7,[.slot 3],e⟩]⟩ [xD (.exit 0) [sO 2,.b (.lst 347 ty7 e)] ⟨[3],[],[⟨2,347,ty7,[.slot 3],e⟩]⟩] (Pw.unc3 (Pw.j2O)),lD 2 [sD ty57,sO 3,sI,sI,.b (.lst 347 ty7 e)] ⟨[0,3,4,5],[],[⟨3,347,ty7,[.slot 3],e⟩]⟩ [xD (.exit 2) [sD ty57,sO 4,sI,.b (.lst 347 ty7 e)] ⟨[0,3,4],[],[⟨4,347,ty7,[.slot 3],e⟩]⟩] (Pw.unc4 (Pw.j2N)),lD 4 [sD ty57,sO 5,sI,sI,sB 512 0,sI,.b (.cell [.d iT,.d iT] e),.b (.lst 347 ty7 e)] ⟨[0,3,4,5,8,9],[512],[⟨5,347,ty7,[.slot 3],e⟩]⟩ [xD (.exit 4) [sD ty57,sO 6,sI,sI,sB 512 0,sI,.b (.cell [.d iT,.d iT] e),.b (.lst 347 ty7 e)] ⟨[0,3,4,5,8,9],[512],[⟨6,347,ty7,[.slot 3],e⟩]⟩] (Pw.unc7 (Pw.j4n))] 288 [.v ty57] [.own 347 ty12] [] (λh=>Pw.j9t h) func288 [jvL]
def j4y:CKt:=
 cQ tb {dw:=[(21,dz [(13,[640]),(0,[640])]),(24,dz [(2,[7296]),(0,[7360,1])])]} [lD 0 [sB 64 0,sI,sI,.b (.cell [.d .str,.d iT,.d ty57] e)] ⟨[1,4,5],[64],[]⟩ [xD .ret [.s (.one (.nil)),sI] ⟨[2,3],[],[]⟩,xD (.exit 0) [sB 64 0,sI,.b (.cell [.d .str,.d iT,.d ty57] e)] ⟨[1,4],[64],[]⟩] (Pw.unc5 (Pw.j2P)),lD 2 [sO 1,sO 2,sI,sI,.b (.lst 254 ty7 e),.b (.lst 347 ty7 e)] ⟨[6,7,8,9],[],[⟨1,254,ty7,[.slot 6],e⟩,⟨2,347,ty7,[.slot 7],e⟩]⟩ [xD .ret [.s (.one (.nil)),sI] ⟨[2,3],[],[]⟩,xD (.exit 2) [sO 3,.b (.lst 254 ty7 e)] ⟨[6],[],[⟨3,254,ty7,[.slot 6],e⟩]⟩] (Pw.unc4 (Pw.j2Q))] 241 [.v ty64] [.own 254 ty12,.v iT] [] (λh=>Pw.j0q h) func241 [jgd,jqO,jj1]
def jlp:CKt:=
 cQ tb {} [] 195 [.v ty64] [.v iT] [] (λh=>Pw.j7v h) func195 [j4y]
def jnS:CKt:=
 cQ tb {} [lD 0 [sB 64 0,sD .bool,sI,.b (.cell [.d .str,.d iT,.d ty57] e)] ⟨[1,3,4],[64],[]⟩ [xD (.exit 0) [sD .bool] ⟨[3],[],[]⟩] (Pw.unc5 (Pw.j4H))] 196 [.v ty64] [.v .bool] [] (λh=>Pw.jc5 h) func196
def jqQ:CKt:=
 cQ tb {} [lD 0 [sB 64 0,sO 1,sI,.b (.cell [.d ty65,.d ty55,.d ty28,.d ty77] e),.b (.lst 9 .str e)] ⟨[1,3,4],[64],[⟨1,9,.str,[.slot 3],e⟩]⟩ [xD .ret [sI] ⟨[2],[],[]⟩,xD (.exit 0) [] ⟨[],[],[]⟩] (Pw.unc6 (Pw.j5O))] 137 [.v ty83] [.v iT] [] (λh=>Pw.jkY h) func137 [jgc,jlp,jnS]
def jii:CKt:=
 cQ tb {} [] 197 [.v iT,.v iT,.v iT] [.v .bool] [] (Pw.unc3 Pw.j86) func197
def jey:CKt:=
 cQ tb {} [lD 0 [sD ty12,sI] ⟨[0,3],[],[]⟩ [xD .ret [sI] ⟨[2],[],[]⟩,xD (.exit 0) [] ⟨[],[],[]⟩] (Pw.unc2 (Pw.j5P))] 198 [.v ty12] [.v iT] [] (λh=>Pw.jaI h) func198
def jqR:CKt:=
 cQ tb {} [] 199 [.v iT] [.v .bool] [] (λh=>Pw.jhR h) func199 [jii]
def jps:CKt:=
 cQ tb {} [lD 0 [sB 64 0,sO 1,sI,.b (.cell [.d ty65,.d ty55,.d ty28,.d ty77] e),.b (.lst 9 .str e)] ⟨[1,3,4],[64],[⟨1,9,.str,[.slot 3],e⟩]⟩ [xD .ret [sI] ⟨[2],[],[]⟩,xD (.exit 0) [] ⟨[],[],[]⟩] (Pw.unc6 (Pw.j57))] 138 [.v ty83] [.v iT] [] (λh=>Pw.jiQ h) func138 [jgc,jii,jey,jqR]
def jfQ:CKt:=
 cQ tb {} [] 200 [] [.v iT] [] (λh=>Pw.jdL) func200 [jmJ]
def jlq:CKt:=
 cQ tb {} [lD 0 [sB 64 0,sO 1,sI,.b (.cell [.d ty65,.d ty55,.d ty28,.d ty77] e),.b (.lst 9 .str e)] ⟨[1,3,4],[64],[⟨1,9,.str,[.slot 3],e⟩]⟩ [xD .ret [sI] ⟨[2],[],[]⟩,xD (.exit 0) [] ⟨[],[],[]⟩] (Pw.unc6 (Pw.j3J)),lD 2 [sB 64 0,sO 2,sI,sB 320 0,sI,.b (.cell [.d ty65,.d ty55,.d ty28,.d ty77] e),.b (.cell [.d .str,.d iT,.d (.list iT)] e),.b (.lst 9 .str e)] ⟨[1,3,4,5,7],[64,320],[⟨2,9,.str,[.slot 3],e⟩]⟩ [xD .ret [sI] ⟨[2],[],[]⟩,xD (.exit 2) [sB 64 0,sO 3,sI,sB 320 0,.b (.cell [.d ty65,.d ty55,.d ty28,.d ty77] e),.b (.cell [.d .str,.d iT,.d (.list iT)] e),.b (.lst 9 .str e)] ⟨[1,3,4,5],[64,320],[⟨3,9,.str,[.slot 3],e⟩]⟩] (Pw.u8 Pw.unc2 (Pw.j3I)),lD 4 [sB 64 0,sO 4,sI,sB 320 0,sI,.b (.cell [.d ty65,.d ty55,.d ty28,.d ty77] e),.b (.cell [.d .str,.d iT,.d (.list iT)] e),.b (.lst 9 .str e)] ⟨[1,3,4,5,8],[64,320],[⟨4,9,.str,[.slot 3],e⟩]⟩ [xD .ret [sI] ⟨[2],[],[]⟩,xD (.exit 4) [sB 64 0,sO 5,sI,.b (.cell [.d ty65,.d ty55,.d ty28,.d ty77] e),.b (.lst 9 .str e)] ⟨[1,3,4],[64],[⟨5,9,.str,[.slot 3],e⟩]⟩] (Pw.u8 Pw.unc2 (Pw.j58))] 139 [.v ty83] [.v iT] [] (λh=>Pw.jeh h) func139 [jgc,jii,jfQ]
def jqS:CKt:=
 cQ tb {} [lD 1 [sB 128 0,sB 192 0,sI,.b (.cell [.d ty65,.d ty55,.d ty28,.d ty77] e),.b (.cell [.d .str,.d iT,.d iT,.d iT,.d iT,.d iT,.d (.list iT),.d ty12,.d iT,.d iT] e)] ⟨[2,3,5],[128,192],[]⟩ [xD .ret [sI] ⟨[4],[],[]⟩,xD (.exit 1) [sB 128 0,sB 192 0,.b (.cell [.d ty65,.d ty55,.d ty28,.d ty77] e),.b (.cell [.d .str,.d iT,.d iT,.d iT,.d iT,.d iT,.d (.list iT),.d ty12,.d iT,.d iT] e)] ⟨[2,3],[128,192],[]⟩] (Pw.u8 Pw.unc7 (Pw.j5Q))] 201 [.v ty83,.v ty71] [.v iT] [] (Pw.unc2 Pw.jfs) func201 [jii,jey,jfQ]
def jtC:CKt:=
 cQ tb {} [] 202 [.v ty83,.v ty41] [.v iT] [] (Pw.unc2 Pw.jhS) func202 [jii,jfQ]
def jlr:CKt:=
 cQ tb {} [lD 0 [sB 64 0,sO 1,sI,.b (.cell [.d ty65,.d ty55,.d ty28,.d ty77] e),.b (.lst 9 .str e)] ⟨[1,3,4],[64],[⟨1,9,.str,[.slot 3],e⟩]⟩ [xD .ret [sI] ⟨[2],[],[]⟩,xD (.exit 0) [] ⟨[],[],[]⟩] (Pw.unc6 (Pw.j3M)),lD 2 [sB 64 0,sO 2,sI,sB 320 0,sO 3,sI,.b (.cell [.d ty65,.d ty55,.d ty28,.d ty77] e),.b (.cell [.d .str,.d ty72,.d ty43] e),.b (.lst 9 .str e),.b (.lst 9 .str e)] ⟨[1,3,4,5,7,8],[64,320],[⟨2,9,.str,[.slot 3],e⟩,⟨3,9,.str,[.slot 7],e⟩]⟩ [xD .ret [sI] ⟨[2],[],[]⟩,xD (.exit 2) [sB 64 0,sO 4,sI,sB 320 0,.b (.cell [.d ty65,.d ty55,.d ty28,.d ty77] e),.b (.cell [.d .str,.d ty72,.d ty43] e),.b (.lst 9 .str e)] ⟨[1,3,4,5],[64,320],[⟨4,9,.str,[.slot 3],e⟩]⟩] (Pw.u8 Pw.unc3 (Pw.j3K)),lD 4 [sB 64 0,sO 5,sI,sB 320 0,sI,.b (.cell [.d ty65,.d ty55,.d ty28,.d ty77] e),.b (.cell [.d .str,.d ty72,.d ty43] e),.b (.lst 9 .str e)] ⟨[1,3,4,5,11],[64,320],[⟨5,9,.str,[.slot 3],e⟩]⟩ [xD .ret [sI] ⟨[2],[],[]⟩,xD (.exit 4) [sB 64 0,sO 6,sI,.b (.cell [.d ty65,.d ty55,.d ty28,.d ty77] e),.b (.lst 9 .str e)] ⟨[1,3,4],[64],[⟨6,9,.str,[.slot 3],e⟩]⟩] (Pw.u8 Pw.unc2 (Pw.j3L))] 140 [.v ty83] [.v iT] [] (λh=>Pw.jei h) func140 [jgc,jqS,jtC]
def jls:CKt:=
 cQ tb {} [] 87 [.v ty83] [.v iT] [] (λh=>Pw.jdM h) func87 [jqQ,jps,jlq,jlr]
def jye:CKt:=
 cQ tb {} [] 56 [.v ty83,.v iT,.v iT] [.v .bool] [] (Pw.unc3 Pw.jvD) func56 [jls]
end Go.Proofs.Pk
