/- Contracts: each given function is its plain function, printed by a program. -/
import Derived.Test.YtgepoeafaklbjaaGreatPFCon7
open Bool renaming false->e
noncomputable section
open Go Go.Lft
set_option linter.unusedVariables false
set_option maxRecDepth 100000
namespace Go.Proofs.Pk
open Tryz
def j5o:CKt:=
 cQ tb {} [lD 0 [sD ty25,sC 41 [.p [ty25]],sI,sI] ⟨[0,1,7,8],[],[]⟩ [xD .ret [sI] ⟨[4],[],[]⟩,xD (.exit 0) [] ⟨[],[],[]⟩] (Pw.unc4 (Pw.j0e))] 83 [.v ty25,.clo 41 [.p [ty25]]] [.v iT] [] (Pw.unc2 Pw.j1n) func83 [jjG]
def j4P:CKt:=
 cQ tb {} [] 40 [.v ty25,.clo 41 [.p [ty25]]] [.v .bool] [] (Pw.unc2 Pw.j0H) func40 [j5o]
def jev:CKt:=
 cQ tb {} [] 17 [.v ty83,.v iT,.v iT,.v iT,.v iT] [.v .bool] [] (Pw.unc5 Pw.j5k) func17 [jfO,jm1,jha,j4P]
def jew:CKt:=
 cQ tb {} [] 35 [.v ty20,.ip [iT]] [.v .bool] [] (Pw.unc2 Pw.j7p) func35
def j8f:CKt:=
 cQ tb {} [lD 0 [sD ty25,sC 35 [.p [iT]],sI,sI] ⟨[0,1,7,8],[],[]⟩ [xD .ret [sI] ⟨[4],[],[]⟩,xD (.exit 0) [] ⟨[],[],[]⟩] (Pw.unc4 (Pw.j0C))] 34 [.v ty25,.clo 35 [.p [iT]]] [.v iT] [] (Pw.unc2 Pw.j2C) func34 [jew]
def jex:CKt:=
 cQ tb {} [] 37 [.v ty7,.v ty7] [.v iT] [] (Pw.unc2 Pw.j15) func37
def j74:FnD where
 N:=14
 np:=2
 cs:=[jex.1]
def j1I:CKt:=
 ⟨⟨36,[.rl 92 ty12,.clo 37 []],[ty12],⟨[],[.rl ty12]⟩,[ty12],λh=>Pw.j0f h⟩,jjW Tryz.sort36 (ty7) rfl 92 (by kernel_rfl) isAgg92 sizeOf92 _ 37 (enters_of func37 (by kernel_rfl) rfl) jto jtp 36 rfl⟩
def j5v:CKt:=
 cQ tb {} [lD 0 [sI,sI,sI,sB 384 0,sO 1,sO 2,sI,sI,.b (.cell [.d ty65,.d ty55,.d ty28,.d ty77] e),.b (.lst 95 ty20 e),.b (.lst 92 ty7 e)] ⟨[1,2,3,6,15,17,49,50],[384],[⟨1,95,ty20,[.slot 15],e⟩,⟨2,92,ty7,[.slot 17],e⟩]⟩ [xD (.exit 0) [sO 3,.b (.lst 92 ty7 e)] ⟨[17],[],[⟨3,92,ty7,[.slot 17],e⟩]⟩] (Pw.u8 Pw.unc3 (Pw.j1Z)),lD 2 [sO 4,sO 5,sI,sI,.b (.lst 3 iT e),.b (.lst 92 ty7 e)] ⟨[21,80,81,82],[],[⟨4,3,iT,[.slot 21],e⟩,⟨5,92,ty7,[.slot 80],e⟩]⟩ [xD (.exit 2) [sO 6,.b (.lst 3 iT e)] ⟨[21],[],[⟨6,3,iT,[.slot 21],e⟩]⟩] (Pw.unc4 (Pw.j20))] 16 [.v ty83,.v iT,.v iT,.v iT,.v iT,.v ty26] [.own 3 (.list iT),.v iT] [] (Pw.unc6 Pw.j3V) func16 [jlb,jpq,jev,j8f,j1I]
def jcl:CKt:=
 cQ tb {dw:=[(6,dz [(11,[1088]),(0,[1088])]),(9,dz [(4,[768])])]} [] 15 [.v ty83,.v iT,.v iT,.v iT,.v iT,.v ty26] [.v ty83,.v iT,.v iT] [] (Pw.unc6 Pw.j7L) func15 [jfO,j5v]
def jm5:CKt:=
 cQ tb {} [] 45 [.v ty83,.v iT,.v iT,.v iT,.v iT] [.own 42 ty12,.v iT] [] (Pw.unc5 Pw.jfn) func45 [jag,j8y]
def jlo:CKt:=
 cQ tb {} [] 25 [.v ty83,.v iT,.v iT,.v iT] [.own 42 ty12,.v iT] [] (Pw.unc4 Pw.j9p) func25 [jm5]
def jdh:CKt:=
 cQ tb {pre:=[(8,[.rl 1281,.da [(.cell 384 0,ty65),(.cell 384 1,ty55),(.cell 384 2,ty28),(.cell 384 3,ty77)]])]} [lD 0 [sI,sI,sD ty26,sB 384 0,sB 768 0,sO 1,sO 2,sI,sI,.b (.cell [.d ty65,.d ty55,.d ty28,.d ty77] e),.b (.cell [.nil,.nil,.nil,.nil] e),.b (.lst 42 ty7 e),.b (.lst 42 ty7 e)] ⟨[1,4,5,6,12,19,53,54,55],[384,768],[⟨1,42,ty7,[.slot 19],e⟩,⟨2,42,ty7,[.slot 53],e⟩]⟩ [xD (.exit 0) [sB 384 0,sB 768 0,sO 3,.b (.cell [.d ty65,.d ty55,.d ty28,.d ty77] e),.b (.cell [.nil,.nil,.nil,.nil] e),.b (.lst 42 ty7 e)] ⟨[6,12,19],[384,768],[⟨3,42,ty7,[.slot 19],e⟩]⟩] (Pw.u8 Pw.unc3 (Pw.j4f))] 9 [.v ty83,.v iT,.v iT,.v iT,.v iT,.v ty26] [.v ty83,.own 42 ty12,.v iT] [] (Pw.unc6 Pw.jcW) func9 [jlk,j5v,jcl,jlo]
def jqN:CKt:=
 cQ tb {} [] 290 [.v (.int .u8)] [.v .bool] [] (λh=>Pw.jkX h) func290
def jtA:CKt:=
 cQ tb {} [lD 0 [sD .str,sI] ⟨[0,3],[],[]⟩ [xD .ret [sD .bool] ⟨[2],[],[]⟩,xD (.exit 0) [] ⟨[],[],[]⟩] (Pw.unc2 (Pw.j6A))] 244 [.v .str] [.v .bool] [] (λh=>Pw.jjX h) func244 [jqN]
def jgc:CKt:=
 cQ tb {} [lD 0 [sD (.list .str),sI,sI] ⟨[0,1,5],[],[]⟩ [xD .ret [sI] ⟨[4],[],[]⟩,xD (.exit 0) [] ⟨[],[],[]⟩] (Pw.unc3 (Pw.j6B))] 194 [.v (.list .str),.v iT] [.v iT] [] (Pw.unc2 Pw.jbm) func194 [jtA]
def jgd:CKt:=
 cQ tb {} [] 286 [.v iT,.v iT,.v iT] [.v .bool] [] (Pw.unc3 Pw.j9r) func286
def jqO:CKt:=
 cQ tb {} [] 287 [.v ty54] [.v .bool] [] (λh=>Pw.jfo h) func287 [jgd]
def jtB:CKt:=
 cQ tb {} [] 337 [.v iT] [.v .bool] [] (λh=>Pw.jjY h) func337
def jj0:CKt:=
 cQ tb {} [] 333 [.v iT,.v iT] [.v iT] [] (Pw.unc2 Pw.jeg) func333 [jtB]
def jqP:CKt:=
 cQ tb {} [] 336 [.v ty20] [.v .bool] [] (λh=>Pw.jhM h) func336 [jj0]
end Go.Proofs.Pk
