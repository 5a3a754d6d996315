/- Contracts: each given function is its plain function, printed by a program. -/
import Derived.Test.YtlnljpfkgigljaaGreatPOCon7
open Bool renaming false->e
noncomputable section
open Go Go.Lft
set_option linter.unusedVariables false
set_option maxRecDepth 100000
namespace Go.Proofs.Pk
open Tryz
def j5u:CKt:=
 cQ tb {} [lD 0 [sD ty24,sC 40 [.p [ty24]],sI,sI] ⟨[0,1,7,8],[],[]⟩ [xD .ret [sI] ⟨[4],[],[]⟩,xD (.exit 0) [] ⟨[],[],[]⟩] (Pw.unc4 (Pw.j0f))] 78 [.v ty24,.clo 40 [.p [ty24]]] [.v iT] [] (Pw.unc2 Pw.j1q) func78 [jka]
def j4V:CKt:=
 cQ tb {} [] 39 [.v ty24,.clo 40 [.p [ty24]]] [.v .bool] [] (Pw.unc2 Pw.j0K) func39 [j5u]
def jbV:CKt:=
 cQ tb {} [] 13 [.v ty82,.v iT,.v iT,.v iT,.v iT] [.v .bool] [] (Pw.unc5 Pw.j3j) func13 [jgf,jmy,jhD,j4V]
def jeY:CKt:=
 cQ tb {} [] 29 [.v ty19,.ip [iT]] [.v .bool] [] (Pw.unc2 Pw.j7y) func29
def j8r:CKt:=
 cQ tb {} [lD 0 [sD ty24,sC 29 [.p [iT]],sI,sI] ⟨[0,1,7,8],[],[]⟩ [xD .ret [sI] ⟨[4],[],[]⟩,xD (.exit 0) [] ⟨[],[],[]⟩] (Pw.unc4 (Pw.j0F))] 28 [.v ty24,.clo 29 [.p [iT]]] [.v iT] [] (Pw.unc2 Pw.j2G) func28 [jeY]
def jeZ:CKt:=
 cQ tb {} [] 31 [.v ty6,.v ty6] [.v iT] [] (Pw.unc2 Pw.j17) func31
def j7a:FnD where
 N:=14
 np:=2
 cs:=[jeZ.1]
def j1J:CKt:=
 ⟨⟨30,[.rl 80 ty11,.clo 31 []],[ty11],⟨[],[.rl ty11]⟩,[ty11],λh=>Pw.j0g h⟩,jkq Tryz.sort30 (ty6) rfl 80 (by kernel_rfl) isAgg80 sizeOf80 _ 31 (enters_of func31 (by kernel_rfl) rfl) juc jud 30 rfl⟩
def j4p:CKt:=
 cQ tb {} [lD 0 [sI,sI,sI,sB 384 0,sO 1,sO 2,sI,sI,.b (.cell [.d ty64,.d ty54,.d ty27,.d ty76] e),.b (.lst 83 ty19 e),.b (.lst 80 ty6 e)] ⟨[1,2,3,6,15,17,49,50],[384],[⟨1,83,ty19,[.slot 15],e⟩,⟨2,80,ty6,[.slot 17],e⟩]⟩ [xD (.exit 0) [sO 3,.b (.lst 80 ty6 e)] ⟨[17],[],[⟨3,80,ty6,[.slot 17],e⟩]⟩] (Pw.u8 Pw.unc3 (Pw.j20)),lD 2 [sO 4,sO 5,sI,sI,.b (.lst 3 iT e),.b (.lst 80 ty6 e)] ⟨[21,80,81,82],[],[⟨4,3,iT,[.slot 21],e⟩,⟨5,80,ty6,[.slot 80],e⟩]⟩ [xD (.exit 2) [sO 6,.b (.lst 3 iT e)] ⟨[21],[],[⟨6,3,iT,[.slot 21],e⟩]⟩] (Pw.unc4 (Pw.j21))] 11 [.v ty82,.v iT,.v iT,.v iT,.v iT,.v ty25] [.own 3 (.list iT),.v iT] [] (Pw.unc6 Pw.j2T) func11 [jlG,jpZ,jbV,j8r,j1J]
def j9V:CKt:=
 cQ tb {dw:=[(6,dz [(11,[1088]),(0,[1088])]),(9,dz [(4,[768])])]} [] 15 [.v ty82,.v iT,.v iT,.v iT,.v iT,.v ty25] [.v ty82,.v iT,.v iT] [] (Pw.unc6 Pw.j9D) func15 [jgf,j4p]
def jmC:CKt:=
 cQ tb {} [] 82 [.v ty82,.v iT,.v iT,.v iT,.v iT] [.own 99 ty11,.v iT] [] (Pw.unc5 Pw.jjT) func82 [jav,j8K]
def jlT:CKt:=
 cQ tb {} [] 43 [.v ty82,.v iT,.v iT,.v iT] [.own 99 ty11,.v iT] [] (Pw.unc4 Pw.jid) func43 [jmC]
def jh2:CKt:=
 cQ tb {pre:=[(8,[.rl 1281,.da [(.cell 384 0,ty64),(.cell 384 1,ty54),(.cell 384 2,ty27),(.cell 384 3,ty76)]])]} [lD 0 [sI,sI,sD ty25,sB 384 0,sB 768 0,sO 1,sO 2,sI,sI,.b (.cell [.d ty64,.d ty54,.d ty27,.d ty76] e),.b (.cell [.nil,.nil,.nil,.nil] e),.b (.lst 99 ty6 e),.b (.lst 99 ty6 e)] ⟨[1,4,5,6,12,19,53,54,55],[384,768],[⟨1,99,ty6,[.slot 19],e⟩,⟨2,99,ty6,[.slot 53],e⟩]⟩ [xD (.exit 0) [sB 384 0,sB 768 0,sO 3,.b (.cell [.d ty64,.d ty54,.d ty27,.d ty76] e),.b (.cell [.nil,.nil,.nil,.nil] e),.b (.lst 99 ty6 e)] ⟨[6,12,19],[384,768],[⟨3,99,ty6,[.slot 19],e⟩]⟩] (Pw.u8 Pw.unc3 (Pw.jbw))] 18 [.v ty82,.v iT,.v iT,.v iT,.v iT,.v ty25] [.v ty82,.own 99 ty11,.v iT] [] (Pw.unc6 Pw.jjU) func18 [jlP,j4p,j9V,jlT]
def jrk:CKt:=
 cQ tb {} [] 318 [.v (.int .u8)] [.v .bool] [] (λh=>Pw.jlq h) func318
def jum:CKt:=
 cQ tb {} [lD 0 [sD .str,sI] ⟨[0,3],[],[]⟩ [xD .ret [sD .bool] ⟨[2],[],[]⟩,xD (.exit 0) [] ⟨[],[],[]⟩] (Pw.unc2 (Pw.j6I))] 283 [.v .str] [.v .bool] [] (λh=>Pw.jkr h) func283 [jrk]
def jgB:CKt:=
 cQ tb {} [lD 0 [sD (.list .str),sI,sI] ⟨[0,1,5],[],[]⟩ [xD .ret [sI] ⟨[4],[],[]⟩,xD (.exit 0) [] ⟨[],[],[]⟩] (Pw.unc3 (Pw.j6J))] 233 [.v (.list .str),.v iT] [.v iT] [] (Pw.unc2 Pw.jbL) func233 [jum]
def jgC:CKt:=
 cQ tb {} [] 129 [.v iT,.v iT,.v iT] [.v .bool] [] (Pw.unc3 Pw.j9E) func129
def jrl:CKt:=
 cQ tb {} [] 130 [.v ty53] [.v .bool] [] (λh=>Pw.jfO h) func130 [jgC]
def jun:CKt:=
 cQ tb {} [] 290 [.v iT] [.v .bool] [] (λh=>Pw.jks h) func290
def jjt:CKt:=
 cQ tb {} [] 245 [.v iT,.v iT] [.v iT] [] (Pw.unc2 Pw.jeJ) func245 [jun]
def jrm:CKt:=
 cQ tb {} [] 289 [.v ty19] [.v .bool] [] (λh=>Pw.jie h) func289 [jjt]
end Go.Proofs.Pk
