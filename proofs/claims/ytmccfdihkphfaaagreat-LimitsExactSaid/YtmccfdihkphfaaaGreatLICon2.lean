/- Contracts: each given function is its plain function, printed by a program. -/
import Derived.Test.YtmccfdihkphfaaaGreatLICon1
open Bool renaming false->e
noncomputable section
open Go Go.Lft
set_option linter.unusedVariables false
set_option maxRecDepth 100000
namespace Go.Proofs.Pk
open Tryz
def jfy:CKt:=
 cQ tb {} [] 256 [.v iT] [.v .bool] [] (λh=>Pw.j1N h) func256 [jnh]
def jds:CKt:=
 cQ tb {} [] 255 [.v iT] [.v .bool] [] (λh=>Pw.j4A h) func255 [jfy]
def jdt:CKt:=
 cQ tb {} [lD 0 [sD (.list iT),sC 255 [],sI,sI] ⟨[0,1,7,8],[],[]⟩ [xD .ret [sI] ⟨[4],[],[]⟩,xD (.exit 0) [] ⟨[],[],[]⟩] (Pw.unc3 (Pw.j0F))] 231 [.v (.list iT),.clo 255 []] [.v iT] [] (λh=>Pw.j4B h) func231 [jds]
def jc2:CKt:=
 cQ tb {} [] 254 [.v (.list iT),.clo 255 []] [.v .bool] [] (λh=>Pw.j1D h) func254 [jdt]
def jfz:CKt:=
 cQ tb {} [lD 1 [sB 192 0,sI,sI,.b (.cell [.d .str,.d iT,.d (.list iT)] e)] ⟨[3,25,26],[192],[]⟩ [xD .ret [sI] ⟨[4],[],[]⟩,xD (.exit 1) [] ⟨[],[],[]⟩] (Pw.unc5 (Pw.j0p))] 196 [.v ty85,.v ty26] [.v iT] [] (Pw.unc2 Pw.j29) func196 [j8z,jc2]
def jjt:CKt:=
 cQ tb {} [] 195 [.v ty26,.ip [ty67,ty57,ty31,ty79]] [.v iT] [] (Pw.unc5 Pw.j9n) func195 [jfz]
def jcy:CKt:=
 cQ tb {} [lD 0 [sC 194 [],sC 195 [.p [ty67,ty57,ty31,ty79]],sO 1,sD ty31,sI,sI,.b (.lst 4294967535 (.pair .str .bool) e)] ⟨[1,2,7,13,14,15],[],[⟨1,4294967535,(.pair .str .bool),[.slot 7],e⟩]⟩ [xD .ret [sI] ⟨[6],[],[]⟩,xD (.exit 0) [] ⟨[],[],[]⟩] (Pw.unc8 (Pw.j0T))] 193 [.v ty31,.clo 194 [],.clo 195 [.p [ty67,ty57,ty31,ty79]]] [.v iT] [] (Pw.unc5 Pw.j2m) func193 [j9f,jjr,jjt]
def jju:CKt:=
 cQ tb {} [] 198 [.v ty78] [.v .str] [] (λh=>Pw.j9o h) func198
def jdu:CKt:=
 cQ tb {} [] 258 [.v ty73] [.v .str] [] (λh=>Pw.j4C h) func258
def jfA:CKt:=
 cQ tb {} [] 311 [.v iT,.ip [ty67,ty57,ty31,ty79]] [.v .bool] [] (Pw.unc5 Pw.j5Z) func311 [j8z]
def jc3:CKt:=
 cQ tb {} [lD 0 [sD (.list iT),sC 311 [.p [ty67,ty57,ty31,ty79]],sI,sI] ⟨[0,1,7,8],[],[]⟩ [xD .ret [sI] ⟨[4],[],[]⟩,xD (.exit 0) [] ⟨[],[],[]⟩] (Pw.unc7 (Pw.j0q))] 231 [.v (.list iT),.clo 311 [.p [ty67,ty57,ty31,ty79]]] [.v iT] [] (Pw.unc5 Pw.j3m) func231 [jfA]
def jay:CKt:=
 cQ tb {} [] 254 [.v (.list iT),.clo 311 [.p [ty67,ty57,ty31,ty79]]] [.v .bool] [] (Pw.unc5 Pw.j1c) func254 [jc3]
def jhD:CKt:=
 cQ tb {} [] 260 [.v ty85,.v ty73] [.v iT] [] (Pw.unc2 Pw.j20) func260 [j8z,jkO,jgS,jfy,jay]
def jdv:CKt:=
 cQ tb {} [] 259 [.v ty73,.ip [ty67,ty57,ty31,ty79]] [.v iT] [] (Pw.unc5 Pw.j4D) func259 [jhD]
def jeg:CKt:=
 cQ tb {} [lD 0 [sC 258 [],sC 259 [.p [ty67,ty57,ty31,ty79]],sO 1,sD ty74,sI,sI,.b (.lst 4294967535 (.pair .str .bool) e)] ⟨[1,2,7,13,14,15],[],[⟨1,4294967535,(.pair .str .bool),[.slot 7],e⟩]⟩ [xD .ret [sI] ⟨[6],[],[]⟩,xD (.exit 0) [] ⟨[],[],[]⟩] (Pw.unc8 (Pw.j14))] 257 [.v ty74,.clo 258 [],.clo 259 [.p [ty67,ty57,ty31,ty79]]] [.v iT] [] (Pw.unc5 Pw.j3n) func257 [j9f,jdu,jdv]
def jiu:CKt:=
 cQ tb {} [] 261 [.v ty85,.v ty43] [.v iT] [] (Pw.unc2 Pw.j1F) func261 [j8z,jgS,jfy]
def jfB:CKt:=
 cQ tb {} [lD 0 [sB 128 0,sD ty45,sI,sI,.b (.cell [.d ty67,.d ty57,.d ty31,.d ty79] true)] ⟨[2,27,28,29],[128],[]⟩ [xD .ret [sI] ⟨[4],[],[]⟩,xD (.exit 0) [] ⟨[],[],[]⟩] (Pw.unc7 (Pw.j1k))] 200 [.v ty85,.v ty78] [.v iT] [] (Pw.unc2 Pw.j2a) func200 [jeg,jiu]
def jjv:CKt:=
 cQ tb {} [] 199 [.v ty78,.ip [ty67,ty57,ty31,ty79]] [.v iT] [] (Pw.unc5 Pw.j9p) func199 [jfB]
def jcz:CKt:=
 cQ tb {} [lD 0 [sC 198 [],sC 199 [.p [ty67,ty57,ty31,ty79]],sO 1,sD ty79,sI,sI,.b (.lst 4294967535 (.pair .str .bool) e)] ⟨[1,2,7,13,14,15],[],[⟨1,4294967535,(.pair .str .bool),[.slot 7],e⟩]⟩ [xD .ret [sI] ⟨[6],[],[]⟩,xD (.exit 0) [] ⟨[],[],[]⟩] (Pw.unc8 (Pw.j0U))] 197 [.v ty79,.clo 198 [],.clo 199 [.p [ty67,ty57,ty31,ty79]]] [.v iT] [] (Pw.unc5 Pw.j3N) func197 [j9f,jju,jjv]
def jmw:CKt:=
 cQ tb {} [lD 0 [sB 64 0,sO 1,sD ty57,sI,sI,.b (.cell [.d ty67,.d ty57,.d ty31,.d ty79] e),.b (.lst 4294967535 (.pair .str .bool) e)] ⟨[1,4,39,40,41],[64],[⟨1,4294967535,(.pair .str .bool),[.slot 4],e⟩]⟩ [xD .ret [sI] ⟨[2],[],[]⟩,xD (.exit 0) [sB 64 0,.b (.cell [.d ty67,.d ty57,.d ty31,.d ty79] e)] ⟨[1],[64],[]⟩] (Pw.unc8 (Pw.j30))] 129 [.v ty85] [.v iT] [] (λh=>Pw.j48 h) func129 [j9f,jeZ,jgT,jcy,jcz]
end Go.Proofs.Pk
