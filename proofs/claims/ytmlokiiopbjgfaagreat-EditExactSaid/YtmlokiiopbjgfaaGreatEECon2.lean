/- Contracts: each given function is its plain function, printed by a program. -/
import Derived.Test.YtmlokiiopbjgfaaGreatEECon1
open Bool renaming false->c
noncomputable section
open Go Go.Lft
set_option linter.unusedVariables false
set_option maxRecDepth 100000
namespace Go.Proofs.Pk
def jaU:CKt:=
 cQ tb {} [] 94 [.v iT] [.v .bool] [] (λh=>Pw.j2P h) Tryz.func94 [jgY]
def j9c:CKt:=
 cQ tb {} [] 93 [.v iT] [.v .bool] [] (λh=>Pw.j38 h) Tryz.func93 [jaU]
def j9d:CKt:=
 cQ tb {} [lD 0 [sD (.list iT),sC 93 [],sI,sI] ⟨[0,1,7,8],[],[]⟩ [xD .ret [sI] ⟨[4],[],[]⟩,xD (.exit 0) [] ⟨[],[],[]⟩] (Pw.unc3 (Pw.j0A))] 120 [.v (.list iT),.clo 93 []] [.v iT] [] (λh=>Pw.j39 h) Tryz.func120 [j9c]
def j8i:CKt:=
 cQ tb {} [] 92 [.v (.list iT),.clo 93 []] [.v .bool] [] (λh=>Pw.j18 h) Tryz.func92 [j9d]
def jaV:CKt:=
 cQ tb {} [lD 1 [sB 192 0,sI,sI,.b (.cell [.d .str,.d iT,.d (.list iT)] c)] ⟨[3,25,26],[192],[]⟩ [xD .ret [sI] ⟨[4],[],[]⟩,xD (.exit 1) [] ⟨[],[],[]⟩] (Pw.unc5 (Pw.j0o))] 60 [.v ty81,.v ty20] [.v iT] [] (Pw.unc2 Pw.j1t) Tryz.func60 [j5J,j8i]
def jdX:CKt:=
 cQ tb {} [] 59 [.v ty20,.ip [ty63,ty53,ty24,ty75]] [.v iT] [] (Pw.unc5 Pw.j6b) Tryz.func59 [jaV]
def j8y:CKt:=
 cQ tb {} [lD 0 [sC 58 [],sC 59 [.p [ty63,ty53,ty24,ty75]],sO 1,sD ty24,sI,sI,.b (.lst 4294967404 (.pair .str .bool) c)] ⟨[1,2,7,13,14,15],[],[⟨1,4294967404,(.pair .str .bool),[.slot 7],c⟩]⟩ [xD .ret [sI] ⟨[6],[],[]⟩,xD (.exit 0) [] ⟨[],[],[]⟩] (Pw.unc8 (Pw.j0C))] 57 [.v ty24,.clo 58 [],.clo 59 [.p [ty63,ty53,ty24,ty75]]] [.v iT] [] (Pw.unc5 Pw.j1C) Tryz.func57 [j62,jdW,jdX]
def jdY:CKt:=
 cQ tb {} [] 62 [.v ty74] [.v .str] [] (λh=>Pw.j6c h) Tryz.func62
def j9e:CKt:=
 cQ tb {} [] 96 [.v ty69] [.v .str] [] (λh=>Pw.j3a h) Tryz.func96
def jaW:CKt:=
 cQ tb {} [] 122 [.v iT,.ip [ty63,ty53,ty24,ty75]] [.v .bool] [] (Pw.unc5 Pw.j3X) Tryz.func122 [j5J]
def j8j:CKt:=
 cQ tb {} [lD 0 [sD (.list iT),sC 122 [.p [ty63,ty53,ty24,ty75]],sI,sI] ⟨[0,1,7,8],[],[]⟩ [xD .ret [sI] ⟨[4],[],[]⟩,xD (.exit 0) [] ⟨[],[],[]⟩] (Pw.unc7 (Pw.j0p))] 120 [.v (.list iT),.clo 122 [.p [ty63,ty53,ty24,ty75]]] [.v iT] [] (Pw.unc5 Pw.j2j) Tryz.func120 [jaW]
def j77:CKt:=
 cQ tb {} [] 92 [.v (.list iT),.clo 122 [.p [ty63,ty53,ty24,ty75]]] [.v .bool] [] (Pw.unc5 Pw.j0Q) Tryz.func92 [j8j]
def jct:CKt:=
 cQ tb {} [] 98 [.v ty81,.v ty69] [.v iT] [] (Pw.unc2 Pw.j1k) Tryz.func98 [j5J,jf8,jc1,jaU,j77]
def j9f:CKt:=
 cQ tb {} [] 97 [.v ty69,.ip [ty63,ty53,ty24,ty75]] [.v iT] [] (Pw.unc5 Pw.j3b) Tryz.func97 [jct]
def j9J:CKt:=
 cQ tb {} [lD 0 [sC 96 [],sC 97 [.p [ty63,ty53,ty24,ty75]],sO 1,sD ty70,sI,sI,.b (.lst 4294967404 (.pair .str .bool) c)] ⟨[1,2,7,13,14,15],[],[⟨1,4294967404,(.pair .str .bool),[.slot 7],c⟩]⟩ [xD .ret [sI] ⟨[6],[],[]⟩,xD (.exit 0) [] ⟨[],[],[]⟩] (Pw.unc8 (Pw.j0L))] 95 [.v ty70,.clo 96 [],.clo 97 [.p [ty63,ty53,ty24,ty75]]] [.v iT] [] (Pw.unc5 Pw.j2k) Tryz.func95 [j62,j9e,j9f]
def jd7:CKt:=
 cQ tb {} [] 99 [.v ty81,.v ty35] [.v iT] [] (Pw.unc2 Pw.j1a) Tryz.func99 [j5J,jc1,jaU]
def jaX:CKt:=
 cQ tb {} [lD 0 [sB 128 0,sD ty37,sI,sI,.b (.cell [.d ty63,.d ty53,.d ty24,.d ty75] true)] ⟨[2,27,28,29],[128],[]⟩ [xD .ret [sI] ⟨[4],[],[]⟩,xD (.exit 0) [] ⟨[],[],[]⟩] (Pw.unc7 (Pw.j0V))] 64 [.v ty81,.v ty74] [.v iT] [] (Pw.unc2 Pw.j1u) Tryz.func64 [j9J,jd7]
def jdZ:CKt:=
 cQ tb {} [] 63 [.v ty74,.ip [ty63,ty53,ty24,ty75]] [.v iT] [] (Pw.unc5 Pw.j6d) Tryz.func63 [jaX]
def j8z:CKt:=
 cQ tb {} [lD 0 [sC 62 [],sC 63 [.p [ty63,ty53,ty24,ty75]],sO 1,sD ty75,sI,sI,.b (.lst 4294967404 (.pair .str .bool) c)] ⟨[1,2,7,13,14,15],[],[⟨1,4294967404,(.pair .str .bool),[.slot 7],c⟩]⟩ [xD .ret [sI] ⟨[6],[],[]⟩,xD (.exit 0) [] ⟨[],[],[]⟩] (Pw.unc8 (Pw.j0D))] 61 [.v ty75,.clo 62 [],.clo 63 [.p [ty63,ty53,ty24,ty75]]] [.v iT] [] (Pw.unc5 Pw.j2I) Tryz.func61 [j62,jdY,jdZ]
def j37:CKt:=
 cQ tb {} [lD 0 [sB 64 0,sO 1,sD ty53,sI,sI,.b (.cell [.d ty63,.d ty53,.d ty24,.d ty75] c),.b (.lst 4294967404 (.pair .str .bool) c)] ⟨[1,4,39,40,41],[64],[⟨1,4294967404,(.pair .str .bool),[.slot 4],c⟩]⟩ [xD .ret [sI] ⟨[2],[],[]⟩,xD (.exit 0) [sB 64 0,.b (.cell [.d ty63,.d ty53,.d ty24,.d ty75] c)] ⟨[1],[64],[]⟩] (Pw.unc8 (Pw.j2X))] 37 [.v ty81] [.v iT] [] (λh=>Pw.j03 h) Tryz.func37 [j62,jaf,jc2,j8y,j8z]
end Go.Proofs.Pk
