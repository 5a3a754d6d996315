/- Contracts: each given function is its plain function, printed by a program. -/
import Derived.Test.YtlnljpfkgigljaaGreatPOCon1
open Bool renaming false->e
noncomputable section
open Go Go.Lft
set_option linter.unusedVariables false
set_option maxRecDepth 100000
namespace Go.Proofs.Pk
open Tryz
def jbk:CKt:=
 cQ tb {} [] 151 [.v (.list iT),.clo 152 []] [.v .bool] [] (λh=>Pw.j4F h) func151 [jcQ]
def jeU:CKt:=
 cQ tb {} [lD 1 [sB 192 0,sI,sI,.b (.cell [.d .str,.d iT,.d (.list iT)] e)] ⟨[3,25,26],[192],[]⟩ [xD .ret [sI] ⟨[4],[],[]⟩,xD (.exit 1) [] ⟨[],[],[]⟩] (Pw.unc5 (Pw.j1B))] 100 [.v ty82,.v ty22] [.v iT] [] (Pw.unc2 Pw.j3z) func100 [j7J,jbk]
def jiy:CKt:=
 cQ tb {} [] 99 [.v ty22,.ip [ty64,ty54,ty27,ty76]] [.v iT] [] (Pw.unc5 Pw.jbd) func99 [jeU]
def jbS:CKt:=
 cQ tb {} [lD 0 [sC 98 [],sC 99 [.p [ty64,ty54,ty27,ty76]],sO 1,sD ty27,sI,sI,.b (.lst 4294967479 (.pair .str .bool) e)] ⟨[1,2,7,13,14,15],[],[⟨1,4294967479,(.pair .str .bool),[.slot 7],e⟩]⟩ [xD .ret [sI] ⟨[6],[],[]⟩,xD (.exit 0) [] ⟨[],[],[]⟩] (Pw.unc8 (Pw.j12))] 97 [.v ty27,.clo 98 [],.clo 99 [.p [ty64,ty54,ty27,ty76]]] [.v iT] [] (Pw.unc5 Pw.j37) func97 [j8k,jiw,jiy]
def jiz:CKt:=
 cQ tb {} [] 102 [.v ty75] [.v .str] [] (λh=>Pw.jbe h) func102
def jcR:CKt:=
 cQ tb {} [] 155 [.v ty70] [.v .str] [] (λh=>Pw.j5H h) func155
def jeV:CKt:=
 cQ tb {} [] 210 [.v iT,.ip [ty64,ty54,ty27,ty76]] [.v .bool] [] (Pw.unc5 Pw.j7p) func210 [j7J]
def jbl:CKt:=
 cQ tb {} [lD 0 [sD (.list iT),sC 210 [.p [ty64,ty54,ty27,ty76]],sI,sI] ⟨[0,1,7,8],[],[]⟩ [xD .ret [sI] ⟨[4],[],[]⟩,xD (.exit 0) [] ⟨[],[],[]⟩] (Pw.unc7 (Pw.j0W))] 208 [.v (.list iT),.clo 210 [.p [ty64,ty54,ty27,ty76]]] [.v iT] [] (Pw.unc5 Pw.j4G) func208 [jeV]
def j9W:CKt:=
 cQ tb {} [] 151 [.v (.list iT),.clo 210 [.p [ty64,ty54,ty27,ty76]]] [.v .bool] [] (Pw.unc5 Pw.j3B) func151 [jbl]
def jgK:CKt:=
 cQ tb {} [] 157 [.v ty82,.v ty70] [.v iT] [] (Pw.unc2 Pw.j52) func157 [j7J,jg6,jg7,jeS,j9W]
def jcS:CKt:=
 cQ tb {} [] 156 [.v ty70,.ip [ty64,ty54,ty27,ty76]] [.v iT] [] (Pw.unc5 Pw.j5I) func156 [jgK]
def jdD:CKt:=
 cQ tb {} [lD 0 [sC 155 [],sC 156 [.p [ty64,ty54,ty27,ty76]],sO 1,sD ty71,sI,sI,.b (.lst 4294967479 (.pair .str .bool) e)] ⟨[1,2,7,13,14,15],[],[⟨1,4294967479,(.pair .str .bool),[.slot 7],e⟩]⟩ [xD .ret [sI] ⟨[6],[],[]⟩,xD (.exit 0) [] ⟨[],[],[]⟩] (Pw.unc8 (Pw.j1n))] 154 [.v ty71,.clo 155 [],.clo 156 [.p [ty64,ty54,ty27,ty76]]] [.v iT] [] (Pw.unc5 Pw.j4r) func154 [j8k,jcR,jcS]
def jhB:CKt:=
 cQ tb {} [] 158 [.v ty82,.v ty40] [.v iT] [] (Pw.unc2 Pw.j5J) func158 [j7J,jg7,jeS]
def jeW:CKt:=
 cQ tb {} [lD 0 [sB 128 0,sD ty42,sI,sI,.b (.cell [.d ty64,.d ty54,.d ty27,.d ty76] true)] ⟨[2,27,28,29],[128],[]⟩ [xD .ret [sI] ⟨[4],[],[]⟩,xD (.exit 0) [] ⟨[],[],[]⟩] (Pw.unc7 (Pw.j1C))] 104 [.v ty82,.v ty75] [.v iT] [] (Pw.unc2 Pw.j3C) func104 [jdD,jhB]
def jiA:CKt:=
 cQ tb {} [] 103 [.v ty75,.ip [ty64,ty54,ty27,ty76]] [.v iT] [] (Pw.unc5 Pw.jbf) func103 [jeW]
def jbT:CKt:=
 cQ tb {} [lD 0 [sC 102 [],sC 103 [.p [ty64,ty54,ty27,ty76]],sO 1,sD ty76,sI,sI,.b (.lst 4294967479 (.pair .str .bool) e)] ⟨[1,2,7,13,14,15],[],[⟨1,4294967479,(.pair .str .bool),[.slot 7],e⟩]⟩ [xD .ret [sI] ⟨[6],[],[]⟩,xD (.exit 0) [] ⟨[],[],[]⟩] (Pw.unc8 (Pw.j13))] 101 [.v ty76,.clo 102 [],.clo 103 [.p [ty64,ty54,ty27,ty76]]] [.v iT] [] (Pw.unc5 Pw.j4U) func101 [j8k,jiz,jiA]
def j9T:CKt:=
 cQ tb {} [lD 0 [sB 64 0,sO 1,sD ty54,sI,sI,.b (.cell [.d ty64,.d ty54,.d ty27,.d ty76] e),.b (.lst 4294967479 (.pair .str .bool) e)] ⟨[1,4,39,40,41],[64],[⟨1,4294967479,(.pair .str .bool),[.slot 4],e⟩]⟩ [xD .ret [sI] ⟨[2],[],[]⟩,xD (.exit 0) [sB 64 0,.b (.cell [.d ty64,.d ty54,.d ty27,.d ty76] e)] ⟨[1],[64],[]⟩] (Pw.unc8 (Pw.j3D))] 46 [.v ty82] [.v iT] [] (λh=>Pw.j2N h) func46 [j8k,jeh,jg8,jbS,jbT]
def jeX:CKt:=
 cQ tb {} [] 47 [.v ty82,.v iT] [.v .bool] [] (Pw.unc2 Pw.j8P) func47
def jlG:CKt:=
 cQ tb {} [] 26 [.v ty82,.v iT,.v iT,.v iT] [.v iT] [] (Pw.unc4 Pw.jeG) func26 [j9T,jeX]
def jlH:CKt:=
 cQ tb {} [] 50 [.v ty63] [.v ty26,.v iT] [] (λh=>Pw.jhh h) func50 [jdw]
end Go.Proofs.Pk
