/- Contracts: each given function is its plain function, printed by a program. -/
import Derived.Test.YtgepoeafaklbjaaGreatPFCon1
open Bool renaming false->e
noncomputable section
open Go Go.Lft
set_option linter.unusedVariables false
set_option maxRecDepth 100000
namespace Go.Proofs.Pk
open Tryz
def jb0:CKt:=
 cQ tb {} [] 149 [.v (.list iT),.clo 150 []] [.v .bool] [] (λh=>Pw.j4A h) func149 [jcp]
def jer:CKt:=
 cQ tb {} [lD 1 [sB 192 0,sI,sI,.b (.cell [.d .str,.d iT,.d (.list iT)] e)] ⟨[3,25,26],[192],[]⟩ [xD .ret [sI] ⟨[4],[],[]⟩,xD (.exit 1) [] ⟨[],[],[]⟩] (Pw.unc5 (Pw.j1z))] 99 [.v ty83,.v ty23] [.v iT] [] (Pw.unc2 Pw.j3t) func99 [j7A,jb0]
def ji7:CKt:=
 cQ tb {} [] 98 [.v ty23,.ip [ty65,ty55,ty28,ty77]] [.v iT] [] (Pw.unc5 Pw.jaU) func98 [jer]
def jbt:CKt:=
 cQ tb {} [lD 0 [sC 97 [],sC 98 [.p [ty65,ty55,ty28,ty77]],sO 1,sD ty28,sI,sI,.b (.lst 4294967477 (.pair .str .bool) e)] ⟨[1,2,7,13,14,15],[],[⟨1,4294967477,(.pair .str .bool),[.slot 7],e⟩]⟩ [xD .ret [sI] ⟨[6],[],[]⟩,xD (.exit 0) [] ⟨[],[],[]⟩] (Pw.unc8 (Pw.j10))] 96 [.v ty28,.clo 97 [],.clo 98 [.p [ty65,ty55,ty28,ty77]]] [.v iT] [] (Pw.unc5 Pw.j34) func96 [j88,ji5,ji7]
def ji8:CKt:=
 cQ tb {} [] 101 [.v ty76] [.v .str] [] (λh=>Pw.j8l h) func101
def jcq:CKt:=
 cQ tb {} [] 153 [.v ty71] [.v .str] [] (λh=>Pw.j5B h) func153
def jes:CKt:=
 cQ tb {} [] 210 [.v iT,.ip [ty65,ty55,ty28,ty77]] [.v .bool] [] (Pw.unc5 Pw.j7i) func210 [j7A]
def jb1:CKt:=
 cQ tb {} [lD 0 [sD (.list iT),sC 210 [.p [ty65,ty55,ty28,ty77]],sI,sI] ⟨[0,1,7,8],[],[]⟩ [xD .ret [sI] ⟨[4],[],[]⟩,xD (.exit 0) [] ⟨[],[],[]⟩] (Pw.unc7 (Pw.j0T))] 208 [.v (.list iT),.clo 210 [.p [ty65,ty55,ty28,ty77]]] [.v iT] [] (Pw.unc5 Pw.j4B) func208 [jes]
def j9G:CKt:=
 cQ tb {} [] 149 [.v (.list iT),.clo 210 [.p [ty65,ty55,ty28,ty77]]] [.v .bool] [] (Pw.unc5 Pw.j3v) func149 [jb1]
def jgk:CKt:=
 cQ tb {} [] 155 [.v ty83,.v ty71] [.v iT] [] (Pw.unc2 Pw.j4Y) func155 [j7A,jfF,jfG,jep,j9G]
def jcr:CKt:=
 cQ tb {} [] 154 [.v ty71,.ip [ty65,ty55,ty28,ty77]] [.v iT] [] (Pw.unc5 Pw.j5C) func154 [jgk]
def jdf:CKt:=
 cQ tb {} [lD 0 [sC 153 [],sC 154 [.p [ty65,ty55,ty28,ty77]],sO 1,sD ty72,sI,sI,.b (.lst 4294967477 (.pair .str .bool) e)] ⟨[1,2,7,13,14,15],[],[⟨1,4294967477,(.pair .str .bool),[.slot 7],e⟩]⟩ [xD .ret [sI] ⟨[6],[],[]⟩,xD (.exit 0) [] ⟨[],[],[]⟩] (Pw.unc8 (Pw.j1l))] 152 [.v ty72,.clo 153 [],.clo 154 [.p [ty65,ty55,ty28,ty77]]] [.v iT] [] (Pw.unc5 Pw.j4k) func152 [j88,jcq,jcr]
def jh8:CKt:=
 cQ tb {} [] 156 [.v ty83,.v ty41] [.v iT] [] (Pw.unc2 Pw.j5D) func156 [j7A,jfG,jep]
def jet:CKt:=
 cQ tb {} [lD 0 [sB 128 0,sD ty43,sI,sI,.b (.cell [.d ty65,.d ty55,.d ty28,.d ty77] true)] ⟨[2,27,28,29],[128],[]⟩ [xD .ret [sI] ⟨[4],[],[]⟩,xD (.exit 0) [] ⟨[],[],[]⟩] (Pw.unc7 (Pw.j1A))] 103 [.v ty83,.v ty76] [.v iT] [] (Pw.unc2 Pw.j1p) func103 [jdf,jh8]
def ji9:CKt:=
 cQ tb {} [] 102 [.v ty76,.ip [ty65,ty55,ty28,ty77]] [.v iT] [] (Pw.unc5 Pw.j8m) func102 [jet]
def jbu:CKt:=
 cQ tb {} [lD 0 [sC 101 [],sC 102 [.p [ty65,ty55,ty28,ty77]],sO 1,sD ty77,sI,sI,.b (.lst 4294967477 (.pair .str .bool) e)] ⟨[1,2,7,13,14,15],[],[⟨1,4294967477,(.pair .str .bool),[.slot 7],e⟩]⟩ [xD .ret [sI] ⟨[6],[],[]⟩,xD (.exit 0) [] ⟨[],[],[]⟩] (Pw.unc8 (Pw.j0I))] 100 [.v ty77,.clo 101 [],.clo 102 [.p [ty65,ty55,ty28,ty77]]] [.v iT] [] (Pw.unc5 Pw.j36) func100 [j88,ji8,ji9]
def j9E:CKt:=
 cQ tb {} [lD 0 [sB 64 0,sO 1,sD ty55,sI,sI,.b (.cell [.d ty65,.d ty55,.d ty28,.d ty77] e),.b (.lst 4294967477 (.pair .str .bool) e)] ⟨[1,4,39,40,41],[64],[⟨1,4294967477,(.pair .str .bool),[.slot 4],e⟩]⟩ [xD .ret [sI] ⟨[2],[],[]⟩,xD (.exit 0) [sB 64 0,.b (.cell [.d ty65,.d ty55,.d ty28,.d ty77] e)] ⟨[1],[64],[]⟩] (Pw.unc8 (Pw.j3w))] 59 [.v ty83] [.v iT] [] (λh=>Pw.j1R h) func59 [j88,jdR,jfH,jbt,jbu]
def jeu:CKt:=
 cQ tb {} [] 60 [.v ty83,.v iT] [.v .bool] [] (Pw.unc2 Pw.j8D) func60
def jlb:CKt:=
 cQ tb {} [] 32 [.v ty83,.v iT,.v iT,.v iT] [.v iT] [] (Pw.unc4 Pw.jed) func32 [j9E,jeu]
def jlc:CKt:=
 cQ tb {} [] 63 [.v ty64] [.v ty27,.v iT] [] (λh=>Pw.jgQ h) func63 [jd5]
end Go.Proofs.Pk
