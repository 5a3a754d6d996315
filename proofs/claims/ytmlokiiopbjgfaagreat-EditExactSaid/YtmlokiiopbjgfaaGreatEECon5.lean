/- Contracts: each given function is its plain function, printed by a program. -/
import Derived.Test.YtmlokiiopbjgfaaGreatEECon4
open Bool renaming false->c
noncomputable section
open Go Go.Lft
set_option linter.unusedVariables false
set_option maxRecDepth 100000
namespace Go.Proofs.Pk
def jd9:CKt:=
 cQ tb {} [] 148 [.v ty23,.v iT] [.v iT] [] (Pw.unc2 Pw.j5O) Tryz.func148 [j9C,j92]
def jk2:CKt:=
 cQ tb {} [] 147 [.v iT] [.v ty6] [] (λh=>Pw.jcg h) Tryz.func147
def j9D:CKt:=
 cQ tb {} [] 129 [.v ty23,.v iT] [.v ty6] [] (Pw.unc2 Pw.j0N) Tryz.func129 [jd9,jk2]
def jgs:CKt:=
 cQ tb {} [lD 0 [sI,sB 192 0,sB 256 0,sI,.b (.cell [.d iT,.d ty10] c),.b (.cell [.d .str,.d iT,.d iT,.d iT,.d iT,.d iT,.d (.list iT),.d ty10,.d iT,.d iT] c)] ⟨[2,3,4,9],[192,256],[]⟩ [xD (.exit 0) [sI,sB 192 0,sB 256 0,sI,.b (.cell [.d iT,.d ty10] c),.b (.cell [.d .str,.d iT,.d iT,.d iT,.d iT,.d iT,.d (.list iT),.d ty10,.d iT,.d iT] c)] ⟨[2,3,4,9],[192,256],[]⟩] (Pw.u8 Pw.unc6 (Pw.j2Y)),lD 2 [sI,sB 192 0,sB 256 0,sI,.b (.cell [.d iT,.d ty10] c),.b (.cell [.d .str,.d iT,.d iT,.d iT,.d iT,.d iT,.d (.list iT),.d ty10,.d iT,.d iT] c)] ⟨[2,3,4,9],[192,256],[]⟩ [xD .ret [sI] ⟨[6],[],[]⟩] (Pw.u8 Pw.unc6 (Pw.j4a))] 126 [.v ty23,.v ty69,.v iT] [.v iT] [] (Pw.unc3 Pw.j4b) Tryz.func126 [jfc,je1,j9D]
def jgt:CKt:=
 cQ tb {} [] 128 [.v ty6] [.v iT] [] (λh=>Pw.j3y h) Tryz.func128 [jc0]
def jnn:CKt:=
 cQ tb {} [lD 0 [sI,sD ty10,sI,sI] ⟨[1,7,8,9],[],[]⟩ [xD .ret [sD .bool] ⟨[4],[],[]⟩,xD (.exit 0) [] ⟨[],[],[]⟩] (Pw.unc4 (Pw.j4U))] 127 [.v ty10,.v iT] [.v .bool] [] (Pw.unc2 Pw.jfz) Tryz.func127
def jgu:CKt:=
 cQ tb {} [] 167 [.v iT] [.v .bool] [] (λh=>Pw.j8t h) Tryz.func167
def jh3:CKt:=
 cQ tb {} [] 149 [.v iT,.v iT] [.v .bool] [] (Pw.unc2 Pw.j9w) Tryz.func149 [jgu]
def je2:CKt:=
 cQ tb {} [] 150 [.v iT] [.v .bool] [] (λh=>Pw.j6g h) Tryz.func150
def j8k:CKt:=
 cQ tb {} [lD 0 [sD (.list iT),sI,sI,sI,sI] ⟨[0,1,6,7,8],[],[]⟩ [xD (.exit 0) [sD (.list iT),sI,sI,sI] ⟨[0,1,6,7],[],[]⟩] (Pw.unc5 (Pw.j1d))] 130 [.v (.list iT),.v iT] [.v iT,.v .bool] [] (Pw.unc2 Pw.j1v) Tryz.func130 [jh3,je2]
def jh4:CKt:=
 cQ tb {} [] 111 [.v ty85,.v ty69,.v iT] [.v iT,.v .bool] [] (Pw.unc3 Pw.j3D) Tryz.func111 [j9D,jgs,jgt,jnn,j8k]
def je3:CKt:=
 cQ tb {} [] 72 [.v ty85,.v ty69,.v iT] [.v iT] [] (Pw.unc3 Pw.j1S) Tryz.func72 [jh4]
def jgv:CKt:=
 cQ tb {} [] 113 [.v ty35,.ip [iT],.ip [iT]] [.v .bool] [] (Pw.unc3 Pw.jaG) Tryz.func113
def j65:CKt:=
 cQ tb {} [lD 0 [sD ty37,sC 113 [.p [iT],.p [iT]],sI,sI] ⟨[0,1,7,8],[],[]⟩ [xD .ret [sI] ⟨[4],[],[]⟩,xD (.exit 0) [] ⟨[],[],[]⟩] (Pw.unc5 (Pw.j0z))] 131 [.v ty37,.clo 113 [.p [iT],.p [iT]]] [.v iT] [] (Pw.unc3 Pw.j2b) Tryz.func131 [jgv]
def j5K:CKt:=
 cQ tb {} [] 112 [.v ty37,.clo 113 [.p [iT],.p [iT]]] [.v .bool] [] (Pw.unc3 Pw.j1D) Tryz.func112 [j65]
def jk3:CKt:=
 cQ tb {} [] 73 [.v ty74,.v iT,.v iT] [.v .bool] [] (Pw.unc3 Pw.jch) Tryz.func73 [j5K]
theorem jqL:ItOK Tryz.prog 110 c (ty69):=juF <| jtZ jeK Tryz.func110 (fn:=Tryz.f110) (A0:=bwA Tryz.f110 0) (A1:=bwA Tryz.f110 1) (A2:=bwA Tryz.f110 2) (A3:=bwA Tryz.f110 3) (by kernel_rfl) (by kernel_rfl) (by kernel_rfl) (by kernel_rfl) (by kernel_rfl) (by kernel_rfl) (by kernel_rfl) (by kernel_rfl) (by kernel_rfl) (by kernel_rfl) (by kernel_rfl) ⟨(by kernel_rfl),(by kernel_rfl)⟩
 (λxs=>by kernel_rfl) (λi=>by kernel_rfl) (λi=>by kernel_rfl) (λxs i=>by kernel_rfl) (λb i=>by kernel_rfl)
def jgw:CKt:=
 cQ tb {bw:=[(110,c,ty69)]} [lD 0 [sI,sB 192 0,sB 256 0,sB 320 0,sB 384 0,sB 448 0,sC 110 [.p [ty70]],.b (.cell [.d ty63,.d ty53,.d ty24,.d ty75,.d ty27] c),.b (.cell [.d .str,.d ty70,.d ty37] c),.b (.cell [.d iT] c),.b (.cell [.d iT] c),.b (.cell [.d iT] c)] ⟨[3,4,5,6,7,13],[192,256,320,384,448],[]⟩ [xD .normal [sB 384 0,sB 448 0,.b (.cell [.d iT] c),.b (.cell [.d iT] c)] ⟨[6,7],[384,448],[]⟩,xD .ret [sB 384 0,sB 448 0,.b (.cell [.d iT] c),.b (.cell [.d iT] c)] ⟨[6,7],[384,448],[]⟩] (Pw.u8 Pw.unc5 (Pw.j30))] 49 [.v ty85,.v ty74,.v iT] [.v iT,.v iT] [] (Pw.unc3 Pw.j5P) Tryz.func49 [j5W,je3,jk3] (hbw:=(And.intro jqL trivial))
def je4:CKt:=
 cQ tb {} [] 45 [.v ty35,.v iT] [.v .bool] [] (Pw.unc2 Pw.j6q) Tryz.func45
def jgx:CKt:=
 cQ tb {} [lD 0 [sI,sI,sD ty37,sI,sI] ⟨[1,2,9,10,11],[],[]⟩ [xD (.exit 0) [sI] ⟨[1],[],[]⟩] (Pw.unc5 (Pw.j4s))] 22 [.v ty37,.v iT,.v iT] [.v iT] [] (Pw.unc3 Pw.jbN) Tryz.func22 [je4]
def jk4:CKt:=
 cQ tb {} [] 33 [.v ty85,.v ty74,.v iT] [.v iT] [] (Pw.unc3 Pw.jci) Tryz.func33 [jgw,jgx]
end Go.Proofs.Pk
