/- Contracts: each given function is its plain function, printed by a program. -/
import Derived.Test.YtmlokiiopbjgfaaGreatEECon3
open Bool renaming false->c
noncomputable section
open Go Go.Lft
set_option linter.unusedVariables false
set_option maxRecDepth 100000
namespace Go.Proofs.Pk
def jc3:CKt:=
 ⟨⟨14,[.v ty81,.v iT,.v ty35],[ty81,iT,ty35],⟨[.v ty81,.v iT],[]⟩,[ty81,iT],Pw.unc3 Pw.j4r⟩,jjQ jiE.2 (jjQ jiF.2 jiG.2)⟩
def j2y:CKt:=
 cQ tb {dw:=[(5,dz [(6,[0])])],hd:=true} [] 44 [.rl 24 ty37,.v iT,.v iT] [.hd] [.rl ty37] (Pw.unc3 Pw.j0k) Tryz.func44
def jgZ:CKt:=
 cQ tb {pre:=[(8,[.rl 1281])]} [] 17 [.v ty81,.v iT,.v iT] [.v ty81,.v iT] [] (Pw.unc3 Pw.j2A) Tryz.func17 [jf9,j6A,j2y]
def jh0:CKt:=
 cQ tb {pre:=[(8,[.rl 1281])]} [] 17 [.v ty81,.v iT,.v iT] [.v ty81,.v iT] [] (Pw.unc3 Pw.j2B) Tryz.func17 [j6A,jfa,j2y]
def jh1:CKt:=
 cQ tb {pre:=[(8,[.rl 1281])]} [] 17 [.v ty81,.v iT,.v iT] [.v ty81,.v iT] [] (Pw.unc3 Pw.j1I) Tryz.func17 [j6A,jfb,j2y]
def jaY:CKt:=
 ⟨⟨17,[.v ty81,.v iT,.v iT],[ty81,iT,iT],⟨[.v ty81,.v iT],[]⟩,[ty81,iT],Pw.unc3 Pw.j2R⟩,jjQ jgZ.2 (jjQ jh0.2 jh1.2)⟩
def jp9:CKt:=
 cQ tb {} [] 109 [.v ty62] [.v ty23,.v iT] [] (λh=>Pw.jgm h) Tryz.func109 [j9B]
def jiH:CKt:=
 cQ tb {} [lD 0 [sO 1,sD ty63,sI,sI,.b (.lst 154 ty23 c)] ⟨[3,8,9,10],[],[⟨1,154,ty23,[.slot 3],c⟩]⟩ [xD (.exit 0) [sO 2,.b (.lst 154 ty23 c)] ⟨[3],[],[⟨2,154,ty23,[.slot 3],c⟩]⟩] (Pw.unc4 (Pw.j3N))] 70 [.v ty63] [.own 154 ty27] [] (λh=>Pw.jcX h) Tryz.func70 [jp9]
def jli:CKt:=
 cQ tb {dw:=[(1,dz [(3,[384]),(1,[128])])]} [] 48 [.v ty81] [.v ty85] [] (λh=>Pw.jdC h) Tryz.func48 [jiH]
def jpa:CKt:=
 cQ tb {} [] 31 [.v ty81] [.v ty85,.v .bool] [] (λh=>Pw.jeE h) Tryz.func31 [j37,jli]
def j5W:CKt:=
 cQ tb {} [] 71 [.v ty70] [.clo 110 [.p [ty70]]] [] (λh=>Pw.j1Z h) Tryz.func71
def jfc:CKt:=
 cQ tb {} [] 145 [.v ty69] [.v iT] [] (λh=>Pw.j7t h) Tryz.func145
def jc4:CKt:=
 cQ tb {} [] 181 [.v iT,.ip [iT,ty10],.ip [iT]] [.v .bool] [] (Pw.unc4 Pw.j6p) Tryz.func181
def jiI:CKt:=
 cQ tb {} [lD 0 [sC 181 [.p [iT,ty10],.p [iT]],sI,sI] ⟨[1,5,6],[],[]⟩ [xD (.exit 0) [sI] ⟨[5],[],[]⟩] (Pw.unc5 (Pw.j2S))] 180 [.v iT,.clo 181 [.p [iT,ty10],.p [iT]]] [.v iT] [] (Pw.unc4 Pw.jcY) Tryz.func180 [jc4]
def j9C:CKt:=
 cQ tb {} [] 166 [.v ty23,.v iT] [.v iT] [] (Pw.unc2 Pw.j4T) Tryz.func166 [jiI]
def j92:CKt:=
 cQ tb {} [] 165 [.v ty23,.v iT] [.v iT] [] (Pw.unc2 Pw.j3F) Tryz.func165
def jd8:CKt:=
 cQ tb {} [lD 0 [sI,sI,sB 192 0,sO 1,.b (.cell [.d iT,.d ty10] c),.b (.lst 216 ty18 c)] ⟨[1,2,3,7],[192],[⟨1,216,ty18,[.slot 7],c⟩]⟩ [xD (.exit 0) [sO 2,.b (.lst 216 ty18 c)] ⟨[7],[],[⟨2,216,ty18,[.slot 7],c⟩]⟩] (Pw.unc5 (Pw.j1N))] 178 [.v ty23,.v iT,.v iT] [.own 216 ty22] [] (Pw.unc3 Pw.j5N) Tryz.func178 [j9C,j92]
def jh2:CKt:=
 cQ tb {} [] 179 [.v ty6] [.v iT] [] (λh=>Pw.j3C h) Tryz.func179
def je0:CKt:=
 cQ tb {} [lD 0 [sB 192 0,sO 1,sI,sI,.b (.cell [.d iT,.d iT] c),.b (.lst 216 ty18 c)] ⟨[3,10,11,12],[192],[⟨1,216,ty18,[.slot 10],c⟩]⟩ [xD .ret [sI,sD .bool] ⟨[4,5],[],[]⟩,xD (.exit 0) [] ⟨[],[],[]⟩] (Pw.unc5 (Pw.j1b))] 164 [.v ty23,.v ty6] [.v iT,.v .bool] [] (Pw.unc2 Pw.j2C) Tryz.func164 [jd8,jh2]
def je1:CKt:=
 cQ tb {dw:=[(5,dz [(8,[512])])]} [] 144 [.v ty23,.v ty69,.v iT] [.v iT,.v .bool] [] (Pw.unc3 Pw.j1R) Tryz.func144 [jfc,je0]
end Go.Proofs.Pk
