/- Contracts: each given function is its plain function, printed by a program. -/
import Derived.Test.YtmlokiiopbjgfaaGreatEECon7
open Bool renaming false->c
noncomputable section
open Go Go.Lft
set_option linter.unusedVariables false
set_option maxRecDepth 100000
namespace Go.Proofs.Pk
def jc5:CKt:=
 cQ tb {} [] 106 [] [.v iT] [] (λh=>Pw.j8I) Tryz.func106 [jhI]
def jgA:CKt:=
 cQ tb {} [lD 0 [sB 64 0,sO 1,sI,.b (.cell [.d ty63,.d ty53,.d ty24,.d ty75] c),.b (.lst 9 .str c)] ⟨[1,3,4],[64],[⟨1,9,.str,[.slot 3],c⟩]⟩ [xD .ret [sI] ⟨[2],[],[]⟩,xD (.exit 0) [] ⟨[],[],[]⟩] (Pw.unc6 (Pw.j33)),lD 2 [sB 64 0,sO 2,sI,sB 320 0,sI,.b (.cell [.d ty63,.d ty53,.d ty24,.d ty75] c),.b (.cell [.d .str,.d iT,.d (.list iT)] c),.b (.lst 9 .str c)] ⟨[1,3,4,5,7],[64,320],[⟨2,9,.str,[.slot 3],c⟩]⟩ [xD .ret [sI] ⟨[2],[],[]⟩,xD (.exit 2) [sB 64 0,sO 3,sI,sB 320 0,.b (.cell [.d ty63,.d ty53,.d ty24,.d ty75] c),.b (.cell [.d .str,.d iT,.d (.list iT)] c),.b (.lst 9 .str c)] ⟨[1,3,4,5],[64,320],[⟨3,9,.str,[.slot 3],c⟩]⟩] (Pw.u8 Pw.unc2 (Pw.j31)),lD 4 [sB 64 0,sO 4,sI,sB 320 0,sI,.b (.cell [.d ty63,.d ty53,.d ty24,.d ty75] c),.b (.cell [.d .str,.d iT,.d (.list iT)] c),.b (.lst 9 .str c)] ⟨[1,3,4,5,8],[64,320],[⟨4,9,.str,[.slot 3],c⟩]⟩ [xD .ret [sI] ⟨[2],[],[]⟩,xD (.exit 4) [sB 64 0,sO 5,sI,.b (.cell [.d ty63,.d ty53,.d ty24,.d ty75] c),.b (.lst 9 .str c)] ⟨[1,3,4],[64],[⟨5,9,.str,[.slot 3],c⟩]⟩] (Pw.u8 Pw.unc2 (Pw.j32))] 67 [.v ty81] [.v iT] [] (λh=>Pw.j8u h) Tryz.func67 [jcp,je8,jc5]
def jlp:CKt:=
 cQ tb {} [lD 1 [sB 128 0,sB 192 0,sI,.b (.cell [.d ty63,.d ty53,.d ty24,.d ty75] c),.b (.cell [.d .str,.d iT,.d iT,.d iT,.d iT,.d iT,.d (.list iT),.d ty10,.d iT,.d iT] c)] ⟨[2,3,5],[128,192],[]⟩ [xD .ret [sI] ⟨[4],[],[]⟩,xD (.exit 1) [sB 128 0,sB 192 0,.b (.cell [.d ty63,.d ty53,.d ty24,.d ty75] c),.b (.cell [.d .str,.d iT,.d iT,.d iT,.d iT,.d iT,.d (.list iT),.d ty10,.d iT,.d iT] c)] ⟨[2,3],[128,192],[]⟩] (Pw.u8 Pw.unc7 (Pw.j4u))] 107 [.v ty81,.v ty69] [.v iT] [] (Pw.unc2 Pw.jbW) Tryz.func107 [je8,jda,jc5]
def jnq:CKt:=
 cQ tb {} [] 108 [.v ty81,.v ty35] [.v iT] [] (Pw.unc2 Pw.jdK) Tryz.func108 [je8,jc5]
def jgB:CKt:=
 cQ tb {} [lD 0 [sB 64 0,sO 1,sI,.b (.cell [.d ty63,.d ty53,.d ty24,.d ty75] c),.b (.lst 9 .str c)] ⟨[1,3,4],[64],[⟨1,9,.str,[.slot 3],c⟩]⟩ [xD .ret [sI] ⟨[2],[],[]⟩,xD (.exit 0) [] ⟨[],[],[]⟩] (Pw.unc6 (Pw.j36)),lD 2 [sB 64 0,sO 2,sI,sB 320 0,sO 3,sI,.b (.cell [.d ty63,.d ty53,.d ty24,.d ty75] c),.b (.cell [.d .str,.d ty70,.d ty37] c),.b (.lst 9 .str c),.b (.lst 9 .str c)] ⟨[1,3,4,5,7,8],[64,320],[⟨2,9,.str,[.slot 3],c⟩,⟨3,9,.str,[.slot 7],c⟩]⟩ [xD .ret [sI] ⟨[2],[],[]⟩,xD (.exit 2) [sB 64 0,sO 4,sI,sB 320 0,.b (.cell [.d ty63,.d ty53,.d ty24,.d ty75] c),.b (.cell [.d .str,.d ty70,.d ty37] c),.b (.lst 9 .str c)] ⟨[1,3,4,5],[64,320],[⟨4,9,.str,[.slot 3],c⟩]⟩] (Pw.u8 Pw.unc3 (Pw.j34)),lD 4 [sB 64 0,sO 5,sI,sB 320 0,sI,.b (.cell [.d ty63,.d ty53,.d ty24,.d ty75] c),.b (.cell [.d .str,.d ty70,.d ty37] c),.b (.lst 9 .str c)] ⟨[1,3,4,5,11],[64,320],[⟨5,9,.str,[.slot 3],c⟩]⟩ [xD .ret [sI] ⟨[2],[],[]⟩,xD (.exit 4) [sB 64 0,sO 6,sI,.b (.cell [.d ty63,.d ty53,.d ty24,.d ty75] c),.b (.lst 9 .str c)] ⟨[1,3,4],[64],[⟨6,9,.str,[.slot 3],c⟩]⟩] (Pw.u8 Pw.unc2 (Pw.j35))] 68 [.v ty81] [.v iT] [] (λh=>Pw.jaL h) Tryz.func68 [jcp,jlp,jnq]
def jdb:CKt:=
 cQ tb {} [] 38 [.v ty81] [.v iT] [] (λh=>Pw.j2L h) Tryz.func38 [jln,jka,jgA,jgB]
def jqM:CKt:=
 cQ tb {} [] 34 [.v ty81,.v iT,.v iT] [.v .bool] [] (Pw.unc3 Pw.jhH) Tryz.func34 [jdb]
def jlq:CKt:=
 cQ tb {} [] 151 [.v ty62,.v ty69] [.v iT] [] (Pw.unc2 Pw.jdL) Tryz.func151 [jgz]
def jlr:CKt:=
 cQ tb {} [] 182 [.v iT] [.v .bool] [] (λh=>Pw.jbX h) Tryz.func182 [je6]
def jgC:CKt:=
 cQ tb {} [lD 0 [sB 128 0,sB 192 0,sO 1,sI,.b (.cell [.d .str,.d iT,.d ty55] c),.b (.cell [.d iT,.d iT] c),.b (.lst 189 ty6 c)] ⟨[2,3,6,8],[128,192],[⟨1,189,ty6,[.slot 6],c⟩]⟩ [xD .ret [sI,sI] ⟨[4,5],[],[]⟩,xD (.exit 0) [] ⟨[],[],[]⟩] (Pw.unc7 (Pw.j3H))] 168 [.v ty62,.v ty6] [.v iT,.v iT] [] (Pw.unc2 Pw.j4f) Tryz.func168 [je6,j7w,jlr]
def jkb:CKt:=
 cQ tb {} [lD 0 [sD ty10,sI,sI,sI] ⟨[1,2,7,8],[],[]⟩ [xD (.exit 0) [sI] ⟨[7],[],[]⟩] (Pw.unc4 (Pw.j4g))] 171 [.v ty62,.v ty10,.v iT] [.v iT] [] (Pw.unc3 Pw.jcm) Tryz.func171
def jh5:CKt:=
 cQ tb {} [] 155 [.v ty62,.v iT] [.v iT,.v iT] [] (Pw.unc2 Pw.j7U) Tryz.func155 [je6,j7w,jkb]
def jls:CKt:=
 cQ tb {} [] 156 [.v iT,.v iT] [.v ty6] [] (Pw.unc2 Pw.jdM) Tryz.func156
def jaZ:CKt:=
 cQ tb {} [] 134 [.v ty62,.v iT] [.v ty6,.v iT] [] (Pw.unc2 Pw.j4m) Tryz.func134 [jh5,jls]
def jh6:CKt:=
 cQ tb {} [] 169 [.v ty62,.v ty69,.v iT] [.v iT,.v .bool] [] (Pw.unc3 Pw.j7V) Tryz.func169 [jgC]
def jlt:CKt:=
 cQ tb {} [lD 0 [sI,sB 192 0,sB 256 0,sI,.b (.cell [.d .str,.d iT,.d ty55] c),.b (.cell [.d .str,.d iT,.d iT,.d iT,.d iT,.d iT,.d (.list iT),.d ty10,.d iT,.d iT] c)] ⟨[2,3,4,7],[192,256],[]⟩ [xD (.exit 0) [sI] ⟨[7],[],[]⟩] (Pw.u8 Pw.unc7 (Pw.j4v))] 152 [.v ty62,.v ty69,.v iT] [.v iT] [] (Pw.unc3 Pw.jdN) Tryz.func152 [jgC,jaZ,jh6]
def jlu:CKt:=
 cQ tb {} [] 132 [.v ty62,.v ty69,.v iT] [.v iT,.v iT] [] (Pw.unc3 Pw.jbZ) Tryz.func132 [jlq,jlt]
def jkc:CKt:=
 cQ tb {} [] 170 [.v ty6] [.v iT] [] (λh=>Pw.jeI h) Tryz.func170 [je7]
def jkd:CKt:=
 cQ tb {} [] 153 [.v ty62,.v iT] [.v iT,.v iT] [] (Pw.unc2 Pw.jad) Tryz.func153 [jaZ,jkc]
def jke:CKt:=
 cQ tb {} [lD 0 [sD ty10,sI,sI] ⟨[0,1,5],[],[]⟩ [xD .ret [sD .bool] ⟨[4],[],[]⟩,xD (.exit 0) [] ⟨[],[],[]⟩] (Pw.unc3 (Pw.j4h))] 154 [.v ty10,.v iT] [.v .bool] [] (Pw.unc2 Pw.jcn) Tryz.func154
end Go.Proofs.Pk
