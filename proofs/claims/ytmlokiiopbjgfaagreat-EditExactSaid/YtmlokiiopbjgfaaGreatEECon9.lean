/- Contracts: each given function is its plain function, printed by a program. -/
import Derived.Test.YtmlokiiopbjgfaaGreatEECon8
open Bool renaming false->c
noncomputable section
open Go Go.Lft
set_option linter.unusedVariables false
set_option maxRecDepth 100000
namespace Go.Proofs.Pk
def jqN:CKt:=
 cQ tb {} [] 133 [.v ty62,.v ty10,.v iT] [.v .bool] [] (Pw.unc3 Pw.jjT) Tryz.func133 [jda,jkd,jke]
def jnr:CKt:=
 cQ tb {} [lD 0 [sB 256 0,sI,sB 704 0,sB 768 0,sD .bool,sI,.b (.cell [.d .str,.d iT,.d iT,.d iT,.d iT,.d iT,.d (.list iT),.d ty10,.d iT,.d iT] c),.b (.cell [.d .str,.d iT,.d (.list iT)] c),.b (.cell [.d iT,.d iT] c)] ⟨[4,9,11,12,14,15],[256,704,768],[]⟩ [xD (.exit 0) [sB 256 0,sI,sD .bool,.b (.cell [.d .str,.d iT,.d iT,.d iT,.d iT,.d iT,.d (.list iT),.d ty10,.d iT,.d iT] c)] ⟨[4,9,14],[256],[]⟩] (Pw.u8 (Pw.u8 Pw.unc2) (Pw.j4X))] 114 [.v ty81,.v ty69,.v iT] [.v iT,.v .bool] [] (Pw.unc3 Pw.jdO) Tryz.func114 [jaZ,jlu,jqN]
def jpd:CKt:=
 cQ tb {} [] 74 [.v ty81,.v ty69,.v iT] [.v iT] [] (Pw.unc3 Pw.jgp) Tryz.func74 [jnr]
def jns:CKt:=
 cQ tb {} [lD 0 [sI,sI,sB 192 0,sI,.b (.cell [.d .str,.d ty70,.d ty37] c)] ⟨[1,2,3,7],[192],[]⟩ [xD .ret [sD .bool] ⟨[6],[],[]⟩,xD (.exit 0) [] ⟨[],[],[]⟩] (Pw.unc6 (Pw.j4Y))] 75 [.v ty74,.v iT,.v iT] [.v .bool] [] (Pw.unc3 Pw.jfC) Tryz.func75
def jpe:CKt:=
 cQ tb {} [lD 0 [sI,sB 192 0,sB 512 0,sI,.b (.cell [.d ty63,.d ty53,.d ty24,.d ty75] c),.b (.cell [.d .str,.d ty70,.d ty37] c)] ⟨[2,3,8,9],[192,512],[]⟩ [xD .ret [sI,sI] ⟨[6,7],[],[]⟩,xD (.exit 0) [] ⟨[],[],[]⟩] (Pw.unc9 (Pw.j5G))] 50 [.v ty81,.v iT,.v iT] [.v iT,.v iT] [] (Pw.unc3 Pw.jiz) Tryz.func50 [jpd,jns]
def jhJ:CKt:=
 cQ tb {} [lD 0 [sD ty37,sI,sI,sI] ⟨[0,1,2,7],[],[]⟩ [xD (.exit 0) [sI] ⟨[1],[],[]⟩] (Pw.unc4 (Pw.j4Z))] 23 [.v ty37,.v iT,.v iT] [.v iT] [] (Pw.unc3 Pw.jdQ) Tryz.func23
def jpf:CKt:=
 cQ tb {} [] 35 [.v ty81,.v iT,.v iT] [.v iT] [] (Pw.unc3 Pw.jlf) Tryz.func35 [jpe,jhJ]
def jpg:CKt:=
 cQ tb {} [] 12 [.v ty81,.v iT,.v iT] [.v iT] [] (Pw.unc3 Pw.jd5) Tryz.func12 [jqM,jpf]
def jhK:CKt:=
 cQ tb {} [] 39 [.v ty81,.v iT,.v ty37] [.v ty81] [] (Pw.unc3 Pw.jdR) Tryz.func39
def jlv:CKt:=
 cQ tb {dw:=[(5,dz [(6,[2112]),(1,[2240]),(0,[2112,2304])])]} [] 15 [.v ty81,.v iT,.v ty35] [.v ty81,.v iT] [] (Pw.unc3 Pw.j61) Tryz.func15 [jdb,jhK]
def jh7:CKt:=
 cQ tb {} [lD 0 [sB 128 0,sB 192 0,sI,.b (.cell [.d .str,.d iT,.d ty55] c),.b (.cell [.d .str,.d iT,.d ty55] c)] ⟨[2,3,5],[128,192],[]⟩ [xD .ret [sD .bool] ⟨[4],[],[]⟩,xD (.exit 0) [] ⟨[],[],[]⟩] (Pw.unc7 (Pw.j3t))] 40 [.v ty62,.v ty62] [.v .bool] [] (Pw.unc2 Pw.j7W) Tryz.func40
def jag:CKt:=
 cQ tb {} [lD 0 [sD ty10,sD ty10,sI] ⟨[0,1,5],[],[]⟩ [xD .ret [sD .bool] ⟨[4],[],[]⟩,xD (.exit 0) [] ⟨[],[],[]⟩] (Pw.unc3 (Pw.j2s))] 41 [.v ty10,.v ty10] [.v .bool] [] (Pw.unc2 Pw.j5H) Tryz.func41
def jcH:CKt:=
 cQ tb {} [lD 0 [sD (.list iT),sD (.list iT),sI] ⟨[0,1,5],[],[]⟩ [xD .ret [sD .bool] ⟨[4],[],[]⟩,xD (.exit 0) [] ⟨[],[],[]⟩] (Pw.unc3 (Pw.j3u))] 42 [.v (.list iT),.v (.list iT)] [.v .bool] [] (Pw.unc2 Pw.j7Y) Tryz.func42
def jgD:CKt:=
 cQ tb {} [] 69 [.v ty69,.v ty69] [.v .bool] [] (Pw.unc2 Pw.j72) Tryz.func69 [jag,jcH]
def je9:CKt:=
 cQ tb {} [lD 0 [sB 128 0,sB 192 0,sI,.b (.cell [.d .str,.d ty70,.d ty37] c),.b (.cell [.d .str,.d ty70,.d ty37] c)] ⟨[2,3,5],[128,192],[]⟩ [xD .ret [sD .bool] ⟨[4],[],[]⟩,xD (.exit 0) [sB 128 0,sB 192 0,.b (.cell [.d .str,.d ty70,.d ty37] c),.b (.cell [.d .str,.d ty70,.d ty37] c)] ⟨[2,3],[128,192],[]⟩] (Pw.unc7 (Pw.j26)),lD 2 [sB 128 0,sB 192 0,sI,.b (.cell [.d .str,.d ty70,.d ty37] c),.b (.cell [.d .str,.d ty70,.d ty37] c)] ⟨[2,3,6],[128,192],[]⟩ [xD .ret [sD .bool] ⟨[4],[],[]⟩,xD (.exit 2) [] ⟨[],[],[]⟩] (Pw.unc7 (Pw.j27))] 43 [.v ty74,.v ty74] [.v .bool] [] (Pw.unc2 Pw.j50) Tryz.func43 [jgD]
def jnt:CKt:=
 cQ tb {dw:=[(11,dz [(10,[448]),(0,[512]),(0,[448]),(0,[512])]),(17,dz [(10,[640]),(0,[704]),(0,[640]),(0,[704])])]} [lD 0 [sB 128 0,sB 192 0,sI,.b (.cell [.d ty63,.d ty53,.d ty24,.d ty75] c),.b (.cell [.d ty63,.d ty53,.d ty24,.d ty75] c)] ⟨[2,3,5],[128,192],[]⟩ [xD .ret [sD .bool] ⟨[4],[],[]⟩,xD (.exit 0) [sB 128 0,sB 192 0,.b (.cell [.d ty63,.d ty53,.d ty24,.d ty75] c),.b (.cell [.d ty63,.d ty53,.d ty24,.d ty75] c)] ⟨[2,3],[128,192],[]⟩] (Pw.unc9 (Pw.j51)),lD 2 [sB 128 0,sB 192 0,sI,.b (.cell [.d ty63,.d ty53,.d ty24,.d ty75] c),.b (.cell [.d ty63,.d ty53,.d ty24,.d ty75] c)] ⟨[2,3,6],[128,192],[]⟩ [xD .ret [sD .bool] ⟨[4],[],[]⟩,xD (.exit 2) [sB 128 0,sB 192 0,.b (.cell [.d ty63,.d ty53,.d ty24,.d ty75] c),.b (.cell [.d ty63,.d ty53,.d ty24,.d ty75] c)] ⟨[2,3],[128,192],[]⟩] (Pw.unc9 (Pw.j52)),lD 4 [sB 128 0,sB 192 0,sI,.b (.cell [.d ty63,.d ty53,.d ty24,.d ty75] c),.b (.cell [.d ty63,.d ty53,.d ty24,.d ty75] c)] ⟨[2,3,9],[128,192],[]⟩ [xD .ret [sD .bool] ⟨[4],[],[]⟩,xD (.exit 4) [sB 128 0,sB 192 0,.b (.cell [.d ty63,.d ty53,.d ty24,.d ty75] c),.b (.cell [.d ty63,.d ty53,.d ty24,.d ty75] c)] ⟨[2,3],[128,192],[]⟩] (Pw.unc9 (Pw.j53)),lD 6 [sB 128 0,sB 192 0,sI,.b (.cell [.d ty63,.d ty53,.d ty24,.d ty75] c),.b (.cell [.d ty63,.d ty53,.d ty24,.d ty75] c)] ⟨[2,3,12],[128,192],[]⟩ [xD .ret [sD .bool] ⟨[4],[],[]⟩,xD (.exit 6) [] ⟨[],[],[]⟩] (Pw.unc9 (Pw.j54))] 16 [.v ty81,.v ty81] [.v .bool] [] (Pw.unc2 Pw.jdS) Tryz.func16 [jh7,jag,jcH,je9]
def jkf:CKt:=
 cQ tb {dw:=[(8,dz [(5,[3264]),(4,[3264,3584]),(0,[3584]),(0,[384])])]} [] 18 [.v ty81,.v iT,.v iT] [.v ty81,.v iT] [] (Pw.unc3 Pw.j4w) Tryz.func18 [jdb,jhK]
def jnu:CKt:=
 cQ tb {} [] 19 [.v iT,.v iT] [.v iT] [] (Pw.unc2 Pw.jfD) Tryz.func19
def jiK:CKt:=
 cQ tb {} [lD 0 [sI,sO 1,sD ty37,sI,sI,.b (.lst 3 iT c)] ⟨[1,5,9,10,11],[],[⟨1,3,iT,[.slot 5],c⟩]⟩ [xD (.exit 0) [sO 2,.b (.lst 3 iT c)] ⟨[5],[],[⟨2,3,iT,[.slot 5],c⟩]⟩] (Pw.unc5 (Pw.j3P))] 20 [.v ty74,.v iT] [.own 3 (.list iT)] [] (Pw.unc2 Pw.jaS) Tryz.func20 [je4]
def jkg:CKt:=
 cQ tb {} [lD 0 [sI,sB 128 0,sO 1,sI,.b (.cell [.d .str,.d ty70,.d ty37] c),.b (.lst 3 iT c)] ⟨[1,2,5,6],[128],[⟨1,3,iT,[.slot 5],c⟩]⟩ [xD (.exit 0) [sO 2,.b (.lst 3 iT c)] ⟨[5],[],[⟨2,3,iT,[.slot 5],c⟩]⟩] (Pw.unc6 (Pw.j4i))] 21 [.v ty74,.v iT] [.own 3 (.list iT)] [] (Pw.unc2 Pw.jco) Tryz.func21
end Go.Proofs.Pk
