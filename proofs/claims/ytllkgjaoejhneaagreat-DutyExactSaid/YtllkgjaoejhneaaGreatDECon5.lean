/- Contracts: each given function is its plain function, printed by a program. -/
import Derived.Test.YtllkgjaoejhneaaGreatDECon4
open Bool renaming false->e,true->j
open _root_ renaming trivial->i
noncomputable section
open Go Go.Lft
set_option linter.unusedVariables false
set_option maxRecDepth 100000
namespace Go.Proofs.Pk
def j86:Con:=⟨42,[.v ty87,.v ty73,.v iT],[ty87,ty73,iT],⟨[.v iT],[]⟩,[iT],Pw.unc3 Pw.j5T⟩
def jn1:FnD where
 N:=16
 np:=3
 cs:=[j83,j6k,j6H]
theorem jfC:OKc j86:=
 cOf j0d j04 jn1 j86 Tryz.func42 (jg jeI (jg jbF (jg jgf i))) i
def jdu:Con:=⟨40,[.v ty87,.v ty73,.v iT],[ty87,ty73,iT],⟨[.v .bool],[]⟩,[.bool],Pw.unc3 Pw.jfZ⟩
def juy:FnD where
 N:=22
 np:=3
 cs:=[j83,j6k,j7a]
theorem jlO:OKc jdu:=
 cOf j0d j04 juy jdu Tryz.func40 (jg jeI (jg jbF (jg jeM i))) i
def jc5:Con:=⟨38,[],[],⟨[.v .bool],[]⟩,[.bool],fun h=>Pw.jf6⟩
def joA:FnD where
 N:=70
 np:=0
 cs:=[jaI,j6o,j8Q,j86,jdu]
theorem jn2:OKc jc5:=
 cOf j0d j04 joA jc5 Tryz.func38 (jg jkQ (jg je6 (jg jhi (jg jfC (jg jlO i))))) i
def jdv:Con:=⟨9,[.v (.list iT)],[(.list iT)],⟨[.box [(.list iT),iT]],[]⟩,[(.list iT),iT],fun h=>Pw.jjY h⟩
def jq9:FnD where
 N:=6
 np:=1
theorem joB:OKc jdv:=
 cOf j0d j04 jq9 jdv Tryz.func9 i i
def j0O:Con:=⟨12,[.ref [(.list iT),iT],.v iT],[(.list iT),iT,iT],⟨[.v iT],[.ref [(.list iT),iT]]⟩,[iT,(.list iT),iT],Pw.unc3 Pw.j02⟩
def jiI:FnD where
 N:=45
 np:=2
theorem j1q:OKc j0O:=
 cOf j0d j04 jiI j0O Tryz.func12 i i
def j1b:Con:=⟨31,[.ref [(.list iT),iT],.v (.list iT)],[(.list iT),iT,(.list iT)],⟨[.v iT],[.ref [(.list iT),iT]]⟩,[iT,(.list iT),iT],Pw.unc3 Pw.j0a⟩
def jiJ:FnD where
 N:=12
 np:=2
 cs:=[j0O]
theorem j25:OKc j1b:=
 cOf j0d j04 jiJ j1b Tryz.func31 (jg j1q i) i
def j87:Con:=⟨116,[.ref [(.list iT),iT],.v .str],[(.list iT),iT,.str],⟨[.v ty66],[.ref [(.list iT),iT]]⟩,[ty66,(.list iT),iT],Pw.unc3 Pw.j8I⟩
def jiK:FnD where
 N:=98
 np:=2
 cs:=[j0O,j1b]
 dw:=[(7,[[],[],[0],[],[],[0],[],[0],[],[],[],[],[0],[],[],[],[],[],[],[0],[],[],[3968],[0,3968],[],[0],[],[0],[],[],[],[],[4608],[],[320]]),(9,[[],[],[],[5056],[0,5056],[],[]])]
theorem jhY:OKc j87:=
 cOf j0d j04 jiK j87 Tryz.func116 (jg j1q (jg j25 i)) i
def j8R:Con:=⟨64,[],[],⟨[.own 9 (.list .str)],[]⟩,[(.list .str)],fun h=>Pw.jcG⟩
def joC:FnD where
 N:=2
 np:=0
 ro:=[j]
theorem jhl:OKc j8R:=
 cOf j0d j04 joC j8R Tryz.func64 i i
def j3f:Con:=⟨65,[.ref [(.list iT),iT],.v iT],[(.list iT),iT,iT],⟨[.v .bool],[.ref [(.list iT),iT]]⟩,[.bool,(.list iT),iT],Pw.unc3 Pw.j11⟩
def jiL:FnD where
 N:=11
 np:=2
 cs:=[j0O]
theorem j6p:OKc j3f:=
 cOf j0d j04 jiL j3f Tryz.func65 (jg j1q i) i
def j4t:Con:=⟨90,[.ref [(.list iT),iT]],[(.list iT),iT],⟨[.own 101 ty14],[.ref [(.list iT),iT]]⟩,[ty14,(.list iT),iT],Pw.unc2 Pw.j3L⟩
def jgg:FnD where
 N:=38
 np:=1
 cs:=[j0O,j1b]
 ds:=[⟨0,[sB 0 0,sO 1000000,sI,sI,.b (.cell [.d (.list iT),.d iT] e),.b (.lst 101 ty9 e)],[iT,iT,(.list iT),iT,ty14],[⟨.exit 0,[sO 1500100,.b (.cell [.d (.list iT),.d iT] e),.b (.lst 101 ty9 e)],[(.list iT),iT,ty14]⟩],Pw.unc5 (Pw.j1U)⟩]
 keep:=[(0,⟨[0,3,4,5],[0],[⟨1000000,101,ty9,[.slot 3],e⟩],[]⟩)]
 keepX:=[(0,.exit 0,⟨[3],[0],[⟨1500100,101,ty9,[.slot 3],e⟩],[]⟩)]
 ro:=[j]
theorem j9K:OKc j4t:=
 cOf j0d j04 jgg j4t Tryz.func90 (jg j1q (jg j25 i)) (jg (fun h=>by kernel_rfl) i)
def j7j:Con:=⟨63,[.ref [(.list iT),iT]],[(.list iT),iT],⟨[.vn ty87 [3]],[.ref [(.list iT),iT]]⟩,[ty87,(.list iT),iT],Pw.unc2 Pw.j7S⟩
def jhZ:FnD where
 N:=109
 np:=1
 cs:=[j0O,j1b,j87,j8R,j3f,j4t]
 ds:=[⟨0,[sB 0 0,sB 128 0,sB 192 0,sI,.b (.cell [.d (.list iT),.d iT] e),.b (.cell [.nil,.nil,.nil,.nil] e),.b (.cell [.ol 1000000,.nil,.nil,.nil] e),.b (.lst 97 ty66 e)],[iT,(.list iT),iT,ty67],[⟨.exit 0,[sB 0 0,sB 128 0,sB 192 0,.b (.cell [.d (.list iT),.d iT] e),.b (.cell [.nil,.nil,.nil,.nil] e),.b (.cell [.ol 1500100,.nil,.nil,.nil] e),.b (.lst 97 ty66 e)],[(.list iT),iT,ty67]⟩],Pw.unc4 (Pw.j2d)⟩,⟨2,[sB 0 0,sB 128 0,sB 192 0,sI,.b (.cell [.d (.list iT),.d iT] e),.b (.cell [.nil,.nil,.nil,.nil] e),.b (.cell [.ol 1002000,.ol 1002001,.nil,.nil] e),.b (.lst 97 ty66 e),.b (.lst 99 ty54 e)],[iT,(.list iT),iT,ty67,ty57],[⟨.exit 2,[sB 0 0,sB 128 0,sB 192 0,.b (.cell [.d (.list iT),.d iT] e),.b (.cell [.nil,.nil,.nil,.nil] e),.b (.cell [.ol 1502300,.ol 1502301,.nil,.nil] e),.b (.lst 97 ty66 e),.b (.lst 99 ty54 e)],[(.list iT),iT,ty67,ty57]⟩],Pw.unc5 (Pw.j2e)⟩,⟨4,[sB 0 0,sB 128 0,sB 192 0,sI,.b (.cell [.d (.list iT),.d iT] e),.b (.cell [.nil,.nil,.nil,.nil] e),.b (.cell [.ol 1004000,.ol 1004001,.ol 1004002,.nil] e),.b (.lst 97 ty66 e),.b (.lst 99 ty54 e),.b (.lst 103 ty24 e)],[iT,(.list iT),iT,ty67,ty57,ty28],[⟨.exit 4,[sB 128 0,sB 192 0,.b (.cell [.d (.list iT),.d iT] e),.b (.cell [.nil,.nil,.nil,.nil] e),.b (.cell [.ol 1504500,.ol 1504501,.ol 1504502,.nil] e),.b (.lst 97 ty66 e),.b (.lst 99 ty54 e),.b (.lst 103 ty24 e)],[(.list iT),iT,ty67,ty57,ty28]⟩],Pw.unc6 (Pw.j2g)⟩,⟨6,[sB 0 0,sB 128 0,sB 192 0,sI,sB 512 0,sI,sI,.b (.cell [.d (.list iT),.d iT] e),.b (.cell [.nil,.nil,.nil,.nil] e),.b (.cell [.ol 1006000,.ol 1006001,.ol 1006002,.nil] e),.b (.cell [.d .str,.d iT,.ol 1006003] e),.b (.lst 97 ty66 e),.b (.lst 99 ty54 e),.b (.lst 103 ty24 e),.b (.lst 3 iT e)],[iT,iT,iT,(.list iT),iT,.str,iT,ty67,ty57,ty28,(.list iT)],[⟨.exit 6,[sB 0 0,sB 128 0,sB 192 0,sI,sB 512 0,.b (.cell [.d (.list iT),.d iT] e),.b (.cell [.nil,.nil,.nil,.nil] e),.b (.cell [.ol 1506700,.ol 1506701,.ol 1506702,.nil] e),.b (.cell [.d .str,.d iT,.ol 1506703] e),.b (.lst 97 ty66 e),.b (.lst 99 ty54 e),.b (.lst 103 ty24 e),.b (.lst 3 iT e)],[iT,(.list iT),iT,.str,iT,ty67,ty57,ty28,(.list iT)]⟩],Pw.u8 Pw.unc3 (Pw.j2f)⟩]
 keep:=[(0,⟨[0,2,3,4],[0,128,192],[⟨1000000,97,ty66,[.cell 192 0],e⟩],[]⟩),(2,⟨[0,2,3,5],[0,128,192],[⟨1002000,97,ty66,[.cell 192 0],e⟩,⟨1002001,99,ty54,[.cell 192 1],e⟩],[]⟩),(4,⟨[0,2,3,7],[0,128,192],[⟨1004000,97,ty66,[.cell 192 0],e⟩,⟨1004001,99,ty54,[.cell 192 1],e⟩,⟨1004002,103,ty24,[.cell 192 2],e⟩],[]⟩),(6,⟨[0,2,3,7,8,9,10],[0,128,192,512],[⟨1006000,97,ty66,[.cell 192 0],e⟩,⟨1006001,99,ty54,[.cell 192 1],e⟩,⟨1006002,103,ty24,[.cell 192 2],e⟩,⟨1006003,3,iT,[.cell 512 2],e⟩],[]⟩)]
 keepX:=[(0,.exit 0,⟨[0,2,3],[0,128,192],[⟨1500100,97,ty66,[.cell 192 0],e⟩],[]⟩),(2,.exit 2,⟨[0,2,3],[0,128,192],[⟨1502300,97,ty66,[.cell 192 0],e⟩,⟨1502301,99,ty54,[.cell 192 1],e⟩],[]⟩),(4,.exit 4,⟨[2,3],[0,128,192],[⟨1504500,97,ty66,[.cell 192 0],e⟩,⟨1504501,99,ty54,[.cell 192 1],e⟩,⟨1504502,103,ty24,[.cell 192 2],e⟩],[]⟩),(6,.exit 6,⟨[0,2,3,7,8],[0,128,192,512],[⟨1506700,97,ty66,[.cell 192 0],e⟩,⟨1506701,99,ty54,[.cell 192 1],e⟩,⟨1506702,103,ty24,[.cell 192 2],e⟩,⟨1506703,3,iT,[.cell 512 2],e⟩],[]⟩)]
 dw:=[(5,[[],[],[],[1344],[],[],[],[],[],[0],[1792],[1856,1000000],[],[192]]),(9,[[2432],[],[],[],[],[],[],[],[],[],[0],[],[0],[],[384],[384]])]
 ns:=[3]
theorem jhm:OKc j7j:=
 cOf j0d j04 jhZ j7j Tryz.func63 (jg j1q (jg j25 (jg jhY (jg jhl (jg j6p (jg j9K i)))))) (jg (fun h=>by kernel_rfl) (jg (fun h=>by kernel_rfl) (jg (fun h=>by kernel_rfl) (jg (fun h=>by kernel_rfl) i))))
def j5f:Con:=⟨39,[.ref [(.list iT),iT],.v ty87,.v .str],[(.list iT),iT,ty87,.str],⟨[.v ty73],[.ref [(.list iT),iT]]⟩,[ty73,(.list iT),iT],Pw.unc4 Pw.j5U⟩
def ji0:FnD where
 N:=77
 np:=3
 cs:=[j0O,j1b,j3f,j4t]
 ds:=[⟨0,[sB 0 0,sB 256 0,sB 384 0,sB 448 0,sI,.b (.cell [.d (.list iT),.d iT] e),.b (.cell [.d ty67,.d ty57,.d ty28,.d ty81] e),.b (.cell [.d .str,.d iT,.d iT,.d iT,.d iT,.d iT,.nil,.nil,.d iT,.d iT] e),.b (.cell [.d .str,.d iT,.d iT,.d iT,.d iT,.d iT,.ol 1000000,.nil,.d iT,.d iT] e),.b (.lst 3 iT e)],[iT,(.list iT),iT,ty67,ty57,ty28,ty81,.str,iT,iT,iT,iT,iT,iT,iT,.str,iT,iT,iT,iT,iT,iT,iT,(.list iT)],[⟨.exit 0,[sB 0 0,sB 256 0,sB 384 0,sB 448 0,.b (.cell [.d (.list iT),.d iT] e),.b (.cell [.d ty67,.d ty57,.d ty28,.d ty81] e),.b (.cell [.d .str,.d iT,.d iT,.d iT,.d iT,.d iT,.nil,.nil,.d iT,.d iT] e),.b (.cell [.d .str,.d iT,.d iT,.d iT,.d iT,.d iT,.ol 1500100,.nil,.d iT,.d iT] e),.b (.lst 3 iT e)],[(.list iT),iT,ty67,ty57,ty28,ty81,.str,iT,iT,iT,iT,iT,iT,iT,.str,iT,iT,iT,iT,iT,iT,iT,(.list iT)]⟩],Pw.u8 (Pw.u8 Pw.unc8) (Pw.j2h)⟩]
 keep:=[(0,⟨[0,4,6,7,8],[0,256,384,448],[⟨1000000,3,iT,[.cell 448 6],e⟩],[]⟩)]
 keepX:=[(0,.exit 0,⟨[0,4,6,7],[0,256,384,448],[⟨1500100,3,iT,[.cell 448 6],e⟩],[]⟩)]
 dw:=[(7,[[],[],[],[],[],[],[0],[3200],[3264,1000000],[],[448]])]
theorem jbH:OKc j5f:=
 cOf j0d j04 ji0 j5f Tryz.func39 (jg j1q (jg j25 (jg j6p (jg j9K i)))) (jg (fun h=>by kernel_rfl) i)
def j4u:Con:=⟨13,[.ref [(.list iT),iT]],[(.list iT),iT],⟨[.v iT],[.ref [(.list iT),iT]]⟩,[iT,(.list iT),iT],Pw.unc2 Pw.j3M⟩
def jgh:FnD where
 N:=16
 np:=1
 cs:=[j0O,j1b,j3f]
theorem j9L:OKc j4u:=
 cOf j0d j04 jgh j4u Tryz.func13 (jg j1q (jg j25 (jg j6p i))) i
def j5M:Con:=⟨16,[.ref [(.list iT),iT],.v (.pair (.list .unit) (.pair (.list .unit) (.pair (.list .unit) (.list .unit))))],[(.list iT),iT,(.pair (.list .unit) (.pair (.list .unit) (.pair (.list .unit) (.list .unit))))],⟨[.v ty39],[.ref [(.list iT),iT]]⟩,[ty39,(.list iT),iT],Pw.unc3 Pw.j5w⟩
def jiM:FnD where
 N:=52
 np:=2
 cs:=[j0O,j1b,j3f,j4u]
 dw:=[(3,[[],[],[],[1344],[0,1344],[],[],[384]]),(8,[[],[],[],[],[],[],[0],[],[],[],[],[384]])]
theorem jcS:OKc j5M:=
 cOf j0d j04 jiM j5M Tryz.func16 (jg j1q (jg j25 (jg j6p (jg j9L i)))) i
def j6I:Con:=⟨10,[.ref [(.list iT),iT],.v iT],[(.list iT),iT,iT],⟨[.v ty87],[.ref [(.list iT),iT]]⟩,[ty87,(.list iT),iT],Pw.unc3 Pw.j72⟩
def jhn:FnD where
 N:=69
 np:=2
 cs:=[j0O,j8R,j7j,j5f,j5M]
 ds:=[⟨0,[sB 0 0,sB 256 0,sB 320 0,sI,.b (.cell [.d (.list iT),.d iT] e),.b (.cell [.nil,.nil,.nil,.nil] e),.b (.cell [.d ty67,.d ty57,.d ty28,.ol 1000000] e),.b (.lst 52 ty80 j)],[iT,(.list iT),iT,ty67,ty57,ty28,ty81],[⟨.exit 0,[sB 256 0,sB 320 0,.b (.cell [.d (.list iT),.d iT] e),.b (.cell [.nil,.nil,.nil,.nil] e),.b (.cell [.d ty67,.d ty57,.d ty28,.ol 1500100] e),.b (.lst 52 ty80 j)],[(.list iT),iT,ty67,ty57,ty28,ty81]⟩],Pw.unc7 (Pw.j24)⟩,⟨2,[sB 0 0,sB 256 0,sB 320 0,sI,sB 448 0,sI,.b (.cell [.d (.list iT),.d iT] e),.b (.cell [.nil,.nil,.nil,.nil] e),.b (.cell [.d ty67,.d ty57,.d ty28,.ol 1002000] e),.b (.cell [.d .str,.ol 1002001,.nil] e),.b (.lst 52 ty80 j),.b (.lst 62 ty73 e)],[iT,iT,(.list iT),iT,ty67,ty57,ty28,.str,ty81,ty74],[⟨.exit 2,[sB 0 0,sB 256 0,sB 320 0,sI,sB 448 0,.b (.cell [.d (.list iT),.d iT] e),.b (.cell [.nil,.nil,.nil,.nil] e),.b (.cell [.d ty67,.d ty57,.d ty28,.ol 1502300] e),.b (.cell [.d .str,.ol 1502301,.nil] e),.b (.lst 52 ty80 j),.b (.lst 62 ty73 e)],[iT,(.list iT),iT,ty67,ty57,ty28,.str,ty81,ty74]⟩],Pw.u8 Pw.unc2 (Pw.j22)⟩,⟨4,[sB 0 0,sB 256 0,sB 320 0,sI,sB 448 0,sI,.b (.cell [.d (.list iT),.d iT] e),.b (.cell [.nil,.nil,.nil,.nil] e),.b (.cell [.d ty67,.d ty57,.d ty28,.ol 1004000] e),.b (.cell [.d .str,.ol 1004001,.ol 1004002] e),.b (.lst 52 ty80 j),.b (.lst 62 ty73 e),.b (.lst 24 ty39 e)],[iT,iT,(.list iT),iT,ty67,ty57,ty28,.str,ty81,ty74,ty41],[⟨.exit 4,[sB 0 0,sB 256 0,sB 320 0,sI,sB 448 0,.b (.cell [.d (.list iT),.d iT] e),.b (.cell [.nil,.nil,.nil,.nil] e),.b (.cell [.d ty67,.d ty57,.d ty28,.ol 1504500] e),.b (.cell [.d .str,.ol 1504501,.ol 1504502] e),.b (.lst 52 ty80 j),.b (.lst 62 ty73 e),.b (.lst 24 ty39 e)],[iT,(.list iT),iT,ty67,ty57,ty28,.str,ty81,ty74,ty41]⟩],Pw.u8 Pw.unc3 (Pw.j23)⟩]
 keep:=[(0,⟨[0,4,5,6],[0,256,320],[⟨1000000,52,ty80,[.cell 320 3],j⟩],[]⟩),(2,⟨[0,4,5,6,7,8],[0,256,320,448],[⟨1002000,52,ty80,[.cell 320 3],e⟩,⟨1002001,62,ty73,[.cell 448 1],e⟩],[]⟩),(4,⟨[0,4,5,6,7,9],[0,256,320,448],[⟨1004000,52,ty80,[.cell 320 3],e⟩,⟨1004001,62,ty73,[.cell 448 1],e⟩,⟨1004002,24,ty39,[.cell 448 2],e⟩],[]⟩)]
 keepX:=[(0,.exit 0,⟨[4,5],[0,256,320],[⟨1500100,52,ty80,[.cell 320 3],e⟩],[]⟩),(2,.exit 2,⟨[0,4,5,6,7],[0,256,320,448],[⟨1502300,52,ty80,[.cell 320 3],e⟩,⟨1502301,62,ty73,[.cell 448 1],e⟩],[]⟩),(4,.exit 4,⟨[0,4,5,6,7],[0,256,320,448],[⟨1504500,52,ty80,[.cell 320 3],e⟩,⟨1504501,62,ty73,[.cell 448 1],e⟩,⟨1504502,24,ty39,[.cell 448 2],e⟩],[]⟩)]
 dw:=[(9,[[],[],[],[],[2432],[],[],[],[],[],[0,1002000],[2880],[2944,1002000,1002001],[],[448]]),(13,[[],[],[],[],[0],[3776],[3840,1004001,1004002],[],[448]])]
 pa:=[(16,(35,(.pair (.list .unit) (.pair (.list .unit) (.pair (.list .unit) (.list .unit))))))]
theorem jgi:OKc j6I:=
 cOf j0d j04 jhn j6I Tryz.func10 (jg j1q (jg jhl (jg jhm (jg jbH (jg jcS i))))) (jg (fun h=>by kernel_rfl) (jg (fun h=>by kernel_rfl) (jg (fun h=>by kernel_rfl) i)))
def jdw:Con:=⟨30,[.v ty87],[ty87],⟨[.raw [512,704,896,2560,1920,2112] [.s (.st [.ol 512,.ol 704,.ol 896,.ol 2560]),.b (.lst 97 ty66 e),.b (.lst 99 ty54 e),.b (.lst 103 ty24 e),.b (.row 52 ty80 1 [.d .str,.ol 1920,.ol 2112]),.b (.lst 62 ty73 e),.b (.lst 24 ty39 e)]],[]⟩,[ty67,ty57,ty28,.str,ty74,ty41],fun h=>Pw.jgR h⟩
def jqa:FnD where
 N:=43
 np:=1
 ds:=[⟨0,[],[],[],fun _=>none⟩]
 dw:=[(1,[[],[],[512],[],[],[704],[],[],[896],[],[192],[192]]),(6,[[],[],[1920],[],[],[2112],[],[320],[],[320]])]
 un:=[0]
 unr:=2
 rw:=j
 rn:=[512,704,896,2560,1920,2112]
 b1:=[39]
theorem joD:OKc jdw:=
 cOf j0d j04 jqa jdw Tryz.func30 i (jg (fun h=>by kernel_rfl) i)
def j8z:Con:=⟨11,[.ref [(.list iT),iT],.v ty87],[(.list iT),iT,ty87],⟨[.v ty87],[.ref [(.list iT),iT]]⟩,[ty87,(.list iT),iT],Pw.unc3 Pw.j9U⟩
def jkg:FnD where
 N:=289
 np:=2
 cs:=[j0O,j1b,j5M,jdw]
 dw:=[(3,[[],[],[],[],[],[],[0],[],[]]),(16,[[],[],[],[],[],[],[4544],[2112,4608],[],[],[2560]]),(18,[[],[],[],[],[],[],[0],[],[5440],[0,5440],[],[],[512]]),(20,[[],[],[],[],[],[],[0],[],[],[],[],[6528],[0,6528],[],[],[704]]),(22,[[],[],[],[],[],[],[0],[7360],[],[0],[],[],[],[],[704]]),(24,[[],[],[],[],[],[],[0],[],[8448],[0,8448],[],[],[704]]),(26,[[],[],[],[],[],[],[0],[],[9344],[0,9344],[],[9536],[0,9536],[],[9728],[],[],[704,9728]]),(28,[[],[],[10176],[],[0],[],[],[],[10560],[0,10560],[],[10752],[0,10752],[10880],[],[10880,11008],[896,11072],[],[320]]),(30,[[],[],[11456],[],[0],[],[],[],[11840],[2560,11840,11904],[],[320]]),(34,[[],[],[],[],[],[],[0],[],[]]),(36,[[],[],[],[],[],[],[],[],[],[],[0],[],[]])]
 pre:=[(54,[.rl 2560,.rl 11904])]
 b1:=[185]
 pa:=[(16,(35,(.pair (.list .unit) (.pair (.list .unit) (.pair (.list .unit) (.list .unit))))))]
 sc:=j
theorem jiN:OKc j8z:=
 cOf j0d j04 jkg j8z Tryz.func11 (jg j1q (jg j25 (jg jcS (jg joD i)))) i
def jdx:Con:=⟨268,[.v (.int .u8)],[(.int .u8)],⟨[.v .bool],[]⟩,[.bool],fun h=>Pw.jjZ h⟩
def jqb:FnD where
 N:=9
 np:=1
theorem joE:OKc jdx:=
 cOf j0d j04 jqb jdx Tryz.func268 i i
def jeN:Con:=⟨236,[.v .str],[.str],⟨[.v .bool],[]⟩,[.bool],fun h=>Pw.jj7 h⟩
def jsz:FnD where
 N:=57
 np:=1
 cs:=[jdx]
 ds:=[⟨0,[sD .str,sI],[.str,iT],[⟨.ret,[sD .bool],[.bool]⟩,⟨.exit 0,[],[]⟩],Pw.unc2 (Pw.j5m)⟩]
 keep:=[(0,⟨[0,3],[],[],[]⟩)]
 keepX:=[(0,.ret,⟨[2],[],[],[]⟩)]
theorem jqc:OKc jeN:=
 cOf j0d j04 jsz jeN Tryz.func236 (jg joE i) (jg (fun h=>by kernel_rfl) i)
def j7s:Con:=⟨189,[.v (.list .str),.v iT],[(.list .str),iT],⟨[.v iT],[]⟩,[iT],Pw.unc2 Pw.jbv⟩
def jsA:FnD where
 N:=26
 np:=2
 cs:=[jeN]
 ds:=[⟨0,[sD (.list .str),sI,sI],[(.list .str),iT,iT],[⟨.ret,[sI],[iT]⟩,⟨.exit 0,[],[]⟩],Pw.unc3 (Pw.j5n)⟩]
 keep:=[(0,⟨[0,1,5],[],[],[]⟩)]
 keepX:=[(0,.ret,⟨[4],[],[],[]⟩)]
theorem jdy:OKc j7s:=
 cOf j0d j04 jsA j7s Tryz.func189 (jg jqc i) (jg (fun h=>by kernel_rfl) i)
end Go.Proofs.Pk
