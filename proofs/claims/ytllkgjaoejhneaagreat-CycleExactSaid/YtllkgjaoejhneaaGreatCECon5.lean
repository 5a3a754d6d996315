/- bZ: each given function is its plain function, printed by a program. -/
import Derived.Test.YtllkgjaoejhneaaGreatCECon4
open Bool renaming false->c,true->i
open _root_ renaming trivial->e
noncomputable section
open Go Go.Lft
set_option linter.unusedVariables false
set_option maxRecDepth 100000
namespace Go.Proofs.Pk
def LG:Con:=⟨80,[.v ew,.v iT],[ew,iT],⟨[.v .bool],[]⟩,[.bool],Pw.unc2 Pw.jeX⟩
def ĥ:FnD where
 N:=15
 np:=2
theorem Ħ:aJ LG:=
 cOf aH aK ĥ LG Tryz.func80 e e
def LH:Con:=⟨25,[.v bC,.v iT,.v iT],[bC,iT,iT],⟨[.v iT],[]⟩,[iT],Pw.unc3 Pw.jiW⟩
def ħ:FnD where
 N:=51
 np:=3
 cs:=[LG]
 ds:=[⟨0,[sI,sI,sD bC,sI,sI],[iT,iT,bC,iT,iT],[⟨.exit 0,[sI],[iT]⟩],Pw.unc5 (Pw.j4C)⟩]
 keep:=[(0,⟨[1,2,9,10,11],[],[],[]⟩)]
 keepX:=[(0,.exit 0,⟨[1],[],[],[]⟩)]
theorem Ĩ:aJ LH:=
 cOf aH aK ħ LH Tryz.func25 (jg Ħ e) (jg (λh=>by kernel_rfl) e)
def LI:Con:=⟨68,[.v fm,.v cA,.v iT],[fm,cA,iT],⟨[.v iT],[]⟩,[iT],Pw.unc3 Pw.jgZ⟩
def ĩ:FnD where
 N:=27
 np:=3
 cs:=[LF,LH]
theorem Ī:aJ LI:=
 cOf aH aK ĩ LI Tryz.func68 (jg Ĥ (jg Ĩ e)) e
def LJ:Con:=⟨14,[.v aF,.v iT,.v iT],[aF,iT,iT],⟨[.v iT],[]⟩,[iT],Pw.unc3 Pw.jlw⟩
def ī:FnD where
 N:=30
 np:=3
 cs:=[CL,F5,LI]
theorem Ĭ:aJ LJ:=
 cOf aH aK ī LJ Tryz.func14 (jg K8 (jg SY (jg Ī e))) e
def LK:Con:=⟨87,[.v aF,.v iT,.v iT],[aF,iT,iT],⟨[.v iT],[]⟩,[iT],Pw.unc3 Pw.je7⟩
def ĭ:FnD where
 N:=11
 np:=3
 cs:=[LJ]
theorem Į:aJ LK:=
 cOf aH aK ĭ LK Tryz.func87 (jg Ĭ e) e
def CM:Con:=⟨36,[.v aF,.v iT,.v iT],[aF,iT,iT],⟨[.v iT,.v iT],[]⟩,[iT,iT],Pw.unc3 Pw.jbP⟩
def į:FnD where
 N:=23
 np:=3
 cs:=[yO,LK]
theorem LL:aJ CM:=
 cOf aH aK į CM Tryz.func36 (jg Gc (jg Į e)) e
def Ge:Con:=⟨27,[],[],⟨[.v .bool],[]⟩,[.bool],λh=>Pw.j7c⟩
def İ:FnD where
 N:=85
 np:=0
 cs:=[yL,yN,yO,CM]
theorem Td:aJ Ge:=
 cOf aH aK İ Ge Tryz.func27 (jg FX (jg F4 (jg Gc (jg LL e)))) e
def Gf:Con:=⟨9,[.v (.list iT)],[(.list iT)],⟨[.box [(.list iT),iT]],[]⟩,[(.list iT),iT],λh=>Pw.jbQ h⟩
def ı:FnD where
 N:=6
 np:=1
theorem Te:aJ Gf:=
 cOf aH aK ı Gf Tryz.func9 e e
def ml:Con:=⟨12,[.ref [(.list iT),iT],.v iT],[(.list iT),iT,iT],⟨[.v iT],[.ref [(.list iT),iT]]⟩,[iT,(.list iT),iT],Pw.unc3 Pw.j02⟩
def Ĳ:FnD where
 N:=45
 np:=2
theorem nG:aJ ml:=
 cOf aH aK Ĳ ml Tryz.func12 e e
def oc:Con:=⟨31,[.ref [(.list iT),iT],.v (.list iT)],[(.list iT),iT,(.list iT)],⟨[.v iT],[.ref [(.list iT),iT]]⟩,[iT,(.list iT),iT],Pw.unc3 Pw.j03⟩
def ĳ:FnD where
 N:=12
 np:=2
 cs:=[ml]
theorem qR:aJ oc:=
 cOf aH aK ĳ oc Tryz.func31 (jg nG e) e
def LM:Con:=⟨116,[.ref [(.list iT),iT],.v .str],[(.list iT),iT,.str],⟨[.v aU],[.ref [(.list iT),iT]]⟩,[aU,(.list iT),iT],Pw.unc3 Pw.j8t⟩
def Ĵ:FnD where
 N:=98
 np:=2
 cs:=[ml,oc]
 dw:=[(7,[[],[],[0],[],[],[0],[],[0],[],[],[],[],[0],[],[],[],[],[],[],[0],[],[],[3968],[0,3968],[],[0],[],[0],[],[],[],[],[4608],[],[320]]),(9,[[],[],[],[5056],[0,5056],[],[]])]
theorem ĵ:aJ LM:=
 cOf aH aK Ĵ LM Tryz.func116 (jg nG (jg qR e)) e
def Gg:Con:=⟨64,[],[],⟨[.own 9 (.list .str)],[]⟩,[(.list .str)],λh=>Pw.jbR⟩
def Ķ:FnD where
 N:=2
 np:=0
 ro:=[i]
theorem Tf:aJ Gg:=
 cOf aH aK Ķ Gg Tryz.func64 e e
def yP:Con:=⟨65,[.ref [(.list iT),iT],.v iT],[(.list iT),iT,iT],⟨[.v .bool],[.ref [(.list iT),iT]]⟩,[.bool,(.list iT),iT],Pw.unc3 Pw.j11⟩
def ķ:FnD where
 N:=11
 np:=2
 cs:=[ml]
theorem Gj:aJ yP:=
 cOf aH aK ķ yP Tryz.func65 (jg nG e) e
def Gk:Con:=⟨90,[.ref [(.list iT),iT]],[(.list iT),iT],⟨[.own 101 aB],[.ref [(.list iT),iT]]⟩,[aB,(.list iT),iT],Pw.unc2 Pw.j3A⟩
def ĸ:FnD where
 N:=38
 np:=1
 cs:=[ml,oc]
 ds:=[⟨0,[sB 0 0,sO 1000000,sI,sI,.b (.cell [.d (.list iT),.d iT] c),.b (.lst 101 bT c)],[iT,iT,(.list iT),iT,aB],[⟨.exit 0,[sO 1500100,.b (.cell [.d (.list iT),.d iT] c),.b (.lst 101 bT c)],[(.list iT),iT,aB]⟩],Pw.unc5 (Pw.j1P)⟩]
 keep:=[(0,⟨[0,3,4,5],[0],[⟨1000000,101,bT,[.slot 3],c⟩],[]⟩)]
 keepX:=[(0,.exit 0,⟨[3],[0],[⟨1500100,101,bT,[.slot 3],c⟩],[]⟩)]
 ro:=[i]
theorem Tg:aJ Gk:=
 cOf aH aK ĸ Gk Tryz.func90 (jg nG (jg qR e)) (jg (λh=>by kernel_rfl) e)
def LN:Con:=⟨63,[.ref [(.list iT),iT]],[(.list iT),iT],⟨[.vn aF [3]],[.ref [(.list iT),iT]]⟩,[aF,(.list iT),iT],Pw.unc2 Pw.j7t⟩
def Ĺ:FnD where
 N:=109
 np:=1
 cs:=[ml,oc,LM,Gg,yP,Gk]
 ds:=[⟨0,[sB 0 0,sB 128 0,sB 192 0,sI,.b (.cell [.d (.list iT),.d iT] c),.b (.cell [.nil,.nil,.nil,.nil] c),.b (.cell [.ol 1000000,.nil,.nil,.nil] c),.b (.lst 97 aU c)],[iT,(.list iT),iT,aw],[⟨.exit 0,[sB 0 0,sB 128 0,sB 192 0,.b (.cell [.d (.list iT),.d iT] c),.b (.cell [.nil,.nil,.nil,.nil] c),.b (.cell [.ol 1500100,.nil,.nil,.nil] c),.b (.lst 97 aU c)],[(.list iT),iT,aw]⟩],Pw.unc4 (Pw.j2h)⟩,⟨2,[sB 0 0,sB 128 0,sB 192 0,sI,.b (.cell [.d (.list iT),.d iT] c),.b (.cell [.nil,.nil,.nil,.nil] c),.b (.cell [.ol 1002000,.ol 1002001,.nil,.nil] c),.b (.lst 97 aU c),.b (.lst 99 fg c)],[iT,(.list iT),iT,aw,aA],[⟨.exit 2,[sB 0 0,sB 128 0,sB 192 0,.b (.cell [.d (.list iT),.d iT] c),.b (.cell [.nil,.nil,.nil,.nil] c),.b (.cell [.ol 1502300,.ol 1502301,.nil,.nil] c),.b (.lst 97 aU c),.b (.lst 99 fg c)],[(.list iT),iT,aw,aA]⟩],Pw.unc5 (Pw.j2i)⟩,⟨4,[sB 0 0,sB 128 0,sB 192 0,sI,.b (.cell [.d (.list iT),.d iT] c),.b (.cell [.nil,.nil,.nil,.nil] c),.b (.cell [.ol 1004000,.ol 1004001,.ol 1004002,.nil] c),.b (.lst 97 aU c),.b (.lst 99 fg c),.b (.lst 103 fe c)],[iT,(.list iT),iT,aw,aA,az],[⟨.exit 4,[sB 128 0,sB 192 0,.b (.cell [.d (.list iT),.d iT] c),.b (.cell [.nil,.nil,.nil,.nil] c),.b (.cell [.ol 1504500,.ol 1504501,.ol 1504502,.nil] c),.b (.lst 97 aU c),.b (.lst 99 fg c),.b (.lst 103 fe c)],[(.list iT),iT,aw,aA,az]⟩],Pw.unc6 (Pw.j2k)⟩,⟨6,[sB 0 0,sB 128 0,sB 192 0,sI,sB 512 0,sI,sI,.b (.cell [.d (.list iT),.d iT] c),.b (.cell [.nil,.nil,.nil,.nil] c),.b (.cell [.ol 1006000,.ol 1006001,.ol 1006002,.nil] c),.b (.cell [.d .str,.d iT,.ol 1006003] c),.b (.lst 97 aU c),.b (.lst 99 fg c),.b (.lst 103 fe c),.b (.lst 3 iT c)],[iT,iT,iT,(.list iT),iT,.str,iT,aw,aA,az,(.list iT)],[⟨.exit 6,[sB 0 0,sB 128 0,sB 192 0,sI,sB 512 0,.b (.cell [.d (.list iT),.d iT] c),.b (.cell [.nil,.nil,.nil,.nil] c),.b (.cell [.ol 1506700,.ol 1506701,.ol 1506702,.nil] c),.b (.cell [.d .str,.d iT,.ol 1506703] c),.b (.lst 97 aU c),.b (.lst 99 fg c),.b (.lst 103 fe c),.b (.lst 3 iT c)],[iT,(.list iT),iT,.str,iT,aw,aA,az,(.list iT)]⟩],Pw.u8 Pw.unc3 (Pw.j2j)⟩]
 keep:=[(0,⟨[0,2,3,4],[0,128,192],[⟨1000000,97,aU,[.cell 192 0],c⟩],[]⟩),(2,⟨[0,2,3,5],[0,128,192],[⟨1002000,97,aU,[.cell 192 0],c⟩,⟨1002001,99,fg,[.cell 192 1],c⟩],[]⟩),(4,⟨[0,2,3,7],[0,128,192],[⟨1004000,97,aU,[.cell 192 0],c⟩,⟨1004001,99,fg,[.cell 192 1],c⟩,⟨1004002,103,fe,[.cell 192 2],c⟩],[]⟩),(6,⟨[0,2,3,7,8,9,10],[0,128,192,512],[⟨1006000,97,aU,[.cell 192 0],c⟩,⟨1006001,99,fg,[.cell 192 1],c⟩,⟨1006002,103,fe,[.cell 192 2],c⟩,⟨1006003,3,iT,[.cell 512 2],c⟩],[]⟩)]
 keepX:=[(0,.exit 0,⟨[0,2,3],[0,128,192],[⟨1500100,97,aU,[.cell 192 0],c⟩],[]⟩),(2,.exit 2,⟨[0,2,3],[0,128,192],[⟨1502300,97,aU,[.cell 192 0],c⟩,⟨1502301,99,fg,[.cell 192 1],c⟩],[]⟩),(4,.exit 4,⟨[2,3],[0,128,192],[⟨1504500,97,aU,[.cell 192 0],c⟩,⟨1504501,99,fg,[.cell 192 1],c⟩,⟨1504502,103,fe,[.cell 192 2],c⟩],[]⟩),(6,.exit 6,⟨[0,2,3,7,8],[0,128,192,512],[⟨1506700,97,aU,[.cell 192 0],c⟩,⟨1506701,99,fg,[.cell 192 1],c⟩,⟨1506702,103,fe,[.cell 192 2],c⟩,⟨1506703,3,iT,[.cell 512 2],c⟩],[]⟩)]
 dw:=[(5,[[],[],[],[1344],[],[],[],[],[],[0],[1792],[1856,1000000],[],[192]]),(9,[[2432],[],[],[],[],[],[],[],[],[],[0],[],[0],[],[384],[384]])]
 ns:=[3]
theorem ĺ:aJ LN:=
 cOf aH aK Ĺ LN Tryz.func63 (jg nG (jg qR (jg ĵ (jg Tf (jg Gj (jg Tg e)))))) (jg (λh=>by kernel_rfl) (jg (λh=>by kernel_rfl) (jg (λh=>by kernel_rfl) (jg (λh=>by kernel_rfl) e))))
def LO:Con:=⟨39,[.ref [(.list iT),iT],.v aF,.v .str],[(.list iT),iT,aF,.str],⟨[.v aY],[.ref [(.list iT),iT]]⟩,[aY,(.list iT),iT],Pw.unc4 Pw.j7u⟩
def Ļ:FnD where
 N:=77
 np:=3
 cs:=[ml,oc,yP,Gk]
 ds:=[⟨0,[sB 0 0,sB 256 0,sB 384 0,sB 448 0,sI,.b (.cell [.d (.list iT),.d iT] c),.b (.cell [.d aw,.d aA,.d az,.d aC] c),.b (.cell [.d .str,.d iT,.d iT,.d iT,.d iT,.d iT,.nil,.nil,.d iT,.d iT] c),.b (.cell [.d .str,.d iT,.d iT,.d iT,.d iT,.d iT,.ol 1000000,.nil,.d iT,.d iT] c),.b (.lst 3 iT c)],[iT,(.list iT),iT,aw,aA,az,aC,.str,iT,iT,iT,iT,iT,iT,iT,.str,iT,iT,iT,iT,iT,iT,iT,(.list iT)],[⟨.exit 0,[sB 0 0,sB 256 0,sB 384 0,sB 448 0,.b (.cell [.d (.list iT),.d iT] c),.b (.cell [.d aw,.d aA,.d az,.d aC] c),.b (.cell [.d .str,.d iT,.d iT,.d iT,.d iT,.d iT,.nil,.nil,.d iT,.d iT] c),.b (.cell [.d .str,.d iT,.d iT,.d iT,.d iT,.d iT,.ol 1500100,.nil,.d iT,.d iT] c),.b (.lst 3 iT c)],[(.list iT),iT,aw,aA,az,aC,.str,iT,iT,iT,iT,iT,iT,iT,.str,iT,iT,iT,iT,iT,iT,iT,(.list iT)]⟩],Pw.u8 (Pw.u8 Pw.unc8) (Pw.j2l)⟩]
 keep:=[(0,⟨[0,4,6,7,8],[0,256,384,448],[⟨1000000,3,iT,[.cell 448 6],c⟩],[]⟩)]
 keepX:=[(0,.exit 0,⟨[0,4,6,7],[0,256,384,448],[⟨1500100,3,iT,[.cell 448 6],c⟩],[]⟩)]
 dw:=[(7,[[],[],[],[],[],[],[0],[3200],[3264,1000000],[],[448]])]
theorem ļ:aJ LO:=
 cOf aH aK Ļ LO Tryz.func39 (jg nG (jg qR (jg Gj (jg Tg e)))) (jg (λh=>by kernel_rfl) e)
def CN:Con:=⟨13,[.ref [(.list iT),iT]],[(.list iT),iT],⟨[.v iT],[.ref [(.list iT),iT]]⟩,[iT,(.list iT),iT],Pw.unc2 Pw.j3B⟩
def Ľ:FnD where
 N:=16
 np:=1
 cs:=[ml,oc,yP]
theorem LQ:aJ CN:=
 cOf aH aK Ľ CN Tryz.func13 (jg nG (jg qR (jg Gj e))) e
def CO:Con:=⟨16,[.ref [(.list iT),iT],.v (.pair (.list .unit) (.pair (.list .unit) (.pair (.list .unit) (.list .unit))))],[(.list iT),iT,(.pair (.list .unit) (.pair (.list .unit) (.pair (.list .unit) (.list .unit))))],⟨[.v ew],[.ref [(.list iT),iT]]⟩,[ew,(.list iT),iT],Pw.unc3 Pw.j3x⟩
def ľ:FnD where
 N:=52
 np:=2
 cs:=[ml,oc,yP,CN]
 dw:=[(3,[[],[],[],[1344],[0,1344],[],[],[384]]),(8,[[],[],[],[],[],[],[0],[],[],[],[],[384]])]
theorem LS:aJ CO:=
 cOf aH aK ľ CO Tryz.func16 (jg nG (jg qR (jg Gj (jg LQ e)))) e
def Gl:Con:=⟨10,[.ref [(.list iT),iT],.v iT],[(.list iT),iT,iT],⟨[.v aF],[.ref [(.list iT),iT]]⟩,[aF,(.list iT),iT],Pw.unc3 Pw.j3a⟩
def Ŀ:FnD where
 N:=69
 np:=2
 cs:=[ml,Gg,LN,LO,CO]
 ds:=[⟨0,[sB 0 0,sB 256 0,sB 320 0,sI,.b (.cell [.d (.list iT),.d iT] c),.b (.cell [.nil,.nil,.nil,.nil] c),.b (.cell [.d aw,.d aA,.d az,.ol 1000000] c),.b (.lst 52 cA i)],[iT,(.list iT),iT,aw,aA,az,aC],[⟨.exit 0,[sB 256 0,sB 320 0,.b (.cell [.d (.list iT),.d iT] c),.b (.cell [.nil,.nil,.nil,.nil] c),.b (.cell [.d aw,.d aA,.d az,.ol 1500100] c),.b (.lst 52 cA i)],[(.list iT),iT,aw,aA,az,aC]⟩],Pw.unc7 (Pw.j26)⟩,⟨2,[sB 0 0,sB 256 0,sB 320 0,sI,sB 448 0,sI,.b (.cell [.d (.list iT),.d iT] c),.b (.cell [.nil,.nil,.nil,.nil] c),.b (.cell [.d aw,.d aA,.d az,.ol 1002000] c),.b (.cell [.d .str,.ol 1002001,.nil] c),.b (.lst 52 cA i),.b (.lst 62 aY c)],[iT,iT,(.list iT),iT,aw,aA,az,.str,aC,bu],[⟨.exit 2,[sB 0 0,sB 256 0,sB 320 0,sI,sB 448 0,.b (.cell [.d (.list iT),.d iT] c),.b (.cell [.nil,.nil,.nil,.nil] c),.b (.cell [.d aw,.d aA,.d az,.ol 1502300] c),.b (.cell [.d .str,.ol 1502301,.nil] c),.b (.lst 52 cA i),.b (.lst 62 aY c)],[iT,(.list iT),iT,aw,aA,az,.str,aC,bu]⟩],Pw.u8 Pw.unc2 (Pw.j24)⟩,⟨4,[sB 0 0,sB 256 0,sB 320 0,sI,sB 448 0,sI,.b (.cell [.d (.list iT),.d iT] c),.b (.cell [.nil,.nil,.nil,.nil] c),.b (.cell [.d aw,.d aA,.d az,.ol 1004000] c),.b (.cell [.d .str,.ol 1004001,.ol 1004002] c),.b (.lst 52 cA i),.b (.lst 62 aY c),.b (.lst 24 ew c)],[iT,iT,(.list iT),iT,aw,aA,az,.str,aC,bu,bC],[⟨.exit 4,[sB 0 0,sB 256 0,sB 320 0,sI,sB 448 0,.b (.cell [.d (.list iT),.d iT] c),.b (.cell [.nil,.nil,.nil,.nil] c),.b (.cell [.d aw,.d aA,.d az,.ol 1504500] c),.b (.cell [.d .str,.ol 1504501,.ol 1504502] c),.b (.lst 52 cA i),.b (.lst 62 aY c),.b (.lst 24 ew c)],[iT,(.list iT),iT,aw,aA,az,.str,aC,bu,bC]⟩],Pw.u8 Pw.unc3 (Pw.j25)⟩]
 keep:=[(0,⟨[0,4,5,6],[0,256,320],[⟨1000000,52,cA,[.cell 320 3],i⟩],[]⟩),(2,⟨[0,4,5,6,7,8],[0,256,320,448],[⟨1002000,52,cA,[.cell 320 3],c⟩,⟨1002001,62,aY,[.cell 448 1],c⟩],[]⟩),(4,⟨[0,4,5,6,7,9],[0,256,320,448],[⟨1004000,52,cA,[.cell 320 3],c⟩,⟨1004001,62,aY,[.cell 448 1],c⟩,⟨1004002,24,ew,[.cell 448 2],c⟩],[]⟩)]
 keepX:=[(0,.exit 0,⟨[4,5],[0,256,320],[⟨1500100,52,cA,[.cell 320 3],c⟩],[]⟩),(2,.exit 2,⟨[0,4,5,6,7],[0,256,320,448],[⟨1502300,52,cA,[.cell 320 3],c⟩,⟨1502301,62,aY,[.cell 448 1],c⟩],[]⟩),(4,.exit 4,⟨[0,4,5,6,7],[0,256,320,448],[⟨1504500,52,cA,[.cell 320 3],c⟩,⟨1504501,62,aY,[.cell 448 1],c⟩,⟨1504502,24,ew,[.cell 448 2],c⟩],[]⟩)]
 dw:=[(9,[[],[],[],[],[2432],[],[],[],[],[],[0,1002000],[2880],[2944,1002000,1002001],[],[448]]),(13,[[],[],[],[],[0],[3776],[3840,1004001,1004002],[],[448]])]
 pa:=[(16,(35,(.pair (.list .unit) (.pair (.list .unit) (.pair (.list .unit) (.list .unit))))))]
theorem Th:aJ Gl:=
 cOf aH aK Ŀ Gl Tryz.func10 (jg nG (jg Tf (jg ĺ (jg ļ (jg LS e))))) (jg (λh=>by kernel_rfl) (jg (λh=>by kernel_rfl) (jg (λh=>by kernel_rfl) e)))
def CP:Con:=⟨29,[.v aY],[aY],⟨[.v iT,.v iT],[]⟩,[iT,iT],λh=>Pw.j5y h⟩
def ŀ:FnD where
 N:=46
 np:=1
 dw:=[(3,[[],[],[],[],[],[],[2560],[],[],[],[],[],[],[]])]
theorem LU:aJ CP:=
 cOf aH aK ŀ CP Tryz.func29 e e
end Go.Proofs.Pk
