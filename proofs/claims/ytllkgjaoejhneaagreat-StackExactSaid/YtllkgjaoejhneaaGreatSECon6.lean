/- cJ: each given function is its plain function, printed by a program. -/
import Derived.Test.YtllkgjaoejhneaaGreatSECon5
open Bool renaming false->e,true->j
open _root_ renaming trivial->i
noncomputable section
open Go Go.Lft
set_option linter.unusedVariables false
set_option maxRecDepth 100000
namespace Go.Proofs.Pk
def O1:Con:=⟨116,[.ref [(.list iT),iT],.v .str],[(.list iT),iT,.str],⟨[.v bh],[.ref [(.list iT),iT]]⟩,[bh,(.list iT),iT],Pw.unc3 Pw.j9L⟩
def jk3:FnD where
 N:=98
 np:=2
 cs:=[oe,sS]
 dw:=[(7,[[],[],[0],[],[],[0],[],[0],[],[],[],[],[0],[],[],[],[],[],[],[0],[],[],[3968],[0,3968],[],[0],[],[0],[],[],[],[],[4608],[],[320]]),(9,[[],[],[],[5056],[0,5056],[],[]])]
theorem jje:aN O1:=
 cOf aP aQ jk3 O1 Tryz.func116 (jg pS (jg wI i)) i
def IU:Con:=⟨64,[],[],⟨[.own 9 (.list .str)],[]⟩,[(.list .str)],λh=>Pw.jdD⟩
def jqf:FnD where
 N:=2
 np:=0
 ro:=[j]
theorem Xf:aN IU:=
 cOf aP aQ jqf IU Tryz.func64 i i
def B1:Con:=⟨65,[.ref [(.list iT),iT],.v iT],[(.list iT),iT,iT],⟨[.v .bool],[.ref [(.list iT),iT]]⟩,[.bool,(.list iT),iT],Pw.unc3 Pw.j1d⟩
def jk4:FnD where
 N:=11
 np:=2
 cs:=[oe]
theorem IV:aN B1:=
 cOf aP aQ jk4 B1 Tryz.func65 (jg pS i) i
def IW:Con:=⟨90,[.ref [(.list iT),iT]],[(.list iT),iT],⟨[.own 101 ag],[.ref [(.list iT),iT]]⟩,[ag,(.list iT),iT],Pw.unc2 Pw.j4c⟩
def jho:FnD where
 N:=38
 np:=1
 cs:=[oe,sS]
 ds:=[⟨0,[sB 0 0,sO 1000000,sI,sI,.b (.cell [.d (.list iT),.d iT] e),.b (.lst 101 aT e)],[iT,iT,(.list iT),iT,ag],[⟨.exit 0,[sO 1500100,.b (.cell [.d (.list iT),.d iT] e),.b (.lst 101 aT e)],[(.list iT),iT,ag]⟩],Pw.unc5 (Pw.j24)⟩]
 keep:=[(0,⟨[0,3,4,5],[0],[⟨1000000,101,aT,[.slot 3],e⟩],[]⟩)]
 keepX:=[(0,.exit 0,⟨[3],[0],[⟨1500100,101,aT,[.slot 3],e⟩],[]⟩)]
 ro:=[j]
theorem Xg:aN IW:=
 cOf aP aQ jho IW Tryz.func90 (jg pS (jg wI i)) (jg (λh=>by kernel_rfl) i)
def O2:Con:=⟨63,[.ref [(.list iT),iT]],[(.list iT),iT],⟨[.vn aR [3]],[.ref [(.list iT),iT]]⟩,[aR,(.list iT),iT],Pw.unc2 Pw.j8I⟩
def jjf:FnD where
 N:=109
 np:=1
 cs:=[oe,sS,O1,IU,B1,IW]
 ds:=[⟨0,[sB 0 0,sB 128 0,sB 192 0,sI,.b (.cell [.d (.list iT),.d iT] e),.b (.cell [.nil,.nil,.nil,.nil] e),.b (.cell [.ol 1000000,.nil,.nil,.nil] e),.b (.lst 97 bh e)],[iT,(.list iT),iT,aA],[⟨.exit 0,[sB 0 0,sB 128 0,sB 192 0,.b (.cell [.d (.list iT),.d iT] e),.b (.cell [.nil,.nil,.nil,.nil] e),.b (.cell [.ol 1500100,.nil,.nil,.nil] e),.b (.lst 97 bh e)],[(.list iT),iT,aA]⟩],Pw.unc4 (Pw.j2y)⟩,⟨2,[sB 0 0,sB 128 0,sB 192 0,sI,.b (.cell [.d (.list iT),.d iT] e),.b (.cell [.nil,.nil,.nil,.nil] e),.b (.cell [.ol 1002000,.ol 1002001,.nil,.nil] e),.b (.lst 97 bh e),.b (.lst 99 fB e)],[iT,(.list iT),iT,aA,aC],[⟨.exit 2,[sB 0 0,sB 128 0,sB 192 0,.b (.cell [.d (.list iT),.d iT] e),.b (.cell [.nil,.nil,.nil,.nil] e),.b (.cell [.ol 1502300,.ol 1502301,.nil,.nil] e),.b (.lst 97 bh e),.b (.lst 99 fB e)],[(.list iT),iT,aA,aC]⟩],Pw.unc5 (Pw.j2z)⟩,⟨4,[sB 0 0,sB 128 0,sB 192 0,sI,.b (.cell [.d (.list iT),.d iT] e),.b (.cell [.nil,.nil,.nil,.nil] e),.b (.cell [.ol 1004000,.ol 1004001,.ol 1004002,.nil] e),.b (.lst 97 bh e),.b (.lst 99 fB e),.b (.lst 103 fg e)],[iT,(.list iT),iT,aA,aC,aB],[⟨.exit 4,[sB 128 0,sB 192 0,.b (.cell [.d (.list iT),.d iT] e),.b (.cell [.nil,.nil,.nil,.nil] e),.b (.cell [.ol 1504500,.ol 1504501,.ol 1504502,.nil] e),.b (.lst 97 bh e),.b (.lst 99 fB e),.b (.lst 103 fg e)],[(.list iT),iT,aA,aC,aB]⟩],Pw.unc6 (Pw.j2B)⟩,⟨6,[sB 0 0,sB 128 0,sB 192 0,sI,sB 512 0,sI,sI,.b (.cell [.d (.list iT),.d iT] e),.b (.cell [.nil,.nil,.nil,.nil] e),.b (.cell [.ol 1006000,.ol 1006001,.ol 1006002,.nil] e),.b (.cell [.d .str,.d iT,.ol 1006003] e),.b (.lst 97 bh e),.b (.lst 99 fB e),.b (.lst 103 fg e),.b (.lst 3 iT e)],[iT,iT,iT,(.list iT),iT,.str,iT,aA,aC,aB,(.list iT)],[⟨.exit 6,[sB 0 0,sB 128 0,sB 192 0,sI,sB 512 0,.b (.cell [.d (.list iT),.d iT] e),.b (.cell [.nil,.nil,.nil,.nil] e),.b (.cell [.ol 1506700,.ol 1506701,.ol 1506702,.nil] e),.b (.cell [.d .str,.d iT,.ol 1506703] e),.b (.lst 97 bh e),.b (.lst 99 fB e),.b (.lst 103 fg e),.b (.lst 3 iT e)],[iT,(.list iT),iT,.str,iT,aA,aC,aB,(.list iT)]⟩],Pw.u8 Pw.unc3 (Pw.j2A)⟩]
 keep:=[(0,⟨[0,2,3,4],[0,128,192],[⟨1000000,97,bh,[.cell 192 0],e⟩],[]⟩),(2,⟨[0,2,3,5],[0,128,192],[⟨1002000,97,bh,[.cell 192 0],e⟩,⟨1002001,99,fB,[.cell 192 1],e⟩],[]⟩),(4,⟨[0,2,3,7],[0,128,192],[⟨1004000,97,bh,[.cell 192 0],e⟩,⟨1004001,99,fB,[.cell 192 1],e⟩,⟨1004002,103,fg,[.cell 192 2],e⟩],[]⟩),(6,⟨[0,2,3,7,8,9,10],[0,128,192,512],[⟨1006000,97,bh,[.cell 192 0],e⟩,⟨1006001,99,fB,[.cell 192 1],e⟩,⟨1006002,103,fg,[.cell 192 2],e⟩,⟨1006003,3,iT,[.cell 512 2],e⟩],[]⟩)]
 keepX:=[(0,.exit 0,⟨[0,2,3],[0,128,192],[⟨1500100,97,bh,[.cell 192 0],e⟩],[]⟩),(2,.exit 2,⟨[0,2,3],[0,128,192],[⟨1502300,97,bh,[.cell 192 0],e⟩,⟨1502301,99,fB,[.cell 192 1],e⟩],[]⟩),(4,.exit 4,⟨[2,3],[0,128,192],[⟨1504500,97,bh,[.cell 192 0],e⟩,⟨1504501,99,fB,[.cell 192 1],e⟩,⟨1504502,103,fg,[.cell 192 2],e⟩],[]⟩),(6,.exit 6,⟨[0,2,3,7,8],[0,128,192,512],[⟨1506700,97,bh,[.cell 192 0],e⟩,⟨1506701,99,fB,[.cell 192 1],e⟩,⟨1506702,103,fg,[.cell 192 2],e⟩,⟨1506703,3,iT,[.cell 512 2],e⟩],[]⟩)]
 dw:=[(5,[[],[],[],[1344],[],[],[],[],[],[0],[1792],[1856,1000000],[],[192]]),(9,[[2432],[],[],[],[],[],[],[],[],[],[0],[],[0],[],[384],[384]])]
 ns:=[3]
theorem jiy:aN O2:=
 cOf aP aQ jjf O2 Tryz.func63 (jg pS (jg wI (jg jje (jg Xf (jg IV (jg Xg i)))))) (jg (λh=>by kernel_rfl) (jg (λh=>by kernel_rfl) (jg (λh=>by kernel_rfl) (jg (λh=>by kernel_rfl) i))))
def O3:Con:=⟨39,[.ref [(.list iT),iT],.v aR,.v .str],[(.list iT),iT,aR,.str],⟨[.v bu],[.ref [(.list iT),iT]]⟩,[bu,(.list iT),iT],Pw.unc4 Pw.j8J⟩
def jjg:FnD where
 N:=77
 np:=3
 cs:=[oe,sS,B1,IW]
 ds:=[⟨0,[sB 0 0,sB 256 0,sB 384 0,sB 448 0,sI,.b (.cell [.d (.list iT),.d iT] e),.b (.cell [.d aA,.d aC,.d aB,.d aG] e),.b (.cell [.d .str,.d iT,.d iT,.d iT,.d iT,.d iT,.nil,.nil,.d iT,.d iT] e),.b (.cell [.d .str,.d iT,.d iT,.d iT,.d iT,.d iT,.ol 1000000,.nil,.d iT,.d iT] e),.b (.lst 3 iT e)],[iT,(.list iT),iT,aA,aC,aB,aG,.str,iT,iT,iT,iT,iT,iT,iT,.str,iT,iT,iT,iT,iT,iT,iT,(.list iT)],[⟨.exit 0,[sB 0 0,sB 256 0,sB 384 0,sB 448 0,.b (.cell [.d (.list iT),.d iT] e),.b (.cell [.d aA,.d aC,.d aB,.d aG] e),.b (.cell [.d .str,.d iT,.d iT,.d iT,.d iT,.d iT,.nil,.nil,.d iT,.d iT] e),.b (.cell [.d .str,.d iT,.d iT,.d iT,.d iT,.d iT,.ol 1500100,.nil,.d iT,.d iT] e),.b (.lst 3 iT e)],[(.list iT),iT,aA,aC,aB,aG,.str,iT,iT,iT,iT,iT,iT,iT,.str,iT,iT,iT,iT,iT,iT,iT,(.list iT)]⟩],Pw.u8 (Pw.u8 Pw.unc8) (Pw.j2C)⟩]
 keep:=[(0,⟨[0,4,6,7,8],[0,256,384,448],[⟨1000000,3,iT,[.cell 448 6],e⟩],[]⟩)]
 keepX:=[(0,.exit 0,⟨[0,4,6,7],[0,256,384,448],[⟨1500100,3,iT,[.cell 448 6],e⟩],[]⟩)]
 dw:=[(7,[[],[],[],[],[],[],[0],[3200],[3264,1000000],[],[448]])]
theorem jiz:aN O3:=
 cOf aP aQ jjg O3 Tryz.func39 (jg pS (jg wI (jg IV (jg Xg i)))) (jg (λh=>by kernel_rfl) i)
def IX:Con:=⟨13,[.ref [(.list iT),iT]],[(.list iT),iT],⟨[.v iT],[.ref [(.list iT),iT]]⟩,[iT,(.list iT),iT],Pw.unc2 Pw.j2Y⟩
def jhp:FnD where
 N:=16
 np:=1
 cs:=[oe,sS,B1]
theorem Xh:aN IX:=
 cOf aP aQ jhp IX Tryz.func13 (jg pS (jg wI (jg IV i))) i
def E7:Con:=⟨16,[.ref [(.list iT),iT],.v (.pair (.list .unit) (.pair (.list .unit) (.pair (.list .unit) (.list .unit))))],[(.list iT),iT,(.pair (.list .unit) (.pair (.list .unit) (.pair (.list .unit) (.list .unit))))],⟨[.v fQ],[.ref [(.list iT),iT]]⟩,[fQ,(.list iT),iT],Pw.unc3 Pw.j49⟩
def jk5:FnD where
 N:=52
 np:=2
 cs:=[oe,sS,B1,IX]
 dw:=[(3,[[],[],[],[1344],[0,1344],[],[],[384]]),(8,[[],[],[],[],[],[],[0],[],[],[],[],[384]])]
theorem O4:aN E7:=
 cOf aP aQ jk5 E7 Tryz.func16 (jg pS (jg wI (jg IV (jg Xh i)))) i
def O5:Con:=⟨10,[.ref [(.list iT),iT],.v iT],[(.list iT),iT,iT],⟨[.v aR],[.ref [(.list iT),iT]]⟩,[aR,(.list iT),iT],Pw.unc3 Pw.j7R⟩
def jiA:FnD where
 N:=69
 np:=2
 cs:=[oe,IU,O2,O3,E7]
 ds:=[⟨0,[sB 0 0,sB 256 0,sB 320 0,sI,.b (.cell [.d (.list iT),.d iT] e),.b (.cell [.nil,.nil,.nil,.nil] e),.b (.cell [.d aA,.d aC,.d aB,.ol 1000000] e),.b (.lst 52 cD j)],[iT,(.list iT),iT,aA,aC,aB,aG],[⟨.exit 0,[sB 256 0,sB 320 0,.b (.cell [.d (.list iT),.d iT] e),.b (.cell [.nil,.nil,.nil,.nil] e),.b (.cell [.d aA,.d aC,.d aB,.ol 1500100] e),.b (.lst 52 cD j)],[(.list iT),iT,aA,aC,aB,aG]⟩],Pw.unc7 (Pw.j2h)⟩,⟨2,[sB 0 0,sB 256 0,sB 320 0,sI,sB 448 0,sI,.b (.cell [.d (.list iT),.d iT] e),.b (.cell [.nil,.nil,.nil,.nil] e),.b (.cell [.d aA,.d aC,.d aB,.ol 1002000] e),.b (.cell [.d .str,.ol 1002001,.nil] e),.b (.lst 52 cD j),.b (.lst 62 bu e)],[iT,iT,(.list iT),iT,aA,aC,aB,.str,aG,bL],[⟨.exit 2,[sB 0 0,sB 256 0,sB 320 0,sI,sB 448 0,.b (.cell [.d (.list iT),.d iT] e),.b (.cell [.nil,.nil,.nil,.nil] e),.b (.cell [.d aA,.d aC,.d aB,.ol 1502300] e),.b (.cell [.d .str,.ol 1502301,.nil] e),.b (.lst 52 cD j),.b (.lst 62 bu e)],[iT,(.list iT),iT,aA,aC,aB,.str,aG,bL]⟩],Pw.u8 Pw.unc2 (Pw.j2f)⟩,⟨4,[sB 0 0,sB 256 0,sB 320 0,sI,sB 448 0,sI,.b (.cell [.d (.list iT),.d iT] e),.b (.cell [.nil,.nil,.nil,.nil] e),.b (.cell [.d aA,.d aC,.d aB,.ol 1004000] e),.b (.cell [.d .str,.ol 1004001,.ol 1004002] e),.b (.lst 52 cD j),.b (.lst 62 bu e),.b (.lst 24 fQ e)],[iT,iT,(.list iT),iT,aA,aC,aB,.str,aG,bL,bV],[⟨.exit 4,[sB 0 0,sB 256 0,sB 320 0,sI,sB 448 0,.b (.cell [.d (.list iT),.d iT] e),.b (.cell [.nil,.nil,.nil,.nil] e),.b (.cell [.d aA,.d aC,.d aB,.ol 1504500] e),.b (.cell [.d .str,.ol 1504501,.ol 1504502] e),.b (.lst 52 cD j),.b (.lst 62 bu e),.b (.lst 24 fQ e)],[iT,(.list iT),iT,aA,aC,aB,.str,aG,bL,bV]⟩],Pw.u8 Pw.unc3 (Pw.j2g)⟩]
 keep:=[(0,⟨[0,4,5,6],[0,256,320],[⟨1000000,52,cD,[.cell 320 3],j⟩],[]⟩),(2,⟨[0,4,5,6,7,8],[0,256,320,448],[⟨1002000,52,cD,[.cell 320 3],e⟩,⟨1002001,62,bu,[.cell 448 1],e⟩],[]⟩),(4,⟨[0,4,5,6,7,9],[0,256,320,448],[⟨1004000,52,cD,[.cell 320 3],e⟩,⟨1004001,62,bu,[.cell 448 1],e⟩,⟨1004002,24,fQ,[.cell 448 2],e⟩],[]⟩)]
 keepX:=[(0,.exit 0,⟨[4,5],[0,256,320],[⟨1500100,52,cD,[.cell 320 3],e⟩],[]⟩),(2,.exit 2,⟨[0,4,5,6,7],[0,256,320,448],[⟨1502300,52,cD,[.cell 320 3],e⟩,⟨1502301,62,bu,[.cell 448 1],e⟩],[]⟩),(4,.exit 4,⟨[0,4,5,6,7],[0,256,320,448],[⟨1504500,52,cD,[.cell 320 3],e⟩,⟨1504501,62,bu,[.cell 448 1],e⟩,⟨1504502,24,fQ,[.cell 448 2],e⟩],[]⟩)]
 dw:=[(9,[[],[],[],[],[2432],[],[],[],[],[],[0,1002000],[2880],[2944,1002000,1002001],[],[448]]),(13,[[],[],[],[],[0],[3776],[3840,1004001,1004002],[],[448]])]
 pa:=[(16,(35,(.pair (.list .unit) (.pair (.list .unit) (.pair (.list .unit) (.list .unit))))))]
theorem jhq:aN O5:=
 cOf aP aQ jiA O5 Tryz.func10 (jg pS (jg Xf (jg jiy (jg jiz (jg O4 i))))) (jg (λh=>by kernel_rfl) (jg (λh=>by kernel_rfl) (jg (λh=>by kernel_rfl) i)))
def O6:Con:=⟨30,[.v aR],[aR],⟨[.raw [512,704,896,2560,1920,2112] [.s (.st [.ol 512,.ol 704,.ol 896,.ol 2560]),.b (.lst 97 bh e),.b (.lst 99 fB e),.b (.lst 103 fg e),.b (.row 52 cD 1 [.d .str,.ol 1920,.ol 2112]),.b (.lst 62 bu e),.b (.lst 24 fQ e)]],[]⟩,[aA,aC,aB,.str,bL,bV],λh=>Pw.jbg h⟩
def jqg:FnD where
 N:=43
 np:=1
 ds:=[⟨0,[],[],[],λ_=>none⟩]
 dw:=[(1,[[],[],[512],[],[],[704],[],[],[896],[],[192],[192]]),(6,[[],[],[1920,1936],[],[],[2112,2128],[],[320,336],[],[320,336]])]
 un:=[0]
 unr:=2
 rw:=j
 rn:=[512,704,896,2560,1920,2112]
 b1:=[39]
theorem jox:aN O6:=
 cOf aP aQ jqg O6 Tryz.func30 i (jg (λh=>by kernel_rfl) i)
def Xi:Con:=⟨11,[.ref [(.list iT),iT],.v aR],[(.list iT),iT,aR],⟨[.v aR],[.ref [(.list iT),iT]]⟩,[aR,(.list iT),iT],Pw.unc3 Pw.j6d⟩
def jk6:FnD where
 N:=289
 np:=2
 cs:=[oe,sS,E7,O6]
 dw:=[(3,[[],[],[],[],[],[],[0],[],[]]),(16,[[],[],[],[],[],[],[4544],[2112,4608],[],[],[2560]]),(18,[[],[],[],[],[],[],[0],[],[5440],[0,5440],[],[],[512]]),(20,[[],[],[],[],[],[],[0],[],[],[],[],[6528],[0,6528],[],[],[704]]),(22,[[],[],[],[],[],[],[0],[7360],[],[0],[],[],[],[],[704]]),(24,[[],[],[],[],[],[],[0],[],[8448],[0,8448],[],[],[704]]),(26,[[],[],[],[],[],[],[0],[],[9344],[0,9344],[],[9536],[0,9536],[],[9728],[],[],[704,9728]]),(28,[[],[],[10176],[],[0],[],[],[],[10560],[0,10560],[],[10752],[0,10752],[10880],[],[10880,11008],[896,11072],[],[320]]),(30,[[],[],[11456],[],[0],[],[],[],[11840],[2560,11840,11904],[],[320]]),(34,[[],[],[],[],[],[],[0],[],[]]),(36,[[],[],[],[],[],[],[],[],[],[],[0],[],[]])]
 pre:=[(54,[.rl 2560,.rl 11904])]
 b1:=[185]
 pa:=[(16,(35,(.pair (.list .unit) (.pair (.list .unit) (.pair (.list .unit) (.list .unit))))))]
 sc:=j
theorem jjh:aN Xi:=
 cOf aP aQ jk6 Xi Tryz.func11 (jg pS (jg wI (jg O4 (jg jox i)))) i
def O7:Con:=⟨30,[.v aR],[aR],⟨[.raw [512,704,896,2576,1920,2112,1936,2128] [.s (.st [.ol 512,.ol 704,.ol 896,.ol 2576]),.b (.lst 97 bh e),.b (.lst 99 fB e),.b (.lst 103 fg e),.b (.row 52 cD 2 [.d .str,.ol 1920,.ol 2112,.d .str,.ol 1936,.ol 2128]),.b (.lst 62 bu e),.b (.lst 24 fQ e),.b (.lst 62 bu e),.b (.lst 24 fQ e)]],[]⟩,[aA,aC,aB,.str,.str,bL,bV,bL,bV],λh=>Pw.jg4 h⟩
def jqh:FnD where
 N:=43
 np:=1
 ds:=[⟨0,[],[],[],λ_=>none⟩]
 dw:=[(1,[[],[],[512],[],[],[704],[],[],[896],[],[192],[192]]),(6,[[],[],[1920,1936,1952],[],[],[2112,2128,2144],[],[320,336,352],[],[320,336,352]])]
 un:=[0]
 unr:=3
 rw:=j
 rn:=[512,704,896,2576,1920,2112,1936,2128]
 b1:=[39]
theorem joy:aN O7:=
 cOf aP aQ jqh O7 Tryz.func30 i (jg (λh=>by kernel_rfl) i)
def Xj:Con:=⟨11,[.ref [(.list iT),iT],.v aR],[(.list iT),iT,aR],⟨[.v aR],[.ref [(.list iT),iT]]⟩,[aR,(.list iT),iT],Pw.unc3 Pw.j9M⟩
def jk7:FnD where
 N:=289
 np:=2
 cs:=[oe,sS,E7,O7]
 dw:=[(3,[[],[],[],[],[],[],[0],[],[]]),(16,[[],[],[],[],[],[],[4544],[2112,2128,4608],[],[],[2576]]),(18,[[],[],[],[],[],[],[0],[],[5440],[0,5440],[],[],[512]]),(20,[[],[],[],[],[],[],[0],[],[],[],[],[6528],[0,6528],[],[],[704]]),(22,[[],[],[],[],[],[],[0],[7360],[],[0],[],[],[],[],[704]]),(24,[[],[],[],[],[],[],[0],[],[8448],[0,8448],[],[],[704]]),(26,[[],[],[],[],[],[],[0],[],[9344],[0,9344],[],[9536],[0,9536],[],[9728],[],[],[704,9728]]),(28,[[],[],[10176],[],[0],[],[],[],[10560],[0,10560],[],[10752],[0,10752],[10880],[],[10880,11008],[896,11072],[],[320]]),(30,[[],[],[11456],[],[0],[],[],[],[11840],[2576,11840,11904],[],[320]]),(34,[[],[],[],[],[],[],[0],[],[]]),(36,[[],[],[],[],[],[],[],[],[],[],[0],[],[]])]
 pre:=[(54,[.rl 2576,.rl 11904])]
 b1:=[185]
 pa:=[(16,(35,(.pair (.list .unit) (.pair (.list .unit) (.pair (.list .unit) (.list .unit))))))]
 sc:=j
theorem jji:aN Xj:=
 cOf aP aQ jk7 Xj Tryz.func11 (jg pS (jg wI (jg O4 (jg joy i)))) i
def Xk:Con:=⟨11,[.ref [(.list iT),iT],.v aR],[(.list iT),iT,aR],⟨[.v aR],[.ref [(.list iT),iT]]⟩,[aR,(.list iT),iT],Pw.unc3 Pw.j8K⟩
theorem jk8:aN Xk:=Ź jjh jji
def O8:Con:=⟨268,[.v (.int .u8)],[(.int .u8)],⟨[.v .bool],[]⟩,[.bool],λh=>Pw.jlg h⟩
def jrO:FnD where
 N:=9
 np:=1
theorem jqi:aN O8:=
 cOf aP aQ jrO O8 Tryz.func268 i i
def O9:Con:=⟨236,[.v .str],[.str],⟨[.v .bool],[]⟩,[.bool],λh=>Pw.jkr h⟩
def jue:FnD where
 N:=57
 np:=1
 cs:=[O8]
 ds:=[⟨0,[sD .str,sI],[.str,iT],[⟨.ret,[sD .bool],[.bool]⟩,⟨.exit 0,[],[]⟩],Pw.unc2 (Pw.j5Z)⟩]
 keep:=[(0,⟨[0,3],[],[],[]⟩)]
 keepX:=[(0,.ret,⟨[2],[],[],[]⟩)]
theorem jrP:aN O9:=
 cOf aP aQ jue O9 Tryz.func236 (jg jqi i) (jg (λh=>by kernel_rfl) i)
def B2:Con:=⟨189,[.v (.list .str),.v iT],[(.list .str),iT],⟨[.v iT],[]⟩,[iT],Pw.unc2 Pw.jcz⟩
def juf:FnD where
 N:=26
 np:=2
 cs:=[O9]
 ds:=[⟨0,[sD (.list .str),sI,sI],[(.list .str),iT,iT],[⟨.ret,[sI],[iT]⟩,⟨.exit 0,[],[]⟩],Pw.unc3 (Pw.j60)⟩]
 keep:=[(0,⟨[0,1,5],[],[],[]⟩)]
 keepX:=[(0,.ret,⟨[4],[],[],[]⟩)]
theorem IY:aN B2:=
 cOf aP aQ juf B2 Tryz.func189 (jg jrP i) (jg (λh=>by kernel_rfl) i)
def wJ:Con:=⟨206,[.v iT,.v iT,.v iT],[iT,iT,iT],⟨[.v .bool],[]⟩,[.bool],Pw.unc3 Pw.j7z⟩
def jye:FnD where
 N:=15
 np:=3
theorem B3:aN wJ:=
 cOf aP aQ jye wJ Tryz.func206 i i
def Pa:Con:=⟨222,[.v nG],[nG],⟨[.v .bool],[]⟩,[.bool],λh=>Pw.jaa h⟩
def jrQ:FnD where
 N:=38
 np:=1
 cs:=[wJ]
theorem jqj:aN Pa:=
 cOf aP aQ jrQ Pa Tryz.func222 (jg B3 i) i
def Pb:Con:=⟨297,[.v iT],[iT],⟨[.v .bool],[]⟩,[.bool],λh=>Pw.j1w h⟩
def jug:FnD where
 N:=16
 np:=1
theorem jrR:aN Pb:=
 cOf aP aQ jug Pb Tryz.func297 i i
end Go.Proofs.Pk
