/- bZ: each given function is its plain function, printed by a program. -/
import Derived.Test.YtllkgjaoejhneaaGreatCECon8
open Bool renaming false->c
open _root_ renaming trivial->e
noncomputable section
open Go Go.Lft
set_option linter.unusedVariables false
set_option maxRecDepth 100000
namespace Go.Proofs.Pk
def Gv:Con:=⟨37,[.v aF,.v iT,.v iT],[aF,iT,iT],⟨[.v iT,.v iT],[]⟩,[iT,iT],Pw.unc3 Pw.jiZ⟩
def jtk:FnD where
 N:=24
 np:=3
 cs:=[C1,MH]
theorem Tp:aJ Gv:=
 cOf aH aK jtk Gv Tryz.func37 (jg Mo (jg jrr e)) e
def Tq:Con:=⟨4,[.v (.list iT),.v aY,.v iT,.v iT],[(.list iT),aY,iT,iT],⟨[.v .bool],[]⟩,[.bool],Pw.unc4 Pw.j27⟩
def jfq:FnD where
 N:=189
 np:=4
 cs:=[FW,yL,yN,yO,CM,Ge,Gf,ml,oc,CN,Gl,CP,Gm,LV,CZ,Gs,C1,Gv]
 ds:=[⟨0,[sI,sI,sB 2496 0,.s (.av 3 aF),sI,.b (.cell [.d (.list iT),.d iT] c)],[iT,iT,iA,iT,(.list iT),iT],[⟨.ret,[sD .bool],[.bool]⟩,⟨.exit 0,[],[]⟩],Pw.unc6 (Pw.j1S)⟩,⟨2,[sI,sI,sB 2496 0,sB 1088 0,.s (.av 3 aF),sI,.s (.av 2 iT),sI,.b (.cell [.d aw,.d aA,.d az,.d aC] c),.b (.cell [.d (.list iT),.d iT] c)],[iT,iT,iA,iT,(.list iT),iT,aw,aA,az,aC,(.list iT),iT],[⟨.ret,[sD .bool],[.bool]⟩,⟨.exit 2,[sI,sI,sB 2496 0,.s (.av 3 aF),sI,.b (.cell [.d (.list iT),.d iT] c)],[iT,iT,iA,iT,(.list iT),iT]⟩],Pw.u8 Pw.unc4 (Pw.j1R)⟩,⟨4,[sI,sI,sB 2496 0,sB 1088 0,sI,.s (.av 3 aF),sI,.s (.av 2 iT),sI,.s (.av 3 iT),sI,.b (.cell [.d aw,.d aA,.d az,.d aC] c),.b (.cell [.d (.list iT),.d iT] c)],[iT,iT,iT,iA,iT,(.list iT),iT,(.list iT),iT,aw,aA,az,aC,(.list iT),iT],[⟨.ret,[sD .bool],[.bool]⟩,⟨.exit 4,[sI,sI,sB 2496 0,sB 1088 0,.s (.av 3 aF),sI,.s (.av 2 iT),sI,.b (.cell [.d aw,.d aA,.d az,.d aC] c),.b (.cell [.d (.list iT),.d iT] c)],[iT,iT,iA,iT,(.list iT),iT,aw,aA,az,aC,(.list iT),iT]⟩],Pw.u8 Pw.unc7 (Pw.j1Q)⟩]
 keep:=[(0,⟨[2,3,9,98,99],[2496],[],[]⟩),(2,⟨[2,3,9,17,98,99,105,106],[1088,2496],[],[]⟩),(4,⟨[2,3,9,17,19,98,99,105,106,135,136],[1088,2496],[],[]⟩)]
 keepX:=[(0,.ret,⟨[8],[],[],[]⟩),(2,.ret,⟨[8],[],[],[]⟩),(2,.exit 2,⟨[2,3,9,98,99],[2496],[],[]⟩),(4,.ret,⟨[8],[],[],[]⟩),(4,.exit 4,⟨[2,3,9,17,98,99,105,106],[1088,2496],[],[]⟩)]
 dw:=[(11,[[],[],[],[],[],[],[],[],[],[],[],[],[1920],[],[],[1920]]),(12,[[],[],[],[],[],[],[5696],[2496,5696],[],[],[1920]]),(13,[[],[],[],[2496],[],[512,704,896,2560],[]])]
 pre:=[(13,[.rl 2560])]
theorem jeo:aJ Tq:=
 cOf aH aK jfq Tq Tryz.func4 (jg SP (jg FX (jg F4 (jg Gc (jg LL (jg Td (jg Te (jg nG (jg qR (jg LQ (jg Th (jg LU (jg Ti (jg Ń (jg Mh (jg Tm (jg Mo (jg Tp e)))))))))))))))))) (jg (λh=>by kernel_rfl) (jg (λh=>by kernel_rfl) (jg (λh=>by kernel_rfl) e)))
def Gw:Con:=⟨30,[.v aF],[aF],⟨[.raw [512,704,896,2576,1920,2112,1936,2128] [.s (.st [.ol 512,.ol 704,.ol 896,.ol 2576]),.b (.lst 97 aU c),.b (.lst 99 fg c),.b (.lst 103 fe c),.b (.row 52 cA 2 [.d .str,.ol 1920,.ol 2112,.d .str,.ol 1936,.ol 2128]),.b (.lst 62 aY c),.b (.lst 24 ew c),.b (.lst 62 aY c),.b (.lst 24 ew c)]],[]⟩,[aw,aA,az,.str,.str,bu,bC,bu,bC],λh=>Pw.j8f h⟩
def jnR:FnD where
 N:=43
 np:=1
 ds:=[⟨0,[],[],[],λ_=>none⟩]
 dw:=[(1,[[],[],[512],[],[],[704],[],[],[896],[],[192],[192]]),(6,[[],[],[1920,1936,1952],[],[],[2112,2128,2144],[],[320,336,352],[],[320,336,352]])]
 un:=[0]
 unr:=3
 rw:=true
 rn:=[512,704,896,2576,1920,2112,1936,2128]
 b1:=[39]
theorem Tr:aJ Gw:=
 cOf aH aK jnR Gw Tryz.func30 e (jg (λh=>by kernel_rfl) e)
def MI:Con:=⟨11,[.ref [(.list iT),iT],.v aF],[(.list iT),iT,aF],⟨[.v aF],[.ref [(.list iT),iT]]⟩,[aF,(.list iT),iT],Pw.unc3 Pw.j6v⟩
def jhU:FnD where
 N:=289
 np:=2
 cs:=[ml,oc,CO,Gw]
 dw:=[(3,[[],[],[],[],[],[],[0],[],[]]),(16,[[],[],[],[],[],[],[4544],[2112,2128,4608],[],[],[2576]]),(18,[[],[],[],[],[],[],[0],[],[5440],[0,5440],[],[],[512]]),(20,[[],[],[],[],[],[],[0],[],[],[],[],[6528],[0,6528],[],[],[704]]),(22,[[],[],[],[],[],[],[0],[7360],[],[0],[],[],[],[],[704]]),(24,[[],[],[],[],[],[],[0],[],[8448],[0,8448],[],[],[704]]),(26,[[],[],[],[],[],[],[0],[],[9344],[0,9344],[],[9536],[0,9536],[],[9728],[],[],[704,9728]]),(28,[[],[],[10176],[],[0],[],[],[],[10560],[0,10560],[],[10752],[0,10752],[10880],[],[10880,11008],[896,11072],[],[320]]),(30,[[],[],[11456],[],[0],[],[],[],[11840],[2576,11840,11904],[],[320]]),(34,[[],[],[],[],[],[],[0],[],[]]),(36,[[],[],[],[],[],[],[],[],[],[],[0],[],[]])]
 pre:=[(54,[.rl 2576,.rl 11904])]
 b1:=[185]
 pa:=[(16,(35,(.pair (.list .unit) (.pair (.list .unit) (.pair (.list .unit) (.list .unit))))))]
 sc:=true
theorem jhc:aJ MI:=
 cOf aH aK jhU MI Tryz.func11 (jg nG (jg qR (jg LS (jg Tr e)))) e
def Ts:Con:=⟨4,[.v (.list iT),.v aY,.v iT,.v iT],[(.list iT),aY,iT,iT],⟨[.v .bool],[]⟩,[.bool],Pw.unc4 Pw.j60⟩
def jfr:FnD where
 N:=189
 np:=4
 cs:=[FW,yL,yN,yO,CM,Ge,Gf,ml,oc,CN,Gl,CP,CZ,Gs,C1,Gv,Gw,MI]
 ds:=[⟨0,[sI,sI,sB 2496 0,.s (.av 3 aF),sI,.b (.cell [.d (.list iT),.d iT] c)],[iT,iT,iA,iT,(.list iT),iT],[⟨.ret,[sD .bool],[.bool]⟩,⟨.exit 0,[],[]⟩],Pw.unc6 (Pw.j1V)⟩,⟨2,[sI,sI,sB 2496 0,sB 1088 0,.s (.av 3 aF),sI,.s (.av 2 iT),sI,.b (.cell [.d aw,.d aA,.d az,.d aC] c),.b (.cell [.d (.list iT),.d iT] c)],[iT,iT,iA,iT,(.list iT),iT,aw,aA,az,aC,(.list iT),iT],[⟨.ret,[sD .bool],[.bool]⟩,⟨.exit 2,[sI,sI,sB 2496 0,.s (.av 3 aF),sI,.b (.cell [.d (.list iT),.d iT] c)],[iT,iT,iA,iT,(.list iT),iT]⟩],Pw.u8 Pw.unc4 (Pw.j1U)⟩,⟨4,[sI,sI,sB 2496 0,sB 1088 0,sI,.s (.av 3 aF),sI,.s (.av 2 iT),sI,.s (.av 3 iT),sI,.b (.cell [.d aw,.d aA,.d az,.d aC] c),.b (.cell [.d (.list iT),.d iT] c)],[iT,iT,iT,iA,iT,(.list iT),iT,(.list iT),iT,aw,aA,az,aC,(.list iT),iT],[⟨.ret,[sD .bool],[.bool]⟩,⟨.exit 4,[sI,sI,sB 2496 0,sB 1088 0,.s (.av 3 aF),sI,.s (.av 2 iT),sI,.b (.cell [.d aw,.d aA,.d az,.d aC] c),.b (.cell [.d (.list iT),.d iT] c)],[iT,iT,iA,iT,(.list iT),iT,aw,aA,az,aC,(.list iT),iT]⟩],Pw.u8 Pw.unc7 (Pw.j1T)⟩]
 keep:=[(0,⟨[2,3,9,98,99],[2496],[],[]⟩),(2,⟨[2,3,9,17,98,99,105,106],[1088,2496],[],[]⟩),(4,⟨[2,3,9,17,19,98,99,105,106,135,136],[1088,2496],[],[]⟩)]
 keepX:=[(0,.ret,⟨[8],[],[],[]⟩),(2,.ret,⟨[8],[],[],[]⟩),(2,.exit 2,⟨[2,3,9,98,99],[2496],[],[]⟩),(4,.ret,⟨[8],[],[],[]⟩),(4,.exit 4,⟨[2,3,9,17,98,99,105,106],[1088,2496],[],[]⟩)]
 dw:=[(11,[[],[],[],[],[],[],[],[],[],[],[],[],[1920],[],[],[1920]]),(12,[[],[],[],[],[],[],[5696],[2496,5696],[],[],[1920]]),(13,[[],[],[],[2496],[],[512,704,896,2576],[]])]
 pre:=[(13,[.rl 2576])]
theorem jep:aJ Ts:=
 cOf aH aK jfr Ts Tryz.func4 (jg SP (jg FX (jg F4 (jg Gc (jg LL (jg Td (jg Te (jg nG (jg qR (jg LQ (jg Th (jg LU (jg Mh (jg Tm (jg Mo (jg Tp (jg Tr (jg jhc e)))))))))))))))))) (jg (λh=>by kernel_rfl) (jg (λh=>by kernel_rfl) (jg (λh=>by kernel_rfl) e)))
def jeq:Con:=⟨4,[.v (.list iT),.v aY,.v iT,.v iT],[(.list iT),aY,iT,iT],⟨[.v .bool],[]⟩,[.bool],Pw.unc4 Pw.j5c⟩
theorem law16_CycleExact_ok:aJ jeq:=_B jeo jep
end Go.Proofs.Pk
