/- Contracts. -/
import Derived.Test.YtmccfdihkphfaaaGreatCECon6
open Bool renaming false->e,true->j
open _root_ renaming trivial->i,Option->k
noncomputable section
open Go Go.Lft
set_option linter.unusedVariables false
set_option maxRecDepth 100000
namespace Go.Proofs.Pk
def Dr:Con:=⟨56,[.ref [(.list iT),iT],.v (.pair (.list .unit) (.pair (.list .unit) (.pair (.list .unit) (.list .unit))))],[(.list iT),iT,(.pair (.list .unit) (.pair (.list .unit) (.pair (.list .unit) (.list .unit))))],⟨[.v bc],[.ref [(.list iT),iT]]⟩,[bc,(.list iT),iT],Pw.unc3 Pw.j83⟩
def joF:FnD where
 N:=52
 np:=2
 cs:=[pq,tV,Dq,Kv]
 dw:=[(3,[[],[],[],[1344],[0,1344],[],[],[384]]),(8,[[],[],[],[],[],[],[0],[],[],[],[],[384]])]
theorem KL:aJ Dr:=
 cOf aM aN joF Dr Tryz.func56 (ja rj (ja wP (ja KJ (ja Α i)))) i
def RF:Con:=⟨9,[.ref [(.list iT),iT],.v iT],[(.list iT),iT,iT],⟨[.v aG],[.ref [(.list iT),iT]]⟩,[aG,(.list iT),iT],Pw.unc3 Pw.ja9⟩
def jmR:FnD where
 N:=69
 np:=2
 cs:=[pq,KI,Tb,Tc,Dr]
 ds:=[⟨0,[sB 0 0,sB 256 0,sB 320 0,sI,.b (.cell [.d (.list iT),.d iT] e),.b (.cell [.nil,.nil,.nil,.nil] e),.b (.cell [.d al,.d au,.d ar,.ol 1000000] e),.b (.lst 91 cD j)],[iT,(.list iT),iT,al,au,ar,ay],[⟨.exit 0,[sB 256 0,sB 320 0,.b (.cell [.d (.list iT),.d iT] e),.b (.cell [.nil,.nil,.nil,.nil] e),.b (.cell [.d al,.d au,.d ar,.ol 1500100] e),.b (.lst 91 cD j)],[(.list iT),iT,al,au,ar,ay]⟩],Pw.unc7 (Pw.j3c)⟩,⟨2,[sB 0 0,sB 256 0,sB 320 0,sI,sB 448 0,sI,.b (.cell [.d (.list iT),.d iT] e),.b (.cell [.nil,.nil,.nil,.nil] e),.b (.cell [.d al,.d au,.d ar,.ol 1002000] e),.b (.cell [.d .str,.ol 1002001,.nil] e),.b (.lst 91 cD j),.b (.lst 96 bE e)],[iT,iT,(.list iT),iT,al,au,ar,.str,ay,bh],[⟨.exit 2,[sB 0 0,sB 256 0,sB 320 0,sI,sB 448 0,.b (.cell [.d (.list iT),.d iT] e),.b (.cell [.nil,.nil,.nil,.nil] e),.b (.cell [.d al,.d au,.d ar,.ol 1502300] e),.b (.cell [.d .str,.ol 1502301,.nil] e),.b (.lst 91 cD j),.b (.lst 96 bE e)],[iT,(.list iT),iT,al,au,ar,.str,ay,bh]⟩],Pw.u8 Pw.unc2 (Pw.j3a)⟩,⟨4,[sB 0 0,sB 256 0,sB 320 0,sI,sB 448 0,sI,.b (.cell [.d (.list iT),.d iT] e),.b (.cell [.nil,.nil,.nil,.nil] e),.b (.cell [.d al,.d au,.d ar,.ol 1004000] e),.b (.cell [.d .str,.ol 1004001,.ol 1004002] e),.b (.lst 91 cD j),.b (.lst 96 bE e),.b (.lst 100 bc e)],[iT,iT,(.list iT),iT,al,au,ar,.str,ay,bh,ak],[⟨.exit 4,[sB 0 0,sB 256 0,sB 320 0,sI,sB 448 0,.b (.cell [.d (.list iT),.d iT] e),.b (.cell [.nil,.nil,.nil,.nil] e),.b (.cell [.d al,.d au,.d ar,.ol 1504500] e),.b (.cell [.d .str,.ol 1504501,.ol 1504502] e),.b (.lst 91 cD j),.b (.lst 96 bE e),.b (.lst 100 bc e)],[iT,(.list iT),iT,al,au,ar,.str,ay,bh,ak]⟩],Pw.u8 Pw.unc3 (Pw.j3b)⟩]
 keep:=[(0,⟨[0,4,5,6],[0,256,320],[⟨1000000,91,cD,[.cell 320 3],j⟩],[]⟩),(2,⟨[0,4,5,6,7,8],[0,256,320,448],[⟨1002000,91,cD,[.cell 320 3],e⟩,⟨1002001,96,bE,[.cell 448 1],e⟩],[]⟩),(4,⟨[0,4,5,6,7,9],[0,256,320,448],[⟨1004000,91,cD,[.cell 320 3],e⟩,⟨1004001,96,bE,[.cell 448 1],e⟩,⟨1004002,100,bc,[.cell 448 2],e⟩],[]⟩)]
 keepX:=[(0,.exit 0,⟨[4,5],[0,256,320],[⟨1500100,91,cD,[.cell 320 3],e⟩],[]⟩),(2,.exit 2,⟨[0,4,5,6,7],[0,256,320,448],[⟨1502300,91,cD,[.cell 320 3],e⟩,⟨1502301,96,bE,[.cell 448 1],e⟩],[]⟩),(4,.exit 4,⟨[0,4,5,6,7],[0,256,320,448],[⟨1504500,91,cD,[.cell 320 3],e⟩,⟨1504501,96,bE,[.cell 448 1],e⟩,⟨1504502,100,bc,[.cell 448 2],e⟩],[]⟩)]
 dw:=[(9,[[],[],[],[],[2432],[],[],[],[],[],[0,1002000],[2880],[2944,1002000,1002001],[],[448]]),(13,[[],[],[],[],[0],[3776],[3840,1004001,1004002],[],[448]])]
 pa:=[(56,(32,(.pair (.list .unit) (.pair (.list .unit) (.pair (.list .unit) (.list .unit))))))]
theorem jlz:aJ RF:=
 cOf aM aN jmR RF Tryz.func9 (ja rj (ja Υ (ja jmP (ja jmQ (ja KL i))))) (ja (λh=>by kernel_rfl) (ja (λh=>by kernel_rfl) (ja (λh=>by kernel_rfl) i)))
def Td:Con:=⟨57,[.v aG],[aG],⟨[.raw [512,704,896,2560,1920,2112] [.s (.st [.ol 512,.ol 704,.ol 896,.ol 2560]),.b (.lst 105 bj e),.b (.lst 107 fY e),.b (.lst 110 fm e),.b (.row 91 cD 1 [.d .str,.ol 1920,.ol 2112]),.b (.lst 96 bE e),.b (.lst 100 bc e)]],[]⟩,[al,au,ar,.str,bh,ak],λh=>Pw.jek h⟩
def jvx:FnD where
 N:=43
 np:=1
 ds:=[⟨0,[],[],[],λ_=>none⟩]
 dw:=[(1,[[],[],[512],[],[],[704],[],[],[896],[],[192],[192]]),(6,[[],[],[1920,1936],[],[],[2112,2128],[],[320,336],[],[320,336]])]
 un:=[0]
 unr:=2
 rw:=j
 rn:=[512,704,896,2560,1920,2112]
 b1:=[39]
theorem jtz:aJ Td:=
 cOf aM aN jvx Td Tryz.func57 i (ja (λh=>by kernel_rfl) i)
def Χ:Con:=⟨10,[.ref [(.list iT),iT],.v aG],[(.list iT),iT,aG],⟨[.v aG],[.ref [(.list iT),iT]]⟩,[aG,(.list iT),iT],Pw.unc3 Pw.j84⟩
def joG:FnD where
 N:=289
 np:=2
 cs:=[pq,tV,Dr,Td]
 dw:=[(3,[[],[],[],[],[],[],[0],[],[]]),(16,[[],[],[],[],[],[],[4544],[2112,4608],[],[],[2560]]),(18,[[],[],[],[],[],[],[0],[],[5440],[0,5440],[],[],[512]]),(20,[[],[],[],[],[],[],[0],[],[],[],[],[6528],[0,6528],[],[],[704]]),(22,[[],[],[],[],[],[],[0],[7360],[],[0],[],[],[],[],[704]]),(24,[[],[],[],[],[],[],[0],[],[8448],[0,8448],[],[],[704]]),(26,[[],[],[],[],[],[],[0],[],[9344],[0,9344],[],[9536],[0,9536],[],[9728],[],[],[704,9728]]),(28,[[],[],[10176],[],[0],[],[],[],[10560],[0,10560],[],[10752],[0,10752],[10880],[],[10880,11008],[896,11072],[],[320]]),(30,[[],[],[11456],[],[0],[],[],[],[11840],[2560,11840,11904],[],[320]]),(34,[[],[],[],[],[],[],[0],[],[]]),(36,[[],[],[],[],[],[],[],[],[],[],[0],[],[]])]
 pre:=[(54,[.rl 2560,.rl 11904])]
 b1:=[185]
 pa:=[(56,(32,(.pair (.list .unit) (.pair (.list .unit) (.pair (.list .unit) (.list .unit))))))]
 sc:=j
theorem jnN:aJ Χ:=
 cOf aM aN joG Χ Tryz.func10 (ja rj (ja wP (ja KL (ja jtz i)))) i
def Te:Con:=⟨57,[.v aG],[aG],⟨[.raw [512,704,896,2576,1920,2112,1936,2128] [.s (.st [.ol 512,.ol 704,.ol 896,.ol 2576]),.b (.lst 105 bj e),.b (.lst 107 fY e),.b (.lst 110 fm e),.b (.row 91 cD 2 [.d .str,.ol 1920,.ol 2112,.d .str,.ol 1936,.ol 2128]),.b (.lst 96 bE e),.b (.lst 100 bc e),.b (.lst 96 bE e),.b (.lst 100 bc e)]],[]⟩,[al,au,ar,.str,.str,bh,ak,bh,ak],λh=>Pw.jel h⟩
def jvy:FnD where
 N:=43
 np:=1
 ds:=[⟨0,[],[],[],λ_=>none⟩]
 dw:=[(1,[[],[],[512],[],[],[704],[],[],[896],[],[192],[192]]),(6,[[],[],[1920,1936,1952],[],[],[2112,2128,2144],[],[320,336,352],[],[320,336,352]])]
 un:=[0]
 unr:=3
 rw:=j
 rn:=[512,704,896,2576,1920,2112,1936,2128]
 b1:=[39]
theorem jtA:aJ Te:=
 cOf aM aN jvy Te Tryz.func57 i (ja (λh=>by kernel_rfl) i)
def Ψ:Con:=⟨10,[.ref [(.list iT),iT],.v aG],[(.list iT),iT,aG],⟨[.v aG],[.ref [(.list iT),iT]]⟩,[aG,(.list iT),iT],Pw.unc3 Pw.j85⟩
def joH:FnD where
 N:=289
 np:=2
 cs:=[pq,tV,Dr,Te]
 dw:=[(3,[[],[],[],[],[],[],[0],[],[]]),(16,[[],[],[],[],[],[],[4544],[2112,2128,4608],[],[],[2576]]),(18,[[],[],[],[],[],[],[0],[],[5440],[0,5440],[],[],[512]]),(20,[[],[],[],[],[],[],[0],[],[],[],[],[6528],[0,6528],[],[],[704]]),(22,[[],[],[],[],[],[],[0],[7360],[],[0],[],[],[],[],[704]]),(24,[[],[],[],[],[],[],[0],[],[8448],[0,8448],[],[],[704]]),(26,[[],[],[],[],[],[],[0],[],[9344],[0,9344],[],[9536],[0,9536],[],[9728],[],[],[704,9728]]),(28,[[],[],[10176],[],[0],[],[],[],[10560],[0,10560],[],[10752],[0,10752],[10880],[],[10880,11008],[896,11072],[],[320]]),(30,[[],[],[11456],[],[0],[],[],[],[11840],[2576,11840,11904],[],[320]]),(34,[[],[],[],[],[],[],[0],[],[]]),(36,[[],[],[],[],[],[],[],[],[],[],[0],[],[]])]
 pre:=[(54,[.rl 2576,.rl 11904])]
 b1:=[185]
 pa:=[(56,(32,(.pair (.list .unit) (.pair (.list .unit) (.pair (.list .unit) (.list .unit))))))]
 sc:=j
theorem jnO:aJ Ψ:=
 cOf aM aN joH Ψ Tryz.func10 (ja rj (ja wP (ja KL (ja jtA i)))) i
def Tf:Con:=⟨57,[.v aG],[aG],⟨[.raw [512,704,896,2592,1920,2112,1936,2128,1952,2144] [.s (.st [.ol 512,.ol 704,.ol 896,.ol 2592]),.b (.lst 105 bj e),.b (.lst 107 fY e),.b (.lst 110 fm e),.b (.row 91 cD 3 [.d .str,.ol 1920,.ol 2112,.d .str,.ol 1936,.ol 2128,.d .str,.ol 1952,.ol 2144]),.b (.lst 96 bE e),.b (.lst 100 bc e),.b (.lst 96 bE e),.b (.lst 100 bc e),.b (.lst 96 bE e),.b (.lst 100 bc e)]],[]⟩,[al,au,ar,.str,.str,.str,bh,ak,bh,ak,bh,ak],λh=>Pw.jk7 h⟩
def jvz:FnD where
 N:=43
 np:=1
 ds:=[⟨0,[],[],[],λ_=>none⟩]
 dw:=[(1,[[],[],[512],[],[],[704],[],[],[896],[],[192],[192]]),(6,[[],[],[1920,1936,1952,1968],[],[],[2112,2128,2144,2160],[],[320,336,352,368],[],[320,336,352,368]])]
 un:=[0]
 unr:=4
 rw:=j
 rn:=[512,704,896,2592,1920,2112,1936,2128,1952,2144]
 b1:=[39]
theorem jtB:aJ Tf:=
 cOf aM aN jvz Tf Tryz.func57 i (ja (λh=>by kernel_rfl) i)
def Ω:Con:=⟨10,[.ref [(.list iT),iT],.v aG],[(.list iT),iT,aG],⟨[.v aG],[.ref [(.list iT),iT]]⟩,[aG,(.list iT),iT],Pw.unc3 Pw.jcu⟩
def joI:FnD where
 N:=289
 np:=2
 cs:=[pq,tV,Dr,Tf]
 dw:=[(3,[[],[],[],[],[],[],[0],[],[]]),(16,[[],[],[],[],[],[],[4544],[2112,2128,2144,4608],[],[],[2592]]),(18,[[],[],[],[],[],[],[0],[],[5440],[0,5440],[],[],[512]]),(20,[[],[],[],[],[],[],[0],[],[],[],[],[6528],[0,6528],[],[],[704]]),(22,[[],[],[],[],[],[],[0],[7360],[],[0],[],[],[],[],[704]]),(24,[[],[],[],[],[],[],[0],[],[8448],[0,8448],[],[],[704]]),(26,[[],[],[],[],[],[],[0],[],[9344],[0,9344],[],[9536],[0,9536],[],[9728],[],[],[704,9728]]),(28,[[],[],[10176],[],[0],[],[],[],[10560],[0,10560],[],[10752],[0,10752],[10880],[],[10880,11008],[896,11072],[],[320]]),(30,[[],[],[11456],[],[0],[],[],[],[11840],[2592,11840,11904],[],[320]]),(34,[[],[],[],[],[],[],[0],[],[]]),(36,[[],[],[],[],[],[],[],[],[],[],[0],[],[]])]
 pre:=[(54,[.rl 2592,.rl 11904])]
 b1:=[185]
 pa:=[(56,(32,(.pair (.list .unit) (.pair (.list .unit) (.pair (.list .unit) (.list .unit))))))]
 sc:=j
theorem jnP:aJ Ω:=
 cOf aM aN joI Ω Tryz.func10 (ja rj (ja wP (ja KL (ja jtB i)))) i
def W_:Con:=⟨10,[.ref [(.list iT),iT],.v aG],[(.list iT),iT,aG],⟨[.v aG],[.ref [(.list iT),iT]]⟩,[aG,(.list iT),iT],Pw.unc3 Pw.j94⟩
theorem joJ:aJ W_:=Ze jnN (Ze jnO jnP)
def Tg:Con:=⟨73,[.v aF,.v aF,.v iT,.v iT],[aF,aF,iT,iT],⟨[.own 66 ak],[]⟩,[ak],Pw.unc4 Pw.j8H⟩
def jnQ:FnD where
 N:=93
 np:=4
 ds:=[⟨0,[sD aF,sD aF,sI,sI,sO 1000000,sI,sI,.b (.lst 66 bc e)],[aF,aF,iT,iT,iT,iT,ak],[⟨.exit 0,[sO 1500100,.b (.lst 66 bc e)],[ak]⟩],Pw.unc7 (Pw.j2v)⟩]
 keep:=[(0,⟨[0,1,2,3,9,10,11],[],[⟨1000000,66,bc,[.slot 9],e⟩],[]⟩)]
 keepX:=[(0,.exit 0,⟨[9],[],[⟨1500100,66,bc,[.slot 9],e⟩],[]⟩)]
 ro:=[j]
theorem jmS:aJ Tg:=
 cOf aM aN jnQ Tg Tryz.func73 i (ja (λh=>by kernel_rfl) i)
def KM:Con:=⟨75,[.v bc,.v bc],[bc,bc],⟨[.v iT],[]⟩,[iT],Pw.unc2 Pw.j2Z⟩
def jjI:FnD where
 N:=10
 np:=2
theorem δ:aJ KM:=
 cOf aM aN jjI KM Tryz.func75 i i
def Th:Con:=⟨210,[.rl 66 ak,.v iT,.v iT,.clo 75 []],[ak,iT,iT],⟨[],[.rl ak]⟩,[ak],Pw.unc3 Pw.j0z⟩
def j8X:FnD where
 N:=53
 np:=4
 cs:=[KM]
 ds:=[⟨0,[sO 0,sI,sI,sC 75 [],sI,.b (.lst 66 bc e)],[iT,iT,iT,ak],[⟨.exit 0,[.b (.lst 66 bc e)],[ak]⟩],Pw.unc4 (Pw.j0g)⟩,⟨2,[sO 0,sI,sI,sC 75 [],sI,sI,.b (.lst 66 bc e)],[iT,iT,iT,iT,ak],[⟨.exit 2,[sO 0,sI,sI,sC 75 [],sI,.b (.lst 66 bc e)],[iT,iT,iT,ak]⟩],Pw.unc5 (Pw.j0r)⟩]
 keep:=[(0,⟨[0,1,2,3,8],[0],[],[]⟩),(2,⟨[0,1,2,3,8,9],[0],[],[]⟩)]
 keepX:=[(0,.exit 0,⟨[],[0],[],[]⟩),(2,.exit 2,⟨[0,1,2,3,8],[0],[],[]⟩)]
 dw:=[(6,[[],[],[],[],[],[],[],[],[],[],[],[],[],[],[],[0],[],[0]])]
theorem j8x:aJ Th:=
 cOf aM aN j8X Th Tryz.func210 (ja δ i) (ja (λh=>by kernel_rfl) (ja (λh=>by kernel_rfl) i))
def Ti:Con:=⟨313,[.rl 66 ak,.v iT,.v iT,.v iT,.clo 75 []],[ak,iT,iT,iT],⟨[],[.rl ak]⟩,[ak],Pw.unc4 Pw.j0x⟩
def jau:FnD where
 N:=38
 np:=5
 ds:=[⟨0,[sO 0,sI,sI,sI,sI,.b (.lst 66 bc e)],[iT,iT,iT,iT,ak],[⟨.exit 0,[.b (.lst 66 bc e)],[ak]⟩],Pw.unc5 (Pw.j0F)⟩]
 keep:=[(0,⟨[0,1,2,3,10],[0],[],[]⟩)]
 keepX:=[(0,.exit 0,⟨[],[0],[],[]⟩)]
 dw:=[(3,[[],[],[],[],[],[],[],[],[],[],[],[],[],[],[],[],[],[],[],[],[],[0],[],[0]])]
theorem j9W:aJ Ti:=
 cOf aM aN jau Ti Tryz.func313 i (ja (λh=>by kernel_rfl) i)
def Tj:Con:=⟨265,[.rl 66 ak,.v iT,.v iT,.v iT,.clo 75 []],[ak,iT,iT,iT],⟨[],[.rl ak]⟩,[ak],Pw.unc4 Pw.j1e⟩
def jbB:FnD where
 N:=58
 np:=5
 cs:=[Ti]
 ds:=[⟨0,[sO 0,sI,sC 75 [],sI,sI,.b (.lst 66 bc e)],[iT,iT,iT,ak],[⟨.exit 0,[sO 0,sI,sC 75 [],sI,.b (.lst 66 bc e)],[iT,iT,ak]⟩],Pw.unc4 (Pw.j1t)⟩]
 modes:=[(313,[j,e,e,e,e])]
 keep:=[(0,⟨[0,2,4,10,11],[0],[],[]⟩)]
 keepX:=[(0,.exit 0,⟨[0,2,4,10],[0],[],[]⟩)]
theorem jbs:aJ Tj:=
 cOf aM aN jbB Tj Tryz.func265 (ja j9W i) (ja (λh=>by kernel_rfl) i)
def ε:Con:=⟨211,[.rl 66 ak,.v iT,.v iT,.v iT,.clo 75 []],[ak,iT,iT,iT],⟨[],[.rl ak]⟩,[ak],λh=>Pw.j1u h.1 h.2.1 h.2.2.1 h.2.2.2⟩
def KN(g:HL [ak,iT,iT,iT]->k (HL [ak])):Con:=⟨211,[.rl 66 ak,.v iT,.v iT,.v iT,.clo 75 []],[ak,iT,iT,iT],⟨[],[.rl ak]⟩,[ak],g⟩
def jaJ(g:HL [ak,iT,iT,iT]->k (HL [ak])):FnD where
 N:=220
 np:=5
 cs:=[KN g,KM,Tj]
 ds:=[⟨0,[sO 0,sI,sC 75 [],sI,sI,.b (.lst 66 bc e)],[iT,iT,iT,ak],[⟨.exit 0,[sO 0,sI,sI,.b (.lst 66 bc e)],[iT,iT,ak]⟩],Pw.unc4 (Pw.j0I (λv0 v1 v2 v3=>g (v0,v1,v2,v3)))⟩,⟨2,[sO 0,sI,sI,.b (.lst 66 bc e)],[iT,iT,ak],[⟨.exit 2,[.b (.lst 66 bc e)],[ak]⟩],Pw.unc3 (Pw.j0J (λv0 v1 v2 v3=>g (v0,v1,v2,v3)))⟩,⟨4,[sO 0,sI,sC 75 [],sI,sI,.b (.lst 66 bc e)],[iT,iT,iT,ak],[⟨.exit 4,[sO 0,sI,sI,.b (.lst 66 bc e)],[iT,iT,ak]⟩],Pw.unc4 (Pw.j0K (λv0 v1 v2 v3=>g (v0,v1,v2,v3)))⟩,⟨6,[sO 0,sI,sI,.b (.lst 66 bc e)],[iT,iT,ak],[⟨.exit 6,[.b (.lst 66 bc e)],[ak]⟩],Pw.unc3 (Pw.j0L (λv0 v1 v2 v3=>g (v0,v1,v2,v3)))⟩,⟨8,[sO 0,sI,sI,sI,sC 75 [],sI,sI,sI,sI,sI,.b (.lst 66 bc e)],[iT,iT,iT,iT,iT,iT,iT,iT,ak],[⟨.exit 8,[sO 0,sI,sI,sI,sC 75 [],sI,sI,sI,.b (.lst 66 bc e)],[iT,iT,iT,iT,iT,iT,ak]⟩],Pw.unc9 (Pw.j0M (λv0 v1 v2 v3=>g (v0,v1,v2,v3)))⟩]
 modes:=[(211,[j,e,e,e,e]),(265,[j,e,e,e,e])]
 keep:=[(0,⟨[0,1,4,10,11],[0],[],[]⟩),(2,⟨[0,10,13],[0],[],[]⟩),(4,⟨[0,2,4,14,15],[0],[],[]⟩),(6,⟨[0,14,17],[0],[],[]⟩),(8,⟨[0,1,2,3,4,18,19,20,21,22],[0],[],[]⟩)]
 keepX:=[(0,.exit 0,⟨[0,1,10],[0],[],[]⟩),(2,.exit 2,⟨[],[0],[],[]⟩),(4,.exit 4,⟨[0,2,14],[0],[],[]⟩),(6,.exit 6,⟨[],[0],[],[]⟩),(8,.exit 8,⟨[0,1,2,3,4,18,19,20],[0],[],[]⟩)]
 dw:=[(11,[[],[],[],[],[],[],[],[],[],[],[],[],[],[],[],[0],[],[0]]),(23,[[],[],[],[],[],[],[],[],[],[],[],[],[],[],[],[0],[],[0]])]
theorem j9D(g:HL [ak,iT,iT,iT]->k (HL [ak]))(hg:aJ (KN g)):aJ (KN (Pw.j0Z g)):=
 cOf aM aN (jaJ g) (KN (Pw.j0Z g)) Tryz.func211 (ja hg (ja δ (ja jbs i))) (ja (λh=>by kernel_rfl) (ja (λh=>by kernel_rfl) (ja (λh=>by kernel_rfl) (ja (λh=>by kernel_rfl) (ja (λh=>by kernel_rfl) i)))))
theorem jav:aJ ε:=I5 (f:=211) (ps:=[.rl 66 ak,.v iT,.v iT,.v iT,.clo 75 []]) (ts:=[ak,iT,iT,iT]) (rp:=⟨[],[.rl ak]⟩) (rs:=[ak]) (B:=Pw.j0Z) j9D
def Tk:Con:=⟨135,[.rl 66 ak,.v iT,.clo 75 []],[ak,iT],⟨[],[.rl ak]⟩,[ak],Pw.unc2 Pw.j4t⟩
def jbC:FnD where
 N:=63
 np:=3
 cs:=[Th,ε]
 ds:=[⟨0,[sO 0,sI,sC 75 [],sI,sI,sI,.b (.lst 66 bc e)],[iT,iT,iT,iT,ak],[⟨.exit 0,[sO 0,sI,sC 75 [],sI,sI,.b (.lst 66 bc e)],[iT,iT,iT,ak]⟩],Pw.unc5 (Pw.j0s)⟩,⟨2,[sO 0,sI,sC 75 [],sI,.b (.lst 66 bc e)],[iT,iT,ak],[⟨.exit 2,[.b (.lst 66 bc e)],[ak]⟩],Pw.unc3 (Pw.j0T)⟩,⟨4,[sO 0,sI,sC 75 [],sI,sI,sI,.b (.lst 66 bc e)],[iT,iT,iT,iT,ak],[⟨.exit 4,[sO 0,sI,sC 75 [],sI,sI,.b (.lst 66 bc e)],[iT,iT,iT,ak]⟩],Pw.unc5 (Pw.j0t)⟩]
 modes:=[(210,[j,e,e,e]),(211,[j,e,e,e,e])]
 keep:=[(0,⟨[0,1,2,6,7,8],[0],[],[]⟩),(2,⟨[0,1,2,6],[0],[],[]⟩),(4,⟨[0,1,2,6,7,8],[0],[],[]⟩)]
 keepX:=[(0,.exit 0,⟨[0,1,2,6,7],[0],[],[]⟩),(2,.exit 2,⟨[],[0],[],[]⟩),(4,.exit 4,⟨[0,1,2,6,7],[0],[],[]⟩)]
theorem jbt:aJ Tk:=
 cOf aM aN jbC Tk Tryz.func135 (ja j8x (ja jav i)) (ja (λh=>by kernel_rfl) (ja (λh=>by kernel_rfl) (ja (λh=>by kernel_rfl) i)))
def Tl:Con:=⟨74,[.rl 66 ak,.clo 75 []],[ak],⟨[],[.rl ak]⟩,[ak],λh=>Pw.j0G h⟩
def j7C:FnD where
 N:=9
 np:=2
 cs:=[Tk]
 modes:=[(135,[j,e,e])]
theorem j79:aJ Tl:=
 cOf aM aN j7C Tl Tryz.func74 (ja jbt i) i
def RG:Con:=⟨28,[.v aG,.v iT,.v iT],[aG,iT,iT],⟨[.own 66 ak,.v iT],[]⟩,[ak,iT],Pw.unc3 Pw.j4X⟩
def jmT:FnD where
 N:=83
 np:=3
 cs:=[Gx,Kx,GC,Tg,Tl]
 ds:=[⟨1,[sI,sI,sB 512 0,sO 1001000,sD ay,sI,sI,.b (.cell [.d al,.d au,.d ar,.d ay,.d cX] e),.b (.lst 48 aF e)],[iT,iT,ay,iT,iT,al,au,ar,ay,cX,lD],[⟨.ret,[.s (.one (.nil)),sI],[iT]⟩,⟨.exit 1,[sO 1501200,.b (.lst 48 aF e)],[lD]⟩],Pw.u8 Pw.unc3 (Pw.j3d)⟩,⟨3,[sO 1003000,sO 1003001,sI,sI,.b (.lst 48 aF e),.b (.lst 66 bc e)],[iT,iT,lD,ak],[⟨.exit 3,[sO 1503400,.b (.lst 66 bc e)],[ak]⟩],Pw.unc4 (Pw.j3f)⟩,⟨5,[sO 1005000,sO 1005001,sI,sI,sI,sI,.b (.lst 48 aF e),.b (.lst 66 bc e)],[iT,iT,iT,iT,lD,ak],[⟨.exit 5,[sO 1505600,sO 1505601,sI,sI,.b (.lst 48 aF e),.b (.lst 66 bc e)],[iT,iT,lD,ak]⟩],Pw.unc6 (Pw.j3e)⟩]
 modes:=[(74,[j,e])]
 keep:=[(1,⟨[1,2,8,10,31,32,33],[512],[⟨1001000,48,aF,[.slot 10],e⟩],[]⟩),(3,⟨[10,14,51,52],[],[⟨1003000,48,aF,[.slot 10],e⟩,⟨1003001,66,bc,[.slot 14],e⟩],[]⟩),(5,⟨[10,14,15,16,51,52],[],[⟨1005000,48,aF,[.slot 10],e⟩,⟨1005001,66,bc,[.slot 14],e⟩],[]⟩)]
 keepX:=[(1,.ret,⟨[6,7],[],[],[]⟩),(1,.exit 1,⟨[10],[],[⟨1501200,48,aF,[.slot 10],e⟩],[]⟩),(3,.exit 3,⟨[14],[],[⟨1503400,66,bc,[.slot 14],e⟩],[]⟩),(5,.exit 5,⟨[10,14,51,52],[],[⟨1505600,48,aF,[.slot 10],e⟩,⟨1505601,66,bc,[.slot 14],e⟩],[]⟩)]
 ro:=[j,e]
 dw:=[(22,[[],[],[],[],[],[],[],[],[],[],[],[4736],[4800,1005001],[]])]
theorem jlA:aJ RG:=
 cOf aM aN jmT RG Tryz.func28 (ja R7 (ja Γ (ja SY (ja jmS (ja j79 i))))) (ja (λh=>by kernel_rfl) (ja (λh=>by kernel_rfl) (ja (λh=>by kernel_rfl) i)))
def Tm:Con:=⟨312,[.v (.int .u8)],[(.int .u8)],⟨[.v .bool],[]⟩,[.bool],λh=>Pw.jpV h⟩
def jxc:FnD where
 N:=9
 np:=1
theorem jvA:aJ Tm:=
 cOf aM aN jxc Tm Tryz.func312 i i
def Tn:Con:=⟨263,[.v .str],[.str],⟨[.v .bool],[]⟩,[.bool],λh=>Pw.jp0 h⟩
def jA5:FnD where
 N:=57
 np:=1
 cs:=[Tm]
 ds:=[⟨0,[sD .str,sI],[.str,iT],[⟨.ret,[sD .bool],[.bool]⟩,⟨.exit 0,[],[]⟩],Pw.unc2 (Pw.j7N)⟩]
 keep:=[(0,⟨[0,3],[],[],[]⟩)]
 keepX:=[(0,.ret,⟨[2],[],[],[]⟩)]
theorem jxd:aJ Tn:=
 cOf aM aN jA5 Tn Tryz.func263 (ja jvA i) (ja (λh=>by kernel_rfl) i)
end Go.Proofs.Pk
