/- cb: each given function is its plain function, printed by a program. -/
import Derived.Test.YtmccfdihkphfaaaGreatRECon6
open Bool renaming false->e,true->j
open _root_ renaming trivial->i
noncomputable section
open Go Go.Lft
set_option linter.unusedVariables false
set_option maxRecDepth 100000
namespace Go.Proofs.Pk
def Ks:Con:=⟨115,[.ref [(.list iT),iT]],[(.list iT),iT],⟨[.own 108 af],[.ref [(.list iT),iT]]⟩,[af,(.list iT),iT],Pw.unc2 Pw.j4v⟩
def jjv:FnD where
 N:=38
 np:=1
 cs:=[oY,tH]
 ds:=[⟨0,[sB 0 0,sO 1000000,sI,sI,.b (.cell [.d (.list iT),.d iT] e),.b (.lst 108 aT e)],[iT,iT,(.list iT),iT,af],[⟨.exit 0,[sO 1500100,.b (.cell [.d (.list iT),.d iT] e),.b (.lst 108 aT e)],[(.list iT),iT,af]⟩],Pw.unc5 (Pw.j2h)⟩]
 keep:=[(0,⟨[0,3,4,5],[0],[⟨1000000,108,aT,[.slot 3],e⟩],[]⟩)]
 keepX:=[(0,.exit 0,⟨[3],[0],[⟨1500100,108,aT,[.slot 3],e⟩],[]⟩)]
 ro:=[j]
theorem ZX:aM Ks:=
 cOf aN aO jjv Ks Tryz.func115 (ja qM (ja xo i)) (ja (λh=>by kernel_rfl) i)
def QT:Con:=⟨53,[.ref [(.list iT),iT]],[(.list iT),iT],⟨[.vn aB [3]],[.ref [(.list iT),iT]]⟩,[aB,(.list iT),iT],Pw.unc2 Pw.j9N⟩
def jlC:FnD where
 N:=109
 np:=1
 cs:=[oY,tH,QS,Kq,CC,Ks]
 ds:=[⟨0,[sB 0 0,sB 128 0,sB 192 0,sI,.b (.cell [.d (.list iT),.d iT] e),.b (.cell [.nil,.nil,.nil,.nil] e),.b (.cell [.ol 1000000,.nil,.nil,.nil] e),.b (.lst 105 bk e)],[iT,(.list iT),iT,au],[⟨.exit 0,[sB 0 0,sB 128 0,sB 192 0,.b (.cell [.d (.list iT),.d iT] e),.b (.cell [.nil,.nil,.nil,.nil] e),.b (.cell [.ol 1500100,.nil,.nil,.nil] e),.b (.lst 105 bk e)],[(.list iT),iT,au]⟩],Pw.unc4 (Pw.j2O)⟩,⟨2,[sB 0 0,sB 128 0,sB 192 0,sI,.b (.cell [.d (.list iT),.d iT] e),.b (.cell [.nil,.nil,.nil,.nil] e),.b (.cell [.ol 1002000,.ol 1002001,.nil,.nil] e),.b (.lst 105 bk e),.b (.lst 107 fN e)],[iT,(.list iT),iT,au,ax],[⟨.exit 2,[sB 0 0,sB 128 0,sB 192 0,.b (.cell [.d (.list iT),.d iT] e),.b (.cell [.nil,.nil,.nil,.nil] e),.b (.cell [.ol 1502300,.ol 1502301,.nil,.nil] e),.b (.lst 105 bk e),.b (.lst 107 fN e)],[(.list iT),iT,au,ax]⟩],Pw.unc5 (Pw.j2P)⟩,⟨4,[sB 0 0,sB 128 0,sB 192 0,sI,.b (.cell [.d (.list iT),.d iT] e),.b (.cell [.nil,.nil,.nil,.nil] e),.b (.cell [.ol 1004000,.ol 1004001,.ol 1004002,.nil] e),.b (.lst 105 bk e),.b (.lst 107 fN e),.b (.lst 110 fm e)],[iT,(.list iT),iT,au,ax,aw],[⟨.exit 4,[sB 128 0,sB 192 0,.b (.cell [.d (.list iT),.d iT] e),.b (.cell [.nil,.nil,.nil,.nil] e),.b (.cell [.ol 1504500,.ol 1504501,.ol 1504502,.nil] e),.b (.lst 105 bk e),.b (.lst 107 fN e),.b (.lst 110 fm e)],[(.list iT),iT,au,ax,aw]⟩],Pw.unc6 (Pw.j2R)⟩,⟨6,[sB 0 0,sB 128 0,sB 192 0,sI,sB 512 0,sI,sI,.b (.cell [.d (.list iT),.d iT] e),.b (.cell [.nil,.nil,.nil,.nil] e),.b (.cell [.ol 1006000,.ol 1006001,.ol 1006002,.nil] e),.b (.cell [.d .str,.d iT,.ol 1006003] e),.b (.lst 105 bk e),.b (.lst 107 fN e),.b (.lst 110 fm e),.b (.lst 3 iT e)],[iT,iT,iT,(.list iT),iT,.str,iT,au,ax,aw,(.list iT)],[⟨.exit 6,[sB 0 0,sB 128 0,sB 192 0,sI,sB 512 0,.b (.cell [.d (.list iT),.d iT] e),.b (.cell [.nil,.nil,.nil,.nil] e),.b (.cell [.ol 1506700,.ol 1506701,.ol 1506702,.nil] e),.b (.cell [.d .str,.d iT,.ol 1506703] e),.b (.lst 105 bk e),.b (.lst 107 fN e),.b (.lst 110 fm e),.b (.lst 3 iT e)],[iT,(.list iT),iT,.str,iT,au,ax,aw,(.list iT)]⟩],Pw.u8 Pw.unc3 (Pw.j2Q)⟩]
 keep:=[(0,⟨[0,2,3,4],[0,128,192],[⟨1000000,105,bk,[.cell 192 0],e⟩],[]⟩),(2,⟨[0,2,3,5],[0,128,192],[⟨1002000,105,bk,[.cell 192 0],e⟩,⟨1002001,107,fN,[.cell 192 1],e⟩],[]⟩),(4,⟨[0,2,3,7],[0,128,192],[⟨1004000,105,bk,[.cell 192 0],e⟩,⟨1004001,107,fN,[.cell 192 1],e⟩,⟨1004002,110,fm,[.cell 192 2],e⟩],[]⟩),(6,⟨[0,2,3,7,8,9,10],[0,128,192,512],[⟨1006000,105,bk,[.cell 192 0],e⟩,⟨1006001,107,fN,[.cell 192 1],e⟩,⟨1006002,110,fm,[.cell 192 2],e⟩,⟨1006003,3,iT,[.cell 512 2],e⟩],[]⟩)]
 keepX:=[(0,.exit 0,⟨[0,2,3],[0,128,192],[⟨1500100,105,bk,[.cell 192 0],e⟩],[]⟩),(2,.exit 2,⟨[0,2,3],[0,128,192],[⟨1502300,105,bk,[.cell 192 0],e⟩,⟨1502301,107,fN,[.cell 192 1],e⟩],[]⟩),(4,.exit 4,⟨[2,3],[0,128,192],[⟨1504500,105,bk,[.cell 192 0],e⟩,⟨1504501,107,fN,[.cell 192 1],e⟩,⟨1504502,110,fm,[.cell 192 2],e⟩],[]⟩),(6,.exit 6,⟨[0,2,3,7,8],[0,128,192,512],[⟨1506700,105,bk,[.cell 192 0],e⟩,⟨1506701,107,fN,[.cell 192 1],e⟩,⟨1506702,110,fm,[.cell 192 2],e⟩,⟨1506703,3,iT,[.cell 512 2],e⟩],[]⟩)]
 dw:=[(5,[[],[],[],[1344],[],[],[],[],[],[0],[1792],[1856,1000000],[],[192]]),(9,[[2432],[],[],[],[],[],[],[],[],[],[0],[],[0],[],[384],[384]])]
 ns:=[3]
theorem jkL:aM QT:=
 cOf aN aO jlC QT Tryz.func53 (ja qM (ja xo (ja jlB (ja ZV (ja Kr (ja ZX i)))))) (ja (λh=>by kernel_rfl) (ja (λh=>by kernel_rfl) (ja (λh=>by kernel_rfl) (ja (λh=>by kernel_rfl) i))))
def QU:Con:=⟨54,[.ref [(.list iT),iT],.v aB,.v .str],[(.list iT),iT,aB,.str],⟨[.v bD],[.ref [(.list iT),iT]]⟩,[bD,(.list iT),iT],Pw.unc4 Pw.j9O⟩
def jlD:FnD where
 N:=77
 np:=3
 cs:=[oY,tH,CC,Ks]
 ds:=[⟨0,[sB 0 0,sB 256 0,sB 384 0,sB 448 0,sI,.b (.cell [.d (.list iT),.d iT] e),.b (.cell [.d au,.d ax,.d aw,.d aA] e),.b (.cell [.d .str,.d iT,.d iT,.d iT,.d iT,.d iT,.nil,.nil,.d iT,.d iT] e),.b (.cell [.d .str,.d iT,.d iT,.d iT,.d iT,.d iT,.ol 1000000,.nil,.d iT,.d iT] e),.b (.lst 3 iT e)],[iT,(.list iT),iT,au,ax,aw,aA,.str,iT,iT,iT,iT,iT,iT,iT,.str,iT,iT,iT,iT,iT,iT,iT,(.list iT)],[⟨.exit 0,[sB 0 0,sB 256 0,sB 384 0,sB 448 0,.b (.cell [.d (.list iT),.d iT] e),.b (.cell [.d au,.d ax,.d aw,.d aA] e),.b (.cell [.d .str,.d iT,.d iT,.d iT,.d iT,.d iT,.nil,.nil,.d iT,.d iT] e),.b (.cell [.d .str,.d iT,.d iT,.d iT,.d iT,.d iT,.ol 1500100,.nil,.d iT,.d iT] e),.b (.lst 3 iT e)],[(.list iT),iT,au,ax,aw,aA,.str,iT,iT,iT,iT,iT,iT,iT,.str,iT,iT,iT,iT,iT,iT,iT,(.list iT)]⟩],Pw.u8 (Pw.u8 Pw.unc8) (Pw.j2S)⟩]
 keep:=[(0,⟨[0,4,6,7,8],[0,256,384,448],[⟨1000000,3,iT,[.cell 448 6],e⟩],[]⟩)]
 keepX:=[(0,.exit 0,⟨[0,4,6,7],[0,256,384,448],[⟨1500100,3,iT,[.cell 448 6],e⟩],[]⟩)]
 dw:=[(7,[[],[],[],[],[],[],[0],[3200],[3264,1000000],[],[448]])]
theorem jkM:aM QU:=
 cOf aN aO jlD QU Tryz.func54 (ja qM (ja xo (ja Kr (ja ZX i)))) (ja (λh=>by kernel_rfl) i)
def J9:Con:=⟨11,[.ref [(.list iT),iT]],[(.list iT),iT],⟨[.v iT],[.ref [(.list iT),iT]]⟩,[iT,(.list iT),iT],Pw.unc2 Pw.j5W⟩
def jjw:FnD where
 N:=16
 np:=1
 cs:=[oY,tH,CC]
theorem Zy:aM J9:=
 cOf aN aO jjw J9 Tryz.func11 (ja qM (ja xo (ja Kr i))) i
def F2:Con:=⟨56,[.ref [(.list iT),iT],.v (.pair (.list .unit) (.pair (.list .unit) (.pair (.list .unit) (.list .unit))))],[(.list iT),iT,(.pair (.list .unit) (.pair (.list .unit) (.pair (.list .unit) (.list .unit))))],⟨[.v fw],[.ref [(.list iT),iT]]⟩,[fw,(.list iT),iT],Pw.unc3 Pw.j6V⟩
def jmB:FnD where
 N:=52
 np:=2
 cs:=[oY,tH,CC,J9]
 dw:=[(3,[[],[],[],[1344],[0,1344],[],[],[384]]),(8,[[],[],[],[],[],[],[0],[],[],[],[],[384]])]
theorem QV:aM F2:=
 cOf aN aO jmB F2 Tryz.func56 (ja qM (ja xo (ja Kr (ja Zy i)))) i
def PJ:Con:=⟨9,[.ref [(.list iT),iT],.v iT],[(.list iT),iT,iT],⟨[.v aB],[.ref [(.list iT),iT]]⟩,[aB,(.list iT),iT],Pw.unc3 Pw.j8P⟩
def jkN:FnD where
 N:=69
 np:=2
 cs:=[oY,Kq,QT,QU,F2]
 ds:=[⟨0,[sB 0 0,sB 256 0,sB 320 0,sI,.b (.cell [.d (.list iT),.d iT] e),.b (.cell [.nil,.nil,.nil,.nil] e),.b (.cell [.d au,.d ax,.d aw,.ol 1000000] e),.b (.lst 91 cB j)],[iT,(.list iT),iT,au,ax,aw,aA],[⟨.exit 0,[sB 256 0,sB 320 0,.b (.cell [.d (.list iT),.d iT] e),.b (.cell [.nil,.nil,.nil,.nil] e),.b (.cell [.d au,.d ax,.d aw,.ol 1500100] e),.b (.lst 91 cB j)],[(.list iT),iT,au,ax,aw,aA]⟩],Pw.unc7 (Pw.j2x)⟩,⟨2,[sB 0 0,sB 256 0,sB 320 0,sI,sB 448 0,sI,.b (.cell [.d (.list iT),.d iT] e),.b (.cell [.nil,.nil,.nil,.nil] e),.b (.cell [.d au,.d ax,.d aw,.ol 1002000] e),.b (.cell [.d .str,.ol 1002001,.nil] e),.b (.lst 91 cB j),.b (.lst 96 bD e)],[iT,iT,(.list iT),iT,au,ax,aw,.str,aA,bC],[⟨.exit 2,[sB 0 0,sB 256 0,sB 320 0,sI,sB 448 0,.b (.cell [.d (.list iT),.d iT] e),.b (.cell [.nil,.nil,.nil,.nil] e),.b (.cell [.d au,.d ax,.d aw,.ol 1502300] e),.b (.cell [.d .str,.ol 1502301,.nil] e),.b (.lst 91 cB j),.b (.lst 96 bD e)],[iT,(.list iT),iT,au,ax,aw,.str,aA,bC]⟩],Pw.u8 Pw.unc2 (Pw.j2v)⟩,⟨4,[sB 0 0,sB 256 0,sB 320 0,sI,sB 448 0,sI,.b (.cell [.d (.list iT),.d iT] e),.b (.cell [.nil,.nil,.nil,.nil] e),.b (.cell [.d au,.d ax,.d aw,.ol 1004000] e),.b (.cell [.d .str,.ol 1004001,.ol 1004002] e),.b (.lst 91 cB j),.b (.lst 96 bD e),.b (.lst 100 fw e)],[iT,iT,(.list iT),iT,au,ax,aw,.str,aA,bC,bt],[⟨.exit 4,[sB 0 0,sB 256 0,sB 320 0,sI,sB 448 0,.b (.cell [.d (.list iT),.d iT] e),.b (.cell [.nil,.nil,.nil,.nil] e),.b (.cell [.d au,.d ax,.d aw,.ol 1504500] e),.b (.cell [.d .str,.ol 1504501,.ol 1504502] e),.b (.lst 91 cB j),.b (.lst 96 bD e),.b (.lst 100 fw e)],[iT,(.list iT),iT,au,ax,aw,.str,aA,bC,bt]⟩],Pw.u8 Pw.unc3 (Pw.j2w)⟩]
 keep:=[(0,⟨[0,4,5,6],[0,256,320],[⟨1000000,91,cB,[.cell 320 3],j⟩],[]⟩),(2,⟨[0,4,5,6,7,8],[0,256,320,448],[⟨1002000,91,cB,[.cell 320 3],e⟩,⟨1002001,96,bD,[.cell 448 1],e⟩],[]⟩),(4,⟨[0,4,5,6,7,9],[0,256,320,448],[⟨1004000,91,cB,[.cell 320 3],e⟩,⟨1004001,96,bD,[.cell 448 1],e⟩,⟨1004002,100,fw,[.cell 448 2],e⟩],[]⟩)]
 keepX:=[(0,.exit 0,⟨[4,5],[0,256,320],[⟨1500100,91,cB,[.cell 320 3],e⟩],[]⟩),(2,.exit 2,⟨[0,4,5,6,7],[0,256,320,448],[⟨1502300,91,cB,[.cell 320 3],e⟩,⟨1502301,96,bD,[.cell 448 1],e⟩],[]⟩),(4,.exit 4,⟨[0,4,5,6,7],[0,256,320,448],[⟨1504500,91,cB,[.cell 320 3],e⟩,⟨1504501,96,bD,[.cell 448 1],e⟩,⟨1504502,100,fw,[.cell 448 2],e⟩],[]⟩)]
 dw:=[(9,[[],[],[],[],[2432],[],[],[],[],[],[0,1002000],[2880],[2944,1002000,1002001],[],[448]]),(13,[[],[],[],[],[0],[3776],[3840,1004001,1004002],[],[448]])]
 pa:=[(56,(32,(.pair (.list .unit) (.pair (.list .unit) (.pair (.list .unit) (.list .unit))))))]
theorem jjx:aM PJ:=
 cOf aN aO jkN PJ Tryz.func9 (ja qM (ja ZV (ja jkL (ja jkM (ja QV i))))) (ja (λh=>by kernel_rfl) (ja (λh=>by kernel_rfl) (ja (λh=>by kernel_rfl) i)))
def QW:Con:=⟨57,[.v aB],[aB],⟨[.raw [512,704,896,2560,1920,2112] [.s (.st [.ol 512,.ol 704,.ol 896,.ol 2560]),.b (.lst 105 bk e),.b (.lst 107 fN e),.b (.lst 110 fm e),.b (.row 91 cB 1 [.d .str,.ol 1920,.ol 2112]),.b (.lst 96 bD e),.b (.lst 100 fw e)]],[]⟩,[au,ax,aw,.str,bC,bt],λh=>Pw.jcF h⟩
def jt8:FnD where
 N:=43
 np:=1
 ds:=[⟨0,[],[],[],λ_=>none⟩]
 dw:=[(1,[[],[],[512],[],[],[704],[],[],[896],[],[192],[192]]),(6,[[],[],[1920,1936],[],[],[2112,2128],[],[320,336],[],[320,336]])]
 un:=[0]
 unr:=2
 rw:=j
 rn:=[512,704,896,2560,1920,2112]
 b1:=[39]
theorem jrj:aM QW:=
 cOf aN aO jt8 QW Tryz.func57 i (ja (λh=>by kernel_rfl) i)
def ZY:Con:=⟨10,[.ref [(.list iT),iT],.v aB],[(.list iT),iT,aB],⟨[.v aB],[.ref [(.list iT),iT]]⟩,[aB,(.list iT),iT],Pw.unc3 Pw.j6W⟩
def jmC:FnD where
 N:=289
 np:=2
 cs:=[oY,tH,F2,QW]
 dw:=[(3,[[],[],[],[],[],[],[0],[],[]]),(16,[[],[],[],[],[],[],[4544],[2112,4608],[],[],[2560]]),(18,[[],[],[],[],[],[],[0],[],[5440],[0,5440],[],[],[512]]),(20,[[],[],[],[],[],[],[0],[],[],[],[],[6528],[0,6528],[],[],[704]]),(22,[[],[],[],[],[],[],[0],[7360],[],[0],[],[],[],[],[704]]),(24,[[],[],[],[],[],[],[0],[],[8448],[0,8448],[],[],[704]]),(26,[[],[],[],[],[],[],[0],[],[9344],[0,9344],[],[9536],[0,9536],[],[9728],[],[],[704,9728]]),(28,[[],[],[10176],[],[0],[],[],[],[10560],[0,10560],[],[10752],[0,10752],[10880],[],[10880,11008],[896,11072],[],[320]]),(30,[[],[],[11456],[],[0],[],[],[],[11840],[2560,11840,11904],[],[320]]),(34,[[],[],[],[],[],[],[0],[],[]]),(36,[[],[],[],[],[],[],[],[],[],[],[0],[],[]])]
 pre:=[(54,[.rl 2560,.rl 11904])]
 b1:=[185]
 pa:=[(56,(32,(.pair (.list .unit) (.pair (.list .unit) (.pair (.list .unit) (.list .unit))))))]
 sc:=j
theorem jlE:aM ZY:=
 cOf aN aO jmC ZY Tryz.func10 (ja qM (ja xo (ja QV (ja jrj i)))) i
def QX:Con:=⟨57,[.v aB],[aB],⟨[.raw [512,704,896,2576,1920,2112,1936,2128] [.s (.st [.ol 512,.ol 704,.ol 896,.ol 2576]),.b (.lst 105 bk e),.b (.lst 107 fN e),.b (.lst 110 fm e),.b (.row 91 cB 2 [.d .str,.ol 1920,.ol 2112,.d .str,.ol 1936,.ol 2128]),.b (.lst 96 bD e),.b (.lst 100 fw e),.b (.lst 96 bD e),.b (.lst 100 fw e)]],[]⟩,[au,ax,aw,.str,.str,bC,bt,bC,bt],λh=>Pw.ji8 h⟩
def jt9:FnD where
 N:=43
 np:=1
 ds:=[⟨0,[],[],[],λ_=>none⟩]
 dw:=[(1,[[],[],[512],[],[],[704],[],[],[896],[],[192],[192]]),(6,[[],[],[1920,1936,1952],[],[],[2112,2128,2144],[],[320,336,352],[],[320,336,352]])]
 un:=[0]
 unr:=3
 rw:=j
 rn:=[512,704,896,2576,1920,2112,1936,2128]
 b1:=[39]
theorem jrk:aM QX:=
 cOf aN aO jt9 QX Tryz.func57 i (ja (λh=>by kernel_rfl) i)
def ZZ:Con:=⟨10,[.ref [(.list iT),iT],.v aB],[(.list iT),iT,aB],⟨[.v aB],[.ref [(.list iT),iT]]⟩,[aB,(.list iT),iT],Pw.unc3 Pw.jaY⟩
def jmD:FnD where
 N:=289
 np:=2
 cs:=[oY,tH,F2,QX]
 dw:=[(3,[[],[],[],[],[],[],[0],[],[]]),(16,[[],[],[],[],[],[],[4544],[2112,2128,4608],[],[],[2576]]),(18,[[],[],[],[],[],[],[0],[],[5440],[0,5440],[],[],[512]]),(20,[[],[],[],[],[],[],[0],[],[],[],[],[6528],[0,6528],[],[],[704]]),(22,[[],[],[],[],[],[],[0],[7360],[],[0],[],[],[],[],[704]]),(24,[[],[],[],[],[],[],[0],[],[8448],[0,8448],[],[],[704]]),(26,[[],[],[],[],[],[],[0],[],[9344],[0,9344],[],[9536],[0,9536],[],[9728],[],[],[704,9728]]),(28,[[],[],[10176],[],[0],[],[],[],[10560],[0,10560],[],[10752],[0,10752],[10880],[],[10880,11008],[896,11072],[],[320]]),(30,[[],[],[11456],[],[0],[],[],[],[11840],[2576,11840,11904],[],[320]]),(34,[[],[],[],[],[],[],[0],[],[]]),(36,[[],[],[],[],[],[],[],[],[],[],[0],[],[]])]
 pre:=[(54,[.rl 2576,.rl 11904])]
 b1:=[185]
 pa:=[(56,(32,(.pair (.list .unit) (.pair (.list .unit) (.pair (.list .unit) (.list .unit))))))]
 sc:=j
theorem jlF:aM ZZ:=
 cOf aN aO jmD ZZ Tryz.func10 (ja qM (ja xo (ja QV (ja jrk i)))) i
def Zs:Con:=⟨10,[.ref [(.list iT),iT],.v aB],[(.list iT),iT,aB],⟨[.v aB],[.ref [(.list iT),iT]]⟩,[aB,(.list iT),iT],Pw.unc3 Pw.j9P⟩
theorem jmE:aM Zs:=jFe jlE jlF
def PK:Con:=⟨13,[.v iT,.v iT],[iT,iT],⟨[.v iT],[]⟩,[iT],Pw.unc2 Pw.jqM⟩
def jxu:FnD where
 N:=12
 np:=2
theorem juK:aM PK:=
 cOf aN aO jxu PK Tryz.func13 i i
def QY:Con:=⟨312,[.v (.int .u8)],[(.int .u8)],⟨[.v .bool],[]⟩,[.bool],λh=>Pw.jnS h⟩
def juL:FnD where
 N:=9
 np:=1
theorem jta:aM QY:=
 cOf aN aO juL QY Tryz.func312 i i
def QZ:Con:=⟨263,[.v .str],[.str],⟨[.v .bool],[]⟩,[.bool],λh=>Pw.jmY h⟩
def jxv:FnD where
 N:=57
 np:=1
 cs:=[QY]
 ds:=[⟨0,[sD .str,sI],[.str,iT],[⟨.ret,[sD .bool],[.bool]⟩,⟨.exit 0,[],[]⟩],Pw.unc2 (Pw.j6E)⟩]
 keep:=[(0,⟨[0,3],[],[],[]⟩)]
 keepX:=[(0,.ret,⟨[2],[],[],[]⟩)]
theorem juM:aM QZ:=
 cOf aN aO jxv QZ Tryz.func263 (ja jta i) (ja (λh=>by kernel_rfl) i)
def CD:Con:=⟨202,[.v (.list .str),.v iT],[(.list .str),iT],⟨[.v iT],[]⟩,[iT],Pw.unc2 Pw.je6⟩
def jxw:FnD where
 N:=26
 np:=2
 cs:=[QZ]
 ds:=[⟨0,[sD (.list .str),sI,sI],[(.list .str),iT,iT],[⟨.ret,[sI],[iT]⟩,⟨.exit 0,[],[]⟩],Pw.unc3 (Pw.j6F)⟩]
 keep:=[(0,⟨[0,1,5],[],[],[]⟩)]
 keepX:=[(0,.ret,⟨[4],[],[],[]⟩)]
theorem Kt:aM CD:=
 cOf aN aO jxw CD Tryz.func202 (ja juM i) (ja (λh=>by kernel_rfl) i)
def xn:Con:=⟨146,[.v iT,.v iT,.v iT],[iT,iT,iT],⟨[.v .bool],[]⟩,[.bool],Pw.unc3 Pw.j8x⟩
def jBI:FnD where
 N:=15
 np:=3
theorem CA:aM xn:=
 cOf aN aO jBI xn Tryz.func146 i i
def Q0:Con:=⟨214,[.v ov],[ov],⟨[.v .bool],[]⟩,[.bool],λh=>Pw.jbu h⟩
def juN:FnD where
 N:=38
 np:=1
 cs:=[xn]
theorem jtb:aM Q0:=
 cOf aN aO juN Q0 Tryz.func214 (ja CA i) i
def Q2:Con:=⟨333,[.v iT],[iT],⟨[.v .bool],[]⟩,[.bool],λh=>Pw.j1C h⟩
def jxx:FnD where
 N:=16
 np:=1
theorem juO:aM Q2:=
 cOf aN aO jxx Q2 Tryz.func333 i i
def F3:Con:=⟨315,[.v iT,.v iT],[iT,iT],⟨[.v iT],[]⟩,[iT],Pw.unc2 Pw.jfR⟩
def jxy:FnD where
 N:=23
 np:=2
 cs:=[Q2]
theorem Q3:aM F3:=
 cOf aN aO jxy F3 Tryz.func315 (ja juO i) i
def Q4:Con:=⟨332,[.v aF],[aF],⟨[.v .bool],[]⟩,[.bool],λh=>Pw.jkc h⟩
def juP:FnD where
 N:=36
 np:=1
 cs:=[F3]
theorem jtc:aM Q4:=
 cOf aN aO juP Q4 Tryz.func332 (ja Q3 i) i
end Go.Proofs.Pk
