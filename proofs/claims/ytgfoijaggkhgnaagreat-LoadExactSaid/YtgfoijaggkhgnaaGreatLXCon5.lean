/- cB: each given function is its plain function, printed by a program. -/
import Derived.Test.YtgfoijaggkhgnaaGreatLXCon4
open Bool renaming false->e,true->j
open _root_ renaming trivial->i
noncomputable section
open Go Go.Lft
set_option linter.unusedVariables false
set_option maxRecDepth 100000
namespace Go.Proofs.Pk
def Rm:Con:=⟨81,[.v (.list iT),.v iT,.v iT],[(.list iT),iT,iT],⟨[.own 3 (.list iT)],[]⟩,[(.list iT)],Pw.unc3 Pw.jkK⟩
def jvl:FnD where
 N:=19
 np:=3
 cs:=[_G,Rk,_I,Rl]
 modes:=[(96,[j]),(108,[j,e]),(111,[j])]
 ro:=[j]
 dw:=[(3,[[],[704,960],[],[1088],[960,1152],[]])]
theorem jtD:aG Rm:=
 cOf aJ aK jvl Rm Tryz.func81 (ja jgD (ja jcM (ja jhi (ja jeQ i)))) i
def Rn:Con:=⟨112,[.v bS],[bS],⟨[.clo 159 [.p [bS]]],[]⟩,[bS],λh=>Pw.j29 h⟩
def j8z:FnD where
 N:=4
 np:=1
theorem j8g:aG Rn:=
 cOf aJ aK j8z Rn Tryz.func112 i i
def KX:Con:=⟨220,[.v bX],[bX],⟨[.v iT],[]⟩,[iT],λh=>Pw.jaL h⟩
def jtE:FnD where
 N:=11
 np:=1
theorem _J:aG KX:=
 cOf aJ aK jtE KX Tryz.func220 i i
def Ro:Con:=⟨128,[.v iT,.ip [iT,ag],.ip [iT]],[iT,iT,ag,iT],⟨[.v .bool],[]⟩,[.bool],Pw.unc4 Pw.j9e⟩
def ji8:FnD where
 N:=13
 np:=3
theorem jhj:aG Ro:=
 cOf aJ aK ji8 Ro Tryz.func128 i i
def Rp:Con:=⟨127,[.v iT,.clo 128 [.p [iT,ag],.p [iT]]],[iT,iT,ag,iT],⟨[.v iT],[]⟩,[iT],Pw.unc4 Pw.jjJ⟩
def jrD:FnD where
 N:=26
 np:=2
 cs:=[Ro]
 ds:=[⟨0,[sC 128 [.p [iT,ag],.p [iT]],sI,sI],[iT,ag,iT,iT,iT],[⟨.exit 0,[sI],[iT]⟩],Pw.unc5 (Pw.j34)⟩]
 keep:=[(0,⟨[1,5,6],[],[],[]⟩)]
 keepX:=[(0,.exit 0,⟨[5],[],[],[]⟩)]
theorem jpj:aG Rp:=
 cOf aJ aK jrD Rp Tryz.func127 (ja jhj i) (ja (λh=>by kernel_rfl) i)
def KY:Con:=⟨88,[.v dg,.v iT],[dg,iT],⟨[.v iT],[]⟩,[iT],Pw.unc2 Pw.j6E⟩
def jlg:FnD where
 N:=10
 np:=2
 cs:=[Rp]
theorem _K:aG KY:=
 cOf aJ aK jlg KY Tryz.func88 (ja jpj i) i
def KZ:Con:=⟨89,[.v dg,.v iT],[dg,iT],⟨[.v iT],[]⟩,[iT],Pw.unc2 Pw.j4k⟩
def jk7:FnD where
 N:=16
 np:=2
theorem _L:aG KZ:=
 cOf aJ aK jk7 KZ Tryz.func89 i i
def G9:Con:=⟨61,[.v dg,.v iT,.v iT],[dg,iT,iT],⟨[.own 135 ak],[]⟩,[ak],Pw.unc3 Pw.j1P⟩
def jk8:FnD where
 N:=41
 np:=3
 cs:=[KY,KZ]
 ds:=[⟨0,[sI,sI,sB 192 0,sO 1000000,.b (.cell [.d iT,.d ag] e),.b (.lst 135 aw e)],[iT,iT,iT,ag,ak],[⟨.exit 0,[sO 1500100,.b (.lst 135 aw e)],[ak]⟩],Pw.unc5 (Pw.j0y)⟩]
 keep:=[(0,⟨[1,2,3,7],[192],[⟨1000000,135,aw,[.slot 7],e⟩],[]⟩)]
 keepX:=[(0,.exit 0,⟨[7],[],[⟨1500100,135,aw,[.slot 7],e⟩],[]⟩)]
 ro:=[j]
theorem Rq:aG G9:=
 cOf aJ aK jk8 G9 Tryz.func61 (ja _K (ja _L i)) (ja (λh=>by kernel_rfl) i)
def Rr:Con:=⟨259,[.v aN],[aN],⟨[.v iT],[]⟩,[iT],λh=>Pw.j4i h⟩
def jpk:FnD where
 N:=11
 np:=1
theorem jor:aG Rr:=
 cOf aJ aK jpk Rr Tryz.func259 i i
def Rs:Con:=⟨221,[.v dg,.v aN],[dg,aN],⟨[.v iT,.v .bool],[]⟩,[iT,.bool],Pw.unc2 Pw.j2P⟩
def jlh:FnD where
 N:=30
 np:=2
 cs:=[G9,Rr]
 ds:=[⟨0,[sB 192 0,sO 1000000,sI,sI,.b (.cell [.d iT,.d iT] e),.b (.lst 135 aw e)],[iT,iT,iT,iT,ak],[⟨.ret,[sI,sD .bool],[iT,.bool]⟩,⟨.exit 0,[],[]⟩],Pw.unc5 (Pw.j1e)⟩]
 keep:=[(0,⟨[3,10,11,12],[192],[⟨1000000,135,aw,[.slot 10],e⟩],[]⟩)]
 keepX:=[(0,.ret,⟨[4,5],[],[],[]⟩)]
theorem jk9:aG Rs:=
 cOf aJ aK jlh Rs Tryz.func221 (ja Rq (ja jor i)) (ja (λh=>by kernel_rfl) i)
def Ha:Con:=⟨163,[.v dg,.v bX,.v iT],[dg,bX,iT],⟨[.v iT,.v .bool],[]⟩,[iT,.bool],Pw.unc3 Pw.j0J⟩
def jli:FnD where
 N:=50
 np:=3
 cs:=[KX,Rs]
 dw:=[(5,[[],[],[],[],[],[],[],[],[512]])]
theorem Ru:aG Ha:=
 cOf aJ aK jli Ha Tryz.func163 (ja _J (ja jk9 i)) i
def _M:Con:=⟨91,[.v ag],[ag],⟨[.own 113 ag],[]⟩,[ag],λh=>Pw.j3l h⟩
def jas:FnD where
 N:=8
 np:=1
 ro:=[j]
theorem jaj:aG _M:=
 X2 aJ aK jas 91 aN 113 Tryz.f91 (Tryz.f91.body.getD .skip) Tryz.func91 (by kernel_rfl) (by kernel_rfl) (qy (by kernel_rfl)) (by kernel_rfl) i (by kernel_rfl)
  (λh R k=>by kernel_rfl)
def K3:Con:=⟨92,[.v aN],[aN],⟨[.v .bool],[]⟩,[.bool],λh=>Pw.j9T h⟩
def jos:FnD where
 N:=8
 np:=1
theorem _N:aG K3:=
 cOf aJ aK jos K3 Tryz.func92 i i
def Rv:Con:=⟨129,[.rl 113 ag,.clo 92 []],[ag],⟨[.v iT],[.rl ag]⟩,[iT,ag],λh=>Pw.j2o h⟩
def j8T:FnD where
 N:=19
 np:=2
 cs:=[K3]
 ds:=[⟨0,[sO 0,sC 92 [],sI,sI,.b (.lst 113 aN e)],[iT,iT,ag],[⟨.ret,[sI,.b (.lst 113 aN e)],[iT,ag]⟩,⟨.exit 0,[.b (.lst 113 aN e)],[ag]⟩],Pw.unc3 (Pw.j0t)⟩]
 keep:=[(0,⟨[0,1,7,8],[0],[],[]⟩)]
 keepX:=[(0,.ret,⟨[4],[0],[],[]⟩),(0,.exit 0,⟨[],[0],[],[]⟩)]
theorem j8C:aG Rv:=
 cOf aJ aK j8T Rv Tryz.func129 (ja _N i) (ja (λh=>by kernel_rfl) i)
def Rw:Con:=⟨90,[.rl 113 ag,.clo 92 []],[ag],⟨[.hd],[.rl ag]⟩,[iT,ag],λh=>Pw.j1m h⟩
def j8D:FnD where
 N:=42
 np:=2
 cs:=[K3,Rv]
 ds:=[⟨0,[sO 0,sC 92 [],sI,sI,.b (.lst 113 aN e)],[iT,iT,ag],[⟨.exit 0,[sO 0,sI,.b (.lst 113 aN e)],[iT,ag]⟩],Pw.unc3 (Pw.j0r)⟩]
 modes:=[(129,[j,e])]
 keep:=[(0,⟨[0,1,5,6],[0],[],[]⟩)]
 keepX:=[(0,.exit 0,⟨[0,5],[0],[],[]⟩)]
 hd:=j
theorem j8i:aG Rw:=
 cOf aJ aK j8D Rw Tryz.func90 (ja _N (ja j8C i)) (ja (λh=>by kernel_rfl) i)
def Rx:Con:=⟨94,[.v aN,.v aN],[aN,aN],⟨[.v iT],[]⟩,[iT],Pw.unc2 Pw.j89⟩
def jot:FnD where
 N:=10
 np:=2
theorem jyV:aG Rx:=
 cOf aJ aK jot Rx Tryz.func94 i i
def _O:Con:=⟨93,[.rl 113 ag,.clo 94 []],[ag],⟨[],[.rl ag]⟩,[ag],λh=>Pw.j0P h⟩
def jd0:FnD where
 N:=14
 np:=2
 cs:=[Rx]
theorem j4g:aG _O:=
 Yn Tryz.sort93 (aN) rfl 113 (by kernel_rfl) Tryz.isAgg113 Tryz.sizeOf113 _ 94 (enters_of Tryz.func94 (by kernel_rfl) rfl) jyd jye 93 rfl
def Bg:Con:=⟨62,[.v ag],[ag],⟨[.own 113 ag],[]⟩,[ag],λh=>Pw.j9y h⟩
def jtF:FnD where
 N:=54
 np:=1
 cs:=[_M,Rw,_O]
 ds:=[⟨0,[sO 1000000,sO 1000001,sI,sI,.b (.lst 113 aN e),.b (.lst 113 aN e)],[iT,iT,ag,ag],[⟨.exit 0,[sO 1500100,.b (.lst 113 aN e)],[ag]⟩],Pw.unc4 (Pw.j3G)⟩]
 modes:=[(90,[j,e]),(93,[j,e])]
 keep:=[(0,⟨[4,13,14,15],[],[⟨1000000,113,aN,[.slot 4],e⟩,⟨1000001,113,aN,[.slot 13],e⟩],[]⟩)]
 keepX:=[(0,.exit 0,⟨[4],[],[⟨1500100,113,aN,[.slot 4],e⟩],[]⟩)]
 ro:=[j]
 dw:=[(9,[[],[],[],[],[],[],[],[],[],[],[],[],[],[],[1000000]])]
theorem Hb:aG Bg:=
 cOf aJ aK jtF Bg Tryz.func62 (ja jaj (ja j8i (ja j4g i))) (ja (λh=>by kernel_rfl) i)
def K4:Con:=⟨41,[.v dg,.v ag,.v iT,.v iT],[dg,ag,iT,iT],⟨[.own 113 ag],[]⟩,[ag],Pw.unc4 Pw.j2j⟩
def jpl:FnD where
 N:=73
 np:=4
 cs:=[G9,Bg]
 ds:=[⟨0,[sD ag,sO 1000000,sO 1000001,sI,sI,.b (.lst 113 aN e),.b (.lst 135 aw e)],[ag,iT,iT,ag,ak],[⟨.exit 0,[sO 1500100,.b (.lst 113 aN e)],[ag]⟩],Pw.unc5 (Pw.j41)⟩,⟨2,[sD ag,sO 1002000,sB 704 0,sI,sO 1002001,sI,sI,.b (.cell [.d iT,.d iT,.d iT] e),.b (.lst 113 aN e),.b (.lst 135 aw e)],[ag,iT,iT,iT,iT,iT,iT,ag,ak],[⟨.exit 2,[sD ag,sO 1502300,sO 1502301,sI,sI,.b (.lst 113 aN e),.b (.lst 135 aw e)],[ag,iT,iT,ag,ak]⟩],Pw.unc9 (Pw.j40)⟩,⟨4,[sD ag,sO 1004000,sB 704 0,sI,sO 1004001,sI,sI,sD ag,sI,sI,.b (.cell [.d iT,.d iT,.d iT] e),.b (.lst 113 aN e),.b (.lst 135 aw e)],[ag,iT,iT,iT,ag,iT,iT,iT,iT,iT,ag,ak],[⟨.exit 4,[sD ag,sO 1504500,sB 704 0,sI,sO 1504501,sI,sI,.b (.cell [.d iT,.d iT,.d iT] e),.b (.lst 113 aN e),.b (.lst 135 aw e)],[ag,iT,iT,iT,iT,iT,iT,ag,ak]⟩],Pw.u8 Pw.unc4 (Pw.j3Z)⟩]
 keep:=[(0,⟨[1,9,19,20,21],[],[⟨1000000,113,aN,[.slot 9],e⟩,⟨1000001,135,aw,[.slot 19],e⟩],[]⟩),(2,⟨[1,9,11,13,19,20,21],[704],[⟨1002000,113,aN,[.slot 9],e⟩,⟨1002001,135,aw,[.slot 19],e⟩],[]⟩),(4,⟨[1,9,11,13,19,20,21,45,46,47],[704],[⟨1004000,113,aN,[.slot 9],e⟩,⟨1004001,135,aw,[.slot 19],e⟩],[]⟩)]
 keepX:=[(0,.exit 0,⟨[9],[],[⟨1500100,113,aN,[.slot 9],e⟩],[]⟩),(2,.exit 2,⟨[1,9,19,20,21],[],[⟨1502300,113,aN,[.slot 9],e⟩,⟨1502301,135,aw,[.slot 19],e⟩],[]⟩),(4,.exit 4,⟨[1,9,11,13,19,20,21],[704],[⟨1504500,113,aN,[.slot 9],e⟩,⟨1504501,135,aw,[.slot 19],e⟩],[]⟩)]
 ro:=[j]
theorem _P:aG K4:=
 cOf aJ aK jpl K4 Tryz.func41 (ja Rq (ja Hb i)) (ja (λh=>by kernel_rfl) (ja (λh=>by kernel_rfl) (ja (λh=>by kernel_rfl) i)))
def Ry:Con:=⟨218,[.v gv,.v fZ,.v iT,.v iT],[gv,fZ,iT,iT],⟨[.own 113 ag],[]⟩,[ag],Pw.unc4 Pw.j27⟩
def jmV:FnD where
 N:=58
 np:=4
 cs:=[G9,Bg]
 ds:=[⟨0,[sB 320 0,sO 1000000,sO 1000001,sI,sI,.b (.cell [.d .str,.d iT,.d (.list iT)] e),.b (.lst 113 aN e),.b (.lst 135 aw e)],[iT,iT,.str,iT,(.list iT),ag,ak],[⟨.exit 0,[sO 1500100,.b (.lst 113 aN e)],[ag]⟩],Pw.unc7 (Pw.j2Y)⟩,⟨2,[sB 320 0,sO 1002000,sB 704 0,sO 1002001,sI,sI,sD (.list iT),sI,sI,.b (.cell [.d .str,.d iT,.d (.list iT)] e),.b (.cell [.d iT,.d iT,.d iT] e),.b (.lst 113 aN e),.b (.lst 135 aw e)],[iT,iT,(.list iT),iT,iT,.str,iT,(.list iT),iT,iT,iT,ag,ak],[⟨.exit 2,[sB 320 0,sO 1502300,sO 1502301,sI,sI,.b (.cell [.d .str,.d iT,.d (.list iT)] e),.b (.lst 113 aN e),.b (.lst 135 aw e)],[iT,iT,.str,iT,(.list iT),ag,ak]⟩],Pw.u8 Pw.unc5 (Pw.j2X)⟩]
 keep:=[(0,⟨[5,9,23,24,25],[320],[⟨1000000,113,aN,[.slot 9],e⟩,⟨1000001,135,aw,[.slot 23],e⟩],[]⟩),(2,⟨[5,9,11,23,24,25,30,31,32],[320,704],[⟨1002000,113,aN,[.slot 9],e⟩,⟨1002001,135,aw,[.slot 23],e⟩],[]⟩)]
 keepX:=[(0,.exit 0,⟨[9],[],[⟨1500100,113,aN,[.slot 9],e⟩],[]⟩),(2,.exit 2,⟨[5,9,23,24,25],[320],[⟨1502300,113,aN,[.slot 9],e⟩,⟨1502301,135,aw,[.slot 23],e⟩],[]⟩)]
 ro:=[j]
theorem jm4:aG Ry:=
 cOf aJ aK jmV Ry Tryz.func218 (ja Rq (ja Hb i)) (ja (λh=>by kernel_rfl) (ja (λh=>by kernel_rfl) i))
end Go.Proofs.Pk
