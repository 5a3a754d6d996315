/- cB: each given function is its plain function, printed by a program. -/
import Derived.Test.YtgfoijaggkhgnaaGreatLXCon0
open Bool renaming false->e,true->j
open _root_ renaming trivial->i
noncomputable section
open Go Go.Lft
set_option linter.unusedVariables false
set_option maxRecDepth 100000
namespace Go.Proofs.Pk
def PQ:Con:=⟨29,[.ref [(.list iT),iT],.v bh,.v .str],[(.list iT),iT,bh,.str],⟨[.v bX],[.ref [(.list iT),iT]]⟩,[bX,(.list iT),iT],Pw.unc4 Pw.j9M⟩
def jlY:FnD where
 N:=77
 np:=3
 cs:=[pW,uI,C4,GY]
 ds:=[⟨0,[sB 0 0,sB 256 0,sB 384 0,sB 448 0,sI,.b (.cell [.d (.list iT),.d iT] e),.b (.cell [.d ay,.d aB,.d aA,.d aF] e),.b (.cell [.d .str,.d iT,.d iT,.d iT,.d iT,.d iT,.nil,.nil,.d iT,.d iT] e),.b (.cell [.d .str,.d iT,.d iT,.d iT,.d iT,.d iT,.ol 1000000,.nil,.d iT,.d iT] e),.b (.lst 3 iT e)],[iT,(.list iT),iT,ay,aB,aA,aF,.str,iT,iT,iT,iT,iT,iT,iT,.str,iT,iT,iT,iT,iT,iT,iT,(.list iT)],[⟨.exit 0,[sB 0 0,sB 256 0,sB 384 0,sB 448 0,.b (.cell [.d (.list iT),.d iT] e),.b (.cell [.d ay,.d aB,.d aA,.d aF] e),.b (.cell [.d .str,.d iT,.d iT,.d iT,.d iT,.d iT,.nil,.nil,.d iT,.d iT] e),.b (.cell [.d .str,.d iT,.d iT,.d iT,.d iT,.d iT,.ol 1500100,.nil,.d iT,.d iT] e),.b (.lst 3 iT e)],[(.list iT),iT,ay,aB,aA,aF,.str,iT,iT,iT,iT,iT,iT,iT,.str,iT,iT,iT,iT,iT,iT,iT,(.list iT)]⟩],Pw.u8 (Pw.u8 Pw.unc8) (Pw.j2y)⟩]
 keep:=[(0,⟨[0,4,6,7,8],[0,256,384,448],[⟨1000000,3,iT,[.cell 448 6],e⟩],[]⟩)]
 keepX:=[(0,.exit 0,⟨[0,4,6,7],[0,256,384,448],[⟨1500100,3,iT,[.cell 448 6],e⟩],[]⟩)]
 dw:=[(7,[[],[],[],[],[],[],[0],[3200],[3264,1000000],[],[448]])]
theorem jl4:aG PQ:=
 cOf aJ aK jlY PQ Tryz.func29 (ja r7 (ja xV (ja KJ (ja PN i)))) (ja (λh=>by kernel_rfl) i)
def KK:Con:=⟨9,[.ref [(.list iT),iT]],[(.list iT),iT],⟨[.v iT],[.ref [(.list iT),iT]]⟩,[iT,(.list iT),iT],Pw.unc2 Pw.j5K⟩
def jjR:FnD where
 N:=16
 np:=1
 cs:=[pW,uI,C4]
theorem _v:aG KK:=
 cOf aJ aK jjR KK Tryz.func9 (ja r7 (ja xV (ja KJ i))) i
def PR:Con:=⟨31,[.ref [(.list iT),iT],.v bh],[(.list iT),iT,bh],⟨[.v iw],[.ref [(.list iT),iT]]⟩,[iw,(.list iT),iT],Pw.unc3 Pw.jb7⟩
def jmQ:FnD where
 N:=52
 np:=2
 cs:=[pW,uI,C4,KK]
 dw:=[(3,[[],[],[],[1344],[0,1344],[],[],[384]]),(8,[[],[],[],[],[],[],[0],[],[],[],[],[384]])]
theorem jlZ:aG PR:=
 cOf aJ aK jmQ PR Tryz.func31 (ja r7 (ja xV (ja KJ (ja _v i)))) i
def PS:Con:=⟨7,[.ref [(.list iT),iT],.v iT],[(.list iT),iT,iT],⟨[.v bh],[.ref [(.list iT),iT]]⟩,[bh,(.list iT),iT],Pw.unc3 Pw.j92⟩
def jl5:FnD where
 N:=69
 np:=2
 cs:=[pW,KI,PO,PQ,PR]
 ds:=[⟨0,[sB 0 0,sB 256 0,sB 320 0,sI,.b (.cell [.d (.list iT),.d iT] e),.b (.cell [.nil,.nil,.nil,.nil] e),.b (.cell [.d ay,.d aB,.d aA,.ol 1000000] e),.b (.lst 73 dA j)],[iT,(.list iT),iT,ay,aB,aA,aF],[⟨.exit 0,[sB 256 0,sB 320 0,.b (.cell [.d (.list iT),.d iT] e),.b (.cell [.nil,.nil,.nil,.nil] e),.b (.cell [.d ay,.d aB,.d aA,.ol 1500100] e),.b (.lst 73 dA j)],[(.list iT),iT,ay,aB,aA,aF]⟩],Pw.unc7 (Pw.j2e)⟩,⟨2,[sB 0 0,sB 256 0,sB 320 0,sI,sB 448 0,sI,.b (.cell [.d (.list iT),.d iT] e),.b (.cell [.nil,.nil,.nil,.nil] e),.b (.cell [.d ay,.d aB,.d aA,.ol 1002000] e),.b (.cell [.d .str,.ol 1002001,.nil] e),.b (.lst 73 dA j),.b (.lst 78 bX e)],[iT,iT,(.list iT),iT,ay,aB,aA,.str,aF,bS],[⟨.exit 2,[sB 0 0,sB 256 0,sB 320 0,sI,sB 448 0,.b (.cell [.d (.list iT),.d iT] e),.b (.cell [.nil,.nil,.nil,.nil] e),.b (.cell [.d ay,.d aB,.d aA,.ol 1502300] e),.b (.cell [.d .str,.ol 1502301,.nil] e),.b (.lst 73 dA j),.b (.lst 78 bX e)],[iT,(.list iT),iT,ay,aB,aA,.str,aF,bS]⟩],Pw.u8 Pw.unc2 (Pw.j2c)⟩,⟨4,[sB 0 0,sB 256 0,sB 320 0,sI,sB 448 0,sI,.b (.cell [.d (.list iT),.d iT] e),.b (.cell [.nil,.nil,.nil,.nil] e),.b (.cell [.d ay,.d aB,.d aA,.ol 1004000] e),.b (.cell [.d .str,.ol 1004001,.ol 1004002] e),.b (.lst 73 dA j),.b (.lst 78 bX e),.b (.lst 82 iw e)],[iT,iT,(.list iT),iT,ay,aB,aA,.str,aF,bS,bL],[⟨.exit 4,[sB 0 0,sB 256 0,sB 320 0,sI,sB 448 0,.b (.cell [.d (.list iT),.d iT] e),.b (.cell [.nil,.nil,.nil,.nil] e),.b (.cell [.d ay,.d aB,.d aA,.ol 1504500] e),.b (.cell [.d .str,.ol 1504501,.ol 1504502] e),.b (.lst 73 dA j),.b (.lst 78 bX e),.b (.lst 82 iw e)],[iT,(.list iT),iT,ay,aB,aA,.str,aF,bS,bL]⟩],Pw.u8 Pw.unc3 (Pw.j2d)⟩]
 keep:=[(0,⟨[0,4,5,6],[0,256,320],[⟨1000000,73,dA,[.cell 320 3],j⟩],[]⟩),(2,⟨[0,4,5,6,7,8],[0,256,320,448],[⟨1002000,73,dA,[.cell 320 3],e⟩,⟨1002001,78,bX,[.cell 448 1],e⟩],[]⟩),(4,⟨[0,4,5,6,7,9],[0,256,320,448],[⟨1004000,73,dA,[.cell 320 3],e⟩,⟨1004001,78,bX,[.cell 448 1],e⟩,⟨1004002,82,iw,[.cell 448 2],e⟩],[]⟩)]
 keepX:=[(0,.exit 0,⟨[4,5],[0,256,320],[⟨1500100,73,dA,[.cell 320 3],e⟩],[]⟩),(2,.exit 2,⟨[0,4,5,6,7],[0,256,320,448],[⟨1502300,73,dA,[.cell 320 3],e⟩,⟨1502301,78,bX,[.cell 448 1],e⟩],[]⟩),(4,.exit 4,⟨[0,4,5,6,7],[0,256,320,448],[⟨1504500,73,dA,[.cell 320 3],e⟩,⟨1504501,78,bX,[.cell 448 1],e⟩,⟨1504502,82,iw,[.cell 448 2],e⟩],[]⟩)]
 dw:=[(9,[[],[],[],[],[2432],[],[],[],[],[],[0,1002000],[2880],[2944,1002000,1002001],[],[448]]),(13,[[],[],[],[],[0,1004000],[3776],[3840,1004001,1004002],[],[448]])]
theorem jjS:aG PS:=
 cOf aJ aK jl5 PS Tryz.func7 (ja r7 (ja _u (ja jl3 (ja jl4 (ja jlZ i))))) (ja (λh=>by kernel_rfl) (ja (λh=>by kernel_rfl) (ja (λh=>by kernel_rfl) i)))
def PT:Con:=⟨8,[.ref [(.list iT),iT]],[(.list iT),iT],⟨[.own 42 bG],[.ref [(.list iT),iT]]⟩,[bG,(.list iT),iT],Pw.unc2 Pw.j85⟩
def jjT:FnD where
 N:=26
 np:=1
 cs:=[pW,GY]
 ds:=[⟨0,[sB 0 0,sO 1000000,sO 1000001,sI,.b (.cell [.d (.list iT),.d iT] e),.b (.lst 42 pd e),.b (.lst 40 aN e)],[iT,(.list iT),iT,bG,ag],[⟨.exit 0,[sO 1500100,.b (.cell [.d (.list iT),.d iT] e),.b (.lst 42 pd e)],[(.list iT),iT,bG]⟩],Pw.unc5 (Pw.j23)⟩]
 keep:=[(0,⟨[0,3,4,5],[0],[⟨1000000,42,pd,[.slot 3],e⟩,⟨1000001,40,aN,[.slot 4],e⟩],[]⟩)]
 keepX:=[(0,.exit 0,⟨[3],[0],[⟨1500100,42,pd,[.slot 3],e⟩],[]⟩)]
 ro:=[j]
 dw:=[(6,[[],[],[],[],[],[],[0],[],[],[1472],[1536,1000000],[]])]
theorem jiW:aG PT:=
 cOf aJ aK jjT PT Tryz.func8 (ja r7 (ja PN i)) (ja (λh=>by kernel_rfl) i)
def PU:Con:=⟨35,[.v bG],[bG],⟨[.own 40 ag],[]⟩,[ag],λh=>Pw.jeb h⟩
def jp6:FnD where
 N:=19
 np:=1
 ds:=[⟨0,[sO 1000000,sD bG,sI,sI,.b (.lst 40 aN e)],[bG,iT,iT,ag],[⟨.exit 0,[sO 1500100,.b (.lst 40 aN e)],[ag]⟩],Pw.unc4 (Pw.j3X)⟩]
 keep:=[(0,⟨[3,6,7,8],[],[⟨1000000,40,aN,[.slot 3],e⟩],[]⟩)]
 keepX:=[(0,.exit 0,⟨[3],[],[⟨1500100,40,aN,[.slot 3],e⟩],[]⟩)]
 ro:=[j]
theorem joi:aG PU:=
 cOf aJ aK jp6 PU Tryz.func35 i (ja (λh=>by kernel_rfl) i)
def GZ:Con:=⟨34,[.v ag],[ag],⟨[.v iT],[]⟩,[iT],λh=>Pw.j86 h⟩
def jtj:FnD where
 N:=46
 np:=1
 ds:=[⟨0,[sD ag,sD ag,sI,sI],[ag,ag,iT,iT],[⟨.ret,[sI],[iT]⟩,⟨.exit 0,[],[]⟩],Pw.unc4 (Pw.j2z)⟩]
 keep:=[(0,⟨[0,8,9,10],[],[],[]⟩)]
 keepX:=[(0,.ret,⟨[2],[],[],[]⟩)]
theorem PV:aG GZ:=
 cOf aJ aK jtj GZ Tryz.func34 i (ja (λh=>by kernel_rfl) i)
def PW:Con:=⟨37,[.v pd],[pd],⟨[.v .bool],[]⟩,[.bool],λh=>Pw.jg8 h⟩
def joj:FnD where
 N:=11
 np:=1
theorem jmR:aG PW:=
 cOf aJ aK joj PW Tryz.func37 i i
def PX:Con:=⟨57,[.v bG,.clo 37 []],[bG],⟨[.v iT],[]⟩,[iT],λh=>Pw.j1M h⟩
def j7r:FnD where
 N:=19
 np:=2
 cs:=[PW]
 ds:=[⟨0,[sD bG,sC 37 [],sI,sI],[bG,iT,iT],[⟨.ret,[sI],[iT]⟩,⟨.exit 0,[],[]⟩],Pw.unc3 (Pw.j0k)⟩]
 keep:=[(0,⟨[0,1,7,8],[],[],[]⟩)]
 keepX:=[(0,.ret,⟨[4],[],[],[]⟩)]
theorem j79:aG PX:=
 cOf aJ aK j7r PX Tryz.func57 (ja jmR i) (ja (λh=>by kernel_rfl) i)
def PY:Con:=⟨36,[.v bG,.clo 37 []],[bG],⟨[.v .bool],[]⟩,[.bool],λh=>Pw.j1B h⟩
def j6q:FnD where
 N:=9
 np:=2
 cs:=[PX]
theorem j6e:aG PY:=
 cOf aJ aK j6q PY Tryz.func36 (ja j79 i) i
def KL:Con:=⟨11,[.v bG],[bG],⟨[.v iT],[]⟩,[iT],λh=>Pw.jfo h⟩
def jtk:FnD where
 N:=12
 np:=1
 cs:=[PU,GZ,PY]
theorem _w:aG KL:=
 cOf aJ aK jtk KL Tryz.func11 (ja joi (ja PV (ja j6e i))) i
def Bc:Con:=⟨38,[.v ag],[ag],⟨[.v iT],[]⟩,[iT],λh=>Pw.j3g h⟩
def jv7:FnD where
 N:=56
 np:=1
 ds:=[⟨0,[sD ag,sI],[ag,iT],[⟨.ret,[sI],[iT]⟩,⟨.exit 0,[],[]⟩],Pw.unc2 (Pw.j32)⟩]
 keep:=[(0,⟨[0,3],[],[],[]⟩)]
 keepX:=[(0,.ret,⟨[2],[],[],[]⟩)]
theorem G0:aG Bc:=
 cOf aJ aK jv7 Bc Tryz.func38 i (ja (λh=>by kernel_rfl) i)
def KM:Con:=⟨12,[.v bG],[bG],⟨[.v iT],[]⟩,[iT],λh=>Pw.jhH h⟩
def jv8:FnD where
 N:=50
 np:=1
 cs:=[Bc]
 ds:=[⟨0,[sD bG,sO 1000000,sI,.b (.lst 40 aN e)],[bG,iT,ag],[⟨.exit 0,[sD bG,sO 1500100,.b (.lst 40 aN e)],[bG,ag]⟩],Pw.unc3 (Pw.j5L)⟩,⟨2,[sD bG,sI],[bG,iT],[⟨.ret,[sI],[iT]⟩,⟨.exit 2,[],[]⟩],Pw.unc2 (Pw.j5M)⟩]
 keep:=[(0,⟨[0,3,4],[],[⟨1000000,40,aN,[.slot 3],e⟩],[]⟩),(2,⟨[0,6],[],[],[]⟩)]
 keepX:=[(0,.exit 0,⟨[0,3],[],[⟨1500100,40,aN,[.slot 3],e⟩],[]⟩),(2,.ret,⟨[2],[],[],[]⟩)]
theorem _x:aG KM:=
 cOf aJ aK jv8 KM Tryz.func12 (ja G0 i) (ja (λh=>by kernel_rfl) (ja (λh=>by kernel_rfl) i))
def PZ:Con:=⟨145,[.v bq],[bq],⟨[.v .str],[]⟩,[.str],λh=>Pw.jbY h⟩
def jl7:FnD where
 N:=5
 np:=1
theorem jjU:aG PZ:=
 cOf aJ aK jl7 PZ Tryz.func145 i i
def P0:Con:=⟨252,[.v (.int .u8)],[(.int .u8)],⟨[.v .bool],[]⟩,[.bool],λh=>Pw.jd9 h⟩
def jrl:FnD where
 N:=9
 np:=1
theorem jp7:aG P0:=
 cOf aJ aK jrl P0 Tryz.func252 i i
def P1:Con:=⟨253,[.v (.int .u8)],[(.int .u8)],⟨[.v .bool],[]⟩,[.bool],λh=>Pw.jjG h⟩
def jrm:FnD where
 N:=9
 np:=1
theorem jp8:aG P1:=
 cOf aJ aK jrm P1 Tryz.func253 i i
def P2:Con:=⟨207,[.v .str],[.str],⟨[.v .bool],[]⟩,[.bool],λh=>Pw.j9w h⟩
def jtl:FnD where
 N:=43
 np:=1
 cs:=[P0,P1]
 ds:=[⟨0,[sD .str,sI,sI],[.str,iT,iT],[⟨.ret,[sD .bool],[.bool]⟩,⟨.exit 0,[],[]⟩],Pw.unc3 (Pw.j7j)⟩]
 keep:=[(0,⟨[0,19,20],[],[],[]⟩)]
 keepX:=[(0,.ret,⟨[2],[],[],[]⟩)]
theorem jrn:aG P2:=
 cOf aJ aK jtl P2 Tryz.func207 (ja jp7 (ja jp8 i)) (ja (λh=>by kernel_rfl) i)
def Bd:Con:=⟨147,[.v .str,.rl 4294967507 (.list (.pair .str .bool))],[.str,(.list (.pair .str .bool))],⟨[.v iT],[.rl (.list (.pair .str .bool))]⟩,[iT,(.list (.pair .str .bool))],Pw.unc2 Pw.j6g⟩
def jp9:FnD where
 N:=13
 np:=2
 cs:=[P2]
theorem G1:aG Bd:=
 cOf aJ aK jp9 Bd Tryz.func147 (ja jrn i) i
def G2:Con:=⟨87,[.v iT,.v iT,.v iT],[iT,iT,iT],⟨[.v .bool],[]⟩,[.bool],Pw.unc3 Pw.jbZ⟩
def jAn:FnD where
 N:=15
 np:=3
theorem P3:aG G2:=
 cOf aJ aK jAn G2 Tryz.func87 i i
def P4:Con:=⟨123,[.v ph],[ph],⟨[.v iT],[]⟩,[iT],λh=>Pw.jhI h⟩
def jv9:FnD where
 N:=45
 np:=1
 cs:=[G2]
theorem jtm:aG P4:=
 cOf aJ aK jv9 P4 Tryz.func123 (ja P3 i) i
end Go.Proofs.Pk
