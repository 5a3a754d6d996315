/- cB: each given function is its plain function, printed by a program. -/
import Derived.Test.YtgfoijaggkhgnaaGreatLXCon2
open _root_ renaming trivial->e
noncomputable section
open Go Go.Lft
set_option linter.unusedVariables false
set_option maxRecDepth 100000
namespace Go.Proofs.Pk
def Bf:Con:=⟨208,[.v iT,.v iT],[iT,iT],⟨[.v .bool],[]⟩,[.bool],Pw.unc2 Pw.j1N⟩
def jon:FnD where
 N:=12
 np:=2
theorem G6:aG Bf:=
 cOf aJ aK jon Bf Tryz.func208 e e
def G7:Con:=⟨254,[.v iT,.v iT,.v iT],[iT,iT,iT],⟨[.v .bool],[]⟩,[.bool],Pw.unc3 Pw.j88⟩
def jty:FnD where
 N:=15
 np:=3
theorem QL:aG G7:=
 cOf aJ aK jty G7 Tryz.func254 e e
def QM:Con:=⟨209,[.v iT],[iT],⟨[.v .bool],[]⟩,[.bool],λh=>Pw.j4T h⟩
def joo:FnD where
 N:=10
 np:=1
 cs:=[G7]
theorem jmT:aG QM:=
 cOf aJ aK joo QM Tryz.func209 (ja QL e) e
def QN:Con:=⟨148,[.v bh,.v gM],[bh,gM],⟨[.v iT],[]⟩,[iT],Pw.unc2 Pw.j33⟩
def ji5:FnD where
 N:=29
 np:=2
 cs:=[GZ,Bf,QM]
theorem jhg:aG QN:=
 cOf aJ aK ji5 QN Tryz.func148 (ja PV (ja G6 (ja jmT e))) e
def QP:Con:=⟨150,[.v fZ],[fZ],⟨[.v .str],[]⟩,[.str],λh=>Pw.jc0 h⟩
def jlb:FnD where
 N:=5
 np:=1
theorem jk1:aG QP:=
 cOf aJ aK jlb QP Tryz.func150 e e
def QQ:Con:=⟨272,[.v iT],[iT],⟨[.v iT],[]⟩,[iT],λh=>Pw.jqb h⟩
def jtz:FnD where
 N:=15
 np:=1
 cs:=[KT,G5]
 ds:=[⟨0,[sI,sI],[iT,iT],[⟨.exit 0,[sI],[iT]⟩],Pw.unc2 (Pw.jee)⟩]
 keep:=[(0,⟨[0,3],[],[],[]⟩)]
 keepX:=[(0,.exit 0,⟨[3],[],[],[]⟩)]
theorem jrx:aG QQ:=
 cOf aJ aK jtz QQ Tryz.func272 (ja _D (ja Qw e)) (ja (λh=>by kernel_rfl) e)
def QR:Con:=⟨255,[.v iT],[iT],⟨[.v aw,.v iT],[]⟩,[aw,iT],λh=>Pw.j9x h⟩
def jpe:FnD where
 N:=45
 np:=1
 cs:=[C5,G5,QQ]
 ds:=[⟨0,[sB 128 0,sB 256 0,sI,.b (.cell [.d iT,.d iT,.d iT] false),.b (.cell [.d iT,.d iT,.d iT] false)],[iT,iT,iT,iT,iT,iT,iT],[⟨.exit 0,[sB 128 0,sB 256 0,sI,.b (.cell [.d iT,.d iT,.d iT] false),.b (.cell [.d iT,.d iT,.d iT] false)],[iT,iT,iT,iT,iT,iT,iT]⟩],Pw.unc7 (Pw.jcp)⟩]
 keep:=[(0,⟨[2,4,5],[128,256],[],[]⟩)]
 keepX:=[(0,.exit 0,⟨[2,4,5],[128,256],[],[]⟩)]
theorem jop:aG QR:=
 cOf aJ aK jpe QR Tryz.func255 (ja KS (ja Qw (ja jrx e))) (ja (λh=>by kernel_rfl) e)
def G8:Con:=⟨212,[.v iT],[iT],⟨[.v .bool],[]⟩,[.bool],λh=>Pw.j0W h⟩
def jry:FnD where
 N:=12
 np:=1
 cs:=[QR]
theorem QS:aG G8:=
 cOf aJ aK jry G8 Tryz.func212 (ja jop e) e
def QT:Con:=⟨211,[.v iT],[iT],⟨[.v .bool],[]⟩,[.bool],λh=>Pw.j5O h⟩
def jdY:FnD where
 N:=6
 np:=1
 cs:=[G8]
theorem jdH:aG QT:=
 cOf aJ aK jdY QT Tryz.func211 (ja QS e) e
def QU:Con:=⟨158,[.v (.list iT),.clo 211 []],[(.list iT)],⟨[.v iT],[]⟩,[iT],λh=>Pw.j5P h⟩
def jdZ:FnD where
 N:=19
 np:=2
 cs:=[QT]
 ds:=[⟨0,[sD (.list iT),sC 211 [],sI,sI],[(.list iT),iT,iT],[⟨.ret,[sI],[iT]⟩,⟨.exit 0,[],[]⟩],Pw.unc3 (Pw.j18)⟩]
 keep:=[(0,⟨[0,1,7,8],[],[],[]⟩)]
 keepX:=[(0,.ret,⟨[4],[],[],[]⟩)]
theorem jdI:aG QU:=
 cOf aJ aK jdZ QU Tryz.func158 (ja jdH e) (ja (λh=>by kernel_rfl) e)
def QV:Con:=⟨210,[.v (.list iT),.clo 211 []],[(.list iT)],⟨[.v .bool],[]⟩,[.bool],λh=>Pw.j4r h⟩
def jcc:FnD where
 N:=9
 np:=2
 cs:=[QU]
theorem jbO:aG QV:=
 cOf aJ aK jcc QV Tryz.func210 (ja jdI e) e
def QW:Con:=⟨152,[.v bh,.v fZ],[bh,fZ],⟨[.v iT],[]⟩,[iT],Pw.unc2 Pw.j3h⟩
def jgy:FnD where
 N:=46
 np:=2
 cs:=[Bf,QV]
 ds:=[⟨1,[sB 192 0,sI,sI,.b (.cell [.d .str,.d iT,.d (.list iT)] false)],[iT,iT,.str,iT,(.list iT)],[⟨.ret,[sI],[iT]⟩,⟨.exit 1,[],[]⟩],Pw.unc5 (Pw.j1u)⟩]
 keep:=[(1,⟨[3,25,26],[192],[],[]⟩)]
 keepX:=[(1,.ret,⟨[4],[],[],[]⟩)]
theorem jfE:aG QW:=
 cOf aJ aK jgy QW Tryz.func152 (ja G6 (ja jbO e)) (ja (λh=>by kernel_rfl) e)
def QX:Con:=⟨151,[.v fZ,.ip [ay,aB,aA,aF]],[fZ,ay,aB,aA,aF],⟨[.v iT],[]⟩,[iT],Pw.unc5 Pw.jc1⟩
def jlc:FnD where
 N:=7
 np:=2
 cs:=[QW]
theorem jk2:aG QX:=
 cOf aJ aK jlc QX Tryz.func151 (ja jfE e) e
def QY:Con:=⟨149,[.v aA,.clo 150 [],.clo 151 [.p [ay,aB,aA,aF]]],[aA,ay,aB,aA,aF],⟨[.v iT],[]⟩,[iT],Pw.unc5 Pw.j2S⟩
def jcK:FnD where
 N:=34
 np:=3
 cs:=[Bd,QP,QX]
 ds:=[⟨0,[sC 150 [],sC 151 [.p [ay,aB,aA,aF]],sO 1000000,sD aA,sI,sI,.b (.lst 4294967507 (.pair .str .bool) false)],[ay,aB,aA,aF,aA,iT,iT,(.list (.pair .str .bool))],[⟨.ret,[sI],[iT]⟩,⟨.exit 0,[],[]⟩],Pw.unc8 (Pw.j0R)⟩]
 modes:=[(147,[false,true])]
 keep:=[(0,⟨[1,2,7,13,14,15],[],[⟨1000000,4294967507,(.pair .str .bool),[.slot 7],false⟩],[]⟩)]
 keepX:=[(0,.ret,⟨[6],[],[],[]⟩)]
theorem jcd:aG QY:=
 cOf aJ aK jcK QY Tryz.func149 (ja G1 (ja jk1 (ja jk2 e))) (ja (λh=>by kernel_rfl) e)
def QZ:Con:=⟨154,[.v dA],[dA],⟨[.v .str],[]⟩,[.str],λh=>Pw.jc2 h⟩
def jld:FnD where
 N:=5
 np:=1
theorem jk3:aG QZ:=
 cOf aJ aK jld QZ Tryz.func154 e e
def Q0:Con:=⟨214,[.v bX],[bX],⟨[.v .str],[]⟩,[.str],λh=>Pw.j5Q h⟩
def je0:FnD where
 N:=5
 np:=1
theorem jdJ:aG Q0:=
 cOf aJ aK je0 Q0 Tryz.func214 e e
def Q1:Con:=⟨256,[.v iT,.ip [ay,aB,aA,aF]],[iT,ay,aB,aA,aF],⟨[.v .bool],[]⟩,[.bool],Pw.unc5 Pw.j7z⟩
def jgz:FnD where
 N:=10
 np:=2
 cs:=[Bf]
theorem jfF:aG Q1:=
 cOf aJ aK jgz Q1 Tryz.func256 (ja G6 e) e
def Q2:Con:=⟨158,[.v (.list iT),.clo 256 [.p [ay,aB,aA,aF]]],[(.list iT),ay,aB,aA,aF],⟨[.v iT],[]⟩,[iT],Pw.unc5 Pw.j4s⟩
def jce:FnD where
 N:=19
 np:=2
 cs:=[Q1]
 ds:=[⟨0,[sD (.list iT),sC 256 [.p [ay,aB,aA,aF]],sI,sI],[(.list iT),ay,aB,aA,aF,iT,iT],[⟨.ret,[sI],[iT]⟩,⟨.exit 0,[],[]⟩],Pw.unc7 (Pw.j0K)⟩]
 keep:=[(0,⟨[0,1,7,8],[],[],[]⟩)]
 keepX:=[(0,.ret,⟨[4],[],[],[]⟩)]
theorem jbP:aG Q2:=
 cOf aJ aK jce Q2 Tryz.func158 (ja jfF e) (ja (λh=>by kernel_rfl) e)
def Q3:Con:=⟨210,[.v (.list iT),.clo 256 [.p [ay,aB,aA,aF]]],[(.list iT),ay,aB,aA,aF],⟨[.v .bool],[]⟩,[.bool],Pw.unc5 Pw.j3i⟩
def jar:FnD where
 N:=9
 np:=2
 cs:=[Q2]
theorem jah:aG Q3:=
 cOf aJ aK jar Q3 Tryz.func210 (ja jbP e) e
def Q4:Con:=⟨216,[.v bh,.v bX],[bh,bX],⟨[.v iT],[]⟩,[iT],Pw.unc2 Pw.j4V⟩
def jiY:FnD where
 N:=91
 np:=2
 cs:=[GZ,Bf,G7,G8,Q3]
theorem ji6:aG Q4:=
 cOf aJ aK jiY Q4 Tryz.func216 (ja PV (ja G6 (ja QL (ja QS (ja jah e))))) e
end Go.Proofs.Pk
