/- cB: each given function is its plain function, printed by a program. -/
import Derived.Test.YtgfoijaggkhgnaaGreatLXCon1
open _root_ renaming trivial->e
open Bool renaming false->i,true->j
noncomputable section
open Go Go.Lft
set_option linter.unusedVariables false
set_option maxRecDepth 100000
namespace Go.Proofs.Pk
def Qu:Con:=⟨231,[.v iT],[iT],⟨[.v .bool],[]⟩,[.bool],λh=>Pw.jlS h⟩
def jtu:FnD where
 N:=16
 np:=1
theorem jrs:aG Qu:=
 cOf aJ aK jtu Qu Tryz.func231 e e
def C5:Con:=⟨169,[.v iT,.v iT],[iT,iT],⟨[.v iT],[]⟩,[iT],Pw.unc2 Pw.j87⟩
def jtv:FnD where
 N:=24
 np:=2
 cs:=[Qu]
theorem KS:aG C5:=
 cOf aJ aK jtv C5 Tryz.func169 (ja jrs e) e
def Qv:Con:=⟨166,[.v aw],[aw],⟨[.v .bool],[]⟩,[.bool],λh=>Pw.jda h⟩
def jrt:FnD where
 N:=26
 np:=1
 cs:=[C5]
theorem jpc:aG Qv:=
 cOf aJ aK jrt Qv Tryz.func166 (ja KS e) e
def KT:Con:=⟨263,[.v iT,.v iT],[iT,iT],⟨[.v iT],[]⟩,[iT],Pw.unc2 Pw.j9c⟩
def jru:FnD where
 N:=16
 np:=2
theorem _D:aG KT:=
 cOf aJ aK jru KT Tryz.func263 e e
def G5:Con:=⟨230,[.v iT],[iT],⟨[.v iT],[]⟩,[iT],λh=>Pw.j5o h⟩
def jrv:FnD where
 N:=19
 np:=1
 cs:=[KT]
theorem Qw:aG G5:=
 cOf aJ aK jrv G5 Tryz.func230 (ja _D e) e
def Qx:Con:=⟨167,[.v aw],[aw],⟨[.v iT],[]⟩,[iT],λh=>Pw.jed h⟩
def jpd:FnD where
 N:=25
 np:=1
 cs:=[C5,G5]
 ds:=[⟨0,[sB 64 0,sI,sI,.b (.cell [.d iT,.d iT,.d iT] i)],[iT,iT,iT,iT,iT],[⟨.exit 0,[sI],[iT]⟩],Pw.unc5 (Pw.j3Y)⟩]
 keep:=[(0,⟨[1,3,4],[64],[],[]⟩)]
 keepX:=[(0,.exit 0,⟨[3],[],[],[]⟩)]
theorem jol:aG Qx:=
 cOf aJ aK jpd Qx Tryz.func167 (ja KS (ja Qw e)) (ja (λh=>by kernel_rfl) e)
def Qy:Con:=⟨168,[.v iT],[iT],⟨[.v iT],[]⟩,[iT],λh=>Pw.j6m h⟩
def jom:FnD where
 N:=7
 np:=1
theorem jmS:aG Qy:=
 cOf aJ aK jom Qy Tryz.func168 e e
def Qz:Con:=⟨124,[.v iT,.v iT,.v iT,.v iT],[iT,iT,iT,iT],⟨[.v iT,.v iT],[]⟩,[iT,iT],Pw.unc4 Pw.jkI⟩
def jvj:FnD where
 N:=59
 np:=4
 cs:=[C5,Qv,Qx,Qy]
theorem jtw:aG Qz:=
 cOf aJ aK jvj Qz Tryz.func124 (ja KS (ja jpc (ja jol (ja jmS e)))) e
def QA:Con:=⟨126,[.v aN,.v aN],[aN,aN],⟨[.v iT],[]⟩,[iT],Pw.unc2 Pw.j9d⟩
def ji4:FnD where
 N:=10
 np:=2
theorem jhe:aG QA:=
 cOf aJ aK ji4 QA Tryz.func126 e e
def QB:Con:=⟨232,[.rl 164 ag,.v iT,.v iT,.clo 126 []],[ag,iT,iT],⟨[],[.rl ag]⟩,[ag],Pw.unc3 Pw.j0q⟩
def j6b:FnD where
 N:=53
 np:=4
 cs:=[QA]
 ds:=[⟨0,[sO 0,sI,sI,sC 126 [],sI,.b (.lst 164 aN i)],[iT,iT,iT,ag],[⟨.exit 0,[.b (.lst 164 aN i)],[ag]⟩],Pw.unc4 (Pw.j0e)⟩,⟨2,[sO 0,sI,sI,sC 126 [],sI,sI,.b (.lst 164 aN i)],[iT,iT,iT,iT,ag],[⟨.exit 2,[sO 0,sI,sI,sC 126 [],sI,.b (.lst 164 aN i)],[iT,iT,iT,ag]⟩],Pw.unc5 (Pw.j0d)⟩]
 keep:=[(0,⟨[0,1,2,3,8],[0],[],[]⟩),(2,⟨[0,1,2,3,8,9],[0],[],[]⟩)]
 keepX:=[(0,.exit 0,⟨[],[0],[],[]⟩),(2,.exit 2,⟨[0,1,2,3,8],[0],[],[]⟩)]
 dw:=[(6,[[],[],[],[],[],[],[],[],[],[],[],[],[],[],[],[0],[],[0]])]
theorem j5y:aG QB:=
 cOf aJ aK j6b QB Tryz.func232 (ja jhe e) (ja (λh=>by kernel_rfl) (ja (λh=>by kernel_rfl) e))
def QC:Con:=⟨170,[.rl 164 ag,.v iT,.clo 126 []],[ag,iT],⟨[],[.rl ag]⟩,[ag],Pw.unc2 Pw.j24⟩
def j8f:FnD where
 N:=63
 np:=3
 cs:=[QB]
 ds:=[⟨0,[sO 0,sI,sC 126 [],sI,sI,sI,.b (.lst 164 aN i)],[iT,iT,iT,iT,ag],[⟨.exit 0,[sO 0,sI,sC 126 [],sI,sI,.b (.lst 164 aN i)],[iT,iT,iT,ag]⟩],Pw.unc5 (Pw.j0E)⟩,⟨2,[sO 0,sI,sC 126 [],sI,.b (.lst 164 aN i)],[iT,iT,ag],[⟨.exit 2,[.b (.lst 164 aN i)],[ag]⟩],Pw.unc3 (Pw.j0F)⟩,⟨4,[sO 0,sI,sC 126 [],sI,sI,sI,.b (.lst 164 aN i)],[iT,iT,iT,iT,ag],[⟨.exit 4,[sO 0,sI,sC 126 [],sI,sI,.b (.lst 164 aN i)],[iT,iT,iT,ag]⟩],Pw.unc5 (Pw.j2s)⟩]
 modes:=[(232,[j,i,i,i])]
 keep:=[(0,⟨[0,1,2,6,7,8],[0],[],[]⟩),(2,⟨[0,1,2,6],[0],[],[]⟩),(4,⟨[0,1,2,6,7,8],[0],[],[]⟩)]
 keepX:=[(0,.exit 0,⟨[0,1,2,6,7],[0],[],[]⟩),(2,.exit 2,⟨[],[0],[],[]⟩),(4,.exit 4,⟨[0,1,2,6,7],[0],[],[]⟩)]
theorem j7X:aG QC:=
 cOf aJ aK j8f QC Tryz.func170 (ja j5y e) (ja (λh=>by kernel_rfl) (ja (λh=>by kernel_rfl) (ja (λh=>by kernel_rfl) e)))
def QD:Con:=⟨125,[.rl 164 ag,.clo 126 []],[ag],⟨[],[.rl ag]⟩,[ag],λh=>Pw.j0o h⟩
def j3T:FnD where
 N:=9
 np:=2
 cs:=[QC]
 modes:=[(170,[j,i,i])]
theorem j3C:aG QD:=
 cOf aJ aK j3T QD Tryz.func125 (ja j7X e) e
def QE:Con:=⟨86,[.v bq],[bq],⟨[.own 164 ag,.v iT],[]⟩,[ag,iT],λh=>Pw.j94 h⟩
def jl9:FnD where
 N:=86
 np:=1
 cs:=[G2,P4,Qz,QD]
 ds:=[⟨0,[sB 64 0,sI,sD bW,sI,sI,.b (.cell [.d .str,.d iT,.d bW] i)],[iT,bW,iT,iT,.str,iT,bW],[⟨.ret,[.s (.one (.nil)),sI],[iT]⟩,⟨.exit 0,[sB 64 0,sI,.b (.cell [.d .str,.d iT,.d bW] i)],[iT,.str,iT,bW]⟩],Pw.unc7 (Pw.j2f)⟩,⟨2,[sO 1002000,sD bW,sI,sI,.b (.lst 164 aN i)],[bW,iT,iT,ag],[⟨.exit 2,[sO 1502300,.b (.lst 164 aN i)],[ag]⟩],Pw.unc4 (Pw.j2h)⟩,⟨4,[sO 1004000,sB 640 0,sI,sD bW,sI,sI,.b (.cell [.d iT,.d iT,.d iT,.d iT,.d iT,.d iT,.d iT] i),.b (.lst 164 aN i)],[iT,bW,iT,iT,iT,iT,iT,iT,iT,iT,iT,ag],[⟨.exit 4,[sO 1504500,sD bW,sI,sI,.b (.lst 164 aN i)],[bW,iT,iT,ag]⟩],Pw.u8 Pw.unc4 (Pw.j2g)⟩]
 modes:=[(125,[j,i])]
 keep:=[(0,⟨[1,4,23,24,25],[64],[],[]⟩),(2,⟨[8,46,47,48],[],[⟨1002000,164,aN,[.slot 8],i⟩],[]⟩),(4,⟨[8,10,11,46,47,48],[640],[⟨1004000,164,aN,[.slot 8],i⟩],[]⟩)]
 keepX:=[(0,.ret,⟨[2,3],[],[],[]⟩),(0,.exit 0,⟨[1,4],[64],[],[]⟩),(2,.exit 2,⟨[8],[],[⟨1502300,164,aN,[.slot 8],i⟩],[]⟩),(4,.exit 4,⟨[8,46,47,48],[],[⟨1504500,164,aN,[.slot 8],i⟩],[]⟩)]
 ro:=[j,i]
theorem jjZ:aG QE:=
 cOf aJ aK jl9 QE Tryz.func86 (ja P3 (ja jtm (ja jtw (ja j3C e)))) (ja (λh=>by kernel_rfl) (ja (λh=>by kernel_rfl) (ja (λh=>by kernel_rfl) e)))
def KU:Con:=⟨60,[.v bq],[bq],⟨[.own 145 ag,.v iT],[]⟩,[ag,iT],λh=>Pw.j3O h⟩
def jla:FnD where
 N:=79
 np:=1
 cs:=[G2,QE]
 ds:=[⟨0,[sO 1000000,sI,sO 1000001,sI,sI,.b (.lst 145 aN i),.b (.lst 164 aN i)],[iT,iT,iT,ag,ag],[⟨.ret,[.s (.one (.nil)),sI],[iT]⟩,⟨.exit 0,[sO 1500100,.b (.lst 145 aN i)],[ag]⟩],Pw.unc5 (Pw.j2i)⟩]
 keep:=[(0,⟨[6,7,22,23,24],[],[⟨1000000,145,aN,[.slot 6],i⟩,⟨1000001,164,aN,[.slot 22],i⟩],[]⟩)]
 keepX:=[(0,.ret,⟨[2,3],[],[],[]⟩),(0,.exit 0,⟨[6],[],[⟨1500100,145,aN,[.slot 6],i⟩],[]⟩)]
 ro:=[j,i]
theorem _E:aG KU:=
 cOf aJ aK jla KU Tryz.func60 (ja P3 (ja jjZ e)) (ja (λh=>by kernel_rfl) e)
def QF:Con:=⟨204,[.v bq],[bq],⟨[.v iT],[]⟩,[iT],λh=>Pw.jfp h⟩
def jtx:FnD where
 N:=11
 np:=1
 cs:=[KU]
theorem jrw:aG QF:=
 cOf aJ aK jtx QF Tryz.func204 (ja _E e) e
def QG:Con:=⟨206,[.v ph],[ph],⟨[.v .bool],[]⟩,[.bool],λh=>Pw.j8p h⟩
def jhf:FnD where
 N:=7
 np:=1
theorem jgw:aG QG:=
 cOf aJ aK jhf QG Tryz.func206 e e
def QH:Con:=⟨251,[.v bW,.clo 206 []],[bW],⟨[.v iT],[]⟩,[iT],λh=>Pw.j1t h⟩
def j6f:FnD where
 N:=19
 np:=2
 cs:=[QG]
 ds:=[⟨0,[sD bW,sC 206 [],sI,sI],[bW,iT,iT],[⟨.ret,[sI],[iT]⟩,⟨.exit 0,[],[]⟩],Pw.unc3 (Pw.j0h)⟩]
 keep:=[(0,⟨[0,1,7,8],[],[],[]⟩)]
 keepX:=[(0,.ret,⟨[4],[],[],[]⟩)]
theorem j6d:aG QH:=
 cOf aJ aK j6f QH Tryz.func251 (ja jgw e) (ja (λh=>by kernel_rfl) e)
def QI:Con:=⟨205,[.v bW,.clo 206 []],[bW],⟨[.v .bool],[]⟩,[.bool],λh=>Pw.j1c h⟩
def j5r:FnD where
 N:=9
 np:=2
 cs:=[QH]
theorem j5m:aG QI:=
 cOf aJ aK j5r QI Tryz.func205 (ja j6d e) e
def QJ:Con:=⟨146,[.v bq],[bq],⟨[.v iT],[]⟩,[iT],λh=>Pw.j5N h⟩
def jk0:FnD where
 N:=17
 np:=1
 cs:=[QF,QI]
theorem jiX:aG QJ:=
 cOf aJ aK jk0 QJ Tryz.func146 (ja jrw (ja j5m e)) e
def QK:Con:=⟨144,[.v ay,.clo 145 [],.clo 146 []],[ay],⟨[.v iT],[]⟩,[iT],λh=>Pw.j4F h⟩
def jfD:FnD where
 N:=34
 np:=3
 cs:=[PZ,Bd,QJ]
 ds:=[⟨0,[sC 145 [],sC 146 [],sO 1000000,sD ay,sI,sI,.b (.lst 4294967507 (.pair .str .bool) i)],[ay,iT,iT,(.list (.pair .str .bool))],[⟨.ret,[sI],[iT]⟩,⟨.exit 0,[],[]⟩],Pw.unc4 (Pw.j1i)⟩]
 modes:=[(147,[i,j])]
 keep:=[(0,⟨[1,2,7,13,14,15],[],[⟨1000000,4294967507,(.pair .str .bool),[.slot 7],i⟩],[]⟩)]
 keepX:=[(0,.ret,⟨[6],[],[],[]⟩)]
theorem jeL:aG QK:=
 cOf aJ aK jfD QK Tryz.func144 (ja jjU (ja G1 (ja jiX e))) (ja (λh=>by kernel_rfl) e)
end Go.Proofs.Pk
