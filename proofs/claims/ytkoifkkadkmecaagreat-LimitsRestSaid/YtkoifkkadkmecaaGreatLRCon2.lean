/- cB: each given function is its plain function, printed by a program. -/
import Derived.Test.YtkoifkkadkmecaaGreatLRCon1
open _root_ renaming trivial->e
open Bool renaming false->i,true->j
noncomputable section
open Go Go.Lft
set_option linter.unusedVariables false
set_option maxRecDepth 100000
namespace Go.Proofs.Pk
def PW:Con:=⟨176,[.v (.list iT),.clo 177 []],[(.list iT)],⟨[.v .bool],[]⟩,[.bool],λh=>Pw.j5k h⟩
def jd4:FnD where
 N:=9
 np:=2
 cs:=[Pr]
theorem jcJ:aH PW:=
 cOf aK aM jd4 PW Tryz.func176 (ja jew e) e
def PX:Con:=⟨131,[.v bk,.v fE],[bk,fE],⟨[.v iT],[]⟩,[iT],Pw.unc2 Pw.j3Z⟩
def jh3:FnD where
 N:=46
 np:=2
 cs:=[Bh,PW]
 ds:=[⟨1,[sB 192 0,sI,sI,.b (.cell [.d .str,.d iT,.d (.list iT)] i)],[iT,iT,.str,iT,(.list iT)],[⟨.ret,[sI],[iT]⟩,⟨.exit 1,[],[]⟩],Pw.unc5 (Pw.j1Z)⟩]
 keep:=[(1,⟨[3,25,26],[192],[],[]⟩)]
 keepX:=[(1,.ret,⟨[4],[],[],[]⟩)]
theorem jgr:aH PX:=
 cOf aK aM jh3 PX Tryz.func131 (ja Gn (ja jcJ e)) (ja (λh=>by kernel_rfl) e)
def PY:Con:=⟨130,[.v fE,.ip [ax,az,ay,aC]],[fE,ax,az,ay,aC],⟨[.v iT],[]⟩,[iT],Pw.unc5 Pw.jcV⟩
def jln:FnD where
 N:=7
 np:=2
 cs:=[PX]
theorem jkg:aH PY:=
 cOf aK aM jln PY Tryz.func130 (ja jgr e) e
def PZ:Con:=⟨128,[.v ay,.clo 129 [],.clo 130 [.p [ax,az,ay,aC]]],[ay,ax,az,ay,aC],⟨[.v iT],[]⟩,[iT],Pw.unc5 Pw.j3C⟩
def jdF:FnD where
 N:=34
 np:=3
 cs:=[Bg,Pm,PY]
 ds:=[⟨0,[sC 129 [],sC 130 [.p [ax,az,ay,aC]],sO 1000000,sD ay,sI,sI,.b (.lst 4294967486 (.pair .str .bool) i)],[ax,az,ay,aC,ay,iT,iT,(.list (.pair .str .bool))],[⟨.ret,[sI],[iT]⟩,⟨.exit 0,[],[]⟩],Pw.unc8 (Pw.j1g)⟩]
 modes:=[(126,[i,j])]
 keep:=[(0,⟨[1,2,7,13,14,15],[],[⟨1000000,4294967486,(.pair .str .bool),[.slot 7],i⟩],[]⟩)]
 keepX:=[(0,.ret,⟨[6],[],[],[]⟩)]
theorem jd5:aH PZ:=
 cOf aK aM jdF PZ Tryz.func128 (ja Gk (ja jkb (ja jkg e))) (ja (λh=>by kernel_rfl) e)
def P0:Con:=⟨133,[.v cZ],[cZ],⟨[.v .str],[]⟩,[.str],λh=>Pw.jcW h⟩
def jlo:FnD where
 N:=5
 np:=1
theorem jkh:aH P0:=
 cOf aK aM jlo P0 Tryz.func133 e e
def P1:Con:=⟨180,[.v bT],[bT],⟨[.v .str],[]⟩,[.str],λh=>Pw.j6I h⟩
def jeO:FnD where
 N:=5
 np:=1
theorem jez:aH P1:=
 cOf aK aM jeO P1 Tryz.func180 e e
def P2:Con:=⟨223,[.v iT,.ip [ax,az,ay,aC]],[iT,ax,az,ay,aC],⟨[.v .bool],[]⟩,[.bool],Pw.unc5 Pw.j8o⟩
def jh4:FnD where
 N:=10
 np:=2
 cs:=[Bh]
theorem jgs:aH P2:=
 cOf aK aM jh4 P2 Tryz.func223 (ja Gn e) e
def P3:Con:=⟨152,[.v (.list iT),.clo 223 [.p [ax,az,ay,aC]]],[(.list iT),ax,az,ay,aC],⟨[.v iT],[]⟩,[iT],Pw.unc5 Pw.j5l⟩
def jd6:FnD where
 N:=19
 np:=2
 cs:=[P2]
 ds:=[⟨0,[sD (.list iT),sC 223 [.p [ax,az,ay,aC]],sI,sI],[(.list iT),ax,az,ay,aC,iT,iT],[⟨.ret,[sI],[iT]⟩,⟨.exit 0,[],[]⟩],Pw.unc7 (Pw.j18)⟩]
 keep:=[(0,⟨[0,1,7,8],[],[],[]⟩)]
 keepX:=[(0,.ret,⟨[4],[],[],[]⟩)]
theorem jcK:aH P3:=
 cOf aK aM jd6 P3 Tryz.func152 (ja jgs e) (ja (λh=>by kernel_rfl) e)
def P4:Con:=⟨176,[.v (.list iT),.clo 223 [.p [ax,az,ay,aC]]],[(.list iT),ax,az,ay,aC],⟨[.v .bool],[]⟩,[.bool],Pw.unc5 Pw.j40⟩
def jbh:FnD where
 N:=9
 np:=2
 cs:=[P3]
theorem jb3:aH P4:=
 cOf aK aM jbh P4 Tryz.func176 (ja jcK e) e
def P5:Con:=⟨182,[.v bk,.v bT],[bk,bT],⟨[.v iT],[]⟩,[iT],Pw.unc2 Pw.j5W⟩
def jjn:FnD where
 N:=91
 np:=2
 cs:=[Bh,Kd,Gp,Gq,P4]
theorem jiw:aH P5:=
 cOf aK aM jjn P5 Tryz.func182 (ja Gn (ja ZL (ja Pg (ja Pp (ja jb3 e))))) e
def P6:Con:=⟨181,[.v bT,.ip [ax,az,ay,aC]],[bT,ax,az,ay,aC],⟨[.v iT],[]⟩,[iT],Pw.unc5 Pw.j6J⟩
def jeP:FnD where
 N:=7
 np:=2
 cs:=[P5]
theorem jeA:aH P6:=
 cOf aK aM jeP P6 Tryz.func181 (ja jiw e) e
def P7:Con:=⟨179,[.v bM,.clo 180 [],.clo 181 [.p [ax,az,ay,aC]]],[bM,ax,az,ay,aC],⟨[.v iT],[]⟩,[iT],Pw.unc5 Pw.j4V⟩
def jfI:FnD where
 N:=34
 np:=3
 cs:=[Bg,P1,P6]
 ds:=[⟨0,[sC 180 [],sC 181 [.p [ax,az,ay,aC]],sO 1000000,sD bM,sI,sI,.b (.lst 4294967486 (.pair .str .bool) i)],[ax,az,ay,aC,bM,iT,iT,(.list (.pair .str .bool))],[⟨.ret,[sI],[iT]⟩,⟨.exit 0,[],[]⟩],Pw.unc8 (Pw.j1J)⟩]
 modes:=[(126,[i,j])]
 keep:=[(0,⟨[1,2,7,13,14,15],[],[⟨1000000,4294967486,(.pair .str .bool),[.slot 7],i⟩],[]⟩)]
 keepX:=[(0,.ret,⟨[6],[],[],[]⟩)]
theorem jeQ:aH P7:=
 cOf aK aM jfI P7 Tryz.func179 (ja Gk (ja jez (ja jeA e))) (ja (λh=>by kernel_rfl) e)
def P8:Con:=⟨183,[.v bk,.v bg],[bk,bg],⟨[.v iT],[]⟩,[iT],Pw.unc2 Pw.j6K⟩
def jki:FnD where
 N:=83
 np:=2
 cs:=[Bh,Gp,Gq]
theorem jjo:aH P8:=
 cOf aK aM jki P8 Tryz.func183 (ja Gn (ja Pg (ja Pp e))) e
def P9:Con:=⟨135,[.v bk,.v cZ],[bk,cZ],⟨[.v iT],[]⟩,[iT],Pw.unc2 Pw.j41⟩
def jh5:FnD where
 N:=40
 np:=2
 cs:=[P7,P8]
 ds:=[⟨0,[sB 128 0,sD an,sI,sI,.b (.cell [.d ax,.d az,.d ay,.d aC] j)],[an,iT,iT,ax,az,ay,aC],[⟨.ret,[sI],[iT]⟩,⟨.exit 0,[],[]⟩],Pw.unc7 (Pw.j21)⟩]
 keep:=[(0,⟨[2,27,28,29],[128],[],[]⟩)]
 keepX:=[(0,.ret,⟨[4],[],[],[]⟩)]
theorem jgt:aH P9:=
 cOf aK aM jh5 P9 Tryz.func135 (ja jeQ (ja jjo e)) (ja (λh=>by kernel_rfl) e)
def Qa:Con:=⟨134,[.v cZ,.ip [ax,az,ay,aC]],[cZ,ax,az,ay,aC],⟨[.v iT],[]⟩,[iT],Pw.unc5 Pw.jcX⟩
def jlp:FnD where
 N:=7
 np:=2
 cs:=[P9]
theorem jkj:aH Qa:=
 cOf aK aM jlp Qa Tryz.func134 (ja jgt e) e
def Qb:Con:=⟨132,[.v aC,.clo 133 [],.clo 134 [.p [ax,az,ay,aC]]],[aC,ax,az,ay,aC],⟨[.v iT],[]⟩,[iT],Pw.unc5 Pw.j5O⟩
def jdG:FnD where
 N:=34
 np:=3
 cs:=[Bg,P0,Qa]
 ds:=[⟨0,[sC 133 [],sC 134 [.p [ax,az,ay,aC]],sO 1000000,sD aC,sI,sI,.b (.lst 4294967486 (.pair .str .bool) i)],[ax,az,ay,aC,aC,iT,iT,(.list (.pair .str .bool))],[⟨.ret,[sI],[iT]⟩,⟨.exit 0,[],[]⟩],Pw.unc8 (Pw.j1h)⟩]
 modes:=[(126,[i,j])]
 keep:=[(0,⟨[1,2,7,13,14,15],[],[⟨1000000,4294967486,(.pair .str .bool),[.slot 7],i⟩],[]⟩)]
 keepX:=[(0,.ret,⟨[6],[],[],[]⟩)]
theorem jd7:aH Qb:=
 cOf aK aM jdG Qb Tryz.func132 (ja Gk (ja jkh (ja jkj e))) (ja (λh=>by kernel_rfl) e)
def Qc:Con:=⟨81,[.v bk],[bk],⟨[.v iT],[]⟩,[iT],λh=>Pw.jaB h⟩
def jow:FnD where
 N:=72
 np:=1
 cs:=[Bg,Pe,Pl,PZ,Qb]
 ds:=[⟨0,[sB 64 0,sO 1000000,sD az,sI,sI,.b (.cell [.d ax,.d az,.d ay,.d aC] i),.b (.lst 4294967486 (.pair .str .bool) i)],[az,iT,iT,ax,az,ay,aC,(.list (.pair .str .bool))],[⟨.ret,[sI],[iT]⟩,⟨.exit 0,[sB 64 0,.b (.cell [.d ax,.d az,.d ay,.d aC] i)],[ax,az,ay,aC]⟩],Pw.unc8 (Pw.j42)⟩]
 modes:=[(126,[i,j])]
 keep:=[(0,⟨[1,4,39,40,41],[64],[⟨1000000,4294967486,(.pair .str .bool),[.slot 4],i⟩],[]⟩)]
 keepX:=[(0,.ret,⟨[2],[],[],[]⟩),(0,.exit 0,⟨[1],[64],[],[]⟩)]
theorem jmW:aH Qc:=
 cOf aK aM jow Qc Tryz.func81 (ja Gk (ja jfC (ja jhN (ja jd5 (ja jd7 e))))) (ja (λh=>by kernel_rfl) e)
def Qd:Con:=⟨184,[.v br],[br],⟨[.v cK,.v iT],[]⟩,[cK,iT],λh=>Pw.joi h⟩
def jzX:FnD where
 N:=16
 np:=1
 cs:=[Kb]
theorem jy1:aH Qd:=
 cOf aK aM jzX Qd Tryz.func184 (ja ZK e) e
def Qe:Con:=⟨136,[.v ax],[ax],⟨[.own 95 fF],[]⟩,[fF],λh=>Pw.jk0 h⟩
def jrB:FnD where
 N:=25
 np:=1
 cs:=[Qd]
 ds:=[⟨0,[sO 1000000,sD ax,sI,sI,.b (.lst 95 cK i)],[ax,iT,iT,fF],[⟨.exit 0,[sO 1500100,.b (.lst 95 cK i)],[fF]⟩],Pw.unc4 (Pw.j5m)⟩]
 keep:=[(0,⟨[3,8,9,10],[],[⟨1000000,95,cK,[.slot 3],i⟩],[]⟩)]
 keepX:=[(0,.exit 0,⟨[3],[],[⟨1500100,95,cK,[.slot 3],i⟩],[]⟩)]
 ro:=[j]
theorem jpu:aH Qe:=
 cOf aK aM jrB Qe Tryz.func136 (ja jy1 e) (ja (λh=>by kernel_rfl) e)
def Qf:Con:=⟨82,[.v bk],[bk],⟨[.v eZ],[]⟩,[eZ],λh=>Pw.jl1 h⟩
def juX:FnD where
 N:=8
 np:=1
 cs:=[Qe]
 dw:=[(1,[[],[],[],[384],[],[128]])]
theorem jto:aH Qf:=
 cOf aK aM juX Qf Tryz.func82 (ja jpu e) e
end Go.Proofs.Pk
