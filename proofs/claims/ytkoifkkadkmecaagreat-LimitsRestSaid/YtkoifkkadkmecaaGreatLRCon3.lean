/- cB: each given function is its plain function, printed by a program. -/
import Derived.Test.YtkoifkkadkmecaaGreatLRCon2
open _root_ renaming trivial->e
open Bool renaming false->i,true->j
noncomputable section
open Go Go.Lft
set_option linter.unusedVariables false
set_option maxRecDepth 100000
namespace Go.Proofs.Pk
def Km:Con:=⟨51,[.v bk],[bk],⟨[.v eZ,.v .bool],[]⟩,[eZ,.bool],λh=>Pw.joj h⟩
def jzY:FnD where
 N:=10
 np:=1
 cs:=[Qc,Qf]
theorem ZU:aH Km:=
 cOf aK aM jzY Km Tryz.func51 (ja jmW (ja jto e)) e
def Kn:Con:=⟨52,[.v iT,.v iT],[iT,iT],⟨[.v .bool],[]⟩,[.bool],Pw.unc2 Pw.jgc⟩
def jtp:FnD where
 N:=26
 np:=2
theorem ZV:aH Kn:=
 cOf aK aM jtp Kn Tryz.func52 e e
def Gs:Con:=⟨24,[.v bk,.v iT,.v iT,.v iT],[bk,iT,iT,iT],⟨[.v eZ,.v iT],[]⟩,[eZ,iT],Pw.unc4 Pw.j8q⟩
def jrC:FnD where
 N:=39
 np:=4
 cs:=[Km,Kn]
theorem Qg:aH Gs:=
 cOf aK aM jrC Gs Tryz.func24 (ja ZU (ja ZV e)) e
def ZW:Con:=⟨94,[.v (.list iT)],[(.list iT)],⟨[.own 3 (.list iT)],[]⟩,[(.list iT)],λh=>Pw.j9g h⟩
def jhP:FnD where
 N:=8
 np:=1
 ro:=[j]
theorem jh8:aH ZW:=
 Xg aK aM jhP 94 iT 3 Tryz.f94 (Tryz.f94.body.getD .skip) Tryz.func94 (by kernel_rfl) (by kernel_rfl) (Nat.le_of_ble_eq_true (by kernel_rfl)) (by kernel_rfl) e (by kernel_rfl)
  (λh R k=>by kernel_rfl)
def Ko:Con:=⟨95,[.v iT,.ip [iT],.ip [iT]],[iT,iT,iT],⟨[.v .bool],[]⟩,[.bool],Pw.unc3 Pw.jcl⟩
def jpv:FnD where
 N:=13
 np:=3
theorem ZX:aH Ko:=
 cOf aK aM jpv Ko Tryz.func95 e e
def Qh:Con:=⟨152,[.rl 3 (.list iT),.clo 95 [.p [iT],.p [iT]]],[(.list iT),iT,iT],⟨[.v iT],[.rl (.list iT)]⟩,[iT,(.list iT)],Pw.unc3 Pw.j5n⟩
def jd8:FnD where
 N:=19
 np:=2
 cs:=[Ko]
 ds:=[⟨0,[sO 0,sC 95 [.p [iT],.p [iT]],sI,sI,.b (.lst 3 iT i)],[iT,iT,iT,iT,(.list iT)],[⟨.ret,[sI,.b (.lst 3 iT i)],[iT,(.list iT)]⟩,⟨.exit 0,[.b (.lst 3 iT i)],[(.list iT)]⟩],Pw.unc5 (Pw.j19)⟩]
 keep:=[(0,⟨[0,1,7,8],[0],[],[]⟩)]
 keepX:=[(0,.ret,⟨[4],[0],[],[]⟩),(0,.exit 0,⟨[],[0],[],[]⟩)]
theorem jcL:aH Qh:=
 cOf aK aM jd8 Qh Tryz.func152 (ja ZX e) (ja (λh=>by kernel_rfl) e)
def Qi:Con:=⟨93,[.rl 3 (.list iT),.clo 95 [.p [iT],.p [iT]]],[(.list iT),iT,iT],⟨[.hd],[.rl (.list iT)]⟩,[iT,(.list iT)],Pw.unc3 Pw.j3X⟩
def jeC:FnD where
 N:=42
 np:=2
 cs:=[Ko,Qh]
 ds:=[⟨0,[sO 0,sC 95 [.p [iT],.p [iT]],sI,sI,.b (.lst 3 iT i)],[iT,iT,iT,iT,(.list iT)],[⟨.exit 0,[sO 0,sI,.b (.lst 3 iT i)],[iT,(.list iT)]⟩],Pw.unc5 (Pw.j1r)⟩]
 modes:=[(152,[j,i])]
 keep:=[(0,⟨[0,1,5,6],[0],[],[]⟩)]
 keepX:=[(0,.exit 0,⟨[0,5],[0],[],[]⟩)]
 hd:=j
theorem jdH:aH Qi:=
 cOf aK aM jeC Qi Tryz.func93 (ja ZX (ja jcL e)) (ja (λh=>by kernel_rfl) e)
def ZY:Con:=⟨96,[.rl 3 (.list iT)],[(.list iT)],⟨[],[.rl (.list iT)]⟩,[(.list iT)],λh=>Pw.j7c h⟩
def jtq:FnD where
 N:=11
 np:=1
theorem jhQ:aH ZY:=
 jzQ Tryz.sort96 3 (by kernel_rfl) 96 rfl
def Qj:Con:=⟨97,[.rl 3 (.list iT)],[(.list iT)],⟨[.hd],[.rl (.list iT)]⟩,[iT,(.list iT)],λh=>Pw.j5H h⟩
def jgu:FnD where
 N:=61
 np:=1
 ds:=[⟨0,[sO 0,sI,.b (.lst 3 iT i)],[iT,(.list iT)],[⟨.ret,[.s (.one (.hd 0)),.b (.lst 3 iT i)],[iT,(.list iT)]⟩,⟨.exit 0,[sO 0,.b (.lst 3 iT i)],[(.list iT)]⟩],Pw.unc2 (Pw.j1R)⟩,⟨2,[sO 0,sI,.s (.one (.tl 0)),sI,.b (.lst 3 iT i)],[iT,iT,iT,(.list iT)],[⟨.exit 2,[sO 0,sI,.b (.lst 3 iT i)],[iT,(.list iT)]⟩],Pw.unc4 (Pw.j1Q)⟩]
 keep:=[(0,⟨[0,3],[0],[],[]⟩),(2,⟨[0,3,4,5],[0],[],[]⟩)]
 keepX:=[(0,.ret,⟨[2],[0],[],[]⟩),(0,.exit 0,⟨[0],[0],[],[]⟩),(2,.exit 2,⟨[0,3],[0],[],[]⟩)]
 hd:=j
theorem jfK:aH Qj:=
 cOf aK aM jgu Qj Tryz.func97 e (ja (λh=>by kernel_rfl) (ja (λh=>by kernel_rfl) e))
def Kp:Con:=⟨59,[.v (.list iT),.v iT,.v iT],[(.list iT),iT,iT],⟨[.own 3 (.list iT)],[]⟩,[(.list iT)],Pw.unc3 Pw.jia⟩
def juY:FnD where
 N:=19
 np:=3
 cs:=[ZW,Qi,ZY,Qj]
 modes:=[(93,[j,i]),(96,[j]),(97,[j])]
 ro:=[j]
 dw:=[(3,[[],[704,960],[],[1088],[960,1152],[]])]
theorem ZZ:aH Kp:=
 cOf aK aM juY Kp Tryz.func59 (ja jh8 (ja jdH (ja jhQ (ja jfK e)))) e
def Qk:Con:=⟨137,[.v bM],[bM],⟨[.clo 185 [.p [bM]]],[]⟩,[bM],λh=>Pw.j2K h⟩
def j9n:FnD where
 N:=4
 np:=1
theorem j92:aH Qk:=
 cOf aK aM j9n Qk Tryz.func137 e e
def Kq:Con:=⟨225,[.v bT],[bT],⟨[.v iT],[]⟩,[iT],λh=>Pw.jbJ h⟩
def jtr:FnD where
 N:=11
 np:=1
theorem Z0:aH Kq:=
 cOf aK aM jtr Kq Tryz.func225 e e
def Ql:Con:=⟨155,[.v iT,.ip [iT,aa],.ip [iT]],[iT,iT,aa,iT],⟨[.v .bool],[]⟩,[.bool],Pw.unc4 Pw.ja6⟩
def jiy:FnD where
 N:=13
 np:=3
theorem jhR:aH Ql:=
 cOf aK aM jiy Ql Tryz.func155 e e
def Qm:Con:=⟨154,[.v iT,.clo 155 [.p [iT,aa],.p [iT]]],[iT,iT,aa,iT],⟨[.v iT],[]⟩,[iT],Pw.unc4 Pw.jk1⟩
def jrD:FnD where
 N:=26
 np:=2
 cs:=[Ql]
 ds:=[⟨0,[sC 155 [.p [iT,aa],.p [iT]],sI,sI],[iT,aa,iT,iT,iT],[⟨.exit 0,[sI],[iT]⟩],Pw.unc5 (Pw.j3K)⟩]
 keep:=[(0,⟨[1,5,6],[],[],[]⟩)]
 keepX:=[(0,.exit 0,⟨[5],[],[],[]⟩)]
theorem jpw:aH Qm:=
 cOf aK aM jrD Qm Tryz.func154 (ja jhR e) (ja (λh=>by kernel_rfl) e)
def Kr:Con:=⟨98,[.v cK,.v iT],[cK,iT],⟨[.v iT],[]⟩,[iT],Pw.unc2 Pw.j7B⟩
def jls:FnD where
 N:=10
 np:=2
 cs:=[Qm]
theorem Z1:aH Kr:=
 cOf aK aM jls Kr Tryz.func98 (ja jpw e) e
def Ks:Con:=⟨99,[.v cK,.v iT],[cK,iT],⟨[.v iT],[]⟩,[iT],Pw.unc2 Pw.j5c⟩
def jkl:FnD where
 N:=16
 np:=2
theorem Z2:aH Ks:=
 cOf aK aM jkl Ks Tryz.func99 e e
def Gt:Con:=⟨61,[.v cK,.v iT,.v iT],[cK,iT,iT],⟨[.own 136 au],[]⟩,[au],Pw.unc3 Pw.j2k⟩
def jkm:FnD where
 N:=41
 np:=3
 cs:=[Kr,Ks]
 ds:=[⟨0,[sI,sI,sB 192 0,sO 1000000,.b (.cell [.d iT,.d aa] i),.b (.lst 136 aJ i)],[iT,iT,iT,aa,au],[⟨.exit 0,[sO 1500100,.b (.lst 136 aJ i)],[au]⟩],Pw.unc5 (Pw.j0S)⟩]
 keep:=[(0,⟨[1,2,3,7],[192],[⟨1000000,136,aJ,[.slot 7],i⟩],[]⟩)]
 keepX:=[(0,.exit 0,⟨[7],[],[⟨1500100,136,aJ,[.slot 7],i⟩],[]⟩)]
 ro:=[j]
theorem Qn:aH Gt:=
 cOf aK aM jkm Gt Tryz.func61 (ja Z1 (ja Z2 e)) (ja (λh=>by kernel_rfl) e)
def Qo:Con:=⟨252,[.v aO],[aO],⟨[.v iT],[]⟩,[iT],λh=>Pw.j55 h⟩
def jpx:FnD where
 N:=11
 np:=1
theorem jox:aH Qo:=
 cOf aK aM jpx Qo Tryz.func252 e e
def Qp:Con:=⟨226,[.v cK,.v aO],[cK,aO],⟨[.v iT,.v .bool],[]⟩,[iT,.bool],Pw.unc2 Pw.j3z⟩
def jlt:FnD where
 N:=30
 np:=2
 cs:=[Gt,Qo]
 ds:=[⟨0,[sB 192 0,sO 1000000,sI,sI,.b (.cell [.d iT,.d iT] i),.b (.lst 136 aJ i)],[iT,iT,iT,iT,au],[⟨.ret,[sI,sD .bool],[iT,.bool]⟩,⟨.exit 0,[],[]⟩],Pw.unc5 (Pw.j1K)⟩]
 keep:=[(0,⟨[3,10,11,12],[192],[⟨1000000,136,aJ,[.slot 10],i⟩],[]⟩)]
 keepX:=[(0,.ret,⟨[4,5],[],[],[]⟩)]
theorem jkn:aH Qp:=
 cOf aK aM jlt Qp Tryz.func226 (ja Qn (ja jox e)) (ja (λh=>by kernel_rfl) e)
def Gu:Con:=⟨189,[.v cK,.v bT,.v iT],[cK,bT,iT],⟨[.v iT,.v .bool],[]⟩,[iT,.bool],Pw.unc3 Pw.j15⟩
def jlu:FnD where
 N:=50
 np:=3
 cs:=[Kq,Qp]
 dw:=[(5,[[],[],[],[],[],[],[],[],[512]])]
theorem Qq:aH Gu:=
 cOf aK aM jlu Gu Tryz.func189 (ja Z0 (ja jkn e)) e
end Go.Proofs.Pk
