/- cB: each given function is its plain function, printed by a program. -/
import Derived.Test.YtgfoijaggkhgnaaGreatLXCon3
open _root_ renaming trivial->e
open Bool renaming false->i,true->j
noncomputable section
open Go Go.Lft
set_option linter.unusedVariables false
set_option maxRecDepth 100000
namespace Go.Proofs.Pk
def Q5:Con:=⟨215,[.v bX,.ip [ay,aB,aA,aF]],[bX,ay,aB,aA,aF],⟨[.v iT],[]⟩,[iT],Pw.unc5 Pw.j5R⟩
def je1:FnD where
 N:=7
 np:=2
 cs:=[Q4]
theorem jdK:aG Q5:=
 cOf aJ aK je1 Q5 Tryz.func215 (ja ji6 e) e
def Q6:Con:=⟨213,[.v bS,.clo 214 [],.clo 215 [.p [ay,aB,aA,aF]]],[bS,ay,aB,aA,aF],⟨[.v iT],[]⟩,[iT],Pw.unc5 Pw.j4a⟩
def jeO:FnD where
 N:=34
 np:=3
 cs:=[Bd,Q0,Q5]
 ds:=[⟨0,[sC 214 [],sC 215 [.p [ay,aB,aA,aF]],sO 1000000,sD bS,sI,sI,.b (.lst 4294967507 (.pair .str .bool) i)],[ay,aB,aA,aF,bS,iT,iT,(.list (.pair .str .bool))],[⟨.ret,[sI],[iT]⟩,⟨.exit 0,[],[]⟩],Pw.unc8 (Pw.j1d)⟩]
 modes:=[(147,[i,j])]
 keep:=[(0,⟨[1,2,7,13,14,15],[],[⟨1000000,4294967507,(.pair .str .bool),[.slot 7],i⟩],[]⟩)]
 keepX:=[(0,.ret,⟨[6],[],[],[]⟩)]
theorem je2:aG Q6:=
 cOf aJ aK jeO Q6 Tryz.func213 (ja G1 (ja jdJ (ja jdK e))) (ja (λh=>by kernel_rfl) e)
def Q7:Con:=⟨217,[.v bh,.v iw],[bh,iw],⟨[.v iT],[]⟩,[iT],Pw.unc2 Pw.j5S⟩
def jk4:FnD where
 N:=83
 np:=2
 cs:=[Bf,G7,G8]
theorem jiZ:aG Q7:=
 cOf aJ aK jk4 Q7 Tryz.func217 (ja G6 (ja QL (ja QS e))) e
def Q8:Con:=⟨156,[.v bh,.v dA],[bh,dA],⟨[.v iT],[]⟩,[iT],Pw.unc2 Pw.j3j⟩
def jgA:FnD where
 N:=40
 np:=2
 cs:=[Q6,Q7]
 ds:=[⟨0,[sB 128 0,sD bL,sI,sI,.b (.cell [.d ay,.d aB,.d aA,.d aF] j)],[bL,iT,iT,ay,aB,aA,aF],[⟨.ret,[sI],[iT]⟩,⟨.exit 0,[],[]⟩],Pw.unc7 (Pw.j1w)⟩]
 keep:=[(0,⟨[2,27,28,29],[128],[],[]⟩)]
 keepX:=[(0,.ret,⟨[4],[],[],[]⟩)]
theorem jfG:aG Q8:=
 cOf aJ aK jgA Q8 Tryz.func156 (ja je2 (ja jiZ e)) (ja (λh=>by kernel_rfl) e)
def Q9:Con:=⟨155,[.v dA,.ip [ay,aB,aA,aF]],[dA,ay,aB,aA,aF],⟨[.v iT],[]⟩,[iT],Pw.unc5 Pw.jc3⟩
def jle:FnD where
 N:=7
 np:=2
 cs:=[Q8]
theorem jk5:aG Q9:=
 cOf aJ aK jle Q9 Tryz.func155 (ja jfG e) e
def Ra:Con:=⟨153,[.v aF,.clo 154 [],.clo 155 [.p [ay,aB,aA,aF]]],[aF,ay,aB,aA,aF],⟨[.v iT],[]⟩,[iT],Pw.unc5 Pw.j4K⟩
def jcL:FnD where
 N:=34
 np:=3
 cs:=[Bd,QZ,Q9]
 ds:=[⟨0,[sC 154 [],sC 155 [.p [ay,aB,aA,aF]],sO 1000000,sD aF,sI,sI,.b (.lst 4294967507 (.pair .str .bool) i)],[ay,aB,aA,aF,aF,iT,iT,(.list (.pair .str .bool))],[⟨.ret,[sI],[iT]⟩,⟨.exit 0,[],[]⟩],Pw.unc8 (Pw.j0S)⟩]
 modes:=[(147,[i,j])]
 keep:=[(0,⟨[1,2,7,13,14,15],[],[⟨1000000,4294967507,(.pair .str .bool),[.slot 7],i⟩],[]⟩)]
 keepX:=[(0,.ret,⟨[6],[],[],[]⟩)]
theorem jcf:aG Ra:=
 cOf aJ aK jcL Ra Tryz.func153 (ja G1 (ja jk3 (ja jk5 e))) (ja (λh=>by kernel_rfl) e)
def Rb:Con:=⟨106,[.v bh],[bh],⟨[.v iT],[]⟩,[iT],λh=>Pw.j9S h⟩
def joq:FnD where
 N:=72
 np:=1
 cs:=[Bd,QK,QN,QY,Ra]
 ds:=[⟨0,[sB 64 0,sO 1000000,sD aB,sI,sI,.b (.cell [.d ay,.d aB,.d aA,.d aF] i),.b (.lst 4294967507 (.pair .str .bool) i)],[aB,iT,iT,ay,aB,aA,aF,(.list (.pair .str .bool))],[⟨.ret,[sI],[iT]⟩,⟨.exit 0,[sB 64 0,.b (.cell [.d ay,.d aB,.d aA,.d aF] i)],[ay,aB,aA,aF]⟩],Pw.unc8 (Pw.j3k)⟩]
 modes:=[(147,[i,j])]
 keep:=[(0,⟨[1,4,39,40,41],[64],[⟨1000000,4294967507,(.pair .str .bool),[.slot 4],i⟩],[]⟩)]
 keepX:=[(0,.ret,⟨[2],[],[],[]⟩),(0,.exit 0,⟨[1],[64],[],[]⟩)]
theorem jmU:aG Rb:=
 cOf aJ aK joq Rb Tryz.func106 (ja G1 (ja jeL (ja jhg (ja jcd (ja jcf e))))) (ja (λh=>by kernel_rfl) e)
def KV:Con:=⟨40,[.v bq],[bq],⟨[.v dg,.v iT],[]⟩,[dg,iT],λh=>Pw.jjH h⟩
def jAw:FnD where
 N:=16
 np:=1
 cs:=[KU]
theorem _F:aG KV:=
 cOf aJ aK jAw KV Tryz.func40 (ja _E e) e
def Rc:Con:=⟨157,[.v ay],[ay],⟨[.own 95 iv],[]⟩,[iv],λh=>Pw.jjI h⟩
def jrz:FnD where
 N:=25
 np:=1
 cs:=[KV]
 ds:=[⟨0,[sO 1000000,sD ay,sI,sI,.b (.lst 95 dg i)],[ay,iT,iT,iv],[⟨.exit 0,[sO 1500100,.b (.lst 95 dg i)],[iv]⟩],Pw.unc4 (Pw.j4t)⟩]
 keep:=[(0,⟨[3,8,9,10],[],[⟨1000000,95,dg,[.slot 3],i⟩],[]⟩)]
 keepX:=[(0,.exit 0,⟨[3],[],[⟨1500100,95,dg,[.slot 3],i⟩],[]⟩)]
 ro:=[j]
theorem jpf:aG Rc:=
 cOf aJ aK jrz Rc Tryz.func157 (ja _F e) (ja (λh=>by kernel_rfl) e)
def Re:Con:=⟨107,[.v bh],[bh],⟨[.v gv],[]⟩,[gv],λh=>Pw.jkJ h⟩
def jvk:FnD where
 N:=8
 np:=1
 cs:=[Rc]
 dw:=[(1,[[],[],[],[384],[],[128]])]
theorem jtA:aG Re:=
 cOf aJ aK jvk Re Tryz.func107 (ja jpf e) e
def Rf:Con:=⟨78,[.v bh],[bh],⟨[.v gv,.v .bool],[]⟩,[gv,.bool],λh=>Pw.jo9 h⟩
def jAx:FnD where
 N:=10
 np:=1
 cs:=[Rb,Re]
theorem jyp:aG Rf:=
 cOf aJ aK jAx Rf Tryz.func78 (ja jmU (ja jtA e)) e
def Rg:Con:=⟨79,[.v bh,.v iT],[bh,iT],⟨[.v .bool],[]⟩,[.bool],Pw.unc2 Pw.jaJ⟩
def jrA:FnD where
 N:=14
 np:=2
theorem jpg:aG Rg:=
 cOf aJ aK jrA Rg Tryz.func79 e e
def Rh:Con:=⟨80,[.v iT,.v iT],[iT,iT],⟨[.v .bool],[]⟩,[.bool],Pw.unc2 Pw.jlT⟩
def jtB:FnD where
 N:=26
 np:=2
theorem jrB:aG Rh:=
 cOf aJ aK jtB Rh Tryz.func80 e e
def Ri:Con:=⟨58,[.v bh,.v iT,.v iT,.v iT],[bh,iT,iT,iT],⟨[.v gv,.v iT],[]⟩,[gv,iT],Pw.unc4 Pw.jaK⟩
def jrC:FnD where
 N:=34
 np:=4
 cs:=[Rf,Rg,Rh]
theorem jph:aG Ri:=
 cOf aJ aK jrC Ri Tryz.func58 (ja jyp (ja jpg (ja jrB e))) e
def _G:Con:=⟨109,[.v (.list iT)],[(.list iT)],⟨[.own 3 (.list iT)],[]⟩,[(.list iT)],λh=>Pw.j8q h⟩
def jhh:FnD where
 N:=8
 np:=1
 ro:=[j]
theorem jgD:aG _G:=
 X2 aJ aK jhh 109 iT 3 Tryz.f109 (Tryz.f109.body.getD .skip) Tryz.func109 (by kernel_rfl) (by kernel_rfl) (qy (by kernel_rfl)) (by kernel_rfl) e (by kernel_rfl)
  (λh R k=>by kernel_rfl)
def KW:Con:=⟨110,[.v iT,.ip [iT],.ip [iT]],[iT,iT,iT],⟨[.v .bool],[]⟩,[.bool],Pw.unc3 Pw.jbs⟩
def jpi:FnD where
 N:=13
 np:=3
theorem _H:aG KW:=
 cOf aJ aK jpi KW Tryz.func110 e e
def Rj:Con:=⟨158,[.rl 3 (.list iT),.clo 110 [.p [iT],.p [iT]]],[(.list iT),iT,iT],⟨[.v iT],[.rl (.list iT)]⟩,[iT,(.list iT)],Pw.unc3 Pw.j4u⟩
def jcg:FnD where
 N:=19
 np:=2
 cs:=[KW]
 ds:=[⟨0,[sO 0,sC 110 [.p [iT],.p [iT]],sI,sI,.b (.lst 3 iT i)],[iT,iT,iT,iT,(.list iT)],[⟨.ret,[sI,.b (.lst 3 iT i)],[iT,(.list iT)]⟩,⟨.exit 0,[.b (.lst 3 iT i)],[(.list iT)]⟩],Pw.unc5 (Pw.j0L)⟩]
 keep:=[(0,⟨[0,1,7,8],[0],[],[]⟩)]
 keepX:=[(0,.ret,⟨[4],[0],[],[]⟩),(0,.exit 0,⟨[],[0],[],[]⟩)]
theorem jbQ:aG Rj:=
 cOf aJ aK jcg Rj Tryz.func158 (ja _H e) (ja (λh=>by kernel_rfl) e)
def Rk:Con:=⟨108,[.rl 3 (.list iT),.clo 110 [.p [iT],.p [iT]]],[(.list iT),iT,iT],⟨[.hd],[.rl (.list iT)]⟩,[iT,(.list iT)],Pw.unc3 Pw.j3d⟩
def jdO:FnD where
 N:=42
 np:=2
 cs:=[KW,Rj]
 ds:=[⟨0,[sO 0,sC 110 [.p [iT],.p [iT]],sI,sI,.b (.lst 3 iT i)],[iT,iT,iT,iT,(.list iT)],[⟨.exit 0,[sO 0,sI,.b (.lst 3 iT i)],[iT,(.list iT)]⟩],Pw.unc5 (Pw.j13)⟩]
 modes:=[(158,[j,i])]
 keep:=[(0,⟨[0,1,5,6],[0],[],[]⟩)]
 keepX:=[(0,.exit 0,⟨[0,5],[0],[],[]⟩)]
 hd:=j
theorem jcM:aG Rk:=
 cOf aJ aK jdO Rk Tryz.func108 (ja _H (ja jbQ e)) (ja (λh=>by kernel_rfl) e)
def _I:Con:=⟨96,[.rl 3 (.list iT)],[(.list iT)],⟨[],[.rl (.list iT)]⟩,[(.list iT)],λh=>Pw.j6o h⟩
def jtC:FnD where
 N:=11
 np:=1
theorem jhi:aG _I:=
 jAj Tryz.sort96 3 (by kernel_rfl) 96 rfl
def Rl:Con:=⟨111,[.rl 3 (.list iT)],[(.list iT)],⟨[.hd],[.rl (.list iT)]⟩,[iT,(.list iT)],λh=>Pw.j4G h⟩
def jfH:FnD where
 N:=61
 np:=1
 ds:=[⟨0,[sO 0,sI,.b (.lst 3 iT i)],[iT,(.list iT)],[⟨.ret,[.s (.one (.hd 0)),.b (.lst 3 iT i)],[iT,(.list iT)]⟩,⟨.exit 0,[sO 0,.b (.lst 3 iT i)],[(.list iT)]⟩],Pw.unc2 (Pw.j1l)⟩,⟨2,[sO 0,sI,.s (.one (.tl 0)),sI,.b (.lst 3 iT i)],[iT,iT,iT,(.list iT)],[⟨.exit 2,[sO 0,sI,.b (.lst 3 iT i)],[iT,(.list iT)]⟩],Pw.unc4 (Pw.j1k)⟩]
 keep:=[(0,⟨[0,3],[0],[],[]⟩),(2,⟨[0,3,4,5],[0],[],[]⟩)]
 keepX:=[(0,.ret,⟨[2],[0],[],[]⟩),(0,.exit 0,⟨[0],[0],[],[]⟩),(2,.exit 2,⟨[0,3],[0],[],[]⟩)]
 hd:=j
theorem jeQ:aG Rl:=
 cOf aJ aK jfH Rl Tryz.func111 e (ja (λh=>by kernel_rfl) (ja (λh=>by kernel_rfl) e))
end Go.Proofs.Pk
