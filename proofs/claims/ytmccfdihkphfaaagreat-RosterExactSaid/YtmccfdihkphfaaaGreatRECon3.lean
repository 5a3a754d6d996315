/- cb: each given function is its plain function, printed by a program. -/
import Derived.Test.YtmccfdihkphfaaaGreatRECon2
open _root_ renaming trivial->e
open Bool renaming false->i,true->j
noncomputable section
open Go Go.Lft
set_option linter.unusedVariables false
set_option maxRecDepth 100000
namespace Go.Proofs.Pk
def P6:Con:=⟨130,[.v aB],[aB],⟨[.v dX],[]⟩,[dX],λh=>Pw.jk8 h⟩
def juE:FnD where
 N:=8
 np:=1
 cs:=[P5]
 dw:=[(1,[[],[],[],[384],[],[128]])]
theorem jsS:aM P6:=
 cOf aN aO juE P6 Tryz.func130 (ja joV e) e
def FV:Con:=⟨69,[.v aB],[aB],⟨[.v dX,.v .bool],[]⟩,[dX,.bool],λh=>Pw.jfM h⟩
def jzE:FnD where
 N:=10
 np:=1
 cs:=[P3,P6]
theorem P7:aM FV:=
 cOf aN aO jzE FV Tryz.func69 (ja jmn (ja jsS e)) e
def Kb:Con:=⟨79,[.v aB,.v iT],[aB,iT],⟨[.v .bool],[]⟩,[.bool],Pw.unc2 Pw.j5x⟩
def jr8:FnD where
 N:=14
 np:=2
theorem Zz:aM Kb:=
 cOf aN aO jr8 Kb Tryz.func79 e e
def P8:Con:=⟨72,[.v iT,.v iT],[iT,iT],⟨[.v .bool],[]⟩,[.bool],Pw.unc2 Pw.jln⟩
def jsT:FnD where
 N:=26
 np:=2
theorem jr9:aM P8:=
 cOf aN aO jsT P8 Tryz.func72 e e
def Kd:Con:=⟨59,[.v aB,.v iT,.v iT,.v iT],[aB,iT,iT,iT],⟨[.v dX,.v iT],[]⟩,[dX,iT],Pw.unc4 Pw.j94⟩
def jra:FnD where
 N:=34
 np:=4
 cs:=[FV,Kb,P8]
theorem ZA:aM Kd:=
 cOf aN aO jra Kd Tryz.func59 (ja P7 (ja Zz (ja jr9 e))) e
def ZB:Con:=⟨163,[.v (.list iT)],[(.list iT)],⟨[.own 3 (.list iT)],[]⟩,[(.list iT)],λh=>Pw.j89 h⟩
def jgS:FnD where
 N:=8
 np:=1
 ro:=[j]
theorem jge:aM ZB:=
 WZ aN aO jgS 163 iT 3 Tryz.f163 (Tryz.f163.body.getD .skip) Tryz.func163 (by kernel_rfl) (by kernel_rfl) (vq (by kernel_rfl)) (by kernel_rfl) e (by kernel_rfl)
  (λh R k=>by kernel_rfl)
def Ke:Con:=⟨164,[.v iT,.ip [iT],.ip [iT]],[iT,iT,iT],⟨[.v .bool],[]⟩,[.bool],Pw.unc3 Pw.jbk⟩
def joW:FnD where
 N:=13
 np:=3
theorem ZC:aM Ke:=
 cOf aN aO joW Ke Tryz.func164 e e
def P9:Con:=⟨231,[.rl 3 (.list iT),.clo 164 [.p [iT],.p [iT]]],[(.list iT),iT,iT],⟨[.v iT],[.rl (.list iT)]⟩,[iT,(.list iT)],Pw.unc3 Pw.j4C⟩
def jbP:FnD where
 N:=19
 np:=2
 cs:=[Ke]
 ds:=[⟨0,[sO 0,sC 164 [.p [iT],.p [iT]],sI,sI,.b (.lst 3 iT i)],[iT,iT,iT,iT,(.list iT)],[⟨.ret,[sI,.b (.lst 3 iT i)],[iT,(.list iT)]⟩,⟨.exit 0,[.b (.lst 3 iT i)],[(.list iT)]⟩],Pw.unc5 (Pw.j0W)⟩]
 keep:=[(0,⟨[0,1,7,8],[0],[],[]⟩)]
 keepX:=[(0,.ret,⟨[4],[0],[],[]⟩),(0,.exit 0,⟨[],[0],[],[]⟩)]
theorem jbF:aM P9:=
 cOf aN aO jbP P9 Tryz.func231 (ja ZC e) (ja (λh=>by kernel_rfl) e)
def Qa:Con:=⟨162,[.rl 3 (.list iT),.clo 164 [.p [iT],.p [iT]]],[(.list iT),iT,iT],⟨[.hd],[.rl (.list iT)]⟩,[iT,(.list iT)],Pw.unc3 Pw.j3o⟩
def jdr:FnD where
 N:=42
 np:=2
 cs:=[Ke,P9]
 ds:=[⟨0,[sO 0,sC 164 [.p [iT],.p [iT]],sI,sI,.b (.lst 3 iT i)],[iT,iT,iT,iT,(.list iT)],[⟨.exit 0,[sO 0,sI,.b (.lst 3 iT i)],[iT,(.list iT)]⟩],Pw.unc5 (Pw.j1c)⟩]
 modes:=[(231,[j,i])]
 keep:=[(0,⟨[0,1,5,6],[0],[],[]⟩)]
 keepX:=[(0,.exit 0,⟨[0,5],[0],[],[]⟩)]
 hd:=j
theorem jco:aM Qa:=
 cOf aN aO jdr Qa Tryz.func162 (ja ZC (ja jbF e)) (ja (λh=>by kernel_rfl) e)
def ZD:Con:=⟨165,[.rl 3 (.list iT)],[(.list iT)],⟨[],[.rl (.list iT)]⟩,[(.list iT)],λh=>Pw.j6j h⟩
def jsU:FnD where
 N:=11
 np:=1
theorem jgT:aM ZD:=
 jzw Tryz.sort165 3 (by kernel_rfl) 165 rfl
def Qb:Con:=⟨166,[.rl 3 (.list iT)],[(.list iT)],⟨[.hd],[.rl (.list iT)]⟩,[iT,(.list iT)],λh=>Pw.j4O h⟩
def jfq:FnD where
 N:=61
 np:=1
 ds:=[⟨0,[sO 0,sI,.b (.lst 3 iT i)],[iT,(.list iT)],[⟨.ret,[.s (.one (.hd 0)),.b (.lst 3 iT i)],[iT,(.list iT)]⟩,⟨.exit 0,[sO 0,.b (.lst 3 iT i)],[(.list iT)]⟩],Pw.unc2 (Pw.j1z)⟩,⟨2,[sO 0,sI,.s (.one (.tl 0)),sI,.b (.lst 3 iT i)],[iT,iT,iT,(.list iT)],[⟨.exit 2,[sO 0,sI,.b (.lst 3 iT i)],[iT,(.list iT)]⟩],Pw.unc4 (Pw.j1y)⟩]
 keep:=[(0,⟨[0,3],[0],[],[]⟩),(2,⟨[0,3,4,5],[0],[],[]⟩)]
 keepX:=[(0,.ret,⟨[2],[0],[],[]⟩),(0,.exit 0,⟨[0],[0],[],[]⟩),(2,.exit 2,⟨[0,3],[0],[],[]⟩)]
 hd:=j
theorem jeE:aM Qb:=
 cOf aN aO jfq Qb Tryz.func166 e (ja (λh=>by kernel_rfl) (ja (λh=>by kernel_rfl) e))
def Qc:Con:=⟨116,[.v (.list iT),.v iT,.v iT],[(.list iT),iT,iT],⟨[.own 3 (.list iT)],[]⟩,[(.list iT)],Pw.unc3 Pw.jk9⟩
def juF:FnD where
 N:=19
 np:=3
 cs:=[ZB,Qa,ZD,Qb]
 modes:=[(162,[j,i]),(165,[j]),(166,[j])]
 ro:=[j]
 dw:=[(3,[[],[704,960],[],[1088],[960,1152],[]])]
theorem jsV:aM Qc:=
 cOf aN aO juF Qc Tryz.func116 (ja jge (ja jco (ja jgT (ja jeE e)))) e
def Kf:Con:=⟨167,[.v bC],[bC],⟨[.clo 233 [.p [bC]]],[]⟩,[bC],λh=>Pw.j0X h⟩
def j8g:FnD where
 N:=4
 np:=1
theorem ZE:aM Kf:=
 cOf aN aO j8g Kf Tryz.func167 e e
def Kg:Con:=⟨212,[.v bD],[bD],⟨[.v iT],[]⟩,[iT],λh=>Pw.jaw h⟩
def jsW:FnD where
 N:=11
 np:=1
theorem ZG:aM Kg:=
 cOf aN aO jsW Kg Tryz.func212 e e
def Qd:Con:=⟨268,[.v iT,.ip [iT,af],.ip [iT]],[iT,iT,af,iT],⟨[.v .bool],[]⟩,[.bool],Pw.unc4 Pw.j95⟩
def jhB:FnD where
 N:=13
 np:=3
theorem jgU:aM Qd:=
 cOf aN aO jhB Qd Tryz.func268 e e
def Qe:Con:=⟨267,[.v iT,.clo 268 [.p [iT,af],.p [iT]]],[iT,iT,af,iT],⟨[.v iT],[]⟩,[iT],Pw.unc4 Pw.jj7⟩
def jrb:FnD where
 N:=26
 np:=2
 cs:=[Qd]
 ds:=[⟨0,[sC 268 [.p [iT,af],.p [iT]],sI,sI],[iT,af,iT,iT,iT],[⟨.exit 0,[sI],[iT]⟩],Pw.unc5 (Pw.j3e)⟩]
 keep:=[(0,⟨[1,5,6],[],[],[]⟩)]
 keepX:=[(0,.exit 0,⟨[5],[],[],[]⟩)]
theorem joX:aM Qe:=
 cOf aN aO jrb Qe Tryz.func267 (ja jgU e) (ja (λh=>by kernel_rfl) e)
def Kh:Con:=⟨216,[.v df,.v iT],[df,iT],⟨[.v iT],[]⟩,[iT],Pw.unc2 Pw.j6A⟩
def jkA:FnD where
 N:=10
 np:=2
 cs:=[Qe]
theorem ZH:aM Kh:=
 cOf aN aO jkA Kh Tryz.func216 (ja joX e) e
def Ki:Con:=⟨217,[.v df,.v iT],[df,iT],⟨[.v iT],[]⟩,[iT],Pw.unc2 Pw.j4u⟩
def jjo:FnD where
 N:=16
 np:=2
theorem ZI:aM Ki:=
 cOf aN aO jjo Ki Tryz.func217 e e
def FW:Con:=⟨148,[.v df,.v iT,.v iT],[df,iT,iT],⟨[.own 205 aH],[]⟩,[aH],Pw.unc3 Pw.j1X⟩
def jjp:FnD where
 N:=41
 np:=3
 cs:=[Kh,Ki]
 ds:=[⟨0,[sI,sI,sB 192 0,sO 1000000,.b (.cell [.d iT,.d af] i),.b (.lst 205 aF i)],[iT,iT,iT,af,aH],[⟨.exit 0,[sO 1500100,.b (.lst 205 aF i)],[aH]⟩],Pw.unc5 (Pw.j0B)⟩]
 keep:=[(0,⟨[1,2,3,7],[192],[⟨1000000,205,aF,[.slot 7],i⟩],[]⟩)]
 keepX:=[(0,.exit 0,⟨[7],[],[⟨1500100,205,aF,[.slot 7],i⟩],[]⟩)]
 ro:=[j]
theorem Qf:aM FW:=
 cOf aN aO jjp FW Tryz.func148 (ja ZH (ja ZI e)) (ja (λh=>by kernel_rfl) e)
def Qg:Con:=⟨213,[.v aT],[aT],⟨[.v iT],[]⟩,[iT],λh=>Pw.j4s h⟩
def joY:FnD where
 N:=11
 np:=1
theorem jo4:aM Qg:=
 cOf aN aO joY Qg Tryz.func213 e e
end Go.Proofs.Pk
