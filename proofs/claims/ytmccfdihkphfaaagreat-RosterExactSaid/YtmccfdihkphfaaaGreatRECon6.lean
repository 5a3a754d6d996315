/- cb: each given function is its plain function, printed by a program. -/
import Derived.Test.YtmccfdihkphfaaaGreatRECon5
open _root_ renaming trivial->e
open Bool renaming false->i,true->j
noncomputable section
open Go Go.Lft
set_option linter.unusedVariables false
set_option maxRecDepth 100000
namespace Go.Proofs.Pk
def QI:Con:=⟨178,[.v dX,.v bD,.v iT],[dX,bD,iT],⟨[.v iT],[]⟩,[iT],Pw.unc3 Pw.j2Z⟩
def jkH:FnD where
 N:=27
 np:=3
 cs:=[QH]
theorem jju:aM QI:=
 cOf aN aO jkH QI Tryz.func178 (ja jof e) e
def QJ:Con:=⟨241,[.v fw,.ip [iT],.ip [iT]],[fw,iT,iT],⟨[.v .bool],[]⟩,[.bool],Pw.unc3 Pw.jfO⟩
def jog:FnD where
 N:=26
 np:=3
theorem jmu:aM QJ:=
 cOf aN aO jog QJ Tryz.func241 e e
def QK:Con:=⟨294,[.v bt,.clo 241 [.p [iT],.p [iT]]],[bt,iT,iT],⟨[.v iT],[]⟩,[iT],Pw.unc3 Pw.j2C⟩
def j8C:FnD where
 N:=19
 np:=2
 cs:=[QJ]
 ds:=[⟨0,[sD bt,sC 241 [.p [iT],.p [iT]],sI,sI],[bt,iT,iT,iT,iT],[⟨.ret,[sI],[iT]⟩,⟨.exit 0,[],[]⟩],Pw.unc5 (Pw.j0y)⟩]
 keep:=[(0,⟨[0,1,7,8],[],[],[]⟩)]
 keepX:=[(0,.ret,⟨[4],[],[],[]⟩)]
theorem j8o:aM QK:=
 cOf aN aO j8C QK Tryz.func294 (ja jmu e) (ja (λh=>by kernel_rfl) e)
def QL:Con:=⟨240,[.v bt,.clo 241 [.p [iT],.p [iT]]],[bt,iT,iT],⟨[.v .bool],[]⟩,[.bool],Pw.unc3 Pw.j28⟩
def j7J:FnD where
 N:=9
 np:=2
 cs:=[QK]
theorem j7g:aM QL:=
 cOf aN aO j7J QL Tryz.func240 (ja j8o e) e
def QM:Con:=⟨179,[.v cB,.v iT,.v iT],[cB,iT,iT],⟨[.v .bool],[]⟩,[.bool],Pw.unc3 Pw.ji6⟩
def jt0:FnD where
 N:=11
 np:=3
 cs:=[QL]
theorem jrg:aM QM:=
 cOf aN aO jt0 QM Tryz.func179 (ja j7g e) e
def QN:Con:=⟨122,[.v dX,.v cB,.v iT],[dX,cB,iT],⟨[.v iT,.v iT],[]⟩,[iT,iT],Pw.unc3 Pw.j7S⟩
def joh:FnD where
 N:=29
 np:=3
 cs:=[Kf,QI,QM]
 ds:=[⟨0,[sI,sB 192 0,sB 256 0,sB 320 0,sB 384 0,sB 448 0,sC 233 [.p [bC]],.b (.cell [.d au,.d ax,.d aw,.d aA,.d eM] i),.b (.cell [.d .str,.d bC,.d bt] i),.b (.cell [.d iT] i),.b (.cell [.d iT] i),.b (.cell [.d iT] i)],[iT,bC,au,ax,aw,aA,eM,.str,bC,bt,iT,iT,iT],[⟨.normal,[sB 384 0,sB 448 0,.b (.cell [.d iT] i),.b (.cell [.d iT] i)],[iT,iT]⟩,⟨.ret,[sB 384 0,sB 448 0,.b (.cell [.d iT] i),.b (.cell [.d iT] i)],[iT,iT]⟩],Pw.u8 Pw.unc5 (Pw.j3C)⟩]
 keep:=[(0,⟨[3,4,5,6,7,13],[192,256,320,384,448],[],[]⟩)]
 keepX:=[(0,.normal,⟨[6,7],[384,448],[],[]⟩),(0,.ret,⟨[6,7],[384,448],[],[]⟩)]
 bw:=[(233,(i,bD))]
theorem jmv:aM QN:=
 cOf aN aO joh QN Tryz.func122 (ja ZE (ja jju (ja jrg e))) (ja (λh=>by kernel_rfl) e) (ja ZP e)
def F1:Con:=⟨62,[.v dX,.v cB,.v iT],[dX,cB,iT],⟨[.v iT],[]⟩,[iT],Pw.unc3 Pw.j6U⟩
def jt1:FnD where
 N:=27
 np:=3
 cs:=[Kn,QN]
theorem QP:aM F1:=
 cOf aN aO jt1 F1 Tryz.func62 (ja ZR (ja jmv e)) e
def J5:Con:=⟨14,[.v aB,.v iT,.v iT],[aB,iT,iT],⟨[.v aF,.v iT],[]⟩,[aF,iT],Pw.unc3 Pw.jay⟩
def jrh:FnD where
 N:=67
 np:=3
 cs:=[Kd,Ko,Kp,F1]
 ds:=[⟨0,[sI,sI,sB 192 0,sB 384 0,sB 448 0,sB 512 0,sI,sO 1000000,sC 121 [.p [aH]],.b (.cell [.d au,.d ax,.d aw,.d aA] i),.b (.cell [.d iT,.d iT,.d iT] i),.b (.cell [.d iT] i),.b (.cell [.d au,.d ax,.d aw,.d aA,.d eM] i),.b (.lst 123 aF j)],[iT,iT,iT,aH,au,ax,aw,aA,iT,iT,iT,iT,au,ax,aw,aA,eM,aH],[⟨.normal,[sI,sB 192 0,sB 384 0,sB 448 0,sB 512 0,sI,sO 1500050,.b (.cell [.d au,.d ax,.d aw,.d aA] i),.b (.cell [.d iT,.d iT,.d iT] i),.b (.cell [.d iT] i),.b (.cell [.d au,.d ax,.d aw,.d aA,.d eM] i),.b (.lst 123 aF j)],[iT,iT,au,ax,aw,aA,iT,iT,iT,iT,au,ax,aw,aA,eM,aH]⟩,⟨.ret,[sB 384 0,sB 448 0,.b (.cell [.d iT,.d iT,.d iT] i),.b (.cell [.d iT] i)],[iT,iT,iT,iT]⟩],Pw.u8 (Pw.u8 Pw.unc2) (Pw.j6l)⟩]
 keep:=[(0,⟨[1,3,6,7,8,10,11,39],[192,384,448,512],[⟨1000000,123,aF,[.slot 11],i⟩],[]⟩)]
 keepX:=[(0,.normal,⟨[1,3,6,7,8,10,11],[192,384,448,512],[⟨1500050,123,aF,[.slot 11],i⟩],[]⟩),(0,.ret,⟨[6,7],[384,448],[],[]⟩)]
 dw:=[(5,[[],[],[],[],[],[],[],[],[2368],[]])]
 bw:=[(121,(j,aF))]
theorem Zu:aM J5:=
 cOf aN aO jrh J5 Tryz.func14 (ja ZA (ja ZS (ja ZT (ja QP e)))) (ja (λh=>by kernel_rfl) e) (ja ZU e)
def QQ:Con:=⟨68,[.v aH,.v iT],[aH,iT],⟨[.own 59 af],[]⟩,[af],Pw.unc2 Pw.jaW⟩
def jmw:FnD where
 N:=29
 np:=2
 cs:=[Ao]
 ds:=[⟨0,[sI,sO 1000000,sD aH,sI,sI,.b (.lst 59 aT i)],[iT,aH,iT,iT,af],[⟨.exit 0,[sO 1500100,.b (.lst 59 aT i)],[af]⟩],Pw.unc5 (Pw.j39)⟩]
 keep:=[(0,⟨[1,5,8,9,10],[],[⟨1000000,59,aT,[.slot 5],i⟩],[]⟩)]
 keepX:=[(0,.exit 0,⟨[5],[],[⟨1500100,59,aT,[.slot 5],i⟩],[]⟩)]
 ro:=[j]
theorem jlA:aM QQ:=
 cOf aN aO jmw QQ Tryz.func68 (ja FY e) (ja (λh=>by kernel_rfl) e)
def J6:Con:=⟨22,[.v aB,.v iT,.v iT,.v iT,.v iT],[aB,iT,iT,iT,iT],⟨[.own 59 af,.v iT],[]⟩,[af,iT],Pw.unc5 Pw.jbo⟩
def jp8:FnD where
 N:=33
 np:=5
 cs:=[CB,QQ]
 ro:=[j,i]
theorem Zv:aM J6:=
 cOf aN aO jp8 J6 Tryz.func22 (ja Ka (ja jlA e)) e
def J7:Con:=⟨25,[.v aB,.v iT],[aB,iT],⟨[.own 3 (.list iT)],[]⟩,[(.list iT)],Pw.unc2 Pw.jcE⟩
def jt2:FnD where
 N:=33
 np:=2
 cs:=[FV,F1]
 ds:=[⟨0,[sI,sB 320 0,sO 1000000,sD aA,sI,sI,.b (.cell [.d au,.d ax,.d aw,.d aA,.d eM] i),.b (.lst 3 iT i)],[iT,aA,iT,iT,au,ax,aw,aA,eM,(.list iT)],[⟨.exit 0,[sO 1500100,.b (.lst 3 iT i)],[(.list iT)]⟩],Pw.u8 Pw.unc2 (Pw.j5a)⟩]
 keep:=[(0,⟨[1,5,7,18,19,20],[320],[⟨1000000,3,iT,[.slot 7],i⟩],[]⟩)]
 keepX:=[(0,.exit 0,⟨[7],[],[⟨1500100,3,iT,[.slot 7],i⟩],[]⟩)]
 ro:=[j]
theorem Zw:aM J7:=
 cOf aN aO jt2 J7 Tryz.func25 (ja P7 (ja QP e)) (ja (λh=>by kernel_rfl) e)
def QR:Con:=⟨66,[.v aB,.v iT,.v iT],[aB,iT,iT],⟨[.v iT],[]⟩,[iT],Pw.unc3 Pw.je5⟩
def jxt:FnD where
 N:=30
 np:=3
 cs:=[FV,Kb,F1]
theorem juI:aM QR:=
 cOf aN aO jxt QR Tryz.func66 (ja P7 (ja Zz (ja QP e))) e
def J8:Con:=⟨16,[.v aB,.v iT,.v iT],[aB,iT,iT],⟨[.v iT],[]⟩,[iT],Pw.unc3 Pw.j4W⟩
def jt3:FnD where
 N:=11
 np:=3
 cs:=[QR]
theorem Zx:aM J8:=
 cOf aN aO jt3 J8 Tryz.func16 (ja juI e) e
def Zr:Con:=⟨7,[],[],⟨[.v .bool],[]⟩,[.bool],λh=>Pw.ji7⟩
def jt4(x0:Option (HL [aB])):FnD where
 N:=93
 np:=0
 cs:=[⟨52,[],[],⟨[.v aB],[]⟩,[aB],λ_=>x0⟩,CB,J4,J5,J6,J7,J8]
theorem jt5(x0:Option (HL [aB]))(um:aM ⟨52,[],[],⟨[.v aB],[]⟩,[aB],λ_=>x0⟩):aM ⟨7,[],[],⟨[.v .bool],[]⟩,[.bool],λ_=>Pw.jja x0⟩:=
 cOf aN aO (jt4 x0) ⟨7,[],[],⟨[.v .bool],[]⟩,[.bool],λ_=>Pw.jja x0⟩ Tryz.func7 (ja um (ja Ka (ja Zt (ja Zu (ja Zv (ja Zw (ja Zx e))))))) e
theorem jri:aM Zr:=jt5 Pw.jfL jmj
def PI:Con:=⟨8,[.v (.list iT)],[(.list iT)],⟨[.box [(.list iT),iT]],[]⟩,[(.list iT),iT],λh=>Pw.jnR h⟩
def juJ:FnD where
 N:=6
 np:=1
theorem jt6:aM PI:=
 cOf aN aO juJ PI Tryz.func8 e e
def oY:Con:=⟨12,[.ref [(.list iT),iT],.v iT],[(.list iT),iT,iT],⟨[.v iT],[.ref [(.list iT),iT]]⟩,[iT,(.list iT),iT],Pw.unc3 Pw.j06⟩
def jmx:FnD where
 N:=45
 np:=2
theorem qM:aM oY:=
 cOf aN aO jmx oY Tryz.func12 e e
def tH:Con:=⟨58,[.ref [(.list iT),iT],.v (.list iT)],[(.list iT),iT,(.list iT)],⟨[.v iT],[.ref [(.list iT),iT]]⟩,[iT,(.list iT),iT],Pw.unc3 Pw.j0c⟩
def jmy:FnD where
 N:=12
 np:=2
 cs:=[oY]
theorem xo:aM tH:=
 cOf aN aO jmy tH Tryz.func58 (ja qM e) e
def QS:Con:=⟨114,[.ref [(.list iT),iT],.v .str],[(.list iT),iT,.str],⟨[.v bk],[.ref [(.list iT),iT]]⟩,[bk,(.list iT),iT],Pw.unc3 Pw.jaX⟩
def jmz:FnD where
 N:=98
 np:=2
 cs:=[oY,tH]
 dw:=[(7,[[],[],[0],[],[],[0],[],[0],[],[],[],[],[0],[],[],[],[],[],[],[0],[],[],[3968],[0,3968],[],[0],[],[0],[],[],[],[],[4608],[],[320]]),(9,[[],[],[],[5056],[0,5056],[],[]])]
theorem jlB:aM QS:=
 cOf aN aO jmz QS Tryz.func114 (ja qM (ja xo e)) e
def Kq:Con:=⟨55,[],[],⟨[.own 9 (.list .str)],[]⟩,[(.list .str)],λh=>Pw.jfe⟩
def jt7:FnD where
 N:=2
 np:=0
 ro:=[j]
theorem ZV:aM Kq:=
 cOf aN aO jt7 Kq Tryz.func55 e e
def CC:Con:=⟨44,[.ref [(.list iT),iT],.v iT],[(.list iT),iT,iT],⟨[.v .bool],[.ref [(.list iT),iT]]⟩,[.bool,(.list iT),iT],Pw.unc3 Pw.j1i⟩
def jmA:FnD where
 N:=11
 np:=2
 cs:=[oY]
theorem Kr:aM CC:=
 cOf aN aO jmA CC Tryz.func44 (ja qM e) e
end Go.Proofs.Pk
