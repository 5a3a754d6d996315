/- cb: each given function is its plain function, printed by a program. -/
import Derived.Test.YtmccfdihkphfaaaGreatRECon8
open _root_ renaming trivial->e
open Bool renaming false->i
noncomputable section
open Go Go.Lft
set_option linter.unusedVariables false
set_option maxRecDepth 100000
namespace Go.Proofs.Pk
def J2:Con:=⟨63,[.v aB,.v iT,.v iT,.v iT],[aB,iT,iT,iT],⟨[.v iT],[]⟩,[iT],Pw.unc4 Pw.jd3⟩
def juY:FnD where
 N:=28
 np:=4
 cs:=[FT,FQ]
theorem Zo:aM J2:=
 cOf aN aO juY J2 Tryz.func63 (ja PB (ja Pp e)) e
def JU:Con:=⟨144,[.v bk,.v bD],[bk,bD],⟨[.v iT],[]⟩,[iT],Pw.unc2 Pw.jd4⟩
def juZ:FnD where
 N:=58
 np:=2
 cs:=[Kw]
theorem Zh:aM JU:=
 cOf aN aO juZ JU Tryz.func144 (ja Z2 e) e
def JZ:Con:=⟨147,[.v iT],[iT],⟨[.v .bool],[]⟩,[.bool],λh=>Pw.jfg h⟩
def jv0:FnD where
 N:=5
 np:=1
 cs:=[xn]
theorem Zl:aM JZ:=
 cOf aN aO jv0 JZ Tryz.func147 (ja CA e) e
def Kx:Con:=⟨83,[.v bk,.v aT],[bk,aT],⟨[.v iT,.v iT],[]⟩,[iT,iT],Pw.unc2 Pw.j5h⟩
def jv1:FnD where
 N:=76
 np:=2
 cs:=[xn,xm,JZ]
 ds:=[⟨0,[sB 128 0,sB 192 0,sO 1000000,sI,.b (.cell [.d .str,.d iT,.d bP] i),.b (.cell [.d iT,.d iT] i),.b (.lst 201 aT i)],[iT,.str,iT,bP,iT,iT,af],[⟨.ret,[sI,sI],[iT,iT]⟩,⟨.exit 0,[],[]⟩],Pw.unc7 (Pw.j4w)⟩]
 keep:=[(0,⟨[2,3,6,8],[128,192],[⟨1000000,201,aT,[.slot 6],i⟩],[]⟩)]
 keepX:=[(0,.ret,⟨[4,5],[],[],[]⟩)]
theorem Z3:aM Kx:=
 cOf aN aO jv1 Kx Tryz.func83 (ja CA (ja Cz (ja Zl e))) (ja (λh=>by kernel_rfl) e)
def Ri:Con:=⟨317,[.v bk,.v af,.v iT],[bk,af,iT],⟨[.v iT],[]⟩,[iT],Pw.unc3 Pw.jid⟩
def jti:FnD where
 N:=32
 np:=3
 ds:=[⟨0,[sD af,sI,sI,sI],[af,iT,iT,iT],[⟨.exit 0,[sI],[iT]⟩],Pw.unc4 (Pw.j5i)⟩]
 keep:=[(0,⟨[1,2,7,8],[],[],[]⟩)]
 keepX:=[(0,.exit 0,⟨[7],[],[],[]⟩)]
theorem jro:aM Ri:=
 cOf aN aO jti Ri Tryz.func317 e (ja (λh=>by kernel_rfl) e)
def Rj:Con:=⟨275,[.v bk,.v iT],[bk,iT],⟨[.v iT,.v iT],[]⟩,[iT,iT],Pw.unc2 Pw.jby⟩
def jpa:FnD where
 N:=22
 np:=2
 cs:=[xn,xm,Ri]
theorem jol:aM Rj:=
 cOf aN aO jpa Rj Tryz.func275 (ja CA (ja Cz (ja jro e))) e
def Rk:Con:=⟨276,[.v iT,.v iT],[iT,iT],⟨[.v aT],[]⟩,[aT],Pw.unc2 Pw.jkj⟩
def jv2:FnD where
 N:=16
 np:=2
theorem jtj:aM Rk:=
 cOf aN aO jv2 Rk Tryz.func276 e e
def F6:Con:=⟨230,[.v bk,.v iT],[bk,iT],⟨[.v aT,.v iT],[]⟩,[aT,iT],Pw.unc2 Pw.j43⟩
def jrp:FnD where
 N:=21
 np:=2
 cs:=[Rj,Rk]
theorem Rl:aM F6:=
 cOf aN aO jrp F6 Tryz.func230 (ja jol (ja jtj e)) e
def JV:Con:=⟨145,[.v bk,.v bD,.v iT],[bk,bD,iT],⟨[.v iT,.v .bool],[]⟩,[iT,.bool],Pw.unc3 Pw.j7x⟩
def jpb:FnD where
 N:=66
 np:=3
 cs:=[Kx]
theorem Zi:aM JV:=
 cOf aN aO jpb JV Tryz.func145 (ja Z3 e) e
def JW:Con:=⟨296,[.v bk,.v bD,.v iT],[bk,bD,iT],⟨[.v iT],[]⟩,[iT],Pw.unc3 Pw.jd6⟩
def jv3:FnD where
 N:=81
 np:=3
 cs:=[Kx,F6,JV]
 ds:=[⟨0,[sI,sB 192 0,sB 256 0,sI,.b (.cell [.d .str,.d iT,.d bP] i),.b (.cell [.d .str,.d iT,.d iT,.d iT,.d iT,.d iT,.d (.list iT),.d af,.d iT,.d iT] i)],[iT,iT,.str,iT,bP,.str,iT,iT,iT,iT,iT,(.list iT),af,iT,iT],[⟨.exit 0,[sI],[iT]⟩],Pw.u8 Pw.unc7 (Pw.j5Z)⟩]
 keep:=[(0,⟨[2,3,4,7],[192,256],[],[]⟩)]
 keepX:=[(0,.exit 0,⟨[7],[],[],[]⟩)]
theorem Zj:aM JW:=
 cOf aN aO jv3 JW Tryz.func296 (ja Z3 (ja Rl (ja Zi e))) (ja (λh=>by kernel_rfl) e)
def Rm:Con:=⟨295,[.v bk,.v bD,.v iT],[bk,bD,iT],⟨[.v iT,.v iT],[]⟩,[iT,iT],Pw.unc3 Pw.jho⟩
def jv4:FnD where
 N:=22
 np:=3
 cs:=[JU,JW]
theorem jtk:aM Rm:=
 cOf aN aO jv4 Rm Tryz.func295 (ja Zh (ja Zj e)) e
def JX:Con:=⟨228,[.v aT],[aT],⟨[.v iT],[]⟩,[iT],λh=>Pw.j7U h⟩
def jtl:FnD where
 N:=10
 np:=1
 cs:=[Kv]
theorem Zk:aM JX:=
 cOf aN aO jtl JX Tryz.func228 (ja Z1 e) e
def Rn:Con:=⟨160,[.v bk,.v iT],[bk,iT],⟨[.v iT,.v iT],[]⟩,[iT,iT],Pw.unc2 Pw.jcG⟩
def jtm:FnD where
 N:=19
 np:=2
 cs:=[F6,JX]
theorem jrq:aM Rn:=
 cOf aN aO jtm Rn Tryz.func160 (ja Rl (ja Zk e)) e
def Ro:Con:=⟨161,[.v af,.v iT],[af,iT],⟨[.v .bool],[]⟩,[.bool],Pw.unc2 Pw.jie⟩
def jtn:FnD where
 N:=28
 np:=2
 ds:=[⟨0,[sD af,sI,sI],[af,iT,iT],[⟨.ret,[sD .bool],[.bool]⟩,⟨.exit 0,[],[]⟩],Pw.unc3 (Pw.j5j)⟩]
 keep:=[(0,⟨[0,1,5],[],[],[]⟩)]
 keepX:=[(0,.ret,⟨[4],[],[],[]⟩)]
theorem jrr:aM Ro:=
 cOf aN aO jtn Ro Tryz.func161 e (ja (λh=>by kernel_rfl) e)
def Rp:Con:=⟨106,[.v bk,.v af,.v iT],[bk,af,iT],⟨[.v .bool],[]⟩,[.bool],Pw.unc3 Pw.jsB⟩
def jBK:FnD where
 N:=27
 np:=3
 cs:=[Cy,Rn,Ro]
theorem jzH:aM Rp:=
 cOf aN aO jBK Rp Tryz.func106 (ja JY (ja jrq (ja jrr e))) e
def Rq:Con:=⟨242,[.v aB,.v bD,.v iT],[aB,bD,iT],⟨[.v iT,.v .bool],[]⟩,[iT,.bool],Pw.unc3 Pw.jkk⟩
def jxB:FnD where
 N:=94
 np:=3
 cs:=[F6,Rm,Rp]
 ds:=[⟨0,[sB 256 0,sI,sB 704 0,sB 768 0,sD .bool,sI,.b (.cell [.d .str,.d iT,.d iT,.d iT,.d iT,.d iT,.d (.list iT),.d af,.d iT,.d iT] i),.b (.cell [.d .str,.d iT,.d (.list iT)] i),.b (.cell [.d iT,.d iT] i)],[iT,.bool,iT,.str,iT,iT,iT,iT,iT,(.list iT),af,iT,iT,.str,iT,(.list iT),iT,iT],[⟨.exit 0,[sB 256 0,sI,sD .bool,.b (.cell [.d .str,.d iT,.d iT,.d iT,.d iT,.d iT,.d (.list iT),.d af,.d iT,.d iT] i)],[iT,.bool,.str,iT,iT,iT,iT,iT,(.list iT),af,iT,iT]⟩],Pw.u8 (Pw.u8 Pw.unc2) (Pw.j6G)⟩]
 keep:=[(0,⟨[4,9,11,12,14,15],[256,704,768],[],[]⟩)]
 keepX:=[(0,.exit 0,⟨[4,9,14],[256],[],[]⟩)]
theorem jv5:aM Rq:=
 cOf aN aO jxB Rq Tryz.func242 (ja Rl (ja jtk (ja jzH e))) (ja (λh=>by kernel_rfl) e)
def Rr:Con:=⟨180,[.v aB,.v bD,.v iT],[aB,bD,iT],⟨[.v iT],[]⟩,[iT],Pw.unc3 Pw.jnT⟩
def jzI:FnD where
 N:=27
 np:=3
 cs:=[Rq]
theorem jxC:aM Rr:=
 cOf aN aO jzI Rr Tryz.func180 (ja jv5 e) e
def Rs:Con:=⟨181,[.v cB,.v iT,.v iT],[cB,iT,iT],⟨[.v .bool],[]⟩,[.bool],Pw.unc3 Pw.jmZ⟩
def jxD:FnD where
 N:=42
 np:=3
 ds:=[⟨0,[sI,sI,sB 192 0,sI,.b (.cell [.d .str,.d bC,.d bt] i)],[iT,iT,iT,.str,bC,bt],[⟨.ret,[sD .bool],[.bool]⟩,⟨.exit 0,[],[]⟩],Pw.unc6 (Pw.j6H)⟩]
 keep:=[(0,⟨[1,2,3,7],[192],[],[]⟩)]
 keepX:=[(0,.ret,⟨[6],[],[],[]⟩)]
theorem jv6:aM Rs:=
 cOf aN aO jxD Rs Tryz.func181 e (ja (λh=>by kernel_rfl) e)
def Pl:Con:=⟨123,[.v aB,.v iT,.v iT],[aB,iT,iT],⟨[.v iT,.v iT],[]⟩,[iT,iT],Pw.unc3 Pw.jlq⟩
def jzJ:FnD where
 N:=43
 np:=3
 cs:=[Rr,Rs]
 ds:=[⟨0,[sI,sB 192 0,sB 512 0,sI,.b (.cell [.d au,.d ax,.d aw,.d aA] i),.b (.cell [.d .str,.d bC,.d bt] i)],[iT,iT,au,ax,aw,aA,.str,bC,bt],[⟨.ret,[sI,sI],[iT,iT]⟩,⟨.exit 0,[],[]⟩],Pw.unc9 (Pw.j7z)⟩]
 keep:=[(0,⟨[2,3,8,9],[192,512],[],[]⟩)]
 keepX:=[(0,.ret,⟨[6,7],[],[],[]⟩)]
theorem jxE:aM Pl:=
 cOf aN aO jzJ Pl Tryz.func123 (ja jxC (ja jv6 e)) (ja (λh=>by kernel_rfl) e)
def Pm:Con:=⟨124,[.v bt,.v iT,.v iT],[bt,iT,iT],⟨[.v iT],[]⟩,[iT],Pw.unc3 Pw.jn0⟩
def jxF:FnD where
 N:=61
 np:=3
 ds:=[⟨0,[sD bt,sI,sI,sI],[bt,iT,iT,iT],[⟨.exit 0,[sI],[iT]⟩],Pw.unc4 (Pw.j6I)⟩]
 keep:=[(0,⟨[0,1,2,7],[],[],[]⟩)]
 keepX:=[(0,.exit 0,⟨[1],[],[],[]⟩)]
theorem jv7:aM Pm:=
 cOf aN aO jxF Pm Tryz.func124 e (ja (λh=>by kernel_rfl) e)
end Go.Proofs.Pk
