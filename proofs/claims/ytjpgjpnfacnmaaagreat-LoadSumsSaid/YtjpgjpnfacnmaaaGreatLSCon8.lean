/- cp: each given function is its plain function, printed by a program. -/
import Derived.Test.YtjpgjpnfacnmaaaGreatLSCon7
noncomputable section
open Go Go.Lft
set_option linter.unusedVariables false
set_option maxRecDepth 100000
namespace Go.Proofs.Pk
def Js:Con:=⟨201,[.v bd],[bd],⟨[.v iT],[]⟩,[iT],λh=>Pw.j7b h⟩
def jtJ:FnD where
 N:=11
 np:=1
 cs:=[xf]
theorem YA:aB Js:=
 cOf aC aF jtJ Js Tryz.func201 (ja B9 trivial) trivial
def P9:Con:=⟨202,[.v bd],[bd],⟨[.v .bool],[]⟩,[.bool],λh=>Pw.jcd h⟩
def jq9:FnD where
 N:=28
 np:=1
 ds:=[⟨0,[sB 64 0,sD .bool,sI,.b (.cell [.d .str,.d iT,.d bM] false)],[.bool,iT,.str,iT,bM],[⟨.exit 0,[sD .bool],[.bool]⟩],Pw.unc5 (Pw.j4h)⟩]
 keep:=[(0,⟨[1,3,4],[64],[],[]⟩)]
 keepX:=[(0,.exit 0,⟨[3],[],[],[]⟩)]
theorem jnT:aB P9:=
 cOf aC aF jq9 P9 Tryz.func202 trivial (ja (λh=>by kernel_rfl) trivial)
def Qa:Con:=⟨134,[.v aY],[aY],⟨[.v iT],[]⟩,[iT],λh=>Pw.jmz h⟩
def jtK:FnD where
 N:=44
 np:=1
 cs:=[B7,Js,P9]
 ds:=[⟨0,[sB 64 0,sO 1000000,sI,.b (.cell [.d ax,.d az,.d ay,.d aG] false),.b (.lst 9 .str false)],[iT,ax,az,ay,aG,(.list .str)],[⟨.ret,[sI],[iT]⟩,⟨.exit 0,[],[]⟩],Pw.unc6 (Pw.j5y)⟩]
 keep:=[(0,⟨[1,3,4],[64],[⟨1000000,9,.str,[.slot 3],false⟩],[]⟩)]
 keepX:=[(0,.ret,⟨[2],[],[],[]⟩)]
theorem jsf:aB Qa:=
 cOf aC aF jtK Qa Tryz.func134 (ja Jp (ja YA (ja jnT trivial))) (ja (λh=>by kernel_rfl) trivial)
def zZ:Con:=⟨203,[.v iT,.v iT,.v iT],[iT,iT,iT],⟨[.v .bool],[]⟩,[.bool],Pw.unc3 Pw.j8c⟩
def jAN:FnD where
 N:=15
 np:=3
theorem FL:aB zZ:=
 cOf aC aF jAN zZ Tryz.func203 trivial trivial
def Ca:Con:=⟨204,[.v aa],[aa],⟨[.v iT],[]⟩,[iT],λh=>Pw.jaA h⟩
def jtL:FnD where
 N:=56
 np:=1
 ds:=[⟨0,[sD aa,sI],[aa,iT],[⟨.ret,[sI],[iT]⟩,⟨.exit 0,[],[]⟩],Pw.unc2 (Pw.j5z)⟩]
 keep:=[(0,⟨[0,3],[],[],[]⟩)]
 keepX:=[(0,.ret,⟨[2],[],[],[]⟩)]
theorem Jt:aB Ca:=
 cOf aC aF jtL Ca Tryz.func204 trivial (ja (λh=>by kernel_rfl) trivial)
def Qb:Con:=⟨205,[.v iT],[iT],⟨[.v .bool],[]⟩,[.bool],λh=>Pw.jjw h⟩
def jtM:FnD where
 N:=10
 np:=1
 cs:=[zZ]
theorem jsg:aB Qb:=
 cOf aC aF jtM Qb Tryz.func205 (ja FL trivial) trivial
def Qc:Con:=⟨135,[.v aY],[aY],⟨[.v iT],[]⟩,[iT],λh=>Pw.jks h⟩
def jsh:FnD where
 N:=58
 np:=1
 cs:=[B7,zZ,Ca,Qb]
 ds:=[⟨0,[sB 64 0,sO 1000000,sI,.b (.cell [.d ax,.d az,.d ay,.d aG] false),.b (.lst 9 .str false)],[iT,ax,az,ay,aG,(.list .str)],[⟨.ret,[sI],[iT]⟩,⟨.exit 0,[],[]⟩],Pw.unc6 (Pw.j4N)⟩]
 keep:=[(0,⟨[1,3,4],[64],[⟨1000000,9,.str,[.slot 3],false⟩],[]⟩)]
 keepX:=[(0,.ret,⟨[2],[],[],[]⟩)]
theorem jqa:aB Qc:=
 cOf aC aF jsh Qc Tryz.func135 (ja Jp (ja FL (ja Jt (ja jsg trivial)))) (ja (λh=>by kernel_rfl) trivial)
def FM:Con:=⟨206,[],[],⟨[.v iT],[]⟩,[iT],λh=>Pw.jbU⟩
def jsi:FnD where
 N:=3
 np:=0
 cs:=[Jq]
theorem Qd:aB FM:=
 cOf aC aF jsi FM Tryz.func206 (ja Yy trivial) trivial
def Qe:Con:=⟨136,[.v aY],[aY],⟨[.v iT],[]⟩,[iT],λh=>Pw.jf5 h⟩
def jmY:FnD where
 N:=78
 np:=1
 cs:=[B7,zZ,FM]
 ds:=[⟨0,[sB 64 0,sO 1000000,sI,.b (.cell [.d ax,.d az,.d ay,.d aG] false),.b (.lst 9 .str false)],[iT,ax,az,ay,aG,(.list .str)],[⟨.ret,[sI],[iT]⟩,⟨.exit 0,[],[]⟩],Pw.unc6 (Pw.j39)⟩,⟨2,[sB 64 0,sO 1002000,sI,sB 320 0,sI,.b (.cell [.d ax,.d az,.d ay,.d aG] false),.b (.cell [.d .str,.d iT,.d (.list iT)] false),.b (.lst 9 .str false)],[iT,iT,ax,az,ay,aG,.str,iT,(.list iT),(.list .str)],[⟨.ret,[sI],[iT]⟩,⟨.exit 2,[sB 64 0,sO 1502300,sI,sB 320 0,.b (.cell [.d ax,.d az,.d ay,.d aG] false),.b (.cell [.d .str,.d iT,.d (.list iT)] false),.b (.lst 9 .str false)],[iT,ax,az,ay,aG,.str,iT,(.list iT),(.list .str)]⟩],Pw.u8 Pw.unc2 (Pw.j38)⟩,⟨4,[sB 64 0,sO 1004000,sI,sB 320 0,sI,.b (.cell [.d ax,.d az,.d ay,.d aG] false),.b (.cell [.d .str,.d iT,.d (.list iT)] false),.b (.lst 9 .str false)],[iT,iT,ax,az,ay,aG,.str,iT,(.list iT),(.list .str)],[⟨.ret,[sI],[iT]⟩,⟨.exit 4,[sB 64 0,sO 1504500,sI,.b (.cell [.d ax,.d az,.d ay,.d aG] false),.b (.lst 9 .str false)],[iT,ax,az,ay,aG,(.list .str)]⟩],Pw.u8 Pw.unc2 (Pw.j4O)⟩]
 keep:=[(0,⟨[1,3,4],[64],[⟨1000000,9,.str,[.slot 3],false⟩],[]⟩),(2,⟨[1,3,4,5,7],[64,320],[⟨1002000,9,.str,[.slot 3],false⟩],[]⟩),(4,⟨[1,3,4,5,8],[64,320],[⟨1004000,9,.str,[.slot 3],false⟩],[]⟩)]
 keepX:=[(0,.ret,⟨[2],[],[],[]⟩),(2,.ret,⟨[2],[],[],[]⟩),(2,.exit 2,⟨[1,3,4,5],[64,320],[⟨1502300,9,.str,[.slot 3],false⟩],[]⟩),(4,.ret,⟨[2],[],[],[]⟩),(4,.exit 4,⟨[1,3,4],[64],[⟨1504500,9,.str,[.slot 3],false⟩],[]⟩)]
theorem jlt:aB Qe:=
 cOf aC aF jmY Qe Tryz.func136 (ja Jp (ja FL (ja Qd trivial))) (ja (λh=>by kernel_rfl) (ja (λh=>by kernel_rfl) (ja (λh=>by kernel_rfl) trivial)))
def Qf:Con:=⟨207,[.v aY,.v bN],[aY,bN],⟨[.v iT],[]⟩,[iT],Pw.unc2 Pw.jgG⟩
def jtN:FnD where
 N:=102
 np:=2
 cs:=[zZ,Ca,FM]
 ds:=[⟨1,[sB 128 0,sB 192 0,sI,.b (.cell [.d ax,.d az,.d ay,.d aG] false),.b (.cell [.d .str,.d iT,.d iT,.d iT,.d iT,.d iT,.d (.list iT),.d aa,.d iT,.d iT] false)],[iT,ax,az,ay,aG,.str,iT,iT,iT,iT,iT,(.list iT),aa,iT,iT],[⟨.ret,[sI],[iT]⟩,⟨.exit 1,[sB 128 0,sB 192 0,.b (.cell [.d ax,.d az,.d ay,.d aG] false),.b (.cell [.d .str,.d iT,.d iT,.d iT,.d iT,.d iT,.d (.list iT),.d aa,.d iT,.d iT] false)],[ax,az,ay,aG,.str,iT,iT,iT,iT,iT,(.list iT),aa,iT,iT]⟩],Pw.u8 Pw.unc7 (Pw.j5A)⟩]
 keep:=[(1,⟨[2,3,5],[128,192],[],[]⟩)]
 keepX:=[(1,.ret,⟨[4],[],[],[]⟩),(1,.exit 1,⟨[2,3],[128,192],[],[]⟩)]
theorem jsj:aB Qf:=
 cOf aC aF jtN Qf Tryz.func207 (ja FL (ja Jt (ja Qd trivial))) (ja (λh=>by kernel_rfl) trivial)
def Qg:Con:=⟨208,[.v aY,.v gV],[aY,gV],⟨[.v iT],[]⟩,[iT],Pw.unc2 Pw.jjx⟩
def jwG:FnD where
 N:=86
 np:=2
 cs:=[zZ,FM]
theorem jtO:aB Qg:=
 cOf aC aF jwG Qg Tryz.func208 (ja FL (ja Qd trivial)) trivial
def Qh:Con:=⟨137,[.v aY],[aY],⟨[.v iT],[]⟩,[iT],λh=>Pw.jf6 h⟩
def jmZ:FnD where
 N:=95
 np:=1
 cs:=[B7,Qf,Qg]
 ds:=[⟨0,[sB 64 0,sO 1000000,sI,.b (.cell [.d ax,.d az,.d ay,.d aG] false),.b (.lst 9 .str false)],[iT,ax,az,ay,aG,(.list .str)],[⟨.ret,[sI],[iT]⟩,⟨.exit 0,[],[]⟩],Pw.unc6 (Pw.j3c)⟩,⟨2,[sB 64 0,sO 1002000,sI,sB 320 0,sO 1002001,sI,.b (.cell [.d ax,.d az,.d ay,.d aG] false),.b (.cell [.d .str,.d bC,.d bu] false),.b (.lst 9 .str false),.b (.lst 9 .str false)],[iT,iT,ax,az,ay,aG,.str,bC,bu,(.list .str),(.list .str)],[⟨.ret,[sI],[iT]⟩,⟨.exit 2,[sB 64 0,sO 1502300,sI,sB 320 0,.b (.cell [.d ax,.d az,.d ay,.d aG] false),.b (.cell [.d .str,.d bC,.d bu] false),.b (.lst 9 .str false)],[iT,ax,az,ay,aG,.str,bC,bu,(.list .str)]⟩],Pw.u8 Pw.unc3 (Pw.j3a)⟩,⟨4,[sB 64 0,sO 1004000,sI,sB 320 0,sI,.b (.cell [.d ax,.d az,.d ay,.d aG] false),.b (.cell [.d .str,.d bC,.d bu] false),.b (.lst 9 .str false)],[iT,iT,ax,az,ay,aG,.str,bC,bu,(.list .str)],[⟨.ret,[sI],[iT]⟩,⟨.exit 4,[sB 64 0,sO 1504500,sI,.b (.cell [.d ax,.d az,.d ay,.d aG] false),.b (.lst 9 .str false)],[iT,ax,az,ay,aG,(.list .str)]⟩],Pw.u8 Pw.unc2 (Pw.j3b)⟩]
 keep:=[(0,⟨[1,3,4],[64],[⟨1000000,9,.str,[.slot 3],false⟩],[]⟩),(2,⟨[1,3,4,5,7,8],[64,320],[⟨1002000,9,.str,[.slot 3],false⟩,⟨1002001,9,.str,[.slot 7],false⟩],[]⟩),(4,⟨[1,3,4,5,11],[64,320],[⟨1004000,9,.str,[.slot 3],false⟩],[]⟩)]
 keepX:=[(0,.ret,⟨[2],[],[],[]⟩),(2,.ret,⟨[2],[],[],[]⟩),(2,.exit 2,⟨[1,3,4,5],[64,320],[⟨1502300,9,.str,[.slot 3],false⟩],[]⟩),(4,.ret,⟨[2],[],[],[]⟩),(4,.exit 4,⟨[1,3,4],[64],[⟨1504500,9,.str,[.slot 3],false⟩],[]⟩)]
theorem jlu:aB Qh:=
 cOf aC aF jmZ Qh Tryz.func137 (ja Jp (ja jsj (ja jtO trivial))) (ja (λh=>by kernel_rfl) (ja (λh=>by kernel_rfl) (ja (λh=>by kernel_rfl) trivial)))
def Qi:Con:=⟨70,[.v aY],[aY],⟨[.v iT],[]⟩,[iT],λh=>Pw.jgH h⟩
def jtP:FnD where
 N:=45
 np:=1
 cs:=[Qa,Qc,Qe,Qh]
theorem jsk:aB Qi:=
 cOf aC aF jtP Qi Tryz.func70 (ja jsf (ja jqa (ja jlt (ja jlu trivial)))) trivial
def FN:Con:=⟨97,[.v iT,.v iT],[iT,iT],⟨[.v .bool],[]⟩,[.bool],Pw.unc2 Pw.j8d⟩
def jtQ:FnD where
 N:=26
 np:=2
theorem Qj:aB FN:=
 cOf aC aF jtQ FN Tryz.func97 trivial trivial
def Oi:Con:=⟨172,[.v aY,.v iT,.v iT,.v iT],[aY,iT,iT,iT],⟨[.v iT],[]⟩,[iT],Pw.unc4 Pw.jjy⟩
def jtR:FnD where
 N:=28
 np:=4
 cs:=[Qi,FN]
theorem jsl:aB Oi:=
 cOf aC aF jtR Oi Tryz.func172 (ja jsk (ja Qj trivial)) trivial
def Ju:Con:=⟨215,[.v bd,.v bN],[bd,bN],⟨[.v iT],[]⟩,[iT],Pw.unc2 Pw.jcj⟩
def jtS:FnD where
 N:=58
 np:=2
 cs:=[Js]
theorem YB:aB Ju:=
 cOf aC aF jtS Ju Tryz.func215 (ja YA trivial) trivial
def Jv:Con:=⟨218,[.v iT],[iT],⟨[.v .bool],[]⟩,[.bool],λh=>Pw.jeq h⟩
def jtT:FnD where
 N:=5
 np:=1
 cs:=[xe]
theorem YC:aB Jv:=
 cOf aC aF jtT Jv Tryz.func218 (ja B8 trivial) trivial
def Jw:Con:=⟨142,[.v bd,.v aJ],[bd,aJ],⟨[.v iT,.v iT],[]⟩,[iT,iT],Pw.unc2 Pw.j4Q⟩
def jtU:FnD where
 N:=76
 np:=2
 cs:=[xe,xf,Jv]
 ds:=[⟨0,[sB 128 0,sB 192 0,sO 1000000,sI,.b (.cell [.d .str,.d iT,.d bM] false),.b (.cell [.d iT,.d iT] false),.b (.lst 216 aJ false)],[iT,.str,iT,bM,iT,iT,aa],[⟨.ret,[sI,sI],[iT,iT]⟩,⟨.exit 0,[],[]⟩],Pw.unc7 (Pw.j3Y)⟩]
 keep:=[(0,⟨[2,3,6,8],[128,192],[⟨1000000,216,aJ,[.slot 6],false⟩],[]⟩)]
 keepX:=[(0,.ret,⟨[4,5],[],[],[]⟩)]
theorem YD:aB Jw:=
 cOf aC aF jtU Jw Tryz.func142 (ja B8 (ja B9 (ja YC trivial))) (ja (λh=>by kernel_rfl) trivial)
def Qk:Con:=⟨295,[.v bd,.v aa,.v iT],[bd,aa,iT],⟨[.v iT],[]⟩,[iT],Pw.unc3 Pw.jhw⟩
def jsm:FnD where
 N:=32
 np:=3
 ds:=[⟨0,[sD aa,sI,sI,sI],[aa,iT,iT,iT],[⟨.exit 0,[sI],[iT]⟩],Pw.unc4 (Pw.j4R)⟩]
 keep:=[(0,⟨[1,2,7,8],[],[],[]⟩)]
 keepX:=[(0,.exit 0,⟨[7],[],[],[]⟩)]
theorem jqb:aB Qk:=
 cOf aC aF jsm Qk Tryz.func295 trivial (ja (λh=>by kernel_rfl) trivial)
def Ql:Con:=⟨267,[.v bd,.v iT],[bd,iT],⟨[.v iT,.v iT],[]⟩,[iT,iT],Pw.unc2 Pw.jaC⟩
def jnU:FnD where
 N:=22
 np:=2
 cs:=[xe,xf,Qk]
theorem jn0:aB Ql:=
 cOf aC aF jnU Ql Tryz.func267 (ja B8 (ja B9 (ja jqb trivial))) trivial
end Go.Proofs.Pk
