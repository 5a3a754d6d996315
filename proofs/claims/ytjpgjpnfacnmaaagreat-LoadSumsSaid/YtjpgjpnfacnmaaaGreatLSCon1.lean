/- cp: each given function is its plain function, printed by a program. -/
import Derived.Test.YtjpgjpnfacnmaaaGreatLSCon0
noncomputable section
open Go Go.Lft
set_option linter.unusedVariables false
set_option maxRecDepth 100000
namespace Go.Proofs.Pk
def NU:Con:=⟨39,[.ref [(.list iT),iT],.v aY,.v .str],[(.list iT),iT,aY,.str],⟨[.v bN],[.ref [(.list iT),iT]]⟩,[bN,(.list iT),iT],Pw.unc4 Pw.j8Z⟩
def jkv:FnD where
 N:=77
 np:=3
 cs:=[pO,xd,B5,Fx]
 ds:=[⟨0,[sB 0 0,sB 256 0,sB 384 0,sB 448 0,sI,.b (.cell [.d (.list iT),.d iT] false),.b (.cell [.d ax,.d az,.d ay,.d aG] false),.b (.cell [.d .str,.d iT,.d iT,.d iT,.d iT,.d iT,.nil,.nil,.d iT,.d iT] false),.b (.cell [.d .str,.d iT,.d iT,.d iT,.d iT,.d iT,.ol 1000000,.nil,.d iT,.d iT] false),.b (.lst 3 iT false)],[iT,(.list iT),iT,ax,az,ay,aG,.str,iT,iT,iT,iT,iT,iT,iT,.str,iT,iT,iT,iT,iT,iT,iT,(.list iT)],[⟨.exit 0,[sB 0 0,sB 256 0,sB 384 0,sB 448 0,.b (.cell [.d (.list iT),.d iT] false),.b (.cell [.d ax,.d az,.d ay,.d aG] false),.b (.cell [.d .str,.d iT,.d iT,.d iT,.d iT,.d iT,.nil,.nil,.d iT,.d iT] false),.b (.cell [.d .str,.d iT,.d iT,.d iT,.d iT,.d iT,.ol 1500100,.nil,.d iT,.d iT] false),.b (.lst 3 iT false)],[(.list iT),iT,ax,az,ay,aG,.str,iT,iT,iT,iT,iT,iT,iT,.str,iT,iT,iT,iT,iT,iT,iT,(.list iT)]⟩],Pw.u8 (Pw.u8 Pw.unc8) (Pw.j2k)⟩]
 keep:=[(0,⟨[0,4,6,7,8],[0,256,384,448],[⟨1000000,3,iT,[.cell 448 6],false⟩],[]⟩)]
 keepX:=[(0,.exit 0,⟨[0,4,6,7],[0,256,384,448],[⟨1500100,3,iT,[.cell 448 6],false⟩],[]⟩)]
 dw:=[(7,[[],[],[],[],[],[],[0],[3200],[3264,1000000],[],[448]])]
theorem jjG:aB NU:=
 cOf aC aF jkv NU Tryz.func39 (ja sF (ja B4 (ja I9 (ja NR trivial)))) (ja (λh=>by kernel_rfl) trivial)
def Ja:Con:=⟨13,[.ref [(.list iT),iT]],[(.list iT),iT],⟨[.v iT],[.ref [(.list iT),iT]]⟩,[iT,(.list iT),iT],Pw.unc2 Pw.j5k⟩
def jiw:FnD where
 N:=16
 np:=1
 cs:=[pO,xd,B5]
theorem Ye:aB Ja:=
 cOf aC aF jiw Ja Tryz.func13 (ja sF (ja B4 (ja I9 trivial))) trivial
def NV:Con:=⟨16,[.ref [(.list iT),iT],.v aY],[(.list iT),iT,aY],⟨[.v gV],[.ref [(.list iT),iT]]⟩,[gV,(.list iT),iT],Pw.unc3 Pw.ja9⟩
def jlj:FnD where
 N:=52
 np:=2
 cs:=[pO,xd,B5,Ja]
 dw:=[(3,[[],[],[],[1344],[0,1344],[],[],[384]]),(8,[[],[],[],[],[],[],[0],[],[],[],[],[384]])]
theorem jkw:aB NV:=
 cOf aC aF jlj NV Tryz.func16 (ja sF (ja B4 (ja I9 (ja Ye trivial)))) trivial
def NW:Con:=⟨10,[.ref [(.list iT),iT],.v iT],[(.list iT),iT,iT],⟨[.v aY],[.ref [(.list iT),iT]]⟩,[aY,(.list iT),iT],Pw.unc3 Pw.j67⟩
def jjH:FnD where
 N:=69
 np:=2
 cs:=[pO,I8,NS,NU,NV]
 ds:=[⟨0,[sB 0 0,sB 256 0,sB 320 0,sI,.b (.cell [.d (.list iT),.d iT] false),.b (.cell [.nil,.nil,.nil,.nil] false),.b (.cell [.d ax,.d az,.d ay,.ol 1000000] false),.b (.lst 52 df true)],[iT,(.list iT),iT,ax,az,ay,aG],[⟨.exit 0,[sB 256 0,sB 320 0,.b (.cell [.d (.list iT),.d iT] false),.b (.cell [.nil,.nil,.nil,.nil] false),.b (.cell [.d ax,.d az,.d ay,.ol 1500100] false),.b (.lst 52 df true)],[(.list iT),iT,ax,az,ay,aG]⟩],Pw.unc7 (Pw.j24)⟩,⟨2,[sB 0 0,sB 256 0,sB 320 0,sI,sB 448 0,sI,.b (.cell [.d (.list iT),.d iT] false),.b (.cell [.nil,.nil,.nil,.nil] false),.b (.cell [.d ax,.d az,.d ay,.ol 1002000] false),.b (.cell [.d .str,.ol 1002001,.nil] false),.b (.lst 52 df true),.b (.lst 62 bN false)],[iT,iT,(.list iT),iT,ax,az,ay,.str,aG,bC],[⟨.exit 2,[sB 0 0,sB 256 0,sB 320 0,sI,sB 448 0,.b (.cell [.d (.list iT),.d iT] false),.b (.cell [.nil,.nil,.nil,.nil] false),.b (.cell [.d ax,.d az,.d ay,.ol 1502300] false),.b (.cell [.d .str,.ol 1502301,.nil] false),.b (.lst 52 df true),.b (.lst 62 bN false)],[iT,(.list iT),iT,ax,az,ay,.str,aG,bC]⟩],Pw.u8 Pw.unc2 (Pw.j22)⟩,⟨4,[sB 0 0,sB 256 0,sB 320 0,sI,sB 448 0,sI,.b (.cell [.d (.list iT),.d iT] false),.b (.cell [.nil,.nil,.nil,.nil] false),.b (.cell [.d ax,.d az,.d ay,.ol 1004000] false),.b (.cell [.d .str,.ol 1004001,.ol 1004002] false),.b (.lst 52 df true),.b (.lst 62 bN false),.b (.lst 24 gV false)],[iT,iT,(.list iT),iT,ax,az,ay,.str,aG,bC,bu],[⟨.exit 4,[sB 0 0,sB 256 0,sB 320 0,sI,sB 448 0,.b (.cell [.d (.list iT),.d iT] false),.b (.cell [.nil,.nil,.nil,.nil] false),.b (.cell [.d ax,.d az,.d ay,.ol 1504500] false),.b (.cell [.d .str,.ol 1504501,.ol 1504502] false),.b (.lst 52 df true),.b (.lst 62 bN false),.b (.lst 24 gV false)],[iT,(.list iT),iT,ax,az,ay,.str,aG,bC,bu]⟩],Pw.u8 Pw.unc3 (Pw.j23)⟩]
 keep:=[(0,⟨[0,4,5,6],[0,256,320],[⟨1000000,52,df,[.cell 320 3],true⟩],[]⟩),(2,⟨[0,4,5,6,7,8],[0,256,320,448],[⟨1002000,52,df,[.cell 320 3],false⟩,⟨1002001,62,bN,[.cell 448 1],false⟩],[]⟩),(4,⟨[0,4,5,6,7,9],[0,256,320,448],[⟨1004000,52,df,[.cell 320 3],false⟩,⟨1004001,62,bN,[.cell 448 1],false⟩,⟨1004002,24,gV,[.cell 448 2],false⟩],[]⟩)]
 keepX:=[(0,.exit 0,⟨[4,5],[0,256,320],[⟨1500100,52,df,[.cell 320 3],false⟩],[]⟩),(2,.exit 2,⟨[0,4,5,6,7],[0,256,320,448],[⟨1502300,52,df,[.cell 320 3],false⟩,⟨1502301,62,bN,[.cell 448 1],false⟩],[]⟩),(4,.exit 4,⟨[0,4,5,6,7],[0,256,320,448],[⟨1504500,52,df,[.cell 320 3],false⟩,⟨1504501,62,bN,[.cell 448 1],false⟩,⟨1504502,24,gV,[.cell 448 2],false⟩],[]⟩)]
 dw:=[(9,[[],[],[],[],[2432],[],[],[],[],[],[0,1002000],[2880],[2944,1002000,1002001],[],[448]]),(13,[[],[],[],[],[0,1004000],[3776],[3840,1004001,1004002],[],[448]])]
theorem jix:aB NW:=
 cOf aC aF jjH NW Tryz.func10 (ja sF (ja Yd (ja jjF (ja jjG (ja jkw trivial))))) (ja (λh=>by kernel_rfl) (ja (λh=>by kernel_rfl) (ja (λh=>by kernel_rfl) trivial)))
def NX:Con:=⟨122,[.v bd],[bd],⟨[.v .str],[]⟩,[.str],λh=>Pw.jaR h⟩
def jjI:FnD where
 N:=5
 np:=1
theorem jiy:aB NX:=
 cOf aC aF jjI NX Tryz.func122 trivial trivial
def NY:Con:=⟨255,[.v (.int .u8)],[(.int .u8)],⟨[.v .bool],[]⟩,[.bool],λh=>Pw.jc2 h⟩
def jpI:FnD where
 N:=9
 np:=1
theorem jnv:aB NY:=
 cOf aC aF jpI NY Tryz.func255 trivial trivial
def NZ:Con:=⟨256,[.v (.int .u8)],[(.int .u8)],⟨[.v .bool],[]⟩,[.bool],λh=>Pw.jil h⟩
def jpJ:FnD where
 N:=9
 np:=1
theorem jnw:aB NZ:=
 cOf aC aF jpJ NZ Tryz.func256 trivial trivial
def N0:Con:=⟨189,[.v .str],[.str],⟨[.v .bool],[]⟩,[.bool],λh=>Pw.j5l h⟩
def jrO:FnD where
 N:=43
 np:=1
 cs:=[NY,NZ]
 ds:=[⟨0,[sD .str,sI,sI],[.str,iT,iT],[⟨.ret,[sD .bool],[.bool]⟩,⟨.exit 0,[],[]⟩],Pw.unc3 (Pw.j6M)⟩]
 keep:=[(0,⟨[0,19,20],[],[],[]⟩)]
 keepX:=[(0,.ret,⟨[2],[],[],[]⟩)]
theorem jpK:aB N0:=
 cOf aC aF jrO N0 Tryz.func189 (ja jnv (ja jnw trivial)) (ja (λh=>by kernel_rfl) trivial)
def zW:Con:=⟨124,[.v .str,.rl 4294967478 (.list (.pair .str .bool))],[.str,(.list (.pair .str .bool))],⟨[.v iT],[.rl (.list (.pair .str .bool))]⟩,[iT,(.list (.pair .str .bool))],Pw.unc2 Pw.j5N⟩
def jnx:FnD where
 N:=13
 np:=2
 cs:=[N0]
theorem Fy:aB zW:=
 cOf aC aF jnx zW Tryz.func124 (ja jpK trivial) trivial
def Fz:Con:=⟨239,[.v iT,.v iT,.v iT],[iT,iT,iT],⟨[.v .bool],[]⟩,[.bool],Pw.unc3 Pw.jaS⟩
def jyt:FnD where
 N:=15
 np:=3
theorem N1:aB Fz:=
 cOf aC aF jyt Fz Tryz.func239 trivial trivial
def N2:Con:=⟨279,[.v ou],[ou],⟨[.v iT],[]⟩,[iT],λh=>Pw.jgA h⟩
def jtu:FnD where
 N:=45
 np:=1
 cs:=[Fz]
theorem jrP:aB N2:=
 cOf aC aF jtu N2 Tryz.func279 (ja N1 trivial) trivial
def N3:Con:=⟨323,[.v iT],[iT],⟨[.v .bool],[]⟩,[.bool],λh=>Pw.jkp h⟩
def jrQ:FnD where
 N:=16
 np:=1
theorem jpL:aB N3:=
 cOf aC aF jrQ N3 Tryz.func323 trivial trivial
def B6:Con:=⟨293,[.v iT,.v iT],[iT,iT],⟨[.v iT],[]⟩,[iT],Pw.unc2 Pw.j7q⟩
def jrR:FnD where
 N:=24
 np:=2
 cs:=[N3]
theorem Jb:aB B6:=
 cOf aC aF jrR B6 Tryz.func293 (ja jpL trivial) trivial
def N4:Con:=⟨301,[.v aA],[aA],⟨[.v .bool],[]⟩,[.bool],λh=>Pw.jc3 h⟩
def jpM:FnD where
 N:=26
 np:=1
 cs:=[B6]
theorem jny:aB N4:=
 cOf aC aF jpM N4 Tryz.func301 (ja Jb trivial) trivial
def Jc:Con:=⟨322,[.v iT,.v iT],[iT,iT],⟨[.v iT],[]⟩,[iT],Pw.unc2 Pw.j8v⟩
def jpN:FnD where
 N:=16
 np:=2
theorem Yf:aB Jc:=
 cOf aC aF jpN Jc Tryz.func322 trivial trivial
def FA:Con:=⟨291,[.v iT],[iT],⟨[.v iT],[]⟩,[iT],λh=>Pw.j50 h⟩
def jpO:FnD where
 N:=19
 np:=1
 cs:=[Jc]
theorem N5:aB FA:=
 cOf aC aF jpO FA Tryz.func291 (ja Yf trivial) trivial
def N6:Con:=⟨302,[.v aA],[aA],⟨[.v iT],[]⟩,[iT],λh=>Pw.jd1 h⟩
def jnz:FnD where
 N:=25
 np:=1
 cs:=[B6,FA]
 ds:=[⟨0,[sB 64 0,sI,sI,.b (.cell [.d iT,.d iT,.d iT] false)],[iT,iT,iT,iT,iT],[⟨.exit 0,[sI],[iT]⟩],Pw.unc5 (Pw.j3B)⟩]
 keep:=[(0,⟨[1,3,4],[64],[],[]⟩)]
 keepX:=[(0,.exit 0,⟨[3],[],[],[]⟩)]
theorem jmE:aB N6:=
 cOf aC aF jnz N6 Tryz.func302 (ja Jb (ja N5 trivial)) (ja (λh=>by kernel_rfl) trivial)
def Jd:Con:=⟨220,[.v iT],[iT],⟨[.v iT],[]⟩,[iT],λh=>Pw.j5U h⟩
def jmF:FnD where
 N:=7
 np:=1
theorem Yg:aB Jd:=
 cOf aC aF jmF Jd Tryz.func220 trivial trivial
def N7:Con:=⟨280,[.v iT,.v iT,.v iT,.v iT],[iT,iT,iT,iT],⟨[.v iT,.v iT],[]⟩,[iT,iT],Pw.unc4 Pw.jjm⟩
def jtv:FnD where
 N:=59
 np:=4
 cs:=[B6,N4,N6,Jd]
theorem jrS:aB N7:=
 cOf aC aF jtv N7 Tryz.func280 (ja Jb (ja jny (ja jmE (ja Yg trivial)))) trivial
def N8:Con:=⟨282,[.v aJ,.v aJ],[aJ,aJ],⟨[.v iT],[]⟩,[iT],Pw.unc2 Pw.j8w⟩
def jgP:FnD where
 N:=10
 np:=2
theorem jg7:aB N8:=
 cOf aC aF jgP N8 Tryz.func282 trivial trivial
end Go.Proofs.Pk
