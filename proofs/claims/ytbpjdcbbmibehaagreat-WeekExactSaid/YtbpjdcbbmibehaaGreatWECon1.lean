/- dv: each given function is its plain function, printed by a program. -/
import Derived.Test.YtbpjdcbbmibehaaGreatWECon0
noncomputable section
open Go Go.Lft
set_option linter.unusedVariables false
set_option maxRecDepth 100000
namespace Go.Proofs.Pk
def Ei:Con:=⟨282,[.v iT,.ip [iT,aa],.ip [iT]],[iT,iT,aa,iT],⟨[.v .bool],[]⟩,[.bool],Pw.unc4 Pw.j3x⟩
def Ro:FnD where
 N:=13
 np:=3
 cs:=[]
 ds:=[]
 ro:=[false]
theorem Rp:Con.OK Tryz.prog Ei:=
 cOf aW aX Ro Ei Tryz.func282 trivial trivial
def Ej:Con:=⟨281,[.v iT,.clo 282 [.p [iT,aa],.p [iT]]],[iT,iT,aa,iT],⟨[.v iT],[]⟩,[iT],Pw.unc4 Pw.j4k⟩
def Rq:FnD where
 N:=26
 np:=2
 cs:=[Ei]
 ds:=[⟨0,[.s (.one (.clo 282 [.p [iT,aa],.p [iT]])),sI,sI],[iT,aa,iT,iT,iT],[⟨.exit 0,[sI],[iT]⟩],Pw.unc5 (Pw.j1o)⟩]
 modes:=[(282,[false])]
 keep:=[(0,⟨[1,5,6],[],[],[]⟩)]
 keepX:=[(0,.exit 0,⟨[5],[],[],[]⟩)]
 ro:=[false]
theorem Rr:Con.OK Tryz.prog Ej:=
 cOf aW aX Rq Ej Tryz.func281 (ja Rp trivial) (ja (λh=>by kernel_rfl) trivial)
def Ah:Con:=⟨202,[.v dG,.v iT],[dG,iT],⟨[.v iT],[]⟩,[iT],Pw.unc2 Pw.j1k⟩
def Rs:FnD where
 N:=10
 np:=2
 cs:=[Ej]
 ds:=[]
 modes:=[(281,[false,false])]
 ro:=[false]
theorem JX:Con.OK Tryz.prog Ah:=
 cOf aW aX Rs Ah Tryz.func202 (ja Rr trivial) trivial
def Aj:Con:=⟨203,[.v dG,.v iT],[dG,iT],⟨[.v iT],[]⟩,[iT],Pw.unc2 Pw.j1P⟩
def Rt:FnD where
 N:=16
 np:=2
 cs:=[]
 ds:=[]
 ro:=[false]
theorem JY:Con.OK Tryz.prog Aj:=
 cOf aW aX Rt Aj Tryz.func203 trivial trivial
def Ek:Con:=⟨215,[.v dG,.v iT],[dG,iT],⟨[.v iT],[]⟩,[iT],Pw.unc2 Pw.j1p⟩
def Ru:FnD where
 N:=10
 np:=2
 cs:=[Ah,Aj]
 ds:=[]
 modes:=[(202,[false,false]),(203,[false,false])]
 ro:=[false]
theorem Rv:Con.OK Tryz.prog Ek:=
 cOf aW aX Ru Ek Tryz.func215 (ja JX (ja JY trivial)) trivial
def El:Con:=⟨214,[.v iT],[iT],⟨[.v aA],[]⟩,[aA],λh=>Pw.j8g h⟩
def Rw:FnD where
 N:=17
 np:=1
 cs:=[]
 ds:=[]
 ro:=[false]
theorem Rx:Con.OK Tryz.prog El:=
 cOf aW aX Rw El Tryz.func214 trivial trivial
def Em:Con:=⟨146,[.v dG,.v iT],[dG,iT],⟨[.v aA],[]⟩,[aA],Pw.unc2 Pw.j1E⟩
def Ry:FnD where
 N:=11
 np:=2
 cs:=[Ek,El]
 ds:=[]
 modes:=[(214,[false]),(215,[false,false])]
 ro:=[false]
theorem Rz:Con.OK Tryz.prog Em:=
 cOf aW aX Ry Em Tryz.func146 (ja Rv (ja Rx trivial)) trivial
def En:Con:=⟨125,[.v bz,.v iT],[bz,iT],⟨[.v aA,.v iT],[]⟩,[aA,iT],Pw.unc2 Pw.j1Z⟩
def RA:FnD where
 N:=21
 np:=2
 cs:=[Eh,Em]
 ds:=[]
 modes:=[(146,[false,false]),(187,[false,false])]
 ro:=[false,false]
theorem RB:Con.OK Tryz.prog En:=
 cOf aW aX RA En Tryz.func125 (ja Rn (ja Rz trivial)) trivial
def Eo:Con:=⟨126,[.v aA],[aA],⟨[.v iT],[]⟩,[iT],λh=>Pw.j6T h⟩
def RC:FnD where
 N:=10
 np:=1
 cs:=[Af]
 ds:=[]
 modes:=[(188,[false])]
 ro:=[false]
theorem RD:Con.OK Tryz.prog Eo:=
 cOf aW aX RC Eo Tryz.func126 (ja JV trivial) trivial
def xu:Con:=⟨57,[.v bz,.v iT],[bz,iT],⟨[.v iT,.v iT],[]⟩,[iT,iT],Pw.unc2 Pw.j1F⟩
def RE:FnD where
 N:=19
 np:=2
 cs:=[En,Eo]
 ds:=[]
 modes:=[(125,[false,false]),(126,[false])]
 ro:=[false,false]
theorem Ep:Con.OK Tryz.prog xu:=
 cOf aW aX RE xu Tryz.func57 (ja RB (ja RD trivial)) trivial
def Er:Con:=⟨129,[.v aa,.v iT],[aa,iT],⟨[.v .bool],[]⟩,[.bool],Pw.unc2 Pw.j6U⟩
def RF:FnD where
 N:=24
 np:=2
 cs:=[]
 ds:=[⟨0,[sI,.s (.one (.d aa)),sI,sI],[iT,aa,iT,iT],[⟨.ret,[.s (.one (.d .bool))],[.bool]⟩,⟨.exit 0,[],[]⟩],Pw.unc4 (Pw.j2G)⟩]
 keep:=[(0,⟨[1,7,8,9],[],[],[]⟩)]
 keepX:=[(0,.ret,⟨[4],[],[],[]⟩),
  (0,.exit 0,⟨[],[],[],[]⟩)]
 ro:=[false]
theorem RG:Con.OK Tryz.prog Er:=
 cOf aW aX RF Er Tryz.func129 trivial (ja (λh=>by kernel_rfl) trivial)
def Ak:Con:=⟨59,[.v bz,.v aa,.v iT],[bz,aa,iT],⟨[.v .bool],[]⟩,[.bool],Pw.unc3 Pw.j6V⟩
def RH:FnD where
 N:=27
 np:=3
 cs:=[sG,xu,Er]
 ds:=[]
 modes:=[(52,[false]),(57,[false,false]),(129,[false,false])]
 ro:=[false]
theorem JZ:Con.OK Tryz.prog Ak:=
 cOf aW aX RH Ak Tryz.func59 (ja xr (ja Ep (ja RG trivial))) trivial
def Es:Con:=⟨47,[],[],⟨[.v .bool],[]⟩,[.bool],λh=>Pw.j3D⟩
def RI:FnD where
 N:=52
 np:=0
 cs:=[Ad,xu,Ak]
 ds:=[]
 modes:=[(50,[false]),(57,[false,false]),(59,[false,false,false])]
 ro:=[false]
theorem RJ:Con.OK Tryz.prog Es:=
 cOf aW aX RI Es Tryz.func47 (ja JU (ja Ep (ja JZ trivial))) trivial
def Et:Con:=⟨10,[.v (.list iT)],[(.list iT)],⟨[.v .bool],[]⟩,[.bool],λh=>Pw.ja9 h⟩
def RK:FnD where
 N:=6
 np:=1
 cs:=[]
 ds:=[]
 ro:=[false]
theorem RM:Con.OK Tryz.prog Et:=
 cOf aW aX RK Et Tryz.func10 trivial trivial
def Eu:Con:=⟨12,[.v (.list iT)],[(.list iT)],⟨[.box [(.list iT),iT]],[]⟩,[(.list iT),iT],λh=>Pw.jbP h⟩
def RN:FnD where
 N:=6
 np:=1
 cs:=[]
 ds:=[]
 ro:=[false]
theorem RO:Con.OK Tryz.prog Eu:=
 cOf aW aX RN Eu Tryz.func12 trivial trivial
def sH:Con:=⟨16,[.ref [(.list iT),iT],.v iT],[(.list iT),iT,iT],⟨[.v iT],[.ref [(.list iT),iT]]⟩,[iT,(.list iT),iT],Pw.unc3 Pw.j0g⟩
def RP:FnD where
 N:=45
 np:=2
 cs:=[]
 ds:=[]
 ro:=[false]
theorem xv:Con.OK Tryz.prog sH:=
 cOf aW aX RP sH Tryz.func16 trivial trivial
def uw:Con:=⟨33,[.ref [(.list iT),iT],.v (.list iT)],[(.list iT),iT,(.list iT)],⟨[.v iT],[.ref [(.list iT),iT]]⟩,[iT,(.list iT),iT],Pw.unc3 Pw.j15⟩
def RQ:FnD where
 N:=12
 np:=2
 cs:=[sH]
 ds:=[]
 modes:=[(16,[false,false])]
 ro:=[false]
theorem Al:Con.OK Tryz.prog uw:=
 cOf aW aX RQ uw Tryz.func33 (ja xv trivial) trivial
def Ev:Con:=⟨48,[.ref [(.list iT),iT],.v .str],[(.list iT),iT,.str],⟨[.v bz],[.ref [(.list iT),iT]]⟩,[bz,(.list iT),iT],Pw.unc3 Pw.j4u⟩
def RR:FnD where
 N:=98
 np:=2
 cs:=[sH,uw]
 ds:=[]
 modes:=[(16,[false,false]),(33,[false,false])]
 ro:=[false]
 dw:=[(7,[[],[],[0],[],[],[0],[],[0],[],[],[],[],[0],[],[],[],[],[],[],[0],[],[],[3968],[0,3968],[],[0],[],[0],[],[],[],[],[4608],[],[320]]),(9,[[],[],[],[5056],[0,5056],[],[]])]
theorem RS:Con.OK Tryz.prog Ev:=
 cOf aW aX RR Ev Tryz.func48 (ja xv (ja Al trivial)) trivial
def Ew:Con:=⟨49,[.ref [(.list iT),iT]],[(.list iT),iT],⟨[.own 99 aa],[.ref [(.list iT),iT]]⟩,[aa,(.list iT),iT],Pw.unc2 Pw.j3a⟩
def RT:FnD where
 N:=38
 np:=1
 cs:=[sH,uw]
 ds:=[⟨0,[.s (.one (.bp 0 0)),.s (.one (.ol 1000000)),sI,sI,.b (.cell [.d (.list iT),.d iT] false),.b (.lst 99 aA false)],[iT,iT,(.list iT),iT,aa],[⟨.exit 0,[.s (.one (.ol 1500100)),.b (.cell [.d (.list iT),.d iT] false),.b (.lst 99 aA false)],[(.list iT),iT,aa]⟩],Pw.unc5 (Pw.j0U)⟩]
 modes:=[(16,[false,false]),(33,[false,false])]
 keep:=[(0,⟨[0,3,4,5],[0],[⟨1000000,99,aA,[.slot 3],false⟩],[]⟩)]
 keepX:=[(0,.exit 0,⟨[3],[0],[⟨1500100,99,aA,[.slot 3],false⟩],[]⟩)]
 ro:=[true]
theorem RU:Con.OK Tryz.prog Ew:=
 cOf aW aX RT Ew Tryz.func49 (ja xv (ja Al trivial)) (ja (λh=>by kernel_rfl) trivial)
def Ey:Con:=⟨70,[.ref [(.list iT),iT],.v iT],[(.list iT),iT,iT],⟨[.v .bool],[.ref [(.list iT),iT]]⟩,[.bool,(.list iT),iT],Pw.unc3 Pw.j5W⟩
def RW:FnD where
 N:=11
 np:=2
 cs:=[sH]
 ds:=[]
 modes:=[(16,[false,false])]
 ro:=[false]
theorem RX:Con.OK Tryz.prog Ey:=
 cOf aW aX RW Ey Tryz.func70 (ja xv trivial) trivial
end Go.Proofs.Pk
