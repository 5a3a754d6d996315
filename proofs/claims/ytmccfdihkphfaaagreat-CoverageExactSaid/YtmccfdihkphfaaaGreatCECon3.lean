/- Contracts. -/
import Derived.Test.YtmccfdihkphfaaaGreatCECon2
open _root_ renaming trivial->e
open Bool renaming false->i
noncomputable section
open Go Go.Lft
set_option linter.unusedVariables false
set_option maxRecDepth 100000
namespace Go.Proofs.Pk
def R4:Con:=⟨262,[.v bj],[bj],⟨[.v cA,.v iT],[]⟩,[cA,iT],λh=>Pw.jpT h⟩
def jCa:FnD where
 N:=16
 np:=1
 cs:=[Ke]
theorem jA4:aJ R4:=
 cOf aM aN jCa R4 Tryz.func262 (ja J_ e) e
def R5:Con:=⟨201,[.v al],[al],⟨[.own 157 cX],[]⟩,[cX],λh=>Pw.jl2 h⟩
def jtq:FnD where
 N:=25
 np:=1
 cs:=[R4]
 ds:=[⟨0,[sO 1000000,sD al,sI,sI,.b (.lst 157 cA i)],[al,iT,iT,cX],[⟨.exit 0,[sO 1500100,.b (.lst 157 cA i)],[cX]⟩],Pw.unc4 (Pw.j5D)⟩]
 keep:=[(0,⟨[3,8,9,10],[],[⟨1000000,157,cA,[.slot 3],i⟩],[]⟩)]
 keepX:=[(0,.exit 0,⟨[3],[],[⟨1500100,157,cA,[.slot 3],i⟩],[]⟩)]
 ro:=[true]
theorem jr5:aJ R5:=
 cOf aM aN jtq R5 Tryz.func201 (ja jA4 e) (ja (λh=>by kernel_rfl) e)
def R6:Con:=⟨130,[.v aG],[aG],⟨[.v eE],[]⟩,[eE],λh=>Pw.jma h⟩
def jx8:FnD where
 N:=8
 np:=1
 cs:=[R5]
 dw:=[(1,[[],[],[],[384],[],[128]])]
theorem jvl:aJ R6:=
 cOf aM aN jx8 R6 Tryz.func130 (ja jr5 e) e
def Gx:Con:=⟨69,[.v aG],[aG],⟨[.v eE,.v .bool],[]⟩,[eE,.bool],λh=>Pw.jhN h⟩
def jCb:FnD where
 N:=10
 np:=1
 cs:=[R3,R6]
theorem R7:aJ Gx:=
 cOf aM aN jCb Gx Tryz.func69 (ja jov (ja jvl e)) e
def Kw:Con:=⟨79,[.v aG,.v iT],[aG,iT],⟨[.v .bool],[]⟩,[.bool],Pw.unc2 Pw.jaf⟩
def jtr:FnD where
 N:=14
 np:=2
theorem Β:aJ Kw:=
 cOf aM aN jtr Kw Tryz.func79 e e
def Kx:Con:=⟨72,[.v iT,.v iT],[iT,iT],⟨[.v .bool],[]⟩,[.bool],Pw.unc2 Pw.jej⟩
def jvm:FnD where
 N:=26
 np:=2
theorem Γ:aJ Kx:=
 cOf aM aN jvm Kx Tryz.func72 e e
def Ky:Con:=⟨59,[.v aG,.v iT,.v iT,.v iT],[aG,iT,iT,iT],⟨[.v eE,.v iT],[]⟩,[eE,iT],Pw.unc4 Pw.jag⟩
def jts:FnD where
 N:=34
 np:=4
 cs:=[Gx,Kw,Kx]
theorem Δ:aJ Ky:=
 cOf aM aN jts Ky Tryz.func59 (ja R7 (ja Β (ja Γ e))) e
def Kz:Con:=⟨92,[.v eE,.v iT],[eE,iT],⟨[.v cA],[]⟩,[cA],Pw.unc2 Pw.j5E⟩
def jnD:FnD where
 N:=10
 np:=2
theorem Ε:aJ Kz:=
 cOf aM aN jnD Kz Tryz.func92 e e
def R8:Con:=⟨138,[.v cA],[cA],⟨[.v .bool],[]⟩,[.bool],λh=>Pw.jaR h⟩
def jkn:FnD where
 N:=7
 np:=1
theorem jjC:aJ R8:=
 cOf aM aN jkn R8 Tryz.func138 e e
def R9:Con:=⟨139,[.v cA],[cA],⟨[.v iT],[]⟩,[iT],λh=>Pw.jey h⟩
def jnE:FnD where
 N:=16
 np:=1
theorem jmA:aJ R9:=
 cOf aM aN jnE R9 Tryz.func139 e e
def Sa:Con:=⟨137,[.v iT,.ref [al,au,ar,ay,cX],.ref [iT]],[iT,al,au,ar,ay,cX,iT],⟨[],[.ref [al,au,ar,ay,cX],.ref [iT]]⟩,[al,au,ar,ay,cX,iT],Pw.unc7 Pw.j41⟩
def jjD:FnD where
 N:=15
 np:=3
 cs:=[Kz,R8,R9]
 dw:=[(2,[[],[],[],[],[],[128]])]
theorem jiK:aJ Sa:=
 cOf aM aN jjD Sa Tryz.func137 (ja Ε (ja jjC (ja jmA e))) e
def KA:Con:=⟨212,[.v bE],[bE],⟨[.v iT],[]⟩,[iT],λh=>Pw.jc2 h⟩
def jvn:FnD where
 N:=11
 np:=1
theorem Ζ:aJ KA:=
 cOf aM aN jvn KA Tryz.func212 e e
def Sb:Con:=⟨268,[.v iT,.ip [iT,af],.ip [iT]],[iT,iT,af,iT],⟨[.v .bool],[]⟩,[.bool],Pw.unc4 Pw.jah⟩
def jjE:FnD where
 N:=13
 np:=3
theorem jiL:aJ Sb:=
 cOf aM aN jjE Sb Tryz.func268 e e
def Sc:Con:=⟨267,[.v iT,.clo 268 [.p [iT,af],.p [iT]]],[iT,iT,af,iT],⟨[.v iT],[]⟩,[iT],Pw.unc4 Pw.jl3⟩
def jtt:FnD where
 N:=26
 np:=2
 cs:=[Sb]
 ds:=[⟨0,[sC 268 [.p [iT,af],.p [iT]],sI,sI],[iT,af,iT,iT,iT],[⟨.exit 0,[sI],[iT]⟩],Pw.unc5 (Pw.j42)⟩]
 keep:=[(0,⟨[1,5,6],[],[],[]⟩)]
 keepX:=[(0,.exit 0,⟨[5],[],[],[]⟩)]
theorem jr6:aJ Sc:=
 cOf aM aN jtt Sc Tryz.func267 (ja jiL e) (ja (λh=>by kernel_rfl) e)
def KB:Con:=⟨216,[.v cA,.v iT],[cA,iT],⟨[.v iT],[]⟩,[iT],Pw.unc2 Pw.j7K⟩
def jmC:FnD where
 N:=10
 np:=2
 cs:=[Sc]
theorem Η:aJ KB:=
 cOf aM aN jmC KB Tryz.func216 (ja jr6 e) e
def KC:Con:=⟨217,[.v cA,.v iT],[cA,iT],⟨[.v iT],[]⟩,[iT],Pw.unc2 Pw.j5v⟩
def jlr:FnD where
 N:=16
 np:=2
theorem Θ:aJ KC:=
 cOf aM aN jlr KC Tryz.func217 e e
def Gy:Con:=⟨148,[.v cA,.v iT,.v iT],[cA,iT,iT],⟨[.own 205 aF],[]⟩,[aF],Pw.unc3 Pw.j36⟩
def jls:FnD where
 N:=41
 np:=3
 cs:=[KB,KC]
 ds:=[⟨0,[sI,sI,sB 192 0,sO 1000000,.b (.cell [.d iT,.d af] i),.b (.lst 205 aT i)],[iT,iT,iT,af,aF],[⟨.exit 0,[sO 1500100,.b (.lst 205 aT i)],[aF]⟩],Pw.unc5 (Pw.j0O)⟩]
 keep:=[(0,⟨[1,2,3,7],[192],[⟨1000000,205,aT,[.slot 7],i⟩],[]⟩)]
 keepX:=[(0,.exit 0,⟨[7],[],[⟨1500100,205,aT,[.slot 7],i⟩],[]⟩)]
 ro:=[true]
theorem Sd:aJ Gy:=
 cOf aM aN jls Gy Tryz.func148 (ja Η (ja Θ e)) (ja (λh=>by kernel_rfl) e)
def Se:Con:=⟨213,[.v aR],[aR],⟨[.v iT],[]⟩,[iT],λh=>Pw.j5s h⟩
def jr7:FnD where
 N:=11
 np:=1
theorem jq8:aJ Se:=
 cOf aM aN jr7 Se Tryz.func213 e e
def KD:Con:=⟨141,[.v cA,.v aR],[cA,aR],⟨[.v iT,.v .bool],[]⟩,[iT,.bool],Pw.unc2 Pw.j1U⟩
def jmD:FnD where
 N:=30
 np:=2
 cs:=[Gy,Se]
 ds:=[⟨0,[sB 192 0,sO 1000000,sI,sI,.b (.cell [.d iT,.d iT] i),.b (.lst 205 aT i)],[iT,iT,iT,iT,aF],[⟨.ret,[sI,sD .bool],[iT,.bool]⟩,⟨.exit 0,[],[]⟩],Pw.unc5 (Pw.j1G)⟩]
 keep:=[(0,⟨[3,10,11,12],[192],[⟨1000000,205,aT,[.slot 10],i⟩],[]⟩)]
 keepX:=[(0,.ret,⟨[4,5],[],[],[]⟩)]
theorem Ι:aJ KD:=
 cOf aM aN jmD KD Tryz.func141 (ja Sd (ja jq8 e)) (ja (λh=>by kernel_rfl) e)
def Dp:Con:=⟨140,[.v cA,.v bE,.v iT],[cA,bE,iT],⟨[.v iT,.v .bool],[]⟩,[iT,.bool],Pw.unc3 Pw.j0N⟩
def jmE:FnD where
 N:=50
 np:=3
 cs:=[KA,KD]
 dw:=[(5,[[],[],[],[],[],[],[],[],[512]])]
theorem KE:aJ Dp:=
 cOf aM aN jmE Dp Tryz.func140 (ja Ζ (ja Ι e)) e
end Go.Proofs.Pk
