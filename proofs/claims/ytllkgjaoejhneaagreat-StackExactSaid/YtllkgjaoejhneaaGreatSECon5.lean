/- cJ: each given function is its plain function, printed by a program. -/
import Derived.Test.YtllkgjaoejhneaaGreatSECon4
open _root_ renaming trivial->e
open Bool renaming false->i
noncomputable section
open Go Go.Lft
set_option linter.unusedVariables false
set_option maxRecDepth 100000
namespace Go.Proofs.Pk
def IL:Con:=⟨107,[.v aR,.v iT],[aR,iT],⟨[.v ej,.v cD,.v .bool],[]⟩,[ej,cD,.bool],Pw.unc2 Pw.j8i⟩
def jqb:FnD where
 N:=30
 np:=2
 cs:=[Iz,IA]
 dw:=[(4,[[],[],[],[],[],[],[256],[320],[]])]
theorem Xb:aN IL:=
 cOf aP aQ jqb IL Tryz.func107 (jg WQ (jg WR e)) e
def ON:Con:=⟨143,[.v aT],[aT],⟨[.v iT],[]⟩,[iT],λh=>Pw.j37 h⟩
def jlw:FnD where
 N:=10
 np:=1
 cs:=[Iw]
theorem jjY:aN ON:=
 cOf aP aQ jlw ON Tryz.func143 (jg WM e) e
def OO:Con:=⟨142,[.v ag,.v iT],[ag,iT],⟨[.v .bool],[]⟩,[.bool],Pw.unc2 Pw.jkq⟩
def jud:FnD where
 N:=24
 np:=2
 ds:=[⟨0,[sI,sD ag,sI,sI],[iT,ag,iT,iT],[⟨.ret,[sD .bool],[.bool]⟩,⟨.exit 0,[],[]⟩],Pw.unc4 (Pw.j5X)⟩]
 keep:=[(0,⟨[1,7,8,9],[],[],[]⟩)]
 keepX:=[(0,.ret,⟨[4],[],[],[]⟩)]
theorem jrL:aN OO:=
 cOf aP aQ jud OO Tryz.func142 e (jg (λh=>by kernel_rfl) e)
def OP:Con:=⟨241,[.v iT],[iT],⟨[.v .bool],[]⟩,[.bool],λh=>Pw.jaS h⟩
def jlx:FnD where
 N:=6
 np:=1
theorem jjZ:aN OP:=
 cOf aP aQ jlx OP Tryz.func241 e e
def OQ:Con:=⟨213,[.v iT,.v iT],[iT,iT],⟨[.v .bool],[]⟩,[.bool],Pw.unc2 Pw.jcy⟩
def jmq:FnD where
 N:=17
 np:=2
 cs:=[OP]
theorem jly:aN OQ:=
 cOf aP aQ jmq OQ Tryz.func213 (jg jjZ e) e
def OR:Con:=⟨214,[.v iT],[iT],⟨[.v .bool],[]⟩,[.bool],λh=>Pw.j7Q h⟩
def jiv:FnD where
 N:=6
 np:=1
theorem jhm:aN OR:=
 cOf aP aQ jiv OR Tryz.func214 e e
def OS:Con:=⟨145,[.v (.list iT),.v iT],[(.list iT),iT],⟨[.v iT,.v .bool],[]⟩,[iT,.bool],Pw.unc2 Pw.j1n⟩
def jaA:FnD where
 N:=54
 np:=2
 cs:=[OQ,OR]
 ds:=[⟨0,[sD (.list iT),sI,sI,sI,sI],[(.list iT),iT,iT,iT,iT],[⟨.exit 0,[sD (.list iT),sI,sI,sI],[(.list iT),iT,iT,iT]⟩],Pw.unc5 (Pw.j1v)⟩]
 keep:=[(0,⟨[0,1,6,7,8],[],[],[]⟩)]
 keepX:=[(0,.exit 0,⟨[0,1,6,7],[],[],[]⟩)]
theorem jaj:aN OS:=
 cOf aP aQ jaA OS Tryz.func145 (jg jly (jg jhm e)) (jg (λh=>by kernel_rfl) e)
def OT:Con:=⟨93,[.v ej,.v bu,.v iT],[ej,bu,iT],⟨[.v iT,.v .bool],[]⟩,[iT,.bool],Pw.unc3 Pw.j48⟩
def jmr:FnD where
 N:=79
 np:=3
 cs:=[IH,II,ON,OO,OS]
theorem jlz:aN OT:=
 cOf aP aQ jmr OT Tryz.func93 (jg WZ (jg W0 (jg jjY (jg jrL (jg jaj e))))) e
def OU:Con:=⟨96,[.v ej,.v bu,.v iT],[ej,bu,iT],⟨[.v iT],[]⟩,[iT],Pw.unc3 Pw.j27⟩
def jiw:FnD where
 N:=27
 np:=3
 cs:=[OT]
theorem jhn:aN OU:=
 cOf aP aQ jiw OU Tryz.func96 (jg jlz e) e
def OV:Con:=⟨115,[.v fQ,.ip [iT],.ip [iT]],[fQ,iT,iT],⟨[.v .bool],[]⟩,[.bool],Pw.unc3 Pw.je7⟩
def jlA:FnD where
 N:=26
 np:=3
theorem jk0:aN OV:=
 cOf aP aQ jlA OV Tryz.func115 e e
def OW:Con:=⟨164,[.v bV,.clo 115 [.p [iT],.p [iT]]],[bV,iT,iT],⟨[.v iT],[]⟩,[iT],Pw.unc3 Pw.j2p⟩
def j7C:FnD where
 N:=19
 np:=2
 cs:=[OV]
 ds:=[⟨0,[sD bV,sC 115 [.p [iT],.p [iT]],sI,sI],[bV,iT,iT,iT,iT],[⟨.ret,[sI],[iT]⟩,⟨.exit 0,[],[]⟩],Pw.unc5 (Pw.j0v)⟩]
 keep:=[(0,⟨[0,1,7,8],[],[],[]⟩)]
 keepX:=[(0,.ret,⟨[4],[],[],[]⟩)]
theorem j7r:aN OW:=
 cOf aP aQ j7C OW Tryz.func164 (jg jk0 e) (jg (λh=>by kernel_rfl) e)
def OX:Con:=⟨114,[.v bV,.clo 115 [.p [iT],.p [iT]]],[bV,iT,iT],⟨[.v .bool],[]⟩,[.bool],Pw.unc3 Pw.j1X⟩
def j6S:FnD where
 N:=9
 np:=2
 cs:=[OW]
theorem j6q:aN OX:=
 cOf aP aQ j6S OX Tryz.func114 (jg j7r e) e
def E6:Con:=⟨60,[.v cD,.v iT,.v iT],[cD,iT,iT],⟨[.v .bool],[]⟩,[.bool],Pw.unc3 Pw.jbf⟩
def jqc:FnD where
 N:=11
 np:=3
 cs:=[OX]
theorem OY:aN E6:=
 cOf aP aQ jqc E6 Tryz.func60 (jg j6q e) e
def IM:Con:=⟨108,[.v ej,.v cD,.v iT],[ej,cD,iT],⟨[.v iT,.v iT],[]⟩,[iT,iT],Pw.unc3 Pw.j5C⟩
def jlB:FnD where
 N:=29
 np:=3
 cs:=[IB,OU,E6]
 ds:=[⟨0,[sI,sB 192 0,sB 256 0,sB 320 0,sB 384 0,sB 448 0,sC 224 [.p [bL]],.b (.cell [.d aA,.d aC,.d aB,.d aG,.d iC] i),.b (.cell [.d .str,.d bL,.d bV] i),.b (.cell [.d iT] i),.b (.cell [.d iT] i),.b (.cell [.d iT] i)],[iT,bL,aA,aC,aB,aG,iC,.str,bL,bV,iT,iT,iT],[⟨.normal,[sB 384 0,sB 448 0,.b (.cell [.d iT] i),.b (.cell [.d iT] i)],[iT,iT]⟩,⟨.ret,[sB 384 0,sB 448 0,.b (.cell [.d iT] i),.b (.cell [.d iT] i)],[iT,iT]⟩],Pw.u8 Pw.unc5 (Pw.j3h)⟩]
 keep:=[(0,⟨[3,4,5,6,7,13],[192,256,320,384,448],[],[]⟩)]
 keepX:=[(0,.normal,⟨[6,7],[384,448],[],[]⟩),(0,.ret,⟨[6,7],[384,448],[],[]⟩)]
 bw:=[(224,(i,bu))]
theorem Xc:aN IM:=
 cOf aP aQ jlB IM Tryz.func108 (jg WS (jg jhn (jg OY e))) (jg (λh=>by kernel_rfl) e) (jg W9 e)
def IP:Con:=⟨55,[.v aR,.v iT,.v iT],[aR,iT,iT],⟨[.v iT],[]⟩,[iT],Pw.unc3 Pw.j7y⟩
def jrM:FnD where
 N:=29
 np:=3
 cs:=[IL,IM]
theorem Xd:aN IP:=
 cOf aP aQ jrM IP Tryz.func55 (jg Xb (jg Xc e)) e
def IQ:Con:=⟨53,[.v aR,.v iT,.v iT],[aR,iT,iT],⟨[.v iT],[]⟩,[iT],Pw.unc3 Pw.j6A⟩
def jov:FnD where
 N:=29
 np:=3
 cs:=[IL,IM]
theorem Xe:aN IQ:=
 cOf aP aQ jov IQ Tryz.func53 (jg Xb (jg Xc e)) e
def OZ:Con:=⟨52,[],[],⟨[.v .bool],[]⟩,[.bool],λh=>Pw.jg3⟩
def jqd:FnD where
 N:=52
 np:=0
 cs:=[Np,IK,E6,IP,IQ]
theorem jow:aN OZ:=
 cOf aP aQ jqd OZ Tryz.func52 (jg jm9 (jg Xa (jg OY (jg Xd (jg Xe e))))) e
def O0:Con:=⟨9,[.v (.list iT)],[(.list iT)],⟨[.box [(.list iT),iT]],[]⟩,[(.list iT),iT],λh=>Pw.jlf h⟩
def jrN:FnD where
 N:=6
 np:=1
theorem jqe:aN O0:=
 cOf aP aQ jrN O0 Tryz.func9 e e
def oe:Con:=⟨12,[.ref [(.list iT),iT],.v iT],[(.list iT),iT,iT],⟨[.v iT],[.ref [(.list iT),iT]]⟩,[iT,(.list iT),iT],Pw.unc3 Pw.j02⟩
def jk1:FnD where
 N:=45
 np:=2
theorem pS:aN oe:=
 cOf aP aQ jk1 oe Tryz.func12 e e
def sS:Con:=⟨31,[.ref [(.list iT),iT],.v (.list iT)],[(.list iT),iT,(.list iT)],⟨[.v iT],[.ref [(.list iT),iT]]⟩,[iT,(.list iT),iT],Pw.unc3 Pw.j03⟩
def jk2:FnD where
 N:=12
 np:=2
 cs:=[oe]
theorem wI:aN sS:=
 cOf aP aQ jk2 sS Tryz.func31 (jg pS e) e
end Go.Proofs.Pk
