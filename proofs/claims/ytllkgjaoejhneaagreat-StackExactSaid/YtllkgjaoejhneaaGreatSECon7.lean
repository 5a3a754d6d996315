/- cJ: each given function is its plain function, printed by a program. -/
import Derived.Test.YtllkgjaoejhneaaGreatSECon6
open Bool renaming false->e
open _root_ renaming trivial->i
noncomputable section
open Go Go.Lft
set_option linter.unusedVariables false
set_option maxRecDepth 100000
namespace Go.Proofs.Pk
def E8:Con:=⟨276,[.v iT,.v iT],[iT,iT],⟨[.v iT],[]⟩,[iT],Pw.unc2 Pw.jea⟩
def juh:FnD where
 N:=23
 np:=2
 cs:=[Pb]
theorem Pc:aN E8:=
 cOf aP aQ juh E8 Tryz.func276 (jg jrR i) i
def Pd:Con:=⟨296,[.v aZ],[aZ],⟨[.v .bool],[]⟩,[.bool],λh=>Pw.ji2 h⟩
def jrS:FnD where
 N:=36
 np:=1
 cs:=[E8]
theorem jqk:aN Pd:=
 cOf aP aQ jrS Pd Tryz.func296 (jg Pc i) i
def IZ:Con:=⟨237,[.v iT],[iT],⟨[.v iT],[]⟩,[iT],λh=>Pw.ji3 h⟩
def jui:FnD where
 N:=18
 np:=1
theorem Xl:aN IZ:=
 cOf aP aQ jui IZ Tryz.func237 i i
def Pe:Con:=⟨275,[.v aZ],[aZ],⟨[.v iT,.v iT],[]⟩,[iT,iT],λh=>Pw.jo8 h⟩
def jwl:FnD where
 N:=29
 np:=1
 cs:=[E8,Pd,IZ]
 ds:=[⟨0,[sB 64 0,sI,sI,.b (.cell [.d iT,.d iT,.d iT] e)],[iT,iT,iT,iT,iT],[⟨.exit 0,[sB 64 0,sI,.b (.cell [.d iT,.d iT,.d iT] e)],[iT,iT,iT,iT]⟩],Pw.unc5 (Pw.j6B)⟩]
 keep:=[(0,⟨[1,4,5],[64],[],[]⟩)]
 keepX:=[(0,.exit 0,⟨[1,4],[64],[],[]⟩)]
theorem gu:aN Pe:=
 cOf aP aQ jwl Pe Tryz.func275 (jg Pc (jg jqk (jg Xl i))) (jg (λh=>by kernel_rfl) i)
def I0:Con:=⟨274,[.v iT],[iT],⟨[.v iT],[]⟩,[iT],λh=>Pw.jbv h⟩
def joz:FnD where
 N:=7
 np:=1
theorem Xm:aN I0:=
 cOf aP aQ joz I0 Tryz.func274 i i
def Pg:Con:=⟨252,[.v iT,.v iT,.v iT,.v iT],[iT,iT,iT,iT],⟨[.v iT,.v iT],[]⟩,[iT,iT],Pw.unc4 Pw.jo9⟩
def jwm:FnD where
 N:=63
 np:=4
 cs:=[E8,Pe,I0]
 ds:=[⟨0,[sI,sI,sI,sI,sI,sI],[iT,iT,iT,iT,iT,iT],[⟨.exit 0,[sI,sI,sI,sI,sI],[iT,iT,iT,iT,iT]⟩],Pw.unc6 (Pw.j6C)⟩,⟨2,[sI,sI,sI,sI],[iT,iT,iT,iT],[⟨.exit 2,[sI],[iT]⟩],Pw.unc4 (Pw.j6D)⟩]
 keep:=[(0,⟨[0,1,2,3,10,12],[],[],[]⟩),(2,⟨[0,1,10,12],[],[],[]⟩)]
 keepX:=[(0,.exit 0,⟨[0,1,2,10,12],[],[],[]⟩),(2,.exit 2,⟨[12],[],[],[]⟩)]
theorem gv:aN Pg:=
 cOf aP aQ jwm Pg Tryz.func252 (jg Pc (jg gu (jg Xm i))) (jg (λh=>by kernel_rfl) (jg (λh=>by kernel_rfl) i))
def Pj:Con:=⟨223,[.v bK],[bK],⟨[.own 253 ag],[]⟩,[ag],λh=>Pw.j8L h⟩
def jjj:FnD where
 N:=98
 np:=1
 cs:=[Pg]
 ds:=[⟨0,[sD bK,sO 1000000,sI,.b (.lst 253 aT e)],[bK,iT,ag],[⟨.exit 0,[sO 1500100,.b (.lst 253 aT e)],[ag]⟩],Pw.unc3 (Pw.j2F)⟩,⟨2,[sD bK,sO 1002000,sI,sI,.b (.lst 253 aT e)],[bK,iT,iT,ag],[⟨.exit 2,[sD bK,sO 1502300,sI,.b (.lst 253 aT e)],[bK,iT,ag]⟩],Pw.unc4 (Pw.j2E)⟩,⟨4,[sD bK,sO 1004000,sI,sI,sB 512 0,sI,.b (.cell [.d iT,.d iT] e),.b (.lst 253 aT e)],[bK,iT,iT,iT,iT,iT,ag],[⟨.exit 4,[sD bK,sO 1504500,sI,sI,sB 512 0,sI,.b (.cell [.d iT,.d iT] e),.b (.lst 253 aT e)],[bK,iT,iT,iT,iT,iT,ag]⟩],Pw.unc7 (Pw.j2D)⟩]
 keep:=[(0,⟨[0,3,4],[],[⟨1000000,253,aT,[.slot 3],e⟩],[]⟩),(2,⟨[0,3,4,5],[],[⟨1002000,253,aT,[.slot 3],e⟩],[]⟩),(4,⟨[0,3,4,5,8,9],[512],[⟨1004000,253,aT,[.slot 3],e⟩],[]⟩)]
 keepX:=[(0,.exit 0,⟨[3],[],[⟨1500100,253,aT,[.slot 3],e⟩],[]⟩),(2,.exit 2,⟨[0,3,4],[],[⟨1502300,253,aT,[.slot 3],e⟩],[]⟩),(4,.exit 4,⟨[0,3,4,5,8,9],[512],[⟨1504500,253,aT,[.slot 3],e⟩],[]⟩)]
 ro:=[true]
 dw:=[(9,[[],[],[],[],[],[],[],[],[],[],[],[],[],[],[512],[512]]),(14,[[],[],[],[],[],[],[],[5376]])]
theorem jiB:aN Pj:=
 cOf aP aQ jjj Pj Tryz.func223 (jg gv i) (jg (λh=>by kernel_rfl) (jg (λh=>by kernel_rfl) (jg (λh=>by kernel_rfl) i)))
def wK:Con:=⟨156,[.v bh],[bh],⟨[.own 200 ag,.v iT],[]⟩,[ag,iT],λh=>Pw.j0d h⟩
def jjk:FnD where
 N:=119
 np:=1
 cs:=[wJ,Pa,Pj]
 ds:=[⟨0,[sB 64 0,sI,sI,.b (.cell [.d .str,.d iT,.d bK] e)],[iT,iT,.str,iT,bK],[⟨.ret,[.s (.one (.nil)),sI],[iT]⟩,⟨.exit 0,[sB 64 0,sI,.b (.cell [.d .str,.d iT,.d bK] e)],[iT,.str,iT,bK]⟩],Pw.unc5 (Pw.j1P)⟩,⟨2,[sO 1002000,sO 1002001,sI,sI,.b (.lst 200 aT e),.b (.lst 253 aT e)],[iT,iT,ag,ag],[⟨.ret,[.s (.one (.nil)),sI],[iT]⟩,⟨.exit 2,[sO 1502300,.b (.lst 200 aT e)],[ag]⟩],Pw.unc4 (Pw.j1x)⟩]
 keep:=[(0,⟨[1,4,5],[64],[],[]⟩),(2,⟨[6,7,8,9],[],[⟨1002000,200,aT,[.slot 6],e⟩,⟨1002001,253,aT,[.slot 7],e⟩],[]⟩)]
 keepX:=[(0,.ret,⟨[2,3],[],[],[]⟩),(0,.exit 0,⟨[1,4],[64],[],[]⟩),(2,.ret,⟨[2,3],[],[],[]⟩),(2,.exit 2,⟨[6],[],[⟨1502300,200,aT,[.slot 6],e⟩],[]⟩)]
 ro:=[true,e]
 dw:=[(21,[[],[],[],[],[],[],[],[],[],[],[],[],[],[640],[640]]),(24,[[],[],[7296],[7360,1002000],[],[],[],[]])]
theorem B4:aN wK:=
 cOf aP aQ jjk wK Tryz.func156 (jg B3 (jg jqj (jg jiB i))) (jg (λh=>by kernel_rfl) (jg (λh=>by kernel_rfl) i))
def I1:Con:=⟨190,[.v bh],[bh],⟨[.v iT],[]⟩,[iT],λh=>Pw.j6F h⟩
def jrT:FnD where
 N:=11
 np:=1
 cs:=[wK]
theorem Xn:aN I1:=
 cOf aP aQ jrT I1 Tryz.func190 (jg B4 i) i
def Pl:Con:=⟨191,[.v bh],[bh],⟨[.v .bool],[]⟩,[.bool],λh=>Pw.j9r h⟩
def joA:FnD where
 N:=28
 np:=1
 ds:=[⟨0,[sB 64 0,sD .bool,sI,.b (.cell [.d .str,.d iT,.d bK] e)],[.bool,iT,.str,iT,bK],[⟨.exit 0,[sD .bool],[.bool]⟩],Pw.unc5 (Pw.j4o)⟩]
 keep:=[(0,⟨[1,3,4],[64],[],[]⟩)]
 keepX:=[(0,.exit 0,⟨[3],[],[],[]⟩)]
theorem jms:aN Pl:=
 cOf aP aQ joA Pl Tryz.func191 i (jg (λh=>by kernel_rfl) i)
def Pm:Con:=⟨131,[.v aR],[aR],⟨[.v iT],[]⟩,[iT],λh=>Pw.ji7 h⟩
def jrU:FnD where
 N:=44
 np:=1
 cs:=[B2,I1,Pl]
 ds:=[⟨0,[sB 64 0,sO 1000000,sI,.b (.cell [.d aA,.d aC,.d aB,.d aG] e),.b (.lst 9 .str e)],[iT,aA,aC,aB,aG,(.list .str)],[⟨.ret,[sI],[iT]⟩,⟨.exit 0,[],[]⟩],Pw.unc6 (Pw.j5g)⟩]
 keep:=[(0,⟨[1,3,4],[64],[⟨1000000,9,.str,[.slot 3],e⟩],[]⟩)]
 keepX:=[(0,.ret,⟨[2],[],[],[]⟩)]
theorem jql:aN Pm:=
 cOf aP aQ jrU Pm Tryz.func131 (jg IY (jg Xn (jg jms i))) (jg (λh=>by kernel_rfl) i)
def zK:Con:=⟨192,[.v iT,.v iT,.v iT],[iT,iT,iT],⟨[.v .bool],[]⟩,[.bool],Pw.unc3 Pw.j7a⟩
def jyf:FnD where
 N:=15
 np:=3
theorem E9:aN zK:=
 cOf aP aQ jyf zK Tryz.func192 i i
def B5:Con:=⟨193,[.v ag],[ag],⟨[.v iT],[]⟩,[iT],λh=>Pw.j6G h⟩
def jrV:FnD where
 N:=56
 np:=1
 ds:=[⟨0,[sD ag,sI],[ag,iT],[⟨.ret,[sI],[iT]⟩,⟨.exit 0,[],[]⟩],Pw.unc2 (Pw.j2Z)⟩]
 keep:=[(0,⟨[0,3],[],[],[]⟩)]
 keepX:=[(0,.ret,⟨[2],[],[],[]⟩)]
theorem I2:aN B5:=
 cOf aP aQ jrV B5 Tryz.func193 i (jg (λh=>by kernel_rfl) i)
def Pn:Con:=⟨194,[.v iT],[iT],⟨[.v .bool],[]⟩,[.bool],λh=>Pw.jfr h⟩
def jrW:FnD where
 N:=10
 np:=1
 cs:=[zK]
theorem jqm:aN Pn:=
 cOf aP aQ jrW Pn Tryz.func194 (jg E9 i) i
def Po:Con:=⟨132,[.v aR],[aR],⟨[.v iT],[]⟩,[iT],λh=>Pw.jg8 h⟩
def jqn:FnD where
 N:=58
 np:=1
 cs:=[B2,zK,B5,Pn]
 ds:=[⟨0,[sB 64 0,sO 1000000,sI,.b (.cell [.d aA,.d aC,.d aB,.d aG] e),.b (.lst 9 .str e)],[iT,aA,aC,aB,aG,(.list .str)],[⟨.ret,[sI],[iT]⟩,⟨.exit 0,[],[]⟩],Pw.unc6 (Pw.j4J)⟩]
 keep:=[(0,⟨[1,3,4],[64],[⟨1000000,9,.str,[.slot 3],e⟩],[]⟩)]
 keepX:=[(0,.ret,⟨[2],[],[],[]⟩)]
theorem joB:aN Po:=
 cOf aP aQ jqn Po Tryz.func132 (jg IY (jg E9 (jg I2 (jg jqm i)))) (jg (λh=>by kernel_rfl) i)
def Fa:Con:=⟨195,[],[],⟨[.v iT],[]⟩,[iT],λh=>Pw.j9s⟩
def jqo:FnD where
 N:=3
 np:=0
 cs:=[IZ]
theorem Pp:aN Fa:=
 cOf aP aQ jqo Fa Tryz.func195 (jg Xl i) i
def Pq:Con:=⟨133,[.v aR],[aR],⟨[.v iT],[]⟩,[iT],λh=>Pw.jaU h⟩
def jlD:FnD where
 N:=78
 np:=1
 cs:=[B2,zK,Fa]
 ds:=[⟨0,[sB 64 0,sO 1000000,sI,.b (.cell [.d aA,.d aC,.d aB,.d aG] e),.b (.lst 9 .str e)],[iT,aA,aC,aB,aG,(.list .str)],[⟨.ret,[sI],[iT]⟩,⟨.exit 0,[],[]⟩],Pw.unc6 (Pw.j3k)⟩,⟨2,[sB 64 0,sO 1002000,sI,sB 320 0,sI,.b (.cell [.d aA,.d aC,.d aB,.d aG] e),.b (.cell [.d .str,.d iT,.d (.list iT)] e),.b (.lst 9 .str e)],[iT,iT,aA,aC,aB,aG,.str,iT,(.list iT),(.list .str)],[⟨.ret,[sI],[iT]⟩,⟨.exit 2,[sB 64 0,sO 1502300,sI,sB 320 0,.b (.cell [.d aA,.d aC,.d aB,.d aG] e),.b (.cell [.d .str,.d iT,.d (.list iT)] e),.b (.lst 9 .str e)],[iT,aA,aC,aB,aG,.str,iT,(.list iT),(.list .str)]⟩],Pw.u8 Pw.unc2 (Pw.j3i)⟩,⟨4,[sB 64 0,sO 1004000,sI,sB 320 0,sI,.b (.cell [.d aA,.d aC,.d aB,.d aG] e),.b (.cell [.d .str,.d iT,.d (.list iT)] e),.b (.lst 9 .str e)],[iT,iT,aA,aC,aB,aG,.str,iT,(.list iT),(.list .str)],[⟨.ret,[sI],[iT]⟩,⟨.exit 4,[sB 64 0,sO 1504500,sI,.b (.cell [.d aA,.d aC,.d aB,.d aG] e),.b (.lst 9 .str e)],[iT,aA,aC,aB,aG,(.list .str)]⟩],Pw.u8 Pw.unc2 (Pw.j3j)⟩]
 keep:=[(0,⟨[1,3,4],[64],[⟨1000000,9,.str,[.slot 3],e⟩],[]⟩),(2,⟨[1,3,4,5,7],[64,320],[⟨1002000,9,.str,[.slot 3],e⟩],[]⟩),(4,⟨[1,3,4,5,8],[64,320],[⟨1004000,9,.str,[.slot 3],e⟩],[]⟩)]
 keepX:=[(0,.ret,⟨[2],[],[],[]⟩),(2,.ret,⟨[2],[],[],[]⟩),(2,.exit 2,⟨[1,3,4,5],[64,320],[⟨1502300,9,.str,[.slot 3],e⟩],[]⟩),(4,.ret,⟨[2],[],[],[]⟩),(4,.exit 4,⟨[1,3,4],[64],[⟨1504500,9,.str,[.slot 3],e⟩],[]⟩)]
theorem jk9:aN Pq:=
 cOf aP aQ jlD Pq Tryz.func133 (jg IY (jg E9 (jg Pp i))) (jg (λh=>by kernel_rfl) (jg (λh=>by kernel_rfl) (jg (λh=>by kernel_rfl) i)))
def Pr:Con:=⟨196,[.v aR,.v bu],[aR,bu],⟨[.v iT],[]⟩,[iT],Pw.unc2 Pw.jft⟩
def jrX:FnD where
 N:=102
 np:=2
 cs:=[zK,B5,Fa]
 ds:=[⟨1,[sB 128 0,sB 192 0,sI,.b (.cell [.d aA,.d aC,.d aB,.d aG] e),.b (.cell [.d .str,.d iT,.d iT,.d iT,.d iT,.d iT,.d (.list iT),.d ag,.d iT,.d iT] e)],[iT,aA,aC,aB,aG,.str,iT,iT,iT,iT,iT,(.list iT),ag,iT,iT],[⟨.ret,[sI],[iT]⟩,⟨.exit 1,[sB 128 0,sB 192 0,.b (.cell [.d aA,.d aC,.d aB,.d aG] e),.b (.cell [.d .str,.d iT,.d iT,.d iT,.d iT,.d iT,.d (.list iT),.d ag,.d iT,.d iT] e)],[aA,aC,aB,aG,.str,iT,iT,iT,iT,iT,(.list iT),ag,iT,iT]⟩],Pw.u8 Pw.unc7 (Pw.j5h)⟩]
 keep:=[(1,⟨[2,3,5],[128,192],[],[]⟩)]
 keepX:=[(1,.ret,⟨[4],[],[],[]⟩),(1,.exit 1,⟨[2,3],[128,192],[],[]⟩)]
theorem jqp:aN Pr:=
 cOf aP aQ jrX Pr Tryz.func196 (jg E9 (jg I2 (jg Pp i))) (jg (λh=>by kernel_rfl) i)
def Ps:Con:=⟨197,[.v aR,.v fQ],[aR,fQ],⟨[.v iT],[]⟩,[iT],Pw.unc2 Pw.ji8⟩
def juj:FnD where
 N:=86
 np:=2
 cs:=[zK,Fa]
theorem jrY:aN Ps:=
 cOf aP aQ juj Ps Tryz.func197 (jg E9 (jg Pp i)) i
def Pt:Con:=⟨134,[.v aR],[aR],⟨[.v iT],[]⟩,[iT],λh=>Pw.jeb h⟩
def jlE:FnD where
 N:=95
 np:=1
 cs:=[B2,Pr,Ps]
 ds:=[⟨0,[sB 64 0,sO 1000000,sI,.b (.cell [.d aA,.d aC,.d aB,.d aG] e),.b (.lst 9 .str e)],[iT,aA,aC,aB,aG,(.list .str)],[⟨.ret,[sI],[iT]⟩,⟨.exit 0,[],[]⟩],Pw.unc6 (Pw.j3n)⟩,⟨2,[sB 64 0,sO 1002000,sI,sB 320 0,sO 1002001,sI,.b (.cell [.d aA,.d aC,.d aB,.d aG] e),.b (.cell [.d .str,.d bL,.d bV] e),.b (.lst 9 .str e),.b (.lst 9 .str e)],[iT,iT,aA,aC,aB,aG,.str,bL,bV,(.list .str),(.list .str)],[⟨.ret,[sI],[iT]⟩,⟨.exit 2,[sB 64 0,sO 1502300,sI,sB 320 0,.b (.cell [.d aA,.d aC,.d aB,.d aG] e),.b (.cell [.d .str,.d bL,.d bV] e),.b (.lst 9 .str e)],[iT,aA,aC,aB,aG,.str,bL,bV,(.list .str)]⟩],Pw.u8 Pw.unc3 (Pw.j3l)⟩,⟨4,[sB 64 0,sO 1004000,sI,sB 320 0,sI,.b (.cell [.d aA,.d aC,.d aB,.d aG] e),.b (.cell [.d .str,.d bL,.d bV] e),.b (.lst 9 .str e)],[iT,iT,aA,aC,aB,aG,.str,bL,bV,(.list .str)],[⟨.ret,[sI],[iT]⟩,⟨.exit 4,[sB 64 0,sO 1504500,sI,.b (.cell [.d aA,.d aC,.d aB,.d aG] e),.b (.lst 9 .str e)],[iT,aA,aC,aB,aG,(.list .str)]⟩],Pw.u8 Pw.unc2 (Pw.j3m)⟩]
 keep:=[(0,⟨[1,3,4],[64],[⟨1000000,9,.str,[.slot 3],e⟩],[]⟩),(2,⟨[1,3,4,5,7,8],[64,320],[⟨1002000,9,.str,[.slot 3],e⟩,⟨1002001,9,.str,[.slot 7],e⟩],[]⟩),(4,⟨[1,3,4,5,11],[64,320],[⟨1004000,9,.str,[.slot 3],e⟩],[]⟩)]
 keepX:=[(0,.ret,⟨[2],[],[],[]⟩),(2,.ret,⟨[2],[],[],[]⟩),(2,.exit 2,⟨[1,3,4,5],[64,320],[⟨1502300,9,.str,[.slot 3],e⟩],[]⟩),(4,.ret,⟨[2],[],[],[]⟩),(4,.exit 4,⟨[1,3,4],[64],[⟨1504500,9,.str,[.slot 3],e⟩],[]⟩)]
theorem jka:aN Pt:=
 cOf aP aQ jlE Pt Tryz.func134 (jg IY (jg jqp (jg jrY i))) (jg (λh=>by kernel_rfl) (jg (λh=>by kernel_rfl) (jg (λh=>by kernel_rfl) i)))
end Go.Proofs.Pk
