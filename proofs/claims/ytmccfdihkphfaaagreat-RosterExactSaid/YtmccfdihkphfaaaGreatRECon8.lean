/- cb: each given function is its plain function, printed by a program. -/
import Derived.Test.YtmccfdihkphfaaaGreatRECon7
open Bool renaming false->e
open _root_ renaming trivial->i
noncomputable section
open Go Go.Lft
set_option linter.unusedVariables false
set_option maxRecDepth 100000
namespace Go.Proofs.Pk
def Ku:Con:=⟨264,[.v iT],[iT],⟨[.v iT],[]⟩,[iT],λh=>Pw.jkd h⟩
def jxz:FnD where
 N:=18
 np:=1
theorem Z0:aM Ku:=
 cOf aN aO jxz Ku Tryz.func264 i i
def Q5:Con:=⟨314,[.v aF],[aF],⟨[.v iT,.v iT],[]⟩,[iT,iT],λh=>Pw.jqN h⟩
def jzF:FnD where
 N:=29
 np:=1
 cs:=[F3,Q4,Ku]
 ds:=[⟨0,[sB 64 0,sI,sI,.b (.cell [.d iT,.d iT,.d iT] e)],[iT,iT,iT,iT,iT],[⟨.exit 0,[sB 64 0,sI,.b (.cell [.d iT,.d iT,.d iT] e)],[iT,iT,iT,iT]⟩],Pw.unc5 (Pw.j7r)⟩]
 keep:=[(0,⟨[1,4,5],[64],[],[]⟩)]
 keepX:=[(0,.exit 0,⟨[1,4],[64],[],[]⟩)]
theorem gH:aM Q5:=
 cOf aN aO jzF Q5 Tryz.func314 (ja Q3 (ja jtc (ja Z0 i))) (ja (λh=>by kernel_rfl) i)
def Kv:Con:=⟨274,[.v iT],[iT],⟨[.v iT],[]⟩,[iT],λh=>Pw.jcW h⟩
def jrl:FnD where
 N:=7
 np:=1
theorem Z1:aM Kv:=
 cOf aN aO jrl Kv Tryz.func274 i i
def Q6:Con:=⟨266,[.v iT,.v iT,.v iT,.v iT],[iT,iT,iT,iT],⟨[.v iT,.v iT],[]⟩,[iT,iT],Pw.unc4 Pw.jqO⟩
def jzG:FnD where
 N:=63
 np:=4
 cs:=[F3,Q5,Kv]
 ds:=[⟨0,[sI,sI,sI,sI,sI,sI],[iT,iT,iT,iT,iT,iT],[⟨.exit 0,[sI,sI,sI,sI,sI],[iT,iT,iT,iT,iT]⟩],Pw.unc6 (Pw.j7s)⟩,⟨2,[sI,sI,sI,sI],[iT,iT,iT,iT],[⟨.exit 2,[sI],[iT]⟩],Pw.unc4 (Pw.j7t)⟩]
 keep:=[(0,⟨[0,1,2,3,10,12],[],[],[]⟩),(2,⟨[0,1,10,12],[],[],[]⟩)]
 keepX:=[(0,.exit 0,⟨[0,1,2,10,12],[],[],[]⟩),(2,.exit 2,⟨[12],[],[],[]⟩)]
theorem gI:aM Q6:=
 cOf aN aO jzG Q6 Tryz.func266 (ja Q3 (ja gH (ja Z1 i))) (ja (λh=>by kernel_rfl) (ja (λh=>by kernel_rfl) i))
def Q7:Con:=⟨215,[.v bP],[bP],⟨[.own 261 af],[]⟩,[af],λh=>Pw.j9Q h⟩
def jlG:FnD where
 N:=98
 np:=1
 cs:=[Q6]
 ds:=[⟨0,[sD bP,sO 1000000,sI,.b (.lst 261 aT e)],[bP,iT,af],[⟨.exit 0,[sO 1500100,.b (.lst 261 aT e)],[af]⟩],Pw.unc3 (Pw.j2V)⟩,⟨2,[sD bP,sO 1002000,sI,sI,.b (.lst 261 aT e)],[bP,iT,iT,af],[⟨.exit 2,[sD bP,sO 1502300,sI,.b (.lst 261 aT e)],[bP,iT,af]⟩],Pw.unc4 (Pw.j2U)⟩,⟨4,[sD bP,sO 1004000,sI,sI,sB 512 0,sI,.b (.cell [.d iT,.d iT] e),.b (.lst 261 aT e)],[bP,iT,iT,iT,iT,iT,af],[⟨.exit 4,[sD bP,sO 1504500,sI,sI,sB 512 0,sI,.b (.cell [.d iT,.d iT] e),.b (.lst 261 aT e)],[bP,iT,iT,iT,iT,iT,af]⟩],Pw.unc7 (Pw.j2T)⟩]
 keep:=[(0,⟨[0,3,4],[],[⟨1000000,261,aT,[.slot 3],e⟩],[]⟩),(2,⟨[0,3,4,5],[],[⟨1002000,261,aT,[.slot 3],e⟩],[]⟩),(4,⟨[0,3,4,5,8,9],[512],[⟨1004000,261,aT,[.slot 3],e⟩],[]⟩)]
 keepX:=[(0,.exit 0,⟨[3],[],[⟨1500100,261,aT,[.slot 3],e⟩],[]⟩),(2,.exit 2,⟨[0,3,4],[],[⟨1502300,261,aT,[.slot 3],e⟩],[]⟩),(4,.exit 4,⟨[0,3,4,5,8,9],[512],[⟨1504500,261,aT,[.slot 3],e⟩],[]⟩)]
 ro:=[true]
 dw:=[(9,[[],[],[],[],[],[],[],[],[],[],[],[],[],[],[512],[512]]),(14,[[],[],[],[],[],[],[],[5376]])]
theorem jkO:aM Q7:=
 cOf aN aO jlG Q7 Tryz.func215 (ja gI i) (ja (λh=>by kernel_rfl) (ja (λh=>by kernel_rfl) (ja (λh=>by kernel_rfl) i)))
def xm:Con:=⟨142,[.v bk],[bk],⟨[.own 201 af,.v iT],[]⟩,[af,iT],λh=>Pw.j0e h⟩
def jlH:FnD where
 N:=119
 np:=1
 cs:=[xn,Q0,Q7]
 ds:=[⟨0,[sB 64 0,sI,sI,.b (.cell [.d .str,.d iT,.d bP] e)],[iT,iT,.str,iT,bP],[⟨.ret,[.s (.one (.nil)),sI],[iT]⟩,⟨.exit 0,[sB 64 0,sI,.b (.cell [.d .str,.d iT,.d bP] e)],[iT,.str,iT,bP]⟩],Pw.unc5 (Pw.j1Y)⟩,⟨2,[sO 1002000,sO 1002001,sI,sI,.b (.lst 201 aT e),.b (.lst 261 aT e)],[iT,iT,af,af],[⟨.ret,[.s (.one (.nil)),sI],[iT]⟩,⟨.exit 2,[sO 1502300,.b (.lst 201 aT e)],[af]⟩],Pw.unc4 (Pw.j1D)⟩]
 keep:=[(0,⟨[1,4,5],[64],[],[]⟩),(2,⟨[6,7,8,9],[],[⟨1002000,201,aT,[.slot 6],e⟩,⟨1002001,261,aT,[.slot 7],e⟩],[]⟩)]
 keepX:=[(0,.ret,⟨[2,3],[],[],[]⟩),(0,.exit 0,⟨[1,4],[64],[],[]⟩),(2,.ret,⟨[2,3],[],[],[]⟩),(2,.exit 2,⟨[6],[],[⟨1502300,201,aT,[.slot 6],e⟩],[]⟩)]
 ro:=[true,e]
 dw:=[(21,[[],[],[],[],[],[],[],[],[],[],[],[],[],[640],[640]]),(24,[[],[],[7296],[7360,1002000],[],[],[],[]])]
theorem Cz:aM xm:=
 cOf aN aO jlH xm Tryz.func142 (ja CA (ja jtb (ja jkO i))) (ja (λh=>by kernel_rfl) (ja (λh=>by kernel_rfl) i))
def Kw:Con:=⟨203,[.v bk],[bk],⟨[.v iT],[]⟩,[iT],λh=>Pw.j7v h⟩
def juQ:FnD where
 N:=11
 np:=1
 cs:=[xm]
theorem Z2:aM Kw:=
 cOf aN aO juQ Kw Tryz.func203 (ja Cz i) i
def Q8:Con:=⟨204,[.v bk],[bk],⟨[.v .bool],[]⟩,[.bool],λh=>Pw.jaz h⟩
def jrm:FnD where
 N:=28
 np:=1
 ds:=[⟨0,[sB 64 0,sD .bool,sI,.b (.cell [.d .str,.d iT,.d bP] e)],[.bool,iT,.str,iT,bP],[⟨.exit 0,[sD .bool],[.bool]⟩],Pw.unc5 (Pw.j4J)⟩]
 keep:=[(0,⟨[1,3,4],[64],[],[]⟩)]
 keepX:=[(0,.exit 0,⟨[3],[],[],[]⟩)]
theorem jp9:aM Q8:=
 cOf aN aO jrm Q8 Tryz.func204 i (ja (λh=>by kernel_rfl) i)
def Q9:Con:=⟨131,[.v aB],[aB],⟨[.v iT],[]⟩,[iT],λh=>Pw.jkh h⟩
def juR:FnD where
 N:=44
 np:=1
 cs:=[CD,Kw,Q8]
 ds:=[⟨0,[sB 64 0,sO 1000000,sI,.b (.cell [.d au,.d ax,.d aw,.d aA] e),.b (.lst 9 .str e)],[iT,au,ax,aw,aA,(.list .str)],[⟨.ret,[sI],[iT]⟩,⟨.exit 0,[],[]⟩],Pw.unc6 (Pw.j5X)⟩]
 keep:=[(0,⟨[1,3,4],[64],[⟨1000000,9,.str,[.slot 3],e⟩],[]⟩)]
 keepX:=[(0,.ret,⟨[2],[],[],[]⟩)]
theorem jtd:aM Q9:=
 cOf aN aO juR Q9 Tryz.func131 (ja Kt (ja Z2 (ja jp9 i))) (ja (λh=>by kernel_rfl) i)
def Ap:Con:=⟨205,[.v iT,.v iT,.v iT],[iT,iT,iT],⟨[.v .bool],[]⟩,[.bool],Pw.unc3 Pw.j85⟩
def jBJ:FnD where
 N:=15
 np:=3
theorem F4:aM Ap:=
 cOf aN aO jBJ Ap Tryz.func205 i i
def Cy:Con:=⟨153,[.v af],[af],⟨[.v iT],[]⟩,[iT],λh=>Pw.j7w h⟩
def juS:FnD where
 N:=56
 np:=1
 ds:=[⟨0,[sD af,sI],[af,iT],[⟨.ret,[sI],[iT]⟩,⟨.exit 0,[],[]⟩],Pw.unc2 (Pw.j3g)⟩]
 keep:=[(0,⟨[0,3],[],[],[]⟩)]
 keepX:=[(0,.ret,⟨[2],[],[],[]⟩)]
theorem JY:aM Cy:=
 cOf aN aO juS Cy Tryz.func153 i (ja (λh=>by kernel_rfl) i)
def Ra:Con:=⟨206,[.v iT],[iT],⟨[.v .bool],[]⟩,[.bool],λh=>Pw.jhk h⟩
def juT:FnD where
 N:=10
 np:=1
 cs:=[Ap]
theorem jte:aM Ra:=
 cOf aN aO juT Ra Tryz.func206 (ja F4 i) i
def Rb:Con:=⟨132,[.v aB],[aB],⟨[.v iT],[]⟩,[iT],λh=>Pw.jic h⟩
def jtf:FnD where
 N:=58
 np:=1
 cs:=[CD,Ap,Cy,Ra]
 ds:=[⟨0,[sB 64 0,sO 1000000,sI,.b (.cell [.d au,.d ax,.d aw,.d aA] e),.b (.lst 9 .str e)],[iT,au,ax,aw,aA,(.list .str)],[⟨.ret,[sI],[iT]⟩,⟨.exit 0,[],[]⟩],Pw.unc6 (Pw.j5f)⟩]
 keep:=[(0,⟨[1,3,4],[64],[⟨1000000,9,.str,[.slot 3],e⟩],[]⟩)]
 keepX:=[(0,.ret,⟨[2],[],[],[]⟩)]
theorem jrn:aM Rb:=
 cOf aN aO jtf Rb Tryz.func132 (ja Kt (ja F4 (ja JY (ja jte i)))) (ja (λh=>by kernel_rfl) i)
def F5:Con:=⟨207,[],[],⟨[.v iT],[]⟩,[iT],λh=>Pw.jaA⟩
def jtg:FnD where
 N:=3
 np:=0
 cs:=[Ku]
theorem Rc:aM F5:=
 cOf aN aO jtg F5 Tryz.func207 (ja Z0 i) i
def Re:Con:=⟨133,[.v aB],[aB],⟨[.v iT],[]⟩,[iT],λh=>Pw.jch h⟩
def joj:FnD where
 N:=78
 np:=1
 cs:=[CD,Ap,F5]
 ds:=[⟨0,[sB 64 0,sO 1000000,sI,.b (.cell [.d au,.d ax,.d aw,.d aA] e),.b (.lst 9 .str e)],[iT,au,ax,aw,aA,(.list .str)],[⟨.ret,[sI],[iT]⟩,⟨.exit 0,[],[]⟩],Pw.unc6 (Pw.j3F)⟩,⟨2,[sB 64 0,sO 1002000,sI,sB 320 0,sI,.b (.cell [.d au,.d ax,.d aw,.d aA] e),.b (.cell [.d .str,.d iT,.d (.list iT)] e),.b (.lst 9 .str e)],[iT,iT,au,ax,aw,aA,.str,iT,(.list iT),(.list .str)],[⟨.ret,[sI],[iT]⟩,⟨.exit 2,[sB 64 0,sO 1502300,sI,sB 320 0,.b (.cell [.d au,.d ax,.d aw,.d aA] e),.b (.cell [.d .str,.d iT,.d (.list iT)] e),.b (.lst 9 .str e)],[iT,au,ax,aw,aA,.str,iT,(.list iT),(.list .str)]⟩],Pw.u8 Pw.unc2 (Pw.j3D)⟩,⟨4,[sB 64 0,sO 1004000,sI,sB 320 0,sI,.b (.cell [.d au,.d ax,.d aw,.d aA] e),.b (.cell [.d .str,.d iT,.d (.list iT)] e),.b (.lst 9 .str e)],[iT,iT,au,ax,aw,aA,.str,iT,(.list iT),(.list .str)],[⟨.ret,[sI],[iT]⟩,⟨.exit 4,[sB 64 0,sO 1504500,sI,.b (.cell [.d au,.d ax,.d aw,.d aA] e),.b (.lst 9 .str e)],[iT,au,ax,aw,aA,(.list .str)]⟩],Pw.u8 Pw.unc2 (Pw.j3E)⟩]
 keep:=[(0,⟨[1,3,4],[64],[⟨1000000,9,.str,[.slot 3],e⟩],[]⟩),(2,⟨[1,3,4,5,7],[64,320],[⟨1002000,9,.str,[.slot 3],e⟩],[]⟩),(4,⟨[1,3,4,5,8],[64,320],[⟨1004000,9,.str,[.slot 3],e⟩],[]⟩)]
 keepX:=[(0,.ret,⟨[2],[],[],[]⟩),(2,.ret,⟨[2],[],[],[]⟩),(2,.exit 2,⟨[1,3,4,5],[64,320],[⟨1502300,9,.str,[.slot 3],e⟩],[]⟩),(4,.ret,⟨[2],[],[],[]⟩),(4,.exit 4,⟨[1,3,4],[64],[⟨1504500,9,.str,[.slot 3],e⟩],[]⟩)]
theorem jmF:aM Re:=
 cOf aN aO joj Re Tryz.func133 (ja Kt (ja F4 (ja Rc i))) (ja (λh=>by kernel_rfl) (ja (λh=>by kernel_rfl) (ja (λh=>by kernel_rfl) i)))
def Rf:Con:=⟨208,[.v aB,.v bD],[aB,bD],⟨[.v iT],[]⟩,[iT],Pw.unc2 Pw.jhm⟩
def juU:FnD where
 N:=102
 np:=2
 cs:=[Ap,Cy,F5]
 ds:=[⟨1,[sB 128 0,sB 192 0,sI,.b (.cell [.d au,.d ax,.d aw,.d aA] e),.b (.cell [.d .str,.d iT,.d iT,.d iT,.d iT,.d iT,.d (.list iT),.d af,.d iT,.d iT] e)],[iT,au,ax,aw,aA,.str,iT,iT,iT,iT,iT,(.list iT),af,iT,iT],[⟨.ret,[sI],[iT]⟩,⟨.exit 1,[sB 128 0,sB 192 0,.b (.cell [.d au,.d ax,.d aw,.d aA] e),.b (.cell [.d .str,.d iT,.d iT,.d iT,.d iT,.d iT,.d (.list iT),.d af,.d iT,.d iT] e)],[au,ax,aw,aA,.str,iT,iT,iT,iT,iT,(.list iT),af,iT,iT]⟩],Pw.u8 Pw.unc7 (Pw.j5Y)⟩]
 keep:=[(1,⟨[2,3,5],[128,192],[],[]⟩)]
 keepX:=[(1,.ret,⟨[4],[],[],[]⟩),(1,.exit 1,⟨[2,3],[128,192],[],[]⟩)]
theorem jth:aM Rf:=
 cOf aN aO juU Rf Tryz.func208 (ja F4 (ja JY (ja Rc i))) (ja (λh=>by kernel_rfl) i)
def Rg:Con:=⟨209,[.v aB,.v fw],[aB,fw],⟨[.v iT],[]⟩,[iT],Pw.unc2 Pw.jki⟩
def jxA:FnD where
 N:=86
 np:=2
 cs:=[Ap,F5]
theorem juV:aM Rg:=
 cOf aN aO jxA Rg Tryz.func209 (ja F4 (ja Rc i)) i
def Rh:Con:=⟨134,[.v aB],[aB],⟨[.v iT],[]⟩,[iT],λh=>Pw.jfS h⟩
def jok:FnD where
 N:=95
 np:=1
 cs:=[CD,Rf,Rg]
 ds:=[⟨0,[sB 64 0,sO 1000000,sI,.b (.cell [.d au,.d ax,.d aw,.d aA] e),.b (.lst 9 .str e)],[iT,au,ax,aw,aA,(.list .str)],[⟨.ret,[sI],[iT]⟩,⟨.exit 0,[],[]⟩],Pw.unc6 (Pw.j3I)⟩,⟨2,[sB 64 0,sO 1002000,sI,sB 320 0,sO 1002001,sI,.b (.cell [.d au,.d ax,.d aw,.d aA] e),.b (.cell [.d .str,.d bC,.d bt] e),.b (.lst 9 .str e),.b (.lst 9 .str e)],[iT,iT,au,ax,aw,aA,.str,bC,bt,(.list .str),(.list .str)],[⟨.ret,[sI],[iT]⟩,⟨.exit 2,[sB 64 0,sO 1502300,sI,sB 320 0,.b (.cell [.d au,.d ax,.d aw,.d aA] e),.b (.cell [.d .str,.d bC,.d bt] e),.b (.lst 9 .str e)],[iT,au,ax,aw,aA,.str,bC,bt,(.list .str)]⟩],Pw.u8 Pw.unc3 (Pw.j3G)⟩,⟨4,[sB 64 0,sO 1004000,sI,sB 320 0,sI,.b (.cell [.d au,.d ax,.d aw,.d aA] e),.b (.cell [.d .str,.d bC,.d bt] e),.b (.lst 9 .str e)],[iT,iT,au,ax,aw,aA,.str,bC,bt,(.list .str)],[⟨.ret,[sI],[iT]⟩,⟨.exit 4,[sB 64 0,sO 1504500,sI,.b (.cell [.d au,.d ax,.d aw,.d aA] e),.b (.lst 9 .str e)],[iT,au,ax,aw,aA,(.list .str)]⟩],Pw.u8 Pw.unc2 (Pw.j3H)⟩]
 keep:=[(0,⟨[1,3,4],[64],[⟨1000000,9,.str,[.slot 3],e⟩],[]⟩),(2,⟨[1,3,4,5,7,8],[64,320],[⟨1002000,9,.str,[.slot 3],e⟩,⟨1002001,9,.str,[.slot 7],e⟩],[]⟩),(4,⟨[1,3,4,5,11],[64,320],[⟨1004000,9,.str,[.slot 3],e⟩],[]⟩)]
 keepX:=[(0,.ret,⟨[2],[],[],[]⟩),(2,.ret,⟨[2],[],[],[]⟩),(2,.exit 2,⟨[1,3,4,5],[64,320],[⟨1502300,9,.str,[.slot 3],e⟩],[]⟩),(4,.ret,⟨[2],[],[],[]⟩),(4,.exit 4,⟨[1,3,4],[64],[⟨1504500,9,.str,[.slot 3],e⟩],[]⟩)]
theorem jmG:aM Rh:=
 cOf aN aO jok Rh Tryz.func134 (ja Kt (ja jth (ja juV i))) (ja (λh=>by kernel_rfl) (ja (λh=>by kernel_rfl) (ja (λh=>by kernel_rfl) i)))
def FT:Con:=⟨70,[.v aB],[aB],⟨[.v iT],[]⟩,[iT],λh=>Pw.j8y h⟩
def juW:FnD where
 N:=45
 np:=1
 cs:=[Q9,Rb,Re,Rh]
theorem PB:aM FT:=
 cOf aN aO juW FT Tryz.func70 (ja jtd (ja jrn (ja jmF (ja jmG i)))) i
def FQ:Con:=⟨76,[.v iT,.v iT],[iT,iT],⟨[.v .bool],[]⟩,[.bool],Pw.unc2 Pw.j9S⟩
def juX:FnD where
 N:=26
 np:=2
theorem Pp:aM FQ:=
 cOf aN aO juX FQ Tryz.func76 i i
end Go.Proofs.Pk
