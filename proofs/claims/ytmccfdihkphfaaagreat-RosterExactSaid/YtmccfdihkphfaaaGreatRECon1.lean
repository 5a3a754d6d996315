/- cb: each given function is its plain function, printed by a program. -/
import Derived.Test.YtmccfdihkphfaaaGreatRECon0
open _root_ renaming trivial->e
open Bool renaming false->i,true->j
noncomputable section
open Go Go.Lft
set_option linter.unusedVariables false
set_option maxRecDepth 100000
namespace Go.Proofs.Pk
def O0:Con:=⟨345,[.rl 349 af,.v iT,.clo 340 []],[af,iT],⟨[],[.rl af]⟩,[af],Pw.unc2 Pw.j2e⟩
def j7X:FnD where
 N:=63
 np:=3
 cs:=[OZ]
 ds:=[⟨0,[sO 0,sI,sC 340 [],sI,sI,sI,.b (.lst 349 aT i)],[iT,iT,iT,iT,af],[⟨.exit 0,[sO 0,sI,sC 340 [],sI,sI,.b (.lst 349 aT i)],[iT,iT,iT,af]⟩],Pw.unc5 (Pw.j0O)⟩,⟨2,[sO 0,sI,sC 340 [],sI,.b (.lst 349 aT i)],[iT,iT,af],[⟨.exit 2,[.b (.lst 349 aT i)],[af]⟩],Pw.unc3 (Pw.j0P)⟩,⟨4,[sO 0,sI,sC 340 [],sI,sI,sI,.b (.lst 349 aT i)],[iT,iT,iT,iT,af],[⟨.exit 4,[sO 0,sI,sC 340 [],sI,sI,.b (.lst 349 aT i)],[iT,iT,iT,af]⟩],Pw.unc5 (Pw.j2F)⟩]
 modes:=[(346,[j,i,i,i])]
 keep:=[(0,⟨[0,1,2,6,7,8],[0],[],[]⟩),(2,⟨[0,1,2,6],[0],[],[]⟩),(4,⟨[0,1,2,6,7,8],[0],[],[]⟩)]
 keepX:=[(0,.exit 0,⟨[0,1,2,6,7],[0],[],[]⟩),(2,.exit 2,⟨[],[0],[],[]⟩),(4,.exit 4,⟨[0,1,2,6,7],[0],[],[]⟩)]
theorem j7E:aM O0:=
 cOf aN aO j7X O0 Tryz.func345 (ja j5F e) (ja (λh=>by kernel_rfl) (ja (λh=>by kernel_rfl) (ja (λh=>by kernel_rfl) e)))
def O1:Con:=⟨339,[.rl 349 af,.clo 340 []],[af],⟨[],[.rl af]⟩,[af],λh=>Pw.j0g h⟩
def j46:FnD where
 N:=9
 np:=2
 cs:=[O0]
 modes:=[(345,[j,i,i])]
theorem j3O:aM O1:=
 cOf aN aO j46 O1 Tryz.func339 (ja j7E e) e
def O2:Con:=⟨327,[.v bk],[bk],⟨[.own 349 af,.v iT],[]⟩,[af,iT],λh=>Pw.j2n h⟩
def jkr:FnD where
 N:=86
 np:=1
 cs:=[FK,OS,OX,O1]
 ds:=[⟨0,[sB 64 0,sI,sD bP,sI,sI,.b (.cell [.d .str,.d iT,.d bP] i)],[iT,bP,iT,iT,.str,iT,bP],[⟨.ret,[.s (.one (.nil)),sI],[iT]⟩,⟨.exit 0,[sB 64 0,sI,.b (.cell [.d .str,.d iT,.d bP] i)],[iT,.str,iT,bP]⟩],Pw.unc7 (Pw.j1M)⟩,⟨2,[sO 1002000,sD bP,sI,sI,.b (.lst 349 aT i)],[bP,iT,iT,af],[⟨.exit 2,[sO 1502300,.b (.lst 349 aT i)],[af]⟩],Pw.unc4 (Pw.j2s)⟩,⟨4,[sO 1004000,sB 640 0,sI,sD bP,sI,sI,.b (.cell [.d iT,.d iT,.d iT,.d iT,.d iT,.d iT,.d iT] i),.b (.lst 349 aT i)],[iT,bP,iT,iT,iT,iT,iT,iT,iT,iT,iT,af],[⟨.exit 4,[sO 1504500,sD bP,sI,sI,.b (.lst 349 aT i)],[bP,iT,iT,af]⟩],Pw.u8 Pw.unc4 (Pw.j2r)⟩]
 modes:=[(339,[j,i])]
 keep:=[(0,⟨[1,4,23,24,25],[64],[],[]⟩),(2,⟨[8,46,47,48],[],[⟨1002000,349,aT,[.slot 8],i⟩],[]⟩),(4,⟨[8,10,11,46,47,48],[640],[⟨1004000,349,aT,[.slot 8],i⟩],[]⟩)]
 keepX:=[(0,.ret,⟨[2,3],[],[],[]⟩),(0,.exit 0,⟨[1,4],[64],[],[]⟩),(2,.exit 2,⟨[8],[],[⟨1502300,349,aT,[.slot 8],i⟩],[]⟩),(4,.exit 4,⟨[8,46,47,48],[],[⟨1504500,349,aT,[.slot 8],i⟩],[]⟩)]
 ro:=[j,i]
theorem jjd:aM O2:=
 cOf aN aO jkr O2 Tryz.func327 (ja OR (ja jsE (ja jsH (ja j3O e)))) (ja (λh=>by kernel_rfl) (ja (λh=>by kernel_rfl) (ja (λh=>by kernel_rfl) e)))
def JS:Con:=⟨305,[.v bk],[bk],⟨[.own 201 af,.v iT],[]⟩,[af,iT],λh=>Pw.j0U h⟩
def jks:FnD where
 N:=79
 np:=1
 cs:=[FK,O2]
 ds:=[⟨0,[sO 1000000,sI,sO 1000001,sI,sI,.b (.lst 201 aT i),.b (.lst 349 aT i)],[iT,iT,iT,af,af],[⟨.ret,[.s (.one (.nil)),sI],[iT]⟩,⟨.exit 0,[sO 1500100,.b (.lst 201 aT i)],[af]⟩],Pw.unc5 (Pw.j1o)⟩]
 keep:=[(0,⟨[6,7,22,23,24],[],[⟨1000000,201,aT,[.slot 6],i⟩,⟨1000001,349,aT,[.slot 22],i⟩],[]⟩)]
 keepX:=[(0,.ret,⟨[2,3],[],[],[]⟩),(0,.exit 0,⟨[6],[],[⟨1500100,201,aT,[.slot 6],i⟩],[]⟩)]
 ro:=[j,i]
theorem Zf:aM JS:=
 cOf aN aO jks JS Tryz.func305 (ja OR (ja jjd e)) (ja (λh=>by kernel_rfl) e)
def O3:Con:=⟨247,[.v bk],[bk],⟨[.v iT],[]⟩,[iT],λh=>Pw.jf8 h⟩
def jsI:FnD where
 N:=11
 np:=1
 cs:=[JS]
theorem jqZ:aM O3:=
 cOf aN aO jsI O3 Tryz.func247 (ja Zf e) e
def O4:Con:=⟨249,[.v ov],[ov],⟨[.v .bool],[]⟩,[.bool],λh=>Pw.j88 h⟩
def jgQ:FnD where
 N:=7
 np:=1
theorem jg4:aM O4:=
 cOf aN aO jgQ O4 Tryz.func249 e e
def O5:Con:=⟨306,[.v bP,.clo 249 []],[bP],⟨[.v iT],[]⟩,[iT],λh=>Pw.j1E h⟩
def j67:FnD where
 N:=19
 np:=2
 cs:=[O4]
 ds:=[⟨0,[sD bP,sC 249 [],sI,sI],[bP,iT,iT],[⟨.ret,[sI],[iT]⟩,⟨.exit 0,[],[]⟩],Pw.unc3 (Pw.j0l)⟩]
 keep:=[(0,⟨[0,1,7,8],[],[],[]⟩)]
 keepX:=[(0,.ret,⟨[4],[],[],[]⟩)]
theorem j66:aM O5:=
 cOf aN aO j67 O5 Tryz.func306 (ja jg4 e) (ja (λh=>by kernel_rfl) e)
def O6:Con:=⟨248,[.v bP,.clo 249 []],[bP],⟨[.v .bool],[]⟩,[.bool],λh=>Pw.j0J h⟩
def j5z:FnD where
 N:=9
 np:=2
 cs:=[O5]
theorem j5q:aM O6:=
 cOf aN aO j5z O6 Tryz.func248 (ja j66 e) e
def O7:Con:=⟨190,[.v bk],[bk],⟨[.v iT],[]⟩,[iT],λh=>Pw.j1V h⟩
def jje:FnD where
 N:=17
 np:=1
 cs:=[O3,O6]
theorem jin:aM O7:=
 cOf aN aO jje O7 Tryz.func190 (ja jqZ (ja j5q e)) e
def O8:Con:=⟨188,[.v au,.clo 189 [],.clo 190 []],[au],⟨[.v iT],[]⟩,[iT],λh=>Pw.j34 h⟩
def jfm:FnD where
 N:=34
 np:=3
 cs:=[ON,Am,O7]
 ds:=[⟨0,[sC 189 [],sC 190 [],sO 1000000,sD au,sI,sI,.b (.lst 4294967535 (.pair .str .bool) i)],[au,iT,iT,(.list (.pair .str .bool))],[⟨.ret,[sI],[iT]⟩,⟨.exit 0,[],[]⟩],Pw.unc4 (Pw.j0Z)⟩]
 modes:=[(191,[i,j])]
 keep:=[(0,⟨[1,2,7,13,14,15],[],[⟨1000000,4294967535,(.pair .str .bool),[.slot 7],i⟩],[]⟩)]
 keepX:=[(0,.ret,⟨[6],[],[],[]⟩)]
theorem jex:aM O8:=
 cOf aN aO jfm O8 Tryz.func188 (ja jjc (ja FJ (ja jin e))) (ja (λh=>by kernel_rfl) e)
def An:Con:=⟨251,[.v iT,.v iT],[iT,iT],⟨[.v .bool],[]⟩,[.bool],Pw.unc2 Pw.j1m⟩
def jnY:FnD where
 N:=12
 np:=2
theorem FM:aM An:=
 cOf aN aO jnY An Tryz.func251 e e
def JT:Con:=⟨252,[.v af],[af],⟨[.v iT],[]⟩,[iT],λh=>Pw.jcD h⟩
def jsJ:FnD where
 N:=46
 np:=1
 ds:=[⟨0,[sD af,sD af,sI,sI],[af,af,iT,iT],[⟨.ret,[sI],[iT]⟩,⟨.exit 0,[],[]⟩],Pw.unc4 (Pw.j52)⟩]
 keep:=[(0,⟨[0,8,9,10],[],[],[]⟩)]
 keepX:=[(0,.ret,⟨[2],[],[],[]⟩)]
theorem Zg:aM JT:=
 cOf aN aO jsJ JT Tryz.func252 e (ja (λh=>by kernel_rfl) e)
def FN:Con:=⟨309,[.v iT,.v iT,.v iT],[iT,iT,iT],⟨[.v .bool],[]⟩,[.bool],Pw.unc3 Pw.j3d⟩
def jsK:FnD where
 N:=15
 np:=3
theorem O9:aM FN:=
 cOf aN aO jsK FN Tryz.func309 e e
def Pa:Con:=⟨253,[.v iT],[iT],⟨[.v .bool],[]⟩,[.bool],λh=>Pw.j6i h⟩
def jnZ:FnD where
 N:=10
 np:=1
 cs:=[FN]
theorem jmk:aM Pa:=
 cOf aN aO jnZ Pa Tryz.func253 (ja O9 e) e
def Pb:Con:=⟨192,[.v aB,.v fN],[aB,fN],⟨[.v iT],[]⟩,[iT],Pw.unc2 Pw.j4z⟩
def jhu:FnD where
 N:=29
 np:=2
 cs:=[An,JT,Pa]
theorem jgR:aM Pb:=
 cOf aN aO jhu Pb Tryz.func192 (ja FM (ja Zg (ja jmk e))) e
def Pc:Con:=⟨194,[.v fm],[fm],⟨[.v .str],[]⟩,[.str],λh=>Pw.j8J h⟩
def jku:FnD where
 N:=5
 np:=1
theorem jjf:aM Pc:=
 cOf aN aO jku Pc Tryz.func194 e e
def Pd:Con:=⟨330,[.v iT],[iT],⟨[.v iT],[]⟩,[iT],λh=>Pw.ji4 h⟩
def jsL:FnD where
 N:=15
 np:=1
 cs:=[JQ,FL]
 ds:=[⟨0,[sI,sI],[iT,iT],[⟨.exit 0,[sI],[iT]⟩],Pw.unc2 (Pw.j53)⟩]
 keep:=[(0,⟨[0,3],[],[],[]⟩)]
 keepX:=[(0,.exit 0,⟨[3],[],[],[]⟩)]
theorem jr0:aM Pd:=
 cOf aN aO jsL Pd Tryz.func330 (ja Zd (ja OV e)) (ja (λh=>by kernel_rfl) e)
def Pe:Con:=⟨310,[.v iT],[iT],⟨[.v aF,.v iT],[]⟩,[aF,iT],λh=>Pw.j6a h⟩
def joR:FnD where
 N:=45
 np:=1
 cs:=[Cx,FL,Pd]
 ds:=[⟨0,[sB 128 0,sB 256 0,sI,.b (.cell [.d iT,.d iT,.d iT] i),.b (.cell [.d iT,.d iT,.d iT] i)],[iT,iT,iT,iT,iT,iT,iT],[⟨.exit 0,[sB 128 0,sB 256 0,sI,.b (.cell [.d iT,.d iT,.d iT] i),.b (.cell [.d iT,.d iT,.d iT] i)],[iT,iT,iT,iT,iT,iT,iT]⟩],Pw.unc7 (Pw.j49)⟩]
 keep:=[(0,⟨[2,4,5],[128,256],[],[]⟩)]
 keepX:=[(0,.exit 0,⟨[2,4,5],[128,256],[],[]⟩)]
theorem jo0:aM Pe:=
 cOf aN aO joR Pe Tryz.func310 (ja JP (ja OV (ja jr0 e))) (ja (λh=>by kernel_rfl) e)
def FO:Con:=⟨256,[.v iT],[iT],⟨[.v .bool],[]⟩,[.bool],λh=>Pw.j1g h⟩
def jr1:FnD where
 N:=12
 np:=1
 cs:=[Pe]
theorem Pg:aM FO:=
 cOf aN aO jr1 FO Tryz.func256 (ja jo0 e) e
def Pj:Con:=⟨255,[.v iT],[iT],⟨[.v .bool],[]⟩,[.bool],λh=>Pw.j3Q h⟩
def jdF:FnD where
 N:=6
 np:=1
 cs:=[FO]
theorem jdh:aM Pj:=
 cOf aN aO jdF Pj Tryz.func255 (ja Pg e) e
end Go.Proofs.Pk
