/- Contracts. -/
import Derived.Test.YtmccfdihkphfaaaGreatCECon8
open Bool renaming false->e,true->j
open _root_ renaming trivial->i
noncomputable section
open Go Go.Lft
set_option linter.unusedVariables false
set_option maxRecDepth 100000
namespace Go.Proofs.Pk
def TB:Con:=⟨133,[.v aG],[aG],⟨[.v iT],[]⟩,[iT],λh=>Pw.jdY h⟩
def jqm:FnD where
 N:=78
 np:=1
 cs:=[Ds,Bc,GG]
 ds:=[⟨0,[sB 64 0,sO 1000000,sI,.b (.cell [.d al,.d au,.d ar,.d ay] e),.b (.lst 9 .str e)],[iT,al,au,ar,ay,(.list .str)],[⟨.ret,[sI],[iT]⟩,⟨.exit 0,[],[]⟩],Pw.unc6 (Pw.j4w)⟩,⟨2,[sB 64 0,sO 1002000,sI,sB 320 0,sI,.b (.cell [.d al,.d au,.d ar,.d ay] e),.b (.cell [.d .str,.d iT,.d (.list iT)] e),.b (.lst 9 .str e)],[iT,iT,al,au,ar,ay,.str,iT,(.list iT),(.list .str)],[⟨.ret,[sI],[iT]⟩,⟨.exit 2,[sB 64 0,sO 1502300,sI,sB 320 0,.b (.cell [.d al,.d au,.d ar,.d ay] e),.b (.cell [.d .str,.d iT,.d (.list iT)] e),.b (.lst 9 .str e)],[iT,al,au,ar,ay,.str,iT,(.list iT),(.list .str)]⟩],Pw.u8 Pw.unc2 (Pw.j4u)⟩,⟨4,[sB 64 0,sO 1004000,sI,sB 320 0,sI,.b (.cell [.d al,.d au,.d ar,.d ay] e),.b (.cell [.d .str,.d iT,.d (.list iT)] e),.b (.lst 9 .str e)],[iT,iT,al,au,ar,ay,.str,iT,(.list iT),(.list .str)],[⟨.ret,[sI],[iT]⟩,⟨.exit 4,[sB 64 0,sO 1504500,sI,.b (.cell [.d al,.d au,.d ar,.d ay] e),.b (.lst 9 .str e)],[iT,al,au,ar,ay,(.list .str)]⟩],Pw.u8 Pw.unc2 (Pw.j4v)⟩]
 keep:=[(0,⟨[1,3,4],[64],[⟨1000000,9,.str,[.slot 3],e⟩],[]⟩),(2,⟨[1,3,4,5,7],[64,320],[⟨1002000,9,.str,[.slot 3],e⟩],[]⟩),(4,⟨[1,3,4,5,8],[64,320],[⟨1004000,9,.str,[.slot 3],e⟩],[]⟩)]
 keepX:=[(0,.ret,⟨[2],[],[],[]⟩),(2,.ret,⟨[2],[],[],[]⟩),(2,.exit 2,⟨[1,3,4,5],[64,320],[⟨1502300,9,.str,[.slot 3],e⟩],[]⟩),(4,.ret,⟨[2],[],[],[]⟩),(4,.exit 4,⟨[1,3,4],[64],[⟨1504500,9,.str,[.slot 3],e⟩],[]⟩)]
theorem joK:aJ TB:=
 cOf aM aN jqm TB Tryz.func133 (ja KO (ja GF (ja TA i))) (ja (λh=>by kernel_rfl) (ja (λh=>by kernel_rfl) (ja (λh=>by kernel_rfl) i)))
def TC:Con:=⟨208,[.v aG,.v bE],[aG,bE],⟨[.v iT],[]⟩,[iT],Pw.unc2 Pw.jjg⟩
def jxl:FnD where
 N:=102
 np:=2
 cs:=[Bc,Dl,GG]
 ds:=[⟨1,[sB 128 0,sB 192 0,sI,.b (.cell [.d al,.d au,.d ar,.d ay] e),.b (.cell [.d .str,.d iT,.d iT,.d iT,.d iT,.d iT,.d (.list iT),.d af,.d iT,.d iT] e)],[iT,al,au,ar,ay,.str,iT,iT,iT,iT,iT,(.list iT),af,iT,iT],[⟨.ret,[sI],[iT]⟩,⟨.exit 1,[sB 128 0,sB 192 0,.b (.cell [.d al,.d au,.d ar,.d ay] e),.b (.cell [.d .str,.d iT,.d iT,.d iT,.d iT,.d iT,.d (.list iT),.d af,.d iT,.d iT] e)],[al,au,ar,ay,.str,iT,iT,iT,iT,iT,(.list iT),af,iT,iT]⟩],Pw.u8 Pw.unc7 (Pw.j6X)⟩]
 keep:=[(1,⟨[2,3,5],[128,192],[],[]⟩)]
 keepX:=[(1,.ret,⟨[4],[],[],[]⟩),(1,.exit 1,⟨[2,3],[128,192],[],[]⟩)]
theorem jvH:aJ TC:=
 cOf aM aN jxl TC Tryz.func208 (ja GF (ja Kg (ja TA i))) (ja (λh=>by kernel_rfl) i)
def TD:Con:=⟨209,[.v aG,.v bc],[aG,bc],⟨[.v iT],[]⟩,[iT],Pw.unc2 Pw.jmk⟩
def jAa:FnD where
 N:=86
 np:=2
 cs:=[Bc,GG]
theorem jxm:aJ TD:=
 cOf aM aN jAa TD Tryz.func209 (ja GF (ja TA i)) i
def TE:Con:=⟨134,[.v aG],[aG],⟨[.v iT],[]⟩,[iT],λh=>Pw.jhQ h⟩
def jqn:FnD where
 N:=95
 np:=1
 cs:=[Ds,TC,TD]
 ds:=[⟨0,[sB 64 0,sO 1000000,sI,.b (.cell [.d al,.d au,.d ar,.d ay] e),.b (.lst 9 .str e)],[iT,al,au,ar,ay,(.list .str)],[⟨.ret,[sI],[iT]⟩,⟨.exit 0,[],[]⟩],Pw.unc6 (Pw.j4z)⟩,⟨2,[sB 64 0,sO 1002000,sI,sB 320 0,sO 1002001,sI,.b (.cell [.d al,.d au,.d ar,.d ay] e),.b (.cell [.d .str,.d bh,.d ak] e),.b (.lst 9 .str e),.b (.lst 9 .str e)],[iT,iT,al,au,ar,ay,.str,bh,ak,(.list .str),(.list .str)],[⟨.ret,[sI],[iT]⟩,⟨.exit 2,[sB 64 0,sO 1502300,sI,sB 320 0,.b (.cell [.d al,.d au,.d ar,.d ay] e),.b (.cell [.d .str,.d bh,.d ak] e),.b (.lst 9 .str e)],[iT,al,au,ar,ay,.str,bh,ak,(.list .str)]⟩],Pw.u8 Pw.unc3 (Pw.j4x)⟩,⟨4,[sB 64 0,sO 1004000,sI,sB 320 0,sI,.b (.cell [.d al,.d au,.d ar,.d ay] e),.b (.cell [.d .str,.d bh,.d ak] e),.b (.lst 9 .str e)],[iT,iT,al,au,ar,ay,.str,bh,ak,(.list .str)],[⟨.ret,[sI],[iT]⟩,⟨.exit 4,[sB 64 0,sO 1504500,sI,.b (.cell [.d al,.d au,.d ar,.d ay] e),.b (.lst 9 .str e)],[iT,al,au,ar,ay,(.list .str)]⟩],Pw.u8 Pw.unc2 (Pw.j4y)⟩]
 keep:=[(0,⟨[1,3,4],[64],[⟨1000000,9,.str,[.slot 3],e⟩],[]⟩),(2,⟨[1,3,4,5,7,8],[64,320],[⟨1002000,9,.str,[.slot 3],e⟩,⟨1002001,9,.str,[.slot 7],e⟩],[]⟩),(4,⟨[1,3,4,5,11],[64,320],[⟨1004000,9,.str,[.slot 3],e⟩],[]⟩)]
 keepX:=[(0,.ret,⟨[2],[],[],[]⟩),(2,.ret,⟨[2],[],[],[]⟩),(2,.exit 2,⟨[1,3,4,5],[64,320],[⟨1502300,9,.str,[.slot 3],e⟩],[]⟩),(4,.ret,⟨[2],[],[],[]⟩),(4,.exit 4,⟨[1,3,4],[64],[⟨1504500,9,.str,[.slot 3],e⟩],[]⟩)]
theorem joL:aJ TE:=
 cOf aM aN jqn TE Tryz.func134 (ja KO (ja jvH (ja jxm i))) (ja (λh=>by kernel_rfl) (ja (λh=>by kernel_rfl) (ja (λh=>by kernel_rfl) i)))
def Gs:Con:=⟨70,[.v aG],[aG],⟨[.v iT],[]⟩,[iT],λh=>Pw.j9N h⟩
def jxn:FnD where
 N:=45
 np:=1
 cs:=[Tw,Tz,TB,TE]
theorem Ru:aJ Gs:=
 cOf aM aN jxn Gs Tryz.func70 (ja jvD (ja jtE (ja joK (ja joL i)))) i
def Dm:Con:=⟨76,[.v iT,.v iT],[iT,iT],⟨[.v .bool],[]⟩,[.bool],Pw.unc2 Pw.j6Y⟩
def jxo:FnD where
 N:=26
 np:=2
theorem Kh:aJ Dm:=
 cOf aM aN jxo Dm Tryz.func76 i i
def Ko:Con:=⟨63,[.v aG,.v iT,.v iT,.v iT],[aG,iT,iT,iT],⟨[.v iT],[]⟩,[iT],Pw.unc4 Pw.jd7⟩
def jxp:FnD where
 N:=28
 np:=4
 cs:=[Gs,Dm]
theorem R_:aJ Ko:=
 cOf aM aN jxp Ko Tryz.func63 (ja Ru (ja Kh i)) i
def Gq:Con:=⟨144,[.v bj,.v bE],[bj,bE],⟨[.v iT],[]⟩,[iT],Pw.unc2 Pw.jbb⟩
def jxq:FnD where
 N:=58
 np:=2
 cs:=[KR]
theorem Rc:aJ Gq:=
 cOf aM aN jxq Gq Tryz.func144 (ja θ i) i
def Ki:Con:=⟨147,[.v iT],[iT],⟨[.v .bool],[]⟩,[.bool],λh=>Pw.jhc h⟩
def jxr:FnD where
 N:=5
 np:=1
 cs:=[yD]
theorem L_:aJ Ki:=
 cOf aM aN jxr Ki Tryz.func147 (ja Dn i) i
def Gu:Con:=⟨83,[.v bj,.v aR],[bj,aR],⟨[.v iT,.v iT],[]⟩,[iT,iT],Pw.unc2 Pw.j4A⟩
def jxs:FnD where
 N:=76
 np:=2
 cs:=[yD,uR,Ki]
 ds:=[⟨0,[sB 128 0,sB 192 0,sO 1000000,sI,.b (.cell [.d .str,.d iT,.d bQ] e),.b (.cell [.d iT,.d iT] e),.b (.lst 201 aR e)],[iT,.str,iT,bQ,iT,iT,af],[⟨.ret,[sI,sI],[iT,iT]⟩,⟨.exit 0,[],[]⟩],Pw.unc7 (Pw.j5x)⟩]
 keep:=[(0,⟨[2,3,6,8],[128,192],[⟨1000000,201,aR,[.slot 6],e⟩],[]⟩)]
 keepX:=[(0,.ret,⟨[4,5],[],[],[]⟩)]
theorem RB:aJ Gu:=
 cOf aM aN jxs Gu Tryz.func83 (ja Dn (ja yC (ja L_ i))) (ja (λh=>by kernel_rfl) i)
def TF:Con:=⟨317,[.v bj,.v af,.v iT],[bj,af,iT],⟨[.v iT],[]⟩,[iT],Pw.unc3 Pw.jk9⟩
def jvI:FnD where
 N:=32
 np:=3
 ds:=[⟨0,[sD af,sI,sI,sI],[af,iT,iT,iT],[⟨.exit 0,[sI],[iT]⟩],Pw.unc4 (Pw.j6k)⟩]
 keep:=[(0,⟨[1,2,7,8],[],[],[]⟩)]
 keepX:=[(0,.exit 0,⟨[7],[],[],[]⟩)]
theorem jtF:aJ TF:=
 cOf aM aN jvI TF Tryz.func317 i (ja (λh=>by kernel_rfl) i)
def TH:Con:=⟨275,[.v bj,.v iT],[bj,iT],⟨[.v iT,.v iT],[]⟩,[iT,iT],Pw.unc2 Pw.jd8⟩
def jrk:FnD where
 N:=22
 np:=2
 cs:=[yD,uR,TF]
theorem jqo:aJ TH:=
 cOf aM aN jrk TH Tryz.func275 (ja Dn (ja yC (ja jtF i))) i
def TI:Con:=⟨276,[.v iT,.v iT],[iT,iT],⟨[.v aR],[]⟩,[aR],Pw.unc2 Pw.jml⟩
def jxt:FnD where
 N:=16
 np:=2
theorem jvJ:aJ TI:=
 cOf aM aN jxt TI Tryz.func276 i i
def Gr:Con:=⟨230,[.v bj,.v iT],[bj,iT],⟨[.v aR,.v iT],[]⟩,[aR,iT],Pw.unc2 Pw.j4Y⟩
def jtG:FnD where
 N:=21
 np:=2
 cs:=[TH,TI]
theorem Rf:aJ Gr:=
 cOf aM aN jtG Gr Tryz.func230 (ja jqo (ja jvJ i)) i
def Gt:Con:=⟨145,[.v bj,.v bE,.v iT],[bj,bE,iT],⟨[.v iT,.v .bool],[]⟩,[iT,.bool],Pw.unc3 Pw.j6l⟩
def jrl:FnD where
 N:=66
 np:=3
 cs:=[Gu]
theorem RA:aJ Gt:=
 cOf aM aN jrl Gt Tryz.func145 (ja RB i) i
def Kk:Con:=⟨296,[.v bj,.v bE,.v iT],[bj,bE,iT],⟨[.v iT],[]⟩,[iT],Pw.unc3 Pw.jeR⟩
def jxu:FnD where
 N:=81
 np:=3
 cs:=[Gu,Gr,Gt]
 ds:=[⟨0,[sI,sB 192 0,sB 256 0,sI,.b (.cell [.d .str,.d iT,.d bQ] e),.b (.cell [.d .str,.d iT,.d iT,.d iT,.d iT,.d iT,.d (.list iT),.d af,.d iT,.d iT] e)],[iT,iT,.str,iT,bQ,.str,iT,iT,iT,iT,iT,(.list iT),af,iT,iT],[⟨.exit 0,[sI],[iT]⟩],Pw.u8 Pw.unc7 (Pw.j6Z)⟩]
 keep:=[(0,⟨[2,3,4,7],[192,256],[],[]⟩)]
 keepX:=[(0,.exit 0,⟨[7],[],[],[]⟩)]
theorem N_:aJ Kk:=
 cOf aM aN jxu Kk Tryz.func296 (ja RB (ja Rf (ja RA i))) (ja (λh=>by kernel_rfl) i)
def Q8:Con:=⟨243,[.v bj,.v bE,.v iT,.v iT],[bj,bE,iT,iT],⟨[.own 3 (.list iT),.v iT],[]⟩,[(.list iT),iT],Pw.unc4 Pw.jbc⟩
def jqp:FnD where
 N:=51
 np:=4
 cs:=[Dm,Gq,Gt,Kk]
 ds:=[⟨0,[sI,sI,sB 256 0,sB 320 0,sO 1000000,sI,.b (.cell [.d .str,.d iT,.d bQ] e),.b (.cell [.d .str,.d iT,.d iT,.d iT,.d iT,.d iT,.d (.list iT),.d af,.d iT,.d iT] e),.b (.lst 3 iT e)],[iT,iT,iT,.str,iT,bQ,.str,iT,iT,iT,iT,iT,(.list iT),af,iT,iT,(.list iT)],[⟨.ret,[sO 1500000,sI,.b (.lst 3 iT e)],[iT,(.list iT)]⟩],Pw.u8 Pw.unc9 (Pw.j6m)⟩]
 keep:=[(0,⟨[2,3,4,5,10,11],[256,320],[⟨1000000,3,iT,[.slot 10],e⟩],[]⟩)]
 keepX:=[(0,.ret,⟨[8,9],[],[⟨1500000,3,iT,[.slot 8],e⟩],[]⟩)]
 ro:=[j,e]
theorem joM:aJ Q8:=
 cOf aM aN jqp Q8 Tryz.func243 (ja Kh (ja Rc (ja RA (ja N_ i)))) (ja (λh=>by kernel_rfl) i)
def Kl:Con:=⟨228,[.v aR],[aR],⟨[.v iT],[]⟩,[iT],λh=>Pw.j95 h⟩
def jvK:FnD where
 N:=10
 np:=1
 cs:=[KQ]
theorem O_:aJ Kl:=
 cOf aM aN jvK Kl Tryz.func228 (ja η i) i
def Q4:Con:=⟨155,[.v af,.v iT,.v iT,.v iT],[af,iT,iT,iT],⟨[.own 59 af],[]⟩,[af],Pw.unc4 Pw.jd9⟩
def jxv:FnD where
 N:=72
 np:=4
 cs:=[Kl]
 ds:=[⟨0,[sD af,sI,sI,sO 1000000,sI,.b (.lst 59 aR e)],[af,iT,iT,iT,af],[⟨.exit 0,[sO 1500100,.b (.lst 59 aR e)],[af]⟩],Pw.unc5 (Pw.j71)⟩,⟨2,[sD af,sI,sI,sO 1002000,sI,sI,.b (.lst 59 aR e)],[af,iT,iT,iT,iT,af],[⟨.exit 2,[sD af,sI,sI,sO 1502300,sI,.b (.lst 59 aR e)],[af,iT,iT,iT,af]⟩],Pw.unc6 (Pw.j70)⟩]
 keep:=[(0,⟨[0,1,2,9,10],[],[⟨1000000,59,aR,[.slot 9],e⟩],[]⟩),(2,⟨[0,1,2,9,10,11],[],[⟨1002000,59,aR,[.slot 9],e⟩],[]⟩)]
 keepX:=[(0,.exit 0,⟨[9],[],[⟨1500100,59,aR,[.slot 9],e⟩],[]⟩),(2,.exit 2,⟨[0,1,2,9,10],[],[⟨1502300,59,aR,[.slot 9],e⟩],[]⟩)]
 ro:=[j]
 dw:=[(8,[[],[],[],[],[],[],[],[],[],[],[],[],[],[],[],[],[],[],[],[768],[768]])]
theorem jvL:aJ Q4:=
 cOf aM aN jxv Q4 Tryz.func155 (ja O_ i) (ja (λh=>by kernel_rfl) (ja (λh=>by kernel_rfl) i))
def Q5:Con:=⟨154,[.mv 59 af,.v af],[af,af],⟨[.own 59 af],[]⟩,[af],Pw.unc2 Pw.jfW⟩
def jAb:FnD where
 N:=49
 np:=2
 ds:=[⟨0,[sO 1000000,sD af,sI,.b (.lst 59 aR e)],[af,iT,af],[⟨.exit 0,[sO 1500100,.b (.lst 59 aR e)],[af]⟩],Pw.unc3 (Pw.j7P)⟩]
 keep:=[(0,⟨[0,1,5],[],[⟨1000000,59,aR,[.slot 0],e⟩],[]⟩)]
 keepX:=[(0,.exit 0,⟨[0],[],[⟨1500100,59,aR,[.slot 0],e⟩],[]⟩)]
 ro:=[j]
theorem jxw:aJ Q5:=
 cOf aM aN jAb Q5 Tryz.func154 i (ja (λh=>by kernel_rfl) i)
end Go.Proofs.Pk
