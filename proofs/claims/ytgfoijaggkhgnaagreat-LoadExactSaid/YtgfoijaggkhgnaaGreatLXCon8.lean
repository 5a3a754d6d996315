/- cB: each given function is its plain function, printed by a program. -/
import Derived.Test.YtgfoijaggkhgnaaGreatLXCon7
open Bool renaming false->e
open _root_ renaming trivial->i
noncomputable section
open Go Go.Lft
set_option linter.unusedVariables false
set_option maxRecDepth 100000
namespace Go.Proofs.Pk
def R7:Con:=⟨104,[.v bW],[bW],⟨[.own 178 ag],[]⟩,[ag],λh=>Pw.ja4 h⟩
def jm9:FnD where
 N:=98
 np:=1
 cs:=[R6]
 ds:=[⟨0,[sD bW,sO 1000000,sI,.b (.lst 178 aN e)],[bW,iT,ag],[⟨.exit 0,[sO 1500100,.b (.lst 178 aN e)],[ag]⟩],Pw.unc3 (Pw.j2H)⟩,⟨2,[sD bW,sO 1002000,sI,sI,.b (.lst 178 aN e)],[bW,iT,iT,ag],[⟨.exit 2,[sD bW,sO 1502300,sI,.b (.lst 178 aN e)],[bW,iT,ag]⟩],Pw.unc4 (Pw.j2G)⟩,⟨4,[sD bW,sO 1004000,sI,sI,sB 512 0,sI,.b (.cell [.d iT,.d iT] e),.b (.lst 178 aN e)],[bW,iT,iT,iT,iT,iT,ag],[⟨.exit 4,[sD bW,sO 1504500,sI,sI,sB 512 0,sI,.b (.cell [.d iT,.d iT] e),.b (.lst 178 aN e)],[bW,iT,iT,iT,iT,iT,ag]⟩],Pw.unc7 (Pw.j2F)⟩]
 keep:=[(0,⟨[0,3,4],[],[⟨1000000,178,aN,[.slot 3],e⟩],[]⟩),(2,⟨[0,3,4,5],[],[⟨1002000,178,aN,[.slot 3],e⟩],[]⟩),(4,⟨[0,3,4,5,8,9],[512],[⟨1004000,178,aN,[.slot 3],e⟩],[]⟩)]
 keepX:=[(0,.exit 0,⟨[3],[],[⟨1500100,178,aN,[.slot 3],e⟩],[]⟩),(2,.exit 2,⟨[0,3,4],[],[⟨1502300,178,aN,[.slot 3],e⟩],[]⟩),(4,.exit 4,⟨[0,3,4,5,8,9],[512],[⟨1504500,178,aN,[.slot 3],e⟩],[]⟩)]
 ro:=[true]
 dw:=[(9,[[],[],[],[],[],[],[],[],[],[],[],[],[],[],[512],[512]]),(14,[[],[],[],[],[],[],[],[5376]])]
theorem jlp:aG R7:=
 cOf aJ aK jm9 R7 Tryz.func104 (ja gO i) (ja (λh=>by kernel_rfl) (ja (λh=>by kernel_rfl) (ja (λh=>by kernel_rfl) i)))
def xX:Con:=⟨67,[.v bq],[bq],⟨[.own 145 ag,.v iT],[]⟩,[ag,iT],λh=>Pw.j0j h⟩
def jma:FnD where
 N:=119
 np:=1
 cs:=[xW,R1,R7]
 ds:=[⟨0,[sB 64 0,sI,sI,.b (.cell [.d .str,.d iT,.d bW] e)],[iT,iT,.str,iT,bW],[⟨.ret,[.s (.one (.nil)),sI],[iT]⟩,⟨.exit 0,[sB 64 0,sI,.b (.cell [.d .str,.d iT,.d bW] e)],[iT,.str,iT,bW]⟩],Pw.unc5 (Pw.j2I)⟩,⟨2,[sO 1002000,sO 1002001,sI,sI,.b (.lst 145 aN e),.b (.lst 178 aN e)],[iT,iT,ag,ag],[⟨.ret,[.s (.one (.nil)),sI],[iT]⟩,⟨.exit 2,[sO 1502300,.b (.lst 145 aN e)],[ag]⟩],Pw.unc4 (Pw.j2J)⟩]
 keep:=[(0,⟨[1,4,5],[64],[],[]⟩),(2,⟨[6,7,8,9],[],[⟨1002000,145,aN,[.slot 6],e⟩,⟨1002001,178,aN,[.slot 7],e⟩],[]⟩)]
 keepX:=[(0,.ret,⟨[2,3],[],[],[]⟩),(0,.exit 0,⟨[1,4],[64],[],[]⟩),(2,.ret,⟨[2,3],[],[],[]⟩),(2,.exit 2,⟨[6],[],[⟨1502300,145,aN,[.slot 6],e⟩],[]⟩)]
 ro:=[true,e]
 dw:=[(21,[[],[],[],[],[],[],[],[],[],[],[],[],[],[640],[640]]),(24,[[],[],[7296],[7360,1002000],[],[],[],[]])]
theorem C8:aG xX:=
 cOf aJ aK jma xX Tryz.func67 (ja C7 (ja jtL (ja jlp i))) (ja (λh=>by kernel_rfl) (ja (λh=>by kernel_rfl) i))
def K9:Con:=⟨190,[.v bq],[bq],⟨[.v iT],[]⟩,[iT],λh=>Pw.j7J h⟩
def jvs:FnD where
 N:=11
 np:=1
 cs:=[xX]
theorem _U:aG K9:=
 cOf aJ aK jvs K9 Tryz.func190 (ja C8 i) i
def R8:Con:=⟨191,[.v bq],[bq],⟨[.v .bool],[]⟩,[.bool],λh=>Pw.jdi h⟩
def jrM:FnD where
 N:=28
 np:=1
 ds:=[⟨0,[sB 64 0,sD .bool,sI,.b (.cell [.d .str,.d iT,.d bW] e)],[.bool,iT,.str,iT,bW],[⟨.exit 0,[sD .bool],[.bool]⟩],Pw.unc5 (Pw.j4C)⟩]
 keep:=[(0,⟨[1,3,4],[64],[],[]⟩)]
 keepX:=[(0,.exit 0,⟨[3],[],[],[]⟩)]
theorem jpt:aG R8:=
 cOf aJ aK jrM R8 Tryz.func191 i (ja (λh=>by kernel_rfl) i)
def R9:Con:=⟨134,[.v bh],[bh],⟨[.v iT],[]⟩,[iT],λh=>Pw.job h⟩
def jvt:FnD where
 N:=44
 np:=1
 cs:=[C6,K9,R8]
 ds:=[⟨0,[sB 64 0,sO 1000000,sI,.b (.cell [.d ay,.d aB,.d aA,.d aF] e),.b (.lst 9 .str e)],[iT,ay,aB,aA,aF,(.list .str)],[⟨.ret,[sI],[iT]⟩,⟨.exit 0,[],[]⟩],Pw.unc6 (Pw.j5Z)⟩]
 keep:=[(0,⟨[1,3,4],[64],[⟨1000000,9,.str,[.slot 3],e⟩],[]⟩)]
 keepX:=[(0,.ret,⟨[2],[],[],[]⟩)]
theorem jtN:aG R9:=
 cOf aJ aK jvt R9 Tryz.func134 (ja K6 (ja _U (ja jpt i))) (ja (λh=>by kernel_rfl) i)
def Bh:Con:=⟨192,[.v iT,.v iT,.v iT],[iT,iT,iT],⟨[.v .bool],[]⟩,[.bool],Pw.unc3 Pw.j8O⟩
def jCQ:FnD where
 N:=15
 np:=3
theorem Hf:aG Bh:=
 cOf aJ aK jCQ Bh Tryz.func192 i i
def Sa:Con:=⟨193,[.v iT],[iT],⟨[.v .bool],[]⟩,[.bool],λh=>Pw.jkS h⟩
def jvu:FnD where
 N:=10
 np:=1
 cs:=[Bh]
theorem jtO:aG Sa:=
 cOf aJ aK jvu Sa Tryz.func193 (ja Hf i) i
def Sb:Con:=⟨135,[.v bh],[bh],⟨[.v iT],[]⟩,[iT],λh=>Pw.jlV h⟩
def jtP:FnD where
 N:=58
 np:=1
 cs:=[Bc,C6,Bh,Sa]
 ds:=[⟨0,[sB 64 0,sO 1000000,sI,.b (.cell [.d ay,.d aB,.d aA,.d aF] e),.b (.lst 9 .str e)],[iT,ay,aB,aA,aF,(.list .str)],[⟨.ret,[sI],[iT]⟩,⟨.exit 0,[],[]⟩],Pw.unc6 (Pw.j57)⟩]
 keep:=[(0,⟨[1,3,4],[64],[⟨1000000,9,.str,[.slot 3],e⟩],[]⟩)]
 keepX:=[(0,.ret,⟨[2],[],[],[]⟩)]
theorem jrN:aG Sb:=
 cOf aJ aK jtP Sb Tryz.func135 (ja G0 (ja K6 (ja Hf (ja jtO i)))) (ja (λh=>by kernel_rfl) i)
def Hg:Con:=⟨194,[],[],⟨[.v iT],[]⟩,[iT],λh=>Pw.jcX⟩
def jtQ:FnD where
 N:=3
 np:=0
 cs:=[K7]
theorem Sc:aG Hg:=
 cOf aJ aK jtQ Hg Tryz.func194 (ja _S i) i
def Sd:Con:=⟨136,[.v bh],[bh],⟨[.v iT],[]⟩,[iT],λh=>Pw.jgb h⟩
def joB:FnD where
 N:=78
 np:=1
 cs:=[C6,Bh,Hg]
 ds:=[⟨0,[sB 64 0,sO 1000000,sI,.b (.cell [.d ay,.d aB,.d aA,.d aF] e),.b (.lst 9 .str e)],[iT,ay,aB,aA,aF,(.list .str)],[⟨.ret,[sI],[iT]⟩,⟨.exit 0,[],[]⟩],Pw.unc6 (Pw.j3t)⟩,⟨2,[sB 64 0,sO 1002000,sI,sB 320 0,sI,.b (.cell [.d ay,.d aB,.d aA,.d aF] e),.b (.cell [.d .str,.d iT,.d (.list iT)] e),.b (.lst 9 .str e)],[iT,iT,ay,aB,aA,aF,.str,iT,(.list iT),(.list .str)],[⟨.ret,[sI],[iT]⟩,⟨.exit 2,[sB 64 0,sO 1502300,sI,sB 320 0,.b (.cell [.d ay,.d aB,.d aA,.d aF] e),.b (.cell [.d .str,.d iT,.d (.list iT)] e),.b (.lst 9 .str e)],[iT,ay,aB,aA,aF,.str,iT,(.list iT),(.list .str)]⟩],Pw.u8 Pw.unc2 (Pw.j3s)⟩,⟨4,[sB 64 0,sO 1004000,sI,sB 320 0,sI,.b (.cell [.d ay,.d aB,.d aA,.d aF] e),.b (.cell [.d .str,.d iT,.d (.list iT)] e),.b (.lst 9 .str e)],[iT,iT,ay,aB,aA,aF,.str,iT,(.list iT),(.list .str)],[⟨.ret,[sI],[iT]⟩,⟨.exit 4,[sB 64 0,sO 1504500,sI,.b (.cell [.d ay,.d aB,.d aA,.d aF] e),.b (.lst 9 .str e)],[iT,ay,aB,aA,aF,(.list .str)]⟩],Pw.u8 Pw.unc2 (Pw.j58)⟩]
 keep:=[(0,⟨[1,3,4],[64],[⟨1000000,9,.str,[.slot 3],e⟩],[]⟩),(2,⟨[1,3,4,5,7],[64,320],[⟨1002000,9,.str,[.slot 3],e⟩],[]⟩),(4,⟨[1,3,4,5,8],[64,320],[⟨1004000,9,.str,[.slot 3],e⟩],[]⟩)]
 keepX:=[(0,.ret,⟨[2],[],[],[]⟩),(2,.ret,⟨[2],[],[],[]⟩),(2,.exit 2,⟨[1,3,4,5],[64,320],[⟨1502300,9,.str,[.slot 3],e⟩],[]⟩),(4,.ret,⟨[2],[],[],[]⟩),(4,.exit 4,⟨[1,3,4],[64],[⟨1504500,9,.str,[.slot 3],e⟩],[]⟩)]
theorem jn0:aG Sd:=
 cOf aJ aK joB Sd Tryz.func136 (ja K6 (ja Hf (ja Sc i))) (ja (λh=>by kernel_rfl) (ja (λh=>by kernel_rfl) (ja (λh=>by kernel_rfl) i)))
def Se:Con:=⟨195,[.v bh,.v bX],[bh,bX],⟨[.v iT],[]⟩,[iT],Pw.unc2 Pw.jhN⟩
def jvv:FnD where
 N:=102
 np:=2
 cs:=[Bc,Bh,Hg]
 ds:=[⟨1,[sB 128 0,sB 192 0,sI,.b (.cell [.d ay,.d aB,.d aA,.d aF] e),.b (.cell [.d .str,.d iT,.d iT,.d iT,.d iT,.d iT,.d (.list iT),.d ag,.d iT,.d iT] e)],[iT,ay,aB,aA,aF,.str,iT,iT,iT,iT,iT,(.list iT),ag,iT,iT],[⟨.ret,[sI],[iT]⟩,⟨.exit 1,[sB 128 0,sB 192 0,.b (.cell [.d ay,.d aB,.d aA,.d aF] e),.b (.cell [.d .str,.d iT,.d iT,.d iT,.d iT,.d iT,.d (.list iT),.d ag,.d iT,.d iT] e)],[ay,aB,aA,aF,.str,iT,iT,iT,iT,iT,(.list iT),ag,iT,iT]⟩],Pw.u8 Pw.unc7 (Pw.j60)⟩]
 keep:=[(1,⟨[2,3,5],[128,192],[],[]⟩)]
 keepX:=[(1,.ret,⟨[4],[],[],[]⟩),(1,.exit 1,⟨[2,3],[128,192],[],[]⟩)]
theorem jtR:aG Se:=
 cOf aJ aK jvv Se Tryz.func195 (ja G0 (ja Hf (ja Sc i))) (ja (λh=>by kernel_rfl) i)
def Sf:Con:=⟨196,[.v bh,.v iw],[bh,iw],⟨[.v iT],[]⟩,[iT],Pw.unc2 Pw.jkT⟩
def jyv:FnD where
 N:=86
 np:=2
 cs:=[Bh,Hg]
theorem jvw:aG Sf:=
 cOf aJ aK jyv Sf Tryz.func196 (ja Hf (ja Sc i)) i
def Sh:Con:=⟨137,[.v bh],[bh],⟨[.v iT],[]⟩,[iT],λh=>Pw.jgc h⟩
def joC:FnD where
 N:=95
 np:=1
 cs:=[C6,Se,Sf]
 ds:=[⟨0,[sB 64 0,sO 1000000,sI,.b (.cell [.d ay,.d aB,.d aA,.d aF] e),.b (.lst 9 .str e)],[iT,ay,aB,aA,aF,(.list .str)],[⟨.ret,[sI],[iT]⟩,⟨.exit 0,[],[]⟩],Pw.unc6 (Pw.j3w)⟩,⟨2,[sB 64 0,sO 1002000,sI,sB 320 0,sO 1002001,sI,.b (.cell [.d ay,.d aB,.d aA,.d aF] e),.b (.cell [.d .str,.d bS,.d bL] e),.b (.lst 9 .str e),.b (.lst 9 .str e)],[iT,iT,ay,aB,aA,aF,.str,bS,bL,(.list .str),(.list .str)],[⟨.ret,[sI],[iT]⟩,⟨.exit 2,[sB 64 0,sO 1502300,sI,sB 320 0,.b (.cell [.d ay,.d aB,.d aA,.d aF] e),.b (.cell [.d .str,.d bS,.d bL] e),.b (.lst 9 .str e)],[iT,ay,aB,aA,aF,.str,bS,bL,(.list .str)]⟩],Pw.u8 Pw.unc3 (Pw.j3u)⟩,⟨4,[sB 64 0,sO 1004000,sI,sB 320 0,sI,.b (.cell [.d ay,.d aB,.d aA,.d aF] e),.b (.cell [.d .str,.d bS,.d bL] e),.b (.lst 9 .str e)],[iT,iT,ay,aB,aA,aF,.str,bS,bL,(.list .str)],[⟨.ret,[sI],[iT]⟩,⟨.exit 4,[sB 64 0,sO 1504500,sI,.b (.cell [.d ay,.d aB,.d aA,.d aF] e),.b (.lst 9 .str e)],[iT,ay,aB,aA,aF,(.list .str)]⟩],Pw.u8 Pw.unc2 (Pw.j3v)⟩]
 keep:=[(0,⟨[1,3,4],[64],[⟨1000000,9,.str,[.slot 3],e⟩],[]⟩),(2,⟨[1,3,4,5,7,8],[64,320],[⟨1002000,9,.str,[.slot 3],e⟩,⟨1002001,9,.str,[.slot 7],e⟩],[]⟩),(4,⟨[1,3,4,5,11],[64,320],[⟨1004000,9,.str,[.slot 3],e⟩],[]⟩)]
 keepX:=[(0,.ret,⟨[2],[],[],[]⟩),(2,.ret,⟨[2],[],[],[]⟩),(2,.exit 2,⟨[1,3,4,5],[64,320],[⟨1502300,9,.str,[.slot 3],e⟩],[]⟩),(4,.ret,⟨[2],[],[],[]⟩),(4,.exit 4,⟨[1,3,4],[64],[⟨1504500,9,.str,[.slot 3],e⟩],[]⟩)]
theorem jn1:aG Sh:=
 cOf aJ aK joC Sh Tryz.func137 (ja K6 (ja jtR (ja jvw i))) (ja (λh=>by kernel_rfl) (ja (λh=>by kernel_rfl) (ja (λh=>by kernel_rfl) i)))
def Si:Con:=⟨98,[.v bh],[bh],⟨[.v iT],[]⟩,[iT],λh=>Pw.jfx h⟩
def jvx:FnD where
 N:=45
 np:=1
 cs:=[R9,Sb,Sd,Sh]
theorem jtS:aG Si:=
 cOf aJ aK jvx Si Tryz.func98 (ja jtN (ja jrN (ja jn0 (ja jn1 i)))) i
def Hh:Con:=⟨68,[.v iT,.v iT],[iT,iT],⟨[.v .bool],[]⟩,[.bool],Pw.unc2 Pw.j8P⟩
def jvy:FnD where
 N:=26
 np:=2
theorem Sj:aG Hh:=
 cOf aJ aK jvy Hh Tryz.func68 i i
def Qf:Con:=⟨65,[.v bh,.v iT,.v iT,.v iT],[bh,iT,iT,iT],⟨[.v iT],[]⟩,[iT],Pw.unc4 Pw.jhO⟩
def jvz:FnD where
 N:=28
 np:=4
 cs:=[Si,Hh]
theorem jtT:aG Qf:=
 cOf aJ aK jvz Qf Tryz.func65 (ja jtS (ja Sj i)) i
def La:Con:=⟨244,[.v bq,.v bX],[bq,bX],⟨[.v iT],[]⟩,[iT],Pw.unc2 Pw.jdo⟩
def jvA:FnD where
 N:=58
 np:=2
 cs:=[K9]
theorem _V:aG La:=
 cOf aJ aK jvA La Tryz.func244 (ja _U i) i
def Lb:Con:=⟨247,[.v iT],[iT],⟨[.v .bool],[]⟩,[.bool],λh=>Pw.jfy h⟩
def jvB:FnD where
 N:=5
 np:=1
 cs:=[xW]
theorem _W:aG Lb:=
 cOf aJ aK jvB Lb Tryz.func247 (ja C7 i) i
def Lc:Con:=⟨268,[.v bq,.v aN],[bq,aN],⟨[.v iT,.v iT],[]⟩,[iT,iT],Pw.unc2 Pw.j5a⟩
def jvC:FnD where
 N:=76
 np:=2
 cs:=[xW,xX,Lb]
 ds:=[⟨0,[sB 128 0,sB 192 0,sO 1000000,sI,.b (.cell [.d .str,.d iT,.d bW] e),.b (.cell [.d iT,.d iT] e),.b (.lst 145 aN e)],[iT,.str,iT,bW,iT,iT,ag],[⟨.ret,[sI,sI],[iT,iT]⟩,⟨.exit 0,[],[]⟩],Pw.unc7 (Pw.j4l)⟩]
 keep:=[(0,⟨[2,3,6,8],[128,192],[⟨1000000,145,aN,[.slot 6],e⟩],[]⟩)]
 keepX:=[(0,.ret,⟨[4,5],[],[],[]⟩)]
theorem _X:aG Lc:=
 cOf aJ aK jvC Lc Tryz.func268 (ja C7 (ja C8 (ja _W i))) (ja (λh=>by kernel_rfl) i)
def Sk:Con:=⟨279,[.v bq,.v ag,.v iT],[bq,ag,iT],⟨[.v iT],[]⟩,[iT],Pw.unc3 Pw.jiI⟩
def jtU:FnD where
 N:=32
 np:=3
 ds:=[⟨0,[sD ag,sI,sI,sI],[ag,iT,iT,iT],[⟨.exit 0,[sI],[iT]⟩],Pw.unc4 (Pw.j5b)⟩]
 keep:=[(0,⟨[1,2,7,8],[],[],[]⟩)]
 keepX:=[(0,.exit 0,⟨[7],[],[],[]⟩)]
theorem jrO:aG Sk:=
 cOf aJ aK jtU Sk Tryz.func279 i (ja (λh=>by kernel_rfl) i)
end Go.Proofs.Pk
