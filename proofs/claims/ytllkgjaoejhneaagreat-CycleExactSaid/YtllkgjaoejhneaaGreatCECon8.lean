/- bZ: each given function is its plain function, printed by a program. -/
import Derived.Test.YtllkgjaoejhneaaGreatCECon7
open _root_ renaming trivial->c
open Bool renaming false->e
noncomputable section
open Go Go.Lft
set_option linter.unusedVariables false
set_option maxRecDepth 100000
namespace Go.Proofs.Pk
def C1:Con:=⟨35,[.v aF,.v iT,.v iT],[aF,iT,iT],⟨[.v iT,.v iT],[]⟩,[iT,iT],Pw.unc3 Pw.j9L⟩
def ž:FnD where
 N:=42
 np:=3
 cs:=[CZ,Mn]
theorem Mo:aJ C1:=
 cOf aH aK ž C1 Tryz.func35 (jg Mh (jg Ž c)) c
def Mp:Con:=⟨69,[.v aF,.v iT,.v iT],[aF,iT,iT],⟨[.v .bool],[]⟩,[.bool],Pw.unc3 Pw.jt6⟩
def ſ:FnD where
 N:=29
 np:=3
 cs:=[CY]
theorem jtd:aJ Mp:=
 cOf aH aK ſ Mp Tryz.func69 (jg Mf c) c
def Mq:Con:=⟨271,[.v aU,.v aB,.v iT],[aU,aB,iT],⟨[.v iT],[]⟩,[iT],Pw.unc3 Pw.jed⟩
def jnK:FnD where
 N:=32
 np:=3
 ds:=[⟨0,[sD aB,sI,sI,sI],[aB,iT,iT,iT],[⟨.exit 0,[sI],[iT]⟩],Pw.unc4 (Pw.j49)⟩]
 keep:=[(0,⟨[1,2,7,8],[],[],[]⟩)]
 keepX:=[(0,.exit 0,⟨[7],[],[],[]⟩)]
theorem jm2:aJ Mq:=
 cOf aH aK jnK Mq Tryz.func271 c (jg (λh=>by kernel_rfl) c)
def Mr:Con:=⟨244,[.v aU,.v iT],[aU,iT],⟨[.v iT,.v iT],[]⟩,[iT,iT],Pw.unc2 Pw.j8W⟩
def jk1:FnD where
 N:=22
 np:=2
 cs:=[wP,wQ,Mq]
theorem jjj:aJ Mr:=
 cOf aH aK jk1 Mr Tryz.func244 (jg CQ (jg CS (jg jm2 c))) c
def Ms:Con:=⟨245,[.v iT,.v iT],[iT,iT],⟨[.v bT],[]⟩,[bT],Pw.unc2 Pw.jg2⟩
def jpg:FnD where
 N:=16
 np:=2
theorem jnL:aJ Ms:=
 cOf aH aK jpg Ms Tryz.func245 c c
def C2:Con:=⟨217,[.v aU,.v iT],[aU,iT],⟨[.v bT,.v iT],[]⟩,[bT,iT],Pw.unc2 Pw.j3b⟩
def jm3:FnD where
 N:=21
 np:=2
 cs:=[Mr,Ms]
theorem Mt:aJ C2:=
 cOf aH aK jm3 C2 Tryz.func217 (jg jjj (jg jnL c)) c
def Mu:Con:=⟨220,[.v aU,.v aY,.v iT],[aU,aY,iT],⟨[.v iT],[]⟩,[iT],Pw.unc3 Pw.jdx⟩
def jph:FnD where
 N:=81
 np:=3
 cs:=[C0,Gu,C2]
 ds:=[⟨0,[sI,sB 192 0,sB 256 0,sI,.b (.cell [.d .str,.d iT,.d bN] e),.b (.cell [.d .str,.d iT,.d iT,.d iT,.d iT,.d iT,.d (.list iT),.d aB,.d iT,.d iT] e)],[iT,iT,.str,iT,bN,.str,iT,iT,iT,iT,iT,(.list iT),aB,iT,iT],[⟨.exit 0,[sI],[iT]⟩],Pw.u8 Pw.unc7 (Pw.j4F)⟩]
 keep:=[(0,⟨[2,3,4,7],[192,256],[],[]⟩)]
 keepX:=[(0,.exit 0,⟨[7],[],[],[]⟩)]
theorem jnM:aJ Mu:=
 cOf aH aK jph Mu Tryz.func220 (jg Ml (jg To (jg Mt c))) (jg (λh=>by kernel_rfl) c)
def Mv:Con:=⟨215,[.v aU,.v aY,.v iT],[aU,aY,iT],⟨[.v iT,.v iT],[]⟩,[iT,iT],Pw.unc3 Pw.jdy⟩
def jpi:FnD where
 N:=22
 np:=3
 cs:=[Gt,Mu]
theorem jnN:aJ Mv:=
 cOf aH aK jpi Mv Tryz.func215 (jg Tn (jg jnM c)) c
def Mw:Con:=⟨251,[.v bT],[bT],⟨[.v iT],[]⟩,[iT],λh=>Pw.jee h⟩
def jnO:FnD where
 N:=10
 np:=1
 cs:=[Gq]
theorem jm4:aJ Mw:=
 cOf aH aK jnO Mw Tryz.func251 (jg Tk c) c
def Mx:Con:=⟨242,[.v aU,.v iT],[aU,iT],⟨[.v iT,.v iT],[]⟩,[iT,iT],Pw.unc2 Pw.j9M⟩
def jnP:FnD where
 N:=19
 np:=2
 cs:=[C2,Mw]
theorem jm5:aJ Mx:=
 cOf aH aK jnP Mx Tryz.func242 (jg Mt (jg jm4 c)) c
def My:Con:=⟨243,[.v aB,.v iT],[aB,iT],⟨[.v .bool],[]⟩,[.bool],Pw.unc2 Pw.jef⟩
def jnQ:FnD where
 N:=28
 np:=2
 ds:=[⟨0,[sD aB,sI,sI],[aB,iT,iT],[⟨.ret,[sD .bool],[.bool]⟩,⟨.exit 0,[],[]⟩],Pw.unc3 (Pw.j4a)⟩]
 keep:=[(0,⟨[0,1,5],[],[],[]⟩)]
 keepX:=[(0,.ret,⟨[4],[],[],[]⟩)]
theorem jm6:aJ My:=
 cOf aH aK jnQ My Tryz.func243 c (jg (λh=>by kernel_rfl) c)
def Mz:Con:=⟨216,[.v aU,.v aB,.v iT],[aU,aB,iT],⟨[.v .bool],[]⟩,[.bool],Pw.unc3 Pw.jnd⟩
def juW:FnD where
 N:=27
 np:=3
 cs:=[CU,Mx,My]
theorem jte:aJ Mz:=
 cOf aH aK juW Mz Tryz.func216 (jg L7 (jg jm5 (jg jm6 c))) c
def MA:Con:=⟨146,[.v aF,.v aY,.v iT],[aF,aY,iT],⟨[.v iT,.v .bool],[]⟩,[iT,.bool],Pw.unc3 Pw.jg3⟩
def jrk:FnD where
 N:=94
 np:=3
 cs:=[C2,Mv,Mz]
 ds:=[⟨0,[sB 256 0,sI,sB 704 0,sB 768 0,sD .bool,sI,.b (.cell [.d .str,.d iT,.d iT,.d iT,.d iT,.d iT,.d (.list iT),.d aB,.d iT,.d iT] e),.b (.cell [.d .str,.d iT,.d (.list iT)] e),.b (.cell [.d iT,.d iT] e)],[iT,.bool,iT,.str,iT,iT,iT,iT,iT,(.list iT),aB,iT,iT,.str,iT,(.list iT),iT,iT],[⟨.exit 0,[sB 256 0,sI,sD .bool,.b (.cell [.d .str,.d iT,.d iT,.d iT,.d iT,.d iT,.d (.list iT),.d aB,.d iT,.d iT] e)],[iT,.bool,.str,iT,iT,iT,iT,iT,(.list iT),aB,iT,iT]⟩],Pw.u8 (Pw.u8 Pw.unc2) (Pw.j59)⟩]
 keep:=[(0,⟨[4,9,11,12,14,15],[256,704,768],[],[]⟩)]
 keepX:=[(0,.exit 0,⟨[4,9,14],[256],[],[]⟩)]
theorem jpj:aJ MA:=
 cOf aH aK jrk MA Tryz.func146 (jg Mt (jg jnN (jg jte c))) (jg (λh=>by kernel_rfl) c)
def MB:Con:=⟨97,[.v aF,.v aY,.v iT],[aF,aY,iT],⟨[.v iT],[]⟩,[iT],Pw.unc3 Pw.jiY⟩
def jtf:FnD where
 N:=27
 np:=3
 cs:=[MA]
theorem jrl:aJ MB:=
 cOf aH aK jtf MB Tryz.func97 (jg jpj c) c
def MC:Con:=⟨61,[.v cA,.v iT,.v iT],[cA,iT,iT],⟨[.v .bool],[]⟩,[.bool],Pw.unc3 Pw.jib⟩
def jrm:FnD where
 N:=42
 np:=3
 ds:=[⟨0,[sI,sI,sB 192 0,sI,.b (.cell [.d .str,.d bu,.d bC] e)],[iT,iT,iT,.str,bu,bC],[⟨.ret,[sD .bool],[.bool]⟩,⟨.exit 0,[],[]⟩],Pw.unc6 (Pw.j5a)⟩]
 keep:=[(0,⟨[1,2,3,7],[192],[],[]⟩)]
 keepX:=[(0,.ret,⟨[6],[],[],[]⟩)]
theorem jpk:aJ MC:=
 cOf aH aK jrm MC Tryz.func61 c (jg (λh=>by kernel_rfl) c)
def MD:Con:=⟨109,[.v aF,.v iT,.v iT],[aF,iT,iT],⟨[.v iT,.v iT],[]⟩,[iT,iT],Pw.unc3 Pw.jlB⟩
def jtg:FnD where
 N:=43
 np:=3
 cs:=[MB,MC]
 ds:=[⟨0,[sI,sB 192 0,sB 512 0,sI,.b (.cell [.d aw,.d aA,.d az,.d aC] e),.b (.cell [.d .str,.d bu,.d bC] e)],[iT,iT,aw,aA,az,aC,.str,bu,bC],[⟨.ret,[sI,sI],[iT,iT]⟩,⟨.exit 0,[],[]⟩],Pw.unc9 (Pw.j5G)⟩]
 keep:=[(0,⟨[2,3,8,9],[192,512],[],[]⟩)]
 keepX:=[(0,.ret,⟨[6,7],[],[],[]⟩)]
theorem jrn:aJ MD:=
 cOf aH aK jtg MD Tryz.func109 (jg jrl (jg jpk c)) (jg (λh=>by kernel_rfl) c)
def ME:Con:=⟨26,[.v bC,.v iT,.v iT],[bC,iT,iT],⟨[.v iT],[]⟩,[iT],Pw.unc3 Pw.jlC⟩
def jro:FnD where
 N:=61
 np:=3
 ds:=[⟨0,[sD bC,sI,sI,sI],[bC,iT,iT,iT],[⟨.exit 0,[sI],[iT]⟩],Pw.unc4 (Pw.j5b)⟩]
 keep:=[(0,⟨[0,1,2,7],[],[],[]⟩)]
 keepX:=[(0,.exit 0,⟨[1],[],[],[]⟩)]
theorem jpl:aJ ME:=
 cOf aH aK jro ME Tryz.func26 c (jg (λh=>by kernel_rfl) c)
def MF:Con:=⟨70,[.v aF,.v iT,.v iT],[aF,iT,iT],⟨[.v iT],[]⟩,[iT],Pw.unc3 Pw.joO⟩
def jth:FnD where
 N:=25
 np:=3
 cs:=[MD,ME]
theorem jrp:aJ MF:=
 cOf aH aK jth MF Tryz.func70 (jg jrn (jg jpl c)) c
def MG:Con:=⟨15,[.v aF,.v iT,.v iT],[aF,iT,iT],⟨[.v iT],[]⟩,[iT],Pw.unc3 Pw.joP⟩
def jti:FnD where
 N:=16
 np:=3
 cs:=[Mp,MF]
theorem jrq:aJ MG:=
 cOf aH aK jti MG Tryz.func15 (jg jtd (jg jrp c)) c
def MH:Con:=⟨88,[.v aF,.v iT,.v iT],[aF,iT,iT],⟨[.v iT],[]⟩,[iT],Pw.unc3 Pw.jlD⟩
def jtj:FnD where
 N:=11
 np:=3
 cs:=[MG]
theorem jrr:aJ MH:=
 cOf aH aK jtj MH Tryz.func88 (jg jrq c) c
end Go.Proofs.Pk
