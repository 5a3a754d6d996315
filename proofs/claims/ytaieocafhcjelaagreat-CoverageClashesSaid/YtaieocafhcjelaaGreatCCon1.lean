/- bZ: each given function is its plain function, printed by a program. -/
import Derived.Test.YtaieocafhcjelaaGreatCCon0
noncomputable section
open Go Go.Lft
set_option linter.unusedVariables false
set_option maxRecDepth 100000
namespace Go.Proofs.Pk
def KK:Con:=⟨342,[.rl 338 aa,.clo 343 []],[aa],⟨[],[.rl aa]⟩,[aa],λh=>Pw.j0c h⟩
def j4U:FnD where
 N:=9
 np:=2
 cs:=[KJ]
 ds:=[]
 modes:=[(385,[true,false,false])]
theorem j4E:Con.OK Tryz.prog KK:=
 cOf aD aF j4U KK Tryz.func342 (j9 j8o trivial) trivial
def KL:Con:=⟨299,[.v bk],[bk],⟨[.own 338 aa,.v iT],[]⟩,[aa,iT],λh=>Pw.j4Q h⟩
def jkP:FnD where
 N:=86
 np:=1
 cs:=[Du,KB,KG,KK]
 ds:=[⟨0,[.s (.one (.bp 64 0)),sI,.s (.one (.d bM)),sI,sI,.b (.cell [.d .str,.d iT,.d bM] false)],[iT,bM,iT,iT,.str,iT,bM],[⟨.ret,[.s (.one (.nil)),sI],[iT]⟩,⟨.exit 0,[.s (.one (.bp 64 0)),sI,.b (.cell [.d .str,.d iT,.d bM] false)],[iT,.str,iT,bM]⟩],Pw.unc7 (Pw.j3n)⟩,
  ⟨2,[.s (.one (.ol 1002000)),.s (.one (.d bM)),sI,sI,.b (.lst 338 aQ false)],[bM,iT,iT,aa],[⟨.exit 2,[.s (.one (.ol 1502300)),.b (.lst 338 aQ false)],[aa]⟩],Pw.unc4 (Pw.j1k)⟩,
  ⟨4,[.s (.one (.ol 1004000)),.s (.one (.bp 640 0)),sI,.s (.one (.d bM)),sI,sI,.b (.cell [.d iT,.d iT,.d iT,.d iT,.d iT,.d iT,.d iT] false),.b (.lst 338 aQ false)],[iT,bM,iT,iT,iT,iT,iT,iT,iT,iT,iT,aa],[⟨.exit 4,[.s (.one (.ol 1504500)),.s (.one (.d bM)),sI,sI,.b (.lst 338 aQ false)],[bM,iT,iT,aa]⟩],Pw.jwC (Pw.j1j)⟩]
 modes:=[(300,[false,false,false]),(340,[false]),(341,[false,false,false,false]),(342,[true,false])]
 keep:=[(0,⟨[1,4,23,24,25],[64],[],[]⟩),
  (2,⟨[8,46,47,48],[],[⟨1002000,338,aQ,[.slot 8],false⟩],[]⟩),
  (4,⟨[8,10,11,46,47,48],[640],[⟨1004000,338,aQ,[.slot 8],false⟩],[]⟩)]
 keepX:=[(0,.ret,⟨[2,3],[],[],[]⟩),
  (0,.exit 0,⟨[1,4],[64],[],[]⟩),
  (2,.exit 2,⟨[8],[],[⟨1502300,338,aQ,[.slot 8],false⟩],[]⟩),
  (4,.exit 4,⟨[8,46,47,48],[],[⟨1504500,338,aQ,[.slot 8],false⟩],[]⟩)]
 ro:=[true,false]
theorem jjw:Con.OK Tryz.prog KL:=
 cOf aD aF jkP KL Tryz.func299 (j9 KA (j9 jsC (j9 jsF (j9 j4E trivial)))) (j9 (λh=>by kernel_rfl) (j9 (λh=>by kernel_rfl) (j9 (λh=>by kernel_rfl) trivial)))
def Gg:Con:=⟨208,[.v bk],[bk],⟨[.own 186 aa,.v iT],[]⟩,[aa,iT],λh=>Pw.j2V h⟩
def jkQ:FnD where
 N:=79
 np:=1
 cs:=[Du,KL]
 ds:=[⟨0,[.s (.one (.ol 1000000)),sI,.s (.one (.ol 1000001)),sI,sI,.b (.lst 186 aQ false),.b (.lst 338 aQ false)],[iT,iT,iT,aa,aa],[⟨.ret,[.s (.one (.nil)),sI],[iT]⟩,⟨.exit 0,[.s (.one (.ol 1500100)),.b (.lst 186 aQ false)],[aa]⟩],Pw.unc5 (Pw.j3o)⟩]
 modes:=[(299,[false]),(300,[false,false,false])]
 keep:=[(0,⟨[6,7,22,23,24],[],[⟨1000000,186,aQ,[.slot 6],false⟩,⟨1000001,338,aQ,[.slot 22],false⟩],[]⟩)]
 keepX:=[(0,.ret,⟨[2,3],[],[],[]⟩),
  (0,.exit 0,⟨[6],[],[⟨1500100,186,aQ,[.slot 6],false⟩],[]⟩)]
 ro:=[true,false]
theorem Ue:Con.OK Tryz.prog Gg:=
 cOf aD aF jkQ Gg Tryz.func208 (j9 KA (j9 jjw trivial)) (j9 (λh=>by kernel_rfl) trivial)
def KM:Con:=⟨246,[.v bk],[bk],⟨[.v iT],[]⟩,[iT],λh=>Pw.j9U h⟩
def jsG:FnD where
 N:=11
 np:=1
 cs:=[Gg]
 ds:=[]
 modes:=[(208,[false])]
 ro:=[false]
theorem jqX:Con.OK Tryz.prog KM:=
 cOf aD aF jsG KM Tryz.func246 (j9 Ue trivial) trivial
def KN:Con:=⟨248,[.v mo],[mo],⟨[.v .bool],[]⟩,[.bool],λh=>Pw.j8P h⟩
def jh1:FnD where
 N:=7
 np:=1
 cs:=[]
 ds:=[]
 ro:=[false]
theorem jg7:Con.OK Tryz.prog KN:=
 cOf aD aF jh1 KN Tryz.func248 trivial trivial
def KO:Con:=⟨319,[.v bM,.clo 248 []],[bM],⟨[.v iT],[]⟩,[iT],λh=>Pw.j0v h⟩
def j6U:FnD where
 N:=19
 np:=2
 cs:=[KN]
 ds:=[⟨0,[.s (.one (.d bM)),.s (.one (.clo 248 [])),sI,sI],[bM,iT,iT],[⟨.ret,[sI],[iT]⟩,⟨.exit 0,[],[]⟩],Pw.unc3 (Pw.j0s)⟩]
 modes:=[(248,[false])]
 keep:=[(0,⟨[0,1,7,8],[],[],[]⟩)]
 keepX:=[(0,.ret,⟨[4],[],[],[]⟩),
  (0,.exit 0,⟨[],[],[],[]⟩)]
 ro:=[false]
theorem j6S:Con.OK Tryz.prog KO:=
 cOf aD aF j6U KO Tryz.func319 (j9 jg7 trivial) (j9 (λh=>by kernel_rfl) trivial)
def KP:Con:=⟨247,[.v bM,.clo 248 []],[bM],⟨[.v .bool],[]⟩,[.bool],λh=>Pw.j0o h⟩
def j6j:FnD where
 N:=9
 np:=2
 cs:=[KO]
 ds:=[]
 modes:=[(319,[false,false])]
 ro:=[false]
theorem j69:Con.OK Tryz.prog KP:=
 cOf aD aF j6j KP Tryz.func247 (j9 j6S trivial) trivial
def KQ:Con:=⟨167,[.v bk],[bk],⟨[.v iT],[]⟩,[iT],λh=>Pw.j3p h⟩
def jjx:FnD where
 N:=17
 np:=1
 cs:=[KM,KP]
 ds:=[]
 modes:=[(246,[false]),(247,[false,false])]
 ro:=[false]
theorem jiG:Con.OK Tryz.prog KQ:=
 cOf aD aF jjx KQ Tryz.func167 (j9 jqX (j9 j69 trivial)) trivial
def KR:Con:=⟨165,[.v ar,.clo 166 [],.clo 167 []],[ar],⟨[.v iT],[]⟩,[iT],λh=>Pw.j2B h⟩
def jfx:FnD where
 N:=34
 np:=3
 cs:=[Kw,xK,KQ]
 ds:=[⟨0,[.s (.one (.clo 166 [])),.s (.one (.clo 167 [])),.s (.one (.ol 1000000)),.s (.one (.d ar)),sI,sI,.b (.lst 4294967523 (.pair .str .bool) false)],[ar,iT,iT,(.list (.pair .str .bool))],[⟨.ret,[sI],[iT]⟩,⟨.exit 0,[],[]⟩],Pw.unc4 (Pw.j0K)⟩]
 modes:=[(166,[false]),(167,[false]),(168,[false,true])]
 keep:=[(0,⟨[1,2,7,13,14,15],[],[⟨1000000,4294967523,(.pair .str .bool),[.slot 7],false⟩],[]⟩)]
 keepX:=[(0,.ret,⟨[6],[],[],[]⟩),
  (0,.exit 0,⟨[],[],[],[]⟩)]
 ro:=[false]
theorem jeU:Con.OK Tryz.prog KR:=
 cOf aD aF jfx KR Tryz.func165 (j9 jjv (j9 Dt (j9 jiG trivial))) (j9 (λh=>by kernel_rfl) trivial)
def xL:Con:=⟨250,[.v iT,.v iT],[iT,iT],⟨[.v .bool],[]⟩,[.bool],Pw.unc2 Pw.j2W⟩
def job:FnD where
 N:=12
 np:=2
 cs:=[]
 ds:=[]
 ro:=[false]
theorem Dw:Con.OK Tryz.prog xL:=
 cOf aD aF job xL Tryz.func250 trivial trivial
def Gh:Con:=⟨204,[.v aa],[aa],⟨[.v iT],[]⟩,[iT],λh=>Pw.j9V h⟩
def jsH:FnD where
 N:=46
 np:=1
 cs:=[]
 ds:=[⟨0,[.s (.one (.d aa)),.s (.one (.d aa)),sI,sI],[aa,aa,iT,iT],[⟨.ret,[sI],[iT]⟩,⟨.exit 0,[],[]⟩],Pw.unc4 (Pw.j5P)⟩]
 keep:=[(0,⟨[0,8,9,10],[],[],[]⟩)]
 keepX:=[(0,.ret,⟨[2],[],[],[]⟩),
  (0,.exit 0,⟨[],[],[],[]⟩)]
 ro:=[false]
theorem Uf:Con.OK Tryz.prog Gh:=
 cOf aD aF jsH Gh Tryz.func204 trivial (j9 (λh=>by kernel_rfl) trivial)
def Dx:Con:=⟨322,[.v iT,.v iT,.v iT],[iT,iT,iT],⟨[.v .bool],[]⟩,[.bool],Pw.unc3 Pw.j8A⟩
def jsI:FnD where
 N:=15
 np:=3
 cs:=[]
 ds:=[]
 ro:=[false]
theorem KS:Con.OK Tryz.prog Dx:=
 cOf aD aF jsI Dx Tryz.func322 trivial trivial
def KT:Con:=⟨251,[.v iT],[iT],⟨[.v .bool],[]⟩,[.bool],λh=>Pw.j5Q h⟩
def joc:FnD where
 N:=10
 np:=1
 cs:=[Dx]
 ds:=[]
 modes:=[(322,[false,false,false])]
 ro:=[false]
theorem jmJ:Con.OK Tryz.prog KT:=
 cOf aD aF joc KT Tryz.func251 (j9 KS trivial) trivial
def KU:Con:=⟨169,[.v aT,.v fG],[aT,fG],⟨[.v iT],[]⟩,[iT],Pw.unc2 Pw.j2h⟩
def jhN:FnD where
 N:=29
 np:=2
 cs:=[xL,Gh,KT]
 ds:=[]
 modes:=[(204,[false]),(250,[false,false]),(251,[false])]
 ro:=[false]
theorem jh2:Con.OK Tryz.prog KU:=
 cOf aD aF jhN KU Tryz.func169 (j9 Dw (j9 Uf (j9 jmJ trivial))) trivial
def KV:Con:=⟨171,[.v eQ],[eQ],⟨[.v .str],[]⟩,[.str],λh=>Pw.jci h⟩
def jkS:FnD where
 N:=5
 np:=1
 cs:=[]
 ds:=[]
 ro:=[false]
theorem jjy:Con.OK Tryz.prog KV:=
 cOf aD aF jkS KV Tryz.func171 trivial trivial
def KW:Con:=⟨367,[.v iT],[iT],⟨[.v iT],[]⟩,[iT],λh=>Pw.jfp h⟩
def jsJ:FnD where
 N:=15
 np:=1
 cs:=[Ge,Dv]
 ds:=[⟨0,[sI,sI],[iT,iT],[⟨.exit 0,[sI],[iT]⟩],Pw.unc2 (Pw.jeu)⟩]
 modes:=[(366,[false]),(393,[false,false])]
 keep:=[(0,⟨[0,3],[],[],[]⟩)]
 keepX:=[(0,.exit 0,⟨[3],[],[],[]⟩)]
 ro:=[false]
theorem jqY:Con.OK Tryz.prog KW:=
 cOf aD aF jsJ KW Tryz.func367 (j9 Uc (j9 KE trivial)) (j9 (λh=>by kernel_rfl) trivial)
def KX:Con:=⟨323,[.v iT],[iT],⟨[.v aL,.v iT],[]⟩,[aL,iT],λh=>Pw.j5R h⟩
def jp4:FnD where
 N:=45
 np:=1
 cs:=[Ah,Dv,KW]
 ds:=[⟨0,[.s (.one (.bp 128 0)),.s (.one (.bp 256 0)),sI,.b (.cell [.d iT,.d iT,.d iT] false),.b (.cell [.d iT,.d iT,.d iT] false)],[iT,iT,iT,iT,iT,iT,iT],[⟨.exit 0,[.s (.one (.bp 128 0)),.s (.one (.bp 256 0)),sI,.b (.cell [.d iT,.d iT,.d iT] false),.b (.cell [.d iT,.d iT,.d iT] false)],[iT,iT,iT,iT,iT,iT,iT]⟩],Pw.unc7 (Pw.jcJ)⟩]
 modes:=[(366,[false]),(367,[false]),(368,[false,false])]
 keep:=[(0,⟨[2,4,5],[128,256],[],[]⟩)]
 keepX:=[(0,.exit 0,⟨[2,4,5],[128,256],[],[]⟩)]
 ro:=[false,false]
theorem jod:Con.OK Tryz.prog KX:=
 cOf aD aF jp4 KX Tryz.func323 (j9 Gd (j9 KE (j9 jqY trivial))) (j9 (λh=>by kernel_rfl) trivial)
def Dy:Con:=⟨254,[.v iT],[iT],⟨[.v .bool],[]⟩,[.bool],λh=>Pw.j17 h⟩
def jqZ:FnD where
 N:=12
 np:=1
 cs:=[KX]
 ds:=[]
 modes:=[(323,[false])]
 ro:=[false]
theorem KY:Con.OK Tryz.prog Dy:=
 cOf aD aF jqZ Dy Tryz.func254 (j9 jod trivial) trivial
def KZ:Con:=⟨253,[.v iT],[iT],⟨[.v .bool],[]⟩,[.bool],λh=>Pw.j2H h⟩
def jee:FnD where
 N:=6
 np:=1
 cs:=[Dy]
 ds:=[]
 modes:=[(254,[false])]
 ro:=[false]
theorem jdH:Con.OK Tryz.prog KZ:=
 cOf aD aF jee KZ Tryz.func253 (j9 KY trivial) trivial
def K3:Con:=⟨303,[.v (.list iT),.clo 253 []],[(.list iT)],⟨[.v iT],[]⟩,[iT],λh=>Pw.j2I h⟩
def jef:FnD where
 N:=19
 np:=2
 cs:=[KZ]
 ds:=[⟨0,[.s (.one (.d (.list iT))),.s (.one (.clo 253 [])),sI,sI],[(.list iT),iT,iT],[⟨.ret,[sI],[iT]⟩,⟨.exit 0,[],[]⟩],Pw.unc3 (Pw.j0y)⟩]
 modes:=[(253,[false])]
 keep:=[(0,⟨[0,1,7,8],[],[],[]⟩)]
 keepX:=[(0,.ret,⟨[4],[],[],[]⟩),
  (0,.exit 0,⟨[],[],[],[]⟩)]
 ro:=[false]
theorem jdI:Con.OK Tryz.prog K3:=
 cOf aD aF jef K3 Tryz.func303 (j9 jdH trivial) (j9 (λh=>by kernel_rfl) trivial)
end Go.Proofs.Pk
