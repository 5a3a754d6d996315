/- cJ: each given function is its plain function, printed by a program. -/
import Derived.Test.YtaieocafhcjelaaGreatECon0
noncomputable section
open Go Go.Lft
set_option linter.unusedVariables false
set_option maxRecDepth 100000
namespace Go.Proofs.Pk
def KP:Con:=⟨342,[.rl 338 ae,.clo 343 []],[ae],⟨[],[.rl ae]⟩,[ae],λh=>Pw.j0h h⟩
def j56:FnD where
 N:=9
 np:=2
 cs:=[KO]
 ds:=[]
 modes:=[(385,[true,false,false])]
theorem j4P:Con.OK Tryz.prog KP:=
 cOf aM aN j56 KP Tryz.func342 (j9 j8h trivial) trivial
def KQ:Con:=⟨299,[.v cj],[cj],⟨[.own 338 ae,.v iT],[]⟩,[ae,iT],λh=>Pw.j51 h⟩
def jiU:FnD where
 N:=86
 np:=1
 cs:=[DF,KG,KL,KP]
 ds:=[⟨0,[.s (.one (.bp 64 0)),sI,.s (.one (.d dT)),sI,sI,.b (.cell [.d .str,.d iT,.d dT] false)],[iT,dT,iT,iT,.str,iT,dT],[⟨.ret,[.s (.one (.nil)),sI],[iT]⟩,⟨.exit 0,[.s (.one (.bp 64 0)),sI,.b (.cell [.d .str,.d iT,.d dT] false)],[iT,.str,iT,dT]⟩],Pw.unc7 (Pw.j3L)⟩,
  ⟨2,[.s (.one (.ol 1002000)),.s (.one (.d dT)),sI,sI,.b (.lst 338 aV false)],[dT,iT,iT,ae],[⟨.exit 2,[.s (.one (.ol 1502300)),.b (.lst 338 aV false)],[ae]⟩],Pw.unc4 (Pw.j1H)⟩,
  ⟨4,[.s (.one (.ol 1004000)),.s (.one (.bp 640 0)),sI,.s (.one (.d dT)),sI,sI,.b (.cell [.d iT,.d iT,.d iT,.d iT,.d iT,.d iT,.d iT] false),.b (.lst 338 aV false)],[iT,dT,iT,iT,iT,iT,iT,iT,iT,iT,iT,ae],[⟨.exit 4,[.s (.one (.ol 1504500)),.s (.one (.d dT)),sI,sI,.b (.lst 338 aV false)],[dT,iT,iT,ae]⟩],Pw.jtI (Pw.j1G)⟩]
 modes:=[(300,[false,false,false]),(340,[false]),(341,[false,false,false,false]),(342,[true,false])]
 keep:=[(0,⟨[1,4,23,24,25],[64],[],[]⟩),
  (2,⟨[8,46,47,48],[],[⟨1002000,338,aV,[.slot 8],false⟩],[]⟩),
  (4,⟨[8,10,11,46,47,48],[640],[⟨1004000,338,aV,[.slot 8],false⟩],[]⟩)]
 keepX:=[(0,.ret,⟨[2,3],[],[],[]⟩),
  (0,.exit 0,⟨[1,4],[64],[],[]⟩),
  (2,.exit 2,⟨[8],[],[⟨1502300,338,aV,[.slot 8],false⟩],[]⟩),
  (4,.exit 4,⟨[8,46,47,48],[],[⟨1504500,338,aV,[.slot 8],false⟩],[]⟩)]
 ro:=[true,false]
theorem jhW:Con.OK Tryz.prog KQ:=
 cOf aM aN jiU KQ Tryz.func299 (j9 KF (j9 jqe (j9 jqh (j9 j4P trivial)))) (j9 (λh=>by kernel_rfl) (j9 (λh=>by kernel_rfl) (j9 (λh=>by kernel_rfl) trivial)))
def Gs:Con:=⟨208,[.v cj],[cj],⟨[.own 186 ae,.v iT],[]⟩,[ae,iT],λh=>Pw.j38 h⟩
def jiV:FnD where
 N:=79
 np:=1
 cs:=[DF,KQ]
 ds:=[⟨0,[.s (.one (.ol 1000000)),sI,.s (.one (.ol 1000001)),sI,sI,.b (.lst 186 aV false),.b (.lst 338 aV false)],[iT,iT,iT,ae,ae],[⟨.ret,[.s (.one (.nil)),sI],[iT]⟩,⟨.exit 0,[.s (.one (.ol 1500100)),.b (.lst 186 aV false)],[ae]⟩],Pw.unc5 (Pw.j3M)⟩]
 modes:=[(299,[false]),(300,[false,false,false])]
 keep:=[(0,⟨[6,7,22,23,24],[],[⟨1000000,186,aV,[.slot 6],false⟩,⟨1000001,338,aV,[.slot 22],false⟩],[]⟩)]
 keepX:=[(0,.ret,⟨[2,3],[],[],[]⟩),
  (0,.exit 0,⟨[6],[],[⟨1500100,186,aV,[.slot 6],false⟩],[]⟩)]
 ro:=[true,false]
theorem Tz:Con.OK Tryz.prog Gs:=
 cOf aM aN jiV Gs Tryz.func208 (j9 KF (j9 jhW trivial)) (j9 (λh=>by kernel_rfl) trivial)
def KR:Con:=⟨246,[.v cj],[cj],⟨[.v iT],[]⟩,[iT],λh=>Pw.j9R h⟩
def jqi:FnD where
 N:=11
 np:=1
 cs:=[Gs]
 ds:=[]
 modes:=[(208,[false])]
 ro:=[false]
theorem joI:Con.OK Tryz.prog KR:=
 cOf aM aN jqi KR Tryz.func246 (j9 Tz trivial) trivial
def KS:Con:=⟨248,[.v qN],[qN],⟨[.v .bool],[]⟩,[.bool],λh=>Pw.j8R h⟩
def jg0:FnD where
 N:=7
 np:=1
 cs:=[]
 ds:=[]
 ro:=[false]
theorem jfl:Con.OK Tryz.prog KS:=
 cOf aM aN jg0 KS Tryz.func248 trivial trivial
def KT:Con:=⟨319,[.v dT,.clo 248 []],[dT],⟨[.v iT],[]⟩,[iT],λh=>Pw.j0O h⟩
def j75:FnD where
 N:=19
 np:=2
 cs:=[KS]
 ds:=[⟨0,[.s (.one (.d dT)),.s (.one (.clo 248 [])),sI,sI],[dT,iT,iT],[⟨.ret,[sI],[iT]⟩,⟨.exit 0,[],[]⟩],Pw.unc3 (Pw.j0I)⟩]
 modes:=[(248,[false])]
 keep:=[(0,⟨[0,1,7,8],[],[],[]⟩)]
 keepX:=[(0,.ret,⟨[4],[],[],[]⟩),
  (0,.exit 0,⟨[],[],[],[]⟩)]
 ro:=[false]
theorem j71:Con.OK Tryz.prog KT:=
 cOf aM aN j75 KT Tryz.func319 (j9 jfl trivial) (j9 (λh=>by kernel_rfl) trivial)
def KU:Con:=⟨247,[.v dT,.clo 248 []],[dT],⟨[.v .bool],[]⟩,[.bool],λh=>Pw.j0D h⟩
def j6y:FnD where
 N:=9
 np:=2
 cs:=[KT]
 ds:=[]
 modes:=[(319,[false,false])]
 ro:=[false]
theorem j6k:Con.OK Tryz.prog KU:=
 cOf aM aN j6y KU Tryz.func247 (j9 j71 trivial) trivial
def KV:Con:=⟨167,[.v cj],[cj],⟨[.v iT],[]⟩,[iT],λh=>Pw.j3N h⟩
def jhX:FnD where
 N:=17
 np:=1
 cs:=[KR,KU]
 ds:=[]
 modes:=[(246,[false]),(247,[false,false])]
 ro:=[false]
theorem jhg:Con.OK Tryz.prog KV:=
 cOf aM aN jhX KV Tryz.func167 (j9 joI (j9 j6k trivial)) trivial
def KW:Con:=⟨165,[.v aD,.clo 166 [],.clo 167 []],[aD],⟨[.v iT],[]⟩,[iT],λh=>Pw.j2P h⟩
def jeQ:FnD where
 N:=34
 np:=3
 cs:=[KB,yz,KV]
 ds:=[⟨0,[.s (.one (.clo 166 [])),.s (.one (.clo 167 [])),.s (.one (.ol 1000000)),.s (.one (.d aD)),sI,sI,.b (.lst 4294967523 (.pair .str .bool) false)],[aD,iT,iT,(.list (.pair .str .bool))],[⟨.ret,[sI],[iT]⟩,⟨.exit 0,[],[]⟩],Pw.unc4 (Pw.j17)⟩]
 modes:=[(166,[false]),(167,[false]),(168,[false,true])]
 keep:=[(0,⟨[1,2,7,13,14,15],[],[⟨1000000,4294967523,(.pair .str .bool),[.slot 7],false⟩],[]⟩)]
 keepX:=[(0,.ret,⟨[6],[],[],[]⟩),
  (0,.exit 0,⟨[],[],[],[]⟩)]
 ro:=[false]
theorem jeg:Con.OK Tryz.prog KW:=
 cOf aM aN jeQ KW Tryz.func165 (j9 jhV (j9 DE (j9 jhg trivial))) (j9 (λh=>by kernel_rfl) trivial)
def yA:Con:=⟨250,[.v iT,.v iT],[iT,iT],⟨[.v .bool],[]⟩,[.bool],Pw.unc2 Pw.j3a⟩
def jm1:FnD where
 N:=12
 np:=2
 cs:=[]
 ds:=[]
 ro:=[false]
theorem DH:Con.OK Tryz.prog yA:=
 cOf aM aN jm1 yA Tryz.func250 trivial trivial
def Gt:Con:=⟨204,[.v ae],[ae],⟨[.v iT],[]⟩,[iT],λh=>Pw.j9S h⟩
def jqj:FnD where
 N:=46
 np:=1
 cs:=[]
 ds:=[⟨0,[.s (.one (.d ae)),.s (.one (.d ae)),sI,sI],[ae,ae,iT,iT],[⟨.ret,[sI],[iT]⟩,⟨.exit 0,[],[]⟩],Pw.unc4 (Pw.j66)⟩]
 keep:=[(0,⟨[0,8,9,10],[],[],[]⟩)]
 keepX:=[(0,.ret,⟨[2],[],[],[]⟩),
  (0,.exit 0,⟨[],[],[],[]⟩)]
 ro:=[false]
theorem TA:Con.OK Tryz.prog Gt:=
 cOf aM aN jqj Gt Tryz.func204 trivial (j9 (λh=>by kernel_rfl) trivial)
def DI:Con:=⟨322,[.v iT,.v iT,.v iT],[iT,iT,iT],⟨[.v .bool],[]⟩,[.bool],Pw.unc3 Pw.j7A⟩
def jqk:FnD where
 N:=15
 np:=3
 cs:=[]
 ds:=[]
 ro:=[false]
theorem KX:Con.OK Tryz.prog DI:=
 cOf aM aN jqk DI Tryz.func322 trivial trivial
def KY:Con:=⟨251,[.v iT],[iT],⟨[.v .bool],[]⟩,[.bool],λh=>Pw.j5j h⟩
def jm2:FnD where
 N:=10
 np:=1
 cs:=[DI]
 ds:=[]
 modes:=[(322,[false,false,false])]
 ro:=[false]
theorem jkx:Con.OK Tryz.prog KY:=
 cOf aM aN jm2 KY Tryz.func251 (j9 KX trivial) trivial
def KZ:Con:=⟨169,[.v bQ,.v fh],[bQ,fh],⟨[.v iT],[]⟩,[iT],Pw.unc2 Pw.j2C⟩
def jgB:FnD where
 N:=29
 np:=2
 cs:=[yA,Gt,KY]
 ds:=[]
 modes:=[(204,[false]),(250,[false,false]),(251,[false])]
 ro:=[false]
theorem jg1:Con.OK Tryz.prog KZ:=
 cOf aM aN jgB KZ Tryz.func169 (j9 DH (j9 TA (j9 jkx trivial))) trivial
def K3:Con:=⟨171,[.v eb],[eb],⟨[.v .str],[]⟩,[.str],λh=>Pw.jbX h⟩
def jiX:FnD where
 N:=5
 np:=1
 cs:=[]
 ds:=[]
 ro:=[false]
theorem jhY:Con.OK Tryz.prog K3:=
 cOf aM aN jiX K3 Tryz.func171 trivial trivial
def K4:Con:=⟨367,[.v iT],[iT],⟨[.v iT],[]⟩,[iT],λh=>Pw.jeK h⟩
def jql:FnD where
 N:=15
 np:=1
 cs:=[Gq,DG]
 ds:=[⟨0,[sI,sI],[iT,iT],[⟨.exit 0,[sI],[iT]⟩],Pw.unc2 (Pw.jdQ)⟩]
 modes:=[(366,[false]),(393,[false,false])]
 keep:=[(0,⟨[0,3],[],[],[]⟩)]
 keepX:=[(0,.exit 0,⟨[3],[],[],[]⟩)]
 ro:=[false]
theorem joJ:Con.OK Tryz.prog K4:=
 cOf aM aN jql K4 Tryz.func367 (j9 Tw (j9 KJ trivial)) (j9 (λh=>by kernel_rfl) trivial)
def K5:Con:=⟨323,[.v iT],[iT],⟨[.v an,.v iT],[]⟩,[an,iT],λh=>Pw.j85 h⟩
def jmS:FnD where
 N:=45
 np:=1
 cs:=[AZ,DG,K4]
 ds:=[⟨0,[.s (.one (.bp 128 0)),.s (.one (.bp 256 0)),sI,.b (.cell [.d iT,.d iT,.d iT] false),.b (.cell [.d iT,.d iT,.d iT] false)],[iT,iT,iT,iT,iT,iT,iT],[⟨.exit 0,[.s (.one (.bp 128 0)),.s (.one (.bp 256 0)),sI,.b (.cell [.d iT,.d iT,.d iT] false),.b (.cell [.d iT,.d iT,.d iT] false)],[iT,iT,iT,iT,iT,iT,iT]⟩],Pw.unc7 (Pw.jcm)⟩]
 modes:=[(366,[false]),(367,[false]),(368,[false,false])]
 keep:=[(0,⟨[2,4,5],[128,256],[],[]⟩)]
 keepX:=[(0,.exit 0,⟨[2,4,5],[128,256],[],[]⟩)]
 ro:=[false,false]
theorem jm3:Con.OK Tryz.prog K5:=
 cOf aM aN jmS K5 Tryz.func323 (j9 Gp (j9 KJ (j9 joJ trivial))) (j9 (λh=>by kernel_rfl) trivial)
def DJ:Con:=⟨254,[.v iT],[iT],⟨[.v .bool],[]⟩,[.bool],λh=>Pw.j2k h⟩
def joK:FnD where
 N:=12
 np:=1
 cs:=[K5]
 ds:=[]
 modes:=[(323,[false])]
 ro:=[false]
theorem K6:Con.OK Tryz.prog DJ:=
 cOf aM aN joK DJ Tryz.func254 (j9 jm3 trivial) trivial
def K7:Con:=⟨253,[.v iT],[iT],⟨[.v .bool],[]⟩,[.bool],λh=>Pw.j2V h⟩
def jdA:FnD where
 N:=6
 np:=1
 cs:=[DJ]
 ds:=[]
 modes:=[(254,[false])]
 ro:=[false]
theorem jd6:Con.OK Tryz.prog K7:=
 cOf aM aN jdA K7 Tryz.func253 (j9 K6 trivial) trivial
def K8:Con:=⟨303,[.v (.list iT),.clo 253 []],[(.list iT)],⟨[.v iT],[]⟩,[iT],λh=>Pw.j2W h⟩
def jdB:FnD where
 N:=19
 np:=2
 cs:=[K7]
 ds:=[⟨0,[.s (.one (.d (.list iT))),.s (.one (.clo 253 [])),sI,sI],[(.list iT),iT,iT],[⟨.ret,[sI],[iT]⟩,⟨.exit 0,[],[]⟩],Pw.unc3 (Pw.j0U)⟩]
 modes:=[(253,[false])]
 keep:=[(0,⟨[0,1,7,8],[],[],[]⟩)]
 keepX:=[(0,.ret,⟨[4],[],[],[]⟩),
  (0,.exit 0,⟨[],[],[],[]⟩)]
 ro:=[false]
theorem jd7:Con.OK Tryz.prog K8:=
 cOf aM aN jdB K8 Tryz.func303 (j9 jd6 trivial) (j9 (λh=>by kernel_rfl) trivial)
end Go.Proofs.Pk
