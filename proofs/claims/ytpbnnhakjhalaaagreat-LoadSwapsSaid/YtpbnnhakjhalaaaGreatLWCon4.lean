/- cC: each given function is its plain function, printed by a program. -/
import Derived.Test.YtpbnnhakjhalaaaGreatLWCon3
noncomputable section
open Go Go.Lft
set_option linter.unusedVariables false
set_option maxRecDepth 100000
namespace Go.Proofs.Pk
def wZ:Con:=⟨227,[.v iT,.v iT],[iT,iT],⟨[.v .bool],[]⟩,[.bool],Pw.unc2 Pw.j1u⟩
def jjJ:FnD where
 N:=12
 np:=2
 cs:=[]
 ds:=[]
 ro:=[false]
theorem CK:Con.OK Tryz.prog wZ:=
 cOf aF aG jjJ wZ Tryz.func227 trivial trivial
def CL:Con:=⟨197,[.v aa],[aa],⟨[.v iT],[]⟩,[iT],λh=>Pw.jai h⟩
def jou:FnD where
 N:=46
 np:=1
 cs:=[]
 ds:=[⟨0,[.s (.one (.d aa)),.s (.one (.d aa)),sI,sI],[aa,aa,iT,iT],[⟨.ret,[sI],[iT]⟩,⟨.exit 0,[],[]⟩],Pw.unc4 (Pw.j4h)⟩]
 keep:=[(0,⟨[0,8,9,10],[],[],[]⟩)]
 keepX:=[(0,.ret,⟨[2],[],[],[]⟩),
  (0,.exit 0,⟨[],[],[],[]⟩)]
 ro:=[false]
theorem Lb:Con.OK Tryz.prog CL:=
 cOf aF aG jou CL Tryz.func197 trivial (j9 (λh=>by kernel_rfl) trivial)
def CM:Con:=⟨308,[.v iT,.v iT,.v iT],[iT,iT,iT],⟨[.v .bool],[]⟩,[.bool],Pw.unc3 Pw.j6D⟩
def jov:FnD where
 N:=15
 np:=3
 cs:=[]
 ds:=[]
 ro:=[false]
theorem Lc:Con.OK Tryz.prog CM:=
 cOf aF aG jov CM Tryz.func308 trivial trivial
def Ld:Con:=⟨228,[.v iT],[iT],⟨[.v .bool],[]⟩,[.bool],λh=>Pw.j4i h⟩
def jjK:FnD where
 N:=10
 np:=1
 cs:=[CM]
 ds:=[]
 modes:=[(308,[false,false,false])]
 ro:=[false]
theorem jih:Con.OK Tryz.prog Ld:=
 cOf aF aG jjK Ld Tryz.func228 (j9 Lc trivial) trivial
def Le:Con:=⟨153,[.v bc,.v fD],[bc,fD],⟨[.v iT],[]⟩,[iT],Pw.unc2 Pw.j2B⟩
def jeq:FnD where
 N:=29
 np:=2
 cs:=[wZ,CL,Ld]
 ds:=[]
 modes:=[(197,[false]),(227,[false,false]),(228,[false])]
 ro:=[false]
theorem jdF:Con.OK Tryz.prog Le:=
 cOf aF aG jeq Le Tryz.func153 (j9 CK (j9 Lb (j9 jih trivial))) trivial
def Lf:Con:=⟨155,[.v eV],[eV],⟨[.v .str],[]⟩,[.str],λh=>Pw.j9x h⟩
def jgO:FnD where
 N:=5
 np:=1
 cs:=[]
 ds:=[]
 ro:=[false]
theorem jfM:Con.OK Tryz.prog Lf:=
 cOf aF aG jgO Lf Tryz.func155 trivial trivial
def Lg:Con:=⟨348,[.v iT],[iT],⟨[.v iT],[]⟩,[iT],λh=>Pw.jck h⟩
def jow:FnD where
 N:=15
 np:=1
 cs:=[FN,CJ]
 ds:=[⟨0,[sI,sI],[iT,iT],[⟨.exit 0,[sI],[iT]⟩],Pw.unc2 (Pw.jbo)⟩]
 modes:=[(347,[false]),(395,[false,false])]
 keep:=[(0,⟨[0,3],[],[],[]⟩)]
 keepX:=[(0,.exit 0,⟨[3],[],[],[]⟩)]
 ro:=[false]
theorem jmB:Con.OK Tryz.prog Lg:=
 cOf aF aG jow Lg Tryz.func348 (j9 Th (j9 KU trivial)) (j9 (λh=>by kernel_rfl) trivial)
def Lh:Con:=⟨310,[.v iT],[iT],⟨[.v ax,.v iT],[]⟩,[ax,iT],λh=>Pw.j4j h⟩
def jkv:FnD where
 N:=45
 np:=1
 cs:=[yD,CJ,Lg]
 ds:=[⟨0,[.s (.one (.bp 128 0)),.s (.one (.bp 256 0)),sI,.b (.cell [.d iT,.d iT,.d iT] false),.b (.cell [.d iT,.d iT,.d iT] false)],[iT,iT,iT,iT,iT,iT,iT],[⟨.exit 0,[.s (.one (.bp 128 0)),.s (.one (.bp 256 0)),sI,.b (.cell [.d iT,.d iT,.d iT] false),.b (.cell [.d iT,.d iT,.d iT] false)],[iT,iT,iT,iT,iT,iT,iT]⟩],Pw.unc7 (Pw.j9S)⟩]
 modes:=[(347,[false]),(348,[false]),(349,[false,false])]
 keep:=[(0,⟨[2,4,5],[128,256],[],[]⟩)]
 keepX:=[(0,.exit 0,⟨[2,4,5],[128,256],[],[]⟩)]
 ro:=[false,false]
theorem jjL:Con.OK Tryz.prog Lh:=
 cOf aF aG jkv Lh Tryz.func310 (j9 FM (j9 KU (j9 jmB trivial))) (j9 (λh=>by kernel_rfl) trivial)
def CN:Con:=⟨231,[.v iT],[iT],⟨[.v .bool],[]⟩,[.bool],λh=>Pw.j0t h⟩
def jmC:FnD where
 N:=12
 np:=1
 cs:=[Lh]
 ds:=[]
 modes:=[(310,[false])]
 ro:=[false]
theorem Li:Con.OK Tryz.prog CN:=
 cOf aF aG jmC CN Tryz.func231 (j9 jjL trivial) trivial
def Lj:Con:=⟨230,[.v iT],[iT],⟨[.v .bool],[]⟩,[.bool],λh=>Pw.j50 h⟩
def jb8:FnD where
 N:=6
 np:=1
 cs:=[CN]
 ds:=[]
 modes:=[(231,[false])]
 ro:=[false]
theorem jaR:Con.OK Tryz.prog Lj:=
 cOf aF aG jb8 Lj Tryz.func230 (j9 Li trivial) trivial
def Lk:Con:=⟨309,[.v (.list iT),.clo 230 []],[(.list iT)],⟨[.v iT],[]⟩,[iT],λh=>Pw.j51 h⟩
def jb9:FnD where
 N:=19
 np:=2
 cs:=[Lj]
 ds:=[⟨0,[.s (.one (.d (.list iT))),.s (.one (.clo 230 [])),sI,sI],[(.list iT),iT,iT],[⟨.ret,[sI],[iT]⟩,⟨.exit 0,[],[]⟩],Pw.unc3 (Pw.j0Z)⟩]
 modes:=[(230,[false])]
 keep:=[(0,⟨[0,1,7,8],[],[],[]⟩)]
 keepX:=[(0,.ret,⟨[4],[],[],[]⟩),
  (0,.exit 0,⟨[],[],[],[]⟩)]
 ro:=[false]
theorem jaS:Con.OK Tryz.prog Lk:=
 cOf aF aG jb9 Lk Tryz.func309 (j9 jaR trivial) (j9 (λh=>by kernel_rfl) trivial)
def Ll:Con:=⟨229,[.v (.list iT),.clo 230 []],[(.list iT)],⟨[.v .bool],[]⟩,[.bool],λh=>Pw.j3O h⟩
def j9G:FnD where
 N:=9
 np:=2
 cs:=[Lk]
 ds:=[]
 modes:=[(309,[false,false])]
 ro:=[false]
theorem j9l:Con.OK Tryz.prog Ll:=
 cOf aF aG j9G Ll Tryz.func229 (j9 jaS trivial) trivial
def Lm:Con:=⟨157,[.v bc,.v eV],[bc,eV],⟨[.v iT],[]⟩,[iT],Pw.unc2 Pw.j2R⟩
def jdd:FnD where
 N:=46
 np:=2
 cs:=[wZ,Ll]
 ds:=[⟨1,[.s (.one (.bp 192 0)),sI,sI,.b (.cell [.d .str,.d iT,.d (.list iT)] false)],[iT,iT,.str,iT,(.list iT)],[⟨.ret,[sI],[iT]⟩,⟨.exit 1,[],[]⟩],Pw.unc5 (Pw.j1f)⟩]
 modes:=[(227,[false,false]),(229,[false,false])]
 keep:=[(1,⟨[3,25,26],[192],[],[]⟩)]
 keepX:=[(1,.ret,⟨[4],[],[],[]⟩),
  (1,.exit 1,⟨[],[],[],[]⟩)]
 ro:=[false]
theorem jcs:Con.OK Tryz.prog Lm:=
 cOf aF aG jdd Lm Tryz.func157 (j9 CK (j9 j9l trivial)) (j9 (λh=>by kernel_rfl) trivial)
def Ln:Con:=⟨156,[.v eV,.ip [ay,aC,aB,aK]],[eV,ay,aC,aB,aK],⟨[.v iT],[]⟩,[iT],Pw.unc5 Pw.j9y⟩
def jgP:FnD where
 N:=7
 np:=2
 cs:=[Lm]
 ds:=[]
 modes:=[(157,[false,false])]
 ro:=[false]
theorem jfN:Con.OK Tryz.prog Ln:=
 cOf aF aG jgP Ln Tryz.func156 (j9 jcs trivial) trivial
def Lo:Con:=⟨154,[.v aB,.clo 155 [],.clo 156 [.p [ay,aC,aB,aK]]],[aB,ay,aC,aB,aK],⟨[.v iT],[]⟩,[iT],Pw.unc5 Pw.j2u⟩
def ja8:FnD where
 N:=34
 np:=3
 cs:=[wY,Lf,Ln]
 ds:=[⟨0,[.s (.one (.clo 155 [])),.s (.one (.clo 156 [.p [ay,aC,aB,aK]])),.s (.one (.ol 1000000)),.s (.one (.d aB)),sI,sI,.b (.lst 4294967512 (.pair .str .bool) false)],[ay,aC,aB,aK,aB,iT,iT,(.list (.pair .str .bool))],[⟨.ret,[sI],[iT]⟩,⟨.exit 0,[],[]⟩],Pw.unc8 (Pw.j0L)⟩]
 modes:=[(152,[false,true]),(155,[false]),(156,[false])]
 keep:=[(0,⟨[1,2,7,13,14,15],[],[⟨1000000,4294967512,(.pair .str .bool),[.slot 7],false⟩],[]⟩)]
 keepX:=[(0,.ret,⟨[6],[],[],[]⟩),
  (0,.exit 0,⟨[],[],[],[]⟩)]
 ro:=[false]
theorem j9H:Con.OK Tryz.prog Lo:=
 cOf aF aG ja8 Lo Tryz.func154 (j9 CH (j9 jfM (j9 jfN trivial))) (j9 (λh=>by kernel_rfl) trivial)
def Lp:Con:=⟨159,[.v cV],[cV],⟨[.v .str],[]⟩,[.str],λh=>Pw.j9z h⟩
def jgQ:FnD where
 N:=5
 np:=1
 cs:=[]
 ds:=[]
 ro:=[false]
theorem jfO:Con.OK Tryz.prog Lp:=
 cOf aF aG jgQ Lp Tryz.func159 trivial trivial
def Lq:Con:=⟨233,[.v cA],[cA],⟨[.v .str],[]⟩,[.str],λh=>Pw.j52 h⟩
def jba:FnD where
 N:=5
 np:=1
 cs:=[]
 ds:=[]
 ro:=[false]
theorem jaT:Con.OK Tryz.prog Lq:=
 cOf aF aG jba Lq Tryz.func233 trivial trivial
def Lr:Con:=⟨311,[.v iT,.ip [ay,aC,aB,aK]],[iT,ay,aC,aB,aK],⟨[.v .bool],[]⟩,[.bool],Pw.unc5 Pw.j6l⟩
def jde:FnD where
 N:=10
 np:=2
 cs:=[wZ]
 ds:=[]
 modes:=[(227,[false,false])]
 ro:=[false]
theorem jct:Con.OK Tryz.prog Lr:=
 cOf aF aG jde Lr Tryz.func311 (j9 CK trivial) trivial
def Ls:Con:=⟨309,[.v (.list iT),.clo 311 [.p [ay,aC,aB,aK]]],[(.list iT),ay,aC,aB,aK],⟨[.v iT],[]⟩,[iT],Pw.unc5 Pw.j3P⟩
def j9I:FnD where
 N:=19
 np:=2
 cs:=[Lr]
 ds:=[⟨0,[.s (.one (.d (.list iT))),.s (.one (.clo 311 [.p [ay,aC,aB,aK]])),sI,sI],[(.list iT),ay,aC,aB,aK,iT,iT],[⟨.ret,[sI],[iT]⟩,⟨.exit 0,[],[]⟩],Pw.unc7 (Pw.j0F)⟩]
 modes:=[(311,[false])]
 keep:=[(0,⟨[0,1,7,8],[],[],[]⟩)]
 keepX:=[(0,.ret,⟨[4],[],[],[]⟩),
  (0,.exit 0,⟨[],[],[],[]⟩)]
 ro:=[false]
theorem j9m:Con.OK Tryz.prog Ls:=
 cOf aF aG j9I Ls Tryz.func309 (j9 jct trivial) (j9 (λh=>by kernel_rfl) trivial)
def Lt:Con:=⟨229,[.v (.list iT),.clo 311 [.p [ay,aC,aB,aK]]],[(.list iT),ay,aC,aB,aK],⟨[.v .bool],[]⟩,[.bool],Pw.unc5 Pw.j2S⟩
def j8f:FnD where
 N:=9
 np:=2
 cs:=[Ls]
 ds:=[]
 modes:=[(309,[false,false])]
 ro:=[false]
theorem j8b:Con.OK Tryz.prog Lt:=
 cOf aF aG j8f Lt Tryz.func229 (j9 j9m trivial) trivial
end Go.Proofs.Pk
