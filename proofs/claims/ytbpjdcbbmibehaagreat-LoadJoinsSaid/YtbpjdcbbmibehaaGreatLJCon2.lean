/- cL: each given function is its plain function, printed by a program. -/
import Derived.Test.YtbpjdcbbmibehaaGreatLJCon1
noncomputable section
open Go Go.Lft
set_option linter.unusedVariables false
set_option maxRecDepth 100000
namespace Go.Proofs.Pk
def M4:Con:=⟨278,[.v iT,.v iT,.v iT,.v iT],[iT,iT,iT,iT],⟨[.v iT,.v iT],[]⟩,[iT,iT],Pw.unc4 Pw.jgc⟩
def jpE:FnD where
 N:=59
 np:=4
 cs:=[Bm,M0,M3,H0]
 ds:=[]
 modes:=[(188,[false]),(326,[false]),(327,[false]),(328,[false,false])]
 ro:=[false,false]
theorem joc:Con.OK Tryz.prog M4:=
 cOf aC aD jpE M4 Tryz.func278 (j9 HY (j9 jkc (j9 jjl (j9 VC trivial)))) trivial
def M5:Con:=⟨280,[.v aF,.v aF],[aF,aF],⟨[.v iT],[]⟩,[iT],Pw.unc2 Pw.j7u⟩
def je7:FnD where
 N:=10
 np:=2
 cs:=[]
 ds:=[]
 ro:=[false]
theorem jdr:Con.OK Tryz.prog M5:=
 cOf aC aD je7 M5 Tryz.func280 trivial trivial
def M6:Con:=⟨374,[.rl 267 aa,.v iT,.v iT,.clo 280 []],[aa,iT,iT],⟨[],[.rl aa]⟩,[aa],Pw.unc3 Pw.j0n⟩
def j5e:FnD where
 N:=53
 np:=4
 cs:=[M5]
 ds:=[⟨0,[.s (.one (.ol 0)),sI,sI,.s (.one (.clo 280 [])),sI,.b (.lst 267 aF false)],[iT,iT,iT,aa],[⟨.exit 0,[.b (.lst 267 aF false)],[aa]⟩],Pw.unc4 (Pw.j0e)⟩,
  ⟨2,[.s (.one (.ol 0)),sI,sI,.s (.one (.clo 280 [])),sI,sI,.b (.lst 267 aF false)],[iT,iT,iT,iT,aa],[⟨.exit 2,[.s (.one (.ol 0)),sI,sI,.s (.one (.clo 280 [])),sI,.b (.lst 267 aF false)],[iT,iT,iT,aa]⟩],Pw.unc5 (Pw.j0d)⟩]
 modes:=[(280,[false,false])]
 keep:=[(0,⟨[0,1,2,3,8],[0],[],[]⟩),
  (2,⟨[0,1,2,3,8,9],[0],[],[]⟩)]
 keepX:=[(0,.exit 0,⟨[],[0],[],[]⟩),
  (2,.exit 2,⟨[0,1,2,3,8],[0],[],[]⟩)]
 dw:=[(6,[[],[],[],[],[],[],[],[],[],[],[],[],[],[],[],[0],[],[0]])]
theorem j4P:Con.OK Tryz.prog M6:=
 cOf aC aD j5e M6 Tryz.func374 (j9 jdr trivial) (j9 (λh=>by kernel_rfl) (j9 (λh=>by kernel_rfl) trivial))
def M7:Con:=⟨329,[.rl 267 aa,.v iT,.clo 280 []],[aa,iT],⟨[],[.rl aa]⟩,[aa],Pw.unc2 Pw.j1X⟩
def j6I:FnD where
 N:=63
 np:=3
 cs:=[M6]
 ds:=[⟨0,[.s (.one (.ol 0)),sI,.s (.one (.clo 280 [])),sI,sI,sI,.b (.lst 267 aF false)],[iT,iT,iT,iT,aa],[⟨.exit 0,[.s (.one (.ol 0)),sI,.s (.one (.clo 280 [])),sI,sI,.b (.lst 267 aF false)],[iT,iT,iT,aa]⟩],Pw.unc5 (Pw.j0D)⟩,
  ⟨2,[.s (.one (.ol 0)),sI,.s (.one (.clo 280 [])),sI,.b (.lst 267 aF false)],[iT,iT,aa],[⟨.exit 2,[.b (.lst 267 aF false)],[aa]⟩],Pw.unc3 (Pw.j0E)⟩,
  ⟨4,[.s (.one (.ol 0)),sI,.s (.one (.clo 280 [])),sI,sI,sI,.b (.lst 267 aF false)],[iT,iT,iT,iT,aa],[⟨.exit 4,[.s (.one (.ol 0)),sI,.s (.one (.clo 280 [])),sI,sI,.b (.lst 267 aF false)],[iT,iT,iT,aa]⟩],Pw.unc5 (Pw.j2l)⟩]
 modes:=[(374,[true,false,false,false])]
 keep:=[(0,⟨[0,1,2,6,7,8],[0],[],[]⟩),
  (2,⟨[0,1,2,6],[0],[],[]⟩),
  (4,⟨[0,1,2,6,7,8],[0],[],[]⟩)]
 keepX:=[(0,.exit 0,⟨[0,1,2,6,7],[0],[],[]⟩),
  (2,.exit 2,⟨[],[0],[],[]⟩),
  (4,.exit 4,⟨[0,1,2,6,7],[0],[],[]⟩)]
theorem j6q:Con.OK Tryz.prog M7:=
 cOf aC aD j6I M7 Tryz.func329 (j9 j4P trivial) (j9 (λh=>by kernel_rfl) (j9 (λh=>by kernel_rfl) (j9 (λh=>by kernel_rfl) trivial)))
def M8:Con:=⟨279,[.rl 267 aa,.clo 280 []],[aa],⟨[],[.rl aa]⟩,[aa],λh=>Pw.j0l h⟩
def j3s:FnD where
 N:=9
 np:=2
 cs:=[M7]
 ds:=[]
 modes:=[(329,[true,false,false])]
theorem j3e:Con.OK Tryz.prog M8:=
 cOf aC aD j3s M8 Tryz.func279 (j9 j6q trivial) trivial
def M9:Con:=⟨200,[.v cm],[cm],⟨[.own 267 aa,.v iT],[]⟩,[aa,iT],λh=>Pw.j7n h⟩
def jgq:FnD where
 N:=86
 np:=1
 cs:=[ED,MX,M4,M8]
 ds:=[⟨0,[.s (.one (.bp 64 0)),sI,.s (.one (.d bZ)),sI,sI,.b (.cell [.d .str,.d iT,.d bZ] false)],[iT,bZ,iT,iT,.str,iT,bZ],[⟨.ret,[.s (.one (.nil)),sI],[iT]⟩,⟨.exit 0,[.s (.one (.bp 64 0)),sI,.b (.cell [.d .str,.d iT,.d bZ] false)],[iT,.str,iT,bZ]⟩],Pw.unc7 (Pw.j29)⟩,
  ⟨2,[.s (.one (.ol 1002000)),.s (.one (.d bZ)),sI,sI,.b (.lst 267 aF false)],[bZ,iT,iT,aa],[⟨.exit 2,[.s (.one (.ol 1502300)),.b (.lst 267 aF false)],[aa]⟩],Pw.unc4 (Pw.j2b)⟩,
  ⟨4,[.s (.one (.ol 1004000)),.s (.one (.bp 640 0)),sI,.s (.one (.d bZ)),sI,sI,.b (.cell [.d iT,.d iT,.d iT,.d iT,.d iT,.d iT,.d iT] false),.b (.lst 267 aF false)],[iT,bZ,iT,iT,iT,iT,iT,iT,iT,iT,iT,aa],[⟨.exit 4,[.s (.one (.ol 1504500)),.s (.one (.d bZ)),sI,sI,.b (.lst 267 aF false)],[bZ,iT,iT,aa]⟩],Pw.jvu (Pw.j2a)⟩]
 modes:=[(201,[false,false,false]),(277,[false]),(278,[false,false,false,false]),(279,[true,false])]
 keep:=[(0,⟨[1,4,23,24,25],[64],[],[]⟩),
  (2,⟨[8,46,47,48],[],[⟨1002000,267,aF,[.slot 8],false⟩],[]⟩),
  (4,⟨[8,10,11,46,47,48],[640],[⟨1004000,267,aF,[.slot 8],false⟩],[]⟩)]
 keepX:=[(0,.ret,⟨[2,3],[],[],[]⟩),
  (0,.exit 0,⟨[1,4],[64],[],[]⟩),
  (2,.exit 2,⟨[8],[],[⟨1502300,267,aF,[.slot 8],false⟩],[]⟩),
  (4,.exit 4,⟨[8,46,47,48],[],[⟨1504500,267,aF,[.slot 8],false⟩],[]⟩)]
 ro:=[true,false]
theorem jfp:Con.OK Tryz.prog M9:=
 cOf aC aD jgq M9 Tryz.func200 (j9 MW (j9 jo9 (j9 joc (j9 j3e trivial)))) (j9 (λh=>by kernel_rfl) (j9 (λh=>by kernel_rfl) (j9 (λh=>by kernel_rfl) trivial)))
def H2:Con:=⟨138,[.v cm],[cm],⟨[.own 175 aa,.v iT],[]⟩,[aa,iT],λh=>Pw.j3o h⟩
def jgr:FnD where
 N:=79
 np:=1
 cs:=[ED,M9]
 ds:=[⟨0,[.s (.one (.ol 1000000)),sI,.s (.one (.ol 1000001)),sI,sI,.b (.lst 175 aF false),.b (.lst 267 aF false)],[iT,iT,iT,aa,aa],[⟨.ret,[.s (.one (.nil)),sI],[iT]⟩,⟨.exit 0,[.s (.one (.ol 1500100)),.b (.lst 175 aF false)],[aa]⟩],Pw.unc5 (Pw.j2c)⟩]
 modes:=[(200,[false]),(201,[false,false,false])]
 keep:=[(0,⟨[6,7,22,23,24],[],[⟨1000000,175,aF,[.slot 6],false⟩,⟨1000001,267,aF,[.slot 22],false⟩],[]⟩)]
 keepX:=[(0,.ret,⟨[2,3],[],[],[]⟩),
  (0,.exit 0,⟨[6],[],[⟨1500100,175,aF,[.slot 6],false⟩],[]⟩)]
 ro:=[true,false]
theorem VD:Con.OK Tryz.prog H2:=
 cOf aC aD jgr H2 Tryz.func138 (j9 MW (j9 jfp trivial)) (j9 (λh=>by kernel_rfl) trivial)
def Na:Con:=⟨302,[.v cm],[cm],⟨[.v iT],[]⟩,[iT],λh=>Pw.jc8 h⟩
def jod:FnD where
 N:=11
 np:=1
 cs:=[H2]
 ds:=[]
 modes:=[(138,[false])]
 ro:=[false]
theorem jmo:Con.OK Tryz.prog Na:=
 cOf aC aD jod Na Tryz.func302 (j9 VD trivial) trivial
def Nb:Con:=⟨304,[.v nQ],[nQ],⟨[.v .bool],[]⟩,[.bool],λh=>Pw.j6S h⟩
def jds:FnD where
 N:=7
 np:=1
 cs:=[]
 ds:=[]
 ro:=[false]
theorem jcW:Con.OK Tryz.prog Nb:=
 cOf aC aD jds Nb Tryz.func304 trivial trivial
def Nc:Con:=⟨354,[.v bZ,.clo 304 []],[bZ],⟨[.v iT],[]⟩,[iT],λh=>Pw.j1m h⟩
def j5h:FnD where
 N:=19
 np:=2
 cs:=[Nb]
 ds:=[⟨0,[.s (.one (.d bZ)),.s (.one (.clo 304 [])),sI,sI],[bZ,iT,iT],[⟨.ret,[sI],[iT]⟩,⟨.exit 0,[],[]⟩],Pw.unc3 (Pw.j0f)⟩]
 modes:=[(304,[false])]
 keep:=[(0,⟨[0,1,7,8],[],[],[]⟩)]
 keepX:=[(0,.ret,⟨[4],[],[],[]⟩),
  (0,.exit 0,⟨[],[],[],[]⟩)]
 ro:=[false]
theorem j5g:Con.OK Tryz.prog Nc:=
 cOf aC aD j5h Nc Tryz.func354 (j9 jcW trivial) (j9 (λh=>by kernel_rfl) trivial)
def Nd:Con:=⟨303,[.v bZ,.clo 304 []],[bZ],⟨[.v .bool],[]⟩,[.bool],λh=>Pw.j17 h⟩
def j4H:FnD where
 N:=9
 np:=2
 cs:=[Nc]
 ds:=[]
 modes:=[(354,[false,false])]
 ro:=[false]
theorem j4C:Con.OK Tryz.prog Nd:=
 cOf aC aD j4H Nd Tryz.func303 (j9 j5g trivial) trivial
def Nf:Con:=⟨246,[.v cm],[cm],⟨[.v iT],[]⟩,[iT],λh=>Pw.j50 h⟩
def jfq:FnD where
 N:=17
 np:=1
 cs:=[Na,Nd]
 ds:=[]
 modes:=[(302,[false]),(303,[false,false])]
 ro:=[false]
theorem jeI:Con.OK Tryz.prog Nf:=
 cOf aC aD jfq Nf Tryz.func246 (j9 jmo (j9 j4C trivial)) trivial
def Ng:Con:=⟨244,[.v aK,.clo 245 [],.clo 246 []],[aK],⟨[.v iT],[]⟩,[iT],λh=>Pw.j4a h⟩
def jci:FnD where
 N:=34
 np:=3
 cs:=[MS,yL,Nf]
 ds:=[⟨0,[.s (.one (.clo 245 [])),.s (.one (.clo 246 [])),.s (.one (.ol 1000000)),.s (.one (.d aK)),sI,sI,.b (.lst 4294967597 (.pair .str .bool) false)],[aK,iT,iT,(.list (.pair .str .bool))],[⟨.ret,[sI],[iT]⟩,⟨.exit 0,[],[]⟩],Pw.unc4 (Pw.j1e)⟩]
 modes:=[(245,[false]),(246,[false]),(247,[false,true])]
 keep:=[(0,⟨[1,2,7,13,14,15],[],[⟨1000000,4294967597,(.pair .str .bool),[.slot 7],false⟩],[]⟩)]
 keepX:=[(0,.ret,⟨[6],[],[],[]⟩),
  (0,.exit 0,⟨[],[],[],[]⟩)]
 ro:=[false]
theorem jbE:Con.OK Tryz.prog Ng:=
 cOf aC aD jci Ng Tryz.func244 (j9 jfo (j9 EC (j9 jeI trivial))) (j9 (λh=>by kernel_rfl) trivial)
def yM:Con:=⟨306,[.v iT,.v iT],[iT,iT],⟨[.v .bool],[]⟩,[.bool],Pw.unc2 Pw.j1D⟩
def jjn:FnD where
 N:=12
 np:=2
 cs:=[]
 ds:=[]
 ro:=[false]
theorem EF:Con.OK Tryz.prog yM:=
 cOf aC aD jjn yM Tryz.func306 trivial trivial
def EG:Con:=⟨52,[.v aa],[aa],⟨[.v iT],[]⟩,[iT],λh=>Pw.jam h⟩
def joe:FnD where
 N:=46
 np:=1
 cs:=[]
 ds:=[⟨0,[.s (.one (.d aa)),.s (.one (.d aa)),sI,sI],[aa,aa,iT,iT],[⟨.ret,[sI],[iT]⟩,⟨.exit 0,[],[]⟩],Pw.unc4 (Pw.j4o)⟩]
 keep:=[(0,⟨[0,8,9,10],[],[],[]⟩)]
 keepX:=[(0,.ret,⟨[2],[],[],[]⟩),
  (0,.exit 0,⟨[],[],[],[]⟩)]
 ro:=[false]
theorem Nh:Con.OK Tryz.prog EG:=
 cOf aC aD joe EG Tryz.func52 trivial (j9 (λh=>by kernel_rfl) trivial)
def EH:Con:=⟨357,[.v iT,.v iT,.v iT],[iT,iT,iT],⟨[.v .bool],[]⟩,[.bool],Pw.unc3 Pw.j6B⟩
def jof:FnD where
 N:=15
 np:=3
 cs:=[]
 ds:=[]
 ro:=[false]
theorem Ni:Con.OK Tryz.prog EH:=
 cOf aC aD jof EH Tryz.func357 trivial trivial
def Nj:Con:=⟨307,[.v iT],[iT],⟨[.v .bool],[]⟩,[.bool],λh=>Pw.j5u h⟩
def jjo:FnD where
 N:=10
 np:=1
 cs:=[EH]
 ds:=[]
 modes:=[(357,[false,false,false])]
 ro:=[false]
theorem jhV:Con.OK Tryz.prog Nj:=
 cOf aC aD jjo Nj Tryz.func307 (j9 Ni trivial) trivial
def Nk:Con:=⟨248,[.v ct,.v gg],[ct,gg],⟨[.v iT],[]⟩,[iT],Pw.unc2 Pw.j2O⟩
def je8:FnD where
 N:=29
 np:=2
 cs:=[yM,EG,Nj]
 ds:=[]
 modes:=[(52,[false]),(306,[false,false]),(307,[false])]
 ro:=[false]
theorem jdt:Con.OK Tryz.prog Nk:=
 cOf aC aD je8 Nk Tryz.func248 (j9 EF (j9 Nh (j9 jhV trivial))) trivial
def Nl:Con:=⟨250,[.v fy],[fy],⟨[.v .str],[]⟩,[.str],λh=>Pw.j9D h⟩
def jgs:FnD where
 N:=5
 np:=1
 cs:=[]
 ds:=[]
 ro:=[false]
theorem jfr:Con.OK Tryz.prog Nl:=
 cOf aC aD jgs Nl Tryz.func250 trivial trivial
def Nn:Con:=⟨388,[.v iT],[iT],⟨[.v iT],[]⟩,[iT],λh=>Pw.jc9 h⟩
def jog:FnD where
 N:=15
 np:=1
 cs:=[HZ,EE]
 ds:=[⟨0,[sI,sI],[iT,iT],[⟨.exit 0,[sI],[iT]⟩],Pw.unc2 (Pw.jbe)⟩]
 modes:=[(372,[false]),(393,[false,false])]
 keep:=[(0,⟨[0,3],[],[],[]⟩)]
 keepX:=[(0,.exit 0,⟨[3],[],[],[]⟩)]
 ro:=[false]
theorem jmp:Con.OK Tryz.prog Nn:=
 cOf aC aD jog Nn Tryz.func388 (j9 VA (j9 M1 trivial)) (j9 (λh=>by kernel_rfl) trivial)
end Go.Proofs.Pk
