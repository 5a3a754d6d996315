/- cJ: each given function is its plain function, printed by a program. -/
import Derived.Test.YtllkgjaoejhneaaGreatSECon0
open _root_ renaming trivial->e
open Bool renaming false->i,true->j
noncomputable section
open Go Go.Lft
set_option linter.unusedVariables false
set_option maxRecDepth 100000
namespace Go.Proofs.Pk
def NF:Con:=⟨284,[.rl 289 ag,.clo 285 []],[ag],⟨[],[.rl ag]⟩,[ag],λh=>Pw.j0g h⟩
def j3L:FnD where
 N:=9
 np:=2
 cs:=[ND]
 modes:=[(301,[j,i,i])]
theorem j3t:aN NF:=
 cOf aP aQ j3L NF Tryz.func284 (jg j6N e) e
def NG:Con:=⟨263,[.v bh],[bh],⟨[.own 289 ag,.v iT],[]⟩,[ag,iT],λh=>Pw.j25 h⟩
def jif:FnD where
 N:=86
 np:=1
 cs:=[EW,Nv,NA,NF]
 ds:=[⟨0,[sB 64 0,sI,sD bK,sI,sI,.b (.cell [.d .str,.d iT,.d bK] i)],[iT,bK,iT,iT,.str,iT,bK],[⟨.ret,[.s (.one (.nil)),sI],[iT]⟩,⟨.exit 0,[sB 64 0,sI,.b (.cell [.d .str,.d iT,.d bK] i)],[iT,.str,iT,bK]⟩],Pw.unc7 (Pw.j1F)⟩,⟨2,[sO 1002000,sD bK,sI,sI,.b (.lst 289 aT i)],[bK,iT,iT,ag],[⟨.exit 2,[sO 1502300,.b (.lst 289 aT i)],[ag]⟩],Pw.unc4 (Pw.j2c)⟩,⟨4,[sO 1004000,sB 640 0,sI,sD bK,sI,sI,.b (.cell [.d iT,.d iT,.d iT,.d iT,.d iT,.d iT,.d iT] i),.b (.lst 289 aT i)],[iT,bK,iT,iT,iT,iT,iT,iT,iT,iT,iT,ag],[⟨.exit 4,[sO 1504500,sD bK,sI,sI,.b (.lst 289 aT i)],[bK,iT,iT,ag]⟩],Pw.u8 Pw.unc4 (Pw.j2b)⟩]
 modes:=[(284,[j,i])]
 keep:=[(0,⟨[1,4,23,24,25],[64],[],[]⟩),(2,⟨[8,46,47,48],[],[⟨1002000,289,aT,[.slot 8],i⟩],[]⟩),(4,⟨[8,10,11,46,47,48],[640],[⟨1004000,289,aT,[.slot 8],i⟩],[]⟩)]
 keepX:=[(0,.ret,⟨[2,3],[],[],[]⟩),(0,.exit 0,⟨[1,4],[64],[],[]⟩),(2,.exit 2,⟨[8],[],[⟨1502300,289,aT,[.slot 8],i⟩],[]⟩),(4,.exit 4,⟨[8,46,47,48],[],[⟨1504500,289,aT,[.slot 8],i⟩],[]⟩)]
 ro:=[j,i]
theorem jh9:aN NG:=
 cOf aP aQ jif NG Tryz.func263 (jg Nu (jg jpX (jg jq0 (jg j3t e)))) (jg (λh=>by kernel_rfl) (jg (λh=>by kernel_rfl) (jg (λh=>by kernel_rfl) e)))
def Ix:Con:=⟨228,[.v bh],[bh],⟨[.own 200 ag,.v iT],[]⟩,[ag,iT],λh=>Pw.j0P h⟩
def jig:FnD where
 N:=79
 np:=1
 cs:=[EW,NG]
 ds:=[⟨0,[sO 1000000,sI,sO 1000001,sI,sI,.b (.lst 200 aT i),.b (.lst 289 aT i)],[iT,iT,iT,ag,ag],[⟨.ret,[.s (.one (.nil)),sI],[iT]⟩,⟨.exit 0,[sO 1500100,.b (.lst 200 aT i)],[ag]⟩],Pw.unc5 (Pw.j1j)⟩]
 keep:=[(0,⟨[6,7,22,23,24],[],[⟨1000000,200,aT,[.slot 6],i⟩,⟨1000001,289,aT,[.slot 22],i⟩],[]⟩)]
 keepX:=[(0,.ret,⟨[2,3],[],[],[]⟩),(0,.exit 0,⟨[6],[],[⟨1500100,200,aT,[.slot 6],i⟩],[]⟩)]
 ro:=[j,i]
theorem WN:aN Ix:=
 cOf aP aQ jig Ix Tryz.func228 (jg Nu (jg jh9 e)) (jg (λh=>by kernel_rfl) e)
def NH:Con:=⟨174,[.v bh],[bh],⟨[.v iT],[]⟩,[iT],λh=>Pw.jdy h⟩
def jq1:FnD where
 N:=11
 np:=1
 cs:=[Ix]
theorem jok:aN NH:=
 cOf aP aQ jq1 NH Tryz.func174 (jg WN e) e
def NI:Con:=⟨176,[.v nG],[nG],⟨[.v .bool],[]⟩,[.bool],λh=>Pw.j7c h⟩
def jf6:FnD where
 N:=7
 np:=1
theorem jel:aN NI:=
 cOf aP aQ jf6 NI Tryz.func176 e e
def NJ:Con:=⟨229,[.v bK,.clo 176 []],[bK],⟨[.v iT],[]⟩,[iT],λh=>Pw.j1z h⟩
def j5q:FnD where
 N:=19
 np:=2
 cs:=[NI]
 ds:=[⟨0,[sD bK,sC 176 [],sI,sI],[bK,iT,iT],[⟨.ret,[sI],[iT]⟩,⟨.exit 0,[],[]⟩],Pw.unc3 (Pw.j0j)⟩]
 keep:=[(0,⟨[0,1,7,8],[],[],[]⟩)]
 keepX:=[(0,.ret,⟨[4],[],[],[]⟩)]
theorem j5o:aN NJ:=
 cOf aP aQ j5q NJ Tryz.func229 (jg jel e) (jg (λh=>by kernel_rfl) e)
def NK:Con:=⟨175,[.v bK,.clo 176 []],[bK],⟨[.v .bool],[]⟩,[.bool],λh=>Pw.j0F h⟩
def j4Z:FnD where
 N:=9
 np:=2
 cs:=[NJ]
theorem j4R:aN NK:=
 cOf aP aQ j4Z NK Tryz.func175 (jg j5o e) e
def NL:Con:=⟨120,[.v bh],[bh],⟨[.v iT],[]⟩,[iT],λh=>Pw.j1M h⟩
def jha:FnD where
 N:=17
 np:=1
 cs:=[NH,NK]
theorem jgl:aN NL:=
 cOf aP aQ jha NL Tryz.func120 (jg jok (jg j4R e)) e
def NM:Con:=⟨118,[.v aA,.clo 119 [],.clo 120 []],[aA],⟨[.v iT],[]⟩,[iT],λh=>Pw.j2O h⟩
def jdJ:FnD where
 N:=34
 np:=3
 cs:=[Nq,zI,NL]
 ds:=[⟨0,[sC 119 [],sC 120 [],sO 1000000,sD aA,sI,sI,.b (.lst 4294967458 (.pair .str .bool) i)],[aA,iT,iT,(.list (.pair .str .bool))],[⟨.ret,[sI],[iT]⟩,⟨.exit 0,[],[]⟩],Pw.unc4 (Pw.j0T)⟩]
 modes:=[(121,[i,j])]
 keep:=[(0,⟨[1,2,7,13,14,15],[],[⟨1000000,4294967458,(.pair .str .bool),[.slot 7],i⟩],[]⟩)]
 keepX:=[(0,.ret,⟨[6],[],[],[]⟩)]
theorem jcW:aN NM:=
 cOf aP aQ jdJ NM Tryz.func118 (jg jh8 (jg EV (jg jgl e))) (jg (λh=>by kernel_rfl) e)
def zJ:Con:=⟨178,[.v iT,.v iT],[iT,iT],⟨[.v .bool],[]⟩,[.bool],Pw.unc2 Pw.j1h⟩
def jlk:FnD where
 N:=12
 np:=2
theorem EY:aN zJ:=
 cOf aP aQ jlk zJ Tryz.func178 e e
def Iy:Con:=⟨179,[.v ag],[ag],⟨[.v iT],[]⟩,[iT],λh=>Pw.jbd h⟩
def jq2:FnD where
 N:=46
 np:=1
 ds:=[⟨0,[sD ag,sD ag,sI,sI],[ag,ag,iT,iT],[⟨.ret,[sI],[iT]⟩,⟨.exit 0,[],[]⟩],Pw.unc4 (Pw.j4A)⟩]
 keep:=[(0,⟨[0,8,9,10],[],[],[]⟩)]
 keepX:=[(0,.ret,⟨[2],[],[],[]⟩)]
theorem WO:aN Iy:=
 cOf aP aQ jq2 Iy Tryz.func179 e (jg (λh=>by kernel_rfl) e)
def EZ:Con:=⟨232,[.v iT,.v iT,.v iT],[iT,iT,iT],⟨[.v .bool],[]⟩,[.bool],Pw.unc3 Pw.j2V⟩
def jq3:FnD where
 N:=15
 np:=3
theorem NN:aN EZ:=
 cOf aP aQ jq3 EZ Tryz.func232 e e
def NO:Con:=⟨180,[.v iT],[iT],⟨[.v .bool],[]⟩,[.bool],λh=>Pw.j5z h⟩
def jll:FnD where
 N:=10
 np:=1
 cs:=[EZ]
theorem jjT:aN NO:=
 cOf aP aQ jll NO Tryz.func180 (jg NN e) e
def NP:Con:=⟨122,[.v aR,.v fB],[aR,fB],⟨[.v iT],[]⟩,[iT],Pw.unc2 Pw.j4g⟩
def jfA:FnD where
 N:=29
 np:=2
 cs:=[zJ,Iy,NO]
theorem jf7:aN NP:=
 cOf aP aQ jfA NP Tryz.func122 (jg EY (jg WO (jg jjT e))) e
def NQ:Con:=⟨124,[.v fg],[fg],⟨[.v .str],[]⟩,[.str],λh=>Pw.j7K h⟩
def jii:FnD where
 N:=5
 np:=1
theorem jhb:aN NQ:=
 cOf aP aQ jii NQ Tryz.func124 e e
def NR:Con:=⟨266,[.v iT],[iT],⟨[.v iT],[]⟩,[iT],λh=>Pw.jg1 h⟩
def jq4:FnD where
 N:=15
 np:=1
 cs:=[Iv,EX]
 ds:=[⟨0,[sI,sI],[iT,iT],[⟨.exit 0,[sI],[iT]⟩],Pw.unc2 (Pw.j4B)⟩]
 keep:=[(0,⟨[0,3],[],[],[]⟩)]
 keepX:=[(0,.exit 0,⟨[3],[],[],[]⟩)]
theorem jol:aN NR:=
 cOf aP aQ jq4 NR Tryz.func266 (jg WK (jg Ny e)) (jg (λh=>by kernel_rfl) e)
def NS:Con:=⟨234,[.v iT],[iT],⟨[.v aZ,.v iT],[]⟩,[aZ,iT],λh=>Pw.j5t h⟩
def jmf:FnD where
 N:=45
 np:=1
 cs:=[BZ,EX,NR]
 ds:=[⟨0,[sB 128 0,sB 256 0,sI,.b (.cell [.d iT,.d iT,.d iT] i),.b (.cell [.d iT,.d iT,.d iT] i)],[iT,iT,iT,iT,iT,iT,iT],[⟨.exit 0,[sB 128 0,sB 256 0,sI,.b (.cell [.d iT,.d iT,.d iT] i),.b (.cell [.d iT,.d iT,.d iT] i)],[iT,iT,iT,iT,iT,iT,iT]⟩],Pw.unc7 (Pw.j3N)⟩]
 keep:=[(0,⟨[2,4,5],[128,256],[],[]⟩)]
 keepX:=[(0,.exit 0,⟨[2,4,5],[128,256],[],[]⟩)]
theorem jlm:aN NS:=
 cOf aP aQ jmf NS Tryz.func234 (jg Iu (jg Ny (jg jol e))) (jg (λh=>by kernel_rfl) e)
def E0:Con:=⟨183,[.v iT],[iT],⟨[.v .bool],[]⟩,[.bool],λh=>Pw.j1c h⟩
def jom:FnD where
 N:=12
 np:=1
 cs:=[NS]
theorem NU:aN E0:=
 cOf aP aQ jom E0 Tryz.func183 (jg jlm e) e
def NV:Con:=⟨182,[.v iT],[iT],⟨[.v .bool],[]⟩,[.bool],λh=>Pw.j3v h⟩
def jc9:FnD where
 N:=6
 np:=1
 cs:=[E0]
theorem jbP:aN NV:=
 cOf aP aQ jc9 NV Tryz.func182 (jg NU e) e
def NW:Con:=⟨233,[.v (.list iT),.clo 182 []],[(.list iT)],⟨[.v iT],[]⟩,[iT],λh=>Pw.j3w h⟩
def jca:FnD where
 N:=19
 np:=2
 cs:=[NV]
 ds:=[⟨0,[sD (.list iT),sC 182 [],sI,sI],[(.list iT),iT,iT],[⟨.ret,[sI],[iT]⟩,⟨.exit 0,[],[]⟩],Pw.unc3 (Pw.j0w)⟩]
 keep:=[(0,⟨[0,1,7,8],[],[],[]⟩)]
 keepX:=[(0,.ret,⟨[4],[],[],[]⟩)]
theorem jbQ:aN NW:=
 cOf aP aQ jca NW Tryz.func233 (jg jbP e) (jg (λh=>by kernel_rfl) e)
end Go.Proofs.Pk
