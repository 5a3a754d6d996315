/- cL: each given function is its plain function, printed by a program. -/
import Derived.Test.YtbpjdcbbmibehaaGreatLJCon7
noncomputable section
open Go Go.Lft
set_option linter.unusedVariables false
set_option maxRecDepth 100000
namespace Go.Proofs.Pk
def OS:Con:=⟨163,[.v bZ],[bZ],⟨[.own 238 aa],[]⟩,[aa],λh=>Pw.j8c h⟩
def jhk:FnD where
 N:=98
 np:=1
 cs:=[OR]
 ds:=[⟨0,[.s (.one (.d bZ)),.s (.one (.ol 1000000)),sI,.b (.lst 238 aF false)],[bZ,iT,aa],[⟨.exit 0,[.s (.one (.ol 1500100)),.b (.lst 238 aF false)],[aa]⟩],Pw.unc3 (Pw.j2B)⟩,
  ⟨2,[.s (.one (.d bZ)),.s (.one (.ol 1002000)),sI,sI,.b (.lst 238 aF false)],[bZ,iT,iT,aa],[⟨.exit 2,[.s (.one (.d bZ)),.s (.one (.ol 1502300)),sI,.b (.lst 238 aF false)],[bZ,iT,aa]⟩],Pw.unc4 (Pw.j2A)⟩,
  ⟨4,[.s (.one (.d bZ)),.s (.one (.ol 1004000)),sI,sI,.s (.one (.bp 512 0)),sI,.b (.cell [.d iT,.d iT] false),.b (.lst 238 aF false)],[bZ,iT,iT,iT,iT,iT,aa],[⟨.exit 4,[.s (.one (.d bZ)),.s (.one (.ol 1504500)),sI,sI,.s (.one (.bp 512 0)),sI,.b (.cell [.d iT,.d iT] false),.b (.lst 238 aF false)],[bZ,iT,iT,iT,iT,iT,aa]⟩],Pw.unc7 (Pw.j2z)⟩]
 modes:=[(239,[false,false,false,false])]
 keep:=[(0,⟨[0,3,4],[],[⟨1000000,238,aF,[.slot 3],false⟩],[]⟩),
  (2,⟨[0,3,4,5],[],[⟨1002000,238,aF,[.slot 3],false⟩],[]⟩),
  (4,⟨[0,3,4,5,8,9],[512],[⟨1004000,238,aF,[.slot 3],false⟩],[]⟩)]
 keepX:=[(0,.exit 0,⟨[3],[],[⟨1500100,238,aF,[.slot 3],false⟩],[]⟩),
  (2,.exit 2,⟨[0,3,4],[],[⟨1502300,238,aF,[.slot 3],false⟩],[]⟩),
  (4,.exit 4,⟨[0,3,4,5,8,9],[512],[⟨1504500,238,aF,[.slot 3],false⟩],[]⟩)]
 ro:=[true]
 dw:=[(9,[[],[],[],[],[],[],[],[],[],[],[],[],[],[],[512],[512]]),(14,[[],[],[],[],[],[],[],[5376]])]
theorem jgG:Con.OK Tryz.prog OS:=
 cOf aC aD jhk OS Tryz.func163 (j9 gi trivial) (j9 (λh=>by kernel_rfl) (j9 (λh=>by kernel_rfl) (j9 (λh=>by kernel_rfl) trivial)))
def VU:Con:=⟨99,[.v cm],[cm],⟨[.own 175 aa,.v iT],[]⟩,[aa,iT],λh=>Pw.j8d h⟩
def jhl:FnD where
 N:=119
 np:=1
 cs:=[Ic,OJ,OS]
 ds:=[⟨0,[.s (.one (.bp 64 0)),sI,sI,.b (.cell [.d .str,.d iT,.d bZ] false)],[iT,iT,.str,iT,bZ],[⟨.ret,[.s (.one (.nil)),sI],[iT]⟩,⟨.exit 0,[.s (.one (.bp 64 0)),sI,.b (.cell [.d .str,.d iT,.d bZ] false)],[iT,.str,iT,bZ]⟩],Pw.unc5 (Pw.j2C)⟩,
  ⟨2,[.s (.one (.ol 1002000)),.s (.one (.ol 1002001)),sI,sI,.b (.lst 175 aF false),.b (.lst 238 aF false)],[iT,iT,aa,aa],[⟨.ret,[.s (.one (.nil)),sI],[iT]⟩,⟨.exit 2,[.s (.one (.ol 1502300)),.b (.lst 175 aF false)],[aa]⟩],Pw.unc4 (Pw.j2D)⟩]
 modes:=[(161,[false,false,false]),(162,[false]),(163,[false])]
 keep:=[(0,⟨[1,4,5],[64],[],[]⟩),
  (2,⟨[6,7,8,9],[],[⟨1002000,175,aF,[.slot 6],false⟩,⟨1002001,238,aF,[.slot 7],false⟩],[]⟩)]
 keepX:=[(0,.ret,⟨[2,3],[],[],[]⟩),
  (0,.exit 0,⟨[1,4],[64],[],[]⟩),
  (2,.ret,⟨[2,3],[],[],[]⟩),
  (2,.exit 2,⟨[6],[],[⟨1502300,175,aF,[.slot 6],false⟩],[]⟩)]
 ro:=[true,false]
 dw:=[(21,[[],[],[],[],[],[],[],[],[],[],[],[],[],[640],[640]]),(24,[[],[],[7296],[7360,1002000],[],[],[],[]])]
theorem jqK:Con.OK Tryz.prog VU:=
 cOf aC aD jhl VU Tryz.func99 (j9 VT (j9 jov (j9 jgG trivial))) (j9 (λh=>by kernel_rfl) (j9 (λh=>by kernel_rfl) trivial))
def VV:Con:=⟨126,[.v aF],[aF],⟨[.v iT],[]⟩,[iT],λh=>Pw.j5x h⟩
def jjC:FnD where
 N:=10
 np:=1
 cs:=[H0]
 ds:=[]
 modes:=[(188,[false])]
 ro:=[false]
theorem js1:Con.OK Tryz.prog VV:=
 cOf aC aD jjC VV Tryz.func126 (j9 VC trivial) trivial
end Go.Proofs.Pk
