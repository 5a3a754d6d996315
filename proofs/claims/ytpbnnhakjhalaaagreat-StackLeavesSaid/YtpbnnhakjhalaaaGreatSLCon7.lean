/- Contracts: each given function is its plain function, printed by a program. -/
import Derived.Test.YtpbnnhakjhalaaaGreatSLCon6
noncomputable section
open Go Go.Lft
set_option linter.unusedVariables false
set_option maxRecDepth 100000
namespace Go.Proofs.Pk
def j6t:Con:=⟨193,[.v ty58],[ty58],⟨[.own 258 ty13],[]⟩,[ty13],fun h=>Pw.j6V h⟩
def jga:FnD where
 N:=98
 np:=1
 cs:=[jeo]
 ds:=[⟨0,[.s (.one (.d ty58)),.s (.one (.ol 1000000)),sI,.b (.lst 258 ty8 false)],[ty58,iT,ty13],[⟨.exit 0,[.s (.one (.ol 1500100)),.b (.lst 258 ty8 false)],[ty13]⟩],Pw.unc3 (Pw.j2C)⟩,
  ⟨2,[.s (.one (.d ty58)),.s (.one (.ol 1002000)),sI,sI,.b (.lst 258 ty8 false)],[ty58,iT,iT,ty13],[⟨.exit 2,[.s (.one (.d ty58)),.s (.one (.ol 1502300)),sI,.b (.lst 258 ty8 false)],[ty58,iT,ty13]⟩],Pw.unc4 (Pw.j2B)⟩,
  ⟨4,[.s (.one (.d ty58)),.s (.one (.ol 1004000)),sI,sI,.s (.one (.bp 512 0)),sI,.b (.cell [.d iT,.d iT] false),.b (.lst 258 ty8 false)],[ty58,iT,iT,iT,iT,iT,ty13],[⟨.exit 4,[.s (.one (.d ty58)),.s (.one (.ol 1504500)),sI,sI,.s (.one (.bp 512 0)),sI,.b (.cell [.d iT,.d iT] false),.b (.lst 258 ty8 false)],[ty58,iT,iT,iT,iT,iT,ty13]⟩],Pw.unc7 (Pw.j2A)⟩]
 modes:=[(286,[false,false,false,false])]
 keep:=[(0,⟨[0,3,4],[],[⟨1000000,258,ty8,[.slot 3],false⟩],[]⟩),
  (2,⟨[0,3,4,5],[],[⟨1002000,258,ty8,[.slot 3],false⟩],[]⟩),
  (4,⟨[0,3,4,5,8,9],[512],[⟨1004000,258,ty8,[.slot 3],false⟩],[]⟩)]
 keepX:=[(0,.exit 0,⟨[3],[],[⟨1500100,258,ty8,[.slot 3],false⟩],[]⟩),
  (2,.exit 2,⟨[0,3,4],[],[⟨1502300,258,ty8,[.slot 3],false⟩],[]⟩),
  (4,.exit 4,⟨[0,3,4,5,8,9],[512],[⟨1504500,258,ty8,[.slot 3],false⟩],[]⟩)]
 ro:=[true]
 dw:=[(9,[[],[],[],[],[],[],[],[],[],[],[],[],[],[],[512],[512]]),(14,[[],[],[],[],[],[],[],[5376]])]
theorem jfs:Con.OK Tryz.prog j6t:=
 cOf j0l j04 jga j6t Tryz.func193 (j9 r01_Nth_ok trivial) (j9 (fun h=>by kernel_rfl) (j9 (fun h=>by kernel_rfl) (j9 (fun h=>by kernel_rfl) trivial)))
def j9X:Con:=⟨107,[.v ty65],[ty65],⟨[.own 167 ty13,.v iT],[]⟩,[ty13,iT],fun h=>Pw.j6W h⟩
def jgb:FnD where
 N:=119
 np:=1
 cs:=[jdo,jbU,j6t]
 ds:=[⟨0,[.s (.one (.bp 64 0)),sI,sI,.b (.cell [.d .str,.d iT,.d ty58] false)],[iT,iT,.str,iT,ty58],[⟨.ret,[.s (.one (.nil)),sI],[iT]⟩,⟨.exit 0,[.s (.one (.bp 64 0)),sI,.b (.cell [.d .str,.d iT,.d ty58] false)],[iT,.str,iT,ty58]⟩],Pw.unc5 (Pw.j2D)⟩,
  ⟨2,[.s (.one (.ol 1002000)),.s (.one (.ol 1002001)),sI,sI,.b (.lst 167 ty8 false),.b (.lst 258 ty8 false)],[iT,iT,ty13,ty13],[⟨.ret,[.s (.one (.nil)),sI],[iT]⟩,⟨.exit 2,[.s (.one (.ol 1502300)),.b (.lst 167 ty8 false)],[ty13]⟩],Pw.unc4 (Pw.j2E)⟩]
 modes:=[(191,[false,false,false]),(192,[false]),(193,[false])]
 keep:=[(0,⟨[1,4,5],[64],[],[]⟩),
  (2,⟨[6,7,8,9],[],[⟨1002000,167,ty8,[.slot 6],false⟩,⟨1002001,258,ty8,[.slot 7],false⟩],[]⟩)]
 keepX:=[(0,.ret,⟨[2,3],[],[],[]⟩),
  (0,.exit 0,⟨[1,4],[64],[],[]⟩),
  (2,.ret,⟨[2,3],[],[],[]⟩),
  (2,.exit 2,⟨[6],[],[⟨1502300,167,ty8,[.slot 6],false⟩],[]⟩)]
 ro:=[true,false]
 dw:=[(21,[[],[],[],[],[],[],[],[],[],[],[],[],[],[640],[640]]),(24,[[],[],[7296],[7360,1002000],[],[],[],[]])]
theorem jo8:Con.OK Tryz.prog j9X:=
 cOf j0l j04 jgb j9X Tryz.func107 (j9 jmf (j9 jmg (j9 jfs trivial))) (j9 (fun h=>by kernel_rfl) (j9 (fun h=>by kernel_rfl) trivial))
end Go.Proofs.Pk
