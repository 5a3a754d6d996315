/- bZ: each given function is its plain function, printed by a program. -/
import Derived.Test.YtaieocafhcjelaaGreatCCon9
noncomputable section
open Go Go.Lft
set_option linter.unusedVariables false
set_option maxRecDepth 100000
namespace Go.Proofs.Pk
def Ug:Con:=⟨5,[.v (.list iT),.v iT],[(.list iT),iT],⟨[.v .bool],[]⟩,[.bool],Pw.unc2 Pw.j8l⟩
def jg9:FnD where
 N:=284
 np:=2
 cs:=[Ku,K4,K5,Gj,K6,K7,Gk,K8,K9]
 ds:=[⟨0,[sI,.s (.one (.bp 384 0)),sI,sI,.s (.one (.ol 1000000)),.s (.one (.clo 32 [.p [ar,ax,aw,az]])),sI,sI,.b (.cell [.d ar,.d ax,.d aw,.d az] true),.b (.lst 70 aV false)],[iT,iT,iT,ar,ax,aw,az,iT,iT,ar,ax,aw,az,au],[⟨.ret,[.s (.one (.d .bool))],[.bool]⟩,⟨.exit 0,[sI,.s (.one (.bp 384 0)),sI,sI,.s (.one (.ol 1500100)),.b (.cell [.d ar,.d ax,.d aw,.d az] true),.b (.lst 70 aV false)],[iT,iT,iT,ar,ax,aw,az,au]⟩],Pw.jmH (Pw.j2q)⟩,
  ⟨2,[.s (.one (.bp 384 0)),.s (.one (.ol 1002000)),sI,sI,sI,.b (.cell [.d ar,.d ax,.d aw,.d az] true),.b (.lst 70 aV false)],[iT,iT,iT,ar,ax,aw,az,au],[⟨.ret,[.s (.one (.d .bool))],[.bool]⟩,⟨.exit 2,[],[]⟩],Pw.unc8 (Pw.j2t)⟩,
  ⟨4,[.s (.one (.bp 384 0)),.s (.one (.ol 1004000)),sI,sI,sI,sI,sI,.b (.cell [.d ar,.d ax,.d aw,.d az] true),.b (.lst 70 aV false)],[iT,iT,iT,iT,iT,ar,ax,aw,az,au],[⟨.ret,[.s (.one (.d .bool))],[.bool]⟩,⟨.exit 4,[.s (.one (.bp 384 0)),.s (.one (.ol 1504500)),sI,sI,sI,.b (.cell [.d ar,.d ax,.d aw,.d az] true),.b (.lst 70 aV false)],[iT,iT,iT,ar,ax,aw,az,au]⟩],Pw.jkB (Pw.j2s)⟩,
  ⟨6,[.s (.one (.bp 384 0)),.s (.one (.ol 1006000)),sI,sI,sI,.s (.one (.d .bool)),sI,sI,.s (.one (.ol 1006000)),sI,sI,.b (.cell [.d ar,.d ax,.d aw,.d az] true),.b (.lst 70 aV false)],[iT,iT,iT,.bool,iT,iT,iT,iT,ar,ax,aw,az,au],[⟨.exit 6,[.s (.one (.bp 384 0)),.s (.one (.ol 1506700)),sI,sI,sI,.s (.one (.d .bool)),sI,sI,.b (.cell [.d ar,.d ax,.d aw,.d az] true),.b (.lst 70 aV false)],[iT,iT,iT,.bool,iT,iT,ar,ax,aw,az,au]⟩],Pw.jsx (Pw.j2r)⟩]
 modes:=[(17,[false]),(19,[false]),(21,[false,false]),(22,[false]),(24,[false,false]),(30,[]),(31,[false,false,false]),(32,[false,false]),(33,[false,false,false])]
 keep:=[(0,⟨[1,6,7,8,9,11,44,45],[384],[⟨1000000,70,aV,[.slot 9],false⟩],[]⟩),
  (2,⟨[6,9,14,221,222],[384],[⟨1002000,70,aV,[.slot 9],false⟩],[]⟩),
  (4,⟨[6,9,14,15,16,221,222],[384],[⟨1004000,70,aV,[.slot 9],false⟩],[]⟩),
  (6,⟨[6,9,14,15,16,17,221,222,234,235,236],[384],[⟨1006000,70,aV,[.slot 9,.slot 234],false⟩],[]⟩)]
 keepX:=[(0,.ret,⟨[4],[],[],[]⟩),
  (0,.exit 0,⟨[1,6,7,8,9],[384],[⟨1500100,70,aV,[.slot 9],false⟩],[]⟩),
  (2,.ret,⟨[4],[],[],[]⟩),
  (2,.exit 2,⟨[],[],[],[]⟩),
  (4,.ret,⟨[4],[],[],[]⟩),
  (4,.exit 4,⟨[6,9,14,221,222],[384],[⟨1504500,70,aV,[.slot 9],false⟩],[]⟩),
  (6,.exit 6,⟨[6,9,14,15,16,17,221,222],[384],[⟨1506700,70,aV,[.slot 9],false⟩],[]⟩)]
 ro:=[false]
theorem law15_CoverageClashes_ok:Con.OK Tryz.prog Ug:=
 cOf aD aF jg9 Ug Tryz.func5 (j9 jqO (j9 jr8 (j9 jsU (j9 Uh (j9 jjP (j9 jjQ (j9 Ui (j9 jdX (j9 juF trivial))))))))) (j9 (λh=>by kernel_rfl) (j9 (λh=>by kernel_rfl) (j9 (λh=>by kernel_rfl) (j9 (λh=>by kernel_rfl) trivial))))
def Uj:Con:=⟨183,[.v aQ],[aQ],⟨[.v iT],[]⟩,[iT],λh=>Pw.j76 h⟩
def joe:FnD where
 N:=10
 np:=1
 cs:=[Gf]
 ds:=[]
 modes:=[(263,[false])]
 ro:=[false]
theorem jx9:Con.OK Tryz.prog Uj:=
 cOf aD aF joe Uj Tryz.func183 (j9 Ud trivial) trivial
end Go.Proofs.Pk
