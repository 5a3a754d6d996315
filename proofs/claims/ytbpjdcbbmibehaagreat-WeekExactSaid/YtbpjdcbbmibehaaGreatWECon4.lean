/- dv: each given function is its plain function, printed by a program. -/
import Derived.Test.YtbpjdcbbmibehaaGreatWECon3
noncomputable section
open Go Go.Lft
set_option linter.unusedVariables false
set_option maxRecDepth 100000
namespace Go.Proofs.Pk
def E8:Con:=⟨62,[.v aa,.v aa],[aa,aa],⟨[.v .bool],[]⟩,[.bool],Pw.unc2 Pw.j8U⟩
def Tk:FnD where
 N:=26
 np:=2
 cs:=[]
 ds:=[⟨0,[.s (.one (.d aa)),.s (.one (.d aa)),sI,sI],[aa,aa,iT,iT],[⟨.ret,[.s (.one (.d .bool))],[.bool]⟩,⟨.exit 0,[],[]⟩],Pw.unc4 (Pw.j5n)⟩]
 keep:=[(0,⟨[0,1,12,13],[],[],[]⟩)]
 keepX:=[(0,.ret,⟨[4],[],[],[]⟩),
  (0,.exit 0,⟨[],[],[],[]⟩)]
 ro:=[false]
theorem Tl:Con.OK Tryz.prog E8:=
 cOf aW aX Tk E8 Tryz.func62 trivial (ja (λh=>by kernel_rfl) trivial)
def J7:Con:=⟨9,[.v aa,.v (.list iT),.v iT,.v iT,.v iT],[aa,(.list iT),iT,iT,iT],⟨[.v .bool],[]⟩,[.bool],Pw.unc5 Pw.j5o⟩
def Tm:FnD where
 N:=197
 np:=5
 cs:=[sG,Ad,xu,Ak,Es,Et,Eu,uw,Ev,Ew,Ez,sJ,EA,EB,EC,ED,Ap,ET,EU,E3,E7,E8]
 ds:=[⟨0,[sI,sI,sI,.s (.one (.bp 768 0)),sI,sI,.s (.av 3 aa),sI,.b (.cell [.d .str,.d iT,.d aV] false)],[iT,iT,iT,iT,iT,mM,iT,.str,iT,aV],[⟨.ret,[.s (.one (.d .bool))],[.bool]⟩,⟨.exit 0,[],[]⟩],Pw.jnw (Pw.j1h)⟩,
  ⟨2,[sI,sI,sI,.s (.one (.bp 768 0)),sI,sI,.s (.one (.d aa)),.s (.av 3 aa),sI,.s (.av 3 iT),sI,.b (.cell [.d .str,.d iT,.d aV] false)],[iT,iT,iT,iT,iT,aa,mM,iT,(.list iT),iT,.str,iT,aV],[⟨.ret,[.s (.one (.d .bool))],[.bool]⟩,⟨.exit 2,[sI,sI,sI,.s (.one (.bp 768 0)),sI,sI,.s (.one (.d aa)),.s (.av 3 aa),sI,.b (.cell [.d .str,.d iT,.d aV] false)],[iT,iT,iT,iT,iT,aa,mM,iT,.str,iT,aV]⟩],Pw.jlt (Pw.j1f)⟩,
  ⟨4,[sI,sI,sI,.s (.one (.bp 768 0)),sI,sI,.s (.one (.d aa)),.s (.av 3 aa),sI,.s (.av 3 (.arr 2 iT)),sI,.b (.cell [.d .str,.d iT,.d aV] false)],[iT,iT,iT,iT,iT,aa,mM,iT,(.list (.arr 2 iT)),iT,.str,iT,aV],[⟨.ret,[.s (.one (.d .bool))],[.bool]⟩,⟨.exit 4,[sI,sI,sI,.s (.one (.bp 768 0)),sI,sI,.s (.av 3 aa),sI,.b (.cell [.d .str,.d iT,.d aV] false)],[iT,iT,iT,iT,iT,mM,iT,.str,iT,aV]⟩],Pw.jlt (Pw.j1g)⟩]
 modes:=[(10,[false]),(12,[false]),(14,[false]),(15,[false,false]),(29,[false,false,false,false]),(33,[false,false]),(47,[]),(48,[false,false]),(49,[false]),(50,[false]),(51,[false]),(52,[false]),(53,[false]),(54,[false]),(55,[false]),(56,[false,false]),(57,[false,false]),(58,[false,false]),(59,[false,false,false]),(60,[false,false,false]),(61,[false,false,false,false]),(62,[false,false])]
 keep:=[(0,⟨[2,3,4,12,15,16,68,69],[768],[],[]⟩),
  (2,⟨[2,3,4,12,15,16,18,68,69,108,109],[768],[],[]⟩),
  (4,⟨[2,3,4,12,15,16,18,68,69,161,162],[768],[],[]⟩)]
 keepX:=[(0,.ret,⟨[10],[],[],[]⟩),
  (0,.exit 0,⟨[],[],[],[]⟩),
  (2,.ret,⟨[10],[],[],[]⟩),
  (2,.exit 2,⟨[2,3,4,12,15,16,18,68,69],[768],[],[]⟩),
  (4,.ret,⟨[10],[],[],[]⟩),
  (4,.exit 4,⟨[2,3,4,12,15,16,68,69],[768],[],[]⟩)]
 ro:=[false]
theorem law05_WeekExact_ok:Con.OK Tryz.prog J7:=
 cOf aW aX Tm J7 Tryz.func9 (ja xr (ja JU (ja Ep (ja JZ (ja RJ (ja RM (ja RO (ja Al (ja RS (ja RU (ja RZ (ja xw (ja R2 (ja R4 (ja R6 (ja R8 (ja J3 (ja SI (ja SK (ja Tb (ja Tj (ja Tl trivial)))))))))))))))))))))) (ja (λh=>by kernel_rfl) (ja (λh=>by kernel_rfl) (ja (λh=>by kernel_rfl) trivial)))
end Go.Proofs.Pk
