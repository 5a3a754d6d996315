/- Contracts: each given function is its plain function, printed by a program. -/
import Derived.Test.YtcegmhnnglcgeaaGreatHCon7
noncomputable section
open Go Go.Lft
set_option linter.unusedVariables false
set_option maxRecDepth 100000
namespace Go.Proofs.Pk
def j7Q:Con:=⟨235,[.v ty54],[ty54],⟨[.own 283 ty12],[]⟩,[ty12],fun h=>Pw.j8n h⟩
def jj2:FnD where
 N:=98
 np:=1
 cs:=[jh7]
 ds:=[⟨0,[.s (.one (.d ty54)),.s (.one (.ol 1000000)),sI,.b (.lst 283 ty7 false)],[ty54,iT,ty12],[⟨.exit 0,[.s (.one (.ol 1500100)),.b (.lst 283 ty7 false)],[ty12]⟩],fun h=>Pw.j2S h.1 h.2.1 h.2.2⟩,
  ⟨2,[.s (.one (.d ty54)),.s (.one (.ol 1002000)),sI,sI,.b (.lst 283 ty7 false)],[ty54,iT,iT,ty12],[⟨.exit 2,[.s (.one (.d ty54)),.s (.one (.ol 1502300)),sI,.b (.lst 283 ty7 false)],[ty54,iT,ty12]⟩],fun h=>Pw.j2R h.1 h.2.1 h.2.2.1 h.2.2.2⟩,
  ⟨4,[.s (.one (.d ty54)),.s (.one (.ol 1004000)),sI,sI,.s (.one (.bp 512 0)),sI,.b (.cell [.d iT,.d iT] false),.b (.lst 283 ty7 false)],[ty54,iT,iT,iT,iT,iT,ty12],[⟨.exit 4,[.s (.one (.d ty54)),.s (.one (.ol 1504500)),sI,sI,.s (.one (.bp 512 0)),sI,.b (.cell [.d iT,.d iT] false),.b (.lst 283 ty7 false)],[ty54,iT,iT,iT,iT,iT,ty12]⟩],fun h=>Pw.j2Q h.1 h.2.1 h.2.2.1 h.2.2.2.1 h.2.2.2.2.1 h.2.2.2.2.2.1 h.2.2.2.2.2.2⟩]
 modes:=[(275,[false,false,false,false])]
 keep:=[(0,⟨[0,3,4],[],[⟨1000000,283,ty7,[.slot 3],false⟩],[]⟩),
  (2,⟨[0,3,4,5],[],[⟨1002000,283,ty7,[.slot 3],false⟩],[]⟩),
  (4,⟨[0,3,4,5,8,9],[512],[⟨1004000,283,ty7,[.slot 3],false⟩],[]⟩)]
 keepX:=[(0,.exit 0,⟨[3],[],[⟨1500100,283,ty7,[.slot 3],false⟩],[]⟩),
  (2,.exit 2,⟨[0,3,4],[],[⟨1502300,283,ty7,[.slot 3],false⟩],[]⟩),
  (4,.exit 4,⟨[0,3,4,5,8,9],[512],[⟨1504500,283,ty7,[.slot 3],false⟩],[]⟩)]
 ro:=[true]
 dw:=[(9,[[],[],[],[],[],[],[],[],[],[],[],[],[],[],[512],[512]]),(14,[[],[],[],[],[],[],[],[5376]])]
theorem jif:Con.OK Tryz.prog j7Q:=
 cOf j0c j00 jj2 j7Q Tryz.func235 (j9 r01_Nth_ok trivial) (j9 (fun h=>by kernel_rfl) (j9 (fun h=>by kernel_rfl) (j9 (fun h=>by kernel_rfl) trivial)))
def j7R:Con:=⟨180,[.v ty61],[ty61],⟨[.own 227 ty12,.v iT],[]⟩,[ty12,iT],fun h=>Pw.j57 h⟩
def jj3:FnD where
 N:=119
 np:=1
 cs:=[jdv,jef,j7Q]
 ds:=[⟨0,[.s (.one (.bp 64 0)),sI,sI,.b (.cell [.d .str,.d iT,.d ty54] false)],[iT,iT,.str,iT,ty54],[⟨.ret,[.s (.one (.nil)),sI],[iT]⟩,⟨.exit 0,[.s (.one (.bp 64 0)),sI,.b (.cell [.d .str,.d iT,.d ty54] false)],[iT,.str,iT,ty54]⟩],fun h=>Pw.j2T h.1 h.2.1 h.2.2.1 h.2.2.2.1 h.2.2.2.2⟩,
  ⟨2,[.s (.one (.ol 1002000)),.s (.one (.ol 1002001)),sI,sI,.b (.lst 227 ty7 false),.b (.lst 283 ty7 false)],[iT,iT,ty12,ty12],[⟨.ret,[.s (.one (.nil)),sI],[iT]⟩,⟨.exit 2,[.s (.one (.ol 1502300)),.b (.lst 227 ty7 false)],[ty12]⟩],fun h=>Pw.j2U h.1 h.2.1 h.2.2.1 h.2.2.2⟩]
 modes:=[(181,[false,false,false]),(234,[false]),(235,[false])]
 keep:=[(0,⟨[1,4,5],[64],[],[]⟩),
  (2,⟨[6,7,8,9],[],[⟨1002000,227,ty7,[.slot 6],false⟩,⟨1002001,283,ty7,[.slot 7],false⟩],[]⟩)]
 keepX:=[(0,.ret,⟨[2,3],[],[],[]⟩),
  (0,.exit 0,⟨[1,4],[64],[],[]⟩),
  (2,.ret,⟨[2,3],[],[],[]⟩),
  (2,.exit 2,⟨[6],[],[⟨1502300,227,ty7,[.slot 6],false⟩],[]⟩)]
 ro:=[true,false]
 dw:=[(21,[[],[],[],[],[],[],[],[],[],[],[],[],[],[640],[640]]),(24,[[],[],[7296],[7360,1002000],[],[],[],[]])]
theorem jig:Con.OK Tryz.prog j7R:=
 cOf j0c j00 jj3 j7R Tryz.func180 (j9 jlb (j9 joT (j9 jif trivial))) (j9 (fun h=>by kernel_rfl) (j9 (fun h=>by kernel_rfl) trivial))
def jcW:Con:=⟨182,[.v ty61,.v ty12,.v iT],[ty61,ty12,iT],⟨[.v iT],[]⟩,[iT],fun h=>Pw.jg5 h.1 h.2.1 h.2.2⟩
def joV:FnD where
 N:=32
 np:=3
 cs:=[]
 ds:=[⟨0,[.s (.one (.d ty12)),sI,sI,sI],[ty12,iT,iT,iT],[⟨.exit 0,[sI],[iT]⟩],fun h=>Pw.j4A h.1 h.2.1 h.2.2.1 h.2.2.2⟩]
 keep:=[(0,⟨[1,2,7,8],[],[],[]⟩)]
 keepX:=[(0,.exit 0,⟨[7],[],[],[]⟩)]
 ro:=[false]
theorem jnw:Con.OK Tryz.prog jcW:=
 cOf j0c j00 joV jcW Tryz.func182 trivial (j9 (fun h=>by kernel_rfl) trivial)
def jaA:Con:=⟨110,[.v ty61,.v iT],[ty61,iT],⟨[.v iT,.v iT],[]⟩,[iT,iT],fun h=>Pw.j9W h.1 h.2⟩
def jlT:FnD where
 N:=22
 np:=2
 cs:=[jdv,j7R,jcW]
 ds:=[]
 modes:=[(180,[false]),(181,[false,false,false]),(182,[false,false,false])]
 ro:=[false,false]
theorem jlc:Con.OK Tryz.prog jaA:=
 cOf j0c j00 jlT jaA Tryz.func110 (j9 jlb (j9 jig (j9 jnw trivial))) trivial
def jeh:Con:=⟨111,[.v iT,.v iT],[iT,iT],⟨[.v ty7],[]⟩,[ty7],fun h=>Pw.jhP h.1 h.2⟩
def jpW:FnD where
 N:=16
 np:=2
 cs:=[]
 ds:=[]
 ro:=[false]
theorem joW:Con.OK Tryz.prog jeh:=
 cOf j0c j00 jpW jeh Tryz.func111 trivial trivial
def jbW:Con:=⟨77,[.v ty61,.v iT],[ty61,iT],⟨[.v ty7,.v iT],[]⟩,[ty7,iT],fun h=>Pw.j9f h.1 h.2⟩
def jnx:FnD where
 N:=21
 np:=2
 cs:=[jaA,jeh]
 ds:=[]
 modes:=[(110,[false,false]),(111,[false,false])]
 ro:=[false,false]
theorem jlU:Con.OK Tryz.prog jbW:=
 cOf j0c j00 jnx jbW Tryz.func77 (j9 jlc (j9 joW trivial)) trivial
def jcX:Con:=⟨78,[.v ty7],[ty7],⟨[.v iT],[]⟩,[iT],fun h=>Pw.jg6 h⟩
def joX:FnD where
 N:=10
 np:=1
 cs:=[j8A]
 ds:=[]
 modes:=[(112,[false])]
 ro:=[false]
theorem jny:Con.OK Tryz.prog jcX:=
 cOf j0c j00 joX jcX Tryz.func78 (j9 jgr trivial) trivial
def jcY:Con:=⟨35,[.v ty61,.v iT],[ty61,iT],⟨[.v iT,.v iT],[]⟩,[iT,iT],fun h=>Pw.jdp h.1 h.2⟩
def joY:FnD where
 N:=19
 np:=2
 cs:=[jbW,jcX]
 ds:=[]
 modes:=[(77,[false,false]),(78,[false])]
 ro:=[false,false]
theorem jnz:Con.OK Tryz.prog jcY:=
 cOf j0c j00 joY jcY Tryz.func35 (j9 jlU (j9 jny trivial)) trivial
def ja2:Con:=⟨8,[.v (.list iT),.v iT],[(.list iT),iT],⟨[.v .bool],[]⟩,[.bool],fun h=>Pw.j9g h.1 h.2⟩
def jh8:FnD where
 N:=112
 np:=2
 cs:=[jcJ,j51,jcV,jee,j0Q,j4E,j7a,jfz,jcY]
 ds:=[⟨0,[.s (.one (.bp 384 0)),sI,sI,sI,sI,.s (.one (.d .bool)),.s (.one (.d ty12)),sI,sI,.b (.cell [.d ty62,.d ty52,.d ty26,.d ty74] false)],[iT,iT,iT,iT,.bool,ty12,iT,iT,ty62,ty52,ty26,ty74],[⟨.exit 0,[.s (.one (.bp 384 0)),sI,sI,sI,.s (.one (.d .bool)),.b (.cell [.d ty62,.d ty52,.d ty26,.d ty74] false)],[iT,iT,iT,.bool,ty62,ty52,ty26,ty74]⟩],fun h=>Pw.j2d h.1 h.2.1 h.2.2.1 h.2.2.2.1 h.2.2.2.2.1 h.2.2.2.2.2.1 h.2.2.2.2.2.2.1 h.2.2.2.2.2.2.2.1 h.2.2.2.2.2.2.2.2.1 h.2.2.2.2.2.2.2.2.2.1 h.2.2.2.2.2.2.2.2.2.2.1 h.2.2.2.2.2.2.2.2.2.2.2⟩]
 modes:=[(9,[false]),(11,[false]),(13,[false,false]),(14,[false]),(16,[false,false]),(22,[false,false]),(34,[]),(35,[false,false]),(36,[false,false,false,false])]
 keep:=[(0,⟨[6,7,8,9,10,11,52,53,54],[384],[],[]⟩)]
 keepX:=[(0,.exit 0,⟨[6,7,8,10,11],[384],[],[]⟩)]
 ro:=[false]
theorem law18_LimitsReach_ok:Con.OK Tryz.prog ja2:=
 cOf j0c j00 jh8 ja2 Tryz.func8 (j9 jnb (j9 jbV (j9 jnu (j9 joR (j9 j1y (j9 jaS (j9 jh4 (j9 jpR (j9 jnz trivial))))))))) (j9 (fun h=>by kernel_rfl) trivial)
end Go.Proofs.Pk
