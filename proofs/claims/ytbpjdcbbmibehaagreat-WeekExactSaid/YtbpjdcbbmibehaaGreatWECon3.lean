/- dv: each given function is its plain function, printed by a program. -/
import Derived.Test.YtbpjdcbbmibehaaGreatWECon2
noncomputable section
open Go Go.Lft
set_option linter.unusedVariables false
set_option maxRecDepth 100000
namespace Go.Proofs.Pk
def ER:Con:=⟨127,[.v bz,.v iT],[bz,iT],⟨[.v aA,.v iT],[]⟩,[aA,iT],Pw.unc2 Pw.j4n⟩
def SB:FnD where
 N:=21
 np:=2
 cs:=[EO,EP]
 ds:=[]
 modes:=[(189,[false,false]),(190,[false,false])]
 ro:=[false,false]
theorem SC:Con.OK Tryz.prog ER:=
 cOf aW aX SB ER Tryz.func127 (ja Sw (ja SA trivial)) trivial
def Ao:Con:=⟨128,[.v aA],[aA],⟨[.v iT],[]⟩,[iT],λh=>Pw.j5f h⟩
def SD:FnD where
 N:=10
 np:=1
 cs:=[Am]
 ds:=[]
 modes:=[(191,[false])]
 ro:=[false]
theorem J2:Con.OK Tryz.prog Ao:=
 cOf aW aX SD Ao Tryz.func128 (ja J0 trivial) trivial
def Ap:Con:=⟨58,[.v bz,.v iT],[bz,iT],⟨[.v iT,.v iT],[]⟩,[iT,iT],Pw.unc2 Pw.j4o⟩
def SE:FnD where
 N:=19
 np:=2
 cs:=[ER,Ao]
 ds:=[]
 modes:=[(127,[false,false]),(128,[false])]
 ro:=[false,false]
theorem J3:Con.OK Tryz.prog Ap:=
 cOf aW aX SE Ap Tryz.func58 (ja SC (ja J2 trivial)) trivial
def ES:Con:=⟨130,[.v aa,.v iT],[aa,iT],⟨[.v .bool],[]⟩,[.bool],Pw.unc2 Pw.j8m⟩
def SF:FnD where
 N:=28
 np:=2
 cs:=[]
 ds:=[⟨0,[.s (.one (.d aa)),sI,sI],[aa,iT,iT],[⟨.ret,[.s (.one (.d .bool))],[.bool]⟩,⟨.exit 0,[],[]⟩],Pw.unc3 (Pw.j26)⟩]
 keep:=[(0,⟨[0,1,5],[],[],[]⟩)]
 keepX:=[(0,.ret,⟨[4],[],[],[]⟩),
  (0,.exit 0,⟨[],[],[],[]⟩)]
 ro:=[false]
theorem SG:Con.OK Tryz.prog ES:=
 cOf aW aX SF ES Tryz.func130 trivial (ja (λh=>by kernel_rfl) trivial)
def ET:Con:=⟨60,[.v bz,.v aa,.v iT],[bz,aa,iT],⟨[.v .bool],[]⟩,[.bool],Pw.unc3 Pw.jhw⟩
def SH:FnD where
 N:=27
 np:=3
 cs:=[sJ,Ap,ES]
 ds:=[]
 modes:=[(53,[false]),(58,[false,false]),(130,[false,false])]
 ro:=[false]
theorem SI:Con.OK Tryz.prog ET:=
 cOf aW aX SH ET Tryz.func60 (ja xw (ja J3 (ja SG trivial))) trivial
def EU:Con:=⟨15,[.v iT,.v iT],[iT,iT],⟨[.v iT],[]⟩,[iT],Pw.unc2 Pw.j9G⟩
def SJ:FnD where
 N:=12
 np:=2
 cs:=[]
 ds:=[]
 ro:=[false]
theorem SK:Con.OK Tryz.prog EU:=
 cOf aW aX SJ EU Tryz.func15 trivial trivial
def EV:Con:=⟨139,[.v dG,.v iT,.v iT],[dG,iT,iT],⟨[.own 213 gD],[]⟩,[gD],Pw.unc3 Pw.j3b⟩
def SM:FnD where
 N:=41
 np:=3
 cs:=[Ah,Aj]
 ds:=[⟨0,[sI,sI,.s (.one (.bp 192 0)),.s (.one (.ol 1000000)),.b (.cell [.d iT,.d aa] false),.b (.lst 213 cb false)],[iT,iT,iT,aa,gD],[⟨.exit 0,[.s (.one (.ol 1500100)),.b (.lst 213 cb false)],[gD]⟩],Pw.unc5 (Pw.j0C)⟩]
 modes:=[(202,[false,false]),(203,[false,false])]
 keep:=[(0,⟨[1,2,3,7],[192],[⟨1000000,213,cb,[.slot 7],false⟩],[]⟩)]
 keepX:=[(0,.exit 0,⟨[7],[],[⟨1500100,213,cb,[.slot 7],false⟩],[]⟩)]
 ro:=[true]
theorem SN:Con.OK Tryz.prog EV:=
 cOf aW aX SM EV Tryz.func139 (ja JX (ja JY trivial)) (ja (λh=>by kernel_rfl) trivial)
def J4:Con:=⟨205,[.v aa],[aa],⟨[.own 72 aa],[]⟩,[aa],λh=>Pw.j1r h⟩
def SO:FnD where
 N:=8
 np:=1
 cs:=[]
 ds:=[]
 ro:=[true]
theorem SP:Con.OK Tryz.prog J4:=
 Qu aW aX SO 205 aA 72 Tryz.f205 (Tryz.f205.body.getD .skip) Tryz.func205 (by kernel_rfl) (by kernel_rfl) (qh (by kernel_rfl)) (by kernel_rfl) trivial (by kernel_rfl)
  (λh R k=>by kernel_rfl)
def Aq:Con:=⟨206,[.v aA],[aA],⟨[.v .bool],[]⟩,[.bool],λh=>Pw.j3T h⟩
def SQ:FnD where
 N:=8
 np:=1
 cs:=[]
 ds:=[]
 ro:=[false]
theorem J5:Con.OK Tryz.prog Aq:=
 cOf aW aX SQ Aq Tryz.func206 trivial trivial
def EW:Con:=⟨283,[.rl 72 aa,.clo 206 []],[aa],⟨[.v iT],[.rl aa]⟩,[iT,aa],λh=>Pw.j13 h⟩
def SR:FnD where
 N:=19
 np:=2
 cs:=[Aq]
 ds:=[⟨0,[.s (.one (.ol 0)),.s (.one (.clo 206 [])),sI,sI,.b (.lst 72 aA false)],[iT,iT,aa],[⟨.ret,[sI,.b (.lst 72 aA false)],[iT,aa]⟩,⟨.exit 0,[.b (.lst 72 aA false)],[aa]⟩],Pw.unc3 (Pw.j0q)⟩]
 modes:=[(206,[false])]
 keep:=[(0,⟨[0,1,7,8],[0],[],[]⟩)]
 keepX:=[(0,.ret,⟨[4],[0],[],[]⟩),
  (0,.exit 0,⟨[],[0],[],[]⟩)]
 ro:=[false]
theorem SS:Con.OK Tryz.prog EW:=
 cOf aW aX SR EW Tryz.func283 (ja J5 trivial) (ja (λh=>by kernel_rfl) trivial)
def EX:Con:=⟨204,[.rl 72 aa,.clo 206 []],[aa],⟨[.hd],[.rl aa]⟩,[iT,aa],λh=>Pw.j0H h⟩
def SU:FnD where
 N:=42
 np:=2
 cs:=[Aq,EW]
 ds:=[⟨0,[.s (.one (.ol 0)),.s (.one (.clo 206 [])),sI,sI,.b (.lst 72 aA false)],[iT,iT,aa],[⟨.exit 0,[.s (.one (.ol 0)),sI,.b (.lst 72 aA false)],[iT,aa]⟩],Pw.unc3 (Pw.j0o)⟩]
 modes:=[(206,[false]),(283,[true,false])]
 keep:=[(0,⟨[0,1,5,6],[0],[],[]⟩)]
 keepX:=[(0,.exit 0,⟨[0,5],[0],[],[]⟩)]
 ro:=[false]
 hd:=true
theorem SV:Con.OK Tryz.prog EX:=
 cOf aW aX SU EX Tryz.func204 (ja J5 (ja SS trivial)) (ja (λh=>by kernel_rfl) trivial)
def EY:Con:=⟨208,[.v aA,.v aA],[aA,aA],⟨[.v iT],[]⟩,[iT],Pw.unc2 Pw.j3c⟩
def SX:FnD where
 N:=10
 np:=2
 cs:=[]
 ds:=[]
 ro:=[false]
theorem jiG:Con.OK Tryz.prog EY:=
 cOf aW aX SX EY Tryz.func208 trivial trivial
def J6:Con:=⟨207,[.rl 72 aa,.clo 208 []],[aa],⟨[],[.rl aa]⟩,[aa],λh=>Pw.j0y h⟩
def j5g:FnD where
 N:=14
 np:=2
 cs:=[EY]
 ds:=[]
 modes:=[(208,[false,false])]
theorem SY:Con.OK Tryz.prog J6:=
 QG Tryz.sort207 (aA) rfl 72 (by kernel_rfl) Tryz.isAgg72 Tryz.sizeOf72 _ 208 (enters_of Tryz.func208 (by kernel_rfl) rfl) QN QO 207 rfl
def EZ:Con:=⟨140,[.v aa],[aa],⟨[.own 72 aa],[]⟩,[aa],λh=>Pw.j8n h⟩
def SZ:FnD where
 N:=54
 np:=1
 cs:=[J4,EX,J6]
 ds:=[⟨0,[.s (.one (.ol 1000000)),.s (.one (.ol 1000001)),sI,sI,.b (.lst 72 aA false),.b (.lst 72 aA false)],[iT,iT,aa,aa],[⟨.exit 0,[.s (.one (.ol 1500100)),.b (.lst 72 aA false)],[aa]⟩],Pw.unc4 (Pw.j1z)⟩]
 modes:=[(204,[true,false]),(205,[false]),(207,[true,false])]
 keep:=[(0,⟨[4,13,14,15],[],[⟨1000000,72,aA,[.slot 4],false⟩,⟨1000001,72,aA,[.slot 13],false⟩],[]⟩)]
 keepX:=[(0,.exit 0,⟨[4],[],[⟨1500100,72,aA,[.slot 4],false⟩],[]⟩)]
 ro:=[true]
 dw:=[(9,[[],[],[],[],[],[],[],[],[],[],[],[],[],[],[1000000]])]
theorem S7:Con.OK Tryz.prog EZ:=
 cOf aW aX SZ EZ Tryz.func140 (ja SP (ja SV (ja SY trivial))) (ja (λh=>by kernel_rfl) trivial)
def E0:Con:=⟨74,[.v dG,.v aa,.v iT,.v iT],[dG,aa,iT,iT],⟨[.own 72 aa],[]⟩,[aa],Pw.unc4 Pw.j5N⟩
def S8:FnD where
 N:=73
 np:=4
 cs:=[EV,EZ]
 ds:=[⟨0,[.s (.one (.d aa)),.s (.one (.ol 1000000)),.s (.one (.ol 1000001)),sI,sI,.b (.lst 72 aA false),.b (.lst 213 cb false)],[aa,iT,iT,aa,gD],[⟨.exit 0,[.s (.one (.ol 1500100)),.b (.lst 72 aA false)],[aa]⟩],Pw.unc5 (Pw.j1L)⟩,
  ⟨2,[.s (.one (.d aa)),.s (.one (.ol 1002000)),.s (.one (.bp 704 0)),sI,.s (.one (.ol 1002001)),sI,sI,.b (.cell [.d iT,.d iT,.d iT] false),.b (.lst 72 aA false),.b (.lst 213 cb false)],[aa,iT,iT,iT,iT,iT,iT,aa,gD],[⟨.exit 2,[.s (.one (.d aa)),.s (.one (.ol 1502300)),.s (.one (.ol 1502301)),sI,sI,.b (.lst 72 aA false),.b (.lst 213 cb false)],[aa,iT,iT,aa,gD]⟩],Pw.unc9 (Pw.j1K)⟩,
  ⟨4,[.s (.one (.d aa)),.s (.one (.ol 1004000)),.s (.one (.bp 704 0)),sI,.s (.one (.ol 1004001)),sI,sI,.s (.one (.d aa)),sI,sI,.b (.cell [.d iT,.d iT,.d iT] false),.b (.lst 72 aA false),.b (.lst 213 cb false)],[aa,iT,iT,iT,aa,iT,iT,iT,iT,iT,aa,gD],[⟨.exit 4,[.s (.one (.d aa)),.s (.one (.ol 1504500)),.s (.one (.bp 704 0)),sI,.s (.one (.ol 1504501)),sI,sI,.b (.cell [.d iT,.d iT,.d iT] false),.b (.lst 72 aA false),.b (.lst 213 cb false)],[aa,iT,iT,iT,iT,iT,iT,aa,gD]⟩],Pw.jls (Pw.j1J)⟩]
 modes:=[(139,[false,false,false]),(140,[false])]
 keep:=[(0,⟨[1,9,19,20,21],[],[⟨1000000,72,aA,[.slot 9],false⟩,⟨1000001,213,cb,[.slot 19],false⟩],[]⟩),
  (2,⟨[1,9,11,13,19,20,21],[704],[⟨1002000,72,aA,[.slot 9],false⟩,⟨1002001,213,cb,[.slot 19],false⟩],[]⟩),
  (4,⟨[1,9,11,13,19,20,21,45,46,47],[704],[⟨1004000,72,aA,[.slot 9],false⟩,⟨1004001,213,cb,[.slot 19],false⟩],[]⟩)]
 keepX:=[(0,.exit 0,⟨[9],[],[⟨1500100,72,aA,[.slot 9],false⟩],[]⟩),
  (2,.exit 2,⟨[1,9,19,20,21],[],[⟨1502300,72,aA,[.slot 9],false⟩,⟨1502301,213,cb,[.slot 19],false⟩],[]⟩),
  (4,.exit 4,⟨[1,9,11,13,19,20,21],[704],[⟨1504500,72,aA,[.slot 9],false⟩,⟨1504501,213,cb,[.slot 19],false⟩],[]⟩)]
 ro:=[true]
theorem S9:Con.OK Tryz.prog E0:=
 cOf aW aX S8 E0 Tryz.func74 (ja SN (ja S7 trivial)) (ja (λh=>by kernel_rfl) (ja (λh=>by kernel_rfl) (ja (λh=>by kernel_rfl) trivial)))
def E3:Con:=⟨61,[.v bz,.v aa,.v iT,.v iT],[bz,aa,iT,iT],⟨[.own 72 aa,.v iT],[]⟩,[aa,iT],Pw.unc4 Pw.j3F⟩
def Ta:FnD where
 N:=57
 np:=4
 cs:=[sG,Ag,E0]
 ds:=[]
 modes:=[(52,[false]),(73,[false]),(74,[false,false,false,false])]
 ro:=[true,false]
theorem Tb:Con.OK Tryz.prog E3:=
 cOf aW aX Ta E3 Tryz.func61 (ja xr (ja JW (ja S9 trivial))) trivial
def E4:Con:=⟨96,[.v iT,.v iT],[iT,iT],⟨[.v .bool],[]⟩,[.bool],Pw.unc2 Pw.j6w⟩
def Tc:FnD where
 N:=26
 np:=2
 cs:=[]
 ds:=[]
 ro:=[false]
theorem Td:Con.OK Tryz.prog E4:=
 cOf aW aX Tc E4 Tryz.func96 trivial trivial
def E5:Con:=⟨101,[.v aa,.v iT,.v iT,.v iT],[aa,iT,iT,iT],⟨[.own 72 aa],[]⟩,[aa],Pw.unc4 Pw.j4L⟩
def Te:FnD where
 N:=72
 np:=4
 cs:=[Ao]
 ds:=[⟨0,[.s (.one (.d aa)),sI,sI,.s (.one (.ol 1000000)),sI,.b (.lst 72 aA false)],[aa,iT,iT,iT,aa],[⟨.exit 0,[.s (.one (.ol 1500100)),.b (.lst 72 aA false)],[aa]⟩],Pw.unc5 (Pw.j2n)⟩,
  ⟨2,[.s (.one (.d aa)),sI,sI,.s (.one (.ol 1002000)),sI,sI,.b (.lst 72 aA false)],[aa,iT,iT,iT,iT,aa],[⟨.exit 2,[.s (.one (.d aa)),sI,sI,.s (.one (.ol 1502300)),sI,.b (.lst 72 aA false)],[aa,iT,iT,iT,aa]⟩],Pw.unc6 (Pw.j2m)⟩]
 modes:=[(128,[false])]
 keep:=[(0,⟨[0,1,2,9,10],[],[⟨1000000,72,aA,[.slot 9],false⟩],[]⟩),
  (2,⟨[0,1,2,9,10,11],[],[⟨1002000,72,aA,[.slot 9],false⟩],[]⟩)]
 keepX:=[(0,.exit 0,⟨[9],[],[⟨1500100,72,aA,[.slot 9],false⟩],[]⟩),
  (2,.exit 2,⟨[0,1,2,9,10],[],[⟨1502300,72,aA,[.slot 9],false⟩],[]⟩)]
 ro:=[true]
 dw:=[(8,[[],[],[],[],[],[],[],[],[],[],[],[],[],[],[],[],[],[],[],[768],[768]])]
theorem Tf:Con.OK Tryz.prog E5:=
 cOf aW aX Te E5 Tryz.func101 (ja J2 trivial) (ja (λh=>by kernel_rfl) (ja (λh=>by kernel_rfl) trivial))
def E6:Con:=⟨100,[.mv 72 aa,.v aa],[aa,aa],⟨[.own 72 aa],[]⟩,[aa],Pw.unc2 Pw.j5Q⟩
def Tg:FnD where
 N:=49
 np:=2
 cs:=[]
 ds:=[⟨0,[.s (.one (.ol 1000000)),.s (.one (.d aa)),sI,.b (.lst 72 aA false)],[aa,iT,aa],[⟨.exit 0,[.s (.one (.ol 1500100)),.b (.lst 72 aA false)],[aa]⟩],Pw.unc3 (Pw.j2H)⟩]
 keep:=[(0,⟨[0,1,5],[],[⟨1000000,72,aA,[.slot 0],false⟩],[]⟩)]
 keepX:=[(0,.exit 0,⟨[0],[],[⟨1500100,72,aA,[.slot 0],false⟩],[]⟩)]
 ro:=[true]
theorem Th:Con.OK Tryz.prog E6:=
 cOf aW aX Tg E6 Tryz.func100 trivial (ja (λh=>by kernel_rfl) trivial)
def E7:Con:=⟨29,[.v bz,.v aa,.v iT,.v iT],[bz,aa,iT,iT],⟨[.own 72 aa,.v iT],[]⟩,[aa,iT],Pw.unc4 Pw.j4N⟩
def Ti:FnD where
 N:=84
 np:=4
 cs:=[sJ,An,E4,E5,E6]
 ds:=[⟨0,[.s (.one (.d aa)),sI,sI,.s (.one (.bp 256 0)),.s (.one (.ol 1000000)),.s (.one (.ol 1000001)),sI,.b (.cell [.d .str,.d iT,.d aV] false),.b (.lst 175 aA false),.b (.lst 72 aA false)],[aa,iT,iT,iT,.str,iT,aV,aa,aa],[⟨.exit 0,[.s (.one (.ol 1500100)),.b (.lst 72 aA false)],[aa]⟩],Pw.unc9 (Pw.j2o)⟩]
 modes:=[(53,[false]),(96,[false,false]),(99,[false]),(100,[true,false]),(101,[false,false,false,false])]
 keep:=[(0,⟨[1,2,3,4,10,12,13],[256],[⟨1000000,175,aA,[.slot 10],false⟩,⟨1000001,72,aA,[.slot 12],false⟩],[]⟩)]
 keepX:=[(0,.exit 0,⟨[12],[],[⟨1500100,72,aA,[.slot 12],false⟩],[]⟩)]
 ro:=[true,false]
 mvf:=[100]
theorem Tj:Con.OK Tryz.prog E7:=
 cOf aW aX Ti E7 Tryz.func29 (ja xw (ja J1 (ja Td (ja Tf (ja Th trivial))))) (ja (λh=>by kernel_rfl) trivial)
end Go.Proofs.Pk
