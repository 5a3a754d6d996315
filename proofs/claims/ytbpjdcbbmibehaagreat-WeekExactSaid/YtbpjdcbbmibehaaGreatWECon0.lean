/- dv: each given function is its plain function, printed by a program. -/
import Derived.Test.YtbpjdcbbmibehaaGreatWETab
import Derived.Test.YtbpjdcbbmibehaaGreatWESrt
noncomputable section
open Go Go.Lft
set_option linter.unusedVariables false
set_option maxRecDepth 100000
namespace Go.Proofs.Pk
abbrev aA:Ty:=(.pair iT iT)
abbrev aa:Ty:=(.list aA)
abbrev mM:Ty:=(.list aa)
abbrev cb:Ty:=(.pair iT aA)
abbrev dG:Ty:=(.pair iT aa)
abbrev gD:Ty:=(.list cb)
abbrev mN:Ty:=(.pair iT (.pair iT (.pair iT (.pair iT cb))))
abbrev aV:Ty:=(.list mN)
abbrev bz:Ty:=(.pair .str (.pair iT aV))
def sG:Con:=⟨52,[.v aa],[aa],⟨[.v iT],[]⟩,[iT],λh=>Pw.j1w h⟩
def QP:FnD where
 N:=46
 np:=1
 cs:=[]
 ds:=[⟨0,[.s (.one (.d aa)),.s (.one (.d aa)),sI,sI],[aa,aa,iT,iT],[⟨.ret,[sI],[iT]⟩,⟨.exit 0,[],[]⟩],Pw.unc4 (Pw.j19)⟩]
 keep:=[(0,⟨[0,8,9,10],[],[],[]⟩)]
 keepX:=[(0,.ret,⟨[2],[],[],[]⟩),
  (0,.exit 0,⟨[],[],[],[]⟩)]
 ro:=[false]
theorem xr:Con.OK Tryz.prog sG:=
 cOf aW aX QP sG Tryz.func52 trivial (ja (λh=>by kernel_rfl) trivial)
def Ad:Con:=⟨50,[.v aa],[aa],⟨[.own 99 aa,.v iT],[]⟩,[aa,iT],λh=>Pw.j2x h⟩
def QQ:FnD where
 N:=42
 np:=1
 cs:=[sG]
 ds:=[⟨0,[.s (.one (.ol 1000000)),sI,.s (.one (.d aa)),sI,sI,.b (.lst 99 aA false)],[iT,aa,iT,iT,aa],[⟨.exit 0,[.s (.one (.ol 1500100)),sI,.b (.lst 99 aA false)],[iT,aa]⟩],Pw.unc5 (Pw.j1Q)⟩]
 modes:=[(52,[false])]
 keep:=[(0,⟨[4,5,11,12,13],[],[⟨1000000,99,aA,[.slot 4],false⟩],[]⟩)]
 keepX:=[(0,.exit 0,⟨[4,5],[],[⟨1500100,99,aA,[.slot 4],false⟩],[]⟩)]
 ro:=[true,false]
theorem JU:Con.OK Tryz.prog Ad:=
 cOf aW aX QQ Ad Tryz.func50 (ja xr trivial) (ja (λh=>by kernel_rfl) trivial)
def uv:Con:=⟨201,[.v iT,.v iT,.v iT],[iT,iT,iT],⟨[.v .bool],[]⟩,[.bool],Pw.unc3 Pw.j3v⟩
def QR:FnD where
 N:=15
 np:=3
 cs:=[]
 ds:=[]
 ro:=[false]
theorem Ae:Con.OK Tryz.prog uv:=
 cOf aW aX QR uv Tryz.func201 trivial trivial
def D3:Con:=⟨277,[.v mN],[mN],⟨[.v iT],[]⟩,[iT],λh=>Pw.j7O h⟩
def QS:FnD where
 N:=45
 np:=1
 cs:=[uv]
 ds:=[]
 modes:=[(201,[false,false,false])]
 ro:=[false]
theorem QT:Con.OK Tryz.prog D3:=
 cOf aW aX QS D3 Tryz.func277 (ja Ae trivial) trivial
def D4:Con:=⟨373,[.v iT],[iT],⟨[.v .bool],[]⟩,[.bool],λh=>Pw.ja8 h⟩
def QU:FnD where
 N:=16
 np:=1
 cs:=[]
 ds:=[]
 ro:=[false]
theorem QV:Con.OK Tryz.prog D4:=
 cOf aW aX QU D4 Tryz.func373 trivial trivial
def xt:Con:=⟨328,[.v iT,.v iT],[iT,iT],⟨[.v iT],[]⟩,[iT],Pw.unc2 Pw.j4i⟩
def QW:FnD where
 N:=24
 np:=2
 cs:=[D4]
 ds:=[]
 modes:=[(373,[false])]
 ro:=[false]
theorem D5:Con.OK Tryz.prog xt:=
 cOf aW aX QW xt Tryz.func328 (ja QV trivial) trivial
def D6:Con:=⟨326,[.v cb],[cb],⟨[.v .bool],[]⟩,[.bool],λh=>Pw.j5i h⟩
def QX:FnD where
 N:=26
 np:=1
 cs:=[xt]
 ds:=[]
 modes:=[(328,[false,false])]
 ro:=[false]
theorem QY:Con.OK Tryz.prog D6:=
 cOf aW aX QX D6 Tryz.func326 (ja D5 trivial) trivial
def D7:Con:=⟨393,[.v iT,.v iT],[iT,iT],⟨[.v iT],[]⟩,[iT],Pw.unc2 Pw.j4j⟩
def QZ:FnD where
 N:=16
 np:=2
 cs:=[]
 ds:=[]
 ro:=[false]
theorem Q0:Con.OK Tryz.prog D7:=
 cOf aW aX QZ D7 Tryz.func393 trivial trivial
def D8:Con:=⟨372,[.v iT],[iT],⟨[.v iT],[]⟩,[iT],λh=>Pw.j6S h⟩
def Q1:FnD where
 N:=19
 np:=1
 cs:=[D7]
 ds:=[]
 modes:=[(393,[false,false])]
 ro:=[false]
theorem Q2:Con.OK Tryz.prog D8:=
 cOf aW aX Q1 D8 Tryz.func372 (ja Q0 trivial) trivial
def D9:Con:=⟨327,[.v cb],[cb],⟨[.v iT],[]⟩,[iT],λh=>Pw.j2W h⟩
def Q3:FnD where
 N:=25
 np:=1
 cs:=[xt,D8]
 ds:=[⟨0,[.s (.one (.bp 64 0)),sI,sI,.b (.cell [.d iT,.d iT,.d iT] false)],[iT,iT,iT,iT,iT],[⟨.exit 0,[sI],[iT]⟩],Pw.unc5 (Pw.j1I)⟩]
 modes:=[(328,[false,false]),(372,[false])]
 keep:=[(0,⟨[1,3,4],[64],[],[]⟩)]
 keepX:=[(0,.exit 0,⟨[3],[],[],[]⟩)]
 ro:=[false]
theorem Q4:Con.OK Tryz.prog D9:=
 cOf aW aX Q3 D9 Tryz.func327 (ja D5 (ja Q2 trivial)) (ja (λh=>by kernel_rfl) trivial)
def Af:Con:=⟨188,[.v iT],[iT],⟨[.v iT],[]⟩,[iT],λh=>Pw.j2y h⟩
def Q5:FnD where
 N:=7
 np:=1
 cs:=[]
 ds:=[]
 ro:=[false]
theorem JV:Con.OK Tryz.prog Af:=
 cOf aW aX Q5 Af Tryz.func188 trivial trivial
def Ea:Con:=⟨278,[.v iT,.v iT,.v iT,.v iT],[iT,iT,iT,iT],⟨[.v iT,.v iT],[]⟩,[iT,iT],Pw.unc4 Pw.j5j⟩
def Q6:FnD where
 N:=59
 np:=4
 cs:=[xt,D6,D9,Af]
 ds:=[]
 modes:=[(188,[false]),(326,[false]),(327,[false]),(328,[false,false])]
 ro:=[false,false]
theorem Q7:Con.OK Tryz.prog Ea:=
 cOf aW aX Q6 Ea Tryz.func278 (ja D5 (ja QY (ja Q4 (ja JV trivial)))) trivial
def Eb:Con:=⟨280,[.v aA,.v aA],[aA,aA],⟨[.v iT],[]⟩,[iT],Pw.unc2 Pw.j3w⟩
def Q8:FnD where
 N:=10
 np:=2
 cs:=[]
 ds:=[]
 ro:=[false]
theorem Q9:Con.OK Tryz.prog Eb:=
 cOf aW aX Q8 Eb Tryz.func280 trivial trivial
def Ec:Con:=⟨374,[.rl 267 aa,.v iT,.v iT,.clo 280 []],[aa,iT,iT],⟨[],[.rl aa]⟩,[aa],Pw.unc3 Pw.j07⟩
def Ra:FnD where
 N:=53
 np:=4
 cs:=[Eb]
 ds:=[⟨0,[.s (.one (.ol 0)),sI,sI,.s (.one (.clo 280 [])),sI,.b (.lst 267 aA false)],[iT,iT,iT,aa],[⟨.exit 0,[.b (.lst 267 aA false)],[aa]⟩],Pw.unc4 (Pw.j04)⟩,
  ⟨2,[.s (.one (.ol 0)),sI,sI,.s (.one (.clo 280 [])),sI,sI,.b (.lst 267 aA false)],[iT,iT,iT,iT,aa],[⟨.exit 2,[.s (.one (.ol 0)),sI,sI,.s (.one (.clo 280 [])),sI,.b (.lst 267 aA false)],[iT,iT,iT,aa]⟩],Pw.unc5 (Pw.j0f)⟩]
 modes:=[(280,[false,false])]
 keep:=[(0,⟨[0,1,2,3,8],[0],[],[]⟩),
  (2,⟨[0,1,2,3,8,9],[0],[],[]⟩)]
 keepX:=[(0,.exit 0,⟨[],[0],[],[]⟩),
  (2,.exit 2,⟨[0,1,2,3,8],[0],[],[]⟩)]
 dw:=[(6,[[],[],[],[],[],[],[],[],[],[],[],[],[],[],[],[0],[],[0]])]
theorem Rb:Con.OK Tryz.prog Ec:=
 cOf aW aX Ra Ec Tryz.func374 (ja Q9 trivial) (ja (λh=>by kernel_rfl) (ja (λh=>by kernel_rfl) trivial))
def Ed:Con:=⟨329,[.rl 267 aa,.v iT,.clo 280 []],[aa,iT],⟨[],[.rl aa]⟩,[aa],Pw.unc2 Pw.j0s⟩
def Rc:FnD where
 N:=63
 np:=3
 cs:=[Ec]
 ds:=[⟨0,[.s (.one (.ol 0)),sI,.s (.one (.clo 280 [])),sI,sI,sI,.b (.lst 267 aA false)],[iT,iT,iT,iT,aa],[⟨.exit 0,[.s (.one (.ol 0)),sI,.s (.one (.clo 280 [])),sI,sI,.b (.lst 267 aA false)],[iT,iT,iT,aa]⟩],Pw.unc5 (Pw.j08)⟩,
  ⟨2,[.s (.one (.ol 0)),sI,.s (.one (.clo 280 [])),sI,.b (.lst 267 aA false)],[iT,iT,aa],[⟨.exit 2,[.b (.lst 267 aA false)],[aa]⟩],Pw.unc3 (Pw.j09)⟩,
  ⟨4,[.s (.one (.ol 0)),sI,.s (.one (.clo 280 [])),sI,sI,sI,.b (.lst 267 aA false)],[iT,iT,iT,iT,aa],[⟨.exit 4,[.s (.one (.ol 0)),sI,.s (.one (.clo 280 [])),sI,sI,.b (.lst 267 aA false)],[iT,iT,iT,aa]⟩],Pw.unc5 (Pw.j14)⟩]
 modes:=[(374,[true,false,false,false])]
 keep:=[(0,⟨[0,1,2,6,7,8],[0],[],[]⟩),
  (2,⟨[0,1,2,6],[0],[],[]⟩),
  (4,⟨[0,1,2,6,7,8],[0],[],[]⟩)]
 keepX:=[(0,.exit 0,⟨[0,1,2,6,7],[0],[],[]⟩),
  (2,.exit 2,⟨[],[0],[],[]⟩),
  (4,.exit 4,⟨[0,1,2,6,7],[0],[],[]⟩)]
theorem Re:Con.OK Tryz.prog Ed:=
 cOf aW aX Rc Ed Tryz.func329 (ja Rb trivial) (ja (λh=>by kernel_rfl) (ja (λh=>by kernel_rfl) (ja (λh=>by kernel_rfl) trivial)))
def Ee:Con:=⟨279,[.rl 267 aa,.clo 280 []],[aa],⟨[],[.rl aa]⟩,[aa],λh=>Pw.j05 h⟩
def Rf:FnD where
 N:=9
 np:=2
 cs:=[Ed]
 ds:=[]
 modes:=[(329,[true,false,false])]
theorem Rg:Con.OK Tryz.prog Ee:=
 cOf aW aX Rf Ee Tryz.func279 (ja Re trivial) trivial
def Ef:Con:=⟨200,[.v bz],[bz],⟨[.own 267 aa,.v iT],[]⟩,[aa,iT],λh=>Pw.j1D h⟩
def Rh:FnD where
 N:=86
 np:=1
 cs:=[uv,D3,Ea,Ee]
 ds:=[⟨0,[.s (.one (.bp 64 0)),sI,.s (.one (.d aV)),sI,sI,.b (.cell [.d .str,.d iT,.d aV] false)],[iT,aV,iT,iT,.str,iT,aV],[⟨.ret,[.s (.one (.nil)),sI],[iT]⟩,⟨.exit 0,[.s (.one (.bp 64 0)),sI,.b (.cell [.d .str,.d iT,.d aV] false)],[iT,.str,iT,aV]⟩],Pw.unc7 (Pw.j11)⟩,
  ⟨2,[.s (.one (.ol 1002000)),.s (.one (.d aV)),sI,sI,.b (.lst 267 aA false)],[aV,iT,iT,aa],[⟨.exit 2,[.s (.one (.ol 1502300)),.b (.lst 267 aA false)],[aa]⟩],Pw.unc4 (Pw.j0x)⟩,
  ⟨4,[.s (.one (.ol 1004000)),.s (.one (.bp 640 0)),sI,.s (.one (.d aV)),sI,sI,.b (.cell [.d iT,.d iT,.d iT,.d iT,.d iT,.d iT,.d iT] false),.b (.lst 267 aA false)],[iT,aV,iT,iT,iT,iT,iT,iT,iT,iT,iT,aa],[⟨.exit 4,[.s (.one (.ol 1504500)),.s (.one (.d aV)),sI,sI,.b (.lst 267 aA false)],[aV,iT,iT,aa]⟩],Pw.jls (Pw.j0w)⟩]
 modes:=[(201,[false,false,false]),(277,[false]),(278,[false,false,false,false]),(279,[true,false])]
 keep:=[(0,⟨[1,4,23,24,25],[64],[],[]⟩),
  (2,⟨[8,46,47,48],[],[⟨1002000,267,aA,[.slot 8],false⟩],[]⟩),
  (4,⟨[8,10,11,46,47,48],[640],[⟨1004000,267,aA,[.slot 8],false⟩],[]⟩)]
 keepX:=[(0,.ret,⟨[2,3],[],[],[]⟩),
  (0,.exit 0,⟨[1,4],[64],[],[]⟩),
  (2,.exit 2,⟨[8],[],[⟨1502300,267,aA,[.slot 8],false⟩],[]⟩),
  (4,.exit 4,⟨[8,46,47,48],[],[⟨1504500,267,aA,[.slot 8],false⟩],[]⟩)]
 ro:=[true,false]
theorem Ri:Con.OK Tryz.prog Ef:=
 cOf aW aX Rh Ef Tryz.func200 (ja Ae (ja QT (ja Q7 (ja Rg trivial)))) (ja (λh=>by kernel_rfl) (ja (λh=>by kernel_rfl) (ja (λh=>by kernel_rfl) trivial)))
def Eg:Con:=⟨138,[.v bz],[bz],⟨[.own 175 aa,.v iT],[]⟩,[aa,iT],λh=>Pw.j1j h⟩
def Rj:FnD where
 N:=79
 np:=1
 cs:=[uv,Ef]
 ds:=[⟨0,[.s (.one (.ol 1000000)),sI,.s (.one (.ol 1000001)),sI,sI,.b (.lst 175 aA false),.b (.lst 267 aA false)],[iT,iT,iT,aa,aa],[⟨.ret,[.s (.one (.nil)),sI],[iT]⟩,⟨.exit 0,[.s (.one (.ol 1500100)),.b (.lst 175 aA false)],[aa]⟩],Pw.unc5 (Pw.j12)⟩]
 modes:=[(200,[false]),(201,[false,false,false])]
 keep:=[(0,⟨[6,7,22,23,24],[],[⟨1000000,175,aA,[.slot 6],false⟩,⟨1000001,267,aA,[.slot 22],false⟩],[]⟩)]
 keepX:=[(0,.ret,⟨[2,3],[],[],[]⟩),
  (0,.exit 0,⟨[6],[],[⟨1500100,175,aA,[.slot 6],false⟩],[]⟩)]
 ro:=[true,false]
theorem Rk:Con.OK Tryz.prog Eg:=
 cOf aW aX Rj Eg Tryz.func138 (ja Ae (ja Ri trivial)) (ja (λh=>by kernel_rfl) trivial)
def Ag:Con:=⟨73,[.v bz],[bz],⟨[.v dG,.v iT],[]⟩,[dG,iT],λh=>Pw.j5k h⟩
def Rl:FnD where
 N:=16
 np:=1
 cs:=[Eg]
 ds:=[]
 modes:=[(138,[false])]
 ro:=[false,false]
theorem JW:Con.OK Tryz.prog Ag:=
 cOf aW aX Rl Ag Tryz.func73 (ja Rk trivial) trivial
def Eh:Con:=⟨187,[.v bz,.v iT],[bz,iT],⟨[.v dG,.v iT],[]⟩,[dG,iT],Pw.unc2 Pw.j3O⟩
def Rm:FnD where
 N:=23
 np:=2
 cs:=[uv,Ag]
 ds:=[]
 modes:=[(73,[false]),(201,[false,false,false])]
 ro:=[false,false]
theorem Rn:Con.OK Tryz.prog Eh:=
 cOf aW aX Rm Eh Tryz.func187 (ja Ae (ja JW trivial)) trivial
end Go.Proofs.Pk
