/- cC: each given function is its plain function, printed by a program. -/
import Derived.Test.YtpbnnhakjhalaaaGreatLWCon5
noncomputable section
open Go Go.Lft
set_option linter.unusedVariables false
set_option maxRecDepth 100000
namespace Go.Proofs.Pk
def LN:Con:=⟨263,[.rl 3 (.list iT)],[(.list iT)],⟨[.hd],[.rl (.list iT)]⟩,[iT,(.list iT)],λh=>Pw.j40 h⟩
def jcv:FnD where
 N:=61
 np:=1
 cs:=[]
 ds:=[⟨0,[.s (.one (.ol 0)),sI,.b (.lst 3 iT false)],[iT,(.list iT)],[⟨.ret,[.s (.one (.hd 0)),.b (.lst 3 iT false)],[iT,(.list iT)]⟩,⟨.exit 0,[.s (.one (.ol 0)),.b (.lst 3 iT false)],[(.list iT)]⟩],Pw.unc2 (Pw.j19)⟩,
  ⟨2,[.s (.one (.ol 0)),sI,.s (.one (.tl 0)),sI,.b (.lst 3 iT false)],[iT,iT,iT,(.list iT)],[⟨.exit 2,[.s (.one (.ol 0)),sI,.b (.lst 3 iT false)],[iT,(.list iT)]⟩],Pw.unc4 (Pw.j18)⟩]
 keep:=[(0,⟨[0,3],[0],[],[]⟩),
  (2,⟨[0,3,4,5],[0],[],[]⟩)]
 keepX:=[(0,.ret,⟨[2],[0],[],[]⟩),
  (0,.exit 0,⟨[0],[0],[],[]⟩),
  (2,.exit 2,⟨[0,3],[0],[],[]⟩)]
 ro:=[false]
 hd:=true
theorem jbV:Con.OK Tryz.prog LN:=
 cOf aF aG jcv LN Tryz.func263 trivial (j9 (λh=>by kernel_rfl) (j9 (λh=>by kernel_rfl) trivial))
def LO:Con:=⟨179,[.v (.list iT),.v iT,.v iT],[(.list iT),iT,iT],⟨[.own 3 (.list iT)],[]⟩,[(.list iT)],Pw.unc3 Pw.jgA⟩
def jpZ:FnD where
 N:=19
 np:=3
 cs:=[Tl,LL,Tn,LN]
 ds:=[]
 modes:=[(220,[false]),(260,[true,false]),(262,[true]),(263,[true])]
 ro:=[true]
 dw:=[(3,[[],[704,960],[],[1088],[960,1152],[]])]
theorem joA:Con.OK Tryz.prog LO:=
 cOf aF aG jpZ LO Tryz.func179 (j9 jdi (j9 jaa (j9 jdH (j9 jbV trivial)))) trivial
def LQ:Con:=⟨168,[.v bO],[bO],⟨[.clo 248 [.p [bO]]],[]⟩,[bO],λh=>Pw.j1Q h⟩
def j71:FnD where
 N:=4
 np:=1
 cs:=[]
 ds:=[]
 ro:=[false]
theorem j6K:Con.OK Tryz.prog LQ:=
 cOf aF aG j71 LQ Tryz.func168 trivial trivial
def FU:Con:=⟨357,[.v cA],[cA],⟨[.v iT],[]⟩,[iT],λh=>Pw.j8C h⟩
def joB:FnD where
 N:=11
 np:=1
 cs:=[]
 ds:=[]
 ro:=[false]
theorem To:Con.OK Tryz.prog FU:=
 cOf aF aG joB FU Tryz.func357 trivial trivial
def LU:Con:=⟨328,[.v iT,.ip [iT,aa],.ip [iT]],[iT,iT,aa,iT],⟨[.v .bool],[]⟩,[.bool],Pw.unc4 Pw.j7u⟩
def jet:FnD where
 N:=13
 np:=3
 cs:=[]
 ds:=[]
 ro:=[false]
theorem jdI:Con.OK Tryz.prog LU:=
 cOf aF aG jet LU Tryz.func328 trivial trivial
def LV:Con:=⟨327,[.v iT,.clo 328 [.p [iT,aa],.p [iT]]],[iT,iT,aa,iT],⟨[.v iT],[]⟩,[iT],Pw.unc4 Pw.jfA⟩
def jmH:FnD where
 N:=26
 np:=2
 cs:=[LU]
 ds:=[⟨0,[.s (.one (.clo 328 [.p [iT,aa],.p [iT]])),sI,sI],[iT,aa,iT,iT,iT],[⟨.exit 0,[sI],[iT]⟩],Pw.unc5 (Pw.j2C)⟩]
 modes:=[(328,[false])]
 keep:=[(0,⟨[1,5,6],[],[],[]⟩)]
 keepX:=[(0,.exit 0,⟨[5],[],[],[]⟩)]
 ro:=[false]
theorem jkA:Con.OK Tryz.prog LV:=
 cOf aF aG jmH LV Tryz.func327 (j9 jdI trivial) (j9 (λh=>by kernel_rfl) trivial)
def FV:Con:=⟨264,[.v cw,.v iT],[cw,iT],⟨[.v iT],[]⟩,[iT],Pw.unc2 Pw.j5O⟩
def jgT:FnD where
 N:=10
 np:=2
 cs:=[LV]
 ds:=[]
 modes:=[(327,[false,false])]
 ro:=[false]
theorem Tp:Con.OK Tryz.prog FV:=
 cOf aF aG jgT FV Tryz.func264 (j9 jkA trivial) trivial
def FW:Con:=⟨265,[.v cw,.v iT],[cw,iT],⟨[.v iT],[]⟩,[iT],Pw.unc2 Pw.j3G⟩
def jfS:FnD where
 N:=16
 np:=2
 cs:=[]
 ds:=[]
 ro:=[false]
theorem Tq:Con.OK Tryz.prog FW:=
 cOf aF aG jfS FW Tryz.func265 trivial trivial
def CO:Con:=⟨181,[.v cw,.v iT,.v iT],[cw,iT,iT],⟨[.own 248 ar],[]⟩,[ar],Pw.unc3 Pw.j1w⟩
def jfT:FnD where
 N:=41
 np:=3
 cs:=[FV,FW]
 ds:=[⟨0,[sI,sI,.s (.one (.bp 192 0)),.s (.one (.ol 1000000)),.b (.cell [.d iT,.d aa] false),.b (.lst 248 ax false)],[iT,iT,iT,aa,ar],[⟨.exit 0,[.s (.one (.ol 1500100)),.b (.lst 248 ax false)],[ar]⟩],Pw.unc5 (Pw.j0s)⟩]
 modes:=[(264,[false,false]),(265,[false,false])]
 keep:=[(0,⟨[1,2,3,7],[192],[⟨1000000,248,ax,[.slot 7],false⟩],[]⟩)]
 keepX:=[(0,.exit 0,⟨[7],[],[⟨1500100,248,ax,[.slot 7],false⟩],[]⟩)]
 ro:=[true]
theorem LW:Con.OK Tryz.prog CO:=
 cOf aF aG jfT CO Tryz.func181 (j9 Tp (j9 Tq trivial)) (j9 (λh=>by kernel_rfl) trivial)
def LX:Con:=⟨400,[.v aM],[aM],⟨[.v iT],[]⟩,[iT],λh=>Pw.j3D h⟩
def jkB:FnD where
 N:=11
 np:=1
 cs:=[]
 ds:=[]
 ro:=[false]
theorem jjN:Con.OK Tryz.prog LX:=
 cOf aF aG jkB LX Tryz.func400 trivial trivial
def LY:Con:=⟨358,[.v cw,.v aM],[cw,aM],⟨[.v iT,.v .bool],[]⟩,[iT,.bool],Pw.unc2 Pw.j2s⟩
def jgU:FnD where
 N:=30
 np:=2
 cs:=[CO,LX]
 ds:=[⟨0,[.s (.one (.bp 192 0)),.s (.one (.ol 1000000)),sI,sI,.b (.cell [.d iT,.d iT] false),.b (.lst 248 ax false)],[iT,iT,iT,iT,ar],[⟨.ret,[sI,.s (.one (.d .bool))],[iT,.bool]⟩,⟨.exit 0,[],[]⟩],Pw.unc5 (Pw.j13)⟩]
 modes:=[(181,[false,false,false]),(400,[false])]
 keep:=[(0,⟨[3,10,11,12],[192],[⟨1000000,248,ax,[.slot 10],false⟩],[]⟩)]
 keepX:=[(0,.ret,⟨[4,5],[],[],[]⟩),
  (0,.exit 0,⟨[],[],[],[]⟩)]
 ro:=[false,false]
theorem jfU:Con.OK Tryz.prog LY:=
 cOf aF aG jgU LY Tryz.func358 (j9 LW (j9 jjN trivial)) (j9 (λh=>by kernel_rfl) trivial)
def CP:Con:=⟨318,[.v cw,.v cA,.v iT],[cw,cA,iT],⟨[.v iT,.v .bool],[]⟩,[iT,.bool],Pw.unc3 Pw.j0D⟩
def jgV:FnD where
 N:=50
 np:=3
 cs:=[FU,LY]
 ds:=[]
 modes:=[(357,[false]),(358,[false,false])]
 ro:=[false,false]
 dw:=[(5,[[],[],[],[],[],[],[],[],[512]])]
theorem LZ:Con.OK Tryz.prog CP:=
 cOf aF aG jgV CP Tryz.func318 (j9 To (j9 jfU trivial)) trivial
def Tr:Con:=⟨255,[.v aa],[aa],⟨[.own 77 aa],[]⟩,[aa],λh=>Pw.j2V h⟩
def j8g:FnD where
 N:=8
 np:=1
 cs:=[]
 ds:=[]
 ro:=[true]
theorem j8d:Con.OK Tryz.prog Tr:=
 Q7 aF aG j8g 255 aM 77 Tryz.f255 (Tryz.f255.body.getD .skip) Tryz.func255 (by kernel_rfl) (by kernel_rfl) (zu (by kernel_rfl)) (by kernel_rfl) trivial (by kernel_rfl)
  (λh R k=>by kernel_rfl)
def FX:Con:=⟨256,[.v aM],[aM],⟨[.v .bool],[]⟩,[.bool],λh=>Pw.j7Y h⟩
def jjO:FnD where
 N:=8
 np:=1
 cs:=[]
 ds:=[]
 ro:=[false]
theorem Ts:Con.OK Tryz.prog FX:=
 cOf aF aG jjO FX Tryz.func256 trivial trivial
def L0:Con:=⟨322,[.rl 77 aa,.clo 256 []],[aa],⟨[.v iT],[.rl aa]⟩,[iT,aa],λh=>Pw.j24 h⟩
def j7i:FnD where
 N:=19
 np:=2
 cs:=[FX]
 ds:=[⟨0,[.s (.one (.ol 0)),.s (.one (.clo 256 [])),sI,sI,.b (.lst 77 aM false)],[iT,iT,aa],[⟨.ret,[sI,.b (.lst 77 aM false)],[iT,aa]⟩,⟨.exit 0,[.b (.lst 77 aM false)],[aa]⟩],Pw.unc3 (Pw.j0p)⟩]
 modes:=[(256,[false])]
 keep:=[(0,⟨[0,1,7,8],[0],[],[]⟩)]
 keepX:=[(0,.ret,⟨[4],[0],[],[]⟩),
  (0,.exit 0,⟨[],[0],[],[]⟩)]
 ro:=[false]
theorem j74:Con.OK Tryz.prog L0:=
 cOf aF aG j7i L0 Tryz.func322 (j9 Ts trivial) (j9 (λh=>by kernel_rfl) trivial)
def L1:Con:=⟨254,[.rl 77 aa,.clo 256 []],[aa],⟨[.hd],[.rl aa]⟩,[iT,aa],λh=>Pw.j1b h⟩
def j75:FnD where
 N:=42
 np:=2
 cs:=[FX,L0]
 ds:=[⟨0,[.s (.one (.ol 0)),.s (.one (.clo 256 [])),sI,sI,.b (.lst 77 aM false)],[iT,iT,aa],[⟨.exit 0,[.s (.one (.ol 0)),sI,.b (.lst 77 aM false)],[iT,aa]⟩],Pw.unc3 (Pw.j0m)⟩]
 modes:=[(256,[false]),(322,[true,false])]
 keep:=[(0,⟨[0,1,5,6],[0],[],[]⟩)]
 keepX:=[(0,.exit 0,⟨[0,5],[0],[],[]⟩)]
 ro:=[false]
 hd:=true
theorem j6M:Con.OK Tryz.prog L1:=
 cOf aF aG j75 L1 Tryz.func254 (j9 Ts (j9 j74 trivial)) (j9 (λh=>by kernel_rfl) trivial)
def L2:Con:=⟨258,[.v aM,.v aM],[aM,aM],⟨[.v iT],[]⟩,[iT],Pw.unc2 Pw.j6E⟩
def jjP:FnD where
 N:=10
 np:=2
 cs:=[]
 ds:=[]
 ro:=[false]
theorem jsb:Con.OK Tryz.prog L2:=
 cOf aF aG jjP L2 Tryz.func258 trivial trivial
def Tt:Con:=⟨257,[.rl 77 aa,.clo 258 []],[aa],⟨[],[.rl aa]⟩,[aa],λh=>Pw.j0J h⟩
def jaj:FnD where
 N:=14
 np:=2
 cs:=[L2]
 ds:=[]
 modes:=[(258,[false,false])]
theorem j3A:Con.OK Tryz.prog Tt:=
 Rs Tryz.sort257 (aM) rfl 77 (by kernel_rfl) Tryz.isAgg77 Tryz.sizeOf77 _ 258 (enters_of Tryz.func258 (by kernel_rfl) rfl) jpA jpB 257 rfl
def yE:Con:=⟨175,[.v aa],[aa],⟨[.own 77 aa],[]⟩,[aa],λh=>Pw.j8D h⟩
def joC:FnD where
 N:=54
 np:=1
 cs:=[Tr,L1,Tt]
 ds:=[⟨0,[.s (.one (.ol 1000000)),.s (.one (.ol 1000001)),sI,sI,.b (.lst 77 aM false),.b (.lst 77 aM false)],[iT,iT,aa,aa],[⟨.exit 0,[.s (.one (.ol 1500100)),.b (.lst 77 aM false)],[aa]⟩],Pw.unc4 (Pw.j39)⟩]
 modes:=[(254,[true,false]),(255,[false]),(257,[true,false])]
 keep:=[(0,⟨[4,13,14,15],[],[⟨1000000,77,aM,[.slot 4],false⟩,⟨1000001,77,aM,[.slot 13],false⟩],[]⟩)]
 keepX:=[(0,.exit 0,⟨[4],[],[⟨1500100,77,aM,[.slot 4],false⟩],[]⟩)]
 ro:=[true]
 dw:=[(9,[[],[],[],[],[],[],[],[],[],[],[],[],[],[],[1000000]])]
theorem FY:Con.OK Tryz.prog yE:=
 cOf aF aG joC yE Tryz.func175 (j9 j8d (j9 j6M (j9 j3A trivial))) (j9 (λh=>by kernel_rfl) trivial)
def FZ:Con:=⟨96,[.v cw,.v aa,.v iT,.v iT],[cw,aa,iT,iT],⟨[.own 77 aa],[]⟩,[aa],Pw.unc4 Pw.j4n⟩
def jkC:FnD where
 N:=73
 np:=4
 cs:=[CO,yE]
 ds:=[⟨0,[.s (.one (.d aa)),.s (.one (.ol 1000000)),.s (.one (.ol 1000001)),sI,sI,.b (.lst 77 aM false),.b (.lst 248 ax false)],[aa,iT,iT,aa,ar],[⟨.exit 0,[.s (.one (.ol 1500100)),.b (.lst 77 aM false)],[aa]⟩],Pw.unc5 (Pw.j3m)⟩,
  ⟨2,[.s (.one (.d aa)),.s (.one (.ol 1002000)),.s (.one (.bp 704 0)),sI,.s (.one (.ol 1002001)),sI,sI,.b (.cell [.d iT,.d iT,.d iT] false),.b (.lst 77 aM false),.b (.lst 248 ax false)],[aa,iT,iT,iT,iT,iT,iT,aa,ar],[⟨.exit 2,[.s (.one (.d aa)),.s (.one (.ol 1502300)),.s (.one (.ol 1502301)),sI,sI,.b (.lst 77 aM false),.b (.lst 248 ax false)],[aa,iT,iT,aa,ar]⟩],Pw.unc9 (Pw.j3l)⟩,
  ⟨4,[.s (.one (.d aa)),.s (.one (.ol 1004000)),.s (.one (.bp 704 0)),sI,.s (.one (.ol 1004001)),sI,sI,.s (.one (.d aa)),sI,sI,.b (.cell [.d iT,.d iT,.d iT] false),.b (.lst 77 aM false),.b (.lst 248 ax false)],[aa,iT,iT,iT,aa,iT,iT,iT,iT,iT,aa,ar],[⟨.exit 4,[.s (.one (.d aa)),.s (.one (.ol 1504500)),.s (.one (.bp 704 0)),sI,.s (.one (.ol 1504501)),sI,sI,.b (.cell [.d iT,.d iT,.d iT] false),.b (.lst 77 aM false),.b (.lst 248 ax false)],[aa,iT,iT,iT,iT,iT,iT,aa,ar]⟩],Pw.jvz (Pw.j3k)⟩]
 modes:=[(175,[false]),(181,[false,false,false])]
 keep:=[(0,⟨[1,9,19,20,21],[],[⟨1000000,77,aM,[.slot 9],false⟩,⟨1000001,248,ax,[.slot 19],false⟩],[]⟩),
  (2,⟨[1,9,11,13,19,20,21],[704],[⟨1002000,77,aM,[.slot 9],false⟩,⟨1002001,248,ax,[.slot 19],false⟩],[]⟩),
  (4,⟨[1,9,11,13,19,20,21,45,46,47],[704],[⟨1004000,77,aM,[.slot 9],false⟩,⟨1004001,248,ax,[.slot 19],false⟩],[]⟩)]
 keepX:=[(0,.exit 0,⟨[9],[],[⟨1500100,77,aM,[.slot 9],false⟩],[]⟩),
  (2,.exit 2,⟨[1,9,19,20,21],[],[⟨1502300,77,aM,[.slot 9],false⟩,⟨1502301,248,ax,[.slot 19],false⟩],[]⟩),
  (4,.exit 4,⟨[1,9,11,13,19,20,21],[704],[⟨1504500,77,aM,[.slot 9],false⟩,⟨1504501,248,ax,[.slot 19],false⟩],[]⟩)]
 ro:=[true]
theorem Tu:Con.OK Tryz.prog FZ:=
 cOf aF aG jkC FZ Tryz.func96 (j9 LW (j9 FY trivial)) (j9 (λh=>by kernel_rfl) (j9 (λh=>by kernel_rfl) (j9 (λh=>by kernel_rfl) trivial)))
end Go.Proofs.Pk
