/- cI: each given function is its plain function, printed by a program. -/
import Derived.Test.YtaieocafhcjelaaGreatDCon2
noncomputable section
open Go Go.Lft
set_option linter.unusedVariables false
set_option maxRecDepth 100000
namespace Go.Proofs.Pk
def Gg:Con:=⟨86,[.v bS],[bS],⟨[.v dN,.v .bool],[]⟩,[dN,.bool],λh=>Pw.jgq h⟩
def jv8:FnD where
 N:=10
 np:=1
 cs:=[Lh,Lk]
 ds:=[]
 modes:=[(99,[false]),(160,[false])]
 ro:=[false,false]
theorem Tj:Con.OK Tryz.prog Gg:=
 cOf aJ aL jv8 Gg Tryz.func86 (j9 jkq (j9 jqc trivial)) trivial
def Gh:Con:=⟨87,[.v iT,.v iT],[iT,iT],⟨[.v .bool],[]⟩,[.bool],Pw.unc2 Pw.jeD⟩
def jqd:FnD where
 N:=26
 np:=2
 cs:=[]
 ds:=[]
 ro:=[false]
theorem Tk:Con.OK Tryz.prog Gh:=
 cOf aJ aL jqd Gh Tryz.func87 trivial trivial
def DA:Con:=⟨112,[.v bS,.v iT,.v iT,.v iT],[bS,iT,iT,iT],⟨[.v dN,.v iT],[]⟩,[dN,iT],Pw.unc4 Pw.j5I⟩
def joG:FnD where
 N:=39
 np:=4
 cs:=[Gg,Gh]
 ds:=[]
 modes:=[(86,[false]),(87,[false,false])]
 ro:=[false,false]
theorem Ll:Con.OK Tryz.prog DA:=
 cOf aJ aL joG DA Tryz.func112 (j9 Tj (j9 Tk trivial)) trivial
def Tl:Con:=⟨213,[.v (.list iT)],[(.list iT)],⟨[.own 3 (.list iT)],[]⟩,[(.list iT)],λh=>Pw.j8P h⟩
def jfT:FnD where
 N:=8
 np:=1
 cs:=[]
 ds:=[]
 ro:=[true]
theorem jfi:Con.OK Tryz.prog Tl:=
 Rc aJ aL jfT 213 iT 3 Tryz.f213 (Tryz.f213.body.getD .skip) Tryz.func213 (by kernel_rfl) (by kernel_rfl) (Nat.le_of_ble_eq_true (by kernel_rfl)) (by kernel_rfl) trivial (by kernel_rfl)
  (λh R k=>by kernel_rfl)
def Gj:Con:=⟨214,[.v iT,.ip [iT],.ip [iT]],[iT,iT,iT],⟨[.v .bool],[]⟩,[.bool],Pw.unc3 Pw.jbs⟩
def jmP:FnD where
 N:=13
 np:=3
 cs:=[]
 ds:=[]
 ro:=[false]
theorem Tm:Con.OK Tryz.prog Gj:=
 cOf aJ aL jmP Gj Tryz.func214 trivial trivial
def Lm:Con:=⟨303,[.rl 3 (.list iT),.clo 214 [.p [iT],.p [iT]]],[(.list iT),iT,iT],⟨[.v iT],[.rl (.list iT)]⟩,[iT,(.list iT)],Pw.unc3 Pw.j2j⟩
def jc0:FnD where
 N:=19
 np:=2
 cs:=[Gj]
 ds:=[⟨0,[.s (.one (.ol 0)),.s (.one (.clo 214 [.p [iT],.p [iT]])),sI,sI,.b (.lst 3 iT false)],[iT,iT,iT,iT,(.list iT)],[⟨.ret,[sI,.b (.lst 3 iT false)],[iT,(.list iT)]⟩,⟨.exit 0,[.b (.lst 3 iT false)],[(.list iT)]⟩],Pw.unc5 (Pw.j1C)⟩]
 modes:=[(214,[false])]
 keep:=[(0,⟨[0,1,7,8],[0],[],[]⟩)]
 keepX:=[(0,.ret,⟨[4],[0],[],[]⟩),
  (0,.exit 0,⟨[],[0],[],[]⟩)]
 ro:=[false]
theorem jbE:Con.OK Tryz.prog Lm:=
 cOf aJ aL jc0 Lm Tryz.func303 (j9 Tm trivial) (j9 (λh=>by kernel_rfl) trivial)
def Ln:Con:=⟨212,[.rl 3 (.list iT),.clo 214 [.p [iT],.p [iT]]],[(.list iT),iT,iT],⟨[.hd],[.rl (.list iT)]⟩,[iT,(.list iT)],Pw.unc3 Pw.j25⟩
def jd5:FnD where
 N:=42
 np:=2
 cs:=[Gj,Lm]
 ds:=[⟨0,[.s (.one (.ol 0)),.s (.one (.clo 214 [.p [iT],.p [iT]])),sI,sI,.b (.lst 3 iT false)],[iT,iT,iT,iT,(.list iT)],[⟨.exit 0,[.s (.one (.ol 0)),sI,.b (.lst 3 iT false)],[iT,(.list iT)]⟩],Pw.unc5 (Pw.j1Y)⟩]
 modes:=[(214,[false]),(303,[true,false])]
 keep:=[(0,⟨[0,1,5,6],[0],[],[]⟩)]
 keepX:=[(0,.exit 0,⟨[0,5],[0],[],[]⟩)]
 ro:=[false]
 hd:=true
theorem jcu:Con.OK Tryz.prog Ln:=
 cOf aJ aL jd5 Ln Tryz.func212 (j9 Tm (j9 jbE trivial)) (j9 (λh=>by kernel_rfl) trivial)
def Tn:Con:=⟨215,[.rl 3 (.list iT)],[(.list iT)],⟨[],[.rl (.list iT)]⟩,[(.list iT)],λh=>Pw.j78 h⟩
def jqe:FnD where
 N:=11
 np:=1
 cs:=[]
 ds:=[]
theorem jfU:Con.OK Tryz.prog Tn:=
 jv5 Tryz.sort215 3 (by kernel_rfl) 215 rfl
def Lo:Con:=⟨216,[.rl 3 (.list iT)],[(.list iT)],⟨[.hd],[.rl (.list iT)]⟩,[iT,(.list iT)],λh=>Pw.j2P h⟩
def jeL:FnD where
 N:=61
 np:=1
 cs:=[]
 ds:=[⟨0,[.s (.one (.ol 0)),sI,.b (.lst 3 iT false)],[iT,(.list iT)],[⟨.ret,[.s (.one (.hd 0)),.b (.lst 3 iT false)],[iT,(.list iT)]⟩,⟨.exit 0,[.s (.one (.ol 0)),.b (.lst 3 iT false)],[(.list iT)]⟩],Pw.unc2 (Pw.j16)⟩,
  ⟨2,[.s (.one (.ol 0)),sI,.s (.one (.tl 0)),sI,.b (.lst 3 iT false)],[iT,iT,iT,(.list iT)],[⟨.exit 2,[.s (.one (.ol 0)),sI,.b (.lst 3 iT false)],[iT,(.list iT)]⟩],Pw.unc4 (Pw.j2t)⟩]
 keep:=[(0,⟨[0,3],[0],[],[]⟩),
  (2,⟨[0,3,4,5],[0],[],[]⟩)]
 keepX:=[(0,.ret,⟨[2],[0],[],[]⟩),
  (0,.exit 0,⟨[0],[0],[],[]⟩),
  (2,.exit 2,⟨[0,3],[0],[],[]⟩)]
 ro:=[false]
 hd:=true
theorem jed:Con.OK Tryz.prog Lo:=
 cOf aJ aL jeL Lo Tryz.func216 trivial (j9 (λh=>by kernel_rfl) (j9 (λh=>by kernel_rfl) trivial))
def Gk:Con:=⟨150,[.v (.list iT),.v iT,.v iT],[(.list iT),iT,iT],⟨[.own 3 (.list iT)],[]⟩,[(.list iT)],Pw.unc3 Pw.jbt⟩
def jrr:FnD where
 N:=19
 np:=3
 cs:=[Tl,Ln,Tn,Lo]
 ds:=[]
 modes:=[(212,[true,false]),(213,[false]),(215,[true]),(216,[true])]
 ro:=[true]
 dw:=[(3,[[],[704,960],[],[1088],[960,1152],[]])]
theorem To:Con.OK Tryz.prog Gk:=
 cOf aJ aL jrr Gk Tryz.func150 (j9 jfi (j9 jcu (j9 jfU (j9 jed trivial)))) trivial
def Lp:Con:=⟨180,[.v ca],[ca],⟨[.clo 261 [.p [ca]]],[]⟩,[ca],λh=>Pw.j3C h⟩
def j8W:FnD where
 N:=4
 np:=1
 cs:=[]
 ds:=[]
 ro:=[false]
theorem j8v:Con.OK Tryz.prog Lp:=
 cOf aJ aL j8W Lp Tryz.func180 trivial trivial
def Gl:Con:=⟨316,[.v cu],[cu],⟨[.v iT],[]⟩,[iT],λh=>Pw.jb0 h⟩
def jqf:FnD where
 N:=11
 np:=1
 cs:=[]
 ds:=[]
 ro:=[false]
theorem Tp:Con.OK Tryz.prog Gl:=
 cOf aJ aL jqf Gl Tryz.func316 trivial trivial
def Lq:Con:=⟨328,[.v iT,.ip [iT,aa],.ip [iT]],[iT,iT,aa,iT],⟨[.v .bool],[]⟩,[.bool],Pw.unc4 Pw.j9z⟩
def jgw:FnD where
 N:=13
 np:=3
 cs:=[]
 ds:=[]
 ro:=[false]
theorem jfV:Con.OK Tryz.prog Lq:=
 cOf aJ aL jgw Lq Tryz.func328 trivial trivial
def Lr:Con:=⟨327,[.v iT,.clo 328 [.p [iT,aa],.p [iT]]],[iT,iT,aa,iT],⟨[.v iT],[]⟩,[iT],Pw.unc4 Pw.jb1⟩
def joH:FnD where
 N:=26
 np:=2
 cs:=[Lq]
 ds:=[⟨0,[.s (.one (.clo 328 [.p [iT,aa],.p [iT]])),sI,sI],[iT,aa,iT,iT,iT],[⟨.exit 0,[sI],[iT]⟩],Pw.unc5 (Pw.j4l)⟩]
 modes:=[(328,[false])]
 keep:=[(0,⟨[1,5,6],[],[],[]⟩)]
 keepX:=[(0,.exit 0,⟨[5],[],[],[]⟩)]
 ro:=[false]
theorem jmQ:Con.OK Tryz.prog Lr:=
 cOf aJ aL joH Lr Tryz.func327 (j9 jfV trivial) (j9 (λh=>by kernel_rfl) trivial)
def Gm:Con:=⟨271,[.v bZ,.v iT],[bZ,iT],⟨[.v iT],[]⟩,[iT],Pw.unc2 Pw.j4e⟩
def jiX:FnD where
 N:=10
 np:=2
 cs:=[Lr]
 ds:=[]
 modes:=[(327,[false,false])]
 ro:=[false]
theorem Tq:Con.OK Tryz.prog Gm:=
 cOf aJ aL jiX Gm Tryz.func271 (j9 jmQ trivial) trivial
def Gn:Con:=⟨272,[.v bZ,.v iT],[bZ,iT],⟨[.v iT],[]⟩,[iT],Pw.unc2 Pw.j5E⟩
def jhX:FnD where
 N:=16
 np:=2
 cs:=[]
 ds:=[]
 ro:=[false]
theorem Tr:Con.OK Tryz.prog Gn:=
 cOf aJ aL jhX Gn Tryz.func272 trivial trivial
def DB:Con:=⟨186,[.v bZ,.v iT,.v iT],[bZ,iT,iT],⟨[.own 251 aq],[]⟩,[aq],Pw.unc3 Pw.j1X⟩
def jhY:FnD where
 N:=41
 np:=3
 cs:=[Gm,Gn]
 ds:=[⟨0,[sI,sI,.s (.one (.bp 192 0)),.s (.one (.ol 1000000)),.b (.cell [.d iT,.d aa] false),.b (.lst 251 ay false)],[iT,iT,iT,aa,aq],[⟨.exit 0,[.s (.one (.ol 1500100)),.b (.lst 251 ay false)],[aq]⟩],Pw.unc5 (Pw.j0H)⟩]
 modes:=[(271,[false,false]),(272,[false,false])]
 keep:=[(0,⟨[1,2,3,7],[192],[⟨1000000,251,ay,[.slot 7],false⟩],[]⟩)]
 keepX:=[(0,.exit 0,⟨[7],[],[⟨1500100,251,ay,[.slot 7],false⟩],[]⟩)]
 ro:=[true]
theorem Ls:Con.OK Tryz.prog DB:=
 cOf aJ aL jhY DB Tryz.func186 (j9 Tq (j9 Tr trivial)) (j9 (λh=>by kernel_rfl) trivial)
def Lt:Con:=⟨317,[.v aQ],[aQ],⟨[.v iT],[]⟩,[iT],λh=>Pw.j5v h⟩
def jmR:FnD where
 N:=11
 np:=1
 cs:=[]
 ds:=[]
 ro:=[false]
theorem jlY:Con.OK Tryz.prog Lt:=
 cOf aJ aL jmR Lt Tryz.func317 trivial trivial
def Lu:Con:=⟨233,[.v bZ,.v aQ],[bZ,aQ],⟨[.v iT,.v .bool],[]⟩,[iT,.bool],Pw.unc2 Pw.j2F⟩
def jiY:FnD where
 N:=30
 np:=2
 cs:=[DB,Lt]
 ds:=[⟨0,[.s (.one (.bp 192 0)),.s (.one (.ol 1000000)),sI,sI,.b (.cell [.d iT,.d iT] false),.b (.lst 251 ay false)],[iT,iT,iT,iT,aq],[⟨.ret,[sI,.s (.one (.d .bool))],[iT,.bool]⟩,⟨.exit 0,[],[]⟩],Pw.unc5 (Pw.j2k)⟩]
 modes:=[(186,[false,false,false]),(317,[false])]
 keep:=[(0,⟨[3,10,11,12],[192],[⟨1000000,251,ay,[.slot 10],false⟩],[]⟩)]
 keepX:=[(0,.ret,⟨[4,5],[],[],[]⟩),
  (0,.exit 0,⟨[],[],[],[]⟩)]
 ro:=[false,false]
theorem jhZ:Con.OK Tryz.prog Lu:=
 cOf aJ aL jiY Lu Tryz.func233 (j9 Ls (j9 jlY trivial)) (j9 (λh=>by kernel_rfl) trivial)
def DC:Con:=⟨232,[.v bZ,.v cu,.v iT],[bZ,cu,iT],⟨[.v iT,.v .bool],[]⟩,[iT,.bool],Pw.unc3 Pw.j1d⟩
def jiZ:FnD where
 N:=50
 np:=3
 cs:=[Gl,Lu]
 ds:=[]
 modes:=[(233,[false,false]),(316,[false])]
 ro:=[false,false]
 dw:=[(5,[[],[],[],[],[],[],[],[],[512]])]
theorem Lv:Con.OK Tryz.prog DC:=
 cOf aJ aL jiZ DC Tryz.func232 (j9 Tp (j9 jhZ trivial)) trivial
end Go.Proofs.Pk
