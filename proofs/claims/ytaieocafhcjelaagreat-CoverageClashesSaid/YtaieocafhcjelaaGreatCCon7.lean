/- bZ: each given function is its plain function, printed by a program. -/
import Derived.Test.YtaieocafhcjelaaGreatCCon6
noncomputable section
open Go Go.Lft
set_option linter.unusedVariables false
set_option maxRecDepth 100000
namespace Go.Proofs.Pk
def GC:Con:=⟨90,[.v aV,.v aV],[aV,aV],⟨[.v iT],[]⟩,[iT],Pw.unc2 Pw.j3l⟩
def jhV:FnD where
 N:=10
 np:=2
 cs:=[]
 ds:=[]
 ro:=[false]
theorem UD:Con.OK Tryz.prog GC:=
 cOf aD aF jhV GC Tryz.func90 trivial trivial
def Mq:Con:=⟨235,[.rl 70 au,.v iT,.v iT,.clo 90 []],[au,iT,iT],⟨[],[.rl au]⟩,[au],Pw.unc3 Pw.j0O⟩
def j8t:FnD where
 N:=53
 np:=4
 cs:=[GC]
 ds:=[⟨0,[.s (.one (.ol 0)),sI,sI,.s (.one (.clo 90 [])),sI,.b (.lst 70 aV false)],[iT,iT,iT,au],[⟨.exit 0,[.b (.lst 70 aV false)],[au]⟩],Pw.unc4 (Pw.j0p)⟩,
  ⟨2,[.s (.one (.ol 0)),sI,sI,.s (.one (.clo 90 [])),sI,sI,.b (.lst 70 aV false)],[iT,iT,iT,iT,au],[⟨.exit 2,[.s (.one (.ol 0)),sI,sI,.s (.one (.clo 90 [])),sI,.b (.lst 70 aV false)],[iT,iT,iT,au]⟩],Pw.unc5 (Pw.j0D)⟩]
 modes:=[(90,[false,false])]
 keep:=[(0,⟨[0,1,2,3,8],[0],[],[]⟩),
  (2,⟨[0,1,2,3,8,9],[0],[],[]⟩)]
 keepX:=[(0,.exit 0,⟨[],[0],[],[]⟩),
  (2,.exit 2,⟨[0,1,2,3,8],[0],[],[]⟩)]
 dw:=[(6,[[],[],[],[],[],[],[],[],[],[],[],[],[],[],[],[0],[],[0]])]
theorem j7W:Con.OK Tryz.prog Mq:=
 cOf aD aF j8t Mq Tryz.func235 (j9 UD trivial) (j9 (λh=>by kernel_rfl) (j9 (λh=>by kernel_rfl) trivial))
def Mr:Con:=⟨365,[.rl 70 au,.v iT,.v iT,.v iT,.clo 90 []],[au,iT,iT,iT],⟨[],[.rl au]⟩,[au],Pw.unc4 Pw.j0N⟩
def j9M:FnD where
 N:=38
 np:=5
 cs:=[]
 ds:=[⟨0,[.s (.one (.ol 0)),sI,sI,sI,sI,.b (.lst 70 aV false)],[iT,iT,iT,iT,au],[⟨.exit 0,[.b (.lst 70 aV false)],[au]⟩],Pw.unc5 (Pw.j0T)⟩]
 keep:=[(0,⟨[0,1,2,3,10],[0],[],[]⟩)]
 keepX:=[(0,.exit 0,⟨[],[0],[],[]⟩)]
 dw:=[(3,[[],[],[],[],[],[],[],[],[],[],[],[],[],[],[],[],[],[],[],[],[],[0],[],[0]])]
theorem j9p:Con.OK Tryz.prog Mr:=
 cOf aD aF j9M Mr Tryz.func365 trivial (j9 (λh=>by kernel_rfl) trivial)
def Ms:Con:=⟨318,[.rl 70 au,.v iT,.v iT,.v iT,.clo 90 []],[au,iT,iT,iT],⟨[],[.rl au]⟩,[au],Pw.unc4 Pw.j1p⟩
def jaK:FnD where
 N:=58
 np:=5
 cs:=[Mr]
 ds:=[⟨0,[.s (.one (.ol 0)),sI,.s (.one (.clo 90 [])),sI,sI,.b (.lst 70 aV false)],[iT,iT,iT,au],[⟨.exit 0,[.s (.one (.ol 0)),sI,.s (.one (.clo 90 [])),sI,.b (.lst 70 aV false)],[iT,iT,au]⟩],Pw.unc4 (Pw.j1T)⟩]
 modes:=[(365,[true,false,false,false,false])]
 keep:=[(0,⟨[0,2,4,10,11],[0],[],[]⟩)]
 keepX:=[(0,.exit 0,⟨[0,2,4,10],[0],[],[]⟩)]
theorem jat:Con.OK Tryz.prog Ms:=
 cOf aD aF jaK Ms Tryz.func318 (j9 j9p trivial) (j9 (λh=>by kernel_rfl) trivial)
def UE:Con:=⟨236,[.rl 70 au,.v iT,.v iT,.v iT,.clo 90 []],[au,iT,iT,iT],⟨[],[.rl au]⟩,[au],λh=>Pw.j1U h.1 h.2.1 h.2.2.1 h.2.2.2⟩
def GD(g:HL [au,iT,iT,iT]->Option (HL [au])):Con:=⟨236,[.rl 70 au,.v iT,.v iT,.v iT,.clo 90 []],[au,iT,iT,iT],⟨[],[.rl au]⟩,[au],g⟩
def ja0(g:HL [au,iT,iT,iT]->Option (HL [au])):FnD where
 N:=220
 np:=5
 cs:=[GD g,GC,Ms]
 ds:=[⟨0,[.s (.one (.ol 0)),sI,.s (.one (.clo 90 [])),sI,sI,.b (.lst 70 aV false)],[iT,iT,iT,au],[⟨.exit 0,[.s (.one (.ol 0)),sI,sI,.b (.lst 70 aV false)],[iT,iT,au]⟩],Pw.unc4 (Pw.j0X (λv0 v1 v2 v3=>g (v0,v1,v2,v3)))⟩,
  ⟨2,[.s (.one (.ol 0)),sI,sI,.b (.lst 70 aV false)],[iT,iT,au],[⟨.exit 2,[.b (.lst 70 aV false)],[au]⟩],Pw.unc3 (Pw.j0Y (λv0 v1 v2 v3=>g (v0,v1,v2,v3)))⟩,
  ⟨4,[.s (.one (.ol 0)),sI,.s (.one (.clo 90 [])),sI,sI,.b (.lst 70 aV false)],[iT,iT,iT,au],[⟨.exit 4,[.s (.one (.ol 0)),sI,sI,.b (.lst 70 aV false)],[iT,iT,au]⟩],Pw.unc4 (Pw.j0Z (λv0 v1 v2 v3=>g (v0,v1,v2,v3)))⟩,
  ⟨6,[.s (.one (.ol 0)),sI,sI,.b (.lst 70 aV false)],[iT,iT,au],[⟨.exit 6,[.b (.lst 70 aV false)],[au]⟩],Pw.unc3 (Pw.j10 (λv0 v1 v2 v3=>g (v0,v1,v2,v3)))⟩,
  ⟨8,[.s (.one (.ol 0)),sI,sI,sI,.s (.one (.clo 90 [])),sI,sI,sI,sI,sI,.b (.lst 70 aV false)],[iT,iT,iT,iT,iT,iT,iT,iT,au],[⟨.exit 8,[.s (.one (.ol 0)),sI,sI,sI,.s (.one (.clo 90 [])),sI,sI,sI,.b (.lst 70 aV false)],[iT,iT,iT,iT,iT,iT,au]⟩],Pw.unc9 (Pw.j11 (λv0 v1 v2 v3=>g (v0,v1,v2,v3)))⟩]
 modes:=[(90,[false,false]),(236,[true,false,false,false,false]),(318,[true,false,false,false,false])]
 keep:=[(0,⟨[0,1,4,10,11],[0],[],[]⟩),
  (2,⟨[0,10,13],[0],[],[]⟩),
  (4,⟨[0,2,4,14,15],[0],[],[]⟩),
  (6,⟨[0,14,17],[0],[],[]⟩),
  (8,⟨[0,1,2,3,4,18,19,20,21,22],[0],[],[]⟩)]
 keepX:=[(0,.exit 0,⟨[0,1,10],[0],[],[]⟩),
  (2,.exit 2,⟨[],[0],[],[]⟩),
  (4,.exit 4,⟨[0,2,14],[0],[],[]⟩),
  (6,.exit 6,⟨[],[0],[],[]⟩),
  (8,.exit 8,⟨[0,1,2,3,4,18,19,20],[0],[],[]⟩)]
 dw:=[(11,[[],[],[],[],[],[],[],[],[],[],[],[],[],[],[],[0],[],[0]]),(23,[[],[],[],[],[],[],[],[],[],[],[],[],[],[],[],[0],[],[0]])]
theorem j98(g:HL [au,iT,iT,iT]->Option (HL [au]))(hg:Con.OK Tryz.prog (GD g)):Con.OK Tryz.prog (GD (Pw.j0x g)):=
 cOf aD aF (ja0 g) (GD (Pw.j0x g)) Tryz.func236 (j9 hg (j9 UD (j9 jat trivial))) (j9 (λh=>by kernel_rfl) (j9 (λh=>by kernel_rfl) (j9 (λh=>by kernel_rfl) (j9 (λh=>by kernel_rfl) (j9 (λh=>by kernel_rfl) trivial)))))
theorem j9N:Con.OK Tryz.prog UE:=jDg (f:=236) (ps:=[.rl 70 au,.v iT,.v iT,.v iT,.clo 90 []]) (ts:=[au,iT,iT,iT]) (rp:=⟨[],[.rl au]⟩) (rs:=[au]) (B:=Pw.j0x) j98
def Mt:Con:=⟨161,[.rl 70 au,.v iT,.clo 90 []],[au,iT],⟨[],[.rl au]⟩,[au],Pw.unc2 Pw.j4v⟩
def jaL:FnD where
 N:=63
 np:=3
 cs:=[Mq,UE]
 ds:=[⟨0,[.s (.one (.ol 0)),sI,.s (.one (.clo 90 [])),sI,sI,sI,.b (.lst 70 aV false)],[iT,iT,iT,iT,au],[⟨.exit 0,[.s (.one (.ol 0)),sI,.s (.one (.clo 90 [])),sI,sI,.b (.lst 70 aV false)],[iT,iT,iT,au]⟩],Pw.unc5 (Pw.j0I)⟩,
  ⟨2,[.s (.one (.ol 0)),sI,.s (.one (.clo 90 [])),sI,.b (.lst 70 aV false)],[iT,iT,au],[⟨.exit 2,[.b (.lst 70 aV false)],[au]⟩],Pw.unc3 (Pw.j16)⟩,
  ⟨4,[.s (.one (.ol 0)),sI,.s (.one (.clo 90 [])),sI,sI,sI,.b (.lst 70 aV false)],[iT,iT,iT,iT,au],[⟨.exit 4,[.s (.one (.ol 0)),sI,.s (.one (.clo 90 [])),sI,sI,.b (.lst 70 aV false)],[iT,iT,iT,au]⟩],Pw.unc5 (Pw.j0J)⟩]
 modes:=[(235,[true,false,false,false]),(236,[true,false,false,false,false])]
 keep:=[(0,⟨[0,1,2,6,7,8],[0],[],[]⟩),
  (2,⟨[0,1,2,6],[0],[],[]⟩),
  (4,⟨[0,1,2,6,7,8],[0],[],[]⟩)]
 keepX:=[(0,.exit 0,⟨[0,1,2,6,7],[0],[],[]⟩),
  (2,.exit 2,⟨[],[0],[],[]⟩),
  (4,.exit 4,⟨[0,1,2,6,7],[0],[],[]⟩)]
theorem jau:Con.OK Tryz.prog Mt:=
 cOf aD aF jaL Mt Tryz.func161 (j9 j7W (j9 j9N trivial)) (j9 (λh=>by kernel_rfl) (j9 (λh=>by kernel_rfl) (j9 (λh=>by kernel_rfl) trivial)))
def Mu:Con:=⟨89,[.rl 70 au,.clo 90 []],[au],⟨[],[.rl au]⟩,[au],λh=>Pw.j0U h⟩
def j7e:FnD where
 N:=9
 np:=2
 cs:=[Mt]
 ds:=[]
 modes:=[(161,[true,false,false])]
theorem j6V:Con.OK Tryz.prog Mu:=
 cOf aD aF j7e Mu Tryz.func89 (j9 jau trivial) trivial
def K7:Con:=⟨31,[.v aT,.v iT,.v iT],[aT,iT,iT],⟨[.own 70 au,.v iT],[]⟩,[au,iT],Pw.unc3 Pw.j7o⟩
def jlg:FnD where
 N:=83
 np:=3
 cs:=[Dz,Gm,DE,Mp,Mu]
 ds:=[⟨1,[sI,sI,.s (.one (.bp 512 0)),.s (.one (.ol 1001000)),.s (.one (.d az)),sI,sI,.b (.cell [.d ar,.d ax,.d aw,.d az,.d cu] false),.b (.lst 36 aG false)],[iT,iT,az,iT,iT,ar,ax,aw,az,cu,qE],[⟨.ret,[.s (.one (.nil)),sI],[iT]⟩,⟨.exit 1,[.s (.one (.ol 1501200)),.b (.lst 36 aG false)],[qE]⟩],Pw.jsw (Pw.j3w)⟩,
  ⟨3,[.s (.one (.ol 1003000)),.s (.one (.ol 1003001)),sI,sI,.b (.lst 36 aG false),.b (.lst 70 aV false)],[iT,iT,qE,au],[⟨.exit 3,[.s (.one (.ol 1503400)),.b (.lst 70 aV false)],[au]⟩],Pw.unc4 (Pw.j3y)⟩,
  ⟨5,[.s (.one (.ol 1005000)),.s (.one (.ol 1005001)),sI,sI,sI,sI,.b (.lst 36 aG false),.b (.lst 70 aV false)],[iT,iT,iT,iT,qE,au],[⟨.exit 5,[.s (.one (.ol 1505600)),.s (.one (.ol 1505601)),sI,sI,.b (.lst 36 aG false),.b (.lst 70 aV false)],[iT,iT,qE,au]⟩],Pw.unc6 (Pw.j3x)⟩]
 modes:=[(76,[false,false,false,false]),(86,[false]),(87,[false,false]),(88,[false,false,false,false]),(89,[true,false])]
 keep:=[(1,⟨[1,2,8,10,31,32,33],[512],[⟨1001000,36,aG,[.slot 10],false⟩],[]⟩),
  (3,⟨[10,14,51,52],[],[⟨1003000,36,aG,[.slot 10],false⟩,⟨1003001,70,aV,[.slot 14],false⟩],[]⟩),
  (5,⟨[10,14,15,16,51,52],[],[⟨1005000,36,aG,[.slot 10],false⟩,⟨1005001,70,aV,[.slot 14],false⟩],[]⟩)]
 keepX:=[(1,.ret,⟨[6,7],[],[],[]⟩),
  (1,.exit 1,⟨[10],[],[⟨1501200,36,aG,[.slot 10],false⟩],[]⟩),
  (3,.exit 3,⟨[14],[],[⟨1503400,70,aV,[.slot 14],false⟩],[]⟩),
  (5,.exit 5,⟨[10,14,51,52],[],[⟨1505600,36,aG,[.slot 10],false⟩,⟨1505601,70,aV,[.slot 14],false⟩],[]⟩)]
 ro:=[true,false]
 dw:=[(22,[[],[],[],[],[],[],[],[],[],[],[],[4736],[4800,1005001],[]])]
theorem jjQ:Con.OK Tryz.prog K7:=
 cOf aD aF jlg K7 Tryz.func31 (j9 Lu (j9 Ul (j9 Md (j9 jlf (j9 j6V trivial))))) (j9 (λh=>by kernel_rfl) (j9 (λh=>by kernel_rfl) (j9 (λh=>by kernel_rfl) trivial)))
def Mv:Con:=⟨378,[.v (.int .u8)],[(.int .u8)],⟨[.v .bool],[]⟩,[.bool],λh=>Pw.jo6 h⟩
def juk:FnD where
 N:=9
 np:=1
 cs:=[]
 ds:=[]
 ro:=[false]
theorem jsW:Con.OK Tryz.prog Mv:=
 cOf aD aF juk Mv Tryz.func378 trivial trivial
def Mw:Con:=⟨334,[.v .str],[.str],⟨[.v .bool],[]⟩,[.bool],λh=>Pw.jng h⟩
def jwE:FnD where
 N:=57
 np:=1
 cs:=[Mv]
 ds:=[⟨0,[.s (.one (.d .str)),sI],[.str,iT],[⟨.ret,[.s (.one (.d .bool))],[.bool]⟩,⟨.exit 0,[],[]⟩],Pw.unc2 (Pw.j7p)⟩]
 modes:=[(378,[false])]
 keep:=[(0,⟨[0,3],[],[],[]⟩)]
 keepX:=[(0,.ret,⟨[2],[],[],[]⟩),
  (0,.exit 0,⟨[],[],[],[]⟩)]
 ro:=[false]
theorem jul:Con.OK Tryz.prog Mw:=
 cOf aD aF jwE Mw Tryz.func334 (j9 jsW trivial) (j9 (λh=>by kernel_rfl) trivial)
def Am:Con:=⟨283,[.v (.list .str),.v iT],[(.list .str),iT],⟨[.v iT],[]⟩,[iT],Pw.unc2 Pw.jcT⟩
def jwF:FnD where
 N:=26
 np:=2
 cs:=[Mw]
 ds:=[⟨0,[.s (.one (.d (.list .str))),sI,sI],[(.list .str),iT,iT],[⟨.ret,[sI],[iT]⟩,⟨.exit 0,[],[]⟩],Pw.unc3 (Pw.j7q)⟩]
 modes:=[(334,[false])]
 keep:=[(0,⟨[0,1,5],[],[],[]⟩)]
 keepX:=[(0,.ret,⟨[4],[],[],[]⟩),
  (0,.exit 0,⟨[],[],[],[]⟩)]
 ro:=[false]
theorem GF:Con.OK Tryz.prog Am:=
 cOf aD aF jwF Am Tryz.func283 (j9 jul trivial) (j9 (λh=>by kernel_rfl) trivial)
def xN:Con:=⟨196,[.v iT,.v iT,.v iT],[iT,iT,iT],⟨[.v .bool],[]⟩,[.bool],Pw.unc3 Pw.jb2⟩
def jAr:FnD where
 N:=15
 np:=3
 cs:=[]
 ds:=[]
 ro:=[false]
theorem DF:Con.OK Tryz.prog xN:=
 cOf aD aF jAr xN Tryz.func196 trivial trivial
def Mx:Con:=⟨197,[.v mo],[mo],⟨[.v .bool],[]⟩,[.bool],λh=>Pw.jhC h⟩
def jum:FnD where
 N:=38
 np:=1
 cs:=[xN]
 ds:=[]
 modes:=[(196,[false,false,false])]
 ro:=[false]
theorem jsX:Con.OK Tryz.prog Mx:=
 cOf aD aF jum Mx Tryz.func197 (j9 DF trivial) trivial
def My:Con:=⟨382,[.v iT],[iT],⟨[.v .bool],[]⟩,[.bool],λh=>Pw.j2n h⟩
def jwG:FnD where
 N:=16
 np:=1
 cs:=[]
 ds:=[]
 ro:=[false]
theorem jun:Con.OK Tryz.prog My:=
 cOf aD aF jwG My Tryz.func382 trivial trivial
def DG:Con:=⟨339,[.v iT,.v iT],[iT,iT],⟨[.v iT],[]⟩,[iT],Pw.unc2 Pw.jg1⟩
def jwH:FnD where
 N:=23
 np:=2
 cs:=[My]
 ds:=[]
 modes:=[(382,[false])]
 ro:=[false]
theorem Mz:Con.OK Tryz.prog DG:=
 cOf aD aF jwH DG Tryz.func339 (j9 jun trivial) trivial
def MA:Con:=⟨381,[.v aL],[aL],⟨[.v .bool],[]⟩,[.bool],λh=>Pw.jkD h⟩
def juo:FnD where
 N:=36
 np:=1
 cs:=[DG]
 ds:=[]
 modes:=[(339,[false,false])]
 ro:=[false]
theorem jsY:Con.OK Tryz.prog MA:=
 cOf aD aF juo MA Tryz.func381 (j9 Mz trivial) trivial
def GG:Con:=⟨335,[.v iT],[iT],⟨[.v iT],[]⟩,[iT],λh=>Pw.jkE h⟩
def jwI:FnD where
 N:=18
 np:=1
 cs:=[]
 ds:=[]
 ro:=[false]
theorem UF:Con.OK Tryz.prog GG:=
 cOf aD aF jwI GG Tryz.func335 trivial trivial
def MB:Con:=⟨338,[.v aL],[aL],⟨[.v iT,.v iT],[]⟩,[iT,iT],λh=>Pw.jqK h⟩
def jyy:FnD where
 N:=29
 np:=1
 cs:=[DG,MA,GG]
 ds:=[⟨0,[.s (.one (.bp 64 0)),sI,sI,.b (.cell [.d iT,.d iT,.d iT] false)],[iT,iT,iT,iT,iT],[⟨.exit 0,[.s (.one (.bp 64 0)),sI,.b (.cell [.d iT,.d iT,.d iT] false)],[iT,iT,iT,iT]⟩],Pw.unc5 (Pw.j8b)⟩]
 modes:=[(335,[false]),(339,[false,false]),(381,[false])]
 keep:=[(0,⟨[1,4,5],[64],[],[]⟩)]
 keepX:=[(0,.exit 0,⟨[1,4],[64],[],[]⟩)]
 ro:=[false,false]
theorem fH:Con.OK Tryz.prog MB:=
 cOf aD aF jyy MB Tryz.func338 (j9 Mz (j9 jsY (j9 UF trivial))) (j9 (λh=>by kernel_rfl) trivial)
def GH:Con:=⟨294,[.v iT],[iT],⟨[.v iT],[]⟩,[iT],λh=>Pw.jg2 h⟩
def jr9:FnD where
 N:=7
 np:=1
 cs:=[]
 ds:=[]
 ro:=[false]
theorem UG:Con.OK Tryz.prog GH:=
 cOf aD aF jr9 GH Tryz.func294 trivial trivial
def MC:Con:=⟨293,[.v iT,.v iT,.v iT,.v iT],[iT,iT,iT,iT],⟨[.v iT,.v iT],[]⟩,[iT,iT],Pw.unc4 Pw.jqL⟩
def jyz:FnD where
 N:=63
 np:=4
 cs:=[DG,MB,GH]
 ds:=[⟨0,[sI,sI,sI,sI,sI,sI],[iT,iT,iT,iT,iT,iT],[⟨.exit 0,[sI,sI,sI,sI,sI],[iT,iT,iT,iT,iT]⟩],Pw.unc6 (Pw.j8c)⟩,
  ⟨2,[sI,sI,sI,sI],[iT,iT,iT,iT],[⟨.exit 2,[sI],[iT]⟩],Pw.unc4 (Pw.j8d)⟩]
 modes:=[(294,[false]),(338,[false]),(339,[false,false])]
 keep:=[(0,⟨[0,1,2,3,10,12],[],[],[]⟩),
  (2,⟨[0,1,10,12],[],[],[]⟩)]
 keepX:=[(0,.exit 0,⟨[0,1,2,10,12],[],[],[]⟩),
  (2,.exit 2,⟨[12],[],[],[]⟩)]
 ro:=[false,false]
theorem fI:Con.OK Tryz.prog MC:=
 cOf aD aF jyz MC Tryz.func293 (j9 Mz (j9 fH (j9 UG trivial))) (j9 (λh=>by kernel_rfl) (j9 (λh=>by kernel_rfl) trivial))
end Go.Proofs.Pk
