/- bZ: each given function is its plain function, printed by a program. -/
import Derived.Test.YtaieocafhcjelaaGreatCCon7
noncomputable section
open Go Go.Lft
set_option linter.unusedVariables false
set_option maxRecDepth 100000
namespace Go.Proofs.Pk
def MD:Con:=⟨198,[.v bM],[bM],⟨[.own 262 aa],[]⟩,[aa],λh=>Pw.jad h⟩
def jma:FnD where
 N:=98
 np:=1
 cs:=[MC]
 ds:=[⟨0,[.s (.one (.d bM)),.s (.one (.ol 1000000)),sI,.b (.lst 262 aQ false)],[bM,iT,aa],[⟨.exit 0,[.s (.one (.ol 1500100)),.b (.lst 262 aQ false)],[aa]⟩],Pw.unc3 (Pw.j3X)⟩,
  ⟨2,[.s (.one (.d bM)),.s (.one (.ol 1002000)),sI,sI,.b (.lst 262 aQ false)],[bM,iT,iT,aa],[⟨.exit 2,[.s (.one (.d bM)),.s (.one (.ol 1502300)),sI,.b (.lst 262 aQ false)],[bM,iT,aa]⟩],Pw.unc4 (Pw.j3W)⟩,
  ⟨4,[.s (.one (.d bM)),.s (.one (.ol 1004000)),sI,sI,.s (.one (.bp 512 0)),sI,.b (.cell [.d iT,.d iT] false),.b (.lst 262 aQ false)],[bM,iT,iT,iT,iT,iT,aa],[⟨.exit 4,[.s (.one (.d bM)),.s (.one (.ol 1504500)),sI,sI,.s (.one (.bp 512 0)),sI,.b (.cell [.d iT,.d iT] false),.b (.lst 262 aQ false)],[bM,iT,iT,iT,iT,iT,aa]⟩],Pw.unc7 (Pw.j3V)⟩]
 modes:=[(293,[false,false,false,false])]
 keep:=[(0,⟨[0,3,4],[],[⟨1000000,262,aQ,[.slot 3],false⟩],[]⟩),
  (2,⟨[0,3,4,5],[],[⟨1002000,262,aQ,[.slot 3],false⟩],[]⟩),
  (4,⟨[0,3,4,5,8,9],[512],[⟨1004000,262,aQ,[.slot 3],false⟩],[]⟩)]
 keepX:=[(0,.exit 0,⟨[3],[],[⟨1500100,262,aQ,[.slot 3],false⟩],[]⟩),
  (2,.exit 2,⟨[0,3,4],[],[⟨1502300,262,aQ,[.slot 3],false⟩],[]⟩),
  (4,.exit 4,⟨[0,3,4,5,8,9],[512],[⟨1504500,262,aQ,[.slot 3],false⟩],[]⟩)]
 ro:=[true]
 dw:=[(9,[[],[],[],[],[],[],[],[],[],[],[],[],[],[],[512],[512]]),(14,[[],[],[],[],[],[],[],[5376]])]
theorem jlh:Con.OK Tryz.prog MD:=
 cOf aD aF jma MD Tryz.func198 (j9 fI trivial) (j9 (λh=>by kernel_rfl) (j9 (λh=>by kernel_rfl) (j9 (λh=>by kernel_rfl) trivial)))
def DH:Con:=⟨128,[.v bk],[bk],⟨[.own 186 aa,.v iT],[]⟩,[aa,iT],λh=>Pw.j25 h⟩
def jmb:FnD where
 N:=119
 np:=1
 cs:=[xN,Mx,MD]
 ds:=[⟨0,[.s (.one (.bp 64 0)),sI,sI,.b (.cell [.d .str,.d iT,.d bM] false)],[iT,iT,.str,iT,bM],[⟨.ret,[.s (.one (.nil)),sI],[iT]⟩,⟨.exit 0,[.s (.one (.bp 64 0)),sI,.b (.cell [.d .str,.d iT,.d bM] false)],[iT,.str,iT,bM]⟩],Pw.unc5 (Pw.j3Y)⟩,
  ⟨2,[.s (.one (.ol 1002000)),.s (.one (.ol 1002001)),sI,sI,.b (.lst 186 aQ false),.b (.lst 262 aQ false)],[iT,iT,aa,aa],[⟨.ret,[.s (.one (.nil)),sI],[iT]⟩,⟨.exit 2,[.s (.one (.ol 1502300)),.b (.lst 186 aQ false)],[aa]⟩],Pw.unc4 (Pw.j3Z)⟩]
 modes:=[(196,[false,false,false]),(197,[false]),(198,[false])]
 keep:=[(0,⟨[1,4,5],[64],[],[]⟩),
  (2,⟨[6,7,8,9],[],[⟨1002000,186,aQ,[.slot 6],false⟩,⟨1002001,262,aQ,[.slot 7],false⟩],[]⟩)]
 keepX:=[(0,.ret,⟨[2,3],[],[],[]⟩),
  (0,.exit 0,⟨[1,4],[64],[],[]⟩),
  (2,.ret,⟨[2,3],[],[],[]⟩),
  (2,.exit 2,⟨[6],[],[⟨1502300,186,aQ,[.slot 6],false⟩],[]⟩)]
 ro:=[true,false]
 dw:=[(21,[[],[],[],[],[],[],[],[],[],[],[],[],[],[640],[640]]),(24,[[],[],[7296],[7360,1002000],[],[],[],[]])]
theorem ME:Con.OK Tryz.prog DH:=
 cOf aD aF jmb DH Tryz.func128 (j9 DF (j9 jsX (j9 jlh trivial))) (j9 (λh=>by kernel_rfl) (j9 (λh=>by kernel_rfl) trivial))
def GI:Con:=⟨284,[.v bk],[bk],⟨[.v iT],[]⟩,[iT],λh=>Pw.j8e h⟩
def jup:FnD where
 N:=11
 np:=1
 cs:=[DH]
 ds:=[]
 modes:=[(128,[false])]
 ro:=[false]
theorem UH:Con.OK Tryz.prog GI:=
 cOf aD aF jup GI Tryz.func284 (j9 ME trivial) trivial
def MF:Con:=⟨285,[.v bk],[bk],⟨[.v .bool],[]⟩,[.bool],λh=>Pw.jds h⟩
def jra:FnD where
 N:=28
 np:=1
 cs:=[]
 ds:=[⟨0,[.s (.one (.bp 64 0)),.s (.one (.d .bool)),sI,.b (.cell [.d .str,.d iT,.d bM] false)],[.bool,iT,.str,iT,bM],[⟨.exit 0,[.s (.one (.d .bool))],[.bool]⟩],Pw.unc5 (Pw.j5y)⟩]
 keep:=[(0,⟨[1,3,4],[64],[],[]⟩)]
 keepX:=[(0,.exit 0,⟨[3],[],[],[]⟩)]
 ro:=[false]
theorem jpj:Con.OK Tryz.prog MF:=
 cOf aD aF jra MF Tryz.func285 trivial (j9 (λh=>by kernel_rfl) trivial)
def MG:Con:=⟨189,[.v aT],[aT],⟨[.v iT],[]⟩,[iT],λh=>Pw.jo7 h⟩
def juq:FnD where
 N:=44
 np:=1
 cs:=[Am,GI,MF]
 ds:=[⟨0,[.s (.one (.bp 64 0)),.s (.one (.ol 1000000)),sI,.b (.cell [.d ar,.d ax,.d aw,.d az] false),.b (.lst 9 .str false)],[iT,ar,ax,aw,az,(.list .str)],[⟨.ret,[sI],[iT]⟩,⟨.exit 0,[],[]⟩],Pw.unc6 (Pw.j6M)⟩]
 modes:=[(283,[false,false]),(284,[false]),(285,[false])]
 keep:=[(0,⟨[1,3,4],[64],[⟨1000000,9,.str,[.slot 3],false⟩],[]⟩)]
 keepX:=[(0,.ret,⟨[2],[],[],[]⟩),
  (0,.exit 0,⟨[],[],[],[]⟩)]
 ro:=[false]
theorem jsZ:Con.OK Tryz.prog MG:=
 cOf aD aF juq MG Tryz.func189 (j9 GF (j9 UH (j9 jpj trivial))) (j9 (λh=>by kernel_rfl) trivial)
def xO:Con:=⟨286,[.v iT,.v iT,.v iT],[iT,iT,iT],⟨[.v .bool],[]⟩,[.bool],Pw.unc3 Pw.j9k⟩
def jAs:FnD where
 N:=15
 np:=3
 cs:=[]
 ds:=[]
 ro:=[false]
theorem DI:Con.OK Tryz.prog xO:=
 cOf aD aF jAs xO Tryz.func286 trivial trivial
def DJ:Con:=⟨129,[.v aa],[aa],⟨[.v iT],[]⟩,[iT],λh=>Pw.jfv h⟩
def jur:FnD where
 N:=56
 np:=1
 cs:=[]
 ds:=[⟨0,[.s (.one (.d aa)),sI],[aa,iT],[⟨.ret,[sI],[iT]⟩,⟨.exit 0,[],[]⟩],Pw.unc2 (Pw.j6N)⟩]
 keep:=[(0,⟨[0,3],[],[],[]⟩)]
 keepX:=[(0,.ret,⟨[2],[],[],[]⟩),
  (0,.exit 0,⟨[],[],[],[]⟩)]
 ro:=[false]
theorem MH:Con.OK Tryz.prog DJ:=
 cOf aD aF jur DJ Tryz.func129 trivial (j9 (λh=>by kernel_rfl) trivial)
def MI:Con:=⟨287,[.v iT],[iT],⟨[.v .bool],[]⟩,[.bool],λh=>Pw.jkI h⟩
def jus:FnD where
 N:=10
 np:=1
 cs:=[xO]
 ds:=[]
 modes:=[(286,[false,false,false])]
 ro:=[false]
theorem jt0:Con.OK Tryz.prog MI:=
 cOf aD aF jus MI Tryz.func287 (j9 DI trivial) trivial
def MJ:Con:=⟨190,[.v aT],[aT],⟨[.v iT],[]⟩,[iT],λh=>Pw.jlV h⟩
def jt1:FnD where
 N:=58
 np:=1
 cs:=[Am,xO,DJ,MI]
 ds:=[⟨0,[.s (.one (.bp 64 0)),.s (.one (.ol 1000000)),sI,.b (.cell [.d ar,.d ax,.d aw,.d az] false),.b (.lst 9 .str false)],[iT,ar,ax,aw,az,(.list .str)],[⟨.ret,[sI],[iT]⟩,⟨.exit 0,[],[]⟩],Pw.unc6 (Pw.j63)⟩]
 modes:=[(129,[false]),(283,[false,false]),(286,[false,false,false]),(287,[false])]
 keep:=[(0,⟨[1,3,4],[64],[⟨1000000,9,.str,[.slot 3],false⟩],[]⟩)]
 keepX:=[(0,.ret,⟨[2],[],[],[]⟩),
  (0,.exit 0,⟨[],[],[],[]⟩)]
 ro:=[false]
theorem jrb:Con.OK Tryz.prog MJ:=
 cOf aD aF jt1 MJ Tryz.func190 (j9 GF (j9 DI (j9 MH (j9 jt0 trivial)))) (j9 (λh=>by kernel_rfl) trivial)
def DK:Con:=⟨288,[],[],⟨[.v iT],[]⟩,[iT],λh=>Pw.jd9⟩
def jt2:FnD where
 N:=3
 np:=0
 cs:=[GG]
 ds:=[]
 modes:=[(335,[false])]
 ro:=[false]
theorem MK:Con.OK Tryz.prog DK:=
 cOf aD aF jt2 DK Tryz.func288 (j9 UF trivial) trivial
def ML:Con:=⟨191,[.v aT],[aT],⟨[.v iT],[]⟩,[iT],λh=>Pw.jg3 h⟩
def jou:FnD where
 N:=78
 np:=1
 cs:=[Am,xO,DK]
 ds:=[⟨0,[.s (.one (.bp 64 0)),.s (.one (.ol 1000000)),sI,.b (.cell [.d ar,.d ax,.d aw,.d az] false),.b (.lst 9 .str false)],[iT,ar,ax,aw,az,(.list .str)],[⟨.ret,[sI],[iT]⟩,⟨.exit 0,[],[]⟩],Pw.unc6 (Pw.j4x)⟩,
  ⟨2,[.s (.one (.bp 64 0)),.s (.one (.ol 1002000)),sI,.s (.one (.bp 320 0)),sI,.b (.cell [.d ar,.d ax,.d aw,.d az] false),.b (.cell [.d .str,.d iT,.d (.list iT)] false),.b (.lst 9 .str false)],[iT,iT,ar,ax,aw,az,.str,iT,(.list iT),(.list .str)],[⟨.ret,[sI],[iT]⟩,⟨.exit 2,[.s (.one (.bp 64 0)),.s (.one (.ol 1502300)),sI,.s (.one (.bp 320 0)),.b (.cell [.d ar,.d ax,.d aw,.d az] false),.b (.cell [.d .str,.d iT,.d (.list iT)] false),.b (.lst 9 .str false)],[iT,ar,ax,aw,az,.str,iT,(.list iT),(.list .str)]⟩],Pw.jkB (Pw.j4w)⟩,
  ⟨4,[.s (.one (.bp 64 0)),.s (.one (.ol 1004000)),sI,.s (.one (.bp 320 0)),sI,.b (.cell [.d ar,.d ax,.d aw,.d az] false),.b (.cell [.d .str,.d iT,.d (.list iT)] false),.b (.lst 9 .str false)],[iT,iT,ar,ax,aw,az,.str,iT,(.list iT),(.list .str)],[⟨.ret,[sI],[iT]⟩,⟨.exit 4,[.s (.one (.bp 64 0)),.s (.one (.ol 1504500)),sI,.b (.cell [.d ar,.d ax,.d aw,.d az] false),.b (.lst 9 .str false)],[iT,ar,ax,aw,az,(.list .str)]⟩],Pw.jkB (Pw.j64)⟩]
 modes:=[(283,[false,false]),(286,[false,false,false]),(288,[])]
 keep:=[(0,⟨[1,3,4],[64],[⟨1000000,9,.str,[.slot 3],false⟩],[]⟩),
  (2,⟨[1,3,4,5,7],[64,320],[⟨1002000,9,.str,[.slot 3],false⟩],[]⟩),
  (4,⟨[1,3,4,5,8],[64,320],[⟨1004000,9,.str,[.slot 3],false⟩],[]⟩)]
 keepX:=[(0,.ret,⟨[2],[],[],[]⟩),
  (0,.exit 0,⟨[],[],[],[]⟩),
  (2,.ret,⟨[2],[],[],[]⟩),
  (2,.exit 2,⟨[1,3,4,5],[64,320],[⟨1502300,9,.str,[.slot 3],false⟩],[]⟩),
  (4,.ret,⟨[2],[],[],[]⟩),
  (4,.exit 4,⟨[1,3,4],[64],[⟨1504500,9,.str,[.slot 3],false⟩],[]⟩)]
 ro:=[false]
theorem jmV:Con.OK Tryz.prog ML:=
 cOf aD aF jou ML Tryz.func191 (j9 GF (j9 DI (j9 MK trivial))) (j9 (λh=>by kernel_rfl) (j9 (λh=>by kernel_rfl) (j9 (λh=>by kernel_rfl) trivial)))
def MM:Con:=⟨289,[.v aT,.v bI],[aT,bI],⟨[.v iT],[]⟩,[iT],Pw.unc2 Pw.jhG⟩
def jut:FnD where
 N:=102
 np:=2
 cs:=[xO,DJ,DK]
 ds:=[⟨1,[.s (.one (.bp 128 0)),.s (.one (.bp 192 0)),sI,.b (.cell [.d ar,.d ax,.d aw,.d az] false),.b (.cell [.d .str,.d iT,.d iT,.d iT,.d iT,.d iT,.d (.list iT),.d aa,.d iT,.d iT] false)],[iT,ar,ax,aw,az,.str,iT,iT,iT,iT,iT,(.list iT),aa,iT,iT],[⟨.ret,[sI],[iT]⟩,⟨.exit 1,[.s (.one (.bp 128 0)),.s (.one (.bp 192 0)),.b (.cell [.d ar,.d ax,.d aw,.d az] false),.b (.cell [.d .str,.d iT,.d iT,.d iT,.d iT,.d iT,.d (.list iT),.d aa,.d iT,.d iT] false)],[ar,ax,aw,az,.str,iT,iT,iT,iT,iT,(.list iT),aa,iT,iT]⟩],Pw.jAp (Pw.j6O)⟩]
 modes:=[(129,[false]),(286,[false,false,false]),(288,[])]
 keep:=[(1,⟨[2,3,5],[128,192],[],[]⟩)]
 keepX:=[(1,.ret,⟨[4],[],[],[]⟩),
  (1,.exit 1,⟨[2,3],[128,192],[],[]⟩)]
 ro:=[false]
theorem jt3:Con.OK Tryz.prog MM:=
 cOf aD aF jut MM Tryz.func289 (j9 DI (j9 MH (j9 MK trivial))) (j9 (λh=>by kernel_rfl) trivial)
def MN:Con:=⟨290,[.v aT,.v aV],[aT,aV],⟨[.v iT],[]⟩,[iT],Pw.unc2 Pw.jkJ⟩
def jwJ:FnD where
 N:=86
 np:=2
 cs:=[xO,DK]
 ds:=[]
 modes:=[(286,[false,false,false]),(288,[])]
 ro:=[false]
theorem juu:Con.OK Tryz.prog MN:=
 cOf aD aF jwJ MN Tryz.func290 (j9 DI (j9 MK trivial)) trivial
def MO:Con:=⟨192,[.v aT],[aT],⟨[.v iT],[]⟩,[iT],λh=>Pw.jg4 h⟩
def jov:FnD where
 N:=95
 np:=1
 cs:=[Am,MM,MN]
 ds:=[⟨0,[.s (.one (.bp 64 0)),.s (.one (.ol 1000000)),sI,.b (.cell [.d ar,.d ax,.d aw,.d az] false),.b (.lst 9 .str false)],[iT,ar,ax,aw,az,(.list .str)],[⟨.ret,[sI],[iT]⟩,⟨.exit 0,[],[]⟩],Pw.unc6 (Pw.j4A)⟩,
  ⟨2,[.s (.one (.bp 64 0)),.s (.one (.ol 1002000)),sI,.s (.one (.bp 320 0)),.s (.one (.ol 1002001)),sI,.b (.cell [.d ar,.d ax,.d aw,.d az] false),.b (.cell [.d .str,.d bn,.d au] false),.b (.lst 9 .str false),.b (.lst 9 .str false)],[iT,iT,ar,ax,aw,az,.str,bn,au,(.list .str),(.list .str)],[⟨.ret,[sI],[iT]⟩,⟨.exit 2,[.s (.one (.bp 64 0)),.s (.one (.ol 1502300)),sI,.s (.one (.bp 320 0)),.b (.cell [.d ar,.d ax,.d aw,.d az] false),.b (.cell [.d .str,.d bn,.d au] false),.b (.lst 9 .str false)],[iT,ar,ax,aw,az,.str,bn,au,(.list .str)]⟩],Pw.jsw (Pw.j4y)⟩,
  ⟨4,[.s (.one (.bp 64 0)),.s (.one (.ol 1004000)),sI,.s (.one (.bp 320 0)),sI,.b (.cell [.d ar,.d ax,.d aw,.d az] false),.b (.cell [.d .str,.d bn,.d au] false),.b (.lst 9 .str false)],[iT,iT,ar,ax,aw,az,.str,bn,au,(.list .str)],[⟨.ret,[sI],[iT]⟩,⟨.exit 4,[.s (.one (.bp 64 0)),.s (.one (.ol 1504500)),sI,.b (.cell [.d ar,.d ax,.d aw,.d az] false),.b (.lst 9 .str false)],[iT,ar,ax,aw,az,(.list .str)]⟩],Pw.jkB (Pw.j4z)⟩]
 modes:=[(283,[false,false]),(289,[false,false]),(290,[false,false])]
 keep:=[(0,⟨[1,3,4],[64],[⟨1000000,9,.str,[.slot 3],false⟩],[]⟩),
  (2,⟨[1,3,4,5,7,8],[64,320],[⟨1002000,9,.str,[.slot 3],false⟩,⟨1002001,9,.str,[.slot 7],false⟩],[]⟩),
  (4,⟨[1,3,4,5,11],[64,320],[⟨1004000,9,.str,[.slot 3],false⟩],[]⟩)]
 keepX:=[(0,.ret,⟨[2],[],[],[]⟩),
  (0,.exit 0,⟨[],[],[],[]⟩),
  (2,.ret,⟨[2],[],[],[]⟩),
  (2,.exit 2,⟨[1,3,4,5],[64,320],[⟨1502300,9,.str,[.slot 3],false⟩],[]⟩),
  (4,.ret,⟨[2],[],[],[]⟩),
  (4,.exit 4,⟨[1,3,4],[64],[⟨1504500,9,.str,[.slot 3],false⟩],[]⟩)]
 ro:=[false]
theorem jmW:Con.OK Tryz.prog MO:=
 cOf aD aF jov MO Tryz.func192 (j9 GF (j9 jt3 (j9 juu trivial))) (j9 (λh=>by kernel_rfl) (j9 (λh=>by kernel_rfl) (j9 (λh=>by kernel_rfl) trivial)))
def MP:Con:=⟨123,[.v aT],[aT],⟨[.v iT],[]⟩,[iT],λh=>Pw.jkK h⟩
def juv:FnD where
 N:=45
 np:=1
 cs:=[MG,MJ,ML,MO]
 ds:=[]
 modes:=[(189,[false]),(190,[false]),(191,[false]),(192,[false])]
 ro:=[false]
theorem jt4:Con.OK Tryz.prog MP:=
 cOf aD aF juv MP Tryz.func123 (j9 jsZ (j9 jrb (j9 jmV (j9 jmW trivial)))) trivial
def MQ:Con:=⟨102,[.v aT,.v iT,.v iT],[aT,iT,iT],⟨[.v .bool],[]⟩,[.bool],Pw.unc3 Pw.jyu⟩
def jAt:FnD where
 N:=29
 np:=3
 cs:=[MP]
 ds:=[]
 modes:=[(123,[false])]
 ro:=[false]
theorem jyA:Con.OK Tryz.prog MQ:=
 cOf aD aF jAt MQ Tryz.func102 (j9 jt4 trivial) trivial
def MR:Con:=⟨310,[.v bk,.v bI],[bk,bI],⟨[.v iT],[]⟩,[iT],Pw.unc2 Pw.jhH⟩
def juw:FnD where
 N:=58
 np:=2
 cs:=[GI]
 ds:=[]
 modes:=[(284,[false])]
 ro:=[false]
theorem jt5:Con.OK Tryz.prog MR:=
 cOf aD aF juw MR Tryz.func310 (j9 UH trivial) trivial
def MS:Con:=⟨392,[.v iT],[iT],⟨[.v .bool],[]⟩,[.bool],λh=>Pw.jhI h⟩
def jux:FnD where
 N:=5
 np:=1
 cs:=[xN]
 ds:=[]
 modes:=[(196,[false,false,false])]
 ro:=[false]
theorem jt6:Con.OK Tryz.prog MS:=
 cOf aD aF jux MS Tryz.func392 (j9 DF trivial) trivial
def GJ:Con:=⟨362,[.v bk,.v aQ],[bk,aQ],⟨[.v iT,.v iT],[]⟩,[iT,iT],Pw.unc2 Pw.j66⟩
def juy:FnD where
 N:=76
 np:=2
 cs:=[xN,DH,MS]
 ds:=[⟨0,[.s (.one (.bp 128 0)),.s (.one (.bp 192 0)),.s (.one (.ol 1000000)),sI,.b (.cell [.d .str,.d iT,.d bM] false),.b (.cell [.d iT,.d iT] false),.b (.lst 186 aQ false)],[iT,.str,iT,bM,iT,iT,aa],[⟨.ret,[sI,sI],[iT,iT]⟩,⟨.exit 0,[],[]⟩],Pw.unc7 (Pw.j5o)⟩]
 modes:=[(128,[false]),(196,[false,false,false]),(392,[false])]
 keep:=[(0,⟨[2,3,6,8],[128,192],[⟨1000000,186,aQ,[.slot 6],false⟩],[]⟩)]
 keepX:=[(0,.ret,⟨[4,5],[],[],[]⟩),
  (0,.exit 0,⟨[],[],[],[]⟩)]
 ro:=[false,false]
theorem UI:Con.OK Tryz.prog GJ:=
 cOf aD aF juy GJ Tryz.func362 (j9 DF (j9 ME (j9 jt6 trivial))) (j9 (λh=>by kernel_rfl) trivial)
def MT:Con:=⟨364,[.v bk,.v aa,.v iT],[bk,aa,iT],⟨[.v iT],[]⟩,[iT],Pw.unc3 Pw.jiz⟩
def jt7:FnD where
 N:=32
 np:=3
 cs:=[]
 ds:=[⟨0,[.s (.one (.d aa)),sI,sI,sI],[aa,iT,iT,iT],[⟨.exit 0,[sI],[iT]⟩],Pw.unc4 (Pw.j67)⟩]
 keep:=[(0,⟨[1,2,7,8],[],[],[]⟩)]
 keepX:=[(0,.exit 0,⟨[7],[],[],[]⟩)]
 ro:=[false]
theorem jrc:Con.OK Tryz.prog MT:=
 cOf aD aF jt7 MT Tryz.func364 trivial (j9 (λh=>by kernel_rfl) trivial)
end Go.Proofs.Pk
