/- cC: each given function is its plain function, printed by a program. -/
import Derived.Test.YtpbnnhakjhalaaaGreatLWCon1
noncomputable section
open Go Go.Lft
set_option linter.unusedVariables false
set_option maxRecDepth 100000
namespace Go.Proofs.Pk
def KB:Con:=⟨184,[.v bc],[bc],⟨[.v iT],[]⟩,[iT],λh=>Pw.jjA h⟩
def jpO:FnD where
 N:=44
 np:=1
 cs:=[yC,Kz,KA]
 ds:=[⟨0,[.s (.one (.bp 64 0)),.s (.one (.ol 1000000)),sI,.b (.cell [.d ay,.d aC,.d aB,.d aK] false),.b (.lst 9 .str false)],[iT,ay,aC,aB,aK,(.list .str)],[⟨.ret,[sI],[iT]⟩,⟨.exit 0,[],[]⟩],Pw.unc6 (Pw.j4V)⟩]
 modes:=[(276,[false,false]),(277,[false]),(278,[false])]
 keep:=[(0,⟨[1,3,4],[64],[⟨1000000,9,.str,[.slot 3],false⟩],[]⟩)]
 keepX:=[(0,.ret,⟨[2],[],[],[]⟩),
  (0,.exit 0,⟨[],[],[],[]⟩)]
 ro:=[false]
theorem joh:Con.OK Tryz.prog KB:=
 cOf aF aG jpO KB Tryz.func184 (j9 FI (j9 jog (j9 jkp trivial))) (j9 (λh=>by kernel_rfl) trivial)
def wX:Con:=⟨279,[.v iT,.v iT,.v iT],[iT,iT,iT],⟨[.v .bool],[]⟩,[.bool],Pw.unc3 Pw.j7b⟩
def jvC:FnD where
 N:=15
 np:=3
 cs:=[]
 ds:=[]
 ro:=[false]
theorem CF:Con.OK Tryz.prog wX:=
 cOf aF aG jvC wX Tryz.func279 trivial trivial
def FL:Con:=⟨108,[.v aa],[aa],⟨[.v iT],[]⟩,[iT],λh=>Pw.jee h⟩
def jpP:FnD where
 N:=56
 np:=1
 cs:=[]
 ds:=[⟨0,[.s (.one (.d aa)),sI],[aa,iT],[⟨.ret,[sI],[iT]⟩,⟨.exit 0,[],[]⟩],Pw.unc2 (Pw.j4W)⟩]
 keep:=[(0,⟨[0,3],[],[],[]⟩)]
 keepX:=[(0,.ret,⟨[2],[],[],[]⟩),
  (0,.exit 0,⟨[],[],[],[]⟩)]
 ro:=[false]
theorem Tg:Con.OK Tryz.prog FL:=
 cOf aF aG jpP FL Tryz.func108 trivial (j9 (λh=>by kernel_rfl) trivial)
def KC:Con:=⟨280,[.v iT],[iT],⟨[.v .bool],[]⟩,[.bool],λh=>Pw.jgw h⟩
def jpQ:FnD where
 N:=10
 np:=1
 cs:=[wX]
 ds:=[]
 modes:=[(279,[false,false,false])]
 ro:=[false]
theorem joi:Con.OK Tryz.prog KC:=
 cOf aF aG jpQ KC Tryz.func280 (j9 CF trivial) trivial
def KD:Con:=⟨185,[.v bc],[bc],⟨[.v iT],[]⟩,[iT],λh=>Pw.jhr h⟩
def joj:FnD where
 N:=58
 np:=1
 cs:=[yC,wX,FL,KC]
 ds:=[⟨0,[.s (.one (.bp 64 0)),.s (.one (.ol 1000000)),sI,.b (.cell [.d ay,.d aC,.d aB,.d aK] false),.b (.lst 9 .str false)],[iT,ay,aC,aB,aK,(.list .str)],[⟨.ret,[sI],[iT]⟩,⟨.exit 0,[],[]⟩],Pw.unc6 (Pw.j4f)⟩]
 modes:=[(108,[false]),(276,[false,false]),(279,[false,false,false]),(280,[false])]
 keep:=[(0,⟨[1,3,4],[64],[⟨1000000,9,.str,[.slot 3],false⟩],[]⟩)]
 keepX:=[(0,.ret,⟨[2],[],[],[]⟩),
  (0,.exit 0,⟨[],[],[],[]⟩)]
 ro:=[false]
theorem jms:Con.OK Tryz.prog KD:=
 cOf aF aG joj KD Tryz.func185 (j9 FI (j9 CF (j9 Tg (j9 joi trivial)))) (j9 (λh=>by kernel_rfl) trivial)
def CG:Con:=⟨281,[],[],⟨[.v iT],[]⟩,[iT],λh=>Pw.jah⟩
def jok:FnD where
 N:=3
 np:=0
 cs:=[FK]
 ds:=[]
 modes:=[(335,[false])]
 ro:=[false]
theorem KE:Con.OK Tryz.prog CG:=
 cOf aF aG jok CG Tryz.func281 (j9 Tf trivial) trivial
def KF:Con:=⟨186,[.v bc],[bc],⟨[.v iT],[]⟩,[iT],λh=>Pw.jcP h⟩
def jjF:FnD where
 N:=78
 np:=1
 cs:=[yC,wX,CG]
 ds:=[⟨0,[.s (.one (.bp 64 0)),.s (.one (.ol 1000000)),sI,.b (.cell [.d ay,.d aC,.d aB,.d aK] false),.b (.lst 9 .str false)],[iT,ay,aC,aB,aK,(.list .str)],[⟨.ret,[sI],[iT]⟩,⟨.exit 0,[],[]⟩],Pw.unc6 (Pw.j2N)⟩,
  ⟨2,[.s (.one (.bp 64 0)),.s (.one (.ol 1002000)),sI,.s (.one (.bp 320 0)),sI,.b (.cell [.d ay,.d aC,.d aB,.d aK] false),.b (.cell [.d .str,.d iT,.d (.list iT)] false),.b (.lst 9 .str false)],[iT,iT,ay,aC,aB,aK,.str,iT,(.list iT),(.list .str)],[⟨.ret,[sI],[iT]⟩,⟨.exit 2,[.s (.one (.bp 64 0)),.s (.one (.ol 1502300)),sI,.s (.one (.bp 320 0)),.b (.cell [.d ay,.d aC,.d aB,.d aK] false),.b (.cell [.d .str,.d iT,.d (.list iT)] false),.b (.lst 9 .str false)],[iT,ay,aC,aB,aK,.str,iT,(.list iT),(.list .str)]⟩],Pw.jkk (Pw.j2M)⟩,
  ⟨4,[.s (.one (.bp 64 0)),.s (.one (.ol 1004000)),sI,.s (.one (.bp 320 0)),sI,.b (.cell [.d ay,.d aC,.d aB,.d aK] false),.b (.cell [.d .str,.d iT,.d (.list iT)] false),.b (.lst 9 .str false)],[iT,iT,ay,aC,aB,aK,.str,iT,(.list iT),(.list .str)],[⟨.ret,[sI],[iT]⟩,⟨.exit 4,[.s (.one (.bp 64 0)),.s (.one (.ol 1504500)),sI,.b (.cell [.d ay,.d aC,.d aB,.d aK] false),.b (.lst 9 .str false)],[iT,ay,aC,aB,aK,(.list .str)]⟩],Pw.jkk (Pw.j4g)⟩]
 modes:=[(276,[false,false]),(279,[false,false,false]),(281,[])]
 keep:=[(0,⟨[1,3,4],[64],[⟨1000000,9,.str,[.slot 3],false⟩],[]⟩),
  (2,⟨[1,3,4,5,7],[64,320],[⟨1002000,9,.str,[.slot 3],false⟩],[]⟩),
  (4,⟨[1,3,4,5,8],[64,320],[⟨1004000,9,.str,[.slot 3],false⟩],[]⟩)]
 keepX:=[(0,.ret,⟨[2],[],[],[]⟩),
  (0,.exit 0,⟨[],[],[],[]⟩),
  (2,.ret,⟨[2],[],[],[]⟩),
  (2,.exit 2,⟨[1,3,4,5],[64,320],[⟨1502300,9,.str,[.slot 3],false⟩],[]⟩),
  (4,.ret,⟨[2],[],[],[]⟩),
  (4,.exit 4,⟨[1,3,4],[64],[⟨1504500,9,.str,[.slot 3],false⟩],[]⟩)]
 ro:=[false]
theorem jif:Con.OK Tryz.prog KF:=
 cOf aF aG jjF KF Tryz.func186 (j9 FI (j9 CF (j9 KE trivial))) (j9 (λh=>by kernel_rfl) (j9 (λh=>by kernel_rfl) (j9 (λh=>by kernel_rfl) trivial)))
def KG:Con:=⟨282,[.v bc,.v cA],[bc,cA],⟨[.v iT],[]⟩,[iT],Pw.unc2 Pw.jeg⟩
def jpR:FnD where
 N:=102
 np:=2
 cs:=[wX,FL,CG]
 ds:=[⟨1,[.s (.one (.bp 128 0)),.s (.one (.bp 192 0)),sI,.b (.cell [.d ay,.d aC,.d aB,.d aK] false),.b (.cell [.d .str,.d iT,.d iT,.d iT,.d iT,.d iT,.d (.list iT),.d aa,.d iT,.d iT] false)],[iT,ay,aC,aB,aK,.str,iT,iT,iT,iT,iT,(.list iT),aa,iT,iT],[⟨.ret,[sI],[iT]⟩,⟨.exit 1,[.s (.one (.bp 128 0)),.s (.one (.bp 192 0)),.b (.cell [.d ay,.d aC,.d aB,.d aK] false),.b (.cell [.d .str,.d iT,.d iT,.d iT,.d iT,.d iT,.d (.list iT),.d aa,.d iT,.d iT] false)],[ay,aC,aB,aK,.str,iT,iT,iT,iT,iT,(.list iT),aa,iT,iT]⟩],Pw.jyn (Pw.j4X)⟩]
 modes:=[(108,[false]),(279,[false,false,false]),(281,[])]
 keep:=[(1,⟨[2,3,5],[128,192],[],[]⟩)]
 keepX:=[(1,.ret,⟨[4],[],[],[]⟩),
  (1,.exit 1,⟨[2,3],[128,192],[],[]⟩)]
 ro:=[false]
theorem jol:Con.OK Tryz.prog KG:=
 cOf aF aG jpR KG Tryz.func282 (j9 CF (j9 Tg (j9 KE trivial))) (j9 (λh=>by kernel_rfl) trivial)
def KH:Con:=⟨283,[.v bc,.v fm],[bc,fm],⟨[.v iT],[]⟩,[iT],Pw.unc2 Pw.jgx⟩
def jrV:FnD where
 N:=86
 np:=2
 cs:=[wX,CG]
 ds:=[]
 modes:=[(279,[false,false,false]),(281,[])]
 ro:=[false]
theorem jpS:Con.OK Tryz.prog KH:=
 cOf aF aG jrV KH Tryz.func283 (j9 CF (j9 KE trivial)) trivial
def KI:Con:=⟨187,[.v bc],[bc],⟨[.v iT],[]⟩,[iT],λh=>Pw.jcQ h⟩
def jjG:FnD where
 N:=95
 np:=1
 cs:=[yC,KG,KH]
 ds:=[⟨0,[.s (.one (.bp 64 0)),.s (.one (.ol 1000000)),sI,.b (.cell [.d ay,.d aC,.d aB,.d aK] false),.b (.lst 9 .str false)],[iT,ay,aC,aB,aK,(.list .str)],[⟨.ret,[sI],[iT]⟩,⟨.exit 0,[],[]⟩],Pw.unc6 (Pw.j2Q)⟩,
  ⟨2,[.s (.one (.bp 64 0)),.s (.one (.ol 1002000)),sI,.s (.one (.bp 320 0)),.s (.one (.ol 1002001)),sI,.b (.cell [.d ay,.d aC,.d aB,.d aK] false),.b (.cell [.d .str,.d bO,.d bN] false),.b (.lst 9 .str false),.b (.lst 9 .str false)],[iT,iT,ay,aC,aB,aK,.str,bO,bN,(.list .str),(.list .str)],[⟨.ret,[sI],[iT]⟩,⟨.exit 2,[.s (.one (.bp 64 0)),.s (.one (.ol 1502300)),sI,.s (.one (.bp 320 0)),.b (.cell [.d ay,.d aC,.d aB,.d aK] false),.b (.cell [.d .str,.d bO,.d bN] false),.b (.lst 9 .str false)],[iT,ay,aC,aB,aK,.str,bO,bN,(.list .str)]⟩],Pw.jrO (Pw.j2O)⟩,
  ⟨4,[.s (.one (.bp 64 0)),.s (.one (.ol 1004000)),sI,.s (.one (.bp 320 0)),sI,.b (.cell [.d ay,.d aC,.d aB,.d aK] false),.b (.cell [.d .str,.d bO,.d bN] false),.b (.lst 9 .str false)],[iT,iT,ay,aC,aB,aK,.str,bO,bN,(.list .str)],[⟨.ret,[sI],[iT]⟩,⟨.exit 4,[.s (.one (.bp 64 0)),.s (.one (.ol 1504500)),sI,.b (.cell [.d ay,.d aC,.d aB,.d aK] false),.b (.lst 9 .str false)],[iT,ay,aC,aB,aK,(.list .str)]⟩],Pw.jkk (Pw.j2P)⟩]
 modes:=[(276,[false,false]),(282,[false,false]),(283,[false,false])]
 keep:=[(0,⟨[1,3,4],[64],[⟨1000000,9,.str,[.slot 3],false⟩],[]⟩),
  (2,⟨[1,3,4,5,7,8],[64,320],[⟨1002000,9,.str,[.slot 3],false⟩,⟨1002001,9,.str,[.slot 7],false⟩],[]⟩),
  (4,⟨[1,3,4,5,11],[64,320],[⟨1004000,9,.str,[.slot 3],false⟩],[]⟩)]
 keepX:=[(0,.ret,⟨[2],[],[],[]⟩),
  (0,.exit 0,⟨[],[],[],[]⟩),
  (2,.ret,⟨[2],[],[],[]⟩),
  (2,.exit 2,⟨[1,3,4,5],[64,320],[⟨1502300,9,.str,[.slot 3],false⟩],[]⟩),
  (4,.ret,⟨[2],[],[],[]⟩),
  (4,.exit 4,⟨[1,3,4],[64],[⟨1504500,9,.str,[.slot 3],false⟩],[]⟩)]
 ro:=[false]
theorem jig:Con.OK Tryz.prog KI:=
 cOf aF aG jjG KI Tryz.func187 (j9 FI (j9 jol (j9 jpS trivial))) (j9 (λh=>by kernel_rfl) (j9 (λh=>by kernel_rfl) (j9 (λh=>by kernel_rfl) trivial)))
def KJ:Con:=⟨102,[.v bc],[bc],⟨[.v iT],[]⟩,[iT],λh=>Pw.jaw h⟩
def jpT:FnD where
 N:=45
 np:=1
 cs:=[KB,KD,KF,KI]
 ds:=[]
 modes:=[(184,[false]),(185,[false]),(186,[false]),(187,[false])]
 ro:=[false]
theorem jom:Con.OK Tryz.prog KJ:=
 cOf aF aG jpT KJ Tryz.func102 (j9 joh (j9 jms (j9 jif (j9 jig trivial)))) trivial
def KK:Con:=⟨125,[.v bc,.v iT,.v bN],[bc,iT,bN],⟨[.v bc],[]⟩,[bc],Pw.unc3 Pw.jmj⟩
def jrW:FnD where
 N:=19
 np:=3
 cs:=[]
 ds:=[]
 ro:=[false]
theorem jpU:Con.OK Tryz.prog KK:=
 cOf aF aG jrW KK Tryz.func125 trivial trivial
def KL:Con:=⟨50,[.v bc,.v iT,.v fm],[bc,iT,fm],⟨[.v bc,.v iT],[]⟩,[bc,iT],Pw.unc3 Pw.jeh⟩
def jpV:FnD where
 N:=48
 np:=3
 cs:=[KJ,KK]
 ds:=[]
 modes:=[(102,[false]),(125,[false,false,false])]
 ro:=[false,false]
 dw:=[(5,[[],[],[],[],[],[],[2112],[],[2240],[2112,2304],[]])]
theorem jon:Con.OK Tryz.prog KL:=
 cOf aF aG jpV KL Tryz.func50 (j9 jom (j9 jpU trivial)) trivial
def KM:Con:=⟨150,[.v bS],[bS],⟨[.v .str],[]⟩,[.str],λh=>Pw.j9v h⟩
def jgL:FnD where
 N:=5
 np:=1
 cs:=[]
 ds:=[]
 ro:=[false]
theorem jfJ:Con.OK Tryz.prog KM:=
 cOf aF aG jgL KM Tryz.func150 trivial trivial
def KN:Con:=⟨306,[.v (.int .u8)],[(.int .u8)],⟨[.v .bool],[]⟩,[.bool],λh=>Pw.jax h⟩
def jmt:FnD where
 N:=9
 np:=1
 cs:=[]
 ds:=[]
 ro:=[false]
theorem jkq:Con.OK Tryz.prog KN:=
 cOf aF aG jmt KN Tryz.func306 trivial trivial
def KO:Con:=⟨307,[.v (.int .u8)],[(.int .u8)],⟨[.v .bool],[]⟩,[.bool],λh=>Pw.jfw h⟩
def jmu:FnD where
 N:=9
 np:=1
 cs:=[]
 ds:=[]
 ro:=[false]
theorem jkr:Con.OK Tryz.prog KO:=
 cOf aF aG jmu KO Tryz.func307 trivial trivial
def KP:Con:=⟨226,[.v .str],[.str],⟨[.v .bool],[]⟩,[.bool],λh=>Pw.j4Y h⟩
def joo:FnD where
 N:=43
 np:=1
 cs:=[KN,KO]
 ds:=[⟨0,[.s (.one (.d .str)),sI,sI],[.str,iT,iT],[⟨.ret,[.s (.one (.d .bool))],[.bool]⟩,⟨.exit 0,[],[]⟩],Pw.unc3 (Pw.j64)⟩]
 modes:=[(306,[false]),(307,[false])]
 keep:=[(0,⟨[0,19,20],[],[],[]⟩)]
 keepX:=[(0,.ret,⟨[2],[],[],[]⟩),
  (0,.exit 0,⟨[],[],[],[]⟩)]
 ro:=[false]
theorem jmv:Con.OK Tryz.prog KP:=
 cOf aF aG joo KP Tryz.func226 (j9 jkq (j9 jkr trivial)) (j9 (λh=>by kernel_rfl) trivial)
def wY:Con:=⟨152,[.v .str,.rl 4294967512 (.list (.pair .str .bool))],[.str,(.list (.pair .str .bool))],⟨[.v iT],[.rl (.list (.pair .str .bool))]⟩,[iT,(.list (.pair .str .bool))],Pw.unc2 Pw.j5i⟩
def jks:FnD where
 N:=13
 np:=2
 cs:=[KP]
 ds:=[]
 modes:=[(226,[false])]
 ro:=[false]
theorem CH:Con.OK Tryz.prog wY:=
 cOf aF aG jks wY Tryz.func152 (j9 jmv trivial) trivial
def CI:Con:=⟨293,[.v iT,.v iT,.v iT],[iT,iT,iT],⟨[.v .bool],[]⟩,[.bool],Pw.unc3 Pw.j9w⟩
def jtJ:FnD where
 N:=15
 np:=3
 cs:=[]
 ds:=[]
 ro:=[false]
theorem KQ:Con.OK Tryz.prog CI:=
 cOf aF aG jtJ CI Tryz.func293 trivial trivial
def KR:Con:=⟨339,[.v mI],[mI],⟨[.v iT],[]⟩,[iT],λh=>Pw.jei h⟩
def jpW:FnD where
 N:=45
 np:=1
 cs:=[CI]
 ds:=[]
 modes:=[(293,[false,false,false])]
 ro:=[false]
theorem jop:Con.OK Tryz.prog KR:=
 cOf aF aG jpW KR Tryz.func339 (j9 KQ trivial) trivial
end Go.Proofs.Pk
