/- Contracts: each given function is its plain function, printed by a program. -/
import Derived.Test.YtpbnnhakjhalaaaGreatECCon5
noncomputable section
open Go Go.Lft
set_option linter.unusedVariables false
set_option maxRecDepth 100000
namespace Go.Proofs.Pk
def jc0:Con:=⟨386,[.v (.int .u8)],[(.int .u8)],⟨[.v .bool],[]⟩,[.bool],fun h=>Pw.jii h⟩
def jnv:FnD where
 N:=9
 np:=1
 cs:=[]
 ds:=[]
 ro:=[false]
theorem jmn:Con.OK Tryz.prog jc0:=
 cOf j0f j02 jnv jc0 Tryz.func386 trivial trivial
def jdh:Con:=⟨334,[.v .str],[.str],⟨[.v .bool],[]⟩,[.bool],fun h=>Pw.jho h⟩
def jpk:FnD where
 N:=57
 np:=1
 cs:=[jc0]
 ds:=[⟨0,[.s (.one (.d .str)),sI],[.str,iT],[⟨.ret,[.s (.one (.d .bool))],[.bool]⟩,⟨.exit 0,[],[]⟩],Pw.unc2 (Pw.j4J)⟩]
 modes:=[(386,[false])]
 keep:=[(0,⟨[0,3],[],[],[]⟩)]
 keepX:=[(0,.ret,⟨[2],[],[],[]⟩),
  (0,.exit 0,⟨[],[],[],[]⟩)]
 ro:=[false]
theorem jnw:Con.OK Tryz.prog jdh:=
 cOf j0f j02 jpk jdh Tryz.func334 (j8 jmn trivial) (j8 (fun h=>by kernel_rfl) trivial)
def j6S:Con:=⟨276,[.v (.list .str),.v iT],[(.list .str),iT],⟨[.v iT],[]⟩,[iT],Pw.unc2 Pw.j99⟩
def jpl:FnD where
 N:=26
 np:=2
 cs:=[jdh]
 ds:=[⟨0,[.s (.one (.d (.list .str))),sI,sI],[(.list .str),iT,iT],[⟨.ret,[sI],[iT]⟩,⟨.exit 0,[],[]⟩],Pw.unc3 (Pw.j4K)⟩]
 modes:=[(334,[false])]
 keep:=[(0,⟨[0,1,5],[],[],[]⟩)]
 keepX:=[(0,.ret,⟨[4],[],[],[]⟩),
  (0,.exit 0,⟨[],[],[],[]⟩)]
 ro:=[false]
theorem jc1:Con.OK Tryz.prog j6S:=
 cOf j0f j02 jpl j6S Tryz.func276 (j8 jnw trivial) (j8 (fun h=>by kernel_rfl) trivial)
def jdH:Con:=⟨191,[.v iT,.v iT,.v iT],[iT,iT,iT],⟨[.v .bool],[]⟩,[.bool],Pw.unc3 Pw.jbe⟩
def jsd:FnD where
 N:=15
 np:=3
 cs:=[]
 ds:=[]
 ro:=[false]
theorem jmo:Con.OK Tryz.prog jdH:=
 cOf j0f j02 jsd jdH Tryz.func191 trivial trivial
def jc2:Con:=⟨192,[.v ty55],[ty55],⟨[.v .bool],[]⟩,[.bool],fun h=>Pw.jd4 h⟩
def jnx:FnD where
 N:=38
 np:=1
 cs:=[jdH]
 ds:=[]
 modes:=[(191,[false,false,false])]
 ro:=[false]
theorem jmp:Con.OK Tryz.prog jc2:=
 cOf j0f j02 jnx jc2 Tryz.func192 (j8 jmo trivial) trivial
def jdi:Con:=⟨390,[.v iT],[iT],⟨[.v .bool],[]⟩,[.bool],fun h=>Pw.j1j h⟩
def jpm:FnD where
 N:=16
 np:=1
 cs:=[]
 ds:=[]
 ro:=[false]
theorem jny:Con.OK Tryz.prog jdi:=
 cOf j0f j02 jpm jdi Tryz.func390 trivial trivial
def j8t:Con:=⟨338,[.v iT,.v iT],[iT,iT],⟨[.v iT],[]⟩,[iT],Pw.unc2 Pw.jbK⟩
def jpn:FnD where
 N:=23
 np:=2
 cs:=[jdi]
 ds:=[]
 modes:=[(390,[false])]
 ro:=[false]
theorem jeM:Con.OK Tryz.prog j8t:=
 cOf j0f j02 jpn j8t Tryz.func338 (j8 jny trivial) trivial
def jc3:Con:=⟨389,[.v ty21],[ty21],⟨[.v .bool],[]⟩,[.bool],fun h=>Pw.jfr h⟩
def jnz:FnD where
 N:=36
 np:=1
 cs:=[j8t]
 ds:=[]
 modes:=[(338,[false,false])]
 ro:=[false]
theorem jmq:Con.OK Tryz.prog jc3:=
 cOf j0f j02 jnz jc3 Tryz.func389 (j8 jeM trivial) trivial
def jau:Con:=⟨335,[.v iT],[iT],⟨[.v iT],[]⟩,[iT],fun h=>Pw.jfs h⟩
def jpo:FnD where
 N:=18
 np:=1
 cs:=[]
 ds:=[]
 ro:=[false]
theorem jiy:Con.OK Tryz.prog jau:=
 cOf j0f j02 jpo jau Tryz.func335 trivial trivial
def jeN:Con:=⟨337,[.v ty21],[ty21],⟨[.v iT,.v iT],[]⟩,[iT,iT],fun h=>Pw.jkx h⟩
def jr0:FnD where
 N:=29
 np:=1
 cs:=[j8t,jc3,jau]
 ds:=[⟨0,[.s (.one (.bp 64 0)),sI,sI,.b (.cell [.d iT,.d iT,.d iT] false)],[iT,iT,iT,iT,iT],[⟨.exit 0,[.s (.one (.bp 64 0)),sI,.b (.cell [.d iT,.d iT,.d iT] false)],[iT,iT,iT,iT]⟩],Pw.unc5 (Pw.j5w)⟩]
 modes:=[(335,[false]),(338,[false,false]),(389,[false])]
 keep:=[(0,⟨[1,4,5],[64],[],[]⟩)]
 keepX:=[(0,.exit 0,⟨[1,4],[64],[],[]⟩)]
 ro:=[false,false]
theorem r01_Day_ok:Con.OK Tryz.prog jeN:=
 cOf j0f j02 jr0 jeN Tryz.func337 (j8 jeM (j8 jmq (j8 jiy trivial))) (j8 (fun h=>by kernel_rfl) trivial)
def ja0:Con:=⟨287,[.v iT],[iT],⟨[.v iT],[]⟩,[iT],fun h=>Pw.jeq h⟩
def jkW:FnD where
 N:=7
 np:=1
 cs:=[]
 ds:=[]
 ro:=[false]
theorem jjc:Con.OK Tryz.prog ja0:=
 cOf j0f j02 jkW ja0 Tryz.func287 trivial trivial
def jeO:Con:=⟨286,[.v iT,.v iT,.v iT,.v iT],[iT,iT,iT,iT],⟨[.v iT,.v iT],[]⟩,[iT,iT],Pw.unc4 Pw.jky⟩
def jr1:FnD where
 N:=63
 np:=4
 cs:=[j8t,jeN,ja0]
 ds:=[⟨0,[sI,sI,sI,sI,sI,sI],[iT,iT,iT,iT,iT,iT],[⟨.exit 0,[sI,sI,sI,sI,sI],[iT,iT,iT,iT,iT]⟩],Pw.unc6 (Pw.j5x)⟩,
  ⟨2,[sI,sI,sI,sI],[iT,iT,iT,iT],[⟨.exit 2,[sI],[iT]⟩],Pw.unc4 (Pw.j5y)⟩]
 modes:=[(287,[false]),(337,[false]),(338,[false,false])]
 keep:=[(0,⟨[0,1,2,3,10,12],[],[],[]⟩),
  (2,⟨[0,1,10,12],[],[],[]⟩)]
 keepX:=[(0,.exit 0,⟨[0,1,2,10,12],[],[],[]⟩),
  (2,.exit 2,⟨[12],[],[],[]⟩)]
 ro:=[false,false]
theorem r01_Nth_ok:Con.OK Tryz.prog jeO:=
 cOf j0f j02 jr1 jeO Tryz.func286 (j8 jeM (j8 r01_Day_ok (j8 jjc trivial))) (j8 (fun h=>by kernel_rfl) (j8 (fun h=>by kernel_rfl) trivial))
def j6G:Con:=⟨193,[.v ty58],[ty58],⟨[.own 258 ty13],[]⟩,[ty13],fun h=>Pw.j77 h⟩
def jgn:FnD where
 N:=98
 np:=1
 cs:=[jeO]
 ds:=[⟨0,[.s (.one (.d ty58)),.s (.one (.ol 1000000)),sI,.b (.lst 258 ty8 false)],[ty58,iT,ty13],[⟨.exit 0,[.s (.one (.ol 1500100)),.b (.lst 258 ty8 false)],[ty13]⟩],Pw.unc3 (Pw.j2h)⟩,
  ⟨2,[.s (.one (.d ty58)),.s (.one (.ol 1002000)),sI,sI,.b (.lst 258 ty8 false)],[ty58,iT,iT,ty13],[⟨.exit 2,[.s (.one (.d ty58)),.s (.one (.ol 1502300)),sI,.b (.lst 258 ty8 false)],[ty58,iT,ty13]⟩],Pw.unc4 (Pw.j2g)⟩,
  ⟨4,[.s (.one (.d ty58)),.s (.one (.ol 1004000)),sI,sI,.s (.one (.bp 512 0)),sI,.b (.cell [.d iT,.d iT] false),.b (.lst 258 ty8 false)],[ty58,iT,iT,iT,iT,iT,ty13],[⟨.exit 4,[.s (.one (.d ty58)),.s (.one (.ol 1504500)),sI,sI,.s (.one (.bp 512 0)),sI,.b (.cell [.d iT,.d iT] false),.b (.lst 258 ty8 false)],[ty58,iT,iT,iT,iT,iT,ty13]⟩],Pw.unc7 (Pw.j2f)⟩]
 modes:=[(286,[false,false,false,false])]
 keep:=[(0,⟨[0,3,4],[],[⟨1000000,258,ty8,[.slot 3],false⟩],[]⟩),
  (2,⟨[0,3,4,5],[],[⟨1002000,258,ty8,[.slot 3],false⟩],[]⟩),
  (4,⟨[0,3,4,5,8,9],[512],[⟨1004000,258,ty8,[.slot 3],false⟩],[]⟩)]
 keepX:=[(0,.exit 0,⟨[3],[],[⟨1500100,258,ty8,[.slot 3],false⟩],[]⟩),
  (2,.exit 2,⟨[0,3,4],[],[⟨1502300,258,ty8,[.slot 3],false⟩],[]⟩),
  (4,.exit 4,⟨[0,3,4,5,8,9],[512],[⟨1504500,258,ty8,[.slot 3],false⟩],[]⟩)]
 ro:=[true]
 dw:=[(9,[[],[],[],[],[],[],[],[],[],[],[],[],[],[],[512],[512]]),(14,[[],[],[],[],[],[],[],[5376]])]
theorem jfS:Con.OK Tryz.prog j6G:=
 cOf j0f j02 jgn j6G Tryz.func193 (j8 r01_Nth_ok trivial) (j8 (fun h=>by kernel_rfl) (j8 (fun h=>by kernel_rfl) (j8 (fun h=>by kernel_rfl) trivial)))
def j6H:Con:=⟨107,[.v ty65],[ty65],⟨[.own 167 ty13,.v iT],[]⟩,[ty13,iT],fun h=>Pw.j4h h⟩
def jgo:FnD where
 N:=119
 np:=1
 cs:=[jdH,jc2,j6G]
 ds:=[⟨0,[.s (.one (.bp 64 0)),sI,sI,.b (.cell [.d .str,.d iT,.d ty58] false)],[iT,iT,.str,iT,ty58],[⟨.ret,[.s (.one (.nil)),sI],[iT]⟩,⟨.exit 0,[.s (.one (.bp 64 0)),sI,.b (.cell [.d .str,.d iT,.d ty58] false)],[iT,.str,iT,ty58]⟩],Pw.unc5 (Pw.j2i)⟩,
  ⟨2,[.s (.one (.ol 1002000)),.s (.one (.ol 1002001)),sI,sI,.b (.lst 167 ty8 false),.b (.lst 258 ty8 false)],[iT,iT,ty13,ty13],[⟨.ret,[.s (.one (.nil)),sI],[iT]⟩,⟨.exit 2,[.s (.one (.ol 1502300)),.b (.lst 167 ty8 false)],[ty13]⟩],Pw.unc4 (Pw.j2j)⟩]
 modes:=[(191,[false,false,false]),(192,[false]),(193,[false])]
 keep:=[(0,⟨[1,4,5],[64],[],[]⟩),
  (2,⟨[6,7,8,9],[],[⟨1002000,167,ty8,[.slot 6],false⟩,⟨1002001,258,ty8,[.slot 7],false⟩],[]⟩)]
 keepX:=[(0,.ret,⟨[2,3],[],[],[]⟩),
  (0,.exit 0,⟨[1,4],[64],[],[]⟩),
  (2,.ret,⟨[2,3],[],[],[]⟩),
  (2,.exit 2,⟨[6],[],[⟨1502300,167,ty8,[.slot 6],false⟩],[]⟩)]
 ro:=[true,false]
 dw:=[(21,[[],[],[],[],[],[],[],[],[],[],[],[],[],[640],[640]]),(24,[[],[],[7296],[7360,1002000],[],[],[],[]])]
theorem jfT:Con.OK Tryz.prog j6H:=
 cOf j0f j02 jgo j6H Tryz.func107 (j8 jmo (j8 jmp (j8 jfS trivial))) (j8 (fun h=>by kernel_rfl) (j8 (fun h=>by kernel_rfl) trivial))
def jc4:Con:=⟨277,[.v ty65],[ty65],⟨[.v iT],[]⟩,[iT],fun h=>Pw.j8j h⟩
def jnA:FnD where
 N:=11
 np:=1
 cs:=[j6H]
 ds:=[]
 modes:=[(107,[false])]
 ro:=[false]
theorem jmr:Con.OK Tryz.prog jc4:=
 cOf j0f j02 jnA jc4 Tryz.func277 (j8 jfT trivial) trivial
def ja1:Con:=⟨278,[.v ty65],[ty65],⟨[.v .bool],[]⟩,[.bool],fun h=>Pw.j9B h⟩
def jkX:FnD where
 N:=28
 np:=1
 cs:=[]
 ds:=[⟨0,[.s (.one (.bp 64 0)),.s (.one (.d .bool)),sI,.b (.cell [.d .str,.d iT,.d ty58] false)],[.bool,iT,.str,iT,ty58],[⟨.exit 0,[.s (.one (.d .bool))],[.bool]⟩],Pw.unc5 (Pw.j3k)⟩]
 keep:=[(0,⟨[1,3,4],[64],[],[]⟩)]
 keepX:=[(0,.exit 0,⟨[3],[],[],[]⟩)]
 ro:=[false]
theorem jjd:Con.OK Tryz.prog ja1:=
 cOf j0f j02 jkX ja1 Tryz.func278 trivial (j8 (fun h=>by kernel_rfl) trivial)
def jc5:Con:=⟨184,[.v ty84],[ty84],⟨[.v iT],[]⟩,[iT],fun h=>Pw.jij h⟩
def jnB:FnD where
 N:=44
 np:=1
 cs:=[j6S,jc4,ja1]
 ds:=[⟨0,[.s (.one (.bp 64 0)),.s (.one (.ol 1000000)),sI,.b (.cell [.d ty66,.d ty56,.d ty29,.d ty78] false),.b (.lst 9 .str false)],[iT,ty66,ty56,ty29,ty78,(.list .str)],[⟨.ret,[sI],[iT]⟩,⟨.exit 0,[],[]⟩],Pw.unc6 (Pw.j4i)⟩]
 modes:=[(276,[false,false]),(277,[false]),(278,[false])]
 keep:=[(0,⟨[1,3,4],[64],[⟨1000000,9,.str,[.slot 3],false⟩],[]⟩)]
 keepX:=[(0,.ret,⟨[2],[],[],[]⟩),
  (0,.exit 0,⟨[],[],[],[]⟩)]
 ro:=[false]
theorem jms:Con.OK Tryz.prog jc5:=
 cOf j0f j02 jnB jc5 Tryz.func184 (j8 jc1 (j8 jmr (j8 jjd trivial))) (j8 (fun h=>by kernel_rfl) trivial)
def j7U:Con:=⟨279,[.v iT,.v iT,.v iT],[iT,iT,iT],⟨[.v .bool],[]⟩,[.bool],Pw.unc3 Pw.j6r⟩
def jse:FnD where
 N:=15
 np:=3
 cs:=[]
 ds:=[]
 ro:=[false]
theorem jdj:Con.OK Tryz.prog j7U:=
 cOf j0f j02 jse j7U Tryz.func279 trivial trivial
def j9e:Con:=⟨108,[.v ty13],[ty13],⟨[.v iT],[]⟩,[iT],fun h=>Pw.jd7 h⟩
def jnC:FnD where
 N:=56
 np:=1
 cs:=[]
 ds:=[⟨0,[.s (.one (.d ty13)),sI],[ty13,iT],[⟨.ret,[sI],[iT]⟩,⟨.exit 0,[],[]⟩],Pw.unc2 (Pw.j4j)⟩]
 keep:=[(0,⟨[0,3],[],[],[]⟩)]
 keepX:=[(0,.ret,⟨[2],[],[],[]⟩),
  (0,.exit 0,⟨[],[],[],[]⟩)]
 ro:=[false]
theorem jgJ:Con.OK Tryz.prog j9e:=
 cOf j0f j02 jnC j9e Tryz.func108 trivial (j8 (fun h=>by kernel_rfl) trivial)
def jc6:Con:=⟨280,[.v iT],[iT],⟨[.v .bool],[]⟩,[.bool],fun h=>Pw.jfw h⟩
def jnD:FnD where
 N:=10
 np:=1
 cs:=[j7U]
 ds:=[]
 modes:=[(279,[false,false,false])]
 ro:=[false]
theorem jmt:Con.OK Tryz.prog jc6:=
 cOf j0f j02 jnD jc6 Tryz.func280 (j8 jdj trivial) trivial
end Go.Proofs.Pk
