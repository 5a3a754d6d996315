/- Contracts: each given function is its plain function, printed by a program. -/
import Derived.Test.YthpdddnkpjnllaaGreatGCon2
noncomputable section
open Go Go.Lft
set_option linter.unusedVariables false
set_option maxRecDepth 100000
namespace Go.Proofs.Pk
def jci:Con:=⟨63,[.v ty79],[ty79],⟨[.v ty81,.v .bool],[]⟩,[ty81,.bool],fun h=>Pw.jex h⟩
def jw6:FnD where
 N:=10
 np:=1
 cs:=[j9B,jeO]
 ds:=[]
 modes:=[(40,[false]),(113,[false])]
 ro:=[false,false]
theorem jkj:Con.OK Tryz.prog jci:=
 cOf j07 j02 jw6 jci Tryz.func63 (j9 jl4 (j9 jqK trivial)) trivial
def j6J:Con:=⟨41,[.v ty79,.v iT],[ty79,iT],⟨[.v .bool],[]⟩,[.bool],fun h=>Pw.jbH h.1 h.2⟩
def jpd:FnD where
 N:=14
 np:=2
 cs:=[]
 ds:=[]
 ro:=[false]
theorem jds:Con.OK Tryz.prog j6J:=
 cOf j07 j02 jpd j6J Tryz.func41 trivial trivial
def jdt:Con:=⟨104,[.v iT,.v iT],[iT,iT],⟨[.v .bool],[]⟩,[.bool],fun h=>Pw.joe h.1 h.2⟩
def jqL:FnD where
 N:=26
 np:=2
 cs:=[]
 ds:=[]
 ro:=[false]
theorem jpe:Con.OK Tryz.prog jdt:=
 cOf j07 j02 jqL jdt Tryz.func104 trivial trivial
def j8G:Con:=⟨60,[.v ty79,.v iT,.v iT,.v iT],[ty79,iT,iT,iT],⟨[.v ty81,.v iT],[]⟩,[ty81,iT],fun h=>Pw.j9q h.1 h.2.1 h.2.2.1 h.2.2.2⟩
def jpf:FnD where
 N:=34
 np:=4
 cs:=[jci,j6J,jdt]
 ds:=[]
 modes:=[(41,[false,false]),(63,[false]),(104,[false,false])]
 ro:=[false,false]
theorem jhB:Con.OK Tryz.prog j8G:=
 cOf j07 j02 jpf j8G Tryz.func60 (j9 jkj (j9 jds (j9 jpe trivial))) trivial
def j5y:Con:=⟨115,[.v ty81,.v iT],[ty81,iT],⟨[.v ty25],[]⟩,[ty25],fun h=>Pw.j43 h.1 h.2⟩
def jkk:FnD where
 N:=10
 np:=2
 cs:=[]
 ds:=[]
 ro:=[false]
theorem jd5:Con.OK Tryz.prog j5y:=
 cOf j07 j02 jkk j5y Tryz.func115 trivial trivial
def j66:Con:=⟨116,[.v ty25],[ty25],⟨[.v .bool],[]⟩,[.bool],fun h=>Pw.j8p h⟩
def jhe:FnD where
 N:=7
 np:=1
 cs:=[]
 ds:=[]
 ro:=[false]
theorem jgn:Con.OK Tryz.prog j66:=
 cOf j07 j02 jhe j66 Tryz.func116 trivial trivial
def j7Y:Con:=⟨117,[.v ty25],[ty25],⟨[.v iT],[]⟩,[iT],fun h=>Pw.jbI h⟩
def jkl:FnD where
 N:=16
 np:=1
 cs:=[]
 ds:=[]
 ro:=[false]
theorem jjp:Con.OK Tryz.prog j7Y:=
 cOf j07 j02 jkl j7Y Tryz.func117 trivial trivial
def j5z:Con:=⟨114,[.v iT,.ref [ty61,ty51,ty26,ty73,ty29],.ref [iT]],[iT,ty61,ty51,ty26,ty73,ty29,iT],⟨[],[.ref [ty61,ty51,ty26,ty73,ty29],.ref [iT]]⟩,[ty61,ty51,ty26,ty73,ty29,iT],fun h=>Pw.j30 h.1 h.2.1 h.2.2.1 h.2.2.2.1 h.2.2.2.2.1 h.2.2.2.2.2.1 h.2.2.2.2.2.2⟩
def jgo:FnD where
 N:=15
 np:=3
 cs:=[j5y,j66,j7Y]
 ds:=[]
 modes:=[(115,[false,false]),(116,[false]),(117,[false])]
 dw:=[(2,[[],[],[],[],[],[128]])]
theorem jfy:Con.OK Tryz.prog j5z:=
 cOf j07 j02 jgo j5z Tryz.func114 (j9 jd5 (j9 jgn (j9 jjp trivial))) trivial
def j9S:Con:=⟨164,[.v ty67],[ty67],⟨[.v iT],[]⟩,[iT],fun h=>Pw.j9r h⟩
def jqM:FnD where
 N:=11
 np:=1
 cs:=[]
 ds:=[]
 ro:=[false]
theorem jjq:Con.OK Tryz.prog j9S:=
 cOf j07 j02 jqM j9S Tryz.func164 trivial trivial
def j5A:Con:=⟨241,[.v iT,.ip [iT,ty12],.ip [iT]],[iT,iT,ty12,iT],⟨[.v .bool],[]⟩,[.bool],fun h=>Pw.j7U h.1 h.2.1 h.2.2.1 h.2.2.2⟩
def jgp:FnD where
 N:=13
 np:=3
 cs:=[]
 ds:=[]
 ro:=[false]
theorem jfz:Con.OK Tryz.prog j5A:=
 cOf j07 j02 jgp j5A Tryz.func241 trivial trivial
def jcj:Con:=⟨240,[.v iT,.clo 241 [.p [iT,ty12],.p [iT]]],[iT,iT,ty12,iT],⟨[.v iT],[]⟩,[iT],fun h=>Pw.j9s h.1 h.2.1 h.2.2.1 h.2.2.2⟩
def jpg:FnD where
 N:=26
 np:=2
 cs:=[j5A]
 ds:=[⟨0,[.s (.one (.clo 241 [.p [iT,ty12],.p [iT]])),sI,sI],[iT,ty12,iT,iT,iT],[⟨.exit 0,[sI],[iT]⟩],fun h=>Pw.j31 h.1 h.2.1 h.2.2.1 h.2.2.2.1 h.2.2.2.2⟩]
 modes:=[(241,[false])]
 keep:=[(0,⟨[1,5,6],[],[],[]⟩)]
 keepX:=[(0,.exit 0,⟨[5],[],[],[]⟩)]
 ro:=[false]
theorem jno:Con.OK Tryz.prog jcj:=
 cOf j07 j02 jpg jcj Tryz.func240 (j9 jfz trivial) (j9 (fun h=>by kernel_rfl) trivial)
def j52:Con:=⟨209,[.v ty25,.v iT],[ty25,iT],⟨[.v iT],[]⟩,[iT],fun h=>Pw.j2T h.1 h.2⟩
def jjr:FnD where
 N:=10
 np:=2
 cs:=[jcj]
 ds:=[]
 modes:=[(240,[false,false])]
 ro:=[false]
theorem jck:Con.OK Tryz.prog j52:=
 cOf j07 j02 jjr j52 Tryz.func209 (j9 jno trivial) trivial
def j4I:Con:=⟨210,[.v ty25,.v iT],[ty25,iT],⟨[.v iT],[]⟩,[iT],fun h=>Pw.j3X h.1 h.2⟩
def ji8:FnD where
 N:=16
 np:=2
 cs:=[]
 ds:=[]
 ro:=[false]
theorem jb6:Con.OK Tryz.prog j4I:=
 cOf j07 j02 ji8 j4I Tryz.func210 trivial trivial
def j3o:Con:=⟨165,[.v ty25,.v iT,.v iT],[ty25,iT,iT],⟨[.own 212 ty24],[]⟩,[ty24],fun h=>Pw.j1S h.1 h.2.1 h.2.2⟩
def ji9:FnD where
 N:=41
 np:=3
 cs:=[j52,j4I]
 ds:=[⟨0,[sI,sI,.s (.one (.bp 192 0)),.s (.one (.ol 1000000)),.b (.cell [.d iT,.d ty12] false),.b (.lst 212 ty20 false)],[iT,iT,iT,ty12,ty24],[⟨.exit 0,[.s (.one (.ol 1500100)),.b (.lst 212 ty20 false)],[ty24]⟩],fun h=>Pw.j0N h.1 h.2.1 h.2.2.1 h.2.2.2.1 h.2.2.2.2⟩]
 modes:=[(209,[false,false]),(210,[false,false])]
 keep:=[(0,⟨[1,2,3,7],[192],[⟨1000000,212,ty20,[.slot 7],false⟩],[]⟩)]
 keepX:=[(0,.exit 0,⟨[7],[],[⟨1500100,212,ty20,[.slot 7],false⟩],[]⟩)]
 ro:=[true]
theorem j7g:Con.OK Tryz.prog j3o:=
 cOf j07 j02 ji9 j3o Tryz.func165 (j9 jck (j9 jb6 trivial)) (j9 (fun h=>by kernel_rfl) trivial)
def jaH:Con:=⟨166,[.v ty8],[ty8],⟨[.v iT],[]⟩,[iT],fun h=>Pw.j3U h⟩
def jnp:FnD where
 N:=11
 np:=1
 cs:=[]
 ds:=[]
 ro:=[false]
theorem jmu:Con.OK Tryz.prog jaH:=
 cOf j07 j02 jnp jaH Tryz.func166 trivial trivial
def j53:Con:=⟨119,[.v ty25,.v ty8],[ty25,ty8],⟨[.v iT,.v .bool],[]⟩,[iT,.bool],fun h=>Pw.j0P h.1 h.2⟩
def jjs:FnD where
 N:=30
 np:=2
 cs:=[j3o,jaH]
 ds:=[⟨0,[.s (.one (.bp 192 0)),.s (.one (.ol 1000000)),sI,sI,.b (.cell [.d iT,.d iT] false),.b (.lst 212 ty20 false)],[iT,iT,iT,iT,ty24],[⟨.ret,[sI,.s (.one (.d .bool))],[iT,.bool]⟩,⟨.exit 0,[],[]⟩],fun h=>Pw.j1i h.1 h.2.1 h.2.2.1 h.2.2.2.1 h.2.2.2.2⟩]
 modes:=[(165,[false,false,false]),(166,[false])]
 keep:=[(0,⟨[3,10,11,12],[192],[⟨1000000,212,ty20,[.slot 10],false⟩],[]⟩)]
 keepX:=[(0,.ret,⟨[4,5],[],[],[]⟩),
  (0,.exit 0,⟨[],[],[],[]⟩)]
 ro:=[false,false]
theorem jcl:Con.OK Tryz.prog j53:=
 cOf j07 j02 jjs j53 Tryz.func119 (j9 j7g (j9 jmu trivial)) (j9 (fun h=>by kernel_rfl) trivial)
def j2S:Con:=⟨118,[.v ty25,.v ty67,.v iT],[ty25,ty67,iT],⟨[.v iT,.v .bool],[]⟩,[iT,.bool],fun h=>Pw.j0F h.1 h.2.1 h.2.2⟩
def jjt:FnD where
 N:=50
 np:=3
 cs:=[j9S,j53]
 ds:=[]
 modes:=[(119,[false,false]),(164,[false])]
 ro:=[false,false]
 dw:=[(5,[[],[],[],[],[],[],[],[],[512]])]
theorem j5B:Con.OK Tryz.prog j2S:=
 cOf j07 j02 jjt j2S Tryz.func118 (j9 jjq (j9 jcl trivial)) trivial
def j54:Con:=⟨64,[.v ty81,.v ty72],[ty81,ty72],⟨[.v iT],[]⟩,[iT],fun h=>Pw.j3x h.1 h.2⟩
def jju:FnD where
 N:=95
 np:=2
 cs:=[j5y,j5z,j53,j2S]
 ds:=[⟨0,[.s (.one (.bp 128 0)),.s (.one (.bp 192 0)),.s (.one (.bp 320 0)),.s (.one (.d ty39)),sI,sI,.b (.cell [.d ty61,.d ty51,.d ty26,.d ty73,.d ty29] false),.b (.cell [.d .str,.d ty68,.d ty39] false),.b (.cell [.d iT] false)],[ty39,iT,iT,ty61,ty51,ty26,ty73,ty29,.str,ty68,ty39,iT],[⟨.exit 0,[.s (.one (.bp 128 0)),.s (.one (.bp 192 0)),.s (.one (.bp 320 0)),.b (.cell [.d ty61,.d ty51,.d ty26,.d ty73,.d ty29] false),.b (.cell [.d .str,.d ty68,.d ty39] false),.b (.cell [.d iT] false)],[ty61,ty51,ty26,ty73,ty29,.str,ty68,ty39,iT]⟩],fun h=>Pw.j2u h.1 h.2.1 h.2.2.1 h.2.2.2.1 h.2.2.2.2.1 h.2.2.2.2.2.1 h.2.2.2.2.2.2.1 h.2.2.2.2.2.2.2.1 h.2.2.2.2.2.2.2.2.1 h.2.2.2.2.2.2.2.2.2.1 h.2.2.2.2.2.2.2.2.2.2.1 h.2.2.2.2.2.2.2.2.2.2.2⟩,
  ⟨2,[.s (.one (.bp 128 0)),.s (.one (.bp 320 0)),.s (.one (.clr 114 [128,320])),.s (.one (.d ty68)),sI,sI,.b (.cell [.d ty61,.d ty51,.d ty26,.d ty73,.d ty29] false),.b (.cell [.d iT] false)],[ty68,iT,iT,ty61,ty51,ty26,ty73,ty29,iT],[⟨.exit 2,[.s (.one (.bp 320 0)),.b (.cell [.d iT] false)],[iT]⟩],fun h=>Pw.j0I h.1 h.2.1 h.2.2.1 h.2.2.2.1 h.2.2.2.2.1 h.2.2.2.2.2.1 h.2.2.2.2.2.2.1 h.2.2.2.2.2.2.2.1 h.2.2.2.2.2.2.2.2⟩]
 modes:=[(114,[false]),(115,[false,false]),(118,[false,false,false]),(119,[false,false])]
 keep:=[(0,⟨[2,3,5,18,19,20],[128,192,320],[],[]⟩),
  (2,⟨[2,5,8,31,32,33],[128,320],[],[]⟩)]
 keepX:=[(0,.exit 0,⟨[2,3,5],[128,192,320],[],[]⟩),
  (2,.exit 2,⟨[5],[320],[],[]⟩)]
 ro:=[false]
 cr:=[114]
theorem jcm:Con.OK Tryz.prog j54:=
 cOf j07 j02 jju j54 Tryz.func64 (j9 jd5 (j9 jfy (j9 jcl (j9 j5B trivial)))) (j9 (fun h=>by kernel_rfl) (j9 (fun h=>by kernel_rfl) trivial))
def j8e:Con:=⟨212,[.v (.list iT)],[(.list iT)],⟨[.own 3 (.list iT)],[]⟩,[(.list iT)],fun h=>Pw.jaZ h⟩
def jfA:FnD where
 N:=8
 np:=1
 cs:=[]
 ds:=[]
 ro:=[true]
theorem jeP:Con.OK Tryz.prog j8e:=
 jqr j07 j02 jfA 212 iT 3 Tryz.f212 (Tryz.f212.body.getD .skip) Tryz.func212 (by kernel_rfl) (by kernel_rfl) (Nat.le_of_ble_eq_true (by kernel_rfl)) (by kernel_rfl) trivial (by kernel_rfl)
  (fun h R k=>by kernel_rfl)
def j7P:Con:=⟨213,[.v iT,.ip [iT],.ip [iT]],[iT,iT,iT],⟨[.v .bool],[]⟩,[.bool],fun h=>Pw.jg5 h.1 h.2.1 h.2.2⟩
def jnq:FnD where
 N:=13
 np:=3
 cs:=[]
 ds:=[]
 ro:=[false]
theorem jgq:Con.OK Tryz.prog j7P:=
 cOf j07 j02 jnq j7P Tryz.func213 trivial trivial
end Go.Proofs.Pk
