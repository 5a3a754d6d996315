/- Contracts: each given function is its plain function, printed by a program. -/
import Derived.Test.YthpdddnkpjnllaaGreatDCon2
noncomputable section
open Go Go.Lft
set_option linter.unusedVariables false
set_option maxRecDepth 100000
namespace Go.Proofs.Pk
def jd4:Con:=⟨63,[.v ty79],[ty79],⟨[.v ty81,.v .bool],[]⟩,[ty81,.bool],fun h=>Pw.jfn h⟩
def jxB:FnD where
 N:=10
 np:=1
 cs:=[jaC,jfD]
 ds:=[]
 modes:=[(40,[false]),(113,[false])]
 ro:=[false,false]
theorem jlb:Con.OK Tryz.prog jd4:=
 cOf j0a j03 jxB jd4 Tryz.func63 (j9 jm0 (j9 jrV trivial)) trivial
def j7W:Con:=⟨41,[.v ty79,.v iT],[ty79,iT],⟨[.v .bool],[]⟩,[.bool],fun h=>Pw.jau h.1 h.2⟩
def jqg:FnD where
 N:=14
 np:=2
 cs:=[]
 ds:=[]
 ro:=[false]
theorem jei:Con.OK Tryz.prog j7W:=
 cOf j0a j03 jqg j7W Tryz.func41 trivial trivial
def jej:Con:=⟨104,[.v iT,.v iT],[iT,iT],⟨[.v .bool],[]⟩,[.bool],fun h=>Pw.jl7 h.1 h.2⟩
def jrW:FnD where
 N:=26
 np:=2
 cs:=[]
 ds:=[]
 ro:=[false]
theorem jqh:Con.OK Tryz.prog jej:=
 cOf j0a j03 jrW jej Tryz.func104 trivial trivial
def j9J:Con:=⟨60,[.v ty79,.v iT,.v iT,.v iT],[ty79,iT,iT,iT],⟨[.v ty81,.v iT],[]⟩,[ty81,iT],fun h=>Pw.j6v h.1 h.2.1 h.2.2.1 h.2.2.2⟩
def jqi:FnD where
 N:=34
 np:=4
 cs:=[jd4,j7W,jej]
 ds:=[]
 modes:=[(41,[false,false]),(63,[false]),(104,[false,false])]
 ro:=[false,false]
theorem jit:Con.OK Tryz.prog j9J:=
 cOf j0a j03 jqi j9J Tryz.func60 (j9 jlb (j9 jei (j9 jqh trivial))) trivial
def j6C:Con:=⟨115,[.v ty81,.v iT],[ty81,iT],⟨[.v ty25],[]⟩,[ty25],fun h=>Pw.j4X h.1 h.2⟩
def jlc:FnD where
 N:=10
 np:=2
 cs:=[]
 ds:=[]
 ro:=[false]
theorem jdY:Con.OK Tryz.prog j6C:=
 cOf j0a j03 jlc j6C Tryz.func115 trivial trivial
def j7f:Con:=⟨116,[.v ty25],[ty25],⟨[.v .bool],[]⟩,[.bool],fun h=>Pw.j9w h⟩
def ji7:FnD where
 N:=7
 np:=1
 cs:=[]
 ds:=[]
 ro:=[false]
theorem jhd:Con.OK Tryz.prog j7f:=
 cOf j0a j03 ji7 j7f Tryz.func116 trivial trivial
def j97:Con:=⟨117,[.v ty25],[ty25],⟨[.v iT],[]⟩,[iT],fun h=>Pw.jcE h⟩
def jld:FnD where
 N:=16
 np:=1
 cs:=[]
 ds:=[]
 ro:=[false]
theorem jke:Con.OK Tryz.prog j97:=
 cOf j0a j03 jld j97 Tryz.func117 trivial trivial
def j6D:Con:=⟨114,[.v iT,.ref [ty61,ty51,ty26,ty73,ty29],.ref [iT]],[iT,ty61,ty51,ty26,ty73,ty29,iT],⟨[],[.ref [ty61,ty51,ty26,ty73,ty29],.ref [iT]]⟩,[ty61,ty51,ty26,ty73,ty29,iT],fun h=>Pw.j3J h.1 h.2.1 h.2.2.1 h.2.2.2.1 h.2.2.2.2.1 h.2.2.2.2.2.1 h.2.2.2.2.2.2⟩
def jhe:FnD where
 N:=15
 np:=3
 cs:=[j6C,j7f,j97]
 ds:=[]
 modes:=[(115,[false,false]),(116,[false]),(117,[false])]
 dw:=[(2,[[],[],[],[],[],[128]])]
theorem jgq:Con.OK Tryz.prog j6D:=
 cOf j0a j03 jhe j6D Tryz.func114 (j9 jdY (j9 jhd (j9 jke trivial))) trivial
def jaT:Con:=⟨164,[.v ty67],[ty67],⟨[.v iT],[]⟩,[iT],fun h=>Pw.jav h⟩
def jrX:FnD where
 N:=11
 np:=1
 cs:=[]
 ds:=[]
 ro:=[false]
theorem jkf:Con.OK Tryz.prog jaT:=
 cOf j0a j03 jrX jaT Tryz.func164 trivial trivial
def j6E:Con:=⟨241,[.v iT,.ip [iT,ty12],.ip [iT]],[iT,iT,ty12,iT],⟨[.v .bool],[]⟩,[.bool],fun h=>Pw.j95 h.1 h.2.1 h.2.2.1 h.2.2.2⟩
def jhf:FnD where
 N:=13
 np:=3
 cs:=[]
 ds:=[]
 ro:=[false]
theorem jgr:Con.OK Tryz.prog j6E:=
 cOf j0a j03 jhf j6E Tryz.func241 trivial trivial
def jd5:Con:=⟨240,[.v iT,.clo 241 [.p [iT,ty12],.p [iT]]],[iT,iT,ty12,iT],⟨[.v iT],[]⟩,[iT],fun h=>Pw.jaw h.1 h.2.1 h.2.2.1 h.2.2.2⟩
def jqj:FnD where
 N:=26
 np:=2
 cs:=[j6E]
 ds:=[⟨0,[.s (.one (.clo 241 [.p [iT,ty12],.p [iT]])),sI,sI],[iT,ty12,iT,iT,iT],[⟨.exit 0,[sI],[iT]⟩],fun h=>Pw.j3K h.1 h.2.1 h.2.2.1 h.2.2.2.1 h.2.2.2.2⟩]
 modes:=[(241,[false])]
 keep:=[(0,⟨[1,5,6],[],[],[]⟩)]
 keepX:=[(0,.exit 0,⟨[5],[],[],[]⟩)]
 ro:=[false]
theorem jol:Con.OK Tryz.prog jd5:=
 cOf j0a j03 jqj jd5 Tryz.func240 (j9 jgr trivial) (j9 (fun h=>by kernel_rfl) trivial)
def j5Y:Con:=⟨209,[.v ty25,.v iT],[ty25,iT],⟨[.v iT],[]⟩,[iT],fun h=>Pw.j3C h.1 h.2⟩
def jkg:FnD where
 N:=10
 np:=2
 cs:=[jd5]
 ds:=[]
 modes:=[(240,[false,false])]
 ro:=[false]
theorem jd6:Con.OK Tryz.prog j5Y:=
 cOf j0a j03 jkg j5Y Tryz.func209 (j9 jol trivial) trivial
def j5D:Con:=⟨210,[.v ty25,.v iT],[ty25,iT],⟨[.v iT],[]⟩,[iT],fun h=>Pw.j4R h.1 h.2⟩
def jj0:FnD where
 N:=16
 np:=2
 cs:=[]
 ds:=[]
 ro:=[false]
theorem jc3:Con.OK Tryz.prog j5D:=
 cOf j0a j03 jj0 j5D Tryz.func210 trivial trivial
def j4e:Con:=⟨165,[.v ty25,.v iT,.v iT],[ty25,iT,iT],⟨[.own 212 ty24],[]⟩,[ty24],fun h=>Pw.j1q h.1 h.2.1 h.2.2⟩
def jj1:FnD where
 N:=41
 np:=3
 cs:=[j5Y,j5D]
 ds:=[⟨0,[sI,sI,.s (.one (.bp 192 0)),.s (.one (.ol 1000000)),.b (.cell [.d iT,.d ty12] false),.b (.lst 212 ty20 false)],[iT,iT,iT,ty12,ty24],[⟨.exit 0,[.s (.one (.ol 1500100)),.b (.lst 212 ty20 false)],[ty24]⟩],fun h=>Pw.j0s h.1 h.2.1 h.2.2.1 h.2.2.2.1 h.2.2.2.2⟩]
 modes:=[(209,[false,false]),(210,[false,false])]
 keep:=[(0,⟨[1,2,3,7],[192],[⟨1000000,212,ty20,[.slot 7],false⟩],[]⟩)]
 keepX:=[(0,.exit 0,⟨[7],[],[⟨1500100,212,ty20,[.slot 7],false⟩],[]⟩)]
 ro:=[true]
theorem j8u:Con.OK Tryz.prog j4e:=
 cOf j0a j03 jj1 j4e Tryz.func165 (j9 jd6 (j9 jc3 trivial)) (j9 (fun h=>by kernel_rfl) trivial)
def jbJ:Con:=⟨166,[.v ty8],[ty8],⟨[.v iT],[]⟩,[iT],fun h=>Pw.j4O h⟩
def jom:FnD where
 N:=11
 np:=1
 cs:=[]
 ds:=[]
 ro:=[false]
theorem jnp:Con.OK Tryz.prog jbJ:=
 cOf j0a j03 jom jbJ Tryz.func166 trivial trivial
def j5Z:Con:=⟨119,[.v ty25,.v ty8],[ty25,ty8],⟨[.v iT,.v .bool],[]⟩,[iT,.bool],fun h=>Pw.j17 h.1 h.2⟩
def jkh:FnD where
 N:=30
 np:=2
 cs:=[j4e,jbJ]
 ds:=[⟨0,[.s (.one (.bp 192 0)),.s (.one (.ol 1000000)),sI,sI,.b (.cell [.d iT,.d iT] false),.b (.lst 212 ty20 false)],[iT,iT,iT,iT,ty24],[⟨.ret,[sI,.s (.one (.d .bool))],[iT,.bool]⟩,⟨.exit 0,[],[]⟩],fun h=>Pw.j1N h.1 h.2.1 h.2.2.1 h.2.2.2.1 h.2.2.2.2⟩]
 modes:=[(165,[false,false,false]),(166,[false])]
 keep:=[(0,⟨[3,10,11,12],[192],[⟨1000000,212,ty20,[.slot 10],false⟩],[]⟩)]
 keepX:=[(0,.ret,⟨[4,5],[],[],[]⟩),
  (0,.exit 0,⟨[],[],[],[]⟩)]
 ro:=[false,false]
theorem jd7:Con.OK Tryz.prog j5Z:=
 cOf j0a j03 jkh j5Z Tryz.func119 (j9 j8u (j9 jnp trivial)) (j9 (fun h=>by kernel_rfl) trivial)
def j3B:Con:=⟨118,[.v ty25,.v ty67,.v iT],[ty25,ty67,iT],⟨[.v iT,.v .bool],[]⟩,[iT,.bool],fun h=>Pw.j0A h.1 h.2.1 h.2.2⟩
def jki:FnD where
 N:=50
 np:=3
 cs:=[jaT,j5Z]
 ds:=[]
 modes:=[(119,[false,false]),(164,[false])]
 ro:=[false,false]
 dw:=[(5,[[],[],[],[],[],[],[],[],[512]])]
theorem j6F:Con.OK Tryz.prog j3B:=
 cOf j0a j03 jki j3B Tryz.func118 (j9 jkf (j9 jd7 trivial)) trivial
def j60:Con:=⟨64,[.v ty81,.v ty72],[ty81,ty72],⟨[.v iT],[]⟩,[iT],fun h=>Pw.j2B h.1 h.2⟩
def jkj:FnD where
 N:=95
 np:=2
 cs:=[j6C,j6D,j5Z,j3B]
 ds:=[⟨0,[.s (.one (.bp 128 0)),.s (.one (.bp 192 0)),.s (.one (.bp 320 0)),.s (.one (.d ty39)),sI,sI,.b (.cell [.d ty61,.d ty51,.d ty26,.d ty73,.d ty29] false),.b (.cell [.d .str,.d ty68,.d ty39] false),.b (.cell [.d iT] false)],[ty39,iT,iT,ty61,ty51,ty26,ty73,ty29,.str,ty68,ty39,iT],[⟨.exit 0,[.s (.one (.bp 128 0)),.s (.one (.bp 192 0)),.s (.one (.bp 320 0)),.b (.cell [.d ty61,.d ty51,.d ty26,.d ty73,.d ty29] false),.b (.cell [.d .str,.d ty68,.d ty39] false),.b (.cell [.d iT] false)],[ty61,ty51,ty26,ty73,ty29,.str,ty68,ty39,iT]⟩],fun h=>Pw.j39 h.1 h.2.1 h.2.2.1 h.2.2.2.1 h.2.2.2.2.1 h.2.2.2.2.2.1 h.2.2.2.2.2.2.1 h.2.2.2.2.2.2.2.1 h.2.2.2.2.2.2.2.2.1 h.2.2.2.2.2.2.2.2.2.1 h.2.2.2.2.2.2.2.2.2.2.1 h.2.2.2.2.2.2.2.2.2.2.2⟩,
  ⟨2,[.s (.one (.bp 128 0)),.s (.one (.bp 320 0)),.s (.one (.clr 114 [128,320])),.s (.one (.d ty68)),sI,sI,.b (.cell [.d ty61,.d ty51,.d ty26,.d ty73,.d ty29] false),.b (.cell [.d iT] false)],[ty68,iT,iT,ty61,ty51,ty26,ty73,ty29,iT],[⟨.exit 2,[.s (.one (.bp 320 0)),.b (.cell [.d iT] false)],[iT]⟩],fun h=>Pw.j10 h.1 h.2.1 h.2.2.1 h.2.2.2.1 h.2.2.2.2.1 h.2.2.2.2.2.1 h.2.2.2.2.2.2.1 h.2.2.2.2.2.2.2.1 h.2.2.2.2.2.2.2.2⟩]
 modes:=[(114,[false]),(115,[false,false]),(118,[false,false,false]),(119,[false,false])]
 keep:=[(0,⟨[2,3,5,18,19,20],[128,192,320],[],[]⟩),
  (2,⟨[2,5,8,31,32,33],[128,320],[],[]⟩)]
 keepX:=[(0,.exit 0,⟨[2,3,5],[128,192,320],[],[]⟩),
  (2,.exit 2,⟨[5],[320],[],[]⟩)]
 ro:=[false]
 cr:=[114]
theorem jd8:Con.OK Tryz.prog j60:=
 cOf j0a j03 jkj j60 Tryz.func64 (j9 jdY (j9 jgq (j9 jd7 (j9 j6F trivial)))) (j9 (fun h=>by kernel_rfl) (j9 (fun h=>by kernel_rfl) trivial))
def j9m:Con:=⟨212,[.v (.list iT)],[(.list iT)],⟨[.own 3 (.list iT)],[]⟩,[(.list iT)],fun h=>Pw.j8m h⟩
def jgs:FnD where
 N:=8
 np:=1
 cs:=[]
 ds:=[]
 ro:=[true]
theorem jfE:Con.OK Tryz.prog j9m:=
 jrB j0a j03 jgs 212 iT 3 Tryz.f212 (Tryz.f212.body.getD .skip) Tryz.func212 (by kernel_rfl) (by kernel_rfl) (Nat.le_of_ble_eq_true (by kernel_rfl)) (by kernel_rfl) trivial (by kernel_rfl)
  (fun h R k=>by kernel_rfl)
def j90:Con:=⟨213,[.v iT,.ip [iT],.ip [iT]],[iT,iT,iT],⟨[.v .bool],[]⟩,[.bool],fun h=>Pw.jb0 h.1 h.2.1 h.2.2⟩
def jon:FnD where
 N:=13
 np:=3
 cs:=[]
 ds:=[]
 ro:=[false]
theorem jhg:Con.OK Tryz.prog j90:=
 cOf j0a j03 jon j90 Tryz.func213 trivial trivial
end Go.Proofs.Pk
