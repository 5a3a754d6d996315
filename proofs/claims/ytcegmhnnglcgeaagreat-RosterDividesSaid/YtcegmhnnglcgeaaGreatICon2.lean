/- Contracts: each given function is its plain function, printed by a program. -/
import Derived.Test.YtcegmhnnglcgeaaGreatICon1
noncomputable section
open Go Go.Lft
set_option linter.unusedVariables false
set_option maxRecDepth 100000
namespace Go.Proofs.Pk
def j4i:Con:=⟨192,[.v (.list iT),.clo 216 []],[(.list iT)],⟨[.v iT],[]⟩,[iT],fun h=>Pw.j2i h⟩
def jbR:FnD where
 N:=19
 np:=2
 cs:=[j4h]
 ds:=[⟨0,[.s (.one (.d (.list iT))),.s (.one (.clo 216 [])),sI,sI],[(.list iT),iT,iT],[⟨.ret,[sI],[iT]⟩,⟨.exit 0,[],[]⟩],fun h=>Pw.j0y h.1 h.2.1 h.2.2⟩]
 modes:=[(216,[false])]
 keep:=[(0,⟨[0,1,7,8],[],[],[]⟩)]
 keepX:=[(0,.ret,⟨[4],[],[],[]⟩),
  (0,.exit 0,⟨[],[],[],[]⟩)]
 ro:=[false]
theorem jbo:Con.OK Tryz.prog j4i:=
 cOf j0i j03 jbR j4i Tryz.func192 (j9 jbn trivial) (j9 (fun h=>by kernel_rfl) trivial)
def j3B:Con:=⟨215,[.v (.list iT),.clo 216 []],[(.list iT)],⟨[.v .bool],[]⟩,[.bool],fun h=>Pw.j1J h⟩
def jah:FnD where
 N:=9
 np:=2
 cs:=[j4i]
 ds:=[]
 modes:=[(192,[false,false])]
 ro:=[false]
theorem ja2:Con.OK Tryz.prog j3B:=
 cOf j0i j03 jah j3B Tryz.func215 (j9 jbo trivial) trivial
def j5e:Con:=⟨153,[.v ty80,.v ty22],[ty80,ty22],⟨[.v iT],[]⟩,[iT],fun h=>Pw.j1Q h.1 h.2⟩
def jdC:FnD where
 N:=46
 np:=2
 cs:=[j3A,j3B]
 ds:=[⟨1,[.s (.one (.bp 192 0)),sI,sI,.b (.cell [.d .str,.d iT,.d (.list iT)] false)],[iT,iT,.str,iT,(.list iT)],[⟨.ret,[sI],[iT]⟩,⟨.exit 1,[],[]⟩],fun h=>Pw.j22 h.1 h.2.1 h.2.2.1 h.2.2.2.1 h.2.2.2.2⟩]
 modes:=[(212,[false,false]),(215,[false,false])]
 keep:=[(1,⟨[3,25,26],[192],[],[]⟩)]
 keepX:=[(1,.ret,⟨[4],[],[],[]⟩),
  (1,.exit 1,⟨[],[],[],[]⟩)]
 ro:=[false]
theorem jd3:Con.OK Tryz.prog j5e:=
 cOf j0i j03 jdC j5e Tryz.func153 (j9 j6a (j9 ja2 trivial)) (j9 (fun h=>by kernel_rfl) trivial)
def j7l:Con:=⟨152,[.v ty22,.ip [ty62,ty52,ty26,ty74]],[ty22,ty62,ty52,ty26,ty74],⟨[.v iT],[]⟩,[iT],fun h=>Pw.j4N h.1 h.2.1 h.2.2.1 h.2.2.2.1 h.2.2.2.2⟩
def jh5:FnD where
 N:=7
 np:=2
 cs:=[j5e]
 ds:=[]
 modes:=[(153,[false,false])]
 ro:=[false]
theorem jg8:Con.OK Tryz.prog j7l:=
 cOf j0i j03 jh5 j7l Tryz.func152 (j9 jd3 trivial) trivial
def j3R:Con:=⟨150,[.v ty26,.clo 151 [],.clo 152 [.p [ty62,ty52,ty26,ty74]]],[ty26,ty62,ty52,ty26,ty74],⟨[.v iT],[]⟩,[iT],fun h=>Pw.j1m h.1 h.2.1 h.2.2.1 h.2.2.2.1 h.2.2.2.2⟩
def jaJ:FnD where
 N:=34
 np:=3
 cs:=[j44,j7k,j7l]
 ds:=[⟨0,[.s (.one (.clo 151 [])),.s (.one (.clo 152 [.p [ty62,ty52,ty26,ty74]])),.s (.one (.ol 1000000)),.s (.one (.d ty26)),sI,sI,.b (.lst 4294967504 (.pair .str .bool) false)],[ty62,ty52,ty26,ty74,ty26,iT,iT,(.list (.pair .str .bool))],[⟨.ret,[sI],[iT]⟩,⟨.exit 0,[],[]⟩],fun h=>Pw.j0s h.1 h.2.1 h.2.2.1 h.2.2.2.1 h.2.2.2.2.1 h.2.2.2.2.2.1 h.2.2.2.2.2.2.1 h.2.2.2.2.2.2.2⟩]
 modes:=[(148,[false,true]),(151,[false]),(152,[false])]
 keep:=[(0,⟨[1,2,7,13,14,15],[],[⟨1000000,4294967504,(.pair .str .bool),[.slot 7],false⟩],[]⟩)]
 keepX:=[(0,.ret,⟨[6],[],[],[]⟩),
  (0,.exit 0,⟨[],[],[],[]⟩)]
 ro:=[false]
theorem jai:Con.OK Tryz.prog j3R:=
 cOf j0i j03 jaJ j3R Tryz.func150 (j9 j6O (j9 jg7 (j9 jg8 trivial))) (j9 (fun h=>by kernel_rfl) trivial)
def j7m:Con:=⟨155,[.v ty73],[ty73],⟨[.v .str],[]⟩,[.str],fun h=>Pw.jad h⟩
def jh6:FnD where
 N:=5
 np:=1
 cs:=[]
 ds:=[]
 ro:=[false]
theorem jg9:Con.OK Tryz.prog j7m:=
 cOf j0i j03 jh6 j7m Tryz.func155 trivial trivial
def j4j:Con:=⟨219,[.v ty68],[ty68],⟨[.v .str],[]⟩,[.str],fun h=>Pw.j5t h⟩
def jbS:FnD where
 N:=5
 np:=1
 cs:=[]
 ds:=[]
 ro:=[false]
theorem jbp:Con.OK Tryz.prog j4j:=
 cOf j0i j03 jbS j4j Tryz.func219 trivial trivial
def j5f:Con:=⟨272,[.v iT,.ip [ty62,ty52,ty26,ty74]],[iT,ty62,ty52,ty26,ty74],⟨[.v .bool],[]⟩,[.bool],fun h=>Pw.j6H h.1 h.2.1 h.2.2.1 h.2.2.2.1 h.2.2.2.2⟩
def jdD:FnD where
 N:=10
 np:=2
 cs:=[j3A]
 ds:=[]
 modes:=[(212,[false,false])]
 ro:=[false]
theorem jd4:Con.OK Tryz.prog j5f:=
 cOf j0i j03 jdD j5f Tryz.func272 (j9 j6a trivial) trivial
def j3C:Con:=⟨192,[.v (.list iT),.clo 272 [.p [ty62,ty52,ty26,ty74]]],[(.list iT),ty62,ty52,ty26,ty74],⟨[.v iT],[]⟩,[iT],fun h=>Pw.j1K h.1 h.2.1 h.2.2.1 h.2.2.2.1 h.2.2.2.2⟩
def jaj:FnD where
 N:=19
 np:=2
 cs:=[j5f]
 ds:=[⟨0,[.s (.one (.d (.list iT))),.s (.one (.clo 272 [.p [ty62,ty52,ty26,ty74]])),sI,sI],[(.list iT),ty62,ty52,ty26,ty74,iT,iT],[⟨.ret,[sI],[iT]⟩,⟨.exit 0,[],[]⟩],fun h=>Pw.j19 h.1 h.2.1 h.2.2.1 h.2.2.2.1 h.2.2.2.2.1 h.2.2.2.2.2.1 h.2.2.2.2.2.2⟩]
 modes:=[(272,[false])]
 keep:=[(0,⟨[0,1,7,8],[],[],[]⟩)]
 keepX:=[(0,.ret,⟨[4],[],[],[]⟩),
  (0,.exit 0,⟨[],[],[],[]⟩)]
 ro:=[false]
theorem ja3:Con.OK Tryz.prog j3C:=
 cOf j0i j03 jaj j3C Tryz.func192 (j9 jd4 trivial) (j9 (fun h=>by kernel_rfl) trivial)
def j37:Con:=⟨215,[.v (.list iT),.clo 272 [.p [ty62,ty52,ty26,ty74]]],[(.list iT),ty62,ty52,ty26,ty74],⟨[.v .bool],[]⟩,[.bool],fun h=>Pw.j1f h.1 h.2.1 h.2.2.1 h.2.2.2.1 h.2.2.2.2⟩
def j8W:FnD where
 N:=9
 np:=2
 cs:=[j3C]
 ds:=[]
 modes:=[(192,[false,false])]
 ro:=[false]
theorem j8x:Con.OK Tryz.prog j37:=
 cOf j0i j03 j8W j37 Tryz.func215 (j9 ja3 trivial) trivial
def j6k:Con:=⟨221,[.v ty80,.v ty68],[ty80,ty68],⟨[.v iT],[]⟩,[iT],fun h=>Pw.j2H h.1 h.2⟩
def jfq:FnD where
 N:=91
 np:=2
 cs:=[j3A,j9H,j7L,j6S,j37]
 ds:=[]
 modes:=[(212,[false,false]),(213,[false]),(215,[false,false]),(217,[false]),(270,[false,false,false])]
 ro:=[false]
theorem jeK:Con.OK Tryz.prog j6k:=
 cOf j0i j03 jfq j6k Tryz.func221 (j9 j6a (j9 jh3 (j9 jdB (j9 jcw (j9 j8x trivial))))) trivial
def j4k:Con:=⟨220,[.v ty68,.ip [ty62,ty52,ty26,ty74]],[ty68,ty62,ty52,ty26,ty74],⟨[.v iT],[]⟩,[iT],fun h=>Pw.j2k h.1 h.2.1 h.2.2.1 h.2.2.2.1 h.2.2.2.2⟩
def jbT:FnD where
 N:=7
 np:=2
 cs:=[j6k]
 ds:=[]
 modes:=[(221,[false,false])]
 ro:=[false]
theorem jbq:Con.OK Tryz.prog j4k:=
 cOf j0i j03 jbT j4k Tryz.func220 (j9 jeK trivial) trivial
def j4A:Con:=⟨218,[.v ty69,.clo 219 [],.clo 220 [.p [ty62,ty52,ty26,ty74]]],[ty69,ty62,ty52,ty26,ty74],⟨[.v iT],[]⟩,[iT],fun h=>Pw.j1Z h.1 h.2.1 h.2.2.1 h.2.2.2.1 h.2.2.2.2⟩
def jcx:FnD where
 N:=34
 np:=3
 cs:=[j44,j4j,j4k]
 ds:=[⟨0,[.s (.one (.clo 219 [])),.s (.one (.clo 220 [.p [ty62,ty52,ty26,ty74]])),.s (.one (.ol 1000000)),.s (.one (.d ty69)),sI,sI,.b (.lst 4294967504 (.pair .str .bool) false)],[ty62,ty52,ty26,ty74,ty69,iT,iT,(.list (.pair .str .bool))],[⟨.ret,[sI],[iT]⟩,⟨.exit 0,[],[]⟩],fun h=>Pw.j0C h.1 h.2.1 h.2.2.1 h.2.2.2.1 h.2.2.2.2.1 h.2.2.2.2.2.1 h.2.2.2.2.2.2.1 h.2.2.2.2.2.2.2⟩]
 modes:=[(148,[false,true]),(219,[false]),(220,[false])]
 keep:=[(0,⟨[1,2,7,13,14,15],[],[⟨1000000,4294967504,(.pair .str .bool),[.slot 7],false⟩],[]⟩)]
 keepX:=[(0,.ret,⟨[6],[],[],[]⟩),
  (0,.exit 0,⟨[],[],[],[]⟩)]
 ro:=[false]
theorem jbU:Con.OK Tryz.prog j4A:=
 cOf j0i j03 jcx j4A Tryz.func218 (j9 j6O (j9 jbp (j9 jbq trivial))) (j9 (fun h=>by kernel_rfl) trivial)
def j6T:Con:=⟨222,[.v ty80,.v ty38],[ty80,ty38],⟨[.v iT],[]⟩,[iT],fun h=>Pw.j32 h.1 h.2⟩
def jga:FnD where
 N:=83
 np:=2
 cs:=[j3A,j7L,j6S]
 ds:=[]
 modes:=[(212,[false,false]),(217,[false]),(270,[false,false,false])]
 ro:=[false]
theorem jfr:Con.OK Tryz.prog j6T:=
 cOf j0i j03 jga j6T Tryz.func222 (j9 j6a (j9 jdB (j9 jcw trivial))) trivial
def j5g:Con:=⟨157,[.v ty80,.v ty73],[ty80,ty73],⟨[.v iT],[]⟩,[iT],fun h=>Pw.j1R h.1 h.2⟩
def jdE:FnD where
 N:=40
 np:=2
 cs:=[j4A,j6T]
 ds:=[⟨0,[.s (.one (.bp 128 0)),.s (.one (.d ty40)),sI,sI,.b (.cell [.d ty62,.d ty52,.d ty26,.d ty74] true)],[ty40,iT,iT,ty62,ty52,ty26,ty74],[⟨.ret,[sI],[iT]⟩,⟨.exit 0,[],[]⟩],fun h=>Pw.j0L h.1 h.2.1 h.2.2.1 h.2.2.2.1 h.2.2.2.2.1 h.2.2.2.2.2.1 h.2.2.2.2.2.2⟩]
 modes:=[(218,[false,false,false]),(222,[false,false])]
 keep:=[(0,⟨[2,27,28,29],[128],[],[]⟩)]
 keepX:=[(0,.ret,⟨[4],[],[],[]⟩),
  (0,.exit 0,⟨[],[],[],[]⟩)]
 ro:=[false]
theorem jd5:Con.OK Tryz.prog j5g:=
 cOf j0i j03 jdE j5g Tryz.func157 (j9 jbU (j9 jfr trivial)) (j9 (fun h=>by kernel_rfl) trivial)
def j7n:Con:=⟨156,[.v ty73,.ip [ty62,ty52,ty26,ty74]],[ty73,ty62,ty52,ty26,ty74],⟨[.v iT],[]⟩,[iT],fun h=>Pw.j4O h.1 h.2.1 h.2.2.1 h.2.2.2.1 h.2.2.2.2⟩
def jh7:FnD where
 N:=7
 np:=2
 cs:=[j5g]
 ds:=[]
 modes:=[(157,[false,false])]
 ro:=[false]
theorem jgb:Con.OK Tryz.prog j7n:=
 cOf j0i j03 jh7 j7n Tryz.func156 (j9 jd5 trivial) trivial
def j3S:Con:=⟨154,[.v ty74,.clo 155 [],.clo 156 [.p [ty62,ty52,ty26,ty74]]],[ty74,ty62,ty52,ty26,ty74],⟨[.v iT],[]⟩,[iT],fun h=>Pw.j1X h.1 h.2.1 h.2.2.1 h.2.2.2.1 h.2.2.2.2⟩
def jaK:FnD where
 N:=34
 np:=3
 cs:=[j44,j7m,j7n]
 ds:=[⟨0,[.s (.one (.clo 155 [])),.s (.one (.clo 156 [.p [ty62,ty52,ty26,ty74]])),.s (.one (.ol 1000000)),.s (.one (.d ty74)),sI,sI,.b (.lst 4294967504 (.pair .str .bool) false)],[ty62,ty52,ty26,ty74,ty74,iT,iT,(.list (.pair .str .bool))],[⟨.ret,[sI],[iT]⟩,⟨.exit 0,[],[]⟩],fun h=>Pw.j0t h.1 h.2.1 h.2.2.1 h.2.2.2.1 h.2.2.2.2.1 h.2.2.2.2.2.1 h.2.2.2.2.2.2.1 h.2.2.2.2.2.2.2⟩]
 modes:=[(148,[false,true]),(155,[false]),(156,[false])]
 keep:=[(0,⟨[1,2,7,13,14,15],[],[⟨1000000,4294967504,(.pair .str .bool),[.slot 7],false⟩],[]⟩)]
 keepX:=[(0,.ret,⟨[6],[],[],[]⟩),
  (0,.exit 0,⟨[],[],[],[]⟩)]
 ro:=[false]
theorem jak:Con.OK Tryz.prog j3S:=
 cOf j0i j03 jaK j3S Tryz.func154 (j9 j6O (j9 jg9 (j9 jgb trivial))) (j9 (fun h=>by kernel_rfl) trivial)
def j9s:Con:=⟨99,[.v ty80],[ty80],⟨[.v iT],[]⟩,[iT],fun h=>Pw.j4U h⟩
def jk9:FnD where
 N:=72
 np:=1
 cs:=[j44,j4I,j5Y,j3R,j3S]
 ds:=[⟨0,[.s (.one (.bp 64 0)),.s (.one (.ol 1000000)),.s (.one (.d ty52)),sI,sI,.b (.cell [.d ty62,.d ty52,.d ty26,.d ty74] false),.b (.lst 4294967504 (.pair .str .bool) false)],[ty52,iT,iT,ty62,ty52,ty26,ty74,(.list (.pair .str .bool))],[⟨.ret,[sI],[iT]⟩,⟨.exit 0,[.s (.one (.bp 64 0)),.b (.cell [.d ty62,.d ty52,.d ty26,.d ty74] false)],[ty62,ty52,ty26,ty74]⟩],fun h=>Pw.j1S h.1 h.2.1 h.2.2.1 h.2.2.2.1 h.2.2.2.2.1 h.2.2.2.2.2.1 h.2.2.2.2.2.2.1 h.2.2.2.2.2.2.2⟩]
 modes:=[(145,[false,false,false]),(148,[false,true]),(149,[false,false]),(150,[false,false,false]),(154,[false,false,false])]
 keep:=[(0,⟨[1,4,39,40,41],[64],[⟨1000000,4294967504,(.pair .str .bool),[.slot 4],false⟩],[]⟩)]
 keepX:=[(0,.ret,⟨[2],[],[],[]⟩),
  (0,.exit 0,⟨[1],[64],[],[]⟩)]
 ro:=[false]
theorem jiJ:Con.OK Tryz.prog j9s:=
 cOf j0i j03 jk9 j9s Tryz.func99 (j9 j6O (j9 jcu (j9 jea (j9 jai (j9 jak trivial))))) (j9 (fun h=>by kernel_rfl) trivial)
def jgc:Con:=⟨223,[.v ty61],[ty61],⟨[.v ty25,.v iT],[]⟩,[ty25,iT],fun h=>Pw.jeE h⟩
def jt8:FnD where
 N:=16
 np:=1
 cs:=[j5p]
 ds:=[]
 modes:=[(266,[false])]
 ro:=[false,false]
theorem jrB:Con.OK Tryz.prog jgc:=
 cOf j0i j03 jt8 jgc Tryz.func223 (j9 jbm trivial) trivial
def jbr:Con:=⟨158,[.v ty62],[ty62],⟨[.own 140 ty29],[]⟩,[ty29],fun h=>Pw.j9i h⟩
def jmP:FnD where
 N:=25
 np:=1
 cs:=[jgc]
 ds:=[⟨0,[.s (.one (.ol 1000000)),.s (.one (.d ty62)),sI,sI,.b (.lst 140 ty25 false)],[ty62,iT,iT,ty29],[⟨.exit 0,[.s (.one (.ol 1500100)),.b (.lst 140 ty25 false)],[ty29]⟩],fun h=>Pw.j2o h.1 h.2.1 h.2.2.1 h.2.2.2⟩]
 modes:=[(223,[false])]
 keep:=[(0,⟨[3,8,9,10],[],[⟨1000000,140,ty25,[.slot 3],false⟩],[]⟩)]
 keepX:=[(0,.exit 0,⟨[3],[],[⟨1500100,140,ty25,[.slot 3],false⟩],[]⟩)]
 ro:=[true]
theorem jl2:Con.OK Tryz.prog jbr:=
 cOf j0i j03 jmP jbr Tryz.func158 (j9 jrB trivial) (j9 (fun h=>by kernel_rfl) trivial)
end Go.Proofs.Pk
