/- Contracts: each given function is its plain function, printed by a program. -/
import Derived.Test.YthpdddnkpjnllaaGreatGCon8
noncomputable section
open Go Go.Lft
set_option linter.unusedVariables false
set_option maxRecDepth 100000
namespace Go.Proofs.Pk
def jf5:Con:=⟨182,[.v ty60,.v ty67,.v iT],[ty60,ty67,iT],⟨[.v iT],[]⟩,[iT],fun h=>Pw.jgh h.1 h.2.1 h.2.2⟩
def jsw:FnD where
 N:=81
 np:=3
 cs:=[jbk,j6M,jaQ]
 ds:=[⟨0,[sI,.s (.one (.bp 192 0)),.s (.one (.bp 256 0)),sI,.b (.cell [.d .str,.d iT,.d ty53] false),.b (.cell [.d .str,.d iT,.d iT,.d iT,.d iT,.d iT,.d (.list iT),.d ty12,.d iT,.d iT] false)],[iT,iT,.str,iT,ty53,.str,iT,iT,iT,iT,iT,(.list iT),ty12,iT,iT],[⟨.exit 0,[sI],[iT]⟩],fun h=>Pw.j5e h.1 h.2.1 h.2.2.1 h.2.2.2.1 h.2.2.2.2.1 h.2.2.2.2.2.1 h.2.2.2.2.2.2.1 h.2.2.2.2.2.2.2.1 h.2.2.2.2.2.2.2.2.1 h.2.2.2.2.2.2.2.2.2.1 h.2.2.2.2.2.2.2.2.2.2.1 h.2.2.2.2.2.2.2.2.2.2.2.1 h.2.2.2.2.2.2.2.2.2.2.2.2.1 h.2.2.2.2.2.2.2.2.2.2.2.2.2.1 h.2.2.2.2.2.2.2.2.2.2.2.2.2.2⟩]
 modes:=[(48,[false,false]),(92,[false,false,false]),(154,[false,false])]
 keep:=[(0,⟨[2,3,4,7],[192,256],[],[]⟩)]
 keepX:=[(0,.exit 0,⟨[7],[],[],[]⟩)]
 ro:=[false]
theorem jr7:Con.OK Tryz.prog jf5:=
 cOf j07 j02 jsw jf5 Tryz.func182 (j9 jkV (j9 jdz (j9 jmL trivial))) (j9 (fun h=>by kernel_rfl) trivial)
def jf6:Con:=⟨152,[.v ty60,.v ty67,.v iT],[ty60,ty67,iT],⟨[.v iT,.v iT],[]⟩,[iT,iT],fun h=>Pw.jgi h.1 h.2.1 h.2.2⟩
def jsx:FnD where
 N:=22
 np:=3
 cs:=[jf2,jf5]
 ds:=[]
 modes:=[(91,[false,false]),(182,[false,false,false])]
 ro:=[false,false]
theorem jr8:Con.OK Tryz.prog jf6:=
 cOf j07 j02 jsx jf6 Tryz.func152 (j9 jr3 (j9 jr7 trivial)) trivial
def jdA:Con:=⟨228,[.v ty8],[ty8],⟨[.v iT],[]⟩,[iT],fun h=>Pw.jh8 h⟩
def jr9:FnD where
 N:=10
 np:=1
 cs:=[j8O]
 ds:=[]
 modes:=[(226,[false])]
 ro:=[false]
theorem jpr:Con.OK Tryz.prog jdA:=
 cOf j07 j02 jr9 jdA Tryz.func228 (j9 jhC trivial) trivial
def jdB:Con:=⟨183,[.v ty60,.v iT],[ty60,iT],⟨[.v iT,.v iT],[]⟩,[iT,iT],fun h=>Pw.jbv h.1 h.2⟩
def jra:FnD where
 N:=19
 np:=2
 cs:=[j6M,jdA]
 ds:=[]
 modes:=[(154,[false,false]),(228,[false])]
 ro:=[false,false]
theorem jps:Con.OK Tryz.prog jdB:=
 cOf j07 j02 jra jdB Tryz.func183 (j9 jdz (j9 jpr trivial)) trivial
def jdC:Con:=⟨184,[.v ty12,.v iT],[ty12,iT],⟨[.v .bool],[]⟩,[.bool],fun h=>Pw.jh9 h.1 h.2⟩
def jrb:FnD where
 N:=28
 np:=2
 cs:=[]
 ds:=[⟨0,[.s (.one (.d ty12)),sI,sI],[ty12,iT,iT],[⟨.ret,[.s (.one (.d .bool))],[.bool]⟩,⟨.exit 0,[],[]⟩],fun h=>Pw.j4G h.1 h.2.1 h.2.2⟩]
 keep:=[(0,⟨[0,1,5],[],[],[]⟩)]
 keepX:=[(0,.ret,⟨[4],[],[],[]⟩),
  (0,.exit 0,⟨[],[],[],[]⟩)]
 ro:=[false]
theorem jpt:Con.OK Tryz.prog jdC:=
 cOf j07 j02 jrb jdC Tryz.func184 trivial (j9 (fun h=>by kernel_rfl) trivial)
def jkz:Con:=⟨153,[.v ty60,.v ty12,.v iT],[ty60,ty12,iT],⟨[.v .bool],[]⟩,[.bool],fun h=>Pw.jqv h.1 h.2.1 h.2.2⟩
def jxy:FnD where
 N:=27
 np:=3
 cs:=[j8Q,jdB,jdC]
 ds:=[]
 modes:=[(142,[false]),(183,[false,false]),(184,[false,false])]
 ro:=[false]
theorem jwa:Con.OK Tryz.prog jkz:=
 cOf j07 j02 jxy jkz Tryz.func153 (j9 jgA (j9 jps (j9 jpt trivial))) trivial
def jgC:Con:=⟨100,[.v ty79,.v ty67,.v iT],[ty79,ty67,iT],⟨[.v iT,.v .bool],[]⟩,[iT,.bool],fun h=>Pw.jje h.1 h.2.1 h.2.2⟩
def juv:FnD where
 N:=94
 np:=3
 cs:=[j6M,jf6,jkz]
 ds:=[⟨0,[.s (.one (.bp 256 0)),sI,.s (.one (.bp 704 0)),.s (.one (.bp 768 0)),.s (.one (.d .bool)),sI,.b (.cell [.d .str,.d iT,.d iT,.d iT,.d iT,.d iT,.d (.list iT),.d ty12,.d iT,.d iT] false),.b (.cell [.d .str,.d iT,.d (.list iT)] false),.b (.cell [.d iT,.d iT] false)],[iT,.bool,iT,.str,iT,iT,iT,iT,iT,(.list iT),ty12,iT,iT,.str,iT,(.list iT),iT,iT],[⟨.exit 0,[.s (.one (.bp 256 0)),sI,.s (.one (.d .bool)),.b (.cell [.d .str,.d iT,.d iT,.d iT,.d iT,.d iT,.d (.list iT),.d ty12,.d iT,.d iT] false)],[iT,.bool,.str,iT,iT,iT,iT,iT,(.list iT),ty12,iT,iT]⟩],fun h=>Pw.j5S h.1 h.2.1 h.2.2.1 h.2.2.2.1 h.2.2.2.2.1 h.2.2.2.2.2.1 h.2.2.2.2.2.2.1 h.2.2.2.2.2.2.2.1 h.2.2.2.2.2.2.2.2.1 h.2.2.2.2.2.2.2.2.2.1 h.2.2.2.2.2.2.2.2.2.2.1 h.2.2.2.2.2.2.2.2.2.2.2.1 h.2.2.2.2.2.2.2.2.2.2.2.2.1 h.2.2.2.2.2.2.2.2.2.2.2.2.2.1 h.2.2.2.2.2.2.2.2.2.2.2.2.2.2.1 h.2.2.2.2.2.2.2.2.2.2.2.2.2.2.2.1 h.2.2.2.2.2.2.2.2.2.2.2.2.2.2.2.2.1 h.2.2.2.2.2.2.2.2.2.2.2.2.2.2.2.2.2⟩]
 modes:=[(152,[false,false,false]),(153,[false,false,false]),(154,[false,false])]
 keep:=[(0,⟨[4,9,11,12,14,15],[256,704,768],[],[]⟩)]
 keepX:=[(0,.exit 0,⟨[4,9,14],[256],[],[]⟩)]
 ro:=[false,false]
theorem jsy:Con.OK Tryz.prog jgC:=
 cOf j07 j02 juv jgC Tryz.func100 (j9 jdz (j9 jr8 (j9 jwa trivial))) (j9 (fun h=>by kernel_rfl) trivial)
def jil:Con:=⟨55,[.v ty79,.v ty67,.v iT],[ty79,ty67,iT],⟨[.v iT],[]⟩,[iT],fun h=>Pw.jmm h.1 h.2.1 h.2.2⟩
def jwb:FnD where
 N:=27
 np:=3
 cs:=[jgC]
 ds:=[]
 modes:=[(100,[false,false,false])]
 ro:=[false]
theorem juw:Con.OK Tryz.prog jil:=
 cOf j07 j02 jwb jil Tryz.func55 (j9 jsy trivial) trivial
def jgD:Con:=⟨181,[.v ty72,.v iT,.v iT],[ty72,iT,iT],⟨[.v .bool],[]⟩,[.bool],fun h=>Pw.jlC h.1 h.2.1 h.2.2⟩
def jux:FnD where
 N:=42
 np:=3
 cs:=[]
 ds:=[⟨0,[sI,sI,.s (.one (.bp 192 0)),sI,.b (.cell [.d .str,.d ty68,.d ty39] false)],[iT,iT,iT,.str,ty68,ty39],[⟨.ret,[.s (.one (.d .bool))],[.bool]⟩,⟨.exit 0,[],[]⟩],fun h=>Pw.j5T h.1 h.2.1 h.2.2.1 h.2.2.2.1 h.2.2.2.2.1 h.2.2.2.2.2⟩]
 keep:=[(0,⟨[1,2,3,7],[192],[],[]⟩)]
 keepX:=[(0,.ret,⟨[6],[],[],[]⟩),
  (0,.exit 0,⟨[],[],[],[]⟩)]
 ro:=[false]
theorem jsz:Con.OK Tryz.prog jgD:=
 cOf j07 j02 jux jgD Tryz.func181 trivial (j9 (fun h=>by kernel_rfl) trivial)
def jim:Con:=⟨149,[.v ty79,.v iT,.v iT],[ty79,iT,iT],⟨[.v iT,.v iT],[]⟩,[iT,iT],fun h=>Pw.joW h.1 h.2.1 h.2.2⟩
def jwc:FnD where
 N:=43
 np:=3
 cs:=[jil,jgD]
 ds:=[⟨0,[sI,.s (.one (.bp 192 0)),.s (.one (.bp 512 0)),sI,.b (.cell [.d ty61,.d ty51,.d ty26,.d ty73] false),.b (.cell [.d .str,.d ty68,.d ty39] false)],[iT,iT,ty61,ty51,ty26,ty73,.str,ty68,ty39],[⟨.ret,[sI,sI],[iT,iT]⟩,⟨.exit 0,[],[]⟩],fun h=>Pw.j6z h.1 h.2.1 h.2.2.1 h.2.2.2.1 h.2.2.2.2.1 h.2.2.2.2.2.1 h.2.2.2.2.2.2.1 h.2.2.2.2.2.2.2.1 h.2.2.2.2.2.2.2.2⟩]
 modes:=[(55,[false,false,false]),(181,[false,false,false])]
 keep:=[(0,⟨[2,3,8,9],[192,512],[],[]⟩)]
 keepX:=[(0,.ret,⟨[6,7],[],[],[]⟩),
  (0,.exit 0,⟨[],[],[],[]⟩)]
 ro:=[false,false]
theorem juy:Con.OK Tryz.prog jim:=
 cOf j07 j02 jwc jim Tryz.func149 (j9 juw (j9 jsz trivial)) (j9 (fun h=>by kernel_rfl) trivial)
def jgE:Con:=⟨150,[.v ty39,.v iT,.v iT],[ty39,iT,iT],⟨[.v iT],[]⟩,[iT],fun h=>Pw.joX h.1 h.2.1 h.2.2⟩
def juz:FnD where
 N:=61
 np:=3
 cs:=[]
 ds:=[⟨0,[.s (.one (.d ty39)),sI,sI,sI],[ty39,iT,iT,iT],[⟨.exit 0,[sI],[iT]⟩],fun h=>Pw.j5U h.1 h.2.1 h.2.2.1 h.2.2.2⟩]
 keep:=[(0,⟨[0,1,2,7],[],[],[]⟩)]
 keepX:=[(0,.exit 0,⟨[1],[],[],[]⟩)]
 ro:=[false]
theorem jsA:Con.OK Tryz.prog jgE:=
 cOf j07 j02 juz jgE Tryz.func150 trivial (j9 (fun h=>by kernel_rfl) trivial)
def jin:Con:=⟨96,[.v ty79,.v iT,.v iT],[ty79,iT,iT],⟨[.v iT],[]⟩,[iT],fun h=>Pw.js2 h.1 h.2.1 h.2.2⟩
def jwd:FnD where
 N:=25
 np:=3
 cs:=[jim,jgE]
 ds:=[]
 modes:=[(149,[false,false,false]),(150,[false,false,false])]
 ro:=[false]
theorem juA:Con.OK Tryz.prog jin:=
 cOf j07 j02 jwd jin Tryz.func96 (j9 juy (j9 jsA trivial)) trivial
def jio:Con:=⟨49,[.v ty79,.v iT,.v iT],[ty79,iT,iT],⟨[.v iT],[]⟩,[iT],fun h=>Pw.js3 h.1 h.2.1 h.2.2⟩
def jwe:FnD where
 N:=16
 np:=3
 cs:=[jky,jin]
 ds:=[]
 modes:=[(95,[false,false,false]),(96,[false,false,false])]
 ro:=[false]
theorem juB:Con.OK Tryz.prog jio:=
 cOf j07 j02 jwe jio Tryz.func49 (j9 jw9 (j9 juA trivial)) trivial
def jip:Con:=⟨17,[.v ty79,.v iT,.v iT],[ty79,iT,iT],⟨[.v iT],[]⟩,[iT],fun h=>Pw.jhY h.1 h.2.1 h.2.2⟩
def jwf:FnD where
 N:=11
 np:=3
 cs:=[jio]
 ds:=[]
 modes:=[(49,[false,false,false])]
 ro:=[false]
theorem juC:Con.OK Tryz.prog jip:=
 cOf j07 j02 jwf jip Tryz.func17 (j9 juB trivial) trivial
def j7G:Con:=⟨8,[.v (.list iT),.v iT,.v iT],[(.list iT),iT,iT],⟨[.v .bool],[]⟩,[.bool],fun h=>Pw.j6A h.1 h.2.1 h.2.2⟩
def jf7:FnD where
 N:=52
 np:=3
 cs:=[jdg,j56,jdw,jeS,j7o,jgv,jip]
 ds:=[]
 modes:=[(10,[false]),(12,[false]),(13,[false,false]),(16,[false,false]),(17,[false,false,false]),(28,[]),(29,[false,false])]
 ro:=[false]
theorem law15_CoverageRepeats_ok:Con.OK Tryz.prog j7G:=
 cOf j07 j02 jf7 j7G Tryz.func8 (j9 joY (j9 jcu (j9 jpl (j9 jqS (j9 jih (j9 jsf (j9 juC trivial))))))) trivial
def j9K:Con:=⟨188,[.v ty8],[ty8],⟨[.v iT],[]⟩,[iT],fun h=>Pw.j3a h⟩
def jmM:FnD where
 N:=10
 np:=1
 cs:=[j6W]
 ds:=[]
 modes:=[(230,[false])]
 ro:=[false]
theorem jlh:Con.OK Tryz.prog j9K:=
 cOf j07 j02 jmM j9K Tryz.func188 (j9 jfp trivial) trivial
def jgF:Con:=⟨187,[.v ty12,.v iT],[ty12,iT],⟨[.v .bool],[]⟩,[.bool],fun h=>Pw.jlD h.1 h.2⟩
def juD:FnD where
 N:=24
 np:=2
 cs:=[]
 ds:=[⟨0,[sI,.s (.one (.d ty12)),sI,sI],[iT,ty12,iT,iT],[⟨.ret,[.s (.one (.d .bool))],[.bool]⟩,⟨.exit 0,[],[]⟩],fun h=>Pw.j5V h.1 h.2.1 h.2.2.1 h.2.2.2⟩]
 keep:=[(0,⟨[1,7,8,9],[],[],[]⟩)]
 keepX:=[(0,.ret,⟨[4],[],[],[]⟩),
  (0,.exit 0,⟨[],[],[],[]⟩)]
 ro:=[false]
theorem jsB:Con.OK Tryz.prog jgF:=
 cOf j07 j02 juD jgF Tryz.func187 trivial (j9 (fun h=>by kernel_rfl) trivial)
def jaR:Con:=⟨156,[.v ty81,.v ty67,.v iT],[ty81,ty67,iT],⟨[.v iT,.v .bool],[]⟩,[iT,.bool],fun h=>Pw.j6B h.1 h.2.1 h.2.2⟩
def jnE:FnD where
 N:=79
 np:=3
 cs:=[j55,j70,j1Y,j9K,jgF]
 ds:=[]
 modes:=[(159,[false,false,false]),(168,[false,false]),(187,[false,false]),(188,[false]),(189,[false,false])]
 ro:=[false,false]
theorem jmN:Con.OK Tryz.prog jaR:=
 cOf j07 j02 jnE jaR Tryz.func156 (j9 jcr (j9 jfr (j9 j5n (j9 jlh (j9 jsB trivial))))) trivial
def j7p:Con:=⟨103,[.v ty81,.v ty67,.v iT],[ty81,ty67,iT],⟨[.v iT],[]⟩,[iT],fun h=>Pw.j3z h.1 h.2.1 h.2.2⟩
def jjJ:FnD where
 N:=27
 np:=3
 cs:=[jaR]
 ds:=[]
 modes:=[(156,[false,false,false])]
 ro:=[false]
theorem jiq:Con.OK Tryz.prog j7p:=
 cOf j07 j02 jjJ j7p Tryz.func103 (j9 jmN trivial) trivial
def j9L:Con:=⟨57,[.v ty37,.ip [iT],.ip [iT]],[ty37,iT,iT],⟨[.v .bool],[]⟩,[.bool],fun h=>Pw.jeG h.1 h.2.1 h.2.2⟩
def jmO:FnD where
 N:=26
 np:=3
 cs:=[]
 ds:=[]
 ro:=[false]
theorem jli:Con.OK Tryz.prog j9L:=
 cOf j07 j02 jmO j9L Tryz.func57 trivial trivial
end Go.Proofs.Pk
