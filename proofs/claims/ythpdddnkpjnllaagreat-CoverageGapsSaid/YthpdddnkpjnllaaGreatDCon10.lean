/- Contracts: each given function is its plain function, printed by a program. -/
import Derived.Test.YthpdddnkpjnllaaGreatDCon9
noncomputable section
open Go Go.Lft
set_option linter.unusedVariables false
set_option maxRecDepth 100000
namespace Go.Proofs.Pk
def jan:Con:=⟨188,[.v ty8],[ty8],⟨[.v iT],[]⟩,[iT],fun h=>Pw.j3O h⟩
def jnt:FnD where
 N:=10
 np:=1
 cs:=[j7Y]
 ds:=[]
 modes:=[(230,[false])]
 ro:=[false]
theorem jm3:Con.OK Tryz.prog jan:=
 cOf j0a j03 jnt jan Tryz.func188 (j9 jg9 trivial) trivial
def jh5:Con:=⟨187,[.v ty12,.v iT],[ty12,iT],⟨[.v .bool],[]⟩,[.bool],fun h=>Pw.jmG h.1 h.2⟩
def jvS:FnD where
 N:=24
 np:=2
 cs:=[]
 ds:=[⟨0,[sI,.s (.one (.d ty12)),sI,sI],[iT,ty12,iT,iT],[⟨.ret,[.s (.one (.d .bool))],[.bool]⟩,⟨.exit 0,[],[]⟩],fun h=>Pw.j6V h.1 h.2.1 h.2.2.1 h.2.2.2⟩]
 keep:=[(0,⟨[1,7,8,9],[],[],[]⟩)]
 keepX:=[(0,.ret,⟨[4],[],[],[]⟩),
  (0,.exit 0,⟨[],[],[],[]⟩)]
 ro:=[false]
theorem jts:Con.OK Tryz.prog jh5:=
 cOf j0a j03 jvS jh5 Tryz.func187 trivial (j9 (fun h=>by kernel_rfl) trivial)
def jbu:Con:=⟨156,[.v ty81,.v ty67,.v iT],[ty81,ty67,iT],⟨[.v iT,.v .bool],[]⟩,[iT,.bool],fun h=>Pw.j7G h.1 h.2.1 h.2.2⟩
def jop:FnD where
 N:=79
 np:=3
 cs:=[j5S,j82,j2A,jan,jh5]
 ds:=[]
 modes:=[(159,[false,false,false]),(168,[false,false]),(187,[false,false]),(188,[false]),(189,[false,false])]
 ro:=[false,false]
theorem jnu:Con.OK Tryz.prog jbu:=
 cOf j0a j03 jop jbu Tryz.func156 (j9 jd7 (j9 jgb (j9 j6i (j9 jm3 (j9 jts trivial))))) trivial
def j8f:Con:=⟨103,[.v ty81,.v ty67,.v iT],[ty81,ty67,iT],⟨[.v iT],[]⟩,[iT],fun h=>Pw.j4h h.1 h.2.1 h.2.2⟩
def jk8:FnD where
 N:=27
 np:=3
 cs:=[jbu]
 ds:=[]
 modes:=[(156,[false,false,false])]
 ro:=[false]
theorem jiO:Con.OK Tryz.prog j8f:=
 cOf j0a j03 jk8 j8f Tryz.func103 (j9 jnu trivial) trivial
def jao:Con:=⟨57,[.v ty37,.ip [iT],.ip [iT]],[ty37,iT,iT],⟨[.v .bool],[]⟩,[.bool],fun h=>Pw.jfo h.1 h.2.1 h.2.2⟩
def jnv:FnD where
 N:=26
 np:=3
 cs:=[]
 ds:=[]
 ro:=[false]
theorem jm4:Con.OK Tryz.prog jao:=
 cOf j0a j03 jnv jao Tryz.func57 trivial trivial
def j2y:Con:=⟨101,[.v ty39,.clo 57 [.p [iT],.p [iT]]],[ty39,iT,iT],⟨[.v iT],[]⟩,[iT],fun h=>Pw.j37 h.1 h.2.1 h.2.2⟩
def j8E:FnD where
 N:=19
 np:=2
 cs:=[jao]
 ds:=[⟨0,[.s (.one (.d ty39)),.s (.one (.clo 57 [.p [iT],.p [iT]])),sI,sI],[ty39,iT,iT,iT,iT],[⟨.ret,[sI],[iT]⟩,⟨.exit 0,[],[]⟩],fun h=>Pw.j0O h.1 h.2.1 h.2.2.1 h.2.2.2.1 h.2.2.2.2⟩]
 modes:=[(57,[false])]
 keep:=[(0,⟨[0,1,7,8],[],[],[]⟩)]
 keepX:=[(0,.ret,⟨[4],[],[],[]⟩),
  (0,.exit 0,⟨[],[],[],[]⟩)]
 ro:=[false]
theorem j8g:Con.OK Tryz.prog j2y:=
 cOf j0a j03 j8E j2y Tryz.func101 (j9 jm4 trivial) (j9 (fun h=>by kernel_rfl) trivial)
def j2c:Con:=⟨56,[.v ty39,.clo 57 [.p [iT],.p [iT]]],[ty39,iT,iT],⟨[.v .bool],[]⟩,[.bool],fun h=>Pw.j2E h.1 h.2.1 h.2.2⟩
def j7M:FnD where
 N:=9
 np:=2
 cs:=[j2y]
 ds:=[]
 modes:=[(101,[false,false])]
 ro:=[false]
theorem j7l:Con.OK Tryz.prog j2c:=
 cOf j0a j03 j7M j2c Tryz.func56 (j9 j8g trivial) trivial
def jea:Con:=⟨24,[.v ty72,.v iT,.v iT],[ty72,iT,iT],⟨[.v .bool],[]⟩,[.bool],fun h=>Pw.jhU h.1 h.2.1 h.2.2⟩
def jrV:FnD where
 N:=11
 np:=3
 cs:=[j2c]
 ds:=[]
 modes:=[(56,[false,false])]
 ro:=[false]
theorem jqh:Con.OK Tryz.prog jea:=
 cOf j0a j03 jrV jea Tryz.func24 (j9 j7l trivial) trivial
def jap:Con:=⟨59,[.v ty81,.v ty72,.v iT],[ty81,ty72,iT],⟨[.v iT,.v iT],[]⟩,[iT,iT],fun h=>Pw.jk2 h.1 h.2.1 h.2.2⟩
def jnw:FnD where
 N:=29
 np:=3
 cs:=[j1s,j8f,jea]
 ds:=[⟨0,[sI,.s (.one (.bp 192 0)),.s (.one (.bp 256 0)),.s (.one (.bp 320 0)),.s (.one (.bp 384 0)),.s (.one (.bp 448 0)),.s (.one (.clo 155 [.p [ty68]])),.b (.cell [.d ty61,.d ty51,.d ty26,.d ty73,.d ty29] false),.b (.cell [.d .str,.d ty68,.d ty39] false),.b (.cell [.d iT] false),.b (.cell [.d iT] false),.b (.cell [.d iT] false)],[iT,ty68,ty61,ty51,ty26,ty73,ty29,.str,ty68,ty39,iT,iT,iT],[⟨.normal,[.s (.one (.bp 384 0)),.s (.one (.bp 448 0)),.b (.cell [.d iT] false),.b (.cell [.d iT] false)],[iT,iT]⟩,⟨.ret,[.s (.one (.bp 384 0)),.s (.one (.bp 448 0)),.b (.cell [.d iT] false),.b (.cell [.d iT] false)],[iT,iT]⟩],fun h=>Pw.j41 h.1 h.2.1 h.2.2.1 h.2.2.2.1 h.2.2.2.2.1 h.2.2.2.2.2.1 h.2.2.2.2.2.2.1 h.2.2.2.2.2.2.2.1 h.2.2.2.2.2.2.2.2.1 h.2.2.2.2.2.2.2.2.2.1 h.2.2.2.2.2.2.2.2.2.2.1 h.2.2.2.2.2.2.2.2.2.2.2.1 h.2.2.2.2.2.2.2.2.2.2.2.2⟩]
 modes:=[(24,[false,false,false]),(102,[false]),(103,[false,false,false])]
 keep:=[(0,⟨[3,4,5,6,7,13],[192,256,320,384,448],[],[]⟩)]
 keepX:=[(0,.normal,⟨[6,7],[384,448],[],[]⟩),
  (0,.ret,⟨[6,7],[384,448],[],[]⟩)]
 ro:=[false,false]
 bw:=[(155,ty67)]
theorem jm5:Con.OK Tryz.prog jap:=
 cOf j0a j03 jnw jap Tryz.func59 (j9 j4a (j9 jiO (j9 jqh trivial))) (j9 (fun h=>by kernel_rfl) trivial) (j9 juV trivial)
def jeb:Con:=⟨151,[.v ty81,.v ty72,.v iT],[ty81,ty72,iT],⟨[.v iT],[]⟩,[iT],fun h=>Pw.jph h.1 h.2.1 h.2.2⟩
def jrW:FnD where
 N:=27
 np:=3
 cs:=[jc7,jap]
 ds:=[]
 modes:=[(59,[false,false,false]),(169,[false,false,false])]
 ro:=[false]
theorem jqi:Con.OK Tryz.prog jeb:=
 cOf j0a j03 jrW jeb Tryz.func151 (j9 jlS (j9 jm5 trivial)) trivial
def jh6:Con:=⟨97,[.v ty79,.v iT,.v iT],[ty79,iT,iT],⟨[.v iT],[]⟩,[iT],fun h=>Pw.juU h.1 h.2.1 h.2.2⟩
def jvT:FnD where
 N:=30
 np:=3
 cs:=[jcY,j7O,jeb]
 ds:=[]
 modes:=[(41,[false,false]),(63,[false]),(151,[false,false,false])]
 ro:=[false]
theorem jtt:Con.OK Tryz.prog jh6:=
 cOf j0a j03 jvT jh6 Tryz.func97 (j9 jlc (j9 jed (j9 jqi trivial))) trivial
def jil:Con:=⟨50,[.v ty79,.v iT,.v iT],[ty79,iT,iT],⟨[.v iT],[]⟩,[iT],fun h=>Pw.jvR h.1 h.2.1 h.2.2⟩
def jrX:FnD where
 N:=11
 np:=3
 cs:=[jh6]
 ds:=[]
 modes:=[(97,[false,false,false])]
 ro:=[false]
theorem jzD:Con.OK Tryz.prog jil:=
 cOf j0a j03 jrX jil Tryz.func50 (j9 jtt trivial) trivial
end Go.Proofs.Pk
