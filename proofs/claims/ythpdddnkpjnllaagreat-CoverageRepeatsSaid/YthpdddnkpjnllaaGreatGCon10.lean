/- Contracts: each given function is its plain function, printed by a program. -/
import Derived.Test.YthpdddnkpjnllaaGreatGCon9
noncomputable section
open Go Go.Lft
set_option linter.unusedVariables false
set_option maxRecDepth 100000
namespace Go.Proofs.Pk
def j1W:Con:=⟨101,[.v ty39,.clo 57 [.p [iT],.p [iT]]],[ty39,iT,iT],⟨[.v iT],[]⟩,[iT],fun h=>Pw.j2B h.1 h.2.1 h.2.2⟩
def j7C:FnD where
 N:=19
 np:=2
 cs:=[j9L]
 ds:=[⟨0,[.s (.one (.d ty39)),.s (.one (.clo 57 [.p [iT],.p [iT]])),sI,sI],[ty39,iT,iT,iT,iT],[⟨.ret,[sI],[iT]⟩,⟨.exit 0,[],[]⟩],fun h=>Pw.j0B h.1 h.2.1 h.2.2.1 h.2.2.2.1 h.2.2.2.2⟩]
 modes:=[(57,[false])]
 keep:=[(0,⟨[0,1,7,8],[],[],[]⟩)]
 keepX:=[(0,.ret,⟨[4],[],[],[]⟩),
  (0,.exit 0,⟨[],[],[],[]⟩)]
 ro:=[false]
theorem j7c:Con.OK Tryz.prog j1W:=
 cOf j07 j02 j7C j1W Tryz.func101 (j9 jli trivial) (j9 (fun h=>by kernel_rfl) trivial)
def j1A:Con:=⟨56,[.v ty39,.clo 57 [.p [iT],.p [iT]]],[ty39,iT,iT],⟨[.v .bool],[]⟩,[.bool],fun h=>Pw.j25 h.1 h.2.1 h.2.2⟩
def j6H:FnD where
 N:=9
 np:=2
 cs:=[j1W]
 ds:=[]
 modes:=[(101,[false,false])]
 ro:=[false]
theorem j6h:Con.OK Tryz.prog j1A:=
 cOf j07 j02 j6H j1A Tryz.func56 (j9 j7c trivial) trivial
def jdp:Con:=⟨24,[.v ty72,.v iT,.v iT],[ty72,iT,iT],⟨[.v .bool],[]⟩,[.bool],fun h=>Pw.jha h.1 h.2.1 h.2.2⟩
def jqH:FnD where
 N:=11
 np:=3
 cs:=[j1A]
 ds:=[]
 modes:=[(56,[false,false])]
 ro:=[false]
theorem jpa:Con.OK Tryz.prog jdp:=
 cOf j07 j02 jqH jdp Tryz.func24 (j9 j6h trivial) trivial
def j9A:Con:=⟨59,[.v ty81,.v ty72,.v iT],[ty81,ty72,iT],⟨[.v iT,.v iT],[]⟩,[iT,iT],fun h=>Pw.jjg h.1 h.2.1 h.2.2⟩
def jms:FnD where
 N:=29
 np:=3
 cs:=[j17,j7p,jdp]
 ds:=[⟨0,[sI,.s (.one (.bp 192 0)),.s (.one (.bp 256 0)),.s (.one (.bp 320 0)),.s (.one (.bp 384 0)),.s (.one (.bp 448 0)),.s (.one (.clo 155 [.p [ty68]])),.b (.cell [.d ty61,.d ty51,.d ty26,.d ty73,.d ty29] false),.b (.cell [.d .str,.d ty68,.d ty39] false),.b (.cell [.d iT] false),.b (.cell [.d iT] false),.b (.cell [.d iT] false)],[iT,ty68,ty61,ty51,ty26,ty73,ty29,.str,ty68,ty39,iT,iT,iT],[⟨.normal,[.s (.one (.bp 384 0)),.s (.one (.bp 448 0)),.b (.cell [.d iT] false),.b (.cell [.d iT] false)],[iT,iT]⟩,⟨.ret,[.s (.one (.bp 384 0)),.s (.one (.bp 448 0)),.b (.cell [.d iT] false),.b (.cell [.d iT] false)],[iT,iT]⟩],fun h=>Pw.j3l h.1 h.2.1 h.2.2.1 h.2.2.2.1 h.2.2.2.2.1 h.2.2.2.2.2.1 h.2.2.2.2.2.2.1 h.2.2.2.2.2.2.2.1 h.2.2.2.2.2.2.2.2.1 h.2.2.2.2.2.2.2.2.2.1 h.2.2.2.2.2.2.2.2.2.2.1 h.2.2.2.2.2.2.2.2.2.2.2.1 h.2.2.2.2.2.2.2.2.2.2.2.2⟩]
 modes:=[(24,[false,false,false]),(102,[false]),(103,[false,false,false])]
 keep:=[(0,⟨[3,4,5,6,7,13],[192,256,320,384,448],[],[]⟩)]
 keepX:=[(0,.normal,⟨[6,7],[384,448],[],[]⟩),
  (0,.ret,⟨[6,7],[384,448],[],[]⟩)]
 ro:=[false,false]
 bw:=[(155,ty67)]
theorem jl3:Con.OK Tryz.prog j9A:=
 cOf j07 j02 jms j9A Tryz.func59 (j9 j3r (j9 jiq (j9 jpa trivial))) (j9 (fun h=>by kernel_rfl) trivial) (j9 jtu trivial)
def jdq:Con:=⟨151,[.v ty81,.v ty72,.v iT],[ty81,ty72,iT],⟨[.v iT],[]⟩,[iT],fun h=>Pw.jof h.1 h.2.1 h.2.2⟩
def jqI:FnD where
 N:=27
 np:=3
 cs:=[jbi,j9A]
 ds:=[]
 modes:=[(59,[false,false,false]),(169,[false,false,false])]
 ro:=[false]
theorem jpb:Con.OK Tryz.prog jdq:=
 cOf j07 j02 jqI jdq Tryz.func151 (j9 jkT (j9 jl3 trivial)) trivial
def jgl:Con:=⟨97,[.v ty79,.v iT,.v iT],[ty79,iT,iT],⟨[.v iT],[]⟩,[iT],fun h=>Pw.jtt h.1 h.2.1 h.2.2⟩
def jum:FnD where
 N:=30
 np:=3
 cs:=[jci,j6J,jdq]
 ds:=[]
 modes:=[(41,[false,false]),(63,[false]),(151,[false,false,false])]
 ro:=[false]
theorem jsa:Con.OK Tryz.prog jgl:=
 cOf j07 j02 jum jgl Tryz.func97 (j9 jkj (j9 jds (j9 jpb trivial))) trivial
def jhA:Con:=⟨50,[.v ty79,.v iT,.v iT],[ty79,iT,iT],⟨[.v iT],[]⟩,[iT],fun h=>Pw.jul h.1 h.2.1 h.2.2⟩
def jqJ:FnD where
 N:=11
 np:=3
 cs:=[jgl]
 ds:=[]
 modes:=[(97,[false,false,false])]
 ro:=[false]
theorem jxu:Con.OK Tryz.prog jhA:=
 cOf j07 j02 jqJ jhA Tryz.func50 (j9 jsa trivial) trivial
end Go.Proofs.Pk
