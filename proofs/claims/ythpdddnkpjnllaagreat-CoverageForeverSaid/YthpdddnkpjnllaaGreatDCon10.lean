/- Contracts: each given function is its plain function, printed by a program. -/
import Derived.Test.YthpdddnkpjnllaaGreatDCon9
noncomputable section
open Go Go.Lft
set_option linter.unusedVariables false
set_option maxRecDepth 100000
namespace Go.Proofs.Pk
def j2F:Con:=⟨101,[.v ty39,.clo 57 [.p [iT],.p [iT]]],[ty39,iT,iT],⟨[.v iT],[]⟩,[iT],fun h=>Pw.j3g h.1 h.2.1 h.2.2⟩
def j8P:FnD where
 N:=19
 np:=2
 cs:=[jaM]
 ds:=[⟨0,[.s (.one (.d ty39)),.s (.one (.clo 57 [.p [iT],.p [iT]])),sI,sI],[ty39,iT,iT,iT,iT],[⟨.ret,[sI],[iT]⟩,⟨.exit 0,[],[]⟩],fun h=>Pw.j0O h.1 h.2.1 h.2.2.1 h.2.2.2.1 h.2.2.2.2⟩]
 modes:=[(57,[false])]
 keep:=[(0,⟨[0,1,7,8],[],[],[]⟩)]
 keepX:=[(0,.ret,⟨[4],[],[],[]⟩),
  (0,.exit 0,⟨[],[],[],[]⟩)]
 ro:=[false]
theorem j8q:Con.OK Tryz.prog j2F:=
 cOf j0a j03 j8P j2F Tryz.func101 (j9 jme trivial) (j9 (fun h=>by kernel_rfl) trivial)
def j2g:Con:=⟨56,[.v ty39,.clo 57 [.p [iT],.p [iT]]],[ty39,iT,iT],⟨[.v .bool],[]⟩,[.bool],fun h=>Pw.j2L h.1 h.2.1 h.2.2⟩
def j7U:FnD where
 N:=9
 np:=2
 cs:=[j2F]
 ds:=[]
 modes:=[(101,[false,false])]
 ro:=[false]
theorem j7r:Con.OK Tryz.prog j2g:=
 cOf j0a j03 j7U j2g Tryz.func56 (j9 j8q trivial) trivial
def jef:Con:=⟨24,[.v ty72,.v iT,.v iT],[ty72,iT,iT],⟨[.v .bool],[]⟩,[.bool],fun h=>Pw.ji0 h.1 h.2.1 h.2.2⟩
def jrS:FnD where
 N:=11
 np:=3
 cs:=[j2g]
 ds:=[]
 modes:=[(56,[false,false])]
 ro:=[false]
theorem jqd:Con.OK Tryz.prog jef:=
 cOf j0a j03 jrS jef Tryz.func24 (j9 j7r trivial) trivial
def jaB:Con:=⟨59,[.v ty81,.v ty72,.v iT],[ty81,ty72,iT],⟨[.v iT,.v iT],[]⟩,[iT,iT],fun h=>Pw.jk5 h.1 h.2.1 h.2.2⟩
def jnn:FnD where
 N:=29
 np:=3
 cs:=[j1v,j8C,jef]
 ds:=[⟨0,[sI,.s (.one (.bp 192 0)),.s (.one (.bp 256 0)),.s (.one (.bp 320 0)),.s (.one (.bp 384 0)),.s (.one (.bp 448 0)),.s (.one (.clo 155 [.p [ty68]])),.b (.cell [.d ty61,.d ty51,.d ty26,.d ty73,.d ty29] false),.b (.cell [.d .str,.d ty68,.d ty39] false),.b (.cell [.d iT] false),.b (.cell [.d iT] false),.b (.cell [.d iT] false)],[iT,ty68,ty61,ty51,ty26,ty73,ty29,.str,ty68,ty39,iT,iT,iT],[⟨.normal,[.s (.one (.bp 384 0)),.s (.one (.bp 448 0)),.b (.cell [.d iT] false),.b (.cell [.d iT] false)],[iT,iT]⟩,⟨.ret,[.s (.one (.bp 384 0)),.s (.one (.bp 448 0)),.b (.cell [.d iT] false),.b (.cell [.d iT] false)],[iT,iT]⟩],fun h=>Pw.j4b h.1 h.2.1 h.2.2.1 h.2.2.2.1 h.2.2.2.2.1 h.2.2.2.2.2.1 h.2.2.2.2.2.2.1 h.2.2.2.2.2.2.2.1 h.2.2.2.2.2.2.2.2.1 h.2.2.2.2.2.2.2.2.2.1 h.2.2.2.2.2.2.2.2.2.2.1 h.2.2.2.2.2.2.2.2.2.2.2.1 h.2.2.2.2.2.2.2.2.2.2.2.2⟩]
 modes:=[(24,[false,false,false]),(102,[false]),(103,[false,false,false])]
 keep:=[(0,⟨[3,4,5,6,7,13],[192,256,320,384,448],[],[]⟩)]
 keepX:=[(0,.normal,⟨[6,7],[384,448],[],[]⟩),
  (0,.ret,⟨[6,7],[384,448],[],[]⟩)]
 ro:=[false,false]
 bw:=[(155,ty67)]
theorem jlZ:Con.OK Tryz.prog jaB:=
 cOf j0a j03 jnn jaB Tryz.func59 (j9 j4j (j9 jjh (j9 jqd trivial))) (j9 (fun h=>by kernel_rfl) trivial) (j9 juP trivial)
def jeg:Con:=⟨151,[.v ty81,.v ty72,.v iT],[ty81,ty72,iT],⟨[.v iT],[]⟩,[iT],fun h=>Pw.jpc h.1 h.2.1 h.2.2⟩
def jrT:FnD where
 N:=27
 np:=3
 cs:=[jcg,jaB]
 ds:=[]
 modes:=[(59,[false,false,false]),(169,[false,false,false])]
 ro:=[false]
theorem jqe:Con.OK Tryz.prog jeg:=
 cOf j0a j03 jrT jeg Tryz.func151 (j9 jlP (j9 jlZ trivial)) trivial
def jhb:Con:=⟨97,[.v ty79,.v iT,.v iT],[ty79,iT,iT],⟨[.v iT],[]⟩,[iT],fun h=>Pw.juO h.1 h.2.1 h.2.2⟩
def jvM:FnD where
 N:=30
 np:=3
 cs:=[jd4,j7W,jeg]
 ds:=[]
 modes:=[(41,[false,false]),(63,[false]),(151,[false,false,false])]
 ro:=[false]
theorem jtm:Con.OK Tryz.prog jhb:=
 cOf j0a j03 jvM jhb Tryz.func97 (j9 jlb (j9 jei (j9 jqe trivial))) trivial
def jis:Con:=⟨50,[.v ty79,.v iT,.v iT],[ty79,iT,iT],⟨[.v iT],[]⟩,[iT],fun h=>Pw.jvL h.1 h.2.1 h.2.2⟩
def jrU:FnD where
 N:=11
 np:=3
 cs:=[jhb]
 ds:=[]
 modes:=[(97,[false,false,false])]
 ro:=[false]
theorem jzv:Con.OK Tryz.prog jis:=
 cOf j0a j03 jrU jis Tryz.func50 (j9 jtm trivial) trivial
end Go.Proofs.Pk
