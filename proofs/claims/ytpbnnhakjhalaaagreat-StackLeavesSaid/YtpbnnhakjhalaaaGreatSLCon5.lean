/- Contracts: each given function is its plain function, printed by a program. -/
import Derived.Test.YtpbnnhakjhalaaaGreatSLCon4
noncomputable section
open Go Go.Lft
set_option linter.unusedVariables false
set_option maxRecDepth 100000
namespace Go.Proofs.Pk
def j7S:Con:=⟨86,[.v ty84,.v iT],[ty84,iT],⟨[.v ty86,.v ty77,.v .bool],[]⟩,[ty86,ty77,.bool],Pw.unc2 Pw.j6C⟩
def jm9:FnD where
 N:=30
 np:=2
 cs:=[jbR,j6Z]
 ds:=[]
 modes:=[(76,[false]),(77,[false,false])]
 ro:=[false,false,false]
 dw:=[(4,[[],[],[],[],[],[],[256],[320],[]])]
theorem jfk:Con.OK Tryz.prog j7S:=
 cOf j0l j04 jm9 j7S Tryz.func86 (j9 jjI (j9 jdH trivial)) trivial
def j7K:Con:=⟨171,[.v ty8],[ty8],⟨[.v iT],[]⟩,[iT],fun h=>Pw.j3i h⟩
def jif:FnD where
 N:=10
 np:=1
 cs:=[j5B]
 ds:=[]
 modes:=[(250,[false])]
 ro:=[false]
theorem jgH:Con.OK Tryz.prog j7K:=
 cOf j0l j04 jif j7K Tryz.func171 (j9 jc8 trivial) trivial
def jd0:Con:=⟨170,[.v ty13,.v iT],[ty13,iT],⟨[.v .bool],[]⟩,[.bool],Pw.unc2 Pw.jbG⟩
def joZ:FnD where
 N:=24
 np:=2
 cs:=[]
 ds:=[⟨0,[sI,.s (.one (.d ty13)),sI,sI],[iT,ty13,iT,iT],[⟨.ret,[.s (.one (.d .bool))],[.bool]⟩,⟨.exit 0,[],[]⟩],Pw.unc4 (Pw.j4I)⟩]
 keep:=[(0,⟨[1,7,8,9],[],[],[]⟩)]
 keepX:=[(0,.ret,⟨[4],[],[],[]⟩),
  (0,.exit 0,⟨[],[],[],[]⟩)]
 ro:=[false]
theorem jnf:Con.OK Tryz.prog jd0:=
 cOf j0l j04 joZ jd0 Tryz.func170 trivial (j9 (fun h=>by kernel_rfl) trivial)
def j7L:Con:=⟨367,[.v iT],[iT],⟨[.v .bool],[]⟩,[.bool],fun h=>Pw.j93 h⟩
def jig:FnD where
 N:=6
 np:=1
 cs:=[]
 ds:=[]
 ro:=[false]
theorem jgI:Con.OK Tryz.prog j7L:=
 cOf j0l j04 jig j7L Tryz.func367 trivial trivial
def j8G:Con:=⟨320,[.v iT,.v iT],[iT,iT],⟨[.v .bool],[]⟩,[.bool],Pw.unc2 Pw.jau⟩
def jiX:FnD where
 N:=17
 np:=2
 cs:=[j7L]
 ds:=[]
 modes:=[(367,[false])]
 ro:=[false]
theorem jih:Con.OK Tryz.prog j8G:=
 cOf j0l j04 jiX j8G Tryz.func320 (j9 jgI trivial) trivial
def j60:Con:=⟨321,[.v iT],[iT],⟨[.v .bool],[]⟩,[.bool],fun h=>Pw.j6i h⟩
def jfl:FnD where
 N:=6
 np:=1
 cs:=[]
 ds:=[]
 ro:=[false]
theorem jeg:Con.OK Tryz.prog j60:=
 cOf j0l j04 jfl j60 Tryz.func321 trivial trivial
def j2O:Con:=⟨253,[.v (.list iT),.v iT],[(.list iT),iT],⟨[.v iT,.v .bool],[]⟩,[iT,.bool],Pw.unc2 Pw.j0B⟩
def j8H:FnD where
 N:=54
 np:=2
 cs:=[j8G,j60]
 ds:=[⟨0,[.s (.one (.d (.list iT))),sI,sI,sI,sI],[(.list iT),iT,iT,iT,iT],[⟨.exit 0,[.s (.one (.d (.list iT))),sI,sI,sI],[(.list iT),iT,iT,iT]⟩],Pw.unc5 (Pw.j1r)⟩]
 modes:=[(320,[false,false]),(321,[false])]
 keep:=[(0,⟨[0,1,6,7,8],[],[],[]⟩)]
 keepX:=[(0,.exit 0,⟨[0,1,6,7],[],[],[]⟩)]
 ro:=[false,false]
theorem j8g:Con.OK Tryz.prog j2O:=
 cOf j0l j04 j8H j2O Tryz.func253 (j9 jih (j9 jeg trivial)) (j9 (fun h=>by kernel_rfl) trivial)
def j8I:Con:=⟨249,[.v ty86,.v ty72,.v iT],[ty86,ty72,iT],⟨[.v iT,.v .bool],[]⟩,[iT,.bool],Pw.unc3 Pw.j3q⟩
def jiY:FnD where
 N:=79
 np:=3
 cs:=[j4g,j5F,j7K,jd0,j2O]
 ds:=[]
 modes:=[(170,[false,false]),(171,[false]),(172,[false,false]),(253,[false,false]),(317,[false,false,false])]
 ro:=[false,false]
theorem jii:Con.OK Tryz.prog j8I:=
 cOf j0l j04 jiY j8I Tryz.func249 (j9 j9T (j9 jca (j9 jgH (j9 jnf (j9 j8g trivial))))) trivial
def j61:Con:=⟨169,[.v ty86,.v ty72,.v iT],[ty86,ty72,iT],⟨[.v iT],[]⟩,[iT],Pw.unc3 Pw.j1c⟩
def jfm:FnD where
 N:=27
 np:=3
 cs:=[j8I]
 ds:=[]
 modes:=[(249,[false,false,false])]
 ro:=[false]
theorem jeh:Con.OK Tryz.prog j61:=
 cOf j0l j04 jfm j61 Tryz.func169 (j9 jii trivial) trivial
def j7M:Con:=⟨167,[.v ty42,.ip [iT],.ip [iT]],[ty42,iT,iT],⟨[.v .bool],[]⟩,[.bool],Pw.unc3 Pw.jbH⟩
def jij:FnD where
 N:=26
 np:=3
 cs:=[]
 ds:=[]
 ro:=[false]
theorem jgJ:Con.OK Tryz.prog j7M:=
 cOf j0l j04 jij j7M Tryz.func167 trivial trivial
def j1W:Con:=⟨247,[.v ty44,.clo 167 [.p [iT],.p [iT]]],[ty44,iT,iT],⟨[.v iT],[]⟩,[iT],Pw.unc3 Pw.j0J⟩
def j6e:FnD where
 N:=19
 np:=2
 cs:=[j7M]
 ds:=[⟨0,[.s (.one (.d ty44)),.s (.one (.clo 167 [.p [iT],.p [iT]])),sI,sI],[ty44,iT,iT,iT,iT],[⟨.ret,[sI],[iT]⟩,⟨.exit 0,[],[]⟩],Pw.unc5 (Pw.j0G)⟩]
 modes:=[(167,[false])]
 keep:=[(0,⟨[0,1,7,8],[],[],[]⟩)]
 keepX:=[(0,.ret,⟨[4],[],[],[]⟩),
  (0,.exit 0,⟨[],[],[],[]⟩)]
 ro:=[false]
theorem j62:Con.OK Tryz.prog j1W:=
 cOf j0l j04 j6e j1W Tryz.func247 (j9 jgJ trivial) (j9 (fun h=>by kernel_rfl) trivial)
def j1A:Con:=⟨166,[.v ty44,.clo 167 [.p [iT],.p [iT]]],[ty44,iT,iT],⟨[.v .bool],[]⟩,[.bool],Pw.unc3 Pw.j0C⟩
def j5s:FnD where
 N:=9
 np:=2
 cs:=[j1W]
 ds:=[]
 modes:=[(247,[false,false])]
 ro:=[false]
theorem j51:Con.OK Tryz.prog j1A:=
 cOf j0l j04 j5s j1A Tryz.func166 (j9 j62 trivial) trivial
def j7T:Con:=⟨85,[.v ty77,.v iT,.v iT],[ty77,iT,iT],⟨[.v .bool],[]⟩,[.bool],Pw.unc3 Pw.j6D⟩
def jma:FnD where
 N:=11
 np:=3
 cs:=[j1A]
 ds:=[]
 modes:=[(166,[false,false])]
 ro:=[false]
theorem jfn:Con.OK Tryz.prog j7T:=
 cOf j0l j04 jma j7T Tryz.func85 (j9 j51 trivial) trivial
def j5G:Con:=⟨87,[.v ty86,.v ty77,.v iT],[ty86,ty77,iT],⟨[.v iT,.v iT],[]⟩,[iT,iT],Pw.unc3 Pw.j2R⟩
def jik:FnD where
 N:=29
 np:=3
 cs:=[j16,j61,j7T]
 ds:=[⟨0,[sI,.s (.one (.bp 192 0)),.s (.one (.bp 256 0)),.s (.one (.bp 320 0)),.s (.one (.bp 384 0)),.s (.one (.bp 448 0)),.s (.one (.clo 248 [.p [ty73]])),.b (.cell [.d ty66,.d ty56,.d ty29,.d ty78,.d ty33] false),.b (.cell [.d .str,.d ty73,.d ty44] false),.b (.cell [.d iT] false),.b (.cell [.d iT] false),.b (.cell [.d iT] false)],[iT,ty73,ty66,ty56,ty29,ty78,ty33,.str,ty73,ty44,iT,iT,iT],[⟨.normal,[.s (.one (.bp 384 0)),.s (.one (.bp 448 0)),.b (.cell [.d iT] false),.b (.cell [.d iT] false)],[iT,iT]⟩,⟨.ret,[.s (.one (.bp 384 0)),.s (.one (.bp 448 0)),.b (.cell [.d iT] false),.b (.cell [.d iT] false)],[iT,iT]⟩],Pw.jrP (Pw.j1l)⟩]
 modes:=[(85,[false,false,false]),(168,[false]),(169,[false,false,false])]
 keep:=[(0,⟨[3,4,5,6,7,13],[192,256,320,384,448],[],[]⟩)]
 keepX:=[(0,.normal,⟨[6,7],[384,448],[],[]⟩),
  (0,.ret,⟨[6,7],[384,448],[],[]⟩)]
 ro:=[false,false]
 bw:=[(248,(false,ty72))]
theorem jcb:Con.OK Tryz.prog j5G:=
 cOf j0l j04 jik j5G Tryz.func87 (j9 j31 (j9 jeh (j9 jfn trivial))) (j9 (fun h=>by kernel_rfl) trivial) (j9 jo7 trivial)
def j98:Con:=⟨33,[.v ty84,.v iT,.v iT],[ty84,iT,iT],⟨[.v iT],[]⟩,[iT],Pw.unc3 Pw.j4J⟩
def jng:FnD where
 N:=29
 np:=3
 cs:=[j7S,j5G]
 ds:=[]
 modes:=[(86,[false,false]),(87,[false,false,false])]
 ro:=[false]
theorem jgx:Con.OK Tryz.prog j98:=
 cOf j0l j04 jng j98 Tryz.func33 (j9 jfk (j9 jcb trivial)) trivial
def j9V:Con:=⟨84,[.v ty84,.v iT,.v iT],[ty84,iT,iT],⟨[.v iT],[]⟩,[iT],Pw.unc3 Pw.j5g⟩
def jkM:FnD where
 N:=29
 np:=3
 cs:=[j7S,j5G]
 ds:=[]
 modes:=[(86,[false,false]),(87,[false,false,false])]
 ro:=[false]
theorem jiZ:Con.OK Tryz.prog j9V:=
 cOf j0l j04 jkM j9V Tryz.func84 (j9 jfk (j9 jcb trivial)) trivial
def jaL:Con:=⟨31,[],[],⟨[.v .bool],[]⟩,[.bool],fun h=>Pw.j7E⟩
def jmb:FnD where
 N:=52
 np:=0
 cs:=[j9D,j72,j7T,j98,j9V]
 ds:=[]
 modes:=[(33,[false,false,false]),(82,[]),(83,[false,false,false,false]),(84,[false,false,false]),(85,[false,false,false])]
 ro:=[false]
theorem jkN:Con.OK Tryz.prog jaL:=
 cOf j0l j04 jmb jaL Tryz.func31 (j9 jiG (j9 jg5 (j9 jfn (j9 jgx (j9 jiZ trivial))))) trivial
def jbS:Con:=⟨17,[.v (.list iT)],[(.list iT)],⟨[.box [(.list iT),iT]],[]⟩,[(.list iT),iT],fun h=>Pw.ji0 h⟩
def jnh:FnD where
 N:=6
 np:=1
 cs:=[]
 ds:=[]
 ro:=[false]
theorem jmc:Con.OK Tryz.prog jbS:=
 cOf j0l j04 jnh jbS Tryz.func17 trivial trivial
def j0P:Con:=⟨27,[.ref [(.list iT),iT],.v iT],[(.list iT),iT,iT],⟨[.v iT],[.ref [(.list iT),iT]]⟩,[iT,(.list iT),iT],Pw.unc3 Pw.j02⟩
def jgK:FnD where
 N:=45
 np:=2
 cs:=[]
 ds:=[]
 ro:=[false]
theorem j1w:Con.OK Tryz.prog j0P:=
 cOf j0l j04 jgK j0P Tryz.func27 trivial trivial
def j1B:Con:=⟨32,[.ref [(.list iT),iT],.v (.list iT)],[(.list iT),iT,(.list iT)],⟨[.v iT],[.ref [(.list iT),iT]]⟩,[iT,(.list iT),iT],Pw.unc3 Pw.j0Y⟩
def jgL:FnD where
 N:=12
 np:=2
 cs:=[j0P]
 ds:=[]
 modes:=[(27,[false,false])]
 ro:=[false]
theorem j2P:Con.OK Tryz.prog j1B:=
 cOf j0l j04 jgL j1B Tryz.func32 (j9 j1w trivial) trivial
end Go.Proofs.Pk
