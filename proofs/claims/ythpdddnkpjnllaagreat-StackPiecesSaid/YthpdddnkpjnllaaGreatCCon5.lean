/- Contracts: each given function is its plain function, printed by a program. -/
import Derived.Test.YthpdddnkpjnllaaGreatCCon4
noncomputable section
open Go Go.Lft
set_option linter.unusedVariables false
set_option maxRecDepth 100000
namespace Go.Proofs.Pk
def j07n:Con:=⟨58,[.v ty79,.v iT],[ty79,iT],⟨[.v ty81,.v ty72,.v .bool],[]⟩,[ty81,ty72,.bool],fun h=>Pw.j06M h.1 h.2⟩
def j0he:FnD where
 N:=30
 np:=2
 cs:=[j0aJ,j06A]
 ds:=[]
 modes:=[(41,[false,false]),(63,[false])]
 ro:=[false,false,false]
 dw:=[(4,[[],[],[],[],[],[],[256],[320],[]])]
theorem j0cT:Con.OK Tryz.prog j07n:=
 cOf tabOk mixedOk j0he j07n Tryz.func58 (And.intro j0gh (And.intro j0bF trivial)) trivial
def j072:Con:=⟨188,[.v ty8],[ty8],⟨[.v iT],[]⟩,[iT],fun h=>Pw.j02Y h⟩
def j0el:FnD where
 N:=10
 np:=1
 cs:=[j05r]
 ds:=[]
 modes:=[(230,[false])]
 ro:=[false]
theorem j0dJ:Con.OK Tryz.prog j072:=
 cOf tabOk mixedOk j0el j072 Tryz.func188 (And.intro j0af trivial) trivial
def j0b4:Con:=⟨187,[.v ty12,.v iT],[ty12,iT],⟨[.v .bool],[]⟩,[.bool],fun h=>Pw.j0aY h.1 h.2⟩
def j0ju:FnD where
 N:=24
 np:=2
 cs:=[]
 ds:=[⟨0,[sI,.s (.one (.d ty12)),sI,sI],[iT,ty12,iT,iT],[⟨.ret,[.s (.one (.d .bool))],[.bool]⟩,⟨.exit 0,[],[]⟩],fun h=>Pw.j04K h.1 h.2.1 h.2.2.1 h.2.2.2⟩]
 keep:=[(0,⟨[1,7,8,9],[],[],[]⟩)]
 keepX:=[(0,.ret,⟨[4],[],[],[]⟩),
  (0,.exit 0,⟨[],[],[],[]⟩)]
 ro:=[false]
theorem j0ip:Con.OK Tryz.prog j0b4:=
 cOf tabOk mixedOk j0ju j0b4 Tryz.func187 trivial (And.intro (fun h=>by kernel_rfl) trivial)
def j073:Con:=⟨243,[.v iT],[iT],⟨[.v .bool],[]⟩,[.bool],fun h=>Pw.j08n h⟩
def j0em:FnD where
 N:=6
 np:=1
 cs:=[]
 ds:=[]
 ro:=[false]
theorem j0dK:Con.OK Tryz.prog j073:=
 cOf tabOk mixedOk j0em j073 Tryz.func243 trivial trivial
def j07X:Con:=⟨216,[.v iT,.v iT],[iT,iT],⟨[.v .bool],[]⟩,[.bool],fun h=>Pw.j09m h.1 h.2⟩
def j0fn:FnD where
 N:=17
 np:=2
 cs:=[j073]
 ds:=[]
 modes:=[(243,[false])]
 ro:=[false]
theorem j0en:Con.OK Tryz.prog j07X:=
 cOf tabOk mixedOk j0fn j07X Tryz.func216 (And.intro j0dK trivial) trivial
def j05L:Con:=⟨217,[.v iT],[iT],⟨[.v .bool],[]⟩,[.bool],fun h=>Pw.j065 h⟩
def j0cA:FnD where
 N:=6
 np:=1
 cs:=[]
 ds:=[]
 ro:=[false]
theorem j0bL:Con.OK Tryz.prog j05L:=
 cOf tabOk mixedOk j0cA j05L Tryz.func217 trivial trivial
def j02B:Con:=⟨168,[.v (.list iT),.v iT],[(.list iT),iT],⟨[.v iT,.v .bool],[]⟩,[iT,.bool],fun h=>Pw.j00x h.1 h.2⟩
def j07o:FnD where
 N:=54
 np:=2
 cs:=[j07X,j05L]
 ds:=[⟨0,[.s (.one (.d (.list iT))),sI,sI,sI,sI],[(.list iT),iT,iT,iT,iT],[⟨.exit 0,[.s (.one (.d (.list iT))),sI,sI,sI],[(.list iT),iT,iT,iT]⟩],fun h=>Pw.j01f h.1 h.2.1 h.2.2.1 h.2.2.2.1 h.2.2.2.2⟩]
 modes:=[(216,[false,false]),(217,[false])]
 keep:=[(0,⟨[0,1,6,7,8],[],[],[]⟩)]
 keepX:=[(0,.exit 0,⟨[0,1,6,7],[],[],[]⟩)]
 ro:=[false,false]
theorem j074:Con.OK Tryz.prog j02B:=
 cOf tabOk mixedOk j07o j02B Tryz.func168 (And.intro j0en (And.intro j0bL trivial)) (And.intro (fun h=>by kernel_rfl) trivial)
def j07Y:Con:=⟨156,[.v ty81,.v ty67,.v iT],[ty81,ty67,iT],⟨[.v iT,.v .bool],[]⟩,[iT,.bool],fun h=>Pw.j03C h.1 h.2.1 h.2.2⟩
def j0fo:FnD where
 N:=79
 np:=3
 cs:=[j04h,j05t,j072,j0b4,j02B]
 ds:=[]
 modes:=[(159,[false,false,false]),(168,[false,false]),(187,[false,false]),(188,[false]),(189,[false,false])]
 ro:=[false,false]
theorem j0eo:Con.OK Tryz.prog j07Y:=
 cOf tabOk mixedOk j0fo j07Y Tryz.func156 (And.intro j08t (And.intro j0ao (And.intro j0dJ (And.intro j0ip (And.intro j074 trivial))))) trivial
def j05M:Con:=⟨103,[.v ty81,.v ty67,.v iT],[ty81,ty67,iT],⟨[.v iT],[]⟩,[iT],fun h=>Pw.j01e h.1 h.2.1 h.2.2⟩
def j0cB:FnD where
 N:=27
 np:=3
 cs:=[j07Y]
 ds:=[]
 modes:=[(156,[false,false,false])]
 ro:=[false]
theorem j0bM:Con.OK Tryz.prog j05M:=
 cOf tabOk mixedOk j0cB j05M Tryz.func103 (And.intro j0eo trivial) trivial
def j075:Con:=⟨57,[.v ty37,.ip [iT],.ip [iT]],[ty37,iT,iT],⟨[.v .bool],[]⟩,[.bool],fun h=>Pw.j0ad h.1 h.2.1 h.2.2⟩
def j0ep:FnD where
 N:=26
 np:=3
 cs:=[]
 ds:=[]
 ro:=[false]
theorem j0dL:Con.OK Tryz.prog j075:=
 cOf tabOk mixedOk j0ep j075 Tryz.func57 trivial trivial
def j01P:Con:=⟨101,[.v ty39,.clo 57 [.p [iT],.p [iT]]],[ty39,iT,iT],⟨[.v iT],[]⟩,[iT],fun h=>Pw.j00F h.1 h.2.1 h.2.2⟩
def j05N:FnD where
 N:=19
 np:=2
 cs:=[j075]
 ds:=[⟨0,[.s (.one (.d ty39)),.s (.one (.clo 57 [.p [iT],.p [iT]])),sI,sI],[ty39,iT,iT,iT,iT],[⟨.ret,[sI],[iT]⟩,⟨.exit 0,[],[]⟩],fun h=>Pw.j00z h.1 h.2.1 h.2.2.1 h.2.2.2.1 h.2.2.2.2⟩]
 modes:=[(57,[false])]
 keep:=[(0,⟨[0,1,7,8],[],[],[]⟩)]
 keepX:=[(0,.ret,⟨[4],[],[],[]⟩),
  (0,.exit 0,⟨[],[],[],[]⟩)]
 ro:=[false]
theorem j05l:Con.OK Tryz.prog j01P:=
 cOf tabOk mixedOk j05N j01P Tryz.func101 (And.intro j0dL trivial) (And.intro (fun h=>by kernel_rfl) trivial)
def j01s:Con:=⟨56,[.v ty39,.clo 57 [.p [iT],.p [iT]]],[ty39,iT,iT],⟨[.v .bool],[]⟩,[.bool],fun h=>Pw.j00w h.1 h.2.1 h.2.2⟩
def j052:FnD where
 N:=9
 np:=2
 cs:=[j01P]
 ds:=[]
 modes:=[(101,[false,false])]
 ro:=[false]
theorem j04P:Con.OK Tryz.prog j01s:=
 cOf tabOk mixedOk j052 j01s Tryz.func56 (And.intro j05l trivial) trivial
def j07p:Con:=⟨24,[.v ty72,.v iT,.v iT],[ty72,iT,iT],⟨[.v .bool],[]⟩,[.bool],fun h=>Pw.j06N h.1 h.2.1 h.2.2⟩
def j0hf:FnD where
 N:=11
 np:=3
 cs:=[j01s]
 ds:=[]
 modes:=[(56,[false,false])]
 ro:=[false]
theorem j0cU:Con.OK Tryz.prog j07p:=
 cOf tabOk mixedOk j0hf j07p Tryz.func24 (And.intro j04P trivial) trivial
def j05u:Con:=⟨59,[.v ty81,.v ty72,.v iT],[ty81,ty72,iT],⟨[.v iT,.v iT],[]⟩,[iT,iT],fun h=>Pw.j02Z h.1 h.2.1 h.2.2⟩
def j0eq:FnD where
 N:=29
 np:=3
 cs:=[j00Y,j05M,j07p]
 ds:=[⟨0,[sI,.s (.one (.bp 192 0)),.s (.one (.bp 256 0)),.s (.one (.bp 320 0)),.s (.one (.bp 384 0)),.s (.one (.bp 448 0)),.s (.one (.clo 155 [.p [ty68]])),.b (.cell [.d ty61,.d ty51,.d ty26,.d ty73,.d ty29] false),.b (.cell [.d .str,.d ty68,.d ty39] false),.b (.cell [.d iT] false),.b (.cell [.d iT] false),.b (.cell [.d iT] false)],[iT,ty68,ty61,ty51,ty26,ty73,ty29,.str,ty68,ty39,iT,iT,iT],[⟨.normal,[.s (.one (.bp 384 0)),.s (.one (.bp 448 0)),.b (.cell [.d iT] false),.b (.cell [.d iT] false)],[iT,iT]⟩,⟨.ret,[.s (.one (.bp 384 0)),.s (.one (.bp 448 0)),.b (.cell [.d iT] false),.b (.cell [.d iT] false)],[iT,iT]⟩],fun h=>Pw.j01m h.1 h.2.1 h.2.2.1 h.2.2.2.1 h.2.2.2.2.1 h.2.2.2.2.2.1 h.2.2.2.2.2.2.1 h.2.2.2.2.2.2.2.1 h.2.2.2.2.2.2.2.2.1 h.2.2.2.2.2.2.2.2.2.1 h.2.2.2.2.2.2.2.2.2.2.1 h.2.2.2.2.2.2.2.2.2.2.2.1 h.2.2.2.2.2.2.2.2.2.2.2.2⟩]
 modes:=[(24,[false,false,false]),(102,[false]),(103,[false,false,false])]
 keep:=[(0,⟨[3,4,5,6,7,13],[192,256,320,384,448],[],[]⟩)]
 keepX:=[(0,.normal,⟨[6,7],[384,448],[],[]⟩),
  (0,.ret,⟨[6,7],[384,448],[],[]⟩)]
 ro:=[false,false]
 bw:=[(155,ty67)]
theorem j0ap:Con.OK Tryz.prog j05u:=
 cOf tabOk mixedOk j0eq j05u Tryz.func59 (And.intro j02R (And.intro j0bM (And.intro j0cU trivial))) (And.intro (fun h=>by kernel_rfl) trivial) (And.intro j0jt trivial)
def j08u:Con:=⟨26,[.v ty79,.v iT,.v iT],[ty79,iT,iT],⟨[.v iT],[]⟩,[iT],fun h=>Pw.j03r h.1 h.2.1 h.2.2⟩
def j0iq:FnD where
 N:=29
 np:=3
 cs:=[j07n,j05u]
 ds:=[]
 modes:=[(58,[false,false]),(59,[false,false,false])]
 ro:=[false]
theorem j0dM:Con.OK Tryz.prog j08u:=
 cOf tabOk mixedOk j0iq j08u Tryz.func26 (And.intro j0cT (And.intro j0ap trivial)) trivial
def j08R:Con:=⟨25,[.v ty79,.v iT,.v iT],[ty79,iT,iT],⟨[.v iT],[]⟩,[iT],fun h=>Pw.j05X h.1 h.2.1 h.2.2⟩
def j0gq:FnD where
 N:=29
 np:=3
 cs:=[j07n,j05u]
 ds:=[]
 modes:=[(58,[false,false]),(59,[false,false,false])]
 ro:=[false]
theorem j0fp:Con.OK Tryz.prog j08R:=
 cOf tabOk mixedOk j0gq j08R Tryz.func25 (And.intro j0cT (And.intro j0ap trivial)) trivial
def j09A:Con:=⟨20,[],[],⟨[.v .bool],[]⟩,[.bool],fun h=>Pw.j07M⟩
def j0hg:FnD where
 N:=52
 np:=0
 cs:=[j08C,j051,j07p,j08u,j08R]
 ds:=[]
 modes:=[(24,[false,false,false]),(25,[false,false,false]),(26,[false,false,false]),(27,[false,false,false,false]),(51,[])]
 ro:=[false]
theorem j0gr:Con.OK Tryz.prog j09A:=
 cOf tabOk mixedOk j0hg j09A Tryz.func20 (And.intro j0f6 (And.intro j09N (And.intro j0cU (And.intro j0dM (And.intro j0fp trivial))))) trivial
def j0aq:Con:=⟨12,[.v (.list iT)],[(.list iT)],⟨[.box [(.list iT),iT]],[]⟩,[(.list iT),iT],fun h=>Pw.j0f5 h⟩
def j0ir:FnD where
 N:=6
 np:=1
 cs:=[]
 ds:=[]
 ro:=[false]
theorem j0hh:Con.OK Tryz.prog j0aq:=
 cOf tabOk mixedOk j0ir j0aq Tryz.func12 trivial trivial
def j016:Con:=⟨21,[.ref [(.list iT),iT],.v iT],[(.list iT),iT,iT],⟨[.v iT],[.ref [(.list iT),iT]]⟩,[iT,(.list iT),iT],fun h=>Pw.j002 h.1 h.2.1 h.2.2⟩
def j0dN:FnD where
 N:=45
 np:=2
 cs:=[]
 ds:=[]
 ro:=[false]
theorem j01X:Con.OK Tryz.prog j016:=
 cOf tabOk mixedOk j0dN j016 Tryz.func21 trivial trivial
def j023:Con:=⟨53,[.ref [(.list iT),iT],.v (.list iT)],[(.list iT),iT,(.list iT)],⟨[.v iT],[.ref [(.list iT),iT]]⟩,[iT,(.list iT),iT],fun h=>Pw.j01d h.1 h.2.1 h.2.2⟩
def j0dO:FnD where
 N:=12
 np:=2
 cs:=[j016]
 ds:=[]
 modes:=[(21,[false,false])]
 ro:=[false]
theorem j03o:Con.OK Tryz.prog j023:=
 cOf tabOk mixedOk j0dO j023 Tryz.func53 (And.intro j01X trivial) trivial
end Go.Proofs.Pk
