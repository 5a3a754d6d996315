/- Contracts: each given function is its plain function, printed by a program. -/
import Derived.Test.YthpdddnkpjnllaaGreatBCon4
noncomputable section
open Go Go.Lft
set_option linter.unusedVariables false
set_option maxRecDepth 100000
namespace Go.Proofs.Pk
def j07V:Con:=⟨58,[.v ty79,.v iT],[ty79,iT],⟨[.v ty81,.v ty72,.v .bool],[]⟩,[ty81,ty72,.bool],fun h=>Pw.j07a h.1 h.2⟩
def j0ke:FnD where
 N:=30
 np:=2
 cs:=[j0cv,j06X]
 ds:=[]
 modes:=[(41,[false,false]),(63,[false])]
 ro:=[false,false,false]
 dw:=[(4,[[],[],[],[],[],[],[256],[320],[]])]
theorem j0fh:Con.OK Tryz.prog j07V:=
 cOf tabOk mixedOk j0ke j07V Tryz.func58 (And.intro j0j6 (And.intro j0dS trivial)) trivial
def j07t:Con:=⟨188,[.v ty8],[ty8],⟨[.v iT],[]⟩,[iT],fun h=>Pw.j038 h⟩
def j0gW:FnD where
 N:=10
 np:=1
 cs:=[j05E]
 ds:=[]
 modes:=[(230,[false])]
 ro:=[false]
theorem j0gf:Con.OK Tryz.prog j07t:=
 cOf tabOk mixedOk j0gW j07t Tryz.func188 (And.intro j0bG trivial) trivial
def j0cY:Con:=⟨187,[.v ty12,.v iT],[ty12,iT],⟨[.v .bool],[]⟩,[.bool],fun h=>Pw.j0cQ h.1 h.2⟩
def j0n6:FnD where
 N:=24
 np:=2
 cs:=[]
 ds:=[⟨0,[sI,.s (.one (.d ty12)),sI,sI],[iT,ty12,iT,iT],[⟨.ret,[.s (.one (.d .bool))],[.bool]⟩,⟨.exit 0,[],[]⟩],fun h=>Pw.j04E h.1 h.2.1 h.2.2.1 h.2.2.2⟩]
 keep:=[(0,⟨[1,7,8,9],[],[],[]⟩)]
 keepX:=[(0,.ret,⟨[4],[],[],[]⟩),
  (0,.exit 0,⟨[],[],[],[]⟩)]
 ro:=[false]
theorem j0lI:Con.OK Tryz.prog j0cY:=
 cOf tabOk mixedOk j0n6 j0cY Tryz.func187 trivial (And.intro (fun h=>by kernel_rfl) trivial)
def j07u:Con:=⟨243,[.v iT],[iT],⟨[.v .bool],[]⟩,[.bool],fun h=>Pw.j09e h⟩
def j0gX:FnD where
 N:=6
 np:=1
 cs:=[]
 ds:=[]
 ro:=[false]
theorem j0gg:Con.OK Tryz.prog j07u:=
 cOf tabOk mixedOk j0gX j07u Tryz.func243 trivial trivial
def j08J:Con:=⟨216,[.v iT,.v iT],[iT,iT],⟨[.v .bool],[]⟩,[.bool],fun h=>Pw.j0av h.1 h.2⟩
def j0i9:FnD where
 N:=17
 np:=2
 cs:=[j07u]
 ds:=[]
 modes:=[(243,[false])]
 ro:=[false]
theorem j0gY:Con.OK Tryz.prog j08J:=
 cOf tabOk mixedOk j0i9 j08J Tryz.func216 (And.intro j0gg trivial) trivial
def j05Y:Con:=⟨217,[.v iT],[iT],⟨[.v .bool],[]⟩,[.bool],fun h=>Pw.j06g h⟩
def j0eN:FnD where
 N:=6
 np:=1
 cs:=[]
 ds:=[]
 ro:=[false]
theorem j0dY:Con.OK Tryz.prog j05Y:=
 cOf tabOk mixedOk j0eN j05Y Tryz.func217 trivial trivial
def j02o:Con:=⟨168,[.v (.list iT),.v iT],[(.list iT),iT],⟨[.v iT,.v .bool],[]⟩,[iT,.bool],fun h=>Pw.j00r h.1 h.2⟩
def j07W:FnD where
 N:=54
 np:=2
 cs:=[j08J,j05Y]
 ds:=[⟨0,[.s (.one (.d (.list iT))),sI,sI,sI,sI],[(.list iT),iT,iT,iT,iT],[⟨.exit 0,[.s (.one (.d (.list iT))),sI,sI,sI],[(.list iT),iT,iT,iT]⟩],fun h=>Pw.j015 h.1 h.2.1 h.2.2.1 h.2.2.2.1 h.2.2.2.2⟩]
 modes:=[(216,[false,false]),(217,[false])]
 keep:=[(0,⟨[0,1,6,7,8],[],[],[]⟩)]
 keepX:=[(0,.exit 0,⟨[0,1,6,7],[],[],[]⟩)]
 ro:=[false,false]
theorem j07v:Con.OK Tryz.prog j02o:=
 cOf tabOk mixedOk j07W j02o Tryz.func168 (And.intro j0gY (And.intro j0dY trivial)) (And.intro (fun h=>by kernel_rfl) trivial)
def j08K:Con:=⟨156,[.v ty81,.v ty67,.v iT],[ty81,ty67,iT],⟨[.v iT,.v .bool],[]⟩,[iT,.bool],fun h=>Pw.j03i h.1 h.2.1 h.2.2⟩
def j0ia:FnD where
 N:=79
 np:=3
 cs:=[j045,j05G,j07t,j0cY,j02o]
 ds:=[]
 modes:=[(159,[false,false,false]),(168,[false,false]),(187,[false,false]),(188,[false]),(189,[false,false])]
 ro:=[false,false]
theorem j0gZ:Con.OK Tryz.prog j08K:=
 cOf tabOk mixedOk j0ia j08K Tryz.func156 (And.intro j09p (And.intro j0bP (And.intro j0gf (And.intro j0lI (And.intro j07v trivial))))) trivial
def j05Z:Con:=⟨103,[.v ty81,.v ty67,.v iT],[ty81,ty67,iT],⟨[.v iT],[]⟩,[iT],fun h=>Pw.j013 h.1 h.2.1 h.2.2⟩
def j0eO:FnD where
 N:=27
 np:=3
 cs:=[j08K]
 ds:=[]
 modes:=[(156,[false,false,false])]
 ro:=[false]
theorem j0dZ:Con.OK Tryz.prog j05Z:=
 cOf tabOk mixedOk j0eO j05Z Tryz.func103 (And.intro j0gZ trivial) trivial
def j07w:Con:=⟨57,[.v ty37,.ip [iT],.ip [iT]],[ty37,iT,iT],⟨[.v .bool],[]⟩,[.bool],fun h=>Pw.j0by h.1 h.2.1 h.2.2⟩
def j0h0:FnD where
 N:=26
 np:=3
 cs:=[]
 ds:=[]
 ro:=[false]
theorem j0gh:Con.OK Tryz.prog j07w:=
 cOf tabOk mixedOk j0h0 j07w Tryz.func57 trivial trivial
def j01y:Con:=⟨101,[.v ty39,.clo 57 [.p [iT],.p [iT]]],[ty39,iT,iT],⟨[.v iT],[]⟩,[iT],fun h=>Pw.j00w h.1 h.2.1 h.2.2⟩
def j060:FnD where
 N:=19
 np:=2
 cs:=[j07w]
 ds:=[⟨0,[.s (.one (.d ty39)),.s (.one (.clo 57 [.p [iT],.p [iT]])),sI,sI],[ty39,iT,iT,iT,iT],[⟨.ret,[sI],[iT]⟩,⟨.exit 0,[],[]⟩],fun h=>Pw.j00s h.1 h.2.1 h.2.2.1 h.2.2.2.1 h.2.2.2.2⟩]
 modes:=[(57,[false])]
 keep:=[(0,⟨[0,1,7,8],[],[],[]⟩)]
 keepX:=[(0,.ret,⟨[4],[],[],[]⟩),
  (0,.exit 0,⟨[],[],[],[]⟩)]
 ro:=[false]
theorem j05w:Con.OK Tryz.prog j01y:=
 cOf tabOk mixedOk j060 j01y Tryz.func101 (And.intro j0gh trivial) (And.intro (fun h=>by kernel_rfl) trivial)
def j01h:Con:=⟨56,[.v ty39,.clo 57 [.p [iT],.p [iT]]],[ty39,iT,iT],⟨[.v .bool],[]⟩,[.bool],fun h=>Pw.j00q h.1 h.2.1 h.2.2⟩
def j057:FnD where
 N:=9
 np:=2
 cs:=[j01y]
 ds:=[]
 modes:=[(101,[false,false])]
 ro:=[false]
theorem j04S:Con.OK Tryz.prog j01h:=
 cOf tabOk mixedOk j057 j01h Tryz.func56 (And.intro j05w trivial) trivial
def j06p:Con:=⟨24,[.v ty72,.v iT,.v iT],[ty72,iT,iT],⟨[.v .bool],[]⟩,[.bool],fun h=>Pw.j05m h.1 h.2.1 h.2.2⟩
def j0kf:FnD where
 N:=11
 np:=3
 cs:=[j01h]
 ds:=[]
 modes:=[(56,[false,false])]
 ro:=[false]
theorem j0bQ:Con.OK Tryz.prog j06p:=
 cOf tabOk mixedOk j0kf j06p Tryz.func24 (And.intro j04S trivial) trivial
def j05H:Con:=⟨59,[.v ty81,.v ty72,.v iT],[ty81,ty72,iT],⟨[.v iT,.v iT],[]⟩,[iT,iT],fun h=>Pw.j02I h.1 h.2.1 h.2.2⟩
def j0h1:FnD where
 N:=29
 np:=3
 cs:=[j00P,j05Z,j06p]
 ds:=[⟨0,[sI,.s (.one (.bp 192 0)),.s (.one (.bp 256 0)),.s (.one (.bp 320 0)),.s (.one (.bp 384 0)),.s (.one (.bp 448 0)),.s (.one (.clo 155 [.p [ty68]])),.b (.cell [.d ty61,.d ty51,.d ty26,.d ty73,.d ty29] false),.b (.cell [.d .str,.d ty68,.d ty39] false),.b (.cell [.d iT] false),.b (.cell [.d iT] false),.b (.cell [.d iT] false)],[iT,ty68,ty61,ty51,ty26,ty73,ty29,.str,ty68,ty39,iT,iT,iT],[⟨.normal,[.s (.one (.bp 384 0)),.s (.one (.bp 448 0)),.b (.cell [.d iT] false),.b (.cell [.d iT] false)],[iT,iT]⟩,⟨.ret,[.s (.one (.bp 384 0)),.s (.one (.bp 448 0)),.b (.cell [.d iT] false),.b (.cell [.d iT] false)],[iT,iT]⟩],fun h=>Pw.j01c h.1 h.2.1 h.2.2.1 h.2.2.2.1 h.2.2.2.2.1 h.2.2.2.2.2.1 h.2.2.2.2.2.2.1 h.2.2.2.2.2.2.2.1 h.2.2.2.2.2.2.2.2.1 h.2.2.2.2.2.2.2.2.2.1 h.2.2.2.2.2.2.2.2.2.2.1 h.2.2.2.2.2.2.2.2.2.2.2.1 h.2.2.2.2.2.2.2.2.2.2.2.2⟩]
 modes:=[(24,[false,false,false]),(102,[false]),(103,[false,false,false])]
 keep:=[(0,⟨[3,4,5,6,7,13],[192,256,320,384,448],[],[]⟩)]
 keepX:=[(0,.normal,⟨[6,7],[384,448],[],[]⟩),
  (0,.ret,⟨[6,7],[384,448],[],[]⟩)]
 ro:=[false,false]
 bw:=[(155,ty67)]
theorem j0bR:Con.OK Tryz.prog j05H:=
 cOf tabOk mixedOk j0h1 j05H Tryz.func59 (And.intro j02F (And.intro j0dZ (And.intro j0bQ trivial))) (And.intro (fun h=>by kernel_rfl) trivial) (And.intro j0n5 trivial)
def j09q:Con:=⟨26,[.v ty79,.v iT,.v iT],[ty79,iT,iT],⟨[.v iT],[]⟩,[iT],fun h=>Pw.j06h h.1 h.2.1 h.2.2⟩
def j0lJ:FnD where
 N:=29
 np:=3
 cs:=[j07V,j05H]
 ds:=[]
 modes:=[(58,[false,false]),(59,[false,false,false])]
 ro:=[false]
theorem j0gi:Con.OK Tryz.prog j09q:=
 cOf tabOk mixedOk j0lJ j09q Tryz.func26 (And.intro j0fh (And.intro j0bR trivial)) trivial
def j06Y:Con:=⟨25,[.v ty79,.v iT,.v iT],[ty79,iT,iT],⟨[.v iT],[]⟩,[iT],fun h=>Pw.j04Y h.1 h.2.1 h.2.2⟩
def j0jf:FnD where
 N:=29
 np:=3
 cs:=[j07V,j05H]
 ds:=[]
 modes:=[(58,[false,false]),(59,[false,false,false])]
 ro:=[false]
theorem j0e0:Con.OK Tryz.prog j06Y:=
 cOf tabOk mixedOk j0jf j06Y Tryz.func25 (And.intro j0fh (And.intro j0bR trivial)) trivial
def j0aL:Con:=⟨20,[],[],⟨[.v .bool],[]⟩,[.bool],fun h=>Pw.j08r⟩
def j0kg:FnD where
 N:=52
 np:=0
 cs:=[j09J,j06K,j06p,j09q,j06Y]
 ds:=[]
 modes:=[(24,[false,false,false]),(25,[false,false,false]),(26,[false,false,false]),(27,[false,false,false,false]),(51,[])]
 ro:=[false]
theorem j0jg:Con.OK Tryz.prog j0aL:=
 cOf tabOk mixedOk j0kg j0aL Tryz.func20 (And.intro j0hS (And.intro j0fp (And.intro j0bQ (And.intro j0gi (And.intro j0e0 trivial))))) trivial
def j0bS:Con:=⟨12,[.v (.list iT)],[(.list iT)],⟨[.box [(.list iT),iT]],[]⟩,[(.list iT),iT],fun h=>Pw.j0hN h⟩
def j0lK:FnD where
 N:=6
 np:=1
 cs:=[]
 ds:=[]
 ro:=[false]
theorem j0kh:Con.OK Tryz.prog j0bS:=
 cOf tabOk mixedOk j0lK j0bS Tryz.func12 trivial trivial
def j00G:Con:=⟨21,[.ref [(.list iT),iT],.v iT],[(.list iT),iT,iT],⟨[.v iT],[.ref [(.list iT),iT]]⟩,[iT,(.list iT),iT],fun h=>Pw.j002 h.1 h.2.1 h.2.2⟩
def j0gj:FnD where
 N:=45
 np:=2
 cs:=[]
 ds:=[]
 ro:=[false]
theorem j01l:Con.OK Tryz.prog j00G:=
 cOf tabOk mixedOk j0gj j00G Tryz.func21 trivial trivial
def j01P:Con:=⟨53,[.ref [(.list iT),iT],.v (.list iT)],[(.list iT),iT,(.list iT)],⟨[.v iT],[.ref [(.list iT),iT]]⟩,[iT,(.list iT),iT],fun h=>Pw.j012 h.1 h.2.1 h.2.2⟩
def j0gk:FnD where
 N:=12
 np:=2
 cs:=[j00G]
 ds:=[]
 modes:=[(21,[false,false])]
 ro:=[false]
theorem j035:Con.OK Tryz.prog j01P:=
 cOf tabOk mixedOk j0gk j01P Tryz.func53 (And.intro j01l trivial) trivial
end Go.Proofs.Pk
