/- Contracts: each given function is its plain function, printed by a program. -/
import Derived.Test.YthpdddnkpjnllaaGreatACon3
noncomputable section
open Go Go.Lft
set_option linter.unusedVariables false
set_option maxRecDepth 100000
namespace Go.Proofs.Pk
def j05C:Con:=⟨29,[.v ty79,.v iT],[ty79,iT],⟨[.v iT],[]⟩,[iT],fun h=>Pw.j02F h.1 h.2⟩
def j0dV:FnD where
 N:=27
 np:=2
 cs:=[j05c,j0br,j05B]
 ds:=[]
 modes:=[(41,[false,false]),(63,[false]),(64,[false,false])]
 ro:=[false]
theorem j0d3:Con.OK Tryz.prog j05C:=
 cOf tabOk mixedOk j0dV j05C Tryz.func29 (And.intro j09P (And.intro j0hP (And.intro j0d2 trivial))) trivial
def j04E:Con:=⟨18,[.v ty79,.v iT,.v iT],[ty79,iT,iT],⟨[.v iT,.v iT],[]⟩,[iT,iT],fun h=>Pw.j028 h.1 h.2.1 h.2.2⟩
def j0gR:FnD where
 N:=42
 np:=3
 cs:=[j04C,j05C]
 ds:=[]
 modes:=[(14,[false,false]),(29,[false,false])]
 ro:=[false,false]
theorem j091:Con.OK Tryz.prog j04E:=
 cOf tabOk mixedOk j0gR j04E Tryz.func18 (And.intro j08Y (And.intro j0d3 trivial)) trivial
def j01p:Con:=⟨102,[.v ty68],[ty68],⟨[.clo 155 [.p [ty68]]],[]⟩,[ty68],fun h=>Pw.j01G h⟩
def j05d:FnD where
 N:=4
 np:=1
 cs:=[]
 ds:=[]
 ro:=[false]
theorem j051:Con.OK Tryz.prog j01p:=
 cOf tabOk mixedOk j05d j01p Tryz.func102 trivial trivial
def j052:Con:=⟨232,[.v ty25,.v iT],[ty25,iT],⟨[.v iT],[]⟩,[iT],fun h=>Pw.j02k h.1 h.2⟩
def j0d4:FnD where
 N:=10
 np:=2
 cs:=[j03R,j03h]
 ds:=[]
 modes:=[(209,[false,false]),(210,[false,false])]
 ro:=[false]
theorem j0bX:Con.OK Tryz.prog j052:=
 cOf tabOk mixedOk j0d4 j052 Tryz.func232 (And.intro j08y (And.intro j07T trivial)) trivial
def j09Q:Con:=⟨231,[.v iT],[iT],⟨[.v ty8],[]⟩,[ty8],fun h=>Pw.j0cu h⟩
def j0iS:FnD where
 N:=17
 np:=1
 cs:=[]
 ds:=[]
 ro:=[false]
theorem j0hR:Con.OK Tryz.prog j09Q:=
 cOf tabOk mixedOk j0iS j09Q Tryz.func231 trivial trivial
def j03U:Con:=⟨189,[.v ty25,.v iT],[ty25,iT],⟨[.v ty8],[]⟩,[ty8],fun h=>Pw.j00m h.1 h.2⟩
def j0dW:FnD where
 N:=11
 np:=2
 cs:=[j052,j09Q]
 ds:=[]
 modes:=[(231,[false]),(232,[false,false])]
 ro:=[false]
theorem j08B:Con.OK Tryz.prog j03U:=
 cOf tabOk mixedOk j0dW j03U Tryz.func189 (And.intro j0bX (And.intro j0hR trivial)) trivial
def j06X:Con:=⟨159,[.v ty25,.v ty67,.v iT],[ty25,ty67,iT],⟨[.v iT],[]⟩,[iT],fun h=>Pw.j01Y h.1 h.2.1 h.2.2⟩
def j0fK:FnD where
 N:=84
 np:=3
 cs:=[j07p,j03T,j03U]
 ds:=[⟨0,[sI,.s (.one (.bp 192 0)),.s (.one (.bp 256 0)),sI,.b (.cell [.d iT,.d ty12] false),.b (.cell [.d .str,.d iT,.d iT,.d iT,.d iT,.d iT,.d (.list iT),.d ty12,.d iT,.d iT] false)],[iT,iT,iT,ty12,.str,iT,iT,iT,iT,iT,(.list iT),ty12,iT,iT],[⟨.exit 0,[sI,.s (.one (.bp 192 0)),.s (.one (.bp 256 0)),sI,.b (.cell [.d iT,.d ty12] false),.b (.cell [.d .str,.d iT,.d iT,.d iT,.d iT,.d iT,.d (.list iT),.d ty12,.d iT,.d iT] false)],[iT,iT,iT,ty12,.str,iT,iT,iT,iT,iT,(.list iT),ty12,iT,iT]⟩],fun h=>Pw.j018 h.1 h.2.1 h.2.2.1 h.2.2.2.1 h.2.2.2.2.1 h.2.2.2.2.2.1 h.2.2.2.2.2.2.1 h.2.2.2.2.2.2.2.1 h.2.2.2.2.2.2.2.2.1 h.2.2.2.2.2.2.2.2.2.1 h.2.2.2.2.2.2.2.2.2.2.1 h.2.2.2.2.2.2.2.2.2.2.2.1 h.2.2.2.2.2.2.2.2.2.2.2.2.1 h.2.2.2.2.2.2.2.2.2.2.2.2.2⟩,
  ⟨2,[sI,.s (.one (.bp 192 0)),.s (.one (.bp 256 0)),sI,.b (.cell [.d iT,.d ty12] false),.b (.cell [.d .str,.d iT,.d iT,.d iT,.d iT,.d iT,.d (.list iT),.d ty12,.d iT,.d iT] false)],[iT,iT,iT,ty12,.str,iT,iT,iT,iT,iT,(.list iT),ty12,iT,iT],[⟨.ret,[sI],[iT]⟩],fun h=>Pw.j01q h.1 h.2.1 h.2.2.1 h.2.2.2.1 h.2.2.2.2.1 h.2.2.2.2.2.1 h.2.2.2.2.2.2.1 h.2.2.2.2.2.2.2.1 h.2.2.2.2.2.2.2.2.1 h.2.2.2.2.2.2.2.2.2.1 h.2.2.2.2.2.2.2.2.2.2.1 h.2.2.2.2.2.2.2.2.2.2.2.1 h.2.2.2.2.2.2.2.2.2.2.2.2.1 h.2.2.2.2.2.2.2.2.2.2.2.2.2⟩]
 modes:=[(118,[false,false,false]),(164,[false]),(189,[false,false])]
 keep:=[(0,⟨[2,3,4,9],[192,256],[],[]⟩),
  (2,⟨[2,3,4,9],[192,256],[],[]⟩)]
 keepX:=[(0,.exit 0,⟨[2,3,4,9],[192,256],[],[]⟩),
  (2,.ret,⟨[6],[],[],[]⟩)]
 ro:=[false]
theorem j0f7:Con.OK Tryz.prog j06X:=
 cOf tabOk mixedOk j0fK j06X Tryz.func159 (And.intro j0el (And.intro j08A (And.intro j08B trivial))) (And.intro (fun h=>by kernel_rfl) (And.intro (fun h=>by kernel_rfl) trivial))
def j06Y:Con:=⟨188,[.v ty8],[ty8],⟨[.v iT],[]⟩,[iT],fun h=>Pw.j02z h⟩
def j0fL:FnD where
 N:=10
 np:=1
 cs:=[j05m]
 ds:=[]
 modes:=[(230,[false])]
 ro:=[false]
theorem j0f8:Con.OK Tryz.prog j06Y:=
 cOf tabOk mixedOk j0fL j06Y Tryz.func188 (And.intro j0aH trivial) trivial
def j0bY:Con:=⟨187,[.v ty12,.v iT],[ty12,iT],⟨[.v .bool],[]⟩,[.bool],fun h=>Pw.j0bQ h.1 h.2⟩
def j0lL:FnD where
 N:=24
 np:=2
 cs:=[]
 ds:=[⟨0,[sI,.s (.one (.d ty12)),sI,sI],[iT,ty12,iT,iT],[⟨.ret,[.s (.one (.d .bool))],[.bool]⟩,⟨.exit 0,[],[]⟩],fun h=>Pw.j04o h.1 h.2.1 h.2.2.1 h.2.2.2⟩]
 keep:=[(0,⟨[1,7,8,9],[],[],[]⟩)]
 keepX:=[(0,.ret,⟨[4],[],[],[]⟩),
  (0,.exit 0,⟨[],[],[],[]⟩)]
 ro:=[false]
theorem j0km:Con.OK Tryz.prog j0bY:=
 cOf tabOk mixedOk j0lL j0bY Tryz.func187 trivial (And.intro (fun h=>by kernel_rfl) trivial)
def j06Z:Con:=⟨243,[.v iT],[iT],⟨[.v .bool],[]⟩,[.bool],fun h=>Pw.j08o h⟩
def j0fM:FnD where
 N:=6
 np:=1
 cs:=[]
 ds:=[]
 ro:=[false]
theorem j0f9:Con.OK Tryz.prog j06Z:=
 cOf tabOk mixedOk j0fM j06Z Tryz.func243 trivial trivial
def j07V:Con:=⟨216,[.v iT,.v iT],[iT,iT],⟨[.v .bool],[]⟩,[.bool],fun h=>Pw.j09z h.1 h.2⟩
def j0gS:FnD where
 N:=17
 np:=2
 cs:=[j06Z]
 ds:=[]
 modes:=[(243,[false])]
 ro:=[false]
theorem j0fN:Con.OK Tryz.prog j07V:=
 cOf tabOk mixedOk j0gS j07V Tryz.func216 (And.intro j0f9 trivial) trivial
def j05D:Con:=⟨217,[.v iT],[iT],⟨[.v .bool],[]⟩,[.bool],fun h=>Pw.j05Q h⟩
def j0dX:FnD where
 N:=6
 np:=1
 cs:=[]
 ds:=[]
 ro:=[false]
theorem j0d5:Con.OK Tryz.prog j05D:=
 cOf tabOk mixedOk j0dX j05D Tryz.func217 trivial trivial
def j02d:Con:=⟨168,[.v (.list iT),.v iT],[(.list iT),iT],⟨[.v iT,.v .bool],[]⟩,[iT,.bool],fun h=>Pw.j00s h.1 h.2⟩
def j07q:FnD where
 N:=54
 np:=2
 cs:=[j07V,j05D]
 ds:=[⟨0,[.s (.one (.d (.list iT))),sI,sI,sI,sI],[(.list iT),iT,iT,iT,iT],[⟨.exit 0,[.s (.one (.d (.list iT))),sI,sI,sI],[(.list iT),iT,iT,iT]⟩],fun h=>Pw.j013 h.1 h.2.1 h.2.2.1 h.2.2.2.1 h.2.2.2.2⟩]
 modes:=[(216,[false,false]),(217,[false])]
 keep:=[(0,⟨[0,1,6,7,8],[],[],[]⟩)]
 keepX:=[(0,.exit 0,⟨[0,1,6,7],[],[],[]⟩)]
 ro:=[false,false]
theorem j070:Con.OK Tryz.prog j02d:=
 cOf tabOk mixedOk j07q j02d Tryz.func168 (And.intro j0fN (And.intro j0d5 trivial)) (And.intro (fun h=>by kernel_rfl) trivial)
def j07W:Con:=⟨156,[.v ty81,.v ty67,.v iT],[ty81,ty67,iT],⟨[.v iT,.v .bool],[]⟩,[iT,.bool],fun h=>Pw.j037 h.1 h.2.1 h.2.2⟩
def j0gT:FnD where
 N:=79
 np:=3
 cs:=[j03U,j06X,j06Y,j0bY,j02d]
 ds:=[]
 modes:=[(159,[false,false,false]),(168,[false,false]),(187,[false,false]),(188,[false]),(189,[false,false])]
 ro:=[false,false]
theorem j0fO:Con.OK Tryz.prog j07W:=
 cOf tabOk mixedOk j0gT j07W Tryz.func156 (And.intro j08B (And.intro j0f7 (And.intro j0f8 (And.intro j0km (And.intro j070 trivial))))) trivial
def j05E:Con:=⟨103,[.v ty81,.v ty67,.v iT],[ty81,ty67,iT],⟨[.v iT],[]⟩,[iT],fun h=>Pw.j01f h.1 h.2.1 h.2.2⟩
def j0dY:FnD where
 N:=27
 np:=3
 cs:=[j07W]
 ds:=[]
 modes:=[(156,[false,false,false])]
 ro:=[false]
theorem j0d6:Con.OK Tryz.prog j05E:=
 cOf tabOk mixedOk j0dY j05E Tryz.func103 (And.intro j0fO trivial) trivial
def j071:Con:=⟨57,[.v ty37,.ip [iT],.ip [iT]],[ty37,iT,iT],⟨[.v .bool],[]⟩,[.bool],fun h=>Pw.j0ay h.1 h.2.1 h.2.2⟩
def j0fP:FnD where
 N:=26
 np:=3
 cs:=[]
 ds:=[]
 ro:=[false]
theorem j0fa:Con.OK Tryz.prog j071:=
 cOf tabOk mixedOk j0fP j071 Tryz.func57 trivial trivial
def j01r:Con:=⟨101,[.v ty39,.clo 57 [.p [iT],.p [iT]]],[ty39,iT,iT],⟨[.v iT],[]⟩,[iT],fun h=>Pw.j00x h.1 h.2.1 h.2.2⟩
def j05F:FnD where
 N:=19
 np:=2
 cs:=[j071]
 ds:=[⟨0,[.s (.one (.d ty39)),.s (.one (.clo 57 [.p [iT],.p [iT]])),sI,sI],[ty39,iT,iT,iT,iT],[⟨.ret,[sI],[iT]⟩,⟨.exit 0,[],[]⟩],fun h=>Pw.j00t h.1 h.2.1 h.2.2.1 h.2.2.2.1 h.2.2.2.2⟩]
 modes:=[(57,[false])]
 keep:=[(0,⟨[0,1,7,8],[],[],[]⟩)]
 keepX:=[(0,.ret,⟨[4],[],[],[]⟩),
  (0,.exit 0,⟨[],[],[],[]⟩)]
 ro:=[false]
theorem j05e:Con.OK Tryz.prog j01r:=
 cOf tabOk mixedOk j05F j01r Tryz.func101 (And.intro j0fa trivial) (And.intro (fun h=>by kernel_rfl) trivial)
def j01d:Con:=⟨56,[.v ty39,.clo 57 [.p [iT],.p [iT]]],[ty39,iT,iT],⟨[.v .bool],[]⟩,[.bool],fun h=>Pw.j00r h.1 h.2.1 h.2.2⟩
def j04R:FnD where
 N:=9
 np:=2
 cs:=[j01r]
 ds:=[]
 modes:=[(101,[false,false])]
 ro:=[false]
theorem j04F:Con.OK Tryz.prog j01d:=
 cOf tabOk mixedOk j04R j01d Tryz.func56 (And.intro j05e trivial) trivial
def j09R:Con:=⟨24,[.v ty72,.v iT,.v iT],[ty72,iT,iT],⟨[.v .bool],[]⟩,[.bool],fun h=>Pw.j07K h.1 h.2.1 h.2.2⟩
def j0iT:FnD where
 N:=11
 np:=3
 cs:=[j01d]
 ds:=[]
 modes:=[(56,[false,false])]
 ro:=[false]
theorem j0hS:Con.OK Tryz.prog j09R:=
 cOf tabOk mixedOk j0iT j09R Tryz.func24 (And.intro j04F trivial) trivial
def j072:Con:=⟨59,[.v ty81,.v ty72,.v iT],[ty81,ty72,iT],⟨[.v iT,.v iT],[]⟩,[iT,iT],fun h=>Pw.j02V h.1 h.2.1 h.2.2⟩
def j0fQ:FnD where
 N:=29
 np:=3
 cs:=[j01p,j05E,j09R]
 ds:=[⟨0,[sI,.s (.one (.bp 192 0)),.s (.one (.bp 256 0)),.s (.one (.bp 320 0)),.s (.one (.bp 384 0)),.s (.one (.bp 448 0)),.s (.one (.clo 155 [.p [ty68]])),.b (.cell [.d ty61,.d ty51,.d ty26,.d ty73,.d ty29] false),.b (.cell [.d .str,.d ty68,.d ty39] false),.b (.cell [.d iT] false),.b (.cell [.d iT] false),.b (.cell [.d iT] false)],[iT,ty68,ty61,ty51,ty26,ty73,ty29,.str,ty68,ty39,iT,iT,iT],[⟨.normal,[.s (.one (.bp 384 0)),.s (.one (.bp 448 0)),.b (.cell [.d iT] false),.b (.cell [.d iT] false)],[iT,iT]⟩,⟨.ret,[.s (.one (.bp 384 0)),.s (.one (.bp 448 0)),.b (.cell [.d iT] false),.b (.cell [.d iT] false)],[iT,iT]⟩],fun h=>Pw.j019 h.1 h.2.1 h.2.2.1 h.2.2.2.1 h.2.2.2.2.1 h.2.2.2.2.2.1 h.2.2.2.2.2.2.1 h.2.2.2.2.2.2.2.1 h.2.2.2.2.2.2.2.2.1 h.2.2.2.2.2.2.2.2.2.1 h.2.2.2.2.2.2.2.2.2.2.1 h.2.2.2.2.2.2.2.2.2.2.2.1 h.2.2.2.2.2.2.2.2.2.2.2.2⟩]
 modes:=[(24,[false,false,false]),(102,[false]),(103,[false,false,false])]
 keep:=[(0,⟨[3,4,5,6,7,13],[192,256,320,384,448],[],[]⟩)]
 keepX:=[(0,.normal,⟨[6,7],[384,448],[],[]⟩),
  (0,.ret,⟨[6,7],[384,448],[],[]⟩)]
 ro:=[false,false]
 bw:=[(155,ty67)]
theorem j0nM:BwOK Tryz.prog 155 (ty67):=
 bw_con tabOk Tryz.func155 (fn:=Tryz.f155) (A0:=bwA Tryz.f155 0) (A1:=bwA Tryz.f155 1) (A2:=bwA Tryz.f155 2) (A3:=bwA Tryz.f155 3) (by kernel_rfl) (by kernel_rfl) (by kernel_rfl) (by kernel_rfl) (by kernel_rfl) (by kernel_rfl) (by kernel_rfl) (by kernel_rfl) (by kernel_rfl) (by kernel_rfl) (by kernel_rfl) ⟨(by kernel_rfl),(by kernel_rfl)⟩
  (fun xs=>by kernel_rfl) (fun i=>by kernel_rfl) (fun i=>by kernel_rfl) (fun xs i=>by kernel_rfl) (fun b i=>by kernel_rfl)
theorem j0fb:Con.OK Tryz.prog j072:=
 cOf tabOk mixedOk j0fQ j072 Tryz.func59 (And.intro j051 (And.intro j0d6 (And.intro j0hS trivial))) (And.intro (fun h=>by kernel_rfl) trivial) (And.intro j0nM trivial)
end Go.Proofs.Pk
