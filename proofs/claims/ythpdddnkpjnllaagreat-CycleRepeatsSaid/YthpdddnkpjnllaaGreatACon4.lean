/- Contracts: each given function is its plain function, printed by a program. -/
import Derived.Test.YthpdddnkpjnllaaGreatACon3
noncomputable section
open Go Go.Lft
set_option linter.unusedVariables false
set_option maxRecDepth 100000
namespace Go.Proofs.Pk
def j05u:Con:=⟨29,[.v ty79,.v iT],[ty79,iT],⟨[.v iT],[]⟩,[iT],fun h=>Pw.j04f h.1 h.2⟩
def j0dQ:FnD where
 N:=27
 np:=2
 cs:=[j055,j0bi,j05t]
 ds:=[]
 modes:=[(41,[false,false]),(63,[false]),(64,[false,false])]
 ro:=[false]
theorem j0d0:Con.OK Tryz.prog j05u:=
 cOf tabOk mixedOk j0dQ j05u Tryz.func29 (And.intro j09E (And.intro j0hJ (And.intro j0cZ trivial))) trivial
def j05U:Con:=⟨18,[.v ty79,.v iT,.v iT],[ty79,iT,iT],⟨[.v iT,.v iT],[]⟩,[iT,iT],fun h=>Pw.j06c h.1 h.2.1 h.2.2⟩
def j0gM:FnD where
 N:=42
 np:=3
 cs:=[j04u,j05u]
 ds:=[]
 modes:=[(14,[false,false]),(29,[false,false])]
 ro:=[false,false]
theorem j0bB:Con.OK Tryz.prog j05U:=
 cOf tabOk mixedOk j0gM j05U Tryz.func18 (And.intro j08O (And.intro j0d0 trivial)) trivial
def j01n:Con:=⟨102,[.v ty68],[ty68],⟨[.clo 155 [.p [ty68]]],[]⟩,[ty68],fun h=>Pw.j02E h⟩
def j056:FnD where
 N:=4
 np:=1
 cs:=[]
 ds:=[]
 ro:=[false]
theorem j04S:Con.OK Tryz.prog j01n:=
 cOf tabOk mixedOk j056 j01n Tryz.func102 trivial trivial
def j04T:Con:=⟨232,[.v ty25,.v iT],[ty25,iT],⟨[.v iT],[]⟩,[iT],fun h=>Pw.j02d h.1 h.2⟩
def j0d1:FnD where
 N:=10
 np:=2
 cs:=[j03H,j038]
 ds:=[]
 modes:=[(209,[false,false]),(210,[false,false])]
 ro:=[false]
theorem j0bQ:Con.OK Tryz.prog j04T:=
 cOf tabOk mixedOk j0d1 j04T Tryz.func232 (And.intro j08q (And.intro j07M trivial)) trivial
def j09F:Con:=⟨231,[.v iT],[iT],⟨[.v ty8],[]⟩,[ty8],fun h=>Pw.j0cp h⟩
def j0iM:FnD where
 N:=17
 np:=1
 cs:=[]
 ds:=[]
 ro:=[false]
theorem j0hL:Con.OK Tryz.prog j09F:=
 cOf tabOk mixedOk j0iM j09F Tryz.func231 trivial trivial
def j03K:Con:=⟨189,[.v ty25,.v iT],[ty25,iT],⟨[.v ty8],[]⟩,[ty8],fun h=>Pw.j00m h.1 h.2⟩
def j0dR:FnD where
 N:=11
 np:=2
 cs:=[j04T,j09F]
 ds:=[]
 modes:=[(231,[false]),(232,[false,false])]
 ro:=[false]
theorem j08t:Con.OK Tryz.prog j03K:=
 cOf tabOk mixedOk j0dR j03K Tryz.func189 (And.intro j0bQ (And.intro j0hL trivial)) trivial
def j06R:Con:=⟨159,[.v ty25,.v ty67,.v iT],[ty25,ty67,iT],⟨[.v iT],[]⟩,[iT],fun h=>Pw.j01T h.1 h.2.1 h.2.2⟩
def j0fG:FnD where
 N:=84
 np:=3
 cs:=[j07j,j03J,j03K]
 ds:=[⟨0,[sI,.s (.one (.bp 192 0)),.s (.one (.bp 256 0)),sI,.b (.cell [.d iT,.d ty12] false),.b (.cell [.d .str,.d iT,.d iT,.d iT,.d iT,.d iT,.d (.list iT),.d ty12,.d iT,.d iT] false)],[iT,iT,iT,ty12,.str,iT,iT,iT,iT,iT,(.list iT),ty12,iT,iT],[⟨.exit 0,[sI,.s (.one (.bp 192 0)),.s (.one (.bp 256 0)),sI,.b (.cell [.d iT,.d ty12] false),.b (.cell [.d .str,.d iT,.d iT,.d iT,.d iT,.d iT,.d (.list iT),.d ty12,.d iT,.d iT] false)],[iT,iT,iT,ty12,.str,iT,iT,iT,iT,iT,(.list iT),ty12,iT,iT]⟩],fun h=>Pw.j017 h.1 h.2.1 h.2.2.1 h.2.2.2.1 h.2.2.2.2.1 h.2.2.2.2.2.1 h.2.2.2.2.2.2.1 h.2.2.2.2.2.2.2.1 h.2.2.2.2.2.2.2.2.1 h.2.2.2.2.2.2.2.2.2.1 h.2.2.2.2.2.2.2.2.2.2.1 h.2.2.2.2.2.2.2.2.2.2.2.1 h.2.2.2.2.2.2.2.2.2.2.2.2.1 h.2.2.2.2.2.2.2.2.2.2.2.2.2⟩,
  ⟨2,[sI,.s (.one (.bp 192 0)),.s (.one (.bp 256 0)),sI,.b (.cell [.d iT,.d ty12] false),.b (.cell [.d .str,.d iT,.d iT,.d iT,.d iT,.d iT,.d (.list iT),.d ty12,.d iT,.d iT] false)],[iT,iT,iT,ty12,.str,iT,iT,iT,iT,iT,(.list iT),ty12,iT,iT],[⟨.ret,[sI],[iT]⟩],fun h=>Pw.j01o h.1 h.2.1 h.2.2.1 h.2.2.2.1 h.2.2.2.2.1 h.2.2.2.2.2.1 h.2.2.2.2.2.2.1 h.2.2.2.2.2.2.2.1 h.2.2.2.2.2.2.2.2.1 h.2.2.2.2.2.2.2.2.2.1 h.2.2.2.2.2.2.2.2.2.2.1 h.2.2.2.2.2.2.2.2.2.2.2.1 h.2.2.2.2.2.2.2.2.2.2.2.2.1 h.2.2.2.2.2.2.2.2.2.2.2.2.2⟩]
 modes:=[(118,[false,false,false]),(164,[false]),(189,[false,false])]
 keep:=[(0,⟨[2,3,4,9],[192,256],[],[]⟩),
  (2,⟨[2,3,4,9],[192,256],[],[]⟩)]
 keepX:=[(0,.exit 0,⟨[2,3,4,9],[192,256],[],[]⟩),
  (2,.ret,⟨[6],[],[],[]⟩)]
 ro:=[false]
theorem j0f5:Con.OK Tryz.prog j06R:=
 cOf tabOk mixedOk j0fG j06R Tryz.func159 (And.intro j0eg (And.intro j08s (And.intro j08t trivial))) (And.intro (fun h=>by kernel_rfl) (And.intro (fun h=>by kernel_rfl) trivial))
def j06S:Con:=⟨188,[.v ty8],[ty8],⟨[.v iT],[]⟩,[iT],fun h=>Pw.j02r h⟩
def j0fH:FnD where
 N:=10
 np:=1
 cs:=[j05f]
 ds:=[]
 modes:=[(230,[false])]
 ro:=[false]
theorem j0f6:Con.OK Tryz.prog j06S:=
 cOf tabOk mixedOk j0fH j06S Tryz.func188 (And.intro j0ay trivial) trivial
def j0bR:Con:=⟨187,[.v ty12,.v iT],[ty12,iT],⟨[.v .bool],[]⟩,[.bool],fun h=>Pw.j0bI h.1 h.2⟩
def j0lG:FnD where
 N:=24
 np:=2
 cs:=[]
 ds:=[⟨0,[sI,.s (.one (.d ty12)),sI,sI],[iT,ty12,iT,iT],[⟨.ret,[.s (.one (.d .bool))],[.bool]⟩,⟨.exit 0,[],[]⟩],fun h=>Pw.j04g h.1 h.2.1 h.2.2.1 h.2.2.2⟩]
 keep:=[(0,⟨[1,7,8,9],[],[],[]⟩)]
 keepX:=[(0,.ret,⟨[4],[],[],[]⟩),
  (0,.exit 0,⟨[],[],[],[]⟩)]
 ro:=[false]
theorem j0kh:Con.OK Tryz.prog j0bR:=
 cOf tabOk mixedOk j0lG j0bR Tryz.func187 trivial (And.intro (fun h=>by kernel_rfl) trivial)
def j06T:Con:=⟨243,[.v iT],[iT],⟨[.v .bool],[]⟩,[.bool],fun h=>Pw.j08h h⟩
def j0fI:FnD where
 N:=6
 np:=1
 cs:=[]
 ds:=[]
 ro:=[false]
theorem j0f7:Con.OK Tryz.prog j06T:=
 cOf tabOk mixedOk j0fI j06T Tryz.func243 trivial trivial
def j07O:Con:=⟨216,[.v iT,.v iT],[iT,iT],⟨[.v .bool],[]⟩,[.bool],fun h=>Pw.j09p h.1 h.2⟩
def j0gN:FnD where
 N:=17
 np:=2
 cs:=[j06T]
 ds:=[]
 modes:=[(243,[false])]
 ro:=[false]
theorem j0fJ:Con.OK Tryz.prog j07O:=
 cOf tabOk mixedOk j0gN j07O Tryz.func216 (And.intro j0f7 trivial) trivial
def j05v:Con:=⟨217,[.v iT],[iT],⟨[.v .bool],[]⟩,[.bool],fun h=>Pw.j05L h⟩
def j0dS:FnD where
 N:=6
 np:=1
 cs:=[]
 ds:=[]
 ro:=[false]
theorem j0d2:Con.OK Tryz.prog j05v:=
 cOf tabOk mixedOk j0dS j05v Tryz.func217 trivial trivial
def j027:Con:=⟨168,[.v (.list iT),.v iT],[(.list iT),iT],⟨[.v iT,.v .bool],[]⟩,[iT,.bool],fun h=>Pw.j00s h.1 h.2⟩
def j07k:FnD where
 N:=54
 np:=2
 cs:=[j07O,j05v]
 ds:=[⟨0,[.s (.one (.d (.list iT))),sI,sI,sI,sI],[(.list iT),iT,iT,iT,iT],[⟨.exit 0,[.s (.one (.d (.list iT))),sI,sI,sI],[(.list iT),iT,iT,iT]⟩],fun h=>Pw.j012 h.1 h.2.1 h.2.2.1 h.2.2.2.1 h.2.2.2.2⟩]
 modes:=[(216,[false,false]),(217,[false])]
 keep:=[(0,⟨[0,1,6,7,8],[],[],[]⟩)]
 keepX:=[(0,.exit 0,⟨[0,1,6,7],[],[],[]⟩)]
 ro:=[false,false]
theorem j06U:Con.OK Tryz.prog j027:=
 cOf tabOk mixedOk j07k j027 Tryz.func168 (And.intro j0fJ (And.intro j0d2 trivial)) (And.intro (fun h=>by kernel_rfl) trivial)
def j07P:Con:=⟨156,[.v ty81,.v ty67,.v iT],[ty81,ty67,iT],⟨[.v iT,.v .bool],[]⟩,[iT,.bool],fun h=>Pw.j02Y h.1 h.2.1 h.2.2⟩
def j0gO:FnD where
 N:=79
 np:=3
 cs:=[j03K,j06R,j06S,j0bR,j027]
 ds:=[]
 modes:=[(159,[false,false,false]),(168,[false,false]),(187,[false,false]),(188,[false]),(189,[false,false])]
 ro:=[false,false]
theorem j0fK:Con.OK Tryz.prog j07P:=
 cOf tabOk mixedOk j0gO j07P Tryz.func156 (And.intro j08t (And.intro j0f5 (And.intro j0f6 (And.intro j0kh (And.intro j06U trivial))))) trivial
def j05w:Con:=⟨103,[.v ty81,.v ty67,.v iT],[ty81,ty67,iT],⟨[.v iT],[]⟩,[iT],fun h=>Pw.j01u h.1 h.2.1 h.2.2⟩
def j0dT:FnD where
 N:=27
 np:=3
 cs:=[j07P]
 ds:=[]
 modes:=[(156,[false,false,false])]
 ro:=[false]
theorem j0d3:Con.OK Tryz.prog j05w:=
 cOf tabOk mixedOk j0dT j05w Tryz.func103 (And.intro j0fK trivial) trivial
def j06V:Con:=⟨57,[.v ty37,.ip [iT],.ip [iT]],[ty37,iT,iT],⟨[.v .bool],[]⟩,[.bool],fun h=>Pw.j0an h.1 h.2.1 h.2.2⟩
def j0fL:FnD where
 N:=26
 np:=3
 cs:=[]
 ds:=[]
 ro:=[false]
theorem j0f8:Con.OK Tryz.prog j06V:=
 cOf tabOk mixedOk j0fL j06V Tryz.func57 trivial trivial
def j01p:Con:=⟨101,[.v ty39,.clo 57 [.p [iT],.p [iT]]],[ty39,iT,iT],⟨[.v iT],[]⟩,[iT],fun h=>Pw.j00x h.1 h.2.1 h.2.2⟩
def j05x:FnD where
 N:=19
 np:=2
 cs:=[j06V]
 ds:=[⟨0,[.s (.one (.d ty39)),.s (.one (.clo 57 [.p [iT],.p [iT]])),sI,sI],[ty39,iT,iT,iT,iT],[⟨.ret,[sI],[iT]⟩,⟨.exit 0,[],[]⟩],fun h=>Pw.j00t h.1 h.2.1 h.2.2.1 h.2.2.2.1 h.2.2.2.2⟩]
 modes:=[(57,[false])]
 keep:=[(0,⟨[0,1,7,8],[],[],[]⟩)]
 keepX:=[(0,.ret,⟨[4],[],[],[]⟩),
  (0,.exit 0,⟨[],[],[],[]⟩)]
 ro:=[false]
theorem j057:Con.OK Tryz.prog j01p:=
 cOf tabOk mixedOk j05x j01p Tryz.func101 (And.intro j0f8 trivial) (And.intro (fun h=>by kernel_rfl) trivial)
def j01c:Con:=⟨56,[.v ty39,.clo 57 [.p [iT],.p [iT]]],[ty39,iT,iT],⟨[.v .bool],[]⟩,[.bool],fun h=>Pw.j00r h.1 h.2.1 h.2.2⟩
def j04I:FnD where
 N:=9
 np:=2
 cs:=[j01p]
 ds:=[]
 modes:=[(101,[false,false])]
 ro:=[false]
theorem j04w:Con.OK Tryz.prog j01c:=
 cOf tabOk mixedOk j04I j01c Tryz.func56 (And.intro j057 trivial) trivial
def j09G:Con:=⟨24,[.v ty72,.v iT,.v iT],[ty72,iT,iT],⟨[.v .bool],[]⟩,[.bool],fun h=>Pw.j07D h.1 h.2.1 h.2.2⟩
def j0iN:FnD where
 N:=11
 np:=3
 cs:=[j01c]
 ds:=[]
 modes:=[(56,[false,false])]
 ro:=[false]
theorem j0hM:Con.OK Tryz.prog j09G:=
 cOf tabOk mixedOk j0iN j09G Tryz.func24 (And.intro j04w trivial) trivial
def j06W:Con:=⟨59,[.v ty81,.v ty72,.v iT],[ty81,ty72,iT],⟨[.v iT,.v iT],[]⟩,[iT,iT],fun h=>Pw.j06A h.1 h.2.1 h.2.2⟩
def j0fM:FnD where
 N:=29
 np:=3
 cs:=[j01n,j05w,j09G]
 ds:=[⟨0,[sI,.s (.one (.bp 192 0)),.s (.one (.bp 256 0)),.s (.one (.bp 320 0)),.s (.one (.bp 384 0)),.s (.one (.bp 448 0)),.s (.one (.clo 155 [.p [ty68]])),.b (.cell [.d ty61,.d ty51,.d ty26,.d ty73,.d ty29] false),.b (.cell [.d .str,.d ty68,.d ty39] false),.b (.cell [.d iT] false),.b (.cell [.d iT] false),.b (.cell [.d iT] false)],[iT,ty68,ty61,ty51,ty26,ty73,ty29,.str,ty68,ty39,iT,iT,iT],[⟨.normal,[.s (.one (.bp 384 0)),.s (.one (.bp 448 0)),.b (.cell [.d iT] false),.b (.cell [.d iT] false)],[iT,iT]⟩,⟨.ret,[.s (.one (.bp 384 0)),.s (.one (.bp 448 0)),.b (.cell [.d iT] false),.b (.cell [.d iT] false)],[iT,iT]⟩],fun h=>Pw.j018 h.1 h.2.1 h.2.2.1 h.2.2.2.1 h.2.2.2.2.1 h.2.2.2.2.2.1 h.2.2.2.2.2.2.1 h.2.2.2.2.2.2.2.1 h.2.2.2.2.2.2.2.2.1 h.2.2.2.2.2.2.2.2.2.1 h.2.2.2.2.2.2.2.2.2.2.1 h.2.2.2.2.2.2.2.2.2.2.2.1 h.2.2.2.2.2.2.2.2.2.2.2.2⟩]
 modes:=[(24,[false,false,false]),(102,[false]),(103,[false,false,false])]
 keep:=[(0,⟨[3,4,5,6,7,13],[192,256,320,384,448],[],[]⟩)]
 keepX:=[(0,.normal,⟨[6,7],[384,448],[],[]⟩),
  (0,.ret,⟨[6,7],[384,448],[],[]⟩)]
 ro:=[false,false]
 bw:=[(155,ty67)]
theorem j0nF:BwOK Tryz.prog 155 (ty67):=
 bw_con tabOk Tryz.func155 (fn:=Tryz.f155) (A0:=bwA Tryz.f155 0) (A1:=bwA Tryz.f155 1) (A2:=bwA Tryz.f155 2) (A3:=bwA Tryz.f155 3) (by kernel_rfl) (by kernel_rfl) (by kernel_rfl) (by kernel_rfl) (by kernel_rfl) (by kernel_rfl) (by kernel_rfl) (by kernel_rfl) (by kernel_rfl) (by kernel_rfl) (by kernel_rfl) ⟨(by kernel_rfl),(by kernel_rfl)⟩
  (fun xs=>by kernel_rfl) (fun i=>by kernel_rfl) (fun i=>by kernel_rfl) (fun xs i=>by kernel_rfl) (fun b i=>by kernel_rfl)
theorem j0f9:Con.OK Tryz.prog j06W:=
 cOf tabOk mixedOk j0fM j06W Tryz.func59 (And.intro j04S (And.intro j0d3 (And.intro j0hM trivial))) (And.intro (fun h=>by kernel_rfl) trivial) (And.intro j0nF trivial)
end Go.Proofs.Pk
