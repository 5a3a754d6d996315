/- Contracts: each given function is its plain function, printed by a program. -/
import Derived.Test.YthpdddnkpjnllaaGreatCCon1
noncomputable section
open Go Go.Lft
set_option linter.unusedVariables false
set_option maxRecDepth 100000
namespace Go.Proofs.Pk
def j02z:Con:=⟨130,[.v (.list iT),.clo 131 []],[(.list iT)],⟨[.v .bool],[]⟩,[.bool],fun h=>Pw.j019 h⟩
def j07h:FnD where
 N:=9
 np:=2
 cs:=[j03g]
 ds:=[]
 modes:=[(175,[false,false])]
 ro:=[false]
theorem j06X:Con.OK Tryz.prog j02z:=
 cOf tabOk mixedOk j07h j02z Tryz.func130 (And.intro j085 trivial) trivial
def j03Y:Con:=⟨80,[.v ty79,.v ty22],[ty79,ty22],⟨[.v iT],[]⟩,[iT],fun h=>Pw.j01h h.1 h.2⟩
def j09P:FnD where
 N:=46
 np:=2
 cs:=[j02L,j02z]
 ds:=[⟨1,[.s (.one (.bp 192 0)),sI,sI,.b (.cell [.d .str,.d iT,.d (.list iT)] false)],[iT,iT,.str,iT,(.list iT)],[⟨.ret,[sI],[iT]⟩,⟨.exit 1,[],[]⟩],fun h=>Pw.j01p h.1 h.2.1 h.2.2.1 h.2.2.2.1 h.2.2.2.2⟩]
 modes:=[(127,[false,false]),(130,[false,false])]
 keep:=[(1,⟨[3,25,26],[192],[],[]⟩)]
 keepX:=[(1,.ret,⟨[4],[],[],[]⟩),
  (1,.exit 1,⟨[],[],[],[]⟩)]
 ro:=[false]
theorem j09v:Con.OK Tryz.prog j03Y:=
 cOf tabOk mixedOk j09P j03Y Tryz.func80 (And.intro j04L (And.intro j06X trivial)) (And.intro (fun h=>by kernel_rfl) trivial)
def j05E:Con:=⟨79,[.v ty22,.ip [ty61,ty51,ty26,ty73]],[ty22,ty61,ty51,ty26,ty73],⟨[.v iT],[]⟩,[iT],fun h=>Pw.j03P h.1 h.2.1 h.2.2.1 h.2.2.2.1 h.2.2.2.2⟩
def j0cq:FnD where
 N:=7
 np:=2
 cs:=[j03Y]
 ds:=[]
 modes:=[(80,[false,false])]
 ro:=[false]
theorem j0bB:Con.OK Tryz.prog j05E:=
 cOf tabOk mixedOk j0cq j05E Tryz.func79 (And.intro j09v trivial) trivial
def j02M:Con:=⟨77,[.v ty26,.clo 78 [],.clo 79 [.p [ty61,ty51,ty26,ty73]]],[ty26,ty61,ty51,ty26,ty73],⟨[.v iT],[]⟩,[iT],fun h=>Pw.j00V h.1 h.2.1 h.2.2.1 h.2.2.2.1 h.2.2.2.2⟩
def j07P:FnD where
 N:=34
 np:=3
 cs:=[j03e,j05D,j05E]
 ds:=[⟨0,[.s (.one (.clo 78 [])),.s (.one (.clo 79 [.p [ty61,ty51,ty26,ty73]])),.s (.one (.ol 1000000)),.s (.one (.d ty26)),sI,sI,.b (.lst 4294967424 (.pair .str .bool) false)],[ty61,ty51,ty26,ty73,ty26,iT,iT,(.list (.pair .str .bool))],[⟨.ret,[sI],[iT]⟩,⟨.exit 0,[],[]⟩],fun h=>Pw.j00h h.1 h.2.1 h.2.2.1 h.2.2.2.1 h.2.2.2.2.1 h.2.2.2.2.2.1 h.2.2.2.2.2.2.1 h.2.2.2.2.2.2.2⟩]
 modes:=[(75,[false,true]),(78,[false]),(79,[false])]
 keep:=[(0,⟨[1,2,7,13,14,15],[],[⟨1000000,4294967424,(.pair .str .bool),[.slot 7],false⟩],[]⟩)]
 keepX:=[(0,.ret,⟨[6],[],[],[]⟩),
  (0,.exit 0,⟨[],[],[],[]⟩)]
 ro:=[false]
theorem j07i:Con.OK Tryz.prog j02M:=
 cOf tabOk mixedOk j07P j02M Tryz.func77 (And.intro j05f (And.intro j0bA (And.intro j0bB trivial))) (And.intro (fun h=>by kernel_rfl) trivial)
def j05F:Con:=⟨82,[.v ty72],[ty72],⟨[.v .str],[]⟩,[.str],fun h=>Pw.j07H h⟩
def j0cr:FnD where
 N:=5
 np:=1
 cs:=[]
 ds:=[]
 ro:=[false]
theorem j0bC:Con.OK Tryz.prog j05F:=
 cOf tabOk mixedOk j0cr j05F Tryz.func82 trivial trivial
def j03h:Con:=⟨134,[.v ty67],[ty67],⟨[.v .str],[]⟩,[.str],fun h=>Pw.j048 h⟩
def j08I:FnD where
 N:=5
 np:=1
 cs:=[]
 ds:=[]
 ro:=[false]
theorem j086:Con.OK Tryz.prog j03h:=
 cOf tabOk mixedOk j08I j03h Tryz.func134 trivial trivial
def j03Z:Con:=⟨177,[.v iT,.ip [ty61,ty51,ty26,ty73]],[iT,ty61,ty51,ty26,ty73],⟨[.v .bool],[]⟩,[.bool],fun h=>Pw.j056 h.1 h.2.1 h.2.2.1 h.2.2.2.1 h.2.2.2.2⟩
def j09Q:FnD where
 N:=10
 np:=2
 cs:=[j02L]
 ds:=[]
 modes:=[(127,[false,false])]
 ro:=[false]
theorem j09w:Con.OK Tryz.prog j03Z:=
 cOf tabOk mixedOk j09Q j03Z Tryz.func177 (And.intro j04L trivial) trivial
def j02A:Con:=⟨175,[.v (.list iT),.clo 177 [.p [ty61,ty51,ty26,ty73]]],[(.list iT),ty61,ty51,ty26,ty73],⟨[.v iT],[]⟩,[iT],fun h=>Pw.j01a h.1 h.2.1 h.2.2.1 h.2.2.2.1 h.2.2.2.2⟩
def j07j:FnD where
 N:=19
 np:=2
 cs:=[j03Z]
 ds:=[⟨0,[.s (.one (.d (.list iT))),.s (.one (.clo 177 [.p [ty61,ty51,ty26,ty73]])),sI,sI],[(.list iT),ty61,ty51,ty26,ty73,iT,iT],[⟨.ret,[sI],[iT]⟩,⟨.exit 0,[],[]⟩],fun h=>Pw.j00J h.1 h.2.1 h.2.2.1 h.2.2.2.1 h.2.2.2.2.1 h.2.2.2.2.2.1 h.2.2.2.2.2.2⟩]
 modes:=[(177,[false])]
 keep:=[(0,⟨[0,1,7,8],[],[],[]⟩)]
 keepX:=[(0,.ret,⟨[4],[],[],[]⟩),
  (0,.exit 0,⟨[],[],[],[]⟩)]
 ro:=[false]
theorem j06Y:Con.OK Tryz.prog j02A:=
 cOf tabOk mixedOk j07j j02A Tryz.func175 (And.intro j09w trivial) (And.intro (fun h=>by kernel_rfl) trivial)
def j02l:Con:=⟨130,[.v (.list iT),.clo 177 [.p [ty61,ty51,ty26,ty73]]],[(.list iT),ty61,ty51,ty26,ty73],⟨[.v .bool],[]⟩,[.bool],fun h=>Pw.j00O h.1 h.2.1 h.2.2.1 h.2.2.2.1 h.2.2.2.2⟩
def j06o:FnD where
 N:=9
 np:=2
 cs:=[j02A]
 ds:=[]
 modes:=[(175,[false,false])]
 ro:=[false]
theorem j06f:Con.OK Tryz.prog j02l:=
 cOf tabOk mixedOk j06o j02l Tryz.func130 (And.intro j06Y trivial) trivial
def j04M:Con:=⟨136,[.v ty79,.v ty67],[ty79,ty67],⟨[.v iT],[]⟩,[iT],fun h=>Pw.j020 h.1 h.2⟩
def j0b0:FnD where
 N:=91
 np:=2
 cs:=[j02L,j07g,j067,j05h,j02l]
 ds:=[]
 modes:=[(127,[false,false]),(128,[false]),(130,[false,false]),(132,[false]),(174,[false,false,false])]
 ro:=[false]
theorem j0aM:Con.OK Tryz.prog j04M:=
 cOf tabOk mixedOk j0b0 j04M Tryz.func136 (And.intro j04L (And.intro j0cQ (And.intro j0aj (And.intro j09u (And.intro j06f trivial))))) trivial
def j03i:Con:=⟨135,[.v ty67,.ip [ty61,ty51,ty26,ty73]],[ty67,ty61,ty51,ty26,ty73],⟨[.v iT],[]⟩,[iT],fun h=>Pw.j01I h.1 h.2.1 h.2.2.1 h.2.2.2.1 h.2.2.2.2⟩
def j08J:FnD where
 N:=7
 np:=2
 cs:=[j04M]
 ds:=[]
 modes:=[(136,[false,false])]
 ro:=[false]
theorem j087:Con.OK Tryz.prog j03i:=
 cOf tabOk mixedOk j08J j03i Tryz.func135 (And.intro j0aM trivial) trivial
def j03l:Con:=⟨133,[.v ty68,.clo 134 [],.clo 135 [.p [ty61,ty51,ty26,ty73]]],[ty68,ty61,ty51,ty26,ty73],⟨[.v iT],[]⟩,[iT],fun h=>Pw.j01n h.1 h.2.1 h.2.2.1 h.2.2.2.1 h.2.2.2.2⟩
def j09b:FnD where
 N:=34
 np:=3
 cs:=[j03e,j03h,j03i]
 ds:=[⟨0,[.s (.one (.clo 134 [])),.s (.one (.clo 135 [.p [ty61,ty51,ty26,ty73]])),.s (.one (.ol 1000000)),.s (.one (.d ty68)),sI,sI,.b (.lst 4294967424 (.pair .str .bool) false)],[ty61,ty51,ty26,ty73,ty68,iT,iT,(.list (.pair .str .bool))],[⟨.ret,[sI],[iT]⟩,⟨.exit 0,[],[]⟩],fun h=>Pw.j00r h.1 h.2.1 h.2.2.1 h.2.2.2.1 h.2.2.2.2.1 h.2.2.2.2.2.1 h.2.2.2.2.2.2.1 h.2.2.2.2.2.2.2⟩]
 modes:=[(75,[false,true]),(134,[false]),(135,[false])]
 keep:=[(0,⟨[1,2,7,13,14,15],[],[⟨1000000,4294967424,(.pair .str .bool),[.slot 7],false⟩],[]⟩)]
 keepX:=[(0,.ret,⟨[6],[],[],[]⟩),
  (0,.exit 0,⟨[],[],[],[]⟩)]
 ro:=[false]
theorem j08K:Con.OK Tryz.prog j03l:=
 cOf tabOk mixedOk j09b j03l Tryz.func133 (And.intro j05f (And.intro j086 (And.intro j087 trivial))) (And.intro (fun h=>by kernel_rfl) trivial)
def j05a:Con:=⟨137,[.v ty79,.v ty37],[ty79,ty37],⟨[.v iT],[]⟩,[iT],fun h=>Pw.j02n h.1 h.2⟩
def j0bD:FnD where
 N:=83
 np:=2
 cs:=[j02L,j067,j05h]
 ds:=[]
 modes:=[(127,[false,false]),(132,[false]),(174,[false,false,false])]
 ro:=[false]
theorem j0b1:Con.OK Tryz.prog j05a:=
 cOf tabOk mixedOk j0bD j05a Tryz.func137 (And.intro j04L (And.intro j0aj (And.intro j09u trivial))) trivial
def j040:Con:=⟨84,[.v ty79,.v ty72],[ty79,ty72],⟨[.v iT],[]⟩,[iT],fun h=>Pw.j01i h.1 h.2⟩
def j09R:FnD where
 N:=40
 np:=2
 cs:=[j03l,j05a]
 ds:=[⟨0,[.s (.one (.bp 128 0)),.s (.one (.d ty39)),sI,sI,.b (.cell [.d ty61,.d ty51,.d ty26,.d ty73] true)],[ty39,iT,iT,ty61,ty51,ty26,ty73],[⟨.ret,[sI],[iT]⟩,⟨.exit 0,[],[]⟩],fun h=>Pw.j00A h.1 h.2.1 h.2.2.1 h.2.2.2.1 h.2.2.2.2.1 h.2.2.2.2.2.1 h.2.2.2.2.2.2⟩]
 modes:=[(133,[false,false,false]),(137,[false,false])]
 keep:=[(0,⟨[2,27,28,29],[128],[],[]⟩)]
 keepX:=[(0,.ret,⟨[4],[],[],[]⟩),
  (0,.exit 0,⟨[],[],[],[]⟩)]
 ro:=[false]
theorem j09x:Con.OK Tryz.prog j040:=
 cOf tabOk mixedOk j09R j040 Tryz.func84 (And.intro j08K (And.intro j0b1 trivial)) (And.intro (fun h=>by kernel_rfl) trivial)
def j05G:Con:=⟨83,[.v ty72,.ip [ty61,ty51,ty26,ty73]],[ty72,ty61,ty51,ty26,ty73],⟨[.v iT],[]⟩,[iT],fun h=>Pw.j03R h.1 h.2.1 h.2.2.1 h.2.2.2.1 h.2.2.2.2⟩
def j0cs:FnD where
 N:=7
 np:=2
 cs:=[j040]
 ds:=[]
 modes:=[(84,[false,false])]
 ro:=[false]
theorem j0bE:Con.OK Tryz.prog j05G:=
 cOf tabOk mixedOk j0cs j05G Tryz.func83 (And.intro j09x trivial) trivial
def j02N:Con:=⟨81,[.v ty73,.clo 82 [],.clo 83 [.p [ty61,ty51,ty26,ty73]]],[ty73,ty61,ty51,ty26,ty73],⟨[.v iT],[]⟩,[iT],fun h=>Pw.j01g h.1 h.2.1 h.2.2.1 h.2.2.2.1 h.2.2.2.2⟩
def j07Q:FnD where
 N:=34
 np:=3
 cs:=[j03e,j05F,j05G]
 ds:=[⟨0,[.s (.one (.clo 82 [])),.s (.one (.clo 83 [.p [ty61,ty51,ty26,ty73]])),.s (.one (.ol 1000000)),.s (.one (.d ty73)),sI,sI,.b (.lst 4294967424 (.pair .str .bool) false)],[ty61,ty51,ty26,ty73,ty73,iT,iT,(.list (.pair .str .bool))],[⟨.ret,[sI],[iT]⟩,⟨.exit 0,[],[]⟩],fun h=>Pw.j00i h.1 h.2.1 h.2.2.1 h.2.2.2.1 h.2.2.2.2.1 h.2.2.2.2.2.1 h.2.2.2.2.2.2.1 h.2.2.2.2.2.2.2⟩]
 modes:=[(75,[false,true]),(82,[false]),(83,[false])]
 keep:=[(0,⟨[1,2,7,13,14,15],[],[⟨1000000,4294967424,(.pair .str .bool),[.slot 7],false⟩],[]⟩)]
 keepX:=[(0,.ret,⟨[6],[],[],[]⟩),
  (0,.exit 0,⟨[],[],[],[]⟩)]
 ro:=[false]
theorem j07k:Con.OK Tryz.prog j02N:=
 cOf tabOk mixedOk j07Q j02N Tryz.func81 (And.intro j05f (And.intro j0bC (And.intro j0bE trivial))) (And.intro (fun h=>by kernel_rfl) trivial)
def j06Z:Con:=⟨40,[.v ty79],[ty79],⟨[.v iT],[]⟩,[iT],fun h=>Pw.j044 h⟩
def j0ec:FnD where
 N:=72
 np:=1
 cs:=[j03e,j03E,j04v,j02M,j02N]
 ds:=[⟨0,[.s (.one (.bp 64 0)),.s (.one (.ol 1000000)),.s (.one (.d ty51)),sI,sI,.b (.cell [.d ty61,.d ty51,.d ty26,.d ty73] false),.b (.lst 4294967424 (.pair .str .bool) false)],[ty51,iT,iT,ty61,ty51,ty26,ty73,(.list (.pair .str .bool))],[⟨.ret,[sI],[iT]⟩,⟨.exit 0,[.s (.one (.bp 64 0)),.b (.cell [.d ty61,.d ty51,.d ty26,.d ty73] false)],[ty61,ty51,ty26,ty73]⟩],fun h=>Pw.j01j h.1 h.2.1 h.2.2.1 h.2.2.2.1 h.2.2.2.2.1 h.2.2.2.2.2.1 h.2.2.2.2.2.2.1 h.2.2.2.2.2.2.2⟩]
 modes:=[(72,[false,false,false]),(75,[false,true]),(76,[false,false]),(77,[false,false,false]),(81,[false,false,false])]
 keep:=[(0,⟨[1,4,39,40,41],[64],[⟨1000000,4294967424,(.pair .str .bool),[.slot 4],false⟩],[]⟩)]
 keepX:=[(0,.ret,⟨[2],[],[],[]⟩),
  (0,.exit 0,⟨[1],[64],[],[]⟩)]
 ro:=[false]
theorem j0dF:Con.OK Tryz.prog j06Z:=
 cOf tabOk mixedOk j0ec j06Z Tryz.func40 (And.intro j05f (And.intro j09a (And.intro j0ak (And.intro j07i (And.intro j07k trivial))))) (And.intro (fun h=>by kernel_rfl) trivial)
def j0ct:Con:=⟨208,[.v ty60],[ty60],⟨[.v ty25,.v iT],[]⟩,[ty25,iT],fun h=>Pw.zone_Of h⟩
def j0kl:FnD where
 N:=16
 np:=1
 cs:=[j04d]
 ds:=[]
 modes:=[(170,[false])]
 ro:=[false,false]
theorem j0jr:Con.OK Tryz.prog j0ct:=
 cOf tabOk mixedOk j0kl j0ct Tryz.func208 (And.intro j08q trivial) trivial
def j08L:Con:=⟨163,[.v ty61],[ty61],⟨[.own 167 ty29],[]⟩,[ty29],fun h=>Pw.j07z h⟩
def j0gg:FnD where
 N:=25
 np:=1
 cs:=[j0ct]
 ds:=[⟨0,[.s (.one (.ol 1000000)),.s (.one (.d ty61)),sI,sI,.b (.lst 167 ty25 false)],[ty61,iT,iT,ty29],[⟨.exit 0,[.s (.one (.ol 1500100)),.b (.lst 167 ty25 false)],[ty29]⟩],fun h=>Pw.j01R h.1 h.2.1 h.2.2.1 h.2.2.2⟩]
 modes:=[(208,[false])]
 keep:=[(0,⟨[3,8,9,10],[],[⟨1000000,167,ty25,[.slot 3],false⟩],[]⟩)]
 keepX:=[(0,.exit 0,⟨[3],[],[⟨1500100,167,ty25,[.slot 3],false⟩],[]⟩)]
 ro:=[true]
theorem j0fd:Con.OK Tryz.prog j08L:=
 cOf tabOk mixedOk j0gg j08L Tryz.func163 (And.intro j0jr trivial) (And.intro (fun h=>by kernel_rfl) trivial)
def j0al:Con:=⟨113,[.v ty79],[ty79],⟨[.v ty81],[]⟩,[ty81],fun h=>Pw.j09k h⟩
def j0io:FnD where
 N:=8
 np:=1
 cs:=[j08L]
 ds:=[]
 modes:=[(163,[false])]
 ro:=[false]
 dw:=[(1,[[],[],[],[384],[],[128]])]
theorem j0h8:Con.OK Tryz.prog j0al:=
 cOf tabOk mixedOk j0io j0al Tryz.func113 (And.intro j0fd trivial) trivial
end Go.Proofs.Pk
