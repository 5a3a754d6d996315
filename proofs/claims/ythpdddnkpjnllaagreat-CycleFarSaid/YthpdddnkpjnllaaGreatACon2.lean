/- Contracts: each given function is its plain function, printed by a program. -/
import Derived.Test.YthpdddnkpjnllaaGreatACon1
noncomputable section
open Go Go.Lft
set_option linter.unusedVariables false
set_option maxRecDepth 100000
namespace Go.Proofs.Pk
def j02b:Con:=⟨130,[.v (.list iT),.clo 131 []],[(.list iT)],⟨[.v .bool],[]⟩,[.bool],fun h=>Pw.j00Y h⟩
def j07l:FnD where
 N:=9
 np:=2
 cs:=[j02J]
 ds:=[]
 modes:=[(175,[false,false])]
 ro:=[false]
theorem j06V:Con.OK Tryz.prog j02b:=
 cOf tabOk mixedOk j07l j02b Tryz.func130 (And.intro j086 trivial) trivial
def j03A:Con:=⟨80,[.v ty79,.v ty22],[ty79,ty22],⟨[.v iT],[]⟩,[iT],fun h=>Pw.j015 h.1 h.2⟩
def j0af:FnD where
 N:=46
 np:=2
 cs:=[j02m,j02b]
 ds:=[⟨1,[.s (.one (.bp 192 0)),sI,sI,.b (.cell [.d .str,.d iT,.d (.list iT)] false)],[iT,iT,.str,iT,(.list iT)],[⟨.ret,[sI],[iT]⟩,⟨.exit 1,[],[]⟩],fun h=>Pw.j01c h.1 h.2.1 h.2.2.1 h.2.2.2.1 h.2.2.2.2⟩]
 modes:=[(127,[false,false]),(130,[false,false])]
 keep:=[(1,⟨[3,25,26],[192],[],[]⟩)]
 keepX:=[(1,.ret,⟨[4],[],[],[]⟩),
  (1,.exit 1,⟨[],[],[],[]⟩)]
 ro:=[false]
theorem j09M:Con.OK Tryz.prog j03A:=
 cOf tabOk mixedOk j0af j03A Tryz.func80 (And.intro j04A (And.intro j06V trivial)) (And.intro (fun h=>by kernel_rfl) trivial)
def j05y:Con:=⟨79,[.v ty22,.ip [ty61,ty51,ty26,ty73]],[ty22,ty61,ty51,ty26,ty73],⟨[.v iT],[]⟩,[iT],fun h=>Pw.j03k h.1 h.2.1 h.2.2.1 h.2.2.2.1 h.2.2.2.2⟩
def j0dL:FnD where
 N:=7
 np:=2
 cs:=[j03A]
 ds:=[]
 modes:=[(80,[false,false])]
 ro:=[false]
theorem j0cW:Con.OK Tryz.prog j05y:=
 cOf tabOk mixedOk j0dL j05y Tryz.func79 (And.intro j09M trivial) trivial
def j02n:Con:=⟨77,[.v ty26,.clo 78 [],.clo 79 [.p [ty61,ty51,ty26,ty73]]],[ty26,ty61,ty51,ty26,ty73],⟨[.v iT],[]⟩,[iT],fun h=>Pw.j00P h.1 h.2.1 h.2.2.1 h.2.2.2.1 h.2.2.2.2⟩
def j07R:FnD where
 N:=34
 np:=3
 cs:=[j02H,j05x,j05y]
 ds:=[⟨0,[.s (.one (.clo 78 [])),.s (.one (.clo 79 [.p [ty61,ty51,ty26,ty73]])),.s (.one (.ol 1000000)),.s (.one (.d ty26)),sI,sI,.b (.lst 4294967424 (.pair .str .bool) false)],[ty61,ty51,ty26,ty73,ty26,iT,iT,(.list (.pair .str .bool))],[⟨.ret,[sI],[iT]⟩,⟨.exit 0,[],[]⟩],fun h=>Pw.j00g h.1 h.2.1 h.2.2.1 h.2.2.2.1 h.2.2.2.2.1 h.2.2.2.2.2.1 h.2.2.2.2.2.2.1 h.2.2.2.2.2.2.2⟩]
 modes:=[(75,[false,true]),(78,[false]),(79,[false])]
 keep:=[(0,⟨[1,2,7,13,14,15],[],[⟨1000000,4294967424,(.pair .str .bool),[.slot 7],false⟩],[]⟩)]
 keepX:=[(0,.ret,⟨[6],[],[],[]⟩),
  (0,.exit 0,⟨[],[],[],[]⟩)]
 ro:=[false]
theorem j07m:Con.OK Tryz.prog j02n:=
 cOf tabOk mixedOk j07R j02n Tryz.func77 (And.intro j059 (And.intro j0cV (And.intro j0cW trivial))) (And.intro (fun h=>by kernel_rfl) trivial)
def j05z:Con:=⟨82,[.v ty72],[ty72],⟨[.v .str],[]⟩,[.str],fun h=>Pw.j07I h⟩
def j0dM:FnD where
 N:=5
 np:=1
 cs:=[]
 ds:=[]
 ro:=[false]
theorem j0cX:Con.OK Tryz.prog j05z:=
 cOf tabOk mixedOk j0dM j05z Tryz.func82 trivial trivial
def j02K:Con:=⟨134,[.v ty67],[ty67],⟨[.v .str],[]⟩,[.str],fun h=>Pw.j03K h⟩
def j08U:FnD where
 N:=5
 np:=1
 cs:=[]
 ds:=[]
 ro:=[false]
theorem j087:Con.OK Tryz.prog j02K:=
 cOf tabOk mixedOk j08U j02K Tryz.func134 trivial trivial
def j03B:Con:=⟨177,[.v iT,.ip [ty61,ty51,ty26,ty73]],[iT,ty61,ty51,ty26,ty73],⟨[.v .bool],[]⟩,[.bool],fun h=>Pw.j04V h.1 h.2.1 h.2.2.1 h.2.2.2.1 h.2.2.2.2⟩
def j0ag:FnD where
 N:=10
 np:=2
 cs:=[j02m]
 ds:=[]
 modes:=[(127,[false,false])]
 ro:=[false]
theorem j09N:Con.OK Tryz.prog j03B:=
 cOf tabOk mixedOk j0ag j03B Tryz.func177 (And.intro j04A trivial) trivial
def j02c:Con:=⟨175,[.v (.list iT),.clo 177 [.p [ty61,ty51,ty26,ty73]]],[(.list iT),ty61,ty51,ty26,ty73],⟨[.v iT],[]⟩,[iT],fun h=>Pw.j00Z h.1 h.2.1 h.2.2.1 h.2.2.2.1 h.2.2.2.2⟩
def j07n:FnD where
 N:=19
 np:=2
 cs:=[j03B]
 ds:=[⟨0,[.s (.one (.d (.list iT))),.s (.one (.clo 177 [.p [ty61,ty51,ty26,ty73]])),sI,sI],[(.list iT),ty61,ty51,ty26,ty73,iT,iT],[⟨.ret,[sI],[iT]⟩,⟨.exit 0,[],[]⟩],fun h=>Pw.j00E h.1 h.2.1 h.2.2.1 h.2.2.2.1 h.2.2.2.2.1 h.2.2.2.2.2.1 h.2.2.2.2.2.2⟩]
 modes:=[(177,[false])]
 keep:=[(0,⟨[0,1,7,8],[],[],[]⟩)]
 keepX:=[(0,.ret,⟨[4],[],[],[]⟩),
  (0,.exit 0,⟨[],[],[],[]⟩)]
 ro:=[false]
theorem j06W:Con.OK Tryz.prog j02c:=
 cOf tabOk mixedOk j07n j02c Tryz.func175 (And.intro j09N trivial) (And.intro (fun h=>by kernel_rfl) trivial)
def j01U:Con:=⟨130,[.v (.list iT),.clo 177 [.p [ty61,ty51,ty26,ty73]]],[(.list iT),ty61,ty51,ty26,ty73],⟨[.v .bool],[]⟩,[.bool],fun h=>Pw.j00H h.1 h.2.1 h.2.2.1 h.2.2.2.1 h.2.2.2.2⟩
def j06j:FnD where
 N:=9
 np:=2
 cs:=[j02c]
 ds:=[]
 modes:=[(175,[false,false])]
 ro:=[false]
theorem j067:Con.OK Tryz.prog j01U:=
 cOf tabOk mixedOk j06j j01U Tryz.func130 (And.intro j06W trivial) trivial
def j04B:Con:=⟨136,[.v ty79,.v ty67],[ty79,ty67],⟨[.v iT],[]⟩,[iT],fun h=>Pw.j01C h.1 h.2⟩
def j0bT:FnD where
 N:=91
 np:=2
 cs:=[j02m,j07k,j05W,j05b,j01U]
 ds:=[]
 modes:=[(127,[false,false]),(128,[false]),(130,[false,false]),(132,[false]),(174,[false,false,false])]
 ro:=[false]
theorem j0bx:Con.OK Tryz.prog j04B:=
 cOf tabOk mixedOk j0bT j04B Tryz.func136 (And.intro j04A (And.intro j0ek (And.intro j0aL (And.intro j09L (And.intro j067 trivial))))) trivial
def j02L:Con:=⟨135,[.v ty67,.ip [ty61,ty51,ty26,ty73]],[ty67,ty61,ty51,ty26,ty73],⟨[.v iT],[]⟩,[iT],fun h=>Pw.j01m h.1 h.2.1 h.2.2.1 h.2.2.2.1 h.2.2.2.2⟩
def j08V:FnD where
 N:=7
 np:=2
 cs:=[j04B]
 ds:=[]
 modes:=[(136,[false,false])]
 ro:=[false]
theorem j088:Con.OK Tryz.prog j02L:=
 cOf tabOk mixedOk j08V j02L Tryz.func135 (And.intro j0bx trivial) trivial
def j02O:Con:=⟨133,[.v ty68,.clo 134 [],.clo 135 [.p [ty61,ty51,ty26,ty73]]],[ty68,ty61,ty51,ty26,ty73],⟨[.v iT],[]⟩,[iT],fun h=>Pw.j01a h.1 h.2.1 h.2.2.1 h.2.2.2.1 h.2.2.2.2⟩
def j09o:FnD where
 N:=34
 np:=3
 cs:=[j02H,j02K,j02L]
 ds:=[⟨0,[.s (.one (.clo 134 [])),.s (.one (.clo 135 [.p [ty61,ty51,ty26,ty73]])),.s (.one (.ol 1000000)),.s (.one (.d ty68)),sI,sI,.b (.lst 4294967424 (.pair .str .bool) false)],[ty61,ty51,ty26,ty73,ty68,iT,iT,(.list (.pair .str .bool))],[⟨.ret,[sI],[iT]⟩,⟨.exit 0,[],[]⟩],fun h=>Pw.j00p h.1 h.2.1 h.2.2.1 h.2.2.2.1 h.2.2.2.2.1 h.2.2.2.2.2.1 h.2.2.2.2.2.2.1 h.2.2.2.2.2.2.2⟩]
 modes:=[(75,[false,true]),(134,[false]),(135,[false])]
 keep:=[(0,⟨[1,2,7,13,14,15],[],[⟨1000000,4294967424,(.pair .str .bool),[.slot 7],false⟩],[]⟩)]
 keepX:=[(0,.ret,⟨[6],[],[],[]⟩),
  (0,.exit 0,⟨[],[],[],[]⟩)]
 ro:=[false]
theorem j08W:Con.OK Tryz.prog j02O:=
 cOf tabOk mixedOk j09o j02O Tryz.func133 (And.intro j059 (And.intro j087 (And.intro j088 trivial))) (And.intro (fun h=>by kernel_rfl) trivial)
def j04Z:Con:=⟨137,[.v ty79,.v ty37],[ty79,ty37],⟨[.v iT],[]⟩,[iT],fun h=>Pw.j01X h.1 h.2⟩
def j0cY:FnD where
 N:=83
 np:=2
 cs:=[j02m,j05W,j05b]
 ds:=[]
 modes:=[(127,[false,false]),(132,[false]),(174,[false,false,false])]
 ro:=[false]
theorem j0bU:Con.OK Tryz.prog j04Z:=
 cOf tabOk mixedOk j0cY j04Z Tryz.func137 (And.intro j04A (And.intro j0aL (And.intro j09L trivial))) trivial
def j03C:Con:=⟨84,[.v ty79,.v ty72],[ty79,ty72],⟨[.v iT],[]⟩,[iT],fun h=>Pw.j016 h.1 h.2⟩
def j0ah:FnD where
 N:=40
 np:=2
 cs:=[j02O,j04Z]
 ds:=[⟨0,[.s (.one (.bp 128 0)),.s (.one (.d ty39)),sI,sI,.b (.cell [.d ty61,.d ty51,.d ty26,.d ty73] true)],[ty39,iT,iT,ty61,ty51,ty26,ty73],[⟨.ret,[sI],[iT]⟩,⟨.exit 0,[],[]⟩],fun h=>Pw.j00u h.1 h.2.1 h.2.2.1 h.2.2.2.1 h.2.2.2.2.1 h.2.2.2.2.2.1 h.2.2.2.2.2.2⟩]
 modes:=[(133,[false,false,false]),(137,[false,false])]
 keep:=[(0,⟨[2,27,28,29],[128],[],[]⟩)]
 keepX:=[(0,.ret,⟨[4],[],[],[]⟩),
  (0,.exit 0,⟨[],[],[],[]⟩)]
 ro:=[false]
theorem j09O:Con.OK Tryz.prog j03C:=
 cOf tabOk mixedOk j0ah j03C Tryz.func84 (And.intro j08W (And.intro j0bU trivial)) (And.intro (fun h=>by kernel_rfl) trivial)
def j05A:Con:=⟨83,[.v ty72,.ip [ty61,ty51,ty26,ty73]],[ty72,ty61,ty51,ty26,ty73],⟨[.v iT],[]⟩,[iT],fun h=>Pw.j03m h.1 h.2.1 h.2.2.1 h.2.2.2.1 h.2.2.2.2⟩
def j0dN:FnD where
 N:=7
 np:=2
 cs:=[j03C]
 ds:=[]
 modes:=[(84,[false,false])]
 ro:=[false]
theorem j0cZ:Con.OK Tryz.prog j05A:=
 cOf tabOk mixedOk j0dN j05A Tryz.func83 (And.intro j09O trivial) trivial
def j02o:Con:=⟨81,[.v ty73,.clo 82 [],.clo 83 [.p [ty61,ty51,ty26,ty73]]],[ty73,ty61,ty51,ty26,ty73],⟨[.v iT],[]⟩,[iT],fun h=>Pw.j014 h.1 h.2.1 h.2.2.1 h.2.2.2.1 h.2.2.2.2⟩
def j07S:FnD where
 N:=34
 np:=3
 cs:=[j02H,j05z,j05A]
 ds:=[⟨0,[.s (.one (.clo 82 [])),.s (.one (.clo 83 [.p [ty61,ty51,ty26,ty73]])),.s (.one (.ol 1000000)),.s (.one (.d ty73)),sI,sI,.b (.lst 4294967424 (.pair .str .bool) false)],[ty61,ty51,ty26,ty73,ty73,iT,iT,(.list (.pair .str .bool))],[⟨.ret,[sI],[iT]⟩,⟨.exit 0,[],[]⟩],fun h=>Pw.j00h h.1 h.2.1 h.2.2.1 h.2.2.2.1 h.2.2.2.2.1 h.2.2.2.2.2.1 h.2.2.2.2.2.2.1 h.2.2.2.2.2.2.2⟩]
 modes:=[(75,[false,true]),(82,[false]),(83,[false])]
 keep:=[(0,⟨[1,2,7,13,14,15],[],[⟨1000000,4294967424,(.pair .str .bool),[.slot 7],false⟩],[]⟩)]
 keepX:=[(0,.ret,⟨[6],[],[],[]⟩),
  (0,.exit 0,⟨[],[],[],[]⟩)]
 ro:=[false]
theorem j07o:Con.OK Tryz.prog j02o:=
 cOf tabOk mixedOk j07S j02o Tryz.func81 (And.intro j059 (And.intro j0cX (And.intro j0cZ trivial))) (And.intro (fun h=>by kernel_rfl) trivial)
def j05n:Con:=⟨40,[.v ty79],[ty79],⟨[.v iT],[]⟩,[iT],fun h=>Pw.j02x h⟩
def j0fI:FnD where
 N:=72
 np:=1
 cs:=[j02H,j039,j049,j02n,j02o]
 ds:=[⟨0,[.s (.one (.bp 64 0)),.s (.one (.ol 1000000)),.s (.one (.d ty51)),sI,sI,.b (.cell [.d ty61,.d ty51,.d ty26,.d ty73] false),.b (.lst 4294967424 (.pair .str .bool) false)],[ty51,iT,iT,ty61,ty51,ty26,ty73,(.list (.pair .str .bool))],[⟨.ret,[sI],[iT]⟩,⟨.exit 0,[.s (.one (.bp 64 0)),.b (.cell [.d ty61,.d ty51,.d ty26,.d ty73] false)],[ty61,ty51,ty26,ty73]⟩],fun h=>Pw.j017 h.1 h.2.1 h.2.2.1 h.2.2.2.1 h.2.2.2.2.1 h.2.2.2.2.2.1 h.2.2.2.2.2.2.1 h.2.2.2.2.2.2.2⟩]
 modes:=[(72,[false,false,false]),(75,[false,true]),(76,[false,false]),(77,[false,false,false]),(81,[false,false,false])]
 keep:=[(0,⟨[1,4,39,40,41],[64],[⟨1000000,4294967424,(.pair .str .bool),[.slot 4],false⟩],[]⟩)]
 keepX:=[(0,.ret,⟨[2],[],[],[]⟩),
  (0,.exit 0,⟨[1],[64],[],[]⟩)]
 ro:=[false]
theorem j0aN:Con.OK Tryz.prog j05n:=
 cOf tabOk mixedOk j0fI j05n Tryz.func40 (And.intro j059 (And.intro j09n (And.intro j0aM (And.intro j07m (And.intro j07o trivial))))) (And.intro (fun h=>by kernel_rfl) trivial)
def j05c:Con:=⟨41,[.v ty79,.v iT],[ty79,iT],⟨[.v .bool],[]⟩,[.bool],fun h=>Pw.j06f h.1 h.2⟩
def j0hN:FnD where
 N:=14
 np:=2
 cs:=[]
 ds:=[]
 ro:=[false]
theorem j09P:Con.OK Tryz.prog j05c:=
 cOf tabOk mixedOk j0hN j05c Tryz.func41 trivial trivial
def j0aO:Con:=⟨44,[.v iT,.v iT],[iT,iT],⟨[.v iT],[]⟩,[iT],fun h=>Pw.j09x h.1 h.2⟩
def j0kk:FnD where
 N:=12
 np:=2
 cs:=[]
 ds:=[⟨0,[sI,sI],[iT,iT],[⟨.exit 0,[sI],[iT]⟩],fun h=>Pw.j05k h.1 h.2⟩]
 keep:=[(0,⟨[0,1],[],[],[]⟩)]
 keepX:=[(0,.exit 0,⟨[0],[],[],[]⟩)]
 ro:=[false]
theorem j0iP:Con.OK Tryz.prog j0aO:=
 cOf tabOk mixedOk j0kk j0aO Tryz.func44 trivial (And.intro (fun h=>by kernel_rfl) trivial)
def j05X:Con:=⟨43,[.v iT,.v ty67],[iT,ty67],⟨[.v iT],[]⟩,[iT],fun h=>Pw.j02y h.1 h.2⟩
def j0eo:FnD where
 N:=28
 np:=2
 cs:=[j06u,j0aO]
 ds:=[]
 modes:=[(35,[false]),(44,[false,false])]
 ro:=[false]
theorem j0dO:Con.OK Tryz.prog j05X:=
 cOf tabOk mixedOk j0eo j05X Tryz.func43 (And.intro j0cQ (And.intro j0iP trivial)) trivial
end Go.Proofs.Pk
