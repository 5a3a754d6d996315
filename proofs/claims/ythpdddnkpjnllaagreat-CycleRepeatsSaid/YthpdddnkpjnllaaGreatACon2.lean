/- Contracts: each given function is its plain function, printed by a program. -/
import Derived.Test.YthpdddnkpjnllaaGreatACon1
noncomputable section
open Go Go.Lft
set_option linter.unusedVariables false
set_option maxRecDepth 100000
namespace Go.Proofs.Pk
def j025:Con:=⟨130,[.v (.list iT),.clo 131 []],[(.list iT)],⟨[.v .bool],[]⟩,[.bool],fun h=>Pw.j00X h⟩
def j07f:FnD where
 N:=9
 np:=2
 cs:=[j02z]
 ds:=[]
 modes:=[(175,[false,false])]
 ro:=[false]
theorem j06P:Con.OK Tryz.prog j025:=
 cOf tabOk mixedOk j07f j025 Tryz.func130 (And.intro j07Z trivial) trivial
def j03r:Con:=⟨80,[.v ty79,.v ty22],[ty79,ty22],⟨[.v iT],[]⟩,[iT],fun h=>Pw.j014 h.1 h.2⟩
def j0a4:FnD where
 N:=46
 np:=2
 cs:=[j02f,j025]
 ds:=[⟨1,[.s (.one (.bp 192 0)),sI,sI,.b (.cell [.d .str,.d iT,.d (.list iT)] false)],[iT,iT,.str,iT,(.list iT)],[⟨.ret,[sI],[iT]⟩,⟨.exit 1,[],[]⟩],fun h=>Pw.j01b h.1 h.2.1 h.2.2.1 h.2.2.2.1 h.2.2.2.2⟩]
 modes:=[(127,[false,false]),(130,[false,false])]
 keep:=[(1,⟨[3,25,26],[192],[],[]⟩)]
 keepX:=[(1,.ret,⟨[4],[],[],[]⟩),
  (1,.exit 1,⟨[],[],[],[]⟩)]
 ro:=[false]
theorem j09B:Con.OK Tryz.prog j03r:=
 cOf tabOk mixedOk j0a4 j03r Tryz.func80 (And.intro j04s (And.intro j06P trivial)) (And.intro (fun h=>by kernel_rfl) trivial)
def j05q:Con:=⟨79,[.v ty22,.ip [ty61,ty51,ty26,ty73]],[ty22,ty61,ty51,ty26,ty73],⟨[.v iT],[]⟩,[iT],fun h=>Pw.j03b h.1 h.2.1 h.2.2.1 h.2.2.2.1 h.2.2.2.2⟩
def j0dG:FnD where
 N:=7
 np:=2
 cs:=[j03r]
 ds:=[]
 modes:=[(80,[false,false])]
 ro:=[false]
theorem j0cT:Con.OK Tryz.prog j05q:=
 cOf tabOk mixedOk j0dG j05q Tryz.func79 (And.intro j09B trivial) trivial
def j02g:Con:=⟨77,[.v ty26,.clo 78 [],.clo 79 [.p [ty61,ty51,ty26,ty73]]],[ty26,ty61,ty51,ty26,ty73],⟨[.v iT],[]⟩,[iT],fun h=>Pw.j00M h.1 h.2.1 h.2.2.1 h.2.2.2.1 h.2.2.2.2⟩
def j07K:FnD where
 N:=34
 np:=3
 cs:=[j02x,j05p,j05q]
 ds:=[⟨0,[.s (.one (.clo 78 [])),.s (.one (.clo 79 [.p [ty61,ty51,ty26,ty73]])),.s (.one (.ol 1000000)),.s (.one (.d ty26)),sI,sI,.b (.lst 4294967424 (.pair .str .bool) false)],[ty61,ty51,ty26,ty73,ty26,iT,iT,(.list (.pair .str .bool))],[⟨.ret,[sI],[iT]⟩,⟨.exit 0,[],[]⟩],fun h=>Pw.j00g h.1 h.2.1 h.2.2.1 h.2.2.2.1 h.2.2.2.2.1 h.2.2.2.2.2.1 h.2.2.2.2.2.2.1 h.2.2.2.2.2.2.2⟩]
 modes:=[(75,[false,true]),(78,[false]),(79,[false])]
 keep:=[(0,⟨[1,2,7,13,14,15],[],[⟨1000000,4294967424,(.pair .str .bool),[.slot 7],false⟩],[]⟩)]
 keepX:=[(0,.ret,⟨[6],[],[],[]⟩),
  (0,.exit 0,⟨[],[],[],[]⟩)]
 ro:=[false]
theorem j07g:Con.OK Tryz.prog j02g:=
 cOf tabOk mixedOk j07K j02g Tryz.func77 (And.intro j052 (And.intro j0cS (And.intro j0cT trivial))) (And.intro (fun h=>by kernel_rfl) trivial)
def j05r:Con:=⟨82,[.v ty72],[ty72],⟨[.v .str],[]⟩,[.str],fun h=>Pw.j07B h⟩
def j0dH:FnD where
 N:=5
 np:=1
 cs:=[]
 ds:=[]
 ro:=[false]
theorem j0cU:Con.OK Tryz.prog j05r:=
 cOf tabOk mixedOk j0dH j05r Tryz.func82 trivial trivial
def j02A:Con:=⟨134,[.v ty67],[ty67],⟨[.v .str],[]⟩,[.str],fun h=>Pw.j03B h⟩
def j08K:FnD where
 N:=5
 np:=1
 cs:=[]
 ds:=[]
 ro:=[false]
theorem j080:Con.OK Tryz.prog j02A:=
 cOf tabOk mixedOk j08K j02A Tryz.func134 trivial trivial
def j03s:Con:=⟨177,[.v iT,.ip [ty61,ty51,ty26,ty73]],[iT,ty61,ty51,ty26,ty73],⟨[.v .bool],[]⟩,[.bool],fun h=>Pw.j04M h.1 h.2.1 h.2.2.1 h.2.2.2.1 h.2.2.2.2⟩
def j0a5:FnD where
 N:=10
 np:=2
 cs:=[j02f]
 ds:=[]
 modes:=[(127,[false,false])]
 ro:=[false]
theorem j09C:Con.OK Tryz.prog j03s:=
 cOf tabOk mixedOk j0a5 j03s Tryz.func177 (And.intro j04s trivial) trivial
def j026:Con:=⟨175,[.v (.list iT),.clo 177 [.p [ty61,ty51,ty26,ty73]]],[(.list iT),ty61,ty51,ty26,ty73],⟨[.v iT],[]⟩,[iT],fun h=>Pw.j00Y h.1 h.2.1 h.2.2.1 h.2.2.2.1 h.2.2.2.2⟩
def j07h:FnD where
 N:=19
 np:=2
 cs:=[j03s]
 ds:=[⟨0,[.s (.one (.d (.list iT))),.s (.one (.clo 177 [.p [ty61,ty51,ty26,ty73]])),sI,sI],[(.list iT),ty61,ty51,ty26,ty73,iT,iT],[⟨.ret,[sI],[iT]⟩,⟨.exit 0,[],[]⟩],fun h=>Pw.j00D h.1 h.2.1 h.2.2.1 h.2.2.2.1 h.2.2.2.2.1 h.2.2.2.2.2.1 h.2.2.2.2.2.2⟩]
 modes:=[(177,[false])]
 keep:=[(0,⟨[0,1,7,8],[],[],[]⟩)]
 keepX:=[(0,.ret,⟨[4],[],[],[]⟩),
  (0,.exit 0,⟨[],[],[],[]⟩)]
 ro:=[false]
theorem j06Q:Con.OK Tryz.prog j026:=
 cOf tabOk mixedOk j07h j026 Tryz.func175 (And.intro j09C trivial) (And.intro (fun h=>by kernel_rfl) trivial)
def j01P:Con:=⟨130,[.v (.list iT),.clo 177 [.p [ty61,ty51,ty26,ty73]]],[(.list iT),ty61,ty51,ty26,ty73],⟨[.v .bool],[]⟩,[.bool],fun h=>Pw.j00G h.1 h.2.1 h.2.2.1 h.2.2.2.1 h.2.2.2.2⟩
def j06f:FnD where
 N:=9
 np:=2
 cs:=[j026]
 ds:=[]
 modes:=[(175,[false,false])]
 ro:=[false]
theorem j063:Con.OK Tryz.prog j01P:=
 cOf tabOk mixedOk j06f j01P Tryz.func130 (And.intro j06Q trivial) trivial
def j04t:Con:=⟨136,[.v ty79,.v ty67],[ty79,ty67],⟨[.v iT],[]⟩,[iT],fun h=>Pw.j01z h.1 h.2⟩
def j0bM:FnD where
 N:=91
 np:=2
 cs:=[j02f,j07e,j05R,j054,j01P]
 ds:=[]
 modes:=[(127,[false,false]),(128,[false]),(130,[false,false]),(132,[false]),(174,[false,false,false])]
 ro:=[false]
theorem j0bo:Con.OK Tryz.prog j04t:=
 cOf tabOk mixedOk j0bM j04t Tryz.func136 (And.intro j04s (And.intro j0ef (And.intro j0aC (And.intro j09A (And.intro j063 trivial))))) trivial
def j02B:Con:=⟨135,[.v ty67,.ip [ty61,ty51,ty26,ty73]],[ty67,ty61,ty51,ty26,ty73],⟨[.v iT],[]⟩,[iT],fun h=>Pw.j01k h.1 h.2.1 h.2.2.1 h.2.2.2.1 h.2.2.2.2⟩
def j08L:FnD where
 N:=7
 np:=2
 cs:=[j04t]
 ds:=[]
 modes:=[(136,[false,false])]
 ro:=[false]
theorem j081:Con.OK Tryz.prog j02B:=
 cOf tabOk mixedOk j08L j02B Tryz.func135 (And.intro j0bo trivial) trivial
def j02F:Con:=⟨133,[.v ty68,.clo 134 [],.clo 135 [.p [ty61,ty51,ty26,ty73]]],[ty68,ty61,ty51,ty26,ty73],⟨[.v iT],[]⟩,[iT],fun h=>Pw.j019 h.1 h.2.1 h.2.2.1 h.2.2.2.1 h.2.2.2.2⟩
def j09f:FnD where
 N:=34
 np:=3
 cs:=[j02x,j02A,j02B]
 ds:=[⟨0,[.s (.one (.clo 134 [])),.s (.one (.clo 135 [.p [ty61,ty51,ty26,ty73]])),.s (.one (.ol 1000000)),.s (.one (.d ty68)),sI,sI,.b (.lst 4294967424 (.pair .str .bool) false)],[ty61,ty51,ty26,ty73,ty68,iT,iT,(.list (.pair .str .bool))],[⟨.ret,[sI],[iT]⟩,⟨.exit 0,[],[]⟩],fun h=>Pw.j00p h.1 h.2.1 h.2.2.1 h.2.2.2.1 h.2.2.2.2.1 h.2.2.2.2.2.1 h.2.2.2.2.2.2.1 h.2.2.2.2.2.2.2⟩]
 modes:=[(75,[false,true]),(134,[false]),(135,[false])]
 keep:=[(0,⟨[1,2,7,13,14,15],[],[⟨1000000,4294967424,(.pair .str .bool),[.slot 7],false⟩],[]⟩)]
 keepX:=[(0,.ret,⟨[6],[],[],[]⟩),
  (0,.exit 0,⟨[],[],[],[]⟩)]
 ro:=[false]
theorem j08M:Con.OK Tryz.prog j02F:=
 cOf tabOk mixedOk j09f j02F Tryz.func133 (And.intro j052 (And.intro j080 (And.intro j081 trivial))) (And.intro (fun h=>by kernel_rfl) trivial)
def j04Q:Con:=⟨137,[.v ty79,.v ty37],[ty79,ty37],⟨[.v iT],[]⟩,[iT],fun h=>Pw.j01S h.1 h.2⟩
def j0cV:FnD where
 N:=83
 np:=2
 cs:=[j02f,j05R,j054]
 ds:=[]
 modes:=[(127,[false,false]),(132,[false]),(174,[false,false,false])]
 ro:=[false]
theorem j0bN:Con.OK Tryz.prog j04Q:=
 cOf tabOk mixedOk j0cV j04Q Tryz.func137 (And.intro j04s (And.intro j0aC (And.intro j09A trivial))) trivial
def j03t:Con:=⟨84,[.v ty79,.v ty72],[ty79,ty72],⟨[.v iT],[]⟩,[iT],fun h=>Pw.j015 h.1 h.2⟩
def j0a6:FnD where
 N:=40
 np:=2
 cs:=[j02F,j04Q]
 ds:=[⟨0,[.s (.one (.bp 128 0)),.s (.one (.d ty39)),sI,sI,.b (.cell [.d ty61,.d ty51,.d ty26,.d ty73] true)],[ty39,iT,iT,ty61,ty51,ty26,ty73],[⟨.ret,[sI],[iT]⟩,⟨.exit 0,[],[]⟩],fun h=>Pw.j00u h.1 h.2.1 h.2.2.1 h.2.2.2.1 h.2.2.2.2.1 h.2.2.2.2.2.1 h.2.2.2.2.2.2⟩]
 modes:=[(133,[false,false,false]),(137,[false,false])]
 keep:=[(0,⟨[2,27,28,29],[128],[],[]⟩)]
 keepX:=[(0,.ret,⟨[4],[],[],[]⟩),
  (0,.exit 0,⟨[],[],[],[]⟩)]
 ro:=[false]
theorem j09D:Con.OK Tryz.prog j03t:=
 cOf tabOk mixedOk j0a6 j03t Tryz.func84 (And.intro j08M (And.intro j0bN trivial)) (And.intro (fun h=>by kernel_rfl) trivial)
def j05s:Con:=⟨83,[.v ty72,.ip [ty61,ty51,ty26,ty73]],[ty72,ty61,ty51,ty26,ty73],⟨[.v iT],[]⟩,[iT],fun h=>Pw.j03d h.1 h.2.1 h.2.2.1 h.2.2.2.1 h.2.2.2.2⟩
def j0dI:FnD where
 N:=7
 np:=2
 cs:=[j03t]
 ds:=[]
 modes:=[(84,[false,false])]
 ro:=[false]
theorem j0cW:Con.OK Tryz.prog j05s:=
 cOf tabOk mixedOk j0dI j05s Tryz.func83 (And.intro j09D trivial) trivial
def j02h:Con:=⟨81,[.v ty73,.clo 82 [],.clo 83 [.p [ty61,ty51,ty26,ty73]]],[ty73,ty61,ty51,ty26,ty73],⟨[.v iT],[]⟩,[iT],fun h=>Pw.j013 h.1 h.2.1 h.2.2.1 h.2.2.2.1 h.2.2.2.2⟩
def j07L:FnD where
 N:=34
 np:=3
 cs:=[j02x,j05r,j05s]
 ds:=[⟨0,[.s (.one (.clo 82 [])),.s (.one (.clo 83 [.p [ty61,ty51,ty26,ty73]])),.s (.one (.ol 1000000)),.s (.one (.d ty73)),sI,sI,.b (.lst 4294967424 (.pair .str .bool) false)],[ty61,ty51,ty26,ty73,ty73,iT,iT,(.list (.pair .str .bool))],[⟨.ret,[sI],[iT]⟩,⟨.exit 0,[],[]⟩],fun h=>Pw.j00h h.1 h.2.1 h.2.2.1 h.2.2.2.1 h.2.2.2.2.1 h.2.2.2.2.2.1 h.2.2.2.2.2.2.1 h.2.2.2.2.2.2.2⟩]
 modes:=[(75,[false,true]),(82,[false]),(83,[false])]
 keep:=[(0,⟨[1,2,7,13,14,15],[],[⟨1000000,4294967424,(.pair .str .bool),[.slot 7],false⟩],[]⟩)]
 keepX:=[(0,.ret,⟨[6],[],[],[]⟩),
  (0,.exit 0,⟨[],[],[],[]⟩)]
 ro:=[false]
theorem j07i:Con.OK Tryz.prog j02h:=
 cOf tabOk mixedOk j07L j02h Tryz.func81 (And.intro j052 (And.intro j0cU (And.intro j0cW trivial))) (And.intro (fun h=>by kernel_rfl) trivial)
def j05g:Con:=⟨40,[.v ty79],[ty79],⟨[.v iT],[]⟩,[iT],fun h=>Pw.j02L h⟩
def j0fE:FnD where
 N:=72
 np:=1
 cs:=[j02x,j030,j03Y,j02g,j02h]
 ds:=[⟨0,[.s (.one (.bp 64 0)),.s (.one (.ol 1000000)),.s (.one (.d ty51)),sI,sI,.b (.cell [.d ty61,.d ty51,.d ty26,.d ty73] false),.b (.lst 4294967424 (.pair .str .bool) false)],[ty51,iT,iT,ty61,ty51,ty26,ty73,(.list (.pair .str .bool))],[⟨.ret,[sI],[iT]⟩,⟨.exit 0,[.s (.one (.bp 64 0)),.b (.cell [.d ty61,.d ty51,.d ty26,.d ty73] false)],[ty61,ty51,ty26,ty73]⟩],fun h=>Pw.j016 h.1 h.2.1 h.2.2.1 h.2.2.2.1 h.2.2.2.2.1 h.2.2.2.2.2.1 h.2.2.2.2.2.2.1 h.2.2.2.2.2.2.2⟩]
 modes:=[(72,[false,false,false]),(75,[false,true]),(76,[false,false]),(77,[false,false,false]),(81,[false,false,false])]
 keep:=[(0,⟨[1,4,39,40,41],[64],[⟨1000000,4294967424,(.pair .str .bool),[.slot 4],false⟩],[]⟩)]
 keepX:=[(0,.ret,⟨[2],[],[],[]⟩),
  (0,.exit 0,⟨[1],[64],[],[]⟩)]
 ro:=[false]
theorem j0aE:Con.OK Tryz.prog j05g:=
 cOf tabOk mixedOk j0fE j05g Tryz.func40 (And.intro j052 (And.intro j09e (And.intro j0aD (And.intro j07g (And.intro j07i trivial))))) (And.intro (fun h=>by kernel_rfl) trivial)
def j055:Con:=⟨41,[.v ty79,.v iT],[ty79,iT],⟨[.v .bool],[]⟩,[.bool],fun h=>Pw.j093 h.1 h.2⟩
def j0hH:FnD where
 N:=14
 np:=2
 cs:=[]
 ds:=[]
 ro:=[false]
theorem j09E:Con.OK Tryz.prog j055:=
 cOf tabOk mixedOk j0hH j055 Tryz.func41 trivial trivial
def j0aF:Con:=⟨44,[.v iT,.v iT],[iT,iT],⟨[.v iT],[]⟩,[iT],fun h=>Pw.j09n h.1 h.2⟩
def j0kf:FnD where
 N:=12
 np:=2
 cs:=[]
 ds:=[⟨0,[sI,sI],[iT,iT],[⟨.exit 0,[sI],[iT]⟩],fun h=>Pw.j05d h.1 h.2⟩]
 keep:=[(0,⟨[0,1],[],[],[]⟩)]
 keepX:=[(0,.exit 0,⟨[0],[],[],[]⟩)]
 ro:=[false]
theorem j0iJ:Con.OK Tryz.prog j0aF:=
 cOf tabOk mixedOk j0kf j0aF Tryz.func44 trivial (And.intro (fun h=>by kernel_rfl) trivial)
def j05S:Con:=⟨43,[.v iT,.v ty67],[iT,ty67],⟨[.v iT],[]⟩,[iT],fun h=>Pw.j02q h.1 h.2⟩
def j0ej:FnD where
 N:=28
 np:=2
 cs:=[j06q,j0aF]
 ds:=[]
 modes:=[(35,[false]),(44,[false,false])]
 ro:=[false]
theorem j0dJ:Con.OK Tryz.prog j05S:=
 cOf tabOk mixedOk j0ej j05S Tryz.func43 (And.intro j0cN (And.intro j0iJ trivial)) trivial
end Go.Proofs.Pk
