/- Contracts: each given function is its plain function, printed by a program. -/
import Derived.Test.YthpdddnkpjnllaaGreatBCon1
noncomputable section
open Go Go.Lft
set_option linter.unusedVariables false
set_option maxRecDepth 100000
namespace Go.Proofs.Pk
def j02m:Con:=⟨130,[.v (.list iT),.clo 131 []],[(.list iT)],⟨[.v .bool],[]⟩,[.bool],fun h=>Pw.j00Y h⟩
def j07P:FnD where
 N:=9
 np:=2
 cs:=[j02V]
 ds:=[]
 modes:=[(175,[false,false])]
 ro:=[false]
theorem j07o:Con.OK Tryz.prog j02m:=
 cOf tabOk mixedOk j07P j02m Tryz.func130 (And.intro j08V trivial) trivial
def j03M:Con:=⟨80,[.v ty79,.v ty22],[ty79,ty22],⟨[.v iT],[]⟩,[iT],fun h=>Pw.j018 h.1 h.2⟩
def j0b9:FnD where
 N:=46
 np:=2
 cs:=[j02u,j02m]
 ds:=[⟨1,[.s (.one (.bp 192 0)),sI,sI,.b (.cell [.d .str,.d iT,.d (.list iT)] false)],[iT,iT,.str,iT,(.list iT)],[⟨.ret,[sI],[iT]⟩,⟨.exit 1,[],[]⟩],fun h=>Pw.j01f h.1 h.2.1 h.2.2.1 h.2.2.2.1 h.2.2.2.2⟩]
 modes:=[(127,[false,false]),(130,[false,false])]
 keep:=[(1,⟨[3,25,26],[192],[],[]⟩)]
 keepX:=[(1,.ret,⟨[4],[],[],[]⟩),
  (1,.exit 1,⟨[],[],[],[]⟩)]
 ro:=[false]
theorem j0aG:Con.OK Tryz.prog j03M:=
 cOf tabOk mixedOk j0b9 j03M Tryz.func80 (And.intro j04O (And.intro j07o trivial)) (And.intro (fun h=>by kernel_rfl) trivial)
def j05R:Con:=⟨79,[.v ty22,.ip [ty61,ty51,ty26,ty73]],[ty22,ty61,ty51,ty26,ty73],⟨[.v iT],[]⟩,[iT],fun h=>Pw.j03w h.1 h.2.1 h.2.2.1 h.2.2.2.1 h.2.2.2.2⟩
def j0eD:FnD where
 N:=7
 np:=2
 cs:=[j03M]
 ds:=[]
 modes:=[(80,[false,false])]
 ro:=[false]
theorem j0dO:Con.OK Tryz.prog j05R:=
 cOf tabOk mixedOk j0eD j05R Tryz.func79 (And.intro j0aG trivial) trivial
def j02v:Con:=⟨77,[.v ty26,.clo 78 [],.clo 79 [.p [ty61,ty51,ty26,ty73]]],[ty26,ty61,ty51,ty26,ty73],⟨[.v iT],[]⟩,[iT],fun h=>Pw.j00N h.1 h.2.1 h.2.2.1 h.2.2.2.1 h.2.2.2.2⟩
def j08B:FnD where
 N:=34
 np:=3
 cs:=[j02T,j05Q,j05R]
 ds:=[⟨0,[.s (.one (.clo 78 [])),.s (.one (.clo 79 [.p [ty61,ty51,ty26,ty73]])),.s (.one (.ol 1000000)),.s (.one (.d ty26)),sI,sI,.b (.lst 4294967424 (.pair .str .bool) false)],[ty61,ty51,ty26,ty73,ty26,iT,iT,(.list (.pair .str .bool))],[⟨.ret,[sI],[iT]⟩,⟨.exit 0,[],[]⟩],fun h=>Pw.j00g h.1 h.2.1 h.2.2.1 h.2.2.2.1 h.2.2.2.2.1 h.2.2.2.2.2.1 h.2.2.2.2.2.2.1 h.2.2.2.2.2.2.2⟩]
 modes:=[(75,[false,true]),(78,[false]),(79,[false])]
 keep:=[(0,⟨[1,2,7,13,14,15],[],[⟨1000000,4294967424,(.pair .str .bool),[.slot 7],false⟩],[]⟩)]
 keepX:=[(0,.ret,⟨[6],[],[],[]⟩),
  (0,.exit 0,⟨[],[],[],[]⟩)]
 ro:=[false]
theorem j07Q:Con.OK Tryz.prog j02v:=
 cOf tabOk mixedOk j08B j02v Tryz.func77 (And.intro j05q (And.intro j0dN (And.intro j0dO trivial))) (And.intro (fun h=>by kernel_rfl) trivial)
def j05S:Con:=⟨82,[.v ty72],[ty72],⟨[.v .str],[]⟩,[.str],fun h=>Pw.j08g h⟩
def j0eE:FnD where
 N:=5
 np:=1
 cs:=[]
 ds:=[]
 ro:=[false]
theorem j0dP:Con.OK Tryz.prog j05S:=
 cOf tabOk mixedOk j0eE j05S Tryz.func82 trivial trivial
def j02W:Con:=⟨134,[.v ty67],[ty67],⟨[.v .str],[]⟩,[.str],fun h=>Pw.j03W h⟩
def j09P:FnD where
 N:=5
 np:=1
 cs:=[]
 ds:=[]
 ro:=[false]
theorem j08W:Con.OK Tryz.prog j02W:=
 cOf tabOk mixedOk j09P j02W Tryz.func134 trivial trivial
def j03N:Con:=⟨177,[.v iT,.ip [ty61,ty51,ty26,ty73]],[iT,ty61,ty51,ty26,ty73],⟨[.v .bool],[]⟩,[.bool],fun h=>Pw.j05b h.1 h.2.1 h.2.2.1 h.2.2.2.1 h.2.2.2.2⟩
def j0ba:FnD where
 N:=10
 np:=2
 cs:=[j02u]
 ds:=[]
 modes:=[(127,[false,false])]
 ro:=[false]
theorem j0aH:Con.OK Tryz.prog j03N:=
 cOf tabOk mixedOk j0ba j03N Tryz.func177 (And.intro j04O trivial) trivial
def j02n:Con:=⟨175,[.v (.list iT),.clo 177 [.p [ty61,ty51,ty26,ty73]]],[(.list iT),ty61,ty51,ty26,ty73],⟨[.v iT],[]⟩,[iT],fun h=>Pw.j00Z h.1 h.2.1 h.2.2.1 h.2.2.2.1 h.2.2.2.2⟩
def j07R:FnD where
 N:=19
 np:=2
 cs:=[j03N]
 ds:=[⟨0,[.s (.one (.d (.list iT))),.s (.one (.clo 177 [.p [ty61,ty51,ty26,ty73]])),sI,sI],[(.list iT),ty61,ty51,ty26,ty73,iT,iT],[⟨.ret,[sI],[iT]⟩,⟨.exit 0,[],[]⟩],fun h=>Pw.j00A h.1 h.2.1 h.2.2.1 h.2.2.2.1 h.2.2.2.2.1 h.2.2.2.2.2.1 h.2.2.2.2.2.2⟩]
 modes:=[(177,[false])]
 keep:=[(0,⟨[0,1,7,8],[],[],[]⟩)]
 keepX:=[(0,.ret,⟨[4],[],[],[]⟩),
  (0,.exit 0,⟨[],[],[],[]⟩)]
 ro:=[false]
theorem j07p:Con.OK Tryz.prog j02n:=
 cOf tabOk mixedOk j07R j02n Tryz.func175 (And.intro j0aH trivial) (And.intro (fun h=>by kernel_rfl) trivial)
def j023:Con:=⟨130,[.v (.list iT),.clo 177 [.p [ty61,ty51,ty26,ty73]]],[(.list iT),ty61,ty51,ty26,ty73],⟨[.v .bool],[]⟩,[.bool],fun h=>Pw.j00E h.1 h.2.1 h.2.2.1 h.2.2.2.1 h.2.2.2.2⟩
def j06H:FnD where
 N:=9
 np:=2
 cs:=[j02n]
 ds:=[]
 modes:=[(175,[false,false])]
 ro:=[false]
theorem j06x:Con.OK Tryz.prog j023:=
 cOf tabOk mixedOk j06H j023 Tryz.func130 (And.intro j07p trivial) trivial
def j04P:Con:=⟨136,[.v ty79,.v ty67],[ty79,ty67],⟨[.v iT],[]⟩,[iT],fun h=>Pw.j01M h.1 h.2⟩
def j0cU:FnD where
 N:=91
 np:=2
 cs:=[j02u,j07O,j06l,j05s,j023]
 ds:=[]
 modes:=[(127,[false,false]),(128,[false]),(130,[false,false]),(132,[false]),(174,[false,false,false])]
 ro:=[false]
theorem j0cA:Con.OK Tryz.prog j04P:=
 cOf tabOk mixedOk j0cU j04P Tryz.func136 (And.intro j04O (And.intro j0fe (And.intro j0bK (And.intro j0aF (And.intro j06x trivial))))) trivial
def j02X:Con:=⟨135,[.v ty67,.ip [ty61,ty51,ty26,ty73]],[ty67,ty61,ty51,ty26,ty73],⟨[.v iT],[]⟩,[iT],fun h=>Pw.j01r h.1 h.2.1 h.2.2.1 h.2.2.2.1 h.2.2.2.2⟩
def j09Q:FnD where
 N:=7
 np:=2
 cs:=[j04P]
 ds:=[]
 modes:=[(136,[false,false])]
 ro:=[false]
theorem j08X:Con.OK Tryz.prog j02X:=
 cOf tabOk mixedOk j09Q j02X Tryz.func135 (And.intro j0cA trivial) trivial
def j030:Con:=⟨133,[.v ty68,.clo 134 [],.clo 135 [.p [ty61,ty51,ty26,ty73]]],[ty68,ty61,ty51,ty26,ty73],⟨[.v iT],[]⟩,[iT],fun h=>Pw.j01d h.1 h.2.1 h.2.2.1 h.2.2.2.1 h.2.2.2.2⟩
def j0aj:FnD where
 N:=34
 np:=3
 cs:=[j02T,j02W,j02X]
 ds:=[⟨0,[.s (.one (.clo 134 [])),.s (.one (.clo 135 [.p [ty61,ty51,ty26,ty73]])),.s (.one (.ol 1000000)),.s (.one (.d ty68)),sI,sI,.b (.lst 4294967424 (.pair .str .bool) false)],[ty61,ty51,ty26,ty73,ty68,iT,iT,(.list (.pair .str .bool))],[⟨.ret,[sI],[iT]⟩,⟨.exit 0,[],[]⟩],fun h=>Pw.j00n h.1 h.2.1 h.2.2.1 h.2.2.2.1 h.2.2.2.2.1 h.2.2.2.2.2.1 h.2.2.2.2.2.2.1 h.2.2.2.2.2.2.2⟩]
 modes:=[(75,[false,true]),(134,[false]),(135,[false])]
 keep:=[(0,⟨[1,2,7,13,14,15],[],[⟨1000000,4294967424,(.pair .str .bool),[.slot 7],false⟩],[]⟩)]
 keepX:=[(0,.ret,⟨[6],[],[],[]⟩),
  (0,.exit 0,⟨[],[],[],[]⟩)]
 ro:=[false]
theorem j09R:Con.OK Tryz.prog j030:=
 cOf tabOk mixedOk j0aj j030 Tryz.func133 (And.intro j05q (And.intro j08W (And.intro j08X trivial))) (And.intro (fun h=>by kernel_rfl) trivial)
def j05h:Con:=⟨137,[.v ty79,.v ty37],[ty79,ty37],⟨[.v iT],[]⟩,[iT],fun h=>Pw.j025 h.1 h.2⟩
def j0dQ:FnD where
 N:=83
 np:=2
 cs:=[j02u,j06l,j05s]
 ds:=[]
 modes:=[(127,[false,false]),(132,[false]),(174,[false,false,false])]
 ro:=[false]
theorem j0cV:Con.OK Tryz.prog j05h:=
 cOf tabOk mixedOk j0dQ j05h Tryz.func137 (And.intro j04O (And.intro j0bK (And.intro j0aF trivial))) trivial
def j03O:Con:=⟨84,[.v ty79,.v ty72],[ty79,ty72],⟨[.v iT],[]⟩,[iT],fun h=>Pw.j019 h.1 h.2⟩
def j0bb:FnD where
 N:=40
 np:=2
 cs:=[j030,j05h]
 ds:=[⟨0,[.s (.one (.bp 128 0)),.s (.one (.d ty39)),sI,sI,.b (.cell [.d ty61,.d ty51,.d ty26,.d ty73] true)],[ty39,iT,iT,ty61,ty51,ty26,ty73],[⟨.ret,[sI],[iT]⟩,⟨.exit 0,[],[]⟩],fun h=>Pw.j00t h.1 h.2.1 h.2.2.1 h.2.2.2.1 h.2.2.2.2.1 h.2.2.2.2.2.1 h.2.2.2.2.2.2⟩]
 modes:=[(133,[false,false,false]),(137,[false,false])]
 keep:=[(0,⟨[2,27,28,29],[128],[],[]⟩)]
 keepX:=[(0,.ret,⟨[4],[],[],[]⟩),
  (0,.exit 0,⟨[],[],[],[]⟩)]
 ro:=[false]
theorem j0aI:Con.OK Tryz.prog j03O:=
 cOf tabOk mixedOk j0bb j03O Tryz.func84 (And.intro j09R (And.intro j0cV trivial)) (And.intro (fun h=>by kernel_rfl) trivial)
def j05T:Con:=⟨83,[.v ty72,.ip [ty61,ty51,ty26,ty73]],[ty72,ty61,ty51,ty26,ty73],⟨[.v iT],[]⟩,[iT],fun h=>Pw.j03y h.1 h.2.1 h.2.2.1 h.2.2.2.1 h.2.2.2.2⟩
def j0eF:FnD where
 N:=7
 np:=2
 cs:=[j03O]
 ds:=[]
 modes:=[(84,[false,false])]
 ro:=[false]
theorem j0dR:Con.OK Tryz.prog j05T:=
 cOf tabOk mixedOk j0eF j05T Tryz.func83 (And.intro j0aI trivial) trivial
def j02w:Con:=⟨81,[.v ty73,.clo 82 [],.clo 83 [.p [ty61,ty51,ty26,ty73]]],[ty73,ty61,ty51,ty26,ty73],⟨[.v iT],[]⟩,[iT],fun h=>Pw.j016 h.1 h.2.1 h.2.2.1 h.2.2.2.1 h.2.2.2.2⟩
def j08C:FnD where
 N:=34
 np:=3
 cs:=[j02T,j05S,j05T]
 ds:=[⟨0,[.s (.one (.clo 82 [])),.s (.one (.clo 83 [.p [ty61,ty51,ty26,ty73]])),.s (.one (.ol 1000000)),.s (.one (.d ty73)),sI,sI,.b (.lst 4294967424 (.pair .str .bool) false)],[ty61,ty51,ty26,ty73,ty73,iT,iT,(.list (.pair .str .bool))],[⟨.ret,[sI],[iT]⟩,⟨.exit 0,[],[]⟩],fun h=>Pw.j00h h.1 h.2.1 h.2.2.1 h.2.2.2.1 h.2.2.2.2.1 h.2.2.2.2.2.1 h.2.2.2.2.2.2.1 h.2.2.2.2.2.2.2⟩]
 modes:=[(75,[false,true]),(82,[false]),(83,[false])]
 keep:=[(0,⟨[1,2,7,13,14,15],[],[⟨1000000,4294967424,(.pair .str .bool),[.slot 7],false⟩],[]⟩)]
 keepX:=[(0,.ret,⟨[6],[],[],[]⟩),
  (0,.exit 0,⟨[],[],[],[]⟩)]
 ro:=[false]
theorem j07S:Con.OK Tryz.prog j02w:=
 cOf tabOk mixedOk j08C j02w Tryz.func81 (And.intro j05q (And.intro j0dP (And.intro j0dR trivial))) (And.intro (fun h=>by kernel_rfl) trivial)
def j07q:Con:=⟨40,[.v ty79],[ty79],⟨[.v iT],[]⟩,[iT],fun h=>Pw.j03U h⟩
def j0gN:FnD where
 N:=72
 np:=1
 cs:=[j02T,j03k,j04m,j02v,j02w]
 ds:=[⟨0,[.s (.one (.bp 64 0)),.s (.one (.ol 1000000)),.s (.one (.d ty51)),sI,sI,.b (.cell [.d ty61,.d ty51,.d ty26,.d ty73] false),.b (.lst 4294967424 (.pair .str .bool) false)],[ty51,iT,iT,ty61,ty51,ty26,ty73,(.list (.pair .str .bool))],[⟨.ret,[sI],[iT]⟩,⟨.exit 0,[.s (.one (.bp 64 0)),.b (.cell [.d ty61,.d ty51,.d ty26,.d ty73] false)],[ty61,ty51,ty26,ty73]⟩],fun h=>Pw.j01a h.1 h.2.1 h.2.2.1 h.2.2.2.1 h.2.2.2.2.1 h.2.2.2.2.2.1 h.2.2.2.2.2.2.1 h.2.2.2.2.2.2.2⟩]
 modes:=[(72,[false,false,false]),(75,[false,true]),(76,[false,false]),(77,[false,false,false]),(81,[false,false,false])]
 keep:=[(0,⟨[1,4,39,40,41],[64],[⟨1000000,4294967424,(.pair .str .bool),[.slot 4],false⟩],[]⟩)]
 keepX:=[(0,.ret,⟨[2],[],[],[]⟩),
  (0,.exit 0,⟨[1],[64],[],[]⟩)]
 ro:=[false]
theorem j0gb:Con.OK Tryz.prog j07q:=
 cOf tabOk mixedOk j0gN j07q Tryz.func40 (And.intro j05q (And.intro j0ai (And.intro j0bL (And.intro j07Q (And.intro j07S trivial))))) (And.intro (fun h=>by kernel_rfl) trivial)
def j0eG:Con:=⟨208,[.v ty60],[ty60],⟨[.v ty25,.v iT],[]⟩,[ty25,iT],fun h=>Pw.zone_Of h⟩
def j0o4:FnD where
 N:=16
 np:=1
 cs:=[j041]
 ds:=[]
 modes:=[(170,[false])]
 ro:=[false,false]
theorem j0n3:Con.OK Tryz.prog j0eG:=
 cOf tabOk mixedOk j0o4 j0eG Tryz.func208 (And.intro j09m trivial) trivial
def j09S:Con:=⟨163,[.v ty61],[ty61],⟨[.own 167 ty29],[]⟩,[ty29],fun h=>Pw.j086 h⟩
def j0j5:FnD where
 N:=25
 np:=1
 cs:=[j0eG]
 ds:=[⟨0,[.s (.one (.ol 1000000)),.s (.one (.d ty61)),sI,sI,.b (.lst 167 ty25 false)],[ty61,iT,iT,ty29],[⟨.exit 0,[.s (.one (.ol 1500100)),.b (.lst 167 ty25 false)],[ty29]⟩],fun h=>Pw.j01A h.1 h.2.1 h.2.2.1 h.2.2.2⟩]
 modes:=[(208,[false])]
 keep:=[(0,⟨[3,8,9,10],[],[⟨1000000,167,ty25,[.slot 3],false⟩],[]⟩)]
 keepX:=[(0,.exit 0,⟨[3],[],[⟨1500100,167,ty25,[.slot 3],false⟩],[]⟩)]
 ro:=[true]
theorem j0hZ:Con.OK Tryz.prog j09S:=
 cOf tabOk mixedOk j0j5 j09S Tryz.func163 (And.intro j0n3 trivial) (And.intro (fun h=>by kernel_rfl) trivial)
def j0bM:Con:=⟨113,[.v ty79],[ty79],⟨[.v ty81],[]⟩,[ty81],fun h=>Pw.j0as h⟩
def j0lH:FnD where
 N:=8
 np:=1
 cs:=[j09S]
 ds:=[]
 modes:=[(163,[false])]
 ro:=[false]
 dw:=[(1,[[],[],[],[384],[],[128]])]
theorem j0k8:Con.OK Tryz.prog j0bM:=
 cOf tabOk mixedOk j0lH j0bM Tryz.func113 (And.intro j0hZ trivial) trivial
end Go.Proofs.Pk
