/- Contracts: each given function is its plain function, printed by a program. -/
import Derived.Test.YthpdddnkpjnllaaGreatGCon1
noncomputable section
open Go Go.Lft
set_option linter.unusedVariables false
set_option maxRecDepth 100000
namespace Go.Proofs.Pk
def j34:Con:=⟨130,[.v (.list iT),.clo 131 []],[(.list iT)],⟨[.v .bool],[]⟩,[.bool],fun h=>Pw.j1g h⟩
def jaD:FnD where
 N:=9
 np:=2
 cs:=[j3O]
 ds:=[]
 modes:=[(175,[false,false])]
 ro:=[false]
theorem jak:Con.OK Tryz.prog j34:=
 cOf j07 j02 jaD j34 Tryz.func130 (j9 jce trivial) trivial
def j4R:Con:=⟨80,[.v ty79,.v ty22],[ty79,ty22],⟨[.v iT],[]⟩,[iT],fun h=>Pw.j1m h.1 h.2⟩
def jeL:FnD where
 N:=46
 np:=2
 cs:=[j33,j34]
 ds:=[⟨1,[.s (.one (.bp 192 0)),sI,sI,.b (.cell [.d .str,.d iT,.d (.list iT)] false)],[iT,iT,.str,iT,(.list iT)],[⟨.ret,[sI],[iT]⟩,⟨.exit 1,[],[]⟩],fun h=>Pw.j1x h.1 h.2.1 h.2.2.1 h.2.2.2.1 h.2.2.2.2⟩]
 modes:=[(127,[false,false]),(130,[false,false])]
 keep:=[(1,⟨[3,25,26],[192],[],[]⟩)]
 keepX:=[(1,.ret,⟨[4],[],[],[]⟩),
  (1,.exit 1,⟨[],[],[],[]⟩)]
 ro:=[false]
theorem je7:Con.OK Tryz.prog j4R:=
 cOf j07 j02 jeL j4R Tryz.func80 (j9 j5W (j9 jak trivial)) (j9 (fun h=>by kernel_rfl) trivial)
def j7d:Con:=⟨79,[.v ty22,.ip [ty61,ty51,ty26,ty73]],[ty22,ty61,ty51,ty26,ty73],⟨[.v iT],[]⟩,[iT],fun h=>Pw.j4k h.1 h.2.1 h.2.2.1 h.2.2.2.1 h.2.2.2.2⟩
def jjm:FnD where
 N:=7
 np:=2
 cs:=[j4R]
 ds:=[]
 modes:=[(80,[false,false])]
 ro:=[false]
theorem ji3:Con.OK Tryz.prog j7d:=
 cOf j07 j02 jjm j7d Tryz.func79 (j9 je7 trivial) trivial
def j3m:Con:=⟨77,[.v ty26,.clo 78 [],.clo 79 [.p [ty61,ty51,ty26,ty73]]],[ty26,ty61,ty51,ty26,ty73],⟨[.v iT],[]⟩,[iT],fun h=>Pw.j13 h.1 h.2.1 h.2.2.1 h.2.2.2.1 h.2.2.2.2⟩
def jbe:FnD where
 N:=34
 np:=3
 cs:=[j3A,j7b,j7d]
 ds:=[⟨0,[.s (.one (.clo 78 [])),.s (.one (.clo 79 [.p [ty61,ty51,ty26,ty73]])),.s (.one (.ol 1000000)),.s (.one (.d ty26)),sI,sI,.b (.lst 4294967424 (.pair .str .bool) false)],[ty61,ty51,ty26,ty73,ty26,iT,iT,(.list (.pair .str .bool))],[⟨.ret,[sI],[iT]⟩,⟨.exit 0,[],[]⟩],fun h=>Pw.j0p h.1 h.2.1 h.2.2.1 h.2.2.2.1 h.2.2.2.2.1 h.2.2.2.2.2.1 h.2.2.2.2.2.2.1 h.2.2.2.2.2.2.2⟩]
 modes:=[(75,[false,true]),(78,[false]),(79,[false])]
 keep:=[(0,⟨[1,2,7,13,14,15],[],[⟨1000000,4294967424,(.pair .str .bool),[.slot 7],false⟩],[]⟩)]
 keepX:=[(0,.ret,⟨[6],[],[],[]⟩),
  (0,.exit 0,⟨[],[],[],[]⟩)]
 ro:=[false]
theorem jaE:Con.OK Tryz.prog j3m:=
 cOf j07 j02 jbe j3m Tryz.func77 (j9 j6C (j9 ji2 (j9 ji3 trivial))) (j9 (fun h=>by kernel_rfl) trivial)
def j7e:Con:=⟨82,[.v ty72],[ty72],⟨[.v .str],[]⟩,[.str],fun h=>Pw.jaz h⟩
def jjn:FnD where
 N:=5
 np:=1
 cs:=[]
 ds:=[]
 ro:=[false]
theorem ji4:Con.OK Tryz.prog j7e:=
 cOf j07 j02 jjn j7e Tryz.func82 trivial trivial
def j3P:Con:=⟨134,[.v ty67],[ty67],⟨[.v .str],[]⟩,[.str],fun h=>Pw.j59 h⟩
def jcP:FnD where
 N:=5
 np:=1
 cs:=[]
 ds:=[]
 ro:=[false]
theorem jcf:Con.OK Tryz.prog j3P:=
 cOf j07 j02 jcP j3P Tryz.func134 trivial trivial
def j4S:Con:=⟨177,[.v iT,.ip [ty61,ty51,ty26,ty73]],[iT,ty61,ty51,ty26,ty73],⟨[.v .bool],[]⟩,[.bool],fun h=>Pw.j6n h.1 h.2.1 h.2.2.1 h.2.2.2.1 h.2.2.2.2⟩
def jeM:FnD where
 N:=10
 np:=2
 cs:=[j33]
 ds:=[]
 modes:=[(127,[false,false])]
 ro:=[false]
theorem je8:Con.OK Tryz.prog j4S:=
 cOf j07 j02 jeM j4S Tryz.func177 (j9 j5W trivial) trivial
def j35:Con:=⟨175,[.v (.list iT),.clo 177 [.p [ty61,ty51,ty26,ty73]]],[(.list iT),ty61,ty51,ty26,ty73],⟨[.v iT],[]⟩,[iT],fun h=>Pw.j1h h.1 h.2.1 h.2.2.1 h.2.2.2.1 h.2.2.2.2⟩
def jaF:FnD where
 N:=19
 np:=2
 cs:=[j4S]
 ds:=[⟨0,[.s (.one (.d (.list iT))),.s (.one (.clo 177 [.p [ty61,ty51,ty26,ty73]])),sI,sI],[(.list iT),ty61,ty51,ty26,ty73,iT,iT],[⟨.ret,[sI],[iT]⟩,⟨.exit 0,[],[]⟩],fun h=>Pw.j0R h.1 h.2.1 h.2.2.1 h.2.2.2.1 h.2.2.2.2.1 h.2.2.2.2.2.1 h.2.2.2.2.2.2⟩]
 modes:=[(177,[false])]
 keep:=[(0,⟨[0,1,7,8],[],[],[]⟩)]
 keepX:=[(0,.ret,⟨[4],[],[],[]⟩),
  (0,.exit 0,⟨[],[],[],[]⟩)]
 ro:=[false]
theorem jal:Con.OK Tryz.prog j35:=
 cOf j07 j02 jaF j35 Tryz.func175 (j9 je8 trivial) (j9 (fun h=>by kernel_rfl) trivial)
def j2C:Con:=⟨130,[.v (.list iT),.clo 177 [.p [ty61,ty51,ty26,ty73]]],[(.list iT),ty61,ty51,ty26,ty73],⟨[.v .bool],[]⟩,[.bool],fun h=>Pw.j0W h.1 h.2.1 h.2.2.1 h.2.2.2.1 h.2.2.2.2⟩
def j8Z:FnD where
 N:=9
 np:=2
 cs:=[j35]
 ds:=[]
 modes:=[(175,[false,false])]
 ro:=[false]
theorem j8F:Con.OK Tryz.prog j2C:=
 cOf j07 j02 j8Z j2C Tryz.func130 (j9 jal trivial) trivial
def j65:Con:=⟨136,[.v ty79,.v ty67],[ty79,ty67],⟨[.v iT],[]⟩,[iT],fun h=>Pw.j27 h.1 h.2⟩
def jhc:FnD where
 N:=91
 np:=2
 cs:=[j33,j9R,j7B,j6G,j2C]
 ds:=[]
 modes:=[(127,[false,false]),(128,[false]),(130,[false,false]),(132,[false]),(174,[false,false,false])]
 ro:=[false]
theorem jgm:Con.OK Tryz.prog j65:=
 cOf j07 j02 jhc j65 Tryz.func136 (j9 j5W (j9 jjk (j9 jeK (j9 jdo (j9 j8F trivial))))) trivial
def j3Q:Con:=⟨135,[.v ty67,.ip [ty61,ty51,ty26,ty73]],[ty67,ty61,ty51,ty26,ty73],⟨[.v iT],[]⟩,[iT],fun h=>Pw.j1G h.1 h.2.1 h.2.2.1 h.2.2.2.1 h.2.2.2.2⟩
def jcQ:FnD where
 N:=7
 np:=2
 cs:=[j65]
 ds:=[]
 modes:=[(136,[false,false])]
 ro:=[false]
theorem jcg:Con.OK Tryz.prog j3Q:=
 cOf j07 j02 jcQ j3Q Tryz.func135 (j9 jgm trivial) trivial
def j48:Con:=⟨133,[.v ty68,.clo 134 [],.clo 135 [.p [ty61,ty51,ty26,ty73]]],[ty68,ty61,ty51,ty26,ty73],⟨[.v iT],[]⟩,[iT],fun h=>Pw.j1t h.1 h.2.1 h.2.2.1 h.2.2.2.1 h.2.2.2.2⟩
def jdr:FnD where
 N:=34
 np:=3
 cs:=[j3A,j3P,j3Q]
 ds:=[⟨0,[.s (.one (.clo 134 [])),.s (.one (.clo 135 [.p [ty61,ty51,ty26,ty73]])),.s (.one (.ol 1000000)),.s (.one (.d ty68)),sI,sI,.b (.lst 4294967424 (.pair .str .bool) false)],[ty61,ty51,ty26,ty73,ty68,iT,iT,(.list (.pair .str .bool))],[⟨.ret,[sI],[iT]⟩,⟨.exit 0,[],[]⟩],fun h=>Pw.j0x h.1 h.2.1 h.2.2.1 h.2.2.2.1 h.2.2.2.2.1 h.2.2.2.2.2.1 h.2.2.2.2.2.2.1 h.2.2.2.2.2.2.2⟩]
 modes:=[(75,[false,true]),(134,[false]),(135,[false])]
 keep:=[(0,⟨[1,2,7,13,14,15],[],[⟨1000000,4294967424,(.pair .str .bool),[.slot 7],false⟩],[]⟩)]
 keepX:=[(0,.ret,⟨[6],[],[],[]⟩),
  (0,.exit 0,⟨[],[],[],[]⟩)]
 ro:=[false]
theorem jcR:Con.OK Tryz.prog j48:=
 cOf j07 j02 jdr j48 Tryz.func133 (j9 j6C (j9 jcf (j9 jcg trivial))) (j9 (fun h=>by kernel_rfl) trivial)
def j6I:Con:=⟨137,[.v ty79,.v ty37],[ty79,ty37],⟨[.v iT],[]⟩,[iT],fun h=>Pw.j2t h.1 h.2⟩
def ji5:FnD where
 N:=83
 np:=2
 cs:=[j33,j7B,j6G]
 ds:=[]
 modes:=[(127,[false,false]),(132,[false]),(174,[false,false,false])]
 ro:=[false]
theorem jhd:Con.OK Tryz.prog j6I:=
 cOf j07 j02 ji5 j6I Tryz.func137 (j9 j5W (j9 jeK (j9 jdo trivial))) trivial
def j4T:Con:=⟨84,[.v ty79,.v ty72],[ty79,ty72],⟨[.v iT],[]⟩,[iT],fun h=>Pw.j1n h.1 h.2⟩
def jeN:FnD where
 N:=40
 np:=2
 cs:=[j48,j6I]
 ds:=[⟨0,[.s (.one (.bp 128 0)),.s (.one (.d ty39)),sI,sI,.b (.cell [.d ty61,.d ty51,.d ty26,.d ty73] true)],[ty39,iT,iT,ty61,ty51,ty26,ty73],[⟨.ret,[sI],[iT]⟩,⟨.exit 0,[],[]⟩],fun h=>Pw.j0A h.1 h.2.1 h.2.2.1 h.2.2.2.1 h.2.2.2.2.1 h.2.2.2.2.2.1 h.2.2.2.2.2.2⟩]
 modes:=[(133,[false,false,false]),(137,[false,false])]
 keep:=[(0,⟨[2,27,28,29],[128],[],[]⟩)]
 keepX:=[(0,.ret,⟨[4],[],[],[]⟩),
  (0,.exit 0,⟨[],[],[],[]⟩)]
 ro:=[false]
theorem je9:Con.OK Tryz.prog j4T:=
 cOf j07 j02 jeN j4T Tryz.func84 (j9 jcR (j9 jhd trivial)) (j9 (fun h=>by kernel_rfl) trivial)
def j7f:Con:=⟨83,[.v ty72,.ip [ty61,ty51,ty26,ty73]],[ty72,ty61,ty51,ty26,ty73],⟨[.v iT],[]⟩,[iT],fun h=>Pw.j4l h.1 h.2.1 h.2.2.1 h.2.2.2.1 h.2.2.2.2⟩
def jjo:FnD where
 N:=7
 np:=2
 cs:=[j4T]
 ds:=[]
 modes:=[(84,[false,false])]
 ro:=[false]
theorem ji6:Con.OK Tryz.prog j7f:=
 cOf j07 j02 jjo j7f Tryz.func83 (j9 je9 trivial) trivial
def j3n:Con:=⟨81,[.v ty73,.clo 82 [],.clo 83 [.p [ty61,ty51,ty26,ty73]]],[ty73,ty61,ty51,ty26,ty73],⟨[.v iT],[]⟩,[iT],fun h=>Pw.j1r h.1 h.2.1 h.2.2.1 h.2.2.2.1 h.2.2.2.2⟩
def jbf:FnD where
 N:=34
 np:=3
 cs:=[j3A,j7e,j7f]
 ds:=[⟨0,[.s (.one (.clo 82 [])),.s (.one (.clo 83 [.p [ty61,ty51,ty26,ty73]])),.s (.one (.ol 1000000)),.s (.one (.d ty73)),sI,sI,.b (.lst 4294967424 (.pair .str .bool) false)],[ty61,ty51,ty26,ty73,ty73,iT,iT,(.list (.pair .str .bool))],[⟨.ret,[sI],[iT]⟩,⟨.exit 0,[],[]⟩],fun h=>Pw.j0q h.1 h.2.1 h.2.2.1 h.2.2.2.1 h.2.2.2.2.1 h.2.2.2.2.2.1 h.2.2.2.2.2.2.1 h.2.2.2.2.2.2.2⟩]
 modes:=[(75,[false,true]),(82,[false]),(83,[false])]
 keep:=[(0,⟨[1,2,7,13,14,15],[],[⟨1000000,4294967424,(.pair .str .bool),[.slot 7],false⟩],[]⟩)]
 keepX:=[(0,.ret,⟨[6],[],[],[]⟩),
  (0,.exit 0,⟨[],[],[],[]⟩)]
 ro:=[false]
theorem jaG:Con.OK Tryz.prog j3n:=
 cOf j07 j02 jbf j3n Tryz.func81 (j9 j6C (j9 ji4 (j9 ji6 trivial))) (j9 (fun h=>by kernel_rfl) trivial)
def j9B:Con:=⟨40,[.v ty79],[ty79],⟨[.v iT],[]⟩,[iT],fun h=>Pw.j4s h⟩
def jmt:FnD where
 N:=72
 np:=1
 cs:=[j3A,j4f,j5x,j3m,j3n]
 ds:=[⟨0,[.s (.one (.bp 64 0)),.s (.one (.ol 1000000)),.s (.one (.d ty51)),sI,sI,.b (.cell [.d ty61,.d ty51,.d ty26,.d ty73] false),.b (.lst 4294967424 (.pair .str .bool) false)],[ty51,iT,iT,ty61,ty51,ty26,ty73,(.list (.pair .str .bool))],[⟨.ret,[sI],[iT]⟩,⟨.exit 0,[.s (.one (.bp 64 0)),.b (.cell [.d ty61,.d ty51,.d ty26,.d ty73] false)],[ty61,ty51,ty26,ty73]⟩],fun h=>Pw.j1o h.1 h.2.1 h.2.2.1 h.2.2.2.1 h.2.2.2.2.1 h.2.2.2.2.2.1 h.2.2.2.2.2.2.1 h.2.2.2.2.2.2.2⟩]
 modes:=[(72,[false,false,false]),(75,[false,true]),(76,[false,false]),(77,[false,false,false]),(81,[false,false,false])]
 keep:=[(0,⟨[1,4,39,40,41],[64],[⟨1000000,4294967424,(.pair .str .bool),[.slot 4],false⟩],[]⟩)]
 keepX:=[(0,.ret,⟨[2],[],[],[]⟩),
  (0,.exit 0,⟨[1],[64],[],[]⟩)]
 ro:=[false]
theorem jl4:Con.OK Tryz.prog j9B:=
 cOf j07 j02 jmt j9B Tryz.func40 (j9 j6C (j9 jdm (j9 jfx (j9 jaE (j9 jaG trivial))))) (j9 (fun h=>by kernel_rfl) trivial)
def ji7:Con:=⟨208,[.v ty60],[ty60],⟨[.v ty25,.v iT],[]⟩,[ty25,iT],fun h=>Pw.jg4 h⟩
def jw5:FnD where
 N:=16
 np:=1
 cs:=[j51]
 ds:=[]
 modes:=[(170,[false])]
 ro:=[false,false]
theorem jun:Con.OK Tryz.prog ji7:=
 cOf j07 j02 jw5 ji7 Tryz.func208 (j9 jcc trivial) trivial
def jch:Con:=⟨163,[.v ty61],[ty61],⟨[.own 167 ty29],[]⟩,[ty29],fun h=>Pw.j9p h⟩
def jpc:FnD where
 N:=25
 np:=1
 cs:=[ji7]
 ds:=[⟨0,[.s (.one (.ol 1000000)),.s (.one (.d ty61)),sI,sI,.b (.lst 167 ty25 false)],[ty61,iT,iT,ty29],[⟨.exit 0,[.s (.one (.ol 1500100)),.b (.lst 167 ty25 false)],[ty29]⟩],fun h=>Pw.j1L h.1 h.2.1 h.2.2.1 h.2.2.2⟩]
 modes:=[(208,[false])]
 keep:=[(0,⟨[3,8,9,10],[],[⟨1000000,167,ty25,[.slot 3],false⟩],[]⟩)]
 keepX:=[(0,.exit 0,⟨[3],[],[⟨1500100,167,ty25,[.slot 3],false⟩],[]⟩)]
 ro:=[true]
theorem jnn:Con.OK Tryz.prog jch:=
 cOf j07 j02 jpc jch Tryz.func163 (j9 jun trivial) (j9 (fun h=>by kernel_rfl) trivial)
def jeO:Con:=⟨113,[.v ty79],[ty79],⟨[.v ty81],[]⟩,[ty81],fun h=>Pw.jbG h⟩
def jsb:FnD where
 N:=8
 np:=1
 cs:=[jch]
 ds:=[]
 modes:=[(163,[false])]
 ro:=[false]
 dw:=[(1,[[],[],[],[384],[],[128]])]
theorem jqK:Con.OK Tryz.prog jeO:=
 cOf j07 j02 jsb jeO Tryz.func113 (j9 jnn trivial) trivial
end Go.Proofs.Pk
