/- Contracts: each given function is its plain function, printed by a program. -/
import Derived.Test.YthpdddnkpjnllaaGreatDCon1
noncomputable section
open Go Go.Lft
set_option linter.unusedVariables false
set_option maxRecDepth 100000
namespace Go.Proofs.Pk
def j3Q:Con:=⟨130,[.v (.list iT),.clo 131 []],[(.list iT)],⟨[.v .bool],[]⟩,[.bool],fun h=>Pw.j1L h⟩
def jbF:FnD where
 N:=9
 np:=2
 cs:=[j4H]
 ds:=[]
 modes:=[(175,[false,false])]
 ro:=[false]
theorem jbl:Con.OK Tryz.prog j3Q:=
 cOf j0a j03 jbF j3Q Tryz.func130 (j9 jd0 trivial) trivial
def j5M:Con:=⟨80,[.v ty79,.v ty22],[ty79,ty22],⟨[.v iT],[]⟩,[iT],fun h=>Pw.j1T h.1 h.2⟩
def jfA:FnD where
 N:=46
 np:=2
 cs:=[j3P,j3Q]
 ds:=[⟨1,[.s (.one (.bp 192 0)),sI,sI,.b (.cell [.d .str,.d iT,.d (.list iT)] false)],[iT,iT,.str,iT,(.list iT)],[⟨.ret,[sI],[iT]⟩,⟨.exit 1,[],[]⟩],fun h=>Pw.j26 h.1 h.2.1 h.2.2.1 h.2.2.2.1 h.2.2.2.2⟩]
 modes:=[(127,[false,false]),(130,[false,false])]
 keep:=[(1,⟨[3,25,26],[192],[],[]⟩)]
 keepX:=[(1,.ret,⟨[4],[],[],[]⟩),
  (1,.exit 1,⟨[],[],[],[]⟩)]
 ro:=[false]
theorem jeW:Con.OK Tryz.prog j5M:=
 cOf j0a j03 jfA j5M Tryz.func80 (j9 j73 (j9 jbl trivial)) (j9 (fun h=>by kernel_rfl) trivial)
def j8r:Con:=⟨79,[.v ty22,.ip [ty61,ty51,ty26,ty73]],[ty22,ty61,ty51,ty26,ty73],⟨[.v iT],[]⟩,[iT],fun h=>Pw.j5f h.1 h.2.1 h.2.2.1 h.2.2.2.1 h.2.2.2.2⟩
def jkb:FnD where
 N:=7
 np:=2
 cs:=[j5M]
 ds:=[]
 modes:=[(80,[false,false])]
 ro:=[false]
theorem jiV:Con.OK Tryz.prog j8r:=
 cOf j0a j03 jkb j8r Tryz.func79 (j9 jeW trivial) trivial
def j4c:Con:=⟨77,[.v ty26,.clo 78 [],.clo 79 [.p [ty61,ty51,ty26,ty73]]],[ty26,ty61,ty51,ty26,ty73],⟨[.v iT],[]⟩,[iT],fun h=>Pw.j1l h.1 h.2.1 h.2.2.1 h.2.2.2.1 h.2.2.2.2⟩
def jcc:FnD where
 N:=34
 np:=3
 cs:=[j4r,j8p,j8r]
 ds:=[⟨0,[.s (.one (.clo 78 [])),.s (.one (.clo 79 [.p [ty61,ty51,ty26,ty73]])),.s (.one (.ol 1000000)),.s (.one (.d ty26)),sI,sI,.b (.lst 4294967424 (.pair .str .bool) false)],[ty61,ty51,ty26,ty73,ty26,iT,iT,(.list (.pair .str .bool))],[⟨.ret,[sI],[iT]⟩,⟨.exit 0,[],[]⟩],fun h=>Pw.j0v h.1 h.2.1 h.2.2.1 h.2.2.2.1 h.2.2.2.2.1 h.2.2.2.2.2.1 h.2.2.2.2.2.2.1 h.2.2.2.2.2.2.2⟩]
 modes:=[(75,[false,true]),(78,[false]),(79,[false])]
 keep:=[(0,⟨[1,2,7,13,14,15],[],[⟨1000000,4294967424,(.pair .str .bool),[.slot 7],false⟩],[]⟩)]
 keepX:=[(0,.ret,⟨[6],[],[],[]⟩),
  (0,.exit 0,⟨[],[],[],[]⟩)]
 ro:=[false]
theorem jbG:Con.OK Tryz.prog j4c:=
 cOf j0a j03 jcc j4c Tryz.func77 (j9 j7P (j9 jiU (j9 jiV trivial))) (j9 (fun h=>by kernel_rfl) trivial)
def j8s:Con:=⟨82,[.v ty72],[ty72],⟨[.v .str],[]⟩,[.str],fun h=>Pw.jbB h⟩
def jkc:FnD where
 N:=5
 np:=1
 cs:=[]
 ds:=[]
 ro:=[false]
theorem jiW:Con.OK Tryz.prog j8s:=
 cOf j0a j03 jkc j8s Tryz.func82 trivial trivial
def j4I:Con:=⟨134,[.v ty67],[ty67],⟨[.v .str],[]⟩,[.str],fun h=>Pw.j66 h⟩
def jdC:FnD where
 N:=5
 np:=1
 cs:=[]
 ds:=[]
 ro:=[false]
theorem jd1:Con.OK Tryz.prog j4I:=
 cOf j0a j03 jdC j4I Tryz.func134 trivial trivial
def j5N:Con:=⟨177,[.v iT,.ip [ty61,ty51,ty26,ty73]],[iT,ty61,ty51,ty26,ty73],⟨[.v .bool],[]⟩,[.bool],fun h=>Pw.j7x h.1 h.2.1 h.2.2.1 h.2.2.2.1 h.2.2.2.2⟩
def jfB:FnD where
 N:=10
 np:=2
 cs:=[j3P]
 ds:=[]
 modes:=[(127,[false,false])]
 ro:=[false]
theorem jeX:Con.OK Tryz.prog j5N:=
 cOf j0a j03 jfB j5N Tryz.func177 (j9 j73 trivial) trivial
def j3R:Con:=⟨175,[.v (.list iT),.clo 177 [.p [ty61,ty51,ty26,ty73]]],[(.list iT),ty61,ty51,ty26,ty73],⟨[.v iT],[]⟩,[iT],fun h=>Pw.j1M h.1 h.2.1 h.2.2.1 h.2.2.2.1 h.2.2.2.2⟩
def jbH:FnD where
 N:=19
 np:=2
 cs:=[j5N]
 ds:=[⟨0,[.s (.one (.d (.list iT))),.s (.one (.clo 177 [.p [ty61,ty51,ty26,ty73]])),sI,sI],[(.list iT),ty61,ty51,ty26,ty73,iT,iT],[⟨.ret,[sI],[iT]⟩,⟨.exit 0,[],[]⟩],fun h=>Pw.j19 h.1 h.2.1 h.2.2.1 h.2.2.2.1 h.2.2.2.2.1 h.2.2.2.2.2.1 h.2.2.2.2.2.2⟩]
 modes:=[(177,[false])]
 keep:=[(0,⟨[0,1,7,8],[],[],[]⟩)]
 keepX:=[(0,.ret,⟨[4],[],[],[]⟩),
  (0,.exit 0,⟨[],[],[],[]⟩)]
 ro:=[false]
theorem jbm:Con.OK Tryz.prog j3R:=
 cOf j0a j03 jbH j3R Tryz.func175 (j9 jeX trivial) (j9 (fun h=>by kernel_rfl) trivial)
def j3h:Con:=⟨130,[.v (.list iT),.clo 177 [.p [ty61,ty51,ty26,ty73]]],[(.list iT),ty61,ty51,ty26,ty73],⟨[.v .bool],[]⟩,[.bool],fun h=>Pw.j1e h.1 h.2.1 h.2.2.1 h.2.2.2.1 h.2.2.2.2⟩
def ja3:FnD where
 N:=9
 np:=2
 cs:=[j3R]
 ds:=[]
 modes:=[(175,[false,false])]
 ro:=[false]
theorem j9I:Con.OK Tryz.prog j3h:=
 cOf j0a j03 ja3 j3h Tryz.func130 (j9 jbm trivial) trivial
def j7e:Con:=⟨136,[.v ty79,.v ty67],[ty79,ty67],⟨[.v iT],[]⟩,[iT],fun h=>Pw.j2N h.1 h.2⟩
def ji5:FnD where
 N:=91
 np:=2
 cs:=[j3P,jaS,j8O,j7T,j3h]
 ds:=[]
 modes:=[(127,[false,false]),(128,[false]),(130,[false,false]),(132,[false]),(174,[false,false,false])]
 ro:=[false]
theorem jhc:Con.OK Tryz.prog j7e:=
 cOf j0a j03 ji5 j7e Tryz.func136 (j9 j73 (j9 jk9 (j9 jfz (j9 jee (j9 j9I trivial))))) trivial
def j4J:Con:=⟨135,[.v ty67,.ip [ty61,ty51,ty26,ty73]],[ty67,ty61,ty51,ty26,ty73],⟨[.v iT],[]⟩,[iT],fun h=>Pw.j2n h.1 h.2.1 h.2.2.1 h.2.2.2.1 h.2.2.2.2⟩
def jdD:FnD where
 N:=7
 np:=2
 cs:=[j7e]
 ds:=[]
 modes:=[(136,[false,false])]
 ro:=[false]
theorem jd2:Con.OK Tryz.prog j4J:=
 cOf j0a j03 jdD j4J Tryz.func135 (j9 jhc trivial) trivial
def j54:Con:=⟨133,[.v ty68,.clo 134 [],.clo 135 [.p [ty61,ty51,ty26,ty73]]],[ty68,ty61,ty51,ty26,ty73],⟨[.v iT],[]⟩,[iT],fun h=>Pw.j21 h.1 h.2.1 h.2.2.1 h.2.2.2.1 h.2.2.2.2⟩
def jeh:FnD where
 N:=34
 np:=3
 cs:=[j4r,j4I,j4J]
 ds:=[⟨0,[.s (.one (.clo 134 [])),.s (.one (.clo 135 [.p [ty61,ty51,ty26,ty73]])),.s (.one (.ol 1000000)),.s (.one (.d ty68)),sI,sI,.b (.lst 4294967424 (.pair .str .bool) false)],[ty61,ty51,ty26,ty73,ty68,iT,iT,(.list (.pair .str .bool))],[⟨.ret,[sI],[iT]⟩,⟨.exit 0,[],[]⟩],fun h=>Pw.j0E h.1 h.2.1 h.2.2.1 h.2.2.2.1 h.2.2.2.2.1 h.2.2.2.2.2.1 h.2.2.2.2.2.2.1 h.2.2.2.2.2.2.2⟩]
 modes:=[(75,[false,true]),(134,[false]),(135,[false])]
 keep:=[(0,⟨[1,2,7,13,14,15],[],[⟨1000000,4294967424,(.pair .str .bool),[.slot 7],false⟩],[]⟩)]
 keepX:=[(0,.ret,⟨[6],[],[],[]⟩),
  (0,.exit 0,⟨[],[],[],[]⟩)]
 ro:=[false]
theorem jdE:Con.OK Tryz.prog j54:=
 cOf j0a j03 jeh j54 Tryz.func133 (j9 j7P (j9 jd1 (j9 jd2 trivial))) (j9 (fun h=>by kernel_rfl) trivial)
def j7V:Con:=⟨137,[.v ty79,.v ty37],[ty79,ty37],⟨[.v iT],[]⟩,[iT],fun h=>Pw.j38 h.1 h.2⟩
def jiX:FnD where
 N:=83
 np:=2
 cs:=[j3P,j8O,j7T]
 ds:=[]
 modes:=[(127,[false,false]),(132,[false]),(174,[false,false,false])]
 ro:=[false]
theorem ji6:Con.OK Tryz.prog j7V:=
 cOf j0a j03 jiX j7V Tryz.func137 (j9 j73 (j9 jfz (j9 jee trivial))) trivial
def j5O:Con:=⟨84,[.v ty79,.v ty72],[ty79,ty72],⟨[.v iT],[]⟩,[iT],fun h=>Pw.j1U h.1 h.2⟩
def jfC:FnD where
 N:=40
 np:=2
 cs:=[j54,j7V]
 ds:=[⟨0,[.s (.one (.bp 128 0)),.s (.one (.d ty39)),sI,sI,.b (.cell [.d ty61,.d ty51,.d ty26,.d ty73] true)],[ty39,iT,iT,ty61,ty51,ty26,ty73],[⟨.ret,[sI],[iT]⟩,⟨.exit 0,[],[]⟩],fun h=>Pw.j0M h.1 h.2.1 h.2.2.1 h.2.2.2.1 h.2.2.2.2.1 h.2.2.2.2.2.1 h.2.2.2.2.2.2⟩]
 modes:=[(133,[false,false,false]),(137,[false,false])]
 keep:=[(0,⟨[2,27,28,29],[128],[],[]⟩)]
 keepX:=[(0,.ret,⟨[4],[],[],[]⟩),
  (0,.exit 0,⟨[],[],[],[]⟩)]
 ro:=[false]
theorem jeY:Con.OK Tryz.prog j5O:=
 cOf j0a j03 jfC j5O Tryz.func84 (j9 jdE (j9 ji6 trivial)) (j9 (fun h=>by kernel_rfl) trivial)
def j8t:Con:=⟨83,[.v ty72,.ip [ty61,ty51,ty26,ty73]],[ty72,ty61,ty51,ty26,ty73],⟨[.v iT],[]⟩,[iT],fun h=>Pw.j5g h.1 h.2.1 h.2.2.1 h.2.2.2.1 h.2.2.2.2⟩
def jkd:FnD where
 N:=7
 np:=2
 cs:=[j5O]
 ds:=[]
 modes:=[(84,[false,false])]
 ro:=[false]
theorem jiY:Con.OK Tryz.prog j8t:=
 cOf j0a j03 jkd j8t Tryz.func83 (j9 jeY trivial) trivial
def j4d:Con:=⟨81,[.v ty73,.clo 82 [],.clo 83 [.p [ty61,ty51,ty26,ty73]]],[ty73,ty61,ty51,ty26,ty73],⟨[.v iT],[]⟩,[iT],fun h=>Pw.j1Z h.1 h.2.1 h.2.2.1 h.2.2.2.1 h.2.2.2.2⟩
def jcd:FnD where
 N:=34
 np:=3
 cs:=[j4r,j8s,j8t]
 ds:=[⟨0,[.s (.one (.clo 82 [])),.s (.one (.clo 83 [.p [ty61,ty51,ty26,ty73]])),.s (.one (.ol 1000000)),.s (.one (.d ty73)),sI,sI,.b (.lst 4294967424 (.pair .str .bool) false)],[ty61,ty51,ty26,ty73,ty73,iT,iT,(.list (.pair .str .bool))],[⟨.ret,[sI],[iT]⟩,⟨.exit 0,[],[]⟩],fun h=>Pw.j0w h.1 h.2.1 h.2.2.1 h.2.2.2.1 h.2.2.2.2.1 h.2.2.2.2.2.1 h.2.2.2.2.2.2.1 h.2.2.2.2.2.2.2⟩]
 modes:=[(75,[false,true]),(82,[false]),(83,[false])]
 keep:=[(0,⟨[1,2,7,13,14,15],[],[⟨1000000,4294967424,(.pair .str .bool),[.slot 7],false⟩],[]⟩)]
 keepX:=[(0,.ret,⟨[6],[],[],[]⟩),
  (0,.exit 0,⟨[],[],[],[]⟩)]
 ro:=[false]
theorem jbI:Con.OK Tryz.prog j4d:=
 cOf j0a j03 jcd j4d Tryz.func81 (j9 j7P (j9 jiW (j9 jiY trivial))) (j9 (fun h=>by kernel_rfl) trivial)
def jaC:Con:=⟨40,[.v ty79],[ty79],⟨[.v iT],[]⟩,[iT],fun h=>Pw.j5m h⟩
def jno:FnD where
 N:=72
 np:=1
 cs:=[j4r,j5a,j6B,j4c,j4d]
 ds:=[⟨0,[.s (.one (.bp 64 0)),.s (.one (.ol 1000000)),.s (.one (.d ty51)),sI,sI,.b (.cell [.d ty61,.d ty51,.d ty26,.d ty73] false),.b (.lst 4294967424 (.pair .str .bool) false)],[ty51,iT,iT,ty61,ty51,ty26,ty73,(.list (.pair .str .bool))],[⟨.ret,[sI],[iT]⟩,⟨.exit 0,[.s (.one (.bp 64 0)),.b (.cell [.d ty61,.d ty51,.d ty26,.d ty73] false)],[ty61,ty51,ty26,ty73]⟩],fun h=>Pw.j1V h.1 h.2.1 h.2.2.1 h.2.2.2.1 h.2.2.2.2.1 h.2.2.2.2.2.1 h.2.2.2.2.2.2.1 h.2.2.2.2.2.2.2⟩]
 modes:=[(72,[false,false,false]),(75,[false,true]),(76,[false,false]),(77,[false,false,false]),(81,[false,false,false])]
 keep:=[(0,⟨[1,4,39,40,41],[64],[⟨1000000,4294967424,(.pair .str .bool),[.slot 4],false⟩],[]⟩)]
 keepX:=[(0,.ret,⟨[2],[],[],[]⟩),
  (0,.exit 0,⟨[1],[64],[],[]⟩)]
 ro:=[false]
theorem jm0:Con.OK Tryz.prog jaC:=
 cOf j0a j03 jno jaC Tryz.func40 (j9 j7P (j9 jec (j9 jgp (j9 jbG (j9 jbI trivial))))) (j9 (fun h=>by kernel_rfl) trivial)
def jiZ:Con:=⟨208,[.v ty60],[ty60],⟨[.v ty25,.v iT],[]⟩,[ty25,iT],fun h=>Pw.jgW h⟩
def jxA:FnD where
 N:=16
 np:=1
 cs:=[j5X]
 ds:=[]
 modes:=[(170,[false])]
 ro:=[false,false]
theorem jvN:Con.OK Tryz.prog jiZ:=
 cOf j0a j03 jxA jiZ Tryz.func208 (j9 jcY trivial) trivial
def jd3:Con:=⟨163,[.v ty61],[ty61],⟨[.own 167 ty29],[]⟩,[ty29],fun h=>Pw.jat h⟩
def jqf:FnD where
 N:=25
 np:=1
 cs:=[jiZ]
 ds:=[⟨0,[.s (.one (.ol 1000000)),.s (.one (.d ty61)),sI,sI,.b (.lst 167 ty25 false)],[ty61,iT,iT,ty29],[⟨.exit 0,[.s (.one (.ol 1500100)),.b (.lst 167 ty25 false)],[ty29]⟩],fun h=>Pw.j2s h.1 h.2.1 h.2.2.1 h.2.2.2⟩]
 modes:=[(208,[false])]
 keep:=[(0,⟨[3,8,9,10],[],[⟨1000000,167,ty25,[.slot 3],false⟩],[]⟩)]
 keepX:=[(0,.exit 0,⟨[3],[],[⟨1500100,167,ty25,[.slot 3],false⟩],[]⟩)]
 ro:=[true]
theorem jok:Con.OK Tryz.prog jd3:=
 cOf j0a j03 jqf jd3 Tryz.func163 (j9 jvN trivial) (j9 (fun h=>by kernel_rfl) trivial)
def jfD:Con:=⟨113,[.v ty79],[ty79],⟨[.v ty81],[]⟩,[ty81],fun h=>Pw.jcD h⟩
def jtn:FnD where
 N:=8
 np:=1
 cs:=[jd3]
 ds:=[]
 modes:=[(163,[false])]
 ro:=[false]
 dw:=[(1,[[],[],[],[384],[],[128]])]
theorem jrV:Con.OK Tryz.prog jfD:=
 cOf j0a j03 jtn jfD Tryz.func113 (j9 jok trivial) trivial
end Go.Proofs.Pk
