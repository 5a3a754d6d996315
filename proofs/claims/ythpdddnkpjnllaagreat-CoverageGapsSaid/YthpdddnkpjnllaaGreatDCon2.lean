/- Contracts: each given function is its plain function, printed by a program. -/
import Derived.Test.YthpdddnkpjnllaaGreatDCon1
noncomputable section
open Go Go.Lft
set_option linter.unusedVariables false
set_option maxRecDepth 100000
namespace Go.Proofs.Pk
def j3G:Con:=⟨130,[.v (.list iT),.clo 131 []],[(.list iT)],⟨[.v .bool],[]⟩,[.bool],fun h=>Pw.j1H h⟩
def jbv:FnD where
 N:=9
 np:=2
 cs:=[j4x]
 ds:=[]
 modes:=[(175,[false,false])]
 ro:=[false]
theorem jba:Con.OK Tryz.prog j3G:=
 cOf j0a j03 jbv j3G Tryz.func130 (j9 jcU trivial) trivial
def j5C:Con:=⟨80,[.v ty79,.v ty22],[ty79,ty22],⟨[.v iT],[]⟩,[iT],fun h=>Pw.j1P h.1 h.2⟩
def jft:FnD where
 N:=46
 np:=2
 cs:=[j3F,j3G]
 ds:=[⟨1,[.s (.one (.bp 192 0)),sI,sI,.b (.cell [.d .str,.d iT,.d (.list iT)] false)],[iT,iT,.str,iT,(.list iT)],[⟨.ret,[sI],[iT]⟩,⟨.exit 1,[],[]⟩],fun h=>Pw.j23 h.1 h.2.1 h.2.2.1 h.2.2.2.1 h.2.2.2.2⟩]
 modes:=[(127,[false,false]),(130,[false,false])]
 keep:=[(1,⟨[3,25,26],[192],[],[]⟩)]
 keepX:=[(1,.ret,⟨[4],[],[],[]⟩),
  (1,.exit 1,⟨[],[],[],[]⟩)]
 ro:=[false]
theorem jeR:Con.OK Tryz.prog j5C:=
 cOf j0a j03 jft j5C Tryz.func80 (j9 j6W (j9 jba trivial)) (j9 (fun h=>by kernel_rfl) trivial)
def j8h:Con:=⟨79,[.v ty22,.ip [ty61,ty51,ty26,ty73]],[ty22,ty61,ty51,ty26,ty73],⟨[.v iT],[]⟩,[iT],fun h=>Pw.j52 h.1 h.2.1 h.2.2.1 h.2.2.2.1 h.2.2.2.2⟩
def jk9:FnD where
 N:=7
 np:=2
 cs:=[j5C]
 ds:=[]
 modes:=[(80,[false,false])]
 ro:=[false]
theorem jiP:Con.OK Tryz.prog j8h:=
 cOf j0a j03 jk9 j8h Tryz.func79 (j9 jeR trivial) trivial
def j42:Con:=⟨77,[.v ty26,.clo 78 [],.clo 79 [.p [ty61,ty51,ty26,ty73]]],[ty26,ty61,ty51,ty26,ty73],⟨[.v iT],[]⟩,[iT],fun h=>Pw.j1i h.1 h.2.1 h.2.2.1 h.2.2.2.1 h.2.2.2.2⟩
def jc3:FnD where
 N:=34
 np:=3
 cs:=[j4i,j8e,j8h]
 ds:=[⟨0,[.s (.one (.clo 78 [])),.s (.one (.clo 79 [.p [ty61,ty51,ty26,ty73]])),.s (.one (.ol 1000000)),.s (.one (.d ty26)),sI,sI,.b (.lst 4294967424 (.pair .str .bool) false)],[ty61,ty51,ty26,ty73,ty26,iT,iT,(.list (.pair .str .bool))],[⟨.ret,[sI],[iT]⟩,⟨.exit 0,[],[]⟩],fun h=>Pw.j0u h.1 h.2.1 h.2.2.1 h.2.2.2.1 h.2.2.2.2.1 h.2.2.2.2.2.1 h.2.2.2.2.2.2.1 h.2.2.2.2.2.2.2⟩]
 modes:=[(75,[false,true]),(78,[false]),(79,[false])]
 keep:=[(0,⟨[1,2,7,13,14,15],[],[⟨1000000,4294967424,(.pair .str .bool),[.slot 7],false⟩],[]⟩)]
 keepX:=[(0,.ret,⟨[6],[],[],[]⟩),
  (0,.exit 0,⟨[],[],[],[]⟩)]
 ro:=[false]
theorem jbw:Con.OK Tryz.prog j42:=
 cOf j0a j03 jc3 j42 Tryz.func77 (j9 j7H (j9 jiN (j9 jiP trivial))) (j9 (fun h=>by kernel_rfl) trivial)
def j8i:Con:=⟨82,[.v ty72],[ty72],⟨[.v .str],[]⟩,[.str],fun h=>Pw.jbq h⟩
def jka:FnD where
 N:=5
 np:=1
 cs:=[]
 ds:=[]
 ro:=[false]
theorem jiQ:Con.OK Tryz.prog j8i:=
 cOf j0a j03 jka j8i Tryz.func82 trivial trivial
def j4y:Con:=⟨134,[.v ty67],[ty67],⟨[.v .str],[]⟩,[.str],fun h=>Pw.j5W h⟩
def jdw:FnD where
 N:=5
 np:=1
 cs:=[]
 ds:=[]
 ro:=[false]
theorem jcV:Con.OK Tryz.prog j4y:=
 cOf j0a j03 jdw j4y Tryz.func134 trivial trivial
def j5D:Con:=⟨177,[.v iT,.ip [ty61,ty51,ty26,ty73]],[iT,ty61,ty51,ty26,ty73],⟨[.v .bool],[]⟩,[.bool],fun h=>Pw.j7r h.1 h.2.1 h.2.2.1 h.2.2.2.1 h.2.2.2.2⟩
def jfu:FnD where
 N:=10
 np:=2
 cs:=[j3F]
 ds:=[]
 modes:=[(127,[false,false])]
 ro:=[false]
theorem jeS:Con.OK Tryz.prog j5D:=
 cOf j0a j03 jfu j5D Tryz.func177 (j9 j6W trivial) trivial
def j3H:Con:=⟨175,[.v (.list iT),.clo 177 [.p [ty61,ty51,ty26,ty73]]],[(.list iT),ty61,ty51,ty26,ty73],⟨[.v iT],[]⟩,[iT],fun h=>Pw.j1I h.1 h.2.1 h.2.2.1 h.2.2.2.1 h.2.2.2.2⟩
def jbx:FnD where
 N:=19
 np:=2
 cs:=[j5D]
 ds:=[⟨0,[.s (.one (.d (.list iT))),.s (.one (.clo 177 [.p [ty61,ty51,ty26,ty73]])),sI,sI],[(.list iT),ty61,ty51,ty26,ty73,iT,iT],[⟨.ret,[sI],[iT]⟩,⟨.exit 0,[],[]⟩],fun h=>Pw.j16 h.1 h.2.1 h.2.2.1 h.2.2.2.1 h.2.2.2.2.1 h.2.2.2.2.2.1 h.2.2.2.2.2.2⟩]
 modes:=[(177,[false])]
 keep:=[(0,⟨[0,1,7,8],[],[],[]⟩)]
 keepX:=[(0,.ret,⟨[4],[],[],[]⟩),
  (0,.exit 0,⟨[],[],[],[]⟩)]
 ro:=[false]
theorem jbb:Con.OK Tryz.prog j3H:=
 cOf j0a j03 jbx j3H Tryz.func175 (j9 jeS trivial) (j9 (fun h=>by kernel_rfl) trivial)
def j38:Con:=⟨130,[.v (.list iT),.clo 177 [.p [ty61,ty51,ty26,ty73]]],[(.list iT),ty61,ty51,ty26,ty73],⟨[.v .bool],[]⟩,[.bool],fun h=>Pw.j1b h.1 h.2.1 h.2.2.1 h.2.2.2.1 h.2.2.2.2⟩
def j9S:FnD where
 N:=9
 np:=2
 cs:=[j3H]
 ds:=[]
 modes:=[(175,[false,false])]
 ro:=[false]
theorem j9y:Con.OK Tryz.prog j38:=
 cOf j0a j03 j9S j38 Tryz.func130 (j9 jbb trivial) trivial
def j78:Con:=⟨136,[.v ty79,.v ty67],[ty79,ty67],⟨[.v iT],[]⟩,[iT],fun h=>Pw.j2G h.1 h.2⟩
def jhY:FnD where
 N:=91
 np:=2
 cs:=[j3F,jaG,j8D,j7L,j38]
 ds:=[]
 modes:=[(127,[false,false]),(128,[false]),(130,[false,false]),(132,[false]),(174,[false,false,false])]
 ro:=[false]
theorem jh7:Con.OK Tryz.prog j78:=
 cOf j0a j03 jhY j78 Tryz.func136 (j9 j6W (j9 jk6 (j9 jfs (j9 je9 (j9 j9y trivial))))) trivial
def j4z:Con:=⟨135,[.v ty67,.ip [ty61,ty51,ty26,ty73]],[ty67,ty61,ty51,ty26,ty73],⟨[.v iT],[]⟩,[iT],fun h=>Pw.j2i h.1 h.2.1 h.2.2.1 h.2.2.2.1 h.2.2.2.2⟩
def jdx:FnD where
 N:=7
 np:=2
 cs:=[j78]
 ds:=[]
 modes:=[(136,[false,false])]
 ro:=[false]
theorem jcW:Con.OK Tryz.prog j4z:=
 cOf j0a j03 jdx j4z Tryz.func135 (j9 jh7 trivial) trivial
def j4R:Con:=⟨133,[.v ty68,.clo 134 [],.clo 135 [.p [ty61,ty51,ty26,ty73]]],[ty68,ty61,ty51,ty26,ty73],⟨[.v iT],[]⟩,[iT],fun h=>Pw.j1X h.1 h.2.1 h.2.2.1 h.2.2.2.1 h.2.2.2.2⟩
def jec:FnD where
 N:=34
 np:=3
 cs:=[j4i,j4y,j4z]
 ds:=[⟨0,[.s (.one (.clo 134 [])),.s (.one (.clo 135 [.p [ty61,ty51,ty26,ty73]])),.s (.one (.ol 1000000)),.s (.one (.d ty68)),sI,sI,.b (.lst 4294967424 (.pair .str .bool) false)],[ty61,ty51,ty26,ty73,ty68,iT,iT,(.list (.pair .str .bool))],[⟨.ret,[sI],[iT]⟩,⟨.exit 0,[],[]⟩],fun h=>Pw.j0D h.1 h.2.1 h.2.2.1 h.2.2.2.1 h.2.2.2.2.1 h.2.2.2.2.2.1 h.2.2.2.2.2.2.1 h.2.2.2.2.2.2.2⟩]
 modes:=[(75,[false,true]),(134,[false]),(135,[false])]
 keep:=[(0,⟨[1,2,7,13,14,15],[],[⟨1000000,4294967424,(.pair .str .bool),[.slot 7],false⟩],[]⟩)]
 keepX:=[(0,.ret,⟨[6],[],[],[]⟩),
  (0,.exit 0,⟨[],[],[],[]⟩)]
 ro:=[false]
theorem jdy:Con.OK Tryz.prog j4R:=
 cOf j0a j03 jec j4R Tryz.func133 (j9 j7H (j9 jcV (j9 jcW trivial))) (j9 (fun h=>by kernel_rfl) trivial)
def j7N:Con:=⟨137,[.v ty79,.v ty37],[ty79,ty37],⟨[.v iT],[]⟩,[iT],fun h=>Pw.j31 h.1 h.2⟩
def jiR:FnD where
 N:=83
 np:=2
 cs:=[j3F,j8D,j7L]
 ds:=[]
 modes:=[(127,[false,false]),(132,[false]),(174,[false,false,false])]
 ro:=[false]
theorem jhZ:Con.OK Tryz.prog j7N:=
 cOf j0a j03 jiR j7N Tryz.func137 (j9 j6W (j9 jfs (j9 je9 trivial))) trivial
def j5E:Con:=⟨84,[.v ty79,.v ty72],[ty79,ty72],⟨[.v iT],[]⟩,[iT],fun h=>Pw.j1Q h.1 h.2⟩
def jfv:FnD where
 N:=40
 np:=2
 cs:=[j4R,j7N]
 ds:=[⟨0,[.s (.one (.bp 128 0)),.s (.one (.d ty39)),sI,sI,.b (.cell [.d ty61,.d ty51,.d ty26,.d ty73] true)],[ty39,iT,iT,ty61,ty51,ty26,ty73],[⟨.ret,[sI],[iT]⟩,⟨.exit 0,[],[]⟩],fun h=>Pw.j0M h.1 h.2.1 h.2.2.1 h.2.2.2.1 h.2.2.2.2.1 h.2.2.2.2.2.1 h.2.2.2.2.2.2⟩]
 modes:=[(133,[false,false,false]),(137,[false,false])]
 keep:=[(0,⟨[2,27,28,29],[128],[],[]⟩)]
 keepX:=[(0,.ret,⟨[4],[],[],[]⟩),
  (0,.exit 0,⟨[],[],[],[]⟩)]
 ro:=[false]
theorem jeT:Con.OK Tryz.prog j5E:=
 cOf j0a j03 jfv j5E Tryz.func84 (j9 jdy (j9 jhZ trivial)) (j9 (fun h=>by kernel_rfl) trivial)
def j8j:Con:=⟨83,[.v ty72,.ip [ty61,ty51,ty26,ty73]],[ty72,ty61,ty51,ty26,ty73],⟨[.v iT],[]⟩,[iT],fun h=>Pw.j53 h.1 h.2.1 h.2.2.1 h.2.2.2.1 h.2.2.2.2⟩
def jkb:FnD where
 N:=7
 np:=2
 cs:=[j5E]
 ds:=[]
 modes:=[(84,[false,false])]
 ro:=[false]
theorem jiS:Con.OK Tryz.prog j8j:=
 cOf j0a j03 jkb j8j Tryz.func83 (j9 jeT trivial) trivial
def j43:Con:=⟨81,[.v ty73,.clo 82 [],.clo 83 [.p [ty61,ty51,ty26,ty73]]],[ty73,ty61,ty51,ty26,ty73],⟨[.v iT],[]⟩,[iT],fun h=>Pw.j1V h.1 h.2.1 h.2.2.1 h.2.2.2.1 h.2.2.2.2⟩
def jc4:FnD where
 N:=34
 np:=3
 cs:=[j4i,j8i,j8j]
 ds:=[⟨0,[.s (.one (.clo 82 [])),.s (.one (.clo 83 [.p [ty61,ty51,ty26,ty73]])),.s (.one (.ol 1000000)),.s (.one (.d ty73)),sI,sI,.b (.lst 4294967424 (.pair .str .bool) false)],[ty61,ty51,ty26,ty73,ty73,iT,iT,(.list (.pair .str .bool))],[⟨.ret,[sI],[iT]⟩,⟨.exit 0,[],[]⟩],fun h=>Pw.j0v h.1 h.2.1 h.2.2.1 h.2.2.2.1 h.2.2.2.2.1 h.2.2.2.2.2.1 h.2.2.2.2.2.2.1 h.2.2.2.2.2.2.2⟩]
 modes:=[(75,[false,true]),(82,[false]),(83,[false])]
 keep:=[(0,⟨[1,2,7,13,14,15],[],[⟨1000000,4294967424,(.pair .str .bool),[.slot 7],false⟩],[]⟩)]
 keepX:=[(0,.ret,⟨[6],[],[],[]⟩),
  (0,.exit 0,⟨[],[],[],[]⟩)]
 ro:=[false]
theorem jby:Con.OK Tryz.prog j43:=
 cOf j0a j03 jc4 j43 Tryz.func81 (j9 j7H (j9 jiQ (j9 jiS trivial))) (j9 (fun h=>by kernel_rfl) trivial)
def jaq:Con:=⟨40,[.v ty79],[ty79],⟨[.v iT],[]⟩,[iT],fun h=>Pw.j5c h⟩
def jnx:FnD where
 N:=72
 np:=1
 cs:=[j4i,j4X,j6v,j42,j43]
 ds:=[⟨0,[.s (.one (.bp 64 0)),.s (.one (.ol 1000000)),.s (.one (.d ty51)),sI,sI,.b (.cell [.d ty61,.d ty51,.d ty26,.d ty73] false),.b (.lst 4294967424 (.pair .str .bool) false)],[ty51,iT,iT,ty61,ty51,ty26,ty73,(.list (.pair .str .bool))],[⟨.ret,[sI],[iT]⟩,⟨.exit 0,[.s (.one (.bp 64 0)),.b (.cell [.d ty61,.d ty51,.d ty26,.d ty73] false)],[ty61,ty51,ty26,ty73]⟩],fun h=>Pw.j1R h.1 h.2.1 h.2.2.1 h.2.2.2.1 h.2.2.2.2.1 h.2.2.2.2.2.1 h.2.2.2.2.2.2.1 h.2.2.2.2.2.2.2⟩]
 modes:=[(72,[false,false,false]),(75,[false,true]),(76,[false,false]),(77,[false,false,false]),(81,[false,false,false])]
 keep:=[(0,⟨[1,4,39,40,41],[64],[⟨1000000,4294967424,(.pair .str .bool),[.slot 4],false⟩],[]⟩)]
 keepX:=[(0,.ret,⟨[2],[],[],[]⟩),
  (0,.exit 0,⟨[1],[64],[],[]⟩)]
 ro:=[false]
theorem jm6:Con.OK Tryz.prog jaq:=
 cOf j0a j03 jnx jaq Tryz.func40 (j9 j7H (j9 je7 (j9 jgg (j9 jbw (j9 jby trivial))))) (j9 (fun h=>by kernel_rfl) trivial)
def jiT:Con:=⟨208,[.v ty60],[ty60],⟨[.v ty25,.v iT],[]⟩,[ty25,iT],fun h=>Pw.jgN h⟩
def jxJ:FnD where
 N:=16
 np:=1
 cs:=[j5O]
 ds:=[]
 modes:=[(170,[false])]
 ro:=[false,false]
theorem jvU:Con.OK Tryz.prog jiT:=
 cOf j0a j03 jxJ jiT Tryz.func208 (j9 jcS trivial) trivial
def jcX:Con:=⟨163,[.v ty61],[ty61],⟨[.own 167 ty29],[]⟩,[ty29],fun h=>Pw.jag h⟩
def jqj:FnD where
 N:=25
 np:=1
 cs:=[jiT]
 ds:=[⟨0,[.s (.one (.ol 1000000)),.s (.one (.d ty61)),sI,sI,.b (.lst 167 ty25 false)],[ty61,iT,iT,ty29],[⟨.exit 0,[.s (.one (.ol 1500100)),.b (.lst 167 ty25 false)],[ty29]⟩],fun h=>Pw.j2o h.1 h.2.1 h.2.2.1 h.2.2.2⟩]
 modes:=[(208,[false])]
 keep:=[(0,⟨[3,8,9,10],[],[⟨1000000,167,ty25,[.slot 3],false⟩],[]⟩)]
 keepX:=[(0,.exit 0,⟨[3],[],[⟨1500100,167,ty25,[.slot 3],false⟩],[]⟩)]
 ro:=[true]
theorem joq:Con.OK Tryz.prog jcX:=
 cOf j0a j03 jqj jcX Tryz.func163 (j9 jvU trivial) (j9 (fun h=>by kernel_rfl) trivial)
def jfw:Con:=⟨113,[.v ty79],[ty79],⟨[.v ty81],[]⟩,[ty81],fun h=>Pw.jcv h⟩
def jtu:FnD where
 N:=8
 np:=1
 cs:=[jcX]
 ds:=[]
 modes:=[(163,[false])]
 ro:=[false]
 dw:=[(1,[[],[],[],[384],[],[128]])]
theorem jrY:Con.OK Tryz.prog jfw:=
 cOf j0a j03 jtu jfw Tryz.func113 (j9 joq trivial) trivial
end Go.Proofs.Pk
