/- Contracts: each given function is its plain function, printed by a program. -/
import Derived.Test.YthpdddnkpjnllaaGreatDCon6
noncomputable section
open Go Go.Lft
set_option linter.unusedVariables false
set_option maxRecDepth 100000
namespace Go.Proofs.Pk
def j5v:Con:=⟨22,[.ref [(.list iT),iT]],[(.list iT),iT],⟨[.v iT],[.ref [(.list iT),iT]]⟩,[iT,(.list iT),iT],fun h=>Pw.j65 h.1 h.2⟩
def jj2:FnD where
 N:=16
 np:=1
 cs:=[j1t,j2H,j4b]
 ds:=[]
 modes:=[(21,[false,false]),(52,[false,false]),(53,[false,false])]
 ro:=[false]
theorem jbX:Con.OK Tryz.prog j5v:=
 cOf j0a j03 jj2 j5v Tryz.func22 (j9 j2B (j9 j4I (j9 j83 trivial))) trivial
def j9G:Con:=⟨39,[.ref [(.list iT),iT],.v ty79],[(.list iT),iT,ty79],⟨[.v ty37],[.ref [(.list iT),iT]]⟩,[ty37,(.list iT),iT],fun h=>Pw.jaF h.1 h.2.1 h.2.2⟩
def jmg:FnD where
 N:=52
 np:=2
 cs:=[j1t,j2H,j4b,j5v]
 ds:=[]
 modes:=[(21,[false,false]),(22,[false]),(52,[false,false]),(53,[false,false])]
 ro:=[false]
 dw:=[(3,[[],[],[],[1344],[0,1344],[],[],[384]]),(8,[[],[],[],[],[],[],[0],[],[],[],[],[384]])]
theorem jlo:Con.OK Tryz.prog j9G:=
 cOf j0a j03 jmg j9G Tryz.func39 (j9 j2B (j9 j4I (j9 j83 (j9 jbX trivial)))) trivial
def j8s:Con:=⟨13,[.ref [(.list iT),iT],.v iT],[(.list iT),iT,iT],⟨[.v ty79],[.ref [(.list iT),iT]]⟩,[ty79,(.list iT),iT],fun h=>Pw.j8M h.1 h.2.1 h.2.2⟩
def jku:FnD where
 N:=69
 np:=2
 cs:=[j1t,jaI,j91,j92,j9G]
 ds:=[⟨0,[.s (.one (.bp 0 0)),.s (.one (.bp 256 0)),.s (.one (.bp 320 0)),sI,.b (.cell [.d (.list iT),.d iT] false),.b (.cell [.nil,.nil,.nil,.nil] false),.b (.cell [.d ty61,.d ty51,.d ty26,.ol 1000000] false),.b (.lst 48 ty72 true)],[iT,(.list iT),iT,ty61,ty51,ty26,ty73],[⟨.exit 0,[.s (.one (.bp 256 0)),.s (.one (.bp 320 0)),.b (.cell [.d (.list iT),.d iT] false),.b (.cell [.nil,.nil,.nil,.nil] false),.b (.cell [.d ty61,.d ty51,.d ty26,.ol 1500100] false),.b (.lst 48 ty72 true)],[(.list iT),iT,ty61,ty51,ty26,ty73]⟩],fun h=>Pw.j36 h.1 h.2.1 h.2.2.1 h.2.2.2.1 h.2.2.2.2.1 h.2.2.2.2.2.1 h.2.2.2.2.2.2⟩,
  ⟨2,[.s (.one (.bp 0 0)),.s (.one (.bp 256 0)),.s (.one (.bp 320 0)),sI,.s (.one (.bp 448 0)),sI,.b (.cell [.d (.list iT),.d iT] false),.b (.cell [.nil,.nil,.nil,.nil] false),.b (.cell [.d ty61,.d ty51,.d ty26,.ol 1002000] false),.b (.cell [.d .str,.ol 1002001,.nil] false),.b (.lst 48 ty72 true),.b (.lst 53 ty67 false)],[iT,iT,(.list iT),iT,ty61,ty51,ty26,.str,ty73,ty68],[⟨.exit 2,[.s (.one (.bp 0 0)),.s (.one (.bp 256 0)),.s (.one (.bp 320 0)),sI,.s (.one (.bp 448 0)),.b (.cell [.d (.list iT),.d iT] false),.b (.cell [.nil,.nil,.nil,.nil] false),.b (.cell [.d ty61,.d ty51,.d ty26,.ol 1502300] false),.b (.cell [.d .str,.ol 1502301,.nil] false),.b (.lst 48 ty72 true),.b (.lst 53 ty67 false)],[iT,(.list iT),iT,ty61,ty51,ty26,.str,ty73,ty68]⟩],fun h=>Pw.j34 h.1 h.2.1 h.2.2.1 h.2.2.2.1 h.2.2.2.2.1 h.2.2.2.2.2.1 h.2.2.2.2.2.2.1 h.2.2.2.2.2.2.2.1 h.2.2.2.2.2.2.2.2.1 h.2.2.2.2.2.2.2.2.2⟩,
  ⟨4,[.s (.one (.bp 0 0)),.s (.one (.bp 256 0)),.s (.one (.bp 320 0)),sI,.s (.one (.bp 448 0)),sI,.b (.cell [.d (.list iT),.d iT] false),.b (.cell [.nil,.nil,.nil,.nil] false),.b (.cell [.d ty61,.d ty51,.d ty26,.ol 1004000] false),.b (.cell [.d .str,.ol 1004001,.ol 1004002] false),.b (.lst 48 ty72 true),.b (.lst 53 ty67 false),.b (.lst 73 ty37 false)],[iT,iT,(.list iT),iT,ty61,ty51,ty26,.str,ty73,ty68,ty39],[⟨.exit 4,[.s (.one (.bp 0 0)),.s (.one (.bp 256 0)),.s (.one (.bp 320 0)),sI,.s (.one (.bp 448 0)),.b (.cell [.d (.list iT),.d iT] false),.b (.cell [.nil,.nil,.nil,.nil] false),.b (.cell [.d ty61,.d ty51,.d ty26,.ol 1504500] false),.b (.cell [.d .str,.ol 1504501,.ol 1504502] false),.b (.lst 48 ty72 true),.b (.lst 53 ty67 false),.b (.lst 73 ty37 false)],[iT,(.list iT),iT,ty61,ty51,ty26,.str,ty73,ty68,ty39]⟩],fun h=>Pw.j35 h.1 h.2.1 h.2.2.1 h.2.2.2.1 h.2.2.2.2.1 h.2.2.2.2.2.1 h.2.2.2.2.2.2.1 h.2.2.2.2.2.2.2.1 h.2.2.2.2.2.2.2.2.1 h.2.2.2.2.2.2.2.2.2.1 h.2.2.2.2.2.2.2.2.2.2⟩]
 modes:=[(21,[false,false]),(36,[false]),(37,[false,false,false]),(38,[]),(39,[false,false])]
 keep:=[(0,⟨[0,4,5,6],[0,256,320],[⟨1000000,48,ty72,[.cell 320 3],true⟩],[]⟩),
  (2,⟨[0,4,5,6,7,8],[0,256,320,448],[⟨1002000,48,ty72,[.cell 320 3],false⟩,⟨1002001,53,ty67,[.cell 448 1],false⟩],[]⟩),
  (4,⟨[0,4,5,6,7,9],[0,256,320,448],[⟨1004000,48,ty72,[.cell 320 3],false⟩,⟨1004001,53,ty67,[.cell 448 1],false⟩,⟨1004002,73,ty37,[.cell 448 2],false⟩],[]⟩)]
 keepX:=[(0,.exit 0,⟨[4,5],[0,256,320],[⟨1500100,48,ty72,[.cell 320 3],false⟩],[]⟩),
  (2,.exit 2,⟨[0,4,5,6,7],[0,256,320,448],[⟨1502300,48,ty72,[.cell 320 3],false⟩,⟨1502301,53,ty67,[.cell 448 1],false⟩],[]⟩),
  (4,.exit 4,⟨[0,4,5,6,7],[0,256,320,448],[⟨1504500,48,ty72,[.cell 320 3],false⟩,⟨1504501,53,ty67,[.cell 448 1],false⟩,⟨1504502,73,ty37,[.cell 448 2],false⟩],[]⟩)]
 ro:=[false]
 dw:=[(9,[[],[],[],[],[2432],[],[],[],[],[],[0,1002000],[2880],[2944,1002000,1002001],[],[448]]),(13,[[],[],[],[],[0,1004000],[3776],[3840,1004001,1004002],[],[448]])]
theorem jj3:Con.OK Tryz.prog j8s:=
 cOf j0a j03 jku j8s Tryz.func13 (j9 j2B (j9 jkr (j9 jks (j9 jkt (j9 jlo trivial))))) (j9 (fun h=>by kernel_rfl) (j9 (fun h=>by kernel_rfl) (j9 (fun h=>by kernel_rfl) trivial)))
def jhg:Con:=⟨16,[.v iT,.v iT],[iT,iT],⟨[.v iT],[]⟩,[iT],fun h=>Pw.jmD h.1 h.2⟩
def jvV:FnD where
 N:=12
 np:=2
 cs:=[]
 ds:=[]
 ro:=[false]
theorem jty:Con.OK Tryz.prog jhg:=
 cOf j0a j03 jvV jhg Tryz.func16 trivial trivial
def jfB:Con:=⟨67,[.v ty12],[ty12],⟨[.v .bool],[]⟩,[.bool],fun h=>Pw.jjQ h⟩
def jtz:FnD where
 N:=58
 np:=1
 cs:=[]
 ds:=[⟨0,[.s (.one (.d ty12)),sI],[ty12,iT],[⟨.ret,[.s (.one (.d .bool))],[.bool]⟩,⟨.exit 0,[],[]⟩],fun h=>Pw.j66 h.1 h.2⟩]
 keep:=[(0,⟨[0,3],[],[],[]⟩)]
 keepX:=[(0,.ret,⟨[2],[],[],[]⟩),
  (0,.exit 0,⟨[],[],[],[]⟩)]
 ro:=[false]
theorem js8:Con.OK Tryz.prog jfB:=
 cOf j0a j03 jtz jfB Tryz.func67 trivial (j9 (fun h=>by kernel_rfl) trivial)
def jj4:Con:=⟨68,[.v ty12,.v iT],[ty12,iT],⟨[.v .bool],[]⟩,[.bool],fun h=>Pw.jtj h.1 h.2⟩
def jxL:FnD where
 N:=40
 np:=2
 cs:=[]
 ds:=[⟨0,[.s (.one (.d ty12)),sI,sI,sI],[ty12,iT,iT,iT],[⟨.exit 0,[.s (.one (.d ty12)),sI,sI],[ty12,iT,iT]⟩],fun h=>Pw.j7z h.1 h.2.1 h.2.2.1 h.2.2.2⟩]
 keep:=[(0,⟨[0,1,5,6],[],[],[]⟩)]
 keepX:=[(0,.exit 0,⟨[0,1,5],[],[],[]⟩)]
 ro:=[false]
theorem jvW:Con.OK Tryz.prog jj4:=
 cOf j0a j03 jxL jj4 Tryz.func68 trivial (j9 (fun h=>by kernel_rfl) trivial)
def jj5:Con:=⟨32,[.v ty12,.v iT],[ty12,iT],⟨[.v .bool],[]⟩,[.bool],fun h=>Pw.jpZ h.1 h.2⟩
def jxM:FnD where
 N:=12
 np:=2
 cs:=[jfB,jj4]
 ds:=[]
 modes:=[(67,[false]),(68,[false,false])]
 ro:=[false]
theorem jvX:Con.OK Tryz.prog jj5:=
 cOf j0a j03 jxM jj5 Tryz.func32 (j9 js8 (j9 jvW trivial)) trivial
def jfC:Con:=⟨224,[.v (.int .u8)],[(.int .u8)],⟨[.v .bool],[]⟩,[.bool],fun h=>Pw.jnk h⟩
def jtA:FnD where
 N:=9
 np:=1
 cs:=[]
 ds:=[]
 ro:=[false]
theorem js9:Con.OK Tryz.prog jfC:=
 cOf j0a j03 jtA jfC Tryz.func224 trivial trivial
def jhh:Con:=⟨178,[.v .str],[.str],⟨[.v .bool],[]⟩,[.bool],fun h=>Pw.jmE h⟩
def jvY:FnD where
 N:=57
 np:=1
 cs:=[jfC]
 ds:=[⟨0,[.s (.one (.d .str)),sI],[.str,iT],[⟨.ret,[.s (.one (.d .bool))],[.bool]⟩,⟨.exit 0,[],[]⟩],fun h=>Pw.j6K h.1 h.2⟩]
 modes:=[(224,[false])]
 keep:=[(0,⟨[0,3],[],[],[]⟩)]
 keepX:=[(0,.ret,⟨[2],[],[],[]⟩),
  (0,.exit 0,⟨[],[],[],[]⟩)]
 ro:=[false]
theorem jtB:Con.OK Tryz.prog jhh:=
 cOf j0a j03 jvY jhh Tryz.func178 (j9 js9 trivial) (j9 (fun h=>by kernel_rfl) trivial)
def j9e:Con:=⟨138,[.v (.list .str),.v iT],[(.list .str),iT],⟨[.v iT],[]⟩,[iT],fun h=>Pw.jc1 h.1 h.2⟩
def jvZ:FnD where
 N:=26
 np:=2
 cs:=[jhh]
 ds:=[⟨0,[.s (.one (.d (.list .str))),sI,sI],[(.list .str),iT,iT],[⟨.ret,[sI],[iT]⟩,⟨.exit 0,[],[]⟩],fun h=>Pw.j6L h.1 h.2.1 h.2.2⟩]
 modes:=[(178,[false])]
 keep:=[(0,⟨[0,1,5],[],[],[]⟩)]
 keepX:=[(0,.ret,⟨[4],[],[],[]⟩),
  (0,.exit 0,⟨[],[],[],[]⟩)]
 ro:=[false]
theorem jfD:Con.OK Tryz.prog j9e:=
 cOf j0a j03 jvZ j9e Tryz.func138 (j9 jtB trivial) (j9 (fun h=>by kernel_rfl) trivial)
def jav:Con:=⟨93,[.v iT,.v iT,.v iT],[iT,iT,iT],⟨[.v .bool],[]⟩,[.bool],fun h=>Pw.ja7 h.1 h.2.1 h.2.2⟩
def jzE:FnD where
 N:=15
 np:=3
 cs:=[]
 ds:=[]
 ro:=[false]
theorem jhi:Con.OK Tryz.prog jav:=
 cOf j0a j03 jzE jav Tryz.func93 trivial trivial
def jfE:Con:=⟨147,[.v ty50],[ty50],⟨[.v .bool],[]⟩,[.bool],fun h=>Pw.jgS h⟩
def jtC:FnD where
 N:=38
 np:=1
 cs:=[jav]
 ds:=[]
 modes:=[(93,[false,false,false])]
 ro:=[false]
theorem jsa:Con.OK Tryz.prog jfE:=
 cOf j0a j03 jtC jfE Tryz.func147 (j9 jhi trivial) trivial
def jhj:Con:=⟨251,[.v iT],[iT],⟨[.v .bool],[]⟩,[.bool],fun h=>Pw.j21 h⟩
def jw0:FnD where
 N:=16
 np:=1
 cs:=[]
 ds:=[]
 ro:=[false]
theorem jtD:Con.OK Tryz.prog jhj:=
 cOf j0a j03 jw0 jhj Tryz.func251 trivial trivial
def jbd:Con:=⟨227,[.v iT,.v iT],[iT,iT],⟨[.v iT],[]⟩,[iT],fun h=>Pw.jfj h.1 h.2⟩
def jw1:FnD where
 N:=23
 np:=2
 cs:=[jhj]
 ds:=[]
 modes:=[(251,[false])]
 ro:=[false]
theorem jj6:Con.OK Tryz.prog jbd:=
 cOf j0a j03 jw1 jbd Tryz.func227 (j9 jtD trivial) trivial
def jfF:Con:=⟨250,[.v ty20],[ty20],⟨[.v .bool],[]⟩,[.bool],fun h=>Pw.jjS h⟩
def jtE:FnD where
 N:=36
 np:=1
 cs:=[jbd]
 ds:=[]
 modes:=[(227,[false,false])]
 ro:=[false]
theorem jsb:Con.OK Tryz.prog jfF:=
 cOf j0a j03 jtE jfF Tryz.func250 (j9 jj6 trivial) trivial
def jdV:Con:=⟨179,[.v iT],[iT],⟨[.v iT],[]⟩,[iT],fun h=>Pw.jjT h⟩
def jw2:FnD where
 N:=18
 np:=1
 cs:=[]
 ds:=[]
 ro:=[false]
theorem jnL:Con.OK Tryz.prog jdV:=
 cOf j0a j03 jw2 jdV Tryz.func179 trivial trivial
def jj7:Con:=⟨225,[.v ty20],[ty20],⟨[.v iT,.v iT],[]⟩,[iT,iT],fun h=>Pw.jq0 h⟩
def jxN:FnD where
 N:=29
 np:=1
 cs:=[jbd,jfF,jdV]
 ds:=[⟨0,[.s (.one (.bp 64 0)),sI,sI,.b (.cell [.d iT,.d iT,.d iT] false)],[iT,iT,iT,iT,iT],[⟨.exit 0,[.s (.one (.bp 64 0)),sI,.b (.cell [.d iT,.d iT,.d iT] false)],[iT,iT,iT,iT]⟩],fun h=>Pw.j7A h.1 h.2.1 h.2.2.1 h.2.2.2.1 h.2.2.2.2⟩]
 modes:=[(179,[false]),(227,[false,false]),(250,[false])]
 keep:=[(0,⟨[1,4,5],[64],[],[]⟩)]
 keepX:=[(0,.exit 0,⟨[1,4],[64],[],[]⟩)]
 ro:=[false,false]
theorem r01_Day_ok:Con.OK Tryz.prog jj7:=
 cOf j0a j03 jxN jj7 Tryz.func225 (j9 jj6 (j9 jsb (j9 jnL trivial))) (j9 (fun h=>by kernel_rfl) trivial)
def j9H:Con:=⟨226,[.v iT],[iT],⟨[.v iT],[]⟩,[iT],fun h=>Pw.jfk h⟩
def jqt:FnD where
 N:=7
 np:=1
 cs:=[]
 ds:=[]
 ro:=[false]
theorem jin:Con.OK Tryz.prog j9H:=
 cOf j0a j03 jqt j9H Tryz.func226 trivial trivial
def jj8:Con:=⟨180,[.v iT,.v iT,.v iT,.v iT],[iT,iT,iT,iT],⟨[.v iT,.v iT],[]⟩,[iT,iT],fun h=>Pw.jq1 h.1 h.2.1 h.2.2.1 h.2.2.2⟩
def jxO:FnD where
 N:=63
 np:=4
 cs:=[jbd,jj7,j9H]
 ds:=[⟨0,[sI,sI,sI,sI,sI,sI],[iT,iT,iT,iT,iT,iT],[⟨.exit 0,[sI,sI,sI,sI,sI],[iT,iT,iT,iT,iT]⟩],fun h=>Pw.j7B h.1 h.2.1 h.2.2.1 h.2.2.2.1 h.2.2.2.2.1 h.2.2.2.2.2⟩,
  ⟨2,[sI,sI,sI,sI],[iT,iT,iT,iT],[⟨.exit 2,[sI],[iT]⟩],fun h=>Pw.j7C h.1 h.2.1 h.2.2.1 h.2.2.2⟩]
 modes:=[(225,[false]),(226,[false]),(227,[false,false])]
 keep:=[(0,⟨[0,1,2,3,10,12],[],[],[]⟩),
  (2,⟨[0,1,10,12],[],[],[]⟩)]
 keepX:=[(0,.exit 0,⟨[0,1,2,10,12],[],[],[]⟩),
  (2,.exit 2,⟨[12],[],[],[]⟩)]
 ro:=[false,false]
theorem r01_Nth_ok:Con.OK Tryz.prog jj8:=
 cOf j0a j03 jxO jj8 Tryz.func180 (j9 jj6 (j9 r01_Day_ok (j9 jin trivial))) (j9 (fun h=>by kernel_rfl) (j9 (fun h=>by kernel_rfl) trivial))
def j93:Con:=⟨148,[.v ty53],[ty53],⟨[.own 189 ty12],[]⟩,[ty12],fun h=>Pw.j9s h⟩
def jlp:FnD where
 N:=98
 np:=1
 cs:=[jj8]
 ds:=[⟨0,[.s (.one (.d ty53)),.s (.one (.ol 1000000)),sI,.b (.lst 189 ty8 false)],[ty53,iT,ty12],[⟨.exit 0,[.s (.one (.ol 1500100)),.b (.lst 189 ty8 false)],[ty12]⟩],fun h=>Pw.j3n h.1 h.2.1 h.2.2⟩,
  ⟨2,[.s (.one (.d ty53)),.s (.one (.ol 1002000)),sI,sI,.b (.lst 189 ty8 false)],[ty53,iT,iT,ty12],[⟨.exit 2,[.s (.one (.d ty53)),.s (.one (.ol 1502300)),sI,.b (.lst 189 ty8 false)],[ty53,iT,ty12]⟩],fun h=>Pw.j3m h.1 h.2.1 h.2.2.1 h.2.2.2⟩,
  ⟨4,[.s (.one (.d ty53)),.s (.one (.ol 1004000)),sI,sI,.s (.one (.bp 512 0)),sI,.b (.cell [.d iT,.d iT] false),.b (.lst 189 ty8 false)],[ty53,iT,iT,iT,iT,iT,ty12],[⟨.exit 4,[.s (.one (.d ty53)),.s (.one (.ol 1504500)),sI,sI,.s (.one (.bp 512 0)),sI,.b (.cell [.d iT,.d iT] false),.b (.lst 189 ty8 false)],[ty53,iT,iT,iT,iT,iT,ty12]⟩],fun h=>Pw.j3l h.1 h.2.1 h.2.2.1 h.2.2.2.1 h.2.2.2.2.1 h.2.2.2.2.2.1 h.2.2.2.2.2.2⟩]
 modes:=[(180,[false,false,false,false])]
 keep:=[(0,⟨[0,3,4],[],[⟨1000000,189,ty8,[.slot 3],false⟩],[]⟩),
  (2,⟨[0,3,4,5],[],[⟨1002000,189,ty8,[.slot 3],false⟩],[]⟩),
  (4,⟨[0,3,4,5,8,9],[512],[⟨1004000,189,ty8,[.slot 3],false⟩],[]⟩)]
 keepX:=[(0,.exit 0,⟨[3],[],[⟨1500100,189,ty8,[.slot 3],false⟩],[]⟩),
  (2,.exit 2,⟨[0,3,4],[],[⟨1502300,189,ty8,[.slot 3],false⟩],[]⟩),
  (4,.exit 4,⟨[0,3,4,5,8,9],[512],[⟨1504500,189,ty8,[.slot 3],false⟩],[]⟩)]
 ro:=[true]
 dw:=[(9,[[],[],[],[],[],[],[],[],[],[],[],[],[],[],[512],[512]]),(14,[[],[],[],[],[],[],[],[5376]])]
theorem jkv:Con.OK Tryz.prog j93:=
 cOf j0a j03 jlp j93 Tryz.func148 (j9 r01_Nth_ok trivial) (j9 (fun h=>by kernel_rfl) (j9 (fun h=>by kernel_rfl) (j9 (fun h=>by kernel_rfl) trivial)))
end Go.Proofs.Pk
