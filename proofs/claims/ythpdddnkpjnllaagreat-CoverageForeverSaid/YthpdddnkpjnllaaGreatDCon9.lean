/- Contracts: each given function is its plain function, printed by a program. -/
import Derived.Test.YthpdddnkpjnllaaGreatDCon8
noncomputable section
open Go Go.Lft
set_option linter.unusedVariables false
set_option maxRecDepth 100000
namespace Go.Proofs.Pk
def jfU:Con:=⟨182,[.v ty60,.v ty67,.v iT],[ty60,ty67,iT],⟨[.v iT],[]⟩,[iT],fun h=>Pw.jh7 h.1 h.2.1 h.2.2⟩
def jtI:FnD where
 N:=81
 np:=3
 cs:=[jci,j7Y,jbS]
 ds:=[⟨0,[sI,.s (.one (.bp 192 0)),.s (.one (.bp 256 0)),sI,.b (.cell [.d .str,.d iT,.d ty53] false),.b (.cell [.d .str,.d iT,.d iT,.d iT,.d iT,.d iT,.d (.list iT),.d ty12,.d iT,.d iT] false)],[iT,iT,.str,iT,ty53,.str,iT,iT,iT,iT,iT,(.list iT),ty12,iT,iT],[⟨.exit 0,[sI],[iT]⟩],fun h=>Pw.j6i h.1 h.2.1 h.2.2.1 h.2.2.2.1 h.2.2.2.2.1 h.2.2.2.2.2.1 h.2.2.2.2.2.2.1 h.2.2.2.2.2.2.2.1 h.2.2.2.2.2.2.2.2.1 h.2.2.2.2.2.2.2.2.2.1 h.2.2.2.2.2.2.2.2.2.2.1 h.2.2.2.2.2.2.2.2.2.2.2.1 h.2.2.2.2.2.2.2.2.2.2.2.2.1 h.2.2.2.2.2.2.2.2.2.2.2.2.2.1 h.2.2.2.2.2.2.2.2.2.2.2.2.2.2⟩]
 modes:=[(48,[false,false]),(92,[false,false,false]),(154,[false,false])]
 keep:=[(0,⟨[2,3,4,7],[192,256],[],[]⟩)]
 keepX:=[(0,.exit 0,⟨[7],[],[],[]⟩)]
 ro:=[false]
theorem jsi:Con.OK Tryz.prog jfU:=
 cOf j0a j03 jtI jfU Tryz.func182 (j9 jlR (j9 jep (j9 jnG trivial))) (j9 (fun h=>by kernel_rfl) trivial)
def jfV:Con:=⟨152,[.v ty60,.v ty67,.v iT],[ty60,ty67,iT],⟨[.v iT,.v iT],[]⟩,[iT,iT],fun h=>Pw.jh8 h.1 h.2.1 h.2.2⟩
def jtJ:FnD where
 N:=22
 np:=3
 cs:=[jfR,jfU]
 ds:=[]
 modes:=[(91,[false,false]),(182,[false,false,false])]
 ro:=[false,false]
theorem jsj:Con.OK Tryz.prog jfV:=
 cOf j0a j03 jtJ jfV Tryz.func152 (j9 jse (j9 jsi trivial)) trivial
def jeq:Con:=⟨228,[.v ty8],[ty8],⟨[.v iT],[]⟩,[iT],fun h=>Pw.jhY h⟩
def jsk:FnD where
 N:=10
 np:=1
 cs:=[j9R]
 ds:=[]
 modes:=[(226,[false])]
 ro:=[false]
theorem jqu:Con.OK Tryz.prog jeq:=
 cOf j0a j03 jsk jeq Tryz.func228 (j9 jiu trivial) trivial
def jer:Con:=⟨183,[.v ty60,.v iT],[ty60,iT],⟨[.v iT,.v iT],[]⟩,[iT,iT],fun h=>Pw.jct h.1 h.2⟩
def jsl:FnD where
 N:=19
 np:=2
 cs:=[j7Y,jeq]
 ds:=[]
 modes:=[(154,[false,false]),(228,[false])]
 ro:=[false,false]
theorem jqv:Con.OK Tryz.prog jer:=
 cOf j0a j03 jsl jer Tryz.func183 (j9 jep (j9 jqu trivial)) trivial
def jes:Con:=⟨184,[.v ty12,.v iT],[ty12,iT],⟨[.v .bool],[]⟩,[.bool],fun h=>Pw.jhZ h.1 h.2⟩
def jsm:FnD where
 N:=28
 np:=2
 cs:=[]
 ds:=[⟨0,[.s (.one (.d ty12)),sI,sI],[ty12,iT,iT],[⟨.ret,[.s (.one (.d .bool))],[.bool]⟩,⟨.exit 0,[],[]⟩],fun h=>Pw.j5B h.1 h.2.1 h.2.2⟩]
 keep:=[(0,⟨[0,1,5],[],[],[]⟩)]
 keepX:=[(0,.ret,⟨[4],[],[],[]⟩),
  (0,.exit 0,⟨[],[],[],[]⟩)]
 ro:=[false]
theorem jqw:Con.OK Tryz.prog jes:=
 cOf j0a j03 jsm jes Tryz.func184 trivial (j9 (fun h=>by kernel_rfl) trivial)
def jlr:Con:=⟨153,[.v ty60,.v ty12,.v iT],[ty60,ty12,iT],⟨[.v .bool],[]⟩,[.bool],fun h=>Pw.jrG h.1 h.2.1 h.2.2⟩
def jzz:FnD where
 N:=27
 np:=3
 cs:=[j9T,jer,jes]
 ds:=[]
 modes:=[(142,[false]),(183,[false,false]),(184,[false,false])]
 ro:=[false]
theorem jxF:Con.OK Tryz.prog jlr:=
 cOf j0a j03 jzz jlr Tryz.func153 (j9 jhq (j9 jqv (j9 jqw trivial))) trivial
def jhs:Con:=⟨100,[.v ty79,.v ty67,.v iT],[ty79,ty67,iT],⟨[.v iT,.v .bool],[]⟩,[iT,.bool],fun h=>Pw.jk3 h.1 h.2.1 h.2.2⟩
def jvV:FnD where
 N:=94
 np:=3
 cs:=[j7Y,jfV,jlr]
 ds:=[⟨0,[.s (.one (.bp 256 0)),sI,.s (.one (.bp 704 0)),.s (.one (.bp 768 0)),.s (.one (.d .bool)),sI,.b (.cell [.d .str,.d iT,.d iT,.d iT,.d iT,.d iT,.d (.list iT),.d ty12,.d iT,.d iT] false),.b (.cell [.d .str,.d iT,.d (.list iT)] false),.b (.cell [.d iT,.d iT] false)],[iT,.bool,iT,.str,iT,iT,iT,iT,iT,(.list iT),ty12,iT,iT,.str,iT,(.list iT),iT,iT],[⟨.exit 0,[.s (.one (.bp 256 0)),sI,.s (.one (.d .bool)),.b (.cell [.d .str,.d iT,.d iT,.d iT,.d iT,.d iT,.d (.list iT),.d ty12,.d iT,.d iT] false)],[iT,.bool,.str,iT,iT,iT,iT,iT,(.list iT),ty12,iT,iT]⟩],fun h=>Pw.j6Z h.1 h.2.1 h.2.2.1 h.2.2.2.1 h.2.2.2.2.1 h.2.2.2.2.2.1 h.2.2.2.2.2.2.1 h.2.2.2.2.2.2.2.1 h.2.2.2.2.2.2.2.2.1 h.2.2.2.2.2.2.2.2.2.1 h.2.2.2.2.2.2.2.2.2.2.1 h.2.2.2.2.2.2.2.2.2.2.2.1 h.2.2.2.2.2.2.2.2.2.2.2.2.1 h.2.2.2.2.2.2.2.2.2.2.2.2.2.1 h.2.2.2.2.2.2.2.2.2.2.2.2.2.2.1 h.2.2.2.2.2.2.2.2.2.2.2.2.2.2.2.1 h.2.2.2.2.2.2.2.2.2.2.2.2.2.2.2.2.1 h.2.2.2.2.2.2.2.2.2.2.2.2.2.2.2.2.2⟩]
 modes:=[(152,[false,false,false]),(153,[false,false,false]),(154,[false,false])]
 keep:=[(0,⟨[4,9,11,12,14,15],[256,704,768],[],[]⟩)]
 keepX:=[(0,.exit 0,⟨[4,9,14],[256],[],[]⟩)]
 ro:=[false,false]
theorem jtK:Con.OK Tryz.prog jhs:=
 cOf j0a j03 jvV jhs Tryz.func100 (j9 jep (j9 jsj (j9 jxF trivial))) (j9 (fun h=>by kernel_rfl) trivial)
def jjc:Con:=⟨55,[.v ty79,.v ty67,.v iT],[ty79,ty67,iT],⟨[.v iT],[]⟩,[iT],fun h=>Pw.jnh h.1 h.2.1 h.2.2⟩
def jxG:FnD where
 N:=27
 np:=3
 cs:=[jhs]
 ds:=[]
 modes:=[(100,[false,false,false])]
 ro:=[false]
theorem jvW:Con.OK Tryz.prog jjc:=
 cOf j0a j03 jxG jjc Tryz.func55 (j9 jtK trivial) trivial
def jht:Con:=⟨181,[.v ty72,.v iT,.v iT],[ty72,iT,iT],⟨[.v .bool],[]⟩,[.bool],fun h=>Pw.jmz h.1 h.2.1 h.2.2⟩
def jvX:FnD where
 N:=42
 np:=3
 cs:=[]
 ds:=[⟨0,[sI,sI,.s (.one (.bp 192 0)),sI,.b (.cell [.d .str,.d ty68,.d ty39] false)],[iT,iT,iT,.str,ty68,ty39],[⟨.ret,[.s (.one (.d .bool))],[.bool]⟩,⟨.exit 0,[],[]⟩],fun h=>Pw.j70 h.1 h.2.1 h.2.2.1 h.2.2.2.1 h.2.2.2.2.1 h.2.2.2.2.2⟩]
 keep:=[(0,⟨[1,2,3,7],[192],[],[]⟩)]
 keepX:=[(0,.ret,⟨[6],[],[],[]⟩),
  (0,.exit 0,⟨[],[],[],[]⟩)]
 ro:=[false]
theorem jtL:Con.OK Tryz.prog jht:=
 cOf j0a j03 jvX jht Tryz.func181 trivial (j9 (fun h=>by kernel_rfl) trivial)
def jjd:Con:=⟨149,[.v ty79,.v iT,.v iT],[ty79,iT,iT],⟨[.v iT,.v iT],[]⟩,[iT,iT],fun h=>Pw.jpZ h.1 h.2.1 h.2.2⟩
def jxH:FnD where
 N:=43
 np:=3
 cs:=[jjc,jht]
 ds:=[⟨0,[sI,.s (.one (.bp 192 0)),.s (.one (.bp 512 0)),sI,.b (.cell [.d ty61,.d ty51,.d ty26,.d ty73] false),.b (.cell [.d .str,.d ty68,.d ty39] false)],[iT,iT,ty61,ty51,ty26,ty73,.str,ty68,ty39],[⟨.ret,[sI,sI],[iT,iT]⟩,⟨.exit 0,[],[]⟩],fun h=>Pw.j7K h.1 h.2.1 h.2.2.1 h.2.2.2.1 h.2.2.2.2.1 h.2.2.2.2.2.1 h.2.2.2.2.2.2.1 h.2.2.2.2.2.2.2.1 h.2.2.2.2.2.2.2.2⟩]
 modes:=[(55,[false,false,false]),(181,[false,false,false])]
 keep:=[(0,⟨[2,3,8,9],[192,512],[],[]⟩)]
 keepX:=[(0,.ret,⟨[6,7],[],[],[]⟩),
  (0,.exit 0,⟨[],[],[],[]⟩)]
 ro:=[false,false]
theorem jvY:Con.OK Tryz.prog jjd:=
 cOf j0a j03 jxH jjd Tryz.func149 (j9 jvW (j9 jtL trivial)) (j9 (fun h=>by kernel_rfl) trivial)
def jhu:Con:=⟨150,[.v ty39,.v iT,.v iT],[ty39,iT,iT],⟨[.v iT],[]⟩,[iT],fun h=>Pw.jq0 h.1 h.2.1 h.2.2⟩
def jvZ:FnD where
 N:=61
 np:=3
 cs:=[]
 ds:=[⟨0,[.s (.one (.d ty39)),sI,sI,sI],[ty39,iT,iT,iT],[⟨.exit 0,[sI],[iT]⟩],fun h=>Pw.j71 h.1 h.2.1 h.2.2.1 h.2.2.2⟩]
 keep:=[(0,⟨[0,1,2,7],[],[],[]⟩)]
 keepX:=[(0,.exit 0,⟨[1],[],[],[]⟩)]
 ro:=[false]
theorem jtM:Con.OK Tryz.prog jhu:=
 cOf j0a j03 jvZ jhu Tryz.func150 trivial (j9 (fun h=>by kernel_rfl) trivial)
def jje:Con:=⟨96,[.v ty79,.v iT,.v iT],[ty79,iT,iT],⟨[.v iT],[]⟩,[iT],fun h=>Pw.jte h.1 h.2.1 h.2.2⟩
def jxI:FnD where
 N:=25
 np:=3
 cs:=[jjd,jhu]
 ds:=[]
 modes:=[(149,[false,false,false]),(150,[false,false,false])]
 ro:=[false]
theorem jw0:Con.OK Tryz.prog jje:=
 cOf j0a j03 jxI jje Tryz.func96 (j9 jvY (j9 jtM trivial)) trivial
def jjf:Con:=⟨49,[.v ty79,.v iT,.v iT],[ty79,iT,iT],⟨[.v iT],[]⟩,[iT],fun h=>Pw.jtf h.1 h.2.1 h.2.2⟩
def jxJ:FnD where
 N:=16
 np:=3
 cs:=[jlq,jje]
 ds:=[]
 modes:=[(95,[false,false,false]),(96,[false,false,false])]
 ro:=[false]
theorem jw1:Con.OK Tryz.prog jjf:=
 cOf j0a j03 jxJ jjf Tryz.func49 (j9 jxE (j9 jw0 trivial)) trivial
def jjg:Con:=⟨17,[.v ty79,.v iT,.v iT],[ty79,iT,iT],⟨[.v iT],[]⟩,[iT],fun h=>Pw.jft h.1 h.2.1 h.2.2⟩
def jxK:FnD where
 N:=11
 np:=3
 cs:=[jjf]
 ds:=[]
 modes:=[(49,[false,false,false])]
 ro:=[false]
theorem jw2:Con.OK Tryz.prog jjg:=
 cOf j0a j03 jxK jjg Tryz.func17 (j9 jw1 trivial) trivial
def j8T:Con:=⟨7,[.v (.list iT),.v iT,.v iT],[(.list iT),iT,iT],⟨[.v .bool],[]⟩,[.bool],fun h=>Pw.j7N h.1 h.2.1 h.2.2⟩
def jfW:FnD where
 N:=126
 np:=3
 cs:=[je6,j62,j63,jem,jfH,j5F,j8B,jhl,jjg]
 ds:=[⟨0,[.s (.one (.bp 512 0)),.s (.av 6 iT),sI,.b (.cell [.d ty61,.d ty51,.d ty26,.d ty73] false)],[(.list iT),iT,ty61,ty51,ty26,ty73],[⟨.ret,[.s (.one (.d .bool))],[.bool]⟩,⟨.exit 0,[],[]⟩],fun h=>Pw.j27 h.1 h.2.1 h.2.2.1 h.2.2.2.1 h.2.2.2.2.1 h.2.2.2.2.2⟩,
  ⟨2,[.s (.one (.bp 512 0)),sI,sI,.s (.av 4 iT),sI,.b (.cell [.d ty61,.d ty51,.d ty26,.d ty73] false)],[iT,iT,(.list iT),iT,ty61,ty51,ty26,ty73],[⟨.ret,[.s (.one (.d .bool))],[.bool]⟩,⟨.exit 2,[],[]⟩],fun h=>Pw.j28 h.1 h.2.1 h.2.2.1 h.2.2.2.1 h.2.2.2.2.1 h.2.2.2.2.2.1 h.2.2.2.2.2.2.1 h.2.2.2.2.2.2.2⟩]
 modes:=[(10,[false]),(12,[false]),(13,[false,false]),(16,[false,false]),(17,[false,false,false]),(22,[false]),(28,[]),(29,[false,false]),(30,[false,false,false])]
 keep:=[(0,⟨[8,64,65],[512],[],[]⟩),
  (2,⟨[8,9,10,106,107],[512],[],[]⟩)]
 keepX:=[(0,.ret,⟨[6],[],[],[]⟩),
  (0,.exit 0,⟨[],[],[],[]⟩),
  (2,.ret,⟨[6],[],[],[]⟩),
  (2,.exit 2,⟨[],[],[],[]⟩)]
 ro:=[false]
theorem law15_CoverageForever_ok:Con.OK Tryz.prog j8T:=
 cOf j0a j03 jfW j8T Tryz.func7 (j9 jq1 (j9 jdg (j9 jdh (j9 jqo (j9 js3 (j9 jc5 (j9 jj8 (j9 jtr (j9 jw2 trivial))))))))) (j9 (fun h=>by kernel_rfl) (j9 (fun h=>by kernel_rfl) trivial))
def jaL:Con:=⟨188,[.v ty8],[ty8],⟨[.v iT],[]⟩,[iT],fun h=>Pw.j3A h⟩
def jnH:FnD where
 N:=10
 np:=1
 cs:=[j89]
 ds:=[]
 modes:=[(230,[false])]
 ro:=[false]
theorem jmd:Con.OK Tryz.prog jaL:=
 cOf j0a j03 jnH jaL Tryz.func188 (j9 jgh trivial) trivial
def jhv:Con:=⟨187,[.v ty12,.v iT],[ty12,iT],⟨[.v .bool],[]⟩,[.bool],fun h=>Pw.jmA h.1 h.2⟩
def jw3:FnD where
 N:=24
 np:=2
 cs:=[]
 ds:=[⟨0,[sI,.s (.one (.d ty12)),sI,sI],[iT,ty12,iT,iT],[⟨.ret,[.s (.one (.d .bool))],[.bool]⟩,⟨.exit 0,[],[]⟩],fun h=>Pw.j72 h.1 h.2.1 h.2.2.1 h.2.2.2⟩]
 keep:=[(0,⟨[1,7,8,9],[],[],[]⟩)]
 keepX:=[(0,.ret,⟨[4],[],[],[]⟩),
  (0,.exit 0,⟨[],[],[],[]⟩)]
 ro:=[false]
theorem jtN:Con.OK Tryz.prog jhv:=
 cOf j0a j03 jw3 jhv Tryz.func187 trivial (j9 (fun h=>by kernel_rfl) trivial)
def jbT:Con:=⟨156,[.v ty81,.v ty67,.v iT],[ty81,ty67,iT],⟨[.v iT,.v .bool],[]⟩,[iT,.bool],fun h=>Pw.j7O h.1 h.2.1 h.2.2⟩
def joB:FnD where
 N:=79
 np:=3
 cs:=[j61,j8d,j2H,jaL,jhv]
 ds:=[]
 modes:=[(159,[false,false,false]),(168,[false,false]),(187,[false,false]),(188,[false]),(189,[false,false])]
 ro:=[false,false]
theorem jnI:Con.OK Tryz.prog jbT:=
 cOf j0a j03 joB jbT Tryz.func156 (j9 jdd (j9 jgj (j9 j6p (j9 jmd (j9 jtN trivial))))) trivial
def j8C:Con:=⟨103,[.v ty81,.v ty67,.v iT],[ty81,ty67,iT],⟨[.v iT],[]⟩,[iT],fun h=>Pw.j4q h.1 h.2.1 h.2.2⟩
def jky:FnD where
 N:=27
 np:=3
 cs:=[jbT]
 ds:=[]
 modes:=[(156,[false,false,false])]
 ro:=[false]
theorem jjh:Con.OK Tryz.prog j8C:=
 cOf j0a j03 jky j8C Tryz.func103 (j9 jnI trivial) trivial
def jaM:Con:=⟨57,[.v ty37,.ip [iT],.ip [iT]],[ty37,iT,iT],⟨[.v .bool],[]⟩,[.bool],fun h=>Pw.jfv h.1 h.2.1 h.2.2⟩
def jnJ:FnD where
 N:=26
 np:=3
 cs:=[]
 ds:=[]
 ro:=[false]
theorem jme:Con.OK Tryz.prog jaM:=
 cOf j0a j03 jnJ jaM Tryz.func57 trivial trivial
end Go.Proofs.Pk
