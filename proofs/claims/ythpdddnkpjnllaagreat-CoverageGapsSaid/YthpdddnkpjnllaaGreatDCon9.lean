/- Contracts: each given function is its plain function, printed by a program. -/
import Derived.Test.YthpdddnkpjnllaaGreatDCon8
noncomputable section
open Go Go.Lft
set_option linter.unusedVariables false
set_option maxRecDepth 100000
namespace Go.Proofs.Pk
def jfM:Con:=⟨186,[.v iT,.v iT],[iT,iT],⟨[.v ty8],[]⟩,[ty8],fun h=>Pw.jjZ h.1 h.2⟩
def jtP:FnD where
 N:=16
 np:=2
 cs:=[]
 ds:=[]
 ro:=[false]
theorem jsk:Con.OK Tryz.prog jfM:=
 cOf j0a j03 jtP jfM Tryz.func186 trivial trivial
def j7Q:Con:=⟨154,[.v ty60,.v iT],[ty60,iT],⟨[.v ty8,.v iT],[]⟩,[ty8,iT],fun h=>Pw.j4g h.1 h.2⟩
def jqx:FnD where
 N:=21
 np:=2
 cs:=[jbI,jfM]
 ds:=[]
 modes:=[(185,[false,false]),(186,[false,false])]
 ro:=[false,false]
theorem jek:Con.OK Tryz.prog j7Q:=
 cOf j0a j03 jqx j7Q Tryz.func154 (j9 jnO (j9 jsk trivial)) trivial
def jbJ:Con:=⟨92,[.v ty60,.v ty67,.v iT],[ty60,ty67,iT],⟨[.v iT,.v .bool],[]⟩,[iT,.bool],fun h=>Pw.jb9 h.1 h.2.1 h.2.2⟩
def joG:FnD where
 N:=66
 np:=3
 cs:=[jca]
 ds:=[]
 modes:=[(48,[false,false])]
 ro:=[false,false]
theorem jnP:Con.OK Tryz.prog jbJ:=
 cOf j0a j03 joG jbJ Tryz.func92 (j9 jlV trivial) trivial
def jfN:Con:=⟨182,[.v ty60,.v ty67,.v iT],[ty60,ty67,iT],⟨[.v iT],[]⟩,[iT],fun h=>Pw.jh0 h.1 h.2.1 h.2.2⟩
def jtQ:FnD where
 N:=81
 np:=3
 cs:=[jca,j7Q,jbJ]
 ds:=[⟨0,[sI,.s (.one (.bp 192 0)),.s (.one (.bp 256 0)),sI,.b (.cell [.d .str,.d iT,.d ty53] false),.b (.cell [.d .str,.d iT,.d iT,.d iT,.d iT,.d iT,.d (.list iT),.d ty12,.d iT,.d iT] false)],[iT,iT,.str,iT,ty53,.str,iT,iT,iT,iT,iT,(.list iT),ty12,iT,iT],[⟨.exit 0,[sI],[iT]⟩],fun h=>Pw.j6a h.1 h.2.1 h.2.2.1 h.2.2.2.1 h.2.2.2.2.1 h.2.2.2.2.2.1 h.2.2.2.2.2.2.1 h.2.2.2.2.2.2.2.1 h.2.2.2.2.2.2.2.2.1 h.2.2.2.2.2.2.2.2.2.1 h.2.2.2.2.2.2.2.2.2.2.1 h.2.2.2.2.2.2.2.2.2.2.2.1 h.2.2.2.2.2.2.2.2.2.2.2.2.1 h.2.2.2.2.2.2.2.2.2.2.2.2.2.1 h.2.2.2.2.2.2.2.2.2.2.2.2.2.2⟩]
 modes:=[(48,[false,false]),(92,[false,false,false]),(154,[false,false])]
 keep:=[(0,⟨[2,3,4,7],[192,256],[],[]⟩)]
 keepX:=[(0,.exit 0,⟨[7],[],[],[]⟩)]
 ro:=[false]
theorem jsl:Con.OK Tryz.prog jfN:=
 cOf j0a j03 jtQ jfN Tryz.func182 (j9 jlV (j9 jek (j9 jnP trivial))) (j9 (fun h=>by kernel_rfl) trivial)
def jfO:Con:=⟨152,[.v ty60,.v ty67,.v iT],[ty60,ty67,iT],⟨[.v iT,.v iT],[]⟩,[iT,iT],fun h=>Pw.jh1 h.1 h.2.1 h.2.2⟩
def jtR:FnD where
 N:=22
 np:=3
 cs:=[jfK,jfN]
 ds:=[]
 modes:=[(91,[false,false]),(182,[false,false,false])]
 ro:=[false,false]
theorem jsm:Con.OK Tryz.prog jfO:=
 cOf j0a j03 jtR jfO Tryz.func152 (j9 jsh (j9 jsl trivial)) trivial
def jel:Con:=⟨228,[.v ty8],[ty8],⟨[.v iT],[]⟩,[iT],fun h=>Pw.jhS h⟩
def jsn:FnD where
 N:=10
 np:=1
 cs:=[j9H]
 ds:=[]
 modes:=[(226,[false])]
 ro:=[false]
theorem jqy:Con.OK Tryz.prog jel:=
 cOf j0a j03 jsn jel Tryz.func228 (j9 jin trivial) trivial
def jem:Con:=⟨183,[.v ty60,.v iT],[ty60,iT],⟨[.v iT,.v iT],[]⟩,[iT,iT],fun h=>Pw.jcl h.1 h.2⟩
def jso:FnD where
 N:=19
 np:=2
 cs:=[j7Q,jel]
 ds:=[]
 modes:=[(154,[false,false]),(228,[false])]
 ro:=[false,false]
theorem jqz:Con.OK Tryz.prog jem:=
 cOf j0a j03 jso jem Tryz.func183 (j9 jek (j9 jqy trivial)) trivial
def jen:Con:=⟨184,[.v ty12,.v iT],[ty12,iT],⟨[.v .bool],[]⟩,[.bool],fun h=>Pw.jhT h.1 h.2⟩
def jsp:FnD where
 N:=28
 np:=2
 cs:=[]
 ds:=[⟨0,[.s (.one (.d ty12)),sI,sI],[ty12,iT,iT],[⟨.ret,[.s (.one (.d .bool))],[.bool]⟩,⟨.exit 0,[],[]⟩],fun h=>Pw.j5r h.1 h.2.1 h.2.2⟩]
 keep:=[(0,⟨[0,1,5],[],[],[]⟩)]
 keepX:=[(0,.ret,⟨[4],[],[],[]⟩),
  (0,.exit 0,⟨[],[],[],[]⟩)]
 ro:=[false]
theorem jqA:Con.OK Tryz.prog jen:=
 cOf j0a j03 jsp jen Tryz.func184 trivial (j9 (fun h=>by kernel_rfl) trivial)
def jls:Con:=⟨153,[.v ty60,.v ty12,.v iT],[ty60,ty12,iT],⟨[.v .bool],[]⟩,[.bool],fun h=>Pw.jrJ h.1 h.2.1 h.2.2⟩
def jzH:FnD where
 N:=27
 np:=3
 cs:=[j9J,jem,jen]
 ds:=[]
 modes:=[(142,[false]),(183,[false,false]),(184,[false,false])]
 ro:=[false]
theorem jxQ:Con.OK Tryz.prog jls:=
 cOf j0a j03 jzH jls Tryz.func153 (j9 jhl (j9 jqz (j9 jqA trivial))) trivial
def jhn:Con:=⟨100,[.v ty79,.v ty67,.v iT],[ty79,ty67,iT],⟨[.v iT,.v .bool],[]⟩,[iT,.bool],fun h=>Pw.jk0 h.1 h.2.1 h.2.2⟩
def jw4:FnD where
 N:=94
 np:=3
 cs:=[j7Q,jfO,jls]
 ds:=[⟨0,[.s (.one (.bp 256 0)),sI,.s (.one (.bp 704 0)),.s (.one (.bp 768 0)),.s (.one (.d .bool)),sI,.b (.cell [.d .str,.d iT,.d iT,.d iT,.d iT,.d iT,.d (.list iT),.d ty12,.d iT,.d iT] false),.b (.cell [.d .str,.d iT,.d (.list iT)] false),.b (.cell [.d iT,.d iT] false)],[iT,.bool,iT,.str,iT,iT,iT,iT,iT,(.list iT),ty12,iT,iT,.str,iT,(.list iT),iT,iT],[⟨.exit 0,[.s (.one (.bp 256 0)),sI,.s (.one (.d .bool)),.b (.cell [.d .str,.d iT,.d iT,.d iT,.d iT,.d iT,.d (.list iT),.d ty12,.d iT,.d iT] false)],[iT,.bool,.str,iT,iT,iT,iT,iT,(.list iT),ty12,iT,iT]⟩],fun h=>Pw.j6S h.1 h.2.1 h.2.2.1 h.2.2.2.1 h.2.2.2.2.1 h.2.2.2.2.2.1 h.2.2.2.2.2.2.1 h.2.2.2.2.2.2.2.1 h.2.2.2.2.2.2.2.2.1 h.2.2.2.2.2.2.2.2.2.1 h.2.2.2.2.2.2.2.2.2.2.1 h.2.2.2.2.2.2.2.2.2.2.2.1 h.2.2.2.2.2.2.2.2.2.2.2.2.1 h.2.2.2.2.2.2.2.2.2.2.2.2.2.1 h.2.2.2.2.2.2.2.2.2.2.2.2.2.2.1 h.2.2.2.2.2.2.2.2.2.2.2.2.2.2.2.1 h.2.2.2.2.2.2.2.2.2.2.2.2.2.2.2.2.1 h.2.2.2.2.2.2.2.2.2.2.2.2.2.2.2.2.2⟩]
 modes:=[(152,[false,false,false]),(153,[false,false,false]),(154,[false,false])]
 keep:=[(0,⟨[4,9,11,12,14,15],[256,704,768],[],[]⟩)]
 keepX:=[(0,.exit 0,⟨[4,9,14],[256],[],[]⟩)]
 ro:=[false,false]
theorem jtS:Con.OK Tryz.prog jhn:=
 cOf j0a j03 jw4 jhn Tryz.func100 (j9 jek (j9 jsm (j9 jxQ trivial))) (j9 (fun h=>by kernel_rfl) trivial)
def jj9:Con:=⟨55,[.v ty79,.v ty67,.v iT],[ty79,ty67,iT],⟨[.v iT],[]⟩,[iT],fun h=>Pw.jnm h.1 h.2.1 h.2.2⟩
def jxR:FnD where
 N:=27
 np:=3
 cs:=[jhn]
 ds:=[]
 modes:=[(100,[false,false,false])]
 ro:=[false]
theorem jw5:Con.OK Tryz.prog jj9:=
 cOf j0a j03 jxR jj9 Tryz.func55 (j9 jtS trivial) trivial
def jho:Con:=⟨181,[.v ty72,.v iT,.v iT],[ty72,iT,iT],⟨[.v .bool],[]⟩,[.bool],fun h=>Pw.jmF h.1 h.2.1 h.2.2⟩
def jw6:FnD where
 N:=42
 np:=3
 cs:=[]
 ds:=[⟨0,[sI,sI,.s (.one (.bp 192 0)),sI,.b (.cell [.d .str,.d ty68,.d ty39] false)],[iT,iT,iT,.str,ty68,ty39],[⟨.ret,[.s (.one (.d .bool))],[.bool]⟩,⟨.exit 0,[],[]⟩],fun h=>Pw.j6T h.1 h.2.1 h.2.2.1 h.2.2.2.1 h.2.2.2.2.1 h.2.2.2.2.2⟩]
 keep:=[(0,⟨[1,2,3,7],[192],[],[]⟩)]
 keepX:=[(0,.ret,⟨[6],[],[],[]⟩),
  (0,.exit 0,⟨[],[],[],[]⟩)]
 ro:=[false]
theorem jtT:Con.OK Tryz.prog jho:=
 cOf j0a j03 jw6 jho Tryz.func181 trivial (j9 (fun h=>by kernel_rfl) trivial)
def jja:Con:=⟨149,[.v ty79,.v iT,.v iT],[ty79,iT,iT],⟨[.v iT,.v iT],[]⟩,[iT,iT],fun h=>Pw.jq2 h.1 h.2.1 h.2.2⟩
def jxS:FnD where
 N:=43
 np:=3
 cs:=[jj9,jho]
 ds:=[⟨0,[sI,.s (.one (.bp 192 0)),.s (.one (.bp 512 0)),sI,.b (.cell [.d ty61,.d ty51,.d ty26,.d ty73] false),.b (.cell [.d .str,.d ty68,.d ty39] false)],[iT,iT,ty61,ty51,ty26,ty73,.str,ty68,ty39],[⟨.ret,[sI,sI],[iT,iT]⟩,⟨.exit 0,[],[]⟩],fun h=>Pw.j7F h.1 h.2.1 h.2.2.1 h.2.2.2.1 h.2.2.2.2.1 h.2.2.2.2.2.1 h.2.2.2.2.2.2.1 h.2.2.2.2.2.2.2.1 h.2.2.2.2.2.2.2.2⟩]
 modes:=[(55,[false,false,false]),(181,[false,false,false])]
 keep:=[(0,⟨[2,3,8,9],[192,512],[],[]⟩)]
 keepX:=[(0,.ret,⟨[6,7],[],[],[]⟩),
  (0,.exit 0,⟨[],[],[],[]⟩)]
 ro:=[false,false]
theorem jw7:Con.OK Tryz.prog jja:=
 cOf j0a j03 jxS jja Tryz.func149 (j9 jw5 (j9 jtT trivial)) (j9 (fun h=>by kernel_rfl) trivial)
def jhp:Con:=⟨150,[.v ty39,.v iT,.v iT],[ty39,iT,iT],⟨[.v iT],[]⟩,[iT],fun h=>Pw.jq3 h.1 h.2.1 h.2.2⟩
def jw8:FnD where
 N:=61
 np:=3
 cs:=[]
 ds:=[⟨0,[.s (.one (.d ty39)),sI,sI,sI],[ty39,iT,iT,iT],[⟨.exit 0,[sI],[iT]⟩],fun h=>Pw.j6U h.1 h.2.1 h.2.2.1 h.2.2.2⟩]
 keep:=[(0,⟨[0,1,2,7],[],[],[]⟩)]
 keepX:=[(0,.exit 0,⟨[1],[],[],[]⟩)]
 ro:=[false]
theorem jtU:Con.OK Tryz.prog jhp:=
 cOf j0a j03 jw8 jhp Tryz.func150 trivial (j9 (fun h=>by kernel_rfl) trivial)
def jjb:Con:=⟨96,[.v ty79,.v iT,.v iT],[ty79,iT,iT],⟨[.v iT],[]⟩,[iT],fun h=>Pw.jtk h.1 h.2.1 h.2.2⟩
def jxT:FnD where
 N:=25
 np:=3
 cs:=[jja,jhp]
 ds:=[]
 modes:=[(149,[false,false,false]),(150,[false,false,false])]
 ro:=[false]
theorem jw9:Con.OK Tryz.prog jjb:=
 cOf j0a j03 jxT jjb Tryz.func96 (j9 jw7 (j9 jtU trivial)) trivial
def jjc:Con:=⟨49,[.v ty79,.v iT,.v iT],[ty79,iT,iT],⟨[.v iT],[]⟩,[iT],fun h=>Pw.jtl h.1 h.2.1 h.2.2⟩
def jxU:FnD where
 N:=16
 np:=3
 cs:=[jlr,jjb]
 ds:=[]
 modes:=[(95,[false,false,false]),(96,[false,false,false])]
 ro:=[false]
theorem jwa:Con.OK Tryz.prog jjc:=
 cOf j0a j03 jxU jjc Tryz.func49 (j9 jxP (j9 jw9 trivial)) trivial
def jjd:Con:=⟨17,[.v ty79,.v iT,.v iT],[ty79,iT,iT],⟨[.v iT],[]⟩,[iT],fun h=>Pw.jnn h.1 h.2.1 h.2.2⟩
def jxV:FnD where
 N:=11
 np:=3
 cs:=[jjc]
 ds:=[]
 modes:=[(49,[false,false,false])]
 ro:=[false]
theorem jwb:Con.OK Tryz.prog jjd:=
 cOf j0a j03 jxV jjd Tryz.func17 (j9 jwa trivial) trivial
def jhq:Con:=⟨69,[.v ty79,.v iT,.v ty39],[ty79,iT,ty39],⟨[.v ty79],[]⟩,[ty79],fun h=>Pw.jq4 h.1 h.2.1 h.2.2⟩
def jwc:FnD where
 N:=19
 np:=3
 cs:=[]
 ds:=[]
 ro:=[false]
theorem jtV:Con.OK Tryz.prog jhq:=
 cOf j0a j03 jwc jhq Tryz.func69 trivial trivial
def jfP:Con:=⟨34,[.v ty79,.v iT,.v ty37],[ty79,iT,ty37],⟨[.v ty79,.v iT],[]⟩,[ty79,iT],fun h=>Pw.jh2 h.1 h.2.1 h.2.2⟩
def jtW:FnD where
 N:=48
 np:=3
 cs:=[jc9,jhq]
 ds:=[]
 modes:=[(45,[false]),(69,[false,false,false])]
 ro:=[false,false]
 dw:=[(5,[[],[],[],[],[],[],[2112],[],[2240],[2112,2304],[]])]
theorem jsq:Con.OK Tryz.prog jfP:=
 cOf j0a j03 jtW jfP Tryz.func34 (j9 jlU (j9 jtV trivial)) trivial
def ja8:Con:=⟨9,[.v (.list iT),.v iT],[(.list iT),iT],⟨[.v .bool],[]⟩,[.bool],fun h=>Pw.j9w h.1 h.2⟩
def ji3:FnD where
 N:=81
 np:=2
 cs:=[je1,j6e,j5T,jeh,jfA,j5v,j8s,jhg,jj5,jjd,jfP]
 ds:=[]
 modes:=[(10,[false]),(12,[false]),(13,[false,false]),(16,[false,false]),(17,[false,false,false]),(22,[false]),(28,[]),(31,[false,false,false,false]),(32,[false,false]),(33,[false,false,false,false]),(34,[false,false,false])]
 ro:=[false]
theorem law15_CoverageGaps_ok:Con.OK Tryz.prog ja8:=
 cOf j0a j03 ji3 ja8 Tryz.func9 (j9 jq5 (j9 jbH (j9 jda (j9 jqs (j9 js6 (j9 jbX (j9 jj3 (j9 jty (j9 jvX (j9 jwb (j9 jsq trivial))))))))))) trivial
end Go.Proofs.Pk
