/- Contracts: each given function is its plain function, printed by a program. -/
import Derived.Test.YtaieocafhcjelaaGreatACon8
noncomputable section
open Go Go.Lft
set_option linter.unusedVariables false
set_option maxRecDepth 100000
namespace Go.Proofs.Pk
def jc0:Con:=⟨362,[.v ty65,.v ty8],[ty65,ty8],⟨[.v iT,.v iT],[]⟩,[iT,iT],Pw.unc2 Pw.j5p⟩
def jtB:FnD where
 N:=76
 np:=2
 cs:=[jar,j4P,jfz]
 ds:=[⟨0,[.s (.one (.bp 128 0)),.s (.one (.bp 192 0)),.s (.one (.ol 1000000)),sI,.b (.cell [.d .str,.d iT,.d ty58] false),.b (.cell [.d iT,.d iT] false),.b (.lst 186 ty8 false)],[iT,.str,iT,ty58,iT,iT,ty13],[⟨.ret,[sI,sI],[iT,iT]⟩,⟨.exit 0,[],[]⟩],Pw.unc7 (Pw.j4F)⟩]
 modes:=[(128,[false]),(196,[false,false,false]),(392,[false])]
 keep:=[(0,⟨[2,3,6,8],[128,192],[⟨1000000,186,ty8,[.slot 6],false⟩],[]⟩)]
 keepX:=[(0,.ret,⟨[4,5],[],[],[]⟩),
  (0,.exit 0,⟨[],[],[],[]⟩)]
 ro:=[false,false]
theorem jln:Con.OK Tryz.prog jc0:=
 cOf j0c j03 jtB jc0 Tryz.func362 (j9 jgX (j9 j9z (j9 js3 trivial))) (j9 (fun h=>by kernel_rfl) trivial)
def je5:Con:=⟨364,[.v ty65,.v ty13,.v iT],[ty65,ty13,iT],⟨[.v iT],[]⟩,[iT],Pw.unc3 Pw.jhA⟩
def js4:FnD where
 N:=32
 np:=3
 cs:=[]
 ds:=[⟨0,[.s (.one (.d ty13)),sI,sI,sI],[ty13,iT,iT,iT],[⟨.exit 0,[sI],[iT]⟩],Pw.unc4 (Pw.j5q)⟩]
 keep:=[(0,⟨[1,2,7,8],[],[],[]⟩)]
 keepX:=[(0,.exit 0,⟨[7],[],[],[]⟩)]
 ro:=[false]
theorem jqb:Con.OK Tryz.prog je5:=
 cOf j0c j03 js4 je5 Tryz.func364 trivial (j9 (fun h=>by kernel_rfl) trivial)
def jbB:Con:=⟨314,[.v ty65,.v iT],[ty65,iT],⟨[.v iT,.v iT],[]⟩,[iT,iT],Pw.unc2 Pw.jb4⟩
def jog:FnD where
 N:=22
 np:=2
 cs:=[jar,j4P,je5]
 ds:=[]
 modes:=[(128,[false]),(196,[false,false,false]),(364,[false,false,false])]
 ro:=[false,false]
theorem jnr:Con.OK Tryz.prog jbB:=
 cOf j0c j03 jog jbB Tryz.func314 (j9 jgX (j9 j9z (j9 jqb trivial))) trivial
def jfA:Con:=⟨315,[.v iT,.v iT],[iT,iT],⟨[.v ty8],[]⟩,[ty8],Pw.unc2 Pw.jjD⟩
def jtC:FnD where
 N:=16
 np:=2
 cs:=[]
 ds:=[]
 ro:=[false]
theorem js5:Con.OK Tryz.prog jfA:=
 cOf j0c j03 jtC jfA Tryz.func315 trivial trivial
def j7D:Con:=⟨228,[.v ty65,.v iT],[ty65,iT],⟨[.v ty8,.v iT],[]⟩,[ty8,iT],Pw.unc2 Pw.j4d⟩
def jqc:FnD where
 N:=21
 np:=2
 cs:=[jbB,jfA]
 ds:=[]
 modes:=[(314,[false,false]),(315,[false,false])]
 ro:=[false,false]
theorem je6:Con.OK Tryz.prog j7D:=
 cOf j0c j03 jqc j7D Tryz.func228 (j9 jnr (j9 js5 trivial)) trivial
def jbC:Con:=⟨363,[.v ty65,.v ty72,.v iT],[ty65,ty72,iT],⟨[.v iT,.v .bool],[]⟩,[iT,.bool],Pw.unc3 Pw.jb5⟩
def joh:FnD where
 N:=66
 np:=3
 cs:=[jc0]
 ds:=[]
 modes:=[(362,[false,false])]
 ro:=[false,false]
theorem jns:Con.OK Tryz.prog jbC:=
 cOf j0c j03 joh jbC Tryz.func363 (j9 jln trivial) trivial
def jfB:Con:=⟨311,[.v ty65,.v ty72,.v iT],[ty65,ty72,iT],⟨[.v iT],[]⟩,[iT],Pw.unc3 Pw.jgL⟩
def jtD:FnD where
 N:=81
 np:=3
 cs:=[jc0,j7D,jbC]
 ds:=[⟨0,[sI,.s (.one (.bp 192 0)),.s (.one (.bp 256 0)),sI,.b (.cell [.d .str,.d iT,.d ty58] false),.b (.cell [.d .str,.d iT,.d iT,.d iT,.d iT,.d iT,.d (.list iT),.d ty13,.d iT,.d iT] false)],[iT,iT,.str,iT,ty58,.str,iT,iT,iT,iT,iT,(.list iT),ty13,iT,iT],[⟨.exit 0,[sI],[iT]⟩],Pw.jz5 (Pw.j64)⟩]
 modes:=[(228,[false,false]),(362,[false,false]),(363,[false,false,false])]
 keep:=[(0,⟨[2,3,4,7],[192,256],[],[]⟩)]
 keepX:=[(0,.exit 0,⟨[7],[],[],[]⟩)]
 ro:=[false]
theorem js6:Con.OK Tryz.prog jfB:=
 cOf j0c j03 jtD jfB Tryz.func311 (j9 jln (j9 je6 (j9 jns trivial))) (j9 (fun h=>by kernel_rfl) trivial)
def jfC:Con:=⟨226,[.v ty65,.v ty72,.v iT],[ty65,ty72,iT],⟨[.v iT,.v iT],[]⟩,[iT,iT],Pw.unc3 Pw.jgM⟩
def jtE:FnD where
 N:=22
 np:=3
 cs:=[jfy,jfB]
 ds:=[]
 modes:=[(310,[false,false]),(311,[false,false,false])]
 ro:=[false,false]
theorem js7:Con.OK Tryz.prog jfC:=
 cOf j0c j03 jtE jfC Tryz.func226 (j9 js2 (j9 js6 trivial)) trivial
def je7:Con:=⟨199,[.v ty8],[ty8],⟨[.v iT],[]⟩,[iT],fun h=>Pw.jhB h⟩
def js8:FnD where
 N:=10
 np:=1
 cs:=[j9y]
 ds:=[]
 modes:=[(294,[false])]
 ro:=[false]
theorem jqd:Con.OK Tryz.prog je7:=
 cOf j0c j03 js8 je7 Tryz.func199 (j9 ji4 trivial) trivial
def je8:Con:=⟨312,[.v ty65,.v iT],[ty65,iT],⟨[.v iT,.v iT],[]⟩,[iT,iT],Pw.unc2 Pw.jcc⟩
def js9:FnD where
 N:=19
 np:=2
 cs:=[j7D,je7]
 ds:=[]
 modes:=[(199,[false]),(228,[false,false])]
 ro:=[false,false]
theorem jqe:Con.OK Tryz.prog je8:=
 cOf j0c j03 js9 je8 Tryz.func312 (j9 je6 (j9 jqd trivial)) trivial
def je9:Con:=⟨313,[.v ty13,.v iT],[ty13,iT],⟨[.v .bool],[]⟩,[.bool],Pw.unc2 Pw.jhC⟩
def jsa:FnD where
 N:=28
 np:=2
 cs:=[]
 ds:=[⟨0,[.s (.one (.d ty13)),sI,sI],[ty13,iT,iT],[⟨.ret,[.s (.one (.d .bool))],[.bool]⟩,⟨.exit 0,[],[]⟩],Pw.unc3 (Pw.j5r)⟩]
 keep:=[(0,⟨[0,1,5],[],[],[]⟩)]
 keepX:=[(0,.ret,⟨[4],[],[],[]⟩),
  (0,.exit 0,⟨[],[],[],[]⟩)]
 ro:=[false]
theorem jqf:Con.OK Tryz.prog je9:=
 cOf j0c j03 jsa je9 Tryz.func313 trivial (j9 (fun h=>by kernel_rfl) trivial)
def jkS:Con:=⟨227,[.v ty65,.v ty13,.v iT],[ty65,ty13,iT],⟨[.v .bool],[]⟩,[.bool],Pw.unc3 Pw.jrs⟩
def jza:FnD where
 N:=27
 np:=3
 cs:=[j9A,je8,je9]
 ds:=[]
 modes:=[(129,[false]),(312,[false,false]),(313,[false,false])]
 ro:=[false]
theorem jxn:Con.OK Tryz.prog jkS:=
 cOf j0c j03 jza jkS Tryz.func227 (j9 jh0 (j9 jqe (j9 jqf trivial))) trivial
def jdE:Con:=⟨156,[.v ty84,.v ty72,.v iT],[ty84,ty72,iT],⟨[.v iT,.v .bool],[]⟩,[iT,.bool],Pw.unc3 Pw.jfb⟩
def jvJ:FnD where
 N:=94
 np:=3
 cs:=[j7D,jfC,jkS]
 ds:=[⟨0,[.s (.one (.bp 256 0)),sI,.s (.one (.bp 704 0)),.s (.one (.bp 768 0)),.s (.one (.d .bool)),sI,.b (.cell [.d .str,.d iT,.d iT,.d iT,.d iT,.d iT,.d (.list iT),.d ty13,.d iT,.d iT] false),.b (.cell [.d .str,.d iT,.d (.list iT)] false),.b (.cell [.d iT,.d iT] false)],[iT,.bool,iT,.str,iT,iT,iT,iT,iT,(.list iT),ty13,iT,iT,.str,iT,(.list iT),iT,iT],[⟨.exit 0,[.s (.one (.bp 256 0)),sI,.s (.one (.d .bool)),.b (.cell [.d .str,.d iT,.d iT,.d iT,.d iT,.d iT,.d (.list iT),.d ty13,.d iT,.d iT] false)],[iT,.bool,.str,iT,iT,iT,iT,iT,(.list iT),ty13,iT,iT]⟩],Pw.jz6 (Pw.j6J)⟩]
 modes:=[(226,[false,false,false]),(227,[false,false,false]),(228,[false,false])]
 keep:=[(0,⟨[4,9,11,12,14,15],[256,704,768],[],[]⟩)]
 keepX:=[(0,.exit 0,⟨[4,9,14],[256],[],[]⟩)]
 ro:=[false,false]
theorem jnt:Con.OK Tryz.prog jdE:=
 cOf j0c j03 jvJ jdE Tryz.func156 (j9 je6 (j9 js7 (j9 jxn trivial))) (j9 (fun h=>by kernel_rfl) trivial)
def jfD:Con:=⟨155,[.v ty84,.v ty72,.v iT],[ty84,ty72,iT],⟨[.v .bool],[]⟩,[.bool],Pw.unc3 Pw.jn0⟩
def jtF:FnD where
 N:=17
 np:=3
 cs:=[jdE]
 ds:=[]
 modes:=[(156,[false,false,false])]
 ro:=[false]
theorem jsb:Con.OK Tryz.prog jfD:=
 cOf j0c j03 jtF jfD Tryz.func155 (j9 jnt trivial) trivial
def jkT:Con:=⟨77,[.v ty84,.v ty72,.v iT],[ty84,ty72,iT],⟨[.v .bool],[]⟩,[.bool],Pw.unc3 Pw.jrt⟩
def jzb:FnD where
 N:=24
 np:=3
 cs:=[jh4,jfD]
 ds:=[]
 modes:=[(154,[false,false]),(155,[false,false,false])]
 ro:=[false]
theorem jxo:Con.OK Tryz.prog jkT:=
 cOf j0c j03 jzb jkT Tryz.func77 (j9 jty (j9 jsb trivial)) trivial
def jiP:Con:=⟨78,[.v ty84,.v ty72,.v iT],[ty84,ty72,iT],⟨[.v iT],[]⟩,[iT],Pw.unc3 Pw.jn1⟩
def jxp:FnD where
 N:=27
 np:=3
 cs:=[jdE]
 ds:=[]
 modes:=[(156,[false,false,false])]
 ro:=[false]
theorem jvK:Con.OK Tryz.prog jiP:=
 cOf j0c j03 jxp jiP Tryz.func78 (j9 jnt trivial) trivial
def jea:Con:=⟨25,[.v ty84,.v ty72,.v iT],[ty84,ty72,iT],⟨[.v iT],[]⟩,[iT],Pw.unc3 Pw.jey⟩
def jsc:FnD where
 N:=16
 np:=3
 cs:=[jkT,jiP]
 ds:=[]
 modes:=[(77,[false,false,false]),(78,[false,false,false])]
 ro:=[false]
theorem jqg:Con.OK Tryz.prog jea:=
 cOf j0c j03 jsc jea Tryz.func25 (j9 jxo (j9 jvK trivial)) trivial
def jh5:Con:=⟨26,[.v ty77,.v iT,.v iT],[ty77,iT,iT],⟨[.v .bool],[]⟩,[.bool],Pw.unc3 Pw.jjE⟩
def jvL:FnD where
 N:=42
 np:=3
 cs:=[]
 ds:=[⟨0,[sI,sI,.s (.one (.bp 192 0)),sI,.b (.cell [.d .str,.d ty73,.d ty44] false)],[iT,iT,iT,.str,ty73,ty44],[⟨.ret,[.s (.one (.d .bool))],[.bool]⟩,⟨.exit 0,[],[]⟩],Pw.unc6 (Pw.j6K)⟩]
 keep:=[(0,⟨[1,2,3,7],[192],[],[]⟩)]
 keepX:=[(0,.ret,⟨[6],[],[],[]⟩),
  (0,.exit 0,⟨[],[],[],[]⟩)]
 ro:=[false]
theorem jtG:Con.OK Tryz.prog jh5:=
 cOf j0c j03 jvL jh5 Tryz.func26 trivial (j9 (fun h=>by kernel_rfl) trivial)
def ja2:Con:=⟨3,[.v (.list iT),.v iT],[(.list iT),iT],⟨[.v .bool],[]⟩,[.bool],Pw.unc2 Pw.j9m⟩
def jhK:FnD where
 N:=216
 np:=2
 cs:=[jdP,j3D,jaC,je3,jfo,j5v,j8f,j8g,jh3,jea,jh5]
 ds:=[⟨0,[sI,.s (.one (.bp 384 0)),.s (.one (.ol 1000000)),.s (.one (.bp 704 0)),sI,sI,.b (.cell [.d ty66,.d ty56,.d ty29,.d ty78] false),.b (.cell [.d .str,.d ty73,.d ty44] false),.b (.lst 41 ty21 false)],[iT,iT,iT,ty66,ty56,ty29,ty78,.str,ty73,ty44,ty26],[⟨.ret,[.s (.one (.d .bool))],[.bool]⟩,⟨.exit 0,[],[]⟩],Pw.jrr (Pw.j2C)⟩,
  ⟨2,[sI,.s (.one (.bp 384 0)),.s (.one (.ol 1002000)),.s (.one (.bp 704 0)),.s (.one (.bp 832 0)),sI,sI,.s (.av 3 iT),sI,.b (.cell [.d ty66,.d ty56,.d ty29,.d ty78] false),.b (.cell [.d .str,.d ty73,.d ty44] false),.b (.cell [.d iT,.d iT,.d iT] false),.b (.lst 41 ty21 false)],[iT,iT,iT,(.list iT),iT,ty66,ty56,ty29,ty78,.str,ty73,ty44,iT,iT,iT,ty26],[⟨.ret,[.s (.one (.d .bool))],[.bool]⟩,⟨.exit 2,[sI,.s (.one (.bp 384 0)),.s (.one (.ol 1502300)),.s (.one (.bp 704 0)),sI,sI,.b (.cell [.d ty66,.d ty56,.d ty29,.d ty78] false),.b (.cell [.d .str,.d ty73,.d ty44] false),.b (.lst 41 ty21 false)],[iT,iT,iT,ty66,ty56,ty29,ty78,.str,ty73,ty44,ty26]⟩],Pw.jC1 (Pw.j2B)⟩,
  ⟨4,[sI,.s (.one (.bp 384 0)),.s (.one (.ol 1004000)),.s (.one (.bp 704 0)),.s (.one (.bp 832 0)),sI,sI,sI,sI,.s (.av 3 iT),sI,.s (.one (.d ty73)),sI,sI,.b (.cell [.d ty66,.d ty56,.d ty29,.d ty78] false),.b (.cell [.d .str,.d ty73,.d ty44] false),.b (.cell [.d iT,.d iT,.d iT] false),.b (.lst 41 ty21 false)],[iT,iT,iT,iT,iT,(.list iT),iT,ty73,iT,iT,ty66,ty56,ty29,ty78,.str,ty73,ty44,iT,iT,iT,ty26],[⟨.exit 4,[sI,.s (.one (.bp 384 0)),.s (.one (.ol 1504500)),.s (.one (.bp 704 0)),.s (.one (.bp 832 0)),sI,sI,sI,sI,.s (.av 3 iT),sI,.b (.cell [.d ty66,.d ty56,.d ty29,.d ty78] false),.b (.cell [.d .str,.d ty73,.d ty44] false),.b (.cell [.d iT,.d iT,.d iT] false),.b (.lst 41 ty21 false)],[iT,iT,iT,iT,iT,(.list iT),iT,ty66,ty56,ty29,ty78,.str,ty73,ty44,iT,iT,iT,ty26]⟩],Pw.jz7 (Pw.j2z)⟩,
  ⟨6,[sI,.s (.one (.bp 384 0)),.s (.one (.ol 1006000)),.s (.one (.bp 704 0)),.s (.one (.bp 832 0)),sI,sI,sI,sI,.s (.av 3 iT),sI,.s (.one (.d ty44)),sI,sI,.b (.cell [.d ty66,.d ty56,.d ty29,.d ty78] false),.b (.cell [.d .str,.d ty73,.d ty44] false),.b (.cell [.d iT,.d iT,.d iT] false),.b (.lst 41 ty21 false)],[iT,iT,iT,iT,iT,(.list iT),iT,ty44,iT,iT,ty66,ty56,ty29,ty78,.str,ty73,ty44,iT,iT,iT,ty26],[⟨.exit 6,[sI,.s (.one (.bp 384 0)),.s (.one (.ol 1506700)),.s (.one (.bp 704 0)),.s (.one (.bp 832 0)),sI,sI,sI,sI,.s (.av 3 iT),sI,.b (.cell [.d ty66,.d ty56,.d ty29,.d ty78] false),.b (.cell [.d .str,.d ty73,.d ty44] false),.b (.cell [.d iT,.d iT,.d iT] false),.b (.lst 41 ty21 false)],[iT,iT,iT,iT,iT,(.list iT),iT,ty66,ty56,ty29,ty78,.str,ty73,ty44,iT,iT,iT,ty26]⟩],Pw.jz7 (Pw.j2A)⟩]
 modes:=[(17,[false]),(18,[]),(19,[false]),(20,[false,false,false,false]),(21,[false,false]),(22,[false]),(23,[false,false,false,false]),(24,[false,false]),(25,[false,false,false]),(26,[false,false,false]),(27,[false,false,false])]
 keep:=[(0,⟨[1,6,9,11,74,75],[384,704],[⟨1000000,41,ty21,[.slot 9],false⟩],[]⟩),
  (2,⟨[1,6,9,11,13,74,75,128,129],[384,704,832],[⟨1002000,41,ty21,[.slot 9],false⟩],[]⟩),
  (4,⟨[1,6,9,11,13,15,16,74,75,128,129,133,134,135],[384,704,832],[⟨1004000,41,ty21,[.slot 9],false⟩],[]⟩),
  (6,⟨[1,6,9,11,13,15,16,74,75,128,129,155,156,157],[384,704,832],[⟨1006000,41,ty21,[.slot 9],false⟩],[]⟩)]
 keepX:=[(0,.ret,⟨[4],[],[],[]⟩),
  (0,.exit 0,⟨[],[],[],[]⟩),
  (2,.ret,⟨[4],[],[],[]⟩),
  (2,.exit 2,⟨[1,6,9,11,74,75],[384,704],[⟨1502300,41,ty21,[.slot 9],false⟩],[]⟩),
  (4,.exit 4,⟨[1,6,9,11,13,15,16,74,75,128,129],[384,704,832],[⟨1504500,41,ty21,[.slot 9],false⟩],[]⟩),
  (6,.exit 6,⟨[1,6,9,11,13,15,16,74,75,128,129],[384,704,832],[⟨1506700,41,ty21,[.slot 9],false⟩],[]⟩)]
 ro:=[false]
theorem law14_RosterPieces_ok:Con.OK Tryz.prog ja2:=
 cOf j0c j03 jhK ja2 Tryz.func3 (j9 jpJ (j9 j79 (j9 jjW (j9 jq7 (j9 jrR (j9 jbO (j9 jiK (j9 jiO (j9 jtx (j9 jqg (j9 jtG trivial))))))))))) (j9 (fun h=>by kernel_rfl) (j9 (fun h=>by kernel_rfl) (j9 (fun h=>by kernel_rfl) (j9 (fun h=>by kernel_rfl) trivial))))
end Go.Proofs.Pk
