/- Contracts: each given function is its plain function, printed by a program. -/
import Derived.Test.YtaieocafhcjelaaGreatACon5
noncomputable section
open Go Go.Lft
set_option linter.unusedVariables false
set_option maxRecDepth 100000
namespace Go.Proofs.Pk
def j8d:Con:=⟨181,[.v ty86,.v ty72,.v iT],[ty86,ty72,iT],⟨[.v iT],[]⟩,[iT],Pw.unc3 Pw.j20⟩
def jjV:FnD where
 N:=27
 np:=3
 cs:=[jbz]
 ds:=[]
 modes:=[(262,[false,false,false])]
 ro:=[false]
theorem jiH:Con.OK Tryz.prog j8d:=
 cOf j0c j03 jjV j8d Tryz.func181 (j9 jnk trivial) trivial
def jap:Con:=⟨179,[.v ty42,.ip [iT],.ip [iT]],[ty42,iT,iT],⟨[.v .bool],[]⟩,[.bool],Pw.unc3 Pw.jf5⟩
def jnl:FnD where
 N:=26
 np:=3
 cs:=[]
 ds:=[]
 ro:=[false]
theorem jlG:Con.OK Tryz.prog jap:=
 cOf j0c j03 jnl jap Tryz.func179 trivial trivial
def j2w:Con:=⟨260,[.v ty44,.clo 179 [.p [iT],.p [iT]]],[ty44,iT,iT],⟨[.v iT],[]⟩,[iT],Pw.unc3 Pw.j0T⟩
def j8x:FnD where
 N:=19
 np:=2
 cs:=[jap]
 ds:=[⟨0,[.s (.one (.d ty44)),.s (.one (.clo 179 [.p [iT],.p [iT]])),sI,sI],[ty44,iT,iT,iT,iT],[⟨.ret,[sI],[iT]⟩,⟨.exit 0,[],[]⟩],Pw.unc5 (Pw.j0O)⟩]
 modes:=[(179,[false])]
 keep:=[(0,⟨[0,1,7,8],[],[],[]⟩)]
 keepX:=[(0,.ret,⟨[4],[],[],[]⟩),
  (0,.exit 0,⟨[],[],[],[]⟩)]
 ro:=[false]
theorem j8e:Con.OK Tryz.prog j2w:=
 cOf j0c j03 j8x j2w Tryz.func260 (j9 jlG trivial) (j9 (fun h=>by kernel_rfl) trivial)
def j29:Con:=⟨178,[.v ty44,.clo 179 [.p [iT],.p [iT]]],[ty44,iT,iT],⟨[.v .bool],[]⟩,[.bool],Pw.unc3 Pw.j0J⟩
def j7C:FnD where
 N:=9
 np:=2
 cs:=[j2w]
 ds:=[]
 modes:=[(260,[false,false])]
 ro:=[false]
theorem j7c:Con.OK Tryz.prog j29:=
 cOf j0c j03 j7C j29 Tryz.func178 (j9 j8e trivial) trivial
def je1:Con:=⟨107,[.v ty77,.v iT,.v iT],[ty77,iT,iT],⟨[.v .bool],[]⟩,[.bool],Pw.unc3 Pw.jae⟩
def jrM:FnD where
 N:=11
 np:=3
 cs:=[j29]
 ds:=[]
 modes:=[(178,[false,false])]
 ro:=[false]
theorem jq4:Con.OK Tryz.prog je1:=
 cOf j0c j03 jrM je1 Tryz.func107 (j9 j7c trivial) trivial
def jaq:Con:=⟨109,[.v ty86,.v ty77,.v iT],[ty86,ty77,iT],⟨[.v iT,.v iT],[]⟩,[iT,iT],Pw.unc3 Pw.j4r⟩
def jnm:FnD where
 N:=29
 np:=3
 cs:=[j1o,j8d,je1]
 ds:=[⟨0,[sI,.s (.one (.bp 192 0)),.s (.one (.bp 256 0)),.s (.one (.bp 320 0)),.s (.one (.bp 384 0)),.s (.one (.bp 448 0)),.s (.one (.clo 261 [.p [ty73]])),.b (.cell [.d ty66,.d ty56,.d ty29,.d ty78,.d ty33] false),.b (.cell [.d .str,.d ty73,.d ty44] false),.b (.cell [.d iT] false),.b (.cell [.d iT] false),.b (.cell [.d iT] false)],[iT,ty73,ty66,ty56,ty29,ty78,ty33,.str,ty73,ty44,iT,iT,iT],[⟨.normal,[.s (.one (.bp 384 0)),.s (.one (.bp 448 0)),.b (.cell [.d iT] false),.b (.cell [.d iT] false)],[iT,iT]⟩,⟨.ret,[.s (.one (.bp 384 0)),.s (.one (.bp 448 0)),.b (.cell [.d iT] false),.b (.cell [.d iT] false)],[iT,iT]⟩],Pw.jvw (Pw.j1Q)⟩]
 modes:=[(107,[false,false,false]),(180,[false]),(181,[false,false,false])]
 keep:=[(0,⟨[3,4,5,6,7,13],[192,256,320,384,448],[],[]⟩)]
 keepX:=[(0,.normal,⟨[6,7],[384,448],[],[]⟩),
  (0,.ret,⟨[6,7],[384,448],[],[]⟩)]
 ro:=[false,false]
 bw:=[(261,(false,ty72))]
theorem jlH:Con.OK Tryz.prog jaq:=
 cOf j0c j03 jnm jaq Tryz.func109 (j9 j46 (j9 jiH (j9 jq4 trivial))) (j9 (fun h=>by kernel_rfl) trivial) (j9 juF trivial)
def j8y:Con:=⟨80,[.v ty86,.v ty77,.v iT],[ty86,ty77,iT],⟨[.v iT],[]⟩,[iT],Pw.unc3 Pw.j8X⟩
def jrN:FnD where
 N:=27
 np:=3
 cs:=[jbX,jaq]
 ds:=[]
 modes:=[(42,[false,false,false]),(109,[false,false,false])]
 ro:=[false]
theorem jfn:Con.OK Tryz.prog j8y:=
 cOf j0c j03 jrN j8y Tryz.func80 (j9 jlk (j9 jlH trivial)) trivial
def jcX:Con:=⟨29,[.v ty84,.v iT,.v iT],[ty84,iT,iT],⟨[.v ty21,.v iT],[]⟩,[ty21,iT],Pw.unc3 Pw.jct⟩
def jq5:FnD where
 N:=67
 np:=3
 cs:=[j9q,j6s,j7a,j8y]
 ds:=[⟨0,[sI,sI,.s (.one (.bp 192 0)),.s (.one (.bp 384 0)),.s (.one (.bp 448 0)),.s (.one (.bp 512 0)),sI,.s (.one (.ol 1000000)),.s (.one (.clo 157 [.p [ty26]])),.b (.cell [.d ty66,.d ty56,.d ty29,.d ty78] false),.b (.cell [.d iT,.d iT,.d iT] false),.b (.cell [.d iT] false),.b (.cell [.d ty66,.d ty56,.d ty29,.d ty78,.d ty33] false),.b (.lst 41 ty21 true)],[iT,iT,iT,ty26,ty66,ty56,ty29,ty78,iT,iT,iT,iT,ty66,ty56,ty29,ty78,ty33,ty26],[⟨.normal,[sI,.s (.one (.bp 192 0)),.s (.one (.bp 384 0)),.s (.one (.bp 448 0)),.s (.one (.bp 512 0)),sI,.s (.one (.ol 1500050)),.b (.cell [.d ty66,.d ty56,.d ty29,.d ty78] false),.b (.cell [.d iT,.d iT,.d iT] false),.b (.cell [.d iT] false),.b (.cell [.d ty66,.d ty56,.d ty29,.d ty78,.d ty33] false),.b (.lst 41 ty21 true)],[iT,iT,ty66,ty56,ty29,ty78,iT,iT,iT,iT,ty66,ty56,ty29,ty78,ty33,ty26]⟩,⟨.ret,[.s (.one (.bp 384 0)),.s (.one (.bp 448 0)),.b (.cell [.d iT,.d iT,.d iT] false),.b (.cell [.d iT] false)],[iT,iT,iT,iT]⟩],Pw.jz6 (Pw.jcs)⟩]
 modes:=[(75,[false,false,false,false]),(76,[false,false,false,false]),(79,[false]),(80,[false,false,false])]
 keep:=[(0,⟨[1,3,6,7,8,10,11,39],[192,384,448,512],[⟨1000000,41,ty21,[.slot 11],false⟩],[]⟩)]
 keepX:=[(0,.normal,⟨[1,3,6,7,8,10,11],[192,384,448,512],[⟨1500050,41,ty21,[.slot 11],false⟩],[]⟩),
  (0,.ret,⟨[6,7],[384,448],[],[]⟩)]
 ro:=[false,false]
 dw:=[(5,[[],[],[],[],[],[],[],[],[2368],[]])]
 bw:=[(157,(true,ty21))]
theorem jod:Con.OK Tryz.prog jcX:=
 cOf j0c j03 jq5 jcX Tryz.func29 (j9 ji3 (j9 jdC (j9 jeE (j9 jfn trivial)))) (j9 (fun h=>by kernel_rfl) trivial) (j9 juG trivial)
def j9w:Con:=⟨141,[.v ty26,.v iT],[ty26,iT],⟨[.own 99 ty13],[]⟩,[ty13],Pw.unc2 Pw.j8q⟩
def jlI:FnD where
 N:=29
 np:=2
 cs:=[j5F]
 ds:=[⟨0,[sI,.s (.one (.ol 1000000)),.s (.one (.d ty26)),sI,sI,.b (.lst 99 ty8 false)],[iT,ty26,iT,iT,ty13],[⟨.exit 0,[.s (.one (.ol 1500100)),.b (.lst 99 ty8 false)],[ty13]⟩],Pw.unc5 (Pw.j9W)⟩]
 modes:=[(185,[false])]
 keep:=[(0,⟨[1,5,8,9,10],[],[⟨1000000,99,ty8,[.slot 5],false⟩],[]⟩)]
 keepX:=[(0,.exit 0,⟨[5],[],[⟨1500100,99,ty8,[.slot 5],false⟩],[]⟩)]
 ro:=[true]
theorem jkM:Con.OK Tryz.prog j9w:=
 cOf j0c j03 jlI j9w Tryz.func141 (j9 j9t trivial) (j9 (fun h=>by kernel_rfl) trivial)
def jbA:Con:=⟨69,[.v ty84,.v iT,.v iT,.v iT,.v iT],[ty84,iT,iT,iT,iT],⟨[.own 99 ty13,.v iT],[]⟩,[ty13,iT],Pw.unc5 Pw.jaR⟩
def joe:FnD where
 N:=33
 np:=5
 cs:=[j3D,j9w]
 ds:=[]
 modes:=[(23,[false,false,false,false]),(141,[false,false])]
 ro:=[true,false]
theorem jnn:Con.OK Tryz.prog jbA:=
 cOf j0c j03 joe jbA Tryz.func69 (j9 j79 (j9 jkM trivial)) trivial
def je2:Con:=⟨70,[.v ty84,.v iT],[ty84,iT],⟨[.own 3 (.list iT)],[]⟩,[(.list iT)],Pw.unc2 Pw.jev⟩
def jrO:FnD where
 N:=33
 np:=2
 cs:=[jcO,j8y]
 ds:=[⟨0,[sI,.s (.one (.bp 320 0)),.s (.one (.ol 1000000)),.s (.one (.d ty78)),sI,sI,.b (.cell [.d ty66,.d ty56,.d ty29,.d ty78,.d ty33] false),.b (.lst 3 iT false)],[iT,ty78,iT,iT,ty66,ty56,ty29,ty78,ty33,(.list iT)],[⟨.exit 0,[.s (.one (.ol 1500100)),.b (.lst 3 iT false)],[(.list iT)]⟩],Pw.jlv (Pw.j5g)⟩]
 modes:=[(80,[false,false,false]),(86,[false])]
 keep:=[(0,⟨[1,5,7,18,19,20],[320],[⟨1000000,3,iT,[.slot 7],false⟩],[]⟩)]
 keepX:=[(0,.exit 0,⟨[7],[],[⟨1500100,3,iT,[.slot 7],false⟩],[]⟩)]
 ro:=[true]
theorem jq6:Con.OK Tryz.prog je2:=
 cOf j0c j03 jrO je2 Tryz.func70 (j9 jkG (j9 jfn trivial)) (j9 (fun h=>by kernel_rfl) trivial)
def jgV:Con:=⟨39,[.v ty84,.v iT,.v iT],[ty84,iT,iT],⟨[.v iT],[]⟩,[iT],Pw.unc3 Pw.jhu⟩
def jvz:FnD where
 N:=30
 np:=3
 cs:=[jcO,j9p,j8y]
 ds:=[]
 modes:=[(80,[false,false,false]),(86,[false]),(100,[false,false])]
 ro:=[false]
theorem jth:Con.OK Tryz.prog jgV:=
 cOf j0c j03 jvz jgV Tryz.func39 (j9 jkG (j9 ji2 (j9 jfn trivial))) trivial
def jaC:Con:=⟨27,[.v ty84,.v iT,.v iT],[ty84,iT,iT],⟨[.v iT],[]⟩,[iT],Pw.unc3 Pw.j7L⟩
def jrP:FnD where
 N:=11
 np:=3
 cs:=[jgV]
 ds:=[]
 modes:=[(39,[false,false,false])]
 ro:=[false]
theorem jjW:Con.OK Tryz.prog jaC:=
 cOf j0c j03 jrP jaC Tryz.func27 (j9 jth trivial) trivial
def je3:Con:=⟨18,[],[],⟨[.v .bool],[]⟩,[.bool],fun h=>Pw.jag⟩
def jrQ:FnD where
 N:=93
 np:=0
 cs:=[jai,j3D,j9v,jcX,jbA,je2,jaC]
 ds:=[]
 modes:=[(23,[false,false,false,false]),(27,[false,false,false]),(28,[false,false,false,false]),(29,[false,false,false]),(68,[]),(69,[false,false,false,false,false]),(70,[false,false])]
 ro:=[false]
theorem jq7:Con.OK Tryz.prog je3:=
 cOf j0c j03 jrQ je3 Tryz.func18 (j9 jlx (j9 j79 (j9 jkL (j9 jod (j9 jnn (j9 jq6 (j9 jjW trivial))))))) trivial
def jfo:Con:=⟨19,[.v (.list iT)],[(.list iT)],⟨[.box [(.list iT),iT]],[]⟩,[(.list iT),iT],fun h=>Pw.jmX h⟩
def jti:FnD where
 N:=6
 np:=1
 cs:=[]
 ds:=[]
 ro:=[false]
theorem jrR:Con.OK Tryz.prog jfo:=
 cOf j0c j03 jti jfo Tryz.func19 trivial trivial
def j1p:Con:=⟨40,[.ref [(.list iT),iT],.v iT],[(.list iT),iT,iT],⟨[.v iT],[.ref [(.list iT),iT]]⟩,[iT,(.list iT),iT],Pw.unc3 Pw.j06⟩
def jlJ:FnD where
 N:=45
 np:=2
 cs:=[]
 ds:=[]
 ro:=[false]
theorem j2x:Con.OK Tryz.prog j1p:=
 cOf j0c j03 jlJ j1p Tryz.func40 trivial trivial
def j2G:Con:=⟨45,[.ref [(.list iT),iT],.v (.list iT)],[(.list iT),iT,(.list iT)],⟨[.v iT],[.ref [(.list iT),iT]]⟩,[iT,(.list iT),iT],Pw.unc3 Pw.j1v⟩
def jlK:FnD where
 N:=12
 np:=2
 cs:=[j1p]
 ds:=[]
 modes:=[(40,[false,false])]
 ro:=[false]
theorem j4G:Con.OK Tryz.prog j2G:=
 cOf j0c j03 jlK j2G Tryz.func45 (j9 j2x trivial) trivial
def j9x:Con:=⟨149,[.ref [(.list iT),iT],.v .str],[(.list iT),iT,.str],⟨[.v ty65],[.ref [(.list iT),iT]]⟩,[ty65,(.list iT),iT],Pw.unc3 Pw.j4B⟩
def jlL:FnD where
 N:=98
 np:=2
 cs:=[j1p,j2G]
 ds:=[]
 modes:=[(40,[false,false]),(45,[false,false])]
 ro:=[false]
 dw:=[(7,[[],[],[0],[],[],[0],[],[0],[],[],[],[],[0],[],[],[],[],[],[],[0],[],[],[3968],[0,3968],[],[0],[],[0],[],[],[],[],[4608],[],[320]]),(9,[[],[],[],[5056],[0,5056],[],[]])]
theorem jkN:Con.OK Tryz.prog j9x:=
 cOf j0c j03 jlL j9x Tryz.func149 (j9 j2x (j9 j4G trivial)) trivial
def jaD:Con:=⟨73,[],[],⟨[.own 9 (.list .str)],[]⟩,[(.list .str)],fun h=>Pw.jhv⟩
def jrS:FnD where
 N:=2
 np:=0
 cs:=[]
 ds:=[]
 ro:=[true]
theorem jjX:Con.OK Tryz.prog jaD:=
 cOf j0c j03 jrS jaD Tryz.func73 trivial trivial
def j47:Con:=⟨74,[.ref [(.list iT),iT],.v iT],[(.list iT),iT,iT],⟨[.v .bool],[.ref [(.list iT),iT]]⟩,[.bool,(.list iT),iT],Pw.unc3 Pw.j1d⟩
def jlM:FnD where
 N:=11
 np:=2
 cs:=[j1p]
 ds:=[]
 modes:=[(40,[false,false])]
 ro:=[false]
theorem j7R:Con.OK Tryz.prog j47:=
 cOf j0c j03 jlM j47 Tryz.func74 (j9 j2x trivial) trivial
end Go.Proofs.Pk
