/- Contracts: each given function is its plain function, printed by a program. -/
import Derived.Test.YtaieocafhcjelaaGreatBCon5
noncomputable section
open Go Go.Lft
set_option linter.unusedVariables false
set_option maxRecDepth 100000
namespace Go.Proofs.Pk
def j7d:Con:=⟨181,[.v ty86,.v ty72,.v iT],[ty86,ty72,iT],⟨[.v iT],[]⟩,[iT],Pw.unc3 Pw.j1W⟩
def jgz:FnD where
 N:=27
 np:=3
 cs:=[ja2]
 ds:=[]
 modes:=[(262,[false,false,false])]
 ro:=[false]
theorem jfE:Con.OK Tryz.prog j7d:=
 cOf j0n j04 jgz j7d Tryz.func181 (j9 jjD trivial) trivial
def j99:Con:=⟨179,[.v ty42,.ip [iT],.ip [iT]],[ty42,iT,iT],⟨[.v .bool],[]⟩,[.bool],Pw.unc3 Pw.jcZ⟩
def jjE:FnD where
 N:=26
 np:=3
 cs:=[]
 ds:=[]
 ro:=[false]
theorem ji4:Con.OK Tryz.prog j99:=
 cOf j0n j04 jjE j99 Tryz.func179 trivial trivial
def j2s:Con:=⟨260,[.v ty44,.clo 179 [.p [iT],.p [iT]]],[ty44,iT,iT],⟨[.v iT],[]⟩,[iT],Pw.unc3 Pw.j0S⟩
def j7x:FnD where
 N:=19
 np:=2
 cs:=[j99]
 ds:=[⟨0,[.s (.one (.d ty44)),.s (.one (.clo 179 [.p [iT],.p [iT]])),sI,sI],[ty44,iT,iT,iT,iT],[⟨.ret,[sI],[iT]⟩,⟨.exit 0,[],[]⟩],Pw.unc5 (Pw.j0M)⟩]
 modes:=[(179,[false])]
 keep:=[(0,⟨[0,1,7,8],[],[],[]⟩)]
 keepX:=[(0,.ret,⟨[4],[],[],[]⟩),
  (0,.exit 0,⟨[],[],[],[]⟩)]
 ro:=[false]
theorem j7e:Con.OK Tryz.prog j2s:=
 cOf j0n j04 j7x j2s Tryz.func260 (j9 ji4 trivial) (j9 (fun h=>by kernel_rfl) trivial)
def j25:Con:=⟨178,[.v ty44,.clo 179 [.p [iT],.p [iT]]],[ty44,iT,iT],⟨[.v .bool],[]⟩,[.bool],Pw.unc3 Pw.j0H⟩
def j6E:FnD where
 N:=9
 np:=2
 cs:=[j2s]
 ds:=[]
 modes:=[(260,[false,false])]
 ro:=[false]
theorem j6i:Con.OK Tryz.prog j25:=
 cOf j0n j04 j6E j25 Tryz.func178 (j9 j7e trivial) trivial
def jc5:Con:=⟨107,[.v ty77,.v iT,.v iT],[ty77,iT,iT],⟨[.v .bool],[]⟩,[.bool],Pw.unc3 Pw.j8Z⟩
def jnF:FnD where
 N:=11
 np:=3
 cs:=[j25]
 ds:=[]
 modes:=[(178,[false,false])]
 ro:=[false]
theorem jm8:Con.OK Tryz.prog jc5:=
 cOf j0n j04 jnF jc5 Tryz.func107 (j9 j6i trivial) trivial
def j9a:Con:=⟨109,[.v ty86,.v ty77,.v iT],[ty86,ty77,iT],⟨[.v iT,.v iT],[]⟩,[iT,iT],Pw.unc3 Pw.j36⟩
def jjF:FnD where
 N:=29
 np:=3
 cs:=[j1n,j7d,jc5]
 ds:=[⟨0,[sI,.s (.one (.bp 192 0)),.s (.one (.bp 256 0)),.s (.one (.bp 320 0)),.s (.one (.bp 384 0)),.s (.one (.bp 448 0)),.s (.one (.clo 261 [.p [ty73]])),.b (.cell [.d ty66,.d ty56,.d ty29,.d ty78,.d ty33] false),.b (.cell [.d .str,.d ty73,.d ty44] false),.b (.cell [.d iT] false),.b (.cell [.d iT] false),.b (.cell [.d iT] false)],[iT,ty73,ty66,ty56,ty29,ty78,ty33,.str,ty73,ty44,iT,iT,iT],[⟨.normal,[.s (.one (.bp 384 0)),.s (.one (.bp 448 0)),.b (.cell [.d iT] false),.b (.cell [.d iT] false)],[iT,iT]⟩,⟨.ret,[.s (.one (.bp 384 0)),.s (.one (.bp 448 0)),.b (.cell [.d iT] false),.b (.cell [.d iT] false)],[iT,iT]⟩],Pw.jqz (Pw.j1O)⟩]
 modes:=[(107,[false,false,false]),(180,[false]),(181,[false,false,false])]
 keep:=[(0,⟨[3,4,5,6,7,13],[192,256,320,384,448],[],[]⟩)]
 keepX:=[(0,.normal,⟨[6,7],[384,448],[],[]⟩),
  (0,.ret,⟨[6,7],[384,448],[],[]⟩)]
 ro:=[false,false]
 bw:=[(261,(false,ty72))]
theorem ji5:Con.OK Tryz.prog j9a:=
 cOf j0n j04 jjF j9a Tryz.func109 (j9 j3M (j9 jfE (j9 jm8 trivial))) (j9 (fun h=>by kernel_rfl) trivial) (j9 jpM trivial)
def j7y:Con:=⟨80,[.v ty86,.v ty77,.v iT],[ty86,ty77,iT],⟨[.v iT],[]⟩,[iT],Pw.unc3 Pw.j5p⟩
def jnG:FnD where
 N:=27
 np:=3
 cs:=[jao,j9a]
 ds:=[]
 modes:=[(42,[false,false,false]),(109,[false,false,false])]
 ro:=[false]
theorem jdc:Con.OK Tryz.prog j7y:=
 cOf j0n j04 jnG j7y Tryz.func80 (j9 jhP (j9 ji5 trivial)) trivial
def j8m:Con:=⟨29,[.v ty84,.v iT,.v iT],[ty84,iT,iT],⟨[.v ty21,.v iT],[]⟩,[ty21,iT],Pw.unc3 Pw.j4n⟩
def jm9:FnD where
 N:=67
 np:=3
 cs:=[j8g,j5O,j6g,j7y]
 ds:=[⟨0,[sI,sI,.s (.one (.bp 192 0)),.s (.one (.bp 384 0)),.s (.one (.bp 448 0)),.s (.one (.bp 512 0)),sI,.s (.one (.ol 1000000)),.s (.one (.clo 157 [.p [ty26]])),.b (.cell [.d ty66,.d ty56,.d ty29,.d ty78] false),.b (.cell [.d iT,.d iT,.d iT] false),.b (.cell [.d iT] false),.b (.cell [.d ty66,.d ty56,.d ty29,.d ty78,.d ty33] false),.b (.lst 41 ty21 true)],[iT,iT,iT,ty26,ty66,ty56,ty29,ty78,iT,iT,iT,iT,ty66,ty56,ty29,ty78,ty33,ty26],[⟨.normal,[sI,.s (.one (.bp 192 0)),.s (.one (.bp 384 0)),.s (.one (.bp 448 0)),.s (.one (.bp 512 0)),sI,.s (.one (.ol 1500050)),.b (.cell [.d ty66,.d ty56,.d ty29,.d ty78] false),.b (.cell [.d iT,.d iT,.d iT] false),.b (.cell [.d iT] false),.b (.cell [.d ty66,.d ty56,.d ty29,.d ty78,.d ty33] false),.b (.lst 41 ty21 true)],[iT,iT,ty66,ty56,ty29,ty78,iT,iT,iT,iT,ty66,ty56,ty29,ty78,ty33,ty26]⟩,⟨.ret,[.s (.one (.bp 384 0)),.s (.one (.bp 448 0)),.b (.cell [.d iT,.d iT,.d iT] false),.b (.cell [.d iT] false)],[iT,iT,iT,iT]⟩],Pw.jwc (Pw.j5H)⟩]
 modes:=[(75,[false,false,false,false]),(76,[false,false,false,false]),(79,[false]),(80,[false,false,false])]
 keep:=[(0,⟨[1,3,6,7,8,10,11,39],[192,384,448,512],[⟨1000000,41,ty21,[.slot 11],false⟩],[]⟩)]
 keepX:=[(0,.normal,⟨[1,3,6,7,8,10,11],[192,384,448,512],[⟨1500050,41,ty21,[.slot 11],false⟩],[]⟩),
  (0,.ret,⟨[6,7],[384,448],[],[]⟩)]
 ro:=[false,false]
 dw:=[(5,[[],[],[],[],[],[],[],[],[2368],[]])]
 bw:=[(157,(true,ty21))]
theorem jf2:Con.OK Tryz.prog j8m:=
 cOf j0n j04 jm9 j8m Tryz.func29 (j9 jf1 (j9 jbK (j9 jcz (j9 jdc trivial)))) (j9 (fun h=>by kernel_rfl) trivial) (j9 jpN trivial)
def j8n:Con:=⟨141,[.v ty26,.v iT],[ty26,iT],⟨[.own 99 ty13],[]⟩,[ty13],Pw.unc2 Pw.j7s⟩
def ji6:FnD where
 N:=29
 np:=2
 cs:=[j54]
 ds:=[⟨0,[sI,.s (.one (.ol 1000000)),.s (.one (.d ty26)),sI,sI,.b (.lst 99 ty8 false)],[iT,ty26,iT,iT,ty13],[⟨.exit 0,[.s (.one (.ol 1500100)),.b (.lst 99 ty8 false)],[ty13]⟩],Pw.unc5 (Pw.j8M)⟩]
 modes:=[(185,[false])]
 keep:=[(0,⟨[1,5,8,9,10],[],[⟨1000000,99,ty8,[.slot 5],false⟩],[]⟩)]
 keepX:=[(0,.exit 0,⟨[5],[],[⟨1500100,99,ty8,[.slot 5],false⟩],[]⟩)]
 ro:=[true]
theorem jhm:Con.OK Tryz.prog j8n:=
 cOf j0n j04 ji6 j8n Tryz.func141 (j9 j8j trivial) (j9 (fun h=>by kernel_rfl) trivial)
def ja3:Con:=⟨69,[.v ty84,.v iT,.v iT,.v iT,.v iT],[ty84,iT,iT,iT,iT],⟨[.own 99 ty13,.v iT],[]⟩,[ty13,iT],Pw.unc5 Pw.j9x⟩
def jkn:FnD where
 N:=33
 np:=5
 cs:=[j4q,j8n]
 ds:=[]
 modes:=[(23,[false,false,false,false]),(141,[false,false])]
 ro:=[true,false]
theorem jjG:Con.OK Tryz.prog ja3:=
 cOf j0n j04 jkn ja3 Tryz.func69 (j9 j8l (j9 jhm trivial)) trivial
def jc6:Con:=⟨70,[.v ty84,.v iT],[ty84,iT],⟨[.own 3 (.list iT)],[]⟩,[(.list iT)],Pw.unc2 Pw.jct⟩
def jnH:FnD where
 N:=33
 np:=2
 cs:=[jaY,j7y]
 ds:=[⟨0,[sI,.s (.one (.bp 320 0)),.s (.one (.ol 1000000)),.s (.one (.d ty78)),sI,sI,.b (.cell [.d ty66,.d ty56,.d ty29,.d ty78,.d ty33] false),.b (.lst 3 iT false)],[iT,ty78,iT,iT,ty66,ty56,ty29,ty78,ty33,(.list iT)],[⟨.exit 0,[.s (.one (.ol 1500100)),.b (.lst 3 iT false)],[(.list iT)]⟩],Pw.jqy (Pw.j4N)⟩]
 modes:=[(80,[false,false,false]),(86,[false])]
 keep:=[(0,⟨[1,5,7,18,19,20],[320],[⟨1000000,3,iT,[.slot 7],false⟩],[]⟩)]
 keepX:=[(0,.exit 0,⟨[7],[],[⟨1500100,3,iT,[.slot 7],false⟩],[]⟩)]
 ro:=[true]
theorem jma:Con.OK Tryz.prog jc6:=
 cOf j0n j04 jnH jc6 Tryz.func70 (j9 jhh (j9 jdc trivial)) (j9 (fun h=>by kernel_rfl) trivial)
def jee:Con:=⟨39,[.v ty84,.v iT,.v iT],[ty84,iT,iT],⟨[.v iT],[]⟩,[iT],Pw.unc3 Pw.jeD⟩
def jqC:FnD where
 N:=30
 np:=3
 cs:=[jaY,j8f,j7y]
 ds:=[]
 modes:=[(80,[false,false,false]),(86,[false]),(100,[false,false])]
 ro:=[false]
theorem joO:Con.OK Tryz.prog jee:=
 cOf j0n j04 jqC jee Tryz.func39 (j9 jhh (j9 jf0 (j9 jdc trivial))) trivial
def j9i:Con:=⟨27,[.v ty84,.v iT,.v iT],[ty84,iT,iT],⟨[.v iT],[]⟩,[iT],Pw.unc3 Pw.j5q⟩
def jnI:FnD where
 N:=11
 np:=3
 cs:=[jee]
 ds:=[]
 modes:=[(39,[false,false,false])]
 ro:=[false]
theorem jgA:Con.OK Tryz.prog j9i:=
 cOf j0n j04 jnI j9i Tryz.func27 (j9 joO trivial) trivial
def jc7:Con:=⟨18,[],[],⟨[.v .bool],[]⟩,[.bool],fun h=>Pw.j91⟩
def jnJ:FnD where
 N:=93
 np:=0
 cs:=[j92,j4q,j6h,j8m,ja3,jc6,j9i]
 ds:=[]
 modes:=[(23,[false,false,false,false]),(27,[false,false,false]),(28,[false,false,false,false]),(29,[false,false,false]),(68,[]),(69,[false,false,false,false,false]),(70,[false,false])]
 ro:=[false]
theorem jmb:Con.OK Tryz.prog jc7:=
 cOf j0n j04 jnJ jc7 Tryz.func18 (j9 jhV (j9 j8l (j9 jcA (j9 jf2 (j9 jjG (j9 jma (j9 jgA trivial))))))) trivial
def jdd:Con:=⟨19,[.v (.list iT)],[(.list iT)],⟨[.box [(.list iT),iT]],[]⟩,[(.list iT),iT],fun h=>Pw.jjk h⟩
def joP:FnD where
 N:=6
 np:=1
 cs:=[]
 ds:=[]
 ro:=[false]
theorem jnK:Con.OK Tryz.prog jdd:=
 cOf j0n j04 joP jdd Tryz.func19 trivial trivial
def j1o:Con:=⟨40,[.ref [(.list iT),iT],.v iT],[(.list iT),iT,iT],⟨[.v iT],[.ref [(.list iT),iT]]⟩,[iT,(.list iT),iT],Pw.unc3 Pw.j03⟩
def ji7:FnD where
 N:=45
 np:=2
 cs:=[]
 ds:=[]
 ro:=[false]
theorem j2t:Con.OK Tryz.prog j1o:=
 cOf j0n j04 ji7 j1o Tryz.func40 trivial trivial
def j2y:Con:=⟨45,[.ref [(.list iT),iT],.v (.list iT)],[(.list iT),iT,(.list iT)],⟨[.v iT],[.ref [(.list iT),iT]]⟩,[iT,(.list iT),iT],Pw.unc3 Pw.j1t⟩
def ji8:FnD where
 N:=12
 np:=2
 cs:=[j1o]
 ds:=[]
 modes:=[(40,[false,false])]
 ro:=[false]
theorem j4i:Con.OK Tryz.prog j2y:=
 cOf j0n j04 ji8 j2y Tryz.func45 (j9 j2t trivial) trivial
def j8o:Con:=⟨149,[.ref [(.list iT),iT],.v .str],[(.list iT),iT,.str],⟨[.v ty65],[.ref [(.list iT),iT]]⟩,[ty65,(.list iT),iT],Pw.unc3 Pw.j4e⟩
def ji9:FnD where
 N:=98
 np:=2
 cs:=[j1o,j2y]
 ds:=[]
 modes:=[(40,[false,false]),(45,[false,false])]
 ro:=[false]
 dw:=[(7,[[],[],[0],[],[],[0],[],[0],[],[],[],[],[0],[],[],[],[],[],[],[0],[],[],[3968],[0,3968],[],[0],[],[0],[],[],[],[],[4608],[],[320]]),(9,[[],[],[],[5056],[0,5056],[],[]])]
theorem jhn:Con.OK Tryz.prog j8o:=
 cOf j0n j04 ji9 j8o Tryz.func149 (j9 j2t (j9 j4i trivial)) trivial
def j9j:Con:=⟨73,[],[],⟨[.own 9 (.list .str)],[]⟩,[(.list .str)],fun h=>Pw.jeE⟩
def jnL:FnD where
 N:=2
 np:=0
 cs:=[]
 ds:=[]
 ro:=[true]
theorem jgB:Con.OK Tryz.prog j9j:=
 cOf j0n j04 jnL j9j Tryz.func73 trivial trivial
def j3N:Con:=⟨74,[.ref [(.list iT),iT],.v iT],[(.list iT),iT,iT],⟨[.v .bool],[.ref [(.list iT),iT]]⟩,[.bool,(.list iT),iT],Pw.unc3 Pw.j1b⟩
def jia:FnD where
 N:=11
 np:=2
 cs:=[j1o]
 ds:=[]
 modes:=[(40,[false,false])]
 ro:=[false]
theorem j6R:Con.OK Tryz.prog j3N:=
 cOf j0n j04 jia j3N Tryz.func74 (j9 j2t trivial) trivial
end Go.Proofs.Pk
