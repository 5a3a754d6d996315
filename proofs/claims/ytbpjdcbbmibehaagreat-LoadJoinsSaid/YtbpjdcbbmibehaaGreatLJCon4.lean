/- cL: each given function is its plain function, printed by a program. -/
import Derived.Test.YtbpjdcbbmibehaaGreatLJCon3
noncomputable section
open Go Go.Lft
set_option linter.unusedVariables false
set_option maxRecDepth 100000
namespace Go.Proofs.Pk
def NK:Con:=⟨174,[.v ct],[ct],⟨[.v iT],[]⟩,[iT],λh=>Pw.j7Z h⟩
def jjq:FnD where
 N:=72
 np:=1
 cs:=[yL,Ng,Nk,Nw,NJ]
 ds:=[⟨0,[.s (.one (.bp 64 0)),.s (.one (.ol 1000000)),.s (.one (.d aS)),sI,sI,.b (.cell [.d aK,.d aS,.d aR,.d aZ] false),.b (.lst 4294967597 (.pair .str .bool) false)],[aS,iT,iT,aK,aS,aR,aZ,(.list (.pair .str .bool))],[⟨.ret,[sI],[iT]⟩,⟨.exit 0,[.s (.one (.bp 64 0)),.b (.cell [.d aK,.d aS,.d aR,.d aZ] false)],[aK,aS,aR,aZ]⟩],Pw.unc8 (Pw.j31)⟩]
 modes:=[(244,[false,false,false]),(247,[false,true]),(248,[false,false]),(249,[false,false,false]),(253,[false,false,false])]
 keep:=[(0,⟨[1,4,39,40,41],[64],[⟨1000000,4294967597,(.pair .str .bool),[.slot 4],false⟩],[]⟩)]
 keepX:=[(0,.ret,⟨[2],[],[],[]⟩),
  (0,.exit 0,⟨[1],[64],[],[]⟩)]
 ro:=[false]
theorem jhW:Con.OK Tryz.prog NK:=
 cOf aC aD jjq NK Tryz.func174 (j9 EC (j9 jbE (j9 jdt (j9 j9N (j9 j9P trivial))))) (j9 (λh=>by kernel_rfl) trivial)
def H3:Con:=⟨73,[.v cm],[cm],⟨[.v cG,.v iT],[]⟩,[cG,iT],λh=>Pw.jfd h⟩
def jtG:FnD where
 N:=16
 np:=1
 cs:=[H2]
 ds:=[]
 modes:=[(138,[false])]
 ro:=[false,false]
theorem VE:Con.OK Tryz.prog H3:=
 cOf aC aD jtG H3 Tryz.func73 (j9 VD trivial) trivial
def NL:Con:=⟨288,[.v aK],[aK],⟨[.own 139 gE],[]⟩,[gE],λh=>Pw.jfe h⟩
def jmr:FnD where
 N:=25
 np:=1
 cs:=[H3]
 ds:=[⟨0,[.s (.one (.ol 1000000)),.s (.one (.d aK)),sI,sI,.b (.lst 139 cG false)],[aK,iT,iT,gE],[⟨.exit 0,[.s (.one (.ol 1500100)),.b (.lst 139 cG false)],[gE]⟩],Pw.unc4 (Pw.j3Z)⟩]
 modes:=[(73,[false])]
 keep:=[(0,⟨[3,8,9,10],[],[⟨1000000,139,cG,[.slot 3],false⟩],[]⟩)]
 keepX:=[(0,.exit 0,⟨[3],[],[⟨1500100,139,cG,[.slot 3],false⟩],[]⟩)]
 ro:=[true]
theorem jkf:Con.OK Tryz.prog NL:=
 cOf aC aD jmr NL Tryz.func288 (j9 VE trivial) (j9 (λh=>by kernel_rfl) trivial)
def NM:Con:=⟨216,[.v ct],[ct],⟨[.v fP],[]⟩,[fP],λh=>Pw.jgd h⟩
def jpF:FnD where
 N:=8
 np:=1
 cs:=[NL]
 ds:=[]
 modes:=[(288,[false])]
 ro:=[false]
 dw:=[(1,[[],[],[],[384],[],[128]])]
theorem joh:Con.OK Tryz.prog NM:=
 cOf aC aD jpF NM Tryz.func216 (j9 jkf trivial) trivial
def NN:Con:=⟨147,[.v ct],[ct],⟨[.v fP,.v .bool],[]⟩,[fP,.bool],λh=>Pw.jm9 h⟩
def jtH:FnD where
 N:=10
 np:=1
 cs:=[NK,NM]
 ds:=[]
 modes:=[(174,[false]),(216,[false])]
 ro:=[false,false]
theorem jrN:Con.OK Tryz.prog NN:=
 cOf aC aD jtH NN Tryz.func147 (j9 jhW (j9 joh trivial)) trivial
def NO:Con:=⟨175,[.v ct,.v iT],[ct,iT],⟨[.v .bool],[]⟩,[.bool],Pw.unc2 Pw.jff⟩
def jms:FnD where
 N:=14
 np:=2
 cs:=[]
 ds:=[]
 ro:=[false]
theorem jkg:Con.OK Tryz.prog NO:=
 cOf aC aD jms NO Tryz.func175 trivial trivial
def NP:Con:=⟨148,[.v iT,.v iT],[iT,iT],⟨[.v .bool],[]⟩,[.bool],Pw.unc2 Pw.jh7⟩
def joi:FnD where
 N:=26
 np:=2
 cs:=[]
 ds:=[]
 ro:=[false]
theorem jmt:Con.OK Tryz.prog NP:=
 cOf aC aD joi NP Tryz.func148 trivial trivial
def NQ:Con:=⟨133,[.v ct,.v iT,.v iT,.v iT],[ct,iT,iT,iT],⟨[.v fP,.v iT],[]⟩,[fP,iT],Pw.unc4 Pw.j8N⟩
def jmu:FnD where
 N:=34
 np:=4
 cs:=[NN,NO,NP]
 ds:=[]
 modes:=[(147,[false]),(148,[false,false]),(175,[false,false])]
 ro:=[false,false]
theorem jkh:Con.OK Tryz.prog NQ:=
 cOf aC aD jmu NQ Tryz.func133 (j9 jrN (j9 jkg (j9 jmt trivial))) trivial
def VF:Con:=⟨184,[.v (.list iT)],[(.list iT)],⟨[.own 3 (.list iT)],[]⟩,[(.list iT)],λh=>Pw.j6T h⟩
def jdu:FnD where
 N:=8
 np:=1
 cs:=[]
 ds:=[]
 ro:=[true]
theorem jd4:Con.OK Tryz.prog VF:=
 TR aC aD jdu 184 iT 3 Tryz.f184 (Tryz.f184.body.getD .skip) Tryz.func184 (by kernel_rfl) (by kernel_rfl) (ql (by kernel_rfl)) (by kernel_rfl) trivial (by kernel_rfl)
  (λh R k=>by kernel_rfl)
def H4:Con:=⟨219,[.v iT,.ip [iT],.ip [iT]],[iT,iT,iT],⟨[.v .bool],[]⟩,[.bool],Pw.unc3 Pw.j9g⟩
def jki:FnD where
 N:=13
 np:=3
 cs:=[]
 ds:=[]
 ro:=[false]
theorem VG:Con.OK Tryz.prog H4:=
 cOf aC aD jki H4 Tryz.func219 trivial trivial
def NR:Con:=⟨291,[.rl 3 (.list iT),.clo 219 [.p [iT],.p [iT]]],[(.list iT),iT,iT],⟨[.v iT],[.rl (.list iT)]⟩,[iT,(.list iT)],Pw.unc3 Pw.j40⟩
def j9Q:FnD where
 N:=19
 np:=2
 cs:=[H4]
 ds:=[⟨0,[.s (.one (.ol 0)),.s (.one (.clo 219 [.p [iT],.p [iT]])),sI,sI,.b (.lst 3 iT false)],[iT,iT,iT,iT,(.list iT)],[⟨.ret,[sI,.b (.lst 3 iT false)],[iT,(.list iT)]⟩,⟨.exit 0,[.b (.lst 3 iT false)],[(.list iT)]⟩],Pw.unc5 (Pw.j0J)⟩]
 modes:=[(219,[false])]
 keep:=[(0,⟨[0,1,7,8],[0],[],[]⟩)]
 keepX:=[(0,.ret,⟨[4],[0],[],[]⟩),
  (0,.exit 0,⟨[],[0],[],[]⟩)]
 ro:=[false]
theorem j9s:Con.OK Tryz.prog NR:=
 cOf aC aD j9Q NR Tryz.func291 (j9 VG trivial) (j9 (λh=>by kernel_rfl) trivial)
def NS:Con:=⟨218,[.rl 3 (.list iT),.clo 219 [.p [iT],.p [iT]]],[(.list iT),iT,iT],⟨[.hd],[.rl (.list iT)]⟩,[iT,(.list iT)],Pw.unc3 Pw.j2X⟩
def jaP:FnD where
 N:=42
 np:=2
 cs:=[H4,NR]
 ds:=[⟨0,[.s (.one (.ol 0)),.s (.one (.clo 219 [.p [iT],.p [iT]])),sI,sI,.b (.lst 3 iT false)],[iT,iT,iT,iT,(.list iT)],[⟨.exit 0,[.s (.one (.ol 0)),sI,.b (.lst 3 iT false)],[iT,(.list iT)]⟩],Pw.unc5 (Pw.j0Y)⟩]
 modes:=[(219,[false]),(291,[true,false])]
 keep:=[(0,⟨[0,1,5,6],[0],[],[]⟩)]
 keepX:=[(0,.exit 0,⟨[0,5],[0],[],[]⟩)]
 ro:=[false]
 hd:=true
theorem jaf:Con.OK Tryz.prog NS:=
 cOf aC aD jaP NS Tryz.func218 (j9 VG (j9 j9s trivial)) (j9 (λh=>by kernel_rfl) trivial)
def VH:Con:=⟨210,[.rl 3 (.list iT)],[(.list iT)],⟨[],[.rl (.list iT)]⟩,[(.list iT)],λh=>Pw.j5v h⟩
def joj:FnD where
 N:=11
 np:=1
 cs:=[]
 ds:=[]
theorem jdv:Con.OK Tryz.prog VH:=
 jtC Tryz.sort210 3 (by kernel_rfl) 210 rfl
def NU:Con:=⟨220,[.rl 3 (.list iT)],[(.list iT)],⟨[.hd],[.rl (.list iT)]⟩,[iT,(.list iT)],λh=>Pw.j4b h⟩
def jcm:FnD where
 N:=61
 np:=1
 cs:=[]
 ds:=[⟨0,[.s (.one (.ol 0)),sI,.b (.lst 3 iT false)],[iT,(.list iT)],[⟨.ret,[.s (.one (.hd 0)),.b (.lst 3 iT false)],[iT,(.list iT)]⟩,⟨.exit 0,[.s (.one (.ol 0)),.b (.lst 3 iT false)],[(.list iT)]⟩],Pw.unc2 (Pw.j1h)⟩,
  ⟨2,[.s (.one (.ol 0)),sI,.s (.one (.tl 0)),sI,.b (.lst 3 iT false)],[iT,iT,iT,(.list iT)],[⟨.exit 2,[.s (.one (.ol 0)),sI,.b (.lst 3 iT false)],[iT,(.list iT)]⟩],Pw.unc4 (Pw.j1g)⟩]
 keep:=[(0,⟨[0,3],[0],[],[]⟩),
  (2,⟨[0,3,4,5],[0],[],[]⟩)]
 keepX:=[(0,.ret,⟨[2],[0],[],[]⟩),
  (0,.exit 0,⟨[0],[0],[],[]⟩),
  (2,.exit 2,⟨[0,3],[0],[],[]⟩)]
 ro:=[false]
 hd:=true
theorem jbJ:Con.OK Tryz.prog NU:=
 cOf aC aD jcm NU Tryz.func220 trivial (j9 (λh=>by kernel_rfl) (j9 (λh=>by kernel_rfl) trivial))
def NV:Con:=⟨152,[.v (.list iT),.v iT,.v iT],[(.list iT),iT,iT],⟨[.own 3 (.list iT)],[]⟩,[(.list iT)],Pw.unc3 Pw.jge⟩
def jpG:FnD where
 N:=19
 np:=3
 cs:=[VF,NS,VH,NU]
 ds:=[]
 modes:=[(184,[false]),(210,[true]),(218,[true,false]),(220,[true])]
 ro:=[true]
 dw:=[(3,[[],[704,960],[],[1088],[960,1152],[]])]
theorem jok:Con.OK Tryz.prog NV:=
 cOf aC aD jpG NV Tryz.func152 (j9 jd4 (j9 jaf (j9 jdv (j9 jbJ trivial)))) trivial
def NW:Con:=⟨266,[.v cp],[cp],⟨[.clo 319 [.p [cp]]],[]⟩,[cp],λh=>Pw.j23 h⟩
def j72:FnD where
 N:=4
 np:=1
 cs:=[]
 ds:=[]
 ro:=[false]
theorem j6J:Con.OK Tryz.prog NW:=
 cOf aC aD j72 NW Tryz.func266 trivial trivial
def H5:Con:=⟨362,[.v cX],[cX],⟨[.v iT],[]⟩,[iT],λh=>Pw.j8O h⟩
def jol:FnD where
 N:=11
 np:=1
 cs:=[]
 ds:=[]
 ro:=[false]
theorem VI:Con.OK Tryz.prog H5:=
 cOf aC aD jol H5 Tryz.func362 trivial trivial
def NX:Con:=⟨282,[.v iT,.ip [iT,aa],.ip [iT]],[iT,iT,aa,iT],⟨[.v .bool],[]⟩,[.bool],Pw.unc4 Pw.j7v⟩
def jeb:FnD where
 N:=13
 np:=3
 cs:=[]
 ds:=[]
 ro:=[false]
theorem jdw:Con.OK Tryz.prog NX:=
 cOf aC aD jeb NX Tryz.func282 trivial trivial
def NY:Con:=⟨281,[.v iT,.clo 282 [.p [iT,aa],.p [iT]]],[iT,iT,aa,iT],⟨[.v iT],[]⟩,[iT],Pw.unc4 Pw.jfg⟩
def jmv:FnD where
 N:=26
 np:=2
 cs:=[NX]
 ds:=[⟨0,[.s (.one (.clo 282 [.p [iT,aa],.p [iT]])),sI,sI],[iT,aa,iT,iT,iT],[⟨.exit 0,[sI],[iT]⟩],Pw.unc5 (Pw.j2P)⟩]
 modes:=[(282,[false])]
 keep:=[(0,⟨[1,5,6],[],[],[]⟩)]
 keepX:=[(0,.exit 0,⟨[5],[],[],[]⟩)]
 ro:=[false]
theorem jkj:Con.OK Tryz.prog NY:=
 cOf aC aD jmv NY Tryz.func281 (j9 jdw trivial) (j9 (λh=>by kernel_rfl) trivial)
def H6:Con:=⟨202,[.v cG,.v iT],[cG,iT],⟨[.v iT],[]⟩,[iT],Pw.unc2 Pw.j5K⟩
def jgx:FnD where
 N:=10
 np:=2
 cs:=[NY]
 ds:=[]
 modes:=[(281,[false,false])]
 ro:=[false]
theorem VJ:Con.OK Tryz.prog H6:=
 cOf aC aD jgx H6 Tryz.func202 (j9 jkj trivial) trivial
end Go.Proofs.Pk
