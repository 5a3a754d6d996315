/- cI: each given function is its plain function, printed by a program. -/
import Derived.Test.YtaieocafhcjelaaGreatDCon0
noncomputable section
open Go Go.Lft
set_option linter.unusedVariables false
set_option maxRecDepth 100000
namespace Go.Proofs.Pk
def KH:Con:=⟨342,[.rl 338 aa,.clo 343 []],[aa],⟨[],[.rl aa]⟩,[aa],λh=>Pw.j0h h⟩
def j56:FnD where
 N:=9
 np:=2
 cs:=[KG]
 ds:=[]
 modes:=[(385,[true,false,false])]
theorem j4Q:Con.OK Tryz.prog KH:=
 cOf aJ aL j56 KH Tryz.func342 (j9 j8d trivial) trivial
def KI:Con:=⟨299,[.v cd],[cd],⟨[.own 338 aa,.v iT],[]⟩,[aa,iT],λh=>Pw.j51 h⟩
def jiO:FnD where
 N:=86
 np:=1
 cs:=[Dv,Ky,KD,KH]
 ds:=[⟨0,[.s (.one (.bp 64 0)),sI,.s (.one (.d dR)),sI,sI,.b (.cell [.d .str,.d iT,.d dR] false)],[iT,dR,iT,iT,.str,iT,dR],[⟨.ret,[.s (.one (.nil)),sI],[iT]⟩,⟨.exit 0,[.s (.one (.bp 64 0)),sI,.b (.cell [.d .str,.d iT,.d dR] false)],[iT,.str,iT,dR]⟩],Pw.unc7 (Pw.j3L)⟩,
  ⟨2,[.s (.one (.ol 1002000)),.s (.one (.d dR)),sI,sI,.b (.lst 338 aQ false)],[dR,iT,iT,aa],[⟨.exit 2,[.s (.one (.ol 1502300)),.b (.lst 338 aQ false)],[aa]⟩],Pw.unc4 (Pw.j1F)⟩,
  ⟨4,[.s (.one (.ol 1004000)),.s (.one (.bp 640 0)),sI,.s (.one (.d dR)),sI,sI,.b (.cell [.d iT,.d iT,.d iT,.d iT,.d iT,.d iT,.d iT] false),.b (.lst 338 aQ false)],[iT,dR,iT,iT,iT,iT,iT,iT,iT,iT,iT,aa],[⟨.exit 4,[.s (.one (.ol 1504500)),.s (.one (.d dR)),sI,sI,.b (.lst 338 aQ false)],[dR,iT,iT,aa]⟩],Pw.jtx (Pw.j1E)⟩]
 modes:=[(300,[false,false,false]),(340,[false]),(341,[false,false,false,false]),(342,[true,false])]
 keep:=[(0,⟨[1,4,23,24,25],[64],[],[]⟩),
  (2,⟨[8,46,47,48],[],[⟨1002000,338,aQ,[.slot 8],false⟩],[]⟩),
  (4,⟨[8,10,11,46,47,48],[640],[⟨1004000,338,aQ,[.slot 8],false⟩],[]⟩)]
 keepX:=[(0,.ret,⟨[2,3],[],[],[]⟩),
  (0,.exit 0,⟨[1,4],[64],[],[]⟩),
  (2,.exit 2,⟨[8],[],[⟨1502300,338,aQ,[.slot 8],false⟩],[]⟩),
  (4,.exit 4,⟨[8,46,47,48],[],[⟨1504500,338,aQ,[.slot 8],false⟩],[]⟩)]
 ro:=[true,false]
theorem jhP:Con.OK Tryz.prog KI:=
 cOf aJ aL jiO KI Tryz.func299 (j9 Kx (j9 jq4 (j9 jq7 (j9 j4Q trivial)))) (j9 (λh=>by kernel_rfl) (j9 (λh=>by kernel_rfl) (j9 (λh=>by kernel_rfl) trivial)))
def Ge:Con:=⟨208,[.v cd],[cd],⟨[.own 186 aa,.v iT],[]⟩,[aa,iT],λh=>Pw.j38 h⟩
def jiP:FnD where
 N:=79
 np:=1
 cs:=[Dv,KI]
 ds:=[⟨0,[.s (.one (.ol 1000000)),sI,.s (.one (.ol 1000001)),sI,sI,.b (.lst 186 aQ false),.b (.lst 338 aQ false)],[iT,iT,iT,aa,aa],[⟨.ret,[.s (.one (.nil)),sI],[iT]⟩,⟨.exit 0,[.s (.one (.ol 1500100)),.b (.lst 186 aQ false)],[aa]⟩],Pw.unc5 (Pw.j3M)⟩]
 modes:=[(299,[false]),(300,[false,false,false])]
 keep:=[(0,⟨[6,7,22,23,24],[],[⟨1000000,186,aQ,[.slot 6],false⟩,⟨1000001,338,aQ,[.slot 22],false⟩],[]⟩)]
 keepX:=[(0,.ret,⟨[2,3],[],[],[]⟩),
  (0,.exit 0,⟨[6],[],[⟨1500100,186,aQ,[.slot 6],false⟩],[]⟩)]
 ro:=[true,false]
theorem Th:Con.OK Tryz.prog Ge:=
 cOf aJ aL jiP Ge Tryz.func208 (j9 Kx (j9 jhP trivial)) (j9 (λh=>by kernel_rfl) trivial)
def KJ:Con:=⟨246,[.v cd],[cd],⟨[.v iT],[]⟩,[iT],λh=>Pw.j9M h⟩
def jq8:FnD where
 N:=11
 np:=1
 cs:=[Ge]
 ds:=[]
 modes:=[(208,[false])]
 ro:=[false]
theorem joC:Con.OK Tryz.prog KJ:=
 cOf aJ aL jq8 KJ Tryz.func246 (j9 Th trivial) trivial
def KK:Con:=⟨248,[.v qL],[qL],⟨[.v .bool],[]⟩,[.bool],λh=>Pw.j8O h⟩
def jfR:FnD where
 N:=7
 np:=1
 cs:=[]
 ds:=[]
 ro:=[false]
theorem jfb:Con.OK Tryz.prog KK:=
 cOf aJ aL jfR KK Tryz.func248 trivial trivial
def KL:Con:=⟨319,[.v dR,.clo 248 []],[dR],⟨[.v iT],[]⟩,[iT],λh=>Pw.j0N h⟩
def j72:FnD where
 N:=19
 np:=2
 cs:=[KK]
 ds:=[⟨0,[.s (.one (.d dR)),.s (.one (.clo 248 [])),sI,sI],[dR,iT,iT],[⟨.ret,[sI],[iT]⟩,⟨.exit 0,[],[]⟩],Pw.unc3 (Pw.j0I)⟩]
 modes:=[(248,[false])]
 keep:=[(0,⟨[0,1,7,8],[],[],[]⟩)]
 keepX:=[(0,.ret,⟨[4],[],[],[]⟩),
  (0,.exit 0,⟨[],[],[],[]⟩)]
 ro:=[false]
theorem j6Y:Con.OK Tryz.prog KL:=
 cOf aJ aL j72 KL Tryz.func319 (j9 jfb trivial) (j9 (λh=>by kernel_rfl) trivial)
def KM:Con:=⟨247,[.v dR,.clo 248 []],[dR],⟨[.v .bool],[]⟩,[.bool],λh=>Pw.j0D h⟩
def j6v:FnD where
 N:=9
 np:=2
 cs:=[KL]
 ds:=[]
 modes:=[(319,[false,false])]
 ro:=[false]
theorem j6h:Con.OK Tryz.prog KM:=
 cOf aJ aL j6v KM Tryz.func247 (j9 j6Y trivial) trivial
def KN:Con:=⟨167,[.v cd],[cd],⟨[.v iT],[]⟩,[iT],λh=>Pw.j3N h⟩
def jhQ:FnD where
 N:=17
 np:=1
 cs:=[KJ,KM]
 ds:=[]
 modes:=[(246,[false]),(247,[false,false])]
 ro:=[false]
theorem jh9:Con.OK Tryz.prog KN:=
 cOf aJ aL jhQ KN Tryz.func167 (j9 joC (j9 j6h trivial)) trivial
def KO:Con:=⟨165,[.v aG,.clo 166 [],.clo 167 []],[aG],⟨[.v iT],[]⟩,[iT],λh=>Pw.j2O h⟩
def jeH:FnD where
 N:=34
 np:=3
 cs:=[Kt,yp,KN]
 ds:=[⟨0,[.s (.one (.clo 166 [])),.s (.one (.clo 167 [])),.s (.one (.ol 1000000)),.s (.one (.d aG)),sI,sI,.b (.lst 4294967523 (.pair .str .bool) false)],[aG,iT,iT,(.list (.pair .str .bool))],[⟨.ret,[sI],[iT]⟩,⟨.exit 0,[],[]⟩],Pw.unc4 (Pw.j15)⟩]
 modes:=[(166,[false]),(167,[false]),(168,[false,true])]
 keep:=[(0,⟨[1,2,7,13,14,15],[],[⟨1000000,4294967523,(.pair .str .bool),[.slot 7],false⟩],[]⟩)]
 keepX:=[(0,.ret,⟨[6],[],[],[]⟩),
  (0,.exit 0,⟨[],[],[],[]⟩)]
 ro:=[false]
theorem je8:Con.OK Tryz.prog KO:=
 cOf aJ aL jeH KO Tryz.func165 (j9 jhO (j9 Du (j9 jh9 trivial))) (j9 (λh=>by kernel_rfl) trivial)
def yq:Con:=⟨250,[.v iT,.v iT],[iT,iT],⟨[.v .bool],[]⟩,[.bool],Pw.unc2 Pw.j3a⟩
def jlU:FnD where
 N:=12
 np:=2
 cs:=[]
 ds:=[]
 ro:=[false]
theorem Dx:Con.OK Tryz.prog yq:=
 cOf aJ aL jlU yq Tryz.func250 trivial trivial
def Gf:Con:=⟨204,[.v aa],[aa],⟨[.v iT],[]⟩,[iT],λh=>Pw.j9N h⟩
def jq9:FnD where
 N:=46
 np:=1
 cs:=[]
 ds:=[⟨0,[.s (.one (.d aa)),.s (.one (.d aa)),sI,sI],[aa,aa,iT,iT],[⟨.ret,[sI],[iT]⟩,⟨.exit 0,[],[]⟩],Pw.unc4 (Pw.j68)⟩]
 keep:=[(0,⟨[0,8,9,10],[],[],[]⟩)]
 keepX:=[(0,.ret,⟨[2],[],[],[]⟩),
  (0,.exit 0,⟨[],[],[],[]⟩)]
 ro:=[false]
theorem Ti:Con.OK Tryz.prog Gf:=
 cOf aJ aL jq9 Gf Tryz.func204 trivial (j9 (λh=>by kernel_rfl) trivial)
def Dy:Con:=⟨322,[.v iT,.v iT,.v iT],[iT,iT,iT],⟨[.v .bool],[]⟩,[.bool],Pw.unc3 Pw.j7y⟩
def jqa:FnD where
 N:=15
 np:=3
 cs:=[]
 ds:=[]
 ro:=[false]
theorem KP:Con.OK Tryz.prog Dy:=
 cOf aJ aL jqa Dy Tryz.func322 trivial trivial
def KQ:Con:=⟨251,[.v iT],[iT],⟨[.v .bool],[]⟩,[.bool],λh=>Pw.j5k h⟩
def jlV:FnD where
 N:=10
 np:=1
 cs:=[Dy]
 ds:=[]
 modes:=[(322,[false,false,false])]
 ro:=[false]
theorem jkp:Con.OK Tryz.prog KQ:=
 cOf aJ aL jlV KQ Tryz.func251 (j9 KP trivial) trivial
def KR:Con:=⟨169,[.v bS,.v fa],[bS,fa],⟨[.v iT],[]⟩,[iT],Pw.unc2 Pw.j2A⟩
def jgt:FnD where
 N:=29
 np:=2
 cs:=[yq,Gf,KQ]
 ds:=[]
 modes:=[(204,[false]),(250,[false,false]),(251,[false])]
 ro:=[false]
theorem jfS:Con.OK Tryz.prog KR:=
 cOf aJ aL jgt KR Tryz.func169 (j9 Dx (j9 Ti (j9 jkp trivial))) trivial
def KS:Con:=⟨171,[.v dZ],[dZ],⟨[.v .str],[]⟩,[.str],λh=>Pw.jbR h⟩
def jiR:FnD where
 N:=5
 np:=1
 cs:=[]
 ds:=[]
 ro:=[false]
theorem jhR:Con.OK Tryz.prog KS:=
 cOf aJ aL jiR KS Tryz.func171 trivial trivial
def KT:Con:=⟨367,[.v iT],[iT],⟨[.v iT],[]⟩,[iT],λh=>Pw.jeB h⟩
def jqb:FnD where
 N:=15
 np:=1
 cs:=[Gc,Dw]
 ds:=[⟨0,[sI,sI],[iT,iT],[⟨.exit 0,[sI],[iT]⟩],Pw.unc2 (Pw.jdI)⟩]
 modes:=[(366,[false]),(393,[false,false])]
 keep:=[(0,⟨[0,3],[],[],[]⟩)]
 keepX:=[(0,.exit 0,⟨[3],[],[],[]⟩)]
 ro:=[false]
theorem joD:Con.OK Tryz.prog KT:=
 cOf aJ aL jqb KT Tryz.func367 (j9 Tf (j9 KB trivial)) (j9 (λh=>by kernel_rfl) trivial)
def KU:Con:=⟨323,[.v iT],[iT],⟨[.v ay,.v iT],[]⟩,[ay,iT],λh=>Pw.j82 h⟩
def jmN:FnD where
 N:=45
 np:=1
 cs:=[AQ,Dw,KT]
 ds:=[⟨0,[.s (.one (.bp 128 0)),.s (.one (.bp 256 0)),sI,.b (.cell [.d iT,.d iT,.d iT] false),.b (.cell [.d iT,.d iT,.d iT] false)],[iT,iT,iT,iT,iT,iT,iT],[⟨.exit 0,[.s (.one (.bp 128 0)),.s (.one (.bp 256 0)),sI,.b (.cell [.d iT,.d iT,.d iT] false),.b (.cell [.d iT,.d iT,.d iT] false)],[iT,iT,iT,iT,iT,iT,iT]⟩],Pw.unc7 (Pw.jcg)⟩]
 modes:=[(366,[false]),(367,[false]),(368,[false,false])]
 keep:=[(0,⟨[2,4,5],[128,256],[],[]⟩)]
 keepX:=[(0,.exit 0,⟨[2,4,5],[128,256],[],[]⟩)]
 ro:=[false,false]
theorem jlW:Con.OK Tryz.prog KU:=
 cOf aJ aL jmN KU Tryz.func323 (j9 Gb (j9 KB (j9 joD trivial))) (j9 (λh=>by kernel_rfl) trivial)
def Dz:Con:=⟨254,[.v iT],[iT],⟨[.v .bool],[]⟩,[.bool],λh=>Pw.j2f h⟩
def joE:FnD where
 N:=12
 np:=1
 cs:=[KU]
 ds:=[]
 modes:=[(323,[false])]
 ro:=[false]
theorem KV:Con.OK Tryz.prog Dz:=
 cOf aJ aL joE Dz Tryz.func254 (j9 jlW trivial) trivial
def KW:Con:=⟨253,[.v iT],[iT],⟨[.v .bool],[]⟩,[.bool],λh=>Pw.j2U h⟩
def jds:FnD where
 N:=6
 np:=1
 cs:=[Dz]
 ds:=[]
 modes:=[(254,[false])]
 ro:=[false]
theorem jd0:Con.OK Tryz.prog KW:=
 cOf aJ aL jds KW Tryz.func253 (j9 KV trivial) trivial
def KX:Con:=⟨303,[.v (.list iT),.clo 253 []],[(.list iT)],⟨[.v iT],[]⟩,[iT],λh=>Pw.j2V h⟩
def jdt:FnD where
 N:=19
 np:=2
 cs:=[KW]
 ds:=[⟨0,[.s (.one (.d (.list iT))),.s (.one (.clo 253 [])),sI,sI],[(.list iT),iT,iT],[⟨.ret,[sI],[iT]⟩,⟨.exit 0,[],[]⟩],Pw.unc3 (Pw.j0T)⟩]
 modes:=[(253,[false])]
 keep:=[(0,⟨[0,1,7,8],[],[],[]⟩)]
 keepX:=[(0,.ret,⟨[4],[],[],[]⟩),
  (0,.exit 0,⟨[],[],[],[]⟩)]
 ro:=[false]
theorem jd1:Con.OK Tryz.prog KX:=
 cOf aJ aL jdt KX Tryz.func303 (j9 jd0 trivial) (j9 (λh=>by kernel_rfl) trivial)
end Go.Proofs.Pk
