/- cL: each given function is its plain function, printed by a program. -/
import Derived.Test.YtbpjdcbbmibehaaGreatLJCon0
noncomputable section
open Go Go.Lft
set_option linter.unusedVariables false
set_option maxRecDepth 100000
namespace Go.Proofs.Pk
def MN:Con:=⟨67,[.ref [(.list iT),iT],.v ct,.v .str],[(.list iT),iT,ct,.str],⟨[.v cX],[.ref [(.list iT),iT]]⟩,[cX,(.list iT),iT],Pw.unc4 Pw.j7W⟩
def jhb:FnD where
 N:=77
 np:=3
 cs:=[pk,wL,Bl,EB]
 ds:=[⟨0,[.s (.one (.bp 0 0)),.s (.one (.bp 256 0)),.s (.one (.bp 384 0)),.s (.one (.bp 448 0)),sI,.b (.cell [.d (.list iT),.d iT] false),.b (.cell [.d aK,.d aS,.d aR,.d aZ] false),.b (.cell [.d .str,.d iT,.d iT,.d iT,.d iT,.d iT,.nil,.nil,.d iT,.d iT] false),.b (.cell [.d .str,.d iT,.d iT,.d iT,.d iT,.d iT,.ol 1000000,.nil,.d iT,.d iT] false),.b (.lst 3 iT false)],[iT,(.list iT),iT,aK,aS,aR,aZ,.str,iT,iT,iT,iT,iT,iT,iT,.str,iT,iT,iT,iT,iT,iT,iT,(.list iT)],[⟨.exit 0,[.s (.one (.bp 0 0)),.s (.one (.bp 256 0)),.s (.one (.bp 384 0)),.s (.one (.bp 448 0)),.b (.cell [.d (.list iT),.d iT] false),.b (.cell [.d aK,.d aS,.d aR,.d aZ] false),.b (.cell [.d .str,.d iT,.d iT,.d iT,.d iT,.d iT,.nil,.nil,.d iT,.d iT] false),.b (.cell [.d .str,.d iT,.d iT,.d iT,.d iT,.d iT,.ol 1500100,.nil,.d iT,.d iT] false),.b (.lst 3 iT false)],[(.list iT),iT,aK,aS,aR,aZ,.str,iT,iT,iT,iT,iT,iT,iT,.str,iT,iT,iT,iT,iT,iT,iT,(.list iT)]⟩],Pw.jyw (Pw.j2t)⟩]
 modes:=[(16,[false,false]),(33,[false,false]),(49,[false]),(70,[false,false])]
 keep:=[(0,⟨[0,4,6,7,8],[0,256,384,448],[⟨1000000,3,iT,[.cell 448 6],false⟩],[]⟩)]
 keepX:=[(0,.exit 0,⟨[0,4,6,7],[0,256,384,448],[⟨1500100,3,iT,[.cell 448 6],false⟩],[]⟩)]
 ro:=[false]
 dw:=[(7,[[],[],[],[],[],[],[0],[3200],[3264,1000000],[],[448]])]
theorem jgn:Con.OK Tryz.prog MN:=
 cOf aC aD jhb MN Tryz.func67 (j9 rX (j9 Bj (j9 HW (j9 ML trivial)))) (j9 (λh=>by kernel_rfl) trivial)
def HX:Con:=⟨14,[.ref [(.list iT),iT]],[(.list iT),iT],⟨[.v iT],[.ref [(.list iT),iT]]⟩,[iT,(.list iT),iT],Pw.unc2 Pw.j4Z⟩
def jfl:FnD where
 N:=16
 np:=1
 cs:=[pk,wL,Bl]
 ds:=[]
 modes:=[(16,[false,false]),(33,[false,false]),(70,[false,false])]
 ro:=[false]
theorem Vz:Con.OK Tryz.prog HX:=
 cOf aC aD jfl HX Tryz.func14 (j9 rX (j9 Bj (j9 HW trivial))) trivial
def MO:Con:=⟨69,[.ref [(.list iT),iT],.v ct],[(.list iT),iT,ct],⟨[.v ie],[.ref [(.list iT),iT]]⟩,[ie,(.list iT),iT],Pw.unc3 Pw.j8Z⟩
def jhU:FnD where
 N:=52
 np:=2
 cs:=[pk,wL,Bl,HX]
 ds:=[]
 modes:=[(14,[false]),(16,[false,false]),(33,[false,false]),(70,[false,false])]
 ro:=[false]
 dw:=[(3,[[],[],[],[1344],[0,1344],[],[],[384]]),(8,[[],[],[],[],[],[],[0],[],[],[],[],[384]])]
theorem jhc:Con.OK Tryz.prog MO:=
 cOf aC aD jhU MO Tryz.func69 (j9 rX (j9 Bj (j9 HW (j9 Vz trivial)))) trivial
def MP:Con:=⟨13,[.ref [(.list iT),iT],.v iT],[(.list iT),iT,iT],⟨[.v ct],[.ref [(.list iT),iT]]⟩,[ct,(.list iT),iT],Pw.unc3 Pw.j5F⟩
def jgo:FnD where
 N:=69
 np:=2
 cs:=[pk,HV,MM,MN,MO]
 ds:=[⟨0,[.s (.one (.bp 0 0)),.s (.one (.bp 256 0)),.s (.one (.bp 320 0)),sI,.b (.cell [.d (.list iT),.d iT] false),.b (.cell [.nil,.nil,.nil,.nil] false),.b (.cell [.d aK,.d aS,.d aR,.ol 1000000] false),.b (.lst 86 dp true)],[iT,(.list iT),iT,aK,aS,aR,aZ],[⟨.exit 0,[.s (.one (.bp 256 0)),.s (.one (.bp 320 0)),.b (.cell [.d (.list iT),.d iT] false),.b (.cell [.nil,.nil,.nil,.nil] false),.b (.cell [.d aK,.d aS,.d aR,.ol 1500100] false),.b (.lst 86 dp true)],[(.list iT),iT,aK,aS,aR,aZ]⟩],Pw.unc7 (Pw.j28)⟩,
  ⟨2,[.s (.one (.bp 0 0)),.s (.one (.bp 256 0)),.s (.one (.bp 320 0)),sI,.s (.one (.bp 448 0)),sI,.b (.cell [.d (.list iT),.d iT] false),.b (.cell [.nil,.nil,.nil,.nil] false),.b (.cell [.d aK,.d aS,.d aR,.ol 1002000] false),.b (.cell [.d .str,.ol 1002001,.nil] false),.b (.lst 86 dp true),.b (.lst 126 cX false)],[iT,iT,(.list iT),iT,aK,aS,aR,.str,aZ,cp],[⟨.exit 2,[.s (.one (.bp 0 0)),.s (.one (.bp 256 0)),.s (.one (.bp 320 0)),sI,.s (.one (.bp 448 0)),.b (.cell [.d (.list iT),.d iT] false),.b (.cell [.nil,.nil,.nil,.nil] false),.b (.cell [.d aK,.d aS,.d aR,.ol 1502300] false),.b (.cell [.d .str,.ol 1502301,.nil] false),.b (.lst 86 dp true),.b (.lst 126 cX false)],[iT,(.list iT),iT,aK,aS,aR,.str,aZ,cp]⟩],Pw.jvs (Pw.j26)⟩,
  ⟨4,[.s (.one (.bp 0 0)),.s (.one (.bp 256 0)),.s (.one (.bp 320 0)),sI,.s (.one (.bp 448 0)),sI,.b (.cell [.d (.list iT),.d iT] false),.b (.cell [.nil,.nil,.nil,.nil] false),.b (.cell [.d aK,.d aS,.d aR,.ol 1004000] false),.b (.cell [.d .str,.ol 1004001,.ol 1004002] false),.b (.lst 86 dp true),.b (.lst 126 cX false),.b (.lst 80 ie false)],[iT,iT,(.list iT),iT,aK,aS,aR,.str,aZ,cp,cH],[⟨.exit 4,[.s (.one (.bp 0 0)),.s (.one (.bp 256 0)),.s (.one (.bp 320 0)),sI,.s (.one (.bp 448 0)),.b (.cell [.d (.list iT),.d iT] false),.b (.cell [.nil,.nil,.nil,.nil] false),.b (.cell [.d aK,.d aS,.d aR,.ol 1504500] false),.b (.cell [.d .str,.ol 1504501,.ol 1504502] false),.b (.lst 86 dp true),.b (.lst 126 cX false),.b (.lst 80 ie false)],[iT,(.list iT),iT,aK,aS,aR,.str,aZ,cp,cH]⟩],Pw.jvt (Pw.j27)⟩]
 modes:=[(16,[false,false]),(66,[false]),(67,[false,false,false]),(68,[]),(69,[false,false])]
 keep:=[(0,⟨[0,4,5,6],[0,256,320],[⟨1000000,86,dp,[.cell 320 3],true⟩],[]⟩),
  (2,⟨[0,4,5,6,7,8],[0,256,320,448],[⟨1002000,86,dp,[.cell 320 3],false⟩,⟨1002001,126,cX,[.cell 448 1],false⟩],[]⟩),
  (4,⟨[0,4,5,6,7,9],[0,256,320,448],[⟨1004000,86,dp,[.cell 320 3],false⟩,⟨1004001,126,cX,[.cell 448 1],false⟩,⟨1004002,80,ie,[.cell 448 2],false⟩],[]⟩)]
 keepX:=[(0,.exit 0,⟨[4,5],[0,256,320],[⟨1500100,86,dp,[.cell 320 3],false⟩],[]⟩),
  (2,.exit 2,⟨[0,4,5,6,7],[0,256,320,448],[⟨1502300,86,dp,[.cell 320 3],false⟩,⟨1502301,126,cX,[.cell 448 1],false⟩],[]⟩),
  (4,.exit 4,⟨[0,4,5,6,7],[0,256,320,448],[⟨1504500,86,dp,[.cell 320 3],false⟩,⟨1504501,126,cX,[.cell 448 1],false⟩,⟨1504502,80,ie,[.cell 448 2],false⟩],[]⟩)]
 ro:=[false]
 dw:=[(9,[[],[],[],[],[2432],[],[],[],[],[],[0,1002000],[2880],[2944,1002000,1002001],[],[448]]),(13,[[],[],[],[],[0,1004000],[3776],[3840,1004001,1004002],[],[448]])]
theorem jfm:Con.OK Tryz.prog MP:=
 cOf aC aD jgo MP Tryz.func13 (j9 rX (j9 Vy (j9 jgm (j9 jgn (j9 jhc trivial))))) (j9 (λh=>by kernel_rfl) (j9 (λh=>by kernel_rfl) (j9 (λh=>by kernel_rfl) trivial)))
def MQ:Con:=⟨15,[.v iT,.v iT],[iT,iT],⟨[.v iT],[]⟩,[iT],Pw.unc2 Pw.jgb⟩
def jrM:FnD where
 N:=12
 np:=2
 cs:=[]
 ds:=[]
 ro:=[false]
theorem jpC:Con.OK Tryz.prog MQ:=
 cOf aC aD jrM MQ Tryz.func15 trivial trivial
def MR:Con:=⟨17,[.ref [(.list iT),iT]],[(.list iT),iT],⟨[.own 132 dr],[.ref [(.list iT),iT]]⟩,[dr,(.list iT),iT],Pw.unc2 Pw.j6y⟩
def jfn:FnD where
 N:=26
 np:=1
 cs:=[pk,EB]
 ds:=[⟨0,[.s (.one (.bp 0 0)),.s (.one (.ol 1000000)),.s (.one (.ol 1000001)),sI,.b (.cell [.d (.list iT),.d iT] false),.b (.lst 132 nP false),.b (.lst 99 aF false)],[iT,(.list iT),iT,dr,aa],[⟨.exit 0,[.s (.one (.ol 1500100)),.b (.cell [.d (.list iT),.d iT] false),.b (.lst 132 nP false)],[(.list iT),iT,dr]⟩],Pw.unc5 (Pw.j1W)⟩]
 modes:=[(16,[false,false]),(49,[false])]
 keep:=[(0,⟨[0,3,4,5],[0],[⟨1000000,132,nP,[.slot 3],false⟩,⟨1000001,99,aF,[.slot 4],false⟩],[]⟩)]
 keepX:=[(0,.exit 0,⟨[3],[0],[⟨1500100,132,nP,[.slot 3],false⟩],[]⟩)]
 ro:=[true]
 dw:=[(6,[[],[],[],[],[],[],[0],[],[],[1472],[1536,1000000],[]])]
theorem jeH:Con.OK Tryz.prog MR:=
 cOf aC aD jfn MR Tryz.func17 (j9 rX (j9 ML trivial)) (j9 (λh=>by kernel_rfl) trivial)
def MS:Con:=⟨245,[.v cm],[cm],⟨[.v .str],[]⟩,[.str],λh=>Pw.j9B h⟩
def jgp:FnD where
 N:=5
 np:=1
 cs:=[]
 ds:=[]
 ro:=[false]
theorem jfo:Con.OK Tryz.prog MS:=
 cOf aC aD jgp MS Tryz.func245 trivial trivial
def MT:Con:=⟨355,[.v (.int .u8)],[(.int .u8)],⟨[.v .bool],[]⟩,[.bool],λh=>Pw.jfc h⟩
def jmh:FnD where
 N:=9
 np:=1
 cs:=[]
 ds:=[]
 ro:=[false]
theorem jk9:Con.OK Tryz.prog MT:=
 cOf aC aD jmh MT Tryz.func355 trivial trivial
def MU:Con:=⟨356,[.v (.int .u8)],[(.int .u8)],⟨[.v .bool],[]⟩,[.bool],λh=>Pw.jjh h⟩
def jmi:FnD where
 N:=9
 np:=1
 cs:=[]
 ds:=[]
 ro:=[false]
theorem jka:Con.OK Tryz.prog MU:=
 cOf aC aD jmi MU Tryz.func356 trivial trivial
def MV:Con:=⟨305,[.v .str],[.str],⟨[.v .bool],[]⟩,[.bool],λh=>Pw.j6z h⟩
def jo8:FnD where
 N:=43
 np:=1
 cs:=[MT,MU]
 ds:=[⟨0,[.s (.one (.d .str)),sI,sI],[.str,iT,iT],[⟨.ret,[.s (.one (.d .bool))],[.bool]⟩,⟨.exit 0,[],[]⟩],Pw.unc3 (Pw.jbb)⟩]
 modes:=[(355,[false]),(356,[false])]
 keep:=[(0,⟨[0,19,20],[],[],[]⟩)]
 keepX:=[(0,.ret,⟨[2],[],[],[]⟩),
  (0,.exit 0,⟨[],[],[],[]⟩)]
 ro:=[false]
theorem jmj:Con.OK Tryz.prog MV:=
 cOf aC aD jo8 MV Tryz.func305 (j9 jk9 (j9 jka trivial)) (j9 (λh=>by kernel_rfl) trivial)
def yL:Con:=⟨247,[.v .str,.rl 4294967597 (.list (.pair .str .bool))],[.str,(.list (.pair .str .bool))],⟨[.v iT],[.rl (.list (.pair .str .bool))]⟩,[iT,(.list (.pair .str .bool))],Pw.unc2 Pw.j5k⟩
def jkb:FnD where
 N:=13
 np:=2
 cs:=[MV]
 ds:=[]
 modes:=[(305,[false])]
 ro:=[false]
theorem EC:Con.OK Tryz.prog yL:=
 cOf aC aD jkb yL Tryz.func247 (j9 jmj trivial) trivial
def ED:Con:=⟨201,[.v iT,.v iT,.v iT],[iT,iT,iT],⟨[.v .bool],[]⟩,[.bool],Pw.unc3 Pw.j9C⟩
def jtF:FnD where
 N:=15
 np:=3
 cs:=[]
 ds:=[]
 ro:=[false]
theorem MW:Con.OK Tryz.prog ED:=
 cOf aC aD jtF ED Tryz.func201 trivial trivial
def MX:Con:=⟨277,[.v nQ],[nQ],⟨[.v iT],[]⟩,[iT],λh=>Pw.je1 h⟩
def jpD:FnD where
 N:=45
 np:=1
 cs:=[ED]
 ds:=[]
 modes:=[(201,[false,false,false])]
 ro:=[false]
theorem jo9:Con.OK Tryz.prog MX:=
 cOf aC aD jpD MX Tryz.func277 (j9 MW trivial) trivial
def MY:Con:=⟨373,[.v iT],[iT],⟨[.v .bool],[]⟩,[.bool],λh=>Pw.jh6 h⟩
def joa:FnD where
 N:=16
 np:=1
 cs:=[]
 ds:=[]
 ro:=[false]
theorem jmk:Con.OK Tryz.prog MY:=
 cOf aC aD joa MY Tryz.func373 trivial trivial
def Bm:Con:=⟨328,[.v iT,.v iT],[iT,iT],⟨[.v iT],[]⟩,[iT],Pw.unc2 Pw.j6A⟩
def job:FnD where
 N:=24
 np:=2
 cs:=[MY]
 ds:=[]
 modes:=[(373,[false])]
 ro:=[false]
theorem HY:Con.OK Tryz.prog Bm:=
 cOf aC aD job Bm Tryz.func328 (j9 jmk trivial) trivial
def M0:Con:=⟨326,[.v ar],[ar],⟨[.v .bool],[]⟩,[.bool],λh=>Pw.jav h⟩
def jml:FnD where
 N:=26
 np:=1
 cs:=[Bm]
 ds:=[]
 modes:=[(328,[false,false])]
 ro:=[false]
theorem jkc:Con.OK Tryz.prog M0:=
 cOf aC aD jml M0 Tryz.func326 (j9 HY trivial) trivial
def HZ:Con:=⟨393,[.v iT,.v iT],[iT,iT],⟨[.v iT],[]⟩,[iT],Pw.unc2 Pw.j7t⟩
def jmm:FnD where
 N:=16
 np:=2
 cs:=[]
 ds:=[]
 ro:=[false]
theorem VA:Con.OK Tryz.prog HZ:=
 cOf aC aD jmm HZ Tryz.func393 trivial trivial
def EE:Con:=⟨372,[.v iT],[iT],⟨[.v iT],[]⟩,[iT],λh=>Pw.j4E h⟩
def jmn:FnD where
 N:=19
 np:=1
 cs:=[HZ]
 ds:=[]
 modes:=[(393,[false,false])]
 ro:=[false]
theorem M1:Con.OK Tryz.prog EE:=
 cOf aC aD jmn EE Tryz.func372 (j9 VA trivial) trivial
def M3:Con:=⟨327,[.v ar],[ar],⟨[.v iT],[]⟩,[iT],λh=>Pw.jbd h⟩
def jkd:FnD where
 N:=25
 np:=1
 cs:=[Bm,EE]
 ds:=[⟨0,[.s (.one (.bp 64 0)),sI,sI,.b (.cell [.d iT,.d iT,.d iT] false)],[iT,iT,iT,iT,iT],[⟨.exit 0,[sI],[iT]⟩],Pw.unc5 (Pw.j3v)⟩]
 modes:=[(328,[false,false]),(372,[false])]
 keep:=[(0,⟨[1,3,4],[64],[],[]⟩)]
 keepX:=[(0,.exit 0,⟨[3],[],[],[]⟩)]
 ro:=[false]
theorem jjl:Con.OK Tryz.prog M3:=
 cOf aC aD jkd M3 Tryz.func327 (j9 HY (j9 M1 trivial)) (j9 (λh=>by kernel_rfl) trivial)
def H0:Con:=⟨188,[.v iT],[iT],⟨[.v iT],[]⟩,[iT],λh=>Pw.j5s h⟩
def jjm:FnD where
 N:=7
 np:=1
 cs:=[]
 ds:=[]
 ro:=[false]
theorem VC:Con.OK Tryz.prog H0:=
 cOf aC aD jjm H0 Tryz.func188 trivial trivial
end Go.Proofs.Pk
