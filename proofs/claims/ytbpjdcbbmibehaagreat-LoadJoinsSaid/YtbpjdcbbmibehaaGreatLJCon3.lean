/- cL: each given function is its plain function, printed by a program. -/
import Derived.Test.YtbpjdcbbmibehaaGreatLJCon2
noncomputable section
open Go Go.Lft
set_option linter.unusedVariables false
set_option maxRecDepth 100000
namespace Go.Proofs.Pk
def Np:Con:=⟨358,[.v iT],[iT],⟨[.v ar,.v iT],[]⟩,[ar,iT],λh=>Pw.j6a h⟩
def jke:FnD where
 N:=45
 np:=1
 cs:=[Bm,EE,Nn]
 ds:=[⟨0,[.s (.one (.bp 128 0)),.s (.one (.bp 256 0)),sI,.b (.cell [.d iT,.d iT,.d iT] false),.b (.cell [.d iT,.d iT,.d iT] false)],[iT,iT,iT,iT,iT,iT,iT],[⟨.exit 0,[.s (.one (.bp 128 0)),.s (.one (.bp 256 0)),sI,.b (.cell [.d iT,.d iT,.d iT] false),.b (.cell [.d iT,.d iT,.d iT] false)],[iT,iT,iT,iT,iT,iT,iT]⟩],Pw.unc7 (Pw.j9Y)⟩]
 modes:=[(328,[false,false]),(372,[false]),(388,[false])]
 keep:=[(0,⟨[2,4,5],[128,256],[],[]⟩)]
 keepX:=[(0,.exit 0,⟨[2,4,5],[128,256],[],[]⟩)]
 ro:=[false,false]
theorem jjp:Con.OK Tryz.prog Np:=
 cOf aC aD jke Np Tryz.func358 (j9 HY (j9 M1 (j9 jmp trivial))) (j9 (λh=>by kernel_rfl) trivial)
def EI:Con:=⟨310,[.v iT],[iT],⟨[.v .bool],[]⟩,[.bool],λh=>Pw.j18 h⟩
def jmq:FnD where
 N:=12
 np:=1
 cs:=[Np]
 ds:=[]
 modes:=[(358,[false])]
 ro:=[false]
theorem Nq:Con.OK Tryz.prog EI:=
 cOf aC aD jmq EI Tryz.func310 (j9 jjp trivial) trivial
def Nr:Con:=⟨309,[.v iT],[iT],⟨[.v .bool],[]⟩,[.bool],λh=>Pw.j51 h⟩
def jb0:FnD where
 N:=6
 np:=1
 cs:=[EI]
 ds:=[]
 modes:=[(310,[false])]
 ro:=[false]
theorem jaI:Con.OK Tryz.prog Nr:=
 cOf aC aD jb0 Nr Tryz.func309 (j9 Nq trivial) trivial
def Ns:Con:=⟨291,[.v (.list iT),.clo 309 []],[(.list iT)],⟨[.v iT],[]⟩,[iT],λh=>Pw.j52 h⟩
def jb1:FnD where
 N:=19
 np:=2
 cs:=[Nr]
 ds:=[⟨0,[.s (.one (.d (.list iT))),.s (.one (.clo 309 [])),sI,sI],[(.list iT),iT,iT],[⟨.ret,[sI],[iT]⟩,⟨.exit 0,[],[]⟩],Pw.unc3 (Pw.j15)⟩]
 modes:=[(309,[false])]
 keep:=[(0,⟨[0,1,7,8],[],[],[]⟩)]
 keepX:=[(0,.ret,⟨[4],[],[],[]⟩),
  (0,.exit 0,⟨[],[],[],[]⟩)]
 ro:=[false]
theorem jaJ:Con.OK Tryz.prog Ns:=
 cOf aC aD jb1 Ns Tryz.func291 (j9 jaI trivial) (j9 (λh=>by kernel_rfl) trivial)
def Nt:Con:=⟨308,[.v (.list iT),.clo 309 []],[(.list iT)],⟨[.v .bool],[]⟩,[.bool],λh=>Pw.j3X h⟩
def j9M:FnD where
 N:=9
 np:=2
 cs:=[Ns]
 ds:=[]
 modes:=[(291,[false,false])]
 ro:=[false]
theorem j9q:Con.OK Tryz.prog Nt:=
 cOf aC aD j9M Nt Tryz.func308 (j9 jaJ trivial) trivial
def Nu:Con:=⟨252,[.v ct,.v fy],[ct,fy],⟨[.v iT],[]⟩,[iT],Pw.unc2 Pw.j2Y⟩
def jcZ:FnD where
 N:=46
 np:=2
 cs:=[yM,Nt]
 ds:=[⟨1,[.s (.one (.bp 192 0)),sI,sI,.b (.cell [.d .str,.d iT,.d (.list iT)] false)],[iT,iT,.str,iT,(.list iT)],[⟨.ret,[sI],[iT]⟩,⟨.exit 1,[],[]⟩],Pw.unc5 (Pw.j1n)⟩]
 modes:=[(306,[false,false]),(308,[false,false])]
 keep:=[(1,⟨[3,25,26],[192],[],[]⟩)]
 keepX:=[(1,.ret,⟨[4],[],[],[]⟩),
  (1,.exit 1,⟨[],[],[],[]⟩)]
 ro:=[false]
theorem jcj:Con.OK Tryz.prog Nu:=
 cOf aC aD jcZ Nu Tryz.func252 (j9 EF (j9 j9q trivial)) (j9 (λh=>by kernel_rfl) trivial)
def Nv:Con:=⟨251,[.v fy,.ip [aK,aS,aR,aZ]],[fy,aK,aS,aR,aZ],⟨[.v iT],[]⟩,[iT],Pw.unc5 Pw.j9E⟩
def jgt:FnD where
 N:=7
 np:=2
 cs:=[Nu]
 ds:=[]
 modes:=[(252,[false,false])]
 ro:=[false]
theorem jfs:Con.OK Tryz.prog Nv:=
 cOf aC aD jgt Nv Tryz.func251 (j9 jcj trivial) trivial
def Nw:Con:=⟨249,[.v aR,.clo 250 [],.clo 251 [.p [aK,aS,aR,aZ]]],[aR,aK,aS,aR,aZ],⟨[.v iT],[]⟩,[iT],Pw.unc5 Pw.j2H⟩
def jad:FnD where
 N:=34
 np:=3
 cs:=[yL,Nl,Nv]
 ds:=[⟨0,[.s (.one (.clo 250 [])),.s (.one (.clo 251 [.p [aK,aS,aR,aZ]])),.s (.one (.ol 1000000)),.s (.one (.d aR)),sI,sI,.b (.lst 4294967597 (.pair .str .bool) false)],[aK,aS,aR,aZ,aR,iT,iT,(.list (.pair .str .bool))],[⟨.ret,[sI],[iT]⟩,⟨.exit 0,[],[]⟩],Pw.unc8 (Pw.j0O)⟩]
 modes:=[(247,[false,true]),(250,[false]),(251,[false])]
 keep:=[(0,⟨[1,2,7,13,14,15],[],[⟨1000000,4294967597,(.pair .str .bool),[.slot 7],false⟩],[]⟩)]
 keepX:=[(0,.ret,⟨[6],[],[],[]⟩),
  (0,.exit 0,⟨[],[],[],[]⟩)]
 ro:=[false]
theorem j9N:Con.OK Tryz.prog Nw:=
 cOf aC aD jad Nw Tryz.func249 (j9 EC (j9 jfr (j9 jfs trivial))) (j9 (λh=>by kernel_rfl) trivial)
def Nx:Con:=⟨254,[.v dp],[dp],⟨[.v .str],[]⟩,[.str],λh=>Pw.j9F h⟩
def jgu:FnD where
 N:=5
 np:=1
 cs:=[]
 ds:=[]
 ro:=[false]
theorem jft:Con.OK Tryz.prog Nx:=
 cOf aC aD jgu Nx Tryz.func254 trivial trivial
def Ny:Con:=⟨312,[.v cX],[cX],⟨[.v .str],[]⟩,[.str],λh=>Pw.j53 h⟩
def jb2:FnD where
 N:=5
 np:=1
 cs:=[]
 ds:=[]
 ro:=[false]
theorem jaK:Con.OK Tryz.prog Ny:=
 cOf aC aD jb2 Ny Tryz.func312 trivial trivial
def Nz:Con:=⟨359,[.v iT,.ip [aK,aS,aR,aZ]],[iT,aK,aS,aR,aZ],⟨[.v .bool],[]⟩,[.bool],Pw.unc5 Pw.j6c⟩
def jd0:FnD where
 N:=10
 np:=2
 cs:=[yM]
 ds:=[]
 modes:=[(306,[false,false])]
 ro:=[false]
theorem jck:Con.OK Tryz.prog Nz:=
 cOf aC aD jd0 Nz Tryz.func359 (j9 EF trivial) trivial
def NA:Con:=⟨291,[.v (.list iT),.clo 359 [.p [aK,aS,aR,aZ]]],[(.list iT),aK,aS,aR,aZ],⟨[.v iT],[]⟩,[iT],Pw.unc5 Pw.j3Y⟩
def j9O:FnD where
 N:=19
 np:=2
 cs:=[Nz]
 ds:=[⟨0,[.s (.one (.d (.list iT))),.s (.one (.clo 359 [.p [aK,aS,aR,aZ]])),sI,sI],[(.list iT),aK,aS,aR,aZ,iT,iT],[⟨.ret,[sI],[iT]⟩,⟨.exit 0,[],[]⟩],Pw.unc7 (Pw.j0I)⟩]
 modes:=[(359,[false])]
 keep:=[(0,⟨[0,1,7,8],[],[],[]⟩)]
 keepX:=[(0,.ret,⟨[4],[],[],[]⟩),
  (0,.exit 0,⟨[],[],[],[]⟩)]
 ro:=[false]
theorem j9r:Con.OK Tryz.prog NA:=
 cOf aC aD j9O NA Tryz.func291 (j9 jck trivial) (j9 (λh=>by kernel_rfl) trivial)
def NB:Con:=⟨308,[.v (.list iT),.clo 359 [.p [aK,aS,aR,aZ]]],[(.list iT),aK,aS,aR,aZ],⟨[.v .bool],[]⟩,[.bool],Pw.unc5 Pw.j2Z⟩
def j8s:FnD where
 N:=9
 np:=2
 cs:=[NA]
 ds:=[]
 modes:=[(291,[false,false])]
 ro:=[false]
theorem j8i:Con.OK Tryz.prog NB:=
 cOf aC aD j8s NB Tryz.func308 (j9 j9r trivial) trivial
def NC:Con:=⟨314,[.v ct,.v cX],[ct,cX],⟨[.v iT],[]⟩,[iT],Pw.unc2 Pw.j4q⟩
def jeJ:FnD where
 N:=91
 np:=2
 cs:=[yM,EG,EH,EI,NB]
 ds:=[]
 modes:=[(52,[false]),(306,[false,false]),(308,[false,false]),(310,[false]),(357,[false,false,false])]
 ro:=[false]
theorem je9:Con.OK Tryz.prog NC:=
 cOf aC aD jeJ NC Tryz.func314 (j9 EF (j9 Nh (j9 Ni (j9 Nq (j9 j8i trivial))))) trivial
def ND:Con:=⟨313,[.v cX,.ip [aK,aS,aR,aZ]],[cX,aK,aS,aR,aZ],⟨[.v iT],[]⟩,[iT],Pw.unc5 Pw.j54⟩
def jb3:FnD where
 N:=7
 np:=2
 cs:=[NC]
 ds:=[]
 modes:=[(314,[false,false])]
 ro:=[false]
theorem jaL:Con.OK Tryz.prog ND:=
 cOf aC aD jb3 ND Tryz.func313 (j9 je9 trivial) trivial
def NF:Con:=⟨311,[.v cp,.clo 312 [],.clo 313 [.p [aK,aS,aR,aZ]]],[cp,aK,aS,aR,aZ],⟨[.v iT],[]⟩,[iT],Pw.unc5 Pw.j3G⟩
def jbH:FnD where
 N:=34
 np:=3
 cs:=[yL,Ny,ND]
 ds:=[⟨0,[.s (.one (.clo 312 [])),.s (.one (.clo 313 [.p [aK,aS,aR,aZ]])),.s (.one (.ol 1000000)),.s (.one (.d cp)),sI,sI,.b (.lst 4294967597 (.pair .str .bool) false)],[aK,aS,aR,aZ,cp,iT,iT,(.list (.pair .str .bool))],[⟨.ret,[sI],[iT]⟩,⟨.exit 0,[],[]⟩],Pw.unc8 (Pw.j19)⟩]
 modes:=[(247,[false,true]),(312,[false]),(313,[false])]
 keep:=[(0,⟨[1,2,7,13,14,15],[],[⟨1000000,4294967597,(.pair .str .bool),[.slot 7],false⟩],[]⟩)]
 keepX:=[(0,.ret,⟨[6],[],[],[]⟩),
  (0,.exit 0,⟨[],[],[],[]⟩)]
 ro:=[false]
theorem jb4:Con.OK Tryz.prog NF:=
 cOf aC aD jbH NF Tryz.func311 (j9 EC (j9 jaK (j9 jaL trivial))) (j9 (λh=>by kernel_rfl) trivial)
def NG:Con:=⟨315,[.v ct,.v ie],[ct,ie],⟨[.v iT],[]⟩,[iT],Pw.unc2 Pw.j55⟩
def jfu:FnD where
 N:=83
 np:=2
 cs:=[yM,EH,EI]
 ds:=[]
 modes:=[(306,[false,false]),(310,[false]),(357,[false,false,false])]
 ro:=[false]
theorem jeK:Con.OK Tryz.prog NG:=
 cOf aC aD jfu NG Tryz.func315 (j9 EF (j9 Ni (j9 Nq trivial))) trivial
def NH:Con:=⟨256,[.v ct,.v dp],[ct,dp],⟨[.v iT],[]⟩,[iT],Pw.unc2 Pw.j30⟩
def jd1:FnD where
 N:=40
 np:=2
 cs:=[NF,NG]
 ds:=[⟨0,[.s (.one (.bp 128 0)),.s (.one (.d cH)),sI,sI,.b (.cell [.d aK,.d aS,.d aR,.d aZ] true)],[cH,iT,iT,aK,aS,aR,aZ],[⟨.ret,[sI],[iT]⟩,⟨.exit 0,[],[]⟩],Pw.unc7 (Pw.j1p)⟩]
 modes:=[(311,[false,false,false]),(315,[false,false])]
 keep:=[(0,⟨[2,27,28,29],[128],[],[]⟩)]
 keepX:=[(0,.ret,⟨[4],[],[],[]⟩),
  (0,.exit 0,⟨[],[],[],[]⟩)]
 ro:=[false]
theorem jcl:Con.OK Tryz.prog NH:=
 cOf aC aD jd1 NH Tryz.func256 (j9 jb4 (j9 jeK trivial)) (j9 (λh=>by kernel_rfl) trivial)
def NI:Con:=⟨255,[.v dp,.ip [aK,aS,aR,aZ]],[dp,aK,aS,aR,aZ],⟨[.v iT],[]⟩,[iT],Pw.unc5 Pw.j9G⟩
def jgv:FnD where
 N:=7
 np:=2
 cs:=[NH]
 ds:=[]
 modes:=[(256,[false,false])]
 ro:=[false]
theorem jfv:Con.OK Tryz.prog NI:=
 cOf aC aD jgv NI Tryz.func255 (j9 jcl trivial) trivial
def NJ:Con:=⟨253,[.v aZ,.clo 254 [],.clo 255 [.p [aK,aS,aR,aZ]]],[aZ,aK,aS,aR,aZ],⟨[.v iT],[]⟩,[iT],Pw.unc5 Pw.j4g⟩
def jae:FnD where
 N:=34
 np:=3
 cs:=[yL,Nx,NI]
 ds:=[⟨0,[.s (.one (.clo 254 [])),.s (.one (.clo 255 [.p [aK,aS,aR,aZ]])),.s (.one (.ol 1000000)),.s (.one (.d aZ)),sI,sI,.b (.lst 4294967597 (.pair .str .bool) false)],[aK,aS,aR,aZ,aZ,iT,iT,(.list (.pair .str .bool))],[⟨.ret,[sI],[iT]⟩,⟨.exit 0,[],[]⟩],Pw.unc8 (Pw.j0P)⟩]
 modes:=[(247,[false,true]),(254,[false]),(255,[false])]
 keep:=[(0,⟨[1,2,7,13,14,15],[],[⟨1000000,4294967597,(.pair .str .bool),[.slot 7],false⟩],[]⟩)]
 keepX:=[(0,.ret,⟨[6],[],[],[]⟩),
  (0,.exit 0,⟨[],[],[],[]⟩)]
 ro:=[false]
theorem j9P:Con.OK Tryz.prog NJ:=
 cOf aC aD jae NJ Tryz.func253 (j9 EC (j9 jft (j9 jfv trivial))) (j9 (λh=>by kernel_rfl) trivial)
end Go.Proofs.Pk
