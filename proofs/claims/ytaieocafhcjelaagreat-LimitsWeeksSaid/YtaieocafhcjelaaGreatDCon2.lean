/- cI: each given function is its plain function, printed by a program. -/
import Derived.Test.YtaieocafhcjelaaGreatDCon1
noncomputable section
open Go Go.Lft
set_option linter.unusedVariables false
set_option maxRecDepth 100000
namespace Go.Proofs.Pk
def KY:Con:=⟨252,[.v (.list iT),.clo 253 []],[(.list iT)],⟨[.v .bool],[]⟩,[.bool],λh=>Pw.j2h h⟩
def jbW:FnD where
 N:=9
 np:=2
 cs:=[KX]
 ds:=[]
 modes:=[(303,[false,false])]
 ro:=[false]
theorem jbC:Con.OK Tryz.prog KY:=
 cOf aJ aL jbW KY Tryz.func252 (j9 jd1 trivial) trivial
def KZ:Con:=⟨173,[.v bS,.v dZ],[bS,dZ],⟨[.v iT],[]⟩,[iT],Pw.unc2 Pw.j2q⟩
def jfd:FnD where
 N:=46
 np:=2
 cs:=[yq,KY]
 ds:=[⟨1,[.s (.one (.bp 192 0)),sI,sI,.b (.cell [.d .str,.d iT,.d (.list iT)] false)],[iT,iT,.str,iT,(.list iT)],[⟨.ret,[sI],[iT]⟩,⟨.exit 1,[],[]⟩],Pw.unc5 (Pw.j2E)⟩]
 modes:=[(250,[false,false]),(252,[false,false])]
 keep:=[(1,⟨[3,25,26],[192],[],[]⟩)]
 keepX:=[(1,.ret,⟨[4],[],[],[]⟩),
  (1,.exit 1,⟨[],[],[],[]⟩)]
 ro:=[false]
theorem jeI:Con.OK Tryz.prog KZ:=
 cOf aJ aL jfd KZ Tryz.func173 (j9 Dx (j9 jbC trivial)) (j9 (λh=>by kernel_rfl) trivial)
def K3:Con:=⟨172,[.v dZ,.ip [aG,aP,aO,aV]],[dZ,aG,aP,aO,aV],⟨[.v iT],[]⟩,[iT],Pw.unc5 Pw.j61⟩
def jiS:FnD where
 N:=7
 np:=2
 cs:=[KZ]
 ds:=[]
 modes:=[(173,[false,false])]
 ro:=[false]
theorem jhS:Con.OK Tryz.prog K3:=
 cOf aJ aL jiS K3 Tryz.func172 (j9 jeI trivial) trivial
def K4:Con:=⟨170,[.v aO,.clo 171 [],.clo 172 [.p [aG,aP,aO,aV]]],[aO,aG,aP,aO,aV],⟨[.v iT],[]⟩,[iT],Pw.unc5 Pw.j1T⟩
def jcs:FnD where
 N:=34
 np:=3
 cs:=[yp,KS,K3]
 ds:=[⟨0,[.s (.one (.clo 171 [])),.s (.one (.clo 172 [.p [aG,aP,aO,aV]])),.s (.one (.ol 1000000)),.s (.one (.d aO)),sI,sI,.b (.lst 4294967523 (.pair .str .bool) false)],[aG,aP,aO,aV,aO,iT,iT,(.list (.pair .str .bool))],[⟨.ret,[sI],[iT]⟩,⟨.exit 0,[],[]⟩],Pw.unc8 (Pw.j0L)⟩]
 modes:=[(168,[false,true]),(171,[false]),(172,[false])]
 keep:=[(0,⟨[1,2,7,13,14,15],[],[⟨1000000,4294967523,(.pair .str .bool),[.slot 7],false⟩],[]⟩)]
 keepX:=[(0,.ret,⟨[6],[],[],[]⟩),
  (0,.exit 0,⟨[],[],[],[]⟩)]
 ro:=[false]
theorem jbX:Con.OK Tryz.prog K4:=
 cOf aJ aL jcs K4 Tryz.func170 (j9 Du (j9 jhR (j9 jhS trivial))) (j9 (λh=>by kernel_rfl) trivial)
def K5:Con:=⟨175,[.v cF],[cF],⟨[.v .str],[]⟩,[.str],λh=>Pw.jbS h⟩
def jiT:FnD where
 N:=5
 np:=1
 cs:=[]
 ds:=[]
 ro:=[false]
theorem jhT:Con.OK Tryz.prog K5:=
 cOf aJ aL jiT K5 Tryz.func175 trivial trivial
def K6:Con:=⟨256,[.v cu],[cu],⟨[.v .str],[]⟩,[.str],λh=>Pw.j6N h⟩
def jdu:FnD where
 N:=5
 np:=1
 cs:=[]
 ds:=[]
 ro:=[false]
theorem jd2:Con.OK Tryz.prog K6:=
 cOf aJ aL jdu K6 Tryz.func256 trivial trivial
def K7:Con:=⟨324,[.v iT,.ip [aG,aP,aO,aV]],[iT,aG,aP,aO,aV],⟨[.v .bool],[]⟩,[.bool],Pw.unc5 Pw.j84⟩
def jfe:FnD where
 N:=10
 np:=2
 cs:=[yq]
 ds:=[]
 modes:=[(250,[false,false])]
 ro:=[false]
theorem jeJ:Con.OK Tryz.prog K7:=
 cOf aJ aL jfe K7 Tryz.func324 (j9 Dx trivial) trivial
def K8:Con:=⟨303,[.v (.list iT),.clo 324 [.p [aG,aP,aO,aV]]],[(.list iT),aG,aP,aO,aV],⟨[.v iT],[]⟩,[iT],Pw.unc5 Pw.j2i⟩
def jbY:FnD where
 N:=19
 np:=2
 cs:=[K7]
 ds:=[⟨0,[.s (.one (.d (.list iT))),.s (.one (.clo 324 [.p [aG,aP,aO,aV]])),sI,sI],[(.list iT),aG,aP,aO,aV,iT,iT],[⟨.ret,[sI],[iT]⟩,⟨.exit 0,[],[]⟩],Pw.unc7 (Pw.j1B)⟩]
 modes:=[(324,[false])]
 keep:=[(0,⟨[0,1,7,8],[],[],[]⟩)]
 keepX:=[(0,.ret,⟨[4],[],[],[]⟩),
  (0,.exit 0,⟨[],[],[],[]⟩)]
 ro:=[false]
theorem jbD:Con.OK Tryz.prog K8:=
 cOf aJ aL jbY K8 Tryz.func303 (j9 jeJ trivial) (j9 (λh=>by kernel_rfl) trivial)
def K9:Con:=⟨252,[.v (.list iT),.clo 324 [.p [aG,aP,aO,aV]]],[(.list iT),aG,aP,aO,aV],⟨[.v .bool],[]⟩,[.bool],Pw.unc5 Pw.j1H⟩
def jay:FnD where
 N:=9
 np:=2
 cs:=[K8]
 ds:=[]
 modes:=[(303,[false,false])]
 ro:=[false]
theorem jac:Con.OK Tryz.prog K9:=
 cOf aJ aL jay K9 Tryz.func252 (j9 jbD trivial) trivial
def La:Con:=⟨258,[.v bS,.v cu],[bS,cu],⟨[.v iT],[]⟩,[iT],Pw.unc2 Pw.j3i⟩
def jha:FnD where
 N:=91
 np:=2
 cs:=[yq,Gf,Dy,Dz,K9]
 ds:=[]
 modes:=[(204,[false]),(250,[false,false]),(252,[false,false]),(254,[false]),(322,[false,false,false])]
 ro:=[false]
theorem jgu:Con.OK Tryz.prog La:=
 cOf aJ aL jha La Tryz.func258 (j9 Dx (j9 Ti (j9 KP (j9 KV (j9 jac trivial))))) trivial
def Lb:Con:=⟨257,[.v cu,.ip [aG,aP,aO,aV]],[cu,aG,aP,aO,aV],⟨[.v iT],[]⟩,[iT],Pw.unc5 Pw.j2X⟩
def jdv:FnD where
 N:=7
 np:=2
 cs:=[La]
 ds:=[]
 modes:=[(258,[false,false])]
 ro:=[false]
theorem jd3:Con.OK Tryz.prog Lb:=
 cOf aJ aL jdv Lb Tryz.func257 (j9 jgu trivial) trivial
def Lc:Con:=⟨255,[.v ca,.clo 256 [],.clo 257 [.p [aG,aP,aO,aV]]],[ca,aG,aP,aO,aV],⟨[.v iT],[]⟩,[iT],Pw.unc5 Pw.j2B⟩
def jeb:FnD where
 N:=34
 np:=3
 cs:=[yp,K6,Lb]
 ds:=[⟨0,[.s (.one (.clo 256 [])),.s (.one (.clo 257 [.p [aG,aP,aO,aV]])),.s (.one (.ol 1000000)),.s (.one (.d ca)),sI,sI,.b (.lst 4294967523 (.pair .str .bool) false)],[aG,aP,aO,aV,ca,iT,iT,(.list (.pair .str .bool))],[⟨.ret,[sI],[iT]⟩,⟨.exit 0,[],[]⟩],Pw.unc8 (Pw.j11)⟩]
 modes:=[(168,[false,true]),(256,[false]),(257,[false])]
 keep:=[(0,⟨[1,2,7,13,14,15],[],[⟨1000000,4294967523,(.pair .str .bool),[.slot 7],false⟩],[]⟩)]
 keepX:=[(0,.ret,⟨[6],[],[],[]⟩),
  (0,.exit 0,⟨[],[],[],[]⟩)]
 ro:=[false]
theorem jdw:Con.OK Tryz.prog Lc:=
 cOf aJ aL jeb Lc Tryz.func255 (j9 Du (j9 jd2 (j9 jd3 trivial))) (j9 (λh=>by kernel_rfl) trivial)
def Ld:Con:=⟨259,[.v bS,.v bd],[bS,bd],⟨[.v iT],[]⟩,[iT],Pw.unc2 Pw.j3O⟩
def jhU:FnD where
 N:=83
 np:=2
 cs:=[yq,Dy,Dz]
 ds:=[]
 modes:=[(250,[false,false]),(254,[false]),(322,[false,false,false])]
 ro:=[false]
theorem jhb:Con.OK Tryz.prog Ld:=
 cOf aJ aL jhU Ld Tryz.func259 (j9 Dx (j9 KP (j9 KV trivial))) trivial
def Le:Con:=⟨177,[.v bS,.v cF],[bS,cF],⟨[.v iT],[]⟩,[iT],Pw.unc2 Pw.j2r⟩
def jff:FnD where
 N:=40
 np:=2
 cs:=[Lc,Ld]
 ds:=[⟨0,[.s (.one (.bp 128 0)),.s (.one (.d au)),sI,sI,.b (.cell [.d aG,.d aP,.d aO,.d aV] true)],[au,iT,iT,aG,aP,aO,aV],[⟨.ret,[sI],[iT]⟩,⟨.exit 0,[],[]⟩],Pw.unc7 (Pw.j1c)⟩]
 modes:=[(255,[false,false,false]),(259,[false,false])]
 keep:=[(0,⟨[2,27,28,29],[128],[],[]⟩)]
 keepX:=[(0,.ret,⟨[4],[],[],[]⟩),
  (0,.exit 0,⟨[],[],[],[]⟩)]
 ro:=[false]
theorem jeK:Con.OK Tryz.prog Le:=
 cOf aJ aL jff Le Tryz.func177 (j9 jdw (j9 jhb trivial)) (j9 (λh=>by kernel_rfl) trivial)
def Lf:Con:=⟨176,[.v cF,.ip [aG,aP,aO,aV]],[cF,aG,aP,aO,aV],⟨[.v iT],[]⟩,[iT],Pw.unc5 Pw.j62⟩
def jiU:FnD where
 N:=7
 np:=2
 cs:=[Le]
 ds:=[]
 modes:=[(177,[false,false])]
 ro:=[false]
theorem jhV:Con.OK Tryz.prog Lf:=
 cOf aJ aL jiU Lf Tryz.func176 (j9 jeK trivial) trivial
def Lg:Con:=⟨174,[.v aV,.clo 175 [],.clo 176 [.p [aG,aP,aO,aV]]],[aV,aG,aP,aO,aV],⟨[.v iT],[]⟩,[iT],Pw.unc5 Pw.j2z⟩
def jct:FnD where
 N:=34
 np:=3
 cs:=[yp,K5,Lf]
 ds:=[⟨0,[.s (.one (.clo 175 [])),.s (.one (.clo 176 [.p [aG,aP,aO,aV]])),.s (.one (.ol 1000000)),.s (.one (.d aV)),sI,sI,.b (.lst 4294967523 (.pair .str .bool) false)],[aG,aP,aO,aV,aV,iT,iT,(.list (.pair .str .bool))],[⟨.ret,[sI],[iT]⟩,⟨.exit 0,[],[]⟩],Pw.unc8 (Pw.j0M)⟩]
 modes:=[(168,[false,true]),(175,[false]),(176,[false])]
 keep:=[(0,⟨[1,2,7,13,14,15],[],[⟨1000000,4294967523,(.pair .str .bool),[.slot 7],false⟩],[]⟩)]
 keepX:=[(0,.ret,⟨[6],[],[],[]⟩),
  (0,.exit 0,⟨[],[],[],[]⟩)]
 ro:=[false]
theorem jbZ:Con.OK Tryz.prog Lg:=
 cOf aJ aL jct Lg Tryz.func174 (j9 Du (j9 jhT (j9 jhV trivial))) (j9 (λh=>by kernel_rfl) trivial)
def Lh:Con:=⟨99,[.v bS],[bS],⟨[.v iT],[]⟩,[iT],λh=>Pw.j6a h⟩
def jlX:FnD where
 N:=72
 np:=1
 cs:=[yp,KO,KR,K4,Lg]
 ds:=[⟨0,[.s (.one (.bp 64 0)),.s (.one (.ol 1000000)),.s (.one (.d aP)),sI,sI,.b (.cell [.d aG,.d aP,.d aO,.d aV] false),.b (.lst 4294967523 (.pair .str .bool) false)],[aP,iT,iT,aG,aP,aO,aV,(.list (.pair .str .bool))],[⟨.ret,[sI],[iT]⟩,⟨.exit 0,[.s (.one (.bp 64 0)),.b (.cell [.d aG,.d aP,.d aO,.d aV] false)],[aG,aP,aO,aV]⟩],Pw.unc8 (Pw.j2s)⟩]
 modes:=[(165,[false,false,false]),(168,[false,true]),(169,[false,false]),(170,[false,false,false]),(174,[false,false,false])]
 keep:=[(0,⟨[1,4,39,40,41],[64],[⟨1000000,4294967523,(.pair .str .bool),[.slot 4],false⟩],[]⟩)]
 keepX:=[(0,.ret,⟨[2],[],[],[]⟩),
  (0,.exit 0,⟨[1],[64],[],[]⟩)]
 ro:=[false]
theorem jkq:Con.OK Tryz.prog Lh:=
 cOf aJ aL jlX Lh Tryz.func99 (j9 Du (j9 je8 (j9 jfS (j9 jbX (j9 jbZ trivial))))) (j9 (λh=>by kernel_rfl) trivial)
def Li:Con:=⟨139,[.v cd],[cd],⟨[.v bZ,.v iT],[]⟩,[bZ,iT],λh=>Pw.jgp h⟩
def jv7:FnD where
 N:=16
 np:=1
 cs:=[Ge]
 ds:=[]
 modes:=[(208,[false])]
 ro:=[false,false]
theorem jty:Con.OK Tryz.prog Li:=
 cOf aJ aL jv7 Li Tryz.func139 (j9 Th trivial) trivial
def Lj:Con:=⟨234,[.v aG],[aG],⟨[.own 174 ea],[]⟩,[ea],λh=>Pw.jaZ h⟩
def joF:FnD where
 N:=25
 np:=1
 cs:=[Li]
 ds:=[⟨0,[.s (.one (.ol 1000000)),.s (.one (.d aG)),sI,sI,.b (.lst 174 bZ false)],[aG,iT,iT,ea],[⟨.exit 0,[.s (.one (.ol 1500100)),.b (.lst 174 bZ false)],[ea]⟩],Pw.unc4 (Pw.j30)⟩]
 modes:=[(139,[false])]
 keep:=[(0,⟨[3,8,9,10],[],[⟨1000000,174,bZ,[.slot 3],false⟩],[]⟩)]
 keepX:=[(0,.exit 0,⟨[3],[],[⟨1500100,174,bZ,[.slot 3],false⟩],[]⟩)]
 ro:=[true]
theorem jmO:Con.OK Tryz.prog Lj:=
 cOf aJ aL joF Lj Tryz.func234 (j9 jty trivial) (j9 (λh=>by kernel_rfl) trivial)
def Lk:Con:=⟨160,[.v bS],[bS],⟨[.v dN],[]⟩,[dN],λh=>Pw.jcM h⟩
def jrq:FnD where
 N:=8
 np:=1
 cs:=[Lj]
 ds:=[]
 modes:=[(234,[false])]
 ro:=[false]
 dw:=[(1,[[],[],[],[384],[],[128]])]
theorem jqc:Con.OK Tryz.prog Lk:=
 cOf aJ aL jrq Lk Tryz.func160 (j9 jmO trivial) trivial
end Go.Proofs.Pk
