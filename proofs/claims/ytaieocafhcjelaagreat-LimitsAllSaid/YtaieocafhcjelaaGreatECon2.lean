/- cJ: each given function is its plain function, printed by a program. -/
import Derived.Test.YtaieocafhcjelaaGreatECon1
noncomputable section
open Go Go.Lft
set_option linter.unusedVariables false
set_option maxRecDepth 100000
namespace Go.Proofs.Pk
def K9:Con:=⟨252,[.v (.list iT),.clo 253 []],[(.list iT)],⟨[.v .bool],[]⟩,[.bool],λh=>Pw.j2m h⟩
def jc2:FnD where
 N:=9
 np:=2
 cs:=[K8]
 ds:=[]
 modes:=[(303,[false,false])]
 ro:=[false]
theorem jbJ:Con.OK Tryz.prog K9:=
 cOf aM aN jc2 K9 Tryz.func252 (j9 jd7 trivial) trivial
def La:Con:=⟨173,[.v bQ,.v eb],[bQ,eb],⟨[.v iT],[]⟩,[iT],Pw.unc2 Pw.j2t⟩
def jfn:FnD where
 N:=46
 np:=2
 cs:=[yA,K9]
 ds:=[⟨1,[.s (.one (.bp 192 0)),sI,sI,.b (.cell [.d .str,.d iT,.d (.list iT)] false)],[iT,iT,.str,iT,(.list iT)],[⟨.ret,[sI],[iT]⟩,⟨.exit 1,[],[]⟩],Pw.unc5 (Pw.j2G)⟩]
 modes:=[(250,[false,false]),(252,[false,false])]
 keep:=[(1,⟨[3,25,26],[192],[],[]⟩)]
 keepX:=[(1,.ret,⟨[4],[],[],[]⟩),
  (1,.exit 1,⟨[],[],[],[]⟩)]
 ro:=[false]
theorem jeR:Con.OK Tryz.prog La:=
 cOf aM aN jfn La Tryz.func173 (j9 DH (j9 jbJ trivial)) (j9 (λh=>by kernel_rfl) trivial)
def Lb:Con:=⟨172,[.v eb,.ip [aD,aH,aG,aO]],[eb,aD,aH,aG,aO],⟨[.v iT],[]⟩,[iT],Pw.unc5 Pw.j5Z⟩
def jiY:FnD where
 N:=7
 np:=2
 cs:=[La]
 ds:=[]
 modes:=[(173,[false,false])]
 ro:=[false]
theorem jhZ:Con.OK Tryz.prog Lb:=
 cOf aM aN jiY Lb Tryz.func172 (j9 jeR trivial) trivial
def Lc:Con:=⟨170,[.v aG,.clo 171 [],.clo 172 [.p [aD,aH,aG,aO]]],[aG,aD,aH,aG,aO],⟨[.v iT],[]⟩,[iT],Pw.unc5 Pw.j1V⟩
def jcx:FnD where
 N:=34
 np:=3
 cs:=[yz,K3,Lb]
 ds:=[⟨0,[.s (.one (.clo 171 [])),.s (.one (.clo 172 [.p [aD,aH,aG,aO]])),.s (.one (.ol 1000000)),.s (.one (.d aG)),sI,sI,.b (.lst 4294967523 (.pair .str .bool) false)],[aD,aH,aG,aO,aG,iT,iT,(.list (.pair .str .bool))],[⟨.ret,[sI],[iT]⟩,⟨.exit 0,[],[]⟩],Pw.unc8 (Pw.j0L)⟩]
 modes:=[(168,[false,true]),(171,[false]),(172,[false])]
 keep:=[(0,⟨[1,2,7,13,14,15],[],[⟨1000000,4294967523,(.pair .str .bool),[.slot 7],false⟩],[]⟩)]
 keepX:=[(0,.ret,⟨[6],[],[],[]⟩),
  (0,.exit 0,⟨[],[],[],[]⟩)]
 ro:=[false]
theorem jc3:Con.OK Tryz.prog Lc:=
 cOf aM aN jcx Lc Tryz.func170 (j9 DE (j9 jhY (j9 jhZ trivial))) (j9 (λh=>by kernel_rfl) trivial)
def Ld:Con:=⟨175,[.v cG],[cG],⟨[.v .str],[]⟩,[.str],λh=>Pw.jbY h⟩
def jiZ:FnD where
 N:=5
 np:=1
 cs:=[]
 ds:=[]
 ro:=[false]
theorem ji0:Con.OK Tryz.prog Ld:=
 cOf aM aN jiZ Ld Tryz.func175 trivial trivial
def Le:Con:=⟨256,[.v cw],[cw],⟨[.v .str],[]⟩,[.str],λh=>Pw.j6Q h⟩
def jdC:FnD where
 N:=5
 np:=1
 cs:=[]
 ds:=[]
 ro:=[false]
theorem jd8:Con.OK Tryz.prog Le:=
 cOf aM aN jdC Le Tryz.func256 trivial trivial
def Lf:Con:=⟨324,[.v iT,.ip [aD,aH,aG,aO]],[iT,aD,aH,aG,aO],⟨[.v .bool],[]⟩,[.bool],Pw.unc5 Pw.j87⟩
def jfo:FnD where
 N:=10
 np:=2
 cs:=[yA]
 ds:=[]
 modes:=[(250,[false,false])]
 ro:=[false]
theorem jeS:Con.OK Tryz.prog Lf:=
 cOf aM aN jfo Lf Tryz.func324 (j9 DH trivial) trivial
def Lg:Con:=⟨303,[.v (.list iT),.clo 324 [.p [aD,aH,aG,aO]]],[(.list iT),aD,aH,aG,aO],⟨[.v iT],[]⟩,[iT],Pw.unc5 Pw.j2n⟩
def jc4:FnD where
 N:=19
 np:=2
 cs:=[Lf]
 ds:=[⟨0,[.s (.one (.d (.list iT))),.s (.one (.clo 324 [.p [aD,aH,aG,aO]])),sI,sI],[(.list iT),aD,aH,aG,aO,iT,iT],[⟨.ret,[sI],[iT]⟩,⟨.exit 0,[],[]⟩],Pw.unc7 (Pw.j1D)⟩]
 modes:=[(324,[false])]
 keep:=[(0,⟨[0,1,7,8],[],[],[]⟩)]
 keepX:=[(0,.ret,⟨[4],[],[],[]⟩),
  (0,.exit 0,⟨[],[],[],[]⟩)]
 ro:=[false]
theorem jbK:Con.OK Tryz.prog Lg:=
 cOf aM aN jc4 Lg Tryz.func303 (j9 jeS trivial) (j9 (λh=>by kernel_rfl) trivial)
def Lh:Con:=⟨252,[.v (.list iT),.clo 324 [.p [aD,aH,aG,aO]]],[(.list iT),aD,aH,aG,aO],⟨[.v .bool],[]⟩,[.bool],Pw.unc5 Pw.j1J⟩
def jaC:FnD where
 N:=9
 np:=2
 cs:=[Lg]
 ds:=[]
 modes:=[(303,[false,false])]
 ro:=[false]
theorem jag:Con.OK Tryz.prog Lh:=
 cOf aM aN jaC Lh Tryz.func252 (j9 jbK trivial) trivial
def Li:Con:=⟨258,[.v bQ,.v cw],[bQ,cw],⟨[.v iT],[]⟩,[iT],Pw.unc2 Pw.j3l⟩
def jhh:FnD where
 N:=91
 np:=2
 cs:=[yA,Gt,DI,DJ,Lh]
 ds:=[]
 modes:=[(204,[false]),(250,[false,false]),(252,[false,false]),(254,[false]),(322,[false,false,false])]
 ro:=[false]
theorem jgC:Con.OK Tryz.prog Li:=
 cOf aM aN jhh Li Tryz.func258 (j9 DH (j9 TA (j9 KX (j9 K6 (j9 jag trivial))))) trivial
def Lj:Con:=⟨257,[.v cw,.ip [aD,aH,aG,aO]],[cw,aD,aH,aG,aO],⟨[.v iT],[]⟩,[iT],Pw.unc5 Pw.j2Y⟩
def jdD:FnD where
 N:=7
 np:=2
 cs:=[Li]
 ds:=[]
 modes:=[(258,[false,false])]
 ro:=[false]
theorem jd9:Con.OK Tryz.prog Lj:=
 cOf aM aN jdD Lj Tryz.func257 (j9 jgC trivial) trivial
def Lk:Con:=⟨255,[.v cd,.clo 256 [],.clo 257 [.p [aD,aH,aG,aO]]],[cd,aD,aH,aG,aO],⟨[.v iT],[]⟩,[iT],Pw.unc5 Pw.j2D⟩
def jej:FnD where
 N:=34
 np:=3
 cs:=[yz,Le,Lj]
 ds:=[⟨0,[.s (.one (.clo 256 [])),.s (.one (.clo 257 [.p [aD,aH,aG,aO]])),.s (.one (.ol 1000000)),.s (.one (.d cd)),sI,sI,.b (.lst 4294967523 (.pair .str .bool) false)],[aD,aH,aG,aO,cd,iT,iT,(.list (.pair .str .bool))],[⟨.ret,[sI],[iT]⟩,⟨.exit 0,[],[]⟩],Pw.unc8 (Pw.j12)⟩]
 modes:=[(168,[false,true]),(256,[false]),(257,[false])]
 keep:=[(0,⟨[1,2,7,13,14,15],[],[⟨1000000,4294967523,(.pair .str .bool),[.slot 7],false⟩],[]⟩)]
 keepX:=[(0,.ret,⟨[6],[],[],[]⟩),
  (0,.exit 0,⟨[],[],[],[]⟩)]
 ro:=[false]
theorem jdE:Con.OK Tryz.prog Lk:=
 cOf aM aN jej Lk Tryz.func255 (j9 DE (j9 jd8 (j9 jd9 trivial))) (j9 (λh=>by kernel_rfl) trivial)
def Ll:Con:=⟨259,[.v bQ,.v bd],[bQ,bd],⟨[.v iT],[]⟩,[iT],Pw.unc2 Pw.j3O⟩
def ji1:FnD where
 N:=83
 np:=2
 cs:=[yA,DI,DJ]
 ds:=[]
 modes:=[(250,[false,false]),(254,[false]),(322,[false,false,false])]
 ro:=[false]
theorem jhi:Con.OK Tryz.prog Ll:=
 cOf aM aN ji1 Ll Tryz.func259 (j9 DH (j9 KX (j9 K6 trivial))) trivial
def Lm:Con:=⟨177,[.v bQ,.v cG],[bQ,cG],⟨[.v iT],[]⟩,[iT],Pw.unc2 Pw.j2u⟩
def jfp:FnD where
 N:=40
 np:=2
 cs:=[Lk,Ll]
 ds:=[⟨0,[.s (.one (.bp 128 0)),.s (.one (.d ay)),sI,sI,.b (.cell [.d aD,.d aH,.d aG,.d aO] true)],[ay,iT,iT,aD,aH,aG,aO],[⟨.ret,[sI],[iT]⟩,⟨.exit 0,[],[]⟩],Pw.unc7 (Pw.j1f)⟩]
 modes:=[(255,[false,false,false]),(259,[false,false])]
 keep:=[(0,⟨[2,27,28,29],[128],[],[]⟩)]
 keepX:=[(0,.ret,⟨[4],[],[],[]⟩),
  (0,.exit 0,⟨[],[],[],[]⟩)]
 ro:=[false]
theorem jeT:Con.OK Tryz.prog Lm:=
 cOf aM aN jfp Lm Tryz.func177 (j9 jdE (j9 jhi trivial)) (j9 (λh=>by kernel_rfl) trivial)
def Ln:Con:=⟨176,[.v cG,.ip [aD,aH,aG,aO]],[cG,aD,aH,aG,aO],⟨[.v iT],[]⟩,[iT],Pw.unc5 Pw.j60⟩
def jj0:FnD where
 N:=7
 np:=2
 cs:=[Lm]
 ds:=[]
 modes:=[(177,[false,false])]
 ro:=[false]
theorem ji2:Con.OK Tryz.prog Ln:=
 cOf aM aN jj0 Ln Tryz.func176 (j9 jeT trivial) trivial
def Lo:Con:=⟨174,[.v aO,.clo 175 [],.clo 176 [.p [aD,aH,aG,aO]]],[aO,aD,aH,aG,aO],⟨[.v iT],[]⟩,[iT],Pw.unc5 Pw.j2B⟩
def jcy:FnD where
 N:=34
 np:=3
 cs:=[yz,Ld,Ln]
 ds:=[⟨0,[.s (.one (.clo 175 [])),.s (.one (.clo 176 [.p [aD,aH,aG,aO]])),.s (.one (.ol 1000000)),.s (.one (.d aO)),sI,sI,.b (.lst 4294967523 (.pair .str .bool) false)],[aD,aH,aG,aO,aO,iT,iT,(.list (.pair .str .bool))],[⟨.ret,[sI],[iT]⟩,⟨.exit 0,[],[]⟩],Pw.unc8 (Pw.j0M)⟩]
 modes:=[(168,[false,true]),(175,[false]),(176,[false])]
 keep:=[(0,⟨[1,2,7,13,14,15],[],[⟨1000000,4294967523,(.pair .str .bool),[.slot 7],false⟩],[]⟩)]
 keepX:=[(0,.ret,⟨[6],[],[],[]⟩),
  (0,.exit 0,⟨[],[],[],[]⟩)]
 ro:=[false]
theorem jc5:Con.OK Tryz.prog Lo:=
 cOf aM aN jcy Lo Tryz.func174 (j9 DE (j9 ji0 (j9 ji2 trivial))) (j9 (λh=>by kernel_rfl) trivial)
def Lp:Con:=⟨99,[.v bQ],[bQ],⟨[.v iT],[]⟩,[iT],λh=>Pw.j68 h⟩
def jm4:FnD where
 N:=72
 np:=1
 cs:=[yz,KW,KZ,Lc,Lo]
 ds:=[⟨0,[.s (.one (.bp 64 0)),.s (.one (.ol 1000000)),.s (.one (.d aH)),sI,sI,.b (.cell [.d aD,.d aH,.d aG,.d aO] false),.b (.lst 4294967523 (.pair .str .bool) false)],[aH,iT,iT,aD,aH,aG,aO,(.list (.pair .str .bool))],[⟨.ret,[sI],[iT]⟩,⟨.exit 0,[.s (.one (.bp 64 0)),.b (.cell [.d aD,.d aH,.d aG,.d aO] false)],[aD,aH,aG,aO]⟩],Pw.unc8 (Pw.j2v)⟩]
 modes:=[(165,[false,false,false]),(168,[false,true]),(169,[false,false]),(170,[false,false,false]),(174,[false,false,false])]
 keep:=[(0,⟨[1,4,39,40,41],[64],[⟨1000000,4294967523,(.pair .str .bool),[.slot 4],false⟩],[]⟩)]
 keepX:=[(0,.ret,⟨[2],[],[],[]⟩),
  (0,.exit 0,⟨[1],[64],[],[]⟩)]
 ro:=[false]
theorem jky:Con.OK Tryz.prog Lp:=
 cOf aM aN jm4 Lp Tryz.func99 (j9 DE (j9 jeg (j9 jg1 (j9 jc3 (j9 jc5 trivial))))) (j9 (λh=>by kernel_rfl) trivial)
def Lq:Con:=⟨139,[.v cj],[cj],⟨[.v cb,.v iT],[]⟩,[cb,iT],λh=>Pw.jgy h⟩
def jvg:FnD where
 N:=16
 np:=1
 cs:=[Gs]
 ds:=[]
 modes:=[(208,[false])]
 ro:=[false,false]
theorem jtJ:Con.OK Tryz.prog Lq:=
 cOf aM aN jvg Lq Tryz.func139 (j9 Tz trivial) trivial
def Lr:Con:=⟨234,[.v aD],[aD],⟨[.own 174 ec],[]⟩,[ec],λh=>Pw.jb3 h⟩
def joL:FnD where
 N:=25
 np:=1
 cs:=[Lq]
 ds:=[⟨0,[.s (.one (.ol 1000000)),.s (.one (.d aD)),sI,sI,.b (.lst 174 cb false)],[aD,iT,iT,ec],[⟨.exit 0,[.s (.one (.ol 1500100)),.b (.lst 174 cb false)],[ec]⟩],Pw.unc4 (Pw.j31)⟩]
 modes:=[(139,[false])]
 keep:=[(0,⟨[3,8,9,10],[],[⟨1000000,174,cb,[.slot 3],false⟩],[]⟩)]
 keepX:=[(0,.exit 0,⟨[3],[],[⟨1500100,174,cb,[.slot 3],false⟩],[]⟩)]
 ro:=[true]
theorem jmT:Con.OK Tryz.prog Lr:=
 cOf aM aN joL Lr Tryz.func234 (j9 jtJ trivial) (j9 (λh=>by kernel_rfl) trivial)
def Ls:Con:=⟨160,[.v bQ],[bQ],⟨[.v dQ],[]⟩,[dQ],λh=>Pw.jcR h⟩
def jrA:FnD where
 N:=8
 np:=1
 cs:=[Lr]
 ds:=[]
 modes:=[(234,[false])]
 ro:=[false]
 dw:=[(1,[[],[],[],[384],[],[128]])]
theorem jqm:Con.OK Tryz.prog Ls:=
 cOf aM aN jrA Ls Tryz.func160 (j9 jmT trivial) trivial
end Go.Proofs.Pk
