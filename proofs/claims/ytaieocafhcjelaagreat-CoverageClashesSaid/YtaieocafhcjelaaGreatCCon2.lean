/- bZ: each given function is its plain function, printed by a program. -/
import Derived.Test.YtaieocafhcjelaaGreatCCon1
noncomputable section
open Go Go.Lft
set_option linter.unusedVariables false
set_option maxRecDepth 100000
namespace Go.Proofs.Pk
def La:Con:=⟨252,[.v (.list iT),.clo 253 []],[(.list iT)],⟨[.v .bool],[]⟩,[.bool],λh=>Pw.j21 h⟩
def jcn:FnD where
 N:=9
 np:=2
 cs:=[K3]
 ds:=[]
 modes:=[(303,[false,false])]
 ro:=[false]
theorem jc2:Con.OK Tryz.prog La:=
 cOf aD aF jcn La Tryz.func252 (j9 jdI trivial) trivial
def Lb:Con:=⟨173,[.v aT,.v eQ],[aT,eQ],⟨[.v iT],[]⟩,[iT],Pw.unc2 Pw.j29⟩
def jga:FnD where
 N:=46
 np:=2
 cs:=[xL,La]
 ds:=[⟨1,[.s (.one (.bp 192 0)),sI,sI,.b (.cell [.d .str,.d iT,.d (.list iT)] false)],[iT,iT,.str,iT,(.list iT)],[⟨.ret,[sI],[iT]⟩,⟨.exit 1,[],[]⟩],Pw.unc5 (Pw.j2p)⟩]
 modes:=[(250,[false,false]),(252,[false,false])]
 keep:=[(1,⟨[3,25,26],[192],[],[]⟩)]
 keepX:=[(1,.ret,⟨[4],[],[],[]⟩),
  (1,.exit 1,⟨[],[],[],[]⟩)]
 ro:=[false]
theorem jfz:Con.OK Tryz.prog Lb:=
 cOf aD aF jga Lb Tryz.func173 (j9 Dw (j9 jc2 trivial)) (j9 (λh=>by kernel_rfl) trivial)
def Lc:Con:=⟨172,[.v eQ,.ip [ar,ax,aw,az]],[eQ,ar,ax,aw,az],⟨[.v iT],[]⟩,[iT],Pw.unc5 Pw.j5J⟩
def jkT:FnD where
 N:=7
 np:=2
 cs:=[Lb]
 ds:=[]
 modes:=[(173,[false,false])]
 ro:=[false]
theorem jjz:Con.OK Tryz.prog Lc:=
 cOf aD aF jkT Lc Tryz.func172 (j9 jfz trivial) trivial
def Ld:Con:=⟨170,[.v aw,.clo 171 [],.clo 172 [.p [ar,ax,aw,az]]],[aw,ar,ax,aw,az],⟨[.v iT],[]⟩,[iT],Pw.unc5 Pw.j1w⟩
def jcV:FnD where
 N:=34
 np:=3
 cs:=[xK,KV,Lc]
 ds:=[⟨0,[.s (.one (.clo 171 [])),.s (.one (.clo 172 [.p [ar,ax,aw,az]])),.s (.one (.ol 1000000)),.s (.one (.d aw)),sI,sI,.b (.lst 4294967523 (.pair .str .bool) false)],[ar,ax,aw,az,aw,iT,iT,(.list (.pair .str .bool))],[⟨.ret,[sI],[iT]⟩,⟨.exit 0,[],[]⟩],Pw.unc8 (Pw.j0t)⟩]
 modes:=[(168,[false,true]),(171,[false]),(172,[false])]
 keep:=[(0,⟨[1,2,7,13,14,15],[],[⟨1000000,4294967523,(.pair .str .bool),[.slot 7],false⟩],[]⟩)]
 keepX:=[(0,.ret,⟨[6],[],[],[]⟩),
  (0,.exit 0,⟨[],[],[],[]⟩)]
 ro:=[false]
theorem jco:Con.OK Tryz.prog Ld:=
 cOf aD aF jcV Ld Tryz.func170 (j9 Dt (j9 jjy (j9 jjz trivial))) (j9 (λh=>by kernel_rfl) trivial)
def Le:Con:=⟨175,[.v cq],[cq],⟨[.v .str],[]⟩,[.str],λh=>Pw.jcj h⟩
def jkU:FnD where
 N:=5
 np:=1
 cs:=[]
 ds:=[]
 ro:=[false]
theorem jjA:Con.OK Tryz.prog Le:=
 cOf aD aF jkU Le Tryz.func175 trivial trivial
def Lf:Con:=⟨256,[.v bI],[bI],⟨[.v .str],[]⟩,[.str],λh=>Pw.j6D h⟩
def jeg:FnD where
 N:=5
 np:=1
 cs:=[]
 ds:=[]
 ro:=[false]
theorem jdJ:Con.OK Tryz.prog Lf:=
 cOf aD aF jeg Lf Tryz.func256 trivial trivial
def Lg:Con:=⟨324,[.v iT,.ip [ar,ax,aw,az]],[iT,ar,ax,aw,az],⟨[.v .bool],[]⟩,[.bool],Pw.unc5 Pw.j82⟩
def jgb:FnD where
 N:=10
 np:=2
 cs:=[xL]
 ds:=[]
 modes:=[(250,[false,false])]
 ro:=[false]
theorem jfA:Con.OK Tryz.prog Lg:=
 cOf aD aF jgb Lg Tryz.func324 (j9 Dw trivial) trivial
def Lh:Con:=⟨303,[.v (.list iT),.clo 324 [.p [ar,ax,aw,az]]],[(.list iT),ar,ax,aw,az],⟨[.v iT],[]⟩,[iT],Pw.unc5 Pw.j22⟩
def jcp:FnD where
 N:=19
 np:=2
 cs:=[Lg]
 ds:=[⟨0,[.s (.one (.d (.list iT))),.s (.one (.clo 324 [.p [ar,ax,aw,az]])),sI,sI],[(.list iT),ar,ax,aw,az,iT,iT],[⟨.ret,[sI],[iT]⟩,⟨.exit 0,[],[]⟩],Pw.unc7 (Pw.j1e)⟩]
 modes:=[(324,[false])]
 keep:=[(0,⟨[0,1,7,8],[],[],[]⟩)]
 keepX:=[(0,.ret,⟨[4],[],[],[]⟩),
  (0,.exit 0,⟨[],[],[],[]⟩)]
 ro:=[false]
theorem jc3:Con.OK Tryz.prog Lh:=
 cOf aD aF jcp Lh Tryz.func303 (j9 jfA trivial) (j9 (λh=>by kernel_rfl) trivial)
def Li:Con:=⟨252,[.v (.list iT),.clo 324 [.p [ar,ax,aw,az]]],[(.list iT),ar,ax,aw,az],⟨[.v .bool],[]⟩,[.bool],Pw.unc5 Pw.j1m⟩
def jaI:FnD where
 N:=9
 np:=2
 cs:=[Lh]
 ds:=[]
 modes:=[(303,[false,false])]
 ro:=[false]
theorem jai:Con.OK Tryz.prog Li:=
 cOf aD aF jaI Li Tryz.func252 (j9 jc3 trivial) trivial
def Lj:Con:=⟨258,[.v aT,.v bI],[aT,bI],⟨[.v iT],[]⟩,[iT],Pw.unc2 Pw.j35⟩
def jiH:FnD where
 N:=91
 np:=2
 cs:=[xL,Gh,Dx,Dy,Li]
 ds:=[]
 modes:=[(204,[false]),(250,[false,false]),(252,[false,false]),(254,[false]),(322,[false,false,false])]
 ro:=[false]
theorem jhO:Con.OK Tryz.prog Lj:=
 cOf aD aF jiH Lj Tryz.func258 (j9 Dw (j9 Uf (j9 KS (j9 KY (j9 jai trivial))))) trivial
def Lk:Con:=⟨257,[.v bI,.ip [ar,ax,aw,az]],[bI,ar,ax,aw,az],⟨[.v iT],[]⟩,[iT],Pw.unc5 Pw.j2K⟩
def jeh:FnD where
 N:=7
 np:=2
 cs:=[Lj]
 ds:=[]
 modes:=[(258,[false,false])]
 ro:=[false]
theorem jdK:Con.OK Tryz.prog Lk:=
 cOf aD aF jeh Lk Tryz.func257 (j9 jhO trivial) trivial
def Ll:Con:=⟨255,[.v bn,.clo 256 [],.clo 257 [.p [ar,ax,aw,az]]],[bn,ar,ax,aw,az],⟨[.v iT],[]⟩,[iT],Pw.unc5 Pw.j2i⟩
def jeX:FnD where
 N:=34
 np:=3
 cs:=[xK,Lf,Lk]
 ds:=[⟨0,[.s (.one (.clo 256 [])),.s (.one (.clo 257 [.p [ar,ax,aw,az]])),.s (.one (.ol 1000000)),.s (.one (.d bn)),sI,sI,.b (.lst 4294967523 (.pair .str .bool) false)],[ar,ax,aw,az,bn,iT,iT,(.list (.pair .str .bool))],[⟨.ret,[sI],[iT]⟩,⟨.exit 0,[],[]⟩],Pw.unc8 (Pw.j0C)⟩]
 modes:=[(168,[false,true]),(256,[false]),(257,[false])]
 keep:=[(0,⟨[1,2,7,13,14,15],[],[⟨1000000,4294967523,(.pair .str .bool),[.slot 7],false⟩],[]⟩)]
 keepX:=[(0,.ret,⟨[6],[],[],[]⟩),
  (0,.exit 0,⟨[],[],[],[]⟩)]
 ro:=[false]
theorem jei:Con.OK Tryz.prog Ll:=
 cOf aD aF jeX Ll Tryz.func255 (j9 Dt (j9 jdJ (j9 jdK trivial))) (j9 (λh=>by kernel_rfl) trivial)
def Lm:Con:=⟨259,[.v aT,.v aV],[aT,aV],⟨[.v iT],[]⟩,[iT],Pw.unc2 Pw.j3q⟩
def jjB:FnD where
 N:=83
 np:=2
 cs:=[xL,Dx,Dy]
 ds:=[]
 modes:=[(250,[false,false]),(254,[false]),(322,[false,false,false])]
 ro:=[false]
theorem jiI:Con.OK Tryz.prog Lm:=
 cOf aD aF jjB Lm Tryz.func259 (j9 Dw (j9 KS (j9 KY trivial))) trivial
def Ln:Con:=⟨177,[.v aT,.v cq],[aT,cq],⟨[.v iT],[]⟩,[iT],Pw.unc2 Pw.j2a⟩
def jgc:FnD where
 N:=40
 np:=2
 cs:=[Ll,Lm]
 ds:=[⟨0,[.s (.one (.bp 128 0)),.s (.one (.d au)),sI,sI,.b (.cell [.d ar,.d ax,.d aw,.d az] true)],[au,iT,iT,ar,ax,aw,az],[⟨.ret,[sI],[iT]⟩,⟨.exit 0,[],[]⟩],Pw.unc7 (Pw.j0Q)⟩]
 modes:=[(255,[false,false,false]),(259,[false,false])]
 keep:=[(0,⟨[2,27,28,29],[128],[],[]⟩)]
 keepX:=[(0,.ret,⟨[4],[],[],[]⟩),
  (0,.exit 0,⟨[],[],[],[]⟩)]
 ro:=[false]
theorem jfB:Con.OK Tryz.prog Ln:=
 cOf aD aF jgc Ln Tryz.func177 (j9 jei (j9 jiI trivial)) (j9 (λh=>by kernel_rfl) trivial)
def Lo:Con:=⟨176,[.v cq,.ip [ar,ax,aw,az]],[cq,ar,ax,aw,az],⟨[.v iT],[]⟩,[iT],Pw.unc5 Pw.j5K⟩
def jkV:FnD where
 N:=7
 np:=2
 cs:=[Ln]
 ds:=[]
 modes:=[(177,[false,false])]
 ro:=[false]
theorem jjC:Con.OK Tryz.prog Lo:=
 cOf aD aF jkV Lo Tryz.func176 (j9 jfB trivial) trivial
def Lp:Con:=⟨174,[.v az,.clo 175 [],.clo 176 [.p [ar,ax,aw,az]]],[az,ar,ax,aw,az],⟨[.v iT],[]⟩,[iT],Pw.unc5 Pw.j2g⟩
def jcW:FnD where
 N:=34
 np:=3
 cs:=[xK,Le,Lo]
 ds:=[⟨0,[.s (.one (.clo 175 [])),.s (.one (.clo 176 [.p [ar,ax,aw,az]])),.s (.one (.ol 1000000)),.s (.one (.d az)),sI,sI,.b (.lst 4294967523 (.pair .str .bool) false)],[ar,ax,aw,az,az,iT,iT,(.list (.pair .str .bool))],[⟨.ret,[sI],[iT]⟩,⟨.exit 0,[],[]⟩],Pw.unc8 (Pw.j0u)⟩]
 modes:=[(168,[false,true]),(175,[false]),(176,[false])]
 keep:=[(0,⟨[1,2,7,13,14,15],[],[⟨1000000,4294967523,(.pair .str .bool),[.slot 7],false⟩],[]⟩)]
 keepX:=[(0,.ret,⟨[6],[],[],[]⟩),
  (0,.exit 0,⟨[],[],[],[]⟩)]
 ro:=[false]
theorem jcq:Con.OK Tryz.prog Lp:=
 cOf aD aF jcW Lp Tryz.func174 (j9 Dt (j9 jjA (j9 jjC trivial))) (j9 (λh=>by kernel_rfl) trivial)
def Lq:Con:=⟨99,[.v aT],[aT],⟨[.v iT],[]⟩,[iT],λh=>Pw.j5T h⟩
def jof:FnD where
 N:=72
 np:=1
 cs:=[xK,KR,KU,Ld,Lp]
 ds:=[⟨0,[.s (.one (.bp 64 0)),.s (.one (.ol 1000000)),.s (.one (.d ax)),sI,sI,.b (.cell [.d ar,.d ax,.d aw,.d az] false),.b (.lst 4294967523 (.pair .str .bool) false)],[ax,iT,iT,ar,ax,aw,az,(.list (.pair .str .bool))],[⟨.ret,[sI],[iT]⟩,⟨.exit 0,[.s (.one (.bp 64 0)),.b (.cell [.d ar,.d ax,.d aw,.d az] false)],[ar,ax,aw,az]⟩],Pw.unc8 (Pw.j2b)⟩]
 modes:=[(165,[false,false,false]),(168,[false,true]),(169,[false,false]),(170,[false,false,false]),(174,[false,false,false])]
 keep:=[(0,⟨[1,4,39,40,41],[64],[⟨1000000,4294967523,(.pair .str .bool),[.slot 4],false⟩],[]⟩)]
 keepX:=[(0,.ret,⟨[2],[],[],[]⟩),
  (0,.exit 0,⟨[1],[64],[],[]⟩)]
 ro:=[false]
theorem jmK:Con.OK Tryz.prog Lq:=
 cOf aD aF jof Lq Tryz.func99 (j9 Dt (j9 jeU (j9 jh2 (j9 jco (j9 jcq trivial))))) (j9 (λh=>by kernel_rfl) trivial)
def Lr:Con:=⟨139,[.v bk],[bk],⟨[.v cb,.v iT],[]⟩,[cb,iT],λh=>Pw.jhz h⟩
def jyw:FnD where
 N:=16
 np:=1
 cs:=[Gg]
 ds:=[]
 modes:=[(208,[false])]
 ro:=[false,false]
theorem jwD:Con.OK Tryz.prog Lr:=
 cOf aD aF jyw Lr Tryz.func139 (j9 Ue trivial) trivial
def Ls:Con:=⟨234,[.v ar],[ar],⟨[.own 174 cu],[]⟩,[cu],λh=>Pw.jba h⟩
def jr0:FnD where
 N:=25
 np:=1
 cs:=[Lr]
 ds:=[⟨0,[.s (.one (.ol 1000000)),.s (.one (.d ar)),sI,sI,.b (.lst 174 cb false)],[ar,iT,iT,cu],[⟨.exit 0,[.s (.one (.ol 1500100)),.b (.lst 174 cb false)],[cu]⟩],Pw.unc4 (Pw.j2N)⟩]
 modes:=[(139,[false])]
 keep:=[(0,⟨[3,8,9,10],[],[⟨1000000,174,cb,[.slot 3],false⟩],[]⟩)]
 keepX:=[(0,.exit 0,⟨[3],[],[⟨1500100,174,cb,[.slot 3],false⟩],[]⟩)]
 ro:=[true]
theorem jp5:Con.OK Tryz.prog Ls:=
 cOf aD aF jr0 Ls Tryz.func234 (j9 jwD trivial) (j9 (λh=>by kernel_rfl) trivial)
def Lt:Con:=⟨160,[.v aT],[aT],⟨[.v dz],[]⟩,[dz],λh=>Pw.jdj h⟩
def jug:FnD where
 N:=8
 np:=1
 cs:=[Ls]
 ds:=[]
 modes:=[(234,[false])]
 ro:=[false]
 dw:=[(1,[[],[],[],[384],[],[128]])]
theorem jsK:Con.OK Tryz.prog Lt:=
 cOf aD aF jug Lt Tryz.func160 (j9 jp5 trivial) trivial
end Go.Proofs.Pk
