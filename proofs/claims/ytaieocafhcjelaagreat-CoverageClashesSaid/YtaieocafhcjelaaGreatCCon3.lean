/- bZ: each given function is its plain function, printed by a program. -/
import Derived.Test.YtaieocafhcjelaaGreatCCon2
noncomputable section
open Go Go.Lft
set_option linter.unusedVariables false
set_option maxRecDepth 100000
namespace Go.Proofs.Pk
def Dz:Con:=⟨86,[.v aT],[aT],⟨[.v dz,.v .bool],[]⟩,[dz,.bool],λh=>Pw.jg0 h⟩
def jyx:FnD where
 N:=10
 np:=1
 cs:=[Lq,Lt]
 ds:=[]
 modes:=[(99,[false]),(160,[false])]
 ro:=[false,false]
theorem Lu:Con.OK Tryz.prog Dz:=
 cOf aD aF jyx Dz Tryz.func86 (j9 jmK (j9 jsK trivial)) trivial
def Gl:Con:=⟨100,[.v aT,.v iT],[aT,iT],⟨[.v .bool],[]⟩,[.bool],Pw.unc2 Pw.jjr⟩
def jr1:FnD where
 N:=14
 np:=2
 cs:=[]
 ds:=[]
 ro:=[false]
theorem Uk:Con.OK Tryz.prog Gl:=
 cOf aD aF jr1 Gl Tryz.func100 trivial trivial
def Gm:Con:=⟨87,[.v iT,.v iT],[iT,iT],⟨[.v .bool],[]⟩,[.bool],Pw.unc2 Pw.jit⟩
def jsL:FnD where
 N:=26
 np:=2
 cs:=[]
 ds:=[]
 ro:=[false]
theorem Ul:Con.OK Tryz.prog Gm:=
 cOf aD aF jsL Gm Tryz.func87 trivial trivial
def Gn:Con:=⟨75,[.v aT,.v iT,.v iT,.v iT],[aT,iT,iT,iT],⟨[.v dz,.v iT],[]⟩,[dz,iT],Pw.unc4 Pw.jbb⟩
def jr2:FnD where
 N:=34
 np:=4
 cs:=[Dz,Gl,Gm]
 ds:=[]
 modes:=[(86,[false]),(87,[false,false]),(100,[false,false])]
 ro:=[false,false]
theorem Um:Con.OK Tryz.prog Gn:=
 cOf aD aF jr2 Gn Tryz.func75 (j9 Lu (j9 Uk (j9 Ul trivial))) trivial
def Gp:Con:=⟨118,[.v dz,.v iT],[dz,iT],⟨[.v cb],[]⟩,[cb],Pw.unc2 Pw.j84⟩
def jlY:FnD where
 N:=10
 np:=2
 cs:=[]
 ds:=[]
 ro:=[false]
theorem Un:Con.OK Tryz.prog Gp:=
 cOf aD aF jlY Gp Tryz.func118 trivial trivial
def Lv:Con:=⟨230,[.v cb],[cb],⟨[.v .bool],[]⟩,[.bool],λh=>Pw.jev h⟩
def jiJ:FnD where
 N:=7
 np:=1
 cs:=[]
 ds:=[]
 ro:=[false]
theorem jhP:Con.OK Tryz.prog Lv:=
 cOf aD aF jiJ Lv Tryz.func230 trivial trivial
def Lw:Con:=⟨231,[.v cb],[cb],⟨[.v iT],[]⟩,[iT],λh=>Pw.jhA h⟩
def jlZ:FnD where
 N:=16
 np:=1
 cs:=[]
 ds:=[]
 ro:=[false]
theorem jkX:Con.OK Tryz.prog Lw:=
 cOf aD aF jlZ Lw Tryz.func231 trivial trivial
def Lx:Con:=⟨229,[.v iT,.ref [ar,ax,aw,az,cu],.ref [iT]],[iT,ar,ax,aw,az,cu,iT],⟨[],[.ref [ar,ax,aw,az,cu],.ref [iT]]⟩,[ar,ax,aw,az,cu,iT],Pw.unc7 Pw.j70⟩
def jhQ:FnD where
 N:=15
 np:=3
 cs:=[Gp,Lv,Lw]
 ds:=[]
 modes:=[(118,[false,false]),(230,[false]),(231,[false])]
 dw:=[(2,[[],[],[],[],[],[128]])]
theorem jh3:Con.OK Tryz.prog Lx:=
 cOf aD aF jhQ Lx Tryz.func229 (j9 Un (j9 jhP (j9 jkX trivial))) trivial
def Gq:Con:=⟨316,[.v bI],[bI],⟨[.v iT],[]⟩,[iT],λh=>Pw.jbc h⟩
def jsM:FnD where
 N:=11
 np:=1
 cs:=[]
 ds:=[]
 ro:=[false]
theorem Uo:Con.OK Tryz.prog Gq:=
 cOf aD aF jsM Gq Tryz.func316 trivial trivial
def Ly:Con:=⟨328,[.v iT,.ip [iT,aa],.ip [iT]],[iT,iT,aa,iT],⟨[.v .bool],[]⟩,[.bool],Pw.unc4 Pw.j9C⟩
def jhR:FnD where
 N:=13
 np:=3
 cs:=[]
 ds:=[]
 ro:=[false]
theorem jh4:Con.OK Tryz.prog Ly:=
 cOf aD aF jhR Ly Tryz.func328 trivial trivial
def Lz:Con:=⟨327,[.v iT,.clo 328 [.p [iT,aa],.p [iT]]],[iT,iT,aa,iT],⟨[.v iT],[]⟩,[iT],Pw.unc4 Pw.jbd⟩
def jr3:FnD where
 N:=26
 np:=2
 cs:=[Ly]
 ds:=[⟨0,[.s (.one (.clo 328 [.p [iT,aa],.p [iT]])),sI,sI],[iT,aa,iT,iT,iT],[⟨.exit 0,[sI],[iT]⟩],Pw.unc5 (Pw.j49)⟩]
 modes:=[(328,[false])]
 keep:=[(0,⟨[1,5,6],[],[],[]⟩)]
 keepX:=[(0,.exit 0,⟨[5],[],[],[]⟩)]
 ro:=[false]
theorem jp6:Con.OK Tryz.prog Lz:=
 cOf aD aF jr3 Lz Tryz.func327 (j9 jh4 trivial) (j9 (λh=>by kernel_rfl) trivial)
def Gr:Con:=⟨271,[.v cb,.v iT],[cb,iT],⟨[.v iT],[]⟩,[iT],Pw.unc2 Pw.j42⟩
def jkZ:FnD where
 N:=10
 np:=2
 cs:=[Lz]
 ds:=[]
 modes:=[(327,[false,false])]
 ro:=[false]
theorem Up:Con.OK Tryz.prog Gr:=
 cOf aD aF jkZ Gr Tryz.func271 (j9 jp6 trivial) trivial
def Gs:Con:=⟨272,[.v cb,.v iT],[cb,iT],⟨[.v iT],[]⟩,[iT],Pw.unc2 Pw.j5m⟩
def jjE:FnD where
 N:=16
 np:=2
 cs:=[]
 ds:=[]
 ro:=[false]
theorem Uq:Con.OK Tryz.prog Gs:=
 cOf aD aF jjE Gs Tryz.func272 trivial trivial
def DA:Con:=⟨186,[.v cb,.v iT,.v iT],[cb,iT,iT],⟨[.own 251 aG],[]⟩,[aG],Pw.unc3 Pw.j1A⟩
def jjF:FnD where
 N:=41
 np:=3
 cs:=[Gr,Gs]
 ds:=[⟨0,[sI,sI,.s (.one (.bp 192 0)),.s (.one (.ol 1000000)),.b (.cell [.d iT,.d aa] false),.b (.lst 251 aL false)],[iT,iT,iT,aa,aG],[⟨.exit 0,[.s (.one (.ol 1500100)),.b (.lst 251 aL false)],[aG]⟩],Pw.unc5 (Pw.j0r)⟩]
 modes:=[(271,[false,false]),(272,[false,false])]
 keep:=[(0,⟨[1,2,3,7],[192],[⟨1000000,251,aL,[.slot 7],false⟩],[]⟩)]
 keepX:=[(0,.exit 0,⟨[7],[],[⟨1500100,251,aL,[.slot 7],false⟩],[]⟩)]
 ro:=[true]
theorem LA:Con.OK Tryz.prog DA:=
 cOf aD aF jjF DA Tryz.func186 (j9 Up (j9 Uq trivial)) (j9 (λh=>by kernel_rfl) trivial)
def LB:Con:=⟨317,[.v aQ],[aQ],⟨[.v iT],[]⟩,[iT],λh=>Pw.j5g h⟩
def jp7:FnD where
 N:=11
 np:=1
 cs:=[]
 ds:=[]
 ro:=[false]
theorem jog:Con.OK Tryz.prog LB:=
 cOf aD aF jp7 LB Tryz.func317 trivial trivial
def Gt:Con:=⟨233,[.v cb,.v aQ],[cb,aQ],⟨[.v iT,.v .bool],[]⟩,[iT,.bool],Pw.unc2 Pw.j1B⟩
def jl0:FnD where
 N:=30
 np:=2
 cs:=[DA,LB]
 ds:=[⟨0,[.s (.one (.bp 192 0)),.s (.one (.ol 1000000)),sI,sI,.b (.cell [.d iT,.d iT] false),.b (.lst 251 aL false)],[iT,iT,iT,iT,aG],[⟨.ret,[sI,.s (.one (.d .bool))],[iT,.bool]⟩,⟨.exit 0,[],[]⟩],Pw.unc5 (Pw.j23)⟩]
 modes:=[(186,[false,false,false]),(317,[false])]
 keep:=[(0,⟨[3,10,11,12],[192],[⟨1000000,251,aL,[.slot 10],false⟩],[]⟩)]
 keepX:=[(0,.ret,⟨[4,5],[],[],[]⟩),
  (0,.exit 0,⟨[],[],[],[]⟩)]
 ro:=[false,false]
theorem Ur:Con.OK Tryz.prog Gt:=
 cOf aD aF jl0 Gt Tryz.func233 (j9 LA (j9 jog trivial)) (j9 (λh=>by kernel_rfl) trivial)
def Aj:Con:=⟨232,[.v cb,.v bI,.v iT],[cb,bI,iT],⟨[.v iT,.v .bool],[]⟩,[iT,.bool],Pw.unc3 Pw.j0F⟩
def jl1:FnD where
 N:=50
 np:=3
 cs:=[Gq,Gt]
 ds:=[]
 modes:=[(233,[false,false]),(316,[false])]
 ro:=[false,false]
 dw:=[(5,[[],[],[],[],[],[],[],[],[512]])]
theorem Gu:Con.OK Tryz.prog Aj:=
 cOf aD aF jl1 Aj Tryz.func232 (j9 Uo (j9 Ur trivial)) trivial
def Gv:Con:=⟨158,[.v dz,.v cq],[dz,cq],⟨[.v iT],[]⟩,[iT],Pw.unc2 Pw.j5L⟩
def jl2:FnD where
 N:=95
 np:=2
 cs:=[Gp,Lx,Gt,Aj]
 ds:=[⟨0,[.s (.one (.bp 128 0)),.s (.one (.bp 192 0)),.s (.one (.bp 320 0)),.s (.one (.d au)),sI,sI,.b (.cell [.d ar,.d ax,.d aw,.d az,.d cu] false),.b (.cell [.d .str,.d bn,.d au] false),.b (.cell [.d iT] false)],[au,iT,iT,ar,ax,aw,az,cu,.str,bn,au,iT],[⟨.exit 0,[.s (.one (.bp 128 0)),.s (.one (.bp 192 0)),.s (.one (.bp 320 0)),.b (.cell [.d ar,.d ax,.d aw,.d az,.d cu] false),.b (.cell [.d .str,.d bn,.d au] false),.b (.cell [.d iT] false)],[ar,ax,aw,az,cu,.str,bn,au,iT]⟩],Pw.jwC (Pw.j9W)⟩,
  ⟨2,[.s (.one (.bp 128 0)),.s (.one (.bp 320 0)),.s (.one (.clr 229 [128,320])),.s (.one (.d bn)),sI,sI,.b (.cell [.d ar,.d ax,.d aw,.d az,.d cu] false),.b (.cell [.d iT] false)],[bn,iT,iT,ar,ax,aw,az,cu,iT],[⟨.exit 2,[.s (.one (.bp 320 0)),.b (.cell [.d iT] false)],[iT]⟩],Pw.unc9 (Pw.j3r)⟩]
 modes:=[(118,[false,false]),(229,[false]),(232,[false,false,false]),(233,[false,false])]
 keep:=[(0,⟨[2,3,5,18,19,20],[128,192,320],[],[]⟩),
  (2,⟨[2,5,8,31,32,33],[128,320],[],[]⟩)]
 keepX:=[(0,.exit 0,⟨[2,3,5],[128,192,320],[],[]⟩),
  (2,.exit 2,⟨[5],[320],[],[]⟩)]
 ro:=[false]
 cr:=[229]
theorem Us:Con.OK Tryz.prog Gv:=
 cOf aD aF jl2 Gv Tryz.func158 (j9 Un (j9 jh3 (j9 Ur (j9 Gu trivial)))) (j9 (λh=>by kernel_rfl) (j9 (λh=>by kernel_rfl) trivial))
def Ut:Con:=⟨213,[.v (.list iT)],[(.list iT)],⟨[.own 3 (.list iT)],[]⟩,[(.list iT)],λh=>Pw.j8Q h⟩
def jh5:FnD where
 N:=8
 np:=1
 cs:=[]
 ds:=[]
 ro:=[true]
theorem jge:Con.OK Tryz.prog Ut:=
 RT aD aF jh5 213 iT 3 Tryz.f213 (Tryz.f213.body.getD .skip) Tryz.func213 (by kernel_rfl) (by kernel_rfl) (Nat.le_of_ble_eq_true (by kernel_rfl)) (by kernel_rfl) trivial (by kernel_rfl)
  (λh R k=>by kernel_rfl)
def Gw:Con:=⟨214,[.v iT,.ip [iT],.ip [iT]],[iT,iT,iT],⟨[.v .bool],[]⟩,[.bool],Pw.unc3 Pw.jbH⟩
def jp8:FnD where
 N:=13
 np:=3
 cs:=[]
 ds:=[]
 ro:=[false]
theorem Uu:Con.OK Tryz.prog Gw:=
 cOf aD aF jp8 Gw Tryz.func214 trivial trivial
end Go.Proofs.Pk
