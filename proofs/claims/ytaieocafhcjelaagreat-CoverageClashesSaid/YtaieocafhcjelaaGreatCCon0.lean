/- bZ: each given function is its plain function, printed by a program. -/
import Derived.Test.YtaieocafhcjelaaGreatCTab
import Derived.Test.YtaieocafhcjelaaGreatCSrt
noncomputable section
open Go Go.Lft
set_option linter.unusedVariables false
set_option maxRecDepth 100000
namespace Go.Proofs.Pk
abbrev aQ:Ty:=(.pair iT iT)
abbrev aa:Ty:=(.list aQ)
abbrev aL:Ty:=(.pair iT aQ)
abbrev eQ:Ty:=(.pair .str (.pair iT (.list iT)))
abbrev cb:Ty:=(.pair iT aa)
abbrev aG:Ty:=(.list aL)
abbrev aw:Ty:=(.list eQ)
abbrev cu:Ty:=(.list cb)
abbrev qE:Ty:=(.list aG)
abbrev aV:Ty:=(.pair iT (.pair iT aL))
abbrev au:Ty:=(.list aV)
abbrev fG:Ty:=(.pair .str (.pair iT (.pair aa (.pair iT (.pair iT .bool)))))
abbrev mo:Ty:=(.pair iT (.pair iT aV))
abbrev ax:Ty:=(.list fG)
abbrev bM:Ty:=(.list mo)
abbrev bk:Ty:=(.pair .str (.pair iT bM))
abbrev ar:Ty:=(.list bk)
abbrev bI:Ty:=(.pair .str (.pair iT (.pair aQ (.pair iT (.pair iT (.pair (.list iT) (.pair aa aQ)))))))
abbrev bn:Ty:=(.list bI)
abbrev cq:Ty:=(.pair .str (.pair bn au))
abbrev az:Ty:=(.list cq)
abbrev aT:Ty:=(.pair ar (.pair ax (.pair aw az)))
abbrev dz:Ty:=(.pair aT cu)
def Ku:Con:=⟨17,[.v (.list iT)],[(.list iT)],⟨[.v .bool],[]⟩,[.bool],λh=>Pw.jlR h⟩
def jsz:FnD where
 N:=6
 np:=1
 cs:=[]
 ds:=[]
 ro:=[false]
theorem jqO:Con.OK Tryz.prog Ku:=
 cOf aD aF jsz Ku Tryz.func17 trivial trivial
def Kv:Con:=⟨81,[.v .bool],[.bool],⟨[.v aT],[]⟩,[aT],λh=>Pw.jlS h⟩
def jsA:FnD where
 N:=35
 np:=1
 cs:=[]
 ds:=[]
 ro:=[false]
theorem jqP:Con.OK Tryz.prog Kv:=
 cOf aD aF jsA Kv Tryz.func81 trivial trivial
def Kw:Con:=⟨166,[.v bk],[bk],⟨[.v .str],[]⟩,[.str],λh=>Pw.jcg h⟩
def jkO:FnD where
 N:=5
 np:=1
 cs:=[]
 ds:=[]
 ro:=[false]
theorem jjv:Con.OK Tryz.prog Kw:=
 cOf aD aF jkO Kw Tryz.func166 trivial trivial
def Kx:Con:=⟨320,[.v (.int .u8)],[(.int .u8)],⟨[.v .bool],[]⟩,[.bool],λh=>Pw.jde h⟩
def jqQ:FnD where
 N:=9
 np:=1
 cs:=[]
 ds:=[]
 ro:=[false]
theorem joZ:Con.OK Tryz.prog Kx:=
 cOf aD aF jqQ Kx Tryz.func320 trivial trivial
def Ky:Con:=⟨321,[.v (.int .u8)],[(.int .u8)],⟨[.v .bool],[]⟩,[.bool],λh=>Pw.jjq h⟩
def jqR:FnD where
 N:=9
 np:=1
 cs:=[]
 ds:=[]
 ro:=[false]
theorem jp0:Con.OK Tryz.prog Ky:=
 cOf aD aF jqR Ky Tryz.func321 trivial trivial
def Kz:Con:=⟨249,[.v .str],[.str],⟨[.v .bool],[]⟩,[.bool],λh=>Pw.j7F h⟩
def jsB:FnD where
 N:=43
 np:=1
 cs:=[Kx,Ky]
 ds:=[⟨0,[.s (.one (.d .str)),sI,sI],[.str,iT,iT],[⟨.ret,[.s (.one (.d .bool))],[.bool]⟩,⟨.exit 0,[],[]⟩],Pw.unc3 (Pw.j7N)⟩]
 modes:=[(320,[false]),(321,[false])]
 keep:=[(0,⟨[0,19,20],[],[],[]⟩)]
 keepX:=[(0,.ret,⟨[2],[],[],[]⟩),
  (0,.exit 0,⟨[],[],[],[]⟩)]
 ro:=[false]
theorem jqS:Con.OK Tryz.prog Kz:=
 cOf aD aF jsB Kz Tryz.func249 (j9 joZ (j9 jp0 trivial)) (j9 (λh=>by kernel_rfl) trivial)
def xK:Con:=⟨168,[.v .str,.rl 4294967523 (.list (.pair .str .bool))],[.str,(.list (.pair .str .bool))],⟨[.v iT],[.rl (.list (.pair .str .bool))]⟩,[iT,(.list (.pair .str .bool))],Pw.unc2 Pw.j4o⟩
def jp1:FnD where
 N:=13
 np:=2
 cs:=[Kz]
 ds:=[]
 modes:=[(249,[false])]
 ro:=[false]
theorem Dt:Con.OK Tryz.prog xK:=
 cOf aD aF jp1 xK Tryz.func168 (j9 jqS trivial) trivial
def Du:Con:=⟨300,[.v iT,.v iT,.v iT],[iT,iT,iT],⟨[.v .bool],[]⟩,[.bool],Pw.unc3 Pw.jch⟩
def jyv:FnD where
 N:=15
 np:=3
 cs:=[]
 ds:=[]
 ro:=[false]
theorem KA:Con.OK Tryz.prog Du:=
 cOf aD aF jyv Du Tryz.func300 trivial trivial
def KB:Con:=⟨340,[.v mo],[mo],⟨[.v iT],[]⟩,[iT],λh=>Pw.jhy h⟩
def jue:FnD where
 N:=45
 np:=1
 cs:=[Du]
 ds:=[]
 modes:=[(300,[false,false,false])]
 ro:=[false]
theorem jsC:Con.OK Tryz.prog KB:=
 cOf aD aF jue KB Tryz.func340 (j9 KA trivial) trivial
def KC:Con:=⟨394,[.v iT],[iT],⟨[.v .bool],[]⟩,[.bool],λh=>Pw.jlT h⟩
def jsD:FnD where
 N:=16
 np:=1
 cs:=[]
 ds:=[]
 ro:=[false]
theorem jqT:Con.OK Tryz.prog KC:=
 cOf aD aF jsD KC Tryz.func394 trivial trivial
def Ah:Con:=⟨368,[.v iT,.v iT],[iT,iT],⟨[.v iT],[]⟩,[iT],Pw.unc2 Pw.j8y⟩
def jsE:FnD where
 N:=24
 np:=2
 cs:=[KC]
 ds:=[]
 modes:=[(394,[false])]
 ro:=[false]
theorem Gd:Con.OK Tryz.prog Ah:=
 cOf aD aF jsE Ah Tryz.func368 (j9 jqT trivial) trivial
def KD:Con:=⟨383,[.v aL],[aL],⟨[.v .bool],[]⟩,[.bool],λh=>Pw.jdf h⟩
def jqU:FnD where
 N:=26
 np:=1
 cs:=[Ah]
 ds:=[]
 modes:=[(368,[false,false])]
 ro:=[false]
theorem jp2:Con.OK Tryz.prog KD:=
 cOf aD aF jqU KD Tryz.func383 (j9 Gd trivial) trivial
def Ge:Con:=⟨393,[.v iT,.v iT],[iT,iT],⟨[.v iT],[]⟩,[iT],Pw.unc2 Pw.j9A⟩
def jqV:FnD where
 N:=16
 np:=2
 cs:=[]
 ds:=[]
 ro:=[false]
theorem Uc:Con.OK Tryz.prog Ge:=
 cOf aD aF jqV Ge Tryz.func393 trivial trivial
def Dv:Con:=⟨366,[.v iT],[iT],⟨[.v iT],[]⟩,[iT],λh=>Pw.j6g h⟩
def jqW:FnD where
 N:=19
 np:=1
 cs:=[Ge]
 ds:=[]
 modes:=[(393,[false,false])]
 ro:=[false]
theorem KE:Con.OK Tryz.prog Dv:=
 cOf aD aF jqW Dv Tryz.func366 (j9 Uc trivial) trivial
def KF:Con:=⟨384,[.v aL],[aL],⟨[.v iT],[]⟩,[iT],λh=>Pw.j80 h⟩
def jp3:FnD where
 N:=25
 np:=1
 cs:=[Ah,Dv]
 ds:=[⟨0,[.s (.one (.bp 64 0)),sI,sI,.b (.cell [.d iT,.d iT,.d iT] false)],[iT,iT,iT,iT,iT],[⟨.exit 0,[sI],[iT]⟩],Pw.unc5 (Pw.j4X)⟩]
 modes:=[(366,[false]),(368,[false,false])]
 keep:=[(0,⟨[1,3,4],[64],[],[]⟩)]
 keepX:=[(0,.exit 0,⟨[3],[],[],[]⟩)]
 ro:=[false]
theorem jo9:Con.OK Tryz.prog KF:=
 cOf aD aF jp3 KF Tryz.func384 (j9 Gd (j9 KE trivial)) (j9 (λh=>by kernel_rfl) trivial)
def Gf:Con:=⟨263,[.v iT],[iT],⟨[.v iT],[]⟩,[iT],λh=>Pw.j6Z h⟩
def joa:FnD where
 N:=7
 np:=1
 cs:=[]
 ds:=[]
 ro:=[false]
theorem Ud:Con.OK Tryz.prog Gf:=
 cOf aD aF joa Gf Tryz.func263 trivial trivial
def KG:Con:=⟨341,[.v iT,.v iT,.v iT,.v iT],[iT,iT,iT,iT],⟨[.v iT,.v iT],[]⟩,[iT,iT],Pw.unc4 Pw.jdg⟩
def juf:FnD where
 N:=59
 np:=4
 cs:=[Ah,KD,KF,Gf]
 ds:=[]
 modes:=[(263,[false]),(368,[false,false]),(383,[false]),(384,[false])]
 ro:=[false,false]
theorem jsF:Con.OK Tryz.prog KG:=
 cOf aD aF juf KG Tryz.func341 (j9 Gd (j9 jp2 (j9 jo9 (j9 Ud trivial)))) trivial
def KH:Con:=⟨343,[.v aQ,.v aQ],[aQ,aQ],⟨[.v iT],[]⟩,[iT],Pw.unc2 Pw.j9B⟩
def jhM:FnD where
 N:=10
 np:=2
 cs:=[]
 ds:=[]
 ro:=[false]
theorem jh0:Con.OK Tryz.prog KH:=
 cOf aD aF jhM KH Tryz.func343 trivial trivial
def KI:Con:=⟨398,[.rl 338 aa,.v iT,.v iT,.clo 343 []],[aa,iT,iT],⟨[],[.rl aa]⟩,[aa],Pw.unc3 Pw.j0d⟩
def j6Q:FnD where
 N:=53
 np:=4
 cs:=[KH]
 ds:=[⟨0,[.s (.one (.ol 0)),sI,sI,.s (.one (.clo 343 [])),sI,.b (.lst 338 aQ false)],[iT,iT,iT,aa],[⟨.exit 0,[.b (.lst 338 aQ false)],[aa]⟩],Pw.unc4 (Pw.j09)⟩,
  ⟨2,[.s (.one (.ol 0)),sI,sI,.s (.one (.clo 343 [])),sI,sI,.b (.lst 338 aQ false)],[iT,iT,iT,iT,aa],[⟨.exit 2,[.s (.one (.ol 0)),sI,sI,.s (.one (.clo 343 [])),sI,.b (.lst 338 aQ false)],[iT,iT,iT,aa]⟩],Pw.unc5 (Pw.j0q)⟩]
 modes:=[(343,[false,false])]
 keep:=[(0,⟨[0,1,2,3,8],[0],[],[]⟩),
  (2,⟨[0,1,2,3,8,9],[0],[],[]⟩)]
 keepX:=[(0,.exit 0,⟨[],[0],[],[]⟩),
  (2,.exit 2,⟨[0,1,2,3,8],[0],[],[]⟩)]
 dw:=[(6,[[],[],[],[],[],[],[],[],[],[],[],[],[],[],[],[0],[],[0]])]
theorem j6s:Con.OK Tryz.prog KI:=
 cOf aD aF j6Q KI Tryz.func398 (j9 jh0 trivial) (j9 (λh=>by kernel_rfl) (j9 (λh=>by kernel_rfl) trivial))
def KJ:Con:=⟨385,[.rl 338 aa,.v iT,.clo 343 []],[aa,iT],⟨[],[.rl aa]⟩,[aa],Pw.unc2 Pw.j0S⟩
def j8E:FnD where
 N:=63
 np:=3
 cs:=[KI]
 ds:=[⟨0,[.s (.one (.ol 0)),sI,.s (.one (.clo 343 [])),sI,sI,sI,.b (.lst 338 aQ false)],[iT,iT,iT,iT,aa],[⟨.exit 0,[.s (.one (.ol 0)),sI,.s (.one (.clo 343 [])),sI,sI,.b (.lst 338 aQ false)],[iT,iT,iT,aa]⟩],Pw.unc5 (Pw.j0g)⟩,
  ⟨2,[.s (.one (.ol 0)),sI,.s (.one (.clo 343 [])),sI,.b (.lst 338 aQ false)],[iT,iT,aa],[⟨.exit 2,[.b (.lst 338 aQ false)],[aa]⟩],Pw.unc3 (Pw.j0h)⟩,
  ⟨4,[.s (.one (.ol 0)),sI,.s (.one (.clo 343 [])),sI,sI,sI,.b (.lst 338 aQ false)],[iT,iT,iT,iT,aa],[⟨.exit 4,[.s (.one (.ol 0)),sI,.s (.one (.clo 343 [])),sI,sI,.b (.lst 338 aQ false)],[iT,iT,iT,aa]⟩],Pw.unc5 (Pw.j3H)⟩]
 modes:=[(398,[true,false,false,false])]
 keep:=[(0,⟨[0,1,2,6,7,8],[0],[],[]⟩),
  (2,⟨[0,1,2,6],[0],[],[]⟩),
  (4,⟨[0,1,2,6,7,8],[0],[],[]⟩)]
 keepX:=[(0,.exit 0,⟨[0,1,2,6,7],[0],[],[]⟩),
  (2,.exit 2,⟨[],[0],[],[]⟩),
  (4,.exit 4,⟨[0,1,2,6,7],[0],[],[]⟩)]
theorem j8o:Con.OK Tryz.prog KJ:=
 cOf aD aF j8E KJ Tryz.func385 (j9 j6s trivial) (j9 (λh=>by kernel_rfl) (j9 (λh=>by kernel_rfl) (j9 (λh=>by kernel_rfl) trivial)))
end Go.Proofs.Pk
