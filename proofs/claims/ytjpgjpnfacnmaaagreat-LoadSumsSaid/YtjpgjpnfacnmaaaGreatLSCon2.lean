/- cp: each given function is its plain function, printed by a program. -/
import Derived.Test.YtjpgjpnfacnmaaaGreatLSCon1
noncomputable section
open Go Go.Lft
set_option linter.unusedVariables false
set_option maxRecDepth 100000
namespace Go.Proofs.Pk
def Oq:Con:=⟨334,[.rl 282 aa,.v iT,.v iT,.clo 282 []],[aa,iT,iT],⟨[],[.rl aa]⟩,[aa],Pw.unc3 Pw.j0l⟩
def j5I:FnD where
 N:=53
 np:=4
 cs:=[N8]
 ds:=[⟨0,[sO 0,sI,sI,sC 282 [],sI,.b (.lst 282 aJ false)],[iT,iT,iT,aa],[⟨.exit 0,[.b (.lst 282 aJ false)],[aa]⟩],Pw.unc4 (Pw.j0f)⟩,⟨2,[sO 0,sI,sI,sC 282 [],sI,sI,.b (.lst 282 aJ false)],[iT,iT,iT,iT,aa],[⟨.exit 2,[sO 0,sI,sI,sC 282 [],sI,.b (.lst 282 aJ false)],[iT,iT,iT,aa]⟩],Pw.unc5 (Pw.j0e)⟩]
 keep:=[(0,⟨[0,1,2,3,8],[0],[],[]⟩),(2,⟨[0,1,2,3,8,9],[0],[],[]⟩)]
 keepX:=[(0,.exit 0,⟨[],[0],[],[]⟩),(2,.exit 2,⟨[0,1,2,3,8],[0],[],[]⟩)]
 dw:=[(6,[[],[],[],[],[],[],[],[],[],[],[],[],[],[],[],[0],[],[0]])]
theorem j59:aB Oq:=
 cOf aC aF j5I Oq Tryz.func334 (ja jg7 trivial) (ja (λh=>by kernel_rfl) (ja (λh=>by kernel_rfl) trivial))
def Ot:Con:=⟨303,[.rl 282 aa,.v iT,.clo 282 []],[aa,iT],⟨[],[.rl aa]⟩,[aa],Pw.unc2 Pw.j1S⟩
def j7B:FnD where
 N:=63
 np:=3
 cs:=[Oq]
 ds:=[⟨0,[sO 0,sI,sC 282 [],sI,sI,sI,.b (.lst 282 aJ false)],[iT,iT,iT,iT,aa],[⟨.exit 0,[sO 0,sI,sC 282 [],sI,sI,.b (.lst 282 aJ false)],[iT,iT,iT,aa]⟩],Pw.unc5 (Pw.j0D)⟩,⟨2,[sO 0,sI,sC 282 [],sI,.b (.lst 282 aJ false)],[iT,iT,aa],[⟨.exit 2,[.b (.lst 282 aJ false)],[aa]⟩],Pw.unc3 (Pw.j0E)⟩,⟨4,[sO 0,sI,sC 282 [],sI,sI,sI,.b (.lst 282 aJ false)],[iT,iT,iT,iT,aa],[⟨.exit 4,[sO 0,sI,sC 282 [],sI,sI,.b (.lst 282 aJ false)],[iT,iT,iT,aa]⟩],Pw.unc5 (Pw.j2f)⟩]
 modes:=[(334,[true,false,false,false])]
 keep:=[(0,⟨[0,1,2,6,7,8],[0],[],[]⟩),(2,⟨[0,1,2,6],[0],[],[]⟩),(4,⟨[0,1,2,6,7,8],[0],[],[]⟩)]
 keepX:=[(0,.exit 0,⟨[0,1,2,6,7],[0],[],[]⟩),(2,.exit 2,⟨[],[0],[],[]⟩),(4,.exit 4,⟨[0,1,2,6,7],[0],[],[]⟩)]
theorem j7h:aB Ot:=
 cOf aC aF j7B Ot Tryz.func303 (ja j59 trivial) (ja (λh=>by kernel_rfl) (ja (λh=>by kernel_rfl) (ja (λh=>by kernel_rfl) trivial)))
def Ou:Con:=⟨281,[.rl 282 aa,.clo 282 []],[aa],⟨[],[.rl aa]⟩,[aa],λh=>Pw.j0j h⟩
def j3z:FnD where
 N:=9
 np:=2
 cs:=[Ot]
 modes:=[(303,[true,false,false])]
theorem j3j:aB Ou:=
 cOf aC aF j3z Ou Tryz.func281 (ja j7h trivial) trivial
def Ov:Con:=⟨238,[.v bd],[bd],⟨[.own 282 aa,.v iT],[]⟩,[aa,iT],λh=>Pw.j8n h⟩
def jjJ:FnD where
 N:=86
 np:=1
 cs:=[Fz,N2,N7,Ou]
 ds:=[⟨0,[sB 64 0,sI,sD bM,sI,sI,.b (.cell [.d .str,.d iT,.d bM] false)],[iT,bM,iT,iT,.str,iT,bM],[⟨.ret,[.s (.one (.nil)),sI],[iT]⟩,⟨.exit 0,[sB 64 0,sI,.b (.cell [.d .str,.d iT,.d bM] false)],[iT,.str,iT,bM]⟩],Pw.unc7 (Pw.j25)⟩,⟨2,[sO 1002000,sD bM,sI,sI,.b (.lst 282 aJ false)],[bM,iT,iT,aa],[⟨.exit 2,[sO 1502300,.b (.lst 282 aJ false)],[aa]⟩],Pw.unc4 (Pw.j27)⟩,⟨4,[sO 1004000,sB 640 0,sI,sD bM,sI,sI,.b (.cell [.d iT,.d iT,.d iT,.d iT,.d iT,.d iT,.d iT] false),.b (.lst 282 aJ false)],[iT,bM,iT,iT,iT,iT,iT,iT,iT,iT,iT,aa],[⟨.exit 4,[sO 1504500,sD bM,sI,sI,.b (.lst 282 aJ false)],[bM,iT,iT,aa]⟩],Pw.u8 Pw.unc4 (Pw.j26)⟩]
 modes:=[(281,[true,false])]
 keep:=[(0,⟨[1,4,23,24,25],[64],[],[]⟩),(2,⟨[8,46,47,48],[],[⟨1002000,282,aJ,[.slot 8],false⟩],[]⟩),(4,⟨[8,10,11,46,47,48],[640],[⟨1004000,282,aJ,[.slot 8],false⟩],[]⟩)]
 keepX:=[(0,.ret,⟨[2,3],[],[],[]⟩),(0,.exit 0,⟨[1,4],[64],[],[]⟩),(2,.exit 2,⟨[8],[],[⟨1502300,282,aJ,[.slot 8],false⟩],[]⟩),(4,.exit 4,⟨[8,46,47,48],[],[⟨1504500,282,aJ,[.slot 8],false⟩],[]⟩)]
 ro:=[true,false]
theorem jiB:aB Ov:=
 cOf aC aF jjJ Ov Tryz.func238 (ja N1 (ja jrP (ja jrS (ja j3j trivial)))) (ja (λh=>by kernel_rfl) (ja (λh=>by kernel_rfl) (ja (λh=>by kernel_rfl) trivial)))
def Jg:Con:=⟨167,[.v bd],[bd],⟨[.own 216 aa,.v iT],[]⟩,[aa,iT],λh=>Pw.j3t h⟩
def jjK:FnD where
 N:=79
 np:=1
 cs:=[Fz,Ov]
 ds:=[⟨0,[sO 1000000,sI,sO 1000001,sI,sI,.b (.lst 216 aJ false),.b (.lst 282 aJ false)],[iT,iT,iT,aa,aa],[⟨.ret,[.s (.one (.nil)),sI],[iT]⟩,⟨.exit 0,[sO 1500100,.b (.lst 216 aJ false)],[aa]⟩],Pw.unc5 (Pw.j28)⟩]
 keep:=[(0,⟨[6,7,22,23,24],[],[⟨1000000,216,aJ,[.slot 6],false⟩,⟨1000001,282,aJ,[.slot 22],false⟩],[]⟩)]
 keepX:=[(0,.ret,⟨[2,3],[],[],[]⟩),(0,.exit 0,⟨[6],[],[⟨1500100,216,aJ,[.slot 6],false⟩],[]⟩)]
 ro:=[true,false]
theorem Yk:aB Jg:=
 cOf aC aF jjK Jg Tryz.func167 (ja N1 (ja jiB trivial)) (ja (λh=>by kernel_rfl) trivial)
def Ow:Con:=⟨186,[.v bd],[bd],⟨[.v iT],[]⟩,[iT],λh=>Pw.jeh h⟩
def jrX:FnD where
 N:=11
 np:=1
 cs:=[Jg]
theorem jpS:aB Ow:=
 cOf aC aF jrX Ow Tryz.func186 (ja Yk trivial) trivial
def Ox:Con:=⟨188,[.v ou],[ou],⟨[.v .bool],[]⟩,[.bool],λh=>Pw.j7M h⟩
def jg8:FnD where
 N:=7
 np:=1
theorem jfk:aB Ox:=
 cOf aC aF jg8 Ox Tryz.func188 trivial trivial
def Oy:Con:=⟨254,[.v bM,.clo 188 []],[bM],⟨[.v iT],[]⟩,[iT],λh=>Pw.j1k h⟩
def j5L:FnD where
 N:=19
 np:=2
 cs:=[Ox]
 ds:=[⟨0,[sD bM,sC 188 [],sI,sI],[bM,iT,iT],[⟨.ret,[sI],[iT]⟩,⟨.exit 0,[],[]⟩],Pw.unc3 (Pw.j0g)⟩]
 keep:=[(0,⟨[0,1,7,8],[],[],[]⟩)]
 keepX:=[(0,.ret,⟨[4],[],[],[]⟩)]
theorem j5K:aB Oy:=
 cOf aC aF j5L Oy Tryz.func254 (ja jfk trivial) (ja (λh=>by kernel_rfl) trivial)
def Oz:Con:=⟨187,[.v bM,.clo 188 []],[bM],⟨[.v .bool],[]⟩,[.bool],λh=>Pw.j16 h⟩
def j52:FnD where
 N:=9
 np:=2
 cs:=[Oy]
theorem j4Y:aB Oz:=
 cOf aC aF j52 Oz Tryz.func187 (ja j5K trivial) trivial
def OA:Con:=⟨123,[.v bd],[bd],⟨[.v iT],[]⟩,[iT],λh=>Pw.j5m h⟩
def jiC:FnD where
 N:=17
 np:=1
 cs:=[Ow,Oz]
theorem jhG:aB OA:=
 cOf aC aF jiC OA Tryz.func123 (ja jpS (ja j4Y trivial)) trivial
def OB:Con:=⟨121,[.v ax,.clo 122 [],.clo 123 []],[ax],⟨[.v iT],[]⟩,[iT],λh=>Pw.j4k h⟩
def jew:FnD where
 N:=34
 np:=3
 cs:=[NX,zW,OA]
 ds:=[⟨0,[sC 122 [],sC 123 [],sO 1000000,sD ax,sI,sI,.b (.lst 4294967478 (.pair .str .bool) false)],[ax,iT,iT,(.list (.pair .str .bool))],[⟨.ret,[sI],[iT]⟩,⟨.exit 0,[],[]⟩],Pw.unc4 (Pw.j1c)⟩]
 modes:=[(124,[false,true])]
 keep:=[(0,⟨[1,2,7,13,14,15],[],[⟨1000000,4294967478,(.pair .str .bool),[.slot 7],false⟩],[]⟩)]
 keepX:=[(0,.ret,⟨[6],[],[],[]⟩)]
theorem jdF:aB OB:=
 cOf aC aF jew OB Tryz.func121 (ja jiy (ja Fy (ja jhG trivial))) (ja (λh=>by kernel_rfl) trivial)
def zX:Con:=⟨190,[.v iT,.v iT],[iT,iT],⟨[.v .bool],[]⟩,[.bool],Pw.unc2 Pw.j1B⟩
def jmI:FnD where
 N:=12
 np:=2
theorem FB:aB zX:=
 cOf aC aF jmI zX Tryz.func190 trivial trivial
def FC:Con:=⟨163,[.v aa],[aa],⟨[.v iT],[]⟩,[iT],λh=>Pw.jbT h⟩
def jrY:FnD where
 N:=46
 np:=1
 ds:=[⟨0,[sD aa,sD aa,sI,sI],[aa,aa,iT,iT],[⟨.ret,[sI],[iT]⟩,⟨.exit 0,[],[]⟩],Pw.unc4 (Pw.j4z)⟩]
 keep:=[(0,⟨[0,8,9,10],[],[],[]⟩)]
 keepX:=[(0,.ret,⟨[2],[],[],[]⟩)]
theorem OC:aB FC:=
 cOf aC aF jrY FC Tryz.func163 trivial (ja (λh=>by kernel_rfl) trivial)
def FD:Con:=⟨257,[.v iT,.v iT,.v iT],[iT,iT,iT],⟨[.v .bool],[]⟩,[.bool],Pw.unc3 Pw.j7r⟩
def jrZ:FnD where
 N:=15
 np:=3
theorem OD:aB FD:=
 cOf aC aF jrZ FD Tryz.func257 trivial trivial
def OE:Con:=⟨191,[.v iT],[iT],⟨[.v .bool],[]⟩,[.bool],λh=>Pw.j4A h⟩
def jmJ:FnD where
 N:=10
 np:=1
 cs:=[FD]
theorem jll:aB OE:=
 cOf aC aF jmJ OE Tryz.func191 (ja OD trivial) trivial
def OG:Con:=⟨125,[.v aY,.v gn],[aY,gn],⟨[.v iT],[]⟩,[iT],Pw.unc2 Pw.j2K⟩
def jgT:FnD where
 N:=29
 np:=2
 cs:=[zX,FC,OE]
theorem jg9:aB OG:=
 cOf aC aF jgT OG Tryz.func125 (ja FB (ja OC (ja jll trivial))) trivial
def OH:Con:=⟨127,[.v fL],[fL],⟨[.v .str],[]⟩,[.str],λh=>Pw.jaT h⟩
def jjL:FnD where
 N:=5
 np:=1
theorem jiD:aB OH:=
 cOf aC aF jjL OH Tryz.func127 trivial trivial
def OI:Con:=⟨292,[.v iT],[iT],⟨[.v iT],[]⟩,[iT],λh=>Pw.jei h⟩
def js0:FnD where
 N:=15
 np:=1
 cs:=[Jc,FA]
 ds:=[⟨0,[sI,sI],[iT,iT],[⟨.exit 0,[sI],[iT]⟩],Pw.unc2 (Pw.jd2)⟩]
 keep:=[(0,⟨[0,3],[],[],[]⟩)]
 keepX:=[(0,.exit 0,⟨[3],[],[],[]⟩)]
theorem jpT:aB OI:=
 cOf aC aF js0 OI Tryz.func292 (ja Yf (ja N5 trivial)) (ja (λh=>by kernel_rfl) trivial)
def OJ:Con:=⟨259,[.v iT],[iT],⟨[.v aA,.v iT],[]⟩,[aA,iT],λh=>Pw.j4B h⟩
def jnC:FnD where
 N:=45
 np:=1
 cs:=[B6,FA,OI]
 ds:=[⟨0,[sB 128 0,sB 256 0,sI,.b (.cell [.d iT,.d iT,.d iT] false),.b (.cell [.d iT,.d iT,.d iT] false)],[iT,iT,iT,iT,iT,iT,iT],[⟨.exit 0,[sB 128 0,sB 256 0,sI,.b (.cell [.d iT,.d iT,.d iT] false),.b (.cell [.d iT,.d iT,.d iT] false)],[iT,iT,iT,iT,iT,iT,iT]⟩],Pw.unc7 (Pw.jbh)⟩]
 keep:=[(0,⟨[2,4,5],[128,256],[],[]⟩)]
 keepX:=[(0,.exit 0,⟨[2,4,5],[128,256],[],[]⟩)]
theorem jmK:aB OJ:=
 cOf aC aF jnC OJ Tryz.func259 (ja Jb (ja N5 (ja jpT trivial))) (ja (λh=>by kernel_rfl) trivial)
def FE:Con:=⟨194,[.v iT],[iT],⟨[.v .bool],[]⟩,[.bool],λh=>Pw.j0A h⟩
def jpU:FnD where
 N:=12
 np:=1
 cs:=[OJ]
theorem OL:aB FE:=
 cOf aC aF jpU FE Tryz.func194 (ja jmK trivial) trivial
end Go.Proofs.Pk
