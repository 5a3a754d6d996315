/- cp: each given function is its plain function, printed by a program. -/
import Derived.Test.YtjpgjpnfacnmaaaGreatLSCon2
noncomputable section
open Go Go.Lft
set_option linter.unusedVariables false
set_option maxRecDepth 100000
namespace Go.Proofs.Pk
def OM:Con:=⟨193,[.v iT],[iT],⟨[.v .bool],[]⟩,[.bool],λh=>Pw.j5n h⟩
def jcO:FnD where
 N:=6
 np:=1
 cs:=[FE]
theorem jcv:aB OM:=
 cOf aC aF jcO OM Tryz.func193 (ja OL trivial) trivial
def ON:Con:=⟨258,[.v (.list iT),.clo 193 []],[(.list iT)],⟨[.v iT],[]⟩,[iT],λh=>Pw.j5o h⟩
def jcP:FnD where
 N:=19
 np:=2
 cs:=[OM]
 ds:=[⟨0,[sD (.list iT),sC 193 [],sI,sI],[(.list iT),iT,iT],[⟨.ret,[sI],[iT]⟩,⟨.exit 0,[],[]⟩],Pw.unc3 (Pw.j11)⟩]
 keep:=[(0,⟨[0,1,7,8],[],[],[]⟩)]
 keepX:=[(0,.ret,⟨[4],[],[],[]⟩)]
theorem jcw:aB ON:=
 cOf aC aF jcP ON Tryz.func258 (ja jcv trivial) (ja (λh=>by kernel_rfl) trivial)
def OO:Con:=⟨192,[.v (.list iT),.clo 193 []],[(.list iT)],⟨[.v .bool],[]⟩,[.bool],λh=>Pw.j45 h⟩
def jb3:FnD where
 N:=9
 np:=2
 cs:=[ON]
theorem jaH:aB OO:=
 cOf aC aF jb3 OO Tryz.func192 (ja jcw trivial) trivial
def OP:Con:=⟨129,[.v aY,.v fL],[aY,fL],⟨[.v iT],[]⟩,[iT],Pw.unc2 Pw.j2W⟩
def jfn:FnD where
 N:=46
 np:=2
 cs:=[zX,OO]
 ds:=[⟨1,[sB 192 0,sI,sI,.b (.cell [.d .str,.d iT,.d (.list iT)] false)],[iT,iT,.str,iT,(.list iT)],[⟨.ret,[sI],[iT]⟩,⟨.exit 1,[],[]⟩],Pw.unc5 (Pw.j1l)⟩]
 keep:=[(1,⟨[3,25,26],[192],[],[]⟩)]
 keepX:=[(1,.ret,⟨[4],[],[],[]⟩)]
theorem jex:aB OP:=
 cOf aC aF jfn OP Tryz.func129 (ja FB (ja jaH trivial)) (ja (λh=>by kernel_rfl) trivial)
def OQ:Con:=⟨128,[.v fL,.ip [ax,az,ay,aG]],[fL,ax,az,ay,aG],⟨[.v iT],[]⟩,[iT],Pw.unc5 Pw.jaU⟩
def jjM:FnD where
 N:=7
 np:=2
 cs:=[OP]
theorem jiE:aB OQ:=
 cOf aC aF jjM OQ Tryz.func128 (ja jex trivial) trivial
def OR:Con:=⟨126,[.v ay,.clo 127 [],.clo 128 [.p [ax,az,ay,aG]]],[ay,ax,az,ay,aG],⟨[.v iT],[]⟩,[iT],Pw.unc5 Pw.j2z⟩
def jbF:FnD where
 N:=34
 np:=3
 cs:=[zW,OH,OQ]
 ds:=[⟨0,[sC 127 [],sC 128 [.p [ax,az,ay,aG]],sO 1000000,sD ay,sI,sI,.b (.lst 4294967478 (.pair .str .bool) false)],[ax,az,ay,aG,ay,iT,iT,(.list (.pair .str .bool))],[⟨.ret,[sI],[iT]⟩,⟨.exit 0,[],[]⟩],Pw.unc8 (Pw.j0O)⟩]
 modes:=[(124,[false,true])]
 keep:=[(0,⟨[1,2,7,13,14,15],[],[⟨1000000,4294967478,(.pair .str .bool),[.slot 7],false⟩],[]⟩)]
 keepX:=[(0,.ret,⟨[6],[],[],[]⟩)]
theorem jb4:aB OR:=
 cOf aC aF jbF OR Tryz.func126 (ja Fy (ja jiD (ja jiE trivial))) (ja (λh=>by kernel_rfl) trivial)
def OS:Con:=⟨131,[.v df],[df],⟨[.v .str],[]⟩,[.str],λh=>Pw.jaV h⟩
def jjN:FnD where
 N:=5
 np:=1
theorem jiF:aB OS:=
 cOf aC aF jjN OS Tryz.func131 trivial trivial
def OT:Con:=⟨196,[.v bN],[bN],⟨[.v .str],[]⟩,[.str],λh=>Pw.j5p h⟩
def jcQ:FnD where
 N:=5
 np:=1
theorem jcx:aB OT:=
 cOf aC aF jcQ OT Tryz.func196 trivial trivial
def OU:Con:=⟨260,[.v iT,.ip [ax,az,ay,aG]],[iT,ax,az,ay,aG],⟨[.v .bool],[]⟩,[.bool],Pw.unc5 Pw.j70⟩
def jfo:FnD where
 N:=10
 np:=2
 cs:=[zX]
theorem jey:aB OU:=
 cOf aC aF jfo OU Tryz.func260 (ja FB trivial) trivial
def OV:Con:=⟨258,[.v (.list iT),.clo 260 [.p [ax,az,ay,aG]]],[(.list iT),ax,az,ay,aG],⟨[.v iT],[]⟩,[iT],Pw.unc5 Pw.j46⟩
def jb5:FnD where
 N:=19
 np:=2
 cs:=[OU]
 ds:=[⟨0,[sD (.list iT),sC 260 [.p [ax,az,ay,aG]],sI,sI],[(.list iT),ax,az,ay,aG,iT,iT],[⟨.ret,[sI],[iT]⟩,⟨.exit 0,[],[]⟩],Pw.unc7 (Pw.j0I)⟩]
 keep:=[(0,⟨[0,1,7,8],[],[],[]⟩)]
 keepX:=[(0,.ret,⟨[4],[],[],[]⟩)]
theorem jaI:aB OV:=
 cOf aC aF jb5 OV Tryz.func258 (ja jey trivial) (ja (λh=>by kernel_rfl) trivial)
def OW:Con:=⟨192,[.v (.list iT),.clo 260 [.p [ax,az,ay,aG]]],[(.list iT),ax,az,ay,aG],⟨[.v .bool],[]⟩,[.bool],Pw.unc5 Pw.j2X⟩
def j9v:FnD where
 N:=9
 np:=2
 cs:=[OV]
theorem j9m:aB OW:=
 cOf aC aF j9v OW Tryz.func192 (ja jaI trivial) trivial
def OX:Con:=⟨198,[.v aY,.v bN],[aY,bN],⟨[.v iT],[]⟩,[iT],Pw.unc2 Pw.j4D⟩
def jhH:FnD where
 N:=91
 np:=2
 cs:=[zX,FC,FD,FE,OW]
theorem jgU:aB OX:=
 cOf aC aF jhH OX Tryz.func198 (ja FB (ja OC (ja OD (ja OL (ja j9m trivial))))) trivial
def OY:Con:=⟨197,[.v bN,.ip [ax,az,ay,aG]],[bN,ax,az,ay,aG],⟨[.v iT],[]⟩,[iT],Pw.unc5 Pw.j5q⟩
def jcR:FnD where
 N:=7
 np:=2
 cs:=[OX]
theorem jcy:aB OY:=
 cOf aC aF jcR OY Tryz.func197 (ja jgU trivial) trivial
def OZ:Con:=⟨195,[.v bC,.clo 196 [],.clo 197 [.p [ax,az,ay,aG]]],[bC,ax,az,ay,aG],⟨[.v iT],[]⟩,[iT],Pw.unc5 Pw.j3N⟩
def jdI:FnD where
 N:=34
 np:=3
 cs:=[zW,OT,OY]
 ds:=[⟨0,[sC 196 [],sC 197 [.p [ax,az,ay,aG]],sO 1000000,sD bC,sI,sI,.b (.lst 4294967478 (.pair .str .bool) false)],[ax,az,ay,aG,bC,iT,iT,(.list (.pair .str .bool))],[⟨.ret,[sI],[iT]⟩,⟨.exit 0,[],[]⟩],Pw.unc8 (Pw.j17)⟩]
 modes:=[(124,[false,true])]
 keep:=[(0,⟨[1,2,7,13,14,15],[],[⟨1000000,4294967478,(.pair .str .bool),[.slot 7],false⟩],[]⟩)]
 keepX:=[(0,.ret,⟨[6],[],[],[]⟩)]
theorem jcS:aB OZ:=
 cOf aC aF jdI OZ Tryz.func195 (ja Fy (ja jcx (ja jcy trivial))) (ja (λh=>by kernel_rfl) trivial)
def O0:Con:=⟨199,[.v aY,.v gV],[aY,gV],⟨[.v iT],[]⟩,[iT],Pw.unc2 Pw.j5r⟩
def jiG:FnD where
 N:=83
 np:=2
 cs:=[zX,FD,FE]
theorem jhI:aB O0:=
 cOf aC aF jiG O0 Tryz.func199 (ja FB (ja OD (ja OL trivial))) trivial
def O1:Con:=⟨133,[.v aY,.v df],[aY,df],⟨[.v iT],[]⟩,[iT],Pw.unc2 Pw.j2Y⟩
def jfp:FnD where
 N:=40
 np:=2
 cs:=[OZ,O0]
 ds:=[⟨0,[sB 128 0,sD bu,sI,sI,.b (.cell [.d ax,.d az,.d ay,.d aG] true)],[bu,iT,iT,ax,az,ay,aG],[⟨.ret,[sI],[iT]⟩,⟨.exit 0,[],[]⟩],Pw.unc7 (Pw.j1n)⟩]
 keep:=[(0,⟨[2,27,28,29],[128],[],[]⟩)]
 keepX:=[(0,.ret,⟨[4],[],[],[]⟩)]
theorem jez:aB O1:=
 cOf aC aF jfp O1 Tryz.func133 (ja jcS (ja jhI trivial)) (ja (λh=>by kernel_rfl) trivial)
def O2:Con:=⟨132,[.v df,.ip [ax,az,ay,aG]],[df,ax,az,ay,aG],⟨[.v iT],[]⟩,[iT],Pw.unc5 Pw.jaW⟩
def jjO:FnD where
 N:=7
 np:=2
 cs:=[O1]
theorem jiH:aB O2:=
 cOf aC aF jjO O2 Tryz.func132 (ja jez trivial) trivial
def O3:Con:=⟨130,[.v aG,.clo 131 [],.clo 132 [.p [ax,az,ay,aG]]],[aG,ax,az,ay,aG],⟨[.v iT],[]⟩,[iT],Pw.unc5 Pw.j4p⟩
def jbG:FnD where
 N:=34
 np:=3
 cs:=[zW,OS,O2]
 ds:=[⟨0,[sC 131 [],sC 132 [.p [ax,az,ay,aG]],sO 1000000,sD aG,sI,sI,.b (.lst 4294967478 (.pair .str .bool) false)],[ax,az,ay,aG,aG,iT,iT,(.list (.pair .str .bool))],[⟨.ret,[sI],[iT]⟩,⟨.exit 0,[],[]⟩],Pw.unc8 (Pw.j0P)⟩]
 modes:=[(124,[false,true])]
 keep:=[(0,⟨[1,2,7,13,14,15],[],[⟨1000000,4294967478,(.pair .str .bool),[.slot 7],false⟩],[]⟩)]
 keepX:=[(0,.ret,⟨[6],[],[],[]⟩)]
theorem jb6:aB O3:=
 cOf aC aF jbG O3 Tryz.func130 (ja Fy (ja jiF (ja jiH trivial))) (ja (λh=>by kernel_rfl) trivial)
def O4:Con:=⟨69,[.v aY],[aY],⟨[.v iT],[]⟩,[iT],λh=>Pw.j91 h⟩
def jmL:FnD where
 N:=72
 np:=1
 cs:=[zW,OB,OG,OR,O3]
 ds:=[⟨0,[sB 64 0,sO 1000000,sD az,sI,sI,.b (.cell [.d ax,.d az,.d ay,.d aG] false),.b (.lst 4294967478 (.pair .str .bool) false)],[az,iT,iT,ax,az,ay,aG,(.list (.pair .str .bool))],[⟨.ret,[sI],[iT]⟩,⟨.exit 0,[sB 64 0,.b (.cell [.d ax,.d az,.d ay,.d aG] false)],[ax,az,ay,aG]⟩],Pw.unc8 (Pw.j2Z)⟩]
 modes:=[(124,[false,true])]
 keep:=[(0,⟨[1,4,39,40,41],[64],[⟨1000000,4294967478,(.pair .str .bool),[.slot 4],false⟩],[]⟩)]
 keepX:=[(0,.ret,⟨[2],[],[],[]⟩),(0,.exit 0,⟨[1],[64],[],[]⟩)]
theorem jlm:aB O4:=
 cOf aC aF jmL O4 Tryz.func69 (ja Fy (ja jdF (ja jg9 (ja jb4 (ja jb6 trivial))))) (ja (λh=>by kernel_rfl) trivial)
def Jh:Con:=⟨108,[.v bd],[bd],⟨[.v cQ,.v iT],[]⟩,[cQ,iT],λh=>Pw.jim h⟩
def jyw:FnD where
 N:=16
 np:=1
 cs:=[Jg]
theorem Yl:aB Jh:=
 cOf aC aF jyw Jh Tryz.func108 (ja Yk trivial) trivial
end Go.Proofs.Pk
