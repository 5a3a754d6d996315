/- cB: each given function is its plain function, printed by a program. -/
import Derived.Test.YtkoifkkadkmecaaGreatLRTab
import Derived.Test.YtkoifkkadkmecaaGreatLRSrt
open _root_ renaming trivial->e
open Bool renaming false->i
noncomputable section
open Go Go.Lft
set_option linter.unusedVariables false
set_option maxRecDepth 100000
namespace Go.Proofs.Pk
abbrev aH(c:Con):=Con.OK Tryz.prog c
abbrev OQ:Ty:=(.list (.list iT))
abbrev aO:Ty:=(.pair iT iT)
abbrev aa:Ty:=(.list aO)
abbrev aJ:Ty:=(.pair iT aO)
abbrev fE:Ty:=(.pair .str (.pair iT (.list iT)))
abbrev cK:Ty:=(.pair iT aa)
abbrev au:Ty:=(.list aJ)
abbrev ay:Ty:=(.list fE)
abbrev fF:Ty:=(.list cK)
abbrev kX:Ty:=(.list au)
abbrev bg:Ty:=(.pair iT (.pair iT aJ))
abbrev an:Ty:=(.list bg)
abbrev gu:Ty:=(.pair .str (.pair iT (.pair aa (.pair iT (.pair iT .bool)))))
abbrev pj:Ty:=(.pair iT (.pair iT bg))
abbrev az:Ty:=(.list gu)
abbrev bS:Ty:=(.list pj)
abbrev br:Ty:=(.pair .str (.pair iT bS))
abbrev ax:Ty:=(.list br)
abbrev bT:Ty:=(.pair .str (.pair iT (.pair aO (.pair iT (.pair iT (.pair (.list iT) (.pair aa aO)))))))
abbrev bM:Ty:=(.list bT)
abbrev cZ:Ty:=(.pair .str (.pair bM an))
abbrev aC:Ty:=(.list cZ)
abbrev bk:Ty:=(.pair ax (.pair az (.pair ay aC)))
abbrev eZ:Ty:=(.pair bk fF)
def OR:Con:=⟨4,[.v (.list iT)],[(.list iT)],⟨[.v .bool],[]⟩,[.bool],λh=>Pw.jm6 h⟩
def jt9:FnD where
 N:=6
 np:=1
theorem jrj:aH OR:=
 cOf aK aM jt9 OR Tryz.func4 e e
def OS:Con:=⟨16,[.v iT,.v iT,.v .bool],[iT,iT,.bool],⟨[.so [(some 49,ax),(some 52,az),(some 122,ay),(some 67,aC)]],[]⟩,[ax,az,ay,aC],Pw.unc3 Pw.jog⟩
def jrk:FnD where
 N:=26
 np:=3
 ro:=[true]
 so:=[.own 49 br,.own 52 gu,.own 122 fE,.own 67 cZ]
theorem jpk:aH OS:=
 cOf aK aM jrk OS Tryz.func16 e e
def OT:Con:=⟨124,[.v br],[br],⟨[.v .str],[]⟩,[.str],λh=>Pw.jcS h⟩
def jlh:FnD where
 N:=5
 np:=1
theorem jk8:aH OT:=
 cOf aK aM jlh OT Tryz.func124 e e
def OU:Con:=⟨219,[.v (.int .u8)],[(.int .u8)],⟨[.v .bool],[]⟩,[.bool],λh=>Pw.jdZ h⟩
def jrl:FnD where
 N:=9
 np:=1
theorem jpl:aH OU:=
 cOf aK aM jrl OU Tryz.func219 e e
def OV:Con:=⟨220,[.v (.int .u8)],[(.int .u8)],⟨[.v .bool],[]⟩,[.bool],λh=>Pw.jjZ h⟩
def jrm:FnD where
 N:=9
 np:=1
theorem jpm:aH OV:=
 cOf aK aM jrm OV Tryz.func220 e e
def OW:Con:=⟨172,[.v .str],[.str],⟨[.v .bool],[]⟩,[.bool],λh=>Pw.jam h⟩
def jta:FnD where
 N:=43
 np:=1
 cs:=[OU,OV]
 ds:=[⟨0,[sD .str,sI,sI],[.str,iT,iT],[⟨.ret,[sD .bool],[.bool]⟩,⟨.exit 0,[],[]⟩],Pw.unc3 (Pw.j88)⟩]
 keep:=[(0,⟨[0,19,20],[],[],[]⟩)]
 keepX:=[(0,.ret,⟨[2],[],[],[]⟩)]
theorem jrn:aH OW:=
 cOf aK aM jta OW Tryz.func172 (ja jpl (ja jpm e)) (ja (λh=>by kernel_rfl) e)
def Bg:Con:=⟨126,[.v .str,.rl 4294967486 (.list (.pair .str .bool))],[.str,(.list (.pair .str .bool))],⟨[.v iT],[.rl (.list (.pair .str .bool))]⟩,[iT,(.list (.pair .str .bool))],Pw.unc2 Pw.j78⟩
def jpn:FnD where
 N:=13
 np:=2
 cs:=[OW]
theorem Gk:aH Bg:=
 cOf aK aM jpn Bg Tryz.func126 (ja jrn e) e
def Gl:Con:=⟨248,[.v iT,.v iT,.v iT],[iT,iT,iT],⟨[.v .bool],[]⟩,[.bool],Pw.unc3 Pw.jcT⟩
def jzR:FnD where
 N:=15
 np:=3
theorem OX:aH Gl:=
 cOf aK aM jzR Gl Tryz.func248 e e
def OY:Con:=⟨262,[.v pj],[pj],⟨[.v iT],[]⟩,[iT],λh=>Pw.ji9 h⟩
def juP:FnD where
 N:=45
 np:=1
 cs:=[Gl]
theorem jtb:aH OY:=
 cOf aK aM juP OY Tryz.func262 (ja OX e) e
def OZ:Con:=⟨267,[.v iT],[iT],⟨[.v .bool],[]⟩,[.bool],λh=>Pw.jm7 h⟩
def jtc:FnD where
 N:=16
 np:=1
theorem jro:aH OZ:=
 cOf aK aM jtc OZ Tryz.func267 e e
def CN:Con:=⟨251,[.v iT,.v iT],[iT,iT],⟨[.v iT],[]⟩,[iT],Pw.unc2 Pw.j8T⟩
def jtd:FnD where
 N:=24
 np:=2
 cs:=[OZ]
theorem J8:aH CN:=
 cOf aK aM jtd CN Tryz.func251 (ja jro e) e
def O0:Con:=⟨273,[.v aJ],[aJ],⟨[.v .bool],[]⟩,[.bool],λh=>Pw.je0 h⟩
def jrp:FnD where
 N:=26
 np:=1
 cs:=[CN]
theorem jpo:aH O0:=
 cOf aK aM jrp O0 Tryz.func273 (ja J8 e) e
def J9:Con:=⟨266,[.v iT,.v iT],[iT,iT],⟨[.v iT],[]⟩,[iT],Pw.unc2 Pw.ja4⟩
def jrq:FnD where
 N:=16
 np:=2
theorem ZI:aH J9:=
 cOf aK aM jrq J9 Tryz.func266 e e
def Gm:Con:=⟨249,[.v iT],[iT],⟨[.v iT],[]⟩,[iT],λh=>Pw.j6m h⟩
def jrr:FnD where
 N:=19
 np:=1
 cs:=[J9]
theorem O1:aH Gm:=
 cOf aK aM jrr Gm Tryz.func249 (ja ZI e) e
def O2:Con:=⟨274,[.v aJ],[aJ],⟨[.v iT],[]⟩,[iT],λh=>Pw.jf0 h⟩
def jpp:FnD where
 N:=25
 np:=1
 cs:=[CN,Gm]
 ds:=[⟨0,[sB 64 0,sI,sI,.b (.cell [.d iT,.d iT,.d iT] i)],[iT,iT,iT,iT,iT],[⟨.exit 0,[sI],[iT]⟩],Pw.unc5 (Pw.j4I)⟩]
 keep:=[(0,⟨[1,3,4],[64],[],[]⟩)]
 keepX:=[(0,.exit 0,⟨[3],[],[],[]⟩)]
theorem jop:aH O2:=
 cOf aK aM jpp O2 Tryz.func274 (ja J8 (ja O1 e)) (ja (λh=>by kernel_rfl) e)
def Ka:Con:=⟨78,[.v iT],[iT],⟨[.v iT],[]⟩,[iT],λh=>Pw.j7a h⟩
def joq:FnD where
 N:=7
 np:=1
theorem ZJ:aH Ka:=
 cOf aK aM joq Ka Tryz.func78 e e
def O3:Con:=⟨263,[.v iT,.v iT,.v iT,.v iT],[iT,iT,iT,iT],⟨[.v iT,.v iT],[]⟩,[iT,iT],Pw.unc4 Pw.jl0⟩
def juQ:FnD where
 N:=59
 np:=4
 cs:=[CN,O0,O2,Ka]
theorem jte:aH O3:=
 cOf aK aM juQ O3 Tryz.func263 (ja J8 (ja jpo (ja jop (ja ZJ e)))) e
def O4:Con:=⟨265,[.v aO,.v aO],[aO,aO],⟨[.v iT],[]⟩,[iT],Pw.unc2 Pw.ja5⟩
def jio:FnD where
 N:=10
 np:=2
theorem jhL:aH O4:=
 cOf aK aM jio O4 Tryz.func265 e e
def O5:Con:=⟨277,[.rl 290 aa,.v iT,.v iT,.clo 265 []],[aa,iT,iT],⟨[],[.rl aa]⟩,[aa],Pw.unc3 Pw.j0y⟩
def j71:FnD where
 N:=53
 np:=4
 cs:=[O4]
 ds:=[⟨0,[sO 0,sI,sI,sC 265 [],sI,.b (.lst 290 aO i)],[iT,iT,iT,aa],[⟨.exit 0,[.b (.lst 290 aO i)],[aa]⟩],Pw.unc4 (Pw.j0j)⟩,⟨2,[sO 0,sI,sI,sC 265 [],sI,sI,.b (.lst 290 aO i)],[iT,iT,iT,iT,aa],[⟨.exit 2,[sO 0,sI,sI,sC 265 [],sI,.b (.lst 290 aO i)],[iT,iT,iT,aa]⟩],Pw.unc5 (Pw.j0i)⟩]
 keep:=[(0,⟨[0,1,2,3,8],[0],[],[]⟩),(2,⟨[0,1,2,3,8,9],[0],[],[]⟩)]
 keepX:=[(0,.exit 0,⟨[],[0],[],[]⟩),(2,.exit 2,⟨[0,1,2,3,8],[0],[],[]⟩)]
 dw:=[(6,[[],[],[],[],[],[],[],[],[],[],[],[],[],[],[],[0],[],[0]])]
theorem j6w:aH O5:=
 cOf aK aM j71 O5 Tryz.func277 (ja jhL e) (ja (λh=>by kernel_rfl) (ja (λh=>by kernel_rfl) e))
def O6:Con:=⟨275,[.rl 290 aa,.v iT,.clo 265 []],[aa,iT],⟨[],[.rl aa]⟩,[aa],Pw.unc2 Pw.j2z⟩
def j91:FnD where
 N:=63
 np:=3
 cs:=[O5]
 ds:=[⟨0,[sO 0,sI,sC 265 [],sI,sI,sI,.b (.lst 290 aO i)],[iT,iT,iT,iT,aa],[⟨.exit 0,[sO 0,sI,sC 265 [],sI,sI,.b (.lst 290 aO i)],[iT,iT,iT,aa]⟩],Pw.unc5 (Pw.j0Z)⟩,⟨2,[sO 0,sI,sC 265 [],sI,.b (.lst 290 aO i)],[iT,iT,aa],[⟨.exit 2,[.b (.lst 290 aO i)],[aa]⟩],Pw.unc3 (Pw.j10)⟩,⟨4,[sO 0,sI,sC 265 [],sI,sI,sI,.b (.lst 290 aO i)],[iT,iT,iT,iT,aa],[⟨.exit 4,[sO 0,sI,sC 265 [],sI,sI,.b (.lst 290 aO i)],[iT,iT,iT,aa]⟩],Pw.unc5 (Pw.j39)⟩]
 modes:=[(277,[true,i,i,i])]
 keep:=[(0,⟨[0,1,2,6,7,8],[0],[],[]⟩),(2,⟨[0,1,2,6],[0],[],[]⟩),(4,⟨[0,1,2,6,7,8],[0],[],[]⟩)]
 keepX:=[(0,.exit 0,⟨[0,1,2,6,7],[0],[],[]⟩),(2,.exit 2,⟨[],[0],[],[]⟩),(4,.exit 4,⟨[0,1,2,6,7],[0],[],[]⟩)]
theorem j8J:aH O6:=
 cOf aK aM j91 O6 Tryz.func275 (ja j6w e) (ja (λh=>by kernel_rfl) (ja (λh=>by kernel_rfl) (ja (λh=>by kernel_rfl) e)))
end Go.Proofs.Pk
