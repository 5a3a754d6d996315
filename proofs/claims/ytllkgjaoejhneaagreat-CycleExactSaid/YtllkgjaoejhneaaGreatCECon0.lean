/- bZ: each given function is its plain function, printed by a program. -/
import Derived.Test.YtllkgjaoejhneaaGreatCETab
open _root_ renaming trivial->e
open Bool renaming false->i
noncomputable section
open Go Go.Lft
set_option linter.unusedVariables false
set_option maxRecDepth 100000
namespace Go.Proofs.Pk
abbrev aJ(c:Con):=Con.OK Tryz.prog c
abbrev bT:Ty:=(.pair iT iT)
abbrev aB:Ty:=(.list bT)
abbrev eM:Ty:=(.pair iT bT)
abbrev fe:Ty:=(.pair .str (.pair iT (.list iT)))
abbrev cK:Ty:=(.pair iT aB)
abbrev pL:Ty:=(.list eM)
abbrev az:Ty:=(.list fe)
abbrev ff:Ty:=(.list cK)
abbrev ew:Ty:=(.pair iT (.pair iT eM))
abbrev bC:Ty:=(.list ew)
abbrev fg:Ty:=(.pair .str (.pair iT (.pair aB (.pair iT (.pair iT .bool)))))
abbrev mj:Ty:=(.pair iT (.pair iT ew))
abbrev aA:Ty:=(.list fg)
abbrev bN:Ty:=(.list mj)
abbrev aU:Ty:=(.pair .str (.pair iT bN))
abbrev aw:Ty:=(.list aU)
abbrev aY:Ty:=(.pair .str (.pair iT (.pair bT (.pair iT (.pair iT (.pair (.list iT) (.pair aB bT)))))))
abbrev bu:Ty:=(.list aY)
abbrev cA:Ty:=(.pair .str (.pair bu bC))
abbrev aC:Ty:=(.list cA)
abbrev aF:Ty:=(.pair aw (.pair aA (.pair az aC)))
abbrev iA:Ty:=(.list aF)
abbrev fm:Ty:=(.pair aF ff)
def FW:Con:=⟨7,[.v (.list iT)],[(.list iT)],⟨[.v .bool],[]⟩,[.bool],λh=>Pw.j8b h⟩
def b_:FnD where
 N:=6
 np:=1
theorem SP:aJ FW:=
 cOf aH aK b_ FW Tryz.func7 e e
def yL:Con:=⟨28,[.v aY],[aY],⟨[.v iT,.v iT],[]⟩,[iT,iT],λh=>Pw.j2y h⟩
def c_:FnD where
 N:=47
 np:=1
theorem FX:aJ yL:=
 cOf aH aK c_ yL Tryz.func28 e e
def Kk:Con:=⟨119,[.v aU],[aU],⟨[.v .str],[]⟩,[.str],λh=>Pw.j6E h⟩
def d_:FnD where
 N:=5
 np:=1
theorem e_:aJ Kk:=
 cOf aH aK d_ Kk Tryz.func119 e e
def Kl:Con:=⟨230,[.v (.int .u8)],[(.int .u8)],⟨[.v .bool],[]⟩,[.bool],λh=>Pw.j9S h⟩
def f_:FnD where
 N:=9
 np:=1
theorem g_:aJ Kl:=
 cOf aH aK f_ Kl Tryz.func230 e e
def Km:Con:=⟨231,[.v (.int .u8)],[(.int .u8)],⟨[.v .bool],[]⟩,[.bool],λh=>Pw.jeS h⟩
def h_:FnD where
 N:=9
 np:=1
theorem i_:aJ Km:=
 cOf aH aK h_ Km Tryz.func231 e e
def Kn:Con:=⟨177,[.v .str],[.str],⟨[.v .bool],[]⟩,[.bool],λh=>Pw.jbL h⟩
def j_:FnD where
 N:=43
 np:=1
 cs:=[Kl,Km]
 ds:=[⟨0,[sD .str,sI,sI],[.str,iT,iT],[⟨.ret,[sD .bool],[.bool]⟩,⟨.exit 0,[],[]⟩],Pw.unc3 (Pw.j3X)⟩]
 keep:=[(0,⟨[0,19,20],[],[],[]⟩)]
 keepX:=[(0,.ret,⟨[2],[],[],[]⟩)]
theorem k_:aJ Kn:=
 cOf aH aK j_ Kn Tryz.func177 (jg g_ (jg i_ e)) (jg (λh=>by kernel_rfl) e)
def wN:Con:=⟨121,[.v .str,.rl 4294967458 (.list (.pair .str .bool))],[.str,(.list (.pair .str .bool))],⟨[.v iT],[.rl (.list (.pair .str .bool))]⟩,[iT,(.list (.pair .str .bool))],Pw.unc2 Pw.j3u⟩
def l_:FnD where
 N:=13
 np:=2
 cs:=[Kn]
theorem CE:aJ wN:=
 cOf aH aK l_ wN Tryz.func121 (jg k_ e) e
def CF:Con:=⟨264,[.v iT,.v iT,.v iT],[iT,iT,iT],⟨[.v .bool],[]⟩,[.bool],Pw.unc3 Pw.j69⟩
def m_:FnD where
 N:=15
 np:=3
theorem Ko:aJ CF:=
 cOf aH aK m_ CF Tryz.func264 e e
def Kp:Con:=⟨282,[.v mj],[mj],⟨[.v iT],[]⟩,[iT],λh=>Pw.j8L h⟩
def n_:FnD where
 N:=45
 np:=1
 cs:=[CF]
theorem o_:aJ Kp:=
 cOf aH aK n_ Kp Tryz.func282 (jg Ko e) e
def Kq:Con:=⟨287,[.v iT],[iT],⟨[.v .bool],[]⟩,[.bool],λh=>Pw.jgY h⟩
def p_:FnD where
 N:=16
 np:=1
theorem q_:aJ Kq:=
 cOf aH aK p_ Kq Tryz.func287 e e
def yM:Con:=⟨267,[.v iT,.v iT],[iT,iT],⟨[.v iT],[]⟩,[iT],Pw.unc2 Pw.j5T⟩
def r_:FnD where
 N:=24
 np:=2
 cs:=[Kq]
theorem FY:aJ yM:=
 cOf aH aK r_ yM Tryz.func267 (jg q_ e) e
def Kr:Con:=⟨299,[.v eM],[eM],⟨[.v .bool],[]⟩,[.bool],λh=>Pw.j9T h⟩
def s_:FnD where
 N:=26
 np:=1
 cs:=[yM]
theorem t_:aJ Kr:=
 cOf aH aK s_ Kr Tryz.func299 (jg FY e) e
def FZ:Con:=⟨286,[.v iT,.v iT],[iT,iT],⟨[.v iT],[]⟩,[iT],Pw.unc2 Pw.j6V⟩
def u_:FnD where
 N:=16
 np:=2
theorem SQ:aJ FZ:=
 cOf aH aK u_ FZ Tryz.func286 e e
def CH:Con:=⟨265,[.v iT],[iT],⟨[.v iT],[]⟩,[iT],λh=>Pw.j4h h⟩
def v_:FnD where
 N:=19
 np:=1
 cs:=[FZ]
theorem Ks:aJ CH:=
 cOf aH aK v_ CH Tryz.func265 (jg SQ e) e
def Kt:Con:=⟨300,[.v eM],[eM],⟨[.v iT],[]⟩,[iT],λh=>Pw.jaO h⟩
def w_:FnD where
 N:=25
 np:=1
 cs:=[yM,CH]
 ds:=[⟨0,[sB 64 0,sI,sI,.b (.cell [.d iT,.d iT,.d iT] i)],[iT,iT,iT,iT,iT],[⟨.exit 0,[sI],[iT]⟩],Pw.unc5 (Pw.j3e)⟩]
 keep:=[(0,⟨[1,3,4],[64],[],[]⟩)]
 keepX:=[(0,.exit 0,⟨[3],[],[],[]⟩)]
theorem x_:aJ Kt:=
 cOf aH aK w_ Kt Tryz.func300 (jg FY (jg Ks e)) (jg (λh=>by kernel_rfl) e)
def F0:Con:=⟨210,[.v iT],[iT],⟨[.v iT],[]⟩,[iT],λh=>Pw.j4P h⟩
def y_:FnD where
 N:=7
 np:=1
theorem SR:aJ F0:=
 cOf aH aK y_ F0 Tryz.func210 e e
def Ku:Con:=⟨283,[.v iT,.v iT,.v iT,.v iT],[iT,iT,iT,iT],⟨[.v iT,.v iT],[]⟩,[iT,iT],Pw.unc4 Pw.jfR⟩
def z_:FnD where
 N:=59
 np:=4
 cs:=[yM,Kr,Kt,F0]
theorem A_:aJ Ku:=
 cOf aH aK z_ Ku Tryz.func283 (jg FY (jg t_ (jg x_ (jg SR e)))) e
def Kv:Con:=⟨285,[.v bT,.v bT],[bT,bT],⟨[.v iT],[]⟩,[iT],Pw.unc2 Pw.j6W⟩
def B_:FnD where
 N:=10
 np:=2
theorem C_:aJ Kv:=
 cOf aH aK B_ Kv Tryz.func285 e e
def Kw:Con:=⟨305,[.rl 289 aB,.v iT,.v iT,.clo 285 []],[aB,iT,iT],⟨[],[.rl aB]⟩,[aB],Pw.unc3 Pw.j0q⟩
def D_:FnD where
 N:=53
 np:=4
 cs:=[Kv]
 ds:=[⟨0,[sO 0,sI,sI,sC 285 [],sI,.b (.lst 289 bT i)],[iT,iT,iT,aB],[⟨.exit 0,[.b (.lst 289 bT i)],[aB]⟩],Pw.unc4 (Pw.j0i)⟩,⟨2,[sO 0,sI,sI,sC 285 [],sI,sI,.b (.lst 289 bT i)],[iT,iT,iT,iT,aB],[⟨.exit 2,[sO 0,sI,sI,sC 285 [],sI,.b (.lst 289 bT i)],[iT,iT,iT,aB]⟩],Pw.unc5 (Pw.j0h)⟩]
 keep:=[(0,⟨[0,1,2,3,8],[0],[],[]⟩),(2,⟨[0,1,2,3,8,9],[0],[],[]⟩)]
 keepX:=[(0,.exit 0,⟨[],[0],[],[]⟩),(2,.exit 2,⟨[0,1,2,3,8],[0],[],[]⟩)]
 dw:=[(6,[[],[],[],[],[],[],[],[],[],[],[],[],[],[],[],[0],[],[0]])]
theorem E_:aJ Kw:=
 cOf aH aK D_ Kw Tryz.func305 (jg C_ e) (jg (λh=>by kernel_rfl) (jg (λh=>by kernel_rfl) e))
def Kx:Con:=⟨301,[.rl 289 aB,.v iT,.clo 285 []],[aB,iT],⟨[],[.rl aB]⟩,[aB],Pw.unc2 Pw.j1N⟩
def F_:FnD where
 N:=63
 np:=3
 cs:=[Kw]
 ds:=[⟨0,[sO 0,sI,sC 285 [],sI,sI,sI,.b (.lst 289 bT i)],[iT,iT,iT,iT,aB],[⟨.exit 0,[sO 0,sI,sC 285 [],sI,sI,.b (.lst 289 bT i)],[iT,iT,iT,aB]⟩],Pw.unc5 (Pw.j0G)⟩,⟨2,[sO 0,sI,sC 285 [],sI,.b (.lst 289 bT i)],[iT,iT,aB],[⟨.exit 2,[.b (.lst 289 bT i)],[aB]⟩],Pw.unc3 (Pw.j0H)⟩,⟨4,[sO 0,sI,sC 285 [],sI,sI,sI,.b (.lst 289 bT i)],[iT,iT,iT,iT,aB],[⟨.exit 4,[sO 0,sI,sC 285 [],sI,sI,.b (.lst 289 bT i)],[iT,iT,iT,aB]⟩],Pw.unc5 (Pw.j2a)⟩]
 modes:=[(305,[true,i,i,i])]
 keep:=[(0,⟨[0,1,2,6,7,8],[0],[],[]⟩),(2,⟨[0,1,2,6],[0],[],[]⟩),(4,⟨[0,1,2,6,7,8],[0],[],[]⟩)]
 keepX:=[(0,.exit 0,⟨[0,1,2,6,7],[0],[],[]⟩),(2,.exit 2,⟨[],[0],[],[]⟩),(4,.exit 4,⟨[0,1,2,6,7],[0],[],[]⟩)]
theorem G_:aJ Kx:=
 cOf aH aK F_ Kx Tryz.func301 (jg E_ e) (jg (λh=>by kernel_rfl) (jg (λh=>by kernel_rfl) (jg (λh=>by kernel_rfl) e)))
end Go.Proofs.Pk
