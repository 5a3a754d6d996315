/- cJ: each given function is its plain function, printed by a program. -/
import Derived.Test.YtllkgjaoejhneaaGreatSETab
import Derived.Test.YtllkgjaoejhneaaGreatSESrt
open _root_ renaming trivial->e
open Bool renaming false->i
noncomputable section
open Go Go.Lft
set_option linter.unusedVariables false
set_option maxRecDepth 100000
namespace Go.Proofs.Pk
abbrev aN(c:Con):=Con.OK Tryz.prog c
abbrev aT:Ty:=(.pair iT iT)
abbrev ag:Ty:=(.list aT)
abbrev aZ:Ty:=(.pair iT aT)
abbrev fg:Ty:=(.pair .str (.pair iT (.list iT)))
abbrev cZ:Ty:=(.pair iT ag)
abbrev aY:Ty:=(.list aZ)
abbrev aB:Ty:=(.list fg)
abbrev iC:Ty:=(.list cZ)
abbrev fQ:Ty:=(.pair iT (.pair iT aZ))
abbrev bV:Ty:=(.list fQ)
abbrev fB:Ty:=(.pair .str (.pair iT (.pair ag (.pair iT (.pair iT .bool)))))
abbrev nG:Ty:=(.pair iT (.pair iT fQ))
abbrev aC:Ty:=(.list fB)
abbrev bK:Ty:=(.list nG)
abbrev bh:Ty:=(.pair .str (.pair iT bK))
abbrev aA:Ty:=(.list bh)
abbrev bu:Ty:=(.pair .str (.pair iT (.pair aT (.pair iT (.pair iT (.pair (.list iT) (.pair ag aT)))))))
abbrev bL:Ty:=(.list bu)
abbrev cD:Ty:=(.pair .str (.pair bL bV))
abbrev aG:Ty:=(.list cD)
abbrev aR:Ty:=(.pair aA (.pair aC (.pair aB aG)))
abbrev lz:Ty:=(.list aR)
abbrev ej:Ty:=(.pair aR iC)
def Nn:Con:=⟨7,[.v (.list iT)],[(.list iT)],⟨[.v .bool],[]⟩,[.bool],λh=>Pw.jj7 h⟩
def jpV:FnD where
 N:=6
 np:=1
theorem job:aN Nn:=
 cOf aP aQ jpV Nn Tryz.func7 e e
def Np:Con:=⟨106,[],[],⟨[.so [(some 97,aA),(some 99,aC),(some 103,aB),(some 52,aG)]],[]⟩,[aA,aC,aB,aG],λh=>Pw.jgZ⟩
def joc:FnD where
 N:=26
 np:=0
 ro:=[true]
 so:=[.own 97 bh,.own 99 fB,.own 103 fg,.own 52 cD]
theorem jm9:aN Np:=
 cOf aP aQ joc Np Tryz.func106 e e
def Nq:Con:=⟨119,[.v bh],[bh],⟨[.v .str],[]⟩,[.str],λh=>Pw.j7J h⟩
def jie:FnD where
 N:=5
 np:=1
theorem jh8:aN Nq:=
 cOf aP aQ jie Nq Tryz.func119 e e
def Nr:Con:=⟨230,[.v (.int .u8)],[(.int .u8)],⟨[.v .bool],[]⟩,[.bool],λh=>Pw.jbm h⟩
def jod:FnD where
 N:=9
 np:=1
theorem jma:aN Nr:=
 cOf aP aQ jod Nr Tryz.func230 e e
def Ns:Con:=⟨231,[.v (.int .u8)],[(.int .u8)],⟨[.v .bool],[]⟩,[.bool],λh=>Pw.jh0 h⟩
def joe:FnD where
 N:=9
 np:=1
theorem jmb:aN Ns:=
 cOf aP aQ joe Ns Tryz.func231 e e
def Nt:Con:=⟨177,[.v .str],[.str],⟨[.v .bool],[]⟩,[.bool],λh=>Pw.jdx h⟩
def jpW:FnD where
 N:=43
 np:=1
 cs:=[Nr,Ns]
 ds:=[⟨0,[sD .str,sI,sI],[.str,iT,iT],[⟨.ret,[sD .bool],[.bool]⟩,⟨.exit 0,[],[]⟩],Pw.unc3 (Pw.j4z)⟩]
 keep:=[(0,⟨[0,19,20],[],[],[]⟩)]
 keepX:=[(0,.ret,⟨[2],[],[],[]⟩)]
theorem jof:aN Nt:=
 cOf aP aQ jpW Nt Tryz.func177 (jg jma (jg jmb e)) (jg (λh=>by kernel_rfl) e)
def zI:Con:=⟨121,[.v .str,.rl 4294967458 (.list (.pair .str .bool))],[.str,(.list (.pair .str .bool))],⟨[.v iT],[.rl (.list (.pair .str .bool))]⟩,[iT,(.list (.pair .str .bool))],Pw.unc2 Pw.j45⟩
def jmc:FnD where
 N:=13
 np:=2
 cs:=[Nt]
theorem EV:aN zI:=
 cOf aP aQ jmc zI Tryz.func121 (jg jof e) e
def EW:Con:=⟨264,[.v iT,.v iT,.v iT],[iT,iT,iT],⟨[.v .bool],[]⟩,[.bool],Pw.unc3 Pw.j7b⟩
def jwi:FnD where
 N:=15
 np:=3
theorem Nu:aN EW:=
 cOf aP aQ jwi EW Tryz.func264 e e
def Nv:Con:=⟨282,[.v nG],[nG],⟨[.v iT],[]⟩,[iT],λh=>Pw.ja4 h⟩
def jrI:FnD where
 N:=45
 np:=1
 cs:=[EW]
theorem jpX:aN Nv:=
 cOf aP aQ jrI Nv Tryz.func282 (jg Nu e) e
def Nw:Con:=⟨287,[.v iT],[iT],⟨[.v .bool],[]⟩,[.bool],λh=>Pw.jj8 h⟩
def jpY:FnD where
 N:=16
 np:=1
theorem jog:aN Nw:=
 cOf aP aQ jpY Nw Tryz.func287 e e
def BZ:Con:=⟨267,[.v iT,.v iT],[iT,iT],⟨[.v iT],[]⟩,[iT],Pw.unc2 Pw.j6V⟩
def jpZ:FnD where
 N:=24
 np:=2
 cs:=[Nw]
theorem Iu:aN BZ:=
 cOf aP aQ jpZ BZ Tryz.func267 (jg jog e) e
def Nx:Con:=⟨299,[.v aZ],[aZ],⟨[.v .bool],[]⟩,[.bool],λh=>Pw.jbn h⟩
def joh:FnD where
 N:=26
 np:=1
 cs:=[BZ]
theorem jmd:aN Nx:=
 cOf aP aQ joh Nx Tryz.func299 (jg Iu e) e
def Iv:Con:=⟨286,[.v iT,.v iT],[iT,iT],⟨[.v iT],[]⟩,[iT],Pw.unc2 Pw.j81⟩
def joi:FnD where
 N:=16
 np:=2
theorem WK:aN Iv:=
 cOf aP aQ joi Iv Tryz.func286 e e
def EX:Con:=⟨265,[.v iT],[iT],⟨[.v iT],[]⟩,[iT],λh=>Pw.j4X h⟩
def joj:FnD where
 N:=19
 np:=1
 cs:=[Iv]
theorem Ny:aN EX:=
 cOf aP aQ joj EX Tryz.func265 (jg WK e) e
def Nz:Con:=⟨300,[.v aZ],[aZ],⟨[.v iT],[]⟩,[iT],λh=>Pw.jco h⟩
def jme:FnD where
 N:=25
 np:=1
 cs:=[BZ,EX]
 ds:=[⟨0,[sB 64 0,sI,sI,.b (.cell [.d iT,.d iT,.d iT] i)],[iT,iT,iT,iT,iT],[⟨.exit 0,[sI],[iT]⟩],Pw.unc5 (Pw.j3M)⟩]
 keep:=[(0,⟨[1,3,4],[64],[],[]⟩)]
 keepX:=[(0,.exit 0,⟨[3],[],[],[]⟩)]
theorem jli:aN Nz:=
 cOf aP aQ jme Nz Tryz.func300 (jg Iu (jg Ny e)) (jg (λh=>by kernel_rfl) e)
def Iw:Con:=⟨210,[.v iT],[iT],⟨[.v iT],[]⟩,[iT],λh=>Pw.j5x h⟩
def jlj:FnD where
 N:=7
 np:=1
theorem WM:aN Iw:=
 cOf aP aQ jlj Iw Tryz.func210 e e
def NA:Con:=⟨283,[.v iT,.v iT,.v iT,.v iT],[iT,iT,iT,iT],⟨[.v iT,.v iT],[]⟩,[iT,iT],Pw.unc4 Pw.jhZ⟩
def jrJ:FnD where
 N:=59
 np:=4
 cs:=[BZ,Nx,Nz,Iw]
theorem jq0:aN NA:=
 cOf aP aQ jrJ NA Tryz.func283 (jg Iu (jg jmd (jg jli (jg WM e)))) e
def NB:Con:=⟨285,[.v aT,.v aT],[aT,aT],⟨[.v iT],[]⟩,[iT],Pw.unc2 Pw.j82⟩
def jfz:FnD where
 N:=10
 np:=2
theorem jf5:aN NB:=
 cOf aP aQ jfz NB Tryz.func285 e e
def NC:Con:=⟨305,[.rl 289 ag,.v iT,.v iT,.clo 285 []],[ag,iT,iT],⟨[],[.rl ag]⟩,[ag],Pw.unc3 Pw.j0r⟩
def j5m:FnD where
 N:=53
 np:=4
 cs:=[NB]
 ds:=[⟨0,[sO 0,sI,sI,sC 285 [],sI,.b (.lst 289 aT i)],[iT,iT,iT,ag],[⟨.exit 0,[.b (.lst 289 aT i)],[ag]⟩],Pw.unc4 (Pw.j0i)⟩,⟨2,[sO 0,sI,sI,sC 285 [],sI,sI,.b (.lst 289 aT i)],[iT,iT,iT,iT,ag],[⟨.exit 2,[sO 0,sI,sI,sC 285 [],sI,.b (.lst 289 aT i)],[iT,iT,iT,ag]⟩],Pw.unc5 (Pw.j0h)⟩]
 keep:=[(0,⟨[0,1,2,3,8],[0],[],[]⟩),(2,⟨[0,1,2,3,8,9],[0],[],[]⟩)]
 keepX:=[(0,.exit 0,⟨[],[0],[],[]⟩),(2,.exit 2,⟨[0,1,2,3,8],[0],[],[]⟩)]
 dw:=[(6,[[],[],[],[],[],[],[],[],[],[],[],[],[],[],[],[0],[],[0]])]
theorem j55:aN NC:=
 cOf aP aQ j5m NC Tryz.func305 (jg jf5 e) (jg (λh=>by kernel_rfl) (jg (λh=>by kernel_rfl) e))
def ND:Con:=⟨301,[.rl 289 ag,.v iT,.clo 285 []],[ag,iT],⟨[],[.rl ag]⟩,[ag],Pw.unc2 Pw.j22⟩
def j72:FnD where
 N:=63
 np:=3
 cs:=[NC]
 ds:=[⟨0,[sO 0,sI,sC 285 [],sI,sI,sI,.b (.lst 289 aT i)],[iT,iT,iT,iT,ag],[⟨.exit 0,[sO 0,sI,sC 285 [],sI,sI,.b (.lst 289 aT i)],[iT,iT,iT,ag]⟩],Pw.unc5 (Pw.j0K)⟩,⟨2,[sO 0,sI,sC 285 [],sI,.b (.lst 289 aT i)],[iT,iT,ag],[⟨.exit 2,[.b (.lst 289 aT i)],[ag]⟩],Pw.unc3 (Pw.j0L)⟩,⟨4,[sO 0,sI,sC 285 [],sI,sI,sI,.b (.lst 289 aT i)],[iT,iT,iT,iT,ag],[⟨.exit 4,[sO 0,sI,sC 285 [],sI,sI,.b (.lst 289 aT i)],[iT,iT,iT,ag]⟩],Pw.unc5 (Pw.j2s)⟩]
 modes:=[(305,[true,i,i,i])]
 keep:=[(0,⟨[0,1,2,6,7,8],[0],[],[]⟩),(2,⟨[0,1,2,6],[0],[],[]⟩),(4,⟨[0,1,2,6,7,8],[0],[],[]⟩)]
 keepX:=[(0,.exit 0,⟨[0,1,2,6,7],[0],[],[]⟩),(2,.exit 2,⟨[],[0],[],[]⟩),(4,.exit 4,⟨[0,1,2,6,7],[0],[],[]⟩)]
theorem j6N:aN ND:=
 cOf aP aQ j72 ND Tryz.func301 (jg j55 e) (jg (λh=>by kernel_rfl) (jg (λh=>by kernel_rfl) (jg (λh=>by kernel_rfl) e)))
end Go.Proofs.Pk
