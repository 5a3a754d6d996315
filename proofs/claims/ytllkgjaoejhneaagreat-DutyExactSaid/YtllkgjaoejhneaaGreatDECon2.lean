/- Contracts: each given function is its plain function, printed by a program. -/
import Derived.Test.YtllkgjaoejhneaaGreatDECon1
open _root_ renaming trivial->e
open Bool renaming false->i,true->j
noncomputable section
open Go Go.Lft
set_option linter.unusedVariables false
set_option maxRecDepth 100000
namespace Go.Proofs.Pk
def j2H:Con:=⟨181,[.v (.list iT),.clo 182 []],[(.list iT)],⟨[.v .bool],[]⟩,[.bool],fun h=>Pw.j16 h⟩
def j9v:FnD where
 N:=9
 np:=2
 cs:=[j3D]
theorem j9m:OKc j2H:=
 cOf j0d j04 j9v j2H Tryz.func181 (jg jaP e) e
def j4y:Con:=⟨126,[.v ty87,.v ty24],[ty87,ty24],⟨[.v iT],[]⟩,[iT],Pw.unc2 Pw.j1c⟩
def jdr:FnD where
 N:=46
 np:=2
 cs:=[j2G,j2H]
 ds:=[⟨1,[sB 192 0,sI,sI,.b (.cell [.d .str,.d iT,.d (.list iT)] i)],[iT,iT,.str,iT,(.list iT)],[⟨.ret,[sI],[iT]⟩,⟨.exit 1,[],[]⟩],Pw.unc5 (Pw.j0n)⟩]
 keep:=[(1,⟨[3,25,26],[192],[],[]⟩)]
 keepX:=[(1,.ret,⟨[4],[],[],[]⟩)]
theorem jcP:OKc j4y:=
 cOf j0d j04 jdr j4y Tryz.func126 (jg j5u (jg j9m e)) (jg (fun h=>by kernel_rfl) e)
def j6z:Con:=⟨125,[.v ty24,.ip [ty67,ty57,ty28,ty81]],[ty24,ty67,ty57,ty28,ty81],⟨[.v iT],[]⟩,[iT],Pw.unc5 Pw.j6W⟩
def jh7:FnD where
 N:=7
 np:=2
 cs:=[j4y]
theorem jg5:OKc j6z:=
 cOf j0d j04 jh7 j6z Tryz.func125 (jg jcP e) e
def j31:Con:=⟨123,[.v ty28,.clo 124 [],.clo 125 [.p [ty67,ty57,ty28,ty81]]],[ty28,ty67,ty57,ty28,ty81],⟨[.v iT],[]⟩,[iT],Pw.unc5 Pw.j1L⟩
def ja0:FnD where
 N:=34
 np:=3
 cs:=[j3m,j6y,j6z]
 ds:=[⟨0,[sC 124 [],sC 125 [.p [ty67,ty57,ty28,ty81]],sO 1000000,sD ty28,sI,sI,.b (.lst 4294967458 (.pair .str .bool) i)],[ty67,ty57,ty28,ty81,ty28,iT,iT,(.list (.pair .str .bool))],[⟨.ret,[sI],[iT]⟩,⟨.exit 0,[],[]⟩],Pw.unc8 (Pw.j0x)⟩]
 modes:=[(121,[i,j])]
 keep:=[(0,⟨[1,2,7,13,14,15],[],[⟨1000000,4294967458,(.pair .str .bool),[.slot 7],i⟩],[]⟩)]
 keepX:=[(0,.ret,⟨[6],[],[],[]⟩)]
theorem j9w:OKc j31:=
 cOf j0d j04 ja0 j31 Tryz.func123 (jg j63 (jg jg4 (jg jg5 e))) (jg (fun h=>by kernel_rfl) e)
def j6A:Con:=⟨128,[.v ty80],[ty80],⟨[.v .str],[]⟩,[.str],fun h=>Pw.j6X h⟩
def jh8:FnD where
 N:=5
 np:=1
theorem jg6:OKc j6A:=
 cOf j0d j04 jh8 j6A Tryz.func128 e e
def j3E:Con:=⟨185,[.v ty73],[ty73],⟨[.v .str],[]⟩,[.str],fun h=>Pw.j39 h⟩
def jb8:FnD where
 N:=5
 np:=1
theorem jaQ:OKc j3E:=
 cOf j0d j04 jb8 j3E Tryz.func185 e e
def j4z:Con:=⟨235,[.v iT,.ip [ty67,ty57,ty28,ty81]],[iT,ty67,ty57,ty28,ty81],⟨[.v .bool],[]⟩,[.bool],Pw.unc5 Pw.j4c⟩
def jds:FnD where
 N:=10
 np:=2
 cs:=[j2G]
theorem jcQ:OKc j4z:=
 cOf j0d j04 jds j4z Tryz.func235 (jg j5u e) e
def j2I:Con:=⟨233,[.v (.list iT),.clo 235 [.p [ty67,ty57,ty28,ty81]]],[(.list iT),ty67,ty57,ty28,ty81],⟨[.v iT],[]⟩,[iT],Pw.unc5 Pw.j2b⟩
def j9x:FnD where
 N:=19
 np:=2
 cs:=[j4z]
 ds:=[⟨0,[sD (.list iT),sC 235 [.p [ty67,ty57,ty28,ty81]],sI,sI],[(.list iT),ty67,ty57,ty28,ty81,iT,iT],[⟨.ret,[sI],[iT]⟩,⟨.exit 0,[],[]⟩],Pw.unc7 (Pw.j0p)⟩]
 keep:=[(0,⟨[0,1,7,8],[],[],[]⟩)]
 keepX:=[(0,.ret,⟨[4],[],[],[]⟩)]
theorem j9n:OKc j2I:=
 cOf j0d j04 j9x j2I Tryz.func233 (jg jcQ e) (jg (fun h=>by kernel_rfl) e)
def j27:Con:=⟨181,[.v (.list iT),.clo 235 [.p [ty67,ty57,ty28,ty81]]],[(.list iT),ty67,ty57,ty28,ty81],⟨[.v .bool],[]⟩,[.bool],Pw.unc5 Pw.j0Q⟩
def j8b:FnD where
 N:=9
 np:=2
 cs:=[j2I]
theorem j82:OKc j27:=
 cOf j0d j04 j8b j27 Tryz.func181 (jg j9n e) e
def j5z:Con:=⟨187,[.v ty87,.v ty73],[ty87,ty73],⟨[.v iT],[]⟩,[iT],Pw.unc2 Pw.j1a⟩
def jfk:FnD where
 N:=91
 np:=2
 cs:=[j2G,j8L,j6O,j67,j27]
theorem jeH:OKc j5z:=
 cOf j0d j04 jfk j5z Tryz.func187 (jg j5u (jg jh5 (jg jdq (jg jc1 (jg j82 e))))) e
def j3F:Con:=⟨186,[.v ty73,.ip [ty67,ty57,ty28,ty81]],[ty73,ty67,ty57,ty28,ty81],⟨[.v iT],[]⟩,[iT],Pw.unc5 Pw.j3a⟩
def jb9:FnD where
 N:=7
 np:=2
 cs:=[j5z]
theorem jaR:OKc j3F:=
 cOf j0d j04 jb9 j3F Tryz.func186 (jg jeH e) e
def j3Y:Con:=⟨184,[.v ty74,.clo 185 [],.clo 186 [.p [ty67,ty57,ty28,ty81]]],[ty74,ty67,ty57,ty28,ty81],⟨[.v iT],[]⟩,[iT],Pw.unc5 Pw.j2c⟩
def jc2:FnD where
 N:=34
 np:=3
 cs:=[j3m,j3E,j3F]
 ds:=[⟨0,[sC 185 [],sC 186 [.p [ty67,ty57,ty28,ty81]],sO 1000000,sD ty74,sI,sI,.b (.lst 4294967458 (.pair .str .bool) i)],[ty67,ty57,ty28,ty81,ty74,iT,iT,(.list (.pair .str .bool))],[⟨.ret,[sI],[iT]⟩,⟨.exit 0,[],[]⟩],Pw.unc8 (Pw.j0L)⟩]
 modes:=[(121,[i,j])]
 keep:=[(0,⟨[1,2,7,13,14,15],[],[⟨1000000,4294967458,(.pair .str .bool),[.slot 7],i⟩],[]⟩)]
 keepX:=[(0,.ret,⟨[6],[],[],[]⟩)]
theorem jba:OKc j3Y:=
 cOf j0d j04 jc2 j3Y Tryz.func184 (jg j63 (jg jaQ (jg jaR e))) (jg (fun h=>by kernel_rfl) e)
def j68:Con:=⟨188,[.v ty87,.v ty39],[ty87,ty39],⟨[.v iT],[]⟩,[iT],Pw.unc2 Pw.j1p⟩
def jg7:FnD where
 N:=83
 np:=2
 cs:=[j2G,j6O,j67]
theorem jfl:OKc j68:=
 cOf j0d j04 jg7 j68 Tryz.func188 (jg j5u (jg jdq (jg jc1 e))) e
def j4A:Con:=⟨130,[.v ty87,.v ty80],[ty87,ty80],⟨[.v iT],[]⟩,[iT],Pw.unc2 Pw.j1e⟩
def jdt:FnD where
 N:=40
 np:=2
 cs:=[j3Y,j68]
 ds:=[⟨0,[sB 128 0,sD ty41,sI,sI,.b (.cell [.d ty67,.d ty57,.d ty28,.d ty81] j)],[ty41,iT,iT,ty67,ty57,ty28,ty81],[⟨.ret,[sI],[iT]⟩,⟨.exit 0,[],[]⟩],Pw.unc7 (Pw.j0W)⟩]
 keep:=[(0,⟨[2,27,28,29],[128],[],[]⟩)]
 keepX:=[(0,.ret,⟨[4],[],[],[]⟩)]
theorem jcR:OKc j4A:=
 cOf j0d j04 jdt j4A Tryz.func130 (jg jba (jg jfl e)) (jg (fun h=>by kernel_rfl) e)
def j6B:Con:=⟨129,[.v ty80,.ip [ty67,ty57,ty28,ty81]],[ty80,ty67,ty57,ty28,ty81],⟨[.v iT],[]⟩,[iT],Pw.unc5 Pw.j6Y⟩
def jh9:FnD where
 N:=7
 np:=2
 cs:=[j4A]
theorem jg8:OKc j6B:=
 cOf j0d j04 jh9 j6B Tryz.func129 (jg jcR e) e
def j32:Con:=⟨127,[.v ty81,.clo 128 [],.clo 129 [.p [ty67,ty57,ty28,ty81]]],[ty81,ty67,ty57,ty28,ty81],⟨[.v iT],[]⟩,[iT],Pw.unc5 Pw.j2v⟩
def ja1:FnD where
 N:=34
 np:=3
 cs:=[j3m,j6A,j6B]
 ds:=[⟨0,[sC 128 [],sC 129 [.p [ty67,ty57,ty28,ty81]],sO 1000000,sD ty81,sI,sI,.b (.lst 4294967458 (.pair .str .bool) i)],[ty67,ty57,ty28,ty81,ty81,iT,iT,(.list (.pair .str .bool))],[⟨.ret,[sI],[iT]⟩,⟨.exit 0,[],[]⟩],Pw.unc8 (Pw.j0y)⟩]
 modes:=[(121,[i,j])]
 keep:=[(0,⟨[1,2,7,13,14,15],[],[⟨1000000,4294967458,(.pair .str .bool),[.slot 7],i⟩],[]⟩)]
 keepX:=[(0,.ret,⟨[6],[],[],[]⟩)]
theorem j9y:OKc j32:=
 cOf j0d j04 ja1 j32 Tryz.func127 (jg j63 (jg jg6 (jg jg8 e))) (jg (fun h=>by kernel_rfl) e)
def j8v:Con:=⟨72,[.v ty87],[ty87],⟨[.v iT],[]⟩,[iT],fun h=>Pw.j3B h⟩
def jk5:FnD where
 N:=72
 np:=1
 cs:=[j3m,j45,j5c,j31,j32]
 ds:=[⟨0,[sB 64 0,sO 1000000,sD ty57,sI,sI,.b (.cell [.d ty67,.d ty57,.d ty28,.d ty81] i),.b (.lst 4294967458 (.pair .str .bool) i)],[ty57,iT,iT,ty67,ty57,ty28,ty81,(.list (.pair .str .bool))],[⟨.ret,[sI],[iT]⟩,⟨.exit 0,[sB 64 0,.b (.cell [.d ty67,.d ty57,.d ty28,.d ty81] i)],[ty67,ty57,ty28,ty81]⟩],Pw.unc8 (Pw.j2P)⟩]
 modes:=[(121,[i,j])]
 keep:=[(0,⟨[1,4,39,40,41],[64],[⟨1000000,4294967458,(.pair .str .bool),[.slot 4],i⟩],[]⟩)]
 keepX:=[(0,.ret,⟨[2],[],[],[]⟩),(0,.exit 0,⟨[1],[64],[],[]⟩)]
theorem jiE:OKc j8v:=
 cOf j0d j04 jk5 j8v Tryz.func72 (jg j63 (jg jbZ (jg jeb (jg j9w (jg j9y e))))) (jg (fun h=>by kernel_rfl) e)
def j83:Con:=⟨91,[.v ty87,.v ty73],[ty87,ty73],⟨[.v .bool],[]⟩,[.bool],Pw.unc2 Pw.j7I⟩
def jq6:FnD where
 N:=16
 np:=2
 cs:=[j8v]
theorem jeI:OKc j83:=
 cOf j0d j04 jq6 j83 Tryz.func91 (jg jiE e) e
def jc3:Con:=⟨147,[.v iT,.v iT],[iT,iT],⟨[.v .bool],[]⟩,[.bool],Pw.unc2 Pw.jf4⟩
def jot:FnD where
 N:=26
 np:=2
theorem jmW:OKc jc3:=
 cOf j0d j04 jot jc3 Tryz.func147 e e
def j8M:Con:=⟨98,[.v ty87,.v ty73,.v iT,.v iT],[ty87,ty73,iT,iT],⟨[.v iT],[]⟩,[iT],Pw.unc4 Pw.jcA⟩
def jou:FnD where
 N:=17
 np:=4
 cs:=[j83,jc3]
theorem jha:OKc j8M:=
 cOf j0d j04 jou j8M Tryz.func98 (jg jeI (jg jmW e)) e
end Go.Proofs.Pk
