/- Contracts: each given function is its plain function, printed by a program. -/
import Derived.Test.YtllkgjaoejhneaaGreatDECon5
open _root_ renaming trivial->e
open Bool renaming false->i
noncomputable section
open Go Go.Lft
set_option linter.unusedVariables false
set_option maxRecDepth 100000
namespace Go.Proofs.Pk
def j7t:Con:=⟨206,[.v iT,.v iT,.v iT],[iT,iT,iT],⟨[.v .bool],[]⟩,[.bool],Pw.unc3 Pw.j6L⟩
def jwb:FnD where
 N:=15
 np:=3
theorem jcT:OKc j7t:=
 cOf j0d j04 jwb j7t Tryz.func206 e e
def jdz:Con:=⟨222,[.v ty56],[ty56],⟨[.v .bool],[]⟩,[.bool],fun h=>Pw.j9a h⟩
def jqd:FnD where
 N:=38
 np:=1
 cs:=[j7t]
theorem joF:OKc jdz:=
 cOf j0d j04 jqd jdz Tryz.func222 (jg jcT e) e
def jeO:Con:=⟨297,[.v iT],[iT],⟨[.v .bool],[]⟩,[.bool],fun h=>Pw.j1j h⟩
def jsB:FnD where
 N:=16
 np:=1
theorem jqe:OKc jeO:=
 cOf j0d j04 jsB jeO Tryz.func297 e e
def j9p:Con:=⟨276,[.v iT,.v iT],[iT,iT],⟨[.v iT],[]⟩,[iT],Pw.unc2 Pw.jdf⟩
def jsC:FnD where
 N:=23
 np:=2
 cs:=[jeO]
theorem jgj:OKc j9p:=
 cOf j0d j04 jsC j9p Tryz.func276 (jg jqe e) e
def jdA:Con:=⟨296,[.v ty22],[ty22],⟨[.v .bool],[]⟩,[.bool],fun h=>Pw.jgS h⟩
def jqf:FnD where
 N:=36
 np:=1
 cs:=[j9p]
theorem joG:OKc jdA:=
 cOf j0d j04 jqf jdA Tryz.func296 (jg jgj e) e
def jbI:Con:=⟨237,[.v iT],[iT],⟨[.v iT],[]⟩,[iT],fun h=>Pw.jgT h⟩
def jsD:FnD where
 N:=18
 np:=1
theorem jkh:OKc jbI:=
 cOf j0d j04 jsD jbI Tryz.func237 e e
def jgk:Con:=⟨275,[.v ty22],[ty22],⟨[.v iT,.v iT],[]⟩,[iT,iT],fun h=>Pw.jmH h⟩
def juz:FnD where
 N:=29
 np:=1
 cs:=[j9p,jdA,jbI]
 ds:=[⟨0,[sB 64 0,sI,sI,.b (.cell [.d iT,.d iT,.d iT] i)],[iT,iT,iT,iT,iT],[⟨.exit 0,[sB 64 0,sI,.b (.cell [.d iT,.d iT,.d iT] i)],[iT,iT,iT,iT]⟩],Pw.unc5 (Pw.j5V)⟩]
 keep:=[(0,⟨[1,4,5],[64],[],[]⟩)]
 keepX:=[(0,.exit 0,⟨[1,4],[64],[],[]⟩)]
theorem r01_Day_ok:OKc jgk:=
 cOf j0d j04 juz jgk Tryz.func275 (jg jgj (jg joG (jg jkh e))) (jg (fun h=>by kernel_rfl) e)
def j88:Con:=⟨274,[.v iT],[iT],⟨[.v iT],[]⟩,[iT],fun h=>Pw.jau h⟩
def jn3:FnD where
 N:=7
 np:=1
theorem jfD:OKc j88:=
 cOf j0d j04 jn3 j88 Tryz.func274 e e
def jgl:Con:=⟨252,[.v iT,.v iT,.v iT,.v iT],[iT,iT,iT,iT],⟨[.v iT,.v iT],[]⟩,[iT,iT],Pw.unc4 Pw.jmI⟩
def juA:FnD where
 N:=63
 np:=4
 cs:=[j9p,jgk,j88]
 ds:=[⟨0,[sI,sI,sI,sI,sI,sI],[iT,iT,iT,iT,iT,iT],[⟨.exit 0,[sI,sI,sI,sI,sI],[iT,iT,iT,iT,iT]⟩],Pw.unc6 (Pw.j5W)⟩,⟨2,[sI,sI,sI,sI],[iT,iT,iT,iT],[⟨.exit 2,[sI],[iT]⟩],Pw.unc4 (Pw.j5X)⟩]
 keep:=[(0,⟨[0,1,2,3,10,12],[],[],[]⟩),(2,⟨[0,1,10,12],[],[],[]⟩)]
 keepX:=[(0,.exit 0,⟨[0,1,2,10,12],[],[],[]⟩),(2,.exit 2,⟨[12],[],[],[]⟩)]
theorem r01_Nth_ok:OKc jgl:=
 cOf j0d j04 juA jgl Tryz.func252 (jg jgj (jg r01_Day_ok (jg jfD e))) (jg (fun h=>by kernel_rfl) (jg (fun h=>by kernel_rfl) e))
def j7k:Con:=⟨223,[.v ty59],[ty59],⟨[.own 253 ty14],[]⟩,[ty14],fun h=>Pw.j7T h⟩
def ji1:FnD where
 N:=98
 np:=1
 cs:=[jgl]
 ds:=[⟨0,[sD ty59,sO 1000000,sI,.b (.lst 253 ty9 i)],[ty59,iT,ty14],[⟨.exit 0,[sO 1500100,.b (.lst 253 ty9 i)],[ty14]⟩],Pw.unc3 (Pw.j2k)⟩,⟨2,[sD ty59,sO 1002000,sI,sI,.b (.lst 253 ty9 i)],[ty59,iT,iT,ty14],[⟨.exit 2,[sD ty59,sO 1502300,sI,.b (.lst 253 ty9 i)],[ty59,iT,ty14]⟩],Pw.unc4 (Pw.j2j)⟩,⟨4,[sD ty59,sO 1004000,sI,sI,sB 512 0,sI,.b (.cell [.d iT,.d iT] i),.b (.lst 253 ty9 i)],[ty59,iT,iT,iT,iT,iT,ty14],[⟨.exit 4,[sD ty59,sO 1504500,sI,sI,sB 512 0,sI,.b (.cell [.d iT,.d iT] i),.b (.lst 253 ty9 i)],[ty59,iT,iT,iT,iT,iT,ty14]⟩],Pw.unc7 (Pw.j2i)⟩]
 keep:=[(0,⟨[0,3,4],[],[⟨1000000,253,ty9,[.slot 3],i⟩],[]⟩),(2,⟨[0,3,4,5],[],[⟨1002000,253,ty9,[.slot 3],i⟩],[]⟩),(4,⟨[0,3,4,5,8,9],[512],[⟨1004000,253,ty9,[.slot 3],i⟩],[]⟩)]
 keepX:=[(0,.exit 0,⟨[3],[],[⟨1500100,253,ty9,[.slot 3],i⟩],[]⟩),(2,.exit 2,⟨[0,3,4],[],[⟨1502300,253,ty9,[.slot 3],i⟩],[]⟩),(4,.exit 4,⟨[0,3,4,5,8,9],[512],[⟨1504500,253,ty9,[.slot 3],i⟩],[]⟩)]
 ro:=[true]
 dw:=[(9,[[],[],[],[],[],[],[],[],[],[],[],[],[],[],[512],[512]]),(14,[[],[],[],[],[],[],[],[5376]])]
theorem jho:OKc j7k:=
 cOf j0d j04 ji1 j7k Tryz.func223 (jg r01_Nth_ok e) (jg (fun h=>by kernel_rfl) (jg (fun h=>by kernel_rfl) (jg (fun h=>by kernel_rfl) e)))
def j1C:Con:=⟨156,[.v ty66],[ty66],⟨[.own 200 ty14,.v iT],[]⟩,[ty14,iT],fun h=>Pw.j0c h⟩
def ji2:FnD where
 N:=119
 np:=1
 cs:=[j7t,jdz,j7k]
 ds:=[⟨0,[sB 64 0,sI,sI,.b (.cell [.d .str,.d iT,.d ty59] i)],[iT,iT,.str,iT,ty59],[⟨.ret,[.s (.one (.nil)),sI],[iT]⟩,⟨.exit 0,[sB 64 0,sI,.b (.cell [.d .str,.d iT,.d ty59] i)],[iT,.str,iT,ty59]⟩],Pw.unc5 (Pw.j1G)⟩,⟨2,[sO 1002000,sO 1002001,sI,sI,.b (.lst 200 ty9 i),.b (.lst 253 ty9 i)],[iT,iT,ty14,ty14],[⟨.ret,[.s (.one (.nil)),sI],[iT]⟩,⟨.exit 2,[sO 1502300,.b (.lst 200 ty9 i)],[ty14]⟩],Pw.unc4 (Pw.j1k)⟩]
 keep:=[(0,⟨[1,4,5],[64],[],[]⟩),(2,⟨[6,7,8,9],[],[⟨1002000,200,ty9,[.slot 6],i⟩,⟨1002001,253,ty9,[.slot 7],i⟩],[]⟩)]
 keepX:=[(0,.ret,⟨[2,3],[],[],[]⟩),(0,.exit 0,⟨[1,4],[64],[],[]⟩),(2,.ret,⟨[2,3],[],[],[]⟩),(2,.exit 2,⟨[6],[],[⟨1502300,200,ty9,[.slot 6],i⟩],[]⟩)]
 ro:=[true,i]
 dw:=[(21,[[],[],[],[],[],[],[],[],[],[],[],[],[],[640],[640]]),(24,[[],[],[7296],[7360,1002000],[],[],[],[]])]
theorem j3g:OKc j1C:=
 cOf j0d j04 ji2 j1C Tryz.func156 (jg jcT (jg joF (jg jho e))) (jg (fun h=>by kernel_rfl) (jg (fun h=>by kernel_rfl) e))
def ja2:Con:=⟨190,[.v ty66],[ty66],⟨[.v iT],[]⟩,[iT],fun h=>Pw.j5Z h⟩
def jqg:FnD where
 N:=11
 np:=1
 cs:=[j1C]
theorem jiq:OKc ja2:=
 cOf j0d j04 jqg ja2 Tryz.func190 (jg j3g e) e
def jaX:Con:=⟨191,[.v ty66],[ty66],⟨[.v .bool],[]⟩,[.bool],fun h=>Pw.j8q h⟩
def jn4:FnD where
 N:=28
 np:=1
 ds:=[⟨0,[sB 64 0,sD .bool,sI,.b (.cell [.d .str,.d iT,.d ty59] i)],[.bool,iT,.str,iT,ty59],[⟨.exit 0,[sD .bool],[.bool]⟩],Pw.unc5 (Pw.j3V)⟩]
 keep:=[(0,⟨[1,3,4],[64],[],[]⟩)]
 keepX:=[(0,.exit 0,⟨[3],[],[],[]⟩)]
theorem jl5:OKc jaX:=
 cOf j0d j04 jn4 jaX Tryz.func191 e (jg (fun h=>by kernel_rfl) e)
def jdB:Con:=⟨131,[.v ty87],[ty87],⟨[.v iT],[]⟩,[iT],fun h=>Pw.jgX h⟩
def jqh:FnD where
 N:=44
 np:=1
 cs:=[j7s,ja2,jaX]
 ds:=[⟨0,[sB 64 0,sO 1000000,sI,.b (.cell [.d ty67,.d ty57,.d ty28,.d ty81] i),.b (.lst 9 .str i)],[iT,ty67,ty57,ty28,ty81,(.list .str)],[⟨.ret,[sI],[iT]⟩,⟨.exit 0,[],[]⟩],Pw.unc6 (Pw.j4M)⟩]
 keep:=[(0,⟨[1,3,4],[64],[⟨1000000,9,.str,[.slot 3],i⟩],[]⟩)]
 keepX:=[(0,.ret,⟨[2],[],[],[]⟩)]
theorem joH:OKc jdB:=
 cOf j0d j04 jqh jdB Tryz.func131 (jg jdy (jg jiq (jg jl5 e))) (jg (fun h=>by kernel_rfl) e)
def j8A:Con:=⟨192,[.v iT,.v iT,.v iT],[iT,iT,iT],⟨[.v .bool],[]⟩,[.bool],Pw.unc3 Pw.j6t⟩
def jwc:FnD where
 N:=15
 np:=3
theorem jeP:OKc j8A:=
 cOf j0d j04 jwc j8A Tryz.func192 e e
def j6q:Con:=⟨193,[.v ty14],[ty14],⟨[.v iT],[]⟩,[iT],fun h=>Pw.j60 h⟩
def jqi:FnD where
 N:=56
 np:=1
 ds:=[⟨0,[sD ty14,sI],[ty14,iT],[⟨.ret,[sI],[iT]⟩,⟨.exit 0,[],[]⟩],Pw.unc2 (Pw.j2F)⟩]
 keep:=[(0,⟨[0,3],[],[],[]⟩)]
 keepX:=[(0,.ret,⟨[2],[],[],[]⟩)]
theorem jbJ:OKc j6q:=
 cOf j0d j04 jqi j6q Tryz.func193 e (jg (fun h=>by kernel_rfl) e)
def jdC:Con:=⟨194,[.v iT],[iT],⟨[.v .bool],[]⟩,[.bool],fun h=>Pw.jev h⟩
def jqj:FnD where
 N:=10
 np:=1
 cs:=[j8A]
theorem joI:OKc jdC:=
 cOf j0d j04 jqj jdC Tryz.func194 (jg jeP e) e
def jc6:Con:=⟨132,[.v ty87],[ty87],⟨[.v iT],[]⟩,[iT],fun h=>Pw.jfa h⟩
def joJ:FnD where
 N:=58
 np:=1
 cs:=[j7s,j8A,j6q,jdC]
 ds:=[⟨0,[sB 64 0,sO 1000000,sI,.b (.cell [.d ty67,.d ty57,.d ty28,.d ty81] i),.b (.lst 9 .str i)],[iT,ty67,ty57,ty28,ty81,(.list .str)],[⟨.ret,[sI],[iT]⟩,⟨.exit 0,[],[]⟩],Pw.unc6 (Pw.j4j)⟩]
 keep:=[(0,⟨[1,3,4],[64],[⟨1000000,9,.str,[.slot 3],i⟩],[]⟩)]
 keepX:=[(0,.ret,⟨[2],[],[],[]⟩)]
theorem jn5:OKc jc6:=
 cOf j0d j04 joJ jc6 Tryz.func132 (jg jdy (jg jeP (jg jbJ (jg joI e)))) (jg (fun h=>by kernel_rfl) e)
def j6Q:Con:=⟨195,[],[],⟨[.v iT],[]⟩,[iT],fun h=>Pw.j8r⟩
def joK:FnD where
 N:=3
 np:=0
 cs:=[jbI]
theorem jdD:OKc j6Q:=
 cOf j0d j04 joK j6Q Tryz.func195 (jg jkh e) e
def j8B:Con:=⟨133,[.v ty87],[ty87],⟨[.v iT],[]⟩,[iT],fun h=>Pw.j9W h⟩
def jki:FnD where
 N:=78
 np:=1
 cs:=[j7s,j8A,j6Q]
 ds:=[⟨0,[sB 64 0,sO 1000000,sI,.b (.cell [.d ty67,.d ty57,.d ty28,.d ty81] i),.b (.lst 9 .str i)],[iT,ty67,ty57,ty28,ty81,(.list .str)],[⟨.ret,[sI],[iT]⟩,⟨.exit 0,[],[]⟩],Pw.unc6 (Pw.j2W)⟩,⟨2,[sB 64 0,sO 1002000,sI,sB 320 0,sI,.b (.cell [.d ty67,.d ty57,.d ty28,.d ty81] i),.b (.cell [.d .str,.d iT,.d (.list iT)] i),.b (.lst 9 .str i)],[iT,iT,ty67,ty57,ty28,ty81,.str,iT,(.list iT),(.list .str)],[⟨.ret,[sI],[iT]⟩,⟨.exit 2,[sB 64 0,sO 1502300,sI,sB 320 0,.b (.cell [.d ty67,.d ty57,.d ty28,.d ty81] i),.b (.cell [.d .str,.d iT,.d (.list iT)] i),.b (.lst 9 .str i)],[iT,ty67,ty57,ty28,ty81,.str,iT,(.list iT),(.list .str)]⟩],Pw.u8 Pw.unc2 (Pw.j2U)⟩,⟨4,[sB 64 0,sO 1004000,sI,sB 320 0,sI,.b (.cell [.d ty67,.d ty57,.d ty28,.d ty81] i),.b (.cell [.d .str,.d iT,.d (.list iT)] i),.b (.lst 9 .str i)],[iT,iT,ty67,ty57,ty28,ty81,.str,iT,(.list iT),(.list .str)],[⟨.ret,[sI],[iT]⟩,⟨.exit 4,[sB 64 0,sO 1504500,sI,.b (.cell [.d ty67,.d ty57,.d ty28,.d ty81] i),.b (.lst 9 .str i)],[iT,ty67,ty57,ty28,ty81,(.list .str)]⟩],Pw.u8 Pw.unc2 (Pw.j2V)⟩]
 keep:=[(0,⟨[1,3,4],[64],[⟨1000000,9,.str,[.slot 3],i⟩],[]⟩),(2,⟨[1,3,4,5,7],[64,320],[⟨1002000,9,.str,[.slot 3],i⟩],[]⟩),(4,⟨[1,3,4,5,8],[64,320],[⟨1004000,9,.str,[.slot 3],i⟩],[]⟩)]
 keepX:=[(0,.ret,⟨[2],[],[],[]⟩),(2,.ret,⟨[2],[],[],[]⟩),(2,.exit 2,⟨[1,3,4,5],[64,320],[⟨1502300,9,.str,[.slot 3],i⟩],[]⟩),(4,.ret,⟨[2],[],[],[]⟩),(4,.exit 4,⟨[1,3,4],[64],[⟨1504500,9,.str,[.slot 3],i⟩],[]⟩)]
theorem jiO:OKc j8B:=
 cOf j0d j04 jki j8B Tryz.func133 (jg jdy (jg jeP (jg jdD e))) (jg (fun h=>by kernel_rfl) (jg (fun h=>by kernel_rfl) (jg (fun h=>by kernel_rfl) e)))
end Go.Proofs.Pk
