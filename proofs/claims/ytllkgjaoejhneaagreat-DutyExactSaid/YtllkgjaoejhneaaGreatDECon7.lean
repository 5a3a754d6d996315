/- Contracts: each given function is its plain function, printed by a program. -/
import Derived.Test.YtllkgjaoejhneaaGreatDECon6
open _root_ renaming trivial->e
open Bool renaming false->i
noncomputable section
open Go Go.Lft
set_option linter.unusedVariables false
set_option maxRecDepth 100000
namespace Go.Proofs.Pk
def jdE:Con:=⟨196,[.v ty87,.v ty73],[ty87,ty73],⟨[.v iT],[]⟩,[iT],Pw.unc2 Pw.jex⟩
def jqk:FnD where
 N:=102
 np:=2
 cs:=[j8A,j6q,j6Q]
 ds:=[⟨1,[sB 128 0,sB 192 0,sI,.b (.cell [.d ty67,.d ty57,.d ty28,.d ty81] i),.b (.cell [.d .str,.d iT,.d iT,.d iT,.d iT,.d iT,.d (.list iT),.d ty14,.d iT,.d iT] i)],[iT,ty67,ty57,ty28,ty81,.str,iT,iT,iT,iT,iT,(.list iT),ty14,iT,iT],[⟨.ret,[sI],[iT]⟩,⟨.exit 1,[sB 128 0,sB 192 0,.b (.cell [.d ty67,.d ty57,.d ty28,.d ty81] i),.b (.cell [.d .str,.d iT,.d iT,.d iT,.d iT,.d iT,.d (.list iT),.d ty14,.d iT,.d iT] i)],[ty67,ty57,ty28,ty81,.str,iT,iT,iT,iT,iT,(.list iT),ty14,iT,iT]⟩],Pw.u8 Pw.unc7 (Pw.j4N)⟩]
 keep:=[(1,⟨[2,3,5],[128,192],[],[]⟩)]
 keepX:=[(1,.ret,⟨[4],[],[],[]⟩),(1,.exit 1,⟨[2,3],[128,192],[],[]⟩)]
theorem joL:OKc jdE:=
 cOf j0d j04 jqk jdE Tryz.func196 (jg jeP (jg jbJ (jg jdD e))) (jg (fun h=>by kernel_rfl) e)
def jeQ:Con:=⟨197,[.v ty87,.v ty39],[ty87,ty39],⟨[.v iT],[]⟩,[iT],Pw.unc2 Pw.jgY⟩
def jsE:FnD where
 N:=86
 np:=2
 cs:=[j8A,j6Q]
theorem jql:OKc jeQ:=
 cOf j0d j04 jsE jeQ Tryz.func197 (jg jeP (jg jdD e)) e
def j8C:Con:=⟨134,[.v ty87],[ty87],⟨[.v iT],[]⟩,[iT],fun h=>Pw.jdg h⟩
def jkj:FnD where
 N:=95
 np:=1
 cs:=[j7s,jdE,jeQ]
 ds:=[⟨0,[sB 64 0,sO 1000000,sI,.b (.cell [.d ty67,.d ty57,.d ty28,.d ty81] i),.b (.lst 9 .str i)],[iT,ty67,ty57,ty28,ty81,(.list .str)],[⟨.ret,[sI],[iT]⟩,⟨.exit 0,[],[]⟩],Pw.unc6 (Pw.j2Z)⟩,⟨2,[sB 64 0,sO 1002000,sI,sB 320 0,sO 1002001,sI,.b (.cell [.d ty67,.d ty57,.d ty28,.d ty81] i),.b (.cell [.d .str,.d ty74,.d ty41] i),.b (.lst 9 .str i),.b (.lst 9 .str i)],[iT,iT,ty67,ty57,ty28,ty81,.str,ty74,ty41,(.list .str),(.list .str)],[⟨.ret,[sI],[iT]⟩,⟨.exit 2,[sB 64 0,sO 1502300,sI,sB 320 0,.b (.cell [.d ty67,.d ty57,.d ty28,.d ty81] i),.b (.cell [.d .str,.d ty74,.d ty41] i),.b (.lst 9 .str i)],[iT,ty67,ty57,ty28,ty81,.str,ty74,ty41,(.list .str)]⟩],Pw.u8 Pw.unc3 (Pw.j2X)⟩,⟨4,[sB 64 0,sO 1004000,sI,sB 320 0,sI,.b (.cell [.d ty67,.d ty57,.d ty28,.d ty81] i),.b (.cell [.d .str,.d ty74,.d ty41] i),.b (.lst 9 .str i)],[iT,iT,ty67,ty57,ty28,ty81,.str,ty74,ty41,(.list .str)],[⟨.ret,[sI],[iT]⟩,⟨.exit 4,[sB 64 0,sO 1504500,sI,.b (.cell [.d ty67,.d ty57,.d ty28,.d ty81] i),.b (.lst 9 .str i)],[iT,ty67,ty57,ty28,ty81,(.list .str)]⟩],Pw.u8 Pw.unc2 (Pw.j2Y)⟩]
 keep:=[(0,⟨[1,3,4],[64],[⟨1000000,9,.str,[.slot 3],i⟩],[]⟩),(2,⟨[1,3,4,5,7,8],[64,320],[⟨1002000,9,.str,[.slot 3],i⟩,⟨1002001,9,.str,[.slot 7],i⟩],[]⟩),(4,⟨[1,3,4,5,11],[64,320],[⟨1004000,9,.str,[.slot 3],i⟩],[]⟩)]
 keepX:=[(0,.ret,⟨[2],[],[],[]⟩),(2,.ret,⟨[2],[],[],[]⟩),(2,.exit 2,⟨[1,3,4,5],[64,320],[⟨1502300,9,.str,[.slot 3],i⟩],[]⟩),(4,.ret,⟨[2],[],[],[]⟩),(4,.exit 4,⟨[1,3,4],[64],[⟨1504500,9,.str,[.slot 3],i⟩],[]⟩)]
theorem jiP:OKc j8C:=
 cOf j0d j04 jkj j8C Tryz.func134 (jg jdy (jg joL (jg jql e))) (jg (fun h=>by kernel_rfl) (jg (fun h=>by kernel_rfl) (jg (fun h=>by kernel_rfl) e)))
def jdF:Con:=⟨73,[.v ty87],[ty87],⟨[.v iT],[]⟩,[iT],fun h=>Pw.jaB h⟩
def jqm:FnD where
 N:=45
 np:=1
 cs:=[jdB,jc6,j8B,j8C]
theorem joM:OKc jdF:=
 cOf j0d j04 jqm jdF Tryz.func73 (jg joH (jg jn5 (jg jiO (jg jiP e)))) e
def j9q:Con:=⟨94,[.v ty87,.v ty73],[ty87,ty73],⟨[.v .bool],[]⟩,[.bool],Pw.unc2 Pw.j9X⟩
def jsF:FnD where
 N:=20
 np:=2
 cs:=[jdF]
theorem jgm:OKc j9q:=
 cOf j0d j04 jsF j9q Tryz.func94 (jg joM e) e
def ja3:Con:=⟨204,[.v ty66,.v ty73],[ty66,ty73],⟨[.v iT],[]⟩,[iT],Pw.unc2 Pw.jaC⟩
def jqn:FnD where
 N:=58
 np:=2
 cs:=[ja2]
theorem jir:OKc ja3:=
 cOf j0d j04 jqn ja3 Tryz.func204 (jg jiq e) e
def ja4:Con:=⟨207,[.v iT],[iT],⟨[.v .bool],[]⟩,[.bool],fun h=>Pw.jcI h⟩
def jqo:FnD where
 N:=5
 np:=1
 cs:=[j7t]
theorem jis:OKc ja4:=
 cOf j0d j04 jqo ja4 Tryz.func207 (jg jcT e) e
def ja5:Con:=⟨139,[.v ty66,.v ty9],[ty66,ty9],⟨[.v iT,.v iT],[]⟩,[iT,iT],Pw.unc2 Pw.j4l⟩
def jqp:FnD where
 N:=76
 np:=2
 cs:=[j7t,j1C,ja4]
 ds:=[⟨0,[sB 128 0,sB 192 0,sO 1000000,sI,.b (.cell [.d .str,.d iT,.d ty59] i),.b (.cell [.d iT,.d iT] i),.b (.lst 200 ty9 i)],[iT,.str,iT,ty59,iT,iT,ty14],[⟨.ret,[sI,sI],[iT,iT]⟩,⟨.exit 0,[],[]⟩],Pw.unc7 (Pw.j3N)⟩]
 keep:=[(0,⟨[2,3,6,8],[128,192],[⟨1000000,200,ty9,[.slot 6],i⟩],[]⟩)]
 keepX:=[(0,.ret,⟨[4,5],[],[],[]⟩)]
theorem jit:OKc ja5:=
 cOf j0d j04 jqp ja5 Tryz.func139 (jg jcT (jg j3g (jg jis e))) (jg (fun h=>by kernel_rfl) e)
def jc7:Con:=⟨271,[.v ty66,.v ty14,.v iT],[ty66,ty14,iT],⟨[.v iT],[]⟩,[iT],Pw.unc3 Pw.jfb⟩
def joN:FnD where
 N:=32
 np:=3
 ds:=[⟨0,[sD ty14,sI,sI,sI],[ty14,iT,iT,iT],[⟨.exit 0,[sI],[iT]⟩],Pw.unc4 (Pw.j4m)⟩]
 keep:=[(0,⟨[1,2,7,8],[],[],[]⟩)]
 keepX:=[(0,.exit 0,⟨[7],[],[],[]⟩)]
theorem jn6:OKc jc7:=
 cOf j0d j04 joN jc7 Tryz.func271 e (jg (fun h=>by kernel_rfl) e)
def j9E:Con:=⟨244,[.v ty66,.v iT],[ty66,iT],⟨[.v iT,.v iT],[]⟩,[iT,iT],Pw.unc2 Pw.j9e⟩
def jl6:FnD where
 N:=22
 np:=2
 cs:=[j7t,j1C,jc7]
theorem jkk:OKc j9E:=
 cOf j0d j04 jl6 j9E Tryz.func244 (jg jcT (jg j3g (jg jn6 e))) e
def jdG:Con:=⟨245,[.v iT,.v iT],[iT,iT],⟨[.v ty9],[]⟩,[ty9],Pw.unc2 Pw.jgZ⟩
def jqq:FnD where
 N:=16
 np:=2
theorem joO:OKc jdG:=
 cOf j0d j04 jqq jdG Tryz.func245 e e
def j6a:Con:=⟨217,[.v ty66,.v iT],[ty66,iT],⟨[.v ty9,.v iT],[]⟩,[ty9,iT],Pw.unc2 Pw.j3k⟩
def jn7:FnD where
 N:=21
 np:=2
 cs:=[j9E,jdG]
theorem jc8:OKc j6a:=
 cOf j0d j04 jn7 j6a Tryz.func217 (jg jkk (jg joO e)) e
def j7b:Con:=⟨205,[.v ty66,.v ty73,.v iT],[ty66,ty73,iT],⟨[.v iT,.v .bool],[]⟩,[iT,.bool],Pw.unc3 Pw.j61⟩
def jl7:FnD where
 N:=66
 np:=3
 cs:=[ja5]
theorem jeR:OKc j7b:=
 cOf j0d j04 jl7 j7b Tryz.func205 (jg jit e) e
def ja6:Con:=⟨220,[.v ty66,.v ty73,.v iT],[ty66,ty73,iT],⟨[.v iT],[]⟩,[iT],Pw.unc3 Pw.jaE⟩
def jqr:FnD where
 N:=81
 np:=3
 cs:=[ja5,j6a,j7b]
 ds:=[⟨0,[sI,sB 192 0,sB 256 0,sI,.b (.cell [.d .str,.d iT,.d ty59] i),.b (.cell [.d .str,.d iT,.d iT,.d iT,.d iT,.d iT,.d (.list iT),.d ty14,.d iT,.d iT] i)],[iT,iT,.str,iT,ty59,.str,iT,iT,iT,iT,iT,(.list iT),ty14,iT,iT],[⟨.exit 0,[sI],[iT]⟩],Pw.u8 Pw.unc7 (Pw.j4O)⟩]
 keep:=[(0,⟨[2,3,4,7],[192,256],[],[]⟩)]
 keepX:=[(0,.exit 0,⟨[7],[],[],[]⟩)]
theorem jiu:OKc ja6:=
 cOf j0d j04 jqr ja6 Tryz.func220 (jg jit (jg jc8 (jg jeR e))) (jg (fun h=>by kernel_rfl) e)
def jdH:Con:=⟨215,[.v ty66,.v ty73,.v iT],[ty66,ty73,iT],⟨[.v iT,.v iT],[]⟩,[iT,iT],Pw.unc3 Pw.jez⟩
def jqs:FnD where
 N:=22
 np:=3
 cs:=[ja3,ja6]
theorem joP:OKc jdH:=
 cOf j0d j04 jqs jdH Tryz.func215 (jg jir (jg jiu e)) e
def j8S:Con:=⟨251,[.v ty9],[ty9],⟨[.v iT],[]⟩,[iT],fun h=>Pw.j6g h⟩
def joQ:FnD where
 N:=10
 np:=1
 cs:=[j88]
theorem jhp:OKc j8S:=
 cOf j0d j04 joQ j8S Tryz.func251 (jg jfD e) e
def jc9:Con:=⟨242,[.v ty66,.v iT],[ty66,iT],⟨[.v iT,.v iT],[]⟩,[iT,iT],Pw.unc2 Pw.jah⟩
def joR:FnD where
 N:=19
 np:=2
 cs:=[j6a,j8S]
theorem jn8:OKc jc9:=
 cOf j0d j04 joR jc9 Tryz.func242 (jg jc8 (jg jhp e)) e
def jca:Con:=⟨243,[.v ty14,.v iT],[ty14,iT],⟨[.v .bool],[]⟩,[.bool],Pw.unc2 Pw.jfc⟩
def joS:FnD where
 N:=28
 np:=2
 ds:=[⟨0,[sD ty14,sI,sI],[ty14,iT,iT],[⟨.ret,[sD .bool],[.bool]⟩,⟨.exit 0,[],[]⟩],Pw.unc3 (Pw.j4n)⟩]
 keep:=[(0,⟨[0,1,5],[],[],[]⟩)]
 keepX:=[(0,.ret,⟨[4],[],[],[]⟩)]
theorem jn9:OKc jca:=
 cOf j0d j04 joS jca Tryz.func243 e (jg (fun h=>by kernel_rfl) e)
def ji3:Con:=⟨216,[.v ty66,.v ty14,.v iT],[ty66,ty14,iT],⟨[.v .bool],[]⟩,[.bool],Pw.unc3 Pw.joi⟩
def jwd:FnD where
 N:=27
 np:=3
 cs:=[j6q,jc9,jca]
theorem juB:OKc ji3:=
 cOf j0d j04 jwd ji3 Tryz.func216 (jg jbJ (jg jn8 (jg jn9 e))) e
def jbK:Con:=⟨146,[.v ty87,.v ty73,.v iT],[ty87,ty73,iT],⟨[.v iT,.v .bool],[]⟩,[iT,.bool],Pw.unc3 Pw.jby⟩
def jsG:FnD where
 N:=94
 np:=3
 cs:=[j6a,jdH,ji3]
 ds:=[⟨0,[sB 256 0,sI,sB 704 0,sB 768 0,sD .bool,sI,.b (.cell [.d .str,.d iT,.d iT,.d iT,.d iT,.d iT,.d (.list iT),.d ty14,.d iT,.d iT] i),.b (.cell [.d .str,.d iT,.d (.list iT)] i),.b (.cell [.d iT,.d iT] i)],[iT,.bool,iT,.str,iT,iT,iT,iT,iT,(.list iT),ty14,iT,iT,.str,iT,(.list iT),iT,iT],[⟨.exit 0,[sB 256 0,sI,sD .bool,.b (.cell [.d .str,.d iT,.d iT,.d iT,.d iT,.d iT,.d (.list iT),.d ty14,.d iT,.d iT] i)],[iT,.bool,.str,iT,iT,iT,iT,iT,(.list iT),ty14,iT,iT]⟩],Pw.u8 (Pw.u8 Pw.unc2) (Pw.j5o)⟩]
 keep:=[(0,⟨[4,9,11,12,14,15],[256,704,768],[],[]⟩)]
 keepX:=[(0,.exit 0,⟨[4,9,14],[256],[],[]⟩)]
theorem jkl:OKc jbK:=
 cOf j0d j04 jsG jbK Tryz.func146 (jg jc8 (jg joP (jg juB e))) (jg (fun h=>by kernel_rfl) e)
end Go.Proofs.Pk
