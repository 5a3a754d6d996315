/- Contracts: each given function is its plain function, printed by a program. -/
import Derived.Test.YtllkgjaoejhneaaGreatDECon7
open Bool renaming false->e,true->j
open _root_ renaming trivial->i,Option->k
noncomputable section
open Go Go.Lft
set_option linter.unusedVariables false
set_option maxRecDepth 100000
namespace Go.Proofs.Pk
def ja7:Con:=⟨95,[.v ty87,.v ty73,.v iT],[ty87,ty73,iT],⟨[.v .bool],[]⟩,[.bool],Pw.unc3 Pw.jaF⟩
def jqt:FnD where
 N:=17
 np:=3
 cs:=[jbK]
theorem jiv:OKc ja7:=
 cOf j0d j04 jqt ja7 Tryz.func95 (jg jkl i) i
def jfd:Con:=⟨41,[.v ty87,.v ty73,.v iT],[ty87,ty73,iT],⟨[.v .bool],[]⟩,[.bool],Pw.unc3 Pw.jcJ⟩
def jwe:FnD where
 N:=24
 np:=3
 cs:=[j9q,ja7]
theorem joT:OKc jfd:=
 cOf j0d j04 jwe jfd Tryz.func41 (jg jgm (jg jiv i)) i
def jdI:Con:=⟨97,[.v ty87,.v ty73,.v iT],[ty87,ty73,iT],⟨[.v iT],[]⟩,[iT],Pw.unc3 Pw.jdh⟩
def juC:FnD where
 N:=27
 np:=3
 cs:=[jbK]
theorem jlP:OKc jdI:=
 cOf j0d j04 juC jdI Tryz.func97 (jg jkl i) i
def jcb:Con:=⟨43,[.v ty87,.v ty73,.v iT],[ty87,ty73,iT],⟨[.v iT],[]⟩,[iT],Pw.unc3 Pw.jai⟩
def joU:FnD where
 N:=16
 np:=3
 cs:=[jfd,jdI]
theorem jna:OKc jcb:=
 cOf j0d j04 joU jcb Tryz.func43 (jg joT (jg jlP i)) i
def j6r:Con:=⟨100,[.v iT,.v iT],[iT,iT],⟨[.v .bool],[]⟩,[.bool],Pw.unc2 Pw.j6M⟩
def jqu:FnD where
 N:=26
 np:=2
theorem jbL:OKc j6r:=
 cOf j0d j04 jqu j6r Tryz.func100 i i
def j8D:Con:=⟨154,[.v ty66,.v ty73,.v iT,.v iT],[ty66,ty73,iT,iT],⟨[.own 3 (.list iT),.v iT],[]⟩,[(.list iT),iT],Pw.unc4 Pw.j7X⟩
def jkm:FnD where
 N:=51
 np:=4
 cs:=[ja3,j7b,ja6,j6r]
 ds:=[⟨0,[sI,sI,sB 256 0,sB 320 0,sO 1000000,sI,.b (.cell [.d .str,.d iT,.d ty59] e),.b (.cell [.d .str,.d iT,.d iT,.d iT,.d iT,.d iT,.d (.list iT),.d ty14,.d iT,.d iT] e),.b (.lst 3 iT e)],[iT,iT,iT,.str,iT,ty59,.str,iT,iT,iT,iT,iT,(.list iT),ty14,iT,iT,(.list iT)],[⟨.ret,[sO 1500000,sI,.b (.lst 3 iT e)],[iT,(.list iT)]⟩],Pw.u8 Pw.unc9 (Pw.j4o)⟩]
 keep:=[(0,⟨[2,3,4,5,10,11],[256,320],[⟨1000000,3,iT,[.slot 10],e⟩],[]⟩)]
 keepX:=[(0,.ret,⟨[8,9],[],[⟨1500000,3,iT,[.slot 8],e⟩],[]⟩)]
 ro:=[j,e]
theorem jiQ:OKc j8D:=
 cOf j0d j04 jkm j8D Tryz.func154 (jg jir (jg jeR (jg jiu (jg jbL i)))) (jg (fun h=>by kernel_rfl) i)
def jdJ:Con:=⟨221,[.v ty14,.v iT,.v iT,.v iT],[ty14,iT,iT,iT],⟨[.own 131 ty14],[]⟩,[ty14],Pw.unc4 Pw.j9f⟩
def jqv:FnD where
 N:=72
 np:=4
 cs:=[j8S]
 ds:=[⟨0,[sD ty14,sI,sI,sO 1000000,sI,.b (.lst 131 ty9 e)],[ty14,iT,iT,iT,ty14],[⟨.exit 0,[sO 1500100,.b (.lst 131 ty9 e)],[ty14]⟩],Pw.unc5 (Pw.j4Q)⟩,⟨2,[sD ty14,sI,sI,sO 1002000,sI,sI,.b (.lst 131 ty9 e)],[ty14,iT,iT,iT,iT,ty14],[⟨.exit 2,[sD ty14,sI,sI,sO 1502300,sI,.b (.lst 131 ty9 e)],[ty14,iT,iT,iT,ty14]⟩],Pw.unc6 (Pw.j4P)⟩]
 keep:=[(0,⟨[0,1,2,9,10],[],[⟨1000000,131,ty9,[.slot 9],e⟩],[]⟩),(2,⟨[0,1,2,9,10,11],[],[⟨1002000,131,ty9,[.slot 9],e⟩],[]⟩)]
 keepX:=[(0,.exit 0,⟨[9],[],[⟨1500100,131,ty9,[.slot 9],e⟩],[]⟩),(2,.exit 2,⟨[0,1,2,9,10],[],[⟨1502300,131,ty9,[.slot 9],e⟩],[]⟩)]
 ro:=[j]
 dw:=[(8,[[],[],[],[],[],[],[],[],[],[],[],[],[],[],[],[],[],[],[],[768],[768]])]
theorem joV:OKc jdJ:=
 cOf j0d j04 jqv jdJ Tryz.func221 (jg jhp i) (jg (fun h=>by kernel_rfl) (jg (fun h=>by kernel_rfl) i))
def jbM:Con:=⟨103,[.mv 131 ty14,.v ty14],[ty14,ty14],⟨[.own 131 ty14],[]⟩,[ty14],Pw.unc2 Pw.j7Y⟩
def jsH:FnD where
 N:=49
 np:=2
 ds:=[⟨0,[sO 1000000,sD ty14,sI,.b (.lst 131 ty9 e)],[ty14,iT,ty14],[⟨.exit 0,[sO 1500100,.b (.lst 131 ty9 e)],[ty14]⟩],Pw.unc3 (Pw.j5p)⟩]
 keep:=[(0,⟨[0,1,5],[],[⟨1000000,131,ty9,[.slot 0],e⟩],[]⟩)]
 keepX:=[(0,.exit 0,⟨[0],[],[⟨1500100,131,ty9,[.slot 0],e⟩],[]⟩)]
 ro:=[j]
theorem jkn:OKc jbM:=
 cOf j0d j04 jsH jbM Tryz.func103 i (jg (fun h=>by kernel_rfl) i)
def jdK:Con:=⟨155,[.v ty66,.v ty14,.v iT,.v iT],[ty66,ty14,iT,iT],⟨[.own 131 ty14,.v iT],[]⟩,[ty14,iT],Pw.unc4 Pw.jcK⟩
def jqw:FnD where
 N:=84
 np:=4
 cs:=[j1C,j6q,j6r,jdJ,jbM]
 ds:=[⟨0,[sD ty14,sI,sI,sB 256 0,sO 1000000,sO 1000001,sI,.b (.cell [.d .str,.d iT,.d ty59] e),.b (.lst 200 ty9 e),.b (.lst 131 ty9 e)],[ty14,iT,iT,iT,.str,iT,ty59,ty14,ty14],[⟨.exit 0,[sO 1500100,.b (.lst 131 ty9 e)],[ty14]⟩],Pw.unc9 (Pw.j4R)⟩]
 modes:=[(103,[j,e])]
 keep:=[(0,⟨[1,2,3,4,10,12,13],[256],[⟨1000000,200,ty9,[.slot 10],e⟩,⟨1000001,131,ty9,[.slot 12],e⟩],[]⟩)]
 keepX:=[(0,.exit 0,⟨[12],[],[⟨1500100,131,ty9,[.slot 12],e⟩],[]⟩)]
 ro:=[j,e]
 mvf:=[103]
theorem joW:OKc jdK:=
 cOf j0d j04 jqw jdK Tryz.func155 (jg j3g (jg jbJ (jg jbL (jg joV (jg jkn i))))) (jg (fun h=>by kernel_rfl) i)
def j8E:Con:=⟨157,[.v ty66,.v ty9],[ty66,ty9],⟨[.own 3 (.list iT),.v iT],[]⟩,[(.list iT),iT],Pw.unc2 Pw.j6h⟩
def jko:FnD where
 N:=81
 np:=2
 cs:=[j7t,j1C,ja4]
 ds:=[⟨0,[sB 128 0,sB 192 0,sO 1000000,sO 1000001,sI,.b (.cell [.d .str,.d iT,.d ty59] e),.b (.cell [.d iT,.d iT] e),.b (.lst 200 ty9 e),.b (.lst 3 iT e)],[iT,.str,iT,ty59,iT,iT,ty14,(.list iT)],[⟨.exit 0,[sO 1500100,.b (.lst 3 iT e)],[(.list iT)]⟩],Pw.unc8 (Pw.j30)⟩]
 keep:=[(0,⟨[2,3,6,8,9],[128,192],[⟨1000000,200,ty9,[.slot 6],e⟩,⟨1000001,3,iT,[.slot 8],e⟩],[]⟩)]
 keepX:=[(0,.exit 0,⟨[8],[],[⟨1500100,3,iT,[.slot 8],e⟩],[]⟩)]
 ro:=[j,e]
theorem jiR:OKc j8E:=
 cOf j0d j04 jko j8E Tryz.func157 (jg jcT (jg j3g (jg jis i))) (jg (fun h=>by kernel_rfl) i)
def jbN:Con:=⟨102,[.v ty87,.v ty73,.v iT,.v iT],[ty87,ty73,iT,iT],⟨[.own 3 (.list iT)],[]⟩,[(.list iT)],Pw.unc4 Pw.jbB⟩
def jsI:FnD where
 N:=138
 np:=4
 cs:=[j1C,j8D,jdK,j8E]
 ds:=[⟨0,[sB 256 0,sB 320 0,sO 1000000,sO 1000001,sI,.b (.cell [.d ty67,.d ty57,.d ty28,.d ty81] e),.b (.cell [.d .str,.d iT,.d iT,.d iT,.d iT,.d iT,.d (.list iT),.d ty14,.d iT,.d iT] e),.b (.lst 3 iT e),.b (.lst 131 ty9 e)],[iT,ty67,ty57,ty28,ty81,.str,iT,iT,iT,iT,iT,(.list iT),ty14,iT,iT,(.list iT),ty14],[⟨.exit 0,[sB 256 0,sB 320 0,sO 1500100,.b (.cell [.d ty67,.d ty57,.d ty28,.d ty81] e),.b (.cell [.d .str,.d iT,.d iT,.d iT,.d iT,.d iT,.d (.list iT),.d ty14,.d iT,.d iT] e),.b (.lst 3 iT e)],[ty67,ty57,ty28,ty81,.str,iT,iT,iT,iT,iT,(.list iT),ty14,iT,iT,(.list iT)]⟩],Pw.u8 Pw.unc9 (Pw.j5q)⟩,⟨2,[sB 256 0,sO 1002000,sB 960 0,sO 1002001,sI,.b (.cell [.d ty67,.d ty57,.d ty28,.d ty81] e),.b (.cell [.d .str,.d iT,.d (.list iT)] e),.b (.lst 3 iT e),.b (.lst 200 ty9 e)],[iT,ty67,ty57,ty28,ty81,.str,iT,(.list iT),(.list iT),ty14],[⟨.exit 2,[sB 256 0,sO 1502300,sB 960 0,.b (.cell [.d ty67,.d ty57,.d ty28,.d ty81] e),.b (.cell [.d .str,.d iT,.d (.list iT)] e),.b (.lst 3 iT e)],[ty67,ty57,ty28,ty81,.str,iT,(.list iT),(.list iT)]⟩],Pw.u8 Pw.unc2 (Pw.j5r)⟩,⟨4,[sB 256 0,sO 1004000,sB 960 0,sI,.b (.cell [.d ty67,.d ty57,.d ty28,.d ty81] e),.b (.cell [.d .str,.d iT,.d (.list iT)] e),.b (.lst 3 iT e)],[iT,ty67,ty57,ty28,ty81,.str,iT,(.list iT),(.list iT)],[⟨.exit 4,[sO 1504500,.b (.lst 3 iT e)],[(.list iT)]⟩],Pw.unc9 (Pw.j5s)⟩,⟨6,[sB 256 0,sO 1006000,sB 960 0,sI,sI,.b (.cell [.d ty67,.d ty57,.d ty28,.d ty81] e),.b (.cell [.d .str,.d iT,.d (.list iT)] e),.b (.lst 3 iT e)],[iT,iT,ty67,ty57,ty28,ty81,.str,iT,(.list iT),(.list iT)],[⟨.exit 6,[sB 256 0,sO 1506700,sB 960 0,sI,.b (.cell [.d ty67,.d ty57,.d ty28,.d ty81] e),.b (.cell [.d .str,.d iT,.d (.list iT)] e),.b (.lst 3 iT e)],[iT,ty67,ty57,ty28,ty81,.str,iT,(.list iT),(.list iT)]⟩],Pw.u8 Pw.unc2 (Pw.j46)⟩]
 keep:=[(0,⟨[4,5,10,12,14],[256,320],[⟨1000000,3,iT,[.slot 10],e⟩,⟨1000001,131,ty9,[.slot 12],e⟩],[]⟩),(2,⟨[4,10,15,16,18],[256,960],[⟨1002000,3,iT,[.slot 10],e⟩,⟨1002001,200,ty9,[.slot 16],e⟩],[]⟩),(4,⟨[4,10,15,19],[256,960],[⟨1004000,3,iT,[.slot 10],e⟩],[]⟩),(6,⟨[4,10,15,19,20],[256,960],[⟨1006000,3,iT,[.slot 10],e⟩],[]⟩)]
 keepX:=[(0,.exit 0,⟨[4,5,10],[256,320],[⟨1500100,3,iT,[.slot 10],e⟩],[]⟩),(2,.exit 2,⟨[4,10,15],[256,960],[⟨1502300,3,iT,[.slot 10],e⟩],[]⟩),(4,.exit 4,⟨[10],[],[⟨1504500,3,iT,[.slot 10],e⟩],[]⟩),(6,.exit 6,⟨[4,10,15,19],[256,960],[⟨1506700,3,iT,[.slot 10],e⟩],[]⟩)]
 ro:=[j]
 dw:=[(9,[[],[],[],[],[],[],[],[],[],[],[],[4416],[4480,1000000],[]]),(24,[[],[],[],[],[],[],[],[],[],[],[],[],[],[],[8384],[],[],[],[],[]])]
theorem jkp:OKc jbN:=
 cOf j0d j04 jsI jbN Tryz.func102 (jg j3g (jg jiQ (jg joW (jg jiR i)))) (jg (fun h=>by kernel_rfl) (jg (fun h=>by kernel_rfl) (jg (fun h=>by kernel_rfl) (jg (fun h=>by kernel_rfl) i))))
def jiw:Con:=⟨153,[.v (.list iT)],[(.list iT)],⟨[.own 3 (.list iT)],[]⟩,[(.list iT)],fun h=>Pw.jmJ h⟩
def ja8 (g:HL [(.list iT)]→k (HL [(.list iT)])):Con:=⟨153,[.v (.list iT)],[(.list iT)],⟨[.own 3 (.list iT)],[]⟩,[(.list iT)],g⟩
def jsJ (g:HL [(.list iT)]→k (HL [(.list iT)])):FnD where
 N:=88
 np:=1
 cs:=[ja8 g]
 ds:=[⟨0,[sO 1000000,sO 1000001,sO 1000002,sI,sI,.b (.lst 3 iT e),.b (.lst 3 iT e),.b (.lst 3 iT e)],[iT,iT,(.list iT),(.list iT),(.list iT)],[⟨.exit 0,[sO 1500100,.b (.lst 3 iT e)],[(.list iT)]⟩],Pw.unc5 (Pw.j5t (fun v0=>g v0))⟩]
 keep:=[(0,⟨[3,4,5,6,7],[],[⟨1000000,3,iT,[.slot 3],e⟩,⟨1000001,3,iT,[.slot 4],e⟩,⟨1000002,3,iT,[.slot 5],e⟩],[]⟩)]
 keepX:=[(0,.exit 0,⟨[3],[],[⟨1500100,3,iT,[.slot 3],e⟩],[]⟩)]
 ro:=[j]
 dw:=[(4,[[],[],[],[],[],[1280],[],[],[],[],[],[1664],[],[]])]
theorem jnb (g:HL [(.list iT)]→k (HL [(.list iT)])) (hg:OKc (ja8 g)):OKc (ja8 (Pw.j4p g)):=
 cOf j0d j04 (jsJ g) (ja8 (Pw.j4p g)) Tryz.func153 (jg hg i) (jg (fun h=>by kernel_rfl) i)
theorem jqx:OKc jiw:=jzf (f:=153) (ps:=[.v (.list iT)]) (ts:=[(.list iT)]) (rp:=⟨[.own 3 (.list iT)],[]⟩) (rs:=[(.list iT)]) (B:=Pw.j4p) jnb
def j89:Con:=⟨101,[.v (.list iT),.v iT,.v iT],[(.list iT),iT,iT],⟨[.own 3 (.list iT)],[]⟩,[(.list iT)],Pw.unc3 Pw.j8t⟩
def jnc:FnD where
 N:=49
 np:=3
 cs:=[jiw]
 ds:=[⟨0,[sI,sI,sO 1000000,sO 1000001,sI,.b (.lst 3 iT e),.b (.lst 3 iT e)],[iT,iT,iT,(.list iT),(.list iT)],[⟨.exit 0,[sI,sI,sO 1500100,.b (.lst 3 iT e)],[iT,iT,(.list iT)]⟩],Pw.unc5 (Pw.j3W)⟩]
 keep:=[(0,⟨[1,2,7,8,9],[],[⟨1000000,3,iT,[.slot 7],e⟩,⟨1000001,3,iT,[.slot 8],e⟩],[]⟩)]
 keepX:=[(0,.exit 0,⟨[1,2,7],[],[⟨1500100,3,iT,[.slot 7],e⟩],[]⟩)]
 ro:=[j]
theorem jfE:OKc j89:=
 cOf j0d j04 jnc j89 Tryz.func101 (jg jqx i) (jg (fun h=>by kernel_rfl) i)
def jdL:Con:=⟨45,[.v ty87,.v ty73,.v iT,.v iT],[ty87,ty73,iT,iT],⟨[.own 131 ty14,.v iT],[]⟩,[ty14,iT],Pw.unc4 Pw.jh0⟩
def jqy:FnD where
 N:=60
 np:=4
 cs:=[j9q,ja7,j6r,jbM,jbN,j89]
 ds:=[⟨0,[sB 256 0,sB 320 0,sO 1000000,sO 1000001,sI,.b (.cell [.d ty67,.d ty57,.d ty28,.d ty81] e),.b (.cell [.d .str,.d iT,.d iT,.d iT,.d iT,.d iT,.d (.list iT),.d ty14,.d iT,.d iT] e),.b (.lst 3 iT e),.b (.lst 131 ty9 e)],[iT,ty67,ty57,ty28,ty81,.str,iT,iT,iT,iT,iT,(.list iT),ty14,iT,iT,(.list iT),ty14],[⟨.exit 0,[sO 1500100,.b (.lst 131 ty9 e)],[ty14]⟩],Pw.u8 Pw.unc9 (Pw.j4S)⟩]
 modes:=[(103,[j,e])]
 keep:=[(0,⟨[4,5,10,11,12],[256,320],[⟨1000000,3,iT,[.slot 10],e⟩,⟨1000001,131,ty9,[.slot 11],e⟩],[]⟩)]
 keepX:=[(0,.exit 0,⟨[11],[],[⟨1500100,131,ty9,[.slot 11],e⟩],[]⟩)]
 ro:=[j,e]
 dw:=[(11,[[],[],[],[],[],[],[],[],[],[],[],[3456],[3520,1000001],[]])]
 mvf:=[103]
theorem joX:OKc jdL:=
 cOf j0d j04 jqy jdL Tryz.func45 (jg jgm (jg jiv (jg jbL (jg jkn (jg jkp (jg jfE i)))))) (jg (fun h=>by kernel_rfl) i)
def j8T:Con:=⟨105,[.mv 130 ty26,.v ty22],[ty26,ty22],⟨[.own 130 ty26],[]⟩,[ty26],Pw.unc2 Pw.jaj⟩
def joY:FnD where
 N:=50
 np:=2
 ro:=[j]
theorem jhq:OKc j8T:=
 cOf j0d j04 joY j8T Tryz.func105 i i
def j9F:Con:=⟨47,[.v ty87,.v ty73,.v iT,.v iT],[ty87,ty73,iT,iT],⟨[.own 130 ty26,.v iT],[]⟩,[ty26,iT],Pw.unc4 Pw.jbE⟩
def jl8:FnD where
 N:=59
 np:=4
 cs:=[j9q,jdI,j6r,jbN,j89,j8T]
 ds:=[⟨0,[sB 256 0,sB 320 0,sO 1000000,sO 1000001,sI,.b (.cell [.d ty67,.d ty57,.d ty28,.d ty81] e),.b (.cell [.d .str,.d iT,.d iT,.d iT,.d iT,.d iT,.d (.list iT),.d ty14,.d iT,.d iT] e),.b (.lst 3 iT e),.b (.lst 130 ty22 e)],[iT,ty67,ty57,ty28,ty81,.str,iT,iT,iT,iT,iT,(.list iT),ty14,iT,iT,(.list iT),ty26],[⟨.exit 0,[sO 1500100,.b (.lst 130 ty22 e)],[ty26]⟩],Pw.u8 Pw.unc9 (Pw.j3w)⟩]
 modes:=[(105,[j,e])]
 keep:=[(0,⟨[4,5,10,11,12],[256,320],[⟨1000000,3,iT,[.slot 10],e⟩,⟨1000001,130,ty22,[.slot 11],e⟩],[]⟩)]
 keepX:=[(0,.exit 0,⟨[11],[],[⟨1500100,130,ty22,[.slot 11],e⟩],[]⟩)]
 ro:=[j,e]
 dw:=[(10,[[],[],[],[],[],[],[],[],[],[],[],[],[],[],[],[],[],[],[3456,1000001],[]])]
 mvf:=[105]
theorem jkq:OKc j9F:=
 cOf j0d j04 jl8 j9F Tryz.func47 (jg jgm (jg jlP (jg jbL (jg jkp (jg jfE (jg jhq i)))))) (jg (fun h=>by kernel_rfl) i)
def jaY:Con:=⟨48,[.v ty14,.v ty14],[ty14,ty14],⟨[.v .bool],[]⟩,[.bool],Pw.unc2 Pw.jdm⟩
def jnd:FnD where
 N:=26
 np:=2
 ds:=[⟨0,[sD ty14,sD ty14,sI,sI],[ty14,ty14,iT,iT],[⟨.ret,[sD .bool],[.bool]⟩,⟨.exit 0,[],[]⟩],Pw.unc4 (Pw.j3X)⟩]
 keep:=[(0,⟨[0,1,12,13],[],[],[]⟩)]
 keepX:=[(0,.ret,⟨[4],[],[],[]⟩)]
theorem jl9:OKc jaY:=
 cOf j0d j04 jnd jaY Tryz.func48 i (jg (fun h=>by kernel_rfl) i)
def jcc:Con:=⟨49,[.v ty26,.v ty26],[ty26,ty26],⟨[.v .bool],[]⟩,[.bool],Pw.unc2 Pw.jcN⟩
def joZ:FnD where
 N:=26
 np:=2
 ds:=[⟨0,[sD ty26,sD ty26,sI,sI],[ty26,ty26,iT,iT],[⟨.ret,[sD .bool],[.bool]⟩,⟨.exit 0,[],[]⟩],Pw.unc4 (Pw.j4q)⟩]
 keep:=[(0,⟨[0,1,12,13],[],[],[]⟩)]
 keepX:=[(0,.ret,⟨[4],[],[],[]⟩)]
theorem jne:OKc jcc:=
 cOf j0d j04 joZ jcc Tryz.func49 i (jg (fun h=>by kernel_rfl) i)
def jdM:Con:=⟨51,[.v ty26],[ty26],⟨[.own 130 ty26],[]⟩,[ty26],fun h=>Pw.jh1 h⟩
def jqz:FnD where
 N:=18
 np:=1
 cs:=[j8T]
 ds:=[⟨0,[sD ty26,sO 1000000,sI,.b (.lst 130 ty22 e)],[ty26,iT,ty26],[⟨.exit 0,[sO 1500100,.b (.lst 130 ty22 e)],[ty26]⟩],Pw.unc3 (Pw.j4T)⟩]
 modes:=[(105,[j,e])]
 keep:=[(0,⟨[0,3,4],[],[⟨1000000,130,ty22,[.slot 3],e⟩],[]⟩)]
 keepX:=[(0,.exit 0,⟨[3],[],[⟨1500100,130,ty22,[.slot 3],e⟩],[]⟩)]
 ro:=[j]
 mvf:=[105]
theorem jp0:OKc jdM:=
 cOf j0d j04 jqz jdM Tryz.func51 (jg jhq i) (jg (fun h=>by kernel_rfl) i)
def jaZ:Con:=⟨5,[.v (.list iT),.v ty26,.v iT,.v iT,.v iT],[(.list iT),ty26,iT,iT,iT],⟨[.v .bool],[]⟩,[.bool],Pw.unc5 Pw.jaH⟩
def ji4:FnD where
 N:=184
 np:=5
 cs:=[jbU,j8P,j6o,j8Q,j86,jdu,jc5,jdv,j1b,j5f,j4u,j6I,j8z,jfd,jcb,jdL,j9F,jaY,jcc,jdM]
 ds:=[⟨0,[sD ty26,sI,sI,sI,sB 2688 0,sB 768 0,sI,.s (.av 3 ty73),sI,.b (.cell [.d ty67,.d ty57,.d ty28,.d ty81] e),.b (.cell [.d (.list iT),.d iT] e)],[ty26,iT,iT,iT,iT,ty74,iT,ty67,ty57,ty28,ty81,(.list iT),iT],[⟨.ret,[sD .bool],[.bool]⟩,⟨.exit 0,[sD ty26],[ty26]⟩],Pw.u8 Pw.unc5 (Pw.j2o)⟩,⟨2,[sD ty26,sI,sI,sI,sB 2688 0,sB 768 0,sI,sB 1088 0,.s (.av 3 ty73),sI,.s (.av 2 ty87),sI,.b (.cell [.d ty67,.d ty57,.d ty28,.d ty81] e),.b (.cell [.d .str,.d iT,.d iT,.d iT,.d iT,.d iT,.d (.list iT),.d ty14,.d iT,.d iT] e),.b (.cell [.d (.list iT),.d iT] e)],[ty26,iT,iT,iT,iT,ty74,iT,ty88,iT,ty67,ty57,ty28,ty81,.str,iT,iT,iT,iT,iT,(.list iT),ty14,iT,iT,(.list iT),iT],[⟨.ret,[sD .bool],[.bool]⟩,⟨.exit 2,[sD ty26,sI,sI,sI,sB 2688 0,sB 768 0,sI,.s (.av 3 ty73),sI,.b (.cell [.d ty67,.d ty57,.d ty28,.d ty81] e),.b (.cell [.d (.list iT),.d iT] e)],[ty26,iT,iT,iT,iT,ty74,iT,ty67,ty57,ty28,ty81,(.list iT),iT]⟩],Pw.u8 (Pw.u8 Pw.unc9) (Pw.j2n)⟩,⟨4,[sD ty26,sI,sI,sI,sB 2688 0,sB 768 0,sI,sB 1088 0,sB 1216 0,.s (.av 3 ty73),sI,.s (.av 2 ty87),sI,.s (.av 4 iT),sI,.b (.cell [.d ty67,.d ty57,.d ty28,.d ty81] e),.b (.cell [.d .str,.d iT,.d iT,.d iT,.d iT,.d iT,.d (.list iT),.d ty14,.d iT,.d iT] e),.b (.cell [.d ty67,.d ty57,.d ty28,.d ty81] e),.b (.cell [.d (.list iT),.d iT] e)],(ty26::iT::iT::iT::iT::ty74::iT::ty88::iT::(.list iT)::iT::ty67::ty57::ty28::ty81 :: .str::iT::iT::iT::iT::iT::(.list iT)::ty14::iT::iT::ty67::ty57::ty28::ty81::(.list iT)::iT::[]),[⟨.ret,[sD .bool],[.bool]⟩,⟨.exit 4,[sD ty26,sI,sI,sI,sB 2688 0,sB 768 0,sI,sB 1088 0,sB 1216 0,.s (.av 3 ty73),sI,.s (.av 2 ty87),sI,.b (.cell [.d ty67,.d ty57,.d ty28,.d ty81] e),.b (.cell [.d .str,.d iT,.d iT,.d iT,.d iT,.d iT,.d (.list iT),.d ty14,.d iT,.d iT] e),.b (.cell [.d ty67,.d ty57,.d ty28,.d ty81] e),.b (.cell [.d (.list iT),.d iT] e)],[ty26,iT,iT,iT,iT,ty74,iT,ty88,iT,ty67,ty57,ty28,ty81,.str,iT,iT,iT,iT,iT,(.list iT),ty14,iT,iT,ty67,ty57,ty28,ty81,(.list iT),iT]⟩],Pw.u8 (Pw.u8 (Pw.u8 Pw.unc7)) (Pw.j2l)⟩,⟨6,[sD ty26,sI,sI,sI,sB 2688 0,sB 768 0,sI,sB 1088 0,sB 1216 0,.s (.av 3 ty73),sI,.s (.av 2 ty87),sI,.s (.av 3 (.arr 2 iT)),sI,.b (.cell [.d ty67,.d ty57,.d ty28,.d ty81] e),.b (.cell [.d .str,.d iT,.d iT,.d iT,.d iT,.d iT,.d (.list iT),.d ty14,.d iT,.d iT] e),.b (.cell [.d ty67,.d ty57,.d ty28,.d ty81] e),.b (.cell [.d (.list iT),.d iT] e)],(ty26::iT::iT::iT::iT::ty74::iT::ty88::iT::(.list (.arr 2 iT))::iT::ty67::ty57::ty28::ty81 :: .str::iT::iT::iT::iT::iT::(.list iT)::ty14::iT::iT::ty67::ty57::ty28::ty81::(.list iT)::iT::[]),[⟨.ret,[sD .bool],[.bool]⟩,⟨.exit 6,[sD ty26,sI,sI,sI,sB 2688 0,sB 768 0,sI,sB 1088 0,.s (.av 3 ty73),sI,.s (.av 2 ty87),sI,.b (.cell [.d ty67,.d ty57,.d ty28,.d ty81] e),.b (.cell [.d .str,.d iT,.d iT,.d iT,.d iT,.d iT,.d (.list iT),.d ty14,.d iT,.d iT] e),.b (.cell [.d (.list iT),.d iT] e)],[ty26,iT,iT,iT,iT,ty74,iT,ty88,iT,ty67,ty57,ty28,ty81,.str,iT,iT,iT,iT,iT,(.list iT),ty14,iT,iT,(.list iT),iT]⟩],Pw.u8 (Pw.u8 (Pw.u8 Pw.unc7)) (Pw.j2m)⟩]
 keep:=[(0,⟨[1,2,3,4,11,12,15,58,59],[768,2688],[],[]⟩),(2,⟨[1,2,3,4,11,12,15,17,58,59,66,67],[768,1088,2688],[],[]⟩),(4,⟨[1,2,3,4,11,12,15,17,19,58,59,66,67,74,75],[768,1088,1216,2688],[],[]⟩),(6,⟨[1,2,3,4,11,12,15,17,19,58,59,66,67,109,110],[768,1088,1216,2688],[],[]⟩)]
 keepX:=[(0,.ret,⟨[10],[],[],[]⟩),(0,.exit 0,⟨[1],[],[],[]⟩),(2,.ret,⟨[10],[],[],[]⟩),(2,.exit 2,⟨[1,2,3,4,11,12,15,58,59],[768,2688],[],[]⟩),(4,.ret,⟨[10],[],[],[]⟩),(4,.exit 4,⟨[1,2,3,4,11,12,15,17,19,58,59,66,67],[768,1088,1216,2688],[],[]⟩),(6,.ret,⟨[10],[],[],[]⟩),(6,.exit 6,⟨[1,2,3,4,11,12,15,17,58,59,66,67],[768,1088,2688],[],[]⟩)]
 dw:=[(12,[[],[],[],[2688],[],[]])]
theorem law11_DutyExact_ok:OKc jaZ:=
 cOf j0d j04 ji4 jaZ Tryz.func5 (jg jmK (jg jhh (jg je6 (jg jhi (jg jfC (jg jlO (jg jn2 (jg joB (jg j25 (jg jbH (jg j9L (jg jgi (jg jiN (jg joT (jg jna (jg joX (jg jkq (jg jl9 (jg jne (jg jp0 i)))))))))))))))))))) (jg (fun h=>by kernel_rfl) (jg (fun h=>by kernel_rfl) (jg (fun h=>by kernel_rfl) (jg (fun h=>by kernel_rfl) i))))
end Go.Proofs.Pk
