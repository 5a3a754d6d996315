/- Contracts: each given function is its plain function, printed by a program. -/
import Derived.Test.YtgepoeafaklbjaaGreatPFCon11
open Bool renaming false->e
noncomputable section
open Go Go.Lft
set_option linter.unusedVariables false
set_option maxRecDepth 100000
namespace Go.Proofs.Pk
open Tryz
def jqH:CKt:=
 cQ tb {mvf:=[284]} [lD 0 [sD ty12,sI,sI,sB 256 0,sO 1,sO 2,sI,.b (.cell [.d .str,.d iT,.d ty57] e),.b (.lst 254 ty7 e),.b (.lst 42 ty7 e)] ⟨[1,2,3,4,10,12,13],[256],[⟨1,254,ty7,[.slot 10],e⟩,⟨2,42,ty7,[.slot 12],e⟩]⟩ [xD (.exit 0) [sO 3,.b (.lst 42 ty7 e)] ⟨[12],[],[⟨3,42,ty7,[.slot 12],e⟩]⟩] (Pw.unc9 (Pw.j5V))] 240 [.v ty64,.v ty12,.v iT,.v iT] [.own 42 ty12,.v iT] [] (Pw.unc4 Pw.jdP) func240 [j4y,jey,jh7,jqG,jtt]
def jla:CKt:=
 cQ tb {} [lD 0 [sB 128 0,sB 192 0,sO 1,sO 2,sI,.b (.cell [.d .str,.d iT,.d ty57] e),.b (.cell [.d iT,.d iT] e),.b (.lst 254 ty7 e),.b (.lst 3 iT e)] ⟨[2,3,6,8,9],[128,192],[⟨1,254,ty7,[.slot 6],e⟩,⟨2,3,iT,[.slot 8],e⟩]⟩ [xD (.exit 0) [sO 3,.b (.lst 3 iT e)] ⟨[8],[],[⟨3,3,iT,[.slot 8],e⟩]⟩] (Pw.unc8 (Pw.j3N))] 242 [.v ty64,.v ty7] [.own 3 (.list iT),.v iT] [] (Pw.unc2 Pw.j7N) func242 [jgd,j4y,jl5]
def jtu:CKt:=
 cQ tb {dw:=[(9,dz [(11,[4416]),(0,[4480,1])]),(24,dz [(14,[8384])])]} [lD 0 [sB 256 0,sB 320 0,sO 1,sO 2,sI,.b (.cell [.d ty65,.d ty55,.d ty28,.d ty77] e),.b (.cell [.d .str,.d iT,.d iT,.d iT,.d iT,.d iT,.d (.list iT),.d ty12,.d iT,.d iT] e),.b (.lst 3 iT e),.b (.lst 42 ty7 e)] ⟨[4,5,10,12,14],[256,320],[⟨1,3,iT,[.slot 10],e⟩,⟨2,42,ty7,[.slot 12],e⟩]⟩ [xD (.exit 0) [sB 256 0,sB 320 0,sO 3,.b (.cell [.d ty65,.d ty55,.d ty28,.d ty77] e),.b (.cell [.d .str,.d iT,.d iT,.d iT,.d iT,.d iT,.d (.list iT),.d ty12,.d iT,.d iT] e),.b (.lst 3 iT e)] ⟨[4,5,10],[256,320],[⟨3,3,iT,[.slot 10],e⟩]⟩] (Pw.u8 Pw.unc9 (Pw.j6H)),lD 2 [sB 256 0,sO 4,sB 960 0,sO 5,sI,.b (.cell [.d ty65,.d ty55,.d ty28,.d ty77] e),.b (.cell [.d .str,.d iT,.d (.list iT)] e),.b (.lst 3 iT e),.b (.lst 254 ty7 e)] ⟨[4,10,15,16,18],[256,960],[⟨4,3,iT,[.slot 10],e⟩,⟨5,254,ty7,[.slot 16],e⟩]⟩ [xD (.exit 2) [sB 256 0,sO 6,sB 960 0,.b (.cell [.d ty65,.d ty55,.d ty28,.d ty77] e),.b (.cell [.d .str,.d iT,.d (.list iT)] e),.b (.lst 3 iT e)] ⟨[4,10,15],[256,960],[⟨6,3,iT,[.slot 10],e⟩]⟩] (Pw.u8 Pw.unc2 (Pw.j6I)),lD 4 [sB 256 0,sO 7,sB 960 0,sI,.b (.cell [.d ty65,.d ty55,.d ty28,.d ty77] e),.b (.cell [.d .str,.d iT,.d (.list iT)] e),.b (.lst 3 iT e)] ⟨[4,10,15,19],[256,960],[⟨7,3,iT,[.slot 10],e⟩]⟩ [xD (.exit 4) [sO 8,.b (.lst 3 iT e)] ⟨[10],[],[⟨8,3,iT,[.slot 10],e⟩]⟩] (Pw.unc9 (Pw.j6J)),lD 6 [sB 256 0,sO 9,sB 960 0,sI,sI,.b (.cell [.d ty65,.d ty55,.d ty28,.d ty77] e),.b (.cell [.d .str,.d iT,.d (.list iT)] e),.b (.lst 3 iT e)] ⟨[4,10,15,19,20],[256,960],[⟨9,3,iT,[.slot 10],e⟩]⟩ [xD (.exit 6) [sB 256 0,sO 10,sB 960 0,sI,.b (.cell [.d ty65,.d ty55,.d ty28,.d ty77] e),.b (.cell [.d .str,.d iT,.d (.list iT)] e),.b (.lst 3 iT e)] ⟨[4,10,15,19],[256,960],[⟨10,3,iT,[.slot 10],e⟩]⟩] (Pw.u8 Pw.unc2 (Pw.j4T))] 192 [.v ty83,.v ty71,.v iT,.v iT] [.own 3 (.list iT)] [] (Pw.unc4 Pw.jhY) func192 [j4y,jl9,jqH,jla]
def jbs(g:HL [(.list iT)]->Option (HL [(.list iT)])):Con:=⟨243,[.v (.list iT)],[(.list iT)],⟨[.own 3 (.list iT)],[]⟩,[(.list iT)],g⟩
def jtv(g:HL [(.list iT)]->Option (HL [(.list iT)])):FnD where
 N:=88
 np:=1
 cs:=[jbs g]
 ds:=[⟨0,[sO 1000000,sO 1000001,sO 1000002,sI,sI,.b (.lst 3 iT e),.b (.lst 3 iT e),.b (.lst 3 iT e)],[iT,iT,(.list iT),(.list iT),(.list iT)],[⟨.exit 0,[sO 1500100,.b (.lst 3 iT e)],[(.list iT)]⟩],Pw.unc5 (Pw.j6K (λv0=>g v0))⟩]
 keep:=[(0,⟨[3,4,5,6,7],[],[⟨1000000,3,iT,[.slot 3],e⟩,⟨1000001,3,iT,[.slot 4],e⟩,⟨1000002,3,iT,[.slot 5],e⟩]⟩)]
 keepX:=[(0,.exit 0,⟨[3],[],[⟨1500100,3,iT,[.slot 3],e⟩]⟩)]
 ro:=[true]
 dw:=[(4,[[],[],[],[],[],[1280],[],[],[],[],[],[1664],[],[]])]
theorem jnK(g:HL [(.list iT)]->Option (HL [(.list iT)]))(hg:OKc (jbs g)):OKc (jbs (Pw.j5e g)):=
 cOf jh5 j9D (jtv g) (jbs (Pw.j5e g)) func243 (And.intro hg trivial) (And.intro (λh=>by kernel_rfl) trivial)
def jtw:CKt:=
 ⟨⟨243,[.v (.list iT)],[(.list iT)],⟨[.own 3 (.list iT)],[]⟩,[(.list iT)],λh=>Pw.jnG h⟩,jC2 (f:=243) (ps:=[.v (.list iT)]) (ts:=[(.list iT)]) (rp:=⟨[.own 3 (.list iT)],[]⟩) (rs:=[(.list iT)]) (B:=Pw.j5e) jnK⟩
def jnL:CKt:=
 cQ tb {} [lD 0 [sI,sI,sO 1,sO 2,sI,.b (.lst 3 iT e),.b (.lst 3 iT e)] ⟨[1,2,7,8,9],[],[⟨1,3,iT,[.slot 7],e⟩,⟨2,3,iT,[.slot 8],e⟩]⟩ [xD (.exit 0) [sI,sI,sO 3,.b (.lst 3 iT e)] ⟨[1,2,7],[],[⟨3,3,iT,[.slot 7],e⟩]⟩] (Pw.unc5 (Pw.j4J))] 193 [.v (.list iT),.v iT,.v iT] [.own 3 (.list iT)] [] (Pw.unc3 Pw.jem) func193 [jtw]
def jtx:CKt:=
 cQ tb {dw:=[(6,dz [(9,[2176]),(0,[2240,1])]),(10,dz [(13,[3584]),(0,[3648,2])])]} [lD 0 [sI,sI,sB 256 0,sB 576 0,sO 1,sI,.b (.cell [.d ty65,.d ty55,.d ty28,.d ty77] e),.b (.cell [.d .str,.d ty72,.d ty43] e),.b (.lst 3 iT e)] ⟨[2,3,4,9,10,11],[256,576],[⟨1,3,iT,[.slot 10],e⟩]⟩ [xD (.exit 0) [sI,sI,sB 576 0,sO 3,.b (.cell [.d .str,.d ty72,.d ty43] e),.b (.lst 3 iT e)] ⟨[2,3,9,10],[576],[⟨3,3,iT,[.slot 10],e⟩]⟩] (Pw.u8 Pw.unc3 (Pw.j6L)),lD 2 [sI,sI,sB 576 0,sO 2,sI,.b (.cell [.d .str,.d ty72,.d ty43] e),.b (.lst 3 iT e)] ⟨[2,3,9,10,12],[576],[⟨2,3,iT,[.slot 10],e⟩]⟩ [xD (.exit 2) [sI,sI,sO 4,.b (.lst 3 iT e)] ⟨[2,3,10],[],[⟨4,3,iT,[.slot 10],e⟩]⟩] (Pw.unc7 (Pw.j6M))] 135 [.v ty83,.v iT,.v iT,.v iT] [.own 3 (.list iT)] [] (Pw.unc4 Pw.jk1) func135 [jtu,jnL]
def jpl:CKt:=
 cQ tb {} [] 136 [.mv 128 ty25,.v ty20] [.own 128 ty25] [] (Pw.unc2 Pw.jga) func136
def jpm:CKt:=
 cQ tb {dw:=[(6,dz [(18,[2688,1])])],mvf:=[136]} [lD 0 [sI,sB 256 0,sO 2,sO 1,sI,.b (.cell [.d ty65,.d ty55,.d ty28,.d ty77] e),.b (.lst 3 iT e),.b (.lst 128 ty20 e)] ⟨[1,4,9,10,11],[256],[⟨2,3,iT,[.slot 9],e⟩,⟨1,128,ty20,[.slot 10],e⟩]⟩ [xD (.exit 0) [sO 3,.b (.lst 128 ty20 e)] ⟨[10],[],[⟨3,128,ty20,[.slot 10],e⟩]⟩] (Pw.unc8 (Pw.j5f))] 86 [.v ty83,.v iT,.v iT,.v iT] [.own 128 ty25] [] (Pw.unc4 Pw.jgb) func86 [jph,jtx,jpl]
def jlV:CKt:=
 cQ tb {} [] 55 [.v ty83,.v iT,.v iT,.v iT] [.own 128 ty25,.v iT] [] (Pw.unc4 Pw.jd2) func55 [jqF,jpm]
def jqI:CKt:=
 cQ tb {dw:=[(9,dz [(12,[3328]),(0,[3392,1])])]} [lD 0 [sI,sO 2,sO 1,sI,.b (.lst 128 ty20 e),.b (.lst 42 ty7 e)] ⟨[2,12,14,15],[],[⟨2,128,ty20,[.slot 12],e⟩,⟨1,42,ty7,[.slot 14],e⟩]⟩ [xD (.exit 0) [sO 3,.b (.lst 42 ty7 e)] ⟨[14],[],[⟨3,42,ty7,[.slot 14],e⟩]⟩] (Pw.unc4 (Pw.j5W))] 27 [.v ty83,.v iT,.v iT,.v iT,.v iT] [.own 42 ty12,.v iT] [] (Pw.unc5 Pw.jfB) func27 [jlV]
def jty:CKt:=
 cQ tb {} [] 10 [.v ty83,.v iT,.v iT,.v iT] [.own 42 ty12,.v iT] [] (Pw.unc4 Pw.jhZ) func10 [jqI]
def jtz:CKt:=
 cQ tb {} [] 11 [.v iT,.v iT] [.v iT] [] (Pw.unc2 Pw.jk2) func11
def jqJ:CKt:=
 cQ tb {} [lD 0 [sD ty12,sI] ⟨[0,3],[],[]⟩ [xD .ret [sD .bool] ⟨[2],[],[]⟩,xD (.exit 0) [] ⟨[],[],[]⟩] (Pw.unc2 (Pw.j5X))] 28 [.v ty12] [.v .bool] [] (λh=>Pw.ji0 h) func28
def jvI:CKt:=
 cQ tb {} [lD 0 [sD ty12,sI,sI,sI] ⟨[0,1,5,6],[],[]⟩ [xD (.exit 0) [sD ty12,sI,sI] ⟨[0,1,5],[],[]⟩] (Pw.unc4 (Pw.j7z))] 29 [.v ty12,.v iT] [.v .bool] [] (Pw.unc2 Pw.jqu) func29
def jvJ:CKt:=
 cQ tb {} [] 12 [.v ty12,.v iT] [.v .bool] [] (Pw.unc2 Pw.jiT) func12 [jqJ,jvI]
def law19_ProposeFills_k:CKt:=
 cQ tb {} [lD 0 [sI,sB 384 0,sI,sI,sB 576 0,sO 1,sO 2,sO 3,sI,sI,.b (.cell [.d ty65,.d ty55,.d ty28,.d ty77] e),.b (.cell [.d ty65,.d ty55,.d ty28,.d ty77] e),.b (.lst 42 ty7 e),.b (.lst 42 ty7 e),.b (.lst 42 ty7 e)] ⟨[1,6,7,8,9,10,12,14,71,72],[384,576],[⟨1,42,ty7,[.slot 10],e⟩,⟨2,42,ty7,[.slot 12],e⟩,⟨3,42,ty7,[.slot 14],e⟩]⟩ [xD .ret [sD .bool] ⟨[4],[],[]⟩,xD (.exit 0) [sI,sB 384 0,sI,sI,sB 576 0,sO 4,.b (.cell [.d ty65,.d ty55,.d ty28,.d ty77] e),.b (.cell [.d ty65,.d ty55,.d ty28,.d ty77] e),.b (.lst 42 ty7 e)] ⟨[1,6,7,8,9,12],[384,576],[⟨4,42,ty7,[.slot 12],e⟩]⟩] (Pw.u8 Pw.unc8 (Pw.j21)),lD 2 [sB 384 0,sB 576 0,sO 5,.s (.av 3 iT),sI,.b (.cell [.d ty65,.d ty55,.d ty28,.d ty77] e),.b (.cell [.d ty65,.d ty55,.d ty28,.d ty77] e),.b (.lst 42 ty7 e)] ⟨[6,9,12,95,96],[384,576],[⟨5,42,ty7,[.slot 12],e⟩]⟩ [xD .ret [sD .bool] ⟨[4],[],[]⟩,xD (.exit 2) [] ⟨[],[],[]⟩] (Pw.u8 Pw.unc3 (Pw.j22))] 3 [.v (.list iT),.v iT] [.v .bool] [] (Pw.unc2 Pw.j9C) func3 [jp9,jdh,jl8,jpk,jqE,jci,ji6,jty,jtz,jvJ]
end Go.Proofs.Pk
