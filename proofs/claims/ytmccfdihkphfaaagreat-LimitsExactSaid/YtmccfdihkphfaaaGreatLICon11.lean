/- Contracts: each given function is its plain function, printed by a program. -/
import Derived.Test.YtmccfdihkphfaaaGreatLICon10
open Bool renaming false->e
noncomputable section
open Go Go.Lft
set_option linter.unusedVariables false
set_option maxRecDepth 100000
namespace Go.Proofs.Pk
open Tryz
def jkQ:CKt:=
 cQ tb {} [lD 0 [sD ty15,sI,sI,sI] ⟨[0,1,5,6],[],[]⟩ [xD (.exit 0) [sI] ⟨[5],[],[]⟩] (Pw.unc4 (Pw.j6i))] 112 [.v ty15,.v iT] [.v iT] [] (Pw.unc2 Pw.jcG) func112
def jsc:CKt:=
 cQ tb {dw:=[(5,dz [(23,[3008]),(0,[3072,1])])]} [lD 0 [sD ty15,sI,sI,sI,sO 1,sI,.b (.lst 3 iT e)] ⟨[0,1,2,3,9,10],[],[⟨1,3,iT,[.slot 9],e⟩]⟩ [xD (.exit 0) [sD ty15,sI,sI,sI,sO 2,.b (.lst 3 iT e)] ⟨[0,1,2,3,9],[],[⟨2,3,iT,[.slot 9],e⟩]⟩] (Pw.unc6 (Pw.j6P)),lD 2 [sD ty15,sI,sO 3,sO 4,sI,.b (.lst 3 iT e),.b (.lst 3 iT e)] ⟨[0,1,9,11,12],[],[⟨3,3,iT,[.slot 9],e⟩,⟨4,3,iT,[.slot 11],e⟩]⟩ [xD (.exit 2) [sO 5,.b (.lst 3 iT e)] ⟨[11],[],[⟨5,3,iT,[.slot 11],e⟩]⟩] (Pw.unc5 (Pw.j6Q))] 97 [.v ty15,.v iT,.v iT,.v iT] [.own 3 (.list iT)] [] (Pw.unc4 Pw.jgQ) func97 [jjs,jkQ]
def jv1:CKt:=
 cQ tb {} [] 152 [.v ty24,.v ty24] [.v .bool] [] (Pw.unc2 Pw.jjh) func152
def jqJ:CKt:=
 cQ tb {dw:=[(7,dz [(7,[2304])])]} [lD 0 [sO 1,sB 192 0,sI,.b (.cell [.d iT,.d iT,.d iT] e),.b (.lst 148 ty24 e)] ⟨[0,3,5],[192],[⟨1,148,ty24,[.slot 0],e⟩]⟩ [xD (.exit 0) [sO 2,sB 192 0,sI,.b (.cell [.d iT,.d iT,.d iT] e),.b (.lst 148 ty24 e)] ⟨[0,3,5],[192],[⟨2,148,ty24,[.slot 0],e⟩]⟩] (Pw.unc5 (Pw.j8t))] 98 [.mv 148 ty29,.v ty24] [.own 148 ty29] [] (Pw.unc2 Pw.jfv) func98 [jv1]
def jmr:CKt:=
 cQ tb {} [lD 0 [sD ty15,sI] ⟨[0,3],[],[]⟩ [xD .ret [sD .bool] ⟨[2],[],[]⟩,xD (.exit 0) [] ⟨[],[],[]⟩] (Pw.unc2 (Pw.j45))] 111 [.v ty15] [.v .bool] [] (λh=>Pw.jbL h) func111
def jwX:CKt:=
 cQ tb {} [lD 0 [sD ty15,sI,sI,sI] ⟨[0,1,5,6],[],[]⟩ [xD (.exit 0) [sD ty15,sI,sI] ⟨[0,1,5],[],[]⟩] (Pw.unc4 (Pw.j8u))] 229 [.v ty15,.v iT] [.v .bool] [] (Pw.unc2 Pw.jiq) func229
def jp4:CKt:=
 cQ tb {dw:=[(7,dz [(11,[2624]),(0,[2688,1])]),(11,dz [(11,[3840]),(0,[3904,2])]),(22,dz [(11,[9856]),(0,[9920,3])])]} [lD 0 [sD ty15,sD ty15,sI,sO 1,sI,.b (.lst 3 iT e)] ⟨[0,1,2,8,9],[],[⟨1,3,iT,[.slot 8],e⟩]⟩ [xD (.exit 0) [sD ty15,sD ty15,sI,sO 4,.b (.lst 3 iT e)] ⟨[0,1,2,8],[],[⟨4,3,iT,[.slot 8],e⟩]⟩] (Pw.unc5 (Pw.j5G)),lD 2 [sD ty15,sD ty15,sI,sO 2,sI,.b (.lst 3 iT e)] ⟨[0,1,2,8,10],[],[⟨2,3,iT,[.slot 8],e⟩]⟩ [xD (.exit 2) [sD ty15,sD ty15,sI,sO 5,.b (.lst 3 iT e)] ⟨[0,1,2,8],[],[⟨5,3,iT,[.slot 8],e⟩]⟩] (Pw.unc5 (Pw.j5H)),lD 4 [sD ty15,sD ty15,sI,sO 6,sO 3,sI,.b (.lst 3 iT e),.b (.lst 59 ty9 e)] ⟨[0,1,2,8,11,12],[],[⟨6,3,iT,[.slot 8],e⟩,⟨3,59,ty9,[.slot 11],e⟩]⟩ [xD (.exit 4) [sO 7,.b (.lst 59 ty9 e)] ⟨[11],[],[⟨7,59,ty9,[.slot 11],e⟩]⟩] (Pw.unc6 (Pw.j46))] 156 [.v ty15,.v ty15,.v iT] [.own 59 ty15,.v iT] [] (Pw.unc3 Pw.jir) func156 [jhu,jmr,jwX]
def jv2:CKt:=
 cQ tb {} [] 100 [.v ty15,.v ty15] [.own 59 ty15,.v iT] [] (Pw.unc2 Pw.jfw) func100 [jp4]
def jv3:CKt:=
 cQ tb {} [lD 0 [sI,sI,sD ty29,sD ty29,sO 1,sI,sI,.b (.lst 66 ty43 e)] ⟨[0,1,2,3,9,10,11],[],[⟨1,66,ty43,[.slot 9],e⟩]⟩ [xD (.exit 0) [sO 2,.b (.lst 66 ty43 e)] ⟨[9],[],[⟨2,66,ty43,[.slot 9],e⟩]⟩] (Pw.unc7 (Pw.j5V))] 77 [.v iT,.v iT,.v ty29,.v ty29] [.own 66 ty45] [] (Pw.unc4 Pw.jjk) func77
def jkR:CKt:=
 cQ tb {} [] 136 [.v ty43,.v ty43] [.v .bool] [] (Pw.unc2 Pw.jeT) func136
noncomputable def jas(g:HL [ty45]->Option (HL [ty45])):Con:=⟨78,[.v ty45],[ty45],⟨[.v ty45],[]⟩,[ty45],g⟩
noncomputable def jqK(g:HL [ty45]->Option (HL [ty45])):FnD where
 N:=75
 np:=1
 cs:=[jas g,jkR.1]
 ds:=[⟨0,[sD ty45,sD ty45,sO 1000000,sI,sI,.b (.lst 66 ty43 e)],[ty45,ty45,iT,iT,ty45],[⟨.exit 0,[sO 1500100,.b (.lst 66 ty43 e)],[ty45]⟩],Pw.unc5 (Pw.j6l (λv0=>g v0))⟩]
 keep:=[(0,⟨[3,4,5,6,7],[],[⟨1000000,66,ty43,[.slot 5],e⟩]⟩)]
 keepX:=[(0,.exit 0,⟨[5],[],[⟨1500100,66,ty43,[.slot 5],e⟩]⟩)]
theorem jms(g:HL [ty45]->Option (HL [ty45]))(hg:OKc (jas g)):OKc (jas (Pw.j4b g)):=
 cOf jqz jis (jqK g) (jas (Pw.j4b g)) func78 (And.intro hg (And.intro jkR.2 trivial)) (And.intro (λh=>by kernel_rfl) trivial)
def jqL:CKt:=
 ⟨⟨78,[.v ty45],[ty45],⟨[.v ty45],[]⟩,[ty45],λh=>Pw.jkl h⟩,jtv (f:=78) (ps:=[.v ty45]) (ts:=[ty45]) (rp:=⟨[.v ty45],[]⟩) (rs:=[ty45]) (B:=Pw.j4b) jms⟩
def jp5:CKt:=
 cQ tb {dw:=[(20,dz [(11,[4416]),(0,[4480,1])])]} [lD 0 [sI,sI,sB 192 0,sO 2,sI,.b (.cell [.d ty67,.d ty57,.d ty31,.d ty79] e),.b (.lst 48 ty29 e)] ⟨[1,2,3,8,9],[192],[⟨2,48,ty29,[.slot 8],e⟩]⟩ [xD .ret [.s (.one (.nil)),sI] ⟨[6,7],[],[]⟩,xD (.exit 0) [sO 3,.b (.lst 48 ty29 e)] ⟨[8],[],[⟨3,48,ty29,[.slot 8],e⟩]⟩] (Pw.unc8 (Pw.j5I)),lD 2 [sO 4,sO 5,sI,.b (.lst 48 ty29 e),.b (.lst 66 ty43 e)] ⟨[8,12,13],[],[⟨4,48,ty29,[.slot 8],e⟩,⟨5,66,ty43,[.slot 12],e⟩]⟩ [xD (.exit 2) [sO 6,.b (.lst 66 ty43 e)] ⟨[12],[],[⟨6,66,ty43,[.slot 12],e⟩]⟩] (Pw.unc3 (Pw.j5K)),lD 4 [sO 7,sO 1,sI,sI,.b (.lst 48 ty29 e),.b (.lst 66 ty43 e)] ⟨[8,12,13,14],[],[⟨7,48,ty29,[.slot 8],e⟩,⟨1,66,ty43,[.slot 12],e⟩]⟩ [xD (.exit 4) [sO 8,sO 9,sI,.b (.lst 48 ty29 e),.b (.lst 66 ty43 e)] ⟨[8,12,13],[],[⟨8,48,ty29,[.slot 8],e⟩,⟨9,66,ty43,[.slot 12],e⟩]⟩] (Pw.unc4 (Pw.j5J))] 29 [.v ty85,.v iT,.v iT] [.v ty45,.v iT] [] (Pw.unc3 Pw.j6v) func29 [jfE,jb6,jhU,jv3,jqL]
def jg5:CKt:=
 cQ tb {dw:=[(18,dz [(10,[6848])])],mvf:=[98]} [lD 0 [sI,sI,sI,sB 256 0,sO 1,sB 768 0,sO 2,sO 3,sI,.b (.cell [.d ty67,.d ty57,.d ty31,.d ty79] e),.b (.cell [.d .str,.d iT,.d ty15,.d iT,.d iT,.d .bool] e),.b (.lst 59 ty9 e),.b (.lst 148 ty24 e),.b (.lst 3 iT e)] ⟨[1,2,3,4,10,12,13,14,15],[256,768],[⟨1,59,ty9,[.slot 10],e⟩,⟨2,148,ty24,[.slot 13],e⟩,⟨3,3,iT,[.slot 14],e⟩]⟩ [xD (.exit 0) [sI,sI,sI,sB 256 0,sO 4,sB 768 0,sO 5,.b (.cell [.d ty67,.d ty57,.d ty31,.d ty79] e),.b (.cell [.d .str,.d iT,.d ty15,.d iT,.d iT,.d .bool] e),.b (.lst 59 ty9 e),.b (.lst 148 ty24 e)] ⟨[1,2,3,4,10,12,13],[256,768],[⟨4,59,ty9,[.slot 10],e⟩,⟨5,148,ty24,[.slot 13],e⟩]⟩] (Pw.u8 Pw.unc9 (Pw.j3V)),lD 2 [sI,sI,sI,sB 256 0,sO 6,sB 768 0,sO 7,sI,.b (.cell [.d ty67,.d ty57,.d ty31,.d ty79] e),.b (.cell [.d .str,.d iT,.d ty15,.d iT,.d iT,.d .bool] e),.b (.lst 59 ty9 e),.b (.lst 148 ty24 e)] ⟨[1,2,3,4,10,12,13,16],[256,768],[⟨6,59,ty9,[.slot 10],e⟩,⟨7,148,ty24,[.slot 13],e⟩]⟩ [xD (.exit 2) [sI,sI,sI,sB 256 0,sO 8,sB 768 0,sO 9,.b (.cell [.d ty67,.d ty57,.d ty31,.d ty79] e),.b (.cell [.d .str,.d iT,.d ty15,.d iT,.d iT,.d .bool] e),.b (.lst 59 ty9 e),.b (.lst 148 ty24 e)] ⟨[1,2,3,4,10,12,13],[256,768],[⟨8,59,ty9,[.slot 10],e⟩,⟨9,148,ty24,[.slot 13],e⟩]⟩] (Pw.u8 Pw.unc8 (Pw.j3W)),lD 4 [sI,sI,sI,sB 256 0,sO 10,sO 11,sI,.b (.cell [.d ty67,.d ty57,.d ty31,.d ty79] e),.b (.lst 148 ty24 e),.b (.lst 59 ty9 e)] ⟨[1,2,3,4,13,19,21],[256],[⟨10,148,ty24,[.slot 13],e⟩,⟨11,59,ty9,[.slot 19],e⟩]⟩ [xD (.exit 4) [sI,sI,sI,sB 256 0,sO 12,.b (.cell [.d ty67,.d ty57,.d ty31,.d ty79] e),.b (.lst 148 ty24 e)] ⟨[1,2,3,4,13],[256],[⟨12,148,ty24,[.slot 13],e⟩]⟩] (Pw.u8 Pw.unc2 (Pw.j3X)),lD 6 [sI,sO 13,sD ty45,sI,.b (.lst 148 ty24 e)] ⟨[1,13,22,23],[],[⟨13,148,ty24,[.slot 13],e⟩]⟩ [xD (.exit 6) [sO 14,.b (.lst 148 ty24 e)] ⟨[13],[],[⟨14,148,ty24,[.slot 13],e⟩]⟩] (Pw.unc4 (Pw.j3Y))] 40 [.v ty85,.v iT,.v iT,.v iT] [.own 148 ty29,.v iT] [] (Pw.unc4 Pw.j3h) func40 [jmp,jkP,jsc,jqJ,jv2,jp5]
def jqM:CKt:=
 cQ tb {} [lD 0 [sD ty29,sD ty29,sI,sI] ⟨[0,1,12,13],[],[]⟩ [xD .ret [sD .bool] ⟨[4],[],[]⟩,xD (.exit 0) [] ⟨[],[],[]⟩] (Pw.unc4 (Pw.j6m))] 43 [.v ty29,.v ty29] [.v .bool] [] (Pw.unc2 Pw.jeX) func43
def jmt:CKt:=
 cQ tb {} [] 46 [.v ty85,.v iT,.v iT,.v .bool] [.v .bool] [] (Pw.unc4 Pw.jam) func46 [jmJ,jty]
def jqN:CKt:=
 cQ tb {} [lD 1 [sI,sI,sB 192 0,sO 1,sI,sI,.b (.cell [.d ty67,.d ty57,.d ty31,.d ty79] e),.b (.lst 148 ty24 e)] ⟨[1,2,3,10,30,31],[192],[⟨1,148,ty24,[.slot 10],e⟩]⟩ [xD .ret [.s (.one (.nil)),sI] ⟨[6,7],[],[]⟩,xD (.exit 1) [sO 2,.b (.lst 148 ty24 e)] ⟨[10],[],[⟨2,148,ty24,[.slot 10],e⟩]⟩] (Pw.unc9 (Pw.j6n))] 47 [.v ty85,.v iT,.v iT] [.own 148 ty29,.v iT] [] (Pw.unc3 Pw.jeY) func47 [jmx,jgU,j1v,j9E]
def jwY:CKt:=
 cQ tb {mvf:=[98]} [lD 0 [sI,sI,sB 192 0,sO 1,sI,.b (.cell [.d ty67,.d ty57,.d ty31,.d ty79] e),.b (.lst 148 ty24 e)] ⟨[1,2,3,8,9],[192],[⟨1,148,ty24,[.slot 8],e⟩]⟩ [xD .ret [.s (.one (.nil)),sI] ⟨[6,7],[],[]⟩,xD (.exit 0) [sO 2,.b (.lst 148 ty24 e)] ⟨[8],[],[⟨2,148,ty24,[.slot 8],e⟩]⟩] (Pw.unc8 (Pw.j8w)),lD 2 [sI,sI,sB 192 0,sO 3,sI,sO 4,sI,.b (.cell [.d ty67,.d ty57,.d ty31,.d ty79] e),.b (.lst 148 ty24 e),.b (.lst 148 ty24 e)] ⟨[1,2,3,8,9,10,12],[192],[⟨3,148,ty24,[.slot 8],e⟩,⟨4,148,ty24,[.slot 10],e⟩]⟩ [xD (.exit 2) [sI,sI,sB 192 0,sO 5,sI,.b (.cell [.d ty67,.d ty57,.d ty31,.d ty79] e),.b (.lst 148 ty24 e)] ⟨[1,2,3,8,9],[192],[⟨5,148,ty24,[.slot 8],e⟩]⟩] (Pw.u8 Pw.unc2 (Pw.j8v))] 48 [.v ty85,.v iT,.v iT] [.own 148 ty29,.v iT] [] (Pw.unc3 Pw.jmm) func48 [jfE,jb6,jqJ,jg5]
def jl3:CKt:=
 cQ tb {} [] 107 [.ref [(.list iT),iT]] [.v ty9] [.ref [(.list iT),iT]] (Pw.unc2 Pw.jbn) func107 [j17]
def jqO:CKt:=
 cQ tb {} [lD 0 [sD ty15,sO 1,sO 2,sO 3,sI,.b (.lst 3 iT e),.b (.lst 4294967462 ty9 e),.b (.lst 4294967462 ty9 e)] ⟨[0,4,5,6,7],[],[⟨1,3,iT,[.slot 4],e⟩,⟨2,4294967462,ty9,[.slot 5],e⟩,⟨3,4294967462,ty9,[.slot 6],e⟩]⟩ [xD .ret [.s (.one (.nil)),sI] ⟨[2,3],[],[]⟩,xD (.exit 0) [sO 4,sO 5,sO 6,.b (.lst 3 iT e),.b (.lst 4294967462 ty9 e),.b (.lst 4294967462 ty9 e)] ⟨[4,5,6],[],[⟨4,3,iT,[.slot 4],e⟩,⟨5,4294967462,ty9,[.slot 5],e⟩,⟨6,4294967462,ty9,[.slot 6],e⟩]⟩] (Pw.unc5 (Pw.j6o)),lD 2 [sO 7,sO 8,sO 9,sO 10,sI,sI,.b (.lst 3 iT e),.b (.lst 4294967462 ty9 e),.b (.lst 4294967462 ty9 e),.b (.lst 59 ty9 e)] ⟨[4,5,6,9,10,11],[],[⟨7,3,iT,[.slot 4],e⟩,⟨8,4294967462,ty9,[.slot 5],e⟩,⟨9,4294967462,ty9,[.slot 6],e⟩,⟨10,59,ty9,[.slot 9],e⟩]⟩ [xD (.exit 2) [sO 11,.b (.lst 59 ty9 e)] ⟨[9],[],[⟨11,59,ty9,[.slot 9],e⟩]⟩] (Pw.unc6 (Pw.jdZ))] 108 [.v ty15] [.own 59 ty15,.v iT] [] (λh=>Pw.jhr h) func108 [jhu]
def jmu:CKt:=
 cQ tb {} [lD 0 [sB 0 0,sO 1,sI,.b (.cell [.d (.list iT),.d iT] e),.b (.lst 59 ty9 e)] ⟨[0,3,4],[0],[⟨1,59,ty9,[.slot 3],e⟩]⟩ [xD (.exit 0) [sO 2,.b (.cell [.d (.list iT),.d iT] e),.b (.lst 59 ty9 e)] ⟨[3],[0],[⟨2,59,ty9,[.slot 3],e⟩]⟩] (Pw.unc4 (Pw.j4z))] 49 [.ref [(.list iT),iT]] [.own 59 ty15] [.ref [(.list iT),iT]] (Pw.unc2 Pw.jcv) func49 [j17,jl3,jqO]
end Go.Proofs.Pk
