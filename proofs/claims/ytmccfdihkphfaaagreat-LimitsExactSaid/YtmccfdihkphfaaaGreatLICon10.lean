/- Contracts: each given function is its plain function, printed by a program. -/
import Derived.Test.YtmccfdihkphfaaaGreatLICon9
open Bool renaming false->e
noncomputable section
open Go Go.Lft
set_option linter.unusedVariables false
set_option maxRecDepth 100000
namespace Go.Proofs.Pk
open Tryz
def jmp:CKt:=
 cQ tb {mvf:=[154]} [lD 0 [sD ty15,sI,sI,sB 256 0,sO 1,sO 2,sI,.b (.cell [.d .str,.d iT,.d ty59] e),.b (.lst 201 ty9 e),.b (.lst 59 ty9 e)] ⟨[1,2,3,4,10,12,13],[256],[⟨1,201,ty9,[.slot 10],e⟩,⟨2,59,ty9,[.slot 12],e⟩]⟩ [xD (.exit 0) [sO 3,.b (.lst 59 ty9 e)] ⟨[12],[],[⟨3,59,ty9,[.slot 12],e⟩]⟩] (Pw.unc9 (Pw.j6O))] 99 [.v ty66,.v ty15,.v iT,.v iT] [.own 59 ty15,.v iT] [] (Pw.unc4 Pw.j7x) func99 [j5u,jfD,jb6,jso,jv8]
def jmq:CKt:=
 cQ tb {} [lD 0 [sB 128 0,sB 192 0,sO 1,sO 2,sI,.b (.cell [.d .str,.d iT,.d ty59] e),.b (.cell [.d iT,.d iT] e),.b (.lst 201 ty9 e),.b (.lst 3 iT e)] ⟨[2,3,6,8,9],[128,192],[⟨1,201,ty9,[.slot 6],e⟩,⟨2,3,iT,[.slot 8],e⟩]⟩ [xD (.exit 0) [sO 3,.b (.lst 3 iT e)] ⟨[8],[],[⟨3,3,iT,[.slot 8],e⟩]⟩] (Pw.unc8 (Pw.j4y))] 244 [.v ty66,.v ty9] [.own 3 (.list iT),.v iT] [] (Pw.unc2 Pw.j8N) func244 [jhw,j5u,jmL]
def juV:CKt:=
 cQ tb {dw:=[(9,dz [(11,[4416]),(0,[4480,1])]),(24,dz [(14,[8384])])]} [lD 0 [sB 256 0,sB 320 0,sO 1,sO 2,sI,.b (.cell [.d ty67,.d ty57,.d ty31,.d ty79] e),.b (.cell [.d .str,.d iT,.d iT,.d iT,.d iT,.d iT,.d (.list iT),.d ty15,.d iT,.d iT] e),.b (.lst 3 iT e),.b (.lst 59 ty9 e)] ⟨[4,5,10,12,14],[256,320],[⟨1,3,iT,[.slot 10],e⟩,⟨2,59,ty9,[.slot 12],e⟩]⟩ [xD (.exit 0) [sB 256 0,sB 320 0,sO 3,.b (.cell [.d ty67,.d ty57,.d ty31,.d ty79] e),.b (.cell [.d .str,.d iT,.d iT,.d iT,.d iT,.d iT,.d (.list iT),.d ty15,.d iT,.d iT] e),.b (.lst 3 iT e)] ⟨[4,5,10],[256,320],[⟨3,3,iT,[.slot 10],e⟩]⟩] (Pw.u8 Pw.unc9 (Pw.j7y)),lD 2 [sB 256 0,sO 4,sB 960 0,sO 5,sI,.b (.cell [.d ty67,.d ty57,.d ty31,.d ty79] e),.b (.cell [.d .str,.d iT,.d (.list iT)] e),.b (.lst 3 iT e),.b (.lst 201 ty9 e)] ⟨[4,10,15,16,18],[256,960],[⟨4,3,iT,[.slot 10],e⟩,⟨5,201,ty9,[.slot 16],e⟩]⟩ [xD (.exit 2) [sB 256 0,sO 6,sB 960 0,.b (.cell [.d ty67,.d ty57,.d ty31,.d ty79] e),.b (.cell [.d .str,.d iT,.d (.list iT)] e),.b (.lst 3 iT e)] ⟨[4,10,15],[256,960],[⟨6,3,iT,[.slot 10],e⟩]⟩] (Pw.u8 Pw.unc2 (Pw.j7z)),lD 4 [sB 256 0,sO 7,sB 960 0,sI,.b (.cell [.d ty67,.d ty57,.d ty31,.d ty79] e),.b (.cell [.d .str,.d iT,.d (.list iT)] e),.b (.lst 3 iT e)] ⟨[4,10,15,19],[256,960],[⟨7,3,iT,[.slot 10],e⟩]⟩ [xD (.exit 4) [sO 8,.b (.lst 3 iT e)] ⟨[10],[],[⟨8,3,iT,[.slot 10],e⟩]⟩] (Pw.unc9 (Pw.j7A)),lD 6 [sB 256 0,sO 9,sB 960 0,sI,sI,.b (.cell [.d ty67,.d ty57,.d ty31,.d ty79] e),.b (.cell [.d .str,.d iT,.d (.list iT)] e),.b (.lst 3 iT e)] ⟨[4,10,15,19,20],[256,960],[⟨9,3,iT,[.slot 10],e⟩]⟩ [xD (.exit 6) [sB 256 0,sO 10,sB 960 0,sI,.b (.cell [.d ty67,.d ty57,.d ty31,.d ty79] e),.b (.cell [.d .str,.d iT,.d (.list iT)] e),.b (.lst 3 iT e)] ⟨[4,10,15,19],[256,960],[⟨10,3,iT,[.slot 10],e⟩]⟩] (Pw.u8 Pw.unc2 (Pw.j5U))] 182 [.v ty85,.v ty73,.v iT,.v iT] [.own 3 (.list iT)] [] (Pw.unc4 Pw.jje) func182 [j5u,jmO,jmp,jmq]
noncomputable def jcx(g:HL [(.list iT)]->Option (HL [(.list iT)])):Con:=⟨102,[.v (.list iT)],[(.list iT)],⟨[.own 3 (.list iT)],[]⟩,[(.list iT)],g⟩
noncomputable def juW(g:HL [(.list iT)]->Option (HL [(.list iT)])):FnD where
 N:=88
 np:=1
 cs:=[jcx g]
 ds:=[⟨0,[sO 1000000,sO 1000001,sO 1000002,sI,sI,.b (.lst 3 iT e),.b (.lst 3 iT e),.b (.lst 3 iT e)],[iT,iT,(.list iT),(.list iT),(.list iT)],[⟨.exit 0,[sO 1500100,.b (.lst 3 iT e)],[(.list iT)]⟩],Pw.unc5 (Pw.j7B (λv0=>g v0))⟩]
 keep:=[(0,⟨[3,4,5,6,7],[],[⟨1000000,3,iT,[.slot 3],e⟩,⟨1000001,3,iT,[.slot 4],e⟩,⟨1000002,3,iT,[.slot 5],e⟩]⟩)]
 keepX:=[(0,.exit 0,⟨[3],[],[⟨1500100,3,iT,[.slot 3],e⟩]⟩)]
 ro:=[true]
 dw:=[(4,[[],[],[],[],[],[1280],[],[],[],[],[],[1664],[],[]])]
theorem jp3(g:HL [(.list iT)]->Option (HL [(.list iT)]))(hg:OKc (jcx g)):OKc (jcx (Pw.j6b g)):=
 cOf jqz jis (juW g) (jcx (Pw.j6b g)) func102 (And.intro hg trivial) (And.intro (λh=>by kernel_rfl) trivial)
def jhu:CKt:=
 ⟨⟨102,[.v (.list iT)],[(.list iT)],⟨[.own 3 (.list iT)],[]⟩,[(.list iT)],λh=>Pw.jco h⟩,jtv (f:=102) (ps:=[.v (.list iT)]) (ts:=[(.list iT)]) (rp:=⟨[.own 3 (.list iT)],[]⟩) (rs:=[(.list iT)]) (B:=Pw.j6b) jp3⟩
def jjs:CKt:=
 cQ tb {} [lD 0 [sI,sI,sO 1,sO 2,sI,.b (.lst 3 iT e),.b (.lst 3 iT e)] ⟨[1,2,7,8,9],[],[⟨1,3,iT,[.slot 7],e⟩,⟨2,3,iT,[.slot 8],e⟩]⟩ [xD (.exit 0) [sI,sI,sO 3,.b (.lst 3 iT e)] ⟨[1,2,7],[],[⟨3,3,iT,[.slot 7],e⟩]⟩] (Pw.unc5 (Pw.j5F))] 151 [.v (.list iT),.v iT,.v iT] [.own 3 (.list iT)] [] (Pw.unc3 Pw.jdf) func151 [jhu]
def juX:CKt:=
 cQ tb {dw:=[(6,dz [(9,[2176]),(0,[2240,1])]),(10,dz [(13,[3584]),(0,[3648,2])])]} [lD 0 [sI,sI,sB 256 0,sB 576 0,sO 1,sI,.b (.cell [.d ty67,.d ty57,.d ty31,.d ty79] e),.b (.cell [.d .str,.d ty74,.d ty45] e),.b (.lst 3 iT e)] ⟨[2,3,4,9,10,11],[256,576],[⟨1,3,iT,[.slot 10],e⟩]⟩ [xD (.exit 0) [sI,sI,sB 576 0,sO 3,.b (.cell [.d .str,.d ty74,.d ty45] e),.b (.lst 3 iT e)] ⟨[2,3,9,10],[576],[⟨3,3,iT,[.slot 10],e⟩]⟩] (Pw.u8 Pw.unc3 (Pw.j7C)),lD 2 [sI,sI,sB 576 0,sO 2,sI,.b (.cell [.d .str,.d ty74,.d ty45] e),.b (.lst 3 iT e)] ⟨[2,3,9,10,12],[576],[⟨2,3,iT,[.slot 10],e⟩]⟩ [xD (.exit 2) [sI,sI,sO 4,.b (.lst 3 iT e)] ⟨[2,3,10],[],[⟨4,3,iT,[.slot 10],e⟩]⟩] (Pw.unc7 (Pw.j7D))] 125 [.v ty85,.v iT,.v iT,.v iT] [.own 3 (.list iT)] [] (Pw.unc4 Pw.jlp) func125 [juV,jjs]
def jsb:CKt:=
 cQ tb {} [] 295 [.v ty66,.v ty73,.v iT] [.v iT,.v iT] [] (Pw.unc3 Pw.jgL) func295 [jmK,jmN]
def jqF:CKt:=
 cQ tb {} [] 160 [.v ty66,.v iT] [.v iT,.v iT] [] (Pw.unc2 Pw.jeQ) func160 [jfF,jkU]
def jqG:CKt:=
 cQ tb {} [lD 0 [sD ty15,sI,sI] ⟨[0,1,5],[],[]⟩ [xD .ret [sD .bool] ⟨[4],[],[]⟩,xD (.exit 0) [] ⟨[],[],[]⟩] (Pw.unc3 (Pw.j6c))] 161 [.v ty15,.v iT] [.v .bool] [] (Pw.unc2 Pw.jhm) func161
def jty:CKt:=
 cQ tb {} [] 106 [.v ty66,.v ty15,.v iT] [.v .bool] [] (Pw.unc3 Pw.jnY) func106 [jfD,jqF,jqG]
def juY:CKt:=
 cQ tb {} [lD 0 [sB 256 0,sI,sB 704 0,sB 768 0,sD .bool,sI,.b (.cell [.d .str,.d iT,.d iT,.d iT,.d iT,.d iT,.d (.list iT),.d ty15,.d iT,.d iT] e),.b (.cell [.d .str,.d iT,.d (.list iT)] e),.b (.cell [.d iT,.d iT] e)] ⟨[4,9,11,12,14,15],[256,704,768],[]⟩ [xD (.exit 0) [sB 256 0,sI,sD .bool,.b (.cell [.d .str,.d iT,.d iT,.d iT,.d iT,.d iT,.d (.list iT),.d ty15,.d iT,.d iT] e)] ⟨[4,9,14],[256],[]⟩] (Pw.u8 (Pw.u8 Pw.unc2) (Pw.j7E))] 242 [.v ty85,.v ty73,.v iT] [.v iT,.v .bool] [] (Pw.unc3 Pw.jjf) func242 [jfF,jsb,jty]
def jwU:CKt:=
 cQ tb {} [] 180 [.v ty85,.v ty73,.v iT] [.v iT] [] (Pw.unc3 Pw.jmk) func180 [juY]
def juZ:CKt:=
 cQ tb {} [lD 0 [sI,sI,sB 192 0,sI,.b (.cell [.d .str,.d ty74,.d ty45] e)] ⟨[1,2,3,7],[192],[]⟩ [xD .ret [sD .bool] ⟨[6],[],[]⟩,xD (.exit 0) [] ⟨[],[],[]⟩] (Pw.unc6 (Pw.j7F))] 181 [.v ty78,.v iT,.v iT] [.v .bool] [] (Pw.unc3 Pw.jlq) func181
def jwV:CKt:=
 cQ tb {} [lD 0 [sI,sB 192 0,sB 512 0,sI,.b (.cell [.d ty67,.d ty57,.d ty31,.d ty79] e),.b (.cell [.d .str,.d ty74,.d ty45] e)] ⟨[2,3,8,9],[192,512],[]⟩ [xD .ret [sI,sI] ⟨[6,7],[],[]⟩,xD (.exit 0) [] ⟨[],[],[]⟩] (Pw.unc9 (Pw.j8s))] 123 [.v ty85,.v iT,.v iT] [.v iT,.v iT] [] (Pw.unc3 Pw.joX) func123 [jwU,juZ]
def jv0:CKt:=
 cQ tb {} [lD 0 [sD ty45,sI,sI,sI] ⟨[0,1,2,7],[],[]⟩ [xD (.exit 0) [sI] ⟨[1],[],[]⟩] (Pw.unc4 (Pw.j7G))] 124 [.v ty45,.v iT,.v iT] [.v iT] [] (Pw.unc3 Pw.joY) func124
def jwW:CKt:=
 cQ tb {} [] 64 [.v ty85,.v iT,.v iT] [.v iT] [] (Pw.unc3 Pw.jml) func64 [jwV,jv0]
def jqH:CKt:=
 cQ tb {} [] 126 [.mv 123 ty29,.v ty24] [.own 123 ty29] [] (Pw.unc2 Pw.jho) func126
def jqI:CKt:=
 cQ tb {dw:=[(6,dz [(18,[2688,1])])],mvf:=[126]} [lD 0 [sI,sB 256 0,sO 2,sO 1,sI,.b (.cell [.d ty67,.d ty57,.d ty31,.d ty79] e),.b (.lst 3 iT e),.b (.lst 123 ty24 e)] ⟨[1,4,9,10,11],[256],[⟨2,3,iT,[.slot 9],e⟩,⟨1,123,ty24,[.slot 10],e⟩]⟩ [xD (.exit 0) [sO 3,.b (.lst 123 ty24 e)] ⟨[10],[],[⟨3,123,ty24,[.slot 10],e⟩]⟩] (Pw.unc8 (Pw.j6d))] 65 [.v ty85,.v iT,.v iT,.v iT] [.own 123 ty29] [] (Pw.unc4 Pw.jhp) func65 [juX,jwW,jqH]
def jhU:CKt:=
 cQ tb {} [] 19 [.v ty85,.v iT,.v iT,.v iT] [.own 123 ty29,.v iT] [] (Pw.unc4 Pw.jbK) func19 [jsm,jqI]
def jkP:CKt:=
 cQ tb {dw:=[(16,dz [(11,[4736]),(0,[4800,1])])]} [lD 0 [sI,sI,sI,sB 256 0,sO 2,sO 3,sO 4,sI,.b (.cell [.d ty67,.d ty57,.d ty31,.d ty79] e),.b (.lst 3 iT e),.b (.lst 4294967462 ty9 e),.b (.lst 4294967462 ty9 e)] ⟨[1,2,3,4,11,12,13,14],[256],[⟨2,3,iT,[.slot 11],e⟩,⟨3,4294967462,ty9,[.slot 12],e⟩,⟨4,4294967462,ty9,[.slot 13],e⟩]⟩ [xD .ret [.s (.one (.nil)),sI] ⟨[8,9],[],[]⟩,xD (.exit 0) [sO 5,sO 6,sO 7,.b (.lst 3 iT e),.b (.lst 4294967462 ty9 e),.b (.lst 4294967462 ty9 e)] ⟨[11,12,13],[],[⟨5,3,iT,[.slot 11],e⟩,⟨6,4294967462,ty9,[.slot 12],e⟩,⟨7,4294967462,ty9,[.slot 13],e⟩]⟩] (Pw.u8 Pw.unc3 (Pw.j6f)),lD 2 [sI,sI,sI,sB 256 0,sO 1,sO 8,sO 9,sI,sO 10,sI,.b (.cell [.d ty67,.d ty57,.d ty31,.d ty79] e),.b (.lst 3 iT e),.b (.lst 4294967462 ty9 e),.b (.lst 4294967462 ty9 e),.b (.lst 123 ty24 e)] ⟨[1,2,3,4,11,12,13,14,15,17],[256],[⟨1,3,iT,[.slot 11],e⟩,⟨8,4294967462,ty9,[.slot 12],e⟩,⟨9,4294967462,ty9,[.slot 13],e⟩,⟨10,123,ty24,[.slot 15],e⟩]⟩ [xD (.exit 2) [sI,sI,sI,sB 256 0,sO 11,sO 12,sO 13,sI,.b (.cell [.d ty67,.d ty57,.d ty31,.d ty79] e),.b (.lst 3 iT e),.b (.lst 4294967462 ty9 e),.b (.lst 4294967462 ty9 e)] ⟨[1,2,3,4,11,12,13,14],[256],[⟨11,3,iT,[.slot 11],e⟩,⟨12,4294967462,ty9,[.slot 12],e⟩,⟨13,4294967462,ty9,[.slot 13],e⟩]⟩] (Pw.u8 Pw.unc5 (Pw.j6e)),lD 4 [sO 14,sO 15,sO 65,sO 66,sI,sI,.b (.lst 3 iT e),.b (.lst 4294967462 ty9 e),.b (.lst 4294967462 ty9 e),.b (.lst 59 ty9 e)] ⟨[11,12,13,18,19,20],[],[⟨14,3,iT,[.slot 11],e⟩,⟨15,4294967462,ty9,[.slot 12],e⟩,⟨65,4294967462,ty9,[.slot 13],e⟩,⟨66,59,ty9,[.slot 18],e⟩]⟩ [xD (.exit 4) [sO 67,.b (.lst 59 ty9 e)] ⟨[18],[],[⟨67,59,ty9,[.slot 18],e⟩]⟩] (Pw.unc6 (Pw.j6h))] 42 [.v ty85,.v iT,.v iT,.v iT] [.own 59 ty15,.v iT] [] (Pw.unc4 Pw.j9L) func42 [jmJ,jhu,jhU]
end Go.Proofs.Pk
