/- Contracts: each given function is its plain function, printed by a program. -/
import Derived.Test.YtgepoeafaklbjaaGreatPFCon4
open Bool renaming false->e
noncomputable section
open Go Go.Lft
set_option linter.unusedVariables false
set_option maxRecDepth 100000
namespace Go.Proofs.Pk
open Tryz
def jlX:CKt:=
 cQ tb {} [lD 0 [sI,sO 1,sD ty43,sI,sI,.b (.lst 42 ty7 e)] ⟨[1,5,9,10,11],[],[⟨1,42,ty7,[.slot 5],e⟩]⟩ [xD (.exit 0) [sO 2,.b (.lst 42 ty7 e)] ⟨[5],[],[⟨2,42,ty7,[.slot 5],e⟩]⟩] (Pw.unc5 (Pw.j4b))] 253 [.v ty76,.v iT] [.own 42 ty12] [] (Pw.unc2 Pw.j7n) func253 [j8W]
def jlh:CKt:=
 cQ tb {dw:=[(9,dz [(6,[2432]),(0,[2432,1])])]} [lD 0 [sB 128 0,sO 1,sO 2,sD ty25,sI,sI,.b (.cell [.d .str,.d ty72,.d ty43] e),.b (.lst 4294967616 ty27 e),.b (.lst 128 ty20 e)] ⟨[2,5,6,14,15,16],[128],[⟨1,4294967616,ty27,[.slot 5],e⟩,⟨2,128,ty20,[.slot 6],e⟩]⟩ [xD (.exit 0) [sO 3,.b (.lst 128 ty20 e)] ⟨[6],[],[⟨3,128,ty20,[.slot 6],e⟩]⟩] (Pw.unc8 (Pw.j3D)),lD 2 [sB 128 0,sO 4,sO 5,sB 512 0,sD ty25,sI,sI,sO 6,sI,sI,.b (.cell [.d .str,.d ty72,.d ty43] e),.b (.cell [.d iT,.d iT,.d iT] e),.b (.lst 4294967616 ty27 e),.b (.lst 128 ty20 e),.b (.lst 42 ty7 e)] ⟨[2,5,6,8,14,15,16,49,50,51],[128,512],[⟨4,4294967616,ty27,[.slot 5],e⟩,⟨5,128,ty20,[.slot 6],e⟩,⟨6,42,ty7,[.slot 49],e⟩]⟩ [xD (.exit 2) [sB 128 0,sO 7,sO 8,sD ty25,sI,sI,.b (.cell [.d .str,.d ty72,.d ty43] e),.b (.lst 4294967616 ty27 e),.b (.lst 128 ty20 e)] ⟨[2,5,6,14,15,16],[128],[⟨7,4294967616,ty27,[.slot 5],e⟩,⟨8,128,ty20,[.slot 6],e⟩]⟩] (Pw.u8 Pw.unc6 (Pw.j3C))] 213 [.v ty76,.v ty25] [.own 128 ty25] [] (Pw.unc2 Pw.j9b) func213 [jdg,jlX]
def jlY:CKt:=
 cQ tb {dw:=[(4,dz [(28,[512]),(0,[512])])]} [lD 0 [sD ty25,sD ty12,sO 1,sI,sI,.b (.lst 128 ty20 e)] ⟨[0,1,5,6,7],[],[⟨1,128,ty20,[.slot 5],e⟩]⟩ [xD (.exit 0) [sO 2,.b (.lst 128 ty20 e)] ⟨[5],[],[⟨2,128,ty20,[.slot 5],e⟩]⟩] (Pw.unc5 (Pw.j5r))] 212 [.v ty25,.v ty12] [.own 128 ty25] [] (Pw.unc2 Pw.jcK) func212
def jnP:CKt:=
 cQ tb {} [lD 0 [sO 1,sD ty25,sI,sI,.b (.lst 42 ty7 e)] ⟨[3,6,7,8],[],[⟨1,42,ty7,[.slot 3],e⟩]⟩ [xD (.exit 0) [sO 2,.b (.lst 42 ty7 e)] ⟨[3],[],[⟨2,42,ty7,[.slot 3],e⟩]⟩] (Pw.unc4 (Pw.j4E))] 216 [.v ty25] [.own 42 ty12] [] (λh=>Pw.jbU h) func216 [j8W]
def jfN:CKt:=
 cQ tb {} [] 218 [.v ty20,.v ty20] [.v iT] [] (Pw.unc2 Pw.j3h) func218
def j90:FnD where
 N:=14
 np:=2
 cs:=[jfN.1]
def j2E:CKt:=
 ⟨⟨217,[.rl 128 ty25,.clo 218 []],[ty25],⟨[],[.rl ty25]⟩,[ty25],λh=>Pw.j0x h⟩,jjW Tryz.sort217 (ty20) rfl 128 (by kernel_rfl) isAgg128 sizeOf128 _ 218 (enters_of func218 (by kernel_rfl) rfl) jqx jqy 217 rfl⟩
theorem jyc:ItOK Tryz.prog 252 e (ty71):=jDz <| jC7 jh5 func252 (fn:=Tryz.f252) (A0:=bwA Tryz.f252 0) (A1:=bwA Tryz.f252 1) (A2:=bwA Tryz.f252 2) (A3:=bwA Tryz.f252 3) (by kernel_rfl) (by kernel_rfl) (by kernel_rfl) (by kernel_rfl) (by kernel_rfl) (by kernel_rfl) (by kernel_rfl) (by kernel_rfl) (by kernel_rfl) (by kernel_rfl) (by kernel_rfl) ⟨(by kernel_rfl),(by kernel_rfl)⟩
 (λxs=>by kernel_rfl) (λi=>by kernel_rfl) (λi=>by kernel_rfl) (λxs i=>by kernel_rfl) (λb i=>by kernel_rfl)
def jic:CKt:=
 cQ tb {dw:=[(7,dz [(5,[2112]),(0,[2176]),(1,[2304])]),(9,dz [(2,[2688]),(0,[2752]),(0,[576])])],bw:=[(252,e,ty71)]} [lD 0 [sI,sB 256 0,sB 320 0,sB 384 0,sB 448 0,sB 576 0,sB 640 0,sC 252 [.p [ty72]],.b (.cell [.d ty65,.d ty55,.d ty28,.d ty77,.d ty32] e),.b (.cell [.d .str,.d ty72,.d ty43] e),.b (.cell [.d iT] e),.b (.cell [.d iT] e),.b (.cell [.ol 1] e),.b (.cell [.ol 2] e),.b (.lst 42 ty7 e),.b (.lst 128 ty20 e)] ⟨[4,5,6,7,9,10,25],[256,320,384,448,576,640],[⟨1,42,ty7,[.cell 576 0],e⟩,⟨2,128,ty20,[.cell 640 0],e⟩]⟩ [xD .normal [sB 576 0,sB 640 0,.b (.cell [.ol 3] e),.b (.cell [.ol 4] e),.b (.lst 42 ty7 e),.b (.lst 128 ty20 e)] ⟨[9,10],[576,640],[⟨3,42,ty7,[.cell 576 0],e⟩,⟨4,128,ty20,[.cell 640 0],e⟩]⟩] (Pw.u8 Pw.unc6 (Pw.j2p)),lD 2 [sB 640 0,sO 5,sI,sI,.b (.cell [.ol 6] e),.b (.lst 42 ty7 e),.b (.lst 128 ty20 e)] ⟨[10,44,45,46],[640],[⟨5,42,ty7,[.slot 44],e⟩,⟨6,128,ty20,[.cell 640 0],e⟩]⟩ [xD (.exit 2) [sB 640 0,.b (.cell [.ol 7] e),.b (.lst 128 ty20 e)] ⟨[10],[640],[⟨7,128,ty20,[.cell 640 0],e⟩]⟩] (Pw.unc4 (Pw.j2q))] 157 [.v ty85,.v ty76,.v iT,.v iT] [.own 128 ty25] [] (Pw.unc4 Pw.j4Q) func157 [j7Z,jdg,jfM,jgl,jlh,jlY,jnP,j2E] (hbw:=(And.intro jyc trivial))
def jli:CKt:=
 cQ tb {} [] 258 [.v iT] [.v .bool] [] (λh=>Pw.jbj h) func258
def jlZ:CKt:=
 cQ tb {} [] 219 [.v iT,.v iT] [.v .bool] [] (Pw.unc2 Pw.jcL) func219 [jli]
def jid:CKt:=
 cQ tb {} [] 220 [.v iT] [.v .bool] [] (λh=>Pw.j8o h) func220
def jb3:CKt:=
 cQ tb {} [lD 0 [sD (.list iT),sI,sI,sI,sI] ⟨[0,1,6,7,8],[],[]⟩ [xD (.exit 0) [sD (.list iT),sI,sI,sI] ⟨[0,1,6,7],[],[]⟩] (Pw.unc5 (Pw.j1v))] 158 [.v (.list iT),.v iT] [.v iT,.v .bool] [] (Pw.unc2 Pw.j2I) func158 [jlZ,jid]
def jnQ:CKt:=
 cQ tb {} [] 221 [.v ty41,.v iT] [.v .bool] [] (Pw.unc2 Pw.jgU) func221
def jqL:CKt:=
 cQ tb {} [lD 0 [sI,sI,sD ty43,sI,sI] ⟨[1,2,9,10,11],[],[]⟩ [xD (.exit 0) [sI] ⟨[1],[],[]⟩] (Pw.unc5 (Pw.j5H))] 159 [.v ty43,.v iT,.v iT] [.v iT] [] (Pw.unc3 Pw.jhF) func159 [jnQ]
def jaf:CKt:=
 cQ tb {} [lD 0 [sI,sI,sB 256 0,sB 320 0,sO 1,sD ty43,sI,sI,.b (.cell [.d ty65,.d ty55,.d ty28,.d ty77,.d ty32] e),.b (.cell [.d .str,.d ty72,.d ty43] e),.b (.lst 3 iT e)] ⟨[2,3,4,5,9,21,22,23],[256,320],[⟨1,3,iT,[.slot 9],e⟩]⟩ [xD (.exit 0) [sI,sI,sB 256 0,sB 320 0,sO 2,.b (.cell [.d ty65,.d ty55,.d ty28,.d ty77,.d ty32] e),.b (.cell [.d .str,.d ty72,.d ty43] e),.b (.lst 3 iT e)] ⟨[2,3,4,5,9],[256,320],[⟨2,3,iT,[.slot 9],e⟩]⟩] (Pw.u8 Pw.unc6 (Pw.j2J)),lD 2 [sB 320 0,sO 3,sO 4,sO 5,sI,sI,.b (.cell [.d .str,.d ty72,.d ty43] e),.b (.lst 3 iT e),.b (.lst 128 ty20 e),.b (.lst 128 ty20 e)] ⟨[5,12,13,43,44,45],[320],[⟨3,3,iT,[.slot 12],e⟩,⟨4,128,ty20,[.slot 13],e⟩,⟨5,128,ty20,[.slot 43],e⟩]⟩ [xD (.exit 2) [sO 6,.b (.lst 128 ty20 e)] ⟨[13],[],[⟨6,128,ty20,[.slot 13],e⟩]⟩] (Pw.unc8 (Pw.j2L)),lD 4 [sB 320 0,sO 7,sO 8,sB 960 0,sI,sI,sO 9,sI,sI,.b (.cell [.d .str,.d ty72,.d ty43] e),.b (.cell [.d iT,.d iT,.d iT] e),.b (.lst 3 iT e),.b (.lst 128 ty20 e),.b (.lst 128 ty20 e)] ⟨[5,12,13,15,16,18,43,44,45],[320,960],[⟨7,3,iT,[.slot 12],e⟩,⟨8,128,ty20,[.slot 13],e⟩,⟨9,128,ty20,[.slot 43],e⟩]⟩ [xD (.exit 4) [sB 320 0,sO 10,sO 11,sO 12,sI,sI,.b (.cell [.d .str,.d ty72,.d ty43] e),.b (.lst 3 iT e),.b (.lst 128 ty20 e),.b (.lst 128 ty20 e)] ⟨[5,12,13,43,44,45],[320],[⟨10,3,iT,[.slot 12],e⟩,⟨11,128,ty20,[.slot 13],e⟩,⟨12,128,ty20,[.slot 43],e⟩]⟩] (Pw.u8 Pw.unc5 (Pw.j2K))] 105 [.v ty85,.v ty76,.v iT,.v iT] [.own 128 ty25] [] (Pw.unc4 Pw.j1N) func105 [jle,jfM,jic,jb3,jqL]
def jag:CKt:=
 cQ tb {dw:=[(4,dz [(8,[2048])])]} [] 61 [.v ty83,.v iT,.v iT,.v iT] [.own 128 ty25,.v iT] [] (Pw.unc4 Pw.j4F) func61 [jnN,jaf]
def jm0:CKt:=
 cQ tb {} [lD 0 [sO 1,sD ty26,sI,sI,.b (.lst 81 ty7 e)] ⟨[3,6,7,8],[],[⟨1,81,ty7,[.slot 3],e⟩]⟩ [xD (.exit 0) [sO 2,.b (.lst 81 ty7 e)] ⟨[3],[],[⟨2,81,ty7,[.slot 3],e⟩]⟩] (Pw.unc4 (Pw.j5s))] 107 [.v ty26] [.own 81 ty12] [] (λh=>Pw.jcN h) func107
def jlj:CKt:=
 cQ tb {} [] 109 [.v ty21] [.v .bool] [] (λh=>Pw.jhH h) func109
def j77:CKt:=
 cQ tb {} [lD 0 [sD ty26,sC 109 [],sI,sI] ⟨[0,1,7,8],[],[]⟩ [xD .ret [sI] ⟨[4],[],[]⟩,xD (.exit 0) [] ⟨[],[],[]⟩] (Pw.unc3 (Pw.j0J))] 161 [.v ty26,.clo 109 []] [.v iT] [] (λh=>Pw.j1U h) func161 [jlj]
def j6q:CKt:=
 cQ tb {} [] 108 [.v ty26,.clo 109 []] [.v .bool] [] (λh=>Pw.j0W h) func108 [j77]
def jju:CKt:=
 cQ tb {} [] 62 [.v ty26] [.v iT] [] (λh=>Pw.jg5 h) func62 [jfF,jm0,j6q]
end Go.Proofs.Pk
