/- Contracts: each given function is its plain function, printed by a program. -/
import Derived.Test.YtlnljpfkgigljaaGreatPOCon4
open Bool renaming false->e
noncomputable section
open Go Go.Lft
set_option linter.unusedVariables false
set_option maxRecDepth 100000
namespace Go.Proofs.Pk
open Tryz
def jmu:CKt:=
 cQ tb {} [lD 0 [sI,sO 1,sD ty42,sI,sI,.b (.lst 99 ty6 e)] ⟨[1,5,9,10,11],[],[⟨1,99,ty6,[.slot 5],e⟩]⟩ [xD (.exit 0) [sO 2,.b (.lst 99 ty6 e)] ⟨[5],[],[⟨2,99,ty6,[.slot 5],e⟩]⟩] (Pw.unc5 (Pw.j4h))] 257 [.v ty75,.v iT] [.own 99 ty11] [] (Pw.unc2 Pw.j7v) func257 [j9a]
def jlM:CKt:=
 cQ tb {dw:=[(9,dz [(6,[2432]),(0,[2432,1])])]} [lD 0 [sB 128 0,sO 1,sO 2,sD ty24,sI,sI,.b (.cell [.d .str,.d ty71,.d ty42] e),.b (.lst 4294967617 ty26 e),.b (.lst 92 ty19 e)] ⟨[2,5,6,14,15,16],[128],[⟨1,4294967617,ty26,[.slot 5],e⟩,⟨2,92,ty19,[.slot 6],e⟩]⟩ [xD (.exit 0) [sO 3,.b (.lst 92 ty19 e)] ⟨[6],[],[⟨3,92,ty19,[.slot 6],e⟩]⟩] (Pw.unc8 (Pw.j3K)),lD 2 [sB 128 0,sO 4,sO 5,sB 512 0,sD ty24,sI,sI,sO 6,sI,sI,.b (.cell [.d .str,.d ty71,.d ty42] e),.b (.cell [.d iT,.d iT,.d iT] e),.b (.lst 4294967617 ty26 e),.b (.lst 92 ty19 e),.b (.lst 99 ty6 e)] ⟨[2,5,6,8,14,15,16,49,50,51],[128,512],[⟨4,4294967617,ty26,[.slot 5],e⟩,⟨5,92,ty19,[.slot 6],e⟩,⟨6,99,ty6,[.slot 49],e⟩]⟩ [xD (.exit 2) [sB 128 0,sO 7,sO 8,sD ty24,sI,sI,.b (.cell [.d .str,.d ty71,.d ty42] e),.b (.lst 4294967617 ty26 e),.b (.lst 92 ty19 e)] ⟨[2,5,6,14,15,16],[128],[⟨7,4294967617,ty26,[.slot 5],e⟩,⟨8,92,ty19,[.slot 6],e⟩]⟩] (Pw.u8 Pw.unc6 (Pw.j3J))] 213 [.v ty75,.v ty24] [.own 92 ty24] [] (Pw.unc2 Pw.j9p) func213 [jdE,jmu]
def jmv:CKt:=
 cQ tb {dw:=[(4,dz [(28,[512]),(0,[512])])]} [lD 0 [sD ty24,sD ty11,sO 1,sI,sI,.b (.lst 92 ty19 e)] ⟨[0,1,5,6,7],[],[⟨1,92,ty19,[.slot 5],e⟩]⟩ [xD (.exit 0) [sO 2,.b (.lst 92 ty19 e)] ⟨[5],[],[⟨2,92,ty19,[.slot 5],e⟩]⟩] (Pw.unc5 (Pw.j5x))] 212 [.v ty24,.v ty11] [.own 92 ty24] [] (Pw.unc2 Pw.jdb) func212
def jop:CKt:=
 cQ tb {} [lD 0 [sO 1,sD ty24,sI,sI,.b (.lst 99 ty6 e)] ⟨[3,6,7,8],[],[⟨1,99,ty6,[.slot 3],e⟩]⟩ [xD (.exit 0) [sO 2,.b (.lst 99 ty6 e)] ⟨[3],[],[⟨2,99,ty6,[.slot 3],e⟩]⟩] (Pw.unc4 (Pw.j4J))] 216 [.v ty24] [.own 99 ty11] [] (λh=>Pw.jcm h) func216 [j9a]
def jge:CKt:=
 cQ tb {} [] 218 [.v ty19,.v ty19] [.v iT] [] (Pw.unc2 Pw.j3h) func218
def j9e:FnD where
 N:=14
 np:=2
 cs:=[jge.1]
def j2I:CKt:=
 ⟨⟨217,[.rl 92 ty24,.clo 218 []],[ty24],⟨[],[.rl ty24]⟩,[ty24],λh=>Pw.j0A h⟩,jkq Tryz.sort217 (ty19) rfl 92 (by kernel_rfl) isAgg92 sizeOf92 _ 218 (enters_of func218 (by kernel_rfl) rfl) jr5 jr6 217 rfl⟩
theorem jz5:ItOK Tryz.prog 256 e (ty70):=jEU <| jDo jhx func256 (fn:=Tryz.f256) (A0:=bwA Tryz.f256 0) (A1:=bwA Tryz.f256 1) (A2:=bwA Tryz.f256 2) (A3:=bwA Tryz.f256 3) (by kernel_rfl) (by kernel_rfl) (by kernel_rfl) (by kernel_rfl) (by kernel_rfl) (by kernel_rfl) (by kernel_rfl) (by kernel_rfl) (by kernel_rfl) (by kernel_rfl) (by kernel_rfl) ⟨(by kernel_rfl),(by kernel_rfl)⟩
 (λxs=>by kernel_rfl) (λi=>by kernel_rfl) (λi=>by kernel_rfl) (λxs i=>by kernel_rfl) (λb i=>by kernel_rfl)
def jiD:CKt:=
 cQ tb {dw:=[(7,dz [(5,[2112]),(0,[2176]),(1,[2304])]),(9,dz [(2,[2688]),(0,[2752]),(0,[576])])],bw:=[(256,e,ty70)]} [lD 0 [sI,sB 256 0,sB 320 0,sB 384 0,sB 448 0,sB 576 0,sB 640 0,sC 256 [.p [ty71]],.b (.cell [.d ty64,.d ty54,.d ty27,.d ty76,.d ty31] e),.b (.cell [.d .str,.d ty71,.d ty42] e),.b (.cell [.d iT] e),.b (.cell [.d iT] e),.b (.cell [.ol 1] e),.b (.cell [.ol 2] e),.b (.lst 99 ty6 e),.b (.lst 92 ty19 e)] ⟨[4,5,6,7,9,10,25],[256,320,384,448,576,640],[⟨1,99,ty6,[.cell 576 0],e⟩,⟨2,92,ty19,[.cell 640 0],e⟩]⟩ [xD .normal [sB 576 0,sB 640 0,.b (.cell [.ol 3] e),.b (.cell [.ol 4] e),.b (.lst 99 ty6 e),.b (.lst 92 ty19 e)] ⟨[9,10],[576,640],[⟨3,99,ty6,[.cell 576 0],e⟩,⟨4,92,ty19,[.cell 640 0],e⟩]⟩] (Pw.u8 Pw.unc6 (Pw.j2t)),lD 2 [sB 640 0,sO 5,sI,sI,.b (.cell [.ol 6] e),.b (.lst 99 ty6 e),.b (.lst 92 ty19 e)] ⟨[10,44,45,46],[640],[⟨5,99,ty6,[.slot 44],e⟩,⟨6,92,ty19,[.cell 640 0],e⟩]⟩ [xD (.exit 2) [sB 640 0,.b (.cell [.ol 7] e),.b (.lst 92 ty19 e)] ⟨[10],[640],[⟨7,92,ty19,[.cell 640 0],e⟩]⟩] (Pw.unc4 (Pw.j2u))] 159 [.v ty84,.v ty75,.v iT,.v iT] [.own 92 ty24] [] (Pw.unc4 Pw.j4W) func159 [j8a,jdE,jgd,jgL,jlM,jmv,jop,j2I] (hbw:=(And.intro jz5 trivial))
def jlN:CKt:=
 cQ tb {} [] 262 [.v iT] [.v .bool] [] (λh=>Pw.jbF h) func262
def jmw:CKt:=
 cQ tb {} [] 219 [.v iT,.v iT] [.v .bool] [] (Pw.unc2 Pw.jdc) func219 [jlN]
def jiE:CKt:=
 cQ tb {} [] 220 [.v iT] [.v .bool] [] (λh=>Pw.j8A h) func220
def jbn:CKt:=
 cQ tb {} [lD 0 [sD (.list iT),sI,sI,sI,sI] ⟨[0,1,6,7,8],[],[]⟩ [xD (.exit 0) [sD (.list iT),sI,sI,sI] ⟨[0,1,6,7],[],[]⟩] (Pw.unc5 (Pw.j1y))] 160 [.v (.list iT),.v iT] [.v iT,.v .bool] [] (Pw.unc2 Pw.j2O) func160 [jmw,jiE]
def joq:CKt:=
 cQ tb {} [] 221 [.v ty40,.v iT] [.v .bool] [] (Pw.unc2 Pw.jhl) func221
def jri:CKt:=
 cQ tb {} [lD 0 [sI,sI,sD ty42,sI,sI] ⟨[1,2,9,10,11],[],[]⟩ [xD (.exit 0) [sI] ⟨[1],[],[]⟩] (Pw.unc5 (Pw.j5N))] 161 [.v ty42,.v iT,.v iT] [.v iT] [] (Pw.unc3 Pw.jia) func161 [joq]
def jau:CKt:=
 cQ tb {} [lD 0 [sI,sI,sB 256 0,sB 320 0,sO 1,sD ty42,sI,sI,.b (.cell [.d ty64,.d ty54,.d ty27,.d ty76,.d ty31] e),.b (.cell [.d .str,.d ty71,.d ty42] e),.b (.lst 3 iT e)] ⟨[2,3,4,5,9,21,22,23],[256,320],[⟨1,3,iT,[.slot 9],e⟩]⟩ [xD (.exit 0) [sI,sI,sB 256 0,sB 320 0,sO 2,.b (.cell [.d ty64,.d ty54,.d ty27,.d ty76,.d ty31] e),.b (.cell [.d .str,.d ty71,.d ty42] e),.b (.lst 3 iT e)] ⟨[2,3,4,5,9],[256,320],[⟨2,3,iT,[.slot 9],e⟩]⟩] (Pw.u8 Pw.unc6 (Pw.j2P)),lD 2 [sB 320 0,sO 3,sO 4,sO 5,sI,sI,.b (.cell [.d .str,.d ty71,.d ty42] e),.b (.lst 3 iT e),.b (.lst 92 ty19 e),.b (.lst 92 ty19 e)] ⟨[5,12,13,43,44,45],[320],[⟨3,3,iT,[.slot 12],e⟩,⟨4,92,ty19,[.slot 13],e⟩,⟨5,92,ty19,[.slot 43],e⟩]⟩ [xD (.exit 2) [sO 6,.b (.lst 92 ty19 e)] ⟨[13],[],[⟨6,92,ty19,[.slot 13],e⟩]⟩] (Pw.unc8 (Pw.j2R)),lD 4 [sB 320 0,sO 7,sO 8,sB 960 0,sI,sI,sO 9,sI,sI,.b (.cell [.d .str,.d ty71,.d ty42] e),.b (.cell [.d iT,.d iT,.d iT] e),.b (.lst 3 iT e),.b (.lst 92 ty19 e),.b (.lst 92 ty19 e)] ⟨[5,12,13,15,16,18,43,44,45],[320,960],[⟨7,3,iT,[.slot 12],e⟩,⟨8,92,ty19,[.slot 13],e⟩,⟨9,92,ty19,[.slot 43],e⟩]⟩ [xD (.exit 4) [sB 320 0,sO 10,sO 11,sO 12,sI,sI,.b (.cell [.d .str,.d ty71,.d ty42] e),.b (.lst 3 iT e),.b (.lst 92 ty19 e),.b (.lst 92 ty19 e)] ⟨[5,12,13,43,44,45],[320],[⟨10,3,iT,[.slot 12],e⟩,⟨11,92,ty19,[.slot 13],e⟩,⟨12,92,ty19,[.slot 43],e⟩]⟩] (Pw.u8 Pw.unc5 (Pw.j2Q))] 106 [.v ty84,.v ty75,.v iT,.v iT] [.own 92 ty24] [] (Pw.unc4 Pw.j2f) func106 [jlJ,jgd,jiD,jbn,jri]
def jav:CKt:=
 cQ tb {dw:=[(4,dz [(8,[2048])])]} [] 48 [.v ty82,.v iT,.v iT,.v iT] [.own 92 ty24,.v iT] [] (Pw.unc4 Pw.j5O) func48 [jon,jau]
def jmx:CKt:=
 cQ tb {} [lD 0 [sO 1,sD ty25,sI,sI,.b (.lst 73 ty6 e)] ⟨[3,6,7,8],[],[⟨1,73,ty6,[.slot 3],e⟩]⟩ [xD (.exit 0) [sO 2,.b (.lst 73 ty6 e)] ⟨[3],[],[⟨2,73,ty6,[.slot 3],e⟩]⟩] (Pw.unc4 (Pw.j4i))] 108 [.v ty25] [.own 73 ty11] [] (λh=>Pw.j93 h) func108
def jlO:CKt:=
 cQ tb {} [] 110 [.v ty20] [.v .bool] [] (λh=>Pw.jbG h) func110
def j7e:CKt:=
 cQ tb {} [lD 0 [sD ty25,sC 110 [],sI,sI] ⟨[0,1,7,8],[],[]⟩ [xD .ret [sI] ⟨[4],[],[]⟩,xD (.exit 0) [] ⟨[],[],[]⟩] (Pw.unc3 (Pw.j0a))] 163 [.v ty25,.clo 110 []] [.v iT] [] (λh=>Pw.j1b h) func163 [jlO]
def j6z:CKt:=
 cQ tb {} [] 109 [.v ty25,.clo 110 []] [.v .bool] [] (λh=>Pw.j0G h) func109 [j7e]
def jjY:CKt:=
 cQ tb {} [] 49 [.v ty25] [.v iT] [] (λh=>Pw.jc2 h) func49 [jg6,jmx,j6z]
end Go.Proofs.Pk
