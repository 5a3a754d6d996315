/- Contracts: each given function is its plain function, printed by a program. -/
import Derived.Test.YtgepoeafaklbjaaGreatPFCon10
open Bool renaming false->e,true->j
open And renaming intro->i
noncomputable section
open Go Go.Lft
set_option linter.unusedVariables false
set_option maxRecDepth 100000
namespace Go.Proofs.Pk
open Tryz
def jvH:CKt:=
 cQ tb {} [] 30 [.v ty83,.v iT,.v iT] [.v iT] [] (Pw.unc3 Pw.jqt) func30 [jye,jph]
def jl8:CKt:=
 cQ tb {} [] 13 [.v ty83,.v iT,.v iT] [.v iT] [] (Pw.unc3 Pw.jaY) func13 [jvH]
def jpi(x0:Option (HL [ty83])):FnD where
 N:=67
 np:=0
 cs:=[⟨14,[],[],⟨[.v ty83],[]⟩,[ty83],λ_=>x0⟩,jev.1,j5v.1,jcl.1,jdh.1,jl8.1]
theorem jpj(x0:Option (HL [ty83]))(hx0:OKc ⟨14,[],[],⟨[.v ty83],[]⟩,[ty83],λ_=>x0⟩):OKc ⟨5,[],[],⟨[.v .bool],[]⟩,[.bool],λ_=>Pw.jgZ x0⟩:=
 cOf jh5 j9D (jpi x0) ⟨5,[],[],⟨[.v .bool],[]⟩,[.bool],λ_=>Pw.jgZ x0⟩ func5 (i hx0 (i jev.2 (i j5v.2 (i jcl.2 (i jdh.2 (i jl8.2 trivial)))))) trivial
def jpk:CKt:=
 ⟨⟨5,[],[],⟨[.v .bool],[]⟩,[.bool],λh=>Pw.jg8⟩,jpj Pw.jkU jqz.2⟩
def jqE:CKt:=
 cQ tb {} [] 6 [.v (.list iT)] [.box [(.list iT),iT]] [] (λh=>Pw.jl0 h) func6
def j2h:CKt:=
 cQ tb {} [] 19 [.ref [(.list iT),iT],.v iT] [.v iT] [.ref [(.list iT),iT]] (Pw.unc3 Pw.j04) func19
def j4U:CKt:=
 cQ tb {} [] 24 [.ref [(.list iT),iT],.v (.list iT)] [.v iT] [.ref [(.list iT),iT]] (Pw.unc3 Pw.j18) func24 [j2h]
def jjD:CKt:=
 cQ tb {dw:=[(7,dz [(2,[0]),(2,[0]),(1,[0]),(4,[0]),(6,[0]),(2,[3968]),(0,[0,3968]),(1,[0]),(1,[0]),(4,[4608]),(1,[320])]),(9,dz [(3,[5056]),(0,[0,5056])])]} [] 43 [.ref [(.list iT),iT],.v .str] [.v ty64] [.ref [(.list iT),iT]] (Pw.unc3 Pw.j4s) func43 [j2h,j4U]
def jjs:CKt:=
 cQ tb {} [] 21 [] [.own 9 (.list .str)] [] (λh=>Pw.jg9) func21
def j8x:CKt:=
 cQ tb {} [] 23 [.ref [(.list iT),iT],.v iT] [.v .bool] [.ref [(.list iT),iT]] (Pw.unc3 Pw.j0Z) func23 [j2h]
def jch:CKt:=
 cQ tb {} [lD 0 [sB 0 0,sO 1,sI,sI,.b (.cell [.d (.list iT),.d iT] e),.b (.lst 81 ty7 e)] ⟨[0,3,4,5],[0],[⟨1,81,ty7,[.slot 3],e⟩]⟩ [xD (.exit 0) [sO 2,.b (.cell [.d (.list iT),.d iT] e),.b (.lst 81 ty7 e)] ⟨[3],[0],[⟨2,81,ty7,[.slot 3],e⟩]⟩] (Pw.unc5 (Pw.j2f))] 44 [.ref [(.list iT),iT]] [.own 81 ty12] [.ref [(.list iT),iT]] (Pw.unc2 Pw.j4w) func44 [j2h,j4U]
def jiU:CKt:=
 cQ tb {dw:=[(5,dz [(3,[1344]),(5,[0]),(0,[1792]),(0,[1856,1]),(1,[192])]),(9,dz [(0,[2432]),(9,[0]),(1,[0]),(1,[384]),(0,[384])])],ns:=[3]} [lD 0 [sB 0 0,sB 128 0,sB 192 0,sI,.b (.cell [.d (.list iT),.d iT] e),.b (.cell [.nil,.nil,.nil,.nil] e),.b (.cell [.ol 1,.nil,.nil,.nil] e),.b (.lst 80 ty64 e)] ⟨[0,2,3,4],[0,128,192],[⟨1,80,ty64,[.cell 192 0],e⟩]⟩ [xD (.exit 0) [sB 0 0,sB 128 0,sB 192 0,.b (.cell [.d (.list iT),.d iT] e),.b (.cell [.nil,.nil,.nil,.nil] e),.b (.cell [.ol 2,.nil,.nil,.nil] e),.b (.lst 80 ty64 e)] ⟨[0,2,3],[0,128,192],[⟨2,80,ty64,[.cell 192 0],e⟩]⟩] (Pw.unc4 (Pw.j2R)),lD 2 [sB 0 0,sB 128 0,sB 192 0,sI,.b (.cell [.d (.list iT),.d iT] e),.b (.cell [.nil,.nil,.nil,.nil] e),.b (.cell [.ol 3,.ol 4,.nil,.nil] e),.b (.lst 80 ty64 e),.b (.lst 83 ty52 e)] ⟨[0,2,3,5],[0,128,192],[⟨3,80,ty64,[.cell 192 0],e⟩,⟨4,83,ty52,[.cell 192 1],e⟩]⟩ [xD (.exit 2) [sB 0 0,sB 128 0,sB 192 0,.b (.cell [.d (.list iT),.d iT] e),.b (.cell [.nil,.nil,.nil,.nil] e),.b (.cell [.ol 5,.ol 6,.nil,.nil] e),.b (.lst 80 ty64 e),.b (.lst 83 ty52 e)] ⟨[0,2,3],[0,128,192],[⟨5,80,ty64,[.cell 192 0],e⟩,⟨6,83,ty52,[.cell 192 1],e⟩]⟩] (Pw.unc5 (Pw.j2S)),lD 4 [sB 0 0,sB 128 0,sB 192 0,sI,.b (.cell [.d (.list iT),.d iT] e),.b (.cell [.nil,.nil,.nil,.nil] e),.b (.cell [.ol 7,.ol 8,.ol 9,.nil] e),.b (.lst 80 ty64 e),.b (.lst 83 ty52 e),.b (.lst 111 ty23 e)] ⟨[0,2,3,7],[0,128,192],[⟨7,80,ty64,[.cell 192 0],e⟩,⟨8,83,ty52,[.cell 192 1],e⟩,⟨9,111,ty23,[.cell 192 2],e⟩]⟩ [xD (.exit 4) [sB 128 0,sB 192 0,.b (.cell [.d (.list iT),.d iT] e),.b (.cell [.nil,.nil,.nil,.nil] e),.b (.cell [.ol 10,.ol 11,.ol 12,.nil] e),.b (.lst 80 ty64 e),.b (.lst 83 ty52 e),.b (.lst 111 ty23 e)] ⟨[2,3],[0,128,192],[⟨10,80,ty64,[.cell 192 0],e⟩,⟨11,83,ty52,[.cell 192 1],e⟩,⟨12,111,ty23,[.cell 192 2],e⟩]⟩] (Pw.unc6 (Pw.j1V)),lD 6 [sB 0 0,sB 128 0,sB 192 0,sI,sB 512 0,sI,sI,.b (.cell [.d (.list iT),.d iT] e),.b (.cell [.nil,.nil,.nil,.nil] e),.b (.cell [.ol 13,.ol 14,.ol 15,.nil] e),.b (.cell [.d .str,.d iT,.ol 65] e),.b (.lst 80 ty64 e),.b (.lst 83 ty52 e),.b (.lst 111 ty23 e),.b (.lst 3 iT e)] ⟨[0,2,3,7,8,9,10],[0,128,192,512],[⟨13,80,ty64,[.cell 192 0],e⟩,⟨14,83,ty52,[.cell 192 1],e⟩,⟨15,111,ty23,[.cell 192 2],e⟩,⟨65,3,iT,[.cell 512 2],e⟩]⟩ [xD (.exit 6) [sB 0 0,sB 128 0,sB 192 0,sI,sB 512 0,.b (.cell [.d (.list iT),.d iT] e),.b (.cell [.nil,.nil,.nil,.nil] e),.b (.cell [.ol 66,.ol 67,.ol 68,.nil] e),.b (.cell [.d .str,.d iT,.ol 69] e),.b (.lst 80 ty64 e),.b (.lst 83 ty52 e),.b (.lst 111 ty23 e),.b (.lst 3 iT e)] ⟨[0,2,3,7,8],[0,128,192,512],[⟨66,80,ty64,[.cell 192 0],e⟩,⟨67,83,ty52,[.cell 192 1],e⟩,⟨68,111,ty23,[.cell 192 2],e⟩,⟨69,3,iT,[.cell 512 2],e⟩]⟩] (Pw.u8 Pw.unc3 (Pw.j2T))] 18 [.ref [(.list iT),iT]] [.vn ty83 [3]] [.ref [(.list iT),iT]] (Pw.unc2 Pw.j9z) func18 [j2h,j4U,jjD,jjs,j8x,jch]
def jiV:CKt:=
 cQ tb {dw:=[(7,dz [(6,[0]),(0,[3200]),(0,[3264,1]),(1,[448])])]} [lD 0 [sB 0 0,sB 256 0,sB 384 0,sB 448 0,sI,.b (.cell [.d (.list iT),.d iT] e),.b (.cell [.d ty65,.d ty55,.d ty28,.d ty77] e),.b (.cell [.d .str,.d iT,.d iT,.d iT,.d iT,.d iT,.nil,.nil,.d iT,.d iT] e),.b (.cell [.d .str,.d iT,.d iT,.d iT,.d iT,.d iT,.ol 1,.nil,.d iT,.d iT] e),.b (.lst 3 iT e)] ⟨[0,4,6,7,8],[0,256,384,448],[⟨1,3,iT,[.cell 448 6],e⟩]⟩ [xD (.exit 0) [sB 0 0,sB 256 0,sB 384 0,sB 448 0,.b (.cell [.d (.list iT),.d iT] e),.b (.cell [.d ty65,.d ty55,.d ty28,.d ty77] e),.b (.cell [.d .str,.d iT,.d iT,.d iT,.d iT,.d iT,.nil,.nil,.d iT,.d iT] e),.b (.cell [.d .str,.d iT,.d iT,.d iT,.d iT,.d iT,.ol 2,.nil,.d iT,.d iT] e),.b (.lst 3 iT e)] ⟨[0,4,6,7],[0,256,384,448],[⟨2,3,iT,[.cell 448 6],e⟩]⟩] (Pw.u8 (Pw.u8 Pw.unc8) (Pw.j2U))] 20 [.ref [(.list iT),iT],.v ty83,.v .str] [.v ty71] [.ref [(.list iT),iT]] (Pw.unc4 Pw.j9A) func20 [j2h,j4U,j8x,jch]
def jci:CKt:=
 cQ tb {} [] 8 [.ref [(.list iT),iT]] [.v iT] [.ref [(.list iT),iT]] (Pw.unc2 Pw.j5S) func8 [j2h,j4U,j8x]
def jjE:CKt:=
 cQ tb {dw:=[(3,dz [(3,[1344]),(0,[0,1344]),(2,[384])]),(8,dz [(6,[0]),(4,[384])])]} [] 22 [.ref [(.list iT),iT],.v ty83] [.v ty41] [.ref [(.list iT),iT]] (Pw.unc3 Pw.jan) func22 [j2h,j4U,j8x,jci]
def ji6:CKt:=
 cQ tb {dw:=[(9,dz [(4,[2432]),(5,[0,1]),(0,[2880]),(0,[2944,1,2]),(1,[448])]),(13,dz [(4,[0,3]),(0,[3776]),(0,[3840,4,5]),(1,[448])])]} [lD 0 [sB 0 0,sB 256 0,sB 320 0,sI,.b (.cell [.d (.list iT),.d iT] e),.b (.cell [.nil,.nil,.nil,.nil] e),.b (.cell [.d ty65,.d ty55,.d ty28,.ol 6] e),.b (.lst 61 ty76 j)] ⟨[0,4,5,6],[0,256,320],[⟨6,61,ty76,[.cell 320 3],j⟩]⟩ [xD (.exit 0) [sB 256 0,sB 320 0,.b (.cell [.d (.list iT),.d iT] e),.b (.cell [.nil,.nil,.nil,.nil] e),.b (.cell [.d ty65,.d ty55,.d ty28,.ol 7] e),.b (.lst 61 ty76 j)] ⟨[4,5],[0,256,320],[⟨7,61,ty76,[.cell 320 3],e⟩]⟩] (Pw.unc7 (Pw.j2x)),lD 2 [sB 0 0,sB 256 0,sB 320 0,sI,sB 448 0,sI,.b (.cell [.d (.list iT),.d iT] e),.b (.cell [.nil,.nil,.nil,.nil] e),.b (.cell [.d ty65,.d ty55,.d ty28,.ol 1] e),.b (.cell [.d .str,.ol 2,.nil] e),.b (.lst 61 ty76 j),.b (.lst 66 ty71 e)] ⟨[0,4,5,6,7,8],[0,256,320,448],[⟨1,61,ty76,[.cell 320 3],e⟩,⟨2,66,ty71,[.cell 448 1],e⟩]⟩ [xD (.exit 2) [sB 0 0,sB 256 0,sB 320 0,sI,sB 448 0,.b (.cell [.d (.list iT),.d iT] e),.b (.cell [.nil,.nil,.nil,.nil] e),.b (.cell [.d ty65,.d ty55,.d ty28,.ol 8] e),.b (.cell [.d .str,.ol 9,.nil] e),.b (.lst 61 ty76 j),.b (.lst 66 ty71 e)] ⟨[0,4,5,6,7],[0,256,320,448],[⟨8,61,ty76,[.cell 320 3],e⟩,⟨9,66,ty71,[.cell 448 1],e⟩]⟩] (Pw.u8 Pw.unc2 (Pw.j2v)),lD 4 [sB 0 0,sB 256 0,sB 320 0,sI,sB 448 0,sI,.b (.cell [.d (.list iT),.d iT] e),.b (.cell [.nil,.nil,.nil,.nil] e),.b (.cell [.d ty65,.d ty55,.d ty28,.ol 3] e),.b (.cell [.d .str,.ol 4,.ol 5] e),.b (.lst 61 ty76 j),.b (.lst 66 ty71 e),.b (.lst 70 ty41 e)] ⟨[0,4,5,6,7,9],[0,256,320,448],[⟨3,61,ty76,[.cell 320 3],e⟩,⟨4,66,ty71,[.cell 448 1],e⟩,⟨5,70,ty41,[.cell 448 2],e⟩]⟩ [xD (.exit 4) [sB 0 0,sB 256 0,sB 320 0,sI,sB 448 0,.b (.cell [.d (.list iT),.d iT] e),.b (.cell [.nil,.nil,.nil,.nil] e),.b (.cell [.d ty65,.d ty55,.d ty28,.ol 10] e),.b (.cell [.d .str,.ol 11,.ol 12] e),.b (.lst 61 ty76 j),.b (.lst 66 ty71 e),.b (.lst 70 ty41 e)] ⟨[0,4,5,6,7],[0,256,320,448],[⟨10,61,ty76,[.cell 320 3],e⟩,⟨11,66,ty71,[.cell 448 1],e⟩,⟨12,70,ty41,[.cell 448 2],e⟩]⟩] (Pw.u8 Pw.unc3 (Pw.j2w))] 7 [.ref [(.list iT),iT],.v iT] [.v ty83] [.ref [(.list iT),iT]] (Pw.unc3 Pw.j6F) func7 [j2h,jjs,jiU,jiV,jjE]
def jh7:CKt:=
 cQ tb {} [] 134 [.v iT,.v iT] [.v .bool] [] (Pw.unc2 Pw.j87) func134
def jqF:CKt:=
 cQ tb {} [] 85 [.v ty83,.v iT,.v iT,.v iT] [.v iT] [] (Pw.unc4 Pw.jhW) func85 [jls,jh7]
def jl9:CKt:=
 cQ tb {} [lD 0 [sI,sI,sB 256 0,sB 320 0,sO 1,sI,.b (.cell [.d .str,.d iT,.d ty57] e),.b (.cell [.d .str,.d iT,.d iT,.d iT,.d iT,.d iT,.d (.list iT),.d ty12,.d iT,.d iT] e),.b (.lst 3 iT e)] ⟨[2,3,4,5,10,11],[256,320],[⟨1,3,iT,[.slot 10],e⟩]⟩ [xD .ret [sO 2,sI,.b (.lst 3 iT e)] ⟨[8,9],[],[⟨2,3,iT,[.slot 8],e⟩]⟩] (Pw.u8 Pw.unc9 (Pw.j5d))] 239 [.v ty64,.v ty71,.v iT,.v iT] [.own 3 (.list iT),.v iT] [] (Pw.unc4 Pw.j9B) func239 [jl4,jgA,jl7,jh7]
def jqG:CKt:=
 cQ tb {dw:=[(8,dz [(19,[768]),(0,[768])])]} [lD 0 [sD ty12,sI,sI,sO 1,sI,.b (.lst 42 ty7 e)] ⟨[0,1,2,9,10],[],[⟨1,42,ty7,[.slot 9],e⟩]⟩ [xD (.exit 0) [sO 2,.b (.lst 42 ty7 e)] ⟨[9],[],[⟨2,42,ty7,[.slot 9],e⟩]⟩] (Pw.unc5 (Pw.j5U)),lD 2 [sD ty12,sI,sI,sO 3,sI,sI,.b (.lst 42 ty7 e)] ⟨[0,1,2,9,10,11],[],[⟨3,42,ty7,[.slot 9],e⟩]⟩ [xD (.exit 2) [sD ty12,sI,sI,sO 4,sI,.b (.lst 42 ty7 e)] ⟨[0,1,2,9,10],[],[⟨4,42,ty7,[.slot 9],e⟩]⟩] (Pw.unc6 (Pw.j5T))] 285 [.v ty12,.v iT,.v iT,.v iT] [.own 42 ty12] [] (Pw.unc4 Pw.jfy) func285 [jjr]
def jtt:CKt:=
 cQ tb {} [lD 0 [sO 1,sD ty12,sI,.b (.lst 42 ty7 e)] ⟨[0,1,5],[],[⟨1,42,ty7,[.slot 0],e⟩]⟩ [xD (.exit 0) [sO 2,.b (.lst 42 ty7 e)] ⟨[0],[],[⟨2,42,ty7,[.slot 0],e⟩]⟩] (Pw.unc3 (Pw.j6G))] 284 [.mv 42 ty12,.v ty12] [.own 42 ty12] [] (Pw.unc2 Pw.jhX) func284
end Go.Proofs.Pk
