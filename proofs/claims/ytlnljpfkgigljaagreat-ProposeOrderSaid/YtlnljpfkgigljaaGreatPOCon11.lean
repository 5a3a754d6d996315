/- Contracts: each given function is its plain function, printed by a program. -/
import Derived.Test.YtlnljpfkgigljaaGreatPOCon10
open Bool renaming false->e,true->j
open And renaming intro->i
noncomputable section
open Go Go.Lft
set_option linter.unusedVariables false
set_option maxRecDepth 100000
namespace Go.Proofs.Pk
open Tryz
def jws:CKt:=
 cQ tb {} [] 42 [.v ty82,.v iT,.v iT] [.v iT] [] (Pw.unc3 Pw.jr2) func42 [jz7,jpQ]
def jlC:CKt:=
 cQ tb {} [] 16 [.v ty82,.v iT,.v iT] [.v iT] [] (Pw.unc3 Pw.jhq) func16 [jws]
def jpR(x0:Option (HL [ty82])):FnD where
 N:=67
 np:=0
 cs:=[⟨17,[],[],⟨[.v ty82],[]⟩,[ty82],λ_=>x0⟩,jbV.1,j4p.1,j9V.1,jh2.1,jlC.1]
theorem jpS(x0:Option (HL [ty82]))(hx0:OKc ⟨17,[],[],⟨[.v ty82],[]⟩,[ty82],λ_=>x0⟩):OKc ⟨5,[],[],⟨[.v .bool],[]⟩,[.bool],λ_=>Pw.jhr x0⟩:=
 cOf jhx j9S (jpR x0) ⟨5,[],[],⟨[.v .bool],[]⟩,[.bool],λ_=>Pw.jhr x0⟩ func5 (i hx0 (i jbV.2 (i j4p.2 (i j9V.2 (i jh2.2 (i jlC.2 trivial)))))) trivial
def jpT:CKt:=
 ⟨⟨5,[],[],⟨[.v .bool],[]⟩,[.bool],λh=>Pw.jef⟩,jpS Pw.jln jr7.2⟩
def jrc:CKt:=
 cQ tb {} [] 6 [.v (.list iT)] [.box [(.list iT),iT]] [] (λh=>Pw.jlt h) func6
def j1O:CKt:=
 cQ tb {} [] 20 [.ref [(.list iT),iT],.v iT] [.v iT] [.ref [(.list iT),iT]] (Pw.unc3 Pw.j04) func20
def j49:CKt:=
 cQ tb {} [] 10 [.ref [(.list iT),iT],.v (.list iT)] [.v iT] [.ref [(.list iT),iT]] (Pw.unc3 Pw.j10) func10 [j1O]
def jk7:CKt:=
 cQ tb {dw:=[(7,dz [(2,[0]),(2,[0]),(1,[0]),(4,[0]),(6,[0]),(2,[3968]),(0,[0,3968]),(1,[0]),(1,[0]),(4,[4608]),(1,[320])]),(9,dz [(3,[5056]),(0,[0,5056])])]} [] 45 [.ref [(.list iT),iT],.v .str] [.v ty63] [.ref [(.list iT),iT]] (Pw.unc3 Pw.j4y) func45 [j1O,j49]
def jjW:CKt:=
 cQ tb {} [] 22 [] [.own 9 (.list .str)] [] (λh=>Pw.jgx) func22
def j8J:CKt:=
 cQ tb {} [] 25 [.ref [(.list iT),iT],.v iT] [.v .bool] [.ref [(.list iT),iT]] (Pw.unc3 Pw.j11) func25 [j1O]
def j8U:CKt:=
 cQ tb {} [lD 0 [sB 0 0,sO 1,sI,sI,.b (.cell [.d (.list iT),.d iT] e),.b (.lst 73 ty6 e)] ⟨[0,3,4,5],[0],[⟨1,73,ty6,[.slot 3],e⟩]⟩ [xD (.exit 0) [sO 2,.b (.cell [.d (.list iT),.d iT] e),.b (.lst 73 ty6 e)] ⟨[3],[0],[⟨2,73,ty6,[.slot 3],e⟩]⟩] (Pw.unc5 (Pw.j2i))] 24 [.ref [(.list iT),iT]] [.own 73 ty11] [.ref [(.list iT),iT]] (Pw.unc2 Pw.j3l) func24 [j1O,j49]
def jjn:CKt:=
 cQ tb {dw:=[(5,dz [(3,[1344]),(5,[0]),(0,[1792]),(0,[1856,1]),(1,[192])]),(9,dz [(0,[2432]),(9,[0]),(1,[0]),(1,[384]),(0,[384])])],ns:=[3]} [lD 0 [sB 0 0,sB 128 0,sB 192 0,sI,.b (.cell [.d (.list iT),.d iT] e),.b (.cell [.nil,.nil,.nil,.nil] e),.b (.cell [.ol 1,.nil,.nil,.nil] e),.b (.lst 98 ty63 e)] ⟨[0,2,3,4],[0,128,192],[⟨1,98,ty63,[.cell 192 0],e⟩]⟩ [xD (.exit 0) [sB 0 0,sB 128 0,sB 192 0,.b (.cell [.d (.list iT),.d iT] e),.b (.cell [.nil,.nil,.nil,.nil] e),.b (.cell [.ol 2,.nil,.nil,.nil] e),.b (.lst 98 ty63 e)] ⟨[0,2,3],[0,128,192],[⟨2,98,ty63,[.cell 192 0],e⟩]⟩] (Pw.unc4 (Pw.j2Y)),lD 2 [sB 0 0,sB 128 0,sB 192 0,sI,.b (.cell [.d (.list iT),.d iT] e),.b (.cell [.nil,.nil,.nil,.nil] e),.b (.cell [.ol 3,.ol 4,.nil,.nil] e),.b (.lst 98 ty63 e),.b (.lst 112 ty51 e)] ⟨[0,2,3,5],[0,128,192],[⟨3,98,ty63,[.cell 192 0],e⟩,⟨4,112,ty51,[.cell 192 1],e⟩]⟩ [xD (.exit 2) [sB 0 0,sB 128 0,sB 192 0,.b (.cell [.d (.list iT),.d iT] e),.b (.cell [.nil,.nil,.nil,.nil] e),.b (.cell [.ol 5,.ol 6,.nil,.nil] e),.b (.lst 98 ty63 e),.b (.lst 112 ty51 e)] ⟨[0,2,3],[0,128,192],[⟨5,98,ty63,[.cell 192 0],e⟩,⟨6,112,ty51,[.cell 192 1],e⟩]⟩] (Pw.unc5 (Pw.j2Z)),lD 4 [sB 0 0,sB 128 0,sB 192 0,sI,.b (.cell [.d (.list iT),.d iT] e),.b (.cell [.nil,.nil,.nil,.nil] e),.b (.cell [.ol 7,.ol 8,.ol 9,.nil] e),.b (.lst 98 ty63 e),.b (.lst 112 ty51 e),.b (.lst 117 ty22 e)] ⟨[0,2,3,7],[0,128,192],[⟨7,98,ty63,[.cell 192 0],e⟩,⟨8,112,ty51,[.cell 192 1],e⟩,⟨9,117,ty22,[.cell 192 2],e⟩]⟩ [xD (.exit 4) [sB 128 0,sB 192 0,.b (.cell [.d (.list iT),.d iT] e),.b (.cell [.nil,.nil,.nil,.nil] e),.b (.cell [.ol 10,.ol 11,.ol 12,.nil] e),.b (.lst 98 ty63 e),.b (.lst 112 ty51 e),.b (.lst 117 ty22 e)] ⟨[2,3],[0,128,192],[⟨10,98,ty63,[.cell 192 0],e⟩,⟨11,112,ty51,[.cell 192 1],e⟩,⟨12,117,ty22,[.cell 192 2],e⟩]⟩] (Pw.unc6 (Pw.j1U)),lD 6 [sB 0 0,sB 128 0,sB 192 0,sI,sB 512 0,sI,sI,.b (.cell [.d (.list iT),.d iT] e),.b (.cell [.nil,.nil,.nil,.nil] e),.b (.cell [.ol 13,.ol 14,.ol 15,.nil] e),.b (.cell [.d .str,.d iT,.ol 65] e),.b (.lst 98 ty63 e),.b (.lst 112 ty51 e),.b (.lst 117 ty22 e),.b (.lst 3 iT e)] ⟨[0,2,3,7,8,9,10],[0,128,192,512],[⟨13,98,ty63,[.cell 192 0],e⟩,⟨14,112,ty51,[.cell 192 1],e⟩,⟨15,117,ty22,[.cell 192 2],e⟩,⟨65,3,iT,[.cell 512 2],e⟩]⟩ [xD (.exit 6) [sB 0 0,sB 128 0,sB 192 0,sI,sB 512 0,.b (.cell [.d (.list iT),.d iT] e),.b (.cell [.nil,.nil,.nil,.nil] e),.b (.cell [.ol 66,.ol 67,.ol 68,.nil] e),.b (.cell [.d .str,.d iT,.ol 69] e),.b (.lst 98 ty63 e),.b (.lst 112 ty51 e),.b (.lst 117 ty22 e),.b (.lst 3 iT e)] ⟨[0,2,3,7,8],[0,128,192,512],[⟨66,98,ty63,[.cell 192 0],e⟩,⟨67,112,ty51,[.cell 192 1],e⟩,⟨68,117,ty22,[.cell 192 2],e⟩,⟨69,3,iT,[.cell 512 2],e⟩]⟩] (Pw.u8 Pw.unc3 (Pw.j30))] 19 [.ref [(.list iT),iT]] [.vn ty82 [3]] [.ref [(.list iT),iT]] (Pw.unc2 Pw.j9N) func19 [j1O,j49,jk7,jjW,j8J,j8U]
def jjo:CKt:=
 cQ tb {dw:=[(7,dz [(6,[0]),(0,[3200]),(0,[3264,1]),(1,[448])])]} [lD 0 [sB 0 0,sB 256 0,sB 384 0,sB 448 0,sI,.b (.cell [.d (.list iT),.d iT] e),.b (.cell [.d ty64,.d ty54,.d ty27,.d ty76] e),.b (.cell [.d .str,.d iT,.d iT,.d iT,.d iT,.d iT,.nil,.nil,.d iT,.d iT] e),.b (.cell [.d .str,.d iT,.d iT,.d iT,.d iT,.d iT,.ol 1,.nil,.d iT,.d iT] e),.b (.lst 3 iT e)] ⟨[0,4,6,7,8],[0,256,384,448],[⟨1,3,iT,[.cell 448 6],e⟩]⟩ [xD (.exit 0) [sB 0 0,sB 256 0,sB 384 0,sB 448 0,.b (.cell [.d (.list iT),.d iT] e),.b (.cell [.d ty64,.d ty54,.d ty27,.d ty76] e),.b (.cell [.d .str,.d iT,.d iT,.d iT,.d iT,.d iT,.nil,.nil,.d iT,.d iT] e),.b (.cell [.d .str,.d iT,.d iT,.d iT,.d iT,.d iT,.ol 2,.nil,.d iT,.d iT] e),.b (.lst 3 iT e)] ⟨[0,4,6,7],[0,256,384,448],[⟨2,3,iT,[.cell 448 6],e⟩]⟩] (Pw.u8 (Pw.u8 Pw.unc8) (Pw.j31))] 21 [.ref [(.list iT),iT],.v ty82,.v .str] [.v ty70] [.ref [(.list iT),iT]] (Pw.unc4 Pw.j9O) func21 [j1O,j49,j8J,j8U]
def jcK:CKt:=
 cQ tb {} [] 9 [.ref [(.list iT),iT]] [.v iT] [.ref [(.list iT),iT]] (Pw.unc2 Pw.j5Y) func9 [j1O,j49,j8J]
def jk8:CKt:=
 cQ tb {dw:=[(3,dz [(3,[1344]),(0,[0,1344]),(2,[384])]),(8,dz [(6,[0]),(4,[384])])]} [] 23 [.ref [(.list iT),iT],.v ty82] [.v ty40] [.ref [(.list iT),iT]] (Pw.unc3 Pw.jaD) func23 [j1O,j49,j8J,jcK]
def jix:CKt:=
 cQ tb {dw:=[(9,dz [(4,[2432]),(5,[0,1]),(0,[2880]),(0,[2944,1,2]),(1,[448])]),(13,dz [(4,[0,3]),(0,[3776]),(0,[3840,4,5]),(1,[448])])]} [lD 0 [sB 0 0,sB 256 0,sB 320 0,sI,.b (.cell [.d (.list iT),.d iT] e),.b (.cell [.nil,.nil,.nil,.nil] e),.b (.cell [.d ty64,.d ty54,.d ty27,.ol 6] e),.b (.lst 60 ty75 j)] ⟨[0,4,5,6],[0,256,320],[⟨6,60,ty75,[.cell 320 3],j⟩]⟩ [xD (.exit 0) [sB 256 0,sB 320 0,.b (.cell [.d (.list iT),.d iT] e),.b (.cell [.nil,.nil,.nil,.nil] e),.b (.cell [.d ty64,.d ty54,.d ty27,.ol 7] e),.b (.lst 60 ty75 j)] ⟨[4,5],[0,256,320],[⟨7,60,ty75,[.cell 320 3],e⟩]⟩] (Pw.unc7 (Pw.j2B)),lD 2 [sB 0 0,sB 256 0,sB 320 0,sI,sB 448 0,sI,.b (.cell [.d (.list iT),.d iT] e),.b (.cell [.nil,.nil,.nil,.nil] e),.b (.cell [.d ty64,.d ty54,.d ty27,.ol 1] e),.b (.cell [.d .str,.ol 2,.nil] e),.b (.lst 60 ty75 j),.b (.lst 65 ty70 e)] ⟨[0,4,5,6,7,8],[0,256,320,448],[⟨1,60,ty75,[.cell 320 3],e⟩,⟨2,65,ty70,[.cell 448 1],e⟩]⟩ [xD (.exit 2) [sB 0 0,sB 256 0,sB 320 0,sI,sB 448 0,.b (.cell [.d (.list iT),.d iT] e),.b (.cell [.nil,.nil,.nil,.nil] e),.b (.cell [.d ty64,.d ty54,.d ty27,.ol 8] e),.b (.cell [.d .str,.ol 9,.nil] e),.b (.lst 60 ty75 j),.b (.lst 65 ty70 e)] ⟨[0,4,5,6,7],[0,256,320,448],[⟨8,60,ty75,[.cell 320 3],e⟩,⟨9,65,ty70,[.cell 448 1],e⟩]⟩] (Pw.u8 Pw.unc2 (Pw.j2z)),lD 4 [sB 0 0,sB 256 0,sB 320 0,sI,sB 448 0,sI,.b (.cell [.d (.list iT),.d iT] e),.b (.cell [.nil,.nil,.nil,.nil] e),.b (.cell [.d ty64,.d ty54,.d ty27,.ol 3] e),.b (.cell [.d .str,.ol 4,.ol 5] e),.b (.lst 60 ty75 j),.b (.lst 65 ty70 e),.b (.lst 69 ty40 e)] ⟨[0,4,5,6,7,9],[0,256,320,448],[⟨3,60,ty75,[.cell 320 3],e⟩,⟨4,65,ty70,[.cell 448 1],e⟩,⟨5,69,ty40,[.cell 448 2],e⟩]⟩ [xD (.exit 4) [sB 0 0,sB 256 0,sB 320 0,sI,sB 448 0,.b (.cell [.d (.list iT),.d iT] e),.b (.cell [.nil,.nil,.nil,.nil] e),.b (.cell [.d ty64,.d ty54,.d ty27,.ol 10] e),.b (.cell [.d .str,.ol 11,.ol 12] e),.b (.lst 60 ty75 j),.b (.lst 65 ty70 e),.b (.lst 69 ty40 e)] ⟨[0,4,5,6,7],[0,256,320,448],[⟨10,60,ty75,[.cell 320 3],e⟩,⟨11,65,ty70,[.cell 448 1],e⟩,⟨12,69,ty40,[.cell 448 2],e⟩]⟩] (Pw.u8 Pw.unc3 (Pw.j2A))] 7 [.ref [(.list iT),iT],.v iT] [.v ty82] [.ref [(.list iT),iT]] (Pw.unc3 Pw.j6N) func7 [j1O,jjW,jjn,jjo,jk8]
def jhz:CKt:=
 cQ tb {dw:=[(6,dz [(6,[0]),(2,[1472]),(0,[1536,1])])]} [lD 0 [sB 0 0,sO 1,sO 2,sI,.b (.cell [.d (.list iT),.d iT] e),.b (.lst 75 ty20 e),.b (.lst 73 ty6 e)] ⟨[0,3,4,5],[0],[⟨1,75,ty20,[.slot 3],e⟩,⟨2,73,ty6,[.slot 4],e⟩]⟩ [xD (.exit 0) [sO 3,.b (.cell [.d (.list iT),.d iT] e),.b (.lst 75 ty20 e)] ⟨[3],[0],[⟨3,75,ty20,[.slot 3],e⟩]⟩] (Pw.unc5 (Pw.j2j))] 8 [.ref [(.list iT),iT]] [.own 75 ty25] [.ref [(.list iT),iT]] (Pw.unc2 Pw.j7X) func8 [j1O,j8U]
def jhA:CKt:=
 cQ tb {} [] 62 [.v iT,.v iT] [.v .bool] [] (Pw.unc2 Pw.j8j) func62
def jrd:CKt:=
 cQ tb {} [] 58 [.v ty82,.v iT,.v iT,.v iT] [.v iT] [] (Pw.unc4 Pw.jio) func58 [jlX,jhA]
def jlD:CKt:=
 cQ tb {} [lD 0 [sI,sI,sB 256 0,sB 320 0,sO 1,sI,.b (.cell [.d .str,.d iT,.d ty56] e),.b (.cell [.d .str,.d iT,.d iT,.d iT,.d iT,.d iT,.d (.list iT),.d ty11,.d iT,.d iT] e),.b (.lst 3 iT e)] ⟨[2,3,4,5,10,11],[256,320],[⟨1,3,iT,[.slot 10],e⟩]⟩ [xD .ret [sO 2,sI,.b (.lst 3 iT e)] ⟨[8,9],[],[⟨2,3,iT,[.slot 8],e⟩]⟩] (Pw.u8 Pw.unc9 (Pw.j5i))] 241 [.v ty63,.v ty70,.v iT,.v iT] [.own 3 (.list iT),.v iT] [] (Pw.unc4 Pw.j9Q) func241 [jly,jh0,jlB,jhA]
def jre:CKt:=
 cQ tb {dw:=[(8,dz [(19,[768]),(0,[768])])]} [lD 0 [sD ty11,sI,sI,sO 1,sI,.b (.lst 99 ty6 e)] ⟨[0,1,2,9,10],[],[⟨1,99,ty6,[.slot 9],e⟩]⟩ [xD (.exit 0) [sO 2,.b (.lst 99 ty6 e)] ⟨[9],[],[⟨2,99,ty6,[.slot 9],e⟩]⟩] (Pw.unc5 (Pw.j60)),lD 2 [sD ty11,sI,sI,sO 3,sI,sI,.b (.lst 99 ty6 e)] ⟨[0,1,2,9,10,11],[],[⟨3,99,ty6,[.slot 9],e⟩]⟩ [xD (.exit 2) [sD ty11,sI,sI,sO 4,sI,.b (.lst 99 ty6 e)] ⟨[0,1,2,9,10],[],[⟨4,99,ty6,[.slot 9],e⟩]⟩] (Pw.unc6 (Pw.j5Z))] 64 [.v ty11,.v iT,.v iT,.v iT] [.own 99 ty11] [] (Pw.unc4 Pw.jfX) func64 [jjV]
end Go.Proofs.Pk
