/- Contracts: each given function is its plain function, printed by a program. -/
import Derived.Test.YtlnljpfkgigljaaGreatPOCon11
open Bool renaming false->e
noncomputable section
open Go Go.Lft
set_option linter.unusedVariables false
set_option maxRecDepth 100000
namespace Go.Proofs.Pk
open Tryz
def juh:CKt:=
 cQ tb {} [lD 0 [sO 1,sD ty11,sI,.b (.lst 99 ty6 e)] ⟨[0,1,5],[],[⟨1,99,ty6,[.slot 0],e⟩]⟩ [xD (.exit 0) [sO 2,.b (.lst 99 ty6 e)] ⟨[0],[],[⟨2,99,ty6,[.slot 0],e⟩]⟩] (Pw.unc3 (Pw.j6O))] 63 [.mv 99 ty11,.v ty11] [.own 99 ty11] [] (Pw.unc2 Pw.jip) func63
def jlE:CKt:=
 cQ tb {mvf:=[63]} [lD 0 [sD ty11,sI,sI,sB 256 0,sO 1,sO 2,sI,.b (.cell [.d .str,.d iT,.d ty56] e),.b (.lst 140 ty6 e),.b (.lst 99 ty6 e)] ⟨[1,2,3,4,10,12,13],[256],[⟨1,140,ty6,[.slot 10],e⟩,⟨2,99,ty6,[.slot 12],e⟩]⟩ [xD (.exit 0) [sO 3,.b (.lst 99 ty6 e)] ⟨[12],[],[⟨3,99,ty6,[.slot 12],e⟩]⟩] (Pw.unc9 (Pw.j61))] 35 [.v ty63,.v ty11,.v iT,.v iT] [.own 99 ty11,.v iT] [] (Pw.unc4 Pw.j5j) func35 [j4D,jcN,jhA,jre,juh]
def jlF:CKt:=
 cQ tb {} [lD 0 [sB 128 0,sB 192 0,sO 1,sO 2,sI,.b (.cell [.d .str,.d iT,.d ty56] e),.b (.cell [.d iT,.d iT] e),.b (.lst 140 ty6 e),.b (.lst 3 iT e)] ⟨[2,3,6,8,9],[128,192],[⟨1,140,ty6,[.slot 6],e⟩,⟨2,3,iT,[.slot 8],e⟩]⟩ [xD (.exit 0) [sO 3,.b (.lst 3 iT e)] ⟨[8],[],[⟨3,3,iT,[.slot 8],e⟩]⟩] (Pw.unc8 (Pw.j3V))] 242 [.v ty63,.v ty6] [.own 3 (.list iT),.v iT] [] (Pw.unc2 Pw.j7Y) func242 [jgC,j4D,jlz]
def jui:CKt:=
 cQ tb {dw:=[(9,dz [(11,[4416]),(0,[4480,1])]),(24,dz [(14,[8384])])]} [lD 0 [sB 256 0,sB 320 0,sO 1,sO 2,sI,.b (.cell [.d ty64,.d ty54,.d ty27,.d ty76] e),.b (.cell [.d .str,.d iT,.d iT,.d iT,.d iT,.d iT,.d (.list iT),.d ty11,.d iT,.d iT] e),.b (.lst 3 iT e),.b (.lst 99 ty6 e)] ⟨[4,5,10,12,14],[256,320],[⟨1,3,iT,[.slot 10],e⟩,⟨2,99,ty6,[.slot 12],e⟩]⟩ [xD (.exit 0) [sB 256 0,sB 320 0,sO 3,.b (.cell [.d ty64,.d ty54,.d ty27,.d ty76] e),.b (.cell [.d .str,.d iT,.d iT,.d iT,.d iT,.d iT,.d (.list iT),.d ty11,.d iT,.d iT] e),.b (.lst 3 iT e)] ⟨[4,5,10],[256,320],[⟨3,3,iT,[.slot 10],e⟩]⟩] (Pw.u8 Pw.unc9 (Pw.j6P)),lD 2 [sB 256 0,sO 4,sB 960 0,sO 5,sI,.b (.cell [.d ty64,.d ty54,.d ty27,.d ty76] e),.b (.cell [.d .str,.d iT,.d (.list iT)] e),.b (.lst 3 iT e),.b (.lst 140 ty6 e)] ⟨[4,10,15,16,18],[256,960],[⟨4,3,iT,[.slot 10],e⟩,⟨5,140,ty6,[.slot 16],e⟩]⟩ [xD (.exit 2) [sB 256 0,sO 6,sB 960 0,.b (.cell [.d ty64,.d ty54,.d ty27,.d ty76] e),.b (.cell [.d .str,.d iT,.d (.list iT)] e),.b (.lst 3 iT e)] ⟨[4,10,15],[256,960],[⟨6,3,iT,[.slot 10],e⟩]⟩] (Pw.u8 Pw.unc2 (Pw.j6Q)),lD 4 [sB 256 0,sO 7,sB 960 0,sI,.b (.cell [.d ty64,.d ty54,.d ty27,.d ty76] e),.b (.cell [.d .str,.d iT,.d (.list iT)] e),.b (.lst 3 iT e)] ⟨[4,10,15,19],[256,960],[⟨7,3,iT,[.slot 10],e⟩]⟩ [xD (.exit 4) [sO 8,.b (.lst 3 iT e)] ⟨[10],[],[⟨8,3,iT,[.slot 10],e⟩]⟩] (Pw.unc9 (Pw.j6R)),lD 6 [sB 256 0,sO 9,sB 960 0,sI,sI,.b (.cell [.d ty64,.d ty54,.d ty27,.d ty76] e),.b (.cell [.d .str,.d iT,.d (.list iT)] e),.b (.lst 3 iT e)] ⟨[4,10,15,19,20],[256,960],[⟨9,3,iT,[.slot 10],e⟩]⟩ [xD (.exit 6) [sB 256 0,sO 10,sB 960 0,sI,.b (.cell [.d ty64,.d ty54,.d ty27,.d ty76] e),.b (.cell [.d .str,.d iT,.d (.list iT)] e),.b (.lst 3 iT e)] ⟨[4,10,15,19],[256,960],[⟨10,3,iT,[.slot 10],e⟩]⟩] (Pw.u8 Pw.unc2 (Pw.j4Z))] 185 [.v ty82,.v ty70,.v iT,.v iT] [.own 3 (.list iT)] [] (Pw.unc4 Pw.jiq) func185 [j4D,jlD,jlE,jlF]
def jbR(g:HL [(.list iT)]->Option (HL [(.list iT)])):Con:=⟨243,[.v (.list iT)],[(.list iT)],⟨[.own 3 (.list iT)],[]⟩,[(.list iT)],g⟩
def juj(g:HL [(.list iT)]->Option (HL [(.list iT)])):FnD where
 N:=88
 np:=1
 cs:=[jbR g]
 ds:=[⟨0,[sO 1000000,sO 1000001,sO 1000002,sI,sI,.b (.lst 3 iT e),.b (.lst 3 iT e),.b (.lst 3 iT e)],[iT,iT,(.list iT),(.list iT),(.list iT)],[⟨.exit 0,[sO 1500100,.b (.lst 3 iT e)],[(.list iT)]⟩],Pw.unc5 (Pw.j6S (λv0=>g v0))⟩]
 keep:=[(0,⟨[3,4,5,6,7],[],[⟨1000000,3,iT,[.slot 3],e⟩,⟨1000001,3,iT,[.slot 4],e⟩,⟨1000002,3,iT,[.slot 5],e⟩]⟩)]
 keepX:=[(0,.exit 0,⟨[3],[],[⟨1500100,3,iT,[.slot 3],e⟩]⟩)]
 ro:=[true]
 dw:=[(4,[[],[],[],[],[],[1280],[],[],[],[],[],[1664],[],[]])]
theorem jok(g:HL [(.list iT)]->Option (HL [(.list iT)]))(hg:OKc (jbR g)):OKc (jbR (Pw.j5k g)):=
 cOf jhx j9S (juj g) (jbR (Pw.j5k g)) func243 (And.intro hg trivial) (And.intro (λh=>by kernel_rfl) trivial)
def juk:CKt:=
 ⟨⟨243,[.v (.list iT)],[(.list iT)],⟨[.own 3 (.list iT)],[]⟩,[(.list iT)],λh=>Pw.jog h⟩,jDj (f:=243) (ps:=[.v (.list iT)]) (ts:=[(.list iT)]) (rp:=⟨[.own 3 (.list iT)],[]⟩) (rs:=[(.list iT)]) (B:=Pw.j5k) jok⟩
def jol:CKt:=
 cQ tb {} [lD 0 [sI,sI,sO 1,sO 2,sI,.b (.lst 3 iT e),.b (.lst 3 iT e)] ⟨[1,2,7,8,9],[],[⟨1,3,iT,[.slot 7],e⟩,⟨2,3,iT,[.slot 8],e⟩]⟩ [xD (.exit 0) [sI,sI,sO 3,.b (.lst 3 iT e)] ⟨[1,2,7],[],[⟨3,3,iT,[.slot 7],e⟩]⟩] (Pw.unc5 (Pw.j4O))] 186 [.v (.list iT),.v iT,.v iT] [.own 3 (.list iT)] [] (Pw.unc3 Pw.jeP) func186 [juk]
def jul:CKt:=
 cQ tb {dw:=[(6,dz [(9,[2176]),(0,[2240,1])]),(10,dz [(13,[3584]),(0,[3648,2])])]} [lD 0 [sI,sI,sB 256 0,sB 576 0,sO 1,sI,.b (.cell [.d ty64,.d ty54,.d ty27,.d ty76] e),.b (.cell [.d .str,.d ty71,.d ty42] e),.b (.lst 3 iT e)] ⟨[2,3,4,9,10,11],[256,576],[⟨1,3,iT,[.slot 10],e⟩]⟩ [xD (.exit 0) [sI,sI,sB 576 0,sO 3,.b (.cell [.d .str,.d ty71,.d ty42] e),.b (.lst 3 iT e)] ⟨[2,3,9,10],[576],[⟨3,3,iT,[.slot 10],e⟩]⟩] (Pw.u8 Pw.unc3 (Pw.j6T)),lD 2 [sI,sI,sB 576 0,sO 2,sI,.b (.cell [.d .str,.d ty71,.d ty42] e),.b (.lst 3 iT e)] ⟨[2,3,9,10,12],[576],[⟨2,3,iT,[.slot 10],e⟩]⟩ [xD (.exit 2) [sI,sI,sO 4,.b (.lst 3 iT e)] ⟨[2,3,10],[],[⟨4,3,iT,[.slot 10],e⟩]⟩] (Pw.unc7 (Pw.j6U))] 127 [.v ty82,.v iT,.v iT,.v iT] [.own 3 (.list iT)] [] (Pw.unc4 Pw.jkv) func127 [jui,jol]
def jpU:CKt:=
 cQ tb {} [] 128 [.mv 92 ty24,.v ty19] [.own 92 ty24] [] (Pw.unc2 Pw.jgy) func128
def jpV:CKt:=
 cQ tb {dw:=[(6,dz [(18,[2688,1])])],mvf:=[128]} [lD 0 [sI,sB 256 0,sO 2,sO 1,sI,.b (.cell [.d ty64,.d ty54,.d ty27,.d ty76] e),.b (.lst 3 iT e),.b (.lst 92 ty19 e)] ⟨[1,4,9,10,11],[256],[⟨2,3,iT,[.slot 9],e⟩,⟨1,92,ty19,[.slot 10],e⟩]⟩ [xD (.exit 0) [sO 3,.b (.lst 92 ty19 e)] ⟨[10],[],[⟨3,92,ty19,[.slot 10],e⟩]⟩] (Pw.unc8 (Pw.j5l))] 59 [.v ty82,.v iT,.v iT,.v iT] [.own 92 ty24] [] (Pw.unc4 Pw.jgz) func59 [jpQ,jul,jpU]
def jmr:CKt:=
 cQ tb {} [] 32 [.v ty82,.v iT,.v iT,.v iT] [.own 92 ty24,.v iT] [] (Pw.unc4 Pw.jb3) func32 [jrd,jpV]
def jrf:CKt:=
 cQ tb {} [lD 0 [sD ty25,sO 1,sI,.b (.lst 73 ty6 e)] ⟨[0,3,4],[],[⟨1,73,ty6,[.slot 3],e⟩]⟩ [xD (.exit 0) [sD ty25,sO 2,.b (.lst 73 ty6 e)] ⟨[0,3],[],[⟨2,73,ty6,[.slot 3],e⟩]⟩] (Pw.unc3 (Pw.j62)),lD 2 [sD ty25,sI] ⟨[0,6],[],[]⟩ [xD .ret [sI] ⟨[2],[],[]⟩,xD (.exit 2) [] ⟨[],[],[]⟩] (Pw.unc2 (Pw.j63))] 33 [.v ty25] [.v iT] [] (λh=>Pw.jir h) func33 [jcN]
def jwt:CKt:=
 cQ tb {dw:=[(5,dz [(10,[1])]),(6,dz [(10,[1])]),(9,dz [(7,[3840])])]} [lD 0 [sO 2,sB 192 0,sI,.b (.cell [.d iT,.d iT,.d iT] e),.b (.lst 83 ty19 e)] ⟨[0,3,5],[192],[⟨2,83,ty19,[.slot 0],e⟩]⟩ [xD (.exit 0) [sO 1,sB 192 0,sI,.b (.cell [.d iT,.d iT,.d iT] e),.b (.lst 83 ty19 e)] ⟨[0,3,5],[192],[⟨1,83,ty19,[.slot 0],e⟩]⟩] (Pw.unc5 (Pw.j7I))] 34 [.mv 83 ty24,.v ty19] [.own 83 ty24] [] (Pw.unc2 Pw.jlu) func34
def jrg:CKt:=
 cQ tb {dw:=[(18,dz [(10,[6464]),(2,[6656])]),(23,dz [(15,[10560,1])])],mvf:=[34]} [lD 1 [sI,sI,sI,sD ty25,sB 384 0,sO 2,sO 3,sI,.b (.cell [.d ty64,.d ty54,.d ty27,.d ty76] e),.b (.lst 92 ty19 e),.b (.lst 83 ty19 e)] ⟨[2,3,4,5,6,14,16,17],[384],[⟨2,92,ty19,[.slot 14],e⟩,⟨3,83,ty19,[.slot 16],e⟩]⟩ [xD (.exit 1) [sI,sI,sI,sD ty25,sB 384 0,sO 4,sO 5,.b (.cell [.d ty64,.d ty54,.d ty27,.d ty76] e),.b (.lst 92 ty19 e),.b (.lst 83 ty19 e)] ⟨[2,3,4,5,6,14,16],[384],[⟨4,92,ty19,[.slot 14],e⟩,⟨5,83,ty19,[.slot 16],e⟩]⟩] (Pw.u8 Pw.unc3 (Pw.j64)),lD 3 [sI,sI,sI,sD ty25,sB 384 0,sO 6,sO 7,sI,.b (.cell [.d ty64,.d ty54,.d ty27,.d ty76] e),.b (.lst 92 ty19 e),.b (.lst 83 ty19 e)] ⟨[2,3,4,5,6,14,16,19],[384],[⟨6,92,ty19,[.slot 14],e⟩,⟨7,83,ty19,[.slot 16],e⟩]⟩ [xD (.exit 3) [sO 8,.b (.lst 83 ty19 e)] ⟨[16],[],[⟨8,83,ty19,[.slot 16],e⟩]⟩] (Pw.u8 Pw.unc3 (Pw.j66)),lD 5 [sI,sI,sI,sD ty25,sB 384 0,sO 9,sO 1,sI,sO 10,sI,sI,.b (.cell [.d ty64,.d ty54,.d ty27,.d ty76] e),.b (.lst 92 ty19 e),.b (.lst 83 ty19 e),.b (.lst 99 ty6 e)] ⟨[2,3,4,5,6,14,16,19,20,22,23],[384],[⟨9,92,ty19,[.slot 14],e⟩,⟨1,83,ty19,[.slot 16],e⟩,⟨10,99,ty6,[.slot 20],e⟩]⟩ [xD (.exit 5) [sI,sI,sI,sD ty25,sB 384 0,sO 11,sO 12,sI,.b (.cell [.d ty64,.d ty54,.d ty27,.d ty76] e),.b (.lst 92 ty19 e),.b (.lst 83 ty19 e)] ⟨[2,3,4,5,6,14,16,19],[384],[⟨11,92,ty19,[.slot 14],e⟩,⟨12,83,ty19,[.slot 16],e⟩]⟩] (Pw.u8 Pw.unc6 (Pw.j65))] 12 [.v ty82,.v iT,.v iT,.v iT,.v iT,.v ty25] [.own 83 ty24,.v iT] [] (Pw.unc6 Pw.jg4) func12 [jlE,jmr,jrf,jwt]
def jms:CKt:=
 cQ tb {} [lD 0 [sD ty24,sI,sI] ⟨[0,1,5],[],[]⟩ [xD .ret [sI] ⟨[4],[],[]⟩,xD (.exit 0) [] ⟨[],[],[]⟩] (Pw.unc3 (Pw.j4o))] 14 [.v ty24,.v iT] [.v iT] [] (Pw.unc2 Pw.jdu) func14
def law19_ProposeOrder_k:CKt:=
 cQ tb {} [lD 0 [sB 256 0,sO 1,sI,sI,sO 2,sO 3,sI,sI,sI,.b (.cell [.d ty64,.d ty54,.d ty27,.d ty76] e),.b (.lst 75 ty20 e),.b (.lst 3 iT e),.b (.lst 83 ty19 e)] ⟨[4,5,6,7,8,10,12,62,63],[256],[⟨1,75,ty20,[.slot 5],e⟩,⟨2,3,iT,[.slot 8],e⟩,⟨3,83,ty19,[.slot 10],e⟩]⟩ [xD (.exit 0) [sB 256 0,sO 4,sI,sI,sO 5,sO 6,sI,.b (.cell [.d ty64,.d ty54,.d ty27,.d ty76] e),.b (.lst 75 ty20 e),.b (.lst 3 iT e),.b (.lst 83 ty19 e)] ⟨[4,5,6,7,8,10,12],[256],[⟨4,75,ty20,[.slot 5],e⟩,⟨5,3,iT,[.slot 8],e⟩,⟨6,83,ty19,[.slot 10],e⟩]⟩] (Pw.u8 Pw.unc4 (Pw.j22)),lD 2 [sB 256 0,sO 7,sI,sI,sO 8,sO 9,sI,sI,sI,.b (.cell [.d ty64,.d ty54,.d ty27,.d ty76] e),.b (.lst 75 ty20 e),.b (.lst 3 iT e),.b (.lst 83 ty19 e)] ⟨[4,5,6,7,8,10,12,75,76],[256],[⟨7,75,ty20,[.slot 5],e⟩,⟨8,3,iT,[.slot 8],e⟩,⟨9,83,ty19,[.slot 10],e⟩]⟩ [xD .ret [sD .bool] ⟨[2],[],[]⟩,xD (.exit 2) [sB 256 0,sO 10,sI,sI,sO 11,sI,.b (.cell [.d ty64,.d ty54,.d ty27,.d ty76] e),.b (.lst 75 ty20 e),.b (.lst 3 iT e)] ⟨[4,5,6,7,8,12],[256],[⟨10,75,ty20,[.slot 5],e⟩,⟨11,3,iT,[.slot 8],e⟩]⟩] (Pw.u8 Pw.unc4 (Pw.j23))] 3 [.v (.list iT)] [.v .bool] [] (λh=>Pw.j9R h) func3 [jpI,jbV,j4p,j9V,jlC,jpT,jrc,j49,jcK,jix,jhz,jrg,jms]
end Go.Proofs.Pk
