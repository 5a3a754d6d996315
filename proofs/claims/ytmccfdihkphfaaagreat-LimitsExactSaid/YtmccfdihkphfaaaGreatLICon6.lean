/- Contracts: each given function is its plain function, printed by a program. -/
import Derived.Test.YtmccfdihkphfaaaGreatLICon5
open Bool renaming false->e,true->l
open And renaming intro->i
noncomputable section
open Go Go.Lft
set_option linter.unusedVariables false
set_option maxRecDepth 100000
namespace Go.Proofs.Pk
open Tryz
def j9D:CKt:=
 cQ tb {dw:=[(3,dz [(21,[0]),(1,[0])])]} [lD 0 [sO 0,sI,sI,sI,sI,.b (.lst 66 ty43 e)] ⟨[0,1,2,3,10],[0],[]⟩ [xD (.exit 0) [.b (.lst 66 ty43 e)] ⟨[],[0],[]⟩] (Pw.unc5 (Pw.j0G))] 313 [.rl 66 ty45,.v iT,.v iT,.v iT,.clo 75 []] [] [.rl ty45] (Pw.unc4 Pw.j0z) func313
def j6y:CKt:=
 cQ tb {} [lD 0 [sO 0,sI,sC 75 [],sI,sI,.b (.lst 66 ty43 e)] ⟨[0,2,4,10,11],[0],[]⟩ [xD (.exit 0) [sO 0,sI,sC 75 [],sI,.b (.lst 66 ty43 e)] ⟨[0,2,4,10],[0],[]⟩] (Pw.unc4 (Pw.j1t))] 265 [.rl 66 ty45,.v iT,.v iT,.v iT,.clo 75 []] [] [.rl ty45] (Pw.unc4 Pw.j1d) func265 [j9D]
def j1z(g:HL [ty45,iT,iT,iT]->Option (HL [ty45])):Con:=⟨211,[.rl 66 ty45,.v iT,.v iT,.v iT,.clo 75 []],[ty45,iT,iT,iT],⟨[],[.rl ty45]⟩,[ty45],g⟩
def j9R(g:HL [ty45,iT,iT,iT]->Option (HL [ty45])):FnD where
 N:=220
 np:=5
 cs:=[j1z g,j8A.1,j6y.1]
 ds:=[⟨0,[sO 0,sI,sC 75 [],sI,sI,.b (.lst 66 ty43 e)],[iT,iT,iT,ty45],[⟨.exit 0,[sO 0,sI,sI,.b (.lst 66 ty43 e)],[iT,iT,ty45]⟩],Pw.unc4 (Pw.j0M (λv0 v1 v2 v3=>g (v0,v1,v2,v3)))⟩,⟨2,[sO 0,sI,sI,.b (.lst 66 ty43 e)],[iT,iT,ty45],[⟨.exit 2,[.b (.lst 66 ty43 e)],[ty45]⟩],Pw.unc3 (Pw.j0N (λv0 v1 v2 v3=>g (v0,v1,v2,v3)))⟩,⟨4,[sO 0,sI,sC 75 [],sI,sI,.b (.lst 66 ty43 e)],[iT,iT,iT,ty45],[⟨.exit 4,[sO 0,sI,sI,.b (.lst 66 ty43 e)],[iT,iT,ty45]⟩],Pw.unc4 (Pw.j0O (λv0 v1 v2 v3=>g (v0,v1,v2,v3)))⟩,⟨6,[sO 0,sI,sI,.b (.lst 66 ty43 e)],[iT,iT,ty45],[⟨.exit 6,[.b (.lst 66 ty43 e)],[ty45]⟩],Pw.unc3 (Pw.j0P (λv0 v1 v2 v3=>g (v0,v1,v2,v3)))⟩,⟨8,[sO 0,sI,sI,sI,sC 75 [],sI,sI,sI,sI,sI,.b (.lst 66 ty43 e)],[iT,iT,iT,iT,iT,iT,iT,iT,ty45],[⟨.exit 8,[sO 0,sI,sI,sI,sC 75 [],sI,sI,sI,.b (.lst 66 ty43 e)],[iT,iT,iT,iT,iT,iT,ty45]⟩],Pw.unc9 (Pw.j0Q (λv0 v1 v2 v3=>g (v0,v1,v2,v3)))⟩]
 modes:=[(211,[l,e,e,e,e]),(265,[l,e,e,e,e])]
 keep:=[(0,⟨[0,1,4,10,11],[0],[]⟩),(2,⟨[0,10,13],[0],[]⟩),(4,⟨[0,2,4,14,15],[0],[]⟩),(6,⟨[0,14,17],[0],[]⟩),(8,⟨[0,1,2,3,4,18,19,20,21,22],[0],[]⟩)]
 keepX:=[(0,.exit 0,⟨[0,1,10],[0],[]⟩),(2,.exit 2,⟨[],[0],[]⟩),(4,.exit 4,⟨[0,2,14],[0],[]⟩),(6,.exit 6,⟨[],[0],[]⟩),(8,.exit 8,⟨[0,1,2,3,4,18,19,20],[0],[]⟩)]
 dw:=[(11,[[],[],[],[],[],[],[],[],[],[],[],[],[],[],[],[0],[],[0]]),(23,[[],[],[],[],[],[],[],[],[],[],[],[],[],[],[],[0],[],[0]])]
theorem j98(g:HL [ty45,iT,iT,iT]->Option (HL [ty45]))(hg:OKc (j1z g)):OKc (j1z (Pw.j12 g)):=
 cOf jqz jis (j9R g) (j1z (Pw.j12 g)) func211 (i hg (i j8A.2 (i j6y.2 trivial))) (i (λh=>by kernel_rfl) (i (λh=>by kernel_rfl) (i (λh=>by kernel_rfl) (i (λh=>by kernel_rfl) (i (λh=>by kernel_rfl) trivial)))))
def j9S:CKt:=
 ⟨⟨211,[.rl 66 ty45,.v iT,.v iT,.v iT,.clo 75 []],[ty45,iT,iT,iT],⟨[],[.rl ty45]⟩,[ty45],λh=>Pw.j1u h.1 h.2.1 h.2.2.1 h.2.2.2⟩,jtv (f:=211) (ps:=[.rl 66 ty45,.v iT,.v iT,.v iT,.clo 75 []]) (ts:=[ty45,iT,iT,iT]) (rp:=⟨[],[.rl ty45]⟩) (rs:=[ty45]) (B:=Pw.j12) j98⟩
def jaB:CKt:=
 cQ tb {} [lD 0 [sO 0,sI,sC 75 [],sI,sI,sI,.b (.lst 66 ty43 e)] ⟨[0,1,2,6,7,8],[0],[]⟩ [xD (.exit 0) [sO 0,sI,sC 75 [],sI,sI,.b (.lst 66 ty43 e)] ⟨[0,1,2,6,7],[0],[]⟩] (Pw.unc5 (Pw.j0u)),lD 2 [sO 0,sI,sC 75 [],sI,.b (.lst 66 ty43 e)] ⟨[0,1,2,6],[0],[]⟩ [xD (.exit 2) [.b (.lst 66 ty43 e)] ⟨[],[0],[]⟩] (Pw.unc3 (Pw.j0W)),lD 4 [sO 0,sI,sC 75 [],sI,sI,sI,.b (.lst 66 ty43 e)] ⟨[0,1,2,6,7,8],[0],[]⟩ [xD (.exit 4) [sO 0,sI,sC 75 [],sI,sI,.b (.lst 66 ty43 e)] ⟨[0,1,2,6,7],[0],[]⟩] (Pw.unc5 (Pw.j0v))] 135 [.rl 66 ty45,.v iT,.clo 75 []] [] [.rl ty45] (Pw.unc2 Pw.j4p) func135 [j8B,j9S]
def j7k:CKt:=
 cQ tb {} [] 74 [.rl 66 ty45,.clo 75 []] [] [.rl ty45] (λh=>Pw.j0H h) func74 [jaB]
def jjA:CKt:=
 cQ tb {dw:=[(22,dz [(11,[4736]),(0,[4800,1])])]} [lD 1 [sI,sI,sB 512 0,sO 2,sD ty79,sI,sI,.b (.cell [.d ty67,.d ty57,.d ty31,.d ty79,.d ty34] e),.b (.lst 48 ty29 e)] ⟨[1,2,8,10,31,32,33],[512],[⟨2,48,ty29,[.slot 10],e⟩]⟩ [xD .ret [.s (.one (.nil)),sI] ⟨[6,7],[],[]⟩,xD (.exit 1) [sO 3,.b (.lst 48 ty29 e)] ⟨[10],[],[⟨3,48,ty29,[.slot 10],e⟩]⟩] (Pw.u8 Pw.unc3 (Pw.j34)),lD 3 [sO 4,sO 5,sI,sI,.b (.lst 48 ty29 e),.b (.lst 66 ty43 e)] ⟨[10,14,51,52],[],[⟨4,48,ty29,[.slot 10],e⟩,⟨5,66,ty43,[.slot 14],e⟩]⟩ [xD (.exit 3) [sO 6,.b (.lst 66 ty43 e)] ⟨[14],[],[⟨6,66,ty43,[.slot 14],e⟩]⟩] (Pw.unc4 (Pw.j36)),lD 5 [sO 7,sO 1,sI,sI,sI,sI,.b (.lst 48 ty29 e),.b (.lst 66 ty43 e)] ⟨[10,14,15,16,51,52],[],[⟨7,48,ty29,[.slot 10],e⟩,⟨1,66,ty43,[.slot 14],e⟩]⟩ [xD (.exit 5) [sO 8,sO 9,sI,sI,.b (.lst 48 ty29 e),.b (.lst 66 ty43 e)] ⟨[10,14,51,52],[],[⟨8,48,ty29,[.slot 10],e⟩,⟨9,66,ty43,[.slot 14],e⟩]⟩] (Pw.unc6 (Pw.j35))] 28 [.v ty85,.v iT,.v iT] [.own 66 ty45,.v iT] [] (Pw.unc3 Pw.j7s) func28 [jmx,jgU,jf1,jkn,j7k]
def jh1:CKt:=
 cQ tb {} [lD 0 [sI,sI,sD ty15,sI,sI] ⟨[1,5,8,9,10],[],[]⟩ [xD (.exit 0) [sI] ⟨[5],[],[]⟩] (Pw.unc5 (Pw.j4q))] 110 [.v ty15,.v iT] [.v iT] [] (Pw.unc2 Pw.j8L) func110
def jnm:CKt:=
 cQ tb {} [lD 0 [sD ty15,sI,sI,sI,sO 1,sD ty15,sI,sI,.b (.lst 3 iT e)] ⟨[0,1,2,3,9,18,19,20],[],[⟨1,3,iT,[.slot 9],e⟩]⟩ [xD (.exit 0) [sD ty15,sI,sI,sI,sO 2,.b (.lst 3 iT e)] ⟨[0,1,2,3,9],[],[⟨2,3,iT,[.slot 9],e⟩]⟩] (Pw.unc8 (Pw.j57)),lD 2 [sD ty15,sI,sO 3,sI,sO 4,sI,sI,.b (.lst 3 iT e),.b (.lst 3 iT e)] ⟨[0,1,12,13,42,43,44],[],[⟨3,3,iT,[.slot 12],e⟩,⟨4,3,iT,[.slot 42],e⟩]⟩ [xD (.exit 2) [sO 5,.b (.lst 3 iT e)] ⟨[12],[],[⟨5,3,iT,[.slot 12],e⟩]⟩] (Pw.unc7 (Pw.j58))] 88 [.v ty15,.v iT,.v iT,.v iT] [.own 3 (.list iT)] [] (Pw.unc4 Pw.jdU) func88 [jmy,jh1]
def jnn:CKt:=
 cQ tb {} [lD 0 [sD ty15,sI,sO 1,sI,.b (.lst 3 iT e)] ⟨[0,1,5,6],[],[⟨1,3,iT,[.slot 5],e⟩]⟩ [xD (.exit 0) [sO 2,.b (.lst 3 iT e)] ⟨[5],[],[⟨2,3,iT,[.slot 5],e⟩]⟩] (Pw.unc4 (Pw.j3F))] 89 [.v ty15,.v iT] [.own 3 (.list iT)] [] (Pw.unc2 Pw.jdV) func89
def jf2:CKt:=
 cQ tb {} [] 92 [.v ty89,.v iT] [.v ty30] [] (Pw.unc2 Pw.j5C) func92
def jmD:CKt:=
 cQ tb {} [lD 0 [sO 1,sD ty15,sI,sI,.b (.lst 3 iT e)] ⟨[3,6,7,8],[],[⟨1,3,iT,[.slot 3],e⟩]⟩ [xD (.exit 0) [sO 2,.b (.lst 3 iT e)] ⟨[3],[],[⟨2,3,iT,[.slot 3],e⟩]⟩] (Pw.unc4 (Pw.j4r))] 93 [.v ty15] [.own 3 (.list iT)] [] (λh=>Pw.jck h) func93
def jno:CKt:=
 cQ tb {} [] 95 [.v ty24,.v ty24] [.v iT] [] (Pw.unc2 Pw.j5n) func95
def jaC:FnD where
 N:=14
 np:=2
 cs:=[jno.1]
def j1v:CKt:=
 ⟨⟨94,[.rl 148 ty29,.clo 95 []],[ty29],⟨[],[.rl ty29]⟩,[ty29],λh=>Pw.j0a h⟩,joS Tryz.sort94 (ty24) rfl 148 (by kernel_rfl) isAgg148 sizeOf148 _ 95 (enters_of func95 (by kernel_rfl) rfl) juT juU 94 rfl⟩
def j6U:CKt:=
 cQ tb {hd:=l} [lD 0 [sO 0,sI,.b (.lst 148 ty24 e)] ⟨[0,3],[0],[]⟩ [xD .ret [.s (.one (.hd 0)),.b (.lst 148 ty24 e)] ⟨[2],[0],[]⟩,xD (.exit 0) [sO 0,.b (.lst 148 ty24 e)] ⟨[0],[0],[]⟩] (Pw.unc2 (Pw.j0n)),lD 2 [sO 0,sI,.s (.one (.tl 0)),sI,.b (.lst 148 ty24 e)] ⟨[0,3,4,5],[0],[]⟩ [xD (.exit 2) [sO 0,sI,.b (.lst 148 ty24 e)] ⟨[0,3],[0],[]⟩] (Pw.unc4 (Pw.j0m))] 96 [.rl 148 ty29] [.hd] [.rl ty29] (λh=>Pw.j0E h) func96
def j9E:CKt:=
 cQ tb {dw:=[(17,dz [(9,[5888]),(0,[5952])])]} [lD 0 [sI,sB 960 0,sO 1,sI,sI,.b (.cell [.ol 2,.ol 3,.ol 4,.ol 5] e),.b (.lst 66 ty43 e),.b (.lst 3 iT e),.b (.lst 3 iT e),.b (.lst 3 iT e),.b (.lst 3 iT e)] ⟨[1,15,100,101,102],[960],[⟨1,66,ty43,[.slot 100],e⟩,⟨2,3,iT,[.cell 960 0],e⟩,⟨3,3,iT,[.cell 960 1],e⟩,⟨4,3,iT,[.cell 960 2],e⟩,⟨5,3,iT,[.cell 960 3],e⟩]⟩ [xD (.exit 0) [sI,sB 960 0,.b (.cell [.ol 6,.ol 7,.ol 8,.ol 9] e),.b (.lst 3 iT e),.b (.lst 3 iT e),.b (.lst 3 iT e),.b (.lst 3 iT e)] ⟨[1,15],[960],[⟨6,3,iT,[.cell 960 0],e⟩,⟨7,3,iT,[.cell 960 1],e⟩,⟨8,3,iT,[.cell 960 2],e⟩,⟨9,3,iT,[.cell 960 3],e⟩]⟩] (Pw.unc8 (Pw.j2E)),lD 2 [sI,sO 10,.s (.av 4 (.list iT)),sI,.b (.lst 148 ty24 e)] ⟨[1,19,118,119],[],[⟨10,148,ty24,[.slot 19],e⟩]⟩ [xD (.exit 2) [sO 11,.b (.lst 148 ty24 e)] ⟨[19],[],[⟨11,148,ty24,[.slot 19],e⟩]⟩] (Pw.unc4 (Pw.j13)),lD 4 [sI,sO 12,sI,.s (.av 4 (.list iT)),sI,sD (.list iT),sI,sI,.b (.lst 148 ty24 e)] ⟨[1,19,20,118,119,123,124,125],[],[⟨12,148,ty24,[.slot 19],e⟩]⟩ [xD (.exit 4) [sI,sO 13,.s (.av 4 (.list iT)),sI,.b (.lst 148 ty24 e)] ⟨[1,19,118,119],[],[⟨13,148,ty24,[.slot 19],e⟩]⟩] (Pw.unc8 (Pw.j2F))] 39 [.v ty85,.v iT,.v iT,.v iT] [.own 148 ty29,.v iT] [] (Pw.unc4 Pw.j1H) func39 [jfC,jhW,jjx,jh0,jjA,jnm,jnn,jf2,jmD,j1v,j6U]
def jh2:CKt:=
 cQ tb {} [] 41 [.v ty85,.v iT,.v iT,.v iT] [.own 59 ty15,.v iT] [] (Pw.unc4 Pw.j8M) func41 [jfC,jh0]
def jmE:CKt:=
 cQ tb {} [] 104 [.v ty9] [.v iT] [] (λh=>Pw.j5h h) func104 [jgR]
def jv4:CKt:=
 cQ tb {} [lD 0 [sI,sD ty15,sI,sI] ⟨[1,7,8,9],[],[]⟩ [xD .ret [sD .bool] ⟨[4],[],[]⟩,xD (.exit 0) [] ⟨[],[],[]⟩] (Pw.unc4 (Pw.j7t))] 103 [.v ty15,.v iT] [.v .bool] [] (Pw.unc2 Pw.jj3) func103
def je4:CKt:=
 cQ tb {} [] 45 [.v ty85,.v iT,.v iT,.v .bool] [.v .bool] [] (Pw.unc4 Pw.j4V) func45 [jfC,je3,jf2,jmE,jv4]
def jqT:CKt:=
 cQ tb {} [] 38 [] [.v .bool] [] (λh=>Pw.jhi) func38 [joZ,j9E,jh2,je4]
end Go.Proofs.Pk
