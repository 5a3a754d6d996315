/- Contracts: each given function is its plain function, printed by a program. -/
import Derived.Test.YtmlokiiopbjgfaaGreatEECon0
open Bool renaming false->c
open And renaming intro->e
noncomputable section
open Go Go.Lft
set_option linter.unusedVariables false
set_option maxRecDepth 100000
namespace Go.Proofs.Pk
def j3e:CKt:=
 cQ tb {} [lD 0 [sO 0,sI,sC 160 [],sI,sI,.b (.lst 187 ty6 c)] ⟨[0,2,4,10,11],[0],[]⟩ [xD (.exit 0) [sO 0,sI,sC 160 [],sI,.b (.lst 187 ty6 c)] ⟨[0,2,4,10],[0],[]⟩] (Pw.unc4 (Pw.j2d))] 187 [.rl 187 ty10,.v iT,.v iT,.v iT,.clo 160 []] [] [.rl ty10] (Pw.unc4 Pw.j1L) Tryz.func187 [j5d]
def j0K(g:HL [ty10,iT,iT,iT]->Option (HL [ty10])):Con:=⟨184,[.rl 187 ty10,.v iT,.v iT,.v iT,.clo 160 []],[ty10,iT,iT,iT],⟨[],[.rl ty10]⟩,[ty10],g⟩
def j5o(g:HL [ty10,iT,iT,iT]->Option (HL [ty10])):FnD where
 N:=220
 np:=5
 cs:=[j0K g,j5I.1,j3e.1]
 ds:=[⟨0,[sO 0,sI,sC 160 [],sI,sI,.b (.lst 187 ty6 c)],[iT,iT,iT,ty10],[⟨.exit 0,[sO 0,sI,sI,.b (.lst 187 ty6 c)],[iT,iT,ty10]⟩],Pw.unc4 (Pw.j1U (λv0 v1 v2 v3=>g (v0,v1,v2,v3)))⟩,⟨2,[sO 0,sI,sI,.b (.lst 187 ty6 c)],[iT,iT,ty10],[⟨.exit 2,[.b (.lst 187 ty6 c)],[ty10]⟩],Pw.unc3 (Pw.j1V (λv0 v1 v2 v3=>g (v0,v1,v2,v3)))⟩,⟨4,[sO 0,sI,sC 160 [],sI,sI,.b (.lst 187 ty6 c)],[iT,iT,iT,ty10],[⟨.exit 4,[sO 0,sI,sI,.b (.lst 187 ty6 c)],[iT,iT,ty10]⟩],Pw.unc4 (Pw.j1W (λv0 v1 v2 v3=>g (v0,v1,v2,v3)))⟩,⟨6,[sO 0,sI,sI,.b (.lst 187 ty6 c)],[iT,iT,ty10],[⟨.exit 6,[.b (.lst 187 ty6 c)],[ty10]⟩],Pw.unc3 (Pw.j1X (λv0 v1 v2 v3=>g (v0,v1,v2,v3)))⟩,⟨8,[sO 0,sI,sI,sI,sC 160 [],sI,sI,sI,sI,sI,.b (.lst 187 ty6 c)],[iT,iT,iT,iT,iT,iT,iT,iT,ty10],[⟨.exit 8,[sO 0,sI,sI,sI,sC 160 [],sI,sI,sI,.b (.lst 187 ty6 c)],[iT,iT,iT,iT,iT,iT,ty10]⟩],Pw.unc9 (Pw.j1Y (λv0 v1 v2 v3=>g (v0,v1,v2,v3)))⟩]
 modes:=[(184,[true,c,c,c,c]),(187,[true,c,c,c,c])]
 keep:=[(0,⟨[0,1,4,10,11],[0],[]⟩),(2,⟨[0,10,13],[0],[]⟩),(4,⟨[0,2,4,14,15],[0],[]⟩),(6,⟨[0,14,17],[0],[]⟩),(8,⟨[0,1,2,3,4,18,19,20,21,22],[0],[]⟩)]
 keepX:=[(0,.exit 0,⟨[0,1,10],[0],[]⟩),(2,.exit 2,⟨[],[0],[]⟩),(4,.exit 4,⟨[0,2,14],[0],[]⟩),(6,.exit 6,⟨[],[0],[]⟩),(8,.exit 8,⟨[0,1,2,3,4,18,19,20],[0],[]⟩)]
 dw:=[(11,[[],[],[],[],[],[],[],[],[],[],[],[],[],[],[],[0],[],[0]]),(23,[[],[],[],[],[],[],[],[],[],[],[],[],[],[],[],[0],[],[0]])]
theorem j4O(g:HL [ty10,iT,iT,iT]->Option (HL [ty10]))(hg:OKc (j0K g)):OKc (j0K (Pw.j0M g)):=
 cOf jeK j8h (j5o g) (j0K (Pw.j0M g)) Tryz.func184 (e hg (e j5I.2 (e j3e.2 trivial))) (e (λh=>by kernel_rfl) (e (λh=>by kernel_rfl) (e (λh=>by kernel_rfl) (e (λh=>by kernel_rfl) (e (λh=>by kernel_rfl) trivial)))))
def j5p:CKt:=
 ⟨⟨184,[.rl 187 ty10,.v iT,.v iT,.v iT,.clo 160 []],[ty10,iT,iT,iT],⟨[],[.rl ty10]⟩,[ty10],λh=>Pw.j1w h.1 h.2.1 h.2.2.1 h.2.2.2⟩,jtU (f:=184) (ps:=[.rl 187 ty10,.v iT,.v iT,.v iT,.clo 160 []]) (ts:=[ty10,iT,iT,iT]) (rp:=⟨[],[.rl ty10]⟩) (rs:=[ty10]) (B:=Pw.j0M) j4O⟩
def j5Q:CKt:=
 cQ tb {} [lD 0 [sO 0,sI,sC 160 [],sI,sI,sI,.b (.lst 187 ty6 c)] ⟨[0,1,2,6,7,8],[0],[]⟩ [xD (.exit 0) [sO 0,sI,sC 160 [],sI,sI,.b (.lst 187 ty6 c)] ⟨[0,1,2,6,7],[0],[]⟩] (Pw.unc5 (Pw.j0I)),lD 2 [sO 0,sI,sC 160 [],sI,.b (.lst 187 ty6 c)] ⟨[0,1,2,6],[0],[]⟩ [xD (.exit 2) [.b (.lst 187 ty6 c)] ⟨[],[0],[]⟩] (Pw.unc3 (Pw.j0J)),lD 4 [sO 0,sI,sC 160 [],sI,sI,sI,.b (.lst 187 ty6 c)] ⟨[0,1,2,6,7,8],[0],[]⟩ [xD (.exit 4) [sO 0,sI,sC 160 [],sI,sI,.b (.lst 187 ty6 c)] ⟨[0,1,2,6,7],[0],[]⟩] (Pw.unc5 (Pw.j2e))] 174 [.rl 187 ty10,.v iT,.clo 160 []] [] [.rl ty10] (Pw.unc2 Pw.j1M) Tryz.func174 [j4x,j5p]
def j3j:CKt:=
 cQ tb {} [] 159 [.rl 187 ty10,.clo 160 []] [] [.rl ty10] (λh=>Pw.j0g h) Tryz.func159 [j5Q]
def jdV:CKt:=
 cQ tb {} [lD 0 [sB 64 0,sI,sD ty55,sI,sI,.b (.cell [.d .str,.d iT,.d ty55] c)] ⟨[1,4,23,24,25],[64],[]⟩ [xD .ret [.s (.one (.nil)),sI] ⟨[2,3],[],[]⟩,xD (.exit 0) [sB 64 0,sI,.b (.cell [.d .str,.d iT,.d ty55] c)] ⟨[1,4],[64],[]⟩] (Pw.unc7 (Pw.j1p)),lD 2 [sO 1,sD ty55,sI,sI,.b (.lst 187 ty6 c)] ⟨[8,46,47,48],[],[⟨1,187,ty6,[.slot 8],c⟩]⟩ [xD (.exit 2) [sO 2,.b (.lst 187 ty6 c)] ⟨[8],[],[⟨2,187,ty6,[.slot 8],c⟩]⟩] (Pw.unc4 (Pw.j21)),lD 4 [sO 3,sB 640 0,sI,sD ty55,sI,sI,.b (.cell [.d iT,.d iT,.d iT,.d iT,.d iT,.d iT,.d iT] c),.b (.lst 187 ty6 c)] ⟨[8,10,11,46,47,48],[640],[⟨3,187,ty6,[.slot 8],c⟩]⟩ [xD (.exit 4) [sO 4,sD ty55,sI,sI,.b (.lst 187 ty6 c)] ⟨[8,46,47,48],[],[⟨4,187,ty6,[.slot 8],c⟩]⟩] (Pw.u8 Pw.unc4 (Pw.j20))] 135 [.v ty62] [.own 187 ty10,.v iT] [] (λh=>Pw.j2z h) Tryz.func135 [jgq,jlg,jlh,j3j]
def j9B:CKt:=
 cQ tb {} [lD 0 [sO 1,sI,sO 2,sI,sI,.b (.lst 189 ty6 c),.b (.lst 187 ty6 c)] ⟨[6,7,22,23,24],[],[⟨1,189,ty6,[.slot 6],c⟩,⟨2,187,ty6,[.slot 22],c⟩]⟩ [xD .ret [.s (.one (.nil)),sI] ⟨[2,3],[],[]⟩,xD (.exit 0) [sO 3,.b (.lst 189 ty6 c)] ⟨[6],[],[⟨3,189,ty6,[.slot 6],c⟩]⟩] (Pw.unc5 (Pw.j16))] 115 [.v ty62] [.own 189 ty10,.v iT] [] (λh=>Pw.j14 h) Tryz.func115 [jgq,jdV]
def jjX:CKt:=
 cQ tb {} [] 85 [.v ty62] [.v iT] [] (λh=>Pw.ja7 h) Tryz.func85 [j9B]
def jbt:CKt:=
 cQ tb {} [] 87 [.v ty52] [.v .bool] [] (λh=>Pw.j5U h) Tryz.func87
def j4y:CKt:=
 cQ tb {} [lD 0 [sD ty55,sC 87 [],sI,sI] ⟨[0,1,7,8],[],[]⟩ [xD .ret [sI] ⟨[4],[],[]⟩,xD (.exit 0) [] ⟨[],[],[]⟩] (Pw.unc3 (Pw.j0i))] 116 [.v ty55,.clo 87 []] [.v iT] [] (λh=>Pw.j1f h) Tryz.func116 [jbt]
def j4n:CKt:=
 cQ tb {} [] 86 [.v ty55,.clo 87 []] [.v .bool] [] (λh=>Pw.j0G h) Tryz.func86 [j4y]
def jd6:CKt:=
 cQ tb {} [] 54 [.v ty62] [.v iT] [] (λh=>Pw.j1x h) Tryz.func54 [jjX,j4n]
def jaf:CKt:=
 cQ tb {} [lD 0 [sC 53 [],sC 54 [],sO 1,sD ty63,sI,sI,.b (.lst 4294967404 (.pair .str .bool) c)] ⟨[1,2,7,13,14,15],[],[⟨1,4294967404,(.pair .str .bool),[.slot 7],c⟩]⟩ [xD .ret [sI] ⟨[6],[],[]⟩,xD (.exit 0) [] ⟨[],[],[]⟩] (Pw.unc4 (Pw.j0P))] 52 [.v ty63,.clo 53 [],.clo 54 []] [.v iT] [] (λh=>Pw.j2K h) Tryz.func52 [jdT,j62,jd6]
def j5J:CKt:=
 cQ tb {} [] 89 [.v iT,.v iT] [.v .bool] [] (Pw.unc2 Pw.j12) Tryz.func89
def jf8:CKt:=
 cQ tb {} [lD 0 [sD ty10,sD ty10,sI,sI] ⟨[0,8,9,10],[],[]⟩ [xD .ret [sI] ⟨[2],[],[]⟩,xD (.exit 0) [] ⟨[],[],[]⟩] (Pw.unc4 (Pw.j3V))] 90 [.v ty10] [.v iT] [] (λh=>Pw.j8E h) Tryz.func90
def jc1:CKt:=
 cQ tb {} [] 119 [.v iT,.v iT,.v iT] [.v .bool] [] (Pw.unc3 Pw.j2O) Tryz.func119
def jgr:CKt:=
 cQ tb {} [] 91 [.v iT] [.v .bool] [] (λh=>Pw.j4I h) Tryz.func91 [jc1]
def jc2:CKt:=
 cQ tb {} [] 56 [.v ty81,.v ty50] [.v iT] [] (Pw.unc2 Pw.j3K) Tryz.func56 [j5J,jf8,jgr]
def jdW:CKt:=
 cQ tb {} [] 58 [.v ty20] [.v .str] [] (λh=>Pw.j6a h) Tryz.func58
def jjY:CKt:=
 cQ tb {} [lD 0 [sI,sI] ⟨[0,3],[],[]⟩ [xD (.exit 0) [sI] ⟨[3],[],[]⟩] (Pw.unc2 (Pw.j3W))] 138 [.v iT] [.v iT] [] (λh=>Pw.jce h) Tryz.func138 [jdU,jaT]
def jgY:CKt:=
 cQ tb {} [lD 0 [sB 128 0,sB 256 0,sI,.b (.cell [.d iT,.d iT,.d iT] c),.b (.cell [.d iT,.d iT,.d iT] c)] ⟨[2,4,5],[128,256],[]⟩ [xD (.exit 0) [sB 128 0,sB 256 0,sI,.b (.cell [.d iT,.d iT,.d iT] c),.b (.cell [.d iT,.d iT,.d iT] c)] ⟨[2,4,5],[128,256],[]⟩] (Pw.unc7 (Pw.j3l))] 121 [.v iT] [.v ty18,.v iT] [] (λh=>Pw.j6x h) Tryz.func121 [j9A,jaT,jjY]
end Go.Proofs.Pk
