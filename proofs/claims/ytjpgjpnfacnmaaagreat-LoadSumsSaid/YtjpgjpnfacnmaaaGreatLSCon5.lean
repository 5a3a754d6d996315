/- cp: each given function is its plain function, printed by a program. -/
import Derived.Test.YtjpgjpnfacnmaaaGreatLSCon4
noncomputable section
open Go Go.Lft
set_option linter.unusedVariables false
set_option maxRecDepth 100000
namespace Go.Proofs.Pk
def Pn:Con:=⟨263,[.v aJ],[aJ],⟨[.v iT],[]⟩,[iT],λh=>Pw.j3V h⟩
def jnI:FnD where
 N:=11
 np:=1
theorem jmM:aB Pn:=
 cOf aC aF jnI Pn Tryz.func263 trivial trivial
def Po:Con:=⟨213,[.v cQ,.v aJ],[cQ,aJ],⟨[.v iT,.v .bool],[]⟩,[iT,.bool],Pw.unc2 Pw.j2w⟩
def jjR:FnD where
 N:=30
 np:=2
 cs:=[FF,Pn]
 ds:=[⟨0,[sB 192 0,sO 1000000,sI,sI,.b (.cell [.d iT,.d iT] false),.b (.lst 230 aA false)],[iT,iT,iT,iT,aq],[⟨.ret,[sI,sD .bool],[iT,.bool]⟩,⟨.exit 0,[],[]⟩],Pw.unc5 (Pw.j18)⟩]
 keep:=[(0,⟨[3,10,11,12],[192],[⟨1000000,230,aA,[.slot 10],false⟩],[]⟩)]
 keepX:=[(0,.ret,⟨[4,5],[],[],[]⟩)]
theorem jiL:aB Po:=
 cOf aC aF jjR Po Tryz.func213 (ja Pm (ja jmM trivial)) (ja (λh=>by kernel_rfl) trivial)
def FG:Con:=⟨151,[.v cQ,.v bN,.v iT],[cQ,bN,iT],⟨[.v iT,.v .bool],[]⟩,[iT,.bool],Pw.unc3 Pw.j0H⟩
def jjS:FnD where
 N:=50
 np:=3
 cs:=[Jj,Po]
 dw:=[(5,[[],[],[],[],[],[],[],[],[512]])]
theorem Pp:aB FG:=
 cOf aC aF jjS FG Tryz.func151 (ja Yp (ja jiL trivial)) trivial
def Ys:Con:=⟨243,[.v aa],[aa],⟨[.own 139 aa],[]⟩,[aa],λh=>Pw.j30 h⟩
def j9w:FnD where
 N:=8
 np:=1
 ro:=[true]
theorem j9o:aB Ys:=
 VQ aC aF j9w 243 aJ 139 Tryz.f243 (Tryz.f243.body.getD .skip) Tryz.func243 (by kernel_rfl) (by kernel_rfl) (qq (by kernel_rfl)) (by kernel_rfl) trivial (by kernel_rfl)
  (λh R k=>by kernel_rfl)
def Jm:Con:=⟨244,[.v aJ],[aJ],⟨[.v .bool],[]⟩,[.bool],λh=>Pw.j92 h⟩
def jmN:FnD where
 N:=8
 np:=1
theorem Yt:aB Jm:=
 cOf aC aF jmN Jm Tryz.func244 trivial trivial
def Pq:Con:=⟨285,[.rl 139 aa,.clo 244 []],[aa],⟨[.v iT],[.rl aa]⟩,[iT,aa],λh=>Pw.j2c h⟩
def j8g:FnD where
 N:=19
 np:=2
 cs:=[Jm]
 ds:=[⟨0,[sO 0,sC 244 [],sI,sI,.b (.lst 139 aJ false)],[iT,iT,aa],[⟨.ret,[sI,.b (.lst 139 aJ false)],[iT,aa]⟩,⟨.exit 0,[.b (.lst 139 aJ false)],[aa]⟩],Pw.unc3 (Pw.j0p)⟩]
 keep:=[(0,⟨[0,1,7,8],[0],[],[]⟩)]
 keepX:=[(0,.ret,⟨[4],[0],[],[]⟩),(0,.exit 0,⟨[],[0],[],[]⟩)]
theorem j7Z:aB Pq:=
 cOf aC aF j8g Pq Tryz.func285 (ja Yt trivial) (ja (λh=>by kernel_rfl) trivial)
def Pr:Con:=⟨242,[.rl 139 aa,.clo 244 []],[aa],⟨[.hd],[.rl aa]⟩,[iT,aa],λh=>Pw.j1h h⟩
def j80:FnD where
 N:=42
 np:=2
 cs:=[Jm,Pq]
 ds:=[⟨0,[sO 0,sC 244 [],sI,sI,.b (.lst 139 aJ false)],[iT,iT,aa],[⟨.exit 0,[sO 0,sI,.b (.lst 139 aJ false)],[iT,aa]⟩],Pw.unc3 (Pw.j0m)⟩]
 modes:=[(285,[true,false])]
 keep:=[(0,⟨[0,1,5,6],[0],[],[]⟩)]
 keepX:=[(0,.exit 0,⟨[0,5],[0],[],[]⟩)]
 hd:=true
theorem j7E:aB Pr:=
 cOf aC aF j80 Pr Tryz.func242 (ja Yt (ja j7Z trivial)) (ja (λh=>by kernel_rfl) trivial)
def Ps:Con:=⟨246,[.v aJ,.v aJ],[aJ,aJ],⟨[.v iT],[]⟩,[iT],Pw.unc2 Pw.j7s⟩
def jmO:FnD where
 N:=10
 np:=2
theorem jx6:aB Ps:=
 cOf aC aF jmO Ps Tryz.func246 trivial trivial
def Yu:Con:=⟨245,[.rl 139 aa,.clo 246 []],[aa],⟨[],[.rl aa]⟩,[aa],λh=>Pw.j0M h⟩
def jbW:FnD where
 N:=14
 np:=2
 cs:=[Ps]
theorem j3T:aB Yu:=
 Wa Tryz.sort245 (aJ) rfl 139 (by kernel_rfl) Tryz.isAgg139 Tryz.sizeOf139 _ 246 (enters_of Tryz.func246 (by kernel_rfl) rfl) jtm jtn 245 rfl
def zY:Con:=⟨169,[.v aa],[aa],⟨[.own 139 aa],[]⟩,[aa],λh=>Pw.j8M h⟩
def js6:FnD where
 N:=54
 np:=1
 cs:=[Ys,Pr,Yu]
 ds:=[⟨0,[sO 1000000,sO 1000001,sI,sI,.b (.lst 139 aJ false),.b (.lst 139 aJ false)],[iT,iT,aa,aa],[⟨.exit 0,[sO 1500100,.b (.lst 139 aJ false)],[aa]⟩],Pw.unc4 (Pw.j3n)⟩]
 modes:=[(242,[true,false]),(245,[true,false])]
 keep:=[(0,⟨[4,13,14,15],[],[⟨1000000,139,aJ,[.slot 4],false⟩,⟨1000001,139,aJ,[.slot 13],false⟩],[]⟩)]
 keepX:=[(0,.exit 0,⟨[4],[],[⟨1500100,139,aJ,[.slot 4],false⟩],[]⟩)]
 ro:=[true]
 dw:=[(9,[[],[],[],[],[],[],[],[],[],[],[],[],[],[],[1000000]])]
theorem FH:aB zY:=
 cOf aC aF js6 zY Tryz.func169 (ja j9o (ja j7E (ja j3T trivial))) (ja (λh=>by kernel_rfl) trivial)
def Jn:Con:=⟨109,[.v cQ,.v aa,.v iT,.v iT],[cQ,aa,iT,iT],⟨[.own 139 aa],[]⟩,[aa],Pw.unc4 Pw.j31⟩
def jnJ:FnD where
 N:=73
 np:=4
 cs:=[FF,zY]
 ds:=[⟨0,[sD aa,sO 1000000,sO 1000001,sI,sI,.b (.lst 139 aJ false),.b (.lst 230 aA false)],[aa,iT,iT,aa,aq],[⟨.exit 0,[sO 1500100,.b (.lst 139 aJ false)],[aa]⟩],Pw.unc5 (Pw.j3E)⟩,⟨2,[sD aa,sO 1002000,sB 704 0,sI,sO 1002001,sI,sI,.b (.cell [.d iT,.d iT,.d iT] false),.b (.lst 139 aJ false),.b (.lst 230 aA false)],[aa,iT,iT,iT,iT,iT,iT,aa,aq],[⟨.exit 2,[sD aa,sO 1502300,sO 1502301,sI,sI,.b (.lst 139 aJ false),.b (.lst 230 aA false)],[aa,iT,iT,aa,aq]⟩],Pw.unc9 (Pw.j3D)⟩,⟨4,[sD aa,sO 1004000,sB 704 0,sI,sO 1004001,sI,sI,sD aa,sI,sI,.b (.cell [.d iT,.d iT,.d iT] false),.b (.lst 139 aJ false),.b (.lst 230 aA false)],[aa,iT,iT,iT,aa,iT,iT,iT,iT,iT,aa,aq],[⟨.exit 4,[sD aa,sO 1504500,sB 704 0,sI,sO 1504501,sI,sI,.b (.cell [.d iT,.d iT,.d iT] false),.b (.lst 139 aJ false),.b (.lst 230 aA false)],[aa,iT,iT,iT,iT,iT,iT,aa,aq]⟩],Pw.u8 Pw.unc4 (Pw.j3C)⟩]
 keep:=[(0,⟨[1,9,19,20,21],[],[⟨1000000,139,aJ,[.slot 9],false⟩,⟨1000001,230,aA,[.slot 19],false⟩],[]⟩),(2,⟨[1,9,11,13,19,20,21],[704],[⟨1002000,139,aJ,[.slot 9],false⟩,⟨1002001,230,aA,[.slot 19],false⟩],[]⟩),(4,⟨[1,9,11,13,19,20,21,45,46,47],[704],[⟨1004000,139,aJ,[.slot 9],false⟩,⟨1004001,230,aA,[.slot 19],false⟩],[]⟩)]
 keepX:=[(0,.exit 0,⟨[9],[],[⟨1500100,139,aJ,[.slot 9],false⟩],[]⟩),(2,.exit 2,⟨[1,9,19,20,21],[],[⟨1502300,139,aJ,[.slot 9],false⟩,⟨1502301,230,aA,[.slot 19],false⟩],[]⟩),(4,.exit 4,⟨[1,9,11,13,19,20,21],[704],[⟨1504500,139,aJ,[.slot 9],false⟩,⟨1504501,230,aA,[.slot 19],false⟩],[]⟩)]
 ro:=[true]
theorem Yv:aB Jn:=
 cOf aC aF jnJ Jn Tryz.func109 (ja Pm (ja FH trivial)) (ja (λh=>by kernel_rfl) (ja (λh=>by kernel_rfl) (ja (λh=>by kernel_rfl) trivial)))
def Pt:Con:=⟨153,[.v fX,.v fL,.v iT,.v iT],[fX,fL,iT,iT],⟨[.own 139 aa],[]⟩,[aa],Pw.unc4 Pw.j1V⟩
def jln:FnD where
 N:=58
 np:=4
 cs:=[FF,zY]
 ds:=[⟨0,[sB 320 0,sO 1000000,sO 1000001,sI,sI,.b (.cell [.d .str,.d iT,.d (.list iT)] false),.b (.lst 139 aJ false),.b (.lst 230 aA false)],[iT,iT,.str,iT,(.list iT),aa,aq],[⟨.exit 0,[sO 1500100,.b (.lst 139 aJ false)],[aa]⟩],Pw.unc7 (Pw.j2G)⟩,⟨2,[sB 320 0,sO 1002000,sB 704 0,sO 1002001,sI,sI,sD (.list iT),sI,sI,.b (.cell [.d .str,.d iT,.d (.list iT)] false),.b (.cell [.d iT,.d iT,.d iT] false),.b (.lst 139 aJ false),.b (.lst 230 aA false)],[iT,iT,(.list iT),iT,iT,.str,iT,(.list iT),iT,iT,iT,aa,aq],[⟨.exit 2,[sB 320 0,sO 1502300,sO 1502301,sI,sI,.b (.cell [.d .str,.d iT,.d (.list iT)] false),.b (.lst 139 aJ false),.b (.lst 230 aA false)],[iT,iT,.str,iT,(.list iT),aa,aq]⟩],Pw.u8 Pw.unc5 (Pw.j2F)⟩]
 keep:=[(0,⟨[5,9,23,24,25],[320],[⟨1000000,139,aJ,[.slot 9],false⟩,⟨1000001,230,aA,[.slot 23],false⟩],[]⟩),(2,⟨[5,9,11,23,24,25,30,31,32],[320,704],[⟨1002000,139,aJ,[.slot 9],false⟩,⟨1002001,230,aA,[.slot 23],false⟩],[]⟩)]
 keepX:=[(0,.exit 0,⟨[9],[],[⟨1500100,139,aJ,[.slot 9],false⟩],[]⟩),(2,.exit 2,⟨[5,9,23,24,25],[320],[⟨1502300,139,aJ,[.slot 9],false⟩,⟨1502301,230,aA,[.slot 23],false⟩],[]⟩)]
 ro:=[true]
theorem jky:aB Pt:=
 cOf aC aF jln Pt Tryz.func153 (ja Pm (ja FH trivial)) (ja (λh=>by kernel_rfl) (ja (λh=>by kernel_rfl) trivial))
def FI:Con:=⟨152,[.v aa,.v aa],[aa,aa],⟨[.own 139 aa],[]⟩,[aa],Pw.unc2 Pw.j2x⟩
def jnK:FnD where
 N:=89
 np:=2
 ds:=[⟨0,[sD aa,sO 1000000,sI,sD aa,sI,sI,.b (.lst 139 aJ false)],[aa,iT,aa,iT,iT,aa],[⟨.exit 0,[sO 1500100,.b (.lst 139 aJ false)],[aa]⟩],Pw.unc6 (Pw.j3H)⟩,⟨2,[sD aa,sO 1002000,sI,sB 512 0,sD aa,sI,sI,.b (.cell [.d iT,.d iT] false),.b (.lst 139 aJ false)],[aa,iT,aa,iT,iT,iT,iT,aa],[⟨.exit 2,[sD aa,sO 1502300,sI,sB 512 0,sD aa,sI,sI,.b (.cell [.d iT,.d iT] false),.b (.lst 139 aJ false)],[aa,iT,aa,iT,iT,iT,iT,aa]⟩],Pw.unc8 (Pw.j3F)⟩,⟨4,[sD aa,sO 1004000,sI,sB 512 0,sI,sI,sD aa,sI,sI,.b (.cell [.d iT,.d iT] false),.b (.lst 139 aJ false)],[aa,iT,iT,iT,aa,iT,iT,iT,iT,aa],[⟨.exit 4,[sD aa,sO 1504500,sI,sB 512 0,sI,sD aa,sI,sI,.b (.cell [.d iT,.d iT] false),.b (.lst 139 aJ false)],[aa,iT,iT,aa,iT,iT,iT,iT,aa]⟩],Pw.u8 Pw.unc2 (Pw.j3G)⟩]
 keep:=[(0,⟨[1,5,6,11,12,13],[],[⟨1000000,139,aJ,[.slot 5],false⟩],[]⟩),(2,⟨[1,5,6,8,11,12,13],[512],[⟨1002000,139,aJ,[.slot 5],false⟩],[]⟩),(4,⟨[1,5,6,8,9,10,11,12,13],[512],[⟨1004000,139,aJ,[.slot 5],false⟩],[]⟩)]
 keepX:=[(0,.exit 0,⟨[5],[],[⟨1500100,139,aJ,[.slot 5],false⟩],[]⟩),(2,.exit 2,⟨[1,5,6,8,11,12,13],[512],[⟨1502300,139,aJ,[.slot 5],false⟩],[]⟩),(4,.exit 4,⟨[1,5,6,8,9,11,12,13],[512],[⟨1504500,139,aJ,[.slot 5],false⟩],[]⟩)]
 ro:=[true]
theorem Pu:aB FI:=
 cOf aC aF jnK FI Tryz.func152 trivial (ja (λh=>by kernel_rfl) (ja (λh=>by kernel_rfl) (ja (λh=>by kernel_rfl) trivial)))
def Jo:Con:=⟨111,[.v aa,.v aa],[aa,aa],⟨[.own 139 aa],[]⟩,[aa],Pw.unc2 Pw.j8y⟩
def jq0:FnD where
 N:=67
 np:=2
 ds:=[⟨0,[sD aa,sD aa,sO 1000000,sI,sI,.b (.lst 139 aJ false)],[aa,aa,iT,iT,aa],[⟨.exit 0,[sO 1500100,.b (.lst 139 aJ false)],[aa]⟩],Pw.unc5 (Pw.j5X)⟩]
 keep:=[(0,⟨[0,1,5,6,7],[],[⟨1000000,139,aJ,[.slot 5],false⟩],[]⟩)]
 keepX:=[(0,.exit 0,⟨[5],[],[⟨1500100,139,aJ,[.slot 5],false⟩],[]⟩)]
 ro:=[true]
 dw:=[(4,[[],[],[],[],[],[],[],[],[],[],[],[],[],[],[],[],[],[],[],[],[],[],[],[512],[512]])]
theorem Yw:aB Jo:=
 cOf aC aF jq0 Jo Tryz.func111 trivial (ja (λh=>by kernel_rfl) trivial)
def Pv:Con:=⟨96,[.v fX,.v bN,.v iT,.v iT],[fX,bN,iT,iT],⟨[.own 139 aa],[]⟩,[aa],Pw.unc4 Pw.j73⟩
def jkz:FnD where
 N:=90
 np:=4
 cs:=[FG,Jn,Pt,FI,Jo]
 ro:=[true]
 dw:=[(7,[[],[],[],[],[],[],[],[],[],[],[3584],[]]),(10,[[],[],[],[],[],[],[],[],[],[],[],[4608],[4672],[]]),(12,[[],[],[],[],[],[],[],[],[],[],[],[5568],[5632],[]])]
theorem jjT:aB Pv:=
 cOf aC aF jkz Pv Tryz.func96 (ja Pp (ja Yv (ja jky (ja Pu (ja Yw trivial))))) trivial
def Px:Con:=⟨222,[.v cQ,.v iT],[cQ,iT],⟨[.v iT],[]⟩,[iT],Pw.unc2 Pw.j7t⟩
def jiM:FnD where
 N:=10
 np:=2
 cs:=[Jk,Jl]
theorem jhJ:aB Px:=
 cOf aC aF jiM Px Tryz.func222 (ja Yq (ja Yr trivial)) trivial
def Py:Con:=⟨221,[.v iT],[iT],⟨[.v aJ],[]⟩,[aJ],λh=>Pw.jhr h⟩
def js7:FnD where
 N:=17
 np:=1
theorem jq1:aB Py:=
 cOf aC aF js7 Py Tryz.func221 trivial trivial
def Pz:Con:=⟨147,[.v cQ,.v iT],[cQ,iT],⟨[.v aJ],[]⟩,[aJ],Pw.unc2 Pw.j1p⟩
def jjU:FnD where
 N:=11
 np:=2
 cs:=[Px,Py]
theorem jiN:aB Pz:=
 cOf aC aF jjU Pz Tryz.func147 (ja jhJ (ja jq1 trivial)) trivial
def PA:Con:=⟨144,[.v cQ,.v bN,.v iT],[cQ,bN,iT],⟨[.v iT],[]⟩,[iT],Pw.unc3 Pw.j3O⟩
def jmP:FnD where
 N:=84
 np:=3
 cs:=[Jj,FG,Pz]
 ds:=[⟨0,[sI,sB 192 0,sB 256 0,sI,.b (.cell [.d iT,.d aa] false),.b (.cell [.d .str,.d iT,.d iT,.d iT,.d iT,.d iT,.d (.list iT),.d aa,.d iT,.d iT] false)],[iT,iT,iT,aa,.str,iT,iT,iT,iT,iT,(.list iT),aa,iT,iT],[⟨.exit 0,[sI,sB 192 0,sB 256 0,sI,.b (.cell [.d iT,.d aa] false),.b (.cell [.d .str,.d iT,.d iT,.d iT,.d iT,.d iT,.d (.list iT),.d aa,.d iT,.d iT] false)],[iT,iT,iT,aa,.str,iT,iT,iT,iT,iT,(.list iT),aa,iT,iT]⟩],Pw.u8 Pw.unc6 (Pw.j32)⟩,⟨2,[sI,sB 192 0,sB 256 0,sI,.b (.cell [.d iT,.d aa] false),.b (.cell [.d .str,.d iT,.d iT,.d iT,.d iT,.d iT,.d (.list iT),.d aa,.d iT,.d iT] false)],[iT,iT,iT,aa,.str,iT,iT,iT,iT,iT,(.list iT),aa,iT,iT],[⟨.ret,[sI],[iT]⟩],Pw.u8 Pw.unc6 (Pw.j4F)⟩]
 keep:=[(0,⟨[2,3,4,9],[192,256],[],[]⟩),(2,⟨[2,3,4,9],[192,256],[],[]⟩)]
 keepX:=[(0,.exit 0,⟨[2,3,4,9],[192,256],[],[]⟩),(2,.ret,⟨[6],[],[],[]⟩)]
theorem jlo:aB PA:=
 cOf aC aF jmP PA Tryz.func144 (ja Yp (ja Pp (ja jiN trivial))) (ja (λh=>by kernel_rfl) (ja (λh=>by kernel_rfl) trivial))
def FJ:Con:=⟨50,[.v aq],[aq],⟨[.own 138 aq],[]⟩,[aq],λh=>Pw.j9R h⟩
def js8:FnD where
 N:=57
 np:=1
 ds:=[⟨0,[sO 1000000,sD aq,sI,sI,.b (.lst 138 aA false)],[aq,iT,iT,aq],[⟨.exit 0,[sO 1500100,.b (.lst 138 aA false)],[aq]⟩],Pw.unc4 (Pw.j4G)⟩]
 keep:=[(0,⟨[3,7,8,9],[],[⟨1000000,138,aA,[.slot 3],false⟩],[]⟩)]
 keepX:=[(0,.exit 0,⟨[3],[],[⟨1500100,138,aA,[.slot 3],false⟩],[]⟩)]
 ro:=[true]
theorem PB:aB FJ:=
 cOf aC aF js8 FJ Tryz.func50 trivial (ja (λh=>by kernel_rfl) trivial)
end Go.Proofs.Pk
