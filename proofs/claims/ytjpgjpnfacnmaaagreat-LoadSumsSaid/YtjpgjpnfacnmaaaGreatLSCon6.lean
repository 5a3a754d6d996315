/- cp: each given function is its plain function, printed by a program. -/
import Derived.Test.YtjpgjpnfacnmaaaGreatLSCon5
noncomputable section
open Go Go.Lft
set_option linter.unusedVariables false
set_option maxRecDepth 100000
namespace Go.Proofs.Pk
def PC:Con:=⟨101,[.v fX,.v bN,.v iT,.v iT],[fX,bN,iT,iT],⟨[.own 138 aq],[]⟩,[aq],Pw.unc4 Pw.j1t⟩
def jhK:FnD where
 N:=95
 np:=4
 cs:=[FG,Pv,PA,FJ]
 ds:=[⟨0,[sI,sB 320 0,sO 1000000,sB 640 0,sI,sI,sI,sO 1000001,sI,sI,.b (.cell [.d .str,.d iT,.d iT,.d iT,.d iT,.d iT,.d (.list iT),.d aa,.d iT,.d iT] false),.b (.cell [.d iT,.d aa] false),.b (.lst 138 aA false),.b (.lst 139 aJ false)],[iT,iT,iT,iT,iT,iT,.str,iT,iT,iT,iT,iT,(.list iT),aa,iT,iT,iT,aa,aq,aa],[⟨.exit 0,[sI,sO 1500100,sI,.b (.lst 138 aA false)],[iT,iT,aq]⟩],Pw.u8 (Pw.u8 Pw.unc4) (Pw.j1K)⟩,⟨2,[sI,sB 320 0,sO 1002000,sB 640 0,sI,sI,sI,sB 960 0,sO 1002001,sI,sI,.b (.cell [.d .str,.d iT,.d iT,.d iT,.d iT,.d iT,.d (.list iT),.d aa,.d iT,.d iT] false),.b (.cell [.d iT,.d aa] false),.b (.cell [.d iT,.d iT] false),.b (.lst 138 aA false),.b (.lst 139 aJ false)],[iT,iT,iT,iT,iT,iT,.str,iT,iT,iT,iT,iT,(.list iT),aa,iT,iT,iT,aa,iT,iT,aq,aa],[⟨.exit 2,[sI,sB 320 0,sO 1502300,sB 640 0,sI,sI,sI,sO 1502301,sI,sI,.b (.cell [.d .str,.d iT,.d iT,.d iT,.d iT,.d iT,.d (.list iT),.d aa,.d iT,.d iT] false),.b (.cell [.d iT,.d aa] false),.b (.lst 138 aA false),.b (.lst 139 aJ false)],[iT,iT,iT,iT,iT,iT,.str,iT,iT,iT,iT,iT,(.list iT),aa,iT,iT,iT,aa,aq,aa]⟩],Pw.u8 (Pw.u8 Pw.unc6) (Pw.j2A)⟩]
 keep:=[(0,⟨[3,5,9,10,11,12,13,30,31,32],[320,640],[⟨1000000,138,aA,[.slot 9],false⟩,⟨1000001,139,aJ,[.slot 30],false⟩],[]⟩),(2,⟨[3,5,9,10,11,12,13,15,30,31,32],[320,640,960],[⟨1002000,138,aA,[.slot 9],false⟩,⟨1002001,139,aJ,[.slot 30],false⟩],[]⟩)]
 keepX:=[(0,.exit 0,⟨[3,9,11],[],[⟨1500100,138,aA,[.slot 9],false⟩],[]⟩),(2,.exit 2,⟨[3,5,9,10,11,12,13,30,31,32],[320,640],[⟨1502300,138,aA,[.slot 9],false⟩,⟨1502301,139,aJ,[.slot 30],false⟩],[]⟩)]
 ro:=[true]
 dw:=[(17,[[],[],[],[],[],[],[],[],[],[],[],[],[],[5376],[5440,1002000],[]])]
theorem jgY:aB PC:=
 cOf aC aF jhK PC Tryz.func101 (ja Pp (ja jjT (ja jlo (ja PB trivial)))) (ja (λh=>by kernel_rfl) (ja (λh=>by kernel_rfl) trivial))
def PD:Con:=⟨299,[.v df,.v iT],[df,iT],⟨[.own 139 aa],[]⟩,[aa],Pw.unc2 Pw.j75⟩
def jnL:FnD where
 N:=35
 np:=2
 cs:=[zY]
 ds:=[⟨0,[sI,sO 1000000,sD bu,sI,sI,.b (.lst 139 aJ false)],[iT,bu,iT,iT,aa],[⟨.exit 0,[sO 1500100,.b (.lst 139 aJ false)],[aa]⟩],Pw.unc5 (Pw.j3I)⟩]
 keep:=[(0,⟨[1,5,9,10,11],[],[⟨1000000,139,aJ,[.slot 5],false⟩],[]⟩)]
 keepX:=[(0,.exit 0,⟨[5],[],[⟨1500100,139,aJ,[.slot 5],false⟩],[]⟩)]
 ro:=[true]
theorem jmQ:aB PD:=
 cOf aC aF jnL PD Tryz.func299 (ja FH trivial) (ja (λh=>by kernel_rfl) trivial)
def PE:Con:=⟨275,[.v df,.v aq],[df,aq],⟨[.own 138 aq],[]⟩,[aq],Pw.unc2 Pw.j98⟩
def jmR:FnD where
 N:=68
 np:=2
 cs:=[FI,PD]
 ds:=[⟨0,[sB 128 0,sO 1000000,sO 1000001,sD aq,sI,sI,.b (.cell [.d .str,.d bC,.d bu] false),.b (.lst 4294967616 cQ false),.b (.lst 138 aA false)],[aq,iT,iT,.str,bC,bu,gT,aq],[⟨.exit 0,[sO 1500100,.b (.lst 138 aA false)],[aq]⟩],Pw.unc8 (Pw.j36)⟩,⟨2,[sB 128 0,sO 1002000,sO 1002001,sB 512 0,sD aq,sI,sI,sO 1002002,sI,sI,.b (.cell [.d .str,.d bC,.d bu] false),.b (.cell [.d iT,.d iT,.d iT] false),.b (.lst 4294967616 cQ false),.b (.lst 138 aA false),.b (.lst 139 aJ false)],[aq,iT,iT,iT,iT,.str,bC,bu,iT,iT,iT,gT,aq,aa],[⟨.exit 2,[sB 128 0,sO 1502300,sO 1502301,sD aq,sI,sI,.b (.cell [.d .str,.d bC,.d bu] false),.b (.lst 4294967616 cQ false),.b (.lst 138 aA false)],[aq,iT,iT,.str,bC,bu,gT,aq]⟩],Pw.u8 Pw.unc6 (Pw.j35)⟩]
 keep:=[(0,⟨[2,5,6,14,15,16],[128],[⟨1000000,4294967616,cQ,[.slot 5],false⟩,⟨1000001,138,aA,[.slot 6],false⟩],[]⟩),(2,⟨[2,5,6,8,14,15,16,49,50,51],[128,512],[⟨1002000,4294967616,cQ,[.slot 5],false⟩,⟨1002001,138,aA,[.slot 6],false⟩,⟨1002002,139,aJ,[.slot 49],false⟩],[]⟩)]
 keepX:=[(0,.exit 0,⟨[6],[],[⟨1500100,138,aA,[.slot 6],false⟩],[]⟩),(2,.exit 2,⟨[2,5,6,14,15,16],[128],[⟨1502300,4294967616,cQ,[.slot 5],false⟩,⟨1502301,138,aA,[.slot 6],false⟩],[]⟩)]
 ro:=[true]
 dw:=[(9,[[],[],[],[],[],[],[2432],[2432,1000000]])]
theorem jlp:aB PE:=
 cOf aC aF jmR PE Tryz.func275 (ja Pu (ja jmQ trivial)) (ja (λh=>by kernel_rfl) (ja (λh=>by kernel_rfl) trivial))
def PF:Con:=⟨274,[.v aq,.v aa],[aq,aa],⟨[.own 138 aq],[]⟩,[aq],Pw.unc2 Pw.jda⟩
def jnM:FnD where
 N:=72
 np:=2
 ds:=[⟨0,[sD aq,sD aa,sO 1000000,sI,sI,.b (.lst 138 aA false)],[aq,aa,iT,iT,aq],[⟨.exit 0,[sO 1500100,.b (.lst 138 aA false)],[aq]⟩],Pw.unc5 (Pw.j5d)⟩]
 keep:=[(0,⟨[0,1,5,6,7],[],[⟨1000000,138,aA,[.slot 5],false⟩],[]⟩)]
 keepX:=[(0,.exit 0,⟨[5],[],[⟨1500100,138,aA,[.slot 5],false⟩],[]⟩)]
 ro:=[true]
 dw:=[(4,[[],[],[],[],[],[],[],[],[],[],[],[],[],[],[],[],[],[],[],[],[],[],[],[],[],[],[],[],[512],[512]])]
theorem jmS:aB PF:=
 cOf aC aF jnM PF Tryz.func274 trivial (ja (λh=>by kernel_rfl) trivial)
def PG:Con:=⟨276,[.v aq],[aq],⟨[.own 139 aa],[]⟩,[aa],λh=>Pw.jc9 h⟩
def jq2:FnD where
 N:=23
 np:=1
 cs:=[zY]
 ds:=[⟨0,[sO 1000000,sD aq,sI,sI,.b (.lst 139 aJ false)],[aq,iT,iT,aa],[⟨.exit 0,[sO 1500100,.b (.lst 139 aJ false)],[aa]⟩],Pw.unc4 (Pw.j4b)⟩]
 keep:=[(0,⟨[3,6,7,8],[],[⟨1000000,139,aJ,[.slot 3],false⟩],[]⟩)]
 keepX:=[(0,.exit 0,⟨[3],[],[⟨1500100,139,aJ,[.slot 3],false⟩],[]⟩)]
 ro:=[true]
theorem jnN:aB PG:=
 cOf aC aF jq2 PG Tryz.func276 (ja FH trivial) (ja (λh=>by kernel_rfl) trivial)
def PH:Con:=⟨278,[.v aA,.v aA],[aA,aA],⟨[.v iT],[]⟩,[iT],Pw.unc2 Pw.j2M⟩
def jgZ:FnD where
 N:=10
 np:=2
theorem jqF:aB PH:=
 cOf aC aF jgZ PH Tryz.func278 trivial trivial
def Yx:Con:=⟨277,[.rl 138 aq,.clo 278 []],[aq],⟨[],[.rl aq]⟩,[aq],λh=>Pw.j0n h⟩
def j8U:FnD where
 N:=14
 np:=2
 cs:=[PH]
theorem j2e:aB Yx:=
 Wa Tryz.sort277 (aA) rfl 138 (by kernel_rfl) Tryz.isAgg138 Tryz.sizeOf138 _ 278 (enters_of Tryz.func278 (by kernel_rfl) rfl) jto jtp 277 rfl
def PI:Con:=⟨236,[.v fX,.v df,.v iT,.v iT],[fX,df,iT,iT],⟨[.own 138 aq],[]⟩,[aq],Pw.unc4 Pw.j3v⟩
def jjV:FnD where
 N:=63
 np:=4
 cs:=[Pg,FI,FJ,PC,PE,PF,PG,Yx]
 ds:=[⟨0,[sI,sB 256 0,sB 320 0,sB 384 0,sB 448 0,sB 576 0,sB 640 0,sC 251 [.p [bC]],.b (.cell [.d ax,.d az,.d ay,.d aG,.d gT] false),.b (.cell [.d .str,.d bC,.d bu] false),.b (.cell [.d iT] false),.b (.cell [.d iT] false),.b (.cell [.ol 1000000] false),.b (.cell [.ol 1000001] false),.b (.lst 139 aJ false),.b (.lst 138 aA false)],[iT,bC,ax,az,ay,aG,gT,.str,bC,bu,iT,iT,aa,aq],[⟨.normal,[sB 576 0,sB 640 0,.b (.cell [.ol 1500050] false),.b (.cell [.ol 1500051] false),.b (.lst 139 aJ false),.b (.lst 138 aA false)],[aa,aq]⟩],Pw.u8 Pw.unc6 (Pw.j29)⟩,⟨2,[sB 640 0,sO 1002000,sI,sI,.b (.cell [.ol 1002001] false),.b (.lst 139 aJ false),.b (.lst 138 aA false)],[iT,iT,aa,aq],[⟨.exit 2,[sB 640 0,.b (.cell [.ol 1502300] false),.b (.lst 138 aA false)],[aq]⟩],Pw.unc4 (Pw.j2a)⟩]
 modes:=[(277,[true,false])]
 keep:=[(0,⟨[4,5,6,7,9,10,25],[256,320,384,448,576,640],[⟨1000000,139,aJ,[.cell 576 0],false⟩,⟨1000001,138,aA,[.cell 640 0],false⟩],[]⟩),(2,⟨[10,44,45,46],[640],[⟨1002000,139,aJ,[.slot 44],false⟩,⟨1002001,138,aA,[.cell 640 0],false⟩],[]⟩)]
 keepX:=[(0,.normal,⟨[9,10],[576,640],[⟨1500050,139,aJ,[.cell 576 0],false⟩,⟨1500051,138,aA,[.cell 640 0],false⟩],[]⟩),(2,.exit 2,⟨[10],[640],[⟨1502300,138,aA,[.cell 640 0],false⟩],[]⟩)]
 ro:=[true]
 dw:=[(7,[[],[],[],[],[],[2112],[2176],[],[2304],[]]),(9,[[],[],[2688],[2752],[576]])]
 bw:=[(251,(false,bN))]
theorem jAK:ItOK Tryz.prog 251 false (bN):=jFy <| jEl aC Tryz.func251 (fn:=Tryz.f251) (A0:=bwA Tryz.f251 0) (A1:=bwA Tryz.f251 1) (A2:=bwA Tryz.f251 2) (A3:=bwA Tryz.f251 3) (by kernel_rfl) (by kernel_rfl) (by kernel_rfl) (by kernel_rfl) (by kernel_rfl) (by kernel_rfl) (by kernel_rfl) (by kernel_rfl) (by kernel_rfl) (by kernel_rfl) (by kernel_rfl) ⟨(by kernel_rfl),(by kernel_rfl)⟩
 (λxs=>by kernel_rfl) (λi=>by kernel_rfl) (λi=>by kernel_rfl) (λxs i=>by kernel_rfl) (λb i=>by kernel_rfl)
theorem jiO:aB PI:=
 cOf aC aF jjV PI Tryz.func236 (ja j7C (ja Pu (ja PB (ja jgY (ja jlp (ja jmS (ja jnN (ja j2e trivial)))))))) (ja (λh=>by kernel_rfl) (ja (λh=>by kernel_rfl) trivial)) (ja jAK trivial)
def PJ:Con:=⟨264,[.v iT],[iT],⟨[.v .bool],[]⟩,[.bool],λh=>Pw.jbv h⟩
def jmT:FnD where
 N:=6
 np:=1
theorem jlq:aB PJ:=
 cOf aC aF jmT PJ Tryz.func264 trivial trivial
def PK:Con:=⟨223,[.v iT,.v iT],[iT,iT],⟨[.v .bool],[]⟩,[.bool],Pw.unc2 Pw.jdb⟩
def jnO:FnD where
 N:=17
 np:=2
 cs:=[PJ]
theorem jmU:aB PK:=
 cOf aC aF jnO PK Tryz.func223 (ja jlq trivial) trivial
def PL:Con:=⟨224,[.v iT],[iT],⟨[.v .bool],[]⟩,[.bool],λh=>Pw.j8q h⟩
def jjW:FnD where
 N:=6
 np:=1
theorem jiP:aB PL:=
 cOf aC aF jjW PL Tryz.func224 trivial trivial
def PM:Con:=⟨148,[.v (.list iT),.v iT],[(.list iT),iT],⟨[.v iT,.v .bool],[]⟩,[iT,.bool],Pw.unc2 Pw.j2m⟩
def jbc:FnD where
 N:=54
 np:=2
 cs:=[PK,PL]
 ds:=[⟨0,[sD (.list iT),sI,sI,sI,sI],[(.list iT),iT,iT,iT,iT],[⟨.exit 0,[sD (.list iT),sI,sI,sI],[(.list iT),iT,iT,iT]⟩],Pw.unc5 (Pw.j1i)⟩]
 keep:=[(0,⟨[0,1,6,7,8],[],[],[]⟩)]
 keepX:=[(0,.exit 0,⟨[0,1,6,7],[],[],[]⟩)]
theorem jaK:aB PM:=
 cOf aC aF jbc PM Tryz.func148 (ja jmU (ja jiP trivial)) (ja (λh=>by kernel_rfl) trivial)
def PN:Con:=⟨77,[.v gV,.v iT],[gV,iT],⟨[.v .bool],[]⟩,[.bool],Pw.unc2 Pw.jir⟩
def jq3:FnD where
 N:=15
 np:=2
theorem jnP:aB PN:=
 cOf aC aF jq3 PN Tryz.func77 trivial trivial
def PO:Con:=⟨25,[.v bu,.v iT,.v iT],[bu,iT,iT],⟨[.v iT],[]⟩,[iT],Pw.unc3 Pw.jjq⟩
def jtD:FnD where
 N:=51
 np:=3
 cs:=[PN]
 ds:=[⟨0,[sI,sI,sD bu,sI,sI],[iT,iT,bu,iT,iT],[⟨.exit 0,[sI],[iT]⟩],Pw.unc5 (Pw.j5w)⟩]
 keep:=[(0,⟨[1,2,9,10,11],[],[],[]⟩)]
 keepX:=[(0,.exit 0,⟨[1],[],[],[]⟩)]
theorem js9:aB PO:=
 cOf aC aF jtD PO Tryz.func25 (ja jnP trivial) (ja (λh=>by kernel_rfl) trivial)
def PQ:Con:=⟨162,[.v fX,.v df,.v iT,.v iT],[fX,df,iT,iT],⟨[.own 138 aq],[]⟩,[aq],Pw.unc4 Pw.j37⟩
def jkA:FnD where
 N:=88
 np:=4
 cs:=[Pe,FJ,PI,PM,PO]
 ds:=[⟨0,[sI,sI,sB 256 0,sB 320 0,sO 1000000,sD bu,sI,sI,.b (.cell [.d ax,.d az,.d ay,.d aG,.d gT] false),.b (.cell [.d .str,.d bC,.d bu] false),.b (.lst 3 iT false)],[iT,iT,bu,iT,iT,ax,az,ay,aG,gT,.str,bC,bu,(.list iT)],[⟨.exit 0,[sI,sI,sB 256 0,sB 320 0,sO 1500100,.b (.cell [.d ax,.d az,.d ay,.d aG,.d gT] false),.b (.cell [.d .str,.d bC,.d bu] false),.b (.lst 3 iT false)],[iT,iT,ax,az,ay,aG,gT,.str,bC,bu,(.list iT)]⟩],Pw.u8 Pw.unc6 (Pw.j2n)⟩,⟨2,[sB 320 0,sO 1002000,sO 1002001,sO 1002002,sI,sI,.b (.cell [.d .str,.d bC,.d bu] false),.b (.lst 3 iT false),.b (.lst 138 aA false),.b (.lst 138 aA false)],[iT,iT,.str,bC,bu,(.list iT),aq,aq],[⟨.exit 2,[sO 1502300,.b (.lst 138 aA false)],[aq]⟩],Pw.unc8 (Pw.j1E)⟩,⟨4,[sB 320 0,sO 1004000,sO 1004001,sB 960 0,sI,sI,sO 1004002,sI,sI,.b (.cell [.d .str,.d bC,.d bu] false),.b (.cell [.d iT,.d iT,.d iT] false),.b (.lst 3 iT false),.b (.lst 138 aA false),.b (.lst 138 aA false)],[iT,iT,iT,iT,.str,bC,bu,iT,iT,iT,(.list iT),aq,aq],[⟨.exit 4,[sB 320 0,sO 1504500,sO 1504501,sO 1504502,sI,sI,.b (.cell [.d .str,.d bC,.d bu] false),.b (.lst 3 iT false),.b (.lst 138 aA false),.b (.lst 138 aA false)],[iT,iT,.str,bC,bu,(.list iT),aq,aq]⟩],Pw.u8 Pw.unc5 (Pw.j2o)⟩]
 keep:=[(0,⟨[2,3,4,5,9,21,22,23],[256,320],[⟨1000000,3,iT,[.slot 9],false⟩],[]⟩),(2,⟨[5,12,13,43,44,45],[320],[⟨1002000,3,iT,[.slot 12],false⟩,⟨1002001,138,aA,[.slot 13],false⟩,⟨1002002,138,aA,[.slot 43],false⟩],[]⟩),(4,⟨[5,12,13,15,16,18,43,44,45],[320,960],[⟨1004000,3,iT,[.slot 12],false⟩,⟨1004001,138,aA,[.slot 13],false⟩,⟨1004002,138,aA,[.slot 43],false⟩],[]⟩)]
 keepX:=[(0,.exit 0,⟨[2,3,4,5,9],[256,320],[⟨1500100,3,iT,[.slot 9],false⟩],[]⟩),(2,.exit 2,⟨[13],[],[⟨1502300,138,aA,[.slot 13],false⟩],[]⟩),(4,.exit 4,⟨[5,12,13,43,44,45],[320],[⟨1504500,3,iT,[.slot 12],false⟩,⟨1504501,138,aA,[.slot 13],false⟩,⟨1504502,138,aA,[.slot 43],false⟩],[]⟩)]
 ro:=[true]
theorem jjX:aB PQ:=
 cOf aC aF jkA PQ Tryz.func162 (ja js4 (ja PB (ja jiO (ja jaK (ja js9 trivial))))) (ja (λh=>by kernel_rfl) (ja (λh=>by kernel_rfl) (ja (λh=>by kernel_rfl) trivial)))
def PR:Con:=⟨106,[.v aY,.v iT,.v iT,.v iT],[aY,iT,iT,iT],⟨[.own 138 aq,.v iT],[]⟩,[aq,iT],Pw.unc4 Pw.j4e⟩
def jkB:FnD where
 N:=37
 np:=4
 cs:=[Pa,PQ]
 ro:=[true,false]
 dw:=[(4,[[],[],[],[],[],[],[],[],[2048],[]])]
theorem jjY:aB PR:=
 cOf aC aF jkB PR Tryz.func106 (ja jnF (ja jjX trivial)) trivial
def PS:Con:=⟨164,[.v dz],[dz],⟨[.own 109 aa],[]⟩,[aa],λh=>Pw.jdd h⟩
def jnQ:FnD where
 N:=19
 np:=1
 ds:=[⟨0,[sO 1000000,sD dz,sI,sI,.b (.lst 109 aJ false)],[dz,iT,iT,aa],[⟨.exit 0,[sO 1500100,.b (.lst 109 aJ false)],[aa]⟩],Pw.unc4 (Pw.j3J)⟩]
 keep:=[(0,⟨[3,6,7,8],[],[⟨1000000,109,aJ,[.slot 3],false⟩],[]⟩)]
 keepX:=[(0,.exit 0,⟨[3],[],[⟨1500100,109,aJ,[.slot 3],false⟩],[]⟩)]
 ro:=[true]
theorem jmV:aB PS:=
 cOf aC aF jnQ PS Tryz.func164 trivial (ja (λh=>by kernel_rfl) trivial)
def PT:Con:=⟨166,[.v ot],[ot],⟨[.v .bool],[]⟩,[.bool],λh=>Pw.jf2 h⟩
def jmW:FnD where
 N:=11
 np:=1
theorem jlr:aB PT:=
 cOf aC aF jmW PT Tryz.func166 trivial trivial
def PU:Con:=⟨237,[.v dz,.clo 166 []],[dz],⟨[.v iT],[]⟩,[iT],λh=>Pw.j1F h⟩
def j6S:FnD where
 N:=19
 np:=2
 cs:=[PT]
 ds:=[⟨0,[sD dz,sC 166 [],sI,sI],[dz,iT,iT],[⟨.ret,[sI],[iT]⟩,⟨.exit 0,[],[]⟩],Pw.unc3 (Pw.j0i)⟩]
 keep:=[(0,⟨[0,1,7,8],[],[],[]⟩)]
 keepX:=[(0,.ret,⟨[4],[],[],[]⟩)]
theorem j6G:aB PU:=
 cOf aC aF j6S PU Tryz.func237 (ja jlr trivial) (ja (λh=>by kernel_rfl) trivial)
def PV:Con:=⟨165,[.v dz,.clo 166 []],[dz],⟨[.v .bool],[]⟩,[.bool],λh=>Pw.j0K h⟩
def j63:FnD where
 N:=9
 np:=2
 cs:=[PU]
theorem j5M:aB PV:=
 cOf aC aF j63 PV Tryz.func165 (ja j6G trivial) trivial
end Go.Proofs.Pk
