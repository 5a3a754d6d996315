/- cp: each given function is its plain function, printed by a program. -/
import Derived.Test.YtjpgjpnfacnmaaaGreatLSCon6
noncomputable section
open Go Go.Lft
set_option linter.unusedVariables false
set_option maxRecDepth 100000
namespace Go.Proofs.Pk
def PW:Con:=⟨107,[.v dz],[dz],⟨[.v iT],[]⟩,[iT],λh=>Pw.jhs h⟩
def jsa:FnD where
 N:=12
 np:=1
 cs:=[FC,PS,PV]
theorem jq4:aB PW:=
 cOf aC aF jsa PW Tryz.func107 (ja OC (ja jmV (ja j5M trivial))) trivial
def PX:Con:=⟨112,[.v aq,.v iT],[aq,iT],⟨[.own 139 aa],[]⟩,[aa],Pw.unc2 Pw.j88⟩
def jls:FnD where
 N:=29
 np:=2
 cs:=[zY]
 ds:=[⟨0,[sI,sO 1000000,sD aq,sI,sI,.b (.lst 139 aJ false)],[iT,aq,iT,iT,aa],[⟨.exit 0,[sO 1500100,.b (.lst 139 aJ false)],[aa]⟩],Pw.unc5 (Pw.j2H)⟩]
 keep:=[(0,⟨[1,5,8,9,10],[],[⟨1000000,139,aJ,[.slot 5],false⟩],[]⟩)]
 keepX:=[(0,.exit 0,⟨[5],[],[⟨1500100,139,aJ,[.slot 5],false⟩],[]⟩)]
 ro:=[true]
theorem jkC:aB PX:=
 cOf aC aF jls PX Tryz.func112 (ja FH trivial) (ja (λh=>by kernel_rfl) trivial)
def PY:Con:=⟨110,[.v aa],[aa],⟨[.v iT],[]⟩,[iT],λh=>Pw.jf3 h⟩
def jq5:FnD where
 N:=21
 np:=1
 ds:=[⟨0,[sI,sD aa,sI,sI],[iT,aa,iT,iT],[⟨.exit 0,[sI],[iT]⟩],Pw.unc4 (Pw.j4f)⟩]
 keep:=[(0,⟨[3,6,7,8],[],[],[]⟩)]
 keepX:=[(0,.exit 0,⟨[3],[],[],[]⟩)]
theorem jnR:aB PY:=
 cOf aC aF jq5 PY Tryz.func110 trivial (ja (λh=>by kernel_rfl) trivial)
def PZ:Con:=⟨113,[.rl 4294967463 jA],[jA],⟨[.own 94 aq],[.rl jA]⟩,[aq,jA],λh=>Pw.jca h⟩
def jq6:FnD where
 N:=22
 np:=1
 ds:=[⟨0,[sO 0,sO 1000000,sO 1000001,sI,sI,.b (.lst 4294967463 gU false),.b (.lst 94 aA false),.b (.lst 3 iT false)],[iT,iT,jA,aq,(.list iT)],[⟨.exit 0,[sO 1500100,.b (.lst 4294967463 gU false),.b (.lst 94 aA false)],[jA,aq]⟩],Pw.unc5 (Pw.j4g)⟩]
 keep:=[(0,⟨[0,3,8,9,10],[0],[⟨1000000,94,aA,[.slot 3],false⟩,⟨1000001,3,iT,[.slot 8],false⟩],[]⟩)]
 keepX:=[(0,.exit 0,⟨[3],[0],[⟨1500100,94,aA,[.slot 3],false⟩],[]⟩)]
 ro:=[true]
 bw:=[(170,(true,(.arr 171 (.arr 3 .bool))))]
 ks:=[2]
theorem jAL:BwK Tryz.prog 170 (true,(.arr 171 (.arr 3 .bool))):=
 jys Tryz.keys171 Tryz.sorted170 Tryz.sort248 (by kernel_rfl) (by kernel_rfl) (by kernel_rfl) (by kernel_rfl)
theorem jnS:aB PZ:=
 cOf aC aF jq6 PZ Tryz.func113 trivial (ja (λh=>by kernel_rfl) trivial) (ja jAL trivial)
def On:Con:=⟨53,[.v aY,.v iT,.v iT,.v iT,.v iT,.v dz],[aY,iT,iT,iT,iT,dz],⟨[.own 94 aq,.v iT],[]⟩,[aq,iT],Pw.unc6 Pw.j9S⟩
def jsb:FnD where
 N:=132
 np:=6
 cs:=[Jh,Jn,Jo,PR,PW,PX,PY,PZ]
 ds:=[⟨1,[sI,sI,sD dz,sO 1001000,sB 1024 0,sO 1001001,sO 1001000,sI,sI,.b (.cell [.d iT,.d aa] false),.b (.lst 138 aA false),.b (.lst 4294967463 gU false)],[iT,iT,dz,iT,iT,iT,aa,aq,jA],[⟨.exit 1,[sI,sI,sD dz,sO 1501200,sB 1024 0,sO 1501201,.b (.cell [.d iT,.d aa] false),.b (.lst 138 aA false),.b (.lst 4294967463 gU false)],[iT,iT,dz,iT,aa,aq,jA]⟩],Pw.unc9 (Pw.j4H)⟩,⟨3,[sI,sI,sO 1003000,sB 1024 0,sO 1003001,sD dz,sI,sI,.b (.cell [.d iT,.d aa] false),.b (.lst 138 aA false),.b (.lst 4294967463 gU false)],[iT,iT,dz,iT,iT,iT,aa,aq,jA],[⟨.exit 3,[sO 1503400,.b (.lst 4294967463 gU false)],[jA]⟩],Pw.unc9 (Pw.j4I)⟩,⟨5,[],[],[],λ_=>none⟩]
 modes:=[(113,[true])]
 keep:=[(1,⟨[2,3,5,14,16,18,63,64,65],[1024],[⟨1001000,138,aA,[.slot 14,.slot 63],false⟩,⟨1001001,4294967463,gU,[.slot 18],false⟩],[]⟩),(3,⟨[2,3,14,16,18,92,93,94],[1024],[⟨1003000,138,aA,[.slot 14],false⟩,⟨1003001,4294967463,gU,[.slot 18],false⟩],[]⟩),(5,⟨[2,3,14,16,18,23,24,92,93,94],[1024,1472],[⟨1005000,138,aA,[.slot 14],false⟩,⟨1005002,139,aJ,[.slot 24],false⟩,⟨1005001,4294967463,gU,[.slot 18],false⟩],[]⟩)]
 keepX:=[(1,.exit 1,⟨[2,3,5,14,16,18],[1024],[⟨1501200,138,aA,[.slot 14],false⟩,⟨1501201,4294967463,gU,[.slot 18],false⟩],[]⟩),(3,.exit 3,⟨[18],[],[⟨1503400,4294967463,gU,[.slot 18],false⟩],[]⟩)]
 ro:=[true,false]
 dw:=[(24,[[],[],[],[],[],[],[],[7616],[],[7744],[],[],[],[],[1664]])]
 ms:=[⟨5,18,1005001,[sI,sI,sO 1005000,sB 1024 0,sO 1005001,sB 1472 0,sO 1005002,sD dz,sI,sI,.b (.cell [.d iT,.d aa] false),.b (.cell [.d iT,.d iT,.d iT] false),.b (.lst 138 aA false),.b (.lst 139 aJ false),.b (.lst 4294967463 gU false)],[iT,iT,dz,iT,iT,iT,aa,iT,iT,iT,aq,aa,jA],4294967463,aA,λh q z R k=>Pw.jbw h.1 h.2.1 h.2.2.1 h.2.2.2.1 h.2.2.2.2.1 h.2.2.2.2.2.1 h.2.2.2.2.2.2.1 h.2.2.2.2.2.2.2.1 h.2.2.2.2.2.2.2.2.1 h.2.2.2.2.2.2.2.2.2.1 h.2.2.2.2.2.2.2.2.2.2.1 h.2.2.2.2.2.2.2.2.2.2.2.1 h.2.2.2.2.2.2.2.2.2.2.2.2 q z k⟩]
theorem jq7:aB On:=
 cOf aC aF jsb On Tryz.func53 (ja Yl (ja Yv (ja Yw (ja jjY (ja jq4 (ja jkC (ja jnR (ja jnS trivial)))))))) (ja (λh=>by kernel_rfl) (ja (λh=>by kernel_rfl) (ja (λh=>by kernel_rfl) trivial))) (hms:=(ja ⟨by kernel_rfl,λh zs=>by kernel_rfl,λh zs=>by kernel_rfl,λh zs q z R k=>by kernel_rfl⟩ trivial))
def Oo:Con:=⟨54,[.ref [(.list iT),iT]],[(.list iT),iT],⟨[.own 169 dz],[.ref [(.list iT),iT]]⟩,[dz,(.list iT),iT],Pw.unc2 Pw.j7v⟩
def jiQ:FnD where
 N:=26
 np:=1
 cs:=[pO,Fx]
 ds:=[⟨0,[sB 0 0,sO 1000000,sO 1000001,sI,.b (.cell [.d (.list iT),.d iT] false),.b (.lst 169 ot false),.b (.lst 109 aJ false)],[iT,(.list iT),iT,dz,aa],[⟨.exit 0,[sO 1500100,.b (.cell [.d (.list iT),.d iT] false),.b (.lst 169 ot false)],[(.list iT),iT,dz]⟩],Pw.unc5 (Pw.j1W)⟩]
 keep:=[(0,⟨[0,3,4,5],[0],[⟨1000000,169,ot,[.slot 3],false⟩,⟨1000001,109,aJ,[.slot 4],false⟩],[]⟩)]
 keepX:=[(0,.exit 0,⟨[3],[0],[⟨1500100,169,ot,[.slot 3],false⟩],[]⟩)]
 ro:=[true]
 dw:=[(6,[[],[],[],[],[],[],[0],[],[],[1472],[1536,1000000],[]])]
theorem jhL:aB Oo:=
 cOf aC aF jiQ Oo Tryz.func54 (ja sF (ja NR trivial)) (ja (λh=>by kernel_rfl) trivial)
def P0:Con:=⟨294,[.v (.int .u8)],[(.int .u8)],⟨[.v .bool],[]⟩,[.bool],λh=>Pw.jmy h⟩
def jtE:FnD where
 N:=9
 np:=1
theorem jsc:aB P0:=
 cOf aC aF jtE P0 Tryz.func294 trivial trivial
def P1:Con:=⟨261,[.v .str],[.str],⟨[.v .bool],[]⟩,[.bool],λh=>Pw.jlJ h⟩
def jwB:FnD where
 N:=57
 np:=1
 cs:=[P0]
 ds:=[⟨0,[sD .str,sI],[.str,iT],[⟨.ret,[sD .bool],[.bool]⟩,⟨.exit 0,[],[]⟩],Pw.unc2 (Pw.j6d)⟩]
 keep:=[(0,⟨[0,3],[],[],[]⟩)]
 keepX:=[(0,.ret,⟨[2],[],[],[]⟩)]
theorem jtF:aB P1:=
 cOf aC aF jwB P1 Tryz.func261 (ja jsc trivial) (ja (λh=>by kernel_rfl) trivial)
def B7:Con:=⟨200,[.v (.list .str),.v iT],[(.list .str),iT],⟨[.v iT],[]⟩,[iT],Pw.unc2 Pw.jbx⟩
def jwC:FnD where
 N:=26
 np:=2
 cs:=[P1]
 ds:=[⟨0,[sD (.list .str),sI,sI],[(.list .str),iT,iT],[⟨.ret,[sI],[iT]⟩,⟨.exit 0,[],[]⟩],Pw.unc3 (Pw.j6e)⟩]
 keep:=[(0,⟨[0,1,5],[],[],[]⟩)]
 keepX:=[(0,.ret,⟨[4],[],[],[]⟩)]
theorem Jp:aB B7:=
 cOf aC aF jwC B7 Tryz.func200 (ja jtF trivial) (ja (λh=>by kernel_rfl) trivial)
def xe:Con:=⟨217,[.v iT,.v iT,.v iT],[iT,iT,iT],⟨[.v .bool],[]⟩,[.bool],Pw.unc3 Pw.j9d⟩
def jAM:FnD where
 N:=15
 np:=3
theorem B8:aB xe:=
 cOf aC aF jAM xe Tryz.func217 trivial trivial
def P2:Con:=⟨230,[.v ou],[ou],⟨[.v .bool],[]⟩,[.bool],λh=>Pw.jgC h⟩
def jtG:FnD where
 N:=38
 np:=1
 cs:=[xe]
theorem jsd:aB P2:=
 cOf aC aF jtG P2 Tryz.func230 (ja B8 trivial) trivial
def P3:Con:=⟨325,[.v iT],[iT],⟨[.v .bool],[]⟩,[.bool],λh=>Pw.j1j h⟩
def jwD:FnD where
 N:=16
 np:=1
theorem jtH:aB P3:=
 cOf aC aF jwD P3 Tryz.func325 trivial trivial
def FK:Con:=⟨298,[.v iT,.v iT],[iT,iT],⟨[.v iT],[]⟩,[iT],Pw.unc2 Pw.jf4⟩
def jwE:FnD where
 N:=23
 np:=2
 cs:=[P3]
theorem P4:aB FK:=
 cOf aC aF jwE FK Tryz.func298 (ja jtH trivial) trivial
def P5:Con:=⟨324,[.v aA],[aA],⟨[.v .bool],[]⟩,[.bool],λh=>Pw.jjr h⟩
def jtI:FnD where
 N:=36
 np:=1
 cs:=[FK]
theorem jse:aB P5:=
 cOf aC aF jtI P5 Tryz.func324 (ja P4 trivial) trivial
def Jq:Con:=⟨262,[.v iT],[iT],⟨[.v iT],[]⟩,[iT],λh=>Pw.jjs h⟩
def jwF:FnD where
 N:=18
 np:=1
theorem Yy:aB Jq:=
 cOf aC aF jwF Jq Tryz.func262 trivial trivial
def P6:Con:=⟨297,[.v aA],[aA],⟨[.v iT,.v iT],[]⟩,[iT,iT],λh=>Pw.jpy h⟩
def jyy:FnD where
 N:=29
 np:=1
 cs:=[FK,P5,Jq]
 ds:=[⟨0,[sB 64 0,sI,sI,.b (.cell [.d iT,.d iT,.d iT] false)],[iT,iT,iT,iT,iT],[⟨.exit 0,[sB 64 0,sI,.b (.cell [.d iT,.d iT,.d iT] false)],[iT,iT,iT,iT]⟩],Pw.unc5 (Pw.j78)⟩]
 keep:=[(0,⟨[1,4,5],[64],[],[]⟩)]
 keepX:=[(0,.exit 0,⟨[1,4],[64],[],[]⟩)]
theorem gp:aB P6:=
 cOf aC aF jyy P6 Tryz.func297 (ja P4 (ja jse (ja Yy trivial))) (ja (λh=>by kernel_rfl) trivial)
def Jr:Con:=⟨296,[.v iT],[iT],⟨[.v iT],[]⟩,[iT],λh=>Pw.jcc h⟩
def jq8:FnD where
 N:=7
 np:=1
theorem Yz:aB Jr:=
 cOf aC aF jq8 Jr Tryz.func296 trivial trivial
def P7:Con:=⟨270,[.v iT,.v iT,.v iT,.v iT],[iT,iT,iT,iT],⟨[.v iT,.v iT],[]⟩,[iT,iT],Pw.unc4 Pw.jpz⟩
def jyz:FnD where
 N:=63
 np:=4
 cs:=[FK,P6,Jr]
 ds:=[⟨0,[sI,sI,sI,sI,sI,sI],[iT,iT,iT,iT,iT,iT],[⟨.exit 0,[sI,sI,sI,sI,sI],[iT,iT,iT,iT,iT]⟩],Pw.unc6 (Pw.j79)⟩,⟨2,[sI,sI,sI,sI],[iT,iT,iT,iT],[⟨.exit 2,[sI],[iT]⟩],Pw.unc4 (Pw.j7a)⟩]
 keep:=[(0,⟨[0,1,2,3,10,12],[],[],[]⟩),(2,⟨[0,1,10,12],[],[],[]⟩)]
 keepX:=[(0,.exit 0,⟨[0,1,2,10,12],[],[],[]⟩),(2,.exit 2,⟨[12],[],[],[]⟩)]
theorem gq:aB P7:=
 cOf aC aF jyz P7 Tryz.func270 (ja P4 (ja gp (ja Yz trivial))) (ja (λh=>by kernel_rfl) (ja (λh=>by kernel_rfl) trivial))
def P8:Con:=⟨231,[.v bM],[bM],⟨[.own 276 aa],[]⟩,[aa],λh=>Pw.j9e h⟩
def jkD:FnD where
 N:=98
 np:=1
 cs:=[P7]
 ds:=[⟨0,[sD bM,sO 1000000,sI,.b (.lst 276 aJ false)],[bM,iT,aa],[⟨.exit 0,[sO 1500100,.b (.lst 276 aJ false)],[aa]⟩],Pw.unc3 (Pw.j2s)⟩,⟨2,[sD bM,sO 1002000,sI,sI,.b (.lst 276 aJ false)],[bM,iT,iT,aa],[⟨.exit 2,[sD bM,sO 1502300,sI,.b (.lst 276 aJ false)],[bM,iT,aa]⟩],Pw.unc4 (Pw.j2r)⟩,⟨4,[sD bM,sO 1004000,sI,sI,sB 512 0,sI,.b (.cell [.d iT,.d iT] false),.b (.lst 276 aJ false)],[bM,iT,iT,iT,iT,iT,aa],[⟨.exit 4,[sD bM,sO 1504500,sI,sI,sB 512 0,sI,.b (.cell [.d iT,.d iT] false),.b (.lst 276 aJ false)],[bM,iT,iT,iT,iT,iT,aa]⟩],Pw.unc7 (Pw.j2q)⟩]
 keep:=[(0,⟨[0,3,4],[],[⟨1000000,276,aJ,[.slot 3],false⟩],[]⟩),(2,⟨[0,3,4,5],[],[⟨1002000,276,aJ,[.slot 3],false⟩],[]⟩),(4,⟨[0,3,4,5,8,9],[512],[⟨1004000,276,aJ,[.slot 3],false⟩],[]⟩)]
 keepX:=[(0,.exit 0,⟨[3],[],[⟨1500100,276,aJ,[.slot 3],false⟩],[]⟩),(2,.exit 2,⟨[0,3,4],[],[⟨1502300,276,aJ,[.slot 3],false⟩],[]⟩),(4,.exit 4,⟨[0,3,4,5,8,9],[512],[⟨1504500,276,aJ,[.slot 3],false⟩],[]⟩)]
 ro:=[true]
 dw:=[(9,[[],[],[],[],[],[],[],[],[],[],[],[],[],[],[512],[512]]),(14,[[],[],[],[],[],[],[],[5376]])]
theorem jjZ:aB P8:=
 cOf aC aF jkD P8 Tryz.func231 (ja gq trivial) (ja (λh=>by kernel_rfl) (ja (λh=>by kernel_rfl) (ja (λh=>by kernel_rfl) trivial)))
def xf:Con:=⟨157,[.v bd],[bd],⟨[.own 216 aa,.v iT],[]⟩,[aa,iT],λh=>Pw.j0h h⟩
def jkE:FnD where
 N:=119
 np:=1
 cs:=[xe,P2,P8]
 ds:=[⟨0,[sB 64 0,sI,sI,.b (.cell [.d .str,.d iT,.d bM] false)],[iT,iT,.str,iT,bM],[⟨.ret,[.s (.one (.nil)),sI],[iT]⟩,⟨.exit 0,[sB 64 0,sI,.b (.cell [.d .str,.d iT,.d bM] false)],[iT,.str,iT,bM]⟩],Pw.unc5 (Pw.j2t)⟩,⟨2,[sO 1002000,sO 1002001,sI,sI,.b (.lst 216 aJ false),.b (.lst 276 aJ false)],[iT,iT,aa,aa],[⟨.ret,[.s (.one (.nil)),sI],[iT]⟩,⟨.exit 2,[sO 1502300,.b (.lst 216 aJ false)],[aa]⟩],Pw.unc4 (Pw.j2u)⟩]
 keep:=[(0,⟨[1,4,5],[64],[],[]⟩),(2,⟨[6,7,8,9],[],[⟨1002000,216,aJ,[.slot 6],false⟩,⟨1002001,276,aJ,[.slot 7],false⟩],[]⟩)]
 keepX:=[(0,.ret,⟨[2,3],[],[],[]⟩),(0,.exit 0,⟨[1,4],[64],[],[]⟩),(2,.ret,⟨[2,3],[],[],[]⟩),(2,.exit 2,⟨[6],[],[⟨1502300,216,aJ,[.slot 6],false⟩],[]⟩)]
 ro:=[true,false]
 dw:=[(21,[[],[],[],[],[],[],[],[],[],[],[],[],[],[640],[640]]),(24,[[],[],[7296],[7360,1002000],[],[],[],[]])]
theorem B9:aB xf:=
 cOf aC aF jkE xf Tryz.func157 (ja B8 (ja jsd (ja jjZ trivial))) (ja (λh=>by kernel_rfl) (ja (λh=>by kernel_rfl) trivial))
end Go.Proofs.Pk
