/- cp: each given function is its plain function, printed by a program. -/
import Derived.Test.YtjpgjpnfacnmaaaGreatLSCon8
noncomputable section
open Go Go.Lft
set_option linter.unusedVariables false
set_option maxRecDepth 100000
namespace Go.Proofs.Pk
def Qm:Con:=⟨268,[.v iT,.v iT],[iT,iT],⟨[.v aJ],[]⟩,[aJ],Pw.unc2 Pw.jjz⟩
def jtV:FnD where
 N:=16
 np:=2
theorem jsn:aB Qm:=
 cOf aC aF jtV Qm Tryz.func268 trivial trivial
def FO:Con:=⟨227,[.v bd,.v iT],[bd,iT],⟨[.v aJ,.v iT],[]⟩,[aJ,iT],Pw.unc2 Pw.j3w⟩
def jqc:FnD where
 N:=21
 np:=2
 cs:=[Ql,Qm]
theorem Qn:aB FO:=
 cOf aC aF jqc FO Tryz.func227 (ja jn0 (ja jsn trivial)) trivial
def Jy:Con:=⟨216,[.v bd,.v bN,.v iT],[bd,bN,iT],⟨[.v iT,.v .bool],[]⟩,[iT,.bool],Pw.unc3 Pw.j7c⟩
def jnV:FnD where
 N:=66
 np:=3
 cs:=[Jw]
theorem YE:aB Jy:=
 cOf aC aF jnV Jy Tryz.func216 (ja YD trivial) trivial
def Jz:Con:=⟨228,[.v bd,.v bN,.v iT],[bd,bN,iT],⟨[.v iT],[]⟩,[iT],Pw.unc3 Pw.jcl⟩
def jtW:FnD where
 N:=81
 np:=3
 cs:=[Jw,FO,Jy]
 ds:=[⟨0,[sI,sB 192 0,sB 256 0,sI,.b (.cell [.d .str,.d iT,.d bM] false),.b (.cell [.d .str,.d iT,.d iT,.d iT,.d iT,.d iT,.d (.list iT),.d aa,.d iT,.d iT] false)],[iT,iT,.str,iT,bM,.str,iT,iT,iT,iT,iT,(.list iT),aa,iT,iT],[⟨.exit 0,[sI],[iT]⟩],Pw.u8 Pw.unc7 (Pw.j5B)⟩]
 keep:=[(0,⟨[2,3,4,7],[192,256],[],[]⟩)]
 keepX:=[(0,.exit 0,⟨[7],[],[],[]⟩)]
theorem YF:aB Jz:=
 cOf aC aF jtW Jz Tryz.func228 (ja YD (ja Qn (ja YE trivial))) (ja (λh=>by kernel_rfl) trivial)
def Qo:Con:=⟨155,[.v bd,.v bN,.v iT,.v iT],[bd,bN,iT,iT],⟨[.own 3 (.list iT),.v iT],[]⟩,[(.list iT),iT],Pw.unc4 Pw.j9h⟩
def jn1:FnD where
 N:=51
 np:=4
 cs:=[FN,Ju,Jy,Jz]
 ds:=[⟨0,[sI,sI,sB 256 0,sB 320 0,sO 1000000,sI,.b (.cell [.d .str,.d iT,.d bM] false),.b (.cell [.d .str,.d iT,.d iT,.d iT,.d iT,.d iT,.d (.list iT),.d aa,.d iT,.d iT] false),.b (.lst 3 iT false)],[iT,iT,iT,.str,iT,bM,.str,iT,iT,iT,iT,iT,(.list iT),aa,iT,iT,(.list iT)],[⟨.ret,[sO 1500000,sI,.b (.lst 3 iT false)],[iT,(.list iT)]⟩],Pw.u8 Pw.unc9 (Pw.j4S)⟩]
 keep:=[(0,⟨[2,3,4,5,10,11],[256,320],[⟨1000000,3,iT,[.slot 10],false⟩],[]⟩)]
 keepX:=[(0,.ret,⟨[8,9],[],[⟨1500000,3,iT,[.slot 8],false⟩],[]⟩)]
 ro:=[true,false]
theorem jlv:aB Qo:=
 cOf aC aF jn1 Qo Tryz.func155 (ja Qj (ja YB (ja YE (ja YF trivial)))) (ja (λh=>by kernel_rfl) trivial)
def JA:Con:=⟨269,[.v aJ],[aJ],⟨[.v iT],[]⟩,[iT],λh=>Pw.j7w h⟩
def jso:FnD where
 N:=10
 np:=1
 cs:=[Jr]
theorem YG:aB JA:=
 cOf aC aF jso JA Tryz.func269 (ja Yz trivial) trivial
def Qp:Con:=⟨229,[.v aa,.v iT,.v iT,.v iT],[aa,iT,iT,iT],⟨[.own 139 aa],[]⟩,[aa],Pw.unc4 Pw.jaD⟩
def jtX:FnD where
 N:=72
 np:=4
 cs:=[JA]
 ds:=[⟨0,[sD aa,sI,sI,sO 1000000,sI,.b (.lst 139 aJ false)],[aa,iT,iT,iT,aa],[⟨.exit 0,[sO 1500100,.b (.lst 139 aJ false)],[aa]⟩],Pw.unc5 (Pw.j5D)⟩,⟨2,[sD aa,sI,sI,sO 1002000,sI,sI,.b (.lst 139 aJ false)],[aa,iT,iT,iT,iT,aa],[⟨.exit 2,[sD aa,sI,sI,sO 1502300,sI,.b (.lst 139 aJ false)],[aa,iT,iT,iT,aa]⟩],Pw.unc6 (Pw.j5C)⟩]
 keep:=[(0,⟨[0,1,2,9,10],[],[⟨1000000,139,aJ,[.slot 9],false⟩],[]⟩),(2,⟨[0,1,2,9,10,11],[],[⟨1002000,139,aJ,[.slot 9],false⟩],[]⟩)]
 keepX:=[(0,.exit 0,⟨[9],[],[⟨1500100,139,aJ,[.slot 9],false⟩],[]⟩),(2,.exit 2,⟨[0,1,2,9,10],[],[⟨1502300,139,aJ,[.slot 9],false⟩],[]⟩)]
 ro:=[true]
 dw:=[(8,[[],[],[],[],[],[],[],[],[],[],[],[],[],[],[],[],[],[],[],[768],[768]])]
theorem jsp:aB Qp:=
 cOf aC aF jtX Qp Tryz.func229 (ja YG trivial) (ja (λh=>by kernel_rfl) (ja (λh=>by kernel_rfl) trivial))
def Qq:Con:=⟨100,[.mv 139 aa,.v aa],[aa,aa],⟨[.own 139 aa],[]⟩,[aa],Pw.unc2 Pw.jdg⟩
def jwH:FnD where
 N:=49
 np:=2
 ds:=[⟨0,[sO 1000000,sD aa,sI,.b (.lst 139 aJ false)],[aa,iT,aa],[⟨.exit 0,[sO 1500100,.b (.lst 139 aJ false)],[aa]⟩],Pw.unc3 (Pw.j6l)⟩]
 keep:=[(0,⟨[0,1,5],[],[⟨1000000,139,aJ,[.slot 0],false⟩],[]⟩)]
 keepX:=[(0,.exit 0,⟨[0],[],[⟨1500100,139,aJ,[.slot 0],false⟩],[]⟩)]
 ro:=[true]
theorem jtY:aB Qq:=
 cOf aC aF jwH Qq Tryz.func100 trivial (ja (λh=>by kernel_rfl) trivial)
def Qr:Con:=⟨156,[.v bd,.v aa,.v iT,.v iT],[bd,aa,iT,iT],⟨[.own 139 aa,.v iT],[]⟩,[aa,iT],Pw.unc4 Pw.jer⟩
def jtZ:FnD where
 N:=84
 np:=4
 cs:=[xf,Ca,FN,Qp,Qq]
 ds:=[⟨0,[sD aa,sI,sI,sB 256 0,sO 1000000,sO 1000001,sI,.b (.cell [.d .str,.d iT,.d bM] false),.b (.lst 216 aJ false),.b (.lst 139 aJ false)],[aa,iT,iT,iT,.str,iT,bM,aa,aa],[⟨.exit 0,[sO 1500100,.b (.lst 139 aJ false)],[aa]⟩],Pw.unc9 (Pw.j5E)⟩]
 modes:=[(100,[true,false])]
 keep:=[(0,⟨[1,2,3,4,10,12,13],[256],[⟨1000000,216,aJ,[.slot 10],false⟩,⟨1000001,139,aJ,[.slot 12],false⟩],[]⟩)]
 keepX:=[(0,.exit 0,⟨[12],[],[⟨1500100,139,aJ,[.slot 12],false⟩],[]⟩)]
 ro:=[true,false]
 mvf:=[100]
theorem jsq:aB Qr:=
 cOf aC aF jtZ Qr Tryz.func156 (ja B9 (ja Jt (ja Qj (ja jsp (ja jtY trivial))))) (ja (λh=>by kernel_rfl) trivial)
def Qs:Con:=⟨158,[.v bd,.v aJ],[bd,aJ],⟨[.own 3 (.list iT),.v iT],[]⟩,[(.list iT),iT],Pw.unc2 Pw.j7x⟩
def jn2:FnD where
 N:=81
 np:=2
 cs:=[xe,xf,Jv]
 ds:=[⟨0,[sB 128 0,sB 192 0,sO 1000000,sO 1000001,sI,.b (.cell [.d .str,.d iT,.d bM] false),.b (.cell [.d iT,.d iT] false),.b (.lst 216 aJ false),.b (.lst 3 iT false)],[iT,.str,iT,bM,iT,iT,aa,(.list iT)],[⟨.exit 0,[sO 1500100,.b (.lst 3 iT false)],[(.list iT)]⟩],Pw.unc8 (Pw.j3d)⟩]
 keep:=[(0,⟨[2,3,6,8,9],[128,192],[⟨1000000,216,aJ,[.slot 6],false⟩,⟨1000001,3,iT,[.slot 8],false⟩],[]⟩)]
 keepX:=[(0,.exit 0,⟨[8],[],[⟨1500100,3,iT,[.slot 8],false⟩],[]⟩)]
 ro:=[true,false]
theorem jlw:aB Qs:=
 cOf aC aF jn2 Qs Tryz.func158 (ja B8 (ja B9 (ja YC trivial))) (ja (λh=>by kernel_rfl) trivial)
def Qt:Con:=⟨99,[.v aY,.v bN,.v iT,.v iT],[aY,bN,iT,iT],⟨[.own 3 (.list iT)],[]⟩,[(.list iT)],Pw.unc4 Pw.jjA⟩
def jwI:FnD where
 N:=138
 np:=4
 cs:=[xf,Qo,Qr,Qs]
 ds:=[⟨0,[sB 256 0,sB 320 0,sO 1000000,sO 1000001,sI,.b (.cell [.d ax,.d az,.d ay,.d aG] false),.b (.cell [.d .str,.d iT,.d iT,.d iT,.d iT,.d iT,.d (.list iT),.d aa,.d iT,.d iT] false),.b (.lst 3 iT false),.b (.lst 139 aJ false)],[iT,ax,az,ay,aG,.str,iT,iT,iT,iT,iT,(.list iT),aa,iT,iT,(.list iT),aa],[⟨.exit 0,[sB 256 0,sB 320 0,sO 1500100,.b (.cell [.d ax,.d az,.d ay,.d aG] false),.b (.cell [.d .str,.d iT,.d iT,.d iT,.d iT,.d iT,.d (.list iT),.d aa,.d iT,.d iT] false),.b (.lst 3 iT false)],[ax,az,ay,aG,.str,iT,iT,iT,iT,iT,(.list iT),aa,iT,iT,(.list iT)]⟩],Pw.u8 Pw.unc9 (Pw.j6m)⟩,⟨2,[sB 256 0,sO 1002000,sB 960 0,sO 1002001,sI,.b (.cell [.d ax,.d az,.d ay,.d aG] false),.b (.cell [.d .str,.d iT,.d (.list iT)] false),.b (.lst 3 iT false),.b (.lst 216 aJ false)],[iT,ax,az,ay,aG,.str,iT,(.list iT),(.list iT),aa],[⟨.exit 2,[sB 256 0,sO 1502300,sB 960 0,.b (.cell [.d ax,.d az,.d ay,.d aG] false),.b (.cell [.d .str,.d iT,.d (.list iT)] false),.b (.lst 3 iT false)],[ax,az,ay,aG,.str,iT,(.list iT),(.list iT)]⟩],Pw.u8 Pw.unc2 (Pw.j6n)⟩,⟨4,[sB 256 0,sO 1004000,sB 960 0,sI,.b (.cell [.d ax,.d az,.d ay,.d aG] false),.b (.cell [.d .str,.d iT,.d (.list iT)] false),.b (.lst 3 iT false)],[iT,ax,az,ay,aG,.str,iT,(.list iT),(.list iT)],[⟨.exit 4,[sO 1504500,.b (.lst 3 iT false)],[(.list iT)]⟩],Pw.unc9 (Pw.j6o)⟩,⟨6,[sB 256 0,sO 1006000,sB 960 0,sI,sI,.b (.cell [.d ax,.d az,.d ay,.d aG] false),.b (.cell [.d .str,.d iT,.d (.list iT)] false),.b (.lst 3 iT false)],[iT,iT,ax,az,ay,aG,.str,iT,(.list iT),(.list iT)],[⟨.exit 6,[sB 256 0,sO 1506700,sB 960 0,sI,.b (.cell [.d ax,.d az,.d ay,.d aG] false),.b (.cell [.d .str,.d iT,.d (.list iT)] false),.b (.lst 3 iT false)],[iT,ax,az,ay,aG,.str,iT,(.list iT),(.list iT)]⟩],Pw.u8 Pw.unc2 (Pw.j4u)⟩]
 keep:=[(0,⟨[4,5,10,12,14],[256,320],[⟨1000000,3,iT,[.slot 10],false⟩,⟨1000001,139,aJ,[.slot 12],false⟩],[]⟩),(2,⟨[4,10,15,16,18],[256,960],[⟨1002000,3,iT,[.slot 10],false⟩,⟨1002001,216,aJ,[.slot 16],false⟩],[]⟩),(4,⟨[4,10,15,19],[256,960],[⟨1004000,3,iT,[.slot 10],false⟩],[]⟩),(6,⟨[4,10,15,19,20],[256,960],[⟨1006000,3,iT,[.slot 10],false⟩],[]⟩)]
 keepX:=[(0,.exit 0,⟨[4,5,10],[256,320],[⟨1500100,3,iT,[.slot 10],false⟩],[]⟩),(2,.exit 2,⟨[4,10,15],[256,960],[⟨1502300,3,iT,[.slot 10],false⟩],[]⟩),(4,.exit 4,⟨[10],[],[⟨1504500,3,iT,[.slot 10],false⟩],[]⟩),(6,.exit 6,⟨[4,10,15,19],[256,960],[⟨1506700,3,iT,[.slot 10],false⟩],[]⟩)]
 ro:=[true]
 dw:=[(9,[[],[],[],[],[],[],[],[],[],[],[],[4416],[4480,1000000],[]]),(24,[[],[],[],[],[],[],[],[],[],[],[],[],[],[],[8384],[],[],[],[],[]])]
theorem ju0:aB Qt:=
 cOf aC aF jwI Qt Tryz.func99 (ja B9 (ja jlv (ja jsq (ja jlw trivial)))) (ja (λh=>by kernel_rfl) (ja (λh=>by kernel_rfl) (ja (λh=>by kernel_rfl) (ja (λh=>by kernel_rfl) trivial))))
def YH:Con:=⟨154,[.v (.list iT)],[(.list iT)],⟨[.own 3 (.list iT)],[]⟩,[(.list iT)],λh=>Pw.jpA h⟩
def JB(g:HL [(.list iT)]->Option (HL [(.list iT)])):Con:=⟨154,[.v (.list iT)],[(.list iT)],⟨[.own 3 (.list iT)],[]⟩,[(.list iT)],g⟩
def jwJ(g:HL [(.list iT)]->Option (HL [(.list iT)])):FnD where
 N:=88
 np:=1
 cs:=[JB g]
 ds:=[⟨0,[sO 1000000,sO 1000001,sO 1000002,sI,sI,.b (.lst 3 iT false),.b (.lst 3 iT false),.b (.lst 3 iT false)],[iT,iT,(.list iT),(.list iT),(.list iT)],[⟨.exit 0,[sO 1500100,.b (.lst 3 iT false)],[(.list iT)]⟩],Pw.unc5 (Pw.j6p (λv0=>g v0))⟩]
 keep:=[(0,⟨[3,4,5,6,7],[],[⟨1000000,3,iT,[.slot 3],false⟩,⟨1000001,3,iT,[.slot 4],false⟩,⟨1000002,3,iT,[.slot 5],false⟩],[]⟩)]
 keepX:=[(0,.exit 0,⟨[3],[],[⟨1500100,3,iT,[.slot 3],false⟩],[]⟩)]
 ro:=[true]
 dw:=[(4,[[],[],[],[],[],[1280],[],[],[],[],[],[1664],[],[]])]
theorem jqd(g:HL [(.list iT)]->Option (HL [(.list iT)]))(hg:aB (JB g)):aB (JB (Pw.j4T g)):=
 cOf aC aF (jwJ g) (JB (Pw.j4T g)) Tryz.func154 (ja hg trivial) (ja (λh=>by kernel_rfl) trivial)
theorem ju1:aB YH:=jEh (f:=154) (ps:=[.v (.list iT)]) (ts:=[(.list iT)]) (rp:=⟨[.own 3 (.list iT)],[]⟩) (rs:=[(.list iT)]) (B:=Pw.j4T) jqd
def Qu:Con:=⟨98,[.v (.list iT),.v iT,.v iT],[(.list iT),iT,iT],⟨[.own 3 (.list iT)],[]⟩,[(.list iT)],Pw.unc3 Pw.jfb⟩
def jqe:FnD where
 N:=49
 np:=3
 cs:=[YH]
 ds:=[⟨0,[sI,sI,sO 1000000,sO 1000001,sI,.b (.lst 3 iT false),.b (.lst 3 iT false)],[iT,iT,iT,(.list iT),(.list iT)],[⟨.exit 0,[sI,sI,sO 1500100,.b (.lst 3 iT false)],[iT,iT,(.list iT)]⟩],Pw.unc5 (Pw.j4i)⟩]
 keep:=[(0,⟨[1,2,7,8,9],[],[⟨1000000,3,iT,[.slot 7],false⟩,⟨1000001,3,iT,[.slot 8],false⟩],[]⟩)]
 keepX:=[(0,.exit 0,⟨[1,2,7],[],[⟨1500100,3,iT,[.slot 7],false⟩],[]⟩)]
 ro:=[true]
theorem jnW:aB Qu:=
 cOf aC aF jqe Qu Tryz.func98 (ja ju1 trivial) (ja (λh=>by kernel_rfl) trivial)
def Og:Con:=⟨250,[.v aY,.v iT,.v iT,.v iT],[aY,iT,iT,iT],⟨[.own 3 (.list iT)],[]⟩,[(.list iT)],Pw.unc4 Pw.jlK⟩
def jwK:FnD where
 N:=62
 np:=4
 cs:=[Qt,Qu]
 ds:=[⟨0,[sI,sI,sB 256 0,sB 576 0,sO 1000000,sI,.b (.cell [.d ax,.d az,.d ay,.d aG] false),.b (.cell [.d .str,.d bC,.d bu] false),.b (.lst 3 iT false)],[iT,iT,iT,ax,az,ay,aG,.str,bC,bu,(.list iT)],[⟨.exit 0,[sI,sI,sB 576 0,sO 1500100,.b (.cell [.d .str,.d bC,.d bu] false),.b (.lst 3 iT false)],[iT,iT,.str,bC,bu,(.list iT)]⟩],Pw.u8 Pw.unc3 (Pw.j6q)⟩,⟨2,[sI,sI,sB 576 0,sO 1002000,sI,.b (.cell [.d .str,.d bC,.d bu] false),.b (.lst 3 iT false)],[iT,iT,iT,.str,bC,bu,(.list iT)],[⟨.exit 2,[sI,sI,sO 1502300,.b (.lst 3 iT false)],[iT,iT,(.list iT)]⟩],Pw.unc7 (Pw.j6r)⟩]
 keep:=[(0,⟨[2,3,4,9,10,11],[256,576],[⟨1000000,3,iT,[.slot 10],false⟩],[]⟩),(2,⟨[2,3,9,10,12],[576],[⟨1002000,3,iT,[.slot 10],false⟩],[]⟩)]
 keepX:=[(0,.exit 0,⟨[2,3,9,10],[576],[⟨1500100,3,iT,[.slot 10],false⟩],[]⟩),(2,.exit 2,⟨[2,3,10],[],[⟨1502300,3,iT,[.slot 10],false⟩],[]⟩)]
 ro:=[true]
 dw:=[(6,[[],[],[],[],[],[],[],[],[],[2176],[2240,1000000],[]]),(10,[[],[],[],[],[],[],[],[],[],[],[],[],[],[3584],[3648,1002000],[]])]
theorem ju2:aB Og:=
 cOf aC aF jwK Og Tryz.func250 (ja ju0 (ja jnW trivial)) (ja (λh=>by kernel_rfl) (ja (λh=>by kernel_rfl) trivial))
def Qv:Con:=⟨225,[.v bd,.v bN,.v iT],[bd,bN,iT],⟨[.v iT,.v iT],[]⟩,[iT,iT],Pw.unc3 Pw.jgM⟩
def ju3:FnD where
 N:=22
 np:=3
 cs:=[Ju,Jz]
theorem jsr:aB Qv:=
 cOf aC aF ju3 Qv Tryz.func225 (ja YB (ja YF trivial)) trivial
def Qw:Con:=⟨265,[.v bd,.v iT],[bd,iT],⟨[.v iT,.v iT],[]⟩,[iT,iT],Pw.unc2 Pw.jbV⟩
def jss:FnD where
 N:=19
 np:=2
 cs:=[FO,JA]
theorem jqf:aB Qw:=
 cOf aC aF jss Qw Tryz.func265 (ja Qn (ja YG trivial)) trivial
def Qx:Con:=⟨266,[.v aa,.v iT],[aa,iT],⟨[.v .bool],[]⟩,[.bool],Pw.unc2 Pw.jhx⟩
def jst:FnD where
 N:=28
 np:=2
 ds:=[⟨0,[sD aa,sI,sI],[aa,iT,iT],[⟨.ret,[sD .bool],[.bool]⟩,⟨.exit 0,[],[]⟩],Pw.unc3 (Pw.j4U)⟩]
 keep:=[(0,⟨[0,1,5],[],[],[]⟩)]
 keepX:=[(0,.ret,⟨[4],[],[],[]⟩)]
theorem jqg:aB Qx:=
 cOf aC aF jst Qx Tryz.func266 trivial (ja (λh=>by kernel_rfl) trivial)
def Qy:Con:=⟨226,[.v bd,.v aa,.v iT],[bd,aa,iT],⟨[.v .bool],[]⟩,[.bool],Pw.unc3 Pw.jrE⟩
def jAO:FnD where
 N:=27
 np:=3
 cs:=[Ca,Qw,Qx]
theorem jyA:aB Qy:=
 cOf aC aF jAO Qy Tryz.func226 (ja Jt (ja jqf (ja jqg trivial))) trivial
def Qz:Con:=⟨149,[.v aY,.v bN,.v iT],[aY,bN,iT],⟨[.v iT,.v .bool],[]⟩,[iT,.bool],Pw.unc3 Pw.jjB⟩
def jwL:FnD where
 N:=94
 np:=3
 cs:=[FO,Qv,Qy]
 ds:=[⟨0,[sB 256 0,sI,sB 704 0,sB 768 0,sD .bool,sI,.b (.cell [.d .str,.d iT,.d iT,.d iT,.d iT,.d iT,.d (.list iT),.d aa,.d iT,.d iT] false),.b (.cell [.d .str,.d iT,.d (.list iT)] false),.b (.cell [.d iT,.d iT] false)],[iT,.bool,iT,.str,iT,iT,iT,iT,iT,(.list iT),aa,iT,iT,.str,iT,(.list iT),iT,iT],[⟨.exit 0,[sB 256 0,sI,sD .bool,.b (.cell [.d .str,.d iT,.d iT,.d iT,.d iT,.d iT,.d (.list iT),.d aa,.d iT,.d iT] false)],[iT,.bool,.str,iT,iT,iT,iT,iT,(.list iT),aa,iT,iT]⟩],Pw.u8 (Pw.u8 Pw.unc2) (Pw.j6s)⟩]
 keep:=[(0,⟨[4,9,11,12,14,15],[256,704,768],[],[]⟩)]
 keepX:=[(0,.exit 0,⟨[4,9,14],[256],[],[]⟩)]
theorem ju4:aB Qz:=
 cOf aC aF jwL Qz Tryz.func149 (ja Qn (ja jsr (ja jyA trivial))) (ja (λh=>by kernel_rfl) trivial)
def Ob:Con:=⟨94,[.v aY,.v bN,.v iT],[aY,bN,iT],⟨[.v iT],[]⟩,[iT],Pw.unc3 Pw.jmA⟩
def jyB:FnD where
 N:=27
 np:=3
 cs:=[Qz]
theorem jwM:aB Ob:=
 cOf aC aF jyB Ob Tryz.func94 (ja ju4 trivial) trivial
end Go.Proofs.Pk
