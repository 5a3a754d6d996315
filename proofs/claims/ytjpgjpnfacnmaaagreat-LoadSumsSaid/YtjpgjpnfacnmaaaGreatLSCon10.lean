/- cp: each given function is its plain function, printed by a program. -/
import Derived.Test.YtjpgjpnfacnmaaaGreatLSCon9
noncomputable section
open Go Go.Lft
set_option linter.unusedVariables false
set_option maxRecDepth 100000
namespace Go.Proofs.Pk
def N9:Con:=⟨176,[.v df,.v iT,.v iT],[df,iT,iT],⟨[.v .bool],[]⟩,[.bool],Pw.unc3 Pw.jlL⟩
def jwv:FnD where
 N:=42
 np:=3
 ds:=[⟨0,[sI,sI,sB 192 0,sI,.b (.cell [.d .str,.d bC,.d bu] false)],[iT,iT,iT,.str,bC,bu],[⟨.ret,[sD .bool],[.bool]⟩,⟨.exit 0,[],[]⟩],Pw.unc6 (Pw.j6t)⟩]
 keep:=[(0,⟨[1,2,3,7],[192],[],[]⟩)]
 keepX:=[(0,.ret,⟨[6],[],[],[]⟩)]
theorem jtw:aB N9:=
 cOf aC aF jwv N9 Tryz.func176 trivial (ja (λh=>by kernel_rfl) trivial)
def Oa:Con:=⟨119,[.v aY,.v iT,.v iT],[aY,iT,iT],⟨[.v iT,.v iT],[]⟩,[iT,iT],Pw.unc3 Pw.jpB⟩
def jyu:FnD where
 N:=43
 np:=3
 cs:=[Ob,N9]
 ds:=[⟨0,[sI,sB 192 0,sB 512 0,sI,.b (.cell [.d ax,.d az,.d ay,.d aG] false),.b (.cell [.d .str,.d bC,.d bu] false)],[iT,iT,ax,az,ay,aG,.str,bC,bu],[⟨.ret,[sI,sI],[iT,iT]⟩,⟨.exit 0,[],[]⟩],Pw.unc9 (Pw.j7e)⟩]
 keep:=[(0,⟨[2,3,8,9],[192,512],[],[]⟩)]
 keepX:=[(0,.ret,⟨[6,7],[],[],[]⟩)]
theorem jww:aB Oa:=
 cOf aC aF jyu Oa Tryz.func119 (ja jwM (ja jtw trivial)) (ja (λh=>by kernel_rfl) trivial)
def Oc:Con:=⟨26,[.v bu,.v iT,.v iT],[bu,iT,iT],⟨[.v iT],[]⟩,[iT],Pw.unc3 Pw.jpC⟩
def jwx:FnD where
 N:=61
 np:=3
 ds:=[⟨0,[sD bu,sI,sI,sI],[bu,iT,iT,iT],[⟨.exit 0,[sI],[iT]⟩],Pw.unc4 (Pw.j6u)⟩]
 keep:=[(0,⟨[0,1,2,7],[],[],[]⟩)]
 keepX:=[(0,.exit 0,⟨[1],[],[],[]⟩)]
theorem jtx:aB Oc:=
 cOf aC aF jwx Oc Tryz.func26 trivial (ja (λh=>by kernel_rfl) trivial)
def Od:Con:=⟨67,[.v aY,.v iT,.v iT],[aY,iT,iT],⟨[.v iT],[]⟩,[iT],Pw.unc3 Pw.jmB⟩
def jyv:FnD where
 N:=25
 np:=3
 cs:=[Oa,Oc]
theorem jwy:aB Od:=
 cOf aC aF jyv Od Tryz.func67 (ja jww (ja jtx trivial)) trivial
def Oe:Con:=⟨102,[.mv 138 aq,.v aA],[aq,aA],⟨[.own 138 aq],[]⟩,[aq],Pw.unc2 Pw.jhy⟩
def jrT:FnD where
 N:=50
 np:=2
 ro:=[true]
theorem jpP:aB Oe:=
 cOf aC aF jrT Oe Tryz.func102 trivial trivial
def Of:Con:=⟨173,[.v aY,.v iT,.v iT,.v iT],[aY,iT,iT,iT],⟨[.own 138 aq],[]⟩,[aq],Pw.unc4 Pw.jhz⟩
def jrU:FnD where
 N:=44
 np:=4
 cs:=[Og,Od,Oe]
 ds:=[⟨0,[sI,sB 256 0,sO 1000000,sO 1000001,sI,.b (.cell [.d ax,.d az,.d ay,.d aG] false),.b (.lst 3 iT false),.b (.lst 138 aA false)],[iT,iT,ax,az,ay,aG,(.list iT),aq],[⟨.exit 0,[sO 1500100,.b (.lst 138 aA false)],[aq]⟩],Pw.unc8 (Pw.j4V)⟩]
 modes:=[(102,[true,false])]
 keep:=[(0,⟨[1,4,9,10,11],[256],[⟨1000000,3,iT,[.slot 9],false⟩,⟨1000001,138,aA,[.slot 10],false⟩],[]⟩)]
 keepX:=[(0,.exit 0,⟨[10],[],[⟨1500100,138,aA,[.slot 10],false⟩],[]⟩)]
 ro:=[true]
 dw:=[(6,[[],[],[],[],[],[],[],[],[],[],[],[],[],[],[],[],[],[],[2688,1000001],[]])]
 mvf:=[102]
theorem jpQ:aB Of:=
 cOf aC aF jrU Of Tryz.func173 (ja ju2 (ja jwy (ja jpP trivial))) (ja (λh=>by kernel_rfl) trivial)
def Oh:Con:=⟨116,[.v aY,.v iT,.v iT,.v iT],[aY,iT,iT,iT],⟨[.own 138 aq,.v iT],[]⟩,[aq,iT],Pw.unc4 Pw.jdh⟩
def jnB:FnD where
 N:=29
 np:=4
 cs:=[Oi,Of]
 ro:=[true,false]
theorem jmG:aB Oh:=
 cOf aC aF jnB Oh Tryz.func116 (ja jsl (ja jpQ trivial)) trivial
def Jf:Con:=⟨58,[.v aY,.v iT,.v iT,.v iT,.v iT],[aY,iT,iT,iT,iT],⟨[.own 139 aa,.v iT],[]⟩,[aa,iT],Pw.unc5 Pw.jeu⟩
def jty:FnD where
 N:=58
 np:=5
 cs:=[Oh]
 ds:=[⟨0,[sI,sO 1000000,sO 1000001,sI,.b (.lst 138 aA false),.b (.lst 139 aJ false)],[iT,iT,aq,aa],[⟨.exit 0,[sO 1500100,.b (.lst 139 aJ false)],[aa]⟩],Pw.unc4 (Pw.j5F)⟩]
 keep:=[(0,⟨[2,12,14,15],[],[⟨1000000,138,aA,[.slot 12],false⟩,⟨1000001,139,aJ,[.slot 14],false⟩],[]⟩)]
 keepX:=[(0,.exit 0,⟨[14],[],[⟨1500100,139,aJ,[.slot 14],false⟩],[]⟩)]
 ro:=[true,false]
 dw:=[(9,[[],[],[],[],[],[],[],[],[],[],[],[],[3328],[3392,1000001],[]])]
theorem Yh:aB Jf:=
 cOf aC aF jty Jf Tryz.func58 (ja jmG trivial) (ja (λh=>by kernel_rfl) trivial)
def Oj:Con:=⟨55,[.v aY,.v iT,.v iT,.v iT],[aY,iT,iT,iT],⟨[.own 139 aa,.v iT],[]⟩,[aa,iT],Pw.unc4 Pw.jlM⟩
def jwz:FnD where
 N:=17
 np:=4
 cs:=[Jf]
 ro:=[true,false]
theorem jtz:aB Oj:=
 cOf aC aF jwz Oj Tryz.func55 (ja Yh trivial) trivial
def Ol:Con:=⟨115,[.v aa],[aa],⟨[.v .bool],[]⟩,[.bool],λh=>Pw.jjD h⟩
def jtA:FnD where
 N:=58
 np:=1
 ds:=[⟨0,[sD aa,sI],[aa,iT],[⟨.ret,[sD .bool],[.bool]⟩,⟨.exit 0,[],[]⟩],Pw.unc2 (Pw.j5G)⟩]
 keep:=[(0,⟨[0,3],[],[],[]⟩)]
 keepX:=[(0,.ret,⟨[2],[],[],[]⟩)]
theorem jrV:aB Ol:=
 cOf aC aF jtA Ol Tryz.func115 trivial (ja (λh=>by kernel_rfl) trivial)
def Om:Con:=⟨57,[.v aa],[aa],⟨[.v iT],[]⟩,[iT],λh=>Pw.j8O h⟩
def jrW:FnD where
 N:=29
 np:=1
 cs:=[Ol]
 ds:=[⟨0,[sD aa,sI,sI],[aa,iT,iT],[⟨.exit 0,[sI],[iT]⟩],Pw.unc3 (Pw.j4W)⟩]
 keep:=[(0,⟨[0,3,4],[],[],[]⟩)]
 keepX:=[(0,.exit 0,⟨[3],[],[],[]⟩)]
theorem jpR:aB Om:=
 cOf aC aF jrW Om Tryz.func57 (ja jrV trivial) (ja (λh=>by kernel_rfl) trivial)
def Yi:Con:=⟨6,[.v (.list iT)],[(.list iT)],⟨[.v .bool],[]⟩,[.bool],λh=>Pw.jdt h⟩
def jlk:FnD where
 N:=211
 np:=1
 cs:=[NF,Fw,NO,NP,pO,Ja,NW,On,Oo,Jf,Oj,Om]
 ds:=[⟨0,[sB 256 0,sI,sI,sO 1000000,sO 1000001,sI,sI,.b (.cell [.d ax,.d az,.d ay,.d aG] false),.b (.lst 94 aA false),.b (.lst 94 aA false)],[iT,iT,iT,iT,ax,az,ay,aG,aq,aq],[⟨.ret,[sD .bool],[.bool]⟩,⟨.exit 0,[],[]⟩],Pw.u8 Pw.unc2 (Pw.j2I)⟩]
 keep:=[(0,⟨[4,5,6,8,10,89,90],[256],[⟨1000000,94,aA,[.slot 8],false⟩,⟨1000001,94,aA,[.slot 10],false⟩],[]⟩)]
 keepX:=[(0,.ret,⟨[2],[],[],[]⟩)]
 dw:=[(9,[[],[],[],[],[],[1408,3072],[3136],[],[],[],[],[]]),(16,[[],[],[],[],[],[],[],[],[6528],[],[],[],[],[]])]
theorem law17_LoadSums_ok:aB Yi:=
 cOf aC aF jlk Yi Tryz.func6 (ja jpD (ja NH (ja jpH (ja jrM (ja sF (ja Ye (ja jix (ja jq7 (ja jhL (ja Yh (ja jtz (ja jpR trivial)))))))))))) (ja (λh=>by kernel_rfl) trivial)
def Yj:Con:=⟨146,[.v aJ],[aJ],⟨[.v iT],[]⟩,[iT],λh=>Pw.j5Y h⟩
def jmH:FnD where
 N:=10
 np:=1
 cs:=[Jd]
theorem jx5:aB Yj:=
 cOf aC aF jmH Yj Tryz.func146 (ja Yg trivial) trivial
end Go.Proofs.Pk
