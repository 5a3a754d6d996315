/- cB: each given function is its plain function, printed by a program. -/
import Derived.Test.YtkoifkkadkmecaaGreatLRCon7
open Bool renaming false->e
open _root_ renaming trivial->i
noncomputable section
open Go Go.Lft
set_option linter.unusedVariables false
set_option maxRecDepth 100000
namespace Go.Proofs.Pk
def Ri:Con:=⟨121,[.v iT,.v iT,.v iT,.v iT],[iT,iT,iT,iT],⟨[.v iT,.v iT],[]⟩,[iT,iT],Pw.unc4 Pw.jrg⟩
def jA1:FnD where
 N:=63
 np:=4
 cs:=[Gx,Rh,KH]
 ds:=[⟨0,[sI,sI,sI,sI,sI,sI],[iT,iT,iT,iT,iT,iT],[⟨.exit 0,[sI,sI,sI,sI,sI],[iT,iT,iT,iT,iT]⟩],Pw.unc6 (Pw.j8z)⟩,⟨2,[sI,sI,sI,sI],[iT,iT,iT,iT],[⟨.exit 2,[sI],[iT]⟩],Pw.unc4 (Pw.j8A)⟩]
 keep:=[(0,⟨[0,1,2,3,10,12],[],[],[]⟩),(2,⟨[0,1,10,12],[],[],[]⟩)]
 keepX:=[(0,.exit 0,⟨[0,1,2,10,12],[],[],[]⟩),(2,.exit 2,⟨[12],[],[],[]⟩)]
theorem gO:aH Ri:=
 cOf aK aM jA1 Ri Tryz.func121 (ja Rf (ja gN (ja _m i))) (ja (λh=>by kernel_rfl) (ja (λh=>by kernel_rfl) i))
def Rj:Con:=⟨73,[.v bS],[bS],⟨[.own 151 aa],[]⟩,[aa],λh=>Pw.jaU h⟩
def jmn:FnD where
 N:=98
 np:=1
 cs:=[Ri]
 ds:=[⟨0,[sD bS,sO 1000000,sI,.b (.lst 151 aO e)],[bS,iT,aa],[⟨.exit 0,[sO 1500100,.b (.lst 151 aO e)],[aa]⟩],Pw.unc3 (Pw.j3s)⟩,⟨2,[sD bS,sO 1002000,sI,sI,.b (.lst 151 aO e)],[bS,iT,iT,aa],[⟨.exit 2,[sD bS,sO 1502300,sI,.b (.lst 151 aO e)],[bS,iT,aa]⟩],Pw.unc4 (Pw.j3r)⟩,⟨4,[sD bS,sO 1004000,sI,sI,sB 512 0,sI,.b (.cell [.d iT,.d iT] e),.b (.lst 151 aO e)],[bS,iT,iT,iT,iT,iT,aa],[⟨.exit 4,[sD bS,sO 1504500,sI,sI,sB 512 0,sI,.b (.cell [.d iT,.d iT] e),.b (.lst 151 aO e)],[bS,iT,iT,iT,iT,iT,aa]⟩],Pw.unc7 (Pw.j3q)⟩]
 keep:=[(0,⟨[0,3,4],[],[⟨1000000,151,aO,[.slot 3],e⟩],[]⟩),(2,⟨[0,3,4,5],[],[⟨1002000,151,aO,[.slot 3],e⟩],[]⟩),(4,⟨[0,3,4,5,8,9],[512],[⟨1004000,151,aO,[.slot 3],e⟩],[]⟩)]
 keepX:=[(0,.exit 0,⟨[3],[],[⟨1500100,151,aO,[.slot 3],e⟩],[]⟩),(2,.exit 2,⟨[0,3,4],[],[⟨1502300,151,aO,[.slot 3],e⟩],[]⟩),(4,.exit 4,⟨[0,3,4,5,8,9],[512],[⟨1504500,151,aO,[.slot 3],e⟩],[]⟩)]
 ro:=[true]
 dw:=[(9,[[],[],[],[],[],[],[],[],[],[],[],[],[],[],[512],[512]]),(14,[[],[],[],[],[],[],[],[5376]])]
theorem jlG:aH Rj:=
 cOf aK aM jmn Rj Tryz.func73 (ja gO i) (ja (λh=>by kernel_rfl) (ja (λh=>by kernel_rfl) (ja (λh=>by kernel_rfl) i)))
def yR:Con:=⟨41,[.v br],[br],⟨[.own 112 aa,.v iT],[]⟩,[aa,iT],λh=>Pw.j0q h⟩
def jmo:FnD where
 N:=119
 np:=1
 cs:=[yQ,Rc,Rj]
 ds:=[⟨0,[sB 64 0,sI,sI,.b (.cell [.d .str,.d iT,.d bS] e)],[iT,iT,.str,iT,bS],[⟨.ret,[.s (.one (.nil)),sI],[iT]⟩,⟨.exit 0,[sB 64 0,sI,.b (.cell [.d .str,.d iT,.d bS] e)],[iT,.str,iT,bS]⟩],Pw.unc5 (Pw.j3t)⟩,⟨2,[sO 1002000,sO 1002001,sI,sI,.b (.lst 112 aO e),.b (.lst 151 aO e)],[iT,iT,aa,aa],[⟨.ret,[.s (.one (.nil)),sI],[iT]⟩,⟨.exit 2,[sO 1502300,.b (.lst 112 aO e)],[aa]⟩],Pw.unc4 (Pw.j3u)⟩]
 keep:=[(0,⟨[1,4,5],[64],[],[]⟩),(2,⟨[6,7,8,9],[],[⟨1002000,112,aO,[.slot 6],e⟩,⟨1002001,151,aO,[.slot 7],e⟩],[]⟩)]
 keepX:=[(0,.ret,⟨[2,3],[],[],[]⟩),(0,.exit 0,⟨[1,4],[64],[],[]⟩),(2,.ret,⟨[2,3],[],[],[]⟩),(2,.exit 2,⟨[6],[],[⟨1502300,112,aO,[.slot 6],e⟩],[]⟩)]
 ro:=[true,e]
 dw:=[(21,[[],[],[],[],[],[],[],[],[],[],[],[],[],[640],[640]]),(24,[[],[],[7296],[7360,1002000],[],[],[],[]])]
theorem CV:aH yR:=
 cOf aK aM jmo yR Tryz.func41 (ja CU (ja jtA (ja jlG i))) (ja (λh=>by kernel_rfl) (ja (λh=>by kernel_rfl) i))
def KI:Con:=⟨111,[.v br],[br],⟨[.v iT],[]⟩,[iT],λh=>Pw.j8B h⟩
def jv7:FnD where
 N:=11
 np:=1
 cs:=[yR]
theorem _n:aH KI:=
 cOf aK aM jv7 KI Tryz.func111 (ja CV i) i
def Rl:Con:=⟨112,[.v br],[br],⟨[.v .bool],[]⟩,[.bool],λh=>Pw.jeb h⟩
def jrK:FnD where
 N:=28
 np:=1
 ds:=[⟨0,[sB 64 0,sD .bool,sI,.b (.cell [.d .str,.d iT,.d bS] e)],[.bool,iT,.str,iT,bS],[⟨.exit 0,[sD .bool],[.bool]⟩],Pw.unc5 (Pw.j5x)⟩]
 keep:=[(0,⟨[1,3,4],[64],[],[]⟩)]
 keepX:=[(0,.exit 0,⟨[3],[],[],[]⟩)]
theorem jpI:aH Rl:=
 cOf aK aM jrK Rl Tryz.func112 i (ja (λh=>by kernel_rfl) i)
def Rm:Con:=⟨64,[.v bk],[bk],⟨[.v iT],[]⟩,[iT],λh=>Pw.jom h⟩
def jv8:FnD where
 N:=44
 np:=1
 cs:=[CT,KI,Rl]
 ds:=[⟨0,[sB 64 0,sO 1000000,sI,.b (.cell [.d ax,.d az,.d ay,.d aC] e),.b (.lst 9 .str e)],[iT,ax,az,ay,aC,(.list .str)],[⟨.ret,[sI],[iT]⟩,⟨.exit 0,[],[]⟩],Pw.unc6 (Pw.j6S)⟩]
 keep:=[(0,⟨[1,3,4],[64],[⟨1000000,9,.str,[.slot 3],e⟩],[]⟩)]
 keepX:=[(0,.ret,⟨[2],[],[],[]⟩)]
theorem jtC:aH Rm:=
 cOf aK aM jv8 Rm Tryz.func64 (ja KF (ja _n (ja jpI i))) (ja (λh=>by kernel_rfl) i)
def Bi:Con:=⟨113,[.v iT,.v iT,.v iT],[iT,iT,iT],⟨[.v .bool],[]⟩,[.bool],Pw.unc3 Pw.j9D⟩
def jCe:FnD where
 N:=15
 np:=3
theorem Gy:aH Bi:=
 cOf aK aM jCe Bi Tryz.func113 i i
def CO:Con:=⟨42,[.v aa],[aa],⟨[.v iT],[]⟩,[iT],λh=>Pw.jcD h⟩
def jv9:FnD where
 N:=56
 np:=1
 ds:=[⟨0,[sD aa,sI],[aa,iT],[⟨.ret,[sI],[iT]⟩,⟨.exit 0,[],[]⟩],Pw.unc2 (Pw.j6T)⟩]
 keep:=[(0,⟨[0,3],[],[],[]⟩)]
 keepX:=[(0,.ret,⟨[2],[],[],[]⟩)]
theorem Ke:aH CO:=
 cOf aK aM jv9 CO Tryz.func42 i (ja (λh=>by kernel_rfl) i)
def Rn:Con:=⟨114,[.v iT],[iT],⟨[.v .bool],[]⟩,[.bool],λh=>Pw.jl9 h⟩
def jva:FnD where
 N:=10
 np:=1
 cs:=[Bi]
theorem jtD:aH Rn:=
 cOf aK aM jva Rn Tryz.func114 (ja Gy i) i
def Ro:Con:=⟨65,[.v bk],[bk],⟨[.v iT],[]⟩,[iT],λh=>Pw.jm9 h⟩
def jtE:FnD where
 N:=58
 np:=1
 cs:=[CT,Bi,CO,Rn]
 ds:=[⟨0,[sB 64 0,sO 1000000,sI,.b (.cell [.d ax,.d az,.d ay,.d aC] e),.b (.lst 9 .str e)],[iT,ax,az,ay,aC,(.list .str)],[⟨.ret,[sI],[iT]⟩,⟨.exit 0,[],[]⟩],Pw.unc6 (Pw.j67)⟩]
 keep:=[(0,⟨[1,3,4],[64],[⟨1000000,9,.str,[.slot 3],e⟩],[]⟩)]
 keepX:=[(0,.ret,⟨[2],[],[],[]⟩)]
theorem jrL:aH Ro:=
 cOf aK aM jtE Ro Tryz.func65 (ja KF (ja Gy (ja Ke (ja jtD i)))) (ja (λh=>by kernel_rfl) i)
def Gz:Con:=⟨115,[],[],⟨[.v iT],[]⟩,[iT],λh=>Pw.jdV⟩
def jtF:FnD where
 N:=3
 np:=0
 cs:=[KG]
theorem Rp:aH Gz:=
 cOf aK aM jtF Gz Tryz.func115 (ja _l i) i
def Rq:Con:=⟨66,[.v bk],[bk],⟨[.v iT],[]⟩,[iT],λh=>Pw.jgP h⟩
def joO:FnD where
 N:=78
 np:=1
 cs:=[CT,Bi,Gz]
 ds:=[⟨0,[sB 64 0,sO 1000000,sI,.b (.cell [.d ax,.d az,.d ay,.d aC] e),.b (.lst 9 .str e)],[iT,ax,az,ay,aC,(.list .str)],[⟨.ret,[sI],[iT]⟩,⟨.exit 0,[],[]⟩],Pw.unc6 (Pw.j4f)⟩,⟨2,[sB 64 0,sO 1002000,sI,sB 320 0,sI,.b (.cell [.d ax,.d az,.d ay,.d aC] e),.b (.cell [.d .str,.d iT,.d (.list iT)] e),.b (.lst 9 .str e)],[iT,iT,ax,az,ay,aC,.str,iT,(.list iT),(.list .str)],[⟨.ret,[sI],[iT]⟩,⟨.exit 2,[sB 64 0,sO 1502300,sI,sB 320 0,.b (.cell [.d ax,.d az,.d ay,.d aC] e),.b (.cell [.d .str,.d iT,.d (.list iT)] e),.b (.lst 9 .str e)],[iT,ax,az,ay,aC,.str,iT,(.list iT),(.list .str)]⟩],Pw.u8 Pw.unc2 (Pw.j4e)⟩,⟨4,[sB 64 0,sO 1004000,sI,sB 320 0,sI,.b (.cell [.d ax,.d az,.d ay,.d aC] e),.b (.cell [.d .str,.d iT,.d (.list iT)] e),.b (.lst 9 .str e)],[iT,iT,ax,az,ay,aC,.str,iT,(.list iT),(.list .str)],[⟨.ret,[sI],[iT]⟩,⟨.exit 4,[sB 64 0,sO 1504500,sI,.b (.cell [.d ax,.d az,.d ay,.d aC] e),.b (.lst 9 .str e)],[iT,ax,az,ay,aC,(.list .str)]⟩],Pw.u8 Pw.unc2 (Pw.j68)⟩]
 keep:=[(0,⟨[1,3,4],[64],[⟨1000000,9,.str,[.slot 3],e⟩],[]⟩),(2,⟨[1,3,4,5,7],[64,320],[⟨1002000,9,.str,[.slot 3],e⟩],[]⟩),(4,⟨[1,3,4,5,8],[64,320],[⟨1004000,9,.str,[.slot 3],e⟩],[]⟩)]
 keepX:=[(0,.ret,⟨[2],[],[],[]⟩),(2,.ret,⟨[2],[],[],[]⟩),(2,.exit 2,⟨[1,3,4,5],[64,320],[⟨1502300,9,.str,[.slot 3],e⟩],[]⟩),(4,.ret,⟨[2],[],[],[]⟩),(4,.exit 4,⟨[1,3,4],[64],[⟨1504500,9,.str,[.slot 3],e⟩],[]⟩)]
theorem jna:aH Rq:=
 cOf aK aM joO Rq Tryz.func66 (ja KF (ja Gy (ja Rp i))) (ja (λh=>by kernel_rfl) (ja (λh=>by kernel_rfl) (ja (λh=>by kernel_rfl) i)))
def Rr:Con:=⟨116,[.v bk,.v bT],[bk,bT],⟨[.v iT],[]⟩,[iT],Pw.unc2 Pw.jig⟩
def jvb:FnD where
 N:=102
 np:=2
 cs:=[Bi,CO,Gz]
 ds:=[⟨1,[sB 128 0,sB 192 0,sI,.b (.cell [.d ax,.d az,.d ay,.d aC] e),.b (.cell [.d .str,.d iT,.d iT,.d iT,.d iT,.d iT,.d (.list iT),.d aa,.d iT,.d iT] e)],[iT,ax,az,ay,aC,.str,iT,iT,iT,iT,iT,(.list iT),aa,iT,iT],[⟨.ret,[sI],[iT]⟩,⟨.exit 1,[sB 128 0,sB 192 0,.b (.cell [.d ax,.d az,.d ay,.d aC] e),.b (.cell [.d .str,.d iT,.d iT,.d iT,.d iT,.d iT,.d (.list iT),.d aa,.d iT,.d iT] e)],[ax,az,ay,aC,.str,iT,iT,iT,iT,iT,(.list iT),aa,iT,iT]⟩],Pw.u8 Pw.unc7 (Pw.j6U)⟩]
 keep:=[(1,⟨[2,3,5],[128,192],[],[]⟩)]
 keepX:=[(1,.ret,⟨[4],[],[],[]⟩),(1,.exit 1,⟨[2,3],[128,192],[],[]⟩)]
theorem jtG:aH Rr:=
 cOf aK aM jvb Rr Tryz.func116 (ja Gy (ja Ke (ja Rp i))) (ja (λh=>by kernel_rfl) i)
def Rs:Con:=⟨117,[.v bk,.v bg],[bk,bg],⟨[.v iT],[]⟩,[iT],Pw.unc2 Pw.jla⟩
def jy8:FnD where
 N:=86
 np:=2
 cs:=[Bi,Gz]
theorem jvc:aH Rs:=
 cOf aK aM jy8 Rs Tryz.func117 (ja Gy (ja Rp i)) i
def Ru:Con:=⟨67,[.v bk],[bk],⟨[.v iT],[]⟩,[iT],λh=>Pw.jgQ h⟩
def joP:FnD where
 N:=95
 np:=1
 cs:=[CT,Rr,Rs]
 ds:=[⟨0,[sB 64 0,sO 1000000,sI,.b (.cell [.d ax,.d az,.d ay,.d aC] e),.b (.lst 9 .str e)],[iT,ax,az,ay,aC,(.list .str)],[⟨.ret,[sI],[iT]⟩,⟨.exit 0,[],[]⟩],Pw.unc6 (Pw.j4i)⟩,⟨2,[sB 64 0,sO 1002000,sI,sB 320 0,sO 1002001,sI,.b (.cell [.d ax,.d az,.d ay,.d aC] e),.b (.cell [.d .str,.d bM,.d an] e),.b (.lst 9 .str e),.b (.lst 9 .str e)],[iT,iT,ax,az,ay,aC,.str,bM,an,(.list .str),(.list .str)],[⟨.ret,[sI],[iT]⟩,⟨.exit 2,[sB 64 0,sO 1502300,sI,sB 320 0,.b (.cell [.d ax,.d az,.d ay,.d aC] e),.b (.cell [.d .str,.d bM,.d an] e),.b (.lst 9 .str e)],[iT,ax,az,ay,aC,.str,bM,an,(.list .str)]⟩],Pw.u8 Pw.unc3 (Pw.j4g)⟩,⟨4,[sB 64 0,sO 1004000,sI,sB 320 0,sI,.b (.cell [.d ax,.d az,.d ay,.d aC] e),.b (.cell [.d .str,.d bM,.d an] e),.b (.lst 9 .str e)],[iT,iT,ax,az,ay,aC,.str,bM,an,(.list .str)],[⟨.ret,[sI],[iT]⟩,⟨.exit 4,[sB 64 0,sO 1504500,sI,.b (.cell [.d ax,.d az,.d ay,.d aC] e),.b (.lst 9 .str e)],[iT,ax,az,ay,aC,(.list .str)]⟩],Pw.u8 Pw.unc2 (Pw.j4h)⟩]
 keep:=[(0,⟨[1,3,4],[64],[⟨1000000,9,.str,[.slot 3],e⟩],[]⟩),(2,⟨[1,3,4,5,7,8],[64,320],[⟨1002000,9,.str,[.slot 3],e⟩,⟨1002001,9,.str,[.slot 7],e⟩],[]⟩),(4,⟨[1,3,4,5,11],[64,320],[⟨1004000,9,.str,[.slot 3],e⟩],[]⟩)]
 keepX:=[(0,.ret,⟨[2],[],[],[]⟩),(2,.ret,⟨[2],[],[],[]⟩),(2,.exit 2,⟨[1,3,4,5],[64,320],[⟨1502300,9,.str,[.slot 3],e⟩],[]⟩),(4,.ret,⟨[2],[],[],[]⟩),(4,.exit 4,⟨[1,3,4],[64],[⟨1504500,9,.str,[.slot 3],e⟩],[]⟩)]
theorem jnb:aH Ru:=
 cOf aK aM joP Ru Tryz.func67 (ja KF (ja jtG (ja jvc i))) (ja (λh=>by kernel_rfl) (ja (λh=>by kernel_rfl) (ja (λh=>by kernel_rfl) i)))
def Kg:Con:=⟨36,[.v bk],[bk],⟨[.v iT],[]⟩,[iT],λh=>Pw.jeh h⟩
def jvd:FnD where
 N:=45
 np:=1
 cs:=[Rm,Ro,Rq,Ru]
theorem ZN:aH Kg:=
 cOf aK aM jvd Kg Tryz.func36 (ja jtC (ja jrL (ja jna (ja jnb i)))) i
def CP:Con:=⟨37,[.v iT,.v iT],[iT,iT],⟨[.v .bool],[]⟩,[.bool],Pw.unc2 Pw.j6V⟩
def jve:FnD where
 N:=26
 np:=2
theorem Kh:aH CP:=
 cOf aK aM jve CP Tryz.func37 i i
def PI:Con:=⟨68,[.v bk,.v iT,.v iT,.v iT],[bk,iT,iT,iT],⟨[.v iT],[]⟩,[iT],Pw.unc4 Pw.jlb⟩
def jvf:FnD where
 N:=28
 np:=4
 cs:=[Kg,CP]
theorem jtH:aH PI:=
 cOf aK aM jvf PI Tryz.func68 (ja ZN (ja Kh i)) i
def KJ:Con:=⟨242,[.v br,.v bT],[br,bT],⟨[.v iT],[]⟩,[iT],Pw.unc2 Pw.jei⟩
def jvg:FnD where
 N:=58
 np:=2
 cs:=[KI]
theorem _o:aH KJ:=
 cOf aK aM jvg KJ Tryz.func242 (ja _n i) i
def KK:Con:=⟨245,[.v iT],[iT],⟨[.v .bool],[]⟩,[.bool],λh=>Pw.jgh h⟩
def jvh:FnD where
 N:=5
 np:=1
 cs:=[yQ]
theorem _p:aH KK:=
 cOf aK aM jvh KK Tryz.func245 (ja CU i) i
end Go.Proofs.Pk
