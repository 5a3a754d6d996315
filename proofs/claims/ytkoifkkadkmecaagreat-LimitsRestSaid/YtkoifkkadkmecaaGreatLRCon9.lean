/- cB: each given function is its plain function, printed by a program. -/
import Derived.Test.YtkoifkkadkmecaaGreatLRCon8
open Bool renaming false->e,true->j
open _root_ renaming trivial->i,Option->k
noncomputable section
open Go Go.Lft
set_option linter.unusedVariables false
set_option maxRecDepth 100000
namespace Go.Proofs.Pk
def KL:Con:=⟨258,[.v br,.v aO],[br,aO],⟨[.v iT,.v iT],[]⟩,[iT,iT],Pw.unc2 Pw.j6a⟩
def jvi:FnD where
 N:=76
 np:=2
 cs:=[yQ,yR,KK]
 ds:=[⟨0,[sB 128 0,sB 192 0,sO 1000000,sI,.b (.cell [.d .str,.d iT,.d bS] e),.b (.cell [.d iT,.d iT] e),.b (.lst 112 aO e)],[iT,.str,iT,bS,iT,iT,aa],[⟨.ret,[sI,sI],[iT,iT]⟩,⟨.exit 0,[],[]⟩],Pw.unc7 (Pw.j5e)⟩]
 keep:=[(0,⟨[2,3,6,8],[128,192],[⟨1000000,112,aO,[.slot 6],e⟩],[]⟩)]
 keepX:=[(0,.ret,⟨[4,5],[],[],[]⟩)]
theorem _q:aH KL:=
 cOf aK aM jvi KL Tryz.func258 (ja CU (ja CV (ja _p i))) (ja (λh=>by kernel_rfl) i)
def Rv:Con:=⟨276,[.v br,.v aa,.v iT],[br,aa,iT],⟨[.v iT],[]⟩,[iT],Pw.unc3 Pw.jjb⟩
def jtI:FnD where
 N:=32
 np:=3
 ds:=[⟨0,[sD aa,sI,sI,sI],[aa,iT,iT,iT],[⟨.exit 0,[sI],[iT]⟩],Pw.unc4 (Pw.j6b)⟩]
 keep:=[(0,⟨[1,2,7,8],[],[],[]⟩)]
 keepX:=[(0,.exit 0,⟨[7],[],[],[]⟩)]
theorem jrM:aH Rv:=
 cOf aK aM jtI Rv Tryz.func276 i (ja (λh=>by kernel_rfl) i)
def Rw:Con:=⟨269,[.v br,.v iT],[br,iT],⟨[.v iT,.v iT],[]⟩,[iT,iT],Pw.unc2 Pw.jcF⟩
def jpJ:FnD where
 N:=22
 np:=2
 cs:=[yQ,yR,Rv]
theorem joQ:aH Rw:=
 cOf aK aM jpJ Rw Tryz.func269 (ja CU (ja CV (ja jrM i))) i
def Rx:Con:=⟨270,[.v iT,.v iT],[iT,iT],⟨[.v aO],[]⟩,[aO],Pw.unc2 Pw.jlc⟩
def jvj:FnD where
 N:=16
 np:=2
theorem jtJ:aH Rx:=
 cOf aK aM jvj Rx Tryz.func270 i i
def Gr:Con:=⟨259,[.v br,.v iT],[br,iT],⟨[.v aO,.v iT],[]⟩,[aO,iT],Pw.unc2 Pw.j4D⟩
def jrN:FnD where
 N:=21
 np:=2
 cs:=[Rw,Rx]
theorem Py:aH Gr:=
 cOf aK aM jrN Gr Tryz.func259 (ja joQ (ja jtJ i)) i
def KM:Con:=⟨244,[.v br,.v bT,.v iT],[br,bT,iT],⟨[.v iT,.v .bool],[]⟩,[iT,.bool],Pw.unc3 Pw.j8C⟩
def jpK:FnD where
 N:=66
 np:=3
 cs:=[KL]
theorem _r:aH KM:=
 cOf aK aM jpK KM Tryz.func244 (ja _q i) i
def KN:Con:=⟨243,[.v br,.v bT,.v iT],[br,bT,iT],⟨[.v iT],[]⟩,[iT],Pw.unc3 Pw.jek⟩
def jvk:FnD where
 N:=81
 np:=3
 cs:=[KL,Gr,KM]
 ds:=[⟨0,[sI,sB 192 0,sB 256 0,sI,.b (.cell [.d .str,.d iT,.d bS] e),.b (.cell [.d .str,.d iT,.d iT,.d iT,.d iT,.d iT,.d (.list iT),.d aa,.d iT,.d iT] e)],[iT,iT,.str,iT,bS,.str,iT,iT,iT,iT,iT,(.list iT),aa,iT,iT],[⟨.exit 0,[sI],[iT]⟩],Pw.u8 Pw.unc7 (Pw.j6W)⟩]
 keep:=[(0,⟨[2,3,4,7],[192,256],[],[]⟩)]
 keepX:=[(0,.exit 0,⟨[7],[],[],[]⟩)]
theorem _s:aH KN:=
 cOf aK aM jvk KN Tryz.func243 (ja _q (ja Py (ja _r i))) (ja (λh=>by kernel_rfl) i)
def Ry:Con:=⟨211,[.v br,.v bT,.v iT,.v iT],[br,bT,iT,iT],⟨[.own 3 (.list iT),.v iT],[]⟩,[(.list iT),iT],Pw.unc4 Pw.jaX⟩
def joR:FnD where
 N:=51
 np:=4
 cs:=[CP,KJ,KM,KN]
 ds:=[⟨0,[sI,sI,sB 256 0,sB 320 0,sO 1000000,sI,.b (.cell [.d .str,.d iT,.d bS] e),.b (.cell [.d .str,.d iT,.d iT,.d iT,.d iT,.d iT,.d (.list iT),.d aa,.d iT,.d iT] e),.b (.lst 3 iT e)],[iT,iT,iT,.str,iT,bS,.str,iT,iT,iT,iT,iT,(.list iT),aa,iT,iT,(.list iT)],[⟨.ret,[sO 1500000,sI,.b (.lst 3 iT e)],[iT,(.list iT)]⟩],Pw.u8 Pw.unc9 (Pw.j6c)⟩]
 keep:=[(0,⟨[2,3,4,5,10,11],[256,320],[⟨1000000,3,iT,[.slot 10],e⟩],[]⟩)]
 keepX:=[(0,.ret,⟨[8,9],[],[⟨1500000,3,iT,[.slot 8],e⟩],[]⟩)]
 ro:=[j,e]
theorem jnc:aH Ry:=
 cOf aK aM joR Ry Tryz.func211 (ja Kh (ja _o (ja _r (ja _s i)))) (ja (λh=>by kernel_rfl) i)
def KO:Con:=⟨74,[.v aO],[aO],⟨[.v iT],[]⟩,[iT],λh=>Pw.j8Y h⟩
def jtK:FnD where
 N:=10
 np:=1
 cs:=[KH]
theorem _t:aH KO:=
 cOf aK aM jtK KO Tryz.func74 (ja _m i) i
def Rz:Con:=⟨44,[.v aa,.v iT,.v iT,.v iT],[aa,iT,iT,iT],⟨[.own 58 aa],[]⟩,[aa],Pw.unc4 Pw.jcG⟩
def jvl:FnD where
 N:=72
 np:=4
 cs:=[KO]
 ds:=[⟨0,[sD aa,sI,sI,sO 1000000,sI,.b (.lst 58 aO e)],[aa,iT,iT,iT,aa],[⟨.exit 0,[sO 1500100,.b (.lst 58 aO e)],[aa]⟩],Pw.unc5 (Pw.j6Y)⟩,⟨2,[sD aa,sI,sI,sO 1002000,sI,sI,.b (.lst 58 aO e)],[aa,iT,iT,iT,iT,aa],[⟨.exit 2,[sD aa,sI,sI,sO 1502300,sI,.b (.lst 58 aO e)],[aa,iT,iT,iT,aa]⟩],Pw.unc6 (Pw.j6X)⟩]
 keep:=[(0,⟨[0,1,2,9,10],[],[⟨1000000,58,aO,[.slot 9],e⟩],[]⟩),(2,⟨[0,1,2,9,10,11],[],[⟨1002000,58,aO,[.slot 9],e⟩],[]⟩)]
 keepX:=[(0,.exit 0,⟨[9],[],[⟨1500100,58,aO,[.slot 9],e⟩],[]⟩),(2,.exit 2,⟨[0,1,2,9,10],[],[⟨1502300,58,aO,[.slot 9],e⟩],[]⟩)]
 ro:=[j]
 dw:=[(8,[[],[],[],[],[],[],[],[],[],[],[],[],[],[],[],[],[],[],[],[768],[768]])]
theorem jtL:aH Rz:=
 cOf aK aM jvl Rz Tryz.func44 (ja _t i) (ja (λh=>by kernel_rfl) (ja (λh=>by kernel_rfl) i))
def RA:Con:=⟨43,[.mv 58 aa,.v aa],[aa,aa],⟨[.own 58 aa],[]⟩,[aa],Pw.unc2 Pw.jfg⟩
def jy9:FnD where
 N:=49
 np:=2
 ds:=[⟨0,[sO 1000000,sD aa,sI,.b (.lst 58 aO e)],[aa,iT,aa],[⟨.exit 0,[sO 1500100,.b (.lst 58 aO e)],[aa]⟩],Pw.unc3 (Pw.j7M)⟩]
 keep:=[(0,⟨[0,1,5],[],[⟨1000000,58,aO,[.slot 0],e⟩],[]⟩)]
 keepX:=[(0,.exit 0,⟨[0],[],[⟨1500100,58,aO,[.slot 0],e⟩],[]⟩)]
 ro:=[j]
theorem jvm:aH RA:=
 cOf aK aM jy9 RA Tryz.func43 i (ja (λh=>by kernel_rfl) i)
def Kl:Con:=⟨13,[.v br,.v aa,.v iT,.v iT],[br,aa,iT,iT],⟨[.own 58 aa,.v iT],[]⟩,[aa,iT],Pw.unc4 Pw.jaY⟩
def jvn:FnD where
 N:=84
 np:=4
 cs:=[yR,CO,CP,Rz,RA]
 ds:=[⟨0,[sD aa,sI,sI,sB 256 0,sO 1000000,sO 1000001,sI,.b (.cell [.d .str,.d iT,.d bS] e),.b (.lst 112 aO e),.b (.lst 58 aO e)],[aa,iT,iT,iT,.str,iT,bS,aa,aa],[⟨.exit 0,[sO 1500100,.b (.lst 58 aO e)],[aa]⟩],Pw.unc9 (Pw.j6Z)⟩]
 modes:=[(43,[j,e])]
 keep:=[(0,⟨[1,2,3,4,10,12,13],[256],[⟨1000000,112,aO,[.slot 10],e⟩,⟨1000001,58,aO,[.slot 12],e⟩],[]⟩)]
 keepX:=[(0,.exit 0,⟨[12],[],[⟨1500100,58,aO,[.slot 12],e⟩],[]⟩)]
 ro:=[j,e]
 mvf:=[43]
theorem ZT:aH Kl:=
 cOf aK aM jvn Kl Tryz.func13 (ja CV (ja Ke (ja Kh (ja jtL (ja jvm i))))) (ja (λh=>by kernel_rfl) i)
def RB:Con:=⟨212,[.v br,.v aO],[br,aO],⟨[.own 3 (.list iT),.v iT],[]⟩,[(.list iT),iT],Pw.unc2 Pw.j8Z⟩
def joS:FnD where
 N:=81
 np:=2
 cs:=[yQ,yR,KK]
 ds:=[⟨0,[sB 128 0,sB 192 0,sO 1000000,sO 1000001,sI,.b (.cell [.d .str,.d iT,.d bS] e),.b (.cell [.d iT,.d iT] e),.b (.lst 112 aO e),.b (.lst 3 iT e)],[iT,.str,iT,bS,iT,iT,aa,(.list iT)],[⟨.exit 0,[sO 1500100,.b (.lst 3 iT e)],[(.list iT)]⟩],Pw.unc8 (Pw.j4j)⟩]
 keep:=[(0,⟨[2,3,6,8,9],[128,192],[⟨1000000,112,aO,[.slot 6],e⟩,⟨1000001,3,iT,[.slot 8],e⟩],[]⟩)]
 keepX:=[(0,.exit 0,⟨[8],[],[⟨1500100,3,iT,[.slot 8],e⟩],[]⟩)]
 ro:=[j,e]
theorem jnd:aH RB:=
 cOf aK aM joS RB Tryz.func212 (ja CU (ja CV (ja _p i))) (ja (λh=>by kernel_rfl) i)
def RC:Con:=⟨163,[.v bk,.v bT,.v iT,.v iT],[bk,bT,iT,iT],⟨[.own 3 (.list iT)],[]⟩,[(.list iT)],Pw.unc4 Pw.jld⟩
def jya:FnD where
 N:=138
 np:=4
 cs:=[yR,Ry,Kl,RB]
 ds:=[⟨0,[sB 256 0,sB 320 0,sO 1000000,sO 1000001,sI,.b (.cell [.d ax,.d az,.d ay,.d aC] e),.b (.cell [.d .str,.d iT,.d iT,.d iT,.d iT,.d iT,.d (.list iT),.d aa,.d iT,.d iT] e),.b (.lst 3 iT e),.b (.lst 58 aO e)],[iT,ax,az,ay,aC,.str,iT,iT,iT,iT,iT,(.list iT),aa,iT,iT,(.list iT),aa],[⟨.exit 0,[sB 256 0,sB 320 0,sO 1500100,.b (.cell [.d ax,.d az,.d ay,.d aC] e),.b (.cell [.d .str,.d iT,.d iT,.d iT,.d iT,.d iT,.d (.list iT),.d aa,.d iT,.d iT] e),.b (.lst 3 iT e)],[ax,az,ay,aC,.str,iT,iT,iT,iT,iT,(.list iT),aa,iT,iT,(.list iT)]⟩],Pw.u8 Pw.unc9 (Pw.j7N)⟩,⟨2,[sB 256 0,sO 1002000,sB 960 0,sO 1002001,sI,.b (.cell [.d ax,.d az,.d ay,.d aC] e),.b (.cell [.d .str,.d iT,.d (.list iT)] e),.b (.lst 3 iT e),.b (.lst 112 aO e)],[iT,ax,az,ay,aC,.str,iT,(.list iT),(.list iT),aa],[⟨.exit 2,[sB 256 0,sO 1502300,sB 960 0,.b (.cell [.d ax,.d az,.d ay,.d aC] e),.b (.cell [.d .str,.d iT,.d (.list iT)] e),.b (.lst 3 iT e)],[ax,az,ay,aC,.str,iT,(.list iT),(.list iT)]⟩],Pw.u8 Pw.unc2 (Pw.j7O)⟩,⟨4,[sB 256 0,sO 1004000,sB 960 0,sI,.b (.cell [.d ax,.d az,.d ay,.d aC] e),.b (.cell [.d .str,.d iT,.d (.list iT)] e),.b (.lst 3 iT e)],[iT,ax,az,ay,aC,.str,iT,(.list iT),(.list iT)],[⟨.exit 4,[sO 1504500,.b (.lst 3 iT e)],[(.list iT)]⟩],Pw.unc9 (Pw.j7P)⟩,⟨6,[sB 256 0,sO 1006000,sB 960 0,sI,sI,.b (.cell [.d ax,.d az,.d ay,.d aC] e),.b (.cell [.d .str,.d iT,.d (.list iT)] e),.b (.lst 3 iT e)],[iT,iT,ax,az,ay,aC,.str,iT,(.list iT),(.list iT)],[⟨.exit 6,[sB 256 0,sO 1506700,sB 960 0,sI,.b (.cell [.d ax,.d az,.d ay,.d aC] e),.b (.cell [.d .str,.d iT,.d (.list iT)] e),.b (.lst 3 iT e)],[iT,ax,az,ay,aC,.str,iT,(.list iT),(.list iT)]⟩],Pw.u8 Pw.unc2 (Pw.j5T)⟩]
 keep:=[(0,⟨[4,5,10,12,14],[256,320],[⟨1000000,3,iT,[.slot 10],e⟩,⟨1000001,58,aO,[.slot 12],e⟩],[]⟩),(2,⟨[4,10,15,16,18],[256,960],[⟨1002000,3,iT,[.slot 10],e⟩,⟨1002001,112,aO,[.slot 16],e⟩],[]⟩),(4,⟨[4,10,15,19],[256,960],[⟨1004000,3,iT,[.slot 10],e⟩],[]⟩),(6,⟨[4,10,15,19,20],[256,960],[⟨1006000,3,iT,[.slot 10],e⟩],[]⟩)]
 keepX:=[(0,.exit 0,⟨[4,5,10],[256,320],[⟨1500100,3,iT,[.slot 10],e⟩],[]⟩),(2,.exit 2,⟨[4,10,15],[256,960],[⟨1502300,3,iT,[.slot 10],e⟩],[]⟩),(4,.exit 4,⟨[10],[],[⟨1504500,3,iT,[.slot 10],e⟩],[]⟩),(6,.exit 6,⟨[4,10,15,19],[256,960],[⟨1506700,3,iT,[.slot 10],e⟩],[]⟩)]
 ro:=[j]
 dw:=[(9,[[],[],[],[],[],[],[],[],[],[],[],[4416],[4480,1000000],[]]),(24,[[],[],[],[],[],[],[],[],[],[],[],[],[],[],[8384],[],[],[],[],[]])]
theorem jvo:aH RC:=
 cOf aK aM jya RC Tryz.func163 (ja CV (ja jnc (ja ZT (ja jnd i)))) (ja (λh=>by kernel_rfl) (ja (λh=>by kernel_rfl) (ja (λh=>by kernel_rfl) (ja (λh=>by kernel_rfl) i))))
def PQ:Con:=⟨76,[.v (.list iT)],[(.list iT)],⟨[.own 3 (.list iT)],[]⟩,[(.list iT)],λh=>Pw.jnp h⟩
def KP(g:HL [(.list iT)]->k (HL [(.list iT)])):Con:=⟨76,[.v (.list iT)],[(.list iT)],⟨[.own 3 (.list iT)],[]⟩,[(.list iT)],g⟩
def jyb(g:HL [(.list iT)]->k (HL [(.list iT)])):FnD where
 N:=88
 np:=1
 cs:=[KP g]
 ds:=[⟨0,[sO 1000000,sO 1000001,sO 1000002,sI,sI,.b (.lst 3 iT e),.b (.lst 3 iT e),.b (.lst 3 iT e)],[iT,iT,(.list iT),(.list iT),(.list iT)],[⟨.exit 0,[sO 1500100,.b (.lst 3 iT e)],[(.list iT)]⟩],Pw.unc5 (Pw.j7Q (λv0=>g v0))⟩]
 keep:=[(0,⟨[3,4,5,6,7],[],[⟨1000000,3,iT,[.slot 3],e⟩,⟨1000001,3,iT,[.slot 4],e⟩,⟨1000002,3,iT,[.slot 5],e⟩],[]⟩)]
 keepX:=[(0,.exit 0,⟨[3],[],[⟨1500100,3,iT,[.slot 3],e⟩],[]⟩)]
 ro:=[j]
 dw:=[(4,[[],[],[],[],[],[1280],[],[],[],[],[],[1664],[],[]])]
theorem jrO(g:HL [(.list iT)]->k (HL [(.list iT)]))(hg:aH (KP g)):aH (KP (Pw.j6d g)):=
 cOf aK aM (jyb g) (KP (Pw.j6d g)) Tryz.func76 (ja hg i) (ja (λh=>by kernel_rfl) i)
theorem ZO:aH PQ:=NZ (f:=76) (ps:=[.v (.list iT)]) (ts:=[(.list iT)]) (rp:=⟨[.own 3 (.list iT)],[]⟩) (rs:=[(.list iT)]) (B:=Pw.j6d) jrO
def RD:Con:=⟨164,[.v (.list iT),.v iT,.v iT],[(.list iT),iT,iT],⟨[.own 3 (.list iT)],[]⟩,[(.list iT)],Pw.unc3 Pw.jgV⟩
def jrP:FnD where
 N:=49
 np:=3
 cs:=[PQ]
 ds:=[⟨0,[sI,sI,sO 1000000,sO 1000001,sI,.b (.lst 3 iT e),.b (.lst 3 iT e)],[iT,iT,iT,(.list iT),(.list iT)],[⟨.exit 0,[sI,sI,sO 1500100,.b (.lst 3 iT e)],[iT,iT,(.list iT)]⟩],Pw.unc5 (Pw.j5y)⟩]
 keep:=[(0,⟨[1,2,7,8,9],[],[⟨1000000,3,iT,[.slot 7],e⟩,⟨1000001,3,iT,[.slot 8],e⟩],[]⟩)]
 keepX:=[(0,.exit 0,⟨[1,2,7],[],[⟨1500100,3,iT,[.slot 7],e⟩],[]⟩)]
 ro:=[j]
theorem jpL:aH RD:=
 cOf aK aM jrP RD Tryz.func164 (ja ZO i) (ja (λh=>by kernel_rfl) i)
def PG:Con:=⟨118,[.v bk,.v iT,.v iT,.v iT],[bk,iT,iT,iT],⟨[.own 3 (.list iT)],[]⟩,[(.list iT)],Pw.unc4 Pw.jnq⟩
def jyc:FnD where
 N:=62
 np:=4
 cs:=[RC,RD]
 ds:=[⟨0,[sI,sI,sB 256 0,sB 576 0,sO 1000000,sI,.b (.cell [.d ax,.d az,.d ay,.d aC] e),.b (.cell [.d .str,.d bM,.d an] e),.b (.lst 3 iT e)],[iT,iT,iT,ax,az,ay,aC,.str,bM,an,(.list iT)],[⟨.exit 0,[sI,sI,sB 576 0,sO 1500100,.b (.cell [.d .str,.d bM,.d an] e),.b (.lst 3 iT e)],[iT,iT,.str,bM,an,(.list iT)]⟩],Pw.u8 Pw.unc3 (Pw.j7R)⟩,⟨2,[sI,sI,sB 576 0,sO 1002000,sI,.b (.cell [.d .str,.d bM,.d an] e),.b (.lst 3 iT e)],[iT,iT,iT,.str,bM,an,(.list iT)],[⟨.exit 2,[sI,sI,sO 1502300,.b (.lst 3 iT e)],[iT,iT,(.list iT)]⟩],Pw.unc7 (Pw.j7S)⟩]
 keep:=[(0,⟨[2,3,4,9,10,11],[256,576],[⟨1000000,3,iT,[.slot 10],e⟩],[]⟩),(2,⟨[2,3,9,10,12],[576],[⟨1002000,3,iT,[.slot 10],e⟩],[]⟩)]
 keepX:=[(0,.exit 0,⟨[2,3,9,10],[576],[⟨1500100,3,iT,[.slot 10],e⟩],[]⟩),(2,.exit 2,⟨[2,3,10],[],[⟨1502300,3,iT,[.slot 10],e⟩],[]⟩)]
 ro:=[j]
 dw:=[(6,[[],[],[],[],[],[],[],[],[],[2176],[2240,1000000],[]]),(10,[[],[],[],[],[],[],[],[],[],[],[],[],[],[3584],[3648,1002000],[]])]
theorem jvp:aH PG:=
 cOf aK aM jyc PG Tryz.func118 (ja jvo (ja jpL i)) (ja (λh=>by kernel_rfl) (ja (λh=>by kernel_rfl) i))
def Px:Con:=⟨260,[.v br,.v bT,.v iT],[br,bT,iT],⟨[.v iT,.v iT],[]⟩,[iT,iT],Pw.unc3 Pw.jil⟩
def jvq:FnD where
 N:=22
 np:=3
 cs:=[KJ,KN]
theorem jtM:aH Px:=
 cOf aK aM jvq Px Tryz.func260 (ja _o (ja _s i)) i
def Pt:Con:=⟨271,[.v br,.v iT],[br,iT],⟨[.v iT,.v iT],[]⟩,[iT,iT],Pw.unc2 Pw.jdW⟩
def jtN:FnD where
 N:=19
 np:=2
 cs:=[Gr,KO]
theorem jrQ:aH Pt:=
 cOf aK aM jtN Pt Tryz.func271 (ja Py (ja _t i)) i
def Pu:Con:=⟨272,[.v aa,.v iT],[aa,iT],⟨[.v .bool],[]⟩,[.bool],Pw.unc2 Pw.jjc⟩
def jtO:FnD where
 N:=28
 np:=2
 ds:=[⟨0,[sD aa,sI,sI],[aa,iT,iT],[⟨.ret,[sD .bool],[.bool]⟩,⟨.exit 0,[],[]⟩],Pw.unc3 (Pw.j6e)⟩]
 keep:=[(0,⟨[0,1,5],[],[],[]⟩)]
 keepX:=[(0,.ret,⟨[4],[],[],[]⟩)]
theorem jrR:aH Pu:=
 cOf aK aM jtO Pu Tryz.func272 i (ja (λh=>by kernel_rfl) i)
end Go.Proofs.Pk
