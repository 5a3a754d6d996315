/- Contracts. -/
import Derived.Test.YtmccfdihkphfaaaGreatCECon5
open Bool renaming false->e,true->j
open _root_ renaming trivial->i
noncomputable section
open Go Go.Lft
set_option linter.unusedVariables false
set_option maxRecDepth 100000
namespace Go.Proofs.Pk
def GC:Con:=⟨60,[.v eE,.v cD,.v iT,.v iT],[eE,cD,iT,iT],⟨[.own 123 aF],[]⟩,[aF],Pw.unc4 Pw.j2M⟩
def jnH:FnD where
 N:=88
 np:=4
 cs:=[Sj,GB,SO,SS,SX]
 ds:=[⟨0,[sI,sI,sB 256 0,sB 320 0,sO 1000000,sD ak,sI,sI,.b (.cell [.d al,.d au,.d ar,.d ay,.d cX] e),.b (.cell [.d .str,.d bh,.d ak] e),.b (.lst 3 iT e)],[iT,iT,ak,iT,iT,al,au,ar,ay,cX,.str,bh,ak,(.list iT)],[⟨.exit 0,[sI,sI,sB 256 0,sB 320 0,sO 1500100,.b (.cell [.d al,.d au,.d ar,.d ay,.d cX] e),.b (.cell [.d .str,.d bh,.d ak] e),.b (.lst 3 iT e)],[iT,iT,al,au,ar,ay,cX,.str,bh,ak,(.list iT)]⟩],Pw.u8 Pw.unc6 (Pw.j3u)⟩,⟨2,[sB 320 0,sO 1002000,sO 1002001,sO 1002002,sI,sI,.b (.cell [.d .str,.d bh,.d ak] e),.b (.lst 3 iT e),.b (.lst 123 aT e),.b (.lst 123 aT e)],[iT,iT,.str,bh,ak,(.list iT),aF,aF],[⟨.exit 2,[sO 1502300,.b (.lst 123 aT e)],[aF]⟩],Pw.unc8 (Pw.j3w)⟩,⟨4,[sB 320 0,sO 1004000,sO 1004001,sB 960 0,sI,sI,sO 1004002,sI,sI,.b (.cell [.d .str,.d bh,.d ak] e),.b (.cell [.d iT,.d iT,.d iT] e),.b (.lst 3 iT e),.b (.lst 123 aT e),.b (.lst 123 aT e)],[iT,iT,iT,iT,.str,bh,ak,iT,iT,iT,(.list iT),aF,aF],[⟨.exit 4,[sB 320 0,sO 1504500,sO 1504501,sO 1504502,sI,sI,.b (.cell [.d .str,.d bh,.d ak] e),.b (.lst 3 iT e),.b (.lst 123 aT e),.b (.lst 123 aT e)],[iT,iT,.str,bh,ak,(.list iT),aF,aF]⟩],Pw.u8 Pw.unc5 (Pw.j3v)⟩]
 keep:=[(0,⟨[2,3,4,5,9,21,22,23],[256,320],[⟨1000000,3,iT,[.slot 9],e⟩],[]⟩),(2,⟨[5,12,13,43,44,45],[320],[⟨1002000,3,iT,[.slot 12],e⟩,⟨1002001,123,aT,[.slot 13],e⟩,⟨1002002,123,aT,[.slot 43],e⟩],[]⟩),(4,⟨[5,12,13,15,16,18,43,44,45],[320,960],[⟨1004000,3,iT,[.slot 12],e⟩,⟨1004001,123,aT,[.slot 13],e⟩,⟨1004002,123,aT,[.slot 43],e⟩],[]⟩)]
 keepX:=[(0,.exit 0,⟨[2,3,4,5,9],[256,320],[⟨1500100,3,iT,[.slot 9],e⟩],[]⟩),(2,.exit 2,⟨[13],[],[⟨1502300,123,aT,[.slot 13],e⟩],[]⟩),(4,.exit 4,⟨[5,12,13,43,44,45],[320],[⟨1504500,3,iT,[.slot 12],e⟩,⟨1504501,123,aT,[.slot 13],e⟩,⟨1504502,123,aT,[.slot 43],e⟩],[]⟩)]
 ro:=[j]
theorem SY:aJ GC:=
 cOf aM aN jnH GC Tryz.func60 (ja jvp (ja SF (ja jlv (ja jdd (ja jvt i))))) (ja (λh=>by kernel_rfl) (ja (λh=>by kernel_rfl) (ja (λh=>by kernel_rfl) i)))
def SZ:Con:=⟨84,[.v eE,.v cD,.v iT,.v iT],[eE,cD,iT,iT],⟨[.v iT,.v .bool],[]⟩,[iT,.bool],Pw.unc4 Pw.jj8⟩
def jrh:FnD where
 N:=37
 np:=4
 cs:=[GC]
 ds:=[⟨0,[sI,sI,sB 256 0,sB 320 0,.b (.cell [.d al,.d au,.d ar,.d ay,.d cX] e),.b (.cell [.d .str,.d bh,.d ak] e)],[iT,iT,al,au,ar,ay,cX,.str,bh,ak],[⟨.ret,[sI,sD .bool],[iT,.bool]⟩,⟨.exit 0,[],[]⟩],Pw.u8 Pw.unc2 (Pw.j3J)⟩,⟨2,[sI,sB 256 0,sB 320 0,sI,sO 1002000,sI,sI,.b (.cell [.d al,.d au,.d ar,.d ay,.d cX] e),.b (.cell [.d .str,.d bh,.d ak] e),.b (.lst 123 aT e)],[iT,iT,iT,iT,al,au,ar,ay,cX,.str,bh,ak,aF],[⟨.ret,[sI,sD .bool],[iT,.bool]⟩,⟨.exit 2,[sI,sB 256 0,sB 320 0,sI,.b (.cell [.d al,.d au,.d ar,.d ay,.d cX] e),.b (.cell [.d .str,.d bh,.d ak] e)],[iT,iT,al,au,ar,ay,cX,.str,bh,ak]⟩],Pw.u8 Pw.unc5 (Pw.j5c)⟩]
 keep:=[(0,⟨[2,3,4,5],[256,320],[],[]⟩),(2,⟨[3,4,5,10,24,25,26],[256,320],[⟨1002000,123,aT,[.slot 24],e⟩],[]⟩)]
 keepX:=[(0,.ret,⟨[8,9],[],[],[]⟩),(2,.ret,⟨[8,9],[],[],[]⟩),(2,.exit 2,⟨[3,4,5,10],[256,320],[],[]⟩)]
theorem jqi:aJ SZ:=
 cOf aM aN jrh SZ Tryz.func84 (ja SY i) (ja (λh=>by kernel_rfl) (ja (λh=>by kernel_rfl) i))
def Ks:Con:=⟨36,[.v aG,.v iT,.v iT],[aG,iT,iT],⟨[.v iT,.v .bool,.v iT],[]⟩,[iT,.bool,iT],Pw.unc3 Pw.j4W⟩
def jmK:FnD where
 N:=49
 np:=3
 cs:=[Ky,KF,SZ]
theorem X_:aJ Ks:=
 cOf aM aN jmK Ks Tryz.func36 (ja Δ (ja Κ (ja jqi i))) i
def S7:Con:=⟨18,[.v aG,.v iT,.v iT,.v iT],[aG,iT,iT,iT],⟨[.own 123 aF,.v iT],[]⟩,[aF,iT],Pw.unc4 Pw.j8F⟩
def jnI:FnD where
 N:=37
 np:=4
 cs:=[Ky,GC]
 ro:=[j,e]
 dw:=[(4,[[],[],[],[],[],[],[],[],[2048],[]])]
theorem jmL:aJ S7:=
 cOf aM aN jnI S7 Tryz.func18 (ja Δ (ja SY i)) i
def S8:Con:=⟨68,[.v aF,.v iT],[aF,iT],⟨[.own 59 af],[]⟩,[af],Pw.unc2 Pw.jcs⟩
def joA:FnD where
 N:=29
 np:=2
 cs:=[Bb]
 ds:=[⟨0,[sI,sO 1000000,sD aF,sI,sI,.b (.lst 59 aR e)],[iT,aF,iT,iT,af],[⟨.exit 0,[sO 1500100,.b (.lst 59 aR e)],[af]⟩],Pw.unc5 (Pw.j3Y)⟩]
 keep:=[(0,⟨[1,5,8,9,10],[],[⟨1000000,59,aR,[.slot 5],e⟩],[]⟩)]
 keepX:=[(0,.exit 0,⟨[5],[],[⟨1500100,59,aR,[.slot 5],e⟩],[]⟩)]
 ro:=[j]
theorem jnJ:aJ S8:=
 cOf aM aN joA S8 Tryz.func68 (ja Gz i) (ja (λh=>by kernel_rfl) i)
def S9:Con:=⟨22,[.v aG,.v iT,.v iT,.v iT,.v iT],[aG,iT,iT,iT,iT],⟨[.own 59 af,.v iT],[]⟩,[af,iT],Pw.unc5 Pw.jcU⟩
def jri:FnD where
 N:=33
 np:=5
 cs:=[S7,S8]
 ro:=[j,e]
theorem jqj:aJ S9:=
 cOf aM aN jri S9 Tryz.func22 (ja jmL (ja jnJ i)) i
def Gv:Con:=⟨30,[.v aG,.v iT,.v iT,.v iT],[aG,iT,iT,iT],⟨[.own 59 af,.v iT],[]⟩,[af,iT],Pw.unc4 Pw.j7r⟩
def jqk:FnD where
 N:=17
 np:=4
 cs:=[S9]
 ro:=[j,e]
theorem RH:aJ Gv:=
 cOf aM aN jqk Gv Tryz.func30 (ja jqj i) i
def Kt:Con:=⟨32,[.v aG,.v iT,.v iT,.v iT],[aG,iT,iT,iT],⟨[.v .bool],[]⟩,[.bool],Pw.unc4 Pw.j7M⟩
def jmM:FnD where
 N:=26
 np:=4
 cs:=[Gv]
theorem Y_:aJ Kt:=
 cOf aM aN jmM Kt Tryz.func32 (ja RH i) i
def Ku:Con:=⟨34,[.v aG,.v iT],[aG,iT],⟨[.v iT],[]⟩,[iT],Pw.unc2 Pw.j3M⟩
def jmN:FnD where
 N:=27
 np:=2
 cs:=[Gx,Kw,KF]
theorem Z_:aJ Ku:=
 cOf aM aN jmN Ku Tryz.func34 (ja R7 (ja Β (ja Κ i))) i
def RD:Con:=⟨27,[],[],⟨[.v .bool],[]⟩,[.bool],λh=>Pw.jk6⟩
def jvu:FnD where
 N:=72
 np:=0
 cs:=[Qx,Ks,Gv,Kt,Ku]
theorem jty:aJ RD:=
 cOf aM aN jvu RD Tryz.func27 (ja jt3 (ja X_ (ja RH (ja Y_ (ja Z_ i))))) i
def RE:Con:=⟨8,[.v (.list iT)],[(.list iT)],⟨[.box [(.list iT),iT]],[]⟩,[(.list iT),iT],λh=>Pw.jpU h⟩
def jxb:FnD where
 N:=6
 np:=1
theorem jvv:aJ RE:=
 cOf aM aN jxb RE Tryz.func8 i i
def pq:Con:=⟨12,[.ref [(.list iT),iT],.v iT],[(.list iT),iT,iT],⟨[.v iT],[.ref [(.list iT),iT]]⟩,[iT,(.list iT),iT],Pw.unc3 Pw.j04⟩
def joB:FnD where
 N:=45
 np:=2
theorem rj:aJ pq:=
 cOf aM aN joB pq Tryz.func12 i i
def tV:Con:=⟨58,[.ref [(.list iT),iT],.v (.list iT)],[(.list iT),iT,(.list iT)],⟨[.v iT],[.ref [(.list iT),iT]]⟩,[iT,(.list iT),iT],Pw.unc3 Pw.j0b⟩
def joC:FnD where
 N:=12
 np:=2
 cs:=[pq]
theorem wP:aJ tV:=
 cOf aM aN joC tV Tryz.func58 (ja rj i) i
def Ta:Con:=⟨114,[.ref [(.list iT),iT],.v .str],[(.list iT),iT,.str],⟨[.v bj],[.ref [(.list iT),iT]]⟩,[bj,(.list iT),iT],Pw.unc3 Pw.jct⟩
def joD:FnD where
 N:=98
 np:=2
 cs:=[pq,tV]
 dw:=[(7,[[],[],[0],[],[],[0],[],[0],[],[],[],[],[0],[],[],[],[],[],[],[0],[],[],[3968],[0,3968],[],[0],[],[0],[],[],[],[],[4608],[],[320]]),(9,[[],[],[],[5056],[0,5056],[],[]])]
theorem jnK:aJ Ta:=
 cOf aM aN joD Ta Tryz.func114 (ja rj (ja wP i)) i
def KI:Con:=⟨55,[],[],⟨[.own 9 (.list .str)],[]⟩,[(.list .str)],λh=>Pw.jha⟩
def jvw:FnD where
 N:=2
 np:=0
 ro:=[j]
theorem Υ:aJ KI:=
 cOf aM aN jvw KI Tryz.func55 i i
def Dq:Con:=⟨44,[.ref [(.list iT),iT],.v iT],[(.list iT),iT,iT],⟨[.v .bool],[.ref [(.list iT),iT]]⟩,[.bool,(.list iT),iT],Pw.unc3 Pw.j1q⟩
def joE:FnD where
 N:=11
 np:=2
 cs:=[pq]
theorem KJ:aJ Dq:=
 cOf aM aN joE Dq Tryz.func44 (ja rj i) i
def KK:Con:=⟨115,[.ref [(.list iT),iT]],[(.list iT),iT],⟨[.own 108 af],[.ref [(.list iT),iT]]⟩,[af,(.list iT),iT],Pw.unc2 Pw.j5w⟩
def jlx:FnD where
 N:=38
 np:=1
 cs:=[pq,tV]
 ds:=[⟨0,[sB 0 0,sO 1000000,sI,sI,.b (.cell [.d (.list iT),.d iT] e),.b (.lst 108 aR e)],[iT,iT,(.list iT),iT,af],[⟨.exit 0,[sO 1500100,.b (.cell [.d (.list iT),.d iT] e),.b (.lst 108 aR e)],[(.list iT),iT,af]⟩],Pw.unc5 (Pw.j2N)⟩]
 keep:=[(0,⟨[0,3,4,5],[0],[⟨1000000,108,aR,[.slot 3],e⟩],[]⟩)]
 keepX:=[(0,.exit 0,⟨[3],[0],[⟨1500100,108,aR,[.slot 3],e⟩],[]⟩)]
 ro:=[j]
theorem Φ:aJ KK:=
 cOf aM aN jlx KK Tryz.func115 (ja rj (ja wP i)) (ja (λh=>by kernel_rfl) i)
def Tb:Con:=⟨53,[.ref [(.list iT),iT]],[(.list iT),iT],⟨[.vn aG [3]],[.ref [(.list iT),iT]]⟩,[aG,(.list iT),iT],Pw.unc2 Pw.jb6⟩
def jnL:FnD where
 N:=109
 np:=1
 cs:=[pq,tV,Ta,KI,Dq,KK]
 ds:=[⟨0,[sB 0 0,sB 128 0,sB 192 0,sI,.b (.cell [.d (.list iT),.d iT] e),.b (.cell [.nil,.nil,.nil,.nil] e),.b (.cell [.ol 1000000,.nil,.nil,.nil] e),.b (.lst 105 bj e)],[iT,(.list iT),iT,al],[⟨.exit 0,[sB 0 0,sB 128 0,sB 192 0,.b (.cell [.d (.list iT),.d iT] e),.b (.cell [.nil,.nil,.nil,.nil] e),.b (.cell [.ol 1500100,.nil,.nil,.nil] e),.b (.lst 105 bj e)],[(.list iT),iT,al]⟩],Pw.unc4 (Pw.j3x)⟩,⟨2,[sB 0 0,sB 128 0,sB 192 0,sI,.b (.cell [.d (.list iT),.d iT] e),.b (.cell [.nil,.nil,.nil,.nil] e),.b (.cell [.ol 1002000,.ol 1002001,.nil,.nil] e),.b (.lst 105 bj e),.b (.lst 107 fY e)],[iT,(.list iT),iT,al,au],[⟨.exit 2,[sB 0 0,sB 128 0,sB 192 0,.b (.cell [.d (.list iT),.d iT] e),.b (.cell [.nil,.nil,.nil,.nil] e),.b (.cell [.ol 1502300,.ol 1502301,.nil,.nil] e),.b (.lst 105 bj e),.b (.lst 107 fY e)],[(.list iT),iT,al,au]⟩],Pw.unc5 (Pw.j3y)⟩,⟨4,[sB 0 0,sB 128 0,sB 192 0,sI,.b (.cell [.d (.list iT),.d iT] e),.b (.cell [.nil,.nil,.nil,.nil] e),.b (.cell [.ol 1004000,.ol 1004001,.ol 1004002,.nil] e),.b (.lst 105 bj e),.b (.lst 107 fY e),.b (.lst 110 fm e)],[iT,(.list iT),iT,al,au,ar],[⟨.exit 4,[sB 128 0,sB 192 0,.b (.cell [.d (.list iT),.d iT] e),.b (.cell [.nil,.nil,.nil,.nil] e),.b (.cell [.ol 1504500,.ol 1504501,.ol 1504502,.nil] e),.b (.lst 105 bj e),.b (.lst 107 fY e),.b (.lst 110 fm e)],[(.list iT),iT,al,au,ar]⟩],Pw.unc6 (Pw.j3A)⟩,⟨6,[sB 0 0,sB 128 0,sB 192 0,sI,sB 512 0,sI,sI,.b (.cell [.d (.list iT),.d iT] e),.b (.cell [.nil,.nil,.nil,.nil] e),.b (.cell [.ol 1006000,.ol 1006001,.ol 1006002,.nil] e),.b (.cell [.d .str,.d iT,.ol 1006003] e),.b (.lst 105 bj e),.b (.lst 107 fY e),.b (.lst 110 fm e),.b (.lst 3 iT e)],[iT,iT,iT,(.list iT),iT,.str,iT,al,au,ar,(.list iT)],[⟨.exit 6,[sB 0 0,sB 128 0,sB 192 0,sI,sB 512 0,.b (.cell [.d (.list iT),.d iT] e),.b (.cell [.nil,.nil,.nil,.nil] e),.b (.cell [.ol 1506700,.ol 1506701,.ol 1506702,.nil] e),.b (.cell [.d .str,.d iT,.ol 1506703] e),.b (.lst 105 bj e),.b (.lst 107 fY e),.b (.lst 110 fm e),.b (.lst 3 iT e)],[iT,(.list iT),iT,.str,iT,al,au,ar,(.list iT)]⟩],Pw.u8 Pw.unc3 (Pw.j3z)⟩]
 keep:=[(0,⟨[0,2,3,4],[0,128,192],[⟨1000000,105,bj,[.cell 192 0],e⟩],[]⟩),(2,⟨[0,2,3,5],[0,128,192],[⟨1002000,105,bj,[.cell 192 0],e⟩,⟨1002001,107,fY,[.cell 192 1],e⟩],[]⟩),(4,⟨[0,2,3,7],[0,128,192],[⟨1004000,105,bj,[.cell 192 0],e⟩,⟨1004001,107,fY,[.cell 192 1],e⟩,⟨1004002,110,fm,[.cell 192 2],e⟩],[]⟩),(6,⟨[0,2,3,7,8,9,10],[0,128,192,512],[⟨1006000,105,bj,[.cell 192 0],e⟩,⟨1006001,107,fY,[.cell 192 1],e⟩,⟨1006002,110,fm,[.cell 192 2],e⟩,⟨1006003,3,iT,[.cell 512 2],e⟩],[]⟩)]
 keepX:=[(0,.exit 0,⟨[0,2,3],[0,128,192],[⟨1500100,105,bj,[.cell 192 0],e⟩],[]⟩),(2,.exit 2,⟨[0,2,3],[0,128,192],[⟨1502300,105,bj,[.cell 192 0],e⟩,⟨1502301,107,fY,[.cell 192 1],e⟩],[]⟩),(4,.exit 4,⟨[2,3],[0,128,192],[⟨1504500,105,bj,[.cell 192 0],e⟩,⟨1504501,107,fY,[.cell 192 1],e⟩,⟨1504502,110,fm,[.cell 192 2],e⟩],[]⟩),(6,.exit 6,⟨[0,2,3,7,8],[0,128,192,512],[⟨1506700,105,bj,[.cell 192 0],e⟩,⟨1506701,107,fY,[.cell 192 1],e⟩,⟨1506702,110,fm,[.cell 192 2],e⟩,⟨1506703,3,iT,[.cell 512 2],e⟩],[]⟩)]
 dw:=[(5,[[],[],[],[1344],[],[],[],[],[],[0],[1792],[1856,1000000],[],[192]]),(9,[[2432],[],[],[],[],[],[],[],[],[],[0],[],[0],[],[384],[384]])]
 ns:=[3]
theorem jmP:aJ Tb:=
 cOf aM aN jnL Tb Tryz.func53 (ja rj (ja wP (ja jnK (ja Υ (ja KJ (ja Φ i)))))) (ja (λh=>by kernel_rfl) (ja (λh=>by kernel_rfl) (ja (λh=>by kernel_rfl) (ja (λh=>by kernel_rfl) i))))
def Tc:Con:=⟨54,[.ref [(.list iT),iT],.v aG,.v .str],[(.list iT),iT,aG,.str],⟨[.v bE],[.ref [(.list iT),iT]]⟩,[bE,(.list iT),iT],Pw.unc4 Pw.jb7⟩
def jnM:FnD where
 N:=77
 np:=3
 cs:=[pq,tV,Dq,KK]
 ds:=[⟨0,[sB 0 0,sB 256 0,sB 384 0,sB 448 0,sI,.b (.cell [.d (.list iT),.d iT] e),.b (.cell [.d al,.d au,.d ar,.d ay] e),.b (.cell [.d .str,.d iT,.d iT,.d iT,.d iT,.d iT,.nil,.nil,.d iT,.d iT] e),.b (.cell [.d .str,.d iT,.d iT,.d iT,.d iT,.d iT,.ol 1000000,.nil,.d iT,.d iT] e),.b (.lst 3 iT e)],[iT,(.list iT),iT,al,au,ar,ay,.str,iT,iT,iT,iT,iT,iT,iT,.str,iT,iT,iT,iT,iT,iT,iT,(.list iT)],[⟨.exit 0,[sB 0 0,sB 256 0,sB 384 0,sB 448 0,.b (.cell [.d (.list iT),.d iT] e),.b (.cell [.d al,.d au,.d ar,.d ay] e),.b (.cell [.d .str,.d iT,.d iT,.d iT,.d iT,.d iT,.nil,.nil,.d iT,.d iT] e),.b (.cell [.d .str,.d iT,.d iT,.d iT,.d iT,.d iT,.ol 1500100,.nil,.d iT,.d iT] e),.b (.lst 3 iT e)],[(.list iT),iT,al,au,ar,ay,.str,iT,iT,iT,iT,iT,iT,iT,.str,iT,iT,iT,iT,iT,iT,iT,(.list iT)]⟩],Pw.u8 (Pw.u8 Pw.unc8) (Pw.j3B)⟩]
 keep:=[(0,⟨[0,4,6,7,8],[0,256,384,448],[⟨1000000,3,iT,[.cell 448 6],e⟩],[]⟩)]
 keepX:=[(0,.exit 0,⟨[0,4,6,7],[0,256,384,448],[⟨1500100,3,iT,[.cell 448 6],e⟩],[]⟩)]
 dw:=[(7,[[],[],[],[],[],[],[0],[3200],[3264,1000000],[],[448]])]
theorem jmQ:aJ Tc:=
 cOf aM aN jnM Tc Tryz.func54 (ja rj (ja wP (ja KJ (ja Φ i)))) (ja (λh=>by kernel_rfl) i)
def Kv:Con:=⟨11,[.ref [(.list iT),iT]],[(.list iT),iT],⟨[.v iT],[.ref [(.list iT),iT]]⟩,[iT,(.list iT),iT],Pw.unc2 Pw.j6V⟩
def jly:FnD where
 N:=16
 np:=1
 cs:=[pq,tV,Dq]
theorem Α:aJ Kv:=
 cOf aM aN jly Kv Tryz.func11 (ja rj (ja wP (ja KJ i))) i
end Go.Proofs.Pk
