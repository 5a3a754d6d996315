/- cB: each given function is its plain function, printed by a program. -/
import Derived.Test.YtgfoijaggkhgnaaGreatLXTab
import Derived.Test.YtgfoijaggkhgnaaGreatLXSrt
open Bool renaming false->e
open _root_ renaming trivial->i
noncomputable section
open Go Go.Lft
set_option linter.unusedVariables false
set_option maxRecDepth 100000
namespace Go.Proofs.Pk
abbrev aG(c:Con):=Con.OK Tryz.prog c
abbrev aN:Ty:=(.pair iT iT)
abbrev ag:Ty:=(.list aN)
abbrev pd:Ty:=(.pair aN iT)
abbrev aw:Ty:=(.pair iT aN)
abbrev fZ:Ty:=(.pair .str (.pair iT (.list iT)))
abbrev dg:Ty:=(.pair iT ag)
abbrev bG:Ty:=(.list pd)
abbrev ak:Ty:=(.list aw)
abbrev aA:Ty:=(.list fZ)
abbrev iv:Ty:=(.list dg)
abbrev A9:Ty:=(.list bG)
abbrev kV:Ty:=(.list ak)
abbrev wB:Ty:=(.arr 2 ak)
abbrev fI:Ty:=(.pair iT aw)
abbrev Ba:Ty:=(.list wB)
abbrev iI:Ty:=(.list fI)
abbrev iw:Ty:=(.pair iT fI)
abbrev bL:Ty:=(.list iw)
abbrev gM:Ty:=(.pair .str (.pair iT (.pair ag (.pair iT (.pair iT .bool)))))
abbrev ph:Ty:=(.pair iT (.pair iT iw))
abbrev aB:Ty:=(.list gM)
abbrev bW:Ty:=(.list ph)
abbrev bq:Ty:=(.pair .str (.pair iT bW))
abbrev ay:Ty:=(.list bq)
abbrev bX:Ty:=(.pair .str (.pair iT (.pair aN (.pair iT (.pair iT (.pair (.list iT) (.pair ag aN)))))))
abbrev bS:Ty:=(.list bX)
abbrev dA:Ty:=(.pair .str (.pair bS bL))
abbrev aF:Ty:=(.list dA)
abbrev bh:Ty:=(.pair ay (.pair aB (.pair aA aF)))
abbrev gv:Ty:=(.pair bh iv)
def PE:Con:=⟨4,[.v (.list iT)],[(.list iT)],⟨[.v .bool],[]⟩,[.bool],λh=>Pw.jlQ h⟩
def jtb:FnD where
 N:=6
 np:=1
theorem jrh:aG PE:=
 cOf aJ aK jtb PE Tryz.func4 i i
def Bb:Con:=⟨49,[.v ak],[ak],⟨[.v .bool],[]⟩,[.bool],λh=>Pw.j75 h⟩
def jtc:FnD where
 N:=64
 np:=1
 ds:=[⟨0,[sD ak,sD ak,sI,sI],[ak,ak,iT,iT],[⟨.ret,[sD .bool],[.bool]⟩,⟨.exit 0,[],[]⟩],Pw.unc4 (Pw.j3D)⟩]
 keep:=[(0,⟨[0,8,9,10],[],[],[]⟩)]
 keepX:=[(0,.ret,⟨[2],[],[],[]⟩)]
theorem GV:aG Bb:=
 cOf aJ aK jtc Bb Tryz.func49 i (ja (λh=>by kernel_rfl) i)
def GW:Con:=⟨52,[.v ak,.v iT],[ak,iT],⟨[.v iT],[]⟩,[iT],Pw.unc2 Pw.j2u⟩
def jog:FnD where
 N:=20
 np:=2
 ds:=[⟨0,[sI,sD ak,sI,sI],[iT,ak,iT,iT],[⟨.ret,[sI],[iT]⟩,⟨.exit 0,[],[]⟩],Pw.unc4 (Pw.j3f)⟩]
 keep:=[(0,⟨[1,7,8,9],[],[],[]⟩)]
 keepX:=[(0,.ret,⟨[4],[],[],[]⟩)]
theorem PF:aG GW:=
 cOf aJ aK jog GW Tryz.func52 i (ja (λh=>by kernel_rfl) i)
def GX:Con:=⟨20,[.v ak],[ak],⟨[.v aw],[]⟩,[aw],λh=>Pw.jiB h⟩
def jyf:FnD where
 N:=31
 np:=1
 cs:=[Bb]
 ds:=[⟨0,[sB 128 0,sB 192 0,sD ak,sI,sI,.b (.cell [.d iT,.d iT,.d iT] e),.b (.cell [.d iT,.d iT,.d iT] e)],[ak,iT,iT,iT,iT,iT,iT,iT,iT],[⟨.exit 0,[sB 128 0,sB 192 0,.b (.cell [.d iT,.d iT,.d iT] e),.b (.cell [.d iT,.d iT,.d iT] e)],[iT,iT,iT,iT,iT,iT]⟩],Pw.unc9 (Pw.j6z)⟩]
 keep:=[(0,⟨[2,3,11,12,13],[128,192],[],[]⟩)]
 keepX:=[(0,.exit 0,⟨[2,3],[128,192],[],[]⟩)]
theorem PG:aG GX:=
 cOf aJ aK jyf GX Tryz.func20 (ja GV i) (ja (λh=>by kernel_rfl) i)
def PH:Con:=⟨72,[.v iT],[iT],⟨[.v .bool],[]⟩,[.bool],λh=>Pw.jhB h⟩
def jp5:FnD where
 N:=9
 np:=1
theorem joh:aG PH:=
 cOf aJ aK jp5 PH Tryz.func72 i i
def PI:Con:=⟨74,[.v iT],[iT],⟨[.v iT],[]⟩,[iT],λh=>Pw.jlR h⟩
def jtd:FnD where
 N:=8
 np:=1
theorem jri:aG PI:=
 cOf aJ aK jtd PI Tryz.func74 i i
def PJ:Con:=⟨73,[.v iT,.v iT],[iT,iT],⟨[.v iT],[]⟩,[iT],Pw.unc2 Pw.jo6⟩
def jv3:FnD where
 N:=12
 np:=2
 ds:=[⟨0,[sI,sI],[iT,iT],[⟨.exit 0,[sI],[iT]⟩],Pw.unc2 (Pw.j5H)⟩]
 keep:=[(0,⟨[0,1],[],[],[]⟩)]
 keepX:=[(0,.exit 0,⟨[0],[],[],[]⟩)]
theorem jte:aG PJ:=
 cOf aJ aK jv3 PJ Tryz.func73 i (ja (λh=>by kernel_rfl) i)
def KE:Con:=⟨53,[.v iT,.v iT],[iT,iT],⟨[.v aN,.v iT],[]⟩,[aN,iT],Pw.unc2 Pw.jfm⟩
def jv4:FnD where
 N:=30
 np:=2
 cs:=[PH,PI,PJ]
 dw:=[(4,[[],[],[],[],[],[],[],[256],[]])]
theorem cP:aG KE:=
 cOf aJ aK jv4 KE Tryz.func53 (ja joh (ja jri (ja jte i))) i
def KF:Con:=⟨24,[.v ak,.v iT],[ak,iT],⟨[.v aN,.v iT],[]⟩,[aN,iT],Pw.unc2 Pw.jfn⟩
def jtf:FnD where
 N:=20
 np:=2
 cs:=[Bb,GW,GX,KE]
theorem _r:aG KF:=
 cOf aJ aK jtf KF Tryz.func24 (ja GV (ja PF (ja PG (ja cP i)))) i
def KG:Con:=⟨22,[.v ak,.v (.list iT)],[ak,(.list iT)],⟨[.v aN,.v iT],[]⟩,[aN,iT],Pw.unc2 Pw.jhE⟩
def jv5:FnD where
 N:=68
 np:=2
 cs:=[Bb,GW,KE]
 ds:=[⟨1,[sD ak,sD (.list iT),sB 256 0,sI,sD (.list iT),sI,sI,.b (.cell [.d iT,.d iT] e)],[ak,(.list iT),iT,(.list iT),iT,iT,iT,iT],[⟨.exit 1,[sD ak,sD (.list iT),sB 256 0,sI,.b (.cell [.d iT,.d iT] e)],[ak,(.list iT),iT,iT,iT]⟩],Pw.unc8 (Pw.j5I)⟩,⟨4,[sD ak,sD (.list iT),sB 256 0,sI,sI,sD (.list iT),sI,sI,.b (.cell [.d iT,.d iT] e)],[ak,(.list iT),iT,iT,(.list iT),iT,iT,iT,iT],[⟨.exit 4,[sD (.list iT),sB 256 0,sI,sI,.b (.cell [.d iT,.d iT] e)],[(.list iT),iT,iT,iT,iT]⟩],Pw.unc9 (Pw.j5J)⟩]
 keep:=[(1,⟨[0,1,4,6,22,23,24],[256],[],[]⟩),(4,⟨[0,1,4,6,9,42,43,44],[256],[],[]⟩)]
 keepX:=[(1,.exit 1,⟨[0,1,4,6],[256],[],[]⟩),(4,.exit 4,⟨[1,4,6,9],[256],[],[]⟩)]
theorem _s:aG KG:=
 cOf aJ aK jv5 KG Tryz.func22 (ja GV (ja PF (ja cP i))) (ja (λh=>by kernel_rfl) (ja (λh=>by kernel_rfl) i))
def KH:Con:=⟨26,[.v ak,.v (.list iT)],[ak,(.list iT)],⟨[.v iT],[]⟩,[iT],Pw.unc2 Pw.jd8⟩
def jrj:FnD where
 N:=47
 np:=2
 cs:=[Bb,GW]
 ds:=[⟨0,[sD ak,sI,sI,sD (.list iT),sI,sI],[ak,iT,iT,(.list iT),iT,iT],[⟨.exit 0,[sI,sI],[iT,iT]⟩],Pw.unc6 (Pw.j30)⟩]
 keep:=[(0,⟨[0,5,6,27,28,29],[],[],[]⟩)]
 keepX:=[(0,.exit 0,⟨[5,6],[],[],[]⟩)]
theorem _t:aG KH:=
 cOf aJ aK jrj KH Tryz.func26 (ja GV (ja PF i)) (ja (λh=>by kernel_rfl) i)
def PK:Con:=⟨5,[],[],⟨[.v .bool],[]⟩,[.bool],λh=>Pw.jiC⟩
def jtg:FnD where
 N:=48
 np:=0
 cs:=[GX,KF,KG,KH]
theorem jrk:aG PK:=
 cOf aJ aK jtg PK Tryz.func5 (ja PG (ja _r (ja _s (ja _t i)))) i
def PL:Con:=⟨6,[.v (.list iT)],[(.list iT)],⟨[.box [(.list iT),iT]],[]⟩,[(.list iT),iT],λh=>Pw.jo7 h⟩
def jv6:FnD where
 N:=6
 np:=1
theorem jth:aG PL:=
 cOf aJ aK jv6 PL Tryz.func6 i i
def pW:Con:=⟨13,[.ref [(.list iT),iT],.v iT],[(.list iT),iT,iT],⟨[.v iT],[.ref [(.list iT),iT]]⟩,[iT,(.list iT),iT],Pw.unc3 Pw.j08⟩
def jmM:FnD where
 N:=45
 np:=2
theorem r7:aG pW:=
 cOf aJ aK jmM pW Tryz.func13 i i
def uI:Con:=⟨10,[.ref [(.list iT),iT],.v (.list iT)],[(.list iT),iT,(.list iT)],⟨[.v iT],[.ref [(.list iT),iT]]⟩,[iT,(.list iT),iT],Pw.unc3 Pw.j0D⟩
def jmN:FnD where
 N:=12
 np:=2
 cs:=[pW]
theorem xV:aG uI:=
 cOf aJ aK jmN uI Tryz.func10 (ja r7 i) i
def PM:Con:=⟨56,[.ref [(.list iT),iT],.v .str],[(.list iT),iT,.str],⟨[.v bq],[.ref [(.list iT),iT]]⟩,[bq,(.list iT),iT],Pw.unc3 Pw.j4h⟩
def jmO:FnD where
 N:=98
 np:=2
 cs:=[pW,uI]
 dw:=[(7,[[],[],[0],[],[],[0],[],[0],[],[],[],[],[0],[],[],[],[],[],[],[0],[],[],[3968],[0,3968],[],[0],[],[0],[],[],[],[],[4608],[],[320]]),(9,[[],[],[],[5056],[0,5056],[],[]])]
theorem jlW:aG PM:=
 cOf aJ aK jmO PM Tryz.func56 (ja r7 (ja xV i)) i
def KI:Con:=⟨30,[],[],⟨[.own 9 (.list .str)],[]⟩,[(.list .str)],λh=>Pw.jiD⟩
def jti:FnD where
 N:=2
 np:=0
 ro:=[true]
theorem _u:aG KI:=
 cOf aJ aK jti KI Tryz.func30 i i
def C4:Con:=⟨33,[.ref [(.list iT),iT],.v iT],[(.list iT),iT,iT],⟨[.v .bool],[.ref [(.list iT),iT]]⟩,[.bool,(.list iT),iT],Pw.unc3 Pw.j0Q⟩
def jmP:FnD where
 N:=11
 np:=2
 cs:=[pW]
theorem KJ:aG C4:=
 cOf aJ aK jmP C4 Tryz.func33 (ja r7 i) i
def GY:Con:=⟨32,[.ref [(.list iT),iT]],[(.list iT),iT],⟨[.own 40 ag],[.ref [(.list iT),iT]]⟩,[ag,(.list iT),iT],Pw.unc2 Pw.j31⟩
def jjQ:FnD where
 N:=38
 np:=1
 cs:=[pW,uI]
 ds:=[⟨0,[sB 0 0,sO 1000000,sI,sI,.b (.cell [.d (.list iT),.d iT] e),.b (.lst 40 aN e)],[iT,iT,(.list iT),iT,ag],[⟨.exit 0,[sO 1500100,.b (.cell [.d (.list iT),.d iT] e),.b (.lst 40 aN e)],[(.list iT),iT,ag]⟩],Pw.unc5 (Pw.j22)⟩]
 keep:=[(0,⟨[0,3,4,5],[0],[⟨1000000,40,aN,[.slot 3],e⟩],[]⟩)]
 keepX:=[(0,.exit 0,⟨[3],[0],[⟨1500100,40,aN,[.slot 3],e⟩],[]⟩)]
 ro:=[true]
theorem PN:aG GY:=
 cOf aJ aK jjQ GY Tryz.func32 (ja r7 (ja xV i)) (ja (λh=>by kernel_rfl) i)
def PO:Con:=⟨28,[.ref [(.list iT),iT]],[(.list iT),iT],⟨[.vn bh [3]],[.ref [(.list iT),iT]]⟩,[bh,(.list iT),iT],Pw.unc2 Pw.j9L⟩
def jlX:FnD where
 N:=109
 np:=1
 cs:=[pW,uI,PM,KI,C4,GY]
 ds:=[⟨0,[sB 0 0,sB 128 0,sB 192 0,sI,.b (.cell [.d (.list iT),.d iT] e),.b (.cell [.nil,.nil,.nil,.nil] e),.b (.cell [.ol 1000000,.nil,.nil,.nil] e),.b (.lst 100 bq e)],[iT,(.list iT),iT,ay],[⟨.exit 0,[sB 0 0,sB 128 0,sB 192 0,.b (.cell [.d (.list iT),.d iT] e),.b (.cell [.nil,.nil,.nil,.nil] e),.b (.cell [.ol 1500100,.nil,.nil,.nil] e),.b (.lst 100 bq e)],[(.list iT),iT,ay]⟩],Pw.unc4 (Pw.j2v)⟩,⟨2,[sB 0 0,sB 128 0,sB 192 0,sI,.b (.cell [.d (.list iT),.d iT] e),.b (.cell [.nil,.nil,.nil,.nil] e),.b (.cell [.ol 1002000,.ol 1002001,.nil,.nil] e),.b (.lst 100 bq e),.b (.lst 120 gM e)],[iT,(.list iT),iT,ay,aB],[⟨.exit 2,[sB 0 0,sB 128 0,sB 192 0,.b (.cell [.d (.list iT),.d iT] e),.b (.cell [.nil,.nil,.nil,.nil] e),.b (.cell [.ol 1502300,.ol 1502301,.nil,.nil] e),.b (.lst 100 bq e),.b (.lst 120 gM e)],[(.list iT),iT,ay,aB]⟩],Pw.unc5 (Pw.j2w)⟩,⟨4,[sB 0 0,sB 128 0,sB 192 0,sI,.b (.cell [.d (.list iT),.d iT] e),.b (.cell [.nil,.nil,.nil,.nil] e),.b (.cell [.ol 1004000,.ol 1004001,.ol 1004002,.nil] e),.b (.lst 100 bq e),.b (.lst 120 gM e),.b (.lst 122 fZ e)],[iT,(.list iT),iT,ay,aB,aA],[⟨.exit 4,[sB 128 0,sB 192 0,.b (.cell [.d (.list iT),.d iT] e),.b (.cell [.nil,.nil,.nil,.nil] e),.b (.cell [.ol 1504500,.ol 1504501,.ol 1504502,.nil] e),.b (.lst 100 bq e),.b (.lst 120 gM e),.b (.lst 122 fZ e)],[(.list iT),iT,ay,aB,aA]⟩],Pw.unc6 (Pw.j1L)⟩,⟨6,[sB 0 0,sB 128 0,sB 192 0,sI,sB 512 0,sI,sI,.b (.cell [.d (.list iT),.d iT] e),.b (.cell [.nil,.nil,.nil,.nil] e),.b (.cell [.ol 1006000,.ol 1006001,.ol 1006002,.nil] e),.b (.cell [.d .str,.d iT,.ol 1006003] e),.b (.lst 100 bq e),.b (.lst 120 gM e),.b (.lst 122 fZ e),.b (.lst 3 iT e)],[iT,iT,iT,(.list iT),iT,.str,iT,ay,aB,aA,(.list iT)],[⟨.exit 6,[sB 0 0,sB 128 0,sB 192 0,sI,sB 512 0,.b (.cell [.d (.list iT),.d iT] e),.b (.cell [.nil,.nil,.nil,.nil] e),.b (.cell [.ol 1506700,.ol 1506701,.ol 1506702,.nil] e),.b (.cell [.d .str,.d iT,.ol 1506703] e),.b (.lst 100 bq e),.b (.lst 120 gM e),.b (.lst 122 fZ e),.b (.lst 3 iT e)],[iT,(.list iT),iT,.str,iT,ay,aB,aA,(.list iT)]⟩],Pw.u8 Pw.unc3 (Pw.j2x)⟩]
 keep:=[(0,⟨[0,2,3,4],[0,128,192],[⟨1000000,100,bq,[.cell 192 0],e⟩],[]⟩),(2,⟨[0,2,3,5],[0,128,192],[⟨1002000,100,bq,[.cell 192 0],e⟩,⟨1002001,120,gM,[.cell 192 1],e⟩],[]⟩),(4,⟨[0,2,3,7],[0,128,192],[⟨1004000,100,bq,[.cell 192 0],e⟩,⟨1004001,120,gM,[.cell 192 1],e⟩,⟨1004002,122,fZ,[.cell 192 2],e⟩],[]⟩),(6,⟨[0,2,3,7,8,9,10],[0,128,192,512],[⟨1006000,100,bq,[.cell 192 0],e⟩,⟨1006001,120,gM,[.cell 192 1],e⟩,⟨1006002,122,fZ,[.cell 192 2],e⟩,⟨1006003,3,iT,[.cell 512 2],e⟩],[]⟩)]
 keepX:=[(0,.exit 0,⟨[0,2,3],[0,128,192],[⟨1500100,100,bq,[.cell 192 0],e⟩],[]⟩),(2,.exit 2,⟨[0,2,3],[0,128,192],[⟨1502300,100,bq,[.cell 192 0],e⟩,⟨1502301,120,gM,[.cell 192 1],e⟩],[]⟩),(4,.exit 4,⟨[2,3],[0,128,192],[⟨1504500,100,bq,[.cell 192 0],e⟩,⟨1504501,120,gM,[.cell 192 1],e⟩,⟨1504502,122,fZ,[.cell 192 2],e⟩],[]⟩),(6,.exit 6,⟨[0,2,3,7,8],[0,128,192,512],[⟨1506700,100,bq,[.cell 192 0],e⟩,⟨1506701,120,gM,[.cell 192 1],e⟩,⟨1506702,122,fZ,[.cell 192 2],e⟩,⟨1506703,3,iT,[.cell 512 2],e⟩],[]⟩)]
 dw:=[(5,[[],[],[],[1344],[],[],[],[],[],[0],[1792],[1856,1000000],[],[192]]),(9,[[2432],[],[],[],[],[],[],[],[],[],[0],[],[0],[],[384],[384]])]
 ns:=[3]
theorem jl3:aG PO:=
 cOf aJ aK jlX PO Tryz.func28 (ja r7 (ja xV (ja jlW (ja _u (ja KJ (ja PN i)))))) (ja (λh=>by kernel_rfl) (ja (λh=>by kernel_rfl) (ja (λh=>by kernel_rfl) (ja (λh=>by kernel_rfl) i))))
end Go.Proofs.Pk
