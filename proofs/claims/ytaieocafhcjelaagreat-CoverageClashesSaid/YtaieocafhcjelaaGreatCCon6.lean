/- bZ: each given function is its plain function, printed by a program. -/
import Derived.Test.YtaieocafhcjelaaGreatCCon5
noncomputable section
open Go Go.Lft
set_option linter.unusedVariables false
set_option maxRecDepth 100000
namespace Go.Proofs.Pk
def Mg:Con:=⟨23,[.v aT,.v iT,.v iT,.v iT],[aT,iT,iT,iT],⟨[.own 41 aG,.v iT],[]⟩,[aG,iT],Pw.unc4 Pw.j89⟩
def jm3:FnD where
 N:=37
 np:=4
 cs:=[Gn,DE]
 ds:=[]
 modes:=[(75,[false,false,false,false]),(76,[false,false,false,false])]
 ro:=[true,false]
 dw:=[(4,[[],[],[],[],[],[],[],[],[2048],[]])]
theorem jl8:Con.OK Tryz.prog Mg:=
 cOf aD aF jm3 Mg Tryz.func23 (j9 Um (j9 Md trivial)) trivial
def Mh:Con:=⟨141,[.v aG,.v iT],[aG,iT],⟨[.own 99 aa],[]⟩,[aa],Pw.unc2 Pw.j9h⟩
def jmP:FnD where
 N:=29
 np:=2
 cs:=[xM]
 ds:=[⟨0,[sI,.s (.one (.ol 1000000)),.s (.one (.d aG)),sI,sI,.b (.lst 99 aQ false)],[iT,aG,iT,iT,aa],[⟨.exit 0,[.s (.one (.ol 1500100)),.b (.lst 99 aQ false)],[aa]⟩],Pw.unc5 (Pw.jaV)⟩]
 modes:=[(185,[false])]
 keep:=[(0,⟨[1,5,8,9,10],[],[⟨1000000,99,aQ,[.slot 5],false⟩],[]⟩)]
 keepX:=[(0,.exit 0,⟨[5],[],[⟨1500100,99,aQ,[.slot 5],false⟩],[]⟩)]
 ro:=[true]
theorem jm4:Con.OK Tryz.prog Mh:=
 cOf aD aF jmP Mh Tryz.func141 (j9 DB trivial) (j9 (λh=>by kernel_rfl) trivial)
def Mi:Con:=⟨69,[.v aT,.v iT,.v iT,.v iT,.v iT],[aT,iT,iT,iT,iT],⟨[.own 99 aa,.v iT],[]⟩,[aa,iT],Pw.unc5 Pw.jbM⟩
def jpi:FnD where
 N:=33
 np:=5
 cs:=[Mg,Mh]
 ds:=[]
 modes:=[(23,[false,false,false,false]),(141,[false,false])]
 ro:=[true,false]
theorem jor:Con.OK Tryz.prog Mi:=
 cOf aD aF jpi Mi Tryz.func69 (j9 jl8 (j9 jm4 trivial)) trivial
def Gy:Con:=⟨83,[.v aT,.v iT,.v iT,.v iT],[aT,iT,iT,iT],⟨[.own 99 aa,.v iT],[]⟩,[aa,iT],Pw.unc4 Pw.j8C⟩
def jos:FnD where
 N:=17
 np:=4
 cs:=[Mi]
 ds:=[]
 modes:=[(69,[false,false,false,false,false])]
 ro:=[true,false]
theorem UA:Con.OK Tryz.prog Gy:=
 cOf aD aF jos Gy Tryz.func83 (j9 jor trivial) trivial
def Mj:Con:=⟨84,[.v aT,.v iT,.v iT,.v iT],[aT,iT,iT,iT],⟨[.v .bool],[]⟩,[.bool],Pw.unc4 Pw.j7m⟩
def jl9:FnD where
 N:=26
 np:=4
 cs:=[Gy]
 ds:=[]
 modes:=[(83,[false,false,false,false])]
 ro:=[false]
theorem jjL:Con.OK Tryz.prog Mj:=
 cOf aD aF jl9 Mj Tryz.func84 (j9 UA trivial) trivial
def Mk:Con:=⟨85,[.v aT,.v iT],[aT,iT],⟨[.v iT],[]⟩,[iT],Pw.unc2 Pw.j7n⟩
def jla:FnD where
 N:=27
 np:=2
 cs:=[Dz,Gl,Gv]
 ds:=[]
 modes:=[(86,[false]),(100,[false,false]),(158,[false,false])]
 ro:=[false]
theorem jjM:Con.OK Tryz.prog Mk:=
 cOf aD aF jla Mk Tryz.func85 (j9 Lu (j9 Uk (j9 Us trivial))) trivial
def K4:Con:=⟨30,[],[],⟨[.v .bool],[]⟩,[.bool],λh=>Pw.jbf⟩
def jsT:FnD where
 N:=72
 np:=0
 cs:=[Kv,Mf,Gy,Mj,Mk]
 ds:=[]
 modes:=[(81,[false]),(82,[false,false,false]),(83,[false,false,false,false]),(84,[false,false,false,false]),(85,[false,false])]
 ro:=[false]
theorem jr8:Con.OK Tryz.prog K4:=
 cOf aD aF jsT K4 Tryz.func30 (j9 jqP (j9 jjK (j9 UA (j9 jjL (j9 jjM trivial))))) trivial
def K5:Con:=⟨19,[.v (.list iT)],[(.list iT)],⟨[.box [(.list iT),iT]],[]⟩,[(.list iT),iT],λh=>Pw.jo5 h⟩
def juj:FnD where
 N:=6
 np:=1
 cs:=[]
 ds:=[]
 ro:=[false]
theorem jsU:Con.OK Tryz.prog K5:=
 cOf aD aF juj K5 Tryz.func19 trivial trivial
def qF:Con:=⟨40,[.ref [(.list iT),iT],.v iT],[(.list iT),iT,iT],⟨[.v iT],[.ref [(.list iT),iT]]⟩,[iT,(.list iT),iT],Pw.unc3 Pw.j06⟩
def jmQ:FnD where
 N:=45
 np:=2
 cs:=[]
 ds:=[]
 ro:=[false]
theorem sV:Con.OK Tryz.prog qF:=
 cOf aD aF jmQ qF Tryz.func40 trivial trivial
def uR:Con:=⟨45,[.ref [(.list iT),iT],.v (.list iT)],[(.list iT),iT,(.list iT)],⟨[.v iT],[.ref [(.list iT),iT]]⟩,[iT,(.list iT),iT],Pw.unc3 Pw.j1P⟩
def jmR:FnD where
 N:=12
 np:=2
 cs:=[qF]
 ds:=[]
 modes:=[(40,[false,false])]
 ro:=[false]
theorem Ak:Con.OK Tryz.prog uR:=
 cOf aD aF jmR uR Tryz.func45 (j9 sV trivial) trivial
def Ml:Con:=⟨149,[.ref [(.list iT),iT],.v .str],[(.list iT),iT,.str],⟨[.v bk],[.ref [(.list iT),iT]]⟩,[bk,(.list iT),iT],Pw.unc3 Pw.j5i⟩
def jmS:FnD where
 N:=98
 np:=2
 cs:=[qF,uR]
 ds:=[]
 modes:=[(40,[false,false]),(45,[false,false])]
 ro:=[false]
 dw:=[(7,[[],[],[0],[],[],[0],[],[0],[],[],[],[],[0],[],[],[],[],[],[],[0],[],[],[3968],[0,3968],[],[0],[],[0],[],[],[],[],[4608],[],[320]]),(9,[[],[],[],[5056],[0,5056],[],[]])]
theorem jm5:Con.OK Tryz.prog Ml:=
 cOf aD aF jmS Ml Tryz.func149 (j9 sV (j9 Ak trivial)) trivial
def Gz:Con:=⟨73,[],[],⟨[.own 9 (.list .str)],[]⟩,[(.list .str)],λh=>Pw.jiv⟩
def jsV:FnD where
 N:=2
 np:=0
 cs:=[]
 ds:=[]
 ro:=[true]
theorem UB:Con.OK Tryz.prog Gz:=
 cOf aD aF jsV Gz Tryz.func73 trivial trivial
def Al:Con:=⟨74,[.ref [(.list iT),iT],.v iT],[(.list iT),iT,iT],⟨[.v .bool],[.ref [(.list iT),iT]]⟩,[.bool,(.list iT),iT],Pw.unc3 Pw.j1s⟩
def jmT:FnD where
 N:=11
 np:=2
 cs:=[qF]
 ds:=[]
 modes:=[(40,[false,false])]
 ro:=[false]
theorem GA:Con.OK Tryz.prog Al:=
 cOf aD aF jmT Al Tryz.func74 (j9 sV trivial) trivial
def GB:Con:=⟨143,[.ref [(.list iT),iT]],[(.list iT),iT],⟨[.own 200 aa],[.ref [(.list iT),iT]]⟩,[aa,(.list iT),iT],Pw.unc2 Pw.j5n⟩
def jjN:FnD where
 N:=38
 np:=1
 cs:=[qF,uR]
 ds:=[⟨0,[.s (.one (.bp 0 0)),.s (.one (.ol 1000000)),sI,sI,.b (.cell [.d (.list iT),.d iT] false),.b (.lst 200 aQ false)],[iT,iT,(.list iT),iT,aa],[⟨.exit 0,[.s (.one (.ol 1500100)),.b (.cell [.d (.list iT),.d iT] false),.b (.lst 200 aQ false)],[(.list iT),iT,aa]⟩],Pw.unc5 (Pw.j37)⟩]
 modes:=[(40,[false,false]),(45,[false,false])]
 keep:=[(0,⟨[0,3,4,5],[0],[⟨1000000,200,aQ,[.slot 3],false⟩],[]⟩)]
 keepX:=[(0,.exit 0,⟨[3],[0],[⟨1500100,200,aQ,[.slot 3],false⟩],[]⟩)]
 ro:=[true]
theorem UC:Con.OK Tryz.prog GB:=
 cOf aD aF jjN GB Tryz.func143 (j9 sV (j9 Ak trivial)) (j9 (λh=>by kernel_rfl) trivial)
def Mm:Con:=⟨71,[.ref [(.list iT),iT]],[(.list iT),iT],⟨[.vn aT [3]],[.ref [(.list iT),iT]]⟩,[aT,(.list iT),iT],Pw.unc2 Pw.jaa⟩
def jm6:FnD where
 N:=109
 np:=1
 cs:=[qF,uR,Ml,Gz,Al,GB]
 ds:=[⟨0,[.s (.one (.bp 0 0)),.s (.one (.bp 128 0)),.s (.one (.bp 192 0)),sI,.b (.cell [.d (.list iT),.d iT] false),.b (.cell [.nil,.nil,.nil,.nil] false),.b (.cell [.ol 1000000,.nil,.nil,.nil] false),.b (.lst 91 bk false)],[iT,(.list iT),iT,ar],[⟨.exit 0,[.s (.one (.bp 0 0)),.s (.one (.bp 128 0)),.s (.one (.bp 192 0)),.b (.cell [.d (.list iT),.d iT] false),.b (.cell [.nil,.nil,.nil,.nil] false),.b (.cell [.ol 1500100,.nil,.nil,.nil] false),.b (.lst 91 bk false)],[(.list iT),iT,ar]⟩],Pw.unc4 (Pw.j3O)⟩,
  ⟨2,[.s (.one (.bp 0 0)),.s (.one (.bp 128 0)),.s (.one (.bp 192 0)),sI,.b (.cell [.d (.list iT),.d iT] false),.b (.cell [.nil,.nil,.nil,.nil] false),.b (.cell [.ol 1002000,.ol 1002001,.nil,.nil] false),.b (.lst 91 bk false),.b (.lst 93 fG false)],[iT,(.list iT),iT,ar,ax],[⟨.exit 2,[.s (.one (.bp 0 0)),.s (.one (.bp 128 0)),.s (.one (.bp 192 0)),.b (.cell [.d (.list iT),.d iT] false),.b (.cell [.nil,.nil,.nil,.nil] false),.b (.cell [.ol 1502300,.ol 1502301,.nil,.nil] false),.b (.lst 91 bk false),.b (.lst 93 fG false)],[(.list iT),iT,ar,ax]⟩],Pw.unc5 (Pw.j3P)⟩,
  ⟨4,[.s (.one (.bp 0 0)),.s (.one (.bp 128 0)),.s (.one (.bp 192 0)),sI,.b (.cell [.d (.list iT),.d iT] false),.b (.cell [.nil,.nil,.nil,.nil] false),.b (.cell [.ol 1004000,.ol 1004001,.ol 1004002,.nil] false),.b (.lst 91 bk false),.b (.lst 93 fG false),.b (.lst 152 eQ false)],[iT,(.list iT),iT,ar,ax,aw],[⟨.exit 4,[.s (.one (.bp 128 0)),.s (.one (.bp 192 0)),.b (.cell [.d (.list iT),.d iT] false),.b (.cell [.nil,.nil,.nil,.nil] false),.b (.cell [.ol 1504500,.ol 1504501,.ol 1504502,.nil] false),.b (.lst 91 bk false),.b (.lst 93 fG false),.b (.lst 152 eQ false)],[(.list iT),iT,ar,ax,aw]⟩],Pw.unc6 (Pw.j2Y)⟩,
  ⟨6,[.s (.one (.bp 0 0)),.s (.one (.bp 128 0)),.s (.one (.bp 192 0)),sI,.s (.one (.bp 512 0)),sI,sI,.b (.cell [.d (.list iT),.d iT] false),.b (.cell [.nil,.nil,.nil,.nil] false),.b (.cell [.ol 1006000,.ol 1006001,.ol 1006002,.nil] false),.b (.cell [.d .str,.d iT,.ol 1006003] false),.b (.lst 91 bk false),.b (.lst 93 fG false),.b (.lst 152 eQ false),.b (.lst 3 iT false)],[iT,iT,iT,(.list iT),iT,.str,iT,ar,ax,aw,(.list iT)],[⟨.exit 6,[.s (.one (.bp 0 0)),.s (.one (.bp 128 0)),.s (.one (.bp 192 0)),sI,.s (.one (.bp 512 0)),.b (.cell [.d (.list iT),.d iT] false),.b (.cell [.nil,.nil,.nil,.nil] false),.b (.cell [.ol 1506700,.ol 1506701,.ol 1506702,.nil] false),.b (.cell [.d .str,.d iT,.ol 1506703] false),.b (.lst 91 bk false),.b (.lst 93 fG false),.b (.lst 152 eQ false),.b (.lst 3 iT false)],[iT,(.list iT),iT,.str,iT,ar,ax,aw,(.list iT)]⟩],Pw.jsw (Pw.j3Q)⟩]
 modes:=[(40,[false,false]),(45,[false,false]),(73,[]),(74,[false,false]),(143,[false]),(149,[false,false])]
 keep:=[(0,⟨[0,2,3,4],[0,128,192],[⟨1000000,91,bk,[.cell 192 0],false⟩],[]⟩),
  (2,⟨[0,2,3,5],[0,128,192],[⟨1002000,91,bk,[.cell 192 0],false⟩,⟨1002001,93,fG,[.cell 192 1],false⟩],[]⟩),
  (4,⟨[0,2,3,7],[0,128,192],[⟨1004000,91,bk,[.cell 192 0],false⟩,⟨1004001,93,fG,[.cell 192 1],false⟩,⟨1004002,152,eQ,[.cell 192 2],false⟩],[]⟩),
  (6,⟨[0,2,3,7,8,9,10],[0,128,192,512],[⟨1006000,91,bk,[.cell 192 0],false⟩,⟨1006001,93,fG,[.cell 192 1],false⟩,⟨1006002,152,eQ,[.cell 192 2],false⟩,⟨1006003,3,iT,[.cell 512 2],false⟩],[]⟩)]
 keepX:=[(0,.exit 0,⟨[0,2,3],[0,128,192],[⟨1500100,91,bk,[.cell 192 0],false⟩],[]⟩),
  (2,.exit 2,⟨[0,2,3],[0,128,192],[⟨1502300,91,bk,[.cell 192 0],false⟩,⟨1502301,93,fG,[.cell 192 1],false⟩],[]⟩),
  (4,.exit 4,⟨[2,3],[0,128,192],[⟨1504500,91,bk,[.cell 192 0],false⟩,⟨1504501,93,fG,[.cell 192 1],false⟩,⟨1504502,152,eQ,[.cell 192 2],false⟩],[]⟩),
  (6,.exit 6,⟨[0,2,3,7,8],[0,128,192,512],[⟨1506700,91,bk,[.cell 192 0],false⟩,⟨1506701,93,fG,[.cell 192 1],false⟩,⟨1506702,152,eQ,[.cell 192 2],false⟩,⟨1506703,3,iT,[.cell 512 2],false⟩],[]⟩)]
 ro:=[false]
 dw:=[(5,[[],[],[],[1344],[],[],[],[],[],[0],[1792],[1856,1000000],[],[192]]),(9,[[2432],[],[],[],[],[],[],[],[],[],[0],[],[0],[],[384],[384]])]
 ns:=[3]
theorem jlc:Con.OK Tryz.prog Mm:=
 cOf aD aF jm6 Mm Tryz.func71 (j9 sV (j9 Ak (j9 jm5 (j9 UB (j9 GA (j9 UC trivial)))))) (j9 (λh=>by kernel_rfl) (j9 (λh=>by kernel_rfl) (j9 (λh=>by kernel_rfl) (j9 (λh=>by kernel_rfl) trivial))))
def Mn:Con:=⟨72,[.ref [(.list iT),iT],.v aT,.v .str],[(.list iT),iT,aT,.str],⟨[.v bI],[.ref [(.list iT),iT]]⟩,[bI,(.list iT),iT],Pw.unc4 Pw.jab⟩
def jm7:FnD where
 N:=77
 np:=3
 cs:=[qF,uR,Al,GB]
 ds:=[⟨0,[.s (.one (.bp 0 0)),.s (.one (.bp 256 0)),.s (.one (.bp 384 0)),.s (.one (.bp 448 0)),sI,.b (.cell [.d (.list iT),.d iT] false),.b (.cell [.d ar,.d ax,.d aw,.d az] false),.b (.cell [.d .str,.d iT,.d iT,.d iT,.d iT,.d iT,.nil,.nil,.d iT,.d iT] false),.b (.cell [.d .str,.d iT,.d iT,.d iT,.d iT,.d iT,.ol 1000000,.nil,.d iT,.d iT] false),.b (.lst 3 iT false)],[iT,(.list iT),iT,ar,ax,aw,az,.str,iT,iT,iT,iT,iT,iT,iT,.str,iT,iT,iT,iT,iT,iT,iT,(.list iT)],[⟨.exit 0,[.s (.one (.bp 0 0)),.s (.one (.bp 256 0)),.s (.one (.bp 384 0)),.s (.one (.bp 448 0)),.b (.cell [.d (.list iT),.d iT] false),.b (.cell [.d ar,.d ax,.d aw,.d az] false),.b (.cell [.d .str,.d iT,.d iT,.d iT,.d iT,.d iT,.nil,.nil,.d iT,.d iT] false),.b (.cell [.d .str,.d iT,.d iT,.d iT,.d iT,.d iT,.ol 1500100,.nil,.d iT,.d iT] false),.b (.lst 3 iT false)],[(.list iT),iT,ar,ax,aw,az,.str,iT,iT,iT,iT,iT,iT,iT,.str,iT,iT,iT,iT,iT,iT,iT,(.list iT)]⟩],Pw.jDp (Pw.j3R)⟩]
 modes:=[(40,[false,false]),(45,[false,false]),(74,[false,false]),(143,[false])]
 keep:=[(0,⟨[0,4,6,7,8],[0,256,384,448],[⟨1000000,3,iT,[.cell 448 6],false⟩],[]⟩)]
 keepX:=[(0,.exit 0,⟨[0,4,6,7],[0,256,384,448],[⟨1500100,3,iT,[.cell 448 6],false⟩],[]⟩)]
 ro:=[false]
 dw:=[(7,[[],[],[],[],[],[],[0],[3200],[3264,1000000],[],[448]])]
theorem jld:Con.OK Tryz.prog Mn:=
 cOf aD aF jm7 Mn Tryz.func72 (j9 sV (j9 Ak (j9 GA (j9 UC trivial)))) (j9 (λh=>by kernel_rfl) trivial)
def Gj:Con:=⟨22,[.ref [(.list iT),iT]],[(.list iT),iT],⟨[.v iT],[.ref [(.list iT),iT]]⟩,[iT,(.list iT),iT],Pw.unc2 Pw.j6L⟩
def jjO:FnD where
 N:=16
 np:=1
 cs:=[qF,uR,Al]
 ds:=[]
 modes:=[(40,[false,false]),(45,[false,false]),(74,[false,false])]
 ro:=[false]
theorem Uh:Con.OK Tryz.prog Gj:=
 cOf aD aF jjO Gj Tryz.func22 (j9 sV (j9 Ak (j9 GA trivial))) trivial
def Mo:Con:=⟨37,[.ref [(.list iT),iT],.v aT],[(.list iT),iT,aT],⟨[.v aV],[.ref [(.list iT),iT]]⟩,[aV,(.list iT),iT],Pw.unc3 Pw.jbv⟩
def jmU:FnD where
 N:=52
 np:=2
 cs:=[qF,uR,Al,Gj]
 ds:=[]
 modes:=[(22,[false]),(40,[false,false]),(45,[false,false]),(74,[false,false])]
 ro:=[false]
 dw:=[(3,[[],[],[],[1344],[0,1344],[],[],[384]]),(8,[[],[],[],[],[],[],[0],[],[],[],[],[384]])]
theorem jm8:Con.OK Tryz.prog Mo:=
 cOf aD aF jmU Mo Tryz.func37 (j9 sV (j9 Ak (j9 GA (j9 Uh trivial)))) trivial
def K6:Con:=⟨21,[.ref [(.list iT),iT],.v iT],[(.list iT),iT,iT],⟨[.v aT],[.ref [(.list iT),iT]]⟩,[aT,(.list iT),iT],Pw.unc3 Pw.j9w⟩
def jle:FnD where
 N:=69
 np:=2
 cs:=[qF,Gz,Mm,Mn,Mo]
 ds:=[⟨0,[.s (.one (.bp 0 0)),.s (.one (.bp 256 0)),.s (.one (.bp 320 0)),sI,.b (.cell [.d (.list iT),.d iT] false),.b (.cell [.nil,.nil,.nil,.nil] false),.b (.cell [.d ar,.d ax,.d aw,.ol 1000000] false),.b (.lst 45 cq true)],[iT,(.list iT),iT,ar,ax,aw,az],[⟨.exit 0,[.s (.one (.bp 256 0)),.s (.one (.bp 320 0)),.b (.cell [.d (.list iT),.d iT] false),.b (.cell [.nil,.nil,.nil,.nil] false),.b (.cell [.d ar,.d ax,.d aw,.ol 1500100] false),.b (.lst 45 cq true)],[(.list iT),iT,ar,ax,aw,az]⟩],Pw.unc7 (Pw.j3v)⟩,
  ⟨2,[.s (.one (.bp 0 0)),.s (.one (.bp 256 0)),.s (.one (.bp 320 0)),sI,.s (.one (.bp 448 0)),sI,.b (.cell [.d (.list iT),.d iT] false),.b (.cell [.nil,.nil,.nil,.nil] false),.b (.cell [.d ar,.d ax,.d aw,.ol 1002000] false),.b (.cell [.d .str,.ol 1002001,.nil] false),.b (.lst 45 cq true),.b (.lst 52 bI false)],[iT,iT,(.list iT),iT,ar,ax,aw,.str,az,bn],[⟨.exit 2,[.s (.one (.bp 0 0)),.s (.one (.bp 256 0)),.s (.one (.bp 320 0)),sI,.s (.one (.bp 448 0)),.b (.cell [.d (.list iT),.d iT] false),.b (.cell [.nil,.nil,.nil,.nil] false),.b (.cell [.d ar,.d ax,.d aw,.ol 1502300] false),.b (.cell [.d .str,.ol 1502301,.nil] false),.b (.lst 45 cq true),.b (.lst 52 bI false)],[iT,(.list iT),iT,ar,ax,aw,.str,az,bn]⟩],Pw.jkB (Pw.j3t)⟩,
  ⟨4,[.s (.one (.bp 0 0)),.s (.one (.bp 256 0)),.s (.one (.bp 320 0)),sI,.s (.one (.bp 448 0)),sI,.b (.cell [.d (.list iT),.d iT] false),.b (.cell [.nil,.nil,.nil,.nil] false),.b (.cell [.d ar,.d ax,.d aw,.ol 1004000] false),.b (.cell [.d .str,.ol 1004001,.ol 1004002] false),.b (.lst 45 cq true),.b (.lst 52 bI false),.b (.lst 56 aV false)],[iT,iT,(.list iT),iT,ar,ax,aw,.str,az,bn,au],[⟨.exit 4,[.s (.one (.bp 0 0)),.s (.one (.bp 256 0)),.s (.one (.bp 320 0)),sI,.s (.one (.bp 448 0)),.b (.cell [.d (.list iT),.d iT] false),.b (.cell [.nil,.nil,.nil,.nil] false),.b (.cell [.d ar,.d ax,.d aw,.ol 1504500] false),.b (.cell [.d .str,.ol 1504501,.ol 1504502] false),.b (.lst 45 cq true),.b (.lst 52 bI false),.b (.lst 56 aV false)],[iT,(.list iT),iT,ar,ax,aw,.str,az,bn,au]⟩],Pw.jsw (Pw.j3u)⟩]
 modes:=[(37,[false,false]),(40,[false,false]),(71,[false]),(72,[false,false,false]),(73,[])]
 keep:=[(0,⟨[0,4,5,6],[0,256,320],[⟨1000000,45,cq,[.cell 320 3],true⟩],[]⟩),
  (2,⟨[0,4,5,6,7,8],[0,256,320,448],[⟨1002000,45,cq,[.cell 320 3],false⟩,⟨1002001,52,bI,[.cell 448 1],false⟩],[]⟩),
  (4,⟨[0,4,5,6,7,9],[0,256,320,448],[⟨1004000,45,cq,[.cell 320 3],false⟩,⟨1004001,52,bI,[.cell 448 1],false⟩,⟨1004002,56,aV,[.cell 448 2],false⟩],[]⟩)]
 keepX:=[(0,.exit 0,⟨[4,5],[0,256,320],[⟨1500100,45,cq,[.cell 320 3],false⟩],[]⟩),
  (2,.exit 2,⟨[0,4,5,6,7],[0,256,320,448],[⟨1502300,45,cq,[.cell 320 3],false⟩,⟨1502301,52,bI,[.cell 448 1],false⟩],[]⟩),
  (4,.exit 4,⟨[0,4,5,6,7],[0,256,320,448],[⟨1504500,45,cq,[.cell 320 3],false⟩,⟨1504501,52,bI,[.cell 448 1],false⟩,⟨1504502,56,aV,[.cell 448 2],false⟩],[]⟩)]
 ro:=[false]
 dw:=[(9,[[],[],[],[],[2432],[],[],[],[],[],[0,1002000],[2880],[2944,1002000,1002001],[],[448]]),(13,[[],[],[],[],[0,1004000],[3776],[3840,1004001,1004002],[],[448]])]
theorem jjP:Con.OK Tryz.prog K6:=
 cOf aD aF jle K6 Tryz.func21 (j9 sV (j9 UB (j9 jlc (j9 jld (j9 jm8 trivial))))) (j9 (λh=>by kernel_rfl) (j9 (λh=>by kernel_rfl) (j9 (λh=>by kernel_rfl) trivial)))
def Mp:Con:=⟨88,[.v aG,.v aG,.v iT,.v iT],[aG,aG,iT,iT],⟨[.own 70 au],[]⟩,[au],Pw.unc4 Pw.jac⟩
def jm9:FnD where
 N:=93
 np:=4
 cs:=[]
 ds:=[⟨0,[.s (.one (.d aG)),.s (.one (.d aG)),sI,sI,.s (.one (.ol 1000000)),sI,sI,.b (.lst 70 aV false)],[aG,aG,iT,iT,iT,iT,au],[⟨.exit 0,[.s (.one (.ol 1500100)),.b (.lst 70 aV false)],[au]⟩],Pw.unc7 (Pw.j3S)⟩]
 keep:=[(0,⟨[0,1,2,3,9,10,11],[],[⟨1000000,70,aV,[.slot 9],false⟩],[]⟩)]
 keepX:=[(0,.exit 0,⟨[9],[],[⟨1500100,70,aV,[.slot 9],false⟩],[]⟩)]
 ro:=[true]
theorem jlf:Con.OK Tryz.prog Mp:=
 cOf aD aF jm9 Mp Tryz.func88 trivial (j9 (λh=>by kernel_rfl) trivial)
end Go.Proofs.Pk
