/- cp: each given function is its plain function, printed by a program. -/
import Derived.Test.YtjpgjpnfacnmaaaGreatLSTab
import Derived.Test.YtjpgjpnfacnmaaaGreatLSSrt
noncomputable section
open Go Go.Lft
set_option linter.unusedVariables false
set_option maxRecDepth 100000
namespace Go.Proofs.Pk
abbrev aB(c:Con):=Con.OK Tryz.prog c
abbrev aJ:Ty:=(.pair iT iT)
abbrev aa:Ty:=(.list aJ)
abbrev ot:Ty:=(.pair aJ iT)
abbrev aA:Ty:=(.pair iT aJ)
abbrev fL:Ty:=(.pair .str (.pair iT (.list iT)))
abbrev cQ:Ty:=(.pair iT aa)
abbrev dz:Ty:=(.list ot)
abbrev aq:Ty:=(.list aA)
abbrev ay:Ty:=(.list fL)
abbrev gT:Ty:=(.list cQ)
abbrev gU:Ty:=(.pair iT aA)
abbrev jA:Ty:=(.list gU)
abbrev gV:Ty:=(.pair iT gU)
abbrev bu:Ty:=(.list gV)
abbrev gn:Ty:=(.pair .str (.pair iT (.pair aa (.pair iT (.pair iT .bool)))))
abbrev ou:Ty:=(.pair iT (.pair iT gV))
abbrev az:Ty:=(.list gn)
abbrev bM:Ty:=(.list ou)
abbrev bd:Ty:=(.pair .str (.pair iT bM))
abbrev ax:Ty:=(.list bd)
abbrev bN:Ty:=(.pair .str (.pair iT (.pair aJ (.pair iT (.pair iT (.pair (.list iT) (.pair aa aJ)))))))
abbrev bC:Ty:=(.list bN)
abbrev df:Ty:=(.pair .str (.pair bC bu))
abbrev aG:Ty:=(.list df)
abbrev aY:Ty:=(.pair ax (.pair az (.pair ay aG)))
abbrev fX:Ty:=(.pair aY gT)
def NF:Con:=⟨7,[.v (.list iT)],[(.list iT)],⟨[.v .bool],[]⟩,[.bool],λh=>Pw.jko h⟩
def jrF:FnD where
 N:=6
 np:=1
theorem jpD:aB NF:=
 cOf aC aF jrF NF Tryz.func7 trivial trivial
def B3:Con:=⟨114,[.v aq],[aq],⟨[.v .bool],[]⟩,[.bool],λh=>Pw.j6z h⟩
def jrG:FnD where
 N:=64
 np:=1
 ds:=[⟨0,[sD aq,sD aq,sI,sI],[aq,aq,iT,iT],[⟨.ret,[sD .bool],[.bool]⟩,⟨.exit 0,[],[]⟩],Pw.unc4 (Pw.j4x)⟩]
 keep:=[(0,⟨[0,8,9,10],[],[],[]⟩)]
 keepX:=[(0,.ret,⟨[2],[],[],[]⟩)]
theorem I6:aB B3:=
 cOf aC aF jrG B3 Tryz.func114 trivial (ja (λh=>by kernel_rfl) trivial)
def Fv:Con:=⟨160,[.v aq,.v iT],[aq,iT],⟨[.v iT],[]⟩,[iT],Pw.unc2 Pw.j1Y⟩
def jmC:FnD where
 N:=20
 np:=2
 ds:=[⟨0,[sI,sD aq,sI,sI],[iT,aq,iT,iT],[⟨.ret,[sI],[iT]⟩,⟨.exit 0,[],[]⟩],Pw.unc4 (Pw.jak)⟩]
 keep:=[(0,⟨[1,7,8,9],[],[],[]⟩)]
 keepX:=[(0,.ret,⟨[4],[],[],[]⟩)]
theorem NG:aB Fv:=
 cOf aC aF jmC Fv Tryz.func160 trivial (ja (λh=>by kernel_rfl) trivial)
def Fw:Con:=⟨56,[.v aq],[aq],⟨[.v aA],[]⟩,[aA],λh=>Pw.jbt h⟩
def jwu:FnD where
 N:=31
 np:=1
 cs:=[B3]
 ds:=[⟨0,[sB 128 0,sB 192 0,sD aq,sI,sI,.b (.cell [.d iT,.d iT,.d iT] false),.b (.cell [.d iT,.d iT,.d iT] false)],[aq,iT,iT,iT,iT,iT,iT,iT,iT],[⟨.exit 0,[sB 128 0,sB 192 0,.b (.cell [.d iT,.d iT,.d iT] false),.b (.cell [.d iT,.d iT,.d iT] false)],[iT,iT,iT,iT,iT,iT]⟩],Pw.unc9 (Pw.j66)⟩]
 keep:=[(0,⟨[2,3,11,12,13],[128,192],[],[]⟩)]
 keepX:=[(0,.exit 0,⟨[2,3],[128,192],[],[]⟩)]
theorem NH:aB Fw:=
 cOf aC aF jwu Fw Tryz.func56 (ja I6 trivial) (ja (λh=>by kernel_rfl) trivial)
def NI:Con:=⟨232,[.v iT],[iT],⟨[.v .bool],[]⟩,[.bool],λh=>Pw.jkY h⟩
def jnt:FnD where
 N:=9
 np:=1
theorem jmD:aB NI:=
 cOf aC aF jnt NI Tryz.func232 trivial trivial
def NJ:Con:=⟨234,[.v iT],[iT],⟨[.v iT],[]⟩,[iT],λh=>Pw.joB h⟩
def jrH:FnD where
 N:=8
 np:=1
theorem jpE:aB NJ:=
 cOf aC aF jrH NJ Tryz.func234 trivial trivial
def NK:Con:=⟨233,[.v iT,.v iT],[iT,iT],⟨[.v iT],[]⟩,[iT],Pw.unc2 Pw.jgw⟩
def jtq:FnD where
 N:=12
 np:=2
 ds:=[⟨0,[sI,sI],[iT,iT],[⟨.exit 0,[sI],[iT]⟩],Pw.unc2 (Pw.jee)⟩]
 keep:=[(0,⟨[0,1],[],[],[]⟩)]
 keepX:=[(0,.exit 0,⟨[0],[],[],[]⟩)]
theorem jrI:aB NK:=
 cOf aC aF jtq NK Tryz.func233 trivial (ja (λh=>by kernel_rfl) trivial)
def I7:Con:=⟨159,[.v iT,.v iT],[iT,iT],⟨[.v aJ,.v iT],[]⟩,[aJ,iT],Pw.unc2 Pw.jef⟩
def jtr:FnD where
 N:=30
 np:=2
 cs:=[NI,NJ,NK]
 dw:=[(4,[[],[],[],[],[],[],[],[256],[]])]
theorem Yc:aB I7:=
 cOf aC aF jtr I7 Tryz.func159 (ja jmD (ja jpE (ja jrI trivial))) trivial
def NL:Con:=⟨103,[.v aq,.v iT],[aq,iT],⟨[.v aJ,.v iT],[]⟩,[aJ,iT],Pw.unc2 Pw.jeg⟩
def jrJ:FnD where
 N:=20
 np:=2
 cs:=[B3,Fv,Fw,I7]
theorem jpF:aB NL:=
 cOf aC aF jrJ NL Tryz.func103 (ja I6 (ja NG (ja NH (ja Yc trivial)))) trivial
def NM:Con:=⟨104,[.v aq,.v (.list iT)],[aq,(.list iT)],⟨[.v aJ,.v iT],[]⟩,[aJ,iT],Pw.unc2 Pw.jgz⟩
def jts:FnD where
 N:=68
 np:=2
 cs:=[B3,Fv,I7]
 ds:=[⟨1,[sD aq,sD (.list iT),sB 256 0,sI,sD (.list iT),sI,sI,.b (.cell [.d iT,.d iT] false)],[aq,(.list iT),iT,(.list iT),iT,iT,iT,iT],[⟨.exit 1,[sD aq,sD (.list iT),sB 256 0,sI,.b (.cell [.d iT,.d iT] false)],[aq,(.list iT),iT,iT,iT]⟩],Pw.unc8 (Pw.j5i)⟩,⟨4,[sD aq,sD (.list iT),sB 256 0,sI,sI,sD (.list iT),sI,sI,.b (.cell [.d iT,.d iT] false)],[aq,(.list iT),iT,iT,(.list iT),iT,iT,iT,iT],[⟨.exit 4,[sD (.list iT),sB 256 0,sI,sI,.b (.cell [.d iT,.d iT] false)],[(.list iT),iT,iT,iT,iT]⟩],Pw.unc9 (Pw.j5j)⟩]
 keep:=[(1,⟨[0,1,4,6,22,23,24],[256],[],[]⟩),(4,⟨[0,1,4,6,9,42,43,44],[256],[],[]⟩)]
 keepX:=[(1,.exit 1,⟨[0,1,4,6],[256],[],[]⟩),(4,.exit 4,⟨[1,4,6,9],[256],[],[]⟩)]
theorem jrK:aB NM:=
 cOf aC aF jts NM Tryz.func104 (ja I6 (ja NG (ja Yc trivial))) (ja (λh=>by kernel_rfl) (ja (λh=>by kernel_rfl) trivial))
def NN:Con:=⟨105,[.v aq,.v (.list iT)],[aq,(.list iT)],⟨[.v iT],[]⟩,[iT],Pw.unc2 Pw.jc1⟩
def jpG:FnD where
 N:=47
 np:=2
 cs:=[B3,Fv]
 ds:=[⟨0,[sD aq,sI,sI,sD (.list iT),sI,sI],[aq,iT,iT,(.list iT),iT,iT],[⟨.exit 0,[sI,sI],[iT,iT]⟩],Pw.unc6 (Pw.j40)⟩]
 keep:=[(0,⟨[0,5,6,27,28,29],[],[],[]⟩)]
 keepX:=[(0,.exit 0,⟨[5,6],[],[],[]⟩)]
theorem jnu:aB NN:=
 cOf aC aF jpG NN Tryz.func105 (ja I6 (ja NG trivial)) (ja (λh=>by kernel_rfl) trivial)
def NO:Con:=⟨52,[],[],⟨[.v .bool],[]⟩,[.bool],λh=>Pw.j9O⟩
def jrL:FnD where
 N:=48
 np:=0
 cs:=[Fw,NL,NM,NN]
theorem jpH:aB NO:=
 cOf aC aF jrL NO Tryz.func52 (ja NH (ja jpF (ja jrK (ja jnu trivial)))) trivial
def NP:Con:=⟨9,[.v (.list iT)],[(.list iT)],⟨[.box [(.list iT),iT]],[]⟩,[(.list iT),iT],λh=>Pw.jmx h⟩
def jtt:FnD where
 N:=6
 np:=1
theorem jrM:aB NP:=
 cOf aC aF jtt NP Tryz.func9 trivial trivial
def pO:Con:=⟨12,[.ref [(.list iT),iT],.v iT],[(.list iT),iT,iT],⟨[.v iT],[.ref [(.list iT),iT]]⟩,[iT,(.list iT),iT],Pw.unc3 Pw.j07⟩
def jlf:FnD where
 N:=45
 np:=2
theorem sF:aB pO:=
 cOf aC aF jlf pO Tryz.func12 trivial trivial
def xd:Con:=⟨31,[.ref [(.list iT),iT],.v (.list iT)],[(.list iT),iT,(.list iT)],⟨[.v iT],[.ref [(.list iT),iT]]⟩,[iT,(.list iT),iT],Pw.unc3 Pw.j0W⟩
def jlg:FnD where
 N:=12
 np:=2
 cs:=[pO]
theorem B4:aB xd:=
 cOf aC aF jlg xd Tryz.func31 (ja sF trivial) trivial
def NQ:Con:=⟨117,[.ref [(.list iT),iT],.v .str],[(.list iT),iT,.str],⟨[.v bd],[.ref [(.list iT),iT]]⟩,[bd,(.list iT),iT],Pw.unc3 Pw.j3U⟩
def jlh:FnD where
 N:=98
 np:=2
 cs:=[pO,xd]
 dw:=[(7,[[],[],[0],[],[],[0],[],[0],[],[],[],[],[0],[],[],[],[],[],[],[0],[],[],[3968],[0,3968],[],[0],[],[0],[],[],[],[],[4608],[],[320]]),(9,[[],[],[],[5056],[0,5056],[],[]])]
theorem jkt:aB NQ:=
 cOf aC aF jlh NQ Tryz.func117 (ja sF (ja B4 trivial)) trivial
def I8:Con:=⟨61,[],[],⟨[.own 9 (.list .str)],[]⟩,[(.list .str)],λh=>Pw.jhq⟩
def jrN:FnD where
 N:=2
 np:=0
 ro:=[true]
theorem Yd:aB I8:=
 cOf aC aF jrN I8 Tryz.func61 trivial trivial
def B5:Con:=⟨62,[.ref [(.list iT),iT],.v iT],[(.list iT),iT,iT],⟨[.v .bool],[.ref [(.list iT),iT]]⟩,[.bool,(.list iT),iT],Pw.unc3 Pw.j0N⟩
def jli:FnD where
 N:=11
 np:=2
 cs:=[pO]
theorem I9:aB B5:=
 cOf aC aF jli B5 Tryz.func62 (ja sF trivial) trivial
def Fx:Con:=⟨87,[.ref [(.list iT),iT]],[(.list iT),iT],⟨[.own 109 aa],[.ref [(.list iT),iT]]⟩,[aa,(.list iT),iT],Pw.unc2 Pw.j2J⟩
def jiv:FnD where
 N:=38
 np:=1
 cs:=[pO,xd]
 ds:=[⟨0,[sB 0 0,sO 1000000,sI,sI,.b (.cell [.d (.list iT),.d iT] false),.b (.lst 109 aJ false)],[iT,iT,(.list iT),iT,aa],[⟨.exit 0,[sO 1500100,.b (.cell [.d (.list iT),.d iT] false),.b (.lst 109 aJ false)],[(.list iT),iT,aa]⟩],Pw.unc5 (Pw.j1R)⟩]
 keep:=[(0,⟨[0,3,4,5],[0],[⟨1000000,109,aJ,[.slot 3],false⟩],[]⟩)]
 keepX:=[(0,.exit 0,⟨[3],[0],[⟨1500100,109,aJ,[.slot 3],false⟩],[]⟩)]
 ro:=[true]
theorem NR:aB Fx:=
 cOf aC aF jiv Fx Tryz.func87 (ja sF (ja B4 trivial)) (ja (λh=>by kernel_rfl) trivial)
def NS:Con:=⟨60,[.ref [(.list iT),iT]],[(.list iT),iT],⟨[.vn aY [3]],[.ref [(.list iT),iT]]⟩,[aY,(.list iT),iT],Pw.unc2 Pw.j8Y⟩
def jku:FnD where
 N:=109
 np:=1
 cs:=[pO,xd,NQ,I8,B5,Fx]
 ds:=[⟨0,[sB 0 0,sB 128 0,sB 192 0,sI,.b (.cell [.d (.list iT),.d iT] false),.b (.cell [.nil,.nil,.nil,.nil] false),.b (.cell [.ol 1000000,.nil,.nil,.nil] false),.b (.lst 105 bd false)],[iT,(.list iT),iT,ax],[⟨.exit 0,[sB 0 0,sB 128 0,sB 192 0,.b (.cell [.d (.list iT),.d iT] false),.b (.cell [.nil,.nil,.nil,.nil] false),.b (.cell [.ol 1500100,.nil,.nil,.nil] false),.b (.lst 105 bd false)],[(.list iT),iT,ax]⟩],Pw.unc4 (Pw.j2h)⟩,⟨2,[sB 0 0,sB 128 0,sB 192 0,sI,.b (.cell [.d (.list iT),.d iT] false),.b (.cell [.nil,.nil,.nil,.nil] false),.b (.cell [.ol 1002000,.ol 1002001,.nil,.nil] false),.b (.lst 105 bd false),.b (.lst 107 gn false)],[iT,(.list iT),iT,ax,az],[⟨.exit 2,[sB 0 0,sB 128 0,sB 192 0,.b (.cell [.d (.list iT),.d iT] false),.b (.cell [.nil,.nil,.nil,.nil] false),.b (.cell [.ol 1502300,.ol 1502301,.nil,.nil] false),.b (.lst 105 bd false),.b (.lst 107 gn false)],[(.list iT),iT,ax,az]⟩],Pw.unc5 (Pw.j2i)⟩,⟨4,[sB 0 0,sB 128 0,sB 192 0,sI,.b (.cell [.d (.list iT),.d iT] false),.b (.cell [.nil,.nil,.nil,.nil] false),.b (.cell [.ol 1004000,.ol 1004001,.ol 1004002,.nil] false),.b (.lst 105 bd false),.b (.lst 107 gn false),.b (.lst 111 fL false)],[iT,(.list iT),iT,ax,az,ay],[⟨.exit 4,[sB 128 0,sB 192 0,.b (.cell [.d (.list iT),.d iT] false),.b (.cell [.nil,.nil,.nil,.nil] false),.b (.cell [.ol 1504500,.ol 1504501,.ol 1504502,.nil] false),.b (.lst 105 bd false),.b (.lst 107 gn false),.b (.lst 111 fL false)],[(.list iT),iT,ax,az,ay]⟩],Pw.unc6 (Pw.j1A)⟩,⟨6,[sB 0 0,sB 128 0,sB 192 0,sI,sB 512 0,sI,sI,.b (.cell [.d (.list iT),.d iT] false),.b (.cell [.nil,.nil,.nil,.nil] false),.b (.cell [.ol 1006000,.ol 1006001,.ol 1006002,.nil] false),.b (.cell [.d .str,.d iT,.ol 1006003] false),.b (.lst 105 bd false),.b (.lst 107 gn false),.b (.lst 111 fL false),.b (.lst 3 iT false)],[iT,iT,iT,(.list iT),iT,.str,iT,ax,az,ay,(.list iT)],[⟨.exit 6,[sB 0 0,sB 128 0,sB 192 0,sI,sB 512 0,.b (.cell [.d (.list iT),.d iT] false),.b (.cell [.nil,.nil,.nil,.nil] false),.b (.cell [.ol 1506700,.ol 1506701,.ol 1506702,.nil] false),.b (.cell [.d .str,.d iT,.ol 1506703] false),.b (.lst 105 bd false),.b (.lst 107 gn false),.b (.lst 111 fL false),.b (.lst 3 iT false)],[iT,(.list iT),iT,.str,iT,ax,az,ay,(.list iT)]⟩],Pw.u8 Pw.unc3 (Pw.j2j)⟩]
 keep:=[(0,⟨[0,2,3,4],[0,128,192],[⟨1000000,105,bd,[.cell 192 0],false⟩],[]⟩),(2,⟨[0,2,3,5],[0,128,192],[⟨1002000,105,bd,[.cell 192 0],false⟩,⟨1002001,107,gn,[.cell 192 1],false⟩],[]⟩),(4,⟨[0,2,3,7],[0,128,192],[⟨1004000,105,bd,[.cell 192 0],false⟩,⟨1004001,107,gn,[.cell 192 1],false⟩,⟨1004002,111,fL,[.cell 192 2],false⟩],[]⟩),(6,⟨[0,2,3,7,8,9,10],[0,128,192,512],[⟨1006000,105,bd,[.cell 192 0],false⟩,⟨1006001,107,gn,[.cell 192 1],false⟩,⟨1006002,111,fL,[.cell 192 2],false⟩,⟨1006003,3,iT,[.cell 512 2],false⟩],[]⟩)]
 keepX:=[(0,.exit 0,⟨[0,2,3],[0,128,192],[⟨1500100,105,bd,[.cell 192 0],false⟩],[]⟩),(2,.exit 2,⟨[0,2,3],[0,128,192],[⟨1502300,105,bd,[.cell 192 0],false⟩,⟨1502301,107,gn,[.cell 192 1],false⟩],[]⟩),(4,.exit 4,⟨[2,3],[0,128,192],[⟨1504500,105,bd,[.cell 192 0],false⟩,⟨1504501,107,gn,[.cell 192 1],false⟩,⟨1504502,111,fL,[.cell 192 2],false⟩],[]⟩),(6,.exit 6,⟨[0,2,3,7,8],[0,128,192,512],[⟨1506700,105,bd,[.cell 192 0],false⟩,⟨1506701,107,gn,[.cell 192 1],false⟩,⟨1506702,111,fL,[.cell 192 2],false⟩,⟨1506703,3,iT,[.cell 512 2],false⟩],[]⟩)]
 dw:=[(5,[[],[],[],[1344],[],[],[],[],[],[0],[1792],[1856,1000000],[],[192]]),(9,[[2432],[],[],[],[],[],[],[],[],[],[0],[],[0],[],[384],[384]])]
 ns:=[3]
theorem jjF:aB NS:=
 cOf aC aF jku NS Tryz.func60 (ja sF (ja B4 (ja jkt (ja Yd (ja I9 (ja NR trivial)))))) (ja (λh=>by kernel_rfl) (ja (λh=>by kernel_rfl) (ja (λh=>by kernel_rfl) (ja (λh=>by kernel_rfl) trivial))))
end Go.Proofs.Pk
