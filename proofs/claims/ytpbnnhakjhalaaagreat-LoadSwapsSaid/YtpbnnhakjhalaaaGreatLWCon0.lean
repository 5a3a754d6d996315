/- cC: each given function is its plain function, printed by a program. -/
import Derived.Test.YtpbnnhakjhalaaaGreatLWTab
import Derived.Test.YtpbnnhakjhalaaaGreatLWSrt
noncomputable section
open Go Go.Lft
set_option linter.unusedVariables false
set_option maxRecDepth 100000
namespace Go.Proofs.Pk
abbrev aM:Ty:=(.pair iT iT)
abbrev aa:Ty:=(.list aM)
abbrev wW:Ty:=(.pair aM iT)
abbrev ax:Ty:=(.pair iT aM)
abbrev eV:Ty:=(.pair .str (.pair iT (.list iT)))
abbrev cw:Ty:=(.pair iT aa)
abbrev dX:Ty:=(.list wW)
abbrev ar:Ty:=(.list ax)
abbrev aB:Ty:=(.list eV)
abbrev fU:Ty:=(.list cw)
abbrev gH:Ty:=(.pair iT ax)
abbrev iG:Ty:=(.list gH)
abbrev fm:Ty:=(.pair iT gH)
abbrev bN:Ty:=(.list fm)
abbrev fD:Ty:=(.pair .str (.pair iT (.pair aa (.pair iT (.pair iT .bool)))))
abbrev mI:Ty:=(.pair iT (.pair iT fm))
abbrev aC:Ty:=(.list fD)
abbrev bR:Ty:=(.list mI)
abbrev bS:Ty:=(.pair .str (.pair iT bR))
abbrev ay:Ty:=(.list bS)
abbrev cA:Ty:=(.pair .str (.pair iT (.pair aM (.pair iT (.pair iT (.pair (.list iT) (.pair aa aM)))))))
abbrev bO:Ty:=(.list cA)
abbrev cV:Ty:=(.pair .str (.pair bO bN))
abbrev aK:Ty:=(.list cV)
abbrev bc:Ty:=(.pair ay (.pair aC (.pair aB aK)))
abbrev fo:Ty:=(.pair bc fU)
def J8:Con:=⟨15,[.v (.list iT)],[(.list iT)],⟨[.v .bool],[]⟩,[.bool],λh=>Pw.jhq h⟩
def jo3:FnD where
 N:=6
 np:=1
 cs:=[]
 ds:=[]
 ro:=[false]
theorem jml:Con.OK Tryz.prog J8:=
 cOf aF aG jo3 J8 Tryz.func15 trivial trivial
def yz:Con:=⟨122,[.v ar],[ar],⟨[.v .bool],[]⟩,[.bool],λh=>Pw.j7G h⟩
def jo4:FnD where
 N:=64
 np:=1
 cs:=[]
 ds:=[⟨0,[.s (.one (.d ar)),.s (.one (.d ar)),sI,sI],[ar,ar,iT,iT],[⟨.ret,[.s (.one (.d .bool))],[.bool]⟩,⟨.exit 0,[],[]⟩],Pw.unc4 (Pw.jbl)⟩]
 keep:=[(0,⟨[0,8,9,10],[],[],[]⟩)]
 keepX:=[(0,.ret,⟨[2],[],[],[]⟩),
  (0,.exit 0,⟨[],[],[],[]⟩)]
 ro:=[false]
theorem FB:Con.OK Tryz.prog yz:=
 cOf aF aG jo4 yz Tryz.func122 trivial (j9 (λh=>by kernel_rfl) trivial)
def CD:Con:=⟨196,[.v ar,.v iT],[ar,iT],⟨[.v iT],[]⟩,[iT],Pw.unc2 Pw.j1O⟩
def jjB:FnD where
 N:=20
 np:=2
 cs:=[]
 ds:=[⟨0,[sI,.s (.one (.d ar)),sI,sI],[iT,ar,iT,iT],[⟨.ret,[sI],[iT]⟩,⟨.exit 0,[],[]⟩],Pw.unc4 (Pw.j90)⟩]
 keep:=[(0,⟨[1,7,8,9],[],[],[]⟩)]
 keepX:=[(0,.ret,⟨[4],[],[],[]⟩),
  (0,.exit 0,⟨[],[],[],[]⟩)]
 ro:=[false]
theorem J9:Con.OK Tryz.prog CD:=
 cOf aF aG jjB CD Tryz.func196 trivial (j9 (λh=>by kernel_rfl) trivial)
def FC:Con:=⟨45,[.v ar],[ar],⟨[.v ax],[]⟩,[ax],λh=>Pw.jeK h⟩
def jrP:FnD where
 N:=31
 np:=1
 cs:=[yz]
 ds:=[⟨0,[.s (.one (.bp 128 0)),.s (.one (.bp 192 0)),.s (.one (.d ar)),sI,sI,.b (.cell [.d iT,.d iT,.d iT] false),.b (.cell [.d iT,.d iT,.d iT] false)],[ar,iT,iT,iT,iT,iT,iT,iT,iT],[⟨.exit 0,[.s (.one (.bp 128 0)),.s (.one (.bp 192 0)),.b (.cell [.d iT,.d iT,.d iT] false),.b (.cell [.d iT,.d iT,.d iT] false)],[iT,iT,iT,iT,iT,iT]⟩],Pw.unc9 (Pw.jdv)⟩]
 modes:=[(122,[false])]
 keep:=[(0,⟨[2,3,11,12,13],[128,192],[],[]⟩)]
 keepX:=[(0,.exit 0,⟨[2,3],[128,192],[],[]⟩)]
 ro:=[false]
theorem S9:Con.OK Tryz.prog FC:=
 cOf aF aG jrP FC Tryz.func45 (j9 FB trivial) (j9 (λh=>by kernel_rfl) trivial)
def Ka:Con:=⟨288,[.v iT],[iT],⟨[.v .bool],[]⟩,[.bool],λh=>Pw.jhZ h⟩
def jkm:FnD where
 N:=9
 np:=1
 cs:=[]
 ds:=[]
 ro:=[false]
theorem jjD:Con.OK Tryz.prog Ka:=
 cOf aF aG jkm Ka Tryz.func288 trivial trivial
def Kb:Con:=⟨290,[.v iT],[iT],⟨[.v iT],[]⟩,[iT],λh=>Pw.jlu h⟩
def jo5:FnD where
 N:=8
 np:=1
 cs:=[]
 ds:=[]
 ro:=[false]
theorem jmm:Con.OK Tryz.prog Kb:=
 cOf aF aG jo5 Kb Tryz.func290 trivial trivial
def Kd:Con:=⟨289,[.v iT,.v iT],[iT,iT],⟨[.v iT],[]⟩,[iT],Pw.unc2 Pw.je7⟩
def jpE:FnD where
 N:=12
 np:=2
 cs:=[]
 ds:=[⟨0,[sI,sI],[iT,iT],[⟨.exit 0,[sI],[iT]⟩],Pw.unc2 (Pw.jce)⟩]
 keep:=[(0,⟨[0,1],[],[],[]⟩)]
 keepX:=[(0,.exit 0,⟨[0],[],[],[]⟩)]
 ro:=[false]
theorem jo6:Con.OK Tryz.prog Kd:=
 cOf aF aG jpE Kd Tryz.func289 trivial (j9 (λh=>by kernel_rfl) trivial)
def FD:Con:=⟨195,[.v iT,.v iT],[iT,iT],⟨[.v aM,.v iT],[]⟩,[aM,iT],Pw.unc2 Pw.jcf⟩
def jpF:FnD where
 N:=30
 np:=2
 cs:=[Ka,Kb,Kd]
 ds:=[]
 modes:=[(288,[false]),(289,[false,false]),(290,[false])]
 ro:=[false,false]
 dw:=[(4,[[],[],[],[],[],[],[],[256],[]])]
theorem Ta:Con.OK Tryz.prog FD:=
 cOf aF aG jpF FD Tryz.func195 (j9 jjD (j9 jmm (j9 jo6 trivial))) trivial
def Ke:Con:=⟨112,[.v ar,.v iT],[ar,iT],⟨[.v aM,.v iT],[]⟩,[aM,iT],Pw.unc2 Pw.jcg⟩
def jo7:FnD where
 N:=20
 np:=2
 cs:=[yz,CD,FC,FD]
 ds:=[]
 modes:=[(45,[false]),(122,[false]),(195,[false,false]),(196,[false,false])]
 ro:=[false,false]
theorem jmn:Con.OK Tryz.prog Ke:=
 cOf aF aG jo7 Ke Tryz.func112 (j9 FB (j9 J9 (j9 S9 (j9 Ta trivial)))) trivial
def Kf:Con:=⟨113,[.v ar,.v (.list iT)],[ar,(.list iT)],⟨[.v aM,.v iT],[]⟩,[aM,iT],Pw.unc2 Pw.jea⟩
def jpG:FnD where
 N:=68
 np:=2
 cs:=[yz,CD,FD]
 ds:=[⟨1,[.s (.one (.d ar)),.s (.one (.d (.list iT))),.s (.one (.bp 256 0)),sI,.s (.one (.d (.list iT))),sI,sI,.b (.cell [.d iT,.d iT] false)],[ar,(.list iT),iT,(.list iT),iT,iT,iT,iT],[⟨.exit 1,[.s (.one (.d ar)),.s (.one (.d (.list iT))),.s (.one (.bp 256 0)),sI,.b (.cell [.d iT,.d iT] false)],[ar,(.list iT),iT,iT,iT]⟩],Pw.unc8 (Pw.j4R)⟩,
  ⟨4,[.s (.one (.d ar)),.s (.one (.d (.list iT))),.s (.one (.bp 256 0)),sI,sI,.s (.one (.d (.list iT))),sI,sI,.b (.cell [.d iT,.d iT] false)],[ar,(.list iT),iT,iT,(.list iT),iT,iT,iT,iT],[⟨.exit 4,[.s (.one (.d (.list iT))),.s (.one (.bp 256 0)),sI,sI,.b (.cell [.d iT,.d iT] false)],[(.list iT),iT,iT,iT,iT]⟩],Pw.unc9 (Pw.j4S)⟩]
 modes:=[(122,[false]),(195,[false,false]),(196,[false,false])]
 keep:=[(1,⟨[0,1,4,6,22,23,24],[256],[],[]⟩),
  (4,⟨[0,1,4,6,9,42,43,44],[256],[],[]⟩)]
 keepX:=[(1,.exit 1,⟨[0,1,4,6],[256],[],[]⟩),
  (4,.exit 4,⟨[1,4,6,9],[256],[],[]⟩)]
 ro:=[false,false]
theorem jo8:Con.OK Tryz.prog Kf:=
 cOf aF aG jpG Kf Tryz.func113 (j9 FB (j9 J9 (j9 Ta trivial))) (j9 (λh=>by kernel_rfl) (j9 (λh=>by kernel_rfl) trivial))
def Kg:Con:=⟨114,[.v ar,.v (.list iT)],[ar,(.list iT)],⟨[.v iT],[]⟩,[iT],Pw.unc2 Pw.jao⟩
def jmo:FnD where
 N:=47
 np:=2
 cs:=[yz,CD]
 ds:=[⟨0,[.s (.one (.d ar)),sI,sI,.s (.one (.d (.list iT))),sI,sI],[ar,iT,iT,(.list iT),iT,iT],[⟨.exit 0,[sI,sI],[iT,iT]⟩],Pw.unc6 (Pw.j3I)⟩]
 modes:=[(122,[false]),(196,[false,false])]
 keep:=[(0,⟨[0,5,6,27,28,29],[],[],[]⟩)]
 keepX:=[(0,.exit 0,⟨[5,6],[],[],[]⟩)]
 ro:=[false]
theorem jkn:Con.OK Tryz.prog Kg:=
 cOf aF aG jmo Kg Tryz.func114 (j9 FB (j9 J9 trivial)) (j9 (λh=>by kernel_rfl) trivial)
def Kh:Con:=⟨41,[],[],⟨[.v .bool],[]⟩,[.bool],λh=>Pw.j7H⟩
def jo9:FnD where
 N:=48
 np:=0
 cs:=[FC,Ke,Kf,Kg]
 ds:=[]
 modes:=[(45,[false]),(112,[false,false]),(113,[false,false]),(114,[false,false])]
 ro:=[false]
theorem jmp:Con.OK Tryz.prog Kh:=
 cOf aF aG jo9 Kh Tryz.func41 (j9 S9 (j9 jmn (j9 jo8 (j9 jkn trivial)))) trivial
def Ki:Con:=⟨17,[.v (.list iT)],[(.list iT)],⟨[.box [(.list iT),iT]],[]⟩,[(.list iT),iT],λh=>Pw.jjy h⟩
def jpH:FnD where
 N:=6
 np:=1
 cs:=[]
 ds:=[]
 ro:=[false]
theorem joa:Con.OK Tryz.prog Ki:=
 cOf aF aG jpH Ki Tryz.func17 trivial trivial
def oH:Con:=⟨27,[.ref [(.list iT),iT],.v iT],[(.list iT),iT,iT],⟨[.v iT],[.ref [(.list iT),iT]]⟩,[iT,(.list iT),iT],Pw.unc3 Pw.j05⟩
def jia:FnD where
 N:=45
 np:=2
 cs:=[]
 ds:=[]
 ro:=[false]
theorem rm:Con.OK Tryz.prog oH:=
 cOf aF aG jia oH Tryz.func27 trivial trivial
def uB:Con:=⟨32,[.ref [(.list iT),iT],.v (.list iT)],[(.list iT),iT,(.list iT)],⟨[.v iT],[.ref [(.list iT),iT]]⟩,[iT,(.list iT),iT],Pw.unc3 Pw.j0V⟩
def jib:FnD where
 N:=12
 np:=2
 cs:=[oH]
 ds:=[]
 modes:=[(27,[false,false])]
 ro:=[false]
theorem yA:Con.OK Tryz.prog uB:=
 cOf aF aG jib uB Tryz.func32 (j9 rm trivial) trivial
def Kj:Con:=⟨147,[.ref [(.list iT),iT],.v .str],[(.list iT),iT,.str],⟨[.v bS],[.ref [(.list iT),iT]]⟩,[bS,(.list iT),iT],Pw.unc3 Pw.j3C⟩
def jic:FnD where
 N:=98
 np:=2
 cs:=[oH,uB]
 ds:=[]
 modes:=[(27,[false,false]),(32,[false,false])]
 ro:=[false]
 dw:=[(7,[[],[],[0],[],[],[0],[],[0],[],[],[],[],[0],[],[],[],[],[],[],[0],[],[],[3968],[0,3968],[],[0],[],[0],[],[],[],[],[4608],[],[320]]),(9,[[],[],[],[5056],[0,5056],[],[]])]
theorem jhv:Con.OK Tryz.prog Kj:=
 cOf aF aG jic Kj Tryz.func147 (j9 rm (j9 yA trivial)) trivial
def FE:Con:=⟨67,[],[],⟨[.own 9 (.list .str)],[]⟩,[(.list .str)],λh=>Pw.jeL⟩
def job:FnD where
 N:=2
 np:=0
 cs:=[]
 ds:=[]
 ro:=[true]
theorem Tb:Con.OK Tryz.prog FE:=
 cOf aF aG job FE Tryz.func67 trivial trivial
def yB:Con:=⟨74,[.ref [(.list iT),iT],.v iT],[(.list iT),iT,iT],⟨[.v .bool],[.ref [(.list iT),iT]]⟩,[.bool,(.list iT),iT],Pw.unc3 Pw.j0K⟩
def jid:FnD where
 N:=11
 np:=2
 cs:=[oH]
 ds:=[]
 modes:=[(27,[false,false])]
 ro:=[false]
theorem FF:Con.OK Tryz.prog yB:=
 cOf aF aG jid yB Tryz.func74 (j9 rm trivial) trivial
def FG:Con:=⟨121,[.ref [(.list iT),iT]],[(.list iT),iT],⟨[.own 182 aa],[.ref [(.list iT),iT]]⟩,[aa,(.list iT),iT],Pw.unc2 Pw.j3F⟩
def jfD:FnD where
 N:=38
 np:=1
 cs:=[oH,uB]
 ds:=[⟨0,[.s (.one (.bp 0 0)),.s (.one (.ol 1000000)),sI,sI,.b (.cell [.d (.list iT),.d iT] false),.b (.lst 182 aM false)],[iT,iT,(.list iT),iT,aa],[⟨.exit 0,[.s (.one (.ol 1500100)),.b (.cell [.d (.list iT),.d iT] false),.b (.lst 182 aM false)],[(.list iT),iT,aa]⟩],Pw.unc5 (Pw.j1J)⟩]
 modes:=[(27,[false,false]),(32,[false,false])]
 keep:=[(0,⟨[0,3,4,5],[0],[⟨1000000,182,aM,[.slot 3],false⟩],[]⟩)]
 keepX:=[(0,.exit 0,⟨[3],[0],[⟨1500100,182,aM,[.slot 3],false⟩],[]⟩)]
 ro:=[true]
theorem Tc:Con.OK Tryz.prog FG:=
 cOf aF aG jfD FG Tryz.func121 (j9 rm (j9 yA trivial)) (j9 (λh=>by kernel_rfl) trivial)
def Kk:Con:=⟨65,[.ref [(.list iT),iT]],[(.list iT),iT],⟨[.vn bc [3]],[.ref [(.list iT),iT]]⟩,[bc,(.list iT),iT],Pw.unc2 Pw.j7S⟩
def jhw:FnD where
 N:=109
 np:=1
 cs:=[oH,uB,Kj,FE,yB,FG]
 ds:=[⟨0,[.s (.one (.bp 0 0)),.s (.one (.bp 128 0)),.s (.one (.bp 192 0)),sI,.b (.cell [.d (.list iT),.d iT] false),.b (.cell [.nil,.nil,.nil,.nil] false),.b (.cell [.ol 1000000,.nil,.nil,.nil] false),.b (.lst 68 bS false)],[iT,(.list iT),iT,ay],[⟨.exit 0,[.s (.one (.bp 0 0)),.s (.one (.bp 128 0)),.s (.one (.bp 192 0)),.b (.cell [.d (.list iT),.d iT] false),.b (.cell [.nil,.nil,.nil,.nil] false),.b (.cell [.ol 1500100,.nil,.nil,.nil] false),.b (.lst 68 bS false)],[(.list iT),iT,ay]⟩],Pw.unc4 (Pw.j2c)⟩,
  ⟨2,[.s (.one (.bp 0 0)),.s (.one (.bp 128 0)),.s (.one (.bp 192 0)),sI,.b (.cell [.d (.list iT),.d iT] false),.b (.cell [.nil,.nil,.nil,.nil] false),.b (.cell [.ol 1002000,.ol 1002001,.nil,.nil] false),.b (.lst 68 bS false),.b (.lst 71 fD false)],[iT,(.list iT),iT,ay,aC],[⟨.exit 2,[.s (.one (.bp 0 0)),.s (.one (.bp 128 0)),.s (.one (.bp 192 0)),.b (.cell [.d (.list iT),.d iT] false),.b (.cell [.nil,.nil,.nil,.nil] false),.b (.cell [.ol 1502300,.ol 1502301,.nil,.nil] false),.b (.lst 68 bS false),.b (.lst 71 fD false)],[(.list iT),iT,ay,aC]⟩],Pw.unc5 (Pw.j2d)⟩,
  ⟨4,[.s (.one (.bp 0 0)),.s (.one (.bp 128 0)),.s (.one (.bp 192 0)),sI,.b (.cell [.d (.list iT),.d iT] false),.b (.cell [.nil,.nil,.nil,.nil] false),.b (.cell [.ol 1004000,.ol 1004001,.ol 1004002,.nil] false),.b (.lst 68 bS false),.b (.lst 71 fD false),.b (.lst 120 eV false)],[iT,(.list iT),iT,ay,aC,aB],[⟨.exit 4,[.s (.one (.bp 128 0)),.s (.one (.bp 192 0)),.b (.cell [.d (.list iT),.d iT] false),.b (.cell [.nil,.nil,.nil,.nil] false),.b (.cell [.ol 1504500,.ol 1504501,.ol 1504502,.nil] false),.b (.lst 68 bS false),.b (.lst 71 fD false),.b (.lst 120 eV false)],[(.list iT),iT,ay,aC,aB]⟩],Pw.unc6 (Pw.j1t)⟩,
  ⟨6,[.s (.one (.bp 0 0)),.s (.one (.bp 128 0)),.s (.one (.bp 192 0)),sI,.s (.one (.bp 512 0)),sI,sI,.b (.cell [.d (.list iT),.d iT] false),.b (.cell [.nil,.nil,.nil,.nil] false),.b (.cell [.ol 1006000,.ol 1006001,.ol 1006002,.nil] false),.b (.cell [.d .str,.d iT,.ol 1006003] false),.b (.lst 68 bS false),.b (.lst 71 fD false),.b (.lst 120 eV false),.b (.lst 3 iT false)],[iT,iT,iT,(.list iT),iT,.str,iT,ay,aC,aB,(.list iT)],[⟨.exit 6,[.s (.one (.bp 0 0)),.s (.one (.bp 128 0)),.s (.one (.bp 192 0)),sI,.s (.one (.bp 512 0)),.b (.cell [.d (.list iT),.d iT] false),.b (.cell [.nil,.nil,.nil,.nil] false),.b (.cell [.ol 1506700,.ol 1506701,.ol 1506702,.nil] false),.b (.cell [.d .str,.d iT,.ol 1506703] false),.b (.lst 68 bS false),.b (.lst 71 fD false),.b (.lst 120 eV false),.b (.lst 3 iT false)],[iT,(.list iT),iT,.str,iT,ay,aC,aB,(.list iT)]⟩],Pw.jrO (Pw.j2e)⟩]
 modes:=[(27,[false,false]),(32,[false,false]),(67,[]),(74,[false,false]),(121,[false]),(147,[false,false])]
 keep:=[(0,⟨[0,2,3,4],[0,128,192],[⟨1000000,68,bS,[.cell 192 0],false⟩],[]⟩),
  (2,⟨[0,2,3,5],[0,128,192],[⟨1002000,68,bS,[.cell 192 0],false⟩,⟨1002001,71,fD,[.cell 192 1],false⟩],[]⟩),
  (4,⟨[0,2,3,7],[0,128,192],[⟨1004000,68,bS,[.cell 192 0],false⟩,⟨1004001,71,fD,[.cell 192 1],false⟩,⟨1004002,120,eV,[.cell 192 2],false⟩],[]⟩),
  (6,⟨[0,2,3,7,8,9,10],[0,128,192,512],[⟨1006000,68,bS,[.cell 192 0],false⟩,⟨1006001,71,fD,[.cell 192 1],false⟩,⟨1006002,120,eV,[.cell 192 2],false⟩,⟨1006003,3,iT,[.cell 512 2],false⟩],[]⟩)]
 keepX:=[(0,.exit 0,⟨[0,2,3],[0,128,192],[⟨1500100,68,bS,[.cell 192 0],false⟩],[]⟩),
  (2,.exit 2,⟨[0,2,3],[0,128,192],[⟨1502300,68,bS,[.cell 192 0],false⟩,⟨1502301,71,fD,[.cell 192 1],false⟩],[]⟩),
  (4,.exit 4,⟨[2,3],[0,128,192],[⟨1504500,68,bS,[.cell 192 0],false⟩,⟨1504501,71,fD,[.cell 192 1],false⟩,⟨1504502,120,eV,[.cell 192 2],false⟩],[]⟩),
  (6,.exit 6,⟨[0,2,3,7,8],[0,128,192,512],[⟨1506700,68,bS,[.cell 192 0],false⟩,⟨1506701,71,fD,[.cell 192 1],false⟩,⟨1506702,120,eV,[.cell 192 2],false⟩,⟨1506703,3,iT,[.cell 512 2],false⟩],[]⟩)]
 ro:=[false]
 dw:=[(5,[[],[],[],[1344],[],[],[],[],[],[0],[1792],[1856,1000000],[],[192]]),(9,[[2432],[],[],[],[],[],[],[],[],[],[0],[],[0],[],[384],[384]])]
 ns:=[3]
theorem jgG:Con.OK Tryz.prog Kk:=
 cOf aF aG jhw Kk Tryz.func65 (j9 rm (j9 yA (j9 jhv (j9 Tb (j9 FF (j9 Tc trivial)))))) (j9 (λh=>by kernel_rfl) (j9 (λh=>by kernel_rfl) (j9 (λh=>by kernel_rfl) (j9 (λh=>by kernel_rfl) trivial))))
end Go.Proofs.Pk
