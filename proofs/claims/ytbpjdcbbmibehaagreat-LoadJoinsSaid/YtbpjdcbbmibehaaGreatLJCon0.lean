/- cL: each given function is its plain function, printed by a program. -/
import Derived.Test.YtbpjdcbbmibehaaGreatLJTab
import Derived.Test.YtbpjdcbbmibehaaGreatLJSrt
noncomputable section
open Go Go.Lft
set_option linter.unusedVariables false
set_option maxRecDepth 100000
namespace Go.Proofs.Pk
abbrev aF:Ty:=(.pair iT iT)
abbrev aa:Ty:=(.list aF)
abbrev nP:Ty:=(.pair aF iT)
abbrev ar:Ty:=(.pair iT aF)
abbrev fy:Ty:=(.pair .str (.pair iT (.list iT)))
abbrev cG:Ty:=(.pair iT aa)
abbrev dr:Ty:=(.list nP)
abbrev ai:Ty:=(.list ar)
abbrev aR:Ty:=(.list fy)
abbrev gE:Ty:=(.list cG)
abbrev jK:Ty:=(.list ai)
abbrev eZ:Ty:=(.pair iT ar)
abbrev gT:Ty:=(.list eZ)
abbrev ie:Ty:=(.pair iT eZ)
abbrev cH:Ty:=(.list ie)
abbrev gg:Ty:=(.pair .str (.pair iT (.pair aa (.pair iT (.pair iT .bool)))))
abbrev nQ:Ty:=(.pair iT (.pair iT ie))
abbrev aS:Ty:=(.list gg)
abbrev bZ:Ty:=(.list nQ)
abbrev cm:Ty:=(.pair .str (.pair iT bZ))
abbrev aK:Ty:=(.list cm)
abbrev cX:Ty:=(.pair .str (.pair iT (.pair aF (.pair iT (.pair iT (.pair (.list iT) (.pair aa aF)))))))
abbrev cp:Ty:=(.list cX)
abbrev dp:Ty:=(.pair .str (.pair cp cH))
abbrev aZ:Ty:=(.list dp)
abbrev ct:Ty:=(.pair aK (.pair aS (.pair aR aZ)))
abbrev fP:Ty:=(.pair ct gE)
def MA:Con:=⟨10,[.v (.list iT)],[(.list iT)],⟨[.v .bool],[]⟩,[.bool],λh=>Pw.jh5 h⟩
def jnZ:FnD where
 N:=6
 np:=1
 cs:=[]
 ds:=[]
 ro:=[false]
theorem jmc:Con.OK Tryz.prog MA:=
 cOf aC aD jnZ MA Tryz.func10 trivial trivial
def yK:Con:=⟨79,[.v ai],[ai],⟨[.v .bool],[]⟩,[.bool],λh=>Pw.j4j h⟩
def jo0:FnD where
 N:=64
 np:=1
 cs:=[]
 ds:=[⟨0,[.s (.one (.d ai)),.s (.one (.d ai)),sI,sI],[ai,ai,iT,iT],[⟨.ret,[.s (.one (.d .bool))],[.bool]⟩,⟨.exit 0,[],[]⟩],Pw.unc4 (Pw.j4m)⟩]
 keep:=[(0,⟨[0,8,9,10],[],[],[]⟩)]
 keepX:=[(0,.ret,⟨[2],[],[],[]⟩),
  (0,.exit 0,⟨[],[],[],[]⟩)]
 ro:=[false]
theorem Ez:Con.OK Tryz.prog yK:=
 cOf aC aD jo0 yK Tryz.func79 trivial (j9 (λh=>by kernel_rfl) trivial)
def EA:Con:=⟨132,[.v ai,.v iT],[ai,iT],⟨[.v iT],[]⟩,[iT],Pw.unc2 Pw.j21⟩
def jji:FnD where
 N:=20
 np:=2
 cs:=[]
 ds:=[⟨0,[sI,.s (.one (.d ai)),sI,sI],[iT,ai,iT,iT],[⟨.ret,[sI],[iT]⟩,⟨.exit 0,[],[]⟩],Pw.unc4 (Pw.j9b)⟩]
 keep:=[(0,⟨[1,7,8,9],[],[],[]⟩)]
 keepX:=[(0,.ret,⟨[4],[],[],[]⟩),
  (0,.exit 0,⟨[],[],[],[]⟩)]
 ro:=[false]
theorem MB:Con.OK Tryz.prog EA:=
 cOf aC aD jji EA Tryz.func132 trivial (j9 (λh=>by kernel_rfl) trivial)
def HT:Con:=⟨22,[.v ai],[ai],⟨[.v ar],[]⟩,[ar],λh=>Pw.jeu h⟩
def jrL:FnD where
 N:=31
 np:=1
 cs:=[yK]
 ds:=[⟨0,[.s (.one (.bp 128 0)),.s (.one (.bp 192 0)),.s (.one (.d ai)),sI,sI,.b (.cell [.d iT,.d iT,.d iT] false),.b (.cell [.d iT,.d iT,.d iT] false)],[ai,iT,iT,iT,iT,iT,iT,iT,iT],[⟨.exit 0,[.s (.one (.bp 128 0)),.s (.one (.bp 192 0)),.b (.cell [.d iT,.d iT,.d iT] false),.b (.cell [.d iT,.d iT,.d iT] false)],[iT,iT,iT,iT,iT,iT]⟩],Pw.unc9 (Pw.jdi)⟩]
 modes:=[(79,[false])]
 keep:=[(0,⟨[2,3,11,12,13],[128,192],[],[]⟩)]
 keepX:=[(0,.exit 0,⟨[2,3],[128,192],[],[]⟩)]
 ro:=[false]
theorem Vw:Con.OK Tryz.prog HT:=
 cOf aC aD jrL HT Tryz.func22 (j9 Ez trivial) (j9 (λh=>by kernel_rfl) trivial)
def MC:Con:=⟨192,[.v iT],[iT],⟨[.v .bool],[]⟩,[.bool],λh=>Pw.jhH h⟩
def jk7:FnD where
 N:=9
 np:=1
 cs:=[]
 ds:=[]
 ro:=[false]
theorem jjk:Con.OK Tryz.prog MC:=
 cOf aC aD jk7 MC Tryz.func192 trivial trivial
def MD:Con:=⟨194,[.v iT],[iT],⟨[.v iT],[]⟩,[iT],λh=>Pw.jlc h⟩
def jo1:FnD where
 N:=8
 np:=1
 cs:=[]
 ds:=[]
 ro:=[false]
theorem jmd:Con.OK Tryz.prog MD:=
 cOf aC aD jo1 MD Tryz.func194 trivial trivial
def ME:Con:=⟨193,[.v iT,.v iT],[iT,iT],⟨[.v iT],[]⟩,[iT],Pw.unc2 Pw.jdX⟩
def jpy:FnD where
 N:=12
 np:=2
 cs:=[]
 ds:=[⟨0,[sI,sI],[iT,iT],[⟨.exit 0,[sI],[iT]⟩],Pw.unc2 (Pw.jc5)⟩]
 keep:=[(0,⟨[0,1],[],[],[]⟩)]
 keepX:=[(0,.exit 0,⟨[0],[],[],[]⟩)]
 ro:=[false]
theorem jo2:Con.OK Tryz.prog ME:=
 cOf aC aD jpy ME Tryz.func193 trivial (j9 (λh=>by kernel_rfl) trivial)
def HU:Con:=⟨131,[.v iT,.v iT],[iT,iT],⟨[.v aF,.v iT],[]⟩,[aF,iT],Pw.unc2 Pw.jc6⟩
def jpz:FnD where
 N:=30
 np:=2
 cs:=[MC,MD,ME]
 ds:=[]
 modes:=[(192,[false]),(193,[false,false]),(194,[false])]
 ro:=[false,false]
 dw:=[(4,[[],[],[],[],[],[],[],[256],[]])]
theorem Vx:Con.OK Tryz.prog HU:=
 cOf aC aD jpz HU Tryz.func131 (j9 jjk (j9 jmd (j9 jo2 trivial))) trivial
def MF:Con:=⟨63,[.v ai,.v iT],[ai,iT],⟨[.v aF,.v iT],[]⟩,[aF,iT],Pw.unc2 Pw.jc7⟩
def jo3:FnD where
 N:=20
 np:=2
 cs:=[yK,EA,HT,HU]
 ds:=[]
 modes:=[(22,[false]),(79,[false]),(131,[false,false]),(132,[false,false])]
 ro:=[false,false]
theorem jme:Con.OK Tryz.prog MF:=
 cOf aC aD jo3 MF Tryz.func63 (j9 Ez (j9 MB (j9 Vw (j9 Vx trivial)))) trivial
def MG:Con:=⟨64,[.v ai,.v (.list iT)],[ai,(.list iT)],⟨[.v aF,.v iT],[]⟩,[aF,iT],Pw.unc2 Pw.je0⟩
def jpA:FnD where
 N:=68
 np:=2
 cs:=[yK,EA,HU]
 ds:=[⟨1,[.s (.one (.d ai)),.s (.one (.d (.list iT))),.s (.one (.bp 256 0)),sI,.s (.one (.d (.list iT))),sI,sI,.b (.cell [.d iT,.d iT] false)],[ai,(.list iT),iT,(.list iT),iT,iT,iT,iT],[⟨.exit 1,[.s (.one (.d ai)),.s (.one (.d (.list iT))),.s (.one (.bp 256 0)),sI,.b (.cell [.d iT,.d iT] false)],[ai,(.list iT),iT,iT,iT]⟩],Pw.unc8 (Pw.j4X)⟩,
  ⟨4,[.s (.one (.d ai)),.s (.one (.d (.list iT))),.s (.one (.bp 256 0)),sI,sI,.s (.one (.d (.list iT))),sI,sI,.b (.cell [.d iT,.d iT] false)],[ai,(.list iT),iT,iT,(.list iT),iT,iT,iT,iT],[⟨.exit 4,[.s (.one (.d (.list iT))),.s (.one (.bp 256 0)),sI,sI,.b (.cell [.d iT,.d iT] false)],[(.list iT),iT,iT,iT,iT]⟩],Pw.unc9 (Pw.j4Y)⟩]
 modes:=[(79,[false]),(131,[false,false]),(132,[false,false])]
 keep:=[(1,⟨[0,1,4,6,22,23,24],[256],[],[]⟩),
  (4,⟨[0,1,4,6,9,42,43,44],[256],[],[]⟩)]
 keepX:=[(1,.exit 1,⟨[0,1,4,6],[256],[],[]⟩),
  (4,.exit 4,⟨[1,4,6,9],[256],[],[]⟩)]
 ro:=[false,false]
theorem jo4:Con.OK Tryz.prog MG:=
 cOf aC aD jpA MG Tryz.func64 (j9 Ez (j9 MB (j9 Vx trivial))) (j9 (λh=>by kernel_rfl) (j9 (λh=>by kernel_rfl) trivial))
def MH:Con:=⟨65,[.v ai,.v (.list iT)],[ai,(.list iT)],⟨[.v iT],[]⟩,[iT],Pw.unc2 Pw.jau⟩
def jmf:FnD where
 N:=47
 np:=2
 cs:=[yK,EA]
 ds:=[⟨0,[.s (.one (.d ai)),sI,sI,.s (.one (.d (.list iT))),sI,sI],[ai,iT,iT,(.list iT),iT,iT],[⟨.exit 0,[sI,sI],[iT,iT]⟩],Pw.unc6 (Pw.j3S)⟩]
 modes:=[(79,[false]),(132,[false,false])]
 keep:=[(0,⟨[0,5,6,27,28,29],[],[],[]⟩)]
 keepX:=[(0,.exit 0,⟨[5,6],[],[],[]⟩)]
 ro:=[false]
theorem jk8:Con.OK Tryz.prog MH:=
 cOf aC aD jmf MH Tryz.func65 (j9 Ez (j9 MB trivial)) (j9 (λh=>by kernel_rfl) trivial)
def MI:Con:=⟨11,[],[],⟨[.v .bool],[]⟩,[.bool],λh=>Pw.j8M⟩
def jo5:FnD where
 N:=48
 np:=0
 cs:=[HT,MF,MG,MH]
 ds:=[]
 modes:=[(22,[false]),(63,[false,false]),(64,[false,false]),(65,[false,false])]
 ro:=[false]
theorem jmg:Con.OK Tryz.prog MI:=
 cOf aC aD jo5 MI Tryz.func11 (j9 Vw (j9 jme (j9 jo4 (j9 jk8 trivial)))) trivial
def MJ:Con:=⟨12,[.v (.list iT)],[(.list iT)],⟨[.box [(.list iT),iT]],[]⟩,[(.list iT),iT],λh=>Pw.jjg h⟩
def jpB:FnD where
 N:=6
 np:=1
 cs:=[]
 ds:=[]
 ro:=[false]
theorem jo6:Con.OK Tryz.prog MJ:=
 cOf aC aD jpB MJ Tryz.func12 trivial trivial
def pk:Con:=⟨16,[.ref [(.list iT),iT],.v iT],[(.list iT),iT,iT],⟨[.v iT],[.ref [(.list iT),iT]]⟩,[iT,(.list iT),iT],Pw.unc3 Pw.j04⟩
def jhQ:FnD where
 N:=45
 np:=2
 cs:=[]
 ds:=[]
 ro:=[false]
theorem rX:Con.OK Tryz.prog pk:=
 cOf aC aD jhQ pk Tryz.func16 trivial trivial
def wL:Con:=⟨33,[.ref [(.list iT),iT],.v (.list iT)],[(.list iT),iT,(.list iT)],⟨[.v iT],[.ref [(.list iT),iT]]⟩,[iT,(.list iT),iT],Pw.unc3 Pw.j11⟩
def jhR:FnD where
 N:=12
 np:=2
 cs:=[pk]
 ds:=[]
 modes:=[(16,[false,false])]
 ro:=[false]
theorem Bj:Con.OK Tryz.prog wL:=
 cOf aC aD jhR wL Tryz.func33 (j9 rX trivial) trivial
def MK:Con:=⟨48,[.ref [(.list iT),iT],.v .str],[(.list iT),iT,.str],⟨[.v cm],[.ref [(.list iT),iT]]⟩,[cm,(.list iT),iT],Pw.unc3 Pw.j3O⟩
def jhS:FnD where
 N:=98
 np:=2
 cs:=[pk,wL]
 ds:=[]
 modes:=[(16,[false,false]),(33,[false,false])]
 ro:=[false]
 dw:=[(7,[[],[],[0],[],[],[0],[],[0],[],[],[],[],[0],[],[],[],[],[],[],[0],[],[],[3968],[0,3968],[],[0],[],[0],[],[],[],[],[4608],[],[320]]),(9,[[],[],[],[5056],[0,5056],[],[]])]
theorem jh9:Con.OK Tryz.prog MK:=
 cOf aC aD jhS MK Tryz.func48 (j9 rX (j9 Bj trivial)) trivial
def HV:Con:=⟨68,[],[],⟨[.own 9 (.list .str)],[]⟩,[(.list .str)],λh=>Pw.jev⟩
def jo7:FnD where
 N:=2
 np:=0
 cs:=[]
 ds:=[]
 ro:=[true]
theorem Vy:Con.OK Tryz.prog HV:=
 cOf aC aD jo7 HV Tryz.func68 trivial trivial
def Bl:Con:=⟨70,[.ref [(.list iT),iT],.v iT],[(.list iT),iT,iT],⟨[.v .bool],[.ref [(.list iT),iT]]⟩,[.bool,(.list iT),iT],Pw.unc3 Pw.j0N⟩
def jhT:FnD where
 N:=11
 np:=2
 cs:=[pk]
 ds:=[]
 modes:=[(16,[false,false])]
 ro:=[false]
theorem HW:Con.OK Tryz.prog Bl:=
 cOf aC aD jhT Bl Tryz.func70 (j9 rX trivial) trivial
def EB:Con:=⟨49,[.ref [(.list iT),iT]],[(.list iT),iT],⟨[.own 99 aa],[.ref [(.list iT),iT]]⟩,[aa,(.list iT),iT],Pw.unc2 Pw.j2N⟩
def jfk:FnD where
 N:=38
 np:=1
 cs:=[pk,wL]
 ds:=[⟨0,[.s (.one (.bp 0 0)),.s (.one (.ol 1000000)),sI,sI,.b (.cell [.d (.list iT),.d iT] false),.b (.lst 99 aF false)],[iT,iT,(.list iT),iT,aa],[⟨.exit 0,[.s (.one (.ol 1500100)),.b (.cell [.d (.list iT),.d iT] false),.b (.lst 99 aF false)],[(.list iT),iT,aa]⟩],Pw.unc5 (Pw.j1V)⟩]
 modes:=[(16,[false,false]),(33,[false,false])]
 keep:=[(0,⟨[0,3,4,5],[0],[⟨1000000,99,aF,[.slot 3],false⟩],[]⟩)]
 keepX:=[(0,.exit 0,⟨[3],[0],[⟨1500100,99,aF,[.slot 3],false⟩],[]⟩)]
 ro:=[true]
theorem ML:Con.OK Tryz.prog EB:=
 cOf aC aD jfk EB Tryz.func49 (j9 rX (j9 Bj trivial)) (j9 (λh=>by kernel_rfl) trivial)
def MM:Con:=⟨66,[.ref [(.list iT),iT]],[(.list iT),iT],⟨[.vn ct [3]],[.ref [(.list iT),iT]]⟩,[ct,(.list iT),iT],Pw.unc2 Pw.j7V⟩
def jha:FnD where
 N:=109
 np:=1
 cs:=[pk,wL,MK,HV,Bl,EB]
 ds:=[⟨0,[.s (.one (.bp 0 0)),.s (.one (.bp 128 0)),.s (.one (.bp 192 0)),sI,.b (.cell [.d (.list iT),.d iT] false),.b (.cell [.nil,.nil,.nil,.nil] false),.b (.cell [.ol 1000000,.nil,.nil,.nil] false),.b (.lst 63 cm false)],[iT,(.list iT),iT,aK],[⟨.exit 0,[.s (.one (.bp 0 0)),.s (.one (.bp 128 0)),.s (.one (.bp 192 0)),.b (.cell [.d (.list iT),.d iT] false),.b (.cell [.nil,.nil,.nil,.nil] false),.b (.cell [.ol 1500100,.nil,.nil,.nil] false),.b (.lst 63 cm false)],[(.list iT),iT,aK]⟩],Pw.unc4 (Pw.j2q)⟩,
  ⟨2,[.s (.one (.bp 0 0)),.s (.one (.bp 128 0)),.s (.one (.bp 192 0)),sI,.b (.cell [.d (.list iT),.d iT] false),.b (.cell [.nil,.nil,.nil,.nil] false),.b (.cell [.ol 1002000,.ol 1002001,.nil,.nil] false),.b (.lst 63 cm false),.b (.lst 66 gg false)],[iT,(.list iT),iT,aK,aS],[⟨.exit 2,[.s (.one (.bp 0 0)),.s (.one (.bp 128 0)),.s (.one (.bp 192 0)),.b (.cell [.d (.list iT),.d iT] false),.b (.cell [.nil,.nil,.nil,.nil] false),.b (.cell [.ol 1502300,.ol 1502301,.nil,.nil] false),.b (.lst 63 cm false),.b (.lst 66 gg false)],[(.list iT),iT,aK,aS]⟩],Pw.unc5 (Pw.j2r)⟩,
  ⟨4,[.s (.one (.bp 0 0)),.s (.one (.bp 128 0)),.s (.one (.bp 192 0)),sI,.b (.cell [.d (.list iT),.d iT] false),.b (.cell [.nil,.nil,.nil,.nil] false),.b (.cell [.ol 1004000,.ol 1004001,.ol 1004002,.nil] false),.b (.lst 63 cm false),.b (.lst 66 gg false),.b (.lst 205 fy false)],[iT,(.list iT),iT,aK,aS,aR],[⟨.exit 4,[.s (.one (.bp 128 0)),.s (.one (.bp 192 0)),.b (.cell [.d (.list iT),.d iT] false),.b (.cell [.nil,.nil,.nil,.nil] false),.b (.cell [.ol 1504500,.ol 1504501,.ol 1504502,.nil] false),.b (.lst 63 cm false),.b (.lst 66 gg false),.b (.lst 205 fy false)],[(.list iT),iT,aK,aS,aR]⟩],Pw.unc6 (Pw.j1C)⟩,
  ⟨6,[.s (.one (.bp 0 0)),.s (.one (.bp 128 0)),.s (.one (.bp 192 0)),sI,.s (.one (.bp 512 0)),sI,sI,.b (.cell [.d (.list iT),.d iT] false),.b (.cell [.nil,.nil,.nil,.nil] false),.b (.cell [.ol 1006000,.ol 1006001,.ol 1006002,.nil] false),.b (.cell [.d .str,.d iT,.ol 1006003] false),.b (.lst 63 cm false),.b (.lst 66 gg false),.b (.lst 205 fy false),.b (.lst 3 iT false)],[iT,iT,iT,(.list iT),iT,.str,iT,aK,aS,aR,(.list iT)],[⟨.exit 6,[.s (.one (.bp 0 0)),.s (.one (.bp 128 0)),.s (.one (.bp 192 0)),sI,.s (.one (.bp 512 0)),.b (.cell [.d (.list iT),.d iT] false),.b (.cell [.nil,.nil,.nil,.nil] false),.b (.cell [.ol 1506700,.ol 1506701,.ol 1506702,.nil] false),.b (.cell [.d .str,.d iT,.ol 1506703] false),.b (.lst 63 cm false),.b (.lst 66 gg false),.b (.lst 205 fy false),.b (.lst 3 iT false)],[iT,(.list iT),iT,.str,iT,aK,aS,aR,(.list iT)]⟩],Pw.jvt (Pw.j2s)⟩]
 modes:=[(16,[false,false]),(33,[false,false]),(48,[false,false]),(49,[false]),(68,[]),(70,[false,false])]
 keep:=[(0,⟨[0,2,3,4],[0,128,192],[⟨1000000,63,cm,[.cell 192 0],false⟩],[]⟩),
  (2,⟨[0,2,3,5],[0,128,192],[⟨1002000,63,cm,[.cell 192 0],false⟩,⟨1002001,66,gg,[.cell 192 1],false⟩],[]⟩),
  (4,⟨[0,2,3,7],[0,128,192],[⟨1004000,63,cm,[.cell 192 0],false⟩,⟨1004001,66,gg,[.cell 192 1],false⟩,⟨1004002,205,fy,[.cell 192 2],false⟩],[]⟩),
  (6,⟨[0,2,3,7,8,9,10],[0,128,192,512],[⟨1006000,63,cm,[.cell 192 0],false⟩,⟨1006001,66,gg,[.cell 192 1],false⟩,⟨1006002,205,fy,[.cell 192 2],false⟩,⟨1006003,3,iT,[.cell 512 2],false⟩],[]⟩)]
 keepX:=[(0,.exit 0,⟨[0,2,3],[0,128,192],[⟨1500100,63,cm,[.cell 192 0],false⟩],[]⟩),
  (2,.exit 2,⟨[0,2,3],[0,128,192],[⟨1502300,63,cm,[.cell 192 0],false⟩,⟨1502301,66,gg,[.cell 192 1],false⟩],[]⟩),
  (4,.exit 4,⟨[2,3],[0,128,192],[⟨1504500,63,cm,[.cell 192 0],false⟩,⟨1504501,66,gg,[.cell 192 1],false⟩,⟨1504502,205,fy,[.cell 192 2],false⟩],[]⟩),
  (6,.exit 6,⟨[0,2,3,7,8],[0,128,192,512],[⟨1506700,63,cm,[.cell 192 0],false⟩,⟨1506701,66,gg,[.cell 192 1],false⟩,⟨1506702,205,fy,[.cell 192 2],false⟩,⟨1506703,3,iT,[.cell 512 2],false⟩],[]⟩)]
 ro:=[false]
 dw:=[(5,[[],[],[],[1344],[],[],[],[],[],[0],[1792],[1856,1000000],[],[192]]),(9,[[2432],[],[],[],[],[],[],[],[],[],[0],[],[0],[],[384],[384]])]
 ns:=[3]
theorem jgm:Con.OK Tryz.prog MM:=
 cOf aC aD jha MM Tryz.func66 (j9 rX (j9 Bj (j9 jh9 (j9 Vy (j9 HW (j9 ML trivial)))))) (j9 (λh=>by kernel_rfl) (j9 (λh=>by kernel_rfl) (j9 (λh=>by kernel_rfl) (j9 (λh=>by kernel_rfl) trivial))))
end Go.Proofs.Pk
