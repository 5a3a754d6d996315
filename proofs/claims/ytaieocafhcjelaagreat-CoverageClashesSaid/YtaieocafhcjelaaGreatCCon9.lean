/- bZ: each given function is its plain function, printed by a program. -/
import Derived.Test.YtaieocafhcjelaaGreatCCon8
noncomputable section
open Go Go.Lft
set_option linter.unusedVariables false
set_option maxRecDepth 100000
namespace Go.Proofs.Pk
def MU:Con:=⟨314,[.v bk,.v iT],[bk,iT],⟨[.v iT,.v iT],[]⟩,[iT,iT],Pw.unc2 Pw.jc0⟩
def jpk:FnD where
 N:=22
 np:=2
 cs:=[xN,DH,MT]
 ds:=[]
 modes:=[(128,[false]),(196,[false,false,false]),(364,[false,false,false])]
 ro:=[false,false]
theorem jow:Con.OK Tryz.prog MU:=
 cOf aD aF jpk MU Tryz.func314 (j9 DF (j9 ME (j9 jrc trivial))) trivial
def MV:Con:=⟨315,[.v iT,.v iT],[iT,iT],⟨[.v aQ],[]⟩,[aQ],Pw.unc2 Pw.jkL⟩
def juz:FnD where
 N:=16
 np:=2
 cs:=[]
 ds:=[]
 ro:=[false]
theorem jt8:Con.OK Tryz.prog MV:=
 cOf aD aF juz MV Tryz.func315 trivial trivial
def DL:Con:=⟨228,[.v bk,.v iT],[bk,iT],⟨[.v aQ,.v iT],[]⟩,[aQ,iT],Pw.unc2 Pw.j4S⟩
def jrd:FnD where
 N:=21
 np:=2
 cs:=[MU,MV]
 ds:=[]
 modes:=[(314,[false,false]),(315,[false,false])]
 ro:=[false,false]
theorem MW:Con.OK Tryz.prog DL:=
 cOf aD aF jrd DL Tryz.func228 (j9 jow (j9 jt8 trivial)) trivial
def MX:Con:=⟨363,[.v bk,.v bI,.v iT],[bk,bI,iT],⟨[.v iT,.v .bool],[]⟩,[iT,.bool],Pw.unc3 Pw.jc1⟩
def jpl:FnD where
 N:=66
 np:=3
 cs:=[GJ]
 ds:=[]
 modes:=[(362,[false,false])]
 ro:=[false,false]
theorem jox:Con.OK Tryz.prog MX:=
 cOf aD aF jpl MX Tryz.func363 (j9 UI trivial) trivial
def MY:Con:=⟨311,[.v bk,.v bI,.v iT],[bk,bI,iT],⟨[.v iT],[]⟩,[iT],Pw.unc3 Pw.jhK⟩
def juA:FnD where
 N:=81
 np:=3
 cs:=[GJ,DL,MX]
 ds:=[⟨0,[sI,.s (.one (.bp 192 0)),.s (.one (.bp 256 0)),sI,.b (.cell [.d .str,.d iT,.d bM] false),.b (.cell [.d .str,.d iT,.d iT,.d iT,.d iT,.d iT,.d (.list iT),.d aa,.d iT,.d iT] false)],[iT,iT,.str,iT,bM,.str,iT,iT,iT,iT,iT,(.list iT),aa,iT,iT],[⟨.exit 0,[sI],[iT]⟩],Pw.jAp (Pw.j6P)⟩]
 modes:=[(228,[false,false]),(362,[false,false]),(363,[false,false,false])]
 keep:=[(0,⟨[2,3,4,7],[192,256],[],[]⟩)]
 keepX:=[(0,.exit 0,⟨[7],[],[],[]⟩)]
 ro:=[false]
theorem jt9:Con.OK Tryz.prog MY:=
 cOf aD aF juA MY Tryz.func311 (j9 UI (j9 MW (j9 jox trivial))) (j9 (λh=>by kernel_rfl) trivial)
def M0:Con:=⟨226,[.v bk,.v bI,.v iT],[bk,bI,iT],⟨[.v iT,.v iT],[]⟩,[iT,iT],Pw.unc3 Pw.jhL⟩
def juB:FnD where
 N:=22
 np:=3
 cs:=[MR,MY]
 ds:=[]
 modes:=[(310,[false,false]),(311,[false,false,false])]
 ro:=[false,false]
theorem jta:Con.OK Tryz.prog M0:=
 cOf aD aF juB M0 Tryz.func226 (j9 jt5 (j9 jt9 trivial)) trivial
def M1:Con:=⟨199,[.v aQ],[aQ],⟨[.v iT],[]⟩,[iT],λh=>Pw.jiA h⟩
def jtb:FnD where
 N:=10
 np:=1
 cs:=[GH]
 ds:=[]
 modes:=[(294,[false])]
 ro:=[false]
theorem jre:Con.OK Tryz.prog M1:=
 cOf aD aF jtb M1 Tryz.func199 (j9 UG trivial) trivial
def M3:Con:=⟨312,[.v bk,.v iT],[bk,iT],⟨[.v iT,.v iT],[]⟩,[iT,iT],Pw.unc2 Pw.jda⟩
def jtc:FnD where
 N:=19
 np:=2
 cs:=[DL,M1]
 ds:=[]
 modes:=[(199,[false]),(228,[false,false])]
 ro:=[false,false]
theorem jrf:Con.OK Tryz.prog M3:=
 cOf aD aF jtc M3 Tryz.func312 (j9 MW (j9 jre trivial)) trivial
def M4:Con:=⟨313,[.v aa,.v iT],[aa,iT],⟨[.v .bool],[]⟩,[.bool],Pw.unc2 Pw.jiB⟩
def jtd:FnD where
 N:=28
 np:=2
 cs:=[]
 ds:=[⟨0,[.s (.one (.d aa)),sI,sI],[aa,iT,iT],[⟨.ret,[.s (.one (.d .bool))],[.bool]⟩,⟨.exit 0,[],[]⟩],Pw.unc3 (Pw.j68)⟩]
 keep:=[(0,⟨[0,1,5],[],[],[]⟩)]
 keepX:=[(0,.ret,⟨[4],[],[],[]⟩),
  (0,.exit 0,⟨[],[],[],[]⟩)]
 ro:=[false]
theorem jrg:Con.OK Tryz.prog M4:=
 cOf aD aF jtd M4 Tryz.func313 trivial (j9 (λh=>by kernel_rfl) trivial)
def M5:Con:=⟨227,[.v bk,.v aa,.v iT],[bk,aa,iT],⟨[.v .bool],[]⟩,[.bool],Pw.unc3 Pw.jsy⟩
def jAu:FnD where
 N:=27
 np:=3
 cs:=[DJ,M3,M4]
 ds:=[]
 modes:=[(129,[false]),(312,[false,false]),(313,[false,false])]
 ro:=[false]
theorem jyB:Con.OK Tryz.prog M5:=
 cOf aD aF jAu M5 Tryz.func227 (j9 MH (j9 jrf (j9 jrg trivial))) trivial
def M6:Con:=⟨156,[.v aT,.v bI,.v iT],[aT,bI,iT],⟨[.v iT,.v .bool],[]⟩,[iT,.bool],Pw.unc3 Pw.jkM⟩
def jwK:FnD where
 N:=94
 np:=3
 cs:=[DL,M0,M5]
 ds:=[⟨0,[.s (.one (.bp 256 0)),sI,.s (.one (.bp 704 0)),.s (.one (.bp 768 0)),.s (.one (.d .bool)),sI,.b (.cell [.d .str,.d iT,.d iT,.d iT,.d iT,.d iT,.d (.list iT),.d aa,.d iT,.d iT] false),.b (.cell [.d .str,.d iT,.d (.list iT)] false),.b (.cell [.d iT,.d iT] false)],[iT,.bool,iT,.str,iT,iT,iT,iT,iT,(.list iT),aa,iT,iT,.str,iT,(.list iT),iT,iT],[⟨.exit 0,[.s (.one (.bp 256 0)),sI,.s (.one (.d .bool)),.b (.cell [.d .str,.d iT,.d iT,.d iT,.d iT,.d iT,.d (.list iT),.d aa,.d iT,.d iT] false)],[iT,.bool,.str,iT,iT,iT,iT,iT,(.list iT),aa,iT,iT]⟩],Pw.jDm (Pw.j7x)⟩]
 modes:=[(226,[false,false,false]),(227,[false,false,false]),(228,[false,false])]
 keep:=[(0,⟨[4,9,11,12,14,15],[256,704,768],[],[]⟩)]
 keepX:=[(0,.exit 0,⟨[4,9,14],[256],[],[]⟩)]
 ro:=[false,false]
theorem juC:Con.OK Tryz.prog M6:=
 cOf aD aF jwK M6 Tryz.func156 (j9 MW (j9 jta (j9 jyB trivial))) (j9 (λh=>by kernel_rfl) trivial)
def M7:Con:=⟨78,[.v aT,.v bI,.v iT],[aT,bI,iT],⟨[.v iT],[]⟩,[iT],Pw.unc3 Pw.jo8⟩
def jyC:FnD where
 N:=27
 np:=3
 cs:=[M6]
 ds:=[]
 modes:=[(156,[false,false,false])]
 ro:=[false]
theorem jwL:Con.OK Tryz.prog M7:=
 cOf aD aF jyC M7 Tryz.func78 (j9 juC trivial) trivial
def M8:Con:=⟨26,[.v cq,.v iT,.v iT],[cq,iT,iT],⟨[.v .bool],[]⟩,[.bool],Pw.unc3 Pw.jnh⟩
def jwM:FnD where
 N:=42
 np:=3
 cs:=[]
 ds:=[⟨0,[sI,sI,.s (.one (.bp 192 0)),sI,.b (.cell [.d .str,.d bn,.d au] false)],[iT,iT,iT,.str,bn,au],[⟨.ret,[.s (.one (.d .bool))],[.bool]⟩,⟨.exit 0,[],[]⟩],Pw.unc6 (Pw.j7y)⟩]
 keep:=[(0,⟨[1,2,3,7],[192],[],[]⟩)]
 keepX:=[(0,.ret,⟨[6],[],[],[]⟩),
  (0,.exit 0,⟨[],[],[],[]⟩)]
 ro:=[false]
theorem juD:Con.OK Tryz.prog M8:=
 cOf aD aF jwM M8 Tryz.func26 trivial (j9 (λh=>by kernel_rfl) trivial)
def M9:Con:=⟨103,[.v aT,.v iT,.v iT],[aT,iT,iT],⟨[.v iT,.v iT],[]⟩,[iT,iT],Pw.unc3 Pw.jqM⟩
def jyD:FnD where
 N:=43
 np:=3
 cs:=[M7,M8]
 ds:=[⟨0,[sI,.s (.one (.bp 192 0)),.s (.one (.bp 512 0)),sI,.b (.cell [.d ar,.d ax,.d aw,.d az] false),.b (.cell [.d .str,.d bn,.d au] false)],[iT,iT,ar,ax,aw,az,.str,bn,au],[⟨.ret,[sI,sI],[iT,iT]⟩,⟨.exit 0,[],[]⟩],Pw.unc9 (Pw.j8g)⟩]
 modes:=[(26,[false,false,false]),(78,[false,false,false])]
 keep:=[(0,⟨[2,3,8,9],[192,512],[],[]⟩)]
 keepX:=[(0,.ret,⟨[6,7],[],[],[]⟩),
  (0,.exit 0,⟨[],[],[],[]⟩)]
 ro:=[false,false]
theorem jwN:Con.OK Tryz.prog M9:=
 cOf aD aF jyD M9 Tryz.func103 (j9 jwL (j9 juD trivial)) (j9 (λh=>by kernel_rfl) trivial)
def Na:Con:=⟨237,[.v au,.v iT,.v iT],[au,iT,iT],⟨[.v iT],[]⟩,[iT],Pw.unc3 Pw.jqN⟩
def jwO:FnD where
 N:=61
 np:=3
 cs:=[]
 ds:=[⟨0,[.s (.one (.d au)),sI,sI,sI],[au,iT,iT,iT],[⟨.exit 0,[sI],[iT]⟩],Pw.unc4 (Pw.j7z)⟩]
 keep:=[(0,⟨[0,1,2,7],[],[],[]⟩)]
 keepX:=[(0,.exit 0,⟨[1],[],[],[]⟩)]
 ro:=[false]
theorem juE:Con.OK Tryz.prog Na:=
 cOf aD aF jwO Na Tryz.func237 trivial (j9 (λh=>by kernel_rfl) trivial)
def Nb:Con:=⟨162,[.v aT,.v iT,.v iT],[aT,iT,iT],⟨[.v iT],[]⟩,[iT],Pw.unc3 Pw.ju8⟩
def jyE:FnD where
 N:=25
 np:=3
 cs:=[M9,Na]
 ds:=[]
 modes:=[(103,[false,false,false]),(237,[false,false,false])]
 ro:=[false]
theorem jwP:Con.OK Tryz.prog Nb:=
 cOf aD aF jyE Nb Tryz.func162 (j9 jwN (j9 juE trivial)) trivial
def Nc:Con:=⟨91,[.v aT,.v iT,.v iT],[aT,iT,iT],⟨[.v iT],[]⟩,[iT],Pw.unc3 Pw.ju9⟩
def jyF:FnD where
 N:=16
 np:=3
 cs:=[MQ,Nb]
 ds:=[]
 modes:=[(102,[false,false,false]),(162,[false,false,false])]
 ro:=[false]
theorem jwQ:Con.OK Tryz.prog Nc:=
 cOf aD aF jyF Nc Tryz.func91 (j9 jyA (j9 jwP trivial)) trivial
def Gk:Con:=⟨33,[.v aT,.v iT,.v iT],[aT,iT,iT],⟨[.v iT],[]⟩,[iT],Pw.unc3 Pw.jdB⟩
def jyG:FnD where
 N:=11
 np:=3
 cs:=[Nc]
 ds:=[]
 modes:=[(91,[false,false,false])]
 ro:=[false]
theorem Ui:Con.OK Tryz.prog Gk:=
 cOf aD aF jyG Gk Tryz.func33 (j9 jwQ trivial) trivial
def K8:Con:=⟨32,[.v aV,.v iT,.ip [ar,ax,aw,az]],[aV,iT,ar,ax,aw,az],⟨[.v .bool],[]⟩,[.bool],Pw.unc6 Pw.j0f⟩
def jej:FnD where
 N:=24
 np:=3
 cs:=[Gk]
 ds:=[]
 modes:=[(33,[false,false,false])]
 ro:=[false]
theorem jdX:Con.OK Tryz.prog K8:=
 cOf aD aF jej K8 Tryz.func32 (j9 Ui trivial) trivial
def K9:Con:=⟨24,[.v iT,.v iT],[iT,iT],⟨[.v iT],[]⟩,[iT],Pw.unc2 Pw.jiC⟩
def jwR:FnD where
 N:=12
 np:=2
 cs:=[]
 ds:=[]
 ro:=[false]
theorem juF:Con.OK Tryz.prog K9:=
 cOf aD aF jwR K9 Tryz.func24 trivial trivial
end Go.Proofs.Pk
