/- bZ: each given function is its plain function, printed by a program. -/
import Derived.Test.YtllkgjaoejhneaaGreatCECon3
open _root_ renaming trivial->c
open Bool renaming false->e
noncomputable section
open Go Go.Lft
set_option linter.unusedVariables false
set_option maxRecDepth 100000
namespace Go.Proofs.Pk
def Ln:Con:=⟨85,[.v aF,.v iT],[aF,iT],⟨[.v iT],[]⟩,[iT],Pw.unc2 Pw.j6J⟩
def Ϻ:FnD where
 N:=27
 np:=2
 cs:=[CL,F5,Lm]
theorem ϻ:aJ Ln:=
 cOf aH aK Ϻ Ln Tryz.func85 (jg K8 (jg SY (jg Ϲ c))) c
def yO:Con:=⟨34,[.v aF,.v iT,.v iT],[aF,iT,iT],⟨[.v iT,.v iT],[]⟩,[iT,iT],Pw.unc3 Pw.j5w⟩
def Ā:FnD where
 N:=42
 np:=3
 cs:=[yN,Ln]
theorem Gc:aJ yO:=
 cOf aH aK Ā yO Tryz.func34 (jg F4 (jg ϻ c)) c
def Lo:Con:=⟨158,[.v bu],[bu],⟨[.clo 224 [.p [bu]]],[]⟩,[bu],λh=>Pw.j1Y h⟩
def ā:FnD where
 N:=4
 np:=1
theorem Ă:aJ Lo:=
 cOf aH aK ā Lo Tryz.func158 c c
def Lp:Con:=⟨212,[.v cK,.v iT],[cK,iT],⟨[.v iT],[]⟩,[iT],Pw.unc2 Pw.j5W⟩
def ă:FnD where
 N:=10
 np:=2
 cs:=[F8,F9]
theorem Ą:aJ Lp:=
 cOf aH aK ă Lp Tryz.func212 (jg S8 (jg S9 c)) c
def Lq:Con:=⟨211,[.v iT],[iT],⟨[.v bT],[]⟩,[bT],λh=>Pw.je5 h⟩
def ą:FnD where
 N:=17
 np:=1
theorem Ć:aJ Lq:=
 cOf aH aK ą Lq Tryz.func211 c c
def Gd:Con:=⟨144,[.v cK,.v iT],[cK,iT],⟨[.v bT],[]⟩,[bT],Pw.unc2 Pw.j0u⟩
def ć:FnD where
 N:=11
 np:=2
 cs:=[Lp,Lq]
theorem Tc:aJ Gd:=
 cOf aH aK ć Gd Tryz.func144 (jg Ą (jg Ć c)) c
def Lr:Con:=⟨141,[.v cK,.v aY,.v iT],[cK,aY,iT],⟨[.v iT],[]⟩,[iT],Pw.unc3 Pw.j3m⟩
def Ĉ:FnD where
 N:=84
 np:=3
 cs:=[F7,Gb,Gd]
 ds:=[⟨0,[sI,sB 192 0,sB 256 0,sI,.b (.cell [.d iT,.d aB] e),.b (.cell [.d .str,.d iT,.d iT,.d iT,.d iT,.d iT,.d (.list iT),.d aB,.d iT,.d iT] e)],[iT,iT,iT,aB,.str,iT,iT,iT,iT,iT,(.list iT),aB,iT,iT],[⟨.exit 0,[sI,sB 192 0,sB 256 0,sI,.b (.cell [.d iT,.d aB] e),.b (.cell [.d .str,.d iT,.d iT,.d iT,.d iT,.d iT,.d (.list iT),.d aB,.d iT,.d iT] e)],[iT,iT,iT,aB,.str,iT,iT,iT,iT,iT,(.list iT),aB,iT,iT]⟩],Pw.u8 Pw.unc6 (Pw.j2N)⟩,⟨2,[sI,sB 192 0,sB 256 0,sI,.b (.cell [.d iT,.d aB] e),.b (.cell [.d .str,.d iT,.d iT,.d iT,.d iT,.d iT,.d (.list iT),.d aB,.d iT,.d iT] e)],[iT,iT,iT,aB,.str,iT,iT,iT,iT,iT,(.list iT),aB,iT,iT],[⟨.ret,[sI],[iT]⟩],Pw.u8 Pw.unc6 (Pw.j41)⟩]
 keep:=[(0,⟨[2,3,4,9],[192,256],[],[]⟩),(2,⟨[2,3,4,9],[192,256],[],[]⟩)]
 keepX:=[(0,.exit 0,⟨[2,3,4,9],[192,256],[],[]⟩),(2,.ret,⟨[6],[],[],[]⟩)]
theorem ĉ:aJ Lr:=
 cOf aH aK Ĉ Lr Tryz.func141 (jg S7 (jg Tb (jg Tc c))) (jg (λh=>by kernel_rfl) (jg (λh=>by kernel_rfl) c))
def Ls:Con:=⟨143,[.v bT],[bT],⟨[.v iT],[]⟩,[iT],λh=>Pw.j3n h⟩
def Ċ:FnD where
 N:=10
 np:=1
 cs:=[F0]
theorem ċ:aJ Ls:=
 cOf aH aK Ċ Ls Tryz.func143 (jg SR c) c
def Lt:Con:=⟨142,[.v aB,.v iT],[aB,iT],⟨[.v .bool],[]⟩,[.bool],Pw.unc2 Pw.ji9⟩
def Č:FnD where
 N:=24
 np:=2
 ds:=[⟨0,[sI,sD aB,sI,sI],[iT,aB,iT,iT],[⟨.ret,[sD .bool],[.bool]⟩,⟨.exit 0,[],[]⟩],Pw.unc4 (Pw.j55)⟩]
 keep:=[(0,⟨[1,7,8,9],[],[],[]⟩)]
 keepX:=[(0,.ret,⟨[4],[],[],[]⟩)]
theorem č:aJ Lt:=
 cOf aH aK Č Lt Tryz.func142 c (jg (λh=>by kernel_rfl) c)
def Lu:Con:=⟨241,[.v iT],[iT],⟨[.v .bool],[]⟩,[.bool],λh=>Pw.j9w h⟩
def Ď:FnD where
 N:=6
 np:=1
theorem ď:aJ Lu:=
 cOf aH aK Ď Lu Tryz.func241 c c
def Lv:Con:=⟨213,[.v iT,.v iT],[iT,iT],⟨[.v .bool],[]⟩,[.bool],Pw.unc2 Pw.jaR⟩
def Đ:FnD where
 N:=17
 np:=2
 cs:=[Lu]
theorem đ:aJ Lv:=
 cOf aH aK Đ Lv Tryz.func213 (jg ď c) c
def Lw:Con:=⟨214,[.v iT],[iT],⟨[.v .bool],[]⟩,[.bool],λh=>Pw.j6M h⟩
def Ē:FnD where
 N:=6
 np:=1
theorem ē:aJ Lw:=
 cOf aH aK Ē Lw Tryz.func214 c c
def Lx:Con:=⟨145,[.v (.list iT),.v iT],[(.list iT),iT],⟨[.v iT,.v .bool],[]⟩,[iT,.bool],Pw.unc2 Pw.j1c⟩
def Ĕ:FnD where
 N:=54
 np:=2
 cs:=[Lv,Lw]
 ds:=[⟨0,[sD (.list iT),sI,sI,sI,sI],[(.list iT),iT,iT,iT,iT],[⟨.exit 0,[sD (.list iT),sI,sI,sI],[(.list iT),iT,iT,iT]⟩],Pw.unc5 (Pw.j1h)⟩]
 keep:=[(0,⟨[0,1,6,7,8],[],[],[]⟩)]
 keepX:=[(0,.exit 0,⟨[0,1,6,7],[],[],[]⟩)]
theorem ĕ:aJ Lx:=
 cOf aH aK Ĕ Lx Tryz.func145 (jg đ (jg ē c)) (jg (λh=>by kernel_rfl) c)
def Ly:Con:=⟨93,[.v fm,.v aY,.v iT],[fm,aY,iT],⟨[.v iT,.v .bool],[]⟩,[iT,.bool],Pw.unc3 Pw.j5x⟩
def Ė:FnD where
 N:=79
 np:=3
 cs:=[Gd,Lr,Ls,Lt,Lx]
theorem ė:aJ Ly:=
 cOf aH aK Ė Ly Tryz.func93 (jg Tc (jg ĉ (jg ċ (jg č (jg ĕ c))))) c
def Lz:Con:=⟨96,[.v fm,.v aY,.v iT],[fm,aY,iT],⟨[.v iT],[]⟩,[iT],Pw.unc3 Pw.j2p⟩
def Ę:FnD where
 N:=27
 np:=3
 cs:=[Ly]
theorem ę:aJ Lz:=
 cOf aH aK Ę Lz Tryz.func96 (jg ė c) c
def LA:Con:=⟨115,[.v ew,.ip [iT],.ip [iT]],[ew,iT,iT],⟨[.v .bool],[]⟩,[.bool],Pw.unc3 Pw.jcf⟩
def Ě:FnD where
 N:=26
 np:=3
theorem ě:aJ LA:=
 cOf aH aK Ě LA Tryz.func115 c c
def LB:Con:=⟨164,[.v bC,.clo 115 [.p [iT],.p [iT]]],[bC,iT,iT],⟨[.v iT],[]⟩,[iT],Pw.unc3 Pw.j28⟩
def Ĝ:FnD where
 N:=19
 np:=2
 cs:=[LA]
 ds:=[⟨0,[sD bC,sC 115 [.p [iT],.p [iT]],sI,sI],[bC,iT,iT,iT,iT],[⟨.ret,[sI],[iT]⟩,⟨.exit 0,[],[]⟩],Pw.unc5 (Pw.j0s)⟩]
 keep:=[(0,⟨[0,1,7,8],[],[],[]⟩)]
 keepX:=[(0,.ret,⟨[4],[],[],[]⟩)]
theorem ĝ:aJ LB:=
 cOf aH aK Ĝ LB Tryz.func164 (jg ě c) (jg (λh=>by kernel_rfl) c)
def LC:Con:=⟨114,[.v bC,.clo 115 [.p [iT],.p [iT]]],[bC,iT,iT],⟨[.v .bool],[]⟩,[.bool],Pw.unc3 Pw.j1H⟩
def Ğ:FnD where
 N:=9
 np:=2
 cs:=[LB]
theorem ğ:aJ LC:=
 cOf aH aK Ğ LC Tryz.func114 (jg ĝ c) c
def LD:Con:=⟨60,[.v cA,.v iT,.v iT],[cA,iT,iT],⟨[.v .bool],[]⟩,[.bool],Pw.unc3 Pw.je6⟩
def Ġ:FnD where
 N:=11
 np:=3
 cs:=[LC]
theorem ġ:aJ LD:=
 cOf aH aK Ġ LD Tryz.func60 (jg ğ c) c
def LF:Con:=⟨108,[.v fm,.v cA,.v iT],[fm,cA,iT],⟨[.v iT,.v iT],[]⟩,[iT,iT],Pw.unc3 Pw.j5X⟩
def Ģ:FnD where
 N:=29
 np:=3
 cs:=[Lo,Lz,LD]
 ds:=[⟨0,[sI,sB 192 0,sB 256 0,sB 320 0,sB 384 0,sB 448 0,sC 224 [.p [bu]],.b (.cell [.d aw,.d aA,.d az,.d aC,.d ff] e),.b (.cell [.d .str,.d bu,.d bC] e),.b (.cell [.d iT] e),.b (.cell [.d iT] e),.b (.cell [.d iT] e)],[iT,bu,aw,aA,az,aC,ff,.str,bu,bC,iT,iT,iT],[⟨.normal,[sB 384 0,sB 448 0,.b (.cell [.d iT] e),.b (.cell [.d iT] e)],[iT,iT]⟩,⟨.ret,[sB 384 0,sB 448 0,.b (.cell [.d iT] e),.b (.cell [.d iT] e)],[iT,iT]⟩],Pw.u8 Pw.unc5 (Pw.j2O)⟩]
 keep:=[(0,⟨[3,4,5,6,7,13],[192,256,320,384,448],[],[]⟩)]
 keepX:=[(0,.normal,⟨[6,7],[384,448],[],[]⟩),(0,.ret,⟨[6,7],[384,448],[],[]⟩)]
 bw:=[(224,(e,aY))]
theorem ģ:ItOK Tryz.prog 224 e (aY):=Zr <| _Y aH Tryz.func224 (fn:=Tryz.f224) (A0:=bwA Tryz.f224 0) (A1:=bwA Tryz.f224 1) (A2:=bwA Tryz.f224 2) (A3:=bwA Tryz.f224 3) (by kernel_rfl) (by kernel_rfl) (by kernel_rfl) (by kernel_rfl) (by kernel_rfl) (by kernel_rfl) (by kernel_rfl) (by kernel_rfl) (by kernel_rfl) (by kernel_rfl) (by kernel_rfl) ⟨(by kernel_rfl),(by kernel_rfl)⟩
 (λxs=>by kernel_rfl) (λi=>by kernel_rfl) (λi=>by kernel_rfl) (λxs i=>by kernel_rfl) (λb i=>by kernel_rfl)
theorem Ĥ:aJ LF:=
 cOf aH aK Ģ LF Tryz.func108 (jg Ă (jg ę (jg ġ c))) (jg (λh=>by kernel_rfl) c) (jg ģ c)
end Go.Proofs.Pk
