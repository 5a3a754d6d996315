/- bZ: each given function is its plain function, printed by a program. -/
import Derived.Test.YtllkgjaoejhneaaGreatCECon1
open _root_ renaming trivial->c
open Bool renaming false->e,true->i
noncomputable section
open Go Go.Lft
set_option linter.unusedVariables false
set_option maxRecDepth 100000
namespace Go.Proofs.Pk
def KP:Con:=⟨181,[.v (.list iT),.clo 182 []],[(.list iT)],⟨[.v .bool],[]⟩,[.bool],λh=>Pw.j19 h⟩
def Τ:FnD where
 N:=9
 np:=2
 cs:=[KO]
theorem Υ:aJ KP:=
 cOf aH aK Τ KP Tryz.func181 (jg Ρ c) c
def KQ:Con:=⟨126,[.v aF,.v fe],[aF,fe],⟨[.v iT],[]⟩,[iT],Pw.unc2 Pw.j1e⟩
def Φ:FnD where
 N:=46
 np:=2
 cs:=[wO,KP]
 ds:=[⟨1,[sB 192 0,sI,sI,.b (.cell [.d .str,.d iT,.d (.list iT)] e)],[iT,iT,.str,iT,(.list iT)],[⟨.ret,[sI],[iT]⟩,⟨.exit 1,[],[]⟩],Pw.unc5 (Pw.j0n)⟩]
 keep:=[(1,⟨[3,25,26],[192],[],[]⟩)]
 keepX:=[(1,.ret,⟨[4],[],[],[]⟩)]
theorem Χ:aJ KQ:=
 cOf aH aK Φ KQ Tryz.func126 (jg CI (jg Υ c)) (jg (λh=>by kernel_rfl) c)
def KR:Con:=⟨125,[.v fe,.ip [aw,aA,az,aC]],[fe,aw,aA,az,aC],⟨[.v iT],[]⟩,[iT],Pw.unc5 Pw.j6G⟩
def Ψ:FnD where
 N:=7
 np:=2
 cs:=[KQ]
theorem Ω:aJ KR:=
 cOf aH aK Ψ KR Tryz.func125 (jg Χ c) c
def KS:Con:=⟨123,[.v az,.clo 124 [],.clo 125 [.p [aw,aA,az,aC]]],[az,aw,aA,az,aC],⟨[.v iT],[]⟩,[iT],Pw.unc5 Pw.j1G⟩
def δ:FnD where
 N:=34
 np:=3
 cs:=[wN,KJ,KR]
 ds:=[⟨0,[sC 124 [],sC 125 [.p [aw,aA,az,aC]],sO 1000000,sD az,sI,sI,.b (.lst 4294967458 (.pair .str .bool) e)],[aw,aA,az,aC,az,iT,iT,(.list (.pair .str .bool))],[⟨.ret,[sI],[iT]⟩,⟨.exit 0,[],[]⟩],Pw.unc8 (Pw.j0v)⟩]
 modes:=[(121,[e,i])]
 keep:=[(0,⟨[1,2,7,13,14,15],[],[⟨1000000,4294967458,(.pair .str .bool),[.slot 7],e⟩],[]⟩)]
 keepX:=[(0,.ret,⟨[6],[],[],[]⟩)]
theorem ε:aJ KS:=
 cOf aH aK δ KS Tryz.func123 (jg CE (jg Η (jg Ω c))) (jg (λh=>by kernel_rfl) c)
def KT:Con:=⟨128,[.v cA],[cA],⟨[.v .str],[]⟩,[.str],λh=>Pw.j6H h⟩
def ζ:FnD where
 N:=5
 np:=1
theorem η:aJ KT:=
 cOf aH aK ζ KT Tryz.func128 c c
def KU:Con:=⟨185,[.v aY],[aY],⟨[.v .str],[]⟩,[.str],λh=>Pw.j32 h⟩
def θ:FnD where
 N:=5
 np:=1
theorem ι:aJ KU:=
 cOf aH aK θ KU Tryz.func185 c c
def KV:Con:=⟨235,[.v iT,.ip [aw,aA,az,aC]],[iT,aw,aA,az,aC],⟨[.v .bool],[]⟩,[.bool],Pw.unc5 Pw.j40⟩
def ν:FnD where
 N:=10
 np:=2
 cs:=[wO]
theorem ξ:aJ KV:=
 cOf aH aK ν KV Tryz.func235 (jg CI c) c
def KW:Con:=⟨233,[.v (.list iT),.clo 235 [.p [aw,aA,az,aC]]],[(.list iT),aw,aA,az,aC],⟨[.v iT],[]⟩,[iT],Pw.unc5 Pw.j2e⟩
def ο:FnD where
 N:=19
 np:=2
 cs:=[KV]
 ds:=[⟨0,[sD (.list iT),sC 235 [.p [aw,aA,az,aC]],sI,sI],[(.list iT),aw,aA,az,aC,iT,iT],[⟨.ret,[sI],[iT]⟩,⟨.exit 0,[],[]⟩],Pw.unc7 (Pw.j0o)⟩]
 keep:=[(0,⟨[0,1,7,8],[],[],[]⟩)]
 keepX:=[(0,.ret,⟨[4],[],[],[]⟩)]
theorem π:aJ KW:=
 cOf aH aK ο KW Tryz.func233 (jg ξ c) (jg (λh=>by kernel_rfl) c)
def KX:Con:=⟨181,[.v (.list iT),.clo 235 [.p [aw,aA,az,aC]]],[(.list iT),aw,aA,az,aC],⟨[.v .bool],[]⟩,[.bool],Pw.unc5 Pw.j0Q⟩
def ρ:FnD where
 N:=9
 np:=2
 cs:=[KW]
theorem ς:aJ KX:=
 cOf aH aK ρ KX Tryz.func181 (jg π c) c
def KY:Con:=⟨187,[.v aF,.v aY],[aF,aY],⟨[.v iT],[]⟩,[iT],Pw.unc2 Pw.j1d⟩
def υ:FnD where
 N:=91
 np:=2
 cs:=[wO,F2,CJ,CK,KX]
theorem φ:aJ KY:=
 cOf aH aK υ KY Tryz.func187 (jg CI (jg SU (jg KG (jg KM (jg ς c))))) c
def KZ:Con:=⟨186,[.v aY,.ip [aw,aA,az,aC]],[aY,aw,aA,az,aC],⟨[.v iT],[]⟩,[iT],Pw.unc5 Pw.j33⟩
def χ:FnD where
 N:=7
 np:=2
 cs:=[KY]
theorem ψ:aJ KZ:=
 cOf aH aK χ KZ Tryz.func186 (jg φ c) c
def K3:Con:=⟨184,[.v bu,.clo 185 [],.clo 186 [.p [aw,aA,az,aC]]],[bu,aw,aA,az,aC],⟨[.v iT],[]⟩,[iT],Pw.unc5 Pw.j2f⟩
def ω:FnD where
 N:=34
 np:=3
 cs:=[wN,KU,KZ]
 ds:=[⟨0,[sC 185 [],sC 186 [.p [aw,aA,az,aC]],sO 1000000,sD bu,sI,sI,.b (.lst 4294967458 (.pair .str .bool) e)],[aw,aA,az,aC,bu,iT,iT,(.list (.pair .str .bool))],[⟨.ret,[sI],[iT]⟩,⟨.exit 0,[],[]⟩],Pw.unc8 (Pw.j0J)⟩]
 modes:=[(121,[e,i])]
 keep:=[(0,⟨[1,2,7,13,14,15],[],[⟨1000000,4294967458,(.pair .str .bool),[.slot 7],e⟩],[]⟩)]
 keepX:=[(0,.ret,⟨[6],[],[],[]⟩)]
theorem ϊ:aJ K3:=
 cOf aH aK ω K3 Tryz.func184 (jg CE (jg ι (jg ψ c))) (jg (λh=>by kernel_rfl) c)
def K4:Con:=⟨188,[.v aF,.v ew],[aF,ew],⟨[.v iT],[]⟩,[iT],Pw.unc2 Pw.j0U⟩
def ϋ:FnD where
 N:=83
 np:=2
 cs:=[wO,CJ,CK]
theorem ό:aJ K4:=
 cOf aH aK ϋ K4 Tryz.func188 (jg CI (jg KG (jg KM c))) c
def K5:Con:=⟨130,[.v aF,.v cA],[aF,cA],⟨[.v iT],[]⟩,[iT],Pw.unc2 Pw.j1g⟩
def ύ:FnD where
 N:=40
 np:=2
 cs:=[K3,K4]
 ds:=[⟨0,[sB 128 0,sD bC,sI,sI,.b (.cell [.d aw,.d aA,.d az,.d aC] i)],[bC,iT,iT,aw,aA,az,aC],[⟨.ret,[sI],[iT]⟩,⟨.exit 0,[],[]⟩],Pw.unc7 (Pw.j0V)⟩]
 keep:=[(0,⟨[2,27,28,29],[128],[],[]⟩)]
 keepX:=[(0,.ret,⟨[4],[],[],[]⟩)]
theorem ώ:aJ K5:=
 cOf aH aK ύ K5 Tryz.func130 (jg ϊ (jg ό c)) (jg (λh=>by kernel_rfl) c)
def K6:Con:=⟨129,[.v cA,.ip [aw,aA,az,aC]],[cA,aw,aA,az,aC],⟨[.v iT],[]⟩,[iT],Pw.unc5 Pw.j6I⟩
def Ϗ:FnD where
 N:=7
 np:=2
 cs:=[K5]
theorem ϐ:aJ K6:=
 cOf aH aK Ϗ K6 Tryz.func129 (jg ώ c) c
def K7:Con:=⟨127,[.v aC,.clo 128 [],.clo 129 [.p [aw,aA,az,aC]]],[aC,aw,aA,az,aC],⟨[.v iT],[]⟩,[iT],Pw.unc5 Pw.j2v⟩
def ϑ:FnD where
 N:=34
 np:=3
 cs:=[wN,KT,K6]
 ds:=[⟨0,[sC 128 [],sC 129 [.p [aw,aA,az,aC]],sO 1000000,sD aC,sI,sI,.b (.lst 4294967458 (.pair .str .bool) e)],[aw,aA,az,aC,aC,iT,iT,(.list (.pair .str .bool))],[⟨.ret,[sI],[iT]⟩,⟨.exit 0,[],[]⟩],Pw.unc8 (Pw.j0w)⟩]
 modes:=[(121,[e,i])]
 keep:=[(0,⟨[1,2,7,13,14,15],[],[⟨1000000,4294967458,(.pair .str .bool),[.slot 7],e⟩],[]⟩)]
 keepX:=[(0,.ret,⟨[6],[],[],[]⟩)]
theorem ϒ:aJ K7:=
 cOf aH aK ϑ K7 Tryz.func127 (jg CE (jg η (jg ϐ c))) (jg (λh=>by kernel_rfl) c)
def F3:Con:=⟨72,[.v aF],[aF],⟨[.v iT],[]⟩,[iT],λh=>Pw.j2g h⟩
def ϓ:FnD where
 N:=72
 np:=1
 cs:=[wN,KF,KI,KS,K7]
 ds:=[⟨0,[sB 64 0,sO 1000000,sD aA,sI,sI,.b (.cell [.d aw,.d aA,.d az,.d aC] e),.b (.lst 4294967458 (.pair .str .bool) e)],[aA,iT,iT,aw,aA,az,aC,(.list (.pair .str .bool))],[⟨.ret,[sI],[iT]⟩,⟨.exit 0,[sB 64 0,.b (.cell [.d aw,.d aA,.d az,.d aC] e)],[aw,aA,az,aC]⟩],Pw.unc8 (Pw.j2M)⟩]
 modes:=[(121,[e,i])]
 keep:=[(0,⟨[1,4,39,40,41],[64],[⟨1000000,4294967458,(.pair .str .bool),[.slot 4],e⟩],[]⟩)]
 keepX:=[(0,.ret,⟨[2],[],[],[]⟩),(0,.exit 0,⟨[1],[64],[],[]⟩)]
theorem SX:aJ F3:=
 cOf aH aK ϓ F3 Tryz.func72 (jg CE (jg X_ (jg Ε (jg ε (jg ϒ c))))) (jg (λh=>by kernel_rfl) c)
def CL:Con:=⟨67,[.v aF,.v iT],[aF,iT],⟨[.v .bool],[]⟩,[.bool],Pw.unc2 Pw.j5u⟩
def ϔ:FnD where
 N:=14
 np:=2
theorem K8:aJ CL:=
 cOf aH aK ϔ CL Tryz.func67 c c
def K9:Con:=⟨83,[.v iT,.v iT],[iT,iT],⟨[.v iT],[]⟩,[iT],Pw.unc2 Pw.jfS⟩
def ϕ:FnD where
 N:=12
 np:=2
 ds:=[⟨0,[sI,sI],[iT,iT],[⟨.exit 0,[sI],[iT]⟩],Pw.unc2 (Pw.j5U)⟩]
 keep:=[(0,⟨[0,1],[],[],[]⟩)]
 keepX:=[(0,.exit 0,⟨[0],[],[],[]⟩)]
theorem ϖ:aJ K9:=
 cOf aH aK ϕ K9 Tryz.func83 c (jg (λh=>by kernel_rfl) c)
def La:Con:=⟨82,[.v iT,.v aY],[iT,aY],⟨[.v iT],[]⟩,[iT],Pw.unc2 Pw.j5v⟩
def ϗ:FnD where
 N:=28
 np:=2
 cs:=[yL,K9]
theorem Ϙ:aJ La:=
 cOf aH aK ϗ La Tryz.func82 (jg FX (jg ϖ c)) c
end Go.Proofs.Pk
