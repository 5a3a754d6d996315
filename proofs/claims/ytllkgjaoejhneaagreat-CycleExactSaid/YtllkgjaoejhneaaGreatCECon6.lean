/- bZ: each given function is its plain function, printed by a program. -/
import Derived.Test.YtllkgjaoejhneaaGreatCECon5
open _root_ renaming trivial->c
open Bool renaming false->e,true->i
noncomputable section
open Go Go.Lft
set_option linter.unusedVariables false
set_option maxRecDepth 100000
namespace Go.Proofs.Pk
def Gm:Con:=⟨30,[.v aF],[aF],⟨[.raw [512,704,896,2560,1920,2112] [.s (.st [.ol 512,.ol 704,.ol 896,.ol 2560]),.b (.lst 97 aU e),.b (.lst 99 fg e),.b (.lst 103 fe e),.b (.row 52 cA 1 [.d .str,.ol 1920,.ol 2112]),.b (.lst 62 aY e),.b (.lst 24 ew e)]],[]⟩,[aw,aA,az,.str,bu,bC],λh=>Pw.j5Y h⟩
def Ł:FnD where
 N:=43
 np:=1
 ds:=[⟨0,[],[],[],λ_=>none⟩]
 dw:=[(1,[[],[],[512],[],[],[704],[],[],[896],[],[192],[192]]),(6,[[],[],[1920,1936],[],[],[2112,2128],[],[320,336],[],[320,336]])]
 un:=[0]
 unr:=2
 rw:=i
 rn:=[512,704,896,2560,1920,2112]
 b1:=[39]
theorem Ti:aJ Gm:=
 cOf aH aK Ł Gm Tryz.func30 c (jg (λh=>by kernel_rfl) c)
def LV:Con:=⟨11,[.ref [(.list iT),iT],.v aF],[(.list iT),iT,aF],⟨[.v aF],[.ref [(.list iT),iT]]⟩,[aF,(.list iT),iT],Pw.unc3 Pw.j6r⟩
def ł:FnD where
 N:=289
 np:=2
 cs:=[ml,oc,CO,Gm]
 dw:=[(3,[[],[],[],[],[],[],[0],[],[]]),(16,[[],[],[],[],[],[],[4544],[2112,4608],[],[],[2560]]),(18,[[],[],[],[],[],[],[0],[],[5440],[0,5440],[],[],[512]]),(20,[[],[],[],[],[],[],[0],[],[],[],[],[6528],[0,6528],[],[],[704]]),(22,[[],[],[],[],[],[],[0],[7360],[],[0],[],[],[],[],[704]]),(24,[[],[],[],[],[],[],[0],[],[8448],[0,8448],[],[],[704]]),(26,[[],[],[],[],[],[],[0],[],[9344],[0,9344],[],[9536],[0,9536],[],[9728],[],[],[704,9728]]),(28,[[],[],[10176],[],[0],[],[],[],[10560],[0,10560],[],[10752],[0,10752],[10880],[],[10880,11008],[896,11072],[],[320]]),(30,[[],[],[11456],[],[0],[],[],[],[11840],[2560,11840,11904],[],[320]]),(34,[[],[],[],[],[],[],[0],[],[]]),(36,[[],[],[],[],[],[],[],[],[],[],[0],[],[]])]
 pre:=[(54,[.rl 2560,.rl 11904])]
 b1:=[185]
 pa:=[(16,(35,(.pair (.list .unit) (.pair (.list .unit) (.pair (.list .unit) (.list .unit))))))]
 sc:=i
theorem Ń:aJ LV:=
 cOf aH aK ł LV Tryz.func11 (jg nG (jg qR (jg LS (jg Ti c)))) c
def LW:Con:=⟨268,[.v (.int .u8)],[(.int .u8)],⟨[.v .bool],[]⟩,[.bool],λh=>Pw.jiX h⟩
def ń:FnD where
 N:=9
 np:=1
theorem Ņ:aJ LW:=
 cOf aH aK ń LW Tryz.func268 c c
def LX:Con:=⟨236,[.v .str],[.str],⟨[.v .bool],[]⟩,[.bool],λh=>Pw.jia h⟩
def ņ:FnD where
 N:=57
 np:=1
 cs:=[LW]
 ds:=[⟨0,[sD .str,sI],[.str,iT],[⟨.ret,[sD .bool],[.bool]⟩,⟨.exit 0,[],[]⟩],Pw.unc2 (Pw.j57)⟩]
 keep:=[(0,⟨[0,3],[],[],[]⟩)]
 keepX:=[(0,.ret,⟨[2],[],[],[]⟩)]
theorem Ň:aJ LX:=
 cOf aH aK ņ LX Tryz.func236 (jg Ņ c) (jg (λh=>by kernel_rfl) c)
def yQ:Con:=⟨189,[.v (.list .str),.v iT],[(.list .str),iT],⟨[.v iT],[]⟩,[iT],Pw.unc2 Pw.jaS⟩
def ň:FnD where
 N:=26
 np:=2
 cs:=[LX]
 ds:=[⟨0,[sD (.list .str),sI,sI],[(.list .str),iT,iT],[⟨.ret,[sI],[iT]⟩,⟨.exit 0,[],[]⟩],Pw.unc3 (Pw.j58)⟩]
 keep:=[(0,⟨[0,1,5],[],[],[]⟩)]
 keepX:=[(0,.ret,⟨[4],[],[],[]⟩)]
theorem Gn:aJ yQ:=
 cOf aH aK ň yQ Tryz.func189 (jg Ň c) (jg (λh=>by kernel_rfl) c)
def wP:Con:=⟨206,[.v iT,.v iT,.v iT],[iT,iT,iT],⟨[.v .bool],[]⟩,[.bool],Pw.unc3 Pw.j7d⟩
def ŉ:FnD where
 N:=15
 np:=3
theorem CQ:aJ wP:=
 cOf aH aK ŉ wP Tryz.func206 c c
def LY:Con:=⟨222,[.v mj],[mj],⟨[.v .bool],[]⟩,[.bool],λh=>Pw.j8S h⟩
def Ŋ:FnD where
 N:=38
 np:=1
 cs:=[wP]
theorem ŋ:aJ LY:=
 cOf aH aK Ŋ LY Tryz.func222 (jg CQ c) c
def LZ:Con:=⟨297,[.v iT],[iT],⟨[.v .bool],[]⟩,[.bool],λh=>Pw.j1i h⟩
def Ō:FnD where
 N:=16
 np:=1
theorem ō:aJ LZ:=
 cOf aH aK Ō LZ Tryz.func297 c c
def CR:Con:=⟨276,[.v iT,.v iT],[iT,iT],⟨[.v iT],[]⟩,[iT],Pw.unc2 Pw.jci⟩
def Ŏ:FnD where
 N:=23
 np:=2
 cs:=[LZ]
theorem L0:aJ CR:=
 cOf aH aK Ŏ CR Tryz.func276 (jg ō c) c
def L1:Con:=⟨296,[.v eM],[eM],⟨[.v .bool],[]⟩,[.bool],λh=>Pw.jfU h⟩
def ŏ:FnD where
 N:=36
 np:=1
 cs:=[CR]
theorem Ő:aJ L1:=
 cOf aH aK ŏ L1 Tryz.func296 (jg L0 c) c
def Gp:Con:=⟨237,[.v iT],[iT],⟨[.v iT],[]⟩,[iT],λh=>Pw.jfV h⟩
def ő:FnD where
 N:=18
 np:=1
theorem Tj:aJ Gp:=
 cOf aH aK ő Gp Tryz.func237 c c
def L2:Con:=⟨275,[.v eM],[eM],⟨[.v iT,.v iT],[]⟩,[iT,iT],λh=>Pw.jlx h⟩
def Œ:FnD where
 N:=29
 np:=1
 cs:=[CR,L1,Gp]
 ds:=[⟨0,[sB 64 0,sI,sI,.b (.cell [.d iT,.d iT,.d iT] e)],[iT,iT,iT,iT,iT],[⟨.exit 0,[sB 64 0,sI,.b (.cell [.d iT,.d iT,.d iT] e)],[iT,iT,iT,iT]⟩],Pw.unc5 (Pw.j5z)⟩]
 keep:=[(0,⟨[1,4,5],[64],[],[]⟩)]
 keepX:=[(0,.exit 0,⟨[1,4],[64],[],[]⟩)]
theorem fI:aJ L2:=
 cOf aH aK Œ L2 Tryz.func275 (jg L0 (jg Ő (jg Tj c))) (jg (λh=>by kernel_rfl) c)
def Gq:Con:=⟨274,[.v iT],[iT],⟨[.v iT],[]⟩,[iT],λh=>Pw.jcj h⟩
def œ:FnD where
 N:=7
 np:=1
theorem Tk:aJ Gq:=
 cOf aH aK œ Gq Tryz.func274 c c
def L3:Con:=⟨252,[.v iT,.v iT,.v iT,.v iT],[iT,iT,iT,iT],⟨[.v iT,.v iT],[]⟩,[iT,iT],Pw.unc4 Pw.jly⟩
def Ŕ:FnD where
 N:=63
 np:=4
 cs:=[CR,L2,Gq]
 ds:=[⟨0,[sI,sI,sI,sI,sI,sI],[iT,iT,iT,iT,iT,iT],[⟨.exit 0,[sI,sI,sI,sI,sI],[iT,iT,iT,iT,iT]⟩],Pw.unc6 (Pw.j5A)⟩,⟨2,[sI,sI,sI,sI],[iT,iT,iT,iT],[⟨.exit 2,[sI],[iT]⟩],Pw.unc4 (Pw.j5B)⟩]
 keep:=[(0,⟨[0,1,2,3,10,12],[],[],[]⟩),(2,⟨[0,1,10,12],[],[],[]⟩)]
 keepX:=[(0,.exit 0,⟨[0,1,2,10,12],[],[],[]⟩),(2,.exit 2,⟨[12],[],[],[]⟩)]
theorem fJ:aJ L3:=
 cOf aH aK Ŕ L3 Tryz.func252 (jg L0 (jg fI (jg Tk c))) (jg (λh=>by kernel_rfl) (jg (λh=>by kernel_rfl) c))
def L4:Con:=⟨223,[.v bN],[bN],⟨[.own 253 aB],[]⟩,[aB],λh=>Pw.j7v h⟩
def ŕ:FnD where
 N:=98
 np:=1
 cs:=[L3]
 ds:=[⟨0,[sD bN,sO 1000000,sI,.b (.lst 253 bT e)],[bN,iT,aB],[⟨.exit 0,[sO 1500100,.b (.lst 253 bT e)],[aB]⟩],Pw.unc3 (Pw.j2o)⟩,⟨2,[sD bN,sO 1002000,sI,sI,.b (.lst 253 bT e)],[bN,iT,iT,aB],[⟨.exit 2,[sD bN,sO 1502300,sI,.b (.lst 253 bT e)],[bN,iT,aB]⟩],Pw.unc4 (Pw.j2n)⟩,⟨4,[sD bN,sO 1004000,sI,sI,sB 512 0,sI,.b (.cell [.d iT,.d iT] e),.b (.lst 253 bT e)],[bN,iT,iT,iT,iT,iT,aB],[⟨.exit 4,[sD bN,sO 1504500,sI,sI,sB 512 0,sI,.b (.cell [.d iT,.d iT] e),.b (.lst 253 bT e)],[bN,iT,iT,iT,iT,iT,aB]⟩],Pw.unc7 (Pw.j2m)⟩]
 keep:=[(0,⟨[0,3,4],[],[⟨1000000,253,bT,[.slot 3],e⟩],[]⟩),(2,⟨[0,3,4,5],[],[⟨1002000,253,bT,[.slot 3],e⟩],[]⟩),(4,⟨[0,3,4,5,8,9],[512],[⟨1004000,253,bT,[.slot 3],e⟩],[]⟩)]
 keepX:=[(0,.exit 0,⟨[3],[],[⟨1500100,253,bT,[.slot 3],e⟩],[]⟩),(2,.exit 2,⟨[0,3,4],[],[⟨1502300,253,bT,[.slot 3],e⟩],[]⟩),(4,.exit 4,⟨[0,3,4,5,8,9],[512],[⟨1504500,253,bT,[.slot 3],e⟩],[]⟩)]
 ro:=[i]
 dw:=[(9,[[],[],[],[],[],[],[],[],[],[],[],[],[],[],[512],[512]]),(14,[[],[],[],[],[],[],[],[5376]])]
theorem Ŗ:aJ L4:=
 cOf aH aK ŕ L4 Tryz.func223 (jg fJ c) (jg (λh=>by kernel_rfl) (jg (λh=>by kernel_rfl) (jg (λh=>by kernel_rfl) c)))
def wQ:Con:=⟨156,[.v aU],[aU],⟨[.own 200 aB,.v iT],[]⟩,[aB,iT],λh=>Pw.j0g h⟩
def ŗ:FnD where
 N:=119
 np:=1
 cs:=[wP,LY,L4]
 ds:=[⟨0,[sB 64 0,sI,sI,.b (.cell [.d .str,.d iT,.d bN] e)],[iT,iT,.str,iT,bN],[⟨.ret,[.s (.one (.nil)),sI],[iT]⟩,⟨.exit 0,[sB 64 0,sI,.b (.cell [.d .str,.d iT,.d bN] e)],[iT,.str,iT,bN]⟩],Pw.unc5 (Pw.j1C)⟩,⟨2,[sO 1002000,sO 1002001,sI,sI,.b (.lst 200 bT e),.b (.lst 253 bT e)],[iT,iT,aB,aB],[⟨.ret,[.s (.one (.nil)),sI],[iT]⟩,⟨.exit 2,[sO 1502300,.b (.lst 200 bT e)],[aB]⟩],Pw.unc4 (Pw.j1j)⟩]
 keep:=[(0,⟨[1,4,5],[64],[],[]⟩),(2,⟨[6,7,8,9],[],[⟨1002000,200,bT,[.slot 6],e⟩,⟨1002001,253,bT,[.slot 7],e⟩],[]⟩)]
 keepX:=[(0,.ret,⟨[2,3],[],[],[]⟩),(0,.exit 0,⟨[1,4],[64],[],[]⟩),(2,.ret,⟨[2,3],[],[],[]⟩),(2,.exit 2,⟨[6],[],[⟨1502300,200,bT,[.slot 6],e⟩],[]⟩)]
 ro:=[i,e]
 dw:=[(21,[[],[],[],[],[],[],[],[],[],[],[],[],[],[640],[640]]),(24,[[],[],[7296],[7360,1002000],[],[],[],[]])]
theorem CS:aJ wQ:=
 cOf aH aK ŗ wQ Tryz.func156 (jg CQ (jg ŋ (jg Ŗ c))) (jg (λh=>by kernel_rfl) (jg (λh=>by kernel_rfl) c))
def Gr:Con:=⟨190,[.v aU],[aU],⟨[.v iT],[]⟩,[iT],λh=>Pw.j5D h⟩
def Ř:FnD where
 N:=11
 np:=1
 cs:=[wQ]
theorem Tl:aJ Gr:=
 cOf aH aK Ř Gr Tryz.func190 (jg CS c) c
def L5:Con:=⟨191,[.v aU],[aU],⟨[.v .bool],[]⟩,[.bool],λh=>Pw.j8d h⟩
def ř:FnD where
 N:=28
 np:=1
 ds:=[⟨0,[sB 64 0,sD .bool,sI,.b (.cell [.d .str,.d iT,.d bN] e)],[.bool,iT,.str,iT,bN],[⟨.exit 0,[sD .bool],[.bool]⟩],Pw.unc5 (Pw.j3M)⟩]
 keep:=[(0,⟨[1,3,4],[64],[],[]⟩)]
 keepX:=[(0,.exit 0,⟨[3],[],[],[]⟩)]
theorem Ś:aJ L5:=
 cOf aH aK ř L5 Tryz.func191 c (jg (λh=>by kernel_rfl) c)
def L6:Con:=⟨131,[.v aF],[aF],⟨[.v iT],[]⟩,[iT],λh=>Pw.jfZ h⟩
def ś:FnD where
 N:=44
 np:=1
 cs:=[yQ,Gr,L5]
 ds:=[⟨0,[sB 64 0,sO 1000000,sI,.b (.cell [.d aw,.d aA,.d az,.d aC] e),.b (.lst 9 .str e)],[iT,aw,aA,az,aC,(.list .str)],[⟨.ret,[sI],[iT]⟩,⟨.exit 0,[],[]⟩],Pw.unc6 (Pw.j4D)⟩]
 keep:=[(0,⟨[1,3,4],[64],[⟨1000000,9,.str,[.slot 3],e⟩],[]⟩)]
 keepX:=[(0,.ret,⟨[2],[],[],[]⟩)]
theorem Ŝ:aJ L6:=
 cOf aH aK ś L6 Tryz.func131 (jg Gn (jg Tl (jg Ś c))) (jg (λh=>by kernel_rfl) c)
def wR:Con:=⟨192,[.v iT,.v iT,.v iT],[iT,iT,iT],⟨[.v .bool],[]⟩,[.bool],Pw.unc3 Pw.j68⟩
def ŝ:FnD where
 N:=15
 np:=3
theorem CT:aJ wR:=
 cOf aH aK ŝ wR Tryz.func192 c c
end Go.Proofs.Pk
