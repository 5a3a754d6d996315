/- bZ: each given function is its plain function, printed by a program. -/
import Derived.Test.YtllkgjaoejhneaaGreatCECon6
open _root_ renaming trivial->c
open Bool renaming false->e
noncomputable section
open Go Go.Lft
set_option linter.unusedVariables false
set_option maxRecDepth 100000
namespace Go.Proofs.Pk
def CU:Con:=⟨193,[.v aB],[aB],⟨[.v iT],[]⟩,[iT],λh=>Pw.j7x h⟩
def Ş:FnD where
 N:=56
 np:=1
 ds:=[⟨0,[sD aB,sI],[aB,iT],[⟨.ret,[sI],[iT]⟩,⟨.exit 0,[],[]⟩],Pw.unc2 (Pw.j2E)⟩]
 keep:=[(0,⟨[0,3],[],[],[]⟩)]
 keepX:=[(0,.ret,⟨[2],[],[],[]⟩)]
theorem L7:aJ CU:=
 cOf aH aK Ş CU Tryz.func193 c (jg (λh=>by kernel_rfl) c)
def L8:Con:=⟨194,[.v iT],[iT],⟨[.v .bool],[]⟩,[.bool],λh=>Pw.jds h⟩
def ş:FnD where
 N:=10
 np:=1
 cs:=[wR]
theorem Š:aJ L8:=
 cOf aH aK ş L8 Tryz.func194 (jg CT c) c
def L9:Con:=⟨132,[.v aF],[aF],⟨[.v iT],[]⟩,[iT],λh=>Pw.jeb h⟩
def š:FnD where
 N:=58
 np:=1
 cs:=[yQ,wR,CU,L8]
 ds:=[⟨0,[sB 64 0,sO 1000000,sI,.b (.cell [.d aw,.d aA,.d az,.d aC] e),.b (.lst 9 .str e)],[iT,aw,aA,az,aC,(.list .str)],[⟨.ret,[sI],[iT]⟩,⟨.exit 0,[],[]⟩],Pw.unc6 (Pw.j46)⟩]
 keep:=[(0,⟨[1,3,4],[64],[⟨1000000,9,.str,[.slot 3],e⟩],[]⟩)]
 keepX:=[(0,.ret,⟨[2],[],[],[]⟩)]
theorem Ţ:aJ L9:=
 cOf aH aK š L9 Tryz.func132 (jg Gn (jg CT (jg L7 (jg Š c)))) (jg (λh=>by kernel_rfl) c)
def CX:Con:=⟨195,[],[],⟨[.v iT],[]⟩,[iT],λh=>Pw.j8e⟩
def ţ:FnD where
 N:=3
 np:=0
 cs:=[Gp]
theorem Ma:aJ CX:=
 cOf aH aK ţ CX Tryz.func195 (jg Tj c) c
def Mb:Con:=⟨133,[.v aF],[aF],⟨[.v iT],[]⟩,[iT],λh=>Pw.j9y h⟩
def Ť:FnD where
 N:=78
 np:=1
 cs:=[yQ,wR,CX]
 ds:=[⟨0,[sB 64 0,sO 1000000,sI,.b (.cell [.d aw,.d aA,.d az,.d aC] e),.b (.lst 9 .str e)],[iT,aw,aA,az,aC,(.list .str)],[⟨.ret,[sI],[iT]⟩,⟨.exit 0,[],[]⟩],Pw.unc6 (Pw.j2R)⟩,⟨2,[sB 64 0,sO 1002000,sI,sB 320 0,sI,.b (.cell [.d aw,.d aA,.d az,.d aC] e),.b (.cell [.d .str,.d iT,.d (.list iT)] e),.b (.lst 9 .str e)],[iT,iT,aw,aA,az,aC,.str,iT,(.list iT),(.list .str)],[⟨.ret,[sI],[iT]⟩,⟨.exit 2,[sB 64 0,sO 1502300,sI,sB 320 0,.b (.cell [.d aw,.d aA,.d az,.d aC] e),.b (.cell [.d .str,.d iT,.d (.list iT)] e),.b (.lst 9 .str e)],[iT,aw,aA,az,aC,.str,iT,(.list iT),(.list .str)]⟩],Pw.u8 Pw.unc2 (Pw.j2P)⟩,⟨4,[sB 64 0,sO 1004000,sI,sB 320 0,sI,.b (.cell [.d aw,.d aA,.d az,.d aC] e),.b (.cell [.d .str,.d iT,.d (.list iT)] e),.b (.lst 9 .str e)],[iT,iT,aw,aA,az,aC,.str,iT,(.list iT),(.list .str)],[⟨.ret,[sI],[iT]⟩,⟨.exit 4,[sB 64 0,sO 1504500,sI,.b (.cell [.d aw,.d aA,.d az,.d aC] e),.b (.lst 9 .str e)],[iT,aw,aA,az,aC,(.list .str)]⟩],Pw.u8 Pw.unc2 (Pw.j2Q)⟩]
 keep:=[(0,⟨[1,3,4],[64],[⟨1000000,9,.str,[.slot 3],e⟩],[]⟩),(2,⟨[1,3,4,5,7],[64,320],[⟨1002000,9,.str,[.slot 3],e⟩],[]⟩),(4,⟨[1,3,4,5,8],[64,320],[⟨1004000,9,.str,[.slot 3],e⟩],[]⟩)]
 keepX:=[(0,.ret,⟨[2],[],[],[]⟩),(2,.ret,⟨[2],[],[],[]⟩),(2,.exit 2,⟨[1,3,4,5],[64,320],[⟨1502300,9,.str,[.slot 3],e⟩],[]⟩),(4,.ret,⟨[2],[],[],[]⟩),(4,.exit 4,⟨[1,3,4],[64],[⟨1504500,9,.str,[.slot 3],e⟩],[]⟩)]
theorem ť:aJ Mb:=
 cOf aH aK Ť Mb Tryz.func133 (jg Gn (jg CT (jg Ma c))) (jg (λh=>by kernel_rfl) (jg (λh=>by kernel_rfl) (jg (λh=>by kernel_rfl) c)))
def Mc:Con:=⟨196,[.v aF,.v aY],[aF,aY],⟨[.v iT],[]⟩,[iT],Pw.unc2 Pw.jdu⟩
def Ŧ:FnD where
 N:=102
 np:=2
 cs:=[wR,CU,CX]
 ds:=[⟨1,[sB 128 0,sB 192 0,sI,.b (.cell [.d aw,.d aA,.d az,.d aC] e),.b (.cell [.d .str,.d iT,.d iT,.d iT,.d iT,.d iT,.d (.list iT),.d aB,.d iT,.d iT] e)],[iT,aw,aA,az,aC,.str,iT,iT,iT,iT,iT,(.list iT),aB,iT,iT],[⟨.ret,[sI],[iT]⟩,⟨.exit 1,[sB 128 0,sB 192 0,.b (.cell [.d aw,.d aA,.d az,.d aC] e),.b (.cell [.d .str,.d iT,.d iT,.d iT,.d iT,.d iT,.d (.list iT),.d aB,.d iT,.d iT] e)],[aw,aA,az,aC,.str,iT,iT,iT,iT,iT,(.list iT),aB,iT,iT]⟩],Pw.u8 Pw.unc7 (Pw.j4E)⟩]
 keep:=[(1,⟨[2,3,5],[128,192],[],[]⟩)]
 keepX:=[(1,.ret,⟨[4],[],[],[]⟩),(1,.exit 1,⟨[2,3],[128,192],[],[]⟩)]
theorem ŧ:aJ Mc:=
 cOf aH aK Ŧ Mc Tryz.func196 (jg CT (jg L7 (jg Ma c))) (jg (λh=>by kernel_rfl) c)
def Md:Con:=⟨197,[.v aF,.v ew],[aF,ew],⟨[.v iT],[]⟩,[iT],Pw.unc2 Pw.jg0⟩
def Ũ:FnD where
 N:=86
 np:=2
 cs:=[wR,CX]
theorem ũ:aJ Md:=
 cOf aH aK Ũ Md Tryz.func197 (jg CT (jg Ma c)) c
def Me:Con:=⟨134,[.v aF],[aF],⟨[.v iT],[]⟩,[iT],λh=>Pw.jck h⟩
def Ū:FnD where
 N:=95
 np:=1
 cs:=[yQ,Mc,Md]
 ds:=[⟨0,[sB 64 0,sO 1000000,sI,.b (.cell [.d aw,.d aA,.d az,.d aC] e),.b (.lst 9 .str e)],[iT,aw,aA,az,aC,(.list .str)],[⟨.ret,[sI],[iT]⟩,⟨.exit 0,[],[]⟩],Pw.unc6 (Pw.j2U)⟩,⟨2,[sB 64 0,sO 1002000,sI,sB 320 0,sO 1002001,sI,.b (.cell [.d aw,.d aA,.d az,.d aC] e),.b (.cell [.d .str,.d bu,.d bC] e),.b (.lst 9 .str e),.b (.lst 9 .str e)],[iT,iT,aw,aA,az,aC,.str,bu,bC,(.list .str),(.list .str)],[⟨.ret,[sI],[iT]⟩,⟨.exit 2,[sB 64 0,sO 1502300,sI,sB 320 0,.b (.cell [.d aw,.d aA,.d az,.d aC] e),.b (.cell [.d .str,.d bu,.d bC] e),.b (.lst 9 .str e)],[iT,aw,aA,az,aC,.str,bu,bC,(.list .str)]⟩],Pw.u8 Pw.unc3 (Pw.j2S)⟩,⟨4,[sB 64 0,sO 1004000,sI,sB 320 0,sI,.b (.cell [.d aw,.d aA,.d az,.d aC] e),.b (.cell [.d .str,.d bu,.d bC] e),.b (.lst 9 .str e)],[iT,iT,aw,aA,az,aC,.str,bu,bC,(.list .str)],[⟨.ret,[sI],[iT]⟩,⟨.exit 4,[sB 64 0,sO 1504500,sI,.b (.cell [.d aw,.d aA,.d az,.d aC] e),.b (.lst 9 .str e)],[iT,aw,aA,az,aC,(.list .str)]⟩],Pw.u8 Pw.unc2 (Pw.j2T)⟩]
 keep:=[(0,⟨[1,3,4],[64],[⟨1000000,9,.str,[.slot 3],e⟩],[]⟩),(2,⟨[1,3,4,5,7,8],[64,320],[⟨1002000,9,.str,[.slot 3],e⟩,⟨1002001,9,.str,[.slot 7],e⟩],[]⟩),(4,⟨[1,3,4,5,11],[64,320],[⟨1004000,9,.str,[.slot 3],e⟩],[]⟩)]
 keepX:=[(0,.ret,⟨[2],[],[],[]⟩),(2,.ret,⟨[2],[],[],[]⟩),(2,.exit 2,⟨[1,3,4,5],[64,320],[⟨1502300,9,.str,[.slot 3],e⟩],[]⟩),(4,.ret,⟨[2],[],[],[]⟩),(4,.exit 4,⟨[1,3,4],[64],[⟨1504500,9,.str,[.slot 3],e⟩],[]⟩)]
theorem ū:aJ Me:=
 cOf aH aK Ū Me Tryz.func134 (jg Gn (jg ŧ (jg ũ c))) (jg (λh=>by kernel_rfl) (jg (λh=>by kernel_rfl) (jg (λh=>by kernel_rfl) c)))
def CY:Con:=⟨73,[.v aF],[aF],⟨[.v iT],[]⟩,[iT],λh=>Pw.j6s h⟩
def Ŭ:FnD where
 N:=45
 np:=1
 cs:=[L6,L9,Mb,Me]
theorem Mf:aJ CY:=
 cOf aH aK Ŭ CY Tryz.func73 (jg Ŝ (jg Ţ (jg ť (jg ū c)))) c
def Mg:Con:=⟨84,[.v iT,.v iT],[iT,iT],⟨[.v iT],[]⟩,[iT],Pw.unc2 Pw.jlA⟩
def ŭ:FnD where
 N:=12
 np:=2
 ds:=[⟨0,[sI,sI],[iT,iT],[⟨.exit 0,[sI],[iT]⟩],Pw.unc2 (Pw.j7y)⟩]
 keep:=[(0,⟨[0,1],[],[],[]⟩)]
 keepX:=[(0,.exit 0,⟨[0],[],[],[]⟩)]
theorem Ů:aJ Mg:=
 cOf aH aK ŭ Mg Tryz.func84 c (jg (λh=>by kernel_rfl) c)
def CZ:Con:=⟨33,[.v aF,.v iT],[aF,iT],⟨[.v iT,.v iT],[]⟩,[iT,iT],Pw.unc2 Pw.j5Z⟩
def ů:FnD where
 N:=53
 np:=2
 cs:=[CP,CY,Mg]
 ds:=[⟨0,[sI,sD bu,sI],[iT,bu,iT],[⟨.ret,[sI,sI],[iT,iT]⟩,⟨.exit 0,[sI],[iT]⟩],Pw.unc3 (Pw.j47)⟩]
 keep:=[(0,⟨[6,7,8],[],[],[]⟩)]
 keepX:=[(0,.ret,⟨[4,5],[],[],[]⟩),(0,.exit 0,⟨[6],[],[],[]⟩)]
theorem Mh:aJ CZ:=
 cOf aH aK ů CZ Tryz.func33 (jg LU (jg Mf (jg Ů c))) (jg (λh=>by kernel_rfl) c)
def Gs:Con:=⟨22,[.v iT,.v iT],[iT,iT],⟨[.v iT],[]⟩,[iT],Pw.unc2 Pw.jg1⟩
def Ű:FnD where
 N:=12
 np:=2
theorem Tm:aJ Gs:=
 cOf aH aK Ű Gs Tryz.func22 c c
def Mi:Con:=⟨203,[.v aU],[aU],⟨[.v iT],[]⟩,[iT],λh=>Pw.jeY h⟩
def ű:FnD where
 N:=24
 np:=1
 cs:=[wQ]
theorem Ų:aJ Mi:=
 cOf aH aK ű Mi Tryz.func203 (jg CS c) c
def Mj:Con:=⟨137,[.v aU],[aU],⟨[.v iT],[]⟩,[iT],λh=>Pw.jaV h⟩
def ų:FnD where
 N:=20
 np:=1
 cs:=[wQ,Mi]
theorem Ŵ:aJ Mj:=
 cOf aH aK ų Mj Tryz.func137 (jg CS (jg Ų c)) c
def Gt:Con:=⟨204,[.v aU,.v aY],[aU,aY],⟨[.v iT],[]⟩,[iT],Pw.unc2 Pw.ja4⟩
def ŵ:FnD where
 N:=58
 np:=2
 cs:=[Gr]
theorem Tn:aJ Gt:=
 cOf aH aK ŵ Gt Tryz.func204 (jg Tl c) c
def Mk:Con:=⟨207,[.v iT],[iT],⟨[.v .bool],[]⟩,[.bool],λh=>Pw.jdv h⟩
def Ŷ:FnD where
 N:=5
 np:=1
 cs:=[wP]
theorem ŷ:aJ Mk:=
 cOf aH aK Ŷ Mk Tryz.func207 (jg CQ c) c
def C0:Con:=⟨139,[.v aU,.v bT],[aU,bT],⟨[.v iT,.v iT],[]⟩,[iT,iT],Pw.unc2 Pw.j2V⟩
def Ÿ:FnD where
 N:=76
 np:=2
 cs:=[wP,wQ,Mk]
 ds:=[⟨0,[sB 128 0,sB 192 0,sO 1000000,sI,.b (.cell [.d .str,.d iT,.d bN] e),.b (.cell [.d iT,.d iT] e),.b (.lst 200 bT e)],[iT,.str,iT,bN,iT,iT,aB],[⟨.ret,[sI,sI],[iT,iT]⟩,⟨.exit 0,[],[]⟩],Pw.unc7 (Pw.j3C)⟩]
 keep:=[(0,⟨[2,3,6,8],[128,192],[⟨1000000,200,bT,[.slot 6],e⟩],[]⟩)]
 keepX:=[(0,.ret,⟨[4,5],[],[],[]⟩)]
theorem Ml:aJ C0:=
 cOf aH aK Ÿ C0 Tryz.func139 (jg CQ (jg CS (jg ŷ c))) (jg (λh=>by kernel_rfl) c)
def Gu:Con:=⟨205,[.v aU,.v aY,.v iT],[aU,aY,iT],⟨[.v iT,.v .bool],[]⟩,[iT,.bool],Pw.unc3 Pw.j5E⟩
def Ź:FnD where
 N:=66
 np:=3
 cs:=[C0]
theorem To:aJ Gu:=
 cOf aH aK Ź Gu Tryz.func205 (jg Ml c) c
def Mm:Con:=⟨138,[.v aU,.v aY,.v iT],[aU,aY,iT],⟨[.v iT,.v iT],[]⟩,[iT,iT],Pw.unc3 Pw.jaW⟩
def ź:FnD where
 N:=31
 np:=3
 cs:=[Gt,Gu]
theorem Ż:aJ Mm:=
 cOf aH aK ź Mm Tryz.func138 (jg Tn (jg To c)) c
def Mn:Con:=⟨86,[.v aF,.v iT],[aF,iT],⟨[.v iT],[]⟩,[iT],Pw.unc2 Pw.jcl⟩
def ż:FnD where
 N:=134
 np:=2
 cs:=[CY,Mj,C0,Mm]
 ds:=[⟨0,[sB 128 0,sB 320 0,sI,sI,.b (.cell [.d aw,.d aA,.d az,.d aC] e),.b (.cell [.d .str,.d bu,.d bC] e)],[iT,iT,aw,aA,az,aC,.str,bu,bC],[⟨.exit 0,[sB 320 0,sI,.b (.cell [.d .str,.d bu,.d bC] e)],[iT,.str,bu,bC]⟩],Pw.unc9 (Pw.j2F)⟩,⟨2,[sB 320 0,sI,sI,.b (.cell [.d .str,.d bu,.d bC] e)],[iT,iT,.str,bu,bC],[⟨.exit 2,[sI],[iT]⟩],Pw.unc5 (Pw.j3N)⟩]
 keep:=[(0,⟨[2,5,6,7],[128,320],[],[]⟩),(2,⟨[5,6,15],[320],[],[]⟩)]
 keepX:=[(0,.exit 0,⟨[5,6],[320],[],[]⟩),(2,.exit 2,⟨[6],[],[],[]⟩)]
theorem Ž:aJ Mn:=
 cOf aH aK ż Mn Tryz.func86 (jg Mf (jg Ŵ (jg Ml (jg Ż c)))) (jg (λh=>by kernel_rfl) (jg (λh=>by kernel_rfl) c))
end Go.Proofs.Pk
