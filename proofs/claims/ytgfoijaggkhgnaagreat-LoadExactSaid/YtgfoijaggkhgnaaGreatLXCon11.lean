/- cB: each given function is its plain function, printed by a program. -/
import Derived.Test.YtgfoijaggkhgnaaGreatLXCon10
open _root_ renaming trivial->e
open Bool renaming false->h
noncomputable section
open Go Go.Lft
set_option linter.unusedVariables false
set_option maxRecDepth 100000
namespace Go.Proofs.Pk
def Qp:Con:=⟨76,[.v iT,.v iT],[iT,iT],⟨[.v iT],[]⟩,[iT],Pw.unc2 Pw.jv0⟩
def jAu:FnD where
 N:=12
 np:=2
 ds:=[⟨0,[sI,sI],[iT,iT],[⟨.exit 0,[sI],[iT]⟩],Pw.unc2 (Pw.j7R)⟩]
 keep:=[(0,⟨[0,1],[],[],[]⟩)]
 keepX:=[(0,.exit 0,⟨[0],[],[],[]⟩)]
theorem jyn:aG Qp:=
 cOf aJ aK jAu Qp Tryz.func76 e (ja (λh=>by kernel_rfl) e)
def KR:Con:=⟨55,[.v iT,.v iT],[iT,iT],⟨[.v aN,.v iT],[]⟩,[aN,iT],Pw.unc2 Pw.jof⟩
def jAv:FnD where
 N:=30
 np:=2
 cs:=[Qn,Qo,Qp]
 dw:=[(4,[[],[],[],[],[],[],[],[256],[]])]
theorem eA:aG KR:=
 cOf aJ aK jAv KR Tryz.func55 (ja jAt (ja jvg (ja jyn e))) e
def Qq:Con:=⟨23,[.v ak,.v (.list iT)],[ak,(.list iT)],⟨[.v aN,.v iT],[]⟩,[aN,iT],Pw.unc2 Pw.jni⟩
def jyo:FnD where
 N:=69
 np:=2
 cs:=[Be,G4,KR]
 ds:=[⟨0,[sD ak,sD (.list iT),sB 256 0,sI,sI,sI,.b (.cell [.d iT,.d iT] h)],[ak,(.list iT),iT,iT,iT,iT,iT],[⟨.exit 0,[sD ak,sD (.list iT),sB 256 0,sI,sI,.b (.cell [.d iT,.d iT] h)],[ak,(.list iT),iT,iT,iT,iT]⟩],Pw.unc7 (Pw.j6Z)⟩,⟨2,[sD ak,sD (.list iT),sB 256 0,sI,sI,sI,.b (.cell [.d iT,.d iT] h)],[ak,(.list iT),iT,iT,iT,iT,iT],[⟨.exit 2,[sD (.list iT),sB 256 0,sI,sI,.b (.cell [.d iT,.d iT] h)],[(.list iT),iT,iT,iT,iT]⟩],Pw.unc7 (Pw.j70)⟩]
 keep:=[(0,⟨[0,1,4,6,7,8],[256],[],[]⟩),(2,⟨[0,1,4,6,7,9],[256],[],[]⟩)]
 keepX:=[(0,.exit 0,⟨[0,1,4,6,7],[256],[],[]⟩),(2,.exit 2,⟨[1,4,6,7],[256],[],[]⟩)]
theorem jvh:aG Qq:=
 cOf aJ aK jyo Qq Tryz.func23 (ja G3 (ja Qm (ja eA e))) (ja (λh=>by kernel_rfl) (ja (λh=>by kernel_rfl) e))
def Qr:Con:=⟨25,[.v ak,.v iT],[ak,iT],⟨[.v aN,.v iT],[]⟩,[aN,iT],Pw.unc2 Pw.jl0⟩
def jvi:FnD where
 N:=24
 np:=2
 cs:=[Be,KQ,G4,KR]
theorem jts:aG Qr:=
 cOf aJ aK jvi Qr Tryz.func25 (ja G3 (ja _B (ja Qm (ja eA e)))) e
def Qs:Con:=⟨27,[.v ak,.v (.list iT)],[ak,(.list iT)],⟨[.v iT],[]⟩,[iT],Pw.unc2 Pw.jiN⟩
def jtt:FnD where
 N:=46
 np:=2
 cs:=[Be,G4]
 ds:=[⟨0,[sD ak,sD (.list iT),sI,sI,sI],[ak,(.list iT),iT,iT,iT],[⟨.exit 0,[sI,sI],[iT,iT]⟩],Pw.unc5 (Pw.j3H)⟩]
 keep:=[(0,⟨[0,1,5,6,7],[],[],[]⟩)]
 keepX:=[(0,.exit 0,⟨[5,6],[],[],[]⟩)]
theorem jrr:aG Qs:=
 cOf aJ aK jtt Qs Tryz.func27 (ja G3 (ja Qm e)) (ja (λh=>by kernel_rfl) e)
def _C:Con:=⟨3,[.v (.list iT),.v ak,.v bG,.v (.list iT),.v iT,.v iT],[(.list iT),ak,bG,(.list iT),iT,iT],⟨[.v .bool],[]⟩,[.bool],Pw.unc6 Pw.jdz⟩
def jm3:FnD where
 N:=260
 np:=6
 cs:=[PE,GX,KF,KG,KH,PK,PL,pW,uI,KK,PS,PT,KL,KM,Qt,Qg,Qh,Qi,Qk,Ql,KQ,Qq,Qr,Qs]
 ds:=[⟨0,[sD ak,sD (.list iT),sI,sI,sB 4160 0,sB 896 0,sI,.s (.av 3 bG),sI,.b (.cell [.d ay,.d aB,.d aA,.d aF] h),.b (.cell [.d (.list iT),.d iT] h)],[ak,(.list iT),iT,iT,iT,A9,iT,ay,aB,aA,aF,(.list iT),iT],[⟨.ret,[sD .bool],[.bool]⟩,⟨.exit 0,[sD ak,sD (.list iT),sI,sB 4160 0,.b (.cell [.d (.list iT),.d iT] h)],[ak,(.list iT),iT,(.list iT),iT]⟩],Pw.u8 Pw.unc5 (Pw.j1q)⟩,⟨2,[sD ak,sD (.list iT),sI,sI,sB 4160 0,sB 896 0,sI,sD bG,.s (.av 3 bG),sI,.s (.av 2 iT),sI,.b (.cell [.d ay,.d aB,.d aA,.d aF] h),.b (.cell [.d (.list iT),.d iT] h)],[ak,(.list iT),iT,iT,iT,bG,A9,iT,(.list iT),iT,ay,aB,aA,aF,(.list iT),iT],[⟨.ret,[sD .bool],[.bool]⟩,⟨.exit 2,[sD ak,sD (.list iT),sI,sI,sB 4160 0,sB 896 0,sI,.s (.av 3 bG),sI,.b (.cell [.d ay,.d aB,.d aA,.d aF] h),.b (.cell [.d (.list iT),.d iT] h)],[ak,(.list iT),iT,iT,iT,A9,iT,ay,aB,aA,aF,(.list iT),iT]⟩],Pw.u8 Pw.unc8 (Pw.j1p)⟩,⟨4,[sD (.list iT),sI,sB 4160 0,.s (.av 3 wB),sI,.b (.cell [.d (.list iT),.d iT] h)],[(.list iT),iT,Ba,iT,(.list iT),iT],[⟨.ret,[sD .bool],[.bool]⟩,⟨.exit 4,[],[]⟩],Pw.unc6 (Pw.j1s)⟩,⟨6,[sD (.list iT),sI,sB 4160 0,sB 1920 0,.s (.av 3 wB),sI,.s (.av 2 (.list iT)),sI,.b (.cell [.d ak,.d ak] h),.b (.cell [.d (.list iT),.d iT] h)],[(.list iT),iT,Ba,iT,(.list (.list iT)),iT,ak,ak,(.list iT),iT],[⟨.ret,[sD .bool],[.bool]⟩,⟨.exit 6,[sD (.list iT),sI,sB 4160 0,.s (.av 3 wB),sI,.b (.cell [.d (.list iT),.d iT] h)],[(.list iT),iT,Ba,iT,(.list iT),iT]⟩],Pw.u8 Pw.unc2 (Pw.j1r)⟩]
 keep:=[(0,⟨[1,3,4,5,13,14,16,87,88],[896,4160],[],[]⟩),(2,⟨[1,3,4,5,13,14,16,19,87,88,99,100],[896,4160],[],[]⟩),(4,⟨[3,4,13,151,152],[4160],[],[]⟩),(6,⟨[3,4,13,30,151,152,194,195],[1920,4160],[],[]⟩)]
 keepX:=[(0,.ret,⟨[12],[],[],[]⟩),(0,.exit 0,⟨[1,3,4,13],[4160],[],[]⟩),(2,.ret,⟨[12],[],[],[]⟩),(2,.exit 2,⟨[1,3,4,5,13,14,16,87,88],[896,4160],[],[]⟩),(4,.ret,⟨[12],[],[],[]⟩),(6,.ret,⟨[12],[],[],[]⟩),(6,.exit 6,⟨[3,4,13,151,152],[4160],[],[]⟩)]
theorem law17_LoadExact_ok:aG _C:=
 cOf aJ aK jm3 _C Tryz.func3 (ja jrh (ja PG (ja _r (ja _s (ja _t (ja jrk (ja jth (ja r7 (ja xV (ja _v (ja jjS (ja jiW (ja _w (ja _x (ja jrK (ja jtp (ja jrq (ja jl8 (ja jtr (ja jvf (ja _B (ja jvh (ja jts (ja jrr e)))))))))))))))))))))))) (ja (λh=>by kernel_rfl) (ja (λh=>by kernel_rfl) (ja (λh=>by kernel_rfl) (ja (λh=>by kernel_rfl) e))))
end Go.Proofs.Pk
