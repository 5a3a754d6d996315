/- Contracts. -/
import Derived.Test.YtmccfdihkphfaaaGreatCECon0
open Bool renaming false->e,true->j
open _root_ renaming trivial->i,Option->k
noncomputable section
open Go Go.Lft
set_option linter.unusedVariables false
set_option maxRecDepth 100000
namespace Go.Proofs.Pk
def QM:Con:=⟨348,[.rl 349 af,.v iT,.v iT,.v iT,.clo 340 []],[af,iT,iT,iT],⟨[],[.rl af]⟩,[af],Pw.unc4 Pw.j2K⟩
def j97:FnD where
 N:=58
 np:=5
 cs:=[QL]
 ds:=[⟨0,[sO 0,sI,sC 340 [],sI,sI,.b (.lst 349 aR e)],[iT,iT,iT,af],[⟨.exit 0,[sO 0,sI,sC 340 [],sI,.b (.lst 349 aR e)],[iT,iT,af]⟩],Pw.unc4 (Pw.j3l)⟩]
 modes:=[(349,[j,e,e,e,e])]
 keep:=[(0,⟨[0,2,4,10,11],[0],[],[]⟩)]
 keepX:=[(0,.exit 0,⟨[0,2,4,10],[0],[],[]⟩)]
theorem j8R:aJ QM:=
 cOf aM aN j97 QM Tryz.func348 (ja j7Z i) (ja (λh=>by kernel_rfl) i)
def I_:Con:=⟨347,[.rl 349 af,.v iT,.v iT,.v iT,.clo 340 []],[af,iT,iT,iT],⟨[],[.rl af]⟩,[af],λh=>Pw.j2r h.1 h.2.1 h.2.2.1 h.2.2.2⟩
def Kd(g:HL [af,iT,iT,iT]->k (HL [af])):Con:=⟨347,[.rl 349 af,.v iT,.v iT,.v iT,.clo 340 []],[af,iT,iT,iT],⟨[],[.rl af]⟩,[af],g⟩
def j8w(g:HL [af,iT,iT,iT]->k (HL [af])):FnD where
 N:=220
 np:=5
 cs:=[Kd g,Kb,QM]
 ds:=[⟨0,[sO 0,sI,sC 340 [],sI,sI,.b (.lst 349 aR e)],[iT,iT,iT,af],[⟨.exit 0,[sO 0,sI,sI,.b (.lst 349 aR e)],[iT,iT,af]⟩],Pw.unc4 (Pw.j2T (λv0 v1 v2 v3=>g (v0,v1,v2,v3)))⟩,⟨2,[sO 0,sI,sI,.b (.lst 349 aR e)],[iT,iT,af],[⟨.exit 2,[.b (.lst 349 aR e)],[af]⟩],Pw.unc3 (Pw.j2U (λv0 v1 v2 v3=>g (v0,v1,v2,v3)))⟩,⟨4,[sO 0,sI,sC 340 [],sI,sI,.b (.lst 349 aR e)],[iT,iT,iT,af],[⟨.exit 4,[sO 0,sI,sI,.b (.lst 349 aR e)],[iT,iT,af]⟩],Pw.unc4 (Pw.j2V (λv0 v1 v2 v3=>g (v0,v1,v2,v3)))⟩,⟨6,[sO 0,sI,sI,.b (.lst 349 aR e)],[iT,iT,af],[⟨.exit 6,[.b (.lst 349 aR e)],[af]⟩],Pw.unc3 (Pw.j2W (λv0 v1 v2 v3=>g (v0,v1,v2,v3)))⟩,⟨8,[sO 0,sI,sI,sI,sC 340 [],sI,sI,sI,sI,sI,.b (.lst 349 aR e)],[iT,iT,iT,iT,iT,iT,iT,iT,af],[⟨.exit 8,[sO 0,sI,sI,sI,sC 340 [],sI,sI,sI,.b (.lst 349 aR e)],[iT,iT,iT,iT,iT,iT,af]⟩],Pw.unc9 (Pw.j2X (λv0 v1 v2 v3=>g (v0,v1,v2,v3)))⟩]
 modes:=[(347,[j,e,e,e,e]),(348,[j,e,e,e,e])]
 keep:=[(0,⟨[0,1,4,10,11],[0],[],[]⟩),(2,⟨[0,10,13],[0],[],[]⟩),(4,⟨[0,2,4,14,15],[0],[],[]⟩),(6,⟨[0,14,17],[0],[],[]⟩),(8,⟨[0,1,2,3,4,18,19,20,21,22],[0],[],[]⟩)]
 keepX:=[(0,.exit 0,⟨[0,1,10],[0],[],[]⟩),(2,.exit 2,⟨[],[0],[],[]⟩),(4,.exit 4,⟨[0,2,14],[0],[],[]⟩),(6,.exit 6,⟨[],[0],[],[]⟩),(8,.exit 8,⟨[0,1,2,3,4,18,19,20],[0],[],[]⟩)]
 dw:=[(11,[[],[],[],[],[],[],[],[],[],[],[],[],[],[],[],[0],[],[0]]),(23,[[],[],[],[],[],[],[],[],[],[],[],[],[],[],[],[0],[],[0]])]
theorem j7v(g:HL [af,iT,iT,iT]->k (HL [af]))(hg:aJ (Kd g)):aJ (Kd (Pw.j13 g)):=
 cOf aM aN (j8w g) (Kd (Pw.j13 g)) Tryz.func347 (ja hg (ja H_ (ja j8R i))) (ja (λh=>by kernel_rfl) (ja (λh=>by kernel_rfl) (ja (λh=>by kernel_rfl) (ja (λh=>by kernel_rfl) (ja (λh=>by kernel_rfl) i)))))
theorem j8k:aJ I_:=I5 (f:=347) (ps:=[.rl 349 af,.v iT,.v iT,.v iT,.clo 340 []]) (ts:=[af,iT,iT,iT]) (rp:=⟨[],[.rl af]⟩) (rs:=[af]) (B:=Pw.j13) j7v
def QN:Con:=⟨345,[.rl 349 af,.v iT,.clo 340 []],[af,iT],⟨[],[.rl af]⟩,[af],Pw.unc2 Pw.j2L⟩
def j98:FnD where
 N:=63
 np:=3
 cs:=[QK,I_]
 ds:=[⟨0,[sO 0,sI,sC 340 [],sI,sI,sI,.b (.lst 349 aR e)],[iT,iT,iT,iT,af],[⟨.exit 0,[sO 0,sI,sC 340 [],sI,sI,.b (.lst 349 aR e)],[iT,iT,iT,af]⟩],Pw.unc5 (Pw.j0V)⟩,⟨2,[sO 0,sI,sC 340 [],sI,.b (.lst 349 aR e)],[iT,iT,af],[⟨.exit 2,[.b (.lst 349 aR e)],[af]⟩],Pw.unc3 (Pw.j0W)⟩,⟨4,[sO 0,sI,sC 340 [],sI,sI,sI,.b (.lst 349 aR e)],[iT,iT,iT,iT,af],[⟨.exit 4,[sO 0,sI,sC 340 [],sI,sI,.b (.lst 349 aR e)],[iT,iT,iT,af]⟩],Pw.unc5 (Pw.j3m)⟩]
 modes:=[(346,[j,e,e,e]),(347,[j,e,e,e,e])]
 keep:=[(0,⟨[0,1,2,6,7,8],[0],[],[]⟩),(2,⟨[0,1,2,6],[0],[],[]⟩),(4,⟨[0,1,2,6,7,8],[0],[],[]⟩)]
 keepX:=[(0,.exit 0,⟨[0,1,2,6,7],[0],[],[]⟩),(2,.exit 2,⟨[],[0],[],[]⟩),(4,.exit 4,⟨[0,1,2,6,7],[0],[],[]⟩)]
theorem j8S:aJ QN:=
 cOf aM aN j98 QN Tryz.func345 (ja j6G (ja j8k i)) (ja (λh=>by kernel_rfl) (ja (λh=>by kernel_rfl) (ja (λh=>by kernel_rfl) i)))
def QP:Con:=⟨339,[.rl 349 af,.clo 340 []],[af],⟨[],[.rl af]⟩,[af],λh=>Pw.j0f h⟩
def j50:FnD where
 N:=9
 np:=2
 cs:=[QN]
 modes:=[(345,[j,e,e])]
theorem j4F:aJ QP:=
 cOf aM aN j50 QP Tryz.func339 (ja j8S i) i
def QQ:Con:=⟨327,[.v bj],[bj],⟨[.own 349 af,.v iT],[]⟩,[af,iT],λh=>Pw.j2R h⟩
def jmr:FnD where
 N:=86
 np:=1
 cs:=[Gl,QD,QJ,QP]
 ds:=[⟨0,[sB 64 0,sI,sD bQ,sI,sI,.b (.cell [.d .str,.d iT,.d bQ] e)],[iT,bQ,iT,iT,.str,iT,bQ],[⟨.ret,[.s (.one (.nil)),sI],[iT]⟩,⟨.exit 0,[sB 64 0,sI,.b (.cell [.d .str,.d iT,.d bQ] e)],[iT,.str,iT,bQ]⟩],Pw.unc7 (Pw.j2a)⟩,⟨2,[sO 1002000,sD bQ,sI,sI,.b (.lst 349 aR e)],[bQ,iT,iT,af],[⟨.exit 2,[sO 1502300,.b (.lst 349 aR e)],[af]⟩],Pw.unc4 (Pw.j33)⟩,⟨4,[sO 1004000,sB 640 0,sI,sD bQ,sI,sI,.b (.cell [.d iT,.d iT,.d iT,.d iT,.d iT,.d iT,.d iT] e),.b (.lst 349 aR e)],[iT,bQ,iT,iT,iT,iT,iT,iT,iT,iT,iT,af],[⟨.exit 4,[sO 1504500,sD bQ,sI,sI,.b (.lst 349 aR e)],[bQ,iT,iT,af]⟩],Pw.u8 Pw.unc4 (Pw.j32)⟩]
 modes:=[(339,[j,e])]
 keep:=[(0,⟨[1,4,23,24,25],[64],[],[]⟩),(2,⟨[8,46,47,48],[],[⟨1002000,349,aR,[.slot 8],e⟩],[]⟩),(4,⟨[8,10,11,46,47,48],[640],[⟨1004000,349,aR,[.slot 8],e⟩],[]⟩)]
 keepX:=[(0,.ret,⟨[2,3],[],[],[]⟩),(0,.exit 0,⟨[1,4],[64],[],[]⟩),(2,.exit 2,⟨[8],[],[⟨1502300,349,aR,[.slot 8],e⟩],[]⟩),(4,.exit 4,⟨[8,46,47,48],[],[⟨1504500,349,aR,[.slot 8],e⟩],[]⟩)]
 ro:=[j,e]
theorem jlg:aJ QQ:=
 cOf aM aN jmr QQ Tryz.func327 (ja QC (ja jv4 (ja jv7 (ja j4F i)))) (ja (λh=>by kernel_rfl) (ja (λh=>by kernel_rfl) (ja (λh=>by kernel_rfl) i)))
def Ke:Con:=⟨305,[.v bj],[bj],⟨[.own 201 af,.v iT],[]⟩,[af,iT],λh=>Pw.j14 h⟩
def jms:FnD where
 N:=79
 np:=1
 cs:=[Gl,QQ]
 ds:=[⟨0,[sO 1000000,sI,sO 1000001,sI,sI,.b (.lst 201 aR e),.b (.lst 349 aR e)],[iT,iT,iT,af,af],[⟨.ret,[.s (.one (.nil)),sI],[iT]⟩,⟨.exit 0,[sO 1500100,.b (.lst 201 aR e)],[af]⟩],Pw.unc5 (Pw.j1C)⟩]
 keep:=[(0,⟨[6,7,22,23,24],[],[⟨1000000,201,aR,[.slot 6],e⟩,⟨1000001,349,aR,[.slot 22],e⟩],[]⟩)]
 keepX:=[(0,.ret,⟨[2,3],[],[],[]⟩),(0,.exit 0,⟨[6],[],[⟨1500100,201,aR,[.slot 6],e⟩],[]⟩)]
 ro:=[j,e]
theorem J_:aJ Ke:=
 cOf aM aN jms Ke Tryz.func305 (ja QC (ja jlg i)) (ja (λh=>by kernel_rfl) i)
def QR:Con:=⟨247,[.v bj],[bj],⟨[.v iT],[]⟩,[iT],λh=>Pw.jh5 h⟩
def jv8:FnD where
 N:=11
 np:=1
 cs:=[Ke]
theorem jtb:aJ QR:=
 cOf aM aN jv8 QR Tryz.func247 (ja J_ i) i
def QS:Con:=⟨249,[.v po],[po],⟨[.v .bool],[]⟩,[.bool],λh=>Pw.j9m h⟩
def jiI:FnD where
 N:=7
 np:=1
theorem jhZ:aJ QS:=
 cOf aM aN jiI QS Tryz.func249 i i
def QT:Con:=⟨306,[.v bQ,.clo 249 []],[bQ],⟨[.v iT],[]⟩,[iT],λh=>Pw.j1T h⟩
def j78:FnD where
 N:=19
 np:=2
 cs:=[QS]
 ds:=[⟨0,[sD bQ,sC 249 [],sI,sI],[bQ,iT,iT],[⟨.ret,[sI],[iT]⟩,⟨.exit 0,[],[]⟩],Pw.unc3 (Pw.j0i)⟩]
 keep:=[(0,⟨[0,1,7,8],[],[],[]⟩)]
 keepX:=[(0,.ret,⟨[4],[],[],[]⟩)]
theorem j76:aJ QT:=
 cOf aM aN j78 QT Tryz.func306 (ja jhZ i) (ja (λh=>by kernel_rfl) i)
def QU:Con:=⟨248,[.v bQ,.clo 249 []],[bQ],⟨[.v .bool],[]⟩,[.bool],λh=>Pw.j0S h⟩
def j6A:FnD where
 N:=9
 np:=2
 cs:=[QT]
theorem j6r:aJ QU:=
 cOf aM aN j6A QU Tryz.func248 (ja j76 i) i
def QV:Con:=⟨190,[.v bj],[bj],⟨[.v iT],[]⟩,[iT],λh=>Pw.j2s h⟩
def jlh:FnD where
 N:=17
 np:=1
 cs:=[QR,QU]
theorem jkk:aJ QV:=
 cOf aM aN jlh QV Tryz.func190 (ja jtb (ja j6r i)) i
def QW:Con:=⟨188,[.v al,.clo 189 [],.clo 190 []],[al],⟨[.v iT],[]⟩,[iT],λh=>Pw.j3U h⟩
def jhm:FnD where
 N:=34
 np:=3
 cs:=[Qy,AZ,QV]
 ds:=[⟨0,[sC 189 [],sC 190 [],sO 1000000,sD al,sI,sI,.b (.lst 4294967535 (.pair .str .bool) e)],[al,iT,iT,(.list (.pair .str .bool))],[⟨.ret,[sI],[iT]⟩,⟨.exit 0,[],[]⟩],Pw.unc4 (Pw.j1c)⟩]
 modes:=[(191,[e,j])]
 keep:=[(0,⟨[1,2,7,13,14,15],[],[⟨1000000,4294967535,(.pair .str .bool),[.slot 7],e⟩],[]⟩)]
 keepX:=[(0,.ret,⟨[6],[],[],[]⟩)]
theorem jgr:aJ QW:=
 cOf aM aN jhm QW Tryz.func188 (ja jlf (ja Gk (ja jkk i))) (ja (λh=>by kernel_rfl) i)
def Ba:Con:=⟨251,[.v iT,.v iT],[iT,iT],⟨[.v .bool],[]⟩,[.bool],Pw.unc2 Pw.j1a⟩
def jq0:FnD where
 N:=12
 np:=2
theorem Gn:aJ Ba:=
 cOf aM aN jq0 Ba Tryz.func251 i i
def Kf:Con:=⟨252,[.v af],[af],⟨[.v iT],[]⟩,[iT],λh=>Pw.jei h⟩
def jv9:FnD where
 N:=46
 np:=1
 ds:=[⟨0,[sD af,sD af,sI,sI],[af,af,iT,iT],[⟨.ret,[sI],[iT]⟩,⟨.exit 0,[],[]⟩],Pw.unc4 (Pw.j65)⟩]
 keep:=[(0,⟨[0,8,9,10],[],[],[]⟩)]
 keepX:=[(0,.ret,⟨[2],[],[],[]⟩)]
theorem K_:aJ Kf:=
 cOf aM aN jv9 Kf Tryz.func252 i (ja (λh=>by kernel_rfl) i)
def Gp:Con:=⟨309,[.v iT,.v iT,.v iT],[iT,iT,iT],⟨[.v .bool],[]⟩,[.bool],Pw.unc3 Pw.j3I⟩
def jva:FnD where
 N:=15
 np:=3
theorem QX:aJ Gp:=
 cOf aM aN jva Gp Tryz.func309 i i
def QY:Con:=⟨253,[.v iT],[iT],⟨[.v .bool],[]⟩,[.bool],λh=>Pw.j7l h⟩
def jq1:FnD where
 N:=10
 np:=1
 cs:=[Gp]
theorem jot:aJ QY:=
 cOf aM aN jq1 QY Tryz.func253 (ja QX i) i
def QZ:Con:=⟨192,[.v aG,.v fY],[aG,fY],⟨[.v iT],[]⟩,[iT],Pw.unc2 Pw.j5B⟩
def jjr:FnD where
 N:=29
 np:=2
 cs:=[Ba,Kf,QY]
theorem jiJ:aJ QZ:=
 cOf aM aN jjr QZ Tryz.func192 (ja Gn (ja K_ (ja jot i))) i
def Q0:Con:=⟨194,[.v fm],[fm],⟨[.v .str],[]⟩,[.str],λh=>Pw.ja3 h⟩
def jmu:FnD where
 N:=5
 np:=1
theorem jli:aJ Q0:=
 cOf aM aN jmu Q0 Tryz.func194 i i
def Q1:Con:=⟨330,[.v iT],[iT],⟨[.v iT],[]⟩,[iT],λh=>Pw.jk4 h⟩
def jvb:FnD where
 N:=15
 np:=1
 cs:=[Ka,Gm]
 ds:=[⟨0,[sI,sI],[iT,iT],[⟨.exit 0,[sI],[iT]⟩],Pw.unc2 (Pw.j66)⟩]
 keep:=[(0,⟨[0,3],[],[],[]⟩)]
 keepX:=[(0,.exit 0,⟨[3],[],[],[]⟩)]
theorem jtc:aJ Q1:=
 cOf aM aN jvb Q1 Tryz.func330 (ja G_ (ja QG i)) (ja (λh=>by kernel_rfl) i)
def Q2:Con:=⟨310,[.v iT],[iT],⟨[.v aT,.v iT],[]⟩,[aT,iT],λh=>Pw.j67 h⟩
def jqX:FnD where
 N:=45
 np:=1
 cs:=[Dk,Gm,Q1]
 ds:=[⟨0,[sB 128 0,sB 256 0,sI,.b (.cell [.d iT,.d iT,.d iT] e),.b (.cell [.d iT,.d iT,.d iT] e)],[iT,iT,iT,iT,iT,iT,iT],[⟨.exit 0,[sB 128 0,sB 256 0,sI,.b (.cell [.d iT,.d iT,.d iT] e),.b (.cell [.d iT,.d iT,.d iT] e)],[iT,iT,iT,iT,iT,iT,iT]⟩],Pw.unc7 (Pw.j53)⟩]
 keep:=[(0,⟨[2,4,5],[128,256],[],[]⟩)]
 keepX:=[(0,.exit 0,⟨[2,4,5],[128,256],[],[]⟩)]
theorem jq2:aJ Q2:=
 cOf aM aN jqX Q2 Tryz.func310 (ja J9 (ja QG (ja jtc i))) (ja (λh=>by kernel_rfl) i)
end Go.Proofs.Pk
