/- cJ: each given function is its plain function, printed by a program. -/
import Derived.Test.YtllkgjaoejhneaaGreatSECon2
open _root_ renaming trivial->e
open Bool renaming false->i,true->j
noncomputable section
open Go Go.Lft
set_option linter.unusedVariables false
set_option maxRecDepth 100000
namespace Go.Proofs.Pk
def Iz:Con:=⟨66,[.v aR],[aR],⟨[.v ej,.v .bool],[]⟩,[ej,.bool],λh=>Pw.jh2 h⟩
def jwk:FnD where
 N:=10
 np:=1
 cs:=[Od,Og]
theorem WQ:aN Iz:=
 cOf aP aQ jwk Iz Tryz.func66 (jg jjU (jg jq5 e)) e
def IA:Con:=⟨67,[.v aR,.v iT],[aR,iT],⟨[.v .bool],[]⟩,[.bool],Pw.unc2 Pw.j83⟩
def joo:FnD where
 N:=14
 np:=2
theorem WR:aN IA:=
 cOf aP aQ joo IA Tryz.func67 e e
def Oh:Con:=⟨147,[.v iT,.v iT],[iT,iT],⟨[.v .bool],[]⟩,[.bool],Pw.unc2 Pw.jj9⟩
def jq6:FnD where
 N:=26
 np:=2
theorem jop:aN Oh:=
 cOf aP aQ jq6 Oh Tryz.func147 e e
def Oi:Con:=⟨110,[.v aR,.v iT,.v iT,.v iT],[aR,iT,iT,iT],⟨[.v ej,.v iT],[]⟩,[ej,iT],Pw.unc4 Pw.j9o⟩
def joq:FnD where
 N:=34
 np:=4
 cs:=[Iz,IA,Oh]
theorem jmh:aN Oi:=
 cOf aP aQ joq Oi Tryz.func110 (jg WQ (jg WR (jg jop e))) e
def IB:Con:=⟨158,[.v bL],[bL],⟨[.clo 224 [.p [bL]]],[]⟩,[bL],λh=>Pw.j0R h⟩
def j7j:FnD where
 N:=4
 np:=1
theorem WS:aN IB:=
 cOf aP aQ j7j IB Tryz.func158 e e
def IC:Con:=⟨209,[.v bu],[bu],⟨[.v iT],[]⟩,[iT],λh=>Pw.j9p h⟩
def jq7:FnD where
 N:=11
 np:=1
theorem WT:aN IC:=
 cOf aP aQ jq7 IC Tryz.func209 e e
def Oj:Con:=⟨270,[.v iT,.ip [iT,ag],.ip [iT]],[iT,iT,ag,iT],⟨[.v .bool],[]⟩,[.bool],Pw.unc4 Pw.j84⟩
def jfC:FnD where
 N:=13
 np:=3
theorem jf8:aN Oj:=
 cOf aP aQ jfC Oj Tryz.func270 e e
def Ol:Con:=⟨269,[.v iT,.clo 270 [.p [iT,ag],.p [iT]]],[iT,iT,ag,iT],⟨[.v iT],[]⟩,[iT],Pw.unc4 Pw.jh3⟩
def jor:FnD where
 N:=26
 np:=2
 cs:=[Oj]
 ds:=[⟨0,[sC 270 [.p [iT,ag],.p [iT]],sI,sI],[iT,ag,iT,iT,iT],[⟨.exit 0,[sI],[iT]⟩],Pw.unc5 (Pw.j2W)⟩]
 keep:=[(0,⟨[1,5,6],[],[],[]⟩)]
 keepX:=[(0,.exit 0,⟨[5],[],[],[]⟩)]
theorem jmi:aN Ol:=
 cOf aP aQ jor Ol Tryz.func269 (jg jf8 e) (jg (λh=>by kernel_rfl) e)
def ID:Con:=⟨240,[.v cZ,.v iT],[cZ,iT],⟨[.v iT],[]⟩,[iT],Pw.unc2 Pw.j5V⟩
def jin:FnD where
 N:=10
 np:=2
 cs:=[Ol]
theorem WU:aN ID:=
 cOf aP aQ jin ID Tryz.func240 (jg jmi e) e
def IE:Con:=⟨239,[.v cZ,.v iT],[cZ,iT],⟨[.v iT],[]⟩,[iT],Pw.unc2 Pw.j4b⟩
def jhh:FnD where
 N:=16
 np:=2
theorem WV:aN IE:=
 cOf aP aQ jhh IE Tryz.func239 e e
def E3:Con:=⟨218,[.v cZ,.v iT,.v iT],[cZ,iT,iT],⟨[.own 247 aY],[]⟩,[aY],Pw.unc3 Pw.j1O⟩
def jhi:FnD where
 N:=41
 np:=3
 cs:=[ID,IE]
 ds:=[⟨0,[sI,sI,sB 192 0,sO 1000000,.b (.cell [.d iT,.d ag] i),.b (.lst 247 aZ i)],[iT,iT,iT,ag,aY],[⟨.exit 0,[sO 1500100,.b (.lst 247 aZ i)],[aY]⟩],Pw.unc5 (Pw.j0y)⟩]
 keep:=[(0,⟨[1,2,3,7],[192],[⟨1000000,247,aZ,[.slot 7],i⟩],[]⟩)]
 keepX:=[(0,.exit 0,⟨[7],[],[⟨1500100,247,aZ,[.slot 7],i⟩],[]⟩)]
 ro:=[j]
theorem Om:aN E3:=
 cOf aP aQ jhi E3 Tryz.func218 (jg WU (jg WV e)) (jg (λh=>by kernel_rfl) e)
def On:Con:=⟨238,[.v aT],[aT],⟨[.v iT],[]⟩,[iT],λh=>Pw.j46 h⟩
def jmj:FnD where
 N:=11
 np:=1
theorem jlo:aN On:=
 cOf aP aQ jmj On Tryz.func238 e e
def Oo:Con:=⟨202,[.v cZ,.v aT],[cZ,aT],⟨[.v iT,.v .bool],[]⟩,[iT,.bool],Pw.unc2 Pw.j2H⟩
def jio:FnD where
 N:=30
 np:=2
 cs:=[E3,On]
 ds:=[⟨0,[sB 192 0,sO 1000000,sI,sI,.b (.cell [.d iT,.d iT] i),.b (.lst 247 aZ i)],[iT,iT,iT,iT,aY],[⟨.ret,[sI,sD .bool],[iT,.bool]⟩,⟨.exit 0,[],[]⟩],Pw.unc5 (Pw.j1m)⟩]
 keep:=[(0,⟨[3,10,11,12],[192],[⟨1000000,247,aZ,[.slot 10],i⟩],[]⟩)]
 keepX:=[(0,.ret,⟨[4,5],[],[],[]⟩)]
theorem jhj:aN Oo:=
 cOf aP aQ jio Oo Tryz.func202 (jg Om (jg jlo e)) (jg (λh=>by kernel_rfl) e)
def E4:Con:=⟨148,[.v cZ,.v bu,.v iT],[cZ,bu,iT],⟨[.v iT,.v .bool],[]⟩,[iT,.bool],Pw.unc3 Pw.j0Q⟩
def jip:FnD where
 N:=50
 np:=3
 cs:=[IC,Oo]
 dw:=[(5,[[],[],[],[],[],[],[],[],[512]])]
theorem Oq:aN E4:=
 cOf aP aQ jip E4 Tryz.func148 (jg WT (jg jhj e)) e
def WW:Con:=⟨247,[.v ag],[ag],⟨[.own 131 ag],[]⟩,[ag],λh=>Pw.j3b h⟩
def j93:FnD where
 N:=8
 np:=1
 ro:=[j]
theorem j8W:aN WW:=
 ž aP aQ j93 247 aT 131 Tryz.f247 (Tryz.f247.body.getD .skip) Tryz.func247 (by kernel_rfl) (by kernel_rfl) (Nat.le_of_ble_eq_true (by kernel_rfl)) (by kernel_rfl) e (by kernel_rfl)
  (λh R k=>by kernel_rfl)
def IF:Con:=⟨248,[.v aT],[aT],⟨[.v .bool],[]⟩,[.bool],λh=>Pw.j8z h⟩
def jlp:FnD where
 N:=8
 np:=1
theorem WX:aN IF:=
 cOf aP aQ jlp IF Tryz.func248 e e
def Ot:Con:=⟨272,[.rl 131 ag,.clo 248 []],[ag],⟨[.v iT],[.rl ag]⟩,[iT,ag],λh=>Pw.j2o h⟩
def j7B:FnD where
 N:=19
 np:=2
 cs:=[IF]
 ds:=[⟨0,[sO 0,sC 248 [],sI,sI,.b (.lst 131 aT i)],[iT,iT,ag],[⟨.ret,[sI,.b (.lst 131 aT i)],[iT,ag]⟩,⟨.exit 0,[.b (.lst 131 aT i)],[ag]⟩],Pw.unc3 (Pw.j0u)⟩]
 keep:=[(0,⟨[0,1,7,8],[0],[],[]⟩)]
 keepX:=[(0,.ret,⟨[4],[0],[],[]⟩),(0,.exit 0,⟨[],[0],[],[]⟩)]
theorem j7m:aN Ot:=
 cOf aP aQ j7B Ot Tryz.func272 (jg WX e) (jg (λh=>by kernel_rfl) e)
def Ou:Con:=⟨246,[.rl 131 ag,.clo 248 []],[ag],⟨[.hd],[.rl ag]⟩,[iT,ag],λh=>Pw.j1u h⟩
def j7n:FnD where
 N:=42
 np:=2
 cs:=[IF,Ot]
 ds:=[⟨0,[sO 0,sC 248 [],sI,sI,.b (.lst 131 aT i)],[iT,iT,ag],[⟨.exit 0,[sO 0,sI,.b (.lst 131 aT i)],[iT,ag]⟩],Pw.unc3 (Pw.j0s)⟩]
 modes:=[(272,[j,i])]
 keep:=[(0,⟨[0,1,5,6],[0],[],[]⟩)]
 keepX:=[(0,.exit 0,⟨[0,5],[0],[],[]⟩)]
 hd:=j
theorem j74:aN Ou:=
 cOf aP aQ j7n Ou Tryz.func246 (jg WX (jg j7m e)) (jg (λh=>by kernel_rfl) e)
def Ov:Con:=⟨250,[.v aT,.v aT],[aT,aT],⟨[.v iT],[]⟩,[iT],Pw.unc2 Pw.j6W⟩
def jlq:FnD where
 N:=10
 np:=2
theorem juG:aN Ov:=
 cOf aP aQ jlq Ov Tryz.func250 e e
def WY:Con:=⟨249,[.rl 131 ag,.clo 250 []],[ag],⟨[],[.rl ag]⟩,[ag],λh=>Pw.j0W h⟩
def jbi:FnD where
 N:=14
 np:=2
 cs:=[Ov]
theorem j44:aN WY:=
 Vf Tryz.sort249 (aT) rfl 131 (by kernel_rfl) Tryz.isAgg131 Tryz.sizeOf131 _ 250 (enters_of Tryz.func250 (by kernel_rfl) rfl) jrE jrF 249 rfl
end Go.Proofs.Pk
