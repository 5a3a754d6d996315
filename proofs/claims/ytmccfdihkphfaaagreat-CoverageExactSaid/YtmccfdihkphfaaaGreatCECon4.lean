/- Contracts. -/
import Derived.Test.YtmccfdihkphfaaaGreatCECon3
open Bool renaming false->e,true->j
open _root_ renaming trivial->i
noncomputable section
open Go Go.Lft
set_option linter.unusedVariables false
set_option maxRecDepth 100000
namespace Go.Proofs.Pk
def KF:Con:=⟨80,[.v eE,.v cD],[eE,cD],⟨[.v iT],[]⟩,[iT],Pw.unc2 Pw.j4V⟩
def jmF:FnD where
 N:=95
 np:=2
 cs:=[Kz,Sa,KD,Dp]
 ds:=[⟨0,[sB 128 0,sB 192 0,sB 320 0,sD ak,sI,sI,.b (.cell [.d al,.d au,.d ar,.d ay,.d cX] e),.b (.cell [.d .str,.d bh,.d ak] e),.b (.cell [.d iT] e)],[ak,iT,iT,al,au,ar,ay,cX,.str,bh,ak,iT],[⟨.exit 0,[sB 128 0,sB 192 0,sB 320 0,.b (.cell [.d al,.d au,.d ar,.d ay,.d cX] e),.b (.cell [.d .str,.d bh,.d ak] e),.b (.cell [.d iT] e)],[al,au,ar,ay,cX,.str,bh,ak,iT]⟩],Pw.u8 Pw.unc4 (Pw.j37)⟩,⟨2,[sB 128 0,sB 320 0,.s (.one (.clr 137 [128,320])),sD bh,sI,sI,.b (.cell [.d al,.d au,.d ar,.d ay,.d cX] e),.b (.cell [.d iT] e)],[bh,iT,iT,al,au,ar,ay,cX,iT],[⟨.exit 2,[sB 320 0,.b (.cell [.d iT] e)],[iT]⟩],Pw.unc9 (Pw.j2b)⟩]
 keep:=[(0,⟨[2,3,5,18,19,20],[128,192,320],[],[]⟩),(2,⟨[2,5,8,31,32,33],[128,320],[],[]⟩)]
 keepX:=[(0,.exit 0,⟨[2,3,5],[128,192,320],[],[]⟩),(2,.exit 2,⟨[5],[320],[],[]⟩)]
 cr:=[137]
theorem Κ:aJ KF:=
 cOf aM aN jmF KF Tryz.func80 (ja Ε (ja jiK (ja Ι (ja KE i)))) (ja (λh=>by kernel_rfl) (ja (λh=>by kernel_rfl) i))
def Λ:Con:=⟨163,[.v (.list iT)],[(.list iT)],⟨[.own 3 (.list iT)],[]⟩,[(.list iT)],λh=>Pw.j9n h⟩
def jiM:FnD where
 N:=8
 np:=1
 ro:=[j]
theorem ji8:aJ Λ:=
 Zg aM aN jiM 163 iT 3 Tryz.f163 (Tryz.f163.body.getD .skip) Tryz.func163 (by kernel_rfl) (by kernel_rfl) (zt (by kernel_rfl)) (by kernel_rfl) i (by kernel_rfl)
  (λh R k=>by kernel_rfl)
def KG:Con:=⟨164,[.v iT,.ip [iT],.ip [iT]],[iT,iT,iT],⟨[.v .bool],[]⟩,[.bool],Pw.unc3 Pw.jcQ⟩
def jr8:FnD where
 N:=13
 np:=3
theorem Μ:aJ KG:=
 cOf aM aN jr8 KG Tryz.func164 i i
def Sf:Con:=⟨231,[.rl 3 (.list iT),.clo 164 [.p [iT],.p [iT]]],[(.list iT),iT,iT],⟨[.v iT],[.rl (.list iT)]⟩,[iT,(.list iT)],Pw.unc3 Pw.j5H⟩
def jdA:FnD where
 N:=19
 np:=2
 cs:=[KG]
 ds:=[⟨0,[sO 0,sC 164 [.p [iT],.p [iT]],sI,sI,.b (.lst 3 iT e)],[iT,iT,iT,iT,(.list iT)],[⟨.ret,[sI,.b (.lst 3 iT e)],[iT,(.list iT)]⟩,⟨.exit 0,[.b (.lst 3 iT e)],[(.list iT)]⟩],Pw.unc5 (Pw.j16)⟩]
 keep:=[(0,⟨[0,1,7,8],[0],[],[]⟩)]
 keepX:=[(0,.ret,⟨[4],[0],[],[]⟩),(0,.exit 0,⟨[],[0],[],[]⟩)]
theorem jdc:aJ Sf:=
 cOf aM aN jdA Sf Tryz.func231 (ja Μ i) (ja (λh=>by kernel_rfl) i)
def Sh:Con:=⟨162,[.rl 3 (.list iT),.clo 164 [.p [iT],.p [iT]]],[(.list iT),iT,iT],⟨[.hd],[.rl (.list iT)]⟩,[iT,(.list iT)],Pw.unc3 Pw.j4g⟩
def jff:FnD where
 N:=42
 np:=2
 cs:=[KG,Sf]
 ds:=[⟨0,[sO 0,sC 164 [.p [iT],.p [iT]],sI,sI,.b (.lst 3 iT e)],[iT,iT,iT,iT,(.list iT)],[⟨.exit 0,[sO 0,sI,.b (.lst 3 iT e)],[iT,(.list iT)]⟩],Pw.unc5 (Pw.j1n)⟩]
 modes:=[(231,[j,e])]
 keep:=[(0,⟨[0,1,5,6],[0],[],[]⟩)]
 keepX:=[(0,.exit 0,⟨[0,5],[0],[],[]⟩)]
 hd:=j
theorem je7:aJ Sh:=
 cOf aM aN jff Sh Tryz.func162 (ja Μ (ja jdc i)) (ja (λh=>by kernel_rfl) i)
def Ν:Con:=⟨165,[.rl 3 (.list iT)],[(.list iT)],⟨[],[.rl (.list iT)]⟩,[(.list iT)],λh=>Pw.j7n h⟩
def jvo:FnD where
 N:=11
 np:=1
theorem jiN:aJ Ν:=
 jC4 Tryz.sort165 3 (by kernel_rfl) 165 rfl
def Si:Con:=⟨166,[.rl 3 (.list iT)],[(.list iT)],⟨[.hd],[.rl (.list iT)]⟩,[iT,(.list iT)],λh=>Pw.j5U h⟩
def jhq:FnD where
 N:=61
 np:=1
 ds:=[⟨0,[sO 0,sI,.b (.lst 3 iT e)],[iT,(.list iT)],[⟨.ret,[.s (.one (.hd 0)),.b (.lst 3 iT e)],[iT,(.list iT)]⟩,⟨.exit 0,[sO 0,.b (.lst 3 iT e)],[(.list iT)]⟩],Pw.unc2 (Pw.j1J)⟩,⟨2,[sO 0,sI,.s (.one (.tl 0)),sI,.b (.lst 3 iT e)],[iT,iT,iT,(.list iT)],[⟨.exit 2,[sO 0,sI,.b (.lst 3 iT e)],[iT,(.list iT)]⟩],Pw.unc4 (Pw.j1I)⟩]
 keep:=[(0,⟨[0,3],[0],[],[]⟩),(2,⟨[0,3,4,5],[0],[],[]⟩)]
 keepX:=[(0,.ret,⟨[2],[0],[],[]⟩),(0,.exit 0,⟨[0],[0],[],[]⟩),(2,.exit 2,⟨[0,3],[0],[],[]⟩)]
 hd:=j
theorem jgz:aJ Si:=
 cOf aM aN jhq Si Tryz.func166 i (ja (λh=>by kernel_rfl) (ja (λh=>by kernel_rfl) i))
def Sj:Con:=⟨116,[.v (.list iT),.v iT,.v iT],[(.list iT),iT,iT],⟨[.own 3 (.list iT)],[]⟩,[(.list iT)],Pw.unc3 Pw.jmb⟩
def jx9:FnD where
 N:=19
 np:=3
 cs:=[Λ,Sh,Ν,Si]
 modes:=[(162,[j,e]),(165,[j]),(166,[j])]
 ro:=[j]
 dw:=[(3,[[],[704,960],[],[1088],[960,1152],[]])]
theorem jvp:aJ Sj:=
 cOf aM aN jx9 Sj Tryz.func116 (ja ji8 (ja je7 (ja jiN (ja jgz i)))) i
def Sk:Con:=⟨167,[.v bh],[bh],⟨[.clo 233 [.p [bh]]],[]⟩,[bh],λh=>Pw.j2Y h⟩
def j9w:FnD where
 N:=4
 np:=1
theorem j99:aJ Sk:=
 cOf aM aN j9w Sk Tryz.func167 i i
def Ξ:Con:=⟨184,[.v af],[af],⟨[.own 59 af],[]⟩,[af],λh=>Pw.j4n h⟩
def jbA:FnD where
 N:=8
 np:=1
 ro:=[j]
theorem jbm:aJ Ξ:=
 Zg aM aN jbA 184 aR 59 Tryz.f184 (Tryz.f184.body.getD .skip) Tryz.func184 (by kernel_rfl) (by kernel_rfl) (zt (by kernel_rfl)) (by kernel_rfl) i (by kernel_rfl)
  (λh R k=>by kernel_rfl)
def KH:Con:=⟨185,[.v aR],[aR],⟨[.v .bool],[]⟩,[.bool],λh=>Pw.jaS h⟩
def jq9:FnD where
 N:=8
 np:=1
theorem Ο:aJ KH:=
 cOf aM aN jq9 KH Tryz.func185 i i
def Sl:Con:=⟨245,[.rl 59 af,.clo 185 []],[af],⟨[.v iT],[.rl af]⟩,[iT,af],λh=>Pw.j3g h⟩
def j9U:FnD where
 N:=19
 np:=2
 cs:=[KH]
 ds:=[⟨0,[sO 0,sC 185 [],sI,sI,.b (.lst 59 aR e)],[iT,iT,af],[⟨.ret,[sI,.b (.lst 59 aR e)],[iT,af]⟩,⟨.exit 0,[.b (.lst 59 aR e)],[af]⟩],Pw.unc3 (Pw.j0C)⟩]
 keep:=[(0,⟨[0,1,7,8],[0],[],[]⟩)]
 keepX:=[(0,.ret,⟨[4],[0],[],[]⟩),(0,.exit 0,⟨[],[0],[],[]⟩)]
theorem j9x:aJ Sl:=
 cOf aM aN j9U Sl Tryz.func245 (ja Ο i) (ja (λh=>by kernel_rfl) i)
def Sn:Con:=⟨183,[.rl 59 af,.clo 185 []],[af],⟨[.hd],[.rl af]⟩,[iT,af],λh=>Pw.j1L h⟩
def j9y:FnD where
 N:=42
 np:=2
 cs:=[KH,Sl]
 ds:=[⟨0,[sO 0,sC 185 [],sI,sI,.b (.lst 59 aR e)],[iT,iT,af],[⟨.exit 0,[sO 0,sI,.b (.lst 59 aR e)],[iT,af]⟩],Pw.unc3 (Pw.j0w)⟩]
 modes:=[(245,[j,e])]
 keep:=[(0,⟨[0,1,5,6],[0],[],[]⟩)]
 keepX:=[(0,.exit 0,⟨[0,5],[0],[],[]⟩)]
 hd:=j
theorem j9b:aJ Sn:=
 cOf aM aN j9y Sn Tryz.func183 (ja Ο (ja j9x i)) (ja (λh=>by kernel_rfl) i)
def Sp:Con:=⟨187,[.v aR,.v aR],[aR,aR],⟨[.v iT],[]⟩,[iT],Pw.unc2 Pw.j92⟩
def jqa:FnD where
 N:=10
 np:=2
theorem jAs:aJ Sp:=
 cOf aM aN jqa Sp Tryz.func187 i i
def Ρ:Con:=⟨186,[.rl 59 af,.clo 187 []],[af],⟨[],[.rl af]⟩,[af],λh=>Pw.j1g h⟩
def jeo:FnD where
 N:=14
 np:=2
 cs:=[Sp]
theorem j5p:aJ Ρ:=
 ZH Tryz.sort186 (aR) rfl 59 (by kernel_rfl) Tryz.isAgg59 Tryz.sizeOf59 _ 187 (enters_of Tryz.func187 (by kernel_rfl) rfl) jwR jwS 186 rfl
def Bb:Con:=⟨128,[.v af],[af],⟨[.own 59 af],[]⟩,[af],λh=>Pw.jaB h⟩
def jvq:FnD where
 N:=54
 np:=1
 cs:=[Ξ,Sn,Ρ]
 ds:=[⟨0,[sO 1000000,sO 1000001,sI,sI,.b (.lst 59 aR e),.b (.lst 59 aR e)],[iT,iT,af,af],[⟨.exit 0,[sO 1500100,.b (.lst 59 aR e)],[af]⟩],Pw.unc4 (Pw.j4K)⟩]
 modes:=[(183,[j,e]),(186,[j,e])]
 keep:=[(0,⟨[4,13,14,15],[],[⟨1000000,59,aR,[.slot 4],e⟩,⟨1000001,59,aR,[.slot 13],e⟩],[]⟩)]
 keepX:=[(0,.exit 0,⟨[4],[],[⟨1500100,59,aR,[.slot 4],e⟩],[]⟩)]
 ro:=[j]
 dw:=[(9,[[],[],[],[],[],[],[],[],[],[],[],[],[],[],[1000000]])]
theorem Gz:aJ Bb:=
 cOf aM aN jvq Bb Tryz.func128 (ja jbm (ja j9b (ja j5p i))) (ja (λh=>by kernel_rfl) i)
def Sq:Con:=⟨91,[.v cA,.v af,.v iT,.v iT],[cA,af,iT,iT],⟨[.own 59 af],[]⟩,[af],Pw.unc4 Pw.j7b⟩
def jr9:FnD where
 N:=73
 np:=4
 cs:=[Gy,Bb]
 ds:=[⟨0,[sD af,sO 1000000,sO 1000001,sI,sI,.b (.lst 59 aR e),.b (.lst 205 aT e)],[af,iT,iT,af,aF],[⟨.exit 0,[sO 1500100,.b (.lst 59 aR e)],[af]⟩],Pw.unc5 (Pw.j57)⟩,⟨2,[sD af,sO 1002000,sB 704 0,sI,sO 1002001,sI,sI,.b (.cell [.d iT,.d iT,.d iT] e),.b (.lst 59 aR e),.b (.lst 205 aT e)],[af,iT,iT,iT,iT,iT,iT,af,aF],[⟨.exit 2,[sD af,sO 1502300,sO 1502301,sI,sI,.b (.lst 59 aR e),.b (.lst 205 aT e)],[af,iT,iT,af,aF]⟩],Pw.unc9 (Pw.j56)⟩,⟨4,[sD af,sO 1004000,sB 704 0,sI,sO 1004001,sI,sI,sD af,sI,sI,.b (.cell [.d iT,.d iT,.d iT] e),.b (.lst 59 aR e),.b (.lst 205 aT e)],[af,iT,iT,iT,af,iT,iT,iT,iT,iT,af,aF],[⟨.exit 4,[sD af,sO 1504500,sB 704 0,sI,sO 1504501,sI,sI,.b (.cell [.d iT,.d iT,.d iT] e),.b (.lst 59 aR e),.b (.lst 205 aT e)],[af,iT,iT,iT,iT,iT,iT,af,aF]⟩],Pw.u8 Pw.unc4 (Pw.j55)⟩]
 keep:=[(0,⟨[1,9,19,20,21],[],[⟨1000000,59,aR,[.slot 9],e⟩,⟨1000001,205,aT,[.slot 19],e⟩],[]⟩),(2,⟨[1,9,11,13,19,20,21],[704],[⟨1002000,59,aR,[.slot 9],e⟩,⟨1002001,205,aT,[.slot 19],e⟩],[]⟩),(4,⟨[1,9,11,13,19,20,21,45,46,47],[704],[⟨1004000,59,aR,[.slot 9],e⟩,⟨1004001,205,aT,[.slot 19],e⟩],[]⟩)]
 keepX:=[(0,.exit 0,⟨[9],[],[⟨1500100,59,aR,[.slot 9],e⟩],[]⟩),(2,.exit 2,⟨[1,9,19,20,21],[],[⟨1502300,59,aR,[.slot 9],e⟩,⟨1502301,205,aT,[.slot 19],e⟩],[]⟩),(4,.exit 4,⟨[1,9,11,13,19,20,21],[704],[⟨1504500,59,aR,[.slot 9],e⟩,⟨1504501,205,aT,[.slot 19],e⟩],[]⟩)]
 ro:=[j]
theorem jqb:aJ Sq:=
 cOf aM aN jr9 Sq Tryz.func91 (ja Sd (ja Gz i)) (ja (λh=>by kernel_rfl) (ja (λh=>by kernel_rfl) (ja (λh=>by kernel_rfl) i)))
def Sr:Con:=⟨285,[.v eE,.v fm,.v iT,.v iT],[eE,fm,iT,iT],⟨[.own 59 af],[]⟩,[af],Pw.unc4 Pw.j6y⟩
def jow:FnD where
 N:=58
 np:=4
 cs:=[Gy,Bb]
 ds:=[⟨0,[sB 320 0,sO 1000000,sO 1000001,sI,sI,.b (.cell [.d .str,.d iT,.d (.list iT)] e),.b (.lst 59 aR e),.b (.lst 205 aT e)],[iT,iT,.str,iT,(.list iT),af,aF],[⟨.exit 0,[sO 1500100,.b (.lst 59 aR e)],[af]⟩],Pw.unc7 (Pw.j3X)⟩,⟨2,[sB 320 0,sO 1002000,sB 704 0,sO 1002001,sI,sI,sD (.list iT),sI,sI,.b (.cell [.d .str,.d iT,.d (.list iT)] e),.b (.cell [.d iT,.d iT,.d iT] e),.b (.lst 59 aR e),.b (.lst 205 aT e)],[iT,iT,(.list iT),iT,iT,.str,iT,(.list iT),iT,iT,iT,af,aF],[⟨.exit 2,[sB 320 0,sO 1502300,sO 1502301,sI,sI,.b (.cell [.d .str,.d iT,.d (.list iT)] e),.b (.lst 59 aR e),.b (.lst 205 aT e)],[iT,iT,.str,iT,(.list iT),af,aF]⟩],Pw.u8 Pw.unc5 (Pw.j3W)⟩]
 keep:=[(0,⟨[5,9,23,24,25],[320],[⟨1000000,59,aR,[.slot 9],e⟩,⟨1000001,205,aT,[.slot 23],e⟩],[]⟩),(2,⟨[5,9,11,23,24,25,30,31,32],[320,704],[⟨1002000,59,aR,[.slot 9],e⟩,⟨1002001,205,aT,[.slot 23],e⟩],[]⟩)]
 keepX:=[(0,.exit 0,⟨[9],[],[⟨1500100,59,aR,[.slot 9],e⟩],[]⟩),(2,.exit 2,⟨[5,9,23,24,25],[320],[⟨1502300,59,aR,[.slot 9],e⟩,⟨1502301,205,aT,[.slot 23],e⟩],[]⟩)]
 ro:=[j]
theorem jnF:aJ Sr:=
 cOf aM aN jow Sr Tryz.func285 (ja Sd (ja Gz i)) (ja (λh=>by kernel_rfl) (ja (λh=>by kernel_rfl) i))
def GA:Con:=⟨171,[.v af,.v af],[af,af],⟨[.own 59 af],[]⟩,[af],Pw.unc2 Pw.j3L⟩
def jra:FnD where
 N:=89
 np:=2
 ds:=[⟨0,[sD af,sO 1000000,sI,sD af,sI,sI,.b (.lst 59 aR e)],[af,iT,af,iT,iT,af],[⟨.exit 0,[sO 1500100,.b (.lst 59 aR e)],[af]⟩],Pw.unc6 (Pw.j5a)⟩,⟨2,[sD af,sO 1002000,sI,sB 512 0,sD af,sI,sI,.b (.cell [.d iT,.d iT] e),.b (.lst 59 aR e)],[af,iT,af,iT,iT,iT,iT,af],[⟨.exit 2,[sD af,sO 1502300,sI,sB 512 0,sD af,sI,sI,.b (.cell [.d iT,.d iT] e),.b (.lst 59 aR e)],[af,iT,af,iT,iT,iT,iT,af]⟩],Pw.unc8 (Pw.j58)⟩,⟨4,[sD af,sO 1004000,sI,sB 512 0,sI,sI,sD af,sI,sI,.b (.cell [.d iT,.d iT] e),.b (.lst 59 aR e)],[af,iT,iT,iT,af,iT,iT,iT,iT,af],[⟨.exit 4,[sD af,sO 1504500,sI,sB 512 0,sI,sD af,sI,sI,.b (.cell [.d iT,.d iT] e),.b (.lst 59 aR e)],[af,iT,iT,af,iT,iT,iT,iT,af]⟩],Pw.u8 Pw.unc2 (Pw.j59)⟩]
 keep:=[(0,⟨[1,5,6,11,12,13],[],[⟨1000000,59,aR,[.slot 5],e⟩],[]⟩),(2,⟨[1,5,6,8,11,12,13],[512],[⟨1002000,59,aR,[.slot 5],e⟩],[]⟩),(4,⟨[1,5,6,8,9,10,11,12,13],[512],[⟨1004000,59,aR,[.slot 5],e⟩],[]⟩)]
 keepX:=[(0,.exit 0,⟨[5],[],[⟨1500100,59,aR,[.slot 5],e⟩],[]⟩),(2,.exit 2,⟨[1,5,6,8,11,12,13],[512],[⟨1502300,59,aR,[.slot 5],e⟩],[]⟩),(4,.exit 4,⟨[1,5,6,8,9,11,12,13],[512],[⟨1504500,59,aR,[.slot 5],e⟩],[]⟩)]
 ro:=[j]
theorem Su:aJ GA:=
 cOf aM aN jra GA Tryz.func171 i (ja (λh=>by kernel_rfl) (ja (λh=>by kernel_rfl) (ja (λh=>by kernel_rfl) i)))
def Sv:Con:=⟨90,[.v af,.v af],[af,af],⟨[.own 59 af],[]⟩,[af],Pw.unc2 Pw.jeD⟩
def jtu:FnD where
 N:=67
 np:=2
 ds:=[⟨0,[sD af,sD af,sO 1000000,sI,sI,.b (.lst 59 aR e)],[af,af,iT,iT,af],[⟨.exit 0,[sO 1500100,.b (.lst 59 aR e)],[af]⟩],Pw.unc5 (Pw.j7o)⟩]
 keep:=[(0,⟨[0,1,5,6,7],[],[⟨1000000,59,aR,[.slot 5],e⟩],[]⟩)]
 keepX:=[(0,.exit 0,⟨[5],[],[⟨1500100,59,aR,[.slot 5],e⟩],[]⟩)]
 ro:=[j]
 dw:=[(4,[[],[],[],[],[],[],[],[],[],[],[],[],[],[],[],[],[],[],[],[],[],[],[],[512],[512]])]
theorem jrb:aJ Sv:=
 cOf aM aN jtu Sv Tryz.func90 i (ja (λh=>by kernel_rfl) i)
end Go.Proofs.Pk
