/- cB: each given function is its plain function, printed by a program. -/
import Derived.Test.YtkoifkkadkmecaaGreatLRCon5
open Bool renaming false->e,true->j
open _root_ renaming trivial->i
noncomputable section
open Go Go.Lft
set_option linter.unusedVariables false
set_option maxRecDepth 100000
namespace Go.Proofs.Pk
def QU:Con:=⟨92,[.rl 60 an,.v iT,.clo 58 []],[an,iT],⟨[],[.rl an]⟩,[an],Pw.unc2 Pw.j4b⟩
def jbk:FnD where
 N:=63
 np:=3
 cs:=[QR,_e]
 ds:=[⟨0,[sO 0,sI,sC 58 [],sI,sI,sI,.b (.lst 60 bg e)],[iT,iT,iT,iT,an],[⟨.exit 0,[sO 0,sI,sC 58 [],sI,sI,.b (.lst 60 bg e)],[iT,iT,iT,an]⟩],Pw.unc5 (Pw.j0u)⟩,⟨2,[sO 0,sI,sC 58 [],sI,.b (.lst 60 bg e)],[iT,iT,an],[⟨.exit 2,[.b (.lst 60 bg e)],[an]⟩],Pw.unc3 (Pw.j0Y)⟩,⟨4,[sO 0,sI,sC 58 [],sI,sI,sI,.b (.lst 60 bg e)],[iT,iT,iT,iT,an],[⟨.exit 4,[sO 0,sI,sC 58 [],sI,sI,.b (.lst 60 bg e)],[iT,iT,iT,an]⟩],Pw.unc5 (Pw.j0v)⟩]
 modes:=[(150,[j,e,e,e]),(151,[j,e,e,e,e])]
 keep:=[(0,⟨[0,1,2,6,7,8],[0],[],[]⟩),(2,⟨[0,1,2,6],[0],[],[]⟩),(4,⟨[0,1,2,6,7,8],[0],[],[]⟩)]
 keepX:=[(0,.exit 0,⟨[0,1,2,6,7],[0],[],[]⟩),(2,.exit 2,⟨[],[0],[],[]⟩),(4,.exit 4,⟨[0,1,2,6,7],[0],[],[]⟩)]
theorem jba:aH QU:=
 cOf aK aM jbk QU Tryz.func92 (ja j8i (ja jad i)) (ja (λh=>by kernel_rfl) (ja (λh=>by kernel_rfl) (ja (λh=>by kernel_rfl) i)))
def QV:Con:=⟨57,[.rl 60 an,.clo 58 []],[an],⟨[],[.rl an]⟩,[an],λh=>Pw.j0I h⟩
def j7s:FnD where
 N:=9
 np:=2
 cs:=[QU]
 modes:=[(92,[j,e,e])]
theorem j76:aH QV:=
 cOf aK aM j7s QV Tryz.func57 (ja jba i) i
def QW:Con:=⟨26,[.v bk,.v iT,.v iT],[bk,iT,iT],⟨[.own 60 an,.v iT],[]⟩,[an,iT],Pw.unc3 Pw.j4C⟩
def jlA:FnD where
 N:=83
 np:=3
 cs:=[Km,Kn,Kx,QQ,QV]
 ds:=[⟨1,[sI,sI,sB 512 0,sO 1001000,sD aC,sI,sI,.b (.cell [.d ax,.d az,.d ay,.d aC,.d fF] e),.b (.lst 103 au e)],[iT,iT,aC,iT,iT,ax,az,ay,aC,fF,kX],[⟨.ret,[.s (.one (.nil)),sI],[iT]⟩,⟨.exit 1,[sO 1501200,.b (.lst 103 au e)],[kX]⟩],Pw.u8 Pw.unc3 (Pw.j2U)⟩,⟨3,[sO 1003000,sO 1003001,sI,sI,.b (.lst 103 au e),.b (.lst 60 bg e)],[iT,iT,kX,an],[⟨.exit 3,[sO 1503400,.b (.lst 60 bg e)],[an]⟩],Pw.unc4 (Pw.j2W)⟩,⟨5,[sO 1005000,sO 1005001,sI,sI,sI,sI,.b (.lst 103 au e),.b (.lst 60 bg e)],[iT,iT,iT,iT,kX,an],[⟨.exit 5,[sO 1505600,sO 1505601,sI,sI,.b (.lst 103 au e),.b (.lst 60 bg e)],[iT,iT,kX,an]⟩],Pw.unc6 (Pw.j2V)⟩]
 modes:=[(57,[j,e])]
 keep:=[(1,⟨[1,2,8,10,31,32,33],[512],[⟨1001000,103,au,[.slot 10],e⟩],[]⟩),(3,⟨[10,14,51,52],[],[⟨1003000,103,au,[.slot 10],e⟩,⟨1003001,60,bg,[.slot 14],e⟩],[]⟩),(5,⟨[10,14,15,16,51,52],[],[⟨1005000,103,au,[.slot 10],e⟩,⟨1005001,60,bg,[.slot 14],e⟩],[]⟩)]
 keepX:=[(1,.ret,⟨[6,7],[],[],[]⟩),(1,.exit 1,⟨[10],[],[⟨1501200,103,au,[.slot 10],e⟩],[]⟩),(3,.exit 3,⟨[14],[],[⟨1503400,60,bg,[.slot 14],e⟩],[]⟩),(5,.exit 5,⟨[10,14,51,52],[],[⟨1505600,103,au,[.slot 10],e⟩,⟨1505601,60,bg,[.slot 14],e⟩],[]⟩)]
 ro:=[j,e]
 dw:=[(22,[[],[],[],[],[],[],[],[],[],[],[],[4736],[4800,1005001],[]])]
theorem jkr:aH QW:=
 cOf aK aM jlA QW Tryz.func26 (ja ZU (ja ZV (ja _b (ja jlz (ja j76 i))))) (ja (λh=>by kernel_rfl) (ja (λh=>by kernel_rfl) (ja (λh=>by kernel_rfl) i)))
def QX:Con:=⟨60,[.v aa,.v iT],[aa,iT],⟨[.v iT],[]⟩,[iT],Pw.unc2 Pw.jaL⟩
def joH:FnD where
 N:=29
 np:=2
 ds:=[⟨0,[sI,sI,sD aa,sI,sI],[iT,iT,aa,iT,iT],[⟨.exit 0,[sI],[iT]⟩],Pw.unc5 (Pw.j4c)⟩]
 keep:=[(0,⟨[1,5,8,9,10],[],[],[]⟩)]
 keepX:=[(0,.exit 0,⟨[5],[],[],[]⟩)]
theorem jn2:aH QX:=
 cOf aK aM joH QX Tryz.func60 i (ja (λh=>by kernel_rfl) i)
def QY:Con:=⟨27,[.v aa,.v iT,.v iT,.v iT],[aa,iT,iT,iT],⟨[.own 3 (.list iT)],[]⟩,[(.list iT)],Pw.unc4 Pw.jfd⟩
def jpF:FnD where
 N:=74
 np:=4
 cs:=[Kp,QX]
 ds:=[⟨0,[sD aa,sI,sI,sI,sO 1000000,sD aa,sI,sI,.b (.lst 3 iT e)],[aa,iT,iT,iT,aa,iT,iT,(.list iT)],[⟨.exit 0,[sD aa,sI,sI,sI,sO 1500100,.b (.lst 3 iT e)],[aa,iT,iT,iT,(.list iT)]⟩],Pw.unc8 (Pw.j4Q)⟩,⟨2,[sD aa,sI,sO 1002000,sI,sO 1002001,sI,sI,.b (.lst 3 iT e),.b (.lst 3 iT e)],[aa,iT,iT,iT,iT,(.list iT),(.list iT)],[⟨.exit 2,[sO 1502300,.b (.lst 3 iT e)],[(.list iT)]⟩],Pw.unc7 (Pw.j4R)⟩]
 keep:=[(0,⟨[0,1,2,3,9,18,19,20],[],[⟨1000000,3,iT,[.slot 9],e⟩],[]⟩),(2,⟨[0,1,12,13,42,43,44],[],[⟨1002000,3,iT,[.slot 12],e⟩,⟨1002001,3,iT,[.slot 42],e⟩],[]⟩)]
 keepX:=[(0,.exit 0,⟨[0,1,2,3,9],[],[⟨1500100,3,iT,[.slot 9],e⟩],[]⟩),(2,.exit 2,⟨[12],[],[⟨1502300,3,iT,[.slot 12],e⟩],[]⟩)]
 ro:=[j]
theorem joI:aH QY:=
 cOf aK aM jpF QY Tryz.func27 (ja ZZ (ja jn2 i)) (ja (λh=>by kernel_rfl) (ja (λh=>by kernel_rfl) i))
def QZ:Con:=⟨28,[.v aa,.v iT],[aa,iT],⟨[.own 3 (.list iT)],[]⟩,[(.list iT)],Pw.unc2 Pw.jcr⟩
def jpG:FnD where
 N:=36
 np:=2
 ds:=[⟨0,[sD aa,sI,sO 1000000,sI,.b (.lst 3 iT e)],[aa,iT,iT,(.list iT)],[⟨.exit 0,[sO 1500100,.b (.lst 3 iT e)],[(.list iT)]⟩],Pw.unc4 (Pw.j3x)⟩]
 keep:=[(0,⟨[0,1,5,6],[],[⟨1000000,3,iT,[.slot 5],e⟩],[]⟩)]
 keepX:=[(0,.exit 0,⟨[5],[],[⟨1500100,3,iT,[.slot 5],e⟩],[]⟩)]
 ro:=[j]
theorem joJ:aH QZ:=
 cOf aK aM jpG QZ Tryz.func28 i (ja (λh=>by kernel_rfl) i)
def KB:Con:=⟨31,[.v eZ,.v iT],[eZ,iT],⟨[.v cK],[]⟩,[cK],Pw.unc2 Pw.j2F⟩
def jmi:FnD where
 N:=10
 np:=2
theorem _g:aH KB:=
 cOf aK aM jmi KB Tryz.func31 i i
def Q0:Con:=⟨32,[.v aa],[aa],⟨[.own 3 (.list iT)],[]⟩,[(.list iT)],λh=>Pw.j7f h⟩
def joK:FnD where
 N:=19
 np:=1
 ds:=[⟨0,[sO 1000000,sD aa,sI,sI,.b (.lst 3 iT e)],[aa,iT,iT,(.list iT)],[⟨.exit 0,[sO 1500100,.b (.lst 3 iT e)],[(.list iT)]⟩],Pw.unc4 (Pw.j4d)⟩]
 keep:=[(0,⟨[3,6,7,8],[],[⟨1000000,3,iT,[.slot 3],e⟩],[]⟩)]
 keepX:=[(0,.exit 0,⟨[3],[],[⟨1500100,3,iT,[.slot 3],e⟩],[]⟩)]
 ro:=[j]
theorem jn3:aH Q0:=
 cOf aK aM joK Q0 Tryz.func32 i (ja (λh=>by kernel_rfl) i)
def Q1:Con:=⟨34,[.v aJ,.v aJ],[aJ,aJ],⟨[.v iT],[]⟩,[iT],Pw.unc2 Pw.j57⟩
def jpH:FnD where
 N:=32
 np:=2
theorem jzZ:aH Q1:=
 cOf aK aM jpH Q1 Tryz.func34 i i
def _i:Con:=⟨33,[.rl 55 au,.clo 34 []],[au],⟨[],[.rl au]⟩,[au],λh=>Pw.j08 h⟩
def jbl:FnD where
 N:=14
 np:=2
 cs:=[Q1]
theorem j3y:aH _i:=
 Ow Tryz.sort33 (aJ) rfl 55 (by kernel_rfl) Tryz.isAgg55 Tryz.sizeOf55 _ 34 (enters_of Tryz.func34 (by kernel_rfl) rfl) jxQ jxR 33 rfl
def Q2:Con:=⟨35,[.rl 55 au],[au],⟨[.hd],[.rl au]⟩,[iT,au],λh=>Pw.j0a h⟩
def j77:FnD where
 N:=61
 np:=1
 ds:=[⟨0,[sO 0,sI,.b (.lst 55 aJ e)],[iT,au],[⟨.ret,[.s (.one (.hd 0)),.b (.lst 55 aJ e)],[iT,au]⟩,⟨.exit 0,[sO 0,.b (.lst 55 aJ e)],[au]⟩],Pw.unc2 (Pw.j0n)⟩,⟨2,[sO 0,sI,.s (.one (.tl 0)),sI,.b (.lst 55 aJ e)],[iT,iT,iT,au],[⟨.exit 2,[sO 0,sI,.b (.lst 55 aJ e)],[iT,au]⟩],Pw.unc4 (Pw.j0m)⟩]
 keep:=[(0,⟨[0,3],[0],[],[]⟩),(2,⟨[0,3,4,5],[0],[],[]⟩)]
 keepX:=[(0,.ret,⟨[2],[0],[],[]⟩),(0,.exit 0,⟨[0],[0],[],[]⟩),(2,.exit 2,⟨[0,3],[0],[],[]⟩)]
 hd:=j
theorem j74:aH Q2:=
 cOf aK aM j77 Q2 Tryz.func35 i (ja (λh=>by kernel_rfl) (ja (λh=>by kernel_rfl) i))
def Ki:Con:=⟨10,[.v bk,.v iT,.v iT,.v iT],[bk,iT,iT,iT],⟨[.own 55 au,.v iT],[]⟩,[au,iT],Pw.unc4 Pw.j24⟩
def jks:FnD where
 N:=146
 np:=4
 cs:=[Gs,Ku,Kv,Ky,QW,QY,QZ,KB,Q0,_i,Q2]
 ds:=[⟨0,[sI,sB 960 0,sO 1000000,sI,sI,.b (.cell [.ol 1000001,.ol 1000002,.ol 1000003,.ol 1000004] e),.b (.lst 60 bg e),.b (.lst 3 iT e),.b (.lst 3 iT e),.b (.lst 3 iT e),.b (.lst 3 iT e)],[iT,iT,iT,an,(.list iT),(.list iT),(.list iT),(.list iT)],[⟨.exit 0,[sI,sB 960 0,.b (.cell [.ol 1500100,.ol 1500101,.ol 1500102,.ol 1500103] e),.b (.lst 3 iT e),.b (.lst 3 iT e),.b (.lst 3 iT e),.b (.lst 3 iT e)],[iT,(.list iT),(.list iT),(.list iT),(.list iT)]⟩],Pw.unc8 (Pw.j2G)⟩,⟨2,[sI,sO 1002000,.s (.av 4 (.list iT)),sI,.b (.lst 55 aJ e)],[iT,OQ,iT,au],[⟨.exit 2,[sO 1502300,.b (.lst 55 aJ e)],[au]⟩],Pw.unc4 (Pw.j13)⟩,⟨4,[sI,sO 1004000,sI,.s (.av 4 (.list iT)),sI,sD (.list iT),sI,sI,.b (.lst 55 aJ e)],[iT,iT,OQ,iT,(.list iT),iT,iT,au],[⟨.exit 4,[sI,sO 1504500,.s (.av 4 (.list iT)),sI,.b (.lst 55 aJ e)],[iT,OQ,iT,au]⟩],Pw.unc8 (Pw.j2H)⟩]
 modes:=[(33,[j,e]),(35,[j])]
 keep:=[(0,⟨[1,15,100,101,102],[960],[⟨1000000,60,bg,[.slot 100],e⟩,⟨1000001,3,iT,[.cell 960 0],e⟩,⟨1000002,3,iT,[.cell 960 1],e⟩,⟨1000003,3,iT,[.cell 960 2],e⟩,⟨1000004,3,iT,[.cell 960 3],e⟩],[]⟩),(2,⟨[1,19,118,119],[],[⟨1002000,55,aJ,[.slot 19],e⟩],[]⟩),(4,⟨[1,19,20,118,119,123,124,125],[],[⟨1004000,55,aJ,[.slot 19],e⟩],[]⟩)]
 keepX:=[(0,.exit 0,⟨[1,15],[960],[⟨1500100,3,iT,[.cell 960 0],e⟩,⟨1500101,3,iT,[.cell 960 1],e⟩,⟨1500102,3,iT,[.cell 960 2],e⟩,⟨1500103,3,iT,[.cell 960 3],e⟩],[]⟩),(2,.exit 2,⟨[19],[],[⟨1502300,55,aJ,[.slot 19],e⟩],[]⟩),(4,.exit 4,⟨[1,19,118,119],[],[⟨1504500,55,aJ,[.slot 19],e⟩],[]⟩)]
 ro:=[j,e]
 dw:=[(17,[[],[],[],[],[],[],[],[],[],[5888],[5952],[]])]
theorem ZQ:aH Ki:=
 cOf aK aM jks Ki Tryz.func10 (ja Qg (ja Z7 (ja Z8 (ja _c (ja jkr (ja joI (ja joJ (ja _g (ja jn3 (ja j3y (ja j74 i))))))))))) (ja (λh=>by kernel_rfl) (ja (λh=>by kernel_rfl) (ja (λh=>by kernel_rfl) i)))
def Kj:Con:=⟨11,[.v bk,.v iT,.v iT,.v iT],[bk,iT,iT,iT],⟨[.own 58 aa,.v iT],[]⟩,[aa,iT],Pw.unc4 Pw.j7g⟩
def joL:FnD where
 N:=30
 np:=4
 cs:=[Gs,Ky]
 ro:=[j,e]
theorem ZR:aH Kj:=
 cOf aK aM joL Kj Tryz.func11 (ja Qg (ja _c i)) i
def Q3:Con:=⟨47,[.v aO],[aO],⟨[.v iT],[]⟩,[iT],λh=>Pw.j4X h⟩
def joM:FnD where
 N:=10
 np:=1
 cs:=[Ka]
theorem jn4:aH Q3:=
 cOf aK aM joM Q3 Tryz.func47 (ja ZJ i) i
def Q4:Con:=⟨46,[.v aa,.v iT],[aa,iT],⟨[.v .bool],[]⟩,[.bool],Pw.unc2 Pw.jre⟩
def jy2:FnD where
 N:=24
 np:=2
 ds:=[⟨0,[sI,sD aa,sI,sI],[iT,aa,iT,iT],[⟨.ret,[sD .bool],[.bool]⟩,⟨.exit 0,[],[]⟩],Pw.unc4 (Pw.jhA)⟩]
 keep:=[(0,⟨[1,7,8,9],[],[],[]⟩)]
 keepX:=[(0,.ret,⟨[4],[],[],[]⟩)]
theorem jv0:aH Q4:=
 cOf aK aM jy2 Q4 Tryz.func46 i (ja (λh=>by kernel_rfl) i)
def Q5:Con:=⟨17,[.v bk,.v iT,.v iT,.v .bool],[bk,iT,iT,.bool],⟨[.v .bool],[]⟩,[.bool],Pw.unc4 Pw.jcZ⟩
def jlB:FnD where
 N:=45
 np:=4
 cs:=[Gs,Kw,KB,Q3,Q4]
theorem jkt:aH Q5:=
 cOf aK aM jlB Q5 Tryz.func17 (ja Qg (ja Z9 (ja _g (ja jn4 (ja jv0 i))))) i
def PT:Con:=⟨5,[],[],⟨[.v .bool],[]⟩,[.bool],λh=>Pw.jj6⟩
def jtw:FnD where
 N:=85
 np:=0
 cs:=[OS,Ki,Kj,Q5]
theorem jrI:aH PT:=
 cOf aK aM jtw PT Tryz.func5 (ja jpk (ja ZQ (ja ZR (ja jkt i)))) i
def PU:Con:=⟨6,[.v (.list iT)],[(.list iT)],⟨[.box [(.list iT),iT]],[]⟩,[(.list iT),iT],λh=>Pw.jok h⟩
def jv1:FnD where
 N:=6
 np:=1
theorem jtx:aH PU:=
 cOf aK aM jv1 PU Tryz.func6 i i
def sg:Con:=⟨8,[.ref [(.list iT),iT],.v iT],[(.list iT),iT,iT],⟨[.v iT],[.ref [(.list iT),iT]]⟩,[iT,(.list iT),iT],Pw.unc3 Pw.j09⟩
def jn5:FnD where
 N:=45
 np:=2
theorem uX:aH sg:=
 cOf aK aM jn5 sg Tryz.func8 i i
def yP:Con:=⟨23,[.ref [(.list iT),iT],.v (.list iT)],[(.list iT),iT,(.list iT)],⟨[.v iT],[.ref [(.list iT),iT]]⟩,[iT,(.list iT),iT],Pw.unc3 Pw.j1x⟩
def jn6:FnD where
 N:=12
 np:=2
 cs:=[sg]
theorem CR:aH yP:=
 cOf aK aM jn6 yP Tryz.func23 (ja uX i) i
end Go.Proofs.Pk
