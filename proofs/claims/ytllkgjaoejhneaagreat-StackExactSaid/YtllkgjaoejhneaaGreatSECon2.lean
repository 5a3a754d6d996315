/- cJ: each given function is its plain function, printed by a program. -/
import Derived.Test.YtllkgjaoejhneaaGreatSECon1
open _root_ renaming trivial->e
open Bool renaming false->i,true->j
noncomputable section
open Go Go.Lft
set_option linter.unusedVariables false
set_option maxRecDepth 100000
namespace Go.Proofs.Pk
def NX:Con:=⟨181,[.v (.list iT),.clo 182 []],[(.list iT)],⟨[.v .bool],[]⟩,[.bool],λh=>Pw.j1k h⟩
def jar:FnD where
 N:=9
 np:=2
 cs:=[NW]
theorem jah:aN NX:=
 cOf aP aQ jar NX Tryz.func181 (jg jbQ e) e
def NY:Con:=⟨126,[.v aR,.v fg],[aR,fg],⟨[.v iT],[]⟩,[iT],Pw.unc2 Pw.j1q⟩
def jen:FnD where
 N:=46
 np:=2
 cs:=[zJ,NX]
 ds:=[⟨1,[sB 192 0,sI,sI,.b (.cell [.d .str,.d iT,.d (.list iT)] i)],[iT,iT,.str,iT,(.list iT)],[⟨.ret,[sI],[iT]⟩,⟨.exit 1,[],[]⟩],Pw.unc5 (Pw.j0n)⟩]
 keep:=[(1,⟨[3,25,26],[192],[],[]⟩)]
 keepX:=[(1,.ret,⟨[4],[],[],[]⟩)]
theorem jdK:aN NY:=
 cOf aP aQ jen NY Tryz.func126 (jg EY (jg jah e)) (jg (λh=>by kernel_rfl) e)
def NZ:Con:=⟨125,[.v fg,.ip [aA,aC,aB,aG]],[fg,aA,aC,aB,aG],⟨[.v iT],[]⟩,[iT],Pw.unc5 Pw.j7L⟩
def jij:FnD where
 N:=7
 np:=2
 cs:=[NY]
theorem jhc:aN NZ:=
 cOf aP aQ jij NZ Tryz.func125 (jg jdK e) e
def N0:Con:=⟨123,[.v aB,.clo 124 [],.clo 125 [.p [aA,aC,aB,aG]]],[aB,aA,aC,aB,aG],⟨[.v iT],[]⟩,[iT],Pw.unc5 Pw.j1V⟩
def jaX:FnD where
 N:=34
 np:=3
 cs:=[zI,NQ,NZ]
 ds:=[⟨0,[sC 124 [],sC 125 [.p [aA,aC,aB,aG]],sO 1000000,sD aB,sI,sI,.b (.lst 4294967458 (.pair .str .bool) i)],[aA,aC,aB,aG,aB,iT,iT,(.list (.pair .str .bool))],[⟨.ret,[sI],[iT]⟩,⟨.exit 0,[],[]⟩],Pw.unc8 (Pw.j0z)⟩]
 modes:=[(121,[i,j])]
 keep:=[(0,⟨[1,2,7,13,14,15],[],[⟨1000000,4294967458,(.pair .str .bool),[.slot 7],i⟩],[]⟩)]
 keepX:=[(0,.ret,⟨[6],[],[],[]⟩)]
theorem jas:aN N0:=
 cOf aP aQ jaX N0 Tryz.func123 (jg EV (jg jhb (jg jhc e))) (jg (λh=>by kernel_rfl) e)
def N1:Con:=⟨128,[.v cD],[cD],⟨[.v .str],[]⟩,[.str],λh=>Pw.j7M h⟩
def jik:FnD where
 N:=5
 np:=1
theorem jhd:aN N1:=
 cOf aP aQ jik N1 Tryz.func128 e e
def N2:Con:=⟨185,[.v bu],[bu],⟨[.v .str],[]⟩,[.str],λh=>Pw.j3x h⟩
def jcb:FnD where
 N:=5
 np:=1
theorem jbR:aN N2:=
 cOf aP aQ jcb N2 Tryz.func185 e e
def N3:Con:=⟨235,[.v iT,.ip [aA,aC,aB,aG]],[iT,aA,aC,aB,aG],⟨[.v .bool],[]⟩,[.bool],Pw.unc5 Pw.j4C⟩
def jeo:FnD where
 N:=10
 np:=2
 cs:=[zJ]
theorem jdL:aN N3:=
 cOf aP aQ jeo N3 Tryz.func235 (jg EY e) e
def N4:Con:=⟨233,[.v (.list iT),.clo 235 [.p [aA,aC,aB,aG]]],[(.list iT),aA,aC,aB,aG],⟨[.v iT],[]⟩,[iT],Pw.unc5 Pw.j2v⟩
def jat:FnD where
 N:=19
 np:=2
 cs:=[N3]
 ds:=[⟨0,[sD (.list iT),sC 235 [.p [aA,aC,aB,aG]],sI,sI],[(.list iT),aA,aC,aB,aG,iT,iT],[⟨.ret,[sI],[iT]⟩,⟨.exit 0,[],[]⟩],Pw.unc7 (Pw.j0p)⟩]
 keep:=[(0,⟨[0,1,7,8],[],[],[]⟩)]
 keepX:=[(0,.ret,⟨[4],[],[],[]⟩)]
theorem jai:aN N4:=
 cOf aP aQ jat N4 Tryz.func233 (jg jdL e) (jg (λh=>by kernel_rfl) e)
def N5:Con:=⟨181,[.v (.list iT),.clo 235 [.p [aA,aC,aB,aG]]],[(.list iT),aA,aC,aB,aG],⟨[.v .bool],[]⟩,[.bool],Pw.unc5 Pw.j0U⟩
def j92:FnD where
 N:=9
 np:=2
 cs:=[N4]
theorem j8U:aN N5:=
 cOf aP aQ j92 N5 Tryz.func181 (jg jai e) e
def N6:Con:=⟨187,[.v aR,.v bu],[aR,bu],⟨[.v iT],[]⟩,[iT],Pw.unc2 Pw.j1o⟩
def jgm:FnD where
 N:=91
 np:=2
 cs:=[zJ,Iy,EZ,E0,N5]
theorem jfB:aN N6:=
 cOf aP aQ jgm N6 Tryz.func187 (jg EY (jg WO (jg NN (jg NU (jg j8U e))))) e
def N7:Con:=⟨186,[.v bu,.ip [aA,aC,aB,aG]],[bu,aA,aC,aB,aG],⟨[.v iT],[]⟩,[iT],Pw.unc5 Pw.j3y⟩
def jcc:FnD where
 N:=7
 np:=2
 cs:=[N6]
theorem jbS:aN N7:=
 cOf aP aQ jcc N7 Tryz.func186 (jg jfB e) e
def N8:Con:=⟨184,[.v bL,.clo 185 [],.clo 186 [.p [aA,aC,aB,aG]]],[bL,aA,aC,aB,aG],⟨[.v iT],[]⟩,[iT],Pw.unc5 Pw.j2w⟩
def jcZ:FnD where
 N:=34
 np:=3
 cs:=[zI,N2,N7]
 ds:=[⟨0,[sC 185 [],sC 186 [.p [aA,aC,aB,aG]],sO 1000000,sD bL,sI,sI,.b (.lst 4294967458 (.pair .str .bool) i)],[aA,aC,aB,aG,bL,iT,iT,(.list (.pair .str .bool))],[⟨.ret,[sI],[iT]⟩,⟨.exit 0,[],[]⟩],Pw.unc8 (Pw.j0O)⟩]
 modes:=[(121,[i,j])]
 keep:=[(0,⟨[1,2,7,13,14,15],[],[⟨1000000,4294967458,(.pair .str .bool),[.slot 7],i⟩],[]⟩)]
 keepX:=[(0,.ret,⟨[6],[],[],[]⟩)]
theorem jcd:aN N8:=
 cOf aP aQ jcZ N8 Tryz.func184 (jg EV (jg jbR (jg jbS e))) (jg (λh=>by kernel_rfl) e)
def N9:Con:=⟨188,[.v aR,.v fQ],[aR,fQ],⟨[.v iT],[]⟩,[iT],Pw.unc2 Pw.j11⟩
def jhe:FnD where
 N:=83
 np:=2
 cs:=[zJ,EZ,E0]
theorem jgn:aN N9:=
 cOf aP aQ jhe N9 Tryz.func188 (jg EY (jg NN (jg NU e))) e
def Oa:Con:=⟨130,[.v aR,.v cD],[aR,cD],⟨[.v iT],[]⟩,[iT],Pw.unc2 Pw.j1s⟩
def jep:FnD where
 N:=40
 np:=2
 cs:=[N8,N9]
 ds:=[⟨0,[sB 128 0,sD bV,sI,sI,.b (.cell [.d aA,.d aC,.d aB,.d aG] j)],[bV,iT,iT,aA,aC,aB,aG],[⟨.ret,[sI],[iT]⟩,⟨.exit 0,[],[]⟩],Pw.unc7 (Pw.j12)⟩]
 keep:=[(0,⟨[2,27,28,29],[128],[],[]⟩)]
 keepX:=[(0,.ret,⟨[4],[],[],[]⟩)]
theorem jdM:aN Oa:=
 cOf aP aQ jep Oa Tryz.func130 (jg jcd (jg jgn e)) (jg (λh=>by kernel_rfl) e)
def Ob:Con:=⟨129,[.v cD,.ip [aA,aC,aB,aG]],[cD,aA,aC,aB,aG],⟨[.v iT],[]⟩,[iT],Pw.unc5 Pw.j7N⟩
def jil:FnD where
 N:=7
 np:=2
 cs:=[Oa]
theorem jhf:aN Ob:=
 cOf aP aQ jil Ob Tryz.func129 (jg jdM e) e
def Oc:Con:=⟨127,[.v aG,.clo 128 [],.clo 129 [.p [aA,aC,aB,aG]]],[aG,aA,aC,aB,aG],⟨[.v iT],[]⟩,[iT],Pw.unc5 Pw.j2M⟩
def jaY:FnD where
 N:=34
 np:=3
 cs:=[zI,N1,Ob]
 ds:=[⟨0,[sC 128 [],sC 129 [.p [aA,aC,aB,aG]],sO 1000000,sD aG,sI,sI,.b (.lst 4294967458 (.pair .str .bool) i)],[aA,aC,aB,aG,aG,iT,iT,(.list (.pair .str .bool))],[⟨.ret,[sI],[iT]⟩,⟨.exit 0,[],[]⟩],Pw.unc8 (Pw.j0A)⟩]
 modes:=[(121,[i,j])]
 keep:=[(0,⟨[1,2,7,13,14,15],[],[⟨1000000,4294967458,(.pair .str .bool),[.slot 7],i⟩],[]⟩)]
 keepX:=[(0,.ret,⟨[6],[],[],[]⟩)]
theorem jau:aN Oc:=
 cOf aP aQ jaY Oc Tryz.func127 (jg EV (jg jhd (jg jhf e))) (jg (λh=>by kernel_rfl) e)
def Od:Con:=⟨72,[.v aR],[aR],⟨[.v iT],[]⟩,[iT],λh=>Pw.j5A h⟩
def jln:FnD where
 N:=72
 np:=1
 cs:=[zI,NM,NP,N0,Oc]
 ds:=[⟨0,[sB 64 0,sO 1000000,sD aC,sI,sI,.b (.cell [.d aA,.d aC,.d aB,.d aG] i),.b (.lst 4294967458 (.pair .str .bool) i)],[aC,iT,iT,aA,aC,aB,aG,(.list (.pair .str .bool))],[⟨.ret,[sI],[iT]⟩,⟨.exit 0,[sB 64 0,.b (.cell [.d aA,.d aC,.d aB,.d aG] i)],[aA,aC,aB,aG]⟩],Pw.unc8 (Pw.j3a)⟩]
 modes:=[(121,[i,j])]
 keep:=[(0,⟨[1,4,39,40,41],[64],[⟨1000000,4294967458,(.pair .str .bool),[.slot 4],i⟩],[]⟩)]
 keepX:=[(0,.ret,⟨[2],[],[],[]⟩),(0,.exit 0,⟨[1],[64],[],[]⟩)]
theorem jjU:aN Od:=
 cOf aP aQ jln Od Tryz.func72 (jg EV (jg jcW (jg jf7 (jg jas (jg jau e))))) (jg (λh=>by kernel_rfl) e)
def Oe:Con:=⟨208,[.v bh],[bh],⟨[.v cZ,.v iT],[]⟩,[cZ,iT],λh=>Pw.jle h⟩
def jwj:FnD where
 N:=16
 np:=1
 cs:=[Ix]
theorem juc:aN Oe:=
 cOf aP aQ jwj Oe Tryz.func208 (jg WN e) e
def Of:Con:=⟨140,[.v aA],[aA],⟨[.own 183 iC],[]⟩,[iC],λh=>Pw.jh1 h⟩
def jon:FnD where
 N:=25
 np:=1
 cs:=[Oe]
 ds:=[⟨0,[sO 1000000,sD aA,sI,sI,.b (.lst 183 cZ i)],[aA,iT,iT,iC],[⟨.exit 0,[sO 1500100,.b (.lst 183 cZ i)],[iC]⟩],Pw.unc4 (Pw.j4i)⟩]
 keep:=[(0,⟨[3,8,9,10],[],[⟨1000000,183,cZ,[.slot 3],i⟩],[]⟩)]
 keepX:=[(0,.exit 0,⟨[3],[],[⟨1500100,183,cZ,[.slot 3],i⟩],[]⟩)]
 ro:=[j]
theorem jmg:aN Of:=
 cOf aP aQ jon Of Tryz.func140 (jg juc e) (jg (λh=>by kernel_rfl) e)
def Og:Con:=⟨92,[.v aR],[aR],⟨[.v ej],[]⟩,[ej],λh=>Pw.ji0 h⟩
def jrK:FnD where
 N:=8
 np:=1
 cs:=[Of]
 dw:=[(1,[[],[],[],[384],[],[128]])]
theorem jq5:aN Og:=
 cOf aP aQ jrK Og Tryz.func92 (jg jmg e) e
end Go.Proofs.Pk
