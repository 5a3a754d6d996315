/- cJ: each given function is its plain function, printed by a program. -/
import Derived.Test.YtllkgjaoejhneaaGreatSECon7
open _root_ renaming trivial->e
open Bool renaming false->i
noncomputable section
open Go Go.Lft
set_option linter.unusedVariables false
set_option maxRecDepth 100000
namespace Go.Proofs.Pk
def I3:Con:=⟨73,[.v aR],[aR],⟨[.v iT],[]⟩,[iT],λh=>Pw.jbC h⟩
def jrZ:FnD where
 N:=45
 np:=1
 cs:=[Pm,Po,Pq,Pt]
theorem Xo:aN I3:=
 cOf aP aQ jrZ I3 Tryz.func73 (jg jql (jg joB (jg jk9 (jg jka e)))) e
def I4:Con:=⟨69,[.v aR,.v iT,.v iT],[aR,iT,iT],⟨[.v .bool],[]⟩,[.bool],Pw.unc3 Pw.jgv⟩
def jyg:FnD where
 N:=29
 np:=3
 cs:=[I3]
theorem Xp:aN I4:=
 cOf aP aQ jyg I4 Tryz.func69 (jg Xo e) e
def I5:Con:=⟨204,[.v bh,.v bu],[bh,bu],⟨[.v iT],[]⟩,[iT],Pw.unc2 Pw.jbD⟩
def js0:FnD where
 N:=58
 np:=2
 cs:=[I1]
theorem Xq:aN I5:=
 cOf aP aQ js0 I5 Tryz.func204 (jg Xn e) e
def I6:Con:=⟨207,[.v iT],[iT],⟨[.v .bool],[]⟩,[.bool],λh=>Pw.jdF h⟩
def js1:FnD where
 N:=5
 np:=1
 cs:=[wJ]
theorem Xr:aN I6:=
 cOf aP aQ js1 I6 Tryz.func207 (jg B3 e) e
def I7:Con:=⟨139,[.v bh,.v aT],[bh,aT],⟨[.v iT,.v iT],[]⟩,[iT,iT],Pw.unc2 Pw.j4L⟩
def js2:FnD where
 N:=76
 np:=2
 cs:=[wJ,wK,I6]
 ds:=[⟨0,[sB 128 0,sB 192 0,sO 1000000,sI,.b (.cell [.d .str,.d iT,.d bK] i),.b (.cell [.d iT,.d iT] i),.b (.lst 200 aT i)],[iT,.str,iT,bK,iT,iT,ag],[⟨.ret,[sI,sI],[iT,iT]⟩,⟨.exit 0,[],[]⟩],Pw.unc7 (Pw.j4d)⟩]
 keep:=[(0,⟨[2,3,6,8],[128,192],[⟨1000000,200,aT,[.slot 6],i⟩],[]⟩)]
 keepX:=[(0,.ret,⟨[4,5],[],[],[]⟩)]
theorem Xs:aN I7:=
 cOf aP aQ js2 I7 Tryz.func139 (jg B3 (jg B4 (jg Xr e))) (jg (λh=>by kernel_rfl) e)
def Pu:Con:=⟨271,[.v bh,.v ag,.v iT],[bh,ag,iT],⟨[.v iT],[]⟩,[iT],Pw.unc3 Pw.jg9⟩
def jqr:FnD where
 N:=32
 np:=3
 ds:=[⟨0,[sD ag,sI,sI,sI],[ag,iT,iT,iT],[⟨.exit 0,[sI],[iT]⟩],Pw.unc4 (Pw.j4M)⟩]
 keep:=[(0,⟨[1,2,7,8],[],[],[]⟩)]
 keepX:=[(0,.exit 0,⟨[7],[],[],[]⟩)]
theorem joC:aN Pu:=
 cOf aP aQ jqr Pu Tryz.func271 e (jg (λh=>by kernel_rfl) e)
def Pv:Con:=⟨244,[.v bh,.v iT],[bh,iT],⟨[.v iT,.v iT],[]⟩,[iT,iT],Pw.unc2 Pw.jae⟩
def jmt:FnD where
 N:=22
 np:=2
 cs:=[wJ,wK,Pu]
theorem jlF:aN Pv:=
 cOf aP aQ jmt Pv Tryz.func244 (jg B3 (jg B4 (jg joC e))) e
def Px:Con:=⟨245,[.v iT,.v iT],[iT,iT],⟨[.v aT],[]⟩,[aT],Pw.unc2 Pw.ji9⟩
def js3:FnD where
 N:=16
 np:=2
theorem jqs:aN Px:=
 cOf aP aQ js3 Px Tryz.func245 e e
def Fb:Con:=⟨217,[.v bh,.v iT],[bh,iT],⟨[.v aT,.v iT],[]⟩,[aT,iT],Pw.unc2 Pw.j3I⟩
def joD:FnD where
 N:=21
 np:=2
 cs:=[Pv,Px]
theorem Py:aN Fb:=
 cOf aP aQ joD Fb Tryz.func217 (jg jlF (jg jqs e)) e
def I8:Con:=⟨205,[.v bh,.v bu,.v iT],[bh,bu,iT],⟨[.v iT,.v .bool],[]⟩,[iT,.bool],Pw.unc3 Pw.j6H⟩
def jmu:FnD where
 N:=66
 np:=3
 cs:=[I7]
theorem Xt:aN I8:=
 cOf aP aQ jmu I8 Tryz.func205 (jg Xs e) e
def I9:Con:=⟨220,[.v bh,.v bu,.v iT],[bh,bu,iT],⟨[.v iT],[]⟩,[iT],Pw.unc3 Pw.jbF⟩
def js4:FnD where
 N:=81
 np:=3
 cs:=[I7,Fb,I8]
 ds:=[⟨0,[sI,sB 192 0,sB 256 0,sI,.b (.cell [.d .str,.d iT,.d bK] i),.b (.cell [.d .str,.d iT,.d iT,.d iT,.d iT,.d iT,.d (.list iT),.d ag,.d iT,.d iT] i)],[iT,iT,.str,iT,bK,.str,iT,iT,iT,iT,iT,(.list iT),ag,iT,iT],[⟨.exit 0,[sI],[iT]⟩],Pw.u8 Pw.unc7 (Pw.j5i)⟩]
 keep:=[(0,⟨[2,3,4,7],[192,256],[],[]⟩)]
 keepX:=[(0,.exit 0,⟨[7],[],[],[]⟩)]
theorem Xu:aN I9:=
 cOf aP aQ js4 I9 Tryz.func220 (jg Xs (jg Py (jg Xt e))) (jg (λh=>by kernel_rfl) e)
def Pz:Con:=⟨215,[.v bh,.v bu,.v iT],[bh,bu,iT],⟨[.v iT,.v iT],[]⟩,[iT,iT],Pw.unc3 Pw.jfv⟩
def js5:FnD where
 N:=22
 np:=3
 cs:=[I5,I9]
theorem jqt:aN Pz:=
 cOf aP aQ js5 Pz Tryz.func215 (jg Xq (jg Xu e)) e
def Ja:Con:=⟨251,[.v aT],[aT],⟨[.v iT],[]⟩,[iT],λh=>Pw.j6Z h⟩
def jqu:FnD where
 N:=10
 np:=1
 cs:=[I0]
theorem Xv:aN Ja:=
 cOf aP aQ jqu Ja Tryz.func251 (jg Xm e) e
def PA:Con:=⟨242,[.v bh,.v iT],[bh,iT],⟨[.v iT,.v iT],[]⟩,[iT,iT],Pw.unc2 Pw.jbh⟩
def jqv:FnD where
 N:=19
 np:=2
 cs:=[Fb,Ja]
theorem joE:aN PA:=
 cOf aP aQ jqv PA Tryz.func242 (jg Py (jg Xv e)) e
def PB:Con:=⟨243,[.v ag,.v iT],[ag,iT],⟨[.v .bool],[]⟩,[.bool],Pw.unc2 Pw.jga⟩
def jqw:FnD where
 N:=28
 np:=2
 ds:=[⟨0,[sD ag,sI,sI],[ag,iT,iT],[⟨.ret,[sD .bool],[.bool]⟩,⟨.exit 0,[],[]⟩],Pw.unc3 (Pw.j4N)⟩]
 keep:=[(0,⟨[0,1,5],[],[],[]⟩)]
 keepX:=[(0,.ret,⟨[4],[],[],[]⟩)]
theorem joF:aN PB:=
 cOf aP aQ jqw PB Tryz.func243 e (jg (λh=>by kernel_rfl) e)
def PC:Con:=⟨216,[.v bh,.v ag,.v iT],[bh,ag,iT],⟨[.v .bool],[]⟩,[.bool],Pw.unc3 Pw.jpU⟩
def jyh:FnD where
 N:=27
 np:=3
 cs:=[B5,PA,PB]
theorem jwn:aN PC:=
 cOf aP aQ jyh PC Tryz.func216 (jg I2 (jg joE (jg joF e))) e
def PD:Con:=⟨146,[.v aR,.v bu,.v iT],[aR,bu,iT],⟨[.v iT,.v .bool],[]⟩,[iT,.bool],Pw.unc3 Pw.jia⟩
def juk:FnD where
 N:=94
 np:=3
 cs:=[Fb,Pz,PC]
 ds:=[⟨0,[sB 256 0,sI,sB 704 0,sB 768 0,sD .bool,sI,.b (.cell [.d .str,.d iT,.d iT,.d iT,.d iT,.d iT,.d (.list iT),.d ag,.d iT,.d iT] i),.b (.cell [.d .str,.d iT,.d (.list iT)] i),.b (.cell [.d iT,.d iT] i)],[iT,.bool,iT,.str,iT,iT,iT,iT,iT,(.list iT),ag,iT,iT,.str,iT,(.list iT),iT,iT],[⟨.exit 0,[sB 256 0,sI,sD .bool,.b (.cell [.d .str,.d iT,.d iT,.d iT,.d iT,.d iT,.d (.list iT),.d ag,.d iT,.d iT] i)],[iT,.bool,.str,iT,iT,iT,iT,iT,(.list iT),ag,iT,iT]⟩],Pw.u8 (Pw.u8 Pw.unc2) (Pw.j61)⟩]
 keep:=[(0,⟨[4,9,11,12,14,15],[256,704,768],[],[]⟩)]
 keepX:=[(0,.exit 0,⟨[4,9,14],[256],[],[]⟩)]
theorem js6:aN PD:=
 cOf aP aQ juk PD Tryz.func146 (jg Py (jg jqt (jg jwn e))) (jg (λh=>by kernel_rfl) e)
def PE:Con:=⟨97,[.v aR,.v bu,.v iT],[aR,bu,iT],⟨[.v iT],[]⟩,[iT],Pw.unc3 Pw.jlh⟩
def jwo:FnD where
 N:=27
 np:=3
 cs:=[PD]
theorem jul:aN PE:=
 cOf aP aQ jwo PE Tryz.func97 (jg js6 e) e
def Jb:Con:=⟨61,[.v cD,.v iT,.v iT],[cD,iT,iT],⟨[.v .bool],[]⟩,[.bool],Pw.unc3 Pw.jib⟩
def jum:FnD where
 N:=42
 np:=3
 ds:=[⟨0,[sI,sI,sB 192 0,sI,.b (.cell [.d .str,.d bL,.d bV] i)],[iT,iT,iT,.str,bL,bV],[⟨.ret,[sD .bool],[.bool]⟩,⟨.exit 0,[],[]⟩],Pw.unc6 (Pw.j62)⟩]
 keep:=[(0,⟨[1,2,3,7],[192],[],[]⟩)]
 keepX:=[(0,.ret,⟨[6],[],[],[]⟩)]
theorem Xw:aN Jb:=
 cOf aP aQ jum Jb Tryz.func61 e (jg (λh=>by kernel_rfl) e)
def Fc:Con:=⟨109,[.v aR,.v iT,.v iT],[aR,iT,iT],⟨[.v iT,.v iT],[]⟩,[iT,iT],Pw.unc3 Pw.jh5⟩
def jwp:FnD where
 N:=43
 np:=3
 cs:=[PE,Jb]
 ds:=[⟨0,[sI,sB 192 0,sB 512 0,sI,.b (.cell [.d aA,.d aC,.d aB,.d aG] i),.b (.cell [.d .str,.d bL,.d bV] i)],[iT,iT,aA,aC,aB,aG,.str,bL,bV],[⟨.ret,[sI,sI],[iT,iT]⟩,⟨.exit 0,[],[]⟩],Pw.unc9 (Pw.j6J)⟩]
 keep:=[(0,⟨[2,3,8,9],[192,512],[],[]⟩)]
 keepX:=[(0,.ret,⟨[6,7],[],[],[]⟩)]
theorem PF:aN Fc:=
 cOf aP aQ jwp Fc Tryz.func109 (jg jul (jg Xw e)) (jg (λh=>by kernel_rfl) e)
end Go.Proofs.Pk
