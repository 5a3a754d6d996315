/- cb: each given function is its plain function, printed by a program. -/
import Derived.Test.YtmccfdihkphfaaaGreatRECon1
open _root_ renaming trivial->e
open Bool renaming false->i,true->j
noncomputable section
open Go Go.Lft
set_option linter.unusedVariables false
set_option maxRecDepth 100000
namespace Go.Proofs.Pk
def PL:Con:=⟨231,[.v (.list iT),.clo 255 []],[(.list iT)],⟨[.v iT],[]⟩,[iT],λh=>Pw.j3R h⟩
def jdG:FnD where
 N:=19
 np:=2
 cs:=[Pj]
 ds:=[⟨0,[sD (.list iT),sC 255 [],sI,sI],[(.list iT),iT,iT],[⟨.ret,[sI],[iT]⟩,⟨.exit 0,[],[]⟩],Pw.unc3 (Pw.j0z)⟩]
 keep:=[(0,⟨[0,1,7,8],[],[],[]⟩)]
 keepX:=[(0,.ret,⟨[4],[],[],[]⟩)]
theorem jdm:aM PL:=
 cOf aN aO jdG PL Tryz.func231 (ja jdh e) (ja (λh=>by kernel_rfl) e)
def PM:Con:=⟨254,[.v (.list iT),.clo 255 []],[(.list iT)],⟨[.v .bool],[]⟩,[.bool],λh=>Pw.j1p h⟩
def jbL:FnD where
 N:=9
 np:=2
 cs:=[PL]
theorem jbD:aM PM:=
 cOf aN aO jbL PM Tryz.func254 (ja jdm e) e
def PN:Con:=⟨196,[.v aB,.v fm],[aB,fm],⟨[.v iT],[]⟩,[iT],Pw.unc2 Pw.j1u⟩
def jga:FnD where
 N:=46
 np:=2
 cs:=[An,PM]
 ds:=[⟨1,[sB 192 0,sI,sI,.b (.cell [.d .str,.d iT,.d (.list iT)] i)],[iT,iT,.str,iT,(.list iT)],[⟨.ret,[sI],[iT]⟩,⟨.exit 1,[],[]⟩],Pw.unc5 (Pw.j0o)⟩]
 keep:=[(1,⟨[3,25,26],[192],[],[]⟩)]
 keepX:=[(1,.ret,⟨[4],[],[],[]⟩)]
theorem jfn:aM PN:=
 cOf aN aO jga PN Tryz.func196 (ja FM (ja jbD e)) (ja (λh=>by kernel_rfl) e)
def PO:Con:=⟨195,[.v fm,.ip [au,ax,aw,aA]],[fm,au,ax,aw,aA],⟨[.v iT],[]⟩,[iT],Pw.unc5 Pw.j8K⟩
def jkw:FnD where
 N:=7
 np:=2
 cs:=[PN]
theorem jjj:aM PO:=
 cOf aN aO jkw PO Tryz.func195 (ja jfn e) e
def PQ:Con:=⟨193,[.v aw,.clo 194 [],.clo 195 [.p [au,ax,aw,aA]]],[aw,au,ax,aw,aA],⟨[.v iT],[]⟩,[iT],Pw.unc5 Pw.j24⟩
def jcm:FnD where
 N:=34
 np:=3
 cs:=[Am,Pc,PO]
 ds:=[⟨0,[sC 194 [],sC 195 [.p [au,ax,aw,aA]],sO 1000000,sD aw,sI,sI,.b (.lst 4294967535 (.pair .str .bool) i)],[au,ax,aw,aA,aw,iT,iT,(.list (.pair .str .bool))],[⟨.ret,[sI],[iT]⟩,⟨.exit 0,[],[]⟩],Pw.unc8 (Pw.j0D)⟩]
 modes:=[(191,[i,j])]
 keep:=[(0,⟨[1,2,7,13,14,15],[],[⟨1000000,4294967535,(.pair .str .bool),[.slot 7],i⟩],[]⟩)]
 keepX:=[(0,.ret,⟨[6],[],[],[]⟩)]
theorem jbM:aM PQ:=
 cOf aN aO jcm PQ Tryz.func193 (ja FJ (ja jjf (ja jjj e))) (ja (λh=>by kernel_rfl) e)
def PR:Con:=⟨198,[.v cB],[cB],⟨[.v .str],[]⟩,[.str],λh=>Pw.j8L h⟩
def jkx:FnD where
 N:=5
 np:=1
theorem jjk:aM PR:=
 cOf aN aO jkx PR Tryz.func198 e e
def PS:Con:=⟨258,[.v bD],[bD],⟨[.v .str],[]⟩,[.str],λh=>Pw.j3S h⟩
def jdH:FnD where
 N:=5
 np:=1
theorem jdn:aM PS:=
 cOf aN aO jdH PS Tryz.func258 e e
def PT:Con:=⟨311,[.v iT,.ip [au,ax,aw,aA]],[iT,au,ax,aw,aA],⟨[.v .bool],[]⟩,[.bool],Pw.unc5 Pw.j54⟩
def jgb:FnD where
 N:=10
 np:=2
 cs:=[An]
theorem jfo:aM PT:=
 cOf aN aO jgb PT Tryz.func311 (ja FM e) e
def PU:Con:=⟨231,[.v (.list iT),.clo 311 [.p [au,ax,aw,aA]]],[(.list iT),au,ax,aw,aA],⟨[.v iT],[]⟩,[iT],Pw.unc5 Pw.j2I⟩
def jbN:FnD where
 N:=19
 np:=2
 cs:=[PT]
 ds:=[⟨0,[sD (.list iT),sC 311 [.p [au,ax,aw,aA]],sI,sI],[(.list iT),au,ax,aw,aA,iT,iT],[⟨.ret,[sI],[iT]⟩,⟨.exit 0,[],[]⟩],Pw.unc7 (Pw.j0q)⟩]
 keep:=[(0,⟨[0,1,7,8],[],[],[]⟩)]
 keepX:=[(0,.ret,⟨[4],[],[],[]⟩)]
theorem jbE:aM PU:=
 cOf aN aO jbN PU Tryz.func231 (ja jfo e) (ja (λh=>by kernel_rfl) e)
def PV:Con:=⟨254,[.v (.list iT),.clo 311 [.p [au,ax,aw,aA]]],[(.list iT),au,ax,aw,aA],⟨[.v .bool],[]⟩,[.bool],Pw.unc5 Pw.j10⟩
def jag:FnD where
 N:=9
 np:=2
 cs:=[PU]
theorem ja3:aM PV:=
 cOf aN aO jag PV Tryz.func254 (ja jbE e) e
def PW:Con:=⟨260,[.v aB,.v bD],[aB,bD],⟨[.v iT],[]⟩,[iT],Pw.unc2 Pw.j1s⟩
def jio:FnD where
 N:=91
 np:=2
 cs:=[An,JT,FN,FO,PV]
theorem jhz:aM PW:=
 cOf aN aO jio PW Tryz.func260 (ja FM (ja Zg (ja O9 (ja Pg (ja ja3 e))))) e
def PX:Con:=⟨259,[.v bD,.ip [au,ax,aw,aA]],[bD,au,ax,aw,aA],⟨[.v iT],[]⟩,[iT],Pw.unc5 Pw.j3T⟩
def jdI:FnD where
 N:=7
 np:=2
 cs:=[PW]
theorem jdo:aM PX:=
 cOf aN aO jdI PX Tryz.func259 (ja jhz e) e
def PY:Con:=⟨257,[.v bC,.clo 258 [],.clo 259 [.p [au,ax,aw,aA]]],[bC,au,ax,aw,aA],⟨[.v iT],[]⟩,[iT],Pw.unc5 Pw.j2J⟩
def jeC:FnD where
 N:=34
 np:=3
 cs:=[Am,PS,PX]
 ds:=[⟨0,[sC 258 [],sC 259 [.p [au,ax,aw,aA]],sO 1000000,sD bC,sI,sI,.b (.lst 4294967535 (.pair .str .bool) i)],[au,ax,aw,aA,bC,iT,iT,(.list (.pair .str .bool))],[⟨.ret,[sI],[iT]⟩,⟨.exit 0,[],[]⟩],Pw.unc8 (Pw.j0T)⟩]
 modes:=[(191,[i,j])]
 keep:=[(0,⟨[1,2,7,13,14,15],[],[⟨1000000,4294967535,(.pair .str .bool),[.slot 7],i⟩],[]⟩)]
 keepX:=[(0,.ret,⟨[6],[],[],[]⟩)]
theorem jdJ:aM PY:=
 cOf aN aO jeC PY Tryz.func257 (ja FJ (ja jdn (ja jdo e))) (ja (λh=>by kernel_rfl) e)
def PZ:Con:=⟨261,[.v aB,.v fw],[aB,fw],⟨[.v iT],[]⟩,[iT],Pw.unc2 Pw.j17⟩
def jjl:FnD where
 N:=83
 np:=2
 cs:=[An,FN,FO]
theorem jip:aM PZ:=
 cOf aN aO jjl PZ Tryz.func261 (ja FM (ja O9 (ja Pg e))) e
def P0:Con:=⟨200,[.v aB,.v cB],[aB,cB],⟨[.v iT],[]⟩,[iT],Pw.unc2 Pw.j1w⟩
def jgc:FnD where
 N:=40
 np:=2
 cs:=[PY,PZ]
 ds:=[⟨0,[sB 128 0,sD bt,sI,sI,.b (.cell [.d au,.d ax,.d aw,.d aA] j)],[bt,iT,iT,au,ax,aw,aA],[⟨.ret,[sI],[iT]⟩,⟨.exit 0,[],[]⟩],Pw.unc7 (Pw.j18)⟩]
 keep:=[(0,⟨[2,27,28,29],[128],[],[]⟩)]
 keepX:=[(0,.ret,⟨[4],[],[],[]⟩)]
theorem jfp:aM P0:=
 cOf aN aO jgc P0 Tryz.func200 (ja jdJ (ja jip e)) (ja (λh=>by kernel_rfl) e)
def P1:Con:=⟨199,[.v cB,.ip [au,ax,aw,aA]],[cB,au,ax,aw,aA],⟨[.v iT],[]⟩,[iT],Pw.unc5 Pw.j8M⟩
def jky:FnD where
 N:=7
 np:=2
 cs:=[P0]
theorem jjm:aM P1:=
 cOf aN aO jky P1 Tryz.func199 (ja jfp e) e
def P2:Con:=⟨197,[.v aA,.clo 198 [],.clo 199 [.p [au,ax,aw,aA]]],[aA,au,ax,aw,aA],⟨[.v iT],[]⟩,[iT],Pw.unc5 Pw.j32⟩
def jcn:FnD where
 N:=34
 np:=3
 cs:=[Am,PR,P1]
 ds:=[⟨0,[sC 198 [],sC 199 [.p [au,ax,aw,aA]],sO 1000000,sD aA,sI,sI,.b (.lst 4294967535 (.pair .str .bool) i)],[au,ax,aw,aA,aA,iT,iT,(.list (.pair .str .bool))],[⟨.ret,[sI],[iT]⟩,⟨.exit 0,[],[]⟩],Pw.unc8 (Pw.j0E)⟩]
 modes:=[(191,[i,j])]
 keep:=[(0,⟨[1,2,7,13,14,15],[],[⟨1000000,4294967535,(.pair .str .bool),[.slot 7],i⟩],[]⟩)]
 keepX:=[(0,.ret,⟨[6],[],[],[]⟩)]
theorem jbO:aM P2:=
 cOf aN aO jcn P2 Tryz.func197 (ja FJ (ja jjk (ja jjm e))) (ja (λh=>by kernel_rfl) e)
def P3:Con:=⟨129,[.v aB],[aB],⟨[.v iT],[]⟩,[iT],λh=>Pw.j4l h⟩
def jo3:FnD where
 N:=72
 np:=1
 cs:=[Am,O8,Pb,PQ,P2]
 ds:=[⟨0,[sB 64 0,sO 1000000,sD ax,sI,sI,.b (.cell [.d au,.d ax,.d aw,.d aA] i),.b (.lst 4294967535 (.pair .str .bool) i)],[ax,iT,iT,au,ax,aw,aA,(.list (.pair .str .bool))],[⟨.ret,[sI],[iT]⟩,⟨.exit 0,[sB 64 0,.b (.cell [.d au,.d ax,.d aw,.d aA] i)],[au,ax,aw,aA]⟩],Pw.unc8 (Pw.j3u)⟩]
 modes:=[(191,[i,j])]
 keep:=[(0,⟨[1,4,39,40,41],[64],[⟨1000000,4294967535,(.pair .str .bool),[.slot 4],i⟩],[]⟩)]
 keepX:=[(0,.ret,⟨[2],[],[],[]⟩),(0,.exit 0,⟨[1],[64],[],[]⟩)]
theorem jmn:aM P3:=
 cOf aN aO jo3 P3 Tryz.func129 (ja FJ (ja jex (ja jgR (ja jbM (ja jbO e))))) (ja (λh=>by kernel_rfl) e)
def P4:Con:=⟨262,[.v bk],[bk],⟨[.v df,.v iT],[]⟩,[df,iT],λh=>Pw.jnQ h⟩
def jzD:FnD where
 N:=16
 np:=1
 cs:=[JS]
theorem jxr:aM P4:=
 cOf aN aO jzD P4 Tryz.func262 (ja Zf e) e
def P5:Con:=⟨201,[.v au],[au],⟨[.own 157 eM],[]⟩,[eM],λh=>Pw.jj6 h⟩
def jr7:FnD where
 N:=25
 np:=1
 cs:=[P4]
 ds:=[⟨0,[sO 1000000,sD au,sI,sI,.b (.lst 157 df i)],[au,iT,iT,eM],[⟨.exit 0,[sO 1500100,.b (.lst 157 df i)],[eM]⟩],Pw.unc4 (Pw.j4B)⟩]
 keep:=[(0,⟨[3,8,9,10],[],[⟨1000000,157,df,[.slot 3],i⟩],[]⟩)]
 keepX:=[(0,.exit 0,⟨[3],[],[⟨1500100,157,df,[.slot 3],i⟩],[]⟩)]
 ro:=[j]
theorem joV:aM P5:=
 cOf aN aO jr7 P5 Tryz.func201 (ja jxr e) (ja (λh=>by kernel_rfl) e)
end Go.Proofs.Pk
