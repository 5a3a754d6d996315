/- Contracts. -/
import Derived.Test.YtmccfdihkphfaaaGreatCECon1
open _root_ renaming trivial->e
open Bool renaming false->i,true->j
noncomputable section
open Go Go.Lft
set_option linter.unusedVariables false
set_option maxRecDepth 100000
namespace Go.Proofs.Pk
def Gw:Con:=⟨256,[.v iT],[iT],⟨[.v .bool],[]⟩,[.bool],λh=>Pw.j15 h⟩
def jtp:FnD where
 N:=12
 np:=1
 cs:=[Q2]
theorem RI:aJ Gw:=
 cOf aM aN jtp Gw Tryz.func256 (ja jq2 e) e
def RJ:Con:=⟨255,[.v iT],[iT],⟨[.v .bool],[]⟩,[.bool],λh=>Pw.j4G h⟩
def jfu:FnD where
 N:=6
 np:=1
 cs:=[Gw]
theorem jf5:aJ RJ:=
 cOf aM aN jfu RJ Tryz.func255 (ja RI e) e
def RK:Con:=⟨231,[.v (.list iT),.clo 255 []],[(.list iT)],⟨[.v iT],[]⟩,[iT],λh=>Pw.j4H h⟩
def jfv:FnD where
 N:=19
 np:=2
 cs:=[RJ]
 ds:=[⟨0,[sD (.list iT),sC 255 [],sI,sI],[(.list iT),iT,iT],[⟨.ret,[sI],[iT]⟩,⟨.exit 0,[],[]⟩],Pw.unc3 (Pw.j0D)⟩]
 keep:=[(0,⟨[0,1,7,8],[],[],[]⟩)]
 keepX:=[(0,.ret,⟨[4],[],[],[]⟩)]
theorem jf6:aJ RK:=
 cOf aM aN jfv RK Tryz.func231 (ja jf5 e) (ja (λh=>by kernel_rfl) e)
def RM:Con:=⟨254,[.v (.list iT),.clo 255 []],[(.list iT)],⟨[.v .bool],[]⟩,[.bool],λh=>Pw.j1E h⟩
def jdv:FnD where
 N:=9
 np:=2
 cs:=[RK]
theorem jda:aJ RM:=
 cOf aM aN jdv RM Tryz.func254 (ja jf6 e) e
def RN:Con:=⟨196,[.v aG,.v fm],[aG,fm],⟨[.v iT],[]⟩,[iT],Pw.unc2 Pw.j2g⟩
def ji4:FnD where
 N:=46
 np:=2
 cs:=[Ba,RM]
 ds:=[⟨1,[sB 192 0,sI,sI,.b (.cell [.d .str,.d iT,.d (.list iT)] i)],[iT,iT,.str,iT,(.list iT)],[⟨.ret,[sI],[iT]⟩,⟨.exit 1,[],[]⟩],Pw.unc5 (Pw.j0p)⟩]
 keep:=[(1,⟨[3,25,26],[192],[],[]⟩)]
 keepX:=[(1,.ret,⟨[4],[],[],[]⟩)]
theorem jhn:aJ RN:=
 cOf aM aN ji4 RN Tryz.func196 (ja Gn (ja jda e)) (ja (λh=>by kernel_rfl) e)
def RO:Con:=⟨195,[.v fm,.ip [al,au,ar,ay]],[fm,al,au,ar,ay],⟨[.v iT],[]⟩,[iT],Pw.unc5 Pw.ja4⟩
def jmw:FnD where
 N:=7
 np:=2
 cs:=[RN]
theorem jlm:aJ RO:=
 cOf aM aN jmw RO Tryz.func195 (ja jhn e) e
def RP:Con:=⟨193,[.v ar,.clo 194 [],.clo 195 [.p [al,au,ar,ay]]],[ar,al,au,ar,ay],⟨[.v iT],[]⟩,[iT],Pw.unc5 Pw.j2A⟩
def je5:FnD where
 N:=34
 np:=3
 cs:=[AZ,Q0,RO]
 ds:=[⟨0,[sC 194 [],sC 195 [.p [al,au,ar,ay]],sO 1000000,sD ar,sI,sI,.b (.lst 4294967535 (.pair .str .bool) i)],[al,au,ar,ay,ar,iT,iT,(.list (.pair .str .bool))],[⟨.ret,[sI],[iT]⟩,⟨.exit 0,[],[]⟩],Pw.unc8 (Pw.j0P)⟩]
 modes:=[(191,[i,j])]
 keep:=[(0,⟨[1,2,7,13,14,15],[],[⟨1000000,4294967535,(.pair .str .bool),[.slot 7],i⟩],[]⟩)]
 keepX:=[(0,.ret,⟨[6],[],[],[]⟩)]
theorem jdw:aJ RP:=
 cOf aM aN je5 RP Tryz.func193 (ja Gk (ja jli (ja jlm e))) (ja (λh=>by kernel_rfl) e)
def RQ:Con:=⟨198,[.v cD],[cD],⟨[.v .str],[]⟩,[.str],λh=>Pw.ja5 h⟩
def jmx:FnD where
 N:=5
 np:=1
theorem jln:aJ RQ:=
 cOf aM aN jmx RQ Tryz.func198 e e
def RR:Con:=⟨258,[.v bE],[bE],⟨[.v .str],[]⟩,[.str],λh=>Pw.j4I h⟩
def jfw:FnD where
 N:=5
 np:=1
theorem jf7:aJ RR:=
 cOf aM aN jfw RR Tryz.func258 e e
def RS:Con:=⟨311,[.v iT,.ip [al,au,ar,ay]],[iT,al,au,ar,ay],⟨[.v .bool],[]⟩,[.bool],Pw.unc5 Pw.j68⟩
def ji5:FnD where
 N:=10
 np:=2
 cs:=[Ba]
theorem jho:aJ RS:=
 cOf aM aN ji5 RS Tryz.func311 (ja Gn e) e
def RT:Con:=⟨231,[.v (.list iT),.clo 311 [.p [al,au,ar,ay]]],[(.list iT),al,au,ar,ay],⟨[.v iT],[]⟩,[iT],Pw.unc5 Pw.j3q⟩
def jdx:FnD where
 N:=19
 np:=2
 cs:=[RS]
 ds:=[⟨0,[sD (.list iT),sC 311 [.p [al,au,ar,ay]],sI,sI],[(.list iT),al,au,ar,ay,iT,iT],[⟨.ret,[sI],[iT]⟩,⟨.exit 0,[],[]⟩],Pw.unc7 (Pw.j0q)⟩]
 keep:=[(0,⟨[0,1,7,8],[],[],[]⟩)]
 keepX:=[(0,.ret,⟨[4],[],[],[]⟩)]
theorem jdb:aJ RT:=
 cOf aM aN jdx RT Tryz.func231 (ja jho e) (ja (λh=>by kernel_rfl) e)
def RU:Con:=⟨254,[.v (.list iT),.clo 311 [.p [al,au,ar,ay]]],[(.list iT),al,au,ar,ay],⟨[.v .bool],[]⟩,[.bool],Pw.unc5 Pw.j1d⟩
def jbz:FnD where
 N:=9
 np:=2
 cs:=[RT]
theorem jbi:aJ RU:=
 cOf aM aN jbz RU Tryz.func254 (ja jdb e) e
def RW:Con:=⟨260,[.v aG,.v bE],[aG,bE],⟨[.v iT],[]⟩,[iT],Pw.unc2 Pw.j22⟩
def jkl:FnD where
 N:=91
 np:=2
 cs:=[Ba,Kf,Gp,Gw,RU]
theorem jjB:aJ RW:=
 cOf aM aN jkl RW Tryz.func260 (ja Gn (ja K_ (ja QX (ja RI (ja jbi e))))) e
def RX:Con:=⟨259,[.v bE,.ip [al,au,ar,ay]],[bE,al,au,ar,ay],⟨[.v iT],[]⟩,[iT],Pw.unc5 Pw.j4J⟩
def jfx:FnD where
 N:=7
 np:=2
 cs:=[RW]
theorem jf8:aJ RX:=
 cOf aM aN jfx RX Tryz.func259 (ja jjB e) e
def RY:Con:=⟨257,[.v bh,.clo 258 [],.clo 259 [.p [al,au,ar,ay]]],[bh,al,au,ar,ay],⟨[.v iT],[]⟩,[iT],Pw.unc5 Pw.j3r⟩
def jgy:FnD where
 N:=34
 np:=3
 cs:=[AZ,RR,RX]
 ds:=[⟨0,[sC 258 [],sC 259 [.p [al,au,ar,ay]],sO 1000000,sD bh,sI,sI,.b (.lst 4294967535 (.pair .str .bool) i)],[al,au,ar,ay,bh,iT,iT,(.list (.pair .str .bool))],[⟨.ret,[sI],[iT]⟩,⟨.exit 0,[],[]⟩],Pw.unc8 (Pw.j10)⟩]
 modes:=[(191,[i,j])]
 keep:=[(0,⟨[1,2,7,13,14,15],[],[⟨1000000,4294967535,(.pair .str .bool),[.slot 7],i⟩],[]⟩)]
 keepX:=[(0,.ret,⟨[6],[],[],[]⟩)]
theorem jfy:aJ RY:=
 cOf aM aN jgy RY Tryz.func257 (ja Gk (ja jf7 (ja jf8 e))) (ja (λh=>by kernel_rfl) e)
def RZ:Con:=⟨261,[.v aG,.v bc],[aG,bc],⟨[.v iT],[]⟩,[iT],Pw.unc2 Pw.j11⟩
def jlo:FnD where
 N:=83
 np:=2
 cs:=[Ba,Gp,Gw]
theorem jkm:aJ RZ:=
 cOf aM aN jlo RZ Tryz.func261 (ja Gn (ja QX (ja RI e))) e
def R0:Con:=⟨200,[.v aG,.v cD],[aG,cD],⟨[.v iT],[]⟩,[iT],Pw.unc2 Pw.j2h⟩
def ji6:FnD where
 N:=40
 np:=2
 cs:=[RY,RZ]
 ds:=[⟨0,[sB 128 0,sD ak,sI,sI,.b (.cell [.d al,.d au,.d ar,.d ay] j)],[ak,iT,iT,al,au,ar,ay],[⟨.ret,[sI],[iT]⟩,⟨.exit 0,[],[]⟩],Pw.unc7 (Pw.j1k)⟩]
 keep:=[(0,⟨[2,27,28,29],[128],[],[]⟩)]
 keepX:=[(0,.ret,⟨[4],[],[],[]⟩)]
theorem jhp:aJ R0:=
 cOf aM aN ji6 R0 Tryz.func200 (ja jfy (ja jkm e)) (ja (λh=>by kernel_rfl) e)
def R1:Con:=⟨199,[.v cD,.ip [al,au,ar,ay]],[cD,al,au,ar,ay],⟨[.v iT],[]⟩,[iT],Pw.unc5 Pw.ja6⟩
def jmy:FnD where
 N:=7
 np:=2
 cs:=[R0]
theorem jlp:aJ R1:=
 cOf aM aN jmy R1 Tryz.func199 (ja jhp e) e
def R2:Con:=⟨197,[.v ay,.clo 198 [],.clo 199 [.p [al,au,ar,ay]]],[ay,al,au,ar,ay],⟨[.v iT],[]⟩,[iT],Pw.unc5 Pw.j3R⟩
def je6:FnD where
 N:=34
 np:=3
 cs:=[AZ,RQ,R1]
 ds:=[⟨0,[sC 198 [],sC 199 [.p [al,au,ar,ay]],sO 1000000,sD ay,sI,sI,.b (.lst 4294967535 (.pair .str .bool) i)],[al,au,ar,ay,ay,iT,iT,(.list (.pair .str .bool))],[⟨.ret,[sI],[iT]⟩,⟨.exit 0,[],[]⟩],Pw.unc8 (Pw.j0Q)⟩]
 modes:=[(191,[i,j])]
 keep:=[(0,⟨[1,2,7,13,14,15],[],[⟨1000000,4294967535,(.pair .str .bool),[.slot 7],i⟩],[]⟩)]
 keepX:=[(0,.ret,⟨[6],[],[],[]⟩)]
theorem jdy:aJ R2:=
 cOf aM aN je6 R2 Tryz.func197 (ja Gk (ja jln (ja jlp e))) (ja (λh=>by kernel_rfl) e)
def R3:Con:=⟨129,[.v aG],[aG],⟨[.v iT],[]⟩,[iT],λh=>Pw.j5h h⟩
def jq7:FnD where
 N:=72
 np:=1
 cs:=[AZ,QW,QZ,RP,R2]
 ds:=[⟨0,[sB 64 0,sO 1000000,sD au,sI,sI,.b (.cell [.d al,.d au,.d ar,.d ay] i),.b (.lst 4294967535 (.pair .str .bool) i)],[au,iT,iT,al,au,ar,ay,(.list (.pair .str .bool))],[⟨.ret,[sI],[iT]⟩,⟨.exit 0,[sB 64 0,.b (.cell [.d al,.d au,.d ar,.d ay] i)],[al,au,ar,ay]⟩],Pw.unc8 (Pw.j4m)⟩]
 modes:=[(191,[i,j])]
 keep:=[(0,⟨[1,4,39,40,41],[64],[⟨1000000,4294967535,(.pair .str .bool),[.slot 4],i⟩],[]⟩)]
 keepX:=[(0,.ret,⟨[2],[],[],[]⟩),(0,.exit 0,⟨[1],[64],[],[]⟩)]
theorem jov:aJ R3:=
 cOf aM aN jq7 R3 Tryz.func129 (ja Gk (ja jgr (ja jiJ (ja jdw (ja jdy e))))) (ja (λh=>by kernel_rfl) e)
end Go.Proofs.Pk
