/- cB: each given function is its plain function, printed by a program. -/
import Derived.Test.YtkoifkkadkmecaaGreatLRCon0
open _root_ renaming trivial->e
open Bool renaming false->i,true->j
noncomputable section
open Go Go.Lft
set_option linter.unusedVariables false
set_option maxRecDepth 100000
namespace Go.Proofs.Pk
def O7:Con:=⟨264,[.rl 290 aa,.clo 265 []],[aa],⟨[],[.rl aa]⟩,[aa],λh=>Pw.j0t h⟩
def j4G:FnD where
 N:=9
 np:=2
 cs:=[O6]
 modes:=[(275,[j,i,i])]
theorem j4n:aH O7:=
 cOf aK aM j4G O7 Tryz.func264 (ja j8J e) e
def O8:Con:=⟨247,[.v br],[br],⟨[.own 290 aa,.v iT],[]⟩,[aa,iT],λh=>Pw.j9S h⟩
def jli:FnD where
 N:=86
 np:=1
 cs:=[Gl,OY,O3,O7]
 ds:=[⟨0,[sB 64 0,sI,sD bS,sI,sI,.b (.cell [.d .str,.d iT,.d bS] i)],[iT,bS,iT,iT,.str,iT,bS],[⟨.ret,[.s (.one (.nil)),sI],[iT]⟩,⟨.exit 0,[sB 64 0,sI,.b (.cell [.d .str,.d iT,.d bS] i)],[iT,.str,iT,bS]⟩],Pw.unc7 (Pw.j2O)⟩,⟨2,[sO 1002000,sD bS,sI,sI,.b (.lst 290 aO i)],[bS,iT,iT,aa],[⟨.exit 2,[sO 1502300,.b (.lst 290 aO i)],[aa]⟩],Pw.unc4 (Pw.j2Q)⟩,⟨4,[sO 1004000,sB 640 0,sI,sD bS,sI,sI,.b (.cell [.d iT,.d iT,.d iT,.d iT,.d iT,.d iT,.d iT] i),.b (.lst 290 aO i)],[iT,bS,iT,iT,iT,iT,iT,iT,iT,iT,iT,aa],[⟨.exit 4,[sO 1504500,sD bS,sI,sI,.b (.lst 290 aO i)],[bS,iT,iT,aa]⟩],Pw.u8 Pw.unc4 (Pw.j2P)⟩]
 modes:=[(264,[j,i])]
 keep:=[(0,⟨[1,4,23,24,25],[64],[],[]⟩),(2,⟨[8,46,47,48],[],[⟨1002000,290,aO,[.slot 8],i⟩],[]⟩),(4,⟨[8,10,11,46,47,48],[640],[⟨1004000,290,aO,[.slot 8],i⟩],[]⟩)]
 keepX:=[(0,.ret,⟨[2,3],[],[],[]⟩),(0,.exit 0,⟨[1,4],[64],[],[]⟩),(2,.exit 2,⟨[8],[],[⟨1502300,290,aO,[.slot 8],i⟩],[]⟩),(4,.exit 4,⟨[8,46,47,48],[],[⟨1504500,290,aO,[.slot 8],i⟩],[]⟩)]
 ro:=[j,i]
theorem jk9:aH O8:=
 cOf aK aM jli O8 Tryz.func247 (ja OX (ja jtb (ja jte (ja j4n e)))) (ja (λh=>by kernel_rfl) (ja (λh=>by kernel_rfl) (ja (λh=>by kernel_rfl) e)))
def Kb:Con:=⟨217,[.v br],[br],⟨[.own 112 aa,.v iT],[]⟩,[aa,iT],λh=>Pw.j4A h⟩
def jlj:FnD where
 N:=79
 np:=1
 cs:=[Gl,O8]
 ds:=[⟨0,[sO 1000000,sI,sO 1000001,sI,sI,.b (.lst 112 aO i),.b (.lst 290 aO i)],[iT,iT,iT,aa,aa],[⟨.ret,[.s (.one (.nil)),sI],[iT]⟩,⟨.exit 0,[sO 1500100,.b (.lst 112 aO i)],[aa]⟩],Pw.unc5 (Pw.j2R)⟩]
 keep:=[(0,⟨[6,7,22,23,24],[],[⟨1000000,112,aO,[.slot 6],i⟩,⟨1000001,290,aO,[.slot 22],i⟩],[]⟩)]
 keepX:=[(0,.ret,⟨[2,3],[],[],[]⟩),(0,.exit 0,⟨[6],[],[⟨1500100,112,aO,[.slot 6],i⟩],[]⟩)]
 ro:=[j,i]
theorem ZK:aH Kb:=
 cOf aK aM jlj Kb Tryz.func217 (ja OX (ja jk9 e)) (ja (λh=>by kernel_rfl) e)
def O9:Con:=⟨169,[.v br],[br],⟨[.v iT],[]⟩,[iT],λh=>Pw.jg9 h⟩
def jtf:FnD where
 N:=11
 np:=1
 cs:=[Kb]
theorem jrs:aH O9:=
 cOf aK aM jtf O9 Tryz.func169 (ja ZK e) e
def Pa:Con:=⟨171,[.v pj],[pj],⟨[.v .bool],[]⟩,[.bool],λh=>Pw.j9f h⟩
def jhM:FnD where
 N:=7
 np:=1
theorem jh0:aH Pa:=
 cOf aK aM jhM Pa Tryz.func171 e e
def Pb:Con:=⟨218,[.v bS,.clo 171 []],[bS],⟨[.v iT],[]⟩,[iT],λh=>Pw.j1Y h⟩
def j75:FnD where
 N:=19
 np:=2
 cs:=[Pa]
 ds:=[⟨0,[sD bS,sC 171 [],sI,sI],[bS,iT,iT],[⟨.ret,[sI],[iT]⟩,⟨.exit 0,[],[]⟩],Pw.unc3 (Pw.j0l)⟩]
 keep:=[(0,⟨[0,1,7,8],[],[],[]⟩)]
 keepX:=[(0,.ret,⟨[4],[],[],[]⟩)]
theorem j73:aH Pb:=
 cOf aK aM j75 Pb Tryz.func218 (ja jh0 e) (ja (λh=>by kernel_rfl) e)
def Pc:Con:=⟨170,[.v bS,.clo 171 []],[bS],⟨[.v .bool],[]⟩,[.bool],λh=>Pw.j1I h⟩
def j6q:FnD where
 N:=9
 np:=2
 cs:=[Pb]
theorem j6h:aH Pc:=
 cOf aK aM j6q Pc Tryz.func170 (ja j73 e) e
def Pd:Con:=⟨125,[.v br],[br],⟨[.v iT],[]⟩,[iT],λh=>Pw.j6F h⟩
def jka:FnD where
 N:=17
 np:=1
 cs:=[O9,Pc]
theorem jjm:aH Pd:=
 cOf aK aM jka Pd Tryz.func125 (ja jrs (ja j6h e)) e
def Pe:Con:=⟨123,[.v ax,.clo 124 [],.clo 125 []],[ax],⟨[.v iT],[]⟩,[iT],λh=>Pw.j5G h⟩
def jgq:FnD where
 N:=34
 np:=3
 cs:=[OT,Bg,Pd]
 ds:=[⟨0,[sC 124 [],sC 125 [],sO 1000000,sD ax,sI,sI,.b (.lst 4294967486 (.pair .str .bool) i)],[ax,iT,iT,(.list (.pair .str .bool))],[⟨.ret,[sI],[iT]⟩,⟨.exit 0,[],[]⟩],Pw.unc4 (Pw.j1O)⟩]
 modes:=[(126,[i,j])]
 keep:=[(0,⟨[1,2,7,13,14,15],[],[⟨1000000,4294967486,(.pair .str .bool),[.slot 7],i⟩],[]⟩)]
 keepX:=[(0,.ret,⟨[6],[],[],[]⟩)]
theorem jfC:aH Pe:=
 cOf aK aM jgq Pe Tryz.func123 (ja jk8 (ja Gk (ja jjm e))) (ja (λh=>by kernel_rfl) e)
def Bh:Con:=⟨173,[.v iT,.v iT],[iT,iT],⟨[.v .bool],[]⟩,[.bool],Pw.unc2 Pw.j2i⟩
def jor:FnD where
 N:=12
 np:=2
theorem Gn:aH Bh:=
 cOf aK aM jor Bh Tryz.func173 e e
def Kd:Con:=⟨174,[.v aa],[aa],⟨[.v iT],[]⟩,[iT],λh=>Pw.jga h⟩
def jtg:FnD where
 N:=46
 np:=1
 ds:=[⟨0,[sD aa,sD aa,sI,sI],[aa,aa,iT,iT],[⟨.ret,[sI],[iT]⟩,⟨.exit 0,[],[]⟩],Pw.unc4 (Pw.j5U)⟩]
 keep:=[(0,⟨[0,8,9,10],[],[],[]⟩)]
 keepX:=[(0,.ret,⟨[2],[],[],[]⟩)]
theorem ZL:aH Kd:=
 cOf aK aM jtg Kd Tryz.func174 e (ja (λh=>by kernel_rfl) e)
def Gp:Con:=⟨221,[.v iT,.v iT,.v iT],[iT,iT,iT],⟨[.v .bool],[]⟩,[.bool],Pw.unc3 Pw.j80⟩
def jth:FnD where
 N:=15
 np:=3
theorem Pg:aH Gp:=
 cOf aK aM jth Gp Tryz.func221 e e
def Pj:Con:=⟨175,[.v iT],[iT],⟨[.v .bool],[]⟩,[.bool],λh=>Pw.j3W h⟩
def jos:FnD where
 N:=10
 np:=1
 cs:=[Gp]
theorem jmV:aH Pj:=
 cOf aK aM jos Pj Tryz.func175 (ja Pg e) e
def Pl:Con:=⟨127,[.v bk,.v gu],[bk,gu],⟨[.v iT],[]⟩,[iT],Pw.unc2 Pw.j3J⟩
def jip:FnD where
 N:=29
 np:=2
 cs:=[Bh,Kd,Pj]
theorem jhN:aH Pl:=
 cOf aK aM jip Pl Tryz.func127 (ja Gn (ja ZL (ja jmV e))) e
def Pm:Con:=⟨129,[.v fE],[fE],⟨[.v .str],[]⟩,[.str],λh=>Pw.jcU h⟩
def jll:FnD where
 N:=5
 np:=1
theorem jkb:aH Pm:=
 cOf aK aM jll Pm Tryz.func129 e e
def Pn:Con:=⟨250,[.v iT],[iT],⟨[.v iT],[]⟩,[iT],λh=>Pw.jqk h⟩
def jti:FnD where
 N:=15
 np:=1
 cs:=[J9,Gm]
 ds:=[⟨0,[sI,sI],[iT,iT],[⟨.exit 0,[sI],[iT]⟩],Pw.unc2 (Pw.jf1)⟩]
 keep:=[(0,⟨[0,3],[],[],[]⟩)]
 keepX:=[(0,.exit 0,⟨[3],[],[],[]⟩)]
theorem jrt:aH Pn:=
 cOf aK aM jti Pn Tryz.func250 (ja ZI (ja O1 e)) (ja (λh=>by kernel_rfl) e)
def Po:Con:=⟨222,[.v iT],[iT],⟨[.v aJ,.v iT],[]⟩,[aJ,iT],λh=>Pw.jan h⟩
def jpq:FnD where
 N:=45
 np:=1
 cs:=[CN,Gm,Pn]
 ds:=[⟨0,[sB 128 0,sB 256 0,sI,.b (.cell [.d iT,.d iT,.d iT] i),.b (.cell [.d iT,.d iT,.d iT] i)],[iT,iT,iT,iT,iT,iT,iT],[⟨.exit 0,[sB 128 0,sB 256 0,sI,.b (.cell [.d iT,.d iT,.d iT] i),.b (.cell [.d iT,.d iT,.d iT] i)],[iT,iT,iT,iT,iT,iT,iT]⟩],Pw.unc7 (Pw.jdl)⟩]
 keep:=[(0,⟨[2,4,5],[128,256],[],[]⟩)]
 keepX:=[(0,.exit 0,⟨[2,4,5],[128,256],[],[]⟩)]
theorem jot:aH Po:=
 cOf aK aM jpq Po Tryz.func222 (ja J8 (ja O1 (ja jrt e))) (ja (λh=>by kernel_rfl) e)
def Gq:Con:=⟨178,[.v iT],[iT],⟨[.v .bool],[]⟩,[.bool],λh=>Pw.j1l h⟩
def jru:FnD where
 N:=12
 np:=1
 cs:=[Po]
theorem Pp:aH Gq:=
 cOf aK aM jru Gq Tryz.func178 (ja jot e) e
def Pq:Con:=⟨177,[.v iT],[iT],⟨[.v .bool],[]⟩,[.bool],λh=>Pw.j6G h⟩
def jeM:FnD where
 N:=6
 np:=1
 cs:=[Gq]
theorem jev:aH Pq:=
 cOf aK aM jeM Pq Tryz.func177 (ja Pp e) e
def Pr:Con:=⟨152,[.v (.list iT),.clo 177 []],[(.list iT)],⟨[.v iT],[]⟩,[iT],λh=>Pw.j6H h⟩
def jeN:FnD where
 N:=19
 np:=2
 cs:=[Pq]
 ds:=[⟨0,[sD (.list iT),sC 177 [],sI,sI],[(.list iT),iT,iT],[⟨.ret,[sI],[iT]⟩,⟨.exit 0,[],[]⟩],Pw.unc3 (Pw.j1B)⟩]
 keep:=[(0,⟨[0,1,7,8],[],[],[]⟩)]
 keepX:=[(0,.ret,⟨[4],[],[],[]⟩)]
theorem jew:aH Pr:=
 cOf aK aM jeN Pr Tryz.func152 (ja jev e) (ja (λh=>by kernel_rfl) e)
end Go.Proofs.Pk
