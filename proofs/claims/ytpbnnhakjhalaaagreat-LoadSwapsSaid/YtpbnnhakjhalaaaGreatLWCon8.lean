/- cC: each given function is its plain function, printed by a program. -/
import Derived.Test.YtpbnnhakjhalaaaGreatLWCon7
noncomputable section
open Go Go.Lft
set_option linter.unusedVariables false
set_option maxRecDepth 100000
namespace Go.Proofs.Pk
def Mm:Con:=⟨253,[.v (.list iT),.v iT],[(.list iT),iT],⟨[.v iT,.v .bool],[]⟩,[iT,.bool],Pw.unc2 Pw.j2m⟩
def j9P:FnD where
 N:=54
 np:=2
 cs:=[Mk,Ml]
 ds:=[⟨0,[.s (.one (.d (.list iT))),sI,sI,sI,sI],[(.list iT),iT,iT,iT,iT],[⟨.exit 0,[.s (.one (.d (.list iT))),sI,sI,sI],[(.list iT),iT,iT,iT]⟩],Pw.unc5 (Pw.j1c)⟩]
 modes:=[(320,[false,false]),(321,[false])]
 keep:=[(0,⟨[0,1,6,7,8],[],[],[]⟩)]
 keepX:=[(0,.exit 0,⟨[0,1,6,7],[],[],[]⟩)]
 ro:=[false,false]
theorem j9o:Con.OK Tryz.prog Mm:=
 cOf aF aG j9P Mm Tryz.func253 (j9 jjV (j9 jfY trivial)) (j9 (λh=>by kernel_rfl) trivial)
def Mn:Con:=⟨79,[.v fm,.v iT],[fm,iT],⟨[.v .bool],[]⟩,[.bool],Pw.unc2 Pw.jfC⟩
def jmL:FnD where
 N:=15
 np:=2
 cs:=[]
 ds:=[]
 ro:=[false]
theorem jkJ:Con.OK Tryz.prog Mn:=
 cOf aF aG jmL Mn Tryz.func79 trivial trivial
def Mo:Con:=⟨29,[.v bN,.v iT,.v iT],[bN,iT,iT],⟨[.v iT],[]⟩,[iT],Pw.unc3 Pw.jgC⟩
def jq0:FnD where
 N:=51
 np:=3
 cs:=[Mn]
 ds:=[⟨0,[sI,sI,.s (.one (.d bN)),sI,sI],[iT,iT,bN,iT,iT],[⟨.exit 0,[sI],[iT]⟩],Pw.unc5 (Pw.j59)⟩]
 modes:=[(79,[false,false])]
 keep:=[(0,⟨[1,2,9,10,11],[],[],[]⟩)]
 keepX:=[(0,.exit 0,⟨[1],[],[],[]⟩)]
 ro:=[false]
theorem joF:Con.OK Tryz.prog Mo:=
 cOf aF aG jq0 Mo Tryz.func29 (j9 jkJ trivial) (j9 (λh=>by kernel_rfl) trivial)
def Mp:Con:=⟨174,[.v fo,.v cV,.v iT,.v iT],[fo,cV,iT,iT],⟨[.own 181 ar],[]⟩,[ar],Pw.unc4 Pw.j6r⟩
def jhE:FnD where
 N:=88
 np:=4
 cs:=[LO,CR,Mi,Mm,Mo]
 ds:=[⟨0,[sI,sI,.s (.one (.bp 256 0)),.s (.one (.bp 320 0)),.s (.one (.ol 1000000)),.s (.one (.d bN)),sI,sI,.b (.cell [.d ay,.d aC,.d aB,.d aK,.d fU] false),.b (.cell [.d .str,.d bO,.d bN] false),.b (.lst 3 iT false)],[iT,iT,bN,iT,iT,ay,aC,aB,aK,fU,.str,bO,bN,(.list iT)],[⟨.exit 0,[sI,sI,.s (.one (.bp 256 0)),.s (.one (.bp 320 0)),.s (.one (.ol 1500100)),.b (.cell [.d ay,.d aC,.d aB,.d aK,.d fU] false),.b (.cell [.d .str,.d bO,.d bN] false),.b (.lst 3 iT false)],[iT,iT,ay,aC,aB,aK,fU,.str,bO,bN,(.list iT)]⟩],Pw.jkl (Pw.j2n)⟩,
  ⟨2,[.s (.one (.bp 320 0)),.s (.one (.ol 1002000)),.s (.one (.ol 1002001)),.s (.one (.ol 1002002)),sI,sI,.b (.cell [.d .str,.d bO,.d bN] false),.b (.lst 3 iT false),.b (.lst 181 ax false),.b (.lst 181 ax false)],[iT,iT,.str,bO,bN,(.list iT),ar,ar],[⟨.exit 2,[.s (.one (.ol 1502300)),.b (.lst 181 ax false)],[ar]⟩],Pw.unc8 (Pw.j2p)⟩,
  ⟨4,[.s (.one (.bp 320 0)),.s (.one (.ol 1004000)),.s (.one (.ol 1004001)),.s (.one (.bp 960 0)),sI,sI,.s (.one (.ol 1004002)),sI,sI,.b (.cell [.d .str,.d bO,.d bN] false),.b (.cell [.d iT,.d iT,.d iT] false),.b (.lst 3 iT false),.b (.lst 181 ax false),.b (.lst 181 ax false)],[iT,iT,iT,iT,.str,bO,bN,iT,iT,iT,(.list iT),ar,ar],[⟨.exit 4,[.s (.one (.bp 320 0)),.s (.one (.ol 1504500)),.s (.one (.ol 1504501)),.s (.one (.ol 1504502)),sI,sI,.b (.cell [.d .str,.d bO,.d bN] false),.b (.lst 3 iT false),.b (.lst 181 ax false),.b (.lst 181 ax false)],[iT,iT,.str,bO,bN,(.list iT),ar,ar]⟩],Pw.jvA (Pw.j2o)⟩]
 modes:=[(29,[false,false,false]),(165,[false,false,false,false]),(179,[false,false,false]),(246,[false]),(253,[false,false])]
 keep:=[(0,⟨[2,3,4,5,9,21,22,23],[256,320],[⟨1000000,3,iT,[.slot 9],false⟩],[]⟩),
  (2,⟨[5,12,13,43,44,45],[320],[⟨1002000,3,iT,[.slot 12],false⟩,⟨1002001,181,ax,[.slot 13],false⟩,⟨1002002,181,ax,[.slot 43],false⟩],[]⟩),
  (4,⟨[5,12,13,15,16,18,43,44,45],[320,960],[⟨1004000,3,iT,[.slot 12],false⟩,⟨1004001,181,ax,[.slot 13],false⟩,⟨1004002,181,ax,[.slot 43],false⟩],[]⟩)]
 keepX:=[(0,.exit 0,⟨[2,3,4,5,9],[256,320],[⟨1500100,3,iT,[.slot 9],false⟩],[]⟩),
  (2,.exit 2,⟨[13],[],[⟨1502300,181,ax,[.slot 13],false⟩],[]⟩),
  (4,.exit 4,⟨[5,12,13,43,44,45],[320],[⟨1504500,3,iT,[.slot 12],false⟩,⟨1504501,181,ax,[.slot 13],false⟩,⟨1504502,181,ax,[.slot 43],false⟩],[]⟩)]
 ro:=[true]
theorem jh0:Con.OK Tryz.prog Mp:=
 cOf aF aG jhE Mp Tryz.func174 (j9 joA (j9 Mb (j9 jfX (j9 j9o (j9 joF trivial))))) (j9 (λh=>by kernel_rfl) (j9 (λh=>by kernel_rfl) (j9 (λh=>by kernel_rfl) trivial)))
def Mq:Con:=⟨115,[.v bc,.v iT,.v iT,.v iT],[bc,iT,iT,iT],⟨[.own 181 ar,.v iT],[]⟩,[ar,iT],Pw.unc4 Pw.j6s⟩
def jhF:FnD where
 N:=37
 np:=4
 cs:=[LI,Mp]
 ds:=[]
 modes:=[(164,[false,false,false,false]),(174,[false,false,false,false])]
 ro:=[true,false]
 dw:=[(4,[[],[],[],[],[],[],[],[],[2048],[]])]
theorem jh1:Con.OK Tryz.prog Mq:=
 cOf aF aG jhF Mq Tryz.func115 (j9 jky (j9 jh0 trivial)) trivial
def Mr:Con:=⟨198,[.v dX],[dX],⟨[.own 182 aa],[]⟩,[aa],λh=>Pw.jby h⟩
def jkK:FnD where
 N:=19
 np:=1
 cs:=[]
 ds:=[⟨0,[.s (.one (.ol 1000000)),.s (.one (.d dX)),sI,sI,.b (.lst 182 aM false)],[dX,iT,iT,aa],[⟨.exit 0,[.s (.one (.ol 1500100)),.b (.lst 182 aM false)],[aa]⟩],Pw.unc4 (Pw.j4L)⟩]
 keep:=[(0,⟨[3,6,7,8],[],[⟨1000000,182,aM,[.slot 3],false⟩],[]⟩)]
 keepX:=[(0,.exit 0,⟨[3],[],[⟨1500100,182,aM,[.slot 3],false⟩],[]⟩)]
 ro:=[true]
theorem jjW:Con.OK Tryz.prog Mr:=
 cOf aF aG jkK Mr Tryz.func198 trivial (j9 (λh=>by kernel_rfl) trivial)
def Ms:Con:=⟨200,[.v wW],[wW],⟨[.v .bool],[]⟩,[.bool],λh=>Pw.jgE h⟩
def jjX:FnD where
 N:=11
 np:=1
 cs:=[]
 ds:=[]
 ro:=[false]
theorem jin:Con.OK Tryz.prog Ms:=
 cOf aF aG jjX Ms Tryz.func200 trivial trivial
def Mt:Con:=⟨291,[.v dX,.clo 200 []],[dX],⟨[.v iT],[]⟩,[iT],λh=>Pw.j1x h⟩
def j6a:FnD where
 N:=19
 np:=2
 cs:=[Ms]
 ds:=[⟨0,[.s (.one (.d dX)),.s (.one (.clo 200 [])),sI,sI],[dX,iT,iT],[⟨.ret,[sI],[iT]⟩,⟨.exit 0,[],[]⟩],Pw.unc3 (Pw.j0y)⟩]
 modes:=[(200,[false])]
 keep:=[(0,⟨[0,1,7,8],[],[],[]⟩)]
 keepX:=[(0,.ret,⟨[4],[],[],[]⟩),
  (0,.exit 0,⟨[],[],[],[]⟩)]
 ro:=[false]
theorem j5Y:Con.OK Tryz.prog Mt:=
 cOf aF aG j6a Mt Tryz.func291 (j9 jin trivial) (j9 (λh=>by kernel_rfl) trivial)
def Mu:Con:=⟨199,[.v dX,.clo 200 []],[dX],⟨[.v .bool],[]⟩,[.bool],λh=>Pw.j0H h⟩
def j5x:FnD where
 N:=9
 np:=2
 cs:=[Mt]
 ds:=[]
 modes:=[(291,[false,false])]
 ro:=[false]
theorem j5g:Con.OK Tryz.prog Mu:=
 cOf aF aG j5x Mu Tryz.func199 (j9 j5Y trivial) trivial
def Mv:Con:=⟨116,[.v dX],[dX],⟨[.v iT],[]⟩,[iT],λh=>Pw.jeQ h⟩
def joG:FnD where
 N:=12
 np:=1
 cs:=[CL,Mr,Mu]
 ds:=[]
 modes:=[(197,[false]),(198,[false]),(199,[false,false])]
 ro:=[false]
theorem jmM:Con.OK Tryz.prog Mv:=
 cOf aF aG joG Mv Tryz.func116 (j9 Lb (j9 jjW (j9 j5g trivial))) trivial
def Mw:Con:=⟨120,[.rl 4294967475 iG],[iG],⟨[.own 86 ar],[.rl iG]⟩,[ar,iG],λh=>Pw.jcS h⟩
def jmN:FnD where
 N:=22
 np:=1
 cs:=[]
 ds:=[⟨0,[.s (.one (.ol 0)),.s (.one (.ol 1000000)),.s (.one (.ol 1000001)),sI,sI,.b (.lst 4294967475 gH false),.b (.lst 86 ax false),.b (.lst 3 iT false)],[iT,iT,iG,ar,(.list iT)],[⟨.exit 0,[.s (.one (.ol 1500100)),.b (.lst 4294967475 gH false),.b (.lst 86 ax false)],[iG,ar]⟩],Pw.unc5 (Pw.j3X)⟩]
 keep:=[(0,⟨[0,3,8,9,10],[0],[⟨1000000,86,ax,[.slot 3],false⟩,⟨1000001,3,iT,[.slot 8],false⟩],[]⟩)]
 keepX:=[(0,.exit 0,⟨[3],[0],[⟨1500100,86,ax,[.slot 3],false⟩],[]⟩)]
 ro:=[true]
 bw:=[(202,(true,(.arr 203 (.arr 3 .bool))))]
 ks:=[2]
theorem jvE:BwK Tryz.prog 202 (true,(.arr 203 (.arr 3 .bool))):=
 jtG Tryz.keys203 Tryz.sorted202 Tryz.sort262 (by kernel_rfl) (by kernel_rfl) (by kernel_rfl) (by kernel_rfl)
theorem jkL:Con.OK Tryz.prog Mw:=
 cOf aF aG jmN Mw Tryz.func120 trivial (j9 (λh=>by kernel_rfl) trivial) (j9 jvE trivial)
def Mx:Con:=⟨42,[.v bc,.v iT,.v iT,.v iT,.v iT,.v dX],[bc,iT,iT,iT,iT,dX],⟨[.own 86 ar,.v iT],[]⟩,[ar,iT],Pw.unc6 Pw.jcq⟩
def joH:FnD where
 N:=132
 np:=6
 cs:=[FQ,FZ,Mq,Mv,Mw]
 ds:=[⟨1,[sI,sI,.s (.one (.d dX)),.s (.one (.ol 1001000)),.s (.one (.bp 1024 0)),.s (.one (.ol 1001001)),.s (.one (.ol 1001000)),sI,sI,.b (.cell [.d iT,.d aa] false),.b (.lst 181 ax false),.b (.lst 4294967475 gH false)],[iT,iT,dX,iT,iT,iT,aa,ar,iG],[⟨.exit 1,[sI,sI,.s (.one (.d dX)),.s (.one (.ol 1501200)),.s (.one (.bp 1024 0)),.s (.one (.ol 1501201)),.b (.cell [.d iT,.d aa] false),.b (.lst 181 ax false),.b (.lst 4294967475 gH false)],[iT,iT,dX,iT,aa,ar,iG]⟩],Pw.unc9 (Pw.j4s)⟩,
  ⟨3,[sI,sI,.s (.one (.ol 1003000)),.s (.one (.bp 1024 0)),.s (.one (.ol 1003001)),.s (.one (.d dX)),sI,sI,.b (.cell [.d iT,.d aa] false),.b (.lst 181 ax false),.b (.lst 4294967475 gH false)],[iT,iT,dX,iT,iT,iT,aa,ar,iG],[⟨.exit 3,[.s (.one (.ol 1503400)),.b (.lst 4294967475 gH false)],[iG]⟩],Pw.unc9 (Pw.j69)⟩,
  ⟨5,[],[],[],λ_=>none⟩]
 modes:=[(96,[false,false,false,false]),(115,[false,false,false,false]),(116,[false]),(117,[false]),(120,[true])]
 keep:=[(1,⟨[2,3,5,14,16,18,63,64,65],[1024],[⟨1001000,181,ax,[.slot 14,.slot 63],false⟩,⟨1001001,4294967475,gH,[.slot 18],false⟩],[]⟩),
  (3,⟨[2,3,14,16,18,92,93,94],[1024],[⟨1003000,181,ax,[.slot 14],false⟩,⟨1003001,4294967475,gH,[.slot 18],false⟩],[]⟩)]
 keepX:=[(1,.exit 1,⟨[2,3,5,14,16,18],[1024],[⟨1501200,181,ax,[.slot 14],false⟩,⟨1501201,4294967475,gH,[.slot 18],false⟩],[]⟩),
  (3,.exit 3,⟨[18],[],[⟨1503400,4294967475,gH,[.slot 18],false⟩],[]⟩)]
 ro:=[true,false]
theorem jmO:Con.OK Tryz.prog Mx:=
 cOf aF aG joH Mx Tryz.func42 (j9 Tk (j9 Tu (j9 jh1 (j9 jmM (j9 jkL trivial))))) (j9 (λh=>by kernel_rfl) (j9 (λh=>by kernel_rfl) (j9 (λh=>by kernel_rfl) trivial)))
def My:Con:=⟨51,[.v ar,.v iT],[ar,iT],⟨[.v iT],[]⟩,[iT],Pw.unc2 Pw.j3E⟩
def jkM:FnD where
 N:=24
 np:=2
 cs:=[]
 ds:=[⟨0,[.s (.one (.d ar)),sI,sI],[ar,iT,iT],[⟨.ret,[sI],[iT]⟩,⟨.exit 0,[],[]⟩],Pw.unc3 (Pw.j3r)⟩]
 keep:=[(0,⟨[0,1,5],[],[],[]⟩)]
 keepX:=[(0,.ret,⟨[4],[],[],[]⟩),
  (0,.exit 0,⟨[],[],[],[]⟩)]
 ro:=[false]
theorem jjY:Con.OK Tryz.prog My:=
 cOf aF aG jkM My Tryz.func51 trivial (j9 (λh=>by kernel_rfl) trivial)
def Tw:Con:=⟨11,[.v (.list iT)],[(.list iT)],⟨[.v .bool],[]⟩,[.bool],λh=>Pw.jaI h⟩
def jhG:FnD where
 N:=110
 np:=1
 cs:=[J8,Kh,Ki,oH,FH,Kn,KL,Mx,My]
 ds:=[⟨0,[sI,sI,.s (.one (.ol 1000000)),.s (.one (.ol 1000001)),sI,sI,.b (.lst 86 ax false),.b (.lst 86 ax false)],[iT,iT,iT,iT,ar,ar],[⟨.ret,[.s (.one (.d .bool))],[.bool]⟩,⟨.exit 0,[],[]⟩],Pw.unc6 (Pw.j2q)⟩]
 modes:=[(15,[false]),(17,[false]),(19,[false,false]),(25,[false]),(27,[false,false]),(41,[]),(42,[false,false,false,false,false,false]),(50,[false,false,false]),(51,[false,false])]
 keep:=[(0,⟨[5,6,11,13,88,89],[],[⟨1000000,86,ax,[.slot 11],false⟩,⟨1000001,86,ax,[.slot 13],false⟩],[]⟩)]
 keepX:=[(0,.ret,⟨[2],[],[],[]⟩),
  (0,.exit 0,⟨[],[],[],[]⟩)]
 ro:=[false]
 dw:=[(8,[[],[],[],[],[],[],[],[1408],[],[],[],[],[],[]])]
theorem law17_LoadSwaps_ok:Con.OK Tryz.prog Tw:=
 cOf aF aG jhG Tw Tryz.func11 (j9 jml (j9 jmp (j9 joa (j9 rm (j9 Td (j9 jfF (j9 jon (j9 jmO (j9 jjY trivial))))))))) (j9 (λh=>by kernel_rfl) trivial)
def Tx:Con:=⟨171,[.v aM],[aM],⟨[.v iT],[]⟩,[iT],λh=>Pw.j5s h⟩
def jjZ:FnD where
 N:=10
 np:=1
 cs:=[FO]
 ds:=[]
 modes:=[(250,[false])]
 ro:=[false]
theorem jsc:Con.OK Tryz.prog Tx:=
 cOf aF aG jjZ Tx Tryz.func171 (j9 Ti trivial) trivial
end Go.Proofs.Pk
