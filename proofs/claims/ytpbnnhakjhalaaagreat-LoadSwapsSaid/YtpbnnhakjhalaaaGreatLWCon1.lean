/- cC: each given function is its plain function, printed by a program. -/
import Derived.Test.YtpbnnhakjhalaaaGreatLWCon0
noncomputable section
open Go Go.Lft
set_option linter.unusedVariables false
set_option maxRecDepth 100000
namespace Go.Proofs.Pk
def Kl:Con:=⟨66,[.ref [(.list iT),iT],.v bc,.v .str],[(.list iT),iT,bc,.str],⟨[.v cA],[.ref [(.list iT),iT]]⟩,[cA,(.list iT),iT],Pw.unc4 Pw.j7T⟩
def jhx:FnD where
 N:=77
 np:=3
 cs:=[oH,uB,yB,FG]
 ds:=[⟨0,[.s (.one (.bp 0 0)),.s (.one (.bp 256 0)),.s (.one (.bp 384 0)),.s (.one (.bp 448 0)),sI,.b (.cell [.d (.list iT),.d iT] false),.b (.cell [.d ay,.d aC,.d aB,.d aK] false),.b (.cell [.d .str,.d iT,.d iT,.d iT,.d iT,.d iT,.nil,.nil,.d iT,.d iT] false),.b (.cell [.d .str,.d iT,.d iT,.d iT,.d iT,.d iT,.ol 1000000,.nil,.d iT,.d iT] false),.b (.lst 3 iT false)],[iT,(.list iT),iT,ay,aC,aB,aK,.str,iT,iT,iT,iT,iT,iT,iT,.str,iT,iT,iT,iT,iT,iT,iT,(.list iT)],[⟨.exit 0,[.s (.one (.bp 0 0)),.s (.one (.bp 256 0)),.s (.one (.bp 384 0)),.s (.one (.bp 448 0)),.b (.cell [.d (.list iT),.d iT] false),.b (.cell [.d ay,.d aC,.d aB,.d aK] false),.b (.cell [.d .str,.d iT,.d iT,.d iT,.d iT,.d iT,.nil,.nil,.d iT,.d iT] false),.b (.cell [.d .str,.d iT,.d iT,.d iT,.d iT,.d iT,.ol 1500100,.nil,.d iT,.d iT] false),.b (.lst 3 iT false)],[(.list iT),iT,ay,aC,aB,aK,.str,iT,iT,iT,iT,iT,iT,iT,.str,iT,iT,iT,iT,iT,iT,iT,(.list iT)]⟩],Pw.jyq (Pw.j2f)⟩]
 modes:=[(27,[false,false]),(32,[false,false]),(74,[false,false]),(121,[false])]
 keep:=[(0,⟨[0,4,6,7,8],[0,256,384,448],[⟨1000000,3,iT,[.cell 448 6],false⟩],[]⟩)]
 keepX:=[(0,.exit 0,⟨[0,4,6,7],[0,256,384,448],[⟨1500100,3,iT,[.cell 448 6],false⟩],[]⟩)]
 ro:=[false]
 dw:=[(7,[[],[],[],[],[],[],[0],[3200],[3264,1000000],[],[448]])]
theorem jgH:Con.OK Tryz.prog Kl:=
 cOf aF aG jhx Kl Tryz.func66 (j9 rm (j9 yA (j9 FF (j9 Tc trivial)))) (j9 (λh=>by kernel_rfl) trivial)
def FH:Con:=⟨25,[.ref [(.list iT),iT]],[(.list iT),iT],⟨[.v iT],[.ref [(.list iT),iT]]⟩,[iT,(.list iT),iT],Pw.unc2 Pw.j4T⟩
def jfE:FnD where
 N:=16
 np:=1
 cs:=[oH,uB,yB]
 ds:=[]
 modes:=[(27,[false,false]),(32,[false,false]),(74,[false,false])]
 ro:=[false]
theorem Td:Con.OK Tryz.prog FH:=
 cOf aF aG jfE FH Tryz.func25 (j9 rm (j9 yA (j9 FF trivial))) trivial
def Km:Con:=⟨23,[.ref [(.list iT),iT],.v bc],[(.list iT),iT,bc],⟨[.v fm],[.ref [(.list iT),iT]]⟩,[fm,(.list iT),iT],Pw.unc3 Pw.j8Q⟩
def jie:FnD where
 N:=52
 np:=2
 cs:=[oH,uB,yB,FH]
 ds:=[]
 modes:=[(25,[false]),(27,[false,false]),(32,[false,false]),(74,[false,false])]
 ro:=[false]
 dw:=[(3,[[],[],[],[1344],[0,1344],[],[],[384]]),(8,[[],[],[],[],[],[],[0],[],[],[],[],[384]])]
theorem jhy:Con.OK Tryz.prog Km:=
 cOf aF aG jie Km Tryz.func23 (j9 rm (j9 yA (j9 FF (j9 Td trivial)))) trivial
def Kn:Con:=⟨19,[.ref [(.list iT),iT],.v iT],[(.list iT),iT,iT],⟨[.v bc],[.ref [(.list iT),iT]]⟩,[bc,(.list iT),iT],Pw.unc3 Pw.j5B⟩
def jgI:FnD where
 N:=69
 np:=2
 cs:=[oH,FE,Kk,Kl,Km]
 ds:=[⟨0,[.s (.one (.bp 0 0)),.s (.one (.bp 256 0)),.s (.one (.bp 320 0)),sI,.b (.cell [.d (.list iT),.d iT] false),.b (.cell [.nil,.nil,.nil,.nil] false),.b (.cell [.d ay,.d aC,.d aB,.ol 1000000] false),.b (.lst 38 cV true)],[iT,(.list iT),iT,ay,aC,aB,aK],[⟨.exit 0,[.s (.one (.bp 256 0)),.s (.one (.bp 320 0)),.b (.cell [.d (.list iT),.d iT] false),.b (.cell [.nil,.nil,.nil,.nil] false),.b (.cell [.d ay,.d aC,.d aB,.ol 1500100] false),.b (.lst 38 cV true)],[(.list iT),iT,ay,aC,aB,aK]⟩],Pw.unc7 (Pw.j1V)⟩,
  ⟨2,[.s (.one (.bp 0 0)),.s (.one (.bp 256 0)),.s (.one (.bp 320 0)),sI,.s (.one (.bp 448 0)),sI,.b (.cell [.d (.list iT),.d iT] false),.b (.cell [.nil,.nil,.nil,.nil] false),.b (.cell [.d ay,.d aC,.d aB,.ol 1002000] false),.b (.cell [.d .str,.ol 1002001,.nil] false),.b (.lst 38 cV true),.b (.lst 111 cA false)],[iT,iT,(.list iT),iT,ay,aC,aB,.str,aK,bO],[⟨.exit 2,[.s (.one (.bp 0 0)),.s (.one (.bp 256 0)),.s (.one (.bp 320 0)),sI,.s (.one (.bp 448 0)),.b (.cell [.d (.list iT),.d iT] false),.b (.cell [.nil,.nil,.nil,.nil] false),.b (.cell [.d ay,.d aC,.d aB,.ol 1502300] false),.b (.cell [.d .str,.ol 1502301,.nil] false),.b (.lst 38 cV true),.b (.lst 111 cA false)],[iT,(.list iT),iT,ay,aC,aB,.str,aK,bO]⟩],Pw.jkk (Pw.j1T)⟩,
  ⟨4,[.s (.one (.bp 0 0)),.s (.one (.bp 256 0)),.s (.one (.bp 320 0)),sI,.s (.one (.bp 448 0)),sI,.b (.cell [.d (.list iT),.d iT] false),.b (.cell [.nil,.nil,.nil,.nil] false),.b (.cell [.d ay,.d aC,.d aB,.ol 1004000] false),.b (.cell [.d .str,.ol 1004001,.ol 1004002] false),.b (.lst 38 cV true),.b (.lst 111 cA false),.b (.lst 46 fm false)],[iT,iT,(.list iT),iT,ay,aC,aB,.str,aK,bO,bN],[⟨.exit 4,[.s (.one (.bp 0 0)),.s (.one (.bp 256 0)),.s (.one (.bp 320 0)),sI,.s (.one (.bp 448 0)),.b (.cell [.d (.list iT),.d iT] false),.b (.cell [.nil,.nil,.nil,.nil] false),.b (.cell [.d ay,.d aC,.d aB,.ol 1504500] false),.b (.cell [.d .str,.ol 1504501,.ol 1504502] false),.b (.lst 38 cV true),.b (.lst 111 cA false),.b (.lst 46 fm false)],[iT,(.list iT),iT,ay,aC,aB,.str,aK,bO,bN]⟩],Pw.jrO (Pw.j1U)⟩]
 modes:=[(23,[false,false]),(27,[false,false]),(65,[false]),(66,[false,false,false]),(67,[])]
 keep:=[(0,⟨[0,4,5,6],[0,256,320],[⟨1000000,38,cV,[.cell 320 3],true⟩],[]⟩),
  (2,⟨[0,4,5,6,7,8],[0,256,320,448],[⟨1002000,38,cV,[.cell 320 3],false⟩,⟨1002001,111,cA,[.cell 448 1],false⟩],[]⟩),
  (4,⟨[0,4,5,6,7,9],[0,256,320,448],[⟨1004000,38,cV,[.cell 320 3],false⟩,⟨1004001,111,cA,[.cell 448 1],false⟩,⟨1004002,46,fm,[.cell 448 2],false⟩],[]⟩)]
 keepX:=[(0,.exit 0,⟨[4,5],[0,256,320],[⟨1500100,38,cV,[.cell 320 3],false⟩],[]⟩),
  (2,.exit 2,⟨[0,4,5,6,7],[0,256,320,448],[⟨1502300,38,cV,[.cell 320 3],false⟩,⟨1502301,111,cA,[.cell 448 1],false⟩],[]⟩),
  (4,.exit 4,⟨[0,4,5,6,7],[0,256,320,448],[⟨1504500,38,cV,[.cell 320 3],false⟩,⟨1504501,111,cA,[.cell 448 1],false⟩,⟨1504502,46,fm,[.cell 448 2],false⟩],[]⟩)]
 ro:=[false]
 dw:=[(9,[[],[],[],[],[2432],[],[],[],[],[],[0,1002000],[2880],[2944,1002000,1002001],[],[448]]),(13,[[],[],[],[],[0,1004000],[3776],[3840,1004001,1004002],[],[448]])]
theorem jfF:Con.OK Tryz.prog Kn:=
 cOf aF aG jgI Kn Tryz.func19 (j9 rm (j9 Tb (j9 jgG (j9 jgH (j9 jhy trivial))))) (j9 (λh=>by kernel_rfl) (j9 (λh=>by kernel_rfl) (j9 (λh=>by kernel_rfl) trivial)))
def Ko:Con:=⟨386,[.v (.int .u8)],[(.int .u8)],⟨[.v .bool],[]⟩,[.bool],λh=>Pw.jjz h⟩
def jpI:FnD where
 N:=9
 np:=1
 cs:=[]
 ds:=[]
 ro:=[false]
theorem joc:Con.OK Tryz.prog Ko:=
 cOf aF aG jpI Ko Tryz.func386 trivial trivial
def Kp:Con:=⟨334,[.v .str],[.str],⟨[.v .bool],[]⟩,[.bool],λh=>Pw.jiI h⟩
def jrQ:FnD where
 N:=57
 np:=1
 cs:=[Ko]
 ds:=[⟨0,[.s (.one (.d .str)),sI],[.str,iT],[⟨.ret,[.s (.one (.d .bool))],[.bool]⟩,⟨.exit 0,[],[]⟩],Pw.unc2 (Pw.j5C)⟩]
 modes:=[(386,[false])]
 keep:=[(0,⟨[0,3],[],[],[]⟩)]
 keepX:=[(0,.ret,⟨[2],[],[],[]⟩),
  (0,.exit 0,⟨[],[],[],[]⟩)]
 ro:=[false]
theorem jpJ:Con.OK Tryz.prog Kp:=
 cOf aF aG jrQ Kp Tryz.func334 (j9 joc trivial) (j9 (λh=>by kernel_rfl) trivial)
def yC:Con:=⟨276,[.v (.list .str),.v iT],[(.list .str),iT],⟨[.v iT],[]⟩,[iT],Pw.unc2 Pw.ja1⟩
def jrR:FnD where
 N:=26
 np:=2
 cs:=[Kp]
 ds:=[⟨0,[.s (.one (.d (.list .str))),sI,sI],[(.list .str),iT,iT],[⟨.ret,[sI],[iT]⟩,⟨.exit 0,[],[]⟩],Pw.unc3 (Pw.j5D)⟩]
 modes:=[(334,[false])]
 keep:=[(0,⟨[0,1,5],[],[],[]⟩)]
 keepX:=[(0,.ret,⟨[4],[],[],[]⟩),
  (0,.exit 0,⟨[],[],[],[]⟩)]
 ro:=[false]
theorem FI:Con.OK Tryz.prog yC:=
 cOf aF aG jrR yC Tryz.func276 (j9 jpJ trivial) (j9 (λh=>by kernel_rfl) trivial)
def FJ:Con:=⟨191,[.v iT,.v iT,.v iT],[iT,iT,iT],⟨[.v .bool],[]⟩,[.bool],Pw.unc3 Pw.jch⟩
def jvB:FnD where
 N:=15
 np:=3
 cs:=[]
 ds:=[]
 ro:=[false]
theorem Te:Con.OK Tryz.prog FJ:=
 cOf aF aG jvB FJ Tryz.func191 trivial trivial
def Kq:Con:=⟨192,[.v mI],[mI],⟨[.v .bool],[]⟩,[.bool],λh=>Pw.jeb h⟩
def jpK:FnD where
 N:=38
 np:=1
 cs:=[FJ]
 ds:=[]
 modes:=[(191,[false,false,false])]
 ro:=[false]
theorem joe:Con.OK Tryz.prog Kq:=
 cOf aF aG jpK Kq Tryz.func192 (j9 Te trivial) trivial
def Kr:Con:=⟨390,[.v iT],[iT],⟨[.v .bool],[]⟩,[.bool],λh=>Pw.j1a h⟩
def jrS:FnD where
 N:=16
 np:=1
 cs:=[]
 ds:=[]
 ro:=[false]
theorem jpL:Con.OK Tryz.prog Kr:=
 cOf aF aG jrS Kr Tryz.func390 trivial trivial
def CE:Con:=⟨338,[.v iT,.v iT],[iT,iT],⟨[.v iT],[]⟩,[iT],Pw.unc2 Pw.jcO⟩
def jrT:FnD where
 N:=23
 np:=2
 cs:=[Kr]
 ds:=[]
 modes:=[(390,[false])]
 ro:=[false]
theorem Ks:Con.OK Tryz.prog CE:=
 cOf aF aG jrT CE Tryz.func338 (j9 jpL trivial) trivial
def Kt:Con:=⟨389,[.v ax],[ax],⟨[.v .bool],[]⟩,[.bool],λh=>Pw.jgr h⟩
def jpM:FnD where
 N:=36
 np:=1
 cs:=[CE]
 ds:=[]
 modes:=[(338,[false,false])]
 ro:=[false]
theorem jof:Con.OK Tryz.prog Kt:=
 cOf aF aG jpM Kt Tryz.func389 (j9 Ks trivial) trivial
def FK:Con:=⟨335,[.v iT],[iT],⟨[.v iT],[]⟩,[iT],λh=>Pw.jgs h⟩
def jrU:FnD where
 N:=18
 np:=1
 cs:=[]
 ds:=[]
 ro:=[false]
theorem Tf:Con.OK Tryz.prog FK:=
 cOf aF aG jrU FK Tryz.func335 trivial trivial
def Ku:Con:=⟨337,[.v ax],[ax],⟨[.v iT,.v iT],[]⟩,[iT,iT],λh=>Pw.jmh h⟩
def jtH:FnD where
 N:=29
 np:=1
 cs:=[CE,Kt,FK]
 ds:=[⟨0,[.s (.one (.bp 64 0)),sI,sI,.b (.cell [.d iT,.d iT,.d iT] false)],[iT,iT,iT,iT,iT],[⟨.exit 0,[.s (.one (.bp 64 0)),sI,.b (.cell [.d iT,.d iT,.d iT] false)],[iT,iT,iT,iT]⟩],Pw.unc5 (Pw.j6g)⟩]
 modes:=[(335,[false]),(338,[false,false]),(389,[false])]
 keep:=[(0,⟨[1,4,5],[64],[],[]⟩)]
 keepX:=[(0,.exit 0,⟨[1,4],[64],[],[]⟩)]
 ro:=[false,false]
theorem fE:Con.OK Tryz.prog Ku:=
 cOf aF aG jtH Ku Tryz.func337 (j9 Ks (j9 jof (j9 Tf trivial))) (j9 (λh=>by kernel_rfl) trivial)
def Kv:Con:=⟨287,[.v iT],[iT],⟨[.v iT],[]⟩,[iT],λh=>Pw.jfu h⟩
def jmq:FnD where
 N:=7
 np:=1
 cs:=[]
 ds:=[]
 ro:=[false]
theorem jko:Con.OK Tryz.prog Kv:=
 cOf aF aG jmq Kv Tryz.func287 trivial trivial
def Kw:Con:=⟨286,[.v iT,.v iT,.v iT,.v iT],[iT,iT,iT,iT],⟨[.v iT,.v iT],[]⟩,[iT,iT],Pw.unc4 Pw.jmi⟩
def jtI:FnD where
 N:=63
 np:=4
 cs:=[CE,Ku,Kv]
 ds:=[⟨0,[sI,sI,sI,sI,sI,sI],[iT,iT,iT,iT,iT,iT],[⟨.exit 0,[sI,sI,sI,sI,sI],[iT,iT,iT,iT,iT]⟩],Pw.unc6 (Pw.j6h)⟩,
  ⟨2,[sI,sI,sI,sI],[iT,iT,iT,iT],[⟨.exit 2,[sI],[iT]⟩],Pw.unc4 (Pw.j6i)⟩]
 modes:=[(287,[false]),(337,[false]),(338,[false,false])]
 keep:=[(0,⟨[0,1,2,3,10,12],[],[],[]⟩),
  (2,⟨[0,1,10,12],[],[],[]⟩)]
 keepX:=[(0,.exit 0,⟨[0,1,2,10,12],[],[],[]⟩),
  (2,.exit 2,⟨[12],[],[],[]⟩)]
 ro:=[false,false]
theorem fF:Con.OK Tryz.prog Kw:=
 cOf aF aG jtI Kw Tryz.func286 (j9 Ks (j9 fE (j9 jko trivial))) (j9 (λh=>by kernel_rfl) (j9 (λh=>by kernel_rfl) trivial))
def Kx:Con:=⟨193,[.v bR],[bR],⟨[.own 258 aa],[]⟩,[aa],λh=>Pw.j7U h⟩
def jhz:FnD where
 N:=98
 np:=1
 cs:=[Kw]
 ds:=[⟨0,[.s (.one (.d bR)),.s (.one (.ol 1000000)),sI,.b (.lst 258 aM false)],[bR,iT,aa],[⟨.exit 0,[.s (.one (.ol 1500100)),.b (.lst 258 aM false)],[aa]⟩],Pw.unc3 (Pw.j2i)⟩,
  ⟨2,[.s (.one (.d bR)),.s (.one (.ol 1002000)),sI,sI,.b (.lst 258 aM false)],[bR,iT,iT,aa],[⟨.exit 2,[.s (.one (.d bR)),.s (.one (.ol 1502300)),sI,.b (.lst 258 aM false)],[bR,iT,aa]⟩],Pw.unc4 (Pw.j2h)⟩,
  ⟨4,[.s (.one (.d bR)),.s (.one (.ol 1004000)),sI,sI,.s (.one (.bp 512 0)),sI,.b (.cell [.d iT,.d iT] false),.b (.lst 258 aM false)],[bR,iT,iT,iT,iT,iT,aa],[⟨.exit 4,[.s (.one (.d bR)),.s (.one (.ol 1504500)),sI,sI,.s (.one (.bp 512 0)),sI,.b (.cell [.d iT,.d iT] false),.b (.lst 258 aM false)],[bR,iT,iT,iT,iT,iT,aa]⟩],Pw.unc7 (Pw.j2g)⟩]
 modes:=[(286,[false,false,false,false])]
 keep:=[(0,⟨[0,3,4],[],[⟨1000000,258,aM,[.slot 3],false⟩],[]⟩),
  (2,⟨[0,3,4,5],[],[⟨1002000,258,aM,[.slot 3],false⟩],[]⟩),
  (4,⟨[0,3,4,5,8,9],[512],[⟨1004000,258,aM,[.slot 3],false⟩],[]⟩)]
 keepX:=[(0,.exit 0,⟨[3],[],[⟨1500100,258,aM,[.slot 3],false⟩],[]⟩),
  (2,.exit 2,⟨[0,3,4],[],[⟨1502300,258,aM,[.slot 3],false⟩],[]⟩),
  (4,.exit 4,⟨[0,3,4,5,8,9],[512],[⟨1504500,258,aM,[.slot 3],false⟩],[]⟩)]
 ro:=[true]
 dw:=[(9,[[],[],[],[],[],[],[],[],[],[],[],[],[],[],[512],[512]]),(14,[[],[],[],[],[],[],[],[5376]])]
theorem jgJ:Con.OK Tryz.prog Kx:=
 cOf aF aG jhz Kx Tryz.func193 (j9 fF trivial) (j9 (λh=>by kernel_rfl) (j9 (λh=>by kernel_rfl) (j9 (λh=>by kernel_rfl) trivial)))
def Ky:Con:=⟨107,[.v bS],[bS],⟨[.own 167 aa,.v iT],[]⟩,[aa,iT],λh=>Pw.j4U h⟩
def jhA:FnD where
 N:=119
 np:=1
 cs:=[FJ,Kq,Kx]
 ds:=[⟨0,[.s (.one (.bp 64 0)),sI,sI,.b (.cell [.d .str,.d iT,.d bR] false)],[iT,iT,.str,iT,bR],[⟨.ret,[.s (.one (.nil)),sI],[iT]⟩,⟨.exit 0,[.s (.one (.bp 64 0)),sI,.b (.cell [.d .str,.d iT,.d bR] false)],[iT,.str,iT,bR]⟩],Pw.unc5 (Pw.j2j)⟩,
  ⟨2,[.s (.one (.ol 1002000)),.s (.one (.ol 1002001)),sI,sI,.b (.lst 167 aM false),.b (.lst 258 aM false)],[iT,iT,aa,aa],[⟨.ret,[.s (.one (.nil)),sI],[iT]⟩,⟨.exit 2,[.s (.one (.ol 1502300)),.b (.lst 167 aM false)],[aa]⟩],Pw.unc4 (Pw.j2k)⟩]
 modes:=[(191,[false,false,false]),(192,[false]),(193,[false])]
 keep:=[(0,⟨[1,4,5],[64],[],[]⟩),
  (2,⟨[6,7,8,9],[],[⟨1002000,167,aM,[.slot 6],false⟩,⟨1002001,258,aM,[.slot 7],false⟩],[]⟩)]
 keepX:=[(0,.ret,⟨[2,3],[],[],[]⟩),
  (0,.exit 0,⟨[1,4],[64],[],[]⟩),
  (2,.ret,⟨[2,3],[],[],[]⟩),
  (2,.exit 2,⟨[6],[],[⟨1502300,167,aM,[.slot 6],false⟩],[]⟩)]
 ro:=[true,false]
 dw:=[(21,[[],[],[],[],[],[],[],[],[],[],[],[],[],[640],[640]]),(24,[[],[],[7296],[7360,1002000],[],[],[],[]])]
theorem jgK:Con.OK Tryz.prog Ky:=
 cOf aF aG jhA Ky Tryz.func107 (j9 Te (j9 joe (j9 jgJ trivial))) (j9 (λh=>by kernel_rfl) (j9 (λh=>by kernel_rfl) trivial))
def Kz:Con:=⟨277,[.v bS],[bS],⟨[.v iT],[]⟩,[iT],λh=>Pw.j9a h⟩
def jpN:FnD where
 N:=11
 np:=1
 cs:=[Ky]
 ds:=[]
 modes:=[(107,[false])]
 ro:=[false]
theorem jog:Con.OK Tryz.prog Kz:=
 cOf aF aG jpN Kz Tryz.func277 (j9 jgK trivial) trivial
def KA:Con:=⟨278,[.v bS],[bS],⟨[.v .bool],[]⟩,[.bool],λh=>Pw.jaq h⟩
def jmr:FnD where
 N:=28
 np:=1
 cs:=[]
 ds:=[⟨0,[.s (.one (.bp 64 0)),.s (.one (.d .bool)),sI,.b (.cell [.d .str,.d iT,.d bR] false)],[.bool,iT,.str,iT,bR],[⟨.exit 0,[.s (.one (.d .bool))],[.bool]⟩],Pw.unc5 (Pw.j3K)⟩]
 keep:=[(0,⟨[1,3,4],[64],[],[]⟩)]
 keepX:=[(0,.exit 0,⟨[3],[],[],[]⟩)]
 ro:=[false]
theorem jkp:Con.OK Tryz.prog KA:=
 cOf aF aG jmr KA Tryz.func278 trivial (j9 (λh=>by kernel_rfl) trivial)
end Go.Proofs.Pk
