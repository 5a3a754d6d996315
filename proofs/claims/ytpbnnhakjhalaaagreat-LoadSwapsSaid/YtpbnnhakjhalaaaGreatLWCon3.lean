/- cC: each given function is its plain function, printed by a program. -/
import Derived.Test.YtpbnnhakjhalaaaGreatLWCon2
noncomputable section
open Go Go.Lft
set_option linter.unusedVariables false
set_option maxRecDepth 100000
namespace Go.Proofs.Pk
def KS:Con:=⟨396,[.v iT],[iT],⟨[.v .bool],[]⟩,[.bool],λh=>Pw.jhs h⟩
def joq:FnD where
 N:=16
 np:=1
 cs:=[]
 ds:=[]
 ro:=[false]
theorem jmw:Con.OK Tryz.prog KS:=
 cOf aF aG joq KS Tryz.func396 trivial trivial
def yD:Con:=⟨349,[.v iT,.v iT],[iT,iT],⟨[.v iT],[]⟩,[iT],Pw.unc2 Pw.j6C⟩
def jor:FnD where
 N:=24
 np:=2
 cs:=[KS]
 ds:=[]
 modes:=[(396,[false])]
 ro:=[false]
theorem FM:Con.OK Tryz.prog yD:=
 cOf aF aG jor yD Tryz.func349 (j9 jmw trivial) trivial
def KT:Con:=⟨391,[.v ax],[ax],⟨[.v .bool],[]⟩,[.bool],λh=>Pw.jay h⟩
def jmx:FnD where
 N:=26
 np:=1
 cs:=[yD]
 ds:=[]
 modes:=[(349,[false,false])]
 ro:=[false]
theorem jkt:Con.OK Tryz.prog KT:=
 cOf aF aG jmx KT Tryz.func391 (j9 FM trivial) trivial
def FN:Con:=⟨395,[.v iT,.v iT],[iT,iT],⟨[.v iT],[]⟩,[iT],Pw.unc2 Pw.j7s⟩
def jmy:FnD where
 N:=16
 np:=2
 cs:=[]
 ds:=[]
 ro:=[false]
theorem Th:Con.OK Tryz.prog FN:=
 cOf aF aG jmy FN Tryz.func395 trivial trivial
def CJ:Con:=⟨347,[.v iT],[iT],⟨[.v iT],[]⟩,[iT],λh=>Pw.j4y h⟩
def jmz:FnD where
 N:=19
 np:=1
 cs:=[FN]
 ds:=[]
 modes:=[(395,[false,false])]
 ro:=[false]
theorem KU:Con.OK Tryz.prog CJ:=
 cOf aF aG jmz CJ Tryz.func347 (j9 Th trivial) trivial
def KV:Con:=⟨392,[.v ax],[ax],⟨[.v iT],[]⟩,[iT],λh=>Pw.jbn h⟩
def jku:FnD where
 N:=25
 np:=1
 cs:=[yD,CJ]
 ds:=[⟨0,[.s (.one (.bp 64 0)),sI,sI,.b (.cell [.d iT,.d iT,.d iT] false)],[iT,iT,iT,iT,iT],[⟨.exit 0,[sI],[iT]⟩],Pw.unc5 (Pw.j3j)⟩]
 modes:=[(347,[false]),(349,[false,false])]
 keep:=[(0,⟨[1,3,4],[64],[],[]⟩)]
 keepX:=[(0,.exit 0,⟨[3],[],[],[]⟩)]
 ro:=[false]
theorem jjH:Con.OK Tryz.prog KV:=
 cOf aF aG jku KV Tryz.func392 (j9 FM (j9 KU trivial)) (j9 (λh=>by kernel_rfl) trivial)
def FO:Con:=⟨250,[.v iT],[iT],⟨[.v iT],[]⟩,[iT],λh=>Pw.j5o h⟩
def jjI:FnD where
 N:=7
 np:=1
 cs:=[]
 ds:=[]
 ro:=[false]
theorem Ti:Con.OK Tryz.prog FO:=
 cOf aF aG jjI FO Tryz.func250 trivial trivial
def KW:Con:=⟨340,[.v iT,.v iT,.v iT,.v iT],[iT,iT,iT,iT],⟨[.v iT,.v iT],[]⟩,[iT,iT],Pw.unc4 Pw.jgy⟩
def jpX:FnD where
 N:=59
 np:=4
 cs:=[yD,KT,KV,FO]
 ds:=[]
 modes:=[(250,[false]),(349,[false,false]),(391,[false]),(392,[false])]
 ro:=[false,false]
theorem jos:Con.OK Tryz.prog KW:=
 cOf aF aG jpX KW Tryz.func340 (j9 FM (j9 jkt (j9 jjH (j9 Ti trivial)))) trivial
def KX:Con:=⟨342,[.v aM,.v aM],[aM,aM],⟨[.v iT],[]⟩,[iT],Pw.unc2 Pw.j7t⟩
def jep:FnD where
 N:=10
 np:=2
 cs:=[]
 ds:=[]
 ro:=[false]
theorem jdD:Con.OK Tryz.prog KX:=
 cOf aF aG jep KX Tryz.func342 trivial trivial
def KY:Con:=⟨412,[.rl 332 aa,.v iT,.v iT,.clo 342 []],[aa,iT,iT],⟨[],[.rl aa]⟩,[aa],Pw.unc3 Pw.j0l⟩
def j5b:FnD where
 N:=53
 np:=4
 cs:=[KX]
 ds:=[⟨0,[.s (.one (.ol 0)),sI,sI,.s (.one (.clo 342 [])),sI,.b (.lst 332 aM false)],[iT,iT,iT,aa],[⟨.exit 0,[.b (.lst 332 aM false)],[aa]⟩],Pw.unc4 (Pw.j0e)⟩,
  ⟨2,[.s (.one (.ol 0)),sI,sI,.s (.one (.clo 342 [])),sI,sI,.b (.lst 332 aM false)],[iT,iT,iT,iT,aa],[⟨.exit 2,[.s (.one (.ol 0)),sI,sI,.s (.one (.clo 342 [])),sI,.b (.lst 332 aM false)],[iT,iT,iT,aa]⟩],Pw.unc5 (Pw.j0d)⟩]
 modes:=[(342,[false,false])]
 keep:=[(0,⟨[0,1,2,3,8],[0],[],[]⟩),
  (2,⟨[0,1,2,3,8,9],[0],[],[]⟩)]
 keepX:=[(0,.exit 0,⟨[],[0],[],[]⟩),
  (2,.exit 2,⟨[0,1,2,3,8],[0],[],[]⟩)]
 dw:=[(6,[[],[],[],[],[],[],[],[],[],[],[],[],[],[],[],[0],[],[0]])]
theorem j4G:Con.OK Tryz.prog KY:=
 cOf aF aG j5b KY Tryz.func412 (j9 jdD trivial) (j9 (λh=>by kernel_rfl) (j9 (λh=>by kernel_rfl) trivial))
def KZ:Con:=⟨393,[.rl 332 aa,.v iT,.clo 342 []],[aa,iT],⟨[],[.rl aa]⟩,[aa],Pw.unc2 Pw.j1K⟩
def j6J:FnD where
 N:=63
 np:=3
 cs:=[KY]
 ds:=[⟨0,[.s (.one (.ol 0)),sI,.s (.one (.clo 342 [])),sI,sI,sI,.b (.lst 332 aM false)],[iT,iT,iT,iT,aa],[⟨.exit 0,[.s (.one (.ol 0)),sI,.s (.one (.clo 342 [])),sI,sI,.b (.lst 332 aM false)],[iT,iT,iT,aa]⟩],Pw.unc5 (Pw.j0A)⟩,
  ⟨2,[.s (.one (.ol 0)),sI,.s (.one (.clo 342 [])),sI,.b (.lst 332 aM false)],[iT,iT,aa],[⟨.exit 2,[.b (.lst 332 aM false)],[aa]⟩],Pw.unc3 (Pw.j0B)⟩,
  ⟨4,[.s (.one (.ol 0)),sI,.s (.one (.clo 342 [])),sI,sI,sI,.b (.lst 332 aM false)],[iT,iT,iT,iT,aa],[⟨.exit 4,[.s (.one (.ol 0)),sI,.s (.one (.clo 342 [])),sI,sI,.b (.lst 332 aM false)],[iT,iT,iT,aa]⟩],Pw.unc5 (Pw.j28)⟩]
 modes:=[(412,[true,false,false,false])]
 keep:=[(0,⟨[0,1,2,6,7,8],[0],[],[]⟩),
  (2,⟨[0,1,2,6],[0],[],[]⟩),
  (4,⟨[0,1,2,6,7,8],[0],[],[]⟩)]
 keepX:=[(0,.exit 0,⟨[0,1,2,6,7],[0],[],[]⟩),
  (2,.exit 2,⟨[],[0],[],[]⟩),
  (4,.exit 4,⟨[0,1,2,6,7],[0],[],[]⟩)]
theorem j6v:Con.OK Tryz.prog KZ:=
 cOf aF aG j6J KZ Tryz.func393 (j9 j4G trivial) (j9 (λh=>by kernel_rfl) (j9 (λh=>by kernel_rfl) (j9 (λh=>by kernel_rfl) trivial)))
def K3:Con:=⟨341,[.rl 332 aa,.clo 342 []],[aa],⟨[],[.rl aa]⟩,[aa],λh=>Pw.j0i h⟩
def j3g:FnD where
 N:=9
 np:=2
 cs:=[KZ]
 ds:=[]
 modes:=[(393,[true,false,false])]
theorem j35:Con.OK Tryz.prog K3:=
 cOf aF aG j3g K3 Tryz.func341 (j9 j6v trivial) trivial
def K4:Con:=⟨292,[.v bS],[bS],⟨[.own 332 aa,.v iT],[]⟩,[aa,iT],λh=>Pw.j7m h⟩
def jgM:FnD where
 N:=86
 np:=1
 cs:=[CI,KR,KW,K3]
 ds:=[⟨0,[.s (.one (.bp 64 0)),sI,.s (.one (.d bR)),sI,sI,.b (.cell [.d .str,.d iT,.d bR] false)],[iT,bR,iT,iT,.str,iT,bR],[⟨.ret,[.s (.one (.nil)),sI],[iT]⟩,⟨.exit 0,[.s (.one (.bp 64 0)),sI,.b (.cell [.d .str,.d iT,.d bR] false)],[iT,.str,iT,bR]⟩],Pw.unc7 (Pw.j1W)⟩,
  ⟨2,[.s (.one (.ol 1002000)),.s (.one (.d bR)),sI,sI,.b (.lst 332 aM false)],[bR,iT,iT,aa],[⟨.exit 2,[.s (.one (.ol 1502300)),.b (.lst 332 aM false)],[aa]⟩],Pw.unc4 (Pw.j1Y)⟩,
  ⟨4,[.s (.one (.ol 1004000)),.s (.one (.bp 640 0)),sI,.s (.one (.d bR)),sI,sI,.b (.cell [.d iT,.d iT,.d iT,.d iT,.d iT,.d iT,.d iT] false),.b (.lst 332 aM false)],[iT,bR,iT,iT,iT,iT,iT,iT,iT,iT,iT,aa],[⟨.exit 4,[.s (.one (.ol 1504500)),.s (.one (.d bR)),sI,sI,.b (.lst 332 aM false)],[bR,iT,iT,aa]⟩],Pw.jvz (Pw.j1X)⟩]
 modes:=[(293,[false,false,false]),(339,[false]),(340,[false,false,false,false]),(341,[true,false])]
 keep:=[(0,⟨[1,4,23,24,25],[64],[],[]⟩),
  (2,⟨[8,46,47,48],[],[⟨1002000,332,aM,[.slot 8],false⟩],[]⟩),
  (4,⟨[8,10,11,46,47,48],[640],[⟨1004000,332,aM,[.slot 8],false⟩],[]⟩)]
 keepX:=[(0,.ret,⟨[2,3],[],[],[]⟩),
  (0,.exit 0,⟨[1,4],[64],[],[]⟩),
  (2,.exit 2,⟨[8],[],[⟨1502300,332,aM,[.slot 8],false⟩],[]⟩),
  (4,.exit 4,⟨[8,46,47,48],[],[⟨1504500,332,aM,[.slot 8],false⟩],[]⟩)]
 ro:=[true,false]
theorem jfK:Con.OK Tryz.prog K4:=
 cOf aF aG jgM K4 Tryz.func292 (j9 KQ (j9 jop (j9 jos (j9 j35 trivial)))) (j9 (λh=>by kernel_rfl) (j9 (λh=>by kernel_rfl) (j9 (λh=>by kernel_rfl) trivial)))
def FP:Con:=⟨201,[.v bS],[bS],⟨[.own 167 aa,.v iT],[]⟩,[aa,iT],λh=>Pw.j3d h⟩
def jgN:FnD where
 N:=79
 np:=1
 cs:=[CI,K4]
 ds:=[⟨0,[.s (.one (.ol 1000000)),sI,.s (.one (.ol 1000001)),sI,sI,.b (.lst 167 aM false),.b (.lst 332 aM false)],[iT,iT,iT,aa,aa],[⟨.ret,[.s (.one (.nil)),sI],[iT]⟩,⟨.exit 0,[.s (.one (.ol 1500100)),.b (.lst 167 aM false)],[aa]⟩],Pw.unc5 (Pw.j1Z)⟩]
 modes:=[(292,[false]),(293,[false,false,false])]
 keep:=[(0,⟨[6,7,22,23,24],[],[⟨1000000,167,aM,[.slot 6],false⟩,⟨1000001,332,aM,[.slot 22],false⟩],[]⟩)]
 keepX:=[(0,.ret,⟨[2,3],[],[],[]⟩),
  (0,.exit 0,⟨[6],[],[⟨1500100,167,aM,[.slot 6],false⟩],[]⟩)]
 ro:=[true,false]
theorem Tj:Con.OK Tryz.prog FP:=
 cOf aF aG jgN FP Tryz.func201 (j9 KQ (j9 jfK trivial)) (j9 (λh=>by kernel_rfl) trivial)
def K5:Con:=⟨223,[.v bS],[bS],⟨[.v iT],[]⟩,[iT],λh=>Pw.jcj h⟩
def jot:FnD where
 N:=11
 np:=1
 cs:=[FP]
 ds:=[]
 modes:=[(201,[false])]
 ro:=[false]
theorem jmA:Con.OK Tryz.prog K5:=
 cOf aF aG jot K5 Tryz.func223 (j9 Tj trivial) trivial
def K6:Con:=⟨225,[.v mI],[mI],⟨[.v .bool],[]⟩,[.bool],λh=>Pw.j6S h⟩
def jdE:FnD where
 N:=7
 np:=1
 cs:=[]
 ds:=[]
 ro:=[false]
theorem jda:Con.OK Tryz.prog K6:=
 cOf aF aG jdE K6 Tryz.func225 trivial trivial
def K7:Con:=⟨305,[.v bR,.clo 225 []],[bR],⟨[.v iT],[]⟩,[iT],λh=>Pw.j1e h⟩
def j5f:FnD where
 N:=19
 np:=2
 cs:=[K6]
 ds:=[⟨0,[.s (.one (.d bR)),.s (.one (.clo 225 [])),sI,sI],[bR,iT,iT],[⟨.ret,[sI],[iT]⟩,⟨.exit 0,[],[]⟩],Pw.unc3 (Pw.j0f)⟩]
 modes:=[(225,[false])]
 keep:=[(0,⟨[0,1,7,8],[],[],[]⟩)]
 keepX:=[(0,.ret,⟨[4],[],[],[]⟩),
  (0,.exit 0,⟨[],[],[],[]⟩)]
 ro:=[false]
theorem j5d:Con.OK Tryz.prog K7:=
 cOf aF aG j5f K7 Tryz.func305 (j9 jda trivial) (j9 (λh=>by kernel_rfl) trivial)
def K8:Con:=⟨224,[.v bR,.clo 225 []],[bR],⟨[.v .bool],[]⟩,[.bool],λh=>Pw.j11 h⟩
def j4A:FnD where
 N:=9
 np:=2
 cs:=[K7]
 ds:=[]
 modes:=[(305,[false,false])]
 ro:=[false]
theorem j4w:Con.OK Tryz.prog K8:=
 cOf aF aG j4A K8 Tryz.func224 (j9 j5d trivial) trivial
def K9:Con:=⟨151,[.v bS],[bS],⟨[.v iT],[]⟩,[iT],λh=>Pw.j4Z h⟩
def jfL:FnD where
 N:=17
 np:=1
 cs:=[K5,K8]
 ds:=[]
 modes:=[(223,[false]),(224,[false,false])]
 ro:=[false]
theorem jeW:Con.OK Tryz.prog K9:=
 cOf aF aG jfL K9 Tryz.func151 (j9 jmA (j9 j4w trivial)) trivial
def La:Con:=⟨149,[.v ay,.clo 150 [],.clo 151 []],[ay],⟨[.v iT],[]⟩,[iT],λh=>Pw.j3Z h⟩
def jcr:FnD where
 N:=34
 np:=3
 cs:=[KM,wY,K9]
 ds:=[⟨0,[.s (.one (.clo 150 [])),.s (.one (.clo 151 [])),.s (.one (.ol 1000000)),.s (.one (.d ay)),sI,sI,.b (.lst 4294967512 (.pair .str .bool) false)],[ay,iT,iT,(.list (.pair .str .bool))],[⟨.ret,[sI],[iT]⟩,⟨.exit 0,[],[]⟩],Pw.unc4 (Pw.j16)⟩]
 modes:=[(150,[false]),(151,[false]),(152,[false,true])]
 keep:=[(0,⟨[1,2,7,13,14,15],[],[⟨1000000,4294967512,(.pair .str .bool),[.slot 7],false⟩],[]⟩)]
 keepX:=[(0,.ret,⟨[6],[],[],[]⟩),
  (0,.exit 0,⟨[],[],[],[]⟩)]
 ro:=[false]
theorem jbQ:Con.OK Tryz.prog La:=
 cOf aF aG jcr La Tryz.func149 (j9 jfJ (j9 CH (j9 jeW trivial))) (j9 (λh=>by kernel_rfl) trivial)
end Go.Proofs.Pk
