/- cC: each given function is its plain function, printed by a program. -/
import Derived.Test.YtpbnnhakjhalaaaGreatLWCon4
noncomputable section
open Go Go.Lft
set_option linter.unusedVariables false
set_option maxRecDepth 100000
namespace Go.Proofs.Pk
def Lu:Con:=⟨235,[.v bc,.v cA],[bc,cA],⟨[.v iT],[]⟩,[iT],Pw.unc2 Pw.j4l⟩
def jeX:FnD where
 N:=91
 np:=2
 cs:=[wZ,CL,CM,CN,Lt]
 ds:=[]
 modes:=[(197,[false]),(227,[false,false]),(229,[false,false]),(231,[false]),(308,[false,false,false])]
 ro:=[false]
theorem jer:Con.OK Tryz.prog Lu:=
 cOf aF aG jeX Lu Tryz.func235 (j9 CK (j9 Lb (j9 Lc (j9 Li (j9 j8b trivial))))) trivial
def Lv:Con:=⟨234,[.v cA,.ip [ay,aC,aB,aK]],[cA,ay,aC,aB,aK],⟨[.v iT],[]⟩,[iT],Pw.unc5 Pw.j53⟩
def jbb:FnD where
 N:=7
 np:=2
 cs:=[Lu]
 ds:=[]
 modes:=[(235,[false,false])]
 ro:=[false]
theorem jaU:Con.OK Tryz.prog Lv:=
 cOf aF aG jbb Lv Tryz.func234 (j9 jer trivial) trivial
def Lw:Con:=⟨232,[.v bO,.clo 233 [],.clo 234 [.p [ay,aC,aB,aK]]],[bO,ay,aC,aB,aK],⟨[.v iT],[]⟩,[iT],Pw.unc5 Pw.j3u⟩
def jbT:FnD where
 N:=34
 np:=3
 cs:=[wY,Lq,Lv]
 ds:=[⟨0,[.s (.one (.clo 233 [])),.s (.one (.clo 234 [.p [ay,aC,aB,aK]])),.s (.one (.ol 1000000)),.s (.one (.d bO)),sI,sI,.b (.lst 4294967512 (.pair .str .bool) false)],[ay,aC,aB,aK,bO,iT,iT,(.list (.pair .str .bool))],[⟨.ret,[sI],[iT]⟩,⟨.exit 0,[],[]⟩],Pw.unc8 (Pw.j12)⟩]
 modes:=[(152,[false,true]),(233,[false]),(234,[false])]
 keep:=[(0,⟨[1,2,7,13,14,15],[],[⟨1000000,4294967512,(.pair .str .bool),[.slot 7],false⟩],[]⟩)]
 keepX:=[(0,.ret,⟨[6],[],[],[]⟩),
  (0,.exit 0,⟨[],[],[],[]⟩)]
 ro:=[false]
theorem jbc:Con.OK Tryz.prog Lw:=
 cOf aF aG jbT Lw Tryz.func232 (j9 CH (j9 jaT (j9 jaU trivial))) (j9 (λh=>by kernel_rfl) trivial)
def Lx:Con:=⟨236,[.v bc,.v fm],[bc,fm],⟨[.v iT],[]⟩,[iT],Pw.unc2 Pw.j54⟩
def jfP:FnD where
 N:=83
 np:=2
 cs:=[wZ,CM,CN]
 ds:=[]
 modes:=[(227,[false,false]),(231,[false]),(308,[false,false,false])]
 ro:=[false]
theorem jeY:Con.OK Tryz.prog Lx:=
 cOf aF aG jfP Lx Tryz.func236 (j9 CK (j9 Lc (j9 Li trivial))) trivial
def Ly:Con:=⟨161,[.v bc,.v cV],[bc,cV],⟨[.v iT],[]⟩,[iT],Pw.unc2 Pw.j2T⟩
def jdf:FnD where
 N:=40
 np:=2
 cs:=[Lw,Lx]
 ds:=[⟨0,[.s (.one (.bp 128 0)),.s (.one (.d bN)),sI,sI,.b (.cell [.d ay,.d aC,.d aB,.d aK] true)],[bN,iT,iT,ay,aC,aB,aK],[⟨.ret,[sI],[iT]⟩,⟨.exit 0,[],[]⟩],Pw.unc7 (Pw.j1h)⟩]
 modes:=[(232,[false,false,false]),(236,[false,false])]
 keep:=[(0,⟨[2,27,28,29],[128],[],[]⟩)]
 keepX:=[(0,.ret,⟨[4],[],[],[]⟩),
  (0,.exit 0,⟨[],[],[],[]⟩)]
 ro:=[false]
theorem jcu:Con.OK Tryz.prog Ly:=
 cOf aF aG jdf Ly Tryz.func161 (j9 jbc (j9 jeY trivial)) (j9 (λh=>by kernel_rfl) trivial)
def Lz:Con:=⟨160,[.v cV,.ip [ay,aC,aB,aK]],[cV,ay,aC,aB,aK],⟨[.v iT],[]⟩,[iT],Pw.unc5 Pw.j9A⟩
def jgR:FnD where
 N:=7
 np:=2
 cs:=[Ly]
 ds:=[]
 modes:=[(161,[false,false])]
 ro:=[false]
theorem jfQ:Con.OK Tryz.prog Lz:=
 cOf aF aG jgR Lz Tryz.func160 (j9 jcu trivial) trivial
def LA:Con:=⟨158,[.v aK,.clo 159 [],.clo 160 [.p [ay,aC,aB,aK]]],[aK,ay,aC,aB,aK],⟨[.v iT],[]⟩,[iT],Pw.unc5 Pw.j45⟩
def ja9:FnD where
 N:=34
 np:=3
 cs:=[wY,Lp,Lz]
 ds:=[⟨0,[.s (.one (.clo 159 [])),.s (.one (.clo 160 [.p [ay,aC,aB,aK]])),.s (.one (.ol 1000000)),.s (.one (.d aK)),sI,sI,.b (.lst 4294967512 (.pair .str .bool) false)],[ay,aC,aB,aK,aK,iT,iT,(.list (.pair .str .bool))],[⟨.ret,[sI],[iT]⟩,⟨.exit 0,[],[]⟩],Pw.unc8 (Pw.j0M)⟩]
 modes:=[(152,[false,true]),(159,[false]),(160,[false])]
 keep:=[(0,⟨[1,2,7,13,14,15],[],[⟨1000000,4294967512,(.pair .str .bool),[.slot 7],false⟩],[]⟩)]
 keepX:=[(0,.ret,⟨[6],[],[],[]⟩),
  (0,.exit 0,⟨[],[],[],[]⟩)]
 ro:=[false]
theorem j9J:Con.OK Tryz.prog LA:=
 cOf aF aG ja9 LA Tryz.func158 (j9 CH (j9 jfO (j9 jfQ trivial))) (j9 (λh=>by kernel_rfl) trivial)
def LB:Con:=⟨75,[.v bc],[bc],⟨[.v iT],[]⟩,[iT],λh=>Pw.j7X h⟩
def jjM:FnD where
 N:=72
 np:=1
 cs:=[wY,La,Le,Lo,LA]
 ds:=[⟨0,[.s (.one (.bp 64 0)),.s (.one (.ol 1000000)),.s (.one (.d aC)),sI,sI,.b (.cell [.d ay,.d aC,.d aB,.d aK] false),.b (.lst 4294967512 (.pair .str .bool) false)],[aC,iT,iT,ay,aC,aB,aK,(.list (.pair .str .bool))],[⟨.ret,[sI],[iT]⟩,⟨.exit 0,[.s (.one (.bp 64 0)),.b (.cell [.d ay,.d aC,.d aB,.d aK] false)],[ay,aC,aB,aK]⟩],Pw.unc8 (Pw.j2U)⟩]
 modes:=[(149,[false,false,false]),(152,[false,true]),(153,[false,false]),(154,[false,false,false]),(158,[false,false,false])]
 keep:=[(0,⟨[1,4,39,40,41],[64],[⟨1000000,4294967512,(.pair .str .bool),[.slot 4],false⟩],[]⟩)]
 keepX:=[(0,.ret,⟨[2],[],[],[]⟩),
  (0,.exit 0,⟨[1],[64],[],[]⟩)]
 ro:=[false]
theorem jii:Con.OK Tryz.prog LB:=
 cOf aF aG jjM LB Tryz.func75 (j9 CH (j9 jbQ (j9 jdF (j9 j9H (j9 j9J trivial))))) (j9 (λh=>by kernel_rfl) trivial)
def FQ:Con:=⟨117,[.v bS],[bS],⟨[.v cw,.v iT],[]⟩,[cw,iT],λh=>Pw.jfx h⟩
def jtK:FnD where
 N:=16
 np:=1
 cs:=[FP]
 ds:=[]
 modes:=[(201,[false])]
 ro:=[false,false]
theorem Tk:Con.OK Tryz.prog FQ:=
 cOf aF aG jtK FQ Tryz.func117 (j9 Tj trivial) trivial
def LC:Con:=⟨237,[.v ay],[ay],⟨[.own 154 fU],[]⟩,[fU],λh=>Pw.jfy h⟩
def jmD:FnD where
 N:=25
 np:=1
 cs:=[FQ]
 ds:=[⟨0,[.s (.one (.ol 1000000)),.s (.one (.d ay)),sI,sI,.b (.lst 154 cw false)],[ay,iT,iT,fU],[⟨.exit 0,[.s (.one (.ol 1500100)),.b (.lst 154 cw false)],[fU]⟩],Pw.unc4 (Pw.j3Q)⟩]
 modes:=[(117,[false])]
 keep:=[(0,⟨[3,8,9,10],[],[⟨1000000,154,cw,[.slot 3],false⟩],[]⟩)]
 keepX:=[(0,.exit 0,⟨[3],[],[⟨1500100,154,cw,[.slot 3],false⟩],[]⟩)]
 ro:=[true]
theorem jkw:Con.OK Tryz.prog LC:=
 cOf aF aG jmD LC Tryz.func237 (j9 Tk trivial) (j9 (λh=>by kernel_rfl) trivial)
def LD:Con:=⟨162,[.v bc],[bc],⟨[.v fo],[]⟩,[fo],λh=>Pw.jgz h⟩
def jpY:FnD where
 N:=8
 np:=1
 cs:=[LC]
 ds:=[]
 modes:=[(237,[false])]
 ro:=[false]
 dw:=[(1,[[],[],[],[384],[],[128]])]
theorem jox:Con.OK Tryz.prog LD:=
 cOf aF aG jpY LD Tryz.func162 (j9 jkw trivial) trivial
def LF:Con:=⟨76,[.v bc],[bc],⟨[.v fo,.v .bool],[]⟩,[fo,.bool],λh=>Pw.jmk h⟩
def jtL:FnD where
 N:=10
 np:=1
 cs:=[LB,LD]
 ds:=[]
 modes:=[(75,[false]),(162,[false])]
 ro:=[false,false]
theorem jrX:Con.OK Tryz.prog LF:=
 cOf aF aG jtL LF Tryz.func76 (j9 jii (j9 jox trivial)) trivial
def LG:Con:=⟨77,[.v bc,.v iT],[bc,iT],⟨[.v .bool],[]⟩,[.bool],Pw.unc2 Pw.jfz⟩
def jmE:FnD where
 N:=14
 np:=2
 cs:=[]
 ds:=[]
 ro:=[false]
theorem jkx:Con.OK Tryz.prog LG:=
 cOf aF aG jmE LG Tryz.func77 trivial trivial
def LH:Con:=⟨173,[.v iT,.v iT],[iT,iT],⟨[.v .bool],[]⟩,[.bool],Pw.unc2 Pw.jht⟩
def joy:FnD where
 N:=26
 np:=2
 cs:=[]
 ds:=[]
 ro:=[false]
theorem jmF:Con.OK Tryz.prog LH:=
 cOf aF aG joy LH Tryz.func173 trivial trivial
def LI:Con:=⟨164,[.v bc,.v iT,.v iT,.v iT],[bc,iT,iT,iT],⟨[.v fo,.v iT],[]⟩,[fo,iT],Pw.unc4 Pw.jaB⟩
def jmG:FnD where
 N:=34
 np:=4
 cs:=[LF,LG,LH]
 ds:=[]
 modes:=[(76,[false]),(77,[false,false]),(173,[false,false])]
 ro:=[false,false]
theorem jky:Con.OK Tryz.prog LI:=
 cOf aF aG jmG LI Tryz.func164 (j9 jrX (j9 jkx (j9 jmF trivial))) trivial
def Tl:Con:=⟨220,[.v (.list iT)],[(.list iT)],⟨[.own 3 (.list iT)],[]⟩,[(.list iT)],λh=>Pw.j6T h⟩
def jdG:FnD where
 N:=8
 np:=1
 cs:=[]
 ds:=[]
 ro:=[true]
theorem jdi:Con.OK Tryz.prog Tl:=
 Q7 aF aG jdG 220 iT 3 Tryz.f220 (Tryz.f220.body.getD .skip) Tryz.func220 (by kernel_rfl) (by kernel_rfl) (zu (by kernel_rfl)) (by kernel_rfl) trivial (by kernel_rfl)
  (λh R k=>by kernel_rfl)
def FT:Con:=⟨261,[.v iT,.ip [iT],.ip [iT]],[iT,iT,iT],⟨[.v .bool],[]⟩,[.bool],Pw.unc3 Pw.j9e⟩
def jkz:FnD where
 N:=13
 np:=3
 cs:=[]
 ds:=[]
 ro:=[false]
theorem Tm:Con.OK Tryz.prog FT:=
 cOf aF aG jkz FT Tryz.func261 trivial trivial
def LJ:Con:=⟨309,[.rl 3 (.list iT),.clo 261 [.p [iT],.p [iT]]],[(.list iT),iT,iT],⟨[.v iT],[.rl (.list iT)]⟩,[iT,(.list iT)],Pw.unc3 Pw.j3R⟩
def j9K:FnD where
 N:=19
 np:=2
 cs:=[FT]
 ds:=[⟨0,[.s (.one (.ol 0)),.s (.one (.clo 261 [.p [iT],.p [iT]])),sI,sI,.b (.lst 3 iT false)],[iT,iT,iT,iT,(.list iT)],[⟨.ret,[sI,.b (.lst 3 iT false)],[iT,(.list iT)]⟩,⟨.exit 0,[.b (.lst 3 iT false)],[(.list iT)]⟩],Pw.unc5 (Pw.j0G)⟩]
 modes:=[(261,[false])]
 keep:=[(0,⟨[0,1,7,8],[0],[],[]⟩)]
 keepX:=[(0,.ret,⟨[4],[0],[],[]⟩),
  (0,.exit 0,⟨[],[0],[],[]⟩)]
 ro:=[false]
theorem j9n:Con.OK Tryz.prog LJ:=
 cOf aF aG j9K LJ Tryz.func309 (j9 Tm trivial) (j9 (λh=>by kernel_rfl) trivial)
def LL:Con:=⟨260,[.rl 3 (.list iT),.clo 261 [.p [iT],.p [iT]]],[(.list iT),iT,iT],⟨[.hd],[.rl (.list iT)]⟩,[iT,(.list iT)],Pw.unc3 Pw.j2K⟩
def jaY:FnD where
 N:=42
 np:=2
 cs:=[FT,LJ]
 ds:=[⟨0,[.s (.one (.ol 0)),.s (.one (.clo 261 [.p [iT],.p [iT]])),sI,sI,.b (.lst 3 iT false)],[iT,iT,iT,iT,(.list iT)],[⟨.exit 0,[.s (.one (.ol 0)),sI,.b (.lst 3 iT false)],[iT,(.list iT)]⟩],Pw.unc5 (Pw.j0S)⟩]
 modes:=[(261,[false]),(309,[true,false])]
 keep:=[(0,⟨[0,1,5,6],[0],[],[]⟩)]
 keepX:=[(0,.exit 0,⟨[0,5],[0],[],[]⟩)]
 ro:=[false]
 hd:=true
theorem jaa:Con.OK Tryz.prog LL:=
 cOf aF aG jaY LL Tryz.func260 (j9 Tm (j9 j9n trivial)) (j9 (λh=>by kernel_rfl) trivial)
def Tn:Con:=⟨262,[.rl 3 (.list iT)],[(.list iT)],⟨[],[.rl (.list iT)]⟩,[(.list iT)],λh=>Pw.j5q h⟩
def joz:FnD where
 N:=11
 np:=1
 cs:=[]
 ds:=[]
theorem jdH:Con.OK Tryz.prog Tn:=
 jtF Tryz.sort262 3 (by kernel_rfl) 262 rfl
end Go.Proofs.Pk
