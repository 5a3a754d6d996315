/- cL: each given function is its plain function, printed by a program. -/
import Derived.Test.YtbpjdcbbmibehaaGreatLJCon6
noncomputable section
open Go Go.Lft
set_option linter.unusedVariables false
set_option maxRecDepth 100000
namespace Go.Proofs.Pk
def Oz:Con:=⟨199,[.v dr,.clo 137 []],[dr],⟨[.v iT],[]⟩,[iT],λh=>Pw.j1H h⟩
def j63:FnD where
 N:=19
 np:=2
 cs:=[Oy]
 ds:=[⟨0,[.s (.one (.d dr)),.s (.one (.clo 137 [])),sI,sI],[dr,iT,iT],[⟨.ret,[sI],[iT]⟩,⟨.exit 0,[],[]⟩],Pw.unc3 (Pw.j0i)⟩]
 modes:=[(137,[false])]
 keep:=[(0,⟨[0,1,7,8],[],[],[]⟩)]
 keepX:=[(0,.ret,⟨[4],[],[],[]⟩),
  (0,.exit 0,⟨[],[],[],[]⟩)]
 ro:=[false]
theorem j5T:Con.OK Tryz.prog Oz:=
 cOf aC aD j63 Oz Tryz.func199 (j9 ji1 trivial) (j9 (λh=>by kernel_rfl) trivial)
def OA:Con:=⟨136,[.v dr,.clo 137 []],[dr],⟨[.v .bool],[]⟩,[.bool],λh=>Pw.j0K h⟩
def j5C:FnD where
 N:=9
 np:=2
 cs:=[Oz]
 ds:=[]
 modes:=[(199,[false,false])]
 ro:=[false]
theorem j5i:Con.OK Tryz.prog OA:=
 cOf aC aD j5C OA Tryz.func136 (j9 j5T trivial) trivial
def OB:Con:=⟨72,[.v dr],[dr],⟨[.v iT],[]⟩,[iT],λh=>Pw.jex h⟩
def joq:FnD where
 N:=12
 np:=1
 cs:=[EG,Ox,OA]
 ds:=[]
 modes:=[(52,[false]),(135,[false]),(136,[false,false])]
 ro:=[false]
theorem jmA:Con.OK Tryz.prog OB:=
 cOf aC aD joq OB Tryz.func72 (j9 Nh (j9 jjA (j9 j5i trivial))) trivial
def OC:Con:=⟨77,[.v ai,.v iT],[ai,iT],⟨[.own 72 aa],[]⟩,[aa],Pw.unc2 Pw.j7d⟩
def ji2:FnD where
 N:=29
 np:=2
 cs:=[yN]
 ds:=[⟨0,[sI,.s (.one (.ol 1000000)),.s (.one (.d ai)),sI,sI,.b (.lst 72 aF false)],[iT,ai,iT,iT,aa],[⟨.exit 0,[.s (.one (.ol 1500100)),.b (.lst 72 aF false)],[aa]⟩],Pw.unc5 (Pw.j2M)⟩]
 modes:=[(140,[false])]
 keep:=[(0,⟨[1,5,8,9,10],[],[⟨1000000,72,aF,[.slot 5],false⟩],[]⟩)]
 keepX:=[(0,.exit 0,⟨[5],[],[⟨1500100,72,aF,[.slot 5],false⟩],[]⟩)]
 ro:=[true]
theorem jhi:Con.OK Tryz.prog OC:=
 cOf aC aD ji2 OC Tryz.func77 (j9 EL trivial) (j9 (λh=>by kernel_rfl) trivial)
def OD:Con:=⟨75,[.v aa],[aa],⟨[.v iT],[]⟩,[iT],λh=>Pw.jcP h⟩
def jmB:FnD where
 N:=21
 np:=1
 cs:=[]
 ds:=[⟨0,[sI,.s (.one (.d aa)),sI,sI],[iT,aa,iT,iT],[⟨.exit 0,[sI],[iT]⟩],Pw.unc4 (Pw.j47)⟩]
 keep:=[(0,⟨[3,6,7,8],[],[],[]⟩)]
 keepX:=[(0,.exit 0,⟨[3],[],[],[]⟩)]
 ro:=[false]
theorem jkt:Con.OK Tryz.prog OD:=
 cOf aC aD jmB OD Tryz.func75 trivial (j9 (λh=>by kernel_rfl) trivial)
def Ib:Con:=⟨78,[.rl 4294967438 gT],[gT],⟨[.own 50 ai],[.rl gT]⟩,[ai,gT],λh=>Pw.j8Q h⟩
def jmC:FnD where
 N:=22
 np:=1
 cs:=[]
 ds:=[⟨0,[.s (.one (.ol 0)),.s (.one (.ol 1000000)),.s (.one (.ol 1000001)),sI,sI,.b (.lst 4294967438 eZ false),.b (.lst 50 ar false),.b (.lst 3 iT false)],[iT,iT,gT,ai,(.list iT)],[⟨.exit 0,[.s (.one (.ol 1500100)),.b (.lst 4294967438 eZ false),.b (.lst 50 ar false)],[gT,ai]⟩],Pw.unc5 (Pw.j48)⟩]
 keep:=[(0,⟨[0,3,8,9,10],[0],[⟨1000000,50,ar,[.slot 3],false⟩,⟨1000001,3,iT,[.slot 8],false⟩],[]⟩)]
 keepX:=[(0,.exit 0,⟨[3],[0],[⟨1500100,50,ar,[.slot 3],false⟩],[]⟩)]
 ro:=[true]
 bw:=[(141,(true,(.arr 142 (.arr 3 .bool))))]
 ks:=[2]
theorem jvx:BwK Tryz.prog 141 (true,(.arr 142 (.arr 3 .bool))):=
 jtD Tryz.keys142 Tryz.sorted141 Tryz.sort210 (by kernel_rfl) (by kernel_rfl) (by kernel_rfl) (by kernel_rfl)
theorem VR:Con.OK Tryz.prog Ib:=
 cOf aC aD jmC Ib Tryz.func78 trivial (j9 (λh=>by kernel_rfl) trivial) (j9 jvx trivial)
def OE:Con:=⟨18,[.v ct,.v iT,.v iT,.v iT,.v iT,.v dr],[ct,iT,iT,iT,iT,dr],⟨[.own 50 ai,.v iT],[]⟩,[ai,iT],Pw.unc6 Pw.j6F⟩
def jor:FnD where
 N:=132
 np:=6
 cs:=[H3,H9,Ia,Ow,OB,OC,OD,Ib]
 ds:=[⟨1,[sI,sI,.s (.one (.d dr)),.s (.one (.ol 1001000)),.s (.one (.bp 1024 0)),.s (.one (.ol 1001001)),.s (.one (.ol 1001000)),sI,sI,.b (.cell [.d iT,.d aa] false),.b (.lst 144 ar false),.b (.lst 4294967438 eZ false)],[iT,iT,dr,iT,iT,iT,aa,ai,gT],[⟨.exit 1,[sI,sI,.s (.one (.d dr)),.s (.one (.ol 1501200)),.s (.one (.bp 1024 0)),.s (.one (.ol 1501201)),.b (.cell [.d iT,.d aa] false),.b (.lst 144 ar false),.b (.lst 4294967438 eZ false)],[iT,iT,dr,iT,aa,ai,gT]⟩],Pw.unc9 (Pw.j4u)⟩,
  ⟨3,[sI,sI,.s (.one (.ol 1003000)),.s (.one (.bp 1024 0)),.s (.one (.ol 1003001)),.s (.one (.d dr)),sI,sI,.b (.cell [.d iT,.d aa] false),.b (.lst 144 ar false),.b (.lst 4294967438 eZ false)],[iT,iT,dr,iT,iT,iT,aa,ai,gT],[⟨.exit 3,[.s (.one (.ol 1503400)),.b (.lst 4294967438 eZ false)],[gT]⟩],Pw.unc9 (Pw.j4v)⟩,
  ⟨5,[],[],[],λ_=>none⟩]
 modes:=[(71,[false,false,false,false]),(72,[false]),(73,[false]),(74,[false,false,false,false]),(75,[false]),(76,[false,false]),(77,[false,false]),(78,[true])]
 keep:=[(1,⟨[2,3,5,14,16,18,63,64,65],[1024],[⟨1001000,144,ar,[.slot 14,.slot 63],false⟩,⟨1001001,4294967438,eZ,[.slot 18],false⟩],[]⟩),
  (3,⟨[2,3,14,16,18,92,93,94],[1024],[⟨1003000,144,ar,[.slot 14],false⟩,⟨1003001,4294967438,eZ,[.slot 18],false⟩],[]⟩),
  (5,⟨[2,3,14,16,18,23,24,92,93,94],[1024,1472],[⟨1005000,144,ar,[.slot 14],false⟩,⟨1005002,72,aF,[.slot 24],false⟩,⟨1005001,4294967438,eZ,[.slot 18],false⟩],[]⟩)]
 keepX:=[(1,.exit 1,⟨[2,3,5,14,16,18],[1024],[⟨1501200,144,ar,[.slot 14],false⟩,⟨1501201,4294967438,eZ,[.slot 18],false⟩],[]⟩),
  (3,.exit 3,⟨[18],[],[⟨1503400,4294967438,eZ,[.slot 18],false⟩],[]⟩)]
 ro:=[true,false]
 dw:=[(24,[[],[],[],[],[],[],[],[7616],[],[7744],[],[],[],[],[1664]])]
 ms:=[⟨5,18,1005001,[sI,sI,.s (.one (.ol 1005000)),.s (.one (.bp 1024 0)),.s (.one (.ol 1005001)),.s (.one (.bp 1472 0)),.s (.one (.ol 1005002)),.s (.one (.d dr)),sI,sI,.b (.cell [.d iT,.d aa] false),.b (.cell [.d iT,.d iT,.d iT] false),.b (.lst 144 ar false),.b (.lst 72 aF false),.b (.lst 4294967438 eZ false)],[iT,iT,dr,iT,iT,iT,aa,iT,iT,iT,ai,aa,gT],4294967438,ar,λh q z R k=>Pw.jaa h.1 h.2.1 h.2.2.1 h.2.2.2.1 h.2.2.2.2.1 h.2.2.2.2.2.1 h.2.2.2.2.2.2.1 h.2.2.2.2.2.2.2.1 h.2.2.2.2.2.2.2.2.1 h.2.2.2.2.2.2.2.2.2.1 h.2.2.2.2.2.2.2.2.2.2.1 h.2.2.2.2.2.2.2.2.2.2.2.1 h.2.2.2.2.2.2.2.2.2.2.2.2 q z k⟩]
theorem jmD:Con.OK Tryz.prog OE:=
 cOf aC aD jor OE Tryz.func18 (j9 VE (j9 VO (j9 VP (j9 jgF (j9 jmA (j9 jhi (j9 jkt (j9 VR trivial)))))))) (j9 (λh=>by kernel_rfl) (j9 (λh=>by kernel_rfl) (j9 (λh=>by kernel_rfl) trivial))) (hms:=(j9 ⟨by kernel_rfl,λh zs=>by kernel_rfl,λh zs=>by kernel_rfl,λh zs q z R k=>by kernel_rfl⟩ trivial))
def OG:Con:=⟨80,[.v jK],[jK],⟨[.own 50 ai],[]⟩,[ai],λh=>Pw.j1I h⟩
def j8q:FnD where
 N:=36
 np:=1
 cs:=[]
 ds:=[⟨0,[.s (.one (.d jK)),sI,.s (.one (.d jK)),sI,sI],[jK,iT,jK,iT,iT],[⟨.exit 0,[.s (.one (.d jK)),sI],[jK,iT]⟩],Pw.unc5 (Pw.j0j)⟩,
  ⟨2,[.s (.one (.ol 1002000)),.s (.one (.d jK)),sI,sI,.b (.lst 50 ar false)],[jK,iT,iT,ai],[⟨.exit 2,[.s (.one (.ol 1502300)),.b (.lst 50 ar false)],[ai]⟩],Pw.unc4 (Pw.j0k)⟩]
 keep:=[(0,⟨[0,3,9,10,11],[],[],[]⟩),
  (2,⟨[6,25,26,27],[],[⟨1002000,50,ar,[.slot 6],false⟩],[]⟩)]
 keepX:=[(0,.exit 0,⟨[0,3],[],[],[]⟩),
  (2,.exit 2,⟨[6],[],[⟨1502300,50,ar,[.slot 6],false⟩],[]⟩)]
 ro:=[true]
 bw:=[(143,(true,(.arr 50 (.arr 3 .unit))))]
 ks:=[9]
theorem jvy:BwK Tryz.prog 143 (true,(.arr 50 (.arr 3 .unit))):=
 jtE Tryz.grow143 (bt:=24) (by kernel_rfl) (by kernel_rfl) (by kernel_rfl) (by decide) (by decide)
theorem j7N:Con.OK Tryz.prog OG:=
 cOf aC aD j8q OG Tryz.func80 trivial (j9 (λh=>by kernel_rfl) (j9 (λh=>by kernel_rfl) trivial)) (j9 jvy trivial)
def OH:Con:=⟨19,[.v ai,.v ai],[ai,ai],⟨[.own 50 ai,.v iT],[]⟩,[ai,iT],Pw.unc2 Pw.je4⟩
def jpI:FnD where
 N:=57
 np:=2
 cs:=[yK,Ib,OG]
 ds:=[⟨0,[.s (.one (.ol 1000000)),.s (.one (.ol 1000001)),sI,sI,.b (.lst 4294967438 eZ false),.b (.lst 50 ar false)],[iT,iT,gT,ai],[⟨.ret,[.s (.one (.nil)),sI],[iT]⟩,⟨.exit 0,[.s (.one (.ol 1500100)),.b (.lst 4294967438 eZ false)],[gT]⟩],Pw.unc4 (Pw.j5c)⟩]
 modes:=[(78,[true]),(79,[false]),(80,[false])]
 keep:=[(0,⟨[6,22,23,24],[],[⟨1000000,4294967438,eZ,[.slot 6],false⟩,⟨1000001,50,ar,[.slot 22],false⟩],[]⟩)]
 keepX:=[(0,.ret,⟨[4,5],[],[],[]⟩),
  (0,.exit 0,⟨[6],[],[⟨1500100,4294967438,eZ,[.slot 6],false⟩],[]⟩)]
 ro:=[true,false]
theorem jos:Con.OK Tryz.prog OH:=
 cOf aC aD jpI OH Tryz.func19 (j9 Ez (j9 VR (j9 j7N trivial))) (j9 (λh=>by kernel_rfl) trivial)
def OI:Con:=⟨20,[.v ai,.v ai],[ai,ai],⟨[.v .bool],[]⟩,[.bool],Pw.unc2 Pw.jcg⟩
def jot:FnD where
 N:=26
 np:=2
 cs:=[]
 ds:=[⟨0,[.s (.one (.d ai)),.s (.one (.d ai)),sI,sI],[ai,ai,iT,iT],[⟨.ret,[.s (.one (.d .bool))],[.bool]⟩,⟨.exit 0,[],[]⟩],Pw.unc4 (Pw.j4w)⟩]
 keep:=[(0,⟨[0,1,12,13],[],[],[]⟩)]
 keepX:=[(0,.ret,⟨[4],[],[],[]⟩),
  (0,.exit 0,⟨[],[],[],[]⟩)]
 ro:=[false]
theorem jmE:Con.OK Tryz.prog OI:=
 cOf aC aD jot OI Tryz.func20 trivial (j9 (λh=>by kernel_rfl) trivial)
def VS:Con:=⟨3,[.v (.list iT),.v iT,.v iT],[(.list iT),iT,iT],⟨[.v .bool],[]⟩,[.bool],Pw.unc3 Pw.j8b⟩
def jhj:FnD where
 N:=119
 np:=3
 cs:=[MA,MI,MJ,pk,HX,MP,MQ,MR,OE,OH,OI]
 ds:=[]
 modes:=[(10,[false]),(11,[]),(12,[false]),(13,[false,false]),(14,[false]),(15,[false,false]),(16,[false,false]),(17,[false]),(18,[false,false,false,false,false,false]),(19,[false,false]),(20,[false,false])]
 ro:=[false]
theorem law17_LoadJoins_ok:Con.OK Tryz.prog VS:=
 cOf aC aD jhj VS Tryz.func3 (j9 jmc (j9 jmg (j9 jo6 (j9 rX (j9 Vz (j9 jfm (j9 jpC (j9 jeH (j9 jmD (j9 jos (j9 jmE trivial))))))))))) trivial
def Ic:Con:=⟨161,[.v iT,.v iT,.v iT],[iT,iT,iT],⟨[.v .bool],[]⟩,[.bool],Pw.unc3 Pw.jch⟩
def jvz:FnD where
 N:=15
 np:=3
 cs:=[]
 ds:=[]
 ro:=[false]
theorem VT:Con.OK Tryz.prog Ic:=
 cOf aC aD jvz Ic Tryz.func161 trivial trivial
def OJ:Con:=⟨162,[.v nQ],[nQ],⟨[.v .bool],[]⟩,[.bool],λh=>Pw.je5 h⟩
def jpJ:FnD where
 N:=38
 np:=1
 cs:=[Ic]
 ds:=[]
 modes:=[(161,[false,false,false])]
 ro:=[false]
theorem jov:Con.OK Tryz.prog OJ:=
 cOf aC aD jpJ OJ Tryz.func162 (j9 VT trivial) trivial
def OL:Con:=⟨352,[.v iT],[iT],⟨[.v .bool],[]⟩,[.bool],λh=>Pw.j1k h⟩
def jrO:FnD where
 N:=16
 np:=1
 cs:=[]
 ds:=[]
 ro:=[false]
theorem jpK:Con.OK Tryz.prog OL:=
 cOf aC aD jrO OL Tryz.func352 trivial trivial
def EO:Con:=⟨300,[.v iT,.v iT],[iT,iT],⟨[.v iT],[]⟩,[iT],Pw.unc2 Pw.jcQ⟩
def jrP:FnD where
 N:=23
 np:=2
 cs:=[OL]
 ds:=[]
 modes:=[(352,[false])]
 ro:=[false]
theorem OM:Con.OK Tryz.prog EO:=
 cOf aC aD jrP EO Tryz.func300 (j9 jpK trivial) trivial
def ON:Con:=⟨351,[.v ar],[ar],⟨[.v .bool],[]⟩,[.bool],λh=>Pw.jgh h⟩
def jpL:FnD where
 N:=36
 np:=1
 cs:=[EO]
 ds:=[]
 modes:=[(300,[false,false])]
 ro:=[false]
theorem jow:Con.OK Tryz.prog ON:=
 cOf aC aD jpL ON Tryz.func351 (j9 OM trivial) trivial
def OO:Con:=⟨298,[.v iT],[iT],⟨[.v iT],[]⟩,[iT],λh=>Pw.jil h⟩
def jrQ:FnD where
 N:=18
 np:=1
 cs:=[]
 ds:=[]
 ro:=[false]
theorem jpM:Con.OK Tryz.prog OO:=
 cOf aC aD jrQ OO Tryz.func298 trivial trivial
def OP:Con:=⟨299,[.v ar],[ar],⟨[.v iT,.v iT],[]⟩,[iT,iT],λh=>Pw.jma h⟩
def jtI:FnD where
 N:=29
 np:=1
 cs:=[EO,ON,OO]
 ds:=[⟨0,[.s (.one (.bp 64 0)),sI,sI,.b (.cell [.d iT,.d iT,.d iT] false)],[iT,iT,iT,iT,iT],[⟨.exit 0,[.s (.one (.bp 64 0)),sI,.b (.cell [.d iT,.d iT,.d iT] false)],[iT,iT,iT,iT]⟩],Pw.unc5 (Pw.j6k)⟩]
 modes:=[(298,[false]),(300,[false,false]),(351,[false])]
 keep:=[(0,⟨[1,4,5],[64],[],[]⟩)]
 keepX:=[(0,.exit 0,⟨[1,4],[64],[],[]⟩)]
 ro:=[false,false]
theorem gh:Con.OK Tryz.prog OP:=
 cOf aC aD jtI OP Tryz.func299 (j9 OM (j9 jow (j9 jpM trivial))) (j9 (λh=>by kernel_rfl) trivial)
def OQ:Con:=⟨191,[.v iT],[iT],⟨[.v iT],[]⟩,[iT],λh=>Pw.jfj h⟩
def jmF:FnD where
 N:=7
 np:=1
 cs:=[]
 ds:=[]
 ro:=[false]
theorem jku:Con.OK Tryz.prog OQ:=
 cOf aC aD jmF OQ Tryz.func191 trivial trivial
def OR:Con:=⟨239,[.v iT,.v iT,.v iT,.v iT],[iT,iT,iT,iT],⟨[.v iT,.v iT],[]⟩,[iT,iT],Pw.unc4 Pw.jmb⟩
def jtJ:FnD where
 N:=63
 np:=4
 cs:=[EO,OP,OQ]
 ds:=[⟨0,[sI,sI,sI,sI,sI,sI],[iT,iT,iT,iT,iT,iT],[⟨.exit 0,[sI,sI,sI,sI,sI],[iT,iT,iT,iT,iT]⟩],Pw.unc6 (Pw.j6l)⟩,
  ⟨2,[sI,sI,sI,sI],[iT,iT,iT,iT],[⟨.exit 2,[sI],[iT]⟩],Pw.unc4 (Pw.j6m)⟩]
 modes:=[(191,[false]),(299,[false]),(300,[false,false])]
 keep:=[(0,⟨[0,1,2,3,10,12],[],[],[]⟩),
  (2,⟨[0,1,10,12],[],[],[]⟩)]
 keepX:=[(0,.exit 0,⟨[0,1,2,10,12],[],[],[]⟩),
  (2,.exit 2,⟨[12],[],[],[]⟩)]
 ro:=[false,false]
theorem gi:Con.OK Tryz.prog OR:=
 cOf aC aD jtJ OR Tryz.func239 (j9 OM (j9 gh (j9 jku trivial))) (j9 (λh=>by kernel_rfl) (j9 (λh=>by kernel_rfl) trivial))
end Go.Proofs.Pk
