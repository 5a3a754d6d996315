/- cB: each given function is its plain function, printed by a program. -/
import Derived.Test.YtgfoijaggkhgnaaGreatLXCon6
open Bool renaming false->e,true->j
open _root_ renaming trivial->i
noncomputable section
open Go Go.Lft
set_option linter.unusedVariables false
set_option maxRecDepth 100000
namespace Go.Proofs.Pk
def RS:Con:=⟨122,[.v iw,.v iT],[iw,iT],⟨[.v .bool],[]⟩,[.bool],Pw.unc2 Pw.jjL⟩
def jrH:FnD where
 N:=15
 np:=2
theorem jpr:aG RS:=
 cOf aJ aK jrH RS Tryz.func122 i i
def RT:Con:=⟨84,[.v bL,.v iT,.v iT],[bL,iT,iT],⟨[.v iT],[]⟩,[iT],Pw.unc3 Pw.jkM⟩
def jvm:FnD where
 N:=51
 np:=3
 cs:=[RS]
 ds:=[⟨0,[sI,sI,sD bL,sI,sI],[iT,iT,bL,iT,iT],[⟨.exit 0,[sI],[iT]⟩],Pw.unc5 (Pw.j5X)⟩]
 keep:=[(0,⟨[1,2,9,10,11],[],[],[]⟩)]
 keepX:=[(0,.exit 0,⟨[1],[],[],[]⟩)]
theorem jtI:aG RT:=
 cOf aJ aK jvm RT Tryz.func84 (ja jpr i) (ja (λh=>by kernel_rfl) i)
def RU:Con:=⟨59,[.v gv,.v dA,.v iT,.v iT],[gv,dA,iT,iT],⟨[.own 103 ak],[]⟩,[ak],Pw.unc4 Pw.j7F⟩
def jm6:FnD where
 N:=88
 np:=4
 cs:=[Rm,Hd,RN,RR,RT]
 ds:=[⟨0,[sI,sI,sB 256 0,sB 320 0,sO 1000000,sD bL,sI,sI,.b (.cell [.d ay,.d aB,.d aA,.d aF,.d iv] e),.b (.cell [.d .str,.d bS,.d bL] e),.b (.lst 3 iT e)],[iT,iT,bL,iT,iT,ay,aB,aA,aF,iv,.str,bS,bL,(.list iT)],[⟨.exit 0,[sI,sI,sB 256 0,sB 320 0,sO 1500100,.b (.cell [.d ay,.d aB,.d aA,.d aF,.d iv] e),.b (.cell [.d .str,.d bS,.d bL] e),.b (.lst 3 iT e)],[iT,iT,ay,aB,aA,aF,iv,.str,bS,bL,(.list iT)]⟩],Pw.u8 Pw.unc6 (Pw.j2C)⟩,⟨2,[sB 320 0,sO 1002000,sO 1002001,sO 1002002,sI,sI,.b (.cell [.d .str,.d bS,.d bL] e),.b (.lst 3 iT e),.b (.lst 103 aw e),.b (.lst 103 aw e)],[iT,iT,.str,bS,bL,(.list iT),ak,ak],[⟨.exit 2,[sO 1502300,.b (.lst 103 aw e)],[ak]⟩],Pw.unc8 (Pw.j2E)⟩,⟨4,[sB 320 0,sO 1004000,sO 1004001,sB 960 0,sI,sI,sO 1004002,sI,sI,.b (.cell [.d .str,.d bS,.d bL] e),.b (.cell [.d iT,.d iT,.d iT] e),.b (.lst 3 iT e),.b (.lst 103 aw e),.b (.lst 103 aw e)],[iT,iT,iT,iT,.str,bS,bL,iT,iT,iT,(.list iT),ak,ak],[⟨.exit 4,[sB 320 0,sO 1504500,sO 1504501,sO 1504502,sI,sI,.b (.cell [.d .str,.d bS,.d bL] e),.b (.lst 3 iT e),.b (.lst 103 aw e),.b (.lst 103 aw e)],[iT,iT,.str,bS,bL,(.list iT),ak,ak]⟩],Pw.u8 Pw.unc5 (Pw.j2D)⟩]
 keep:=[(0,⟨[2,3,4,5,9,21,22,23],[256,320],[⟨1000000,3,iT,[.slot 9],e⟩],[]⟩),(2,⟨[5,12,13,43,44,45],[320],[⟨1002000,3,iT,[.slot 12],e⟩,⟨1002001,103,aw,[.slot 13],e⟩,⟨1002002,103,aw,[.slot 43],e⟩],[]⟩),(4,⟨[5,12,13,15,16,18,43,44,45],[320,960],[⟨1004000,3,iT,[.slot 12],e⟩,⟨1004001,103,aw,[.slot 13],e⟩,⟨1004002,103,aw,[.slot 43],e⟩],[]⟩)]
 keepX:=[(0,.exit 0,⟨[2,3,4,5,9],[256,320],[⟨1500100,3,iT,[.slot 9],e⟩],[]⟩),(2,.exit 2,⟨[13],[],[⟨1502300,103,aw,[.slot 13],e⟩],[]⟩),(4,.exit 4,⟨[5,12,13,43,44,45],[320],[⟨1504500,3,iT,[.slot 12],e⟩,⟨1504501,103,aw,[.slot 13],e⟩,⟨1504502,103,aw,[.slot 43],e⟩],[]⟩)]
 ro:=[j]
theorem jln:aG RU:=
 cOf aJ aK jm6 RU Tryz.func59 (ja jtD (ja RF (ja jkc (ja jbR (ja jtI i))))) (ja (λh=>by kernel_rfl) (ja (λh=>by kernel_rfl) (ja (λh=>by kernel_rfl) i)))
def RW:Con:=⟨39,[.v bh,.v iT,.v iT,.v iT],[bh,iT,iT,iT],⟨[.own 103 ak,.v iT],[]⟩,[ak,iT],Pw.unc4 Pw.j3r⟩
def jm7:FnD where
 N:=37
 np:=4
 cs:=[Ri,RU]
 ro:=[j,e]
 dw:=[(4,[[],[],[],[],[],[],[],[],[2048],[]])]
theorem jlo:aG RW:=
 cOf aJ aK jm7 RW Tryz.func39 (ja jph (ja jln i)) i
def RX:Con:=⟨44,[.v ak,.v iT],[ak,iT],⟨[.own 113 ag],[]⟩,[ag],Pw.unc2 Pw.j8K⟩
def jmZ:FnD where
 N:=29
 np:=2
 cs:=[Bg]
 ds:=[⟨0,[sI,sO 1000000,sD ak,sI,sI,.b (.lst 113 aN e)],[iT,ak,iT,iT,ag],[⟨.exit 0,[sO 1500100,.b (.lst 113 aN e)],[ag]⟩],Pw.unc5 (Pw.j2Z)⟩]
 keep:=[(0,⟨[1,5,8,9,10],[],[⟨1000000,113,aN,[.slot 5],e⟩],[]⟩)]
 keepX:=[(0,.exit 0,⟨[5],[],[⟨1500100,113,aN,[.slot 5],e⟩],[]⟩)]
 ro:=[j]
theorem jm8:aG RX:=
 cOf aJ aK jmZ RX Tryz.func44 (ja Hb i) (ja (λh=>by kernel_rfl) i)
def RY:Con:=⟨42,[.v ag],[ag],⟨[.v iT],[]⟩,[iT],λh=>Pw.jg9 h⟩
def jrI:FnD where
 N:=21
 np:=1
 ds:=[⟨0,[sI,sD ag,sI,sI],[iT,ag,iT,iT],[⟨.exit 0,[sI],[iT]⟩],Pw.unc4 (Pw.j4A)⟩]
 keep:=[(0,⟨[3,6,7,8],[],[],[]⟩)]
 keepX:=[(0,.exit 0,⟨[3],[],[],[]⟩)]
theorem jps:aG RY:=
 cOf aJ aK jrI RY Tryz.func42 i (ja (λh=>by kernel_rfl) i)
def KP:Con:=⟨45,[.rl 4294967397 iI],[iI],⟨[.own 56 ak],[.rl iI]⟩,[ak,iI],λh=>Pw.jaN h⟩
def jrJ:FnD where
 N:=22
 np:=1
 ds:=[⟨0,[sO 0,sO 1000000,sO 1000001,sI,sI,.b (.lst 4294967397 fI e),.b (.lst 56 aw e),.b (.lst 3 iT e)],[iT,iT,iI,ak,(.list iT)],[⟨.exit 0,[sO 1500100,.b (.lst 4294967397 fI e),.b (.lst 56 aw e)],[iI,ak]⟩],Pw.unc5 (Pw.j4B)⟩]
 keep:=[(0,⟨[0,3,8,9,10],[0],[⟨1000000,56,aw,[.slot 3],e⟩,⟨1000001,3,iT,[.slot 8],e⟩],[]⟩)]
 keepX:=[(0,.exit 0,⟨[3],[0],[⟨1500100,56,aw,[.slot 3],e⟩],[]⟩)]
 ro:=[j]
 bw:=[(63,(j,(.arr 64 (.arr 3 .bool))))]
 ks:=[2]
theorem jFl:BwK Tryz.prog 63 (j,(.arr 64 (.arr 3 .bool))):=
 jAk Tryz.keys64 Tryz.sorted63 Tryz.sort96 (by kernel_rfl) (by kernel_rfl) (by kernel_rfl) (by kernel_rfl)
theorem _A:aG KP:=
 cOf aJ aK jrJ KP Tryz.func45 i (ja (λh=>by kernel_rfl) i) (ja jFl i)
def Qt:Con:=⟨14,[.v bh,.v iT,.v iT,.v iT,.v iT,.v bG],[bh,iT,iT,iT,iT,bG],⟨[.own 56 ak,.v iT],[]⟩,[ak,iT],Pw.unc6 Pw.jaO⟩
def jtJ:FnD where
 N:=132
 np:=6
 cs:=[KL,KV,K4,K5,RW,RX,RY,KP]
 ds:=[⟨1,[sI,sI,sD bG,sO 1001000,sB 1024 0,sO 1001001,sO 1001000,sI,sI,.b (.cell [.d iT,.d ag] e),.b (.lst 103 aw e),.b (.lst 4294967397 fI e)],[iT,iT,bG,iT,iT,iT,ag,ak,iI],[⟨.exit 1,[sI,sI,sD bG,sO 1501200,sB 1024 0,sO 1501201,.b (.cell [.d iT,.d ag] e),.b (.lst 103 aw e),.b (.lst 4294967397 fI e)],[iT,iT,bG,iT,ag,ak,iI]⟩],Pw.unc9 (Pw.j51)⟩,⟨3,[sI,sI,sO 1003000,sB 1024 0,sO 1003001,sD bG,sI,sI,.b (.cell [.d iT,.d ag] e),.b (.lst 103 aw e),.b (.lst 4294967397 fI e)],[iT,iT,bG,iT,iT,iT,ag,ak,iI],[⟨.exit 3,[sO 1503400,.b (.lst 4294967397 fI e)],[iI]⟩],Pw.unc9 (Pw.j52)⟩,⟨5,[],[],[],λ_=>none⟩]
 modes:=[(45,[j])]
 keep:=[(1,⟨[2,3,5,14,16,18,63,64,65],[1024],[⟨1001000,103,aw,[.slot 14,.slot 63],e⟩,⟨1001001,4294967397,fI,[.slot 18],e⟩],[]⟩),(3,⟨[2,3,14,16,18,92,93,94],[1024],[⟨1003000,103,aw,[.slot 14],e⟩,⟨1003001,4294967397,fI,[.slot 18],e⟩],[]⟩),(5,⟨[2,3,14,16,18,23,24,92,93,94],[1024,1472],[⟨1005000,103,aw,[.slot 14],e⟩,⟨1005002,113,aN,[.slot 24],e⟩,⟨1005001,4294967397,fI,[.slot 18],e⟩],[]⟩)]
 keepX:=[(1,.exit 1,⟨[2,3,5,14,16,18],[1024],[⟨1501200,103,aw,[.slot 14],e⟩,⟨1501201,4294967397,fI,[.slot 18],e⟩],[]⟩),(3,.exit 3,⟨[18],[],[⟨1503400,4294967397,fI,[.slot 18],e⟩],[]⟩)]
 ro:=[j,e]
 dw:=[(24,[[],[],[],[],[],[],[],[7616],[],[7744],[],[],[],[],[1664]])]
 ms:=[⟨5,18,1005001,[sI,sI,sO 1005000,sB 1024 0,sO 1005001,sB 1472 0,sO 1005002,sD bG,sI,sI,.b (.cell [.d iT,.d ag] e),.b (.cell [.d iT,.d iT,.d iT] e),.b (.lst 103 aw e),.b (.lst 113 aN e),.b (.lst 4294967397 fI e)],[iT,iT,bG,iT,iT,iT,ag,iT,iT,iT,ak,ag,iI],4294967397,aw,λh q z R k=>Pw.jcB h.1 h.2.1 h.2.2.1 h.2.2.2.1 h.2.2.2.2.1 h.2.2.2.2.2.1 h.2.2.2.2.2.2.1 h.2.2.2.2.2.2.2.1 h.2.2.2.2.2.2.2.2.1 h.2.2.2.2.2.2.2.2.2.1 h.2.2.2.2.2.2.2.2.2.2.1 h.2.2.2.2.2.2.2.2.2.2.2.1 h.2.2.2.2.2.2.2.2.2.2.2.2 q z k⟩]
theorem jrK:aG Qt:=
 cOf aJ aK jtJ Qt Tryz.func14 (ja _w (ja _F (ja _P (ja _Q (ja jlo (ja jm8 (ja jps (ja _A i)))))))) (ja (λh=>by kernel_rfl) (ja (λh=>by kernel_rfl) (ja (λh=>by kernel_rfl) i))) (hms:=(ja ⟨by kernel_rfl,λh zs=>by kernel_rfl,λh zs=>by kernel_rfl,λh zs q z R k=>by kernel_rfl⟩ i))
def RZ:Con:=⟨267,[.v (.int .u8)],[(.int .u8)],⟨[.v .bool],[]⟩,[.bool],λh=>Pw.joa h⟩
def jvn:FnD where
 N:=9
 np:=1
theorem jtK:aG RZ:=
 cOf aJ aK jvn RZ Tryz.func267 i i
def R0:Con:=⟨242,[.v .str],[.str],⟨[.v .bool],[]⟩,[.bool],λh=>Pw.jne h⟩
def jyq:FnD where
 N:=57
 np:=1
 cs:=[RZ]
 ds:=[⟨0,[sD .str,sI],[.str,iT],[⟨.ret,[sD .bool],[.bool]⟩,⟨.exit 0,[],[]⟩],Pw.unc2 (Pw.j6F)⟩]
 keep:=[(0,⟨[0,3],[],[],[]⟩)]
 keepX:=[(0,.ret,⟨[2],[],[],[]⟩)]
theorem jvo:aG R0:=
 cOf aJ aK jyq R0 Tryz.func242 (ja jtK i) (ja (λh=>by kernel_rfl) i)
def C6:Con:=⟨189,[.v (.list .str),.v iT],[(.list .str),iT],⟨[.v iT],[]⟩,[iT],Pw.unc2 Pw.jcC⟩
def jyr:FnD where
 N:=26
 np:=2
 cs:=[R0]
 ds:=[⟨0,[sD (.list .str),sI,sI],[(.list .str),iT,iT],[⟨.ret,[sI],[iT]⟩,⟨.exit 0,[],[]⟩],Pw.unc3 (Pw.j6G)⟩]
 keep:=[(0,⟨[0,1,5],[],[],[]⟩)]
 keepX:=[(0,.ret,⟨[4],[],[],[]⟩)]
theorem K6:aG C6:=
 cOf aJ aK jyr C6 Tryz.func189 (ja jvo i) (ja (λh=>by kernel_rfl) i)
def xW:Con:=⟨102,[.v iT,.v iT,.v iT],[iT,iT,iT],⟨[.v .bool],[]⟩,[.bool],Pw.unc3 Pw.ja3⟩
def jCP:FnD where
 N:=15
 np:=3
theorem C7:aG xW:=
 cOf aJ aK jCP xW Tryz.func102 i i
def R1:Con:=⟨103,[.v ph],[ph],⟨[.v .bool],[]⟩,[.bool],λh=>Pw.jhK h⟩
def jvp:FnD where
 N:=38
 np:=1
 cs:=[xW]
theorem jtL:aG R1:=
 cOf aJ aK jvp R1 Tryz.func103 (ja C7 i) i
def R2:Con:=⟨250,[.v iT],[iT],⟨[.v .bool],[]⟩,[.bool],λh=>Pw.j1o h⟩
def jys:FnD where
 N:=16
 np:=1
theorem jvq:aG R2:=
 cOf aJ aK jys R2 Tryz.func250 i i
def He:Con:=⟨203,[.v iT,.v iT],[iT,iT],⟨[.v iT],[]⟩,[iT],Pw.unc2 Pw.jga⟩
def jyt:FnD where
 N:=23
 np:=2
 cs:=[R2]
theorem R3:aG He:=
 cOf aJ aK jyt He Tryz.func203 (ja jvq i) i
def R4:Con:=⟨249,[.v aw],[aw],⟨[.v .bool],[]⟩,[.bool],λh=>Pw.jkN h⟩
def jvr:FnD where
 N:=36
 np:=1
 cs:=[He]
theorem jtM:aG R4:=
 cOf aJ aK jvr R4 Tryz.func249 (ja R3 i) i
def K7:Con:=⟨243,[.v iT],[iT],⟨[.v iT],[]⟩,[iT],λh=>Pw.jkO h⟩
def jyu:FnD where
 N:=18
 np:=1
theorem _S:aG K7:=
 cOf aJ aK jyu K7 Tryz.func243 i i
def R5:Con:=⟨202,[.v aw],[aw],⟨[.v iT,.v iT],[]⟩,[iT,iT],λh=>Pw.jra h⟩
def jAy:FnD where
 N:=29
 np:=1
 cs:=[He,R4,K7]
 ds:=[⟨0,[sB 64 0,sI,sI,.b (.cell [.d iT,.d iT,.d iT] e)],[iT,iT,iT,iT,iT],[⟨.exit 0,[sB 64 0,sI,.b (.cell [.d iT,.d iT,.d iT] e)],[iT,iT,iT,iT]⟩],Pw.unc5 (Pw.j7G)⟩]
 keep:=[(0,⟨[1,4,5],[64],[],[]⟩)]
 keepX:=[(0,.exit 0,⟨[1,4],[64],[],[]⟩)]
theorem gN:aG R5:=
 cOf aJ aK jAy R5 Tryz.func202 (ja R3 (ja jtM (ja _S i))) (ja (λh=>by kernel_rfl) i)
def K8:Con:=⟨143,[.v iT],[iT],⟨[.v iT],[]⟩,[iT],λh=>Pw.jdh h⟩
def jrL:FnD where
 N:=7
 np:=1
theorem _T:aG K8:=
 cOf aJ aK jrL K8 Tryz.func143 i i
def R6:Con:=⟨142,[.v iT,.v iT,.v iT,.v iT],[iT,iT,iT,iT],⟨[.v iT,.v iT],[]⟩,[iT,iT],Pw.unc4 Pw.jrb⟩
def jAz:FnD where
 N:=63
 np:=4
 cs:=[He,R5,K8]
 ds:=[⟨0,[sI,sI,sI,sI,sI,sI],[iT,iT,iT,iT,iT,iT],[⟨.exit 0,[sI,sI,sI,sI,sI],[iT,iT,iT,iT,iT]⟩],Pw.unc6 (Pw.j7H)⟩,⟨2,[sI,sI,sI,sI],[iT,iT,iT,iT],[⟨.exit 2,[sI],[iT]⟩],Pw.unc4 (Pw.j7I)⟩]
 keep:=[(0,⟨[0,1,2,3,10,12],[],[],[]⟩),(2,⟨[0,1,10,12],[],[],[]⟩)]
 keepX:=[(0,.exit 0,⟨[0,1,2,10,12],[],[],[]⟩),(2,.exit 2,⟨[12],[],[],[]⟩)]
theorem gO:aG R6:=
 cOf aJ aK jAz R6 Tryz.func142 (ja R3 (ja gN (ja _T i))) (ja (λh=>by kernel_rfl) (ja (λh=>by kernel_rfl) i))
end Go.Proofs.Pk
