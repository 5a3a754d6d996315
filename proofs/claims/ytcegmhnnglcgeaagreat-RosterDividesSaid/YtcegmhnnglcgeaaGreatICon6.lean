/- Contracts: each given function is its plain function, printed by a program. -/
import Derived.Test.YtcegmhnnglcgeaaGreatICon5
noncomputable section
open Go Go.Lft
set_option linter.unusedVariables false
set_option maxRecDepth 100000
namespace Go.Proofs.Pk
def j8F:Con:=⟨20,[.v ty80,.v iT,.v iT,.v iT],[ty80,iT,iT,iT],⟨[.own 63 ty24,.v iT],[]⟩,[ty24,iT],fun h=>Pw.j7J h.1 h.2.1 h.2.2.1 h.2.2.2⟩
def jiP:FnD where
 N:=33
 np:=4
 cs:=[j4B,j6w]
 ds:=[⟨0,[sI,.s (.one (.bp 768 0)),.s (.one (.clo 96 [.p [ty24]])),.b (.cell [.ol 1000000] false),.b (.lst 63 ty20 false)],[iT,ty24,ty24],[⟨.normal,[.s (.one (.bp 768 0)),.b (.cell [.ol 1500050] false),.b (.lst 63 ty20 false)],[ty24]⟩],fun h=>Pw.j98 h.1 h.2.1 h.2.2⟩]
 modes:=[(15,[false,false,false,false]),(50,[false])]
 keep:=[(0,⟨[12,26],[768],[⟨1000000,63,ty20,[.cell 768 0],false⟩],[]⟩)]
 keepX:=[(0,.normal,⟨[12],[768],[⟨1500050,63,ty20,[.cell 768 0],false⟩],[]⟩)]
 ro:=[true,false]
 bw:=[(96,(true,ty20))]
theorem jta:ItOK Tryz.prog 96 true (ty20):=
 jwg j0i j03 Tryz.func96 (fn:=Tryz.f96) (by kernel_rfl) (by kernel_rfl) (by kernel_rfl) (by kernel_rfl) (by kernel_rfl) (by kernel_rfl) (by kernel_rfl) (by kernel_rfl) (by kernel_rfl) (by kernel_rfl) (by kernel_rfl) (by kernel_rfl)
  (fun xs i=>by kernel_rfl) (fun i=>by kernel_rfl) (fun xs i=>by kernel_rfl) (fun b i=>by kernel_rfl)
theorem ji6:Con.OK Tryz.prog j8F:=
 cOf j0i j03 jiP j8F Tryz.func20 (j9 j8E (j9 jd7 trivial)) (j9 (fun h=>by kernel_rfl) trivial) (j9 jta trivial)
def j9x:Con:=⟨80,[.v ty7],[ty7],⟨[.v iT],[]⟩,[iT],fun h=>Pw.j3I h⟩
def jkk:FnD where
 N:=10
 np:=1
 cs:=[j74]
 ds:=[]
 modes:=[(113,[false])]
 ro:=[false]
theorem jiQ:Con.OK Tryz.prog j9x:=
 cOf j0i j03 jkk j9x Tryz.func80 (j9 je3 trivial) trivial
def jeR:Con:=⟨79,[.v ty12,.v iT],[ty12,iT],⟨[.v .bool],[]⟩,[.bool],fun h=>Pw.jdw h.1 h.2⟩
def jrC:FnD where
 N:=24
 np:=2
 cs:=[]
 ds:=[⟨0,[sI,.s (.one (.d ty12)),sI,sI],[iT,ty12,iT,iT],[⟨.ret,[.s (.one (.d .bool))],[.bool]⟩,⟨.exit 0,[],[]⟩],fun h=>Pw.j69 h.1 h.2.1 h.2.2.1 h.2.2.2⟩]
 keep:=[(0,⟨[1,7,8,9],[],[],[]⟩)]
 keepX:=[(0,.ret,⟨[4],[],[],[]⟩),
  (0,.exit 0,⟨[],[],[],[]⟩)]
 ro:=[false]
theorem jpA:Con.OK Tryz.prog jeR:=
 cOf j0i j03 jrC jeR Tryz.func79 trivial (j9 (fun h=>by kernel_rfl) trivial)
def jar:Con:=⟨203,[.v ty82,.v ty68,.v iT],[ty82,ty68,iT],⟨[.v iT,.v .bool],[]⟩,[iT,.bool],fun h=>Pw.j4p h.1 h.2.1 h.2.2⟩
def jle:FnD where
 N:=79
 np:=3
 cs:=[j5r,j78,j2A,j9x,jeR]
 ds:=[]
 modes:=[(79,[false,false]),(80,[false]),(81,[false,false]),(90,[false,false]),(197,[false,false,false])]
 ro:=[false,false]
theorem jkl:Con.OK Tryz.prog jar:=
 cOf j0i j03 jle jar Tryz.func203 (j9 jbz (j9 je5 (j9 j5L (j9 jiQ (j9 jpA trivial))))) trivial
def j7v:Con:=⟨138,[.v ty82,.v ty68,.v iT],[ty82,ty68,iT],⟨[.v iT],[]⟩,[iT],fun h=>Pw.j24 h.1 h.2.1 h.2.2⟩
def jhh:FnD where
 N:=27
 np:=3
 cs:=[jar]
 ds:=[]
 modes:=[(203,[false,false,false])]
 ro:=[false]
theorem jgj:Con.OK Tryz.prog j7v:=
 cOf j0i j03 jhh j7v Tryz.func138 (j9 jkl trivial) trivial
def j9y:Con:=⟨205,[.v ty38,.ip [iT],.ip [iT]],[ty38,iT,iT],⟨[.v .bool],[]⟩,[.bool],fun h=>Pw.jdx h.1 h.2.1 h.2.2⟩
def jkm:FnD where
 N:=26
 np:=3
 cs:=[]
 ds:=[]
 ro:=[false]
theorem jiR:Con.OK Tryz.prog j9y:=
 cOf j0i j03 jkm j9y Tryz.func205 trivial trivial
def j2B:Con:=⟨257,[.v ty40,.clo 205 [.p [iT],.p [iT]]],[ty40,iT,iT],⟨[.v iT],[]⟩,[iT],fun h=>Pw.j0X h.1 h.2.1 h.2.2⟩
def j7O:FnD where
 N:=19
 np:=2
 cs:=[j9y]
 ds:=[⟨0,[.s (.one (.d ty40)),.s (.one (.clo 205 [.p [iT],.p [iT]])),sI,sI],[ty40,iT,iT,iT,iT],[⟨.ret,[sI],[iT]⟩,⟨.exit 0,[],[]⟩],fun h=>Pw.j0O h.1 h.2.1 h.2.2.1 h.2.2.2.1 h.2.2.2.2⟩]
 modes:=[(205,[false])]
 keep:=[(0,⟨[0,1,7,8],[],[],[]⟩)]
 keepX:=[(0,.ret,⟨[4],[],[],[]⟩),
  (0,.exit 0,⟨[],[],[],[]⟩)]
 ro:=[false]
theorem j7w:Con.OK Tryz.prog j2B:=
 cOf j0i j03 j7O j2B Tryz.func257 (j9 jiR trivial) (j9 (fun h=>by kernel_rfl) trivial)
def j2e:Con:=⟨204,[.v ty40,.clo 205 [.p [iT],.p [iT]]],[ty40,iT,iT],⟨[.v .bool],[]⟩,[.bool],fun h=>Pw.j0J h.1 h.2.1 h.2.2⟩
def j6V:FnD where
 N:=9
 np:=2
 cs:=[j2B]
 ds:=[]
 modes:=[(257,[false,false])]
 ro:=[false]
theorem j6x:Con.OK Tryz.prog j2e:=
 cOf j0i j03 j6V j2e Tryz.func204 (j9 j7w trivial) trivial
def jcB:Con:=⟨139,[.v ty73,.v iT,.v iT],[ty73,iT,iT],⟨[.v .bool],[]⟩,[.bool],fun h=>Pw.j9o h.1 h.2.1 h.2.2⟩
def jos:FnD where
 N:=11
 np:=3
 cs:=[j2e]
 ds:=[]
 modes:=[(204,[false,false])]
 ro:=[false]
theorem jmY:Con.OK Tryz.prog jcB:=
 cOf j0i j03 jos jcB Tryz.func139 (j9 j6x trivial) trivial
def j9z:Con:=⟨97,[.v ty82,.v ty73,.v iT],[ty82,ty73,iT],⟨[.v iT,.v iT],[]⟩,[iT,iT],fun h=>Pw.j3h h.1 h.2.1 h.2.2⟩
def jkn:FnD where
 N:=29
 np:=3
 cs:=[j1u,j7v,jcB]
 ds:=[⟨0,[sI,.s (.one (.bp 192 0)),.s (.one (.bp 256 0)),.s (.one (.bp 320 0)),.s (.one (.bp 384 0)),.s (.one (.bp 448 0)),.s (.one (.clo 194 [.p [ty69]])),.b (.cell [.d ty62,.d ty52,.d ty26,.d ty74,.d ty29] false),.b (.cell [.d .str,.d ty69,.d ty40] false),.b (.cell [.d iT] false),.b (.cell [.d iT] false),.b (.cell [.d iT] false)],[iT,ty69,ty62,ty52,ty26,ty74,ty29,.str,ty69,ty40,iT,iT,iT],[⟨.normal,[.s (.one (.bp 384 0)),.s (.one (.bp 448 0)),.b (.cell [.d iT] false),.b (.cell [.d iT] false)],[iT,iT]⟩,⟨.ret,[.s (.one (.bp 384 0)),.s (.one (.bp 448 0)),.b (.cell [.d iT] false),.b (.cell [.d iT] false)],[iT,iT]⟩],fun h=>Pw.j1W h.1 h.2.1 h.2.2.1 h.2.2.2.1 h.2.2.2.2.1 h.2.2.2.2.2.1 h.2.2.2.2.2.2.1 h.2.2.2.2.2.2.2.1 h.2.2.2.2.2.2.2.2.1 h.2.2.2.2.2.2.2.2.2.1 h.2.2.2.2.2.2.2.2.2.2.1 h.2.2.2.2.2.2.2.2.2.2.2.1 h.2.2.2.2.2.2.2.2.2.2.2.2⟩]
 modes:=[(125,[false]),(138,[false,false,false]),(139,[false,false,false])]
 keep:=[(0,⟨[3,4,5,6,7,13],[192,256,320,384,448],[],[]⟩)]
 keepX:=[(0,.normal,⟨[6,7],[384,448],[],[]⟩),
  (0,.ret,⟨[6,7],[384,448],[],[]⟩)]
 ro:=[false,false]
 bw:=[(194,(false,ty68))]
theorem jiS:Con.OK Tryz.prog j9z:=
 cOf j0i j03 jkn j9z Tryz.func97 (j9 j3Y (j9 jgj (j9 jmY trivial))) (j9 (fun h=>by kernel_rfl) trivial) (j9 jqJ trivial)
def j7P:Con:=⟨51,[.v ty82,.v ty73,.v iT],[ty82,ty73,iT],⟨[.v iT],[]⟩,[iT],fun h=>Pw.j5B h.1 h.2.1 h.2.2⟩
def jot:FnD where
 N:=27
 np:=3
 cs:=[jaN,j9z]
 ds:=[]
 modes:=[(91,[false,false,false]),(97,[false,false,false])]
 ro:=[false]
theorem jdJ:Con.OK Tryz.prog j7P:=
 cOf j0i j03 jot j7P Tryz.func51 (j9 jiC (j9 jiS trivial)) trivial
def jbC:Con:=⟨21,[.v ty80,.v iT,.v iT],[ty80,iT,iT],⟨[.v ty20,.v iT],[]⟩,[ty20,iT],fun h=>Pw.jbg h.1 h.2.1 h.2.2⟩
def jmZ:FnD where
 N:=67
 np:=3
 cs:=[j8z,j62,j6w,j7P]
 ds:=[⟨0,[sI,sI,.s (.one (.bp 192 0)),.s (.one (.bp 384 0)),.s (.one (.bp 448 0)),.s (.one (.bp 512 0)),sI,.s (.one (.ol 1000000)),.s (.one (.clo 96 [.p [ty24]])),.b (.cell [.d ty62,.d ty52,.d ty26,.d ty74] false),.b (.cell [.d iT,.d iT,.d iT] false),.b (.cell [.d iT] false),.b (.cell [.d ty62,.d ty52,.d ty26,.d ty74,.d ty29] false),.b (.lst 41 ty20 true)],[iT,iT,iT,ty24,ty62,ty52,ty26,ty74,iT,iT,iT,iT,ty62,ty52,ty26,ty74,ty29,ty24],[⟨.normal,[sI,.s (.one (.bp 192 0)),.s (.one (.bp 384 0)),.s (.one (.bp 448 0)),.s (.one (.bp 512 0)),sI,.s (.one (.ol 1500050)),.b (.cell [.d ty62,.d ty52,.d ty26,.d ty74] false),.b (.cell [.d iT,.d iT,.d iT] false),.b (.cell [.d iT] false),.b (.cell [.d ty62,.d ty52,.d ty26,.d ty74,.d ty29] false),.b (.lst 41 ty20 true)],[iT,iT,ty62,ty52,ty26,ty74,iT,iT,iT,iT,ty62,ty52,ty26,ty74,ty29,ty24]⟩,⟨.ret,[.s (.one (.bp 384 0)),.s (.one (.bp 448 0)),.b (.cell [.d iT,.d iT,.d iT] false),.b (.cell [.d iT] false)],[iT,iT,iT,iT]⟩],fun h=>Pw.jbf h.1 h.2.1 h.2.2.1 h.2.2.2.1 h.2.2.2.2.1 h.2.2.2.2.2.1 h.2.2.2.2.2.2.1 h.2.2.2.2.2.2.2.1 h.2.2.2.2.2.2.2.2.1 h.2.2.2.2.2.2.2.2.2.1 h.2.2.2.2.2.2.2.2.2.2.1 h.2.2.2.2.2.2.2.2.2.2.2.1 h.2.2.2.2.2.2.2.2.2.2.2.2.1 h.2.2.2.2.2.2.2.2.2.2.2.2.2.1 h.2.2.2.2.2.2.2.2.2.2.2.2.2.2.1 h.2.2.2.2.2.2.2.2.2.2.2.2.2.2.2.1 h.2.2.2.2.2.2.2.2.2.2.2.2.2.2.2.2.1 h.2.2.2.2.2.2.2.2.2.2.2.2.2.2.2.2.2⟩]
 modes:=[(45,[false,false,false,false]),(46,[false,false,false,false]),(50,[false]),(51,[false,false,false])]
 keep:=[(0,⟨[1,3,6,7,8,10,11,39],[192,384,448,512],[⟨1000000,41,ty20,[.slot 11],false⟩],[]⟩)]
 keepX:=[(0,.normal,⟨[1,3,6,7,8,10,11],[192,384,448,512],[⟨1500050,41,ty20,[.slot 11],false⟩],[]⟩),
  (0,.ret,⟨[6,7],[384,448],[],[]⟩)]
 ro:=[false,false]
 dw:=[(5,[[],[],[],[],[],[],[],[],[2368],[]])]
 bw:=[(96,(true,ty20))]
theorem jlf:Con.OK Tryz.prog jbC:=
 cOf j0i j03 jmZ jbC Tryz.func21 (j9 jfI (j9 jcf (j9 jd7 (j9 jdJ trivial)))) (j9 (fun h=>by kernel_rfl) trivial) (j9 jta trivial)
def j8G:Con:=⟨52,[.v ty24,.v iT],[ty24,iT],⟨[.own 118 ty12],[]⟩,[ty12],fun h=>Pw.j6i h.1 h.2⟩
def jiT:FnD where
 N:=29
 np:=2
 cs:=[j5h]
 ds:=[⟨0,[sI,.s (.one (.ol 1000000)),.s (.one (.d ty24)),sI,sI,.b (.lst 118 ty7 false)],[iT,ty24,iT,iT,ty12],[⟨.exit 0,[.s (.one (.ol 1500100)),.b (.lst 118 ty7 false)],[ty12]⟩],fun h=>Pw.j3r h.1 h.2.1 h.2.2.1 h.2.2.2.1 h.2.2.2.2⟩]
 modes:=[(98,[false])]
 keep:=[(0,⟨[1,5,8,9,10],[],[⟨1000000,118,ty7,[.slot 5],false⟩],[]⟩)]
 keepX:=[(0,.exit 0,⟨[5],[],[⟨1500100,118,ty7,[.slot 5],false⟩],[]⟩)]
 ro:=[true]
theorem ji7:Con.OK Tryz.prog j8G:=
 cOf j0i j03 jiT j8G Tryz.func52 (j9 j8C trivial) (j9 (fun h=>by kernel_rfl) trivial)
def j7X:Con:=⟨23,[.v ty80,.v iT,.v iT,.v iT,.v iT],[ty80,iT,iT,iT,iT],⟨[.own 118 ty12,.v iT],[]⟩,[ty12,iT],fun h=>Pw.j50 h.1 h.2.1 h.2.2.1 h.2.2.2.1 h.2.2.2.2⟩
def jlg:FnD where
 N:=33
 np:=5
 cs:=[j4B,j8G]
 ds:=[]
 modes:=[(15,[false,false,false,false]),(52,[false,false])]
 ro:=[true,false]
theorem jeS:Con.OK Tryz.prog j7X:=
 cOf j0i j03 jlg j7X Tryz.func23 (j9 j8E (j9 ji7 trivial)) trivial
def j9J:Con:=⟨27,[.v ty80,.v iT],[ty80,iT],⟨[.own 3 (.list iT)],[]⟩,[(.list iT)],fun h=>Pw.j73 h.1 h.2⟩
def jou:FnD where
 N:=33
 np:=2
 cs:=[jbs,j7P]
 ds:=[⟨0,[sI,.s (.one (.bp 320 0)),.s (.one (.ol 1000000)),.s (.one (.d ty74)),sI,sI,.b (.cell [.d ty62,.d ty52,.d ty26,.d ty74,.d ty29] false),.b (.lst 3 iT false)],[iT,ty74,iT,iT,ty62,ty52,ty26,ty74,ty29,(.list iT)],[⟨.exit 0,[.s (.one (.ol 1500100)),.b (.lst 3 iT false)],[(.list iT)]⟩],fun h=>Pw.j2I h.1 h.2.1 h.2.2.1 h.2.2.2.1 h.2.2.2.2.1 h.2.2.2.2.2.1 h.2.2.2.2.2.2.1 h.2.2.2.2.2.2.2.1 h.2.2.2.2.2.2.2.2.1 h.2.2.2.2.2.2.2.2.2⟩]
 modes:=[(51,[false,false,false]),(54,[false])]
 keep:=[(0,⟨[1,5,7,18,19,20],[320],[⟨1000000,3,iT,[.slot 7],false⟩],[]⟩)]
 keepX:=[(0,.exit 0,⟨[7],[],[⟨1500100,3,iT,[.slot 7],false⟩],[]⟩)]
 ro:=[true]
theorem jhi:Con.OK Tryz.prog j9J:=
 cOf j0i j03 jou j9J Tryz.func27 (j9 ji0 (j9 jdJ trivial)) (j9 (fun h=>by kernel_rfl) trivial)
def jeT:Con:=⟨49,[.v ty80,.v iT,.v iT],[ty80,iT,iT],⟨[.v iT],[]⟩,[iT],fun h=>Pw.jfi h.1 h.2.1 h.2.2⟩
def jrD:FnD where
 N:=30
 np:=3
 cs:=[jbs,j8y,j7P]
 ds:=[]
 modes:=[(51,[false,false,false]),(54,[false]),(87,[false,false])]
 ro:=[false]
theorem jpB:Con.OK Tryz.prog jeT:=
 cOf j0i j03 jrD jeT Tryz.func49 (j9 ji0 (j9 jfH (j9 jdJ trivial))) trivial
def j9K:Con:=⟨19,[.v ty80,.v iT,.v iT],[ty80,iT,iT],⟨[.v iT],[]⟩,[iT],fun h=>Pw.j5C h.1 h.2.1 h.2.2⟩
def jov:FnD where
 N:=11
 np:=3
 cs:=[jeT]
 ds:=[]
 modes:=[(49,[false,false,false])]
 ro:=[false]
theorem jhj:Con.OK Tryz.prog j9K:=
 cOf j0i j03 jov j9K Tryz.func19 (j9 jpB trivial) trivial
def jcC:Con:=⟨10,[],[],⟨[.v .bool],[]⟩,[.bool],fun h=>Pw.j9p⟩
def jow:FnD where
 N:=93
 np:=0
 cs:=[j9q,j4B,j8F,jbC,j7X,j9J,j9K]
 ds:=[]
 modes:=[(15,[false,false,false,false]),(19,[false,false,false]),(20,[false,false,false,false]),(21,[false,false,false]),(23,[false,false,false,false,false]),(27,[false,false]),(37,[])]
 ro:=[false]
theorem jn0:Con.OK Tryz.prog jcC:=
 cOf j0i j03 jow jcC Tryz.func10 (j9 jiH (j9 j8E (j9 ji6 (j9 jlf (j9 jeS (j9 jhi (j9 jhj trivial))))))) trivial
def jdK:Con:=⟨11,[.v (.list iT)],[(.list iT)],⟨[.box [(.list iT),iT]],[]⟩,[(.list iT),iT],fun h=>Pw.jk2 h⟩
def jpC:FnD where
 N:=6
 np:=1
 cs:=[]
 ds:=[]
 ro:=[false]
theorem jox:Con.OK Tryz.prog jdK:=
 cOf j0i j03 jpC jdK Tryz.func11 trivial trivial
def j17:Con:=⟨22,[.ref [(.list iT),iT],.v iT],[(.list iT),iT,iT],⟨[.v iT],[.ref [(.list iT),iT]]⟩,[iT,(.list iT),iT],fun h=>Pw.j04 h.1 h.2.1 h.2.2⟩
def jiU:FnD where
 N:=45
 np:=2
 cs:=[]
 ds:=[]
 ro:=[false]
theorem j25:Con.OK Tryz.prog j17:=
 cOf j0i j03 jiU j17 Tryz.func22 trivial trivial
end Go.Proofs.Pk
