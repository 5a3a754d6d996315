/- cB: each given function is its plain function, printed by a program. -/
import Derived.Test.YtkoifkkadkmecaaGreatLRCon6
open Bool renaming false->e,true->j
open _root_ renaming trivial->i
noncomputable section
open Go Go.Lft
set_option linter.unusedVariables false
set_option maxRecDepth 100000
namespace Go.Proofs.Pk
def Q6:Con:=⟨49,[.ref [(.list iT),iT],.v .str],[(.list iT),iT,.str],⟨[.v br],[.ref [(.list iT),iT]]⟩,[br,(.list iT),iT],Pw.unc3 Pw.j58⟩
def jn7:FnD where
 N:=98
 np:=2
 cs:=[sg,yP]
 dw:=[(7,[[],[],[0],[],[],[0],[],[0],[],[],[],[],[0],[],[],[],[],[],[],[0],[],[],[3968],[0,3968],[],[0],[],[0],[],[],[],[],[4608],[],[320]]),(9,[[],[],[],[5056],[0,5056],[],[]])]
theorem jmj:aH Q6:=
 cOf aK aM jn7 Q6 Tryz.func49 (ja uX (ja CR i)) i
def KC:Con:=⟨20,[],[],⟨[.own 9 (.list .str)],[]⟩,[(.list .str)],λh=>Pw.jj7⟩
def jty:FnD where
 N:=2
 np:=0
 ro:=[j]
theorem _j:aH KC:=
 cOf aK aM jty KC Tryz.func20 i i
def CS:Con:=⟨22,[.ref [(.list iT),iT],.v iT],[(.list iT),iT,iT],⟨[.v .bool],[.ref [(.list iT),iT]]⟩,[.bool,(.list iT),iT],Pw.unc3 Pw.j1f⟩
def jn8:FnD where
 N:=11
 np:=2
 cs:=[sg]
theorem KD:aH CS:=
 cOf aK aM jn8 CS Tryz.func22 (ja uX i) i
def KE:Con:=⟨50,[.ref [(.list iT),iT]],[(.list iT),iT],⟨[.own 115 aa],[.ref [(.list iT),iT]]⟩,[aa,(.list iT),iT],Pw.unc2 Pw.j5d⟩
def jku:FnD where
 N:=38
 np:=1
 cs:=[sg,yP]
 ds:=[⟨0,[sB 0 0,sO 1000000,sI,sI,.b (.cell [.d (.list iT),.d iT] e),.b (.lst 115 aO e)],[iT,iT,(.list iT),iT,aa],[⟨.exit 0,[sO 1500100,.b (.cell [.d (.list iT),.d iT] e),.b (.lst 115 aO e)],[(.list iT),iT,aa]⟩],Pw.unc5 (Pw.j2I)⟩]
 keep:=[(0,⟨[0,3,4,5],[0],[⟨1000000,115,aO,[.slot 3],e⟩],[]⟩)]
 keepX:=[(0,.exit 0,⟨[3],[0],[⟨1500100,115,aO,[.slot 3],e⟩],[]⟩)]
 ro:=[j]
theorem _k:aH KE:=
 cOf aK aM jku KE Tryz.func50 (ja uX (ja CR i)) (ja (λh=>by kernel_rfl) i)
def Q7:Con:=⟨18,[.ref [(.list iT),iT]],[(.list iT),iT],⟨[.vn bk [3]],[.ref [(.list iT),iT]]⟩,[bk,(.list iT),iT],Pw.unc2 Pw.jaR⟩
def jmk:FnD where
 N:=109
 np:=1
 cs:=[sg,yP,Q6,KC,CS,KE]
 ds:=[⟨0,[sB 0 0,sB 128 0,sB 192 0,sI,.b (.cell [.d (.list iT),.d iT] e),.b (.cell [.nil,.nil,.nil,.nil] e),.b (.cell [.ol 1000000,.nil,.nil,.nil] e),.b (.lst 49 br e)],[iT,(.list iT),iT,ax],[⟨.exit 0,[sB 0 0,sB 128 0,sB 192 0,.b (.cell [.d (.list iT),.d iT] e),.b (.cell [.nil,.nil,.nil,.nil] e),.b (.cell [.ol 1500100,.nil,.nil,.nil] e),.b (.lst 49 br e)],[(.list iT),iT,ax]⟩],Pw.unc4 (Pw.j3m)⟩,⟨2,[sB 0 0,sB 128 0,sB 192 0,sI,.b (.cell [.d (.list iT),.d iT] e),.b (.cell [.nil,.nil,.nil,.nil] e),.b (.cell [.ol 1002000,.ol 1002001,.nil,.nil] e),.b (.lst 49 br e),.b (.lst 52 gu e)],[iT,(.list iT),iT,ax,az],[⟨.exit 2,[sB 0 0,sB 128 0,sB 192 0,.b (.cell [.d (.list iT),.d iT] e),.b (.cell [.nil,.nil,.nil,.nil] e),.b (.cell [.ol 1502300,.ol 1502301,.nil,.nil] e),.b (.lst 49 br e),.b (.lst 52 gu e)],[(.list iT),iT,ax,az]⟩],Pw.unc5 (Pw.j3n)⟩,⟨4,[sB 0 0,sB 128 0,sB 192 0,sI,.b (.cell [.d (.list iT),.d iT] e),.b (.cell [.nil,.nil,.nil,.nil] e),.b (.cell [.ol 1004000,.ol 1004001,.ol 1004002,.nil] e),.b (.lst 49 br e),.b (.lst 52 gu e),.b (.lst 122 fE e)],[iT,(.list iT),iT,ax,az,ay],[⟨.exit 4,[sB 128 0,sB 192 0,.b (.cell [.d (.list iT),.d iT] e),.b (.cell [.nil,.nil,.nil,.nil] e),.b (.cell [.ol 1504500,.ol 1504501,.ol 1504502,.nil] e),.b (.lst 49 br e),.b (.lst 52 gu e),.b (.lst 122 fE e)],[(.list iT),iT,ax,az,ay]⟩],Pw.unc6 (Pw.j2l)⟩,⟨6,[sB 0 0,sB 128 0,sB 192 0,sI,sB 512 0,sI,sI,.b (.cell [.d (.list iT),.d iT] e),.b (.cell [.nil,.nil,.nil,.nil] e),.b (.cell [.ol 1006000,.ol 1006001,.ol 1006002,.nil] e),.b (.cell [.d .str,.d iT,.ol 1006003] e),.b (.lst 49 br e),.b (.lst 52 gu e),.b (.lst 122 fE e),.b (.lst 3 iT e)],[iT,iT,iT,(.list iT),iT,.str,iT,ax,az,ay,(.list iT)],[⟨.exit 6,[sB 0 0,sB 128 0,sB 192 0,sI,sB 512 0,.b (.cell [.d (.list iT),.d iT] e),.b (.cell [.nil,.nil,.nil,.nil] e),.b (.cell [.ol 1506700,.ol 1506701,.ol 1506702,.nil] e),.b (.cell [.d .str,.d iT,.ol 1506703] e),.b (.lst 49 br e),.b (.lst 52 gu e),.b (.lst 122 fE e),.b (.lst 3 iT e)],[iT,(.list iT),iT,.str,iT,ax,az,ay,(.list iT)]⟩],Pw.u8 Pw.unc3 (Pw.j3o)⟩]
 keep:=[(0,⟨[0,2,3,4],[0,128,192],[⟨1000000,49,br,[.cell 192 0],e⟩],[]⟩),(2,⟨[0,2,3,5],[0,128,192],[⟨1002000,49,br,[.cell 192 0],e⟩,⟨1002001,52,gu,[.cell 192 1],e⟩],[]⟩),(4,⟨[0,2,3,7],[0,128,192],[⟨1004000,49,br,[.cell 192 0],e⟩,⟨1004001,52,gu,[.cell 192 1],e⟩,⟨1004002,122,fE,[.cell 192 2],e⟩],[]⟩),(6,⟨[0,2,3,7,8,9,10],[0,128,192,512],[⟨1006000,49,br,[.cell 192 0],e⟩,⟨1006001,52,gu,[.cell 192 1],e⟩,⟨1006002,122,fE,[.cell 192 2],e⟩,⟨1006003,3,iT,[.cell 512 2],e⟩],[]⟩)]
 keepX:=[(0,.exit 0,⟨[0,2,3],[0,128,192],[⟨1500100,49,br,[.cell 192 0],e⟩],[]⟩),(2,.exit 2,⟨[0,2,3],[0,128,192],[⟨1502300,49,br,[.cell 192 0],e⟩,⟨1502301,52,gu,[.cell 192 1],e⟩],[]⟩),(4,.exit 4,⟨[2,3],[0,128,192],[⟨1504500,49,br,[.cell 192 0],e⟩,⟨1504501,52,gu,[.cell 192 1],e⟩,⟨1504502,122,fE,[.cell 192 2],e⟩],[]⟩),(6,.exit 6,⟨[0,2,3,7,8],[0,128,192,512],[⟨1506700,49,br,[.cell 192 0],e⟩,⟨1506701,52,gu,[.cell 192 1],e⟩,⟨1506702,122,fE,[.cell 192 2],e⟩,⟨1506703,3,iT,[.cell 512 2],e⟩],[]⟩)]
 dw:=[(5,[[],[],[],[1344],[],[],[],[],[],[0],[1792],[1856,1000000],[],[192]]),(9,[[2432],[],[],[],[],[],[],[],[],[],[0],[],[0],[],[384],[384]])]
 ns:=[3]
theorem jlD:aH Q7:=
 cOf aK aM jmk Q7 Tryz.func18 (ja uX (ja CR (ja jmj (ja _j (ja KD (ja _k i)))))) (ja (λh=>by kernel_rfl) (ja (λh=>by kernel_rfl) (ja (λh=>by kernel_rfl) (ja (λh=>by kernel_rfl) i))))
def Q8:Con:=⟨19,[.ref [(.list iT),iT],.v bk,.v .str],[(.list iT),iT,bk,.str],⟨[.v bT],[.ref [(.list iT),iT]]⟩,[bT,(.list iT),iT],Pw.unc4 Pw.jaS⟩
def jml:FnD where
 N:=77
 np:=3
 cs:=[sg,yP,CS,KE]
 ds:=[⟨0,[sB 0 0,sB 256 0,sB 384 0,sB 448 0,sI,.b (.cell [.d (.list iT),.d iT] e),.b (.cell [.d ax,.d az,.d ay,.d aC] e),.b (.cell [.d .str,.d iT,.d iT,.d iT,.d iT,.d iT,.nil,.nil,.d iT,.d iT] e),.b (.cell [.d .str,.d iT,.d iT,.d iT,.d iT,.d iT,.ol 1000000,.nil,.d iT,.d iT] e),.b (.lst 3 iT e)],[iT,(.list iT),iT,ax,az,ay,aC,.str,iT,iT,iT,iT,iT,iT,iT,.str,iT,iT,iT,iT,iT,iT,iT,(.list iT)],[⟨.exit 0,[sB 0 0,sB 256 0,sB 384 0,sB 448 0,.b (.cell [.d (.list iT),.d iT] e),.b (.cell [.d ax,.d az,.d ay,.d aC] e),.b (.cell [.d .str,.d iT,.d iT,.d iT,.d iT,.d iT,.nil,.nil,.d iT,.d iT] e),.b (.cell [.d .str,.d iT,.d iT,.d iT,.d iT,.d iT,.ol 1500100,.nil,.d iT,.d iT] e),.b (.lst 3 iT e)],[(.list iT),iT,ax,az,ay,aC,.str,iT,iT,iT,iT,iT,iT,iT,.str,iT,iT,iT,iT,iT,iT,iT,(.list iT)]⟩],Pw.u8 (Pw.u8 Pw.unc8) (Pw.j3p)⟩]
 keep:=[(0,⟨[0,4,6,7,8],[0,256,384,448],[⟨1000000,3,iT,[.cell 448 6],e⟩],[]⟩)]
 keepX:=[(0,.exit 0,⟨[0,4,6,7],[0,256,384,448],[⟨1500100,3,iT,[.cell 448 6],e⟩],[]⟩)]
 dw:=[(7,[[],[],[],[],[],[],[0],[3200],[3264,1000000],[],[448]])]
theorem jlE:aH Q8:=
 cOf aK aM jml Q8 Tryz.func19 (ja uX (ja CR (ja KD (ja _k i)))) (ja (λh=>by kernel_rfl) i)
def Kk:Con:=⟨9,[.ref [(.list iT),iT]],[(.list iT),iT],⟨[.v iT],[.ref [(.list iT),iT]]⟩,[iT,(.list iT),iT],Pw.unc2 Pw.j6R⟩
def jkv:FnD where
 N:=16
 np:=1
 cs:=[sg,yP,CS]
theorem ZS:aH Kk:=
 cOf aK aM jkv Kk Tryz.func9 (ja uX (ja CR (ja KD i))) i
def Q9:Con:=⟨21,[.ref [(.list iT),iT],.v bk],[(.list iT),iT,bk],⟨[.v bg],[.ref [(.list iT),iT]]⟩,[bg,(.list iT),iT],Pw.unc3 Pw.jc7⟩
def jn9:FnD where
 N:=52
 np:=2
 cs:=[sg,yP,CS,Kk]
 dw:=[(3,[[],[],[],[1344],[0,1344],[],[],[384]]),(8,[[],[],[],[],[],[],[0],[],[],[],[],[384]])]
theorem jmm:aH Q9:=
 cOf aK aM jn9 Q9 Tryz.func21 (ja uX (ja CR (ja KD (ja ZS i)))) i
def PV:Con:=⟨7,[.ref [(.list iT),iT],.v iT],[(.list iT),iT,iT],⟨[.v bk],[.ref [(.list iT),iT]]⟩,[bk,(.list iT),iT],Pw.unc3 Pw.j9X⟩
def jlF:FnD where
 N:=69
 np:=2
 cs:=[sg,KC,Q7,Q8,Q9]
 ds:=[⟨0,[sB 0 0,sB 256 0,sB 320 0,sI,.b (.cell [.d (.list iT),.d iT] e),.b (.cell [.nil,.nil,.nil,.nil] e),.b (.cell [.d ax,.d az,.d ay,.ol 1000000] e),.b (.lst 67 cZ j)],[iT,(.list iT),iT,ax,az,ay,aC],[⟨.exit 0,[sB 256 0,sB 320 0,.b (.cell [.d (.list iT),.d iT] e),.b (.cell [.nil,.nil,.nil,.nil] e),.b (.cell [.d ax,.d az,.d ay,.ol 1500100] e),.b (.lst 67 cZ j)],[(.list iT),iT,ax,az,ay,aC]⟩],Pw.unc7 (Pw.j2Z)⟩,⟨2,[sB 0 0,sB 256 0,sB 320 0,sI,sB 448 0,sI,.b (.cell [.d (.list iT),.d iT] e),.b (.cell [.nil,.nil,.nil,.nil] e),.b (.cell [.d ax,.d az,.d ay,.ol 1002000] e),.b (.cell [.d .str,.ol 1002001,.nil] e),.b (.lst 67 cZ j),.b (.lst 76 bT e)],[iT,iT,(.list iT),iT,ax,az,ay,.str,aC,bM],[⟨.exit 2,[sB 0 0,sB 256 0,sB 320 0,sI,sB 448 0,.b (.cell [.d (.list iT),.d iT] e),.b (.cell [.nil,.nil,.nil,.nil] e),.b (.cell [.d ax,.d az,.d ay,.ol 1502300] e),.b (.cell [.d .str,.ol 1502301,.nil] e),.b (.lst 67 cZ j),.b (.lst 76 bT e)],[iT,(.list iT),iT,ax,az,ay,.str,aC,bM]⟩],Pw.u8 Pw.unc2 (Pw.j2X)⟩,⟨4,[sB 0 0,sB 256 0,sB 320 0,sI,sB 448 0,sI,.b (.cell [.d (.list iT),.d iT] e),.b (.cell [.nil,.nil,.nil,.nil] e),.b (.cell [.d ax,.d az,.d ay,.ol 1004000] e),.b (.cell [.d .str,.ol 1004001,.ol 1004002] e),.b (.lst 67 cZ j),.b (.lst 76 bT e),.b (.lst 63 bg e)],[iT,iT,(.list iT),iT,ax,az,ay,.str,aC,bM,an],[⟨.exit 4,[sB 0 0,sB 256 0,sB 320 0,sI,sB 448 0,.b (.cell [.d (.list iT),.d iT] e),.b (.cell [.nil,.nil,.nil,.nil] e),.b (.cell [.d ax,.d az,.d ay,.ol 1504500] e),.b (.cell [.d .str,.ol 1504501,.ol 1504502] e),.b (.lst 67 cZ j),.b (.lst 76 bT e),.b (.lst 63 bg e)],[iT,(.list iT),iT,ax,az,ay,.str,aC,bM,an]⟩],Pw.u8 Pw.unc3 (Pw.j2Y)⟩]
 keep:=[(0,⟨[0,4,5,6],[0,256,320],[⟨1000000,67,cZ,[.cell 320 3],j⟩],[]⟩),(2,⟨[0,4,5,6,7,8],[0,256,320,448],[⟨1002000,67,cZ,[.cell 320 3],e⟩,⟨1002001,76,bT,[.cell 448 1],e⟩],[]⟩),(4,⟨[0,4,5,6,7,9],[0,256,320,448],[⟨1004000,67,cZ,[.cell 320 3],e⟩,⟨1004001,76,bT,[.cell 448 1],e⟩,⟨1004002,63,bg,[.cell 448 2],e⟩],[]⟩)]
 keepX:=[(0,.exit 0,⟨[4,5],[0,256,320],[⟨1500100,67,cZ,[.cell 320 3],e⟩],[]⟩),(2,.exit 2,⟨[0,4,5,6,7],[0,256,320,448],[⟨1502300,67,cZ,[.cell 320 3],e⟩,⟨1502301,76,bT,[.cell 448 1],e⟩],[]⟩),(4,.exit 4,⟨[0,4,5,6,7],[0,256,320,448],[⟨1504500,67,cZ,[.cell 320 3],e⟩,⟨1504501,76,bT,[.cell 448 1],e⟩,⟨1504502,63,bg,[.cell 448 2],e⟩],[]⟩)]
 dw:=[(9,[[],[],[],[],[2432],[],[],[],[],[],[0,1002000],[2880],[2944,1002000,1002001],[],[448]]),(13,[[],[],[],[],[0,1004000],[3776],[3840,1004001,1004002],[],[448]])]
theorem jkw:aH PV:=
 cOf aK aM jlF PV Tryz.func7 (ja uX (ja _j (ja jlD (ja jlE (ja jmm i))))) (ja (λh=>by kernel_rfl) (ja (λh=>by kernel_rfl) (ja (λh=>by kernel_rfl) i)))
def Ra:Con:=⟨210,[.v (.int .u8)],[(.int .u8)],⟨[.v .bool],[]⟩,[.bool],λh=>Pw.jol h⟩
def jv2:FnD where
 N:=9
 np:=1
theorem jtz:aH Ra:=
 cOf aK aM jv2 Ra Tryz.func210 i i
def Rb:Con:=⟨161,[.v .str],[.str],⟨[.v .bool],[]⟩,[.bool],λh=>Pw.jno h⟩
def jy3:FnD where
 N:=57
 np:=1
 cs:=[Ra]
 ds:=[⟨0,[sD .str,sI],[.str,iT],[⟨.ret,[sD .bool],[.bool]⟩,⟨.exit 0,[],[]⟩],Pw.unc2 (Pw.j7E)⟩]
 keep:=[(0,⟨[0,3],[],[],[]⟩)]
 keepX:=[(0,.ret,⟨[2],[],[],[]⟩)]
theorem jv3:aH Rb:=
 cOf aK aM jy3 Rb Tryz.func161 (ja jtz i) (ja (λh=>by kernel_rfl) i)
def CT:Con:=⟨110,[.v (.list .str),.v iT],[(.list .str),iT],⟨[.v iT],[]⟩,[iT],Pw.unc2 Pw.jdA⟩
def jy4:FnD where
 N:=26
 np:=2
 cs:=[Rb]
 ds:=[⟨0,[sD (.list .str),sI,sI],[(.list .str),iT,iT],[⟨.ret,[sI],[iT]⟩,⟨.exit 0,[],[]⟩],Pw.unc3 (Pw.j7F)⟩]
 keep:=[(0,⟨[0,1,5],[],[],[]⟩)]
 keepX:=[(0,.ret,⟨[4],[],[],[]⟩)]
theorem KF:aH CT:=
 cOf aK aM jy4 CT Tryz.func110 (ja jv3 i) (ja (λh=>by kernel_rfl) i)
def yQ:Con:=⟨71,[.v iT,.v iT,.v iT],[iT,iT,iT],⟨[.v .bool],[]⟩,[.bool],Pw.unc3 Pw.jaT⟩
def jCd:FnD where
 N:=15
 np:=3
theorem CU:aH yQ:=
 cOf aK aM jCd yQ Tryz.func71 i i
def Rc:Con:=⟨72,[.v pj],[pj],⟨[.v .bool],[]⟩,[.bool],λh=>Pw.jic h⟩
def jv4:FnD where
 N:=38
 np:=1
 cs:=[yQ]
theorem jtA:aH Rc:=
 cOf aK aM jv4 Rc Tryz.func72 (ja CU i) i
def Re:Con:=⟨216,[.v iT],[iT],⟨[.v .bool],[]⟩,[.bool],λh=>Pw.j1X h⟩
def jy5:FnD where
 N:=16
 np:=1
theorem jv5:aH Re:=
 cOf aK aM jy5 Re Tryz.func216 i i
def Gx:Con:=⟨168,[.v iT,.v iT],[iT,iT],⟨[.v iT],[]⟩,[iT],Pw.unc2 Pw.jgO⟩
def jy6:FnD where
 N:=23
 np:=2
 cs:=[Re]
theorem Rf:aH Gx:=
 cOf aK aM jy6 Gx Tryz.func168 (ja jv5 i) i
def Rg:Con:=⟨215,[.v aJ],[aJ],⟨[.v .bool],[]⟩,[.bool],λh=>Pw.jl4 h⟩
def jv6:FnD where
 N:=36
 np:=1
 cs:=[Gx]
theorem jtB:aH Rg:=
 cOf aK aM jv6 Rg Tryz.func215 (ja Rf i) i
def KG:Con:=⟨162,[.v iT],[iT],⟨[.v iT],[]⟩,[iT],λh=>Pw.jl5 h⟩
def jy7:FnD where
 N:=18
 np:=1
theorem _l:aH KG:=
 cOf aK aM jy7 KG Tryz.func162 i i
def Rh:Con:=⟨167,[.v aJ],[aJ],⟨[.v iT,.v iT],[]⟩,[iT,iT],λh=>Pw.jrf h⟩
def jA0:FnD where
 N:=29
 np:=1
 cs:=[Gx,Rg,KG]
 ds:=[⟨0,[sB 64 0,sI,sI,.b (.cell [.d iT,.d iT,.d iT] e)],[iT,iT,iT,iT,iT],[⟨.exit 0,[sB 64 0,sI,.b (.cell [.d iT,.d iT,.d iT] e)],[iT,iT,iT,iT]⟩],Pw.unc5 (Pw.j8y)⟩]
 keep:=[(0,⟨[1,4,5],[64],[],[]⟩)]
 keepX:=[(0,.exit 0,⟨[1,4],[64],[],[]⟩)]
theorem gN:aH Rh:=
 cOf aK aM jA0 Rh Tryz.func167 (ja Rf (ja jtB (ja _l i))) (ja (λh=>by kernel_rfl) i)
def KH:Con:=⟨122,[.v iT],[iT],⟨[.v iT],[]⟩,[iT],λh=>Pw.jea h⟩
def jrJ:FnD where
 N:=7
 np:=1
theorem _m:aH KH:=
 cOf aK aM jrJ KH Tryz.func122 i i
end Go.Proofs.Pk
