/- Contracts: each given function is its plain function, printed by a program. -/
import Derived.Test.YtpbnnhakjhalaaaGreatEOCon7
noncomputable section
open Go Go.Lft
set_option linter.unusedVariables false
set_option maxRecDepth 100000
namespace Go.Proofs.Pk
def jcK:Con:=⟨351,[.v ty65,.v ty72,.v iT],[ty65,ty72,iT],⟨[.v iT],[]⟩,[iT],Pw.unc3 Pw.jdQ⟩
def jp2:FnD where
 N:=81
 np:=3
 cs:=[j9C,j61,j9h]
 ds:=[⟨0,[sI,.s (.one (.bp 192 0)),.s (.one (.bp 256 0)),sI,.b (.cell [.d .str,.d iT,.d ty58] false),.b (.cell [.d .str,.d iT,.d iT,.d iT,.d iT,.d iT,.d (.list iT),.d ty13,.d iT,.d iT] false)],[iT,iT,.str,iT,ty58,.str,iT,iT,iT,iT,iT,(.list iT),ty13,iT,iT],[⟨.exit 0,[sI],[iT]⟩],Pw.jtZ (Pw.j4C)⟩]
 modes:=[(314,[false,false]),(397,[false,false]),(398,[false,false,false])]
 keep:=[(0,⟨[2,3,4,7],[192,256],[],[]⟩)]
 keepX:=[(0,.exit 0,⟨[7],[],[],[]⟩)]
 ro:=[false]
theorem jnE:Con.OK Tryz.prog jcK:=
 cOf j0e j03 jp2 jcK Tryz.func351 (j9 jhw (j9 jbe (j9 jjm trivial))) (j9 (fun h=>by kernel_rfl) trivial)
def jcL:Con:=⟨312,[.v ty65,.v ty72,.v iT],[ty65,ty72,iT],⟨[.v iT,.v iT],[]⟩,[iT,iT],Pw.unc3 Pw.jdR⟩
def jp3:FnD where
 N:=22
 np:=3
 cs:=[jcH,jcK]
 ds:=[]
 modes:=[(350,[false,false]),(351,[false,false,false])]
 ro:=[false,false]
theorem jnF:Con.OK Tryz.prog jcL:=
 cOf j0e j03 jp3 jcL Tryz.func312 (j9 jnA (j9 jnE trivial)) trivial
def jbf:Con:=⟨194,[.v ty8],[ty8],⟨[.v iT],[]⟩,[iT],fun h=>Pw.jeq h⟩
def jnG:FnD where
 N:=10
 np:=1
 cs:=[j7w]
 ds:=[]
 modes:=[(287,[false])]
 ro:=[false]
theorem jlW:Con.OK Tryz.prog jbf:=
 cOf j0e j03 jnG jbf Tryz.func194 (j9 jeP trivial) trivial
def jbg:Con:=⟨352,[.v ty65,.v iT],[ty65,iT],⟨[.v iT,.v iT],[]⟩,[iT,iT],Pw.unc2 Pw.j9J⟩
def jnH:FnD where
 N:=19
 np:=2
 cs:=[j61,jbf]
 ds:=[]
 modes:=[(194,[false]),(314,[false,false])]
 ro:=[false,false]
theorem jlX:Con.OK Tryz.prog jbg:=
 cOf j0e j03 jnH jbg Tryz.func352 (j9 jbe (j9 jlW trivial)) trivial
def jbh:Con:=⟨353,[.v ty13,.v iT],[ty13,iT],⟨[.v .bool],[]⟩,[.bool],Pw.unc2 Pw.jer⟩
def jnI:FnD where
 N:=28
 np:=2
 cs:=[]
 ds:=[⟨0,[.s (.one (.d ty13)),sI,sI],[ty13,iT,iT],[⟨.ret,[.s (.one (.d .bool))],[.bool]⟩,⟨.exit 0,[],[]⟩],Pw.unc3 (Pw.j42)⟩]
 keep:=[(0,⟨[0,1,5],[],[],[]⟩)]
 keepX:=[(0,.ret,⟨[4],[],[],[]⟩),
  (0,.exit 0,⟨[],[],[],[]⟩)]
 ro:=[false]
theorem jlY:Con.OK Tryz.prog jbh:=
 cOf j0e j03 jnI jbh Tryz.func353 trivial (j9 (fun h=>by kernel_rfl) trivial)
def jh8:Con:=⟨313,[.v ty65,.v ty13,.v iT],[ty65,ty13,iT],⟨[.v .bool],[]⟩,[.bool],Pw.unc3 Pw.jn5⟩
def ju4:FnD where
 N:=27
 np:=3
 cs:=[j7y,jbg,jbh]
 ds:=[]
 modes:=[(108,[false]),(352,[false,false]),(353,[false,false])]
 ro:=[false]
theorem jsF:Con.OK Tryz.prog jh8:=
 cOf j0e j03 ju4 jh8 Tryz.func313 (j9 je1 (j9 jlX (j9 jlY trivial))) trivial
def je4:Con:=⟨238,[.v ty84,.v ty72,.v iT],[ty84,ty72,iT],⟨[.v iT,.v .bool],[]⟩,[iT,.bool],Pw.unc3 Pw.jgg⟩
def jqX:FnD where
 N:=94
 np:=3
 cs:=[j61,jcL,jh8]
 ds:=[⟨0,[.s (.one (.bp 256 0)),sI,.s (.one (.bp 704 0)),.s (.one (.bp 768 0)),.s (.one (.d .bool)),sI,.b (.cell [.d .str,.d iT,.d iT,.d iT,.d iT,.d iT,.d (.list iT),.d ty13,.d iT,.d iT] false),.b (.cell [.d .str,.d iT,.d (.list iT)] false),.b (.cell [.d iT,.d iT] false)],[iT,.bool,iT,.str,iT,iT,iT,iT,iT,(.list iT),ty13,iT,iT,.str,iT,(.list iT),iT,iT],[⟨.exit 0,[.s (.one (.bp 256 0)),sI,.s (.one (.d .bool)),.b (.cell [.d .str,.d iT,.d iT,.d iT,.d iT,.d iT,.d (.list iT),.d ty13,.d iT,.d iT] false)],[iT,.bool,.str,iT,iT,iT,iT,iT,(.list iT),ty13,iT,iT]⟩],Pw.jwh (Pw.j5b)⟩]
 modes:=[(312,[false,false,false]),(313,[false,false,false]),(314,[false,false])]
 keep:=[(0,⟨[4,9,11,12,14,15],[256,704,768],[],[]⟩)]
 keepX:=[(0,.exit 0,⟨[4,9,14],[256],[],[]⟩)]
 ro:=[false,false]
theorem jp4:Con.OK Tryz.prog je4:=
 cOf j0e j03 jqX je4 Tryz.func238 (j9 jbe (j9 jnF (j9 jsF trivial))) (j9 (fun h=>by kernel_rfl) trivial)
def jfy:Con:=⟨163,[.v ty84,.v ty72,.v iT],[ty84,ty72,iT],⟨[.v iT],[]⟩,[iT],Pw.unc3 Pw.jj2⟩
def jsG:FnD where
 N:=27
 np:=3
 cs:=[je4]
 ds:=[]
 modes:=[(238,[false,false,false])]
 ro:=[false]
theorem jqY:Con.OK Tryz.prog jfy:=
 cOf j0e j03 jsG jfy Tryz.func163 (j9 jp4 trivial) trivial
def je5:Con:=⟨55,[.v ty77,.v iT,.v iT],[ty77,iT,iT],⟨[.v .bool],[]⟩,[.bool],Pw.unc3 Pw.jia⟩
def jqZ:FnD where
 N:=42
 np:=3
 cs:=[]
 ds:=[⟨0,[sI,sI,.s (.one (.bp 192 0)),sI,.b (.cell [.d .str,.d ty73,.d ty44] false)],[iT,iT,iT,.str,ty73,ty44],[⟨.ret,[.s (.one (.d .bool))],[.bool]⟩,⟨.exit 0,[],[]⟩],Pw.unc6 (Pw.j5c)⟩]
 keep:=[(0,⟨[1,2,3,7],[192],[],[]⟩)]
 keepX:=[(0,.ret,⟨[6],[],[],[]⟩),
  (0,.exit 0,⟨[],[],[],[]⟩)]
 ro:=[false]
theorem jp5:Con.OK Tryz.prog je5:=
 cOf j0e j03 jqZ je5 Tryz.func55 trivial (j9 (fun h=>by kernel_rfl) trivial)
def jfz:Con:=⟨81,[.v ty84,.v iT,.v iT],[ty84,iT,iT],⟨[.v iT,.v iT],[]⟩,[iT,iT],Pw.unc3 Pw.jlt⟩
def jsH:FnD where
 N:=43
 np:=3
 cs:=[jfy,je5]
 ds:=[⟨0,[sI,.s (.one (.bp 192 0)),.s (.one (.bp 512 0)),sI,.b (.cell [.d ty66,.d ty56,.d ty29,.d ty78] false),.b (.cell [.d .str,.d ty73,.d ty44] false)],[iT,iT,ty66,ty56,ty29,ty78,.str,ty73,ty44],[⟨.ret,[sI,sI],[iT,iT]⟩,⟨.exit 0,[],[]⟩],Pw.unc9 (Pw.j5R)⟩]
 modes:=[(55,[false,false,false]),(163,[false,false,false])]
 keep:=[(0,⟨[2,3,8,9],[192,512],[],[]⟩)]
 keepX:=[(0,.ret,⟨[6,7],[],[],[]⟩),
  (0,.exit 0,⟨[],[],[],[]⟩)]
 ro:=[false,false]
theorem jr0:Con.OK Tryz.prog jfz:=
 cOf j0e j03 jsH jfz Tryz.func81 (j9 jqY (j9 jp5 trivial)) (j9 (fun h=>by kernel_rfl) trivial)
def jfA:Con:=⟨30,[.v ty84,.v iT,.v iT],[ty84,iT,iT],⟨[.v iT],[]⟩,[iT],Pw.unc3 Pw.jlu⟩
def jsI:FnD where
 N:=22
 np:=3
 cs:=[jh7,jfz]
 ds:=[]
 modes:=[(80,[false,false,false]),(81,[false,false,false])]
 ro:=[false]
theorem jr1:Con.OK Tryz.prog jfA:=
 cOf j0e j03 jsI jfA Tryz.func30 (j9 jsE (j9 jr0 trivial)) trivial
def jan:Con:=⟨6,[.v (.list iT)],[(.list iT)],⟨[.v .bool],[]⟩,[.bool],fun h=>Pw.ja5 h⟩
def jh9:FnD where
 N:=107
 np:=1
 cs:=[jaY,j9z,jaS,jbb,jcw,j47,j6y,j6z,jcG,jfA]
 ds:=[⟨0,[.s (.one (.bp 1216 0)),.s (.one (.bp 256 0)),.s (.one (.d ty44)),.s (.one (.ol 1000000)),.s (.one (.ol 1000001)),sI,sI,.b (.cell [.d ty66,.d ty56,.d ty29,.d ty78] false),.b (.cell [.d (.list iT),.d iT] false),.b (.lst 46 ty42 false),.b (.lst 46 ty42 false)],[ty44,iT,iT,ty66,ty56,ty29,ty78,(.list iT),iT,ty44,ty44],[⟨.exit 0,[.s (.one (.bp 1216 0)),.s (.one (.bp 256 0)),.s (.one (.ol 1500100)),.s (.one (.ol 1500101)),.b (.cell [.d ty66,.d ty56,.d ty29,.d ty78] false),.b (.cell [.d (.list iT),.d iT] false),.b (.lst 46 ty42 false),.b (.lst 46 ty42 false)],[ty66,ty56,ty29,ty78,(.list iT),iT,ty44,ty44]⟩],Pw.jn4 (Pw.j2t)⟩,
  ⟨2,[.s (.one (.bp 1216 0)),.s (.one (.bp 256 0)),.s (.one (.ol 1002000)),.s (.one (.bp 576 0)),.s (.one (.bp 640 0)),sI,.b (.cell [.d ty66,.d ty56,.d ty29,.d ty78] false),.b (.cell [.ol 1002001,.ol 1002002,.ol 1002003,.ol 1002004] false),.b (.cell [.ol 1002005,.ol 1002006,.ol 1002007,.ol 1002008] false),.b (.cell [.d (.list iT),.d iT] false),.b (.lst 46 ty42 false),.b (.lst 68 ty65 false),.b (.lst 71 ty53 false),.b (.lst 120 ty24 false),.b (.lst 38 ty77 false),.b (.lst 68 ty65 false),.b (.lst 71 ty53 false),.b (.lst 120 ty24 false),.b (.lst 38 ty77 false)],[iT,ty66,ty56,ty29,ty78,(.list iT),iT,ty44,ty66,ty56,ty29,ty78,ty66,ty56,ty29,ty78],[⟨.ret,[.s (.one (.d .bool))],[.bool]⟩,⟨.exit 2,[],[]⟩],Pw.jwg (Pw.j2u)⟩]
 modes:=[(15,[false]),(16,[]),(17,[false]),(18,[false,false,false,false]),(19,[false,false]),(25,[false]),(26,[false,false,false]),(28,[false]),(29,[false,false,false]),(30,[false,false,false])]
 keep:=[(0,⟨[3,4,5,6,7,30,31],[256,1216],[⟨1000000,46,ty42,[.slot 6],false⟩,⟨1000001,46,ty42,[.slot 7],false⟩],[]⟩),
  (2,⟨[3,4,7,9,10,11],[256,576,640,1216],[⟨1002000,46,ty42,[.slot 7],false⟩,⟨1002001,68,ty65,[.cell 576 0],false⟩,⟨1002002,71,ty53,[.cell 576 1],false⟩,⟨1002003,120,ty24,[.cell 576 2],false⟩,⟨1002004,38,ty77,[.cell 576 3],false⟩,⟨1002005,68,ty65,[.cell 640 0],false⟩,⟨1002006,71,ty53,[.cell 640 1],false⟩,⟨1002007,120,ty24,[.cell 640 2],false⟩,⟨1002008,38,ty77,[.cell 640 3],false⟩],[]⟩)]
 keepX:=[(0,.exit 0,⟨[3,4,6,7],[256,1216],[⟨1500100,46,ty42,[.slot 6],false⟩,⟨1500101,46,ty42,[.slot 7],false⟩],[]⟩),
  (2,.ret,⟨[2],[],[],[]⟩),
  (2,.exit 2,⟨[],[],[],[]⟩)]
 ro:=[false]
 dw:=[(14,[[],[3584,3585,3586,3587],[],[3712,3713,3714,3715],[576],[640],[576],[640]]),(15,[[],[],[],[3968],[],[3968,4096],[],[],[3587,4096]]),(16,[[],[],[],[4480],[],[4480,4608],[],[],[3715,4608]])]
theorem law13_EditOrder_ok:Con.OK Tryz.prog jan:=
 cOf j0e j03 jh9 jan Tryz.func6 (j9 jlv (j9 jht (j9 jjh (j9 jlQ (j9 jno (j9 j9q (j9 jft (j9 jfx (j9 jnz (j9 jr1 trivial)))))))))) (j9 (fun h=>by kernel_rfl) (j9 (fun h=>by kernel_rfl) trivial))
end Go.Proofs.Pk
