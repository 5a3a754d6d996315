/- bZ: each given function is its plain function, printed by a program. -/
import Derived.Test.YtllkgjaoejhneaaGreatCECon0
open _root_ renaming trivial->c
open Bool renaming false->e,true->i
noncomputable section
open Go Go.Lft
set_option linter.unusedVariables false
set_option maxRecDepth 100000
namespace Go.Proofs.Pk
def Ky:Con:=⟨284,[.rl 289 aB,.clo 285 []],[aB],⟨[],[.rl aB]⟩,[aB],λh=>Pw.j0f h⟩
def H_:FnD where
 N:=9
 np:=2
 cs:=[Kx]
 modes:=[(301,[i,e,e])]
theorem I_:aJ Ky:=
 cOf aH aK H_ Ky Tryz.func284 (jg G_ c) c
def Kz:Con:=⟨263,[.v aU],[aU],⟨[.own 289 aB,.v iT],[]⟩,[aB,iT],λh=>Pw.j1W h⟩
def J_:FnD where
 N:=86
 np:=1
 cs:=[CF,Kp,Ku,Ky]
 ds:=[⟨0,[sB 64 0,sI,sD bN,sI,sI,.b (.cell [.d .str,.d iT,.d bN] e)],[iT,bN,iT,iT,.str,iT,bN],[⟨.ret,[.s (.one (.nil)),sI],[iT]⟩,⟨.exit 0,[sB 64 0,sI,.b (.cell [.d .str,.d iT,.d bN] e)],[iT,.str,iT,bN]⟩],Pw.unc7 (Pw.j1u)⟩,⟨2,[sO 1002000,sD bN,sI,sI,.b (.lst 289 bT e)],[bN,iT,iT,aB],[⟨.exit 2,[sO 1502300,.b (.lst 289 bT e)],[aB]⟩],Pw.unc4 (Pw.j22)⟩,⟨4,[sO 1004000,sB 640 0,sI,sD bN,sI,sI,.b (.cell [.d iT,.d iT,.d iT,.d iT,.d iT,.d iT,.d iT] e),.b (.lst 289 bT e)],[iT,bN,iT,iT,iT,iT,iT,iT,iT,iT,iT,aB],[⟨.exit 4,[sO 1504500,sD bN,sI,sI,.b (.lst 289 bT e)],[bN,iT,iT,aB]⟩],Pw.u8 Pw.unc4 (Pw.j21)⟩]
 modes:=[(284,[i,e])]
 keep:=[(0,⟨[1,4,23,24,25],[64],[],[]⟩),(2,⟨[8,46,47,48],[],[⟨1002000,289,bT,[.slot 8],e⟩],[]⟩),(4,⟨[8,10,11,46,47,48],[640],[⟨1004000,289,bT,[.slot 8],e⟩],[]⟩)]
 keepX:=[(0,.ret,⟨[2,3],[],[],[]⟩),(0,.exit 0,⟨[1,4],[64],[],[]⟩),(2,.exit 2,⟨[8],[],[⟨1502300,289,bT,[.slot 8],e⟩],[]⟩),(4,.exit 4,⟨[8,46,47,48],[],[⟨1504500,289,bT,[.slot 8],e⟩],[]⟩)]
 ro:=[i,e]
theorem K_:aJ Kz:=
 cOf aH aK J_ Kz Tryz.func263 (jg Ko (jg o_ (jg A_ (jg I_ c)))) (jg (λh=>by kernel_rfl) (jg (λh=>by kernel_rfl) (jg (λh=>by kernel_rfl) c)))
def F1:Con:=⟨228,[.v aU],[aU],⟨[.own 200 aB,.v iT],[]⟩,[aB,iT],λh=>Pw.j0M h⟩
def L_:FnD where
 N:=79
 np:=1
 cs:=[CF,Kz]
 ds:=[⟨0,[sO 1000000,sI,sO 1000001,sI,sI,.b (.lst 200 bT e),.b (.lst 289 bT e)],[iT,iT,iT,aB,aB],[⟨.ret,[.s (.one (.nil)),sI],[iT]⟩,⟨.exit 0,[sO 1500100,.b (.lst 200 bT e)],[aB]⟩],Pw.unc5 (Pw.j18)⟩]
 keep:=[(0,⟨[6,7,22,23,24],[],[⟨1000000,200,bT,[.slot 6],e⟩,⟨1000001,289,bT,[.slot 22],e⟩],[]⟩)]
 keepX:=[(0,.ret,⟨[2,3],[],[],[]⟩),(0,.exit 0,⟨[6],[],[⟨1500100,200,bT,[.slot 6],e⟩],[]⟩)]
 ro:=[i,e]
theorem SS:aJ F1:=
 cOf aH aK L_ F1 Tryz.func228 (jg Ko (jg K_ c)) (jg (λh=>by kernel_rfl) c)
def KA:Con:=⟨174,[.v aU],[aU],⟨[.v iT],[]⟩,[iT],λh=>Pw.jbM h⟩
def M_:FnD where
 N:=11
 np:=1
 cs:=[F1]
theorem N_:aJ KA:=
 cOf aH aK M_ KA Tryz.func174 (jg SS c) c
def KB:Con:=⟨176,[.v mj],[mj],⟨[.v .bool],[]⟩,[.bool],λh=>Pw.j6a h⟩
def O_:FnD where
 N:=7
 np:=1
theorem P_:aJ KB:=
 cOf aH aK O_ KB Tryz.func176 c c
def KC:Con:=⟨229,[.v bN,.clo 176 []],[bN],⟨[.v iT],[]⟩,[iT],λh=>Pw.j1k h⟩
def Q_:FnD where
 N:=19
 np:=2
 cs:=[KB]
 ds:=[⟨0,[sD bN,sC 176 [],sI,sI],[bN,iT,iT],[⟨.ret,[sI],[iT]⟩,⟨.exit 0,[],[]⟩],Pw.unc3 (Pw.j0j)⟩]
 keep:=[(0,⟨[0,1,7,8],[],[],[]⟩)]
 keepX:=[(0,.ret,⟨[4],[],[],[]⟩)]
theorem R_:aJ KC:=
 cOf aH aK Q_ KC Tryz.func229 (jg P_ c) (jg (λh=>by kernel_rfl) c)
def KD:Con:=⟨175,[.v bN,.clo 176 []],[bN],⟨[.v .bool],[]⟩,[.bool],λh=>Pw.j0C h⟩
def S_:FnD where
 N:=9
 np:=2
 cs:=[KC]
theorem T_:aJ KD:=
 cOf aH aK S_ KD Tryz.func175 (jg R_ c) c
def KE:Con:=⟨120,[.v aU],[aU],⟨[.v iT],[]⟩,[iT],λh=>Pw.j1B h⟩
def U_:FnD where
 N:=17
 np:=1
 cs:=[KA,KD]
theorem V_:aJ KE:=
 cOf aH aK U_ KE Tryz.func120 (jg N_ (jg T_ c)) c
def KF:Con:=⟨118,[.v aw,.clo 119 [],.clo 120 []],[aw],⟨[.v iT],[]⟩,[iT],λh=>Pw.j2w h⟩
def W_:FnD where
 N:=34
 np:=3
 cs:=[Kk,wN,KE]
 ds:=[⟨0,[sC 119 [],sC 120 [],sO 1000000,sD aw,sI,sI,.b (.lst 4294967458 (.pair .str .bool) e)],[aw,iT,iT,(.list (.pair .str .bool))],[⟨.ret,[sI],[iT]⟩,⟨.exit 0,[],[]⟩],Pw.unc4 (Pw.j0P)⟩]
 modes:=[(121,[e,i])]
 keep:=[(0,⟨[1,2,7,13,14,15],[],[⟨1000000,4294967458,(.pair .str .bool),[.slot 7],e⟩],[]⟩)]
 keepX:=[(0,.ret,⟨[6],[],[],[]⟩)]
theorem X_:aJ KF:=
 cOf aH aK W_ KF Tryz.func118 (jg e_ (jg CE (jg V_ c))) (jg (λh=>by kernel_rfl) c)
def wO:Con:=⟨178,[.v iT,.v iT],[iT,iT],⟨[.v .bool],[]⟩,[.bool],Pw.unc2 Pw.j16⟩
def Y_:FnD where
 N:=12
 np:=2
theorem CI:aJ wO:=
 cOf aH aK Y_ wO Tryz.func178 c c
def F2:Con:=⟨179,[.v aB],[aB],⟨[.v iT],[]⟩,[iT],λh=>Pw.j9K h⟩
def Z_:FnD where
 N:=46
 np:=1
 ds:=[⟨0,[sD aB,sD aB,sI,sI],[aB,aB,iT,iT],[⟨.ret,[sI],[iT]⟩,⟨.exit 0,[],[]⟩],Pw.unc4 (Pw.j3Y)⟩]
 keep:=[(0,⟨[0,8,9,10],[],[],[]⟩)]
 keepX:=[(0,.ret,⟨[2],[],[],[]⟩)]
theorem SU:aJ F2:=
 cOf aH aK Z_ F2 Tryz.func179 c (jg (λh=>by kernel_rfl) c)
def CJ:Con:=⟨232,[.v iT,.v iT,.v iT],[iT,iT,iT],⟨[.v .bool],[]⟩,[.bool],Pw.unc3 Pw.j2B⟩
def Α:FnD where
 N:=15
 np:=3
theorem KG:aJ CJ:=
 cOf aH aK Α CJ Tryz.func232 c c
def KH:Con:=⟨180,[.v iT],[iT],⟨[.v .bool],[]⟩,[.bool],λh=>Pw.j4R h⟩
def Β:FnD where
 N:=10
 np:=1
 cs:=[CJ]
theorem Γ:aJ KH:=
 cOf aH aK Β KH Tryz.func180 (jg KG c) c
def KI:Con:=⟨122,[.v aF,.v fg],[aF,fg],⟨[.v iT],[]⟩,[iT],Pw.unc2 Pw.j3F⟩
def Δ:FnD where
 N:=29
 np:=2
 cs:=[wO,F2,KH]
theorem Ε:aJ KI:=
 cOf aH aK Δ KI Tryz.func122 (jg CI (jg SU (jg Γ c))) c
def KJ:Con:=⟨124,[.v fe],[fe],⟨[.v .str],[]⟩,[.str],λh=>Pw.j6F h⟩
def Ζ:FnD where
 N:=5
 np:=1
theorem Η:aJ KJ:=
 cOf aH aK Ζ KJ Tryz.func124 c c
def KK:Con:=⟨266,[.v iT],[iT],⟨[.v iT],[]⟩,[iT],λh=>Pw.je4 h⟩
def Θ:FnD where
 N:=15
 np:=1
 cs:=[FZ,CH]
 ds:=[⟨0,[sI,sI],[iT,iT],[⟨.exit 0,[sI],[iT]⟩],Pw.unc2 (Pw.j3Z)⟩]
 keep:=[(0,⟨[0,3],[],[],[]⟩)]
 keepX:=[(0,.exit 0,⟨[3],[],[],[]⟩)]
theorem Ι:aJ KK:=
 cOf aH aK Θ KK Tryz.func266 (jg SQ (jg Ks c)) (jg (λh=>by kernel_rfl) c)
def KL:Con:=⟨234,[.v iT],[iT],⟨[.v eM,.v iT],[]⟩,[eM,iT],λh=>Pw.j5t h⟩
def Κ:FnD where
 N:=45
 np:=1
 cs:=[yM,CH,KK]
 ds:=[⟨0,[sB 128 0,sB 256 0,sI,.b (.cell [.d iT,.d iT,.d iT] e),.b (.cell [.d iT,.d iT,.d iT] e)],[iT,iT,iT,iT,iT,iT,iT],[⟨.exit 0,[sB 128 0,sB 256 0,sI,.b (.cell [.d iT,.d iT,.d iT] e),.b (.cell [.d iT,.d iT,.d iT] e)],[iT,iT,iT,iT,iT,iT,iT]⟩],Pw.unc7 (Pw.j3f)⟩]
 keep:=[(0,⟨[2,4,5],[128,256],[],[]⟩)]
 keepX:=[(0,.exit 0,⟨[2,4,5],[128,256],[],[]⟩)]
theorem Λ:aJ KL:=
 cOf aH aK Κ KL Tryz.func234 (jg FY (jg Ks (jg Ι c))) (jg (λh=>by kernel_rfl) c)
def CK:Con:=⟨183,[.v iT],[iT],⟨[.v .bool],[]⟩,[.bool],λh=>Pw.j1o h⟩
def Μ:FnD where
 N:=12
 np:=1
 cs:=[KL]
theorem KM:aJ CK:=
 cOf aH aK Μ CK Tryz.func183 (jg Λ c) c
def KN:Con:=⟨182,[.v iT],[iT],⟨[.v .bool],[]⟩,[.bool],λh=>Pw.j30 h⟩
def Ν:FnD where
 N:=6
 np:=1
 cs:=[CK]
theorem Ξ:aJ KN:=
 cOf aH aK Ν KN Tryz.func182 (jg KM c) c
def KO:Con:=⟨233,[.v (.list iT),.clo 182 []],[(.list iT)],⟨[.v iT],[]⟩,[iT],λh=>Pw.j31 h⟩
def Ο:FnD where
 N:=19
 np:=2
 cs:=[KN]
 ds:=[⟨0,[sD (.list iT),sC 182 [],sI,sI],[(.list iT),iT,iT],[⟨.ret,[sI],[iT]⟩,⟨.exit 0,[],[]⟩],Pw.unc3 (Pw.j0t)⟩]
 keep:=[(0,⟨[0,1,7,8],[],[],[]⟩)]
 keepX:=[(0,.ret,⟨[4],[],[],[]⟩)]
theorem Ρ:aJ KO:=
 cOf aH aK Ο KO Tryz.func233 (jg Ξ c) (jg (λh=>by kernel_rfl) c)
end Go.Proofs.Pk
