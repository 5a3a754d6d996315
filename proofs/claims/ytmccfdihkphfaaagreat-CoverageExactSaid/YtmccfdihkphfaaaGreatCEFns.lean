/- Functions. -/
import Derived.Test.YtmccfdihkphfaaaGreatCELS
open _root_ renaming Int->J,Option->N,ByteArray->W,List->X,Bool->Æ,Unit->Ê
open Option renaming some->K,none->U
open Decidable renaming decide->L
open List renaming getD->M,length->O,set->Ä,replicate->Å,take->Ë,drop->Í
open Int renaming ofNat->S,tmod->Ã,tdiv->Ç,fdiv->Ì
open ByteArray renaming empty->Y,mk->À,size->Â,toList->È
open Bool renaming false->Z,true->Á
open Go.IntKind renaming wrap->É
open Go Go.Lft
set_option linter.unusedVariables false
namespace Go.Proofs.Pw
noncomputable section
abbrev ah:Type:=(X (J×J))
abbrev uO:Type:=(J×(X J))
abbrev wH:Type:=(J×(J×J))
abbrev ax:Type:=(X wH)
abbrev fX:Type:=(J×ah)
abbrev tR:Type:=(W×uO)
abbrev fk:Type:=(X ax)
abbrev cJ:Type:=(X fX)
abbrev mN:Type:=(J×(J×wH))
abbrev aw:Type:=(X tR)
abbrev ag:Type:=(X mN)
abbrev wI:Type:=(J×(J×mN))
abbrev bn:Type:=(X wI)
abbrev wJ:Type:=(W×(J×(ah×(J×(J×Æ)))))
abbrev aq:Type:=(X wJ)
abbrev dA:Type:=(W×(J×bn))
abbrev an:Type:=(X dA)
abbrev eD:Type:=(W×(J×((J×J)×(J×(J×((X J)×(ah×(J×J))))))))
abbrev aH:Type:=(X eD)
abbrev kA:Type:=(W×(aH×ag))
abbrev aA:Type:=(X kA)
abbrev bz:Type:=(an×(aq×(aw×aA)))
abbrev dV:Type:=(X bz)
abbrev kB:Type:=(bz×cJ)
abbrev u8{A B C D E F G H T I R:Type}(u:T->I->R)(f:A->B->C->D->E->F->G->H->T)(h:A×B×C×D×E×F×G×H×I):R:=u (f h.1 h.2.1 h.2.2.1 h.2.2.2.1 h.2.2.2.2.1 h.2.2.2.2.2.1 h.2.2.2.2.2.2.1 h.2.2.2.2.2.2.2.1) h.2.2.2.2.2.2.2.2
abbrev unc2{A0 A1 R:Type}(f:A0->A1->R)(h:A0×A1):R:=f h.1 h.2
abbrev unc3{A0 A1 A2 R:Type}(f:A0->A1->A2->R)(h:A0×A1×A2):R:=f h.1 h.2.1 h.2.2
abbrev unc4{A0 A1 A2 A3 R:Type}(f:A0->A1->A2->A3->R)(h:A0×A1×A2×A3):R:=f h.1 h.2.1 h.2.2.1 h.2.2.2
abbrev unc5{A0 A1 A2 A3 A4 R:Type}(f:A0->A1->A2->A3->A4->R)(h:A0×A1×A2×A3×A4):R:=f h.1 h.2.1 h.2.2.1 h.2.2.2.1 h.2.2.2.2
abbrev unc6{A0 A1 A2 A3 A4 A5 R:Type}(f:A0->A1->A2->A3->A4->A5->R)(h:A0×A1×A2×A3×A4×A5):R:=f h.1 h.2.1 h.2.2.1 h.2.2.2.1 h.2.2.2.2.1 h.2.2.2.2.2
abbrev unc7{A0 A1 A2 A3 A4 A5 A6 R:Type}(f:A0->A1->A2->A3->A4->A5->A6->R)(h:A0×A1×A2×A3×A4×A5×A6):R:=f h.1 h.2.1 h.2.2.1 h.2.2.2.1 h.2.2.2.2.1 h.2.2.2.2.2.1 h.2.2.2.2.2.2
abbrev unc8{A0 A1 A2 A3 A4 A5 A6 A7 R:Type}(f:A0->A1->A2->A3->A4->A5->A6->A7->R)(h:A0×A1×A2×A3×A4×A5×A6×A7):R:=f h.1 h.2.1 h.2.2.1 h.2.2.2.1 h.2.2.2.2.1 h.2.2.2.2.2.1 h.2.2.2.2.2.2.1 h.2.2.2.2.2.2.2
abbrev unc9{A0 A1 A2 A3 A4 A5 A6 A7 A8 R:Type}(f:A0->A1->A2->A3->A4->A5->A6->A7->A8->R)(h:A0×A1×A2×A3×A4×A5×A6×A7×A8):R:=f h.1 h.2.1 h.2.2.1 h.2.2.2.1 h.2.2.2.2.1 h.2.2.2.2.2.1 h.2.2.2.2.2.2.1 h.2.2.2.2.2.2.2.1 h.2.2.2.2.2.2.2.2
abbrev FT[LP]{A0 A1 R:Type}(s:A0->A1->N ((A0×A1) ⊕ R))(a0:A0)(a1:A1):N R:=LP.lp (unc2 s) (a0,a1)
theorem Jj{A0 A1 R:Type}(s:A0->A1->N ((A0×A1) ⊕ R))(f:A0->A1->N R)(h:f=FT s:=by rfl)(a0 a1):f a0 a1=lpK (s a0 a1) (λh=>f h.1 h.2):=h▸iO _ _
abbrev re[LP]{A0 A1 A2 R:Type}(s:A0->A1->A2->N ((A0×A1×A2) ⊕ R))(a0:A0)(a1:A1)(a2:A2):N R:=LP.lp (unc3 s) (a0,a1,a2)
theorem r6{A0 A1 A2 R:Type}(s:A0->A1->A2->N ((A0×A1×A2) ⊕ R))(f:A0->A1->A2->N R)(h:f=re s:=by rfl)(a0 a1 a2):f a0 a1 a2=lpK (s a0 a1 a2) (λh=>f h.1 h.2.1 h.2.2):=h▸iO _ _
abbrev kC[LP]{A0 A1 A2 A3 R:Type}(s:A0->A1->A2->A3->N ((A0×A1×A2×A3) ⊕ R))(a0:A0)(a1:A1)(a2:A2)(a3:A3):N R:=LP.lp (unc4 s) (a0,a1,a2,a3)
theorem lz{A0 A1 A2 A3 R:Type}(s:A0->A1->A2->A3->N ((A0×A1×A2×A3) ⊕ R))(f:A0->A1->A2->A3->N R)(h:f=kC s:=by rfl)(a0 a1 a2 a3):f a0 a1 a2 a3=lpK (s a0 a1 a2 a3) (λh=>f h.1 h.2.1 h.2.2.1 h.2.2.2):=h▸iO _ _
abbrev gL[LP]{A0 A1 A2 A3 A4 R:Type}(s:A0->A1->A2->A3->A4->N ((A0×A1×A2×A3×A4) ⊕ R))(a0:A0)(a1:A1)(a2:A2)(a3:A3)(a4:A4):N R:=LP.lp (unc5 s) (a0,a1,a2,a3,a4)
theorem ir{A0 A1 A2 A3 A4 R:Type}(s:A0->A1->A2->A3->A4->N ((A0×A1×A2×A3×A4) ⊕ R))(f:A0->A1->A2->A3->A4->N R)(h:f=gL s:=by rfl)(a0 a1 a2 a3 a4):f a0 a1 a2 a3 a4=lpK (s a0 a1 a2 a3 a4) (λh=>f h.1 h.2.1 h.2.2.1 h.2.2.2.1 h.2.2.2.2):=h▸iO _ _
abbrev tS[LP]{A0 A1 A2 A3 A4 A5 R:Type}(s:A0->A1->A2->A3->A4->A5->N ((A0×A1×A2×A3×A4×A5) ⊕ R))(a0:A0)(a1:A1)(a2:A2)(a3:A3)(a4:A4)(a5:A5):N R:=LP.lp (unc6 s) (a0,a1,a2,a3,a4,a5)
theorem uP{A0 A1 A2 A3 A4 A5 R:Type}(s:A0->A1->A2->A3->A4->A5->N ((A0×A1×A2×A3×A4×A5) ⊕ R))(f:A0->A1->A2->A3->A4->A5->N R)(h:f=tS s:=by rfl)(a0 a1 a2 a3 a4 a5):f a0 a1 a2 a3 a4 a5=lpK (s a0 a1 a2 a3 a4 a5) (λh=>f h.1 h.2.1 h.2.2.1 h.2.2.2.1 h.2.2.2.2.1 h.2.2.2.2.2):=h▸iO _ _
abbrev rf[LP]{A0 A1 A2 A3 A4 A5 A6 R:Type}(s:A0->A1->A2->A3->A4->A5->A6->N ((A0×A1×A2×A3×A4×A5×A6) ⊕ R))(a0:A0)(a1:A1)(a2:A2)(a3:A3)(a4:A4)(a5:A5)(a6:A6):N R:=LP.lp (unc7 s) (a0,a1,a2,a3,a4,a5,a6)
theorem r7{A0 A1 A2 A3 A4 A5 A6 R:Type}(s:A0->A1->A2->A3->A4->A5->A6->N ((A0×A1×A2×A3×A4×A5×A6) ⊕ R))(f:A0->A1->A2->A3->A4->A5->A6->N R)(h:f=rf s:=by rfl)(a0 a1 a2 a3 a4 a5 a6):f a0 a1 a2 a3 a4 a5 a6=lpK (s a0 a1 a2 a3 a4 a5 a6) (λh=>f h.1 h.2.1 h.2.2.1 h.2.2.2.1 h.2.2.2.2.1 h.2.2.2.2.2.1 h.2.2.2.2.2.2):=h▸iO _ _
abbrev r9[LP]{A0 A1 A2 A3 A4 A5 A6 A7 R:Type}(s:A0->A1->A2->A3->A4->A5->A6->A7->N ((A0×A1×A2×A3×A4×A5×A6×A7) ⊕ R))(a0:A0)(a1:A1)(a2:A2)(a3:A3)(a4:A4)(a5:A5)(a6:A6)(a7:A7):N R:=LP.lp (unc8 s) (a0,a1,a2,a3,a4,a5,a6,a7)
theorem tT{A0 A1 A2 A3 A4 A5 A6 A7 R:Type}(s:A0->A1->A2->A3->A4->A5->A6->A7->N ((A0×A1×A2×A3×A4×A5×A6×A7) ⊕ R))(f:A0->A1->A2->A3->A4->A5->A6->A7->N R)(h:f=r9 s:=by rfl)(a0 a1 a2 a3 a4 a5 a6 a7):f a0 a1 a2 a3 a4 a5 a6 a7=lpK (s a0 a1 a2 a3 a4 a5 a6 a7) (λh=>f h.1 h.2.1 h.2.2.1 h.2.2.2.1 h.2.2.2.2.1 h.2.2.2.2.2.1 h.2.2.2.2.2.2.1 h.2.2.2.2.2.2.2):=h▸iO _ _
abbrev yy[LP]{A0 A1 A2 A3 A4 A5 A6 A7 A8 R:Type}(s:A0->A1->A2->A3->A4->A5->A6->A7->A8->N ((A0×A1×A2×A3×A4×A5×A6×A7×A8) ⊕ R))(a0:A0)(a1:A1)(a2:A2)(a3:A3)(a4:A4)(a5:A5)(a6:A6)(a7:A7)(a8:A8):N R:=LP.lp (unc9 s) (a0,a1,a2,a3,a4,a5,a6,a7,a8)
theorem AM{A0 A1 A2 A3 A4 A5 A6 A7 A8 R:Type}(s:A0->A1->A2->A3->A4->A5->A6->A7->A8->N ((A0×A1×A2×A3×A4×A5×A6×A7×A8) ⊕ R))(f:A0->A1->A2->A3->A4->A5->A6->A7->A8->N R)(h:f=yy s:=by rfl)(a0 a1 a2 a3 a4 a5 a6 a7 a8):f a0 a1 a2 a3 a4 a5 a6 a7 a8=lpK (s a0 a1 a2 a3 a4 a5 a6 a7 a8) (λh=>f h.1 h.2.1 h.2.2.1 h.2.2.2.1 h.2.2.2.2.1 h.2.2.2.2.2.1 h.2.2.2.2.2.2.1 h.2.2.2.2.2.2.2.1 h.2.2.2.2.2.2.2.2):=h▸iO _ _
abbrev mO[LP]{A0 A1 A2 A3 A4 A5 A6 A7 A8 A9 R:Type}(s:A0->A1->A2->A3->A4->A5->A6->A7->A8->A9->N ((A0×A1×A2×A3×A4×A5×A6×A7×A8×A9) ⊕ R))(a0:A0)(a1:A1)(a2:A2)(a3:A3)(a4:A4)(a5:A5)(a6:A6)(a7:A7)(a8:A8)(a9:A9):N R:=LP.lp (u8 unc2 s) (a0,a1,a2,a3,a4,a5,a6,a7,a8,a9)
theorem nU{A0 A1 A2 A3 A4 A5 A6 A7 A8 A9 R:Type}(s:A0->A1->A2->A3->A4->A5->A6->A7->A8->A9->N ((A0×A1×A2×A3×A4×A5×A6×A7×A8×A9) ⊕ R))(f:A0->A1->A2->A3->A4->A5->A6->A7->A8->A9->N R)(h:f=mO s:=by rfl)(a0 a1 a2 a3 a4 a5 a6 a7 a8 a9):f a0 a1 a2 a3 a4 a5 a6 a7 a8 a9=lpK (s a0 a1 a2 a3 a4 a5 a6 a7 a8 a9) (λh=>f h.1 h.2.1 h.2.2.1 h.2.2.2.1 h.2.2.2.2.1 h.2.2.2.2.2.1 h.2.2.2.2.2.2.1 h.2.2.2.2.2.2.2.1 h.2.2.2.2.2.2.2.2.1 h.2.2.2.2.2.2.2.2.2):=h▸iO _ _
abbrev rh[LP]{A0 A1 A2 A3 A4 A5 A6 A7 A8 A9 cK R:Type}(s:A0->A1->A2->A3->A4->A5->A6->A7->A8->A9->cK->N ((A0×A1×A2×A3×A4×A5×A6×A7×A8×A9×cK) ⊕ R))(a0:A0)(a1:A1)(a2:A2)(a3:A3)(a4:A4)(a5:A5)(a6:A6)(a7:A7)(a8:A8)(a9:A9)(ej:cK):N R:=LP.lp (u8 unc3 s) (a0,a1,a2,a3,a4,a5,a6,a7,a8,a9,ej)
theorem tU{A0 A1 A2 A3 A4 A5 A6 A7 A8 A9 cK R:Type}(s:A0->A1->A2->A3->A4->A5->A6->A7->A8->A9->cK->N ((A0×A1×A2×A3×A4×A5×A6×A7×A8×A9×cK) ⊕ R))(f:A0->A1->A2->A3->A4->A5->A6->A7->A8->A9->cK->N R)(h:f=rh s:=by rfl)(a0 a1 a2 a3 a4 a5 a6 a7 a8 a9 ej):f a0 a1 a2 a3 a4 a5 a6 a7 a8 a9 ej=lpK (s a0 a1 a2 a3 a4 a5 a6 a7 a8 a9 ej) (λh=>f h.1 h.2.1 h.2.2.1 h.2.2.2.1 h.2.2.2.2.1 h.2.2.2.2.2.1 h.2.2.2.2.2.2.1 h.2.2.2.2.2.2.2.1 h.2.2.2.2.2.2.2.2.1 h.2.2.2.2.2.2.2.2.2.1 h.2.2.2.2.2.2.2.2.2.2):=h▸iO _ _
abbrev wK[LP]{A0 A1 A2 A3 A4 A5 A6 A7 A8 A9 cK dh R:Type}(s:A0->A1->A2->A3->A4->A5->A6->A7->A8->A9->cK->dh->N ((A0×A1×A2×A3×A4×A5×A6×A7×A8×A9×cK×dh) ⊕ R))(a0:A0)(a1:A1)(a2:A2)(a3:A3)(a4:A4)(a5:A5)(a6:A6)(a7:A7)(a8:A8)(a9:A9)(ej:cK)(eV:dh):N R:=LP.lp (u8 unc4 s) (a0,a1,a2,a3,a4,a5,a6,a7,a8,a9,ej,eV)
theorem AN{A0 A1 A2 A3 A4 A5 A6 A7 A8 A9 cK dh R:Type}(s:A0->A1->A2->A3->A4->A5->A6->A7->A8->A9->cK->dh->N ((A0×A1×A2×A3×A4×A5×A6×A7×A8×A9×cK×dh) ⊕ R))(f:A0->A1->A2->A3->A4->A5->A6->A7->A8->A9->cK->dh->N R)(h:f=wK s:=by rfl)(a0 a1 a2 a3 a4 a5 a6 a7 a8 a9 ej eV):f a0 a1 a2 a3 a4 a5 a6 a7 a8 a9 ej eV=lpK (s a0 a1 a2 a3 a4 a5 a6 a7 a8 a9 ej eV) (λh=>f h.1 h.2.1 h.2.2.1 h.2.2.2.1 h.2.2.2.2.1 h.2.2.2.2.2.1 h.2.2.2.2.2.2.1 h.2.2.2.2.2.2.2.1 h.2.2.2.2.2.2.2.2.1 h.2.2.2.2.2.2.2.2.2.1 h.2.2.2.2.2.2.2.2.2.2.1 h.2.2.2.2.2.2.2.2.2.2.2):=h▸iO _ _
abbrev wL[LP]{A0 A1 A2 A3 A4 A5 A6 A7 A8 A9 cK dh dB R:Type}(s:A0->A1->A2->A3->A4->A5->A6->A7->A8->A9->cK->dh->dB->N ((A0×A1×A2×A3×A4×A5×A6×A7×A8×A9×cK×dh×dB) ⊕ R))(a0:A0)(a1:A1)(a2:A2)(a3:A3)(a4:A4)(a5:A5)(a6:A6)(a7:A7)(a8:A8)(a9:A9)(ej:cK)(eV:dh)(a12:dB):N R:=LP.lp (u8 unc5 s) (a0,a1,a2,a3,a4,a5,a6,a7,a8,a9,ej,eV,a12)
theorem AO{A0 A1 A2 A3 A4 A5 A6 A7 A8 A9 cK dh dB R:Type}(s:A0->A1->A2->A3->A4->A5->A6->A7->A8->A9->cK->dh->dB->N ((A0×A1×A2×A3×A4×A5×A6×A7×A8×A9×cK×dh×dB) ⊕ R))(f:A0->A1->A2->A3->A4->A5->A6->A7->A8->A9->cK->dh->dB->N R)(h:f=wL s:=by rfl)(a0 a1 a2 a3 a4 a5 a6 a7 a8 a9 ej eV a12):f a0 a1 a2 a3 a4 a5 a6 a7 a8 a9 ej eV a12=lpK (s a0 a1 a2 a3 a4 a5 a6 a7 a8 a9 ej eV a12) (λh=>f h.1 h.2.1 h.2.2.1 h.2.2.2.1 h.2.2.2.2.1 h.2.2.2.2.2.1 h.2.2.2.2.2.2.1 h.2.2.2.2.2.2.2.1 h.2.2.2.2.2.2.2.2.1 h.2.2.2.2.2.2.2.2.2.1 h.2.2.2.2.2.2.2.2.2.2.1 h.2.2.2.2.2.2.2.2.2.2.2.1 h.2.2.2.2.2.2.2.2.2.2.2.2):=h▸iO _ _
abbrev ph[LP]{A0 A1 A2 A3 A4 A5 A6 A7 A8 A9 cK dh dB ee R:Type}(s:A0->A1->A2->A3->A4->A5->A6->A7->A8->A9->cK->dh->dB->ee->N ((A0×A1×A2×A3×A4×A5×A6×A7×A8×A9×cK×dh×dB×ee) ⊕ R))(a0:A0)(a1:A1)(a2:A2)(a3:A3)(a4:A4)(a5:A5)(a6:A6)(a7:A7)(a8:A8)(a9:A9)(ej:cK)(eV:dh)(a12:dB)(gD:ee):N R:=LP.lp (u8 unc6 s) (a0,a1,a2,a3,a4,a5,a6,a7,a8,a9,ej,eV,a12,gD)
theorem ri{A0 A1 A2 A3 A4 A5 A6 A7 A8 A9 cK dh dB ee R:Type}(s:A0->A1->A2->A3->A4->A5->A6->A7->A8->A9->cK->dh->dB->ee->N ((A0×A1×A2×A3×A4×A5×A6×A7×A8×A9×cK×dh×dB×ee) ⊕ R))(f:A0->A1->A2->A3->A4->A5->A6->A7->A8->A9->cK->dh->dB->ee->N R)(h:f=ph s:=by rfl)(a0 a1 a2 a3 a4 a5 a6 a7 a8 a9 ej eV a12 gD):f a0 a1 a2 a3 a4 a5 a6 a7 a8 a9 ej eV a12 gD=lpK (s a0 a1 a2 a3 a4 a5 a6 a7 a8 a9 ej eV a12 gD) (λh=>f h.1 h.2.1 h.2.2.1 h.2.2.2.1 h.2.2.2.2.1 h.2.2.2.2.2.1 h.2.2.2.2.2.2.1 h.2.2.2.2.2.2.2.1 h.2.2.2.2.2.2.2.2.1 h.2.2.2.2.2.2.2.2.2.1 h.2.2.2.2.2.2.2.2.2.2.1 h.2.2.2.2.2.2.2.2.2.2.2.1 h.2.2.2.2.2.2.2.2.2.2.2.2.1 h.2.2.2.2.2.2.2.2.2.2.2.2.2):=h▸iO _ _
abbrev wM[LP]{A0 A1 A2 A3 A4 A5 A6 A7 A8 A9 cK dh dB ee fC R:Type}(s:A0->A1->A2->A3->A4->A5->A6->A7->A8->A9->cK->dh->dB->ee->fC->N ((A0×A1×A2×A3×A4×A5×A6×A7×A8×A9×cK×dh×dB×ee×fC) ⊕ R))(a0:A0)(a1:A1)(a2:A2)(a3:A3)(a4:A4)(a5:A5)(a6:A6)(a7:A7)(a8:A8)(a9:A9)(ej:cK)(eV:dh)(a12:dB)(gD:ee)(jH:fC):N R:=LP.lp (u8 unc7 s) (a0,a1,a2,a3,a4,a5,a6,a7,a8,a9,ej,eV,a12,gD,jH)
theorem AP{A0 A1 A2 A3 A4 A5 A6 A7 A8 A9 cK dh dB ee fC R:Type}(s:A0->A1->A2->A3->A4->A5->A6->A7->A8->A9->cK->dh->dB->ee->fC->N ((A0×A1×A2×A3×A4×A5×A6×A7×A8×A9×cK×dh×dB×ee×fC) ⊕ R))(f:A0->A1->A2->A3->A4->A5->A6->A7->A8->A9->cK->dh->dB->ee->fC->N R)(h:f=wM s:=by rfl)(a0 a1 a2 a3 a4 a5 a6 a7 a8 a9 ej eV a12 gD jH):f a0 a1 a2 a3 a4 a5 a6 a7 a8 a9 ej eV a12 gD jH=lpK (s a0 a1 a2 a3 a4 a5 a6 a7 a8 a9 ej eV a12 gD jH) (λh=>f h.1 h.2.1 h.2.2.1 h.2.2.2.1 h.2.2.2.2.1 h.2.2.2.2.2.1 h.2.2.2.2.2.2.1 h.2.2.2.2.2.2.2.1 h.2.2.2.2.2.2.2.2.1 h.2.2.2.2.2.2.2.2.2.1 h.2.2.2.2.2.2.2.2.2.2.1 h.2.2.2.2.2.2.2.2.2.2.2.1 h.2.2.2.2.2.2.2.2.2.2.2.2.1 h.2.2.2.2.2.2.2.2.2.2.2.2.2.1 h.2.2.2.2.2.2.2.2.2.2.2.2.2.2):=h▸iO _ _
abbrev AQ[LP]{A0 A1 A2 A3 A4 A5 A6 A7 A8 A9 cK dh dB ee fC gT gU R:Type}(s:A0->A1->A2->A3->A4->A5->A6->A7->A8->A9->cK->dh->dB->ee->fC->gT->gU->N ((A0×A1×A2×A3×A4×A5×A6×A7×A8×A9×cK×dh×dB×ee×fC×gT×gU) ⊕ R))(a0:A0)(a1:A1)(a2:A2)(a3:A3)(a4:A4)(a5:A5)(a6:A6)(a7:A7)(a8:A8)(a9:A9)(ej:cK)(eV:dh)(a12:dB)(gD:ee)(jH:fC)(mP:gT)(mQ:gU):N R:=LP.lp (u8 unc9 s) (a0,a1,a2,a3,a4,a5,a6,a7,a8,a9,ej,eV,a12,gD,jH,mP,mQ)
theorem FU{A0 A1 A2 A3 A4 A5 A6 A7 A8 A9 cK dh dB ee fC gT gU R:Type}(s:A0->A1->A2->A3->A4->A5->A6->A7->A8->A9->cK->dh->dB->ee->fC->gT->gU->N ((A0×A1×A2×A3×A4×A5×A6×A7×A8×A9×cK×dh×dB×ee×fC×gT×gU) ⊕ R))(f:A0->A1->A2->A3->A4->A5->A6->A7->A8->A9->cK->dh->dB->ee->fC->gT->gU->N R)(h:f=AQ s:=by rfl)(a0 a1 a2 a3 a4 a5 a6 a7 a8 a9 ej eV a12 gD jH mP mQ):f a0 a1 a2 a3 a4 a5 a6 a7 a8 a9 ej eV a12 gD jH mP mQ=lpK (s a0 a1 a2 a3 a4 a5 a6 a7 a8 a9 ej eV a12 gD jH mP mQ) (λh=>f h.1 h.2.1 h.2.2.1 h.2.2.2.1 h.2.2.2.2.1 h.2.2.2.2.2.1 h.2.2.2.2.2.2.1 h.2.2.2.2.2.2.2.1 h.2.2.2.2.2.2.2.2.1 h.2.2.2.2.2.2.2.2.2.1 h.2.2.2.2.2.2.2.2.2.2.1 h.2.2.2.2.2.2.2.2.2.2.2.1 h.2.2.2.2.2.2.2.2.2.2.2.2.1 h.2.2.2.2.2.2.2.2.2.2.2.2.2.1 h.2.2.2.2.2.2.2.2.2.2.2.2.2.2.1 h.2.2.2.2.2.2.2.2.2.2.2.2.2.2.2.1 h.2.2.2.2.2.2.2.2.2.2.2.2.2.2.2.2):=h▸iO _ _
abbrev AR[LP]{A0 A1 A2 A3 A4 A5 A6 A7 A8 A9 cK dh dB ee fC gT gU kD R:Type}(s:A0->A1->A2->A3->A4->A5->A6->A7->A8->A9->cK->dh->dB->ee->fC->gT->gU->kD->N ((A0×A1×A2×A3×A4×A5×A6×A7×A8×A9×cK×dh×dB×ee×fC×gT×gU×kD) ⊕ R))(a0:A0)(a1:A1)(a2:A2)(a3:A3)(a4:A4)(a5:A5)(a6:A6)(a7:A7)(a8:A8)(a9:A9)(ej:cK)(eV:dh)(a12:dB)(gD:ee)(jH:fC)(mP:gT)(mQ:gU)(a17:kD):N R:=LP.lp (u8 (u8 unc2) s) (a0,a1,a2,a3,a4,a5,a6,a7,a8,a9,ej,eV,a12,gD,jH,mP,mQ,a17)
theorem FV{A0 A1 A2 A3 A4 A5 A6 A7 A8 A9 cK dh dB ee fC gT gU kD R:Type}(s:A0->A1->A2->A3->A4->A5->A6->A7->A8->A9->cK->dh->dB->ee->fC->gT->gU->kD->N ((A0×A1×A2×A3×A4×A5×A6×A7×A8×A9×cK×dh×dB×ee×fC×gT×gU×kD) ⊕ R))(f:A0->A1->A2->A3->A4->A5->A6->A7->A8->A9->cK->dh->dB->ee->fC->gT->gU->kD->N R)(h:f=AR s:=by rfl)(a0 a1 a2 a3 a4 a5 a6 a7 a8 a9 ej eV a12 gD jH mP mQ a17):f a0 a1 a2 a3 a4 a5 a6 a7 a8 a9 ej eV a12 gD jH mP mQ a17=lpK (s a0 a1 a2 a3 a4 a5 a6 a7 a8 a9 ej eV a12 gD jH mP mQ a17) (λh=>f h.1 h.2.1 h.2.2.1 h.2.2.2.1 h.2.2.2.2.1 h.2.2.2.2.2.1 h.2.2.2.2.2.2.1 h.2.2.2.2.2.2.2.1 h.2.2.2.2.2.2.2.2.1 h.2.2.2.2.2.2.2.2.2.1 h.2.2.2.2.2.2.2.2.2.2.1 h.2.2.2.2.2.2.2.2.2.2.2.1 h.2.2.2.2.2.2.2.2.2.2.2.2.1 h.2.2.2.2.2.2.2.2.2.2.2.2.2.1 h.2.2.2.2.2.2.2.2.2.2.2.2.2.2.1 h.2.2.2.2.2.2.2.2.2.2.2.2.2.2.2.1 h.2.2.2.2.2.2.2.2.2.2.2.2.2.2.2.2.1 h.2.2.2.2.2.2.2.2.2.2.2.2.2.2.2.2.2):=h▸iO _ _
abbrev AS[LP]{A0 A1 A2 A3 A4 A5 A6 A7 A8 A9 cK dh dB ee fC gT gU kD pj pk R:Type}(s:A0->A1->A2->A3->A4->A5->A6->A7->A8->A9->cK->dh->dB->ee->fC->gT->gU->kD->pj->pk->N ((A0×A1×A2×A3×A4×A5×A6×A7×A8×A9×cK×dh×dB×ee×fC×gT×gU×kD×pj×pk) ⊕ R))(a0:A0)(a1:A1)(a2:A2)(a3:A3)(a4:A4)(a5:A5)(a6:A6)(a7:A7)(a8:A8)(a9:A9)(ej:cK)(eV:dh)(a12:dB)(gD:ee)(jH:fC)(mP:gT)(mQ:gU)(a17:kD)(wN:pj)(wO:pk):N R:=LP.lp (u8 (u8 unc4) s) (a0,a1,a2,a3,a4,a5,a6,a7,a8,a9,ej,eV,a12,gD,jH,mP,mQ,a17,wN,wO)
theorem FW{A0 A1 A2 A3 A4 A5 A6 A7 A8 A9 cK dh dB ee fC gT gU kD pj pk R:Type}(s:A0->A1->A2->A3->A4->A5->A6->A7->A8->A9->cK->dh->dB->ee->fC->gT->gU->kD->pj->pk->N ((A0×A1×A2×A3×A4×A5×A6×A7×A8×A9×cK×dh×dB×ee×fC×gT×gU×kD×pj×pk) ⊕ R))(f:A0->A1->A2->A3->A4->A5->A6->A7->A8->A9->cK->dh->dB->ee->fC->gT->gU->kD->pj->pk->N R)(h:f=AS s:=by rfl)(a0 a1 a2 a3 a4 a5 a6 a7 a8 a9 ej eV a12 gD jH mP mQ a17 wN wO):f a0 a1 a2 a3 a4 a5 a6 a7 a8 a9 ej eV a12 gD jH mP mQ a17 wN wO=lpK (s a0 a1 a2 a3 a4 a5 a6 a7 a8 a9 ej eV a12 gD jH mP mQ a17 wN wO) (λh=>f h.1 h.2.1 h.2.2.1 h.2.2.2.1 h.2.2.2.2.1 h.2.2.2.2.2.1 h.2.2.2.2.2.2.1 h.2.2.2.2.2.2.2.1 h.2.2.2.2.2.2.2.2.1 h.2.2.2.2.2.2.2.2.2.1 h.2.2.2.2.2.2.2.2.2.2.1 h.2.2.2.2.2.2.2.2.2.2.2.1 h.2.2.2.2.2.2.2.2.2.2.2.2.1 h.2.2.2.2.2.2.2.2.2.2.2.2.2.1 h.2.2.2.2.2.2.2.2.2.2.2.2.2.2.1 h.2.2.2.2.2.2.2.2.2.2.2.2.2.2.2.1 h.2.2.2.2.2.2.2.2.2.2.2.2.2.2.2.2.1 h.2.2.2.2.2.2.2.2.2.2.2.2.2.2.2.2.2.1 h.2.2.2.2.2.2.2.2.2.2.2.2.2.2.2.2.2.2.1 h.2.2.2.2.2.2.2.2.2.2.2.2.2.2.2.2.2.2.2):=h▸iO _ _
abbrev AU[LP]{A0 A1 A2 A3 A4 A5 A6 A7 A8 A9 cK dh dB ee fC gT gU kD pj pk AV AW R:Type}(s:A0->A1->A2->A3->A4->A5->A6->A7->A8->A9->cK->dh->dB->ee->fC->gT->gU->kD->pj->pk->AV->AW->N ((A0×A1×A2×A3×A4×A5×A6×A7×A8×A9×cK×dh×dB×ee×fC×gT×gU×kD×pj×pk×AV×AW) ⊕ R))(a0:A0)(a1:A1)(a2:A2)(a3:A3)(a4:A4)(a5:A5)(a6:A6)(a7:A7)(a8:A8)(a9:A9)(ej:cK)(eV:dh)(a12:dB)(gD:ee)(jH:fC)(mP:gT)(mQ:gU)(a17:kD)(wN:pj)(wO:pk)(a20:AV)(a21:AW):N R:=LP.lp (u8 (u8 unc6) s) (a0,a1,a2,a3,a4,a5,a6,a7,a8,a9,ej,eV,a12,gD,jH,mP,mQ,a17,wN,wO,a20,a21)
theorem FX{A0 A1 A2 A3 A4 A5 A6 A7 A8 A9 cK dh dB ee fC gT gU kD pj pk AV AW R:Type}(s:A0->A1->A2->A3->A4->A5->A6->A7->A8->A9->cK->dh->dB->ee->fC->gT->gU->kD->pj->pk->AV->AW->N ((A0×A1×A2×A3×A4×A5×A6×A7×A8×A9×cK×dh×dB×ee×fC×gT×gU×kD×pj×pk×AV×AW) ⊕ R))(f:A0->A1->A2->A3->A4->A5->A6->A7->A8->A9->cK->dh->dB->ee->fC->gT->gU->kD->pj->pk->AV->AW->N R)(h:f=AU s:=by rfl)(a0 a1 a2 a3 a4 a5 a6 a7 a8 a9 ej eV a12 gD jH mP mQ a17 wN wO a20 a21):f a0 a1 a2 a3 a4 a5 a6 a7 a8 a9 ej eV a12 gD jH mP mQ a17 wN wO a20 a21=lpK (s a0 a1 a2 a3 a4 a5 a6 a7 a8 a9 ej eV a12 gD jH mP mQ a17 wN wO a20 a21) (λh=>f h.1 h.2.1 h.2.2.1 h.2.2.2.1 h.2.2.2.2.1 h.2.2.2.2.2.1 h.2.2.2.2.2.2.1 h.2.2.2.2.2.2.2.1 h.2.2.2.2.2.2.2.2.1 h.2.2.2.2.2.2.2.2.2.1 h.2.2.2.2.2.2.2.2.2.2.1 h.2.2.2.2.2.2.2.2.2.2.2.1 h.2.2.2.2.2.2.2.2.2.2.2.2.1 h.2.2.2.2.2.2.2.2.2.2.2.2.2.1 h.2.2.2.2.2.2.2.2.2.2.2.2.2.2.1 h.2.2.2.2.2.2.2.2.2.2.2.2.2.2.2.1 h.2.2.2.2.2.2.2.2.2.2.2.2.2.2.2.2.1 h.2.2.2.2.2.2.2.2.2.2.2.2.2.2.2.2.2.1 h.2.2.2.2.2.2.2.2.2.2.2.2.2.2.2.2.2.2.1 h.2.2.2.2.2.2.2.2.2.2.2.2.2.2.2.2.2.2.2.1 h.2.2.2.2.2.2.2.2.2.2.2.2.2.2.2.2.2.2.2.2.1 h.2.2.2.2.2.2.2.2.2.2.2.2.2.2.2.2.2.2.2.2.2):=h▸iO _ _
def jnr(a:X J):N Bool:=
 let b:=S a.length
 K (L (b<=500))
def jns(a:Æ):N bz:=
 let j:an:=[((À #[122]),(0,([]:bn)))]
 let e:aq:=[((À #[97]),(0,(([]:ah),(0,(0,Z))))),((À #[98]),(0,(([]:ah),(0,(0,Z)))))]
 let d:X Int:=[0,1]
 let g:ah:=[(0,432000)]
 let b:aH:=[((À #[108,111,119]),(0,((4,0),(2,(1,(d,(g,(0,0))))))))]
 cond a (let k:ah:=[(432000,604800)]
 let f:aH:=[((À #[101,110,100]),(0,((4,0),(2,(1,(d,(k,(0,0))))))))]
 cond (L (O b+O f<=aK)) (let l:aH:=b++f
 let i:aA:=[((À #[115]),(l,([]:ag)))]
 K (j,(e,(([]:aw),i)))) U) (let c:aA:=[((À #[115]),(b,([]:ag)))]
 K (j,(e,(([]:aw),c))))
def ja2(a:dA):N ByteArray:=K a.1
def jet(a:J):N Bool:=K (cond (L (a>=97)) (L (a<=122)) Z)
def jl1(a:J):N Bool:=K (cond (L (a>=48)) (L (a<=57)) Z)
def j64(i:W)(c b:J):N ((W×J×J) ⊕ (Æ ⊕ Ê)):=cond (L (b<c)) (cond (inR b (Â i)) (let a:=eJ i b
 (jet a).bind λd=>cond (!d) ((jl1 a).bind λg=>cond (cond (cond (!g) (a != 95) Z) (a != 45) Z) (K (.inr (.inl Z))) (let e:=w64 (b+1)
 K (.inl (i,c,e)))) (let f:=w64 (b+1)
 K (.inl (i,c,f)))) U) (K (.inr (.inr ())))
def OX[LP]:=re j64
abbrev ZJ:=r6 j64 OX
def jh4[LP](a:W):N Bool:=
 let f:=S (Â a)
 let b:Bool:=cond (È a==È Y) Á (L (f>24))
 cond ((inR 0 (Â a)) || !(!b)) (let e:=eJ a 0
 cond b (K Z) ((jet e).bind λc=>cond (!c) (K Z) (let d:=S (Â a)
 (OX a d 0).bind λg=>sumC g (λi=>K i) (λj=>K Á)))) U
def j5r[LP](b:W)(a:X (W×Æ)):N (J×(X (W×Æ))):=(jh4 b).bind λd=>cond (!d) (K (2,a)) (cond (iQ Z a b) (K (4,a)) (let c:(X (W×Æ)):=kV a b Á
 K (0,c)))
def j9l(a b c:J):N Bool:=K (cond (L (a>=b)) (L (a<=c)) Z)
def jcP(a:wI):N Int:=(j9l a.1 1970 2240).bind λi=>cond (!i) (K 1) ((j9l a.2.1 a.1 2240).bind λf=>cond (!f) (K 1) ((j9l a.2.2.1 1 12).bind λg=>cond (!g) (K 1) ((j9l a.2.2.2.1 1 5).bind λe=>cond (!e) (K 1) ((j9l a.2.2.2.2.1 0 6).bind λd=>cond (!d) (K 1) ((j9l a.2.2.2.2.2.1 0 86399).bind λc=>cond (!c) (K 1) ((j9l a.2.2.2.2.2.2 (-64800) 64800).bind λb=>cond (!b) (K 1) (K 0)))))))
def jnt(a:J):N Bool:=
 let d:=Ã a 4
 let c:=Ã a 100
 let b:=Ã a 400
 K (cond (d==0) (cond (c != 0) Á (b==0)) Z)
def j91(c a:J):N Int:=cond (cond (L (a<1)) Á (L (a>12))) (K 0) (let f:X Int:=[31,28,31,30,31,30,31,31,30,31,30,31]
 let j:X Int:=Å 12 0
 cond (a==2) ((jnt c).bind λi=>cond i (K 29) (let e:=w64 (a-1)
 cond (inR e 12) (let g:=M f e.toNat 0
 K g) U)) (let b:=w64 (a-1)
 cond (inR b 12) (let d:=M f b.toNat 0
 K d) U))
def jeu(a:wH):N Bool:=cond (L (a.1>=1970)) (cond (L (a.1<=2240)) (cond (L (a.2.2>=1)) ((j91 a.1 a.2.1).bind λb=>K (L (a.2.2<=b))) (K Z)) (K Z)) (K Z)
def jad(b a:J):N Int:=cond (!(a==0)) (let c:=w64 (Ç b a)
 cond (!(a==0)) (let d:=Ã b a
 cond (L (d<0)) (let e:=w64 (c-1)
 K e) (K c)) U) U
def j6x(a:J):N Int:=
 let b:=w64 (a-1)
 let k:=w64 (a-1970)
 let l:=w64 (365*k)
 (jad b 4).bind λc=>let g:=w64 (l+c)
 (jad b 100).bind λi=>let j:=w64 (g-i)
 (jad b 400).bind λe=>let d:=w64 (j+e)
 let f:=w64 (d-477)
 K f
def j52(i f g a e:J):N ((J×J×J×J×J) ⊕ (J)):=cond (L (f<a)) ((j91 g f).bind λd=>let b:=w64 (i+d)
 let c:=w64 (f+1)
 K (.inl (b,c,g,a,e))) (K (.inr i))
def OY[LP]:=gL j52
abbrev ZK:=ir j52 OY
def jfI[LP](a:wH):N Int:=(j6x a.1).bind λd=>let b:=w64 (d+a.2.2)
 let c:=w64 (b-1)
 (OY c 1 a.1 a.2.1 a.2.2).bind λe=>K e
def j7i(a:J):N Int:=
 let c:=Ã a 7
 let b:=w64 (c+10)
 let d:=Ã b 7
 K d
def jm9[LP](c b d a:J):N (J×J):=(jeu (c,(b,1))).bind λp=>let t:Bool:=cond (cond (!p) Á (L (d<1))) Á (L (d>5))
 let o:Bool:=cond (cond t Á (L (a<0))) Á (L (a>6))
 cond o (K (0,1)) ((jfI (c,(b,1))).bind λe=>(j7i e).bind λr=>let q:=w64 (a-r)
 let s:=w64 (q+7)
 let l:=Ã s 7
 let j:=w64 (e+l)
 let m:=w64 (d-1)
 let g:=w64 (7*m)
 let f:=w64 (j+g)
 (j91 c b).bind λk=>let i:=w64 (e+k)
 cond (L (f>=i)) (let n:=w64 (f-7)
 K (n,0)) (K (f,0)))
def j40(b a:J×J):N Int:=
 let c:=w64 (b.1-a.1)
 K c
def j0u(l p q b:J)(a:ah):N ((J×J×J×J×ah) ⊕ (J×J×J×ah)):=cond (L (b>l)) (cond (inR b a.length) (let i:=M a b.toNat (0,0)
 let e:=w64 (b-1)
 cond (inR e a.length) (let k:=M a e.toNat (0,0)
 (j40 i k).bind λo=>cond (L (o<0)) (let f:=w64 (b-1)
 let g:=w64 (b-1)
 cond (inR g a.length) (let d:=M a g.toNat (0,0)
 cond (inR b a.length) (let c:=M a b.toNat (0,0)
 cond (inR b a.length) (let j:ah:=Ä a b.toNat d
 cond (inR f j.length) (let n:ah:=Ä j f.toNat c
 let m:=w64 (b-1)
 K (.inl (l,p,q,m,n))) U) U) U) U) (K (.inr (l,p,q,a)))) U) U) (K (.inr (l,p,q,a)))
def OZ[LP]:=gL j0u
abbrev ZL:=ir j0u OZ
def j0h[LP](f d c:J)(e:ah):N ((J×J×J×ah) ⊕ (ah)):=cond (L (c<d)) ((OZ f d c c e).bind λa=>let b:=w64 (a.2.2.1+1)
 K (.inl (a.1,a.2.1,b,a.2.2.2))) (K (.inr e))
def O0[LP]:=kC j0h
abbrev O1:=lz j0h O0
def j0v[LP](a:ah)(b c:J):N ah:=
 let d:=w64 (b+1)
 (O0 b c d a).bind λe=>K e
def j2J(n m o a:J)(b:ah):N ((J×J×J×J×ah) ⊕ (ah)):=cond (L (a<o)) (let e:=w64 (n+a)
 let c:=w64 (m+a)
 let j:=w64 (m+a)
 cond (inR j b.length) (let f:=M b j.toNat (0,0)
 let i:=w64 (n+a)
 cond (inR i b.length) (let g:=M b i.toNat (0,0)
 cond (inR e b.length) (let d:ah:=Ä b e.toNat f
 cond (inR c d.length) (let l:ah:=Ä d c.toNat g
 let k:=w64 (a+1)
 K (.inl (n,m,o,k,l))) U) U) U) U) (K (.inr b))
def j7H[LP]:=gL j2J
def j1m[LP](a:ah)(d b c:J):N ah:=(j7H d b c 0 a).bind λe=>K e
def j3l[LP](c a b:J)(m:ah):N ((J×J×J×ah) ⊕ (J×J×ah)):=cond (a != b) (cond (L (a>b)) (let l:=w64 (c-a)
 (j1m m l c b).bind λg=>let d:=w64 (a-b)
 K (.inl (c,d,b,g))) (let e:=w64 (c-a)
 let j:=w64 (c+b)
 let f:=w64 (j-a)
 (j1m m e f a).bind λi=>let k:=w64 (b-a)
 K (.inl (c,a,k,i)))) (K (.inr (c,a,m)))
def j8B[LP]:=kC j3l
def j2K[LP](b:ah)(e a d:J):N ah:=
 let j:=w64 (a-e)
 let g:=w64 (d-a)
 (j8B a j g b).bind λc=>let f:=w64 (c.1-c.2.1)
 (j1m c.2.2 f c.1 c.2.1).bind λi=>K i
def j2T(n:ah->J->J->J->N (ah))(f c g:J)(a:ah):N ((J×J×J×ah) ⊕ (J×J×ah)):=cond (L (c<g)) (let j:=w64 (c+g)
 let m:Int:=É .u64 j
 let i:Int:=Ì m 2
 let d:=w64 i
 cond (inR d a.length) (let e:=M a d.toNat (0,0)
 cond (inR f a.length) (let b:=M a f.toNat (0,0)
 (j40 e b).bind λk=>cond (L (k<0)) (let l:=w64 (d+1)
 K (.inl (f,l,g,a))) (K (.inl (f,c,d,a)))) U) U) (K (.inr (f,c,a)))
def j89[LP](b:ah->J->J->J->N (ah))(d a c:J)(e:ah):N (J×J×ah):=LP.lp (unc4 (j2T b)) (d,a,c,e)
def j2U(m:ah->J->J->J->N (ah))(l a:J)(b:ah):N ((J×J×ah) ⊕ (ah)):=
 let i:=w64 (l-1)
 cond (L (a<i)) (let c:=w64 (a+1)
 let d:=w64 (a+1)
 cond (inR d b.length) (let e:=M b d.toNat (0,0)
 cond (inR a b.length) (let g:=M b a.toNat (0,0)
 cond (inR a b.length) (let f:ah:=Ä b a.toNat e
 cond (inR c f.length) (let j:ah:=Ä f c.toNat g
 let k:=w64 (a+1)
 K (.inl (l,k,j))) U) U) U) U) (K (.inr b))
def j8a[LP](c:ah->J->J->J->N (ah))(a b:J)(d:ah):N ah:=LP.lp (unc3 (j2U c)) (a,b,d)
def j2V(n:ah->J->J->J->N (ah))(f d g:J)(b:ah):N ((J×J×J×ah) ⊕ (J×J×ah)):=cond (L (d<g)) (let k:=w64 (d+g)
 let l:Int:=É .u64 k
 let m:Int:=Ì l 2
 let c:=w64 m
 cond (inR f b.length) (let e:=M b f.toNat (0,0)
 cond (inR c b.length) (let a:=M b c.toNat (0,0)
 (j40 e a).bind λj=>cond (!(L (j<0))) (let i:=w64 (c+1)
 K (.inl (f,i,g,b))) (K (.inl (f,d,c,b)))) U) U) (K (.inr (f,d,b)))
def j8b[LP](c:ah->J->J->J->N (ah))(d a b:J)(e:ah):N (J×J×ah):=LP.lp (unc4 (j2V c)) (d,a,b,e)
def j2W(l:ah->J->J->J->N (ah))(k a:J)(f:ah):N ((J×J×ah) ⊕ (ah)):=cond (L (a>k)) (let e:=w64 (a-1)
 let d:=w64 (a-1)
 cond (inR d f.length) (let b:=M f d.toNat (0,0)
 cond (inR a f.length) (let c:=M f a.toNat (0,0)
 cond (inR a f.length) (let g:ah:=Ä f a.toNat b
 cond (inR e g.length) (let j:ah:=Ä g e.toNat c
 let i:=w64 (a-1)
 K (.inl (k,i,j))) U) U) U) U) (K (.inr f))
def j8c[LP](c:ah->J->J->J->N (ah))(b a:J)(d:ah):N ah:=LP.lp (unc3 (j2W c)) (b,a,d)
def j2X(t:ah->J->J->J->N (ah))(r q s j m f n g:J)(e:ah):N ((J×J×J×J×J×J×J×J×ah) ⊕ (J×J×J×J×J×J×ah)):=cond (L (f<n)) (let p:=w64 (f+n)
 let l:Int:=É .u64 p
 let o:Int:=Ì l 2
 let a:=w64 o
 let d:=w64 (g-a)
 cond (inR d e.length) (let b:=M e d.toNat (0,0)
 cond (inR a e.length) (let c:=M e a.toNat (0,0)
 (j40 b c).bind λk=>cond (!(L (k<0))) (let i:=w64 (a+1)
 K (.inl (r,q,s,j,m,i,n,g,e))) (K (.inl (r,q,s,j,m,f,a,g,e)))) U) U) (K (.inr (r,q,s,j,m,f,e)))
def ZM[LP](d:ah->J->J->J->N (ah))(i g k a e c f b:J)(j:ah):N (J×J×J×J×J×J×ah):=LP.lp (unc9 (j2X d)) (i,g,k,a,e,c,f,b,j)
def j7j[LP](e:ah->J->J->J->N (ah))(g:ah)(i f j:J):N ah:=
 let b0:=w64 (f-i)
 cond (b0==1) ((j89 e i f j g).bind λa4=>(j8a e a4.2.1 a4.1 a4.2.2).bind λb2=>K b2) (let a9:=w64 (j-f)
 cond (a9==1) ((j8b e f i f g).bind λa5=>(j8c e a5.2.1 a5.1 a5.2.2).bind λb1=>K b1) (let a7:=w64 (i+j)
 let a2:Int:=É .u64 a7
 let l:Int:=Ì a2 2
 let k:=w64 ((w64 l)+f)
 cond (L (f>(w64 l))) (let a1:=w64 (k-j)
 let a8:=w64 (k-1)
 (ZM e i f j (w64 l) k a1 (w64 l) a8 g).bind λc=>let d:=w64 (c.2.2.2.2.1-c.2.2.2.2.2.1)
 cond (cond (L (c.2.2.2.2.2.1<c.2.1)) (L (c.2.1<d)) Z) ((j2K c.2.2.2.2.2.2 c.2.2.2.2.2.1 c.2.1 d).bind λq=>cond (cond (L (c.1<c.2.2.2.2.2.1)) (L (c.2.2.2.2.2.1<c.2.2.2.1)) Z) ((e q c.1 c.2.2.2.2.2.1 c.2.2.2.1).bind λu=>cond (cond (L (c.2.2.2.1<d)) (L (d<c.2.2.1)) Z) ((e u c.2.2.2.1 d c.2.2.1).bind λa6=>K a6) (K u)) (cond (cond (L (c.2.2.2.1<d)) (L (d<c.2.2.1)) Z) ((e q c.2.2.2.1 d c.2.2.1).bind λv=>K v) (K q))) (cond (cond (L (c.1<c.2.2.2.2.2.1)) (L (c.2.2.2.2.2.1<c.2.2.2.1)) Z) ((e c.2.2.2.2.2.2 c.1 c.2.2.2.2.2.1 c.2.2.2.1).bind λp=>cond (cond (L (c.2.2.2.1<d)) (L (d<c.2.2.1)) Z) ((e p c.2.2.2.1 d c.2.2.1).bind λx=>K x) (K p)) (cond (cond (L (c.2.2.2.1<d)) (L (d<c.2.2.1)) Z) ((e c.2.2.2.2.2.2 c.2.2.2.1 d c.2.2.1).bind λa0=>K a0) (K c.2.2.2.2.2.2)))) (let w:=w64 (k-1)
 (ZM e i f j (w64 l) k i f w g).bind λa=>let b:=w64 (a.2.2.2.2.1-a.2.2.2.2.2.1)
 cond (cond (L (a.2.2.2.2.2.1<a.2.1)) (L (a.2.1<b)) Z) ((j2K a.2.2.2.2.2.2 a.2.2.2.2.2.1 a.2.1 b).bind λm=>let a3:Bool:=cond (L (a.1<a.2.2.2.2.2.1)) (L (a.2.2.2.2.2.1<a.2.2.2.1)) Z
 cond a3 ((e m a.1 a.2.2.2.2.2.1 a.2.2.2.1).bind λn=>cond (cond (L (a.2.2.2.1<b)) (L (b<a.2.2.1)) Z) ((e n a.2.2.2.1 b a.2.2.1).bind λt=>K t) (K n)) (cond (cond (L (a.2.2.2.1<b)) (L (b<a.2.2.1)) Z) ((e m a.2.2.2.1 b a.2.2.1).bind λr=>K r) (K m))) (let z:Bool:=cond (L (a.1<a.2.2.2.2.2.1)) (L (a.2.2.2.2.2.1<a.2.2.2.1)) Z
 cond z ((e a.2.2.2.2.2.2 a.1 a.2.2.2.2.2.1 a.2.2.2.1).bind λo=>cond (cond (L (a.2.2.2.1<b)) (L (b<a.2.2.1)) Z) ((e o a.2.2.2.1 b a.2.2.1).bind λs=>K s) (K o)) (cond (cond (L (a.2.2.2.1<b)) (L (b<a.2.2.1)) Z) ((e a.2.2.2.2.2.2 a.2.2.2.1 b a.2.2.1).bind λy=>K y) (K a.2.2.2.2.2.2))))))
def j13[LP](e:(ah×J×J×J)->N (ah))(h:ah×J×J×J):N ah:=j7j (λb c d a=>e (b,c,d,a)) h.1 h.2.1 h.2.2.1 h.2.2.2
def j2r[LP](a:ah)(b d c:J):N ah:=LP.rp j13 (a,b,d,c)
def j0V[LP](e d f c:J)(g:ah):N ((J×J×J×J×ah) ⊕ (J×J×J×ah)):=cond (L (c<=e)) ((j0v g f c).bind λa=>let b:=w64 (c+d)
 K (.inl (e,d,c,b,a))) (K (.inr (e,d,f,g)))
def O2[LP]:=gL j0V
abbrev j7I:=ir j0V O2
def j3m[LP](g a i f:J)(j:ah):N ((J×J×J×J×ah) ⊕ (J×J×J×ah)):=cond (L (f<=g)) (let b:=w64 (i+a)
 (j2r j i b f).bind λc=>let e:=w64 (2*a)
 let d:=w64 (f+e)
 K (.inl (g,a,f,d,c))) (K (.inr (g,a,i,j)))
def j8C[LP]:=gL j3m
def j0W[LP](i g:J)(j:ah):N ((J×J×ah) ⊕ (ah)):=cond (L (g<i)) (let f:=w64 (2*g)
 (j8C i g 0 f j).bind λa=>let b:=w64 (a.2.2.1+a.2.1)
 cond (L (b<a.1)) ((j2r a.2.2.2 a.2.2.1 b a.1).bind λe=>let c:=w64 (a.2.1*2)
 K (.inl (a.1,c,e))) (let d:=w64 (a.2.1*2)
 K (.inl (a.1,d,a.2.2.2)))) (K (.inr j))
def O3[LP]:=re j0W
abbrev j7J:=r6 j0W O3
def j2L[LP](a:ah)(c:J):N ah:=(O2 c 20 0 20 a).bind λb=>(j0v b.2.2.2 b.2.2.1 b.1).bind λd=>(O3 b.1 b.2.1 d).bind λe=>K e
def j0f[LP](a:ah):N ah:=
 let b:=S a.length
 (j2L a b).bind λc=>K c
def j2a(n:J)(f:bn)(l b:J)(m:W)(e:J)(d:bn):N ((J×bn×J×J×W×J×bn) ⊕ (J ⊕ (J×W×J×bn))):=cond (L (b<l)) (cond (inR b f.length) (let a:=M f b.toNat (0,(0,(0,(0,(0,(0,0))))))
 (jcP a).bind λc=>cond (c != 0) (K (.inr (.inl c))) (let j:=w64 (a.2.1-a.1)
 let g:=w64 (j+1)
 let i:=w64 (n+g)
 let k:=w64 (b+1)
 K (.inl (i,f,l,k,m,e,d)))) U) (K (.inr (.inr (n,m,e,d))))
def FY[LP]:=rf j2a
abbrev O4:=r7 j2a FY
def j32[LP](i:J)(p:bn)(o q s a e g d b f:J)(r:ah):N ((J×bn×J×J×J×J×J×J×J×J×J×ah) ⊕ (bn×J×J×ah)):=cond (L (i<=a)) ((jm9 i e g d).bind λn=>let k:=w64 (n.1*86400)
 let j:=w64 (k+b)
 let c:ah:=[(j,f)]
 cond (L (O r+O c<=aK)) (let l:ah:=r++c
 let m:=w64 (i+1)
 K (.inl (m,p,o,q,s,a,e,g,d,b,f,l))) U) (K (.inr (p,o,q,r)))
def O5[LP]:=wK j32
abbrev ZN:=AN j32 O5
def j33[LP](d:bn)(f c:J)(g:ah):N ((bn×J×J×ah) ⊕ (ah)):=cond (L (c<f)) (cond (inR c d.length) (let a:=M d c.toNat (0,(0,(0,(0,(0,(0,0))))))
 (O5 a.1 d f c a.1 a.2.1 a.2.2.1 a.2.2.2.1 a.2.2.2.2.1 a.2.2.2.2.2.1 a.2.2.2.2.2.2 g).bind λb=>let e:=w64 (b.2.2.1+1)
 K (.inl (b.1,b.2.1,e,b.2.2.2))) U) (K (.inr g))
def Jk[LP]:=kC j33
abbrev ZO:=lz j33 Jk
def j2R[LP](a:dA):N (ah×J):=(j9l a.2.1 (-64800) 64800).bind λc=>cond (!c) (K (([]:ah),1)) (let f:=S a.2.2.length
 cond (L (f>16)) (K (([]:ah),5)) (let b:=S a.2.2.length
 (FY 0 a.2.2 b 0 a.1 a.2.1 a.2.2).bind λj=>sumC j (λk=>K (([]:ah),k)) (λg=>cond (L (g.1>640)) (K (([]:ah),5)) (let e:=S g.2.2.2.length
 (Jk g.2.2.2 e 0 ([]:ah)).bind λi=>(j0f i).bind λd=>K (d,0)))))
def j1C(o m d:J)(b j:ah):N ((J×J×J×ah×ah) ⊕ (J ⊕ ah)):=cond (L (d<m)) (cond (inR d j.length) (let a:=M j d.toNat (0,0)
 cond (a.2==o) (let v:=w64 (d+1)
 K (.inl (o,m,v,b,j))) (let c:=w64 (a.1-o)
 let f:=w64 (a.2-o)
 cond (cond (L (f>=86400)) Á (L (f<=(-86400)))) (let s:=S b.length
 let n:=S b.length
 let i:=w64 (n-1)
 cond ((inR i b.length) || !((!Á)&&(L (s>0)))) (let r:=(M b i.toNat (0,0)).1
 let x:=w64 (r+604800)
 K (.inr (.inl 6))) U) ((j9l c 0 8589934592).bind λk=>let e:=S b.length
 let q:=S b.length
 let l:=w64 (q-1)
 cond ((inR l b.length) || !((!(!k))&&(L (e>0)))) (let w:=(M b l.toNat (0,0)).1
 let u:=w64 (w+604800)
 cond (cond (!k) Á (cond (L (e>0)) (L (c<u)) Z)) (K (.inr (.inl 6))) (let g:ah:=[(c,a.2)]
 cond (L (O b+O g<=aK)) (let p:ah:=b++g
 let t:=w64 (d+1)
 K (.inl (a.2,m,t,p,j))) U)) U))) U) (K (.inr (.inr b)))
def FZ[LP]:=gL j1C
abbrev Jl:=ir j1C FZ
def j14[LP](a:dA):N (ah×J):=(j2R a).bind λb=>cond (b.2 != 0) (K (([]:ah),b.2)) (let c:=S b.1.length
 (FZ a.2.1 c 0 ([]:ah) b.1).bind λd=>sumC d (λf=>K (([]:ah),f)) (λe=>K (e,0)))
def jh5[LP](a:dA):N Int:=(j14 a).bind λb=>K b.2
def j9m(a:wI):N Bool:=
 let b:=Ã a.2.2.2.2.2.2 60
 K (b != 0)
def j0i(e:bn)(f b:J):N ((bn×J×J) ⊕ (J ⊕ Ê)):=cond (L (b<f)) (cond (inR b e.length) (let a:=M e b.toNat (0,(0,(0,(0,(0,(0,0))))))
 (j9m a).bind λd=>cond d (K (.inr (.inl b))) (let c:=w64 (b+1)
 K (.inl (e,f,c)))) U) (K (.inr (.inr ())))
def O6[LP]:=re j0i
abbrev ZP:=r6 j0i O6
def j1T[LP](a:bn):N Int:=
 let b:=S a.length
 (O6 a b 0).bind λc=>sumC c (λd=>K d) (λe=>K (-1))
def j0S[LP](a:bn):N Bool:=(j1T a).bind λb=>K (L (b>=0))
def j2s[LP](a:dA):N Int:=(jh5 a).bind λc=>let d:=Ã a.2.1 60
 cond (cond (c != 0) Á (d != 0)) (K 8) ((j0S a.2.2).bind λb=>cond b (K 8) (K 0))
def j1c[LP](e:an)(i c:J)(j:X (W×Æ)):N ((an×J×J×(X (W×Æ))) ⊕ (J ⊕ Ê)):=cond (L (c<i)) (cond (inR c e.length) (let a:=M e c.toNat (Y,(0,([]:bn)))
 (ja2 a).bind λf=>(j5r f j).bind λb=>cond (b.1 != 0) (K (.inr (.inl b.1))) ((j2s a).bind λd=>cond (d != 0) (K (.inr (.inl d))) (let g:=w64 (c+1)
 K (.inl (e,i,g,b.2))))) U) (K (.inr (.inr ())))
def C0[LP]:=kC j1c
abbrev O7:=lz j1c C0
def j3U[LP](a:an):N Int:=
 let b:(X (W×Æ)):=[]
 let c:=S a.length
 (C0 a c 0 b).bind λd=>sumC d (λe=>K e) (λf=>K 0)
def j1a(a b:J):N Bool:=K (cond (L (a>=0)) (L (a<b)) Z)
def j65(j i:ah)(k b:J):N ((ah×ah×J×J) ⊕ (J ⊕ Ê)):=cond (L (b<k)) (cond (inR b i.length) (let a:=M i b.toNat (0,0)
 let f:Bool:=cond (cond (L (a.1<0)) Á (L (a.1>=a.2))) Á (L (a.2>604800))
 cond f (K (.inr (.inl 1))) (cond (L (b>0)) (let c:=w64 (b-1)
 cond (inR c j.length) (let d:=M j c.toNat (0,0)
 cond (L (a.1<d.2)) (K (.inr (.inl 6))) (let g:=w64 (b+1)
 K (.inl (j,i,k,g)))) U) (let e:=w64 (b+1)
 K (.inl (j,i,k,e))))) U) (K (.inr (.inr ())))
def O8[LP]:=kC j65
abbrev ZQ:=lz j65 O8
def jei[LP](a:ah):N Int:=
 let d:=S a.length
 cond (L (d>14)) (K 5) (let b:=S a.length
 (O8 a a b 0).bind λc=>sumC c (λe=>K e) (λf=>K 0))
def j3I(a b c:J):N Bool:=K (cond (L (a>=b)) (L (a<=c)) Z)
def j7l(a:J):N Bool:=(j3I a 0 604800).bind λb=>let c:=Ã a 3600
 K (cond b (c==0) Z)
def j5B[LP](b:bz)(a:wJ):N Int:=
 let e:=S b.1.length
 (j1a a.2.1 e).bind λf=>cond (!f) (K 3) ((jei a.2.2.1).bind λd=>cond (d != 0) (K 8) ((j7l a.2.2.2.1).bind λc=>cond (!c) (K 1) ((j7l a.2.2.2.2.1).bind λg=>cond (!g) (K 1) (K 0))))
def ja3(a:tR):N ByteArray:=K a.1
def j66(e d:J):N ((J×J) ⊕ (J)):=
 let b:=w64 (d+1)
 (j6x b).bind λc=>cond (L (c<=e)) (let a:=w64 (d+1)
 K (.inl (e,a))) (K (.inr d))
def O9[LP]:=FT j66
abbrev ZR:=Jj j66 O9
def jk4[LP](a:J):N Int:=(jad a 366).bind λb=>let c:=w64 (1970+b)
 (O9 a c).bind λd=>K d
def j53(k l d b j a c:J):N ((J×J×J×J×J×J×J) ⊕ (J×J×J×J×J×J×J)):=(j91 j a).bind λi=>cond (L (k>=i)) ((j91 j a).bind λf=>let e:=w64 (k-f)
 let g:=w64 (a+1)
 K (.inl (e,l,d,b,j,g,c))) (K (.inr (k,l,d,b,j,a,c)))
def Pa[LP]:=rf j53
abbrev ZS:=r7 j53 Pa
def j67[LP](a:J):N (wH×J):=(j6x 1970).bind λi=>cond (L (a<i)) (K ((0,(0,0)),1)) ((j6x 2241).bind λf=>cond (L (a>=f)) (K ((0,(0,0)),1)) ((jk4 a).bind λb=>(j6x b).bind λd=>let e:=w64 (a-d)
 (Pa e 0 0 0 b 1 0).bind λc=>let g:=w64 (c.1+1)
 K ((c.2.2.2.2.1,(c.2.2.2.2.2.1,g)),0)))
def j15[LP](a:J):N Bool:=(j67 a).bind λb=>K (b.2==0)
def j4G[LP](a:J):N Bool:=(j15 a).bind λb=>K (!b)
def j0D[LP](e:X J)(f a:J):N (((X J)×J×J) ⊕ (J ⊕ Ê)):=cond (L (a<f)) (cond (inR a e.length) (let c:=M e a.toNat 0
 (j4G c).bind λd=>cond d (K (.inr (.inl a))) (let b:=w64 (a+1)
 K (.inl (e,f,b)))) U) (K (.inr (.inr ())))
def Jm[LP]:=re j0D
abbrev Jn:=r6 j0D Jm
def j4H[LP](a:X J):N Int:=
 let b:=S a.length
 (Jm a b 0).bind λc=>sumC c (λd=>K d) (λe=>K (-1))
def j1E[LP](a:X J):N Bool:=(j4H a).bind λb=>K (L (b>=0))
def j0p(e b:J)(k:W)(d:J)(a:X J):N ((J×J×W×J×(X J)) ⊕ (J ⊕ Ê)):=cond (L (b<e)) (cond (L (b>0)) (cond (inR b a.length) (let j:=M a b.toNat 0
 let c:=w64 (b-1)
 cond (inR c a.length) (let i:=M a c.toNat 0
 cond (L (j<=i)) (K (.inr (.inl 6))) (let g:=w64 (b+1)
 K (.inl (e,g,k,d,a)))) U) U) (let f:=w64 (b+1)
 K (.inl (e,f,k,d,a)))) (K (.inr (.inr ())))
def F0[LP]:=gL j0p
abbrev C1:=ir j0p F0
def j2g[LP](b:bz)(a:tR):N Int:=
 let f:=S b.1.length
 (j1a a.2.1 f).bind λd=>cond (!d) (K 3) (let g:=S a.2.2.length
 cond (L (g>64)) (K 5) ((j1E a.2.2).bind λe=>cond e (K 1) (let c:=S a.2.2.length
 (F0 c 0 a.1 a.2.1 a.2.2).bind λi=>sumC i (λj=>K j) (λk=>K 0))))
def ja4[LP](a:tR)(f:an)(d:aq)(c:aw)(b:aA):N Int:=(j2g (f,(d,(c,b))) a).bind λe=>K e
def j0P[LP](m:an)(i:aq)(f:aw)(e:aA)(g:aw)(l c:J)(n:X (W×Æ)):N ((an×aq×aw×aA×aw×J×J×(X (W×Æ))) ⊕ (J ⊕ Ê)):=cond (L (c<l)) (cond (inR c g.length) (let a:=M g c.toNat (Y,(0,([]:(X J))))
 (ja3 a).bind λj=>(j5r j n).bind λb=>cond (b.1 != 0) (K (.inr (.inl b.1))) ((ja4 a m i f e).bind λd=>cond (d != 0) (K (.inr (.inl d))) (let k:=w64 (c+1)
 K (.inl (m,i,f,e,g,l,k,b.2))))) U) (K (.inr (.inr ())))
def C2[LP]:=r9 j0P
abbrev Pb:=tT j0P C2
def j2A[LP](e:aw)(d:an)(b:aq)(c:aw)(a:aA):N Int:=
 let f:(X (W×Æ)):=[]
 let g:=S e.length
 (C2 d b c a e g 0 f).bind λi=>sumC i (λj=>K j) (λk=>K 0)
def ja5(a:kA):N ByteArray:=K a.1
def j4I(a:eD):N ByteArray:=K a.1
def j68(a:J)(g:an)(b:aq)(d:aw)(c:aA):N Bool:=
 let e:=S b.length
 (j1a a e).bind λf=>K (!f)
def j0q(i:X J)(j:an)(d:aq)(c:aw)(b:aA)(k a:J):N (((X J)×an×aq×aw×aA×J×J) ⊕ (J ⊕ Ê)):=cond (L (a<k)) (cond (inR a i.length) (let f:=M i a.toNat 0
 (j68 f j d c b).bind λg=>cond g (K (.inr (.inl a))) (let e:=w64 (a+1)
 K (.inl (i,j,d,c,b,k,e)))) U) (K (.inr (.inr ())))
def Jo[LP]:=rf j0q
abbrev Jp:=r7 j0q Jo
def j3q[LP](a:X J)(e:an)(d:aq)(c:aw)(b:aA):N Int:=
 let f:=S a.length
 (Jo a e d c b f 0).bind λg=>sumC g (λi=>K i) (λj=>K (-1))
def j1d[LP](d:X J)(e:an)(c:aq)(b:aw)(a:aA):N Bool:=(j3q d e c b a).bind λf=>K (L (f>=0))
def j22[LP](b:bz)(a:eD):N Int:=
 let e:=S b.1.length
 (j1a a.2.1 e).bind λk=>cond (!k) (K 3) (cond (L (a.2.2.1.1<1)) (K 1) ((j15 a.2.2.1.1).bind λm=>cond (!m) (K 1) ((j3I a.2.2.1.2 0 86399).bind λi=>cond (!i) (K 1) ((j3I a.2.2.2.1 0 2).bind λd=>cond (!d) (K 1) ((j3I a.2.2.2.2.1 1 400).bind λp=>cond (!p) (K 1) (let j:=S a.2.2.2.2.2.1.length
 cond (j==0) (K 7) (let l:=S a.2.2.2.2.2.1.length
 cond (L (l>12)) (K 5) ((j1d a.2.2.2.2.2.1 b.1 b.2.1 b.2.2.1 b.2.2.2).bind λf=>cond f (K 3) ((jei a.2.2.2.2.2.2.1).bind λc=>cond (c != 0) (K 8) ((j3I a.2.2.2.2.2.2.2.2 0 2).bind λo=>cond (!o) (K 1) (let g:=S b.2.2.1.length
 cond (a.2.2.2.2.2.2.2.2 != 0) ((j1a a.2.2.2.2.2.2.2.1 g).bind λn=>cond (!n) (K 3) (cond (cond (a.2.2.2.2.2.2.2.2==0) (a.2.2.2.2.2.2.2.1 != 0) Z) (K 1) (K 0))) (cond (cond (a.2.2.2.2.2.2.2.2==0) (a.2.2.2.2.2.2.2.1 != 0) Z) (K 1) (K 0)))))))))))))
def j4J[LP](a:eD)(f:an)(d:aq)(c:aw)(b:aA):N Int:=(j22 (f,(d,(c,b))) a).bind λe=>K e
def j10[LP](m:an)(i:aq)(f:aw)(e:aA)(g:aH)(l c:J)(n:X (W×Æ)):N ((an×aq×aw×aA×aH×J×J×(X (W×Æ))) ⊕ (J ⊕ Ê)):=cond (L (c<l)) (cond (inR c g.length) (let a:=M g c.toNat (Y,(0,((0,0),(0,(0,(([]:(X J)),(([]:ah),(0,0))))))))
 (j4I a).bind λj=>(j5r j n).bind λb=>cond (b.1 != 0) (K (.inr (.inl b.1))) ((j4J a m i f e).bind λd=>cond (d != 0) (K (.inr (.inl d))) (let k:=w64 (c+1)
 K (.inl (m,i,f,e,g,l,k,b.2))))) U) (K (.inr (.inr ())))
def C3[LP]:=r9 j10
abbrev Pc:=tT j10 C3
def j3r[LP](e:aH)(d:an)(b:aq)(c:aw)(a:aA):N Int:=
 let f:(X (W×Æ)):=[]
 let g:=S e.length
 (C3 d b c a e g 0 f).bind λi=>sumC i (λj=>K j) (λk=>K 0)
def j11[LP](g:bz)(a:mN):N Int:=
 let k:=S g.2.1.length
 (j3I a.1 0 2).bind λl=>cond (!l) (K 1) ((j1a a.2.1 k).bind λf=>cond (cond (!f) (!(cond (a.1==1) (a.2.1==(-1)) Z)) Z) (cond (cond (!f) (!(cond (a.1==1) (a.2.1==(-1)) Z)) Z) (K 3) (cond (cond (a.1 != 2) (a.2.2.1 != 0) Z) (K 1) (cond (cond (a.1==2) (a.2.1==a.2.2.1) Z) (K 4) (let m:=w64 (Ç a.2.2.2.2 86400)
 cond (cond (L (a.2.2.2.1<0)) Á (L (a.2.2.2.2<0))) (K 1) ((j15 m).bind λi=>cond (!i) (K 1) (cond (L (a.2.2.2.1>=a.2.2.2.2)) (K 6) (K 0))))))) (cond (a.1==2) ((j1a a.2.2.1 k).bind λj=>cond (!j) (K 3) (cond (cond (a.1 != 2) (a.2.2.1 != 0) Z) (K 1) (cond (cond (a.1==2) (a.2.1==a.2.2.1) Z) (K 4) (let e:=w64 (Ç a.2.2.2.2 86400)
 cond (cond (L (a.2.2.2.1<0)) Á (L (a.2.2.2.2<0))) (K 1) ((j15 e).bind λd=>cond (!d) (K 1) (cond (L (a.2.2.2.1>=a.2.2.2.2)) (K 6) (K 0))))))) (cond (cond (a.1 != 2) (a.2.2.1 != 0) Z) (K 1) (cond (cond (a.1==2) (a.2.1==a.2.2.1) Z) (K 4) (let c:=w64 (Ç a.2.2.2.2 86400)
 cond (cond (L (a.2.2.2.1<0)) Á (L (a.2.2.2.2<0))) (K 1) ((j15 c).bind λb=>cond (!b) (K 1) (cond (L (a.2.2.2.1>=a.2.2.2.2)) (K 6) (K 0))))))))
def j1k[LP](g:ag)(j c:J)(k:an)(f:aq)(d:aw)(e:aA):N ((ag×J×J×an×aq×aw×aA) ⊕ (J ⊕ Ê)):=cond (L (c<j)) (cond (inR c g.length) (let a:=M g c.toNat (0,(0,(0,(0,0))))
 (j11 (k,(f,(d,e))) a).bind λb=>cond (b != 0) (K (.inr (.inl b))) (let i:=w64 (c+1)
 K (.inl (g,j,i,k,f,d,e)))) U) (K (.inr (.inr ())))
def F1[LP]:=rf j1k
abbrev Pd:=r7 j1k F1
def j2h[LP](a:bz)(b:kA):N Int:=
 let f:=S b.2.1.length
 let d:=S b.2.2.length
 cond (cond (L (f>6)) Á (L (d>48))) (K 5) ((j3r b.2.1 a.1 a.2.1 a.2.2.1 a.2.2.2).bind λc=>cond (c != 0) (K c) (let e:=S b.2.2.length
 (F1 b.2.2 e 0 a.1 a.2.1 a.2.2.1 a.2.2.2).bind λg=>sumC g (λi=>K i) (λj=>K 0)))
def ja6[LP](a:kA)(f:an)(d:aq)(c:aw)(b:aA):N Int:=(j2h (f,(d,(c,b))) a).bind λe=>K e
def j0Q[LP](m:an)(i:aq)(f:aw)(e g:aA)(l c:J)(n:X (W×Æ)):N ((an×aq×aw×aA×aA×J×J×(X (W×Æ))) ⊕ (J ⊕ Ê)):=cond (L (c<l)) (cond (inR c g.length) (let a:=M g c.toNat (Y,(([]:aH),([]:ag)))
 (ja5 a).bind λj=>(j5r j n).bind λb=>cond (b.1 != 0) (K (.inr (.inl b.1))) ((ja6 a m i f e).bind λd=>cond (d != 0) (K (.inr (.inl d))) (let k:=w64 (c+1)
 K (.inl (m,i,f,e,g,l,k,b.2))))) U) (K (.inr (.inr ())))
def C4[LP]:=r9 j0Q
abbrev Pe:=tT j0Q C4
def j3R[LP](e:aA)(d:an)(b:aq)(c:aw)(a:aA):N Int:=
 let f:(X (W×Æ)):=[]
 let g:=S e.length
 (C4 d b c a e g 0 f).bind λi=>sumC i (λj=>K j) (λk=>K 0)
def j4m[LP](g:aq)(i f:J)(j:an)(d:aq)(c:aw)(e:aA)(r:X (W×Æ)):N ((aq×J×J×an×aq×aw×aA×(X (W×Æ))) ⊕ (J ⊕ (an×aq×aw×aA))):=cond (L (f<i)) (cond (inR f g.length) (let a:=M g f.toNat (Y,(0,(([]:ah),(0,(0,Z)))))
 (j5r a.1 r).bind λb=>let q:Bool:=È a.1==È (À #[110,111,98,111,100,121])
 cond q (cond (2==0) ((j5B (j,(d,(c,e))) a).bind λl=>cond (l != 0) (K (.inr (.inl l))) (let m:=w64 (f+1)
 K (.inl (g,i,m,j,d,c,e,b.2)))) (cond (2 != 0) (K (.inr (.inl 2))) (let o:=w64 (f+1)
 K (.inl (g,i,o,j,d,c,e,b.2))))) (cond (b.1==0) ((j5B (j,(d,(c,e))) a).bind λk=>cond (k != 0) (K (.inr (.inl k))) (let p:=w64 (f+1)
 K (.inl (g,i,p,j,d,c,e,b.2)))) (cond (b.1 != 0) (K (.inr (.inl b.1))) (let n:=w64 (f+1)
 K (.inl (g,i,n,j,d,c,e,b.2)))))) U) (K (.inr (.inr (j,d,c,e))))
def Jq[LP]:=r9 j4m
abbrev ZT:=tT j4m Jq
def j5h[LP](a:bz):N Int:=
 let k:=S a.1.length
 let f:=S a.2.1.length
 let i:=S a.2.2.1.length
 let e:Bool:=cond (cond (L (k>16)) Á (L (f>32))) Á (L (i>8))
 let j:=S a.2.2.2.length
 cond (cond e Á (L (j>12))) (K 5) ((j3U a.1).bind λd=>cond (d != 0) (K d) (let m:(X (W×Æ)):=[]
 let l:=S a.2.1.length
 (Jq a.2.1 l 0 a.1 a.2.1 a.2.2.1 a.2.2.2 m).bind λn=>sumC n (λo=>K o) (λb=>(j2A b.2.2.1 b.1 b.2.1 b.2.2.1 b.2.2.2).bind λc=>cond (c != 0) (K c) ((j3R b.2.2.2 b.1 b.2.1 b.2.2.1 b.2.2.2).bind λg=>K g))))
def jpT[LP](a:dA):N (fX×J):=(j14 a).bind λb=>K ((a.2.1,b.1),b.2)
def j5D[LP](g:an)(j c:J)(i:cJ):N ((an×J×J×cJ) ⊕ (cJ)):=cond (L (c<j)) (cond (inR c g.length) (let a:=M g c.toNat (Y,(0,([]:bn)))
 (jpT a).bind λb=>let d:cJ:=[b.1]
 cond (L (O i+O d<=aK)) (let f:cJ:=i++d
 let e:=w64 (c+1)
 K (.inl (g,j,e,f))) U) U) (K (.inr i))
def Jr[LP]:=kC j5D
abbrev ZU:=lz j5D Jr
def jl2[LP](a:an):N cJ:=
 let c:=S a.length
 (Jr a c 0 ([]:cJ)).bind λb=>K b
def jma[LP](a:bz):N kB:=(jl2 a.1).bind λb=>K (a,b)
def jhN[LP](a:bz):N (kB×Æ):=(j5h a).bind λc=>cond (c != 0) (K (((([]:an),(([]:aq),(([]:aw),([]:aA)))),([]:cJ)),Z)) ((jma a).bind λb=>K (b,Á))
def jaf(b:bz)(a:J):N Bool:=
 let c:=S b.2.2.2.length
 K (cond (L (a>=0)) (L (a<c)) Z)
def jej(a b:J):N Bool:=
 let c:Bool:=cond (cond (L (a>=0)) (L (a<=8589934592)) Z) (L (b>=a)) Z
 let e:=w64 (b-a)
 let d:Bool:=cond (cond c (L (b<=8589934592)) Z) (L (e<=34560000)) Z
 K d
def jag[LP](b:bz)(c d e:J):N (kB×J):=(jhN b).bind λa=>cond (!a.2) (K (a.1,8)) ((jaf b c).bind λg=>cond (!g) (K (a.1,3)) ((jej d e).bind λf=>cond (!f) (K (a.1,1)) (K (a.1,0))))
def j5E(a:kB)(b:J):N fX:=cond (inR b a.2.length) (let c:=M a.2 b.toNat (0,([]:ah))
 K c) U
def jaR(a:fX):N Bool:=
 let b:=S a.2.length
 K (L (b>0))
def jey(a:fX):N Int:=
 let e:=S a.2.length
 cond (e==0) (K 0) (let d:=S a.2.length
 let b:=w64 (d-1)
 cond (inR b a.2.length) (let c:=M a.2 b.toNat (0,0)
 K c.1) U)
def j41(g:J)(j:an)(d:aq)(b:aw)(a:aA)(c:cJ)(i:J):N (an×aq×aw×aA×cJ×J):=(j5E ((j,(d,(b,a))),c) g).bind λe=>(jaR e).bind λm=>cond m ((jey e).bind λk=>let f:=w64 (k+86400)
 let l:Int:=if f>i then f else i
 K (j,d,b,a,c,l)) (K (j,d,b,a,c,i))
def jc2(a:eD):N Int:=cond (a.2.2.2.1==2) (let b:=w64 (7*a.2.2.2.2.1)
 K b) (K a.2.2.2.2.1)
def jah(a e:J)(b:ah)(d:J):N Bool:=cond (inR a b.length) (let c:=M b a.toNat (0,0)
 K (L (c.1>d))) U
def j42(l:J)(b:ah)(a j k:J):N ((J×ah×J×J×J) ⊕ (J)):=cond (L (j<k)) (let f:=w64 (j+k)
 let d:Int:=É .u64 f
 let g:Int:=Ì d 2
 let c:=w64 g
 (jah c l b a).bind λi=>cond (!i) (let e:=w64 (c+1)
 K (.inl (l,b,a,e,k))) (K (.inl (l,b,a,j,c)))) (K (.inr j))
def Pg[LP]:=gL j42
abbrev ZV:=ir j42 Pg
def jl3[LP](c d:J)(b:ah)(a:J):N Int:=(Pg d b a 0 c).bind λe=>K e
def j7K[LP](a:fX)(b:J):N Int:=
 let c:=S a.2.length
 (jl3 c a.1 a.2 b).bind λd=>K d
def j5v(a:fX)(b:J):N Int:=cond (b==0) (K a.1) (let c:=w64 (b-1)
 cond (inR c a.2.length) (let d:=M a.2 c.toNat (0,0)
 K d.2) U)
def j0O[LP](k c j:J)(a:ah)(i:ax):N ((J×J×J×ah×ax) ⊕ (ax)):=cond (L (k<c)) ((j7K (j,a) k).bind λb=>let n:=S a.length
 cond (L (b<n)) (cond (inR b a.length) (let g:=M a b.toNat (0,0)
 let f:Int:=if g.1<c then g.1 else c
 (j5v (j,a) b).bind λm=>let d:ax:=[(k,(f,m))]
 cond (L (O i+O d<=aK)) (let p:ax:=i++d
 K (.inl (f,c,j,a,p))) U) U) ((j5v (j,a) b).bind λo=>let e:ax:=[(k,(c,o))]
 cond (L (O i+O e<=aK)) (let l:ax:=i++e
 K (.inl (c,c,j,a,l))) U)) (K (.inr i))
def F2[LP]:=gL j0O
abbrev C5:=ir j0O F2
def j36[LP](b:fX)(a c:J):N ax:=(F2 a c b.1 b.2 ([]:ax)).bind λd=>K d
def j5s(a:J×J):N Int:=
 let b:Int:=if (-1048576)>a.1 then (-1048576) else a.1
 let e:Int:=if 1048576<b then 1048576 else b
 let d:=w64 (e*86400)
 let c:=w64 (d+a.2)
 K c
def j1G(j d k e:J)(f:ax):N ((J×J×J×J×ax) ⊕ ((J×Æ) ⊕ Ê)):=cond (L (d<j)) (cond (inR d f.length) (let a:=M f d.toNat (0,(0,0))
 (j5s (k,e)).bind λg=>let c:=w64 (g-a.2.2)
 let b:Int:=if c>a.1 then c else a.1
 cond (L (b<a.2.1)) (K (.inr (.inl (b,Á)))) (let i:=w64 (d+1)
 K (.inl (j,i,k,e,f)))) U) (K (.inr (.inr ())))
def Js[LP]:=gL j1G
abbrev Jt:=ir j1G Js
def j1U[LP](b:fX)(a:J×J):N (J×Æ):=(j36 b 0 8589934593).bind λc=>let d:=S c.length
 (Js d 0 a.1 a.2 c).bind λe=>sumC e (λf=>K f) (λg=>K (0,Z))
def j0N[LP](b:fX)(a:eD)(c:J):N (J×Æ):=cond (L (c>8589934592)) (K (0,Z)) (cond (a.2.2.2.1 != 0) ((jc2 a).bind λk=>let i:=w64 (c*k)
 let g:=w64 (a.2.2.1.1+i)
 (j1U b (g,a.2.2.1.2)).bind λd=>K d) ((j1U b a.2.2.1).bind λe=>let j:=w64 (3600*a.2.2.2.2.1)
 let l:=w64 (j*c)
 let f:=w64 (e.1+l)
 K (f,(cond e.2 (L (f<=8589934592)) Z))))
def j37(c:ag)(m b:J)(p:an)(i:aq)(d:aw)(f:aA)(g:cJ)(o:W)(j:aH)(e:ag)(n:J):N ((ag×J×J×an×aq×aw×aA×cJ×W×aH×ag×J) ⊕ (an×aq×aw×aA×cJ×W×aH×ag×J)):=cond (L (b<m)) (cond (inR b c.length) (let a:=M c b.toNat (0,(0,(0,(0,0))))
 let l:Int:=if a.2.2.2.2>n then a.2.2.2.2 else n
 let k:=w64 (b+1)
 K (.inl (c,m,k,p,i,d,f,g,o,j,e,l))) U) (K (.inr (p,i,d,f,g,o,j,e,n)))
def F3[LP]:=wK j37
abbrev ZX:=AN j37 F3
def j2b[LP](f:aH)(g e:J)(b4:an)(b2:aq)(a9:aw)(b1:aA)(b0:cJ)(b3:J):N ((aH×J×J×an×aq×aw×aA×cJ×J) ⊕ (J)):=cond (L (e<g)) (cond (inR e f.length) (let d:=M f e.toNat (Y,(0,((0,0),(0,(0,(([]:(X J)),(([]:ah),(0,0))))))))
 (j41 d.2.1 b4 b2 a9 b1 b0 b3).bind λa=>(j5E ((a.1,(a.2.1,(a.2.2.1,a.2.2.2.1))),a.2.2.2.2.1) d.2.1).bind λn=>(j0N n d 0).bind λm=>cond m.2 (let p:Int:=if m.1>a.2.2.2.2.2 then m.1 else a.2.2.2.2.2
 cond (d.2.2.2.2.2.2.2.2==0) (let a7:=w64 (e+1)
 K (.inl (f,g,a7,a.1,a.2.1,a.2.2.1,a.2.2.2.1,a.2.2.2.2.1,p))) (cond (inR d.2.2.2.2.2.2.2.1 a.2.2.1.length) (let i:=M a.2.2.1 d.2.2.2.2.2.2.2.1.toNat (Y,(0,([]:(X J))))
 (j41 i.2.1 a.1 a.2.1 a.2.2.1 a.2.2.2.1 a.2.2.2.2.1 p).bind λc=>let r:=S i.2.2.length
 cond (L (r>0)) ((j5E ((c.1,(c.2.1,(c.2.2.1,c.2.2.2.1))),c.2.2.2.2.1) i.2.1).bind λq=>let o:=w64 (r-1)
 cond (inR o i.2.2.length) (let a2:=M i.2.2 o.toNat 0
 let a1:=w64 (a2+1)
 (j1U q (a1,0)).bind λk=>cond k.2 (let a4:Int:=if k.1>c.2.2.2.2.2 then k.1 else c.2.2.2.2.2
 let a8:=w64 (e+1)
 K (.inl (f,g,a8,c.1,c.2.1,c.2.2.1,c.2.2.2.1,c.2.2.2.2.1,a4))) (let w:=w64 (e+1)
 K (.inl (f,g,w,c.1,c.2.1,c.2.2.1,c.2.2.2.1,c.2.2.2.2.1,c.2.2.2.2.2)))) U) (let a0:=w64 (e+1)
 K (.inl (f,g,a0,c.1,c.2.1,c.2.2.1,c.2.2.2.1,c.2.2.2.2.1,c.2.2.2.2.2)))) U)) (cond (d.2.2.2.2.2.2.2.2==0) (let x:=w64 (e+1)
 K (.inl (f,g,x,a.1,a.2.1,a.2.2.1,a.2.2.2.1,a.2.2.2.2.1,a.2.2.2.2.2))) (cond (inR d.2.2.2.2.2.2.2.1 a.2.2.1.length) (let j:=M a.2.2.1 d.2.2.2.2.2.2.2.1.toNat (Y,(0,([]:(X J))))
 (j41 j.2.1 a.1 a.2.1 a.2.2.1 a.2.2.2.1 a.2.2.2.2.1 a.2.2.2.2.2).bind λb=>let t:=S j.2.2.length
 cond (L (t>0)) ((j5E ((b.1,(b.2.1,(b.2.2.1,b.2.2.2.1))),b.2.2.2.2.1) j.2.1).bind λs=>let u:=w64 (t-1)
 cond (inR u j.2.2.length) (let a5:=M j.2.2 u.toNat 0
 let a6:=w64 (a5+1)
 (j1U s (a6,0)).bind λl=>cond l.2 (let a3:Int:=if l.1>b.2.2.2.2.2 then l.1 else b.2.2.2.2.2
 let v:=w64 (e+1)
 K (.inl (f,g,v,b.1,b.2.1,b.2.2.1,b.2.2.2.1,b.2.2.2.2.1,a3))) (let y:=w64 (e+1)
 K (.inl (f,g,y,b.1,b.2.1,b.2.2.1,b.2.2.2.1,b.2.2.2.2.1,b.2.2.2.2.2)))) U) (let z:=w64 (e+1)
 K (.inl (f,g,z,b.1,b.2.1,b.2.2.1,b.2.2.2.1,b.2.2.2.2.1,b.2.2.2.2.2)))) U))) U) (K (.inr b3))
def F4[LP]:=yy j2b
abbrev ZY:=AM j2b F4
def j4V[LP](a:kB)(b:kA):N Int:=
 let e:=S b.2.2.length
 (F3 b.2.2 e 0 a.1.1 a.1.2.1 a.1.2.2.1 a.1.2.2.2 a.2 b.1 b.2.1 b.2.2 0).bind λc=>let d:=S c.2.2.2.2.2.2.1.length
 (F4 c.2.2.2.2.2.2.1 d 0 c.1 c.2.1 c.2.2.1 c.2.2.2.1 c.2.2.2.2.1 c.2.2.2.2.2.2.2.2).bind λf=>K f
def j9n(a:X J):N (X J):=cond (L (O ([]:X (J))+O a<=aK)) (K (([]:X (J))++a)) U
def jcQ(a c b:J):N Bool:=K (cond (L (a<=c)) Á (L (a>=b)))
def j16(g c i b:J)(a:X J):N ((J×J×J×J×(X J)) ⊕ (uO ⊕ (X J))):=cond (L (b<i)) (cond (inR b a.length) (let d:=M a b.toNat 0
 (jcQ d g c).bind λf=>cond f (K (.inr (.inl (b,a)))) (let e:=w64 (b+1)
 K (.inl (g,c,i,e,a)))) U) (K (.inr (.inr a)))
def Ju[LP]:=gL j16
abbrev ZZ:=ir j16 Ju
def j5H[LP](a:X J)(c b:J):N uO:=
 let d:=S a.length
 (Ju c b d 0 a).bind λe=>sumC e (λf=>K f) (λg=>K ((-1),g))
def j1n(l b e d:J)(a:X J):N ((J×J×J×J×(X J)) ⊕ (uO)):=
 let g:=S a.length
 cond (L (d<g)) (cond (inR d a.length) (let c:=M a d.toNat 0
 (jcQ c l b).bind λk=>cond (!k) (cond (inR e a.length) (let m:X Int:=Ä a e.toNat c
 let i:=w64 (e+1)
 let j:=w64 (d+1)
 K (.inl (l,b,i,j,m))) U) (let f:=w64 (d+1)
 K (.inl (l,b,e,f,a)))) U) (K (.inr (e,a)))
def Pj[LP]:=gL j1n
abbrev Z0:=ir j1n Pj
def j4g[LP](e:X J)(d a:J):N uO:=(j5H e d a).bind λc=>cond (c.1==(-1)) (K ((S c.2.length),c.2)) (let f:=w64 (c.1+1)
 (Pj d a c.1 f c.2).bind λb=>cond (L (0<=b.1)&&L (b.1<=(S b.2.length))) (let g:X Int:=Ë b.1.toNat b.2++Å (O b.2-b.1.toNat) 0
 cond (L (0<=b.1)&&L (b.1<=(S g.length))) (K ((S b.1.toNat),g)) U) U)
def j7n(a:X J):N (X J):=
 AL a
def j1I(e b c:J)(a:X J):N ((J×J×J×(X J)) ⊕ (uO)):=
 let m:=S (O a-b.toNat)
 cond (L (c<m)) (cond (inR c (O a-b.toNat)) (let i:=M a (b.toNat+c.toNat) 0
 let d:=w64 (c-1)
 cond (inR d (O a-b.toNat)) (let j:=M a (b.toNat+d.toNat) 0
 cond (i != j) (cond (inR c (O a-b.toNat)) (let f:=M a (b.toNat+c.toNat) 0
 cond (inR e a.length) (let n:X Int:=Ä a e.toNat f
 let k:=w64 (e+1)
 let g:=w64 (c+1)
 K (.inl (k,(S b.toNat),g,n))) U) U) (let l:=w64 (c+1)
 K (.inl (e,(S b.toNat),l,a)))) U) U) (K (.inr (e,a)))
def Jv[LP]:=kC j1I
abbrev Z1:=lz j1I Jv
def j1J[LP](c:J)(b:X J):N (uO ⊕ (uO ⊕ (X J))):=
 let j:=S b.length
 cond (L (c<j)) (cond (inR c b.length) (let i:=M b c.toNat 0
 let d:=w64 (c-1)
 cond (inR d b.length) (let g:=M b d.toNat 0
 cond (i==g) (cond (L (0<=c)&&L (c<=(S b.length))) ((Jv c (S c.toNat) 1 b).bind λa=>cond (L (0<=a.1)&&L (a.1<=(S a.2.length))) (let e:X Int:=Ë a.1.toNat a.2++Å (O a.2-a.1.toNat) 0
 cond (L (0<=a.1)&&L (a.1<=(S e.length))) (K (.inr (.inl ((S a.1.toNat),e)))) U) U) U) (let f:=w64 (c+1)
 K (.inl (f,b)))) U) U) (K (.inr (.inr b)))
def C6[LP]:=FT j1J
abbrev Z2:=Jj j1J C6
def j5U[LP](a:X J):N uO:=
 let b:=S a.length
 cond (L (b<2)) (K ((S a.length),a)) ((C6 1 a).bind λc=>sumC c (λe=>K ((S e.1.toNat),e.2)) (λd=>K ((S d.length),d)))
def jmb[LP](f:X J)(b a:J):N (X J):=(j9n f).bind λk=>(j4g k b a).bind λe=>let i:X Int:=Ë e.1.toNat e.2
 (j7n i).bind λj=>(j5U j).bind λd=>let c:X Int:=Ë d.1.toNat d.2
 cond (L (O c+O [a]<=aK)) (let g:X Int:=c++[a]
 K g) U
def j2Y(a:aH):N aH:=K a
def j4n(a:ah):N ah:=cond (L (O ([]:X (J×J))+O a<=aK)) (K (([]:X (J×J))++a)) U
def jaS(a:J×J):N Bool:=K (L (a.2<=a.1))
def j0C(f c:J)(b:ah):N ((J×J×ah) ⊕ (fX ⊕ ah)):=cond (L (c<f)) (cond (inR c b.length) (let a:=M b c.toNat (0,0)
 (jaS a).bind λe=>cond e (K (.inr (.inl (c,b)))) (let d:=w64 (c+1)
 K (.inl (f,d,b)))) U) (K (.inr (.inr b)))
def Jw[LP]:=re j0C
abbrev Z3:=r6 j0C Jw
def j3g[LP](a:ah):N fX:=
 let b:=S a.length
 (Jw b 0 a).bind λc=>sumC c (λd=>K d) (λe=>K ((-1),e))
def j0w(d c:J)(b:ah):N ((J×J×ah) ⊕ (fX)):=
 let f:=S b.length
 cond (L (c<f)) (cond (inR c b.length) (let a:=M b c.toNat (0,0)
 (jaS a).bind λi=>cond (!i) (cond (inR d b.length) (let k:ah:=Ä b d.toNat a
 let j:=w64 (d+1)
 let g:=w64 (c+1)
 K (.inl (j,g,k))) U) (let e:=w64 (c+1)
 K (.inl (d,e,b)))) U) (K (.inr (d,b)))
def Pl[LP]:=re j0w
abbrev Z5:=r6 j0w Pl
def j1L[LP](c:ah):N fX:=(j3g c).bind λb=>cond (b.1==(-1)) (K ((S b.2.length),b.2)) (let d:=w64 (b.1+1)
 (Pl b.1 d b.2).bind λa=>cond (L (0<=a.1)&&L (a.1<=(S a.2.length))) (let e:ah:=Ë a.1.toNat a.2++Å (O a.2-a.1.toNat) (0,0)
 cond (L (0<=a.1)&&L (a.1<=(S e.length))) (K ((S a.1.toNat),e)) U) U)
def j92(b a:J×J):N Int:=
 let c:=w64 (b.1-a.1)
 K c
def j1g(a:ah):N ah:=
 yx (.pair (.int .i64) (.int .i64)) (λb c=>(j92 b c).getD 0) a
def j4K(l d:J)(b f:ah):N ((J×J×ah×ah) ⊕ (ah)):=cond (L (d<l)) (cond (inR d f.length) (let a:=M f d.toNat (0,0)
 let c:=S b.length
 cond (L (c>0)) (let k:=w64 (c-1)
 cond (inR k b.length) (let t:=(M b k.toNat (0,0)).2
 cond (L (a.1<=t)) (let e:=w64 (c-1)
 let j:=w64 (c-1)
 cond (inR j b.length) (let i:=(M b j.toNat (0,0)).2
 let s:Int:=if a.2>i then a.2 else i
 cond (inR e b.length) (let r:ah:=Ä b e.toNat ((M b e.toNat (0,0)).1,s)
 let n:=w64 (d+1)
 K (.inl (l,n,r,f))) U) U) (let m:ah:=[a]
 cond (L (O b+O m<=aK)) (let q:ah:=b++m
 let p:=w64 (d+1)
 K (.inl (l,p,q,f))) U)) U) (let g:ah:=[a]
 cond (L (O b+O g<=aK)) (let u:ah:=b++g
 let o:=w64 (d+1)
 K (.inl (l,o,u,f))) U)) U) (K (.inr b))
def Jy[LP]:=kC j4K
abbrev Pm:=lz j4K Jy
def jaB[LP](c:ah):N ah:=(j4n c).bind λf=>(j1L f).bind λa=>let d:ah:=Ë a.1.toNat a.2
 (j1g d).bind λb=>let e:=S b.length
 (Jy e 0 ([]:ah) b).bind λg=>K g
def j55(u:ah)(d p r:J)(k:ah)(s f e a b:J)(t:ah)(q:ax):N ((ah×J×J×J×ah×J×J×J×J×J×ah×ax) ⊕ (ah×J×J×J×J×J×J×ah×ax)):=cond (L (f<s)) (cond (inR f k.length) (let i:=M k f.toNat (0,0)
 let c:=w64 (d+i.1)
 let o:Int:=if c>e then c else e
 let g:=w64 (d+i.2)
 let n:Int:=if g<a then g else a
 let j:ah:=[(o,n)]
 cond (L (O t+O j<=aK)) (let m:ah:=t++j
 let l:=w64 (f+1)
 K (.inl (u,d,p,r,k,s,l,e,a,b,m,q))) U) U) (K (.inr (u,d,p,r,e,a,b,t,q)))
def Pn[LP]:=wK j55
abbrev Z6:=AN j55 Pn
def j56[LP](c:ah)(k i j m b f:J)(l:ah)(g:ax):N ((ah×J×J×J×J×J×J×ah×ax) ⊕ (ah×J×J×ah×ax)):=cond (L (k<b)) (let d:=S c.length
 (Pn c k i j c d 0 m b f l g).bind λa=>let e:=w64 (a.2.1+604800)
 K (.inl (a.1,e,a.2.2.1,a.2.2.2.1,a.2.2.2.2.1,a.2.2.2.2.2.1,a.2.2.2.2.2.2.1,a.2.2.2.2.2.2.2.1,a.2.2.2.2.2.2.2.2))) (K (.inr (c,i,j,l,g)))
def Po[LP]:=yy j56
abbrev Z7:=AM j56 Po
def j57[LP](o:ah)(m d:J)(n:ah)(e:ax):N ((ah×J×J×ah×ax) ⊕ (ah)):=cond (L (d<m)) (cond (inR d e.length) (let a:=M e d.toNat (0,(0,0))
 let j:=w64 (a.1+a.2.2)
 let c:=w64 (j-(-259200))
 let k:=Ã c 604800
 let f:=w64 (c-k)
 let l:=w64 (f+(-259200))
 let g:=w64 (l-a.2.2)
 (Po o g m d a.1 a.2.1 a.2.2 n e).bind λb=>let i:=w64 (b.2.2.1+1)
 K (.inl (b.1,b.2.1,i,b.2.2.2.1,b.2.2.2.2))) U) (K (.inr n))
def Pp[LP]:=gL j57
abbrev Z8:=ir j57 Pp
def j7b[LP](b:fX)(e:ah)(a c:J):N ah:=(j36 b a c).bind λd=>let g:=S d.length
 (Pp e g 0 ([]:ah) d).bind λi=>(jaB i).bind λf=>K f
def j3W(r u:J)(k:X J)(t e:J)(w:W)(j:J)(i:X J)(g a d:J)(v:ah)(s:ax):N ((J×J×(X J)×J×J×W×J×(X J)×J×J×J×ah×ax) ⊕ (J×J×W×J×(X J)×ah×ax)):=cond (L (e<t)) (cond (inR e k.length) (let p:=M k e.toNat 0
 let n:=w64 (p*86400)
 let b:=w64 (n-d)
 let q:Int:=if b>g then b else g
 let f:=w64 (b+86400)
 let m:Int:=if f<a then f else a
 let c:ah:=[(q,m)]
 cond (L (O v+O c<=aK)) (let l:ah:=v++c
 let o:=w64 (e+1)
 K (.inl (r,u,k,t,o,w,j,i,g,a,d,l,s))) U) U) (K (.inr (r,u,w,j,i,v,s)))
def Pq[LP]:=wL j3W
theorem Z9(a b c d e f g h i j k l m):Pq a b c d e f g h i j k l m=lpK (j3W a b c d e f g h i j k l m) λh=>Pq h.1 h.2.1 h.2.2.1 h.2.2.2.1 h.2.2.2.2.1 h.2.2.2.2.2.1 h.2.2.2.2.2.2.1 h.2.2.2.2.2.2.2.1 h.2.2.2.2.2.2.2.2.1 h.2.2.2.2.2.2.2.2.2.1 h.2.2.2.2.2.2.2.2.2.2.1 h.2.2.2.2.2.2.2.2.2.2.2.1 h.2.2.2.2.2.2.2.2.2.2.2.2:=iO _ _
def j3X[LP](i d:J)(l:W)(j:J)(c:X J)(k:ah)(e:ax):N ((J×J×W×J×(X J)×ah×ax) ⊕ (ah)):=cond (L (d<i)) (cond (inR d e.length) (let b:=M e d.toNat (0,(0,0))
 let f:=S c.length
 (Pq i d c f 0 l j c b.1 b.2.1 b.2.2 k e).bind λa=>let g:=w64 (a.2.1+1)
 K (.inl (a.1,g,a.2.2.1,a.2.2.2.1,a.2.2.2.2.1,a.2.2.2.2.2.1,a.2.2.2.2.2.2))) U) (K (.inr k))
def Pr[LP]:=rf j3X
theorem _a(a b c d e f g):Pr a b c d e f g=lpK (j3X a b c d e f g) λh=>Pr h.1 h.2.1 h.2.2.1 h.2.2.2.1 h.2.2.2.2.1 h.2.2.2.2.2.1 h.2.2.2.2.2.2:=iO _ _
def j6y[LP](c:kB)(a:tR)(b d:J):N ah:=cond (inR a.2.1 c.2.length) (let f:=M c.2 a.2.1.toNat (0,([]:ah))
 (j36 f b d).bind λe=>let g:=S e.length
 (Pr g 0 a.1 a.2.1 a.2.2 ([]:ah) e).bind λj=>(jaB j).bind λi=>K i) U
def j58(c:ah)(b:J)(e:ah)(d f j a:J)(l:ah):N ((ah×J×ah×J×J×J×J×ah) ⊕ (ah×J×ah×J×J×J×J×ah)):=
 let k:=S c.length
 cond (L (b<k)) (cond (inR b c.length) (let g:=M c b.toNat (0,0)
 cond (L (g.2<=j)) (let i:=w64 (b+1)
 K (.inl (c,i,e,d,f,j,a,l))) (K (.inr (c,b,e,d,f,j,a,l)))) U) (K (.inr (c,b,e,d,f,j,a,l)))
def Ps[LP]:=r9 j58
theorem _b(a b c d e f g h):Ps a b c d e f g h=lpK (j58 a b c d e f g h) λh=>Ps h.1 h.2.1 h.2.2.1 h.2.2.2.1 h.2.2.2.2.1 h.2.2.2.2.2.1 h.2.2.2.2.2.2.1 h.2.2.2.2.2.2.2:=iO _ _
def j59(b:ah)(r d a:J)(e:ah)(k f o c:J)(l:ah):N ((ah×J×J×J×ah×J×J×J×J×ah) ⊕ (ah×J×J×ah×J×J×J×J×ah)):=
 let n:=S b.length
 cond (L (a<n)) (cond (inR a b.length) (let w:=M b a.toNat (0,0)
 cond (L (w.1<c)) (cond (inR a b.length) (let s:=M b a.toNat (0,0)
 cond (L (d<s.1)) (cond (inR a b.length) (let p:=M b a.toNat (0,0)
 let g:ah:=[(d,p.1)]
 cond (L (O l+O g<=aK)) (let t:ah:=l++g
 cond (inR a b.length) (let i:=M b a.toNat (0,0)
 let q:Int:=if i.2>d then i.2 else d
 let v:=w64 (a+1)
 K (.inl (b,r,q,v,e,k,f,o,c,t))) U) U) U) (cond (inR a b.length) (let j:=M b a.toNat (0,0)
 let m:Int:=if j.2>d then j.2 else d
 let u:=w64 (a+1)
 K (.inl (b,r,m,u,e,k,f,o,c,l))) U)) U) (K (.inr (b,r,d,e,k,f,o,c,l)))) U) (K (.inr (b,r,d,e,k,f,o,c,l)))
def Jz[LP]:=mO j59
theorem _c(a b c d e f g h i j):Jz a b c d e f g h i j=lpK (j59 a b c d e f g h i j) λh=>Jz h.1 h.2.1 h.2.2.1 h.2.2.2.1 h.2.2.2.2.1 h.2.2.2.2.2.1 h.2.2.2.2.2.2.1 h.2.2.2.2.2.2.2.1 h.2.2.2.2.2.2.2.2.1 h.2.2.2.2.2.2.2.2.2:=iO _ _
def j5a[LP](n:ah)(m:J)(f:ah)(k e:J)(l:ah):N ((ah×J×ah×J×J×ah) ⊕ (ah)):=cond (L (e<k)) (cond (inR e f.length) (let d:=M f e.toNat (0,0)
 (Ps n m f k e d.1 d.2 l).bind λb=>(Jz b.1 b.2.1 b.2.2.2.2.2.1 b.2.1 b.2.2.1 b.2.2.2.1 b.2.2.2.2.1 b.2.2.2.2.2.1 b.2.2.2.2.2.2.1 b.2.2.2.2.2.2.2).bind λa=>cond (L (a.2.2.1<a.2.2.2.2.2.2.2.1)) (let c:ah:=[(a.2.2.1,a.2.2.2.2.2.2.2.1)]
 cond (L (O a.2.2.2.2.2.2.2.2+O c<=aK)) (let g:ah:=a.2.2.2.2.2.2.2.2++c
 let i:=w64 (a.2.2.2.2.2.1+1)
 K (.inl (a.1,a.2.1,a.2.2.2.1,a.2.2.2.2.1,i,g))) U) (let j:=w64 (a.2.2.2.2.2.1+1)
 K (.inl (a.1,a.2.1,a.2.2.2.1,a.2.2.2.2.1,j,a.2.2.2.2.2.2.2.2)))) U) (K (.inr l))
def JA[LP]:=tS j5a
theorem _d(a b c d e f):JA a b c d e f=lpK (j5a a b c d e f) λh=>JA h.1 h.2.1 h.2.2.1 h.2.2.2.1 h.2.2.2.2.1 h.2.2.2.2.2:=iO _ _
def j3L[LP](a b:ah):N ah:=
 let c:=S a.length
 (JA b 0 a c 0 ([]:ah)).bind λd=>K d
def j7o(c a:ah)(d b:J)(n:ah):N ((ah×ah×J×J×ah) ⊕ (ah)):=
 let w:=S c.length
 let v:=S a.length
 cond (cond (L (d<w)) (L (b<v)) Z) (cond (inR d c.length) (let e:=M c d.toNat (0,0)
 cond (inR b a.length) (let l:=M a b.toNat (0,0)
 let i:Int:=if l.1>e.1 then l.1 else e.1
 cond (inR d c.length) (let m:=M c d.toNat (0,0)
 cond (inR b a.length) (let f:=M a b.toNat (0,0)
 let g:Int:=if f.2<m.2 then f.2 else m.2
 cond (L (i<g)) (let j:ah:=[(i,g)]
 cond (L (O n+O j<=aK)) (let k:ah:=n++j
 cond (inR d c.length) (let o:=M c d.toNat (0,0)
 cond (inR b a.length) (let r:=M a b.toNat (0,0)
 cond (L (o.2<r.2)) (let u:=w64 (d+1)
 K (.inl (c,a,u,b,k))) (let p:=w64 (b+1)
 K (.inl (c,a,d,p,k)))) U) U) U) (cond (inR d c.length) (let t:=M c d.toNat (0,0)
 cond (inR b a.length) (let q:=M a b.toNat (0,0)
 cond (L (t.2<q.2)) (let x:=w64 (d+1)
 K (.inl (c,a,x,b,n))) (let s:=w64 (b+1)
 K (.inl (c,a,d,s,n)))) U) U)) U) U) U) U) (K (.inr n))
def F5[LP]:=gL j7o
abbrev jnu:=ir j7o F5
def jeD[LP](b a:ah):N ah:=(F5 b a 0 0 ([]:ah)).bind λc=>K c
def j8D[LP](a:kB)(b:eD)(d c:J):N ah:=cond (inR b.2.1 a.2.length) (let r:=M a.2 b.2.1.toNat (0,([]:ah))
 (j0N r b 0).bind λi=>cond (cond (cond (!i.2) Á (L (i.1>=c))) Á (L (d>=c))) (K ([]:ah)) (let e:Int:=if i.1>d then i.1 else d
 let m:ah:=[(e,c)]
 let t:=S b.2.2.2.2.2.2.1.length
 cond (L (t>0)) (cond (inR b.2.1 a.2.length) (let s:=M a.2 b.2.1.toNat (0,([]:ah))
 (j7b s b.2.2.2.2.2.2.1 e c).bind λl=>cond (b.2.2.2.2.2.2.2.2==1) (cond (inR b.2.2.2.2.2.2.2.1 a.1.2.2.1.length) (let j:=M a.1.2.2.1 b.2.2.2.2.2.2.2.1.toNat (Y,(0,([]:(X J))))
 (j6y a j e c).bind λu=>(j3L l u).bind λw=>K w) U) (cond (b.2.2.2.2.2.2.2.2==2) (cond (inR b.2.2.2.2.2.2.2.1 a.1.2.2.1.length) (let k:=M a.1.2.2.1 b.2.2.2.2.2.2.2.1.toNat (Y,(0,([]:(X J))))
 (j6y a k e c).bind λv=>(jeD l v).bind λx=>K x) U) (K l))) U) (cond (b.2.2.2.2.2.2.2.2==1) (cond (inR b.2.2.2.2.2.2.2.1 a.1.2.2.1.length) (let g:=M a.1.2.2.1 b.2.2.2.2.2.2.2.1.toNat (Y,(0,([]:(X J))))
 (j6y a g e c).bind λo=>(j3L m o).bind λq=>K q) U) (cond (b.2.2.2.2.2.2.2.2==2) (cond (inR b.2.2.2.2.2.2.2.1 a.1.2.2.1.length) (let f:=M a.1.2.2.1 b.2.2.2.2.2.2.2.1.toNat (Y,(0,([]:(X J))))
 (j6y a f e c).bind λn=>(jeD m n).bind λp=>K p) U) (K m))))) U
def j93[LP](a:fX)(b:J):N Int:=(j7K a b).bind λd=>(j5v a d).bind λc=>K c
def jk5(a:J):N (J×J):=
 let e:=w64 (Ç a 86400)
 let i:=Ã a 86400
 cond (L (i<0)) (let d:=w64 (e-1)
 let g:=w64 (d*86400)
 let f:=w64 (a-g)
 K (d,f)) (let c:=w64 (e*86400)
 let b:=w64 (a-c)
 K (e,b))
def j1V[LP](a:fX)(b:J):N (J×J):=(j93 a b).bind λe=>let d:=w64 (b+e)
 (jk5 d).bind λc=>K c
def j4o[LP](n m p:J)(f:ah)(q:W)(g b j e c:J)(d:X J)(a:ah)(i k:J):N ((J×J×J×ah×W×J×J×J×J×J×(X J)×ah×J×J) ⊕ (J×J×J×ah×W×J×J×J×J×J×(X J)×ah×J×J)):=cond (L (m>0)) ((j0N (p,f) (q,(g,((b,j),(e,(c,(d,(a,(i,k)))))))) m).bind λl=>cond (cond l.2 (L (l.1<=n)) Z) (K (.inr (n,m,p,f,q,g,b,j,e,c,d,a,i,k))) (let o:=w64 (m-1)
 K (.inl (n,o,p,f,q,g,b,j,e,c,d,a,i,k)))) (K (.inr (n,m,p,f,q,g,b,j,e,c,d,a,i,k)))
def Pt[LP]:=ph j4o
abbrev _e:=ri j4o Pt
def j6a[LP](p o q:J)(g:ah)(r:W)(i c k f d:J)(e:X J)(b:ah)(j l:J):N ((J×J×J×ah×W×J×J×J×J×J×(X J)×ah×J×J) ⊕ (J)):=
 let n:=w64 (o+1)
 (j0N (q,g) (r,(i,((c,k),(f,(d,(e,(b,(j,l)))))))) n).bind λa=>cond (cond (!a.2) Á (L (a.1>p))) (K (.inr o)) (let m:=w64 (o+1)
 K (.inl (p,m,q,g,r,i,c,k,f,d,e,b,j,l)))
def Pu[LP]:=ph j6a
abbrev jl4:=ri j6a Pu
def j6b[LP](c:fX)(a:eD)(d:J):N Int:=(j0N c a 0).bind λe=>cond (cond (!e.2) Á (L (e.1>d))) (K (-1)) (cond (a.2.2.2.1==0) (let k:=w64 (d-e.1)
 let g:=w64 (3600*a.2.2.2.2.1)
 cond (!(g==0)) (let m:=w64 (Ç k g)
 K m) U) ((j1V c d).bind λl=>let n:=w64 (l.1-a.2.2.1.1)
 (jc2 a).bind λf=>cond (!(f==0)) (let i:=w64 (Ç n f)
 let j:Int:=if i>0 then i else 0
 (Pt d j c.1 c.2 a.1 a.2.1 a.2.2.1.1 a.2.2.1.2 a.2.2.2.1 a.2.2.2.2.1 a.2.2.2.2.2.1 a.2.2.2.2.2.2.1 a.2.2.2.2.2.2.2.1 a.2.2.2.2.2.2.2.2).bind λb=>(Pu b.1 b.2.1 b.2.2.1 b.2.2.2.1 b.2.2.2.2.1 b.2.2.2.2.2.1 b.2.2.2.2.2.2.1 b.2.2.2.2.2.2.2.1 b.2.2.2.2.2.2.2.2.1 b.2.2.2.2.2.2.2.2.2.1 b.2.2.2.2.2.2.2.2.2.2.1 b.2.2.2.2.2.2.2.2.2.2.2.1 b.2.2.2.2.2.2.2.2.2.2.2.2.1 b.2.2.2.2.2.2.2.2.2.2.2.2.2).bind λo=>K o) U))
def j6c(f:ax)(m e:J)(b:ax):N ((ax×J×J×ax) ⊕ (ax)):=cond (L (e<m)) (cond (inR e f.length) (let a:=M f e.toNat (0,(0,0))
 cond (L (a.2.1<=a.1)) (let w:=w64 (e+1)
 K (.inl (f,m,w,b))) (let c:=S b.length
 cond (L (c>0)) (let k:=w64 (c-1)
 cond (inR k b.length) (let v:=(M b k.toNat (0,(0,0))).2.1
 cond (v==a.1) (let i:=w64 (c-1)
 cond (inR i b.length) (let s:=(M b i.toNat (0,(0,0))).2.2
 cond (s==a.2.2) (let d:=w64 (c-1)
 cond (inR d b.length) (let x:ax:=Ä b d.toNat ((M b d.toNat (0,(0,0))).1,(a.2.1,(M b d.toNat (0,(0,0))).2.2))
 let u:=w64 (e+1)
 K (.inl (f,m,u,x))) U) (let g:ax:=[a]
 cond (L (O b+O g<=aK)) (let t:ax:=b++g
 let r:=w64 (e+1)
 K (.inl (f,m,r,t))) U)) U) (let j:ax:=[a]
 cond (L (O b+O j<=aK)) (let p:ax:=b++j
 let n:=w64 (e+1)
 K (.inl (f,m,n,p))) U)) U) (let l:ax:=[a]
 cond (L (O b+O l<=aK)) (let q:ax:=b++l
 let o:=w64 (e+1)
 K (.inl (f,m,o,q))) U))) U) (K (.inr b))
def F6[LP]:=kC j6c
abbrev _g:=lz j6c F6
def jc5[LP](a:ax):N ax:=
 let b:=S a.length
 (F6 a b 0 ([]:ax)).bind λc=>K c
def j3S[LP](b6 o b3 r a5 a2:J)(a7:W)(j i l m e:J)(a:X J)(f:ah)(g k p:J)(c:ah)(b2 b:J)(z:ax)(a6:ah):N ((J×J×J×J×J×J×W×J×J×J×J×J×(X J)×ah×J×J×J×ah×J×J×ax×ah) ⊕ (J×J×J×J×J×J×W×J×J×J×J×J×(X J)×ah×J×J×J×ah×ax×ah)):=cond (L (o<b)) (cond (L (o>=r)) ((j6b (p,c) (a7,(j,((i,l),(m,(e,(a,(f,(g,k)))))))) o).bind λd=>let b7:=w64 (d+1)
 (j0N (p,c) (a7,(j,((i,l),(m,(e,(a,(f,(g,k)))))))) b7).bind λn=>cond (!n.2) (let a0:Int:=if 8589934593<b then 8589934593 else b
 let a4:=S a.length
 cond (!(a4==0)) (let a1:=Ã d a4
 cond (inR a1 a.length) (let b4:=M a a1.toNat 0
 let a3:ax:=[(o,(a0,b4))]
 cond (L (O z+O a3<=aK)) (let b5:ax:=z++a3
 K (.inl (b6,a0,d,8589934593,a5,a2,a7,j,i,l,m,e,a,f,g,k,p,c,b2,b,b5,a6))) U) U) U) (let y:Int:=if n.1<b then n.1 else b
 let w:=S a.length
 cond (!(w==0)) (let v:=Ã d w
 cond (inR v a.length) (let b0:=M a v.toNat 0
 let t:ax:=[(o,(y,b0))]
 cond (L (O z+O t<=aK)) (let a9:ax:=z++t
 K (.inl (b6,y,d,n.1,a5,a2,a7,j,i,l,m,e,a,f,g,k,p,c,b2,b,a9,a6))) U) U) U)) (let x:Int:=if r<b then r else b
 let q:=S a.length
 cond (!(q==0)) (let s:=Ã b3 q
 cond (inR s a.length) (let b1:=M a s.toNat 0
 let u:ax:=[(o,(x,b1))]
 cond (L (O z+O u<=aK)) (let a8:ax:=z++u
 K (.inl (b6,x,b3,r,a5,a2,a7,j,i,l,m,e,a,f,g,k,p,c,b2,b,a8,a6))) U) U) U)) (K (.inr (b6,o,b3,r,a5,a2,a7,j,i,l,m,e,a,f,g,k,p,c,z,a6)))
def JB[LP]:=AU j3S
abbrev jh8:=FX j3S JB
def j2B[LP](x j y v k c:J)(z:W)(q p t u l:J)(r:X J)(n:ah)(o s w:J)(i:ah)(m:ax)(e:ah):N ((J×J×J×J×J×J×W×J×J×J×J×J×(X J)×ah×J×J×J×ah×ax×ah) ⊕ (J×J×ax)):=cond (L (c<k)) (cond (inR c e.length) (let b:=M e c.toNat (0,0)
 let d:ax:=[(j,(b.1,(-1)))]
 cond (L (O m+O d<=aK)) (let f:ax:=m++d
 (JB x b.1 y v k c z q p t u l r n o s w i b.1 b.2 f e).bind λa=>let g:=w64 (a.2.2.2.2.2.1+1)
 K (.inl (a.1,a.2.1,a.2.2.1,a.2.2.2.1,a.2.2.2.2.1,g,a.2.2.2.2.2.2.1,a.2.2.2.2.2.2.2.1,a.2.2.2.2.2.2.2.2.1,a.2.2.2.2.2.2.2.2.2.1,a.2.2.2.2.2.2.2.2.2.2.1,a.2.2.2.2.2.2.2.2.2.2.2.1,a.2.2.2.2.2.2.2.2.2.2.2.2.1,a.2.2.2.2.2.2.2.2.2.2.2.2.2.1,a.2.2.2.2.2.2.2.2.2.2.2.2.2.2.1,a.2.2.2.2.2.2.2.2.2.2.2.2.2.2.2.1,a.2.2.2.2.2.2.2.2.2.2.2.2.2.2.2.2.1,a.2.2.2.2.2.2.2.2.2.2.2.2.2.2.2.2.2.1,a.2.2.2.2.2.2.2.2.2.2.2.2.2.2.2.2.2.2.1,a.2.2.2.2.2.2.2.2.2.2.2.2.2.2.2.2.2.2.2))) U) U) (K (.inr (x,j,m)))
def JC[LP]:=AS j2B
abbrev _i:=FW j2B JC
def j3s[LP](b:kB)(a:eD)(c d:J):N ax:=cond (inR a.2.1 b.2.length) (let f:=M b.2 a.2.1.toNat (0,([]:ah))
 (j8D b a c d).bind λg=>let l:=S g.length
 (JC d c (-1) (-1) l 0 a.1 a.2.1 a.2.2.1.1 a.2.2.1.2 a.2.2.2.1 a.2.2.2.2.1 a.2.2.2.2.2.1 a.2.2.2.2.2.2.1 a.2.2.2.2.2.2.2.1 a.2.2.2.2.2.2.2.2 f.1 f.2 ([]:ax) g).bind λe=>let i:ax:=[(e.2.1,(e.1,(-1)))]
 cond (L (O e.2.2+O i<=aK)) (let j:ax:=e.2.2++i
 (jc5 j).bind λk=>K k) U) U
def j5b(k:J)(e:ag)(d b:J)(j:ah):N ((J×ag×J×J×ah) ⊕ (ah)):=cond (L (b<d)) (cond (inR b e.length) (let a:=M e b.toNat (0,(0,(0,(0,0))))
 cond (cond (a.1==0) (a.2.1==k) Z) (let c:ah:=[a.2.2.2]
 cond (L (O j+O c<=aK)) (let f:ah:=j++c
 let g:=w64 (b+1)
 K (.inl (k,e,d,g,f))) U) (let i:=w64 (b+1)
 K (.inl (k,e,d,i,j)))) U) (K (.inr j))
def Pv[LP]:=gL j5b
theorem _j(a b c d e):Pv a b c d e=lpK (j5b a b c d e) λh=>Pv h.1 h.2.1 h.2.2.1 h.2.2.2.1 h.2.2.2.2:=iO _ _
def j8E[LP](b:kA)(a:J):N ah:=
 let c:=S b.2.2.length
 (Pv a b.2.2 c 0 ([]:ah)).bind λe=>(jaB e).bind λd=>K d
def j4p(k:ax)(n m l a:J)(r:W)(g:aH)(d:ag)(s p e:J)(q:cJ)(o:ax)(f:ah):N ((ax×J×J×J×J×W×aH×ag×J×J×J×cJ×ax×ah) ⊕ (ax×J×J×W×aH×ag×cJ×ax)):=cond (L (a<l)) (cond (inR a f.length) (let b:=M f a.toNat (0,0)
 let c:ax:=[(b.1,(b.2,e))]
 cond (L (O o+O c<=aK)) (let j:ax:=o++c
 let i:=w64 (a+1)
 K (.inl (k,n,m,l,i,r,g,d,s,p,e,q,j,f))) U) U) (K (.inr (k,n,m,r,g,d,q,o)))
def C7[LP]:=ph j4p
abbrev _k:=ri j4p C7
def j4q[LP](g:ax)(j d:J)(q:W)(f:aH)(e:ag)(l:cJ)(n:ax):N ((ax×J×J×W×aH×ag×cJ×ax) ⊕ (ax)):=cond (L (d<j)) (cond (inR d g.length) (let a:=M g d.toNat (0,(0,0))
 cond (L (a.2.2<0)) (let o:=w64 (d+1)
 K (.inl (g,j,o,q,f,e,l,n))) (let z:ah:=iQ ([]:ah) l a.2.2
 cond (!(mZ l a.2.2)) ((j8E (q,(f,e)) a.2.2).bind λu=>let m:cJ:=kV l a.2.2 u
 let v:ah:=[(a.1,a.2.1)]
 let y:ah:=iQ ([]:ah) m a.2.2
 (j3L v y).bind λi=>let p:=S i.length
 (C7 g j d p 0 q f e a.1 a.2.1 a.2.2 m n i).bind λc=>let r:=w64 (c.2.2.1+1)
 K (.inl (c.1,c.2.1,r,c.2.2.2.1,c.2.2.2.2.1,c.2.2.2.2.2.1,c.2.2.2.2.2.2.1,c.2.2.2.2.2.2.2))) (let t:ah:=[(a.1,a.2.1)]
 let s:ah:=iQ ([]:ah) l a.2.2
 (j3L t s).bind λk=>let w:=S k.length
 (C7 g j d w 0 q f e a.1 a.2.1 a.2.2 l n k).bind λb=>let x:=w64 (b.2.2.1+1)
 K (.inl (b.1,b.2.1,x,b.2.2.2.1,b.2.2.2.2.1,b.2.2.2.2.2.1,b.2.2.2.2.2.2.1,b.2.2.2.2.2.2.2))))) U) (K (.inr n))
def F7[LP]:=r9 j4q
theorem _l(a b c d e f g h):F7 a b c d e f g h=lpK (j4q a b c d e f g h) λh=>F7 h.1 h.2.1 h.2.2.1 h.2.2.2.1 h.2.2.2.2.1 h.2.2.2.2.2.1 h.2.2.2.2.2.2.1 h.2.2.2.2.2.2.2:=iO _ _
def jaW[LP](a:kA)(b:ax):N ax:=
 let d:cJ:=[]
 let c:=S b.length
 (F7 b c 0 a.1 a.2.1 a.2.2 d ([]:ax)).bind λe=>K e
def j6I(a:ax)(c:ah)(b d:J)(n:ax):N ((ax×ah×J×J×ax) ⊕ (ax)):=
 let v:=S a.length
 let u:=S c.length
 cond (cond (L (b<v)) (L (d<u)) Z) (cond (inR b a.length) (let e:=M a b.toNat (0,(0,0))
 cond (inR d c.length) (let k:=M c d.toNat (0,0)
 let j:Int:=if k.1>e.1 then k.1 else e.1
 cond (inR b a.length) (let m:=M a b.toNat (0,(0,0))
 cond (inR d c.length) (let f:=M c d.toNat (0,0)
 let g:Int:=if f.2<m.2.1 then f.2 else m.2.1
 cond (inR b a.length) (let w:=M a b.toNat (0,(0,0))
 cond (L (j<g)) (let i:ax:=[(j,(g,w.2.2))]
 cond (L (O n+O i<=aK)) (let l:ax:=n++i
 cond (inR b a.length) (let p:=M a b.toNat (0,(0,0))
 cond (inR d c.length) (let r:=M c d.toNat (0,0)
 cond (L (p.2.1<r.2)) (let x:=w64 (b+1)
 K (.inl (a,c,x,d,l))) (let y:=w64 (d+1)
 K (.inl (a,c,b,y,l)))) U) U) U) (cond (inR b a.length) (let o:=M a b.toNat (0,(0,0))
 cond (inR d c.length) (let q:=M c d.toNat (0,0)
 cond (L (o.2.1<q.2)) (let t:=w64 (b+1)
 K (.inl (a,c,t,d,n))) (let s:=w64 (d+1)
 K (.inl (a,c,b,s,n)))) U) U)) U) U) U) U) U) (K (.inr n))
def C8[LP]:=gL j6I
abbrev jmc:=ir j6I C8
def jfR[LP](b:ax)(a:ah):N ax:=(C8 b a 0 0 ([]:ax)).bind λc=>K c
def j5I(f:ax)(i d:J)(g:ah):N ((ax×J×J×ah) ⊕ (ah)):=cond (L (d<i)) (cond (inR d f.length) (let b:=M f d.toNat (0,(0,0))
 let a:ah:=[(b.1,b.2.1)]
 cond (L (O g+O a<=aK)) (let c:ah:=g++a
 let e:=w64 (d+1)
 K (.inl (f,i,e,c))) U) U) (K (.inr g))
def Px[LP]:=kC j5I
theorem _m(a b c d):Px a b c d=lpK (j5I a b c d) λh=>Px h.1 h.2.1 h.2.2.1 h.2.2.2:=iO _ _
def jeI[LP](a:ax):N ah:=
 let c:=S a.length
 (Px a c 0 ([]:ah)).bind λd=>(jaB d).bind λb=>K b
def j43(b a:wH):N Int:=
 let c:=w64 (b.1-a.1)
 K c
def j0A(a:ax):N ax:=
 yx (.pair (.int .i64) (.pair (.int .i64) (.int .i64))) (λb c=>(j43 b c).getD 0) a
def j38[LP](o:J)(l:aH)(t:an)(k:aq)(e:aw)(g:aA)(f:cJ)(u:W)(j:aH)(i:ag)(w v:J)(d:ah)(c:ax):N ((J×aH×an×aq×aw×aA×cJ×W×aH×ag×J×J×ah×ax) ⊕ (ah×ax)):=cond (L (o<=0)) (K (.inr (d,c))) (cond (L (o<=S l.length)) (let s:Int:=o-1
 let a:=M l s.toNat (Y,(0,((0,0),(0,(0,(([]:(X J)),(([]:ah),(0,0))))))))
 (j3s ((t,(k,(e,g))),f) a w v).bind λr=>(jaW (u,(j,i)) r).bind λq=>(jfR q d).bind λb=>cond (L (O c+O b<=aK)) (let n:ax:=c++b
 (jeI b).bind λm=>(j3L d m).bind λp=>K (.inl ((o-1),l,t,k,e,g,f,u,j,i,w,v,p,n))) U) U)
def JD[LP]:=ph j38
abbrev _n:=ri j38 JD
def j39(i c:J)(e:ah)(a:ax):N ((J×J×ah×ax) ⊕ (ax)):=cond (L (c<i)) (cond (inR c e.length) (let d:=M e c.toNat (0,0)
 let b:ax:=[(d.1,(d.2,(-1)))]
 cond (L (O a+O b<=aK)) (let f:ax:=a++b
 let g:=w64 (c+1)
 K (.inl (i,g,e,f))) U) U) (K (.inr a))
def JE[LP]:=kC j39
abbrev _o:=lz j39 JE
def j5Z[LP](b:kB)(d:kA)(a c:J):N ax:=cond (L (a>=c)) (K ([]:ax)) (let k:ah:=[(a,c)]
 (j2Y d.2.1).bind λe=>(JD (S e.length) e b.1.1 b.1.2.1 b.1.2.2.1 b.1.2.2.2 b.2 d.1 d.2.1 d.2.2 a c k ([]:ax)).bind λf=>let j:=S f.1.length
 (JE j 0 f.1 f.2).bind λl=>(j0A l).bind λi=>(jc5 i).bind λg=>K g)
def jdX(a:J):N Bool:=K (a != a)
def jfS(b a:J):N Bool:=(jdX b).bind λd=>cond d ((jdX a).bind λc=>K (cond (!c) Á (L (b<a)))) (K (L (b<a)))
def ja8(a:J):N Bool:=K (a != a)
def j1M(b:X J)(c l g m:J):N (((X J)×J×J×J×J) ⊕ ((X J)×J×J×J)):=cond (L (g<m)) (let e:=w64 (g+m)
 let i:Int:=É .u64 e
 let k:Int:=Ì i 2
 let a:=w64 k
 cond (inR a b.length) (let f:=M b a.toNat 0
 (jfS f c).bind λd=>cond d (let j:=w64 (a+1)
 K (.inl (b,c,l,j,m))) (K (.inl (b,c,l,g,a)))) U) (K (.inr (b,c,l,g)))
def Py[LP]:=gL j1M
abbrev jaX:=ir j1M Py
def j3t[LP](c:X J)(b:J):N (J×Æ):=
 let e:=S c.length
 (Py c b e 0 e).bind λa=>cond ((inR a.2.2.2 a.1.length) || !(L (a.2.2.2<a.2.2.1))) (let d:=M a.1 a.2.2.2.toNat 0
 cond ((inR a.2.2.2 a.1.length) || !((L (a.2.2.2<a.2.2.1))&&(!(d==a.2.1)))) (let f:=M a.1 a.2.2.2.toNat 0
 cond (L (a.2.2.2<a.2.2.1)) (cond (d==a.2.1) (K (a.2.2.2,Á)) ((ja8 f).bind λi=>cond i ((ja8 a.2.1).bind λg=>K (a.2.2.2,g)) (K (a.2.2.2,Z)))) (cond ((d==a.2.1) || !Z) (K (a.2.2.2,Z)) U)) U) U
def jl5(b:mN)(a:J):N Bool:=K (cond (L (b.2.2.2.1<=a)) (L (a<b.2.2.2.2)) Z)
def j6T(f e:J)(d:ag)(c b:J):N ((J×J×ag×J×J) ⊕ (J)):=cond (L (b<c)) (cond (inR b d.length) (let a:=M d b.toNat (0,(0,(0,(0,0))))
 (jl5 a e).bind λj=>cond (cond (!j) Á (a.1==0)) (let m:=w64 (b+1)
 K (.inl (f,e,d,c,m))) (cond (a.1==1) (let l:=w64 (b+1)
 K (.inl (a.2.1,e,d,c,l))) (cond (a.1 != 2) (let n:=w64 (b+1)
 K (.inl (f,e,d,c,n))) (cond (f==a.2.1) (let k:=w64 (b+1)
 K (.inl (a.2.2.1,e,d,c,k))) (cond (f==a.2.2.1) (let i:=w64 (b+1)
 K (.inl (a.2.1,e,d,c,i))) (let g:=w64 (b+1)
 K (.inl (f,e,d,c,g)))))))) U) (K (.inr f))
def JF[LP]:=gL j6T
abbrev _p:=ir j6T JF
def jmd[LP](b:ag)(a c:J):N Int:=
 let d:=S b.length
 (JF a c b d 0).bind λe=>K e
def j3u(p q:J)(g:ag)(n b:J)(r:an)(i:aq)(d:aw)(j:aA)(f:cJ)(s:W)(k:aH)(e:ag)(o:X J):N ((J×J×ag×J×J×an×aq×aw×aA×cJ×W×aH×ag×(X J)) ⊕ (J×J×an×aq×aw×aA×cJ×W×aH×ag×(X J))):=cond (L (b<n)) (cond (inR b g.length) (let a:=M g b.toNat (0,(0,(0,(0,0))))
 let c:X Int:=[a.2.2.2.1,a.2.2.2.2]
 cond (L (O o+O c<=aK)) (let m:X Int:=o++c
 let l:=w64 (b+1)
 K (.inl (p,q,g,n,l,r,i,d,j,f,s,k,e,m))) U) U) (K (.inr (p,q,r,i,d,j,f,s,k,e,o)))
def JG[LP]:=ph j3u
abbrev _q:=ri j3u JG
def j3v[LP](l i p q:J)(s:W)(k:aH)(b:ag)(t a f:J)(e:X J)(j r:ax):N ((J×J×J×J×W×aH×ag×J×J×J×(X J)×ax×ax) ⊕ (J×J×W×aH×ag×(X J)×ax×ax)):=cond (L (i<a)) (cond (inR l e.length) (let g:=M e l.toNat 0
 let c:Int:=if g<a then g else a
 (jmd b f i).bind λm=>let d:ax:=[(i,(c,m))]
 cond (L (O j+O d<=aK)) (let o:ax:=j++d
 let n:=w64 (l+1)
 K (.inl (n,c,p,q,s,k,b,t,a,f,e,o,r))) U) U) (K (.inr (p,q,s,k,b,e,j,r)))
def Pz[LP]:=wL j3v
abbrev _r:=AO j3v Pz
def j3w[LP](i c:J)(n:W)(m:aH)(l:ag)(k:X J)(j d:ax):N ((J×J×W×aH×ag×(X J)×ax×ax) ⊕ (ax)):=cond (L (c<i)) (cond (inR c d.length) (let b:=M d c.toNat (0,(0,0))
 let e:=w64 (b.1+1)
 (j3t k e).bind λg=>(Pz g.1 b.1 i c n m l b.1 b.2.1 b.2.2 k j d).bind λa=>let f:=w64 (a.2.1+1)
 K (.inl (a.1,f,a.2.2.1,a.2.2.2.1,a.2.2.2.2.1,a.2.2.2.2.2.1,a.2.2.2.2.2.2.1,a.2.2.2.2.2.2.2))) U) (K (.inr j))
def JH[LP]:=r9 j3w
abbrev _s:=tT j3w JH
def j2M[LP](b:kB)(c:kA)(d e:J):N ax:=
 let j:=S c.2.2.length
 (JG d e c.2.2 j 0 b.1.1 b.1.2.1 b.1.2.2.1 b.1.2.2.2 b.2 c.1 c.2.1 c.2.2 ([]:(X J))).bind λa=>(jmb a.2.2.2.2.2.2.2.2.2.2 a.1 a.2.1).bind λg=>(j5Z ((a.2.2.1,(a.2.2.2.1,(a.2.2.2.2.1,a.2.2.2.2.2.1))),a.2.2.2.2.2.2.1) (a.2.2.2.2.2.2.2.1,(a.2.2.2.2.2.2.2.2.1,a.2.2.2.2.2.2.2.2.2.1)) a.1 a.2.1).bind λf=>let k:=S f.length
 (JH k 0 a.2.2.2.2.2.2.2.1 a.2.2.2.2.2.2.2.2.1 a.2.2.2.2.2.2.2.2.2.1 g ([]:ax) f).bind λl=>(jc5 l).bind λi=>K i
def j5c(n l m a:J)(o:an)(g:aq)(c:aw)(i:aA)(e:cJ)(p:W)(j:aH)(d:ag)(f:ax):N ((J×J×J×J×an×aq×aw×aA×cJ×W×aH×ag×ax) ⊕ ((J×Æ) ⊕ (J×J×an×aq×aw×aA×cJ×W×aH×ag))):=cond (L (a<m)) (cond (inR a f.length) (let b:=M f a.toNat (0,(0,0))
 cond (L (b.2.2<0)) (K (.inr (.inl (b.1,Á)))) (let k:=w64 (a+1)
 K (.inl (n,l,m,k,o,g,c,i,e,p,j,d,f)))) U) (K (.inr (.inr (n,l,o,g,c,i,e,p,j,d))))
def C9[LP]:=wL j5c
abbrev _t:=AO j5c C9
def j3J[LP](o m:J)(q:an)(g:aq)(e:aw)(j:aA)(f:cJ)(r:W)(k:aH)(i:ag):N ((J×J×an×aq×aw×aA×cJ×W×aH×ag) ⊕ ((J×Æ) ⊕ Ê)):=cond (L (o<m)) (let c:=w64 (o+4320000)
 let d:Int:=if c<m then c else m
 (j2M ((q,(g,(e,j))),f) (r,(k,i)) o d).bind λb=>let l:=S b.length
 (C9 m d l 0 q g e j f r k i b).bind λp=>sumC p (λn=>K (.inr (.inl n))) (λa=>K (.inl (a.2.1,a.1,a.2.2.1,a.2.2.2.1,a.2.2.2.2.1,a.2.2.2.2.2.1,a.2.2.2.2.2.2.1,a.2.2.2.2.2.2.2.1,a.2.2.2.2.2.2.2.2.1,a.2.2.2.2.2.2.2.2.2)))) (K (.inr (.inr ())))
def JI[LP]:=mO j3J
abbrev PA:=nU j3J JI
def jj8[LP](a:kB)(b:kA)(c d:J):N (J×Æ):=(JI c d a.1.1 a.1.2.1 a.1.2.2.1 a.1.2.2.2 a.2 b.1 b.2.1 b.2.2).bind λe=>sumC e (λf=>K f) (λg=>K (0,Z))
def j4W[LP](d:bz)(a b:J):N (J×Æ×J):=(jag d a b b).bind λc=>cond (c.2 != 0) (K (0,Z,c.2)) (cond (inR a d.2.2.2.length) (let e:=M d.2.2.2 a.toNat (Y,(([]:aH),([]:ag)))
 (j4V c.1 e).bind λf=>let j:Int:=if f>b then f else b
 let i:=w64 (j+604800)
 let k:Int:=if 8589934592<i then 8589934592 else i
 (jj8 c.1 e b k).bind λg=>K (g.1,(!g.2),0)) U)
def j8F[LP](b:bz)(a d e:J):N (ax×J):=(jag b a d e).bind λc=>cond (c.2 != 0) (K (([]:ax),c.2)) (cond (inR a b.2.2.2.length) (let f:=M b.2.2.2 a.toNat (Y,(([]:aH),([]:ag)))
 (j2M c.1 f d e).bind λg=>let i:=S g.length
 cond (L (i>16384)) (K (([]:ax),5)) (K (g,0))) U)
def j3Y(k:J)(g:ax)(j b:J)(i:ah):N ((J×ax×J×J×ah) ⊕ (ah)):=cond (L (b<j)) (cond (inR b g.length) (let a:=M g b.toNat (0,(0,0))
 cond (a.2.2==k) (let c:ah:=[(a.1,a.2.1)]
 cond (L (O i+O c<=aK)) (let e:ah:=i++c
 let f:=w64 (b+1)
 K (.inl (k,g,j,f,e))) U) (let d:=w64 (b+1)
 K (.inl (k,g,j,d,i)))) U) (K (.inr i))
def PB[LP]:=gL j3Y
abbrev _u:=ir j3Y PB
def jcs[LP](b:ax)(a:J):N ah:=
 let d:=S b.length
 (PB a b d 0 ([]:ah)).bind λe=>(jaB e).bind λc=>K c
def jcU[LP](b:bz)(a c d f:J):N (ah×J):=(j8F b a d f).bind λe=>cond (e.2 != 0) (K (([]:ah),e.2)) ((jcs e.1 c).bind λg=>let i:=S g.length
 cond (L (i>4096)) (K (([]:ah),5)) (K (g,0)))
def j7r[LP](b:bz)(a c d:J):N (ah×J):=(jcU b a (-1) c d).bind λe=>K e
def j7M[LP](b:bz)(a c d:J):N Bool:=(j7r b a c d).bind λe=>let f:=S e.1.length
 K (cond (e.2==0) (f==0) Z)
def j3M[LP](a:bz)(b:J):N Int:=(jhN a).bind λc=>cond (!c.2) (K 0) ((jaf a b).bind λe=>cond (!e) (K 0) (cond (inR b a.2.2.2.length) (let d:=M a.2.2.2 b.toNat (Y,(([]:aH),([]:ag)))
 (j4V c.1 d).bind λf=>K f) U))
def jk6[LP]  : N Bool:=(jns Z).bind λa=>(jns Á).bind λb=>(j4W a 0 950400).bind λd=>(j4W b 0 950400).bind λe=>(j7r a 0 345600 950400).bind λc=>let k:Bool:=cond (cond (d.2.2==0) (e.2.2==0) Z) (c.2==0) Z
 let j:=S c.1.length
 let g:Bool:=cond (cond (cond (cond k (!d.2.1) Z) e.2.1 Z) (d.1==1382400) Z) (j==1) Z
 cond ((inR 0 c.1.length) || !g) (let f:=M c.1 0 (0,0)
 cond (cond g ((f.1==777600)&&(f.2==950400)) Z) ((j7M b 0 345600 2592000).bind λl=>cond l ((j3M a 0).bind λi=>K (i==345600)) (K Z)) (K Z)) U
def jpU(a:X J):N ((X J)×J):=K (a,0)
def j04(b:X J)(a c:J):N (J×(X J)×J):=
 let g:=S b.length
 cond (L (a>=g)) (K (0,b,a)) (cond (L (c<1)) (K (0,b,a)) (cond (inR a b.length) (let f:=M b a.toNat 0
 cond (!(c==0)) (let d:=Ã f c
 let e:=w64 (a+1)
 cond (L (d<0)) (let i:=w64 (d+c)
 K (i,b,e)) (K (d,b,e))) U) U))
def j0b(d:X J)(b:J)(a:X J):N (J×(X J)×J):=
 let f:=S a.length
 (j04 d b f).bind λc=>cond (inR c.1 a.length) (let e:=M a c.1.toNat 0
 K (e,c.2.1,c.2.2)) U
def jct(a0:X J)(i:J)(a:W):N (dA×(X J)×J):=
 let b5:X Int:=[0,4,(-20),22,48,(-47)]
 (j0b a0 i b5).bind λv=>(j04 v.2.1 v.2.2 2).bind λn=>(j04 n.2.1 n.2.2 3).bind λp=>let b3:=w64 (n.1*p.1)
 let b2:=w64 (v.1+b3)
 let c:=w64 (900*b2)
 (j04 p.2.1 p.2.2 2).bind λl=>let g:=w64 (2025+l.1)
 (j04 l.2.1 l.2.2 4).bind λb=>cond (b.1==1) (let a5:=w64 (c+3600)
 let a4:bn:=[(2025,(g,(3,(5,(6,(7200,a5)))))),(2025,(g,(10,(5,(6,(10800,c))))))]
 K ((a,(c,a4)),b.2.1,b.2.2)) (cond (b.1==2) ((j04 b.2.1 b.2.2 4).bind λu=>let a8:=w64 (1+u.1)
 (j04 u.2.1 u.2.2 7).bind λk=>(j04 k.2.1 k.2.2 24).bind λr=>let b4:=w64 (3600*r.1)
 (j04 r.2.1 r.2.2 8).bind λm=>let a6:=w64 (1+m.1)
 let a2:=w64 (1800*a6)
 let b7:=w64 (c+a2)
 (j04 m.2.1 m.2.2 2).bind λt=>let a3:=w64 (2+t.1)
 let b6:X Int:=[2,3,5]
 (j0b t.2.1 t.2.2 b6).bind λx=>(j04 x.2.1 x.2.2 7).bind λo=>(j04 o.2.1 o.2.2 24).bind λs=>let a1:=w64 (3600*s.1)
 let a7:bn:=[(2025,(g,(1,(a8,(k.1,(b4,b7)))))),(2025,(g,(a3,(x.1,(o.1,(a1,c))))))]
 K ((a,(c,a7)),s.2.1,s.2.2)) (cond (b.1==3) (let a9:X Int:=[3600,(-3600),82800,(-82800),43200]
 (j0b b.2.1 b.2.2 a9).bind λf=>let j:=w64 (c+f.1)
 cond (cond (L (j>64800)) Á (L (j<(-64800)))) ((j04 f.2.1 f.2.2 7).bind λw=>(j04 w.2.1 w.2.2 48).bind λq=>let b1:=w64 (1800*q.1)
 let b0:bn:=[(2026,(2026,(1,(2,(w.1,(b1,0))))))]
 K ((a,(c,b0)),q.2.1,q.2.2)) ((j04 f.2.1 f.2.2 7).bind λe=>(j04 e.2.1 e.2.2 48).bind λd=>let z:=w64 (1800*d.1)
 let y:bn:=[(2026,(2026,(1,(2,(e.1,(z,j))))))]
 K ((a,(c,y)),d.2.1,d.2.2))) (K ((a,(c,([]:bn))),b.2.1,b.2.2))))
def jha  : N (X W):=
 let a:X ByteArray:=[(À #[97,100,97]),(À #[98,111,98]),(À #[99,108,101,111]),(À #[100,97,110]),(À #[101,118,101]),(À #[102,97,121]),(À #[103,117,115]),(À #[104,97,108])]
 K a
def j1q(d:X J)(a b:J):N (Æ×(X J)×J):=(j04 d a b).bind λc=>let e:=w64 (b-1)
 K ((c.1==e),c.2.1,c.2.2)
def j2N(r q:J)(p:X J)(g:J)(o:ah):N ((J×J×(X J)×J×ah) ⊕ ((X J)×J×ah)):=cond (L (q>0)) ((j04 p g 30).bind λc=>let k:=w64 (3600*c.1)
 let l:=w64 (r+k)
 (j04 c.2.1 c.2.2 2).bind λb=>let n:=w64 (60*b.1)
 let f:=w64 (l+n)
 let i:X Int:=[3600,28800,43200,86400,61,1]
 (j0b b.2.1 b.2.2 i).bind λa=>let d:=w64 (f+a.1)
 cond (L (d>604800)) (K (.inr (a.2.1,a.2.2,o))) (let e:ah:=[(f,d)]
 cond (L (O o+O e<=aK)) (let m:ah:=o++e
 let j:=w64 (q-1)
 K (.inl (d,j,a.2.1,a.2.2,m))) U)) (K (.inr (p,g,o)))
def PC[LP]:=gL j2N
abbrev _v:=ir j2N PC
def j5w[LP](d:X J)(a:J):N (ah×(X J)×J):=(j04 d a 4).bind λb=>(PC 0 b.1 b.2.1 b.2.2 ([]:ah)).bind λc=>K (c.2.2,c.1,c.2.1)
def j3x(l:J)(k:X J)(f:J)(b:an):N ((J×(X J)×J×an) ⊕ ((X J)×J×an)):=cond (L (l>0)) (let e:X ByteArray:=[(À #[104,101,114,101]),(À #[116,104,101,114,101])]
 let c:=S b.length
 cond (inR c e.length) (let j:=M e c.toNat Y
 (jct k f j).bind λa=>let d:an:=[a.1]
 cond (L (O b+O d<=aK)) (let i:an:=b++d
 let g:=w64 (l-1)
 K (.inl (g,a.2.1,a.2.2,i))) U) U) (K (.inr (k,f,b)))
def PD[LP]:=kC j3x
abbrev _w:=lz j3x PD
def j3y[LP](a4:J)(a5:X J)(q:J)(g:an)(b:aq):N ((J×(X J)×J×an×aq) ⊕ ((X J)×J×an×aq)):=cond (L (a4>0)) ((jha).bind λm=>let n:=S b.length
 cond (inR n m.length) (let o:=M m n.toNat Y
 let y:=S g.length
 (j04 a5 q y).bind λd=>(j1q d.2.1 d.2.2 3).bind λc=>(j1q c.2.1 c.2.2 2).bind λa=>cond a.1 ((j5w a.2.1 a.2.2).bind λf=>let u:X Int:=[0,40,100,12]
 (j0b f.2.1 f.2.2 u).bind λj=>let x:=w64 (3600*j.1)
 let w:X Int:=[0,11,24,1]
 (j0b j.2.1 j.2.2 w).bind λi=>let z:=w64 (3600*i.1)
 let p:aq:=[(o,(d.1,(f.1,(x,(z,c.1)))))]
 cond (L (O b+O p<=aK)) (let r:aq:=b++p
 let a0:=w64 (a4-1)
 K (.inl (a0,i.2.1,i.2.2,g,r))) U) (let s:X Int:=[0,40,100,12]
 (j0b a.2.1 a.2.2 s).bind λe=>let a3:=w64 (3600*e.1)
 let a1:X Int:=[0,11,24,1]
 (j0b e.2.1 e.2.2 a1).bind λk=>let v:=w64 (3600*k.1)
 let l:aq:=[(o,(d.1,(([]:ah),(a3,(v,c.1)))))]
 cond (L (O b+O l<=aK)) (let a2:aq:=b++l
 let t:=w64 (a4-1)
 K (.inl (t,k.2.1,k.2.2,g,a2))) U)) U) (K (.inr (a5,q,g,b)))
def PE[LP]:=gL j3y
abbrev _x:=ir j3y PE
def j3z(o m q:J)(p:X J)(g:J)(n:W)(i:J)(d:an)(j:aq)(e:aw)(c:X J):N ((J×J×J×(X J)×J×W×J×an×aq×aw×(X J)) ⊕ (J×(X J)×J×W×J×an×aq×aw×(X J))):=cond (L (m>0)) ((j04 p g 6).bind λa=>let l:=w64 (1+a.1)
 let b:=w64 (q+l)
 cond (L (O c+O [b]<=aK)) (let f:X Int:=c++[b]
 let k:=w64 (m-1)
 K (.inl (o,k,b,a.2.1,a.2.2,n,i,d,j,e,f))) U) (K (.inr (o,p,g,n,i,d,j,e,c)))
def PF[LP]:=rh j3z
abbrev _y:=tU j3z PF
def j3A[LP](m:J)(n:X J)(i:J)(e:an)(j:aq)(f:aw):N ((J×(X J)×J×an×aq×aw) ⊕ ((X J)×J×an×aq×aw)):=cond (L (m>0)) (let l:=S e.length
 (j04 n i l).bind λc=>(j04 c.2.1 c.2.2 4).bind λb=>(PF m b.1 20454 b.2.1 b.2.2 (À #[100,97,121,115]) c.1 e j f ([]:(X J))).bind λa=>let d:aw:=[(a.2.2.2.1,(a.2.2.2.2.1,a.2.2.2.2.2.2.2.2))]
 cond (L (O a.2.2.2.2.2.2.2.1+O d<=aK)) (let g:aw:=a.2.2.2.2.2.2.2.1++d
 let k:=w64 (a.1-1)
 K (.inl (k,a.2.1,a.2.2.1,a.2.2.2.2.2.1,a.2.2.2.2.2.2.1,g))) U) (K (.inr (n,i,e,j,f)))
def PG[LP]:=tS j3A
abbrev _z:=uP j3A PG
def jb6[LP](g:X J)(a:J):N (bz×(X J)×J):=(j04 g a 2).bind λc=>let j:=w64 (1+c.1)
 (PD j c.2.1 c.2.2 ([]:an)).bind λi=>(j04 i.1 i.2.1 4).bind λb=>let k:=w64 (1+b.1)
 (PE k b.2.1 b.2.2 i.2.2 ([]:aq)).bind λf=>(j04 f.1 f.2.1 2).bind λe=>(PG e.1 e.2.1 e.2.2 f.2.2.1 f.2.2.2 ([]:aw)).bind λd=>K ((d.2.2.1,(d.2.2.2.1,(d.2.2.2.2,([]:aA)))),d.1,d.2.1)
def j3B(a0:J)(y:X J)(o:J)(z:an)(c:aq)(d:aw)(i:aA)(a2:W)(r e g p m j f:J)(a1:W)(k s t l n q u:J)(b:X J):N ((J×(X J)×J×an×aq×aw×aA×W×J×J×J×J×J×J×J×W×J×J×J×J×J×J×J×(X J)) ⊕ ((X J)×J×an×aq×aw×aA×W×J×J×J×J×J×J×J×W×J×J×J×J×J×J×J×(X J))):=cond (L (a0>0)) (let x:=S c.length
 (j04 y o x).bind λa=>cond (L (O b+O [a.1]<=aK)) (let w:X Int:=b++[a.1]
 let v:=w64 (a0-1)
 K (.inl (v,a.2.1,a.2.2,z,c,d,i,a2,r,e,g,p,m,j,f,a1,k,s,t,l,n,q,u,w))) U) (K (.inr (y,o,z,c,d,i,a2,r,e,g,p,m,j,f,a1,k,s,t,l,n,q,u,b)))
def F8[LP](w:J)(u:X J)(m:J)(v:an)(q:aq)(a:aw)(e:aA)(y:W)(p b d n j f c:J)(x:W)(g r s i k o t:J)(l:X J):N ((X J)×J×an×aq×aw×aA×W×J×J×J×J×J×J×J×W×J×J×J×J×J×J×J×(X J)):=LP.lp (u8 (u8 unc8) j3B) (w,u,m,v,q,a,e,y,p,b,d,n,j,f,c,x,g,r,s,i,k,o,t,l)
theorem _A(w u m v q a e y p b d n j f c x g r s i k o t l):F8 w u m v q a e y p b d n j f c x g r s i k o t l=lpK (j3B w u m v q a e y p b d n j f c x g r s i k o t l) (λh=>F8 h.1 h.2.1 h.2.2.1 h.2.2.2.1 h.2.2.2.2.1 h.2.2.2.2.2.1 h.2.2.2.2.2.2.1 h.2.2.2.2.2.2.2.1 h.2.2.2.2.2.2.2.2.1 h.2.2.2.2.2.2.2.2.2.1 h.2.2.2.2.2.2.2.2.2.2.1 h.2.2.2.2.2.2.2.2.2.2.2.1 h.2.2.2.2.2.2.2.2.2.2.2.2.1 h.2.2.2.2.2.2.2.2.2.2.2.2.2.1 h.2.2.2.2.2.2.2.2.2.2.2.2.2.2.1 h.2.2.2.2.2.2.2.2.2.2.2.2.2.2.2.1 h.2.2.2.2.2.2.2.2.2.2.2.2.2.2.2.2.1 h.2.2.2.2.2.2.2.2.2.2.2.2.2.2.2.2.2.1 h.2.2.2.2.2.2.2.2.2.2.2.2.2.2.2.2.2.2.1 h.2.2.2.2.2.2.2.2.2.2.2.2.2.2.2.2.2.2.2.1 h.2.2.2.2.2.2.2.2.2.2.2.2.2.2.2.2.2.2.2.2.1 h.2.2.2.2.2.2.2.2.2.2.2.2.2.2.2.2.2.2.2.2.2.1 h.2.2.2.2.2.2.2.2.2.2.2.2.2.2.2.2.2.2.2.2.2.2.1 h.2.2.2.2.2.2.2.2.2.2.2.2.2.2.2.2.2.2.2.2.2.2.2):=iO _ _
def jb7[LP](b5:X J)(y:J)(c:bz)(j:W):N (eD×(X J)×J):=
 let b6:=S c.1.length
 (j04 b5 y b6).bind λx=>(j04 x.2.1 x.2.2 6).bind λa1=>let c2:=w64 (20454+a1.1)
 let b4:=w64 (c2-2)
 let c0:X Int:=[0,32400,7200,9000,79200,1]
 (j0b a1.2.1 a1.2.2 c0).bind λv=>(j04 v.2.1 v.2.2 3).bind λr=>(j04 r.2.1 r.2.2 2).bind λs=>let c3:=w64 (1+s.1)
 cond (r.1==0) (let c4:X Int:=[6,8,12,24,23,49]
 (j0b s.2.1 s.2.2 c4).bind λa3=>(j04 a3.2.1 a3.2.2 3).bind λz=>let b9:=w64 (1+z.1)
 (F8 b9 z.2.1 z.2.2 c.1 c.2.1 c.2.2.1 c.2.2.2 Y 0 0 0 0 0 0 0 j x.1 b4 v.1 r.1 a3.1 0 0 ([]:(X J))).bind λb=>(j1q b.1 b.2.1 2).bind λt=>cond t.1 ((j5w t.2.1 t.2.2).bind λw=>(j1q w.2.1 w.2.2 4).bind λu=>let b8:=S b.2.2.2.2.1.length
 cond (cond u.1 (L (b8>0)) Z) (let b7:=S b.2.2.2.2.1.length
 (j04 u.2.1 u.2.2 b7).bind λa2=>(j04 a2.2.1 a2.2.2 2).bind λa0=>let c1:=w64 (1+a0.1)
 K ((b.2.2.2.2.2.2.2.2.2.2.2.2.2.2.1,(b.2.2.2.2.2.2.2.2.2.2.2.2.2.2.2.1,((b.2.2.2.2.2.2.2.2.2.2.2.2.2.2.2.2.1,b.2.2.2.2.2.2.2.2.2.2.2.2.2.2.2.2.2.1),(b.2.2.2.2.2.2.2.2.2.2.2.2.2.2.2.2.2.2.1,(b.2.2.2.2.2.2.2.2.2.2.2.2.2.2.2.2.2.2.2.1,(b.2.2.2.2.2.2.2.2.2.2.2.2.2.2.2.2.2.2.2.2.2.2,(w.1,(a2.1,c1)))))))),a0.2.1,a0.2.2)) (K ((b.2.2.2.2.2.2.2.2.2.2.2.2.2.2.1,(b.2.2.2.2.2.2.2.2.2.2.2.2.2.2.2.1,((b.2.2.2.2.2.2.2.2.2.2.2.2.2.2.2.2.1,b.2.2.2.2.2.2.2.2.2.2.2.2.2.2.2.2.2.1),(b.2.2.2.2.2.2.2.2.2.2.2.2.2.2.2.2.2.2.1,(b.2.2.2.2.2.2.2.2.2.2.2.2.2.2.2.2.2.2.2.1,(b.2.2.2.2.2.2.2.2.2.2.2.2.2.2.2.2.2.2.2.2.2.2,(w.1,(b.2.2.2.2.2.2.2.2.2.2.2.2.2.2.2.2.2.2.2.2.1,b.2.2.2.2.2.2.2.2.2.2.2.2.2.2.2.2.2.2.2.2.2.1)))))))),u.2.1,u.2.2))) ((j1q t.2.1 t.2.2 4).bind λg=>let a9:=S b.2.2.2.2.1.length
 cond (cond g.1 (L (a9>0)) Z) (let a7:=S b.2.2.2.2.1.length
 (j04 g.2.1 g.2.2 a7).bind λq=>(j04 q.2.1 q.2.2 2).bind λo=>let a6:=w64 (1+o.1)
 K ((b.2.2.2.2.2.2.2.2.2.2.2.2.2.2.1,(b.2.2.2.2.2.2.2.2.2.2.2.2.2.2.2.1,((b.2.2.2.2.2.2.2.2.2.2.2.2.2.2.2.2.1,b.2.2.2.2.2.2.2.2.2.2.2.2.2.2.2.2.2.1),(b.2.2.2.2.2.2.2.2.2.2.2.2.2.2.2.2.2.2.1,(b.2.2.2.2.2.2.2.2.2.2.2.2.2.2.2.2.2.2.2.1,(b.2.2.2.2.2.2.2.2.2.2.2.2.2.2.2.2.2.2.2.2.2.2,(([]:ah),(q.1,a6)))))))),o.2.1,o.2.2)) (K ((b.2.2.2.2.2.2.2.2.2.2.2.2.2.2.1,(b.2.2.2.2.2.2.2.2.2.2.2.2.2.2.2.1,((b.2.2.2.2.2.2.2.2.2.2.2.2.2.2.2.2.1,b.2.2.2.2.2.2.2.2.2.2.2.2.2.2.2.2.2.1),(b.2.2.2.2.2.2.2.2.2.2.2.2.2.2.2.2.2.2.1,(b.2.2.2.2.2.2.2.2.2.2.2.2.2.2.2.2.2.2.2.1,(b.2.2.2.2.2.2.2.2.2.2.2.2.2.2.2.2.2.2.2.2.2.2,(([]:ah),(b.2.2.2.2.2.2.2.2.2.2.2.2.2.2.2.2.2.2.2.2.1,b.2.2.2.2.2.2.2.2.2.2.2.2.2.2.2.2.2.2.2.2.2.1)))))))),g.2.1,g.2.2)))) ((j04 s.2.1 s.2.2 3).bind λk=>let b1:=w64 (1+k.1)
 (F8 b1 k.2.1 k.2.2 c.1 c.2.1 c.2.2.1 c.2.2.2 Y 0 0 0 0 0 0 0 j x.1 b4 v.1 r.1 c3 0 0 ([]:(X J))).bind λa=>(j1q a.1 a.2.1 2).bind λd=>cond d.1 ((j5w d.2.1 d.2.2).bind λi=>(j1q i.2.1 i.2.2 4).bind λe=>let a8:=S a.2.2.2.2.1.length
 cond (cond e.1 (L (a8>0)) Z) (let b3:=S a.2.2.2.2.1.length
 (j04 e.2.1 e.2.2 b3).bind λn=>(j04 n.2.1 n.2.2 2).bind λm=>let a5:=w64 (1+m.1)
 K ((a.2.2.2.2.2.2.2.2.2.2.2.2.2.2.1,(a.2.2.2.2.2.2.2.2.2.2.2.2.2.2.2.1,((a.2.2.2.2.2.2.2.2.2.2.2.2.2.2.2.2.1,a.2.2.2.2.2.2.2.2.2.2.2.2.2.2.2.2.2.1),(a.2.2.2.2.2.2.2.2.2.2.2.2.2.2.2.2.2.2.1,(a.2.2.2.2.2.2.2.2.2.2.2.2.2.2.2.2.2.2.2.1,(a.2.2.2.2.2.2.2.2.2.2.2.2.2.2.2.2.2.2.2.2.2.2,(i.1,(n.1,a5)))))))),m.2.1,m.2.2)) (K ((a.2.2.2.2.2.2.2.2.2.2.2.2.2.2.1,(a.2.2.2.2.2.2.2.2.2.2.2.2.2.2.2.1,((a.2.2.2.2.2.2.2.2.2.2.2.2.2.2.2.2.1,a.2.2.2.2.2.2.2.2.2.2.2.2.2.2.2.2.2.1),(a.2.2.2.2.2.2.2.2.2.2.2.2.2.2.2.2.2.2.1,(a.2.2.2.2.2.2.2.2.2.2.2.2.2.2.2.2.2.2.2.1,(a.2.2.2.2.2.2.2.2.2.2.2.2.2.2.2.2.2.2.2.2.2.2,(i.1,(a.2.2.2.2.2.2.2.2.2.2.2.2.2.2.2.2.2.2.2.2.1,a.2.2.2.2.2.2.2.2.2.2.2.2.2.2.2.2.2.2.2.2.2.1)))))))),e.2.1,e.2.2))) ((j1q d.2.1 d.2.2 4).bind λf=>let b2:=S a.2.2.2.2.1.length
 cond (cond f.1 (L (b2>0)) Z) (let a4:=S a.2.2.2.2.1.length
 (j04 f.2.1 f.2.2 a4).bind λl=>(j04 l.2.1 l.2.2 2).bind λp=>let b0:=w64 (1+p.1)
 K ((a.2.2.2.2.2.2.2.2.2.2.2.2.2.2.1,(a.2.2.2.2.2.2.2.2.2.2.2.2.2.2.2.1,((a.2.2.2.2.2.2.2.2.2.2.2.2.2.2.2.2.1,a.2.2.2.2.2.2.2.2.2.2.2.2.2.2.2.2.2.1),(a.2.2.2.2.2.2.2.2.2.2.2.2.2.2.2.2.2.2.1,(a.2.2.2.2.2.2.2.2.2.2.2.2.2.2.2.2.2.2.2.1,(a.2.2.2.2.2.2.2.2.2.2.2.2.2.2.2.2.2.2.2.2.2.2,(([]:ah),(l.1,b0)))))))),p.2.1,p.2.2)) (K ((a.2.2.2.2.2.2.2.2.2.2.2.2.2.2.1,(a.2.2.2.2.2.2.2.2.2.2.2.2.2.2.2.1,((a.2.2.2.2.2.2.2.2.2.2.2.2.2.2.2.2.1,a.2.2.2.2.2.2.2.2.2.2.2.2.2.2.2.2.2.1),(a.2.2.2.2.2.2.2.2.2.2.2.2.2.2.2.2.2.2.1,(a.2.2.2.2.2.2.2.2.2.2.2.2.2.2.2.2.2.2.2.1,(a.2.2.2.2.2.2.2.2.2.2.2.2.2.2.2.2.2.2.2.2.2.2,(([]:ah),(a.2.2.2.2.2.2.2.2.2.2.2.2.2.2.2.2.2.2.2.2.1,a.2.2.2.2.2.2.2.2.2.2.2.2.2.2.2.2.2.2.2.2.2.1)))))))),f.2.1,f.2.2))))
def j6V(d:X J)(b:J):N (J×(X J)×J):=(j04 d b 576).bind λe=>let j:=w64 (3600*e.1)
 let g:=w64 (1767139200+j)
 (j1q e.2.1 e.2.2 3).bind λa=>cond a.1 (let f:X Int:=[(-1),1,1800,3599]
 (j0b a.2.1 a.2.2 f).bind λc=>let i:=w64 (g+c.1)
 K (i,c.2.1,c.2.2)) (K (g,a.2.1,a.2.2))
def j83(n:X J)(k:J)(m:(X Ê)×((X Ê)×((X Ê)×(X Ê)))):N (mN×(X J)×J):=
 let j:=S m.2.1.length
 (j04 n k 3).bind λa=>(j04 a.2.1 a.2.2 j).bind λe=>(j6V e.2.1 e.2.2).bind λb=>let o:X Int:=[3600,86400,7,259200,40000]
 (j0b b.2.1 b.2.2 o).bind λd=>let f:=w64 (b.1+d.1)
 cond (a.1==2) (cond (L (j<2)) (K ((0,(e.1,(0,(b.1,f)))),d.2.1,d.2.2)) (let p:=w64 (e.1+1)
 let r:=w64 (j-1)
 (j04 d.2.1 d.2.2 r).bind λi=>let q:=w64 (p+i.1)
 cond (!(j==0)) (let l:=Ã q j
 cond (a.1==1) ((j1q i.2.1 i.2.2 4).bind λg=>cond g.1 (K ((a.1,((-1),(l,(b.1,f)))),g.2.1,g.2.2)) (K ((a.1,(e.1,(l,(b.1,f)))),g.2.1,g.2.2))) (K ((a.1,(e.1,(l,(b.1,f)))),i.2.1,i.2.2))) U)) (cond (a.1==1) ((j1q d.2.1 d.2.2 4).bind λc=>cond c.1 (K ((a.1,((-1),(0,(b.1,f)))),c.2.1,c.2.2)) (K ((a.1,(e.1,(0,(b.1,f)))),c.2.1,c.2.2))) (K ((a.1,(e.1,(0,(b.1,f)))),d.2.1,d.2.2)))
def j3a[LP](o r:J)(q:X J)(j:J)(n:an)(e:aq)(d:aw)(p:W)(c:aA)(b:aH):N ((J×J×(X J)×J×an×aq×aw×W×aA×aH) ⊕ (J×(X J)×J×an×aq×aw×W×aA×aH)):=cond (L (r>0)) ((jha).bind λg=>let f:=S b.length
 cond (inR f g.length) (let m:=M g f.toNat Y
 (jb7 q j (n,(e,(d,c))) m).bind λa=>let i:aH:=[a.1]
 cond (L (O b+O i<=aK)) (let l:aH:=b++i
 let k:=w64 (r-1)
 K (.inl (o,k,a.2.1,a.2.2,n,e,d,p,c,l))) U) U) (K (.inr (o,q,j,n,e,d,p,c,b)))
def PH[LP]:=mO j3a
abbrev _B:=nU j3a PH
def j3b(m n:J)(p:X J)(i:J)(l:an)(e:aq)(c:aw)(o:W)(b:aA)(g:aH)(d:ag):N ((J×J×(X J)×J×an×aq×aw×W×aA×aH×ag) ⊕ (J×(X J)×J×an×aq×aw×W×aA×aH×ag)):=cond (L (n>0)) ((j83 p i ((Å l.length ()),((Å e.length ()),((Å c.length ()),(Å b.length ()))))).bind λa=>let f:ag:=[a.1]
 cond (L (O d+O f<=aK)) (let k:ag:=d++f
 let j:=w64 (n-1)
 K (.inl (m,j,a.2.1,a.2.2,l,e,c,o,b,g,k))) U) (K (.inr (m,p,i,l,e,c,o,b,g,d)))
def PI[LP]:=rh j3b
abbrev _C:=tU j3b PI
def j3c[LP](q:J)(r:X J)(l:J)(s:an)(k:aq)(j:aw)(e:aA):N ((J×(X J)×J×an×aq×aw×aA) ⊕ ((X J)×J×an×aq×aw×aA)):=cond (L (q>0)) (let g:X ByteArray:=[(À #[102,105,114,115,116]),(À #[115,101,99,111,110,100]),(À #[116,104,105,114,100])]
 let n:=S e.length
 let f:=Ã n 3
 cond (inR f g.length) (let o:=M g f.toNat Y
 (j04 r l 4).bind λc=>(PH q c.1 c.2.1 c.2.2 s k j o e ([]:aH)).bind λb=>(j04 b.2.1 b.2.2.1 4).bind λd=>(PI b.1 d.1 d.2.1 d.2.2 b.2.2.2.1 b.2.2.2.2.1 b.2.2.2.2.2.1 b.2.2.2.2.2.2.1 b.2.2.2.2.2.2.2.1 b.2.2.2.2.2.2.2.2 ([]:ag)).bind λa=>let i:aA:=[(a.2.2.2.2.2.2.1,a.2.2.2.2.2.2.2.2)]
 cond (L (O a.2.2.2.2.2.2.2.1+O i<=aK)) (let m:aA:=a.2.2.2.2.2.2.2.1++i
 let p:=w64 (a.1-1)
 K (.inl (p,a.2.1,a.2.2.1,a.2.2.2.1,a.2.2.2.2.1,a.2.2.2.2.2.1,m))) U) U) (K (.inr (r,l,s,k,j,e)))
def PJ[LP]:=rf j3c
abbrev _D:=r7 j3c PJ
def ja9[LP](e:X J)(c f:J):N (bz×(X J)×J):=(jb6 e c).bind λa=>(j04 a.2.1 a.2.2 f).bind λd=>let g:=w64 (1+d.1)
 (PJ g d.2.1 d.2.2 a.1.1 a.1.2.1 a.1.2.2.1 ([]:aA)).bind λb=>K (b.2.2,b.1,b.2.1)
def jek(a:bz):N (an×aq×aw×W×aH×ag):=cond (L (O ([]:an)+O a.1<=aK)) (let m:an:=([]:an)++a.1
 cond (L (O ([]:aq)+O a.2.1<=aK)) (let g:aq:=([]:aq)++a.2.1
 cond (L (O ([]:aw)+O a.2.2.1<=aK)) (let i:aw:=([]:aw)++a.2.2.1
 let f:=S a.2.2.2.length
 cond (L (0<f)) (cond (inR 0 a.2.2.2.length) (let c:=M a.2.2.2 0 (Y,(([]:aH),([]:ag)))
 cond (L (O ([]:aH)+O c.2.1<=aK)) (let j:aH:=([]:aH)++c.2.1
 cond (L (O ([]:ag)+O c.2.2<=aK)) (let e:ag:=([]:ag)++c.2.2
 let d:=S a.2.2.2.length
 cond (L (1<d)) (cond (inR 1 a.2.2.2.length) (let b:=M a.2.2.2 1 (Y,(([]:aH),([]:ag)))
 cond (L (O ([]:aH)+O b.2.1<=aK)) (let k:aH:=([]:aH)++b.2.1
 cond (L (O ([]:ag)+O b.2.2<=aK)) (let l:ag:=([]:ag)++b.2.2
 U) U) U) U) (K (m,g,i,c.1,j,e))) U) U) U) (U)) U) U) U
def uQ(a:aH)(b:J)(c:eD->eD):aH:=Ä a b.toNat (c (M a b.toNat (Y,(0,((0,0),(0,(0,(([]:(X J)),(([]:ah),(0,0))))))))))
def F9(a:aq)(b:J)(c:wJ->wJ):aq:=Ä a b.toNat (c (M a b.toNat (Y,(0,(([]:ah),(0,(0,Z)))))))
def yz{j:Type}(m:J)(d:aH)(l:X J)(k:J)(f:aH->X J->J->N  j):N j:=
 let g:=S d.length
 cond (g==0) (f d l k) ((j04 l k g).bind λe=>cond (inR e.1 d.length) ((j04 e.2.1 e.2.2 8).bind λc=>(cond (c.1==0) ((j0b c.2.1 c.2.2 [0,1,400,401]).bind λb=>
(f (uQ d e.1 λa=>(a.1,(a.2.1,(a.2.2.1,(a.2.2.2.1,(b.1,a.2.2.2.2.2)))))) b.2.1 b.2.2)) (cond (c.1==1) ((j0b c.2.1 c.2.2 [0,1,(-5),98979,98981]).bind λb=>
(f (uQ d e.1 λa=>(a.1,(a.2.1,((b.1,a.2.2.1.2),a.2.2.2)))) b.2.1 b.2.2)) (cond (c.1==2) (f (uQ d e.1 λa=>(a.1,(a.2.1,(a.2.2.1,(a.2.2.2.1,(a.2.2.2.2.1,([],a.2.2.2.2.2.2))))))) c.2.1 c.2.2) (cond (c.1==3) ((j0b c.2.1 c.2.2 [0,(-1),m]).bind λb=>
(f (uQ d e.1 λa=>(a.1,(a.2.1,(a.2.2.1,(a.2.2.2.1,(a.2.2.2.2.1,([b.1],a.2.2.2.2.2.2))))))) b.2.1 b.2.2)) (cond (c.1==4) ((j0b c.2.1 c.2.2 [(-1),3]).bind λb=>
(f (uQ d e.1 λa=>(a.1,(a.2.1,(a.2.2.1,(b.1,a.2.2.2.2))))) b.2.1 b.2.2)) (cond (c.1==5) ((j0b c.2.1 c.2.2 [0,1,2,3]).bind λb=>
(f (uQ d e.1 λa=>(a.1,(a.2.1,(a.2.2.1,(a.2.2.2.1,(a.2.2.2.2.1,(a.2.2.2.2.2.1,(a.2.2.2.2.2.2.1,(a.2.2.2.2.2.2.2.1,b.1))))))))) b.2.1 b.2.2)) (cond (c.1==6) ((j0b c.2.1 c.2.2 [0,1,(-1)]).bind λb=>
(f (uQ d e.1 λa=>(a.1,(a.2.1,(a.2.2.1,(a.2.2.2.1,(a.2.2.2.2.1,(a.2.2.2.2.2.1,(a.2.2.2.2.2.2.1,(b.1,a.2.2.2.2.2.2.2.2))))))))) b.2.1 b.2.2)) (cond (c.1==7) (
let i:X ByteArray:=[(À #[97,100,97]),(À #[98,111,98]),(À #[120,32,121])]
(j04 c.2.1 c.2.2 3).bind λb=>
cond (inR b.1 i.length) (f (uQ d e.1 λa=>((M i b.1.toNat Y),a.2)) b.2.1 b.2.2) U) (f d c.2.1 c.2.2)))))))))) U)
def yA{f:Type}(l g m k:Nat)(j:X J)(i:J)(d:mN->X J->J->N  f):N f:=(j83 j i ((Å l ()),((Å g ()),((Å m ()),(Å k ()))))).bind λa=>(j04 a.2.1 a.2.2 5).bind λb=>(cond (b.1==0) (d (a.1.1,(a.1.2.1,(a.1.2.2.1,(a.1.2.2.2.1,a.1.2.2.2.1)))) b.2.1 b.2.2) (cond (b.1==1) ((j0b b.2.1 b.2.2 [(-1),(-2),(S g)]).bind λc=>
(d (a.1.1,(c.1,a.1.2.2)) c.2.1 c.2.2)) (cond (b.1==2) ((j0b b.2.1 b.2.2 [0,1,a.1.2.1]).bind λc=>
(d (a.1.1,(a.1.2.1,(c.1,a.1.2.2.2))) c.2.1 c.2.2)) (cond (b.1==3) ((j0b b.2.1 b.2.2 [0,(-1)]).bind λc=>
(j0b c.2.1 c.2.2 [8551872000,8551958399,8551958400,8589934592]).bind λe=>
(d (a.1.1,(a.1.2.1,(a.1.2.2.1,(c.1,e.1)))) e.2.1 e.2.2)) (cond (b.1==4) ((j0b b.2.1 b.2.2 [(-1),3]).bind λc=>
(d (c.1,a.1.2) c.2.1 c.2.2)) (d a.1 b.2.1 b.2.2))))))
def Ga(g:an)(e:aq)(i:aw)(j:aA)(p:X J)(n:J)(m o:X J->J->N  (bz×(X J)×J)):N (bz×(X J)×J):=(j04 p n 12).bind λb=>(cond (b.1==0) ((j04 b.2.1 b.2.2 (S g.length)).bind λa=>
(j0b a.2.1 a.2.2 [30,64800,64860,(-64800),(-64801)]).bind λc=>
(cond (inR a.1 g.length) (K (((Ä g a.1.toNat ((M g a.1.toNat (Y,(0,([]:bn)))).1,(c.1,(M g a.1.toNat (Y,(0,([]:bn)))).2.2))),(e,(i,j))),c.2.1,c.2.2)) U)) (cond (b.1==1) ((j04 b.2.1 b.2.2 (S e.length)).bind λa=>
(j0b a.2.1 a.2.2 [(-1),(S g.length)]).bind λc=>
(cond (inR a.1 e.length) (K ((g,((F9 e a.1 λf=>(f.1,(c.1,f.2.2))),(i,j))),c.2.1,c.2.2)) U)) (cond (b.1==2) ((j04 b.2.1 b.2.2 (S e.length)).bind λa=>
let d:X ByteArray:=[(À #[110,111,98,111,100,121]),Y,(À #[65,100,97]),(À #[97,100,97]),(À #[97,45,49,95,98])]
(j04 a.2.1 a.2.2 5).bind λc=>
cond (inR c.1 d.length) (cond (inR a.1 e.length) (K ((g,((F9 e a.1 λf=>((M d c.1.toNat Y),f.2)),(i,j))),c.2.1,c.2.2)) U) U) (cond (b.1==3) ((j04 b.2.1 b.2.2 (S e.length)).bind λa=>
(j0b a.2.1 a.2.2 [1,(-3600),604800,608400]).bind λc=>
(cond (inR a.1 e.length) (K ((g,((F9 e a.1 λf=>(f.1,(f.2.1,(f.2.2.1,(f.2.2.2.1,(c.1,f.2.2.2.2.2)))))),(i,j))),c.2.1,c.2.2)) U)) (cond (b.1==4) ((j04 b.2.1 b.2.2 (S e.length)).bind λa=>
(j0b a.2.1 a.2.2 [0,(-1),5]).bind λc=>
(j0b c.2.1 c.2.2 [5,604800,604801]).bind λk=>
(cond (inR a.1 e.length) (K ((g,((F9 e a.1 λf=>(f.1,(f.2.1,([(c.1,k.1)],f.2.2.2)))),(i,j))),k.2.1,k.2.2)) U)) (cond (b.1==5) (
let d:X ByteArray:=[(À #[100,97,121,115]),(À #[111,116,104,101,114])]
(j04 b.2.1 b.2.2 2).bind λa=>
cond (inR a.1 d.length) ((j0b a.2.1 a.2.2 [5,(-1)]).bind λc=>
(j0b c.2.1 c.2.2 [5,6,100000]).bind λk=>
let l:aw:=[((M d a.1.toNat Y),(0,[c.1,k.1]))]
(cond (L (O i+O l<=aK)) (K ((g,(e,((i++l),j))),k.2.1,k.2.2)) U)) U) (cond (b.1==6) (
let d:X ByteArray:=[(À #[102,105,114,115,116]),(À #[102,111,117,114,116,104])]
(j04 b.2.1 b.2.2 2).bind λa=>
cond (inR a.1 d.length) (K ((g,(e,(i,(j++[((M d a.1.toNat Y),([],[]))])))),a.2.1,a.2.2)) U) (cond (b.1==7) (m b.2.1 b.2.2) (cond (b.1==8) (m b.2.1 b.2.2) (cond (b.1==9) (m b.2.1 b.2.2) (o b.2.1 b.2.2)))))))))))
def j84(f:X J)(c:J)(b:bz):N (bz×(X J)×J):=(jek b).bind λa=>Ga a.1 a.2.1 a.2.2.1 [a.2.2.2] f c (λe d=>(j04 e d 1).bind λg=>cond (inR g.1 1) (yz (S a.2.1.length) a.2.2.2.2.1 g.2.1 g.2.2 λj e d=>K ((a.1,(a.2.1,(a.2.2.1,[(a.2.2.2.1,(j,a.2.2.2.2.2))]))),e,d)) U) (λe d=>(j04 e d 1).bind λg=>cond (inR g.1 1) (yA a.1.length a.2.1.length a.2.2.1.length 1 g.2.1 g.2.2 λi e d=>cond (L (O a.2.2.2.2.2+O [i]<=aK)) (K ((a.1,(a.2.1,(a.2.2.1,[(a.2.2.2.1,(a.2.2.2.2.1,(a.2.2.2.2.2++[i])))]))),e,d)) U) U)
def jel(a:bz):N (an×aq×aw×W×W×aH×ag×aH×ag):=cond (L (O ([]:an)+O a.1<=aK)) (let q:an:=([]:an)++a.1
 cond (L (O ([]:aq)+O a.2.1<=aK)) (let l:aq:=([]:aq)++a.2.1
 cond (L (O ([]:aw)+O a.2.2.1<=aK)) (let m:aw:=([]:aw)++a.2.2.1
 let k:=S a.2.2.2.length
 cond (L (0<k)) (cond (inR 0 a.2.2.2.length) (let d:=M a.2.2.2 0 (Y,(([]:aH),([]:ag)))
 cond (L (O ([]:aH)+O d.2.1<=aK)) (let n:aH:=([]:aH)++d.2.1
 cond (L (O ([]:ag)+O d.2.2<=aK)) (let j:ag:=([]:ag)++d.2.2
 let g:=S a.2.2.2.length
 cond (L (1<g)) (cond (inR 1 a.2.2.2.length) (let b:=M a.2.2.2 1 (Y,(([]:aH),([]:ag)))
 cond (L (O ([]:aH)+O b.2.1<=aK)) (let e:aH:=([]:aH)++b.2.1
 cond (L (O ([]:ag)+O b.2.2<=aK)) (let i:ag:=([]:ag)++b.2.2
 let f:=S a.2.2.2.length
 cond (L (2<f)) (cond (inR 2 a.2.2.2.length) (let c:=M a.2.2.2 2 (Y,(([]:aH),([]:ag)))
 cond (L (O ([]:aH)+O c.2.1<=aK)) (let o:aH:=([]:aH)++c.2.1
 cond (L (O ([]:ag)+O c.2.2<=aK)) (let p:ag:=([]:ag)++c.2.2
 U) U) U) U) (K (q,l,m,d.1,b.1,n,j,e,i))) U) U) U) (U)) U) U) U) (U)) U) U) U
def j85(g:X J)(f:J)(b:bz):N (bz×(X J)×J):=(jel b).bind λa=>Ga a.1 a.2.1 a.2.2.1 [(a.2.2.2.1,(a.2.2.2.2.2.1,a.2.2.2.2.2.2.1)),(a.2.2.2.2.1,a.2.2.2.2.2.2.2)] g f (λe d=>(j04 e d 2).bind λc=>(cond (c.1==0) (yz (S a.2.1.length) a.2.2.2.2.2.1 c.2.1 c.2.2 λj e d=>K ((a.1,(a.2.1,(a.2.2.1,[(a.2.2.2.1,(j,a.2.2.2.2.2.2.1)),(a.2.2.2.2.1,a.2.2.2.2.2.2.2)]))),e,d)) (cond (c.1==1) (yz (S a.2.1.length) a.2.2.2.2.2.2.2.1 c.2.1 c.2.2 λj e d=>K ((a.1,(a.2.1,(a.2.2.1,[(a.2.2.2.1,(a.2.2.2.2.2.1,a.2.2.2.2.2.2.1)),(a.2.2.2.2.1,(j,a.2.2.2.2.2.2.2.2))]))),e,d)) U))) (λe d=>(j04 e d 2).bind λc=>(cond (c.1==0) (yA a.1.length a.2.1.length a.2.2.1.length 2 c.2.1 c.2.2 λi e d=>cond (L (O a.2.2.2.2.2.2.1+O [i]<=aK)) (K ((a.1,(a.2.1,(a.2.2.1,[(a.2.2.2.1,(a.2.2.2.2.2.1,(a.2.2.2.2.2.2.1++[i]))),(a.2.2.2.2.1,a.2.2.2.2.2.2.2)]))),e,d)) U) (cond (c.1==1) (yA a.1.length a.2.1.length a.2.2.1.length 2 c.2.1 c.2.2 λi e d=>cond (L (O a.2.2.2.2.2.2.2.2+O [i]<=aK)) (K ((a.1,(a.2.1,(a.2.2.1,[(a.2.2.2.1,(a.2.2.2.2.2.1,a.2.2.2.2.2.2.1)),(a.2.2.2.2.1,(a.2.2.2.2.2.2.2.1,(a.2.2.2.2.2.2.2.2++[i])))]))),e,d)) U) U)))
def jk7(a:bz):N (an×aq×aw×W×W×W×aH×ag×aH×ag×aH×ag):=cond (L (O ([]:an)+O a.1<=aK)) (let u:an:=([]:an)++a.1
 cond (L (O ([]:aq)+O a.2.1<=aK)) (let r:aq:=([]:aq)++a.2.1
 cond (L (O ([]:aw)+O a.2.2.1<=aK)) (let p:aw:=([]:aw)++a.2.2.1
 let o:=S a.2.2.2.length
 cond (L (0<o)) (cond (inR 0 a.2.2.2.length) (let e:=M a.2.2.2 0 (Y,(([]:aH),([]:ag)))
 cond (L (O ([]:aH)+O e.2.1<=aK)) (let n:aH:=([]:aH)++e.2.1
 cond (L (O ([]:ag)+O e.2.2<=aK)) (let q:ag:=([]:ag)++e.2.2
 let g:=S a.2.2.2.length
 cond (L (1<g)) (cond (inR 1 a.2.2.2.length) (let b:=M a.2.2.2 1 (Y,(([]:aH),([]:ag)))
 cond (L (O ([]:aH)+O b.2.1<=aK)) (let j:aH:=([]:aH)++b.2.1
 cond (L (O ([]:ag)+O b.2.2<=aK)) (let k:ag:=([]:ag)++b.2.2
 let m:=S a.2.2.2.length
 cond (L (2<m)) (cond (inR 2 a.2.2.2.length) (let c:=M a.2.2.2 2 (Y,(([]:aH),([]:ag)))
 cond (L (O ([]:aH)+O c.2.1<=aK)) (let l:aH:=([]:aH)++c.2.1
 cond (L (O ([]:ag)+O c.2.2<=aK)) (let i:ag:=([]:ag)++c.2.2
 let f:=S a.2.2.2.length
 cond (L (3<f)) (cond (inR 3 a.2.2.2.length) (let d:=M a.2.2.2 3 (Y,(([]:aH),([]:ag)))
 cond (L (O ([]:aH)+O d.2.1<=aK)) (let s:aH:=([]:aH)++d.2.1
 cond (L (O ([]:ag)+O d.2.2<=aK)) (let t:ag:=([]:ag)++d.2.2
 U) U) U) U) (K (u,r,p,e.1,b.1,c.1,n,q,j,k,l,i))) U) U) U) (U)) U) U) U) (U)) U) U) U) (U)) U) U) U
def jcu(i:X J)(f:J)(b:bz):N (bz×(X J)×J):=(jk7 b).bind λa=>Ga a.1 a.2.1 a.2.2.1 [(a.2.2.2.1,(a.2.2.2.2.2.2.1,a.2.2.2.2.2.2.2.1)),(a.2.2.2.2.1,(a.2.2.2.2.2.2.2.2.1,a.2.2.2.2.2.2.2.2.2.1)),(a.2.2.2.2.2.1,a.2.2.2.2.2.2.2.2.2.2)] i f (λe d=>(j04 e d 3).bind λc=>(cond (c.1==0) (yz (S a.2.1.length) a.2.2.2.2.2.2.1 c.2.1 c.2.2 λj e d=>K ((a.1,(a.2.1,(a.2.2.1,[(a.2.2.2.1,(j,a.2.2.2.2.2.2.2.1)),(a.2.2.2.2.1,(a.2.2.2.2.2.2.2.2.1,a.2.2.2.2.2.2.2.2.2.1)),(a.2.2.2.2.2.1,a.2.2.2.2.2.2.2.2.2.2)]))),e,d)) (cond (c.1==1) (yz (S a.2.1.length) a.2.2.2.2.2.2.2.2.1 c.2.1 c.2.2 λj e d=>K ((a.1,(a.2.1,(a.2.2.1,[(a.2.2.2.1,(a.2.2.2.2.2.2.1,a.2.2.2.2.2.2.2.1)),(a.2.2.2.2.1,(j,a.2.2.2.2.2.2.2.2.2.1)),(a.2.2.2.2.2.1,a.2.2.2.2.2.2.2.2.2.2)]))),e,d)) (cond (c.1==2) (yz (S a.2.1.length) a.2.2.2.2.2.2.2.2.2.2.1 c.2.1 c.2.2 λj e d=>K ((a.1,(a.2.1,(a.2.2.1,[(a.2.2.2.1,(a.2.2.2.2.2.2.1,a.2.2.2.2.2.2.2.1)),(a.2.2.2.2.1,(a.2.2.2.2.2.2.2.2.1,a.2.2.2.2.2.2.2.2.2.1)),(a.2.2.2.2.2.1,(j,a.2.2.2.2.2.2.2.2.2.2.2))]))),e,d)) U)))) (λe d=>(j04 e d 3).bind λc=>(cond (c.1==0) (yA a.1.length a.2.1.length a.2.2.1.length 3 c.2.1 c.2.2 λg e d=>cond (L (O a.2.2.2.2.2.2.2.1+O [g]<=aK)) (K ((a.1,(a.2.1,(a.2.2.1,[(a.2.2.2.1,(a.2.2.2.2.2.2.1,(a.2.2.2.2.2.2.2.1++[g]))),(a.2.2.2.2.1,(a.2.2.2.2.2.2.2.2.1,a.2.2.2.2.2.2.2.2.2.1)),(a.2.2.2.2.2.1,a.2.2.2.2.2.2.2.2.2.2)]))),e,d)) U) (cond (c.1==1) (yA a.1.length a.2.1.length a.2.2.1.length 3 c.2.1 c.2.2 λg e d=>cond (L (O a.2.2.2.2.2.2.2.2.2.1+O [g]<=aK)) (K ((a.1,(a.2.1,(a.2.2.1,[(a.2.2.2.1,(a.2.2.2.2.2.2.1,a.2.2.2.2.2.2.2.1)),(a.2.2.2.2.1,(a.2.2.2.2.2.2.2.2.1,(a.2.2.2.2.2.2.2.2.2.1++[g]))),(a.2.2.2.2.2.1,a.2.2.2.2.2.2.2.2.2.2)]))),e,d)) U) (cond (c.1==2) (yA a.1.length a.2.1.length a.2.2.1.length 3 c.2.1 c.2.2 λg e d=>cond (L (O a.2.2.2.2.2.2.2.2.2.2.2+O [g]<=aK)) (K ((a.1,(a.2.1,(a.2.2.1,[(a.2.2.2.1,(a.2.2.2.2.2.2.1,a.2.2.2.2.2.2.2.1)),(a.2.2.2.2.1,(a.2.2.2.2.2.2.2.2.1,a.2.2.2.2.2.2.2.2.2.1)),(a.2.2.2.2.2.1,(a.2.2.2.2.2.2.2.2.2.2.1,(a.2.2.2.2.2.2.2.2.2.2.2++[g])))]))),e,d)) U) U))))
def j94(c:X J)(a:J)(b:bz):N (bz×(X J)×J):=
 orF (j84 c a b) (orF (j85 c a b) (jcu c a b))
def j2v(d c:ax)(o q a b:J)(p:ag):N ((ax×ax×J×J×J×J×ag) ⊕ (ag)):=
 let w:=S d.length
 let t:=S c.length
 cond (cond (L (a<w)) (L (b<t)) Z) (cond (inR a d.length) (let i:=M d a.toNat (0,(0,0))
 cond (inR b c.length) (let n:=M c b.toNat (0,(0,0))
 let f:Int:=if n.1>i.1 then n.1 else i.1
 cond (inR a d.length) (let m:=M d a.toNat (0,(0,0))
 cond (inR b c.length) (let j:=M c b.toNat (0,(0,0))
 let l:Int:=if j.2.1<m.2.1 then j.2.1 else m.2.1
 cond (inR a d.length) (let e:=M d a.toNat (0,(0,0))
 cond ((inR b c.length) || !(L (e.2.2>=0))) (let r:=M c b.toNat (0,(0,0))
 let v:Bool:=cond (cond (L (e.2.2>=0)) (e.2.2==r.2.2) Z) (L (f<l)) Z
 cond v (let g:ag:=[(e.2.2,(o,(q,(f,l))))]
 cond (L (O p+O g<=aK)) (let k:ag:=p++g
 cond (inR a d.length) (let s:=M d a.toNat (0,(0,0))
 cond (inR b c.length) (let a1:=M c b.toNat (0,(0,0))
 cond (L (s.2.1<a1.2.1)) (let z:=w64 (a+1)
 K (.inl (d,c,o,q,z,b,k))) (let a0:=w64 (b+1)
 K (.inl (d,c,o,q,a,a0,k)))) U) U) U) (cond (inR a d.length) (let y:=M d a.toNat (0,(0,0))
 cond (inR b c.length) (let x:=M c b.toNat (0,(0,0))
 cond (L (y.2.1<x.2.1)) (let a2:=w64 (a+1)
 K (.inl (d,c,o,q,a2,b,p))) (let u:=w64 (b+1)
 K (.inl (d,c,o,q,a,u,p)))) U) U)) U) U) U) U) U) U) (K (.inr p))
def Da[LP]:=rf j2v
abbrev PK:=r7 j2v Da
def j8H[LP](c a:ax)(b d:J):N ag:=(Da c a b d 0 0 ([]:ag)).bind λe=>K e
def j2Z(b a:mN):N Int:=
 let c:=w64 (b.2.2.2.1-a.2.2.2.1)
 K c
def j0r(l p q f:J)(e:ag):N ((J×J×J×J×ag) ⊕ (J×J×J×ag)):=cond (L (f>l)) (cond (inR f e.length) (let c:=M e f.toNat (0,(0,(0,(0,0))))
 let g:=w64 (f-1)
 cond (inR g e.length) (let d:=M e g.toNat (0,(0,(0,(0,0))))
 (j2Z c d).bind λo=>cond (L (o<0)) (let i:=w64 (f-1)
 let j:=w64 (f-1)
 cond (inR j e.length) (let b:=M e j.toNat (0,(0,(0,(0,0))))
 cond (inR f e.length) (let a:=M e f.toNat (0,(0,(0,(0,0))))
 cond (inR f e.length) (let k:ag:=Ä e f.toNat b
 cond (inR i k.length) (let n:ag:=Ä k i.toNat a
 let m:=w64 (f-1)
 K (.inl (l,p,q,m,n))) U) U) U) U) (K (.inr (l,p,q,e)))) U) U) (K (.inr (l,p,q,e)))
def PL[LP]:=gL j0r
abbrev _E:=ir j0r PL
def j0g[LP](f d c:J)(e:ag):N ((J×J×J×ag) ⊕ (ag)):=cond (L (c<d)) ((PL f d c c e).bind λa=>let b:=w64 (a.2.2.1+1)
 K (.inl (a.1,a.2.1,b,a.2.2.2))) (K (.inr e))
def PM[LP]:=kC j0g
theorem PN(a b c d):PM a b c d=lpK (j0g a b c d) λh=>PM h.1 h.2.1 h.2.2.1 h.2.2.2:=iO _ _
def j0z[LP](a:ag)(b c:J):N ag:=
 let d:=w64 (b+1)
 (PM b c d a).bind λe=>K e
def j0F(n m o c:J)(d:ag):N ((J×J×J×J×ag) ⊕ (ag)):=cond (L (c<o)) (let g:=w64 (n+c)
 let e:=w64 (m+c)
 let j:=w64 (m+c)
 cond (inR j d.length) (let a:=M d j.toNat (0,(0,(0,(0,0))))
 let i:=w64 (n+c)
 cond (inR i d.length) (let b:=M d i.toNat (0,(0,(0,(0,0))))
 cond (inR g d.length) (let f:ag:=Ä d g.toNat a
 cond (inR e f.length) (let l:ag:=Ä f e.toNat b
 let k:=w64 (c+1)
 K (.inl (n,m,o,k,l))) U) U) U) U) (K (.inr d))
def PO[LP]:=gL j0F
abbrev _F:=ir j0F PO
def j0x[LP](a:ag)(d b c:J):N ag:=(PO d b c 0 a).bind λe=>K e
def j1t[LP](c a b:J)(m:ag):N ((J×J×J×ag) ⊕ (J×J×ag)):=cond (a != b) (cond (L (a>b)) (let l:=w64 (c-a)
 (j0x m l c b).bind λg=>let d:=w64 (a-b)
 K (.inl (c,d,b,g))) (let e:=w64 (c-a)
 let j:=w64 (c+b)
 let f:=w64 (j-a)
 (j0x m e f a).bind λi=>let k:=w64 (b-a)
 K (.inl (c,a,k,i)))) (K (.inr (c,a,m)))
def PQ[LP]:=kC j1t
abbrev j9L:=lz j1t PQ
def j1e[LP](b:ag)(e a d:J):N ag:=
 let j:=w64 (a-e)
 let g:=w64 (d-a)
 (PQ a j g b).bind λc=>let f:=w64 (c.1-c.2.1)
 (j0x c.2.2 f c.1 c.2.1).bind λi=>K i
def j0I(n:ag->J->J->J->N (ag))(f d g:J)(c:ag):N ((J×J×J×ag) ⊕ (J×J×ag)):=cond (L (d<g)) (let j:=w64 (d+g)
 let m:Int:=É .u64 j
 let i:Int:=Ì m 2
 let e:=w64 i
 cond (inR e c.length) (let b:=M c e.toNat (0,(0,(0,(0,0))))
 cond (inR f c.length) (let a:=M c f.toNat (0,(0,(0,(0,0))))
 (j2Z b a).bind λk=>cond (L (k<0)) (let l:=w64 (e+1)
 K (.inl (f,l,g,c))) (K (.inl (f,d,e,c)))) U) U) (K (.inr (f,d,c)))
def Gb[LP](b:ag->J->J->J->N (ag))(d a c:J)(e:ag):N (J×J×ag):=LP.lp (unc4 (j0I b)) (d,a,c,e)
theorem _G(a d b c e):Gb a d b c e=lpK (j0I a d b c e) (λh=>Gb a h.1 h.2.1 h.2.2.1 h.2.2.2):=iO _ _
def j0J(m:ag->J->J->J->N (ag))(l c:J)(d:ag):N ((J×J×ag) ⊕ (ag)):=
 let i:=w64 (l-1)
 cond (L (c<i)) (let e:=w64 (c+1)
 let f:=w64 (c+1)
 cond (inR f d.length) (let a:=M d f.toNat (0,(0,(0,(0,0))))
 cond (inR c d.length) (let b:=M d c.toNat (0,(0,(0,(0,0))))
 cond (inR c d.length) (let g:ag:=Ä d c.toNat a
 cond (inR e g.length) (let j:ag:=Ä g e.toNat b
 let k:=w64 (c+1)
 K (.inl (l,k,j))) U) U) U) U) (K (.inr d))
def JJ[LP](c:ag->J->J->J->N (ag))(a b:J)(d:ag):N ag:=LP.lp (unc3 (j0J c)) (a,b,d)
theorem _H(a b c d):JJ a b c d=lpK (j0J a b c d) (λh=>JJ a h.1 h.2.1 h.2.2):=iO _ _
def j0K(n:ag->J->J->J->N (ag))(f e g:J)(c:ag):N ((J×J×J×ag) ⊕ (J×J×ag)):=cond (L (e<g)) (let k:=w64 (e+g)
 let l:Int:=É .u64 k
 let m:Int:=Ì l 2
 let d:=w64 m
 cond (inR f c.length) (let b:=M c f.toNat (0,(0,(0,(0,0))))
 cond (inR d c.length) (let a:=M c d.toNat (0,(0,(0,(0,0))))
 (j2Z b a).bind λj=>cond (!(L (j<0))) (let i:=w64 (d+1)
 K (.inl (f,i,g,c))) (K (.inl (f,e,d,c)))) U) U) (K (.inr (f,e,c)))
def Gc[LP](c:ag->J->J->J->N (ag))(d a b:J)(e:ag):N (J×J×ag):=LP.lp (unc4 (j0K c)) (d,a,b,e)
theorem _I(a d b c e):Gc a d b c e=lpK (j0K a d b c e) (λh=>Gc a h.1 h.2.1 h.2.2.1 h.2.2.2):=iO _ _
def j0L(l:ag->J->J->J->N (ag))(k c:J)(f:ag):N ((J×J×ag) ⊕ (ag)):=cond (L (c>k)) (let e:=w64 (c-1)
 let d:=w64 (c-1)
 cond (inR d f.length) (let a:=M f d.toNat (0,(0,(0,(0,0))))
 cond (inR c f.length) (let b:=M f c.toNat (0,(0,(0,(0,0))))
 cond (inR c f.length) (let g:ag:=Ä f c.toNat a
 cond (inR e g.length) (let j:ag:=Ä g e.toNat b
 let i:=w64 (c-1)
 K (.inl (k,i,j))) U) U) U) U) (K (.inr f))
def JK[LP](c:ag->J->J->J->N (ag))(b a:J)(d:ag):N ag:=LP.lp (unc3 (j0L c)) (b,a,d)
theorem _J(a b c d):JK a b c d=lpK (j0L a b c d) (λh=>JK a h.1 h.2.1 h.2.2):=iO _ _
def j0M(t:ag->J->J->J->N (ag))(r q s j m f n g:J)(e:ag):N ((J×J×J×J×J×J×J×J×ag) ⊕ (J×J×J×J×J×J×ag)):=cond (L (f<n)) (let p:=w64 (f+n)
 let l:Int:=É .u64 p
 let o:Int:=Ì l 2
 let c:=w64 o
 let d:=w64 (g-c)
 cond (inR d e.length) (let a:=M e d.toNat (0,(0,(0,(0,0))))
 cond (inR c e.length) (let b:=M e c.toNat (0,(0,(0,(0,0))))
 (j2Z a b).bind λk=>cond (!(L (k<0))) (let i:=w64 (c+1)
 K (.inl (r,q,s,j,m,i,n,g,e))) (K (.inl (r,q,s,j,m,f,c,g,e)))) U) U) (K (.inr (r,q,s,j,m,f,e)))
def Db[LP](d:ag->J->J->J->N (ag))(i g k a e c f b:J)(j:ag):N (J×J×J×J×J×J×ag):=LP.lp (unc9 (j0M d)) (i,g,k,a,e,c,f,b,j)
theorem _K(a i g k b e d f c j):Db a i g k b e d f c j=lpK (j0M a i g k b e d f c j) (λh=>Db a h.1 h.2.1 h.2.2.1 h.2.2.2.1 h.2.2.2.2.1 h.2.2.2.2.2.1 h.2.2.2.2.2.2.1 h.2.2.2.2.2.2.2.1 h.2.2.2.2.2.2.2.2):=iO _ _
def JL[LP](e:ag->J->J->J->N (ag))(g:ag)(i f j:J):N ag:=
 let b0:=w64 (f-i)
 cond (b0==1) ((Gb e i f j g).bind λa4=>(JJ e a4.2.1 a4.1 a4.2.2).bind λb2=>K b2) (let a9:=w64 (j-f)
 cond (a9==1) ((Gc e f i f g).bind λa5=>(JK e a5.2.1 a5.1 a5.2.2).bind λb1=>K b1) (let a7:=w64 (i+j)
 let a2:Int:=É .u64 a7
 let l:Int:=Ì a2 2
 let k:=w64 ((w64 l)+f)
 cond (L (f>(w64 l))) (let a1:=w64 (k-j)
 let a8:=w64 (k-1)
 (Db e i f j (w64 l) k a1 (w64 l) a8 g).bind λc=>let d:=w64 (c.2.2.2.2.1-c.2.2.2.2.2.1)
 cond (cond (L (c.2.2.2.2.2.1<c.2.1)) (L (c.2.1<d)) Z) ((j1e c.2.2.2.2.2.2 c.2.2.2.2.2.1 c.2.1 d).bind λq=>cond (cond (L (c.1<c.2.2.2.2.2.1)) (L (c.2.2.2.2.2.1<c.2.2.2.1)) Z) ((e q c.1 c.2.2.2.2.2.1 c.2.2.2.1).bind λu=>cond (cond (L (c.2.2.2.1<d)) (L (d<c.2.2.1)) Z) ((e u c.2.2.2.1 d c.2.2.1).bind λa6=>K a6) (K u)) (cond (cond (L (c.2.2.2.1<d)) (L (d<c.2.2.1)) Z) ((e q c.2.2.2.1 d c.2.2.1).bind λv=>K v) (K q))) (cond (cond (L (c.1<c.2.2.2.2.2.1)) (L (c.2.2.2.2.2.1<c.2.2.2.1)) Z) ((e c.2.2.2.2.2.2 c.1 c.2.2.2.2.2.1 c.2.2.2.1).bind λp=>cond (cond (L (c.2.2.2.1<d)) (L (d<c.2.2.1)) Z) ((e p c.2.2.2.1 d c.2.2.1).bind λx=>K x) (K p)) (cond (cond (L (c.2.2.2.1<d)) (L (d<c.2.2.1)) Z) ((e c.2.2.2.2.2.2 c.2.2.2.1 d c.2.2.1).bind λa0=>K a0) (K c.2.2.2.2.2.2)))) (let w:=w64 (k-1)
 (Db e i f j (w64 l) k i f w g).bind λa=>let b:=w64 (a.2.2.2.2.1-a.2.2.2.2.2.1)
 cond (cond (L (a.2.2.2.2.2.1<a.2.1)) (L (a.2.1<b)) Z) ((j1e a.2.2.2.2.2.2 a.2.2.2.2.2.1 a.2.1 b).bind λm=>let a3:Bool:=cond (L (a.1<a.2.2.2.2.2.1)) (L (a.2.2.2.2.2.1<a.2.2.2.1)) Z
 cond a3 ((e m a.1 a.2.2.2.2.2.1 a.2.2.2.1).bind λn=>cond (cond (L (a.2.2.2.1<b)) (L (b<a.2.2.1)) Z) ((e n a.2.2.2.1 b a.2.2.1).bind λt=>K t) (K n)) (cond (cond (L (a.2.2.2.1<b)) (L (b<a.2.2.1)) Z) ((e m a.2.2.2.1 b a.2.2.1).bind λr=>K r) (K m))) (let z:Bool:=cond (L (a.1<a.2.2.2.2.2.1)) (L (a.2.2.2.2.2.1<a.2.2.2.1)) Z
 cond z ((e a.2.2.2.2.2.2 a.1 a.2.2.2.2.2.1 a.2.2.2.1).bind λo=>cond (cond (L (a.2.2.2.1<b)) (L (b<a.2.2.1)) Z) ((e o a.2.2.2.1 b a.2.2.1).bind λs=>K s) (K o)) (cond (cond (L (a.2.2.2.1<b)) (L (b<a.2.2.1)) Z) ((e a.2.2.2.2.2.2 a.2.2.2.1 b a.2.2.1).bind λy=>K y) (K a.2.2.2.2.2.2))))))
def j0Z[LP](e:(ag×J×J×J)->N (ag))(h:ag×J×J×J):N ag:=JL (λb c d a=>e (b,c,d,a)) h.1 h.2.1 h.2.2.1 h.2.2.2
def j1u[LP](a:ag)(b d c:J):N ag:=LP.rp j0Z (a,b,d,c)
def j0s[LP](e d f c:J)(g:ag):N ((J×J×J×J×ag) ⊕ (J×J×J×ag)):=cond (L (c<=e)) ((j0z g f c).bind λa=>let b:=w64 (c+d)
 K (.inl (e,d,c,b,a))) (K (.inr (e,d,f,g)))
def PR[LP]:=gL j0s
theorem PS(a b c d e):PR a b c d e=lpK (j0s a b c d e) λh=>PR h.1 h.2.1 h.2.2.1 h.2.2.2.1 h.2.2.2.2:=iO _ _
def j0t[LP](g a i f:J)(j:ag):N ((J×J×J×J×ag) ⊕ (J×J×J×ag)):=cond (L (f<=g)) (let b:=w64 (i+a)
 (j1u j i b f).bind λc=>let e:=w64 (2*a)
 let d:=w64 (f+e)
 K (.inl (g,a,f,d,c))) (K (.inr (g,a,i,j)))
def JM[LP]:=gL j0t
theorem PT(a b c d e):JM a b c d e=lpK (j0t a b c d e) λh=>JM h.1 h.2.1 h.2.2.1 h.2.2.2.1 h.2.2.2.2:=iO _ _
def j0T[LP](i g:J)(j:ag):N ((J×J×ag) ⊕ (ag)):=cond (L (g<i)) (let f:=w64 (2*g)
 (JM i g 0 f j).bind λa=>let b:=w64 (a.2.2.1+a.2.1)
 cond (L (b<a.1)) ((j1u a.2.2.2 a.2.2.1 b a.1).bind λe=>let c:=w64 (a.2.1*2)
 K (.inl (a.1,c,e))) (let d:=w64 (a.2.1*2)
 K (.inl (a.1,d,a.2.2.2)))) (K (.inr j))
def PU[LP]:=re j0T
theorem _L(a b c):PU a b c=lpK (j0T a b c) λh=>PU h.1 h.2.1 h.2.2:=iO _ _
def j4t[LP](a:ag)(c:J):N ag:=(PR c 20 0 20 a).bind λb=>(j0z b.2.2.2 b.2.2.1 b.1).bind λd=>(PU b.1 b.2.1 d).bind λe=>K e
def j0G[LP](a:ag):N ag:=
 let b:=S a.length
 (j4t a b).bind λc=>K c
def j3d[LP](p o:J)(e:aA)(n c:J)(q:an)(j:aq)(d:aw)(g:aA)(i:cJ)(f:fk):N ((J×J×aA×J×J×an×aq×aw×aA×cJ×fk) ⊕ (J ⊕ fk)):=cond (L (c<n)) (cond (inR c e.length) (let b:=M e c.toNat (Y,(([]:aH),([]:ag)))
 (j2M ((q,(j,(d,g))),i) b p o).bind λa=>let k:=S a.length
 cond (L (k>16384)) (K (.inr (.inl 5))) (cond (L (O f+O [a]<=aK)) (let m:fk:=f++[a]
 let l:=w64 (c+1)
 K (.inl (p,o,e,n,l,q,j,d,g,i,m))) U)) U) (K (.inr (.inr f)))
def Dc[LP]:=rh j3d
abbrev _M:=tU j3d Dc
def j3e[LP](c b l m:J)(a:fk)(e:ag):N ((J×J×J×J×fk×ag) ⊕ (J×J×fk×ag)):=
 let k:=S a.length
 cond (L (b<k)) (cond (inR c a.length) (let g:=M a c.toNat ([]:ax)
 cond (inR b a.length) (let f:=M a b.toNat ([]:ax)
 (j8H g f c b).bind λd=>cond (L (O e+O d<=aK)) (let j:ag:=e++d
 let i:=w64 (b+1)
 K (.inl (c,i,l,m,a,j))) U) U) U) (K (.inr (l,m,a,e)))
def JN[LP]:=tS j3e
abbrev _N:=uP j3e JN
def j3f[LP](e b:J)(g:fk)(f:ag):N ((J×J×fk×ag) ⊕ (ag)):=cond (L (b<e)) (let d:=w64 (b+1)
 (JN b d e b g f).bind λa=>let c:=w64 (a.2.1+1)
 K (.inl (a.1,c,a.2.2.1,a.2.2.2))) (K (.inr f))
def JO[LP]:=kC j3f
abbrev _O:=lz j3f JO
def j4X[LP](a:bz)(c d:J):N (ag×J):=(jhN a).bind λb=>cond (!b.2) (K (([]:ag),8)) ((jej c d).bind λj=>cond (!j) (K (([]:ag),1)) (let f:=S a.2.2.2.length
 (Dc c d a.2.2.2 f 0 b.1.1.1 b.1.1.2.1 b.1.1.2.2.1 b.1.1.2.2.2 b.1.2 ([]:fk)).bind λl=>sumC l (λn=>K (([]:ag),n)) (λm=>let i:=S m.length
 (JO i 0 m ([]:ag)).bind λk=>let g:=S k.length
 cond (L (g>16384)) (K (([]:ag),5)) ((j0G k).bind λe=>K (e,0)))))
def jpV(a:J):N Bool:=K (cond (L (a>=48)) (L (a<=57)) Z)
def j7N(b:W)(a:J):N ((W×J) ⊕ (Æ ⊕ Ê)):=
 let i:=S (Â b)
 cond (L (a<i)) (cond (inR a (Â b)) (let c:=eJ b a
 cond ((inR a (Â b)) || !(!(L (c<97)))) (let f:=eJ b a
 cond ((inR a (Â b)) || !(cond (L (c<97)) Á (L (f>122)))) (let k:=eJ b a
 cond (cond (L (c<97)) Á (L (f>122))) ((jpV k).bind λd=>cond ((inR a (Â b)) || !(!d)) (let e:=eJ b a
 cond ((inR a (Â b)) || !(cond (!d) (e != 95) Z)) (let l:=eJ b a
 cond (cond (cond (!d) (e != 95) Z) (l != 45) Z) (K (.inr (.inl Z))) (let j:=w64 (a+1)
 K (.inl (b,j)))) U) U) (cond ((inR a (Â b)) || !Z) (let n:=eJ b a
 cond ((inR a (Â b)) || !Z) (let m:=eJ b a
 let g:=w64 (a+1)
 K (.inl (b,g))) U) U)) U) U) U) (K (.inr (.inr ())))
def PV[LP]:=FT j7N
abbrev _P:=Jj j7N PV
def jp0[LP](a:W):N Bool:=
 let c:=S (Â a)
 let d:=S (Â a)
 cond ((inR 0 (Â a)) || !(!(cond (L (c<1)) Á (L (d>24))))) (let f:=eJ a 0
 let b:Bool:=cond (cond (L (c<1)) Á (L (d>24))) Á (L (f<97))
 cond ((inR 0 (Â a)) || !(!b)) (let e:=eJ a 0
 cond (cond b Á (L (e>122))) (K Z) ((PV a 0).bind λg=>sumC g (λi=>K i) (λj=>K Á))) U) U
def j7O(a:X W)(b f:J):N (((X W)×J×J) ⊕ (J ⊕ Ê)):=cond (L (f<b)) (cond (inR f a.length) (let e:=M a f.toNat Y
 cond (inR b a.length) (let c:=M a b.toNat Y
 cond (È e==È c) (K (.inr (.inl 4))) (let d:=w64 (f+1)
 K (.inl (a,b,d)))) U) U) (K (.inr (.inr ())))
def PW[LP]:=re j7O
abbrev _Q:=r6 j7O PW
def jfV[LP](a:X W)(b:J):N Int:=cond (inR b a.length) (let d:=M a b.toNat Y
 (jp0 d).bind λc=>cond (!c) (K 2) ((PW a b 0).bind λe=>sumC e (λf=>K f) (λg=>K 0))) U
def j9M(a b c:J):N Bool:=K (cond (L (a>=b)) (L (a<=c)) Z)
def jd2(a:wI):N Bool:=(j9M a.1 1970 2240).bind λi=>cond i ((j9M a.2.1 a.1 2240).bind λe=>cond e ((j9M a.2.2.1 1 12).bind λd=>cond d ((j9M a.2.2.2.1 1 5).bind λb=>cond b ((j9M a.2.2.2.2.1 0 6).bind λg=>cond g ((j9M a.2.2.2.2.2.1 0 86399).bind λc=>cond c ((j9M a.2.2.2.2.2.2 (-64800) 64800).bind λf=>K f) (K Z)) (K Z)) (K Z)) (K Z)) (K Z)) (K Z)
def j1Q(a:J):N Bool:=
 let d:=Ã a 4
 let c:=Ã a 100
 let b:=Ã a 400
 K (cond (d==0) (cond (c != 0) Á (b==0)) Z)
def jhO(b a:J):N Int:=cond (a==1) (cond (a==1) (K 31) (cond (a==4) (cond (a==4) (K 30) (cond (a==2) ((j1Q b).bind λa4=>cond a4 (K 29) (K 28)) (K 0))) (cond (a==6) (cond (a==6) (K 30) (cond (a==2) ((j1Q b).bind λv=>cond v (K 29) (K 28)) (K 0))) (cond (a==9) (cond (a==9) (K 30) (cond (a==2) ((j1Q b).bind λy=>cond y (K 29) (K 28)) (K 0))) (cond (a==11) (K 30) (cond (a==2) ((j1Q b).bind λa0=>cond a0 (K 29) (K 28)) (K 0))))))) (cond (a==3) (cond (a==3) (K 31) (cond (a==4) (cond (a==4) (K 30) (cond (a==2) ((j1Q b).bind λa3=>cond a3 (K 29) (K 28)) (K 0))) (cond (a==6) (cond (a==6) (K 30) (cond (a==2) ((j1Q b).bind λx=>cond x (K 29) (K 28)) (K 0))) (cond (a==9) (cond (a==9) (K 30) (cond (a==2) ((j1Q b).bind λa2=>cond a2 (K 29) (K 28)) (K 0))) (cond (a==11) (K 30) (cond (a==2) ((j1Q b).bind λa1=>cond a1 (K 29) (K 28)) (K 0))))))) (cond (a==5) (cond (a==5) (K 31) (cond (a==4) (cond (a==4) (K 30) (cond (a==2) ((j1Q b).bind λz=>cond z (K 29) (K 28)) (K 0))) (cond (a==6) (cond (a==6) (K 30) (cond (a==2) ((j1Q b).bind λw=>cond w (K 29) (K 28)) (K 0))) (cond (a==9) (cond (a==9) (K 30) (cond (a==2) ((j1Q b).bind λc=>cond c (K 29) (K 28)) (K 0))) (cond (a==11) (K 30) (cond (a==2) ((j1Q b).bind λg=>cond g (K 29) (K 28)) (K 0))))))) (cond (a==7) (cond (a==7) (K 31) (cond (a==4) (cond (a==4) (K 30) (cond (a==2) ((j1Q b).bind λn=>cond n (K 29) (K 28)) (K 0))) (cond (a==6) (cond (a==6) (K 30) (cond (a==2) ((j1Q b).bind λq=>cond q (K 29) (K 28)) (K 0))) (cond (a==9) (cond (a==9) (K 30) (cond (a==2) ((j1Q b).bind λp=>cond p (K 29) (K 28)) (K 0))) (cond (a==11) (K 30) (cond (a==2) ((j1Q b).bind λj=>cond j (K 29) (K 28)) (K 0))))))) (cond (a==8) (cond (a==8) (K 31) (cond (a==4) (cond (a==4) (K 30) (cond (a==2) ((j1Q b).bind λs=>cond s (K 29) (K 28)) (K 0))) (cond (a==6) (cond (a==6) (K 30) (cond (a==2) ((j1Q b).bind λf=>cond f (K 29) (K 28)) (K 0))) (cond (a==9) (cond (a==9) (K 30) (cond (a==2) ((j1Q b).bind λk=>cond k (K 29) (K 28)) (K 0))) (cond (a==11) (K 30) (cond (a==2) ((j1Q b).bind λo=>cond o (K 29) (K 28)) (K 0))))))) (cond (a==10) (cond (a==10) (K 31) (cond (a==4) (cond (a==4) (K 30) (cond (a==2) ((j1Q b).bind λl=>cond l (K 29) (K 28)) (K 0))) (cond (a==6) (cond (a==6) (K 30) (cond (a==2) ((j1Q b).bind λi=>cond i (K 29) (K 28)) (K 0))) (cond (a==9) (cond (a==9) (K 30) (cond (a==2) ((j1Q b).bind λd=>cond d (K 29) (K 28)) (K 0))) (cond (a==11) (K 30) (cond (a==2) ((j1Q b).bind λu=>cond u (K 29) (K 28)) (K 0))))))) (cond (a==12) (K 31) (cond (a==4) (cond (a==4) (K 30) (cond (a==2) ((j1Q b).bind λm=>cond m (K 29) (K 28)) (K 0))) (cond (a==6) (cond (a==6) (K 30) (cond (a==2) ((j1Q b).bind λr=>cond r (K 29) (K 28)) (K 0))) (cond (a==9) (cond (a==9) (K 30) (cond (a==2) ((j1Q b).bind λt=>cond t (K 29) (K 28)) (K 0))) (cond (a==11) (K 30) (cond (a==2) ((j1Q b).bind λe=>cond e (K 29) (K 28)) (K 0))))))))))))
def jme(a:wH):N Bool:=cond (L (a.1>=1970)) (cond (L (a.1<=2240)) (cond (L (a.2.1>=1)) (cond (L (a.2.1<=12)) (cond (L (a.2.2>=1)) ((jhO a.1 a.2.1).bind λb=>K (L (a.2.2<=b))) (K Z)) (K Z)) (K Z)) (K Z)) (K Z)
def jmf(a:J):N Int:=
 let m:=w64 (a-1970)
 let i:=w64 (m*365)
 let k:=w64 (a-1969)
 let l:=w64 (Ç k 4)
 let j:=w64 (i+l)
 let f:=w64 (a-1901)
 let c:=w64 (Ç f 100)
 let d:=w64 (j-c)
 let b:=w64 (a-1601)
 let e:=w64 (Ç b 400)
 let g:=w64 (d+e)
 K g
def j8I(i g f a b:J):N ((J×J×J×J×J) ⊕ (J×J×J×J)):=cond (L (g<a)) ((jhO f g).bind λe=>let c:=w64 (i+e)
 let d:=w64 (g+1)
 K (.inl (c,d,f,a,b))) (K (.inr (i,f,a,b)))
def PX[LP]:=gL j8I
abbrev _R:=ir j8I PX
def jsX[LP](a:wH):N (J×J):=(jme a).bind λf=>cond (!f) (K (0,1)) ((jmf a.1).bind λb=>(PX b 1 a.1 a.2.1 a.2.2).bind λd=>let e:=w64 (d.1+d.2.2.2)
 let c:=w64 (e-1)
 K (c,0))
def jeJ(a:J):N Int:=
 let c:=Ã a 7
 let b:=w64 (c+10)
 let d:=Ã b 7
 K d
def j8J(i f e g d a:J):N ((J×J×J×J×J×J) ⊕ (J×J×J×J×J)):=(jeJ a).bind λb=>cond (b != g) (let c:=w64 (a+1)
 K (.inl (i,f,e,g,d,c))) (K (.inr (i,f,e,d,a)))
def PY[LP]:=tS j8J
abbrev _S:=uP j8J PY
def j8K(i g f a:J):N ((J×J×J×J) ⊕ (J)):=
 let e:=w64 (a+7)
 (jhO i g).bind λd=>let b:=w64 (f+d)
 cond (L (e<b)) (let c:=w64 (a+7)
 K (.inl (i,g,f,c))) (K (.inr a))
def PZ[LP]:=kC j8K
abbrev _T:=lz j8K PZ
def jsY[LP](f c b a:J):N (J×J):=(jsX (f,(c,1))).bind λe=>let i:Bool:=cond (cond (e.2 != 0) Á (L (b<1))) Á (L (b>5))
 let j:Bool:=cond (cond i Á (L (a<0))) Á (L (a>6))
 cond j (K (0,1)) ((PY f c b a e.1 e.1).bind λd=>cond (L (d.2.2.1<5)) (let k:=w64 (d.2.2.1-1)
 let l:=w64 (7*k)
 let g:=w64 (d.2.2.2.2+l)
 K (g,0)) ((PZ d.1 d.2.1 d.2.2.2.1 d.2.2.2.2).bind λm=>K (m,0)))
def j5j(k:bn)(i j c f a:J)(d:ah):N ((bn×J×J×J×J×J×ah) ⊕ (bn×J×J×J×J×J×ah)):=cond (L (c>0)) (let b:=w64 (c-1)
 cond (inR b d.length) (let g:=(M d b.toNat (0,0)).1
 cond (L (g>f)) (let e:=w64 (c-1)
 K (.inl (k,i,j,e,f,a,d))) (K (.inr (k,i,j,c,f,a,d)))) U) (K (.inr (k,i,j,c,f,a,d)))
def JP[LP]:=rf j5j
abbrev _U:=r7 j5j JP
def j3G[LP](d:bn)(c t:J)(u:ah):N ((bn×J×J×ah) ⊕ (bn×J×ah)):=cond (inR c d.length) (let r:=M d c.toNat (0,(0,(0,(0,(0,(0,0))))))
 cond (L (t<=r.2.1)) (cond (inR c d.length) (let q:=M d c.toNat (0,(0,(0,(0,(0,(0,0))))))
 cond (inR c d.length) (let n:=M d c.toNat (0,(0,(0,(0,(0,(0,0))))))
 cond (inR c d.length) (let p:=M d c.toNat (0,(0,(0,(0,(0,(0,0))))))
 (jsY t q.2.2.1 n.2.2.2.1 p.2.2.2.2.1).bind λi=>let s:=w64 (i.1*86400)
 cond (inR c d.length) (let o:=M d c.toNat (0,(0,(0,(0,(0,(0,0))))))
 let j:=w64 (s+o.2.2.2.2.2.1)
 cond (inR c d.length) (let l:=M d c.toNat (0,(0,(0,(0,(0,(0,0))))))
 let m:=S u.length
 (JP d c t m j l.2.2.2.2.2.2 u).bind λa=>let g:ah:=[(a.2.2.2.2.1,a.2.2.2.2.2.1)]
 cond (L (O a.2.2.2.2.2.2+O g<=aK)) (let b:ah:=a.2.2.2.2.2.2++g
 let e:=w64 (a.2.2.2.1+1)
 cond (L (0<=e)&&L (e<=(S b.length))) (cond (L (0<=a.2.2.2.1)&&L (a.2.2.2.1<=(S b.length))) (let f:ah:=over b e.toNat (Í a.2.2.2.1.toNat b)
 let w:=S (min (O (Í a.2.2.2.1.toNat b)) (O b-e.toNat))
 cond (inR a.2.2.2.1 f.length) (let v:ah:=Ä f a.2.2.2.1.toNat (a.2.2.2.2.1,a.2.2.2.2.2.1)
 let k:=w64 (a.2.2.1+1)
 K (.inl (a.1,a.2.1,k,v))) U) U) U) U) U) U) U) U) U) (K (.inr (d,c,u)))) U
def P0[LP]:=kC j3G
abbrev _V:=lz j3G P0
def j3H[LP](f:bn)(d:J)(g:ah):N ((bn×J×ah) ⊕ (ah)):=
 let e:=S f.length
 cond (L (d<e)) (cond (inR d f.length) (let b:=M f d.toNat (0,(0,(0,(0,(0,(0,0))))))
 (P0 f d b.1 g).bind λa=>let c:=w64 (a.2.1+1)
 K (.inl (a.1,c,a.2.2))) U) (K (.inr g))
def JQ[LP]:=re j3H
abbrev _W:=r6 j3H JQ
def jb9[LP](a:bn):N ah:=(JQ a 0 ([]:ah)).bind λb=>K b
def j2w(o c:J)(n:W)(d:J)(a:bn):N ((J×J×W×J×bn) ⊕ (J ⊕ (J×W×J×bn))):=
 let f:=S a.length
 cond (L (c<f)) (cond (inR c a.length) (let b:=M a c.toNat (0,(0,(0,(0,(0,(0,0))))))
 (jd2 b).bind λj=>cond (!j) (K (.inr (.inl 1))) (cond (inR c a.length) (let m:=M a c.toNat (0,(0,(0,(0,(0,(0,0))))))
 cond (inR c a.length) (let g:=M a c.toNat (0,(0,(0,(0,(0,(0,0))))))
 let l:=w64 (m.2.1-g.1)
 let i:=w64 (l+1)
 let e:=w64 (o+i)
 let k:=w64 (c+1)
 K (.inl (e,k,n,d,a))) U) U)) U) (K (.inr (.inr (o,n,d,a))))
def Gd[LP]:=gL j2w
abbrev P1:=ir j2w Gd
def j1R(v e:J)(c d:ah):N ((J×J×ah×ah) ⊕ (J ⊕ ah)):=
 let o:=S d.length
 cond (L (e<o)) (cond (inR e d.length) (let x:=(M d e.toNat (0,0)).2
 cond (x==v) (let t:=w64 (e+1)
 K (.inl (v,t,c,d))) (cond (inR e d.length) (let q:=(M d e.toNat (0,0)).1
 let b:=w64 (q-v)
 cond (inR e d.length) (let a:=(M d e.toNat (0,0)).2
 let y:=w64 (a-v)
 (j9M y (-86399) 86399).bind λr=>cond (!r) (K (.inr (.inl 6))) ((j9M b 0 8589934592).bind λp=>cond (!p) (K (.inr (.inl 6))) (let s:=S c.length
 cond (L (s>0)) (let l:=S c.length
 let g:=w64 (l-1)
 cond (inR g c.length) (let j:=(M c g.toNat (0,0)).1
 let m:=w64 (b-j)
 cond (L (m<604800)) (K (.inr (.inl 6))) (let f:ah:=[(b,a)]
 cond (L (O c+O f<=aK)) (let n:ah:=c++f
 let w:=w64 (e+1)
 K (.inl (a,w,n,d))) U)) U) (let i:ah:=[(b,a)]
 cond (L (O c+O i<=aK)) (let k:ah:=c++i
 let u:=w64 (e+1)
 K (.inl (a,u,k,d))) U)))) U) U)) U) (K (.inr (.inr c)))
def Ge[LP]:=kC j1R
abbrev JR:=lz j1R Ge
def j0a[LP](a:dA):N (ah×J):=(j9M a.2.1 (-64800) 64800).bind λc=>cond (!c) (K (([]:ah),1)) (let d:=S a.2.2.length
 cond (L (d>16)) (K (([]:ah),5)) ((Gd 0 0 a.1 a.2.1 a.2.2).bind λi=>sumC i (λk=>K (([]:ah),k)) (λg=>cond (L (g.1>640)) (K (([]:ah),5)) ((jb9 g.2.2.2).bind λb=>(Ge g.2.2.1 0 ([]:ah) b).bind λj=>sumC j (λe=>K (([]:ah),e)) (λf=>K (f,0))))))
def j8M[LP](a:dA):N Int:=(j0a a).bind λb=>K b.2
def j5J(i:Æ)(e:J)(j:W)(g:J)(a:bn):N ((Æ×J×W×J×bn) ⊕ (Æ)):=
 let d:=S a.length
 cond (L (e<d)) (cond ((inR e a.length) || !i) (let f:=M a e.toNat (0,(0,(0,(0,(0,(0,0))))))
 let c:=Ã f.2.2.2.2.2.2 60
 let b:=w64 (e+1)
 K (.inl ((cond i (c==0) Z),b,j,g,a))) U) (K (.inr i))
def P2[LP]:=gL j5J
abbrev _X:=ir j5J P2
def jc7[LP](a:dA):N Bool:=
 let b:=Ã a.2.1 60
 (P2 (b==0) 0 a.1 a.2.1 a.2.2).bind λc=>K c
def j6W[LP](c:J)(d:an)(m:aq)(l:aw)(o:aA)(p:X W):N ((J×an×aq×aw×aA×(X W)) ⊕ (J ⊕ Ê)):=
 let n:=S d.length
 cond (L (c<n)) (cond (inR c d.length) (let f:=M d c.toNat (Y,(0,([]:bn)))
 cond (L (O p+O [f.1]<=aK)) (let g:X ByteArray:=p++[f.1]
 (jfV g c).bind λe=>cond (e != 0) (K (.inr (.inl e))) (cond (inR c d.length) (let a:=M d c.toNat (Y,(0,([]:bn)))
 (j8M a).bind λi=>cond ((inR c d.length) || !(!(i != 0))) (let b:=M d c.toNat (Y,(0,([]:bn)))
 cond (i != 0) (K (.inr (.inl 8))) ((jc7 b).bind λj=>cond (!j) (K (.inr (.inl 8))) (let k:=w64 (c+1)
 K (.inl (k,d,m,l,o,g))))) U) U)) U) U) (K (.inr (.inr ())))
def P3[LP]:=tS j6W
abbrev _Y:=uP j6W P3
def jmj[LP](a:bz):N Int:=(P3 0 a.1 a.2.1 a.2.2.1 a.2.2.2 ([]:(X W))).bind λb=>sumC b (λc=>K c) (λd=>K 0)
def j9i(a b c:J):N Bool:=K (cond (L (a>=b)) (L (a<=c)) Z)
def j45(b:ah)(a:J):N ((ah×J) ⊕ (J ⊕ Ê)):=
 let m:=S b.length
 cond (L (a<m)) (cond (inR a b.length) (let f:=M b a.toNat (0,0)
 cond (L (f.1<0)) (K (.inr (.inl 1))) (cond (inR a b.length) (let g:=M b a.toNat (0,0)
 cond (inR a b.length) (let k:=M b a.toNat (0,0)
 cond (L (g.1>=k.2)) (K (.inr (.inl 1))) (cond (inR a b.length) (let i:=M b a.toNat (0,0)
 cond (L (i.2>604800)) (K (.inr (.inl 1))) (cond (L (a>0)) (cond (inR a b.length) (let d:=M b a.toNat (0,0)
 let c:=w64 (a-1)
 cond (inR c b.length) (let j:=M b c.toNat (0,0)
 cond (L (d.1<j.2)) (K (.inr (.inl 6))) (let l:=w64 (a+1)
 K (.inl (b,l)))) U) U) (let e:=w64 (a+1)
 K (.inl (b,e))))) U)) U) U)) U) (K (.inr (.inr ())))
def Gf[LP]:=FT j45
abbrev JS:=Jj j45 Gf
def j8N[LP](a:ah):N Int:=
 let b:=S a.length
 cond (L (b>14)) (K 5) ((Gf a 0).bind λc=>sumC c (λd=>K d) (λe=>K 0))
def jjd(a:J):N Bool:=(j9i a 0 604800).bind λb=>let c:=Ã a 3600
 K (cond b (c==0) Z)
def j6j[LP](e:J)(r:an)(b:aq)(p:aw)(q:aA)(s:X W):N ((J×an×aq×aw×aA×(X W)) ⊕ (J ⊕ Ê)):=
 let m:=S b.length
 cond (L (e<m)) (cond (inR e b.length) (let a:=M b e.toNat (Y,(0,(([]:ah),(0,(0,Z)))))
 cond (L (O s+O [a.1]<=aK)) (let c:X ByteArray:=s++[a.1]
 let n:Bool:=È a.1==È (À #[110,111,98,111,100,121])
 cond n (K (.inr (.inl 2))) ((jfV c e).bind λd=>cond (d != 0) (K (.inr (.inl d))) (let i:=S r.length
 let j:=w64 (i-1)
 (j9i a.2.1 0 j).bind λl=>cond (!l) (K (.inr (.inl 3))) ((j8N a.2.2.1).bind λo=>cond (o != 0) (K (.inr (.inl 8))) ((jjd a.2.2.2.1).bind λf=>cond (!f) (K (.inr (.inl 1))) ((jjd a.2.2.2.2.1).bind λk=>cond (!k) (K (.inr (.inl 1))) (let g:=w64 (e+1)
 K (.inl (g,r,b,p,q,c))))))))) U) U) (K (.inr (.inr ())))
def P4[LP]:=tS j6j
abbrev _Z:=uP j6j P4
def jk8[LP](a:bz):N Int:=(P4 0 a.1 a.2.1 a.2.2.1 a.2.2.2 ([]:(X W))).bind λb=>sumC b (λc=>K c) (λd=>K 0)
def jc8  : N Int:=(jmf 2241).bind λb=>let a:=w64 (b-1)
 K a
def j4u(n f:J)(m:an)(c:aq)(b:aw)(e:aA)(p:W)(d:J)(a:X J)(o:X W):N ((J×J×an×aq×aw×aA×W×J×(X J)×(X W)) ⊕ (J ⊕ (J×an×aq×aw×aA×W×J×(X J)×(X W)))):=
 let l:=S a.length
 cond (L (f<l)) (cond (inR f a.length) (let g:=M a f.toNat 0
 (jc8).bind λk=>(j9i g 0 k).bind λj=>cond (!j) (K (.inr (.inl 1))) (let i:=w64 (f+1)
 K (.inl (n,i,m,c,b,e,p,d,a,o)))) U) (K (.inr (.inr (n,m,c,b,e,p,d,a,o))))
def P5[LP]:=mO j4u
abbrev _0:=nU j4u P5
def j4v(n e:J)(m:an)(d:aq)(c:aw)(f:aA)(p:W)(l:J)(a:X J)(o:X W):N ((J×J×an×aq×aw×aA×W×J×(X J)×(X W)) ⊕ (J ⊕ (J×an×aq×aw×aA×(X W)))):=
 let j:=S a.length
 cond (L (e<j)) (cond (inR e a.length) (let i:=M a e.toNat 0
 let b:=w64 (e-1)
 cond (inR b a.length) (let g:=M a b.toNat 0
 cond (L (i<=g)) (K (.inr (.inl 6))) (let k:=w64 (e+1)
 K (.inl (n,k,m,d,c,f,p,l,a,o)))) U) U) (K (.inr (.inr (n,m,d,c,f,o))))
def P6[LP]:=mO j4v
abbrev _1:=nU j4v P6
def j4w[LP](g:J)(t:an)(o:aq)(d:aw)(q:aA)(s:X W):N ((J×an×aq×aw×aA×(X W)) ⊕ (J ⊕ Ê)):=
 let n:=S d.length
 cond (L (g<n)) (cond (inR g d.length) (let a:=M d g.toNat (Y,(0,([]:(X J))))
 cond (L (O s+O [a.1]<=aK)) (let e:X ByteArray:=s++[a.1]
 (jfV e g).bind λf=>cond (f != 0) (K (.inr (.inl f))) (let l:=S t.length
 let j:=w64 (l-1)
 (j9i a.2.1 0 j).bind λk=>cond (!k) (K (.inr (.inl 3))) (let i:=S a.2.2.length
 cond (L (i>64)) (K (.inr (.inl 5))) ((P5 g 0 t o d q a.1 a.2.1 a.2.2 e).bind λr=>sumC r (λu=>K (.inr (.inl u))) (λb=>(P6 b.1 1 b.2.1 b.2.2.1 b.2.2.2.1 b.2.2.2.2.1 b.2.2.2.2.2.1 b.2.2.2.2.2.2.1 b.2.2.2.2.2.2.2.1 b.2.2.2.2.2.2.2.2).bind λp=>sumC p (λv=>K (.inr (.inl v))) (λc=>let m:=w64 (c.1+1)
 K (.inl (m,c.2.1,c.2.2.1,c.2.2.2.1,c.2.2.2.2.1,c.2.2.2.2.2)))))))) U) U) (K (.inr (.inr ())))
def P7[LP]:=tS j4w
abbrev _2:=uP j4w P7
def jdY[LP](a:bz):N Int:=(P7 0 a.1 a.2.1 a.2.2.1 a.2.2.2 ([]:(X W))).bind λb=>sumC b (λc=>K c) (λd=>K 0)
def j6X(o:J)(u:an)(b:aq)(c:aw)(j:aA)(v:W)(k i e l g:J)(a:X J)(d:ah)(f m:J):N ((J×an×aq×aw×aA×W×J×J×J×J×J×(X J)×ah×J×J) ⊕ (J ⊕ (an×aq×aw×aA×W×J×J×J×J×J×(X J)×ah×J×J))):=
 let n:=S a.length
 cond (L (o<n)) (cond (inR o a.length) (let r:=M a o.toNat 0
 let t:=S b.length
 let p:=w64 (t-1)
 (j9i r 0 p).bind λs=>cond (!s) (K (.inr (.inl 3))) (let q:=w64 (o+1)
 K (.inl (q,u,b,c,j,v,k,i,e,l,g,a,d,f,m)))) U) (K (.inr (.inr (u,b,c,j,v,k,i,e,l,g,a,d,f,m))))
def P8[LP]:=wM j6X
abbrev _3:=AP j6X P8
def jjg[LP](b:bz)(a:eD):N Int:=
 let t:=S b.1.length
 let q:=w64 (t-1)
 (j9i a.2.1 0 q).bind λp=>cond (!p) (K 3) ((jc8).bind λk=>(j9i a.2.2.1.1 1 k).bind λi=>cond (!i) (K 1) ((j9i a.2.2.1.2 0 86399).bind λr=>cond (!r) (K 1) ((j9i a.2.2.2.1 0 2).bind λn=>cond (!n) (K 1) ((j9i a.2.2.2.2.1 1 400).bind λg=>cond (!g) (K 1) (let j:=S a.2.2.2.2.2.1.length
 cond (j==0) (K 7) (let u:=S a.2.2.2.2.2.1.length
 cond (L (u>12)) (K 5) ((P8 0 b.1 b.2.1 b.2.2.1 b.2.2.2 a.1 a.2.1 a.2.2.1.1 a.2.2.1.2 a.2.2.2.1 a.2.2.2.2.1 a.2.2.2.2.2.1 a.2.2.2.2.2.2.1 a.2.2.2.2.2.2.2.1 a.2.2.2.2.2.2.2.2).bind λv=>sumC v (λw=>K w) (λd=>(j8N d.2.2.2.2.2.2.2.2.2.2.2.1).bind λl=>cond (l != 0) (K 8) ((j9i d.2.2.2.2.2.2.2.2.2.2.2.2.2 0 2).bind λm=>cond (!m) (K 1) (let f:=S d.2.2.1.length
 let s:=w64 (f-1)
 cond (d.2.2.2.2.2.2.2.2.2.2.2.2.2 != 0) ((j9i d.2.2.2.2.2.2.2.2.2.2.2.2.1 0 s).bind λo=>cond (!o) (K 3) (let e:Bool:=cond (d.2.2.2.2.2.2.2.2.2.2.2.2.2==0) (d.2.2.2.2.2.2.2.2.2.2.2.2.1 != 0) Z
 cond e (K 1) (K 0))) (let c:Bool:=cond (d.2.2.2.2.2.2.2.2.2.2.2.2.2==0) (d.2.2.2.2.2.2.2.2.2.2.2.2.1 != 0) Z
 cond c (K 1) (K 0))))))))))))
def jmk(d:bz)(a:mN):N Int:=
 let j:=S d.2.1.length
 (j9i a.1 0 2).bind λm=>cond (!m) (K 1) (let i:=w64 (j-1)
 (j9i a.2.1 0 i).bind λe=>let g:=w64 (j-1)
 cond (cond (!e) (cond (a.1 != 1) Á (a.2.1 != (-1))) Z) (cond ((!(a.1==2)) || !(!Á)) (K 3) U) (cond (a.1==2) ((j9i a.2.2.1 0 g).bind λk=>cond (!k) (K 3) (cond (cond (a.1 != 2) (a.2.2.1 != 0) Z) (K 1) (cond (cond (a.1==2) (a.2.1==a.2.2.1) Z) (K 4) (cond (L (a.2.2.2.1<0)) (K 1) (cond (L (a.2.2.2.2<0)) (K 1) (let f:=w64 (Ç a.2.2.2.2 86400)
 (jc8).bind λl=>cond (L (f>l)) (K 1) (cond (L (a.2.2.2.1>=a.2.2.2.2)) (K 6) (K 0)))))))) (cond (cond (a.1 != 2) (a.2.2.1 != 0) Z) (K 1) (cond (cond (a.1==2) (a.2.1==a.2.2.1) Z) (K 4) (cond (L (a.2.2.2.1<0)) (K 1) (cond (L (a.2.2.2.2<0)) (K 1) (let c:=w64 (Ç a.2.2.2.2 86400)
 (jc8).bind λb=>cond (L (c>b)) (K 1) (cond (L (a.2.2.2.1>=a.2.2.2.2)) (K 6) (K 0)))))))))
def j4x[LP](q e:J)(o:an)(d:aq)(c:aw)(f:aA)(s:W)(b:aH)(l:ag)(r p:X W):N ((J×J×an×aq×aw×aA×W×aH×ag×(X W)×(X W)) ⊕ (J ⊕ (J×an×aq×aw×aA×W×aH×ag×(X W)))):=
 let n:=S b.length
 cond (L (e<n)) (cond (inR e b.length) (let i:=M b e.toNat (Y,(0,((0,0),(0,(0,(([]:(X J)),(([]:ah),(0,0))))))))
 cond (L (O p+O [i.1]<=aK)) (let g:X ByteArray:=p++[i.1]
 (jfV g e).bind λj=>cond (j != 0) (K (.inr (.inl j))) (cond (inR e b.length) (let a:=M b e.toNat (Y,(0,((0,0),(0,(0,(([]:(X J)),(([]:ah),(0,0))))))))
 (jjg (o,(d,(c,f))) a).bind λk=>cond (k != 0) (K (.inr (.inl k))) (let m:=w64 (e+1)
 K (.inl (q,m,o,d,c,f,s,b,l,r,g)))) U)) U) U) (K (.inr (.inr (q,o,d,c,f,s,b,l,r))))
def P9[LP]:=rh j4x
abbrev _4:=tU j4x P9
def j4y(m g:J)(k:an)(d:aq)(c:aw)(e:aA)(o:W)(l:aH)(b:ag)(n:X W):N ((J×J×an×aq×aw×aA×W×aH×ag×(X W)) ⊕ (J ⊕ (J×an×aq×aw×aA×(X W)))):=
 let i:=S b.length
 cond (L (g<i)) (cond (inR g b.length) (let a:=M b g.toNat (0,(0,(0,(0,0))))
 (jmk (k,(d,(c,e))) a).bind λf=>cond (f != 0) (K (.inr (.inl f))) (let j:=w64 (g+1)
 K (.inl (m,j,k,d,c,e,o,l,b,n)))) U) (K (.inr (.inr (m,k,d,c,e,n))))
def Qa[LP]:=mO j4y
abbrev _5:=nU j4y Qa
def j4z[LP](g:J)(t:an)(m:aq)(n:aw)(d:aA)(q:X W):N ((J×an×aq×aw×aA×(X W)) ⊕ (J ⊕ Ê)):=
 let i:=S d.length
 cond (L (g<i)) (cond (inR g d.length) (let a:=M d g.toNat (Y,(([]:aH),([]:ag)))
 cond (L (O q+O [a.1]<=aK)) (let f:X ByteArray:=q++[a.1]
 (jfV f g).bind λe=>cond (e != 0) (K (.inr (.inl e))) (let l:=S a.2.1.length
 let j:=S a.2.2.length
 cond (cond (L (l>6)) Á (L (j>48))) (K (.inr (.inl 5))) ((P9 g 0 t m n d a.1 a.2.1 a.2.2 f ([]:(X W))).bind λp=>sumC p (λr=>K (.inr (.inl r))) (λb=>(Qa b.1 0 b.2.1 b.2.2.1 b.2.2.2.1 b.2.2.2.2.1 b.2.2.2.2.2.1 b.2.2.2.2.2.2.1 b.2.2.2.2.2.2.2.1 b.2.2.2.2.2.2.2.2).bind λo=>sumC o (λs=>K (.inr (.inl s))) (λc=>let k:=w64 (c.1+1)
 K (.inl (k,c.2.1,c.2.2.1,c.2.2.2.1,c.2.2.2.2.1,c.2.2.2.2.2))))))) U) U) (K (.inr (.inr ())))
def Qb[LP]:=tS j4z
abbrev _6:=uP j4z Qb
def jhQ[LP](a:bz):N Int:=(Qb 0 a.1 a.2.1 a.2.2.1 a.2.2.2 ([]:(X W))).bind λb=>sumC b (λc=>K c) (λd=>K 0)
def j9N[LP](a:bz):N Int:=
 let k:=S a.1.length
 let g:=S a.2.1.length
 let i:=S a.2.2.1.length
 let e:Bool:=cond (cond (L (k>16)) Á (L (g>32))) Á (L (i>8))
 let f:=S a.2.2.2.length
 cond (cond e Á (L (f>12))) (K 5) ((jmj a).bind λb=>cond (b != 0) (K b) ((jk8 a).bind λc=>cond (c != 0) (K c) ((jdY a).bind λd=>cond (d != 0) (K d) ((jhQ a).bind λj=>K j))))
def j6Y(a b:J):N Bool:=
 let c:Bool:=cond (cond (L (a>=0)) (L (a<=8589934592)) Z) (L (b>=a)) Z
 let e:=w64 (b-a)
 let d:Bool:=cond (cond c (L (b<=8589934592)) Z) (L (e<=34560000)) Z
 K d
def jd7[LP](b:bz)(a c d:J):N Int:=(j9N b).bind λe=>cond (e != 0) (K 8) (let f:=S b.2.2.2.length
 cond (cond (L (a<0)) Á (L (a>=f))) (K 3) ((j6Y c d).bind λg=>cond (!g) (K 1) (K 0)))
def jbb[LP](b:dA)(a:eD):N Int:=(j8M b).bind λi=>let c:Bool:=cond (cond (i != 0) Á (L (a.2.2.1.1<1))) Á (L (a.2.2.1.1>100000))
 let e:Bool:=cond (cond c Á (L (a.2.2.1.2<0))) Á (L (a.2.2.1.2>=86400))
 let f:Bool:=cond (cond e Á (L (a.2.2.2.1<0))) Á (L (a.2.2.2.1>2))
 let d:Bool:=cond (cond f Á (L (a.2.2.2.2.1<1))) Á (L (a.2.2.2.2.1>400))
 let g:=S a.2.2.2.2.2.1.length
 cond (cond d Á (g==0)) (K 8) (K 0)
def jhc(a:J):N Bool:=(j9M a (-2) 99422).bind λb=>K b
def j5x(c:J)(y:W)(d:J)(f:bn)(g a:J)(b:ah):N ((J×W×J×bn×J×J×ah) ⊕ ((J×J) ⊕ Ê)):=
 let a3:=S b.length
 cond (L (c<a3)) (cond (L (c>=0)) (cond (inR c b.length) (let q:=(M b c.toNat (0,0)).2
 cond (inR c b.length) (let e:=(M b c.toNat (0,0)).1
 let a1:=w64 (c+1)
 let a4:=S b.length
 cond (L (a1<a4)) (let i:=w64 (c+1)
 cond (inR i b.length) (let t:=(M b i.toNat (0,0)).1
 let u:=w64 (g*86400)
 let a8:=w64 (u+a)
 let s:=w64 (a8-q)
 let j:Int:=if s>e then s else e
 cond (L (j<t)) (K (.inr (.inl (j,0)))) (let a6:=w64 (c+1)
 K (.inl (a6,y,d,f,g,a,b)))) U) (let w:=w64 (g*86400)
 let a7:=w64 (w+a)
 let m:=w64 (a7-q)
 let r:Int:=if m>e then m else e
 cond (L (r<8589934593)) (K (.inr (.inl (r,0)))) (let b1:=w64 (c+1)
 K (.inl (b1,y,d,f,g,a,b))))) U) U) (let z:=w64 (c+1)
 let a9:=S b.length
 cond (L (z<a9)) (let o:=w64 (c+1)
 cond (inR o b.length) (let a2:=(M b o.toNat (0,0)).1
 let a5:=w64 (g*86400)
 let a0:=w64 (a5+a)
 let k:=w64 (a0-d)
 let n:Int:=if k>0 then k else 0
 cond (L (n<a2)) (K (.inr (.inl (n,0)))) (let b2:=w64 (c+1)
 K (.inl (b2,y,d,f,g,a,b)))) U) (let b0:=w64 (g*86400)
 let v:=w64 (b0+a)
 let l:=w64 (v-d)
 let p:Int:=if l>0 then l else 0
 cond (L (p<8589934593)) (K (.inr (.inl (p,0)))) (let x:=w64 (c+1)
 K (.inl (x,y,d,f,g,a,b)))))) (K (.inr (.inr ())))
def yB[LP]:=rf j5x
abbrev Qc:=r7 j5x yB
def j4A[LP](a:dA)(b:J×J):N (J×J):=(j0a a).bind λc=>cond (c.2 != 0) (K (0,8)) ((j9M b.2 0 86399).bind λe=>cond (!e) (K (0,1)) (cond (L (b.1<(-2))) (K (0,0)) ((jhc b.1).bind λd=>cond (!d) (K (0,10)) ((yB (-1) a.1 a.2.1 a.2.2 b.1 b.2 c.1).bind λf=>sumC f (λg=>K g) (λi=>K (0,10))))))
def j6k(c:ah)(g i a:J):N ((ah×J×J×J) ⊕ (J)):=
 let b:=S c.length
 cond ((inR a c.length) || !(L (a<b))) (let d:=M c a.toNat (0,0)
 cond (cond (L (a<b)) (L (d.1<=g)) Z) (cond (inR a c.length) (let f:=M c a.toNat (0,0)
 let e:=w64 (a+1)
 K (.inl (c,g,f.2,e))) U) (K (.inr i))) U
def JT[LP]:=kC j6k
abbrev _7:=lz j6k JT
def jk9[LP](a:dA)(b:ah)(c:J):N Int:=(JT b c a.2.1 0).bind λd=>K d
def jd8[LP](a:dA)(b:J):N (J×J):=(j0a a).bind λc=>cond (c.2 != 0) (K (0,8)) ((j9M b 0 8589934592).bind λe=>cond (!e) (K (0,1)) ((jk9 a c.1 b).bind λd=>K (d,0)))
def jml(b a:J):N (J×J):=
 let g:=w64 (b+a)
 let d:=w64 (g+864000)
 let e:=w64 (Ç d 86400)
 let c:=w64 (e-10)
 let f:=Ã d 86400
 K (c,f)
def j4Y[LP](a:dA)(c:J):N ((J×J)×J):=(jd8 a c).bind λb=>cond (b.2 != 0) (K ((0,0),b.2)) ((jml c b.1).bind λd=>K (d,0))
def j6l[LP](b:dA)(a:eD)(e:J):N (J×Æ):=cond (a.2.2.2.1==0) ((j4A b a.2.2.1).bind λd=>let o:=w64 (e*a.2.2.2.2.1)
 let i:=w64 (o*3600)
 let m:=w64 (d.1+i)
 let k:=w64 (d.1+i)
 K (m,(cond (d.2==0) (L (k<=8589934592)) Z))) (let j:=w64 (e*a.2.2.2.2.1)
 cond (a.2.2.2.1==2) (let l:=w64 (j*7)
 let n:=w64 (a.2.2.1.1+l)
 (j4A b (n,a.2.2.1.2)).bind λg=>K (g.1,(g.2==0))) (let f:=w64 (a.2.2.1.1+j)
 (j4A b (f,a.2.2.1.2)).bind λc=>K (c.1,(c.2==0))))
def j6Z[LP](p f:J)(q:W)(j:J)(e:bn)(r:W)(k c m g d:J)(i:X J)(b:ah)(l n:J):N ((J×J×W×J×bn×W×J×J×J×J×J×(X J)×ah×J×J) ⊕ (J)):=cond (L (f>=0)) ((j6l (q,(j,e)) (r,(k,((c,m),(g,(d,(i,(b,(l,n)))))))) f).bind λa=>cond (cond a.2 (L (a.1<=p)) Z) (K (.inr f)) (let o:=w64 (f-1)
 K (.inl (p,o,q,j,e,r,k,c,m,g,d,i,b,l,n)))) (K (.inr f))
def Dd[LP]:=wM j6Z
abbrev _8:=AP j6Z Dd
def jeR[LP](b:dA)(a:eD)(c:J):N Int:=cond (a.2.2.2.1==0) ((j4A b a.2.2.1).bind λe=>cond (cond (e.2==0) (L (e.1<=c)) Z) (let q:=w64 (c-e.1)
 let l:=w64 (3600*a.2.2.2.2.1)
 cond (!(l==0)) (let p:=w64 (Ç q l)
 K p) U) (K (-1))) ((j4Y b c).bind λm=>cond (a.2.2.2.1==2) (let j:=w64 (a.2.2.2.2.1*7)
 let s:=w64 (m.1.1+2)
 let k:=w64 (s-a.2.2.1.1)
 let o:Int:=if 0>k then 0 else k
 cond (!(j==0)) (let r:=w64 (Ç o j)
 (Dd c r b.1 b.2.1 b.2.2 a.1 a.2.1 a.2.2.1.1 a.2.2.1.2 a.2.2.2.1 a.2.2.2.2.1 a.2.2.2.2.2.1 a.2.2.2.2.2.2.1 a.2.2.2.2.2.2.2.1 a.2.2.2.2.2.2.2.2).bind λt=>K t) U) (let i:=w64 (m.1.1+2)
 let d:=w64 (i-a.2.2.1.1)
 let g:Int:=if 0>d then 0 else d
 cond (!(a.2.2.2.2.1==0)) (let f:=w64 (Ç g a.2.2.2.2.1)
 (Dd c f b.1 b.2.1 b.2.2 a.1 a.2.1 a.2.2.1.1 a.2.2.1.2 a.2.2.2.1 a.2.2.2.2.1 a.2.2.2.2.2.1 a.2.2.2.2.2.2.1 a.2.2.2.2.2.2.2.1 a.2.2.2.2.2.2.2.2).bind λn=>K n) U))
def j6m[LP](s u o:J)(t:W)(l:J)(c:bn)(v:W)(g f k m b:J)(i:X J)(d:ah)(e j:J)(n:X J):N ((J×J×J×W×J×bn×W×J×J×J×J×J×(X J)×ah×J×J×(X J)) ⊕ (uO)):=(j6l (t,(l,c)) (v,(g,((f,k),(m,(b,(i,(d,(e,j)))))))) o).bind λa=>cond (cond (!a.2) Á (L (a.1>=u))) (K (.inr (0,n))) (cond (L (a.1>=s)) (cond (L (O n+O [a.1]<=aK)) (let r:X Int:=n++[a.1]
 let p:=w64 (o+1)
 K (.inl (s,u,p,t,l,c,v,g,f,k,m,b,i,d,e,j,r))) U) (let q:=w64 (o+1)
 K (.inl (s,u,q,t,l,c,v,g,f,k,m,b,i,d,e,j,n))))
def Qd[LP]:=AQ j6m
abbrev jl8:=FU j6m Qd
def jbc[LP](b:dA)(a:eD)(c d:J):N ((X J)×J):=(jbb b a).bind λg=>cond (g != 0) (K (([]:(X J)),8)) ((j6Y c d).bind λi=>cond (!i) (K (([]:(X J)),1)) ((jeR b a c).bind λe=>let f:Int:=if e>0 then e else 0
 (Qd c d f b.1 b.2.1 b.2.2 a.1 a.2.1 a.2.2.1.1 a.2.2.1.2 a.2.2.2.1 a.2.2.2.2.1 a.2.2.2.2.2.1 a.2.2.2.2.2.2.1 a.2.2.2.2.2.2.2.1 a.2.2.2.2.2.2.2.2 ([]:(X J))).bind λj=>K (j.2,j.1)))
def j95(a:J×J):N Int:=(jeJ a.1).bind λb=>let d:=w64 (b*86400)
 let c:=w64 (d+a.2)
 K c
def j70(c:ah)(k j b a:J)(m:ah):N ((ah×J×J×J×J×ah) ⊕ (ah×J×J×J×ah)):=
 let l:=S c.length
 cond (L (a<l)) (cond (inR a c.length) (let p:=M c a.toNat (0,0)
 let g:=w64 (b+p.1)
 let d:Int:=if g>k then g else k
 cond (inR a c.length) (let o:=M c a.toNat (0,0)
 let i:=w64 (b+o.2)
 let e:Int:=if i<j then i else j
 cond (L (d<e)) (let f:ah:=[(d,e)]
 cond (L (O m+O f<=aK)) (let n:ah:=m++f
 let r:=w64 (a+1)
 K (.inl (c,k,j,b,r,n))) U) (let q:=w64 (a+1)
 K (.inl (c,k,j,b,q,m)))) U) U) (K (.inr (c,k,j,b,m)))
def Qe[LP]:=tS j70
theorem _9(a b c d e f):Qe a b c d e f=lpK (j70 a b c d e f) λh=>Qe h.1 h.2.1 h.2.2.1 h.2.2.2.1 h.2.2.2.2.1 h.2.2.2.2.2:=iO _ _
def j71[LP](g:ah)(f d c:J)(e:ah):N ((ah×J×J×J×ah) ⊕ (ah)):=cond (L (c<d)) ((Qe g f d c 0 e).bind λa=>let b:=w64 (a.2.2.2.1+604800)
 K (.inl (a.1,a.2.1,a.2.2.1,b,a.2.2.2.2))) (K (.inr e))
def Qf[LP]:=gL j71
abbrev a_:=ir j71 Qf
def jd9[LP](d:ah)(a c b:J):N ah:=
 let e:=w64 (a+b)
 let l:=w64 (a+b)
 let k:=w64 (l+864000)
 let p:=w64 (Ç k 86400)
 let f:=w64 (p-10)
 let g:=w64 (a+b)
 let i:=w64 (g+864000)
 let j:=Ã i 86400
 (j95 (f,j)).bind λm=>let n:=w64 (e-m)
 let o:=w64 (n-b)
 (Qf d a c o ([]:ah)).bind λq=>K q
def j7P(b:ah)(a:J)(c:ah):N ((ah×J×ah) ⊕ (ah)):=
 let u:=S b.length
 cond (L (a<u)) (let d:=S c.length
 cond (L (d>0)) (let j:=w64 (d-1)
 cond (inR j c.length) (let r:=(M c j.toNat (0,0)).2
 cond (inR a b.length) (let p:=M b a.toNat (0,0)
 cond (r==p.1) (let e:=w64 (d-1)
 cond (inR a b.length) (let l:=M b a.toNat (0,0)
 cond (inR e c.length) (let s:ah:=Ä c e.toNat ((M c e.toNat (0,0)).1,l.2)
 let q:=w64 (a+1)
 K (.inl (b,q,s))) U) U) (cond (inR a b.length) (let g:=M b a.toNat (0,0)
 let k:ah:=[g]
 cond (L (O c+O k<=aK)) (let o:ah:=c++k
 let t:=w64 (a+1)
 K (.inl (b,t,o))) U) U)) U) U) (cond (inR a b.length) (let i:=M b a.toNat (0,0)
 let f:ah:=[i]
 cond (L (O c+O f<=aK)) (let m:ah:=c++f
 let n:=w64 (a+1)
 K (.inl (b,n,m))) U) U)) (K (.inr c))
def Qg[LP]:=re j7P
theorem b_(a b c):Qg a b c=lpK (j7P a b c) λh=>Qg h.1 h.2.1 h.2.2:=iO _ _
def jfW[LP](b a:ah):N ah:=(Qg a 0 b).bind λc=>K c
def j72[LP](i:ah)(f e b:J)(k:W)(c:J)(d:bn)(a g:ah):N ((ah×J×J×J×W×J×bn×ah×ah) ⊕ (ah)):=
 let b0:=S a.length
 cond (L (b<b0)) (cond (L (b>=0)) (cond (inR b a.length) (let r:=(M a b.toNat (0,0)).2
 cond (inR b a.length) (let s:=(M a b.toNat (0,0)).1
 let j:Int:=if s>f then s else f
 let a6:=w64 (b+1)
 let a9:=S a.length
 cond (L (a6<a9)) (let m:=w64 (b+1)
 cond (inR m a.length) (let q:=(M a m.toNat (0,0)).1
 let n:Int:=if q<e then q else e
 cond (L (j<n)) ((jd9 i j n r).bind λb1=>(jfW g b1).bind λa8=>let t:=w64 (b+1)
 K (.inl (i,f,e,t,k,c,d,a,a8))) (let x:=w64 (b+1)
 K (.inl (i,f,e,x,k,c,d,a,g)))) U) (cond (L (j<e)) ((jd9 i j e r).bind λa7=>(jfW g a7).bind λb2=>let a4:=w64 (b+1)
 K (.inl (i,f,e,a4,k,c,d,a,b2))) (let a3:=w64 (b+1)
 K (.inl (i,f,e,a3,k,c,d,a,g))))) U) U) (let a5:=w64 (b+1)
 let b3:=S a.length
 cond (L (a5<b3)) (let o:=w64 (b+1)
 cond (inR o a.length) (let p:=(M a o.toNat (0,0)).1
 let l:Int:=if p<e then p else e
 cond (L (f<l)) ((jd9 i f l c).bind λa1=>(jfW g a1).bind λu=>let w:=w64 (b+1)
 K (.inl (i,f,e,w,k,c,d,a,u))) (let a0:=w64 (b+1)
 K (.inl (i,f,e,a0,k,c,d,a,g)))) U) (cond (L (f<e)) ((jd9 i f e c).bind λa2=>(jfW g a2).bind λy=>let z:=w64 (b+1)
 K (.inl (i,f,e,z,k,c,d,a,y))) (let v:=w64 (b+1)
 K (.inl (i,f,e,v,k,c,d,a,g)))))) (K (.inr g))
def JU[LP]:=yy j72
abbrev c_:=AM j72 JU
def jhd[LP](a:dA)(d:ah)(b c:J):N (ah×J):=(j0a a).bind λe=>cond (e.2 != 0) (K (([]:ah),8)) ((j8N d).bind λj=>cond (j != 0) (K (([]:ah),8)) ((j6Y b c).bind λf=>cond (!f) (K (([]:ah),1)) ((JU d b c (-1) a.1 a.2.1 a.2.2 e.1 ([]:ah)).bind λi=>let g:=S i.length
 cond (L (g>4096)) (K (([]:ah),5)) (K (i,0)))))
def j4B(d:J)(m:W)(b:J)(e:bn)(j a:J)(c:ah)(i:X J):N ((J×W×J×bn×J×J×ah×(X J)) ⊕ (X J)):=
 let a8:=S c.length
 cond (L (d<a8)) (cond (L (d>=0)) (cond (inR d c.length) (let o:=(M c d.toNat (0,0)).2
 cond (inR d c.length) (let q:=(M c d.toNat (0,0)).1
 let a7:=w64 (d+1)
 let a6:=S c.length
 cond (L (a7<a6)) (let n:=w64 (d+1)
 cond (inR n c.length) (let b7:=(M c n.toNat (0,0)).1
 let a9:=w64 (j*86400)
 let b2:=w64 (a9+a)
 let k:=w64 (b2-o)
 cond (cond (L (k>=q)) (L (k<b7)) Z) (cond (L (O i+O [k]<=aK)) (let b4:X Int:=i++[k]
 let a4:=w64 (d+1)
 K (.inl (a4,m,b,e,j,a,c,b4))) U) (let t:=w64 (d+1)
 K (.inl (t,m,b,e,j,a,c,i)))) U) (let a5:=w64 (j*86400)
 let b1:=w64 (a5+a)
 let l:=w64 (b1-o)
 cond (cond (L (l>=q)) (L (l<8589934593)) Z) (cond (L (O i+O [l]<=aK)) (let b6:X Int:=i++[l]
 let a2:=w64 (d+1)
 K (.inl (a2,m,b,e,j,a,c,b6))) U) (let z:=w64 (d+1)
 K (.inl (z,m,b,e,j,a,c,i))))) U) U) (let b5:=w64 (d+1)
 let b0:=S c.length
 cond (L (b5<b0)) (let p:=w64 (d+1)
 cond (inR p c.length) (let b3:=(M c p.toNat (0,0)).1
 let a1:=w64 (j*86400)
 let v:=w64 (a1+a)
 let f:=w64 (v-b)
 cond (cond (L (f>=0)) (L (f<b3)) Z) (cond (L (O i+O [f]<=aK)) (let x:X Int:=i++[f]
 let y:=w64 (d+1)
 K (.inl (y,m,b,e,j,a,c,x))) U) (let a3:=w64 (d+1)
 K (.inl (a3,m,b,e,j,a,c,i)))) U) (let u:=w64 (j*86400)
 let a0:=w64 (u+a)
 let g:=w64 (a0-b)
 cond (cond (L (g>=0)) (L (g<8589934593)) Z) (cond (L (O i+O [g]<=aK)) (let r:X Int:=i++[g]
 let w:=w64 (d+1)
 K (.inl (w,m,b,e,j,a,c,r))) U) (let s:=w64 (d+1)
 K (.inl (s,m,b,e,j,a,c,i)))))) (K (.inr i))
def De[LP]:=r9 j4B
abbrev d_:=tT j4B De
def j96[LP](a:dA)(b:J×J):N ((X J)×J):=(j0a a).bind λc=>cond (c.2 != 0) (K (([]:(X J)),8)) ((j9M b.2 0 86399).bind λd=>cond (!d) (K (([]:(X J)),1)) ((jhc b.1).bind λe=>cond (!e) (K (([]:(X J)),0)) ((De (-1) a.1 a.2.1 a.2.2 b.1 b.2 c.1 ([]:(X J))).bind λf=>K (f,0))))
def j7Q(b:J)(w:an)(o:aq)(d:aw)(f:aA)(x:W)(k j n p c:J)(l:X J)(e:ah)(i m:J)(g:X J)(a:ah):N ((J×an×aq×aw×aA×W×J×J×J×J×J×(X J)×ah×J×J×(X J)×ah) ⊕ (an×aq×aw×aA×W×J×J×J×J×J×(X J)×ah×J×J×(X J))):=
 let q:=S a.length
 cond (L (b<q)) (cond (inR b a.length) (let t:=(M a b.toNat (0,0)).1
 cond (inR b a.length) (let u:=(M a b.toNat (0,0)).2
 let v:X Int:=[t,u]
 cond (L (O g+O v<=aK)) (let r:X Int:=g++v
 let s:=w64 (b+1)
 K (.inl (s,w,o,d,f,x,k,j,n,p,c,l,e,i,m,r,a))) U) U) U) (K (.inr (w,o,d,f,x,k,j,n,p,c,l,e,i,m,g)))
def Qh[LP]:=AQ j7Q
abbrev e_:=FU j7Q Qh
def j7R(b:J)(o:an)(j:aq)(f:aw)(k:aA)(n:W)(c:J)(d i:X J)(e:ah):N ((J×an×aq×aw×aA×W×J×(X J)×(X J)×ah) ⊕ (an×aq×aw×aA×W×J×(X J)×(X J))):=
 let l:=S e.length
 cond (L (b<l)) (cond (inR b e.length) (let a:=(M e b.toNat (0,0)).1
 cond (L (O i+O [a]<=aK)) (let g:X Int:=i++[a]
 let m:=w64 (b+1)
 K (.inl (m,o,j,f,k,n,c,d,g,e))) U) U) (K (.inr (o,j,f,k,n,c,d,i)))
def Df[LP]:=mO j7R
abbrev f_:=nU j7R Df
def j61[LP](e k:J)(p:an)(l:aq)(g:aw)(n:aA)(q:W)(a:J)(b j:X J):N ((J×J×an×aq×aw×aA×W×J×(X J)×(X J)) ⊕ (J×an×aq×aw×aA×W×J×(X J)×(X J))):=cond (L (k<2)) (cond (inR a p.length) (let c:=M p a.toNat (Y,(0,([]:bn)))
 cond (inR e b.length) (let i:=M b e.toNat 0
 let f:=w64 (i+k)
 (j96 c (f,0)).bind λd=>cond (L (O j+O d.1<=aK)) (let m:X Int:=j++d.1
 let o:=w64 (k+1)
 K (.inl (e,o,p,l,g,n,q,a,b,m))) U) U) U) (K (.inr (e,p,l,g,n,q,a,b,j)))
def Qi[LP]:=mO j61
abbrev Qj:=nU j61 Qi
def j7S[LP](g:J)(m:an)(j:aq)(i:aw)(k:aA)(l:W)(e:J)(b f:X J):N ((J×an×aq×aw×aA×W×J×(X J)×(X J)) ⊕ (X J)):=
 let d:=S b.length
 cond (L (g<d)) ((Qi g 0 m j i k l e b f).bind λa=>let c:=w64 (a.1+1)
 K (.inl (c,a.2.1,a.2.2.1,a.2.2.2.1,a.2.2.2.2.1,a.2.2.2.2.2.1,a.2.2.2.2.2.2.1,a.2.2.2.2.2.2.2.1,a.2.2.2.2.2.2.2.2))) (K (.inr f))
def Gg[LP]:=yy j7S
abbrev g_:=AM j7S Gg
def jmm[LP](b:bz)(a:eD)(f l:J):N (X J):=cond (inR a.2.1 b.1.length) (let g:=M b.1 a.2.1.toNat (Y,(0,([]:bn)))
 (jbc g a f l).bind λp=>cond (L (O ([]:(X J))+O p.1<=aK)) (let n:X Int:=([]:(X J))++p.1
 let r:=S a.2.2.2.2.2.2.1.length
 cond (L (r>0)) ((jhd g a.2.2.2.2.2.2.1 f l).bind λs=>(Qh 0 b.1 b.2.1 b.2.2.1 b.2.2.2 a.1 a.2.1 a.2.2.1.1 a.2.2.1.2 a.2.2.2.1 a.2.2.2.2.1 a.2.2.2.2.2.1 a.2.2.2.2.2.2.1 a.2.2.2.2.2.2.2.1 a.2.2.2.2.2.2.2.2 n s.1).bind λe=>cond (e.2.2.2.2.2.2.2.2.2.2.2.2.2.1==0) (K e.2.2.2.2.2.2.2.2.2.2.2.2.2.2) (cond (inR e.2.2.2.2.2.2.2.2.2.2.2.2.1 e.2.2.1.length) (let k:=M e.2.2.1 e.2.2.2.2.2.2.2.2.2.2.2.2.1.toNat (Y,(0,([]:(X J))))
 cond (inR k.2.1 e.1.length) (let m:=M e.1 k.2.1.toNat (Y,(0,([]:bn)))
 (j0a m).bind λt=>(Df 0 e.1 e.2.1 e.2.2.1 e.2.2.2.1 k.1 k.2.1 k.2.2 e.2.2.2.2.2.2.2.2.2.2.2.2.2.2 t.1).bind λj=>(Gg 0 j.1 j.2.1 j.2.2.1 j.2.2.2.1 j.2.2.2.2.1 j.2.2.2.2.2.1 j.2.2.2.2.2.2.1 j.2.2.2.2.2.2.2).bind λu=>K u) U) U)) (cond (a.2.2.2.2.2.2.2.2==0) (K n) (cond (inR a.2.2.2.2.2.2.2.1 b.2.2.1.length) (let d:=M b.2.2.1 a.2.2.2.2.2.2.2.1.toNat (Y,(0,([]:(X J))))
 cond (inR d.2.1 b.1.length) (let i:=M b.1 d.2.1.toNat (Y,(0,([]:bn)))
 (j0a i).bind λo=>(Df 0 b.1 b.2.1 b.2.2.1 b.2.2.2 d.1 d.2.1 d.2.2 n o.1).bind λc=>(Gg 0 c.1 c.2.1 c.2.2.1 c.2.2.2.1 c.2.2.2.2.1 c.2.2.2.2.2.1 c.2.2.2.2.2.2.1 c.2.2.2.2.2.2.2).bind λq=>K q) U) U))) U) U
def j7T(b4:(X J)->N (X J))(e d:J)(a c b:X J):N ((J×J×(X J)×(X J)×(X J)) ⊕ (X J)):=
 let b0:=S c.length
 let a2:=S b.length
 cond (cond (L (e<b0)) Á (L (d<a2))) (let a0:=S b.length
 cond (d==a0) (cond (inR e c.length) (let f:=M c e.toNat 0
 let r:=w64 (e+1)
 let m:=S a.length
 let b1:=S a.length
 let p:=w64 (b1-1)
 cond ((inR p a.length) || !(!(m==0))) (let y:=M a p.toNat 0
 cond (cond (m==0) Á (y != f)) (cond (L (O a+O [f]<=aK)) (let a1:X Int:=a++[f]
 K (.inl (r,d,a1,c,b))) U) (K (.inl (r,d,a,c,b)))) U) U) (let a5:=S c.length
 cond (L (e<a5)) (cond (inR e c.length) (let b2:=M c e.toNat 0
 cond (inR d b.length) (let a6:=M b d.toNat 0
 cond (L (b2<=a6)) (cond (inR e c.length) (let i:=M c e.toNat 0
 let v:=w64 (e+1)
 let u:=S a.length
 let z:=S a.length
 let t:=w64 (z-1)
 cond ((inR t a.length) || !(!(u==0))) (let a4:=M a t.toNat 0
 cond (cond (u==0) Á (a4 != i)) (cond (L (O a+O [i]<=aK)) (let b3:X Int:=a++[i]
 K (.inl (v,d,b3,c,b))) U) (K (.inl (v,d,a,c,b)))) U) U) (cond (inR d b.length) (let g:=M b d.toNat 0
 let o:=w64 (d+1)
 let q:=S a.length
 let a9:=S a.length
 let k:=w64 (a9-1)
 cond ((inR k a.length) || !(!(q==0))) (let a7:=M a k.toNat 0
 cond (cond (q==0) Á (a7 != g)) (cond (L (O a+O [g]<=aK)) (let x:X Int:=a++[g]
 K (.inl (e,o,x,c,b))) U) (K (.inl (e,o,a,c,b)))) U) U)) U) U) (cond (inR d b.length) (let j:=M b d.toNat 0
 let n:=w64 (d+1)
 let s:=S a.length
 let a8:=S a.length
 let l:=w64 (a8-1)
 cond ((inR l a.length) || !(!(s==0))) (let a3:=M a l.toNat 0
 cond (cond (s==0) Á (a3 != j)) (cond (L (O a+O [j]<=aK)) (let w:X Int:=a++[j]
 K (.inl (e,n,w,c,b))) U) (K (.inl (e,n,a,c,b)))) U) U))) (K (.inr a))
def JV[LP](a:(X J)->N (X J))(b c:J)(d e f:X J):N (X J):=LP.lp (unc5 (j7T a)) (b,c,d,e,f)
theorem h_(a:(X J)->N (X J))(b c:J)(d e f:X J):JV a b c d e f=lpK (j7T a b c d e f) (λh=>JV a h.1 h.2.1 h.2.2.1 h.2.2.2.1 h.2.2.2.2):=iO _ _
def JW[LP](d:(X J)->N (X J))(a:X J):N (X J):=
 let g:=S a.length
 cond (L (g<2)) (cond (L (O ([]:(X J))+O a<=aK)) (let m:X Int:=([]:(X J))++a
 K m) U) (let k:=S a.length
 let c:=w64 (Ç k 2)
 cond (L ((0:J)<=0)&&(L (0<=c)&&L (c<=(S a.length)))) (let i:X Int:=Í 0 (Ë c.toNat a)
 (d i).bind λj=>let f:=S a.length
 let b:=w64 (Ç f 2)
 cond (L (0<=b)&&(L (b<=(S a.length))&&L ((S a.length)<=(S a.length)))) (let e:X Int:=Í b.toNat (Ë a.length a)
 (d e).bind λl=>(JV d 0 0 ([]:(X J)) j l).bind λn=>K n) U) U)
def j6n[LP](b:(X J)->N (X J))(h:X J):N (X J):=JW (λa=>b a) h
def jsZ[LP](a:X J):N (X J):=LP.rp j6n a
def j5K(e f a:J)(g b:X J):N ((J×J×J×(X J)×(X J)) ⊕ (J×J×(X J))):=
 let k:=S b.length
 cond (L (a<k)) (cond (inR a b.length) (let c:=M b a.toNat 0
 cond ((inR a b.length) || !(L (c>e))) (let i:=M b a.toNat 0
 cond (cond (L (c>e)) (L (i<f)) Z) (cond (inR a b.length) (let d:=M b a.toNat 0
 cond (L (O g+O [d]<=aK)) (let m:X Int:=g++[d]
 let j:=w64 (a+1)
 K (.inl (e,f,j,m,b))) U) U) (let l:=w64 (a+1)
 K (.inl (e,f,l,g,b)))) U) U) (K (.inr (e,f,g)))
def Qk[LP]:=gL j5K
theorem i_(a b c d e):Qk a b c d e=lpK (j5K a b c d e) λh=>Qk h.1 h.2.1 h.2.2.1 h.2.2.2.1 h.2.2.2.2:=iO _ _
def jhS[LP](c:X J)(a d:J):N (X J):=(jsZ c).bind λf=>(Qk a d 0 [a] f).bind λb=>cond (L (b.2.1>b.1)) (cond (L (O b.2.2+O [b.2.1]<=aK)) (let e:X Int:=b.2.2++[b.2.1]
 K e) U) (K b.2.2)
def j7U[LP](n o d:J)(q:an)(g:aq)(e:aw)(j:aA)(p:W)(b:aH)(i:ag)(f:X J):N ((J×J×J×an×aq×aw×aA×W×aH×ag×(X J)) ⊕ (J×J×W×aH×ag×(X J))):=
 let m:=S b.length
 cond (L (d<m)) (cond (inR d b.length) (let a:=M b d.toNat (Y,(0,((0,0),(0,(0,(([]:(X J)),(([]:ah),(0,0))))))))
 (jmm (q,(g,(e,j))) a n o).bind λc=>cond (L (O f+O c<=aK)) (let l:X Int:=f++c
 let k:=w64 (d+1)
 K (.inl (n,o,k,q,g,e,j,p,b,i,l))) U) U) (K (.inr (n,o,p,b,i,f)))
def Ql[LP]:=rh j7U
abbrev j_:=tU j7U Ql
def j7V(l m b:J)(n:W)(k:aH)(a:ag)(d:X J):N ((J×J×J×W×aH×ag×(X J)) ⊕ (J×J×(X J))):=
 let i:=S a.length
 cond (L (b<i)) (cond (inR b a.length) (let f:=M a b.toNat (0,(0,(0,(0,0))))
 cond (inR b a.length) (let e:=M a b.toNat (0,(0,(0,(0,0))))
 let c:X Int:=[f.2.2.2.1,e.2.2.2.2]
 cond (L (O d+O c<=aK)) (let g:X Int:=d++c
 let j:=w64 (b+1)
 K (.inl (l,m,j,n,k,a,g))) U) U) U) (K (.inr (l,m,d)))
def Qm[LP]:=rf j7V
abbrev k_:=r7 j7V Qm
def jp1[LP](b:bz)(a c f:J):N (X J):=cond (inR a b.2.2.2.length) (let e:=M b.2.2.2 a.toNat (Y,(([]:aH),([]:ag)))
 (Ql c f 0 b.1 b.2.1 b.2.2.1 b.2.2.2 e.1 e.2.1 e.2.2 ([]:(X J))).bind λd=>(Qm d.1 d.2.1 0 d.2.2.1 d.2.2.2.1 d.2.2.2.2.1 d.2.2.2.2.2).bind λg=>(jhS g.2.2 g.1 g.2.1).bind λi=>K i) U
def jjn[LP](b:dA)(a:eD)(c:J):N (J×J):=(jbb b a).bind λd=>cond (d != 0) (K (0,8)) (cond (cond (L (c<0)) Á (L (c>8589934592))) (K (0,1)) ((jeR b a c).bind λe=>K (e,0)))
def jem[LP](a:dA)(c:J):N (J×J):=(j4Y a c).bind λb=>cond (b.2 != 0) (K (0,b.2)) ((j95 b.1).bind λd=>K (d,0))
def j6o(c:ah)(d b:J):N ((ah×J×J) ⊕ (Æ ⊕ Ê)):=
 let g:=S c.length
 cond (L (b<g)) (cond (inR b c.length) (let a:=M c b.toNat (0,0)
 cond ((inR b c.length) || !(L (d>=a.1))) (let e:=M c b.toNat (0,0)
 cond (cond (L (d>=a.1)) (L (d<e.2)) Z) (K (.inr (.inl Á))) (let f:=w64 (b+1)
 K (.inl (c,d,f)))) U) U) (K (.inr (.inr ())))
def JX[LP]:=re j6o
abbrev l_:=r6 j6o JX
def jka[LP](a:ah)(b:J):N Bool:=(JX a b 0).bind λc=>sumC c (λd=>K d) (λe=>K Z)
def jv0[LP](a:dA)(b:ah)(d:J):N Bool:=(jem a d).bind λc=>cond (c.2==0) ((j8N b).bind λe=>cond (e==0) ((jka b c.1).bind λf=>K f) (K Z)) (K Z)
def j7W(w:J)(u:Æ)(b:J)(v:W)(k c f d g:J)(j:X J)(i:ah)(e l:J)(t:W)(n:J)(a:X J)(o m:J):N ((J×Æ×J×W×J×J×J×J×J×(X J)×ah×J×J×W×J×(X J)×J×J) ⊕ (J×Æ×W×J×J×J×J×J×(X J)×ah×J×J)):=
 let p:=S a.length
 cond (L (b<p)) (cond u (let s:=w64 (b+1)
 K (.inl (w,Á,s,v,k,c,f,d,g,j,i,e,l,t,n,a,o,m))) (cond (inR b a.length) (let q:=M a b.toNat 0
 let r:=w64 (b+1)
 K (.inl (w,(q==o),r,v,k,c,f,d,g,j,i,e,l,t,n,a,o,m))) U)) (K (.inr (w,u,v,k,c,f,d,g,j,i,e,l)))
def Dg[LP]:=AR j7W
abbrev m_:=FV j7W Dg
def jmn[LP](b:bz)(a:eD)(f:J):N (J×Æ):=cond (inR a.2.1 b.1.length) (let d:=M b.1 a.2.1.toNat (Y,(0,([]:bn)))
 (jjn d a f).bind λe=>let m:=S a.2.2.2.2.2.2.1.length
 cond (cond (e.2 != 0) Á (L (e.1<0))) (cond ((!(L (m>0))) || !(!Á)) (K (0,Z)) U) (cond (L (m>0)) ((jv0 d a.2.2.2.2.2.2.1 f).bind λp=>cond (!p) (K (0,Z)) (cond (a.2.2.2.2.2.2.2.2==0) (K (e.1,Á)) (cond (inR a.2.2.2.2.2.2.2.1 b.2.2.1.length) (let i:=M b.2.2.1 a.2.2.2.2.2.2.2.1.toNat (Y,(0,([]:(X J))))
 cond (inR i.2.1 b.1.length) (let l:=M b.1 i.2.1.toNat (Y,(0,([]:bn)))
 (j4Y l f).bind λn=>(Dg e.1 Z 0 a.1 a.2.1 a.2.2.1.1 a.2.2.1.2 a.2.2.2.1 a.2.2.2.2.1 a.2.2.2.2.2.1 a.2.2.2.2.2.2.1 a.2.2.2.2.2.2.2.1 a.2.2.2.2.2.2.2.2 i.1 i.2.1 i.2.2 n.1.1 n.1.2).bind λo=>K (o.1,(o.2.1==(o.2.2.2.2.2.2.2.2.2.2.2==2)))) U) U))) (cond (a.2.2.2.2.2.2.2.2==0) (K (e.1,Á)) (cond (inR a.2.2.2.2.2.2.2.1 b.2.2.1.length) (let c:=M b.2.2.1 a.2.2.2.2.2.2.2.1.toNat (Y,(0,([]:(X J))))
 cond (inR c.2.1 b.1.length) (let g:=M b.1 c.2.1.toNat (Y,(0,([]:bn)))
 (j4Y g f).bind λk=>(Dg e.1 Z 0 a.1 a.2.1 a.2.2.1.1 a.2.2.1.2 a.2.2.2.1 a.2.2.2.2.1 a.2.2.2.2.2.1 a.2.2.2.2.2.2.1 a.2.2.2.2.2.2.2.1 a.2.2.2.2.2.2.2.2 c.1 c.2.1 c.2.2 k.1.1 k.1.2).bind λj=>K (j.1,(j.2.1==(j.2.2.2.2.2.2.2.2.2.2.2==2)))) U) U)))) U
def jpW[LP](b:bz)(a:eD)(f:J):N Int:=(jmn b a f).bind λe=>cond (!e.2) (K (-1)) (let d:=S a.2.2.2.2.2.1.length
 cond (!(d==0)) (let c:=Ã e.1 d
 cond (inR c a.2.2.2.2.2.1.length) (let g:=M a.2.2.2.2.2.1 c.toNat 0
 K g) U) U)
def j7X(i f d:J)(k:W)(g:aH)(b:ag):N ((J×J×J×W×aH×ag) ⊕ (Æ ⊕ Ê)):=
 let e:=S b.length
 cond (L (d<e)) (cond (inR d b.length) (let a:=M b d.toNat (0,(0,(0,(0,0))))
 let j:Bool:=cond (cond (a.1==0) (a.2.1==i) Z) (L (a.2.2.2.1<=f)) Z
 cond (cond j (L (f<a.2.2.2.2)) Z) (K (.inr (.inl Á))) (let c:=w64 (d+1)
 K (.inl (i,f,c,k,g,b)))) U) (K (.inr (.inr ())))
def JY[LP]:=tS j7X
abbrev n_:=uP j7X JY
def jp2[LP](b:kA)(a c:J):N Bool:=(JY a c 0 b.1 b.2.1 b.2.2).bind λd=>sumC d (λe=>K e) (λf=>K Z)
def j8O[LP](j i:J)(n:an)(f:aq)(e:aw)(g:aA)(o:W)(b:aH)(d:ag):N ((J×J×an×aq×aw×aA×W×aH×ag) ⊕ ((J×J) ⊕ Ê)):=cond (L (i>=0)) (cond (inR i b.length) (let a:=M b i.toNat (Y,(0,((0,0),(0,(0,(([]:(X J)),(([]:ah),(0,0))))))))
 (jpW (n,(f,(e,g))) a j).bind λc=>cond (L (c>=0)) ((jp2 (o,(b,d)) c j).bind λl=>cond (!l) (K (.inr (.inl (i,c)))) (let k:=w64 (i-1)
 K (.inl (j,k,n,f,e,g,o,b,d)))) (let m:=w64 (i-1)
 K (.inl (j,m,n,f,e,g,o,b,d)))) U) (K (.inr (.inr ())))
def JZ[LP]:=yy j8O
abbrev o_:=AM j8O JZ
def jt0[LP](b:bz)(a d:J):N (J×J):=cond (inR a b.2.2.2.length) (let c:=M b.2.2.2 a.toNat (Y,(([]:aH),([]:ag)))
 let f:=S c.2.1.length
 let e:=w64 (f-1)
 (JZ d e b.1 b.2.1 b.2.2.1 b.2.2.2 c.1 c.2.1 c.2.2).bind λg=>sumC g (λi=>K i) (λj=>K ((-1),(-1)))) U
def j7Y(c:ag)(e d b:J):N ((ag×J×J×J) ⊕ (J)):=
 let f:=S c.length
 cond (L (b<f)) (cond (inR b c.length) (let a:=M c b.toNat (0,(0,(0,(0,0))))
 cond (cond (L (d<a.2.2.2.1)) Á (L (d>=a.2.2.2.2))) (let j:=w64 (b+1)
 K (.inl (c,e,d,j))) (cond (a.1==1) (let k:=w64 (b+1)
 K (.inl (c,a.2.1,d,k))) (cond (cond (a.1==2) (e==a.2.1) Z) (let g:=w64 (b+1)
 K (.inl (c,a.2.2.1,d,g))) (cond (cond (a.1==2) (e==a.2.2.1) Z) (let i:=w64 (b+1)
 K (.inl (c,a.2.1,d,i))) (let l:=w64 (b+1)
 K (.inl (c,e,d,l))))))) U) (K (.inr e))
def J0[LP]:=kC j7Y
abbrev p_:=lz j7Y J0
def jt1[LP](b:ag)(a c:J):N Int:=(J0 b a c 0).bind λd=>K d
def jpX[LP](b:bz)(a c:J):N Int:=(jt0 b a c).bind λf=>cond (inR a b.2.2.2.length) (let d:=M b.2.2.2 a.toNat (Y,(([]:aH),([]:ag)))
 (jt1 d.2.2 f.2 c).bind λe=>K e) U
def jkc(a:ax)(b:wH):N ax:=cond (L (b.2.1<=b.1)) (K a) (let d:=S a.length
 cond (L (d>0)) (let k:=w64 (d-1)
 cond (inR k a.length) (let n:=(M a k.toNat (0,(0,0))).2.1
 cond (n==b.1) (let l:=w64 (d-1)
 cond (inR l a.length) (let m:=(M a l.toNat (0,(0,0))).2.2
 cond (m==b.2.2) (let f:=w64 (d-1)
 cond (inR f a.length) (let p:ax:=Ä a f.toNat ((M a f.toNat (0,(0,0))).1,(b.2.1,(M a f.toNat (0,(0,0))).2.2))
 K p) U) (let j:ax:=[b]
 cond (L (O a+O j<=aK)) (let o:ax:=a++j
 K o) U)) U) (let c:ax:=[b]
 cond (L (O a+O c<=aK)) (let i:ax:=a++c
 K i) U)) U) (let e:ax:=[b]
 cond (L (O a+O e<=aK)) (let g:ax:=a++e
 K g) U))
def j6p[LP](q a:J)(r:an)(e:aq)(d:aw)(f:aA)(b:X J)(p:ax):N ((J×J×an×aq×aw×aA×(X J)×ax) ⊕ (ax)):=
 let k:=w64 (a+1)
 let j:=S b.length
 cond (L (k<j)) (cond (inR a b.length) (let o:=M b a.toNat 0
 let c:=w64 (a+1)
 cond (inR c b.length) (let m:=M b c.toNat 0
 cond (inR a b.length) (let l:=M b a.toNat 0
 (jpX (r,(e,(d,f))) q l).bind λn=>(jkc p (o,(m,n))).bind λi=>let g:=w64 (a+1)
 K (.inl (q,g,r,e,d,f,b,i))) U) U) U) (K (.inr p))
def Qn[LP]:=r9 j6p
abbrev q_:=tT j6p Qn
def jen[LP](a:bz)(b c d:J):N ax:=(jp1 a b c d).bind λe=>(Qn b 0 a.1 a.2.1 a.2.2.1 a.2.2.2 e ([]:ax)).bind λf=>K f
def j7d[LP](a:bz)(b c d:J):N (ax×J):=(jd7 a b c d).bind λe=>cond (e != 0) (K (([]:ax),e)) ((jen a b c d).bind λf=>let g:=S f.length
 cond (L (g>16384)) (K (([]:ax),5)) (K (f,0)))
def j62(g f:J)(c d:ax)(a b:J)(e:ag):N ((J×J×ax×ax×J×J×ag) ⊕ (ag)):=
 let a9:=S c.length
 let a1:=S d.length
 cond (cond (L (a<a9)) (L (b<a1)) Z) (cond (inR a c.length) (let p:=M c a.toNat (0,(0,0))
 cond (inR b d.length) (let l:=M d b.toNat (0,(0,0))
 let m:Int:=if l.1>p.1 then l.1 else p.1
 cond (inR a c.length) (let k:=M c a.toNat (0,(0,0))
 cond (inR b d.length) (let i:=M d b.toNat (0,(0,0))
 let o:Int:=if i.2.1<k.2.1 then i.2.1 else k.2.1
 cond (L (m<o)) (cond (inR a c.length) (let a3:=M c a.toNat (0,(0,0))
 cond (inR b d.length) (let a6:=M d b.toNat (0,(0,0))
 cond (a3.2.2==a6.2.2) (cond (inR a c.length) (let b1:=M c a.toNat (0,(0,0))
 cond (L (b1.2.2>=0)) (cond (inR a c.length) (let a0:=M c a.toNat (0,(0,0))
 let j:ag:=[(a0.2.2,(g,(f,(m,o))))]
 cond (L (O e+O j<=aK)) (let n:ag:=e++j
 cond (inR a c.length) (let a4:=M c a.toNat (0,(0,0))
 cond (inR b d.length) (let z:=M d b.toNat (0,(0,0))
 cond (L (a4.2.1<=z.2.1)) (let a5:=w64 (a+1)
 K (.inl (g,f,c,d,a5,b,n))) (let b0:=w64 (b+1)
 K (.inl (g,f,c,d,a,b0,n)))) U) U) U) U) (cond (inR a c.length) (let a2:=M c a.toNat (0,(0,0))
 cond (inR b d.length) (let y:=M d b.toNat (0,(0,0))
 cond (L (a2.2.1<=y.2.1)) (let a7:=w64 (a+1)
 K (.inl (g,f,c,d,a7,b,e))) (let a8:=w64 (b+1)
 K (.inl (g,f,c,d,a,a8,e)))) U) U)) U) (cond (inR a c.length) (let s:=M c a.toNat (0,(0,0))
 cond (inR b d.length) (let t:=M d b.toNat (0,(0,0))
 cond (L (s.2.1<=t.2.1)) (let w:=w64 (a+1)
 K (.inl (g,f,c,d,w,b,e))) (let q:=w64 (b+1)
 K (.inl (g,f,c,d,a,q,e)))) U) U)) U) U) (cond (inR a c.length) (let r:=M c a.toNat (0,(0,0))
 cond (inR b d.length) (let x:=M d b.toNat (0,(0,0))
 cond (L (r.2.1<=x.2.1)) (let v:=w64 (a+1)
 K (.inl (g,f,c,d,v,b,e))) (let u:=w64 (b+1)
 K (.inl (g,f,c,d,a,u,e)))) U) U)) U) U) U) U) (K (.inr e))
def AX[LP]:=rf j62
abbrev Qo:=r7 j62 AX
def jmp[LP](d b:J)(c a:ax):N ag:=(AX d b c a 0 0 ([]:ag)).bind λe=>K e
def jhf(b a:mN):N Bool:=cond (b.2.2.2.1 != a.2.2.2.1) (K (L (b.2.2.2.1<a.2.2.2.1))) (cond (b.2.1 != a.2.1) (K (L (b.2.1<a.2.1))) (K (L (b.2.2.1<a.2.2.1))))
def j6q(a3:ag->N (ag))(i j:ag)(k g:J)(l:ag):N ((ag×ag×J×J×ag) ⊕ (ag)):=
 let a2:=S i.length
 let s:=S j.length
 cond (cond (L (k<a2)) Á (L (g<s))) (let x:=S j.length
 cond (g==x) (cond (inR k i.length) (let f:=M i k.toNat (0,(0,(0,(0,0))))
 let m:ag:=[f]
 cond (L (O l+O m<=aK)) (let v:ag:=l++m
 let w:=w64 (k+1)
 K (.inl (i,j,w,g,v))) U) U) (let z:=S i.length
 cond (L (k<z)) (cond (inR g j.length) (let d:=M j g.toNat (0,(0,(0,(0,0))))
 cond (inR k i.length) (let e:=M i k.toNat (0,(0,(0,(0,0))))
 (jhf d e).bind λa1=>cond (!a1) (cond (inR k i.length) (let a:=M i k.toNat (0,(0,(0,(0,0))))
 let o:ag:=[a]
 cond (L (O l+O o<=aK)) (let y:ag:=l++o
 let t:=w64 (k+1)
 K (.inl (i,j,t,g,y))) U) U) (cond (inR g j.length) (let c:=M j g.toNat (0,(0,(0,(0,0))))
 let p:ag:=[c]
 cond (L (O l+O p<=aK)) (let q:ag:=l++p
 let u:=w64 (g+1)
 K (.inl (i,j,k,u,q))) U) U)) U) U) (cond (inR g j.length) (let b:=M j g.toNat (0,(0,(0,(0,0))))
 let n:ag:=[b]
 cond (L (O l+O n<=aK)) (let a0:ag:=l++n
 let r:=w64 (g+1)
 K (.inl (i,j,k,r,a0))) U) U))) (K (.inr l))
def J1[LP](a:ag->N (ag))(d e:ag)(b c:J)(f:ag):N ag:=LP.lp (unc5 (j6q a)) (d,e,b,c,f)
theorem r_(a d e b c f):J1 a d e b c f=lpK (j6q a d e b c f) (λh=>J1 a h.1 h.2.1 h.2.2.1 h.2.2.2.1 h.2.2.2.2):=iO _ _
def J2[LP](d:ag->N (ag))(a:ag):N ag:=
 let l:=S a.length
 cond (L (l<2)) (K a) (let j:=S a.length
 let b:=w64 (Ç j 2)
 cond (L ((0:J)<=0)&&(L (0<=b)&&L (b<=(S a.length)))) (let f:ag:=Í 0 (Ë b.toNat a)
 (d f).bind λi=>let k:=S a.length
 let c:=w64 (Ç k 2)
 cond (L (0<=c)&&(L (c<=(S a.length))&&L ((S a.length)<=(S a.length)))) (let g:ag:=Í c.toNat (Ë a.length a)
 (d g).bind λe=>(J1 d i e 0 0 ([]:ag)).bind λm=>K m) U) U)
def j4i[LP](b:ag->N (ag))(h:ag):N ag:=J2 (λa=>b a) h
def jny[LP](a:ag):N ag:=LP.rp j4i a
def j5L[LP](l k i:J)(m:an)(d:aq)(c:aw)(b:aA)(j:fk):N ((J×J×J×an×aq×aw×aA×fk) ⊕ (J ⊕ fk)):=
 let f:=S b.length
 cond (L (i<f)) ((j7d (m,(d,(c,b))) i l k).bind λa=>cond (a.2 != 0) (K (.inr (.inl a.2))) (cond (L (O j+O [a.1]<=aK)) (let e:fk:=j++[a.1]
 let g:=w64 (i+1)
 K (.inl (l,k,g,m,d,c,b,e))) U)) (K (.inr (.inr j)))
def Dh[LP]:=r9 j5L
abbrev s_:=tT j5L Dh
def j5M[LP](b a:J)(c:fk)(e:ag):N ((J×J×fk×ag) ⊕ (J×fk×ag)):=
 let j:=S c.length
 cond (L (a<j)) (cond (inR b c.length) (let k:=M c b.toNat ([]:ax)
 cond (inR a c.length) (let f:=M c a.toNat ([]:ax)
 (jmp b a k f).bind λd=>cond (L (O e+O d<=aK)) (let i:ag:=e++d
 let g:=w64 (a+1)
 K (.inl (b,g,c,i))) U) U) U) (K (.inr (b,c,e)))
def J3[LP]:=kC j5M
abbrev t_:=lz j5M J3
def j5N[LP](b:J)(g:fk)(f:ag):N ((J×fk×ag) ⊕ (ag)):=
 let e:=S g.length
 cond (L (b<e)) (let c:=w64 (b+1)
 (J3 b c g f).bind λa=>let d:=w64 (a.1+1)
 K (.inl (d,a.2.1,a.2.2))) (K (.inr f))
def J4[LP]:=re j5N
abbrev u_:=r6 j5N J4
def jam[LP](a:bz)(b c:J):N (ag×J):=(j9N a).bind λd=>cond (d != 0) (K (([]:ag),8)) ((j6Y b c).bind λe=>cond (!e) (K (([]:ag),1)) ((Dh b c 0 a.1 a.2.1 a.2.2.1 a.2.2.2 ([]:fk)).bind λj=>sumC j (λl=>K (([]:ag),l)) (λk=>(J4 0 k ([]:ag)).bind λf=>let g:=S f.length
 cond (L (g>16384)) (K (([]:ag),5)) ((jny f).bind λi=>K (i,0)))))
def j73(m a:J)(b:ax)(c:ah):N ((J×J×ax×ah) ⊕ (ah)):=
 let i:=S b.length
 cond (L (a<i)) (cond (inR a b.length) (let g:=(M b a.toNat (0,(0,0))).2.2
 cond (g==m) (cond (inR a b.length) (let j:=(M b a.toNat (0,(0,0))).1
 cond (inR a b.length) (let f:=(M b a.toNat (0,(0,0))).2.1
 let d:ah:=[(j,f)]
 cond (L (O c+O d<=aK)) (let e:ah:=c++d
 let k:=w64 (a+1)
 K (.inl (m,k,b,e))) U) U) U) (let l:=w64 (a+1)
 K (.inl (m,l,b,c)))) U) (K (.inr c))
def J5[LP]:=kC j73
abbrev v_:=lz j73 J5
def jjp[LP](b:bz)(a c d f:J):N (ah×J):=(j7d b a d f).bind λe=>cond (e.2 != 0) (K (([]:ah),e.2)) ((J5 c 0 e.1 ([]:ah)).bind λg=>let i:=S g.length
 cond (L (i>4096)) (K (([]:ah),5)) (K (g,0)))
def jkd[LP](b:bz)(a c d:J):N (ah×J):=(jjp b a (-1) c d).bind λe=>K e
def jhW[LP](b:bz)(a c d:J):N Bool:=(jkd b a c d).bind λe=>let f:=S e.1.length
 K (cond (e.2==0) (f==0) Z)
def jle[LP](a:dA):N Int:=(j0a a).bind λb=>let f:=S b.1.length
 cond (cond (b.2 != 0) Á (f==0)) (K 0) (let e:=S b.1.length
 let c:=w64 (e-1)
 cond (inR c b.1.length) (let d:=(M b.1 c.toNat (0,0)).1
 K d) U)
def jfZ[LP](a:dA):N Int:=(j0a a).bind λc=>let d:=S c.1.length
 cond (cond (c.2 != 0) Á (d==0)) (K 0) ((jle a).bind λe=>let b:=w64 (e+86400)
 K b)
def jg0[LP](b:dA)(a:eD)(c:J):N (J×J):=(jbb b a).bind λe=>cond (e != 0) (K (0,8)) (cond (L (c<0)) (K (0,1)) (cond (L (c>2386092)) (K (0,10)) ((j6l b a c).bind λd=>cond (!d.2) (K (0,10)) (K (d.1,0)))))
def j46[LP](c1 p:J)(d:an)(j:aq)(b:aw)(i:aA)(w:W)(c:aH)(f:ag):N ((J×J×an×aq×aw×aA×W×aH×ag) ⊕ (J×W×aH×ag)):=
 let b9:=S c.length
 cond (L (p<b9)) (cond (inR p c.length) (let a:=M c p.toNat (Y,(0,((0,0),(0,(0,(([]:(X J)),(([]:ah),(0,0))))))))
 cond (inR a.2.1 d.length) (let s:=M d a.2.1.toNat (Y,(0,([]:bn)))
 (jfZ s).bind λa1=>let k:Int:=if a1>c1 then a1 else c1
 cond (inR a.2.1 d.length) (let t:=M d a.2.1.toNat (Y,(0,([]:bn)))
 (jg0 t a 0).bind λy=>cond (y.2==0) (let u:Int:=if y.1>k then y.1 else k
 cond (a.2.2.2.2.2.2.2.2==0) (let b8:=w64 (p+1)
 K (.inl (u,b8,d,j,b,i,w,c,f))) (cond (inR a.2.2.2.2.2.2.2.1 b.length) (let e:=M b a.2.2.2.2.2.2.2.1.toNat (Y,(0,([]:(X J))))
 cond (inR e.2.1 d.length) (let x:=M d e.2.1.toNat (Y,(0,([]:bn)))
 (jfZ x).bind λa2=>let l:Int:=if a2>u then a2 else u
 let a5:=S e.2.2.length
 cond (L (a5>0)) (cond (inR e.2.1 d.length) (let q:=M d e.2.1.toNat (Y,(0,([]:bn)))
 let z:=w64 (a5-1)
 cond (inR z e.2.2.length) (let b0:=M e.2.2 z.toNat 0
 let b7:=w64 (b0+1)
 (j4A q (b7,0)).bind λo=>cond (o.2==0) (let a6:Int:=if o.1>l then o.1 else l
 let c0:=w64 (p+1)
 K (.inl (a6,c0,d,j,b,i,w,c,f))) (let a9:=w64 (p+1)
 K (.inl (l,a9,d,j,b,i,w,c,f)))) U) U) (let a7:=w64 (p+1)
 K (.inl (l,a7,d,j,b,i,w,c,f)))) U) U)) (cond (a.2.2.2.2.2.2.2.2==0) (let b1:=w64 (p+1)
 K (.inl (k,b1,d,j,b,i,w,c,f))) (cond (inR a.2.2.2.2.2.2.2.1 b.length) (let g:=M b a.2.2.2.2.2.2.2.1.toNat (Y,(0,([]:(X J))))
 cond (inR g.2.1 d.length) (let v:=M d g.2.1.toNat (Y,(0,([]:bn)))
 (jfZ v).bind λa3=>let m:Int:=if a3>k then a3 else k
 let a4:=S g.2.2.length
 cond (L (a4>0)) (cond (inR g.2.1 d.length) (let r:=M d g.2.1.toNat (Y,(0,([]:bn)))
 let a0:=w64 (a4-1)
 cond (inR a0 g.2.2.length) (let b2:=M g.2.2 a0.toNat 0
 let b4:=w64 (b2+1)
 (j4A r (b4,0)).bind λn=>cond (n.2==0) (let a8:Int:=if n.1>m then n.1 else m
 let b5:=w64 (p+1)
 K (.inl (a8,b5,d,j,b,i,w,c,f))) (let b6:=w64 (p+1)
 K (.inl (m,b6,d,j,b,i,w,c,f)))) U) U) (let b3:=w64 (p+1)
 K (.inl (m,b3,d,j,b,i,w,c,f)))) U) U))) U) U) U) (K (.inr (c1,w,c,f)))
def J6[LP]:=yy j46
abbrev w_:=AM j46 J6
def j5O(g c:J)(j:W)(i:aH)(a:ag):N ((J×J×W×aH×ag) ⊕ (J)):=
 let e:=S a.length
 cond (L (c<e)) (cond (inR c a.length) (let b:=M a c.toNat (0,(0,(0,(0,0))))
 let d:Int:=if b.2.2.2.2>g then b.2.2.2.2 else g
 let f:=w64 (c+1)
 K (.inl (d,f,j,i,a))) U) (K (.inr g))
def J7[LP]:=gL j5O
abbrev x_:=ir j5O J7
def j6z[LP](b:bz)(a:J):N Int:=(j9N b).bind λe=>let g:=S b.2.2.2.length
 let f:Bool:=cond (cond (e != 0) Á (L (a<0))) Á (L (a>=g))
 cond f (K 0) (cond (inR a b.2.2.2.length) (let c:=M b.2.2.2 a.toNat (Y,(([]:aH),([]:ag)))
 (J6 0 0 b.1 b.2.1 b.2.2.1 b.2.2.2 c.1 c.2.1 c.2.2).bind λd=>(J7 d.1 0 d.2.1 d.2.2.1 d.2.2.2).bind λi=>K i) U)
def j5P(m k l a:J)(n:an)(d:aq)(c:aw)(e:aA)(b:ax):N ((J×J×J×J×an×aq×aw×aA×ax) ⊕ ((J×Æ×J) ⊕ (J×J×J×an×aq×aw×aA))):=
 let f:=S b.length
 cond (L (a<f)) (cond (inR a b.length) (let j:=(M b a.toNat (0,(0,0))).2.2
 cond (j==(-1)) (cond (inR a b.length) (let g:=(M b a.toNat (0,(0,0))).1
 K (.inr (.inl (g,Z,0)))) U) (let i:=w64 (a+1)
 K (.inl (m,k,l,i,n,d,c,e,b)))) U) (K (.inr (.inr (m,k,l,n,d,c,e))))
def Di[LP]:=yy j5P
abbrev y_:=AM j5P Di
def j47[LP](m k c:J)(n:an)(f:aq)(e:aw)(g:aA):N ((J×J×J×an×aq×aw×aA) ⊕ ((J×Æ×J) ⊕ Ê)):=cond (L (k<c)) (let b:=w64 (k+34560000)
 let d:Int:=if b<c then b else c
 (jen (n,(f,(e,g))) m k d).bind λj=>(Di m c d 0 n f e g j).bind λl=>sumC l (λi=>K (.inr (.inl i))) (λa=>K (.inl (a.1,a.2.2.1,a.2.1,a.2.2.2.1,a.2.2.2.2.1,a.2.2.2.2.2.1,a.2.2.2.2.2.2)))) (K (.inr (.inr ())))
def J8[LP]:=rf j47
abbrev Qp:=r7 j47 J8
def jeU[LP](a:bz)(b c:J):N (J×Æ×J):=(jd7 a b c c).bind λf=>cond (f != 0) (K (0,Z,f)) ((j6z a b).bind λd=>let g:Int:=if d>c then d else c
 let e:=w64 (g+604800)
 let i:Int:=if e<8589934592 then e else 8589934592
 (J8 b c i a.1 a.2.1 a.2.2.1 a.2.2.2).bind λk=>sumC k (λj=>K j) (λl=>K (0,Á,0)))
def j2i(w v x y s:J)(j:ag)(o:dV)(p:J)(t:X (X J))(n u c:J)(q:an)(d:aq)(g:aw)(f:aA)(r m:X J)(e:J)(i:ag):N ((J×J×J×J×J×ag×dV×J×(X (X J))×J×J×J×an×aq×aw×aA×(X J)×(X J)×J×ag) ⊕ (Æ ⊕ (J×J×J×J×J×dV×J×(X (X J))×J×an×aq×aw×aA×(X J)×(X J)×J))):=cond (L (c<u)) (cond (inR c i.length) (let b:=M i c.toNat (0,(0,(0,(0,0))))
 cond (inR c j.length) (let a:=M j c.toNat (0,(0,(0,(0,0))))
 let l:Bool:= !((b.1==a.1)&&((b.2.1==a.2.1)&&((b.2.2.1==a.2.2.1)&&((b.2.2.2.1==a.2.2.2.1)&&(b.2.2.2.2==a.2.2.2.2)))))
 cond l (K (.inr (.inl Z))) (let k:=w64 (c+1)
 K (.inl (w,v,x,y,s,j,o,p,t,n,u,k,q,d,g,f,r,m,e,i)))) U) U) (K (.inr (.inr (w,v,x,y,s,o,p,t,n,q,d,g,f,r,m,e))))
def Qq[LP]:=AS j2i
abbrev z_:=FW j2i Qq
def j2j(x w y z u:J)(q:dV)(r:J)(v:X (X J))(o:J)(l:X J)(i m a:J)(s:an)(d:aq)(g:aw)(f:aA)(t p:X J)(e:J)(n j:ah):N ((J×J×J×J×J×dV×J×(X (X J))×J×(X J)×J×J×J×an×aq×aw×aA×(X J)×(X J)×J×ah×ah) ⊕ (Æ ⊕ (J×J×J×J×J×dV×J×(X (X J))×J×(X J)×J×an×aq×aw×aA×(X J)×(X J)×J))):=cond (L (a<m)) (cond (inR a n.length) (let c:=M n a.toNat (0,0)
 cond (inR a j.length) (let b:=M j a.toNat (0,0)
 cond (!((c.1==b.1)&&(c.2==b.2))) (K (.inr (.inl Z))) (let k:=w64 (a+1)
 K (.inl (x,w,y,z,u,q,r,v,o,l,i,m,k,s,d,g,f,t,p,e,n,j)))) U) U) (K (.inr (.inr (x,w,y,z,u,q,r,v,o,l,i,s,d,g,f,t,p,e))))
def Qr[LP]:=AU j2j
abbrev A_:=FX j2j Qr
def j2k[LP](b1 b0 b2 b3 a7:J)(a5:dV)(a6:J)(a8:X (X J))(a3:J)(r:X J)(k:J)(i:an)(b:aq)(d:aw)(c:aA)(g a4:X J)(l:J):N ((J×J×J×J×J×dV×J×(X (X J))×J×(X J)×J×an×aq×aw×aA×(X J)×(X J)×J) ⊕ (Æ ⊕ (J×J×J×J×J×dV×J×(X (X J))×J×an×aq×aw×aA×(X J)×J))):=cond (L (k<2)) (cond (inR k 2) (let e:=M r k.toNat 0
 let m:=M g 0 0
 let p:=M g 1 0
 (j7r (i,(b,(d,c))) e m p).bind λf=>let s:=M g 0 0
 let q:=M g 1 0
 (jkd (i,(b,(d,c))) e s q).bind λj=>let v:=S f.1.length
 let z:=S j.1.length
 cond (v != z) (K (.inr (.inl Z))) (cond (f.2 != j.2) (K (.inr (.inl Z))) (let a2:=M g 0 0
 let x:=M g 1 0
 (j7M (i,(b,(d,c))) e a2 x).bind λy=>let o:=M g 0 0
 let a1:=M g 1 0
 (jhW (i,(b,(d,c))) e o a1).bind λt=>cond (!(y==t)) (K (.inr (.inl Z))) ((j3M (i,(b,(d,c))) e).bind λw=>(j6z (i,(b,(d,c))) e).bind λn=>cond (w != n) (K (.inr (.inl Z))) (let a0:=S f.1.length
 (Qr b1 b0 b2 b3 a7 a5 a6 a8 a3 r k a0 0 i b d c g a4 l f.1 j.1).bind λa9=>sumC a9 (λb4=>K (.inr (.inl b4))) (λa=>let u:=w64 (a.2.2.2.2.2.2.2.2.2.2.1+1)
 K (.inl (a.1,a.2.1,a.2.2.1,a.2.2.2.1,a.2.2.2.2.1,a.2.2.2.2.2.1,a.2.2.2.2.2.2.1,a.2.2.2.2.2.2.2.1,a.2.2.2.2.2.2.2.2.1,a.2.2.2.2.2.2.2.2.2.1,u,a.2.2.2.2.2.2.2.2.2.2.2.1,a.2.2.2.2.2.2.2.2.2.2.2.2.1,a.2.2.2.2.2.2.2.2.2.2.2.2.2.1,a.2.2.2.2.2.2.2.2.2.2.2.2.2.2.1,a.2.2.2.2.2.2.2.2.2.2.2.2.2.2.2.1,a.2.2.2.2.2.2.2.2.2.2.2.2.2.2.2.2.1,a.2.2.2.2.2.2.2.2.2.2.2.2.2.2.2.2.2)))))))) U) (K (.inr (.inr (b1,b0,b2,b3,a7,a5,a6,a8,a3,i,b,d,c,a4,l))))
def Qs[LP]:=AR j2k
abbrev B_:=FV j2k Qs
def j2l[LP](a4 a3 a6 a7 z:J)(x:dV)(y:J)(a0:X (X J))(k:J)(l:an)(e:aq)(g:aw)(f:aA)(w:X J)(m:J):N ((J×J×J×J×J×dV×J×(X (X J))×J×an×aq×aw×aA×(X J)×J) ⊕ (Æ ⊕ (J×J×J×J×J×dV×J×an×aq×aw×aA×(X J)×J))):=cond (L (k<2)) (cond (inR k 2) (let c:=M a0 k.toNat (Å 2 0)
 let a9:X Int:=Å 2 0
 let p:=M c 0 0
 let t:=M c 1 0
 (j4X (l,(e,(g,f))) p t).bind λd=>let s:=M c 0 0
 let q:=M c 1 0
 (jam (l,(e,(g,f))) s q).bind λj=>let r:=S d.1.length
 let v:=S j.1.length
 cond (cond (r != v) Á (d.2 != j.2)) (K (.inr (.inl Z))) (let u:=S d.1.length
 (Qq a4 a3 a6 a7 z j.1 x y a0 k u 0 l e g f c w m d.1).bind λa1=>sumC a1 (λa5=>K (.inr (.inl a5))) (λa=>(j04 a.2.2.2.2.2.2.2.2.2.2.2.2.2.2.1 a.2.2.2.2.2.2.2.2.2.2.2.2.2.2.2 4).bind λi=>let o:X Int:=[i.1,a.2.2.2.1]
 (Qs a.1 a.2.1 a.2.2.1 a.2.2.2.1 a.2.2.2.2.1 a.2.2.2.2.2.1 a.2.2.2.2.2.2.1 a.2.2.2.2.2.2.2.1 a.2.2.2.2.2.2.2.2.1 o 0 a.2.2.2.2.2.2.2.2.2.1 a.2.2.2.2.2.2.2.2.2.2.1 a.2.2.2.2.2.2.2.2.2.2.2.1 a.2.2.2.2.2.2.2.2.2.2.2.2.1 a.2.2.2.2.2.2.2.2.2.2.2.2.2.1 i.2.1 i.2.2).bind λa2=>sumC a2 (λa8=>K (.inr (.inl a8))) (λb=>let n:=w64 (b.2.2.2.2.2.2.2.2.1+1)
 K (.inl (b.1,b.2.1,b.2.2.1,b.2.2.2.1,b.2.2.2.2.1,b.2.2.2.2.2.1,b.2.2.2.2.2.2.1,b.2.2.2.2.2.2.2.1,n,b.2.2.2.2.2.2.2.2.2.1,b.2.2.2.2.2.2.2.2.2.2.1,b.2.2.2.2.2.2.2.2.2.2.2.1,b.2.2.2.2.2.2.2.2.2.2.2.2.1,b.2.2.2.2.2.2.2.2.2.2.2.2.2.1,b.2.2.2.2.2.2.2.2.2.2.2.2.2.2)))))) U) (K (.inr (.inr (a4,a3,a6,a7,z,x,y,l,e,g,f,w,m))))
def Qt[LP]:=wM j2l
abbrev C_:=AP j2l Qt
def j24[LP](v u w x:J)(q:dV)(r:J)(l:X J)(f:J)(k:an)(b:aq)(e:aw)(d:aA)(t:X J)(m:J):N ((J×J×J×J×dV×J×(X J)×J×an×aq×aw×aA×(X J)×J) ⊕ (Æ ⊕ (J×J×J×J×dV×J×(X J)×J))):=cond (L (f<2)) (cond (inR f 2) (let c:=M l f.toNat 0
 (j04 t m 4).bind λa=>(j6z (k,(b,(e,d))) a.1).bind λj=>let o:=w64 (j-c)
 cond (cond (L (j>c)) (L (o>103680000)) Z) (let s:=w64 (f+1)
 K (.inl (v,u,w,x,q,r,l,s,k,b,e,d,a.2.1,a.2.2))) ((j4W (k,(b,(e,d))) a.1 c).bind λi=>(jeU (k,(b,(e,d))) a.1 c).bind λg=>let n:Bool:=cond (cond (i.1 != g.1) Á (!(i.2.1==g.2.1))) Á (i.2.2 != g.2.2)
 cond n (K (.inr (.inl Z))) (let p:=w64 (f+1)
 K (.inl (v,u,w,x,q,r,l,p,k,b,e,d,a.2.1,a.2.2))))) U) (K (.inr (.inr (v,u,w,x,q,r,t,m))))
def Qu[LP]:=ph j24
abbrev D_:=ri j24 Qu
def j2m[LP](u p r v:J)(n:dV)(e:J)(q:X J)(k:J):N ((J×J×J×J×dV×J×(X J)×J) ⊕ (Æ ⊕ Ê)):=cond (L (e<2)) (cond (inR e 2) (let d:=M n e.toNat (([]:an),(([]:aq),(([]:aw),([]:aA))))
 (j6V q k).bind λb=>let i:=w64 (b.1+518400)
 let j:X Int:=[b.1,i]
 let m:(X (X J)):=[j,[p,r]]
 (Qt u p r v b.1 n e m 0 d.1 d.2.1 d.2.2.1 d.2.2.2 b.2.1 b.2.2).bind λo=>sumC o (λs=>K (.inr (.inl s))) (λa=>let g:X Int:=[a.1,a.2.2.2.2.1]
 (Qu a.1 a.2.1 a.2.2.1 a.2.2.2.1 a.2.2.2.2.2.1 a.2.2.2.2.2.2.1 g 0 a.2.2.2.2.2.2.2.1 a.2.2.2.2.2.2.2.2.1 a.2.2.2.2.2.2.2.2.2.1 a.2.2.2.2.2.2.2.2.2.2.1 a.2.2.2.2.2.2.2.2.2.2.2.1 a.2.2.2.2.2.2.2.2.2.2.2.2).bind λl=>sumC l (λt=>K (.inr (.inl t))) (λc=>let f:=w64 (c.2.2.2.2.2.1+1)
 K (.inl (c.1,c.2.1,c.2.2.1,c.2.2.2.1,c.2.2.2.2.1,f,c.2.2.2.2.2.2.1,c.2.2.2.2.2.2.2))))) U) (K (.inr (.inr ())))
def Qv[LP]:=r9 j2m
abbrev E_:=tT j2m Qv
def jan[LP](e:X J)(j d f b:J):N Bool:=(jnr e).bind λm=>cond (!m) ((jk6).bind λl=>K l) ((jpU e).bind λg=>(ja9 g.1 g.2 3).bind λa=>(j94 a.2.1 a.2.2 a.1).bind λc=>let k:dV:=[a.1,c.1]
 (Qv j d f b k 0 c.2.1 c.2.2).bind λn=>sumC n (λo=>K o) (λp=>(jk6).bind λi=>K i))
end
end Go.Proofs.Pw
