/- Plain functions, printed by a program out of the given code. -/
import Derived.Test.YtllkgjaoejhneaaGreatDELS
open ByteArray renaming empty->J,mk->À,size->Ä,toList->É
open _root_ renaming Int->K,List->O,Option->S,ByteArray->U,Bool->Å,Unit->Æ
open List renaming getD->L,length->X,set->Á,replicate->Ç,take->Ê,drop->Ë
open Option renaming some->M,none->Y
open Decidable renaming decide->N
open Int renaming ofNat->W,tmod->Ã,tdiv->È,fdiv->Í
open Bool renaming false->Z,true->Â
open Go Go.Lft
set_option linter.unusedVariables false
namespace Go.Proofs.Pw
noncomputable section
abbrev Tn2:Type:=(O (K×K))
abbrev Tn3:Type:=(K×(K×K))
abbrev Tn15:Type:=(O Tn3)
abbrev Tn14:Type:=(K×Tn2)
abbrev Tn20:Type:=(U×(K×(O K)))
abbrev Tn21:Type:=(O Tn14)
abbrev Tn25:Type:=(K×(K×Tn3))
abbrev Tn27:Type:=(O Tn20)
abbrev Tn30:Type:=(O Tn25)
abbrev Tn39:Type:=(K×(K×Tn25))
abbrev Tn44:Type:=(O Tn39)
abbrev Tn46:Type:=(U×(K×(Tn2×(K×(K×Å)))))
abbrev Tn50:Type:=(O Tn46)
abbrev Tn54:Type:=(U×(K×Tn44))
abbrev Tn56:Type:=(O Tn54)
abbrev Tn61:Type:=(U×(K×((K×K)×(K×(K×((O K)×(Tn2×(K×K))))))))
abbrev Tn62:Type:=(O Tn61)
abbrev Tn66:Type:=(U×(Tn62×Tn30))
abbrev Tn67:Type:=(O Tn66)
abbrev Tn73:Type:=(Tn56×(Tn50×(Tn27×Tn67)))
abbrev Tn74:Type:=(O Tn73)
abbrev Tn76:Type:=(Tn73×Tn21)
abbrev u8 {A B C D E F G H T I R:Type} (u:T→I→R) (f:A→B→C→D→E→F→G→H→T) (h:A×B×C×D×E×F×G×H×I):R:=u (f h.1 h.2.1 h.2.2.1 h.2.2.2.1 h.2.2.2.2.1 h.2.2.2.2.2.1 h.2.2.2.2.2.2.1 h.2.2.2.2.2.2.2.1) h.2.2.2.2.2.2.2.2
abbrev unc2 {A0 A1 R:Type} (f:A0→A1→R) (h:A0×A1):R:=f h.1 h.2
abbrev unc3 {A0 A1 A2 R:Type} (f:A0→A1→A2→R) (h:A0×A1×A2):R:=f h.1 h.2.1 h.2.2
abbrev unc4 {A0 A1 A2 A3 R:Type} (f:A0→A1→A2→A3→R) (h:A0×A1×A2×A3):R:=f h.1 h.2.1 h.2.2.1 h.2.2.2
abbrev unc5 {A0 A1 A2 A3 A4 R:Type} (f:A0→A1→A2→A3→A4→R) (h:A0×A1×A2×A3×A4):R:=f h.1 h.2.1 h.2.2.1 h.2.2.2.1 h.2.2.2.2
abbrev unc6 {A0 A1 A2 A3 A4 A5 R:Type} (f:A0→A1→A2→A3→A4→A5→R) (h:A0×A1×A2×A3×A4×A5):R:=f h.1 h.2.1 h.2.2.1 h.2.2.2.1 h.2.2.2.2.1 h.2.2.2.2.2
abbrev unc7 {A0 A1 A2 A3 A4 A5 A6 R:Type} (f:A0→A1→A2→A3→A4→A5→A6→R) (h:A0×A1×A2×A3×A4×A5×A6):R:=f h.1 h.2.1 h.2.2.1 h.2.2.2.1 h.2.2.2.2.1 h.2.2.2.2.2.1 h.2.2.2.2.2.2
abbrev unc8 {A0 A1 A2 A3 A4 A5 A6 A7 R:Type} (f:A0→A1→A2→A3→A4→A5→A6→A7→R) (h:A0×A1×A2×A3×A4×A5×A6×A7):R:=f h.1 h.2.1 h.2.2.1 h.2.2.2.1 h.2.2.2.2.1 h.2.2.2.2.2.1 h.2.2.2.2.2.2.1 h.2.2.2.2.2.2.2
abbrev unc9 {A0 A1 A2 A3 A4 A5 A6 A7 A8 R:Type} (f:A0→A1→A2→A3→A4→A5→A6→A7→A8→R) (h:A0×A1×A2×A3×A4×A5×A6×A7×A8):R:=f h.1 h.2.1 h.2.2.1 h.2.2.2.1 h.2.2.2.2.1 h.2.2.2.2.2.1 h.2.2.2.2.2.2.1 h.2.2.2.2.2.2.2.1 h.2.2.2.2.2.2.2.2
def jhS (a:O K):S Bool:=
 let b:=W a.length
 M (N (b≤500))
def jjW  : S (Tn73×Tn61):=
 let d:Tn56:=[((À #[122]),(0,([]:Tn44)))]
 let c:Tn50:=[((À #[97]),(0,(([]:Tn2),(0,(0,Z))))),((À #[98]),(0,(([]:Tn2),(0,(0,Z)))))]
 let a:O Int:=[0,1]
 let b:Tn2:=[(32400,61200)]
 M ((d,(c,(([]:Tn27),([]:Tn67)))),((À #[108]),(0,((4,0),(2,(1,(a,(b,(0,0)))))))))
def j6U (a:Tn54):S ByteArray:=M a.1
def jao (a:K):S Bool:=M (cond (N (a≥97)) (N (a≤122)) Z)
def jfV (a:K):S Bool:=M (cond (N (a≥48)) (N (a≤57)) Z)
def j49 (e:U) (c b:K):S ((U×K×K) ⊕ (Å ⊕ Æ)):=cond (N (b<c)) (cond (inR b (Ä e)) (let a:=j3J e b
 (jao a).bind fun i=>cond (!i) ((jfV a).bind fun d=>cond (cond (cond (!d) (a != 95) Z) (a != 45) Z) (M (.inr (.inl Z))) (let g:=w64 (b+1)
 M (.inl (e,c,g)))) (let f:=w64 (b+1)
 M (.inl (e,c,f)))) Y) (M (.inr (.inr ())))
def j9Q [LP] (c:U) (a b:K):S (Å ⊕ Æ):=LP.lp (unc3 j49) (c,a,b)
theorem jdV (c a b):j9Q c a b=lpK (j49 c a b) (fun h=>j9Q h.1 h.2.1 h.2.2):=j03 _ _
def jcy [LP] (a:U):S Bool:=
 let g:=W (Ä a)
 let b:Bool:=cond (É a==É J) Â (N (g>24))
 cond ((inR 0 (Ä a)) || !(!b)) (let e:=j3J a 0
 cond b (M Z) ((jao e).bind fun c=>cond (!c) (M Z) (let d:=W (Ä a)
 (j9Q a d 0).bind fun f=>sumC f (fun i=>M i) (fun j=>M Â)))) Y
def j3H [LP] (b:U) (a:O (U×Å)):S (K×(O (U×Å))):=(jcy b).bind fun c=>cond (!c) (M (2,a)) (cond (jam Z a b) (M (4,a)) (let d:(O (U×Å)):=j6J a b Â
 M (0,d)))
def j6u (a b c:K):S Bool:=M (cond (N (a≥b)) (N (a≤c)) Z)
def j93 (a:Tn39):S Int:=(j6u a.1 1970 2240).bind fun i=>cond (!i) (M 1) ((j6u a.2.1 a.1 2240).bind fun e=>cond (!e) (M 1) ((j6u a.2.2.1 1 12).bind fun f=>cond (!f) (M 1) ((j6u a.2.2.2.1 1 5).bind fun g=>cond (!g) (M 1) ((j6u a.2.2.2.2.1 0 6).bind fun c=>cond (!c) (M 1) ((j6u a.2.2.2.2.2.1 0 86399).bind fun b=>cond (!b) (M 1) ((j6u a.2.2.2.2.2.2 (-64800) 64800).bind fun d=>cond (!d) (M 1) (M 0)))))))
def jhT (a:K):S Bool:=
 let d:=Ã a 4
 let c:=Ã a 100
 let b:=Ã a 400
 M (cond (d==0) (cond (c != 0) Â (b==0)) Z)
def j6c (c a:K):S Int:=cond (cond (N (a<1)) Â (N (a>12))) (M 0) (let e:O Int:=[31,28,31,30,31,30,31,31,30,31,30,31]
 let j:O Int:=Ç 12 0
 cond (a==2) ((jhT c).bind fun i=>cond i (M 29) (let f:=w64 (a-1)
 cond (inR f 12) (let g:=L e f.toNat 0
 M g) Y)) (let b:=w64 (a-1)
 cond (inR b 12) (let d:=L e b.toNat 0
 M d) Y))
def jap (a:Tn3):S Bool:=cond (N (a.1≥1970)) (cond (N (a.1≤2240)) (cond (N (a.2.2≥1)) ((j6c a.1 a.2.1).bind fun b=>M (N (a.2.2≤b))) (M Z)) (M Z)) (M Z)
def j7d (b a:K):S Int:=cond (!(a==0)) (let e:=w64 (È b a)
 cond (!(a==0)) (let c:=Ã b a
 cond (N (c<0)) (let d:=w64 (e-1)
 M d) (M e)) Y) Y
def j4v (a:K):S Int:=
 let b:=w64 (a-1)
 let k:=w64 (a-1970)
 let l:=w64 (365*k)
 (j7d b 4).bind fun f=>let d:=w64 (l+f)
 (j7d b 100).bind fun j=>let i:=w64 (d-j)
 (j7d b 400).bind fun e=>let c:=w64 (i+e)
 let g:=w64 (c-477)
 M g
def j3o (i f g a e:K):S ((K×K×K×K×K) ⊕ (K)):=cond (N (f<a)) ((j6c g f).bind fun d=>let b:=w64 (i+d)
 let c:=w64 (f+1)
 M (.inl (b,c,g,a,e))) (M (.inr i))
def j7G [LP] (d e c b a:K):S Int:=LP.lp (unc5 j3o) (d,e,c,b,a)
theorem jbl (d e c b a):j7G d e c b a=lpK (j3o d e c b a) (fun h=>j7G h.1 h.2.1 h.2.2.1 h.2.2.2.1 h.2.2.2.2):=j03 _ _
def jbm [LP] (a:Tn3):S Int:=(j4v a.1).bind fun d=>let c:=w64 (d+a.2.2)
 let b:=w64 (c-1)
 (j7G b 1 a.1 a.2.1 a.2.2).bind fun e=>M e
def j54 (a:K):S Int:=
 let b:=Ã a 7
 let c:=w64 (b+10)
 let d:=Ã c 7
 M d
def jgQ [LP] (c b d a:K):S (K×K):=(jap (c,(b,1))).bind fun i=>let g:Bool:=cond (cond (!i) Â (N (d<1))) Â (N (d>5))
 let r:Bool:=cond (cond g Â (N (a<0))) Â (N (a>6))
 cond r (M (0,1)) ((jbm (c,(b,1))).bind fun f=>(j54 f).bind fun k=>let m:=w64 (a-k)
 let p:=w64 (m+7)
 let l:=Ã p 7
 let o:=w64 (f+l)
 let j:=w64 (d-1)
 let n:=w64 (7*j)
 let e:=w64 (o+n)
 (j6c c b).bind fun t=>let s:=w64 (f+t)
 cond (N (e≥s)) (let q:=w64 (e-7)
 M (q,0)) (M (e,0)))
def j7e (b a:K×K):S Int:=
 let c:=w64 (b.1-a.1)
 M c
def j0g (o p q b:K) (a:Tn2):S ((K×K×K×K×Tn2) ⊕ (K×K×K×Tn2)):=cond (N (b>o)) (cond (inR b a.length) (let k:=L a b.toNat (0,0)
 let f:=w64 (b-1)
 cond (inR f a.length) (let c:=L a f.toNat (0,0)
 (j7e (k.1,k.2) (c.1,c.2)).bind fun m=>cond (N (m<0)) (let e:=w64 (b-1)
 let i:=w64 (b-1)
 cond (inR i a.length) (let d:=L a i.toNat (0,0)
 cond (inR b a.length) (let j:=L a b.toNat (0,0)
 cond (inR b a.length) (let g:Tn2:=Á a b.toNat (d.1,d.2)
 cond (inR e g.length) (let n:Tn2:=Á g e.toNat (j.1,j.2)
 let l:=w64 (b-1)
 M (.inl (o,p,q,l,n))) Y) Y) Y) Y) (M (.inr (o,p,q,a)))) Y) Y) (M (.inr (o,p,q,a)))
def j0A [LP] (b a c d:K) (e:Tn2):S (K×K×K×Tn2):=LP.lp (unc5 j0g) (b,a,c,d,e)
theorem j1K (b a c d e):j0A b a c d e=lpK (j0g b a c d e) (fun h=>j0A h.1 h.2.1 h.2.2.1 h.2.2.2.1 h.2.2.2.2):=j03 _ _
def j0h [LP] (f d c:K) (e:Tn2):S ((K×K×K×Tn2) ⊕ (Tn2)):=cond (N (c<d)) ((j0A f d c c e).bind fun a=>let b:=w64 (a.2.2.1+1)
 M (.inl (a.1,a.2.1,b,a.2.2.2))) (M (.inr e))
def j0B [LP] (b d c:K) (a:Tn2):S Tn2:=LP.lp (unc4 j0h) (b,d,c,a)
theorem j0T (b a c d):j0B b a c d=lpK (j0h b a c d) (fun h=>j0B h.1 h.2.1 h.2.2.1 h.2.2.2):=j03 _ _
def j0s [LP] (a:Tn2) (b c:K):S Tn2:=
 let d:=w64 (b+1)
 (j0B b c d a).bind fun e=>M e
def j0G [LP] (e d f c:K) (g:Tn2):S ((K×K×K×K×Tn2) ⊕ (K×K×K×Tn2)):=cond (N (c≤e)) ((j0s g f c).bind fun a=>let b:=w64 (c+d)
 M (.inl (e,d,c,b,a))) (M (.inr (e,d,f,g)))
def j0X [LP] (c b a d:K) (e:Tn2):S (K×K×K×Tn2):=LP.lp (unc5 j0G) (c,b,a,d,e)
theorem j5h (c b a d e):j0X c b a d e=lpK (j0G c b a d e) (fun h=>j0X h.1 h.2.1 h.2.2.1 h.2.2.2.1 h.2.2.2.2):=j03 _ _
def j28 (c b a e:K) (f:Tn2):S ((K×K×K×K×Tn2) ⊕ (K×K×K×Tn2)):=cond (N (e≤c)) (let d:=w64 (a+b)
 Y) (M (.inr (c,b,a,f)))
def j5R [LP] (c b a d:K) (e:Tn2):S (K×K×K×Tn2):=LP.lp (unc5 j28) (c,b,a,d,e)
def j0H [LP] (f e:K) (g:Tn2):S ((K×K×Tn2) ⊕ (Tn2)):=cond (N (e<f)) (let c:=w64 (2*e)
 (j5R f e 0 c g).bind fun a=>let d:=w64 (a.2.2.1+a.2.1)
 cond (N (d<a.1)) (Y) (let b:=w64 (a.2.1*2)
 M (.inl (a.1,b,a.2.2.2)))) (M (.inr g))
def j0Y [LP] (a c:K) (b:Tn2):S Tn2:=LP.lp (unc3 j0H) (a,c,b)
theorem j5i (a c b):j0Y a c b=lpK (j0H a c b) (fun h=>j0Y h.1 h.2.1 h.2.2):=j03 _ _
def j1S [LP] (a:Tn2) (c:K):S Tn2:=(j0X c 20 0 20 a).bind fun b=>(j0s b.2.2.2 b.2.2.1 b.1).bind fun d=>(j0Y b.1 b.2.1 d).bind fun e=>M e
def j0f [LP] (a:Tn2):S Tn2:=
 let c:=W a.length
 (j1S a c).bind fun b=>M b
def j1w (n:K) (f:Tn44) (l b:K) (m:U) (e:K) (d:Tn44):S ((K×Tn44×K×K×U×K×Tn44) ⊕ (K ⊕ (K×U×K×Tn44))):=cond (N (b<l)) (cond (inR b f.length) (let a:=L f b.toNat (0,(0,(0,(0,(0,(0,0))))))
 (j93 (a.1,(a.2.1,(a.2.2.1,(a.2.2.2.1,(a.2.2.2.2.1,(a.2.2.2.2.2.1,a.2.2.2.2.2.2))))))).bind fun c=>cond (c != 0) (M (.inr (.inl c))) (let k:=w64 (a.2.1-a.1)
 let i:=w64 (k+1)
 let g:=w64 (n+i)
 let j:=w64 (b+1)
 M (.inl (g,f,l,j,m,e,d)))) Y) (M (.inr (.inr (n,m,e,d))))
def j2C [LP] (g:K) (e:Tn44) (d c:K) (f:U) (b:K) (a:Tn44):S (K ⊕ (K×U×K×Tn44)):=LP.lp (unc7 j1w) (g,e,d,c,f,b,a)
theorem j5y (g e d c f b a):j2C g e d c f b a=lpK (j1w g e d c f b a) (fun h=>j2C h.1 h.2.1 h.2.2.1 h.2.2.2.1 h.2.2.2.2.1 h.2.2.2.2.2.1 h.2.2.2.2.2.2):=j03 _ _
def j1Z [LP] (i:K) (o:Tn44) (p q s f d a g e b:K) (r:Tn2):S ((K×Tn44×K×K×K×K×K×K×K×K×K×Tn2) ⊕ (Tn44×K×K×Tn2)):=cond (N (i≤f)) ((jgQ i d a g).bind fun n=>let l:=w64 (n.1*86400)
 let k:=w64 (l+e)
 let c:Tn2:=[(k,b)]
 cond (N (X r+X c≤j05)) (let j:Tn2:=r++c
 let m:=w64 (i+1)
 M (.inl (m,o,p,q,s,f,d,a,g,e,b,j))) Y) (M (.inr (o,p,q,r)))
def j55 [LP] (j:K) (i:Tn44) (k l g e c a f d b:K) (m:Tn2):S (Tn44×K×K×Tn2):=LP.lp (u8 unc4 j1Z) (j,i,k,l,g,e,c,a,f,d,b,m)
theorem j8d (j i k l g e c a f d b m):j55 j i k l g e c a f d b m=lpK (j1Z j i k l g e c a f d b m) (fun h=>j55 h.1 h.2.1 h.2.2.1 h.2.2.2.1 h.2.2.2.2.1 h.2.2.2.2.2.1 h.2.2.2.2.2.2.1 h.2.2.2.2.2.2.2.1 h.2.2.2.2.2.2.2.2.1 h.2.2.2.2.2.2.2.2.2.1 h.2.2.2.2.2.2.2.2.2.2.1 h.2.2.2.2.2.2.2.2.2.2.2):=j03 _ _
def j20 [LP] (d:Tn44) (f c:K) (g:Tn2):S ((Tn44×K×K×Tn2) ⊕ (Tn2)):=cond (N (c<f)) (cond (inR c d.length) (let a:=L d c.toNat (0,(0,(0,(0,(0,(0,0))))))
 (j55 a.1 d f c a.1 a.2.1 a.2.2.1 a.2.2.2.1 a.2.2.2.2.1 a.2.2.2.2.2.1 a.2.2.2.2.2.2 g).bind fun b=>let e:=w64 (b.2.2.1+1)
 M (.inl (b.1,b.2.1,e,b.2.2.2))) Y) (M (.inr g))
def j3P [LP] (b:Tn44) (c a:K) (d:Tn2):S Tn2:=LP.lp (unc4 j20) (b,c,a,d)
theorem j8e (a b c d):j3P a b c d=lpK (j20 a b c d) (fun h=>j3P h.1 h.2.1 h.2.2.1 h.2.2.2):=j03 _ _
def j1V [LP] (a:Tn54):S (Tn2×K):=(j6u a.2.1 (-64800) 64800).bind fun e=>cond (!e) (M (([]:Tn2),1)) (let f:=W a.2.2.length
 cond (N (f>16)) (M (([]:Tn2),5)) (let c:=W a.2.2.length
 (j2C 0 a.2.2 c 0 a.1 a.2.1 a.2.2).bind fun i=>sumC i (fun k=>M (([]:Tn2),k)) (fun g=>cond (N (g.1>640)) (M (([]:Tn2),5)) (let d:=W g.2.2.2.length
 (j3P g.2.2.2 d 0 ([]:Tn2)).bind fun j=>(j0f j).bind fun b=>M (b,0)))))
def j15 (n m d:K) (b f:Tn2):S ((K×K×K×Tn2×Tn2) ⊕ (K ⊕ Tn2)):=cond (N (d<m)) (cond (inR d f.length) (let a:=L f d.toNat (0,0)
 cond (a.2==n) (let s:=w64 (d+1)
 M (.inl (n,m,s,b,f))) (let c:=w64 (a.1-n)
 let i:=w64 (a.2-n)
 cond (cond (N (i≥86400)) Â (N (i≤(-86400)))) (let p:=W b.length
 let r:=W b.length
 let e:=w64 (r-1)
 cond ((inR e b.length) || !((!Â)&&(N (p>0)))) (let o:=(L b e.toNat (0,0)).1
 let x:=w64 (o+604800)
 M (.inr (.inl 6))) Y) ((j6u c 0 8589934592).bind fun j=>let l:=W b.length
 let t:=W b.length
 let k:=w64 (t-1)
 cond ((inR k b.length) || !((!(!j))&&(N (l>0)))) (let v:=(L b k.toNat (0,0)).1
 let w:=w64 (v+604800)
 cond (cond (!j) Â (cond (N (l>0)) (N (c<w)) Z)) (M (.inr (.inl 6))) (let g:Tn2:=[(c,a.2)]
 cond (N (X b+X g≤j05)) (let u:Tn2:=b++g
 let q:=w64 (d+1)
 M (.inl (a.2,m,q,u,f))) Y)) Y))) Y) (M (.inr (.inr b)))
def j2D [LP] (d c b:K) (e a:Tn2):S (K ⊕ Tn2):=LP.lp (unc5 j15) (d,c,b,e,a)
theorem j3Z (d c b e a):j2D d c b e a=lpK (j15 d c b e a) (fun h=>j2D h.1 h.2.1 h.2.2.1 h.2.2.2.1 h.2.2.2.2):=j03 _ _
def j0M [LP] (a:Tn54):S (Tn2×K):=(j1V (a.1,(a.2.1,a.2.2))).bind fun b=>cond (b.2 != 0) (M (([]:Tn2),b.2)) (let c:=W b.1.length
 (j2D a.2.1 c 0 ([]:Tn2) b.1).bind fun d=>sumC d (fun e=>M (([]:Tn2),e)) (fun f=>M (f,0)))
def jcz [LP] (a:Tn54):S Int:=(j0M (a.1,(a.2.1,a.2.2))).bind fun b=>M b.2
def j6v (a:Tn39):S Bool:=
 let b:=Ã a.2.2.2.2.2.2 60
 M (b != 0)
def j0i (e:Tn44) (f b:K):S ((Tn44×K×K) ⊕ (K ⊕ Æ)):=cond (N (b<f)) (cond (inR b e.length) (let a:=L e b.toNat (0,(0,(0,(0,(0,(0,0))))))
 (j6v (a.1,(a.2.1,(a.2.2.1,(a.2.2.2.1,(a.2.2.2.2.1,(a.2.2.2.2.2.1,a.2.2.2.2.2.2))))))).bind fun c=>cond c (M (.inr (.inl b))) (let d:=w64 (b+1)
 M (.inl (e,f,d)))) Y) (M (.inr (.inr ())))
def j0C [LP] (b:Tn44) (c a:K):S (K ⊕ Æ):=LP.lp (unc3 j0i) (b,c,a)
theorem j1N (b c a):j0C b c a=lpK (j0i b c a) (fun h=>j0C h.1 h.2.1 h.2.2):=j03 _ _
def j1n [LP] (a:Tn44):S Int:=
 let b:=W a.length
 (j0C a b 0).bind fun c=>sumC c (fun d=>M d) (fun e=>M (-1))
def j0D [LP] (a:Tn44):S Bool:=(j1n a).bind fun b=>M (N (b≥0))
def j1D [LP] (a:Tn54):S Int:=(jcz (a.1,(a.2.1,a.2.2))).bind fun c=>let d:=Ã a.2.1 60
 cond (cond (c != 0) Â (d != 0)) (M 8) ((j0D a.2.2).bind fun b=>cond b (M 8) (M 0))
def j0P [LP] (e:Tn56) (i d:K) (j:O (U×Å)):S ((Tn56×K×K×(O (U×Å))) ⊕ (K ⊕ Æ)):=cond (N (d<i)) (cond (inR d e.length) (let a:=L e d.toNat (J,(0,([]:Tn44)))
 (j6U (a.1,(a.2.1,a.2.2))).bind fun g=>(j3H g j).bind fun b=>cond (b.1 != 0) (M (.inr (.inl b.1))) ((j1D (a.1,(a.2.1,a.2.2))).bind fun c=>cond (c != 0) (M (.inr (.inl c))) (let f:=w64 (d+1)
 M (.inl (e,i,f,b.2))))) Y) (M (.inr (.inr ())))
def j10 [LP] (b:Tn56) (a c:K) (d:O (U×Å)):S (K ⊕ Æ):=LP.lp (unc4 j0P) (b,a,c,d)
theorem j3A (b:Tn56) (a c:K) (d:O (U×Å)):j10 b a c d=lpK (j0P b a c d) (fun h=>j10 h.1 h.2.1 h.2.2.1 h.2.2.2):=j03 _ _
def j2x [LP] (a:Tn56):S Int:=
 let b:(O (U×Å)):=[]
 let c:=W a.length
 (j10 a c 0 b).bind fun d=>sumC d (fun e=>M e) (fun f=>M 0)
def j1f (a b:K):S Bool:=M (cond (N (a≥0)) (N (a<b)) Z)
def j4a (f j:Tn2) (k b:K):S ((Tn2×Tn2×K×K) ⊕ (K ⊕ Æ)):=cond (N (b<k)) (cond (inR b j.length) (let a:=L j b.toNat (0,0)
 let i:Bool:=cond (cond (N (a.1<0)) Â (N (a.1≥a.2))) Â (N (a.2>604800))
 cond i (M (.inr (.inl 1))) (cond (N (b>0)) (let c:=w64 (b-1)
 cond (inR c f.length) (let e:=L f c.toNat (0,0)
 cond (N (a.1<e.2)) (M (.inr (.inl 6))) (let g:=w64 (b+1)
 M (.inl (f,j,k,g)))) Y) (let d:=w64 (b+1)
 M (.inl (f,j,k,d))))) Y) (M (.inr (.inr ())))
def j9R [LP] (d b:Tn2) (c a:K):S (K ⊕ Æ):=LP.lp (unc4 j4a) (d,b,c,a)
theorem jdW (b c d a):j9R b c d a=lpK (j4a b c d a) (fun h=>j9R h.1 h.2.1 h.2.2.1 h.2.2.2):=j03 _ _
def jaf [LP] (a:Tn2):S Int:=
 let d:=W a.length
 cond (N (d>14)) (M 5) (let c:=W a.length
 (j9R a a c 0).bind fun b=>sumC b (fun e=>M e) (fun f=>M 0))
def j36 (a b c:K):S Bool:=M (cond (N (a≥b)) (N (a≤c)) Z)
def j56 (a:K):S Bool:=(j36 a 0 604800).bind fun c=>let b:=Ã a 3600
 M (cond c (b==0) Z)
def j3Q [LP] (b:Tn73) (a:Tn46):S Int:=
 let f:=W b.1.length
 (j1f a.2.1 f).bind fun e=>cond (!e) (M 3) ((jaf a.2.2.1).bind fun c=>cond (c != 0) (M 8) ((j56 a.2.2.2.1).bind fun g=>cond (!g) (M 1) ((j56 a.2.2.2.2.1).bind fun d=>cond (!d) (M 1) (M 0))))
def j6V (a:Tn20):S ByteArray:=M a.1
def j4b (e b:K):S ((K×K) ⊕ (K)):=
 let d:=w64 (b+1)
 (j4v d).bind fun c=>cond (N (c≤e)) (let a:=w64 (b+1)
 M (.inl (e,a))) (M (.inr b))
def j9S [LP] (b a:K):S Int:=LP.lp (unc2 j4b) (b,a)
theorem jdX (b a):j9S b a=lpK (j4b b a) (fun h=>j9S h.1 h.2):=j03 _ _
def jf3 [LP] (a:K):S Int:=(j7d a 366).bind fun d=>let c:=w64 (1970+d)
 (j9S a c).bind fun b=>M b
def j3p (k l c b g a d:K):S ((K×K×K×K×K×K×K) ⊕ (K×K×K×K×K×K×K)):=(j6c g a).bind fun e=>cond (N (k≥e)) ((j6c g a).bind fun f=>let i:=w64 (k-f)
 let j:=w64 (a+1)
 M (.inl (i,l,c,b,g,j,d))) (M (.inr (k,l,c,b,g,a,d)))
def j7H [LP] (e g c b f a d:K):S (K×K×K×K×K×K×K):=LP.lp (unc7 j3p) (e,g,c,b,f,a,d)
theorem jbn (e g c b f a d):j7H e g c b f a d=lpK (j3p e g c b f a d) (fun h=>j7H h.1 h.2.1 h.2.2.1 h.2.2.2.1 h.2.2.2.2.1 h.2.2.2.2.2.1 h.2.2.2.2.2.2):=j03 _ _
def j4Z [LP] (a:K):S (Tn3×K):=(j4v 1970).bind fun i=>cond (N (a<i)) (M ((0,(0,0)),1)) ((j4v 2241).bind fun e=>cond (N (a≥e)) (M ((0,(0,0)),1)) ((jf3 a).bind fun b=>(j4v b).bind fun g=>let f:=w64 (a-g)
 (j7H f 0 0 0 b 1 0).bind fun c=>let d:=w64 (c.1+1)
 M ((c.2.2.2.2.1,(c.2.2.2.2.2.1,d)),0)))
def j1g [LP] (a:K):S Bool:=(j4Z a).bind fun b=>M (b.2==0)
def j37 [LP] (a:K):S Bool:=(j1g a).bind fun b=>M (!b)
def j0v [LP] (e:O K) (f a:K):S (((O K)×K×K) ⊕ (K ⊕ Æ)):=cond (N (a<f)) (cond (inR a e.length) (let b:=L e a.toNat 0
 (j37 b).bind fun c=>cond c (M (.inr (.inl a))) (let d:=w64 (a+1)
 M (.inl (e,f,d)))) Y) (M (.inr (.inr ())))
def j1A [LP] (b:O K) (c a:K):S (K ⊕ Æ):=LP.lp (unc3 j0v) (b,c,a)
theorem j1O (b c a):j1A b c a=lpK (j0v b c a) (fun h=>j1A h.1 h.2.1 h.2.2):=j03 _ _
def j38 [LP] (a:O K):S Int:=
 let b:=W a.length
 (j1A a b 0).bind fun c=>sumC c (fun d=>M d) (fun e=>M (-1))
def j16 [LP] (a:O K):S Bool:=(j38 a).bind fun b=>M (N (b≥0))
def j0n (d b:K) (k:U) (e:K) (a:O K):S ((K×K×U×K×(O K)) ⊕ (K ⊕ Æ)):=cond (N (b<d)) (cond (N (b>0)) (cond (inR b a.length) (let f:=L a b.toNat 0
 let c:=w64 (b-1)
 cond (inR c a.length) (let g:=L a c.toNat 0
 cond (N (f≤g)) (M (.inr (.inl 6))) (let j:=w64 (b+1)
 M (.inl (d,j,k,e,a)))) Y) Y) (let i:=w64 (b+1)
 M (.inl (d,i,k,e,a)))) (M (.inr (.inr ())))
def j1x [LP] (c d:K) (e:U) (a:K) (b:O K):S (K ⊕ Æ):=LP.lp (unc5 j0n) (c,d,e,a,b)
theorem j17 (c d e a b):j1x c d e a b=lpK (j0n c d e a b) (fun h=>j1x h.1 h.2.1 h.2.2.1 h.2.2.2.1 h.2.2.2.2):=j03 _ _
def j1c [LP] (b:Tn73) (a:Tn20):S Int:=
 let d:=W b.1.length
 (j1f a.2.1 d).bind fun g=>cond (!g) (M 3) (let c:=W a.2.2.length
 cond (N (c>64)) (M 5) ((j16 a.2.2).bind fun e=>cond e (M 1) (let f:=W a.2.2.length
 (j1x f 0 a.1 a.2.1 a.2.2).bind fun i=>sumC i (fun j=>M j) (fun k=>M 0))))
def j6W [LP] (a:Tn20) (e:Tn56) (b:Tn50) (d:Tn27) (c:Tn67):S Int:=(j1c (e,(b,(d,c))) (a.1,(a.2.1,a.2.2))).bind fun f=>M f
def j0x [LP] (m:Tn56) (i:Tn50) (e:Tn27) (g:Tn67) (f:Tn27) (l d:K) (n:O (U×Å)):S ((Tn56×Tn50×Tn27×Tn67×Tn27×K×K×(O (U×Å))) ⊕ (K ⊕ Æ)):=cond (N (d<l)) (cond (inR d f.length) (let a:=L f d.toNat (J,(0,([]:(O K))))
 (j6V (a.1,(a.2.1,a.2.2))).bind fun k=>(j3H k n).bind fun b=>cond (b.1 != 0) (M (.inr (.inl b.1))) ((j6W (a.1,(a.2.1,a.2.2)) m i e g).bind fun c=>cond (c != 0) (M (.inr (.inl c))) (let j:=w64 (d+1)
 M (.inl (m,i,e,g,f,l,j,b.2))))) Y) (M (.inr (.inr ())))
def j0E [LP] (g:Tn56) (c:Tn50) (a:Tn27) (b:Tn67) (e:Tn27) (d f:K) (i:O (U×Å)):S (K ⊕ Æ):=LP.lp (unc8 j0x) (g,c,a,b,e,d,f,i)
theorem j2t (g:Tn56) (c:Tn50) (a:Tn27) (b:Tn67) (e:Tn27) (d f:K) (i:O (U×Å)):j0E g c a b e d f i=lpK (j0x g c a b e d f i) (fun h=>j0E h.1 h.2.1 h.2.2.1 h.2.2.2.1 h.2.2.2.2.1 h.2.2.2.2.2.1 h.2.2.2.2.2.2.1 h.2.2.2.2.2.2.2):=j03 _ _
def j1L [LP] (e:Tn27) (d:Tn56) (b:Tn50) (c:Tn27) (a:Tn67):S Int:=
 let f:(O (U×Å)):=[]
 let g:=W e.length
 (j0E d b c a e g 0 f).bind fun i=>sumC i (fun j=>M j) (fun k=>M 0)
def j6X (a:Tn66):S ByteArray:=M a.1
def j39 (a:Tn61):S ByteArray:=M a.1
def j4c (b:K) (g:Tn56) (a:Tn50) (e:Tn27) (c:Tn67):S Bool:=
 let d:=W a.length
 (j1f b d).bind fun f=>M (!f)
def j0p (i:O K) (k:Tn56) (b:Tn50) (a:Tn27) (d:Tn67) (j c:K):S (((O K)×Tn56×Tn50×Tn27×Tn67×K×K) ⊕ (K ⊕ Æ)):=cond (N (c<j)) (cond (inR c i.length) (let e:=L i c.toNat 0
 (j4c e k b a d).bind fun f=>cond f (M (.inr (.inl c))) (let g:=w64 (c+1)
 M (.inl (i,k,b,a,d,j,g)))) Y) (M (.inr (.inr ())))
def j1d [LP] (e:O K) (g:Tn56) (b:Tn50) (a:Tn27) (c:Tn67) (d f:K):S (K ⊕ Æ):=LP.lp (unc7 j0p) (e,g,b,a,c,d,f)
theorem j1t (e g b a c d f):j1d e g b a c d f=lpK (j0p e g b a c d f) (fun h=>j1d h.1 h.2.1 h.2.2.1 h.2.2.2.1 h.2.2.2.2.1 h.2.2.2.2.2.1 h.2.2.2.2.2.2):=j03 _ _
def j2b [LP] (a:O K) (e:Tn56) (d:Tn50) (c:Tn27) (b:Tn67):S Int:=
 let f:=W a.length
 (j1d a e d c b f 0).bind fun g=>sumC g (fun i=>M i) (fun j=>M (-1))
def j0Q [LP] (d:O K) (e:Tn56) (c:Tn50) (b:Tn27) (a:Tn67):S Bool:=(j2b d e c b a).bind fun f=>M (N (f≥0))
def j1a [LP] (b:Tn73) (a:Tn61):S Int:=
 let l:=W b.1.length
 (j1f a.2.1 l).bind fun k=>cond (!k) (M 3) (cond (N (a.2.2.1.1<1)) (M 1) ((j1g a.2.2.1.1).bind fun d=>cond (!d) (M 1) ((j36 a.2.2.1.2 0 86399).bind fun o=>cond (!o) (M 1) ((j36 a.2.2.2.1 0 2).bind fun c=>cond (!c) (M 1) ((j36 a.2.2.2.2.1 1 400).bind fun g=>cond (!g) (M 1) (let i:=W a.2.2.2.2.2.1.length
 cond (i==0) (M 7) (let e:=W a.2.2.2.2.2.1.length
 cond (N (e>12)) (M 5) ((j0Q a.2.2.2.2.2.1 b.1 b.2.1 b.2.2.1 b.2.2.2).bind fun j=>cond j (M 3) ((jaf a.2.2.2.2.2.2.1).bind fun p=>cond (p != 0) (M 8) ((j36 a.2.2.2.2.2.2.2.2 0 2).bind fun f=>cond (!f) (M 1) (let m:=W b.2.2.1.length
 cond (a.2.2.2.2.2.2.2.2 != 0) ((j1f a.2.2.2.2.2.2.2.1 m).bind fun n=>cond (!n) (M 3) (cond (cond (a.2.2.2.2.2.2.2.2==0) (a.2.2.2.2.2.2.2.1 != 0) Z) (M 1) (M 0))) (cond (cond (a.2.2.2.2.2.2.2.2==0) (a.2.2.2.2.2.2.2.1 != 0) Z) (M 1) (M 0)))))))))))))
def j3a [LP] (a:Tn61) (e:Tn56) (b:Tn50) (d:Tn27) (c:Tn67):S Int:=(j1a (e,(b,(d,c))) (a.1,(a.2.1,((a.2.2.1.1,a.2.2.1.2),(a.2.2.2.1,(a.2.2.2.2.1,(a.2.2.2.2.2.1,(a.2.2.2.2.2.2.1,(a.2.2.2.2.2.2.2.1,a.2.2.2.2.2.2.2.2))))))))).bind fun f=>M f
def j0L [LP] (m:Tn56) (i:Tn50) (e:Tn27) (g:Tn67) (f:Tn62) (l d:K) (n:O (U×Å)):S ((Tn56×Tn50×Tn27×Tn67×Tn62×K×K×(O (U×Å))) ⊕ (K ⊕ Æ)):=cond (N (d<l)) (cond (inR d f.length) (let a:=L f d.toNat (J,(0,((0,0),(0,(0,(([]:(O K)),(([]:Tn2),(0,0))))))))
 (j39 (a.1,(a.2.1,((a.2.2.1.1,a.2.2.1.2),(a.2.2.2.1,(a.2.2.2.2.1,(a.2.2.2.2.2.1,(a.2.2.2.2.2.2.1,(a.2.2.2.2.2.2.2.1,a.2.2.2.2.2.2.2.2))))))))).bind fun k=>(j3H k n).bind fun b=>cond (b.1 != 0) (M (.inr (.inl b.1))) ((j3a (a.1,(a.2.1,((a.2.2.1.1,a.2.2.1.2),(a.2.2.2.1,(a.2.2.2.2.1,(a.2.2.2.2.2.1,(a.2.2.2.2.2.2.1,(a.2.2.2.2.2.2.2.1,a.2.2.2.2.2.2.2.2)))))))) m i e g).bind fun c=>cond (c != 0) (M (.inr (.inl c))) (let j:=w64 (d+1)
 M (.inl (m,i,e,g,f,l,j,b.2))))) Y) (M (.inr (.inr ())))
def j0U [LP] (g:Tn56) (c:Tn50) (a:Tn27) (b:Tn67) (e:Tn62) (d f:K) (i:O (U×Å)):S (K ⊕ Æ):=LP.lp (unc8 j0L) (g,c,a,b,e,d,f,i)
theorem j3i (g:Tn56) (c:Tn50) (a:Tn27) (b:Tn67) (e:Tn62) (d f:K) (i:O (U×Å)):j0U g c a b e d f i=lpK (j0L g c a b e d f i) (fun h=>j0U h.1 h.2.1 h.2.2.1 h.2.2.2.1 h.2.2.2.2.1 h.2.2.2.2.2.1 h.2.2.2.2.2.2.1 h.2.2.2.2.2.2.2):=j03 _ _
def j2c [LP] (e:Tn62) (d:Tn56) (b:Tn50) (c:Tn27) (a:Tn67):S Int:=
 let f:(O (U×Å)):=[]
 let g:=W e.length
 (j0U d b c a e g 0 f).bind fun i=>sumC i (fun j=>M j) (fun k=>M 0)
def j1p [LP] (g:Tn73) (a:Tn25):S Int:=
 let m:=W g.2.1.length
 (j36 a.1 0 2).bind fun k=>cond (!k) (M 1) ((j1f a.2.1 m).bind fun f=>cond (cond (!f) (!(cond (a.1==1) (a.2.1==(-1)) Z)) Z) (cond (cond (!f) (!(cond (a.1==1) (a.2.1==(-1)) Z)) Z) (M 3) (cond (cond (a.1 != 2) (a.2.2.1 != 0) Z) (M 1) (cond (cond (a.1==2) (a.2.1==a.2.2.1) Z) (M 4) (let j:=w64 (È a.2.2.2.2 86400)
 cond (cond (N (a.2.2.2.1<0)) Â (N (a.2.2.2.2<0))) (M 1) ((j1g j).bind fun i=>cond (!i) (M 1) (cond (N (a.2.2.2.1≥a.2.2.2.2)) (M 6) (M 0))))))) (cond (a.1==2) ((j1f a.2.2.1 m).bind fun l=>cond (!l) (M 3) (cond (cond (a.1 != 2) (a.2.2.1 != 0) Z) (M 1) (cond (cond (a.1==2) (a.2.1==a.2.2.1) Z) (M 4) (let e:=w64 (È a.2.2.2.2 86400)
 cond (cond (N (a.2.2.2.1<0)) Â (N (a.2.2.2.2<0))) (M 1) ((j1g e).bind fun b=>cond (!b) (M 1) (cond (N (a.2.2.2.1≥a.2.2.2.2)) (M 6) (M 0))))))) (cond (cond (a.1 != 2) (a.2.2.1 != 0) Z) (M 1) (cond (cond (a.1==2) (a.2.1==a.2.2.1) Z) (M 4) (let d:=w64 (È a.2.2.2.2 86400)
 cond (cond (N (a.2.2.2.1<0)) Â (N (a.2.2.2.2<0))) (M 1) ((j1g d).bind fun c=>cond (!c) (M 1) (cond (N (a.2.2.2.1≥a.2.2.2.2)) (M 6) (M 0))))))))
def j0W [LP] (g:Tn30) (j c:K) (k:Tn56) (e:Tn50) (d:Tn27) (f:Tn67):S ((Tn30×K×K×Tn56×Tn50×Tn27×Tn67) ⊕ (K ⊕ Æ)):=cond (N (c<j)) (cond (inR c g.length) (let a:=L g c.toNat (0,(0,(0,(0,0))))
 (j1p (k,(e,(d,f))) (a.1,(a.2.1,(a.2.2.1,(a.2.2.2.1,a.2.2.2.2))))).bind fun b=>cond (b != 0) (M (.inr (.inl b))) (let i:=w64 (c+1)
 M (.inl (g,j,i,k,e,d,f)))) Y) (M (.inr (.inr ())))
def j1y [LP] (e:Tn30) (f d:K) (g:Tn56) (b:Tn50) (a:Tn27) (c:Tn67):S (K ⊕ Æ):=LP.lp (unc7 j0W) (e,f,d,g,b,a,c)
theorem j3R (e f d g b a c):j1y e f d g b a c=lpK (j0W e f d g b a c) (fun h=>j1y h.1 h.2.1 h.2.2.1 h.2.2.2.1 h.2.2.2.2.1 h.2.2.2.2.2.1 h.2.2.2.2.2.2):=j03 _ _
def j1e [LP] (a:Tn73) (b:Tn66):S Int:=
 let d:=W b.2.1.length
 let f:=W b.2.2.length
 cond (cond (N (d>6)) Â (N (f>48))) (M 5) ((j2c b.2.1 a.1 a.2.1 a.2.2.1 a.2.2.2).bind fun c=>cond (c != 0) (M c) (let e:=W b.2.2.length
 (j1y b.2.2 e 0 a.1 a.2.1 a.2.2.1 a.2.2.2).bind fun g=>sumC g (fun i=>M i) (fun j=>M 0)))
def j6Y [LP] (a:Tn66) (e:Tn56) (b:Tn50) (d:Tn27) (c:Tn67):S Int:=(j1e (e,(b,(d,c))) (a.1,(a.2.1,a.2.2))).bind fun f=>M f
def j0y [LP] (m:Tn56) (i:Tn50) (e:Tn27) (g f:Tn67) (l d:K) (n:O (U×Å)):S ((Tn56×Tn50×Tn27×Tn67×Tn67×K×K×(O (U×Å))) ⊕ (K ⊕ Æ)):=cond (N (d<l)) (cond (inR d f.length) (let a:=L f d.toNat (J,(([]:Tn62),([]:Tn30)))
 (j6X (a.1,(a.2.1,a.2.2))).bind fun k=>(j3H k n).bind fun b=>cond (b.1 != 0) (M (.inr (.inl b.1))) ((j6Y (a.1,(a.2.1,a.2.2)) m i e g).bind fun c=>cond (c != 0) (M (.inr (.inl c))) (let j:=w64 (d+1)
 M (.inl (m,i,e,g,f,l,j,b.2))))) Y) (M (.inr (.inr ())))
def j0F [LP] (g:Tn56) (c:Tn50) (a:Tn27) (b e:Tn67) (d f:K) (i:O (U×Å)):S (K ⊕ Æ):=LP.lp (unc8 j0y) (g,c,a,b,e,d,f,i)
theorem j2u (g:Tn56) (c:Tn50) (a:Tn27) (b e:Tn67) (d f:K) (i:O (U×Å)):j0F g c a b e d f i=lpK (j0y g c a b e d f i) (fun h=>j0F h.1 h.2.1 h.2.2.1 h.2.2.2.1 h.2.2.2.2.1 h.2.2.2.2.2.1 h.2.2.2.2.2.2.1 h.2.2.2.2.2.2.2):=j03 _ _
def j2v [LP] (e:Tn67) (d:Tn56) (b:Tn50) (c:Tn27) (a:Tn67):S Int:=
 let f:(O (U×Å)):=[]
 let g:=W e.length
 (j0F d b c a e g 0 f).bind fun i=>sumC i (fun j=>M j) (fun k=>M 0)
def j2P [LP] (g:Tn50) (i f:K) (j:Tn56) (d:Tn50) (c:Tn27) (e:Tn67) (r:O (U×Å)):S ((Tn50×K×K×Tn56×Tn50×Tn27×Tn67×(O (U×Å))) ⊕ (K ⊕ (Tn56×Tn50×Tn27×Tn67))):=cond (N (f<i)) (cond (inR f g.length) (let a:=L g f.toNat (J,(0,(([]:Tn2),(0,(0,Z)))))
 (j3H a.1 r).bind fun b=>let q:Bool:=É a.1==É (À #[110,111,98,111,100,121])
 cond q (cond (2==0) ((j3Q (j,(d,(c,e))) (a.1,(a.2.1,(a.2.2.1,(a.2.2.2.1,(a.2.2.2.2.1,a.2.2.2.2.2)))))).bind fun k=>cond (k != 0) (M (.inr (.inl k))) (let o:=w64 (f+1)
 M (.inl (g,i,o,j,d,c,e,b.2)))) (cond (2 != 0) (M (.inr (.inl 2))) (let p:=w64 (f+1)
 M (.inl (g,i,p,j,d,c,e,b.2))))) (cond (b.1==0) ((j3Q (j,(d,(c,e))) (a.1,(a.2.1,(a.2.2.1,(a.2.2.2.1,(a.2.2.2.2.1,a.2.2.2.2.2)))))).bind fun l=>cond (l != 0) (M (.inr (.inl l))) (let n:=w64 (f+1)
 M (.inl (g,i,n,j,d,c,e,b.2)))) (cond (b.1 != 0) (M (.inr (.inl b.1))) (let m:=w64 (f+1)
 M (.inl (g,i,m,j,d,c,e,b.2)))))) Y) (M (.inr (.inr (j,d,c,e))))
def j5j [LP] (d:Tn50) (f e:K) (g:Tn56) (b:Tn50) (a:Tn27) (c:Tn67) (i:O (U×Å)):S (K ⊕ (Tn56×Tn50×Tn27×Tn67)):=LP.lp (unc8 j2P) (d,f,e,g,b,a,c,i)
theorem jaq (d:Tn50) (f e:K) (g:Tn56) (b:Tn50) (a:Tn27) (c:Tn67) (i:O (U×Å)):j5j d f e g b a c i=lpK (j2P d f e g b a c i) (fun h=>j5j h.1 h.2.1 h.2.2.1 h.2.2.2.1 h.2.2.2.2.1 h.2.2.2.2.2.1 h.2.2.2.2.2.2.1 h.2.2.2.2.2.2.2):=j03 _ _
def j3B [LP] (a:Tn73):S Int:=
 let e:=W a.1.length
 let l:=W a.2.1.length
 let m:=W a.2.2.1.length
 let g:Bool:=cond (cond (N (e>16)) Â (N (l>32))) Â (N (m>8))
 let k:=W a.2.2.2.length
 cond (cond g Â (N (k>12))) (M 5) ((j2x a.1).bind fun c=>cond (c != 0) (M c) (let f:(O (U×Å)):=[]
 let i:=W a.2.1.length
 (j5j a.2.1 i 0 a.1 a.2.1 a.2.2.1 a.2.2.2 f).bind fun n=>sumC n (fun o=>M o) (fun b=>(j1L b.2.2.1 b.1 b.2.1 b.2.2.1 b.2.2.2).bind fun d=>cond (d != 0) (M d) ((j2v b.2.2.2 b.1 b.2.1 b.2.2.1 b.2.2.2).bind fun j=>M j))))
def j7I [LP] (b:Tn73) (a:Tn61):S Bool:=(j3B (b.1,(b.2.1,(b.2.2.1,b.2.2.2)))).bind fun e=>cond (e != 0) (M Z) (let f:Tn62:=[(a.1,(a.2.1,((a.2.2.1.1,a.2.2.1.2),(a.2.2.2.1,(a.2.2.2.2.1,(a.2.2.2.2.2.1,(a.2.2.2.2.2.2.1,(a.2.2.2.2.2.2.2.1,a.2.2.2.2.2.2.2.2))))))))]
 let c:Tn67:=[((À #[97]),(f,([]:Tn30)))]
 (j3B (b.1,(b.2.1,(b.2.2.1,c)))).bind fun d=>M (d==0))
def jf4 (a b:K):S Bool:=
 let c:Bool:=cond (cond (N (a≥0)) (N (a≤8589934592)) Z) (N (b≥a)) Z
 let e:=w64 (b-a)
 let d:Bool:=cond (cond c (N (b≤8589934592)) Z) (N (e≤34560000)) Z
 M d
def jcA [LP] (b:Tn73) (a:Tn61) (c d:K):S Int:=(j7I (b.1,(b.2.1,(b.2.2.1,b.2.2.2))) (a.1,(a.2.1,((a.2.2.1.1,a.2.2.1.2),(a.2.2.2.1,(a.2.2.2.2.1,(a.2.2.2.2.2.1,(a.2.2.2.2.2.2.1,(a.2.2.2.2.2.2.2.1,a.2.2.2.2.2.2.2.2))))))))).bind fun f=>cond (!f) (M 8) ((jf4 c d).bind fun e=>cond (!e) (M 1) (M 0))
def jjX [LP] (a:Tn54):S (Tn14×K):=(j0M (a.1,(a.2.1,a.2.2))).bind fun b=>M ((a.2.1,b.1),b.2)
def j3S [LP] (i:Tn56) (j d:K) (g:Tn21):S ((Tn56×K×K×Tn21) ⊕ (Tn21)):=cond (N (d<j)) (cond (inR d i.length) (let a:=L i d.toNat (J,(0,([]:Tn44)))
 (jjX (a.1,(a.2.1,a.2.2))).bind fun b=>let c:Tn21:=[(b.1.1,b.1.2)]
 cond (N (X g+X c≤j05)) (let f:Tn21:=g++c
 let e:=w64 (d+1)
 M (.inl (i,j,e,f))) Y) Y) (M (.inr g))
def j6K [LP] (b:Tn56) (c a:K) (d:Tn21):S Tn21:=LP.lp (unc4 j3S) (b,c,a,d)
theorem jcB (c d a b):j6K c d a b=lpK (j3S c d a b) (fun h=>j6K h.1 h.2.1 h.2.2.1 h.2.2.2):=j03 _ _
def jfW [LP] (a:Tn56):S Tn21:=
 let c:=W a.length
 (j6K a c 0 ([]:Tn21)).bind fun b=>M b
def jar [LP] (a:Tn73):S Tn76:=(jfW a.1).bind fun b=>M ((a.1,(a.2.1,(a.2.2.1,a.2.2.2))),b)
def j8p (a:Tn61):S Int:=cond (a.2.2.2.1==2) (let b:=w64 (7*a.2.2.2.2.1)
 M b) (M a.2.2.2.2.1)
def j7f (b e:K) (a:Tn2) (c:K):S Bool:=cond (inR b a.length) (let d:=L a b.toNat (0,0)
 M (N (d.1>c))) Y
def j2E (l:K) (b:Tn2) (a d k:K):S ((K×Tn2×K×K×K) ⊕ (K)):=cond (N (d<k)) (let e:=w64 (d+k)
 let i:Int:=IntKind.wrap .u64 e
 let f:Int:=Í i 2
 let c:=w64 f
 (j7f c l b a).bind fun g=>cond (!g) (let j:=w64 (c+1)
 M (.inl (l,b,a,j,k))) (M (.inl (l,b,a,d,c)))) (M (.inr d))
def j8H [LP] (e:K) (b:Tn2) (a c d:K):S Int:=LP.lp (unc5 j2E) (e,b,a,c,d)
theorem jcC (e b a c d):j8H e b a c d=lpK (j2E e b a c d) (fun h=>j8H h.1 h.2.1 h.2.2.1 h.2.2.2.1 h.2.2.2.2):=j03 _ _
def jfX [LP] (c d:K) (b:Tn2) (a:K):S Int:=(j8H d b a 0 c).bind fun e=>M e
def j5k [LP] (a:Tn14) (b:K):S Int:=
 let c:=W a.2.length
 (jfX c a.1 a.2 b).bind fun d=>M d
def j3K (a:Tn14) (b:K):S Int:=cond (b==0) (M a.1) (let c:=w64 (b-1)
 cond (inR c a.2.length) (let d:=L a.2 c.toNat (0,0)
 M d.2) Y)
def j0w [LP] (o c i:K) (a:Tn2) (j:Tn15):S ((K×K×K×Tn2×Tn15) ⊕ (Tn15)):=cond (N (o<c)) ((j5k (i,a) o).bind fun b=>let m:=W a.length
 cond (N (b<m)) (cond (inR b a.length) (let e:=L a b.toNat (0,0)
 let d:Int:=if e.1<c then e.1 else c
 (j3K (i,a) b).bind fun k=>let f:Tn15:=[(o,(d,k))]
 cond (N (X j+X f≤j05)) (let p:Tn15:=j++f
 M (.inl (d,c,i,a,p))) Y) Y) ((j3K (i,a) b).bind fun l=>let g:Tn15:=[(o,(c,l))]
 cond (N (X j+X g≤j05)) (let n:Tn15:=j++g
 M (.inl (c,c,i,a,n))) Y)) (M (.inr j))
def j2p [LP] (e c b:K) (a:Tn2) (d:Tn15):S Tn15:=LP.lp (unc5 j0w) (e,c,b,a,d)
theorem j1E (e c b a d):j2p e c b a d=lpK (j0w e c b a d) (fun h=>j2p h.1 h.2.1 h.2.2.1 h.2.2.2.1 h.2.2.2.2):=j03 _ _
def j1F [LP] (b:Tn14) (a c:K):S Tn15:=(j2p a c b.1 b.2 ([]:Tn15)).bind fun d=>M d
def j3I (a:K×K):S Int:=
 let b:Int:=if (-1048576)>a.1 then (-1048576) else a.1
 let e:Int:=if 1048576<b then 1048576 else b
 let d:=w64 (e*86400)
 let c:=w64 (d+a.2)
 M c
def j18 (j c k e:K) (f:Tn15):S ((K×K×K×K×Tn15) ⊕ ((K×Å) ⊕ Æ)):=cond (N (c<j)) (cond (inR c f.length) (let a:=L f c.toNat (0,(0,0))
 (j3I (k,e)).bind fun g=>let b:=w64 (g-a.2.2)
 let d:Int:=if b>a.1 then b else a.1
 cond (N (d<a.2.1)) (M (.inr (.inl (d,Â)))) (let i:=w64 (c+1)
 M (.inl (j,i,k,e,f)))) Y) (M (.inr (.inr ())))
def j3T [LP] (b c e a:K) (d:Tn15):S ((K×Å) ⊕ Æ):=LP.lp (unc5 j18) (b,c,e,a,d)
theorem j40 (b c e a d):j3T b c e a d=lpK (j18 b c e a d) (fun h=>j3T h.1 h.2.1 h.2.2.1 h.2.2.2.1 h.2.2.2.2):=j03 _ _
def j2r [LP] (b:Tn14) (a:K×K):S (K×Å):=(j1F (b.1,b.2) 0 8589934593).bind fun c=>let d:=W c.length
 (j3T d 0 a.1 a.2 c).bind fun e=>sumC e (fun f=>M (f.1,f.2)) (fun g=>M (0,Z))
def j0N [LP] (b:Tn14) (a:Tn61) (c:K):S (K×Å):=cond (N (c>8589934592)) (M (0,Z)) (cond (a.2.2.2.1 != 0) ((j8p (a.1,(a.2.1,((a.2.2.1.1,a.2.2.1.2),(a.2.2.2.1,(a.2.2.2.2.1,(a.2.2.2.2.2.1,(a.2.2.2.2.2.2.1,(a.2.2.2.2.2.2.2.1,a.2.2.2.2.2.2.2.2))))))))).bind fun g=>let k:=w64 (c*g)
 let i:=w64 (a.2.2.1.1+k)
 (j2r (b.1,b.2) (i,a.2.2.1.2)).bind fun f=>M (f.1,f.2)) ((j2r (b.1,b.2) (a.2.2.1.1,a.2.2.1.2)).bind fun e=>let l:=w64 (3600*a.2.2.2.2.1)
 let j:=w64 (l*c)
 let d:=w64 (e.1+j)
 M (d,(cond e.2 (N (d≤8589934592)) Z))))
def j2Q (a:Tn2):S Tn2:=cond (N (X ([]:O (K×K))+X a≤j05)) (M (([]:O (K×K))++a)) Y
def j7J (a:K×K):S Bool:=M (N (a.2≤a.1))
def j0u (f b:K) (c:Tn2):S ((K×K×Tn2) ⊕ (Tn14 ⊕ Tn2)):=cond (N (b<f)) (cond (inR b c.length) (let a:=L c b.toNat (0,0)
 (j7J (a.1,a.2)).bind fun d=>cond d (M (.inr (.inl (b,c)))) (let e:=w64 (b+1)
 M (.inl (f,e,c)))) Y) (M (.inr (.inr c)))
def j0I [LP] (c b:K) (a:Tn2):S (Tn14 ⊕ Tn2):=LP.lp (unc3 j0u) (c,b,a)
theorem j2K (c b a):j0I c b a=lpK (j0u c b a) (fun h=>j0I h.1 h.2.1 h.2.2):=j03 _ _
def j26 [LP] (a:Tn2):S Tn14:=
 let b:=W a.length
 (j0I b 0 a).bind fun c=>sumC c (fun d=>M (d.1,d.2)) (fun e=>M ((-1),e))
def j0t (c d:K) (b:Tn2):S ((K×K×Tn2) ⊕ (Tn14)):=
 let g:=W b.length
 cond (N (d<g)) (cond (inR d b.length) (let a:=L b d.toNat (0,0)
 (j7J (a.1,a.2)).bind fun i=>cond (!i) (cond (inR c b.length) (let k:Tn2:=Á b c.toNat (a.1,a.2)
 let f:=w64 (c+1)
 let e:=w64 (d+1)
 M (.inl (f,e,k))) Y) (let j:=w64 (d+1)
 M (.inl (c,j,b)))) Y) (M (.inr (c,b)))
def j13 [LP] (a c:K) (b:Tn2):S Tn14:=LP.lp (unc3 j0t) (a,c,b)
theorem j2y (a c b):j13 a c b=lpK (j0t a c b) (fun h=>j13 h.1 h.2.1 h.2.2):=j03 _ _
def j1h [LP] (c:Tn2):S Tn14:=(j26 c).bind fun b=>cond (b.1==(-1)) (M ((W b.2.length),b.2)) (let d:=w64 (b.1+1)
 (j13 b.1 d b.2).bind fun a=>cond (N (0≤a.1)&&N (a.1≤(W a.2.length))) (let e:Tn2:=Ê a.1.toNat a.2++Ç (X a.2-a.1.toNat) (0,0)
 cond (N (0≤a.1)&&N (a.1≤(W e.length))) (M ((W a.1.toNat),e)) Y) Y)
def j6d (b a:K×K):S Int:=
 let c:=w64 (b.1-a.1)
 M c
def j0R (a:Tn2):S Tn2:=
 jq0 (.pair (.int .i64) (.int .i64)) (fun c b=>(j6d c b).getD 0) a
def j3b (g d:K) (b f:Tn2):S ((K×K×Tn2×Tn2) ⊕ (Tn2)):=cond (N (d<g)) (cond (inR d f.length) (let a:=L f d.toNat (0,0)
 let c:=W b.length
 cond (N (c>0)) (let l:=w64 (c-1)
 cond (inR l b.length) (let n:=(L b l.toNat (0,0)).2
 cond (N (a.1≤n)) (let e:=w64 (c-1)
 let k:=w64 (c-1)
 cond (inR k b.length) (let j:=(L b k.toNat (0,0)).2
 let u:Int:=if a.2>j then a.2 else j
 cond (inR e b.length) (let r:Tn2:=Á b e.toNat ((L b e.toNat (0,0)).1,u)
 let q:=w64 (d+1)
 M (.inl (g,q,r,f))) Y) Y) (let i:Tn2:=[(a.1,a.2)]
 cond (N (X b+X i≤j05)) (let s:Tn2:=b++i
 let o:=w64 (d+1)
 M (.inl (g,o,s,f))) Y)) Y) (let m:Tn2:=[(a.1,a.2)]
 cond (N (X b+X m≤j05)) (let p:Tn2:=b++m
 let t:=w64 (d+1)
 M (.inl (g,t,p,f))) Y)) Y) (M (.inr b))
def j7K [LP] (a c:K) (d b:Tn2):S Tn2:=LP.lp (unc4 j3b) (a,c,d,b)
theorem j9s (a b d c):j7K a b d c=lpK (j3b a b d c) (fun h=>j7K h.1 h.2.1 h.2.2.1 h.2.2.2):=j03 _ _
def jcD [LP] (c:Tn2):S Tn2:=(j2Q c).bind fun g=>(j1h g).bind fun a=>let d:Tn2:=Ê a.1.toNat a.2
 (j0R d).bind fun b=>let e:=W b.length
 (j7K e 0 ([]:Tn2) b).bind fun f=>M f
def j3q (u:Tn2) (c s q:K) (k:Tn2) (r e b a i:K) (t:Tn2) (p:Tn15):S ((Tn2×K×K×K×Tn2×K×K×K×K×K×Tn2×Tn15) ⊕ (Tn2×K×K×K×K×K×K×Tn2×Tn15)):=cond (N (e<r)) (cond (inR e k.length) (let f:=L k e.toNat (0,0)
 let j:=w64 (c+f.1)
 let n:Int:=if j>b then j else b
 let g:=w64 (c+f.2)
 let l:Int:=if g<a then g else a
 let d:Tn2:=[(n,l)]
 cond (N (X t+X d≤j05)) (let m:Tn2:=t++d
 let o:=w64 (e+1)
 M (.inl (u,c,s,q,k,r,o,b,a,i,m,p))) Y) Y) (M (.inr (u,c,s,q,b,a,i,t,p)))
def j7L [LP] (m:Tn2) (e i g:K) (j:Tn2) (c f k a b:K) (l:Tn2) (d:Tn15):S (Tn2×K×K×K×K×K×K×Tn2×Tn15):=LP.lp (u8 unc4 j3q) (m,e,i,g,j,c,f,k,a,b,l,d)
theorem jbo (m e i g j c f k a b l d):j7L m e i g j c f k a b l d=lpK (j3q m e i g j c f k a b l d) (fun h=>j7L h.1 h.2.1 h.2.2.1 h.2.2.2.1 h.2.2.2.2.1 h.2.2.2.2.2.1 h.2.2.2.2.2.2.1 h.2.2.2.2.2.2.2.1 h.2.2.2.2.2.2.2.2.1 h.2.2.2.2.2.2.2.2.2.1 h.2.2.2.2.2.2.2.2.2.2.1 h.2.2.2.2.2.2.2.2.2.2.2):=j03 _ _
def j3r [LP] (f:Tn2) (i k j m b e:K) (l:Tn2) (g:Tn15):S ((Tn2×K×K×K×K×K×K×Tn2×Tn15) ⊕ (Tn2×K×K×Tn2×Tn15)):=cond (N (i<b)) (let d:=W f.length
 (j7L f i k j f d 0 m b e l g).bind fun a=>let c:=w64 (a.2.1+604800)
 M (.inl (a.1,c,a.2.2.1,a.2.2.2.1,a.2.2.2.2.1,a.2.2.2.2.2.1,a.2.2.2.2.2.2.1,a.2.2.2.2.2.2.2.1,a.2.2.2.2.2.2.2.2))) (M (.inr (f,k,j,l,g)))
def j7M [LP] (j:Tn2) (d f e g a b:K) (i:Tn2) (c:Tn15):S (Tn2×K×K×Tn2×Tn15):=LP.lp (unc9 j3r) (j,d,f,e,g,a,b,i,c)
theorem jbp (j d f e g a b i c):j7M j d f e g a b i c=lpK (j3r j d f e g a b i c) (fun h=>j7M h.1 h.2.1 h.2.2.1 h.2.2.2.1 h.2.2.2.2.1 h.2.2.2.2.2.1 h.2.2.2.2.2.2.1 h.2.2.2.2.2.2.2.1 h.2.2.2.2.2.2.2.2):=j03 _ _
def j3s [LP] (o:Tn2) (m d:K) (n:Tn2) (e:Tn15):S ((Tn2×K×K×Tn2×Tn15) ⊕ (Tn2)):=cond (N (d<m)) (cond (inR d e.length) (let a:=L e d.toNat (0,(0,0))
 let k:=w64 (a.1+a.2.2)
 let c:=w64 (k-(-259200))
 let f:=Ã c 604800
 let g:=w64 (c-f)
 let j:=w64 (g+(-259200))
 let i:=w64 (j-a.2.2)
 (j7M o i m d a.1 a.2.1 a.2.2 n e).bind fun b=>let l:=w64 (b.2.2.1+1)
 M (.inl (b.1,b.2.1,l,b.2.2.2.1,b.2.2.2.2))) Y) (M (.inr n))
def j7N [LP] (e:Tn2) (c b:K) (d:Tn2) (a:Tn15):S Tn2:=LP.lp (unc5 j3s) (e,c,b,d,a)
theorem jbq (e c b d a):j7N e c b d a=lpK (j3s e c b d a) (fun h=>j7N h.1 h.2.1 h.2.2.1 h.2.2.2.1 h.2.2.2.2):=j03 _ _
def j50 [LP] (b:Tn14) (e:Tn2) (a c:K):S Tn2:=(j1F (b.1,b.2) a c).bind fun d=>let f:=W d.length
 (j7N e f 0 ([]:Tn2) d).bind fun i=>(jcD i).bind fun g=>M g
def j2z (r s:K) (j:O K) (u d:K) (w:U) (i:K) (k:O K) (g a e:K) (v:Tn2) (t:Tn15):S ((K×K×(O K)×K×K×U×K×(O K)×K×K×K×Tn2×Tn15) ⊕ (K×K×U×K×(O K)×Tn2×Tn15)):=cond (N (d<u)) (cond (inR d j.length) (let m:=L j d.toNat 0
 let n:=w64 (m*86400)
 let b:=w64 (n-e)
 let o:Int:=if b>g then b else g
 let f:=w64 (b+86400)
 let p:Int:=if f<a then f else a
 let c:Tn2:=[(o,p)]
 cond (N (X v+X c≤j05)) (let l:Tn2:=v++c
 let q:=w64 (d+1)
 M (.inl (r,s,j,u,q,w,i,k,g,a,e,l,t))) Y) Y) (M (.inr (r,s,w,i,k,v,t)))
def j4J [LP] (k e:K) (f:O K) (l g:K) (n:U) (c:K) (d:O K) (j a b:K) (m:Tn2) (i:Tn15):S (K×K×U×K×(O K)×Tn2×Tn15):=LP.lp (u8 unc5 j2z) (k,e,f,l,g,n,c,d,j,a,b,m,i)
theorem j9H (k e f l g n c d j a b m i):j4J k e f l g n c d j a b m i=lpK (j2z k e f l g n c d j a b m i) (fun h=>j4J h.1 h.2.1 h.2.2.1 h.2.2.2.1 h.2.2.2.2.1 h.2.2.2.2.2.1 h.2.2.2.2.2.2.1 h.2.2.2.2.2.2.2.1 h.2.2.2.2.2.2.2.2.1 h.2.2.2.2.2.2.2.2.2.1 h.2.2.2.2.2.2.2.2.2.2.1 h.2.2.2.2.2.2.2.2.2.2.2.1 h.2.2.2.2.2.2.2.2.2.2.2.2):=j03 _ _
def j2A [LP] (i d:K) (l:U) (j:K) (c:O K) (k:Tn2) (e:Tn15):S ((K×K×U×K×(O K)×Tn2×Tn15) ⊕ (Tn2)):=cond (N (d<i)) (cond (inR d e.length) (let b:=L e d.toNat (0,(0,0))
 let g:=W c.length
 (j4J i d c g 0 l j c b.1 b.2.1 b.2.2 k e).bind fun a=>let f:=w64 (a.2.1+1)
 M (.inl (a.1,f,a.2.2.1,a.2.2.2.1,a.2.2.2.2.1,a.2.2.2.2.2.1,a.2.2.2.2.2.2))) Y) (M (.inr k))
def j4K [LP] (d c:K) (g:U) (a:K) (b:O K) (f:Tn2) (e:Tn15):S Tn2:=LP.lp (unc7 j2A) (d,c,g,a,b,f,e)
theorem j9I (d c g a b f e):j4K d c g a b f e=lpK (j2A d c g a b f e) (fun h=>j4K h.1 h.2.1 h.2.2.1 h.2.2.2.1 h.2.2.2.2.1 h.2.2.2.2.2.1 h.2.2.2.2.2.2):=j03 _ _
def j1T [LP] (c:Tn76) (a:Tn20) (b d:K):S Tn2:=cond (inR a.2.1 c.2.length) (let e:=L c.2 a.2.1.toNat (0,([]:Tn2))
 (j1F (e.1,e.2) b d).bind fun f=>let g:=W f.length
 (j4K g 0 a.1 a.2.1 a.2.2 ([]:Tn2) f).bind fun j=>(jcD j).bind fun i=>M i) Y
def j3t (c:Tn2) (b:K) (e:Tn2) (f d j a:K) (l:Tn2):S ((Tn2×K×Tn2×K×K×K×K×Tn2) ⊕ (Tn2×K×Tn2×K×K×K×K×Tn2)):=
 let i:=W c.length
 cond (N (b<i)) (cond (inR b c.length) (let k:=L c b.toNat (0,0)
 cond (N (k.2≤j)) (let g:=w64 (b+1)
 M (.inl (c,g,e,f,d,j,a,l))) (M (.inr (c,b,e,f,d,j,a,l)))) Y) (M (.inr (c,b,e,f,d,j,a,l)))
def j7O [LP] (i:Tn2) (g:K) (c:Tn2) (d b f a:K) (e:Tn2):S (Tn2×K×Tn2×K×K×K×K×Tn2):=LP.lp (unc8 j3t) (i,g,c,d,b,f,a,e)
theorem jbr (i g c d b f a e):j7O i g c d b f a e=lpK (j3t i g c d b f a e) (fun h=>j7O h.1 h.2.1 h.2.2.1 h.2.2.2.1 h.2.2.2.2.1 h.2.2.2.2.2.1 h.2.2.2.2.2.2.1 h.2.2.2.2.2.2.2):=j03 _ _
def j3u (b:Tn2) (t d a:K) (f:Tn2) (i e s c:K) (l:Tn2):S ((Tn2×K×K×K×Tn2×K×K×K×K×Tn2) ⊕ (Tn2×K×K×Tn2×K×K×K×K×Tn2)):=
 let v:=W b.length
 cond (N (a<v)) (cond (inR a b.length) (let q:=L b a.toNat (0,0)
 cond (N (q.1<c)) (cond (inR a b.length) (let n:=L b a.toNat (0,0)
 cond (N (d<n.1)) (cond (inR a b.length) (let o:=L b a.toNat (0,0)
 let g:Tn2:=[(d,o.1)]
 cond (N (X l+X g≤j05)) (let p:Tn2:=l++g
 cond (inR a b.length) (let k:=L b a.toNat (0,0)
 let r:Int:=if k.2>d then k.2 else d
 let m:=w64 (a+1)
 M (.inl (b,t,r,m,f,i,e,s,c,p))) Y) Y) Y) (cond (inR a b.length) (let j:=L b a.toNat (0,0)
 let w:Int:=if j.2>d then j.2 else d
 let u:=w64 (a+1)
 M (.inl (b,t,w,u,f,i,e,s,c,l))) Y)) Y) (M (.inr (b,t,d,f,i,e,s,c,l)))) Y) (M (.inr (b,t,d,f,i,e,s,c,l)))
def j5S [LP] (j:Tn2) (i k c:K) (d:Tn2) (e b g a:K) (f:Tn2):S (Tn2×K×K×Tn2×K×K×K×K×Tn2):=LP.lp (u8 unc2 j3u) (j,i,k,c,d,e,b,g,a,f)
theorem jbs (j i k c d e b g a f):j5S j i k c d e b g a f=lpK (j3u j i k c d e b g a f) (fun h=>j5S h.1 h.2.1 h.2.2.1 h.2.2.2.1 h.2.2.2.2.1 h.2.2.2.2.2.1 h.2.2.2.2.2.2.1 h.2.2.2.2.2.2.2.1 h.2.2.2.2.2.2.2.2.1 h.2.2.2.2.2.2.2.2.2):=j03 _ _
def j3v [LP] (n:Tn2) (m:K) (f:Tn2) (k e:K) (l:Tn2):S ((Tn2×K×Tn2×K×K×Tn2) ⊕ (Tn2)):=cond (N (e<k)) (cond (inR e f.length) (let c:=L f e.toNat (0,0)
 (j7O n m f k e c.1 c.2 l).bind fun b=>(j5S b.1 b.2.1 b.2.2.2.2.2.1 b.2.1 b.2.2.1 b.2.2.2.1 b.2.2.2.2.1 b.2.2.2.2.2.1 b.2.2.2.2.2.2.1 b.2.2.2.2.2.2.2).bind fun a=>cond (N (a.2.2.1<a.2.2.2.2.2.2.2.1)) (let d:Tn2:=[(a.2.2.1,a.2.2.2.2.2.2.2.1)]
 cond (N (X a.2.2.2.2.2.2.2.2+X d≤j05)) (let i:Tn2:=a.2.2.2.2.2.2.2.2++d
 let j:=w64 (a.2.2.2.2.2.1+1)
 M (.inl (a.1,a.2.1,a.2.2.2.1,a.2.2.2.2.1,j,i))) Y) (let g:=w64 (a.2.2.2.2.2.1+1)
 M (.inl (a.1,a.2.1,a.2.2.2.1,a.2.2.2.2.1,g,a.2.2.2.2.2.2.2.2)))) Y) (M (.inr l))
def j4L [LP] (f:Tn2) (e:K) (b:Tn2) (c a:K) (d:Tn2):S Tn2:=LP.lp (unc6 j3v) (f,e,b,c,a,d)
theorem jbt (f e b c a d):j4L f e b c a d=lpK (j3v f e b c a d) (fun h=>j4L h.1 h.2.1 h.2.2.1 h.2.2.2.1 h.2.2.2.2.1 h.2.2.2.2.2):=j03 _ _
def j94 [LP] (a b:Tn2):S Tn2:=
 let c:=W a.length
 (j4L b 0 a c 0 ([]:Tn2)).bind fun d=>M d
def j57 (b c:Tn2) (d a:K) (n:Tn2):S ((Tn2×Tn2×K×K×Tn2) ⊕ (Tn2)):=
 let r:=W b.length
 let o:=W c.length
 cond (cond (N (d<r)) (N (a<o)) Z) (cond (inR d b.length) (let m:=L b d.toNat (0,0)
 cond (inR a c.length) (let g:=L c a.toNat (0,0)
 let f:Int:=if g.1>m.1 then g.1 else m.1
 cond (inR d b.length) (let k:=L b d.toNat (0,0)
 cond (inR a c.length) (let j:=L c a.toNat (0,0)
 let e:Int:=if j.2<k.2 then j.2 else k.2
 cond (N (f<e)) (let i:Tn2:=[(f,e)]
 cond (N (X n+X i≤j05)) (let l:Tn2:=n++i
 cond (inR d b.length) (let q:=L b d.toNat (0,0)
 cond (inR a c.length) (let p:=L c a.toNat (0,0)
 cond (N (q.2<p.2)) (let u:=w64 (d+1)
 M (.inl (b,c,u,a,l))) (let t:=w64 (a+1)
 M (.inl (b,c,d,t,l)))) Y) Y) Y) (cond (inR d b.length) (let v:=L b d.toNat (0,0)
 cond (inR a c.length) (let w:=L c a.toNat (0,0)
 cond (N (v.2<w.2)) (let s:=w64 (d+1)
 M (.inl (b,c,s,a,n))) (let x:=w64 (a+1)
 M (.inl (b,c,d,x,n)))) Y) Y)) Y) Y) Y) Y) (M (.inr n))
def j4w [LP] (c e:Tn2) (d b:K) (a:Tn2):S Tn2:=LP.lp (unc5 j57) (c,e,d,b,a)
theorem jhU (c e d b a):j4w c e d b a=lpK (j57 c e d b a) (fun h=>j4w h.1 h.2.1 h.2.2.1 h.2.2.2.1 h.2.2.2.2):=j03 _ _
def jas [LP] (b a:Tn2):S Tn2:=(j4w b a 0 0 ([]:Tn2)).bind fun c=>M c
def j3U [LP] (a:Tn76) (b:Tn61) (d c:K):S Tn2:=cond (inR b.2.1 a.2.length) (let r:=L a.2 b.2.1.toNat (0,([]:Tn2))
 (j0N (r.1,r.2) (b.1,(b.2.1,((b.2.2.1.1,b.2.2.1.2),(b.2.2.2.1,(b.2.2.2.2.1,(b.2.2.2.2.2.1,(b.2.2.2.2.2.2.1,(b.2.2.2.2.2.2.2.1,b.2.2.2.2.2.2.2.2)))))))) 0).bind fun i=>cond (cond (cond (!i.2) Â (N (i.1≥c))) Â (N (d≥c))) (M ([]:Tn2)) (let e:Int:=if i.1>d then i.1 else d
 let l:Tn2:=[(e,c)]
 let x:=W b.2.2.2.2.2.2.1.length
 cond (N (x>0)) (cond (inR b.2.1 a.2.length) (let s:=L a.2 b.2.1.toNat (0,([]:Tn2))
 (j50 (s.1,s.2) b.2.2.2.2.2.2.1 e c).bind fun k=>cond (b.2.2.2.2.2.2.2.2==1) (cond (inR b.2.2.2.2.2.2.2.1 a.1.2.2.1.length) (let j:=L a.1.2.2.1 b.2.2.2.2.2.2.2.1.toNat (J,(0,([]:(O K))))
 (j1T ((a.1.1,(a.1.2.1,(a.1.2.2.1,a.1.2.2.2))),a.2) (j.1,(j.2.1,j.2.2)) e c).bind fun u=>(j94 k u).bind fun t=>M t) Y) (cond (b.2.2.2.2.2.2.2.2==2) (cond (inR b.2.2.2.2.2.2.2.1 a.1.2.2.1.length) (let m:=L a.1.2.2.1 b.2.2.2.2.2.2.2.1.toNat (J,(0,([]:(O K))))
 (j1T ((a.1.1,(a.1.2.1,(a.1.2.2.1,a.1.2.2.2))),a.2) (m.1,(m.2.1,m.2.2)) e c).bind fun w=>(jas k w).bind fun v=>M v) Y) (M k))) Y) (cond (b.2.2.2.2.2.2.2.2==1) (cond (inR b.2.2.2.2.2.2.2.1 a.1.2.2.1.length) (let f:=L a.1.2.2.1 b.2.2.2.2.2.2.2.1.toNat (J,(0,([]:(O K))))
 (j1T ((a.1.1,(a.1.2.1,(a.1.2.2.1,a.1.2.2.2))),a.2) (f.1,(f.2.1,f.2.2)) e c).bind fun n=>(j94 l n).bind fun p=>M p) Y) (cond (b.2.2.2.2.2.2.2.2==2) (cond (inR b.2.2.2.2.2.2.2.1 a.1.2.2.1.length) (let g:=L a.1.2.2.1 b.2.2.2.2.2.2.2.1.toNat (J,(0,([]:(O K))))
 (j1T ((a.1.1,(a.1.2.1,(a.1.2.2.1,a.1.2.2.2))),a.2) (g.1,(g.2.1,g.2.2)) e c).bind fun o=>(jas l o).bind fun q=>M q) Y) (M l))))) Y
def j6e [LP] (a:Tn14) (b:K):S Int:=(j5k (a.1,a.2) b).bind fun c=>(j3K (a.1,a.2) c).bind fun d=>M d
def jf5 (a:K):S (K×K):=
 let e:=w64 (È a 86400)
 let i:=Ã a 86400
 cond (N (i<0)) (let d:=w64 (e-1)
 let g:=w64 (d*86400)
 let f:=w64 (a-g)
 M (d,f)) (let b:=w64 (e*86400)
 let c:=w64 (a-b)
 M (e,c))
def j0o [LP] (b:Tn14) (a:K):S (K×K):=(j6e (b.1,b.2) a).bind fun e=>let d:=w64 (a+e)
 (jf5 d).bind fun c=>M (c.1,c.2)
def j2R [LP] (o m n:K) (c:Tn2) (p:U) (b g a f i:K) (j:O K) (d:Tn2) (k e:K):S ((K×K×K×Tn2×U×K×K×K×K×K×(O K)×Tn2×K×K) ⊕ (K×K×K×Tn2×U×K×K×K×K×K×(O K)×Tn2×K×K)):=cond (N (m>0)) ((j0N (n,c) (p,(b,((g,a),(f,(i,(j,(d,(k,e)))))))) m).bind fun l=>cond (cond l.2 (N (l.1≤o)) Z) (M (.inr (o,m,n,c,p,b,g,a,f,i,j,d,k,e))) (let q:=w64 (m-1)
 M (.inl (o,q,n,c,p,b,g,a,f,i,j,d,k,e)))) (M (.inr (o,m,n,c,p,b,g,a,f,i,j,d,k,e)))
def j6Z [LP] (m o l:K) (c:Tn2) (n:U) (b g a f i:K) (j:O K) (d:Tn2) (k e:K):S (K×K×K×Tn2×U×K×K×K×K×K×(O K)×Tn2×K×K):=LP.lp (u8 unc6 j2R) (m,o,l,c,n,b,g,a,f,i,j,d,k,e)
theorem jat (m o l c n b g a f i j d k e):j6Z m o l c n b g a f i j d k e=lpK (j2R m o l c n b g a f i j d k e) (fun h=>j6Z h.1 h.2.1 h.2.2.1 h.2.2.2.1 h.2.2.2.2.1 h.2.2.2.2.2.1 h.2.2.2.2.2.2.1 h.2.2.2.2.2.2.2.1 h.2.2.2.2.2.2.2.2.1 h.2.2.2.2.2.2.2.2.2.1 h.2.2.2.2.2.2.2.2.2.2.1 h.2.2.2.2.2.2.2.2.2.2.2.1 h.2.2.2.2.2.2.2.2.2.2.2.2.1 h.2.2.2.2.2.2.2.2.2.2.2.2.2):=j03 _ _
def j4d [LP] (q o p:K) (d:Tn2) (r:U) (c i b g j:K) (k:O K) (e:Tn2) (l f:K):S ((K×K×K×Tn2×U×K×K×K×K×K×(O K)×Tn2×K×K) ⊕ (K)):=
 let n:=w64 (o+1)
 (j0N (p,d) (r,(c,((i,b),(g,(j,(k,(e,(l,f)))))))) n).bind fun a=>cond (cond (!a.2) Â (N (a.1>q))) (M (.inr o)) (let m:=w64 (o+1)
 M (.inl (q,m,p,d,r,c,i,b,g,j,k,e,l,f)))
def j70 [LP] (m o l:K) (c:Tn2) (n:U) (b g a f i:K) (j:O K) (d:Tn2) (k e:K):S Int:=LP.lp (u8 unc6 j4d) (m,o,l,c,n,b,g,a,f,i,j,d,k,e)
theorem jfY (m o l c n b g a f i j d k e):j70 m o l c n b g a f i j d k e=lpK (j4d m o l c n b g a f i j d k e) (fun h=>j70 h.1 h.2.1 h.2.2.1 h.2.2.2.1 h.2.2.2.2.1 h.2.2.2.2.2.1 h.2.2.2.2.2.2.1 h.2.2.2.2.2.2.2.1 h.2.2.2.2.2.2.2.2.1 h.2.2.2.2.2.2.2.2.2.1 h.2.2.2.2.2.2.2.2.2.2.1 h.2.2.2.2.2.2.2.2.2.2.2.1 h.2.2.2.2.2.2.2.2.2.2.2.2.1 h.2.2.2.2.2.2.2.2.2.2.2.2.2):=j03 _ _
def j1W [LP] (c:Tn14) (a:Tn61) (d:K):S Int:=(j0N (c.1,c.2) (a.1,(a.2.1,((a.2.2.1.1,a.2.2.1.2),(a.2.2.2.1,(a.2.2.2.2.1,(a.2.2.2.2.2.1,(a.2.2.2.2.2.2.1,(a.2.2.2.2.2.2.2.1,a.2.2.2.2.2.2.2.2)))))))) 0).bind fun e=>cond (cond (!e.2) Â (N (e.1>d))) (M (-1)) (cond (a.2.2.2.1==0) (let m:=w64 (d-e.1)
 let g:=w64 (3600*a.2.2.2.2.1)
 cond (!(g==0)) (let l:=w64 (È m g)
 M l) Y) ((j0o (c.1,c.2) d).bind fun n=>let k:=w64 (n.1-a.2.2.1.1)
 (j8p (a.1,(a.2.1,((a.2.2.1.1,a.2.2.1.2),(a.2.2.2.1,(a.2.2.2.2.1,(a.2.2.2.2.2.1,(a.2.2.2.2.2.2.1,(a.2.2.2.2.2.2.2.1,a.2.2.2.2.2.2.2.2))))))))).bind fun i=>cond (!(i==0)) (let f:=w64 (È k i)
 let j:Int:=if f>0 then f else 0
 (j6Z d j c.1 c.2 a.1 a.2.1 a.2.2.1.1 a.2.2.1.2 a.2.2.2.1 a.2.2.2.2.1 a.2.2.2.2.2.1 a.2.2.2.2.2.2.1 a.2.2.2.2.2.2.2.1 a.2.2.2.2.2.2.2.2).bind fun b=>(j70 b.1 b.2.1 b.2.2.1 b.2.2.2.1 b.2.2.2.2.1 b.2.2.2.2.2.1 b.2.2.2.2.2.2.1 b.2.2.2.2.2.2.2.1 b.2.2.2.2.2.2.2.2.1 b.2.2.2.2.2.2.2.2.2.1 b.2.2.2.2.2.2.2.2.2.2.1 b.2.2.2.2.2.2.2.2.2.2.2.1 b.2.2.2.2.2.2.2.2.2.2.2.2.1 b.2.2.2.2.2.2.2.2.2.2.2.2.2).bind fun o=>M o) Y))
def j4e (f:Tn15) (m e:K) (b:Tn15):S ((Tn15×K×K×Tn15) ⊕ (Tn15)):=cond (N (e<m)) (cond (inR e f.length) (let a:=L f e.toNat (0,(0,0))
 cond (N (a.2.1≤a.1)) (let t:=w64 (e+1)
 M (.inl (f,m,t,b))) (let c:=W b.length
 cond (N (c>0)) (let l:=w64 (c-1)
 cond (inR l b.length) (let r:=(L b l.toNat (0,(0,0))).2.1
 cond (r==a.1) (let g:=w64 (c-1)
 cond (inR g b.length) (let s:=(L b g.toNat (0,(0,0))).2.2
 cond (s==a.2.2) (let d:=w64 (c-1)
 cond (inR d b.length) (let x:Tn15:=Á b d.toNat ((L b d.toNat (0,(0,0))).1,(a.2.1,(L b d.toNat (0,(0,0))).2.2))
 let q:=w64 (e+1)
 M (.inl (f,m,q,x))) Y) (let j:Tn15:=[(a.1,(a.2.1,a.2.2))]
 cond (N (X b+X j≤j05)) (let w:Tn15:=b++j
 let u:=w64 (e+1)
 M (.inl (f,m,u,w))) Y)) Y) (let k:Tn15:=[(a.1,(a.2.1,a.2.2))]
 cond (N (X b+X k≤j05)) (let v:Tn15:=b++k
 let n:=w64 (e+1)
 M (.inl (f,m,n,v))) Y)) Y) (let i:Tn15:=[(a.1,(a.2.1,a.2.2))]
 cond (N (X b+X i≤j05)) (let p:Tn15:=b++i
 let o:=w64 (e+1)
 M (.inl (f,m,o,p))) Y))) Y) (M (.inr b))
def j6f [LP] (d:Tn15) (a b:K) (c:Tn15):S Tn15:=LP.lp (unc4 j4e) (d,a,b,c)
theorem jdY (b c d a):j6f b c d a=lpK (j4e b c d a) (fun h=>j6f h.1 h.2.1 h.2.2.1 h.2.2.2):=j03 _ _
def jag [LP] (a:Tn15):S Tn15:=
 let b:=W a.length
 (j6f a b 0 ([]:Tn15)).bind fun c=>M c
def j2w [LP] (b5 o b0 q a4 a6:K) (a7:U) (g j e l f:K) (a:O K) (m:Tn2) (k i p:K) (c:Tn2) (a8 b:K) (z:Tn15) (a2:Tn2):S ((K×K×K×K×K×K×U×K×K×K×K×K×(O K)×Tn2×K×K×K×Tn2×K×K×Tn15×Tn2) ⊕ (K×K×K×K×K×K×U×K×K×K×K×K×(O K)×Tn2×K×K×K×Tn2×Tn15×Tn2)):=cond (N (o<b)) (cond (N (o≥q)) ((j1W (p,c) (a7,(g,((j,e),(l,(f,(a,(m,(k,i)))))))) o).bind fun d=>let b4:=w64 (d+1)
 (j0N (p,c) (a7,(g,((j,e),(l,(f,(a,(m,(k,i)))))))) b4).bind fun n=>cond (!n.2) (let a5:Int:=if 8589934593<b then 8589934593 else b
 let a0:=W a.length
 cond (!(a0==0)) (let a1:=Ã d a0
 cond (inR a1 a.length) (let b7:=L a a1.toNat 0
 let a3:Tn15:=[(o,(a5,b7))]
 cond (N (X z+X a3≤j05)) (let b6:Tn15:=z++a3
 M (.inl (b5,a5,d,8589934593,a4,a6,a7,g,j,e,l,f,a,m,k,i,p,c,a8,b,b6,a2))) Y) Y) Y) (let x:Int:=if n.1<b then n.1 else b
 let y:=W a.length
 cond (!(y==0)) (let t:=Ã d y
 cond (inR t a.length) (let b3:=L a t.toNat 0
 let u:Tn15:=[(o,(x,b3))]
 cond (N (X z+X u≤j05)) (let a9:Tn15:=z++u
 M (.inl (b5,x,d,n.1,a4,a6,a7,g,j,e,l,f,a,m,k,i,p,c,a8,b,a9,a2))) Y) Y) Y)) (let v:Int:=if q<b then q else b
 let w:=W a.length
 cond (!(w==0)) (let r:=Ã b0 w
 cond (inR r a.length) (let b2:=L a r.toNat 0
 let s:Tn15:=[(o,(v,b2))]
 cond (N (X z+X s≤j05)) (let b1:Tn15:=z++s
 M (.inl (b5,v,b0,q,a4,a6,a7,g,j,e,l,f,a,m,k,i,p,c,a8,b,b1,a2))) Y) Y) Y)) (M (.inr (b5,o,b0,q,a4,a6,a7,g,j,e,l,f,a,m,k,i,p,c,z,a2)))
def j2S [LP] (u q r p s t:K) (v:U) (e g c j d:K) (k:O K) (l:Tn2) (i f m:K) (a:Tn2) (n b:K) (w:Tn15) (o:Tn2):S (K×K×K×K×K×K×U×K×K×K×K×K×(O K)×Tn2×K×K×K×Tn2×Tn15×Tn2):=LP.lp (u8 (u8 unc6) j2w) (u,q,r,p,s,t,v,e,g,c,j,d,k,l,i,f,m,a,n,b,w,o)
theorem jcE (u q r p s t v e g c j d k l i f m a n b w o):j2S u q r p s t v e g c j d k l i f m a n b w o=lpK (j2w u q r p s t v e g c j d k l i f m a n b w o) (fun h=>j2S h.1 h.2.1 h.2.2.1 h.2.2.2.1 h.2.2.2.2.1 h.2.2.2.2.2.1 h.2.2.2.2.2.2.1 h.2.2.2.2.2.2.2.1 h.2.2.2.2.2.2.2.2.1 h.2.2.2.2.2.2.2.2.2.1 h.2.2.2.2.2.2.2.2.2.2.1 h.2.2.2.2.2.2.2.2.2.2.2.1 h.2.2.2.2.2.2.2.2.2.2.2.2.1 h.2.2.2.2.2.2.2.2.2.2.2.2.2.1 h.2.2.2.2.2.2.2.2.2.2.2.2.2.2.1 h.2.2.2.2.2.2.2.2.2.2.2.2.2.2.2.1 h.2.2.2.2.2.2.2.2.2.2.2.2.2.2.2.2.1 h.2.2.2.2.2.2.2.2.2.2.2.2.2.2.2.2.2.1 h.2.2.2.2.2.2.2.2.2.2.2.2.2.2.2.2.2.2.1 h.2.2.2.2.2.2.2.2.2.2.2.2.2.2.2.2.2.2.2.1 h.2.2.2.2.2.2.2.2.2.2.2.2.2.2.2.2.2.2.2.2.1 h.2.2.2.2.2.2.2.2.2.2.2.2.2.2.2.2.2.2.2.2.2):=j03 _ _
def j1M [LP] (w j y x k c:K) (z:U) (n p l r m:K) (s:O K) (u:Tn2) (q o v:K) (g:Tn2) (t:Tn15) (e:Tn2):S ((K×K×K×K×K×K×U×K×K×K×K×K×(O K)×Tn2×K×K×K×Tn2×Tn15×Tn2) ⊕ (K×K×Tn15)):=cond (N (c<k)) (cond (inR c e.length) (let b:=L e c.toNat (0,0)
 let d:Tn15:=[(j,(b.1,(-1)))]
 cond (N (X t+X d≤j05)) (let i:Tn15:=t++d
 (j2S w b.1 y x k c z n p l r m s u q o v g b.1 b.2 i e).bind fun a=>let f:=w64 (a.2.2.2.2.2.1+1)
 M (.inl (a.1,a.2.1,a.2.2.1,a.2.2.2.1,a.2.2.2.2.1,f,a.2.2.2.2.2.2.1,a.2.2.2.2.2.2.2.1,a.2.2.2.2.2.2.2.2.1,a.2.2.2.2.2.2.2.2.2.1,a.2.2.2.2.2.2.2.2.2.2.1,a.2.2.2.2.2.2.2.2.2.2.2.1,a.2.2.2.2.2.2.2.2.2.2.2.2.1,a.2.2.2.2.2.2.2.2.2.2.2.2.2.1,a.2.2.2.2.2.2.2.2.2.2.2.2.2.2.1,a.2.2.2.2.2.2.2.2.2.2.2.2.2.2.2.1,a.2.2.2.2.2.2.2.2.2.2.2.2.2.2.2.2.1,a.2.2.2.2.2.2.2.2.2.2.2.2.2.2.2.2.2.1,a.2.2.2.2.2.2.2.2.2.2.2.2.2.2.2.2.2.2.1,a.2.2.2.2.2.2.2.2.2.2.2.2.2.2.2.2.2.2.2))) Y) Y) (M (.inr (w,j,t)))
def j2T [LP] (s o p n q r:K) (t:U) (d f b i c:K) (j:O K) (k:Tn2) (g e l:K) (a:Tn2) (u:Tn15) (m:Tn2):S (K×K×Tn15):=LP.lp (u8 (u8 unc4) j1M) (s,o,p,n,q,r,t,d,f,b,i,c,j,k,g,e,l,a,u,m)
theorem j7q (s o p n q r t d f b i c j k g e l a u m):j2T s o p n q r t d f b i c j k g e l a u m=lpK (j1M s o p n q r t d f b i c j k g e l a u m) (fun h=>j2T h.1 h.2.1 h.2.2.1 h.2.2.2.1 h.2.2.2.2.1 h.2.2.2.2.2.1 h.2.2.2.2.2.2.1 h.2.2.2.2.2.2.2.1 h.2.2.2.2.2.2.2.2.1 h.2.2.2.2.2.2.2.2.2.1 h.2.2.2.2.2.2.2.2.2.2.1 h.2.2.2.2.2.2.2.2.2.2.2.1 h.2.2.2.2.2.2.2.2.2.2.2.2.1 h.2.2.2.2.2.2.2.2.2.2.2.2.2.1 h.2.2.2.2.2.2.2.2.2.2.2.2.2.2.1 h.2.2.2.2.2.2.2.2.2.2.2.2.2.2.2.1 h.2.2.2.2.2.2.2.2.2.2.2.2.2.2.2.2.1 h.2.2.2.2.2.2.2.2.2.2.2.2.2.2.2.2.2.1 h.2.2.2.2.2.2.2.2.2.2.2.2.2.2.2.2.2.2.1 h.2.2.2.2.2.2.2.2.2.2.2.2.2.2.2.2.2.2.2):=j03 _ _
def j3c [LP] (b:Tn76) (a:Tn61) (c d:K):S Tn15:=cond (inR a.2.1 b.2.length) (let i:=L b.2 a.2.1.toNat (0,([]:Tn2))
 (j3U ((b.1.1,(b.1.2.1,(b.1.2.2.1,b.1.2.2.2))),b.2) (a.1,(a.2.1,((a.2.2.1.1,a.2.2.1.2),(a.2.2.2.1,(a.2.2.2.2.1,(a.2.2.2.2.2.1,(a.2.2.2.2.2.2.1,(a.2.2.2.2.2.2.2.1,a.2.2.2.2.2.2.2.2)))))))) c d).bind fun g=>let j:=W g.length
 (j2T d c (-1) (-1) j 0 a.1 a.2.1 a.2.2.1.1 a.2.2.1.2 a.2.2.2.1 a.2.2.2.2.1 a.2.2.2.2.2.1 a.2.2.2.2.2.2.1 a.2.2.2.2.2.2.2.1 a.2.2.2.2.2.2.2.2 i.1 i.2 ([]:Tn15) g).bind fun e=>let f:Tn15:=[(e.2.1,(e.1,(-1)))]
 cond (N (X e.2.2+X f≤j05)) (let k:Tn15:=e.2.2++f
 (jag k).bind fun l=>M l) Y) Y
def j7P [LP] (b:Tn73) (a:Tn61) (c e:K):S (Tn15×K):=(jcA (b.1,(b.2.1,(b.2.2.1,b.2.2.2))) (a.1,(a.2.1,((a.2.2.1.1,a.2.2.1.2),(a.2.2.2.1,(a.2.2.2.2.1,(a.2.2.2.2.2.1,(a.2.2.2.2.2.2.1,(a.2.2.2.2.2.2.2.1,a.2.2.2.2.2.2.2.2)))))))) c e).bind fun g=>cond (g != 0) (M (([]:Tn15),g)) ((jar (b.1,(b.2.1,(b.2.2.1,b.2.2.2)))).bind fun d=>(j3c ((d.1.1,(d.1.2.1,(d.1.2.2.1,d.1.2.2.2))),d.2) (a.1,(a.2.1,((a.2.2.1.1,a.2.2.1.2),(a.2.2.2.1,(a.2.2.2.2.1,(a.2.2.2.2.2.1,(a.2.2.2.2.2.2.1,(a.2.2.2.2.2.2.2.1,a.2.2.2.2.2.2.2.2)))))))) c e).bind fun f=>let i:=W f.length
 cond (N (i>16384)) (M (([]:Tn15),5)) (M (f,0)))
def jcF [LP] (b:Tn73) (a:Tn61) (c e:K):S (Tn2×K):=(jcA (b.1,(b.2.1,(b.2.2.1,b.2.2.2))) (a.1,(a.2.1,((a.2.2.1.1,a.2.2.1.2),(a.2.2.2.1,(a.2.2.2.2.1,(a.2.2.2.2.2.1,(a.2.2.2.2.2.2.1,(a.2.2.2.2.2.2.2.1,a.2.2.2.2.2.2.2.2)))))))) c e).bind fun g=>cond (g != 0) (M (([]:Tn2),g)) ((jar (b.1,(b.2.1,(b.2.2.1,b.2.2.2)))).bind fun d=>(j3U ((d.1.1,(d.1.2.1,(d.1.2.2.1,d.1.2.2.2))),d.2) (a.1,(a.2.1,((a.2.2.1.1,a.2.2.1.2),(a.2.2.2.1,(a.2.2.2.2.1,(a.2.2.2.2.2.1,(a.2.2.2.2.2.2.1,(a.2.2.2.2.2.2.2.1,a.2.2.2.2.2.2.2.2)))))))) c e).bind fun f=>let i:=W f.length
 cond (N (i>4096)) (M (([]:Tn2),5)) (M (f,0)))
def j2L (a:K×K):S Int:=(j54 a.1).bind fun d=>let b:=w64 (d*86400)
 let c:=w64 (b+a.2)
 M c
def j5l (e:K) (d:Tn2) (f b:K):S ((K×Tn2×K×K) ⊕ (Å ⊕ Æ)):=cond (N (b<f)) (cond (inR b d.length) (let a:=L d b.toNat (0,0)
 cond (cond (N (a.1≤e)) (N (e<a.2)) Z) (M (.inr (.inl Â))) (let c:=w64 (b+1)
 M (.inl (e,d,f,c)))) Y) (M (.inr (.inr ())))
def jdc [LP] (a:K) (d:Tn2) (b c:K):S (Å ⊕ Æ):=LP.lp (unc4 j5l) (a,d,b,c)
theorem jfs (b a c d):jdc b a c d=lpK (j5l b a c d) (fun h=>jdc h.1 h.2.1 h.2.2.1 h.2.2.2):=j03 _ _
def jj6 [LP] (a:Tn2) (b:K):S Bool:=
 let d:=W a.length
 (jdc b a d 0).bind fun c=>sumC c (fun e=>M e) (fun f=>M Z)
def j9T (a:K):S Bool:=M (a != a)
def jbu (a b:K):S Bool:=(j9T a).bind fun c=>cond c ((j9T b).bind fun d=>M (cond (!d) Â (N (a<b)))) (M (N (a<b)))
def j71 (a:K):S Bool:=M (a != a)
def j1i (b:O K) (i l d m:K):S (((O K)×K×K×K×K) ⊕ ((O K)×K×K×K)):=cond (N (d<m)) (let g:=w64 (d+m)
 let k:Int:=IntKind.wrap .u64 g
 let j:Int:=Í k 2
 let a:=w64 j
 cond (inR a b.length) (let f:=L b a.toNat 0
 (jbu f i).bind fun c=>cond c (let e:=w64 (a+1)
 M (.inl (b,i,l,e,m))) (M (.inl (b,i,l,d,a)))) Y) (M (.inr (b,i,l,d)))
def j1P [LP] (b:O K) (d c a e:K):S ((O K)×K×K×K):=LP.lp (unc5 j1i) (b,d,c,a,e)
theorem j7Q (b d c a e):j1P b d c a e=lpK (j1i b d c a e) (fun h=>j1P h.1 h.2.1 h.2.2.1 h.2.2.2.1 h.2.2.2.2):=j03 _ _
def j19 [LP] (d:O K) (b:K):S (K×Å):=
 let e:=W d.length
 (j1P d b e 0 e).bind fun a=>cond ((inR a.2.2.2 a.1.length) || !(N (a.2.2.2<a.2.2.1))) (let c:=L a.1 a.2.2.2.toNat 0
 cond ((inR a.2.2.2 a.1.length) || !((N (a.2.2.2<a.2.2.1))&&(!(c==a.2.1)))) (let i:=L a.1 a.2.2.2.toNat 0
 cond (N (a.2.2.2<a.2.2.1)) (cond (c==a.2.1) (M (a.2.2.2,Â)) ((j71 i).bind fun g=>cond g ((j71 a.2.1).bind fun f=>M (a.2.2.2,f)) (M (a.2.2.2,Z)))) (cond ((c==a.2.1) || !Z) (M (a.2.2.2,Z)) Y)) Y) Y
def j21 [LP] (b:Tn76) (a:Tn61) (c:K):S (K×Å):=cond (cond (N (c<0)) Â (N (c>8589934592))) (M (0,Z)) (cond (inR a.2.1 b.2.length) (let g:=L b.2 a.2.1.toNat (0,([]:Tn2))
 (j1W (g.1,g.2) (a.1,(a.2.1,((a.2.2.1.1,a.2.2.1.2),(a.2.2.2.1,(a.2.2.2.2.1,(a.2.2.2.2.2.1,(a.2.2.2.2.2.2.1,(a.2.2.2.2.2.2.2.1,a.2.2.2.2.2.2.2.2)))))))) c).bind fun e=>cond (N (e<0)) (M (0,Z)) (let r:=W a.2.2.2.2.2.2.1.length
 cond (N (r>0)) ((j0o (g.1,g.2) c).bind fun l=>(j2L (l.1,l.2)).bind fun p=>(jj6 a.2.2.2.2.2.2.1 p).bind fun o=>cond (!o) (M (0,Z)) (cond (a.2.2.2.2.2.2.2.2==0) (M (e,Â)) (cond (inR a.2.2.2.2.2.2.2.1 b.1.2.2.1.length) (let i:=L b.1.2.2.1 a.2.2.2.2.2.2.2.1.toNat (J,(0,([]:(O K))))
 cond (inR i.2.1 b.2.length) (let m:=L b.2 i.2.1.toNat (0,([]:Tn2))
 (j0o (m.1,m.2) c).bind fun n=>(j19 i.2.2 n.1).bind fun q=>M (e,(q.2==(a.2.2.2.2.2.2.2.2==2)))) Y) Y))) (cond (a.2.2.2.2.2.2.2.2==0) (M (e,Â)) (cond (inR a.2.2.2.2.2.2.2.1 b.1.2.2.1.length) (let d:=L b.1.2.2.1 a.2.2.2.2.2.2.2.1.toNat (J,(0,([]:(O K))))
 cond (inR d.2.1 b.2.length) (let f:=L b.2 d.2.1.toNat (0,([]:Tn2))
 (j0o (f.1,f.2) c).bind fun k=>(j19 d.2.2 k.1).bind fun j=>M (e,(j.2==(a.2.2.2.2.2.2.2.2==2)))) Y) Y)))) Y)
def j3j [LP] (b:Tn76) (a:Tn61) (f:K):S Int:=(j21 ((b.1.1,(b.1.2.1,(b.1.2.2.1,b.1.2.2.2))),b.2) (a.1,(a.2.1,((a.2.2.1.1,a.2.2.1.2),(a.2.2.2.1,(a.2.2.2.2.1,(a.2.2.2.2.2.1,(a.2.2.2.2.2.2.1,(a.2.2.2.2.2.2.2.1,a.2.2.2.2.2.2.2.2)))))))) f).bind fun e=>cond (!e.2) (M (-1)) (let d:=W a.2.2.2.2.2.1.length
 cond (!(d==0)) (let c:=Ã e.1 d
 cond (inR c a.2.2.2.2.2.1.length) (let g:=L a.2.2.2.2.2.1 c.toNat 0
 M g) Y) Y)
def j5T [LP] (b:Tn73) (a:Tn61) (d:K):S Int:=(j7I (b.1,(b.2.1,(b.2.2.1,b.2.2.2))) (a.1,(a.2.1,((a.2.2.1.1,a.2.2.1.2),(a.2.2.2.1,(a.2.2.2.2.1,(a.2.2.2.2.2.1,(a.2.2.2.2.2.2.1,(a.2.2.2.2.2.2.2.1,a.2.2.2.2.2.2.2.2))))))))).bind fun f=>cond (!f) (M (-1)) ((jar (b.1,(b.2.1,(b.2.2.1,b.2.2.2)))).bind fun c=>(j3j ((c.1.1,(c.1.2.1,(c.1.2.2.1,c.1.2.2.2))),c.2) (a.1,(a.2.1,((a.2.2.1.1,a.2.2.1.2),(a.2.2.2.1,(a.2.2.2.2.1,(a.2.2.2.2.2.1,(a.2.2.2.2.2.2.1,(a.2.2.2.2.2.2.2.1,a.2.2.2.2.2.2.2.2)))))))) d).bind fun e=>M e)
def jfZ [LP] (b:Tn73) (a:Tn61) (d:K):S Bool:=(j7I (b.1,(b.2.1,(b.2.2.1,b.2.2.2))) (a.1,(a.2.1,((a.2.2.1.1,a.2.2.1.2),(a.2.2.2.1,(a.2.2.2.2.1,(a.2.2.2.2.2.1,(a.2.2.2.2.2.2.1,(a.2.2.2.2.2.2.2.1,a.2.2.2.2.2.2.2.2))))))))).bind fun e=>cond (!e) (M Z) ((jar (b.1,(b.2.1,(b.2.2.1,b.2.2.2)))).bind fun c=>(j21 ((c.1.1,(c.1.2.1,(c.1.2.2.1,c.1.2.2.2))),c.2) (a.1,(a.2.1,((a.2.2.1.1,a.2.2.1.2),(a.2.2.2.1,(a.2.2.2.2.1,(a.2.2.2.2.2.1,(a.2.2.2.2.2.2.1,(a.2.2.2.2.2.2.2.1,a.2.2.2.2.2.2.2.2)))))))) d).bind fun f=>M f.2)
def jf6 [LP]  : S Bool:=(jjW).bind fun a=>(j7P (a.1.1,(a.1.2.1,(a.1.2.2.1,a.1.2.2.2))) (a.2.1,(a.2.2.1,((a.2.2.2.1.1,a.2.2.2.1.2),(a.2.2.2.2.1,(a.2.2.2.2.2.1,(a.2.2.2.2.2.2.1,(a.2.2.2.2.2.2.2.1,(a.2.2.2.2.2.2.2.2.1,a.2.2.2.2.2.2.2.2.2)))))))) 950400 1036800).bind fun b=>(jcF (a.1.1,(a.1.2.1,(a.1.2.2.1,a.1.2.2.2))) (a.2.1,(a.2.2.1,((a.2.2.2.1.1,a.2.2.2.1.2),(a.2.2.2.2.1,(a.2.2.2.2.2.1,(a.2.2.2.2.2.2.1,(a.2.2.2.2.2.2.2.1,(a.2.2.2.2.2.2.2.2.1,a.2.2.2.2.2.2.2.2.2)))))))) 950400 1036800).bind fun c=>cond (cond (b.2==0) (c.2==0) Z) ((j5T (a.1.1,(a.1.2.1,(a.1.2.2.1,a.1.2.2.2))) (a.2.1,(a.2.2.1,((a.2.2.2.1.1,a.2.2.2.1.2),(a.2.2.2.2.1,(a.2.2.2.2.2.1,(a.2.2.2.2.2.2.1,(a.2.2.2.2.2.2.2.1,(a.2.2.2.2.2.2.2.2.1,a.2.2.2.2.2.2.2.2.2)))))))) 993600).bind fun m=>cond (m==1) ((j5T (a.1.1,(a.1.2.1,(a.1.2.2.1,a.1.2.2.2))) (a.2.1,(a.2.2.1,((a.2.2.2.1.1,a.2.2.2.1.2),(a.2.2.2.2.1,(a.2.2.2.2.2.1,(a.2.2.2.2.2.2.1,(a.2.2.2.2.2.2.2.1,(a.2.2.2.2.2.2.2.2.1,a.2.2.2.2.2.2.2.2.2)))))))) 1015200).bind fun n=>cond (n==(-1)) ((jfZ (a.1.1,(a.1.2.1,(a.1.2.2.1,a.1.2.2.2))) (a.2.1,(a.2.2.1,((a.2.2.2.1.1,a.2.2.2.1.2),(a.2.2.2.2.1,(a.2.2.2.2.2.1,(a.2.2.2.2.2.2.1,(a.2.2.2.2.2.2.2.1,(a.2.2.2.2.2.2.2.2.1,a.2.2.2.2.2.2.2.2.2)))))))) 993600).bind fun j=>let i:=W b.1.length
 cond ((inR 1 b.1.length) || !(cond j (i==3) Z)) (let g:=L b.1 1 (0,(0,0))
 let l:Bool:=cond (cond j (i==3) Z) ((g.1==982800)&&((g.2.1==1011600)&&(g.2.2==1))) Z
 let k:=W c.1.length
 cond ((inR 0 c.1.length) || !(cond l (k==1) Z)) (let o:=(L c.1 0 (0,0)).1
 M (cond (cond l (k==1) Z) (o==982800) Z)) Y) Y) (let z:=W b.1.length
 cond ((inR 1 b.1.length) || !Z) (let e:=L b.1 1 (0,(0,0))
 let a0:Bool:=(e.1==982800)&&((e.2.1==1011600)&&(e.2.2==1))
 let x:=W c.1.length
 cond ((inR 0 c.1.length) || !Z) (let v:=(L c.1 0 (0,0)).1
 M Z) Y) Y)) (let p:=W b.1.length
 cond ((inR 1 b.1.length) || !Z) (let f:=L b.1 1 (0,(0,0))
 let q:Bool:=(f.1==982800)&&((f.2.1==1011600)&&(f.2.2==1))
 let s:=W c.1.length
 cond ((inR 0 c.1.length) || !Z) (let w:=(L c.1 0 (0,0)).1
 M Z) Y) Y)) (let u:=W b.1.length
 cond ((inR 1 b.1.length) || !Z) (let d:=L b.1 1 (0,(0,0))
 let r:Bool:=(d.1==982800)&&((d.2.1==1011600)&&(d.2.2==1))
 let t:=W c.1.length
 cond ((inR 0 c.1.length) || !Z) (let y:=(L c.1 0 (0,0)).1
 M Z) Y) Y)
def jjY (a:O K):S ((O K)×K):=M (a,0)
def j02 (b:O K) (a c:K):S (K×(O K)×K):=
 let i:=W b.length
 cond (N (a≥i)) (M (0,b,a)) (cond (N (c<1)) (M (0,b,a)) (cond (inR a b.length) (let g:=L b a.toNat 0
 cond (!(c==0)) (let d:=Ã g c
 let e:=w64 (a+1)
 cond (N (d<0)) (let f:=w64 (d+c)
 M (f,b,e)) (M (d,b,e))) Y) Y))
def j0a (d:O K) (b:K) (a:O K):S (K×(O K)×K):=
 let f:=W a.length
 (j02 d b f).bind fun c=>cond (inR c.1 a.length) (let e:=L a c.1.toNat 0
 M (e,c.2.1,c.2.2)) Y
def j8I (a0:O K) (m:K) (a:U):S (Tn54×(O K)×K):=
 let a7:O Int:=[0,4,(-20),22,48,(-47)]
 (j0a a0 m a7).bind fun i=>(j02 i.2.1 i.2.2 2).bind fun u=>(j02 u.2.1 u.2.2 3).bind fun q=>let a9:=w64 (u.1*q.1)
 let a3:=w64 (i.1+a9)
 let c:=w64 (900*a3)
 (j02 q.2.1 q.2.2 2).bind fun n=>let g:=w64 (2025+n.1)
 (j02 n.2.1 n.2.2 4).bind fun b=>cond (b.1==1) (let a4:=w64 (c+3600)
 let b5:Tn44:=[(2025,(g,(3,(5,(6,(7200,a4)))))),(2025,(g,(10,(5,(6,(10800,c))))))]
 M ((a,(c,b5)),b.2.1,b.2.2)) (cond (b.1==2) ((j02 b.2.1 b.2.2 4).bind fun r=>let b2:=w64 (1+r.1)
 (j02 r.2.1 r.2.2 7).bind fun j=>(j02 j.2.1 j.2.2 24).bind fun s=>let a1:=w64 (3600*s.1)
 (j02 s.2.1 s.2.2 8).bind fun o=>let b3:=w64 (1+o.1)
 let b6:=w64 (1800*b3)
 let b7:=w64 (c+b6)
 (j02 o.2.1 o.2.2 2).bind fun v=>let a5:=w64 (2+v.1)
 let a2:O Int:=[2,3,5]
 (j0a v.2.1 v.2.2 a2).bind fun k=>(j02 k.2.1 k.2.2 7).bind fun p=>(j02 p.2.1 p.2.2 24).bind fun l=>let a8:=w64 (3600*l.1)
 let b0:Tn44:=[(2025,(g,(1,(b2,(j.1,(a1,b7)))))),(2025,(g,(a5,(k.1,(p.1,(a8,c))))))]
 M ((a,(c,b0)),l.2.1,l.2.2)) (cond (b.1==3) (let b4:O Int:=[3600,(-3600),82800,(-82800),43200]
 (j0a b.2.1 b.2.2 b4).bind fun f=>let x:=w64 (c+f.1)
 cond (cond (N (x>64800)) Â (N (x<(-64800)))) ((j02 f.2.1 f.2.2 7).bind fun t=>(j02 t.2.1 t.2.2 48).bind fun w=>let a6:=w64 (1800*w.1)
 let b1:Tn44:=[(2026,(2026,(1,(2,(t.1,(a6,0))))))]
 M ((a,(c,b1)),w.2.1,w.2.2)) ((j02 f.2.1 f.2.2 7).bind fun e=>(j02 e.2.1 e.2.2 48).bind fun d=>let y:=w64 (1800*d.1)
 let z:Tn44:=[(2026,(2026,(1,(2,(e.1,(y,x))))))]
 M ((a,(c,z)),d.2.1,d.2.2))) (M ((a,(c,([]:Tn44))),b.2.1,b.2.2))))
def jcG  : S (O U):=
 let a:O ByteArray:=[(À #[97,100,97]),(À #[98,111,98]),(À #[99,108,101,111]),(À #[100,97,110]),(À #[101,118,101]),(À #[102,97,121]),(À #[103,117,115]),(À #[104,97,108])]
 M a
def j11 (c:O K) (b a:K):S (Å×(O K)×K):=(j02 c b a).bind fun d=>let e:=w64 (a-1)
 M ((d.1==e),d.2.1,d.2.2)
def j1U (r p:K) (q:O K) (g:K) (i:Tn2):S ((K×K×(O K)×K×Tn2) ⊕ ((O K)×K×Tn2)):=cond (N (p>0)) ((j02 q g 30).bind fun c=>let k:=w64 (3600*c.1)
 let o:=w64 (r+k)
 (j02 c.2.1 c.2.2 2).bind fun d=>let j:=w64 (60*d.1)
 let f:=w64 (o+j)
 let l:O Int:=[3600,28800,43200,86400,61,1]
 (j0a d.2.1 d.2.2 l).bind fun a=>let b:=w64 (f+a.1)
 cond (N (b>604800)) (M (.inr (a.2.1,a.2.2,i))) (let e:Tn2:=[(f,b)]
 cond (N (X i+X e≤j05)) (let n:Tn2:=i++e
 let m:=w64 (p-1)
 M (.inl (b,m,a.2.1,a.2.2,n))) Y)) (M (.inr (q,g,i)))
def j4E [LP] (d b:K) (e:O K) (a:K) (c:Tn2):S ((O K)×K×Tn2):=LP.lp (unc5 j1U) (d,b,e,a,c)
theorem j7R (d b e a c):j4E d b e a c=lpK (j1U d b e a c) (fun h=>j4E h.1 h.2.1 h.2.2.1 h.2.2.2.1 h.2.2.2.2):=j03 _ _
def j3L [LP] (c:O K) (a:K):S (Tn2×(O K)×K):=(j02 c a 4).bind fun b=>(j4E 0 b.1 b.2.1 b.2.2 ([]:Tn2)).bind fun d=>M (d.2.2,d.1,d.2.1)
def j2d (k:K) (l:O K) (f:K) (b:Tn56):S ((K×(O K)×K×Tn56) ⊕ ((O K)×K×Tn56)):=cond (N (k>0)) (let c:O ByteArray:=[(À #[104,101,114,101]),(À #[116,104,101,114,101])]
 let e:=W b.length
 cond (inR e c.length) (let j:=L c e.toNat J
 (j8I l f j).bind fun a=>let d:Tn56:=[(a.1.1,(a.1.2.1,a.1.2.2))]
 cond (N (X b+X d≤j05)) (let i:Tn56:=b++d
 let g:=w64 (k-1)
 M (.inl (g,a.2.1,a.2.2,i))) Y) Y) (M (.inr (l,f,b)))
def j5D [LP] (d:K) (c:O K) (a:K) (b:Tn56):S ((O K)×K×Tn56):=LP.lp (unc4 j2d) (d,c,a,b)
theorem j95 (c d a b):j5D c d a b=lpK (j2d c d a b) (fun h=>j5D h.1 h.2.1 h.2.2.1 h.2.2.2):=j03 _ _
def j2e [LP] (a4:K) (a5:O K) (q:K) (e:Tn56) (b:Tn50):S ((K×(O K)×K×Tn56×Tn50) ⊕ ((O K)×K×Tn56×Tn50)):=cond (N (a4>0)) ((jcG).bind fun m=>let p:=W b.length
 cond (inR p m.length) (let o:=L m p.toNat J
 let y:=W e.length
 (j02 a5 q y).bind fun c=>(j11 c.2.1 c.2.2 3).bind fun d=>(j11 d.2.1 d.2.2 2).bind fun a=>cond a.1 ((j3L a.2.1 a.2.2).bind fun f=>let t:O Int:=[0,40,100,12]
 (j0a f.2.1 f.2.2 t).bind fun g=>let s:=w64 (3600*g.1)
 let r:O Int:=[0,11,24,1]
 (j0a g.2.1 g.2.2 r).bind fun i=>let z:=w64 (3600*i.1)
 let n:Tn50:=[(o,(c.1,(f.1,(s,(z,d.1)))))]
 cond (N (X b+X n≤j05)) (let u:Tn50:=b++n
 let w:=w64 (a4-1)
 M (.inl (w,i.2.1,i.2.2,e,u))) Y) (let a3:O Int:=[0,40,100,12]
 (j0a a.2.1 a.2.2 a3).bind fun j=>let a0:=w64 (3600*j.1)
 let a2:O Int:=[0,11,24,1]
 (j0a j.2.1 j.2.2 a2).bind fun k=>let v:=w64 (3600*k.1)
 let l:Tn50:=[(o,(c.1,(([]:Tn2),(a0,(v,d.1)))))]
 cond (N (X b+X l≤j05)) (let a1:Tn50:=b++l
 let x:=w64 (a4-1)
 M (.inl (x,k.2.1,k.2.2,e,a1))) Y)) Y) (M (.inr (a5,q,e,b)))
def j5E [LP] (d:K) (e:O K) (a:K) (c:Tn56) (b:Tn50):S ((O K)×K×Tn56×Tn50):=LP.lp (unc5 j2e) (d,e,a,c,b)
theorem j96 (d e a c b):j5E d e a c b=lpK (j2e d e a c b) (fun h=>j5E h.1 h.2.1 h.2.2.1 h.2.2.2.1 h.2.2.2.2):=j03 _ _
def j2f (m p n:K) (q:O K) (e:K) (o:U) (j:K) (d:Tn56) (g:Tn50) (i:Tn27) (c:O K):S ((K×K×K×(O K)×K×U×K×Tn56×Tn50×Tn27×(O K)) ⊕ (K×(O K)×K×U×K×Tn56×Tn50×Tn27×(O K))):=cond (N (p>0)) ((j02 q e 6).bind fun b=>let k:=w64 (1+b.1)
 let a:=w64 (n+k)
 cond (N (X c+X [a]≤j05)) (let f:O Int:=c++[a]
 let l:=w64 (p-1)
 M (.inl (m,l,a,b.2.1,b.2.2,o,j,d,g,i,f))) Y) (M (.inr (m,q,e,o,j,d,g,i,c)))
def j5F [LP] (i k g:K) (l:O K) (b:K) (j:U) (f:K) (a:Tn56) (d:Tn50) (e:Tn27) (c:O K):S (K×(O K)×K×U×K×Tn56×Tn50×Tn27×(O K)):=LP.lp (u8 unc3 j2f) (i,k,g,l,b,j,f,a,d,e,c)
theorem j97 (i k g l b j f a d e c):j5F i k g l b j f a d e c=lpK (j2f i k g l b j f a d e c) (fun h=>j5F h.1 h.2.1 h.2.2.1 h.2.2.2.1 h.2.2.2.2.1 h.2.2.2.2.2.1 h.2.2.2.2.2.2.1 h.2.2.2.2.2.2.2.1 h.2.2.2.2.2.2.2.2.1 h.2.2.2.2.2.2.2.2.2.1 h.2.2.2.2.2.2.2.2.2.2):=j03 _ _
def j2g [LP] (m:K) (n:O K) (f:K) (e:Tn56) (g:Tn50) (j:Tn27):S ((K×(O K)×K×Tn56×Tn50×Tn27) ⊕ ((O K)×K×Tn56×Tn50×Tn27)):=cond (N (m>0)) (let k:=W e.length
 (j02 n f k).bind fun c=>(j02 c.2.1 c.2.2 4).bind fun b=>(j5F m b.1 20454 b.2.1 b.2.2 (À #[100,97,121,115]) c.1 e g j ([]:(O K))).bind fun a=>let d:Tn27:=[(a.2.2.2.1,(a.2.2.2.2.1,a.2.2.2.2.2.2.2.2))]
 cond (N (X a.2.2.2.2.2.2.2.1+X d≤j05)) (let i:Tn27:=a.2.2.2.2.2.2.2.1++d
 let l:=w64 (a.1-1)
 M (.inl (l,a.2.1,a.2.2.1,a.2.2.2.2.2.1,a.2.2.2.2.2.2.1,i))) Y) (M (.inr (n,f,e,g,j)))
def j5G [LP] (e:K) (f:O K) (a:K) (d:Tn56) (b:Tn50) (c:Tn27):S ((O K)×K×Tn56×Tn50×Tn27):=LP.lp (unc6 j2g) (e,f,a,d,b,c)
theorem j98 (e f a d b c):j5G e f a d b c=lpK (j2g e f a d b c) (fun h=>j5G h.1 h.2.1 h.2.2.1 h.2.2.2.1 h.2.2.2.2.1 h.2.2.2.2.2):=j03 _ _
def j7S [LP] (g:O K) (e:K):S (Tn73×(O K)×K):=(j02 g e 2).bind fun d=>let j:=w64 (1+d.1)
 (j5D j d.2.1 d.2.2 ([]:Tn56)).bind fun i=>(j02 i.1 i.2.1 4).bind fun a=>let k:=w64 (1+a.1)
 (j5E k a.2.1 a.2.2 i.2.2 ([]:Tn50)).bind fun f=>(j02 f.1 f.2.1 2).bind fun b=>(j5G b.1 b.2.1 b.2.2 f.2.2.1 f.2.2.2 ([]:Tn27)).bind fun c=>M ((c.2.2.1,(c.2.2.2.1,(c.2.2.2.2,([]:Tn67)))),c.1,c.2.1)
def j2h (a0:K) (a2:O K) (l:K) (y:Tn56) (b:Tn50) (t:Tn27) (d:Tn67) (a1:U) (o j i f e g m:K) (z:U) (k s q r n p u:K) (c:O K):S ((K×(O K)×K×Tn56×Tn50×Tn27×Tn67×U×K×K×K×K×K×K×K×U×K×K×K×K×K×K×K×(O K)) ⊕ ((O K)×K×Tn56×Tn50×Tn27×Tn67×U×K×K×K×K×K×K×K×U×K×K×K×K×K×K×K×(O K))):=cond (N (a0>0)) (let v:=W b.length
 (j02 a2 l v).bind fun a=>cond (N (X c+X [a.1]≤j05)) (let w:O Int:=c++[a.1]
 let x:=w64 (a0-1)
 M (.inl (x,a.2.1,a.2.2,y,b,t,d,a1,o,j,i,f,e,g,m,z,k,s,q,r,n,p,u,w))) Y) (M (.inr (a2,l,y,b,t,d,a1,o,j,i,f,e,g,m,z,k,s,q,r,n,p,u,c)))
def j4f [LP] (w:K) (y:O K) (i:K) (u:Tn56) (l:Tn50) (s:Tn27) (a:Tn67) (x:U) (m f e c b d j:K) (v:U) (g r p q k o t:K) (n:O K):S ((O K)×K×Tn56×Tn50×Tn27×Tn67×U×K×K×K×K×K×K×K×U×K×K×K×K×K×K×K×(O K)):=LP.lp (u8 (u8 unc8) j2h) (w,y,i,u,l,s,a,x,m,f,e,c,b,d,j,v,g,r,p,q,k,o,t,n)
theorem j99 (w y i u l s a x m f e c b d j v g r p q k o t n):j4f w y i u l s a x m f e c b d j v g r p q k o t n=lpK (j2h w y i u l s a x m f e c b d j v g r p q k o t n) (fun h=>j4f h.1 h.2.1 h.2.2.1 h.2.2.2.1 h.2.2.2.2.1 h.2.2.2.2.2.1 h.2.2.2.2.2.2.1 h.2.2.2.2.2.2.2.1 h.2.2.2.2.2.2.2.2.1 h.2.2.2.2.2.2.2.2.2.1 h.2.2.2.2.2.2.2.2.2.2.1 h.2.2.2.2.2.2.2.2.2.2.2.1 h.2.2.2.2.2.2.2.2.2.2.2.2.1 h.2.2.2.2.2.2.2.2.2.2.2.2.2.1 h.2.2.2.2.2.2.2.2.2.2.2.2.2.2.1 h.2.2.2.2.2.2.2.2.2.2.2.2.2.2.2.1 h.2.2.2.2.2.2.2.2.2.2.2.2.2.2.2.2.1 h.2.2.2.2.2.2.2.2.2.2.2.2.2.2.2.2.2.1 h.2.2.2.2.2.2.2.2.2.2.2.2.2.2.2.2.2.2.1 h.2.2.2.2.2.2.2.2.2.2.2.2.2.2.2.2.2.2.2.1 h.2.2.2.2.2.2.2.2.2.2.2.2.2.2.2.2.2.2.2.2.1 h.2.2.2.2.2.2.2.2.2.2.2.2.2.2.2.2.2.2.2.2.2.1 h.2.2.2.2.2.2.2.2.2.2.2.2.2.2.2.2.2.2.2.2.2.2.1 h.2.2.2.2.2.2.2.2.2.2.2.2.2.2.2.2.2.2.2.2.2.2.2):=j03 _ _
def j5U [LP] (b5:O K) (a0:K) (c:Tn73) (j:U):S (Tn61×(O K)×K):=
 let c4:=W c.1.length
 (j02 b5 a0 c4).bind fun v=>(j02 v.2.1 v.2.2 6).bind fun y=>let b9:=w64 (20454+y.1)
 let b4:=w64 (b9-2)
 let c2:O Int:=[0,32400,7200,9000,79200,1]
 (j0a y.2.1 y.2.2 c2).bind fun w=>(j02 w.2.1 w.2.2 3).bind fun s=>(j02 s.2.1 s.2.2 2).bind fun u=>let b7:=w64 (1+u.1)
 cond (s.1==0) (let c1:O Int:=[6,8,12,24,23,49]
 (j0a u.2.1 u.2.2 c1).bind fun a3=>(j02 a3.2.1 a3.2.2 3).bind fun a1=>let c0:=w64 (1+a1.1)
 (j4f c0 a1.2.1 a1.2.2 c.1 c.2.1 c.2.2.1 c.2.2.2 J 0 0 0 0 0 0 0 j v.1 b4 w.1 s.1 a3.1 0 0 ([]:(O K))).bind fun b=>(j11 b.1 b.2.1 2).bind fun r=>cond r.1 ((j3L r.2.1 r.2.2).bind fun x=>(j11 x.2.1 x.2.2 4).bind fun t=>let c3:=W b.2.2.2.2.1.length
 cond (cond t.1 (N (c3>0)) Z) (let b8:=W b.2.2.2.2.1.length
 (j02 t.2.1 t.2.2 b8).bind fun a2=>(j02 a2.2.1 a2.2.2 2).bind fun z=>let b6:=w64 (1+z.1)
 M ((b.2.2.2.2.2.2.2.2.2.2.2.2.2.2.1,(b.2.2.2.2.2.2.2.2.2.2.2.2.2.2.2.1,((b.2.2.2.2.2.2.2.2.2.2.2.2.2.2.2.2.1,b.2.2.2.2.2.2.2.2.2.2.2.2.2.2.2.2.2.1),(b.2.2.2.2.2.2.2.2.2.2.2.2.2.2.2.2.2.2.1,(b.2.2.2.2.2.2.2.2.2.2.2.2.2.2.2.2.2.2.2.1,(b.2.2.2.2.2.2.2.2.2.2.2.2.2.2.2.2.2.2.2.2.2.2,(x.1,(a2.1,b6)))))))),z.2.1,z.2.2)) (M ((b.2.2.2.2.2.2.2.2.2.2.2.2.2.2.1,(b.2.2.2.2.2.2.2.2.2.2.2.2.2.2.2.1,((b.2.2.2.2.2.2.2.2.2.2.2.2.2.2.2.2.1,b.2.2.2.2.2.2.2.2.2.2.2.2.2.2.2.2.2.1),(b.2.2.2.2.2.2.2.2.2.2.2.2.2.2.2.2.2.2.1,(b.2.2.2.2.2.2.2.2.2.2.2.2.2.2.2.2.2.2.2.1,(b.2.2.2.2.2.2.2.2.2.2.2.2.2.2.2.2.2.2.2.2.2.2,(x.1,(b.2.2.2.2.2.2.2.2.2.2.2.2.2.2.2.2.2.2.2.2.1,b.2.2.2.2.2.2.2.2.2.2.2.2.2.2.2.2.2.2.2.2.2.1)))))))),t.2.1,t.2.2))) ((j11 r.2.1 r.2.2 4).bind fun d=>let a9:=W b.2.2.2.2.1.length
 cond (cond d.1 (N (a9>0)) Z) (let b0:=W b.2.2.2.2.1.length
 (j02 d.2.1 d.2.2 b0).bind fun k=>(j02 k.2.1 k.2.2 2).bind fun l=>let a5:=w64 (1+l.1)
 M ((b.2.2.2.2.2.2.2.2.2.2.2.2.2.2.1,(b.2.2.2.2.2.2.2.2.2.2.2.2.2.2.2.1,((b.2.2.2.2.2.2.2.2.2.2.2.2.2.2.2.2.1,b.2.2.2.2.2.2.2.2.2.2.2.2.2.2.2.2.2.1),(b.2.2.2.2.2.2.2.2.2.2.2.2.2.2.2.2.2.2.1,(b.2.2.2.2.2.2.2.2.2.2.2.2.2.2.2.2.2.2.2.1,(b.2.2.2.2.2.2.2.2.2.2.2.2.2.2.2.2.2.2.2.2.2.2,(([]:Tn2),(k.1,a5)))))))),l.2.1,l.2.2)) (M ((b.2.2.2.2.2.2.2.2.2.2.2.2.2.2.1,(b.2.2.2.2.2.2.2.2.2.2.2.2.2.2.2.1,((b.2.2.2.2.2.2.2.2.2.2.2.2.2.2.2.2.1,b.2.2.2.2.2.2.2.2.2.2.2.2.2.2.2.2.2.1),(b.2.2.2.2.2.2.2.2.2.2.2.2.2.2.2.2.2.2.1,(b.2.2.2.2.2.2.2.2.2.2.2.2.2.2.2.2.2.2.2.1,(b.2.2.2.2.2.2.2.2.2.2.2.2.2.2.2.2.2.2.2.2.2.2,(([]:Tn2),(b.2.2.2.2.2.2.2.2.2.2.2.2.2.2.2.2.2.2.2.2.1,b.2.2.2.2.2.2.2.2.2.2.2.2.2.2.2.2.2.2.2.2.2.1)))))))),d.2.1,d.2.2)))) ((j02 u.2.1 u.2.2 3).bind fun m=>let b3:=w64 (1+m.1)
 (j4f b3 m.2.1 m.2.2 c.1 c.2.1 c.2.2.1 c.2.2.2 J 0 0 0 0 0 0 0 j v.1 b4 w.1 s.1 b7 0 0 ([]:(O K))).bind fun a=>(j11 a.1 a.2.1 2).bind fun f=>cond f.1 ((j3L f.2.1 f.2.2).bind fun i=>(j11 i.2.1 i.2.2 4).bind fun e=>let a7:=W a.2.2.2.2.1.length
 cond (cond e.1 (N (a7>0)) Z) (let b2:=W a.2.2.2.2.1.length
 (j02 e.2.1 e.2.2 b2).bind fun p=>(j02 p.2.1 p.2.2 2).bind fun n=>let a8:=w64 (1+n.1)
 M ((a.2.2.2.2.2.2.2.2.2.2.2.2.2.2.1,(a.2.2.2.2.2.2.2.2.2.2.2.2.2.2.2.1,((a.2.2.2.2.2.2.2.2.2.2.2.2.2.2.2.2.1,a.2.2.2.2.2.2.2.2.2.2.2.2.2.2.2.2.2.1),(a.2.2.2.2.2.2.2.2.2.2.2.2.2.2.2.2.2.2.1,(a.2.2.2.2.2.2.2.2.2.2.2.2.2.2.2.2.2.2.2.1,(a.2.2.2.2.2.2.2.2.2.2.2.2.2.2.2.2.2.2.2.2.2.2,(i.1,(p.1,a8)))))))),n.2.1,n.2.2)) (M ((a.2.2.2.2.2.2.2.2.2.2.2.2.2.2.1,(a.2.2.2.2.2.2.2.2.2.2.2.2.2.2.2.1,((a.2.2.2.2.2.2.2.2.2.2.2.2.2.2.2.2.1,a.2.2.2.2.2.2.2.2.2.2.2.2.2.2.2.2.2.1),(a.2.2.2.2.2.2.2.2.2.2.2.2.2.2.2.2.2.2.1,(a.2.2.2.2.2.2.2.2.2.2.2.2.2.2.2.2.2.2.2.1,(a.2.2.2.2.2.2.2.2.2.2.2.2.2.2.2.2.2.2.2.2.2.2,(i.1,(a.2.2.2.2.2.2.2.2.2.2.2.2.2.2.2.2.2.2.2.2.1,a.2.2.2.2.2.2.2.2.2.2.2.2.2.2.2.2.2.2.2.2.2.1)))))))),e.2.1,e.2.2))) ((j11 f.2.1 f.2.2 4).bind fun g=>let b1:=W a.2.2.2.2.1.length
 cond (cond g.1 (N (b1>0)) Z) (let a6:=W a.2.2.2.2.1.length
 (j02 g.2.1 g.2.2 a6).bind fun o=>(j02 o.2.1 o.2.2 2).bind fun q=>let a4:=w64 (1+q.1)
 M ((a.2.2.2.2.2.2.2.2.2.2.2.2.2.2.1,(a.2.2.2.2.2.2.2.2.2.2.2.2.2.2.2.1,((a.2.2.2.2.2.2.2.2.2.2.2.2.2.2.2.2.1,a.2.2.2.2.2.2.2.2.2.2.2.2.2.2.2.2.2.1),(a.2.2.2.2.2.2.2.2.2.2.2.2.2.2.2.2.2.2.1,(a.2.2.2.2.2.2.2.2.2.2.2.2.2.2.2.2.2.2.2.1,(a.2.2.2.2.2.2.2.2.2.2.2.2.2.2.2.2.2.2.2.2.2.2,(([]:Tn2),(o.1,a4)))))))),q.2.1,q.2.2)) (M ((a.2.2.2.2.2.2.2.2.2.2.2.2.2.2.1,(a.2.2.2.2.2.2.2.2.2.2.2.2.2.2.2.1,((a.2.2.2.2.2.2.2.2.2.2.2.2.2.2.2.2.1,a.2.2.2.2.2.2.2.2.2.2.2.2.2.2.2.2.2.1),(a.2.2.2.2.2.2.2.2.2.2.2.2.2.2.2.2.2.2.1,(a.2.2.2.2.2.2.2.2.2.2.2.2.2.2.2.2.2.2.2.1,(a.2.2.2.2.2.2.2.2.2.2.2.2.2.2.2.2.2.2.2.2.2.2,(([]:Tn2),(a.2.2.2.2.2.2.2.2.2.2.2.2.2.2.2.2.2.2.2.2.1,a.2.2.2.2.2.2.2.2.2.2.2.2.2.2.2.2.2.2.2.2.2.1)))))))),g.2.1,g.2.2))))
def j3M (d:O K) (b:K):S (K×(O K)×K):=(j02 d b 576).bind fun e=>let j:=w64 (3600*e.1)
 let f:=w64 (1767139200+j)
 (j11 e.2.1 e.2.2 3).bind fun a=>cond a.1 (let g:O Int:=[(-1),1,1800,3599]
 (j0a a.2.1 a.2.2 g).bind fun c=>let i:=w64 (f+c.1)
 M (i,c.2.1,c.2.2)) (M (f,a.2.1,a.2.2))
def j5w (m:O K) (l:K) (n:(O Æ)×((O Æ)×((O Æ)×(O Æ)))):S (Tn25×(O K)×K):=
 let k:=W n.2.1.length
 (j02 m l 3).bind fun a=>(j02 a.2.1 a.2.2 k).bind fun e=>(j3M e.2.1 e.2.2).bind fun b=>let q:O Int:=[3600,86400,7,259200,40000]
 (j0a b.2.1 b.2.2 q).bind fun c=>let f:=w64 (b.1+c.1)
 cond (a.1==2) (cond (N (k<2)) (M ((0,(e.1,(0,(b.1,f)))),c.2.1,c.2.2)) (let r:=w64 (e.1+1)
 let o:=w64 (k-1)
 (j02 c.2.1 c.2.2 o).bind fun i=>let p:=w64 (r+i.1)
 cond (!(k==0)) (let j:=Ã p k
 cond (a.1==1) ((j11 i.2.1 i.2.2 4).bind fun g=>cond g.1 (M ((a.1,((-1),(j,(b.1,f)))),g.2.1,g.2.2)) (M ((a.1,(e.1,(j,(b.1,f)))),g.2.1,g.2.2))) (M ((a.1,(e.1,(j,(b.1,f)))),i.2.1,i.2.2))) Y)) (cond (a.1==1) ((j11 c.2.1 c.2.2 4).bind fun d=>cond d.1 (M ((a.1,((-1),(0,(b.1,f)))),d.2.1,d.2.2)) (M ((a.1,(e.1,(0,(b.1,f)))),d.2.1,d.2.2))) (M ((a.1,(e.1,(0,(b.1,f)))),c.2.1,c.2.2)))
def j22 [LP] (q r:K) (p:O K) (j:K) (n:Tn56) (c:Tn50) (d:Tn27) (o:U) (e:Tn67) (b:Tn62):S ((K×K×(O K)×K×Tn56×Tn50×Tn27×U×Tn67×Tn62) ⊕ (K×(O K)×K×Tn56×Tn50×Tn27×U×Tn67×Tn62)):=cond (N (r>0)) ((jcG).bind fun f=>let g:=W b.length
 cond (inR g f.length) (let k:=L f g.toNat J
 (j5U p j (n,(c,(d,e))) k).bind fun a=>let i:Tn62:=[(a.1.1,(a.1.2.1,((a.1.2.2.1.1,a.1.2.2.1.2),(a.1.2.2.2.1,(a.1.2.2.2.2.1,(a.1.2.2.2.2.2.1,(a.1.2.2.2.2.2.2.1,(a.1.2.2.2.2.2.2.2.1,a.1.2.2.2.2.2.2.2.2))))))))]
 cond (N (X b+X i≤j05)) (let m:Tn62:=b++i
 let l:=w64 (r-1)
 M (.inl (q,l,a.2.1,a.2.2,n,c,d,o,e,m))) Y) Y) (M (.inr (q,p,j,n,c,d,o,e,b)))
def j58 [LP] (i j:K) (g:O K) (b:K) (k:Tn56) (a:Tn50) (c:Tn27) (f:U) (e:Tn67) (d:Tn62):S (K×(O K)×K×Tn56×Tn50×Tn27×U×Tn67×Tn62):=LP.lp (u8 unc2 j22) (i,j,g,b,k,a,c,f,e,d)
theorem j8f (i j g b k a c f e d):j58 i j g b k a c f e d=lpK (j22 i j g b k a c f e d) (fun h=>j58 h.1 h.2.1 h.2.2.1 h.2.2.2.1 h.2.2.2.2.1 h.2.2.2.2.2.1 h.2.2.2.2.2.2.1 h.2.2.2.2.2.2.2.1 h.2.2.2.2.2.2.2.2.1 h.2.2.2.2.2.2.2.2.2):=j03 _ _
def j23 (o p:K) (n:O K) (g:K) (l:Tn56) (b:Tn50) (c:Tn27) (m:U) (e:Tn67) (i:Tn62) (d:Tn30):S ((K×K×(O K)×K×Tn56×Tn50×Tn27×U×Tn67×Tn62×Tn30) ⊕ (K×(O K)×K×Tn56×Tn50×Tn27×U×Tn67×Tn62×Tn30)):=cond (N (p>0)) ((j5w n g ((Ç l.length ()),((Ç b.length ()),((Ç c.length ()),(Ç e.length ()))))).bind fun a=>let f:Tn30:=[(a.1.1,(a.1.2.1,(a.1.2.2.1,(a.1.2.2.2.1,a.1.2.2.2.2))))]
 cond (N (X d+X f≤j05)) (let j:Tn30:=d++f
 let k:=w64 (p-1)
 M (.inl (o,k,a.2.1,a.2.2,l,b,c,m,e,i,j))) Y) (M (.inr (o,n,g,l,b,c,m,e,i,d)))
def j59 [LP] (j k:K) (i:O K) (b:K) (l:Tn56) (a:Tn50) (c:Tn27) (g:U) (f:Tn67) (d:Tn62) (e:Tn30):S (K×(O K)×K×Tn56×Tn50×Tn27×U×Tn67×Tn62×Tn30):=LP.lp (u8 unc3 j23) (j,k,i,b,l,a,c,g,f,d,e)
theorem j8g (j k i b l a c g f d e):j59 j k i b l a c g f d e=lpK (j23 j k i b l a c g f d e) (fun h=>j59 h.1 h.2.1 h.2.2.1 h.2.2.2.1 h.2.2.2.2.1 h.2.2.2.2.2.1 h.2.2.2.2.2.2.1 h.2.2.2.2.2.2.2.1 h.2.2.2.2.2.2.2.2.1 h.2.2.2.2.2.2.2.2.2.1 h.2.2.2.2.2.2.2.2.2.2):=j03 _ _
def j24 [LP] (r:K) (q:O K) (k:K) (s:Tn56) (j:Tn50) (l:Tn27) (e:Tn67):S ((K×(O K)×K×Tn56×Tn50×Tn27×Tn67) ⊕ ((O K)×K×Tn56×Tn50×Tn27×Tn67)):=cond (N (r>0)) (let i:O ByteArray:=[(À #[102,105,114,115,116]),(À #[115,101,99,111,110,100]),(À #[116,104,105,114,100])]
 let n:=W e.length
 let g:=Ã n 3
 cond (inR g i.length) (let m:=L i g.toNat J
 (j02 q k 4).bind fun c=>(j58 r c.1 c.2.1 c.2.2 s j l m e ([]:Tn62)).bind fun b=>(j02 b.2.1 b.2.2.1 4).bind fun d=>(j59 b.1 d.1 d.2.1 d.2.2 b.2.2.2.1 b.2.2.2.2.1 b.2.2.2.2.2.1 b.2.2.2.2.2.2.1 b.2.2.2.2.2.2.2.1 b.2.2.2.2.2.2.2.2 ([]:Tn30)).bind fun a=>let f:Tn67:=[(a.2.2.2.2.2.2.1,(a.2.2.2.2.2.2.2.2.1,a.2.2.2.2.2.2.2.2.2))]
 cond (N (X a.2.2.2.2.2.2.2.1+X f≤j05)) (let o:Tn67:=a.2.2.2.2.2.2.2.1++f
 let p:=w64 (a.1-1)
 M (.inl (p,a.2.1,a.2.2.1,a.2.2.2.1,a.2.2.2.2.1,a.2.2.2.2.2.1,o))) Y) Y) (M (.inr (q,k,s,j,l,e)))
def j5a [LP] (f:K) (e:O K) (b:K) (g:Tn56) (a:Tn50) (c:Tn27) (d:Tn67):S ((O K)×K×Tn56×Tn50×Tn27×Tn67):=LP.lp (unc7 j24) (f,e,b,g,a,c,d)
theorem j8h (f e b g a c d):j5a f e b g a c d=lpK (j24 f e b g a c d) (fun h=>j5a h.1 h.2.1 h.2.2.1 h.2.2.2.1 h.2.2.2.2.1 h.2.2.2.2.2.1 h.2.2.2.2.2.2):=j03 _ _
def j72 [LP] (e:O K) (d f:K):S (Tn73×(O K)×K):=(j7S e d).bind fun a=>(j02 a.2.1 a.2.2 f).bind fun c=>let g:=w64 (1+c.1)
 (j5a g c.2.1 c.2.2 a.1.1 a.1.2.1 a.1.2.2.1 ([]:Tn67)).bind fun b=>M ((b.2.2.1,(b.2.2.2.1,(b.2.2.2.2.1,b.2.2.2.2.2))),b.1,b.2.1)
def jgR (a:Tn73):S (Tn56×Tn50×Tn27×U×Tn62×Tn30):=cond (N (X ([]:Tn56)+X a.1≤j05)) (let k:Tn56:=([]:Tn56)++a.1
 cond (N (X ([]:Tn50)+X a.2.1≤j05)) (let e:Tn50:=([]:Tn50)++a.2.1
 cond (N (X ([]:Tn27)+X a.2.2.1≤j05)) (let g:Tn27:=([]:Tn27)++a.2.2.1
 let f:=W a.2.2.2.length
 cond (N (0<f)) (cond (inR 0 a.2.2.2.length) (let b:=L a.2.2.2 0 (J,(([]:Tn62),([]:Tn30)))
 cond (N (X ([]:Tn62)+X b.2.1≤j05)) (let d:Tn62:=([]:Tn62)++b.2.1
 cond (N (X ([]:Tn30)+X b.2.2≤j05)) (let i:Tn30:=([]:Tn30)++b.2.2
 let c:=W a.2.2.2.length
 cond (N (1<c)) (cond (inR 1 a.2.2.2.length) (let j:=L a.2.2.2 1 (J,(([]:Tn62),([]:Tn30)))
 Y) Y) (M (k,e,g,b.1,d,i))) Y) Y) Y) (Y)) Y) Y) Y
def j9U (l9:O K) (d6:K) (a9:Tn73):S (Tn73×(O K)×K):=(jgR (a9.1,(a9.2.1,(a9.2.2.1,a9.2.2.2)))).bind fun a=>(j02 l9 d6 12).bind fun i=>cond (i.1==0) (let n5:=W a.1.length
 (j02 i.2.1 i.2.2 n5).bind fun a6=>let n8:O Int:=[30,64800,64860,(-64800),(-64801)]
 (j0a a6.2.1 a6.2.2 n8).bind fun f9=>cond (inR a6.1 a.1.length) (let n0:Tn56:=Á a.1 a6.1.toNat ((L a.1 a6.1.toNat (J,(0,([]:Tn44)))).1,(f9.1,(L a.1 a6.1.toNat (J,(0,([]:Tn44)))).2.2))
 M ((n0,(a.2.1,(a.2.2.1,[(a.2.2.2.1,(a.2.2.2.2.1,a.2.2.2.2.2))]))),f9.2.1,f9.2.2)) Y) (cond (i.1==1) (let n7:=W a.2.1.length
 (j02 i.2.1 i.2.2 n7).bind fun s=>let k1:=W a.1.length
 let i7:O Int:=[(-1),k1]
 (j0a s.2.1 s.2.2 i7).bind fun b6=>cond (inR s.1 a.2.1.length) (let o1:Tn50:=Á a.2.1 s.1.toNat ((L a.2.1 s.1.toNat (J,(0,(([]:Tn2),(0,(0,Z)))))).1,(b6.1,((L a.2.1 s.1.toNat (J,(0,(([]:Tn2),(0,(0,Z)))))).2.2.1,((L a.2.1 s.1.toNat (J,(0,(([]:Tn2),(0,(0,Z)))))).2.2.2.1,((L a.2.1 s.1.toNat (J,(0,(([]:Tn2),(0,(0,Z)))))).2.2.2.2.1,(L a.2.1 s.1.toNat (J,(0,(([]:Tn2),(0,(0,Z)))))).2.2.2.2.2)))))
 M ((a.1,(o1,(a.2.2.1,[(a.2.2.2.1,(a.2.2.2.2.1,a.2.2.2.2.2))]))),b6.2.1,b6.2.2)) Y) (cond (i.1==2) (let j4:=W a.2.1.length
 (j02 i.2.1 i.2.2 j4).bind fun n=>let g0:O ByteArray:=[(À #[110,111,98,111,100,121]),J,(À #[65,100,97]),(À #[97,100,97]),(À #[97,45,49,95,98])]
 (j02 n.2.1 n.2.2 5).bind fun a7=>cond (inR a7.1 g0.length) (let l5:=L g0 a7.1.toNat J
 cond (inR n.1 a.2.1.length) (let n9:Tn50:=Á a.2.1 n.1.toNat (l5,((L a.2.1 n.1.toNat (J,(0,(([]:Tn2),(0,(0,Z)))))).2.1,((L a.2.1 n.1.toNat (J,(0,(([]:Tn2),(0,(0,Z)))))).2.2.1,((L a.2.1 n.1.toNat (J,(0,(([]:Tn2),(0,(0,Z)))))).2.2.2.1,((L a.2.1 n.1.toNat (J,(0,(([]:Tn2),(0,(0,Z)))))).2.2.2.2.1,(L a.2.1 n.1.toNat (J,(0,(([]:Tn2),(0,(0,Z)))))).2.2.2.2.2)))))
 M ((a.1,(n9,(a.2.2.1,[(a.2.2.2.1,(a.2.2.2.2.1,a.2.2.2.2.2))]))),a7.2.1,a7.2.2)) Y) Y) (cond (i.1==3) (let l7:=W a.2.1.length
 (j02 i.2.1 i.2.2 l7).bind fun m=>let l0:O Int:=[1,(-3600),604800,608400]
 (j0a m.2.1 m.2.2 l0).bind fun b7=>cond (inR m.1 a.2.1.length) (let i2:Tn50:=Á a.2.1 m.1.toNat ((L a.2.1 m.1.toNat (J,(0,(([]:Tn2),(0,(0,Z)))))).1,((L a.2.1 m.1.toNat (J,(0,(([]:Tn2),(0,(0,Z)))))).2.1,((L a.2.1 m.1.toNat (J,(0,(([]:Tn2),(0,(0,Z)))))).2.2.1,((L a.2.1 m.1.toNat (J,(0,(([]:Tn2),(0,(0,Z)))))).2.2.2.1,(b7.1,(L a.2.1 m.1.toNat (J,(0,(([]:Tn2),(0,(0,Z)))))).2.2.2.2.2)))))
 M ((a.1,(i2,(a.2.2.1,[(a.2.2.2.1,(a.2.2.2.2.1,a.2.2.2.2.2))]))),b7.2.1,b7.2.2)) Y) (cond (i.1==4) (let j0:=W a.2.1.length
 (j02 i.2.1 i.2.2 j0).bind fun l=>let k2:O Int:=[0,(-1),5]
 (j0a l.2.1 l.2.2 k2).bind fun b5=>let i8:O Int:=[5,604800,604801]
 (j0a b5.2.1 b5.2.2 i8).bind fun c3=>let j3:Tn2:=[(b5.1,c3.1)]
 cond (inR l.1 a.2.1.length) (let n1:Tn50:=Á a.2.1 l.1.toNat ((L a.2.1 l.1.toNat (J,(0,(([]:Tn2),(0,(0,Z)))))).1,((L a.2.1 l.1.toNat (J,(0,(([]:Tn2),(0,(0,Z)))))).2.1,(j3,((L a.2.1 l.1.toNat (J,(0,(([]:Tn2),(0,(0,Z)))))).2.2.2.1,((L a.2.1 l.1.toNat (J,(0,(([]:Tn2),(0,(0,Z)))))).2.2.2.2.1,(L a.2.1 l.1.toNat (J,(0,(([]:Tn2),(0,(0,Z)))))).2.2.2.2.2)))))
 M ((a.1,(n1,(a.2.2.1,[(a.2.2.2.1,(a.2.2.2.2.1,a.2.2.2.2.2))]))),c3.2.1,c3.2.2)) Y) (cond (i.1==5) (let e1:O ByteArray:=[(À #[100,97,121,115]),(À #[111,116,104,101,114])]
 (j02 i.2.1 i.2.2 2).bind fun b0=>cond (inR b0.1 e1.length) (let k3:=L e1 b0.1.toNat J
 let j1:O Int:=[5,(-1)]
 (j0a b0.2.1 b0.2.2 j1).bind fun c0=>let l4:O Int:=[5,6,100000]
 (j0a c0.2.1 c0.2.2 l4).bind fun c2=>let j2:O Int:=[c0.1,c2.1]
 let d1:Tn27:=[(k3,(0,j2))]
 cond (N (X a.2.2.1+X d1≤j05)) (let m6:Tn27:=a.2.2.1++d1
 M ((a.1,(a.2.1,(m6,[(a.2.2.2.1,(a.2.2.2.2.1,a.2.2.2.2.2))]))),c2.2.1,c2.2.2)) Y) Y) (cond (i.1==6) (let e3:O ByteArray:=[(À #[102,105,114,115,116]),(À #[102,111,117,114,116,104])]
 (j02 i.2.1 i.2.2 2).bind fun b1=>cond (inR b1.1 e3.length) (let k9:=L e3 b1.1.toNat J
 M ((a.1,(a.2.1,(a.2.2.1,[(a.2.2.2.1,(a.2.2.2.2.1,a.2.2.2.2.2)),(k9,(([]:Tn62),([]:Tn30)))]))),b1.2.1,b1.2.2)) Y) (cond (i.1==7) ((j02 i.2.1 i.2.2 1).bind fun w=>cond (inR w.1 1) (let l2:=W a.2.2.2.2.1.length
 cond (l2==0) (M ((a.1,(a.2.1,(a.2.2.1,[(a.2.2.2.1,(a.2.2.2.2.1,a.2.2.2.2.2))]))),w.2.1,w.2.2)) (let m0:=W a.2.2.2.2.1.length
 (j02 w.2.1 w.2.2 m0).bind fun d=>cond (inR d.1 a.2.2.2.2.1.length) ((j02 d.2.1 d.2.2 8).bind fun g=>cond (g.1==0) (let m3:O Int:=[0,1,400,401]
 (j0a g.2.1 g.2.2 m3).bind fun c5=>let o2:Tn62:=Á a.2.2.2.2.1 d.1.toNat ((L a.2.2.2.2.1 d.1.toNat (J,(0,((0,0),(0,(0,(([]:(O K)),(([]:Tn2),(0,0))))))))).1,((L a.2.2.2.2.1 d.1.toNat (J,(0,((0,0),(0,(0,(([]:(O K)),(([]:Tn2),(0,0))))))))).2.1,(((L a.2.2.2.2.1 d.1.toNat (J,(0,((0,0),(0,(0,(([]:(O K)),(([]:Tn2),(0,0))))))))).2.2.1.1,(L a.2.2.2.2.1 d.1.toNat (J,(0,((0,0),(0,(0,(([]:(O K)),(([]:Tn2),(0,0))))))))).2.2.1.2),((L a.2.2.2.2.1 d.1.toNat (J,(0,((0,0),(0,(0,(([]:(O K)),(([]:Tn2),(0,0))))))))).2.2.2.1,(c5.1,((L a.2.2.2.2.1 d.1.toNat (J,(0,((0,0),(0,(0,(([]:(O K)),(([]:Tn2),(0,0))))))))).2.2.2.2.2.1,((L a.2.2.2.2.1 d.1.toNat (J,(0,((0,0),(0,(0,(([]:(O K)),(([]:Tn2),(0,0))))))))).2.2.2.2.2.2.1,((L a.2.2.2.2.1 d.1.toNat (J,(0,((0,0),(0,(0,(([]:(O K)),(([]:Tn2),(0,0))))))))).2.2.2.2.2.2.2.1,(L a.2.2.2.2.1 d.1.toNat (J,(0,((0,0),(0,(0,(([]:(O K)),(([]:Tn2),(0,0))))))))).2.2.2.2.2.2.2.2))))))))
 M ((a.1,(a.2.1,(a.2.2.1,[(a.2.2.2.1,(o2,a.2.2.2.2.2))]))),c5.2.1,c5.2.2)) (cond (g.1==1) (let l6:O Int:=[0,1,(-5),98979,98981]
 (j0a g.2.1 g.2.2 l6).bind fun b4=>let o3:Tn62:=Á a.2.2.2.2.1 d.1.toNat ((L a.2.2.2.2.1 d.1.toNat (J,(0,((0,0),(0,(0,(([]:(O K)),(([]:Tn2),(0,0))))))))).1,((L a.2.2.2.2.1 d.1.toNat (J,(0,((0,0),(0,(0,(([]:(O K)),(([]:Tn2),(0,0))))))))).2.1,((b4.1,(L a.2.2.2.2.1 d.1.toNat (J,(0,((0,0),(0,(0,(([]:(O K)),(([]:Tn2),(0,0))))))))).2.2.1.2),((L a.2.2.2.2.1 d.1.toNat (J,(0,((0,0),(0,(0,(([]:(O K)),(([]:Tn2),(0,0))))))))).2.2.2.1,((L a.2.2.2.2.1 d.1.toNat (J,(0,((0,0),(0,(0,(([]:(O K)),(([]:Tn2),(0,0))))))))).2.2.2.2.1,((L a.2.2.2.2.1 d.1.toNat (J,(0,((0,0),(0,(0,(([]:(O K)),(([]:Tn2),(0,0))))))))).2.2.2.2.2.1,((L a.2.2.2.2.1 d.1.toNat (J,(0,((0,0),(0,(0,(([]:(O K)),(([]:Tn2),(0,0))))))))).2.2.2.2.2.2.1,((L a.2.2.2.2.1 d.1.toNat (J,(0,((0,0),(0,(0,(([]:(O K)),(([]:Tn2),(0,0))))))))).2.2.2.2.2.2.2.1,(L a.2.2.2.2.1 d.1.toNat (J,(0,((0,0),(0,(0,(([]:(O K)),(([]:Tn2),(0,0))))))))).2.2.2.2.2.2.2.2))))))))
 M ((a.1,(a.2.1,(a.2.2.1,[(a.2.2.2.1,(o3,a.2.2.2.2.2))]))),b4.2.1,b4.2.2)) (cond (g.1==2) (let o5:Tn62:=Á a.2.2.2.2.1 d.1.toNat ((L a.2.2.2.2.1 d.1.toNat (J,(0,((0,0),(0,(0,(([]:(O K)),(([]:Tn2),(0,0))))))))).1,((L a.2.2.2.2.1 d.1.toNat (J,(0,((0,0),(0,(0,(([]:(O K)),(([]:Tn2),(0,0))))))))).2.1,(((L a.2.2.2.2.1 d.1.toNat (J,(0,((0,0),(0,(0,(([]:(O K)),(([]:Tn2),(0,0))))))))).2.2.1.1,(L a.2.2.2.2.1 d.1.toNat (J,(0,((0,0),(0,(0,(([]:(O K)),(([]:Tn2),(0,0))))))))).2.2.1.2),((L a.2.2.2.2.1 d.1.toNat (J,(0,((0,0),(0,(0,(([]:(O K)),(([]:Tn2),(0,0))))))))).2.2.2.1,((L a.2.2.2.2.1 d.1.toNat (J,(0,((0,0),(0,(0,(([]:(O K)),(([]:Tn2),(0,0))))))))).2.2.2.2.1,(([]:(O K)),((L a.2.2.2.2.1 d.1.toNat (J,(0,((0,0),(0,(0,(([]:(O K)),(([]:Tn2),(0,0))))))))).2.2.2.2.2.2.1,((L a.2.2.2.2.1 d.1.toNat (J,(0,((0,0),(0,(0,(([]:(O K)),(([]:Tn2),(0,0))))))))).2.2.2.2.2.2.2.1,(L a.2.2.2.2.1 d.1.toNat (J,(0,((0,0),(0,(0,(([]:(O K)),(([]:Tn2),(0,0))))))))).2.2.2.2.2.2.2.2))))))))
 M ((a.1,(a.2.1,(a.2.2.1,[(a.2.2.2.1,(o5,a.2.2.2.2.2))]))),g.2.1,g.2.2)) (cond (g.1==3) (let k5:=W a.2.1.length
 let j9:O Int:=[0,(-1),k5]
 (j0a g.2.1 g.2.2 j9).bind fun c4=>let n6:Tn62:=Á a.2.2.2.2.1 d.1.toNat ((L a.2.2.2.2.1 d.1.toNat (J,(0,((0,0),(0,(0,(([]:(O K)),(([]:Tn2),(0,0))))))))).1,((L a.2.2.2.2.1 d.1.toNat (J,(0,((0,0),(0,(0,(([]:(O K)),(([]:Tn2),(0,0))))))))).2.1,(((L a.2.2.2.2.1 d.1.toNat (J,(0,((0,0),(0,(0,(([]:(O K)),(([]:Tn2),(0,0))))))))).2.2.1.1,(L a.2.2.2.2.1 d.1.toNat (J,(0,((0,0),(0,(0,(([]:(O K)),(([]:Tn2),(0,0))))))))).2.2.1.2),((L a.2.2.2.2.1 d.1.toNat (J,(0,((0,0),(0,(0,(([]:(O K)),(([]:Tn2),(0,0))))))))).2.2.2.1,((L a.2.2.2.2.1 d.1.toNat (J,(0,((0,0),(0,(0,(([]:(O K)),(([]:Tn2),(0,0))))))))).2.2.2.2.1,([c4.1],((L a.2.2.2.2.1 d.1.toNat (J,(0,((0,0),(0,(0,(([]:(O K)),(([]:Tn2),(0,0))))))))).2.2.2.2.2.2.1,((L a.2.2.2.2.1 d.1.toNat (J,(0,((0,0),(0,(0,(([]:(O K)),(([]:Tn2),(0,0))))))))).2.2.2.2.2.2.2.1,(L a.2.2.2.2.1 d.1.toNat (J,(0,((0,0),(0,(0,(([]:(O K)),(([]:Tn2),(0,0))))))))).2.2.2.2.2.2.2.2))))))))
 M ((a.1,(a.2.1,(a.2.2.1,[(a.2.2.2.1,(n6,a.2.2.2.2.2))]))),c4.2.1,c4.2.2)) (cond (g.1==4) (let j5:O Int:=[(-1),3]
 (j0a g.2.1 g.2.2 j5).bind fun c1=>let k8:Tn62:=Á a.2.2.2.2.1 d.1.toNat ((L a.2.2.2.2.1 d.1.toNat (J,(0,((0,0),(0,(0,(([]:(O K)),(([]:Tn2),(0,0))))))))).1,((L a.2.2.2.2.1 d.1.toNat (J,(0,((0,0),(0,(0,(([]:(O K)),(([]:Tn2),(0,0))))))))).2.1,(((L a.2.2.2.2.1 d.1.toNat (J,(0,((0,0),(0,(0,(([]:(O K)),(([]:Tn2),(0,0))))))))).2.2.1.1,(L a.2.2.2.2.1 d.1.toNat (J,(0,((0,0),(0,(0,(([]:(O K)),(([]:Tn2),(0,0))))))))).2.2.1.2),(c1.1,((L a.2.2.2.2.1 d.1.toNat (J,(0,((0,0),(0,(0,(([]:(O K)),(([]:Tn2),(0,0))))))))).2.2.2.2.1,((L a.2.2.2.2.1 d.1.toNat (J,(0,((0,0),(0,(0,(([]:(O K)),(([]:Tn2),(0,0))))))))).2.2.2.2.2.1,((L a.2.2.2.2.1 d.1.toNat (J,(0,((0,0),(0,(0,(([]:(O K)),(([]:Tn2),(0,0))))))))).2.2.2.2.2.2.1,((L a.2.2.2.2.1 d.1.toNat (J,(0,((0,0),(0,(0,(([]:(O K)),(([]:Tn2),(0,0))))))))).2.2.2.2.2.2.2.1,(L a.2.2.2.2.1 d.1.toNat (J,(0,((0,0),(0,(0,(([]:(O K)),(([]:Tn2),(0,0))))))))).2.2.2.2.2.2.2.2))))))))
 M ((a.1,(a.2.1,(a.2.2.1,[(a.2.2.2.1,(k8,a.2.2.2.2.2))]))),c1.2.1,c1.2.2)) (cond (g.1==5) (let l1:O Int:=[0,1,2,3]
 (j0a g.2.1 g.2.2 l1).bind fun b9=>let m4:Tn62:=Á a.2.2.2.2.1 d.1.toNat ((L a.2.2.2.2.1 d.1.toNat (J,(0,((0,0),(0,(0,(([]:(O K)),(([]:Tn2),(0,0))))))))).1,((L a.2.2.2.2.1 d.1.toNat (J,(0,((0,0),(0,(0,(([]:(O K)),(([]:Tn2),(0,0))))))))).2.1,(((L a.2.2.2.2.1 d.1.toNat (J,(0,((0,0),(0,(0,(([]:(O K)),(([]:Tn2),(0,0))))))))).2.2.1.1,(L a.2.2.2.2.1 d.1.toNat (J,(0,((0,0),(0,(0,(([]:(O K)),(([]:Tn2),(0,0))))))))).2.2.1.2),((L a.2.2.2.2.1 d.1.toNat (J,(0,((0,0),(0,(0,(([]:(O K)),(([]:Tn2),(0,0))))))))).2.2.2.1,((L a.2.2.2.2.1 d.1.toNat (J,(0,((0,0),(0,(0,(([]:(O K)),(([]:Tn2),(0,0))))))))).2.2.2.2.1,((L a.2.2.2.2.1 d.1.toNat (J,(0,((0,0),(0,(0,(([]:(O K)),(([]:Tn2),(0,0))))))))).2.2.2.2.2.1,((L a.2.2.2.2.1 d.1.toNat (J,(0,((0,0),(0,(0,(([]:(O K)),(([]:Tn2),(0,0))))))))).2.2.2.2.2.2.1,((L a.2.2.2.2.1 d.1.toNat (J,(0,((0,0),(0,(0,(([]:(O K)),(([]:Tn2),(0,0))))))))).2.2.2.2.2.2.2.1,b9.1))))))))
 M ((a.1,(a.2.1,(a.2.2.1,[(a.2.2.2.1,(m4,a.2.2.2.2.2))]))),b9.2.1,b9.2.2)) (cond (g.1==6) (let l8:O Int:=[0,1,(-1)]
 (j0a g.2.1 g.2.2 l8).bind fun b8=>let j6:Tn62:=Á a.2.2.2.2.1 d.1.toNat ((L a.2.2.2.2.1 d.1.toNat (J,(0,((0,0),(0,(0,(([]:(O K)),(([]:Tn2),(0,0))))))))).1,((L a.2.2.2.2.1 d.1.toNat (J,(0,((0,0),(0,(0,(([]:(O K)),(([]:Tn2),(0,0))))))))).2.1,(((L a.2.2.2.2.1 d.1.toNat (J,(0,((0,0),(0,(0,(([]:(O K)),(([]:Tn2),(0,0))))))))).2.2.1.1,(L a.2.2.2.2.1 d.1.toNat (J,(0,((0,0),(0,(0,(([]:(O K)),(([]:Tn2),(0,0))))))))).2.2.1.2),((L a.2.2.2.2.1 d.1.toNat (J,(0,((0,0),(0,(0,(([]:(O K)),(([]:Tn2),(0,0))))))))).2.2.2.1,((L a.2.2.2.2.1 d.1.toNat (J,(0,((0,0),(0,(0,(([]:(O K)),(([]:Tn2),(0,0))))))))).2.2.2.2.1,((L a.2.2.2.2.1 d.1.toNat (J,(0,((0,0),(0,(0,(([]:(O K)),(([]:Tn2),(0,0))))))))).2.2.2.2.2.1,((L a.2.2.2.2.1 d.1.toNat (J,(0,((0,0),(0,(0,(([]:(O K)),(([]:Tn2),(0,0))))))))).2.2.2.2.2.2.1,(b8.1,(L a.2.2.2.2.1 d.1.toNat (J,(0,((0,0),(0,(0,(([]:(O K)),(([]:Tn2),(0,0))))))))).2.2.2.2.2.2.2.2))))))))
 M ((a.1,(a.2.1,(a.2.2.1,[(a.2.2.2.1,(j6,a.2.2.2.2.2))]))),b8.2.1,b8.2.2)) (cond (g.1==7) (let f5:O ByteArray:=[(À #[97,100,97]),(À #[98,111,98]),(À #[120,32,121])]
 (j02 g.2.1 g.2.2 3).bind fun a8=>cond (inR a8.1 f5.length) (let j8:=L f5 a8.1.toNat J
 let o4:Tn62:=Á a.2.2.2.2.1 d.1.toNat (j8,((L a.2.2.2.2.1 d.1.toNat (J,(0,((0,0),(0,(0,(([]:(O K)),(([]:Tn2),(0,0))))))))).2.1,(((L a.2.2.2.2.1 d.1.toNat (J,(0,((0,0),(0,(0,(([]:(O K)),(([]:Tn2),(0,0))))))))).2.2.1.1,(L a.2.2.2.2.1 d.1.toNat (J,(0,((0,0),(0,(0,(([]:(O K)),(([]:Tn2),(0,0))))))))).2.2.1.2),((L a.2.2.2.2.1 d.1.toNat (J,(0,((0,0),(0,(0,(([]:(O K)),(([]:Tn2),(0,0))))))))).2.2.2.1,((L a.2.2.2.2.1 d.1.toNat (J,(0,((0,0),(0,(0,(([]:(O K)),(([]:Tn2),(0,0))))))))).2.2.2.2.1,((L a.2.2.2.2.1 d.1.toNat (J,(0,((0,0),(0,(0,(([]:(O K)),(([]:Tn2),(0,0))))))))).2.2.2.2.2.1,((L a.2.2.2.2.1 d.1.toNat (J,(0,((0,0),(0,(0,(([]:(O K)),(([]:Tn2),(0,0))))))))).2.2.2.2.2.2.1,((L a.2.2.2.2.1 d.1.toNat (J,(0,((0,0),(0,(0,(([]:(O K)),(([]:Tn2),(0,0))))))))).2.2.2.2.2.2.2.1,(L a.2.2.2.2.1 d.1.toNat (J,(0,((0,0),(0,(0,(([]:(O K)),(([]:Tn2),(0,0))))))))).2.2.2.2.2.2.2.2))))))))
 M ((a.1,(a.2.1,(a.2.2.1,[(a.2.2.2.1,(o4,a.2.2.2.2.2))]))),a8.2.1,a8.2.2)) Y) (M ((a.1,(a.2.1,(a.2.2.1,[(a.2.2.2.1,(a.2.2.2.2.1,a.2.2.2.2.2))]))),g.2.1,g.2.2)))))))))) Y)) Y) (cond (i.1==8) ((j02 i.2.1 i.2.2 1).bind fun o=>cond (inR o.1 1) (let e7:=W a.2.2.2.2.1.length
 cond (e7==0) (M ((a.1,(a.2.1,(a.2.2.1,[(a.2.2.2.1,(a.2.2.2.2.1,a.2.2.2.2.2))]))),o.2.1,o.2.2)) (let f6:=W a.2.2.2.2.1.length
 (j02 o.2.1 o.2.2 f6).bind fun c=>cond (inR c.1 a.2.2.2.2.1.length) ((j02 c.2.1 c.2.2 8).bind fun e=>cond (e.1==0) (let g2:O Int:=[0,1,400,401]
 (j0a e.2.1 e.2.2 g2).bind fun y=>let m1:Tn62:=Á a.2.2.2.2.1 c.1.toNat ((L a.2.2.2.2.1 c.1.toNat (J,(0,((0,0),(0,(0,(([]:(O K)),(([]:Tn2),(0,0))))))))).1,((L a.2.2.2.2.1 c.1.toNat (J,(0,((0,0),(0,(0,(([]:(O K)),(([]:Tn2),(0,0))))))))).2.1,(((L a.2.2.2.2.1 c.1.toNat (J,(0,((0,0),(0,(0,(([]:(O K)),(([]:Tn2),(0,0))))))))).2.2.1.1,(L a.2.2.2.2.1 c.1.toNat (J,(0,((0,0),(0,(0,(([]:(O K)),(([]:Tn2),(0,0))))))))).2.2.1.2),((L a.2.2.2.2.1 c.1.toNat (J,(0,((0,0),(0,(0,(([]:(O K)),(([]:Tn2),(0,0))))))))).2.2.2.1,(y.1,((L a.2.2.2.2.1 c.1.toNat (J,(0,((0,0),(0,(0,(([]:(O K)),(([]:Tn2),(0,0))))))))).2.2.2.2.2.1,((L a.2.2.2.2.1 c.1.toNat (J,(0,((0,0),(0,(0,(([]:(O K)),(([]:Tn2),(0,0))))))))).2.2.2.2.2.2.1,((L a.2.2.2.2.1 c.1.toNat (J,(0,((0,0),(0,(0,(([]:(O K)),(([]:Tn2),(0,0))))))))).2.2.2.2.2.2.2.1,(L a.2.2.2.2.1 c.1.toNat (J,(0,((0,0),(0,(0,(([]:(O K)),(([]:Tn2),(0,0))))))))).2.2.2.2.2.2.2.2))))))))
 M ((a.1,(a.2.1,(a.2.2.1,[(a.2.2.2.1,(m1,a.2.2.2.2.2))]))),y.2.1,y.2.2)) (cond (e.1==1) (let d2:O Int:=[0,1,(-5),98979,98981]
 (j0a e.2.1 e.2.2 d2).bind fun a4=>let k7:Tn62:=Á a.2.2.2.2.1 c.1.toNat ((L a.2.2.2.2.1 c.1.toNat (J,(0,((0,0),(0,(0,(([]:(O K)),(([]:Tn2),(0,0))))))))).1,((L a.2.2.2.2.1 c.1.toNat (J,(0,((0,0),(0,(0,(([]:(O K)),(([]:Tn2),(0,0))))))))).2.1,((a4.1,(L a.2.2.2.2.1 c.1.toNat (J,(0,((0,0),(0,(0,(([]:(O K)),(([]:Tn2),(0,0))))))))).2.2.1.2),((L a.2.2.2.2.1 c.1.toNat (J,(0,((0,0),(0,(0,(([]:(O K)),(([]:Tn2),(0,0))))))))).2.2.2.1,((L a.2.2.2.2.1 c.1.toNat (J,(0,((0,0),(0,(0,(([]:(O K)),(([]:Tn2),(0,0))))))))).2.2.2.2.1,((L a.2.2.2.2.1 c.1.toNat (J,(0,((0,0),(0,(0,(([]:(O K)),(([]:Tn2),(0,0))))))))).2.2.2.2.2.1,((L a.2.2.2.2.1 c.1.toNat (J,(0,((0,0),(0,(0,(([]:(O K)),(([]:Tn2),(0,0))))))))).2.2.2.2.2.2.1,((L a.2.2.2.2.1 c.1.toNat (J,(0,((0,0),(0,(0,(([]:(O K)),(([]:Tn2),(0,0))))))))).2.2.2.2.2.2.2.1,(L a.2.2.2.2.1 c.1.toNat (J,(0,((0,0),(0,(0,(([]:(O K)),(([]:Tn2),(0,0))))))))).2.2.2.2.2.2.2.2))))))))
 M ((a.1,(a.2.1,(a.2.2.1,[(a.2.2.2.1,(k7,a.2.2.2.2.2))]))),a4.2.1,a4.2.2)) (cond (e.1==2) (let m2:Tn62:=Á a.2.2.2.2.1 c.1.toNat ((L a.2.2.2.2.1 c.1.toNat (J,(0,((0,0),(0,(0,(([]:(O K)),(([]:Tn2),(0,0))))))))).1,((L a.2.2.2.2.1 c.1.toNat (J,(0,((0,0),(0,(0,(([]:(O K)),(([]:Tn2),(0,0))))))))).2.1,(((L a.2.2.2.2.1 c.1.toNat (J,(0,((0,0),(0,(0,(([]:(O K)),(([]:Tn2),(0,0))))))))).2.2.1.1,(L a.2.2.2.2.1 c.1.toNat (J,(0,((0,0),(0,(0,(([]:(O K)),(([]:Tn2),(0,0))))))))).2.2.1.2),((L a.2.2.2.2.1 c.1.toNat (J,(0,((0,0),(0,(0,(([]:(O K)),(([]:Tn2),(0,0))))))))).2.2.2.1,((L a.2.2.2.2.1 c.1.toNat (J,(0,((0,0),(0,(0,(([]:(O K)),(([]:Tn2),(0,0))))))))).2.2.2.2.1,(([]:(O K)),((L a.2.2.2.2.1 c.1.toNat (J,(0,((0,0),(0,(0,(([]:(O K)),(([]:Tn2),(0,0))))))))).2.2.2.2.2.2.1,((L a.2.2.2.2.1 c.1.toNat (J,(0,((0,0),(0,(0,(([]:(O K)),(([]:Tn2),(0,0))))))))).2.2.2.2.2.2.2.1,(L a.2.2.2.2.1 c.1.toNat (J,(0,((0,0),(0,(0,(([]:(O K)),(([]:Tn2),(0,0))))))))).2.2.2.2.2.2.2.2))))))))
 M ((a.1,(a.2.1,(a.2.2.1,[(a.2.2.2.1,(m2,a.2.2.2.2.2))]))),e.2.1,e.2.2)) (cond (e.1==3) (let e5:=W a.2.1.length
 let g1:O Int:=[0,(-1),e5]
 (j0a e.2.1 e.2.2 g1).bind fun a3=>let i1:Tn62:=Á a.2.2.2.2.1 c.1.toNat ((L a.2.2.2.2.1 c.1.toNat (J,(0,((0,0),(0,(0,(([]:(O K)),(([]:Tn2),(0,0))))))))).1,((L a.2.2.2.2.1 c.1.toNat (J,(0,((0,0),(0,(0,(([]:(O K)),(([]:Tn2),(0,0))))))))).2.1,(((L a.2.2.2.2.1 c.1.toNat (J,(0,((0,0),(0,(0,(([]:(O K)),(([]:Tn2),(0,0))))))))).2.2.1.1,(L a.2.2.2.2.1 c.1.toNat (J,(0,((0,0),(0,(0,(([]:(O K)),(([]:Tn2),(0,0))))))))).2.2.1.2),((L a.2.2.2.2.1 c.1.toNat (J,(0,((0,0),(0,(0,(([]:(O K)),(([]:Tn2),(0,0))))))))).2.2.2.1,((L a.2.2.2.2.1 c.1.toNat (J,(0,((0,0),(0,(0,(([]:(O K)),(([]:Tn2),(0,0))))))))).2.2.2.2.1,([a3.1],((L a.2.2.2.2.1 c.1.toNat (J,(0,((0,0),(0,(0,(([]:(O K)),(([]:Tn2),(0,0))))))))).2.2.2.2.2.2.1,((L a.2.2.2.2.1 c.1.toNat (J,(0,((0,0),(0,(0,(([]:(O K)),(([]:Tn2),(0,0))))))))).2.2.2.2.2.2.2.1,(L a.2.2.2.2.1 c.1.toNat (J,(0,((0,0),(0,(0,(([]:(O K)),(([]:Tn2),(0,0))))))))).2.2.2.2.2.2.2.2))))))))
 M ((a.1,(a.2.1,(a.2.2.1,[(a.2.2.2.1,(i1,a.2.2.2.2.2))]))),a3.2.1,a3.2.2)) (cond (e.1==4) (let g3:O Int:=[(-1),3]
 (j0a e.2.1 e.2.2 g3).bind fun a5=>let k4:Tn62:=Á a.2.2.2.2.1 c.1.toNat ((L a.2.2.2.2.1 c.1.toNat (J,(0,((0,0),(0,(0,(([]:(O K)),(([]:Tn2),(0,0))))))))).1,((L a.2.2.2.2.1 c.1.toNat (J,(0,((0,0),(0,(0,(([]:(O K)),(([]:Tn2),(0,0))))))))).2.1,(((L a.2.2.2.2.1 c.1.toNat (J,(0,((0,0),(0,(0,(([]:(O K)),(([]:Tn2),(0,0))))))))).2.2.1.1,(L a.2.2.2.2.1 c.1.toNat (J,(0,((0,0),(0,(0,(([]:(O K)),(([]:Tn2),(0,0))))))))).2.2.1.2),(a5.1,((L a.2.2.2.2.1 c.1.toNat (J,(0,((0,0),(0,(0,(([]:(O K)),(([]:Tn2),(0,0))))))))).2.2.2.2.1,((L a.2.2.2.2.1 c.1.toNat (J,(0,((0,0),(0,(0,(([]:(O K)),(([]:Tn2),(0,0))))))))).2.2.2.2.2.1,((L a.2.2.2.2.1 c.1.toNat (J,(0,((0,0),(0,(0,(([]:(O K)),(([]:Tn2),(0,0))))))))).2.2.2.2.2.2.1,((L a.2.2.2.2.1 c.1.toNat (J,(0,((0,0),(0,(0,(([]:(O K)),(([]:Tn2),(0,0))))))))).2.2.2.2.2.2.2.1,(L a.2.2.2.2.1 c.1.toNat (J,(0,((0,0),(0,(0,(([]:(O K)),(([]:Tn2),(0,0))))))))).2.2.2.2.2.2.2.2))))))))
 M ((a.1,(a.2.1,(a.2.2.1,[(a.2.2.2.1,(k4,a.2.2.2.2.2))]))),a5.2.1,a5.2.2)) (cond (e.1==5) (let f1:O Int:=[0,1,2,3]
 (j0a e.2.1 e.2.2 f1).bind fun a0=>let k6:Tn62:=Á a.2.2.2.2.1 c.1.toNat ((L a.2.2.2.2.1 c.1.toNat (J,(0,((0,0),(0,(0,(([]:(O K)),(([]:Tn2),(0,0))))))))).1,((L a.2.2.2.2.1 c.1.toNat (J,(0,((0,0),(0,(0,(([]:(O K)),(([]:Tn2),(0,0))))))))).2.1,(((L a.2.2.2.2.1 c.1.toNat (J,(0,((0,0),(0,(0,(([]:(O K)),(([]:Tn2),(0,0))))))))).2.2.1.1,(L a.2.2.2.2.1 c.1.toNat (J,(0,((0,0),(0,(0,(([]:(O K)),(([]:Tn2),(0,0))))))))).2.2.1.2),((L a.2.2.2.2.1 c.1.toNat (J,(0,((0,0),(0,(0,(([]:(O K)),(([]:Tn2),(0,0))))))))).2.2.2.1,((L a.2.2.2.2.1 c.1.toNat (J,(0,((0,0),(0,(0,(([]:(O K)),(([]:Tn2),(0,0))))))))).2.2.2.2.1,((L a.2.2.2.2.1 c.1.toNat (J,(0,((0,0),(0,(0,(([]:(O K)),(([]:Tn2),(0,0))))))))).2.2.2.2.2.1,((L a.2.2.2.2.1 c.1.toNat (J,(0,((0,0),(0,(0,(([]:(O K)),(([]:Tn2),(0,0))))))))).2.2.2.2.2.2.1,((L a.2.2.2.2.1 c.1.toNat (J,(0,((0,0),(0,(0,(([]:(O K)),(([]:Tn2),(0,0))))))))).2.2.2.2.2.2.2.1,a0.1))))))))
 M ((a.1,(a.2.1,(a.2.2.1,[(a.2.2.2.1,(k6,a.2.2.2.2.2))]))),a0.2.1,a0.2.2)) (cond (e.1==6) (let d9:O Int:=[0,1,(-1)]
 (j0a e.2.1 e.2.2 d9).bind fun x=>let j7:Tn62:=Á a.2.2.2.2.1 c.1.toNat ((L a.2.2.2.2.1 c.1.toNat (J,(0,((0,0),(0,(0,(([]:(O K)),(([]:Tn2),(0,0))))))))).1,((L a.2.2.2.2.1 c.1.toNat (J,(0,((0,0),(0,(0,(([]:(O K)),(([]:Tn2),(0,0))))))))).2.1,(((L a.2.2.2.2.1 c.1.toNat (J,(0,((0,0),(0,(0,(([]:(O K)),(([]:Tn2),(0,0))))))))).2.2.1.1,(L a.2.2.2.2.1 c.1.toNat (J,(0,((0,0),(0,(0,(([]:(O K)),(([]:Tn2),(0,0))))))))).2.2.1.2),((L a.2.2.2.2.1 c.1.toNat (J,(0,((0,0),(0,(0,(([]:(O K)),(([]:Tn2),(0,0))))))))).2.2.2.1,((L a.2.2.2.2.1 c.1.toNat (J,(0,((0,0),(0,(0,(([]:(O K)),(([]:Tn2),(0,0))))))))).2.2.2.2.1,((L a.2.2.2.2.1 c.1.toNat (J,(0,((0,0),(0,(0,(([]:(O K)),(([]:Tn2),(0,0))))))))).2.2.2.2.2.1,((L a.2.2.2.2.1 c.1.toNat (J,(0,((0,0),(0,(0,(([]:(O K)),(([]:Tn2),(0,0))))))))).2.2.2.2.2.2.1,(x.1,(L a.2.2.2.2.1 c.1.toNat (J,(0,((0,0),(0,(0,(([]:(O K)),(([]:Tn2),(0,0))))))))).2.2.2.2.2.2.2.2))))))))
 M ((a.1,(a.2.1,(a.2.2.1,[(a.2.2.2.1,(j7,a.2.2.2.2.2))]))),x.2.1,x.2.2)) (cond (e.1==7) (let b2:O ByteArray:=[(À #[97,100,97]),(À #[98,111,98]),(À #[120,32,121])]
 (j02 e.2.1 e.2.2 3).bind fun r=>cond (inR r.1 b2.length) (let d4:=L b2 r.1.toNat J
 let i6:Tn62:=Á a.2.2.2.2.1 c.1.toNat (d4,((L a.2.2.2.2.1 c.1.toNat (J,(0,((0,0),(0,(0,(([]:(O K)),(([]:Tn2),(0,0))))))))).2.1,(((L a.2.2.2.2.1 c.1.toNat (J,(0,((0,0),(0,(0,(([]:(O K)),(([]:Tn2),(0,0))))))))).2.2.1.1,(L a.2.2.2.2.1 c.1.toNat (J,(0,((0,0),(0,(0,(([]:(O K)),(([]:Tn2),(0,0))))))))).2.2.1.2),((L a.2.2.2.2.1 c.1.toNat (J,(0,((0,0),(0,(0,(([]:(O K)),(([]:Tn2),(0,0))))))))).2.2.2.1,((L a.2.2.2.2.1 c.1.toNat (J,(0,((0,0),(0,(0,(([]:(O K)),(([]:Tn2),(0,0))))))))).2.2.2.2.1,((L a.2.2.2.2.1 c.1.toNat (J,(0,((0,0),(0,(0,(([]:(O K)),(([]:Tn2),(0,0))))))))).2.2.2.2.2.1,((L a.2.2.2.2.1 c.1.toNat (J,(0,((0,0),(0,(0,(([]:(O K)),(([]:Tn2),(0,0))))))))).2.2.2.2.2.2.1,((L a.2.2.2.2.1 c.1.toNat (J,(0,((0,0),(0,(0,(([]:(O K)),(([]:Tn2),(0,0))))))))).2.2.2.2.2.2.2.1,(L a.2.2.2.2.1 c.1.toNat (J,(0,((0,0),(0,(0,(([]:(O K)),(([]:Tn2),(0,0))))))))).2.2.2.2.2.2.2.2))))))))
 M ((a.1,(a.2.1,(a.2.2.1,[(a.2.2.2.1,(i6,a.2.2.2.2.2))]))),r.2.1,r.2.2)) Y) (M ((a.1,(a.2.1,(a.2.2.1,[(a.2.2.2.1,(a.2.2.2.2.1,a.2.2.2.2.2))]))),e.2.1,e.2.2)))))))))) Y)) Y) (cond (i.1==9) ((j02 i.2.1 i.2.2 1).bind fun p=>cond (inR p.1 1) (let e0:=W a.2.2.2.2.1.length
 cond (e0==0) (M ((a.1,(a.2.1,(a.2.2.1,[(a.2.2.2.1,(a.2.2.2.2.1,a.2.2.2.2.2))]))),p.2.1,p.2.2)) (let f0:=W a.2.2.2.2.1.length
 (j02 p.2.1 p.2.2 f0).bind fun b=>cond (inR b.1 a.2.2.2.2.1.length) ((j02 b.2.1 b.2.2 8).bind fun f=>cond (f.1==0) (let d5:O Int:=[0,1,400,401]
 (j0a f.2.1 f.2.2 d5).bind fun a1=>let i9:Tn62:=Á a.2.2.2.2.1 b.1.toNat ((L a.2.2.2.2.1 b.1.toNat (J,(0,((0,0),(0,(0,(([]:(O K)),(([]:Tn2),(0,0))))))))).1,((L a.2.2.2.2.1 b.1.toNat (J,(0,((0,0),(0,(0,(([]:(O K)),(([]:Tn2),(0,0))))))))).2.1,(((L a.2.2.2.2.1 b.1.toNat (J,(0,((0,0),(0,(0,(([]:(O K)),(([]:Tn2),(0,0))))))))).2.2.1.1,(L a.2.2.2.2.1 b.1.toNat (J,(0,((0,0),(0,(0,(([]:(O K)),(([]:Tn2),(0,0))))))))).2.2.1.2),((L a.2.2.2.2.1 b.1.toNat (J,(0,((0,0),(0,(0,(([]:(O K)),(([]:Tn2),(0,0))))))))).2.2.2.1,(a1.1,((L a.2.2.2.2.1 b.1.toNat (J,(0,((0,0),(0,(0,(([]:(O K)),(([]:Tn2),(0,0))))))))).2.2.2.2.2.1,((L a.2.2.2.2.1 b.1.toNat (J,(0,((0,0),(0,(0,(([]:(O K)),(([]:Tn2),(0,0))))))))).2.2.2.2.2.2.1,((L a.2.2.2.2.1 b.1.toNat (J,(0,((0,0),(0,(0,(([]:(O K)),(([]:Tn2),(0,0))))))))).2.2.2.2.2.2.2.1,(L a.2.2.2.2.1 b.1.toNat (J,(0,((0,0),(0,(0,(([]:(O K)),(([]:Tn2),(0,0))))))))).2.2.2.2.2.2.2.2))))))))
 M ((a.1,(a.2.1,(a.2.2.1,[(a.2.2.2.1,(i9,a.2.2.2.2.2))]))),a1.2.1,a1.2.2)) (cond (f.1==1) (let f4:O Int:=[0,1,(-5),98979,98981]
 (j0a f.2.1 f.2.2 f4).bind fun t=>let i5:Tn62:=Á a.2.2.2.2.1 b.1.toNat ((L a.2.2.2.2.1 b.1.toNat (J,(0,((0,0),(0,(0,(([]:(O K)),(([]:Tn2),(0,0))))))))).1,((L a.2.2.2.2.1 b.1.toNat (J,(0,((0,0),(0,(0,(([]:(O K)),(([]:Tn2),(0,0))))))))).2.1,((t.1,(L a.2.2.2.2.1 b.1.toNat (J,(0,((0,0),(0,(0,(([]:(O K)),(([]:Tn2),(0,0))))))))).2.2.1.2),((L a.2.2.2.2.1 b.1.toNat (J,(0,((0,0),(0,(0,(([]:(O K)),(([]:Tn2),(0,0))))))))).2.2.2.1,((L a.2.2.2.2.1 b.1.toNat (J,(0,((0,0),(0,(0,(([]:(O K)),(([]:Tn2),(0,0))))))))).2.2.2.2.1,((L a.2.2.2.2.1 b.1.toNat (J,(0,((0,0),(0,(0,(([]:(O K)),(([]:Tn2),(0,0))))))))).2.2.2.2.2.1,((L a.2.2.2.2.1 b.1.toNat (J,(0,((0,0),(0,(0,(([]:(O K)),(([]:Tn2),(0,0))))))))).2.2.2.2.2.2.1,((L a.2.2.2.2.1 b.1.toNat (J,(0,((0,0),(0,(0,(([]:(O K)),(([]:Tn2),(0,0))))))))).2.2.2.2.2.2.2.1,(L a.2.2.2.2.1 b.1.toNat (J,(0,((0,0),(0,(0,(([]:(O K)),(([]:Tn2),(0,0))))))))).2.2.2.2.2.2.2.2))))))))
 M ((a.1,(a.2.1,(a.2.2.1,[(a.2.2.2.1,(i5,a.2.2.2.2.2))]))),t.2.1,t.2.2)) (cond (f.1==2) (let k0:Tn62:=Á a.2.2.2.2.1 b.1.toNat ((L a.2.2.2.2.1 b.1.toNat (J,(0,((0,0),(0,(0,(([]:(O K)),(([]:Tn2),(0,0))))))))).1,((L a.2.2.2.2.1 b.1.toNat (J,(0,((0,0),(0,(0,(([]:(O K)),(([]:Tn2),(0,0))))))))).2.1,(((L a.2.2.2.2.1 b.1.toNat (J,(0,((0,0),(0,(0,(([]:(O K)),(([]:Tn2),(0,0))))))))).2.2.1.1,(L a.2.2.2.2.1 b.1.toNat (J,(0,((0,0),(0,(0,(([]:(O K)),(([]:Tn2),(0,0))))))))).2.2.1.2),((L a.2.2.2.2.1 b.1.toNat (J,(0,((0,0),(0,(0,(([]:(O K)),(([]:Tn2),(0,0))))))))).2.2.2.1,((L a.2.2.2.2.1 b.1.toNat (J,(0,((0,0),(0,(0,(([]:(O K)),(([]:Tn2),(0,0))))))))).2.2.2.2.1,(([]:(O K)),((L a.2.2.2.2.1 b.1.toNat (J,(0,((0,0),(0,(0,(([]:(O K)),(([]:Tn2),(0,0))))))))).2.2.2.2.2.2.1,((L a.2.2.2.2.1 b.1.toNat (J,(0,((0,0),(0,(0,(([]:(O K)),(([]:Tn2),(0,0))))))))).2.2.2.2.2.2.2.1,(L a.2.2.2.2.1 b.1.toNat (J,(0,((0,0),(0,(0,(([]:(O K)),(([]:Tn2),(0,0))))))))).2.2.2.2.2.2.2.2))))))))
 M ((a.1,(a.2.1,(a.2.2.1,[(a.2.2.2.1,(k0,a.2.2.2.2.2))]))),f.2.1,f.2.2)) (cond (f.1==3) (let e8:=W a.2.1.length
 let e9:O Int:=[0,(-1),e8]
 (j0a f.2.1 f.2.2 e9).bind fun u=>let g5:Tn62:=Á a.2.2.2.2.1 b.1.toNat ((L a.2.2.2.2.1 b.1.toNat (J,(0,((0,0),(0,(0,(([]:(O K)),(([]:Tn2),(0,0))))))))).1,((L a.2.2.2.2.1 b.1.toNat (J,(0,((0,0),(0,(0,(([]:(O K)),(([]:Tn2),(0,0))))))))).2.1,(((L a.2.2.2.2.1 b.1.toNat (J,(0,((0,0),(0,(0,(([]:(O K)),(([]:Tn2),(0,0))))))))).2.2.1.1,(L a.2.2.2.2.1 b.1.toNat (J,(0,((0,0),(0,(0,(([]:(O K)),(([]:Tn2),(0,0))))))))).2.2.1.2),((L a.2.2.2.2.1 b.1.toNat (J,(0,((0,0),(0,(0,(([]:(O K)),(([]:Tn2),(0,0))))))))).2.2.2.1,((L a.2.2.2.2.1 b.1.toNat (J,(0,((0,0),(0,(0,(([]:(O K)),(([]:Tn2),(0,0))))))))).2.2.2.2.1,([u.1],((L a.2.2.2.2.1 b.1.toNat (J,(0,((0,0),(0,(0,(([]:(O K)),(([]:Tn2),(0,0))))))))).2.2.2.2.2.2.1,((L a.2.2.2.2.1 b.1.toNat (J,(0,((0,0),(0,(0,(([]:(O K)),(([]:Tn2),(0,0))))))))).2.2.2.2.2.2.2.1,(L a.2.2.2.2.1 b.1.toNat (J,(0,((0,0),(0,(0,(([]:(O K)),(([]:Tn2),(0,0))))))))).2.2.2.2.2.2.2.2))))))))
 M ((a.1,(a.2.1,(a.2.2.1,[(a.2.2.2.1,(g5,a.2.2.2.2.2))]))),u.2.1,u.2.2)) (cond (f.1==4) (let d3:O Int:=[(-1),3]
 (j0a f.2.1 f.2.2 d3).bind fun a2=>let m5:Tn62:=Á a.2.2.2.2.1 b.1.toNat ((L a.2.2.2.2.1 b.1.toNat (J,(0,((0,0),(0,(0,(([]:(O K)),(([]:Tn2),(0,0))))))))).1,((L a.2.2.2.2.1 b.1.toNat (J,(0,((0,0),(0,(0,(([]:(O K)),(([]:Tn2),(0,0))))))))).2.1,(((L a.2.2.2.2.1 b.1.toNat (J,(0,((0,0),(0,(0,(([]:(O K)),(([]:Tn2),(0,0))))))))).2.2.1.1,(L a.2.2.2.2.1 b.1.toNat (J,(0,((0,0),(0,(0,(([]:(O K)),(([]:Tn2),(0,0))))))))).2.2.1.2),(a2.1,((L a.2.2.2.2.1 b.1.toNat (J,(0,((0,0),(0,(0,(([]:(O K)),(([]:Tn2),(0,0))))))))).2.2.2.2.1,((L a.2.2.2.2.1 b.1.toNat (J,(0,((0,0),(0,(0,(([]:(O K)),(([]:Tn2),(0,0))))))))).2.2.2.2.2.1,((L a.2.2.2.2.1 b.1.toNat (J,(0,((0,0),(0,(0,(([]:(O K)),(([]:Tn2),(0,0))))))))).2.2.2.2.2.2.1,((L a.2.2.2.2.1 b.1.toNat (J,(0,((0,0),(0,(0,(([]:(O K)),(([]:Tn2),(0,0))))))))).2.2.2.2.2.2.2.1,(L a.2.2.2.2.1 b.1.toNat (J,(0,((0,0),(0,(0,(([]:(O K)),(([]:Tn2),(0,0))))))))).2.2.2.2.2.2.2.2))))))))
 M ((a.1,(a.2.1,(a.2.2.1,[(a.2.2.2.1,(m5,a.2.2.2.2.2))]))),a2.2.1,a2.2.2)) (cond (f.1==5) (let d8:O Int:=[0,1,2,3]
 (j0a f.2.1 f.2.2 d8).bind fun z=>let g6:Tn62:=Á a.2.2.2.2.1 b.1.toNat ((L a.2.2.2.2.1 b.1.toNat (J,(0,((0,0),(0,(0,(([]:(O K)),(([]:Tn2),(0,0))))))))).1,((L a.2.2.2.2.1 b.1.toNat (J,(0,((0,0),(0,(0,(([]:(O K)),(([]:Tn2),(0,0))))))))).2.1,(((L a.2.2.2.2.1 b.1.toNat (J,(0,((0,0),(0,(0,(([]:(O K)),(([]:Tn2),(0,0))))))))).2.2.1.1,(L a.2.2.2.2.1 b.1.toNat (J,(0,((0,0),(0,(0,(([]:(O K)),(([]:Tn2),(0,0))))))))).2.2.1.2),((L a.2.2.2.2.1 b.1.toNat (J,(0,((0,0),(0,(0,(([]:(O K)),(([]:Tn2),(0,0))))))))).2.2.2.1,((L a.2.2.2.2.1 b.1.toNat (J,(0,((0,0),(0,(0,(([]:(O K)),(([]:Tn2),(0,0))))))))).2.2.2.2.1,((L a.2.2.2.2.1 b.1.toNat (J,(0,((0,0),(0,(0,(([]:(O K)),(([]:Tn2),(0,0))))))))).2.2.2.2.2.1,((L a.2.2.2.2.1 b.1.toNat (J,(0,((0,0),(0,(0,(([]:(O K)),(([]:Tn2),(0,0))))))))).2.2.2.2.2.2.1,((L a.2.2.2.2.1 b.1.toNat (J,(0,((0,0),(0,(0,(([]:(O K)),(([]:Tn2),(0,0))))))))).2.2.2.2.2.2.2.1,z.1))))))))
 M ((a.1,(a.2.1,(a.2.2.1,[(a.2.2.2.1,(g6,a.2.2.2.2.2))]))),z.2.1,z.2.2)) (cond (f.1==6) (let f8:O Int:=[0,1,(-1)]
 (j0a f.2.1 f.2.2 f8).bind fun v=>let g8:Tn62:=Á a.2.2.2.2.1 b.1.toNat ((L a.2.2.2.2.1 b.1.toNat (J,(0,((0,0),(0,(0,(([]:(O K)),(([]:Tn2),(0,0))))))))).1,((L a.2.2.2.2.1 b.1.toNat (J,(0,((0,0),(0,(0,(([]:(O K)),(([]:Tn2),(0,0))))))))).2.1,(((L a.2.2.2.2.1 b.1.toNat (J,(0,((0,0),(0,(0,(([]:(O K)),(([]:Tn2),(0,0))))))))).2.2.1.1,(L a.2.2.2.2.1 b.1.toNat (J,(0,((0,0),(0,(0,(([]:(O K)),(([]:Tn2),(0,0))))))))).2.2.1.2),((L a.2.2.2.2.1 b.1.toNat (J,(0,((0,0),(0,(0,(([]:(O K)),(([]:Tn2),(0,0))))))))).2.2.2.1,((L a.2.2.2.2.1 b.1.toNat (J,(0,((0,0),(0,(0,(([]:(O K)),(([]:Tn2),(0,0))))))))).2.2.2.2.1,((L a.2.2.2.2.1 b.1.toNat (J,(0,((0,0),(0,(0,(([]:(O K)),(([]:Tn2),(0,0))))))))).2.2.2.2.2.1,((L a.2.2.2.2.1 b.1.toNat (J,(0,((0,0),(0,(0,(([]:(O K)),(([]:Tn2),(0,0))))))))).2.2.2.2.2.2.1,(v.1,(L a.2.2.2.2.1 b.1.toNat (J,(0,((0,0),(0,(0,(([]:(O K)),(([]:Tn2),(0,0))))))))).2.2.2.2.2.2.2.2))))))))
 M ((a.1,(a.2.1,(a.2.2.1,[(a.2.2.2.1,(g8,a.2.2.2.2.2))]))),v.2.1,v.2.2)) (cond (f.1==7) (let b3:O ByteArray:=[(À #[97,100,97]),(À #[98,111,98]),(À #[120,32,121])]
 (j02 f.2.1 f.2.2 3).bind fun q=>cond (inR q.1 b3.length) (let e2:=L b3 q.1.toNat J
 let l3:Tn62:=Á a.2.2.2.2.1 b.1.toNat (e2,((L a.2.2.2.2.1 b.1.toNat (J,(0,((0,0),(0,(0,(([]:(O K)),(([]:Tn2),(0,0))))))))).2.1,(((L a.2.2.2.2.1 b.1.toNat (J,(0,((0,0),(0,(0,(([]:(O K)),(([]:Tn2),(0,0))))))))).2.2.1.1,(L a.2.2.2.2.1 b.1.toNat (J,(0,((0,0),(0,(0,(([]:(O K)),(([]:Tn2),(0,0))))))))).2.2.1.2),((L a.2.2.2.2.1 b.1.toNat (J,(0,((0,0),(0,(0,(([]:(O K)),(([]:Tn2),(0,0))))))))).2.2.2.1,((L a.2.2.2.2.1 b.1.toNat (J,(0,((0,0),(0,(0,(([]:(O K)),(([]:Tn2),(0,0))))))))).2.2.2.2.1,((L a.2.2.2.2.1 b.1.toNat (J,(0,((0,0),(0,(0,(([]:(O K)),(([]:Tn2),(0,0))))))))).2.2.2.2.2.1,((L a.2.2.2.2.1 b.1.toNat (J,(0,((0,0),(0,(0,(([]:(O K)),(([]:Tn2),(0,0))))))))).2.2.2.2.2.2.1,((L a.2.2.2.2.1 b.1.toNat (J,(0,((0,0),(0,(0,(([]:(O K)),(([]:Tn2),(0,0))))))))).2.2.2.2.2.2.2.1,(L a.2.2.2.2.1 b.1.toNat (J,(0,((0,0),(0,(0,(([]:(O K)),(([]:Tn2),(0,0))))))))).2.2.2.2.2.2.2.2))))))))
 M ((a.1,(a.2.1,(a.2.2.1,[(a.2.2.2.1,(l3,a.2.2.2.2.2))]))),q.2.1,q.2.2)) Y) (M ((a.1,(a.2.1,(a.2.2.1,[(a.2.2.2.1,(a.2.2.2.2.1,a.2.2.2.2.2))]))),f.2.1,f.2.2)))))))))) Y)) Y) ((j02 i.2.1 i.2.2 1).bind fun e4=>cond (inR e4.1 1) ((j5w e4.2.1 e4.2.2 ((Ç a.1.length ()),((Ç a.2.1.length ()),((Ç a.2.2.1.length ()),(Ç 1 ()))))).bind fun j=>(j02 j.2.1 j.2.2 5).bind fun k=>cond (k.1==0) (let i4:Tn30:=[(j.1.1,(j.1.2.1,(j.1.2.2.1,(j.1.2.2.2.1,j.1.2.2.2.1))))]
 cond (N (X a.2.2.2.2.2+X i4≤j05)) (let o0:Tn30:=a.2.2.2.2.2++i4
 M ((a.1,(a.2.1,(a.2.2.1,[(a.2.2.2.1,(a.2.2.2.2.1,o0))]))),k.2.1,k.2.2)) Y) (cond (k.1==1) (let n4:=W a.2.1.length
 let m7:O Int:=[(-1),(-2),n4]
 (j0a k.2.1 k.2.2 m7).bind fun f2=>let c8:Tn30:=[(j.1.1,(f2.1,(j.1.2.2.1,(j.1.2.2.2.1,j.1.2.2.2.2))))]
 cond (N (X a.2.2.2.2.2+X c8≤j05)) (let g9:Tn30:=a.2.2.2.2.2++c8
 M ((a.1,(a.2.1,(a.2.2.1,[(a.2.2.2.1,(a.2.2.2.2.1,g9))]))),f2.2.1,f2.2.2)) Y) (cond (k.1==2) (let n3:O Int:=[0,1,j.1.2.1]
 (j0a k.2.1 k.2.2 n3).bind fun d7=>let c9:Tn30:=[(j.1.1,(j.1.2.1,(d7.1,(j.1.2.2.2.1,j.1.2.2.2.2))))]
 cond (N (X a.2.2.2.2.2+X c9≤j05)) (let g7:Tn30:=a.2.2.2.2.2++c9
 M ((a.1,(a.2.1,(a.2.2.1,[(a.2.2.2.1,(a.2.2.2.2.1,g7))]))),d7.2.1,d7.2.2)) Y) (cond (k.1==3) (let m8:O Int:=[0,(-1)]
 (j0a k.2.1 k.2.2 m8).bind fun f7=>let m9:O Int:=[8551872000,8551958399,8551958400,8589934592]
 (j0a f7.2.1 f7.2.2 m9).bind fun e6=>let c7:Tn30:=[(j.1.1,(j.1.2.1,(j.1.2.2.1,(f7.1,e6.1))))]
 cond (N (X a.2.2.2.2.2+X c7≤j05)) (let g4:Tn30:=a.2.2.2.2.2++c7
 M ((a.1,(a.2.1,(a.2.2.1,[(a.2.2.2.1,(a.2.2.2.2.1,g4))]))),e6.2.1,e6.2.2)) Y) (cond (k.1==4) (let n2:O Int:=[(-1),3]
 (j0a k.2.1 k.2.2 n2).bind fun f3=>let d0:Tn30:=[(f3.1,(j.1.2.1,(j.1.2.2.1,(j.1.2.2.2.1,j.1.2.2.2.2))))]
 cond (N (X a.2.2.2.2.2+X d0≤j05)) (let i3:Tn30:=a.2.2.2.2.2++d0
 M ((a.1,(a.2.1,(a.2.2.1,[(a.2.2.2.1,(a.2.2.2.2.1,i3))]))),f3.2.1,f3.2.2)) Y) (let c6:Tn30:=[(j.1.1,(j.1.2.1,(j.1.2.2.1,(j.1.2.2.2.1,j.1.2.2.2.2))))]
 cond (N (X a.2.2.2.2.2+X c6≤j05)) (let i0:Tn30:=a.2.2.2.2.2++c6
 M ((a.1,(a.2.1,(a.2.2.1,[(a.2.2.2.1,(a.2.2.2.2.1,i0))]))),k.2.1,k.2.2)) Y)))))) Y))))))))))
def jjZ (a:K):S Bool:=M (cond (N (a≥48)) (N (a≤57)) Z)
def j5m (b:U) (a:K):S ((U×K) ⊕ (Å ⊕ Æ)):=
 let j:=W (Ä b)
 cond (N (a<j)) (cond (inR a (Ä b)) (let d:=j3J b a
 cond ((inR a (Ä b)) || !(!(N (d<97)))) (let f:=j3J b a
 cond ((inR a (Ä b)) || !(cond (N (d<97)) Â (N (f>122)))) (let i:=j3J b a
 cond (cond (N (d<97)) Â (N (f>122))) ((jjZ i).bind fun c=>cond ((inR a (Ä b)) || !(!c)) (let e:=j3J b a
 cond ((inR a (Ä b)) || !(cond (!c) (e != 95) Z)) (let l:=j3J b a
 cond (cond (cond (!c) (e != 95) Z) (l != 45) Z) (M (.inr (.inl Z))) (let g:=w64 (a+1)
 M (.inl (b,g)))) Y) Y) (cond ((inR a (Ä b)) || !Z) (let m:=j3J b a
 cond ((inR a (Ä b)) || !Z) (let n:=j3J b a
 let k:=w64 (a+1)
 M (.inl (b,k))) Y) Y)) Y) Y) Y) (M (.inr (.inr ())))
def jdd [LP] (b:U) (a:K):S (Å ⊕ Æ):=LP.lp (unc2 j5m) (b,a)
theorem jft (b a):jdd b a=lpK (j5m b a) (fun h=>jdd h.1 h.2):=j03 _ _
def jj7 [LP] (a:U):S Bool:=
 let c:=W (Ä a)
 let f:=W (Ä a)
 cond ((inR 0 (Ä a)) || !(!(cond (N (c<1)) Â (N (f>24))))) (let e:=j3J a 0
 let b:Bool:=cond (cond (N (c<1)) Â (N (f>24))) Â (N (e<97))
 cond ((inR 0 (Ä a)) || !(!b)) (let d:=j3J a 0
 cond (cond b Â (N (d>122))) (M Z) ((jdd a 0).bind fun g=>sumC g (fun i=>M i) (fun j=>M Â))) Y) Y
def j5n (a:O U) (d b:K):S (((O U)×K×K) ⊕ (K ⊕ Æ)):=cond (N (b<d)) (cond (inR b a.length) (let f:=L a b.toNat J
 cond (inR d a.length) (let e:=L a d.toNat J
 cond (É f==É e) (M (.inr (.inl 4))) (let c:=w64 (b+1)
 M (.inl (a,d,c)))) Y) Y) (M (.inr (.inr ())))
def jde [LP] (c:O U) (a b:K):S (K ⊕ Æ):=LP.lp (unc3 j5n) (c,a,b)
theorem jfu (c a b):jde c a b=lpK (j5n c a b) (fun h=>jde h.1 h.2.1 h.2.2):=j03 _ _
def jbv [LP] (a:O U) (b:K):S Int:=cond (inR b a.length) (let e:=L a b.toNat J
 (jj7 e).bind fun c=>cond (!c) (M 2) ((jde a b 0).bind fun d=>sumC d (fun f=>M f) (fun g=>M 0))) Y
def j6L (a b c:K):S Bool:=M (cond (N (a≥b)) (N (a≤c)) Z)
def j9a (a:Tn39):S Bool:=(j6L a.1 1970 2240).bind fun i=>cond i ((j6L a.2.1 a.1 2240).bind fun f=>cond f ((j6L a.2.2.1 1 12).bind fun d=>cond d ((j6L a.2.2.2.1 1 5).bind fun g=>cond g ((j6L a.2.2.2.2.1 0 6).bind fun e=>cond e ((j6L a.2.2.2.2.2.1 0 86399).bind fun c=>cond c ((j6L a.2.2.2.2.2.2 (-64800) 64800).bind fun b=>M b) (M Z)) (M Z)) (M Z)) (M Z)) (M Z)) (M Z)
def j1j (a:K):S Bool:=
 let d:=Ã a 4
 let c:=Ã a 100
 let b:=Ã a 400
 M (cond (d==0) (cond (c != 0) Â (b==0)) Z)
def jdf (b a:K):S Int:=cond (a==1) (cond (a==1) (M 31) (cond (a==4) (cond (a==4) (M 30) (cond (a==2) ((j1j b).bind fun a4=>cond a4 (M 29) (M 28)) (M 0))) (cond (a==6) (cond (a==6) (M 30) (cond (a==2) ((j1j b).bind fun a3=>cond a3 (M 29) (M 28)) (M 0))) (cond (a==9) (cond (a==9) (M 30) (cond (a==2) ((j1j b).bind fun a1=>cond a1 (M 29) (M 28)) (M 0))) (cond (a==11) (M 30) (cond (a==2) ((j1j b).bind fun a2=>cond a2 (M 29) (M 28)) (M 0))))))) (cond (a==3) (cond (a==3) (M 31) (cond (a==4) (cond (a==4) (M 30) (cond (a==2) ((j1j b).bind fun y=>cond y (M 29) (M 28)) (M 0))) (cond (a==6) (cond (a==6) (M 30) (cond (a==2) ((j1j b).bind fun v=>cond v (M 29) (M 28)) (M 0))) (cond (a==9) (cond (a==9) (M 30) (cond (a==2) ((j1j b).bind fun a0=>cond a0 (M 29) (M 28)) (M 0))) (cond (a==11) (M 30) (cond (a==2) ((j1j b).bind fun x=>cond x (M 29) (M 28)) (M 0))))))) (cond (a==5) (cond (a==5) (M 31) (cond (a==4) (cond (a==4) (M 30) (cond (a==2) ((j1j b).bind fun z=>cond z (M 29) (M 28)) (M 0))) (cond (a==6) (cond (a==6) (M 30) (cond (a==2) ((j1j b).bind fun w=>cond w (M 29) (M 28)) (M 0))) (cond (a==9) (cond (a==9) (M 30) (cond (a==2) ((j1j b).bind fun g=>cond g (M 29) (M 28)) (M 0))) (cond (a==11) (M 30) (cond (a==2) ((j1j b).bind fun k=>cond k (M 29) (M 28)) (M 0))))))) (cond (a==7) (cond (a==7) (M 31) (cond (a==4) (cond (a==4) (M 30) (cond (a==2) ((j1j b).bind fun u=>cond u (M 29) (M 28)) (M 0))) (cond (a==6) (cond (a==6) (M 30) (cond (a==2) ((j1j b).bind fun d=>cond d (M 29) (M 28)) (M 0))) (cond (a==9) (cond (a==9) (M 30) (cond (a==2) ((j1j b).bind fun c=>cond c (M 29) (M 28)) (M 0))) (cond (a==11) (M 30) (cond (a==2) ((j1j b).bind fun t=>cond t (M 29) (M 28)) (M 0))))))) (cond (a==8) (cond (a==8) (M 31) (cond (a==4) (cond (a==4) (M 30) (cond (a==2) ((j1j b).bind fun p=>cond p (M 29) (M 28)) (M 0))) (cond (a==6) (cond (a==6) (M 30) (cond (a==2) ((j1j b).bind fun f=>cond f (M 29) (M 28)) (M 0))) (cond (a==9) (cond (a==9) (M 30) (cond (a==2) ((j1j b).bind fun o=>cond o (M 29) (M 28)) (M 0))) (cond (a==11) (M 30) (cond (a==2) ((j1j b).bind fun q=>cond q (M 29) (M 28)) (M 0))))))) (cond (a==10) (cond (a==10) (M 31) (cond (a==4) (cond (a==4) (M 30) (cond (a==2) ((j1j b).bind fun j=>cond j (M 29) (M 28)) (M 0))) (cond (a==6) (cond (a==6) (M 30) (cond (a==2) ((j1j b).bind fun m=>cond m (M 29) (M 28)) (M 0))) (cond (a==9) (cond (a==9) (M 30) (cond (a==2) ((j1j b).bind fun l=>cond l (M 29) (M 28)) (M 0))) (cond (a==11) (M 30) (cond (a==2) ((j1j b).bind fun e=>cond e (M 29) (M 28)) (M 0))))))) (cond (a==12) (M 31) (cond (a==4) (cond (a==4) (M 30) (cond (a==2) ((j1j b).bind fun s=>cond s (M 29) (M 28)) (M 0))) (cond (a==6) (cond (a==6) (M 30) (cond (a==2) ((j1j b).bind fun r=>cond r (M 29) (M 28)) (M 0))) (cond (a==9) (cond (a==9) (M 30) (cond (a==2) ((j1j b).bind fun n=>cond n (M 29) (M 28)) (M 0))) (cond (a==11) (M 30) (cond (a==2) ((j1j b).bind fun i=>cond i (M 29) (M 28)) (M 0))))))))))))
def jgS (a:Tn3):S Bool:=cond (N (a.1≥1970)) (cond (N (a.1≤2240)) (cond (N (a.2.1≥1)) (cond (N (a.2.1≤12)) (cond (N (a.2.2≥1)) ((jdf a.1 a.2.1).bind fun b=>M (N (a.2.2≤b))) (M Z)) (M Z)) (M Z)) (M Z)) (M Z)
def jgT (a:K):S Int:=
 let j:=w64 (a-1970)
 let i:=w64 (j*365)
 let k:=w64 (a-1969)
 let m:=w64 (È k 4)
 let l:=w64 (i+m)
 let d:=w64 (a-1901)
 let e:=w64 (È d 100)
 let f:=w64 (l-e)
 let c:=w64 (a-1601)
 let g:=w64 (È c 400)
 let b:=w64 (f+g)
 M b
def j5V (i g f a b:K):S ((K×K×K×K×K) ⊕ (K×K×K×K)):=cond (N (g<a)) ((jdf f g).bind fun e=>let c:=w64 (i+e)
 let d:=w64 (g+1)
 M (.inl (c,d,f,a,b))) (M (.inr (i,f,a,b)))
def jf7 [LP] (e d c b a:K):S (K×K×K×K):=LP.lp (unc5 j5V) (e,d,c,b,a)
theorem jgU (e d c b a):jf7 e d c b a=lpK (j5V e d c b a) (fun h=>jf7 h.1 h.2.1 h.2.2.1 h.2.2.2.1 h.2.2.2.2):=j03 _ _
def jmH [LP] (a:Tn3):S (K×K):=(jgS (a.1,(a.2.1,a.2.2))).bind fun f=>cond (!f) (M (0,1)) ((jgT a.1).bind fun c=>(jf7 c 1 a.1 a.2.1 a.2.2).bind fun e=>let b:=w64 (e.1+e.2.2.2)
 let d:=w64 (b-1)
 M (d,0))
def jau (a:K):S Int:=
 let b:=Ã a 7
 let c:=w64 (b+10)
 let d:=Ã c 7
 M d
def j5W (g i f e d a:K):S ((K×K×K×K×K×K) ⊕ (K×K×K×K×K)):=(jau a).bind fun b=>cond (b != e) (let c:=w64 (a+1)
 M (.inl (g,i,f,e,d,c))) (M (.inr (g,i,f,d,a)))
def jf8 [LP] (e f d c a b:K):S (K×K×K×K×K):=LP.lp (unc6 j5W) (e,f,d,c,a,b)
theorem jgV (e f d c a b):jf8 e f d c a b=lpK (j5W e f d c a b) (fun h=>jf8 h.1 h.2.1 h.2.2.1 h.2.2.2.1 h.2.2.2.2.1 h.2.2.2.2.2):=j03 _ _
def j5X (g i f a:K):S ((K×K×K×K) ⊕ (K)):=
 let b:=w64 (a+7)
 (jdf g i).bind fun e=>let c:=w64 (f+e)
 cond (N (b<c)) (let d:=w64 (a+7)
 M (.inl (g,i,f,d))) (M (.inr a))
def jf9 [LP] (d c b a:K):S Int:=LP.lp (unc4 j5X) (d,c,b,a)
theorem jgW (c d a b):jf9 c d a b=lpK (j5X c d a b) (fun h=>jf9 h.1 h.2.1 h.2.2.1 h.2.2.2):=j03 _ _
def jmI [LP] (e c b a:K):S (K×K):=(jmH (e,(c,1))).bind fun f=>let l:Bool:=cond (cond (f.2 != 0) Â (N (b<1))) Â (N (b>5))
 let g:Bool:=cond (cond l Â (N (a<0))) Â (N (a>6))
 cond g (M (0,1)) ((jf8 e c b a f.1 f.1).bind fun d=>cond (N (d.2.2.1<5)) (let i:=w64 (d.2.2.1-1)
 let k:=w64 (7*i)
 let j:=w64 (d.2.2.2.2+k)
 M (j,0)) ((jf9 d.1 d.2.1 d.2.2.2.1 d.2.2.2.2).bind fun m=>M (m,0)))
def j2i (j:Tn44) (k i d f a:K) (c:Tn2):S ((Tn44×K×K×K×K×K×Tn2) ⊕ (Tn44×K×K×K×K×K×Tn2)):=cond (N (d>0)) (let b:=w64 (d-1)
 cond (inR b c.length) (let g:=(L c b.toNat (0,0)).1
 cond (N (g>f)) (let e:=w64 (d-1)
 M (.inl (j,k,i,e,f,a,c))) (M (.inr (j,k,i,d,f,a,c)))) Y) (M (.inr (j,k,i,d,f,a,c)))
def j4g [LP] (d:Tn44) (e b g f a:K) (c:Tn2):S (Tn44×K×K×K×K×K×Tn2):=LP.lp (unc7 j2i) (d,e,b,g,f,a,c)
theorem j9b (d e b g f a c):j4g d e b g f a c=lpK (j2i d e b g f a c) (fun h=>j4g h.1 h.2.1 h.2.2.1 h.2.2.2.1 h.2.2.2.2.1 h.2.2.2.2.2.1 h.2.2.2.2.2.2):=j03 _ _
def j2j [LP] (d:Tn44) (c u:K) (v:Tn2):S ((Tn44×K×K×Tn2) ⊕ (Tn44×K×Tn2)):=cond (inR c d.length) (let o:=L d c.toNat (0,(0,(0,(0,(0,(0,0))))))
 cond (N (u≤o.2.1)) (cond (inR c d.length) (let n:=L d c.toNat (0,(0,(0,(0,(0,(0,0))))))
 cond (inR c d.length) (let p:=L d c.toNat (0,(0,(0,(0,(0,(0,0))))))
 cond (inR c d.length) (let i:=L d c.toNat (0,(0,(0,(0,(0,(0,0))))))
 (jmI u n.2.2.1 p.2.2.2.1 i.2.2.2.2.1).bind fun l=>let m:=w64 (l.1*86400)
 cond (inR c d.length) (let s:=L d c.toNat (0,(0,(0,(0,(0,(0,0))))))
 let q:=w64 (m+s.2.2.2.2.2.1)
 cond (inR c d.length) (let j:=L d c.toNat (0,(0,(0,(0,(0,(0,0))))))
 let k:=W v.length
 (j4g d c u k q j.2.2.2.2.2.2 v).bind fun a=>let f:Tn2:=[(a.2.2.2.2.1,a.2.2.2.2.2.1)]
 cond (N (X a.2.2.2.2.2.2+X f≤j05)) (let b:Tn2:=a.2.2.2.2.2.2++f
 let e:=w64 (a.2.2.2.1+1)
 cond (N (0≤e)&&N (e≤(W b.length))) (cond (N (0≤a.2.2.2.1)&&N (a.2.2.2.1≤(W b.length))) (let g:Tn2:=over b e.toNat (Ë a.2.2.2.1.toNat b)
 let w:=W (min (X (Ë a.2.2.2.1.toNat b)) (X b-e.toNat))
 cond (inR a.2.2.2.1 g.length) (let t:Tn2:=Á g a.2.2.2.1.toNat (a.2.2.2.2.1,a.2.2.2.2.2.1)
 let r:=w64 (a.2.2.1+1)
 M (.inl (a.1,a.2.1,r,t))) Y) Y) Y) Y) Y) Y) Y) Y) Y) (M (.inr (d,c,v)))) Y
def j5H [LP] (c:Tn44) (d a:K) (b:Tn2):S (Tn44×K×Tn2):=LP.lp (unc4 j2j) (c,d,a,b)
theorem j9c (c d a b):j5H c d a b=lpK (j2j c d a b) (fun h=>j5H h.1 h.2.1 h.2.2.1 h.2.2.2):=j03 _ _
def j2k [LP] (c:Tn44) (d:K) (g:Tn2):S ((Tn44×K×Tn2) ⊕ (Tn2)):=
 let e:=W c.length
 cond (N (d<e)) (cond (inR d c.length) (let f:=L c d.toNat (0,(0,(0,(0,(0,(0,0))))))
 (j5H c d f.1 g).bind fun a=>let b:=w64 (a.2.1+1)
 M (.inl (a.1,b,a.2.2))) Y) (M (.inr g))
def j4h [LP] (b:Tn44) (c:K) (a:Tn2):S Tn2:=LP.lp (unc3 j2k) (b,c,a)
theorem j9d (b c a):j4h b c a=lpK (j2k b c a) (fun h=>j4h h.1 h.2.1 h.2.2):=j03 _ _
def j7T [LP] (a:Tn44):S Tn2:=(j4h a 0 ([]:Tn2)).bind fun b=>M b
def j1G (o c:K) (n:U) (d:K) (a:Tn44):S ((K×K×U×K×Tn44) ⊕ (K ⊕ (K×U×K×Tn44))):=
 let l:=W a.length
 cond (N (c<l)) (cond (inR c a.length) (let b:=L a c.toNat (0,(0,(0,(0,(0,(0,0))))))
 (j9a (b.1,(b.2.1,(b.2.2.1,(b.2.2.2.1,(b.2.2.2.2.1,(b.2.2.2.2.2.1,b.2.2.2.2.2.2))))))).bind fun e=>cond (!e) (M (.inr (.inl 1))) (cond (inR c a.length) (let g:=L a c.toNat (0,(0,(0,(0,(0,(0,0))))))
 cond (inR c a.length) (let f:=L a c.toNat (0,(0,(0,(0,(0,(0,0))))))
 let j:=w64 (g.2.1-f.1)
 let i:=w64 (j+1)
 let m:=w64 (o+i)
 let k:=w64 (c+1)
 M (.inl (m,k,n,d,a))) Y) Y)) Y) (M (.inr (.inr (o,n,d,a))))
def j3d [LP] (e d:K) (c:U) (b:K) (a:Tn44):S (K ⊕ (K×U×K×Tn44)):=LP.lp (unc5 j1G) (e,d,c,b,a)
theorem j5Y (e d c b a):j3d e d c b a=lpK (j1G e d c b a) (fun h=>j3d h.1 h.2.1 h.2.2.1 h.2.2.2.1 h.2.2.2.2):=j03 _ _
def j1k (y d:K) (e c:Tn2):S ((K×K×Tn2×Tn2) ⊕ (K ⊕ Tn2)):=
 let x:=W c.length
 cond (N (d<x)) (cond (inR d c.length) (let r:=(L c d.toNat (0,0)).2
 cond (r==y) (let u:=w64 (d+1)
 M (.inl (y,u,e,c))) (cond (inR d c.length) (let w:=(L c d.toNat (0,0)).1
 let b:=w64 (w-y)
 cond (inR d c.length) (let a:=(L c d.toNat (0,0)).2
 let s:=w64 (a-y)
 (j6L s (-86399) 86399).bind fun o=>cond (!o) (M (.inr (.inl 6))) ((j6L b 0 8589934592).bind fun q=>cond (!q) (M (.inr (.inl 6))) (let t:=W e.length
 cond (N (t>0)) (let j:=W e.length
 let f:=w64 (j-1)
 cond (inR f e.length) (let n:=(L e f.toNat (0,0)).1
 let m:=w64 (b-n)
 cond (N (m<604800)) (M (.inr (.inl 6))) (let g:Tn2:=[(b,a)]
 cond (N (X e+X g≤j05)) (let l:Tn2:=e++g
 let v:=w64 (d+1)
 M (.inl (a,v,l,c))) Y)) Y) (let i:Tn2:=[(b,a)]
 cond (N (X e+X i≤j05)) (let k:Tn2:=e++i
 let p:=w64 (d+1)
 M (.inl (a,p,k,c))) Y)))) Y) Y)) Y) (M (.inr (.inr e)))
def j3e [LP] (b c:K) (a d:Tn2):S (K ⊕ Tn2):=LP.lp (unc4 j1k) (b,c,a,d)
theorem j4i (c d a b):j3e c d a b=lpK (j1k c d a b) (fun h=>j3e h.1 h.2.1 h.2.2.1 h.2.2.2):=j03 _ _
def j0c [LP] (a:Tn54):S (Tn2×K):=(j6L a.2.1 (-64800) 64800).bind fun f=>cond (!f) (M (([]:Tn2),1)) (let b:=W a.2.2.length
 cond (N (b>16)) (M (([]:Tn2),5)) ((j3d 0 0 a.1 a.2.1 a.2.2).bind fun i=>sumC i (fun k=>M (([]:Tn2),k)) (fun g=>cond (N (g.1>640)) (M (([]:Tn2),5)) ((j7T g.2.2.2).bind fun e=>(j3e g.2.2.1 0 ([]:Tn2) e).bind fun j=>sumC j (fun d=>M (([]:Tn2),d)) (fun c=>M (c,0))))))
def j5Z [LP] (a:Tn54):S Int:=(j0c (a.1,(a.2.1,a.2.2))).bind fun b=>M b.2
def j3V (g:Å) (c:K) (j:U) (i:K) (a:Tn44):S ((Å×K×U×K×Tn44) ⊕ (Å)):=
 let f:=W a.length
 cond (N (c<f)) (cond ((inR c a.length) || !g) (let d:=L a c.toNat (0,(0,(0,(0,(0,(0,0))))))
 let b:=Ã d.2.2.2.2.2.2 60
 let e:=w64 (c+1)
 M (.inl ((cond g (b==0) Z),e,j,i,a))) Y) (M (.inr g))
def j8J [LP] (d:Å) (e:K) (c:U) (b:K) (a:Tn44):S Bool:=LP.lp (unc5 j3V) (d,e,c,b,a)
theorem jcH (d e c b a):j8J d e c b a=lpK (j3V d e c b a) (fun h=>j8J h.1 h.2.1 h.2.2.1 h.2.2.2.1 h.2.2.2.2):=j03 _ _
def j8q [LP] (a:Tn54):S Bool:=
 let b:=Ã a.2.1 60
 (j8J (b==0) 0 a.1 a.2.1 a.2.2).bind fun c=>M c
def j4M [LP] (b:K) (d:Tn56) (m:Tn50) (l:Tn27) (o:Tn67) (p:O U):S ((K×Tn56×Tn50×Tn27×Tn67×(O U)) ⊕ (K ⊕ Æ)):=
 let n:=W d.length
 cond (N (b<n)) (cond (inR b d.length) (let g:=L d b.toNat (J,(0,([]:Tn44)))
 cond (N (X p+X [g.1]≤j05)) (let f:O ByteArray:=p++[g.1]
 (jbv f b).bind fun e=>cond (e != 0) (M (.inr (.inl e))) (cond (inR b d.length) (let c:=L d b.toNat (J,(0,([]:Tn44)))
 (j5Z (c.1,(c.2.1,c.2.2))).bind fun i=>cond ((inR b d.length) || !(!(i != 0))) (let a:=L d b.toNat (J,(0,([]:Tn44)))
 cond (i != 0) (M (.inr (.inl 8))) ((j8q (a.1,(a.2.1,a.2.2))).bind fun j=>cond (!j) (M (.inr (.inl 8))) (let k:=w64 (b+1)
 M (.inl (k,d,m,l,o,f))))) Y) Y)) Y) Y) (M (.inr (.inr ())))
def jbw [LP] (f:K) (d:Tn56) (b:Tn50) (a:Tn27) (c:Tn67) (e:O U):S (K ⊕ Æ):=LP.lp (unc6 j4M) (f,d,b,a,c,e)
theorem jeu (f d b a c e):jbw f d b a c e=lpK (j4M f d b a c e) (fun h=>jbw h.1 h.2.1 h.2.2.1 h.2.2.2.1 h.2.2.2.2.1 h.2.2.2.2.2):=j03 _ _
def jgX [LP] (a:Tn73):S Int:=(jbw 0 a.1 a.2.1 a.2.2.1 a.2.2.2 ([]:(O U))).bind fun b=>sumC b (fun c=>M c) (fun d=>M 0)
def j6t (a b c:K):S Bool:=M (cond (N (a≥b)) (N (a≤c)) Z)
def j2F (b:Tn2) (a:K):S ((Tn2×K) ⊕ (K ⊕ Æ)):=
 let m:=W b.length
 cond (N (a<m)) (cond (inR a b.length) (let j:=L b a.toNat (0,0)
 cond (N (j.1<0)) (M (.inr (.inl 1))) (cond (inR a b.length) (let g:=L b a.toNat (0,0)
 cond (inR a b.length) (let f:=L b a.toNat (0,0)
 cond (N (g.1≥f.2)) (M (.inr (.inl 1))) (cond (inR a b.length) (let e:=L b a.toNat (0,0)
 cond (N (e.2>604800)) (M (.inr (.inl 1))) (cond (N (a>0)) (cond (inR a b.length) (let k:=L b a.toNat (0,0)
 let c:=w64 (a-1)
 cond (inR c b.length) (let d:=L b c.toNat (0,0)
 cond (N (k.1<d.2)) (M (.inr (.inl 6))) (let l:=w64 (a+1)
 M (.inl (b,l)))) Y) Y) (let i:=w64 (a+1)
 M (.inl (b,i))))) Y)) Y) Y)) Y) (M (.inr (.inr ())))
def j7r [LP] (b:Tn2) (a:K):S (K ⊕ Æ):=LP.lp (unc2 j2F) (b,a)
theorem j7U (b a):j7r b a=lpK (j2F b a) (fun h=>j7r h.1 h.2):=j03 _ _
def j60 [LP] (a:Tn2):S Int:=
 let b:=W a.length
 cond (N (b>14)) (M 5) ((j7r a 0).bind fun c=>sumC c (fun d=>M d) (fun e=>M 0))
def jev (a:K):S Bool:=(j6t a 0 604800).bind fun c=>let b:=Ã a 3600
 M (cond c (b==0) Z)
def j4j [LP] (e:K) (r:Tn56) (b:Tn50) (p:Tn27) (q:Tn67) (s:O U):S ((K×Tn56×Tn50×Tn27×Tn67×(O U)) ⊕ (K ⊕ Æ)):=
 let n:=W b.length
 cond (N (e<n)) (cond (inR e b.length) (let a:=L b e.toNat (J,(0,(([]:Tn2),(0,(0,Z)))))
 cond (N (X s+X [a.1]≤j05)) (let c:O ByteArray:=s++[a.1]
 let o:Bool:=É a.1==É (À #[110,111,98,111,100,121])
 cond o (M (.inr (.inl 2))) ((jbv c e).bind fun d=>cond (d != 0) (M (.inr (.inl d))) (let k:=W r.length
 let i:=w64 (k-1)
 (j6t a.2.1 0 i).bind fun m=>cond (!m) (M (.inr (.inl 3))) ((j60 a.2.2.1).bind fun g=>cond (g != 0) (M (.inr (.inl 8))) ((jev a.2.2.2.1).bind fun j=>cond (!j) (M (.inr (.inl 1))) ((jev a.2.2.2.2.1).bind fun f=>cond (!f) (M (.inr (.inl 1))) (let l:=w64 (e+1)
 M (.inl (l,r,b,p,q,c))))))))) Y) Y) (M (.inr (.inr ())))
def j9V [LP] (f:K) (d:Tn56) (b:Tn50) (a:Tn27) (c:Tn67) (e:O U):S (K ⊕ Æ):=LP.lp (unc6 j4j) (f,d,b,a,c,e)
theorem jdZ (f d b a c e):j9V f d b a c e=lpK (j4j f d b a c e) (fun h=>j9V h.1 h.2.1 h.2.2.1 h.2.2.2.1 h.2.2.2.2.1 h.2.2.2.2.2):=j03 _ _
def jfa [LP] (a:Tn73):S Int:=(j9V 0 a.1 a.2.1 a.2.2.1 a.2.2.2 ([]:(O U))).bind fun b=>sumC b (fun c=>M c) (fun d=>M 0)
def j8r  : S Int:=(jgT 2241).bind fun a=>let b:=w64 (a-1)
 M b
def j2U (o f:K) (m:Tn56) (d:Tn50) (c:Tn27) (e:Tn67) (p:U) (b:K) (a:O K) (n:O U):S ((K×K×Tn56×Tn50×Tn27×Tn67×U×K×(O K)×(O U)) ⊕ (K ⊕ (K×Tn56×Tn50×Tn27×Tn67×U×K×(O K)×(O U)))):=
 let i:=W a.length
 cond (N (f<i)) (cond (inR f a.length) (let j:=L a f.toNat 0
 (j8r).bind fun l=>(j6t j 0 l).bind fun g=>cond (!g) (M (.inr (.inl 1))) (let k:=w64 (f+1)
 M (.inl (o,k,m,d,c,e,p,b,a,n)))) Y) (M (.inr (.inr (o,m,d,c,e,p,b,a,n))))
def j73 [LP] (j i:K) (f:Tn56) (d:Tn50) (b:Tn27) (e:Tn67) (k:U) (a:K) (c:O K) (g:O U):S (K ⊕ (K×Tn56×Tn50×Tn27×Tn67×U×K×(O K)×(O U))):=LP.lp (u8 unc2 j2U) (j,i,f,d,b,e,k,a,c,g)
theorem jav (j i f d b e k a c g):j73 j i f d b e k a c g=lpK (j2U j i f d b e k a c g) (fun h=>j73 h.1 h.2.1 h.2.2.1 h.2.2.2.1 h.2.2.2.2.1 h.2.2.2.2.2.1 h.2.2.2.2.2.2.1 h.2.2.2.2.2.2.2.1 h.2.2.2.2.2.2.2.2.1 h.2.2.2.2.2.2.2.2.2):=j03 _ _
def j2V (o e:K) (m:Tn56) (d:Tn50) (c:Tn27) (f:Tn67) (p:U) (l:K) (a:O K) (n:O U):S ((K×K×Tn56×Tn50×Tn27×Tn67×U×K×(O K)×(O U)) ⊕ (K ⊕ (K×Tn56×Tn50×Tn27×Tn67×(O U)))):=
 let i:=W a.length
 cond (N (e<i)) (cond (inR e a.length) (let j:=L a e.toNat 0
 let b:=w64 (e-1)
 cond (inR b a.length) (let k:=L a b.toNat 0
 cond (N (j≤k)) (M (.inr (.inl 6))) (let g:=w64 (e+1)
 M (.inl (o,g,m,d,c,f,p,l,a,n)))) Y) Y) (M (.inr (.inr (o,m,d,c,f,n))))
def j74 [LP] (i j:K) (f:Tn56) (d:Tn50) (b:Tn27) (e:Tn67) (k:U) (a:K) (c:O K) (g:O U):S (K ⊕ (K×Tn56×Tn50×Tn27×Tn67×(O U))):=LP.lp (u8 unc2 j2V) (i,j,f,d,b,e,k,a,c,g)
theorem jaw (i j f d b e k a c g):j74 i j f d b e k a c g=lpK (j2V i j f d b e k a c g) (fun h=>j74 h.1 h.2.1 h.2.2.1 h.2.2.2.1 h.2.2.2.2.1 h.2.2.2.2.2.1 h.2.2.2.2.2.2.1 h.2.2.2.2.2.2.2.1 h.2.2.2.2.2.2.2.2.1 h.2.2.2.2.2.2.2.2.2):=j03 _ _
def j2W [LP] (g:K) (t:Tn56) (o:Tn50) (d:Tn27) (r:Tn67) (v:O U):S ((K×Tn56×Tn50×Tn27×Tn67×(O U)) ⊕ (K ⊕ Æ)):=
 let l:=W d.length
 cond (N (g<l)) (cond (inR g d.length) (let a:=L d g.toNat (J,(0,([]:(O K))))
 cond (N (X v+X [a.1]≤j05)) (let f:O ByteArray:=v++[a.1]
 (jbv f g).bind fun e=>cond (e != 0) (M (.inr (.inl e))) (let m:=W t.length
 let k:=w64 (m-1)
 (j6t a.2.1 0 k).bind fun i=>cond (!i) (M (.inr (.inl 3))) (let n:=W a.2.2.length
 cond (N (n>64)) (M (.inr (.inl 5))) ((j73 g 0 t o d r a.1 a.2.1 a.2.2 f).bind fun q=>sumC q (fun s=>M (.inr (.inl s))) (fun b=>(j74 b.1 1 b.2.1 b.2.2.1 b.2.2.2.1 b.2.2.2.2.1 b.2.2.2.2.2.1 b.2.2.2.2.2.2.1 b.2.2.2.2.2.2.2.1 b.2.2.2.2.2.2.2.2).bind fun p=>sumC p (fun u=>M (.inr (.inl u))) (fun c=>let j:=w64 (c.1+1)
 M (.inl (j,c.2.1,c.2.2.1,c.2.2.2.1,c.2.2.2.2.1,c.2.2.2.2.2)))))))) Y) Y) (M (.inr (.inr ())))
def j75 [LP] (f:K) (d:Tn56) (b:Tn50) (a:Tn27) (c:Tn67) (e:O U):S (K ⊕ Æ):=LP.lp (unc6 j2W) (f,d,b,a,c,e)
theorem jax (f d b a c e):j75 f d b a c e=lpK (j2W f d b a c e) (fun h=>j75 h.1 h.2.1 h.2.2.1 h.2.2.2.1 h.2.2.2.2.1 h.2.2.2.2.2):=j03 _ _
def j9W [LP] (a:Tn73):S Int:=(j75 0 a.1 a.2.1 a.2.2.1 a.2.2.2 ([]:(O U))).bind fun b=>sumC b (fun c=>M c) (fun d=>M 0)
def j4N (q:K) (v:Tn56) (b:Tn50) (l:Tn27) (g:Tn67) (u:U) (f c i m e:K) (a:O K) (j:Tn2) (k d:K):S ((K×Tn56×Tn50×Tn27×Tn67×U×K×K×K×K×K×(O K)×Tn2×K×K) ⊕ (K ⊕ (Tn56×Tn50×Tn27×Tn67×U×K×K×K×K×K×(O K)×Tn2×K×K))):=
 let s:=W a.length
 cond (N (q<s)) (cond (inR q a.length) (let n:=L a q.toNat 0
 let t:=W b.length
 let o:=w64 (t-1)
 (j6t n 0 o).bind fun r=>cond (!r) (M (.inr (.inl 3))) (let p:=w64 (q+1)
 M (.inl (p,v,b,l,g,u,f,c,i,m,e,a,j,k,d)))) Y) (M (.inr (.inr (v,b,l,g,u,f,c,i,m,e,a,j,k,d))))
def jbx [LP] (n:K) (p:Tn56) (g:Tn50) (f:Tn27) (i:Tn67) (o:U) (c e k j l:K) (b:O K) (m:Tn2) (d a:K):S (K ⊕ (Tn56×Tn50×Tn27×Tn67×U×K×K×K×K×K×(O K)×Tn2×K×K)):=LP.lp (u8 unc7 j4N) (n,p,g,f,i,o,c,e,k,j,l,b,m,d,a)
theorem jew (n p g f i o c e k j l b m d a):jbx n p g f i o c e k j l b m d a=lpK (j4N n p g f i o c e k j l b m d a) (fun h=>jbx h.1 h.2.1 h.2.2.1 h.2.2.2.1 h.2.2.2.2.1 h.2.2.2.2.2.1 h.2.2.2.2.2.2.1 h.2.2.2.2.2.2.2.1 h.2.2.2.2.2.2.2.2.1 h.2.2.2.2.2.2.2.2.2.1 h.2.2.2.2.2.2.2.2.2.2.1 h.2.2.2.2.2.2.2.2.2.2.2.1 h.2.2.2.2.2.2.2.2.2.2.2.2.1 h.2.2.2.2.2.2.2.2.2.2.2.2.2.1 h.2.2.2.2.2.2.2.2.2.2.2.2.2.2):=j03 _ _
def jex [LP] (b:Tn73) (a:Tn61):S Int:=
 let i:=W b.1.length
 let l:=w64 (i-1)
 (j6t a.2.1 0 l).bind fun r=>cond (!r) (M 3) ((j8r).bind fun g=>(j6t a.2.2.1.1 1 g).bind fun n=>cond (!n) (M 1) ((j6t a.2.2.1.2 0 86399).bind fun s=>cond (!s) (M 1) ((j6t a.2.2.2.1 0 2).bind fun j=>cond (!j) (M 1) ((j6t a.2.2.2.2.1 1 400).bind fun u=>cond (!u) (M 1) (let o:=W a.2.2.2.2.2.1.length
 cond (o==0) (M 7) (let p:=W a.2.2.2.2.2.1.length
 cond (N (p>12)) (M 5) ((jbx 0 b.1 b.2.1 b.2.2.1 b.2.2.2 a.1 a.2.1 a.2.2.1.1 a.2.2.1.2 a.2.2.2.1 a.2.2.2.2.1 a.2.2.2.2.2.1 a.2.2.2.2.2.2.1 a.2.2.2.2.2.2.2.1 a.2.2.2.2.2.2.2.2).bind fun v=>sumC v (fun w=>M w) (fun d=>(j60 d.2.2.2.2.2.2.2.2.2.2.2.1).bind fun f=>cond (f != 0) (M 8) ((j6t d.2.2.2.2.2.2.2.2.2.2.2.2.2 0 2).bind fun q=>cond (!q) (M 1) (let k:=W d.2.2.1.length
 let t:=w64 (k-1)
 cond (d.2.2.2.2.2.2.2.2.2.2.2.2.2 != 0) ((j6t d.2.2.2.2.2.2.2.2.2.2.2.2.1 0 t).bind fun m=>cond (!m) (M 3) (let e:Bool:=cond (d.2.2.2.2.2.2.2.2.2.2.2.2.2==0) (d.2.2.2.2.2.2.2.2.2.2.2.2.1 != 0) Z
 cond e (M 1) (M 0))) (let c:Bool:=cond (d.2.2.2.2.2.2.2.2.2.2.2.2.2==0) (d.2.2.2.2.2.2.2.2.2.2.2.2.1 != 0) Z
 cond c (M 1) (M 0))))))))))))
def jgY (d:Tn73) (a:Tn25):S Int:=
 let l:=W d.2.1.length
 (j6t a.1 0 2).bind fun k=>cond (!k) (M 1) (let g:=w64 (l-1)
 (j6t a.2.1 0 g).bind fun e=>let f:=w64 (l-1)
 cond (cond (!e) (cond (a.1 != 1) Â (a.2.1 != (-1))) Z) (cond ((!(a.1==2)) || !(!Â)) (M 3) Y) (cond (a.1==2) ((j6t a.2.2.1 0 f).bind fun i=>cond (!i) (M 3) (cond (cond (a.1 != 2) (a.2.2.1 != 0) Z) (M 1) (cond (cond (a.1==2) (a.2.1==a.2.2.1) Z) (M 4) (cond (N (a.2.2.2.1<0)) (M 1) (cond (N (a.2.2.2.2<0)) (M 1) (let j:=w64 (È a.2.2.2.2 86400)
 (j8r).bind fun m=>cond (N (j>m)) (M 1) (cond (N (a.2.2.2.1≥a.2.2.2.2)) (M 6) (M 0)))))))) (cond (cond (a.1 != 2) (a.2.2.1 != 0) Z) (M 1) (cond (cond (a.1==2) (a.2.1==a.2.2.1) Z) (M 4) (cond (N (a.2.2.2.1<0)) (M 1) (cond (N (a.2.2.2.2<0)) (M 1) (let b:=w64 (È a.2.2.2.2 86400)
 (j8r).bind fun c=>cond (N (b>c)) (M 1) (cond (N (a.2.2.2.1≥a.2.2.2.2)) (M 6) (M 0)))))))))
def j2X [LP] (q e:K) (o:Tn56) (d:Tn50) (c:Tn27) (f:Tn67) (s:U) (b:Tn62) (l:Tn30) (p r:O U):S ((K×K×Tn56×Tn50×Tn27×Tn67×U×Tn62×Tn30×(O U)×(O U)) ⊕ (K ⊕ (K×Tn56×Tn50×Tn27×Tn67×U×Tn62×Tn30×(O U)))):=
 let m:=W b.length
 cond (N (e<m)) (cond (inR e b.length) (let i:=L b e.toNat (J,(0,((0,0),(0,(0,(([]:(O K)),(([]:Tn2),(0,0))))))))
 cond (N (X r+X [i.1]≤j05)) (let j:O ByteArray:=r++[i.1]
 (jbv j e).bind fun g=>cond (g != 0) (M (.inr (.inl g))) (cond (inR e b.length) (let a:=L b e.toNat (J,(0,((0,0),(0,(0,(([]:(O K)),(([]:Tn2),(0,0))))))))
 (jex (o,(d,(c,f))) (a.1,(a.2.1,((a.2.2.1.1,a.2.2.1.2),(a.2.2.2.1,(a.2.2.2.2.1,(a.2.2.2.2.2.1,(a.2.2.2.2.2.2.1,(a.2.2.2.2.2.2.2.1,a.2.2.2.2.2.2.2.2))))))))).bind fun k=>cond (k != 0) (M (.inr (.inl k))) (let n:=w64 (e+1)
 M (.inl (q,n,o,d,c,f,s,b,l,p,j)))) Y)) Y) Y) (M (.inr (.inr (q,o,d,c,f,s,b,l,p))))
def j76 [LP] (i k:K) (f:Tn56) (d:Tn50) (b:Tn27) (e:Tn67) (l:U) (a:Tn62) (c:Tn30) (g j:O U):S (K ⊕ (K×Tn56×Tn50×Tn27×Tn67×U×Tn62×Tn30×(O U))):=LP.lp (u8 unc3 j2X) (i,k,f,d,b,e,l,a,c,g,j)
theorem jay (i k f d b e l a c g j):j76 i k f d b e l a c g j=lpK (j2X i k f d b e l a c g j) (fun h=>j76 h.1 h.2.1 h.2.2.1 h.2.2.2.1 h.2.2.2.2.1 h.2.2.2.2.2.1 h.2.2.2.2.2.2.1 h.2.2.2.2.2.2.2.1 h.2.2.2.2.2.2.2.2.1 h.2.2.2.2.2.2.2.2.2.1 h.2.2.2.2.2.2.2.2.2.2):=j03 _ _
def j2Y (n f:K) (l:Tn56) (d:Tn50) (c:Tn27) (e:Tn67) (o:U) (k:Tn62) (b:Tn30) (m:O U):S ((K×K×Tn56×Tn50×Tn27×Tn67×U×Tn62×Tn30×(O U)) ⊕ (K ⊕ (K×Tn56×Tn50×Tn27×Tn67×(O U)))):=
 let i:=W b.length
 cond (N (f<i)) (cond (inR f b.length) (let a:=L b f.toNat (0,(0,(0,(0,0))))
 (jgY (l,(d,(c,e))) (a.1,(a.2.1,(a.2.2.1,(a.2.2.2.1,a.2.2.2.2))))).bind fun g=>cond (g != 0) (M (.inr (.inl g))) (let j:=w64 (f+1)
 M (.inl (n,j,l,d,c,e,o,k,b,m)))) Y) (M (.inr (.inr (n,l,d,c,e,m))))
def j77 [LP] (j f:K) (g:Tn56) (d:Tn50) (b:Tn27) (e:Tn67) (k:U) (a:Tn62) (c:Tn30) (i:O U):S (K ⊕ (K×Tn56×Tn50×Tn27×Tn67×(O U))):=LP.lp (u8 unc2 j2Y) (j,f,g,d,b,e,k,a,c,i)
theorem jaz (j f g d b e k a c i):j77 j f g d b e k a c i=lpK (j2Y j f g d b e k a c i) (fun h=>j77 h.1 h.2.1 h.2.2.1 h.2.2.2.1 h.2.2.2.2.1 h.2.2.2.2.2.1 h.2.2.2.2.2.2.1 h.2.2.2.2.2.2.2.1 h.2.2.2.2.2.2.2.2.1 h.2.2.2.2.2.2.2.2.2):=j03 _ _
def j2Z [LP] (g:K) (t:Tn56) (n:Tn50) (m:Tn27) (d:Tn67) (r:O U):S ((K×Tn56×Tn50×Tn27×Tn67×(O U)) ⊕ (K ⊕ Æ)):=
 let i:=W d.length
 cond (N (g<i)) (cond (inR g d.length) (let a:=L d g.toNat (J,(([]:Tn62),([]:Tn30)))
 cond (N (X r+X [a.1]≤j05)) (let e:O ByteArray:=r++[a.1]
 (jbv e g).bind fun f=>cond (f != 0) (M (.inr (.inl f))) (let j:=W a.2.1.length
 let k:=W a.2.2.length
 cond (cond (N (j>6)) Â (N (k>48))) (M (.inr (.inl 5))) ((j76 g 0 t n m d a.1 a.2.1 a.2.2 e ([]:(O U))).bind fun p=>sumC p (fun q=>M (.inr (.inl q))) (fun b=>(j77 b.1 0 b.2.1 b.2.2.1 b.2.2.2.1 b.2.2.2.2.1 b.2.2.2.2.2.1 b.2.2.2.2.2.2.1 b.2.2.2.2.2.2.2.1 b.2.2.2.2.2.2.2.2).bind fun o=>sumC o (fun s=>M (.inr (.inl s))) (fun c=>let l:=w64 (c.1+1)
 M (.inl (l,c.2.1,c.2.2.1,c.2.2.2.1,c.2.2.2.2.1,c.2.2.2.2.2))))))) Y) Y) (M (.inr (.inr ())))
def j78 [LP] (f:K) (d:Tn56) (b:Tn50) (a:Tn27) (c:Tn67) (e:O U):S (K ⊕ Æ):=LP.lp (unc6 j2Z) (f,d,b,a,c,e)
theorem jaA (f d b a c e):j78 f d b a c e=lpK (j2Z f d b a c e) (fun h=>j78 h.1 h.2.1 h.2.2.1 h.2.2.2.1 h.2.2.2.2.1 h.2.2.2.2.2):=j03 _ _
def jdg [LP] (a:Tn73):S Int:=(j78 0 a.1 a.2.1 a.2.2.1 a.2.2.2 ([]:(O U))).bind fun b=>sumC b (fun c=>M c) (fun d=>M 0)
def jaB [LP] (a:Tn73):S Int:=
 let k:=W a.1.length
 let j:=W a.2.1.length
 let i:=W a.2.2.1.length
 let f:Bool:=cond (cond (N (k>16)) Â (N (j>32))) Â (N (i>8))
 let e:=W a.2.2.2.length
 cond (cond f Â (N (e>12))) (M 5) ((jgX (a.1,(a.2.1,(a.2.2.1,a.2.2.2)))).bind fun b=>cond (b != 0) (M b) ((jfa (a.1,(a.2.1,(a.2.2.1,a.2.2.2)))).bind fun c=>cond (c != 0) (M c) ((j9W (a.1,(a.2.1,(a.2.2.1,a.2.2.2)))).bind fun d=>cond (d != 0) (M d) ((jdg (a.1,(a.2.1,(a.2.2.1,a.2.2.2)))).bind fun g=>M g))))
def j9X [LP] (b:Tn73) (a:Tn61):S Bool:=
 let f:Tn62:=[(a.1,(a.2.1,((a.2.2.1.1,a.2.2.1.2),(a.2.2.2.1,(a.2.2.2.2.1,(a.2.2.2.2.2.1,(a.2.2.2.2.2.2.1,(a.2.2.2.2.2.2.2.1,a.2.2.2.2.2.2.2.2))))))))]
 let c:Tn67:=[((À #[97]),(f,([]:Tn30)))]
 (jaB (b.1,(b.2.1,(b.2.2.1,b.2.2.2)))).bind fun e=>cond (e==0) ((jaB (b.1,(b.2.1,(b.2.2.1,c)))).bind fun d=>M (d==0)) (M Z)
def jaC [LP] (b:Tn54) (a:Tn61):S Int:=(j5Z (b.1,(b.2.1,b.2.2))).bind fun i=>let g:Bool:=cond (cond (i != 0) Â (N (a.2.2.1.1<1))) Â (N (a.2.2.1.1>100000))
 let c:Bool:=cond (cond g Â (N (a.2.2.1.2<0))) Â (N (a.2.2.1.2≥86400))
 let d:Bool:=cond (cond c Â (N (a.2.2.2.1<0))) Â (N (a.2.2.2.1>2))
 let e:Bool:=cond (cond d Â (N (a.2.2.2.2.1<1))) Â (N (a.2.2.2.2.1>400))
 let f:=W a.2.2.2.2.2.1.length
 cond (cond e Â (f==0)) (M 8) (M 0)
def jcI (a:K):S Bool:=(j6L a (-2) 99422).bind fun b=>M b
def j3N (c:K) (b2:U) (d:K) (f:Tn44) (g a:K) (b:Tn2):S ((K×U×K×Tn44×K×K×Tn2) ⊕ ((K×K) ⊕ Æ)):=
 let a9:=W b.length
 cond (N (c<a9)) (cond (N (c≥0)) (cond (inR c b.length) (let s:=(L b c.toNat (0,0)).2
 cond (inR c b.length) (let e:=(L b c.toNat (0,0)).1
 let z:=w64 (c+1)
 let a7:=W b.length
 cond (N (z<a7)) (let o:=w64 (c+1)
 cond (inR o b.length) (let y:=(L b o.toNat (0,0)).1
 let a0:=w64 (g*86400)
 let a4:=w64 (a0+a)
 let n:=w64 (a4-s)
 let k:Int:=if n>e then n else e
 cond (N (k<y)) (M (.inr (.inl (k,0)))) (let a3:=w64 (c+1)
 M (.inl (a3,b2,d,f,g,a,b)))) Y) (let b1:=w64 (g*86400)
 let w:=w64 (b1+a)
 let i:=w64 (w-s)
 let p:Int:=if i>e then i else e
 cond (N (p<8589934593)) (M (.inr (.inl (p,0)))) (let b0:=w64 (c+1)
 M (.inl (b0,b2,d,f,g,a,b))))) Y) Y) (let a8:=w64 (c+1)
 let a1:=W b.length
 cond (N (a8<a1)) (let r:=w64 (c+1)
 cond (inR r b.length) (let a5:=(L b r.toNat (0,0)).1
 let v:=w64 (g*86400)
 let x:=w64 (v+a)
 let q:=w64 (x-d)
 let l:Int:=if q>0 then q else 0
 cond (N (l<a5)) (M (.inr (.inl (l,0)))) (let u:=w64 (c+1)
 M (.inl (u,b2,d,f,g,a,b)))) Y) (let t:=w64 (g*86400)
 let a6:=w64 (t+a)
 let j:=w64 (a6-d)
 let m:Int:=if j>0 then j else 0
 cond (N (m<8589934593)) (M (.inr (.inl (m,0)))) (let a2:=w64 (c+1)
 M (.inl (a2,b2,d,f,g,a,b)))))) (M (.inr (.inr ())))
def j4k [LP] (g:K) (f:U) (c:K) (b:Tn44) (d a:K) (e:Tn2):S ((K×K) ⊕ Æ):=LP.lp (unc7 j3N) (g,f,c,b,d,a,e)
theorem jaD (g f c b d a e):j4k g f c b d a e=lpK (j3N g f c b d a e) (fun h=>j4k h.1 h.2.1 h.2.2.1 h.2.2.2.1 h.2.2.2.2.1 h.2.2.2.2.2.1 h.2.2.2.2.2.2):=j03 _ _
def j4l [LP] (a:Tn54) (b:K×K):S (K×K):=(j0c (a.1,(a.2.1,a.2.2))).bind fun c=>cond (c.2 != 0) (M (0,8)) ((j6L b.2 0 86399).bind fun d=>cond (!d) (M (0,1)) (cond (N (b.1<(-2))) (M (0,0)) ((jcI b.1).bind fun e=>cond (!e) (M (0,10)) ((j4k (-1) a.1 a.2.1 a.2.2 b.1 b.2 c.1).bind fun f=>sumC f (fun g=>M (g.1,g.2)) (fun i=>M (0,10))))))
def j4m (c:Tn2) (g i a:K):S ((Tn2×K×K×K) ⊕ (K)):=
 let b:=W c.length
 cond ((inR a c.length) || !(N (a<b))) (let f:=L c a.toNat (0,0)
 cond (cond (N (a<b)) (N (f.1≤g)) Z) (cond (inR a c.length) (let e:=L c a.toNat (0,0)
 let d:=w64 (a+1)
 M (.inl (c,g,e.2,d))) Y) (M (.inr i))) Y
def j7V [LP] (a:Tn2) (c d b:K):S Int:=LP.lp (unc4 j4m) (a,c,d,b)
theorem je0 (c a b d):j7V c a b d=lpK (j4m c a b d) (fun h=>j7V h.1 h.2.1 h.2.2.1 h.2.2.2):=j03 _ _
def jfb [LP] (c:Tn54) (a:Tn2) (b:K):S Int:=(j7V a b c.2.1 0).bind fun d=>M d
def j9e [LP] (a:Tn54) (b:K):S (K×K):=(j0c (a.1,(a.2.1,a.2.2))).bind fun c=>cond (c.2 != 0) (M (0,8)) ((j6L b 0 8589934592).bind fun d=>cond (!d) (M (0,1)) ((jfb (a.1,(a.2.1,a.2.2)) c.1 b).bind fun e=>M (e,0)))
def jgZ (b a:K):S (K×K):=
 let g:=w64 (b+a)
 let e:=w64 (g+864000)
 let c:=w64 (È e 86400)
 let d:=w64 (c-10)
 let f:=Ã e 86400
 M (d,f)
def j3k [LP] (a:Tn54) (b:K):S ((K×K)×K):=(j9e (a.1,(a.2.1,a.2.2)) b).bind fun c=>cond (c.2 != 0) (M ((0,0),c.2)) ((jgZ b c.1).bind fun d=>M ((d.1,d.2),0))
def j61 [LP] (b:Tn54) (a:Tn61) (d:K):S (K×Å):=cond (a.2.2.2.1==0) ((j4l (b.1,(b.2.1,b.2.2)) (a.2.2.1.1,a.2.2.1.2)).bind fun e=>let n:=w64 (d*a.2.2.2.2.1)
 let j:=w64 (n*3600)
 let k:=w64 (e.1+j)
 let m:=w64 (e.1+j)
 M (k,(cond (e.2==0) (N (m≤8589934592)) Z))) (let g:=w64 (d*a.2.2.2.2.1)
 cond (a.2.2.2.1==2) (let l:=w64 (g*7)
 let o:=w64 (a.2.2.1.1+l)
 (j4l (b.1,(b.2.1,b.2.2)) (o,a.2.2.1.2)).bind fun i=>M (i.1,(i.2==0))) (let f:=w64 (a.2.2.1.1+g)
 (j4l (b.1,(b.2.1,b.2.2)) (f,a.2.2.1.2)).bind fun c=>M (c.1,(c.2==0))))
def j4O [LP] (q e:K) (p:U) (d:K) (g:Tn44) (r:U) (c m b j k:K) (l:O K) (f:Tn2) (n i:K):S ((K×K×U×K×Tn44×U×K×K×K×K×K×(O K)×Tn2×K×K) ⊕ (K)):=cond (N (e≥0)) ((j61 (p,(d,g)) (r,(c,((m,b),(j,(k,(l,(f,(n,i)))))))) e).bind fun a=>cond (cond a.2 (N (a.1≤q)) Z) (M (.inr e)) (let o:=w64 (e-1)
 M (.inl (q,o,p,d,g,r,c,m,b,j,k,l,f,n,i)))) (M (.inr e))
def j62 [LP] (n o:K) (m:U) (c:K) (e:Tn44) (p:U) (b k a g i:K) (j:O K) (d:Tn2) (l f:K):S Int:=LP.lp (u8 unc7 j4O) (n,o,m,c,e,p,b,k,a,g,i,j,d,l,f)
theorem jey (n o m c e p b k a g i j d l f):j62 n o m c e p b k a g i j d l f=lpK (j4O n o m c e p b k a g i j d l f) (fun h=>j62 h.1 h.2.1 h.2.2.1 h.2.2.2.1 h.2.2.2.2.1 h.2.2.2.2.2.1 h.2.2.2.2.2.2.1 h.2.2.2.2.2.2.2.1 h.2.2.2.2.2.2.2.2.1 h.2.2.2.2.2.2.2.2.2.1 h.2.2.2.2.2.2.2.2.2.2.1 h.2.2.2.2.2.2.2.2.2.2.2.1 h.2.2.2.2.2.2.2.2.2.2.2.2.1 h.2.2.2.2.2.2.2.2.2.2.2.2.2.1 h.2.2.2.2.2.2.2.2.2.2.2.2.2.2):=j03 _ _
def jaE [LP] (b:Tn54) (a:Tn61) (c:K):S Int:=cond (a.2.2.2.1==0) ((j4l (b.1,(b.2.1,b.2.2)) (a.2.2.1.1,a.2.2.1.2)).bind fun e=>cond (cond (e.2==0) (N (e.1≤c)) Z) (let r:=w64 (c-e.1)
 let j:=w64 (3600*a.2.2.2.2.1)
 cond (!(j==0)) (let q:=w64 (È r j)
 M q) Y) (M (-1))) ((j3k (b.1,(b.2.1,b.2.2)) c).bind fun k=>cond (a.2.2.2.1==2) (let l:=w64 (a.2.2.2.2.1*7)
 let s:=w64 (k.1.1+2)
 let m:=w64 (s-a.2.2.1.1)
 let p:Int:=if 0>m then 0 else m
 cond (!(l==0)) (let o:=w64 (È p l)
 (j62 c o b.1 b.2.1 b.2.2 a.1 a.2.1 a.2.2.1.1 a.2.2.1.2 a.2.2.2.1 a.2.2.2.2.1 a.2.2.2.2.2.1 a.2.2.2.2.2.2.1 a.2.2.2.2.2.2.2.1 a.2.2.2.2.2.2.2.2).bind fun t=>M t) Y) (let g:=w64 (k.1.1+2)
 let d:=w64 (g-a.2.2.1.1)
 let i:Int:=if 0>d then 0 else d
 cond (!(a.2.2.2.2.1==0)) (let f:=w64 (È i a.2.2.2.2.1)
 (j62 c f b.1 b.2.1 b.2.2 a.1 a.2.1 a.2.2.1.1 a.2.2.1.2 a.2.2.2.1 a.2.2.2.2.1 a.2.2.2.2.2.1 a.2.2.2.2.2.2.1 a.2.2.2.2.2.2.2.1 a.2.2.2.2.2.2.2.2).bind fun n=>M n) Y))
def jez [LP] (b:Tn54) (a:Tn61) (c:K):S (K×K):=(jaC (b.1,(b.2.1,b.2.2)) (a.1,(a.2.1,((a.2.2.1.1,a.2.2.1.2),(a.2.2.2.1,(a.2.2.2.2.1,(a.2.2.2.2.2.1,(a.2.2.2.2.2.2.1,(a.2.2.2.2.2.2.2.1,a.2.2.2.2.2.2.2.2))))))))).bind fun d=>cond (d != 0) (M (0,8)) (cond (cond (N (c<0)) Â (N (c>8589934592))) (M (0,1)) ((jaE (b.1,(b.2.1,b.2.2)) (a.1,(a.2.1,((a.2.2.1.1,a.2.2.1.2),(a.2.2.2.1,(a.2.2.2.2.1,(a.2.2.2.2.2.1,(a.2.2.2.2.2.2.1,(a.2.2.2.2.2.2.2.1,a.2.2.2.2.2.2.2.2)))))))) c).bind fun e=>M (e,0)))
def j6g (a:K×K):S Int:=(jau a.1).bind fun d=>let b:=w64 (d*86400)
 let c:=w64 (b+a.2)
 M c
def jah [LP] (a:Tn54) (c:K):S (K×K):=(j3k (a.1,(a.2.1,a.2.2)) c).bind fun b=>cond (b.2 != 0) (M (0,b.2)) ((j6g (b.1.1,b.1.2)).bind fun d=>M (d,0))
def j4n (c:Tn2) (e b:K):S ((Tn2×K×K) ⊕ (Å ⊕ Æ)):=
 let g:=W c.length
 cond (N (b<g)) (cond (inR b c.length) (let a:=L c b.toNat (0,0)
 cond ((inR b c.length) || !(N (e≥a.1))) (let f:=L c b.toNat (0,0)
 cond (cond (N (e≥a.1)) (N (e<f.2)) Z) (M (.inr (.inl Â))) (let d:=w64 (b+1)
 M (.inl (c,e,d)))) Y) Y) (M (.inr (.inr ())))
def j7W [LP] (c:Tn2) (a b:K):S (Å ⊕ Æ):=LP.lp (unc3 j4n) (c,a,b)
theorem je1 (c a b):j7W c a b=lpK (j4n c a b) (fun h=>j7W h.1 h.2.1 h.2.2):=j03 _ _
def jfc [LP] (a:Tn2) (b:K):S Bool:=(j7W a b 0).bind fun c=>sumC c (fun d=>M d) (fun e=>M Z)
def joi [LP] (a:Tn54) (b:Tn2) (d:K):S Bool:=(jah (a.1,(a.2.1,a.2.2)) d).bind fun c=>cond (c.2==0) ((j60 b).bind fun e=>cond (e==0) ((jfc b c.1).bind fun f=>M f) (M Z)) (M Z)
def j5o (w:K) (t:Å) (b:K) (v:U) (g l c d e:K) (f:O K) (i:Tn2) (j k:K) (u:U) (m:K) (a:O K) (o n:K):S ((K×Å×K×U×K×K×K×K×K×(O K)×Tn2×K×K×U×K×(O K)×K×K) ⊕ (K×Å×U×K×K×K×K×K×(O K)×Tn2×K×K)):=
 let p:=W a.length
 cond (N (b<p)) (cond t (let q:=w64 (b+1)
 M (.inl (w,Â,q,v,g,l,c,d,e,f,i,j,k,u,m,a,o,n))) (cond (inR b a.length) (let r:=L a b.toNat 0
 let s:=w64 (b+1)
 M (.inl (w,(r==o),s,v,g,l,c,d,e,f,i,j,k,u,m,a,o,n))) Y)) (M (.inr (w,t,v,g,l,c,d,e,f,i,j,k)))
def j7g [LP] (s:K) (n:Å) (q:K) (r:U) (d j e i k:K) (l:O K) (f:Tn2) (m g:K) (p:U) (a:K) (c:O K) (o b:K):S (K×Å×U×K×K×K×K×K×(O K)×Tn2×K×K):=LP.lp (u8 (u8 unc2) j5o) (s,n,q,r,d,j,e,i,k,l,f,m,g,p,a,c,o,b)
theorem jfv (s n q r i m d e f g j k l o a c p b):j7g s n q r i m d e f g j k l o a c p b=lpK (j5o s n q r i m d e f g j k l o a c p b) (fun h=>j7g h.1 h.2.1 h.2.2.1 h.2.2.2.1 h.2.2.2.2.1 h.2.2.2.2.2.1 h.2.2.2.2.2.2.1 h.2.2.2.2.2.2.2.1 h.2.2.2.2.2.2.2.2.1 h.2.2.2.2.2.2.2.2.2.1 h.2.2.2.2.2.2.2.2.2.2.1 h.2.2.2.2.2.2.2.2.2.2.2.1 h.2.2.2.2.2.2.2.2.2.2.2.2.1 h.2.2.2.2.2.2.2.2.2.2.2.2.2.1 h.2.2.2.2.2.2.2.2.2.2.2.2.2.2.1 h.2.2.2.2.2.2.2.2.2.2.2.2.2.2.2.1 h.2.2.2.2.2.2.2.2.2.2.2.2.2.2.2.2.1 h.2.2.2.2.2.2.2.2.2.2.2.2.2.2.2.2.2):=j03 _ _
def jby [LP] (b:Tn73) (a:Tn61) (g:K):S (K×Å):=cond (inR a.2.1 b.1.length) (let d:=L b.1 a.2.1.toNat (J,(0,([]:Tn44)))
 (jez (d.1,(d.2.1,d.2.2)) (a.1,(a.2.1,((a.2.2.1.1,a.2.2.1.2),(a.2.2.2.1,(a.2.2.2.2.1,(a.2.2.2.2.2.1,(a.2.2.2.2.2.2.1,(a.2.2.2.2.2.2.2.1,a.2.2.2.2.2.2.2.2)))))))) g).bind fun e=>let n:=W a.2.2.2.2.2.2.1.length
 cond (cond (e.2 != 0) Â (N (e.1<0))) (cond ((!(N (n>0))) || !(!Â)) (M (0,Z)) Y) (cond (N (n>0)) ((joi (d.1,(d.2.1,d.2.2)) a.2.2.2.2.2.2.1 g).bind fun p=>cond (!p) (M (0,Z)) (cond (a.2.2.2.2.2.2.2.2==0) (M (e.1,Â)) (cond (inR a.2.2.2.2.2.2.2.1 b.2.2.1.length) (let i:=L b.2.2.1 a.2.2.2.2.2.2.2.1.toNat (J,(0,([]:(O K))))
 cond (inR i.2.1 b.1.length) (let l:=L b.1 i.2.1.toNat (J,(0,([]:Tn44)))
 (j3k (l.1,(l.2.1,l.2.2)) g).bind fun m=>(j7g e.1 Z 0 a.1 a.2.1 a.2.2.1.1 a.2.2.1.2 a.2.2.2.1 a.2.2.2.2.1 a.2.2.2.2.2.1 a.2.2.2.2.2.2.1 a.2.2.2.2.2.2.2.1 a.2.2.2.2.2.2.2.2 i.1 i.2.1 i.2.2 m.1.1 m.1.2).bind fun o=>M (o.1,(o.2.1==(o.2.2.2.2.2.2.2.2.2.2.2==2)))) Y) Y))) (cond (a.2.2.2.2.2.2.2.2==0) (M (e.1,Â)) (cond (inR a.2.2.2.2.2.2.2.1 b.2.2.1.length) (let c:=L b.2.2.1 a.2.2.2.2.2.2.2.1.toNat (J,(0,([]:(O K))))
 cond (inR c.2.1 b.1.length) (let f:=L b.1 c.2.1.toNat (J,(0,([]:Tn44)))
 (j3k (f.1,(f.2.1,f.2.2)) g).bind fun k=>(j7g e.1 Z 0 a.1 a.2.1 a.2.2.1.1 a.2.2.1.2 a.2.2.2.1 a.2.2.2.2.1 a.2.2.2.2.2.1 a.2.2.2.2.2.2.1 a.2.2.2.2.2.2.2.1 a.2.2.2.2.2.2.2.2 c.1 c.2.1 c.2.2 k.1.1 k.1.2).bind fun j=>M (j.1,(j.2.1==(j.2.2.2.2.2.2.2.2.2.2.2==2)))) Y) Y)))) Y
def jaF [LP] (b:Tn73) (a:Tn61) (c:K):S Bool:=(jby (b.1,(b.2.1,(b.2.2.1,b.2.2.2))) (a.1,(a.2.1,((a.2.2.1.1,a.2.2.1.2),(a.2.2.2.1,(a.2.2.2.2.1,(a.2.2.2.2.2.1,(a.2.2.2.2.2.2.1,(a.2.2.2.2.2.2.2.1,a.2.2.2.2.2.2.2.2)))))))) c).bind fun d=>M d.2
def jcJ [LP] (b:Tn73) (a:Tn61) (c:K):S Bool:=cond (cond (N (c≥0)) (N (c≤8589934592)) Z) ((j9X (b.1,(b.2.1,(b.2.2.1,b.2.2.2))) (a.1,(a.2.1,((a.2.2.1.1,a.2.2.1.2),(a.2.2.2.1,(a.2.2.2.2.1,(a.2.2.2.2.2.1,(a.2.2.2.2.2.2.1,(a.2.2.2.2.2.2.2.1,a.2.2.2.2.2.2.2.2))))))))).bind fun e=>cond e ((jaF (b.1,(b.2.1,(b.2.2.1,b.2.2.2))) (a.1,(a.2.1,((a.2.2.1.1,a.2.2.1.2),(a.2.2.2.1,(a.2.2.2.2.1,(a.2.2.2.2.2.1,(a.2.2.2.2.2.2.1,(a.2.2.2.2.2.2.2.1,a.2.2.2.2.2.2.2.2)))))))) c).bind fun d=>M d) (M Z)) (M Z)
def jdh [LP] (b:Tn73) (a:Tn61) (f:K):S Int:=(jby (b.1,(b.2.1,(b.2.2.1,b.2.2.2))) (a.1,(a.2.1,((a.2.2.1.1,a.2.2.1.2),(a.2.2.2.1,(a.2.2.2.2.1,(a.2.2.2.2.2.1,(a.2.2.2.2.2.2.1,(a.2.2.2.2.2.2.2.1,a.2.2.2.2.2.2.2.2)))))))) f).bind fun e=>cond (!e.2) (M (-1)) (let d:=W a.2.2.2.2.2.1.length
 cond (!(d==0)) (let c:=Ã e.1 d
 cond (inR c a.2.2.2.2.2.1.length) (let g:=L a.2.2.2.2.2.1 c.toNat 0
 M g) Y) Y)
def jai [LP] (b:Tn73) (a:Tn61) (c:K):S Int:=(jcJ (b.1,(b.2.1,(b.2.2.1,b.2.2.2))) (a.1,(a.2.1,((a.2.2.1.1,a.2.2.1.2),(a.2.2.2.1,(a.2.2.2.2.1,(a.2.2.2.2.2.1,(a.2.2.2.2.2.2.1,(a.2.2.2.2.2.2.2.1,a.2.2.2.2.2.2.2.2)))))))) c).bind fun e=>cond (!e) (M (-1)) ((jdh (b.1,(b.2.1,(b.2.2.1,b.2.2.2))) (a.1,(a.2.1,((a.2.2.1.1,a.2.2.1.2),(a.2.2.2.1,(a.2.2.2.2.1,(a.2.2.2.2.2.1,(a.2.2.2.2.2.2.1,(a.2.2.2.2.2.2.2.1,a.2.2.2.2.2.2.2.2)))))))) c).bind fun d=>M d)
def j6M (a b:K):S Bool:=
 let c:Bool:=cond (cond (N (a≥0)) (N (a≤8589934592)) Z) (N (b≥a)) Z
 let e:=w64 (b-a)
 let d:Bool:=cond (cond c (N (b≤8589934592)) Z) (N (e≤34560000)) Z
 M d
def j4o [LP] (v t o:K) (s:U) (f:K) (m:Tn44) (u:U) (d g b j c:K) (k:O K) (l:Tn2) (i e:K) (n:O K):S ((K×K×K×U×K×Tn44×U×K×K×K×K×K×(O K)×Tn2×K×K×(O K)) ⊕ (K×(O K))):=(j61 (s,(f,m)) (u,(d,((g,b),(j,(c,(k,(l,(i,e)))))))) o).bind fun a=>cond (cond (!a.2) Â (N (a.1≥t))) (M (.inr (0,n))) (cond (N (a.1≥v)) (cond (N (X n+X [a.1]≤j05)) (let p:O Int:=n++[a.1]
 let r:=w64 (o+1)
 M (.inl (v,t,r,s,f,m,u,d,g,b,j,c,k,l,i,e,p))) Y) (let q:=w64 (o+1)
 M (.inl (v,t,q,s,f,m,u,d,g,b,j,c,k,l,i,e,n))))
def j79 [LP] (q p m:K) (o:U) (b:K) (l:Tn44) (r:U) (a f e c k:K) (d:O K) (i:Tn2) (j g:K) (n:O K):S (K×(O K)):=LP.lp (u8 unc9 j4o) (q,p,m,o,b,l,r,a,f,e,c,k,d,i,j,g,n)
theorem jg0 (q p m o b l r a f e c k d i j g n):j79 q p m o b l r a f e c k d i j g n=lpK (j4o q p m o b l r a f e c k d i j g n) (fun h=>j79 h.1 h.2.1 h.2.2.1 h.2.2.2.1 h.2.2.2.2.1 h.2.2.2.2.2.1 h.2.2.2.2.2.2.1 h.2.2.2.2.2.2.2.1 h.2.2.2.2.2.2.2.2.1 h.2.2.2.2.2.2.2.2.2.1 h.2.2.2.2.2.2.2.2.2.2.1 h.2.2.2.2.2.2.2.2.2.2.2.1 h.2.2.2.2.2.2.2.2.2.2.2.2.1 h.2.2.2.2.2.2.2.2.2.2.2.2.2.1 h.2.2.2.2.2.2.2.2.2.2.2.2.2.2.1 h.2.2.2.2.2.2.2.2.2.2.2.2.2.2.2.1 h.2.2.2.2.2.2.2.2.2.2.2.2.2.2.2.2):=j03 _ _
def j7X [LP] (b:Tn54) (a:Tn61) (c d:K):S ((O K)×K):=(jaC (b.1,(b.2.1,b.2.2)) (a.1,(a.2.1,((a.2.2.1.1,a.2.2.1.2),(a.2.2.2.1,(a.2.2.2.2.1,(a.2.2.2.2.2.1,(a.2.2.2.2.2.2.1,(a.2.2.2.2.2.2.2.1,a.2.2.2.2.2.2.2.2))))))))).bind fun f=>cond (f != 0) (M (([]:(O K)),8)) ((j6M c d).bind fun j=>cond (!j) (M (([]:(O K)),1)) ((jaE (b.1,(b.2.1,b.2.2)) (a.1,(a.2.1,((a.2.2.1.1,a.2.2.1.2),(a.2.2.2.1,(a.2.2.2.2.1,(a.2.2.2.2.2.1,(a.2.2.2.2.2.2.1,(a.2.2.2.2.2.2.2.1,a.2.2.2.2.2.2.2.2)))))))) c).bind fun e=>let i:Int:=if e>0 then e else 0
 (j79 c d i b.1 b.2.1 b.2.2 a.1 a.2.1 a.2.2.1.1 a.2.2.1.2 a.2.2.2.1 a.2.2.2.2.1 a.2.2.2.2.2.1 a.2.2.2.2.2.2.1 a.2.2.2.2.2.2.2.1 a.2.2.2.2.2.2.2.2 ([]:(O K))).bind fun g=>M (g.2,g.1)))
def j4P (c:Tn2) (k j b a:K) (n:Tn2):S ((Tn2×K×K×K×K×Tn2) ⊕ (Tn2×K×K×K×Tn2)):=
 let p:=W c.length
 cond (N (a<p)) (cond (inR a c.length) (let q:=L c a.toNat (0,0)
 let d:=w64 (b+q.1)
 let e:Int:=if d>k then d else k
 cond (inR a c.length) (let o:=L c a.toNat (0,0)
 let f:=w64 (b+o.2)
 let g:Int:=if f<j then f else j
 cond (N (e<g)) (let i:Tn2:=[(e,g)]
 cond (N (X n+X i≤j05)) (let l:Tn2:=n++i
 let r:=w64 (a+1)
 M (.inl (c,k,j,b,r,l))) Y) (let m:=w64 (a+1)
 M (.inl (c,k,j,b,m,n)))) Y) Y) (M (.inr (c,k,j,b,n)))
def jbz [LP] (d:Tn2) (f c a b:K) (e:Tn2):S (Tn2×K×K×K×Tn2):=LP.lp (unc6 j4P) (d,f,c,a,b,e)
theorem jeA (d f c a b e):jbz d f c a b e=lpK (j4P d f c a b e) (fun h=>jbz h.1 h.2.1 h.2.2.1 h.2.2.2.1 h.2.2.2.2.1 h.2.2.2.2.2):=j03 _ _
def j4Q [LP] (f:Tn2) (g d c:K) (e:Tn2):S ((Tn2×K×K×K×Tn2) ⊕ (Tn2)):=cond (N (c<d)) ((jbz f g d c 0 e).bind fun a=>let b:=w64 (a.2.2.2.1+604800)
 M (.inl (a.1,a.2.1,a.2.2.1,b,a.2.2.2.2))) (M (.inr e))
def jbA [LP] (c:Tn2) (e b a:K) (d:Tn2):S Tn2:=LP.lp (unc5 j4Q) (c,e,b,a,d)
theorem jeB (c e b a d):jbA c e b a d=lpK (j4Q c e b a d) (fun h=>jbA h.1 h.2.1 h.2.2.1 h.2.2.2.1 h.2.2.2.2):=j03 _ _
def j9f [LP] (d:Tn2) (a c b:K):S Tn2:=
 let e:=w64 (a+b)
 let k:=w64 (a+b)
 let l:=w64 (k+864000)
 let j:=w64 (È l 86400)
 let n:=w64 (j-10)
 let g:=w64 (a+b)
 let i:=w64 (g+864000)
 let m:=Ã i 86400
 (j6g (n,m)).bind fun p=>let o:=w64 (e-p)
 let f:=w64 (o-b)
 (jbA d a c f ([]:Tn2)).bind fun q=>M q
def j5p (a:Tn2) (b:K) (c:Tn2):S ((Tn2×K×Tn2) ⊕ (Tn2)):=
 let u:=W a.length
 cond (N (b<u)) (let d:=W c.length
 cond (N (d>0)) (let g:=w64 (d-1)
 cond (inR g c.length) (let t:=(L c g.toNat (0,0)).2
 cond (inR b a.length) (let o:=L a b.toNat (0,0)
 cond (t==o.1) (let e:=w64 (d-1)
 cond (inR b a.length) (let l:=L a b.toNat (0,0)
 cond (inR e c.length) (let n:Tn2:=Á c e.toNat ((L c e.toNat (0,0)).1,l.2)
 let m:=w64 (b+1)
 M (.inl (a,m,n))) Y) Y) (cond (inR b a.length) (let j:=L a b.toNat (0,0)
 let k:Tn2:=[(j.1,j.2)]
 cond (N (X c+X k≤j05)) (let p:Tn2:=c++k
 let q:=w64 (b+1)
 M (.inl (a,q,p))) Y) Y)) Y) Y) (cond (inR b a.length) (let i:=L a b.toNat (0,0)
 let f:Tn2:=[(i.1,i.2)]
 cond (N (X c+X f≤j05)) (let r:Tn2:=c++f
 let s:=w64 (b+1)
 M (.inl (a,s,r))) Y) Y)) (M (.inr c))
def jdi [LP] (b:Tn2) (c:K) (a:Tn2):S Tn2:=LP.lp (unc3 j5p) (b,c,a)
theorem jfw (b c a):jdi b c a=lpK (j5p b c a) (fun h=>jdi h.1 h.2.1 h.2.2):=j03 _ _
def j7Y [LP] (b a:Tn2):S Tn2:=(jdi a 0 b).bind fun c=>M c
def j4R [LP] (i:Tn2) (g e b:K) (k:U) (c:K) (d:Tn44) (a f:Tn2):S ((Tn2×K×K×K×U×K×Tn44×Tn2×Tn2) ⊕ (Tn2)):=
 let a8:=W a.length
 cond (N (b<a8)) (cond (N (b≥0)) (cond (inR b a.length) (let m:=(L a b.toNat (0,0)).2
 cond (inR b a.length) (let q:=(L a b.toNat (0,0)).1
 let j:Int:=if q>g then q else g
 let b0:=w64 (b+1)
 let a9:=W a.length
 cond (N (b0<a9)) (let o:=w64 (b+1)
 cond (inR o a.length) (let p:=(L a o.toNat (0,0)).1
 let l:Int:=if p<e then p else e
 cond (N (j<l)) ((j9f i j l m).bind fun a6=>(j7Y f a6).bind fun a7=>let u:=w64 (b+1)
 M (.inl (i,g,e,u,k,c,d,a,a7))) (let v:=w64 (b+1)
 M (.inl (i,g,e,v,k,c,d,a,f)))) Y) (cond (N (j<e)) ((j9f i j e m).bind fun b2=>(j7Y f b2).bind fun a5=>let w:=w64 (b+1)
 M (.inl (i,g,e,w,k,c,d,a,a5))) (let x:=w64 (b+1)
 M (.inl (i,g,e,x,k,c,d,a,f))))) Y) Y) (let b3:=w64 (b+1)
 let b1:=W a.length
 cond (N (b3<b1)) (let s:=w64 (b+1)
 cond (inR s a.length) (let n:=(L a s.toNat (0,0)).1
 let r:Int:=if n<e then n else e
 cond (N (g<r)) ((j9f i g r c).bind fun t=>(j7Y f t).bind fun a4=>let a2:=w64 (b+1)
 M (.inl (i,g,e,a2,k,c,d,a,a4))) (let y:=w64 (b+1)
 M (.inl (i,g,e,y,k,c,d,a,f)))) Y) (cond (N (g<e)) ((j9f i g e c).bind fun a0=>(j7Y f a0).bind fun a1=>let a3:=w64 (b+1)
 M (.inl (i,g,e,a3,k,c,d,a,a1))) (let z:=w64 (b+1)
 M (.inl (i,g,e,z,k,c,d,a,f)))))) (M (.inr f))
def j9g [LP] (j:Tn2) (i g c:K) (f:U) (a:K) (b:Tn44) (e d:Tn2):S Tn2:=LP.lp (unc9 j4R) (j,i,g,c,f,a,b,e,d)
theorem jeC (j i g c f a b e d):j9g j i g c f a b e d=lpK (j4R j i g c f a b e d) (fun h=>j9g h.1 h.2.1 h.2.2.1 h.2.2.2.1 h.2.2.2.2.1 h.2.2.2.2.2.1 h.2.2.2.2.2.2.1 h.2.2.2.2.2.2.2.1 h.2.2.2.2.2.2.2.2):=j03 _ _
def jcK [LP] (a:Tn54) (d:Tn2) (b c:K):S (Tn2×K):=(j0c (a.1,(a.2.1,a.2.2))).bind fun e=>cond (e.2 != 0) (M (([]:Tn2),8)) ((j60 d).bind fun g=>cond (g != 0) (M (([]:Tn2),8)) ((j6M b c).bind fun f=>cond (!f) (M (([]:Tn2),1)) ((j9g d b c (-1) a.1 a.2.1 a.2.2 e.1 ([]:Tn2)).bind fun i=>let j:=W i.length
 cond (N (j>4096)) (M (([]:Tn2),5)) (M (i,0)))))
def j30 (d:K) (m:U) (b:K) (e:Tn44) (j a:K) (c:Tn2) (i:O K):S ((K×U×K×Tn44×K×K×Tn2×(O K)) ⊕ (O K)):=
 let a9:=W c.length
 cond (N (d<a9)) (cond (N (d≥0)) (cond (inR d c.length) (let q:=(L c d.toNat (0,0)).2
 cond (inR d c.length) (let n:=(L c d.toNat (0,0)).1
 let b7:=w64 (d+1)
 let b4:=W c.length
 cond (N (b7<b4)) (let p:=w64 (d+1)
 cond (inR p c.length) (let b1:=(L c p.toNat (0,0)).1
 let b5:=w64 (j*86400)
 let b6:=w64 (b5+a)
 let l:=w64 (b6-q)
 cond (cond (N (l≥n)) (N (l<b1)) Z) (cond (N (X i+X [l]≤j05)) (let a5:O Int:=i++[l]
 let w:=w64 (d+1)
 M (.inl (w,m,b,e,j,a,c,a5))) Y) (let s:=w64 (d+1)
 M (.inl (s,m,b,e,j,a,c,i)))) Y) (let a6:=w64 (j*86400)
 let b2:=w64 (a6+a)
 let k:=w64 (b2-q)
 cond (cond (N (k≥n)) (N (k<8589934593)) Z) (cond (N (X i+X [k]≤j05)) (let a7:O Int:=i++[k]
 let a3:=w64 (d+1)
 M (.inl (a3,m,b,e,j,a,c,a7))) Y) (let a4:=w64 (d+1)
 M (.inl (a4,m,b,e,j,a,c,i))))) Y) Y) (let b3:=w64 (d+1)
 let a8:=W c.length
 cond (N (b3<a8)) (let o:=w64 (d+1)
 cond (inR o c.length) (let b0:=(L c o.toNat (0,0)).1
 let a0:=w64 (j*86400)
 let a2:=w64 (a0+a)
 let f:=w64 (a2-b)
 cond (cond (N (f≥0)) (N (f<b0)) Z) (cond (N (X i+X [f]≤j05)) (let a1:O Int:=i++[f]
 let t:=w64 (d+1)
 M (.inl (t,m,b,e,j,a,c,a1))) Y) (let v:=w64 (d+1)
 M (.inl (v,m,b,e,j,a,c,i)))) Y) (let r:=w64 (j*86400)
 let y:=w64 (r+a)
 let g:=w64 (y-b)
 cond (cond (N (g≥0)) (N (g<8589934593)) Z) (cond (N (X i+X [g]≤j05)) (let z:O Int:=i++[g]
 let u:=w64 (d+1)
 M (.inl (u,m,b,e,j,a,c,z))) Y) (let x:=w64 (d+1)
 M (.inl (x,m,b,e,j,a,c,i)))))) (M (.inr i))
def j3l [LP] (i:K) (g:U) (c:K) (b:Tn44) (d a:K) (e:Tn2) (f:O K):S (O K):=LP.lp (unc8 j30) (i,g,c,b,d,a,e,f)
theorem jaG (i g c b d a e f):j3l i g c b d a e f=lpK (j30 i g c b d a e f) (fun h=>j3l h.1 h.2.1 h.2.2.1 h.2.2.2.1 h.2.2.2.2.1 h.2.2.2.2.2.1 h.2.2.2.2.2.2.1 h.2.2.2.2.2.2.2):=j03 _ _
def j6h [LP] (a:Tn54) (b:K×K):S ((O K)×K):=(j0c (a.1,(a.2.1,a.2.2))).bind fun c=>cond (c.2 != 0) (M (([]:(O K)),8)) ((j6L b.2 0 86399).bind fun e=>cond (!e) (M (([]:(O K)),1)) ((jcI b.1).bind fun d=>cond (!d) (M (([]:(O K)),0)) ((j3l (-1) a.1 a.2.1 a.2.2 b.1 b.2 c.1 ([]:(O K))).bind fun f=>M (f,0))))
def j5q (a:K) (w:Tn56) (j:Tn50) (p:Tn27) (c:Tn67) (x:U) (f k d m e:K) (n:O K) (o:Tn2) (l g:K) (i:O K) (b:Tn2):S ((K×Tn56×Tn50×Tn27×Tn67×U×K×K×K×K×K×(O K)×Tn2×K×K×(O K)×Tn2) ⊕ (Tn56×Tn50×Tn27×Tn67×U×K×K×K×K×K×(O K)×Tn2×K×K×(O K))):=
 let u:=W b.length
 cond (N (a<u)) (cond (inR a b.length) (let t:=(L b a.toNat (0,0)).1
 cond (inR a b.length) (let r:=(L b a.toNat (0,0)).2
 let v:O Int:=[t,r]
 cond (N (X i+X v≤j05)) (let q:O Int:=i++v
 let s:=w64 (a+1)
 M (.inl (s,w,j,p,c,x,f,k,d,m,e,n,o,l,g,q,b))) Y) Y) Y) (M (.inr (w,j,p,c,x,f,k,d,m,e,n,o,l,g,i)))
def jdj [LP] (n:K) (q:Tn56) (a:Tn50) (m:Tn27) (b:Tn67) (r:U) (c g f d l:K) (e:O K) (j:Tn2) (k i:K) (o:O K) (p:Tn2):S (Tn56×Tn50×Tn27×Tn67×U×K×K×K×K×K×(O K)×Tn2×K×K×(O K)):=LP.lp (u8 unc9 j5q) (n,q,a,m,b,r,c,g,f,d,l,e,j,k,i,o,p)
theorem jfx (n q a m b r c g f d l e j k i o p):jdj n q a m b r c g f d l e j k i o p=lpK (j5q n q a m b r c g f d l e j k i o p) (fun h=>jdj h.1 h.2.1 h.2.2.1 h.2.2.2.1 h.2.2.2.2.1 h.2.2.2.2.2.1 h.2.2.2.2.2.2.1 h.2.2.2.2.2.2.2.1 h.2.2.2.2.2.2.2.2.1 h.2.2.2.2.2.2.2.2.2.1 h.2.2.2.2.2.2.2.2.2.2.1 h.2.2.2.2.2.2.2.2.2.2.2.1 h.2.2.2.2.2.2.2.2.2.2.2.2.1 h.2.2.2.2.2.2.2.2.2.2.2.2.2.1 h.2.2.2.2.2.2.2.2.2.2.2.2.2.2.1 h.2.2.2.2.2.2.2.2.2.2.2.2.2.2.2.1 h.2.2.2.2.2.2.2.2.2.2.2.2.2.2.2.2):=j03 _ _
def j5r (c:K) (o:Tn56) (g:Tn50) (j:Tn27) (f:Tn67) (n:U) (e:K) (d k:O K) (b:Tn2):S ((K×Tn56×Tn50×Tn27×Tn67×U×K×(O K)×(O K)×Tn2) ⊕ (Tn56×Tn50×Tn27×Tn67×U×K×(O K)×(O K))):=
 let m:=W b.length
 cond (N (c<m)) (cond (inR c b.length) (let a:=(L b c.toNat (0,0)).1
 cond (N (X k+X [a]≤j05)) (let i:O Int:=k++[a]
 let l:=w64 (c+1)
 M (.inl (l,o,g,j,f,n,e,d,i,b))) Y) Y) (M (.inr (o,g,j,f,n,e,d,k)))
def j7h [LP] (i:K) (k:Tn56) (d:Tn50) (e:Tn27) (c:Tn67) (g:U) (b:K) (a j:O K) (f:Tn2):S (Tn56×Tn50×Tn27×Tn67×U×K×(O K)×(O K)):=LP.lp (u8 unc2 j5r) (i,k,d,e,c,g,b,a,j,f)
theorem jfy (i k d e c g b a j f):j7h i k d e c g b a j f=lpK (j5r i k d e c g b a j f) (fun h=>j7h h.1 h.2.1 h.2.2.1 h.2.2.2.1 h.2.2.2.2.1 h.2.2.2.2.2.1 h.2.2.2.2.2.2.1 h.2.2.2.2.2.2.2.1 h.2.2.2.2.2.2.2.2.1 h.2.2.2.2.2.2.2.2.2):=j03 _ _
def j46 [LP] (e l:K) (p:Tn56) (g:Tn50) (n:Tn27) (f:Tn67) (q:U) (b:K) (a o:O K):S ((K×K×Tn56×Tn50×Tn27×Tn67×U×K×(O K)×(O K)) ⊕ (K×Tn56×Tn50×Tn27×Tn67×U×K×(O K)×(O K))):=cond (N (l<2)) (cond (inR b p.length) (let c:=L p b.toNat (J,(0,([]:Tn44)))
 cond (inR e a.length) (let i:=L a e.toNat 0
 let m:=w64 (i+l)
 (j6h (c.1,(c.2.1,c.2.2)) (m,0)).bind fun d=>cond (N (X o+X d.1≤j05)) (let k:O Int:=o++d.1
 let j:=w64 (l+1)
 M (.inl (e,j,p,g,n,f,q,b,a,k))) Y) Y) Y) (M (.inr (e,p,g,n,f,q,b,a,o)))
def jdk [LP] (g f:K) (k:Tn56) (d:Tn50) (e:Tn27) (c:Tn67) (i:U) (b:K) (a j:O K):S (K×Tn56×Tn50×Tn27×Tn67×U×K×(O K)×(O K)):=LP.lp (u8 unc2 j46) (g,f,k,d,e,c,i,b,a,j)
theorem jbT (g f k d e c i b a j):jdk g f k d e c i b a j=lpK (j46 g f k d e c i b a j) (fun h=>jdk h.1 h.2.1 h.2.2.1 h.2.2.2.1 h.2.2.2.2.1 h.2.2.2.2.2.1 h.2.2.2.2.2.2.1 h.2.2.2.2.2.2.2.1 h.2.2.2.2.2.2.2.2.1 h.2.2.2.2.2.2.2.2.2):=j03 _ _
def j5s [LP] (f:K) (m:Tn56) (j:Tn50) (k:Tn27) (i:Tn67) (l:U) (e:K) (b g:O K):S ((K×Tn56×Tn50×Tn27×Tn67×U×K×(O K)×(O K)) ⊕ (O K)):=
 let d:=W b.length
 cond (N (f<d)) ((jdk f 0 m j k i l e b g).bind fun a=>let c:=w64 (a.1+1)
 M (.inl (c,a.2.1,a.2.2.1,a.2.2.2.1,a.2.2.2.2.1,a.2.2.2.2.2.1,a.2.2.2.2.2.2.1,a.2.2.2.2.2.2.2.1,a.2.2.2.2.2.2.2.2))) (M (.inr g))
def j8s [LP] (f:K) (j:Tn56) (d:Tn50) (e:Tn27) (c:Tn67) (g:U) (b:K) (a i:O K):S (O K):=LP.lp (unc9 j5s) (f,j,d,e,c,g,b,a,i)
theorem jfz (f j d e c g b a i):j8s f j d e c g b a i=lpK (j5s f j d e c g b a i) (fun h=>j8s h.1 h.2.1 h.2.2.1 h.2.2.2.1 h.2.2.2.2.1 h.2.2.2.2.2.1 h.2.2.2.2.2.2.1 h.2.2.2.2.2.2.2.1 h.2.2.2.2.2.2.2.2):=j03 _ _
def jbB [LP] (b:Tn73) (a:Tn61) (g l:K):S (O K):=cond (inR a.2.1 b.1.length) (let f:=L b.1 a.2.1.toNat (J,(0,([]:Tn44)))
 (j7X (f.1,(f.2.1,f.2.2)) (a.1,(a.2.1,((a.2.2.1.1,a.2.2.1.2),(a.2.2.2.1,(a.2.2.2.2.1,(a.2.2.2.2.2.1,(a.2.2.2.2.2.2.1,(a.2.2.2.2.2.2.2.1,a.2.2.2.2.2.2.2.2)))))))) g l).bind fun p=>cond (N (X ([]:(O K))+X p.1≤j05)) (let m:O Int:=([]:(O K))++p.1
 let t:=W a.2.2.2.2.2.2.1.length
 cond (N (t>0)) ((jcK (f.1,(f.2.1,f.2.2)) a.2.2.2.2.2.2.1 g l).bind fun r=>(jdj 0 b.1 b.2.1 b.2.2.1 b.2.2.2 a.1 a.2.1 a.2.2.1.1 a.2.2.1.2 a.2.2.2.1 a.2.2.2.2.1 a.2.2.2.2.2.1 a.2.2.2.2.2.2.1 a.2.2.2.2.2.2.2.1 a.2.2.2.2.2.2.2.2 m r.1).bind fun e=>cond (e.2.2.2.2.2.2.2.2.2.2.2.2.2.1==0) (M e.2.2.2.2.2.2.2.2.2.2.2.2.2.2) (cond (inR e.2.2.2.2.2.2.2.2.2.2.2.2.1 e.2.2.1.length) (let j:=L e.2.2.1 e.2.2.2.2.2.2.2.2.2.2.2.2.1.toNat (J,(0,([]:(O K))))
 cond (inR j.2.1 e.1.length) (let n:=L e.1 j.2.1.toNat (J,(0,([]:Tn44)))
 (j0c (n.1,(n.2.1,n.2.2))).bind fun s=>(j7h 0 e.1 e.2.1 e.2.2.1 e.2.2.2.1 j.1 j.2.1 j.2.2 e.2.2.2.2.2.2.2.2.2.2.2.2.2.2 s.1).bind fun k=>(j8s 0 k.1 k.2.1 k.2.2.1 k.2.2.2.1 k.2.2.2.2.1 k.2.2.2.2.2.1 k.2.2.2.2.2.2.1 k.2.2.2.2.2.2.2).bind fun u=>M u) Y) Y)) (cond (a.2.2.2.2.2.2.2.2==0) (M m) (cond (inR a.2.2.2.2.2.2.2.1 b.2.2.1.length) (let d:=L b.2.2.1 a.2.2.2.2.2.2.2.1.toNat (J,(0,([]:(O K))))
 cond (inR d.2.1 b.1.length) (let i:=L b.1 d.2.1.toNat (J,(0,([]:Tn44)))
 (j0c (i.1,(i.2.1,i.2.2))).bind fun o=>(j7h 0 b.1 b.2.1 b.2.2.1 b.2.2.2 d.1 d.2.1 d.2.2 m o.1).bind fun c=>(j8s 0 c.1 c.2.1 c.2.2.1 c.2.2.2.1 c.2.2.2.2.1 c.2.2.2.2.2.1 c.2.2.2.2.2.2.1 c.2.2.2.2.2.2.2).bind fun q=>M q) Y) Y))) Y) Y
def j5t (b4:(O K)→S (O K)) (e d:K) (a c b:O K):S ((K×K×(O K)×(O K)×(O K)) ⊕ (O K)):=
 let z:=W c.length
 let a9:=W b.length
 cond (cond (N (e<z)) Â (N (d<a9))) (let a6:=W b.length
 cond (d==a6) (cond (inR e c.length) (let g:=L c e.toNat 0
 let t:=w64 (e+1)
 let n:=W a.length
 let a2:=W a.length
 let q:=w64 (a2-1)
 cond ((inR q a.length) || !(!(n==0))) (let a5:=L a q.toNat 0
 cond (cond (n==0) Â (a5 != g)) (cond (N (X a+X [g]≤j05)) (let b3:O Int:=a++[g]
 M (.inl (t,d,b3,c,b))) Y) (M (.inl (t,d,a,c,b)))) Y) Y) (let b1:=W c.length
 cond (N (e<b1)) (cond (inR e c.length) (let b0:=L c e.toNat 0
 cond (inR d b.length) (let b2:=L b d.toNat 0
 cond (N (b0≤b2)) (cond (inR e c.length) (let f:=L c e.toNat 0
 let o:=w64 (e+1)
 let v:=W a.length
 let a8:=W a.length
 let r:=w64 (a8-1)
 cond ((inR r a.length) || !(!(v==0))) (let a3:=L a r.toNat 0
 cond (cond (v==0) Â (a3 != f)) (cond (N (X a+X [f]≤j05)) (let a0:O Int:=a++[f]
 M (.inl (o,d,a0,c,b))) Y) (M (.inl (o,d,a,c,b)))) Y) Y) (cond (inR d b.length) (let i:=L b d.toNat 0
 let m:=w64 (d+1)
 let p:=W a.length
 let a7:=W a.length
 let l:=w64 (a7-1)
 cond ((inR l a.length) || !(!(p==0))) (let a4:=L a l.toNat 0
 cond (cond (p==0) Â (a4 != i)) (cond (N (X a+X [i]≤j05)) (let w:O Int:=a++[i]
 M (.inl (e,m,w,c,b))) Y) (M (.inl (e,m,a,c,b)))) Y) Y)) Y) Y) (cond (inR d b.length) (let j:=L b d.toNat 0
 let u:=w64 (d+1)
 let s:=W a.length
 let y:=W a.length
 let k:=w64 (y-1)
 cond ((inR k a.length) || !(!(s==0))) (let a1:=L a k.toNat 0
 cond (cond (s==0) Â (a1 != j)) (cond (N (X a+X [j]≤j05)) (let x:O Int:=a++[j]
 M (.inl (e,u,x,c,b))) Y) (M (.inl (e,u,a,c,b)))) Y) Y))) (M (.inr a))
def jdl [LP] (a:(O K)→S (O K)) (f c:K) (b e d:O K):S (O K):=LP.lp (unc5 (j5t a)) (f,c,b,e,d)
theorem jfA (a:(O K)→S (O K)) (f c:K) (b e d:O K):jdl a f c b e d=lpK (j5t a f c b e d) (fun h=>jdl a h.1 h.2.1 h.2.2.1 h.2.2.2.1 h.2.2.2.2):=j03 _ _
def j9Y [LP] (d:(O K)→S (O K)) (a:O K):S (O K):=
 let i:=W a.length
 cond (N (i<2)) (cond (N (X ([]:(O K))+X a≤j05)) (let l:O Int:=([]:(O K))++a
 M l) Y) (let e:=W a.length
 let c:=w64 (È e 2)
 cond (N ((0:K)≤0)&&(N (0≤c)&&N (c≤(W a.length)))) (let j:O Int:=Ë 0 (Ê c.toNat a)
 (d j).bind fun m=>let k:=W a.length
 let b:=w64 (È k 2)
 cond (N (0≤b)&&(N (b≤(W a.length))&&N ((W a.length)≤(W a.length)))) (let f:O Int:=Ë b.toNat (Ê a.length a)
 (d f).bind fun g=>(jdl d 0 0 ([]:(O K)) m g).bind fun n=>M n) Y) Y)
def j4p [LP] (b:(O K)→S (O K)) (h:O K):S (O K):=j9Y (fun a=>b a) h
def jmJ [LP] (a:O K):S (O K):=LP.rp j4p a
def j3W (e g b:K) (l a:O K):S ((K×K×K×(O K)×(O K)) ⊕ (K×K×(O K))):=
 let i:=W a.length
 cond (N (b<i)) (cond (inR b a.length) (let d:=L a b.toNat 0
 cond ((inR b a.length) || !(N (d>e))) (let m:=L a b.toNat 0
 cond (cond (N (d>e)) (N (m<g)) Z) (cond (inR b a.length) (let c:=L a b.toNat 0
 cond (N (X l+X [c]≤j05)) (let j:O Int:=l++[c]
 let f:=w64 (b+1)
 M (.inl (e,g,f,j,a))) Y) Y) (let k:=w64 (b+1)
 M (.inl (e,g,k,l,a)))) Y) Y) (M (.inr (e,g,l)))
def j8K [LP] (d a e:K) (c b:O K):S (K×K×(O K)):=LP.lp (unc5 j3W) (d,a,e,c,b)
theorem jcL (d a e c b):j8K d a e c b=lpK (j3W d a e c b) (fun h=>j8K h.1 h.2.1 h.2.2.1 h.2.2.2.1 h.2.2.2.2):=j03 _ _
def j8t [LP] (c:O K) (a d:K):S (O K):=(jmJ c).bind fun f=>(j8K a d 0 [a] f).bind fun b=>cond (N (b.2.1>b.1)) (cond (N (X b.2.2+X [b.2.1]≤j05)) (let e:O Int:=b.2.2++[b.2.1]
 M e) Y) (M b.2.2)
def j4S [LP] (b:K) (a1:Tn56) (i:Tn50) (o:Tn27) (c:Tn67) (a2:U) (f j d l e:K) (m:O K) (n:Tn2) (k g:K) (a:O K) (q:Tn2):S ((K×Tn56×Tn50×Tn27×Tn67×U×K×K×K×K×K×(O K)×Tn2×K×K×(O K)×Tn2) ⊕ (Tn2)):=
 let u:=w64 (b+1)
 let w:=W a.length
 cond (N (u<w)) (cond (inR b a.length) (let a0:=L a b.toNat 0
 (jaF (a1,(i,(o,c))) (a2,(f,((j,d),(l,(e,(m,(n,(k,g)))))))) a0).bind fun r=>cond r (cond (inR b a.length) (let v:=L a b.toNat 0
 let p:=w64 (b+1)
 cond (inR p a.length) (let s:=L a p.toNat 0
 let y:Tn2:=[(v,s)]
 (j7Y q y).bind fun t=>let x:=w64 (b+1)
 M (.inl (x,a1,i,o,c,a2,f,j,d,l,e,m,n,k,g,a,t))) Y) Y) (let z:=w64 (b+1)
 M (.inl (z,a1,i,o,c,a2,f,j,d,l,e,m,n,k,g,a,q)))) Y) (M (.inr q))
def jbC [LP] (o:K) (q:Tn56) (b:Tn50) (m:Tn27) (a:Tn67) (r:U) (c g f d l:K) (e:O K) (j:Tn2) (k i:K) (n:O K) (p:Tn2):S Tn2:=LP.lp (u8 unc9 j4S) (o,q,b,m,a,r,c,g,f,d,l,e,j,k,i,n,p)
theorem jeD (o q b m a r c g f d l e j k i n p):jbC o q b m a r c g f d l e j k i n p=lpK (j4S o q b m a r c g f d l e j k i n p) (fun h=>jbC h.1 h.2.1 h.2.2.1 h.2.2.2.1 h.2.2.2.2.1 h.2.2.2.2.2.1 h.2.2.2.2.2.2.1 h.2.2.2.2.2.2.2.1 h.2.2.2.2.2.2.2.2.1 h.2.2.2.2.2.2.2.2.2.1 h.2.2.2.2.2.2.2.2.2.2.1 h.2.2.2.2.2.2.2.2.2.2.2.1 h.2.2.2.2.2.2.2.2.2.2.2.2.1 h.2.2.2.2.2.2.2.2.2.2.2.2.2.1 h.2.2.2.2.2.2.2.2.2.2.2.2.2.2.1 h.2.2.2.2.2.2.2.2.2.2.2.2.2.2.2.1 h.2.2.2.2.2.2.2.2.2.2.2.2.2.2.2.2):=j03 _ _
def jh0 [LP] (b:Tn73) (a:Tn61) (c d:K):S (Tn2×K):=(j9X (b.1,(b.2.1,(b.2.2.1,b.2.2.2))) (a.1,(a.2.1,((a.2.2.1.1,a.2.2.1.2),(a.2.2.2.1,(a.2.2.2.2.1,(a.2.2.2.2.2.1,(a.2.2.2.2.2.2.1,(a.2.2.2.2.2.2.2.1,a.2.2.2.2.2.2.2.2))))))))).bind fun g=>cond (!g) (M (([]:Tn2),8)) ((j6M c d).bind fun e=>cond (!e) (M (([]:Tn2),1)) ((jbB (b.1,(b.2.1,(b.2.2.1,b.2.2.2))) (a.1,(a.2.1,((a.2.2.1.1,a.2.2.1.2),(a.2.2.2.1,(a.2.2.2.2.1,(a.2.2.2.2.2.1,(a.2.2.2.2.2.2.1,(a.2.2.2.2.2.2.2.1,a.2.2.2.2.2.2.2.2)))))))) c d).bind fun f=>(j8t f c d).bind fun k=>(jbC 0 b.1 b.2.1 b.2.2.1 b.2.2.2 a.1 a.2.1 a.2.2.1.1 a.2.2.1.2 a.2.2.2.1 a.2.2.2.2.1 a.2.2.2.2.2.1 a.2.2.2.2.2.2.1 a.2.2.2.2.2.2.2.1 a.2.2.2.2.2.2.2.2 k ([]:Tn2)).bind fun i=>let j:=W i.length
 cond (N (j>4096)) (M (([]:Tn2),5)) (M (i,0))))
def jaj (a:Tn15) (b:Tn3):S Tn15:=cond (N (b.2.1≤b.1)) (M a) (let e:=W a.length
 cond (N (e>0)) (let l:=w64 (e-1)
 cond (inR l a.length) (let n:=(L a l.toNat (0,(0,0))).2.1
 cond (n==b.1) (let j:=w64 (e-1)
 cond (inR j a.length) (let o:=(L a j.toNat (0,(0,0))).2.2
 cond (o==b.2.2) (let d:=w64 (e-1)
 cond (inR d a.length) (let p:Tn15:=Á a d.toNat ((L a d.toNat (0,(0,0))).1,(b.2.1,(L a d.toNat (0,(0,0))).2.2))
 M p) Y) (let k:Tn15:=[(b.1,(b.2.1,b.2.2))]
 cond (N (X a+X k≤j05)) (let m:Tn15:=a++k
 M m) Y)) Y) (let f:Tn15:=[(b.1,(b.2.1,b.2.2))]
 cond (N (X a+X f≤j05)) (let g:Tn15:=a++f
 M g) Y)) Y) (let c:Tn15:=[(b.1,(b.2.1,b.2.2))]
 cond (N (X a+X c≤j05)) (let i:Tn15:=a++c
 M i) Y))
def j3w [LP] (b:K) (z:Tn56) (j:Tn50) (p:Tn27) (d:Tn67) (a0:U) (g k e m f:K) (n:O K) (o:Tn2) (l i:K) (a:O K) (y:Tn15):S ((K×Tn56×Tn50×Tn27×Tn67×U×K×K×K×K×K×(O K)×Tn2×K×K×(O K)×Tn15) ⊕ (Tn15)):=
 let t:=w64 (b+1)
 let v:=W a.length
 cond (N (t<v)) (cond (inR b a.length) (let q:=L a b.toNat 0
 let c:=w64 (b+1)
 cond (inR c a.length) (let w:=L a c.toNat 0
 cond (inR b a.length) (let s:=L a b.toNat 0
 (jdh (z,(j,(p,d))) (a0,(g,((k,e),(m,(f,(n,(o,(l,i)))))))) s).bind fun x=>(jaj y (q,(w,x))).bind fun u=>let r:=w64 (b+1)
 M (.inl (r,z,j,p,d,a0,g,k,e,m,f,n,o,l,i,a,u))) Y) Y) Y) (M (.inr y))
def j7Z [LP] (o:K) (q:Tn56) (b:Tn50) (m:Tn27) (a:Tn67) (r:U) (c g f d l:K) (e:O K) (j:Tn2) (k i:K) (n:O K) (p:Tn15):S Tn15:=LP.lp (u8 unc9 j3w) (o,q,b,m,a,r,c,g,f,d,l,e,j,k,i,n,p)
theorem jbD (o q b m a r c g f d l e j k i n p):j7Z o q b m a r c g f d l e j k i n p=lpK (j3w o q b m a r c g f d l e j k i n p) (fun h=>j7Z h.1 h.2.1 h.2.2.1 h.2.2.2.1 h.2.2.2.2.1 h.2.2.2.2.2.1 h.2.2.2.2.2.2.1 h.2.2.2.2.2.2.2.1 h.2.2.2.2.2.2.2.2.1 h.2.2.2.2.2.2.2.2.2.1 h.2.2.2.2.2.2.2.2.2.2.1 h.2.2.2.2.2.2.2.2.2.2.2.1 h.2.2.2.2.2.2.2.2.2.2.2.2.1 h.2.2.2.2.2.2.2.2.2.2.2.2.2.1 h.2.2.2.2.2.2.2.2.2.2.2.2.2.2.1 h.2.2.2.2.2.2.2.2.2.2.2.2.2.2.2.1 h.2.2.2.2.2.2.2.2.2.2.2.2.2.2.2.2):=j03 _ _
def jbE [LP] (b:Tn73) (a:Tn61) (c d:K):S (Tn15×K):=(j9X (b.1,(b.2.1,(b.2.2.1,b.2.2.2))) (a.1,(a.2.1,((a.2.2.1.1,a.2.2.1.2),(a.2.2.2.1,(a.2.2.2.2.1,(a.2.2.2.2.2.1,(a.2.2.2.2.2.2.1,(a.2.2.2.2.2.2.2.1,a.2.2.2.2.2.2.2.2))))))))).bind fun g=>cond (!g) (M (([]:Tn15),8)) ((j6M c d).bind fun e=>cond (!e) (M (([]:Tn15),1)) ((jbB (b.1,(b.2.1,(b.2.2.1,b.2.2.2))) (a.1,(a.2.1,((a.2.2.1.1,a.2.2.1.2),(a.2.2.2.1,(a.2.2.2.2.1,(a.2.2.2.2.2.1,(a.2.2.2.2.2.2.1,(a.2.2.2.2.2.2.2.1,a.2.2.2.2.2.2.2.2)))))))) c d).bind fun f=>(j8t f c d).bind fun k=>(j7Z 0 b.1 b.2.1 b.2.2.1 b.2.2.2 a.1 a.2.1 a.2.2.1.1 a.2.2.1.2 a.2.2.2.1 a.2.2.2.2.1 a.2.2.2.2.2.1 a.2.2.2.2.2.2.1 a.2.2.2.2.2.2.2.1 a.2.2.2.2.2.2.2.2 k ([]:Tn15)).bind fun j=>let i:=W j.length
 cond (N (i>16384)) (M (([]:Tn15),5)) (M (j,0))))
def j3X (f g:Tn2) (e a:K):S ((Tn2×Tn2×K×K) ⊕ (Å ⊕ Æ)):=cond (N (a<e)) (cond (inR a f.length) (let c:=L f a.toNat (0,0)
 cond (inR a g.length) (let b:=L g a.toNat (0,0)
 cond (!((c.1==b.1)&&(c.2==b.2))) (M (.inr (.inl Z))) (let d:=w64 (a+1)
 M (.inl (f,g,e,d)))) Y) Y) (M (.inr (.inr ())))
def j6N [LP] (d c:Tn2) (a b:K):S (Å ⊕ Æ):=LP.lp (unc4 j3X) (d,c,a,b)
theorem jcM (c d b a):j6N c d b a=lpK (j3X c d b a) (fun h=>j6N h.1 h.2.1 h.2.2.1 h.2.2.2):=j03 _ _
def jdm [LP] (a b:Tn2):S Bool:=
 let d:=W a.length
 let f:=W b.length
 cond (d != f) (M Z) (let c:=W a.length
 (j6N a b c 0).bind fun e=>sumC e (fun g=>M g) (fun i=>M Â))
def j4q (f g:Tn15) (e a:K):S ((Tn15×Tn15×K×K) ⊕ (Å ⊕ Æ)):=cond (N (a<e)) (cond (inR a f.length) (let c:=L f a.toNat (0,(0,0))
 cond (inR a g.length) (let b:=L g a.toNat (0,(0,0))
 cond (!((c.1==b.1)&&((c.2.1==b.2.1)&&(c.2.2==b.2.2)))) (M (.inr (.inl Z))) (let d:=w64 (a+1)
 M (.inl (f,g,e,d)))) Y) Y) (M (.inr (.inr ())))
def j80 [LP] (d c:Tn15) (a b:K):S (Å ⊕ Æ):=LP.lp (unc4 j4q) (d,c,a,b)
theorem je2 (c d b a):j80 c d b a=lpK (j4q c d b a) (fun h=>j80 h.1 h.2.1 h.2.2.1 h.2.2.2):=j03 _ _
def jcN [LP] (a b:Tn15):S Bool:=
 let d:=W a.length
 let f:=W b.length
 cond (d != f) (M Z) (let c:=W a.length
 (j80 a b c 0).bind fun e=>sumC e (fun g=>M g) (fun i=>M Â))
def j4T (c:Tn15) (d:K) (g:Tn15):S ((Tn15×K×Tn15) ⊕ (Tn15)):=
 let f:=W c.length
 cond (N (d<f)) (cond (inR d c.length) (let a:=L c d.toNat (0,(0,0))
 (jaj g (a.1,(a.2.1,a.2.2))).bind fun b=>let e:=w64 (d+1)
 M (.inl (c,e,b))) Y) (M (.inr g))
def j9h [LP] (b:Tn15) (c:K) (a:Tn15):S Tn15:=LP.lp (unc3 j4T) (b,c,a)
theorem jeE (b c a):j9h b c a=lpK (j4T b c a) (fun h=>j9h h.1 h.2.1 h.2.2):=j03 _ _
def jh1 [LP] (a:Tn15):S Tn15:=(j9h a 0 ([]:Tn15)).bind fun b=>M b
def j2l [LP] (b0:Tn15) (b1 a9 a8 a7:K) (a2:Tn62) (a1:K) (a5:Tn74) (a6:K) (a4:O K) (u:K) (a3:Tn56) (r:Tn50) (t:Tn27) (q:Tn67) (p:U) (d i c e l:K) (b:O K) (m:Tn2) (a k:K) (o:Tn56) (f:Tn50) (g:Tn27) (j:Tn67) (a0:O K) (s:K):S ((Tn15×K×K×K×K×Tn62×K×Tn74×K×(O K)×K×Tn56×Tn50×Tn27×Tn67×U×K×K×K×K×K×(O K)×Tn2×K×K×Tn56×Tn50×Tn27×Tn67×(O K)×K) ⊕ (Å ⊕ (Tn15×K×K×K×K×Tn62×K×Tn74×K×Tn56×Tn50×Tn27×Tn67×U×K×K×K×K×K×(O K)×Tn2×K×K×Tn56×Tn50×Tn27×Tn67×(O K)×K))):=cond (N (u<4)) (cond (inR u 4) (let n:=L a4 u.toNat 0
 (jfZ (o,(f,(g,j))) (p,(d,((i,c),(e,(l,(b,(m,(a,k)))))))) n).bind fun x=>(jcJ (o,(f,(g,j))) (p,(d,((i,c),(e,(l,(b,(m,(a,k)))))))) n).bind fun y=>cond (!(x==y)) (M (.inr (.inl Z))) ((j5T (o,(f,(g,j))) (p,(d,((i,c),(e,(l,(b,(m,(a,k)))))))) n).bind fun w=>(jai (o,(f,(g,j))) (p,(d,((i,c),(e,(l,(b,(m,(a,k)))))))) n).bind fun z=>cond (w != z) (M (.inr (.inl Z))) (let v:=w64 (u+1)
 M (.inl (b0,b1,a9,a8,a7,a2,a1,a5,a6,a4,v,a3,r,t,q,p,d,i,c,e,l,b,m,a,k,o,f,g,j,a0,s))))) Y) (M (.inr (.inr (b0,b1,a9,a8,a7,a2,a1,a5,a6,a3,r,t,q,p,d,i,c,e,l,b,m,a,k,o,f,g,j,a0,s))))
def j5I [LP] (a4:Tn15) (a5 a3 a2 a1:K) (u:Tn62) (t:K) (x:Tn74) (a0:K) (w:O K) (z:K) (v:Tn56) (e:Tn50) (p:Tn27) (d:Tn67) (y:U) (f k c g o:K) (b:O K) (q:Tn2) (a m:K) (r:Tn56) (i:Tn50) (j:Tn27) (l:Tn67) (s:O K) (n:K):S (Å ⊕ (Tn15×K×K×K×K×Tn62×K×Tn74×K×Tn56×Tn50×Tn27×Tn67×U×K×K×K×K×K×(O K)×Tn2×K×K×Tn56×Tn50×Tn27×Tn67×(O K)×K)):=LP.lp (u8 (u8 (u8 unc7)) j2l) (a4,a5,a3,a2,a1,u,t,x,a0,w,z,v,e,p,d,y,f,k,c,g,o,b,q,a,m,r,i,j,l,s,n)
theorem j9i (a4 a5 a3 a2 a1 u t x a0 w z v e p d y f k c g o b q a m r i j l s n):j5I a4 a5 a3 a2 a1 u t x a0 w z v e p d y f k c g o b q a m r i j l s n=lpK (j2l a4 a5 a3 a2 a1 u t x a0 w z v e p d y f k c g o b q a m r i j l s n) (fun h=>j5I h.1 h.2.1 h.2.2.1 h.2.2.2.1 h.2.2.2.2.1 h.2.2.2.2.2.1 h.2.2.2.2.2.2.1 h.2.2.2.2.2.2.2.1 h.2.2.2.2.2.2.2.2.1 h.2.2.2.2.2.2.2.2.2.1 h.2.2.2.2.2.2.2.2.2.2.1 h.2.2.2.2.2.2.2.2.2.2.2.1 h.2.2.2.2.2.2.2.2.2.2.2.2.1 h.2.2.2.2.2.2.2.2.2.2.2.2.2.1 h.2.2.2.2.2.2.2.2.2.2.2.2.2.2.1 h.2.2.2.2.2.2.2.2.2.2.2.2.2.2.2.1 h.2.2.2.2.2.2.2.2.2.2.2.2.2.2.2.2.1 h.2.2.2.2.2.2.2.2.2.2.2.2.2.2.2.2.2.1 h.2.2.2.2.2.2.2.2.2.2.2.2.2.2.2.2.2.2.1 h.2.2.2.2.2.2.2.2.2.2.2.2.2.2.2.2.2.2.2.1 h.2.2.2.2.2.2.2.2.2.2.2.2.2.2.2.2.2.2.2.2.1 h.2.2.2.2.2.2.2.2.2.2.2.2.2.2.2.2.2.2.2.2.2.1 h.2.2.2.2.2.2.2.2.2.2.2.2.2.2.2.2.2.2.2.2.2.2.1 h.2.2.2.2.2.2.2.2.2.2.2.2.2.2.2.2.2.2.2.2.2.2.2.1 h.2.2.2.2.2.2.2.2.2.2.2.2.2.2.2.2.2.2.2.2.2.2.2.2.1 h.2.2.2.2.2.2.2.2.2.2.2.2.2.2.2.2.2.2.2.2.2.2.2.2.2.1 h.2.2.2.2.2.2.2.2.2.2.2.2.2.2.2.2.2.2.2.2.2.2.2.2.2.2.1 h.2.2.2.2.2.2.2.2.2.2.2.2.2.2.2.2.2.2.2.2.2.2.2.2.2.2.2.1 h.2.2.2.2.2.2.2.2.2.2.2.2.2.2.2.2.2.2.2.2.2.2.2.2.2.2.2.2.1 h.2.2.2.2.2.2.2.2.2.2.2.2.2.2.2.2.2.2.2.2.2.2.2.2.2.2.2.2.2.1 h.2.2.2.2.2.2.2.2.2.2.2.2.2.2.2.2.2.2.2.2.2.2.2.2.2.2.2.2.2.2):=j03 _ _
def j2m [LP] (c0:Tn15) (c1 b9 b8 b7:K) (b3:Tn62) (b2:K) (b5:Tn74) (b6:K) (a7:O (O K)) (p:K) (b4:Tn56) (w:Tn50) (y:Tn27) (v:Tn67) (o:U) (e g d f j:K) (c:O K) (k:Tn2) (b i:K) (q:Tn56) (l:Tn50) (m:Tn27) (n:Tn67) (b1:O K) (x:K):S ((Tn15×K×K×K×K×Tn62×K×Tn74×K×(O (O K))×K×Tn56×Tn50×Tn27×Tn67×U×K×K×K×K×K×(O K)×Tn2×K×K×Tn56×Tn50×Tn27×Tn67×(O K)×K) ⊕ (Å ⊕ (Tn15×K×K×K×K×Tn62×K×Tn74×K×Tn56×Tn50×Tn27×Tn67×U×K×K×K×K×K×(O K)×Tn2×K×K×(O K)×K))):=cond (N (p<3)) (cond (inR p 3) (let a:=L a7 p.toNat (Ç 2 0)
 let c2:O Int:=Ç 2 0
 let a4:=L a 0 0
 let a8:=L a 1 0
 (jcF (q,(l,(m,n))) (o,(e,((g,d),(f,(j,(c,(k,(b,i)))))))) a4 a8).bind fun s=>let a0:=L a 0 0
 let b0:=L a 1 0
 (jh0 (q,(l,(m,n))) (o,(e,((g,d),(f,(j,(c,(k,(b,i)))))))) a0 b0).bind fun u=>let a1:=L a 0 0
 let a2:=L a 1 0
 (j7P (q,(l,(m,n))) (o,(e,((g,d),(f,(j,(c,(k,(b,i)))))))) a1 a2).bind fun r=>let a3:=L a 0 0
 let z:=L a 1 0
 (jbE (q,(l,(m,n))) (o,(e,((g,d),(f,(j,(c,(k,(b,i)))))))) a3 z).bind fun t=>(jdm s.1 u.1).bind fun a9=>cond (cond (!a9) Â (s.2 != u.2)) (M (.inr (.inl Z))) ((jcN r.1 t.1).bind fun a5=>cond (cond (!a5) Â (r.2 != t.2)) (M (.inr (.inl Z))) (let a6:=w64 (p+1)
 M (.inl (c0,c1,b9,b8,b7,b3,b2,b5,b6,a7,a6,b4,w,y,v,o,e,g,d,f,j,c,k,b,i,q,l,m,n,b1,x))))) Y) (M (.inr (.inr (c0,c1,b9,b8,b7,b3,b2,b5,b6,b4,w,y,v,o,e,g,d,f,j,c,k,b,i,b1,x))))
def j5J [LP] (a4:Tn15) (a5 a3 a2 a1:K) (w:Tn62) (v:K) (y:Tn74) (a0:K) (s:O (O K)) (r:K) (x:Tn56) (e:Tn50) (p:Tn27) (d:Tn67) (z:U) (f k c g o:K) (b:O K) (q:Tn2) (a m:K) (t:Tn56) (i:Tn50) (j:Tn27) (l:Tn67) (u:O K) (n:K):S (Å ⊕ (Tn15×K×K×K×K×Tn62×K×Tn74×K×Tn56×Tn50×Tn27×Tn67×U×K×K×K×K×K×(O K)×Tn2×K×K×(O K)×K)):=LP.lp (u8 (u8 (u8 unc7)) j2m) (a4,a5,a3,a2,a1,w,v,y,a0,s,r,x,e,p,d,z,f,k,c,g,o,b,q,a,m,t,i,j,l,u,n)
theorem j9j (a4:Tn15) (a5 a3 a2 a1:K) (w:Tn62) (v:K) (y:Tn74) (a0:K) (s:O (O K)) (r:K) (x:Tn56) (e:Tn50) (p:Tn27) (d:Tn67) (z:U) (f k c g o:K) (b:O K) (q:Tn2) (a m:K) (t:Tn56) (i:Tn50) (j:Tn27) (l:Tn67) (u:O K) (n:K):j5J a4 a5 a3 a2 a1 w v y a0 s r x e p d z f k c g o b q a m t i j l u n=lpK (j2m a4 a5 a3 a2 a1 w v y a0 s r x e p d z f k c g o b q a m t i j l u n) (fun h=>j5J h.1 h.2.1 h.2.2.1 h.2.2.2.1 h.2.2.2.2.1 h.2.2.2.2.2.1 h.2.2.2.2.2.2.1 h.2.2.2.2.2.2.2.1 h.2.2.2.2.2.2.2.2.1 h.2.2.2.2.2.2.2.2.2.1 h.2.2.2.2.2.2.2.2.2.2.1 h.2.2.2.2.2.2.2.2.2.2.2.1 h.2.2.2.2.2.2.2.2.2.2.2.2.1 h.2.2.2.2.2.2.2.2.2.2.2.2.2.1 h.2.2.2.2.2.2.2.2.2.2.2.2.2.2.1 h.2.2.2.2.2.2.2.2.2.2.2.2.2.2.2.1 h.2.2.2.2.2.2.2.2.2.2.2.2.2.2.2.2.1 h.2.2.2.2.2.2.2.2.2.2.2.2.2.2.2.2.2.1 h.2.2.2.2.2.2.2.2.2.2.2.2.2.2.2.2.2.2.1 h.2.2.2.2.2.2.2.2.2.2.2.2.2.2.2.2.2.2.2.1 h.2.2.2.2.2.2.2.2.2.2.2.2.2.2.2.2.2.2.2.2.1 h.2.2.2.2.2.2.2.2.2.2.2.2.2.2.2.2.2.2.2.2.2.1 h.2.2.2.2.2.2.2.2.2.2.2.2.2.2.2.2.2.2.2.2.2.2.1 h.2.2.2.2.2.2.2.2.2.2.2.2.2.2.2.2.2.2.2.2.2.2.2.1 h.2.2.2.2.2.2.2.2.2.2.2.2.2.2.2.2.2.2.2.2.2.2.2.2.1 h.2.2.2.2.2.2.2.2.2.2.2.2.2.2.2.2.2.2.2.2.2.2.2.2.2.1 h.2.2.2.2.2.2.2.2.2.2.2.2.2.2.2.2.2.2.2.2.2.2.2.2.2.2.1 h.2.2.2.2.2.2.2.2.2.2.2.2.2.2.2.2.2.2.2.2.2.2.2.2.2.2.2.1 h.2.2.2.2.2.2.2.2.2.2.2.2.2.2.2.2.2.2.2.2.2.2.2.2.2.2.2.2.1 h.2.2.2.2.2.2.2.2.2.2.2.2.2.2.2.2.2.2.2.2.2.2.2.2.2.2.2.2.2.1 h.2.2.2.2.2.2.2.2.2.2.2.2.2.2.2.2.2.2.2.2.2.2.2.2.2.2.2.2.2.2):=j03 _ _
def j2n [LP] (b1:Tn15) (a8 b0 a9 q:K) (a3:Tn62) (a2:K) (a5:Tn74) (j:K) (a4:Tn56) (f:Tn50) (i:Tn27) (e:Tn67) (b4:U) (v x u w z:K) (t:O K) (a0:Tn2) (s y:K) (a1:O K) (g:K):S ((Tn15×K×K×K×K×Tn62×K×Tn74×K×Tn56×Tn50×Tn27×Tn67×U×K×K×K×K×K×(O K)×Tn2×K×K×(O K)×K) ⊕ (Å ⊕ (Tn15×K×K×K×K×Tn62×K×Tn56×Tn50×Tn27×Tn67×(O K)×K))):=cond (N (j<2)) (cond (inR j 2) (let c:=L a5 j.toNat (([]:Tn56),(([]:Tn50),(([]:Tn27),([]:Tn67))))
 (j3M a1 g).bind fun d=>let r:O Int:=[a8,q,d.1,8589934592]
 (j5I b1 a8 b0 a9 q a3 a2 a5 j r 0 a4 f i e b4 v x u w z t a0 s y c.1 c.2.1 c.2.2.1 c.2.2.2 d.2.1 d.2.2).bind fun a6=>sumC a6 (fun b3=>M (.inr (.inl b3))) (fun a=>let p:=w64 (a.2.2.2.2.1+777600)
 let n:O Int:=[a.2.2.2.2.1,p]
 let l:O Int:=[a.2.2.1,a.2.2.2.1]
 let o:O Int:=[a.2.2.2.2.1,a.2.2.2.2.1]
 let k:(O (O K)):=[n,l,o]
 (j5J a.1 a.2.1 a.2.2.1 a.2.2.2.1 a.2.2.2.2.1 a.2.2.2.2.2.1 a.2.2.2.2.2.2.1 a.2.2.2.2.2.2.2.1 a.2.2.2.2.2.2.2.2.1 k 0 a.2.2.2.2.2.2.2.2.2.1 a.2.2.2.2.2.2.2.2.2.2.1 a.2.2.2.2.2.2.2.2.2.2.2.1 a.2.2.2.2.2.2.2.2.2.2.2.2.1 a.2.2.2.2.2.2.2.2.2.2.2.2.2.1 a.2.2.2.2.2.2.2.2.2.2.2.2.2.2.1 a.2.2.2.2.2.2.2.2.2.2.2.2.2.2.2.1 a.2.2.2.2.2.2.2.2.2.2.2.2.2.2.2.2.1 a.2.2.2.2.2.2.2.2.2.2.2.2.2.2.2.2.2.1 a.2.2.2.2.2.2.2.2.2.2.2.2.2.2.2.2.2.2.1 a.2.2.2.2.2.2.2.2.2.2.2.2.2.2.2.2.2.2.2.1 a.2.2.2.2.2.2.2.2.2.2.2.2.2.2.2.2.2.2.2.2.1 a.2.2.2.2.2.2.2.2.2.2.2.2.2.2.2.2.2.2.2.2.2.1 a.2.2.2.2.2.2.2.2.2.2.2.2.2.2.2.2.2.2.2.2.2.2.1 a.2.2.2.2.2.2.2.2.2.2.2.2.2.2.2.2.2.2.2.2.2.2.2.1 a.2.2.2.2.2.2.2.2.2.2.2.2.2.2.2.2.2.2.2.2.2.2.2.2.1 a.2.2.2.2.2.2.2.2.2.2.2.2.2.2.2.2.2.2.2.2.2.2.2.2.2.1 a.2.2.2.2.2.2.2.2.2.2.2.2.2.2.2.2.2.2.2.2.2.2.2.2.2.2.1 a.2.2.2.2.2.2.2.2.2.2.2.2.2.2.2.2.2.2.2.2.2.2.2.2.2.2.2.1 a.2.2.2.2.2.2.2.2.2.2.2.2.2.2.2.2.2.2.2.2.2.2.2.2.2.2.2.2).bind fun a7=>sumC a7 (fun b2=>M (.inr (.inl b2))) (fun b=>let m:=w64 (b.2.2.2.2.2.2.2.2.1+1)
 M (.inl (b.1,b.2.1,b.2.2.1,b.2.2.2.1,b.2.2.2.2.1,b.2.2.2.2.2.1,b.2.2.2.2.2.2.1,b.2.2.2.2.2.2.2.1,m,b.2.2.2.2.2.2.2.2.2.1,b.2.2.2.2.2.2.2.2.2.2.1,b.2.2.2.2.2.2.2.2.2.2.2.1,b.2.2.2.2.2.2.2.2.2.2.2.2.1,b.2.2.2.2.2.2.2.2.2.2.2.2.2.1,b.2.2.2.2.2.2.2.2.2.2.2.2.2.2.1,b.2.2.2.2.2.2.2.2.2.2.2.2.2.2.2.1,b.2.2.2.2.2.2.2.2.2.2.2.2.2.2.2.2.1,b.2.2.2.2.2.2.2.2.2.2.2.2.2.2.2.2.2.1,b.2.2.2.2.2.2.2.2.2.2.2.2.2.2.2.2.2.2.1,b.2.2.2.2.2.2.2.2.2.2.2.2.2.2.2.2.2.2.2.1,b.2.2.2.2.2.2.2.2.2.2.2.2.2.2.2.2.2.2.2.2.1,b.2.2.2.2.2.2.2.2.2.2.2.2.2.2.2.2.2.2.2.2.2.1,b.2.2.2.2.2.2.2.2.2.2.2.2.2.2.2.2.2.2.2.2.2.2.1,b.2.2.2.2.2.2.2.2.2.2.2.2.2.2.2.2.2.2.2.2.2.2.2.1,b.2.2.2.2.2.2.2.2.2.2.2.2.2.2.2.2.2.2.2.2.2.2.2.2))))) Y) (M (.inr (.inr (b1,a8,b0,a9,q,a3,a2,a4,f,i,e,a1,g))))
def j5K [LP] (y:Tn15) (z x w v:K) (q:Tn62) (p:K) (s:Tn74) (u:K) (r:Tn56) (e:Tn50) (m:Tn27) (d:Tn67) (t:U) (f i c g l:K) (b:O K) (n:Tn2) (a j:K) (o:O K) (k:K):S (Å ⊕ (Tn15×K×K×K×K×Tn62×K×Tn56×Tn50×Tn27×Tn67×(O K)×K)):=LP.lp (u8 (u8 unc9) j2n) (y,z,x,w,v,q,p,s,u,r,e,m,d,t,f,i,c,g,l,b,n,a,j,o,k)
theorem j9k (y z x w v q p s u r e m d t f i c g l b n a j o k):j5K y z x w v q p s u r e m d t f i c g l b n a j o k=lpK (j2n y z x w v q p s u r e m d t f i c g l b n a j o k) (fun h=>j5K h.1 h.2.1 h.2.2.1 h.2.2.2.1 h.2.2.2.2.1 h.2.2.2.2.2.1 h.2.2.2.2.2.2.1 h.2.2.2.2.2.2.2.1 h.2.2.2.2.2.2.2.2.1 h.2.2.2.2.2.2.2.2.2.1 h.2.2.2.2.2.2.2.2.2.2.1 h.2.2.2.2.2.2.2.2.2.2.2.1 h.2.2.2.2.2.2.2.2.2.2.2.2.1 h.2.2.2.2.2.2.2.2.2.2.2.2.2.1 h.2.2.2.2.2.2.2.2.2.2.2.2.2.2.1 h.2.2.2.2.2.2.2.2.2.2.2.2.2.2.2.1 h.2.2.2.2.2.2.2.2.2.2.2.2.2.2.2.2.1 h.2.2.2.2.2.2.2.2.2.2.2.2.2.2.2.2.2.1 h.2.2.2.2.2.2.2.2.2.2.2.2.2.2.2.2.2.2.1 h.2.2.2.2.2.2.2.2.2.2.2.2.2.2.2.2.2.2.2.1 h.2.2.2.2.2.2.2.2.2.2.2.2.2.2.2.2.2.2.2.2.1 h.2.2.2.2.2.2.2.2.2.2.2.2.2.2.2.2.2.2.2.2.2.1 h.2.2.2.2.2.2.2.2.2.2.2.2.2.2.2.2.2.2.2.2.2.2.1 h.2.2.2.2.2.2.2.2.2.2.2.2.2.2.2.2.2.2.2.2.2.2.2.1 h.2.2.2.2.2.2.2.2.2.2.2.2.2.2.2.2.2.2.2.2.2.2.2.2):=j03 _ _
def j2o [LP] (p:Tn15) (u t s q:K) (m:Tn62) (g:K) (j:Tn56) (e:Tn50) (f:Tn27) (d:Tn67) (o:O K) (l:K):S ((Tn15×K×K×K×K×Tn62×K×Tn56×Tn50×Tn27×Tn67×(O K)×K) ⊕ (Å ⊕ Tn15)):=cond (N (g<3)) (cond (inR g 3) (let a:=L m g.toNat (J,(0,((0,0),(0,(0,(([]:(O K)),(([]:Tn2),(0,0))))))))
 (j9U o l (j,(e,(f,d)))).bind fun c=>let k:Tn74:=[(j,(e,(f,d))),(c.1.1,(c.1.2.1,(c.1.2.2.1,c.1.2.2.2)))]
 (j5K p u t s q m g k 0 j e f d a.1 a.2.1 a.2.2.1.1 a.2.2.1.2 a.2.2.2.1 a.2.2.2.2.1 a.2.2.2.2.2.1 a.2.2.2.2.2.2.1 a.2.2.2.2.2.2.2.1 a.2.2.2.2.2.2.2.2 c.2.1 c.2.2).bind fun n=>sumC n (fun r=>M (.inr (.inl r))) (fun b=>let i:=w64 (b.2.2.2.2.2.2.1+1)
 M (.inl (b.1,b.2.1,b.2.2.1,b.2.2.2.1,b.2.2.2.2.1,b.2.2.2.2.2.1,i,b.2.2.2.2.2.2.2.1,b.2.2.2.2.2.2.2.2.1,b.2.2.2.2.2.2.2.2.2.1,b.2.2.2.2.2.2.2.2.2.2.1,b.2.2.2.2.2.2.2.2.2.2.2.1,b.2.2.2.2.2.2.2.2.2.2.2.2)))) Y) (M (.inr (.inr p)))
def j5L [LP] (n:Tn15) (l k m j:K) (g:Tn62) (f:K) (e:Tn56) (a:Tn50) (d:Tn27) (c:Tn67) (i:O K) (b:K):S (Å ⊕ Tn15):=LP.lp (u8 unc5 j2o) (n,l,k,m,j,g,f,e,a,d,c,i,b)
theorem j9l (n l k m j g f e a d c i b):j5L n l k m j g f e a d c i b=lpK (j2o n l k m j g f e a d c i b) (fun h=>j5L h.1 h.2.1 h.2.2.1 h.2.2.2.1 h.2.2.2.2.1 h.2.2.2.2.2.1 h.2.2.2.2.2.2.1 h.2.2.2.2.2.2.2.1 h.2.2.2.2.2.2.2.2.1 h.2.2.2.2.2.2.2.2.2.1 h.2.2.2.2.2.2.2.2.2.2.1 h.2.2.2.2.2.2.2.2.2.2.2.1 h.2.2.2.2.2.2.2.2.2.2.2.2):=j03 _ _
def jaH [LP] (e:O K) (c:Tn15) (n d i:K):S Bool:=(jhS e).bind fun t=>let r:=W c.length
 cond (cond (!t) Â (N (r>60))) ((jf6).bind fun q=>M q) ((jjY e).bind fun j=>(j72 j.1 j.2 1).bind fun b=>(j5U b.2.1 b.2.2 (b.1.1,(b.1.2.1,(b.1.2.2.1,b.1.2.2.2))) (À #[97])).bind fun a=>let s:O Int:=[0,1,401]
 (j0a a.2.1 a.2.2 s).bind fun g=>(j3M g.2.1 g.2.2).bind fun f=>let p:Tn62:=[(a.1.1,(a.1.2.1,((a.1.2.2.1.1,a.1.2.2.1.2),(a.1.2.2.2.1,(a.1.2.2.2.2.1,(a.1.2.2.2.2.2.1,(a.1.2.2.2.2.2.2.1,(a.1.2.2.2.2.2.2.2.1,a.1.2.2.2.2.2.2.2.2)))))))),(a.1.1,(a.1.2.1,((a.1.2.2.1.1,a.1.2.2.1.2),(a.1.2.2.2.1,(g.1,(a.1.2.2.2.2.2.1,(a.1.2.2.2.2.2.2.1,(a.1.2.2.2.2.2.2.2.1,a.1.2.2.2.2.2.2.2.2)))))))),(J,(0,((0,0),(0,(0,(([]:(O K)),(([]:Tn2),(0,0))))))))]
 (j5L c n d i f.1 p 0 b.1.1 b.1.2.1 b.1.2.2.1 b.1.2.2.2 f.2.1 f.2.2).bind fun u=>sumC u (fun w=>M w) (fun v=>(jag v).bind fun m=>(jh1 v).bind fun k=>(jcN m k).bind fun l=>cond l ((jf6).bind fun o=>M o) (M Z)))
end
end Go.Proofs.Pw
