/- Plain oW, printed by a program out of the given code. -/
import Derived.Test.YtllkgjaoejhneaaGreatSELS
open ByteArray renaming empty->J,mk->Z,size->Æ,toList->É
open List renaming getD->K,length->U,set->Á,replicate->Â,take->Ê,drop->Ë
open _root_ renaming Int->L,List->M,Option->S,ByteArray->X,Bool->Ä,Unit->Ç
open Option renaming some->N,none->Y
open Decidable renaming decide->O
open Int renaming ofNat->W,tmod->Å,tdiv->È,fdiv->Í
open Bool renaming false->À,true->Ã
open Go Go.Lft
set_option linter.unusedVariables false
namespace Go.Proofs.Pw
noncomputable section
abbrev ae:Type:=(M (L×L))
abbrev uv:Type:=(L×(L×L))
abbrev aq:Type:=(M uv)
abbrev fP:Type:=(L×ae)
abbrev rR:Type:=(X×(L×(M L)))
abbrev dz:Type:=(M fP)
abbrev oX:Type:=(L×(L×uv))
abbrev al:Type:=(M rR)
abbrev ax:Type:=(M oX)
abbrev uw:Type:=(L×(L×oX))
abbrev aX:Type:=(M uw)
abbrev Ep:Type:=(X×(L×(ae×(L×(L×Ä)))))
abbrev aj:Type:=(M Ep)
abbrev dR:Type:=(X×(L×aX))
abbrev ai:Type:=(M dR)
abbrev eL:Type:=(X×(L×((L×L)×(L×(L×((M L)×(ae×(L×L))))))))
abbrev an:Type:=(M eL)
abbrev jD:Type:=(X×(an×ax))
abbrev ao:Type:=(M jD)
abbrev bR:Type:=(ai×(aj×(al×ao)))
abbrev df:Type:=(M bR)
abbrev iB:Type:=(bR×dz)
abbrev u8{A B C D E F G H T I R:Type}(u:T->I->R)(f:A->B->C->D->E->F->G->H->T)(h:A×B×C×D×E×F×G×H×I):R:=u (f h.1 h.2.1 h.2.2.1 h.2.2.2.1 h.2.2.2.2.1 h.2.2.2.2.2.1 h.2.2.2.2.2.2.1 h.2.2.2.2.2.2.2.1) h.2.2.2.2.2.2.2.2
abbrev unc2{A0 A1 R:Type}(f:A0->A1->R)(h:A0×A1):R:=f h.1 h.2
abbrev unc3{A0 A1 A2 R:Type}(f:A0->A1->A2->R)(h:A0×A1×A2):R:=f h.1 h.2.1 h.2.2
abbrev unc4{A0 A1 A2 A3 R:Type}(f:A0->A1->A2->A3->R)(h:A0×A1×A2×A3):R:=f h.1 h.2.1 h.2.2.1 h.2.2.2
abbrev unc5{A0 A1 A2 A3 A4 R:Type}(f:A0->A1->A2->A3->A4->R)(h:A0×A1×A2×A3×A4):R:=f h.1 h.2.1 h.2.2.1 h.2.2.2.1 h.2.2.2.2
abbrev unc6{A0 A1 A2 A3 A4 A5 R:Type}(f:A0->A1->A2->A3->A4->A5->R)(h:A0×A1×A2×A3×A4×A5):R:=f h.1 h.2.1 h.2.2.1 h.2.2.2.1 h.2.2.2.2.1 h.2.2.2.2.2
abbrev unc7{A0 A1 A2 A3 A4 A5 A6 R:Type}(f:A0->A1->A2->A3->A4->A5->A6->R)(h:A0×A1×A2×A3×A4×A5×A6):R:=f h.1 h.2.1 h.2.2.1 h.2.2.2.1 h.2.2.2.2.1 h.2.2.2.2.2.1 h.2.2.2.2.2.2
abbrev unc8{A0 A1 A2 A3 A4 A5 A6 A7 R:Type}(f:A0->A1->A2->A3->A4->A5->A6->A7->R)(h:A0×A1×A2×A3×A4×A5×A6×A7):R:=f h.1 h.2.1 h.2.2.1 h.2.2.2.1 h.2.2.2.2.1 h.2.2.2.2.2.1 h.2.2.2.2.2.2.1 h.2.2.2.2.2.2.2
abbrev unc9{A0 A1 A2 A3 A4 A5 A6 A7 A8 R:Type}(f:A0->A1->A2->A3->A4->A5->A6->A7->A8->R)(h:A0×A1×A2×A3×A4×A5×A6×A7×A8):R:=f h.1 h.2.1 h.2.2.1 h.2.2.2.1 h.2.2.2.2.1 h.2.2.2.2.2.1 h.2.2.2.2.2.2.1 h.2.2.2.2.2.2.2.1 h.2.2.2.2.2.2.2.2
def jj7(a:M L):S Bool:=
 let b:=W a.length
 N (O (b<=500))
def jgZ  : S (ai×aj×al×ao):=
 let f:ai:=[((Z #[122]),(0,([]:aX)))]
 let g:aj:=[((Z #[97]),(0,(([]:ae),(0,(0,À))))),((Z #[98]),(0,(([]:ae),(0,(0,À))))),((Z #[99]),(0,(([]:ae),(0,(0,À)))))]
 let c:M Int:=[0,1]
 let e:M Int:=[2]
 let b:ae:=[(0,86400)]
 let a:an:=[((Z #[108,111,119]),(0,((4,0),(2,(1,(c,(([]:ae),(0,0)))))))),((Z #[116,111,112]),(0,((4,0),(2,(1,(e,(b,(0,0))))))))]
 let d:ao:=[((Z #[115]),(a,([]:ax)))]
 N (f,g,([]:al),d)
def j7J(a:dR):S ByteArray:=N a.1
def jbm(a:L):S Bool:=N (cond (O (a>=97)) (O (a<=122)) À)
def jh0(a:L):S Bool:=N (cond (O (a>=48)) (O (a<=57)) À)
def j4z(e:X)(c b:L):S ((X×L×L) ⊕ (Ä ⊕ Ç)):=cond (O (b<c)) (cond (inR b (Æ e)) (let a:=dS e b
 (jbm a).bind λf=>cond (!f) ((jh0 a).bind λg=>cond (cond (cond (!g) (a != 95) À) (a != 45) À) (N (.inr (.inl À))) (let i:=w64 (b+1)
 N (.inl (e,c,i)))) (let d:=w64 (b+1)
 N (.inl (e,c,d)))) Y) (N (.inr (.inr ())))
def Hi[LP](c:X)(a b:L):S (Ä ⊕ Ç):=LP.lp (unc3 j4z) (c,a,b)
theorem Vg(c a b):Hi c a b=lpK (j4z c a b) (λh=>Hi h.1 h.2.1 h.2.2):=bt _ _
def jdx[LP](a:X):S Bool:=
 let g:=W (Æ a)
 let b:Bool:=cond (É a==É J) Ã (O (g>24))
 cond ((inR 0 (Æ a)) || !(!b)) (let c:=dS a 0
 cond b (N À) ((jbm c).bind λd=>cond (!d) (N À) (let e:=W (Æ a)
 (Hi a e 0).bind λf=>sumC f (λi=>N i) (λj=>N Ã)))) Y
def j45[LP](b:X)(a:M (X×Ä)):S (L×(M (X×Ä))):=(jdx b).bind λc=>cond (!c) (N (2,a)) (cond (gS À a b) (N (4,a)) (let d:(M (X×Ä)):=iq a b Ã
 N (0,d)))
def j7b(a b c:L):S Bool:=N (cond (O (a>=b)) (O (a<=c)) À)
def ja4(a:uw):S Int:=(j7b a.1 1970 2240).bind λi=>cond (!i) (N 1) ((j7b a.2.1 a.1 2240).bind λe=>cond (!e) (N 1) ((j7b a.2.2.1 1 12).bind λd=>cond (!d) (N 1) ((j7b a.2.2.2.1 1 5).bind λb=>cond (!b) (N 1) ((j7b a.2.2.2.2.1 0 6).bind λc=>cond (!c) (N 1) ((j7b a.2.2.2.2.2.1 0 86399).bind λf=>cond (!f) (N 1) ((j7b a.2.2.2.2.2.2 (-64800) 64800).bind λg=>cond (!g) (N 1) (N 0)))))))
def jj8(a:L):S Bool:=
 let c:=Å a 4
 let d:=Å a 100
 let b:=Å a 400
 N (cond (c==0) (cond (d != 0) Ã (b==0)) À)
def j6V(c a:L):S Int:=cond (cond (O (a<1)) Ã (O (a>12))) (N 0) (let f:M Int:=[31,28,31,30,31,30,31,31,30,31,30,31]
 let j:M Int:=Â 12 0
 cond (a==2) ((jj8 c).bind λg=>cond g (N 29) (let e:=w64 (a-1)
 cond (inR e 12) (let i:=K f e.toNat 0
 N i) Y)) (let b:=w64 (a-1)
 cond (inR b 12) (let d:=K f b.toNat 0
 N d) Y))
def jbn(a:uv):S Bool:=cond (O (a.1>=1970)) (cond (O (a.1<=2240)) (cond (O (a.2.2>=1)) ((j6V a.1 a.2.1).bind λb=>N (O (a.2.2<=b))) (N À)) (N À)) (N À)
def j81(b a:L):S Int:=cond (!(a==0)) (let e:=w64 (È b a)
 cond (!(a==0)) (let c:=Å b a
 cond (O (c<0)) (let d:=w64 (e-1)
 N d) (N e)) Y) Y
def j4X(a:L):S Int:=
 let b:=w64 (a-1)
 let l:=w64 (a-1970)
 let k:=w64 (365*l)
 (j81 b 4).bind λc=>let e:=w64 (k+c)
 (j81 b 100).bind λi=>let f:=w64 (e-i)
 (j81 b 400).bind λg=>let d:=w64 (f+g)
 let j:=w64 (d-477)
 N j
def j3M(i f g a e:L):S ((L×L×L×L×L) ⊕ (L)):=cond (O (f<a)) ((j6V g f).bind λc=>let b:=w64 (i+c)
 let d:=w64 (f+1)
 N (.inl (b,d,g,a,e))) (N (.inr i))
def Hj[LP](d e c b a:L):S Int:=LP.lp (unc5 j3M) (d,e,c,b,a)
theorem Vh(d e c b a):Hj d e c b a=lpK (j3M d e c b a) (λh=>Hj h.1 h.2.1 h.2.2.1 h.2.2.2.1 h.2.2.2.2):=bt _ _
def jco[LP](a:uv):S Int:=(j4X a.1).bind λd=>let c:=w64 (d+a.2.2)
 let b:=w64 (c-1)
 (Hj b 1 a.1 a.2.1 a.2.2).bind λe=>N e
def j5x(a:L):S Int:=
 let b:=Å a 7
 let d:=w64 (b+10)
 let c:=Å d 7
 N c
def jhZ[LP](c b d a:L):S (L×L):=(jbn (c,(b,1))).bind λl=>let s:Bool:=cond (cond (!l) Ã (O (d<1))) Ã (O (d>5))
 let n:Bool:=cond (cond s Ã (O (a<0))) Ã (O (a>6))
 cond n (N (0,1)) ((jco (c,(b,1))).bind λe=>(j5x e).bind λq=>let k:=w64 (a-q)
 let j:=w64 (k+7)
 let t:=Å j 7
 let m:=w64 (e+t)
 let p:=w64 (d-1)
 let g:=w64 (7*p)
 let f:=w64 (m+g)
 (j6V c b).bind λr=>let i:=w64 (e+r)
 cond (O (f>=i)) (let o:=w64 (f-7)
 N (o,0)) (N (f,0)))
def j82(a b:L×L):S Int:=
 let c:=w64 (a.1-b.1)
 N c
def j0h(o q p b:L)(a:ae):S ((L×L×L×L×ae) ⊕ (L×L×L×ae)):=cond (O (b>o)) (cond (inR b a.length) (let d:=K a b.toNat (0,0)
 let j:=w64 (b-1)
 cond (inR j a.length) (let f:=K a j.toNat (0,0)
 (j82 (d.1,d.2) (f.1,f.2)).bind λl=>cond (O (l<0)) (let i:=w64 (b-1)
 let g:=w64 (b-1)
 cond (inR g a.length) (let c:=K a g.toNat (0,0)
 cond (inR b a.length) (let k:=K a b.toNat (0,0)
 cond (inR b a.length) (let e:ae:=Á a b.toNat (c.1,c.2)
 cond (inR i e.length) (let m:ae:=Á e i.toNat (k.1,k.2)
 let n:=w64 (b-1)
 N (.inl (o,q,p,n,m))) Y) Y) Y) Y) (N (.inr (o,q,p,a)))) Y) Y) (N (.inr (o,q,p,a)))
def Hk[LP](c b a e:L)(d:ae):S (L×L×L×ae):=LP.lp (unc5 j0h) (c,b,a,e,d)
theorem Vi(c b a e d):Hk c b a e d=lpK (j0h c b a e d) (λh=>Hk h.1 h.2.1 h.2.2.1 h.2.2.2.1 h.2.2.2.2):=bt _ _
def j0i[LP](f d c:L)(e:ae):S ((L×L×L×ae) ⊕ (ae)):=cond (O (c<d)) ((Hk f d c c e).bind λa=>let b:=w64 (a.2.2.1+1)
 N (.inl (a.1,a.2.1,b,a.2.2.2))) (N (.inr e))
def Hl[LP](c b a:L)(d:ae):S ae:=LP.lp (unc4 j0i) (c,b,a,d)
theorem Na(c b a d):Hl c b a d=lpK (j0i c b a d) (λh=>Hl h.1 h.2.1 h.2.2.1 h.2.2.2):=bt _ _
def j0r[LP](a:ae)(b c:L):S ae:=
 let d:=w64 (b+1)
 (Hl b c d a).bind λe=>N e
def j0K[LP](e d g c:L)(f:ae):S ((L×L×L×L×ae) ⊕ (L×L×L×ae)):=cond (O (c<=e)) ((j0r f g c).bind λb=>let a:=w64 (c+d)
 N (.inl (e,d,c,a,b))) (N (.inr (e,d,g,f)))
def Hm[LP](c a e b:L)(d:ae):S (L×L×L×ae):=LP.lp (unc5 j0K) (c,a,e,b,d)
theorem j5S(c a e b d):Hm c a e b d=lpK (j0K c a e b d) (λh=>Hm h.1 h.2.1 h.2.2.1 h.2.2.2.1 h.2.2.2.2):=bt _ _
def j2s(b a c e:L)(f:ae):S ((L×L×L×L×ae) ⊕ (L×L×L×ae)):=cond (O (e<=b)) (let d:=w64 (c+a)
 Y) (N (.inr (b,a,c,f)))
def j6v[LP](c a e b:L)(d:ae):S (L×L×L×ae):=LP.lp (unc5 j2s) (c,a,e,b,d)
def j0L[LP](f e:L)(g:ae):S ((L×L×ae) ⊕ (ae)):=cond (O (e<f)) (let d:=w64 (2*e)
 (j6v f e 0 d g).bind λa=>let c:=w64 (a.2.2.1+a.2.1)
 cond (O (c<a.1)) (Y) (let b:=w64 (a.2.1*2)
 N (.inl (a.1,b,a.2.2.2)))) (N (.inr g))
def Hn[LP](b a:L)(c:ae):S ae:=LP.lp (unc3 j0L) (b,a,c)
theorem j5T(b a c):Hn b a c=lpK (j0L b a c) (λh=>Hn h.1 h.2.1 h.2.2):=bt _ _
def j22[LP](a:ae)(c:L):S ae:=(Hm c 20 0 20 a).bind λb=>(j0r b.2.2.2 b.2.2.1 b.1).bind λd=>(Hn b.1 b.2.1 d).bind λe=>N e
def j0g[LP](a:ae):S ae:=
 let c:=W a.length
 (j22 a c).bind λb=>N b
def j1F(n:L)(f:aX)(l b:L)(m:X)(e:L)(d:aX):S ((L×aX×L×L×X×L×aX) ⊕ (L ⊕ (L×X×L×aX))):=cond (O (b<l)) (cond (inR b f.length) (let a:=K f b.toNat (0,(0,(0,(0,(0,(0,0))))))
 (ja4 (a.1,(a.2.1,(a.2.2.1,(a.2.2.2.1,(a.2.2.2.2.1,(a.2.2.2.2.2.1,a.2.2.2.2.2.2))))))).bind λc=>cond (c != 0) (N (.inr (.inl c))) (let j:=w64 (a.2.1-a.1)
 let k:=w64 (j+1)
 let i:=w64 (n+k)
 let g:=w64 (b+1)
 N (.inl (i,f,l,g,m,e,d)))) Y) (N (.inr (.inr (n,m,e,d))))
def BI[LP](g:L)(e:aX)(d c:L)(f:X)(b:L)(a:aX):S (L ⊕ (L×X×L×aX)):=LP.lp (unc7 j1F) (g,e,d,c,f,b,a)
theorem Nb(g e d c f b a):BI g e d c f b a=lpK (j1F g e d c f b a) (λh=>BI h.1 h.2.1 h.2.2.1 h.2.2.2.1 h.2.2.2.2.1 h.2.2.2.2.2.1 h.2.2.2.2.2.2):=bt _ _
def j2b[LP](i:L)(q:aX)(p o s f g a d b c:L)(r:ae):S ((L×aX×L×L×L×L×L×L×L×L×L×ae) ⊕ (aX×L×L×ae)):=cond (O (i<=f)) ((jhZ i g a d).bind λm=>let n:=w64 (m.1*86400)
 let l:=w64 (n+b)
 let e:ae:=[(l,c)]
 cond (O (U r+U e<=aF)) (let k:ae:=r++e
 let j:=w64 (i+1)
 N (.inl (j,q,p,o,s,f,g,a,d,b,c,k))) Y) (N (.inr (q,p,o,r)))
def Ho[LP](k:L)(j:aX)(i g l e f a d b c:L)(m:ae):S (aX×L×L×ae):=LP.lp (u8 unc4 j2b) (k,j,i,g,l,e,f,a,d,b,c,m)
theorem Vj(k j i g l e f a d b c m):Ho k j i g l e f a d b c m=lpK (j2b k j i g l e f a d b c m) (λh=>Ho h.1 h.2.1 h.2.2.1 h.2.2.2.1 h.2.2.2.2.1 h.2.2.2.2.2.1 h.2.2.2.2.2.2.1 h.2.2.2.2.2.2.2.1 h.2.2.2.2.2.2.2.2.1 h.2.2.2.2.2.2.2.2.2.1 h.2.2.2.2.2.2.2.2.2.2.1 h.2.2.2.2.2.2.2.2.2.2.2):=bt _ _
def j2c[LP](d:aX)(f c:L)(g:ae):S ((aX×L×L×ae) ⊕ (ae)):=cond (O (c<f)) (cond (inR c d.length) (let a:=K d c.toNat (0,(0,(0,(0,(0,(0,0))))))
 (Ho a.1 d f c a.1 a.2.1 a.2.2.1 a.2.2.2.1 a.2.2.2.2.1 a.2.2.2.2.2.1 a.2.2.2.2.2.2 g).bind λb=>let e:=w64 (b.2.2.1+1)
 N (.inl (b.1,b.2.1,e,b.2.2.2))) Y) (N (.inr g))
def Er[LP](b:aX)(c a:L)(d:ae):S ae:=LP.lp (unc4 j2c) (b,c,a,d)
theorem Vk(c b a d):Er c b a d=lpK (j2c c b a d) (λh=>Er h.1 h.2.1 h.2.2.1 h.2.2.2):=bt _ _
def j25[LP](a:dR):S (ae×L):=(j7b a.2.1 (-64800) 64800).bind λd=>cond (!d) (N (([]:ae),1)) (let c:=W a.2.2.length
 cond (O (c>16)) (N (([]:ae),5)) (let f:=W a.2.2.length
 (BI 0 a.2.2 f 0 a.1 a.2.1 a.2.2).bind λi=>sumC i (λk=>N (([]:ae),k)) (λj=>cond (O (j.1>640)) (N (([]:ae),5)) (let b:=W j.2.2.2.length
 (Er j.2.2.2 b 0 ([]:ae)).bind λg=>(j0g g).bind λe=>N (e,0)))))
def j1j(t m d:L)(b g:ae):S ((L×L×L×ae×ae) ⊕ (L ⊕ ae)):=cond (O (d<m)) (cond (inR d g.length) (let a:=K g d.toNat (0,0)
 cond (a.2==t) (let p:=w64 (d+1)
 N (.inl (t,m,p,b,g))) (let c:=w64 (a.1-t)
 let j:=w64 (a.2-t)
 cond (cond (O (j>=86400)) Ã (O (j<=(-86400)))) (let r:=W b.length
 let w:=W b.length
 let i:=w64 (w-1)
 cond ((inR i b.length) || !((!Ã)&&(O (r>0)))) (let n:=(K b i.toNat (0,0)).1
 let x:=w64 (n+604800)
 N (.inr (.inl 6))) Y) ((j7b c 0 8589934592).bind λf=>let k:=W b.length
 let q:=W b.length
 let e:=w64 (q-1)
 cond ((inR e b.length) || !((!(!f))&&(O (k>0)))) (let u:=(K b e.toNat (0,0)).1
 let s:=w64 (u+604800)
 cond (cond (!f) Ã (cond (O (k>0)) (O (c<s)) À)) (N (.inr (.inl 6))) (let l:ae:=[(c,a.2)]
 cond (O (U b+U l<=aF)) (let o:ae:=b++l
 let v:=w64 (d+1)
 N (.inl (a.2,m,v,o,g))) Y)) Y))) Y) (N (.inr (.inr b)))
def BJ[LP](e c b:L)(d a:ae):S (L ⊕ ae):=LP.lp (unc5 j1j) (e,c,b,d,a)
theorem Hp(e c b d a):BJ e c b d a=lpK (j1j e c b d a) (λh=>BJ h.1 h.2.1 h.2.2.1 h.2.2.2.1 h.2.2.2.2):=bt _ _
def j0P[LP](a:dR):S (ae×L):=(j25 (a.1,(a.2.1,a.2.2))).bind λb=>cond (b.2 != 0) (N (([]:ae),b.2)) (let c:=W b.1.length
 (BJ a.2.1 c 0 ([]:ae) b.1).bind λd=>sumC d (λe=>N (([]:ae),e)) (λf=>N (f,0)))
def jdy[LP](a:dR):S Int:=(j0P (a.1,(a.2.1,a.2.2))).bind λb=>N b.2
def j7c(a:uw):S Bool:=
 let b:=Å a.2.2.2.2.2.2 60
 N (b != 0)
def j0j(e:aX)(f b:L):S ((aX×L×L) ⊕ (L ⊕ Ç)):=cond (O (b<f)) (cond (inR b e.length) (let a:=K e b.toNat (0,(0,(0,(0,(0,(0,0))))))
 (j7c (a.1,(a.2.1,(a.2.2.1,(a.2.2.2.1,(a.2.2.2.2.1,(a.2.2.2.2.2.1,a.2.2.2.2.2.2))))))).bind λc=>cond c (N (.inr (.inl b))) (let d:=w64 (b+1)
 N (.inl (e,f,d)))) Y) (N (.inr (.inr ())))
def Hq[LP](b:aX)(c a:L):S (L ⊕ Ç):=LP.lp (unc3 j0j) (b,c,a)
theorem Vl(b c a):Hq b c a=lpK (j0j b c a) (λh=>Hq h.1 h.2.1 h.2.2):=bt _ _
def j1z[LP](a:aX):S Int:=
 let c:=W a.length
 (Hq a c 0).bind λb=>sumC b (λd=>N d) (λe=>N (-1))
def j0F[LP](a:aX):S Bool:=(j1z a).bind λb=>N (O (b>=0))
def j1M[LP](a:dR):S Int:=(jdy (a.1,(a.2.1,a.2.2))).bind λc=>let d:=Å a.2.1 60
 cond (cond (c != 0) Ã (d != 0)) (N 8) ((j0F a.2.2).bind λb=>cond b (N 8) (N 0))
def j0T[LP](e:ai)(i c:L)(j:M (X×Ä)):S ((ai×L×L×(M (X×Ä))) ⊕ (L ⊕ Ç)):=cond (O (c<i)) (cond (inR c e.length) (let a:=K e c.toNat (J,(0,([]:aX)))
 (j7J (a.1,(a.2.1,a.2.2))).bind λf=>(j45 f j).bind λb=>cond (b.1 != 0) (N (.inr (.inl b.1))) ((j1M (a.1,(a.2.1,a.2.2))).bind λd=>cond (d != 0) (N (.inr (.inl d))) (let g:=w64 (c+1)
 N (.inl (e,i,g,b.2))))) Y) (N (.inr (.inr ())))
def yW[LP](c:ai)(b a:L)(d:M (X×Ä)):S (L ⊕ Ç):=LP.lp (unc4 j0T) (c,b,a,d)
theorem Nc(b:ai)(c a:L)(d:M (X×Ä)):yW b c a d=lpK (j0T b c a d) (λh=>yW h.1 h.2.1 h.2.2.1 h.2.2.2):=bt _ _
def j2O[LP](a:ai):S Int:=
 let c:(M (X×Ä)):=[]
 let b:=W a.length
 (yW a b 0 c).bind λd=>sumC d (λe=>N e) (λf=>N 0)
def j1h(a b:L):S Bool:=N (cond (O (a>=0)) (O (a<b)) À)
def j4A(e f:ae)(k b:L):S ((ae×ae×L×L) ⊕ (L ⊕ Ç)):=cond (O (b<k)) (cond (inR b f.length) (let a:=K f b.toNat (0,0)
 let g:Bool:=cond (cond (O (a.1<0)) Ã (O (a.1>=a.2))) Ã (O (a.2>604800))
 cond g (N (.inr (.inl 1))) (cond (O (b>0)) (let c:=w64 (b-1)
 cond (inR c e.length) (let j:=K e c.toNat (0,0)
 cond (O (a.1<j.2)) (N (.inr (.inl 6))) (let i:=w64 (b+1)
 N (.inl (e,f,k,i)))) Y) (let d:=w64 (b+1)
 N (.inl (e,f,k,d))))) Y) (N (.inr (.inr ())))
def Hr[LP](c b:ae)(d a:L):S (L ⊕ Ç):=LP.lp (unc4 j4A) (c,b,d,a)
theorem Vm(b c d a):Hr b c d a=lpK (j4A b c d a) (λh=>Hr h.1 h.2.1 h.2.2.1 h.2.2.2):=bt _ _
def jbd[LP](a:ae):S Int:=
 let b:=W a.length
 cond (O (b>14)) (N 5) (let d:=W a.length
 (Hr a a d 0).bind λc=>sumC c (λe=>N e) (λf=>N 0))
def j2V(a b c:L):S Bool:=N (cond (O (a>=b)) (O (a<=c)) À)
def j5z(a:L):S Bool:=(j2V a 0 604800).bind λc=>let b:=Å a 3600
 N (cond c (b==0) À)
def j4g[LP](b:bR)(a:Ep):S Int:=
 let f:=W b.1.length
 (j1h a.2.1 f).bind λe=>cond (!e) (N 3) ((jbd a.2.2.1).bind λg=>cond (g != 0) (N 8) ((j5z a.2.2.2.1).bind λc=>cond (!c) (N 1) ((j5z a.2.2.2.2.1).bind λd=>cond (!d) (N 1) (N 0))))
def j7K(a:rR):S ByteArray:=N a.1
def j4B(e c:L):S ((L×L) ⊕ (L)):=
 let b:=w64 (c+1)
 (j4X b).bind λd=>cond (O (d<=e)) (let a:=w64 (c+1)
 N (.inl (e,a))) (N (.inr c))
def Hs[LP](b a:L):S Int:=LP.lp (unc2 j4B) (b,a)
theorem Vn(b a):Hs b a=lpK (j4B b a) (λh=>Hs h.1 h.2):=bt _ _
def jg1[LP](a:L):S Int:=(j81 a 366).bind λc=>let b:=w64 (1970+c)
 (Hs a b).bind λd=>N d
def j3N(k l c b i a d:L):S ((L×L×L×L×L×L×L) ⊕ (L×L×L×L×L×L×L)):=(j6V i a).bind λj=>cond (O (k>=j)) ((j6V i a).bind λe=>let f:=w64 (k-e)
 let g:=w64 (a+1)
 N (.inl (f,l,c,b,i,g,d))) (N (.inr (k,l,c,b,i,a,d)))
def Ht[LP](e f b a g d c:L):S (L×L×L×L×L×L×L):=LP.lp (unc7 j3N) (e,f,b,a,g,d,c)
theorem Vo(e f b a g d c):Ht e f b a g d c=lpK (j3N e f b a g d c) (λh=>Ht h.1 h.2.1 h.2.2.1 h.2.2.2.1 h.2.2.2.2.1 h.2.2.2.2.2.1 h.2.2.2.2.2.2):=bt _ _
def j5t[LP](a:L):S (uv×L):=(j4X 1970).bind λi=>cond (O (a<i)) (N ((0,(0,0)),1)) ((j4X 2241).bind λe=>cond (O (a>=e)) (N ((0,(0,0)),1)) ((jg1 a).bind λb=>(j4X b).bind λd=>let f:=w64 (a-d)
 (Ht f 0 0 0 b 1 0).bind λc=>let g:=w64 (c.1+1)
 N ((c.2.2.2.2.1,(c.2.2.2.2.2.1,g)),0)))
def j1c[LP](a:L):S Bool:=(j5t a).bind λb=>N (b.2==0)
def j3v[LP](a:L):S Bool:=(j1c a).bind λb=>N (!b)
def j0w[LP](e:M L)(f a:L):S (((M L)×L×L) ⊕ (L ⊕ Ç)):=cond (O (a<f)) (cond (inR a e.length) (let d:=K e a.toNat 0
 (j3v d).bind λb=>cond b (N (.inr (.inl a))) (let c:=w64 (a+1)
 N (.inl (e,f,c)))) Y) (N (.inr (.inr ())))
def Es[LP](b:M L)(c a:L):S (L ⊕ Ç):=LP.lp (unc3 j0w) (b,c,a)
theorem Hu(b c a):Es b c a=lpK (j0w b c a) (λh=>Es h.1 h.2.1 h.2.2):=bt _ _
def j3w[LP](a:M L):S Int:=
 let c:=W a.length
 (Es a c 0).bind λb=>sumC b (λd=>N d) (λe=>N (-1))
def j1k[LP](a:M L):S Bool:=(j3w a).bind λb=>N (O (b>=0))
def j0n(d b:L)(k:X)(e:L)(a:M L):S ((L×L×X×L×(M L)) ⊕ (L ⊕ Ç)):=cond (O (b<d)) (cond (O (b>0)) (cond (inR b a.length) (let j:=K a b.toNat 0
 let c:=w64 (b-1)
 cond (inR c a.length) (let g:=K a c.toNat 0
 cond (O (j<=g)) (N (.inr (.inl 6))) (let i:=w64 (b+1)
 N (.inl (d,i,k,e,a)))) Y) Y) (let f:=w64 (b+1)
 N (.inl (d,f,k,e,a)))) (N (.inr (.inr ())))
def BK[LP](c d:L)(e:X)(a:L)(b:M L):S (L ⊕ Ç):=LP.lp (unc5 j0n) (c,d,e,a,b)
theorem BL(c d e a b):BK c d e a b=lpK (j0n c d e a b) (λh=>BK h.1 h.2.1 h.2.2.1 h.2.2.2.1 h.2.2.2.2):=bt _ _
def j1q[LP](b:bR)(a:rR):S Int:=
 let e:=W b.1.length
 (j1h a.2.1 e).bind λg=>cond (!g) (N 3) (let c:=W a.2.2.length
 cond (O (c>64)) (N 5) ((j1k a.2.2).bind λf=>cond f (N 1) (let d:=W a.2.2.length
 (BK d 0 a.1 a.2.1 a.2.2).bind λi=>sumC i (λj=>N j) (λk=>N 0))))
def j7L[LP](a:rR)(f:ai)(b:aj)(d:al)(c:ao):S Int:=(j1q (f,(b,(d,c))) (a.1,(a.2.1,a.2.2))).bind λe=>N e
def j0z[LP](m:ai)(e:aj)(g:al)(i:ao)(f:al)(l c:L)(n:M (X×Ä)):S ((ai×aj×al×ao×al×L×L×(M (X×Ä))) ⊕ (L ⊕ Ç)):=cond (O (c<l)) (cond (inR c f.length) (let a:=K f c.toNat (J,(0,([]:(M L))))
 (j7K (a.1,(a.2.1,a.2.2))).bind λj=>(j45 j n).bind λb=>cond (b.1 != 0) (N (.inr (.inl b.1))) ((j7L (a.1,(a.2.1,a.2.2)) m e g i).bind λd=>cond (d != 0) (N (.inr (.inl d))) (let k:=w64 (c+1)
 N (.inl (m,e,g,i,f,l,k,b.2))))) Y) (N (.inr (.inr ())))
def yX[LP](g:ai)(a:aj)(b:al)(c:ao)(d:al)(f e:L)(i:M (X×Ä)):S (L ⊕ Ç):=LP.lp (unc8 j0z) (g,a,b,c,d,f,e,i)
theorem Nd(g:ai)(a:aj)(b:al)(c:ao)(d:al)(f e:L)(i:M (X×Ä)):yX g a b c d f e i=lpK (j0z g a b c d f e i) (λh=>yX h.1 h.2.1 h.2.2.1 h.2.2.2.1 h.2.2.2.2.1 h.2.2.2.2.2.1 h.2.2.2.2.2.2.1 h.2.2.2.2.2.2.2):=bt _ _
def j1V[LP](e:al)(d:ai)(a:aj)(b:al)(c:ao):S Int:=
 let g:(M (X×Ä)):=[]
 let f:=W e.length
 (yX d a b c e f 0 g).bind λi=>sumC i (λj=>N j) (λk=>N 0)
def j7M(a:jD):S ByteArray:=N a.1
def j3x(a:eL):S ByteArray:=N a.1
def j4C(a:L)(g:ai)(b:aj)(f:al)(e:ao):S Bool:=
 let d:=W b.length
 (j1h a d).bind λc=>N (!c)
def j0p(i:M L)(j:ai)(c:aj)(d:al)(a:ao)(k b:L):S (((M L)×ai×aj×al×ao×L×L) ⊕ (L ⊕ Ç)):=cond (O (b<k)) (cond (inR b i.length) (let g:=K i b.toNat 0
 (j4C g j c d a).bind λe=>cond e (N (.inr (.inl b))) (let f:=w64 (b+1)
 N (.inl (i,j,c,d,a,k,f)))) Y) (N (.inr (.inr ())))
def Et[LP](d:M L)(f:ai)(b:aj)(c:al)(a:ao)(g e:L):S (L ⊕ Ç):=LP.lp (unc7 j0p) (d,f,b,c,a,g,e)
theorem Hv(d f b c a g e):Et d f b c a g e=lpK (j0p d f b c a g e) (λh=>Et h.1 h.2.1 h.2.2.1 h.2.2.2.1 h.2.2.2.2.1 h.2.2.2.2.2.1 h.2.2.2.2.2.2):=bt _ _
def j2v[LP](a:M L)(e:ai)(d:aj)(c:al)(b:ao):S Int:=
 let f:=W a.length
 (Et a e d c b f 0).bind λg=>sumC g (λi=>N i) (λj=>N (-1))
def j0U[LP](d:M L)(e:ai)(c:aj)(b:al)(a:ao):S Bool:=(j2v d e c b a).bind λf=>N (O (f>=0))
def j1o[LP](b:bR)(a:eL):S Int:=
 let l:=W b.1.length
 (j1h a.2.1 l).bind λj=>cond (!j) (N 3) (cond (O (a.2.2.1.1<1)) (N 1) ((j1c a.2.2.1.1).bind λk=>cond (!k) (N 1) ((j2V a.2.2.1.2 0 86399).bind λn=>cond (!n) (N 1) ((j2V a.2.2.2.1 0 2).bind λm=>cond (!m) (N 1) ((j2V a.2.2.2.2.1 1 400).bind λg=>cond (!g) (N 1) (let c:=W a.2.2.2.2.2.1.length
 cond (c==0) (N 7) (let o:=W a.2.2.2.2.2.1.length
 cond (O (o>12)) (N 5) ((j0U a.2.2.2.2.2.1 b.1 b.2.1 b.2.2.1 b.2.2.2).bind λd=>cond d (N 3) ((jbd a.2.2.2.2.2.2.1).bind λe=>cond (e != 0) (N 8) ((j2V a.2.2.2.2.2.2.2.2 0 2).bind λf=>cond (!f) (N 1) (let p:=W b.2.2.1.length
 cond (a.2.2.2.2.2.2.2.2 != 0) ((j1h a.2.2.2.2.2.2.2.1 p).bind λi=>cond (!i) (N 3) (cond (cond (a.2.2.2.2.2.2.2.2==0) (a.2.2.2.2.2.2.2.1 != 0) À) (N 1) (N 0))) (cond (cond (a.2.2.2.2.2.2.2.2==0) (a.2.2.2.2.2.2.2.1 != 0) À) (N 1) (N 0)))))))))))))
def j3y[LP](a:eL)(f:ai)(b:aj)(d:al)(c:ao):S Int:=(j1o (f,(b,(d,c))) (a.1,(a.2.1,((a.2.2.1.1,a.2.2.1.2),(a.2.2.2.1,(a.2.2.2.2.1,(a.2.2.2.2.2.1,(a.2.2.2.2.2.2.1,(a.2.2.2.2.2.2.2.1,a.2.2.2.2.2.2.2.2))))))))).bind λe=>N e
def j0O[LP](m:ai)(e:aj)(g:al)(i:ao)(f:an)(l c:L)(n:M (X×Ä)):S ((ai×aj×al×ao×an×L×L×(M (X×Ä))) ⊕ (L ⊕ Ç)):=cond (O (c<l)) (cond (inR c f.length) (let a:=K f c.toNat (J,(0,((0,0),(0,(0,(([]:(M L)),(([]:ae),(0,0))))))))
 (j3x (a.1,(a.2.1,((a.2.2.1.1,a.2.2.1.2),(a.2.2.2.1,(a.2.2.2.2.1,(a.2.2.2.2.2.1,(a.2.2.2.2.2.2.1,(a.2.2.2.2.2.2.2.1,a.2.2.2.2.2.2.2.2))))))))).bind λj=>(j45 j n).bind λb=>cond (b.1 != 0) (N (.inr (.inl b.1))) ((j3y (a.1,(a.2.1,((a.2.2.1.1,a.2.2.1.2),(a.2.2.2.1,(a.2.2.2.2.1,(a.2.2.2.2.2.1,(a.2.2.2.2.2.2.1,(a.2.2.2.2.2.2.2.1,a.2.2.2.2.2.2.2.2)))))))) m e g i).bind λd=>cond (d != 0) (N (.inr (.inl d))) (let k:=w64 (c+1)
 N (.inl (m,e,g,i,f,l,k,b.2))))) Y) (N (.inr (.inr ())))
def yY[LP](g:ai)(a:aj)(b:al)(c:ao)(d:an)(f e:L)(i:M (X×Ä)):S (L ⊕ Ç):=LP.lp (unc8 j0O) (g,a,b,c,d,f,e,i)
theorem Nf(g:ai)(a:aj)(b:al)(c:ao)(d:an)(f e:L)(i:M (X×Ä)):yY g a b c d f e i=lpK (j0O g a b c d f e i) (λh=>yY h.1 h.2.1 h.2.2.1 h.2.2.2.1 h.2.2.2.2.1 h.2.2.2.2.2.1 h.2.2.2.2.2.2.1 h.2.2.2.2.2.2.2):=bt _ _
def j2w[LP](e:an)(d:ai)(a:aj)(b:al)(c:ao):S Int:=
 let g:(M (X×Ä)):=[]
 let f:=W e.length
 (yY d a b c e f 0 g).bind λi=>sumC i (λj=>N j) (λk=>N 0)
def j11[LP](g:bR)(a:oX):S Int:=
 let k:=W g.2.1.length
 (j2V a.1 0 2).bind λl=>cond (!l) (N 1) ((j1h a.2.1 k).bind λf=>cond (cond (!f) (!(cond (a.1==1) (a.2.1==(-1)) À)) À) (cond (cond (!f) (!(cond (a.1==1) (a.2.1==(-1)) À)) À) (N 3) (cond (cond (a.1 != 2) (a.2.2.1 != 0) À) (N 1) (cond (cond (a.1==2) (a.2.1==a.2.2.1) À) (N 4) (let j:=w64 (È a.2.2.2.2 86400)
 cond (cond (O (a.2.2.2.1<0)) Ã (O (a.2.2.2.2<0))) (N 1) ((j1c j).bind λi=>cond (!i) (N 1) (cond (O (a.2.2.2.1>=a.2.2.2.2)) (N 6) (N 0))))))) (cond (a.1==2) ((j1h a.2.2.1 k).bind λm=>cond (!m) (N 3) (cond (cond (a.1 != 2) (a.2.2.1 != 0) À) (N 1) (cond (cond (a.1==2) (a.2.1==a.2.2.1) À) (N 4) (let b:=w64 (È a.2.2.2.2 86400)
 cond (cond (O (a.2.2.2.1<0)) Ã (O (a.2.2.2.2<0))) (N 1) ((j1c b).bind λd=>cond (!d) (N 1) (cond (O (a.2.2.2.1>=a.2.2.2.2)) (N 6) (N 0))))))) (cond (cond (a.1 != 2) (a.2.2.1 != 0) À) (N 1) (cond (cond (a.1==2) (a.2.1==a.2.2.1) À) (N 4) (let e:=w64 (È a.2.2.2.2 86400)
 cond (cond (O (a.2.2.2.1<0)) Ã (O (a.2.2.2.2<0))) (N 1) ((j1c e).bind λc=>cond (!c) (N 1) (cond (O (a.2.2.2.1>=a.2.2.2.2)) (N 6) (N 0))))))))
def j12[LP](g:ax)(j c:L)(k:ai)(f:aj)(d:al)(e:ao):S ((ax×L×L×ai×aj×al×ao) ⊕ (L ⊕ Ç)):=cond (O (c<j)) (cond (inR c g.length) (let a:=K g c.toNat (0,(0,(0,(0,0))))
 (j11 (k,(f,(d,e))) (a.1,(a.2.1,(a.2.2.1,(a.2.2.2.1,a.2.2.2.2))))).bind λb=>cond (b != 0) (N (.inr (.inl b))) (let i:=w64 (c+1)
 N (.inl (g,j,i,k,f,d,e)))) Y) (N (.inr (.inr ())))
def BM[LP](f:ax)(d e:L)(g:ai)(c:aj)(a:al)(b:ao):S (L ⊕ Ç):=LP.lp (unc7 j12) (f,d,e,g,c,a,b)
theorem Ng(f d e g c a b):BM f d e g c a b=lpK (j12 f d e g c a b) (λh=>BM h.1 h.2.1 h.2.2.1 h.2.2.2.1 h.2.2.2.2.1 h.2.2.2.2.2.1 h.2.2.2.2.2.2):=bt _ _
def j1s[LP](a:bR)(b:jD):S Int:=
 let d:=W b.2.1.length
 let f:=W b.2.2.length
 cond (cond (O (d>6)) Ã (O (f>48))) (N 5) ((j2w b.2.1 a.1 a.2.1 a.2.2.1 a.2.2.2).bind λc=>cond (c != 0) (N c) (let e:=W b.2.2.length
 (BM b.2.2 e 0 a.1 a.2.1 a.2.2.1 a.2.2.2).bind λg=>sumC g (λi=>N i) (λj=>N 0)))
def j7N[LP](a:jD)(e:ai)(b:aj)(d:al)(c:ao):S Int:=(j1s (e,(b,(d,c))) (a.1,(a.2.1,a.2.2))).bind λf=>N f
def j0A[LP](m:ai)(e:aj)(g:al)(i f:ao)(l c:L)(n:M (X×Ä)):S ((ai×aj×al×ao×ao×L×L×(M (X×Ä))) ⊕ (L ⊕ Ç)):=cond (O (c<l)) (cond (inR c f.length) (let a:=K f c.toNat (J,(([]:an),([]:ax)))
 (j7M (a.1,(a.2.1,a.2.2))).bind λj=>(j45 j n).bind λb=>cond (b.1 != 0) (N (.inr (.inl b.1))) ((j7N (a.1,(a.2.1,a.2.2)) m e g i).bind λd=>cond (d != 0) (N (.inr (.inl d))) (let k:=w64 (c+1)
 N (.inl (m,e,g,i,f,l,k,b.2))))) Y) (N (.inr (.inr ())))
def yZ[LP](g:ai)(a:aj)(b:al)(c d:ao)(f e:L)(i:M (X×Ä)):S (L ⊕ Ç):=LP.lp (unc8 j0A) (g,a,b,c,d,f,e,i)
theorem Nh(g:ai)(a:aj)(b:al)(c d:ao)(f e:L)(i:M (X×Ä)):yZ g a b c d f e i=lpK (j0A g a b c d f e i) (λh=>yZ h.1 h.2.1 h.2.2.1 h.2.2.2.1 h.2.2.2.2.1 h.2.2.2.2.2.1 h.2.2.2.2.2.2.1 h.2.2.2.2.2.2.2):=bt _ _
def j2M[LP](e:ao)(d:ai)(a:aj)(b:al)(c:ao):S Int:=
 let g:(M (X×Ä)):=[]
 let f:=W e.length
 (yZ d a b c e f 0 g).bind λi=>sumC i (λj=>N j) (λk=>N 0)
def j3a[LP](g:aj)(i f:L)(j:ai)(d:aj)(c:al)(e:ao)(r:M (X×Ä)):S ((aj×L×L×ai×aj×al×ao×(M (X×Ä))) ⊕ (L ⊕ (ai×aj×al×ao))):=cond (O (f<i)) (cond (inR f g.length) (let a:=K g f.toNat (J,(0,(([]:ae),(0,(0,À)))))
 (j45 a.1 r).bind λb=>let q:Bool:=É a.1==É (Z #[110,111,98,111,100,121])
 cond q (cond (2==0) ((j4g (j,(d,(c,e))) (a.1,(a.2.1,(a.2.2.1,(a.2.2.2.1,(a.2.2.2.2.1,a.2.2.2.2.2)))))).bind λl=>cond (l != 0) (N (.inr (.inl l))) (let m:=w64 (f+1)
 N (.inl (g,i,m,j,d,c,e,b.2)))) (cond (2 != 0) (N (.inr (.inl 2))) (let n:=w64 (f+1)
 N (.inl (g,i,n,j,d,c,e,b.2))))) (cond (b.1==0) ((j4g (j,(d,(c,e))) (a.1,(a.2.1,(a.2.2.1,(a.2.2.2.1,(a.2.2.2.2.1,a.2.2.2.2.2)))))).bind λk=>cond (k != 0) (N (.inr (.inl k))) (let o:=w64 (f+1)
 N (.inl (g,i,o,j,d,c,e,b.2)))) (cond (b.1 != 0) (N (.inr (.inl b.1))) (let p:=w64 (f+1)
 N (.inl (g,i,p,j,d,c,e,b.2)))))) Y) (N (.inr (.inr (j,d,c,e))))
def Eu[LP](e:aj)(d f:L)(g:ai)(b:aj)(a:al)(c:ao)(i:M (X×Ä)):S (L ⊕ (ai×aj×al×ao)):=LP.lp (unc8 j3a) (e,d,f,g,b,a,c,i)
theorem Vp(e:aj)(d f:L)(g:ai)(b:aj)(a:al)(c:ao)(i:M (X×Ä)):Eu e d f g b a c i=lpK (j3a e d f g b a c i) (λh=>Eu h.1 h.2.1 h.2.2.1 h.2.2.2.1 h.2.2.2.2.1 h.2.2.2.2.2.1 h.2.2.2.2.2.2.1 h.2.2.2.2.2.2.2):=bt _ _
def j5A[LP](a:bR):S Int:=
 let e:=W a.1.length
 let k:=W a.2.1.length
 let i:=W a.2.2.1.length
 let m:Bool:=cond (cond (O (e>16)) Ã (O (k>32))) Ã (O (i>8))
 let f:=W a.2.2.2.length
 cond (cond m Ã (O (f>12))) (N 5) ((j2O a.1).bind λd=>cond (d != 0) (N d) (let g:(M (X×Ä)):=[]
 let j:=W a.2.1.length
 (Eu a.2.1 j 0 a.1 a.2.1 a.2.2.1 a.2.2.2 g).bind λn=>sumC n (λo=>N o) (λb=>(j1V b.2.2.1 b.1 b.2.1 b.2.2.1 b.2.2.2).bind λc=>cond (c != 0) (N c) ((j2M b.2.2.2 b.1 b.2.1 b.2.2.1 b.2.2.2).bind λl=>N l))))
def jle[LP](a:dR):S (fP×L):=(j0P (a.1,(a.2.1,a.2.2))).bind λb=>N ((a.2.1,b.1),b.2)
def j4i[LP](g:ai)(j b:L)(i:dz):S ((ai×L×L×dz) ⊕ (dz)):=cond (O (b<j)) (cond (inR b g.length) (let a:=K g b.toNat (J,(0,([]:aX)))
 (jle (a.1,(a.2.1,a.2.2))).bind λd=>let c:dz:=[(d.1.1,d.1.2)]
 cond (O (U i+U c<=aF)) (let e:dz:=i++c
 let f:=w64 (b+1)
 N (.inl (g,j,f,e))) Y) Y) (N (.inr i))
def Ev[LP](b:ai)(d a:L)(c:dz):S dz:=LP.lp (unc4 j4i) (b,d,a,c)
theorem Vq(b c a d):Ev b c a d=lpK (j4i b c a d) (λh=>Ev h.1 h.2.1 h.2.2.1 h.2.2.2):=bt _ _
def jh1[LP](a:ai):S dz:=
 let c:=W a.length
 (Ev a c 0 ([]:dz)).bind λb=>N b
def ji0[LP](a:bR):S iB:=(jh1 a.1).bind λb=>N ((a.1,(a.2.1,(a.2.2.1,a.2.2.2))),b)
def jh2[LP](a:bR):S (iB×Ä):=(j5A (a.1,(a.2.1,(a.2.2.1,a.2.2.2)))).bind λc=>cond (c != 0) (N (((([]:ai),(([]:aj),(([]:al),([]:ao)))),([]:dz)),À)) ((ji0 (a.1,(a.2.1,(a.2.2.1,a.2.2.2)))).bind λb=>N (((b.1.1,(b.1.2.1,(b.1.2.2.1,b.1.2.2.2))),b.2),Ã))
def j83(b:bR)(a:L):S Bool:=
 let c:=W b.2.2.2.length
 N (cond (O (a>=0)) (O (a<c)) À)
def jj9(a b:L):S Bool:=
 let e:Bool:=cond (cond (O (a>=0)) (O (a<=8589934592)) À) (O (b>=a)) À
 let d:=w64 (b-a)
 let c:Bool:=cond (cond e (O (b<=8589934592)) À) (O (d<=34560000)) À
 N c
def j9o[LP](b:bR)(c d e:L):S (iB×L):=(jh2 (b.1,(b.2.1,(b.2.2.1,b.2.2.2)))).bind λa=>cond (!a.2) (N (((a.1.1.1,(a.1.1.2.1,(a.1.1.2.2.1,a.1.1.2.2.2))),a.1.2),8)) ((j83 (b.1,(b.2.1,(b.2.2.1,b.2.2.2))) c).bind λf=>cond (!f) (N (((a.1.1.1,(a.1.1.2.1,(a.1.1.2.2.1,a.1.1.2.2.2))),a.1.2),3)) ((jj9 d e).bind λg=>cond (!g) (N (((a.1.1.1,(a.1.1.2.1,(a.1.1.2.2.1,a.1.1.2.2.2))),a.1.2),1)) (N (((a.1.1.1,(a.1.1.2.1,(a.1.1.2.2.1,a.1.1.2.2.2))),a.1.2),0))))
def j0R(a:an):S an:=N a
def j9p(a:eL):S Int:=cond (a.2.2.2.1==2) (let b:=w64 (7*a.2.2.2.2.1)
 N b) (N a.2.2.2.2.1)
def j84(b e:L)(a:ae)(c:L):S Bool:=cond (inR b a.length) (let d:=K a b.toNat (0,0)
 N (O (d.1>c))) Y
def j2W(l:L)(a:ae)(b d k:L):S ((L×ae×L×L×L) ⊕ (L)):=cond (O (d<k)) (let g:=w64 (d+k)
 let f:Int:=IntKind.wrap .u64 g
 let i:Int:=Í f 2
 let c:=w64 i
 (j84 c l a b).bind λj=>cond (!j) (let e:=w64 (c+1)
 N (.inl (l,a,b,e,k))) (N (.inl (l,a,b,d,c)))) (N (.inr d))
def Hw[LP](e:L)(a:ae)(b c d:L):S Int:=LP.lp (unc5 j2W) (e,a,b,c,d)
theorem Vr(e a b c d):Hw e a b c d=lpK (j2W e a b c d) (λh=>Hw h.1 h.2.1 h.2.2.1 h.2.2.2.1 h.2.2.2.2):=bt _ _
def jh3[LP](c d:L)(b:ae)(a:L):S Int:=(Hw d b a 0 c).bind λe=>N e
def j5V[LP](a:fP)(b:L):S Int:=
 let c:=W a.2.length
 (jh3 c a.1 a.2 b).bind λd=>N d
def j4b(a:fP)(b:L):S Int:=cond (b==0) (N a.1) (let c:=w64 (b-1)
 cond (inR c a.2.length) (let d:=K a.2 c.toNat (0,0)
 N d.2) Y)
def j0y[LP](n c i:L)(a:ae)(j:aq):S ((L×L×L×ae×aq) ⊕ (aq)):=cond (O (n<c)) ((j5V (i,a) n).bind λb=>let l:=W a.length
 cond (O (b<l)) (cond (inR b a.length) (let f:=K a b.toNat (0,0)
 let g:Int:=if f.1<c then f.1 else c
 (j4b (i,a) b).bind λo=>let e:aq:=[(n,(g,o))]
 cond (O (U j+U e<=aF)) (let p:aq:=j++e
 N (.inl (g,c,i,a,p))) Y) Y) ((j4b (i,a) b).bind λk=>let d:aq:=[(n,(c,k))]
 cond (O (U j+U d<=aF)) (let m:aq:=j++d
 N (.inl (c,c,i,a,m))) Y)) (N (.inr j))
def BN[LP](d c b:L)(a:ae)(e:aq):S aq:=LP.lp (unc5 j0y) (d,c,b,a,e)
theorem BO(d c b a e):BN d c b a e=lpK (j0y d c b a e) (λh=>BN h.1 h.2.1 h.2.2.1 h.2.2.2.1 h.2.2.2.2):=bt _ _
def j1O[LP](b:fP)(a c:L):S aq:=(BN a c b.1 b.2 ([]:aq)).bind λd=>N d
def j46(a:L×L):S Int:=
 let b:Int:=if (-1048576)>a.1 then (-1048576) else a.1
 let d:Int:=if 1048576<b then 1048576 else b
 let e:=w64 (d*86400)
 let c:=w64 (e+a.2)
 N c
def j1m(j d k f:L)(e:aq):S ((L×L×L×L×aq) ⊕ ((L×Ä) ⊕ Ç)):=cond (O (d<j)) (cond (inR d e.length) (let a:=K e d.toNat (0,(0,0))
 (j46 (k,f)).bind λg=>let b:=w64 (g-a.2.2)
 let c:Int:=if b>a.1 then b else a.1
 cond (O (c<a.2.1)) (N (.inr (.inl (c,Ã)))) (let i:=w64 (d+1)
 N (.inl (j,i,k,f,e)))) Y) (N (.inr (.inr ())))
def Ew[LP](d c e a:L)(b:aq):S ((L×Ä) ⊕ Ç):=LP.lp (unc5 j1m) (d,c,e,a,b)
theorem Hx(d c e a b):Ew d c e a b=lpK (j1m d c e a b) (λh=>Ew h.1 h.2.1 h.2.2.1 h.2.2.2.1 h.2.2.2.2):=bt _ _
def j2H[LP](a:fP)(b:L×L):S (L×Ä):=(j1O (a.1,a.2) 0 8589934593).bind λc=>let d:=W c.length
 (Ew d 0 b.1 b.2 c).bind λe=>sumC e (λf=>N (f.1,f.2)) (λg=>N (0,À))
def j0Q[LP](b:fP)(a:eL)(c:L):S (L×Ä):=cond (O (c>8589934592)) (N (0,À)) (cond (a.2.2.2.1 != 0) ((j9p (a.1,(a.2.1,((a.2.2.1.1,a.2.2.1.2),(a.2.2.2.1,(a.2.2.2.2.1,(a.2.2.2.2.2.1,(a.2.2.2.2.2.2.1,(a.2.2.2.2.2.2.2.1,a.2.2.2.2.2.2.2.2))))))))).bind λg=>let j:=w64 (c*g)
 let k:=w64 (a.2.2.1.1+j)
 (j2H (b.1,b.2) (k,a.2.2.1.2)).bind λe=>N (e.1,e.2)) ((j2H (b.1,b.2) (a.2.2.1.1,a.2.2.1.2)).bind λd=>let i:=w64 (3600*a.2.2.2.2.1)
 let l:=w64 (i*c)
 let f:=w64 (d.1+l)
 N (f,(cond d.2 (O (f<=8589934592)) À))))
def j3b(a:ae):S ae:=cond (O (U ([]:M (L×L))+U a<=aF)) (N (([]:M (L×L))++a)) Y
def j8z(a:L×L):S Bool:=N (O (a.2<=a.1))
def j0u(f b:L)(c:ae):S ((L×L×ae) ⊕ (fP ⊕ ae)):=cond (O (b<f)) (cond (inR b c.length) (let a:=K c b.toNat (0,0)
 (j8z (a.1,a.2)).bind λd=>cond d (N (.inr (.inl (b,c)))) (let e:=w64 (b+1)
 N (.inl (f,e,c)))) Y) (N (.inr (.inr c)))
def Ey[LP](b a:L)(c:ae):S (fP ⊕ ae):=LP.lp (unc3 j0u) (b,a,c)
theorem Vs(b a c):Ey b a c=lpK (j0u b a c) (λh=>Ey h.1 h.2.1 h.2.2):=bt _ _
def j2o[LP](a:ae):S fP:=
 let c:=W a.length
 (Ey c 0 a).bind λb=>sumC b (λd=>N (d.1,d.2)) (λe=>N ((-1),e))
def j0s(c d:L)(b:ae):S ((L×L×ae) ⊕ (fP)):=
 let f:=W b.length
 cond (O (d<f)) (cond (inR d b.length) (let a:=K b d.toNat (0,0)
 (j8z (a.1,a.2)).bind λj=>cond (!j) (cond (inR c b.length) (let k:ae:=Á b c.toNat (a.1,a.2)
 let i:=w64 (c+1)
 let e:=w64 (d+1)
 N (.inl (i,e,k))) Y) (let g:=w64 (d+1)
 N (.inl (c,g,b)))) Y) (N (.inr (c,b)))
def Hy[LP](a b:L)(c:ae):S fP:=LP.lp (unc3 j0s) (a,b,c)
theorem Vt(a b c):Hy a b c=lpK (j0s a b c) (λh=>Hy h.1 h.2.1 h.2.2):=bt _ _
def j1u[LP](c:ae):S fP:=(j2o c).bind λb=>cond (b.1==(-1)) (N ((W b.2.length),b.2)) (let e:=w64 (b.1+1)
 (Hy b.1 e b.2).bind λa=>cond (O (0<=a.1)&&O (a.1<=(W a.2.length))) (let d:ae:=Ê a.1.toNat a.2++Â (U a.2-a.1.toNat) (0,0)
 cond (O (0<=a.1)&&O (a.1<=(W d.length))) (N ((W a.1.toNat),d)) Y) Y)
def j6W(a b:L×L):S Int:=
 let c:=w64 (a.1-b.1)
 N c
def j0W(a:ae):S ae:=
 wH (.pair (.int .i64) (.int .i64)) (λc b=>(j6W c b).getD 0) a
def j3z(l d:L)(b f:ae):S ((L×L×ae×ae) ⊕ (ae)):=cond (O (d<l)) (cond (inR d f.length) (let a:=K f d.toNat (0,0)
 let c:=W b.length
 cond (O (c>0)) (let j:=w64 (c-1)
 cond (inR j b.length) (let o:=(K b j.toNat (0,0)).2
 cond (O (a.1<=o)) (let e:=w64 (c-1)
 let i:=w64 (c-1)
 cond (inR i b.length) (let m:=(K b i.toNat (0,0)).2
 let u:Int:=if a.2>m then a.2 else m
 cond (inR e b.length) (let n:ae:=Á b e.toNat ((K b e.toNat (0,0)).1,u)
 let q:=w64 (d+1)
 N (.inl (l,q,n,f))) Y) Y) (let k:ae:=[(a.1,a.2)]
 cond (O (U b+U k<=aF)) (let r:ae:=b++k
 let t:=w64 (d+1)
 N (.inl (l,t,r,f))) Y)) Y) (let g:ae:=[(a.1,a.2)]
 cond (O (U b+U g<=aF)) (let s:ae:=b++g
 let p:=w64 (d+1)
 N (.inl (l,p,s,f))) Y)) Y) (N (.inr b))
def Ez[LP](a c:L)(d b:ae):S ae:=LP.lp (unc4 j3z) (a,c,d,b)
theorem Ni(c a d b):Ez c a d b=lpK (j3z c a d b) (λh=>Ez h.1 h.2.1 h.2.2.1 h.2.2.2):=bt _ _
def j9q[LP](c:ae):S ae:=(j3b c).bind λf=>(j1u f).bind λa=>let e:ae:=Ê a.1.toNat a.2
 (j0W e).bind λb=>let d:=W b.length
 (Ez d 0 ([]:ae) b).bind λg=>N g
def j3O(u:ae)(c p s:L)(k:ae)(q d b a f:L)(t:ae)(r:aq):S ((ae×L×L×L×ae×L×L×L×L×L×ae×aq) ⊕ (ae×L×L×L×L×L×L×ae×aq)):=cond (O (d<q)) (cond (inR d k.length) (let g:=K k d.toNat (0,0)
 let i:=w64 (c+g.1)
 let m:Int:=if i>b then i else b
 let j:=w64 (c+g.2)
 let n:Int:=if j<a then j else a
 let e:ae:=[(m,n)]
 cond (O (U t+U e<=aF)) (let l:ae:=t++e
 let o:=w64 (d+1)
 N (.inl (u,c,p,s,k,q,o,b,a,f,l,r))) Y) Y) (N (.inr (u,c,p,s,b,a,f,t,r)))
def Hz[LP](l:ae)(e d g:L)(i:ae)(j f c b a:L)(m:ae)(k:aq):S (ae×L×L×L×L×L×L×ae×aq):=LP.lp (u8 unc4 j3O) (l,e,d,g,i,j,f,c,b,a,m,k)
theorem Vu(l e d g i j f c b a m k):Hz l e d g i j f c b a m k=lpK (j3O l e d g i j f c b a m k) (λh=>Hz h.1 h.2.1 h.2.2.1 h.2.2.2.1 h.2.2.2.2.1 h.2.2.2.2.2.1 h.2.2.2.2.2.2.1 h.2.2.2.2.2.2.2.1 h.2.2.2.2.2.2.2.2.1 h.2.2.2.2.2.2.2.2.2.1 h.2.2.2.2.2.2.2.2.2.2.1 h.2.2.2.2.2.2.2.2.2.2.2):=bt _ _
def j3P[LP](e:ae)(i g j l b f:L)(m:ae)(k:aq):S ((ae×L×L×L×L×L×L×ae×aq) ⊕ (ae×L×L×ae×aq)):=cond (O (i<b)) (let c:=W e.length
 (Hz e i g j e c 0 l b f m k).bind λa=>let d:=w64 (a.2.1+604800)
 N (.inl (a.1,d,a.2.2.1,a.2.2.2.1,a.2.2.2.2.1,a.2.2.2.2.2.1,a.2.2.2.2.2.2.1,a.2.2.2.2.2.2.2.1,a.2.2.2.2.2.2.2.2))) (N (.inr (e,g,j,m,k)))
def HA[LP](i:ae)(e d f c b a:L)(j:ae)(g:aq):S (ae×L×L×ae×aq):=LP.lp (unc9 j3P) (i,e,d,f,c,b,a,j,g)
theorem Vv(i e d f c b a j g):HA i e d f c b a j g=lpK (j3P i e d f c b a j g) (λh=>HA h.1 h.2.1 h.2.2.1 h.2.2.2.1 h.2.2.2.2.1 h.2.2.2.2.2.1 h.2.2.2.2.2.2.1 h.2.2.2.2.2.2.2.1 h.2.2.2.2.2.2.2.2):=bt _ _
def j3Q[LP](o:ae)(m d:L)(n:ae)(e:aq):S ((ae×L×L×ae×aq) ⊕ (ae)):=cond (O (d<m)) (cond (inR d e.length) (let a:=K e d.toNat (0,(0,0))
 let j:=w64 (a.1+a.2.2)
 let c:=w64 (j-(-259200))
 let l:=Å c 604800
 let k:=w64 (c-l)
 let g:=w64 (k+(-259200))
 let i:=w64 (g-a.2.2)
 (HA o i m d a.1 a.2.1 a.2.2 n e).bind λb=>let f:=w64 (b.2.2.1+1)
 N (.inl (b.1,b.2.1,f,b.2.2.2.1,b.2.2.2.2))) Y) (N (.inr n))
def HB[LP](d:ae)(a b:L)(e:ae)(c:aq):S ae:=LP.lp (unc5 j3Q) (d,a,b,e,c)
theorem Vw(d a b e c):HB d a b e c=lpK (j3Q d a b e c) (λh=>HB h.1 h.2.1 h.2.2.1 h.2.2.2.1 h.2.2.2.2):=bt _ _
def j5u[LP](b:fP)(e:ae)(a c:L):S ae:=(j1O (b.1,b.2) a c).bind λd=>let g:=W d.length
 (HB e g 0 ([]:ae) d).bind λi=>(j9q i).bind λf=>N f
def j2Q(u t:L)(j:M L)(r f:L)(w:X)(i:L)(k:M L)(g a c:L)(v:ae)(s:aq):S ((L×L×(M L)×L×L×X×L×(M L)×L×L×L×ae×aq) ⊕ (L×L×X×L×(M L)×ae×aq)):=cond (O (f<r)) (cond (inR f j.length) (let p:=K j f.toNat 0
 let l:=w64 (p*86400)
 let b:=w64 (l-c)
 let o:Int:=if b>g then b else g
 let e:=w64 (b+86400)
 let m:Int:=if e<a then e else a
 let d:ae:=[(o,m)]
 cond (O (U v+U d<=aF)) (let q:ae:=v++d
 let n:=w64 (f+1)
 N (.inl (u,t,j,r,n,w,i,k,g,a,c,q,s))) Y) Y) (N (.inr (u,t,w,i,k,v,s)))
def EA[LP](i e:L)(k:M L)(j l:L)(n:X)(d:L)(c:M L)(g b a:L)(m:ae)(f:aq):S (L×L×X×L×(M L)×ae×aq):=LP.lp (u8 unc5 j2Q) (i,e,k,j,l,n,d,c,g,b,a,m,f)
theorem Vx(i e k j l n d c g b a m f):EA i e k j l n d c g b a m f=lpK (j2Q i e k j l n d c g b a m f) (λh=>EA h.1 h.2.1 h.2.2.1 h.2.2.2.1 h.2.2.2.2.1 h.2.2.2.2.2.1 h.2.2.2.2.2.2.1 h.2.2.2.2.2.2.2.1 h.2.2.2.2.2.2.2.2.1 h.2.2.2.2.2.2.2.2.2.1 h.2.2.2.2.2.2.2.2.2.2.1 h.2.2.2.2.2.2.2.2.2.2.2.1 h.2.2.2.2.2.2.2.2.2.2.2.2):=bt _ _
def j2R[LP](i d:L)(l:X)(j:L)(c:M L)(k:ae)(e:aq):S ((L×L×X×L×(M L)×ae×aq) ⊕ (ae)):=cond (O (d<i)) (cond (inR d e.length) (let b:=K e d.toNat (0,(0,0))
 let g:=W c.length
 (EA i d c g 0 l j c b.1 b.2.1 b.2.2 k e).bind λa=>let f:=w64 (a.2.1+1)
 N (.inl (a.1,f,a.2.2.1,a.2.2.2.1,a.2.2.2.2.1,a.2.2.2.2.2.1,a.2.2.2.2.2.2))) Y) (N (.inr k))
def EB[LP](e c:L)(g:X)(b:L)(a:M L)(f:ae)(d:aq):S ae:=LP.lp (unc7 j2R) (e,c,g,b,a,f,d)
theorem Vy(e c g b a f d):EB e c g b a f d=lpK (j2R e c g b a f d) (λh=>EB h.1 h.2.1 h.2.2.1 h.2.2.2.1 h.2.2.2.2.1 h.2.2.2.2.2.1 h.2.2.2.2.2.2):=bt _ _
def j23[LP](c:iB)(a:rR)(b d:L):S ae:=cond (inR a.2.1 c.2.length) (let f:=K c.2 a.2.1.toNat (0,([]:ae))
 (j1O (f.1,f.2) b d).bind λe=>let i:=W e.length
 (EB i 0 a.1 a.2.1 a.2.2 ([]:ae) e).bind λj=>(j9q j).bind λg=>N g) Y
def j3R(c:ae)(b:L)(f:ae)(e d i a:L)(l:ae):S ((ae×L×ae×L×L×L×L×ae) ⊕ (ae×L×ae×L×L×L×L×ae)):=
 let k:=W c.length
 cond (O (b<k)) (cond (inR b c.length) (let j:=K c b.toNat (0,0)
 cond (O (j.2<=i)) (let g:=w64 (b+1)
 N (.inl (c,g,f,e,d,i,a,l))) (N (.inr (c,b,f,e,d,i,a,l)))) Y) (N (.inr (c,b,f,e,d,i,a,l)))
def HC[LP](g:ae)(e:L)(d:ae)(c b f a:L)(i:ae):S (ae×L×ae×L×L×L×L×ae):=LP.lp (unc8 j3R) (g,e,d,c,b,f,a,i)
theorem Vz(g e d c b f a i):HC g e d c b f a i=lpK (j3R g e d c b f a i) (λh=>HC h.1 h.2.1 h.2.2.1 h.2.2.2.1 h.2.2.2.2.1 h.2.2.2.2.2.1 h.2.2.2.2.2.2.1 h.2.2.2.2.2.2.2):=bt _ _
def j3S(b:ae)(s d a:L)(g:ae)(k f u c:L)(l:ae):S ((ae×L×L×L×ae×L×L×L×L×ae) ⊕ (ae×L×L×ae×L×L×L×L×ae)):=
 let r:=W b.length
 cond (O (a<r)) (cond (inR a b.length) (let o:=K b a.toNat (0,0)
 cond (O (o.1<c)) (cond (inR a b.length) (let n:=K b a.toNat (0,0)
 cond (O (d<n.1)) (cond (inR a b.length) (let w:=K b a.toNat (0,0)
 let e:ae:=[(d,w.1)]
 cond (O (U l+U e<=aF)) (let m:ae:=l++e
 cond (inR a b.length) (let i:=K b a.toNat (0,0)
 let q:Int:=if i.2>d then i.2 else d
 let p:=w64 (a+1)
 N (.inl (b,s,q,p,g,k,f,u,c,m))) Y) Y) Y) (cond (inR a b.length) (let j:=K b a.toNat (0,0)
 let v:Int:=if j.2>d then j.2 else d
 let t:=w64 (a+1)
 N (.inl (b,s,v,t,g,k,f,u,c,l))) Y)) Y) (N (.inr (b,s,d,g,k,f,u,c,l)))) Y) (N (.inr (b,s,d,g,k,f,u,c,l)))
def EC[LP](i:ae)(f j b:L)(e:ae)(d c g a:L)(k:ae):S (ae×L×L×ae×L×L×L×L×ae):=LP.lp (u8 unc2 j3S) (i,f,j,b,e,d,c,g,a,k)
theorem VA(i f j b e d c g a k):EC i f j b e d c g a k=lpK (j3S i f j b e d c g a k) (λh=>EC h.1 h.2.1 h.2.2.1 h.2.2.2.1 h.2.2.2.2.1 h.2.2.2.2.2.1 h.2.2.2.2.2.2.1 h.2.2.2.2.2.2.2.1 h.2.2.2.2.2.2.2.2.1 h.2.2.2.2.2.2.2.2.2):=bt _ _
def j3T[LP](n:ae)(m:L)(f:ae)(k d:L)(l:ae):S ((ae×L×ae×L×L×ae) ⊕ (ae)):=cond (O (d<k)) (cond (inR d f.length) (let e:=K f d.toNat (0,0)
 (HC n m f k d e.1 e.2 l).bind λb=>(EC b.1 b.2.1 b.2.2.2.2.2.1 b.2.1 b.2.2.1 b.2.2.2.1 b.2.2.2.2.1 b.2.2.2.2.2.1 b.2.2.2.2.2.2.1 b.2.2.2.2.2.2.2).bind λa=>cond (O (a.2.2.1<a.2.2.2.2.2.2.2.1)) (let c:ae:=[(a.2.2.1,a.2.2.2.2.2.2.2.1)]
 cond (O (U a.2.2.2.2.2.2.2.2+U c<=aF)) (let i:ae:=a.2.2.2.2.2.2.2.2++c
 let j:=w64 (a.2.2.2.2.2.1+1)
 N (.inl (a.1,a.2.1,a.2.2.2.1,a.2.2.2.2.1,j,i))) Y) (let g:=w64 (a.2.2.2.2.2.1+1)
 N (.inl (a.1,a.2.1,a.2.2.2.1,a.2.2.2.2.1,g,a.2.2.2.2.2.2.2.2)))) Y) (N (.inr l))
def BP[LP](e:ae)(d:L)(c:ae)(b a:L)(f:ae):S ae:=LP.lp (unc6 j3T) (e,d,c,b,a,f)
theorem VC(e d c b a f):BP e d c b a f=lpK (j3T e d c b a f) (λh=>BP h.1 h.2.1 h.2.2.1 h.2.2.2.1 h.2.2.2.2.1 h.2.2.2.2.2):=bt _ _
def j2I[LP](a b:ae):S ae:=
 let c:=W a.length
 (BP b 0 a c 0 ([]:ae)).bind λd=>N d
def j5B(b d:ae)(a c:L)(n:ae):S ((ae×ae×L×L×ae) ⊕ (ae)):=
 let r:=W b.length
 let p:=W d.length
 cond (cond (O (a<r)) (O (c<p)) À) (cond (inR a b.length) (let i:=K b a.toNat (0,0)
 cond (inR c d.length) (let m:=K d c.toNat (0,0)
 let k:Int:=if m.1>i.1 then m.1 else i.1
 cond (inR a b.length) (let l:=K b a.toNat (0,0)
 cond (inR c d.length) (let g:=K d c.toNat (0,0)
 let e:Int:=if g.2<l.2 then g.2 else l.2
 cond (O (k<e)) (let j:ae:=[(k,e)]
 cond (O (U n+U j<=aF)) (let f:ae:=n++j
 cond (inR a b.length) (let w:=K b a.toNat (0,0)
 cond (inR c d.length) (let t:=K d c.toNat (0,0)
 cond (O (w.2<t.2)) (let v:=w64 (a+1)
 N (.inl (b,d,v,c,f))) (let u:=w64 (c+1)
 N (.inl (b,d,a,u,f)))) Y) Y) Y) (cond (inR a b.length) (let o:=K b a.toNat (0,0)
 cond (inR c d.length) (let s:=K d c.toNat (0,0)
 cond (O (o.2<s.2)) (let q:=w64 (a+1)
 N (.inl (b,d,q,c,n))) (let x:=w64 (c+1)
 N (.inl (b,d,a,x,n)))) Y) Y)) Y) Y) Y) Y) (N (.inr n))
def zA[LP](b c:ae)(a e:L)(d:ae):S ae:=LP.lp (unc5 j5B) (b,c,a,e,d)
theorem jja(b c a e d):zA b c a e d=lpK (j5B b c a e d) (λh=>zA h.1 h.2.1 h.2.2.1 h.2.2.2.1 h.2.2.2.2):=bt _ _
def jbp[LP](a b:ae):S ae:=(zA a b 0 0 ([]:ae)).bind λc=>N c
def j6x[LP](a:iB)(b:eL)(d c:L):S ae:=cond (inR b.2.1 a.2.length) (let s:=K a.2 b.2.1.toNat (0,([]:ae))
 (j0Q (s.1,s.2) (b.1,(b.2.1,((b.2.2.1.1,b.2.2.1.2),(b.2.2.2.1,(b.2.2.2.2.1,(b.2.2.2.2.2.1,(b.2.2.2.2.2.2.1,(b.2.2.2.2.2.2.2.1,b.2.2.2.2.2.2.2.2)))))))) 0).bind λi=>cond (cond (cond (!i.2) Ã (O (i.1>=c))) Ã (O (d>=c))) (N ([]:ae)) (let e:Int:=if i.1>d then i.1 else d
 let j:ae:=[(e,c)]
 let w:=W b.2.2.2.2.2.2.1.length
 cond (O (w>0)) (cond (inR b.2.1 a.2.length) (let r:=K a.2 b.2.1.toNat (0,([]:ae))
 (j5u (r.1,r.2) b.2.2.2.2.2.2.1 e c).bind λl=>cond (b.2.2.2.2.2.2.2.2==1) (cond (inR b.2.2.2.2.2.2.2.1 a.1.2.2.1.length) (let m:=K a.1.2.2.1 b.2.2.2.2.2.2.2.1.toNat (J,(0,([]:(M L))))
 (j23 ((a.1.1,(a.1.2.1,(a.1.2.2.1,a.1.2.2.2))),a.2) (m.1,(m.2.1,m.2.2)) e c).bind λt=>(j2I l t).bind λv=>N v) Y) (cond (b.2.2.2.2.2.2.2.2==2) (cond (inR b.2.2.2.2.2.2.2.1 a.1.2.2.1.length) (let k:=K a.1.2.2.1 b.2.2.2.2.2.2.2.1.toNat (J,(0,([]:(M L))))
 (j23 ((a.1.1,(a.1.2.1,(a.1.2.2.1,a.1.2.2.2))),a.2) (k.1,(k.2.1,k.2.2)) e c).bind λu=>(jbp l u).bind λx=>N x) Y) (N l))) Y) (cond (b.2.2.2.2.2.2.2.2==1) (cond (inR b.2.2.2.2.2.2.2.1 a.1.2.2.1.length) (let f:=K a.1.2.2.1 b.2.2.2.2.2.2.2.1.toNat (J,(0,([]:(M L))))
 (j23 ((a.1.1,(a.1.2.1,(a.1.2.2.1,a.1.2.2.2))),a.2) (f.1,(f.2.1,f.2.2)) e c).bind λp=>(j2I j p).bind λo=>N o) Y) (cond (b.2.2.2.2.2.2.2.2==2) (cond (inR b.2.2.2.2.2.2.2.1 a.1.2.2.1.length) (let g:=K a.1.2.2.1 b.2.2.2.2.2.2.2.1.toNat (J,(0,([]:(M L))))
 (j23 ((a.1.1,(a.1.2.1,(a.1.2.2.1,a.1.2.2.2))),a.2) (g.1,(g.2.1,g.2.2)) e c).bind λq=>(jbp j q).bind λn=>N n) Y) (N j))))) Y
def j6X[LP](a:fP)(b:L):S Int:=(j5V (a.1,a.2) b).bind λc=>(j4b (a.1,a.2) c).bind λd=>N d
def jg2(a:L):S (L×L):=
 let e:=w64 (È a 86400)
 let i:=Å a 86400
 cond (O (i<0)) (let d:=w64 (e-1)
 let f:=w64 (d*86400)
 let g:=w64 (a-f)
 N (d,g)) (let c:=w64 (e*86400)
 let b:=w64 (a-c)
 N (e,b))
def j0o[LP](a:fP)(b:L):S (L×L):=(j6X (a.1,a.2) b).bind λd=>let e:=w64 (b+d)
 (jg2 e).bind λc=>N (c.1,c.2)
def j3c[LP](o m n:L)(b:ae)(q:X)(j e d c a:L)(k:M L)(i:ae)(f g:L):S ((L×L×L×ae×X×L×L×L×L×L×(M L)×ae×L×L) ⊕ (L×L×L×ae×X×L×L×L×L×L×(M L)×ae×L×L)):=cond (O (m>0)) ((j0Q (n,b) (q,(j,((e,d),(c,(a,(k,(i,(f,g)))))))) m).bind λl=>cond (cond l.2 (O (l.1<=o)) À) (N (.inr (o,m,n,b,q,j,e,d,c,a,k,i,f,g))) (let p:=w64 (m-1)
 N (.inl (o,p,n,b,q,j,e,d,c,a,k,i,f,g)))) (N (.inr (o,m,n,b,q,j,e,d,c,a,k,i,f,g)))
def HD[LP](m n l:L)(b:ae)(o:X)(j e d c a:L)(k:M L)(i:ae)(f g:L):S (L×L×L×ae×X×L×L×L×L×L×(M L)×ae×L×L):=LP.lp (u8 unc6 j3c) (m,n,l,b,o,j,e,d,c,a,k,i,f,g)
theorem VD(m n l b o j e d c a k i f g):HD m n l b o j e d c a k i f g=lpK (j3c m n l b o j e d c a k i f g) (λh=>HD h.1 h.2.1 h.2.2.1 h.2.2.2.1 h.2.2.2.2.1 h.2.2.2.2.2.1 h.2.2.2.2.2.2.1 h.2.2.2.2.2.2.2.1 h.2.2.2.2.2.2.2.2.1 h.2.2.2.2.2.2.2.2.2.1 h.2.2.2.2.2.2.2.2.2.2.1 h.2.2.2.2.2.2.2.2.2.2.2.1 h.2.2.2.2.2.2.2.2.2.2.2.2.1 h.2.2.2.2.2.2.2.2.2.2.2.2.2):=bt _ _
def j4D[LP](q o p:L)(c:ae)(r:X)(k f e d b:L)(l:M L)(j:ae)(g i:L):S ((L×L×L×ae×X×L×L×L×L×L×(M L)×ae×L×L) ⊕ (L)):=
 let m:=w64 (o+1)
 (j0Q (p,c) (r,(k,((f,e),(d,(b,(l,(j,(g,i)))))))) m).bind λa=>cond (cond (!a.2) Ã (O (a.1>q))) (N (.inr o)) (let n:=w64 (o+1)
 N (.inl (q,n,p,c,r,k,f,e,d,b,l,j,g,i)))
def HE[LP](m n l:L)(b:ae)(o:X)(j e d c a:L)(k:M L)(i:ae)(f g:L):S Int:=LP.lp (u8 unc6 j4D) (m,n,l,b,o,j,e,d,c,a,k,i,f,g)
theorem jh4(m n l b o j e d c a k i f g):HE m n l b o j e d c a k i f g=lpK (j4D m n l b o j e d c a k i f g) (λh=>HE h.1 h.2.1 h.2.2.1 h.2.2.2.1 h.2.2.2.2.1 h.2.2.2.2.2.1 h.2.2.2.2.2.2.1 h.2.2.2.2.2.2.2.1 h.2.2.2.2.2.2.2.2.1 h.2.2.2.2.2.2.2.2.2.1 h.2.2.2.2.2.2.2.2.2.2.1 h.2.2.2.2.2.2.2.2.2.2.2.1 h.2.2.2.2.2.2.2.2.2.2.2.2.1 h.2.2.2.2.2.2.2.2.2.2.2.2.2):=bt _ _
def j26[LP](c:fP)(a:eL)(d:L):S Int:=(j0Q (c.1,c.2) (a.1,(a.2.1,((a.2.2.1.1,a.2.2.1.2),(a.2.2.2.1,(a.2.2.2.2.1,(a.2.2.2.2.2.1,(a.2.2.2.2.2.2.1,(a.2.2.2.2.2.2.2.1,a.2.2.2.2.2.2.2.2)))))))) 0).bind λe=>cond (cond (!e.2) Ã (O (e.1>d))) (N (-1)) (cond (a.2.2.2.1==0) (let k:=w64 (d-e.1)
 let i:=w64 (3600*a.2.2.2.2.1)
 cond (!(i==0)) (let j:=w64 (È k i)
 N j) Y) ((j0o (c.1,c.2) d).bind λm=>let n:=w64 (m.1-a.2.2.1.1)
 (j9p (a.1,(a.2.1,((a.2.2.1.1,a.2.2.1.2),(a.2.2.2.1,(a.2.2.2.2.1,(a.2.2.2.2.2.1,(a.2.2.2.2.2.2.1,(a.2.2.2.2.2.2.2.1,a.2.2.2.2.2.2.2.2))))))))).bind λg=>cond (!(g==0)) (let f:=w64 (È n g)
 let l:Int:=if f>0 then f else 0
 (HD d l c.1 c.2 a.1 a.2.1 a.2.2.1.1 a.2.2.1.2 a.2.2.2.1 a.2.2.2.2.1 a.2.2.2.2.2.1 a.2.2.2.2.2.2.1 a.2.2.2.2.2.2.2.1 a.2.2.2.2.2.2.2.2).bind λb=>(HE b.1 b.2.1 b.2.2.1 b.2.2.2.1 b.2.2.2.2.1 b.2.2.2.2.2.1 b.2.2.2.2.2.2.1 b.2.2.2.2.2.2.2.1 b.2.2.2.2.2.2.2.2.1 b.2.2.2.2.2.2.2.2.2.1 b.2.2.2.2.2.2.2.2.2.2.1 b.2.2.2.2.2.2.2.2.2.2.2.1 b.2.2.2.2.2.2.2.2.2.2.2.2.1 b.2.2.2.2.2.2.2.2.2.2.2.2.2).bind λo=>N o) Y))
def j4E(f:aq)(m e:L)(b:aq):S ((aq×L×L×aq) ⊕ (aq)):=cond (O (e<m)) (cond (inR e f.length) (let a:=K f e.toNat (0,(0,0))
 cond (O (a.2.1<=a.1)) (let s:=w64 (e+1)
 N (.inl (f,m,s,b))) (let d:=W b.length
 cond (O (d>0)) (let j:=w64 (d-1)
 cond (inR j b.length) (let t:=(K b j.toNat (0,(0,0))).2.1
 cond (t==a.1) (let i:=w64 (d-1)
 cond (inR i b.length) (let r:=(K b i.toNat (0,(0,0))).2.2
 cond (r==a.2.2) (let c:=w64 (d-1)
 cond (inR c b.length) (let x:aq:=Á b c.toNat ((K b c.toNat (0,(0,0))).1,(a.2.1,(K b c.toNat (0,(0,0))).2.2))
 let p:=w64 (e+1)
 N (.inl (f,m,p,x))) Y) (let l:aq:=[(a.1,(a.2.1,a.2.2))]
 cond (O (U b+U l<=aF)) (let q:aq:=b++l
 let w:=w64 (e+1)
 N (.inl (f,m,w,q))) Y)) Y) (let g:aq:=[(a.1,(a.2.1,a.2.2))]
 cond (O (U b+U g<=aF)) (let v:aq:=b++g
 let n:=w64 (e+1)
 N (.inl (f,m,n,v))) Y)) Y) (let k:aq:=[(a.1,(a.2.1,a.2.2))]
 cond (O (U b+U k<=aF)) (let u:aq:=b++k
 let o:=w64 (e+1)
 N (.inl (f,m,o,u))) Y))) Y) (N (.inr b))
def BQ[LP](c:aq)(a d:L)(b:aq):S aq:=LP.lp (unc4 j4E) (c,a,d,b)
theorem VE(d a b c):BQ d a b c=lpK (j4E d a b c) (λh=>BQ h.1 h.2.1 h.2.2.1 h.2.2.2):=bt _ _
def jbe[LP](a:aq):S aq:=
 let b:=W a.length
 (BQ a b 0 ([]:aq)).bind λc=>N c
def j2N[LP](b6 o b1 r a2 a5:L)(a7:X)(j l m f g:L)(a:M L)(e:ae)(k i p:L)(c:ae)(b0 b:L)(z:aq)(a3:ae):S ((L×L×L×L×L×L×X×L×L×L×L×L×(M L)×ae×L×L×L×ae×L×L×aq×ae) ⊕ (L×L×L×L×L×L×X×L×L×L×L×L×(M L)×ae×L×L×L×ae×aq×ae)):=cond (O (o<b)) (cond (O (o>=r)) ((j26 (p,c) (a7,(j,((l,m),(f,(g,(a,(e,(k,i)))))))) o).bind λd=>let b4:=w64 (d+1)
 (j0Q (p,c) (a7,(j,((l,m),(f,(g,(a,(e,(k,i)))))))) b4).bind λn=>cond (!n.2) (let a6:Int:=if 8589934593<b then 8589934593 else b
 let a0:=W a.length
 cond (!(a0==0)) (let a4:=Å d a0
 cond (inR a4 a.length) (let b5:=K a a4.toNat 0
 let a1:aq:=[(o,(a6,b5))]
 cond (O (U z+U a1<=aF)) (let b7:aq:=z++a1
 N (.inl (b6,a6,d,8589934593,a2,a5,a7,j,l,m,f,g,a,e,k,i,p,c,b0,b,b7,a3))) Y) Y) Y) (let v:Int:=if n.1<b then n.1 else b
 let q:=W a.length
 cond (!(q==0)) (let t:=Å d q
 cond (inR t a.length) (let a9:=K a t.toNat 0
 let u:aq:=[(o,(v,a9))]
 cond (O (U z+U u<=aF)) (let b3:aq:=z++u
 N (.inl (b6,v,d,n.1,a2,a5,a7,j,l,m,f,g,a,e,k,i,p,c,b0,b,b3,a3))) Y) Y) Y)) (let x:Int:=if r<b then r else b
 let w:=W a.length
 cond (!(w==0)) (let y:=Å b1 w
 cond (inR y a.length) (let a8:=K a y.toNat 0
 let s:aq:=[(o,(x,a8))]
 cond (O (U z+U s<=aF)) (let b2:aq:=z++s
 N (.inl (b6,x,b1,r,a2,a5,a7,j,l,m,f,g,a,e,k,i,p,c,b0,b,b2,a3))) Y) Y) Y)) (N (.inr (b6,o,b1,r,a2,a5,a7,j,l,m,f,g,a,e,k,i,p,c,z,a3)))
def ED[LP](w o r n m t:L)(v:X)(g j l d e:L)(k:M L)(c:ae)(i f p:L)(b:ae)(q a:L)(u:aq)(s:ae):S (L×L×L×L×L×L×X×L×L×L×L×L×(M L)×ae×L×L×L×ae×aq×ae):=LP.lp (u8 (u8 unc6) j2N) (w,o,r,n,m,t,v,g,j,l,d,e,k,c,i,f,p,b,q,a,u,s)
theorem jdB(w o r n m t v g j l d e k c i f p b q a u s):ED w o r n m t v g j l d e k c i f p b q a u s=lpK (j2N w o r n m t v g j l d e k c i f p b q a u s) (λh=>ED h.1 h.2.1 h.2.2.1 h.2.2.2.1 h.2.2.2.2.1 h.2.2.2.2.2.1 h.2.2.2.2.2.2.1 h.2.2.2.2.2.2.2.1 h.2.2.2.2.2.2.2.2.1 h.2.2.2.2.2.2.2.2.2.1 h.2.2.2.2.2.2.2.2.2.2.1 h.2.2.2.2.2.2.2.2.2.2.2.1 h.2.2.2.2.2.2.2.2.2.2.2.2.1 h.2.2.2.2.2.2.2.2.2.2.2.2.2.1 h.2.2.2.2.2.2.2.2.2.2.2.2.2.2.1 h.2.2.2.2.2.2.2.2.2.2.2.2.2.2.2.1 h.2.2.2.2.2.2.2.2.2.2.2.2.2.2.2.2.1 h.2.2.2.2.2.2.2.2.2.2.2.2.2.2.2.2.2.1 h.2.2.2.2.2.2.2.2.2.2.2.2.2.2.2.2.2.2.1 h.2.2.2.2.2.2.2.2.2.2.2.2.2.2.2.2.2.2.2.1 h.2.2.2.2.2.2.2.2.2.2.2.2.2.2.2.2.2.2.2.2.1 h.2.2.2.2.2.2.2.2.2.2.2.2.2.2.2.2.2.2.2.2.2):=bt _ _
def j1W[LP](y k x v j d:L)(z:X)(q s u m n:L)(t:M L)(l:ae)(r o w:L)(f:ae)(p:aq)(e:ae):S ((L×L×L×L×L×L×X×L×L×L×L×L×(M L)×ae×L×L×L×ae×aq×ae) ⊕ (L×L×aq)):=cond (O (d<j)) (cond (inR d e.length) (let b:=K e d.toNat (0,0)
 let c:aq:=[(k,(b.1,(-1)))]
 cond (O (U p+U c<=aF)) (let g:aq:=p++c
 (ED y b.1 x v j d z q s u m n t l r o w f b.1 b.2 g e).bind λa=>let i:=w64 (a.2.2.2.2.2.1+1)
 N (.inl (a.1,a.2.1,a.2.2.1,a.2.2.2.1,a.2.2.2.2.1,i,a.2.2.2.2.2.2.1,a.2.2.2.2.2.2.2.1,a.2.2.2.2.2.2.2.2.1,a.2.2.2.2.2.2.2.2.2.1,a.2.2.2.2.2.2.2.2.2.2.1,a.2.2.2.2.2.2.2.2.2.2.2.1,a.2.2.2.2.2.2.2.2.2.2.2.2.1,a.2.2.2.2.2.2.2.2.2.2.2.2.2.1,a.2.2.2.2.2.2.2.2.2.2.2.2.2.2.1,a.2.2.2.2.2.2.2.2.2.2.2.2.2.2.2.1,a.2.2.2.2.2.2.2.2.2.2.2.2.2.2.2.2.1,a.2.2.2.2.2.2.2.2.2.2.2.2.2.2.2.2.2.1,a.2.2.2.2.2.2.2.2.2.2.2.2.2.2.2.2.2.2.1,a.2.2.2.2.2.2.2.2.2.2.2.2.2.2.2.2.2.2.2))) Y) Y) (N (.inr (y,k,p)))
def EE[LP](u n p m l r:L)(t:X)(f i k c d:L)(j:M L)(b:ae)(g e o:L)(a:ae)(s:aq)(q:ae):S (L×L×aq):=LP.lp (u8 (u8 unc4) j1W) (u,n,p,m,l,r,t,f,i,k,c,d,j,b,g,e,o,a,s,q)
theorem VF(u n p m l r t f i k c d j b g e o a s q):EE u n p m l r t f i k c d j b g e o a s q=lpK (j1W u n p m l r t f i k c d j b g e o a s q) (λh=>EE h.1 h.2.1 h.2.2.1 h.2.2.2.1 h.2.2.2.2.1 h.2.2.2.2.2.1 h.2.2.2.2.2.2.1 h.2.2.2.2.2.2.2.1 h.2.2.2.2.2.2.2.2.1 h.2.2.2.2.2.2.2.2.2.1 h.2.2.2.2.2.2.2.2.2.2.1 h.2.2.2.2.2.2.2.2.2.2.2.1 h.2.2.2.2.2.2.2.2.2.2.2.2.1 h.2.2.2.2.2.2.2.2.2.2.2.2.2.1 h.2.2.2.2.2.2.2.2.2.2.2.2.2.2.1 h.2.2.2.2.2.2.2.2.2.2.2.2.2.2.2.1 h.2.2.2.2.2.2.2.2.2.2.2.2.2.2.2.2.1 h.2.2.2.2.2.2.2.2.2.2.2.2.2.2.2.2.2.1 h.2.2.2.2.2.2.2.2.2.2.2.2.2.2.2.2.2.2.1 h.2.2.2.2.2.2.2.2.2.2.2.2.2.2.2.2.2.2.2):=bt _ _
def j2x[LP](b:iB)(a:eL)(c d:L):S aq:=cond (inR a.2.1 b.2.length) (let i:=K b.2 a.2.1.toNat (0,([]:ae))
 (j6x ((b.1.1,(b.1.2.1,(b.1.2.2.1,b.1.2.2.2))),b.2) (a.1,(a.2.1,((a.2.2.1.1,a.2.2.1.2),(a.2.2.2.1,(a.2.2.2.2.1,(a.2.2.2.2.2.1,(a.2.2.2.2.2.2.1,(a.2.2.2.2.2.2.2.1,a.2.2.2.2.2.2.2.2)))))))) c d).bind λf=>let k:=W f.length
 (EE d c (-1) (-1) k 0 a.1 a.2.1 a.2.2.1.1 a.2.2.1.2 a.2.2.2.1 a.2.2.2.2.1 a.2.2.2.2.2.1 a.2.2.2.2.2.2.1 a.2.2.2.2.2.2.2.1 a.2.2.2.2.2.2.2.2 i.1 i.2 ([]:aq) f).bind λe=>let g:aq:=[(e.2.1,(e.1,(-1)))]
 cond (O (U e.2.2+U g<=aF)) (let j:aq:=e.2.2++g
 (jbe j).bind λl=>N l) Y) Y
def j3U(k:L)(f:ax)(d b:L)(g:ae):S ((L×ax×L×L×ae) ⊕ (ae)):=cond (O (b<d)) (cond (inR b f.length) (let a:=K f b.toNat (0,(0,(0,(0,0))))
 cond (cond (a.1==0) (a.2.1==k) À) (let c:ae:=[(a.2.2.2.1,a.2.2.2.2)]
 cond (O (U g+U c<=aF)) (let i:ae:=g++c
 let j:=w64 (b+1)
 N (.inl (k,f,d,j,i))) Y) (let e:=w64 (b+1)
 N (.inl (k,f,d,e,g)))) Y) (N (.inr g))
def EF[LP](c:L)(d:ax)(a b:L)(e:ae):S ae:=LP.lp (unc5 j3U) (c,d,a,b,e)
theorem VG(c d a b e):EF c d a b e=lpK (j3U c d a b e) (λh=>EF h.1 h.2.1 h.2.2.1 h.2.2.2.1 h.2.2.2.2):=bt _ _
def j6z[LP](b:jD)(a:L):S ae:=
 let d:=W b.2.2.length
 (EF a b.2.2 d 0 ([]:ae)).bind λe=>(j9q e).bind λc=>N c
def j3f(n:aq)(l k m b:L)(q:X)(g:an)(d:ax)(s p e:L)(r:dz)(o:aq)(f:ae):S ((aq×L×L×L×L×X×an×ax×L×L×L×dz×aq×ae) ⊕ (aq×L×L×X×an×ax×dz×aq)):=cond (O (b<m)) (cond (inR b f.length) (let a:=K f b.toNat (0,0)
 let c:aq:=[(a.1,(a.2,e))]
 cond (O (U o+U c<=aF)) (let j:aq:=o++c
 let i:=w64 (b+1)
 N (.inl (n,l,k,m,i,q,g,d,s,p,e,r,j,f))) Y) Y) (N (.inr (n,l,k,q,g,d,r,o)))
def zB[LP](k:aq)(g f j i:L)(n:X)(c:an)(a:ax)(m d b:L)(o:dz)(l:aq)(e:ae):S (aq×L×L×X×an×ax×dz×aq):=LP.lp (u8 unc6 j3f) (k,g,f,j,i,n,c,a,m,d,b,o,l,e)
theorem VH(k g f j i n c a m d b o l e):zB k g f j i n c a m d b o l e=lpK (j3f k g f j i n c a m d b o l e) (λh=>zB h.1 h.2.1 h.2.2.1 h.2.2.2.1 h.2.2.2.2.1 h.2.2.2.2.2.1 h.2.2.2.2.2.2.1 h.2.2.2.2.2.2.2.1 h.2.2.2.2.2.2.2.2.1 h.2.2.2.2.2.2.2.2.2.1 h.2.2.2.2.2.2.2.2.2.2.1 h.2.2.2.2.2.2.2.2.2.2.2.1 h.2.2.2.2.2.2.2.2.2.2.2.2.1 h.2.2.2.2.2.2.2.2.2.2.2.2.2):=bt _ _
def j3g[LP](g:aq)(j d:L)(w:X)(f:an)(e:ax)(l:dz)(n:aq):S ((aq×L×L×X×an×ax×dz×aq) ⊕ (aq)):=cond (O (d<j)) (cond (inR d g.length) (let a:=K g d.toNat (0,(0,0))
 cond (O (a.2.2<0)) (let x:=w64 (d+1)
 N (.inl (g,j,x,w,f,e,l,n))) (let z:ae:=gS ([]:ae) l a.2.2
 cond (!(iS l a.2.2)) ((j6z (w,(f,e)) a.2.2).bind λq=>let m:dz:=iq l a.2.2 q
 let s:ae:=[(a.1,a.2.1)]
 let t:ae:=gS ([]:ae) m a.2.2
 (j2I s t).bind λi=>let o:=W i.length
 (zB g j d o 0 w f e a.1 a.2.1 a.2.2 m n i).bind λb=>let r:=w64 (b.2.2.1+1)
 N (.inl (b.1,b.2.1,r,b.2.2.2.1,b.2.2.2.2.1,b.2.2.2.2.2.1,b.2.2.2.2.2.2.1,b.2.2.2.2.2.2.2))) (let p:ae:=[(a.1,a.2.1)]
 let v:ae:=gS ([]:ae) l a.2.2
 (j2I p v).bind λk=>let u:=W k.length
 (zB g j d u 0 w f e a.1 a.2.1 a.2.2 l n k).bind λc=>let y:=w64 (c.2.2.1+1)
 N (.inl (c.1,c.2.1,y,c.2.2.2.1,c.2.2.2.2.1,c.2.2.2.2.2.1,c.2.2.2.2.2.2.1,c.2.2.2.2.2.2.2))))) Y) (N (.inr n))
def BR[LP](e:aq)(d c:L)(g:X)(b:an)(a:ax)(i:dz)(f:aq):S aq:=LP.lp (unc8 j3g) (e,d,c,g,b,a,i,f)
theorem VI(e d c g b a i f):BR e d c g b a i f=lpK (j3g e d c g b a i f) (λh=>BR h.1 h.2.1 h.2.2.1 h.2.2.2.1 h.2.2.2.2.1 h.2.2.2.2.2.1 h.2.2.2.2.2.2.1 h.2.2.2.2.2.2.2):=bt _ _
def j8F[LP](a:jD)(b:aq):S aq:=
 let c:dz:=[]
 let d:=W b.length
 (BR b d 0 a.1 a.2.1 a.2.2 c ([]:aq)).bind λe=>N e
def j57(b:aq)(d:ae)(a c:L)(n:aq):S ((aq×ae×L×L×aq) ⊕ (aq)):=
 let t:=W b.length
 let r:=W d.length
 cond (cond (O (a<t)) (O (c<r)) À) (cond (inR a b.length) (let i:=K b a.toNat (0,(0,0))
 cond (inR c d.length) (let m:=K d c.toNat (0,0)
 let k:Int:=if m.1>i.1 then m.1 else i.1
 cond (inR a b.length) (let l:=K b a.toNat (0,(0,0))
 cond (inR c d.length) (let f:=K d c.toNat (0,0)
 let e:Int:=if f.2<l.2.1 then f.2 else l.2.1
 cond (inR a b.length) (let y:=K b a.toNat (0,(0,0))
 cond (O (k<e)) (let g:aq:=[(k,(e,y.2.2))]
 cond (O (U n+U g<=aF)) (let j:aq:=n++g
 cond (inR a b.length) (let v:=K b a.toNat (0,(0,0))
 cond (inR c d.length) (let w:=K d c.toNat (0,0)
 cond (O (v.2.1<w.2)) (let o:=w64 (a+1)
 N (.inl (b,d,o,c,j))) (let p:=w64 (c+1)
 N (.inl (b,d,a,p,j)))) Y) Y) Y) (cond (inR a b.length) (let u:=K b a.toNat (0,(0,0))
 cond (inR c d.length) (let s:=K d c.toNat (0,0)
 cond (O (u.2.1<s.2)) (let x:=w64 (a+1)
 N (.inl (b,d,x,c,n))) (let q:=w64 (c+1)
 N (.inl (b,d,a,q,n)))) Y) Y)) Y) Y) Y) Y) Y) (N (.inr n))
def zC[LP](b:aq)(c:ae)(a e:L)(d:aq):S aq:=LP.lp (unc5 j57) (b,c,a,e,d)
theorem ji1(b c a e d):zC b c a e d=lpK (j57 b c a e d) (λh=>zC h.1 h.2.1 h.2.2.1 h.2.2.2.1 h.2.2.2.2):=bt _ _
def jcx[LP](b:aq)(a:ae):S aq:=(zC b a 0 0 ([]:aq)).bind λc=>N c
def j4l(f:aq)(i d:L)(g:ae):S ((aq×L×L×ae) ⊕ (ae)):=cond (O (d<i)) (cond (inR d f.length) (let b:=K f d.toNat (0,(0,0))
 let a:ae:=[(b.1,b.2.1)]
 cond (O (U g+U a<=aF)) (let e:ae:=g++a
 let c:=w64 (d+1)
 N (.inl (f,i,c,e))) Y) Y) (N (.inr g))
def EG[LP](c:aq)(d a:L)(b:ae):S ae:=LP.lp (unc4 j4l) (c,d,a,b)
theorem VJ(a d b c):EG a d b c=lpK (j4l a d b c) (λh=>EG h.1 h.2.1 h.2.2.1 h.2.2.2):=bt _ _
def jbt[LP](a:aq):S ae:=
 let c:=W a.length
 (EG a c 0 ([]:ae)).bind λd=>(j9q d).bind λb=>N b
def j2X(a b:uv):S Int:=
 let c:=w64 (a.1-b.1)
 N c
def j0t(a:aq):S aq:=
 wH (.pair (.int .i64) (.pair (.int .i64) (.int .i64))) (λc b=>(j2X c b).getD 0) a
def j2d[LP](s:L)(k:an)(t:ai)(j:aj)(f:al)(l:ao)(e:dz)(w:X)(g:an)(i:ax)(u v:L)(d:ae)(b:aq):S ((L×an×ai×aj×al×ao×dz×X×an×ax×L×L×ae×aq) ⊕ (ae×aq)):=cond (O (s<=0)) (N (.inr (d,b))) (cond (O (s<=W k.length)) (let r:Int:=s-1
 let a:=K k r.toNat (J,(0,((0,0),(0,(0,(([]:(M L)),(([]:ae),(0,0))))))))
 (j2x ((t,(j,(f,l))),e) (a.1,(a.2.1,((a.2.2.1.1,a.2.2.1.2),(a.2.2.2.1,(a.2.2.2.2.1,(a.2.2.2.2.2.1,(a.2.2.2.2.2.2.1,(a.2.2.2.2.2.2.2.1,a.2.2.2.2.2.2.2.2)))))))) u v).bind λm=>(j8F (w,(g,i)) m).bind λo=>(jcx o d).bind λc=>cond (O (U b+U c<=aF)) (let p:aq:=b++c
 (jbt c).bind λq=>(j2I d q).bind λn=>N (.inl ((s-1),k,t,j,f,l,e,w,g,i,u,v,n,p))) Y) Y)
def EH[LP](o:L)(j:an)(m:ai)(i:aj)(g:al)(e:ao)(c:dz)(n:X)(f:an)(d:ax)(l k:L)(b:ae)(a:aq):S (ae×aq):=LP.lp (u8 unc6 j2d) (o,j,m,i,g,e,c,n,f,d,l,k,b,a)
theorem VK(o j m i g e c n f d l k b a):EH o j m i g e c n f d l k b a=lpK (j2d o j m i g e c n f d l k b a) (λh=>EH h.1 h.2.1 h.2.2.1 h.2.2.2.1 h.2.2.2.2.1 h.2.2.2.2.2.1 h.2.2.2.2.2.2.1 h.2.2.2.2.2.2.2.1 h.2.2.2.2.2.2.2.2.1 h.2.2.2.2.2.2.2.2.2.1 h.2.2.2.2.2.2.2.2.2.2.1 h.2.2.2.2.2.2.2.2.2.2.2.1 h.2.2.2.2.2.2.2.2.2.2.2.2.1 h.2.2.2.2.2.2.2.2.2.2.2.2.2):=bt _ _
def j2e(i b:L)(e:ae)(a:aq):S ((L×L×ae×aq) ⊕ (aq)):=cond (O (b<i)) (cond (inR b e.length) (let c:=K e b.toNat (0,0)
 let d:aq:=[(c.1,(c.2,(-1)))]
 cond (O (U a+U d<=aF)) (let g:aq:=a++d
 let f:=w64 (b+1)
 N (.inl (i,f,e,g))) Y) Y) (N (.inr a))
def EI[LP](d c:L)(b:ae)(a:aq):S aq:=LP.lp (unc4 j2e) (d,c,b,a)
theorem VL(d c b a):EI d c b a=lpK (j2e d c b a) (λh=>EI h.1 h.2.1 h.2.2.1 h.2.2.2):=bt _ _
def j5W[LP](b:iB)(d:jD)(a c:L):S aq:=cond (O (a>=c)) (N ([]:aq)) (let j:ae:=[(a,c)]
 (j0R d.2.1).bind λe=>(EH (W e.length) e b.1.1 b.1.2.1 b.1.2.2.1 b.1.2.2.2 b.2 d.1 d.2.1 d.2.2 a c j ([]:aq)).bind λf=>let k:=W f.1.length
 (EI k 0 f.1 f.2).bind λl=>(j0t l).bind λi=>(jbe i).bind λg=>N g)
def j47[LP](b:bR)(a d e:L):S (aq×L):=(j9o (b.1,(b.2.1,(b.2.2.1,b.2.2.2))) a d e).bind λc=>cond (c.2 != 0) (N (([]:aq),c.2)) (cond (inR a b.2.2.2.length) (let f:=K b.2.2.2 a.toNat (J,(([]:an),([]:ax)))
 (j5W ((c.1.1.1,(c.1.1.2.1,(c.1.1.2.2.1,c.1.1.2.2.2))),c.1.2) (f.1,(f.2.1,f.2.2)) d e).bind λg=>let i:=W g.length
 cond (O (i>16384)) (N (([]:aq),5)) (N (g,0))) Y)
def j8i[LP](c:bR)(b:L):S (iB×jD×Ä):=(jh2 (c.1,(c.2.1,(c.2.2.1,c.2.2.2)))).bind λa=>cond (!a.2) (N (((a.1.1.1,(a.1.1.2.1,(a.1.1.2.2.1,a.1.1.2.2.2))),a.1.2),(J,(([]:an),([]:ax))),À)) ((j83 (c.1,(c.2.1,(c.2.2.1,c.2.2.2))) b).bind λe=>cond (!e) (N (((a.1.1.1,(a.1.1.2.1,(a.1.1.2.2.1,a.1.1.2.2.2))),a.1.2),(J,(([]:an),([]:ax))),À)) (cond (inR b c.2.2.2.length) (let d:=K c.2.2.2 b.toNat (J,(([]:an),([]:ax)))
 N (((a.1.1.1,(a.1.1.2.1,(a.1.1.2.2.1,a.1.1.2.2.2))),a.1.2),(d.1,(d.2.1,d.2.2)),Ã)) Y))
def j37(a:L×L):S Int:=(j5x a.1).bind λc=>let b:=w64 (c*86400)
 let d:=w64 (b+a.2)
 N d
def j5X(d:L)(e:ae)(f c:L):S ((L×ae×L×L) ⊕ (Ä ⊕ Ç)):=cond (O (c<f)) (cond (inR c e.length) (let a:=K e c.toNat (0,0)
 cond (cond (O (a.1<=d)) (O (d<a.2)) À) (N (.inr (.inl Ã))) (let b:=w64 (c+1)
 N (.inl (d,e,f,b)))) Y) (N (.inr (.inr ())))
def HF[LP](c:L)(b:ae)(a d:L):S (Ä ⊕ Ç):=LP.lp (unc4 j5X) (c,b,a,d)
theorem VM(b d a c):HF b d a c=lpK (j5X b d a c) (λh=>HF h.1 h.2.1 h.2.2.1 h.2.2.2):=bt _ _
def jkq[LP](a:ae)(b:L):S Bool:=
 let c:=W a.length
 (HF b a c 0).bind λd=>sumC d (λe=>N e) (λf=>N À)
def jaS(a:L):S Bool:=N (a != a)
def jcy(a b:L):S Bool:=(jaS a).bind λd=>cond d ((jaS b).bind λc=>N (cond (!c) Ã (O (a<b)))) (N (O (a<b)))
def j7Q(a:L):S Bool:=N (a != a)
def j1v(b:M L)(d l j m:L):S (((M L)×L×L×L×L) ⊕ ((M L)×L×L×L)):=cond (O (j<m)) (let e:=w64 (j+m)
 let g:Int:=IntKind.wrap .u64 e
 let k:Int:=Í g 2
 let a:=w64 k
 cond (inR a b.length) (let f:=K b a.toNat 0
 (jcy f d).bind λc=>cond c (let i:=w64 (a+1)
 N (.inl (b,d,l,i,m))) (N (.inl (b,d,l,j,a)))) Y) (N (.inr (b,d,l,j)))
def HG[LP](b:M L)(d a e c:L):S ((M L)×L×L×L):=LP.lp (unc5 j1v) (b,d,a,e,c)
theorem j8G(b d a e c):HG b d a e c=lpK (j1v b d a e c) (λh=>HG h.1 h.2.1 h.2.2.1 h.2.2.2.1 h.2.2.2.2):=bt _ _
def j1n[LP](d:M L)(b:L):S (L×Ä):=
 let e:=W d.length
 (HG d b e 0 e).bind λa=>cond ((inR a.2.2.2 a.1.length) || !(O (a.2.2.2<a.2.2.1))) (let c:=K a.1 a.2.2.2.toNat 0
 cond ((inR a.2.2.2 a.1.length) || !((O (a.2.2.2<a.2.2.1))&&(!(c==a.2.1)))) (let i:=K a.1 a.2.2.2.toNat 0
 cond (O (a.2.2.2<a.2.2.1)) (cond (c==a.2.1) (N (a.2.2.2,Ã)) ((j7Q i).bind λg=>cond g ((j7Q a.2.1).bind λf=>N (a.2.2.2,f)) (N (a.2.2.2,À)))) (cond ((c==a.2.1) || !À) (N (a.2.2.2,À)) Y)) Y) Y
def j48[LP](b:iB)(a:eL)(c:L):S (L×Ä):=cond (cond (O (c<0)) Ã (O (c>8589934592))) (N (0,À)) (cond (inR a.2.1 b.2.length) (let g:=K b.2 a.2.1.toNat (0,([]:ae))
 (j26 (g.1,g.2) (a.1,(a.2.1,((a.2.2.1.1,a.2.2.1.2),(a.2.2.2.1,(a.2.2.2.2.1,(a.2.2.2.2.2.1,(a.2.2.2.2.2.2.1,(a.2.2.2.2.2.2.2.1,a.2.2.2.2.2.2.2.2)))))))) c).bind λe=>cond (O (e<0)) (N (0,À)) (let n:=W a.2.2.2.2.2.2.1.length
 cond (O (n>0)) ((j0o (g.1,g.2) c).bind λl=>(j37 (l.1,l.2)).bind λq=>(jkq a.2.2.2.2.2.2.1 q).bind λr=>cond (!r) (N (0,À)) (cond (a.2.2.2.2.2.2.2.2==0) (N (e,Ã)) (cond (inR a.2.2.2.2.2.2.2.1 b.1.2.2.1.length) (let i:=K b.1.2.2.1 a.2.2.2.2.2.2.2.1.toNat (J,(0,([]:(M L))))
 cond (inR i.2.1 b.2.length) (let m:=K b.2 i.2.1.toNat (0,([]:ae))
 (j0o (m.1,m.2) c).bind λp=>(j1n i.2.2 p.1).bind λo=>N (e,(o.2==(a.2.2.2.2.2.2.2.2==2)))) Y) Y))) (cond (a.2.2.2.2.2.2.2.2==0) (N (e,Ã)) (cond (inR a.2.2.2.2.2.2.2.1 b.1.2.2.1.length) (let d:=K b.1.2.2.1 a.2.2.2.2.2.2.2.1.toNat (J,(0,([]:(M L))))
 cond (inR d.2.1 b.2.length) (let f:=K b.2 d.2.1.toNat (0,([]:ae))
 (j0o (f.1,f.2) c).bind λk=>(j1n d.2.2 k.1).bind λj=>N (e,(j.2==(a.2.2.2.2.2.2.2.2==2)))) Y) Y)))) Y)
def j27[LP](b:iB)(a:eL)(f:L):S Int:=(j48 ((b.1.1,(b.1.2.1,(b.1.2.2.1,b.1.2.2.2))),b.2) (a.1,(a.2.1,((a.2.2.1.1,a.2.2.1.2),(a.2.2.2.1,(a.2.2.2.2.1,(a.2.2.2.2.2.1,(a.2.2.2.2.2.2.1,(a.2.2.2.2.2.2.2.1,a.2.2.2.2.2.2.2.2)))))))) f).bind λc=>cond (!c.2) (N (-1)) (let d:=W a.2.2.2.2.2.1.length
 cond (!(d==0)) (let e:=Å c.1 d
 cond (inR e a.2.2.2.2.2.1.length) (let g:=K a.2.2.2.2.2.1 e.toNat 0
 N g) Y) Y)
def je7(a:oX)(d c:L):S Bool:=
 let b:Bool:=cond (cond (a.1==0) (a.2.1==d) À) (O (a.2.2.2.1<=c)) À
 N (cond b (O (c<a.2.2.2.2)) À)
def j0v(f:ax)(g c i b:L):S ((ax×L×L×L×L) ⊕ (L ⊕ Ç)):=cond (O (b<i)) (cond (inR b f.length) (let a:=K f b.toNat (0,(0,(0,(0,0))))
 (je7 (a.1,(a.2.1,(a.2.2.1,(a.2.2.2.1,a.2.2.2.2)))) g c).bind λd=>cond d (N (.inr (.inl b))) (let e:=w64 (b+1)
 N (.inl (f,g,c,i,e)))) Y) (N (.inr (.inr ())))
def EJ[LP](b:ax)(d a e c:L):S (L ⊕ Ç):=LP.lp (unc5 j0v) (b,d,a,e,c)
theorem VN(b d a e c):EJ b d a e c=lpK (j0v b d a e c) (λh=>EJ h.1 h.2.1 h.2.2.1 h.2.2.2.1 h.2.2.2.2):=bt _ _
def j2p[LP](a:ax)(c b:L):S Int:=
 let d:=W a.length
 (EJ a c b d 0).bind λe=>sumC e (λf=>N f) (λg=>N (-1))
def j1X[LP](c:ax)(b a:L):S Bool:=(j2p c b a).bind λd=>N (O (d>=0))
def jbf[LP](c:jD)(a b:L):S Bool:=(j1X c.2.2 a b).bind λd=>N d
def j3h[LP](l:L)(j:an)(o:ai)(c:aj)(g:al)(e:ao)(d:dz)(r:X)(i:an)(f:ax)(n q p:L):S ((L×an×ai×aj×al×ao×dz×X×an×ax×L×L×L) ⊕ ((L×L) ⊕ (L×L))):=cond (O (l<=0)) (N (.inr (.inl (q,p)))) (cond (O (l<=W j.length)) (let k:Int:=l-1
 let a:=K j k.toNat (J,(0,((0,0),(0,(0,(([]:(M L)),(([]:ae),(0,0))))))))
 (j27 ((o,(c,(g,e))),d) (a.1,(a.2.1,((a.2.2.1.1,a.2.2.1.2),(a.2.2.2.1,(a.2.2.2.2.1,(a.2.2.2.2.2.1,(a.2.2.2.2.2.2.1,(a.2.2.2.2.2.2.2.1,a.2.2.2.2.2.2.2.2)))))))) n).bind λb=>cond (O (b<0)) (N (.inl ((l-1),j,o,c,g,e,d,r,i,f,n,q,p))) ((jbf (r,(i,f)) b n).bind λm=>cond (!m) (N (.inr (.inr (k,b)))) (N (.inl ((l-1),j,o,c,g,e,d,r,i,f,n,q,p))))) Y)
def EK[LP](n:L)(g:an)(i:ai)(a:aj)(e:al)(c:ao)(b:dz)(l:X)(f:an)(d:ax)(m k j:L):S ((L×L) ⊕ (L×L)):=LP.lp (u8 unc5 j3h) (n,g,i,a,e,c,b,l,f,d,m,k,j)
theorem VO(n g i a e c b l f d m k j):EK n g i a e c b l f d m k j=lpK (j3h n g i a e c b l f d m k j) (λh=>EK h.1 h.2.1 h.2.2.1 h.2.2.2.1 h.2.2.2.2.1 h.2.2.2.2.2.1 h.2.2.2.2.2.2.1 h.2.2.2.2.2.2.2.1 h.2.2.2.2.2.2.2.2.1 h.2.2.2.2.2.2.2.2.2.1 h.2.2.2.2.2.2.2.2.2.2.1 h.2.2.2.2.2.2.2.2.2.2.2.1 h.2.2.2.2.2.2.2.2.2.2.2.2):=bt _ _
def j5C[LP](a:iB)(b:jD)(d:L):S (L×L):=(j0R b.2.1).bind λc=>(EK (W c.length) c a.1.1 a.1.2.1 a.1.2.2.1 a.1.2.2.2 a.2 b.1 b.2.1 b.2.2 d 0 0).bind λe=>sumC e (λg=>N ((-1),(-1))) (λf=>N (f.1,f.2))
def j7y[LP](c:bR)(b d:L):S Int:=(j8i (c.1,(c.2.1,(c.2.2.1,c.2.2.2))) b).bind λa=>cond (!a.2.2) (N (-1)) ((j5C ((a.1.1.1,(a.1.1.2.1,(a.1.1.2.2.1,a.1.1.2.2.2))),a.1.2) (a.2.1.1,(a.2.1.2.1,a.2.1.2.2)) d).bind λe=>N e.2)
def j6A[LP](c:bR)(b d:L):S Int:=(j8i (c.1,(c.2.1,(c.2.2.1,c.2.2.2))) b).bind λa=>cond (!a.2.2) (N (-1)) ((j5C ((a.1.1.1,(a.1.1.2.1,(a.1.1.2.2.1,a.1.1.2.2.2))),a.1.2) (a.2.1.1,(a.2.1.2.1,a.2.1.2.2)) d).bind λe=>N e.1)
def jg3[LP]  : S Bool:=(jgZ).bind λa=>(jgZ).bind λd=>let m:ax:=[(0,(2,(0,(950400,1036800))))]
 cond (inR 0 d.2.2.2.length) (let b:ao:=Á d.2.2.2 0 ((K d.2.2.2 0 (J,(([]:an),([]:ax)))).1,((K d.2.2.2 0 (J,(([]:an),([]:ax)))).2.1,m))
 (j47 (a.1,(a.2.1,(a.2.2.1,a.2.2.2))) 0 950400 1123200).bind λc=>cond (c.2==0) ((j7y (a.1,(a.2.1,(a.2.2.1,a.2.2.2))) 0 950400).bind λi=>cond (i==2) ((j7y (d.1,(d.2.1,(d.2.2.1,b))) 0 950400).bind λl=>cond (l==1) ((j7y (a.1,(a.2.1,(a.2.2.1,a.2.2.2))) 0 1036800).bind λk=>cond (k==1) ((j6A (a.1,(a.2.1,(a.2.2.1,a.2.2.2))) 0 950400).bind λf=>let g:=W c.1.length
 cond ((inR 0 b.length) || !(cond (f==1) (g==2) À)) (let e:=K b 0 (J,(([]:an),([]:ax)))
 cond (cond (f==1) (g==2) À) ((jbf (e.1,(e.2.1,e.2.2)) 2 950400).bind λj=>N j) (N À)) Y) (let u:=W c.1.length
 cond ((inR 0 b.length) || !À) (let p:=K b 0 (J,(([]:an),([]:ax)))
 N À) Y)) (let r:=W c.1.length
 cond ((inR 0 b.length) || !À) (let q:=K b 0 (J,(([]:an),([]:ax)))
 N À) Y)) (let o:=W c.1.length
 cond ((inR 0 b.length) || !À) (let n:=K b 0 (J,(([]:an),([]:ax)))
 N À) Y)) (let s:=W c.1.length
 cond ((inR 0 b.length) || !À) (let t:=K b 0 (J,(([]:an),([]:ax)))
 N À) Y)) Y
def jlf(a:M L):S ((M L)×L):=N (a,0)
def j02(b:M L)(a c:L):S (L×(M L)×L):=
 let g:=W b.length
 cond (O (a>=g)) (N (0,b,a)) (cond (O (c<1)) (N (0,b,a)) (cond (inR a b.length) (let f:=K b a.toNat 0
 cond (!(c==0)) (let d:=Å f c
 let e:=w64 (a+1)
 cond (O (d<0)) (let i:=w64 (d+c)
 N (i,b,e)) (N (d,b,e))) Y) Y))
def j03(d:M L)(b:L)(a:M L):S (L×(M L)×L):=
 let f:=W a.length
 (j02 d b f).bind λc=>cond (inR c.1 a.length) (let e:=K a c.1.toNat 0
 N (e,c.2.1,c.2.2)) Y
def j9L(a0:M L)(p:L)(a:X):S (dR×(M L)×L):=
 let b4:M Int:=[0,4,(-20),22,48,(-47)]
 (j03 a0 p b4).bind λr=>(j02 r.2.1 r.2.2 2).bind λx=>(j02 x.2.1 x.2.2 3).bind λw=>let a8:=w64 (x.1*w.1)
 let b1:=w64 (r.1+a8)
 let c:=w64 (900*b1)
 (j02 w.2.1 w.2.2 2).bind λi=>let g:=w64 (2025+i.1)
 (j02 i.2.1 i.2.2 4).bind λb=>cond (b.1==1) (let a3:=w64 (c+3600)
 let a6:aX:=[(2025,(g,(3,(5,(6,(7200,a3)))))),(2025,(g,(10,(5,(6,(10800,c))))))]
 N ((a,(c,a6)),b.2.1,b.2.2)) (cond (b.1==2) ((j02 b.2.1 b.2.2 4).bind λm=>let b5:=w64 (1+m.1)
 (j02 m.2.1 m.2.2 7).bind λs=>(j02 s.2.1 s.2.2 24).bind λv=>let b6:=w64 (3600*v.1)
 (j02 v.2.1 v.2.2 8).bind λl=>let b7:=w64 (1+l.1)
 let a1:=w64 (1800*b7)
 let a7:=w64 (c+a1)
 (j02 l.2.1 l.2.2 2).bind λt=>let a2:=w64 (2+t.1)
 let b0:M Int:=[2,3,5]
 (j03 t.2.1 t.2.2 b0).bind λk=>(j02 k.2.1 k.2.2 7).bind λj=>(j02 j.2.1 j.2.2 24).bind λu=>let b3:=w64 (3600*u.1)
 let b2:aX:=[(2025,(g,(1,(b5,(s.1,(b6,a7)))))),(2025,(g,(a2,(k.1,(j.1,(b3,c))))))]
 N ((a,(c,b2)),u.2.1,u.2.2)) (cond (b.1==3) (let a4:M Int:=[3600,(-3600),82800,(-82800),43200]
 (j03 b.2.1 b.2.2 a4).bind λf=>let n:=w64 (c+f.1)
 cond (cond (O (n>64800)) Ã (O (n<(-64800)))) ((j02 f.2.1 f.2.2 7).bind λq=>(j02 q.2.1 q.2.2 48).bind λo=>let a5:=w64 (1800*o.1)
 let a9:aX:=[(2026,(2026,(1,(2,(q.1,(a5,0))))))]
 N ((a,(c,a9)),o.2.1,o.2.2)) ((j02 f.2.1 f.2.2 7).bind λd=>(j02 d.2.1 d.2.2 48).bind λe=>let y:=w64 (1800*e.1)
 let z:aX:=[(2026,(2026,(1,(2,(d.1,(y,n))))))]
 N ((a,(c,z)),e.2.1,e.2.2))) (N ((a,(c,([]:aX))),b.2.1,b.2.2))))
def jdD  : S (M X):=
 let a:M ByteArray:=[(Z #[97,100,97]),(Z #[98,111,98]),(Z #[99,108,101,111]),(Z #[100,97,110]),(Z #[101,118,101]),(Z #[102,97,121]),(Z #[103,117,115]),(Z #[104,97,108])]
 N a
def j1d(d:M L)(b a:L):S (Ä×(M L)×L):=(j02 d b a).bind λc=>let e:=w64 (a-1)
 N ((c.1==e),c.2.1,c.2.2)
def j24(r p:L)(q:M L)(g:L)(o:ae):S ((L×L×(M L)×L×ae) ⊕ ((M L)×L×ae)):=cond (O (p>0)) ((j02 q g 30).bind λc=>let m:=w64 (3600*c.1)
 let j:=w64 (r+m)
 (j02 c.2.1 c.2.2 2).bind λb=>let k:=w64 (60*b.1)
 let e:=w64 (j+k)
 let i:M Int:=[3600,28800,43200,86400,61,1]
 (j03 b.2.1 b.2.2 i).bind λa=>let d:=w64 (e+a.1)
 cond (O (d>604800)) (N (.inr (a.2.1,a.2.2,o))) (let f:ae:=[(e,d)]
 cond (O (U o+U f<=aF)) (let l:ae:=o++f
 let n:=w64 (p-1)
 N (.inl (d,n,a.2.1,a.2.2,l))) Y)) (N (.inr (q,g,o)))
def HH[LP](e b:L)(c:M L)(a:L)(d:ae):S ((M L)×L×ae):=LP.lp (unc5 j24) (e,b,c,a,d)
theorem VP(e b c a d):HH e b c a d=lpK (j24 e b c a d) (λh=>HH h.1 h.2.1 h.2.2.1 h.2.2.2.1 h.2.2.2.2):=bt _ _
def j4c[LP](d:M L)(a:L):S (ae×(M L)×L):=(j02 d a 4).bind λb=>(HH 0 b.1 b.2.1 b.2.2 ([]:ae)).bind λc=>N (c.2.2,c.1,c.2.1)
def j2y(l:L)(k:M L)(f:L)(b:ai):S ((L×(M L)×L×ai) ⊕ ((M L)×L×ai)):=cond (O (l>0)) (let c:M ByteArray:=[(Z #[104,101,114,101]),(Z #[116,104,101,114,101])]
 let d:=W b.length
 cond (inR d c.length) (let j:=K c d.toNat J
 (j9L k f j).bind λa=>let e:ai:=[(a.1.1,(a.1.2.1,a.1.2.2))]
 cond (O (U b+U e<=aF)) (let g:ai:=b++e
 let i:=w64 (l-1)
 N (.inl (i,a.2.1,a.2.2,g))) Y) Y) (N (.inr (k,f,b)))
def HI[LP](c:L)(d:M L)(b:L)(a:ai):S ((M L)×L×ai):=LP.lp (unc4 j2y) (c,d,b,a)
theorem VQ(d c a b):HI d c a b=lpK (j2y d c a b) (λh=>HI h.1 h.2.1 h.2.2.1 h.2.2.2):=bt _ _
def j2z[LP](a4:L)(a5:M L)(q:L)(i:ai)(b:aj):S ((L×(M L)×L×ai×aj) ⊕ ((M L)×L×ai×aj)):=cond (O (a4>0)) ((jdD).bind λn=>let o:=W b.length
 cond (inR o n.length) (let p:=K n o.toNat J
 let z:=W i.length
 (j02 a5 q z).bind λd=>(j1d d.2.1 d.2.2 3).bind λc=>(j1d c.2.1 c.2.2 2).bind λa=>cond a.1 ((j4c a.2.1 a.2.2).bind λf=>let x:M Int:=[0,40,100,12]
 (j03 f.2.1 f.2.2 x).bind λe=>let y:=w64 (3600*e.1)
 let a0:M Int:=[0,11,24,1]
 (j03 e.2.1 e.2.2 a0).bind λk=>let a1:=w64 (3600*k.1)
 let l:aj:=[(p,(d.1,(f.1,(y,(a1,c.1)))))]
 cond (O (U b+U l<=aF)) (let a3:aj:=b++l
 let r:=w64 (a4-1)
 N (.inl (r,k.2.1,k.2.2,i,a3))) Y) (let u:M Int:=[0,40,100,12]
 (j03 a.2.1 a.2.2 u).bind λj=>let s:=w64 (3600*j.1)
 let v:M Int:=[0,11,24,1]
 (j03 j.2.1 j.2.2 v).bind λg=>let t:=w64 (3600*g.1)
 let m:aj:=[(p,(d.1,(([]:ae),(s,(t,c.1)))))]
 cond (O (U b+U m<=aF)) (let a2:aj:=b++m
 let w:=w64 (a4-1)
 N (.inl (w,g.2.1,g.2.2,i,a2))) Y)) Y) (N (.inr (a5,q,i,b)))
def HJ[LP](d:L)(e:M L)(b:L)(c:ai)(a:aj):S ((M L)×L×ai×aj):=LP.lp (unc5 j2z) (d,e,b,c,a)
theorem VR(d e b c a):HJ d e b c a=lpK (j2z d e b c a) (λh=>HJ h.1 h.2.1 h.2.2.1 h.2.2.2.1 h.2.2.2.2):=bt _ _
def j2A(q p m:L)(o:M L)(e:L)(n:X)(f:L)(j:ai)(d:aj)(i:al)(c:M L):S ((L×L×L×(M L)×L×X×L×ai×aj×al×(M L)) ⊕ (L×(M L)×L×X×L×ai×aj×al×(M L))):=cond (O (p>0)) ((j02 o e 6).bind λa=>let k:=w64 (1+a.1)
 let b:=w64 (m+k)
 cond (O (U c+U [b]<=aF)) (let g:M Int:=c++[b]
 let l:=w64 (p-1)
 N (.inl (q,l,b,a.2.1,a.2.2,n,f,j,d,i,g))) Y) (N (.inr (q,o,e,n,f,j,d,i,c)))
def HK[LP](l k g:L)(j:M L)(c:L)(i:X)(d:L)(f:ai)(b:aj)(e:al)(a:M L):S (L×(M L)×L×X×L×ai×aj×al×(M L)):=LP.lp (u8 unc3 j2A) (l,k,g,j,c,i,d,f,b,e,a)
theorem VS(l k g j c i d f b e a):HK l k g j c i d f b e a=lpK (j2A l k g j c i d f b e a) (λh=>HK h.1 h.2.1 h.2.2.1 h.2.2.2.1 h.2.2.2.2.1 h.2.2.2.2.2.1 h.2.2.2.2.2.2.1 h.2.2.2.2.2.2.2.1 h.2.2.2.2.2.2.2.2.1 h.2.2.2.2.2.2.2.2.2.1 h.2.2.2.2.2.2.2.2.2.2):=bt _ _
def j2B[LP](n:L)(m:M L)(g:L)(e:ai)(f:aj)(j:al):S ((L×(M L)×L×ai×aj×al) ⊕ ((M L)×L×ai×aj×al)):=cond (O (n>0)) (let k:=W e.length
 (j02 m g k).bind λb=>(j02 b.2.1 b.2.2 4).bind λc=>(HK n c.1 20454 c.2.1 c.2.2 (Z #[100,97,121,115]) b.1 e f j ([]:(M L))).bind λa=>let d:al:=[(a.2.2.2.1,(a.2.2.2.2.1,a.2.2.2.2.2.2.2.2))]
 cond (O (U a.2.2.2.2.2.2.2.1+U d<=aF)) (let i:al:=a.2.2.2.2.2.2.2.1++d
 let l:=w64 (a.1-1)
 N (.inl (l,a.2.1,a.2.2.1,a.2.2.2.2.2.1,a.2.2.2.2.2.2.1,i))) Y) (N (.inr (m,g,e,f,j)))
def HM[LP](f:L)(e:M L)(b:L)(d:ai)(a:aj)(c:al):S ((M L)×L×ai×aj×al):=LP.lp (unc6 j2B) (f,e,b,d,a,c)
theorem VT(f e b d a c):HM f e b d a c=lpK (j2B f e b d a c) (λh=>HM h.1 h.2.1 h.2.2.1 h.2.2.2.1 h.2.2.2.2.1 h.2.2.2.2.2):=bt _ _
def j8I[LP](g:M L)(b:L):S (bR×(M L)×L):=(j02 g b 2).bind λc=>let j:=w64 (1+c.1)
 (HI j c.2.1 c.2.2 ([]:ai)).bind λi=>(j02 i.1 i.2.1 4).bind λd=>let k:=w64 (1+d.1)
 (HJ k d.2.1 d.2.2 i.2.2 ([]:aj)).bind λf=>(j02 f.1 f.2.1 2).bind λa=>(HM a.1 a.2.1 a.2.2 f.2.2.1 f.2.2.2 ([]:al)).bind λe=>N ((e.2.2.1,(e.2.2.2.1,(e.2.2.2.2,([]:ao)))),e.1,e.2.1)
def j2C(a2:L)(a1:M L)(n:L)(y:ai)(c:aj)(e:al)(s:ao)(z:X)(i q f l k g d:L)(a0:X)(r t j p m u o:L)(b:M L):S ((L×(M L)×L×ai×aj×al×ao×X×L×L×L×L×L×L×L×X×L×L×L×L×L×L×L×(M L)) ⊕ ((M L)×L×ai×aj×al×ao×X×L×L×L×L×L×L×L×X×L×L×L×L×L×L×L×(M L))):=cond (O (a2>0)) (let w:=W c.length
 (j02 a1 n w).bind λa=>cond (O (U b+U [a.1]<=aF)) (let v:M Int:=b++[a.1]
 let x:=w64 (a2-1)
 N (.inl (x,a.2.1,a.2.2,y,c,e,s,z,i,q,f,l,k,g,d,a0,r,t,j,p,m,u,o,v))) Y) (N (.inr (a1,n,y,c,e,s,z,i,q,f,l,k,g,d,a0,r,t,j,p,m,u,o,b)))
def EL[LP](y:L)(x:M L)(k:L)(u:ai)(n:aj)(b:al)(r:ao)(v:X)(e p c i g d a:L)(w:X)(q s f o j t m:L)(l:M L):S ((M L)×L×ai×aj×al×ao×X×L×L×L×L×L×L×L×X×L×L×L×L×L×L×L×(M L)):=LP.lp (u8 (u8 unc8) j2C) (y,x,k,u,n,b,r,v,e,p,c,i,g,d,a,w,q,s,f,o,j,t,m,l)
theorem VU(y x k u n b r v e p c i g d a w q s f o j t m l):EL y x k u n b r v e p c i g d a w q s f o j t m l=lpK (j2C y x k u n b r v e p c i g d a w q s f o j t m l) (λh=>EL h.1 h.2.1 h.2.2.1 h.2.2.2.1 h.2.2.2.2.1 h.2.2.2.2.2.1 h.2.2.2.2.2.2.1 h.2.2.2.2.2.2.2.1 h.2.2.2.2.2.2.2.2.1 h.2.2.2.2.2.2.2.2.2.1 h.2.2.2.2.2.2.2.2.2.2.1 h.2.2.2.2.2.2.2.2.2.2.2.1 h.2.2.2.2.2.2.2.2.2.2.2.2.1 h.2.2.2.2.2.2.2.2.2.2.2.2.2.1 h.2.2.2.2.2.2.2.2.2.2.2.2.2.2.1 h.2.2.2.2.2.2.2.2.2.2.2.2.2.2.2.1 h.2.2.2.2.2.2.2.2.2.2.2.2.2.2.2.2.1 h.2.2.2.2.2.2.2.2.2.2.2.2.2.2.2.2.2.1 h.2.2.2.2.2.2.2.2.2.2.2.2.2.2.2.2.2.2.1 h.2.2.2.2.2.2.2.2.2.2.2.2.2.2.2.2.2.2.2.1 h.2.2.2.2.2.2.2.2.2.2.2.2.2.2.2.2.2.2.2.2.1 h.2.2.2.2.2.2.2.2.2.2.2.2.2.2.2.2.2.2.2.2.2.1 h.2.2.2.2.2.2.2.2.2.2.2.2.2.2.2.2.2.2.2.2.2.2.1 h.2.2.2.2.2.2.2.2.2.2.2.2.2.2.2.2.2.2.2.2.2.2.2):=bt _ _
def j8J[LP](b5:M L)(a3:L)(c:bR)(j:X):S (eL×(M L)×L):=
 let c0:=W c.1.length
 (j02 b5 a3 c0).bind λw=>(j02 w.2.1 w.2.2 6).bind λa1=>let c3:=w64 (20454+a1.1)
 let b4:=w64 (c3-2)
 let c4:M Int:=[0,32400,7200,9000,79200,1]
 (j03 a1.2.1 a1.2.2 c4).bind λv=>(j02 v.2.1 v.2.2 3).bind λs=>(j02 s.2.1 s.2.2 2).bind λr=>let c2:=w64 (1+r.1)
 cond (s.1==0) (let b9:M Int:=[6,8,12,24,23,49]
 (j03 r.2.1 r.2.2 b9).bind λy=>(j02 y.2.1 y.2.2 3).bind λz=>let b7:=w64 (1+z.1)
 (EL b7 z.2.1 z.2.2 c.1 c.2.1 c.2.2.1 c.2.2.2 J 0 0 0 0 0 0 0 j w.1 b4 v.1 s.1 y.1 0 0 ([]:(M L))).bind λb=>(j1d b.1 b.2.1 2).bind λt=>cond t.1 ((j4c t.2.1 t.2.2).bind λx=>(j1d x.2.1 x.2.2 4).bind λu=>let c1:=W b.2.2.2.2.1.length
 cond (cond u.1 (O (c1>0)) À) (let b8:=W b.2.2.2.2.1.length
 (j02 u.2.1 u.2.2 b8).bind λa2=>(j02 a2.2.1 a2.2.2 2).bind λa0=>let b6:=w64 (1+a0.1)
 N ((b.2.2.2.2.2.2.2.2.2.2.2.2.2.2.1,(b.2.2.2.2.2.2.2.2.2.2.2.2.2.2.2.1,((b.2.2.2.2.2.2.2.2.2.2.2.2.2.2.2.2.1,b.2.2.2.2.2.2.2.2.2.2.2.2.2.2.2.2.2.1),(b.2.2.2.2.2.2.2.2.2.2.2.2.2.2.2.2.2.2.1,(b.2.2.2.2.2.2.2.2.2.2.2.2.2.2.2.2.2.2.2.1,(b.2.2.2.2.2.2.2.2.2.2.2.2.2.2.2.2.2.2.2.2.2.2,(x.1,(a2.1,b6)))))))),a0.2.1,a0.2.2)) (N ((b.2.2.2.2.2.2.2.2.2.2.2.2.2.2.1,(b.2.2.2.2.2.2.2.2.2.2.2.2.2.2.2.1,((b.2.2.2.2.2.2.2.2.2.2.2.2.2.2.2.2.1,b.2.2.2.2.2.2.2.2.2.2.2.2.2.2.2.2.2.1),(b.2.2.2.2.2.2.2.2.2.2.2.2.2.2.2.2.2.2.1,(b.2.2.2.2.2.2.2.2.2.2.2.2.2.2.2.2.2.2.2.1,(b.2.2.2.2.2.2.2.2.2.2.2.2.2.2.2.2.2.2.2.2.2.2,(x.1,(b.2.2.2.2.2.2.2.2.2.2.2.2.2.2.2.2.2.2.2.2.1,b.2.2.2.2.2.2.2.2.2.2.2.2.2.2.2.2.2.2.2.2.2.1)))))))),u.2.1,u.2.2))) ((j1d t.2.1 t.2.2 4).bind λe=>let a8:=W b.2.2.2.2.1.length
 cond (cond e.1 (O (a8>0)) À) (let a9:=W b.2.2.2.2.1.length
 (j02 e.2.1 e.2.2 a9).bind λp=>(j02 p.2.1 p.2.2 2).bind λk=>let a5:=w64 (1+k.1)
 N ((b.2.2.2.2.2.2.2.2.2.2.2.2.2.2.1,(b.2.2.2.2.2.2.2.2.2.2.2.2.2.2.2.1,((b.2.2.2.2.2.2.2.2.2.2.2.2.2.2.2.2.1,b.2.2.2.2.2.2.2.2.2.2.2.2.2.2.2.2.2.1),(b.2.2.2.2.2.2.2.2.2.2.2.2.2.2.2.2.2.2.1,(b.2.2.2.2.2.2.2.2.2.2.2.2.2.2.2.2.2.2.2.1,(b.2.2.2.2.2.2.2.2.2.2.2.2.2.2.2.2.2.2.2.2.2.2,(([]:ae),(p.1,a5)))))))),k.2.1,k.2.2)) (N ((b.2.2.2.2.2.2.2.2.2.2.2.2.2.2.1,(b.2.2.2.2.2.2.2.2.2.2.2.2.2.2.2.1,((b.2.2.2.2.2.2.2.2.2.2.2.2.2.2.2.2.1,b.2.2.2.2.2.2.2.2.2.2.2.2.2.2.2.2.2.1),(b.2.2.2.2.2.2.2.2.2.2.2.2.2.2.2.2.2.2.1,(b.2.2.2.2.2.2.2.2.2.2.2.2.2.2.2.2.2.2.2.1,(b.2.2.2.2.2.2.2.2.2.2.2.2.2.2.2.2.2.2.2.2.2.2,(([]:ae),(b.2.2.2.2.2.2.2.2.2.2.2.2.2.2.2.2.2.2.2.2.1,b.2.2.2.2.2.2.2.2.2.2.2.2.2.2.2.2.2.2.2.2.2.1)))))))),e.2.1,e.2.2)))) ((j02 r.2.1 r.2.2 3).bind λn=>let a4:=w64 (1+n.1)
 (EL a4 n.2.1 n.2.2 c.1 c.2.1 c.2.2.1 c.2.2.2 J 0 0 0 0 0 0 0 j w.1 b4 v.1 s.1 c2 0 0 ([]:(M L))).bind λa=>(j1d a.1 a.2.1 2).bind λd=>cond d.1 ((j4c d.2.1 d.2.2).bind λi=>(j1d i.2.1 i.2.2 4).bind λf=>let a6:=W a.2.2.2.2.1.length
 cond (cond f.1 (O (a6>0)) À) (let b1:=W a.2.2.2.2.1.length
 (j02 f.2.1 f.2.2 b1).bind λq=>(j02 q.2.1 q.2.2 2).bind λl=>let b3:=w64 (1+l.1)
 N ((a.2.2.2.2.2.2.2.2.2.2.2.2.2.2.1,(a.2.2.2.2.2.2.2.2.2.2.2.2.2.2.2.1,((a.2.2.2.2.2.2.2.2.2.2.2.2.2.2.2.2.1,a.2.2.2.2.2.2.2.2.2.2.2.2.2.2.2.2.2.1),(a.2.2.2.2.2.2.2.2.2.2.2.2.2.2.2.2.2.2.1,(a.2.2.2.2.2.2.2.2.2.2.2.2.2.2.2.2.2.2.2.1,(a.2.2.2.2.2.2.2.2.2.2.2.2.2.2.2.2.2.2.2.2.2.2,(i.1,(q.1,b3)))))))),l.2.1,l.2.2)) (N ((a.2.2.2.2.2.2.2.2.2.2.2.2.2.2.1,(a.2.2.2.2.2.2.2.2.2.2.2.2.2.2.2.1,((a.2.2.2.2.2.2.2.2.2.2.2.2.2.2.2.2.1,a.2.2.2.2.2.2.2.2.2.2.2.2.2.2.2.2.2.1),(a.2.2.2.2.2.2.2.2.2.2.2.2.2.2.2.2.2.2.1,(a.2.2.2.2.2.2.2.2.2.2.2.2.2.2.2.2.2.2.2.1,(a.2.2.2.2.2.2.2.2.2.2.2.2.2.2.2.2.2.2.2.2.2.2,(i.1,(a.2.2.2.2.2.2.2.2.2.2.2.2.2.2.2.2.2.2.2.2.1,a.2.2.2.2.2.2.2.2.2.2.2.2.2.2.2.2.2.2.2.2.2.1)))))))),f.2.1,f.2.2))) ((j1d d.2.1 d.2.2 4).bind λg=>let b2:=W a.2.2.2.2.1.length
 cond (cond g.1 (O (b2>0)) À) (let b0:=W a.2.2.2.2.1.length
 (j02 g.2.1 g.2.2 b0).bind λm=>(j02 m.2.1 m.2.2 2).bind λo=>let a7:=w64 (1+o.1)
 N ((a.2.2.2.2.2.2.2.2.2.2.2.2.2.2.1,(a.2.2.2.2.2.2.2.2.2.2.2.2.2.2.2.1,((a.2.2.2.2.2.2.2.2.2.2.2.2.2.2.2.2.1,a.2.2.2.2.2.2.2.2.2.2.2.2.2.2.2.2.2.1),(a.2.2.2.2.2.2.2.2.2.2.2.2.2.2.2.2.2.2.1,(a.2.2.2.2.2.2.2.2.2.2.2.2.2.2.2.2.2.2.2.1,(a.2.2.2.2.2.2.2.2.2.2.2.2.2.2.2.2.2.2.2.2.2.2,(([]:ae),(m.1,a7)))))))),o.2.1,o.2.2)) (N ((a.2.2.2.2.2.2.2.2.2.2.2.2.2.2.1,(a.2.2.2.2.2.2.2.2.2.2.2.2.2.2.2.1,((a.2.2.2.2.2.2.2.2.2.2.2.2.2.2.2.2.1,a.2.2.2.2.2.2.2.2.2.2.2.2.2.2.2.2.2.1),(a.2.2.2.2.2.2.2.2.2.2.2.2.2.2.2.2.2.2.1,(a.2.2.2.2.2.2.2.2.2.2.2.2.2.2.2.2.2.2.2.1,(a.2.2.2.2.2.2.2.2.2.2.2.2.2.2.2.2.2.2.2.2.2.2,(([]:ae),(a.2.2.2.2.2.2.2.2.2.2.2.2.2.2.2.2.2.2.2.2.1,a.2.2.2.2.2.2.2.2.2.2.2.2.2.2.2.2.2.2.2.2.2.1)))))))),g.2.1,g.2.2))))
def j2Y(e:M L)(b:L):S (L×(M L)×L):=(j02 e b 576).bind λd=>let j:=w64 (3600*d.1)
 let i:=w64 (1767139200+j)
 (j1d d.2.1 d.2.2 3).bind λa=>cond a.1 (let g:M Int:=[(-1),1,1800,3599]
 (j03 a.2.1 a.2.2 g).bind λc=>let f:=w64 (i+c.1)
 N (f,c.2.1,c.2.2)) (N (i,a.2.1,a.2.2))
def j49(n:M L)(k:L)(m:(M Ç)×((M Ç)×((M Ç)×(M Ç)))):S (oX×(M L)×L):=
 let l:=W m.2.1.length
 (j02 n k 3).bind λa=>(j02 a.2.1 a.2.2 l).bind λe=>(j2Y e.2.1 e.2.2).bind λb=>let o:M Int:=[3600,86400,7,259200,40000]
 (j03 b.2.1 b.2.2 o).bind λc=>let f:=w64 (b.1+c.1)
 cond (a.1==2) (cond (O (l<2)) (N ((0,(e.1,(0,(b.1,f)))),c.2.1,c.2.2)) (let p:=w64 (e.1+1)
 let q:=w64 (l-1)
 (j02 c.2.1 c.2.2 q).bind λg=>let r:=w64 (p+g.1)
 cond (!(l==0)) (let j:=Å r l
 cond (a.1==1) ((j1d g.2.1 g.2.2 4).bind λi=>cond i.1 (N ((a.1,((-1),(j,(b.1,f)))),i.2.1,i.2.2)) (N ((a.1,(e.1,(j,(b.1,f)))),i.2.1,i.2.2))) (N ((a.1,(e.1,(j,(b.1,f)))),g.2.1,g.2.2))) Y)) (cond (a.1==1) ((j1d c.2.1 c.2.2 4).bind λd=>cond d.1 (N ((a.1,((-1),(0,(b.1,f)))),d.2.1,d.2.2)) (N ((a.1,(e.1,(0,(b.1,f)))),d.2.1,d.2.2))) (N ((a.1,(e.1,(0,(b.1,f)))),c.2.1,c.2.2)))
def j2f[LP](o q:L)(r:M L)(j:L)(n:ai)(e:aj)(c:al)(p:X)(d:ao)(b:an):S ((L×L×(M L)×L×ai×aj×al×X×ao×an) ⊕ (L×(M L)×L×ai×aj×al×X×ao×an)):=cond (O (q>0)) ((jdD).bind λg=>let f:=W b.length
 cond (inR f g.length) (let l:=K g f.toNat J
 (j8J r j (n,(e,(c,d))) l).bind λa=>let i:an:=[(a.1.1,(a.1.2.1,((a.1.2.2.1.1,a.1.2.2.1.2),(a.1.2.2.2.1,(a.1.2.2.2.2.1,(a.1.2.2.2.2.2.1,(a.1.2.2.2.2.2.2.1,(a.1.2.2.2.2.2.2.2.1,a.1.2.2.2.2.2.2.2.2))))))))]
 cond (O (U b+U i<=aF)) (let k:an:=b++i
 let m:=w64 (q-1)
 N (.inl (o,m,a.2.1,a.2.2,n,e,c,p,d,k))) Y) Y) (N (.inr (o,r,j,n,e,c,p,d,b)))
def HN[LP](f i:L)(j:M L)(b:L)(k:ai)(e:aj)(c:al)(g:X)(d:ao)(a:an):S (L×(M L)×L×ai×aj×al×X×ao×an):=LP.lp (u8 unc2 j2f) (f,i,j,b,k,e,c,g,d,a)
theorem VV(f i j b k e c g d a):HN f i j b k e c g d a=lpK (j2f f i j b k e c g d a) (λh=>HN h.1 h.2.1 h.2.2.1 h.2.2.2.1 h.2.2.2.2.1 h.2.2.2.2.2.1 h.2.2.2.2.2.2.1 h.2.2.2.2.2.2.2.1 h.2.2.2.2.2.2.2.2.1 h.2.2.2.2.2.2.2.2.2):=bt _ _
def j2g(m p:L)(o:M L)(i:L)(l:ai)(e:aj)(b:al)(n:X)(d:ao)(g:an)(c:ax):S ((L×L×(M L)×L×ai×aj×al×X×ao×an×ax) ⊕ (L×(M L)×L×ai×aj×al×X×ao×an×ax)):=cond (O (p>0)) ((j49 o i ((Â l.length ()),((Â e.length ()),((Â b.length ()),(Â d.length ()))))).bind λa=>let f:ax:=[(a.1.1,(a.1.2.1,(a.1.2.2.1,(a.1.2.2.2.1,a.1.2.2.2.2))))]
 cond (O (U c+U f<=aF)) (let j:ax:=c++f
 let k:=w64 (p-1)
 N (.inl (m,k,a.2.1,a.2.2,l,e,b,n,d,g,j))) Y) (N (.inr (m,o,i,l,e,b,n,d,g,c)))
def HO[LP](g k:L)(j:M L)(b:L)(l:ai)(f:aj)(c:al)(i:X)(e:ao)(a:an)(d:ax):S (L×(M L)×L×ai×aj×al×X×ao×an×ax):=LP.lp (u8 unc3 j2g) (g,k,j,b,l,f,c,i,e,a,d)
theorem VW(g k j b l f c i e a d):HO g k j b l f c i e a d=lpK (j2g g k j b l f c i e a d) (λh=>HO h.1 h.2.1 h.2.2.1 h.2.2.2.1 h.2.2.2.2.1 h.2.2.2.2.2.1 h.2.2.2.2.2.2.1 h.2.2.2.2.2.2.2.1 h.2.2.2.2.2.2.2.2.1 h.2.2.2.2.2.2.2.2.2.1 h.2.2.2.2.2.2.2.2.2.2):=bt _ _
def j2h[LP](q:L)(r:M L)(j:L)(s:ai)(l:aj)(k:al)(e:ao):S ((L×(M L)×L×ai×aj×al×ao) ⊕ ((M L)×L×ai×aj×al×ao)):=cond (O (q>0)) (let f:M ByteArray:=[(Z #[102,105,114,115,116]),(Z #[115,101,99,111,110,100]),(Z #[116,104,105,114,100])]
 let o:=W e.length
 let g:=Å o 3
 cond (inR g f.length) (let m:=K f g.toNat J
 (j02 r j 4).bind λc=>(HN q c.1 c.2.1 c.2.2 s l k m e ([]:an)).bind λb=>(j02 b.2.1 b.2.2.1 4).bind λd=>(HO b.1 d.1 d.2.1 d.2.2 b.2.2.2.1 b.2.2.2.2.1 b.2.2.2.2.2.1 b.2.2.2.2.2.2.1 b.2.2.2.2.2.2.2.1 b.2.2.2.2.2.2.2.2 ([]:ax)).bind λa=>let i:ao:=[(a.2.2.2.2.2.2.1,(a.2.2.2.2.2.2.2.2.1,a.2.2.2.2.2.2.2.2.2))]
 cond (O (U a.2.2.2.2.2.2.2.1+U i<=aF)) (let n:ao:=a.2.2.2.2.2.2.2.1++i
 let p:=w64 (a.1-1)
 N (.inl (p,a.2.1,a.2.2.1,a.2.2.2.1,a.2.2.2.2.1,a.2.2.2.2.2.1,n))) Y) Y) (N (.inr (r,j,s,l,k,e)))
def HP[LP](e:L)(f:M L)(a:L)(g:ai)(d:aj)(b:al)(c:ao):S ((M L)×L×ai×aj×al×ao):=LP.lp (unc7 j2h) (e,f,a,g,d,b,c)
theorem VX(e f a g d b c):HP e f a g d b c=lpK (j2h e f a g d b c) (λh=>HP h.1 h.2.1 h.2.2.1 h.2.2.2.1 h.2.2.2.2.1 h.2.2.2.2.2.1 h.2.2.2.2.2.2):=bt _ _
def j7R[LP](f:M L)(c e:L):S (bR×(M L)×L):=(j8I f c).bind λa=>(j02 a.2.1 a.2.2 e).bind λd=>let g:=w64 (1+d.1)
 (HP g d.2.1 d.2.2 a.1.1 a.1.2.1 a.1.2.2.1 ([]:ao)).bind λb=>N ((b.2.2.1,(b.2.2.2.1,(b.2.2.2.2.1,b.2.2.2.2.2))),b.1,b.2.1)
def jbg(a:bR):S (ai×aj×al×X×an×ax):=cond (O (U ([]:ai)+U a.1<=aF)) (let m:ai:=([]:ai)++a.1
 cond (O (U ([]:aj)+U a.2.1<=aF)) (let e:aj:=([]:aj)++a.2.1
 cond (O (U ([]:al)+U a.2.2.1<=aF)) (let f:al:=([]:al)++a.2.2.1
 let g:=W a.2.2.2.length
 cond (O (0<g)) (cond (inR 0 a.2.2.2.length) (let c:=K a.2.2.2 0 (J,(([]:an),([]:ax)))
 cond (O (U ([]:an)+U c.2.1<=aF)) (let j:an:=([]:an)++c.2.1
 cond (O (U ([]:ax)+U c.2.2<=aF)) (let i:ax:=([]:ax)++c.2.2
 let d:=W a.2.2.2.length
 cond (O (1<d)) (cond (inR 1 a.2.2.2.length) (let b:=K a.2.2.2 1 (J,(([]:an),([]:ax)))
 cond (O (U ([]:an)+U b.2.1<=aF)) (let k:an:=([]:an)++b.2.1
 cond (O (U ([]:ax)+U b.2.2<=aF)) (let l:ax:=([]:ax)++b.2.2
 Y) Y) Y) Y) (N (m,e,f,c.1,j,i))) Y) Y) Y) (Y)) Y) Y) Y
def j6d(i7:M L)(d4:L)(a7:bR):S (bR×(M L)×L):=(jbg (a7.1,(a7.2.1,(a7.2.2.1,a7.2.2.2)))).bind λa=>(j02 i7 d4 12).bind λi=>cond (i.1==0) (let m9:=W a.1.length
 (j02 i.2.1 i.2.2 m9).bind λa6=>let n1:M Int:=[30,64800,64860,(-64800),(-64801)]
 (j03 a6.2.1 a6.2.2 n1).bind λg3=>cond (inR a6.1 a.1.length) (let n6:ai:=Á a.1 a6.1.toNat ((K a.1 a6.1.toNat (J,(0,([]:aX)))).1,(g3.1,(K a.1 a6.1.toNat (J,(0,([]:aX)))).2.2))
 N ((n6,(a.2.1,(a.2.2.1,[(a.2.2.2.1,(a.2.2.2.2.1,a.2.2.2.2.2))]))),g3.2.1,g3.2.2)) Y) (cond (i.1==1) (let n3:=W a.2.1.length
 (j02 i.2.1 i.2.2 n3).bind λq=>let m2:=W a.1.length
 let i6:M Int:=[(-1),m2]
 (j03 q.2.1 q.2.2 i6).bind λc5=>cond (inR q.1 a.2.1.length) (let m7:aj:=Á a.2.1 q.1.toNat ((K a.2.1 q.1.toNat (J,(0,(([]:ae),(0,(0,À)))))).1,(c5.1,((K a.2.1 q.1.toNat (J,(0,(([]:ae),(0,(0,À)))))).2.2.1,((K a.2.1 q.1.toNat (J,(0,(([]:ae),(0,(0,À)))))).2.2.2.1,((K a.2.1 q.1.toNat (J,(0,(([]:ae),(0,(0,À)))))).2.2.2.2.1,(K a.2.1 q.1.toNat (J,(0,(([]:ae),(0,(0,À)))))).2.2.2.2.2)))))
 N ((a.1,(m7,(a.2.2.1,[(a.2.2.2.1,(a.2.2.2.2.1,a.2.2.2.2.2))]))),c5.2.1,c5.2.2)) Y) (cond (i.1==2) (let i8:=W a.2.1.length
 (j02 i.2.1 i.2.2 i8).bind λm=>let e8:M ByteArray:=[(Z #[110,111,98,111,100,121]),J,(Z #[65,100,97]),(Z #[97,100,97]),(Z #[97,45,49,95,98])]
 (j02 m.2.1 m.2.2 5).bind λb0=>cond (inR b0.1 e8.length) (let m3:=K e8 b0.1.toNat J
 cond (inR m.1 a.2.1.length) (let o1:aj:=Á a.2.1 m.1.toNat (m3,((K a.2.1 m.1.toNat (J,(0,(([]:ae),(0,(0,À)))))).2.1,((K a.2.1 m.1.toNat (J,(0,(([]:ae),(0,(0,À)))))).2.2.1,((K a.2.1 m.1.toNat (J,(0,(([]:ae),(0,(0,À)))))).2.2.2.1,((K a.2.1 m.1.toNat (J,(0,(([]:ae),(0,(0,À)))))).2.2.2.2.1,(K a.2.1 m.1.toNat (J,(0,(([]:ae),(0,(0,À)))))).2.2.2.2.2)))))
 N ((a.1,(o1,(a.2.2.1,[(a.2.2.2.1,(a.2.2.2.2.1,a.2.2.2.2.2))]))),b0.2.1,b0.2.2)) Y) Y) (cond (i.1==3) (let j6:=W a.2.1.length
 (j02 i.2.1 i.2.2 j6).bind λn=>let k8:M Int:=[1,(-3600),604800,608400]
 (j03 n.2.1 n.2.2 k8).bind λb5=>cond (inR n.1 a.2.1.length) (let g8:aj:=Á a.2.1 n.1.toNat ((K a.2.1 n.1.toNat (J,(0,(([]:ae),(0,(0,À)))))).1,((K a.2.1 n.1.toNat (J,(0,(([]:ae),(0,(0,À)))))).2.1,((K a.2.1 n.1.toNat (J,(0,(([]:ae),(0,(0,À)))))).2.2.1,((K a.2.1 n.1.toNat (J,(0,(([]:ae),(0,(0,À)))))).2.2.2.1,(b5.1,(K a.2.1 n.1.toNat (J,(0,(([]:ae),(0,(0,À)))))).2.2.2.2.2)))))
 N ((a.1,(g8,(a.2.2.1,[(a.2.2.2.1,(a.2.2.2.2.1,a.2.2.2.2.2))]))),b5.2.1,b5.2.2)) Y) (cond (i.1==4) (let k4:=W a.2.1.length
 (j02 i.2.1 i.2.2 k4).bind λl=>let m6:M Int:=[0,(-1),5]
 (j03 l.2.1 l.2.2 m6).bind λb4=>let k1:M Int:=[5,604800,604801]
 (j03 b4.2.1 b4.2.2 k1).bind λb6=>let k3:ae:=[(b4.1,b6.1)]
 cond (inR l.1 a.2.1.length) (let n2:aj:=Á a.2.1 l.1.toNat ((K a.2.1 l.1.toNat (J,(0,(([]:ae),(0,(0,À)))))).1,((K a.2.1 l.1.toNat (J,(0,(([]:ae),(0,(0,À)))))).2.1,(k3,((K a.2.1 l.1.toNat (J,(0,(([]:ae),(0,(0,À)))))).2.2.2.1,((K a.2.1 l.1.toNat (J,(0,(([]:ae),(0,(0,À)))))).2.2.2.2.1,(K a.2.1 l.1.toNat (J,(0,(([]:ae),(0,(0,À)))))).2.2.2.2.2)))))
 N ((a.1,(n2,(a.2.2.1,[(a.2.2.2.1,(a.2.2.2.2.1,a.2.2.2.2.2))]))),b6.2.1,b6.2.2)) Y) (cond (i.1==5) (let e2:M ByteArray:=[(Z #[100,97,121,115]),(Z #[111,116,104,101,114])]
 (j02 i.2.1 i.2.2 2).bind λa9=>cond (inR a9.1 e2.length) (let k5:=K e2 a9.1.toNat J
 let l6:M Int:=[5,(-1)]
 (j03 a9.2.1 a9.2.2 l6).bind λc3=>let i9:M Int:=[5,6,100000]
 (j03 c3.2.1 c3.2.2 i9).bind λc4=>let j0:M Int:=[c3.1,c4.1]
 let d3:al:=[(k5,(0,j0))]
 cond (O (U a.2.2.1+U d3<=aF)) (let m1:al:=a.2.2.1++d3
 N ((a.1,(a.2.1,(m1,[(a.2.2.2.1,(a.2.2.2.2.1,a.2.2.2.2.2))]))),c4.2.1,c4.2.2)) Y) Y) (cond (i.1==6) (let e7:M ByteArray:=[(Z #[102,105,114,115,116]),(Z #[102,111,117,114,116,104])]
 (j02 i.2.1 i.2.2 2).bind λb1=>cond (inR b1.1 e7.length) (let l0:=K e7 b1.1.toNat J
 N ((a.1,(a.2.1,(a.2.2.1,[(a.2.2.2.1,(a.2.2.2.2.1,a.2.2.2.2.2)),(l0,(([]:an),([]:ax)))]))),b1.2.1,b1.2.2)) Y) (cond (i.1==7) ((j02 i.2.1 i.2.2 1).bind λa3=>cond (inR a3.1 1) (let k6:=W a.2.2.2.2.1.length
 cond (k6==0) (N ((a.1,(a.2.1,(a.2.2.1,[(a.2.2.2.1,(a.2.2.2.2.1,a.2.2.2.2.2))]))),a3.2.1,a3.2.2)) (let j9:=W a.2.2.2.2.1.length
 (j02 a3.2.1 a3.2.2 j9).bind λd=>cond (inR d.1 a.2.2.2.2.1.length) ((j02 d.2.1 d.2.2 8).bind λg=>cond (g.1==0) (let j5:M Int:=[0,1,400,401]
 (j03 g.2.1 g.2.2 j5).bind λc1=>let o4:an:=Á a.2.2.2.2.1 d.1.toNat ((K a.2.2.2.2.1 d.1.toNat (J,(0,((0,0),(0,(0,(([]:(M L)),(([]:ae),(0,0))))))))).1,((K a.2.2.2.2.1 d.1.toNat (J,(0,((0,0),(0,(0,(([]:(M L)),(([]:ae),(0,0))))))))).2.1,(((K a.2.2.2.2.1 d.1.toNat (J,(0,((0,0),(0,(0,(([]:(M L)),(([]:ae),(0,0))))))))).2.2.1.1,(K a.2.2.2.2.1 d.1.toNat (J,(0,((0,0),(0,(0,(([]:(M L)),(([]:ae),(0,0))))))))).2.2.1.2),((K a.2.2.2.2.1 d.1.toNat (J,(0,((0,0),(0,(0,(([]:(M L)),(([]:ae),(0,0))))))))).2.2.2.1,(c1.1,((K a.2.2.2.2.1 d.1.toNat (J,(0,((0,0),(0,(0,(([]:(M L)),(([]:ae),(0,0))))))))).2.2.2.2.2.1,((K a.2.2.2.2.1 d.1.toNat (J,(0,((0,0),(0,(0,(([]:(M L)),(([]:ae),(0,0))))))))).2.2.2.2.2.2.1,((K a.2.2.2.2.1 d.1.toNat (J,(0,((0,0),(0,(0,(([]:(M L)),(([]:ae),(0,0))))))))).2.2.2.2.2.2.2.1,(K a.2.2.2.2.1 d.1.toNat (J,(0,((0,0),(0,(0,(([]:(M L)),(([]:ae),(0,0))))))))).2.2.2.2.2.2.2.2))))))))
 N ((a.1,(a.2.1,(a.2.2.1,[(a.2.2.2.1,(o4,a.2.2.2.2.2))]))),c1.2.1,c1.2.2)) (cond (g.1==1) (let m5:M Int:=[0,1,(-5),98979,98981]
 (j03 g.2.1 g.2.2 m5).bind λb9=>let o5:an:=Á a.2.2.2.2.1 d.1.toNat ((K a.2.2.2.2.1 d.1.toNat (J,(0,((0,0),(0,(0,(([]:(M L)),(([]:ae),(0,0))))))))).1,((K a.2.2.2.2.1 d.1.toNat (J,(0,((0,0),(0,(0,(([]:(M L)),(([]:ae),(0,0))))))))).2.1,((b9.1,(K a.2.2.2.2.1 d.1.toNat (J,(0,((0,0),(0,(0,(([]:(M L)),(([]:ae),(0,0))))))))).2.2.1.2),((K a.2.2.2.2.1 d.1.toNat (J,(0,((0,0),(0,(0,(([]:(M L)),(([]:ae),(0,0))))))))).2.2.2.1,((K a.2.2.2.2.1 d.1.toNat (J,(0,((0,0),(0,(0,(([]:(M L)),(([]:ae),(0,0))))))))).2.2.2.2.1,((K a.2.2.2.2.1 d.1.toNat (J,(0,((0,0),(0,(0,(([]:(M L)),(([]:ae),(0,0))))))))).2.2.2.2.2.1,((K a.2.2.2.2.1 d.1.toNat (J,(0,((0,0),(0,(0,(([]:(M L)),(([]:ae),(0,0))))))))).2.2.2.2.2.2.1,((K a.2.2.2.2.1 d.1.toNat (J,(0,((0,0),(0,(0,(([]:(M L)),(([]:ae),(0,0))))))))).2.2.2.2.2.2.2.1,(K a.2.2.2.2.1 d.1.toNat (J,(0,((0,0),(0,(0,(([]:(M L)),(([]:ae),(0,0))))))))).2.2.2.2.2.2.2.2))))))))
 N ((a.1,(a.2.1,(a.2.2.1,[(a.2.2.2.1,(o5,a.2.2.2.2.2))]))),b9.2.1,b9.2.2)) (cond (g.1==2) (let o2:an:=Á a.2.2.2.2.1 d.1.toNat ((K a.2.2.2.2.1 d.1.toNat (J,(0,((0,0),(0,(0,(([]:(M L)),(([]:ae),(0,0))))))))).1,((K a.2.2.2.2.1 d.1.toNat (J,(0,((0,0),(0,(0,(([]:(M L)),(([]:ae),(0,0))))))))).2.1,(((K a.2.2.2.2.1 d.1.toNat (J,(0,((0,0),(0,(0,(([]:(M L)),(([]:ae),(0,0))))))))).2.2.1.1,(K a.2.2.2.2.1 d.1.toNat (J,(0,((0,0),(0,(0,(([]:(M L)),(([]:ae),(0,0))))))))).2.2.1.2),((K a.2.2.2.2.1 d.1.toNat (J,(0,((0,0),(0,(0,(([]:(M L)),(([]:ae),(0,0))))))))).2.2.2.1,((K a.2.2.2.2.1 d.1.toNat (J,(0,((0,0),(0,(0,(([]:(M L)),(([]:ae),(0,0))))))))).2.2.2.2.1,(([]:(M L)),((K a.2.2.2.2.1 d.1.toNat (J,(0,((0,0),(0,(0,(([]:(M L)),(([]:ae),(0,0))))))))).2.2.2.2.2.2.1,((K a.2.2.2.2.1 d.1.toNat (J,(0,((0,0),(0,(0,(([]:(M L)),(([]:ae),(0,0))))))))).2.2.2.2.2.2.2.1,(K a.2.2.2.2.1 d.1.toNat (J,(0,((0,0),(0,(0,(([]:(M L)),(([]:ae),(0,0))))))))).2.2.2.2.2.2.2.2))))))))
 N ((a.1,(a.2.1,(a.2.2.1,[(a.2.2.2.1,(o2,a.2.2.2.2.2))]))),g.2.1,g.2.2)) (cond (g.1==3) (let l8:=W a.2.1.length
 let l7:M Int:=[0,(-1),l8]
 (j03 g.2.1 g.2.2 l7).bind λb8=>let n4:an:=Á a.2.2.2.2.1 d.1.toNat ((K a.2.2.2.2.1 d.1.toNat (J,(0,((0,0),(0,(0,(([]:(M L)),(([]:ae),(0,0))))))))).1,((K a.2.2.2.2.1 d.1.toNat (J,(0,((0,0),(0,(0,(([]:(M L)),(([]:ae),(0,0))))))))).2.1,(((K a.2.2.2.2.1 d.1.toNat (J,(0,((0,0),(0,(0,(([]:(M L)),(([]:ae),(0,0))))))))).2.2.1.1,(K a.2.2.2.2.1 d.1.toNat (J,(0,((0,0),(0,(0,(([]:(M L)),(([]:ae),(0,0))))))))).2.2.1.2),((K a.2.2.2.2.1 d.1.toNat (J,(0,((0,0),(0,(0,(([]:(M L)),(([]:ae),(0,0))))))))).2.2.2.1,((K a.2.2.2.2.1 d.1.toNat (J,(0,((0,0),(0,(0,(([]:(M L)),(([]:ae),(0,0))))))))).2.2.2.2.1,([b8.1],((K a.2.2.2.2.1 d.1.toNat (J,(0,((0,0),(0,(0,(([]:(M L)),(([]:ae),(0,0))))))))).2.2.2.2.2.2.1,((K a.2.2.2.2.1 d.1.toNat (J,(0,((0,0),(0,(0,(([]:(M L)),(([]:ae),(0,0))))))))).2.2.2.2.2.2.2.1,(K a.2.2.2.2.1 d.1.toNat (J,(0,((0,0),(0,(0,(([]:(M L)),(([]:ae),(0,0))))))))).2.2.2.2.2.2.2.2))))))))
 N ((a.1,(a.2.1,(a.2.2.1,[(a.2.2.2.1,(n4,a.2.2.2.2.2))]))),b8.2.1,b8.2.2)) (cond (g.1==4) (let j2:M Int:=[(-1),3]
 (j03 g.2.1 g.2.2 j2).bind λc2=>let l9:an:=Á a.2.2.2.2.1 d.1.toNat ((K a.2.2.2.2.1 d.1.toNat (J,(0,((0,0),(0,(0,(([]:(M L)),(([]:ae),(0,0))))))))).1,((K a.2.2.2.2.1 d.1.toNat (J,(0,((0,0),(0,(0,(([]:(M L)),(([]:ae),(0,0))))))))).2.1,(((K a.2.2.2.2.1 d.1.toNat (J,(0,((0,0),(0,(0,(([]:(M L)),(([]:ae),(0,0))))))))).2.2.1.1,(K a.2.2.2.2.1 d.1.toNat (J,(0,((0,0),(0,(0,(([]:(M L)),(([]:ae),(0,0))))))))).2.2.1.2),(c2.1,((K a.2.2.2.2.1 d.1.toNat (J,(0,((0,0),(0,(0,(([]:(M L)),(([]:ae),(0,0))))))))).2.2.2.2.1,((K a.2.2.2.2.1 d.1.toNat (J,(0,((0,0),(0,(0,(([]:(M L)),(([]:ae),(0,0))))))))).2.2.2.2.2.1,((K a.2.2.2.2.1 d.1.toNat (J,(0,((0,0),(0,(0,(([]:(M L)),(([]:ae),(0,0))))))))).2.2.2.2.2.2.1,((K a.2.2.2.2.1 d.1.toNat (J,(0,((0,0),(0,(0,(([]:(M L)),(([]:ae),(0,0))))))))).2.2.2.2.2.2.2.1,(K a.2.2.2.2.1 d.1.toNat (J,(0,((0,0),(0,(0,(([]:(M L)),(([]:ae),(0,0))))))))).2.2.2.2.2.2.2.2))))))))
 N ((a.1,(a.2.1,(a.2.2.1,[(a.2.2.2.1,(l9,a.2.2.2.2.2))]))),c2.2.1,c2.2.2)) (cond (g.1==5) (let j4:M Int:=[0,1,2,3]
 (j03 g.2.1 g.2.2 j4).bind λc0=>let j7:an:=Á a.2.2.2.2.1 d.1.toNat ((K a.2.2.2.2.1 d.1.toNat (J,(0,((0,0),(0,(0,(([]:(M L)),(([]:ae),(0,0))))))))).1,((K a.2.2.2.2.1 d.1.toNat (J,(0,((0,0),(0,(0,(([]:(M L)),(([]:ae),(0,0))))))))).2.1,(((K a.2.2.2.2.1 d.1.toNat (J,(0,((0,0),(0,(0,(([]:(M L)),(([]:ae),(0,0))))))))).2.2.1.1,(K a.2.2.2.2.1 d.1.toNat (J,(0,((0,0),(0,(0,(([]:(M L)),(([]:ae),(0,0))))))))).2.2.1.2),((K a.2.2.2.2.1 d.1.toNat (J,(0,((0,0),(0,(0,(([]:(M L)),(([]:ae),(0,0))))))))).2.2.2.1,((K a.2.2.2.2.1 d.1.toNat (J,(0,((0,0),(0,(0,(([]:(M L)),(([]:ae),(0,0))))))))).2.2.2.2.1,((K a.2.2.2.2.1 d.1.toNat (J,(0,((0,0),(0,(0,(([]:(M L)),(([]:ae),(0,0))))))))).2.2.2.2.2.1,((K a.2.2.2.2.1 d.1.toNat (J,(0,((0,0),(0,(0,(([]:(M L)),(([]:ae),(0,0))))))))).2.2.2.2.2.2.1,((K a.2.2.2.2.1 d.1.toNat (J,(0,((0,0),(0,(0,(([]:(M L)),(([]:ae),(0,0))))))))).2.2.2.2.2.2.2.1,c0.1))))))))
 N ((a.1,(a.2.1,(a.2.2.1,[(a.2.2.2.1,(j7,a.2.2.2.2.2))]))),c0.2.1,c0.2.2)) (cond (g.1==6) (let i5:M Int:=[0,1,(-1)]
 (j03 g.2.1 g.2.2 i5).bind λb7=>let l5:an:=Á a.2.2.2.2.1 d.1.toNat ((K a.2.2.2.2.1 d.1.toNat (J,(0,((0,0),(0,(0,(([]:(M L)),(([]:ae),(0,0))))))))).1,((K a.2.2.2.2.1 d.1.toNat (J,(0,((0,0),(0,(0,(([]:(M L)),(([]:ae),(0,0))))))))).2.1,(((K a.2.2.2.2.1 d.1.toNat (J,(0,((0,0),(0,(0,(([]:(M L)),(([]:ae),(0,0))))))))).2.2.1.1,(K a.2.2.2.2.1 d.1.toNat (J,(0,((0,0),(0,(0,(([]:(M L)),(([]:ae),(0,0))))))))).2.2.1.2),((K a.2.2.2.2.1 d.1.toNat (J,(0,((0,0),(0,(0,(([]:(M L)),(([]:ae),(0,0))))))))).2.2.2.1,((K a.2.2.2.2.1 d.1.toNat (J,(0,((0,0),(0,(0,(([]:(M L)),(([]:ae),(0,0))))))))).2.2.2.2.1,((K a.2.2.2.2.1 d.1.toNat (J,(0,((0,0),(0,(0,(([]:(M L)),(([]:ae),(0,0))))))))).2.2.2.2.2.1,((K a.2.2.2.2.1 d.1.toNat (J,(0,((0,0),(0,(0,(([]:(M L)),(([]:ae),(0,0))))))))).2.2.2.2.2.2.1,(b7.1,(K a.2.2.2.2.1 d.1.toNat (J,(0,((0,0),(0,(0,(([]:(M L)),(([]:ae),(0,0))))))))).2.2.2.2.2.2.2.2))))))))
 N ((a.1,(a.2.1,(a.2.2.1,[(a.2.2.2.1,(l5,a.2.2.2.2.2))]))),b7.2.1,b7.2.2)) (cond (g.1==7) (let e1:M ByteArray:=[(Z #[97,100,97]),(Z #[98,111,98]),(Z #[120,32,121])]
 (j02 g.2.1 g.2.2 3).bind λa8=>cond (inR a8.1 e1.length) (let l4:=K e1 a8.1.toNat J
 let o3:an:=Á a.2.2.2.2.1 d.1.toNat (l4,((K a.2.2.2.2.1 d.1.toNat (J,(0,((0,0),(0,(0,(([]:(M L)),(([]:ae),(0,0))))))))).2.1,(((K a.2.2.2.2.1 d.1.toNat (J,(0,((0,0),(0,(0,(([]:(M L)),(([]:ae),(0,0))))))))).2.2.1.1,(K a.2.2.2.2.1 d.1.toNat (J,(0,((0,0),(0,(0,(([]:(M L)),(([]:ae),(0,0))))))))).2.2.1.2),((K a.2.2.2.2.1 d.1.toNat (J,(0,((0,0),(0,(0,(([]:(M L)),(([]:ae),(0,0))))))))).2.2.2.1,((K a.2.2.2.2.1 d.1.toNat (J,(0,((0,0),(0,(0,(([]:(M L)),(([]:ae),(0,0))))))))).2.2.2.2.1,((K a.2.2.2.2.1 d.1.toNat (J,(0,((0,0),(0,(0,(([]:(M L)),(([]:ae),(0,0))))))))).2.2.2.2.2.1,((K a.2.2.2.2.1 d.1.toNat (J,(0,((0,0),(0,(0,(([]:(M L)),(([]:ae),(0,0))))))))).2.2.2.2.2.2.1,((K a.2.2.2.2.1 d.1.toNat (J,(0,((0,0),(0,(0,(([]:(M L)),(([]:ae),(0,0))))))))).2.2.2.2.2.2.2.1,(K a.2.2.2.2.1 d.1.toNat (J,(0,((0,0),(0,(0,(([]:(M L)),(([]:ae),(0,0))))))))).2.2.2.2.2.2.2.2))))))))
 N ((a.1,(a.2.1,(a.2.2.1,[(a.2.2.2.1,(o3,a.2.2.2.2.2))]))),a8.2.1,a8.2.2)) Y) (N ((a.1,(a.2.1,(a.2.2.1,[(a.2.2.2.1,(a.2.2.2.2.1,a.2.2.2.2.2))]))),g.2.1,g.2.2)))))))))) Y)) Y) (cond (i.1==8) ((j02 i.2.1 i.2.2 1).bind λo=>cond (inR o.1 1) (let e3:=W a.2.2.2.2.1.length
 cond (e3==0) (N ((a.1,(a.2.1,(a.2.2.1,[(a.2.2.2.1,(a.2.2.2.2.1,a.2.2.2.2.2))]))),o.2.1,o.2.2)) (let e0:=W a.2.2.2.2.1.length
 (j02 o.2.1 o.2.2 e0).bind λc=>cond (inR c.1 a.2.2.2.2.1.length) ((j02 c.2.1 c.2.2 8).bind λf=>cond (f.1==0) (let f2:M Int:=[0,1,400,401]
 (j03 f.2.1 f.2.2 f2).bind λz=>let l2:an:=Á a.2.2.2.2.1 c.1.toNat ((K a.2.2.2.2.1 c.1.toNat (J,(0,((0,0),(0,(0,(([]:(M L)),(([]:ae),(0,0))))))))).1,((K a.2.2.2.2.1 c.1.toNat (J,(0,((0,0),(0,(0,(([]:(M L)),(([]:ae),(0,0))))))))).2.1,(((K a.2.2.2.2.1 c.1.toNat (J,(0,((0,0),(0,(0,(([]:(M L)),(([]:ae),(0,0))))))))).2.2.1.1,(K a.2.2.2.2.1 c.1.toNat (J,(0,((0,0),(0,(0,(([]:(M L)),(([]:ae),(0,0))))))))).2.2.1.2),((K a.2.2.2.2.1 c.1.toNat (J,(0,((0,0),(0,(0,(([]:(M L)),(([]:ae),(0,0))))))))).2.2.2.1,(z.1,((K a.2.2.2.2.1 c.1.toNat (J,(0,((0,0),(0,(0,(([]:(M L)),(([]:ae),(0,0))))))))).2.2.2.2.2.1,((K a.2.2.2.2.1 c.1.toNat (J,(0,((0,0),(0,(0,(([]:(M L)),(([]:ae),(0,0))))))))).2.2.2.2.2.2.1,((K a.2.2.2.2.1 c.1.toNat (J,(0,((0,0),(0,(0,(([]:(M L)),(([]:ae),(0,0))))))))).2.2.2.2.2.2.2.1,(K a.2.2.2.2.1 c.1.toNat (J,(0,((0,0),(0,(0,(([]:(M L)),(([]:ae),(0,0))))))))).2.2.2.2.2.2.2.2))))))))
 N ((a.1,(a.2.1,(a.2.2.1,[(a.2.2.2.1,(l2,a.2.2.2.2.2))]))),z.2.1,z.2.2)) (cond (f.1==1) (let d8:M Int:=[0,1,(-5),98979,98981]
 (j03 f.2.1 f.2.2 d8).bind λw=>let j3:an:=Á a.2.2.2.2.1 c.1.toNat ((K a.2.2.2.2.1 c.1.toNat (J,(0,((0,0),(0,(0,(([]:(M L)),(([]:ae),(0,0))))))))).1,((K a.2.2.2.2.1 c.1.toNat (J,(0,((0,0),(0,(0,(([]:(M L)),(([]:ae),(0,0))))))))).2.1,((w.1,(K a.2.2.2.2.1 c.1.toNat (J,(0,((0,0),(0,(0,(([]:(M L)),(([]:ae),(0,0))))))))).2.2.1.2),((K a.2.2.2.2.1 c.1.toNat (J,(0,((0,0),(0,(0,(([]:(M L)),(([]:ae),(0,0))))))))).2.2.2.1,((K a.2.2.2.2.1 c.1.toNat (J,(0,((0,0),(0,(0,(([]:(M L)),(([]:ae),(0,0))))))))).2.2.2.2.1,((K a.2.2.2.2.1 c.1.toNat (J,(0,((0,0),(0,(0,(([]:(M L)),(([]:ae),(0,0))))))))).2.2.2.2.2.1,((K a.2.2.2.2.1 c.1.toNat (J,(0,((0,0),(0,(0,(([]:(M L)),(([]:ae),(0,0))))))))).2.2.2.2.2.2.1,((K a.2.2.2.2.1 c.1.toNat (J,(0,((0,0),(0,(0,(([]:(M L)),(([]:ae),(0,0))))))))).2.2.2.2.2.2.2.1,(K a.2.2.2.2.1 c.1.toNat (J,(0,((0,0),(0,(0,(([]:(M L)),(([]:ae),(0,0))))))))).2.2.2.2.2.2.2.2))))))))
 N ((a.1,(a.2.1,(a.2.2.1,[(a.2.2.2.1,(j3,a.2.2.2.2.2))]))),w.2.1,w.2.2)) (cond (f.1==2) (let m0:an:=Á a.2.2.2.2.1 c.1.toNat ((K a.2.2.2.2.1 c.1.toNat (J,(0,((0,0),(0,(0,(([]:(M L)),(([]:ae),(0,0))))))))).1,((K a.2.2.2.2.1 c.1.toNat (J,(0,((0,0),(0,(0,(([]:(M L)),(([]:ae),(0,0))))))))).2.1,(((K a.2.2.2.2.1 c.1.toNat (J,(0,((0,0),(0,(0,(([]:(M L)),(([]:ae),(0,0))))))))).2.2.1.1,(K a.2.2.2.2.1 c.1.toNat (J,(0,((0,0),(0,(0,(([]:(M L)),(([]:ae),(0,0))))))))).2.2.1.2),((K a.2.2.2.2.1 c.1.toNat (J,(0,((0,0),(0,(0,(([]:(M L)),(([]:ae),(0,0))))))))).2.2.2.1,((K a.2.2.2.2.1 c.1.toNat (J,(0,((0,0),(0,(0,(([]:(M L)),(([]:ae),(0,0))))))))).2.2.2.2.1,(([]:(M L)),((K a.2.2.2.2.1 c.1.toNat (J,(0,((0,0),(0,(0,(([]:(M L)),(([]:ae),(0,0))))))))).2.2.2.2.2.2.1,((K a.2.2.2.2.1 c.1.toNat (J,(0,((0,0),(0,(0,(([]:(M L)),(([]:ae),(0,0))))))))).2.2.2.2.2.2.2.1,(K a.2.2.2.2.1 c.1.toNat (J,(0,((0,0),(0,(0,(([]:(M L)),(([]:ae),(0,0))))))))).2.2.2.2.2.2.2.2))))))))
 N ((a.1,(a.2.1,(a.2.2.1,[(a.2.2.2.1,(m0,a.2.2.2.2.2))]))),f.2.1,f.2.2)) (cond (f.1==3) (let f1:=W a.2.1.length
 let f4:M Int:=[0,(-1),f1]
 (j03 f.2.1 f.2.2 f4).bind λy=>let i3:an:=Á a.2.2.2.2.1 c.1.toNat ((K a.2.2.2.2.1 c.1.toNat (J,(0,((0,0),(0,(0,(([]:(M L)),(([]:ae),(0,0))))))))).1,((K a.2.2.2.2.1 c.1.toNat (J,(0,((0,0),(0,(0,(([]:(M L)),(([]:ae),(0,0))))))))).2.1,(((K a.2.2.2.2.1 c.1.toNat (J,(0,((0,0),(0,(0,(([]:(M L)),(([]:ae),(0,0))))))))).2.2.1.1,(K a.2.2.2.2.1 c.1.toNat (J,(0,((0,0),(0,(0,(([]:(M L)),(([]:ae),(0,0))))))))).2.2.1.2),((K a.2.2.2.2.1 c.1.toNat (J,(0,((0,0),(0,(0,(([]:(M L)),(([]:ae),(0,0))))))))).2.2.2.1,((K a.2.2.2.2.1 c.1.toNat (J,(0,((0,0),(0,(0,(([]:(M L)),(([]:ae),(0,0))))))))).2.2.2.2.1,([y.1],((K a.2.2.2.2.1 c.1.toNat (J,(0,((0,0),(0,(0,(([]:(M L)),(([]:ae),(0,0))))))))).2.2.2.2.2.2.1,((K a.2.2.2.2.1 c.1.toNat (J,(0,((0,0),(0,(0,(([]:(M L)),(([]:ae),(0,0))))))))).2.2.2.2.2.2.2.1,(K a.2.2.2.2.1 c.1.toNat (J,(0,((0,0),(0,(0,(([]:(M L)),(([]:ae),(0,0))))))))).2.2.2.2.2.2.2.2))))))))
 N ((a.1,(a.2.1,(a.2.2.1,[(a.2.2.2.1,(i3,a.2.2.2.2.2))]))),y.2.1,y.2.2)) (cond (f.1==4) (let e6:M Int:=[(-1),3]
 (j03 f.2.1 f.2.2 e6).bind λt=>let k0:an:=Á a.2.2.2.2.1 c.1.toNat ((K a.2.2.2.2.1 c.1.toNat (J,(0,((0,0),(0,(0,(([]:(M L)),(([]:ae),(0,0))))))))).1,((K a.2.2.2.2.1 c.1.toNat (J,(0,((0,0),(0,(0,(([]:(M L)),(([]:ae),(0,0))))))))).2.1,(((K a.2.2.2.2.1 c.1.toNat (J,(0,((0,0),(0,(0,(([]:(M L)),(([]:ae),(0,0))))))))).2.2.1.1,(K a.2.2.2.2.1 c.1.toNat (J,(0,((0,0),(0,(0,(([]:(M L)),(([]:ae),(0,0))))))))).2.2.1.2),(t.1,((K a.2.2.2.2.1 c.1.toNat (J,(0,((0,0),(0,(0,(([]:(M L)),(([]:ae),(0,0))))))))).2.2.2.2.1,((K a.2.2.2.2.1 c.1.toNat (J,(0,((0,0),(0,(0,(([]:(M L)),(([]:ae),(0,0))))))))).2.2.2.2.2.1,((K a.2.2.2.2.1 c.1.toNat (J,(0,((0,0),(0,(0,(([]:(M L)),(([]:ae),(0,0))))))))).2.2.2.2.2.2.1,((K a.2.2.2.2.1 c.1.toNat (J,(0,((0,0),(0,(0,(([]:(M L)),(([]:ae),(0,0))))))))).2.2.2.2.2.2.2.1,(K a.2.2.2.2.1 c.1.toNat (J,(0,((0,0),(0,(0,(([]:(M L)),(([]:ae),(0,0))))))))).2.2.2.2.2.2.2.2))))))))
 N ((a.1,(a.2.1,(a.2.2.1,[(a.2.2.2.1,(k0,a.2.2.2.2.2))]))),t.2.1,t.2.2)) (cond (f.1==5) (let d1:M Int:=[0,1,2,3]
 (j03 f.2.1 f.2.2 d1).bind λu=>let k7:an:=Á a.2.2.2.2.1 c.1.toNat ((K a.2.2.2.2.1 c.1.toNat (J,(0,((0,0),(0,(0,(([]:(M L)),(([]:ae),(0,0))))))))).1,((K a.2.2.2.2.1 c.1.toNat (J,(0,((0,0),(0,(0,(([]:(M L)),(([]:ae),(0,0))))))))).2.1,(((K a.2.2.2.2.1 c.1.toNat (J,(0,((0,0),(0,(0,(([]:(M L)),(([]:ae),(0,0))))))))).2.2.1.1,(K a.2.2.2.2.1 c.1.toNat (J,(0,((0,0),(0,(0,(([]:(M L)),(([]:ae),(0,0))))))))).2.2.1.2),((K a.2.2.2.2.1 c.1.toNat (J,(0,((0,0),(0,(0,(([]:(M L)),(([]:ae),(0,0))))))))).2.2.2.1,((K a.2.2.2.2.1 c.1.toNat (J,(0,((0,0),(0,(0,(([]:(M L)),(([]:ae),(0,0))))))))).2.2.2.2.1,((K a.2.2.2.2.1 c.1.toNat (J,(0,((0,0),(0,(0,(([]:(M L)),(([]:ae),(0,0))))))))).2.2.2.2.2.1,((K a.2.2.2.2.1 c.1.toNat (J,(0,((0,0),(0,(0,(([]:(M L)),(([]:ae),(0,0))))))))).2.2.2.2.2.2.1,((K a.2.2.2.2.1 c.1.toNat (J,(0,((0,0),(0,(0,(([]:(M L)),(([]:ae),(0,0))))))))).2.2.2.2.2.2.2.1,u.1))))))))
 N ((a.1,(a.2.1,(a.2.2.1,[(a.2.2.2.1,(k7,a.2.2.2.2.2))]))),u.2.1,u.2.2)) (cond (f.1==6) (let f7:M Int:=[0,1,(-1)]
 (j03 f.2.1 f.2.2 f7).bind λa0=>let k9:an:=Á a.2.2.2.2.1 c.1.toNat ((K a.2.2.2.2.1 c.1.toNat (J,(0,((0,0),(0,(0,(([]:(M L)),(([]:ae),(0,0))))))))).1,((K a.2.2.2.2.1 c.1.toNat (J,(0,((0,0),(0,(0,(([]:(M L)),(([]:ae),(0,0))))))))).2.1,(((K a.2.2.2.2.1 c.1.toNat (J,(0,((0,0),(0,(0,(([]:(M L)),(([]:ae),(0,0))))))))).2.2.1.1,(K a.2.2.2.2.1 c.1.toNat (J,(0,((0,0),(0,(0,(([]:(M L)),(([]:ae),(0,0))))))))).2.2.1.2),((K a.2.2.2.2.1 c.1.toNat (J,(0,((0,0),(0,(0,(([]:(M L)),(([]:ae),(0,0))))))))).2.2.2.1,((K a.2.2.2.2.1 c.1.toNat (J,(0,((0,0),(0,(0,(([]:(M L)),(([]:ae),(0,0))))))))).2.2.2.2.1,((K a.2.2.2.2.1 c.1.toNat (J,(0,((0,0),(0,(0,(([]:(M L)),(([]:ae),(0,0))))))))).2.2.2.2.2.1,((K a.2.2.2.2.1 c.1.toNat (J,(0,((0,0),(0,(0,(([]:(M L)),(([]:ae),(0,0))))))))).2.2.2.2.2.2.1,(a0.1,(K a.2.2.2.2.1 c.1.toNat (J,(0,((0,0),(0,(0,(([]:(M L)),(([]:ae),(0,0))))))))).2.2.2.2.2.2.2.2))))))))
 N ((a.1,(a.2.1,(a.2.2.1,[(a.2.2.2.1,(k9,a.2.2.2.2.2))]))),a0.2.1,a0.2.2)) (cond (f.1==7) (let b3:M ByteArray:=[(Z #[97,100,97]),(Z #[98,111,98]),(Z #[120,32,121])]
 (j02 f.2.1 f.2.2 3).bind λr=>cond (inR r.1 b3.length) (let g1:=K b3 r.1.toNat J
 let l1:an:=Á a.2.2.2.2.1 c.1.toNat (g1,((K a.2.2.2.2.1 c.1.toNat (J,(0,((0,0),(0,(0,(([]:(M L)),(([]:ae),(0,0))))))))).2.1,(((K a.2.2.2.2.1 c.1.toNat (J,(0,((0,0),(0,(0,(([]:(M L)),(([]:ae),(0,0))))))))).2.2.1.1,(K a.2.2.2.2.1 c.1.toNat (J,(0,((0,0),(0,(0,(([]:(M L)),(([]:ae),(0,0))))))))).2.2.1.2),((K a.2.2.2.2.1 c.1.toNat (J,(0,((0,0),(0,(0,(([]:(M L)),(([]:ae),(0,0))))))))).2.2.2.1,((K a.2.2.2.2.1 c.1.toNat (J,(0,((0,0),(0,(0,(([]:(M L)),(([]:ae),(0,0))))))))).2.2.2.2.1,((K a.2.2.2.2.1 c.1.toNat (J,(0,((0,0),(0,(0,(([]:(M L)),(([]:ae),(0,0))))))))).2.2.2.2.2.1,((K a.2.2.2.2.1 c.1.toNat (J,(0,((0,0),(0,(0,(([]:(M L)),(([]:ae),(0,0))))))))).2.2.2.2.2.2.1,((K a.2.2.2.2.1 c.1.toNat (J,(0,((0,0),(0,(0,(([]:(M L)),(([]:ae),(0,0))))))))).2.2.2.2.2.2.2.1,(K a.2.2.2.2.1 c.1.toNat (J,(0,((0,0),(0,(0,(([]:(M L)),(([]:ae),(0,0))))))))).2.2.2.2.2.2.2.2))))))))
 N ((a.1,(a.2.1,(a.2.2.1,[(a.2.2.2.1,(l1,a.2.2.2.2.2))]))),r.2.1,r.2.2)) Y) (N ((a.1,(a.2.1,(a.2.2.1,[(a.2.2.2.1,(a.2.2.2.2.1,a.2.2.2.2.2))]))),f.2.1,f.2.2)))))))))) Y)) Y) (cond (i.1==9) ((j02 i.2.1 i.2.2 1).bind λp=>cond (inR p.1 1) (let f8:=W a.2.2.2.2.1.length
 cond (f8==0) (N ((a.1,(a.2.1,(a.2.2.1,[(a.2.2.2.1,(a.2.2.2.2.1,a.2.2.2.2.2))]))),p.2.1,p.2.2)) (let e4:=W a.2.2.2.2.1.length
 (j02 p.2.1 p.2.2 e4).bind λb=>cond (inR b.1 a.2.2.2.2.1.length) ((j02 b.2.1 b.2.2 8).bind λe=>cond (e.1==0) (let f5:M Int:=[0,1,400,401]
 (j03 e.2.1 e.2.2 f5).bind λv=>let j8:an:=Á a.2.2.2.2.1 b.1.toNat ((K a.2.2.2.2.1 b.1.toNat (J,(0,((0,0),(0,(0,(([]:(M L)),(([]:ae),(0,0))))))))).1,((K a.2.2.2.2.1 b.1.toNat (J,(0,((0,0),(0,(0,(([]:(M L)),(([]:ae),(0,0))))))))).2.1,(((K a.2.2.2.2.1 b.1.toNat (J,(0,((0,0),(0,(0,(([]:(M L)),(([]:ae),(0,0))))))))).2.2.1.1,(K a.2.2.2.2.1 b.1.toNat (J,(0,((0,0),(0,(0,(([]:(M L)),(([]:ae),(0,0))))))))).2.2.1.2),((K a.2.2.2.2.1 b.1.toNat (J,(0,((0,0),(0,(0,(([]:(M L)),(([]:ae),(0,0))))))))).2.2.2.1,(v.1,((K a.2.2.2.2.1 b.1.toNat (J,(0,((0,0),(0,(0,(([]:(M L)),(([]:ae),(0,0))))))))).2.2.2.2.2.1,((K a.2.2.2.2.1 b.1.toNat (J,(0,((0,0),(0,(0,(([]:(M L)),(([]:ae),(0,0))))))))).2.2.2.2.2.2.1,((K a.2.2.2.2.1 b.1.toNat (J,(0,((0,0),(0,(0,(([]:(M L)),(([]:ae),(0,0))))))))).2.2.2.2.2.2.2.1,(K a.2.2.2.2.1 b.1.toNat (J,(0,((0,0),(0,(0,(([]:(M L)),(([]:ae),(0,0))))))))).2.2.2.2.2.2.2.2))))))))
 N ((a.1,(a.2.1,(a.2.2.1,[(a.2.2.2.1,(j8,a.2.2.2.2.2))]))),v.2.1,v.2.2)) (cond (e.1==1) (let d7:M Int:=[0,1,(-5),98979,98981]
 (j03 e.2.1 e.2.2 d7).bind λa4=>let j1:an:=Á a.2.2.2.2.1 b.1.toNat ((K a.2.2.2.2.1 b.1.toNat (J,(0,((0,0),(0,(0,(([]:(M L)),(([]:ae),(0,0))))))))).1,((K a.2.2.2.2.1 b.1.toNat (J,(0,((0,0),(0,(0,(([]:(M L)),(([]:ae),(0,0))))))))).2.1,((a4.1,(K a.2.2.2.2.1 b.1.toNat (J,(0,((0,0),(0,(0,(([]:(M L)),(([]:ae),(0,0))))))))).2.2.1.2),((K a.2.2.2.2.1 b.1.toNat (J,(0,((0,0),(0,(0,(([]:(M L)),(([]:ae),(0,0))))))))).2.2.2.1,((K a.2.2.2.2.1 b.1.toNat (J,(0,((0,0),(0,(0,(([]:(M L)),(([]:ae),(0,0))))))))).2.2.2.2.1,((K a.2.2.2.2.1 b.1.toNat (J,(0,((0,0),(0,(0,(([]:(M L)),(([]:ae),(0,0))))))))).2.2.2.2.2.1,((K a.2.2.2.2.1 b.1.toNat (J,(0,((0,0),(0,(0,(([]:(M L)),(([]:ae),(0,0))))))))).2.2.2.2.2.2.1,((K a.2.2.2.2.1 b.1.toNat (J,(0,((0,0),(0,(0,(([]:(M L)),(([]:ae),(0,0))))))))).2.2.2.2.2.2.2.1,(K a.2.2.2.2.1 b.1.toNat (J,(0,((0,0),(0,(0,(([]:(M L)),(([]:ae),(0,0))))))))).2.2.2.2.2.2.2.2))))))))
 N ((a.1,(a.2.1,(a.2.2.1,[(a.2.2.2.1,(j1,a.2.2.2.2.2))]))),a4.2.1,a4.2.2)) (cond (e.1==2) (let k2:an:=Á a.2.2.2.2.1 b.1.toNat ((K a.2.2.2.2.1 b.1.toNat (J,(0,((0,0),(0,(0,(([]:(M L)),(([]:ae),(0,0))))))))).1,((K a.2.2.2.2.1 b.1.toNat (J,(0,((0,0),(0,(0,(([]:(M L)),(([]:ae),(0,0))))))))).2.1,(((K a.2.2.2.2.1 b.1.toNat (J,(0,((0,0),(0,(0,(([]:(M L)),(([]:ae),(0,0))))))))).2.2.1.1,(K a.2.2.2.2.1 b.1.toNat (J,(0,((0,0),(0,(0,(([]:(M L)),(([]:ae),(0,0))))))))).2.2.1.2),((K a.2.2.2.2.1 b.1.toNat (J,(0,((0,0),(0,(0,(([]:(M L)),(([]:ae),(0,0))))))))).2.2.2.1,((K a.2.2.2.2.1 b.1.toNat (J,(0,((0,0),(0,(0,(([]:(M L)),(([]:ae),(0,0))))))))).2.2.2.2.1,(([]:(M L)),((K a.2.2.2.2.1 b.1.toNat (J,(0,((0,0),(0,(0,(([]:(M L)),(([]:ae),(0,0))))))))).2.2.2.2.2.2.1,((K a.2.2.2.2.1 b.1.toNat (J,(0,((0,0),(0,(0,(([]:(M L)),(([]:ae),(0,0))))))))).2.2.2.2.2.2.2.1,(K a.2.2.2.2.1 b.1.toNat (J,(0,((0,0),(0,(0,(([]:(M L)),(([]:ae),(0,0))))))))).2.2.2.2.2.2.2.2))))))))
 N ((a.1,(a.2.1,(a.2.2.1,[(a.2.2.2.1,(k2,a.2.2.2.2.2))]))),e.2.1,e.2.2)) (cond (e.1==3) (let f6:=W a.2.1.length
 let e5:M Int:=[0,(-1),f6]
 (j03 e.2.1 e.2.2 e5).bind λa1=>let g6:an:=Á a.2.2.2.2.1 b.1.toNat ((K a.2.2.2.2.1 b.1.toNat (J,(0,((0,0),(0,(0,(([]:(M L)),(([]:ae),(0,0))))))))).1,((K a.2.2.2.2.1 b.1.toNat (J,(0,((0,0),(0,(0,(([]:(M L)),(([]:ae),(0,0))))))))).2.1,(((K a.2.2.2.2.1 b.1.toNat (J,(0,((0,0),(0,(0,(([]:(M L)),(([]:ae),(0,0))))))))).2.2.1.1,(K a.2.2.2.2.1 b.1.toNat (J,(0,((0,0),(0,(0,(([]:(M L)),(([]:ae),(0,0))))))))).2.2.1.2),((K a.2.2.2.2.1 b.1.toNat (J,(0,((0,0),(0,(0,(([]:(M L)),(([]:ae),(0,0))))))))).2.2.2.1,((K a.2.2.2.2.1 b.1.toNat (J,(0,((0,0),(0,(0,(([]:(M L)),(([]:ae),(0,0))))))))).2.2.2.2.1,([a1.1],((K a.2.2.2.2.1 b.1.toNat (J,(0,((0,0),(0,(0,(([]:(M L)),(([]:ae),(0,0))))))))).2.2.2.2.2.2.1,((K a.2.2.2.2.1 b.1.toNat (J,(0,((0,0),(0,(0,(([]:(M L)),(([]:ae),(0,0))))))))).2.2.2.2.2.2.2.1,(K a.2.2.2.2.1 b.1.toNat (J,(0,((0,0),(0,(0,(([]:(M L)),(([]:ae),(0,0))))))))).2.2.2.2.2.2.2.2))))))))
 N ((a.1,(a.2.1,(a.2.2.1,[(a.2.2.2.1,(g6,a.2.2.2.2.2))]))),a1.2.1,a1.2.2)) (cond (e.1==4) (let f3:M Int:=[(-1),3]
 (j03 e.2.1 e.2.2 f3).bind λx=>let m4:an:=Á a.2.2.2.2.1 b.1.toNat ((K a.2.2.2.2.1 b.1.toNat (J,(0,((0,0),(0,(0,(([]:(M L)),(([]:ae),(0,0))))))))).1,((K a.2.2.2.2.1 b.1.toNat (J,(0,((0,0),(0,(0,(([]:(M L)),(([]:ae),(0,0))))))))).2.1,(((K a.2.2.2.2.1 b.1.toNat (J,(0,((0,0),(0,(0,(([]:(M L)),(([]:ae),(0,0))))))))).2.2.1.1,(K a.2.2.2.2.1 b.1.toNat (J,(0,((0,0),(0,(0,(([]:(M L)),(([]:ae),(0,0))))))))).2.2.1.2),(x.1,((K a.2.2.2.2.1 b.1.toNat (J,(0,((0,0),(0,(0,(([]:(M L)),(([]:ae),(0,0))))))))).2.2.2.2.1,((K a.2.2.2.2.1 b.1.toNat (J,(0,((0,0),(0,(0,(([]:(M L)),(([]:ae),(0,0))))))))).2.2.2.2.2.1,((K a.2.2.2.2.1 b.1.toNat (J,(0,((0,0),(0,(0,(([]:(M L)),(([]:ae),(0,0))))))))).2.2.2.2.2.2.1,((K a.2.2.2.2.1 b.1.toNat (J,(0,((0,0),(0,(0,(([]:(M L)),(([]:ae),(0,0))))))))).2.2.2.2.2.2.2.1,(K a.2.2.2.2.1 b.1.toNat (J,(0,((0,0),(0,(0,(([]:(M L)),(([]:ae),(0,0))))))))).2.2.2.2.2.2.2.2))))))))
 N ((a.1,(a.2.1,(a.2.2.1,[(a.2.2.2.1,(m4,a.2.2.2.2.2))]))),x.2.1,x.2.2)) (cond (e.1==5) (let d6:M Int:=[0,1,2,3]
 (j03 e.2.1 e.2.2 d6).bind λa5=>let g7:an:=Á a.2.2.2.2.1 b.1.toNat ((K a.2.2.2.2.1 b.1.toNat (J,(0,((0,0),(0,(0,(([]:(M L)),(([]:ae),(0,0))))))))).1,((K a.2.2.2.2.1 b.1.toNat (J,(0,((0,0),(0,(0,(([]:(M L)),(([]:ae),(0,0))))))))).2.1,(((K a.2.2.2.2.1 b.1.toNat (J,(0,((0,0),(0,(0,(([]:(M L)),(([]:ae),(0,0))))))))).2.2.1.1,(K a.2.2.2.2.1 b.1.toNat (J,(0,((0,0),(0,(0,(([]:(M L)),(([]:ae),(0,0))))))))).2.2.1.2),((K a.2.2.2.2.1 b.1.toNat (J,(0,((0,0),(0,(0,(([]:(M L)),(([]:ae),(0,0))))))))).2.2.2.1,((K a.2.2.2.2.1 b.1.toNat (J,(0,((0,0),(0,(0,(([]:(M L)),(([]:ae),(0,0))))))))).2.2.2.2.1,((K a.2.2.2.2.1 b.1.toNat (J,(0,((0,0),(0,(0,(([]:(M L)),(([]:ae),(0,0))))))))).2.2.2.2.2.1,((K a.2.2.2.2.1 b.1.toNat (J,(0,((0,0),(0,(0,(([]:(M L)),(([]:ae),(0,0))))))))).2.2.2.2.2.2.1,((K a.2.2.2.2.1 b.1.toNat (J,(0,((0,0),(0,(0,(([]:(M L)),(([]:ae),(0,0))))))))).2.2.2.2.2.2.2.1,a5.1))))))))
 N ((a.1,(a.2.1,(a.2.2.1,[(a.2.2.2.1,(g7,a.2.2.2.2.2))]))),a5.2.1,a5.2.2)) (cond (e.1==6) (let g0:M Int:=[0,1,(-1)]
 (j03 e.2.1 e.2.2 g0).bind λa2=>let g5:an:=Á a.2.2.2.2.1 b.1.toNat ((K a.2.2.2.2.1 b.1.toNat (J,(0,((0,0),(0,(0,(([]:(M L)),(([]:ae),(0,0))))))))).1,((K a.2.2.2.2.1 b.1.toNat (J,(0,((0,0),(0,(0,(([]:(M L)),(([]:ae),(0,0))))))))).2.1,(((K a.2.2.2.2.1 b.1.toNat (J,(0,((0,0),(0,(0,(([]:(M L)),(([]:ae),(0,0))))))))).2.2.1.1,(K a.2.2.2.2.1 b.1.toNat (J,(0,((0,0),(0,(0,(([]:(M L)),(([]:ae),(0,0))))))))).2.2.1.2),((K a.2.2.2.2.1 b.1.toNat (J,(0,((0,0),(0,(0,(([]:(M L)),(([]:ae),(0,0))))))))).2.2.2.1,((K a.2.2.2.2.1 b.1.toNat (J,(0,((0,0),(0,(0,(([]:(M L)),(([]:ae),(0,0))))))))).2.2.2.2.1,((K a.2.2.2.2.1 b.1.toNat (J,(0,((0,0),(0,(0,(([]:(M L)),(([]:ae),(0,0))))))))).2.2.2.2.2.1,((K a.2.2.2.2.1 b.1.toNat (J,(0,((0,0),(0,(0,(([]:(M L)),(([]:ae),(0,0))))))))).2.2.2.2.2.2.1,(a2.1,(K a.2.2.2.2.1 b.1.toNat (J,(0,((0,0),(0,(0,(([]:(M L)),(([]:ae),(0,0))))))))).2.2.2.2.2.2.2.2))))))))
 N ((a.1,(a.2.1,(a.2.2.1,[(a.2.2.2.1,(g5,a.2.2.2.2.2))]))),a2.2.1,a2.2.2)) (cond (e.1==7) (let b2:M ByteArray:=[(Z #[97,100,97]),(Z #[98,111,98]),(Z #[120,32,121])]
 (j02 e.2.1 e.2.2 3).bind λs=>cond (inR s.1 b2.length) (let f0:=K b2 s.1.toNat J
 let l3:an:=Á a.2.2.2.2.1 b.1.toNat (f0,((K a.2.2.2.2.1 b.1.toNat (J,(0,((0,0),(0,(0,(([]:(M L)),(([]:ae),(0,0))))))))).2.1,(((K a.2.2.2.2.1 b.1.toNat (J,(0,((0,0),(0,(0,(([]:(M L)),(([]:ae),(0,0))))))))).2.2.1.1,(K a.2.2.2.2.1 b.1.toNat (J,(0,((0,0),(0,(0,(([]:(M L)),(([]:ae),(0,0))))))))).2.2.1.2),((K a.2.2.2.2.1 b.1.toNat (J,(0,((0,0),(0,(0,(([]:(M L)),(([]:ae),(0,0))))))))).2.2.2.1,((K a.2.2.2.2.1 b.1.toNat (J,(0,((0,0),(0,(0,(([]:(M L)),(([]:ae),(0,0))))))))).2.2.2.2.1,((K a.2.2.2.2.1 b.1.toNat (J,(0,((0,0),(0,(0,(([]:(M L)),(([]:ae),(0,0))))))))).2.2.2.2.2.1,((K a.2.2.2.2.1 b.1.toNat (J,(0,((0,0),(0,(0,(([]:(M L)),(([]:ae),(0,0))))))))).2.2.2.2.2.2.1,((K a.2.2.2.2.1 b.1.toNat (J,(0,((0,0),(0,(0,(([]:(M L)),(([]:ae),(0,0))))))))).2.2.2.2.2.2.2.1,(K a.2.2.2.2.1 b.1.toNat (J,(0,((0,0),(0,(0,(([]:(M L)),(([]:ae),(0,0))))))))).2.2.2.2.2.2.2.2))))))))
 N ((a.1,(a.2.1,(a.2.2.1,[(a.2.2.2.1,(l3,a.2.2.2.2.2))]))),s.2.1,s.2.2)) Y) (N ((a.1,(a.2.1,(a.2.2.1,[(a.2.2.2.1,(a.2.2.2.2.1,a.2.2.2.2.2))]))),e.2.1,e.2.2)))))))))) Y)) Y) ((j02 i.2.1 i.2.2 1).bind λd5=>cond (inR d5.1 1) ((j49 d5.2.1 d5.2.2 ((Â a.1.length ()),((Â a.2.1.length ()),((Â a.2.2.1.length ()),(Â 1 ()))))).bind λj=>(j02 j.2.1 j.2.2 5).bind λk=>cond (k.1==0) (let i4:ax:=[(j.1.1,(j.1.2.1,(j.1.2.2.1,(j.1.2.2.2.1,j.1.2.2.2.1))))]
 cond (O (U a.2.2.2.2.2+U i4<=aF)) (let n9:ax:=a.2.2.2.2.2++i4
 N ((a.1,(a.2.1,(a.2.2.1,[(a.2.2.2.1,(a.2.2.2.2.1,n9))]))),k.2.1,k.2.2)) Y) (cond (k.1==1) (let n7:=W a.2.1.length
 let m8:M Int:=[(-1),(-2),n7]
 (j03 k.2.1 k.2.2 m8).bind λf9=>let c6:ax:=[(j.1.1,(f9.1,(j.1.2.2.1,(j.1.2.2.2.1,j.1.2.2.2.2))))]
 cond (O (U a.2.2.2.2.2+U c6<=aF)) (let g4:ax:=a.2.2.2.2.2++c6
 N ((a.1,(a.2.1,(a.2.2.1,[(a.2.2.2.1,(a.2.2.2.2.1,g4))]))),f9.2.1,f9.2.2)) Y) (cond (k.1==2) (let n5:M Int:=[0,1,j.1.2.1]
 (j03 k.2.1 k.2.2 n5).bind λd9=>let c8:ax:=[(j.1.1,(j.1.2.1,(d9.1,(j.1.2.2.2.1,j.1.2.2.2.2))))]
 cond (O (U a.2.2.2.2.2+U c8<=aF)) (let i0:ax:=a.2.2.2.2.2++c8
 N ((a.1,(a.2.1,(a.2.2.1,[(a.2.2.2.1,(a.2.2.2.2.1,i0))]))),d9.2.1,d9.2.2)) Y) (cond (k.1==3) (let o0:M Int:=[0,(-1)]
 (j03 k.2.1 k.2.2 o0).bind λe9=>let n0:M Int:=[8551872000,8551958399,8551958400,8589934592]
 (j03 e9.2.1 e9.2.2 n0).bind λg2=>let c9:ax:=[(j.1.1,(j.1.2.1,(j.1.2.2.1,(e9.1,g2.1))))]
 cond (O (U a.2.2.2.2.2+U c9<=aF)) (let i2:ax:=a.2.2.2.2.2++c9
 N ((a.1,(a.2.1,(a.2.2.1,[(a.2.2.2.1,(a.2.2.2.2.1,i2))]))),g2.2.1,g2.2.2)) Y) (cond (k.1==4) (let n8:M Int:=[(-1),3]
 (j03 k.2.1 k.2.2 n8).bind λd2=>let c7:ax:=[(d2.1,(j.1.2.1,(j.1.2.2.1,(j.1.2.2.2.1,j.1.2.2.2.2))))]
 cond (O (U a.2.2.2.2.2+U c7<=aF)) (let i1:ax:=a.2.2.2.2.2++c7
 N ((a.1,(a.2.1,(a.2.2.1,[(a.2.2.2.1,(a.2.2.2.2.1,i1))]))),d2.2.1,d2.2.2)) Y) (let d0:ax:=[(j.1.1,(j.1.2.1,(j.1.2.2.1,(j.1.2.2.2.1,j.1.2.2.2.2))))]
 cond (O (U a.2.2.2.2.2+U d0<=aF)) (let g9:ax:=a.2.2.2.2.2++d0
 N ((a.1,(a.2.1,(a.2.2.1,[(a.2.2.2.1,(a.2.2.2.2.1,g9))]))),k.2.1,k.2.2)) Y)))))) Y))))))))))
def jg4(a:bR):S (ai×aj×al×X×X×an×ax×an×ax):=cond (O (U ([]:ai)+U a.1<=aF)) (let q:ai:=([]:ai)++a.1
 cond (O (U ([]:aj)+U a.2.1<=aF)) (let j:aj:=([]:aj)++a.2.1
 cond (O (U ([]:al)+U a.2.2.1<=aF)) (let k:al:=([]:al)++a.2.2.1
 let l:=W a.2.2.2.length
 cond (O (0<l)) (cond (inR 0 a.2.2.2.length) (let d:=K a.2.2.2 0 (J,(([]:an),([]:ax)))
 cond (O (U ([]:an)+U d.2.1<=aF)) (let n:an:=([]:an)++d.2.1
 cond (O (U ([]:ax)+U d.2.2<=aF)) (let m:ax:=([]:ax)++d.2.2
 let i:=W a.2.2.2.length
 cond (O (1<i)) (cond (inR 1 a.2.2.2.length) (let b:=K a.2.2.2 1 (J,(([]:an),([]:ax)))
 cond (O (U ([]:an)+U b.2.1<=aF)) (let e:an:=([]:an)++b.2.1
 cond (O (U ([]:ax)+U b.2.2<=aF)) (let f:ax:=([]:ax)++b.2.2
 let g:=W a.2.2.2.length
 cond (O (2<g)) (cond (inR 2 a.2.2.2.length) (let c:=K a.2.2.2 2 (J,(([]:an),([]:ax)))
 cond (O (U ([]:an)+U c.2.1<=aF)) (let p:an:=([]:an)++c.2.1
 cond (O (U ([]:ax)+U c.2.2<=aF)) (let o:ax:=([]:ax)++c.2.2
 Y) Y) Y) Y) (N (q,j,k,d.1,b.1,n,m,e,f))) Y) Y) Y) (Y)) Y) Y) Y) (Y)) Y) Y) Y
def j9M(s8:M L)(j2:L)(e0:bR):S (bR×(M L)×L):=(jg4 (e0.1,(e0.2.1,(e0.2.2.1,e0.2.2.2)))).bind λa=>(j02 s8 j2 12).bind λp=>cond (p.1==0) (let x8:=W a.1.length
 (j02 p.2.1 p.2.2 x8).bind λd6=>let y0:M Int:=[30,64800,64860,(-64800),(-64801)]
 (j03 d6.2.1 d6.2.2 y0).bind λo6=>cond (inR d6.1 a.1.length) (let y5:ai:=Á a.1 d6.1.toNat ((K a.1 d6.1.toNat (J,(0,([]:aX)))).1,(o6.1,(K a.1 d6.1.toNat (J,(0,([]:aX)))).2.2))
 N ((y5,(a.2.1,(a.2.2.1,[(a.2.2.2.1,(a.2.2.2.2.2.1,a.2.2.2.2.2.2.1)),(a.2.2.2.2.1,(a.2.2.2.2.2.2.2.1,a.2.2.2.2.2.2.2.2))]))),o6.2.1,o6.2.2)) Y) (cond (p.1==1) (let y2:=W a.2.1.length
 (j02 p.2.1 p.2.2 y2).bind λz=>let w7:=W a.1.length
 let s6:M Int:=[(-1),w7]
 (j03 z.2.1 z.2.2 s6).bind λg5=>cond (inR z.1 a.2.1.length) (let x6:aj:=Á a.2.1 z.1.toNat ((K a.2.1 z.1.toNat (J,(0,(([]:ae),(0,(0,À)))))).1,(g5.1,((K a.2.1 z.1.toNat (J,(0,(([]:ae),(0,(0,À)))))).2.2.1,((K a.2.1 z.1.toNat (J,(0,(([]:ae),(0,(0,À)))))).2.2.2.1,((K a.2.1 z.1.toNat (J,(0,(([]:ae),(0,(0,À)))))).2.2.2.2.1,(K a.2.1 z.1.toNat (J,(0,(([]:ae),(0,(0,À)))))).2.2.2.2.2)))))
 N ((a.1,(x6,(a.2.2.1,[(a.2.2.2.1,(a.2.2.2.2.2.1,a.2.2.2.2.2.2.1)),(a.2.2.2.2.1,(a.2.2.2.2.2.2.2.1,a.2.2.2.2.2.2.2.2))]))),g5.2.1,g5.2.2)) Y) (cond (p.1==2) (let s9:=W a.2.1.length
 (j02 p.2.1 p.2.2 s9).bind λx=>let m0:M ByteArray:=[(Z #[110,111,98,111,100,121]),J,(Z #[65,100,97]),(Z #[97,100,97]),(Z #[97,45,49,95,98])]
 (j02 x.2.1 x.2.2 5).bind λe4=>cond (inR e4.1 m0.length) (let x0:=K m0 e4.1.toNat J
 cond (inR x.1 a.2.1.length) (let z0:aj:=Á a.2.1 x.1.toNat (x0,((K a.2.1 x.1.toNat (J,(0,(([]:ae),(0,(0,À)))))).2.1,((K a.2.1 x.1.toNat (J,(0,(([]:ae),(0,(0,À)))))).2.2.1,((K a.2.1 x.1.toNat (J,(0,(([]:ae),(0,(0,À)))))).2.2.2.1,((K a.2.1 x.1.toNat (J,(0,(([]:ae),(0,(0,À)))))).2.2.2.2.1,(K a.2.1 x.1.toNat (J,(0,(([]:ae),(0,(0,À)))))).2.2.2.2.2)))))
 N ((a.1,(z0,(a.2.2.1,[(a.2.2.2.1,(a.2.2.2.2.2.1,a.2.2.2.2.2.2.1)),(a.2.2.2.2.1,(a.2.2.2.2.2.2.2.1,a.2.2.2.2.2.2.2.2))]))),e4.2.1,e4.2.2)) Y) Y) (cond (p.1==3) (let t9:=W a.2.1.length
 (j02 p.2.1 p.2.2 t9).bind λy=>let v3:M Int:=[1,(-3600),604800,608400]
 (j03 y.2.1 y.2.2 v3).bind λf5=>cond (inR y.1 a.2.1.length) (let q0:aj:=Á a.2.1 y.1.toNat ((K a.2.1 y.1.toNat (J,(0,(([]:ae),(0,(0,À)))))).1,((K a.2.1 y.1.toNat (J,(0,(([]:ae),(0,(0,À)))))).2.1,((K a.2.1 y.1.toNat (J,(0,(([]:ae),(0,(0,À)))))).2.2.1,((K a.2.1 y.1.toNat (J,(0,(([]:ae),(0,(0,À)))))).2.2.2.1,(f5.1,(K a.2.1 y.1.toNat (J,(0,(([]:ae),(0,(0,À)))))).2.2.2.2.2)))))
 N ((a.1,(q0,(a.2.2.1,[(a.2.2.2.1,(a.2.2.2.2.2.1,a.2.2.2.2.2.2.1)),(a.2.2.2.2.1,(a.2.2.2.2.2.2.2.1,a.2.2.2.2.2.2.2.2))]))),f5.2.1,f5.2.2)) Y) (cond (p.1==4) (let u9:=W a.2.1.length
 (j02 p.2.1 p.2.2 u9).bind λw=>let x5:M Int:=[0,(-1),5]
 (j03 w.2.1 w.2.2 x5).bind λf4=>let u4:M Int:=[5,604800,604801]
 (j03 f4.2.1 f4.2.2 u4).bind λf6=>let u8:ae:=[(f4.1,f6.1)]
 cond (inR w.1 a.2.1.length) (let y1:aj:=Á a.2.1 w.1.toNat ((K a.2.1 w.1.toNat (J,(0,(([]:ae),(0,(0,À)))))).1,((K a.2.1 w.1.toNat (J,(0,(([]:ae),(0,(0,À)))))).2.1,(u8,((K a.2.1 w.1.toNat (J,(0,(([]:ae),(0,(0,À)))))).2.2.2.1,((K a.2.1 w.1.toNat (J,(0,(([]:ae),(0,(0,À)))))).2.2.2.2.1,(K a.2.1 w.1.toNat (J,(0,(([]:ae),(0,(0,À)))))).2.2.2.2.2)))))
 N ((a.1,(y1,(a.2.2.1,[(a.2.2.2.1,(a.2.2.2.2.2.1,a.2.2.2.2.2.2.1)),(a.2.2.2.2.1,(a.2.2.2.2.2.2.2.1,a.2.2.2.2.2.2.2.2))]))),f6.2.1,f6.2.2)) Y) (cond (p.1==5) (let k2:M ByteArray:=[(Z #[100,97,121,115]),(Z #[111,116,104,101,114])]
 (j02 p.2.1 p.2.2 2).bind λe3=>cond (inR e3.1 k2.length) (let v0:=K k2 e3.1.toNat J
 let w1:M Int:=[5,(-1)]
 (j03 e3.2.1 e3.2.2 w1).bind λg3=>let t0:M Int:=[5,6,100000]
 (j03 g3.2.1 g3.2.2 t0).bind λg4=>let t1:M Int:=[g3.1,g4.1]
 let i8:al:=[(v0,(0,t1))]
 cond (O (U a.2.2.1+U i8<=aF)) (let w6:al:=a.2.2.1++i8
 N ((a.1,(a.2.1,(w6,[(a.2.2.2.1,(a.2.2.2.2.2.1,a.2.2.2.2.2.2.1)),(a.2.2.2.2.1,(a.2.2.2.2.2.2.2.1,a.2.2.2.2.2.2.2.2))]))),g4.2.1,g4.2.2)) Y) Y) (cond (p.1==6) (let l8:M ByteArray:=[(Z #[102,105,114,115,116]),(Z #[102,111,117,114,116,104])]
 (j02 p.2.1 p.2.2 2).bind λe5=>cond (inR e5.1 l8.length) (let v5:=K l8 e5.1.toNat J
 N ((a.1,(a.2.1,(a.2.2.1,[(a.2.2.2.1,(a.2.2.2.2.2.1,a.2.2.2.2.2.2.1)),(a.2.2.2.2.1,(a.2.2.2.2.2.2.2.1,a.2.2.2.2.2.2.2.2)),(v5,(([]:an),([]:ax)))]))),e5.2.1,e5.2.2)) Y) (cond (p.1==7) ((j02 p.2.1 p.2.2 2).bind λv=>cond (v.1==0) (let k3:=W a.2.2.2.2.2.1.length
 cond (k3==0) (N ((a.1,(a.2.1,(a.2.2.1,[(a.2.2.2.1,(a.2.2.2.2.2.1,a.2.2.2.2.2.2.1)),(a.2.2.2.2.1,(a.2.2.2.2.2.2.2.1,a.2.2.2.2.2.2.2.2))]))),v.2.1,v.2.2)) (let k0:=W a.2.2.2.2.2.1.length
 (j02 v.2.1 v.2.2 k0).bind λc=>cond (inR c.1 a.2.2.2.2.2.1.length) ((j02 c.2.1 c.2.2 8).bind λk=>cond (k.1==0) (let m9:M Int:=[0,1,400,401]
 (j03 k.2.1 k.2.2 m9).bind λc0=>let v7:an:=Á a.2.2.2.2.2.1 c.1.toNat ((K a.2.2.2.2.2.1 c.1.toNat (J,(0,((0,0),(0,(0,(([]:(M L)),(([]:ae),(0,0))))))))).1,((K a.2.2.2.2.2.1 c.1.toNat (J,(0,((0,0),(0,(0,(([]:(M L)),(([]:ae),(0,0))))))))).2.1,(((K a.2.2.2.2.2.1 c.1.toNat (J,(0,((0,0),(0,(0,(([]:(M L)),(([]:ae),(0,0))))))))).2.2.1.1,(K a.2.2.2.2.2.1 c.1.toNat (J,(0,((0,0),(0,(0,(([]:(M L)),(([]:ae),(0,0))))))))).2.2.1.2),((K a.2.2.2.2.2.1 c.1.toNat (J,(0,((0,0),(0,(0,(([]:(M L)),(([]:ae),(0,0))))))))).2.2.2.1,(c0.1,((K a.2.2.2.2.2.1 c.1.toNat (J,(0,((0,0),(0,(0,(([]:(M L)),(([]:ae),(0,0))))))))).2.2.2.2.2.1,((K a.2.2.2.2.2.1 c.1.toNat (J,(0,((0,0),(0,(0,(([]:(M L)),(([]:ae),(0,0))))))))).2.2.2.2.2.2.1,((K a.2.2.2.2.2.1 c.1.toNat (J,(0,((0,0),(0,(0,(([]:(M L)),(([]:ae),(0,0))))))))).2.2.2.2.2.2.2.1,(K a.2.2.2.2.2.1 c.1.toNat (J,(0,((0,0),(0,(0,(([]:(M L)),(([]:ae),(0,0))))))))).2.2.2.2.2.2.2.2))))))))
 N ((a.1,(a.2.1,(a.2.2.1,[(a.2.2.2.1,(v7,a.2.2.2.2.2.2.1)),(a.2.2.2.2.1,(a.2.2.2.2.2.2.2.1,a.2.2.2.2.2.2.2.2))]))),c0.2.1,c0.2.2)) (cond (k.1==1) (let j8:M Int:=[0,1,(-5),98979,98981]
 (j03 k.2.1 k.2.2 j8).bind λb4=>let t6:an:=Á a.2.2.2.2.2.1 c.1.toNat ((K a.2.2.2.2.2.1 c.1.toNat (J,(0,((0,0),(0,(0,(([]:(M L)),(([]:ae),(0,0))))))))).1,((K a.2.2.2.2.2.1 c.1.toNat (J,(0,((0,0),(0,(0,(([]:(M L)),(([]:ae),(0,0))))))))).2.1,((b4.1,(K a.2.2.2.2.2.1 c.1.toNat (J,(0,((0,0),(0,(0,(([]:(M L)),(([]:ae),(0,0))))))))).2.2.1.2),((K a.2.2.2.2.2.1 c.1.toNat (J,(0,((0,0),(0,(0,(([]:(M L)),(([]:ae),(0,0))))))))).2.2.2.1,((K a.2.2.2.2.2.1 c.1.toNat (J,(0,((0,0),(0,(0,(([]:(M L)),(([]:ae),(0,0))))))))).2.2.2.2.1,((K a.2.2.2.2.2.1 c.1.toNat (J,(0,((0,0),(0,(0,(([]:(M L)),(([]:ae),(0,0))))))))).2.2.2.2.2.1,((K a.2.2.2.2.2.1 c.1.toNat (J,(0,((0,0),(0,(0,(([]:(M L)),(([]:ae),(0,0))))))))).2.2.2.2.2.2.1,((K a.2.2.2.2.2.1 c.1.toNat (J,(0,((0,0),(0,(0,(([]:(M L)),(([]:ae),(0,0))))))))).2.2.2.2.2.2.2.1,(K a.2.2.2.2.2.1 c.1.toNat (J,(0,((0,0),(0,(0,(([]:(M L)),(([]:ae),(0,0))))))))).2.2.2.2.2.2.2.2))))))))
 N ((a.1,(a.2.1,(a.2.2.1,[(a.2.2.2.1,(t6,a.2.2.2.2.2.2.1)),(a.2.2.2.2.1,(a.2.2.2.2.2.2.2.1,a.2.2.2.2.2.2.2.2))]))),b4.2.1,b4.2.2)) (cond (k.1==2) (let w5:an:=Á a.2.2.2.2.2.1 c.1.toNat ((K a.2.2.2.2.2.1 c.1.toNat (J,(0,((0,0),(0,(0,(([]:(M L)),(([]:ae),(0,0))))))))).1,((K a.2.2.2.2.2.1 c.1.toNat (J,(0,((0,0),(0,(0,(([]:(M L)),(([]:ae),(0,0))))))))).2.1,(((K a.2.2.2.2.2.1 c.1.toNat (J,(0,((0,0),(0,(0,(([]:(M L)),(([]:ae),(0,0))))))))).2.2.1.1,(K a.2.2.2.2.2.1 c.1.toNat (J,(0,((0,0),(0,(0,(([]:(M L)),(([]:ae),(0,0))))))))).2.2.1.2),((K a.2.2.2.2.2.1 c.1.toNat (J,(0,((0,0),(0,(0,(([]:(M L)),(([]:ae),(0,0))))))))).2.2.2.1,((K a.2.2.2.2.2.1 c.1.toNat (J,(0,((0,0),(0,(0,(([]:(M L)),(([]:ae),(0,0))))))))).2.2.2.2.1,(([]:(M L)),((K a.2.2.2.2.2.1 c.1.toNat (J,(0,((0,0),(0,(0,(([]:(M L)),(([]:ae),(0,0))))))))).2.2.2.2.2.2.1,((K a.2.2.2.2.2.1 c.1.toNat (J,(0,((0,0),(0,(0,(([]:(M L)),(([]:ae),(0,0))))))))).2.2.2.2.2.2.2.1,(K a.2.2.2.2.2.1 c.1.toNat (J,(0,((0,0),(0,(0,(([]:(M L)),(([]:ae),(0,0))))))))).2.2.2.2.2.2.2.2))))))))
 N ((a.1,(a.2.1,(a.2.2.1,[(a.2.2.2.1,(w5,a.2.2.2.2.2.2.1)),(a.2.2.2.2.1,(a.2.2.2.2.2.2.2.1,a.2.2.2.2.2.2.2.2))]))),k.2.1,k.2.2)) (cond (k.1==3) (let m8:=W a.2.1.length
 let n2:M Int:=[0,(-1),m8]
 (j03 k.2.1 k.2.2 n2).bind λb9=>let s1:an:=Á a.2.2.2.2.2.1 c.1.toNat ((K a.2.2.2.2.2.1 c.1.toNat (J,(0,((0,0),(0,(0,(([]:(M L)),(([]:ae),(0,0))))))))).1,((K a.2.2.2.2.2.1 c.1.toNat (J,(0,((0,0),(0,(0,(([]:(M L)),(([]:ae),(0,0))))))))).2.1,(((K a.2.2.2.2.2.1 c.1.toNat (J,(0,((0,0),(0,(0,(([]:(M L)),(([]:ae),(0,0))))))))).2.2.1.1,(K a.2.2.2.2.2.1 c.1.toNat (J,(0,((0,0),(0,(0,(([]:(M L)),(([]:ae),(0,0))))))))).2.2.1.2),((K a.2.2.2.2.2.1 c.1.toNat (J,(0,((0,0),(0,(0,(([]:(M L)),(([]:ae),(0,0))))))))).2.2.2.1,((K a.2.2.2.2.2.1 c.1.toNat (J,(0,((0,0),(0,(0,(([]:(M L)),(([]:ae),(0,0))))))))).2.2.2.2.1,([b9.1],((K a.2.2.2.2.2.1 c.1.toNat (J,(0,((0,0),(0,(0,(([]:(M L)),(([]:ae),(0,0))))))))).2.2.2.2.2.2.1,((K a.2.2.2.2.2.1 c.1.toNat (J,(0,((0,0),(0,(0,(([]:(M L)),(([]:ae),(0,0))))))))).2.2.2.2.2.2.2.1,(K a.2.2.2.2.2.1 c.1.toNat (J,(0,((0,0),(0,(0,(([]:(M L)),(([]:ae),(0,0))))))))).2.2.2.2.2.2.2.2))))))))
 N ((a.1,(a.2.1,(a.2.2.1,[(a.2.2.2.1,(s1,a.2.2.2.2.2.2.1)),(a.2.2.2.2.1,(a.2.2.2.2.2.2.2.1,a.2.2.2.2.2.2.2.2))]))),b9.2.1,b9.2.2)) (cond (k.1==4) (let l4:M Int:=[(-1),3]
 (j03 k.2.1 k.2.2 l4).bind λa6=>let u3:an:=Á a.2.2.2.2.2.1 c.1.toNat ((K a.2.2.2.2.2.1 c.1.toNat (J,(0,((0,0),(0,(0,(([]:(M L)),(([]:ae),(0,0))))))))).1,((K a.2.2.2.2.2.1 c.1.toNat (J,(0,((0,0),(0,(0,(([]:(M L)),(([]:ae),(0,0))))))))).2.1,(((K a.2.2.2.2.2.1 c.1.toNat (J,(0,((0,0),(0,(0,(([]:(M L)),(([]:ae),(0,0))))))))).2.2.1.1,(K a.2.2.2.2.2.1 c.1.toNat (J,(0,((0,0),(0,(0,(([]:(M L)),(([]:ae),(0,0))))))))).2.2.1.2),(a6.1,((K a.2.2.2.2.2.1 c.1.toNat (J,(0,((0,0),(0,(0,(([]:(M L)),(([]:ae),(0,0))))))))).2.2.2.2.1,((K a.2.2.2.2.2.1 c.1.toNat (J,(0,((0,0),(0,(0,(([]:(M L)),(([]:ae),(0,0))))))))).2.2.2.2.2.1,((K a.2.2.2.2.2.1 c.1.toNat (J,(0,((0,0),(0,(0,(([]:(M L)),(([]:ae),(0,0))))))))).2.2.2.2.2.2.1,((K a.2.2.2.2.2.1 c.1.toNat (J,(0,((0,0),(0,(0,(([]:(M L)),(([]:ae),(0,0))))))))).2.2.2.2.2.2.2.1,(K a.2.2.2.2.2.1 c.1.toNat (J,(0,((0,0),(0,(0,(([]:(M L)),(([]:ae),(0,0))))))))).2.2.2.2.2.2.2.2))))))))
 N ((a.1,(a.2.1,(a.2.2.1,[(a.2.2.2.1,(u3,a.2.2.2.2.2.2.1)),(a.2.2.2.2.1,(a.2.2.2.2.2.2.2.1,a.2.2.2.2.2.2.2.2))]))),a6.2.1,a6.2.2)) (cond (k.1==5) (let i5:M Int:=[0,1,2,3]
 (j03 k.2.1 k.2.2 i5).bind λa7=>let v2:an:=Á a.2.2.2.2.2.1 c.1.toNat ((K a.2.2.2.2.2.1 c.1.toNat (J,(0,((0,0),(0,(0,(([]:(M L)),(([]:ae),(0,0))))))))).1,((K a.2.2.2.2.2.1 c.1.toNat (J,(0,((0,0),(0,(0,(([]:(M L)),(([]:ae),(0,0))))))))).2.1,(((K a.2.2.2.2.2.1 c.1.toNat (J,(0,((0,0),(0,(0,(([]:(M L)),(([]:ae),(0,0))))))))).2.2.1.1,(K a.2.2.2.2.2.1 c.1.toNat (J,(0,((0,0),(0,(0,(([]:(M L)),(([]:ae),(0,0))))))))).2.2.1.2),((K a.2.2.2.2.2.1 c.1.toNat (J,(0,((0,0),(0,(0,(([]:(M L)),(([]:ae),(0,0))))))))).2.2.2.1,((K a.2.2.2.2.2.1 c.1.toNat (J,(0,((0,0),(0,(0,(([]:(M L)),(([]:ae),(0,0))))))))).2.2.2.2.1,((K a.2.2.2.2.2.1 c.1.toNat (J,(0,((0,0),(0,(0,(([]:(M L)),(([]:ae),(0,0))))))))).2.2.2.2.2.1,((K a.2.2.2.2.2.1 c.1.toNat (J,(0,((0,0),(0,(0,(([]:(M L)),(([]:ae),(0,0))))))))).2.2.2.2.2.2.1,((K a.2.2.2.2.2.1 c.1.toNat (J,(0,((0,0),(0,(0,(([]:(M L)),(([]:ae),(0,0))))))))).2.2.2.2.2.2.2.1,a7.1))))))))
 N ((a.1,(a.2.1,(a.2.2.1,[(a.2.2.2.1,(v2,a.2.2.2.2.2.2.1)),(a.2.2.2.2.1,(a.2.2.2.2.2.2.2.1,a.2.2.2.2.2.2.2.2))]))),a7.2.1,a7.2.2)) (cond (k.1==6) (let n5:M Int:=[0,1,(-1)]
 (j03 k.2.1 k.2.2 n5).bind λc4=>let v4:an:=Á a.2.2.2.2.2.1 c.1.toNat ((K a.2.2.2.2.2.1 c.1.toNat (J,(0,((0,0),(0,(0,(([]:(M L)),(([]:ae),(0,0))))))))).1,((K a.2.2.2.2.2.1 c.1.toNat (J,(0,((0,0),(0,(0,(([]:(M L)),(([]:ae),(0,0))))))))).2.1,(((K a.2.2.2.2.2.1 c.1.toNat (J,(0,((0,0),(0,(0,(([]:(M L)),(([]:ae),(0,0))))))))).2.2.1.1,(K a.2.2.2.2.2.1 c.1.toNat (J,(0,((0,0),(0,(0,(([]:(M L)),(([]:ae),(0,0))))))))).2.2.1.2),((K a.2.2.2.2.2.1 c.1.toNat (J,(0,((0,0),(0,(0,(([]:(M L)),(([]:ae),(0,0))))))))).2.2.2.1,((K a.2.2.2.2.2.1 c.1.toNat (J,(0,((0,0),(0,(0,(([]:(M L)),(([]:ae),(0,0))))))))).2.2.2.2.1,((K a.2.2.2.2.2.1 c.1.toNat (J,(0,((0,0),(0,(0,(([]:(M L)),(([]:ae),(0,0))))))))).2.2.2.2.2.1,((K a.2.2.2.2.2.1 c.1.toNat (J,(0,((0,0),(0,(0,(([]:(M L)),(([]:ae),(0,0))))))))).2.2.2.2.2.2.1,(c4.1,(K a.2.2.2.2.2.1 c.1.toNat (J,(0,((0,0),(0,(0,(([]:(M L)),(([]:ae),(0,0))))))))).2.2.2.2.2.2.2.2))))))))
 N ((a.1,(a.2.1,(a.2.2.1,[(a.2.2.2.1,(v4,a.2.2.2.2.2.2.1)),(a.2.2.2.2.1,(a.2.2.2.2.2.2.2.1,a.2.2.2.2.2.2.2.2))]))),c4.2.1,c4.2.2)) (cond (k.1==7) (let f1:M ByteArray:=[(Z #[97,100,97]),(Z #[98,111,98]),(Z #[120,32,121])]
 (j02 k.2.1 k.2.2 3).bind λa0=>cond (inR a0.1 f1.length) (let o4:=K f1 a0.1.toNat J
 let v6:an:=Á a.2.2.2.2.2.1 c.1.toNat (o4,((K a.2.2.2.2.2.1 c.1.toNat (J,(0,((0,0),(0,(0,(([]:(M L)),(([]:ae),(0,0))))))))).2.1,(((K a.2.2.2.2.2.1 c.1.toNat (J,(0,((0,0),(0,(0,(([]:(M L)),(([]:ae),(0,0))))))))).2.2.1.1,(K a.2.2.2.2.2.1 c.1.toNat (J,(0,((0,0),(0,(0,(([]:(M L)),(([]:ae),(0,0))))))))).2.2.1.2),((K a.2.2.2.2.2.1 c.1.toNat (J,(0,((0,0),(0,(0,(([]:(M L)),(([]:ae),(0,0))))))))).2.2.2.1,((K a.2.2.2.2.2.1 c.1.toNat (J,(0,((0,0),(0,(0,(([]:(M L)),(([]:ae),(0,0))))))))).2.2.2.2.1,((K a.2.2.2.2.2.1 c.1.toNat (J,(0,((0,0),(0,(0,(([]:(M L)),(([]:ae),(0,0))))))))).2.2.2.2.2.1,((K a.2.2.2.2.2.1 c.1.toNat (J,(0,((0,0),(0,(0,(([]:(M L)),(([]:ae),(0,0))))))))).2.2.2.2.2.2.1,((K a.2.2.2.2.2.1 c.1.toNat (J,(0,((0,0),(0,(0,(([]:(M L)),(([]:ae),(0,0))))))))).2.2.2.2.2.2.2.1,(K a.2.2.2.2.2.1 c.1.toNat (J,(0,((0,0),(0,(0,(([]:(M L)),(([]:ae),(0,0))))))))).2.2.2.2.2.2.2.2))))))))
 N ((a.1,(a.2.1,(a.2.2.1,[(a.2.2.2.1,(v6,a.2.2.2.2.2.2.1)),(a.2.2.2.2.1,(a.2.2.2.2.2.2.2.1,a.2.2.2.2.2.2.2.2))]))),a0.2.1,a0.2.2)) Y) (N ((a.1,(a.2.1,(a.2.2.1,[(a.2.2.2.1,(a.2.2.2.2.2.1,a.2.2.2.2.2.2.1)),(a.2.2.2.2.1,(a.2.2.2.2.2.2.2.1,a.2.2.2.2.2.2.2.2))]))),k.2.1,k.2.2)))))))))) Y)) (cond (v.1==1) (let v1:=W a.2.2.2.2.2.2.2.1.length
 cond (v1==0) (N ((a.1,(a.2.1,(a.2.2.1,[(a.2.2.2.1,(a.2.2.2.2.2.1,a.2.2.2.2.2.2.1)),(a.2.2.2.2.1,(a.2.2.2.2.2.2.2.1,a.2.2.2.2.2.2.2.2))]))),v.2.1,v.2.2)) (let u2:=W a.2.2.2.2.2.2.2.1.length
 (j02 v.2.1 v.2.2 u2).bind λg=>cond (inR g.1 a.2.2.2.2.2.2.2.1.length) ((j02 g.2.1 g.2.2 8).bind λo=>cond (o.1==0) (let t8:M Int:=[0,1,400,401]
 (j03 o.2.1 o.2.2 t8).bind λg1=>let z3:an:=Á a.2.2.2.2.2.2.2.1 g.1.toNat ((K a.2.2.2.2.2.2.2.1 g.1.toNat (J,(0,((0,0),(0,(0,(([]:(M L)),(([]:ae),(0,0))))))))).1,((K a.2.2.2.2.2.2.2.1 g.1.toNat (J,(0,((0,0),(0,(0,(([]:(M L)),(([]:ae),(0,0))))))))).2.1,(((K a.2.2.2.2.2.2.2.1 g.1.toNat (J,(0,((0,0),(0,(0,(([]:(M L)),(([]:ae),(0,0))))))))).2.2.1.1,(K a.2.2.2.2.2.2.2.1 g.1.toNat (J,(0,((0,0),(0,(0,(([]:(M L)),(([]:ae),(0,0))))))))).2.2.1.2),((K a.2.2.2.2.2.2.2.1 g.1.toNat (J,(0,((0,0),(0,(0,(([]:(M L)),(([]:ae),(0,0))))))))).2.2.2.1,(g1.1,((K a.2.2.2.2.2.2.2.1 g.1.toNat (J,(0,((0,0),(0,(0,(([]:(M L)),(([]:ae),(0,0))))))))).2.2.2.2.2.1,((K a.2.2.2.2.2.2.2.1 g.1.toNat (J,(0,((0,0),(0,(0,(([]:(M L)),(([]:ae),(0,0))))))))).2.2.2.2.2.2.1,((K a.2.2.2.2.2.2.2.1 g.1.toNat (J,(0,((0,0),(0,(0,(([]:(M L)),(([]:ae),(0,0))))))))).2.2.2.2.2.2.2.1,(K a.2.2.2.2.2.2.2.1 g.1.toNat (J,(0,((0,0),(0,(0,(([]:(M L)),(([]:ae),(0,0))))))))).2.2.2.2.2.2.2.2))))))))
 N ((a.1,(a.2.1,(a.2.2.1,[(a.2.2.2.1,(a.2.2.2.2.2.1,a.2.2.2.2.2.2.1)),(a.2.2.2.2.1,(z3,a.2.2.2.2.2.2.2.2))]))),g1.2.1,g1.2.2)) (cond (o.1==1) (let x3:M Int:=[0,1,(-5),98979,98981]
 (j03 o.2.1 o.2.2 x3).bind λf9=>let z4:an:=Á a.2.2.2.2.2.2.2.1 g.1.toNat ((K a.2.2.2.2.2.2.2.1 g.1.toNat (J,(0,((0,0),(0,(0,(([]:(M L)),(([]:ae),(0,0))))))))).1,((K a.2.2.2.2.2.2.2.1 g.1.toNat (J,(0,((0,0),(0,(0,(([]:(M L)),(([]:ae),(0,0))))))))).2.1,((f9.1,(K a.2.2.2.2.2.2.2.1 g.1.toNat (J,(0,((0,0),(0,(0,(([]:(M L)),(([]:ae),(0,0))))))))).2.2.1.2),((K a.2.2.2.2.2.2.2.1 g.1.toNat (J,(0,((0,0),(0,(0,(([]:(M L)),(([]:ae),(0,0))))))))).2.2.2.1,((K a.2.2.2.2.2.2.2.1 g.1.toNat (J,(0,((0,0),(0,(0,(([]:(M L)),(([]:ae),(0,0))))))))).2.2.2.2.1,((K a.2.2.2.2.2.2.2.1 g.1.toNat (J,(0,((0,0),(0,(0,(([]:(M L)),(([]:ae),(0,0))))))))).2.2.2.2.2.1,((K a.2.2.2.2.2.2.2.1 g.1.toNat (J,(0,((0,0),(0,(0,(([]:(M L)),(([]:ae),(0,0))))))))).2.2.2.2.2.2.1,((K a.2.2.2.2.2.2.2.1 g.1.toNat (J,(0,((0,0),(0,(0,(([]:(M L)),(([]:ae),(0,0))))))))).2.2.2.2.2.2.2.1,(K a.2.2.2.2.2.2.2.1 g.1.toNat (J,(0,((0,0),(0,(0,(([]:(M L)),(([]:ae),(0,0))))))))).2.2.2.2.2.2.2.2))))))))
 N ((a.1,(a.2.1,(a.2.2.1,[(a.2.2.2.1,(a.2.2.2.2.2.1,a.2.2.2.2.2.2.1)),(a.2.2.2.2.1,(z4,a.2.2.2.2.2.2.2.2))]))),f9.2.1,f9.2.2)) (cond (o.1==2) (let z1:an:=Á a.2.2.2.2.2.2.2.1 g.1.toNat ((K a.2.2.2.2.2.2.2.1 g.1.toNat (J,(0,((0,0),(0,(0,(([]:(M L)),(([]:ae),(0,0))))))))).1,((K a.2.2.2.2.2.2.2.1 g.1.toNat (J,(0,((0,0),(0,(0,(([]:(M L)),(([]:ae),(0,0))))))))).2.1,(((K a.2.2.2.2.2.2.2.1 g.1.toNat (J,(0,((0,0),(0,(0,(([]:(M L)),(([]:ae),(0,0))))))))).2.2.1.1,(K a.2.2.2.2.2.2.2.1 g.1.toNat (J,(0,((0,0),(0,(0,(([]:(M L)),(([]:ae),(0,0))))))))).2.2.1.2),((K a.2.2.2.2.2.2.2.1 g.1.toNat (J,(0,((0,0),(0,(0,(([]:(M L)),(([]:ae),(0,0))))))))).2.2.2.1,((K a.2.2.2.2.2.2.2.1 g.1.toNat (J,(0,((0,0),(0,(0,(([]:(M L)),(([]:ae),(0,0))))))))).2.2.2.2.1,(([]:(M L)),((K a.2.2.2.2.2.2.2.1 g.1.toNat (J,(0,((0,0),(0,(0,(([]:(M L)),(([]:ae),(0,0))))))))).2.2.2.2.2.2.1,((K a.2.2.2.2.2.2.2.1 g.1.toNat (J,(0,((0,0),(0,(0,(([]:(M L)),(([]:ae),(0,0))))))))).2.2.2.2.2.2.2.1,(K a.2.2.2.2.2.2.2.1 g.1.toNat (J,(0,((0,0),(0,(0,(([]:(M L)),(([]:ae),(0,0))))))))).2.2.2.2.2.2.2.2))))))))
 N ((a.1,(a.2.1,(a.2.2.1,[(a.2.2.2.1,(a.2.2.2.2.2.1,a.2.2.2.2.2.2.1)),(a.2.2.2.2.1,(z1,a.2.2.2.2.2.2.2.2))]))),o.2.1,o.2.2)) (cond (o.1==3) (let w3:=W a.2.1.length
 let w2:M Int:=[0,(-1),w3]
 (j03 o.2.1 o.2.2 w2).bind λf8=>let y3:an:=Á a.2.2.2.2.2.2.2.1 g.1.toNat ((K a.2.2.2.2.2.2.2.1 g.1.toNat (J,(0,((0,0),(0,(0,(([]:(M L)),(([]:ae),(0,0))))))))).1,((K a.2.2.2.2.2.2.2.1 g.1.toNat (J,(0,((0,0),(0,(0,(([]:(M L)),(([]:ae),(0,0))))))))).2.1,(((K a.2.2.2.2.2.2.2.1 g.1.toNat (J,(0,((0,0),(0,(0,(([]:(M L)),(([]:ae),(0,0))))))))).2.2.1.1,(K a.2.2.2.2.2.2.2.1 g.1.toNat (J,(0,((0,0),(0,(0,(([]:(M L)),(([]:ae),(0,0))))))))).2.2.1.2),((K a.2.2.2.2.2.2.2.1 g.1.toNat (J,(0,((0,0),(0,(0,(([]:(M L)),(([]:ae),(0,0))))))))).2.2.2.1,((K a.2.2.2.2.2.2.2.1 g.1.toNat (J,(0,((0,0),(0,(0,(([]:(M L)),(([]:ae),(0,0))))))))).2.2.2.2.1,([f8.1],((K a.2.2.2.2.2.2.2.1 g.1.toNat (J,(0,((0,0),(0,(0,(([]:(M L)),(([]:ae),(0,0))))))))).2.2.2.2.2.2.1,((K a.2.2.2.2.2.2.2.1 g.1.toNat (J,(0,((0,0),(0,(0,(([]:(M L)),(([]:ae),(0,0))))))))).2.2.2.2.2.2.2.1,(K a.2.2.2.2.2.2.2.1 g.1.toNat (J,(0,((0,0),(0,(0,(([]:(M L)),(([]:ae),(0,0))))))))).2.2.2.2.2.2.2.2))))))))
 N ((a.1,(a.2.1,(a.2.2.1,[(a.2.2.2.1,(a.2.2.2.2.2.1,a.2.2.2.2.2.2.1)),(a.2.2.2.2.1,(y3,a.2.2.2.2.2.2.2.2))]))),f8.2.1,f8.2.2)) (cond (o.1==4) (let t5:M Int:=[(-1),3]
 (j03 o.2.1 o.2.2 t5).bind λg2=>let w4:an:=Á a.2.2.2.2.2.2.2.1 g.1.toNat ((K a.2.2.2.2.2.2.2.1 g.1.toNat (J,(0,((0,0),(0,(0,(([]:(M L)),(([]:ae),(0,0))))))))).1,((K a.2.2.2.2.2.2.2.1 g.1.toNat (J,(0,((0,0),(0,(0,(([]:(M L)),(([]:ae),(0,0))))))))).2.1,(((K a.2.2.2.2.2.2.2.1 g.1.toNat (J,(0,((0,0),(0,(0,(([]:(M L)),(([]:ae),(0,0))))))))).2.2.1.1,(K a.2.2.2.2.2.2.2.1 g.1.toNat (J,(0,((0,0),(0,(0,(([]:(M L)),(([]:ae),(0,0))))))))).2.2.1.2),(g2.1,((K a.2.2.2.2.2.2.2.1 g.1.toNat (J,(0,((0,0),(0,(0,(([]:(M L)),(([]:ae),(0,0))))))))).2.2.2.2.1,((K a.2.2.2.2.2.2.2.1 g.1.toNat (J,(0,((0,0),(0,(0,(([]:(M L)),(([]:ae),(0,0))))))))).2.2.2.2.2.1,((K a.2.2.2.2.2.2.2.1 g.1.toNat (J,(0,((0,0),(0,(0,(([]:(M L)),(([]:ae),(0,0))))))))).2.2.2.2.2.2.1,((K a.2.2.2.2.2.2.2.1 g.1.toNat (J,(0,((0,0),(0,(0,(([]:(M L)),(([]:ae),(0,0))))))))).2.2.2.2.2.2.2.1,(K a.2.2.2.2.2.2.2.1 g.1.toNat (J,(0,((0,0),(0,(0,(([]:(M L)),(([]:ae),(0,0))))))))).2.2.2.2.2.2.2.2))))))))
 N ((a.1,(a.2.1,(a.2.2.1,[(a.2.2.2.1,(a.2.2.2.2.2.1,a.2.2.2.2.2.2.1)),(a.2.2.2.2.1,(w4,a.2.2.2.2.2.2.2.2))]))),g2.2.1,g2.2.2)) (cond (o.1==5) (let t7:M Int:=[0,1,2,3]
 (j03 o.2.1 o.2.2 t7).bind λg0=>let u0:an:=Á a.2.2.2.2.2.2.2.1 g.1.toNat ((K a.2.2.2.2.2.2.2.1 g.1.toNat (J,(0,((0,0),(0,(0,(([]:(M L)),(([]:ae),(0,0))))))))).1,((K a.2.2.2.2.2.2.2.1 g.1.toNat (J,(0,((0,0),(0,(0,(([]:(M L)),(([]:ae),(0,0))))))))).2.1,(((K a.2.2.2.2.2.2.2.1 g.1.toNat (J,(0,((0,0),(0,(0,(([]:(M L)),(([]:ae),(0,0))))))))).2.2.1.1,(K a.2.2.2.2.2.2.2.1 g.1.toNat (J,(0,((0,0),(0,(0,(([]:(M L)),(([]:ae),(0,0))))))))).2.2.1.2),((K a.2.2.2.2.2.2.2.1 g.1.toNat (J,(0,((0,0),(0,(0,(([]:(M L)),(([]:ae),(0,0))))))))).2.2.2.1,((K a.2.2.2.2.2.2.2.1 g.1.toNat (J,(0,((0,0),(0,(0,(([]:(M L)),(([]:ae),(0,0))))))))).2.2.2.2.1,((K a.2.2.2.2.2.2.2.1 g.1.toNat (J,(0,((0,0),(0,(0,(([]:(M L)),(([]:ae),(0,0))))))))).2.2.2.2.2.1,((K a.2.2.2.2.2.2.2.1 g.1.toNat (J,(0,((0,0),(0,(0,(([]:(M L)),(([]:ae),(0,0))))))))).2.2.2.2.2.2.1,((K a.2.2.2.2.2.2.2.1 g.1.toNat (J,(0,((0,0),(0,(0,(([]:(M L)),(([]:ae),(0,0))))))))).2.2.2.2.2.2.2.1,g0.1))))))))
 N ((a.1,(a.2.1,(a.2.2.1,[(a.2.2.2.1,(a.2.2.2.2.2.1,a.2.2.2.2.2.2.1)),(a.2.2.2.2.1,(u0,a.2.2.2.2.2.2.2.2))]))),g0.2.1,g0.2.2)) (cond (o.1==6) (let s5:M Int:=[0,1,(-1)]
 (j03 o.2.1 o.2.2 s5).bind λf7=>let w0:an:=Á a.2.2.2.2.2.2.2.1 g.1.toNat ((K a.2.2.2.2.2.2.2.1 g.1.toNat (J,(0,((0,0),(0,(0,(([]:(M L)),(([]:ae),(0,0))))))))).1,((K a.2.2.2.2.2.2.2.1 g.1.toNat (J,(0,((0,0),(0,(0,(([]:(M L)),(([]:ae),(0,0))))))))).2.1,(((K a.2.2.2.2.2.2.2.1 g.1.toNat (J,(0,((0,0),(0,(0,(([]:(M L)),(([]:ae),(0,0))))))))).2.2.1.1,(K a.2.2.2.2.2.2.2.1 g.1.toNat (J,(0,((0,0),(0,(0,(([]:(M L)),(([]:ae),(0,0))))))))).2.2.1.2),((K a.2.2.2.2.2.2.2.1 g.1.toNat (J,(0,((0,0),(0,(0,(([]:(M L)),(([]:ae),(0,0))))))))).2.2.2.1,((K a.2.2.2.2.2.2.2.1 g.1.toNat (J,(0,((0,0),(0,(0,(([]:(M L)),(([]:ae),(0,0))))))))).2.2.2.2.1,((K a.2.2.2.2.2.2.2.1 g.1.toNat (J,(0,((0,0),(0,(0,(([]:(M L)),(([]:ae),(0,0))))))))).2.2.2.2.2.1,((K a.2.2.2.2.2.2.2.1 g.1.toNat (J,(0,((0,0),(0,(0,(([]:(M L)),(([]:ae),(0,0))))))))).2.2.2.2.2.2.1,(f7.1,(K a.2.2.2.2.2.2.2.1 g.1.toNat (J,(0,((0,0),(0,(0,(([]:(M L)),(([]:ae),(0,0))))))))).2.2.2.2.2.2.2.2))))))))
 N ((a.1,(a.2.1,(a.2.2.1,[(a.2.2.2.1,(a.2.2.2.2.2.1,a.2.2.2.2.2.2.1)),(a.2.2.2.2.1,(w0,a.2.2.2.2.2.2.2.2))]))),f7.2.1,f7.2.2)) (cond (o.1==7) (let k1:M ByteArray:=[(Z #[97,100,97]),(Z #[98,111,98]),(Z #[120,32,121])]
 (j02 o.2.1 o.2.2 3).bind λe2=>cond (inR e2.1 k1.length) (let v9:=K k1 e2.1.toNat J
 let z2:an:=Á a.2.2.2.2.2.2.2.1 g.1.toNat (v9,((K a.2.2.2.2.2.2.2.1 g.1.toNat (J,(0,((0,0),(0,(0,(([]:(M L)),(([]:ae),(0,0))))))))).2.1,(((K a.2.2.2.2.2.2.2.1 g.1.toNat (J,(0,((0,0),(0,(0,(([]:(M L)),(([]:ae),(0,0))))))))).2.2.1.1,(K a.2.2.2.2.2.2.2.1 g.1.toNat (J,(0,((0,0),(0,(0,(([]:(M L)),(([]:ae),(0,0))))))))).2.2.1.2),((K a.2.2.2.2.2.2.2.1 g.1.toNat (J,(0,((0,0),(0,(0,(([]:(M L)),(([]:ae),(0,0))))))))).2.2.2.1,((K a.2.2.2.2.2.2.2.1 g.1.toNat (J,(0,((0,0),(0,(0,(([]:(M L)),(([]:ae),(0,0))))))))).2.2.2.2.1,((K a.2.2.2.2.2.2.2.1 g.1.toNat (J,(0,((0,0),(0,(0,(([]:(M L)),(([]:ae),(0,0))))))))).2.2.2.2.2.1,((K a.2.2.2.2.2.2.2.1 g.1.toNat (J,(0,((0,0),(0,(0,(([]:(M L)),(([]:ae),(0,0))))))))).2.2.2.2.2.2.1,((K a.2.2.2.2.2.2.2.1 g.1.toNat (J,(0,((0,0),(0,(0,(([]:(M L)),(([]:ae),(0,0))))))))).2.2.2.2.2.2.2.1,(K a.2.2.2.2.2.2.2.1 g.1.toNat (J,(0,((0,0),(0,(0,(([]:(M L)),(([]:ae),(0,0))))))))).2.2.2.2.2.2.2.2))))))))
 N ((a.1,(a.2.1,(a.2.2.1,[(a.2.2.2.1,(a.2.2.2.2.2.1,a.2.2.2.2.2.2.1)),(a.2.2.2.2.1,(z2,a.2.2.2.2.2.2.2.2))]))),e2.2.1,e2.2.2)) Y) (N ((a.1,(a.2.1,(a.2.2.1,[(a.2.2.2.1,(a.2.2.2.2.2.1,a.2.2.2.2.2.2.1)),(a.2.2.2.2.1,(a.2.2.2.2.2.2.2.1,a.2.2.2.2.2.2.2.2))]))),o.2.1,o.2.2)))))))))) Y)) Y)) (cond (p.1==8) ((j02 p.2.1 p.2.2 2).bind λs=>cond (s.1==0) (let l1:=W a.2.2.2.2.2.1.length
 cond (l1==0) (N ((a.1,(a.2.1,(a.2.2.1,[(a.2.2.2.1,(a.2.2.2.2.2.1,a.2.2.2.2.2.2.1)),(a.2.2.2.2.1,(a.2.2.2.2.2.2.2.1,a.2.2.2.2.2.2.2.2))]))),s.2.1,s.2.2)) (let j7:=W a.2.2.2.2.2.1.length
 (j02 s.2.1 s.2.2 j7).bind λd=>cond (inR d.1 a.2.2.2.2.2.1.length) ((j02 d.2.1 d.2.2 8).bind λm=>cond (m.1==0) (let o2:M Int:=[0,1,400,401]
 (j03 m.2.1 m.2.2 o2).bind λa9=>let r1:an:=Á a.2.2.2.2.2.1 d.1.toNat ((K a.2.2.2.2.2.1 d.1.toNat (J,(0,((0,0),(0,(0,(([]:(M L)),(([]:ae),(0,0))))))))).1,((K a.2.2.2.2.2.1 d.1.toNat (J,(0,((0,0),(0,(0,(([]:(M L)),(([]:ae),(0,0))))))))).2.1,(((K a.2.2.2.2.2.1 d.1.toNat (J,(0,((0,0),(0,(0,(([]:(M L)),(([]:ae),(0,0))))))))).2.2.1.1,(K a.2.2.2.2.2.1 d.1.toNat (J,(0,((0,0),(0,(0,(([]:(M L)),(([]:ae),(0,0))))))))).2.2.1.2),((K a.2.2.2.2.2.1 d.1.toNat (J,(0,((0,0),(0,(0,(([]:(M L)),(([]:ae),(0,0))))))))).2.2.2.1,(a9.1,((K a.2.2.2.2.2.1 d.1.toNat (J,(0,((0,0),(0,(0,(([]:(M L)),(([]:ae),(0,0))))))))).2.2.2.2.2.1,((K a.2.2.2.2.2.1 d.1.toNat (J,(0,((0,0),(0,(0,(([]:(M L)),(([]:ae),(0,0))))))))).2.2.2.2.2.2.1,((K a.2.2.2.2.2.1 d.1.toNat (J,(0,((0,0),(0,(0,(([]:(M L)),(([]:ae),(0,0))))))))).2.2.2.2.2.2.2.1,(K a.2.2.2.2.2.1 d.1.toNat (J,(0,((0,0),(0,(0,(([]:(M L)),(([]:ae),(0,0))))))))).2.2.2.2.2.2.2.2))))))))
 N ((a.1,(a.2.1,(a.2.2.1,[(a.2.2.2.1,(r1,a.2.2.2.2.2.2.1)),(a.2.2.2.2.1,(a.2.2.2.2.2.2.2.1,a.2.2.2.2.2.2.2.2))]))),a9.2.1,a9.2.2)) (cond (m.1==1) (let j1:M Int:=[0,1,(-5),98979,98981]
 (j03 m.2.1 m.2.2 j1).bind λa5=>let u5:an:=Á a.2.2.2.2.2.1 d.1.toNat ((K a.2.2.2.2.2.1 d.1.toNat (J,(0,((0,0),(0,(0,(([]:(M L)),(([]:ae),(0,0))))))))).1,((K a.2.2.2.2.2.1 d.1.toNat (J,(0,((0,0),(0,(0,(([]:(M L)),(([]:ae),(0,0))))))))).2.1,((a5.1,(K a.2.2.2.2.2.1 d.1.toNat (J,(0,((0,0),(0,(0,(([]:(M L)),(([]:ae),(0,0))))))))).2.2.1.2),((K a.2.2.2.2.2.1 d.1.toNat (J,(0,((0,0),(0,(0,(([]:(M L)),(([]:ae),(0,0))))))))).2.2.2.1,((K a.2.2.2.2.2.1 d.1.toNat (J,(0,((0,0),(0,(0,(([]:(M L)),(([]:ae),(0,0))))))))).2.2.2.2.1,((K a.2.2.2.2.2.1 d.1.toNat (J,(0,((0,0),(0,(0,(([]:(M L)),(([]:ae),(0,0))))))))).2.2.2.2.2.1,((K a.2.2.2.2.2.1 d.1.toNat (J,(0,((0,0),(0,(0,(([]:(M L)),(([]:ae),(0,0))))))))).2.2.2.2.2.2.1,((K a.2.2.2.2.2.1 d.1.toNat (J,(0,((0,0),(0,(0,(([]:(M L)),(([]:ae),(0,0))))))))).2.2.2.2.2.2.2.1,(K a.2.2.2.2.2.1 d.1.toNat (J,(0,((0,0),(0,(0,(([]:(M L)),(([]:ae),(0,0))))))))).2.2.2.2.2.2.2.2))))))))
 N ((a.1,(a.2.1,(a.2.2.1,[(a.2.2.2.1,(u5,a.2.2.2.2.2.2.1)),(a.2.2.2.2.1,(a.2.2.2.2.2.2.2.1,a.2.2.2.2.2.2.2.2))]))),a5.2.1,a5.2.2)) (cond (m.1==2) (let w9:an:=Á a.2.2.2.2.2.1 d.1.toNat ((K a.2.2.2.2.2.1 d.1.toNat (J,(0,((0,0),(0,(0,(([]:(M L)),(([]:ae),(0,0))))))))).1,((K a.2.2.2.2.2.1 d.1.toNat (J,(0,((0,0),(0,(0,(([]:(M L)),(([]:ae),(0,0))))))))).2.1,(((K a.2.2.2.2.2.1 d.1.toNat (J,(0,((0,0),(0,(0,(([]:(M L)),(([]:ae),(0,0))))))))).2.2.1.1,(K a.2.2.2.2.2.1 d.1.toNat (J,(0,((0,0),(0,(0,(([]:(M L)),(([]:ae),(0,0))))))))).2.2.1.2),((K a.2.2.2.2.2.1 d.1.toNat (J,(0,((0,0),(0,(0,(([]:(M L)),(([]:ae),(0,0))))))))).2.2.2.1,((K a.2.2.2.2.2.1 d.1.toNat (J,(0,((0,0),(0,(0,(([]:(M L)),(([]:ae),(0,0))))))))).2.2.2.2.1,(([]:(M L)),((K a.2.2.2.2.2.1 d.1.toNat (J,(0,((0,0),(0,(0,(([]:(M L)),(([]:ae),(0,0))))))))).2.2.2.2.2.2.1,((K a.2.2.2.2.2.1 d.1.toNat (J,(0,((0,0),(0,(0,(([]:(M L)),(([]:ae),(0,0))))))))).2.2.2.2.2.2.2.1,(K a.2.2.2.2.2.1 d.1.toNat (J,(0,((0,0),(0,(0,(([]:(M L)),(([]:ae),(0,0))))))))).2.2.2.2.2.2.2.2))))))))
 N ((a.1,(a.2.1,(a.2.2.1,[(a.2.2.2.1,(w9,a.2.2.2.2.2.2.1)),(a.2.2.2.2.1,(a.2.2.2.2.2.2.2.1,a.2.2.2.2.2.2.2.2))]))),m.2.1,m.2.2)) (cond (m.1==3) (let o8:=W a.2.1.length
 let k4:M Int:=[0,(-1),o8]
 (j03 m.2.1 m.2.2 k4).bind λb2=>let q3:an:=Á a.2.2.2.2.2.1 d.1.toNat ((K a.2.2.2.2.2.1 d.1.toNat (J,(0,((0,0),(0,(0,(([]:(M L)),(([]:ae),(0,0))))))))).1,((K a.2.2.2.2.2.1 d.1.toNat (J,(0,((0,0),(0,(0,(([]:(M L)),(([]:ae),(0,0))))))))).2.1,(((K a.2.2.2.2.2.1 d.1.toNat (J,(0,((0,0),(0,(0,(([]:(M L)),(([]:ae),(0,0))))))))).2.2.1.1,(K a.2.2.2.2.2.1 d.1.toNat (J,(0,((0,0),(0,(0,(([]:(M L)),(([]:ae),(0,0))))))))).2.2.1.2),((K a.2.2.2.2.2.1 d.1.toNat (J,(0,((0,0),(0,(0,(([]:(M L)),(([]:ae),(0,0))))))))).2.2.2.1,((K a.2.2.2.2.2.1 d.1.toNat (J,(0,((0,0),(0,(0,(([]:(M L)),(([]:ae),(0,0))))))))).2.2.2.2.1,([b2.1],((K a.2.2.2.2.2.1 d.1.toNat (J,(0,((0,0),(0,(0,(([]:(M L)),(([]:ae),(0,0))))))))).2.2.2.2.2.2.1,((K a.2.2.2.2.2.1 d.1.toNat (J,(0,((0,0),(0,(0,(([]:(M L)),(([]:ae),(0,0))))))))).2.2.2.2.2.2.2.1,(K a.2.2.2.2.2.1 d.1.toNat (J,(0,((0,0),(0,(0,(([]:(M L)),(([]:ae),(0,0))))))))).2.2.2.2.2.2.2.2))))))))
 N ((a.1,(a.2.1,(a.2.2.1,[(a.2.2.2.1,(q3,a.2.2.2.2.2.2.1)),(a.2.2.2.2.1,(a.2.2.2.2.2.2.2.1,a.2.2.2.2.2.2.2.2))]))),b2.2.1,b2.2.2)) (cond (m.1==4) (let o1:M Int:=[(-1),3]
 (j03 m.2.1 m.2.2 o1).bind λd3=>let s3:an:=Á a.2.2.2.2.2.1 d.1.toNat ((K a.2.2.2.2.2.1 d.1.toNat (J,(0,((0,0),(0,(0,(([]:(M L)),(([]:ae),(0,0))))))))).1,((K a.2.2.2.2.2.1 d.1.toNat (J,(0,((0,0),(0,(0,(([]:(M L)),(([]:ae),(0,0))))))))).2.1,(((K a.2.2.2.2.2.1 d.1.toNat (J,(0,((0,0),(0,(0,(([]:(M L)),(([]:ae),(0,0))))))))).2.2.1.1,(K a.2.2.2.2.2.1 d.1.toNat (J,(0,((0,0),(0,(0,(([]:(M L)),(([]:ae),(0,0))))))))).2.2.1.2),(d3.1,((K a.2.2.2.2.2.1 d.1.toNat (J,(0,((0,0),(0,(0,(([]:(M L)),(([]:ae),(0,0))))))))).2.2.2.2.1,((K a.2.2.2.2.2.1 d.1.toNat (J,(0,((0,0),(0,(0,(([]:(M L)),(([]:ae),(0,0))))))))).2.2.2.2.2.1,((K a.2.2.2.2.2.1 d.1.toNat (J,(0,((0,0),(0,(0,(([]:(M L)),(([]:ae),(0,0))))))))).2.2.2.2.2.2.1,((K a.2.2.2.2.2.1 d.1.toNat (J,(0,((0,0),(0,(0,(([]:(M L)),(([]:ae),(0,0))))))))).2.2.2.2.2.2.2.1,(K a.2.2.2.2.2.1 d.1.toNat (J,(0,((0,0),(0,(0,(([]:(M L)),(([]:ae),(0,0))))))))).2.2.2.2.2.2.2.2))))))))
 N ((a.1,(a.2.1,(a.2.2.1,[(a.2.2.2.1,(s3,a.2.2.2.2.2.2.1)),(a.2.2.2.2.1,(a.2.2.2.2.2.2.2.1,a.2.2.2.2.2.2.2.2))]))),d3.2.1,d3.2.2)) (cond (m.1==5) (let n3:M Int:=[0,1,2,3]
 (j03 m.2.1 m.2.2 n3).bind λc2=>let p8:an:=Á a.2.2.2.2.2.1 d.1.toNat ((K a.2.2.2.2.2.1 d.1.toNat (J,(0,((0,0),(0,(0,(([]:(M L)),(([]:ae),(0,0))))))))).1,((K a.2.2.2.2.2.1 d.1.toNat (J,(0,((0,0),(0,(0,(([]:(M L)),(([]:ae),(0,0))))))))).2.1,(((K a.2.2.2.2.2.1 d.1.toNat (J,(0,((0,0),(0,(0,(([]:(M L)),(([]:ae),(0,0))))))))).2.2.1.1,(K a.2.2.2.2.2.1 d.1.toNat (J,(0,((0,0),(0,(0,(([]:(M L)),(([]:ae),(0,0))))))))).2.2.1.2),((K a.2.2.2.2.2.1 d.1.toNat (J,(0,((0,0),(0,(0,(([]:(M L)),(([]:ae),(0,0))))))))).2.2.2.1,((K a.2.2.2.2.2.1 d.1.toNat (J,(0,((0,0),(0,(0,(([]:(M L)),(([]:ae),(0,0))))))))).2.2.2.2.1,((K a.2.2.2.2.2.1 d.1.toNat (J,(0,((0,0),(0,(0,(([]:(M L)),(([]:ae),(0,0))))))))).2.2.2.2.2.1,((K a.2.2.2.2.2.1 d.1.toNat (J,(0,((0,0),(0,(0,(([]:(M L)),(([]:ae),(0,0))))))))).2.2.2.2.2.2.1,((K a.2.2.2.2.2.1 d.1.toNat (J,(0,((0,0),(0,(0,(([]:(M L)),(([]:ae),(0,0))))))))).2.2.2.2.2.2.2.1,c2.1))))))))
 N ((a.1,(a.2.1,(a.2.2.1,[(a.2.2.2.1,(p8,a.2.2.2.2.2.2.1)),(a.2.2.2.2.1,(a.2.2.2.2.2.2.2.1,a.2.2.2.2.2.2.2.2))]))),c2.2.1,c2.2.2)) (cond (m.1==6) (let l9:M Int:=[0,1,(-1)]
 (j03 m.2.1 m.2.2 l9).bind λb6=>let o9:an:=Á a.2.2.2.2.2.1 d.1.toNat ((K a.2.2.2.2.2.1 d.1.toNat (J,(0,((0,0),(0,(0,(([]:(M L)),(([]:ae),(0,0))))))))).1,((K a.2.2.2.2.2.1 d.1.toNat (J,(0,((0,0),(0,(0,(([]:(M L)),(([]:ae),(0,0))))))))).2.1,(((K a.2.2.2.2.2.1 d.1.toNat (J,(0,((0,0),(0,(0,(([]:(M L)),(([]:ae),(0,0))))))))).2.2.1.1,(K a.2.2.2.2.2.1 d.1.toNat (J,(0,((0,0),(0,(0,(([]:(M L)),(([]:ae),(0,0))))))))).2.2.1.2),((K a.2.2.2.2.2.1 d.1.toNat (J,(0,((0,0),(0,(0,(([]:(M L)),(([]:ae),(0,0))))))))).2.2.2.1,((K a.2.2.2.2.2.1 d.1.toNat (J,(0,((0,0),(0,(0,(([]:(M L)),(([]:ae),(0,0))))))))).2.2.2.2.1,((K a.2.2.2.2.2.1 d.1.toNat (J,(0,((0,0),(0,(0,(([]:(M L)),(([]:ae),(0,0))))))))).2.2.2.2.2.1,((K a.2.2.2.2.2.1 d.1.toNat (J,(0,((0,0),(0,(0,(([]:(M L)),(([]:ae),(0,0))))))))).2.2.2.2.2.2.1,(b6.1,(K a.2.2.2.2.2.1 d.1.toNat (J,(0,((0,0),(0,(0,(([]:(M L)),(([]:ae),(0,0))))))))).2.2.2.2.2.2.2.2))))))))
 N ((a.1,(a.2.1,(a.2.2.1,[(a.2.2.2.1,(o9,a.2.2.2.2.2.2.1)),(a.2.2.2.2.1,(a.2.2.2.2.2.2.2.1,a.2.2.2.2.2.2.2.2))]))),b6.2.1,b6.2.2)) (cond (m.1==7) (let e7:M ByteArray:=[(Z #[97,100,97]),(Z #[98,111,98]),(Z #[120,32,121])]
 (j02 m.2.1 m.2.2 3).bind λa2=>cond (inR a2.1 e7.length) (let l2:=K e7 a2.1.toNat J
 let t4:an:=Á a.2.2.2.2.2.1 d.1.toNat (l2,((K a.2.2.2.2.2.1 d.1.toNat (J,(0,((0,0),(0,(0,(([]:(M L)),(([]:ae),(0,0))))))))).2.1,(((K a.2.2.2.2.2.1 d.1.toNat (J,(0,((0,0),(0,(0,(([]:(M L)),(([]:ae),(0,0))))))))).2.2.1.1,(K a.2.2.2.2.2.1 d.1.toNat (J,(0,((0,0),(0,(0,(([]:(M L)),(([]:ae),(0,0))))))))).2.2.1.2),((K a.2.2.2.2.2.1 d.1.toNat (J,(0,((0,0),(0,(0,(([]:(M L)),(([]:ae),(0,0))))))))).2.2.2.1,((K a.2.2.2.2.2.1 d.1.toNat (J,(0,((0,0),(0,(0,(([]:(M L)),(([]:ae),(0,0))))))))).2.2.2.2.1,((K a.2.2.2.2.2.1 d.1.toNat (J,(0,((0,0),(0,(0,(([]:(M L)),(([]:ae),(0,0))))))))).2.2.2.2.2.1,((K a.2.2.2.2.2.1 d.1.toNat (J,(0,((0,0),(0,(0,(([]:(M L)),(([]:ae),(0,0))))))))).2.2.2.2.2.2.1,((K a.2.2.2.2.2.1 d.1.toNat (J,(0,((0,0),(0,(0,(([]:(M L)),(([]:ae),(0,0))))))))).2.2.2.2.2.2.2.1,(K a.2.2.2.2.2.1 d.1.toNat (J,(0,((0,0),(0,(0,(([]:(M L)),(([]:ae),(0,0))))))))).2.2.2.2.2.2.2.2))))))))
 N ((a.1,(a.2.1,(a.2.2.1,[(a.2.2.2.1,(t4,a.2.2.2.2.2.2.1)),(a.2.2.2.2.1,(a.2.2.2.2.2.2.2.1,a.2.2.2.2.2.2.2.2))]))),a2.2.1,a2.2.2)) Y) (N ((a.1,(a.2.1,(a.2.2.1,[(a.2.2.2.1,(a.2.2.2.2.2.1,a.2.2.2.2.2.2.1)),(a.2.2.2.2.1,(a.2.2.2.2.2.2.2.1,a.2.2.2.2.2.2.2.2))]))),m.2.1,m.2.2)))))))))) Y)) (cond (s.1==1) (let n7:=W a.2.2.2.2.2.2.2.1.length
 cond (n7==0) (N ((a.1,(a.2.1,(a.2.2.1,[(a.2.2.2.1,(a.2.2.2.2.2.1,a.2.2.2.2.2.2.1)),(a.2.2.2.2.1,(a.2.2.2.2.2.2.2.1,a.2.2.2.2.2.2.2.2))]))),s.2.1,s.2.2)) (let k8:=W a.2.2.2.2.2.2.2.1.length
 (j02 s.2.1 s.2.2 k8).bind λb=>cond (inR b.1 a.2.2.2.2.2.2.2.1.length) ((j02 b.2.1 b.2.2 8).bind λi=>cond (i.1==0) (let n4:M Int:=[0,1,400,401]
 (j03 i.2.1 i.2.2 n4).bind λb3=>let u1:an:=Á a.2.2.2.2.2.2.2.1 b.1.toNat ((K a.2.2.2.2.2.2.2.1 b.1.toNat (J,(0,((0,0),(0,(0,(([]:(M L)),(([]:ae),(0,0))))))))).1,((K a.2.2.2.2.2.2.2.1 b.1.toNat (J,(0,((0,0),(0,(0,(([]:(M L)),(([]:ae),(0,0))))))))).2.1,(((K a.2.2.2.2.2.2.2.1 b.1.toNat (J,(0,((0,0),(0,(0,(([]:(M L)),(([]:ae),(0,0))))))))).2.2.1.1,(K a.2.2.2.2.2.2.2.1 b.1.toNat (J,(0,((0,0),(0,(0,(([]:(M L)),(([]:ae),(0,0))))))))).2.2.1.2),((K a.2.2.2.2.2.2.2.1 b.1.toNat (J,(0,((0,0),(0,(0,(([]:(M L)),(([]:ae),(0,0))))))))).2.2.2.1,(b3.1,((K a.2.2.2.2.2.2.2.1 b.1.toNat (J,(0,((0,0),(0,(0,(([]:(M L)),(([]:ae),(0,0))))))))).2.2.2.2.2.1,((K a.2.2.2.2.2.2.2.1 b.1.toNat (J,(0,((0,0),(0,(0,(([]:(M L)),(([]:ae),(0,0))))))))).2.2.2.2.2.2.1,((K a.2.2.2.2.2.2.2.1 b.1.toNat (J,(0,((0,0),(0,(0,(([]:(M L)),(([]:ae),(0,0))))))))).2.2.2.2.2.2.2.1,(K a.2.2.2.2.2.2.2.1 b.1.toNat (J,(0,((0,0),(0,(0,(([]:(M L)),(([]:ae),(0,0))))))))).2.2.2.2.2.2.2.2))))))))
 N ((a.1,(a.2.1,(a.2.2.1,[(a.2.2.2.1,(a.2.2.2.2.2.1,a.2.2.2.2.2.2.1)),(a.2.2.2.2.1,(u1,a.2.2.2.2.2.2.2.2))]))),b3.2.1,b3.2.2)) (cond (i.1==1) (let j6:M Int:=[0,1,(-5),98979,98981]
 (j03 i.2.1 i.2.2 j6).bind λc8=>let t3:an:=Á a.2.2.2.2.2.2.2.1 b.1.toNat ((K a.2.2.2.2.2.2.2.1 b.1.toNat (J,(0,((0,0),(0,(0,(([]:(M L)),(([]:ae),(0,0))))))))).1,((K a.2.2.2.2.2.2.2.1 b.1.toNat (J,(0,((0,0),(0,(0,(([]:(M L)),(([]:ae),(0,0))))))))).2.1,((c8.1,(K a.2.2.2.2.2.2.2.1 b.1.toNat (J,(0,((0,0),(0,(0,(([]:(M L)),(([]:ae),(0,0))))))))).2.2.1.2),((K a.2.2.2.2.2.2.2.1 b.1.toNat (J,(0,((0,0),(0,(0,(([]:(M L)),(([]:ae),(0,0))))))))).2.2.2.1,((K a.2.2.2.2.2.2.2.1 b.1.toNat (J,(0,((0,0),(0,(0,(([]:(M L)),(([]:ae),(0,0))))))))).2.2.2.2.1,((K a.2.2.2.2.2.2.2.1 b.1.toNat (J,(0,((0,0),(0,(0,(([]:(M L)),(([]:ae),(0,0))))))))).2.2.2.2.2.1,((K a.2.2.2.2.2.2.2.1 b.1.toNat (J,(0,((0,0),(0,(0,(([]:(M L)),(([]:ae),(0,0))))))))).2.2.2.2.2.2.1,((K a.2.2.2.2.2.2.2.1 b.1.toNat (J,(0,((0,0),(0,(0,(([]:(M L)),(([]:ae),(0,0))))))))).2.2.2.2.2.2.2.1,(K a.2.2.2.2.2.2.2.1 b.1.toNat (J,(0,((0,0),(0,(0,(([]:(M L)),(([]:ae),(0,0))))))))).2.2.2.2.2.2.2.2))))))))
 N ((a.1,(a.2.1,(a.2.2.1,[(a.2.2.2.1,(a.2.2.2.2.2.1,a.2.2.2.2.2.2.1)),(a.2.2.2.2.1,(t3,a.2.2.2.2.2.2.2.2))]))),c8.2.1,c8.2.2)) (cond (i.1==2) (let u7:an:=Á a.2.2.2.2.2.2.2.1 b.1.toNat ((K a.2.2.2.2.2.2.2.1 b.1.toNat (J,(0,((0,0),(0,(0,(([]:(M L)),(([]:ae),(0,0))))))))).1,((K a.2.2.2.2.2.2.2.1 b.1.toNat (J,(0,((0,0),(0,(0,(([]:(M L)),(([]:ae),(0,0))))))))).2.1,(((K a.2.2.2.2.2.2.2.1 b.1.toNat (J,(0,((0,0),(0,(0,(([]:(M L)),(([]:ae),(0,0))))))))).2.2.1.1,(K a.2.2.2.2.2.2.2.1 b.1.toNat (J,(0,((0,0),(0,(0,(([]:(M L)),(([]:ae),(0,0))))))))).2.2.1.2),((K a.2.2.2.2.2.2.2.1 b.1.toNat (J,(0,((0,0),(0,(0,(([]:(M L)),(([]:ae),(0,0))))))))).2.2.2.1,((K a.2.2.2.2.2.2.2.1 b.1.toNat (J,(0,((0,0),(0,(0,(([]:(M L)),(([]:ae),(0,0))))))))).2.2.2.2.1,(([]:(M L)),((K a.2.2.2.2.2.2.2.1 b.1.toNat (J,(0,((0,0),(0,(0,(([]:(M L)),(([]:ae),(0,0))))))))).2.2.2.2.2.2.1,((K a.2.2.2.2.2.2.2.1 b.1.toNat (J,(0,((0,0),(0,(0,(([]:(M L)),(([]:ae),(0,0))))))))).2.2.2.2.2.2.2.1,(K a.2.2.2.2.2.2.2.1 b.1.toNat (J,(0,((0,0),(0,(0,(([]:(M L)),(([]:ae),(0,0))))))))).2.2.2.2.2.2.2.2))))))))
 N ((a.1,(a.2.1,(a.2.2.1,[(a.2.2.2.1,(a.2.2.2.2.2.1,a.2.2.2.2.2.2.1)),(a.2.2.2.2.1,(u7,a.2.2.2.2.2.2.2.2))]))),i.2.1,i.2.2)) (cond (i.1==3) (let n6:=W a.2.1.length
 let k9:M Int:=[0,(-1),n6]
 (j03 i.2.1 i.2.2 k9).bind λc5=>let p7:an:=Á a.2.2.2.2.2.2.2.1 b.1.toNat ((K a.2.2.2.2.2.2.2.1 b.1.toNat (J,(0,((0,0),(0,(0,(([]:(M L)),(([]:ae),(0,0))))))))).1,((K a.2.2.2.2.2.2.2.1 b.1.toNat (J,(0,((0,0),(0,(0,(([]:(M L)),(([]:ae),(0,0))))))))).2.1,(((K a.2.2.2.2.2.2.2.1 b.1.toNat (J,(0,((0,0),(0,(0,(([]:(M L)),(([]:ae),(0,0))))))))).2.2.1.1,(K a.2.2.2.2.2.2.2.1 b.1.toNat (J,(0,((0,0),(0,(0,(([]:(M L)),(([]:ae),(0,0))))))))).2.2.1.2),((K a.2.2.2.2.2.2.2.1 b.1.toNat (J,(0,((0,0),(0,(0,(([]:(M L)),(([]:ae),(0,0))))))))).2.2.2.1,((K a.2.2.2.2.2.2.2.1 b.1.toNat (J,(0,((0,0),(0,(0,(([]:(M L)),(([]:ae),(0,0))))))))).2.2.2.2.1,([c5.1],((K a.2.2.2.2.2.2.2.1 b.1.toNat (J,(0,((0,0),(0,(0,(([]:(M L)),(([]:ae),(0,0))))))))).2.2.2.2.2.2.1,((K a.2.2.2.2.2.2.2.1 b.1.toNat (J,(0,((0,0),(0,(0,(([]:(M L)),(([]:ae),(0,0))))))))).2.2.2.2.2.2.2.1,(K a.2.2.2.2.2.2.2.1 b.1.toNat (J,(0,((0,0),(0,(0,(([]:(M L)),(([]:ae),(0,0))))))))).2.2.2.2.2.2.2.2))))))))
 N ((a.1,(a.2.1,(a.2.2.1,[(a.2.2.2.1,(a.2.2.2.2.2.1,a.2.2.2.2.2.2.1)),(a.2.2.2.2.1,(p7,a.2.2.2.2.2.2.2.2))]))),c5.2.1,c5.2.2)) (cond (i.1==4) (let n0:M Int:=[(-1),3]
 (j03 i.2.1 i.2.2 n0).bind λb8=>let x1:an:=Á a.2.2.2.2.2.2.2.1 b.1.toNat ((K a.2.2.2.2.2.2.2.1 b.1.toNat (J,(0,((0,0),(0,(0,(([]:(M L)),(([]:ae),(0,0))))))))).1,((K a.2.2.2.2.2.2.2.1 b.1.toNat (J,(0,((0,0),(0,(0,(([]:(M L)),(([]:ae),(0,0))))))))).2.1,(((K a.2.2.2.2.2.2.2.1 b.1.toNat (J,(0,((0,0),(0,(0,(([]:(M L)),(([]:ae),(0,0))))))))).2.2.1.1,(K a.2.2.2.2.2.2.2.1 b.1.toNat (J,(0,((0,0),(0,(0,(([]:(M L)),(([]:ae),(0,0))))))))).2.2.1.2),(b8.1,((K a.2.2.2.2.2.2.2.1 b.1.toNat (J,(0,((0,0),(0,(0,(([]:(M L)),(([]:ae),(0,0))))))))).2.2.2.2.1,((K a.2.2.2.2.2.2.2.1 b.1.toNat (J,(0,((0,0),(0,(0,(([]:(M L)),(([]:ae),(0,0))))))))).2.2.2.2.2.1,((K a.2.2.2.2.2.2.2.1 b.1.toNat (J,(0,((0,0),(0,(0,(([]:(M L)),(([]:ae),(0,0))))))))).2.2.2.2.2.2.1,((K a.2.2.2.2.2.2.2.1 b.1.toNat (J,(0,((0,0),(0,(0,(([]:(M L)),(([]:ae),(0,0))))))))).2.2.2.2.2.2.2.1,(K a.2.2.2.2.2.2.2.1 b.1.toNat (J,(0,((0,0),(0,(0,(([]:(M L)),(([]:ae),(0,0))))))))).2.2.2.2.2.2.2.2))))))))
 N ((a.1,(a.2.1,(a.2.2.1,[(a.2.2.2.1,(a.2.2.2.2.2.1,a.2.2.2.2.2.2.1)),(a.2.2.2.2.1,(x1,a.2.2.2.2.2.2.2.2))]))),b8.2.1,b8.2.2)) (cond (i.1==5) (let j5:M Int:=[0,1,2,3]
 (j03 i.2.1 i.2.2 j5).bind λd2=>let p9:an:=Á a.2.2.2.2.2.2.2.1 b.1.toNat ((K a.2.2.2.2.2.2.2.1 b.1.toNat (J,(0,((0,0),(0,(0,(([]:(M L)),(([]:ae),(0,0))))))))).1,((K a.2.2.2.2.2.2.2.1 b.1.toNat (J,(0,((0,0),(0,(0,(([]:(M L)),(([]:ae),(0,0))))))))).2.1,(((K a.2.2.2.2.2.2.2.1 b.1.toNat (J,(0,((0,0),(0,(0,(([]:(M L)),(([]:ae),(0,0))))))))).2.2.1.1,(K a.2.2.2.2.2.2.2.1 b.1.toNat (J,(0,((0,0),(0,(0,(([]:(M L)),(([]:ae),(0,0))))))))).2.2.1.2),((K a.2.2.2.2.2.2.2.1 b.1.toNat (J,(0,((0,0),(0,(0,(([]:(M L)),(([]:ae),(0,0))))))))).2.2.2.1,((K a.2.2.2.2.2.2.2.1 b.1.toNat (J,(0,((0,0),(0,(0,(([]:(M L)),(([]:ae),(0,0))))))))).2.2.2.2.1,((K a.2.2.2.2.2.2.2.1 b.1.toNat (J,(0,((0,0),(0,(0,(([]:(M L)),(([]:ae),(0,0))))))))).2.2.2.2.2.1,((K a.2.2.2.2.2.2.2.1 b.1.toNat (J,(0,((0,0),(0,(0,(([]:(M L)),(([]:ae),(0,0))))))))).2.2.2.2.2.2.1,((K a.2.2.2.2.2.2.2.1 b.1.toNat (J,(0,((0,0),(0,(0,(([]:(M L)),(([]:ae),(0,0))))))))).2.2.2.2.2.2.2.1,d2.1))))))))
 N ((a.1,(a.2.1,(a.2.2.1,[(a.2.2.2.1,(a.2.2.2.2.2.1,a.2.2.2.2.2.2.1)),(a.2.2.2.2.1,(p9,a.2.2.2.2.2.2.2.2))]))),d2.2.1,d2.2.2)) (cond (i.1==6) (let o3:M Int:=[0,1,(-1)]
 (j03 i.2.1 i.2.2 o3).bind λc6=>let p6:an:=Á a.2.2.2.2.2.2.2.1 b.1.toNat ((K a.2.2.2.2.2.2.2.1 b.1.toNat (J,(0,((0,0),(0,(0,(([]:(M L)),(([]:ae),(0,0))))))))).1,((K a.2.2.2.2.2.2.2.1 b.1.toNat (J,(0,((0,0),(0,(0,(([]:(M L)),(([]:ae),(0,0))))))))).2.1,(((K a.2.2.2.2.2.2.2.1 b.1.toNat (J,(0,((0,0),(0,(0,(([]:(M L)),(([]:ae),(0,0))))))))).2.2.1.1,(K a.2.2.2.2.2.2.2.1 b.1.toNat (J,(0,((0,0),(0,(0,(([]:(M L)),(([]:ae),(0,0))))))))).2.2.1.2),((K a.2.2.2.2.2.2.2.1 b.1.toNat (J,(0,((0,0),(0,(0,(([]:(M L)),(([]:ae),(0,0))))))))).2.2.2.1,((K a.2.2.2.2.2.2.2.1 b.1.toNat (J,(0,((0,0),(0,(0,(([]:(M L)),(([]:ae),(0,0))))))))).2.2.2.2.1,((K a.2.2.2.2.2.2.2.1 b.1.toNat (J,(0,((0,0),(0,(0,(([]:(M L)),(([]:ae),(0,0))))))))).2.2.2.2.2.1,((K a.2.2.2.2.2.2.2.1 b.1.toNat (J,(0,((0,0),(0,(0,(([]:(M L)),(([]:ae),(0,0))))))))).2.2.2.2.2.2.1,(c6.1,(K a.2.2.2.2.2.2.2.1 b.1.toNat (J,(0,((0,0),(0,(0,(([]:(M L)),(([]:ae),(0,0))))))))).2.2.2.2.2.2.2.2))))))))
 N ((a.1,(a.2.1,(a.2.2.1,[(a.2.2.2.1,(a.2.2.2.2.2.1,a.2.2.2.2.2.2.1)),(a.2.2.2.2.1,(p6,a.2.2.2.2.2.2.2.2))]))),c6.2.1,c6.2.2)) (cond (i.1==7) (let e9:M ByteArray:=[(Z #[97,100,97]),(Z #[98,111,98]),(Z #[120,32,121])]
 (j02 i.2.1 i.2.2 3).bind λa4=>cond (inR a4.1 e9.length) (let m5:=K e9 a4.1.toNat J
 let v8:an:=Á a.2.2.2.2.2.2.2.1 b.1.toNat (m5,((K a.2.2.2.2.2.2.2.1 b.1.toNat (J,(0,((0,0),(0,(0,(([]:(M L)),(([]:ae),(0,0))))))))).2.1,(((K a.2.2.2.2.2.2.2.1 b.1.toNat (J,(0,((0,0),(0,(0,(([]:(M L)),(([]:ae),(0,0))))))))).2.2.1.1,(K a.2.2.2.2.2.2.2.1 b.1.toNat (J,(0,((0,0),(0,(0,(([]:(M L)),(([]:ae),(0,0))))))))).2.2.1.2),((K a.2.2.2.2.2.2.2.1 b.1.toNat (J,(0,((0,0),(0,(0,(([]:(M L)),(([]:ae),(0,0))))))))).2.2.2.1,((K a.2.2.2.2.2.2.2.1 b.1.toNat (J,(0,((0,0),(0,(0,(([]:(M L)),(([]:ae),(0,0))))))))).2.2.2.2.1,((K a.2.2.2.2.2.2.2.1 b.1.toNat (J,(0,((0,0),(0,(0,(([]:(M L)),(([]:ae),(0,0))))))))).2.2.2.2.2.1,((K a.2.2.2.2.2.2.2.1 b.1.toNat (J,(0,((0,0),(0,(0,(([]:(M L)),(([]:ae),(0,0))))))))).2.2.2.2.2.2.1,((K a.2.2.2.2.2.2.2.1 b.1.toNat (J,(0,((0,0),(0,(0,(([]:(M L)),(([]:ae),(0,0))))))))).2.2.2.2.2.2.2.1,(K a.2.2.2.2.2.2.2.1 b.1.toNat (J,(0,((0,0),(0,(0,(([]:(M L)),(([]:ae),(0,0))))))))).2.2.2.2.2.2.2.2))))))))
 N ((a.1,(a.2.1,(a.2.2.1,[(a.2.2.2.1,(a.2.2.2.2.2.1,a.2.2.2.2.2.2.1)),(a.2.2.2.2.1,(v8,a.2.2.2.2.2.2.2.2))]))),a4.2.1,a4.2.2)) Y) (N ((a.1,(a.2.1,(a.2.2.1,[(a.2.2.2.1,(a.2.2.2.2.2.1,a.2.2.2.2.2.2.1)),(a.2.2.2.2.1,(a.2.2.2.2.2.2.2.1,a.2.2.2.2.2.2.2.2))]))),i.2.1,i.2.2)))))))))) Y)) Y)) (cond (p.1==9) ((j02 p.2.1 p.2.2 2).bind λt=>cond (t.1==0) (let i9:=W a.2.2.2.2.2.1.length
 cond (i9==0) (N ((a.1,(a.2.1,(a.2.2.1,[(a.2.2.2.1,(a.2.2.2.2.2.1,a.2.2.2.2.2.2.1)),(a.2.2.2.2.1,(a.2.2.2.2.2.2.2.1,a.2.2.2.2.2.2.2.2))]))),t.2.1,t.2.2)) (let k6:=W a.2.2.2.2.2.1.length
 (j02 t.2.1 t.2.2 k6).bind λf=>cond (inR f.1 a.2.2.2.2.2.1.length) ((j02 f.2.1 f.2.2 8).bind λj=>cond (j.1==0) (let l0:M Int:=[0,1,400,401]
 (j03 j.2.1 j.2.2 l0).bind λa8=>let s0:an:=Á a.2.2.2.2.2.1 f.1.toNat ((K a.2.2.2.2.2.1 f.1.toNat (J,(0,((0,0),(0,(0,(([]:(M L)),(([]:ae),(0,0))))))))).1,((K a.2.2.2.2.2.1 f.1.toNat (J,(0,((0,0),(0,(0,(([]:(M L)),(([]:ae),(0,0))))))))).2.1,(((K a.2.2.2.2.2.1 f.1.toNat (J,(0,((0,0),(0,(0,(([]:(M L)),(([]:ae),(0,0))))))))).2.2.1.1,(K a.2.2.2.2.2.1 f.1.toNat (J,(0,((0,0),(0,(0,(([]:(M L)),(([]:ae),(0,0))))))))).2.2.1.2),((K a.2.2.2.2.2.1 f.1.toNat (J,(0,((0,0),(0,(0,(([]:(M L)),(([]:ae),(0,0))))))))).2.2.2.1,(a8.1,((K a.2.2.2.2.2.1 f.1.toNat (J,(0,((0,0),(0,(0,(([]:(M L)),(([]:ae),(0,0))))))))).2.2.2.2.2.1,((K a.2.2.2.2.2.1 f.1.toNat (J,(0,((0,0),(0,(0,(([]:(M L)),(([]:ae),(0,0))))))))).2.2.2.2.2.2.1,((K a.2.2.2.2.2.1 f.1.toNat (J,(0,((0,0),(0,(0,(([]:(M L)),(([]:ae),(0,0))))))))).2.2.2.2.2.2.2.1,(K a.2.2.2.2.2.1 f.1.toNat (J,(0,((0,0),(0,(0,(([]:(M L)),(([]:ae),(0,0))))))))).2.2.2.2.2.2.2.2))))))))
 N ((a.1,(a.2.1,(a.2.2.1,[(a.2.2.2.1,(s0,a.2.2.2.2.2.2.1)),(a.2.2.2.2.1,(a.2.2.2.2.2.2.2.1,a.2.2.2.2.2.2.2.2))]))),a8.2.1,a8.2.2)) (cond (j.1==1) (let m4:M Int:=[0,1,(-5),98979,98981]
 (j03 j.2.1 j.2.2 m4).bind λc1=>let s7:an:=Á a.2.2.2.2.2.1 f.1.toNat ((K a.2.2.2.2.2.1 f.1.toNat (J,(0,((0,0),(0,(0,(([]:(M L)),(([]:ae),(0,0))))))))).1,((K a.2.2.2.2.2.1 f.1.toNat (J,(0,((0,0),(0,(0,(([]:(M L)),(([]:ae),(0,0))))))))).2.1,((c1.1,(K a.2.2.2.2.2.1 f.1.toNat (J,(0,((0,0),(0,(0,(([]:(M L)),(([]:ae),(0,0))))))))).2.2.1.2),((K a.2.2.2.2.2.1 f.1.toNat (J,(0,((0,0),(0,(0,(([]:(M L)),(([]:ae),(0,0))))))))).2.2.2.1,((K a.2.2.2.2.2.1 f.1.toNat (J,(0,((0,0),(0,(0,(([]:(M L)),(([]:ae),(0,0))))))))).2.2.2.2.1,((K a.2.2.2.2.2.1 f.1.toNat (J,(0,((0,0),(0,(0,(([]:(M L)),(([]:ae),(0,0))))))))).2.2.2.2.2.1,((K a.2.2.2.2.2.1 f.1.toNat (J,(0,((0,0),(0,(0,(([]:(M L)),(([]:ae),(0,0))))))))).2.2.2.2.2.2.1,((K a.2.2.2.2.2.1 f.1.toNat (J,(0,((0,0),(0,(0,(([]:(M L)),(([]:ae),(0,0))))))))).2.2.2.2.2.2.2.1,(K a.2.2.2.2.2.1 f.1.toNat (J,(0,((0,0),(0,(0,(([]:(M L)),(([]:ae),(0,0))))))))).2.2.2.2.2.2.2.2))))))))
 N ((a.1,(a.2.1,(a.2.2.1,[(a.2.2.2.1,(s7,a.2.2.2.2.2.2.1)),(a.2.2.2.2.1,(a.2.2.2.2.2.2.2.1,a.2.2.2.2.2.2.2.2))]))),c1.2.1,c1.2.2)) (cond (j.1==2) (let x4:an:=Á a.2.2.2.2.2.1 f.1.toNat ((K a.2.2.2.2.2.1 f.1.toNat (J,(0,((0,0),(0,(0,(([]:(M L)),(([]:ae),(0,0))))))))).1,((K a.2.2.2.2.2.1 f.1.toNat (J,(0,((0,0),(0,(0,(([]:(M L)),(([]:ae),(0,0))))))))).2.1,(((K a.2.2.2.2.2.1 f.1.toNat (J,(0,((0,0),(0,(0,(([]:(M L)),(([]:ae),(0,0))))))))).2.2.1.1,(K a.2.2.2.2.2.1 f.1.toNat (J,(0,((0,0),(0,(0,(([]:(M L)),(([]:ae),(0,0))))))))).2.2.1.2),((K a.2.2.2.2.2.1 f.1.toNat (J,(0,((0,0),(0,(0,(([]:(M L)),(([]:ae),(0,0))))))))).2.2.2.1,((K a.2.2.2.2.2.1 f.1.toNat (J,(0,((0,0),(0,(0,(([]:(M L)),(([]:ae),(0,0))))))))).2.2.2.2.1,(([]:(M L)),((K a.2.2.2.2.2.1 f.1.toNat (J,(0,((0,0),(0,(0,(([]:(M L)),(([]:ae),(0,0))))))))).2.2.2.2.2.2.1,((K a.2.2.2.2.2.1 f.1.toNat (J,(0,((0,0),(0,(0,(([]:(M L)),(([]:ae),(0,0))))))))).2.2.2.2.2.2.2.1,(K a.2.2.2.2.2.1 f.1.toNat (J,(0,((0,0),(0,(0,(([]:(M L)),(([]:ae),(0,0))))))))).2.2.2.2.2.2.2.2))))))))
 N ((a.1,(a.2.1,(a.2.2.1,[(a.2.2.2.1,(x4,a.2.2.2.2.2.2.1)),(a.2.2.2.2.1,(a.2.2.2.2.2.2.2.1,a.2.2.2.2.2.2.2.2))]))),j.2.1,j.2.2)) (cond (j.1==3) (let k5:=W a.2.1.length
 let i6:M Int:=[0,(-1),k5]
 (j03 j.2.1 j.2.2 i6).bind λc7=>let q5:an:=Á a.2.2.2.2.2.1 f.1.toNat ((K a.2.2.2.2.2.1 f.1.toNat (J,(0,((0,0),(0,(0,(([]:(M L)),(([]:ae),(0,0))))))))).1,((K a.2.2.2.2.2.1 f.1.toNat (J,(0,((0,0),(0,(0,(([]:(M L)),(([]:ae),(0,0))))))))).2.1,(((K a.2.2.2.2.2.1 f.1.toNat (J,(0,((0,0),(0,(0,(([]:(M L)),(([]:ae),(0,0))))))))).2.2.1.1,(K a.2.2.2.2.2.1 f.1.toNat (J,(0,((0,0),(0,(0,(([]:(M L)),(([]:ae),(0,0))))))))).2.2.1.2),((K a.2.2.2.2.2.1 f.1.toNat (J,(0,((0,0),(0,(0,(([]:(M L)),(([]:ae),(0,0))))))))).2.2.2.1,((K a.2.2.2.2.2.1 f.1.toNat (J,(0,((0,0),(0,(0,(([]:(M L)),(([]:ae),(0,0))))))))).2.2.2.2.1,([c7.1],((K a.2.2.2.2.2.1 f.1.toNat (J,(0,((0,0),(0,(0,(([]:(M L)),(([]:ae),(0,0))))))))).2.2.2.2.2.2.1,((K a.2.2.2.2.2.1 f.1.toNat (J,(0,((0,0),(0,(0,(([]:(M L)),(([]:ae),(0,0))))))))).2.2.2.2.2.2.2.1,(K a.2.2.2.2.2.1 f.1.toNat (J,(0,((0,0),(0,(0,(([]:(M L)),(([]:ae),(0,0))))))))).2.2.2.2.2.2.2.2))))))))
 N ((a.1,(a.2.1,(a.2.2.1,[(a.2.2.2.1,(q5,a.2.2.2.2.2.2.1)),(a.2.2.2.2.1,(a.2.2.2.2.2.2.2.1,a.2.2.2.2.2.2.2.2))]))),c7.2.1,c7.2.2)) (cond (j.1==4) (let m3:M Int:=[(-1),3]
 (j03 j.2.1 j.2.2 m3).bind λb1=>let q1:an:=Á a.2.2.2.2.2.1 f.1.toNat ((K a.2.2.2.2.2.1 f.1.toNat (J,(0,((0,0),(0,(0,(([]:(M L)),(([]:ae),(0,0))))))))).1,((K a.2.2.2.2.2.1 f.1.toNat (J,(0,((0,0),(0,(0,(([]:(M L)),(([]:ae),(0,0))))))))).2.1,(((K a.2.2.2.2.2.1 f.1.toNat (J,(0,((0,0),(0,(0,(([]:(M L)),(([]:ae),(0,0))))))))).2.2.1.1,(K a.2.2.2.2.2.1 f.1.toNat (J,(0,((0,0),(0,(0,(([]:(M L)),(([]:ae),(0,0))))))))).2.2.1.2),(b1.1,((K a.2.2.2.2.2.1 f.1.toNat (J,(0,((0,0),(0,(0,(([]:(M L)),(([]:ae),(0,0))))))))).2.2.2.2.1,((K a.2.2.2.2.2.1 f.1.toNat (J,(0,((0,0),(0,(0,(([]:(M L)),(([]:ae),(0,0))))))))).2.2.2.2.2.1,((K a.2.2.2.2.2.1 f.1.toNat (J,(0,((0,0),(0,(0,(([]:(M L)),(([]:ae),(0,0))))))))).2.2.2.2.2.2.1,((K a.2.2.2.2.2.1 f.1.toNat (J,(0,((0,0),(0,(0,(([]:(M L)),(([]:ae),(0,0))))))))).2.2.2.2.2.2.2.1,(K a.2.2.2.2.2.1 f.1.toNat (J,(0,((0,0),(0,(0,(([]:(M L)),(([]:ae),(0,0))))))))).2.2.2.2.2.2.2.2))))))))
 N ((a.1,(a.2.1,(a.2.2.1,[(a.2.2.2.1,(q1,a.2.2.2.2.2.2.1)),(a.2.2.2.2.1,(a.2.2.2.2.2.2.2.1,a.2.2.2.2.2.2.2.2))]))),b1.2.1,b1.2.2)) (cond (j.1==5) (let j3:M Int:=[0,1,2,3]
 (j03 j.2.1 j.2.2 j3).bind λd1=>let p2:an:=Á a.2.2.2.2.2.1 f.1.toNat ((K a.2.2.2.2.2.1 f.1.toNat (J,(0,((0,0),(0,(0,(([]:(M L)),(([]:ae),(0,0))))))))).1,((K a.2.2.2.2.2.1 f.1.toNat (J,(0,((0,0),(0,(0,(([]:(M L)),(([]:ae),(0,0))))))))).2.1,(((K a.2.2.2.2.2.1 f.1.toNat (J,(0,((0,0),(0,(0,(([]:(M L)),(([]:ae),(0,0))))))))).2.2.1.1,(K a.2.2.2.2.2.1 f.1.toNat (J,(0,((0,0),(0,(0,(([]:(M L)),(([]:ae),(0,0))))))))).2.2.1.2),((K a.2.2.2.2.2.1 f.1.toNat (J,(0,((0,0),(0,(0,(([]:(M L)),(([]:ae),(0,0))))))))).2.2.2.1,((K a.2.2.2.2.2.1 f.1.toNat (J,(0,((0,0),(0,(0,(([]:(M L)),(([]:ae),(0,0))))))))).2.2.2.2.1,((K a.2.2.2.2.2.1 f.1.toNat (J,(0,((0,0),(0,(0,(([]:(M L)),(([]:ae),(0,0))))))))).2.2.2.2.2.1,((K a.2.2.2.2.2.1 f.1.toNat (J,(0,((0,0),(0,(0,(([]:(M L)),(([]:ae),(0,0))))))))).2.2.2.2.2.2.1,((K a.2.2.2.2.2.1 f.1.toNat (J,(0,((0,0),(0,(0,(([]:(M L)),(([]:ae),(0,0))))))))).2.2.2.2.2.2.2.1,d1.1))))))))
 N ((a.1,(a.2.1,(a.2.2.1,[(a.2.2.2.1,(p2,a.2.2.2.2.2.2.1)),(a.2.2.2.2.1,(a.2.2.2.2.2.2.2.1,a.2.2.2.2.2.2.2.2))]))),d1.2.1,d1.2.2)) (cond (j.1==6) (let o7:M Int:=[0,1,(-1)]
 (j03 j.2.1 j.2.2 o7).bind λb0=>let r7:an:=Á a.2.2.2.2.2.1 f.1.toNat ((K a.2.2.2.2.2.1 f.1.toNat (J,(0,((0,0),(0,(0,(([]:(M L)),(([]:ae),(0,0))))))))).1,((K a.2.2.2.2.2.1 f.1.toNat (J,(0,((0,0),(0,(0,(([]:(M L)),(([]:ae),(0,0))))))))).2.1,(((K a.2.2.2.2.2.1 f.1.toNat (J,(0,((0,0),(0,(0,(([]:(M L)),(([]:ae),(0,0))))))))).2.2.1.1,(K a.2.2.2.2.2.1 f.1.toNat (J,(0,((0,0),(0,(0,(([]:(M L)),(([]:ae),(0,0))))))))).2.2.1.2),((K a.2.2.2.2.2.1 f.1.toNat (J,(0,((0,0),(0,(0,(([]:(M L)),(([]:ae),(0,0))))))))).2.2.2.1,((K a.2.2.2.2.2.1 f.1.toNat (J,(0,((0,0),(0,(0,(([]:(M L)),(([]:ae),(0,0))))))))).2.2.2.2.1,((K a.2.2.2.2.2.1 f.1.toNat (J,(0,((0,0),(0,(0,(([]:(M L)),(([]:ae),(0,0))))))))).2.2.2.2.2.1,((K a.2.2.2.2.2.1 f.1.toNat (J,(0,((0,0),(0,(0,(([]:(M L)),(([]:ae),(0,0))))))))).2.2.2.2.2.2.1,(b0.1,(K a.2.2.2.2.2.1 f.1.toNat (J,(0,((0,0),(0,(0,(([]:(M L)),(([]:ae),(0,0))))))))).2.2.2.2.2.2.2.2))))))))
 N ((a.1,(a.2.1,(a.2.2.1,[(a.2.2.2.1,(r7,a.2.2.2.2.2.2.1)),(a.2.2.2.2.1,(a.2.2.2.2.2.2.2.1,a.2.2.2.2.2.2.2.2))]))),b0.2.1,b0.2.2)) (cond (j.1==7) (let f2:M ByteArray:=[(Z #[97,100,97]),(Z #[98,111,98]),(Z #[120,32,121])]
 (j02 j.2.1 j.2.2 3).bind λa1=>cond (inR a1.1 f2.length) (let n1:=K f2 a1.1.toNat J
 let w8:an:=Á a.2.2.2.2.2.1 f.1.toNat (n1,((K a.2.2.2.2.2.1 f.1.toNat (J,(0,((0,0),(0,(0,(([]:(M L)),(([]:ae),(0,0))))))))).2.1,(((K a.2.2.2.2.2.1 f.1.toNat (J,(0,((0,0),(0,(0,(([]:(M L)),(([]:ae),(0,0))))))))).2.2.1.1,(K a.2.2.2.2.2.1 f.1.toNat (J,(0,((0,0),(0,(0,(([]:(M L)),(([]:ae),(0,0))))))))).2.2.1.2),((K a.2.2.2.2.2.1 f.1.toNat (J,(0,((0,0),(0,(0,(([]:(M L)),(([]:ae),(0,0))))))))).2.2.2.1,((K a.2.2.2.2.2.1 f.1.toNat (J,(0,((0,0),(0,(0,(([]:(M L)),(([]:ae),(0,0))))))))).2.2.2.2.1,((K a.2.2.2.2.2.1 f.1.toNat (J,(0,((0,0),(0,(0,(([]:(M L)),(([]:ae),(0,0))))))))).2.2.2.2.2.1,((K a.2.2.2.2.2.1 f.1.toNat (J,(0,((0,0),(0,(0,(([]:(M L)),(([]:ae),(0,0))))))))).2.2.2.2.2.2.1,((K a.2.2.2.2.2.1 f.1.toNat (J,(0,((0,0),(0,(0,(([]:(M L)),(([]:ae),(0,0))))))))).2.2.2.2.2.2.2.1,(K a.2.2.2.2.2.1 f.1.toNat (J,(0,((0,0),(0,(0,(([]:(M L)),(([]:ae),(0,0))))))))).2.2.2.2.2.2.2.2))))))))
 N ((a.1,(a.2.1,(a.2.2.1,[(a.2.2.2.1,(w8,a.2.2.2.2.2.2.1)),(a.2.2.2.2.1,(a.2.2.2.2.2.2.2.1,a.2.2.2.2.2.2.2.2))]))),a1.2.1,a1.2.2)) Y) (N ((a.1,(a.2.1,(a.2.2.1,[(a.2.2.2.1,(a.2.2.2.2.2.1,a.2.2.2.2.2.2.1)),(a.2.2.2.2.1,(a.2.2.2.2.2.2.2.1,a.2.2.2.2.2.2.2.2))]))),j.2.1,j.2.2)))))))))) Y)) (cond (t.1==1) (let l5:=W a.2.2.2.2.2.2.2.1.length
 cond (l5==0) (N ((a.1,(a.2.1,(a.2.2.1,[(a.2.2.2.1,(a.2.2.2.2.2.1,a.2.2.2.2.2.2.1)),(a.2.2.2.2.1,(a.2.2.2.2.2.2.2.1,a.2.2.2.2.2.2.2.2))]))),t.2.1,t.2.2)) (let j4:=W a.2.2.2.2.2.2.2.1.length
 (j02 t.2.1 t.2.2 j4).bind λe=>cond (inR e.1 a.2.2.2.2.2.2.2.1.length) ((j02 e.2.1 e.2.2 8).bind λl=>cond (l.1==0) (let n8:M Int:=[0,1,400,401]
 (j03 l.2.1 l.2.2 n8).bind λb5=>let q7:an:=Á a.2.2.2.2.2.2.2.1 e.1.toNat ((K a.2.2.2.2.2.2.2.1 e.1.toNat (J,(0,((0,0),(0,(0,(([]:(M L)),(([]:ae),(0,0))))))))).1,((K a.2.2.2.2.2.2.2.1 e.1.toNat (J,(0,((0,0),(0,(0,(([]:(M L)),(([]:ae),(0,0))))))))).2.1,(((K a.2.2.2.2.2.2.2.1 e.1.toNat (J,(0,((0,0),(0,(0,(([]:(M L)),(([]:ae),(0,0))))))))).2.2.1.1,(K a.2.2.2.2.2.2.2.1 e.1.toNat (J,(0,((0,0),(0,(0,(([]:(M L)),(([]:ae),(0,0))))))))).2.2.1.2),((K a.2.2.2.2.2.2.2.1 e.1.toNat (J,(0,((0,0),(0,(0,(([]:(M L)),(([]:ae),(0,0))))))))).2.2.2.1,(b5.1,((K a.2.2.2.2.2.2.2.1 e.1.toNat (J,(0,((0,0),(0,(0,(([]:(M L)),(([]:ae),(0,0))))))))).2.2.2.2.2.1,((K a.2.2.2.2.2.2.2.1 e.1.toNat (J,(0,((0,0),(0,(0,(([]:(M L)),(([]:ae),(0,0))))))))).2.2.2.2.2.2.1,((K a.2.2.2.2.2.2.2.1 e.1.toNat (J,(0,((0,0),(0,(0,(([]:(M L)),(([]:ae),(0,0))))))))).2.2.2.2.2.2.2.1,(K a.2.2.2.2.2.2.2.1 e.1.toNat (J,(0,((0,0),(0,(0,(([]:(M L)),(([]:ae),(0,0))))))))).2.2.2.2.2.2.2.2))))))))
 N ((a.1,(a.2.1,(a.2.2.1,[(a.2.2.2.1,(a.2.2.2.2.2.1,a.2.2.2.2.2.2.1)),(a.2.2.2.2.1,(q7,a.2.2.2.2.2.2.2.2))]))),b5.2.1,b5.2.2)) (cond (l.1==1) (let o0:M Int:=[0,1,(-5),98979,98981]
 (j03 l.2.1 l.2.2 o0).bind λd0=>let t2:an:=Á a.2.2.2.2.2.2.2.1 e.1.toNat ((K a.2.2.2.2.2.2.2.1 e.1.toNat (J,(0,((0,0),(0,(0,(([]:(M L)),(([]:ae),(0,0))))))))).1,((K a.2.2.2.2.2.2.2.1 e.1.toNat (J,(0,((0,0),(0,(0,(([]:(M L)),(([]:ae),(0,0))))))))).2.1,((d0.1,(K a.2.2.2.2.2.2.2.1 e.1.toNat (J,(0,((0,0),(0,(0,(([]:(M L)),(([]:ae),(0,0))))))))).2.2.1.2),((K a.2.2.2.2.2.2.2.1 e.1.toNat (J,(0,((0,0),(0,(0,(([]:(M L)),(([]:ae),(0,0))))))))).2.2.2.1,((K a.2.2.2.2.2.2.2.1 e.1.toNat (J,(0,((0,0),(0,(0,(([]:(M L)),(([]:ae),(0,0))))))))).2.2.2.2.1,((K a.2.2.2.2.2.2.2.1 e.1.toNat (J,(0,((0,0),(0,(0,(([]:(M L)),(([]:ae),(0,0))))))))).2.2.2.2.2.1,((K a.2.2.2.2.2.2.2.1 e.1.toNat (J,(0,((0,0),(0,(0,(([]:(M L)),(([]:ae),(0,0))))))))).2.2.2.2.2.2.1,((K a.2.2.2.2.2.2.2.1 e.1.toNat (J,(0,((0,0),(0,(0,(([]:(M L)),(([]:ae),(0,0))))))))).2.2.2.2.2.2.2.1,(K a.2.2.2.2.2.2.2.1 e.1.toNat (J,(0,((0,0),(0,(0,(([]:(M L)),(([]:ae),(0,0))))))))).2.2.2.2.2.2.2.2))))))))
 N ((a.1,(a.2.1,(a.2.2.1,[(a.2.2.2.1,(a.2.2.2.2.2.1,a.2.2.2.2.2.2.1)),(a.2.2.2.2.1,(t2,a.2.2.2.2.2.2.2.2))]))),d0.2.1,d0.2.2)) (cond (l.1==2) (let u6:an:=Á a.2.2.2.2.2.2.2.1 e.1.toNat ((K a.2.2.2.2.2.2.2.1 e.1.toNat (J,(0,((0,0),(0,(0,(([]:(M L)),(([]:ae),(0,0))))))))).1,((K a.2.2.2.2.2.2.2.1 e.1.toNat (J,(0,((0,0),(0,(0,(([]:(M L)),(([]:ae),(0,0))))))))).2.1,(((K a.2.2.2.2.2.2.2.1 e.1.toNat (J,(0,((0,0),(0,(0,(([]:(M L)),(([]:ae),(0,0))))))))).2.2.1.1,(K a.2.2.2.2.2.2.2.1 e.1.toNat (J,(0,((0,0),(0,(0,(([]:(M L)),(([]:ae),(0,0))))))))).2.2.1.2),((K a.2.2.2.2.2.2.2.1 e.1.toNat (J,(0,((0,0),(0,(0,(([]:(M L)),(([]:ae),(0,0))))))))).2.2.2.1,((K a.2.2.2.2.2.2.2.1 e.1.toNat (J,(0,((0,0),(0,(0,(([]:(M L)),(([]:ae),(0,0))))))))).2.2.2.2.1,(([]:(M L)),((K a.2.2.2.2.2.2.2.1 e.1.toNat (J,(0,((0,0),(0,(0,(([]:(M L)),(([]:ae),(0,0))))))))).2.2.2.2.2.2.1,((K a.2.2.2.2.2.2.2.1 e.1.toNat (J,(0,((0,0),(0,(0,(([]:(M L)),(([]:ae),(0,0))))))))).2.2.2.2.2.2.2.1,(K a.2.2.2.2.2.2.2.1 e.1.toNat (J,(0,((0,0),(0,(0,(([]:(M L)),(([]:ae),(0,0))))))))).2.2.2.2.2.2.2.2))))))))
 N ((a.1,(a.2.1,(a.2.2.1,[(a.2.2.2.1,(a.2.2.2.2.2.1,a.2.2.2.2.2.2.1)),(a.2.2.2.2.1,(u6,a.2.2.2.2.2.2.2.2))]))),l.2.1,l.2.2)) (cond (l.1==3) (let j0:=W a.2.1.length
 let m7:M Int:=[0,(-1),j0]
 (j03 l.2.1 l.2.2 m7).bind λc9=>let p3:an:=Á a.2.2.2.2.2.2.2.1 e.1.toNat ((K a.2.2.2.2.2.2.2.1 e.1.toNat (J,(0,((0,0),(0,(0,(([]:(M L)),(([]:ae),(0,0))))))))).1,((K a.2.2.2.2.2.2.2.1 e.1.toNat (J,(0,((0,0),(0,(0,(([]:(M L)),(([]:ae),(0,0))))))))).2.1,(((K a.2.2.2.2.2.2.2.1 e.1.toNat (J,(0,((0,0),(0,(0,(([]:(M L)),(([]:ae),(0,0))))))))).2.2.1.1,(K a.2.2.2.2.2.2.2.1 e.1.toNat (J,(0,((0,0),(0,(0,(([]:(M L)),(([]:ae),(0,0))))))))).2.2.1.2),((K a.2.2.2.2.2.2.2.1 e.1.toNat (J,(0,((0,0),(0,(0,(([]:(M L)),(([]:ae),(0,0))))))))).2.2.2.1,((K a.2.2.2.2.2.2.2.1 e.1.toNat (J,(0,((0,0),(0,(0,(([]:(M L)),(([]:ae),(0,0))))))))).2.2.2.2.1,([c9.1],((K a.2.2.2.2.2.2.2.1 e.1.toNat (J,(0,((0,0),(0,(0,(([]:(M L)),(([]:ae),(0,0))))))))).2.2.2.2.2.2.1,((K a.2.2.2.2.2.2.2.1 e.1.toNat (J,(0,((0,0),(0,(0,(([]:(M L)),(([]:ae),(0,0))))))))).2.2.2.2.2.2.2.1,(K a.2.2.2.2.2.2.2.1 e.1.toNat (J,(0,((0,0),(0,(0,(([]:(M L)),(([]:ae),(0,0))))))))).2.2.2.2.2.2.2.2))))))))
 N ((a.1,(a.2.1,(a.2.2.1,[(a.2.2.2.1,(a.2.2.2.2.2.1,a.2.2.2.2.2.2.1)),(a.2.2.2.2.1,(p3,a.2.2.2.2.2.2.2.2))]))),c9.2.1,c9.2.2)) (cond (l.1==4) (let k7:M Int:=[(-1),3]
 (j03 l.2.1 l.2.2 k7).bind λb7=>let q9:an:=Á a.2.2.2.2.2.2.2.1 e.1.toNat ((K a.2.2.2.2.2.2.2.1 e.1.toNat (J,(0,((0,0),(0,(0,(([]:(M L)),(([]:ae),(0,0))))))))).1,((K a.2.2.2.2.2.2.2.1 e.1.toNat (J,(0,((0,0),(0,(0,(([]:(M L)),(([]:ae),(0,0))))))))).2.1,(((K a.2.2.2.2.2.2.2.1 e.1.toNat (J,(0,((0,0),(0,(0,(([]:(M L)),(([]:ae),(0,0))))))))).2.2.1.1,(K a.2.2.2.2.2.2.2.1 e.1.toNat (J,(0,((0,0),(0,(0,(([]:(M L)),(([]:ae),(0,0))))))))).2.2.1.2),(b7.1,((K a.2.2.2.2.2.2.2.1 e.1.toNat (J,(0,((0,0),(0,(0,(([]:(M L)),(([]:ae),(0,0))))))))).2.2.2.2.1,((K a.2.2.2.2.2.2.2.1 e.1.toNat (J,(0,((0,0),(0,(0,(([]:(M L)),(([]:ae),(0,0))))))))).2.2.2.2.2.1,((K a.2.2.2.2.2.2.2.1 e.1.toNat (J,(0,((0,0),(0,(0,(([]:(M L)),(([]:ae),(0,0))))))))).2.2.2.2.2.2.1,((K a.2.2.2.2.2.2.2.1 e.1.toNat (J,(0,((0,0),(0,(0,(([]:(M L)),(([]:ae),(0,0))))))))).2.2.2.2.2.2.2.1,(K a.2.2.2.2.2.2.2.1 e.1.toNat (J,(0,((0,0),(0,(0,(([]:(M L)),(([]:ae),(0,0))))))))).2.2.2.2.2.2.2.2))))))))
 N ((a.1,(a.2.1,(a.2.2.1,[(a.2.2.2.1,(a.2.2.2.2.2.1,a.2.2.2.2.2.2.1)),(a.2.2.2.2.1,(q9,a.2.2.2.2.2.2.2.2))]))),b7.2.1,b7.2.2)) (cond (l.1==5) (let m6:M Int:=[0,1,2,3]
 (j03 l.2.1 l.2.2 m6).bind λc3=>let p4:an:=Á a.2.2.2.2.2.2.2.1 e.1.toNat ((K a.2.2.2.2.2.2.2.1 e.1.toNat (J,(0,((0,0),(0,(0,(([]:(M L)),(([]:ae),(0,0))))))))).1,((K a.2.2.2.2.2.2.2.1 e.1.toNat (J,(0,((0,0),(0,(0,(([]:(M L)),(([]:ae),(0,0))))))))).2.1,(((K a.2.2.2.2.2.2.2.1 e.1.toNat (J,(0,((0,0),(0,(0,(([]:(M L)),(([]:ae),(0,0))))))))).2.2.1.1,(K a.2.2.2.2.2.2.2.1 e.1.toNat (J,(0,((0,0),(0,(0,(([]:(M L)),(([]:ae),(0,0))))))))).2.2.1.2),((K a.2.2.2.2.2.2.2.1 e.1.toNat (J,(0,((0,0),(0,(0,(([]:(M L)),(([]:ae),(0,0))))))))).2.2.2.1,((K a.2.2.2.2.2.2.2.1 e.1.toNat (J,(0,((0,0),(0,(0,(([]:(M L)),(([]:ae),(0,0))))))))).2.2.2.2.1,((K a.2.2.2.2.2.2.2.1 e.1.toNat (J,(0,((0,0),(0,(0,(([]:(M L)),(([]:ae),(0,0))))))))).2.2.2.2.2.1,((K a.2.2.2.2.2.2.2.1 e.1.toNat (J,(0,((0,0),(0,(0,(([]:(M L)),(([]:ae),(0,0))))))))).2.2.2.2.2.2.1,((K a.2.2.2.2.2.2.2.1 e.1.toNat (J,(0,((0,0),(0,(0,(([]:(M L)),(([]:ae),(0,0))))))))).2.2.2.2.2.2.2.1,c3.1))))))))
 N ((a.1,(a.2.1,(a.2.2.1,[(a.2.2.2.1,(a.2.2.2.2.2.1,a.2.2.2.2.2.2.1)),(a.2.2.2.2.1,(p4,a.2.2.2.2.2.2.2.2))]))),c3.2.1,c3.2.2)) (cond (l.1==6) (let l3:M Int:=[0,1,(-1)]
 (j03 l.2.1 l.2.2 l3).bind λd4=>let r6:an:=Á a.2.2.2.2.2.2.2.1 e.1.toNat ((K a.2.2.2.2.2.2.2.1 e.1.toNat (J,(0,((0,0),(0,(0,(([]:(M L)),(([]:ae),(0,0))))))))).1,((K a.2.2.2.2.2.2.2.1 e.1.toNat (J,(0,((0,0),(0,(0,(([]:(M L)),(([]:ae),(0,0))))))))).2.1,(((K a.2.2.2.2.2.2.2.1 e.1.toNat (J,(0,((0,0),(0,(0,(([]:(M L)),(([]:ae),(0,0))))))))).2.2.1.1,(K a.2.2.2.2.2.2.2.1 e.1.toNat (J,(0,((0,0),(0,(0,(([]:(M L)),(([]:ae),(0,0))))))))).2.2.1.2),((K a.2.2.2.2.2.2.2.1 e.1.toNat (J,(0,((0,0),(0,(0,(([]:(M L)),(([]:ae),(0,0))))))))).2.2.2.1,((K a.2.2.2.2.2.2.2.1 e.1.toNat (J,(0,((0,0),(0,(0,(([]:(M L)),(([]:ae),(0,0))))))))).2.2.2.2.1,((K a.2.2.2.2.2.2.2.1 e.1.toNat (J,(0,((0,0),(0,(0,(([]:(M L)),(([]:ae),(0,0))))))))).2.2.2.2.2.1,((K a.2.2.2.2.2.2.2.1 e.1.toNat (J,(0,((0,0),(0,(0,(([]:(M L)),(([]:ae),(0,0))))))))).2.2.2.2.2.2.1,(d4.1,(K a.2.2.2.2.2.2.2.1 e.1.toNat (J,(0,((0,0),(0,(0,(([]:(M L)),(([]:ae),(0,0))))))))).2.2.2.2.2.2.2.2))))))))
 N ((a.1,(a.2.1,(a.2.2.1,[(a.2.2.2.1,(a.2.2.2.2.2.1,a.2.2.2.2.2.2.1)),(a.2.2.2.2.1,(r6,a.2.2.2.2.2.2.2.2))]))),d4.2.1,d4.2.2)) (cond (l.1==7) (let f0:M ByteArray:=[(Z #[97,100,97]),(Z #[98,111,98]),(Z #[120,32,121])]
 (j02 l.2.1 l.2.2 3).bind λa3=>cond (inR a3.1 f0.length) (let l6:=K f0 a3.1.toNat J
 let x2:an:=Á a.2.2.2.2.2.2.2.1 e.1.toNat (l6,((K a.2.2.2.2.2.2.2.1 e.1.toNat (J,(0,((0,0),(0,(0,(([]:(M L)),(([]:ae),(0,0))))))))).2.1,(((K a.2.2.2.2.2.2.2.1 e.1.toNat (J,(0,((0,0),(0,(0,(([]:(M L)),(([]:ae),(0,0))))))))).2.2.1.1,(K a.2.2.2.2.2.2.2.1 e.1.toNat (J,(0,((0,0),(0,(0,(([]:(M L)),(([]:ae),(0,0))))))))).2.2.1.2),((K a.2.2.2.2.2.2.2.1 e.1.toNat (J,(0,((0,0),(0,(0,(([]:(M L)),(([]:ae),(0,0))))))))).2.2.2.1,((K a.2.2.2.2.2.2.2.1 e.1.toNat (J,(0,((0,0),(0,(0,(([]:(M L)),(([]:ae),(0,0))))))))).2.2.2.2.1,((K a.2.2.2.2.2.2.2.1 e.1.toNat (J,(0,((0,0),(0,(0,(([]:(M L)),(([]:ae),(0,0))))))))).2.2.2.2.2.1,((K a.2.2.2.2.2.2.2.1 e.1.toNat (J,(0,((0,0),(0,(0,(([]:(M L)),(([]:ae),(0,0))))))))).2.2.2.2.2.2.1,((K a.2.2.2.2.2.2.2.1 e.1.toNat (J,(0,((0,0),(0,(0,(([]:(M L)),(([]:ae),(0,0))))))))).2.2.2.2.2.2.2.1,(K a.2.2.2.2.2.2.2.1 e.1.toNat (J,(0,((0,0),(0,(0,(([]:(M L)),(([]:ae),(0,0))))))))).2.2.2.2.2.2.2.2))))))))
 N ((a.1,(a.2.1,(a.2.2.1,[(a.2.2.2.1,(a.2.2.2.2.2.1,a.2.2.2.2.2.2.1)),(a.2.2.2.2.1,(x2,a.2.2.2.2.2.2.2.2))]))),a3.2.1,a3.2.2)) Y) (N ((a.1,(a.2.1,(a.2.2.1,[(a.2.2.2.1,(a.2.2.2.2.2.1,a.2.2.2.2.2.2.1)),(a.2.2.2.2.1,(a.2.2.2.2.2.2.2.1,a.2.2.2.2.2.2.2.2))]))),l.2.1,l.2.2)))))))))) Y)) Y)) ((j02 p.2.1 p.2.2 2).bind λd5=>cond (d5.1==0) ((j49 d5.2.1 d5.2.2 ((Â a.1.length ()),((Â a.2.1.length ()),((Â a.2.2.1.length ()),(Â 2 ()))))).bind λn=>(j02 n.2.1 n.2.2 5).bind λq=>cond (q.1==0) (let i0:ax:=[(n.1.1,(n.1.2.1,(n.1.2.2.1,(n.1.2.2.2.1,n.1.2.2.2.1))))]
 cond (O (U a.2.2.2.2.2.2.1+U i0<=aF)) (let q4:ax:=a.2.2.2.2.2.2.1++i0
 N ((a.1,(a.2.1,(a.2.2.1,[(a.2.2.2.1,(a.2.2.2.2.2.1,q4)),(a.2.2.2.2.1,(a.2.2.2.2.2.2.2.1,a.2.2.2.2.2.2.2.2))]))),q.2.1,q.2.2)) Y) (cond (q.1==1) (let s2:=W a.2.1.length
 let r4:M Int:=[(-1),(-2),s2]
 (j03 q.2.1 q.2.2 r4).bind λd8=>let g8:ax:=[(n.1.1,(d8.1,(n.1.2.2.1,(n.1.2.2.2.1,n.1.2.2.2.2))))]
 cond (O (U a.2.2.2.2.2.2.1+U g8<=aF)) (let p1:ax:=a.2.2.2.2.2.2.1++g8
 N ((a.1,(a.2.1,(a.2.2.1,[(a.2.2.2.1,(a.2.2.2.2.2.1,p1)),(a.2.2.2.2.1,(a.2.2.2.2.2.2.2.1,a.2.2.2.2.2.2.2.2))]))),d8.2.1,d8.2.2)) Y) (cond (q.1==2) (let r0:M Int:=[0,1,n.1.2.1]
 (j03 q.2.1 q.2.2 r0).bind λe1=>let i3:ax:=[(n.1.1,(n.1.2.1,(e1.1,(n.1.2.2.2.1,n.1.2.2.2.2))))]
 cond (O (U a.2.2.2.2.2.2.1+U i3<=aF)) (let q8:ax:=a.2.2.2.2.2.2.1++i3
 N ((a.1,(a.2.1,(a.2.2.1,[(a.2.2.2.1,(a.2.2.2.2.2.1,q8)),(a.2.2.2.2.1,(a.2.2.2.2.2.2.2.1,a.2.2.2.2.2.2.2.2))]))),e1.2.1,e1.2.2)) Y) (cond (q.1==3) (let r3:M Int:=[0,(-1)]
 (j03 q.2.1 q.2.2 r3).bind λd9=>let r2:M Int:=[8551872000,8551958399,8551958400,8589934592]
 (j03 d9.2.1 d9.2.2 r2).bind λe6=>let i2:ax:=[(n.1.1,(n.1.2.1,(n.1.2.2.1,(d9.1,e6.1))))]
 cond (O (U a.2.2.2.2.2.2.1+U i2<=aF)) (let p0:ax:=a.2.2.2.2.2.2.1++i2
 N ((a.1,(a.2.1,(a.2.2.1,[(a.2.2.2.1,(a.2.2.2.2.2.1,p0)),(a.2.2.2.2.1,(a.2.2.2.2.2.2.2.1,a.2.2.2.2.2.2.2.2))]))),e6.2.1,e6.2.2)) Y) (cond (q.1==4) (let r9:M Int:=[(-1),3]
 (j03 q.2.1 q.2.2 r9).bind λd7=>let f3:ax:=[(d7.1,(n.1.2.1,(n.1.2.2.1,(n.1.2.2.2.1,n.1.2.2.2.2))))]
 cond (O (U a.2.2.2.2.2.2.1+U f3<=aF)) (let m2:ax:=a.2.2.2.2.2.2.1++f3
 N ((a.1,(a.2.1,(a.2.2.1,[(a.2.2.2.1,(a.2.2.2.2.2.1,m2)),(a.2.2.2.2.1,(a.2.2.2.2.2.2.2.1,a.2.2.2.2.2.2.2.2))]))),d7.2.1,d7.2.2)) Y) (let e8:ax:=[(n.1.1,(n.1.2.1,(n.1.2.2.1,(n.1.2.2.2.1,n.1.2.2.2.2))))]
 cond (O (U a.2.2.2.2.2.2.1+U e8<=aF)) (let l7:ax:=a.2.2.2.2.2.2.1++e8
 N ((a.1,(a.2.1,(a.2.2.1,[(a.2.2.2.1,(a.2.2.2.2.2.1,l7)),(a.2.2.2.2.1,(a.2.2.2.2.2.2.2.1,a.2.2.2.2.2.2.2.2))]))),q.2.1,q.2.2)) Y)))))) (cond (d5.1==1) ((j49 d5.2.1 d5.2.2 ((Â a.1.length ()),((Â a.2.1.length ()),((Â a.2.2.1.length ()),(Â 2 ()))))).bind λr=>(j02 r.2.1 r.2.2 5).bind λu=>cond (u.1==0) (let s4:ax:=[(r.1.1,(r.1.2.1,(r.1.2.2.1,(r.1.2.2.2.1,r.1.2.2.2.1))))]
 cond (O (U a.2.2.2.2.2.2.2.2+U s4<=aF)) (let y8:ax:=a.2.2.2.2.2.2.2.2++s4
 N ((a.1,(a.2.1,(a.2.2.1,[(a.2.2.2.1,(a.2.2.2.2.2.1,a.2.2.2.2.2.2.1)),(a.2.2.2.2.1,(a.2.2.2.2.2.2.2.1,y8))]))),u.2.1,u.2.2)) Y) (cond (u.1==1) (let y6:=W a.2.1.length
 let x7:M Int:=[(-1),(-2),y6]
 (j03 u.2.1 u.2.2 x7).bind λn9=>let g6:ax:=[(r.1.1,(n9.1,(r.1.2.2.1,(r.1.2.2.2.1,r.1.2.2.2.2))))]
 cond (O (U a.2.2.2.2.2.2.2.2+U g6<=aF)) (let p5:ax:=a.2.2.2.2.2.2.2.2++g6
 N ((a.1,(a.2.1,(a.2.2.1,[(a.2.2.2.1,(a.2.2.2.2.2.1,a.2.2.2.2.2.2.1)),(a.2.2.2.2.1,(a.2.2.2.2.2.2.2.1,p5))]))),n9.2.1,n9.2.2)) Y) (cond (u.1==2) (let y4:M Int:=[0,1,r.1.2.1]
 (j03 u.2.1 u.2.2 y4).bind λj9=>let g9:ax:=[(r.1.1,(r.1.2.1,(j9.1,(r.1.2.2.2.1,r.1.2.2.2.2))))]
 cond (O (U a.2.2.2.2.2.2.2.2+U g9<=aF)) (let q6:ax:=a.2.2.2.2.2.2.2.2++g9
 N ((a.1,(a.2.1,(a.2.2.1,[(a.2.2.2.1,(a.2.2.2.2.2.1,a.2.2.2.2.2.2.1)),(a.2.2.2.2.1,(a.2.2.2.2.2.2.2.1,q6))]))),j9.2.1,j9.2.2)) Y) (cond (u.1==3) (let y9:M Int:=[0,(-1)]
 (j03 u.2.1 u.2.2 y9).bind λm1=>let x9:M Int:=[8551872000,8551958399,8551958400,8589934592]
 (j03 m1.2.1 m1.2.2 x9).bind λo5=>let i1:ax:=[(r.1.1,(r.1.2.1,(r.1.2.2.1,(m1.1,o5.1))))]
 cond (O (U a.2.2.2.2.2.2.2.2+U i1<=aF)) (let r8:ax:=a.2.2.2.2.2.2.2.2++i1
 N ((a.1,(a.2.1,(a.2.2.1,[(a.2.2.2.1,(a.2.2.2.2.2.1,a.2.2.2.2.2.2.1)),(a.2.2.2.2.1,(a.2.2.2.2.2.2.2.1,r8))]))),o5.2.1,o5.2.2)) Y) (cond (u.1==4) (let y7:M Int:=[(-1),3]
 (j03 u.2.1 u.2.2 y7).bind λi7=>let g7:ax:=[(i7.1,(r.1.2.1,(r.1.2.2.1,(r.1.2.2.2.1,r.1.2.2.2.2))))]
 cond (O (U a.2.2.2.2.2.2.2.2+U g7<=aF)) (let r5:ax:=a.2.2.2.2.2.2.2.2++g7
 N ((a.1,(a.2.1,(a.2.2.1,[(a.2.2.2.1,(a.2.2.2.2.2.1,a.2.2.2.2.2.2.1)),(a.2.2.2.2.1,(a.2.2.2.2.2.2.2.1,r5))]))),i7.2.1,i7.2.2)) Y) (let i4:ax:=[(r.1.1,(r.1.2.1,(r.1.2.2.1,(r.1.2.2.2.1,r.1.2.2.2.2))))]
 cond (O (U a.2.2.2.2.2.2.2.2+U i4<=aF)) (let q2:ax:=a.2.2.2.2.2.2.2.2++i4
 N ((a.1,(a.2.1,(a.2.2.1,[(a.2.2.2.1,(a.2.2.2.2.2.1,a.2.2.2.2.2.2.1)),(a.2.2.2.2.1,(a.2.2.2.2.2.2.2.1,q2))]))),u.2.1,u.2.2)) Y)))))) Y)))))))))))
def j8K(c:M L)(a:L)(b:bR):S (bR×(M L)×L):=
 BE (j6d c a b) (j9M c a b)
def jlg(a:L):S Bool:=N (cond (O (a>=48)) (O (a<=57)) À)
def j5Z(a:X)(b:L):S ((X×L) ⊕ (Ä ⊕ Ç)):=
 let k:=W (Æ a)
 cond (O (b<k)) (cond (inR b (Æ a)) (let c:=dS a b
 cond ((inR b (Æ a)) || !(!(O (c<97)))) (let f:=dS a b
 cond ((inR b (Æ a)) || !(cond (O (c<97)) Ã (O (f>122)))) (let j:=dS a b
 cond (cond (O (c<97)) Ã (O (f>122))) ((jlg j).bind λd=>cond ((inR b (Æ a)) || !(!d)) (let e:=dS a b
 cond ((inR b (Æ a)) || !(cond (!d) (e != 95) À)) (let g:=dS a b
 cond (cond (cond (!d) (e != 95) À) (g != 45) À) (N (.inr (.inl À))) (let l:=w64 (b+1)
 N (.inl (a,l)))) Y) Y) (cond ((inR b (Æ a)) || !À) (let n:=dS a b
 cond ((inR b (Æ a)) || !À) (let m:=dS a b
 let i:=w64 (b+1)
 N (.inl (a,i))) Y) Y)) Y) Y) Y) (N (.inr (.inr ())))
def HQ[LP](b:X)(a:L):S (Ä ⊕ Ç):=LP.lp (unc2 j5Z) (b,a)
theorem VY(b a):HQ b a=lpK (j5Z b a) (λh=>HQ h.1 h.2):=bt _ _
def jkr[LP](a:X):S Bool:=
 let c:=W (Æ a)
 let f:=W (Æ a)
 cond ((inR 0 (Æ a)) || !(!(cond (O (c<1)) Ã (O (f>24))))) (let d:=dS a 0
 let b:Bool:=cond (cond (O (c<1)) Ã (O (f>24))) Ã (O (d<97))
 cond ((inR 0 (Æ a)) || !(!b)) (let e:=dS a 0
 cond (cond b Ã (O (e>122))) (N À) ((HQ a 0).bind λg=>sumC g (λi=>N i) (λj=>N Ã))) Y) Y
def j60(a:M X)(d b:L):S (((M X)×L×L) ⊕ (L ⊕ Ç)):=cond (O (b<d)) (cond (inR b a.length) (let f:=K a b.toNat J
 cond (inR d a.length) (let c:=K a d.toNat J
 cond (É f==É c) (N (.inr (.inl 4))) (let e:=w64 (b+1)
 N (.inl (a,d,e)))) Y) Y) (N (.inr (.inr ())))
def HR[LP](b:M X)(c a:L):S (L ⊕ Ç):=LP.lp (unc3 j60) (b,c,a)
theorem VZ(b c a):HR b c a=lpK (j60 b c a) (λh=>HR h.1 h.2.1 h.2.2):=bt _ _
def jcz[LP](a:M X)(b:L):S Int:=cond (inR b a.length) (let d:=K a b.toNat J
 (jkr d).bind λc=>cond (!c) (N 2) ((HR a b 0).bind λe=>sumC e (λf=>N f) (λg=>N 0))) Y
def j7z(a b c:L):S Bool:=N (cond (O (a>=b)) (O (a<=c)) À)
def jaa(a:uw):S Bool:=(j7z a.1 1970 2240).bind λi=>cond i ((j7z a.2.1 a.1 2240).bind λe=>cond e ((j7z a.2.2.1 1 12).bind λf=>cond f ((j7z a.2.2.2.1 1 5).bind λb=>cond b ((j7z a.2.2.2.2.1 0 6).bind λc=>cond c ((j7z a.2.2.2.2.2.1 0 86399).bind λd=>cond d ((j7z a.2.2.2.2.2.2 (-64800) 64800).bind λg=>N g) (N À)) (N À)) (N À)) (N À)) (N À)) (N À)
def j1w(a:L):S Bool:=
 let c:=Å a 4
 let d:=Å a 100
 let b:=Å a 400
 N (cond (c==0) (cond (d != 0) Ã (b==0)) À)
def jea(b a:L):S Int:=cond (a==1) (cond (a==1) (N 31) (cond (a==4) (cond (a==4) (N 30) (cond (a==2) ((j1w b).bind λa4=>cond a4 (N 29) (N 28)) (N 0))) (cond (a==6) (cond (a==6) (N 30) (cond (a==2) ((j1w b).bind λw=>cond w (N 29) (N 28)) (N 0))) (cond (a==9) (cond (a==9) (N 30) (cond (a==2) ((j1w b).bind λv=>cond v (N 29) (N 28)) (N 0))) (cond (a==11) (N 30) (cond (a==2) ((j1w b).bind λz=>cond z (N 29) (N 28)) (N 0))))))) (cond (a==3) (cond (a==3) (N 31) (cond (a==4) (cond (a==4) (N 30) (cond (a==2) ((j1w b).bind λa2=>cond a2 (N 29) (N 28)) (N 0))) (cond (a==6) (cond (a==6) (N 30) (cond (a==2) ((j1w b).bind λa3=>cond a3 (N 29) (N 28)) (N 0))) (cond (a==9) (cond (a==9) (N 30) (cond (a==2) ((j1w b).bind λa1=>cond a1 (N 29) (N 28)) (N 0))) (cond (a==11) (N 30) (cond (a==2) ((j1w b).bind λy=>cond y (N 29) (N 28)) (N 0))))))) (cond (a==5) (cond (a==5) (N 31) (cond (a==4) (cond (a==4) (N 30) (cond (a==2) ((j1w b).bind λa0=>cond a0 (N 29) (N 28)) (N 0))) (cond (a==6) (cond (a==6) (N 30) (cond (a==2) ((j1w b).bind λx=>cond x (N 29) (N 28)) (N 0))) (cond (a==9) (cond (a==9) (N 30) (cond (a==2) ((j1w b).bind λr=>cond r (N 29) (N 28)) (N 0))) (cond (a==11) (N 30) (cond (a==2) ((j1w b).bind λd=>cond d (N 29) (N 28)) (N 0))))))) (cond (a==7) (cond (a==7) (N 31) (cond (a==4) (cond (a==4) (N 30) (cond (a==2) ((j1w b).bind λi=>cond i (N 29) (N 28)) (N 0))) (cond (a==6) (cond (a==6) (N 30) (cond (a==2) ((j1w b).bind λm=>cond m (N 29) (N 28)) (N 0))) (cond (a==9) (cond (a==9) (N 30) (cond (a==2) ((j1w b).bind λo=>cond o (N 29) (N 28)) (N 0))) (cond (a==11) (N 30) (cond (a==2) ((j1w b).bind λk=>cond k (N 29) (N 28)) (N 0))))))) (cond (a==8) (cond (a==8) (N 31) (cond (a==4) (cond (a==4) (N 30) (cond (a==2) ((j1w b).bind λc=>cond c (N 29) (N 28)) (N 0))) (cond (a==6) (cond (a==6) (N 30) (cond (a==2) ((j1w b).bind λj=>cond j (N 29) (N 28)) (N 0))) (cond (a==9) (cond (a==9) (N 30) (cond (a==2) ((j1w b).bind λu=>cond u (N 29) (N 28)) (N 0))) (cond (a==11) (N 30) (cond (a==2) ((j1w b).bind λf=>cond f (N 29) (N 28)) (N 0))))))) (cond (a==10) (cond (a==10) (N 31) (cond (a==4) (cond (a==4) (N 30) (cond (a==2) ((j1w b).bind λg=>cond g (N 29) (N 28)) (N 0))) (cond (a==6) (cond (a==6) (N 30) (cond (a==2) ((j1w b).bind λq=>cond q (N 29) (N 28)) (N 0))) (cond (a==9) (cond (a==9) (N 30) (cond (a==2) ((j1w b).bind λp=>cond p (N 29) (N 28)) (N 0))) (cond (a==11) (N 30) (cond (a==2) ((j1w b).bind λs=>cond s (N 29) (N 28)) (N 0))))))) (cond (a==12) (N 31) (cond (a==4) (cond (a==4) (N 30) (cond (a==2) ((j1w b).bind λn=>cond n (N 29) (N 28)) (N 0))) (cond (a==6) (cond (a==6) (N 30) (cond (a==2) ((j1w b).bind λe=>cond e (N 29) (N 28)) (N 0))) (cond (a==9) (cond (a==9) (N 30) (cond (a==2) ((j1w b).bind λl=>cond l (N 29) (N 28)) (N 0))) (cond (a==11) (N 30) (cond (a==2) ((j1w b).bind λt=>cond t (N 29) (N 28)) (N 0))))))))))))
def ji2(a:uv):S Bool:=cond (O (a.1>=1970)) (cond (O (a.1<=2240)) (cond (O (a.2.1>=1)) (cond (O (a.2.1<=12)) (cond (O (a.2.2>=1)) ((jea a.1 a.2.1).bind λb=>N (O (a.2.2<=b))) (N À)) (N À)) (N À)) (N À)) (N À)
def ji3(a:L):S Int:=
 let j:=w64 (a-1970)
 let i:=w64 (j*365)
 let l:=w64 (a-1969)
 let k:=w64 (È l 4)
 let m:=w64 (i+k)
 let c:=w64 (a-1901)
 let d:=w64 (È c 100)
 let f:=w64 (m-d)
 let g:=w64 (a-1601)
 let e:=w64 (È g 400)
 let b:=w64 (f+e)
 N b
def j6B(i f g a b:L):S ((L×L×L×L×L) ⊕ (L×L×L×L)):=cond (O (f<a)) ((jea g f).bind λd=>let c:=w64 (i+d)
 let e:=w64 (f+1)
 N (.inl (c,e,g,a,b))) (N (.inr (i,g,a,b)))
def HS[LP](e c d b a:L):S (L×L×L×L):=LP.lp (unc5 j6B) (e,c,d,b,a)
theorem V0(e c d b a):HS e c d b a=lpK (j6B e c d b a) (λh=>HS h.1 h.2.1 h.2.2.1 h.2.2.2.1 h.2.2.2.2):=bt _ _
def jo8[LP](a:uv):S (L×L):=(ji2 (a.1,(a.2.1,a.2.2))).bind λf=>cond (!f) (N (0,1)) ((ji3 a.1).bind λc=>(HS c 1 a.1 a.2.1 a.2.2).bind λe=>let d:=w64 (e.1+e.2.2.2)
 let b:=w64 (d-1)
 N (b,0))
def jbv(a:L):S Int:=
 let b:=Å a 7
 let d:=w64 (b+10)
 let c:=Å d 7
 N c
def j6C(e g f i d a:L):S ((L×L×L×L×L×L) ⊕ (L×L×L×L×L)):=(jbv a).bind λc=>cond (c != i) (let b:=w64 (a+1)
 N (.inl (e,g,f,i,d,b))) (N (.inr (e,g,f,d,a)))
def HT[LP](c e d f a b:L):S (L×L×L×L×L):=LP.lp (unc6 j6C) (c,e,d,f,a,b)
theorem V1(c e d f a b):HT c e d f a b=lpK (j6C c e d f a b) (λh=>HT h.1 h.2.1 h.2.2.1 h.2.2.2.1 h.2.2.2.2.1 h.2.2.2.2.2):=bt _ _
def j6D(g i f a:L):S ((L×L×L×L) ⊕ (L)):=
 let b:=w64 (a+7)
 (jea g i).bind λc=>let d:=w64 (f+c)
 cond (O (b<d)) (let e:=w64 (a+7)
 N (.inl (g,i,f,e))) (N (.inr a))
def HU[LP](c d b a:L):S Int:=LP.lp (unc4 j6D) (c,d,b,a)
theorem V2(c d a b):HU c d a b=lpK (j6D c d a b) (λh=>HU h.1 h.2.1 h.2.2.1 h.2.2.2):=bt _ _
def jo9[LP](e c b a:L):S (L×L):=(jo8 (e,(c,1))).bind λf=>let i:Bool:=cond (cond (f.2 != 0) Ã (O (b<1))) Ã (O (b>5))
 let j:Bool:=cond (cond i Ã (O (a<0))) Ã (O (a>6))
 cond j (N (0,1)) ((HT e c b a f.1 f.1).bind λd=>cond (O (d.2.2.1<5)) (let l:=w64 (d.2.2.1-1)
 let k:=w64 (7*l)
 let g:=w64 (d.2.2.2.2+k)
 N (g,0)) ((HU d.1 d.2.1 d.2.2.2.1 d.2.2.2.2).bind λm=>N (m,0)))
def j2D(j:aX)(k i c e a:L)(d:ae):S ((aX×L×L×L×L×L×ae) ⊕ (aX×L×L×L×L×L×ae)):=cond (O (c>0)) (let b:=w64 (c-1)
 cond (inR b d.length) (let f:=(K d b.toNat (0,0)).1
 cond (O (f>e)) (let g:=w64 (c-1)
 N (.inl (j,k,i,g,e,a,d))) (N (.inr (j,k,i,c,e,a,d)))) Y) (N (.inr (j,k,i,c,e,a,d)))
def EM[LP](c:aX)(g b e d a:L)(f:ae):S (aX×L×L×L×L×L×ae):=LP.lp (unc7 j2D) (c,g,b,e,d,a,f)
theorem V3(c g b e d a f):EM c g b e d a f=lpK (j2D c g b e d a f) (λh=>EM h.1 h.2.1 h.2.2.1 h.2.2.2.1 h.2.2.2.2.1 h.2.2.2.2.2.1 h.2.2.2.2.2.2):=bt _ _
def j2E[LP](d:aX)(c u:L)(t:ae):S ((aX×L×L×ae) ⊕ (aX×L×ae)):=cond (inR c d.length) (let i:=K d c.toNat (0,(0,(0,(0,(0,(0,0))))))
 cond (O (u<=i.2.1)) (cond (inR c d.length) (let p:=K d c.toNat (0,(0,(0,(0,(0,(0,0))))))
 cond (inR c d.length) (let q:=K d c.toNat (0,(0,(0,(0,(0,(0,0))))))
 cond (inR c d.length) (let l:=K d c.toNat (0,(0,(0,(0,(0,(0,0))))))
 (jo9 u p.2.2.1 q.2.2.2.1 l.2.2.2.2.1).bind λr=>let s:=w64 (r.1*86400)
 cond (inR c d.length) (let j:=K d c.toNat (0,(0,(0,(0,(0,(0,0))))))
 let k:=w64 (s+j.2.2.2.2.2.1)
 cond (inR c d.length) (let o:=K d c.toNat (0,(0,(0,(0,(0,(0,0))))))
 let m:=W t.length
 (EM d c u m k o.2.2.2.2.2.2 t).bind λa=>let f:ae:=[(a.2.2.2.2.1,a.2.2.2.2.2.1)]
 cond (O (U a.2.2.2.2.2.2+U f<=aF)) (let b:ae:=a.2.2.2.2.2.2++f
 let e:=w64 (a.2.2.2.1+1)
 cond (O (0<=e)&&O (e<=(W b.length))) (cond (O (0<=a.2.2.2.1)&&O (a.2.2.2.1<=(W b.length))) (let g:ae:=over b e.toNat (Ë a.2.2.2.1.toNat b)
 let w:=W (min (U (Ë a.2.2.2.1.toNat b)) (U b-e.toNat))
 cond (inR a.2.2.2.1 g.length) (let v:ae:=Á g a.2.2.2.1.toNat (a.2.2.2.2.1,a.2.2.2.2.2.1)
 let n:=w64 (a.2.2.1+1)
 N (.inl (a.1,a.2.1,n,v))) Y) Y) Y) Y) Y) Y) Y) Y) Y) (N (.inr (d,c,t)))) Y
def HV[LP](c:aX)(d a:L)(b:ae):S (aX×L×ae):=LP.lp (unc4 j2E) (c,d,a,b)
theorem V4(b d a c):HV b d a c=lpK (j2E b d a c) (λh=>HV h.1 h.2.1 h.2.2.1 h.2.2.2):=bt _ _
def j2F[LP](c:aX)(f:L)(g:ae):S ((aX×L×ae) ⊕ (ae)):=
 let b:=W c.length
 cond (O (f<b)) (cond (inR f c.length) (let d:=K c f.toNat (0,(0,(0,(0,(0,(0,0))))))
 (HV c f d.1 g).bind λa=>let e:=w64 (a.2.1+1)
 N (.inl (a.1,e,a.2.2))) Y) (N (.inr g))
def EN[LP](b:aX)(c:L)(a:ae):S ae:=LP.lp (unc3 j2F) (b,c,a)
theorem V5(b c a):EN b c a=lpK (j2F b c a) (λh=>EN h.1 h.2.1 h.2.2):=bt _ _
def j8L[LP](a:aX):S ae:=(EN a 0 ([]:ae)).bind λb=>N b
def j1P(o c:L)(n:X)(d:L)(a:aX):S ((L×L×X×L×aX) ⊕ (L ⊕ (L×X×L×aX))):=
 let f:=W a.length
 cond (O (c<f)) (cond (inR c a.length) (let b:=K a c.toNat (0,(0,(0,(0,(0,(0,0))))))
 (jaa (b.1,(b.2.1,(b.2.2.1,(b.2.2.2.1,(b.2.2.2.2.1,(b.2.2.2.2.2.1,b.2.2.2.2.2.2))))))).bind λj=>cond (!j) (N (.inr (.inl 1))) (cond (inR c a.length) (let e:=K a c.toNat (0,(0,(0,(0,(0,(0,0))))))
 cond (inR c a.length) (let m:=K a c.toNat (0,(0,(0,(0,(0,(0,0))))))
 let g:=w64 (e.2.1-m.1)
 let i:=w64 (g+1)
 let k:=w64 (o+i)
 let l:=w64 (c+1)
 N (.inl (k,l,n,d,a))) Y) Y)) Y) (N (.inr (.inr (o,n,d,a))))
def BT[LP](e c:L)(d:X)(b:L)(a:aX):S (L ⊕ (L×X×L×aX)):=LP.lp (unc5 j1P) (e,c,d,b,a)
theorem Nj(e c d b a):BT e c d b a=lpK (j1P e c d b a) (λh=>BT h.1 h.2.1 h.2.2.1 h.2.2.2.1 h.2.2.2.2):=bt _ _
def j1x(x e:L)(c d:ae):S ((L×L×ae×ae) ⊕ (L ⊕ ae)):=
 let p:=W d.length
 cond (O (e<p)) (cond (inR e d.length) (let q:=(K d e.toNat (0,0)).2
 cond (q==x) (let v:=w64 (e+1)
 N (.inl (x,v,c,d))) (cond (inR e d.length) (let y:=(K d e.toNat (0,0)).1
 let b:=w64 (y-x)
 cond (inR e d.length) (let a:=(K d e.toNat (0,0)).2
 let r:=w64 (a-x)
 (j7z r (-86399) 86399).bind λs=>cond (!s) (N (.inr (.inl 6))) ((j7z b 0 8589934592).bind λu=>cond (!u) (N (.inr (.inl 6))) (let w:=W c.length
 cond (O (w>0)) (let l:=W c.length
 let g:=w64 (l-1)
 cond (inR g c.length) (let j:=(K c g.toNat (0,0)).1
 let n:=w64 (b-j)
 cond (O (n<604800)) (N (.inr (.inl 6))) (let f:ae:=[(b,a)]
 cond (O (U c+U f<=aF)) (let k:ae:=c++f
 let o:=w64 (e+1)
 N (.inl (a,o,k,d))) Y)) Y) (let i:ae:=[(b,a)]
 cond (O (U c+U i<=aF)) (let m:ae:=c++i
 let t:=w64 (e+1)
 N (.inl (a,t,m,d))) Y)))) Y) Y)) Y) (N (.inr (.inr c)))
def BU[LP](a d:L)(b c:ae):S (L ⊕ ae):=LP.lp (unc4 j1x) (a,d,b,c)
theorem HW(b c a d):BU b c a d=lpK (j1x b c a d) (λh=>BU h.1 h.2.1 h.2.2.1 h.2.2.2):=bt _ _
def j0d[LP](a:dR):S (ae×L):=(j7z a.2.1 (-64800) 64800).bind λf=>cond (!f) (N (([]:ae),1)) (let b:=W a.2.2.length
 cond (O (b>16)) (N (([]:ae),5)) ((BT 0 0 a.1 a.2.1 a.2.2).bind λi=>sumC i (λk=>N (([]:ae),k)) (λj=>cond (O (j.1>640)) (N (([]:ae),5)) ((j8L j.2.2.2).bind λc=>(BU j.2.2.1 0 ([]:ae) c).bind λg=>sumC g (λd=>N (([]:ae),d)) (λe=>N (e,0))))))
def j6F[LP](a:dR):S Int:=(j0d (a.1,(a.2.1,a.2.2))).bind λb=>N b.2
def j4o(i:Ä)(f:L)(j:X)(g:L)(a:aX):S ((Ä×L×X×L×aX) ⊕ (Ä)):=
 let b:=W a.length
 cond (O (f<b)) (cond ((inR f a.length) || !i) (let d:=K a f.toNat (0,(0,(0,(0,(0,(0,0))))))
 let e:=Å d.2.2.2.2.2.2 60
 let c:=w64 (f+1)
 N (.inl ((cond i (e==0) À),c,j,g,a))) Y) (N (.inr i))
def HX[LP](d:Ä)(e:L)(c:X)(b:L)(a:aX):S Bool:=LP.lp (unc5 j4o) (d,e,c,b,a)
theorem V6(d e c b a):HX d e c b a=lpK (j4o d e c b a) (λh=>HX h.1 h.2.1 h.2.2.1 h.2.2.2.1 h.2.2.2.2):=bt _ _
def j9r[LP](a:dR):S Bool:=
 let b:=Å a.2.1 60
 (HX (b==0) 0 a.1 a.2.1 a.2.2).bind λc=>N c
def j5g[LP](c:L)(d:ai)(n:aj)(l:al)(o:ao)(p:M X):S ((L×ai×aj×al×ao×(M X)) ⊕ (L ⊕ Ç)):=
 let m:=W d.length
 cond (O (c<m)) (cond (inR c d.length) (let i:=K d c.toNat (J,(0,([]:aX)))
 cond (O (U p+U [i.1]<=aF)) (let f:M ByteArray:=p++[i.1]
 (jcz f c).bind λg=>cond (g != 0) (N (.inr (.inl g))) (cond (inR c d.length) (let b:=K d c.toNat (J,(0,([]:aX)))
 (j6F (b.1,(b.2.1,b.2.2))).bind λe=>cond ((inR c d.length) || !(!(e != 0))) (let a:=K d c.toNat (J,(0,([]:aX)))
 cond (e != 0) (N (.inr (.inl 8))) ((j9r (a.1,(a.2.1,a.2.2))).bind λk=>cond (!k) (N (.inr (.inl 8))) (let j:=w64 (c+1)
 N (.inl (j,d,n,l,o,f))))) Y) Y)) Y) Y) (N (.inr (.inr ())))
def HY[LP](f:L)(d:ai)(b:aj)(a:al)(c:ao)(e:M X):S (L ⊕ Ç):=LP.lp (unc6 j5g) (f,d,b,a,c,e)
theorem V7(f d b a c e):HY f d b a c e=lpK (j5g f d b a c e) (λh=>HY h.1 h.2.1 h.2.2.1 h.2.2.2.1 h.2.2.2.2.1 h.2.2.2.2.2):=bt _ _
def ji7[LP](a:bR):S Int:=(HY 0 a.1 a.2.1 a.2.2.1 a.2.2.2 ([]:(M X))).bind λb=>sumC b (λc=>N c) (λd=>N 0)
def j7a(a b c:L):S Bool:=N (cond (O (a>=b)) (O (a<=c)) À)
def j2Z(a:ae)(b:L):S ((ae×L) ⊕ (L ⊕ Ç)):=
 let m:=W a.length
 cond (O (b<m)) (cond (inR b a.length) (let i:=K a b.toNat (0,0)
 cond (O (i.1<0)) (N (.inr (.inl 1))) (cond (inR b a.length) (let e:=K a b.toNat (0,0)
 cond (inR b a.length) (let g:=K a b.toNat (0,0)
 cond (O (e.1>=g.2)) (N (.inr (.inl 1))) (cond (inR b a.length) (let k:=K a b.toNat (0,0)
 cond (O (k.2>604800)) (N (.inr (.inl 1))) (cond (O (b>0)) (cond (inR b a.length) (let l:=K a b.toNat (0,0)
 let c:=w64 (b-1)
 cond (inR c a.length) (let j:=K a c.toNat (0,0)
 cond (O (l.1<j.2)) (N (.inr (.inl 6))) (let d:=w64 (b+1)
 N (.inl (a,d)))) Y) Y) (let f:=w64 (b+1)
 N (.inl (a,f))))) Y)) Y) Y)) Y) (N (.inr (.inr ())))
def BV[LP](b:ae)(a:L):S (L ⊕ Ç):=LP.lp (unc2 j2Z) (b,a)
theorem HZ(b a):BV b a=lpK (j2Z b a) (λh=>BV h.1 h.2):=bt _ _
def j6G[LP](a:ae):S Int:=
 let b:=W a.length
 cond (O (b>14)) (N 5) ((BV a 0).bind λc=>sumC c (λd=>N d) (λe=>N 0))
def jfr(a:L):S Bool:=(j7a a 0 604800).bind λc=>let b:=Å a 3600
 N (cond c (b==0) À)
def j4J[LP](e:L)(r:ai)(b:aj)(p:al)(q:ao)(s:M X):S ((L×ai×aj×al×ao×(M X)) ⊕ (L ⊕ Ç)):=
 let j:=W b.length
 cond (O (e<j)) (cond (inR e b.length) (let a:=K b e.toNat (J,(0,(([]:ae),(0,(0,À)))))
 cond (O (U s+U [a.1]<=aF)) (let d:M ByteArray:=s++[a.1]
 let f:Bool:=É a.1==É (Z #[110,111,98,111,100,121])
 cond f (N (.inr (.inl 2))) ((jcz d e).bind λc=>cond (c != 0) (N (.inr (.inl c))) (let n:=W r.length
 let k:=w64 (n-1)
 (j7a a.2.1 0 k).bind λm=>cond (!m) (N (.inr (.inl 3))) ((j6G a.2.2.1).bind λo=>cond (o != 0) (N (.inr (.inl 8))) ((jfr a.2.2.2.1).bind λg=>cond (!g) (N (.inr (.inl 1))) ((jfr a.2.2.2.2.1).bind λi=>cond (!i) (N (.inr (.inl 1))) (let l:=w64 (e+1)
 N (.inl (l,r,b,p,q,d))))))))) Y) Y) (N (.inr (.inr ())))
def H0[LP](f:L)(d:ai)(b:aj)(a:al)(c:ao)(e:M X):S (L ⊕ Ç):=LP.lp (unc6 j4J) (f,d,b,a,c,e)
theorem V8(f d b a c e):H0 f d b a c e=lpK (j4J f d b a c e) (λh=>H0 h.1 h.2.1 h.2.2.1 h.2.2.2.1 h.2.2.2.2.1 h.2.2.2.2.2):=bt _ _
def jg8[LP](a:bR):S Int:=(H0 0 a.1 a.2.1 a.2.2.1 a.2.2.2 ([]:(M X))).bind λb=>sumC b (λc=>N c) (λd=>N 0)
def j9s  : S Int:=(ji3 2241).bind λa=>let b:=w64 (a-1)
 N b
def j3i(p l:L)(n:ai)(c:aj)(b:al)(d:ao)(m:X)(e:L)(a:M L)(o:M X):S ((L×L×ai×aj×al×ao×X×L×(M L)×(M X)) ⊕ (L ⊕ (L×ai×aj×al×ao×X×L×(M L)×(M X)))):=
 let j:=W a.length
 cond (O (l<j)) (cond (inR l a.length) (let i:=K a l.toNat 0
 (j9s).bind λf=>(j7a i 0 f).bind λk=>cond (!k) (N (.inr (.inl 1))) (let g:=w64 (l+1)
 N (.inl (p,g,n,c,b,d,m,e,a,o)))) Y) (N (.inr (.inr (p,n,c,b,d,m,e,a,o))))
def H2[LP](j k:L)(g:ai)(b:aj)(a:al)(d:ao)(f:X)(e:L)(c:M L)(i:M X):S (L ⊕ (L×ai×aj×al×ao×X×L×(M L)×(M X))):=LP.lp (u8 unc2 j3i) (j,k,g,b,a,d,f,e,c,i)
theorem V9(j k g b a d f e c i):H2 j k g b a d f e c i=lpK (j3i j k g b a d f e c i) (λh=>H2 h.1 h.2.1 h.2.2.1 h.2.2.2.1 h.2.2.2.2.1 h.2.2.2.2.2.1 h.2.2.2.2.2.2.1 h.2.2.2.2.2.2.2.1 h.2.2.2.2.2.2.2.2.1 h.2.2.2.2.2.2.2.2.2):=bt _ _
def j3j(o d:L)(m:ai)(e:aj)(c:al)(f:ao)(p:X)(l:L)(a:M L)(n:M X):S ((L×L×ai×aj×al×ao×X×L×(M L)×(M X)) ⊕ (L ⊕ (L×ai×aj×al×ao×(M X)))):=
 let j:=W a.length
 cond (O (d<j)) (cond (inR d a.length) (let g:=K a d.toNat 0
 let b:=w64 (d-1)
 cond (inR b a.length) (let k:=K a b.toNat 0
 cond (O (g<=k)) (N (.inr (.inl 6))) (let i:=w64 (d+1)
 N (.inl (o,i,m,e,c,f,p,l,a,n)))) Y) Y) (N (.inr (.inr (o,m,e,c,f,n))))
def H3[LP](k g:L)(i:ai)(b:aj)(a:al)(d:ao)(f:X)(e:L)(c:M L)(j:M X):S (L ⊕ (L×ai×aj×al×ao×(M X))):=LP.lp (u8 unc2 j3j) (k,g,i,b,a,d,f,e,c,j)
theorem Wa(k g i b a d f e c j):H3 k g i b a d f e c j=lpK (j3j k g i b a d f e c j) (λh=>H3 h.1 h.2.1 h.2.2.1 h.2.2.2.1 h.2.2.2.2.1 h.2.2.2.2.2.1 h.2.2.2.2.2.2.1 h.2.2.2.2.2.2.2.1 h.2.2.2.2.2.2.2.2.1 h.2.2.2.2.2.2.2.2.2):=bt _ _
def j3k[LP](g:L)(u:ai)(p:aj)(d:al)(q:ao)(s:M X):S ((L×ai×aj×al×ao×(M X)) ⊕ (L ⊕ Ç)):=
 let i:=W d.length
 cond (O (g<i)) (cond (inR g d.length) (let a:=K d g.toNat (J,(0,([]:(M L))))
 cond (O (U s+U [a.1]<=aF)) (let f:M ByteArray:=s++[a.1]
 (jcz f g).bind λe=>cond (e != 0) (N (.inr (.inl e))) (let j:=W u.length
 let k:=w64 (j-1)
 (j7a a.2.1 0 k).bind λl=>cond (!l) (N (.inr (.inl 3))) (let m:=W a.2.2.length
 cond (O (m>64)) (N (.inr (.inl 5))) ((H2 g 0 u p d q a.1 a.2.1 a.2.2 f).bind λr=>sumC r (λv=>N (.inr (.inl v))) (λb=>(H3 b.1 1 b.2.1 b.2.2.1 b.2.2.2.1 b.2.2.2.2.1 b.2.2.2.2.2.1 b.2.2.2.2.2.2.1 b.2.2.2.2.2.2.2.1 b.2.2.2.2.2.2.2.2).bind λo=>sumC o (λt=>N (.inr (.inl t))) (λc=>let n:=w64 (c.1+1)
 N (.inl (n,c.2.1,c.2.2.1,c.2.2.2.1,c.2.2.2.2.1,c.2.2.2.2.2)))))))) Y) Y) (N (.inr (.inr ())))
def H4[LP](f:L)(d:ai)(b:aj)(a:al)(c:ao)(e:M X):S (L ⊕ Ç):=LP.lp (unc6 j3k) (f,d,b,a,c,e)
theorem Wb(f d b a c e):H4 f d b a c e=lpK (j3k f d b a c e) (λh=>H4 h.1 h.2.1 h.2.2.1 h.2.2.2.1 h.2.2.2.2.1 h.2.2.2.2.2):=bt _ _
def jaU[LP](a:bR):S Int:=(H4 0 a.1 a.2.1 a.2.2.1 a.2.2.2 ([]:(M X))).bind λb=>sumC b (λc=>N c) (λd=>N 0)
def j5h(o:L)(v:ai)(b:aj)(c:al)(i:ao)(u:X)(f m l k j:L)(a:M L)(g:ae)(e d:L):S ((L×ai×aj×al×ao×X×L×L×L×L×L×(M L)×ae×L×L) ⊕ (L ⊕ (ai×aj×al×ao×X×L×L×L×L×L×(M L)×ae×L×L))):=
 let t:=W a.length
 cond (O (o<t)) (cond (inR o a.length) (let q:=K a o.toNat 0
 let n:=W b.length
 let p:=w64 (n-1)
 (j7a q 0 p).bind λr=>cond (!r) (N (.inr (.inl 3))) (let s:=w64 (o+1)
 N (.inl (s,v,b,c,i,u,f,m,l,k,j,a,g,e,d)))) Y) (N (.inr (.inr (v,b,c,i,u,f,m,l,k,j,a,g,e,d))))
def H5[LP](n:L)(p:ai)(i:aj)(b:al)(c:ao)(o:X)(f l k j e:L)(m:M L)(a:ae)(d g:L):S (L ⊕ (ai×aj×al×ao×X×L×L×L×L×L×(M L)×ae×L×L)):=LP.lp (u8 unc7 j5h) (n,p,i,b,c,o,f,l,k,j,e,m,a,d,g)
theorem Wc(n p i b c o f l k j e m a d g):H5 n p i b c o f l k j e m a d g=lpK (j5h n p i b c o f l k j e m a d g) (λh=>H5 h.1 h.2.1 h.2.2.1 h.2.2.2.1 h.2.2.2.2.1 h.2.2.2.2.2.1 h.2.2.2.2.2.2.1 h.2.2.2.2.2.2.2.1 h.2.2.2.2.2.2.2.2.1 h.2.2.2.2.2.2.2.2.2.1 h.2.2.2.2.2.2.2.2.2.2.1 h.2.2.2.2.2.2.2.2.2.2.2.1 h.2.2.2.2.2.2.2.2.2.2.2.2.1 h.2.2.2.2.2.2.2.2.2.2.2.2.2.1 h.2.2.2.2.2.2.2.2.2.2.2.2.2.2):=bt _ _
def jft[LP](b:bR)(a:eL):S Int:=
 let g:=W b.1.length
 let s:=w64 (g-1)
 (j7a a.2.1 0 s).bind λu=>cond (!u) (N 3) ((j9s).bind λm=>(j7a a.2.2.1.1 1 m).bind λp=>cond (!p) (N 1) ((j7a a.2.2.1.2 0 86399).bind λf=>cond (!f) (N 1) ((j7a a.2.2.2.1 0 2).bind λo=>cond (!o) (N 1) ((j7a a.2.2.2.2.1 1 400).bind λt=>cond (!t) (N 1) (let r:=W a.2.2.2.2.2.1.length
 cond (r==0) (N 7) (let l:=W a.2.2.2.2.2.1.length
 cond (O (l>12)) (N 5) ((H5 0 b.1 b.2.1 b.2.2.1 b.2.2.2 a.1 a.2.1 a.2.2.1.1 a.2.2.1.2 a.2.2.2.1 a.2.2.2.2.1 a.2.2.2.2.2.1 a.2.2.2.2.2.2.1 a.2.2.2.2.2.2.2.1 a.2.2.2.2.2.2.2.2).bind λv=>sumC v (λw=>N w) (λd=>(j6G d.2.2.2.2.2.2.2.2.2.2.2.1).bind λj=>cond (j != 0) (N 8) ((j7a d.2.2.2.2.2.2.2.2.2.2.2.2.2 0 2).bind λn=>cond (!n) (N 1) (let i:=W d.2.2.1.length
 let q:=w64 (i-1)
 cond (d.2.2.2.2.2.2.2.2.2.2.2.2.2 != 0) ((j7a d.2.2.2.2.2.2.2.2.2.2.2.2.1 0 q).bind λk=>cond (!k) (N 3) (let e:Bool:=cond (d.2.2.2.2.2.2.2.2.2.2.2.2.2==0) (d.2.2.2.2.2.2.2.2.2.2.2.2.1 != 0) À
 cond e (N 1) (N 0))) (let c:Bool:=cond (d.2.2.2.2.2.2.2.2.2.2.2.2.2==0) (d.2.2.2.2.2.2.2.2.2.2.2.2.1 != 0) À
 cond c (N 1) (N 0))))))))))))
def ji8(d:bR)(a:oX):S Int:=
 let f:=W d.2.1.length
 (j7a a.1 0 2).bind λi=>cond (!i) (N 1) (let m:=w64 (f-1)
 (j7a a.2.1 0 m).bind λk=>let j:=w64 (f-1)
 cond (cond (!k) (cond (a.1 != 1) Ã (a.2.1 != (-1))) À) (cond ((!(a.1==2)) || !(!Ã)) (N 3) Y) (cond (a.1==2) ((j7a a.2.2.1 0 j).bind λe=>cond (!e) (N 3) (cond (cond (a.1 != 2) (a.2.2.1 != 0) À) (N 1) (cond (cond (a.1==2) (a.2.1==a.2.2.1) À) (N 4) (cond (O (a.2.2.2.1<0)) (N 1) (cond (O (a.2.2.2.2<0)) (N 1) (let l:=w64 (È a.2.2.2.2 86400)
 (j9s).bind λg=>cond (O (l>g)) (N 1) (cond (O (a.2.2.2.1>=a.2.2.2.2)) (N 6) (N 0)))))))) (cond (cond (a.1 != 2) (a.2.2.1 != 0) À) (N 1) (cond (cond (a.1==2) (a.2.1==a.2.2.1) À) (N 4) (cond (O (a.2.2.2.1<0)) (N 1) (cond (O (a.2.2.2.2<0)) (N 1) (let c:=w64 (È a.2.2.2.2 86400)
 (j9s).bind λb=>cond (O (c>b)) (N 1) (cond (O (a.2.2.2.1>=a.2.2.2.2)) (N 6) (N 0)))))))))
def j3l[LP](s d:L)(o:ai)(e:aj)(c:al)(f:ao)(p:X)(b:an)(l:ax)(q r:M X):S ((L×L×ai×aj×al×ao×X×an×ax×(M X)×(M X)) ⊕ (L ⊕ (L×ai×aj×al×ao×X×an×ax×(M X)))):=
 let m:=W b.length
 cond (O (d<m)) (cond (inR d b.length) (let g:=K b d.toNat (J,(0,((0,0),(0,(0,(([]:(M L)),(([]:ae),(0,0))))))))
 cond (O (U r+U [g.1]<=aF)) (let k:M ByteArray:=r++[g.1]
 (jcz k d).bind λi=>cond (i != 0) (N (.inr (.inl i))) (cond (inR d b.length) (let a:=K b d.toNat (J,(0,((0,0),(0,(0,(([]:(M L)),(([]:ae),(0,0))))))))
 (jft (o,(e,(c,f))) (a.1,(a.2.1,((a.2.2.1.1,a.2.2.1.2),(a.2.2.2.1,(a.2.2.2.2.1,(a.2.2.2.2.2.1,(a.2.2.2.2.2.2.1,(a.2.2.2.2.2.2.2.1,a.2.2.2.2.2.2.2.2))))))))).bind λj=>cond (j != 0) (N (.inr (.inl j))) (let n:=w64 (d+1)
 N (.inl (s,n,o,e,c,f,p,b,l,q,k)))) Y)) Y) Y) (N (.inr (.inr (s,o,e,c,f,p,b,l,q))))
def H6[LP](l g:L)(i:ai)(b:aj)(a:al)(d:ao)(f:X)(e:an)(c:ax)(j k:M X):S (L ⊕ (L×ai×aj×al×ao×X×an×ax×(M X))):=LP.lp (u8 unc3 j3l) (l,g,i,b,a,d,f,e,c,j,k)
theorem Wd(l g i b a d f e c j k):H6 l g i b a d f e c j k=lpK (j3l l g i b a d f e c j k) (λh=>H6 h.1 h.2.1 h.2.2.1 h.2.2.2.1 h.2.2.2.2.1 h.2.2.2.2.2.1 h.2.2.2.2.2.2.1 h.2.2.2.2.2.2.2.1 h.2.2.2.2.2.2.2.2.1 h.2.2.2.2.2.2.2.2.2.1 h.2.2.2.2.2.2.2.2.2.2):=bt _ _
def j3m(n g:L)(k:ai)(d:aj)(c:al)(e:ao)(o:X)(l:an)(b:ax)(m:M X):S ((L×L×ai×aj×al×ao×X×an×ax×(M X)) ⊕ (L ⊕ (L×ai×aj×al×ao×(M X)))):=
 let j:=W b.length
 cond (O (g<j)) (cond (inR g b.length) (let a:=K b g.toNat (0,(0,(0,(0,0))))
 (ji8 (k,(d,(c,e))) (a.1,(a.2.1,(a.2.2.1,(a.2.2.2.1,a.2.2.2.2))))).bind λf=>cond (f != 0) (N (.inr (.inl f))) (let i:=w64 (g+1)
 N (.inl (n,i,k,d,c,e,o,l,b,m)))) Y) (N (.inr (.inr (n,k,d,c,e,m))))
def H7[LP](k f:L)(i:ai)(b:aj)(a:al)(d:ao)(g:X)(e:an)(c:ax)(j:M X):S (L ⊕ (L×ai×aj×al×ao×(M X))):=LP.lp (u8 unc2 j3m) (k,f,i,b,a,d,g,e,c,j)
theorem We(k f i b a d g e c j):H7 k f i b a d g e c j=lpK (j3m k f i b a d g e c j) (λh=>H7 h.1 h.2.1 h.2.2.1 h.2.2.2.1 h.2.2.2.2.1 h.2.2.2.2.2.1 h.2.2.2.2.2.2.1 h.2.2.2.2.2.2.2.1 h.2.2.2.2.2.2.2.2.1 h.2.2.2.2.2.2.2.2.2):=bt _ _
def j3n[LP](g:L)(t:ai)(n:aj)(o:al)(d:ao)(q:M X):S ((L×ai×aj×al×ao×(M X)) ⊕ (L ⊕ Ç)):=
 let j:=W d.length
 cond (O (g<j)) (cond (inR g d.length) (let a:=K d g.toNat (J,(([]:an),([]:ax)))
 cond (O (U q+U [a.1]<=aF)) (let f:M ByteArray:=q++[a.1]
 (jcz f g).bind λe=>cond (e != 0) (N (.inr (.inl e))) (let k:=W a.2.1.length
 let l:=W a.2.2.length
 cond (cond (O (k>6)) Ã (O (l>48))) (N (.inr (.inl 5))) ((H6 g 0 t n o d a.1 a.2.1 a.2.2 f ([]:(M X))).bind λp=>sumC p (λs=>N (.inr (.inl s))) (λb=>(H7 b.1 0 b.2.1 b.2.2.1 b.2.2.2.1 b.2.2.2.2.1 b.2.2.2.2.2.1 b.2.2.2.2.2.2.1 b.2.2.2.2.2.2.2.1 b.2.2.2.2.2.2.2.2).bind λm=>sumC m (λr=>N (.inr (.inl r))) (λc=>let i:=w64 (c.1+1)
 N (.inl (i,c.2.1,c.2.2.1,c.2.2.2.1,c.2.2.2.2.1,c.2.2.2.2.2))))))) Y) Y) (N (.inr (.inr ())))
def H8[LP](f:L)(d:ai)(b:aj)(a:al)(c:ao)(e:M X):S (L ⊕ Ç):=LP.lp (unc6 j3n) (f,d,b,a,c,e)
theorem Wh(f d b a c e):H8 f d b a c e=lpK (j3n f d b a c e) (λh=>H8 h.1 h.2.1 h.2.2.1 h.2.2.2.1 h.2.2.2.2.1 h.2.2.2.2.2):=bt _ _
def jeb[LP](a:bR):S Int:=(H8 0 a.1 a.2.1 a.2.2.1 a.2.2.2 ([]:(M X))).bind λb=>sumC b (λc=>N c) (λd=>N 0)
def jbC[LP](a:bR):S Int:=
 let k:=W a.1.length
 let j:=W a.2.1.length
 let i:=W a.2.2.1.length
 let e:Bool:=cond (cond (O (k>16)) Ã (O (j>32))) Ã (O (i>8))
 let f:=W a.2.2.2.length
 cond (cond e Ã (O (f>12))) (N 5) ((ji7 (a.1,(a.2.1,(a.2.2.1,a.2.2.2)))).bind λc=>cond (c != 0) (N c) ((jg8 (a.1,(a.2.1,(a.2.2.1,a.2.2.2)))).bind λb=>cond (b != 0) (N b) ((jaU (a.1,(a.2.1,(a.2.2.1,a.2.2.2)))).bind λd=>cond (d != 0) (N d) ((jeb (a.1,(a.2.1,(a.2.2.1,a.2.2.2)))).bind λg=>N g))))
def jgv[LP](b:bR)(a c:L):S Bool:=
 let f:=W b.2.2.2.length
 let e:Bool:=cond (cond (O (a>=0)) (O (a<f)) À) (O (c>=0)) À
 cond (cond e (O (c<=8589934592)) À) ((jbC (b.1,(b.2.1,(b.2.2.1,b.2.2.2)))).bind λd=>N (d==0)) (N À)
def jbD[LP](b:dR)(a:eL):S Int:=(j6F (b.1,(b.2.1,b.2.2))).bind λi=>let g:Bool:=cond (cond (i != 0) Ã (O (a.2.2.1.1<1))) Ã (O (a.2.2.1.1>100000))
 let e:Bool:=cond (cond g Ã (O (a.2.2.1.2<0))) Ã (O (a.2.2.1.2>=86400))
 let d:Bool:=cond (cond e Ã (O (a.2.2.2.1<0))) Ã (O (a.2.2.2.1>2))
 let c:Bool:=cond (cond d Ã (O (a.2.2.2.2.1<1))) Ã (O (a.2.2.2.2.1>400))
 let f:=W a.2.2.2.2.2.1.length
 cond (cond c Ã (f==0)) (N 8) (N 0)
def jdF(a:L):S Bool:=(j7z a (-2) 99422).bind λb=>N b
def j4d(c:L)(z:X)(d:L)(f:aX)(g a:L)(b:ae):S ((L×X×L×aX×L×L×ae) ⊕ ((L×L) ⊕ Ç)):=
 let a5:=W b.length
 cond (O (c<a5)) (cond (O (c>=0)) (cond (inR c b.length) (let s:=(K b c.toNat (0,0)).2
 cond (inR c b.length) (let e:=(K b c.toNat (0,0)).1
 let a1:=w64 (c+1)
 let x:=W b.length
 cond (O (a1<x)) (let l:=w64 (c+1)
 cond (inR l b.length) (let a4:=(K b l.toNat (0,0)).1
 let y:=w64 (g*86400)
 let u:=w64 (y+a)
 let j:=w64 (u-s)
 let r:Int:=if j>e then j else e
 cond (O (r<a4)) (N (.inr (.inl (r,0)))) (let a9:=w64 (c+1)
 N (.inl (a9,z,d,f,g,a,b)))) Y) (let b2:=w64 (g*86400)
 let a3:=w64 (b2+a)
 let k:=w64 (a3-s)
 let q:Int:=if k>e then k else e
 cond (O (q<8589934593)) (N (.inr (.inl (q,0)))) (let a6:=w64 (c+1)
 N (.inl (a6,z,d,f,g,a,b))))) Y) Y) (let b1:=w64 (c+1)
 let v:=W b.length
 cond (O (b1<v)) (let p:=w64 (c+1)
 cond (inR p b.length) (let a0:=(K b p.toNat (0,0)).1
 let a7:=w64 (g*86400)
 let w:=w64 (a7+a)
 let m:=w64 (w-d)
 let i:Int:=if m>0 then m else 0
 cond (O (i<a0)) (N (.inr (.inl (i,0)))) (let b0:=w64 (c+1)
 N (.inl (b0,z,d,f,g,a,b)))) Y) (let t:=w64 (g*86400)
 let a8:=w64 (t+a)
 let o:=w64 (a8-d)
 let n:Int:=if o>0 then o else 0
 cond (O (n<8589934593)) (N (.inr (.inl (n,0)))) (let a2:=w64 (c+1)
 N (.inl (a2,z,d,f,g,a,b)))))) (N (.inr (.inr ())))
def uy[LP](f:L)(g:X)(c:L)(a:aX)(e b:L)(d:ae):S ((L×L) ⊕ Ç):=LP.lp (unc7 j4d) (f,g,c,a,e,b,d)
theorem Nk(f g c a e b d):uy f g c a e b d=lpK (j4d f g c a e b d) (λh=>uy h.1 h.2.1 h.2.2.1 h.2.2.2.1 h.2.2.2.2.1 h.2.2.2.2.2.1 h.2.2.2.2.2.2):=bt _ _
def j4L[LP](a:dR)(b:L×L):S (L×L):=(j0d (a.1,(a.2.1,a.2.2))).bind λc=>cond (c.2 != 0) (N (0,8)) ((j7z b.2 0 86399).bind λd=>cond (!d) (N (0,1)) (cond (O (b.1<(-2))) (N (0,0)) ((jdF b.1).bind λe=>cond (!e) (N (0,10)) ((uy (-1) a.1 a.2.1 a.2.2 b.1 b.2 c.1).bind λf=>sumC f (λg=>N (g.1,g.2)) (λi=>N (0,10))))))
def j4M(c:ae)(g i a:L):S ((ae×L×L×L) ⊕ (L)):=
 let b:=W c.length
 cond ((inR a c.length) || !(O (a<b))) (let f:=K c a.toNat (0,0)
 cond (cond (O (a<b)) (O (f.1<=g)) À) (cond (inR a c.length) (let d:=K c a.toNat (0,0)
 let e:=w64 (a+1)
 N (.inl (c,g,d.2,e))) Y) (N (.inr i))) Y
def EO[LP](d:ae)(b c a:L):S Int:=LP.lp (unc4 j4M) (d,b,c,a)
theorem Wi(c b d a):EO c b d a=lpK (j4M c b d a) (λh=>EO h.1 h.2.1 h.2.2.1 h.2.2.2):=bt _ _
def jg9[LP](b:dR)(c:ae)(a:L):S Int:=(EO c a b.2.1 0).bind λd=>N d
def jae[LP](a:dR)(b:L):S (L×L):=(j0d (a.1,(a.2.1,a.2.2))).bind λc=>cond (c.2 != 0) (N (0,8)) ((j7z b 0 8589934592).bind λe=>cond (!e) (N (0,1)) ((jg9 (a.1,(a.2.1,a.2.2)) c.1 b).bind λd=>N (d,0)))
def ji9(b a:L):S (L×L):=
 let g:=w64 (b+a)
 let f:=w64 (g+864000)
 let c:=w64 (È f 86400)
 let e:=w64 (c-10)
 let d:=Å f 86400
 N (e,d)
def j3I[LP](a:dR)(b:L):S ((L×L)×L):=(jae (a.1,(a.2.1,a.2.2)) b).bind λc=>cond (c.2 != 0) (N ((0,0),c.2)) ((ji9 b c.1).bind λd=>N ((d.1,d.2),0))
def j6H[LP](b:dR)(a:eL)(e:L):S (L×Ä):=cond (a.2.2.2.1==0) ((j4L (b.1,(b.2.1,b.2.2)) (a.2.2.1.1,a.2.2.1.2)).bind λd=>let m:=w64 (e*a.2.2.2.2.1)
 let g:=w64 (m*3600)
 let k:=w64 (d.1+g)
 let n:=w64 (d.1+g)
 N (k,(cond (d.2==0) (O (n<=8589934592)) À))) (let j:=w64 (e*a.2.2.2.2.1)
 cond (a.2.2.2.1==2) (let o:=w64 (j*7)
 let l:=w64 (a.2.2.1.1+o)
 (j4L (b.1,(b.2.1,b.2.2)) (l,a.2.2.1.2)).bind λi=>N (i.1,(i.2==0))) (let f:=w64 (a.2.2.1.1+j)
 (j4L (b.1,(b.2.1,b.2.2)) (f,a.2.2.1.2)).bind λc=>N (c.1,(c.2==0))))
def j5i[LP](q m:L)(p:X)(c:L)(i:aX)(r:X)(l f e d b:L)(n:M L)(k:ae)(g j:L):S ((L×L×X×L×aX×X×L×L×L×L×L×(M L)×ae×L×L) ⊕ (L)):=cond (O (m>=0)) ((j6H (p,(c,i)) (r,(l,((f,e),(d,(b,(n,(k,(g,j)))))))) m).bind λa=>cond (cond a.2 (O (a.1<=q)) À) (N (.inr m)) (let o:=w64 (m-1)
 N (.inl (q,o,p,c,i,r,l,f,e,d,b,n,k,g,j)))) (N (.inr m))
def zD[LP](n p:L)(m:X)(b:L)(g:aX)(o:X)(k e d c a:L)(l:M L)(j:ae)(f i:L):S Int:=LP.lp (u8 unc7 j5i) (n,p,m,b,g,o,k,e,d,c,a,l,j,f,i)
theorem Wj(n p m b g o k e d c a l j f i):zD n p m b g o k e d c a l j f i=lpK (j5i n p m b g o k e d c a l j f i) (λh=>zD h.1 h.2.1 h.2.2.1 h.2.2.2.1 h.2.2.2.2.1 h.2.2.2.2.2.1 h.2.2.2.2.2.2.1 h.2.2.2.2.2.2.2.1 h.2.2.2.2.2.2.2.2.1 h.2.2.2.2.2.2.2.2.2.1 h.2.2.2.2.2.2.2.2.2.2.1 h.2.2.2.2.2.2.2.2.2.2.2.1 h.2.2.2.2.2.2.2.2.2.2.2.2.1 h.2.2.2.2.2.2.2.2.2.2.2.2.2.1 h.2.2.2.2.2.2.2.2.2.2.2.2.2.2):=bt _ _
def jbF[LP](b:dR)(a:eL)(c:L):S Int:=cond (a.2.2.2.1==0) ((j4L (b.1,(b.2.1,b.2.2)) (a.2.2.1.1,a.2.2.1.2)).bind λe=>cond (cond (e.2==0) (O (e.1<=c)) À) (let r:=w64 (c-e.1)
 let j:=w64 (3600*a.2.2.2.2.1)
 cond (!(j==0)) (let p:=w64 (È r j)
 N p) Y) (N (-1))) ((j3I (b.1,(b.2.1,b.2.2)) c).bind λk=>cond (a.2.2.2.1==2) (let m:=w64 (a.2.2.2.2.1*7)
 let q:=w64 (k.1.1+2)
 let l:=w64 (q-a.2.2.1.1)
 let o:Int:=if 0>l then 0 else l
 cond (!(m==0)) (let s:=w64 (È o m)
 (zD c s b.1 b.2.1 b.2.2 a.1 a.2.1 a.2.2.1.1 a.2.2.1.2 a.2.2.2.1 a.2.2.2.2.1 a.2.2.2.2.2.1 a.2.2.2.2.2.2.1 a.2.2.2.2.2.2.2.1 a.2.2.2.2.2.2.2.2).bind λt=>N t) Y) (let i:=w64 (k.1.1+2)
 let d:=w64 (i-a.2.2.1.1)
 let f:Int:=if 0>d then 0 else d
 cond (!(a.2.2.2.2.1==0)) (let g:=w64 (È f a.2.2.2.2.1)
 (zD c g b.1 b.2.1 b.2.2 a.1 a.2.1 a.2.2.1.1 a.2.2.1.2 a.2.2.2.1 a.2.2.2.2.1 a.2.2.2.2.2.1 a.2.2.2.2.2.2.1 a.2.2.2.2.2.2.2.1 a.2.2.2.2.2.2.2.2).bind λn=>N n) Y))
def jfv[LP](b:dR)(a:eL)(c:L):S (L×L):=(jbD (b.1,(b.2.1,b.2.2)) (a.1,(a.2.1,((a.2.2.1.1,a.2.2.1.2),(a.2.2.2.1,(a.2.2.2.2.1,(a.2.2.2.2.2.1,(a.2.2.2.2.2.2.1,(a.2.2.2.2.2.2.2.1,a.2.2.2.2.2.2.2.2))))))))).bind λd=>cond (d != 0) (N (0,8)) (cond (cond (O (c<0)) Ã (O (c>8589934592))) (N (0,1)) ((jbF (b.1,(b.2.1,b.2.2)) (a.1,(a.2.1,((a.2.2.1.1,a.2.2.1.2),(a.2.2.2.1,(a.2.2.2.2.1,(a.2.2.2.2.2.1,(a.2.2.2.2.2.2.1,(a.2.2.2.2.2.2.2.1,a.2.2.2.2.2.2.2.2)))))))) c).bind λe=>N (e,0)))
def j6Z(a:L×L):S Int:=(jbv a.1).bind λc=>let b:=w64 (c*86400)
 let d:=w64 (b+a.2)
 N d
def jbh[LP](a:dR)(c:L):S (L×L):=(j3I (a.1,(a.2.1,a.2.2)) c).bind λb=>cond (b.2 != 0) (N (0,b.2)) ((j6Z (b.1.1,b.1.2)).bind λd=>N (d,0))
def j4N(c:ae)(e b:L):S ((ae×L×L) ⊕ (Ä ⊕ Ç)):=
 let g:=W c.length
 cond (O (b<g)) (cond (inR b c.length) (let a:=K c b.toNat (0,0)
 cond ((inR b c.length) || !(O (e>=a.1))) (let d:=K c b.toNat (0,0)
 cond (cond (O (e>=a.1)) (O (e<d.2)) À) (N (.inr (.inl Ã))) (let f:=w64 (b+1)
 N (.inl (c,e,f)))) Y) Y) (N (.inr (.inr ())))
def EP[LP](b:ae)(c a:L):S (Ä ⊕ Ç):=LP.lp (unc3 j4N) (b,c,a)
theorem Wk(b c a):EP b c a=lpK (j4N b c a) (λh=>EP h.1 h.2.1 h.2.2):=bt _ _
def jga[LP](a:ae)(b:L):S Bool:=(EP a b 0).bind λc=>sumC c (λd=>N d) (λe=>N À)
def jpU[LP](a:dR)(b:ae)(d:L):S Bool:=(jbh (a.1,(a.2.1,a.2.2)) d).bind λc=>cond (c.2==0) ((j6G b).bind λf=>cond (f==0) ((jga b c.1).bind λe=>N e) (N À)) (N À)
def j61(w:L)(u:Ä)(b:L)(v:X)(i d j c g:L)(l:M L)(e:ae)(k f:L)(t:X)(n:L)(a:M L)(o m:L):S ((L×Ä×L×X×L×L×L×L×L×(M L)×ae×L×L×X×L×(M L)×L×L) ⊕ (L×Ä×X×L×L×L×L×L×(M L)×ae×L×L)):=
 let q:=W a.length
 cond (O (b<q)) (cond u (let s:=w64 (b+1)
 N (.inl (w,Ã,s,v,i,d,j,c,g,l,e,k,f,t,n,a,o,m))) (cond (inR b a.length) (let p:=K a b.toNat 0
 let r:=w64 (b+1)
 N (.inl (w,(p==o),r,v,i,d,j,c,g,l,e,k,f,t,n,a,o,m))) Y)) (N (.inr (w,u,v,i,d,j,c,g,l,e,k,f)))
def zF[LP](r:L)(p:Ä)(o:L)(s:X)(d i g f e:L)(m:M L)(l:ae)(j k:L)(n:X)(a:L)(b:M L)(q c:L):S (L×Ä×X×L×L×L×L×L×(M L)×ae×L×L):=LP.lp (u8 (u8 unc2) j61) (r,p,o,s,d,i,g,f,e,m,l,j,k,n,a,b,q,c)
theorem Wl(s p o r j e k d i m f l g n b c q a):zF s p o r j e k d i m f l g n b c q a=lpK (j61 s p o r j e k d i m f l g n b c q a) (λh=>zF h.1 h.2.1 h.2.2.1 h.2.2.2.1 h.2.2.2.2.1 h.2.2.2.2.2.1 h.2.2.2.2.2.2.1 h.2.2.2.2.2.2.2.1 h.2.2.2.2.2.2.2.2.1 h.2.2.2.2.2.2.2.2.2.1 h.2.2.2.2.2.2.2.2.2.2.1 h.2.2.2.2.2.2.2.2.2.2.2.1 h.2.2.2.2.2.2.2.2.2.2.2.2.1 h.2.2.2.2.2.2.2.2.2.2.2.2.2.1 h.2.2.2.2.2.2.2.2.2.2.2.2.2.2.1 h.2.2.2.2.2.2.2.2.2.2.2.2.2.2.2.1 h.2.2.2.2.2.2.2.2.2.2.2.2.2.2.2.2.1 h.2.2.2.2.2.2.2.2.2.2.2.2.2.2.2.2.2):=bt _ _
def jia[LP](b:bR)(a:eL)(f:L):S (L×Ä):=cond (inR a.2.1 b.1.length) (let e:=K b.1 a.2.1.toNat (J,(0,([]:aX)))
 (jfv (e.1,(e.2.1,e.2.2)) (a.1,(a.2.1,((a.2.2.1.1,a.2.2.1.2),(a.2.2.2.1,(a.2.2.2.2.1,(a.2.2.2.2.2.1,(a.2.2.2.2.2.2.1,(a.2.2.2.2.2.2.2.1,a.2.2.2.2.2.2.2.2)))))))) f).bind λd=>let n:=W a.2.2.2.2.2.2.1.length
 cond (cond (d.2 != 0) Ã (O (d.1<0))) (cond ((!(O (n>0))) || !(!Ã)) (N (0,À)) Y) (cond (O (n>0)) ((jpU (e.1,(e.2.1,e.2.2)) a.2.2.2.2.2.2.1 f).bind λp=>cond (!p) (N (0,À)) (cond (a.2.2.2.2.2.2.2.2==0) (N (d.1,Ã)) (cond (inR a.2.2.2.2.2.2.2.1 b.2.2.1.length) (let i:=K b.2.2.1 a.2.2.2.2.2.2.2.1.toNat (J,(0,([]:(M L))))
 cond (inR i.2.1 b.1.length) (let l:=K b.1 i.2.1.toNat (J,(0,([]:aX)))
 (j3I (l.1,(l.2.1,l.2.2)) f).bind λm=>(zF d.1 À 0 a.1 a.2.1 a.2.2.1.1 a.2.2.1.2 a.2.2.2.1 a.2.2.2.2.1 a.2.2.2.2.2.1 a.2.2.2.2.2.2.1 a.2.2.2.2.2.2.2.1 a.2.2.2.2.2.2.2.2 i.1 i.2.1 i.2.2 m.1.1 m.1.2).bind λo=>N (o.1,(o.2.1==(o.2.2.2.2.2.2.2.2.2.2.2==2)))) Y) Y))) (cond (a.2.2.2.2.2.2.2.2==0) (N (d.1,Ã)) (cond (inR a.2.2.2.2.2.2.2.1 b.2.2.1.length) (let c:=K b.2.2.1 a.2.2.2.2.2.2.2.1.toNat (J,(0,([]:(M L))))
 cond (inR c.2.1 b.1.length) (let g:=K b.1 c.2.1.toNat (J,(0,([]:aX)))
 (j3I (g.1,(g.2.1,g.2.2)) f).bind λk=>(zF d.1 À 0 a.1 a.2.1 a.2.2.1.1 a.2.2.1.2 a.2.2.2.1 a.2.2.2.2.1 a.2.2.2.2.2.1 a.2.2.2.2.2.2.1 a.2.2.2.2.2.2.2.1 a.2.2.2.2.2.2.2.2 c.1 c.2.1 c.2.2 k.1.1 k.1.2).bind λj=>N (j.1,(j.2.1==(j.2.2.2.2.2.2.2.2.2.2.2==2)))) Y) Y)))) Y
def jlh[LP](b:bR)(a:eL)(f:L):S Int:=(jia (b.1,(b.2.1,(b.2.2.1,b.2.2.2))) (a.1,(a.2.1,((a.2.2.1.1,a.2.2.1.2),(a.2.2.2.1,(a.2.2.2.2.1,(a.2.2.2.2.2.1,(a.2.2.2.2.2.2.1,(a.2.2.2.2.2.2.2.1,a.2.2.2.2.2.2.2.2)))))))) f).bind λc=>cond (!c.2) (N (-1)) (let d:=W a.2.2.2.2.2.1.length
 cond (!(d==0)) (let e:=Å c.1 d
 cond (inR e a.2.2.2.2.2.1.length) (let g:=K a.2.2.2.2.2.1 e.toNat 0
 N g) Y) Y)
def j62(i f e:L)(k:X)(g:an)(b:ax):S ((L×L×L×X×an×ax) ⊕ (Ä ⊕ Ç)):=
 let d:=W b.length
 cond (O (e<d)) (cond (inR e b.length) (let a:=K b e.toNat (0,(0,(0,(0,0))))
 let j:Bool:=cond (cond (a.1==0) (a.2.1==i) À) (O (a.2.2.2.1<=f)) À
 cond (cond j (O (f<a.2.2.2.2)) À) (N (.inr (.inl Ã))) (let c:=w64 (e+1)
 N (.inl (i,f,c,k,g,b)))) Y) (N (.inr (.inr ())))
def ER[LP](e d f:L)(c:X)(a:an)(b:ax):S (Ä ⊕ Ç):=LP.lp (unc6 j62) (e,d,f,c,a,b)
theorem Wm(e d f c a b):ER e d f c a b=lpK (j62 e d f c a b) (λh=>ER h.1 h.2.1 h.2.2.1 h.2.2.2.1 h.2.2.2.2.1 h.2.2.2.2.2):=bt _ _
def jib[LP](b:jD)(a c:L):S Bool:=(ER a c 0 b.1 b.2.1 b.2.2).bind λd=>sumC d (λe=>N e) (λf=>N À)
def j6J[LP](k i:L)(n:ai)(e:aj)(g:al)(f:ao)(o:X)(b:an)(d:ax):S ((L×L×ai×aj×al×ao×X×an×ax) ⊕ ((L×L) ⊕ Ç)):=cond (O (i>=0)) (cond (inR i b.length) (let a:=K b i.toNat (J,(0,((0,0),(0,(0,(([]:(M L)),(([]:ae),(0,0))))))))
 (jlh (n,(e,(g,f))) (a.1,(a.2.1,((a.2.2.1.1,a.2.2.1.2),(a.2.2.2.1,(a.2.2.2.2.1,(a.2.2.2.2.2.1,(a.2.2.2.2.2.2.1,(a.2.2.2.2.2.2.2.1,a.2.2.2.2.2.2.2.2)))))))) k).bind λc=>cond (O (c>=0)) ((jib (o,(b,d)) c k).bind λj=>cond (!j) (N (.inr (.inl (i,c)))) (let m:=w64 (i-1)
 N (.inl (k,m,n,e,g,f,o,b,d)))) (let l:=w64 (i-1)
 N (.inl (k,l,n,e,g,f,o,b,d)))) Y) (N (.inr (.inr ())))
def H9[LP](i j:L)(f:ai)(b:aj)(e:al)(d:ao)(g:X)(c:an)(a:ax):S ((L×L) ⊕ Ç):=LP.lp (unc9 j6J) (i,j,f,b,e,d,g,c,a)
theorem Wn(i j f b e d g c a):H9 i j f b e d g c a=lpK (j6J i j f b e d g c a) (λh=>H9 h.1 h.2.1 h.2.2.1 h.2.2.2.1 h.2.2.2.2.1 h.2.2.2.2.2.1 h.2.2.2.2.2.2.1 h.2.2.2.2.2.2.2.1 h.2.2.2.2.2.2.2.2):=bt _ _
def jh5[LP](b:bR)(a d:L):S (L×L):=cond (inR a b.2.2.2.length) (let c:=K b.2.2.2 a.toNat (J,(([]:an),([]:ax)))
 let f:=W c.2.1.length
 let e:=w64 (f-1)
 (H9 d e b.1 b.2.1 b.2.2.1 b.2.2.2 c.1 c.2.1 c.2.2).bind λg=>sumC g (λi=>N (i.1,i.2)) (λj=>N ((-1),(-1)))) Y
def jbH[LP](a:bR)(b c:L):S Int:=(jgv (a.1,(a.2.1,(a.2.2.1,a.2.2.2))) b c).bind λe=>cond (!e) (N (-1)) ((jh5 (a.1,(a.2.1,(a.2.2.1,a.2.2.2))) b c).bind λd=>N d.1)
def jh6[LP](a:bR)(b c:L):S Int:=(jgv (a.1,(a.2.1,(a.2.2.1,a.2.2.2))) b c).bind λe=>cond (!e) (N (-1)) ((jh5 (a.1,(a.2.1,(a.2.2.1,a.2.2.2))) b c).bind λd=>N d.2)
def j8P(a b:L):S Bool:=
 let e:Bool:=cond (cond (O (a>=0)) (O (a<=8589934592)) À) (O (b>=a)) À
 let d:=w64 (b-a)
 let c:Bool:=cond (cond e (O (b<=8589934592)) À) (O (d<=34560000)) À
 N c
def jdG[LP](b:bR)(a c d:L):S Int:=(jbC (b.1,(b.2.1,(b.2.2.1,b.2.2.2)))).bind λf=>cond (f != 0) (N 8) (let g:=W b.2.2.2.length
 cond (cond (O (a<0)) Ã (O (a>=g))) (N 3) ((j8P c d).bind λe=>cond (!e) (N 1) (N 0)))
def j4O[LP](u v o:L)(s:X)(l:L)(b:aX)(t:X)(g j m d e:L)(k:M L)(c:ae)(i f:L)(n:M L):S ((L×L×L×X×L×aX×X×L×L×L×L×L×(M L)×ae×L×L×(M L)) ⊕ (L×(M L))):=(j6H (s,(l,b)) (t,(g,((j,m),(d,(e,(k,(c,(i,f)))))))) o).bind λa=>cond (cond (!a.2) Ã (O (a.1>=v))) (N (.inr (0,n))) (cond (O (a.1>=u)) (cond (O (U n+U [a.1]<=aF)) (let r:M Int:=n++[a.1]
 let p:=w64 (o+1)
 N (.inl (u,v,p,s,l,b,t,g,j,m,d,e,k,c,i,f,r))) Y) (let q:=w64 (o+1)
 N (.inl (u,v,q,s,l,b,t,g,j,m,d,e,k,c,i,f,n))))
def Ia[LP](o p n:L)(q:X)(k:L)(i:aX)(r:X)(l d e a b:L)(g:M L)(j:ae)(c f:L)(m:M L):S (L×(M L)):=LP.lp (u8 unc9 j4O) (o,p,n,q,k,i,r,l,d,e,a,b,g,j,c,f,m)
theorem jh7(o p n q k i r l d e a b g j c f m):Ia o p n q k i r l d e a b g j c f m=lpK (j4O o p n q k i r l d e a b g j c f m) (λh=>Ia h.1 h.2.1 h.2.2.1 h.2.2.2.1 h.2.2.2.2.1 h.2.2.2.2.2.1 h.2.2.2.2.2.2.1 h.2.2.2.2.2.2.2.1 h.2.2.2.2.2.2.2.2.1 h.2.2.2.2.2.2.2.2.2.1 h.2.2.2.2.2.2.2.2.2.2.1 h.2.2.2.2.2.2.2.2.2.2.2.1 h.2.2.2.2.2.2.2.2.2.2.2.2.1 h.2.2.2.2.2.2.2.2.2.2.2.2.2.1 h.2.2.2.2.2.2.2.2.2.2.2.2.2.2.1 h.2.2.2.2.2.2.2.2.2.2.2.2.2.2.2.1 h.2.2.2.2.2.2.2.2.2.2.2.2.2.2.2.2):=bt _ _
def j8Q[LP](b:dR)(a:eL)(c d:L):S ((M L)×L):=(jbD (b.1,(b.2.1,b.2.2)) (a.1,(a.2.1,((a.2.2.1.1,a.2.2.1.2),(a.2.2.2.1,(a.2.2.2.2.1,(a.2.2.2.2.2.1,(a.2.2.2.2.2.2.1,(a.2.2.2.2.2.2.2.1,a.2.2.2.2.2.2.2.2))))))))).bind λi=>cond (i != 0) (N (([]:(M L)),8)) ((j8P c d).bind λj=>cond (!j) (N (([]:(M L)),1)) ((jbF (b.1,(b.2.1,b.2.2)) (a.1,(a.2.1,((a.2.2.1.1,a.2.2.1.2),(a.2.2.2.1,(a.2.2.2.2.1,(a.2.2.2.2.2.1,(a.2.2.2.2.2.2.1,(a.2.2.2.2.2.2.2.1,a.2.2.2.2.2.2.2.2)))))))) c).bind λe=>let g:Int:=if e>0 then e else 0
 (Ia c d g b.1 b.2.1 b.2.2 a.1 a.2.1 a.2.2.1.1 a.2.2.1.2 a.2.2.2.1 a.2.2.2.2.1 a.2.2.2.2.2.1 a.2.2.2.2.2.2.1 a.2.2.2.2.2.2.2.1 a.2.2.2.2.2.2.2.2 ([]:(M L))).bind λf=>N (f.2,f.1)))
def j5j(c:ae)(k j b a:L)(o:ae):S ((ae×L×L×L×L×ae) ⊕ (ae×L×L×L×ae)):=
 let m:=W c.length
 cond (O (a<m)) (cond (inR a c.length) (let r:=K c a.toNat (0,0)
 let e:=w64 (b+r.1)
 let i:Int:=if e>k then e else k
 cond (inR a c.length) (let p:=K c a.toNat (0,0)
 let d:=w64 (b+p.2)
 let f:Int:=if d<j then d else j
 cond (O (i<f)) (let g:ae:=[(i,f)]
 cond (O (U o+U g<=aF)) (let n:ae:=o++g
 let q:=w64 (a+1)
 N (.inl (c,k,j,b,q,n))) Y) (let l:=w64 (a+1)
 N (.inl (c,k,j,b,l,o)))) Y) Y) (N (.inr (c,k,j,b,o)))
def Ib[LP](c:ae)(e d a b:L)(f:ae):S (ae×L×L×L×ae):=LP.lp (unc6 j5j) (c,e,d,a,b,f)
theorem Wo(c e d a b f):Ib c e d a b f=lpK (j5j c e d a b f) (λh=>Ib h.1 h.2.1 h.2.2.1 h.2.2.2.1 h.2.2.2.2.1 h.2.2.2.2.2):=bt _ _
def j5k[LP](f:ae)(g d c:L)(e:ae):S ((ae×L×L×L×ae) ⊕ (ae)):=cond (O (c<d)) ((Ib f g d c 0 e).bind λa=>let b:=w64 (a.2.2.2.1+604800)
 N (.inl (a.1,a.2.1,a.2.2.1,b,a.2.2.2.2))) (N (.inr e))
def Ic[LP](b:ae)(d c a:L)(e:ae):S ae:=LP.lp (unc5 j5k) (b,d,c,a,e)
theorem Wp(b d c a e):Ic b d c a e=lpK (j5k b d c a e) (λh=>Ic h.1 h.2.1 h.2.2.1 h.2.2.2.1 h.2.2.2.2):=bt _ _
def jaf[LP](d:ae)(a c b:L):S ae:=
 let p:=w64 (a+b)
 let n:=w64 (a+b)
 let k:=w64 (n+864000)
 let l:=w64 (È k 86400)
 let e:=w64 (l-10)
 let o:=w64 (a+b)
 let f:=w64 (o+864000)
 let m:=Å f 86400
 (j6Z (e,m)).bind λi=>let g:=w64 (p-i)
 let j:=w64 (g-b)
 (Ic d a c j ([]:ae)).bind λq=>N q
def j63(b:ae)(a:L)(c:ae):S ((ae×L×ae) ⊕ (ae)):=
 let u:=W b.length
 cond (O (a<u)) (let e:=W c.length
 cond (O (e>0)) (let g:=w64 (e-1)
 cond (inR g c.length) (let q:=(K c g.toNat (0,0)).2
 cond (inR a b.length) (let r:=K b a.toNat (0,0)
 cond (q==r.1) (let d:=w64 (e-1)
 cond (inR a b.length) (let l:=K b a.toNat (0,0)
 cond (inR d c.length) (let p:ae:=Á c d.toNat ((K c d.toNat (0,0)).1,l.2)
 let n:=w64 (a+1)
 N (.inl (b,n,p))) Y) Y) (cond (inR a b.length) (let i:=K b a.toNat (0,0)
 let j:ae:=[(i.1,i.2)]
 cond (O (U c+U j<=aF)) (let o:ae:=c++j
 let m:=w64 (a+1)
 N (.inl (b,m,o))) Y) Y)) Y) Y) (cond (inR a b.length) (let k:=K b a.toNat (0,0)
 let f:ae:=[(k.1,k.2)]
 cond (O (U c+U f<=aF)) (let t:ae:=c++f
 let s:=w64 (a+1)
 N (.inl (b,s,t))) Y) Y)) (N (.inr c))
def Ie[LP](c:ae)(b:L)(a:ae):S ae:=LP.lp (unc3 j63) (c,b,a)
theorem Wq(c b a):Ie c b a=lpK (j63 c b a) (λh=>Ie h.1 h.2.1 h.2.2):=bt _ _
def jcE[LP](a b:ae):S ae:=(Ie b 0 a).bind λc=>N c
def j5l[LP](i:ae)(g e b:L)(k:X)(c:L)(d:aX)(a f:ae):S ((ae×L×L×L×X×L×aX×ae×ae) ⊕ (ae)):=
 let b3:=W a.length
 cond (O (b<b3)) (cond (O (b>=0)) (cond (inR b a.length) (let p:=(K a b.toNat (0,0)).2
 cond (inR b a.length) (let n:=(K a b.toNat (0,0)).1
 let j:Int:=if n>g then n else g
 let b1:=w64 (b+1)
 let b2:=W a.length
 cond (O (b1<b2)) (let o:=w64 (b+1)
 cond (inR o a.length) (let l:=(K a o.toNat (0,0)).1
 let m:Int:=if l<e then l else e
 cond (O (j<m)) ((jaf i j m p).bind λa8=>(jcE f a8).bind λa6=>let y:=w64 (b+1)
 N (.inl (i,g,e,y,k,c,d,a,a6))) (let a1:=w64 (b+1)
 N (.inl (i,g,e,a1,k,c,d,a,f)))) Y) (cond (O (j<e)) ((jaf i j e p).bind λa7=>(jcE f a7).bind λb0=>let a2:=w64 (b+1)
 N (.inl (i,g,e,a2,k,c,d,a,b0))) (let u:=w64 (b+1)
 N (.inl (i,g,e,u,k,c,d,a,f))))) Y) Y) (let a9:=w64 (b+1)
 let a5:=W a.length
 cond (O (a9<a5)) (let s:=w64 (b+1)
 cond (inR s a.length) (let r:=(K a s.toNat (0,0)).1
 let q:Int:=if r<e then r else e
 cond (O (g<q)) ((jaf i g q c).bind λx=>(jcE f x).bind λz=>let w:=w64 (b+1)
 N (.inl (i,g,e,w,k,c,d,a,z))) (let v:=w64 (b+1)
 N (.inl (i,g,e,v,k,c,d,a,f)))) Y) (cond (O (g<e)) ((jaf i g e c).bind λt=>(jcE f t).bind λa3=>let a0:=w64 (b+1)
 N (.inl (i,g,e,a0,k,c,d,a,a3))) (let a4:=w64 (b+1)
 N (.inl (i,g,e,a4,k,c,d,a,f)))))) (N (.inr f))
def ES[LP](g:ae)(f i d:L)(j:X)(b:L)(a:aX)(c e:ae):S ae:=LP.lp (unc9 j5l) (g,f,i,d,j,b,a,c,e)
theorem Wr(g f i d j b a c e):ES g f i d j b a c e=lpK (j5l g f i d j b a c e) (λh=>ES h.1 h.2.1 h.2.2.1 h.2.2.2.1 h.2.2.2.2.1 h.2.2.2.2.2.1 h.2.2.2.2.2.2.1 h.2.2.2.2.2.2.2.1 h.2.2.2.2.2.2.2.2):=bt _ _
def jdH[LP](a:dR)(d:ae)(b c:L):S (ae×L):=(j0d (a.1,(a.2.1,a.2.2))).bind λe=>cond (e.2 != 0) (N (([]:ae),8)) ((j6G d).bind λf=>cond (f != 0) (N (([]:ae),8)) ((j8P b c).bind λg=>cond (!g) (N (([]:ae),1)) ((ES d b c (-1) a.1 a.2.1 a.2.2 e.1 ([]:ae)).bind λi=>let j:=W i.length
 cond (O (j>4096)) (N (([]:ae),5)) (N (i,0)))))
def j3o(d:L)(m:X)(b:L)(e:aX)(j a:L)(c:ae)(i:M L):S ((L×X×L×aX×L×L×ae×(M L)) ⊕ (M L)):=
 let a8:=W c.length
 cond (O (d<a8)) (cond (O (d>=0)) (cond (inR d c.length) (let q:=(K c d.toNat (0,0)).2
 cond (inR d c.length) (let p:=(K c d.toNat (0,0)).1
 let a7:=w64 (d+1)
 let b6:=W c.length
 cond (O (a7<b6)) (let n:=w64 (d+1)
 cond (inR n c.length) (let a5:=(K c n.toNat (0,0)).1
 let b5:=w64 (j*86400)
 let b0:=w64 (b5+a)
 let l:=w64 (b0-q)
 cond (cond (O (l>=p)) (O (l<a5)) À) (cond (O (U i+U [l]<=aF)) (let b1:M Int:=i++[l]
 let a4:=w64 (d+1)
 N (.inl (a4,m,b,e,j,a,c,b1))) Y) (let w:=w64 (d+1)
 N (.inl (w,m,b,e,j,a,c,i)))) Y) (let b4:=w64 (j*86400)
 let b2:=w64 (b4+a)
 let k:=w64 (b2-q)
 cond (cond (O (k>=p)) (O (k<8589934593)) À) (cond (O (U i+U [k]<=aF)) (let a6:M Int:=i++[k]
 let x:=w64 (d+1)
 N (.inl (x,m,b,e,j,a,c,a6))) Y) (let z:=w64 (d+1)
 N (.inl (z,m,b,e,j,a,c,i))))) Y) Y) (let b3:=w64 (d+1)
 let b7:=W c.length
 cond (O (b3<b7)) (let o:=w64 (d+1)
 cond (inR o c.length) (let a9:=(K c o.toNat (0,0)).1
 let r:=w64 (j*86400)
 let a1:=w64 (r+a)
 let g:=w64 (a1-b)
 cond (cond (O (g>=0)) (O (g<a9)) À) (cond (O (U i+U [g]<=aF)) (let s:M Int:=i++[g]
 let a2:=w64 (d+1)
 N (.inl (a2,m,b,e,j,a,c,s))) Y) (let t:=w64 (d+1)
 N (.inl (t,m,b,e,j,a,c,i)))) Y) (let a3:=w64 (j*86400)
 let a0:=w64 (a3+a)
 let f:=w64 (a0-b)
 cond (cond (O (f>=0)) (O (f<8589934593)) À) (cond (O (U i+U [f]<=aF)) (let y:M Int:=i++[f]
 let v:=w64 (d+1)
 N (.inl (v,m,b,e,j,a,c,y))) Y) (let u:=w64 (d+1)
 N (.inl (u,m,b,e,j,a,c,i)))))) (N (.inr i))
def zG[LP](g:L)(i:X)(c:L)(a:aX)(e b:L)(d:ae)(f:M L):S (M L):=LP.lp (unc8 j3o) (g,i,c,a,e,b,d,f)
theorem Ws(g i c a e b d f):zG g i c a e b d f=lpK (j3o g i c a e b d f) (λh=>zG h.1 h.2.1 h.2.2.1 h.2.2.2.1 h.2.2.2.2.1 h.2.2.2.2.2.1 h.2.2.2.2.2.2.1 h.2.2.2.2.2.2.2):=bt _ _
def j70[LP](a:dR)(b:L×L):S ((M L)×L):=(j0d (a.1,(a.2.1,a.2.2))).bind λc=>cond (c.2 != 0) (N (([]:(M L)),8)) ((j7z b.2 0 86399).bind λe=>cond (!e) (N (([]:(M L)),1)) ((jdF b.1).bind λd=>cond (!d) (N (([]:(M L)),0)) ((zG (-1) a.1 a.2.1 a.2.2 b.1 b.2 c.1 ([]:(M L))).bind λf=>N (f,0))))
def j64(b:L)(w:ai)(n:aj)(c:al)(p:ao)(x:X)(i l o e f:L)(m:M L)(d:ae)(k g:L)(j:M L)(a:ae):S ((L×ai×aj×al×ao×X×L×L×L×L×L×(M L)×ae×L×L×(M L)×ae) ⊕ (ai×aj×al×ao×X×L×L×L×L×L×(M L)×ae×L×L×(M L))):=
 let u:=W a.length
 cond (O (b<u)) (cond (inR b a.length) (let s:=(K a b.toNat (0,0)).1
 cond (inR b a.length) (let r:=(K a b.toNat (0,0)).2
 let v:M Int:=[s,r]
 cond (O (U j+U v<=aF)) (let q:M Int:=j++v
 let t:=w64 (b+1)
 N (.inl (t,w,n,c,p,x,i,l,o,e,f,m,d,k,g,q,a))) Y) Y) Y) (N (.inr (w,n,c,p,x,i,l,o,e,f,m,d,k,g,j)))
def Ig[LP](p:L)(q:ai)(a:aj)(k:al)(i:ao)(r:X)(m f g b c:L)(j:M L)(l:ae)(d e:L)(n:M L)(o:ae):S (ai×aj×al×ao×X×L×L×L×L×L×(M L)×ae×L×L×(M L)):=LP.lp (u8 unc9 j64) (p,q,a,k,i,r,m,f,g,b,c,j,l,d,e,n,o)
theorem Wt(p q a k i r m f g b c j l d e n o):Ig p q a k i r m f g b c j l d e n o=lpK (j64 p q a k i r m f g b c j l d e n o) (λh=>Ig h.1 h.2.1 h.2.2.1 h.2.2.2.1 h.2.2.2.2.1 h.2.2.2.2.2.1 h.2.2.2.2.2.2.1 h.2.2.2.2.2.2.2.1 h.2.2.2.2.2.2.2.2.1 h.2.2.2.2.2.2.2.2.2.1 h.2.2.2.2.2.2.2.2.2.2.1 h.2.2.2.2.2.2.2.2.2.2.2.1 h.2.2.2.2.2.2.2.2.2.2.2.2.1 h.2.2.2.2.2.2.2.2.2.2.2.2.2.1 h.2.2.2.2.2.2.2.2.2.2.2.2.2.2.1 h.2.2.2.2.2.2.2.2.2.2.2.2.2.2.2.1 h.2.2.2.2.2.2.2.2.2.2.2.2.2.2.2.2):=bt _ _
def j65(e:L)(o:ai)(k:aj)(j:al)(i:ao)(n:X)(d:L)(b f:M L)(c:ae):S ((L×ai×aj×al×ao×X×L×(M L)×(M L)×ae) ⊕ (ai×aj×al×ao×X×L×(M L)×(M L))):=
 let m:=W c.length
 cond (O (e<m)) (cond (inR e c.length) (let a:=(K c e.toNat (0,0)).1
 cond (O (U f+U [a]<=aF)) (let g:M Int:=f++[a]
 let l:=w64 (e+1)
 N (.inl (l,o,k,j,i,n,d,b,g,c))) Y) Y) (N (.inr (o,k,j,i,n,d,b,f)))
def zH[LP](j:L)(k:ai)(e:aj)(d:al)(c:ao)(g:X)(b:L)(a f:M L)(i:ae):S (ai×aj×al×ao×X×L×(M L)×(M L)):=LP.lp (u8 unc2 j65) (j,k,e,d,c,g,b,a,f,i)
theorem Wu(j k e d c g b a f i):zH j k e d c g b a f i=lpK (j65 j k e d c g b a f i) (λh=>zH h.1 h.2.1 h.2.2.1 h.2.2.2.1 h.2.2.2.2.1 h.2.2.2.2.2.1 h.2.2.2.2.2.2.1 h.2.2.2.2.2.2.2.1 h.2.2.2.2.2.2.2.2.1 h.2.2.2.2.2.2.2.2.2):=bt _ _
def j4y[LP](e j:L)(p:ai)(o:aj)(m:al)(l:ao)(q:X)(b:L)(a g:M L):S ((L×L×ai×aj×al×ao×X×L×(M L)×(M L)) ⊕ (L×ai×aj×al×ao×X×L×(M L)×(M L))):=cond (O (j<2)) (cond (inR b p.length) (let c:=K p b.toNat (J,(0,([]:aX)))
 cond (inR e a.length) (let n:=K a e.toNat 0
 let f:=w64 (n+j)
 (j70 (c.1,(c.2.1,c.2.2)) (f,0)).bind λd=>cond (O (U g+U d.1<=aF)) (let k:M Int:=g++d.1
 let i:=w64 (j+1)
 N (.inl (e,i,p,o,m,l,q,b,a,k))) Y) Y) Y) (N (.inr (e,p,o,m,l,q,b,a,g)))
def Ih[LP](i g:L)(k:ai)(e:aj)(d:al)(c:ao)(j:X)(b:L)(a f:M L):S (L×ai×aj×al×ao×X×L×(M L)×(M L)):=LP.lp (u8 unc2 j4y) (i,g,k,e,d,c,j,b,a,f)
theorem Nl(i g k e d c j b a f):Ih i g k e d c j b a f=lpK (j4y i g k e d c j b a f) (λh=>Ih h.1 h.2.1 h.2.2.1 h.2.2.2.1 h.2.2.2.2.1 h.2.2.2.2.2.1 h.2.2.2.2.2.2.1 h.2.2.2.2.2.2.2.1 h.2.2.2.2.2.2.2.2.1 h.2.2.2.2.2.2.2.2.2):=bt _ _
def j66[LP](g:L)(m:ai)(k:aj)(j:al)(i:ao)(l:X)(e:L)(b f:M L):S ((L×ai×aj×al×ao×X×L×(M L)×(M L)) ⊕ (M L)):=
 let d:=W b.length
 cond (O (g<d)) ((Ih g 0 m k j i l e b f).bind λa=>let c:=w64 (a.1+1)
 N (.inl (c,a.2.1,a.2.2.1,a.2.2.2.1,a.2.2.2.2.1,a.2.2.2.2.2.1,a.2.2.2.2.2.2.1,a.2.2.2.2.2.2.2.1,a.2.2.2.2.2.2.2.2))) (N (.inr f))
def BW[LP](g:L)(j:ai)(e:aj)(d:al)(c:ao)(i:X)(b:L)(a f:M L):S (M L):=LP.lp (unc9 j66) (g,j,e,d,c,i,b,a,f)
theorem Ww(g j e d c i b a f):BW g j e d c i b a f=lpK (j66 g j e d c i b a f) (λh=>BW h.1 h.2.1 h.2.2.1 h.2.2.2.1 h.2.2.2.2.1 h.2.2.2.2.2.1 h.2.2.2.2.2.2.1 h.2.2.2.2.2.2.2.1 h.2.2.2.2.2.2.2.2):=bt _ _
def jid[LP](b:bR)(a:eL)(f l:L):S (M L):=cond (inR a.2.1 b.1.length) (let g:=K b.1 a.2.1.toNat (J,(0,([]:aX)))
 (j8Q (g.1,(g.2.1,g.2.2)) (a.1,(a.2.1,((a.2.2.1.1,a.2.2.1.2),(a.2.2.2.1,(a.2.2.2.2.1,(a.2.2.2.2.2.1,(a.2.2.2.2.2.2.1,(a.2.2.2.2.2.2.2.1,a.2.2.2.2.2.2.2.2)))))))) f l).bind λp=>cond (O (U ([]:(M L))+U p.1<=aF)) (let m:M Int:=([]:(M L))++p.1
 let s:=W a.2.2.2.2.2.2.1.length
 cond (O (s>0)) ((jdH (g.1,(g.2.1,g.2.2)) a.2.2.2.2.2.2.1 f l).bind λr=>(Ig 0 b.1 b.2.1 b.2.2.1 b.2.2.2 a.1 a.2.1 a.2.2.1.1 a.2.2.1.2 a.2.2.2.1 a.2.2.2.2.1 a.2.2.2.2.2.1 a.2.2.2.2.2.2.1 a.2.2.2.2.2.2.2.1 a.2.2.2.2.2.2.2.2 m r.1).bind λe=>cond (e.2.2.2.2.2.2.2.2.2.2.2.2.2.1==0) (N e.2.2.2.2.2.2.2.2.2.2.2.2.2.2) (cond (inR e.2.2.2.2.2.2.2.2.2.2.2.2.1 e.2.2.1.length) (let j:=K e.2.2.1 e.2.2.2.2.2.2.2.2.2.2.2.2.1.toNat (J,(0,([]:(M L))))
 cond (inR j.2.1 e.1.length) (let n:=K e.1 j.2.1.toNat (J,(0,([]:aX)))
 (j0d (n.1,(n.2.1,n.2.2))).bind λt=>(zH 0 e.1 e.2.1 e.2.2.1 e.2.2.2.1 j.1 j.2.1 j.2.2 e.2.2.2.2.2.2.2.2.2.2.2.2.2.2 t.1).bind λk=>(BW 0 k.1 k.2.1 k.2.2.1 k.2.2.2.1 k.2.2.2.2.1 k.2.2.2.2.2.1 k.2.2.2.2.2.2.1 k.2.2.2.2.2.2.2).bind λu=>N u) Y) Y)) (cond (a.2.2.2.2.2.2.2.2==0) (N m) (cond (inR a.2.2.2.2.2.2.2.1 b.2.2.1.length) (let d:=K b.2.2.1 a.2.2.2.2.2.2.2.1.toNat (J,(0,([]:(M L))))
 cond (inR d.2.1 b.1.length) (let i:=K b.1 d.2.1.toNat (J,(0,([]:aX)))
 (j0d (i.1,(i.2.1,i.2.2))).bind λo=>(zH 0 b.1 b.2.1 b.2.2.1 b.2.2.2 d.1 d.2.1 d.2.2 m o.1).bind λc=>(BW 0 c.1 c.2.1 c.2.2.1 c.2.2.2.1 c.2.2.2.2.1 c.2.2.2.2.2.1 c.2.2.2.2.2.2.1 c.2.2.2.2.2.2.2).bind λq=>N q) Y) Y))) Y) Y
def j67(b4:(M L)->S (M L))(d e:L)(a b c:M L):S ((L×L×(M L)×(M L)×(M L)) ⊕ (M L)):=
 let b1:=W b.length
 let b2:=W c.length
 cond (cond (O (d<b1)) Ã (O (e<b2))) (let b0:=W c.length
 cond (e==b0) (cond (inR d b.length) (let g:=K b d.toNat 0
 let s:=w64 (d+1)
 let v:=W a.length
 let z:=W a.length
 let o:=w64 (z-1)
 cond ((inR o a.length) || !(!(v==0))) (let a0:=K a o.toNat 0
 cond (cond (v==0) Ã (a0 != g)) (cond (O (U a+U [g]<=aF)) (let a9:M Int:=a++[g]
 N (.inl (s,e,a9,b,c))) Y) (N (.inl (s,e,a,b,c)))) Y) Y) (let a5:=W b.length
 cond (O (d<a5)) (cond (inR d b.length) (let a1:=K b d.toNat 0
 cond (inR e c.length) (let a8:=K c e.toNat 0
 cond (O (a1<=a8)) (cond (inR d b.length) (let j:=K b d.toNat 0
 let p:=w64 (d+1)
 let u:=W a.length
 let a2:=W a.length
 let r:=w64 (a2-1)
 cond ((inR r a.length) || !(!(u==0))) (let a7:=K a r.toNat 0
 cond (cond (u==0) Ã (a7 != j)) (cond (O (U a+U [j]<=aF)) (let y:M Int:=a++[j]
 N (.inl (p,e,y,b,c))) Y) (N (.inl (p,e,a,b,c)))) Y) Y) (cond (inR e c.length) (let i:=K c e.toNat 0
 let n:=w64 (e+1)
 let m:=W a.length
 let a6:=W a.length
 let l:=w64 (a6-1)
 cond ((inR l a.length) || !(!(m==0))) (let b3:=K a l.toNat 0
 cond (cond (m==0) Ã (b3 != i)) (cond (O (U a+U [i]<=aF)) (let x:M Int:=a++[i]
 N (.inl (d,n,x,b,c))) Y) (N (.inl (d,n,a,b,c)))) Y) Y)) Y) Y) (cond (inR e c.length) (let f:=K c e.toNat 0
 let t:=w64 (e+1)
 let q:=W a.length
 let a3:=W a.length
 let k:=w64 (a3-1)
 cond ((inR k a.length) || !(!(q==0))) (let a4:=K a k.toNat 0
 cond (cond (q==0) Ã (a4 != f)) (cond (O (U a+U [f]<=aF)) (let w:M Int:=a++[f]
 N (.inl (d,t,w,b,c))) Y) (N (.inl (d,t,a,b,c)))) Y) Y))) (N (.inr a))
def Ii[LP](a:(M L)->S (M L))(b f:L)(e c d:M L):S (M L):=LP.lp (unc5 (j67 a)) (b,f,e,c,d)
theorem Wx(a:(M L)->S (M L))(b f:L)(e c d:M L):Ii a b f e c d=lpK (j67 a b f e c d) (λh=>Ii a h.1 h.2.1 h.2.2.1 h.2.2.2.1 h.2.2.2.2):=bt _ _
def Ij[LP](b:(M L)->S (M L))(a:M L):S (M L):=
 let k:=W a.length
 cond (O (k<2)) (cond (O (U ([]:(M L))+U a<=aF)) (let j:M Int:=([]:(M L))++a
 N j) Y) (let e:=W a.length
 let c:=w64 (È e 2)
 cond (O ((0:L)<=0)&&(O (0<=c)&&O (c<=(W a.length)))) (let l:M Int:=Ë 0 (Ê c.toNat a)
 (b l).bind λm=>let i:=W a.length
 let d:=w64 (È i 2)
 cond (O (0<=d)&&(O (d<=(W a.length))&&O ((W a.length)<=(W a.length)))) (let f:M Int:=Ë d.toNat (Ê a.length a)
 (b f).bind λg=>(Ii b 0 0 ([]:(M L)) m g).bind λn=>N n) Y) Y)
def j4P[LP](b:(M L)->S (M L))(h:M L):S (M L):=Ij (λa=>b a) h
def joa[LP](a:M L):S (M L):=LP.rp j4P a
def j4p(e f b:L)(k a:M L):S ((L×L×L×(M L)×(M L)) ⊕ (L×L×(M L))):=
 let i:=W a.length
 cond (O (b<i)) (cond (inR b a.length) (let d:=K a b.toNat 0
 cond ((inR b a.length) || !(O (d>e))) (let g:=K a b.toNat 0
 cond (cond (O (d>e)) (O (g<f)) À) (cond (inR b a.length) (let c:=K a b.toNat 0
 cond (O (U k+U [c]<=aF)) (let j:M Int:=k++[c]
 let m:=w64 (b+1)
 N (.inl (e,f,m,j,a))) Y) Y) (let l:=w64 (b+1)
 N (.inl (e,f,l,k,a)))) Y) Y) (N (.inr (e,f,k)))
def Ik[LP](c b d:L)(e a:M L):S (L×L×(M L)):=LP.lp (unc5 j4p) (c,b,d,e,a)
theorem Wy(c b d e a):Ik c b d e a=lpK (j4p c b d e a) (λh=>Ik h.1 h.2.1 h.2.2.1 h.2.2.2.1 h.2.2.2.2):=bt _ _
def jeg[LP](c:M L)(a d:L):S (M L):=(joa c).bind λf=>(Ik a d 0 [a] f).bind λb=>cond (O (b.2.1>b.1)) (cond (O (U b.2.2+U [b.2.1]<=aF)) (let e:M Int:=b.2.2++[b.2.1]
 N e) Y) (N b.2.2)
def j68[LP](n o c:L)(q:ai)(i:aj)(g:al)(f:ao)(p:X)(b:an)(j:ax)(e:M L):S ((L×L×L×ai×aj×al×ao×X×an×ax×(M L)) ⊕ (L×L×X×an×ax×(M L))):=
 let l:=W b.length
 cond (O (c<l)) (cond (inR c b.length) (let a:=K b c.toNat (J,(0,((0,0),(0,(0,(([]:(M L)),(([]:ae),(0,0))))))))
 (jid (q,(i,(g,f))) (a.1,(a.2.1,((a.2.2.1.1,a.2.2.1.2),(a.2.2.2.1,(a.2.2.2.2.1,(a.2.2.2.2.2.1,(a.2.2.2.2.2.2.1,(a.2.2.2.2.2.2.2.1,a.2.2.2.2.2.2.2.2)))))))) n o).bind λd=>cond (O (U e+U d<=aF)) (let m:M Int:=e++d
 let k:=w64 (c+1)
 N (.inl (n,o,k,q,i,g,f,p,b,j,m))) Y) Y) (N (.inr (n,o,p,b,j,e)))
def Il[LP](i k g:L)(l:ai)(d:aj)(c:al)(b:ao)(j:X)(a:an)(e:ax)(f:M L):S (L×L×X×an×ax×(M L)):=LP.lp (u8 unc3 j68) (i,k,g,l,d,c,b,j,a,e,f)
theorem Wz(i k g l d c b j a e f):Il i k g l d c b j a e f=lpK (j68 i k g l d c b j a e f) (λh=>Il h.1 h.2.1 h.2.2.1 h.2.2.2.1 h.2.2.2.2.1 h.2.2.2.2.2.1 h.2.2.2.2.2.2.1 h.2.2.2.2.2.2.2.1 h.2.2.2.2.2.2.2.2.1 h.2.2.2.2.2.2.2.2.2.1 h.2.2.2.2.2.2.2.2.2.2):=bt _ _
def j69(l m b:L)(n:X)(k:an)(a:ax)(d:M L):S ((L×L×L×X×an×ax×(M L)) ⊕ (L×L×(M L))):=
 let i:=W a.length
 cond (O (b<i)) (cond (inR b a.length) (let f:=K a b.toNat (0,(0,(0,(0,0))))
 cond (inR b a.length) (let e:=K a b.toNat (0,(0,(0,(0,0))))
 let c:M Int:=[f.2.2.2.1,e.2.2.2.2]
 cond (O (U d+U c<=aF)) (let j:M Int:=d++c
 let g:=w64 (b+1)
 N (.inl (l,m,g,n,k,a,j))) Y) Y) Y) (N (.inr (l,m,d)))
def Im[LP](e g d:L)(f:X)(a:an)(b:ax)(c:M L):S (L×L×(M L)):=LP.lp (unc7 j69) (e,g,d,f,a,b,c)
theorem WA(e g d f a b c):Im e g d f a b c=lpK (j69 e g d f a b c) (λh=>Im h.1 h.2.1 h.2.2.1 h.2.2.2.1 h.2.2.2.2.1 h.2.2.2.2.2.1 h.2.2.2.2.2.2):=bt _ _
def jks[LP](b:bR)(a d f:L):S (M L):=cond (inR a b.2.2.2.length) (let e:=K b.2.2.2 a.toNat (J,(([]:an),([]:ax)))
 (Il d f 0 b.1 b.2.1 b.2.2.1 b.2.2.2 e.1 e.2.1 e.2.2 ([]:(M L))).bind λc=>(Im c.1 c.2.1 0 c.2.2.1 c.2.2.2.1 c.2.2.2.2.1 c.2.2.2.2.2).bind λg=>(jeg g.2.2 g.1 g.2.1).bind λi=>N i) Y
def jgc(a:aq)(b:uv):S aq:=cond (O (b.2.1<=b.1)) (N a) (let f:=W a.length
 cond (O (f>0)) (let j:=w64 (f-1)
 cond (inR j a.length) (let m:=(K a j.toNat (0,(0,0))).2.1
 cond (m==b.1) (let l:=w64 (f-1)
 cond (inR l a.length) (let o:=(K a l.toNat (0,(0,0))).2.2
 cond (o==b.2.2) (let c:=w64 (f-1)
 cond (inR c a.length) (let p:aq:=Á a c.toNat ((K a c.toNat (0,(0,0))).1,(b.2.1,(K a c.toNat (0,(0,0))).2.2))
 N p) Y) (let k:aq:=[(b.1,(b.2.1,b.2.2))]
 cond (O (U a+U k<=aF)) (let n:aq:=a++k
 N n) Y)) Y) (let d:aq:=[(b.1,(b.2.1,b.2.2))]
 cond (O (U a+U d<=aF)) (let i:aq:=a++d
 N i) Y)) Y) (let e:aq:=[(b.1,(b.2.1,b.2.2))]
 cond (O (U a+U e<=aF)) (let g:aq:=a++e
 N g) Y))
def j3V[LP](q b:L)(r:ai)(f:aj)(e:al)(d:ao)(a:M L)(p:aq):S ((L×L×ai×aj×al×ao×(M L)×aq) ⊕ (aq)):=
 let j:=w64 (b+1)
 let m:=W a.length
 cond (O (j<m)) (cond (inR b a.length) (let k:=K a b.toNat 0
 (jh5 (r,(f,(e,d))) q k).bind λo=>cond (inR b a.length) (let l:=K a b.toNat 0
 let c:=w64 (b+1)
 cond (inR c a.length) (let g:=K a c.toNat 0
 (jgc p (l,(g,o.2))).bind λi=>let n:=w64 (b+1)
 N (.inl (q,n,r,f,e,d,a,i))) Y) Y) Y) (N (.inr p))
def Io[LP](g d:L)(i:ai)(c:aj)(b:al)(a:ao)(f:M L)(e:aq):S aq:=LP.lp (unc8 j3V) (g,d,i,c,b,a,f,e)
theorem WB(g d i c b a f e):Io g d i c b a f e=lpK (j3V g d i c b a f e) (λh=>Io h.1 h.2.1 h.2.2.1 h.2.2.2.1 h.2.2.2.2.1 h.2.2.2.2.2.1 h.2.2.2.2.2.2.1 h.2.2.2.2.2.2.2):=bt _ _
def j6K[LP](a:bR)(b c d:L):S (aq×L):=(jdG (a.1,(a.2.1,(a.2.2.1,a.2.2.2))) b c d).bind λe=>cond (e != 0) (N (([]:aq),e)) ((jks (a.1,(a.2.1,(a.2.2.1,a.2.2.2))) b c d).bind λi=>(Io b 0 a.1 a.2.1 a.2.2.1 a.2.2.2 i ([]:aq)).bind λg=>let f:=W g.length
 cond (O (f>16384)) (N (([]:aq),5)) (N (g,0)))
def j4Q(f g:aq)(e a:L):S ((aq×aq×L×L) ⊕ (Ä ⊕ Ç)):=cond (O (a<e)) (cond (inR a f.length) (let c:=K f a.toNat (0,(0,0))
 cond (inR a g.length) (let b:=K g a.toNat (0,(0,0))
 cond (!((c.1==b.1)&&((c.2.1==b.2.1)&&(c.2.2==b.2.2)))) (N (.inr (.inl À))) (let d:=w64 (a+1)
 N (.inl (f,g,e,d)))) Y) Y) (N (.inr (.inr ())))
def ET[LP](c d:aq)(a b:L):S (Ä ⊕ Ç):=LP.lp (unc4 j4Q) (c,d,a,b)
theorem WC(c d b a):ET c d b a=lpK (j4Q c d b a) (λh=>ET h.1 h.2.1 h.2.2.1 h.2.2.2):=bt _ _
def jgd[LP](a b:aq):S Bool:=
 let d:=W a.length
 let f:=W b.length
 cond (d != f) (N À) (let c:=W a.length
 (ET a b c 0).bind λe=>sumC e (λg=>N g) (λi=>N Ã))
def j2i[LP](x w y v q f:L)(u:df)(s:L)(o:M L)(t:L)(r:M L)(g:L)(e:ai)(a:aj)(b:al)(c:ao)(p:M L)(i:L):S ((L×L×L×L×L×L×df×L×(M L)×L×(M L)×L×ai×aj×al×ao×(M L)×L) ⊕ (Ä ⊕ (L×L×L×L×L×L×df×L×(M L)×L×ai×aj×al×ao×(M L)×L))):=cond (O (g<3)) (cond (inR g 3) (let d:=K r g.toNat 0
 (j6A (e,(a,(b,c))) f d).bind λl=>(jbH (e,(a,(b,c))) f d).bind λm=>cond (l != m) (N (.inr (.inl À))) ((j7y (e,(a,(b,c))) f d).bind λn=>(jh6 (e,(a,(b,c))) f d).bind λk=>cond (n != k) (N (.inr (.inl À))) (let j:=w64 (g+1)
 N (.inl (x,w,y,v,q,f,u,s,o,t,r,j,e,a,b,c,p,i))))) Y) (N (.inr (.inr (x,w,y,v,q,f,u,s,o,t,e,a,b,c,p,i))))
def Ip[LP](q p r s g o:L)(n:df)(k:L)(m:M L)(l:L)(i:M L)(j:L)(e:ai)(b:aj)(a:al)(d:ao)(f:M L)(c:L):S (Ä ⊕ (L×L×L×L×L×L×df×L×(M L)×L×ai×aj×al×ao×(M L)×L)):=LP.lp (u8 (u8 unc2) j2i) (q,p,r,s,g,o,n,k,m,l,i,j,e,b,a,d,f,c)
theorem WD(r q s p k j o m e n l g f a c d i b):Ip r q s p k j o m e n l g f a c d i b=lpK (j2i r q s p k j o m e n l g f a c d i b) (λh=>Ip h.1 h.2.1 h.2.2.1 h.2.2.2.1 h.2.2.2.2.1 h.2.2.2.2.2.1 h.2.2.2.2.2.2.1 h.2.2.2.2.2.2.2.1 h.2.2.2.2.2.2.2.2.1 h.2.2.2.2.2.2.2.2.2.1 h.2.2.2.2.2.2.2.2.2.2.1 h.2.2.2.2.2.2.2.2.2.2.2.1 h.2.2.2.2.2.2.2.2.2.2.2.2.1 h.2.2.2.2.2.2.2.2.2.2.2.2.2.1 h.2.2.2.2.2.2.2.2.2.2.2.2.2.2.1 h.2.2.2.2.2.2.2.2.2.2.2.2.2.2.2.1 h.2.2.2.2.2.2.2.2.2.2.2.2.2.2.2.2.1 h.2.2.2.2.2.2.2.2.2.2.2.2.2.2.2.2.2):=bt _ _
def j2j[LP](a0 z a1 y u n:L)(x:df)(v:L)(r:M L)(w:L)(s:M (M L))(g:L)(i:ai)(b:aj)(c:al)(d:ao)(t:M L)(j:L):S ((L×L×L×L×L×L×df×L×(M L)×L×(M (M L))×L×ai×aj×al×ao×(M L)×L) ⊕ (Ä ⊕ (L×L×L×L×L×df×L×(M L)×L×ai×aj×al×ao×(M L)×L))):=cond (O (g<3)) (cond (inR g 3) (let a:=K s g.toNat (Â 2 0)
 let a2:M Int:=Â 2 0
 let o:=K a 0 0
 let q:=K a 1 0
 (j47 (i,(b,(c,d))) n o q).bind λf=>let k:=K a 0 0
 let p:=K a 1 0
 (j6K (i,(b,(c,d))) n k p).bind λe=>(jgd f.1 e.1).bind λl=>cond (cond (!l) Ã (f.2 != e.2)) (N (.inr (.inl À))) (let m:=w64 (g+1)
 N (.inl (a0,z,a1,y,u,n,x,v,r,w,s,m,i,b,c,d,t,j)))) Y) (N (.inr (.inr (a0,z,a1,y,u,x,v,r,w,i,b,c,d,t,j))))
def Iq[LP](q p r s g o:L)(m:df)(i:L)(l:M L)(j:L)(k:M (M L))(n:L)(e:ai)(b:aj)(a:al)(d:ao)(f:M L)(c:L):S (Ä ⊕ (L×L×L×L×L×df×L×(M L)×L×ai×aj×al×ao×(M L)×L)):=LP.lp (u8 (u8 unc2) j2j) (q,p,r,s,g,o,m,i,l,j,k,n,e,b,a,d,f,c)
theorem WE(r q s p l k:L)(o:df)(m:L)(e:M L)(n:L)(f:M (M L))(g:L)(i:ai)(a:aj)(c:al)(d:ao)(j:M L)(b:L):Iq r q s p l k o m e n f g i a c d j b=lpK (j2j r q s p l k o m e n f g i a c d j b) (λh=>Iq h.1 h.2.1 h.2.2.1 h.2.2.2.1 h.2.2.2.2.1 h.2.2.2.2.2.1 h.2.2.2.2.2.2.1 h.2.2.2.2.2.2.2.1 h.2.2.2.2.2.2.2.2.1 h.2.2.2.2.2.2.2.2.2.1 h.2.2.2.2.2.2.2.2.2.2.1 h.2.2.2.2.2.2.2.2.2.2.2.1 h.2.2.2.2.2.2.2.2.2.2.2.2.1 h.2.2.2.2.2.2.2.2.2.2.2.2.2.1 h.2.2.2.2.2.2.2.2.2.2.2.2.2.2.1 h.2.2.2.2.2.2.2.2.2.2.2.2.2.2.2.1 h.2.2.2.2.2.2.2.2.2.2.2.2.2.2.2.2.1 h.2.2.2.2.2.2.2.2.2.2.2.2.2.2.2.2.2):=bt _ _
def j2k[LP](a0 a4 a5 a1 k:L)(x:df)(w:L)(t:M L)(g:L)(u:ai)(d:aj)(f:al)(i:ao)(v:M L)(e:L):S ((L×L×L×L×L×df×L×(M L)×L×ai×aj×al×ao×(M L)×L) ⊕ (Ä ⊕ (L×L×L×L×L×df×L×ai×aj×al×ao×(M L)×L))):=cond (O (g<3)) (cond (inR g 3) (let l:=K t g.toNat 0
 (j2Y v e).bind λc=>let p:M Int:=[a0,k,c.1]
 (Ip a0 a4 a5 a1 k l x w t g p 0 u d f i c.2.1 c.2.2).bind λy=>sumC y (λa2=>N (.inr (.inl a2))) (λa=>let q:=w64 (a.2.2.2.2.1+691200)
 let m:M Int:=[a.2.2.2.2.1,q]
 let s:M Int:=[a.2.1,a.2.2.1]
 let r:=w64 (a.2.2.2.2.1-1)
 let o:M Int:=[a.2.2.2.2.1,r]
 let n:(M (M L)):=[m,s,o]
 (Iq a.1 a.2.1 a.2.2.1 a.2.2.2.1 a.2.2.2.2.1 a.2.2.2.2.2.1 a.2.2.2.2.2.2.1 a.2.2.2.2.2.2.2.1 a.2.2.2.2.2.2.2.2.1 a.2.2.2.2.2.2.2.2.2.1 n 0 a.2.2.2.2.2.2.2.2.2.2.1 a.2.2.2.2.2.2.2.2.2.2.2.1 a.2.2.2.2.2.2.2.2.2.2.2.2.1 a.2.2.2.2.2.2.2.2.2.2.2.2.2.1 a.2.2.2.2.2.2.2.2.2.2.2.2.2.2.1 a.2.2.2.2.2.2.2.2.2.2.2.2.2.2.2).bind λz=>sumC z (λa3=>N (.inr (.inl a3))) (λb=>let j:=w64 (b.2.2.2.2.2.2.2.2.1+1)
 N (.inl (b.1,b.2.1,b.2.2.1,b.2.2.2.1,b.2.2.2.2.1,b.2.2.2.2.2.1,b.2.2.2.2.2.2.1,b.2.2.2.2.2.2.2.1,j,b.2.2.2.2.2.2.2.2.2.1,b.2.2.2.2.2.2.2.2.2.2.1,b.2.2.2.2.2.2.2.2.2.2.2.1,b.2.2.2.2.2.2.2.2.2.2.2.2.1,b.2.2.2.2.2.2.2.2.2.2.2.2.2.1,b.2.2.2.2.2.2.2.2.2.2.2.2.2.2))))) Y) (N (.inr (.inr (a0,a4,a5,a1,k,x,w,u,d,f,i,v,e))))
def Ir[LP](n m o p g:L)(l:df)(i:L)(k:M L)(j:L)(e:ai)(b:aj)(a:al)(d:ao)(f:M L)(c:L):S (Ä ⊕ (L×L×L×L×L×df×L×ai×aj×al×ao×(M L)×L)):=LP.lp (u8 unc7 j2k) (n,m,o,p,g,l,i,k,j,e,b,a,d,f,c)
theorem WG(n m o p g l i k j e b a d f c):Ir n m o p g l i k j e b a d f c=lpK (j2k n m o p g l i k j e b a d f c) (λh=>Ir h.1 h.2.1 h.2.2.1 h.2.2.2.1 h.2.2.2.2.1 h.2.2.2.2.2.1 h.2.2.2.2.2.2.1 h.2.2.2.2.2.2.2.1 h.2.2.2.2.2.2.2.2.1 h.2.2.2.2.2.2.2.2.2.1 h.2.2.2.2.2.2.2.2.2.2.1 h.2.2.2.2.2.2.2.2.2.2.2.1 h.2.2.2.2.2.2.2.2.2.2.2.2.1 h.2.2.2.2.2.2.2.2.2.2.2.2.2.1 h.2.2.2.2.2.2.2.2.2.2.2.2.2.2):=bt _ _
def j2l[LP](u t v r:L)(q:df)(p:L)(l:M L)(e:L)(s:ai)(m:aj)(n:al)(b:ao)(o:M L)(g:L):S ((L×L×L×L×df×L×(M L)×L×ai×aj×al×ao×(M L)×L) ⊕ (Ä ⊕ (L×L×L×L×df×L×(M L)×L))):=cond (O (e<3)) (cond (inR e 3) (let f:=K l e.toNat 0
 (j02 o g 5).bind λa=>cond (inR 0 b.length) (let c:=K b 0 (J,(([]:an),([]:ax)))
 (jbf (c.1,(c.2.1,c.2.2)) a.1 f).bind λj=>cond (inR 0 b.length) (let d:=K b 0 (J,(([]:an),([]:ax)))
 (jib (d.1,(d.2.1,d.2.2)) a.1 f).bind λi=>cond (!(j==i)) (N (.inr (.inl À))) (let k:=w64 (e+1)
 N (.inl (u,t,v,r,q,p,l,k,s,m,n,b,a.2.1,a.2.2)))) Y) Y) Y) (N (.inr (.inr (u,t,v,r,q,p,o,g))))
def Is[LP](m l n o:L)(k:df)(j:L)(e:M L)(f:L)(g:ai)(b:aj)(a:al)(d:ao)(i:M L)(c:L):S (Ä ⊕ (L×L×L×L×df×L×(M L)×L)):=LP.lp (u8 unc6 j2l) (m,l,n,o,k,j,e,f,g,b,a,d,i,c)
theorem WH(m l n o k j e f g b a d i c):Is m l n o k j e f g b a d i c=lpK (j2l m l n o k j e f g b a d i c) (λh=>Is h.1 h.2.1 h.2.2.1 h.2.2.2.1 h.2.2.2.2.1 h.2.2.2.2.2.1 h.2.2.2.2.2.2.1 h.2.2.2.2.2.2.2.1 h.2.2.2.2.2.2.2.2.1 h.2.2.2.2.2.2.2.2.2.1 h.2.2.2.2.2.2.2.2.2.2.1 h.2.2.2.2.2.2.2.2.2.2.2.1 h.2.2.2.2.2.2.2.2.2.2.2.2.1 h.2.2.2.2.2.2.2.2.2.2.2.2.2):=bt _ _
def j2m[LP](u t v p:L)(m:df)(g:L)(q:M L)(l:L):S ((L×L×L×L×df×L×(M L)×L) ⊕ (Ä ⊕ Ç)):=cond (O (g<2)) (cond (inR g 2) (let c:=K m g.toNat (([]:ai),(([]:aj),(([]:al),([]:ao))))
 (j2Y q l).bind λe=>(j02 e.2.1 e.2.2 3).bind λf=>let k:M Int:=[0,f.1,p]
 (Ir u t v p e.1 m g k 0 c.1 c.2.1 c.2.2.1 c.2.2.2 f.2.1 f.2.2).bind λo=>sumC o (λs=>N (.inr (.inl s))) (λa=>(j2Y a.2.2.2.2.2.2.2.2.2.2.2.1 a.2.2.2.2.2.2.2.2.2.2.2.2).bind λd=>let j:M Int:=[a.1,a.2.2.2.2.1,d.1]
 (Is a.1 a.2.1 a.2.2.1 a.2.2.2.1 a.2.2.2.2.2.1 a.2.2.2.2.2.2.1 j 0 a.2.2.2.2.2.2.2.1 a.2.2.2.2.2.2.2.2.1 a.2.2.2.2.2.2.2.2.2.1 a.2.2.2.2.2.2.2.2.2.2.1 d.2.1 d.2.2).bind λn=>sumC n (λr=>N (.inr (.inl r))) (λb=>let i:=w64 (b.2.2.2.2.2.1+1)
 N (.inl (b.1,b.2.1,b.2.2.1,b.2.2.2.1,b.2.2.2.2.1,i,b.2.2.2.2.2.2.1,b.2.2.2.2.2.2.2))))) Y) (N (.inr (.inr ())))
def It[LP](f e g i:L)(d:df)(c:L)(b:M L)(a:L):S (Ä ⊕ Ç):=LP.lp (unc8 j2m) (f,e,g,i,d,c,b,a)
theorem WI(f e g i d c b a):It f e g i d c b a=lpK (j2m f e g i d c b a) (λh=>It h.1 h.2.1 h.2.2.1 h.2.2.2.1 h.2.2.2.2.1 h.2.2.2.2.2.1 h.2.2.2.2.2.2.1 h.2.2.2.2.2.2.2):=bt _ _
def jao[LP](e:M L)(i d f b:L):S Bool:=(jj7 e).bind λk=>cond (!k) ((jg3).bind λm=>N m) ((jlf e).bind λg=>(j7R g.1 g.2 2).bind λa=>(j8K a.2.1 a.2.2 (a.1.1,(a.1.2.1,(a.1.2.2.1,a.1.2.2.2)))).bind λc=>let l:df:=[(a.1.1,(a.1.2.1,(a.1.2.2.1,a.1.2.2.2))),(c.1.1,(c.1.2.1,(c.1.2.2.1,c.1.2.2.2)))]
 (It i d f b l 0 c.2.1 c.2.2).bind λn=>sumC n (λo=>N o) (λp=>(jg3).bind λj=>N j))
end
end Go.Proofs.Pw
