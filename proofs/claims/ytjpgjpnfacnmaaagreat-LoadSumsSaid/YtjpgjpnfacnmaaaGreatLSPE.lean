/- gX 4: the ix answers for right ZG. -/
import Derived.Test.YtjpgjpnfacnmaaaGreatLSPD
open Go Go.Lft
namespace Go.Proofs.Pw
section
variable{o:Int}{l:bn}(h:gW o l)
include h
theorem ZH{t:Int}{k:Nat}(hk:k<=l.length)(h1:aO l k<=t)(h2:t<aO l (k+1)):∀(n i:Nat),i+n=k->Fk l t (ba o l i) (i:Int)=some (ba o l k)
 |0,i,hi=>by
  have hi:i=k:=by omega
  subst hi;have hlen:=h.len;rw[XM];simp only[j4R,show Int.ofNat (List.length l)=(l.length:Int) from rfl];by_cases ak:i<l.length
  .have e:aO l (i+1)=fR l i:=jM ak;rw[bz,ag (show (i:Int)<(l.length:Int) by omega)];simp only[zj,j6,j8];rw[ah (show¬(l.getD i ((0:Int),(0:Int))).1<=t by show¬fR l i<=t;omega),j7,aW]
  .rw[ah (show¬(i:Int)<(l.length:Int) by omega)];simp only[ka,Bool.or_true,j6,j7,aW]
 |n+1,i,hi=>by
  have hlen:=h.len;have ak:i<l.length:=by omega
  have e:aO l (i+1)=fR l i:=jM ak;have hle:=h.frm_le (i:=i+1) (j:=k) (by omega) (by omega);rw[XM];simp only[j4R,show Int.ofNat (List.length l)=(l.length:Int) from rfl];rw[bz,ag (show (i:Int)<(l.length:Int) by omega)];simp only[zj,j6,j8];rw[ag (show (l.getD i ((0:Int),(0:Int))).1<=t by show fR l i<=t;omega),j6,ai,aK];exact ZH hk h1 h2 n (i+1) (by omega)
theorem jyR{nm:ByteArray}{rs:List aD}{t:Int}{k:Nat}(hk:k<=l.length)(h1:aO l k<=t)(h2:t<aO l (k+1)):jhw (nm,(o,rs)) l t=some (ba o l k):=by
 have:=ZH h hk h1 h2 k 0 (by omega);simp only[jhw];rw[show Fk l t o 0=_ from this];rfl
theorem ZI{nm:ByteArray}{rs:List aD}{d c:Int}(hd : -1000000<=d)(gZ:d<=1000000)(hc:0<=c)(fg:c<=86399){k:Nat}(hk:k<=l.length)(hks:d*86400+c-ba o l k<aO l (k+1))
  (hb:∀j,j<k->aO l (j+1)<=d*86400+c-ba o l j):∀(n j:Nat),j+n=k->vA ((j:Int)-1) nm o rs d c l=some (.inl (max (aO l k) (d*86400+c-ba o l k),0))
 |n,j,hj=>by
  have hlen:=h.len;have nP:j<=l.length:=by omega
  have o1:=h.of0 j nP;have o2:=h.of1 j nP;have ak:=h.frm_lt nP
  have key:∀A:Option ((Int×ByteArray×Int×List aD×Int×Int×bn) ⊕ ((Int×Int) ⊕ Unit)),
    A=(cond (decide (max (aO l j) (d*86400+c-ba o l j)<aO l (j+1))) (some (.inr (.inl (max (aO l j) (d*86400+c-ba o l j),0)))) (some (.inl ((j:Int),nm,o,rs,d,c,l))))->
    lpK A (λh=>vA h.1 h.2.1 h.2.2.1 h.2.2.2.1 h.2.2.2.2.1 h.2.2.2.2.2.1 h.2.2.2.2.2.2)=some (.inl (max (aO l k) (d*86400+c-ba o l k),0)):=by
   intro A hA;rw[hA];cases n with
   |zero=>
    have rU:j=k:=by omega
    subst rU;rw[ag (by omega),j6,aW]
   |succ n=>have:=hb j (by omega);rw[ah (by omega),j7,aK];have ih:=ZI (nm:=nm) (rs:=rs) hd gZ hc fg hk hks hb n (j+1) (by omega);rwa[show ((j+1:Nat):Int)-1=(j:Int) by omega]at ih
  rw[NC];refine key _ ?_;simp only[j3Y,show Int.ofNat (List.length l)=(l.length:Int) from rfl];rw[ag (show (j:Int)-1<(l.length:Int) by omega)];simp only[show (j:Int)-1+1=(j:Int) by omega,ai (x:=(j:Int)),j8];rw[ai (x:=d*86400),ai (x:=d*86400+c)];have nR:∀a b:Int,(if a>b then a else b)=max b a:=λa b=>by omega
  clear key;cases j with
  |zero=>
   have pW:ba o l 0=o:=rfl;have mE:aO l 0=0:=rfl;rw[ah (show¬((0:Nat):Int)-1>=0 by omega)];rw[pW]at o1 o2 ⊢;rw[mE];simp only[j6,j7,ai (x:=d*86400+c-o),nR];by_cases iI:0<l.length
   .have e:aO l (0+1)=fR l 0:=jM iI;rw[e];rw[ag (show ((0:Nat):Int)<(l.length:Int) by omega),bz];rfl
   .have sP:l.length=0:=by omega
    have e:aO l (0+1)=8589934593:=by have:=mQ (l:=l);rwa[sP]at this
    rw[e];rw[ah (show¬((0:Nat):Int)<(l.length:Int) by omega)];rfl
  |succ i=>
   have kZ:i<l.length:=by omega
   have pW:ba o l (i+1)=(l.getD i ((0:Int),(0:Int))).2:=rfl;have mE:aO l (i+1)=(l.getD i ((0:Int),(0:Int))).1:=jM kZ;rw[show ((i+1:Nat):Int)-1=(i:Int) by omega,ag (show (i:Int)>=0 by omega),bz];simp only[j6,j8,<-pW,<-mE];rw[ai (x:=d*86400+c-ba o l (i+1))];simp only[nR];by_cases iI:i+1<l.length
   .have e:aO l (i+1+1)=(l.getD (i+1) ((0:Int),(0:Int))).1:=jM iI;rw[ag (show ((i+1:Nat):Int)<(l.length:Int) by omega),bz];simp only[j6,<-e]
   .have e:aO l (i+1+1)=8589934593:=by have:=mQ (l:=l);rwa[show l.length+1=i+1+1 by omega]at this
    rw[ah (show¬((i+1:Nat):Int)<(l.length:Int) by omega),e];rfl
end
theorem jwO{t o:Int}(h1 : -864000<=t+o)(h2:t+o<=1000000000000):jjz t o=some ((t+o)/86400,(t+o)%86400):=by
 simp only[jjz];rw[ai (x:=t+o),ai (x:=t+o+864000),sG (by omega),xg (by omega),ai (x:=(t+o+864000)/86400),ai];congr 2<;>omega
section
variable{z:ByteArray×(Int×List aD)}{l:bn}(h:Z4 z l)
include h
theorem jAY{t:Int}{k:Nat}(h0:0<=t)(h1:t<=8589934592)(hk:k<=l.length)(dJ:aO l k<=t)(ga:t<aO l (k+1)):jaC z t=some (ba z.2.1 l k,0):=by
 simp only[jaC,show j0h (z.1,(z.2.1,z.2.2))=_ from h.1,j4,jh,j7,nB h0 h1,jl,jyR h.2 hk dJ ga]
theorem ZJ{t:Int}{k:Nat}(h0:0<=t)(h1:t<=8589934592)(hk:k<=l.length)(dJ:aO l k<=t)(ga:t<aO l (k+1)):j3w z t=some (((t+ba z.2.1 l k)/86400,(t+ba z.2.1 l k)%86400),0):=by
 have o1:=h.2.of0 k hk;have o2:=h.2.of1 k hk;simp only[j3w,show jaC (z.1,(z.2.1,z.2.2)) t=_ from jAY h h0 h1 hk dJ ga,j4,jh,j7,jwO (show -864000<=t+ba z.2.1 l k by omega) (by omega)]
omit h in
theorem Rc{d:Int}(h1 : -2<=d)(h2:d<=99422):jeq d=some true:=by
 simp only[jeq,nB h1 h2,j4]
theorem jwP{d c:Int}(hd : -2<=d)(gZ:d<=99422)(hc:0<=c)(fg:c<=86399){k:Nat}(hk:k<=l.length)(hks:d*86400+c-ba z.2.1 l k<aO l (k+1))
  (hb:∀j,j<k->aO l (j+1)<=d*86400+c-ba z.2.1 l j):j4Q z (d,c)=some (max (aO l k) (d*86400+c-ba z.2.1 l k),0):=by
 have:=ZI h.2 (nm:=z.1) (rs:=z.2.2) (show -1000000<=d by omega) (by omega) hc fg hk hks hb k 0 (by omega);simp only[j4Q,show j0h (z.1,(z.2.1,z.2.2))=_ from h.1,j4,jh,j7,nB hc fg,jl,Rc hd gZ];rw[ah (show¬d < -2 by omega),j7,show vA (-1) z.1 z.2.1 z.2.2 d c l=_ from this];rfl
end
section
variable{o:Int}{l:bn}(h:gW o l)
include h
def pX(o:Int)(l:bn)(s:Int):Nat->Nat->List Int
 |_,0=>[]
 |j,n+1=>(if sJ o l s j then [s-ba o l j] else [])++pX o l s (j+1) n
def jC(o:Int)(l:bn)(s:Int):List Int:=pX o l s 0 (l.length+1)
omit h in
theorem JN(s:Int):∀n j,(pX o l s j n).length<=n
 |0,_=>by simp[pX]
 |n+1,j=>by
  have:=JN s n (j+1);simp only[pX];split<;>simp<;>omega
omit h in
theorem jAZ{s:Int}{j:Nat}:(cond (decide (s-ba o l j>=aO l j)) (decide (s-ba o l j<aO l (j+1))) false)=decide (sJ o l s j):=by
 by_cases h1:aO l j<=s-ba o l j
 .rw[ag (show s-ba o l j>=aO l j from h1),j6];by_cases h2:s-ba o l j<aO l (j+1)
  .rw[ag h2,ag (show sJ o l s j from⟨h1,h2⟩)]
  .rw[ah h2,ah (λhs:sJ o l s j=>h2 hs.2)]
 .rw[ah (show¬s-ba o l j>=aO l j from h1),j7,ah (λhs:sJ o l s j=>h1 hs.1)]
theorem ZK{nm:ByteArray}{rs:List aD}{d c:Int}(hd : -1000000<=d)(gZ:d<=1000000)(hc:0<=c)(fg:c<=86399):∀(n j:Nat)(acc:List Int),j+n=l.length+1->acc.length<=j->
  zT ((j:Int)-1) nm o rs d c l acc=some (acc++pX o l (d*86400+c) j n)
 |0,j,acc,hj,_=>by
  rw[XS];simp only[j3d,show Int.ofNat (List.length l)=(l.length:Int) from rfl];rw[ah (by omega),j7,aW];simp[pX]
 |n+1,j,acc,hj,ha=>by
  have hlen:=h.len;have o1:=h.of0 j (by omega);have o2:=h.of1 j (by omega)
  have key:∀A:Option ((Int×ByteArray×Int×List aD×Int×Int×bn×List Int) ⊕ List Int),
    A=(cond (decide (sJ o l (d*86400+c) j)) (some (.inl ((j:Int),nm,o,rs,d,c,l,acc++[d*86400+c-ba o l j]))) (some (.inl ((j:Int),nm,o,rs,d,c,l,acc))))->
    lpK A (λh=>zT h.1 h.2.1 h.2.2.1 h.2.2.2.1 h.2.2.2.2.1 h.2.2.2.2.2.1 h.2.2.2.2.2.2.1 h.2.2.2.2.2.2.2)=some (acc++pX o l (d*86400+c) j (n+1)):=by
   intro A hA;rw[hA]
   have ih:∀bA:List Int,bA.length<=j+1->zT (j:Int) nm o rs d c l bA=some (bA++pX o l (d*86400+c) (j+1) n):=λbA h'=>by
    have:=ZK (nm:=nm) (rs:=rs) hd gZ hc fg n (j+1) bA (by omega) h';rwa[show ((j+1:Nat):Int)-1=(j:Int) by omega]at this
   by_cases hs:sJ o l (d*86400+c) j
   .rw[ag hs,j6,aK];refine(ih (acc++[d*86400+c-ba o l j]) (by simp;omega)).trans ?_;simp[pX,hs]
   .rw[ah hs,j7,aK];refine(ih acc (by omega)).trans ?_;simp[pX,hs]
  rw[XS];refine key _ ?_;simp only[j3d,show Int.ofNat (List.length l)=(l.length:Int) from rfl];rw[ag (show (j:Int)-1<(l.length:Int) by omega)];simp only[show (j:Int)-1+1=(j:Int) by omega,ai (x:=(j:Int)),j8];have bU:decide (acc.length+[d*86400+c-ba o l j].length<=aN)=true:=ag (by simp[aN];omega);rw[ai (x:=d*86400),ai (x:=d*86400+c)];have dE:=jAZ (o:=o) (l:=l) (s:=d*86400+c) (j:=j);cases j with
  |zero=>
   have pW:ba o l 0=o:=rfl;have mE:aO l 0=0:=rfl;rw[ah (show¬((0:Nat):Int)-1>=0 by omega)];rw[pW]at o1 o2 bU dE ⊢;rw[mE]at dE;simp only[j6,j7,ai (x:=d*86400+c-o)];by_cases iI:0<l.length
   .have e:aO l (0+1)=fR l 0:=jM iI;rw[e]at dE;rw[ag (show ((0:Nat):Int)<(l.length:Int) by omega),bz];simp only[j6];rw[show (l.getD 0 ((0:Int),(0:Int))).1=fR l 0 from rfl,dE,bU];rfl
   .have sP:l.length=0:=by omega
    have e:aO l (0+1)=8589934593:=by have:=mQ (l:=l);rwa[sP]at this
    rw[e]at dE;rw[ah (show¬((0:Nat):Int)<(l.length:Int) by omega)];simp only[j7];rw[dE,bU];rfl
  |succ i=>
   have kZ:i<l.length:=by omega
   have pW:ba o l (i+1)=(l.getD i ((0:Int),(0:Int))).2:=rfl;have mE:aO l (i+1)=(l.getD i ((0:Int),(0:Int))).1:=jM kZ;rw[show ((i+1:Nat):Int)-1=(i:Int) by omega,ag (show (i:Int)>=0 by omega),bz];simp only[j6,j8,<-pW,<-mE];rw[ai (x:=d*86400+c-ba o l (i+1))];by_cases iI:i+1<l.length
   .have e:aO l (i+1+1)=(l.getD (i+1) ((0:Int),(0:Int))).1:=jM iI;rw[ag (show ((i+1:Nat):Int)<(l.length:Int) by omega),bz];simp only[j6,<-e];rw[dE,bU];rfl
   .have e:aO l (i+1+1)=8589934593:=by have:=mQ (l:=l);rwa[show l.length+1=i+1+1 by omega]at this
    rw[ah (show¬((i+1:Nat):Int)<(l.length:Int) by omega)];rw[e]at dE;simp only[j7];rw[dE,bU];rfl
end
section
variable{z:ByteArray×(Int×List aD)}{l:bn}(h:Z4 z l)
include h
theorem ZL{d c:Int}(hd : -2<=d)(gZ:d<=99422)(hc:0<=c)(fg:c<=86399):j7x z (d,c)=some (jC z.2.1 l (d*86400+c),0):=by
 have:=ZK h.2 (nm:=z.1) (rs:=z.2.2) (show -1000000<=d by omega) (by omega) hc fg (l.length+1) 0 [] (by omega) (by simp);simp only[j7x,show j0h (z.1,(z.2.1,z.2.2))=_ from h.1,j4,jh,j7,nB hc fg,jl,Rc hd gZ];rw[show zT (-1) z.1 z.2.1 z.2.2 d c l []=_ from this];rfl
end
def xm(o:Int)(l:bn)(s:Int):Prop:=∀j,j<=l.length->aO l (j+1)<=s-ba o l j
noncomputable def fO(o:Int)(l:bn)(s:Int):Option Int:=open Classical in if h:∃t k,nA o l s t k then some (Classical.choose h) else none
theorem nA.uniq{o:Int}{l:bn}{s t t':Int}{k k':Nat}(f:nA o l s t k)(g:nA o l s t' k'):k=k'/\t=t':=by
 have hk:k=k':=by
  rcases vw k k' with ak|heq|Cg
  .have:=g.bef k ak;have:=f.hks;omega
  .exact heq
  .have:=f.bef k' Cg;have:=g.hks;omega
 subst hk;exact⟨rfl,by rw[f.ht,g.ht]⟩
theorem vG{o:Int}{l:bn}{s t:Int}{k:Nat}(f:nA o l s t k):fO o l s=some t:=by
 have he:∃t k,nA o l s t k:=⟨t,k,f⟩;unfold fO;rw[dif_pos he];obtain⟨k',g⟩:=Classical.choose_spec he;rw[(g.uniq f).2]
theorem sQ{o:Int}{l:bn}{s:Int}(cY:xm o l s):fO o l s=none:=by
 unfold fO;rw[dif_neg]
 rintro⟨t,k,f⟩
 have:=cY k f.hk;have:=f.hks;omega
theorem JO(o:Int)(l:bn)(s:Int):(∃t k,nA o l s t k)\/xm o l s:=by
 by_cases cY:xm o l s
 .exact .inr cY
 .left
  have:∃j,j<=l.length/\s-ba o l j<aO l (j+1):=by
   apply jp;intro hn
   exact cY λj hj=>by
    rcases Int.lt_or_le (s-ba o l j) (aO l (j+1)) with h|h
    .exact absurd ⟨j,hj,h⟩ hn
    .exact h
  obtain⟨j,hj,hjs⟩:=this;obtain⟨a,⟨ha,haN⟩,nT⟩:=Bv (λj=>s-ba o l j<aO l (j+1)/\j<=l.length) j ⟨hjs,hj⟩;refine⟨_,a,haN,ha,λi hi=>?_,rfl⟩;rcases Int.lt_or_le (s-ba o l i) (aO l (i+1)) with h'|h'
  .have:=nT i ⟨h',by omega⟩;omega
  .exact h'
theorem JP{o:Int}{l:bn}{s t:Int}(he:fO o l s=some t):∃k,nA o l s t k:=by
 rcases JO o l s with⟨t',k,f⟩|cY
 .rw[vG f]at he;simp at he;subst he;exact⟨k,f⟩
 .rw[sQ cY]at he;simp at he
section
variable{o:Int}{l:bn}(h:gW o l)
include h
theorem Ci{s t:Int}(he:fO o l s=some t):s<=t+64800/\0<=t/\t<=8589934592:=by
 obtain⟨k,f⟩:=JP he;obtain⟨p1,p2,p3⟩:=f.piece h;have o1:=h.of1 k f.hk;have g1:=h.frm_le (i:=0) (j:=k) (by omega) (by have:=f.hk;omega);have e0:aO l 0=0:=ov;have e1:aO l (l.length+1)=8589934593:=mQ;have g2:=h.frm_le (i:=k+1) (j:=l.length+1) (by have:=f.hk;omega) (by omega);omega
theorem Re{s:Int}(hs:8589934593+64800<=s):xm o l s:=λj hj=>by
 have o1:=h.of1 j hj;have e1:aO l (l.length+1)=8589934593:=mQ;have g2:=h.frm_le (i:=j+1) (j:=l.length+1) (by omega) (by omega);omega
theorem jDj{s s' t':Int}(hs:s<=s')(he:fO o l s'=some t'):∃t,fO o l s=some t/\t<=t':=by
 obtain⟨k',g⟩:=JP he;have g1:=g.hks;have bK:=g.hk;rcases JO o l s with⟨t,k,f⟩|cY
 .refine⟨t,vG f,?_⟩;obtain⟨p1,p2,p3⟩:=f.piece h;obtain⟨q1,q2,q3⟩:=g.piece h;have f1:=f.ht;have g2:=g.ht;rcases vw k k' with ak|heq|Cg
  .have:=h.frm_le (i:=k+1) (j:=k') (by omega) (by omega);omega
  .subst heq;omega
  .have:=f.bef k' Cg;omega
 .have:=cY k' bK;omega
theorem ZM{d c s:Int}(kA:j3V (d,c)=some s)(jL : -1000000000000<=s)(nN:s<=1000000000000)(cY:xm o l s) :
  ∀(n i:Nat),i+n=l.length+1->EF ((l.length+1:Nat):Int) (i:Int) d c (rf o l (l.length+1))=some (.inr ())
 |0,i,hi=>by
  rw[Iy];simp only[j18];rw[ah (by omega),j7,aW]
 |n+1,i,hi=>by
  have hlen:=h.len;have kZ:i<=l.length:=by omega
  have o1:=h.of0 i kZ;have o2:=h.of1 i kZ;have hb:=cY i kZ;have ak:=h.frm_lt kZ;rw[Iy];simp only[j18];rw[ag (show (i:Int)<((l.length+1:Nat):Int) by omega),cw (by omega) (by rw[Aa];omega)];simp only[j6,j8,QD (show i<l.length+1 by omega),kA,j4,pc];rw[ai (x:=s-ba o l i),ai (x:=(i:Int)+1)];have hm:(if s-ba o l i>aO l i then s-ba o l i else aO l i)=max (aO l i) (s-ba o l i):=by split<;>omega
  rw[hm,ah (by omega),j7,aK];exact ZM kA jL nN cY n (i+1) (by omega)
theorem Rf{d c s:Int}(kA:j3V (d,c)=some s)(jL : -1000000000000<=s)(nN:s<=1000000000000)(cY:xm o l s):j2w (o,l) (d,c)=some (0,false):=by
 have:=ZM h kA jL nN cY (l.length+1) 0 (by omega);simp only[j2w,YL h,j4,Aa,show Int.ofNat (List.length l+1)=((l.length+1:Nat):Int) from rfl];rw[show (0:Int)=((0:Nat):Int) from rfl,this];rfl
theorem ZN{d c:Int}(hd : -1000000<=d)(gZ:d<=1000000000000000)(hc:0<=c)(fg:c<=86399) :
  j2w (o,l) (d,c)=some ((fO o l (d*86400+c)).getD 0,(fO o l (d*86400+c)).isSome):=by
 by_cases hb:d<=1000000
 .rcases JO o l (d*86400+c) with⟨t,k,f⟩|cY
  .have e:=jAP h hd hb (by omega) (by omega) f.hk f.hks f.bef;rw[<-f.ht]at e;rw[vG f];exact e
  .rw[sQ cY];exact Rf h (QE hd hb (by omega) (by omega)) (by omega) (by omega) cY
 .have cY:xm o l (d*86400+c):=Re h (by omega);rw[sQ cY];by_cases gG:d<=1048576
  .have kA:j3V (d,c)=some (d*86400+c):=by simp only[j3V];rw[if_neg (show¬(-1048576:Int)>d by omega),if_neg (show¬(1048576:Int)<d by omega),ai (x:=d*86400),ai]
   exact Rf h kA (by omega) (by omega) cY
  .have kA:j3V (d,c)=some (1048576*86400+c):=by simp only[j3V];rw[if_neg (show¬(-1048576:Int)>d by omega),if_pos (show (1048576:Int)<d by omega),ai (x:=1048576*86400),ai]
   exact Rf h kA (by omega) (by omega) (Re h (by omega))
theorem ZO{nm:ByteArray}{rs:List aD}{d c:Int}(hd : -1000000<=d)(gZ:d<=1000000)(hc:0<=c)(fg:c<=86399)(cY:xm o l (d*86400+c)):∀(n j:Nat),j+n=l.length+1->
  vA ((j:Int)-1) nm o rs d c l=some (.inr ())
 |0,j,hj=>by
  rw[NC];simp only[j3Y,show Int.ofNat (List.length l)=(l.length:Int) from rfl];rw[ah (by omega),j7,aW]
 |n+1,j,hj=>by
  have hlen:=h.len;have nP:j<=l.length:=by omega
  have o1:=h.of0 j nP;have o2:=h.of1 j nP;have ak:=h.frm_lt nP;have hb:=cY j nP;have ih:=ZO (nm:=nm) (rs:=rs) hd gZ hc fg cY n (j+1) (by omega);rw[show ((j+1:Nat):Int)-1=(j:Int) by omega]at ih
  have key:∀A:Option ((Int×ByteArray×Int×List aD×Int×Int×bn) ⊕ ((Int×Int) ⊕ Unit)),
    A=(cond (decide (max (aO l j) (d*86400+c-ba o l j)<aO l (j+1))) (some (.inr (.inl (max (aO l j) (d*86400+c-ba o l j),0)))) (some (.inl ((j:Int),nm,o,rs,d,c,l))))->
    lpK A (λh=>vA h.1 h.2.1 h.2.2.1 h.2.2.2.1 h.2.2.2.2.1 h.2.2.2.2.2.1 h.2.2.2.2.2.2)=some (.inr ()):=by
   intro A hA;rw[hA,ah (by omega),j7,aK];exact ih
  rw[NC];refine key _ ?_;simp only[j3Y,show Int.ofNat (List.length l)=(l.length:Int) from rfl];rw[ag (show (j:Int)-1<(l.length:Int) by omega)];simp only[show (j:Int)-1+1=(j:Int) by omega,ai (x:=(j:Int)),j8];rw[ai (x:=d*86400),ai (x:=d*86400+c)];have nR:∀a b:Int,(if a>b then a else b)=max b a:=λa b=>by omega
  clear key;cases j with
  |zero=>
   have pW:ba o l 0=o:=rfl;have mE:aO l 0=0:=rfl;rw[ah (show¬((0:Nat):Int)-1>=0 by omega)];rw[pW]at o1 o2 ⊢;rw[mE];simp only[j6,j7,ai (x:=d*86400+c-o),nR];by_cases iI:0<l.length
   .have e:aO l (0+1)=fR l 0:=jM iI;rw[e];rw[ag (show ((0:Nat):Int)<(l.length:Int) by omega),bz];rfl
   .have sP:l.length=0:=by omega
    have e:aO l (0+1)=8589934593:=by have:=mQ (l:=l);rwa[sP]at this
    rw[e];rw[ah (show¬((0:Nat):Int)<(l.length:Int) by omega)];rfl
  |succ i=>
   have kZ:i<l.length:=by omega
   have pW:ba o l (i+1)=(l.getD i ((0:Int),(0:Int))).2:=rfl;have mE:aO l (i+1)=(l.getD i ((0:Int),(0:Int))).1:=jM kZ;rw[show ((i+1:Nat):Int)-1=(i:Int) by omega,ag (show (i:Int)>=0 by omega),bz];simp only[j6,j8,<-pW,<-mE];rw[ai (x:=d*86400+c-ba o l (i+1))];simp only[nR];by_cases iI:i+1<l.length
   .have e:aO l (i+1+1)=(l.getD (i+1) ((0:Int),(0:Int))).1:=jM iI;rw[ag (show ((i+1:Nat):Int)<(l.length:Int) by omega),bz];simp only[j6,<-e]
   .have e:aO l (i+1+1)=8589934593:=by have:=mQ (l:=l);rwa[show l.length+1=i+1+1 by omega]at this
    rw[ah (show¬((i+1:Nat):Int)<(l.length:Int) by omega),e];rfl
end
theorem Rg{z:br}{l:bn}(h:Z4 z l){d c:Int}(hd:1<=d)(hc:0<=c)(fg:c<=86399) :
  j4Q z (d,c)=some (match fO z.2.1 l (d*86400+c) with|some t=>(t,0)|none=>(0,10)):=by
 by_cases hb:d<=99422
 .rcases JO z.2.1 l (d*86400+c) with⟨t,k,f⟩|cY
  .have e:=jwP h (d:=d) (c:=c) (by omega) hb hc fg f.hk f.hks f.bef;rw[<-f.ht]at e;rw[vG f];exact e
  .have:=ZO h.2 (nm:=z.1) (rs:=z.2.2) (show -1000000<=d by omega) (by omega) hc fg cY (l.length+1) 0 (by omega);rw[sQ cY];simp only[j4Q,show j0h (z.1,(z.2.1,z.2.2))=_ from h.1,j4,jh,j7,nB hc fg,jl,Rc (show -2<=d by omega) hb];rw[ah (show¬d < -2 by omega),j7,show vA (-1) z.1 z.2.1 z.2.2 d c l=_ from this];rfl
 .rw[sQ (Re h.2 (by omega))];simp only[j4Q,show j0h (z.1,(z.2.1,z.2.2))=_ from h.1,j4,jh,j7,nB hc fg,jl,jeq,jED (show¬(-2<=d/\d<=99422) by omega)];rw[ah (show¬d < -2 by omega)];rfl
structure Rt(L:bI):Prop where
 d0:1<=L.2.2.1.1
 d1:L.2.2.1.1<=100000
 c0:0<=L.2.2.1.2
 c1:L.2.2.1.2<=86399
 u0:0<=L.2.2.2.1
 u1:L.2.2.2.1<=2
 e0:1<=L.2.2.2.2.1
 e1:L.2.2.2.2.1<=400
 m0:L.2.2.2.2.2.1≠[]
theorem Rt.step{L:bI}(h:Rt L):1<=dv L/\dv L<=2800:=by
 have:=h.e0;have:=h.e1;unfold dv;split<;>omega
noncomputable def hO(o:Int)(l:bn)(L:bI)(k:Int):Option Int:=
 if L.2.2.2.1=0 then (fO o l (dm L 0)).bind λt=>if t+3600*L.2.2.2.2.1*k<=8589934592 then some (t+3600*L.2.2.2.2.1*k) else none
 else fO o l (dm L k)
section
variable{o:Int}{l:bn}(ht:gW o l){L:bI}(h:Rt L)
include ht h
theorem Aj{k t:Int}(hk:0<=k)(he:hO o l L k=some t):0<=t/\t<=8589934592/\k<=2386092:=by
 have hs:=h.step;have F9:=h.d0;have tI:=h.e0;have iS:=h.c0;unfold hO at he;by_cases h0:L.2.2.2.1=0
 .rw[if_pos h0]at he;cases hf:fO o l (dm L 0) with
  |none=>rw[hf]at he;simp at he
  |some v=>
   rw[hf]at he;simp only[j4]at he;have hv:=Ci ht hf;have hm:3600*k<=3600*L.2.2.2.2.1*k:=vd (by omega) hk;split at he
   .simp at he;omega
   .simp at he
 .rw[if_neg h0]at he;have hv:=Ci ht he;have hm:k*1<=k*dv L:=Int.mul_le_mul_of_nonneg_left hs.1 hk;unfold dm at hv;omega
theorem jB1{k t:Int}(he:hO o l L (k+1)=some t):∃v,hO o l L k=some v/\v<=t:=by
 have hs:=h.step;have tI:=h.e0;unfold hO at he ⊢;by_cases h0:L.2.2.2.1=0
 .rw[if_pos h0]at he ⊢;cases hf:fO o l (dm L 0) with
  |none=>rw[hf]at he;simp at he
  |some v=>
   rw[hf]at he;simp only[j4]at he ⊢;have hm:3600*L.2.2.2.2.1*(k+1)=3600*L.2.2.2.2.1*k+3600*L.2.2.2.2.1:=by rw[Int.mul_add,Int.mul_one]
   split at he
   .rw[if_pos (by omega)];simp at he;exact⟨_,rfl,by omega⟩
   .simp at he
 .rw[if_neg h0]at he ⊢;have hm:(k+1)*dv L=k*dv L+dv L:=by rw[Int.add_mul,Int.one_mul]
  exact jDj ht (by unfold dm;rw[hm];omega) he
def QO(o:Int)(l:bn)(L:bI)(t k:Int):Prop:=∃v,hO o l L k=some v/\v<=t
theorem QO.down{t:Int}:∀(n:Nat){k:Int},QO o l L t (k+n)->QO o l L t k
 |0,k,hq=>by rwa[show k+((0:Nat):Int)=k by omega]at hq
 |n+1,k,hq=>by
  rw[show k+((n+1:Nat):Int)=k+(n:Int)+1 by omega]at hq;obtain⟨v,hv,uG⟩:=hq;obtain⟨v',gI,hl⟩:=jB1 ht h (k:=k+(n:Int)) hv;exact QO.down n ⟨v',gI,by omega⟩
theorem QO.le{t k j:Int}(eA:k<=j)(hq:QO o l L t j):QO o l L t k:=by
 refine QO.down ht h (j-k).toNat ?_;rwa[show k+(((j-k).toNat:Nat):Int)=j by omega]
def kB(o:Int)(l:bn)(L:bI)(t K:Int):Prop:=(K = -1/\¬QO o l L t 0)\/(0<=K/\QO o l L t K/\¬QO o l L t (K+1))
theorem kB.uniq{t K K':Int}(a:kB o l L t K)(b:kB o l L t K'):K=K':=by
 rcases a with⟨a1,a2⟩|⟨a1,a2,a3⟩<;>rcases b with⟨b1,b2⟩|⟨b1,b2,b3⟩
 .omega
 .exact absurd (QO.le ht h b1 b2) a2
 .exact absurd (QO.le ht h a1 a2) b2
 .rcases Int.lt_trichotomy K K' with ak|heq|Cg
  .exact absurd (QO.le ht h (by omega) b2) a3
  .exact heq
  .exact absurd (QO.le ht h (by omega) a2) b3
theorem QO.day{t k:Int}(h0:L.2.2.2.1≠0)(hq:QO o l L t k){j:Nat}(hj:j<=l.length):L.2.2.1.1+k*dv L<=(t+ba o l j)/86400+2:=by
 obtain⟨v,hv,uG⟩:=hq;unfold hO at hv;rw[if_neg h0]at hv;have:=Ci ht hv;have o0:=ht.of0 j hj;have iS:=h.c0;unfold dm at this;omega
end
theorem ZP{L:bI}(h:Rt L):j9Q L=some (dv L):=by
 have:=h.e0;have:=h.e1;simp only[j9Q,dv];by_cases h2:L.2.2.2.1=2
 .rw[di h2,j6,if_pos h2,ai]
 .rw[bW h2,j7,if_neg h2]
def sR(r:Option (Int×Bool))(x:Option Int):Prop:=∃v,r=some (v,x.isSome)/\∀t,x=some t->v=t
theorem pY{o:Int}{l:bn}(ht:gW o l){L:bI}(h:Rt L){k:Int}(hk:0<=k)(ga:k<=8589934592):sR (j0H (o,l) L k) (hO o l L k):=by
 have hs:=h.step;have F9:=h.d0;have oK:=h.d1;have iS:=h.c0;have eG:=h.c1;have tI:=h.e0;have yC:=h.e1;have fI:j9Q (L.1,L.2.1,(L.2.2.1.1,L.2.2.1.2),L.2.2.2.1,L.2.2.2.2.1,L.2.2.2.2.2.1,L.2.2.2.2.2.2.1,L.2.2.2.2.2.2.2.1,L.2.2.2.2.2.2.2.2)=_:=ZP h;simp only[sR,j0H,fI,j4];rw[ah (show¬k>8589934592 by omega),j7];by_cases h0:L.2.2.2.1=0
 .have hF:=ZN ht (d:=L.2.2.1.1) (c:=L.2.2.1.2) (by omega) (by omega) iS eG;have jL:L.2.2.1.1*86400+L.2.2.1.2=dm L 0:=by unfold dm;omega
  have oy:0<=3600*L.2.2.2.2.1*k:=yc (by omega) hk;have fD:3600*L.2.2.2.2.1*k<=3600*400*8589934592:=Int.mul_le_mul (by omega) ga hk (by omega);rw[show (L.2.2.2.1 != 0)=false by rw[h0];rfl,j7,hF,jL];simp only[j4];unfold hO;rw[if_pos h0];cases hf:fO o l (dm L 0) with
  |none=>exact⟨_,rfl,λt h=>by simp at h⟩
  |some v=>
   have hv:=Ci ht hf;simp only[zg,zk,j6,j4,im (x:=3600*L.2.2.2.2.1) (show -9223372036854775808<=_ by omega) (by omega),im (x:=3600*L.2.2.2.2.1*k) (show -9223372036854775808<=_ by omega) (by omega),im (x:=v+3600*L.2.2.2.2.1*k) (show -9223372036854775808<=_ by omega) (by omega)];by_cases hle:v+3600*L.2.2.2.2.1*k<=8589934592
   .rw[if_pos hle,ag hle];exact⟨_,rfl,λt h=>by simpa using h⟩
   .rw[if_neg hle,ah hle];exact⟨_,rfl,λt h=>by simp at h⟩
 .have oy:0<=k*dv L:=yc hk (by omega);have fD:k*dv L<=8589934592*2800:=Int.mul_le_mul ga hs.2 (by omega) (by omega);rw[show (L.2.2.2.1 != 0)=true by simp[h0],j6,ai (x:=k*dv L),ai (x:=L.2.2.1.1+k*dv L),ZN ht (by omega) (by omega) iS eG];simp only[j4];unfold hO;rw[if_neg h0];exact⟨_,rfl,λt h=>by have h:fO o l ((L.2.2.1.1+k*dv L)*86400+L.2.2.1.2)=some t:=h;rw[h];rfl⟩
theorem Gk{z:br}{l:bn}(hz:Z4 z l){L:bI}(h:Rt L){k:Int}(hk:0<=k)(ga:k<=8589934592):sR (j7c z L k) (hO z.2.1 l L k):=by
 have hs:=h.step;have F9:=h.d0;have oK:=h.d1;have iS:=h.c0;have eG:=h.c1;have tI:=h.e0;have yC:=h.e1;have Bg:=h.u1;have hu0:=h.u0;simp only[sR,j7c];have oy:0<=k*L.2.2.2.2.1:=yc hk (by omega);have fD:k*L.2.2.2.2.1<=8589934592*400:=Int.mul_le_mul ga (by omega) (by omega) (by omega);rw[ai (x:=k*L.2.2.2.2.1)];by_cases h0:L.2.2.2.1=0
 .have hF:=Rg hz (d:=L.2.2.1.1) (c:=L.2.2.1.2) (by omega) iS eG;have jL:L.2.2.1.1*86400+L.2.2.1.2=dm L 0:=by unfold dm;omega
  rw[di h0,j6,show j4Q (z.1,(z.2.1,z.2.2)) (L.2.2.1.1,L.2.2.1.2)=_ from hF,jL];simp only[j4];have lv:k*L.2.2.2.2.1*3600=3600*L.2.2.2.2.1*k:=by rw[Int.mul_comm,Int.mul_comm k,Int.mul_assoc]
  have gL:0<=3600*L.2.2.2.2.1*k:=yc (by omega) hk;have hm3:3600*L.2.2.2.2.1*k<=3600*400*8589934592:=Int.mul_le_mul (by omega) ga hk (by omega);rw[lv,ai (x:=3600*L.2.2.2.2.1*k)];unfold hO;rw[if_pos h0];cases hf:fO z.2.1 l (dm L 0) with
  |none=>exact⟨_,rfl,λt h=>by simp at h⟩
  |some v=>
   have hv:=Ci hz.2 hf;simp only[j4];rw[ai (x:=v+3600*L.2.2.2.2.1*k),qd,j6];by_cases hle:v+3600*L.2.2.2.2.1*k<=8589934592
   .rw[if_pos hle,ag hle];exact⟨_,rfl,λt h=>by simpa using h⟩
   .rw[if_neg hle,ah hle];exact⟨_,rfl,λt h=>by simp at h⟩
 .rw[bW h0,j7]
  have fin:∀n:Int,n=k*dv L->0<=n->sR ((j4Q (z.1,(z.2.1,z.2.2)) (L.2.2.1.1+n,L.2.2.1.2)).bind λr=>some (r.1,(r.2==(0:Int)))) (hO z.2.1 l L k):=by
   intro n hn oO;have hF:=Rg hz (d:=L.2.2.1.1+n) (c:=L.2.2.1.2) (by omega) iS eG;rw[show j4Q (z.1,(z.2.1,z.2.2)) (L.2.2.1.1+n,L.2.2.1.2)=_ from hF];unfold hO;rw[if_neg h0];have dV:(L.2.2.1.1+n)*86400+L.2.2.1.2=dm L k:=by rw[hn];rfl
   rw[dV];cases hf:fO z.2.1 l (dm L k) with
   |none=>exact⟨_,rfl,λt h=>by simp at h⟩
   |some v=>exact⟨_,rfl,λt h=>by simpa using h⟩
  by_cases h2:L.2.2.2.1=2
  .have Ak:dv L=7*L.2.2.2.2.1:=by unfold dv;rw[if_pos h2]
   have e1:k*L.2.2.2.2.1*7=k*dv L:=by rw[Ak,Int.mul_assoc,Int.mul_comm L.2.2.2.2.1 7]
   rw[di h2,j6,ai (x:=k*L.2.2.2.2.1*7),ai (x:=L.2.2.1.1+k*L.2.2.2.2.1*7)];exact fin _ e1 (by omega)
  .have Ak:dv L=L.2.2.2.2.1:=by unfold dv;rw[if_neg h2]
   rw[bW h2,j7,ai (x:=L.2.2.1.1+k*L.2.2.2.2.1)];exact fin _ (by rw[Ak]) oy
theorem ZQ{o:Int}{l:bn}(ht:gW o l){L:bI}(h:Rt L){t N:Int}(hN:N<=8589934592)(lQ:QO o l L t 0):∀n:Nat,(n:Int)<=N->
  ∃k:Int,IE t (n:Int) o l L.1 L.2.1 L.2.2.1.1 L.2.2.1.2 L.2.2.2.1 L.2.2.2.2.1 L.2.2.2.2.2.1 L.2.2.2.2.2.2.1 L.2.2.2.2.2.2.2.1 L.2.2.2.2.2.2.2.2=
   some (t,k,o,l,L.1,L.2.1,L.2.2.1.1,L.2.2.1.2,L.2.2.2.1,L.2.2.2.2.1,L.2.2.2.2.2.1,L.2.2.2.2.2.2.1,L.2.2.2.2.2.2.2.1,L.2.2.2.2.2.2.2.2)/\0<=k/\QO o l L t k
 |0,_=>by
  rw[W7];simp only[j32];rw[ah (by omega),j7,aW];exact⟨_,rfl,by omega,lQ⟩
 |n+1,hn=>by
  obtain⟨k,e,k0,k1⟩:=ZQ ht h hN lQ n (by omega);obtain⟨v,hH,hv⟩:=pY ht h (k:=((n+1:Nat):Int)) (by omega) (by omega);rw[W7];simp only[j32];rw[ag (by omega),j6,show j0H (o,l) (L.1,L.2.1,(L.2.2.1.1,L.2.2.1.2),L.2.2.2.1,L.2.2.2.2.1,L.2.2.2.2.2.1,L.2.2.2.2.2.2.1,L.2.2.2.2.2.2.2.1,L.2.2.2.2.2.2.2.2) ((n+1:Nat):Int)=_ from hH];simp only[j4];rw[ai (x:=((n+1:Nat):Int)-1),show ((n+1:Nat):Int)-1=(n:Int) by omega];cases hx:hO o l L ((n+1:Nat):Int) with
  |none=>simp only[v8,j7,aK];exact⟨k,e,k0,k1⟩
  |some x=>
   have:=hv x hx;subst this;simp only[zk,j6];by_cases hc:v<=t
   .rw[ag hc,j6,aW];exact⟨_,rfl,by omega,v,hx,hc⟩
   .rw[ah hc,j7,aK];exact⟨k,e,k0,k1⟩
theorem ZR{o:Int}{l:bn}(ht:gW o l){L:bI}(h:Rt L){t:Int}:∀(n:Nat)(k:Int),k+n=2386093->0<=k->QO o l L t k->
  ∃K:Int,IF t k o l L.1 L.2.1 L.2.2.1.1 L.2.2.1.2 L.2.2.2.1 L.2.2.2.2.1 L.2.2.2.2.2.1 L.2.2.2.2.2.2.1 L.2.2.2.2.2.2.2.1 L.2.2.2.2.2.2.2.2=some K/\0<=K/\QO o l L t K/\¬QO o l L t (K+1)
 |0,k,hn,hk,hq=>by
  obtain⟨v,hv,_⟩:=hq;have:=Aj ht h hk hv;omega
 |n+1,k,hn,hk,hq=>by
  obtain⟨v,hH,hv⟩:=pY ht h (k:=k+1) (by omega) (by omega);rw[jiq];simp only[j4F];rw[ai (x:=k+1),show j0H (o,l) (L.1,L.2.1,(L.2.2.1.1,L.2.2.1.2),L.2.2.2.1,L.2.2.2.2.1,L.2.2.2.2.2.1,L.2.2.2.2.2.2.1,L.2.2.2.2.2.2.2.1,L.2.2.2.2.2.2.2.2) (k+1)=_ from hH];simp only[j4];cases hx:hO o l L (k+1) with
  |none=>simp only[v8,ka,j6,aW];exact⟨k,rfl,hk,hq,λ⟨y,hy,_⟩=>by rw[hx]at hy;simp at hy⟩
  |some x=>
   have:=hv x hx;subst this;simp only[zk,jl,j7];by_cases hc:v>t
   .rw[ag hc,j6,aW];exact⟨k,rfl,hk,hq,λ⟨y,hy,BH⟩=>by rw[hx]at hy;simp at hy;omega⟩
   .rw[ah hc,j7,aK];exact ZR ht h n (k+1) (by omega) (by omega) ⟨v,hx,by omega⟩
theorem ZS{o:Int}{l:bn}{L:bI}(h:Rt L){t v:Int}(h0:L.2.2.2.1=0)(rV:t<=8589934592)(hf:fO o l (dm L 0)=some v)(uG:v<=t)(hv0:0<=v) :
  kB o l L t ((t-v)/(3600*L.2.2.2.2.1))/\0<=(t-v)/(3600*L.2.2.2.2.1)/\(t-v)/(3600*L.2.2.2.2.1)<=8589934592:=by
 have tI:=h.e0;have yC:=h.e1;have q0:0<=(t-v)/(3600*L.2.2.2.2.1):=yo (by omega) (by omega);have q1:3600*L.2.2.2.2.1*((t-v)/(3600*L.2.2.2.2.1))<=t-v:=Int.mul_ediv_self_le (by omega);have q2:t-v<3600*L.2.2.2.2.1*((t-v)/(3600*L.2.2.2.2.1))+3600*L.2.2.2.2.1:=Int.lt_mul_ediv_self_add (by omega);have q3:(t-v)/(3600*L.2.2.2.2.1)<=t-v:=ye _ (by omega);generalize (t-v)/(3600*L.2.2.2.2.1)=K at *;refine⟨.inr ⟨q0,⟨v+3600*L.2.2.2.2.1*K,?_,by omega⟩,?_⟩,q0,by omega⟩
 .unfold hO;rw[if_pos h0,hf];simp only[j4];rw[if_pos (by omega)]
 .rintro⟨y,hy,BH⟩
  unfold hO at hy;rw[if_pos h0,hf]at hy;simp only[j4,Int.mul_add,Int.mul_one]at hy;split at hy
  .simp at hy;omega
  .simp at hy
theorem ZT{o:Int}{l:bn}{L:bI}(h0:L.2.2.2.1=0){v:Int}(hv:hO o l L 0=some v):fO o l (dm L 0)=some v:=by
 unfold hO at hv;rw[if_pos h0]at hv;cases hf:fO o l (dm L 0) with
 |none=>rw[hf]at hv;simp at hv
 |some x=>
  rw[hf]at hv;simp only[j4,Int.mul_zero,yf]at hv;split at hv
  .simpa using hv
  .simp at hv
theorem jFP{o:Int}{l:bn}(ht:gW o l){L:bI}(h:Rt L){t:Int}(JQ:0<=t)(rV:t<=8589934592):∃K:Int,j3O (o,l) L t=some K/\kB o l L t K:=by
 have hs:=h.step;have F9:=h.d0;have oK:=h.d1;have tI:=h.e0;have yC:=h.e1;obtain⟨v0,hH,hv⟩:=pY ht h (k:=0) (by omega) (by omega);have fI:j9Q (L.1,L.2.1,(L.2.2.1.1,L.2.2.1.2),L.2.2.2.1,L.2.2.2.2.1,L.2.2.2.2.2.1,L.2.2.2.2.2.2.1,L.2.2.2.2.2.2.2.1,L.2.2.2.2.2.2.2.2)=_:=ZP h;simp only[j3O,show j0H (o,l) (L.1,L.2.1,(L.2.2.1.1,L.2.2.1.2),L.2.2.2.1,L.2.2.2.2.1,L.2.2.2.2.2.1,L.2.2.2.2.2.2.1,L.2.2.2.2.2.2.2.1,L.2.2.2.2.2.2.2.2) 0=_ from hH,fI,j4];cases hx:hO o l L 0 with
 |none=>simp only[v8,ka,j6];exact⟨-1,rfl,.inl ⟨rfl,λ⟨y,hy,_⟩=>by rw[hx]at hy;simp at hy⟩⟩
 |some v=>
  have:=hv v hx;subst this;simp only[zk,jl,j7];by_cases hc:v0>t
  .rw[ag hc,j6];exact⟨-1,rfl,.inl ⟨rfl,λ⟨y,hy,BH⟩=>by rw[hx]at hy;simp at hy;omega⟩⟩
  .rw[ah hc,j7];have hq:QO o l L t 0:=⟨v0,hx,by omega⟩;have Rh:=Aj ht h (k:=0) (by omega) hx;by_cases h0:L.2.2.2.1=0
   .obtain⟨s1,s2,s3⟩:=ZS (o:=o) (l:=l) h h0 rV (ZT h0 hx) (by omega) Rh.1;rw[di h0,j6,ai (x:=t-v0),ai (x:=3600*L.2.2.2.2.1),bW (show¬3600*L.2.2.2.2.1=0 by omega),qy (by omega),ai (x:=(t-v0)/(3600*L.2.2.2.2.1))];exact⟨_,rfl,s1⟩
   .obtain⟨j,hj,j1,j2⟩:=pQ ht JQ rV;have o0:=ht.of0 j hj;have o1:=ht.of1 j hj;rw[bW h0,j7,Cb ht hj j1 j2];simp only[j4];generalize hld:(t+ba o l j)/86400=ld;rw[bW (show¬dv L=0 by omega),ai (x:=ld-L.2.2.1.1)];simp only[ka,j6]
    obtain⟨n,hn,DS⟩:∃n:Nat,(if w64 (Int.tdiv (ld-L.2.2.1.1) (dv L))>0 then w64 (Int.tdiv (ld-L.2.2.1.1) (dv L)) else 0)=(n:Int)/\(n:Int)<=8589934592:=by
     by_cases gu:0<=ld-L.2.2.1.1
     .rw[qy gu];have q0:0<=(ld-L.2.2.1.1)/dv L:=yo gu (by omega);have q1:(ld-L.2.2.1.1)/dv L<=ld-L.2.2.1.1:=ye _ gu;rw[ai];refine⟨((ld-L.2.2.1.1)/dv L).toNat,?_,?_⟩
      .split<;>omega
      .omega
     .have e:Int.tdiv (ld-L.2.2.1.1) (dv L) = -((-(ld-L.2.2.1.1))/dv L):=by rw[<-qy (by omega),Int.neg_tdiv,Int.neg_neg]
      have q0:0<=(-(ld-L.2.2.1.1))/dv L:=yo (by omega) (by omega);have q1:(-(ld-L.2.2.1.1))/dv L <= -(ld-L.2.2.1.1):=ye _ (by omega);rw[e,ai,if_neg (by omega)];exact⟨0,rfl,by omega⟩
    rw[hn];obtain⟨k,e,k0,k1⟩:=ZQ ht h (k9 _) hq n DS;have tF:=k1;obtain⟨y,hy,_⟩:=tF;have cu:=Aj ht h k0 hy;obtain⟨K,e2,K0,K1,K2⟩:=ZR ht h (t:=t) (2386093-k).toNat k (by omega) k0 k1;simp only[e,j4,e2];exact⟨K,rfl,.inr ⟨K0,K1,K2⟩⟩
end Go.Proofs.Pw
