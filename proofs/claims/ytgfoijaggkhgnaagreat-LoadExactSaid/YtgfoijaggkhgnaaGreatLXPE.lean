/- mB 4: the nJ answers for right Β. -/
import Derived.Test.YtgfoijaggkhgnaaGreatLXPD
open _root_ renaming Int->m,Nat->q,ByteArray->w,List->D,Option->E
open Option renaming some->p
open List renaming length->u
open Int renaming ofNat->B,mul_comm->G,mul_assoc->H,lt_or_le->I,tdiv->J,mul_add->O,mul_one->R
open Go Go.Lft
namespace Go.Proofs.Pw
section
variable{o:m}{l:bC}(h:iz o l)
include h
theorem Γ{t:m}{k:q}(hk:k<=l.length)(h1:aT l k<=t)(h2:t<aT l (k+1)):∀(n i:q),i+n=k->GB l t (bk o l i) (i:m)=p (bk o l k)
 |0,i,hi=>by
  have hi:i=k:=aa;subst hi;have hlen:=h.len;rw[ZQ];simp only[j5b,show B (u l)=(l.length:m) from rfl];by_cases an:i<l.length
  .have e:aT l (i+1)=gm l i:=kI an;rw[bD,ah (show (i:m)<(l.length:m) by omega)];simp only[zd,j6,j8];rw[aj (show¬(l.getD i ((0:m),(0:m))).1<=t by show¬gm l i<=t;omega),j7,aS]
  .rw[aj (show¬(i:m)<(l.length:m) by omega)];simp only[ka,Bool.or_true,j6,j7,aS]
 |n+1,i,hi=>by
  have hlen:=h.len;have an:i<l.length:=aa;have e:aT l (i+1)=gm l i:=kI an;have hle:=h.frm_le (i:=i+1) (j:=k) aa aa;rw[ZQ];simp only[j5b,show B (u l)=(l.length:m) from rfl];rw[bD,ah (show (i:m)<(l.length:m) by omega)];simp only[zd,j6,j8];rw[ah (show (l.getD i ((0:m),(0:m))).1<=t by show gm l i<=t;omega),j6,al,aH];exact Γ hk h1 h2 n (i+1) aa
theorem jAP{nm:w}{rs:D aL}{t:m}{k:q}(hk:k<=l.length)(h1:aT l k<=t)(h2:t<aT l (k+1)):jiI (nm,(o,rs)) l t=p (bk o l k):=by
 have:=Γ h hk h1 h2 k 0 aa;simp only[jiI];rw[show GB l t o 0=_ from this];rfl
theorem Δ{nm:w}{rs:D aL}{d c:m}(hd : -1000000<=d)(gV:d<=1000000)(hc:0<=c)(fA:c<=86399){k:q}(hk:k<=l.length)(hks:d*86400+c-bk o l k<aT l (k+1))
  (hb:∀j,j<k->aT l (j+1)<=d*86400+c-bk o l j):∀(n j:q),j+n=k->wA ((j:m)-1) nm o rs d c l=p (.inl (max (aT l k) (d*86400+c-bk o l k),0))
 |n,j,hj=>by
  have hlen:=h.len;have oE:j<=l.length:=aa;have o1:=h.of0 j oE;have o2:=h.of1 j oE;have an:=h.frm_lt oE
  have key:∀A:E ((m×w×m×D aL×m×m×bC) ⊕ ((m×m) ⊕ Unit)),
    A=(cond (decide (max (aT l j) (d*86400+c-bk o l j)<aT l (j+1))) (p (.inr (.inl (max (aT l j) (d*86400+c-bk o l j),0)))) (p (.inl ((j:m),nm,o,rs,d,c,l))))->
    lpK A (λh=>wA h.1 h.2.1 h.2.2.1 h.2.2.2.1 h.2.2.2.2.1 h.2.2.2.2.2.1 h.2.2.2.2.2.2)=p (.inl (max (aT l k) (d*86400+c-bk o l k),0)):=by
   intro A hA;rw[hA];cases n with
   |zero=>have sU:j=k:=aa;subst sU;rw[ah aa,j6,aS]
   |succ n=>have:=hb j aa;rw[aj aa,j7,aH];have ih:=Δ (nm:=nm) (rs:=rs) hd gV hc fA hk hks hb n (j+1) aa;rwa[show ((j+1:q):m)-1=(j:m) by omega]at ih
  rw[Pv];refine key _ ?_;simp only[j4l,show B (u l)=(l.length:m) from rfl];rw[ah (show (j:m)-1<(l.length:m) by omega)];simp only[show (j:m)-1+1=(j:m) by omega,al (x:=(j:m)),j8];rw[al (x:=d*86400),al (x:=d*86400+c)];have oG:∀a b:m,(if a>b then a else b)=max b a:=λa b=>aa;clear key;cases j with
  |zero=>
   have re:bk o l 0=o:=rfl;have nr:aT l 0=0:=rfl;rw[aj (show¬((0:q):m)-1>=0 by omega)];rw[re]at o1 o2 ⊢;rw[nr];simp only[j6,j7,al (x:=d*86400+c-o),oG];by_cases jH:0<l.length
   .have e:aT l (0+1)=gm l 0:=kI jH;rw[e];rw[ah (show ((0:q):m)<(l.length:m) by omega),bD];rfl
   .have tN:l.length=0:=aa;have e:aT l (0+1)=8589934593:=by have:=nG (l:=l);rwa[tN]at this
    rw[e];rw[aj (show¬((0:q):m)<(l.length:m) by omega)];rfl
  |succ i=>
   have kC:i<l.length:=aa;have re:bk o l (i+1)=(l.getD i ((0:m),(0:m))).2:=rfl;have nr:aT l (i+1)=(l.getD i ((0:m),(0:m))).1:=kI kC;rw[show ((i+1:q):m)-1=(i:m) by omega,ah (show (i:m)>=0 by omega),bD];simp only[j6,j8,<-re,<-nr];rw[al (x:=d*86400+c-bk o l (i+1))];simp only[oG];by_cases jH:i+1<l.length
   .have e:aT l (i+1+1)=(l.getD (i+1) ((0:m),(0:m))).1:=kI jH;rw[ah (show ((i+1:q):m)<(l.length:m) by omega),bD];simp only[j6,<-e]
   .have e:aT l (i+1+1)=8589934593:=by have:=nG (l:=l);rwa[show l.length+1=i+1+1 by omega]at this
    rw[aj (show¬((i+1:q):m)<(l.length:m) by omega),e];rfl
end
theorem jyC{t o:m}(h1 : -864000<=t+o)(h2:t+o<=1000000000000):jkU t o=p ((t+o)/86400,(t+o)%86400):=by
 simp only[jkU];rw[al (x:=t+o),al (x:=t+o+864000),pj aa,uJ aa,al (x:=(t+o+864000)/86400),al];congr 2<;>omega
section
variable{z:w×(m×D aL)}{l:bC}(h:Z4 z l)
include h
theorem jD1{t:m}{k:q}(h0:0<=t)(h1:t<=8589934592)(hk:k<=l.length)(dW:aT l k<=t)(gi:t<aT l (k+1)):jbE z t=p (bk z.2.1 l k,0):=by
 simp only[jbE,show j0j (z.1,(z.2.1,z.2.2))=_ from h.1,j4,jh,j7,oh h0 h1,jl,jAP h.2 hk dW gi]
theorem Ε{t:m}{k:q}(h0:0<=t)(h1:t<=8589934592)(hk:k<=l.length)(dW:aT l k<=t)(gi:t<aT l (k+1)):j3Q z t=p (((t+bk z.2.1 l k)/86400,(t+bk z.2.1 l k)%86400),0):=by
 have o1:=h.2.of0 k hk;have o2:=h.2.of1 k hk;simp only[j3Q,show jbE (z.1,(z.2.1,z.2.2)) t=_ from jD1 h h0 h1 hk dW gi,j4,jh,j7,jyC (show -864000<=t+bk z.2.1 l k by omega) aa]
omit h in
theorem Tq{d:m}(h1 : -2<=d)(h2:d<=99422):jfy d=p true:=by
 simp only[jfy,oh h1 h2,j4]
theorem jyD{d c:m}(hd : -2<=d)(gV:d<=99422)(hc:0<=c)(fA:c<=86399){k:q}(hk:k<=l.length)(hks:d*86400+c-bk z.2.1 l k<aT l (k+1))
  (hb:∀j,j<k->aT l (j+1)<=d*86400+c-bk z.2.1 l j):j5a z (d,c)=p (max (aT l k) (d*86400+c-bk z.2.1 l k),0):=by
 have:=Δ h.2 (nm:=z.1) (rs:=z.2.2) (show -1000000<=d by omega) aa hc fA hk hks hb k 0 aa;simp only[j5a,show j0j (z.1,(z.2.1,z.2.2))=_ from h.1,j4,jh,j7,oh hc fA,jl,Tq hd gV];rw[aj (show¬d < -2 by omega),j7,show wA (-1) z.1 z.2.1 z.2.2 d c l=_ from this];rfl
end
section
variable{o:m}{l:bC}(h:iz o l)
include h
def rf(o:m)(l:bC)(s:m):q->q->D m
 |_,0=>[]
 |j,n+1=>(if tI o l s j then [s-bk o l j] else [])++rf o l s (j+1) n
def jW(o:m)(l:bC)(s:m):D Int:=rf o l s 0 (l.length+1)
omit h in
theorem Lq(s:m):∀n j,(rf o l s j n).length<=n
 |0,_=>by simp[rf]
 |n+1,j=>by
  have:=Lq s n (j+1);simp only[rf];split<;>simp<;>omega
omit h in
theorem jD2{s:m}{j:q}:(cond (decide (s-bk o l j>=aT l j)) (decide (s-bk o l j<aT l (j+1))) false)=decide (tI o l s j):=by
 by_cases h1:aT l j<=s-bk o l j
 .rw[ah (show s-bk o l j>=aT l j from h1),j6];by_cases h2:s-bk o l j<aT l (j+1)
  .rw[ah h2,ah (show tI o l s j from⟨h1,h2⟩)]
  .rw[aj h2,aj (λhs:tI o l s j=>h2 hs.2)]
 .rw[aj (show¬s-bk o l j>=aT l j from h1),j7,aj (λhs:tI o l s j=>h1 hs.1)]
theorem Ζ{nm:w}{rs:D aL}{d c:m}(hd : -1000000<=d)(gV:d<=1000000)(hc:0<=c)(fA:c<=86399):∀(n j:q)(acc:D m),j+n=l.length+1->acc.length<=j->
  AS ((j:m)-1) nm o rs d c l acc=p (acc++rf o l (d*86400+c) j n)
 |0,j,acc,hj,_=>by
  rw[ZW];simp only[j3x,show B (u l)=(l.length:m) from rfl];rw[aj aa,j7,aS];simp[rf]
 |n+1,j,acc,hj,ha=>by
  have hlen:=h.len;have o1:=h.of0 j aa;have o2:=h.of1 j aa
  have key:∀A:E ((m×w×m×D aL×m×m×bC×D m) ⊕ D m),
    A=(cond (decide (tI o l (d*86400+c) j)) (p (.inl ((j:m),nm,o,rs,d,c,l,acc++[d*86400+c-bk o l j]))) (p (.inl ((j:m),nm,o,rs,d,c,l,acc))))->
    lpK A (λh=>AS h.1 h.2.1 h.2.2.1 h.2.2.2.1 h.2.2.2.2.1 h.2.2.2.2.2.1 h.2.2.2.2.2.2.1 h.2.2.2.2.2.2.2)=p (acc++rf o l (d*86400+c) j (n+1)):=by
   intro A hA;rw[hA]
   have ih:∀bI:D m,bI.length<=j+1->AS (j:m) nm o rs d c l bI=p (bI++rf o l (d*86400+c) (j+1) n):=λbI h'=>by
    have:=Ζ (nm:=nm) (rs:=rs) hd gV hc fA n (j+1) bI aa h';rwa[show ((j+1:q):m)-1=(j:m) by omega]at this
   by_cases hs:tI o l (d*86400+c) j
   .rw[ah hs,j6,aH];refine(ih (acc++[d*86400+c-bk o l j]) ax).trans ?_;simp[rf,hs]
   .rw[aj hs,j7,aH];refine(ih acc aa).trans ?_;simp[rf,hs]
  rw[ZW];refine key _ ?_;simp only[j3x,show B (u l)=(l.length:m) from rfl];rw[ah (show (j:m)-1<(l.length:m) by omega)];simp only[show (j:m)-1+1=(j:m) by omega,al (x:=(j:m)),j8];have bU:decide (acc.length+[d*86400+c-bk o l j].length<=aM)=true:=ah (by simp[aM];omega);rw[al (x:=d*86400),al (x:=d*86400+c)];have dB:=jD2 (o:=o) (l:=l) (s:=d*86400+c) (j:=j);cases j with
  |zero=>
   have re:bk o l 0=o:=rfl;have nr:aT l 0=0:=rfl;rw[aj (show¬((0:q):m)-1>=0 by omega)];rw[re]at o1 o2 bU dB ⊢;rw[nr]at dB;simp only[j6,j7,al (x:=d*86400+c-o)];by_cases jH:0<l.length
   .have e:aT l (0+1)=gm l 0:=kI jH;rw[e]at dB;rw[ah (show ((0:q):m)<(l.length:m) by omega),bD];simp only[j6];rw[show (l.getD 0 ((0:m),(0:m))).1=gm l 0 from rfl,dB,bU];rfl
   .have tN:l.length=0:=aa;have e:aT l (0+1)=8589934593:=by have:=nG (l:=l);rwa[tN]at this
    rw[e]at dB;rw[aj (show¬((0:q):m)<(l.length:m) by omega)];simp only[j7];rw[dB,bU];rfl
  |succ i=>
   have kC:i<l.length:=aa;have re:bk o l (i+1)=(l.getD i ((0:m),(0:m))).2:=rfl;have nr:aT l (i+1)=(l.getD i ((0:m),(0:m))).1:=kI kC;rw[show ((i+1:q):m)-1=(i:m) by omega,ah (show (i:m)>=0 by omega),bD];simp only[j6,j8,<-re,<-nr];rw[al (x:=d*86400+c-bk o l (i+1))];by_cases jH:i+1<l.length
   .have e:aT l (i+1+1)=(l.getD (i+1) ((0:m),(0:m))).1:=kI jH;rw[ah (show ((i+1:q):m)<(l.length:m) by omega),bD];simp only[j6,<-e];rw[dB,bU];rfl
   .have e:aT l (i+1+1)=8589934593:=by have:=nG (l:=l);rwa[show l.length+1=i+1+1 by omega]at this
    rw[aj (show¬((i+1:q):m)<(l.length:m) by omega)];rw[e]at dB;simp only[j7];rw[dB,bU];rfl
end
section
variable{z:w×(m×D aL)}{l:bC}(h:Z4 z l)
include h
theorem Η{d c:m}(hd : -2<=d)(gV:d<=99422)(hc:0<=c)(fA:c<=86399):j8d z (d,c)=p (jW z.2.1 l (d*86400+c),0):=by
 have:=Ζ h.2 (nm:=z.1) (rs:=z.2.2) (show -1000000<=d by omega) aa hc fA (l.length+1) 0 [] aa ae;simp only[j8d,show j0j (z.1,(z.2.1,z.2.2))=_ from h.1,j4,jh,j7,oh hc fA,jl,Tq hd gV];rw[show AS (-1) z.1 z.2.1 z.2.2 d c l []=_ from this];rfl
end
def yC(o:m)(l:bC)(s:m):Prop:=∀j,j<=l.length->aT l (j+1)<=s-bk o l j
noncomputable def fO(o:m)(l:bC)(s:m):E Int:=open Classical in if h:∃t k,og o l s t k then p (Classical.choose h) else none
theorem og.uniq{o:m}{l:bC}{s t t':m}{k k':q}(f:og o l s t k)(g:og o l s t' k'):k=k'/\t=t':=by
 have hk:k=k':=by
  rcases yg k k' with an|heq|yA
  .have:=g.bef k an;have:=f.hks;omega
  .exact heq
  .have:=f.bef k' yA;have:=g.hks;omega
 subst hk;exact⟨rfl,by rw[f.ht,g.ht]⟩
theorem wH{o:m}{l:bC}{s t:m}{k:q}(f:og o l s t k):fO o l s=p t:=by
 have he:∃t k,og o l s t k:=⟨t,k,f⟩;unfold fO;rw[dif_pos he];obtain⟨k',g⟩:=Classical.choose_spec he;rw[(g.uniq f).2]
theorem tO{o:m}{l:bC}{s:m}(du:yC o l s):fO o l s=none:=by
 unfold fO;rw[dif_neg]
 rintro⟨t,k,f⟩
 have:=du k f.hk;have:=f.hks;omega
theorem Lr(o:m)(l:bC)(s:m):(∃t k,og o l s t k)\/yC o l s:=by
 by_cases du:yC o l s
 .exact .inr du
 .left
  have:∃j,j<=l.length/\s-bk o l j<aT l (j+1):=by
   apply jt;intro hn
   exact du λj hj=>by
    rcases I (s-bk o l j) (aT l (j+1)) with h|h
    .exact absurd ⟨j,hj,h⟩ hn
    .exact h
  obtain⟨j,hj,hjs⟩:=this;obtain⟨a,⟨ha,haN⟩,oH⟩:=Cx (λj=>s-bk o l j<aT l (j+1)/\j<=l.length) j ⟨hjs,hj⟩;refine⟨_,a,haN,ha,λi hi=>?_,rfl⟩;rcases I (s-bk o l i) (aT l (i+1)) with h'|h'
  .have:=oH i ⟨h',aa⟩;omega
  .exact h'
theorem Ls{o:m}{l:bC}{s t:m}(he:fO o l s=p t):∃k,og o l s t k:=by
 rcases Lr o l s with⟨t',k,f⟩|du
 .rw[wH f]at he;simp at he;subst he;exact⟨k,f⟩
 .rw[tO du]at he;simp at he
section
variable{o:m}{l:bC}(h:iz o l)
include h
theorem Df{s t:m}(he:fO o l s=p t):s<=t+64800/\0<=t/\t<=8589934592:=by
 obtain⟨k,f⟩:=Ls he;obtain⟨p1,p2,p3⟩:=f.piece h;have o1:=h.of1 k f.hk;have g1:=h.frm_le (i:=0) (j:=k) aa (by have:=f.hk;omega);have e0:aT l 0=0:=pk;have e1:aT l (l.length+1)=8589934593:=nG;have g2:=h.frm_le (i:=k+1) (j:=l.length+1) (by have:=f.hk;omega) aa;omega
theorem Tr{s:m}(hs:8589934593+64800<=s):yC o l s:=λj hj=>by
 have o1:=h.of1 j hj;have e1:aT l (l.length+1)=8589934593:=nG;have g2:=h.frm_le (i:=j+1) (j:=l.length+1) aa aa;omega
theorem jFA{s s' t':m}(hs:s<=s')(he:fO o l s'=p t'):∃t,fO o l s=p t/\t<=t':=by
 obtain⟨k',g⟩:=Ls he;have g1:=g.hks;have bQ:=g.hk;rcases Lr o l s with⟨t,k,f⟩|du
 .refine⟨t,wH f,?_⟩;obtain⟨p1,p2,p3⟩:=f.piece h;obtain⟨q1,q2,q3⟩:=g.piece h;have f1:=f.ht;have g2:=g.ht;rcases yg k k' with an|heq|yA
  .have:=h.frm_le (i:=k+1) (j:=k') aa aa;omega
  .subst heq;omega
  .have:=f.bef k' yA;omega
 .have:=du k' bQ;omega
theorem Θ{d c s:m}(kX:j4i (d,c)=p s)(kH : -1000000000000<=s)(oA:s<=1000000000000)(du:yC o l s) :
  ∀(n i:q),i+n=l.length+1->FZ ((l.length+1:q):m) (i:m) d c (r8 o l (l.length+1))=p (.inr ())
 |0,i,hi=>by
  rw[J7];simp only[j1e];rw[aj aa,j7,aS]
 |n+1,i,hi=>by
  have hlen:=h.len;have kC:i<=l.length:=aa;have o1:=h.of0 i kC;have o2:=h.of1 i kC;have hb:=du i kC;have an:=h.frm_lt kC;rw[J7];simp only[j1e];rw[ah (show (i:m)<((l.length+1:q):m) by omega),bY aa (by rw[Bi];omega)];simp only[j6,j8,SJ (show i<l.length+1 by omega),kX,j4,pc];rw[al (x:=s-bk o l i),al (x:=(i:m)+1)];have hm:(if s-bk o l i>aT l i then s-bk o l i else aT l i)=max (aT l i) (s-bk o l i):=by split<;>omega
  rw[hm,aj aa,j7,aH];exact Θ kX kH oA du n (i+1) aa
theorem Ts{d c s:m}(kX:j4i (d,c)=p s)(kH : -1000000000000<=s)(oA:s<=1000000000000)(du:yC o l s):j2P (o,l) (d,c)=p (0,false):=by
 have:=Θ h kX kH oA du (l.length+1) 0 aa;simp only[j2P,_8 h,j4,Bi,show B (u l+1)=((l.length+1:q):m) from rfl];rw[show (0:m)=((0:q):m) from rfl,this];rfl
theorem Ι{d c:m}(hd : -1000000<=d)(gV:d<=1000000000000000)(hc:0<=c)(fA:c<=86399) :
  j2P (o,l) (d,c)=p ((fO o l (d*86400+c)).getD 0,(fO o l (d*86400+c)).isSome):=by
 by_cases hb:d<=1000000
 .rcases Lr o l (d*86400+c) with⟨t,k,f⟩|du
  .have e:=jCS h hd hb aa aa f.hk f.hks f.bef;rw[<-f.ht]at e;rw[wH f];exact e
  .rw[tO du];exact Ts h (SK hd hb aa aa) aa aa du
 .have du:yC o l (d*86400+c):=Tr h aa;rw[tO du];by_cases ib:d<=1048576
  .have kX:j4i (d,c)=p (d*86400+c):=by simp only[j4i];rw[if_neg (show¬(-1048576:m)>d by omega),if_neg (show¬(1048576:m)<d by omega),al (x:=d*86400),al]
   exact Ts h kX aa aa du
  .have kX:j4i (d,c)=p (1048576*86400+c):=by simp only[j4i];rw[if_neg (show¬(-1048576:m)>d by omega),if_pos (show (1048576:m)<d by omega),al (x:=1048576*86400),al]
   exact Ts h kX aa aa (Tr h aa)
theorem Κ{nm:w}{rs:D aL}{d c:m}(hd : -1000000<=d)(gV:d<=1000000)(hc:0<=c)(fA:c<=86399)(du:yC o l (d*86400+c)):∀(n j:q),j+n=l.length+1->
  wA ((j:m)-1) nm o rs d c l=p (.inr ())
 |0,j,hj=>by
  rw[Pv];simp only[j4l,show B (u l)=(l.length:m) from rfl];rw[aj aa,j7,aS]
 |n+1,j,hj=>by
  have hlen:=h.len;have oE:j<=l.length:=aa;have o1:=h.of0 j oE;have o2:=h.of1 j oE;have an:=h.frm_lt oE;have hb:=du j oE;have ih:=Κ (nm:=nm) (rs:=rs) hd gV hc fA du n (j+1) aa;rw[show ((j+1:q):m)-1=(j:m) by omega]at ih
  have key:∀A:E ((m×w×m×D aL×m×m×bC) ⊕ ((m×m) ⊕ Unit)),
    A=(cond (decide (max (aT l j) (d*86400+c-bk o l j)<aT l (j+1))) (p (.inr (.inl (max (aT l j) (d*86400+c-bk o l j),0)))) (p (.inl ((j:m),nm,o,rs,d,c,l))))->
    lpK A (λh=>wA h.1 h.2.1 h.2.2.1 h.2.2.2.1 h.2.2.2.2.1 h.2.2.2.2.2.1 h.2.2.2.2.2.2)=p (.inr ()):=by
   intro A hA;rw[hA,aj aa,j7,aH];exact ih
  rw[Pv];refine key _ ?_;simp only[j4l,show B (u l)=(l.length:m) from rfl];rw[ah (show (j:m)-1<(l.length:m) by omega)];simp only[show (j:m)-1+1=(j:m) by omega,al (x:=(j:m)),j8];rw[al (x:=d*86400),al (x:=d*86400+c)];have oG:∀a b:m,(if a>b then a else b)=max b a:=λa b=>aa;clear key;cases j with
  |zero=>
   have re:bk o l 0=o:=rfl;have nr:aT l 0=0:=rfl;rw[aj (show¬((0:q):m)-1>=0 by omega)];rw[re]at o1 o2 ⊢;rw[nr];simp only[j6,j7,al (x:=d*86400+c-o),oG];by_cases jH:0<l.length
   .have e:aT l (0+1)=gm l 0:=kI jH;rw[e];rw[ah (show ((0:q):m)<(l.length:m) by omega),bD];rfl
   .have tN:l.length=0:=aa;have e:aT l (0+1)=8589934593:=by have:=nG (l:=l);rwa[tN]at this
    rw[e];rw[aj (show¬((0:q):m)<(l.length:m) by omega)];rfl
  |succ i=>
   have kC:i<l.length:=aa;have re:bk o l (i+1)=(l.getD i ((0:m),(0:m))).2:=rfl;have nr:aT l (i+1)=(l.getD i ((0:m),(0:m))).1:=kI kC;rw[show ((i+1:q):m)-1=(i:m) by omega,ah (show (i:m)>=0 by omega),bD];simp only[j6,j8,<-re,<-nr];rw[al (x:=d*86400+c-bk o l (i+1))];simp only[oG];by_cases jH:i+1<l.length
   .have e:aT l (i+1+1)=(l.getD (i+1) ((0:m),(0:m))).1:=kI jH;rw[ah (show ((i+1:q):m)<(l.length:m) by omega),bD];simp only[j6,<-e]
   .have e:aT l (i+1+1)=8589934593:=by have:=nG (l:=l);rwa[show l.length+1=i+1+1 by omega]at this
    rw[aj (show¬((i+1:q):m)<(l.length:m) by omega),e];rfl
end
theorem Tt{z:bF}{l:bC}(h:Z4 z l){d c:m}(hd:1<=d)(hc:0<=c)(fA:c<=86399) :
  j5a z (d,c)=p (match fO z.2.1 l (d*86400+c) with|some t=>(t,0)|none=>(0,10)):=by
 by_cases hb:d<=99422
 .rcases Lr z.2.1 l (d*86400+c) with⟨t,k,f⟩|du
  .have e:=jyD h (d:=d) (c:=c) aa hb hc fA f.hk f.hks f.bef;rw[<-f.ht]at e;rw[wH f];exact e
  .have:=Κ h.2 (nm:=z.1) (rs:=z.2.2) (show -1000000<=d by omega) aa hc fA du (l.length+1) 0 aa;rw[tO du];simp only[j5a,show j0j (z.1,(z.2.1,z.2.2))=_ from h.1,j4,jh,j7,oh hc fA,jl,Tq (show -2<=d by omega) hb];rw[aj (show¬d < -2 by omega),j7,show wA (-1) z.1 z.2.1 z.2.2 d c l=_ from this];rfl
 .rw[tO (Tr h.2 aa)];simp only[j5a,show j0j (z.1,(z.2.1,z.2.2))=_ from h.1,j4,jh,j7,oh hc fA,jl,jfy,jGR (show¬(-2<=d/\d<=99422) by omega)];rw[aj (show¬d < -2 by omega)];rfl
structure Rt(L:bZ):Prop where
 d0:1<=L.2.2.1.1
 d1:L.2.2.1.1<=100000
 c0:0<=L.2.2.1.2
 c1:L.2.2.1.2<=86399
 u0:0<=L.2.2.2.1
 u1:L.2.2.2.1<=2
 e0:1<=L.2.2.2.2.1
 e1:L.2.2.2.2.1<=400
 m0:L.2.2.2.2.2.1≠[]
theorem Rt.step{L:bZ}(h:Rt L):1<=dP L/\dP L<=2800:=by
 have:=h.e0;have:=h.e1;unfold dP;split<;>omega
noncomputable def hO(o:m)(l:bC)(L:bZ)(k:m):E Int:=
 if L.2.2.2.1=0 then (fO o l (dF L 0)).bind λt=>if t+3600*L.2.2.2.2.1*k<=8589934592 then p (t+3600*L.2.2.2.2.1*k) else none
 else fO o l (dF L k)
section
variable{o:m}{l:bC}(ht:iz o l){L:bZ}(h:Rt L)
include ht h
theorem Bs{k t:m}(hk:0<=k)(he:hO o l L k=p t):0<=t/\t<=8589934592/\k<=2386092:=by
 have hs:=h.step;have HA:=h.d0;have uH:=h.e0;have jO:=h.c0;unfold hO at he;by_cases h0:L.2.2.2.1=0
 .rw[if_pos h0]at he;cases hf:fO o l (dF L 0) with
  |none=>rw[hf]at he;simp at he
  |some v=>
   rw[hf]at he;simp only[j4]at he;have hv:=Df ht hf;have hm:3600*k<=3600*L.2.2.2.2.1*k:=zw aa hk;split at he
   .simp at he;omega
   .simp at he
 .rw[if_neg h0]at he;have hv:=Df ht he;have hm:k*1<=k*dP L:=Int.mul_le_mul_of_nonneg_left hs.1 hk;unfold dF at hv;omega
theorem jD4{k t:m}(he:hO o l L (k+1)=p t):∃v,hO o l L k=p v/\v<=t:=by
 have hs:=h.step;have uH:=h.e0;unfold hO at he ⊢;by_cases h0:L.2.2.2.1=0
 .rw[if_pos h0]at he ⊢;cases hf:fO o l (dF L 0) with
  |none=>rw[hf]at he;simp at he
  |some v=>
   rw[hf]at he;simp only[j4]at he ⊢;have hm:3600*L.2.2.2.2.1*(k+1)=3600*L.2.2.2.2.1*k+3600*L.2.2.2.2.1:=by rw[O,R]
   split at he
   .rw[if_pos aa];simp at he;exact⟨_,rfl,aa⟩
   .simp at he
 .rw[if_neg h0]at he ⊢;have hm:(k+1)*dP L=k*dP L+dP L:=by rw[Int.add_mul,Int.one_mul]
  exact jFA ht (by unfold dF;rw[hm];omega) he
def QO(o:m)(l:bC)(L:bZ)(t k:m):Prop:=∃v,hO o l L k=p v/\v<=t
theorem QO.down{t:m}:∀(n:q){k:m},QO o l L t (k+n)->QO o l L t k
 |0,k,hq=>by rwa[show k+((0:q):m)=k by omega]at hq
 |n+1,k,hq=>by
  rw[show k+((n+1:q):m)=k+(n:m)+1 by omega]at hq;obtain⟨v,hv,sV⟩:=hq;obtain⟨v',ig,hl⟩:=jD4 ht h (k:=k+(n:m)) hv;exact QO.down n ⟨v',ig,aa⟩
theorem QO.le{t k j:m}(eV:k<=j)(hq:QO o l L t j):QO o l L t k:=by
 refine QO.down ht h (j-k).toNat ?_;rwa[show k+(((j-k).toNat:q):m)=j by omega]
def kY(o:m)(l:bC)(L:bZ)(t K:m):Prop:=(K = -1/\¬QO o l L t 0)\/(0<=K/\QO o l L t K/\¬QO o l L t (K+1))
theorem kY.uniq{t K K':m}(a:kY o l L t K)(b:kY o l L t K'):K=K':=by
 rcases a with⟨a1,a2⟩|⟨a1,a2,a3⟩<;>rcases b with⟨b1,b2⟩|⟨b1,b2,b3⟩
 .omega
 .exact absurd (QO.le ht h b1 b2) a2
 .exact absurd (QO.le ht h a1 a2) b2
 .rcases Int.lt_trichotomy K K' with an|heq|yA
  .exact absurd (QO.le ht h aa b2) a3
  .exact heq
  .exact absurd (QO.le ht h aa a2) b3
theorem QO.day{t k:m}(h0:L.2.2.2.1≠0)(hq:QO o l L t k){j:q}(hj:j<=l.length):L.2.2.1.1+k*dP L<=(t+bk o l j)/86400+2:=by
 obtain⟨v,hv,sV⟩:=hq;unfold hO at hv;rw[if_neg h0]at hv;have:=Df ht hv;have o0:=ht.of0 j hj;have jO:=h.c0;unfold dF at this;omega
end
theorem Λ{L:bZ}(h:Rt L):jaL L=p (dP L):=by
 have:=h.e0;have:=h.e1;simp only[jaL,dP];by_cases h2:L.2.2.2.1=2
 .rw[dC h2,j6,if_pos h2,al]
 .rw[cj h2,j7,if_neg h2]
def tP(r:E (m×Bool))(x:E m):Prop:=∃v,r=p (v,x.isSome)/\∀t,x=p t->v=t
theorem rh{o:m}{l:bC}(ht:iz o l){L:bZ}(h:Rt L){k:m}(hk:0<=k)(gi:k<=8589934592):tP (j0J (o,l) L k) (hO o l L k):=by
 have hs:=h.step;have HA:=h.d0;have pG:=h.d1;have jO:=h.c0;have eX:=h.c1;have uH:=h.e0;have Ad:=h.e1;have fW:jaL (L.1,L.2.1,(L.2.2.1.1,L.2.2.1.2),L.2.2.2.1,L.2.2.2.2.1,L.2.2.2.2.2.1,L.2.2.2.2.2.2.1,L.2.2.2.2.2.2.2.1,L.2.2.2.2.2.2.2.2)=_:=Λ h;simp only[tP,j0J,fW,j4];rw[aj (show¬k>8589934592 by omega),j7];by_cases h0:L.2.2.2.1=0
 .have hF:=Ι ht (d:=L.2.2.1.1) (c:=L.2.2.1.2) aa aa jO eX;have kH:L.2.2.1.1*86400+L.2.2.1.2=dF L 0:=by unfold dF;omega
  have mS:0<=3600*L.2.2.2.2.1*k:=zq aa hk;have fH:3600*L.2.2.2.2.1*k<=3600*400*8589934592:=yn aa gi hk aa;rw[show (L.2.2.2.1 != 0)=false by rw[h0];rfl,j7,hF,kH];simp only[j4];unfold hO;rw[if_pos h0];cases hf:fO o l (dF L 0) with
  |none=>exact⟨_,rfl,λt h=>by simp at h⟩
  |some v=>
   have hv:=Df ht hf;simp only[v7,va,j6,j4,iH (x:=3600*L.2.2.2.2.1) (show -9223372036854775808<=_ by omega) aa,iH (x:=3600*L.2.2.2.2.1*k) (show -9223372036854775808<=_ by omega) aa,iH (x:=v+3600*L.2.2.2.2.1*k) (show -9223372036854775808<=_ by omega) aa];by_cases hle:v+3600*L.2.2.2.2.1*k<=8589934592
   .rw[if_pos hle,ah hle];exact⟨_,rfl,λt h=>by simpa using h⟩
   .rw[if_neg hle,aj hle];exact⟨_,rfl,λt h=>by simp at h⟩
 .have mS:0<=k*dP L:=zq hk aa;have fH:k*dP L<=8589934592*2800:=yn gi hs.2 aa aa;rw[show (L.2.2.2.1 != 0)=true by simp[h0],j6,al (x:=k*dP L),al (x:=L.2.2.1.1+k*dP L),Ι ht aa aa jO eX];simp only[j4];unfold hO;rw[if_neg h0];exact⟨_,rfl,λt h=>by have h:fO o l ((L.2.2.1.1+k*dP L)*86400+L.2.2.1.2)=p t:=h;rw[h];rfl⟩
theorem HJ{z:bF}{l:bC}(hz:Z4 z l){L:bZ}(h:Rt L){k:m}(hk:0<=k)(gi:k<=8589934592):tP (j7K z L k) (hO z.2.1 l L k):=by
 have hs:=h.step;have HA:=h.d0;have pG:=h.d1;have jO:=h.c0;have eX:=h.c1;have uH:=h.e0;have Ad:=h.e1;have Cj:=h.u1;have hu0:=h.u0;simp only[tP,j7K];have mS:0<=k*L.2.2.2.2.1:=zq hk aa;have fH:k*L.2.2.2.2.1<=8589934592*400:=yn gi aa aa aa;rw[al (x:=k*L.2.2.2.2.1)];by_cases h0:L.2.2.2.1=0
 .have hF:=Tt hz (d:=L.2.2.1.1) (c:=L.2.2.1.2) aa jO eX;have kH:L.2.2.1.1*86400+L.2.2.1.2=dF L 0:=by unfold dF;omega
  rw[dC h0,j6,show j5a (z.1,(z.2.1,z.2.2)) (L.2.2.1.1,L.2.2.1.2)=_ from hF,kH];simp only[j4];have l7:k*L.2.2.2.2.1*3600=3600*L.2.2.2.2.1*k:=by rw[G,G k,H]
  have ik:0<=3600*L.2.2.2.2.1*k:=zq aa hk;have hm3:3600*L.2.2.2.2.1*k<=3600*400*8589934592:=yn aa gi hk aa;rw[l7,al (x:=3600*L.2.2.2.2.1*k)];unfold hO;rw[if_pos h0];cases hf:fO z.2.1 l (dF L 0) with
  |none=>exact⟨_,rfl,λt h=>by simp at h⟩
  |some v=>
   have hv:=Df hz.2 hf;simp only[j4];rw[al (x:=v+3600*L.2.2.2.2.1*k),kq,j6];by_cases hle:v+3600*L.2.2.2.2.1*k<=8589934592
   .rw[if_pos hle,ah hle];exact⟨_,rfl,λt h=>by simpa using h⟩
   .rw[if_neg hle,aj hle];exact⟨_,rfl,λt h=>by simp at h⟩
 .rw[cj h0,j7]
  have fin:∀n:m,n=k*dP L->0<=n->tP ((j5a (z.1,(z.2.1,z.2.2)) (L.2.2.1.1+n,L.2.2.1.2)).bind λr=>p (r.1,(r.2==(0:m)))) (hO z.2.1 l L k):=by
   intro n hn pJ;have hF:=Tt hz (d:=L.2.2.1.1+n) (c:=L.2.2.1.2) aa jO eX;rw[show j5a (z.1,(z.2.1,z.2.2)) (L.2.2.1.1+n,L.2.2.1.2)=_ from hF];unfold hO;rw[if_neg h0];have eP:(L.2.2.1.1+n)*86400+L.2.2.1.2=dF L k:=by rw[hn];rfl
   rw[eP];cases hf:fO z.2.1 l (dF L k) with
   |none=>exact⟨_,rfl,λt h=>by simp at h⟩
   |some v=>exact⟨_,rfl,λt h=>by simpa using h⟩
  by_cases h2:L.2.2.2.1=2
  .have Bt:dP L=7*L.2.2.2.2.1:=by unfold dP;rw[if_pos h2]
   have e1:k*L.2.2.2.2.1*7=k*dP L:=by rw[Bt,H,G L.2.2.2.2.1 7]
   rw[dC h2,j6,al (x:=k*L.2.2.2.2.1*7),al (x:=L.2.2.1.1+k*L.2.2.2.2.1*7)];exact fin _ e1 aa
  .have Bt:dP L=L.2.2.2.2.1:=by unfold dP;rw[if_neg h2]
   rw[cj h2,j7,al (x:=L.2.2.1.1+k*L.2.2.2.2.1)];exact fin _ (by rw[Bt]) mS
theorem Μ{o:m}{l:bC}(ht:iz o l){L:bZ}(h:Rt L){t N:m}(hN:N<=8589934592)(mn:QO o l L t 0):∀n:q,(n:m)<=N->
  ∃k:m,Ke t (n:m) o l L.1 L.2.1 L.2.2.1.1 L.2.2.1.2 L.2.2.2.1 L.2.2.2.2.1 L.2.2.2.2.2.1 L.2.2.2.2.2.2.1 L.2.2.2.2.2.2.2.1 L.2.2.2.2.2.2.2.2=
   p (t,k,o,l,L.1,L.2.1,L.2.2.1.1,L.2.2.1.2,L.2.2.2.1,L.2.2.2.2.1,L.2.2.2.2.2.1,L.2.2.2.2.2.2.1,L.2.2.2.2.2.2.2.1,L.2.2.2.2.2.2.2.2)/\0<=k/\QO o l L t k
 |0,_=>by
  rw[Zf];simp only[j3m];rw[aj aa,j7,aS];exact⟨_,rfl,aa,mn⟩
 |n+1,hn=>by
  obtain⟨k,e,k0,k1⟩:=Μ ht h hN mn n aa;obtain⟨v,hH,hv⟩:=rh ht h (k:=((n+1:q):m)) aa aa;rw[Zf];simp only[j3m];rw[ah aa,j6,show j0J (o,l) (L.1,L.2.1,(L.2.2.1.1,L.2.2.1.2),L.2.2.2.1,L.2.2.2.2.1,L.2.2.2.2.2.1,L.2.2.2.2.2.2.1,L.2.2.2.2.2.2.2.1,L.2.2.2.2.2.2.2.2) ((n+1:q):m)=_ from hH];simp only[j4];rw[al (x:=((n+1:q):m)-1),show ((n+1:q):m)-1=(n:m) by omega];cases hx:hO o l L ((n+1:q):m) with
  |none=>simp only[vu,j7,aH];exact⟨k,e,k0,k1⟩
  |some x=>
   have:=hv x hx;subst this;simp only[va,j6];by_cases hc:v<=t
   .rw[ah hc,j6,aS];exact⟨_,rfl,aa,v,hx,hc⟩
   .rw[aj hc,j7,aH];exact⟨k,e,k0,k1⟩
theorem Ν{o:m}{l:bC}(ht:iz o l){L:bZ}(h:Rt L){t:m}:∀(n:q)(k:m),k+n=2386093->0<=k->QO o l L t k->
  ∃K:m,Kf t k o l L.1 L.2.1 L.2.2.1.1 L.2.2.1.2 L.2.2.2.1 L.2.2.2.2.1 L.2.2.2.2.2.1 L.2.2.2.2.2.2.1 L.2.2.2.2.2.2.2.1 L.2.2.2.2.2.2.2.2=p K/\0<=K/\QO o l L t K/\¬QO o l L t (K+1)
 |0,k,hn,hk,hq=>by
  obtain⟨v,hv,_⟩:=hq;have:=Bs ht h hk hv;omega
 |n+1,k,hn,hk,hq=>by
  obtain⟨v,hH,hv⟩:=rh ht h (k:=k+1) aa aa;rw[jjK];simp only[j4X];rw[al (x:=k+1),show j0J (o,l) (L.1,L.2.1,(L.2.2.1.1,L.2.2.1.2),L.2.2.2.1,L.2.2.2.2.1,L.2.2.2.2.2.1,L.2.2.2.2.2.2.1,L.2.2.2.2.2.2.2.1,L.2.2.2.2.2.2.2.2) (k+1)=_ from hH];simp only[j4];cases hx:hO o l L (k+1) with
  |none=>simp only[vu,ka,j6,aS];exact⟨k,rfl,hk,hq,λ⟨y,hy,_⟩=>by rw[hx]at hy;simp at hy⟩
  |some x=>
   have:=hv x hx;subst this;simp only[va,jl,j7];by_cases hc:v>t
   .rw[ah hc,j6,aS];exact⟨k,rfl,hk,hq,λ⟨y,hy,CH⟩=>by rw[hx]at hy;simp at hy;omega⟩
   .rw[aj hc,j7,aH];exact Ν ht h n (k+1) aa aa ⟨v,hx,aa⟩
theorem Ξ{o:m}{l:bC}{L:bZ}(h:Rt L){t v:m}(h0:L.2.2.2.1=0)(sW:t<=8589934592)(hf:fO o l (dF L 0)=p v)(sV:v<=t)(hv0:0<=v) :
  kY o l L t ((t-v)/(3600*L.2.2.2.2.1))/\0<=(t-v)/(3600*L.2.2.2.2.1)/\(t-v)/(3600*L.2.2.2.2.1)<=8589934592:=by
 have uH:=h.e0;have Ad:=h.e1;have q0:0<=(t-v)/(3600*L.2.2.2.2.1):=yy aa aa;have q1:3600*L.2.2.2.2.1*((t-v)/(3600*L.2.2.2.2.1))<=t-v:=Int.mul_ediv_self_le aa;have q2:t-v<3600*L.2.2.2.2.1*((t-v)/(3600*L.2.2.2.2.1))+3600*L.2.2.2.2.1:=Int.lt_mul_ediv_self_add aa;have q3:(t-v)/(3600*L.2.2.2.2.1)<=t-v:=yp _ aa;generalize (t-v)/(3600*L.2.2.2.2.1)=K at *;refine⟨.inr ⟨q0,⟨v+3600*L.2.2.2.2.1*K,?_,aa⟩,?_⟩,q0,aa⟩
 .unfold hO;rw[if_pos h0,hf];simp only[j4];rw[if_pos aa]
 .rintro⟨y,hy,CH⟩
  unfold hO at hy;rw[if_pos h0,hf]at hy;simp only[j4,O,R]at hy;split at hy
  .simp at hy;omega
  .simp at hy
theorem Ο{o:m}{l:bC}{L:bZ}(h0:L.2.2.2.1=0){v:m}(hv:hO o l L 0=p v):fO o l (dF L 0)=p v:=by
 unfold hO at hv;rw[if_pos h0]at hv;cases hf:fO o l (dF L 0) with
 |none=>rw[hf]at hv;simp at hv
 |some x=>
  rw[hf]at hv;simp only[j4,Int.mul_zero,ze]at hv;split at hv
  .simpa using hv
  .simp at hv
theorem jIj{o:m}{l:bC}(ht:iz o l){L:bZ}(h:Rt L){t:m}(Lt:0<=t)(sW:t<=8589934592):∃K:m,j4b (o,l) L t=p K/\kY o l L t K:=by
 have hs:=h.step;have HA:=h.d0;have pG:=h.d1;have uH:=h.e0;have Ad:=h.e1;obtain⟨v0,hH,hv⟩:=rh ht h (k:=0) aa aa;have fW:jaL (L.1,L.2.1,(L.2.2.1.1,L.2.2.1.2),L.2.2.2.1,L.2.2.2.2.1,L.2.2.2.2.2.1,L.2.2.2.2.2.2.1,L.2.2.2.2.2.2.2.1,L.2.2.2.2.2.2.2.2)=_:=Λ h;simp only[j4b,show j0J (o,l) (L.1,L.2.1,(L.2.2.1.1,L.2.2.1.2),L.2.2.2.1,L.2.2.2.2.1,L.2.2.2.2.2.1,L.2.2.2.2.2.2.1,L.2.2.2.2.2.2.2.1,L.2.2.2.2.2.2.2.2) 0=_ from hH,fW,j4];cases hx:hO o l L 0 with
 |none=>simp only[vu,ka,j6];exact⟨-1,rfl,.inl ⟨rfl,λ⟨y,hy,_⟩=>by rw[hx]at hy;simp at hy⟩⟩
 |some v=>
  have:=hv v hx;subst this;simp only[va,jl,j7];by_cases hc:v0>t
  .rw[ah hc,j6];exact⟨-1,rfl,.inl ⟨rfl,λ⟨y,hy,CH⟩=>by rw[hx]at hy;simp at hy;omega⟩⟩
  .rw[aj hc,j7];have hq:QO o l L t 0:=⟨v0,hx,aa⟩;have Tu:=Bs ht h (k:=0) aa hx;by_cases h0:L.2.2.2.1=0
   .obtain⟨s1,s2,s3⟩:=Ξ (o:=o) (l:=l) h h0 sW (Ο h0 hx) aa Tu.1;rw[dC h0,j6,al (x:=t-v0),al (x:=3600*L.2.2.2.2.1),cj (show¬3600*L.2.2.2.2.1=0 by omega),zp aa,al (x:=(t-v0)/(3600*L.2.2.2.2.1))];exact⟨_,rfl,s1⟩
   .obtain⟨j,hj,j1,j2⟩:=pX ht Lt sW;have o0:=ht.of0 j hj;have o1:=ht.of1 j hj;rw[cj h0,j7,Da ht hj j1 j2];simp only[j4];generalize IU:(t+bk o l j)/86400=ld;rw[cj (show¬dP L=0 by omega),al (x:=ld-L.2.2.1.1)];simp only[ka,j6]
    obtain⟨n,hn,CC⟩:∃n:q,(if w64 (J (ld-L.2.2.1.1) (dP L))>0 then w64 (J (ld-L.2.2.1.1) (dP L)) else 0)=(n:m)/\(n:m)<=8589934592:=by
     by_cases gQ:0<=ld-L.2.2.1.1
     .rw[zp gQ];have q0:0<=(ld-L.2.2.1.1)/dP L:=yy gQ aa;have q1:(ld-L.2.2.1.1)/dP L<=ld-L.2.2.1.1:=yp _ gQ;rw[al];refine⟨((ld-L.2.2.1.1)/dP L).toNat,?_,?_⟩
      .split<;>omega
      .omega
     .have e:J (ld-L.2.2.1.1) (dP L) = -((-(ld-L.2.2.1.1))/dP L):=by rw[<-zp aa,Int.neg_tdiv,Int.neg_neg]
      have q0:0<=(-(ld-L.2.2.1.1))/dP L:=yy aa aa;have q1:(-(ld-L.2.2.1.1))/dP L <= -(ld-L.2.2.1.1):=yp _ aa;rw[e,al,if_neg aa];exact⟨0,rfl,aa⟩
    rw[hn];obtain⟨k,e,k0,k1⟩:=Μ ht h (k7 _) hq n CC;have uD:=k1;obtain⟨y,hy,_⟩:=uD;have cH:=Bs ht h k0 hy;obtain⟨K,e2,K0,K1,K2⟩:=Ν ht h (t:=t) (2386093-k).toNat k aa k0 k1;simp only[e,j4,e2];exact⟨K,rfl,.inr ⟨K0,K1,K2⟩⟩
end Go.Proofs.Pw
