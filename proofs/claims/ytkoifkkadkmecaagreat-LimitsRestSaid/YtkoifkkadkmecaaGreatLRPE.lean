/- iq 4: the iI answers for right o_. -/
import Derived.Test.YtkoifkkadkmecaaGreatLRPD
open _root_ renaming Int->m,Nat->q,ByteArray->w,List->E,Option->F
open Option renaming some->p
open List renaming length->u
open Int renaming ofNat->B,mul_le_mul->D,mul_comm->H,mul_assoc->I,lt_or_le->J,tdiv->M,mul_add->R,mul_one->S
open Go Go.Lft
namespace Go.Proofs.Pw
section
variable{o:m}{l:bI}(h:iU o l)
include h
theorem p_{t:m}{k:q}(hk:k<=l.length)(h1:aR l k<=t)(h2:t<aR l (k+1)):∀(n i:q),i+n=k->F5 l t (bu o l i) (i:m)=p (bu o l k)
 |0,i,hi=>by
  have hi:i=k:=omg_;subst hi;have hlen:=h.len;rw[Za];simp only[j6b,show B (u l)=(l.length:m) from rfl];by_cases aq:i<l.length
  .have e:aR l (i+1)=gg l i:=kG aq;rw[bJ,ah (show (i:m)<(l.length:m) by omega)];simp only[qz,j6,j8];rw[ai (show¬(l.getD i ((0:m),(0:m))).1<=t by show¬gg l i<=t;omega),j7,aP]
  .rw[ai (show¬(i:m)<(l.length:m) by omega)];simp only[jv,Bool.or_true,j6,j7,aP]
 |n+1,i,hi=>by
  have hlen:=h.len;have aq:i<l.length:=omg_;have e:aR l (i+1)=gg l i:=kG aq;have hle:=h.frm_le (i:=i+1) (j:=k) omg_ omg_;rw[Za];simp only[j6b,show B (u l)=(l.length:m) from rfl];rw[bJ,ah (show (i:m)<(l.length:m) by omega)];simp only[qz,j6,j8];rw[ah (show (l.getD i ((0:m),(0:m))).1<=t by show gg l i<=t;omega),j6,aj,aB];exact p_ hk h1 h2 n (i+1) omg_
theorem jAg{nm:w}{rs:E aN}{t:m}{k:q}(hk:k<=l.length)(h1:aR l k<=t)(h2:t<aR l (k+1)):jjb (nm,(o,rs)) l t=p (bu o l k):=by
 have:=p_ h hk h1 h2 k 0 omg_;simp only[jjb];rw[show F5 l t o 0=_ from this];rfl
theorem q_{nm:w}{rs:E aN}{d c:m}(hd : -1000000<=d)(kE:d<=1000000)(hc:0<=c)(gm:c<=86399){k:q}(hk:k<=l.length)(hks:d*86400+c-bu o l k<aR l (k+1))
  (hb:∀j,j<k->aR l (j+1)<=d*86400+c-bu o l j):∀(n j:q),j+n=k->wP ((j:m)-1) nm o rs d c l=p (.inl (max (aR l k) (d*86400+c-bu o l k),0))
 |n,j,hj=>by
  have hlen:=h.len;have mw:j<=l.length:=omg_;have o1:=h.of0 j mw;have o2:=h.of1 j mw;have aq:=h.frm_lt mw
  have key:∀A:F ((m×w×m×E aN×m×m×bI) ⊕ ((m×m) ⊕ Unit)),
    A=(cond (decide (max (aR l j) (d*86400+c-bu o l j)<aR l (j+1))) (p (.inr (.inl (max (aR l j) (d*86400+c-bu o l j),0)))) (p (.inl ((j:m),nm,o,rs,d,c,l))))->
    lpK A (λh=>wP h.1 h.2.1 h.2.2.1 h.2.2.2.1 h.2.2.2.2.1 h.2.2.2.2.2.1 h.2.2.2.2.2.2)=p (.inl (max (aR l k) (d*86400+c-bu o l k),0)):=by
   intro A hA;rw[hA];cases n with
   |zero=>have tg:j=k:=omg_;subst tg;rw[ah omg_,j6,aP]
   |succ n=>have:=hb j omg_;rw[ai omg_,j7,aB];have ih:=q_ (nm:=nm) (rs:=rs) hd kE hc gm hk hks hb n (j+1) omg_;rwa[show ((j+1:q):m)-1=(j:m) by omega]at ih
  rw[OM];refine key _ ?_;simp only[j5e,show B (u l)=(l.length:m) from rfl];rw[ah (show (j:m)-1<(l.length:m) by omega)];simp only[show (j:m)-1+1=(j:m) by omega,aj (x:=(j:m)),j8];rw[aj (x:=d*86400),aj (x:=d*86400+c)];have oM:∀a b:m,(if a>b then a else b)=max b a:=λa b=>omg_;clear key;cases j with
  |zero=>
   have nU:bu o l 0=o:=rfl;have nF:aR l 0=0:=rfl;rw[ai (show¬((0:q):m)-1>=0 by omega)];rw[nU]at o1 o2 ⊢;rw[nF];simp only[j6,j7,aj (x:=d*86400+c-o),oM];by_cases jC:0<l.length
   .have e:aR l (0+1)=gg l 0:=kG jC;rw[e];rw[ah (show ((0:q):m)<(l.length:m) by omega),bJ];rfl
   .have ub:l.length=0:=omg_;have e:aR l (0+1)=8589934593:=by have:=nP (l:=l);rwa[ub]at this
    rw[e];rw[ai (show¬((0:q):m)<(l.length:m) by omega)];rfl
  |succ i=>
   have kC:i<l.length:=omg_;have nU:bu o l (i+1)=(l.getD i ((0:m),(0:m))).2:=rfl;have nF:aR l (i+1)=(l.getD i ((0:m),(0:m))).1:=kG kC;rw[show ((i+1:q):m)-1=(i:m) by omega,ah (show (i:m)>=0 by omega),bJ];simp only[j6,j8,<-nU,<-nF];rw[aj (x:=d*86400+c-bu o l (i+1))];simp only[oM];by_cases jC:i+1<l.length
   .have e:aR l (i+1+1)=(l.getD (i+1) ((0:m),(0:m))).1:=kG jC;rw[ah (show ((i+1:q):m)<(l.length:m) by omega),bJ];simp only[j6,<-e]
   .have e:aR l (i+1+1)=8589934593:=by have:=nP (l:=l);rwa[show l.length+1=i+1+1 by omega]at this
    rw[ai (show¬((i+1:q):m)<(l.length:m) by omega),e];rfl
end
theorem jye{t o:m}(h1 : -864000<=t+o)(h2:t+o<=1000000000000):jlc t o=p ((t+o)/86400,(t+o)%86400):=by
 simp only[jlc];rw[aj (x:=t+o),aj (x:=t+o+864000),rh omg_,yS omg_,aj (x:=(t+o+864000)/86400),aj];congr 2<;>omega
section
variable{z:w×(m×E aN)}{l:bI}(h:Z4 z l)
include h
theorem jCo{t:m}{k:q}(h0:0<=t)(h1:t<=8589934592)(hk:k<=l.length)(dE:aR l k<=t)(gy:t<aR l (k+1)):jcF z t=p (bu z.2.1 l k,0):=by
 simp only[jcF,show j0q (z.1,(z.2.1,z.2.2))=_ from h.1,j4,jk,j7,ow h0 h1,jl,jAg h.2 hk dE gy]
theorem r_{t:m}{k:q}(h0:0<=t)(h1:t<=8589934592)(hk:k<=l.length)(dE:aR l k<=t)(gy:t<aR l (k+1)):j4D z t=p (((t+bu z.2.1 l k)/86400,(t+bu z.2.1 l k)%86400),0):=by
 have o1:=h.2.of0 k hk;have o2:=h.2.of1 k hk;simp only[j4D,show jcF (z.1,(z.2.1,z.2.2)) t=_ from jCo h h0 h1 hk dE gy,j4,jk,j7,jye (show -864000<=t+bu z.2.1 l k by omega) omg_]
omit h in
theorem Se{d:m}(h1 : -2<=d)(h2:d<=99422):jgh d=p true:=by
 simp only[jgh,ow h1 h2,j4]
theorem jyf{d c:m}(hd : -2<=d)(kE:d<=99422)(hc:0<=c)(gm:c<=86399){k:q}(hk:k<=l.length)(hks:d*86400+c-bu z.2.1 l k<aR l (k+1))
  (hb:∀j,j<k->aR l (j+1)<=d*86400+c-bu z.2.1 l j):j6a z (d,c)=p (max (aR l k) (d*86400+c-bu z.2.1 l k),0):=by
 have:=q_ h.2 (nm:=z.1) (rs:=z.2.2) (show -1000000<=d by omega) omg_ hc gm hk hks hb k 0 omg_;simp only[j6a,show j0q (z.1,(z.2.1,z.2.2))=_ from h.1,j4,jk,j7,ow hc gm,jl,Se hd kE];rw[ai (show¬d < -2 by omega),j7,show wP (-1) z.1 z.2.1 z.2.2 d c l=_ from this];rfl
end
section
variable{o:m}{l:bI}(h:iU o l)
include h
def ru(o:m)(l:bI)(s:m):q->q->E m
 |_,0=>[]
 |j,n+1=>(if tV o l s j then [s-bu o l j] else [])++ru o l s (j+1) n
def jQ(o:m)(l:bI)(s:m):E Int:=ru o l s 0 (l.length+1)
omit h in
theorem K4(s:m):∀n j,(ru o l s j n).length<=n
 |0,_=>by simp[ru]
 |n+1,j=>by
  have:=K4 s n (j+1);simp only[ru];split<;>simp<;>omega
omit h in
theorem jCp{s:m}{j:q}:(cond (decide (s-bu o l j>=aR l j)) (decide (s-bu o l j<aR l (j+1))) false)=decide (tV o l s j):=by
 by_cases h1:aR l j<=s-bu o l j
 .rw[ah (show s-bu o l j>=aR l j from h1),j6];by_cases h2:s-bu o l j<aR l (j+1)
  .rw[ah h2,ah (show tV o l s j from⟨h1,h2⟩)]
  .rw[ai h2,ai (λhs:tV o l s j=>h2 hs.2)]
 .rw[ai (show¬s-bu o l j>=aR l j from h1),j7,ai (λhs:tV o l s j=>h1 hs.1)]
theorem s_{nm:w}{rs:E aN}{d c:m}(hd : -1000000<=d)(kE:d<=1000000)(hc:0<=c)(gm:c<=86399):∀(n j:q)(acc:E m),j+n=l.length+1->acc.length<=j->
  Bc ((j:m)-1) nm o rs d c l acc=p (acc++ru o l (d*86400+c) j n)
 |0,j,acc,hj,_=>by
  rw[Zg];simp only[j4j,show B (u l)=(l.length:m) from rfl];rw[ai omg_,j7,aP];simp[ru]
 |n+1,j,acc,hj,ha=>by
  have hlen:=h.len;have o1:=h.of0 j omg_;have o2:=h.of1 j omg_
  have key:∀A:F ((m×w×m×E aN×m×m×bI×E m) ⊕ E m),
    A=(cond (decide (tV o l (d*86400+c) j)) (p (.inl ((j:m),nm,o,rs,d,c,l,acc++[d*86400+c-bu o l j]))) (p (.inl ((j:m),nm,o,rs,d,c,l,acc))))->
    lpK A (λh=>Bc h.1 h.2.1 h.2.2.1 h.2.2.2.1 h.2.2.2.2.1 h.2.2.2.2.2.1 h.2.2.2.2.2.2.1 h.2.2.2.2.2.2.2)=p (acc++ru o l (d*86400+c) j (n+1)):=by
   intro A hA;rw[hA]
   have ih:∀aV:E m,aV.length<=j+1->Bc (j:m) nm o rs d c l aV=p (aV++ru o l (d*86400+c) (j+1) n):=λaV h'=>by
    have:=s_ (nm:=nm) (rs:=rs) hd kE hc gm n (j+1) aV omg_ h';rwa[show ((j+1:q):m)-1=(j:m) by omega]at this
   by_cases hs:tV o l (d*86400+c) j
   .rw[ah hs,j6,aB];refine(ih (acc++[d*86400+c-bu o l j]) sqo_).trans ?_;simp[ru,hs]
   .rw[ai hs,j7,aB];refine(ih acc omg_).trans ?_;simp[ru,hs]
  rw[Zg];refine key _ ?_;simp only[j4j,show B (u l)=(l.length:m) from rfl];rw[ah (show (j:m)-1<(l.length:m) by omega)];simp only[show (j:m)-1+1=(j:m) by omega,aj (x:=(j:m)),j8];have cp:decide (acc.length+[d*86400+c-bu o l j].length<=aG)=true:=ah (by simp[aG];omega);rw[aj (x:=d*86400),aj (x:=d*86400+c)];have dy:=jCp (o:=o) (l:=l) (s:=d*86400+c) (j:=j);cases j with
  |zero=>
   have nU:bu o l 0=o:=rfl;have nF:aR l 0=0:=rfl;rw[ai (show¬((0:q):m)-1>=0 by omega)];rw[nU]at o1 o2 cp dy ⊢;rw[nF]at dy;simp only[j6,j7,aj (x:=d*86400+c-o)];by_cases jC:0<l.length
   .have e:aR l (0+1)=gg l 0:=kG jC;rw[e]at dy;rw[ah (show ((0:q):m)<(l.length:m) by omega),bJ];simp only[j6];rw[show (l.getD 0 ((0:m),(0:m))).1=gg l 0 from rfl,dy,cp];rfl
   .have ub:l.length=0:=omg_;have e:aR l (0+1)=8589934593:=by have:=nP (l:=l);rwa[ub]at this
    rw[e]at dy;rw[ai (show¬((0:q):m)<(l.length:m) by omega)];simp only[j7];rw[dy,cp];rfl
  |succ i=>
   have kC:i<l.length:=omg_;have nU:bu o l (i+1)=(l.getD i ((0:m),(0:m))).2:=rfl;have nF:aR l (i+1)=(l.getD i ((0:m),(0:m))).1:=kG kC;rw[show ((i+1:q):m)-1=(i:m) by omega,ah (show (i:m)>=0 by omega),bJ];simp only[j6,j8,<-nU,<-nF];rw[aj (x:=d*86400+c-bu o l (i+1))];by_cases jC:i+1<l.length
   .have e:aR l (i+1+1)=(l.getD (i+1) ((0:m),(0:m))).1:=kG jC;rw[ah (show ((i+1:q):m)<(l.length:m) by omega),bJ];simp only[j6,<-e];rw[dy,cp];rfl
   .have e:aR l (i+1+1)=8589934593:=by have:=nP (l:=l);rwa[show l.length+1=i+1+1 by omega]at this
    rw[ai (show¬((i+1:q):m)<(l.length:m) by omega)];rw[e]at dy;simp only[j7];rw[dy,cp];rfl
end
section
variable{z:w×(m×E aN)}{l:bI}(h:Z4 z l)
include h
theorem t_{d c:m}(hd : -2<=d)(kE:d<=99422)(hc:0<=c)(gm:c<=86399):j8Z z (d,c)=p (jQ z.2.1 l (d*86400+c),0):=by
 have:=s_ h.2 (nm:=z.1) (rs:=z.2.2) (show -1000000<=d by omega) omg_ hc gm (l.length+1) 0 [] omg_ smp_;simp only[j8Z,show j0q (z.1,(z.2.1,z.2.2))=_ from h.1,j4,jk,j7,ow hc gm,jl,Se hd kE];rw[show Bc (-1) z.1 z.2.1 z.2.2 d c l []=_ from this];rfl
end
def yY(o:m)(l:bI)(s:m):Prop:=∀j,j<=l.length->aR l (j+1)<=s-bu o l j
noncomputable def fO(o:m)(l:bI)(s:m):F Int:=open Classical in if h:∃t k,ov o l s t k then p (Classical.choose h) else none
theorem ov.uniq{o:m}{l:bI}{s t t':m}{k k':q}(f:ov o l s t k)(g:ov o l s t' k'):k=k'/\t=t':=by
 have hk:k=k':=by
  rcases zo k k' with aq|heq|wV
  .have:=g.bef k aq;have:=f.hks;omega
  .exact heq
  .have:=f.bef k' wV;have:=g.hks;omega
 subst hk;exact⟨rfl,by rw[f.ht,g.ht]⟩
theorem wW{o:m}{l:bI}{s t:m}{k:q}(f:ov o l s t k):fO o l s=p t:=by
 have he:∃t k,ov o l s t k:=⟨t,k,f⟩;unfold fO;rw[dif_pos he];obtain⟨k',g⟩:=Classical.choose_spec he;rw[(g.uniq f).2]
theorem uc{o:m}{l:bI}{s:m}(df:yY o l s):fO o l s=none:=by
 unfold fO;rw[dif_neg]
 rintro⟨t,k,f⟩
 have:=df k f.hk;have:=f.hks;omega
theorem K5(o:m)(l:bI)(s:m):(∃t k,ov o l s t k)\/yY o l s:=by
 by_cases df:yY o l s
 .exact .inr df
 .left
  have:∃j,j<=l.length/\s-bu o l j<aR l (j+1):=by
   apply ju;intro hn
   exact df λj hj=>by
    rcases J (s-bu o l j) (aR l (j+1)) with h|h
    .exact absurd ⟨j,hj,h⟩ hn
    .exact h
  obtain⟨j,hj,hjs⟩:=this;obtain⟨a,⟨ha,haN⟩,oQ⟩:=qZ (λj=>s-bu o l j<aR l (j+1)/\j<=l.length) j ⟨hjs,hj⟩;refine⟨_,a,haN,ha,λi hi=>?_,rfl⟩;rcases J (s-bu o l i) (aR l (i+1)) with h'|h'
  .have:=oQ i ⟨h',omg_⟩;omega
  .exact h'
theorem C1{o:m}{l:bI}{s t:m}(he:fO o l s=p t):∃k,ov o l s t k:=by
 rcases K5 o l s with⟨t',k,f⟩|df
 .rw[wW f]at he;simp at he;subst he;exact⟨k,f⟩
 .rw[uc df]at he;simp at he
section
variable{o:m}{l:bI}(h:iU o l)
include h
theorem C2{s t:m}(he:fO o l s=p t):s<=t+64800/\0<=t/\t<=8589934592:=by
 obtain⟨k,f⟩:=C1 he;obtain⟨p1,p2,p3⟩:=f.piece h;have o1:=h.of1 k f.hk;have g1:=h.frm_le (i:=0) (j:=k) omg_ (by have:=f.hk;omega);have e0:aR l 0=0:=pk;have e1:aR l (l.length+1)=8589934593:=nP;have g2:=h.frm_le (i:=k+1) (j:=l.length+1) (by have:=f.hk;omega) omg_;omega
theorem Sf{s:m}(hs:8589934593+64800<=s):yY o l s:=λj hj=>by
 have o1:=h.of1 j hj;have e1:aR l (l.length+1)=8589934593:=nP;have g2:=h.frm_le (i:=j+1) (j:=l.length+1) omg_ omg_;omega
theorem jER{s s' t':m}(hs:s<=s')(he:fO o l s'=p t'):∃t,fO o l s=p t/\t<=t':=by
 obtain⟨k',g⟩:=C1 he;have g1:=g.hks;have bH:=g.hk;rcases K5 o l s with⟨t,k,f⟩|df
 .refine⟨t,wW f,?_⟩;obtain⟨p1,p2,p3⟩:=f.piece h;obtain⟨q1,q2,q3⟩:=g.piece h;have f1:=f.ht;have g2:=g.ht;rcases zo k k' with aq|heq|wV
  .have:=h.frm_le (i:=k+1) (j:=k') omg_ omg_;omega
  .subst heq;omega
  .have:=f.bef k' wV;omega
 .have:=df k' bH;omega
theorem u_{d c s:m}(kZ:j55 (d,c)=p s)(kF : -1000000000000<=s)(nu:s<=1000000000000)(df:yY o l s) :
  ∀(n i:q),i+n=l.length+1->Fe ((l.length+1:q):m) (i:m) d c (sj o l (l.length+1))=p (.inr ())
 |0,i,hi=>by
  rw[Jk];simp only[j1K];rw[ai omg_,j7,aP]
 |n+1,i,hi=>by
  have hlen:=h.len;have kC:i<=l.length:=omg_;have o1:=h.of0 i kC;have o2:=h.of1 i kC;have hb:=df i kC;have aq:=h.frm_lt kC;rw[Jk];simp only[j1K];rw[ah (show (i:m)<((l.length+1:q):m) by omega),bA omg_ (by rw[Bj];omega)];simp only[j6,j8,RH (show i<l.length+1 by omega),kZ,j4,pc];rw[aj (x:=s-bu o l i),aj (x:=(i:m)+1)];have hm:(if s-bu o l i>aR l i then s-bu o l i else aR l i)=max (aR l i) (s-bu o l i):=by split<;>omega
  rw[hm,ai omg_,j7,aB];exact u_ kZ kF nu df n (i+1) omg_
theorem Sh{d c s:m}(kZ:j55 (d,c)=p s)(kF : -1000000000000<=s)(nu:s<=1000000000000)(df:yY o l s):j3z (o,l) (d,c)=p (0,false):=by
 have:=u_ h kZ kF nu df (l.length+1) 0 omg_;simp only[j3z,_x h,j4,Bj,show B (u l+1)=((l.length+1:q):m) from rfl];rw[show (0:m)=((0:q):m) from rfl,this];rfl
theorem v_{d c:m}(hd : -1000000<=d)(kE:d<=1000000000000000)(hc:0<=c)(gm:c<=86399) :
  j3z (o,l) (d,c)=p ((fO o l (d*86400+c)).getD 0,(fO o l (d*86400+c)).isSome):=by
 by_cases hb:d<=1000000
 .rcases K5 o l (d*86400+c) with⟨t,k,f⟩|df
  .have e:=jCf h hd hb omg_ omg_ f.hk f.hks f.bef;rw[<-f.ht]at e;rw[wW f];exact e
  .rw[uc df];exact Sh h (jmp hd hb omg_ omg_) omg_ omg_ df
 .have df:yY o l (d*86400+c):=Sf h omg_;rw[uc df];by_cases fv:d<=1048576
  .have kZ:j55 (d,c)=p (d*86400+c):=by simp only[j55];rw[if_neg (show¬(-1048576:m)>d by omega),if_neg (show¬(1048576:m)<d by omega),aj (x:=d*86400),aj]
   exact Sh h kZ omg_ omg_ df
  .have kZ:j55 (d,c)=p (1048576*86400+c):=by simp only[j55];rw[if_neg (show¬(-1048576:m)>d by omega),if_pos (show (1048576:m)<d by omega),aj (x:=1048576*86400),aj]
   exact Sh h kZ omg_ omg_ (Sf h omg_)
theorem w_{nm:w}{rs:E aN}{d c:m}(hd : -1000000<=d)(kE:d<=1000000)(hc:0<=c)(gm:c<=86399)(df:yY o l (d*86400+c)):∀(n j:q),j+n=l.length+1->
  wP ((j:m)-1) nm o rs d c l=p (.inr ())
 |0,j,hj=>by
  rw[OM];simp only[j5e,show B (u l)=(l.length:m) from rfl];rw[ai omg_,j7,aP]
 |n+1,j,hj=>by
  have hlen:=h.len;have mw:j<=l.length:=omg_;have o1:=h.of0 j mw;have o2:=h.of1 j mw;have aq:=h.frm_lt mw;have hb:=df j mw;have ih:=w_ (nm:=nm) (rs:=rs) hd kE hc gm df n (j+1) omg_;rw[show ((j+1:q):m)-1=(j:m) by omega]at ih
  have key:∀A:F ((m×w×m×E aN×m×m×bI) ⊕ ((m×m) ⊕ Unit)),
    A=(cond (decide (max (aR l j) (d*86400+c-bu o l j)<aR l (j+1))) (p (.inr (.inl (max (aR l j) (d*86400+c-bu o l j),0)))) (p (.inl ((j:m),nm,o,rs,d,c,l))))->
    lpK A (λh=>wP h.1 h.2.1 h.2.2.1 h.2.2.2.1 h.2.2.2.2.1 h.2.2.2.2.2.1 h.2.2.2.2.2.2)=p (.inr ()):=by
   intro A hA;rw[hA,ai omg_,j7,aB];exact ih
  rw[OM];refine key _ ?_;simp only[j5e,show B (u l)=(l.length:m) from rfl];rw[ah (show (j:m)-1<(l.length:m) by omega)];simp only[show (j:m)-1+1=(j:m) by omega,aj (x:=(j:m)),j8];rw[aj (x:=d*86400),aj (x:=d*86400+c)];have oM:∀a b:m,(if a>b then a else b)=max b a:=λa b=>omg_;clear key;cases j with
  |zero=>
   have nU:bu o l 0=o:=rfl;have nF:aR l 0=0:=rfl;rw[ai (show¬((0:q):m)-1>=0 by omega)];rw[nU]at o1 o2 ⊢;rw[nF];simp only[j6,j7,aj (x:=d*86400+c-o),oM];by_cases jC:0<l.length
   .have e:aR l (0+1)=gg l 0:=kG jC;rw[e];rw[ah (show ((0:q):m)<(l.length:m) by omega),bJ];rfl
   .have ub:l.length=0:=omg_;have e:aR l (0+1)=8589934593:=by have:=nP (l:=l);rwa[ub]at this
    rw[e];rw[ai (show¬((0:q):m)<(l.length:m) by omega)];rfl
  |succ i=>
   have kC:i<l.length:=omg_;have nU:bu o l (i+1)=(l.getD i ((0:m),(0:m))).2:=rfl;have nF:aR l (i+1)=(l.getD i ((0:m),(0:m))).1:=kG kC;rw[show ((i+1:q):m)-1=(i:m) by omega,ah (show (i:m)>=0 by omega),bJ];simp only[j6,j8,<-nU,<-nF];rw[aj (x:=d*86400+c-bu o l (i+1))];simp only[oM];by_cases jC:i+1<l.length
   .have e:aR l (i+1+1)=(l.getD (i+1) ((0:m),(0:m))).1:=kG jC;rw[ah (show ((i+1:q):m)<(l.length:m) by omega),bJ];simp only[j6,<-e]
   .have e:aR l (i+1+1)=8589934593:=by have:=nP (l:=l);rwa[show l.length+1=i+1+1 by omega]at this
    rw[ai (show¬((i+1:q):m)<(l.length:m) by omega),e];rfl
end
theorem Si{z:bF}{l:bI}(h:Z4 z l){d c:m}(hd:1<=d)(hc:0<=c)(gm:c<=86399) :
  j6a z (d,c)=p (match fO z.2.1 l (d*86400+c) with|some t=>(t,0)|none=>(0,10)):=by
 by_cases hb:d<=99422
 .rcases K5 z.2.1 l (d*86400+c) with⟨t,k,f⟩|df
  .have e:=jyf h (d:=d) (c:=c) omg_ hb hc gm f.hk f.hks f.bef;rw[<-f.ht]at e;rw[wW f];exact e
  .have:=w_ h.2 (nm:=z.1) (rs:=z.2.2) (show -1000000<=d by omega) omg_ hc gm df (l.length+1) 0 omg_;rw[uc df];simp only[j6a,show j0q (z.1,(z.2.1,z.2.2))=_ from h.1,j4,jk,j7,ow hc gm,jl,Se (show -2<=d by omega) hb];rw[ai (show¬d < -2 by omega),j7,show wP (-1) z.1 z.2.1 z.2.2 d c l=_ from this];rfl
 .rw[uc (Sf h.2 omg_)];simp only[j6a,show j0q (z.1,(z.2.1,z.2.2))=_ from h.1,j4,jk,j7,ow hc gm,jl,jgh,jGd (show¬(-2<=d/\d<=99422) by omega)];rw[ai (show¬d < -2 by omega)];rfl
structure Rt(L:bP):Prop where
 d0:1<=L.2.2.1.1
 d1:L.2.2.1.1<=100000
 c0:0<=L.2.2.1.2
 c1:L.2.2.1.2<=86399
 u0:0<=L.2.2.2.1
 u1:L.2.2.2.1<=2
 e0:1<=L.2.2.2.2.1
 e1:L.2.2.2.2.1<=400
 m0:L.2.2.2.2.2.1≠[]
theorem Rt.step{L:bP}(h:Rt L):1<=di L/\di L<=2800:=by
 have:=h.e0;have:=h.e1;unfold di;split<;>omega
noncomputable def hO(o:m)(l:bI)(L:bP)(k:m):F Int:=
 if L.2.2.2.1=0 then (fO o l (cM L 0)).bind λt=>if t+3600*L.2.2.2.2.1*k<=8589934592 then p (t+3600*L.2.2.2.2.1*k) else none
 else fO o l (cM L k)
section
variable{o:m}{l:bI}(ht:iU o l){L:bP}(h:Rt L)
include ht h
theorem Bu{k t:m}(hk:0<=k)(he:hO o l L k=p t):0<=t/\t<=8589934592/\k<=2386092:=by
 have hs:=h.step;have GR:=h.d0;have tL:=h.e0;have jB:=h.c0;unfold hO at he;by_cases h0:L.2.2.2.1=0
 .rw[if_pos h0]at he;cases hf:fO o l (cM L 0) with
  |none=>rw[hf]at he;simp at he
  |some v=>
   rw[hf]at he;simp only[j4]at he;have hv:=C2 ht hf;have hm:3600*k<=3600*L.2.2.2.2.1*k:=Int.mul_le_mul_of_nonneg_right omg_ hk;split at he
   .simp at he;omega
   .simp at he
 .rw[if_neg h0]at he;have hv:=C2 ht he;have hm:k*1<=k*di L:=Int.mul_le_mul_of_nonneg_left hs.1 hk;unfold cM at hv;omega
theorem jCq{k t:m}(he:hO o l L (k+1)=p t):∃v,hO o l L k=p v/\v<=t:=by
 have hs:=h.step;have tL:=h.e0;unfold hO at he ⊢;by_cases h0:L.2.2.2.1=0
 .rw[if_pos h0]at he ⊢;cases hf:fO o l (cM L 0) with
  |none=>rw[hf]at he;simp at he
  |some v=>
   rw[hf]at he;simp only[j4]at he ⊢;have hm:3600*L.2.2.2.2.1*(k+1)=3600*L.2.2.2.2.1*k+3600*L.2.2.2.2.1:=by rw[R,S]
   split at he
   .rw[if_pos omg_];simp at he;exact⟨_,rfl,omg_⟩
   .simp at he
 .rw[if_neg h0]at he ⊢;have hm:(k+1)*di L=k*di L+di L:=by rw[Int.add_mul,Int.one_mul]
  exact jER ht (by unfold cM;rw[hm];omega) he
def QO(o:m)(l:bI)(L:bP)(t k:m):Prop:=∃v,hO o l L k=p v/\v<=t
theorem QO.down{t:m}:∀(n:q){k:m},QO o l L t (k+n)->QO o l L t k
 |0,k,hq=>by rwa[show k+((0:q):m)=k by omega]at hq
 |n+1,k,hq=>by
  rw[show k+((n+1:q):m)=k+(n:m)+1 by omega]at hq;obtain⟨v,hv,wj⟩:=hq;obtain⟨v',h9,hl⟩:=jCq ht h (k:=k+(n:m)) hv;exact QO.down n ⟨v',h9,omg_⟩
theorem QO.le{t k j:m}(dZ:k<=j)(hq:QO o l L t j):QO o l L t k:=by
 refine QO.down ht h (j-k).toNat ?_;rwa[show k+(((j-k).toNat:q):m)=j by omega]
def jR(o:m)(l:bI)(L:bP)(t K:m):Prop:=(K = -1/\¬QO o l L t 0)\/(0<=K/\QO o l L t K/\¬QO o l L t (K+1))
theorem jR.uniq{t K K':m}(a:jR o l L t K)(b:jR o l L t K'):K=K':=by
 rcases a with⟨a1,a2⟩|⟨a1,a2,a3⟩<;>rcases b with⟨b1,b2⟩|⟨b1,b2,b3⟩
 .omega
 .exact absurd (QO.le ht h b1 b2) a2
 .exact absurd (QO.le ht h a1 a2) b2
 .rcases Int.lt_trichotomy K K' with aq|heq|wV
  .exact absurd (QO.le ht h omg_ b2) a3
  .exact heq
  .exact absurd (QO.le ht h omg_ a2) b3
theorem QO.day{t k:m}(h0:L.2.2.2.1≠0)(hq:QO o l L t k){j:q}(hj:j<=l.length):L.2.2.1.1+k*di L<=(t+bu o l j)/86400+2:=by
 obtain⟨v,hv,wj⟩:=hq;unfold hO at hv;rw[if_neg h0]at hv;have:=C2 ht hv;have o0:=ht.of0 j hj;have jB:=h.c0;unfold cM at this;omega
end
theorem x_{L:bP}(h:Rt L):jbJ L=p (di L):=by
 have:=h.e0;have:=h.e1;simp only[jbJ,di];by_cases h2:L.2.2.2.1=2
 .rw[cR h2,j6,if_pos h2,aj]
 .rw[ca h2,j7,if_neg h2]
def ud(r:F (m×Bool))(x:F m):Prop:=∃v,r=p (v,x.isSome)/\∀t,x=p t->v=t
theorem rv{o:m}{l:bI}(ht:iU o l){L:bP}(h:Rt L){k:m}(hk:0<=k)(gy:k<=8589934592):ud (j15 (o,l) L k) (hO o l L k):=by
 have hs:=h.step;have GR:=h.d0;have rU:=h.d1;have jB:=h.c0;have fL:=h.c1;have tL:=h.e0;have As:=h.e1;have eY:jbJ (L.1,L.2.1,(L.2.2.1.1,L.2.2.1.2),L.2.2.2.1,L.2.2.2.2.1,L.2.2.2.2.2.1,L.2.2.2.2.2.2.1,L.2.2.2.2.2.2.2.1,L.2.2.2.2.2.2.2.2)=_:=x_ h;simp only[ud,j15,eY,j4];rw[ai (show¬k>8589934592 by omega),j7];by_cases h0:L.2.2.2.1=0
 .have hF:=v_ ht (d:=L.2.2.1.1) (c:=L.2.2.1.2) omg_ omg_ jB fL;have kF:L.2.2.1.1*86400+L.2.2.1.2=cM L 0:=by unfold cM;omega
  have gF:0<=3600*L.2.2.2.2.1*k:=yy omg_ hk;have fw:3600*L.2.2.2.2.1*k<=3600*400*8589934592:=D omg_ gy hk omg_;rw[show (L.2.2.2.1 != 0)=false by rw[h0];rfl,j7,hF,kF];simp only[j4];unfold hO;rw[if_pos h0];cases hf:fO o l (cM L 0) with
  |none=>exact⟨_,rfl,λt h=>by simp at h⟩
  |some v=>
   have hv:=C2 ht hf;simp only[qd,zm,j6,j4,gY (x:=3600*L.2.2.2.2.1) (show -9223372036854775808<=_ by omega) omg_,gY (x:=3600*L.2.2.2.2.1*k) (show -9223372036854775808<=_ by omega) omg_,gY (x:=v+3600*L.2.2.2.2.1*k) (show -9223372036854775808<=_ by omega) omg_];by_cases hle:v+3600*L.2.2.2.2.1*k<=8589934592
   .rw[if_pos hle,ah hle];exact⟨_,rfl,λt h=>by simpa using h⟩
   .rw[if_neg hle,ai hle];exact⟨_,rfl,λt h=>by simp at h⟩
 .have gF:0<=k*di L:=yy hk omg_;have fw:k*di L<=8589934592*2800:=D gy hs.2 omg_ omg_;rw[show (L.2.2.2.1 != 0)=true by simp[h0],j6,aj (x:=k*di L),aj (x:=L.2.2.1.1+k*di L),v_ ht omg_ omg_ jB fL];simp only[j4];unfold hO;rw[if_neg h0];exact⟨_,rfl,λt h=>by have h:fO o l ((L.2.2.1.1+k*di L)*86400+L.2.2.1.2)=p t:=h;rw[h];rfl⟩
theorem G1{z:bF}{l:bI}(hz:Z4 z l){L:bP}(h:Rt L){k:m}(hk:0<=k)(gy:k<=8589934592):ud (j8C z L k) (hO z.2.1 l L k):=by
 have hs:=h.step;have GR:=h.d0;have rU:=h.d1;have jB:=h.c0;have fL:=h.c1;have tL:=h.e0;have As:=h.e1;have Vt:=h.u1;have hu0:=h.u0;simp only[ud,j8C];have gF:0<=k*L.2.2.2.2.1:=yy hk omg_;have fw:k*L.2.2.2.2.1<=8589934592*400:=D gy omg_ omg_ omg_;rw[aj (x:=k*L.2.2.2.2.1)];by_cases h0:L.2.2.2.1=0
 .have hF:=Si hz (d:=L.2.2.1.1) (c:=L.2.2.1.2) omg_ jB fL;have kF:L.2.2.1.1*86400+L.2.2.1.2=cM L 0:=by unfold cM;omega
  rw[cR h0,j6,show j6a (z.1,(z.2.1,z.2.2)) (L.2.2.1.1,L.2.2.1.2)=_ from hF,kF];simp only[j4];have ml:k*L.2.2.2.2.1*3600=3600*L.2.2.2.2.1*k:=by rw[H,H k,I]
  have iQ:0<=3600*L.2.2.2.2.1*k:=yy omg_ hk;have y_:3600*L.2.2.2.2.1*k<=3600*400*8589934592:=D omg_ gy hk omg_;rw[ml,aj (x:=3600*L.2.2.2.2.1*k)];unfold hO;rw[if_pos h0];cases hf:fO z.2.1 l (cM L 0) with
  |none=>exact⟨_,rfl,λt h=>by simp at h⟩
  |some v=>
   have hv:=C2 hz.2 hf;simp only[j4];rw[aj (x:=v+3600*L.2.2.2.2.1*k),qs,j6];by_cases hle:v+3600*L.2.2.2.2.1*k<=8589934592
   .rw[if_pos hle,ah hle];exact⟨_,rfl,λt h=>by simpa using h⟩
   .rw[if_neg hle,ai hle];exact⟨_,rfl,λt h=>by simp at h⟩
 .rw[ca h0,j7]
  have fin:∀n:m,n=k*di L->0<=n->ud ((j6a (z.1,(z.2.1,z.2.2)) (L.2.2.1.1+n,L.2.2.1.2)).bind λr=>p (r.1,(r.2==(0:m)))) (hO z.2.1 l L k):=by
   intro n hn oh;have hF:=Si hz (d:=L.2.2.1.1+n) (c:=L.2.2.1.2) omg_ jB fL;rw[show j6a (z.1,(z.2.1,z.2.2)) (L.2.2.1.1+n,L.2.2.1.2)=_ from hF];unfold hO;rw[if_neg h0];have dS:(L.2.2.1.1+n)*86400+L.2.2.1.2=cM L k:=by rw[hn];rfl
   rw[dS];cases hf:fO z.2.1 l (cM L k) with
   |none=>exact⟨_,rfl,λt h=>by simp at h⟩
   |some v=>exact⟨_,rfl,λt h=>by simpa using h⟩
  by_cases h2:L.2.2.2.1=2
  .have Bv:di L=7*L.2.2.2.2.1:=by unfold di;rw[if_pos h2]
   have e1:k*L.2.2.2.2.1*7=k*di L:=by rw[Bv,I,H L.2.2.2.2.1 7]
   rw[cR h2,j6,aj (x:=k*L.2.2.2.2.1*7),aj (x:=L.2.2.1.1+k*L.2.2.2.2.1*7)];exact fin _ e1 omg_
  .have Bv:di L=L.2.2.2.2.1:=by unfold di;rw[if_neg h2]
   rw[ca h2,j7,aj (x:=L.2.2.1.1+k*L.2.2.2.2.1)];exact fin _ (by rw[Bv]) gF
theorem z_{o:m}{l:bI}(ht:iU o l){L:bP}(h:Rt L){t N:m}(hN:N<=8589934592)(mJ:QO o l L t 0):∀n:q,(n:m)<=N->
  ∃k:m,Jq t (n:m) o l L.1 L.2.1 L.2.2.1.1 L.2.2.1.2 L.2.2.2.1 L.2.2.2.2.1 L.2.2.2.2.2.1 L.2.2.2.2.2.2.1 L.2.2.2.2.2.2.2.1 L.2.2.2.2.2.2.2.2=
   p (t,k,o,l,L.1,L.2.1,L.2.2.1.1,L.2.2.1.2,L.2.2.2.1,L.2.2.2.2.1,L.2.2.2.2.2.1,L.2.2.2.2.2.2.1,L.2.2.2.2.2.2.2.1,L.2.2.2.2.2.2.2.2)/\0<=k/\QO o l L t k
 |0,_=>by
  rw[X9];simp only[j44];rw[ai omg_,j7,aP];exact⟨_,rfl,omg_,mJ⟩
 |n+1,hn=>by
  obtain⟨k,e,k0,k1⟩:=z_ ht h hN mJ n omg_;obtain⟨v,hH,hv⟩:=rv ht h (k:=((n+1:q):m)) omg_ omg_;rw[X9];simp only[j44];rw[ah omg_,j6,show j15 (o,l) (L.1,L.2.1,(L.2.2.1.1,L.2.2.1.2),L.2.2.2.1,L.2.2.2.2.1,L.2.2.2.2.2.1,L.2.2.2.2.2.2.1,L.2.2.2.2.2.2.2.1,L.2.2.2.2.2.2.2.2) ((n+1:q):m)=_ from hH];simp only[j4];rw[aj (x:=((n+1:q):m)-1),show ((n+1:q):m)-1=(n:m) by omega];cases hx:hO o l L ((n+1:q):m) with
  |none=>simp only[v8,j7,aB];exact⟨k,e,k0,k1⟩
  |some x=>
   have:=hv x hx;subst this;simp only[zm,j6];by_cases hc:v<=t
   .rw[ah hc,j6,aP];exact⟨_,rfl,omg_,v,hx,hc⟩
   .rw[ai hc,j7,aB];exact⟨k,e,k0,k1⟩
theorem A_{o:m}{l:bI}(ht:iU o l){L:bP}(h:Rt L){t:m}:∀(n:q)(k:m),k+n=2386093->0<=k->QO o l L t k->
  ∃K:m,Jr t k o l L.1 L.2.1 L.2.2.1.1 L.2.2.1.2 L.2.2.2.1 L.2.2.2.2.1 L.2.2.2.2.2.1 L.2.2.2.2.2.2.1 L.2.2.2.2.2.2.2.1 L.2.2.2.2.2.2.2.2=p K/\0<=K/\QO o l L t K/\¬QO o l L t (K+1)
 |0,k,hn,hk,hq=>by
  obtain⟨v,hv,_⟩:=hq;have:=Bu ht h hk hv;omega
 |n+1,k,hn,hk,hq=>by
  obtain⟨v,hH,hv⟩:=rv ht h (k:=k+1) omg_ omg_;rw[jk2];simp only[j5Y];rw[aj (x:=k+1),show j15 (o,l) (L.1,L.2.1,(L.2.2.1.1,L.2.2.1.2),L.2.2.2.1,L.2.2.2.2.1,L.2.2.2.2.2.1,L.2.2.2.2.2.2.1,L.2.2.2.2.2.2.2.1,L.2.2.2.2.2.2.2.2) (k+1)=_ from hH];simp only[j4];cases hx:hO o l L (k+1) with
  |none=>simp only[v8,jv,j6,aP];exact⟨k,rfl,hk,hq,λ⟨y,hy,_⟩=>by rw[hx]at hy;simp at hy⟩
  |some x=>
   have:=hv x hx;subst this;simp only[zm,jl,j7];by_cases hc:v>t
   .rw[ah hc,j6,aP];exact⟨k,rfl,hk,hq,λ⟨y,hy,Cw⟩=>by rw[hx]at hy;simp at hy;omega⟩
   .rw[ai hc,j7,aB];exact A_ ht h n (k+1) omg_ omg_ ⟨v,hx,omg_⟩
theorem B_{o:m}{l:bI}{L:bP}(h:Rt L){t v:m}(h0:L.2.2.2.1=0)(tj:t<=8589934592)(hf:fO o l (cM L 0)=p v)(wj:v<=t)(hv0:0<=v) :
  jR o l L t ((t-v)/(3600*L.2.2.2.2.1))/\0<=(t-v)/(3600*L.2.2.2.2.1)/\(t-v)/(3600*L.2.2.2.2.1)<=8589934592:=by
 have tL:=h.e0;have As:=h.e1;have q0:0<=(t-v)/(3600*L.2.2.2.2.1):=yt omg_ omg_;have q1:3600*L.2.2.2.2.1*((t-v)/(3600*L.2.2.2.2.1))<=t-v:=Int.mul_ediv_self_le omg_;have q2:t-v<3600*L.2.2.2.2.1*((t-v)/(3600*L.2.2.2.2.1))+3600*L.2.2.2.2.1:=Int.lt_mul_ediv_self_add omg_;have q3:(t-v)/(3600*L.2.2.2.2.1)<=t-v:=yh _ omg_;generalize (t-v)/(3600*L.2.2.2.2.1)=K at *;refine⟨.inr ⟨q0,⟨v+3600*L.2.2.2.2.1*K,?_,omg_⟩,?_⟩,q0,omg_⟩
 .unfold hO;rw[if_pos h0,hf];simp only[j4];rw[if_pos omg_]
 .rintro⟨y,hy,Cw⟩
  unfold hO at hy;rw[if_pos h0,hf]at hy;simp only[j4,R,S]at hy;split at hy
  .simp at hy;omega
  .simp at hy
theorem C_{o:m}{l:bI}{L:bP}(h0:L.2.2.2.1=0){v:m}(hv:hO o l L 0=p v):fO o l (cM L 0)=p v:=by
 unfold hO at hv;rw[if_pos h0]at hv;cases hf:fO o l (cM L 0) with
 |none=>rw[hf]at hv;simp at hv
 |some x=>
  rw[hf]at hv;simp only[j4,Int.mul_zero,Int.add_zero]at hv;split at hv
  .simpa using hv
  .simp at hv
theorem jHM{o:m}{l:bI}(ht:iU o l){L:bP}(h:Rt L){t:m}(K6:0<=t)(tj:t<=8589934592):∃K:m,j4W (o,l) L t=p K/\jR o l L t K:=by
 have hs:=h.step;have GR:=h.d0;have rU:=h.d1;have tL:=h.e0;have As:=h.e1;obtain⟨v0,hH,hv⟩:=rv ht h (k:=0) omg_ omg_;have eY:jbJ (L.1,L.2.1,(L.2.2.1.1,L.2.2.1.2),L.2.2.2.1,L.2.2.2.2.1,L.2.2.2.2.2.1,L.2.2.2.2.2.2.1,L.2.2.2.2.2.2.2.1,L.2.2.2.2.2.2.2.2)=_:=x_ h;simp only[j4W,show j15 (o,l) (L.1,L.2.1,(L.2.2.1.1,L.2.2.1.2),L.2.2.2.1,L.2.2.2.2.1,L.2.2.2.2.2.1,L.2.2.2.2.2.2.1,L.2.2.2.2.2.2.2.1,L.2.2.2.2.2.2.2.2) 0=_ from hH,eY,j4];cases hx:hO o l L 0 with
 |none=>simp only[v8,jv,j6];exact⟨-1,rfl,.inl ⟨rfl,λ⟨y,hy,_⟩=>by rw[hx]at hy;simp at hy⟩⟩
 |some v=>
  have:=hv v hx;subst this;simp only[zm,jl,j7];by_cases hc:v0>t
  .rw[ah hc,j6];exact⟨-1,rfl,.inl ⟨rfl,λ⟨y,hy,Cw⟩=>by rw[hx]at hy;simp at hy;omega⟩⟩
  .rw[ai hc,j7];have hq:QO o l L t 0:=⟨v0,hx,omg_⟩;have Sj:=Bu ht h (k:=0) omg_ hx;by_cases h0:L.2.2.2.1=0
   .obtain⟨s1,s2,s3⟩:=B_ (o:=o) (l:=l) h h0 tj (C_ h0 hx) omg_ Sj.1;rw[cR h0,j6,aj (x:=t-v0),aj (x:=3600*L.2.2.2.2.1),ca (show¬3600*L.2.2.2.2.1=0 by omega),zf omg_,aj (x:=(t-v0)/(3600*L.2.2.2.2.1))];exact⟨_,rfl,s1⟩
   .obtain⟨j,hj,j1,j2⟩:=tT ht K6 tj;have o0:=ht.of0 j hj;have o1:=ht.of1 j hj;rw[ca h0,j7,CW ht hj j1 j2];simp only[j4];generalize Ih:(t+bu o l j)/86400=ld;rw[ca (show¬di L=0 by omega),aj (x:=ld-L.2.2.1.1)];simp only[jv,j6]
    obtain⟨n,hn,KT⟩:∃n:q,(if w64 (M (ld-L.2.2.1.1) (di L))>0 then w64 (M (ld-L.2.2.1.1) (di L)) else 0)=(n:m)/\(n:m)<=8589934592:=by
     by_cases nV:0<=ld-L.2.2.1.1
     .rw[zf nV];have q0:0<=(ld-L.2.2.1.1)/di L:=yt nV omg_;have q1:(ld-L.2.2.1.1)/di L<=ld-L.2.2.1.1:=yh _ nV;rw[aj];refine⟨((ld-L.2.2.1.1)/di L).toNat,?_,?_⟩
      .split<;>omega
      .omega
     .have e:M (ld-L.2.2.1.1) (di L) = -((-(ld-L.2.2.1.1))/di L):=by rw[<-zf omg_,Int.neg_tdiv,Int.neg_neg]
      have q0:0<=(-(ld-L.2.2.1.1))/di L:=yt omg_ omg_;have q1:(-(ld-L.2.2.1.1))/di L <= -(ld-L.2.2.1.1):=yh _ omg_;rw[e,aj,if_neg omg_];exact⟨0,rfl,omg_⟩
    rw[hn];obtain⟨k,e,k0,k1⟩:=z_ ht h (jy _) hq n KT;have C3:=k1;obtain⟨y,hy,_⟩:=C3;have cD:=Bu ht h k0 hy;obtain⟨K,e2,K0,K1,K2⟩:=A_ ht h (t:=t) (2386093-k).toNat k omg_ k0 k1;simp only[e,j4,e2];exact⟨K,rfl,.inr ⟨K0,K1,K2⟩⟩
end Go.Proofs.Pw
