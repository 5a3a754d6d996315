/- mU 4: the uX answers for right VU. -/
import Derived.Test.YtaieocafhcjelaaGreatCPE
open Go Go.Lft
namespace Go.Proofs.Pw
section
variable{o:Int}{l:bE}(h:iq o l)
include h
theorem VV{t:Int}{k:Nat}(hk:k<=l.length)(h1:bc l k<=t)(h2:t<bc l (k+1)):∀(n i:Nat),i+n=k->Di l t (bB o l i) (i:Int)=some (bB o l k)
 |0,i,hi=>by
  have hi:i=k:=by omega
  subst hi;have hlen:=h.len;rw[T0];simp only[j67,show Int.ofNat (List.length l)=(l.length:Int) from rfl];by_cases aA:i<l.length
  .have e:bc l (i+1)=fU l i:=mq aA;rw[aR (by omega) (by omega),ag (show (i:Int)<(l.length:Int) by omega)];simp only[zr,j5,j7];rw[ah (show¬(l.getD i ((0:Int),(0:Int))).1<=t by show¬fU l i<=t;omega),j6,aU]
  .rw[ah (show¬(i:Int)<(l.length:Int) by omega)];simp only[jt,Bool.or_true,j5,j6,aU]
 |n+1,i,hi=>by
  have hlen:=h.len;have aA:i<l.length:=by omega
  have e:bc l (i+1)=fU l i:=mq aA;have hle:=h.frm_le (i:=i+1) (j:=k) (by omega) (by omega);rw[T0];simp only[j67,show Int.ofNat (List.length l)=(l.length:Int) from rfl];rw[aR (by omega) (by omega),ag (show (i:Int)<(l.length:Int) by omega)];simp only[zr,j5,j7];rw[ag (show (l.getD i ((0:Int),(0:Int))).1<=t by show fU l i<=t;omega),j5,aj (by omega) (by omega),aJ];exact VV hk h1 h2 n (i+1) (by omega)
theorem jyV{nm:ByteArray}{rs:List aO}{t:Int}{k:Nat}(hk:k<=l.length)(h1:bc l k<=t)(h2:t<bc l (k+1)):jiz (nm,(o,rs)) l t=some (bB o l k):=by
 have:=VV h hk h1 h2 k 0 (by omega);simp only[jiz];rw[show Di l t o 0=_ from this];rfl
theorem VW{nm:ByteArray}{rs:List aO}{d c:Int}(hd : -1000000<=d)(kJ:d<=1000000)(hc:0<=c)(fW:c<=86399){k:Nat}(hk:k<=l.length)(hks:d*86400+c-bB o l k<bc l (k+1))
  (hb:∀j,j<k->bc l (j+1)<=d*86400+c-bB o l j):∀(n j:Nat),j+n=k->sU ((j:Int)-1) nm o rs d c l=some (.inl (max (bc l k) (d*86400+c-bB o l k),0))
 |n,j,hj=>by
  have hlen:=h.len;have ph:j<=l.length:=by omega
  have o1:=h.of0 j ph;have o2:=h.of1 j ph;have aA:=h.frm_lt ph
  have key:∀A:Option ((Int×ByteArray×Int×List aO×Int×Int×bE) ⊕ ((Int×Int) ⊕ Unit)),
    A=(cond (decide (max (bc l j) (d*86400+c-bB o l j)<bc l (j+1))) (some (.inr (.inl (max (bc l j) (d*86400+c-bB o l j),0)))) (some (.inl ((j:Int),nm,o,rs,d,c,l))))->
    lpK A (λh=>sU h.1 h.2.1 h.2.2.1 h.2.2.2.1 h.2.2.2.2.1 h.2.2.2.2.2.1 h.2.2.2.2.2.2)=some (.inl (max (bc l k) (d*86400+c-bB o l k),0)):=by
   intro A hA;rw[hA];cases n with
   |zero=>
    have BX:j=k:=by omega
    subst BX;rw[ag (by omega),j5,aU]
   |succ n=>have:=hb j (by omega);rw[ah (by omega),j6,aJ];have ih:=VW (nm:=nm) (rs:=rs) hd kJ hc fW hk hks hb n (j+1) (by omega);rwa[show ((j+1:Nat):Int)-1=(j:Int) by omega]at ih
  rw[Kt];refine key _ ?_;simp only[j5o,show Int.ofNat (List.length l)=(l.length:Int) from rfl];rw[ag (show (j:Int)-1<(l.length:Int) by omega)];simp only[show (j:Int)-1+1=(j:Int) by omega,aj (x:=(j:Int)) (by omega) (by omega),j7];rw[aj (x:=d*86400) (by omega) (by omega),aj (x:=d*86400+c) (by omega) (by omega)];have nM:∀a b:Int,(if a>b then a else b)=max b a:=λa b=>by omega
  clear key;cases j with
  |zero=>
   have tc:bB o l 0=o:=rfl;have nC:bc l 0=0:=rfl;rw[ah (show¬((0:Nat):Int)-1>=0 by omega)];rw[tc]at o1 o2 ⊢;rw[nC];simp only[j5,j6,aj (x:=d*86400+c-o) (by omega) (by omega),nM];by_cases kK:0<l.length
   .have e:bc l (0+1)=fU l 0:=mq kK;rw[e];rw[ag (show ((0:Nat):Int)<(l.length:Int) by omega),aR (by omega) (by omega)];rfl
   .have xZ:l.length=0:=by omega
    have e:bc l (0+1)=8589934593:=by have:=nQ (l:=l);rwa[xZ]at this
    rw[e];rw[ah (show¬((0:Nat):Int)<(l.length:Int) by omega)];rfl
  |succ i=>
   have iE:i<l.length:=by omega
   have tc:bB o l (i+1)=(l.getD i ((0:Int),(0:Int))).2:=rfl;have nC:bc l (i+1)=(l.getD i ((0:Int),(0:Int))).1:=mq iE;rw[show ((i+1:Nat):Int)-1=(i:Int) by omega,ag (show (i:Int)>=0 by omega),aR (by omega) (by omega)];simp only[j5,j7,<-tc,<-nC];rw[aj (x:=d*86400+c-bB o l (i+1)) (by omega) (by omega)];simp only[nM];by_cases kK:i+1<l.length
   .have e:bc l (i+1+1)=(l.getD (i+1) ((0:Int),(0:Int))).1:=mq kK;rw[ag (show ((i+1:Nat):Int)<(l.length:Int) by omega),aR (by omega) (by omega)];simp only[j5,<-e]
   .have e:bc l (i+1+1)=8589934593:=by have:=nQ (l:=l);rwa[show l.length+1=i+1+1 by omega]at this
    rw[ah (show¬((i+1:Nat):Int)<(l.length:Int) by omega),e];rfl
end
theorem jwU{t o:Int}(h1 : -864000<=t+o)(h2:t+o<=1000000000000):jkL t o=some ((t+o)/86400,(t+o)%86400):=by
 simp only[jkL];rw[aj (x:=t+o) (by omega) (by omega),aj (x:=t+o+864000) (by omega) (by omega),sW (by omega),Ao (by omega),aj (x:=(t+o+864000)/86400) (by omega) (by omega),aj (by omega) (by omega)];congr 2<;>omega
section
variable{z:ByteArray×(Int×List aO)}{l:bE}(h:Z4 z l)
include h
theorem jAE{t:Int}{k:Nat}(h0:0<=t)(h1:t<=8589934592)(hk:k<=l.length)(dj:bc l k<=t)(eW:t<bc l (k+1)):jc0 z t=some (bB z.2.1 l k,0):=by
 simp only[jc0,show j25 (z.1,(z.2.1,z.2.2))=_ from h.1,j3,jj,j6,mw h0 h1,ji,jyV h.2 hk dj eW]
theorem VX{t:Int}{k:Nat}(h0:0<=t)(h1:t<=8589934592)(hk:k<=l.length)(dj:bc l k<=t)(eW:t<bc l (k+1)):j4S z t=some (((t+bB z.2.1 l k)/86400,(t+bB z.2.1 l k)%86400),0):=by
 have o1:=h.2.of0 k hk;have o2:=h.2.of1 k hk;simp only[j4S,show jc0 (z.1,(z.2.1,z.2.2)) t=_ from jAE h h0 h1 hk dj eW,j3,jj,j6,jwU (show -864000<=t+bB z.2.1 l k by omega) (by omega)]
omit h in
theorem VY{d:Int}(h1 : -2<=d)(h2:d<=99422):jhI d=some true:=by
 simp only[jhI,mw h1 h2,j3]
theorem jwV{d c:Int}(hd : -2<=d)(kJ:d<=99422)(hc:0<=c)(fW:c<=86399){k:Nat}(hk:k<=l.length)(hks:d*86400+c-bB z.2.1 l k<bc l (k+1))
  (hb:∀j,j<k->bc l (j+1)<=d*86400+c-bB z.2.1 l j):j66 z (d,c)=some (max (bc l k) (d*86400+c-bB z.2.1 l k),0):=by
 have:=VW h.2 (nm:=z.1) (rs:=z.2.2) (show -1000000<=d by omega) (by omega) hc fW hk hks hb k 0 (by omega);simp only[j66,show j25 (z.1,(z.2.1,z.2.2))=_ from h.1,j3,jj,j6,mw hc fW,ji,VY hd kJ];rw[ah (show¬d < -2 by omega),j6,show sU (-1) z.1 z.2.1 z.2.2 d c l=_ from this];rfl
end
def uY(o:Int)(l:bE)(s:Int):Prop:=∀j,j<=l.length->bc l (j+1)<=s-bB o l j
noncomputable def fO(o:Int)(l:bE)(s:Int):Option Int:=open Classical in if h:∃t k,nU o l s t k then some (Classical.choose h) else none
theorem nU.uniq{o:Int}{l:bE}{s t t':Int}{k k':Nat}(f:nU o l s t k)(g:nU o l s t' k'):k=k'/\t=t':=by
 have hk:k=k':=by
  rcases Nat.lt_trichotomy k k' with aA|heq|x8
  .have:=g.bef k aA;have:=f.hks;omega
  .exact heq
  .have:=f.bef k' x8;have:=g.hks;omega
 subst hk;exact⟨rfl,by rw[f.ht,g.ht]⟩
theorem td{o:Int}{l:bE}{s t:Int}{k:Nat}(f:nU o l s t k):fO o l s=some t:=by
 have he:∃t k,nU o l s t k:=⟨t,k,f⟩;unfold fO;rw[dif_pos he];obtain⟨k',g⟩:=Classical.choose_spec he;rw[(g.uniq f).2]
theorem qM{o:Int}{l:bE}{s:Int}(dp:uY o l s):fO o l s=none:=by
 unfold fO;rw[dif_neg]
 rintro⟨t,k,f⟩
 have:=dp k f.hk;have:=f.hks;omega
theorem GX(o:Int)(l:bE)(s:Int):(∃t k,nU o l s t k)\/uY o l s:=by
 by_cases dp:uY o l s
 .exact .inr dp
 .left
  have:∃j,j<=l.length/\s-bB o l j<bc l (j+1):=by
   apply jr;intro hn
   exact dp λj hj=>by
    rcases Int.lt_or_le (s-bB o l j) (bc l (j+1)) with h|h
    .exact absurd ⟨j,hj,h⟩ hn
    .exact h
  obtain⟨j,hj,hjs⟩:=this;obtain⟨a,⟨ha,haN⟩,r8⟩:=yT (λj=>s-bB o l j<bc l (j+1)/\j<=l.length) j ⟨hjs,hj⟩;refine⟨_,a,haN,ha,λi hi=>?_,rfl⟩;rcases Int.lt_or_le (s-bB o l i) (bc l (i+1)) with h'|h'
  .have:=r8 i ⟨h',by omega⟩;omega
  .exact h'
theorem GY{o:Int}{l:bE}{s t:Int}(he:fO o l s=some t):∃k,nU o l s t k:=by
 rcases GX o l s with⟨t',k,f⟩|dp
 .rw[td f]at he;simp at he;subst he;exact⟨k,f⟩
 .rw[qM dp]at he;simp at he
section
variable{o:Int}{l:bE}(h:iq o l)
include h
theorem Aw{s t:Int}(he:fO o l s=some t):s<=t+64800/\0<=t/\t<=8589934592:=by
 obtain⟨k,f⟩:=GY he;obtain⟨p1,p2,p3⟩:=f.piece h;have o1:=h.of1 k f.hk;have g1:=h.frm_le (i:=0) (j:=k) (by omega) (by have:=f.hk;omega);have e0:bc l 0=0:=sX;have e1:bc l (l.length+1)=8589934593:=nQ;have g2:=h.frm_le (i:=k+1) (j:=l.length+1) (by have:=f.hk;omega) (by omega);omega
theorem NW{s:Int}(hs:8589934593+64800<=s):uY o l s:=λj hj=>by
 have o1:=h.of1 j hj;have e1:bc l (l.length+1)=8589934593:=nQ;have g2:=h.frm_le (i:=j+1) (j:=l.length+1) (by omega) (by omega);omega
theorem jCr{s s' t':Int}(hs:s<=s')(he:fO o l s'=some t'):∃t,fO o l s=some t/\t<=t':=by
 obtain⟨k',g⟩:=GY he;have g1:=g.hks;have br:=g.hk;rcases GX o l s with⟨t,k,f⟩|dp
 .refine⟨t,td f,?_⟩;obtain⟨p1,p2,p3⟩:=f.piece h;obtain⟨q1,q2,q3⟩:=g.piece h;have f1:=f.ht;have g2:=g.ht;rcases Nat.lt_trichotomy k k' with aA|heq|x8
  .have:=h.frm_le (i:=k+1) (j:=k') (by omega) (by omega);omega
  .subst heq;omega
  .have:=f.bef k' x8;omega
 .have:=dp k' br;omega
theorem VZ{d c s:Int}(iv:j5g (d,c)=some s)(hG : -1000000000000<=s)(kI:s<=1000000000000)(dp:uY o l s) :
  ∀(n i:Nat),i+n=l.length+1->xp ((l.length+1:Nat):Int) (i:Int) d c (oL o l (l.length+1))=some (.inr ())
 |0,i,hi=>by
  rw[FV];simp only[j23];rw[ah (by omega),j6,aU]
 |n+1,i,hi=>by
  have hlen:=h.len;have iE:i<=l.length:=by omega
  have o1:=h.of0 i iE;have o2:=h.of1 i iE;have hb:=dp i iE;have aA:=h.frm_lt iE;rw[FV];simp only[j23];rw[ag (show (i:Int)<((l.length+1:Nat):Int) by omega),aR (by omega) (by rw[xQ];omega)];simp only[j5,j7,Nh (show i<l.length+1 by omega),iv,j3,pc];rw[aj (x:=s-bB o l i) (by omega) (by omega),aj (x:=(i:Int)+1) (by omega) (by omega)];have hm:(if s-bB o l i>bc l i then s-bB o l i else bc l i)=max (bc l i) (s-bB o l i):=by split<;>omega
  rw[hm,ah (by omega),j6,aJ];exact VZ iv hG kI dp n (i+1) (by omega)
theorem NX{d c s:Int}(iv:j5g (d,c)=some s)(hG : -1000000000000<=s)(kI:s<=1000000000000)(dp:uY o l s):j1B (o,l) (d,c)=some (0,false):=by
 have:=VZ h iv hG kI dp (l.length+1) 0 (by omega);simp only[j1B,UM h,j3,xQ,show Int.ofNat (List.length l+1)=((l.length+1:Nat):Int) from rfl];rw[show (0:Int)=((0:Nat):Int) from rfl,this];rfl
theorem V0{d c:Int}(hd : -1000000<=d)(kJ:d<=1000000000000000)(hc:0<=c)(fW:c<=86399) :
  j1B (o,l) (d,c)=some ((fO o l (d*86400+c)).getD 0,(fO o l (d*86400+c)).isSome):=by
 by_cases hb:d<=1000000
 .rcases GX o l (d*86400+c) with⟨t,k,f⟩|dp
  .have e:=jAv h hd hb (by omega) (by omega) f.hk f.hks f.bef;rw[<-f.ht]at e;rw[td f];exact e
  .rw[qM dp];exact NX h (Ni hd hb (by omega) (by omega)) (by omega) (by omega) dp
 .have dp:uY o l (d*86400+c):=NW h (by omega);rw[qM dp];by_cases eX:d<=1048576
  .have iv:j5g (d,c)=some (d*86400+c):=by simp only[j5g];rw[if_neg (show¬(-1048576:Int)>d by omega),if_neg (show¬(1048576:Int)<d by omega),aj (x:=d*86400) (by omega) (by omega),aj (by omega) (by omega)]
   exact NX h iv (by omega) (by omega) dp
  .have iv:j5g (d,c)=some (1048576*86400+c):=by simp only[j5g];rw[if_neg (show¬(-1048576:Int)>d by omega),if_pos (show (1048576:Int)<d by omega),aj (x:=1048576*86400) (by omega) (by omega),aj (by omega) (by omega)]
   exact NX h iv (by omega) (by omega) (NW h (by omega))
theorem V3{nm:ByteArray}{rs:List aO}{d c:Int}(hd : -1000000<=d)(kJ:d<=1000000)(hc:0<=c)(fW:c<=86399)(dp:uY o l (d*86400+c)):∀(n j:Nat),j+n=l.length+1->
  sU ((j:Int)-1) nm o rs d c l=some (.inr ())
 |0,j,hj=>by
  rw[Kt];simp only[j5o,show Int.ofNat (List.length l)=(l.length:Int) from rfl];rw[ah (by omega),j6,aU]
 |n+1,j,hj=>by
  have hlen:=h.len;have ph:j<=l.length:=by omega
  have o1:=h.of0 j ph;have o2:=h.of1 j ph;have aA:=h.frm_lt ph;have hb:=dp j ph;have ih:=V3 (nm:=nm) (rs:=rs) hd kJ hc fW dp n (j+1) (by omega);rw[show ((j+1:Nat):Int)-1=(j:Int) by omega]at ih
  have key:∀A:Option ((Int×ByteArray×Int×List aO×Int×Int×bE) ⊕ ((Int×Int) ⊕ Unit)),
    A=(cond (decide (max (bc l j) (d*86400+c-bB o l j)<bc l (j+1))) (some (.inr (.inl (max (bc l j) (d*86400+c-bB o l j),0)))) (some (.inl ((j:Int),nm,o,rs,d,c,l))))->
    lpK A (λh=>sU h.1 h.2.1 h.2.2.1 h.2.2.2.1 h.2.2.2.2.1 h.2.2.2.2.2.1 h.2.2.2.2.2.2)=some (.inr ()):=by
   intro A hA;rw[hA,ah (by omega),j6,aJ];exact ih
  rw[Kt];refine key _ ?_;simp only[j5o,show Int.ofNat (List.length l)=(l.length:Int) from rfl];rw[ag (show (j:Int)-1<(l.length:Int) by omega)];simp only[show (j:Int)-1+1=(j:Int) by omega,aj (x:=(j:Int)) (by omega) (by omega),j7];rw[aj (x:=d*86400) (by omega) (by omega),aj (x:=d*86400+c) (by omega) (by omega)];have nM:∀a b:Int,(if a>b then a else b)=max b a:=λa b=>by omega
  clear key;cases j with
  |zero=>
   have tc:bB o l 0=o:=rfl;have nC:bc l 0=0:=rfl;rw[ah (show¬((0:Nat):Int)-1>=0 by omega)];rw[tc]at o1 o2 ⊢;rw[nC];simp only[j5,j6,aj (x:=d*86400+c-o) (by omega) (by omega),nM];by_cases kK:0<l.length
   .have e:bc l (0+1)=fU l 0:=mq kK;rw[e];rw[ag (show ((0:Nat):Int)<(l.length:Int) by omega),aR (by omega) (by omega)];rfl
   .have xZ:l.length=0:=by omega
    have e:bc l (0+1)=8589934593:=by have:=nQ (l:=l);rwa[xZ]at this
    rw[e];rw[ah (show¬((0:Nat):Int)<(l.length:Int) by omega)];rfl
  |succ i=>
   have iE:i<l.length:=by omega
   have tc:bB o l (i+1)=(l.getD i ((0:Int),(0:Int))).2:=rfl;have nC:bc l (i+1)=(l.getD i ((0:Int),(0:Int))).1:=mq iE;rw[show ((i+1:Nat):Int)-1=(i:Int) by omega,ag (show (i:Int)>=0 by omega),aR (by omega) (by omega)];simp only[j5,j7,<-tc,<-nC];rw[aj (x:=d*86400+c-bB o l (i+1)) (by omega) (by omega)];simp only[nM];by_cases kK:i+1<l.length
   .have e:bc l (i+1+1)=(l.getD (i+1) ((0:Int),(0:Int))).1:=mq kK;rw[ag (show ((i+1:Nat):Int)<(l.length:Int) by omega),aR (by omega) (by omega)];simp only[j5,<-e]
   .have e:bc l (i+1+1)=8589934593:=by have:=nQ (l:=l);rwa[show l.length+1=i+1+1 by omega]at this
    rw[ah (show¬((i+1:Nat):Int)<(l.length:Int) by omega),e];rfl
end
theorem NY{z:bU}{l:bE}(h:Z4 z l){d c:Int}(hd:1<=d)(hc:0<=c)(fW:c<=86399) :
  j66 z (d,c)=some (match fO z.2.1 l (d*86400+c) with|some t=>(t,0)|none=>(0,10)):=by
 by_cases hb:d<=99422
 .rcases GX z.2.1 l (d*86400+c) with⟨t,k,f⟩|dp
  .have e:=jwV h (d:=d) (c:=c) (by omega) hb hc fW f.hk f.hks f.bef;rw[<-f.ht]at e;rw[td f];exact e
  .have:=V3 h.2 (nm:=z.1) (rs:=z.2.2) (show -1000000<=d by omega) (by omega) hc fW dp (l.length+1) 0 (by omega);rw[qM dp];simp only[j66,show j25 (z.1,(z.2.1,z.2.2))=_ from h.1,j3,jj,j6,mw hc fW,ji,VY (show -2<=d by omega) hb];rw[ah (show¬d < -2 by omega),j6,show sU (-1) z.1 z.2.1 z.2.2 d c l=_ from this];rfl
 .rw[qM (NW h.2 (by omega))];simp only[j66,show j25 (z.1,(z.2.1,z.2.2))=_ from h.1,j3,jj,j6,mw hc fW,ji,jhI,jDF (show¬(-2<=d/\d<=99422) by omega)];rw[ah (show¬d < -2 by omega)];rfl
structure Rt(L:bP):Prop where
 d0:1<=L.2.2.1.1
 d1:L.2.2.1.1<=100000
 c0:0<=L.2.2.1.2
 c1:L.2.2.1.2<=86399
 u0:0<=L.2.2.2.1
 u1:L.2.2.2.1<=2
 e0:1<=L.2.2.2.2.1
 e1:L.2.2.2.2.1<=400
 m0:L.2.2.2.2.2.1≠[]
theorem Rt.step{L:bP}(h:Rt L):1<=cZ L/\cZ L<=2800:=by
 have:=h.e0;have:=h.e1;unfold cZ;split<;>omega
noncomputable def hO(o:Int)(l:bE)(L:bP)(k:Int):Option Int:=
 if L.2.2.2.1=0 then (fO o l (cM L 0)).bind λt=>if t+3600*L.2.2.2.2.1*k<=8589934592 then some (t+3600*L.2.2.2.2.1*k) else none
 else fO o l (cM L k)
section
variable{o:Int}{l:bE}(ht:iq o l){L:bP}(h:Rt L)
include ht h
theorem Ec{k t:Int}(hk:0<=k)(he:hO o l L k=some t):0<=t/\t<=8589934592/\k<=2386092:=by
 have hs:=h.step;have D3:=h.d0;have rC:=h.e0;have iG:=h.c0;unfold hO at he;by_cases h0:L.2.2.2.1=0
 .rw[if_pos h0]at he;cases hf:fO o l (cM L 0) with
  |none=>rw[hf]at he;simp at he
  |some v=>
   rw[hf]at he;simp only[j3]at he;have hv:=Aw ht hf;have hm:3600*k<=3600*L.2.2.2.2.1*k:=Int.mul_le_mul_of_nonneg_right (by omega) hk;split at he
   .simp at he;omega
   .simp at he
 .rw[if_neg h0]at he;have hv:=Aw ht he;have hm:k*1<=k*cZ L:=Int.mul_le_mul_of_nonneg_left hs.1 hk;unfold cM at hv;omega
theorem jAG{k t:Int}(he:hO o l L (k+1)=some t):∃v,hO o l L k=some v/\v<=t:=by
 have hs:=h.step;have rC:=h.e0;unfold hO at he ⊢;by_cases h0:L.2.2.2.1=0
 .rw[if_pos h0]at he ⊢;cases hf:fO o l (cM L 0) with
  |none=>rw[hf]at he;simp at he
  |some v=>
   rw[hf]at he;simp only[j3]at he ⊢;have hm:3600*L.2.2.2.2.1*(k+1)=3600*L.2.2.2.2.1*k+3600*L.2.2.2.2.1:=by rw[Int.mul_add,Int.mul_one]
   split at he
   .rw[if_pos (by omega)];simp at he;exact⟨_,rfl,by omega⟩
   .simp at he
 .rw[if_neg h0]at he ⊢;have hm:(k+1)*cZ L=k*cZ L+cZ L:=by rw[Int.add_mul,Int.one_mul]
  exact jCr ht (by unfold cM;rw[hm];omega) he
def QO(o:Int)(l:bE)(L:bP)(t k:Int):Prop:=∃v,hO o l L k=some v/\v<=t
theorem QO.down{t:Int}:∀(n:Nat){k:Int},QO o l L t (k+n)->QO o l L t k
 |0,k,hq=>by rwa[show k+((0:Nat):Int)=k by omega]at hq
 |n+1,k,hq=>by
  rw[show k+((n+1:Nat):Int)=k+(n:Int)+1 by omega]at hq;obtain⟨v,hv,uc⟩:=hq;obtain⟨v',gm,hl⟩:=jAG ht h (k:=k+(n:Int)) hv;exact QO.down n ⟨v',gm,by omega⟩
theorem QO.le{t k j:Int}(dF:k<=j)(hq:QO o l L t j):QO o l L t k:=by
 refine QO.down ht h (j-k).toNat ?_;rwa[show k+(((j-k).toNat:Nat):Int)=j by omega]
def iQ(o:Int)(l:bE)(L:bP)(t K:Int):Prop:=(K = -1/\¬QO o l L t 0)\/(0<=K/\QO o l L t K/\¬QO o l L t (K+1))
theorem iQ.uniq{t K K':Int}(a:iQ o l L t K)(b:iQ o l L t K'):K=K':=by
 rcases a with⟨a1,a2⟩|⟨a1,a2,a3⟩<;>rcases b with⟨b1,b2⟩|⟨b1,b2,b3⟩
 .omega
 .exact absurd (QO.le ht h b1 b2) a2
 .exact absurd (QO.le ht h a1 a2) b2
 .rcases Int.lt_trichotomy K K' with aA|heq|x8
  .exact absurd (QO.le ht h (by omega) b2) a3
  .exact heq
  .exact absurd (QO.le ht h (by omega) a2) b3
theorem QO.day{t k:Int}(h0:L.2.2.2.1≠0)(hq:QO o l L t k){j:Nat}(hj:j<=l.length):L.2.2.1.1+k*cZ L<=(t+bB o l j)/86400+2:=by
 obtain⟨v,hv,uc⟩:=hq;unfold hO at hv;rw[if_neg h0]at hv;have:=Aw ht hv;have o0:=ht.of0 j hj;have iG:=h.c0;unfold cM at this;omega
end
theorem V4{L:bP}(h:Rt L):jbc L=some (cZ L):=by
 have:=h.e0;have:=h.e1;simp only[jbc,cZ];by_cases h2:L.2.2.2.1=2
 .rw[cP h2,j5,if_pos h2,aj (by omega) (by omega)]
 .rw[bW h2,j6,if_neg h2]
def qN(r:Option (Int×Bool))(x:Option Int):Prop:=∃v,r=some (v,x.isSome)/\∀t,x=some t->v=t
theorem nV{o:Int}{l:bE}(ht:iq o l){L:bP}(h:Rt L){k:Int}(hk:0<=k)(eW:k<=8589934592):qN (j0F (o,l) L k) (hO o l L k):=by
 have hs:=h.step;have D3:=h.d0;have ov:=h.d1;have iG:=h.c0;have fi:=h.c1;have rC:=h.e0;have GZ:=h.e1;have dU:jbc (L.1,L.2.1,(L.2.2.1.1,L.2.2.1.2),L.2.2.2.1,L.2.2.2.2.1,L.2.2.2.2.2.1,L.2.2.2.2.2.2.1,L.2.2.2.2.2.2.2.1,L.2.2.2.2.2.2.2.2)=_:=V4 h;simp only[qN,j0F,dU,j3];rw[ah (show¬k>8589934592 by omega),j6];by_cases h0:L.2.2.2.1=0
 .have hF:=V0 ht (d:=L.2.2.1.1) (c:=L.2.2.1.2) (by omega) (by omega) iG fi;have hG:L.2.2.1.1*86400+L.2.2.1.2=cM L 0:=by unfold cM;omega
  have mv:0<=3600*L.2.2.2.2.1*k:=Int.mul_nonneg (by omega) hk;have eZ:3600*L.2.2.2.2.1*k<=3600*400*8589934592:=Int.mul_le_mul (by omega) eW hk (by omega);rw[show (L.2.2.2.1 != 0)=false by rw[h0];rfl,j6,hF,hG];simp only[j3];unfold hO;rw[if_pos h0];cases hf:fO o l (cM L 0) with
  |none=>exact⟨_,rfl,λt h=>by simp at h⟩
  |some v=>
   have hv:=Aw ht hf;simp only[zb,zh,j5,j3,aj (x:=3600*L.2.2.2.2.1) (show -9223372036854775808<=_ by omega) (by omega),aj (x:=3600*L.2.2.2.2.1*k) (show -9223372036854775808<=_ by omega) (by omega),aj (x:=v+3600*L.2.2.2.2.1*k) (show -9223372036854775808<=_ by omega) (by omega)];by_cases hle:v+3600*L.2.2.2.2.1*k<=8589934592
   .rw[if_pos hle,ag hle];exact⟨_,rfl,λt h=>by simpa using h⟩
   .rw[if_neg hle,ah hle];exact⟨_,rfl,λt h=>by simp at h⟩
 .have mv:0<=k*cZ L:=Int.mul_nonneg hk (by omega);have eZ:k*cZ L<=8589934592*2800:=Int.mul_le_mul eW hs.2 (by omega) (by omega);rw[show (L.2.2.2.1 != 0)=true by simp[h0],j5,aj (x:=k*cZ L) (by omega) (by omega),aj (x:=L.2.2.1.1+k*cZ L) (by omega) (by omega),V0 ht (by omega) (by omega) iG fi];simp only[j3];unfold hO;rw[if_neg h0];exact⟨_,rfl,λt h=>by have h:fO o l ((L.2.2.1.1+k*cZ L)*86400+L.2.2.1.2)=some t:=h;rw[h];rfl⟩
theorem NZ{z:bU}{l:bE}(hz:Z4 z l){L:bP}(h:Rt L){k:Int}(hk:0<=k)(eW:k<=8589934592):qN (jc1 z L k) (hO z.2.1 l L k):=by
 have hs:=h.step;have D3:=h.d0;have ov:=h.d1;have iG:=h.c0;have fi:=h.c1;have rC:=h.e0;have GZ:=h.e1;have Qi:=h.u1;have hu0:=h.u0;simp only[qN,jc1];have mv:0<=k*L.2.2.2.2.1:=Int.mul_nonneg hk (by omega);have eZ:k*L.2.2.2.2.1<=8589934592*400:=Int.mul_le_mul eW (by omega) (by omega) (by omega);rw[aj (x:=k*L.2.2.2.2.1) (by omega) (by omega)];by_cases h0:L.2.2.2.1=0
 .have hF:=NY hz (d:=L.2.2.1.1) (c:=L.2.2.1.2) (by omega) iG fi;have hG:L.2.2.1.1*86400+L.2.2.1.2=cM L 0:=by unfold cM;omega
  rw[cP h0,j5,show j66 (z.1,(z.2.1,z.2.2)) (L.2.2.1.1,L.2.2.1.2)=_ from hF,hG];simp only[j3];have jT:k*L.2.2.2.2.1*3600=3600*L.2.2.2.2.1*k:=by rw[Int.mul_comm,Int.mul_comm k,Int.mul_assoc]
  have ik:0<=3600*L.2.2.2.2.1*k:=Int.mul_nonneg (by omega) hk;have hm3:3600*L.2.2.2.2.1*k<=3600*400*8589934592:=Int.mul_le_mul (by omega) eW hk (by omega);rw[jT,aj (x:=3600*L.2.2.2.2.1*k) (by omega) (by omega)];unfold hO;rw[if_pos h0];cases hf:fO z.2.1 l (cM L 0) with
  |none=>exact⟨_,rfl,λt h=>by simp at h⟩
  |some v=>
   have hv:=Aw hz.2 hf;simp only[j3];rw[aj (x:=v+3600*L.2.2.2.2.1*k) (by omega) (by omega),qj,j5];by_cases hle:v+3600*L.2.2.2.2.1*k<=8589934592
   .rw[if_pos hle,ag hle];exact⟨_,rfl,λt h=>by simpa using h⟩
   .rw[if_neg hle,ah hle];exact⟨_,rfl,λt h=>by simp at h⟩
 .rw[bW h0,j6]
  have fin:∀n:Int,n=k*cZ L->0<=n->qN ((j66 (z.1,(z.2.1,z.2.2)) (L.2.2.1.1+n,L.2.2.1.2)).bind λr=>some (r.1,(r.2==(0:Int)))) (hO z.2.1 l L k):=by
   intro n hn ox;have hF:=NY hz (d:=L.2.2.1.1+n) (c:=L.2.2.1.2) (by omega) iG fi;rw[show j66 (z.1,(z.2.1,z.2.2)) (L.2.2.1.1+n,L.2.2.1.2)=_ from hF];unfold hO;rw[if_neg h0];have ee:(L.2.2.1.1+n)*86400+L.2.2.1.2=cM L k:=by rw[hn];rfl
   rw[ee];cases hf:fO z.2.1 l (cM L k) with
   |none=>exact⟨_,rfl,λt h=>by simp at h⟩
   |some v=>exact⟨_,rfl,λt h=>by simpa using h⟩
  by_cases h2:L.2.2.2.1=2
  .have x9:cZ L=7*L.2.2.2.2.1:=by unfold cZ;rw[if_pos h2]
   have e1:k*L.2.2.2.2.1*7=k*cZ L:=by rw[x9,Int.mul_assoc,Int.mul_comm L.2.2.2.2.1 7]
   rw[cP h2,j5,aj (x:=k*L.2.2.2.2.1*7) (by omega) (by omega),aj (x:=L.2.2.1.1+k*L.2.2.2.2.1*7) (by omega) (by omega)];exact fin _ e1 (by omega)
  .have x9:cZ L=L.2.2.2.2.1:=by unfold cZ;rw[if_neg h2]
   rw[bW h2,j6,aj (x:=L.2.2.1.1+k*L.2.2.2.2.1) (by omega) (by omega)];exact fin _ (by rw[x9]) mv
theorem V5{o:Int}{l:bE}(ht:iq o l){L:bP}(h:Rt L){t N:Int}(hN:N<=8589934592)(gO:QO o l L t 0):∀n:Nat,(n:Int)<=N->
  ∃k:Int,Aa t (n:Int) o l L.1 L.2.1 L.2.2.1.1 L.2.2.1.2 L.2.2.2.1 L.2.2.2.2.1 L.2.2.2.2.2.1 L.2.2.2.2.2.2.1 L.2.2.2.2.2.2.2.1 L.2.2.2.2.2.2.2.2=
   some (t,k,o,l,L.1,L.2.1,L.2.2.1.1,L.2.2.1.2,L.2.2.2.1,L.2.2.2.2.1,L.2.2.2.2.2.1,L.2.2.2.2.2.2.1,L.2.2.2.2.2.2.2.1,L.2.2.2.2.2.2.2.2)/\0<=k/\QO o l L t k
 |0,_=>by
  rw[S7];simp only[j2d];rw[ah (by omega),j6,aU];exact⟨_,rfl,by omega,gO⟩
 |n+1,hn=>by
  obtain⟨k,e,k0,k1⟩:=V5 ht h hN gO n (by omega);obtain⟨v,hH,hv⟩:=nV ht h (k:=((n+1:Nat):Int)) (by omega) (by omega);rw[S7];simp only[j2d];rw[ag (by omega),j5,show j0F (o,l) (L.1,L.2.1,(L.2.2.1.1,L.2.2.1.2),L.2.2.2.1,L.2.2.2.2.1,L.2.2.2.2.2.1,L.2.2.2.2.2.2.1,L.2.2.2.2.2.2.2.1,L.2.2.2.2.2.2.2.2) ((n+1:Nat):Int)=_ from hH];simp only[j3];rw[aj (x:=((n+1:Nat):Int)-1) (by omega) (by omega),show ((n+1:Nat):Int)-1=(n:Int) by omega];cases hx:hO o l L ((n+1:Nat):Int) with
  |none=>simp only[v8,j6,aJ];exact⟨k,e,k0,k1⟩
  |some x=>
   have:=hv x hx;subst this;simp only[zh,j5];by_cases hc:v<=t
   .rw[ag hc,j5,aU];exact⟨_,rfl,by omega,v,hx,hc⟩
   .rw[ah hc,j6,aJ];exact⟨k,e,k0,k1⟩
theorem V6{o:Int}{l:bE}(ht:iq o l){L:bP}(h:Rt L){t:Int}:∀(n:Nat)(k:Int),k+n=2386093->0<=k->QO o l L t k->
  ∃K:Int,Ab t k o l L.1 L.2.1 L.2.2.1.1 L.2.2.1.2 L.2.2.2.1 L.2.2.2.2.1 L.2.2.2.2.2.1 L.2.2.2.2.2.2.1 L.2.2.2.2.2.2.2.1 L.2.2.2.2.2.2.2.2=some K/\0<=K/\QO o l L t K/\¬QO o l L t (K+1)
 |0,k,hn,hk,hq=>by
  obtain⟨v,hv,_⟩:=hq;have:=Ec ht h hk hv;omega
 |n+1,k,hn,hk,hq=>by
  obtain⟨v,hH,hv⟩:=nV ht h (k:=k+1) (by omega) (by omega);rw[jjs];simp only[j2P];rw[aj (x:=k+1) (by omega) (by omega),show j0F (o,l) (L.1,L.2.1,(L.2.2.1.1,L.2.2.1.2),L.2.2.2.1,L.2.2.2.2.1,L.2.2.2.2.2.1,L.2.2.2.2.2.2.1,L.2.2.2.2.2.2.2.1,L.2.2.2.2.2.2.2.2) (k+1)=_ from hH];simp only[j3];cases hx:hO o l L (k+1) with
  |none=>simp only[v8,jt,j5,aU];exact⟨k,rfl,hk,hq,λ⟨y,hy,_⟩=>by rw[hx]at hy;simp at hy⟩
  |some x=>
   have:=hv x hx;subst this;simp only[zh,ji,j6];by_cases hc:v>t
   .rw[ag hc,j5,aU];exact⟨k,rfl,hk,hq,λ⟨y,hy,yX⟩=>by rw[hx]at hy;simp at hy;omega⟩
   .rw[ah hc,j6,aJ];exact V6 ht h n (k+1) (by omega) (by omega) ⟨v,hx,by omega⟩
theorem V7{o:Int}{l:bE}{L:bP}(h:Rt L){t v:Int}(h0:L.2.2.2.1=0)(pE:t<=8589934592)(hf:fO o l (cM L 0)=some v)(uc:v<=t)(hv0:0<=v) :
  iQ o l L t ((t-v)/(3600*L.2.2.2.2.1))/\0<=(t-v)/(3600*L.2.2.2.2.1)/\(t-v)/(3600*L.2.2.2.2.1)<=8589934592:=by
 have rC:=h.e0;have GZ:=h.e1;have q0:0<=(t-v)/(3600*L.2.2.2.2.1):=vu (by omega) (by omega);have q1:3600*L.2.2.2.2.1*((t-v)/(3600*L.2.2.2.2.1))<=t-v:=Int.mul_ediv_self_le (by omega);have q2:t-v<3600*L.2.2.2.2.1*((t-v)/(3600*L.2.2.2.2.1))+3600*L.2.2.2.2.1:=Int.lt_mul_ediv_self_add (by omega);have q3:(t-v)/(3600*L.2.2.2.2.1)<=t-v:=vi _ (by omega);generalize (t-v)/(3600*L.2.2.2.2.1)=K at *;refine⟨.inr ⟨q0,⟨v+3600*L.2.2.2.2.1*K,?_,by omega⟩,?_⟩,q0,by omega⟩
 .unfold hO;rw[if_pos h0,hf];simp only[j3];rw[if_pos (by omega)]
 .rintro⟨y,hy,yX⟩
  unfold hO at hy;rw[if_pos h0,hf]at hy;simp only[j3,Int.mul_add,Int.mul_one]at hy;split at hy
  .simp at hy;omega
  .simp at hy
theorem V8{o:Int}{l:bE}{L:bP}(h0:L.2.2.2.1=0){v:Int}(hv:hO o l L 0=some v):fO o l (cM L 0)=some v:=by
 unfold hO at hv;rw[if_pos h0]at hv;cases hf:fO o l (cM L 0) with
 |none=>rw[hf]at hv;simp at hv
 |some x=>
  rw[hf]at hv;simp only[j3,Int.mul_zero,Int.add_zero]at hv;split at hv
  .simpa using hv
  .simp at hv
theorem jEQ{o:Int}{l:bE}(ht:iq o l){L:bP}(h:Rt L){t:Int}(G0:0<=t)(pE:t<=8589934592):∃K:Int,j3a (o,l) L t=some K/\iQ o l L t K:=by
 have hs:=h.step;have D3:=h.d0;have ov:=h.d1;have rC:=h.e0;have GZ:=h.e1;obtain⟨v0,hH,hv⟩:=nV ht h (k:=0) (by omega) (by omega);have dU:jbc (L.1,L.2.1,(L.2.2.1.1,L.2.2.1.2),L.2.2.2.1,L.2.2.2.2.1,L.2.2.2.2.2.1,L.2.2.2.2.2.2.1,L.2.2.2.2.2.2.2.1,L.2.2.2.2.2.2.2.2)=_:=V4 h;simp only[j3a,show j0F (o,l) (L.1,L.2.1,(L.2.2.1.1,L.2.2.1.2),L.2.2.2.1,L.2.2.2.2.1,L.2.2.2.2.2.1,L.2.2.2.2.2.2.1,L.2.2.2.2.2.2.2.1,L.2.2.2.2.2.2.2.2) 0=_ from hH,dU,j3];cases hx:hO o l L 0 with
 |none=>simp only[v8,jt,j5];exact⟨-1,rfl,.inl ⟨rfl,λ⟨y,hy,_⟩=>by rw[hx]at hy;simp at hy⟩⟩
 |some v=>
  have:=hv v hx;subst this;simp only[zh,ji,j6];by_cases hc:v0>t
  .rw[ag hc,j5];exact⟨-1,rfl,.inl ⟨rfl,λ⟨y,hy,yX⟩=>by rw[hx]at hy;simp at hy;omega⟩⟩
  .rw[ah hc,j6];have hq:QO o l L t 0:=⟨v0,hx,by omega⟩;have N0:=Ec ht h (k:=0) (by omega) hx;by_cases h0:L.2.2.2.1=0
   .obtain⟨s1,s2,s3⟩:=V7 (o:=o) (l:=l) h h0 pE (V8 h0 hx) (by omega) N0.1;rw[cP h0,j5,aj (x:=t-v0) (by omega) (by omega),aj (x:=3600*L.2.2.2.2.1) (by omega) (by omega),bW (show¬3600*L.2.2.2.2.1=0 by omega),qo (by omega),aj (x:=(t-v0)/(3600*L.2.2.2.2.1)) (by omega) (by omega)];exact⟨_,rfl,s1⟩
   .obtain⟨j,hj,j1,j2⟩:=xP ht G0 pE;have o0:=ht.of0 j hj;have o1:=ht.of1 j hj;rw[bW h0,j6,DP ht hj j1 j2];simp only[j3];generalize hld:(t+bB o l j)/86400=ld;rw[bW (show¬cZ L=0 by omega),aj (x:=ld-L.2.2.1.1) (by omega) (by omega)];simp only[jt,j5]
    obtain⟨n,hn,GN⟩:∃n:Nat,(if w64 (Int.tdiv (ld-L.2.2.1.1) (cZ L))>0 then w64 (Int.tdiv (ld-L.2.2.1.1) (cZ L)) else 0)=(n:Int)/\(n:Int)<=8589934592:=by
     by_cases lh:0<=ld-L.2.2.1.1
     .rw[qo lh];have q0:0<=(ld-L.2.2.1.1)/cZ L:=vu lh (by omega);have q1:(ld-L.2.2.1.1)/cZ L<=ld-L.2.2.1.1:=vi _ lh;rw[aj (by omega) (by omega)];refine⟨((ld-L.2.2.1.1)/cZ L).toNat,?_,?_⟩
      .split<;>omega
      .omega
     .have e:Int.tdiv (ld-L.2.2.1.1) (cZ L) = -((-(ld-L.2.2.1.1))/cZ L):=by rw[<-qo (by omega),Int.neg_tdiv,Int.neg_neg]
      have q0:0<=(-(ld-L.2.2.1.1))/cZ L:=vu (by omega) (by omega);have q1:(-(ld-L.2.2.1.1))/cZ L <= -(ld-L.2.2.1.1):=vi _ (by omega);rw[e,aj (by omega) (by omega),if_neg (by omega)];exact⟨0,rfl,by omega⟩
    rw[hn];obtain⟨k,e,k0,k1⟩:=V5 ht h (ki _) hq n GN;have G1:=k1;obtain⟨y,hy,_⟩:=G1;have cg:=Ec ht h k0 hy;obtain⟨K,e2,K0,K1,K2⟩:=V6 ht h (t:=t) (2386093-k).toNat k (by omega) k0 k1;simp only[e,j3,e2];exact⟨K,rfl,.inr ⟨K0,K1,K2⟩⟩
end Go.Proofs.Pw
