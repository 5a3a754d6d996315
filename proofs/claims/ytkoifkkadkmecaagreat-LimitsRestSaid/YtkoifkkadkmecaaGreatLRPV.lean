/- r15.Clashes: the xa of all tn, sorted. -/
import Derived.Test.YtkoifkkadkmecaaGreatLRPU
import Derived.Test.YtkoifkkadkmecaaGreatLRPG
import Derived.Test.YtkoifkkadkmecaaGreatLRPT
import Derived.Test.YtkoifkkadkmecaaGreatLRPS
open _root_ renaming Int->m,Nat->D,List->E
open Int renaming ofNat->o
open List renaming getD->q
open Option renaming some->w,none->J
open Eq renaming trans->G
open ByteArray renaming empty->H
open Go Go.Lft
namespace Go.Proofs.Pw
section
variable{f g:m->m}{a b:m}{A B:bm}(hA:dg f b J a A)(hB:dg g b J a B)
include hA hB
theorem jFy{i k:m}(hlA:A.length<=500000)(hlB:B.length<=500000):∀(n x y:D)(c:m)(acc:bG),(A.length-x)+(B.length-y)<=n->x<=A.length->y<=B.length->
  (∀(hx:x<A.length)(hy:y<B.length),c=max A[x].1 B[y].1/\A[x].1<=B[y].2.1/\B[y].1<=A[x].2.1)->((x=A.length\/y=B.length)->c=b)->a<=c->mc f g a b i k c acc->acc.length+n<=1000000->
  ∃out,yN i k A B (x:m) (y:m) acc=w out/\mc f g a b i k b out/\out.length<=acc.length+n:=by
 intro n;induction n with
 |zero=>intro x y c acc hn hx hy _ h2 _ hI hl;rw[Zu];simp only[j7W,show o A.length=(A.length:m) from rfl,show o B.length=(B.length:m) from rfl];rw[ai (show¬(x:m)<(A.length:m) by omega)];simp only[j7,aP];have:=h2 omg_;subst this;exact⟨acc,rfl,hI,omg_⟩
 |succ n ih=>
  intro x y c acc hn hx hy h1 h2 Hm hI hl;rw[Zu];simp only[j7W,show o A.length=(A.length:m) from rfl,show o B.length=(B.length:m) from rfl];by_cases lx:x<A.length
  .rw[ah (show (x:m)<(A.length:m) by omega)];by_cases nD:y<B.length
   .obtain⟨c1,c2,c3⟩:=h1 lx nD;have ga:A.getD x ((0:m),((0:m),(0:m)))=A[x]:=by simp[q,lx]
    have gb:B.getD y ((0:m),((0:m),(0:m)))=B[y]:=by simp[q,nD]
    have pA:=hA.pos _ (jf lx);have pB:=hB.pos _ (jf nD);rw[ah (show (y:m)<(B.length:m) by omega),bA (show (0:m)<=(x:m) by omega) omg_,bA (show (0:m)<=(y:m) by omega) omg_];simp only[j6,j8,ga,gb];obtain⟨d,hd⟩:∃d,d=min A[x].2.1 B[y].2.1:=⟨_,rfl⟩;have e1:(if B[y].1>A[x].1 then B[y].1 else A[x].1)=c:=by split<;>omega
    have e2:(if B[y].2.1<A[x].2.1 then B[y].2.1 else A[x].2.1)=d:=by split<;>omega
    rw[e1,e2];obtain⟨s1,s2,TL⟩:=ď hA hB (i:=i) (k:=k) lx nD c1 hd c2 c3 Hm hI
    have Lp:∀aV:bG,A[x].2.1<=B[y].2.1->mc f g a b i k d aV->aV.length<=acc.length+1->∃out,yN i k A B ((x:m)+1) (y:m) aV=w out/\mc f g a b i k b out/\out.length<=acc.length+(n+1):=λaV aq mL iS=>by
     have:=ih (x+1) y d aV omg_ omg_ hy (λiD oe=>by
      rcases hA.ch.nxt x lx with⟨h',e⟩|⟨e,_⟩
      .have pA':=hA.pos _ (jf iD);exact⟨omg_,omg_,omg_⟩
      .omega) (λh=>by
      rcases hA.ch.nxt x lx with⟨h',e⟩|⟨_,e⟩
      .omega
      .omega) omg_ mL omg_
     obtain⟨out,r1,r2,r3⟩:=this;exact⟨out,r1,r2,omg_⟩
    have Lq:∀aV:bG,¬A[x].2.1<=B[y].2.1->mc f g a b i k d aV->aV.length<=acc.length+1->∃out,yN i k A B (x:m) ((y:m)+1) aV=w out/\mc f g a b i k b out/\out.length<=acc.length+(n+1):=λaV aq mL iS=>by
     have:=ih x (y+1) d aV omg_ hx omg_ (λiD oe=>by
      rcases hB.ch.nxt y nD with⟨h',e⟩|⟨e,_⟩
      .have pB':=hB.pos _ (jf oe);exact⟨omg_,omg_,omg_⟩
      .omega) (λh=>by
      rcases hB.ch.nxt y nD with⟨h',e⟩|⟨_,e⟩
      .omega
      .omega) omg_ mL omg_
     obtain⟨out,r1,r2,r3⟩:=this;exact⟨out,r1,r2,omg_⟩
    rw[aj (x:=(x:m)+1),aj (x:=(y:m)+1)]
    have step:∀aV:bG,mc f g a b i k d aV->aV.length<=acc.length+1->∃out,lpK (cond (decide (A[x].2.1<=B[y].2.1)) (w (Sum.inl (i,k,A,B,(x:m)+1,(y:m),aV))) (w (Sum.inl (i,k,A,B,(x:m),(y:m)+1,aV)))) (λh=>yN h.1 h.2.1 h.2.2.1 h.2.2.2.1 h.2.2.2.2.1 h.2.2.2.2.2.1 h.2.2.2.2.2.2)=w out/\mc f g a b i k b out/\out.length<=acc.length+(n+1):=λaV mL iS=>by
     by_cases aq:A[x].2.1<=B[y].2.1
     .rw[ah aq,j6,aB];exact Lp aV aq mL iS
     .rw[ai aq,j7,aB];exact Lq aV aq mL iS
    by_cases q1:c<d
    .rw[ah q1,j6];by_cases q2:A[x].2.2=B[y].2.2
     .rw[cR q2,j6];by_cases q3:0<=A[x].2.2
      .rw[ah (show A[x].2.2>=0 from q3),j6,ah (show acc.length+[_].length<=aG by simp[aG];omega),j6];exact step _ (s1 ⟨q3,q2,q1⟩) smp_
      .rw[ai (show¬A[x].2.2>=0 from q3),j7];exact step acc (s2 λh=>q3 h.1) omg_
     .rw[ca q2,j7];exact step acc (s2 λh=>q2 h.2.1) omg_
    .rw[ai q1,j7];exact step acc (s2 λh=>q1 h.2.2) omg_
   .rw[ai (show¬(y:m)<(B.length:m) by omega)];simp only[j6,j7,aP];have:=h2 omg_;subst this;exact⟨acc,rfl,hI,omg_⟩
  .rw[ai (show¬(x:m)<(A.length:m) by omega)];simp only[j7,aP];have:=h2 omg_;subst this;exact⟨acc,rfl,hI,omg_⟩
theorem jBo{i k:m}(bt:a<b)(hl:A.length+B.length<=500000):∃out,jns i k A B=w out/\mc f g a b i k b out/\out.length<=A.length+B.length:=by
 have nA:=q9.2 (hA.ne bt);have nB:=q9.2 (hB.ne bt)
 have fA:A[0].1=a:=by
  match A,hA,nA with
  |s::r,hA,_=>exact hA.1
 have fB:B[0].1=a:=by
  match B,hB,nB with
  |s::r,hB,_=>exact hB.1
 have pA:=hA.pos _ (jf nA);have pB:=hB.pos _ (jf nB);obtain⟨out,e,h1,h2⟩:=jFy hA hB (i:=i) (k:=k) omg_ omg_ (A.length+B.length) 0 0 a [] omg_ omg_ omg_ (λ_ _=>⟨omg_,omg_,omg_⟩) (λh=>omg_) (jy _) ⟨smp_,List.Pairwise.nil,λt h1 h2=>omg_⟩ sqo_;refine⟨out,?_,h1,by simpa using h2⟩;simp only[jns];rw[show yN i k A B 0 0 []=_ from e];rfl
end
section
variable{F:D->m->m}{a b:m}(bt:a<b){K:D}(hK:K<=2500){Ss:E bm}(BB:Ss.length<=1000)(hS:∀j (h:j<Ss.length),dg (F j) b J a Ss[j]/\Ss[j].length<=K)
include bt hK BB hS
theorem Hx{i:D}:∀(n k:D)(L:bG),k+n=Ss.length->i<k->me F Ss.length a b i k L->L.length+2*K*n<=1000000->
  ∃L',Gc (i:m) (k:m) Ss L=w ((i:m),Ss,L')/\me F Ss.length a b i Ss.length L'/\L'.length<=L.length+2*K*n
 |0,k,L,hk,_,hI,_=>by
  rw[Zx];simp only[j5A,show o Ss.length=(Ss.length:m) from rfl];rw[ai omg_,j7,aP];obtain rfl:k=Ss.length:=omg_;exact⟨L,rfl,hI,omg_⟩
 |n+1,k,L,hk,jL,hI,hl=>by
  have hmul:2*K*(n+1)=2*K*n+2*K:=yi _ _;have bH:k<Ss.length:=omg_;have bh:i<Ss.length:=omg_;have gi:Ss.getD i ([]:bm)=Ss[i]:=by simp[q,bh]
  have gk:Ss.getD k ([]:bm)=Ss[k]:=by simp[q,bH]
  have si:=hS i bh;have sk:=hS k bH;obtain⟨O,e,hO,lO⟩:=jBo si.1 sk.1 (i:=(i:m)) (k:=(k:m)) bt omg_;obtain⟨L',e',mL,l'⟩:=Hx (i:=i) n (k+1) (L++O) omg_ omg_ (hI.add jL bH hO) (by rw[jc];omega);rw[Zx];simp only[j5A,show o Ss.length=(Ss.length:m) from rfl];rw[ah (show (k:m)<(Ss.length:m) by omega),bA (show (0:m)<=(i:m) by omega) omg_,bA (show (0:m)<=(k:m) by omega) omg_];simp only[j6,j8,gi,gk,e,j4];rw[ah (show L.length+O.length<=aG by simp[aG];omega),j6,aj (x:=(k:m)+1),aB];exact⟨L',e',mL,by rw[jc]at l';omega⟩
theorem Ň:∀(n i:D)(L:bG),i+n=Ss.length->me F Ss.length a b i (i+1) L->L.length+2*K*oA n<=900000->
  ∃L',Gd (i:m) Ss L=w L'/\me F Ss.length a b Ss.length (Ss.length+1) L'/\L'.length<=L.length+2*K*oA n
 |0,i,L,hi,hI,_=>by
  rw[Zy];simp only[j5B,show o Ss.length=(Ss.length:m) from rfl];rw[ai omg_,j7,aP];obtain rfl:i=Ss.length:=omg_;exact⟨L,rfl,hI,omg_⟩
 |n+1,i,L,hi,hI,hl=>by
  have hmul:2*K*oA (n+1)=2*K*oA n+2*K*n:=Nat.mul_add _ _ _;obtain⟨L1,e1,h1,l1⟩:=Hx bt hK BB hS (i:=i) n (i+1) L omg_ omg_ hI omg_;obtain⟨L2,e2,h2,l2⟩:=Ň n (i+1) L1 omg_ (h1.next (jn _)) omg_;rw[Zy];simp only[j5B,show o Ss.length=(Ss.length:m) from rfl];rw[ah (show (i:m)<(Ss.length:m) by omega),aj (x:=(i:m)+1),j6,show Gc (i:m) ((i:m)+1) Ss L=_ from e1];simp only[j4];rw[aj (x:=(i:m)+1),aB];exact⟨L2,e2,h2,omg_⟩
end
theorem jHV(x y:iK):jgk x y=w (iX x y):=by
 simp only[jgk,iX];cases (x.2.2.2.1 != y.2.2.2.1)<;>cases (x.2.1 != y.2.1)<;>rfl
theorem Ue(rec:bG->Option bG){a b:bG}(ha:a.length<=100000000)(hb:b.length<=100000000):∀(n i j:D)(out:bG),i<=a.length->j<=b.length->n=(a.length-i)+(b.length-j)->out.length+n<=200000000->
  J0 rec a b (i:m) (j:m) out=w (jG n out (a.drop i) (b.drop j))
 |0,i,j,out,hi,hj,hn,_=>by
  rw[Zv];simp only[j6g,show o a.length=(a.length:m) from rfl,show o b.length=(b.length:m) from rfl];rw[ai (show¬(i:m)<(a.length:m) by omega),j7,ai (show¬(j:m)<(b.length:m) by omega),j7,aP];rfl
 |n+1,i,j,out,hi,hj,hn,ho=>by
  have qP:=λ(x:iK)(h:i<a.length)=>Ue rec ha hb n (i+1) j (out++[x]) omg_ hj omg_ sqo_;have oH:=λ(x:iK)(h:j<b.length)=>Ue rec ha hb n i (j+1) (out++[x]) hi omg_ omg_ sqo_;have iH:∀x:iK,decide (out.length+[x].length<=aG)=true:=λx=>ah (by simp[aG];omega);rw[Zv];simp only[j6g,show o a.length=(a.length:m) from rfl,show o b.length=(b.length:m) from rfl]
  have ec:cond (decide ((i:m)<(a.length:m))) true (decide ((j:m)<(b.length:m)))=true:=by
   by_cases h:i<a.length
   .rw[ah omg_];rfl
   .rw[ai omg_,ah (show (j:m)<(b.length:m) by omega)];rfl
  rw[ec,j6];by_cases hja:j=b.length
  .have mQ:i<a.length:=omg_;have sN:a.getD i ((0:m),((0:m),((0:m),((0:m),(0:m)))))=a[i]:=by simp[q,mQ]
   rw[cR (show (j:m)=(b.length:m) by omega),j6,bA (i:=(i:m)) (n:=a.length) omg_ omg_,j6,aj (x:=(i:m)+1)];simp only[j8,sN,iH,j6,aB];have:=qP a[i] mQ;rw[show ((i+1:D):m)=(i:m)+1 by omega]at this;refine G this ?_;rw[jb mQ,show b.drop j=[] from jd omg_];rfl
  .have qA:j<b.length:=omg_;have wh:b.getD j ((0:m),((0:m),((0:m),((0:m),(0:m)))))=b[j]:=by simp[q,qA]
   rw[ca (show (j:m)≠(b.length:m) by omega),j7];by_cases mQ:i<a.length
   .have sN:a.getD i ((0:m),((0:m),((0:m),((0:m),(0:m)))))=a[i]:=by simp[q,mQ]
    rw[ah (show (i:m)<(a.length:m) by omega),j6,bA (i:=(i:m)) (n:=a.length) omg_ omg_,bA (i:=(j:m)) (n:=b.length) omg_ omg_,aj (x:=(i:m)+1),aj (x:=(j:m)+1)];simp only[j6,j8,sN,wh,iH];rw[show jgk (b[j].1,(b[j].2.1,(b[j].2.2.1,(b[j].2.2.2.1,b[j].2.2.2.2)))) (a[i].1,(a[i].2.1,(a[i].2.2.1,(a[i].2.2.2.1,a[i].2.2.2.2))))=_ from jHV b[j] a[i]];simp only[j4];cases hc:iX b[j] a[i]with
    |false=>simp only[jv,j6,aB];have:=qP a[i] mQ;rw[show ((i+1:D):m)=(i:m)+1 by omega]at this;refine G this ?_;rw[jb mQ,jb qA];show _=w (cond (!(iX b[j] a[i])) _ _);rw[hc];rfl
    |true=>simp only[jl,j7,aB];have:=oH b[j] qA;rw[show ((j+1:D):m)=(j:m)+1 by omega]at this;refine G this ?_;rw[jb mQ,jb qA];show _=w (cond (!(iX b[j] a[i])) _ _);rw[hc];rfl
   .rw[ai (show¬(i:m)<(a.length:m) by omega),j7,bA (i:=(j:m)) (n:=b.length) omg_ omg_,j6,aj (x:=(j:m)+1)];simp only[j8,wh,iH,j6,aB];have:=oH b[j] qA;rw[show ((j+1:D):m)=(j:m)+1 by omega]at this;refine G this ?_;rw[jb qA,show a.drop i=[] from jd omg_];rfl
theorem LG:∀(n:D)(l:bG),l.length<=50000000->(iB j3Y n l=J/\n<=l.length)\/iB j3Y n l=w (mf l.length l)
 |0,l,_=> .inl ⟨rfl,kp _⟩
 |n+1,l,hl=>by
  show (J1 (λv0=>iB j3Y n v0) l=J/\_)\/J1 (λv0=>iB j3Y n v0) l=_;simp only[J1,show o l.length=(l.length:m) from rfl];by_cases h2:l.length<2
  .right;rw[ah (show (l.length:m)<2 by omega),j6];cases hk:l.length with
   |zero=>rfl
   |succ k=>unfold mf;rw[if_pos h2]
  .rw[ai (show¬(l.length:m)<2 by omega),j7,rh omg_,aj (x:=(l.length:m)/2),show ((l.length:m)/2).toNat=l.length/2 by omega];rw[ah (show (0:m)<=0 by omega),ah (show (0:m)<=(l.length:m)/2 by omega),ah (show (l.length:m)/2<=(l.length:m) by omega),ah (show (l.length:m)<=(l.length:m) by omega)];simp only[zt,j6,jr,List.take_length];have hA:(l.take (l.length/2)).length=l.length/2:=sqo_;have hB:(l.drop (l.length/2)).length=l.length-l.length/2:=smp_;rcases LG n (l.take (l.length/2)) omg_ with⟨e1,k1⟩|e1
   .exact .inl ⟨by rw[e1];rfl,omg_⟩
   .rw[e1,j4];rcases LG n (l.drop (l.length/2)) omg_ with⟨e2,k2⟩|e2
    .exact .inl ⟨by rw[e2];rfl,omg_⟩
    .right;rw[e2,j4];have o1:=(Hw (l.take (l.length/2)).length (l.take (l.length/2)) omg_).2.length_eq;have o2:=(Hw (l.drop (l.length/2)).length (l.drop (l.length/2)) omg_).2.length_eq;generalize Ub:mf (l.take (l.length/2)).length (l.take (l.length/2))=SA at *;generalize Uc:mf (l.drop (l.length/2)).length (l.drop (l.length/2))=SB at *;have:=Ue (λv0=>iB j3Y n v0) (a:=SA) (b:=SB) omg_ omg_ (SA.length+SB.length) 0 0 [] omg_ omg_ omg_ sqo_;rw[show ((0:D):m)=0 from rfl,jr,jr]at this;rw[this,j4];obtain⟨k,hk⟩:∃k,l.length=k+1:=⟨l.length-1,omg_⟩
     have e3:mf l.length l=jG l.length [] SA SB:=by
      conv=>lhs;rw[hk];unfold mf
      rw[if_neg h2,<-Ub,<-Uc,LF k (l.take (l.length/2)).length _ omg_ omg_,LF k (l.drop (l.length/2)).length _ omg_ omg_]
     rw[e3];rw[ņ l.length [] SA SB omg_]
theorem jvY{l:bG}(hl:l.length<=50000000):jma l=w (mf l.length l):=
 IL ⟨l.length+1,(LG (l.length+1) l hl).resolve_left (λh=>by have:=h.2;omega)⟩ (λn y h=>by
  rcases LG n l hl with⟨e,_⟩|e
  .rw[e]at h;simp at h
  .rw[e]at h;exact(Option.some.inj h).symm)
section
variable{zs:E bF}{ps:E cI}{cs:E aU}(hs:cC zs ps cs)
include hs
theorem ň{K:D}(hK:K<=2500){ss:E cu}(hc:nT (zs,(ps,(cs,ss))))(hl:ss.length<=100){a b:m}(ha:0<=a)(bt:a<b)(hb:b<=8589934592)(hlen:b-a<=1209600)(gG:∀s∈ss,∃out,dg (cN zs cs s) b J a out/\out.length<=K):∀(n i:D)(acc:E bm),i+n=ss.length->acc.length=i->
  (∀j (h:j<acc.length) (h':j<ss.length),dg (cN zs cs ss[j]) b J a acc[j]/\acc[j].length<=K)->
  ∃Ss,Gb a b (i:m) zs ps cs ss acc=w (.inr Ss)/\Ss.length=ss.length/\∀j (h:j<Ss.length) (h':j<ss.length),dg (cN zs cs ss[j]) b J a Ss[j]/\Ss[j].length<=K
 |0,i,acc,hi,BE,hg=>by
  rw[Zw];simp only[j5z,show o ss.length=(ss.length:m) from rfl];rw[ai omg_,j7,aP];exact⟨acc,rfl,omg_,hg⟩
 |n+1,i,acc,hi,BE,hg=>by
  have bh:i<ss.length:=omg_;obtain⟨S,hS,lS⟩:=gG _ (jf bh);have e:=jBm hs hc bh ha (vi bt) hb hlen hS omg_
  obtain⟨Ss,e2,h2,h3⟩:=ň hK hc hl ha bt hb hlen gG n (i+1) (acc++[S]) omg_ sqo_ (λj h h'=>by
   simp only[jc,qe]at h;by_cases hj:j<acc.length
   .rw[List.getElem_append_left hj];exact hg j hj h'
   .have:j=i:=omg_;subst this;rw[List.getElem_append_right omg_];simp only[BE,yx,List.getElem_cons_zero];exact⟨hS,lS⟩)
  rw[Zw];simp only[j5z,show o ss.length=(ss.length:m) from rfl];rw[ah (show (i:m)<(ss.length:m) by omega),j6,show jcI (zs,(ps,(cs,ss))) (i:m) a b=_ from e];simp only[j4,jk,j7];rw[ah (show acc.length+[_].length<=aG by simp[aG];omega),j6,aj (x:=(i:m)+1),aB];exact⟨Ss,e2,h2,h3⟩
theorem jD1{K:D}(hK:K<=2500){ss:E cu}(hc:nT (zs,(ps,(cs,ss))))(hl:ss.length<=3){a b:m}(ha:0<=a)(bt:a<b)(hb:b<=8589934592)(hlen:b-a<=1209600)(gG:∀s∈ss,∃out,dg (cN zs cs s) b J a out/\out.length<=K)
  {L:bG}(hL:me (λj=>cN zs cs (ss.getD j (H,([],[])))) ss.length a b ss.length (ss.length+1) L) :
  ∃X,jeo (zs,(ps,(cs,ss))) a b=w (X,0)/\X.Pairwise qC/\(∀z,z∈X↔z∈L)/\X.length<=15000:=by
 obtain⟨Ss,e1,h1,h2⟩:=ň hs hK hc omg_ ha bt hb hlen gG ss.length 0 [] omg_ rfl (λj h=>by simp at h)
 have hS:∀j (h:j<Ss.length),dg ((λj=>cN zs cs (ss.getD j (H,([],[])))) j) b J a Ss[j]/\Ss[j].length<=K:=λj h=>by
  have hj:j<ss.length:=omg_;have aT:ss.getD j (H,(([]:E bP),([]:E dN)))=ss[j]:=by simp[q,hj]
  dsimp only
  rw[aT];exact h2 j h hj
 have xb:oA Ss.length<=3:=by have:Ss.length=0\/Ss.length=1\/Ss.length=2\/Ss.length=3:=omg_;rcases this with h|h|h|h<;>rw[h]<;>decide
 have hmul:2*K*oA Ss.length<=2*2500*3:=ql (vj _ hK) xb;obtain⟨L',e3,h3,l3⟩:=Ň bt hK omg_ hS Ss.length 0 [] omg_ ⟨smp_,List.Pairwise.nil,λi' k' h1 h2 h3=>omg_⟩ (by rw[jw];omega);rw[h1]at h3;have TN:L'.length<=15000:=by rw[jw]at l3;omega
 obtain⟨s1,s2⟩:=Hw L'.length L' omg_;refine⟨mf L'.length L',?_,s1,λz=>⟨λh=>h3.sub hL z (s2.mem_iff.1 h),λh=>s2.mem_iff.2 (hL.sub h3 z h)⟩,by rw[s2.length_eq];exact TN⟩;have er:j6V a b=w true:=by simp only[j6V];rw[ah (show a>=0 from ha),ah (show a<=8589934592 by omega),ah (show b>=a by omega),ah hb,aj (x:=b-a),ah (show b-a<=34560000 by omega)];rfl
 simp only[jeo,show jeh (zs,(ps,(cs,ss)))=_ from ϒ hc (ϖ hs),j4,jk,j7,er,jl];rw[show Gb a b 0 zs ps cs ss []=_ from e1];simp only[j4,kV];rw[show Gd 0 Ss []=_ from e3];simp only[j4,show o L'.length=(L'.length:m) from rfl];rw[ai (show¬(L'.length:m)>16384 by omega),j7,jvY omg_];rfl
end
set_option linter.unusedSectionVars false
section
variable{l:SL}{p:m}(h:bB p l)(hp : -1<=p)(hl:l.length<=4096)(hb:∀u∈l,u.2<=8589934592)
include h hp hl hb
theorem ŉ(x:m):∃b,jk6 l x=w b/\(b=true↔bq x l):=by
 obtain⟨k,e,hk,h1,h2⟩:=SJ h hp hl hb x l.length 0 l.length omg_ omg_ omg_ (λi hi=>omg_) (λi hi hi2=>omg_);rw[show ((0:D):m)=0 from rfl]at e;simp only[jk6,show o (List.length l)=(l.length:m) from rfl,e,j4];by_cases iv:k<l.length
 .rw[ah (show (k:m)<(l.length:m) by omega),bJ];simp only[qz,j6,j8];refine⟨_,rfl,?_⟩;rw[decide_eq_true_iff];have aT:l.getD k ((0:m),(0:m))=l[k]:=by simp[iv]
  constructor
  .intro hx;exact⟨l[k],jf iv,by rw[<-aT];exact hx,by rw[<-aT];exact h2 k (jn _) iv⟩
  .rintro⟨s,hs,c1,c2⟩
   obtain⟨i,hi,rfl⟩:=qa hs;have AJ:l.getD i ((0:m),(0:m))=l[i]:=by simp[hi]
   rw[<-AJ]at c1 c2;rcases zo i k with h'|h'|h'
   .have:=h1 i h';omega
   .subst h';exact c1
   .have g1:=G6 h k i h' hi;have g2:=Bz h k iv;omega
 .rw[ai (show¬(k:m)<(l.length:m) by omega)];simp only[jv,Bool.or_true,j6,j7];refine⟨false,rfl,?_⟩;simp only[kv,false_iff]
  rintro⟨s,hs,c1,c2⟩
  obtain⟨i,hi,rfl⟩:=qa hs;have AJ:l.getD i ((0:m),(0:m))=l[i]:=by simp[hi]
  have:=h1 i omg_;rw[AJ]at this;omega
end
def kJ(l:SL):E Int:=l.flatMap λu=>[u.1,u.2]
theorem Dh:∀l:SL,(kJ l).length=2*l.length
 |[]=>rfl
 |u::r=>by
  have:=Dh r;simp only[kJ]at this;simp only[kJ,z7,jc,ji,jw,this];omega
theorem LH{l:SL}{u:m×m}(h:u∈l):u.1∈kJ l/\u.2∈kJ l:=
 ⟨qg.2 ⟨u,h,smp_⟩,qg.2 ⟨u,h,smp_⟩⟩
theorem Ŋ{l:SL}{x:m}(h:x∈kJ l):∃u∈l,x=u.1\/x=u.2:=by
 obtain⟨u,hu,hx⟩:=qg.1 h;exact⟨u,hu,by simpa using hx⟩
theorem ŋ{a b:SL}{k:m}(hl:a.length<=1000000):∀(n i:D)(acc:E m),i+n=a.length->acc.length+2*n<=10000000->Ge a b k (i:m) acc=w (a,b,k,acc++kJ (a.drop i))
 |0,i,acc,hi,_=>by
  rw[ZB];simp only[j5C,show o a.length=(a.length:m) from rfl];rw[ai omg_,j7,aP,jd omg_];simp[kJ]
 |n+1,i,acc,hi,ha=>by
  have aq:i<a.length:=omg_;have aT:a.getD i ((0:m),(0:m))=a[i]:=by simp[q,aq]
  have ih:=ŋ (b:=b) (k:=k) hl n (i+1) (acc++[a[i].1,a[i].2]) omg_ sqo_;rw[ZB];simp only[j5C,show o a.length=(a.length:m) from rfl];rw[ah omg_,bJ,aj (x:=(i:m)+1)];simp only[j6,j8,aT];rw[ah (show acc.length+[a[i].1,a[i].2].length<=aG by simp[aG];omega),j6,aB];refine G ih ?_;rw[jb aq,jh];rfl
theorem Ō{a b:SL}{k:m}(hl:b.length<=1000000):∀(n i:D)(acc:E m),i+n=b.length->acc.length+2*n<=10000000->Gf a b k (i:m) acc=w (a,b,k,acc++kJ (b.drop i))
 |0,i,acc,hi,_=>by
  rw[ZC];simp only[j5D,show o b.length=(b.length:m) from rfl];rw[ai omg_,j7,aP,jd omg_];simp[kJ]
 |n+1,i,acc,hi,ha=>by
  have aq:i<b.length:=omg_;have aT:b.getD i ((0:m),(0:m))=b[i]:=by simp[q,aq]
  have ih:=Ō (a:=a) (k:=k) hl n (i+1) (acc++[b[i].1,b[i].2]) omg_ sqo_;rw[ZC];simp only[j5D,show o b.length=(b.length:m) from rfl];rw[ah omg_,bJ,aj (x:=(i:m)+1)];simp only[j6,j8,aT];rw[ah (show acc.length+[b[i].1,b[i].2].length<=aG by simp[aG];omega),j6,aB];refine G ih ?_;rw[jb aq,jh];rfl
theorem ō{l:SL}{bW:E m}(hs:bW.Pairwise (· < ·))(he:∀u∈l,u.1∈bW/\u.2∈bW){i:D}(hi:i+1<bW.length){y:m}(h1:bW[i]<=y)(h2:y<bW[i+1]):bq y l↔bq bW[i] l:=by
 have key:∀z∈bW,z<=bW[i]\/bW[i+1]<=z:=λz hz=>by
  obtain⟨j,hj,rfl⟩:=qa hz;rcases zo j i with h|h|h
  .exact .inl (vi (kg.1 hs j i hj omg_ h))
  .subst h;exact .inl (jy _)
  .by_cases fS:j=i+1
   .subst fS;exact .inr (jy _)
   .exact .inr (vi (kg.1 hs (i+1) j hi hj omg_))
 constructor
 .rintro⟨u,hu,c1,c2⟩
  obtain⟨m1,m2⟩:=he u hu;refine⟨u,hu,?_,?_⟩
  .rcases key _ m1 with h|h<;>omega
  .rcases key _ m2 with h|h<;>omega
 .rintro⟨u,hu,c1,c2⟩
  obtain⟨m1,m2⟩:=he u hu;refine⟨u,hu,omg_,?_⟩;rcases key _ m2 with h|h<;>omega
theorem Ŏ{a b:SL}{bW:E m}(hs:bW.Pairwise (· < ·))(hA:∀u∈a,u.1∈bW/\u.2∈bW)(hB:∀u∈b,u.1∈bW/\u.2∈bW)(ha:∀x,∃v,jk6 a x=w v/\(v=true↔bq x a))(hb:∀x,∃v,jk6 b x=w v/\(v=true↔bq x b))
  {p:m}(hp:∀z∈bW,p<z)(hl:bW.length<=1000000):∀(n i:D)(out:SL)(h:i+1+n=bW.length),bB p out->(∀s∈out,s.2<=bW[i])->(∀y,y<bW[i]->(bq y out↔bq y a/\bq y b))->out.length<=i->
  ∃Q,Bf a b 2 (i:m) bW out=w Q/\bB p Q/\(∀s∈Q,s.2<=bW[bW.length-1])/\(∀y,y<bW[bW.length-1]->(bq y Q↔bq y a/\bq y b))
 |0,i,out,h,h1,h2,h3,h4=>by
  rw[OO];simp only[j3M,show o bW.length=(bW.length:m) from rfl];rw[aj (x:=(i:m)+1),ai omg_,j7,aP];obtain rfl:i=bW.length-1:=omg_;exact⟨out,rfl,h1,h2,h3⟩
 |n+1,i,out,h,h1,h2,h3,h4=>by
  have hi:i<bW.length:=omg_;have xh:i+1<bW.length:=omg_;have g0:bW.getD i (0:m)=bW[i]:=by simp[q,hi]
  have g1:bW.getD (i+1) (0:m)=bW[i+1]:=by simp[q,xh]
  have aq:=kg.1 hs i (i+1) hi xh omg_;obtain⟨va,ea,ia⟩:=ha bW[i];obtain⟨vb,eb,ib⟩:=hb bW[i]
  have mid:∀y,bW[i]<=y->y<bW[i+1]->((bq y a/\bq y b)↔(va=true/\vb=true)):=λy y1 y2=>by
   rw[ō hs hA xh y1 y2,ō hs hB xh y1 y2,ia,ib]
  have ih:=λ(lj:SL)(q1:bB p lj)(q2:∀s∈lj,s.2<=bW[i+1])(q3:∀y,y<bW[i+1]->(bq y lj↔bq y a/\bq y b))(q4:lj.length<=i+1)=>Ŏ hs hA hB ha hb hp hl n (i+1) lj omg_ q1 q2 q3 q4;rw[show ((i+1:D):m)=(i:m)+1 by omega]at ih;rw[OO];simp only[j3M,show o bW.length=(bW.length:m) from rfl,show o out.length=(out.length:m) from rfl];rw[aj (x:=(i:m)+1),ah (show (i:m)+1<(bW.length:m) by omega),bA (show (0:m)<=(i:m) by omega) (show (i:m)<(bW.length:m) by omega),bA (show (0:m)<=(i:m)+1 by omega) (show (i:m)+1<(bW.length:m) by omega)];simp only[j6,j8,g0,show ((i:m)+1).toNat=i+1 by omega,g1,ea,eb,j4];rw[show ((2:m)==1)=false from rfl,show ((2:m)==2)=true from rfl,show ((2:m)==3)=false from rfl];simp only[j6,j7]
  have nW:¬(va=true/\vb=true)->∃Q,Bf a b 2 ((i:m)+1) bW out=w Q/\bB p Q/\(∀s∈Q,s.2<=bW[bW.length-1])/\(∀y,y<bW[bW.length-1]->(bq y Q↔bq y a/\bq y b)):=λhn=>by
   refine ih out h1 (λs cW=>by have:=h2 s cW;omega) (λy hy=>?_) omg_;by_cases oe:y<bW[i]
   .exact h3 y oe
   .rw[mid y omg_ hy];constructor
    .rintro⟨s,cW,c1,c2⟩
     have:=h2 s cW;omega
    .intro h';exact absurd h' hn
  cases va with
  |false=>simp only[jv,j6,aB];exact nW smp_
  |true=>
   cases vb with
   |false=>simp only[jl,jv,j6,j7,aB];exact nW smp_
   |true=>
    simp only[jl,j7];obtain⟨j1,j2,j3⟩:=į (x:=(bW[i],bW[i+1])) h1 (hp _ (jf hi)) aq h2;have mw:=T6 out (bW[i],bW[i+1])
    have sZ:∃Q,Bf a b 2 ((i:m)+1) bW (gS out (bW[i],bW[i+1]))=w Q/\bB p Q/\(∀s∈Q,s.2<=bW[bW.length-1])/\(∀y,y<bW[bW.length-1]->(bq y Q↔bq y a/\bq y b)):=by
     refine ih _ j1 j3 (λy hy=>?_) omg_;rw[j2 y];dsimp only;by_cases oe:y<bW[i]
     .rw[h3 y oe];constructor
      .rintro (h'|h')
       .exact h'
       .omega
      .exact .inl
     .rw[mid y omg_ hy];exact⟨λ_=>⟨rfl,rfl⟩,λ_=> .inr ⟨omg_,hy⟩⟩
    by_cases h0:out.length=0
    .have ho:out=[]:=k9.1 h0;subst ho;rw[ai (show¬((([]:SL).length:D):m)>0 by simp),j7,ah (show ([]:SL).length+[(bW[i],bW[i+1])].length<=aG by simp[aG]),j6,aB];exact sZ
    .rw[ah (show (out.length:m)>0 by omega),j6,aj (x:=(out.length:m)-1),bA (show (0:m)<=(out.length:m)-1 by omega) (show (out.length:m)-1<(out.length:m) by omega),j6,show ((out.length:m)-1).toNat=out.length-1 by omega];by_cases he:(out.getD (out.length-1) (0,0)).2=bW[i]
     .rw[cR he];simp only[j6,aB];have hj:gS out (bW[i],bW[i+1])=out.set (out.length-1) ((out.getD (out.length-1) (0,0)).1,bW[i+1]):=by unfold gS;rw[ah (show 0<out.length by omega),ah he];rfl
      rw[hj]at sZ;exact sZ
     .rw[ca he,j7,ah (show out.length+[(bW[i],bW[i+1])].length<=aG by simp[aG];omega),j6,aB];have hj:gS out (bW[i],bW[i+1])=out++[(bW[i],bW[i+1])]:=by unfold gS;rw[ah (show 0<out.length by omega),ai he];rfl
      rw[hj]at sZ;exact sZ
theorem jD2{a b:SL}{p:m}(ha:bB p a)(hb:bB p b)(hp : -1<=p)(la:a.length<=4096)(lb:b.length<=4096)(ba:∀u∈a,u.2<=8589934592)(bb:∀u∈b,u.2<=8589934592){R:SL}(hR:bB p R)(IP:∀y,bq y R↔bq y a/\bq y b)(hRl:R.length<=4096) :
  jnt a b=w (R,0):=by
 have e0:=ŋ (a:=a) (b:=b) (k:=2) omg_ a.length 0 [] omg_ sqo_;have e2:=Ō (a:=a) (b:=b) (k:=2) omg_ b.length 0 (kJ a) omg_ (by rw[Dh];omega);rw[show ((0:D):m)=0 from rfl,jr]at e0 e2;rw[jp]at e0;have gV:(kJ a++kJ b).length<=50000000:=by rw[jc,Dh,Dh];omega
 obtain⟨s1,s2,s3⟩:=BJ (kJ a++kJ b).length (kJ a++kJ b) omg_;have e3:=Ĺ gV;generalize ot:gT (kJ a++kJ b).length (kJ a++kJ b)=bW at *;have uO:bW.length<=1000000:=by rw[jc,Dh,Dh]at s3;omega
 have hA:∀u∈a,u.1∈bW/\u.2∈bW:=λu hu=>⟨(s2 _).2 (jx _ (LH hu).1),(s2 _).2 (jx _ (LH hu).2)⟩;have hB:∀u∈b,u.1∈bW/\u.2∈bW:=λu hu=>⟨(s2 _).2 (k5 _ (LH hu).1),(s2 _).2 (k5 _ (LH hu).2)⟩
 have low:∀{l:SL},bB p l->∀u∈l,p<u.1/\u.1<u.2:=λ{l} h u hu=>by
  obtain⟨i,hi,rfl⟩:=qa hu;have:=Bz h i hi;rwa[show l.getD i (0,0)=l[i] by simp[hi]]at this
 have TJ:∀z∈bW,p<z:=λz hz=>by
  rcases jj.1 ((s2 z).1 hz) with h|h
  .obtain⟨u,hu,h'⟩:=Ŋ h;have:=low ha u hu;rcases h' with rfl|rfl<;>omega
  .obtain⟨u,hu,h'⟩:=Ŋ h;have:=low hb u hu;rcases h' with rfl|rfl<;>omega
 have dL:Bf a b 2 0 bW []=w R:=by
  by_cases h0:bW.length=0
  .have ea:bW=[]:=k9.1 h0
   have ea0:a=[]:=by
    cases a with
    |nil=>rfl
    |cons u r=>have:=(hA u smp_).1;rw[ea]at this;simp at this
   have er:R=[]:=by
    cases R with
    |nil=>rfl
    |cons u r=>have:=(IP u.1).1 ⟨u,smp_,jy _,(low hR u smp_).2⟩;rw[ea0]at this;exact absurd this.1 fp
   rw[OO];simp only[j3M,ea,jw];rw[aj (x:=(0:m)+1),ai (by decide),j7,aP,er]
  .obtain⟨Q,q1,q2,q3,q4⟩:=Ŏ s1 hA hB (λx=>ŉ ha hp la ba x) (λx=>ŉ hb hp lb bb x) TJ uO (bW.length-1) 0 [] omg_ trivial smp_ (λy hy=>by
    constructor
    .intro h';exact absurd h' fp
    .rintro⟨⟨u,hu,c1,c2⟩,_⟩
     obtain⟨j,hj,e⟩:=qa (hA u hu).1;rcases yp j with rfl|fS
     .omega
     .have:=kg.1 s1 0 j omg_ hj fS;omega) smp_
   rw[show ((0:D):m)=0 from rfl]at q1;rw[q1];refine jo w (T5 q2 hR λy=>?_);rw[IP y];by_cases hy:y<bW[bW.length-1]
   .exact q4 y hy
   .constructor
    .rintro⟨s,cW,c1,c2⟩
     have:=q3 s cW;omega
    .rintro⟨⟨u,hu,c1,c2⟩,_⟩
     obtain⟨j,hj,e⟩:=qa (hA u hu).2;by_cases mw:j=bW.length-1
     .subst mw;omega
     .have:=kg.1 s1 j (bW.length-1) hj omg_ omg_;omega
 simp only[jnt,jk7,X_ ha hp la ba,X_ hb hp lb bb,j4,jl,j7];rw[show Ge a b 2 0 []=_ from e0];simp only[j4];rw[show Gf a b 2 0 (kJ a)=_ from e2];simp only[j4,e3,dL,show o R.length=(R.length:m) from rfl];rw[ai (show¬(R.length:m)>4096 by omega)];rfl
end Go.Proofs.Pw
