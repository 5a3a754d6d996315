/- The iI sort of numbers, each once; the w7 of a range. -/
import Derived.Test.YtkoifkkadkmecaaGreatLRPA
import Derived.Test.YtkoifkkadkmecaaGreatLRFns
import Derived.Test.YtkoifkkadkmecaaGreatLRPK
import Derived.Test.YtkoifkkadkmecaaGreatLRPE
import Derived.Test.YtkoifkkadkmecaaGreatLRPS
open _root_ renaming Int->p,List->w,Nat->I
open Int renaming ofNat->B
open ByteArray renaming empty->E
open Option renaming some->F,none->U
open Decidable renaming decide->G
open List.Pairwise renaming nil->H
open List renaming getD->J
open Go Go.Lft
namespace Go.Proofs.Pw
def fJ(out:w p)(x:p):w Int:=cond (cond (G (out.length=0)) true (out.getD (out.length-1) 0 != x)) (out++[x]) out
def iC:I->w p->w p->w p->w p
 |0,out,_,_=>out
 |n+1,out,x::a,y::b=>cond (G (x<=y)) (iC n (fJ out x) a (y::b)) (iC n (fJ out y) (x::a) b)
 |n+1,out,x::a,[]=>iC n (fJ out x) a []
 |n+1,out,[],y::b=>iC n (fJ out y) [] b
 |_+1,out,[],[]=>out
def gT:I->w p->w p
 |0,l=>l
 |n+1,l=>if l.length<2 then l else iC l.length [] (gT n (l.take (l.length/2))) (gT n (l.drop (l.length/2)))
theorem Dg(out:w p)(x:p):(fJ out x).length<=out.length+1:=by
 unfold fJ;cases (cond (G (out.length=0)) true (out.getD (out.length-1) 0 != x))<;>simp
theorem Lw{out:w p}{x:p}(h:out.Pairwise (· < ·))(hx:∀y∈out,y<=x):(fJ out x).Pairwise (· < ·)/\(∀y,y∈fJ out x↔y∈out\/y=x)/\∀y∈fJ out x,y<=x:=by
 rcases vc out with rfl|⟨A,u,rfl⟩
 .refine⟨by simp[fJ],λy=>by simp[fJ],λy hy=>?_⟩;have:y=x:=by simpa[fJ]using hy
  omega
 .rw[vd]at h hx ⊢;have hg:(A++[u]).getD ((A++[u]).length-1) (0:p)=u:=by simp[J]
  unfold fJ;rw[hg,ai (show¬(A++[u]).length=0 by simp),j7];by_cases he:u=x
  .subst he;rw[jk,j7];exact⟨h,λy=>⟨.inl,λhy=>hy.elim id λe=>by simp[e]⟩,hx⟩
  .have bz:(u != x)=true:=by simp[he]
   rw[bz,j6];have VP:=hx u smp_;have hA:=(qh.1 h).2.2;refine⟨qh.2 ⟨h,smp_,λy hy z hz=>?_⟩,λy=>by simp[or_assoc],λy hy=>?_⟩
   .have:z=x:=by simpa using hz
    subst this;rcases jj.1 hy with hy|hy
    .have:=hA y hy u smp_;omega
    .have:y=u:=by simpa using hy
     omega
   .rcases jj.1 hy with hy|hy
    .exact hx y hy
    .have:y=x:=by simpa using hy
     omega
theorem Hr:∀(n:I)(out a b:w p),n=a.length+b.length->out.Pairwise (· < ·)->a.Pairwise (· < ·)->b.Pairwise (· < ·)->(∀x∈out,(∀y∈a,x<=y)/\∀y∈b,x<=y)->
  (iC n out a b).Pairwise (· < ·)/\(∀x,x∈iC n out a b↔x∈out\/x∈a\/x∈b)/\(iC n out a b).length<=out.length+n
 |0,out,a,b,hn,ho,_,_,_=>by
  have h1:a=[]:=k9.1 omg_;have h2:b=[]:=k9.1 omg_;subst h1;subst h2;exact⟨ho,λx=>by simp[iC],by simp[iC]⟩
 |n+1,out,x::a,y::b,hn,ho,ha,hb,hle=>by
  have mm:=jt.1 ha;have aW:=jt.1 hb;simp only[ji]at hn;unfold iC;by_cases iJ:x<=y
  .rw[ah iJ,j6];obtain⟨p1,p2,p3⟩:=Lw (x:=x) ho (λz hz=>(hle z hz).1 x smp_)
   obtain⟨q1,q2,q3⟩:=Hr n (fJ out x) a (y::b) sqo_ p1 mm.2 hb (λz hz=>by
    have:=p3 z hz;refine⟨λu hu=>by have:=mm.1 u hu;omega,λu hu=>?_⟩;rcases je.1 hu with rfl|hu
    .omega
    .have:=aW.1 u hu;omega)
   have:=Dg out x;refine⟨q1,λz=>?_,omg_⟩;rw[q2 z,p2 z];simp only[je];constructor
   .rintro ((h|h)|h|h)
    .exact .inl h
    .exact .inr (.inl (.inl h))
    .exact .inr (.inl (.inr h))
    .exact .inr (.inr h)
   .rintro (h|(h|h)|h)
    .exact .inl (.inl h)
    .exact .inl (.inr h)
    .exact .inr (.inl h)
    .exact .inr (.inr h)
  .rw[ai iJ,j7];obtain⟨p1,p2,p3⟩:=Lw (x:=y) ho (λz hz=>(hle z hz).2 y smp_)
   obtain⟨q1,q2,q3⟩:=Hr n (fJ out y) (x::a) b sqo_ p1 ha aW.2 (λz hz=>by
    have:=p3 z hz;refine⟨λu hu=>?_,λu hu=>by have:=aW.1 u hu;omega⟩;rcases je.1 hu with rfl|hu
    .omega
    .have:=mm.1 u hu;omega)
   have:=Dg out y;refine⟨q1,λz=>?_,omg_⟩;rw[q2 z,p2 z];simp only[je];constructor
   .rintro ((h|h)|h|h)
    .exact .inl h
    .exact .inr (.inr (.inl h))
    .exact .inr (.inl h)
    .exact .inr (.inr (.inr h))
   .rintro (h|h|h|h)
    .exact .inl (.inl h)
    .exact .inr (.inl h)
    .exact .inl (.inr h)
    .exact .inr (.inr h)
 |n+1,out,x::a,[],hn,ho,ha,hb,hle=>by
  have mm:=jt.1 ha;simp only[ji,jw]at hn;obtain⟨p1,p2,p3⟩:=Lw (x:=x) ho (λz hz=>(hle z hz).1 x smp_);obtain⟨q1,q2,q3⟩:=Hr n (fJ out x) a [] sqo_ p1 mm.2 hb (λz hz=>⟨λu hu=>by have:=mm.1 u hu;have:=p3 z hz;omega,λu hu=>by simp at hu⟩);have:=Dg out x;refine⟨q1,λz=>?_,by show (iC n (fJ out x) a []).length<=_;omega⟩;show z∈iC n (fJ out x) a []↔_;rw[q2 z,p2 z];simp only[je,zw,or_false,or_assoc]
 |n+1,out,[],y::b,hn,ho,ha,hb,hle=>by
  have aW:=jt.1 hb;simp only[ji,jw]at hn;obtain⟨p1,p2,p3⟩:=Lw (x:=y) ho (λz hz=>(hle z hz).2 y smp_);obtain⟨q1,q2,q3⟩:=Hr n (fJ out y) [] b sqo_ p1 ha aW.2 (λz hz=>⟨λu hu=>by simp at hu,λu hu=>by have:=aW.1 u hu;have:=p3 z hz;omega⟩);have:=Dg out y;refine⟨q1,λz=>?_,by show (iC n (fJ out y) [] b).length<=_;omega⟩;show z∈iC n (fJ out y) [] b↔_;rw[q2 z,p2 z];simp only[je,zw,false_or,or_assoc]
 |n+1,out,[],[],hn,_,_,_,_=>by simp at hn
theorem ĸ:∀(n:I)(out a b:w p),a.length+b.length<=n->iC n out a b=iC (a.length+b.length) out a b:=by
 intro n;induction n with
 |zero=>intro out a b h;have:a.length+b.length=0:=omg_;rw[this]
 |succ n ih=>
  intro out a b h;match a,b,h with
  |[],[],_=>rfl
  |x::a,[],h=>simp only[ji,jw,vr]at h ⊢;show iC n (fJ out x) a []=iC a.length (fJ out x) a [];have:=ih (fJ out x) a [] sqo_;simpa using this
  |[],y::b,h=>simp only[ji,jw,ki]at h ⊢;show iC n (fJ out y) [] b=iC b.length (fJ out y) [] b;have:=ih (fJ out y) [] b sqo_;simpa using this
  |x::a,y::b,h=>simp only[ji]at h ⊢;rw[show a.length+1+(b.length+1)=(a.length+b.length+1)+1 by omega];show cond _ (iC n (fJ out x) a (y::b)) (iC n (fJ out y) (x::a) b)=cond _ (iC (a.length+b.length+1) (fJ out x) a (y::b)) (iC (a.length+b.length+1) (fJ out y) (x::a) b);have h1:=ih (fJ out x) a (y::b) sqo_;have h2:=ih (fJ out y) (x::a) b sqo_;simp only[ji]at h1 h2;rw[h1,h2,show a.length+(b.length+1)=a.length+b.length+1 by omega,show a.length+1+b.length=a.length+b.length+1 by omega]
theorem BJ:∀(n:I)(l:w p),l.length<=n+1->(gT n l).Pairwise (· < ·)/\(∀x,x∈gT n l↔x∈l)/\(gT n l).length<=l.length
 |0,l,hl=>by
  refine⟨?_,λx=>Iff.rfl,jn _⟩;match l,hl with
  |[],_=>exact H
  |[x],_=>show List.Pairwise (· < ·) [x];simp
 |n+1,l,hl=>by
  unfold gT;by_cases h2:l.length<2
  .rw[if_pos h2];refine⟨?_,λx=>Iff.rfl,jn _⟩;match l,h2 with
   |[],_=>exact H
   |[x],_=>simp
  .rw[if_neg h2];obtain⟨a1,a2,a3⟩:=BJ n (l.take (l.length/2)) sqo_;obtain⟨b1,b2,b3⟩:=BJ n (l.drop (l.length/2)) sqo_;simp only[qk,zj]at a3 b3;rw[ĸ l.length [] _ _ omg_];obtain⟨q1,q2,q3⟩:=Hr _ [] (gT n (l.take (l.length/2))) (gT n (l.drop (l.length/2))) rfl H a1 b1 (λx hx=>by simp at hx);refine⟨q1,λx=>?_,by simp at q3;omega⟩;rw[q2 x,a2 x,b2 x];have hx:x∈l↔x∈l.take (l.length/2)++l.drop (l.length/2):=by rw[kq]
   rw[hx,jj];simp
theorem Lx:∀(n m:I)(l:w p),l.length<=n+1->l.length<=m+1->gT n l=gT m l
 |0,0,_,_,_=>rfl
 |0,m+1,l,h,_=>by unfold gT;rw[if_pos omg_]
 |n+1,0,l,_,h=>by unfold gT;rw[if_pos omg_]
 |n+1,m+1,l,h1,h2=>by
  unfold gT;by_cases h:l.length<2
  .rw[if_pos h,if_pos h]
  .rw[if_neg h,if_neg h,Lx n m _ sqo_ sqo_,Lx n m _ sqo_ sqo_]
theorem Ly{R:Type}(out:w p)(x:p)(hl:out.length<=400000000)(K:w p->Option R) :
  cond ((inR (w64 ((out.length:p)-1)) out.length) || !(!((out.length:p)==0))) (cond (cond ((out.length:p)==0) true (out.getD (w64 ((out.length:p)-1)).toNat 0 != x)) (cond (G (out.length+[x].length<=aG)) (K (out++[x])) U) (K out)) U=K (fJ out x):=by
 rw[aj (x:=(out.length:p)-1)];by_cases h0:out.length=0
 .have e:((out.length:p)==0)=true:=cR omg_;have:out=[]:=k9.1 h0;subst this;rfl
 .have e:((out.length:p)==0)=false:=ca omg_;rw[e,bA (i:=(out.length:p)-1) omg_ omg_,show ((out.length:p)-1).toNat=out.length-1 by omega];simp only[qz,j6,j7];unfold fJ;rw[ai h0,j7,ah (show out.length+[x].length<=aG by simp[aG];omega),j6];cases (out.getD (out.length-1) 0 != x)<;>rfl
theorem Ua(rec:w p->Option (w p)){a b:w p}(ha:a.length<=100000000)(hb:b.length<=100000000):∀(n i j:I)(out:w p),i<=a.length->j<=b.length->n=(a.length-i)+(b.length-j)->out.length+n<=200000000->
  JU rec (i:p) (j:p) out a b=F (iC n out (a.drop i) (b.drop j))
 |0,i,j,out,hi,hj,hn,_=>by
  rw[Zk];simp only[j7Q,show B a.length=(a.length:p) from rfl,show B b.length=(b.length:p) from rfl];rw[ai (show¬(i:p)<(a.length:p) by omega),j7,ai (show¬(j:p)<(b.length:p) by omega),j7,aP];rfl
 |n+1,i,j,out,hi,hj,hn,ho=>by
  have qP:=λ(x:p)(h:i<a.length)=>Ua rec ha hb n (i+1) j (fJ out x) omg_ hj omg_ (by have:=Dg out x;omega);have oH:=λ(x:p)(h:j<b.length)=>Ua rec ha hb n i (j+1) (fJ out x) hi omg_ omg_ (by have:=Dg out x;omega);rw[Zk];simp only[j7Q,show B a.length=(a.length:p) from rfl,show B b.length=(b.length:p) from rfl,show B out.length=(out.length:p) from rfl]
  have ec:cond (G ((i:p)<(a.length:p))) true (G ((j:p)<(b.length:p)))=true:=by
   by_cases h:i<a.length
   .rw[ah omg_];rfl
   .rw[ai omg_,ah (show (j:p)<(b.length:p) by omega)];rfl
  rw[ec,j6];by_cases hja:j=b.length
  .have mQ:i<a.length:=omg_;have sN:a.getD i (0:p)=a[i]:=by simp[J,mQ]
   rw[cR (show (j:p)=(b.length:p) by omega),j6,bA (i:=(i:p)) (n:=a.length) omg_ omg_,j6,aj (x:=(i:p)+1)];simp only[j8,sN];rw[Ly out a[i] omg_ (λo=>F (Sum.inl ((i:p)+1,(j:p),o,a,b))),aB];have:=qP a[i] mQ;rw[show ((i+1:I):p)=(i:p)+1 by omega]at this;refine this.trans ?_;rw[jb mQ,show b.drop j=[] from jd omg_];rfl
  .have qA:j<b.length:=omg_;have wh:b.getD j (0:p)=b[j]:=by simp[J,qA]
   rw[ca (show (j:p)≠(b.length:p) by omega),j7];by_cases mQ:i<a.length
   .have sN:a.getD i (0:p)=a[i]:=by simp[J,mQ]
    rw[ah (show (i:p)<(a.length:p) by omega),j6,bA (i:=(i:p)) (n:=a.length) omg_ omg_,bA (i:=(j:p)) (n:=b.length) omg_ omg_,aj (x:=(i:p)+1),aj (x:=(j:p)+1)];simp only[j6,j8,sN,wh];by_cases iJ:a[i]<=b[j]
    .rw[ah iJ,j6,Ly out a[i] omg_ (λo=>F (Sum.inl ((i:p)+1,(j:p),o,a,b))),aB];have:=qP a[i] mQ;rw[show ((i+1:I):p)=(i:p)+1 by omega]at this;refine this.trans ?_;rw[jb mQ,jb qA];show _=F (cond (G (a[i]<=b[j])) _ _);rw[ah iJ,j6]
    .rw[ai iJ,j7,Ly out b[j] omg_ (λo=>F (Sum.inl ((i:p),(j:p)+1,o,a,b))),aB];have:=oH b[j] qA;rw[show ((j+1:I):p)=(j:p)+1 by omega]at this;refine this.trans ?_;rw[jb mQ,jb qA];show _=F (cond (G (a[i]<=b[j])) _ _);rw[ai iJ,j7]
   .rw[ai (show¬(i:p)<(a.length:p) by omega),j7,bA (i:=(j:p)) (n:=b.length) omg_ omg_,j6,aj (x:=(j:p)+1)];simp only[j8,wh];rw[Ly out b[j] omg_ (λo=>F (Sum.inl ((i:p),(j:p)+1,o,a,b))),aB];have:=oH b[j] qA;rw[show ((j+1:I):p)=(j:p)+1 by omega]at this;refine this.trans ?_;rw[jb qA,show a.drop i=[] from jd omg_];rfl
theorem Lz:∀(n:I)(l:w p),l.length<=50000000->(iB j6d n l=U/\n<=l.length)\/iB j6d n l=F (gT l.length l)
 |0,l,_=> .inl ⟨rfl,kp _⟩
 |n+1,l,hl=>by
  show (JV (λv0=>iB j6d n v0) l=U/\_)\/JV (λv0=>iB j6d n v0) l=_;simp only[JV,show B l.length=(l.length:p) from rfl];by_cases h2:l.length<2
  .right;rw[ah (show (l.length:p)<2 by omega),j6,ah (show ([]:w p).length+l.length<=aG by simp[aG];omega),j6,jp];cases hk:l.length with
   |zero=>rfl
   |succ k=>unfold gT;rw[if_pos h2]
  .rw[ai (show¬(l.length:p)<2 by omega),j7,rh omg_,aj (x:=(l.length:p)/2),show ((l.length:p)/2).toNat=l.length/2 by omega];rw[ah (show (0:p)<=0 by omega),ah (show (0:p)<=(l.length:p)/2 by omega),ah (show (l.length:p)/2<=(l.length:p) by omega),ah (show (l.length:p)<=(l.length:p) by omega)];simp only[zt,j6,jr,List.take_length];have hA:(l.take (l.length/2)).length=l.length/2:=sqo_;have hB:(l.drop (l.length/2)).length=l.length-l.length/2:=smp_;rcases Lz n (l.take (l.length/2)) omg_ with⟨e1,k1⟩|e1
   .exact .inl ⟨by rw[e1];rfl,omg_⟩
   .rw[e1,j4];rcases Lz n (l.drop (l.length/2)) omg_ with⟨e2,k2⟩|e2
    .exact .inl ⟨by rw[e2];rfl,omg_⟩
    .right;rw[e2,j4];have o1:=BJ (l.take (l.length/2)).length (l.take (l.length/2)) omg_;have o2:=BJ (l.drop (l.length/2)).length (l.drop (l.length/2)) omg_;generalize Ub:gT (l.take (l.length/2)).length (l.take (l.length/2))=SA at *;generalize Uc:gT (l.drop (l.length/2)).length (l.drop (l.length/2))=SB at *;have:=Ua (λv0=>iB j6d n v0) (a:=SA) (b:=SB) omg_ omg_ (SA.length+SB.length) 0 0 [] omg_ omg_ omg_ sqo_;rw[show ((0:I):p)=0 from rfl,jr,jr]at this;rw[this,j4];obtain⟨k,hk⟩:∃k,l.length=k+1:=⟨l.length-1,omg_⟩
     have e3:gT l.length l=iC l.length [] SA SB:=by
      conv=>lhs;rw[hk];unfold gT
      rw[if_neg h2,<-Ub,<-Uc,Lx k (l.take (l.length/2)).length _ omg_ omg_,Lx k (l.drop (l.length/2)).length _ omg_ omg_]
     rw[e3];rw[ĸ l.length [] SA SB (by have:=o1.2.2;have:=o2.2.2;omega)]
theorem Ĺ{l:w p}(hl:l.length<=50000000):jnp l=F (gT l.length l):=
 IL ⟨l.length+1,(Lz (l.length+1) l hl).resolve_left (λh=>by have:=h.2;omega)⟩ (λn y h=>by
  rcases Lz n l hl with⟨e,_⟩|e
  .rw[e]at h;simp at h
  .rw[e]at h;exact(Option.some.inj h).symm)
def lF(a b x:p):Bool:=cond (G (x>a)) (G (x<b)) false
def jU(cg:w p)(a b:p):w Int:=(a::(gT cg.length cg).filter (lF a b))++(if b>a then [b] else [])
theorem ĺ{a b:p}{l:w p}(hl:l.length<=50000000):∀(n i:I)(out:w p),i+n=l.length->out.length+n<=100000000->JW a b (i:p) out l=F (a,b,out++(l.drop i).filter (lF a b))
 |0,i,out,hi,_=>by
  rw[Zl];simp only[j5y,show B l.length=(l.length:p) from rfl];rw[ai omg_,j7,aP,jd omg_];simp
 |n+1,i,out,hi,ho=>by
  have aq:i<l.length:=omg_;have aT:l.getD i (0:p)=l[i]:=by simp[J,aq]
  rw[Zl,jb aq];simp only[j5y,show B l.length=(l.length:p) from rfl];rw[ah (show (i:p)<(l.length:p) by omega),bA (i:=(i:p)) omg_ omg_,aj (x:=(i:p)+1)];simp only[j6,j8,aT,qz];have ih:=λout h=>ĺ (a:=a) (b:=b) hl n (i+1) out omg_ h;rw[show ((i+1:I):p)=(i:p)+1 by omega]at ih;show lpK (cond (lF a b l[i]) _ _) _=_;cases hc:lF a b l[i]with
  |true=>rw[j6,ah (by simp[aG];omega),j6,aB,List.filter_cons_of_pos hc];have:=ih (out++[l[i]]) sqo_;rw[jh]at this;exact this
  |false=>rw[j7,aB,List.filter_cons_of_neg (by simp[hc])];exact ih out omg_
theorem jyt{cg:w p}(hl:cg.length<=49000000)(a b:p):jgV cg a b=F (jU cg a b):=by
 obtain⟨_,_,h3⟩:=BJ cg.length cg omg_;have:=ĺ (a:=a) (b:=b) (l:=gT cg.length cg) omg_ (gT cg.length cg).length 0 [a] omg_ sqo_;rw[show ((0:I):p)=0 from rfl,jr]at this;have fh:((gT cg.length cg).filter (lF a b)).length<=(gT cg.length cg).length:=qo _ _;simp only[jgV,Ĺ (show cg.length<=50000000 by omega),j4,this];unfold jU;by_cases bt:b>a
 .rw[ah bt,j6,ah (by simp[aG];omega),j6,if_pos bt];rfl
 .rw[ai bt,j7,if_neg bt,kc];rfl
theorem jFw(cg:w p){a b:p}(bt:a<=b):(jU cg a b).Pairwise (· < ·)/\(jU cg a b).length<=cg.length+2/\(∀x∈jU cg a b,a<=x/\x<=b)/\(∀c∈cg,a<c->c<b->c∈jU cg a b)/\
  (∃r,jU cg a b=a::r)/\(a<b->∃r,jU cg a b=r++[b])/\(a=b->jU cg a b=[a]):=by
 obtain⟨h1,h2,h3⟩:=BJ cg.length cg omg_;have fh:((gT cg.length cg).filter (lF a b)).length<=(gT cg.length cg).length:=qo _ _
 have iE:∀x,x∈(gT cg.length cg).filter (lF a b)↔x∈cg/\a<x/\x<b:=λx=>by
  rw[kz,h2 x];unfold lF;constructor
  .rintro⟨hx,hc⟩
   by_cases lx:x>a
   .rw[ah lx,j6]at hc;exact⟨hx,lx,q8 hc⟩
   .rw[ai lx,j7]at hc;simp at hc
  .rintro⟨hx,lx,TS⟩
   exact⟨hx,by rw[ah (show x>a from lx),j6,ah TS]⟩
 have C8:((gT cg.length cg).filter (lF a b)).Pairwise (· < ·):=h1.filter _;unfold jU;by_cases aq:a<b
 .rw[if_pos (show b>a from aq)];refine⟨?_,?_,λx hx=>?_,λc hc h1 h2=>?_,⟨_,rfl⟩,λ_=>⟨_,rfl⟩,λh=>omg_⟩
  .refine qh.2 ⟨jt.2 ⟨λx hx=>((iE x).1 hx).2.1,C8⟩,smp_,λx hx y hy=>?_⟩;have:y=b:=by simpa using hy
   subst this;rcases je.1 hx with rfl|hx
   .exact aq
   .exact((iE x).1 hx).2.2
  .simp only[jc,ji,jw];omega
  .rcases jj.1 hx with hx|hx
   .rcases je.1 hx with rfl|hx
    .omega
    .have:=(iE x).1 hx;omega
   .have:x=b:=by simpa using hx
    omega
  .exact jj.2 (.inl (qx _ ((iE c).2 ⟨hc,h1,h2⟩)))
 .have hab':a=b:=omg_;rw[if_neg (show¬b>a by omega)];have fQ:(gT cg.length cg).filter (lF a b)=[]:=List.eq_nil_iff_forall_not_mem.2 (λx hx=>by have:=(iE x).1 hx;omega);rw[fQ];refine⟨smp_,smp_,λx hx=>?_,λc hc h1 h2=>omg_,⟨[],rfl⟩,λh=>omg_,λ_=>rfl⟩;have:x=a:=by simpa using hx
  omega
section
variable{z:bF}{l:bI}(h4:Z4 z l)
include h4
theorem BK{L:bP}(h:Rt L)(from_ Hs:p):∀(n:I)(k:p)(acc:w p),k+n=2386093->0<=k->(acc.length:p)<=k->
  ∃out,JO from_ Hs k z.1 z.2.1 z.2.2 L.1 L.2.1 L.2.2.1.1 L.2.2.1.2 L.2.2.2.1 L.2.2.2.2.1 L.2.2.2.2.2.1 L.2.2.2.2.2.2.1 L.2.2.2.2.2.2.2.1 L.2.2.2.2.2.2.2.2 acc=F (0,out)/\(out.length:p)<=2386094/\
   (∀x∈acc,x∈out)/\∀j v,k<=j->hO z.2.1 l L j=F v->from_<=v->v<Hs->v∈out
 |n,k,acc,hn,hk,ha=>by
  obtain⟨v',r7,h9⟩:=G1 h4 h (k:=k) hk omg_;rw[jk5];simp only[j6c];rw[show j8C (z.1,(z.2.1,z.2.2)) (L.1,L.2.1,(L.2.2.1.1,L.2.2.1.2),L.2.2.2.1,L.2.2.2.2.1,L.2.2.2.2.2.1,L.2.2.2.2.2.2.1,L.2.2.2.2.2.2.2.1,L.2.2.2.2.2.2.2.2) k=_ from r7];simp only[j4];cases hx:hO z.2.1 l L k with
  |none=>simp only[v8,jv,j6,aP];refine⟨acc,rfl,omg_,λx hx=>hx,λj v hj hv _ _=>?_⟩;obtain⟨u,hu,_⟩:=QO.le h4.2 h hj ⟨v,hv,jy v⟩;rw[hx]at hu;simp at hu
  |some t=>
   have:=h9 t hx;subst v';simp only[zm,jl,j7];by_cases jI:t>=Hs
   .rw[ah jI];simp only[j6,aP];refine⟨acc,rfl,omg_,λx hx=>hx,λj v hj hv _ wj=>?_⟩;obtain⟨u,hu,huv⟩:=QO.le h4.2 h hj ⟨v,hv,jy v⟩;rw[hx]at hu;simp at hu;omega
   .rw[ai jI,ah (show acc.length+[t].length<=aG by simp[aG];omega),aj (x:=k+1)];simp only[j6,j7];cases n with
    |zero=>have:=Bu h4.2 h hk hx;omega
    |succ n=>
     by_cases kB:t>=from_
     .rw[ah kB];simp only[j6,aB];obtain⟨out,e1,e2,e3,e4⟩:=BK h from_ Hs n (k+1) (acc++[t]) omg_ omg_ sqo_;refine⟨out,e1,e2,λx hx=>e3 x (by simp[hx]),λj v hj hv h1 h2=>?_⟩;by_cases tg:j=k
      .subst tg;rw[hx]at hv;simp at hv;subst hv;exact e3 t smp_
      .exact e4 j v omg_ hv h1 h2
     .rw[ai kB];simp only[j7,aB];obtain⟨out,e1,e2,e3,e4⟩:=BK h from_ Hs n (k+1) acc omg_ omg_ omg_;refine⟨out,e1,e2,e3,λj v hj hv h1 h2=>?_⟩;by_cases tg:j=k
      .subst tg;rw[hx]at hv;simp at hv;omega
      .exact e4 j v omg_ hv h1 h2
theorem jH9{a b:p}(ha:0<=a)(bt:a<=b)(hb:b<=8589934592)(hq:b-a<=34560000):j6V a b=F true:=by
 have _:=h4;simp only[j6V];rw[ah (show a>=0 from ha),ah (show a<=8589934592 by omega),ah (show b>=a from bt),ah hb,aj (x:=b-a),ah hq];rfl
theorem jCV{L:bP}(h:Rt L){a b:p}(ha:0<=a)(bt:a<=b)(hb:b<=8589934592)(hq:b-a<=34560000):∃out,jaX z L a b=F (out,0)/\out.length<=2386094/\∀j v,0<=j->hO z.2.1 l L j=F v->a<v->v<b->v∈out:=by
 obtain⟨K,eK,hK⟩:=Δ h4 h ha omg_
 have hKb:K<=2386092:=by
  rcases hK with⟨hK,_⟩|⟨hK,⟨y,hy,_⟩,_⟩
  .omega
  .exact(Bu h4.2 h hK hy).2.2
 obtain⟨k0,nd⟩:∃k0:p,k0=(if K>0 then K else 0):=⟨_,rfl⟩;have dE:0<=k0/\k0<=2386092/\(0<k0->k0=K):=by rw[nd];split<;>omega
 obtain⟨out,e1,e2,_,e4⟩:=BK h4 h a b (2386093-k0).toNat k0 [] omg_ dE.1 sqo_;refine⟨out,?_,omg_,λj v hj hv h1 h2=>?_⟩
 .have e2:jei (z.1,(z.2.1,z.2.2)) (L.1,L.2.1,(L.2.2.1.1,L.2.2.1.2),L.2.2.2.1,L.2.2.2.2.1,L.2.2.2.2.2.1,L.2.2.2.2.2.2.1,L.2.2.2.2.2.2.2.1,L.2.2.2.2.2.2.2.2)=_:=Β h4 L;simp only[jaX,e2,j4];rw[if_pos h];simp only[jk,j7,jH9 h4 ha bt hb hq,j4,jl];rw[show jek (z.1,(z.2.1,z.2.2)) (L.1,L.2.1,(L.2.2.1.1,L.2.2.1.2),L.2.2.2.1,L.2.2.2.2.1,L.2.2.2.2.2.1,L.2.2.2.2.2.2.1,L.2.2.2.2.2.2.2.1,L.2.2.2.2.2.2.2.2) a=_ from eK];simp only[j4];rw[<-nd,e1];rfl
 .by_cases tg:k0<=j
  .exact e4 j v tg hv omg_ h2
  .exfalso;have hKk:=dE.2.2 omg_;rcases hK with⟨hK,_⟩|⟨hK,hq,_⟩
   .omega
   .obtain⟨u,hu,hua⟩:=QO.le h4.2 h (show j<=K by omega) hq;rw[hv]at hu;simp at hu;omega
end
theorem jCW{z:bF}(hz:fY z){L:bP}(hR:Rt L){x y:p}(h0:0<=x)(iJ:x<=y)(h1:y<=8589934592)(df:∀j v,0<=j->hO z.2.1 (tb z).2 L j=F v->¬(x<v/\v<=y)):bQ z L x=bQ z L y:=by
 have a:=(pZ hz hR (t:=x) h0 omg_).2;have b:=(pZ hz hR (t:=y) omg_ h1).2;refine jR.uniq hz.ztab.2 hR (t:=y) ?_ b;have q:∀j,0<=j->QO z.2.1 (tb z).2 L y j->QO z.2.1 (tb z).2 L x j:=λj hj ⟨v,hv,HY⟩=>⟨v,hv,by have:=df j v hj hv;omega⟩;rcases a with⟨a1,a2⟩|⟨a1,a2,a3⟩
 .exact .inl ⟨a1,λh=>a2 (q 0 omg_ h)⟩
 .obtain⟨v,hv,DM⟩:=a2;exact .inr ⟨a1,⟨v,hv,omg_⟩,λh=>a3 (q _ omg_ h)⟩
theorem LA{z:bF}(hz:fY z){t:p}(h0:0<=t)(h1:t<=8589934592){k:I}(hk:k<=(tb z).2.length)(k1:aR (tb z).2 k<=t)(k2:t<aR (tb z).2 (k+1)) :
  cA z t=((t+bu z.2.1 (tb z).2 k)/86400,(t+bu z.2.1 (tb z).2 k)%86400)/\fe (cA z t)=(t+bu z.2.1 (tb z).2 k+259200)%604800:=by
 have e:=CW hz.ztab.2 hk k1 k2;have o0:=hz.ztab.2.of0 k hk;have o1:=hz.ztab.2.of1 k hk;have el:cA z t=((t+bu z.2.1 (tb z).2 k)/86400,(t+bu z.2.1 (tb z).2 k)%86400):=by simp only[cA,show j1n (tb z) t=_ from e,qd]
 refine⟨el,?_⟩;have gG:j8Y (cA z t)=F (fe (cA z t)):=(SP hz h0 h1).2;have h5:=Hq (d:=(t+bu z.2.1 (tb z).2 k)/86400) (s:=(t+bu z.2.1 (tb z).2 k)%86400) omg_ omg_ omg_ omg_;rw[el]at gG ⊢;rw[h5]at gG;have:=Option.some.inj gG;rw[<-this];congr 1;omega
theorem jCX{W:SL}{x y:p}(iJ:x<=y)(df:∀u∈W,¬(x<u.1/\u.1<=y)/\¬(x<u.2/\u.2<=y)):bq x W↔bq y W:=by
 constructor
 .rintro⟨u,hu,h1,h2⟩
  have:=df u hu;exact⟨u,hu,omg_,omg_⟩
 .rintro⟨u,hu,h1,h2⟩
  have:=df u hu;exact⟨u,hu,omg_,omg_⟩
theorem Ļ{o:p}{l:bI}{s:p}:∀(n j i:I),j<=i->i<j+n->tV o l s i->s-bu o l i∈ru o l s j n
 |0,_,_,h1,h2,_=>omg_
 |n+1,j,i,h1,h2,hs=>by
  simp only[ru];by_cases he:i=j
  .subst he;rw[if_pos hs];simp
  .exact k5 _ (Ļ n (j+1) i omg_ omg_ hs)
theorem jCY{z:bF}(hz:fY z){ds:w p}{x y:p}(h0:0<=x)(iJ:x<=y)(h1:y<=8589934592)(htr:∀i,i<(tb z).2.length->¬(x<gg (tb z).2 i/\gg (tb z).2 i<=y))
  (x9:∀d∈ds,∀i:p,0<=i->i<2->∀t∈jQ z.2.1 (tb z).2 ((d+i)*86400+0),¬(x<t/\t<=y)):G ((cA z x).1∈ds)=G ((cA z y).1∈ds):=by
 obtain⟨k,hk,k1,k2⟩:=tT hz.ztab.2 (t:=x) h0 omg_
 have k3:y<aR (tb z).2 (k+1):=by
  rcases qy k (tb z).2.length with hl|hl
  .have:=htr k hl;rw[kG hl]at k2 ⊢;omega
  .rw[show k=(tb z).2.length by omega,nP];omega
 obtain⟨e1,_⟩:=LA hz h0 omg_ hk k1 k2;obtain⟨e2,_⟩:=LA hz (t:=y) omg_ h1 hk omg_ k3
 have key:∀D:p,x+bu z.2.1 (tb z).2 k<D*86400->D*86400<=y+bu z.2.1 (tb z).2 k->∀d∈ds,∀i:p,0<=i->i<2->d+i=D->False:=λD d1 d2 d hd i i0 i1 Κ=>by
  have hs:tV z.2.1 (tb z).2 (D*86400+0) k:=⟨omg_,omg_⟩;have hm:D*86400+0-bu z.2.1 (tb z).2 k∈jQ z.2.1 (tb z).2 ((d+i)*86400+0):=by rw[Κ];exact Ļ _ 0 k omg_ omg_ hs
  exact x9 d hd i i0 i1 _ hm ⟨omg_,omg_⟩
 rw[e1,e2];by_cases he:(x+bu z.2.1 (tb z).2 k)/86400=(y+bu z.2.1 (tb z).2 k)/86400
 .rw[he]
 .have fw:¬(x+bu z.2.1 (tb z).2 k)/86400∈ds:=λhd=>key ((x+bu z.2.1 (tb z).2 k)/86400+1) omg_ omg_ _ hd 1 omg_ omg_ rfl;have iQ:¬(y+bu z.2.1 (tb z).2 k)/86400∈ds:=λhd=>key ((y+bu z.2.1 (tb z).2 k)/86400) omg_ omg_ _ hd 0 omg_ omg_ omg_;rw[ai fw,ai iQ]
def xg(W:SL):w Int:=W.flatMap λu=>[u.1,u.2]
theorem jFx(W:SL):(xg W).length=2*W.length:=by
 induction W with
 |nil=>rfl
 |cons x r ih=>have:xg (x::r)=[x.1,x.2]++xg r:=rfl;rw[this,jc,ih];simp;omega
section
variable{zs:w bF}{ps:w cI}{cs:w aU}{ss:w cu}
theorem ļ{L:bP}{W:SL}(hW:W.length<=10000):∀(n i:I)(acc:w p),i+n=W.length->acc.length+2*n<=100000000->
  JS (i:p) zs ps cs ss L.1 L.2.1 L.2.2.1.1 L.2.2.1.2 L.2.2.2.1 L.2.2.2.2.1 L.2.2.2.2.2.1 L.2.2.2.2.2.2.1 L.2.2.2.2.2.2.2.1 L.2.2.2.2.2.2.2.2 acc W=
   F (zs,ps,cs,ss,L.1,L.2.1,L.2.2.1.1,L.2.2.1.2,L.2.2.2.1,L.2.2.2.2.1,L.2.2.2.2.2.1,L.2.2.2.2.2.2.1,L.2.2.2.2.2.2.2.1,L.2.2.2.2.2.2.2.2,acc++xg (W.drop i))
 |0,i,acc,hi,_=>by
  rw[Zh,jd omg_];simp only[j7N,show B W.length=(W.length:p) from rfl];rw[ai omg_,j7,aP];simp[xg]
 |n+1,i,acc,hi,ha=>by
  have aq:i<W.length:=omg_;have aT:W.getD i ((0:p),(0:p))=W[i]:=by simp[aq]
  have ih:=ļ (L:=L) hW n (i+1) (acc++[W[i].1,W[i].2]) omg_ sqo_;rw[jh]at ih;rw[Zh,jb aq];simp only[j7N,show B W.length=(W.length:p) from rfl];rw[ah (show (i:p)<(W.length:p) by omega),bJ,aj (x:=(i:p)+1)];simp only[j6,j8,aT];rw[ah (by simp[aG];omega),j6,aB];exact ih
theorem Ľ{x:aU}{T:bI}(hT:T.length<=1000):∀(n i:I)(acc:w p),i+n=T.length->acc.length+n<=100000000->
  Bd (i:p) zs ps cs ss x.1 x.2.1 x.2.2 acc T=F (zs,ps,cs,ss,x.1,x.2.1,x.2.2,acc++(T.drop i).map (·.1))
 |0,i,acc,hi,_=>by
  rw[Zi,jd omg_];simp only[j7O,show B T.length=(T.length:p) from rfl];rw[ai omg_,j7,aP];simp
 |n+1,i,acc,hi,ha=>by
  have aq:i<T.length:=omg_;have aT:T.getD i ((0:p),(0:p))=T[i]:=by simp[aq]
  have ih:=Ľ (x:=x) hT n (i+1) (acc++[T[i].1]) omg_ sqo_;rw[jh]at ih;rw[Zi,jb aq];simp only[j7O,show B T.length=(T.length:p) from rfl];rw[ah (show (i:p)<(T.length:p) by omega),bJ,aj (x:=(i:p)+1)];simp only[j6,j8,aT];rw[ah (by simp[aG];omega),j6,aB];exact ih
def uZ(z:bF)(d:p):w Int:=jQ z.2.1 (tb z).2 ((d+0)*86400+0)++jQ z.2.1 (tb z).2 ((d+1)*86400+0)
theorem ľ{z:bF}(hz:fY z)(d:p):(uZ z d).length<=10:=by
 have h4:(tb z).2.length<=4:=wY hz;have a:=K4 (o:=z.2.1) (l:=(tb z).2) ((d+0)*86400+0) ((tb z).2.length+1) 0;have b:=K4 (o:=z.2.1) (l:=(tb z).2) ((d+1)*86400+0) ((tb z).2.length+1) 0;unfold uZ jQ;rw[jc];omega
theorem jHU(lP:∀z∈zs,fY z){x:aU}(hx:rk zs.length x){i:I}(hi:i<x.2.2.length){acc:w p}(ha:acc.length<=90000000) :
  JT (i:p) 0 zs ps cs ss x.1 x.2.1 x.2.2 acc=F ((i:p),zs,ps,cs,ss,x.1,x.2.1,x.2.2,acc++uZ (aF zs x.2.1) x.2.2[i]):=by
 have hz:fY (aF zs x.2.1):=fH lP hx.z0 hx.z1;have h4:=hz.zref.2.1;have hd:=hx.day _ (jf hi);have d0:=π hd;have d1:=Le hd;have aT:x.2.2.getD i (0:p)=x.2.2[i]:=by simp[hi]
 have wT:(tb (aF zs x.2.1)).2.length<=4:=wY hz;have dS:=λs=>K4 (o:=(aF zs x.2.1).2.1) (l:=(tb (aF zs x.2.1)).2) s ((tb (aF zs x.2.1)).2.length+1) 0;have e0:j8Z ((zs.getD x.2.1.toNat (E,((0:p),([]:w aN)))).1,((zs.getD x.2.1.toNat (E,((0:p),([]:w aN)))).2.1,(zs.getD x.2.1.toNat (E,((0:p),([]:w aN)))).2.2)) (x.2.2[i]+0,0)=_:=t_ h4 (show -2<=x.2.2[i]+0 by omega) omg_ (show (0:p)<=0 by omega) omg_;have e1:j8Z ((zs.getD x.2.1.toNat (E,((0:p),([]:w aN)))).1,((zs.getD x.2.1.toNat (E,((0:p),([]:w aN)))).2.1,(zs.getD x.2.1.toNat (E,((0:p),([]:w aN)))).2.2)) (x.2.2[i]+1,0)=_:=t_ h4 (show -2<=x.2.2[i]+1 by omega) omg_ (show (0:p)<=0 by omega) omg_;have b0:=dS ((x.2.2[i]+0)*86400+0);have b1:=dS ((x.2.2[i]+1)*86400+0);rw[ON];simp only[j5T];rw[ah (show (0:p)<2 by omega),bA hx.z0 hx.z1,bA (show (0:p)<=(i:p) by omega) omg_];simp only[j6,j8,aT];rw[aj (x:=x.2.2[i]+0),e0];simp only[j4];rw[ah (show acc.length+(jQ (aF zs x.2.1).2.1 (tb (aF zs x.2.1)).2 ((x.2.2[i]+0)*86400+0)).length<=aG by unfold jQ aG;omega),j6,aB];rw[show w64 (0+1)=1 from rfl,ON];simp only[j5T];rw[ah (show (1:p)<2 by omega),bA hx.z0 hx.z1,bA (show (0:p)<=(i:p) by omega) omg_];simp only[j6,j8,aT];rw[aj (x:=x.2.2[i]+1),e1];simp only[j4]
 rw[ah (show (acc++jQ (aF zs x.2.1).2.1 (tb (aF zs x.2.1)).2 ((x.2.2[i]+0)*86400+0)).length+(jQ (aF zs x.2.1).2.1 (tb (aF zs x.2.1)).2 ((x.2.2[i]+1)*86400+0)).length<=aG by rw[jc];unfold jQ aG;omega),j6,aB];rw[show w64 (1+1)=2 from rfl,ON];simp only[j5T];rw[ai (show¬(2:p)<2 by omega),j7,aP,jh];rfl
theorem Ŀ(lP:∀z∈zs,fY z){x:aU}(hx:rk zs.length x):∀(n i:I)(acc:w p),i+n=x.2.2.length->acc.length+10*n<=90000000->
  CL (i:p) zs ps cs ss x.1 x.2.1 x.2.2 acc=F (acc++(x.2.2.drop i).flatMap (uZ (aF zs x.2.1)))
 |0,i,acc,hi,_=>by
  rw[Zj,jd omg_];simp only[j7P,show B x.2.2.length=(x.2.2.length:p) from rfl];rw[ai omg_,j7,aP];simp
 |n+1,i,acc,hi,ha=>by
  have aq:i<x.2.2.length:=omg_;have hl:=hx.len;have hz:fY (aF zs x.2.1):=fH lP hx.z0 hx.z1;have hb:=ľ hz x.2.2[i];have ih:=Ŀ lP hx n (i+1) (acc++uZ (aF zs x.2.1) x.2.2[i]) omg_ (by rw[jc];omega);rw[jh]at ih;rw[Zj,jb aq];simp only[j7P,show B x.2.2.length=(x.2.2.length:p) from rfl];rw[ah (show (i:p)<(x.2.2.length:p) by omega),j6,jHU lP hx aq omg_];simp only[j4];rw[aj (x:=(i:p)+1),aB];exact ih
end
end Go.Proofs.Pw
