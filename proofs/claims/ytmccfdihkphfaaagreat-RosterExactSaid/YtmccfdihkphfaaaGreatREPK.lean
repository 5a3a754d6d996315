/- The nh sort of numbers, each once; the KV of a range. -/
import Derived.Test.YtmccfdihkphfaaaGreatREPA
import Derived.Test.YtmccfdihkphfaaaGreatREFns
import Derived.Test.YtmccfdihkphfaaaGreatREPI
import Derived.Test.YtmccfdihkphfaaaGreatREPD
import Derived.Test.YtmccfdihkphfaaaGreatREPJ
open _root_ renaming Int->p,List->B,Nat->N
open List renaming drop_of_length_le->E,length_append->G,getD->O
open Int renaming ofNat->F
open ByteArray renaming empty->H
open Option renaming some->I,none->Z
open Decidable renaming decide->J
open List.Pairwise renaming nil->M
open Go Go.Lft
namespace Go.Proofs.Pw
def fR(out:B p)(x:p):B Int:=cond (cond (J (out.length=0)) true (out.getD (out.length-1) 0 != x)) (out++[x]) out
def iy:N->B p->B p->B p->B p
 |0,out,_,_=>out
 |n+1,out,x::a,y::b=>cond (J (x<=y)) (iy n (fR out x) a (y::b)) (iy n (fR out y) (x::a) b)
 |n+1,out,x::a,[]=>iy n (fR out x) a []
 |n+1,out,[],y::b=>iy n (fR out y) [] b
 |_+1,out,[],[]=>out
def gQ:N->B p->B p
 |0,l=>l
 |n+1,l=>if l.length<2 then l else iy l.length [] (gQ n (l.take (l.length/2))) (gQ n (l.drop (l.length/2)))
theorem CR(out:B p)(x:p):(fR out x).length<=out.length+1:=by
 unfold fR;cases (cond (J (out.length=0)) true (out.getD (out.length-1) 0 != x))<;>simp
theorem KW{out:B p}{x:p}(h:out.Pairwise (· < ·))(hx:∀y∈out,y<=x):(fR out x).Pairwise (· < ·)/\(∀y,y∈fR out x↔y∈out\/y=x)/\∀y∈fR out x,y<=x:=by
 rcases zp out with rfl|⟨A,u,rfl⟩
 .refine⟨by simp[fR],λy=>by simp[fR],λy hy=>?_⟩;have:y=x:=by simpa[fR]using hy
  omega
 .rw[zq]at h hx ⊢;have hg:(A++[u]).getD ((A++[u]).length-1) (0:p)=u:=by simp[O]
  unfold fR;rw[hg,an (show¬(A++[u]).length=0 by simp),j7];by_cases he:u=x
  .subst he;rw[jf,j7];exact⟨h,λy=>⟨.inl,λhy=>hy.elim id λe=>by simp[e]⟩,hx⟩
  .have br:(u != x)=true:=by simp[he]
   rw[br,j6];have BK:=hx u ae;have hA:=(v6.1 h).2.2;refine⟨v6.2 ⟨h,ae,λy hy z hz=>?_⟩,λy=>by simp[or_assoc],λy hy=>?_⟩
   .have:z=x:=by simpa using hz
    subst this;rcases jm.1 hy with hy|hy
    .have:=hA y hy u ae;omega
    .have:y=u:=by simpa using hy
     omega
   .rcases jm.1 hy with hy|hy
    .exact hx y hy
    .have:y=x:=by simpa using hy
     omega
theorem GC:∀(n:N)(out a b:B p),n=a.length+b.length->out.Pairwise (· < ·)->a.Pairwise (· < ·)->b.Pairwise (· < ·)->(∀x∈out,(∀y∈a,x<=y)/\∀y∈b,x<=y)->
  (iy n out a b).Pairwise (· < ·)/\(∀x,x∈iy n out a b↔x∈out\/x∈a\/x∈b)/\(iy n out a b).length<=out.length+n
 |0,out,a,b,hn,ho,_,_,_=>by
  have h1:a=[]:=qh.1 aa;have h2:b=[]:=qh.1 aa;subst h1;subst h2;exact⟨ho,λx=>by simp[iy],by simp[iy]⟩
 |n+1,out,x::a,y::b,hn,ho,ha,hb,hle=>by
  have qC:=kf.1 ha;have aU:=kf.1 hb;simp only[ji]at hn;unfold iy;by_cases jE:x<=y
  .rw[ag jE,j6];obtain⟨p1,p2,p3⟩:=KW (x:=x) ho (λz hz=>(hle z hz).1 x ae)
   obtain⟨q1,q2,q3⟩:=GC n (fR out x) a (y::b) az p1 qC.2 hb (λz hz=>by
    have:=p3 z hz;refine⟨λu hu=>by have:=qC.1 u hu;omega,λu hu=>?_⟩;rcases je.1 hu with rfl|hu
    .omega
    .have:=aU.1 u hu;omega)
   have:=CR out x;refine⟨q1,λz=>?_,aa⟩;rw[q2 z,p2 z];simp only[je];constructor
   .rintro ((h|h)|h|h)
    .exact .inl h
    .exact .inr (.inl (.inl h))
    .exact .inr (.inl (.inr h))
    .exact .inr (.inr h)
   .rintro (h|(h|h)|h)
    .exact .inl (.inl h)
    .exact .inl (.inr h)
    .exact .inr (.inl h)
    .exact .inr (.inr h)
  .rw[an jE,j7];obtain⟨p1,p2,p3⟩:=KW (x:=y) ho (λz hz=>(hle z hz).2 y ae)
   obtain⟨q1,q2,q3⟩:=GC n (fR out y) (x::a) b az p1 ha aU.2 (λz hz=>by
    have:=p3 z hz;refine⟨λu hu=>?_,λu hu=>by have:=aU.1 u hu;omega⟩;rcases je.1 hu with rfl|hu
    .omega
    .have:=qC.1 u hu;omega)
   have:=CR out y;refine⟨q1,λz=>?_,aa⟩;rw[q2 z,p2 z];simp only[je];constructor
   .rintro ((h|h)|h|h)
    .exact .inl h
    .exact .inr (.inr (.inl h))
    .exact .inr (.inl h)
    .exact .inr (.inr (.inr h))
   .rintro (h|h|h|h)
    .exact .inl (.inl h)
    .exact .inr (.inl h)
    .exact .inl (.inr h)
    .exact .inr (.inr h)
 |n+1,out,x::a,[],hn,ho,ha,hb,hle=>by
  have qC:=kf.1 ha;simp only[ji,jz]at hn;obtain⟨p1,p2,p3⟩:=KW (x:=x) ho (λz hz=>(hle z hz).1 x ae);obtain⟨q1,q2,q3⟩:=GC n (fR out x) a [] az p1 qC.2 hb (λz hz=>⟨λu hu=>by have:=qC.1 u hu;have:=p3 z hz;omega,λu hu=>by simp at hu⟩);have:=CR out x;refine⟨q1,λz=>?_,by show (iy n (fR out x) a []).length<=_;omega⟩;show z∈iy n (fR out x) a []↔_;rw[q2 z,p2 z];simp only[je,zh,or_false,or_assoc]
 |n+1,out,[],y::b,hn,ho,ha,hb,hle=>by
  have aU:=kf.1 hb;simp only[ji,jz]at hn;obtain⟨p1,p2,p3⟩:=KW (x:=y) ho (λz hz=>(hle z hz).2 y ae);obtain⟨q1,q2,q3⟩:=GC n (fR out y) [] b az p1 ha aU.2 (λz hz=>⟨λu hu=>by simp at hu,λu hu=>by have:=aU.1 u hu;have:=p3 z hz;omega⟩);have:=CR out y;refine⟨q1,λz=>?_,by show (iy n (fR out y) [] b).length<=_;omega⟩;show z∈iy n (fR out y) [] b↔_;rw[q2 z,p2 z];simp only[je,zh,false_or,or_assoc]
 |n+1,out,[],[],hn,_,_,_,_=>by simp at hn
theorem ε:∀(n:N)(out a b:B p),a.length+b.length<=n->iy n out a b=iy (a.length+b.length) out a b:=by
 intro n;induction n with
 |zero=>intro out a b h;have:a.length+b.length=0:=aa;rw[this]
 |succ n ih=>
  intro out a b h;match a,b,h with
  |[],[],_=>rfl
  |x::a,[],h=>simp only[ji,jz,Nat.add_zero]at h ⊢;show iy n (fR out x) a []=iy a.length (fR out x) a [];have:=ih (fR out x) a [] az;simpa using this
  |[],y::b,h=>simp only[ji,jz,kb]at h ⊢;show iy n (fR out y) [] b=iy b.length (fR out y) [] b;have:=ih (fR out y) [] b az;simpa using this
  |x::a,y::b,h=>simp only[ji]at h ⊢;rw[show a.length+1+(b.length+1)=(a.length+b.length+1)+1 by omega];show cond _ (iy n (fR out x) a (y::b)) (iy n (fR out y) (x::a) b)=cond _ (iy (a.length+b.length+1) (fR out x) a (y::b)) (iy (a.length+b.length+1) (fR out y) (x::a) b);have h1:=ih (fR out x) a (y::b) az;have h2:=ih (fR out y) (x::a) b az;simp only[ji]at h1 h2;rw[h1,h2,show a.length+(b.length+1)=a.length+b.length+1 by omega,show a.length+1+b.length=a.length+b.length+1 by omega]
theorem CS:∀(n:N)(l:B p),l.length<=n+1->(gQ n l).Pairwise (· < ·)/\(∀x,x∈gQ n l↔x∈l)/\(gQ n l).length<=l.length
 |0,l,hl=>by
  refine⟨?_,λx=>Iff.rfl,jq _⟩;match l,hl with
  |[],_=>exact M
  |[x],_=>show List.Pairwise (· < ·) [x];simp
 |n+1,l,hl=>by
  unfold gQ;by_cases h2:l.length<2
  .rw[if_pos h2];refine⟨?_,λx=>Iff.rfl,jq _⟩;match l,h2 with
   |[],_=>exact M
   |[x],_=>simp
  .rw[if_neg h2];obtain⟨a1,a2,a3⟩:=CS n (l.take (l.length/2)) az;obtain⟨b1,b2,b3⟩:=CS n (l.drop (l.length/2)) az;simp only[List.length_take,zf]at a3 b3;rw[ε l.length [] _ _ aa];obtain⟨q1,q2,q3⟩:=GC _ [] (gQ n (l.take (l.length/2))) (gQ n (l.drop (l.length/2))) rfl M a1 b1 (λx hx=>by simp at hx);refine⟨q1,λx=>?_,by simp at q3;omega⟩;rw[q2 x,a2 x,b2 x];have hx:x∈l↔x∈l.take (l.length/2)++l.drop (l.length/2):=by rw[qx]
   rw[hx,jm];simp
theorem KX:∀(n m:N)(l:B p),l.length<=n+1->l.length<=m+1->gQ n l=gQ m l
 |0,0,_,_,_=>rfl
 |0,m+1,l,h,_=>by unfold gQ;rw[if_pos aa]
 |n+1,0,l,_,h=>by unfold gQ;rw[if_pos aa]
 |n+1,m+1,l,h1,h2=>by
  unfold gQ;by_cases h:l.length<2
  .rw[if_pos h,if_pos h]
  .rw[if_neg h,if_neg h,KX n m _ az az,KX n m _ az az]
theorem KY{R:Type}(out:B p)(x:p)(hl:out.length<=400000000)(K:B p->Option R) :
  cond ((inR (w64 ((out.length:p)-1)) out.length) || !(!((out.length:p)==0))) (cond (cond ((out.length:p)==0) true (out.getD (w64 ((out.length:p)-1)).toNat 0 != x)) (cond (J (out.length+[x].length<=aG)) (K (out++[x])) Z) (K out)) Z=K (fR out x):=by
 rw[ar (x:=(out.length:p)-1)];by_cases h0:out.length=0
 .have e:((out.length:p)==0)=true:=dI aa;have:out=[]:=qh.1 h0;subst this;rfl
 .have e:((out.length:p)==0)=false:=cG aa;rw[e,bU (i:=(out.length:p)-1) aa aa,show ((out.length:p)-1).toNat=out.length-1 by omega];simp only[z8,j6,j7];unfold fR;rw[an h0,j7,ag (show out.length+[x].length<=aG by simp[aG];omega),j6];cases (out.getD (out.length-1) 0 != x)<;>rfl
theorem SH(rec:B p->Option (B p)){a b:B p}(ha:a.length<=100000000)(hb:b.length<=100000000):∀(n i j:N)(out:B p),i<=a.length->j<=b.length->n=(a.length-i)+(b.length-j)->out.length+n<=200000000->
  JA rec (i:p) (j:p) out a b=I (iy n out (a.drop i) (b.drop j))
 |0,i,j,out,hi,hj,hn,_=>by
  rw[YU];simp only[j6N,show F a.length=(a.length:p) from rfl,show F b.length=(b.length:p) from rfl];rw[an (show¬(i:p)<(a.length:p) by omega),j7,an (show¬(j:p)<(b.length:p) by omega),j7,aW];rfl
 |n+1,i,j,out,hi,hj,hn,ho=>by
  have sZ:=λ(x:p)(h:i<a.length)=>SH rec ha hb n (i+1) j (fR out x) aa hj aa (by have:=CR out x;omega);have s9:=λ(x:p)(h:j<b.length)=>SH rec ha hb n i (j+1) (fR out x) hi aa aa (by have:=CR out x;omega);rw[YU];simp only[j6N,show F a.length=(a.length:p) from rfl,show F b.length=(b.length:p) from rfl,show F out.length=(out.length:p) from rfl]
  have ec:cond (J ((i:p)<(a.length:p))) true (J ((j:p)<(b.length:p)))=true:=by
   by_cases h:i<a.length
   .rw[ag aa];rfl
   .rw[an aa,ag (show (j:p)<(b.length:p) by omega)];rfl
  rw[ec,j6];by_cases hja:j=b.length
  .have tJ:i<a.length:=aa;have xW:a.getD i (0:p)=a[i]:=by simp[O,tJ]
   rw[dI (show (j:p)=(b.length:p) by omega),j6,bU (i:=(i:p)) (n:=a.length) aa aa,j6,ar (x:=(i:p)+1)];simp only[j8,xW];rw[KY out a[i] aa (λo=>I (Sum.inl ((i:p)+1,(j:p),o,a,b))),aS];have:=sZ a[i] tJ;rw[show ((i+1:N):p)=(i:p)+1 by omega]at this;refine this.trans ?_;rw[jb tJ,show b.drop j=[] from E aa];rfl
  .have AK:j<b.length:=aa;have wJ:b.getD j (0:p)=b[j]:=by simp[O,AK]
   rw[cG (show (j:p)≠(b.length:p) by omega),j7];by_cases tJ:i<a.length
   .have xW:a.getD i (0:p)=a[i]:=by simp[O,tJ]
    rw[ag (show (i:p)<(a.length:p) by omega),j6,bU (i:=(i:p)) (n:=a.length) aa aa,bU (i:=(j:p)) (n:=b.length) aa aa,ar (x:=(i:p)+1),ar (x:=(j:p)+1)];simp only[j6,j8,xW,wJ];by_cases jE:a[i]<=b[j]
    .rw[ag jE,j6,KY out a[i] aa (λo=>I (Sum.inl ((i:p)+1,(j:p),o,a,b))),aS];have:=sZ a[i] tJ;rw[show ((i+1:N):p)=(i:p)+1 by omega]at this;refine this.trans ?_;rw[jb tJ,jb AK];show _=I (cond (J (a[i]<=b[j])) _ _);rw[ag jE,j6]
    .rw[an jE,j7,KY out b[j] aa (λo=>I (Sum.inl ((i:p),(j:p)+1,o,a,b))),aS];have:=s9 b[j] AK;rw[show ((j+1:N):p)=(j:p)+1 by omega]at this;refine this.trans ?_;rw[jb tJ,jb AK];show _=I (cond (J (a[i]<=b[j])) _ _);rw[an jE,j7]
   .rw[an (show¬(i:p)<(a.length:p) by omega),j7,bU (i:=(j:p)) (n:=b.length) aa aa,j6,ar (x:=(j:p)+1)];simp only[j8,wJ];rw[KY out b[j] aa (λo=>I (Sum.inl ((i:p),(j:p)+1,o,a,b))),aS];have:=s9 b[j] AK;rw[show ((j+1:N):p)=(j:p)+1 by omega]at this;refine this.trans ?_;rw[jb AK,show a.drop i=[] from E aa];rfl
theorem KZ:∀(n:N)(l:B p),l.length<=50000000->(mc j5l n l=Z/\n<=l.length)\/mc j5l n l=I (gQ l.length l)
 |0,l,_=> .inl ⟨rfl,k7 _⟩
 |n+1,l,hl=>by
  show (JB (λv0=>mc j5l n v0) l=Z/\_)\/JB (λv0=>mc j5l n v0) l=_;simp only[JB,show F l.length=(l.length:p) from rfl];by_cases h2:l.length<2
  .right;rw[ag (show (l.length:p)<2 by omega),j6,ag (show ([]:B p).length+l.length<=aG by simp[aG];omega),j6,jw];cases hk:l.length with
   |zero=>rfl
   |succ k=>unfold gQ;rw[if_pos h2]
  .rw[an (show¬(l.length:p)<2 by omega),j7,vC aa,ar (x:=(l.length:p)/2),show ((l.length:p)/2).toNat=l.length/2 by omega];rw[ag (show (0:p)<=0 by omega),ag (show (0:p)<=(l.length:p)/2 by omega),ag (show (l.length:p)/2<=(l.length:p) by omega),ag (show (l.length:p)<=(l.length:p) by omega)];simp only[ql,j6,jk,List.take_length];have hA:(l.take (l.length/2)).length=l.length/2:=az;have hB:(l.drop (l.length/2)).length=l.length-l.length/2:=ae;rcases KZ n (l.take (l.length/2)) aa with⟨e1,k1⟩|e1
   .exact .inl ⟨by rw[e1];rfl,aa⟩
   .rw[e1,j4];rcases KZ n (l.drop (l.length/2)) aa with⟨e2,k2⟩|e2
    .exact .inl ⟨by rw[e2];rfl,aa⟩
    .right;rw[e2,j4];have o1:=CS (l.take (l.length/2)).length (l.take (l.length/2)) aa;have o2:=CS (l.drop (l.length/2)).length (l.drop (l.length/2)) aa;generalize hSA:gQ (l.take (l.length/2)).length (l.take (l.length/2))=SA at *;generalize hSB:gQ (l.drop (l.length/2)).length (l.drop (l.length/2))=SB at *;have:=SH (λv0=>mc j5l n v0) (a:=SA) (b:=SB) aa aa (SA.length+SB.length) 0 0 [] aa aa aa az;rw[show ((0:N):p)=0 from rfl,jk,jk]at this;rw[this,j4];obtain⟨k,hk⟩:∃k,l.length=k+1:=⟨l.length-1,aa⟩
     have e3:gQ l.length l=iy l.length [] SA SB:=by
      conv=>lhs;rw[hk];unfold gQ
      rw[if_neg h2,<-hSA,<-hSB,KX k (l.take (l.length/2)).length _ aa aa,KX k (l.drop (l.length/2)).length _ aa aa]
     rw[e3];rw[ε l.length [] SA SB (by have:=o1.2.2;have:=o2.2.2;omega)]
theorem jC7{l:B p}(hl:l.length<=50000000):jqP l=I (gQ l.length l):=
 WY ⟨l.length+1,(KZ (l.length+1) l hl).resolve_left (λh=>by have:=h.2;omega)⟩ (λn y h=>by
  rcases KZ n l hl with⟨e,_⟩|e
  .rw[e]at h;simp at h
  .rw[e]at h;exact(Option.some.inj h).symm)
def kX(a b x:p):Bool:=cond (J (x>a)) (J (x<b)) false
def jZ(cd:B p)(a b:p):B Int:=(a::(gQ cd.length cd).filter (kX a b))++(if b>a then [b] else [])
theorem ζ{a b:p}{l:B p}(hl:l.length<=50000000):∀(n i:N)(out:B p),i+n=l.length->out.length+n<=100000000->JC a b (i:p) out l=I (a,b,out++(l.drop i).filter (kX a b))
 |0,i,out,hi,_=>by
  rw[YV];simp only[j4K,show F l.length=(l.length:p) from rfl];rw[an aa,j7,aW,E aa];simp
 |n+1,i,out,hi,ho=>by
  have aq:i<l.length:=aa;have bc:l.getD i (0:p)=l[i]:=by simp[O,aq]
  rw[YV,jb aq];simp only[j4K,show F l.length=(l.length:p) from rfl];rw[ag (show (i:p)<(l.length:p) by omega),bU (i:=(i:p)) aa aa,ar (x:=(i:p)+1)];simp only[j6,j8,bc,z8];have ih:=λout h=>ζ (a:=a) (b:=b) hl n (i+1) out aa h;rw[show ((i+1:N):p)=(i:p)+1 by omega]at ih;show lpK (cond (kX a b l[i]) _ _) _=_;cases hc:kX a b l[i]with
  |true=>rw[j6,ag (by simp[aG];omega),j6,aS,yf hc];have:=ih (out++[l[i]]) az;rw[jg]at this;exact this
  |false=>rw[j7,aS,vc (by simp[hc])];exact ih out aa
theorem jxN{cd:B p}(hl:cd.length<=49000000)(a b:p):jfY cd a b=I (jZ cd a b):=by
 obtain⟨_,_,h3⟩:=CS cd.length cd aa;have:=ζ (a:=a) (b:=b) (l:=gQ cd.length cd) aa (gQ cd.length cd).length 0 [a] aa az;rw[show ((0:N):p)=0 from rfl,jk]at this;have fB:((gQ cd.length cd).filter (kX a b)).length<=(gQ cd.length cd).length:=zo _ _;simp only[jfY,jC7 (show cd.length<=50000000 by omega),j4,this];unfold jZ;by_cases cF:b>a
 .rw[ag cF,j6,ag (by simp[aG];omega),j6,if_pos cF];rfl
 .rw[an cF,j7,if_neg cF,kx];rfl
theorem jEr(cd:B p){a b:p}(cF:a<=b):(jZ cd a b).Pairwise (· < ·)/\(jZ cd a b).length<=cd.length+2/\(∀x∈jZ cd a b,a<=x/\x<=b)/\(∀c∈cd,a<c->c<b->c∈jZ cd a b)/\
  (∃r,jZ cd a b=a::r)/\(a<b->∃r,jZ cd a b=r++[b])/\(a=b->jZ cd a b=[a]):=by
 obtain⟨h1,h2,h3⟩:=CS cd.length cd aa;have fB:((gQ cd.length cd).filter (kX a b)).length<=(gQ cd.length cd).length:=zo _ _
 have fY:∀x,x∈(gQ cd.length cd).filter (kX a b)↔x∈cd/\a<x/\x<b:=λx=>by
  rw[zw,h2 x];unfold kX;constructor
  .rintro⟨hx,hc⟩
   by_cases AL:x>a
   .rw[ag AL,j6]at hc;exact⟨hx,AL,kr hc⟩
   .rw[an AL,j7]at hc;simp at hc
  .rintro⟨hx,AL,hxb⟩
   exact⟨hx,by rw[ag (show x>a from AL),j6,ag hxb]⟩
 have CT:((gQ cd.length cd).filter (kX a b)).Pairwise (· < ·):=h1.filter _;unfold jZ;by_cases aq:a<b
 .rw[if_pos (show b>a from aq)];refine⟨?_,?_,λx hx=>?_,λc hc h1 h2=>?_,⟨_,rfl⟩,λ_=>⟨_,rfl⟩,λh=>aa⟩
  .refine v6.2 ⟨kf.2 ⟨λx hx=>((fY x).1 hx).2.1,CT⟩,ae,λx hx y hy=>?_⟩;have:y=b:=by simpa using hy
   subst this;rcases je.1 hx with rfl|hx
   .exact aq
   .exact((fY x).1 hx).2.2
  .simp only[G,ji,jz];omega
  .rcases jm.1 hx with hx|hx
   .rcases je.1 hx with rfl|hx
    .omega
    .have:=(fY x).1 hx;omega
   .have:x=b:=by simpa using hx
    omega
  .exact jm.2 (.inl (qi _ ((fY c).2 ⟨hc,h1,h2⟩)))
 .have hab':a=b:=aa;rw[if_neg (show¬b>a by omega)];have dO:(gQ cd.length cd).filter (kX a b)=[]:=zv.2 (λx hx=>by have:=(fY x).1 hx;omega);rw[dO];refine⟨ae,ae,λx hx=>?_,λc hc h1 h2=>aa,⟨[],rfl⟩,λh=>aa,λ_=>rfl⟩;have:x=a:=by simpa using hx
  omega
section
variable{z:bH}{l:bh}(h4:Z4 z l)
include h4
theorem AM{L:bA}(h:Rt L)(from_ GD:p):∀(n:N)(k:p)(acc:B p),k+n=2386093->0<=k->(acc.length:p)<=k->
  ∃out,Jt from_ GD k z.1 z.2.1 z.2.2 L.1 L.2.1 L.2.2.1.1 L.2.2.1.2 L.2.2.2.1 L.2.2.2.2.1 L.2.2.2.2.2.1 L.2.2.2.2.2.2.1 L.2.2.2.2.2.2.2.1 L.2.2.2.2.2.2.2.2 acc=I (0,out)/\(out.length:p)<=2386094/\
   (∀x∈acc,x∈out)/\∀j v,k<=j->hO z.2.1 l L j=I v->from_<=v->v<GD->v∈out
 |n,k,acc,hn,hk,ha=>by
  obtain⟨v',qJ,gC⟩:=Gl h4 h (k:=k) hk aa;rw[jjb];simp only[j5k];rw[show j7x (z.1,(z.2.1,z.2.2)) (L.1,L.2.1,(L.2.2.1.1,L.2.2.1.2),L.2.2.2.1,L.2.2.2.2.1,L.2.2.2.2.2.1,L.2.2.2.2.2.2.1,L.2.2.2.2.2.2.2.1,L.2.2.2.2.2.2.2.2) k=_ from qJ];simp only[j4];cases hx:hO z.2.1 l L k with
  |none=>simp only[zm,jp,j6,aW];refine⟨acc,rfl,aa,λx hx=>hx,λj v hj hv _ _=>?_⟩;obtain⟨u,hu,_⟩:=QO.le h4.2 h hj ⟨v,hv,k8 v⟩;rw[hx]at hu;simp at hu
  |some t=>
   have:=gC t hx;subst v';simp only[za,jc,j7];by_cases iD:t>=GD
   .rw[ag iD];simp only[j6,aW];refine⟨acc,rfl,aa,λx hx=>hx,λj v hj hv _ uH=>?_⟩;obtain⟨u,hu,huv⟩:=QO.le h4.2 h hj ⟨v,hv,k8 v⟩;rw[hx]at hu;simp at hu;omega
   .rw[an iD,ag (show acc.length+[t].length<=aG by simp[aG];omega),ar (x:=k+1)];simp only[j6,j7];cases n with
    |zero=>have:=AE h4.2 h hk hx;omega
    |succ n=>
     by_cases fT:t>=from_
     .rw[ag fT];simp only[j6,aS];obtain⟨out,e1,e2,e3,e4⟩:=AM h from_ GD n (k+1) (acc++[t]) aa aa az;refine⟨out,e1,e2,λx hx=>e3 x (by simp[hx]),λj v hj hv h1 h2=>?_⟩;by_cases rO:j=k
      .subst rO;rw[hx]at hv;simp at hv;subst hv;exact e3 t ae
      .exact e4 j v aa hv h1 h2
     .rw[an fT];simp only[j7,aS];obtain⟨out,e1,e2,e3,e4⟩:=AM h from_ GD n (k+1) acc aa aa aa;refine⟨out,e1,e2,e3,λj v hj hv h1 h2=>?_⟩;by_cases rO:j=k
      .subst rO;rw[hx]at hv;simp at hv;omega
      .exact e4 j v aa hv h1 h2
theorem jFZ{a b:p}(ha:0<=a)(cF:a<=b)(hb:b<=8589934592)(hq:b-a<=34560000):j9S a b=I true:=by
 have _:=h4;simp only[j9S];rw[ag (show a>=0 from ha),ag (show a<=8589934592 by omega),ag (show b>=a from cF),ag hb,ar (x:=b-a),ag hq];rfl
theorem jC8{L:bA}(h:Rt L){a b:p}(ha:0<=a)(cF:a<=b)(hb:b<=8589934592)(hq:b-a<=34560000):∃out,j9V z L a b=I (out,0)/\out.length<=2386094/\∀j v,0<=j->hO z.2.1 l L j=I v->a<v->v<b->v∈out:=by
 obtain⟨K,eK,hK⟩:=H_ h4 h ha aa
 have hKb:K<=2386092:=by
  rcases hK with⟨hK,_⟩|⟨hK,⟨y,hy,_⟩,_⟩
  .omega
  .exact(AE h4.2 h hK hy).2.2
 obtain⟨k0,lk⟩:∃k0:p,k0=(if K>0 then K else 0):=⟨_,rfl⟩;have dj:0<=k0/\k0<=2386092/\(0<k0->k0=K):=by rw[lk];split<;>omega
 obtain⟨out,e1,e2,_,e4⟩:=AM h4 h a b (2386093-k0).toNat k0 [] aa dj.1 az;refine⟨out,?_,aa,λj v hj hv h1 h2=>?_⟩
 .have e2:jd4 (z.1,(z.2.1,z.2.2)) (L.1,L.2.1,(L.2.2.1.1,L.2.2.1.2),L.2.2.2.1,L.2.2.2.2.1,L.2.2.2.2.2.1,L.2.2.2.2.2.2.1,L.2.2.2.2.2.2.2.1,L.2.2.2.2.2.2.2.2)=_:=F_ h4 L;simp only[j9V,e2,j4];rw[if_pos h];simp only[jf,j7,jFZ h4 ha cF hb hq,j4,jc];rw[show jd6 (z.1,(z.2.1,z.2.2)) (L.1,L.2.1,(L.2.2.1.1,L.2.2.1.2),L.2.2.2.1,L.2.2.2.2.1,L.2.2.2.2.2.1,L.2.2.2.2.2.2.1,L.2.2.2.2.2.2.2.1,L.2.2.2.2.2.2.2.2) a=_ from eK];simp only[j4];rw[<-lk,e1];rfl
 .by_cases rO:k0<=j
  .exact e4 j v rO hv aa h2
  .exfalso;have hKk:=dj.2.2 aa;rcases hK with⟨hK,_⟩|⟨hK,hq,_⟩
   .omega
   .obtain⟨u,hu,hua⟩:=QO.le h4.2 h (show j<=K by omega) hq;rw[hv]at hu;simp at hu;omega
end
theorem jC9{z:bH}(hz:gj z){L:bA}(hR:Rt L){x y:p}(h0:0<=x)(jE:x<=y)(h1:y<=8589934592)(cY:∀j v,0<=j->hO z.2.1 (tb z).2 L j=I v->¬(x<v/\v<=y)):bV z L x=bV z L y:=by
 have a:=(pY hz hR (t:=x) h0 aa).2;have b:=(pY hz hR (t:=y) aa h1).2;refine kV.uniq hz.ztab.2 hR (t:=y) ?_ b;have q:∀j,0<=j->QO z.2.1 (tb z).2 L y j->QO z.2.1 (tb z).2 L x j:=λj hj ⟨v,hv,Hd⟩=>⟨v,hv,by have:=cY j v hj hv;omega⟩;rcases a with⟨a1,a2⟩|⟨a1,a2,a3⟩
 .exact .inl ⟨a1,λh=>a2 (q 0 aa h)⟩
 .obtain⟨v,hv,Bu⟩:=a2;exact .inr ⟨a1,⟨v,hv,aa⟩,λh=>a3 (q _ aa h)⟩
theorem K3{z:bH}(hz:gj z){t:p}(h0:0<=t)(h1:t<=8589934592){k:N}(hk:k<=(tb z).2.length)(k1:aX (tb z).2 k<=t)(k2:t<aX (tb z).2 (k+1)) :
  cD z t=((t+bm z.2.1 (tb z).2 k)/86400,(t+bm z.2.1 (tb z).2 k)%86400)/\fo (cD z t)=(t+bm z.2.1 (tb z).2 k+259200)%604800:=by
 have e:=CE hz.ztab.2 hk k1 k2;have o0:=hz.ztab.2.of0 k hk;have o1:=hz.ztab.2.of1 k hk;have el:cD z t=((t+bm z.2.1 (tb z).2 k)/86400,(t+bm z.2.1 (tb z).2 k)%86400):=by simp only[cD,show j0p (tb z) t=_ from e,z6]
 refine⟨el,?_⟩;have iV:j7U (cD z t)=I (fo (cD z t)):=(Gv hz h0 h1).2;have h5:=GB (d:=(t+bm z.2.1 (tb z).2 k)/86400) (s:=(t+bm z.2.1 (tb z).2 k)%86400) aa aa aa aa;rw[el]at iV ⊢;rw[h5]at iV;have:=Option.some.inj iV;rw[<-this];congr 1;omega
theorem jCa{W:SL}{x y:p}(jE:x<=y)(cY:∀u∈W,¬(x<u.1/\u.1<=y)/\¬(x<u.2/\u.2<=y)):bJ x W↔bJ y W:=by
 constructor
 .rintro⟨u,hu,h1,h2⟩
  have:=cY u hu;exact⟨u,hu,aa,aa⟩
 .rintro⟨u,hu,h1,h2⟩
  have:=cY u hu;exact⟨u,hu,aa,aa⟩
theorem η{o:p}{l:bh}{s:p}:∀(n j i:N),j<=i->i<j+n->sy o l s i->s-bm o l i∈pS o l s j n
 |0,_,_,h1,h2,_=>aa
 |n+1,j,i,h1,h2,hs=>by
  simp only[pS];by_cases he:i=j
  .subst he;rw[if_pos hs];simp
  .exact jn _ (η n (j+1) i aa aa hs)
theorem jCb{z:bH}(hz:gj z){ds:B p}{x y:p}(h0:0<=x)(jE:x<=y)(h1:y<=8589934592)(htr:∀i,i<(tb z).2.length->¬(x<eD (tb z).2 i/\eD (tb z).2 i<=y))
  (wW:∀d∈ds,∀i:p,0<=i->i<2->∀t∈jY z.2.1 (tb z).2 ((d+i)*86400+0),¬(x<t/\t<=y)):J ((cD z x).1∈ds)=J ((cD z y).1∈ds):=by
 obtain⟨k,hk,k1,k2⟩:=tI hz.ztab.2 (t:=x) h0 aa
 have k3:y<aX (tb z).2 (k+1):=by
  rcases qa k (tb z).2.length with hl|hl
  .have:=htr k hl;rw[gN hl]at k2 ⊢;omega
  .rw[show k=(tb z).2.length by omega,mj];omega
 obtain⟨e1,_⟩:=K3 hz h0 aa hk k1 k2;obtain⟨e2,_⟩:=K3 hz (t:=y) aa h1 hk aa k3
 have key:∀D:p,x+bm z.2.1 (tb z).2 k<D*86400->D*86400<=y+bm z.2.1 (tb z).2 k->∀d∈ds,∀i:p,0<=i->i<2->d+i=D->False:=λD d1 d2 d hd i i0 i1 N_=>by
  have hs:sy z.2.1 (tb z).2 (D*86400+0) k:=⟨aa,aa⟩;have hm:D*86400+0-bm z.2.1 (tb z).2 k∈jY z.2.1 (tb z).2 ((d+i)*86400+0):=by rw[N_];exact η _ 0 k aa aa hs
  exact wW d hd i i0 i1 _ hm ⟨aa,aa⟩
 rw[e1,e2];by_cases he:(x+bm z.2.1 (tb z).2 k)/86400=(y+bm z.2.1 (tb z).2 k)/86400
 .rw[he]
 .have ic:¬(x+bm z.2.1 (tb z).2 k)/86400∈ds:=λhd=>key ((x+bm z.2.1 (tb z).2 k)/86400+1) aa aa _ hd 1 aa aa rfl;have ie:¬(y+bm z.2.1 (tb z).2 k)/86400∈ds:=λhd=>key ((y+bm z.2.1 (tb z).2 k)/86400) aa aa _ hd 0 aa aa aa;rw[an ic,an ie]
def vK(W:SL):B Int:=W.flatMap λu=>[u.1,u.2]
theorem jEs(W:SL):(vK W).length=2*W.length:=by
 induction W with
 |nil=>rfl
 |cons x r ih=>have:vK (x::r)=[x.1,x.2]++vK r:=rfl;rw[this,G,ih];simp;omega
section
variable{zs:B bH}{ps:B dr}{cs:B bd}{ss:B cN}
theorem θ{L:bA}{W:SL}(hW:W.length<=10000):∀(n i:N)(acc:B p),i+n=W.length->acc.length+2*n<=100000000->
  Jy (i:p) zs ps cs ss L.1 L.2.1 L.2.2.1.1 L.2.2.1.2 L.2.2.2.1 L.2.2.2.2.1 L.2.2.2.2.2.1 L.2.2.2.2.2.2.1 L.2.2.2.2.2.2.2.1 L.2.2.2.2.2.2.2.2 acc W=
   I (zs,ps,cs,ss,L.1,L.2.1,L.2.2.1.1,L.2.2.1.2,L.2.2.2.1,L.2.2.2.2.1,L.2.2.2.2.2.1,L.2.2.2.2.2.2.1,L.2.2.2.2.2.2.2.1,L.2.2.2.2.2.2.2.2,acc++vK (W.drop i))
 |0,i,acc,hi,_=>by
  rw[YR,E aa];simp only[j6K,show F W.length=(W.length:p) from rfl];rw[an aa,j7,aW];simp[vK]
 |n+1,i,acc,hi,ha=>by
  have aq:i<W.length:=aa;have bc:W.getD i ((0:p),(0:p))=W[i]:=by simp[aq]
  have ih:=θ (L:=L) hW n (i+1) (acc++[W[i].1,W[i].2]) aa az;rw[jg]at ih;rw[YR,jb aq];simp only[j6K,show F W.length=(W.length:p) from rfl];rw[ag (show (i:p)<(W.length:p) by omega),bE,ar (x:=(i:p)+1)];simp only[j6,j8,bc];rw[ag (by simp[aG];omega),j6,aS];exact ih
theorem ι{x:bd}{T:bh}(hT:T.length<=1000):∀(n i:N)(acc:B p),i+n=T.length->acc.length+n<=100000000->
  Al (i:p) zs ps cs ss x.1 x.2.1 x.2.2 acc T=I (zs,ps,cs,ss,x.1,x.2.1,x.2.2,acc++(T.drop i).map (·.1))
 |0,i,acc,hi,_=>by
  rw[YS,E aa];simp only[j6L,show F T.length=(T.length:p) from rfl];rw[an aa,j7,aW];simp
 |n+1,i,acc,hi,ha=>by
  have aq:i<T.length:=aa;have bc:T.getD i ((0:p),(0:p))=T[i]:=by simp[aq]
  have ih:=ι (x:=x) hT n (i+1) (acc++[T[i].1]) aa az;rw[jg]at ih;rw[YS,jb aq];simp only[j6L,show F T.length=(T.length:p) from rfl];rw[ag (show (i:p)<(T.length:p) by omega),bE,ar (x:=(i:p)+1)];simp only[j6,j8,bc];rw[ag (by simp[aG];omega),j6,aS];exact ih
def tL(z:bH)(d:p):B Int:=jY z.2.1 (tb z).2 ((d+0)*86400+0)++jY z.2.1 (tb z).2 ((d+1)*86400+0)
theorem ν{z:bH}(hz:gj z)(d:p):(tL z d).length<=10:=by
 have h4:(tb z).2.length<=4:=AG hz;have a:=KK (o:=z.2.1) (l:=(tb z).2) ((d+0)*86400+0) ((tb z).2.length+1) 0;have b:=KK (o:=z.2.1) (l:=(tb z).2) ((d+1)*86400+0) ((tb z).2.length+1) 0;unfold tL jY;rw[G];omega
theorem jGN(iZ:∀z∈zs,gj z){x:bd}(hx:qP zs.length x){i:N}(hi:i<x.2.2.length){acc:B p}(ha:acc.length<=90000000) :
  Jz (i:p) 0 zs ps cs ss x.1 x.2.1 x.2.2 acc=I ((i:p),zs,ps,cs,ss,x.1,x.2.1,x.2.2,acc++tL (aP zs x.2.1) x.2.2[i]):=by
 have hz:gj (aP zs x.2.1):=gm iZ hx.z0 hx.z1;have h4:=hz.zref.2.1;have hd:=hx.day _ (jl hi);have d0:=jFT hd;have d1:=jFS hd;have bc:x.2.2.getD i (0:p)=x.2.2[i]:=by simp[hi]
 have vG:(tb (aP zs x.2.1)).2.length<=4:=AG hz;have eL:=λs=>KK (o:=(aP zs x.2.1).2.1) (l:=(tb (aP zs x.2.1)).2) s ((tb (aP zs x.2.1)).2.length+1) 0;have e0:j7V ((zs.getD x.2.1.toNat (H,((0:p),([]:B aL)))).1,((zs.getD x.2.1.toNat (H,((0:p),([]:B aL)))).2.1,(zs.getD x.2.1.toNat (H,((0:p),([]:B aL)))).2.2)) (x.2.2[i]+0,0)=_:=_1 h4 (show -2<=x.2.2[i]+0 by omega) aa (show (0:p)<=0 by omega) aa;have e1:j7V ((zs.getD x.2.1.toNat (H,((0:p),([]:B aL)))).1,((zs.getD x.2.1.toNat (H,((0:p),([]:B aL)))).2.1,(zs.getD x.2.1.toNat (H,((0:p),([]:B aL)))).2.2)) (x.2.2[i]+1,0)=_:=_1 h4 (show -2<=x.2.2[i]+1 by omega) aa (show (0:p)<=0 by omega) aa;have b0:=eL ((x.2.2[i]+0)*86400+0);have b1:=eL ((x.2.2[i]+1)*86400+0);rw[OI];simp only[j4X];rw[ag (show (0:p)<2 by omega),bU hx.z0 hx.z1,bU (show (0:p)<=(i:p) by omega) aa];simp only[j6,j8,bc];rw[ar (x:=x.2.2[i]+0),e0];simp only[j4];rw[ag (show acc.length+(jY (aP zs x.2.1).2.1 (tb (aP zs x.2.1)).2 ((x.2.2[i]+0)*86400+0)).length<=aG by unfold jY aG;omega),j6,aS];rw[show w64 (0+1)=1 from rfl,OI];simp only[j4X];rw[ag (show (1:p)<2 by omega),bU hx.z0 hx.z1,bU (show (0:p)<=(i:p) by omega) aa];simp only[j6,j8,bc];rw[ar (x:=x.2.2[i]+1),e1];simp only[j4]
 rw[ag (show (acc++jY (aP zs x.2.1).2.1 (tb (aP zs x.2.1)).2 ((x.2.2[i]+0)*86400+0)).length+(jY (aP zs x.2.1).2.1 (tb (aP zs x.2.1)).2 ((x.2.2[i]+1)*86400+0)).length<=aG by rw[G];unfold jY aG;omega),j6,aS];rw[show w64 (1+1)=2 from rfl,OI];simp only[j4X];rw[an (show¬(2:p)<2 by omega),j7,aW,jg];rfl
theorem ξ(iZ:∀z∈zs,gj z){x:bd}(hx:qP zs.length x):∀(n i:N)(acc:B p),i+n=x.2.2.length->acc.length+10*n<=90000000->
  Cv (i:p) zs ps cs ss x.1 x.2.1 x.2.2 acc=I (acc++(x.2.2.drop i).flatMap (tL (aP zs x.2.1)))
 |0,i,acc,hi,_=>by
  rw[YT,E aa];simp only[j6M,show F x.2.2.length=(x.2.2.length:p) from rfl];rw[an aa,j7,aW];simp
 |n+1,i,acc,hi,ha=>by
  have aq:i<x.2.2.length:=aa;have hl:=hx.len;have hz:gj (aP zs x.2.1):=gm iZ hx.z0 hx.z1;have hb:=ν hz x.2.2[i];have ih:=ξ iZ hx n (i+1) (acc++tL (aP zs x.2.1) x.2.2[i]) aa (by rw[G];omega);rw[jg]at ih;rw[YT,jb aq];simp only[j6M,show F x.2.2.length=(x.2.2.length:p) from rfl];rw[ag (show (i:p)<(x.2.2.length:p) by omega),j6,jGN iZ hx aq aa];simp only[j4];rw[ar (x:=(i:p)+1),aS];exact ih
end
end Go.Proofs.Pw
