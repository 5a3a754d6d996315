/- The il sort of numbers, each once; the JF of a range. -/
import Derived.Test.YtllkgjaoejhneaaGreatSEPA
import Derived.Test.YtllkgjaoejhneaaGreatSEFns
import Derived.Test.YtllkgjaoejhneaaGreatSEPI
import Derived.Test.YtllkgjaoejhneaaGreatSEPD
import Derived.Test.YtllkgjaoejhneaaGreatSEPJ
open _root_ renaming Int->p,List->B,Nat->J
open Int renaming ofNat->E
open ByteArray renaming empty->F
open Option renaming some->G,none->Y
open Decidable renaming decide->H
open List.Pairwise renaming nil->I
open List renaming getD->M,length_filter_le->N
open Go Go.Lft
namespace Go.Proofs.Pw
def fC(out:B p)(x:p):B Int:=cond (cond (H (out.length=0)) true (out.getD (out.length-1) 0 != x)) (out++[x]) out
def ib:J->B p->B p->B p->B p
 |0,out,_,_=>out
 |n+1,out,x::a,y::b=>cond (H (x<=y)) (ib n (fC out x) a (y::b)) (ib n (fC out y) (x::a) b)
 |n+1,out,x::a,[]=>ib n (fC out x) a []
 |n+1,out,[],y::b=>ib n (fC out y) [] b
 |_+1,out,[],[]=>out
def gG:J->B p->B p
 |0,l=>l
 |n+1,l=>if l.length<2 then l else ib l.length [] (gG n (l.take (l.length/2))) (gG n (l.drop (l.length/2)))
theorem Ck(out:B p)(x:p):(fC out x).length<=out.length+1:=by
 unfold fC;cases (cond (H (out.length=0)) true (out.getD (out.length-1) 0 != x))<;>simp
theorem JG{out:B p}{x:p}(h:out.Pairwise (· < ·))(hx:∀y∈out,y<=x):(fC out x).Pairwise (· < ·)/\(∀y,y∈fC out x↔y∈out\/y=x)/\∀y∈fC out x,y<=x:=by
 rcases vf out with rfl|⟨A,u,rfl⟩
 .refine⟨by simp[fC],λy=>by simp[fC],λy hy=>?_⟩;have:y=x:=by simpa[fC]using hy
  omega
 .rw[vg]at h hx ⊢;have hg:(A++[u]).getD ((A++[u]).length-1) (0:p)=u:=by simp[M]
  unfold fC;rw[hg,ak (show¬(A++[u]).length=0 by simp),jd];by_cases he:u=x
  .subst he;rw[jm,jd];exact⟨h,λy=>⟨.inl,λhy=>hy.elim id λe=>by simp[e]⟩,hx⟩
  .have br:(u != x)=true:=by simp[he]
   rw[br,jc];have Bd:=hx u af;have hA:=(yh.1 h).2.2;refine⟨yh.2 ⟨h,af,λy hy z hz=>?_⟩,λy=>by simp[or_assoc],λy hy=>?_⟩
   .have:z=x:=by simpa using hz
    subst this;rcases js.1 hy with hy|hy
    .have:=hA y hy u af;omega
    .have:y=u:=by simpa using hy
     omega
   .rcases js.1 hy with hy|hy
    .exact hx y hy
    .have:y=x:=by simpa using hy
     omega
theorem FH:∀(n:J)(out a b:B p),n=a.length+b.length->out.Pairwise (· < ·)->a.Pairwise (· < ·)->b.Pairwise (· < ·)->(∀x∈out,(∀y∈a,x<=y)/\∀y∈b,x<=y)->
  (ib n out a b).Pairwise (· < ·)/\(∀x,x∈ib n out a b↔x∈out\/x∈a\/x∈b)/\(ib n out a b).length<=out.length+n
 |0,out,a,b,hn,ho,_,_,_=>by
  have h1:a=[]:=zr.1 aa;have h2:b=[]:=zr.1 aa;subst h1;subst h2;exact⟨ho,λx=>by simp[ib],by simp[ib]⟩
 |n+1,out,x::a,y::b,hn,ho,ha,hb,hle=>by
  have pF:=qp.1 ha;have aK:=qp.1 hb;simp only[jq]at hn;unfold ib;by_cases jJ:x<=y
  .rw[ah jJ,jc];obtain⟨p1,p2,p3⟩:=JG (x:=x) ho (λz hz=>(hle z hz).1 x af)
   obtain⟨q1,q2,q3⟩:=FH n (fC out x) a (y::b) ay p1 pF.2 hb (λz hz=>by
    have:=p3 z hz;refine⟨λu hu=>by have:=pF.1 u hu;omega,λu hu=>?_⟩;rcases jl.1 hu with rfl|hu
    .omega
    .have:=aK.1 u hu;omega)
   have:=Ck out x;refine⟨q1,λz=>?_,aa⟩;rw[q2 z,p2 z];simp only[jl];constructor
   .rintro ((h|h)|h|h)
    .exact .inl h
    .exact .inr (.inl (.inl h))
    .exact .inr (.inl (.inr h))
    .exact .inr (.inr h)
   .rintro (h|(h|h)|h)
    .exact .inl (.inl h)
    .exact .inl (.inr h)
    .exact .inr (.inl h)
    .exact .inr (.inr h)
  .rw[ak jJ,jd];obtain⟨p1,p2,p3⟩:=JG (x:=y) ho (λz hz=>(hle z hz).2 y af)
   obtain⟨q1,q2,q3⟩:=FH n (fC out y) (x::a) b ay p1 ha aK.2 (λz hz=>by
    have:=p3 z hz;refine⟨λu hu=>?_,λu hu=>by have:=aK.1 u hu;omega⟩;rcases jl.1 hu with rfl|hu
    .omega
    .have:=pF.1 u hu;omega)
   have:=Ck out y;refine⟨q1,λz=>?_,aa⟩;rw[q2 z,p2 z];simp only[jl];constructor
   .rintro ((h|h)|h|h)
    .exact .inl h
    .exact .inr (.inr (.inl h))
    .exact .inr (.inl h)
    .exact .inr (.inr (.inr h))
   .rintro (h|h|h|h)
    .exact .inl (.inl h)
    .exact .inr (.inl h)
    .exact .inl (.inr h)
    .exact .inr (.inr h)
 |n+1,out,x::a,[],hn,ho,ha,hb,hle=>by
  have pF:=qp.1 ha;simp only[jq,kr]at hn;obtain⟨p1,p2,p3⟩:=JG (x:=x) ho (λz hz=>(hle z hz).1 x af);obtain⟨q1,q2,q3⟩:=FH n (fC out x) a [] ay p1 pF.2 hb (λz hz=>⟨λu hu=>by have:=pF.1 u hu;have:=p3 z hz;omega,λu hu=>by simp at hu⟩);have:=Ck out x;refine⟨q1,λz=>?_,by show (ib n (fC out x) a []).length<=_;omega⟩;show z∈ib n (fC out x) a []↔_;rw[q2 z,p2 z];simp only[jl,vb,or_false,or_assoc]
 |n+1,out,[],y::b,hn,ho,ha,hb,hle=>by
  have aK:=qp.1 hb;simp only[jq,kr]at hn;obtain⟨p1,p2,p3⟩:=JG (x:=y) ho (λz hz=>(hle z hz).2 y af);obtain⟨q1,q2,q3⟩:=FH n (fC out y) [] b ay p1 ha aK.2 (λz hz=>⟨λu hu=>by simp at hu,λu hu=>by have:=aK.1 u hu;have:=p3 z hz;omega⟩);have:=Ck out y;refine⟨q1,λz=>?_,by show (ib n (fC out y) [] b).length<=_;omega⟩;show z∈ib n (fC out y) [] b↔_;rw[q2 z,p2 z];simp only[jl,vb,false_or,or_assoc]
 |n+1,out,[],[],hn,_,_,_,_=>by simp at hn
theorem ZP:∀(n:J)(out a b:B p),a.length+b.length<=n->ib n out a b=ib (a.length+b.length) out a b:=by
 intro n;induction n with
 |zero=>intro out a b h;have:a.length+b.length=0:=aa;rw[this]
 |succ n ih=>
  intro out a b h;match a,b,h with
  |[],[],_=>rfl
  |x::a,[],h=>simp only[jq,kr,Nat.add_zero]at h ⊢;show ib n (fC out x) a []=ib a.length (fC out x) a [];have:=ih (fC out x) a [] ay;simpa using this
  |[],y::b,h=>simp only[jq,kr,ko]at h ⊢;show ib n (fC out y) [] b=ib b.length (fC out y) [] b;have:=ih (fC out y) [] b ay;simpa using this
  |x::a,y::b,h=>simp only[jq]at h ⊢;rw[show a.length+1+(b.length+1)=(a.length+b.length+1)+1 by omega];show cond _ (ib n (fC out x) a (y::b)) (ib n (fC out y) (x::a) b)=cond _ (ib (a.length+b.length+1) (fC out x) a (y::b)) (ib (a.length+b.length+1) (fC out y) (x::a) b);have h1:=ih (fC out x) a (y::b) ay;have h2:=ih (fC out y) (x::a) b ay;simp only[jq]at h1 h2;rw[h1,h2,show a.length+(b.length+1)=a.length+b.length+1 by omega,show a.length+1+b.length=a.length+b.length+1 by omega]
theorem Cl:∀(n:J)(l:B p),l.length<=n+1->(gG n l).Pairwise (· < ·)/\(∀x,x∈gG n l↔x∈l)/\(gG n l).length<=l.length
 |0,l,hl=>by
  refine⟨?_,λx=>Iff.rfl,jy _⟩;match l,hl with
  |[],_=>exact I
  |[x],_=>show List.Pairwise (· < ·) [x];simp
 |n+1,l,hl=>by
  unfold gG;by_cases h2:l.length<2
  .rw[if_pos h2];refine⟨?_,λx=>Iff.rfl,jy _⟩;match l,h2 with
   |[],_=>exact I
   |[x],_=>simp
  .rw[if_neg h2];obtain⟨a1,a2,a3⟩:=Cl n (l.take (l.length/2)) ay;obtain⟨b1,b2,b3⟩:=Cl n (l.drop (l.length/2)) ay;simp only[qq,zd]at a3 b3;rw[ZP l.length [] _ _ aa];obtain⟨q1,q2,q3⟩:=FH _ [] (gG n (l.take (l.length/2))) (gG n (l.drop (l.length/2))) rfl I a1 b1 (λx hx=>by simp at hx);refine⟨q1,λx=>?_,by simp at q3;omega⟩;rw[q2 x,a2 x,b2 x];have hx:x∈l↔x∈l.take (l.length/2)++l.drop (l.length/2):=by rw[zh]
   rw[hx,js];simp
theorem JH:∀(n m:J)(l:B p),l.length<=n+1->l.length<=m+1->gG n l=gG m l
 |0,0,_,_,_=>rfl
 |0,m+1,l,h,_=>by unfold gG;rw[if_pos aa]
 |n+1,0,l,_,h=>by unfold gG;rw[if_pos aa]
 |n+1,m+1,l,h1,h2=>by
  unfold gG;by_cases h:l.length<2
  .rw[if_pos h,if_pos h]
  .rw[if_neg h,if_neg h,JH n m _ ay ay,JH n m _ ay ay]
theorem JI{R:Type}(out:B p)(x:p)(hl:out.length<=400000000)(K:B p->Option R) :
  cond ((inR (w64 ((out.length:p)-1)) out.length) || !(!((out.length:p)==0))) (cond (cond ((out.length:p)==0) true (out.getD (w64 ((out.length:p)-1)).toNat 0 != x)) (cond (H (out.length+[x].length<=aF)) (K (out++[x])) Y) (K out)) Y=K (fC out x):=by
 rw[ar (x:=(out.length:p)-1)];by_cases h0:out.length=0
 .have e:((out.length:p)==0)=true:=fh aa;have:out=[]:=zr.1 h0;subst this;rfl
 .have e:((out.length:p)==0)=false:=cU aa;rw[e,cb (i:=(out.length:p)-1) aa aa,show ((out.length:p)-1).toNat=out.length-1 by omega];simp only[zv,jc,jd];unfold fC;rw[ak h0,jd,ah (show out.length+[x].length<=aF by simp[aF];omega),jc];cases (out.getD (out.length-1) 0 != x)<;>rfl
theorem QZ(rec:B p->Option (B p)){a b:B p}(ha:a.length<=100000000)(hb:b.length<=100000000):∀(n i j:J)(out:B p),i<=a.length->j<=b.length->n=(a.length-i)+(b.length-j)->out.length+n<=200000000->
  Ii rec (i:p) (j:p) out a b=G (ib n out (a.drop i) (b.drop j))
 |0,i,j,out,hi,hj,hn,_=>by
  rw[Wx];simp only[j67,show E a.length=(a.length:p) from rfl,show E b.length=(b.length:p) from rfl];rw[ak (show¬(i:p)<(a.length:p) by omega),jd,ak (show¬(j:p)<(b.length:p) by omega),jd,ba];rfl
 |n+1,i,j,out,hi,hj,hn,ho=>by
  have su:=λ(x:p)(h:i<a.length)=>QZ rec ha hb n (i+1) j (fC out x) aa hj aa (by have:=Ck out x;omega);have sv:=λ(x:p)(h:j<b.length)=>QZ rec ha hb n i (j+1) (fC out x) hi aa aa (by have:=Ck out x;omega);rw[Wx];simp only[j67,show E a.length=(a.length:p) from rfl,show E b.length=(b.length:p) from rfl,show E out.length=(out.length:p) from rfl]
  have ec:cond (H ((i:p)<(a.length:p))) true (H ((j:p)<(b.length:p)))=true:=by
   by_cases h:i<a.length
   .rw[ah aa];rfl
   .rw[ak aa,ah (show (j:p)<(b.length:p) by omega)];rfl
  rw[ec,jc];by_cases hja:j=b.length
  .have sV:i<a.length:=aa;have xt:a.getD i (0:p)=a[i]:=by simp[M,sV]
   rw[fh (show (j:p)=(b.length:p) by omega),jc,cb (i:=(i:p)) (n:=a.length) aa aa,jc,ar (x:=(i:p)+1)];simp only[je,xt];rw[JI out a[i] aa (λo=>G (Sum.inl ((i:p)+1,(j:p),o,a,b))),aV];have:=su a[i] sV;rw[show ((i+1:J):p)=(i:p)+1 by omega]at this;refine this.trans ?_;rw[jh sV,show b.drop j=[] from jj aa];rfl
  .have Cm:j<b.length:=aa;have sJ:b.getD j (0:p)=b[j]:=by simp[M,Cm]
   rw[cU (show (j:p)≠(b.length:p) by omega),jd];by_cases sV:i<a.length
   .have xt:a.getD i (0:p)=a[i]:=by simp[M,sV]
    rw[ah (show (i:p)<(a.length:p) by omega),jc,cb (i:=(i:p)) (n:=a.length) aa aa,cb (i:=(j:p)) (n:=b.length) aa aa,ar (x:=(i:p)+1),ar (x:=(j:p)+1)];simp only[jc,je,xt,sJ];by_cases jJ:a[i]<=b[j]
    .rw[ah jJ,jc,JI out a[i] aa (λo=>G (Sum.inl ((i:p)+1,(j:p),o,a,b))),aV];have:=su a[i] sV;rw[show ((i+1:J):p)=(i:p)+1 by omega]at this;refine this.trans ?_;rw[jh sV,jh Cm];show _=G (cond (H (a[i]<=b[j])) _ _);rw[ah jJ,jc]
    .rw[ak jJ,jd,JI out b[j] aa (λo=>G (Sum.inl ((i:p),(j:p)+1,o,a,b))),aV];have:=sv b[j] Cm;rw[show ((j+1:J):p)=(j:p)+1 by omega]at this;refine this.trans ?_;rw[jh sV,jh Cm];show _=G (cond (H (a[i]<=b[j])) _ _);rw[ak jJ,jd]
   .rw[ak (show¬(i:p)<(a.length:p) by omega),jd,cb (i:=(j:p)) (n:=b.length) aa aa,jc,ar (x:=(j:p)+1)];simp only[je,sJ];rw[JI out b[j] aa (λo=>G (Sum.inl ((i:p),(j:p)+1,o,a,b))),aV];have:=sv b[j] Cm;rw[show ((j+1:J):p)=(j:p)+1 by omega]at this;refine this.trans ?_;rw[jh Cm,show a.drop i=[] from jj aa];rfl
theorem JJ:∀(n:J)(l:B p),l.length<=50000000->(lx j4P n l=Y/\n<=l.length)\/lx j4P n l=G (gG l.length l)
 |0,l,_=> .inl ⟨rfl,kq _⟩
 |n+1,l,hl=>by
  show (Ij (λv0=>lx j4P n v0) l=Y/\_)\/Ij (λv0=>lx j4P n v0) l=_;simp only[Ij,show E l.length=(l.length:p) from rfl];by_cases h2:l.length<2
  .right;rw[ah (show (l.length:p)<2 by omega),jc,ah (show ([]:B p).length+l.length<=aF by simp[aF];omega),jc,kc];cases hk:l.length with
   |zero=>rfl
   |succ k=>unfold gG;rw[if_pos h2]
  .rw[ak (show¬(l.length:p)<2 by omega),jd,uz aa,ar (x:=(l.length:p)/2),show ((l.length:p)/2).toNat=l.length/2 by omega];rw[ah (show (0:p)<=0 by omega),ah (show (0:p)<=(l.length:p)/2 by omega),ah (show (l.length:p)/2<=(l.length:p) by omega),ah (show (l.length:p)<=(l.length:p) by omega)];simp only[yq,jc,jt,List.take_length];have hA:(l.take (l.length/2)).length=l.length/2:=ay;have hB:(l.drop (l.length/2)).length=l.length-l.length/2:=af;rcases JJ n (l.take (l.length/2)) aa with⟨e1,k1⟩|e1
   .exact .inl ⟨by rw[e1];rfl,aa⟩
   .rw[e1,ja];rcases JJ n (l.drop (l.length/2)) aa with⟨e2,k2⟩|e2
    .exact .inl ⟨by rw[e2];rfl,aa⟩
    .right;rw[e2,ja];have o1:=Cl (l.take (l.length/2)).length (l.take (l.length/2)) aa;have o2:=Cl (l.drop (l.length/2)).length (l.drop (l.length/2)) aa;generalize hSA:gG (l.take (l.length/2)).length (l.take (l.length/2))=SA at *;generalize hSB:gG (l.drop (l.length/2)).length (l.drop (l.length/2))=SB at *;have:=QZ (λv0=>lx j4P n v0) (a:=SA) (b:=SB) aa aa (SA.length+SB.length) 0 0 [] aa aa aa ay;rw[show ((0:J):p)=0 from rfl,jt,jt]at this;rw[this,ja];obtain⟨k,hk⟩:∃k,l.length=k+1:=⟨l.length-1,aa⟩
     have e3:gG l.length l=ib l.length [] SA SB:=by
      conv=>lhs;rw[hk];unfold gG
      rw[if_neg h2,<-hSA,<-hSB,JH k (l.take (l.length/2)).length _ aa aa,JH k (l.drop (l.length/2)).length _ aa aa]
     rw[e3];rw[ZP l.length [] SA SB (by have:=o1.2.2;have:=o2.2.2;omega)]
theorem jyE{l:B p}(hl:l.length<=50000000):joa l=G (gG l.length l):=
 UX ⟨l.length+1,(JJ (l.length+1) l hl).resolve_left (λh=>by have:=h.2;omega)⟩ (λn y h=>by
  rcases JJ n l hl with⟨e,_⟩|e
  .rw[e]at h;simp at h
  .rw[e]at h;exact(Option.some.inj h).symm)
def kD(a b x:p):Bool:=cond (H (x>a)) (H (x<b)) false
def jF(ca:B p)(a b:p):B Int:=(a::(gG ca.length ca).filter (kD a b))++(if b>a then [b] else [])
theorem ZQ{a b:p}{l:B p}(hl:l.length<=50000000):∀(n i:J)(out:B p),i+n=l.length->out.length+n<=100000000->Ik a b (i:p) out l=G (a,b,out++(l.drop i).filter (kD a b))
 |0,i,out,hi,_=>by
  rw[Wy];simp only[j4p,show E l.length=(l.length:p) from rfl];rw[ak aa,jd,ba,jj aa];simp
 |n+1,i,out,hi,ho=>by
  have au:i<l.length:=aa;have bm:l.getD i (0:p)=l[i]:=by simp[M,au]
  rw[Wy,jh au];simp only[j4p,show E l.length=(l.length:p) from rfl];rw[ah (show (i:p)<(l.length:p) by omega),cb (i:=(i:p)) aa aa,ar (x:=(i:p)+1)];simp only[jc,je,bm,zv];have ih:=λout h=>ZQ (a:=a) (b:=b) hl n (i+1) out aa h;rw[show ((i+1:J):p)=(i:p)+1 by omega]at ih;show lpK (cond (kD a b l[i]) _ _) _=_;cases hc:kD a b l[i]with
  |true=>rw[jc,ah (by simp[aF];omega),jc,aV,List.filter_cons_of_pos hc];have:=ih (out++[l[i]]) ay;rw[jo]at this;exact this
  |false=>rw[jd,aV,List.filter_cons_of_neg (by simp[hc])];exact ih out aa
theorem juy{ca:B p}(hl:ca.length<=49000000)(a b:p):jeg ca a b=G (jF ca a b):=by
 obtain⟨_,_,h3⟩:=Cl ca.length ca aa;have:=ZQ (a:=a) (b:=b) (l:=gG ca.length ca) aa (gG ca.length ca).length 0 [a] aa ay;rw[show ((0:J):p)=0 from rfl,jt]at this;have fD:((gG ca.length ca).filter (kD a b)).length<=(gG ca.length ca).length:=N _ _;simp only[jeg,jyE (show ca.length<=50000000 by omega),ja,this];unfold jF;by_cases cX:b>a
 .rw[ah cX,jc,ah (by simp[aF];omega),jc,if_pos cX];rfl
 .rw[ak cX,jd,if_neg cX,qh];rfl
theorem jAV(ca:B p){a b:p}(cX:a<=b):(jF ca a b).Pairwise (· < ·)/\(jF ca a b).length<=ca.length+2/\(∀x∈jF ca a b,a<=x/\x<=b)/\(∀c∈ca,a<c->c<b->c∈jF ca a b)/\
  (∃r,jF ca a b=a::r)/\(a<b->∃r,jF ca a b=r++[b])/\(a=b->jF ca a b=[a]):=by
 obtain⟨h1,h2,h3⟩:=Cl ca.length ca aa;have fD:((gG ca.length ca).filter (kD a b)).length<=(gG ca.length ca).length:=N _ _
 have gK:∀x,x∈(gG ca.length ca).filter (kD a b)↔x∈ca/\a<x/\x<b:=λx=>by
  rw[yy,h2 x];unfold kD;constructor
  .rintro⟨hx,hc⟩
   by_cases Ad:x>a
   .rw[ah Ad,jc]at hc;exact⟨hx,Ad,qb hc⟩
   .rw[ak Ad,jd]at hc;simp at hc
  .rintro⟨hx,Ad,hxb⟩
   exact⟨hx,by rw[ah (show x>a from Ad),jc,ah hxb]⟩
 have Cn:((gG ca.length ca).filter (kD a b)).Pairwise (· < ·):=h1.filter _;unfold jF;by_cases au:a<b
 .rw[if_pos (show b>a from au)];refine⟨?_,?_,λx hx=>?_,λc hc h1 h2=>?_,⟨_,rfl⟩,λ_=>⟨_,rfl⟩,λh=>aa⟩
  .refine yh.2 ⟨qp.2 ⟨λx hx=>((gK x).1 hx).2.1,Cn⟩,af,λx hx y hy=>?_⟩;have:y=b:=by simpa using hy
   subst this;rcases jl.1 hx with rfl|hx
   .exact au
   .exact((gK x).1 hx).2.2
  .simp only[jn,jq,kr];omega
  .rcases js.1 hx with hx|hx
   .rcases jl.1 hx with rfl|hx
    .omega
    .have:=(gK x).1 hx;omega
   .have:x=b:=by simpa using hx
    omega
  .exact js.2 (.inl (qv _ ((gK c).2 ⟨hc,h1,h2⟩)))
 .have hab':a=b:=aa;rw[if_neg (show¬b>a by omega)];have eX:(gG ca.length ca).filter (kD a b)=[]:=List.eq_nil_iff_forall_not_mem.2 (λx hx=>by have:=(gK x).1 hx;omega);rw[eX];refine⟨af,af,λx hx=>?_,λc hc h1 h2=>aa,⟨[],rfl⟩,λh=>aa,λ_=>rfl⟩;have:x=a:=by simpa using hx
  omega
section
variable{z:bS}{l:bg}(h4:Z4 z l)
include h4
theorem Ae{L:bC}(h:Rt L)(from_ FI:p):∀(n:J)(k:p)(acc:B p),k+n=2386093->0<=k->(acc.length:p)<=k->
  ∃out,Ia from_ FI k z.1 z.2.1 z.2.2 L.1 L.2.1 L.2.2.1.1 L.2.2.1.2 L.2.2.2.1 L.2.2.2.2.1 L.2.2.2.2.2.1 L.2.2.2.2.2.2.1 L.2.2.2.2.2.2.2.1 L.2.2.2.2.2.2.2.2 acc=G (0,out)/\(out.length:p)<=2386094/\
   (∀x∈acc,x∈out)/\∀j v,k<=j->hO z.2.1 l L j=G v->from_<=v->v<FI->v∈out
 |n,k,acc,hn,hk,ha=>by
  obtain⟨v',pO,gn⟩:=Fs h4 h (k:=k) hk aa;rw[jh7];simp only[j4O];rw[show j6H (z.1,(z.2.1,z.2.2)) (L.1,L.2.1,(L.2.2.1.1,L.2.2.1.2),L.2.2.2.1,L.2.2.2.2.1,L.2.2.2.2.2.1,L.2.2.2.2.2.2.1,L.2.2.2.2.2.2.2.1,L.2.2.2.2.2.2.2.2) k=_ from pO];simp only[ja];cases hx:hO z.2.1 l L k with
  |none=>simp only[ve,jv,jc,ba];refine⟨acc,rfl,aa,λx hx=>hx,λj v hj hv _ _=>?_⟩;obtain⟨u,hu,_⟩:=QO.le h4.2 h hj ⟨v,hv,kx v⟩;rw[hx]at hu;simp at hu
  |some t=>
   have:=gn t hx;subst v';simp only[zm,jk,jd];by_cases iX:t>=FI
   .rw[ah iX];simp only[jc,ba];refine⟨acc,rfl,aa,λx hx=>hx,λj v hj hv _ tV=>?_⟩;obtain⟨u,hu,huv⟩:=QO.le h4.2 h hj ⟨v,hv,kx v⟩;rw[hx]at hu;simp at hu;omega
   .rw[ak iX,ah (show acc.length+[t].length<=aF by simp[aF];omega),ar (x:=k+1)];simp only[jc,jd];cases n with
    |zero=>have:=zX h4.2 h hk hx;omega
    |succ n=>
     by_cases gH:t>=from_
     .rw[ah gH];simp only[jc,aV];obtain⟨out,e1,e2,e3,e4⟩:=Ae h from_ FI n (k+1) (acc++[t]) aa aa ay;refine⟨out,e1,e2,λx hx=>e3 x (by simp[hx]),λj v hj hv h1 h2=>?_⟩;by_cases rh:j=k
      .subst rh;rw[hx]at hv;simp at hv;subst hv;exact e3 t af
      .exact e4 j v aa hv h1 h2
     .rw[ak gH];simp only[jd,aV];obtain⟨out,e1,e2,e3,e4⟩:=Ae h from_ FI n (k+1) acc aa aa aa;refine⟨out,e1,e2,e3,λj v hj hv h1 h2=>?_⟩;by_cases rh:j=k
      .subst rh;rw[hx]at hv;simp at hv;omega
      .exact e4 j v aa hv h1 h2
theorem jCi{a b:p}(ha:0<=a)(cX:a<=b)(hb:b<=8589934592)(hq:b-a<=34560000):j8P a b=G true:=by
 have _:=h4;simp only[j8P];rw[ah (show a>=0 from ha),ah (show a<=8589934592 by omega),ah (show b>=a from cX),ah hb,ar (x:=b-a),ah hq];rfl
theorem jyF{L:bC}(h:Rt L){a b:p}(ha:0<=a)(cX:a<=b)(hb:b<=8589934592)(hq:b-a<=34560000):∃out,j8Q z L a b=G (out,0)/\out.length<=2386094/\∀j v,0<=j->hO z.2.1 l L j=G v->a<v->v<b->v∈out:=by
 obtain⟨K,eK,hK⟩:=Zb h4 h ha aa
 have hKb:K<=2386092:=by
  rcases hK with⟨hK,_⟩|⟨hK,⟨y,hy,_⟩,_⟩
  .omega
  .exact(zX h4.2 h hK hy).2.2
 obtain⟨k0,kN⟩:∃k0:p,k0=(if K>0 then K else 0):=⟨_,rfl⟩;have dm:0<=k0/\k0<=2386092/\(0<k0->k0=K):=by rw[kN];split<;>omega
 obtain⟨out,e1,e2,_,e4⟩:=Ae h4 h a b (2386093-k0).toNat k0 [] aa dm.1 ay;refine⟨out,?_,aa,λj v hj hv h1 h2=>?_⟩
 .have e2:jbD (z.1,(z.2.1,z.2.2)) (L.1,L.2.1,(L.2.2.1.1,L.2.2.1.2),L.2.2.2.1,L.2.2.2.2.1,L.2.2.2.2.2.1,L.2.2.2.2.2.2.1,L.2.2.2.2.2.2.2.1,L.2.2.2.2.2.2.2.2)=_:=Y9 h4 L;simp only[j8Q,e2,ja];rw[if_pos h];simp only[jm,jd,jCi h4 ha cX hb hq,ja,jk];rw[show jbF (z.1,(z.2.1,z.2.2)) (L.1,L.2.1,(L.2.2.1.1,L.2.2.1.2),L.2.2.2.1,L.2.2.2.2.1,L.2.2.2.2.2.1,L.2.2.2.2.2.2.1,L.2.2.2.2.2.2.2.1,L.2.2.2.2.2.2.2.2) a=_ from eK];simp only[ja];rw[<-kN,e1];rfl
 .by_cases rh:k0<=j
  .exact e4 j v rh hv aa h2
  .exfalso;have hKk:=dm.2.2 aa;rcases hK with⟨hK,_⟩|⟨hK,hq,_⟩
   .omega
   .obtain⟨u,hu,hua⟩:=QO.le h4.2 h (show j<=K by omega) hq;rw[hv]at hu;simp at hu;omega
end
theorem jyG{z:bS}(hz:fR z){L:bC}(hR:Rt L){x y:p}(h0:0<=x)(jJ:x<=y)(h1:y<=8589934592)(cY:∀j v,0<=j->hO z.2.1 (tb z).2 L j=G v->¬(x<v/\v<=y)):bQ z L x=bQ z L y:=by
 have a:=(pq hz hR (t:=x) h0 aa).2;have b:=(pq hz hR (t:=y) aa h1).2;refine kB.uniq hz.ztab.2 hR (t:=y) ?_ b;have q:∀j,0<=j->QO z.2.1 (tb z).2 L y j->QO z.2.1 (tb z).2 L x j:=λj hj ⟨v,hv,Gb⟩=>⟨v,hv,by have:=cY j v hj hv;omega⟩;rcases a with⟨a1,a2⟩|⟨a1,a2,a3⟩
 .exact .inl ⟨a1,λh=>a2 (q 0 aa h)⟩
 .obtain⟨v,hv,C3⟩:=a2;exact .inr ⟨a1,⟨v,hv,aa⟩,λh=>a3 (q _ aa h)⟩
theorem JK{z:bS}(hz:fR z){t:p}(h0:0<=t)(h1:t<=8589934592){k:J}(hk:k<=(tb z).2.length)(k1:aS (tb z).2 k<=t)(k2:t<aS (tb z).2 (k+1)) :
  cm z t=((t+bj z.2.1 (tb z).2 k)/86400,(t+bj z.2.1 (tb z).2 k)%86400)/\fj (cm z t)=(t+bj z.2.1 (tb z).2 k+259200)%604800:=by
 have e:=B6 hz.ztab.2 hk k1 k2;have o0:=hz.ztab.2.of0 k hk;have o1:=hz.ztab.2.of1 k hk;have el:cm z t=((t+bj z.2.1 (tb z).2 k)/86400,(t+bj z.2.1 (tb z).2 k)%86400):=by simp only[cm,show j0o (tb z) t=_ from e,zj]
 refine⟨el,?_⟩;have uG:j6Z (cm z t)=G (fj (cm z t)):=(FA hz h0 h1).2;have h5:=FG (d:=(t+bj z.2.1 (tb z).2 k)/86400) (s:=(t+bj z.2.1 (tb z).2 k)%86400) aa aa aa aa;rw[el]at uG ⊢;rw[h5]at uG;have:=Option.some.inj uG;rw[<-this];congr 1;omega
theorem jyH{W:SL}{x y:p}(jJ:x<=y)(cY:∀u∈W,¬(x<u.1/\u.1<=y)/\¬(x<u.2/\u.2<=y)):bG x W↔bG y W:=by
 constructor
 .rintro⟨u,hu,h1,h2⟩
  have:=cY u hu;exact⟨u,hu,aa,aa⟩
 .rintro⟨u,hu,h1,h2⟩
  have:=cY u hu;exact⟨u,hu,aa,aa⟩
theorem ZR{o:p}{l:bg}{s:p}:∀(n j i:J),j<=i->i<j+n->rT o l s i->s-bj o l i∈pd o l s j n
 |0,_,_,h1,h2,_=>aa
 |n+1,j,i,h1,h2,hs=>by
  simp only[pd];by_cases he:i=j
  .subst he;rw[if_pos hs];simp
  .exact jw _ (ZR n (j+1) i aa aa hs)
theorem jyI{z:bS}(hz:fR z){ds:B p}{x y:p}(h0:0<=x)(jJ:x<=y)(h1:y<=8589934592)(htr:∀i,i<(tb z).2.length->¬(x<dW (tb z).2 i/\dW (tb z).2 i<=y))
  (wj:∀d∈ds,∀i:p,0<=i->i<2->∀t∈jE z.2.1 (tb z).2 ((d+i)*86400+0),¬(x<t/\t<=y)):H ((cm z x).1∈ds)=H ((cm z y).1∈ds):=by
 obtain⟨k,hk,k1,k2⟩:=sT hz.ztab.2 (t:=x) h0 aa
 have k3:y<aS (tb z).2 (k+1):=by
  rcases qx k (tb z).2.length with hl|hl
  .have:=htr k hl;rw[gE hl]at k2 ⊢;omega
  .rw[show k=(tb z).2.length by omega,lE];omega
 obtain⟨e1,_⟩:=JK hz h0 aa hk k1 k2;obtain⟨e2,_⟩:=JK hz (t:=y) aa h1 hk aa k3
 have key:∀D:p,x+bj z.2.1 (tb z).2 k<D*86400->D*86400<=y+bj z.2.1 (tb z).2 k->∀d∈ds,∀i:p,0<=i->i<2->d+i=D->False:=λD d1 d2 d hd i i0 i1 Zh=>by
  have hs:rT z.2.1 (tb z).2 (D*86400+0) k:=⟨aa,aa⟩;have hm:D*86400+0-bj z.2.1 (tb z).2 k∈jE z.2.1 (tb z).2 ((d+i)*86400+0):=by rw[Zh];exact ZR _ 0 k aa aa hs
  exact wj d hd i i0 i1 _ hm ⟨aa,aa⟩
 rw[e1,e2];by_cases he:(x+bj z.2.1 (tb z).2 k)/86400=(y+bj z.2.1 (tb z).2 k)/86400
 .rw[he]
 .have gZ:¬(x+bj z.2.1 (tb z).2 k)/86400∈ds:=λhd=>key ((x+bj z.2.1 (tb z).2 k)/86400+1) aa aa _ hd 1 aa aa rfl;have gV:¬(y+bj z.2.1 (tb z).2 k)/86400∈ds:=λhd=>key ((y+bj z.2.1 (tb z).2 k)/86400) aa aa _ hd 0 aa aa aa;rw[ak gZ,ak gV]
def uI(W:SL):B Int:=W.flatMap λu=>[u.1,u.2]
theorem jAW(W:SL):(uI W).length=2*W.length:=by
 induction W with
 |nil=>rfl
 |cons x r ih=>have:uI (x::r)=[x.1,x.2]++uI r:=rfl;rw[this,jn,ih];simp;omega
section
variable{zs:B bS}{ps:B eu}{cs:B bq}{ss:B dC}
theorem ZS{L:bC}{W:SL}(hW:W.length<=10000):∀(n i:J)(acc:B p),i+n=W.length->acc.length+2*n<=100000000->
  Ig (i:p) zs ps cs ss L.1 L.2.1 L.2.2.1.1 L.2.2.1.2 L.2.2.2.1 L.2.2.2.2.1 L.2.2.2.2.2.1 L.2.2.2.2.2.2.1 L.2.2.2.2.2.2.2.1 L.2.2.2.2.2.2.2.2 acc W=
   G (zs,ps,cs,ss,L.1,L.2.1,L.2.2.1.1,L.2.2.1.2,L.2.2.2.1,L.2.2.2.2.1,L.2.2.2.2.2.1,L.2.2.2.2.2.2.1,L.2.2.2.2.2.2.2.1,L.2.2.2.2.2.2.2.2,acc++uI (W.drop i))
 |0,i,acc,hi,_=>by
  rw[Wt,jj aa];simp only[j64,show E W.length=(W.length:p) from rfl];rw[ak aa,jd,ba];simp[uI]
 |n+1,i,acc,hi,ha=>by
  have au:i<W.length:=aa;have bm:W.getD i ((0:p),(0:p))=W[i]:=by simp[au]
  have ih:=ZS (L:=L) hW n (i+1) (acc++[W[i].1,W[i].2]) aa ay;rw[jo]at ih;rw[Wt,jh au];simp only[j64,show E W.length=(W.length:p) from rfl];rw[ah (show (i:p)<(W.length:p) by omega),bP,ar (x:=(i:p)+1)];simp only[jc,je,bm];rw[ah (by simp[aF];omega),jc,aV];exact ih
theorem ZT{x:bq}{T:bg}(hT:T.length<=1000):∀(n i:J)(acc:B p),i+n=T.length->acc.length+n<=100000000->
  zH (i:p) zs ps cs ss x.1 x.2.1 x.2.2 acc T=G (zs,ps,cs,ss,x.1,x.2.1,x.2.2,acc++(T.drop i).map (·.1))
 |0,i,acc,hi,_=>by
  rw[Wu,jj aa];simp only[j65,show E T.length=(T.length:p) from rfl];rw[ak aa,jd,ba];simp
 |n+1,i,acc,hi,ha=>by
  have au:i<T.length:=aa;have bm:T.getD i ((0:p),(0:p))=T[i]:=by simp[au]
  have ih:=ZT (x:=x) hT n (i+1) (acc++[T[i].1]) aa ay;rw[jo]at ih;rw[Wu,jh au];simp only[j65,show E T.length=(T.length:p) from rfl];rw[ah (show (i:p)<(T.length:p) by omega),bP,ar (x:=(i:p)+1)];simp only[jc,je,bm];rw[ah (by simp[aF];omega),jc,aV];exact ih
def sW(z:bS)(d:p):B Int:=jE z.2.1 (tb z).2 ((d+0)*86400+0)++jE z.2.1 (tb z).2 ((d+1)*86400+0)
theorem ZU{z:bS}(hz:fR z)(d:p):(sW z d).length<=10:=by
 have h4:(tb z).2.length<=4:=zZ hz;have a:=Jr (o:=z.2.1) (l:=(tb z).2) ((d+0)*86400+0) ((tb z).2.length+1) 0;have b:=Jr (o:=z.2.1) (l:=(tb z).2) ((d+1)*86400+0) ((tb z).2.length+1) 0;unfold sW jE;rw[jn];omega
theorem jCS(iJ:∀z∈zs,fR z){x:bq}(hx:pV zs.length x){i:J}(hi:i<x.2.2.length){acc:B p}(ha:acc.length<=90000000) :
  Ih (i:p) 0 zs ps cs ss x.1 x.2.1 x.2.2 acc=G ((i:p),zs,ps,cs,ss,x.1,x.2.1,x.2.2,acc++sW (aJ zs x.2.1) x.2.2[i]):=by
 have hz:fR (aJ zs x.2.1):=fT iJ hx.z0 hx.z1;have h4:=hz.zref.2.1;have hd:=hx.day _ (ju hi);have d0:=jCc hd;have d1:=jCb hd;have bm:x.2.2.getD i (0:p)=x.2.2[i]:=by simp[hi]
 have wM:(tb (aJ zs x.2.1)).2.length<=4:=zZ hz;have eN:=λs=>Jr (o:=(aJ zs x.2.1).2.1) (l:=(tb (aJ zs x.2.1)).2) s ((tb (aJ zs x.2.1)).2.length+1) 0;have e0:j70 ((zs.getD x.2.1.toNat (F,((0:p),([]:B aH)))).1,((zs.getD x.2.1.toNat (F,((0:p),([]:B aH)))).2.1,(zs.getD x.2.1.toNat (F,((0:p),([]:B aH)))).2.2)) (x.2.2[i]+0,0)=_:=Yt h4 (show -2<=x.2.2[i]+0 by omega) aa (show (0:p)<=0 by omega) aa;have e1:j70 ((zs.getD x.2.1.toNat (F,((0:p),([]:B aH)))).1,((zs.getD x.2.1.toNat (F,((0:p),([]:B aH)))).2.1,(zs.getD x.2.1.toNat (F,((0:p),([]:B aH)))).2.2)) (x.2.2[i]+1,0)=_:=Yt h4 (show -2<=x.2.2[i]+1 by omega) aa (show (0:p)<=0 by omega) aa;have b0:=eN ((x.2.2[i]+0)*86400+0);have b1:=eN ((x.2.2[i]+1)*86400+0);rw[Nl];simp only[j4y];rw[ah (show (0:p)<2 by omega),cb hx.z0 hx.z1,cb (show (0:p)<=(i:p) by omega) aa];simp only[jc,je,bm];rw[ar (x:=x.2.2[i]+0),e0];simp only[ja];rw[ah (show acc.length+(jE (aJ zs x.2.1).2.1 (tb (aJ zs x.2.1)).2 ((x.2.2[i]+0)*86400+0)).length<=aF by unfold jE aF;omega),jc,aV];rw[show w64 (0+1)=1 from rfl,Nl];simp only[j4y];rw[ah (show (1:p)<2 by omega),cb hx.z0 hx.z1,cb (show (0:p)<=(i:p) by omega) aa];simp only[jc,je,bm];rw[ar (x:=x.2.2[i]+1),e1];simp only[ja]
 rw[ah (show (acc++jE (aJ zs x.2.1).2.1 (tb (aJ zs x.2.1)).2 ((x.2.2[i]+0)*86400+0)).length+(jE (aJ zs x.2.1).2.1 (tb (aJ zs x.2.1)).2 ((x.2.2[i]+1)*86400+0)).length<=aF by rw[jn];unfold jE aF;omega),jc,aV];rw[show w64 (1+1)=2 from rfl,Nl];simp only[j4y];rw[ak (show¬(2:p)<2 by omega),jd,ba,jo];rfl
theorem ZV(iJ:∀z∈zs,fR z){x:bq}(hx:pV zs.length x):∀(n i:J)(acc:B p),i+n=x.2.2.length->acc.length+10*n<=90000000->
  BW (i:p) zs ps cs ss x.1 x.2.1 x.2.2 acc=G (acc++(x.2.2.drop i).flatMap (sW (aJ zs x.2.1)))
 |0,i,acc,hi,_=>by
  rw[Ww,jj aa];simp only[j66,show E x.2.2.length=(x.2.2.length:p) from rfl];rw[ak aa,jd,ba];simp
 |n+1,i,acc,hi,ha=>by
  have au:i<x.2.2.length:=aa;have hl:=hx.len;have hz:fR (aJ zs x.2.1):=fT iJ hx.z0 hx.z1;have hb:=ZU hz x.2.2[i];have ih:=ZV iJ hx n (i+1) (acc++sW (aJ zs x.2.1) x.2.2[i]) aa (by rw[jn];omega);rw[jo]at ih;rw[Ww,jh au];simp only[j66,show E x.2.2.length=(x.2.2.length:p) from rfl];rw[ah (show (i:p)<(x.2.2.length:p) by omega),jc,jCS iJ hx au aa];simp only[ja];rw[ar (x:=(i:p)+1),aV];exact ih
end
end Go.Proofs.Pw
