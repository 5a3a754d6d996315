/- The nJ sort of numbers, each once; the wJ of a range. -/
import Derived.Test.YtgfoijaggkhgnaaGreatLXPA
import Derived.Test.YtgfoijaggkhgnaaGreatLXFns
import Derived.Test.YtgfoijaggkhgnaaGreatLXPK
import Derived.Test.YtgfoijaggkhgnaaGreatLXPE
import Derived.Test.YtgfoijaggkhgnaaGreatLXPO
open _root_ renaming Int->p,List->w,Nat->I
open Int renaming ofNat->B
open ByteArray renaming empty->E
open Option renaming some->F,none->U
open Decidable renaming decide->G
open List.Pairwise renaming nil->H
open List renaming getD->J
open Go Go.Lft
namespace Go.Proofs.Pw
def fL(out:w p)(x:p):w Int:=cond (cond (G (out.length=0)) true (out.getD (out.length-1) 0 != x)) (out++[x]) out
def iK:I->w p->w p->w p->w p
 |0,out,_,_=>out
 |n+1,out,x::a,y::b=>cond (G (x<=y)) (iK n (fL out x) a (y::b)) (iK n (fL out y) (x::a) b)
 |n+1,out,x::a,[]=>iK n (fL out x) a []
 |n+1,out,[],y::b=>iK n (fL out y) [] b
 |_+1,out,[],[]=>out
def hU:I->w p->w p
 |0,l=>l
 |n+1,l=>if l.length<2 then l else iK l.length [] (hU n (l.take (l.length/2))) (hU n (l.drop (l.length/2)))
theorem Dp(out:w p)(x:p):(fL out x).length<=out.length+1:=by
 unfold fL;cases (cond (G (out.length=0)) true (out.getD (out.length-1) 0 != x))<;>simp
theorem LL{out:w p}{x:p}(h:out.Pairwise (· < ·))(hx:∀y∈out,y<=x):(fL out x).Pairwise (· < ·)/\(∀y,y∈fL out x↔y∈out\/y=x)/\∀y∈fL out x,y<=x:=by
 rcases vw out with rfl|⟨A,u,rfl⟩
 .refine⟨by simp[fL],λy=>by simp[fL],λy hy=>?_⟩;have:y=x:=by simpa[fL]using hy
  omega
 .rw[vz]at h hx ⊢;have hg:(A++[u]).getD ((A++[u]).length-1) (0:p)=u:=by simp[J]
  unfold fL;rw[hg,aj (show¬(A++[u]).length=0 by simp),j7];by_cases he:u=x
  .subst he;rw[jh,j7];exact⟨h,λy=>⟨.inl,λhy=>hy.elim id λe=>by simp[e]⟩,hx⟩
  .have bA:(u != x)=true:=by simp[he]
   rw[bA,j6];have Cs:=hx u ae;have hA:=(zk.1 h).2.2;refine⟨zk.2 ⟨h,ae,λy hy z hz=>?_⟩,λy=>by simp[or_assoc],λy hy=>?_⟩
   .have:z=x:=by simpa using hz
    subst this;rcases jn.1 hy with hy|hy
    .have:=hA y hy u ae;omega
    .have:y=u:=by simpa using hy
     omega
   .rcases jn.1 hy with hy|hy
    .exact hx y hy
    .have:y=x:=by simpa using hy
     omega
theorem H3:∀(n:I)(out a b:w p),n=a.length+b.length->out.Pairwise (· < ·)->a.Pairwise (· < ·)->b.Pairwise (· < ·)->(∀x∈out,(∀y∈a,x<=y)/\∀y∈b,x<=y)->
  (iK n out a b).Pairwise (· < ·)/\(∀x,x∈iK n out a b↔x∈out\/x∈a\/x∈b)/\(iK n out a b).length<=out.length+n
 |0,out,a,b,hn,ho,_,_,_=>by
  have h1:a=[]:=qg.1 aa;have h2:b=[]:=qg.1 aa;subst h1;subst h2;exact⟨ho,λx=>by simp[iK],by simp[iK]⟩
 |n+1,out,x::a,y::b,hn,ho,ha,hb,hle=>by
  have rI:=kb.1 ha;have aW:=kb.1 hb;simp only[jk]at hn;unfold iK;by_cases iP:x<=y
  .rw[ah iP,j6];obtain⟨p1,p2,p3⟩:=LL (x:=x) ho (λz hz=>(hle z hz).1 x ae)
   obtain⟨q1,q2,q3⟩:=H3 n (fL out x) a (y::b) ax p1 rI.2 hb (λz hz=>by
    have:=p3 z hz;refine⟨λu hu=>by have:=rI.1 u hu;omega,λu hu=>?_⟩;rcases je.1 hu with rfl|hu
    .omega
    .have:=aW.1 u hu;omega)
   have:=Dp out x;refine⟨q1,λz=>?_,aa⟩;rw[q2 z,p2 z];simp only[je];constructor
   .rintro ((h|h)|h|h)
    .exact .inl h
    .exact .inr (.inl (.inl h))
    .exact .inr (.inl (.inr h))
    .exact .inr (.inr h)
   .rintro (h|(h|h)|h)
    .exact .inl (.inl h)
    .exact .inl (.inr h)
    .exact .inr (.inl h)
    .exact .inr (.inr h)
  .rw[aj iP,j7];obtain⟨p1,p2,p3⟩:=LL (x:=y) ho (λz hz=>(hle z hz).2 y ae)
   obtain⟨q1,q2,q3⟩:=H3 n (fL out y) (x::a) b ax p1 ha aW.2 (λz hz=>by
    have:=p3 z hz;refine⟨λu hu=>?_,λu hu=>by have:=aW.1 u hu;omega⟩;rcases je.1 hu with rfl|hu
    .omega
    .have:=rI.1 u hu;omega)
   have:=Dp out y;refine⟨q1,λz=>?_,aa⟩;rw[q2 z,p2 z];simp only[je];constructor
   .rintro ((h|h)|h|h)
    .exact .inl h
    .exact .inr (.inr (.inl h))
    .exact .inr (.inl h)
    .exact .inr (.inr (.inr h))
   .rintro (h|h|h|h)
    .exact .inl (.inl h)
    .exact .inr (.inl h)
    .exact .inl (.inr h)
    .exact .inr (.inr h)
 |n+1,out,x::a,[],hn,ho,ha,hb,hle=>by
  have rI:=kb.1 ha;simp only[jk,kx]at hn;obtain⟨p1,p2,p3⟩:=LL (x:=x) ho (λz hz=>(hle z hz).1 x ae);obtain⟨q1,q2,q3⟩:=H3 n (fL out x) a [] ax p1 rI.2 hb (λz hz=>⟨λu hu=>by have:=rI.1 u hu;have:=p3 z hz;omega,λu hu=>by simp at hu⟩);have:=Dp out x;refine⟨q1,λz=>?_,by show (iK n (fL out x) a []).length<=_;omega⟩;show z∈iK n (fL out x) a []↔_;rw[q2 z,p2 z];simp only[je,vk,or_false,or_assoc]
 |n+1,out,[],y::b,hn,ho,ha,hb,hle=>by
  have aW:=kb.1 hb;simp only[jk,kx]at hn;obtain⟨p1,p2,p3⟩:=LL (x:=y) ho (λz hz=>(hle z hz).2 y ae);obtain⟨q1,q2,q3⟩:=H3 n (fL out y) [] b ax p1 ha aW.2 (λz hz=>⟨λu hu=>by simp at hu,λu hu=>by have:=aW.1 u hu;have:=p3 z hz;omega⟩);have:=Dp out y;refine⟨q1,λz=>?_,by show (iK n (fL out y) [] b).length<=_;omega⟩;show z∈iK n (fL out y) [] b↔_;rw[q2 z,p2 z];simp only[je,vk,false_or,or_assoc]
 |n+1,out,[],[],hn,_,_,_,_=>by simp at hn
theorem ŋ:∀(n:I)(out a b:w p),a.length+b.length<=n->iK n out a b=iK (a.length+b.length) out a b:=by
 intro n;induction n with
 |zero=>intro out a b h;have:a.length+b.length=0:=aa;rw[this]
 |succ n ih=>
  intro out a b h;match a,b,h with
  |[],[],_=>rfl
  |x::a,[],h=>simp only[jk,kx,Nat.add_zero]at h ⊢;show iK n (fL out x) a []=iK a.length (fL out x) a [];have:=ih (fL out x) a [] ax;simpa using this
  |[],y::b,h=>simp only[jk,kx,ki]at h ⊢;show iK n (fL out y) [] b=iK b.length (fL out y) [] b;have:=ih (fL out y) [] b ax;simpa using this
  |x::a,y::b,h=>simp only[jk]at h ⊢;rw[show a.length+1+(b.length+1)=(a.length+b.length+1)+1 by omega];show cond _ (iK n (fL out x) a (y::b)) (iK n (fL out y) (x::a) b)=cond _ (iK (a.length+b.length+1) (fL out x) a (y::b)) (iK (a.length+b.length+1) (fL out y) (x::a) b);have h1:=ih (fL out x) a (y::b) ax;have h2:=ih (fL out y) (x::a) b ax;simp only[jk]at h1 h2;rw[h1,h2,show a.length+(b.length+1)=a.length+b.length+1 by omega,show a.length+1+b.length=a.length+b.length+1 by omega]
theorem Dq:∀(n:I)(l:w p),l.length<=n+1->(hU n l).Pairwise (· < ·)/\(∀x,x∈hU n l↔x∈l)/\(hU n l).length<=l.length
 |0,l,hl=>by
  refine⟨?_,λx=>Iff.rfl,jv _⟩;match l,hl with
  |[],_=>exact H
  |[x],_=>show List.Pairwise (· < ·) [x];simp
 |n+1,l,hl=>by
  unfold hU;by_cases h2:l.length<2
  .rw[if_pos h2];refine⟨?_,λx=>Iff.rfl,jv _⟩;match l,h2 with
   |[],_=>exact H
   |[x],_=>simp
  .rw[if_neg h2];obtain⟨a1,a2,a3⟩:=Dq n (l.take (l.length/2)) ax;obtain⟨b1,b2,b3⟩:=Dq n (l.drop (l.length/2)) ax;simp only[qo,vi]at a3 b3;rw[ŋ l.length [] _ _ aa];obtain⟨q1,q2,q3⟩:=H3 _ [] (hU n (l.take (l.length/2))) (hU n (l.drop (l.length/2))) rfl H a1 b1 (λx hx=>by simp at hx);refine⟨q1,λx=>?_,by simp at q3;omega⟩;rw[q2 x,a2 x,b2 x];have hx:x∈l↔x∈l.take (l.length/2)++l.drop (l.length/2):=by rw[qx]
   rw[hx,jn];simp
theorem LN:∀(n m:I)(l:w p),l.length<=n+1->l.length<=m+1->hU n l=hU m l
 |0,0,_,_,_=>rfl
 |0,m+1,l,h,_=>by unfold hU;rw[if_pos aa]
 |n+1,0,l,_,h=>by unfold hU;rw[if_pos aa]
 |n+1,m+1,l,h1,h2=>by
  unfold hU;by_cases h:l.length<2
  .rw[if_pos h,if_pos h]
  .rw[if_neg h,if_neg h,LN n m _ ax ax,LN n m _ ax ax]
theorem LO{R:Type}(out:w p)(x:p)(hl:out.length<=400000000)(K:w p->Option R) :
  cond ((inR (w64 ((out.length:p)-1)) out.length) || !(!((out.length:p)==0))) (cond (cond ((out.length:p)==0) true (out.getD (w64 ((out.length:p)-1)).toNat 0 != x)) (cond (G (out.length+[x].length<=aM)) (K (out++[x])) U) (K out)) U=K (fL out x):=by
 rw[al (x:=(out.length:p)-1)];by_cases h0:out.length=0
 .have e:((out.length:p)==0)=true:=dC aa;have:out=[]:=qg.1 h0;subst this;rfl
 .have e:((out.length:p)==0)=false:=cj aa;rw[e,bY (i:=(out.length:p)-1) aa aa,show ((out.length:p)-1).toNat=out.length-1 by omega];simp only[zd,j6,j7];unfold fL;rw[aj h0,j7,ah (show out.length+[x].length<=aM by simp[aM];omega),j6];cases (out.getD (out.length-1) 0 != x)<;>rfl
theorem UA(rec:w p->Option (w p)){a b:w p}(ha:a.length<=100000000)(hb:b.length<=100000000):∀(n i j:I)(out:w p),i<=a.length->j<=b.length->n=(a.length-i)+(b.length-j)->out.length+n<=200000000->
  Ks rec (i:p) (j:p) out a b=F (iK n out (a.drop i) (b.drop j))
 |0,i,j,out,hi,hj,hn,_=>by
  rw[Z0];simp only[j6R,show B a.length=(a.length:p) from rfl,show B b.length=(b.length:p) from rfl];rw[aj (show¬(i:p)<(a.length:p) by omega),j7,aj (show¬(j:p)<(b.length:p) by omega),j7,aS];rfl
 |n+1,i,j,out,hi,hj,hn,ho=>by
  have ue:=λ(x:p)(h:i<a.length)=>UA rec ha hb n (i+1) j (fL out x) aa hj aa (by have:=Dp out x;omega);have uf:=λ(x:p)(h:j<b.length)=>UA rec ha hb n i (j+1) (fL out x) hi aa aa (by have:=Dp out x;omega);rw[Z0];simp only[j6R,show B a.length=(a.length:p) from rfl,show B b.length=(b.length:p) from rfl,show B out.length=(out.length:p) from rfl]
  have ec:cond (G ((i:p)<(a.length:p))) true (G ((j:p)<(b.length:p)))=true:=by
   by_cases h:i<a.length
   .rw[ah aa];rfl
   .rw[aj aa,ah (show (j:p)<(b.length:p) by omega)];rfl
  rw[ec,j6];by_cases hja:j=b.length
  .have uL:i<a.length:=aa;have zG:a.getD i (0:p)=a[i]:=by simp[J,uL]
   rw[dC (show (j:p)=(b.length:p) by omega),j6,bY (i:=(i:p)) (n:=a.length) aa aa,j6,al (x:=(i:p)+1)];simp only[j8,zG];rw[LO out a[i] aa (λo=>F (Sum.inl ((i:p)+1,(j:p),o,a,b))),aH];have:=ue a[i] uL;rw[show ((i+1:I):p)=(i:p)+1 by omega]at this;refine this.trans ?_;rw[jb uL,show b.drop j=[] from jc aa];rfl
  .have BC:j<b.length:=aa;have uw:b.getD j (0:p)=b[j]:=by simp[J,BC]
   rw[cj (show (j:p)≠(b.length:p) by omega),j7];by_cases uL:i<a.length
   .have zG:a.getD i (0:p)=a[i]:=by simp[J,uL]
    rw[ah (show (i:p)<(a.length:p) by omega),j6,bY (i:=(i:p)) (n:=a.length) aa aa,bY (i:=(j:p)) (n:=b.length) aa aa,al (x:=(i:p)+1),al (x:=(j:p)+1)];simp only[j6,j8,zG,uw];by_cases iP:a[i]<=b[j]
    .rw[ah iP,j6,LO out a[i] aa (λo=>F (Sum.inl ((i:p)+1,(j:p),o,a,b))),aH];have:=ue a[i] uL;rw[show ((i+1:I):p)=(i:p)+1 by omega]at this;refine this.trans ?_;rw[jb uL,jb BC];show _=F (cond (G (a[i]<=b[j])) _ _);rw[ah iP,j6]
    .rw[aj iP,j7,LO out b[j] aa (λo=>F (Sum.inl ((i:p),(j:p)+1,o,a,b))),aH];have:=uf b[j] BC;rw[show ((j+1:I):p)=(j:p)+1 by omega]at this;refine this.trans ?_;rw[jb uL,jb BC];show _=F (cond (G (a[i]<=b[j])) _ _);rw[aj iP,j7]
   .rw[aj (show¬(i:p)<(a.length:p) by omega),j7,bY (i:=(j:p)) (n:=b.length) aa aa,j6,al (x:=(j:p)+1)];simp only[j8,uw];rw[LO out b[j] aa (λo=>F (Sum.inl ((i:p),(j:p)+1,o,a,b))),aH];have:=uf b[j] BC;rw[show ((j+1:I):p)=(j:p)+1 by omega]at this;refine this.trans ?_;rw[jb BC,show a.drop i=[] from jc aa];rfl
theorem LQ:∀(n:I)(l:w p),l.length<=50000000->(mw j5e n l=U/\n<=l.length)\/mw j5e n l=F (hU l.length l)
 |0,l,_=> .inl ⟨rfl,kn _⟩
 |n+1,l,hl=>by
  show (Kt (λv0=>mw j5e n v0) l=U/\_)\/Kt (λv0=>mw j5e n v0) l=_;simp only[Kt,show B l.length=(l.length:p) from rfl];by_cases h2:l.length<2
  .right;rw[ah (show (l.length:p)<2 by omega),j6,ah (show ([]:w p).length+l.length<=aM by simp[aM];omega),j6,jw];cases hk:l.length with
   |zero=>rfl
   |succ k=>unfold hU;rw[if_pos h2]
  .rw[aj (show¬(l.length:p)<2 by omega),j7,pj aa,al (x:=(l.length:p)/2),show ((l.length:p)/2).toNat=l.length/2 by omega];rw[ah (show (0:p)<=0 by omega),ah (show (0:p)<=(l.length:p)/2 by omega),ah (show (l.length:p)/2<=(l.length:p) by omega),ah (show (l.length:p)<=(l.length:p) by omega)];simp only[vb,j6,jm,List.take_length];have hA:(l.take (l.length/2)).length=l.length/2:=ax;have hB:(l.drop (l.length/2)).length=l.length-l.length/2:=ae;rcases LQ n (l.take (l.length/2)) aa with⟨e1,k1⟩|e1
   .exact .inl ⟨by rw[e1];rfl,aa⟩
   .rw[e1,j4];rcases LQ n (l.drop (l.length/2)) aa with⟨e2,k2⟩|e2
    .exact .inl ⟨by rw[e2];rfl,aa⟩
    .right;rw[e2,j4];have o1:=Dq (l.take (l.length/2)).length (l.take (l.length/2)) aa;have o2:=Dq (l.drop (l.length/2)).length (l.drop (l.length/2)) aa;generalize hSA:hU (l.take (l.length/2)).length (l.take (l.length/2))=SA at *;generalize hSB:hU (l.drop (l.length/2)).length (l.drop (l.length/2))=SB at *;have:=UA (λv0=>mw j5e n v0) (a:=SA) (b:=SB) aa aa (SA.length+SB.length) 0 0 [] aa aa aa ax;rw[show ((0:I):p)=0 from rfl,jm,jm]at this;rw[this,j4];obtain⟨k,hk⟩:∃k,l.length=k+1:=⟨l.length-1,aa⟩
     have e3:hU l.length l=iK l.length [] SA SB:=by
      conv=>lhs;rw[hk];unfold hU
      rw[if_neg h2,<-hSA,<-hSB,LN k (l.take (l.length/2)).length _ aa aa,LN k (l.drop (l.length/2)).length _ aa aa]
     rw[e3];rw[ŋ l.length [] SA SB (by have:=o1.2.2;have:=o2.2.2;omega)]
theorem jDo{l:w p}(hl:l.length<=50000000):jrc l=F (hU l.length l):=
 X1 ⟨l.length+1,(LQ (l.length+1) l hl).resolve_left (λh=>by have:=h.2;omega)⟩ (λn y h=>by
  rcases LQ n l hl with⟨e,_⟩|e
  .rw[e]at h;simp at h
  .rw[e]at h;exact(Option.some.inj h).symm)
def lb(a b x:p):Bool:=cond (G (x>a)) (G (x<b)) false
def jX(cC:w p)(a b:p):w Int:=(a::(hU cC.length cC).filter (lb a b))++(if b>a then [b] else [])
theorem Ō{a b:p}{l:w p}(hl:l.length<=50000000):∀(n i:I)(out:w p),i+n=l.length->out.length+n<=100000000->Ku a b (i:p) out l=F (a,b,out++(l.drop i).filter (lb a b))
 |0,i,out,hi,_=>by
  rw[Z1];simp only[j4D,show B l.length=(l.length:p) from rfl];rw[aj aa,j7,aS,jc aa];simp
 |n+1,i,out,hi,ho=>by
  have an:i<l.length:=aa;have aR:l.getD i (0:p)=l[i]:=by simp[J,an]
  rw[Z1,jb an];simp only[j4D,show B l.length=(l.length:p) from rfl];rw[ah (show (i:p)<(l.length:p) by omega),bY (i:=(i:p)) aa aa,al (x:=(i:p)+1)];simp only[j6,j8,aR,zd];have ih:=λout h=>Ō (a:=a) (b:=b) hl n (i+1) out aa h;rw[show ((i+1:I):p)=(i:p)+1 by omega]at ih;show lpK (cond (lb a b l[i]) _ _) _=_;cases hc:lb a b l[i]with
  |true=>rw[j6,ah (by simp[aM];omega),j6,aH,List.filter_cons_of_pos hc];have:=ih (out++[l[i]]) ax;rw[jj]at this;exact this
  |false=>rw[j7,aH,List.filter_cons_of_neg (by simp[hc])];exact ih out aa
theorem jyQ{cC:w p}(hl:cC.length<=49000000)(a b:p):jgh cC a b=F (jX cC a b):=by
 obtain⟨_,_,h3⟩:=Dq cC.length cC aa;have:=Ō (a:=a) (b:=b) (l:=hU cC.length cC) aa (hU cC.length cC).length 0 [a] aa ax;rw[show ((0:I):p)=0 from rfl,jm]at this;have fm:((hU cC.length cC).filter (lb a b)).length<=(hU cC.length cC).length:=vv _ _;simp only[jgh,jDo (show cC.length<=50000000 by omega),j4,this];unfold jX;by_cases cb:b>a
 .rw[ah cb,j6,ah (by simp[aM];omega),j6,if_pos cb];rfl
 .rw[aj cb,j7,if_neg cb,ql];rfl
theorem jG6(cC:w p){a b:p}(cb:a<=b):(jX cC a b).Pairwise (· < ·)/\(jX cC a b).length<=cC.length+2/\(∀x∈jX cC a b,a<=x/\x<=b)/\(∀c∈cC,a<c->c<b->c∈jX cC a b)/\
  (∃r,jX cC a b=a::r)/\(a<b->∃r,jX cC a b=r++[b])/\(a=b->jX cC a b=[a]):=by
 obtain⟨h1,h2,h3⟩:=Dq cC.length cC aa;have fm:((hU cC.length cC).filter (lb a b)).length<=(hU cC.length cC).length:=vv _ _
 have gC:∀x,x∈(hU cC.length cC).filter (lb a b)↔x∈cC/\a<x/\x<b:=λx=>by
  rw[zf,h2 x];unfold lb;constructor
  .rintro⟨hx,hc⟩
   by_cases BI:x>a
   .rw[ah BI,j6]at hc;exact⟨hx,BI,q7 hc⟩
   .rw[aj BI,j7]at hc;simp at hc
  .rintro⟨hx,BI,hxb⟩
   exact⟨hx,by rw[ah (show x>a from BI),j6,ah hxb]⟩
 have Dj:((hU cC.length cC).filter (lb a b)).Pairwise (· < ·):=h1.filter _;unfold jX;by_cases an:a<b
 .rw[if_pos (show b>a from an)];refine⟨?_,?_,λx hx=>?_,λc hc h1 h2=>?_,⟨_,rfl⟩,λ_=>⟨_,rfl⟩,λh=>aa⟩
  .refine zk.2 ⟨kb.2 ⟨λx hx=>((gC x).1 hx).2.1,Dj⟩,ae,λx hx y hy=>?_⟩;have:y=b:=by simpa using hy
   subst this;rcases je.1 hx with rfl|hx
   .exact an
   .exact((gC x).1 hx).2.2
  .simp only[jf,jk,kx];omega
  .rcases jn.1 hx with hx|hx
   .rcases je.1 hx with rfl|hx
    .omega
    .have:=(gC x).1 hx;omega
   .have:x=b:=by simpa using hx
    omega
  .exact jn.2 (.inl (qt _ ((gC c).2 ⟨hc,h1,h2⟩)))
 .have hab':a=b:=aa;rw[if_neg (show¬b>a by omega)];have fF:(hU cC.length cC).filter (lb a b)=[]:=List.eq_nil_iff_forall_not_mem.2 (λx hx=>by have:=(gC x).1 hx;omega);rw[fF];refine⟨ae,ae,λx hx=>?_,λc hc h1 h2=>aa,⟨[],rfl⟩,λh=>aa,λ_=>rfl⟩;have:x=a:=by simpa using hx
  omega
section
variable{z:bF}{l:bC}(h4:Z4 z l)
include h4
theorem BJ{L:bZ}(h:Rt L)(from_ H4:p):∀(n:I)(k:p)(acc:w p),k+n=2386093->0<=k->(acc.length:p)<=k->
  ∃out,Km from_ H4 k z.1 z.2.1 z.2.2 L.1 L.2.1 L.2.2.1.1 L.2.2.1.2 L.2.2.2.1 L.2.2.2.2.1 L.2.2.2.2.2.1 L.2.2.2.2.2.2.1 L.2.2.2.2.2.2.2.1 L.2.2.2.2.2.2.2.2 acc=F (0,out)/\(out.length:p)<=2386094/\
   (∀x∈acc,x∈out)/\∀j v,k<=j->hO z.2.1 l L j=F v->from_<=v->v<H4->v∈out
 |n,k,acc,hn,hk,ha=>by
  obtain⟨v',rU,ig⟩:=HJ h4 h (k:=k) hk aa;rw[jjN];simp only[j5c];rw[show j7K (z.1,(z.2.1,z.2.2)) (L.1,L.2.1,(L.2.2.1.1,L.2.2.1.2),L.2.2.2.1,L.2.2.2.2.1,L.2.2.2.2.2.1,L.2.2.2.2.2.2.1,L.2.2.2.2.2.2.2.1,L.2.2.2.2.2.2.2.2) k=_ from rU];simp only[j4];cases hx:hO z.2.1 l L k with
  |none=>simp only[vu,ka,j6,aS];refine⟨acc,rfl,aa,λx hx=>hx,λj v hj hv _ _=>?_⟩;obtain⟨u,hu,_⟩:=QO.le h4.2 h hj ⟨v,hv,k7 v⟩;rw[hx]at hu;simp at hu
  |some t=>
   have:=ig t hx;subst v';simp only[va,jl,j7];by_cases jN:t>=H4
   .rw[ah jN];simp only[j6,aS];refine⟨acc,rfl,aa,λx hx=>hx,λj v hj hv _ sV=>?_⟩;obtain⟨u,hu,huv⟩:=QO.le h4.2 h hj ⟨v,hv,k7 v⟩;rw[hx]at hu;simp at hu;omega
   .rw[aj jN,ah (show acc.length+[t].length<=aM by simp[aM];omega),al (x:=k+1)];simp only[j6,j7];cases n with
    |zero=>have:=Bs h4.2 h hk hx;omega
    |succ n=>
     by_cases iN:t>=from_
     .rw[ah iN];simp only[j6,aH];obtain⟨out,e1,e2,e3,e4⟩:=BJ h from_ H4 n (k+1) (acc++[t]) aa aa ax;refine⟨out,e1,e2,λx hx=>e3 x (by simp[hx]),λj v hj hv h1 h2=>?_⟩;by_cases sU:j=k
      .subst sU;rw[hx]at hv;simp at hv;subst hv;exact e3 t ae
      .exact e4 j v aa hv h1 h2
     .rw[aj iN];simp only[j7,aH];obtain⟨out,e1,e2,e3,e4⟩:=BJ h from_ H4 n (k+1) acc aa aa aa;refine⟨out,e1,e2,e3,λj v hj hv h1 h2=>?_⟩;by_cases sU:j=k
      .subst sU;rw[hx]at hv;simp at hv;omega
      .exact e4 j v aa hv h1 h2
theorem jHF{a b:p}(ha:0<=a)(cb:a<=b)(hb:b<=8589934592)(hq:b-a<=34560000):j8P a b=F true:=by
 have _:=h4;simp only[j8P];rw[ah (show a>=0 from ha),ah (show a<=8589934592 by omega),ah (show b>=a from cb),ah hb,al (x:=b-a),ah hq];rfl
theorem jDp{L:bZ}(h:Rt L){a b:p}(ha:0<=a)(cb:a<=b)(hb:b<=8589934592)(hq:b-a<=34560000):∃out,ja7 z L a b=F (out,0)/\out.length<=2386094/\∀j v,0<=j->hO z.2.1 l L j=F v->a<v->v<b->v∈out:=by
 obtain⟨K,eK,hK⟩:=ύ h4 h ha aa
 have hKb:K<=2386092:=by
  rcases hK with⟨hK,_⟩|⟨hK,⟨y,hy,_⟩,_⟩
  .omega
  .exact(Bs h4.2 h hK hy).2.2
 obtain⟨k0,mO⟩:∃k0:p,k0=(if K>0 then K else 0):=⟨_,rfl⟩;have dW:0<=k0/\k0<=2386092/\(0<k0->k0=K):=by rw[mO];split<;>omega
 obtain⟨out,e1,e2,_,e4⟩:=BJ h4 h a b (2386093-k0).toNat k0 [] aa dW.1 ax;refine⟨out,?_,aa,λj v hj hv h1 h2=>?_⟩
 .have e2:jdo (z.1,(z.2.1,z.2.2)) (L.1,L.2.1,(L.2.2.1.1,L.2.2.1.2),L.2.2.2.1,L.2.2.2.2.1,L.2.2.2.2.2.1,L.2.2.2.2.2.2.1,L.2.2.2.2.2.2.2.1,L.2.2.2.2.2.2.2.2)=_:=ϋ h4 L;simp only[ja7,e2,j4];rw[if_pos h];simp only[jh,j7,jHF h4 ha cb hb hq,j4,jl];rw[show jdq (z.1,(z.2.1,z.2.2)) (L.1,L.2.1,(L.2.2.1.1,L.2.2.1.2),L.2.2.2.1,L.2.2.2.2.1,L.2.2.2.2.2.1,L.2.2.2.2.2.2.1,L.2.2.2.2.2.2.2.1,L.2.2.2.2.2.2.2.2) a=_ from eK];simp only[j4];rw[<-mO,e1];rfl
 .by_cases sU:k0<=j
  .exact e4 j v sU hv aa h2
  .exfalso;have hKk:=dW.2.2 aa;rcases hK with⟨hK,_⟩|⟨hK,hq,_⟩
   .omega
   .obtain⟨u,hu,hua⟩:=QO.le h4.2 h (show j<=K by omega) hq;rw[hv]at hu;simp at hu;omega
end
theorem jDq{z:bF}(hz:gx z){L:bZ}(hR:Rt L){x y:p}(h0:0<=x)(iP:x<=y)(h1:y<=8589934592)(du:∀j v,0<=j->hO z.2.1 (tb z).2 L j=F v->¬(x<v/\v<=y)):ct z L x=ct z L y:=by
 have a:=(sa hz hR (t:=x) h0 aa).2;have b:=(sa hz hR (t:=y) aa h1).2;refine kY.uniq hz.ztab.2 hR (t:=y) ?_ b;have q:∀j,0<=j->QO z.2.1 (tb z).2 L y j->QO z.2.1 (tb z).2 L x j:=λj hj ⟨v,hv,Iz⟩=>⟨v,hv,by have:=du j v hj hv;omega⟩;rcases a with⟨a1,a2⟩|⟨a1,a2,a3⟩
 .exact .inl ⟨a1,λh=>a2 (q 0 aa h)⟩
 .obtain⟨v,hv,uj⟩:=a2;exact .inr ⟨a1,⟨v,hv,aa⟩,λh=>a3 (q _ aa h)⟩
theorem LU{z:bF}(hz:gx z){t:p}(h0:0<=t)(h1:t<=8589934592){k:I}(hk:k<=(tb z).2.length)(k1:aT (tb z).2 k<=t)(k2:t<aT (tb z).2 (k+1)) :
  cL z t=((t+bk z.2.1 (tb z).2 k)/86400,(t+bk z.2.1 (tb z).2 k)%86400)/\fi (cL z t)=(t+bk z.2.1 (tb z).2 k+259200)%604800:=by
 have e:=Da hz.ztab.2 hk k1 k2;have o0:=hz.ztab.2.of0 k hk;have o1:=hz.ztab.2.of1 k hk;have el:cL z t=((t+bk z.2.1 (tb z).2 k)/86400,(t+bk z.2.1 (tb z).2 k)%86400):=by simp only[cL,show j1y (tb z) t=_ from e,v7]
 refine⟨el,?_⟩;have lR:j8c (cL z t)=F (fi (cL z t)):=(TL hz h0 h1).2;have h5:=H2 (d:=(t+bk z.2.1 (tb z).2 k)/86400) (s:=(t+bk z.2.1 (tb z).2 k)%86400) aa aa aa aa;rw[el]at lR ⊢;rw[h5]at lR;have:=Option.some.inj lR;rw[<-this];congr 1;omega
theorem jDr{W:SL}{x y:p}(iP:x<=y)(du:∀u∈W,¬(x<u.1/\u.1<=y)/\¬(x<u.2/\u.2<=y)):bJ x W↔bJ y W:=by
 constructor
 .rintro⟨u,hu,h1,h2⟩
  have:=du u hu;exact⟨u,hu,aa,aa⟩
 .rintro⟨u,hu,h1,h2⟩
  have:=du u hu;exact⟨u,hu,aa,aa⟩
theorem ō{o:p}{l:bC}{s:p}:∀(n j i:I),j<=i->i<j+n->tI o l s i->s-bk o l i∈rf o l s j n
 |0,_,_,h1,h2,_=>aa
 |n+1,j,i,h1,h2,hs=>by
  simp only[rf];by_cases he:i=j
  .subst he;rw[if_pos hs];simp
  .exact jq _ (ō n (j+1) i aa aa hs)
theorem jDs{z:bF}(hz:gx z){ds:w p}{x y:p}(h0:0<=x)(iP:x<=y)(h1:y<=8589934592)(htr:∀i,i<(tb z).2.length->¬(x<gm (tb z).2 i/\gm (tb z).2 i<=y))
  (xB:∀d∈ds,∀i:p,0<=i->i<2->∀t∈jW z.2.1 (tb z).2 ((d+i)*86400+0),¬(x<t/\t<=y)):G ((cL z x).1∈ds)=G ((cL z y).1∈ds):=by
 obtain⟨k,hk,k1,k2⟩:=pX hz.ztab.2 (t:=x) h0 aa
 have k3:y<aT (tb z).2 (k+1):=by
  rcases zm k (tb z).2.length with hl|hl
  .have:=htr k hl;rw[kI hl]at k2 ⊢;omega
  .rw[show k=(tb z).2.length by omega,nG];omega
 obtain⟨e1,_⟩:=LU hz h0 aa hk k1 k2;obtain⟨e2,_⟩:=LU hz (t:=y) aa h1 hk aa k3
 have key:∀D:p,x+bk z.2.1 (tb z).2 k<D*86400->D*86400<=y+bk z.2.1 (tb z).2 k->∀d∈ds,∀i:p,0<=i->i<2->d+i=D->False:=λD d1 d2 d hd i i0 i1 ϓ=>by
  have hs:tI z.2.1 (tb z).2 (D*86400+0) k:=⟨aa,aa⟩;have hm:D*86400+0-bk z.2.1 (tb z).2 k∈jW z.2.1 (tb z).2 ((d+i)*86400+0):=by rw[ϓ];exact ō _ 0 k aa aa hs
  exact xB d hd i i0 i1 _ hm ⟨aa,aa⟩
 rw[e1,e2];by_cases he:(x+bk z.2.1 (tb z).2 k)/86400=(y+bk z.2.1 (tb z).2 k)/86400
 .rw[he]
 .have fH:¬(x+bk z.2.1 (tb z).2 k)/86400∈ds:=λhd=>key ((x+bk z.2.1 (tb z).2 k)/86400+1) aa aa _ hd 1 aa aa rfl;have ik:¬(y+bk z.2.1 (tb z).2 k)/86400∈ds:=λhd=>key ((y+bk z.2.1 (tb z).2 k)/86400) aa aa _ hd 0 aa aa aa;rw[aj fH,aj ik]
def wL(W:SL):w Int:=W.flatMap λu=>[u.1,u.2]
theorem jG7(W:SL):(wL W).length=2*W.length:=by
 induction W with
 |nil=>rfl
 |cons x r ih=>have:wL (x::r)=[x.1,x.2]++wL r:=rfl;rw[this,jf,ih];simp;omega
section
variable{zs:w bF}{ps:w cR}{cs:w aV}{ss:w cW}
theorem Ŏ{L:bZ}{W:SL}(hW:W.length<=10000):∀(n i:I)(acc:w p),i+n=W.length->acc.length+2*n<=100000000->
  Kq (i:p) zs ps cs ss L.1 L.2.1 L.2.2.1.1 L.2.2.1.2 L.2.2.2.1 L.2.2.2.2.1 L.2.2.2.2.2.1 L.2.2.2.2.2.2.1 L.2.2.2.2.2.2.2.1 L.2.2.2.2.2.2.2.2 acc W=
   F (zs,ps,cs,ss,L.1,L.2.1,L.2.2.1.1,L.2.2.1.2,L.2.2.2.1,L.2.2.2.2.1,L.2.2.2.2.2.1,L.2.2.2.2.2.2.1,L.2.2.2.2.2.2.2.1,L.2.2.2.2.2.2.2.2,acc++wL (W.drop i))
 |0,i,acc,hi,_=>by
  rw[ZX,jc aa];simp only[j6O,show B W.length=(W.length:p) from rfl];rw[aj aa,j7,aS];simp[wL]
 |n+1,i,acc,hi,ha=>by
  have an:i<W.length:=aa;have aR:W.getD i ((0:p),(0:p))=W[i]:=by simp[an]
  have ih:=Ŏ (L:=L) hW n (i+1) (acc++[W[i].1,W[i].2]) aa ax;rw[jj]at ih;rw[ZX,jb an];simp only[j6O,show B W.length=(W.length:p) from rfl];rw[ah (show (i:p)<(W.length:p) by omega),bD,al (x:=(i:p)+1)];simp only[j6,j8,aR];rw[ah (by simp[aM];omega),j6,aH];exact ih
theorem ŏ{x:aV}{T:bC}(hT:T.length<=1000):∀(n i:I)(acc:w p),i+n=T.length->acc.length+n<=100000000->
  AU (i:p) zs ps cs ss x.1 x.2.1 x.2.2 acc T=F (zs,ps,cs,ss,x.1,x.2.1,x.2.2,acc++(T.drop i).map (·.1))
 |0,i,acc,hi,_=>by
  rw[ZY,jc aa];simp only[j6P,show B T.length=(T.length:p) from rfl];rw[aj aa,j7,aS];simp
 |n+1,i,acc,hi,ha=>by
  have an:i<T.length:=aa;have aR:T.getD i ((0:p),(0:p))=T[i]:=by simp[an]
  have ih:=ŏ (x:=x) hT n (i+1) (acc++[T[i].1]) aa ax;rw[jj]at ih;rw[ZY,jb an];simp only[j6P,show B T.length=(T.length:p) from rfl];rw[ah (show (i:p)<(T.length:p) by omega),bD,al (x:=(i:p)+1)];simp only[j6,j8,aR];rw[ah (by simp[aM];omega),j6,aH];exact ih
def uM(z:bF)(d:p):w Int:=jW z.2.1 (tb z).2 ((d+0)*86400+0)++jW z.2.1 (tb z).2 ((d+1)*86400+0)
theorem Ő{z:bF}(hz:gx z)(d:p):(uM z d).length<=10:=by
 have h4:(tb z).2.length<=4:=yE hz;have a:=Lq (o:=z.2.1) (l:=(tb z).2) ((d+0)*86400+0) ((tb z).2.length+1) 0;have b:=Lq (o:=z.2.1) (l:=(tb z).2) ((d+1)*86400+0) ((tb z).2.length+1) 0;unfold uM jW;rw[jf];omega
theorem jIo(kE:∀z∈zs,gx z){x:aV}(hx:ra zs.length x){i:I}(hi:i<x.2.2.length){acc:w p}(ha:acc.length<=90000000) :
  Kr (i:p) 0 zs ps cs ss x.1 x.2.1 x.2.2 acc=F ((i:p),zs,ps,cs,ss,x.1,x.2.1,x.2.2,acc++uM (aO zs x.2.1) x.2.2[i]):=by
 have hz:gx (aO zs x.2.1):=gR kE hx.z0 hx.z1;have h4:=hz.zref.2.1;have hd:=hx.day _ (jg hi);have d0:=Ϫ hd;have d1:=LC hd;have aR:x.2.2.getD i (0:p)=x.2.2[i]:=by simp[hi]
 have wF:(tb (aO zs x.2.1)).2.length<=4:=yE hz;have eP:=λs=>Lq (o:=(aO zs x.2.1).2.1) (l:=(tb (aO zs x.2.1)).2) s ((tb (aO zs x.2.1)).2.length+1) 0;have e0:j8d ((zs.getD x.2.1.toNat (E,((0:p),([]:w aL)))).1,((zs.getD x.2.1.toNat (E,((0:p),([]:w aL)))).2.1,(zs.getD x.2.1.toNat (E,((0:p),([]:w aL)))).2.2)) (x.2.2[i]+0,0)=_:=Η h4 (show -2<=x.2.2[i]+0 by omega) aa (show (0:p)<=0 by omega) aa;have e1:j8d ((zs.getD x.2.1.toNat (E,((0:p),([]:w aL)))).1,((zs.getD x.2.1.toNat (E,((0:p),([]:w aL)))).2.1,(zs.getD x.2.1.toNat (E,((0:p),([]:w aL)))).2.2)) (x.2.2[i]+1,0)=_:=Η h4 (show -2<=x.2.2[i]+1 by omega) aa (show (0:p)<=0 by omega) aa;have b0:=eP ((x.2.2[i]+0)*86400+0);have b1:=eP ((x.2.2[i]+1)*86400+0);rw[Px];simp only[j4P];rw[ah (show (0:p)<2 by omega),bY hx.z0 hx.z1,bY (show (0:p)<=(i:p) by omega) aa];simp only[j6,j8,aR];rw[al (x:=x.2.2[i]+0),e0];simp only[j4];rw[ah (show acc.length+(jW (aO zs x.2.1).2.1 (tb (aO zs x.2.1)).2 ((x.2.2[i]+0)*86400+0)).length<=aM by unfold jW aM;omega),j6,aH];rw[show w64 (0+1)=1 from rfl,Px];simp only[j4P];rw[ah (show (1:p)<2 by omega),bY hx.z0 hx.z1,bY (show (0:p)<=(i:p) by omega) aa];simp only[j6,j8,aR];rw[al (x:=x.2.2[i]+1),e1];simp only[j4]
 rw[ah (show (acc++jW (aO zs x.2.1).2.1 (tb (aO zs x.2.1)).2 ((x.2.2[i]+0)*86400+0)).length+(jW (aO zs x.2.1).2.1 (tb (aO zs x.2.1)).2 ((x.2.2[i]+1)*86400+0)).length<=aM by rw[jf];unfold jW aM;omega),j6,aH];rw[show w64 (1+1)=2 from rfl,Px];simp only[j4P];rw[aj (show¬(2:p)<2 by omega),j7,aS,jj];rfl
theorem ő(kE:∀z∈zs,gx z){x:aV}(hx:ra zs.length x):∀(n i:I)(acc:w p),i+n=x.2.2.length->acc.length+10*n<=90000000->
  CZ (i:p) zs ps cs ss x.1 x.2.1 x.2.2 acc=F (acc++(x.2.2.drop i).flatMap (uM (aO zs x.2.1)))
 |0,i,acc,hi,_=>by
  rw[ZZ,jc aa];simp only[j6Q,show B x.2.2.length=(x.2.2.length:p) from rfl];rw[aj aa,j7,aS];simp
 |n+1,i,acc,hi,ha=>by
  have an:i<x.2.2.length:=aa;have hl:=hx.len;have hz:gx (aO zs x.2.1):=gR kE hx.z0 hx.z1;have hb:=Ő hz x.2.2[i];have ih:=ő kE hx n (i+1) (acc++uM (aO zs x.2.1) x.2.2[i]) aa (by rw[jf];omega);rw[jj]at ih;rw[ZZ,jb an];simp only[j6Q,show B x.2.2.length=(x.2.2.length:p) from rfl];rw[ah (show (i:p)<(x.2.2.length:p) by omega),j6,jIo kE hx an aa];simp only[j4];rw[al (x:=(i:p)+1),aH];exact ih
end
end Go.Proofs.Pw
