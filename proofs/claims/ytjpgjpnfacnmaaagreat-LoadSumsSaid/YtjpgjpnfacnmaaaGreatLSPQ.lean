/- The ix sort of numbers, each once; the vK of a range. -/
import Derived.Test.YtjpgjpnfacnmaaaGreatLSPA
import Derived.Test.YtjpgjpnfacnmaaaGreatLSFns
import Derived.Test.YtjpgjpnfacnmaaaGreatLSPK
import Derived.Test.YtjpgjpnfacnmaaaGreatLSPE
import Derived.Test.YtjpgjpnfacnmaaaGreatLSPP
open Go Go.Lft
namespace Go.Proofs.Pw
def fw(out:List Int)(x:Int):List Int:=cond (cond (decide (out.length=0)) true (out.getD (out.length-1) 0 != x)) (out++[x]) out
def iq:Nat->List Int->List Int->List Int->List Int
 |0,out,_,_=>out
 |n+1,out,x::a,y::b=>cond (decide (x<=y)) (iq n (fw out x) a (y::b)) (iq n (fw out y) (x::a) b)
 |n+1,out,x::a,[]=>iq n (fw out x) a []
 |n+1,out,[],y::b=>iq n (fw out y) [] b
 |_+1,out,[],[]=>out
def gE:Nat->List Int->List Int
 |0,l=>l
 |n+1,l=>if l.length<2 then l else iq l.length [] (gE n (l.take (l.length/2))) (gE n (l.drop (l.length/2)))
theorem Cn(out:List Int)(x:Int):(fw out x).length<=out.length+1:=by
 unfold fw;cases (cond (decide (out.length=0)) true (out.getD (out.length-1) 0 != x))<;>simp
theorem J7{out:List Int}{x:Int}(h:out.Pairwise (· < ·))(hx:∀y∈out,y<=x):(fw out x).Pairwise (· < ·)/\(∀y,y∈fw out x↔y∈out\/y=x)/\∀y∈fw out x,y<=x:=by
 rcases va out with rfl|⟨A,u,rfl⟩
 .refine⟨by simp[fw],λy=>by simp[fw],λy hy=>?_⟩;have:y=x:=by simpa[fw]using hy
  omega
 .rw[vb]at h hx ⊢;have hg:(A++[u]).getD ((A++[u]).length-1) (0:Int)=u:=by simp[List.getD]
  unfold fw;rw[hg,ah (show¬(A++[u]).length=0 by simp),j7];by_cases he:u=x
  .subst he;rw[jh,j7];exact⟨h,λy=>⟨.inl,λhy=>hy.elim id λe=>by simp[e]⟩,hx⟩
  .have bk:(u != x)=true:=by simp[he]
   rw[bk,j6];have Bq:=hx u (by simp);have hA:=(qw.1 h).2.2;refine⟨qw.2 ⟨h,by simp,λy hy z hz=>?_⟩,λy=>by simp[or_assoc],λy hy=>?_⟩
   .have:z=x:=by simpa using hz
    subst this;rcases jn.1 hy with hy|hy
    .have:=hA y hy u (by simp);omega
    .have:y=u:=by simpa using hy
     omega
   .rcases jn.1 hy with hy|hy
    .exact hx y hy
    .have:y=x:=by simpa using hy
     omega
theorem GK:∀(n:Nat)(out a b:List Int),n=a.length+b.length->out.Pairwise (· < ·)->a.Pairwise (· < ·)->b.Pairwise (· < ·)->(∀x∈out,(∀y∈a,x<=y)/\∀y∈b,x<=y)->
  (iq n out a b).Pairwise (· < ·)/\(∀x,x∈iq n out a b↔x∈out\/x∈a\/x∈b)/\(iq n out a b).length<=out.length+n
 |0,out,a,b,hn,ho,_,_,_=>by
  have h1:a=[]:=qh.1 (by omega);have h2:b=[]:=qh.1 (by omega);subst h1;subst h2;exact⟨ho,λx=>by simp[iq],by simp[iq]⟩
 |n+1,out,x::a,y::b,hn,ho,ha,hb,hle=>by
  have tK:=ki.1 ha;have aT:=ki.1 hb;simp only[jm]at hn;unfold iq;by_cases iw:x<=y
  .rw[ag iw,j6];obtain⟨p1,p2,p3⟩:=J7 (x:=x) ho (λz hz=>(hle z hz).1 x (by simp))
   obtain⟨q1,q2,q3⟩:=GK n (fw out x) a (y::b) (by simp;omega) p1 tK.2 hb (λz hz=>by
    have:=p3 z hz;refine⟨λu hu=>by have:=tK.1 u hu;omega,λu hu=>?_⟩;rcases je.1 hu with rfl|hu
    .omega
    .have:=aT.1 u hu;omega)
   have:=Cn out x;refine⟨q1,λz=>?_,by omega⟩;rw[q2 z,p2 z];simp only[je];constructor
   .rintro ((h|h)|h|h)
    .exact .inl h
    .exact .inr (.inl (.inl h))
    .exact .inr (.inl (.inr h))
    .exact .inr (.inr h)
   .rintro (h|(h|h)|h)
    .exact .inl (.inl h)
    .exact .inl (.inr h)
    .exact .inr (.inl h)
    .exact .inr (.inr h)
  .rw[ah iw,j7];obtain⟨p1,p2,p3⟩:=J7 (x:=y) ho (λz hz=>(hle z hz).2 y (by simp))
   obtain⟨q1,q2,q3⟩:=GK n (fw out y) (x::a) b (by simp;omega) p1 ha aT.2 (λz hz=>by
    have:=p3 z hz;refine⟨λu hu=>?_,λu hu=>by have:=aT.1 u hu;omega⟩;rcases je.1 hu with rfl|hu
    .omega
    .have:=tK.1 u hu;omega)
   have:=Cn out y;refine⟨q1,λz=>?_,by omega⟩;rw[q2 z,p2 z];simp only[je];constructor
   .rintro ((h|h)|h|h)
    .exact .inl h
    .exact .inr (.inr (.inl h))
    .exact .inr (.inl h)
    .exact .inr (.inr (.inr h))
   .rintro (h|h|h|h)
    .exact .inl (.inl h)
    .exact .inr (.inl h)
    .exact .inl (.inr h)
    .exact .inr (.inr h)
 |n+1,out,x::a,[],hn,ho,ha,hb,hle=>by
  have tK:=ki.1 ha;simp only[jm,qc]at hn;obtain⟨p1,p2,p3⟩:=J7 (x:=x) ho (λz hz=>(hle z hz).1 x (by simp));obtain⟨q1,q2,q3⟩:=GK n (fw out x) a [] (by simp;omega) p1 tK.2 hb (λz hz=>⟨λu hu=>by have:=tK.1 u hu;have:=p3 z hz;omega,λu hu=>by simp at hu⟩);have:=Cn out x;refine⟨q1,λz=>?_,by show (iq n (fw out x) a []).length<=_;omega⟩;show z∈iq n (fw out x) a []↔_;rw[q2 z,p2 z];simp only[je,zw,or_false,or_assoc]
 |n+1,out,[],y::b,hn,ho,ha,hb,hle=>by
  have aT:=ki.1 hb;simp only[jm,qc]at hn;obtain⟨p1,p2,p3⟩:=J7 (x:=y) ho (λz hz=>(hle z hz).2 y (by simp));obtain⟨q1,q2,q3⟩:=GK n (fw out y) [] b (by simp;omega) p1 ha aT.2 (λz hz=>⟨λu hu=>by simp at hu,λu hu=>by have:=aT.1 u hu;have:=p3 z hz;omega⟩);have:=Cn out y;refine⟨q1,λz=>?_,by show (iq n (fw out y) [] b).length<=_;omega⟩;show z∈iq n (fw out y) [] b↔_;rw[q2 z,p2 z];simp only[je,zw,false_or,or_assoc]
 |n+1,out,[],[],hn,_,_,_,_=>by simp at hn
theorem jvJ:∀(n:Nat)(out a b:List Int),a.length+b.length<=n->iq n out a b=iq (a.length+b.length) out a b:=by
 intro n;induction n with
 |zero=>
  intro out a b h;have:a.length+b.length=0:=by omega
  rw[this]
 |succ n ih=>
  intro out a b h;match a,b,h with
  |[],[],_=>rfl
  |x::a,[],h=>simp only[jm,qc,Nat.add_zero]at h ⊢;show iq n (fw out x) a []=iq a.length (fw out x) a [];have:=ih (fw out x) a [] (by simp;omega);simpa using this
  |[],y::b,h=>simp only[jm,qc,kg]at h ⊢;show iq n (fw out y) [] b=iq b.length (fw out y) [] b;have:=ih (fw out y) [] b (by simp;omega);simpa using this
  |x::a,y::b,h=>simp only[jm]at h ⊢;rw[show a.length+1+(b.length+1)=(a.length+b.length+1)+1 by omega];show cond _ (iq n (fw out x) a (y::b)) (iq n (fw out y) (x::a) b)=cond _ (iq (a.length+b.length+1) (fw out x) a (y::b)) (iq (a.length+b.length+1) (fw out y) (x::a) b);have h1:=ih (fw out x) a (y::b) (by simp;omega);have h2:=ih (fw out y) (x::a) b (by simp;omega);simp only[jm]at h1 h2;rw[h1,h2,show a.length+(b.length+1)=a.length+b.length+1 by omega,show a.length+1+b.length=a.length+b.length+1 by omega]
theorem Co:∀(n:Nat)(l:List Int),l.length<=n+1->(gE n l).Pairwise (· < ·)/\(∀x,x∈gE n l↔x∈l)/\(gE n l).length<=l.length
 |0,l,hl=>by
  refine⟨?_,λx=>Iff.rfl,js _⟩;match l,hl with
  |[],_=>exact List.Pairwise.nil
  |[x],_=>show List.Pairwise (· < ·) [x];simp
 |n+1,l,hl=>by
  unfold gE;by_cases h2:l.length<2
  .rw[if_pos h2];refine⟨?_,λx=>Iff.rfl,js _⟩;match l,h2 with
   |[],_=>exact List.Pairwise.nil
   |[x],_=>simp
  .rw[if_neg h2];obtain⟨a1,a2,a3⟩:=Co n (l.take (l.length/2)) (by simp;omega);obtain⟨b1,b2,b3⟩:=Co n (l.drop (l.length/2)) (by simp;omega);simp only[qn,vi]at a3 b3;rw[jvJ l.length [] _ _ (by omega)];obtain⟨q1,q2,q3⟩:=GK _ [] (gE n (l.take (l.length/2))) (gE n (l.drop (l.length/2))) rfl List.Pairwise.nil a1 b1 (λx hx=>by simp at hx);refine⟨q1,λx=>?_,by simp at q3;omega⟩;rw[q2 x,a2 x,b2 x];have hx:x∈l↔x∈l.take (l.length/2)++l.drop (l.length/2):=by rw[zb]
   rw[hx,jn];simp
theorem J8:∀(n m:Nat)(l:List Int),l.length<=n+1->l.length<=m+1->gE n l=gE m l
 |0,0,_,_,_=>rfl
 |0,m+1,l,h,_=>by unfold gE;rw[if_pos (by omega)]
 |n+1,0,l,_,h=>by unfold gE;rw[if_pos (by omega)]
 |n+1,m+1,l,h1,h2=>by
  unfold gE;by_cases h:l.length<2
  .rw[if_pos h,if_pos h]
  .rw[if_neg h,if_neg h,J8 n m _ (by simp;omega) (by simp;omega),J8 n m _ (by simp;omega) (by simp;omega)]
theorem J9{R:Type}(out:List Int)(x:Int)(hl:out.length<=400000000)(K:List Int->Option R) :
  cond ((inR (w64 ((out.length:Int)-1)) out.length) || !(!((out.length:Int)==0))) (cond (cond ((out.length:Int)==0) true (out.getD (w64 ((out.length:Int)-1)).toNat 0 != x)) (cond (decide (out.length+[x].length<=aN)) (K (out++[x])) none) (K out)) none=K (fw out x):=by
 rw[ai (x:=(out.length:Int)-1)];by_cases h0:out.length=0
 .have e:((out.length:Int)==0)=true:=di (by omega);have:out=[]:=qh.1 h0;subst this;rfl
 .have e:((out.length:Int)==0)=false:=bW (by omega);rw[e,cw (i:=(out.length:Int)-1) (by omega) (by omega),show ((out.length:Int)-1).toNat=out.length-1 by omega];simp only[zj,j6,j7];unfold fw;rw[ah h0,j7,ag (show out.length+[x].length<=aN by simp[aN];omega),j6];cases (out.getD (out.length-1) 0 != x)<;>rfl
theorem SJ(rec:List Int->Option (List Int)){a b:List Int}(ha:a.length<=100000000)(hb:b.length<=100000000):∀(n i j:Nat)(out:List Int),i<=a.length->j<=b.length->n=(a.length-i)+(b.length-j)->out.length+n<=200000000->
  IX rec (i:Int) (j:Int) out a b=some (iq n out (a.drop i) (b.drop j))
 |0,i,j,out,hi,hj,hn,_=>by
  rw[XX];simp only[j6p,show Int.ofNat a.length=(a.length:Int) from rfl,show Int.ofNat b.length=(b.length:Int) from rfl];rw[ah (show¬(i:Int)<(a.length:Int) by omega),j7,ah (show¬(j:Int)<(b.length:Int) by omega),j7,aW];rfl
 |n+1,i,j,out,hi,hj,hn,ho=>by
  have td:=λ(x:Int)(h:i<a.length)=>SJ rec ha hb n (i+1) j (fw out x) (by omega) hj (by omega) (by have:=Cn out x;omega);have tg:=λ(x:Int)(h:j<b.length)=>SJ rec ha hb n i (j+1) (fw out x) hi (by omega) (by omega) (by have:=Cn out x;omega);rw[XX];simp only[j6p,show Int.ofNat a.length=(a.length:Int) from rfl,show Int.ofNat b.length=(b.length:Int) from rfl,show Int.ofNat out.length=(out.length:Int) from rfl]
  have ec:cond (decide ((i:Int)<(a.length:Int))) true (decide ((j:Int)<(b.length:Int)))=true:=by
   by_cases h:i<a.length
   .rw[ag (by omega)];rfl
   .rw[ah (by omega),ag (show (j:Int)<(b.length:Int) by omega)];rfl
  rw[ec,j6];by_cases hja:j=b.length
  .have tJ:i<a.length:=by omega
   have xL:a.getD i (0:Int)=a[i]:=by simp[List.getD,tJ]
   rw[di (show (j:Int)=(b.length:Int) by omega),j6,cw (i:=(i:Int)) (n:=a.length) (by omega) (by omega),j6,ai (x:=(i:Int)+1)];simp only[j8,xL];rw[J9 out a[i] (by omega) (λo=>some (Sum.inl ((i:Int)+1,(j:Int),o,a,b))),aK];have:=td a[i] tJ;rw[show ((i+1:Nat):Int)=(i:Int)+1 by omega]at this;refine this.trans ?_;rw[jb tJ,show b.drop j=[] from jd (by omega)];rfl
  .have Ar:j<b.length:=by omega
   have tB:b.getD j (0:Int)=b[j]:=by simp[List.getD,Ar]
   rw[bW (show (j:Int)≠(b.length:Int) by omega),j7];by_cases tJ:i<a.length
   .have xL:a.getD i (0:Int)=a[i]:=by simp[List.getD,tJ]
    rw[ag (show (i:Int)<(a.length:Int) by omega),j6,cw (i:=(i:Int)) (n:=a.length) (by omega) (by omega),cw (i:=(j:Int)) (n:=b.length) (by omega) (by omega),ai (x:=(i:Int)+1),ai (x:=(j:Int)+1)];simp only[j6,j8,xL,tB];by_cases iw:a[i]<=b[j]
    .rw[ag iw,j6,J9 out a[i] (by omega) (λo=>some (Sum.inl ((i:Int)+1,(j:Int),o,a,b))),aK];have:=td a[i] tJ;rw[show ((i+1:Nat):Int)=(i:Int)+1 by omega]at this;refine this.trans ?_;rw[jb tJ,jb Ar];show _=some (cond (decide (a[i]<=b[j])) _ _);rw[ag iw,j6]
    .rw[ah iw,j7,J9 out b[j] (by omega) (λo=>some (Sum.inl ((i:Int),(j:Int)+1,o,a,b))),aK];have:=tg b[j] Ar;rw[show ((j+1:Nat):Int)=(j:Int)+1 by omega]at this;refine this.trans ?_;rw[jb tJ,jb Ar];show _=some (cond (decide (a[i]<=b[j])) _ _);rw[ah iw,j7]
   .rw[ah (show¬(i:Int)<(a.length:Int) by omega),j7,cw (i:=(j:Int)) (n:=b.length) (by omega) (by omega),j6,ai (x:=(j:Int)+1)];simp only[j8,tB];rw[J9 out b[j] (by omega) (λo=>some (Sum.inl ((i:Int),(j:Int)+1,o,a,b))),aK];have:=tg b[j] Ar;rw[show ((j+1:Nat):Int)=(j:Int)+1 by omega]at this;refine this.trans ?_;rw[jb Ar,show a.drop i=[] from jd (by omega)];rfl
theorem Ka:∀(n:Nat)(l:List Int),l.length<=50000000->(lU j4T n l=none/\n<=l.length)\/lU j4T n l=some (gE l.length l)
 |0,l,_=> .inl ⟨rfl,kf _⟩
 |n+1,l,hl=>by
  show (IY (λv0=>lU j4T n v0) l=none/\_)\/IY (λv0=>lU j4T n v0) l=_;simp only[IY,show Int.ofNat l.length=(l.length:Int) from rfl];by_cases h2:l.length<2
  .right;rw[ag (show (l.length:Int)<2 by omega),j6,ag (show ([]:List Int).length+l.length<=aN by simp[aN];omega),j6,jv];cases hk:l.length with
   |zero=>rfl
   |succ k=>unfold gE;rw[if_pos h2]
  .rw[ah (show¬(l.length:Int)<2 by omega),j7,sG (by omega),ai (x:=(l.length:Int)/2),show ((l.length:Int)/2).toNat=l.length/2 by omega];rw[ag (show (0:Int)<=0 by omega),ag (show (0:Int)<=(l.length:Int)/2 by omega),ag (show (l.length:Int)/2<=(l.length:Int) by omega),ag (show (l.length:Int)<=(l.length:Int) by omega)];simp only[vu,j6,jr,List.take_length];have hA:(l.take (l.length/2)).length=l.length/2:=by simp;omega
   have hB:(l.drop (l.length/2)).length=l.length-l.length/2:=by simp
   rcases Ka n (l.take (l.length/2)) (by omega) with⟨e1,k1⟩|e1
   .exact .inl ⟨by rw[e1];rfl,by omega⟩
   .rw[e1,j4];rcases Ka n (l.drop (l.length/2)) (by omega) with⟨e2,k2⟩|e2
    .exact .inl ⟨by rw[e2];rfl,by omega⟩
    .right;rw[e2,j4];have o1:=Co (l.take (l.length/2)).length (l.take (l.length/2)) (by omega);have o2:=Co (l.drop (l.length/2)).length (l.drop (l.length/2)) (by omega);generalize hSA:gE (l.take (l.length/2)).length (l.take (l.length/2))=SA at *;generalize hSB:gE (l.drop (l.length/2)).length (l.drop (l.length/2))=SB at *;have:=SJ (λv0=>lU j4T n v0) (a:=SA) (b:=SB) (by omega) (by omega) (SA.length+SB.length) 0 0 [] (by omega) (by omega) (by omega) (by simp;omega);rw[show ((0:Nat):Int)=0 from rfl,jr,jr]at this;rw[this,j4];obtain⟨k,hk⟩:∃k,l.length=k+1:=⟨l.length-1,by omega⟩
     have e3:gE l.length l=iq l.length [] SA SB:=by
      conv=>lhs;rw[hk];unfold gE
      rw[if_neg h2,<-hSA,<-hSB,J8 k (l.take (l.length/2)).length _ (by omega) (by omega),J8 k (l.drop (l.length/2)).length _ (by omega) (by omega)]
     rw[e3];rw[jvJ l.length [] SA SB (by have:=o1.2.2;have:=o2.2.2;omega)]
theorem jBo{l:List Int}(hl:l.length<=50000000):jpA l=some (gE l.length l):=
 VP ⟨l.length+1,(Ka (l.length+1) l hl).resolve_left (λh=>by have:=h.2;omega)⟩ (λn y h=>by
  rcases Ka n l hl with⟨e,_⟩|e
  .rw[e]at h;simp at h
  .rw[e]at h;exact(Option.some.inj h).symm)
def kE(a b x:Int):Bool:=cond (decide (x>a)) (decide (x<b)) false
def jE(bX:List Int)(a b:Int):List Int:=(a::(gE bX.length bX).filter (kE a b))++(if b>a then [b] else [])
theorem jFm{a b:Int}{l:List Int}(hl:l.length<=50000000):∀(n i:Nat)(out:List Int),i+n=l.length->out.length+n<=100000000->IZ a b (i:Int) out l=some (a,b,out++(l.drop i).filter (kE a b))
 |0,i,out,hi,_=>by
  rw[XY];simp only[j4i,show Int.ofNat l.length=(l.length:Int) from rfl];rw[ah (by omega),j7,aW,jd (by omega)];simp
 |n+1,i,out,hi,ho=>by
  have ak:i<l.length:=by omega
  have aR:l.getD i (0:Int)=l[i]:=by simp[List.getD,ak]
  rw[XY,jb ak];simp only[j4i,show Int.ofNat l.length=(l.length:Int) from rfl];rw[ag (show (i:Int)<(l.length:Int) by omega),cw (i:=(i:Int)) (by omega) (by omega),ai (x:=(i:Int)+1)];simp only[j6,j8,aR,zj];have ih:=λout h=>jFm (a:=a) (b:=b) hl n (i+1) out (by omega) h;rw[show ((i+1:Nat):Int)=(i:Int)+1 by omega]at ih;show lpK (cond (kE a b l[i]) _ _) _=_;cases hc:kE a b l[i]with
  |true=>rw[j6,ag (by simp[aN];omega),j6,aK,List.filter_cons_of_pos hc];have:=ih (out++[l[i]]) (by simp;omega);rw[jj]at this;exact this
  |false=>rw[j7,aK,List.filter_cons_of_neg (by simp[hc])];exact ih out (by omega)
theorem jx2{bX:List Int}(hl:bX.length<=49000000)(a b:Int):jfb bX a b=some (jE bX a b):=by
 obtain⟨_,_,h3⟩:=Co bX.length bX (by omega);have:=jFm (a:=a) (b:=b) (l:=gE bX.length bX) (by omega) (gE bX.length bX).length 0 [a] (by omega) (by simp;omega);rw[show ((0:Nat):Int)=0 from rfl,jr]at this;have fk:((gE bX.length bX).filter (kE a b)).length<=(gE bX.length bX).length:=qt _ _;simp only[jfb,jBo (show bX.length<=50000000 by omega),j4,this];unfold jE;by_cases bG:b>a
 .rw[ag bG,j6,ag (by simp[aN];omega),j6,if_pos bG];rfl
 .rw[ah bG,j7,if_neg bG,qm];rfl
theorem jDT(bX:List Int){a b:Int}(bG:a<=b):(jE bX a b).Pairwise (· < ·)/\(jE bX a b).length<=bX.length+2/\(∀x∈jE bX a b,a<=x/\x<=b)/\(∀c∈bX,a<c->c<b->c∈jE bX a b)/\
  (∃r,jE bX a b=a::r)/\(a<b->∃r,jE bX a b=r++[b])/\(a=b->jE bX a b=[a]):=by
 obtain⟨h1,h2,h3⟩:=Co bX.length bX (by omega);have fk:((gE bX.length bX).filter (kE a b)).length<=(gE bX.length bX).length:=qt _ _
 have gM:∀x,x∈(gE bX.length bX).filter (kE a b)↔x∈bX/\a<x/\x<b:=λx=>by
  rw[qu,h2 x];unfold kE;constructor
  .rintro⟨hx,hc⟩
   by_cases Ax:x>a
   .rw[ag Ax,j6]at hc;exact⟨hx,Ax,kz hc⟩
   .rw[ah Ax,j7]at hc;simp at hc
  .rintro⟨hx,Ax,hxb⟩
   exact⟨hx,by rw[ag (show x>a from Ax),j6,ag hxb]⟩
 have Cm:((gE bX.length bX).filter (kE a b)).Pairwise (· < ·):=h1.filter _;unfold jE;by_cases ak:a<b
 .rw[if_pos (show b>a from ak)];refine⟨?_,?_,λx hx=>?_,λc hc h1 h2=>?_,⟨_,rfl⟩,λ_=>⟨_,rfl⟩,λh=>by omega⟩
  .refine qw.2 ⟨ki.2 ⟨λx hx=>((gM x).1 hx).2.1,Cm⟩,by simp,λx hx y hy=>?_⟩;have:y=b:=by simpa using hy
   subst this;rcases je.1 hx with rfl|hx
   .exact ak
   .exact((gM x).1 hx).2.2
  .simp only[jg,jm,qc];omega
  .rcases jn.1 hx with hx|hx
   .rcases je.1 hx with rfl|hx
    .omega
    .have:=(gM x).1 hx;omega
   .have:x=b:=by simpa using hx
    omega
  .exact jn.2 (.inl (qr _ ((gM c).2 ⟨hc,h1,h2⟩)))
 .have hab':a=b:=by omega
  rw[if_neg (show¬b>a by omega)];have fo:(gE bX.length bX).filter (kE a b)=[]:=List.eq_nil_iff_forall_not_mem.2 (λx hx=>by have:=(gM x).1 hx;omega);rw[fo];refine⟨by simp,by simp,λx hx=>?_,λc hc h1 h2=>by omega,⟨[],rfl⟩,λh=>by omega,λ_=>rfl⟩;have:x=a:=by simpa using hx
  omega
section
variable{z:br}{l:bn}(h4:Z4 z l)
include h4
theorem Ay{L:bI}(h:Rt L)(from_ GL:Int):∀(n:Nat)(k:Int)(acc:List Int),k+n=2386093->0<=k->(acc.length:Int)<=k->
  ∃out,IM from_ GL k z.1 z.2.1 z.2.2 L.1 L.2.1 L.2.2.1.1 L.2.2.1.2 L.2.2.2.1 L.2.2.2.2.1 L.2.2.2.2.2.1 L.2.2.2.2.2.2.1 L.2.2.2.2.2.2.2.1 L.2.2.2.2.2.2.2.2 acc=some (0,out)/\(out.length:Int)<=2386094/\
   (∀x∈acc,x∈out)/\∀j v,k<=j->hO z.2.1 l L j=some v->from_<=v->v<GL->v∈out
 |n,k,acc,hn,hk,ha=>by
  obtain⟨v',qV,gI⟩:=Gk h4 h (k:=k) hk (by omega);rw[jit];simp only[j4S];rw[show j7c (z.1,(z.2.1,z.2.2)) (L.1,L.2.1,(L.2.2.1.1,L.2.2.1.2),L.2.2.2.1,L.2.2.2.2.1,L.2.2.2.2.2.1,L.2.2.2.2.2.2.1,L.2.2.2.2.2.2.2.1,L.2.2.2.2.2.2.2.2) k=_ from qV];simp only[j4];cases hx:hO z.2.1 l L k with
  |none=>simp only[v8,ka,j6,aW];refine⟨acc,rfl,by omega,λx hx=>hx,λj v hj hv _ _=>?_⟩;obtain⟨u,hu,_⟩:=QO.le h4.2 h hj ⟨v,hv,k9 v⟩;rw[hx]at hu;simp at hu
  |some t=>
   have:=gI t hx;subst v';simp only[zk,jl,j7];by_cases iR:t>=GL
   .rw[ag iR];simp only[j6,aW];refine⟨acc,rfl,by omega,λx hx=>hx,λj v hj hv _ uG=>?_⟩;obtain⟨u,hu,huv⟩:=QO.le h4.2 h hj ⟨v,hv,k9 v⟩;rw[hx]at hu;simp at hu;omega
   .rw[ah iR,ag (show acc.length+[t].length<=aN by simp[aN];omega),ai (x:=k+1)];simp only[j6,j7];cases n with
    |zero=>have:=Aj h4.2 h hk hx;omega
    |succ n=>
     by_cases ir:t>=from_
     .rw[ag ir];simp only[j6,aK];obtain⟨out,e1,e2,e3,e4⟩:=Ay h from_ GL n (k+1) (acc++[t]) (by omega) (by omega) (by simp;omega);refine⟨out,e1,e2,λx hx=>e3 x (by simp[hx]),λj v hj hv h1 h2=>?_⟩;by_cases rU:j=k
      .subst rU;rw[hx]at hv;simp at hv;subst hv;exact e3 t (by simp)
      .exact e4 j v (by omega) hv h1 h2
     .rw[ah ir];simp only[j7,aK];obtain⟨out,e1,e2,e3,e4⟩:=Ay h from_ GL n (k+1) acc (by omega) (by omega) (by omega);refine⟨out,e1,e2,e3,λj v hj hv h1 h2=>?_⟩;by_cases rU:j=k
      .subst rU;rw[hx]at hv;simp at hv;omega
      .exact e4 j v (by omega) hv h1 h2
theorem jFn{a b:Int}(ha:0<=a)(bG:a<=b)(hb:b<=8589934592)(hq:b-a<=34560000):j8d a b=some true:=by
 have _:=h4;simp only[j8d];rw[ag (show a>=0 from ha),ag (show a<=8589934592 by omega),ag (show b>=a from bG),ag hb,ai (x:=b-a),ag hq];rfl
theorem jBp{L:bI}(h:Rt L){a b:Int}(ha:0<=a)(bG:a<=b)(hb:b<=8589934592)(hq:b-a<=34560000):∃out,j9h z L a b=some (out,0)/\out.length<=2386094/\∀j v,0<=j->hO z.2.1 l L j=some v->a<v->v<b->v∈out:=by
 obtain⟨K,eK,hK⟩:=jES h4 h ha (by omega)
 have hKb:K<=2386092:=by
  rcases hK with⟨hK,_⟩|⟨hK,⟨y,hy,_⟩,_⟩
  .omega
  .exact(Aj h4.2 h hK hy).2.2
 obtain⟨k0,mj⟩:∃k0:Int,k0=(if K>0 then K else 0):=⟨_,rfl⟩;have dJ:0<=k0/\k0<=2386092/\(0<k0->k0=K):=by rw[mj];split<;>omega
 obtain⟨out,e1,e2,_,e4⟩:=Ay h4 h a b (2386093-k0).toNat k0 [] (by omega) dJ.1 (by simp;omega);refine⟨out,?_,by omega,λj v hj hv h1 h2=>?_⟩
 .have e2:jcj (z.1,(z.2.1,z.2.2)) (L.1,L.2.1,(L.2.2.1.1,L.2.2.1.2),L.2.2.2.1,L.2.2.2.2.1,L.2.2.2.2.2.1,L.2.2.2.2.2.2.1,L.2.2.2.2.2.2.2.1,L.2.2.2.2.2.2.2.2)=_:=jnj h4 L;simp only[j9h,e2,j4];rw[if_pos h];simp only[jh,j7,jFn h4 ha bG hb hq,j4,jl];rw[show jcl (z.1,(z.2.1,z.2.2)) (L.1,L.2.1,(L.2.2.1.1,L.2.2.1.2),L.2.2.2.1,L.2.2.2.2.1,L.2.2.2.2.2.1,L.2.2.2.2.2.2.1,L.2.2.2.2.2.2.2.1,L.2.2.2.2.2.2.2.2) a=_ from eK];simp only[j4];rw[<-mj,e1];rfl
 .by_cases rU:k0<=j
  .exact e4 j v rU hv (by omega) h2
  .exfalso;have hKk:=dJ.2.2 (by omega);rcases hK with⟨hK,_⟩|⟨hK,hq,_⟩
   .omega
   .obtain⟨u,hu,hua⟩:=QO.le h4.2 h (show j<=K by omega) hq;rw[hv]at hu;simp at hu;omega
end
theorem jBq{z:br}(hz:gg z){L:bI}(hR:Rt L){x y:Int}(h0:0<=x)(iw:x<=y)(h1:y<=8589934592)(cY:∀j v,0<=j->hO z.2.1 (tb z).2 L j=some v->¬(x<v/\v<=y)):bT z L x=bT z L y:=by
 have a:=(rj hz hR (t:=x) h0 (by omega)).2;have b:=(rj hz hR (t:=y) (by omega) h1).2;refine kB.uniq hz.ztab.2 hR (t:=y) ?_ b;have q:∀j,0<=j->QO z.2.1 (tb z).2 L y j->QO z.2.1 (tb z).2 L x j:=λj hj ⟨v,hv,G9⟩=>⟨v,hv,by have:=cY j v hj hv;omega⟩;rcases a with⟨a1,a2⟩|⟨a1,a2,a3⟩
 .exact .inl ⟨a1,λh=>a2 (q 0 (by omega) h)⟩
 .obtain⟨v,hv,tt⟩:=a2;exact .inr ⟨a1,⟨v,hv,by omega⟩,λh=>a3 (q _ (by omega) h)⟩
theorem Kb{z:br}(hz:gg z){t:Int}(h0:0<=t)(h1:t<=8589934592){k:Nat}(hk:k<=(tb z).2.length)(k1:aO (tb z).2 k<=t)(k2:t<aO (tb z).2 (k+1)) :
  cm z t=((t+ba z.2.1 (tb z).2 k)/86400,(t+ba z.2.1 (tb z).2 k)%86400)/\eV (cm z t)=(t+ba z.2.1 (tb z).2 k+259200)%604800:=by
 have e:=Cb hz.ztab.2 hk k1 k2;have o0:=hz.ztab.2.of0 k hk;have o1:=hz.ztab.2.of1 k hk;have el:cm z t=((t+ba z.2.1 (tb z).2 k)/86400,(t+ba z.2.1 (tb z).2 k)%86400):=by simp only[cm,show j1p (tb z) t=_ from e,zg]
 refine⟨el,?_⟩;have kW:j7w (cm z t)=some (eV (cm z t)):=(RA hz h0 h1).2;have h5:=GJ (d:=(t+ba z.2.1 (tb z).2 k)/86400) (s:=(t+ba z.2.1 (tb z).2 k)%86400) (by omega) (by omega) (by omega) (by omega);rw[el]at kW ⊢;rw[h5]at kW;have:=Option.some.inj kW;rw[<-this];congr 1;omega
theorem jBr{W:SL}{x y:Int}(iw:x<=y)(cY:∀u∈W,¬(x<u.1/\u.1<=y)/\¬(x<u.2/\u.2<=y)):bt x W↔bt y W:=by
 constructor
 .rintro⟨u,hu,h1,h2⟩
  have:=cY u hu;exact⟨u,hu,by omega,by omega⟩
 .rintro⟨u,hu,h1,h2⟩
  have:=cY u hu;exact⟨u,hu,by omega,by omega⟩
theorem jzQ{o:Int}{l:bn}{s:Int}:∀(n j i:Nat),j<=i->i<j+n->sJ o l s i->s-ba o l i∈pX o l s j n
 |0,_,_,h1,h2,_=>by omega
 |n+1,j,i,h1,h2,hs=>by
  simp only[pX];by_cases he:i=j
  .subst he;rw[if_pos hs];simp
  .exact k7 _ (jzQ n (j+1) i (by omega) (by omega) hs)
theorem jBs{z:br}(hz:gg z){ds:List Int}{x y:Int}(h0:0<=x)(iw:x<=y)(h1:y<=8589934592)(htr:∀i,i<(tb z).2.length->¬(x<fR (tb z).2 i/\fR (tb z).2 i<=y))
  (wP:∀d∈ds,∀i:Int,0<=i->i<2->∀t∈jC z.2.1 (tb z).2 ((d+i)*86400+0),¬(x<t/\t<=y)):decide ((cm z x).1∈ds)=decide ((cm z y).1∈ds):=by
 obtain⟨k,hk,k1,k2⟩:=pQ hz.ztab.2 (t:=x) h0 (by omega)
 have k3:y<aO (tb z).2 (k+1):=by
  rcases qx k (tb z).2.length with hl|hl
  .have:=htr k hl;rw[jM hl]at k2 ⊢;omega
  .rw[show k=(tb z).2.length by omega,mQ];omega
 obtain⟨e1,_⟩:=Kb hz h0 (by omega) hk k1 k2;obtain⟨e2,_⟩:=Kb hz (t:=y) (by omega) h1 hk (by omega) k3
 have key:∀D:Int,x+ba z.2.1 (tb z).2 k<D*86400->D*86400<=y+ba z.2.1 (tb z).2 k->∀d∈ds,∀i:Int,0<=i->i<2->d+i=D->False:=λD d1 d2 d hd i i0 i1 hdi=>by
  have hs:sJ z.2.1 (tb z).2 (D*86400+0) k:=⟨by omega,by omega⟩;have hm:D*86400+0-ba z.2.1 (tb z).2 k∈jC z.2.1 (tb z).2 ((d+i)*86400+0):=by rw[hdi];exact jzQ _ 0 k (by omega) (by omega) hs
  exact wP d hd i i0 i1 _ hm ⟨by omega,by omega⟩
 rw[e1,e2];by_cases he:(x+ba z.2.1 (tb z).2 k)/86400=(y+ba z.2.1 (tb z).2 k)/86400
 .rw[he]
 .have fD:¬(x+ba z.2.1 (tb z).2 k)/86400∈ds:=λhd=>key ((x+ba z.2.1 (tb z).2 k)/86400+1) (by omega) (by omega) _ hd 1 (by omega) (by omega) rfl;have gL:¬(y+ba z.2.1 (tb z).2 k)/86400∈ds:=λhd=>key ((y+ba z.2.1 (tb z).2 k)/86400) (by omega) (by omega) _ hd 0 (by omega) (by omega) (by omega);rw[ah fD,ah gL]
def vN(W:SL):List Int:=W.flatMap λu=>[u.1,u.2]
theorem jDU(W:SL):(vN W).length=2*W.length:=by
 induction W with
 |nil=>rfl
 |cons x r ih=>have:vN (x::r)=[x.1,x.2]++vN r:=rfl;rw[this,jg,ih];simp;omega
section
variable{zs:List br}{ps:List cZ}{cs:List aX}{ss:List cF}
theorem jFo{L:bI}{W:SL}(hW:W.length<=10000):∀(n i:Nat)(acc:List Int),i+n=W.length->acc.length+2*n<=100000000->
  IV (i:Int) zs ps cs ss L.1 L.2.1 L.2.2.1.1 L.2.2.1.2 L.2.2.2.1 L.2.2.2.2.1 L.2.2.2.2.2.1 L.2.2.2.2.2.2.1 L.2.2.2.2.2.2.2.1 L.2.2.2.2.2.2.2.2 acc W=
   some (zs,ps,cs,ss,L.1,L.2.1,L.2.2.1.1,L.2.2.1.2,L.2.2.2.1,L.2.2.2.2.1,L.2.2.2.2.2.1,L.2.2.2.2.2.2.1,L.2.2.2.2.2.2.2.1,L.2.2.2.2.2.2.2.2,acc++vN (W.drop i))
 |0,i,acc,hi,_=>by
  rw[XU,jd (by omega)];simp only[j6m,show Int.ofNat W.length=(W.length:Int) from rfl];rw[ah (by omega),j7,aW];simp[vN]
 |n+1,i,acc,hi,ha=>by
  have ak:i<W.length:=by omega
  have aR:W.getD i ((0:Int),(0:Int))=W[i]:=by simp[ak]
  have ih:=jFo (L:=L) hW n (i+1) (acc++[W[i].1,W[i].2]) (by omega) (by simp;omega);rw[jj]at ih;rw[XU,jb ak];simp only[j6m,show Int.ofNat W.length=(W.length:Int) from rfl];rw[ag (show (i:Int)<(W.length:Int) by omega),bz,ai (x:=(i:Int)+1)];simp only[j6,j8,aR];rw[ag (by simp[aN];omega),j6,aK];exact ih
theorem jFp{x:aX}{T:bn}(hT:T.length<=1000):∀(n i:Nat)(acc:List Int),i+n=T.length->acc.length+n<=100000000->
  zU (i:Int) zs ps cs ss x.1 x.2.1 x.2.2 acc T=some (zs,ps,cs,ss,x.1,x.2.1,x.2.2,acc++(T.drop i).map (·.1))
 |0,i,acc,hi,_=>by
  rw[XV,jd (by omega)];simp only[j6n,show Int.ofNat T.length=(T.length:Int) from rfl];rw[ah (by omega),j7,aW];simp
 |n+1,i,acc,hi,ha=>by
  have ak:i<T.length:=by omega
  have aR:T.getD i ((0:Int),(0:Int))=T[i]:=by simp[ak]
  have ih:=jFp (x:=x) hT n (i+1) (acc++[T[i].1]) (by omega) (by simp;omega);rw[jj]at ih;rw[XV,jb ak];simp only[j6n,show Int.ofNat T.length=(T.length:Int) from rfl];rw[ag (show (i:Int)<(T.length:Int) by omega),bz,ai (x:=(i:Int)+1)];simp only[j6,j8,aR];rw[ag (by simp[aN];omega),j6,aK];exact ih
def tN(z:br)(d:Int):List Int:=jC z.2.1 (tb z).2 ((d+0)*86400+0)++jC z.2.1 (tb z).2 ((d+1)*86400+0)
theorem jzR{z:br}(hz:gg z)(d:Int):(tN z d).length<=10:=by
 have h4:(tb z).2.length<=4:=Al hz;have a:=JN (o:=z.2.1) (l:=(tb z).2) ((d+0)*86400+0) ((tb z).2.length+1) 0;have b:=JN (o:=z.2.1) (l:=(tb z).2) ((d+1)*86400+0) ((tb z).2.length+1) 0;unfold tN jC;rw[jg];omega
theorem jFW(kM:∀z∈zs,gg z){x:aX}(hx:pT zs.length x){i:Nat}(hi:i<x.2.2.length){acc:List Int}(ha:acc.length<=90000000) :
  IW (i:Int) 0 zs ps cs ss x.1 x.2.1 x.2.2 acc=some ((i:Int),zs,ps,cs,ss,x.1,x.2.1,x.2.2,acc++tN (aH zs x.2.1) x.2.2[i]):=by
 have hz:gg (aH zs x.2.1):=gv kM hx.z0 hx.z1;have h4:=hz.zref.2.1;have hd:=hx.day _ (jf hi);have d0:=jC5 hd;have d1:=J0 hd;have aR:x.2.2.getD i (0:Int)=x.2.2[i]:=by simp[hi]
 have vE:(tb (aH zs x.2.1)).2.length<=4:=Al hz;have dV:=λs=>JN (o:=(aH zs x.2.1).2.1) (l:=(tb (aH zs x.2.1)).2) s ((tb (aH zs x.2.1)).2.length+1) 0;have e0:j7x ((zs.getD x.2.1.toNat (ByteArray.empty,((0:Int),([]:List aD)))).1,((zs.getD x.2.1.toNat (ByteArray.empty,((0:Int),([]:List aD)))).2.1,(zs.getD x.2.1.toNat (ByteArray.empty,((0:Int),([]:List aD)))).2.2)) (x.2.2[i]+0,0)=_:=ZL h4 (show -2<=x.2.2[i]+0 by omega) (by omega) (show (0:Int)<=0 by omega) (by omega);have e1:j7x ((zs.getD x.2.1.toNat (ByteArray.empty,((0:Int),([]:List aD)))).1,((zs.getD x.2.1.toNat (ByteArray.empty,((0:Int),([]:List aD)))).2.1,(zs.getD x.2.1.toNat (ByteArray.empty,((0:Int),([]:List aD)))).2.2)) (x.2.2[i]+1,0)=_:=ZL h4 (show -2<=x.2.2[i]+1 by omega) (by omega) (show (0:Int)<=0 by omega) (by omega);have b0:=dV ((x.2.2[i]+0)*86400+0);have b1:=dV ((x.2.2[i]+1)*86400+0);rw[ND];simp only[j4u];rw[ag (show (0:Int)<2 by omega),cw hx.z0 hx.z1,cw (show (0:Int)<=(i:Int) by omega) (by omega)];simp only[j6,j8,aR];rw[ai (x:=x.2.2[i]+0),e0];simp only[j4];rw[ag (show acc.length+(jC (aH zs x.2.1).2.1 (tb (aH zs x.2.1)).2 ((x.2.2[i]+0)*86400+0)).length<=aN by unfold jC aN;omega),j6,aK];rw[show w64 (0+1)=1 from rfl,ND];simp only[j4u];rw[ag (show (1:Int)<2 by omega),cw hx.z0 hx.z1,cw (show (0:Int)<=(i:Int) by omega) (by omega)];simp only[j6,j8,aR];rw[ai (x:=x.2.2[i]+1),e1];simp only[j4]
 rw[ag (show (acc++jC (aH zs x.2.1).2.1 (tb (aH zs x.2.1)).2 ((x.2.2[i]+0)*86400+0)).length+(jC (aH zs x.2.1).2.1 (tb (aH zs x.2.1)).2 ((x.2.2[i]+1)*86400+0)).length<=aN by rw[jg];unfold jC aN;omega),j6,aK];rw[show w64 (1+1)=2 from rfl,ND];simp only[j4u];rw[ah (show¬(2:Int)<2 by omega),j7,aW,jj];rfl
theorem jFq(kM:∀z∈zs,gg z){x:aX}(hx:pT zs.length x):∀(n i:Nat)(acc:List Int),i+n=x.2.2.length->acc.length+10*n<=90000000->
  B1 (i:Int) zs ps cs ss x.1 x.2.1 x.2.2 acc=some (acc++(x.2.2.drop i).flatMap (tN (aH zs x.2.1)))
 |0,i,acc,hi,_=>by
  rw[XW,jd (by omega)];simp only[j6o,show Int.ofNat x.2.2.length=(x.2.2.length:Int) from rfl];rw[ah (by omega),j7,aW];simp
 |n+1,i,acc,hi,ha=>by
  have ak:i<x.2.2.length:=by omega
  have hl:=hx.len;have hz:gg (aH zs x.2.1):=gv kM hx.z0 hx.z1;have hb:=jzR hz x.2.2[i];have ih:=jFq kM hx n (i+1) (acc++tN (aH zs x.2.1) x.2.2[i]) (by omega) (by rw[jg];omega);rw[jj]at ih;rw[XW,jb ak];simp only[j6o,show Int.ofNat x.2.2.length=(x.2.2.length:Int) from rfl];rw[ag (show (i:Int)<(x.2.2.length:Int) by omega),j6,jFW kM hx ak (by omega)];simp only[j4];rw[ai (x:=(i:Int)+1),aK];exact ih
end
end Go.Proofs.Pw
