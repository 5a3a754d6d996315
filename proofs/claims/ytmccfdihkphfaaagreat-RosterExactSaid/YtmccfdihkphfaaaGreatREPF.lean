/- eP 3: span.Merge: the BV form of any k_. -/
import Derived.Test.YtmccfdihkphfaaaGreatREPA
import Derived.Test.YtmccfdihkphfaaaGreatREFns
import Derived.Test.YtmccfdihkphfaaaGreatREPB
open _root_ renaming Int->d,Nat->I,List->O
open List renaming length->z,take_of_length_le->D,drop_of_length_le->F,length_append->K
open Int renaming ofNat->B
open Or renaming inl->G,inr->H
open Option renaming some->J
open Go Go.Lft
namespace Go.Proofs.Pw
abbrev SL:=O (d×d)
def bJ(x:d)(l:SL):Prop:=∃s∈l,s.1<=x/\x<s.2
def bX(p:d):SL->Prop
 |[]=>True
 |x::r=>p<x.1/\x.1<x.2/\bX x.2 r
def Sml(l:SL):Prop:=∀s∈l, -1000000000000<=s.1/\s.1<=1000000000000 /\ -1000000000000<=s.2/\s.2<=1000000000000
theorem fU{x:d}:¬bJ x []:=by rintro⟨s,hs,_⟩;simp at hs
theorem dC{x:d}{s:d×d}{l:SL}:bJ x (s::l)↔(s.1<=x/\x<s.2)\/bJ x l:=by
 constructor
 .rintro⟨u,hu,h⟩
  rcases je.1 hu with rfl|hu
  .exact G h
  .exact H ⟨u,hu,h⟩
 .rintro (h|⟨u,hu,h⟩)
  .exact⟨s,ae,h⟩
  .exact⟨u,by simp[hu],h⟩
theorem xw{x:d}{l r:SL}:bJ x (l++r)↔bJ x l\/bJ x r:=by
 constructor
 .rintro⟨u,hu,h⟩
  rcases jm.1 hu with hu|hu
  .exact G ⟨u,hu,h⟩
  .exact H ⟨u,hu,h⟩
 .rintro (⟨u,hu,h⟩|⟨u,hu,h⟩)
  .exact⟨u,by simp[hu],h⟩
  .exact⟨u,by simp[hu],h⟩
def nE(s:d×d):Bool:= !(decide (s.2<=s.1))
theorem l_{l:SL}(hl:l.length<=10000000):∀(n i:I),i+n=l.length->(∀s∈l.take i,nE s=true)->
  (∃j:I,Fb (l.length:d) (i:d) l=J (.inl ((j:d),l))/\j<l.length/\(∀s∈l.take j,nE s=true)/\nE (l.getD j (0,0))=false)\/
  (Fb (l.length:d) (i:d) l=J (.inr l)/\∀s∈l,nE s=true)
 |0,i,hi,h=>by
  rw[XK];simp only[j0x];rw[an aa,j7,aW];rw[D aa]at h;exact H ⟨rfl,h⟩
 |n+1,i,hi,h=>by
  rw[XK];simp only[j0x,j9E];rw[ag (show (i:d)<(l.length:d) by omega),bE,ar (x:=(i:d)+1)];simp only[j6,j8,j4];have aq:i<l.length:=aa;cases hc:decide ((l.getD i ((0:d),(0:d))).2<=(l.getD i ((0:d),(0:d))).1) with
  |true=>simp only[j6,aW];exact G ⟨i,rfl,aq,h,by simp only[nE];rw[hc];rfl⟩
  |false=>
   simp only[j7,aS];refine l_ hl n (i+1) aa λs hs=>?_;rw[qb]at hs;rcases jm.1 hs with hs|hs
   .exact h s hs
   .have bc:l.getD i ((0:d),(0:d))=l[i]:=by simp[aq]
    rw[bc]at hc;rw[jo aq]at hs;simp at hs;subst hs;simp only[nE];rw[hc];rfl
theorem R5{l:SL}(hl:l.length<=10000000):∀(n i j:I)(b:SL),j+n=l.length->i<=j->b.length=l.length->b.drop j=l.drop j->b.take i=(l.take j).filter nE->
  ∃(k:I)(b':SL),IJ (i:d) (j:d) b=J ((k:d),b')/\b'.length=l.length/\k<=l.length/\b'.take k=l.filter nE
 |0,i,j,b,hj,eh,hb,hd,ht=>by
  rw[XL];simp only[j0t,show B (z b)=(b.length:d) from rfl];rw[an aa,j7,aW];rw[D (l:=l) aa]at ht;exact⟨i,b,rfl,hb,aa,ht⟩
 |n+1,i,j,b,hj,eh,hb,hd,ht=>by
  have aq:j<l.length:=aa
  have R6:b.getD j ((0:d),(0:d))=l[j]:=by
   have:b[j]? = l[j]? := by
    have h:=js (λx=>x[0]?) hd;simpa[List.getElem?_drop]using h
   rw[List.getD_eq_getElem?_getD,this,jo aq];rfl
  have h9:b.drop (j+1)=l.drop (j+1):=by have:=js (List.drop 1) hd;simpa[List.drop_drop]using this
  have pz:l.take (j+1)=l.take j++[l[j]]:=by rw[qb,jo aq];rfl
  rw[XL];simp only[j0t,j9E,show B (z b)=(b.length:d) from rfl];rw[ag (show (j:d)<(b.length:d) by omega),bE,bE,ar (x:=(j:d)+1),ar (x:=(i:d)+1)];simp only[j6,j8,j4,R6];cases hc:decide (l[j].2<=l[j].1) with
  |true=>simp only[jc,j7,aS];refine R5 hl n i (j+1) b aa aa hb h9 ?_;rw[pz,vk,ht];simp[nE,hc]
  |false=>
   simp only[jp,j6,aS];refine R5 hl n (i+1) (j+1) _ aa aa (by simpa using hb) ?_ ?_
   .rw[List.drop_set_of_lt aa];exact h9
   .have Dx:i<b.length:=aa;rw[qb,List.take_set_of_le (jq _),List.getElem?_set_self Dx,ht,pz,vk];simp[nE,hc]
theorem jA7{l:SL}(hl:l.length<=10000000):∃n m,j1A l=J (n,m)/\m.take n.toNat=l.filter nE:=by
 simp only[j1A,j2B,show B (z l)=(l.length:d) from rfl];rcases l_ hl l.length 0 aa ae with⟨j,e,hj,h1,h2⟩|⟨e,h⟩
 .rw[show ((0:I):d)=0 from rfl]at e;rw[e];simp only[j4,pN];rw[cG aa,ar (x:=(j:d)+1)];have bc:l.getD j ((0:d),(0:d))=l[j]:=by simp[hj]
  rw[bc]at h2
  obtain⟨k,b,e2,hb,hk,ht⟩:=R5 hl (l.length-(j+1)) j (j+1) l aa aa rfl rfl (by
   rw[qb,jo hj,vk,List.filter_eq_self.2 h1];simp[h2])
  rw[show ((j:d)+1)=((j+1:I):d) from rfl,e2];simp only[j7,j4,show B (z b)=(b.length:d) from rfl,j8];rw[ag (show (0:d)<=(k:d) by omega),ag (show (k:d)<=(b.length:d) by omega)];simp only[ql,j6,qr];rw[ag az,j6];refine⟨_,_,rfl,?_⟩;simp only[show (B k).toNat=k from rfl];rw[qy az,vz,Nat.min_self,ht]
 .rw[show ((0:I):d)=0 from rfl]at e;rw[e];simp only[j4,me,kp,j6];refine⟨_,_,rfl,?_⟩;simp only[show (B l.length).toNat=l.length from rfl];rw[D (jq _),List.filter_eq_self.2 h]
def mB(e:d×d):SL->SL
 |[]=>[e]
 |s::r=>if s.1<=e.2 then mB (e.1,if s.2>e.2 then s.2 else e.2) r else e::mB s r
def mg:SL->SL
 |[]=>[]
 |s::r=>mB s r
theorem R7{L:SL}(hL:L.length<=10000000):∀(n i:I)(A:SL)(e:d×d),i+n=L.length->A.length<i->
  Fc (L.length:d) (i:d) (A++[e]) L=J (A++mB e (L.drop i))
 |0,i,A,e,hi,hA=>by
  rw[OD];simp only[j3U];rw[an aa,j7,aW,F aa];rfl
 |n+1,i,A,e,hi,hA=>by
  have aq:i<L.length:=aa;have bc:L.getD i ((0:d),(0:d))=L[i]:=by simp[aq]
  have hle:(A++[e]).length=A.length+1:=ae;have mu:(A++[e]).getD A.length ((0:d),(0:d))=e:=ae;rw[OD,jb aq];simp only[j3U,mB,show B (z (A++[e]))=((A.length:d)+1) from by rw[hle];rfl]
  rw[ag (show (i:d)<(L.length:d) by omega),bE,ag (show (A.length:d)+1>0 by omega),ar (x:=(A.length:d)+1-1),ar (x:=(i:d)+1),
   bU aa (by rw[hle];omega),show ((A.length:d)+1-1).toNat=A.length by omega]
  simp only[j6,j8,bc,mu];by_cases hc:L[i].1<=e.2
  .rw[ag hc,if_pos hc];simp only[j6,aS]
   rw[show (A++[e]).set A.length (e.1,if L[i].2>e.2 then L[i].2 else e.2)=A++[(e.1,if L[i].2>e.2 then L[i].2 else e.2)] by
    rw[vp _ _ (jq _)];simp]
   exact R7 hL n (i+1) A _ aa aa
  .rw[an hc,if_neg hc,ag (by rw[hle];simp[aG];omega)];simp only[j7,j6,aS];have:=R7 hL n (i+1) (A++[e]) L[i] aa (by rw[hle];omega);rw[show A++e::mB L[i] (L.drop (i+1))=A++[e]++mB L[i] (L.drop (i+1)) by simp];exact this
theorem jGJ{L:SL}(hL:L.length<=10000000):Fc (L.length:d) 0 [] L=J (mg L):=by
 rw[OD];simp only[j3U];cases L with
 |nil=>rw[an ae,j7,aW];rfl
 |cons s r=>rw[ag (show (0:d)<((s::r).length:d) by simp only[ji];omega),bU aa (by simp only[ji];omega)];simp only[j6,show B (z ([]:SL))=0 from rfl];rw[an (show¬((0:d)>0) by omega),j7,ag (by simp[aG]),ar (x:=(0:d)+1)];simp only[j6,aS];have:=R7 hL r.length 1 [] s az ae;simpa[mg]using this
def Gp:SL->Prop
 |[]=>True
 |s::r=>(∀u∈r,s.1<=u.1)/\Gp r
theorem R8:∀{r:SL}{e:d×d}{p:d},p<e.1->e.1<e.2->(∀s∈r,nE s=true)->Gp r->bX p (mB e r)
 |[],e,p,h1,h2,_,_=>⟨h1,h2,trivial⟩
 |s::r,e,p,h1,h2,h3,h4=>by
  simp only[mB];have hs:s.1<s.2:=by have:=h3 s ae;simp[nE]at this;omega
  split
  .exact R8 (by exact h1) (by dsimp only;split<;>omega) (λu hu=>h3 u (by simp[hu])) h4.2
  .exact⟨h1,h2,R8 aa hs (λu hu=>h3 u (by simp[hu])) h4.2⟩
theorem R9{x:d}:∀{r:SL}{e:d×d},(∀s∈r,e.1<=s.1)->(∀s∈r,nE s=true)->Gp r->(bJ x (mB e r)↔(e.1<=x/\x<e.2)\/bJ x r)
 |[],e,_,_,_=>by simp[mB,bJ]
 |s::r,e,h1,h3,h4=>by
  have hs:s.1<s.2:=by have:=h3 s ae;simp[nE]at this;omega
  have he:e.1<=s.1:=h1 s ae;simp only[mB];split
  .rw[R9 (e:=(e.1,if s.2>e.2 then s.2 else e.2)) (λu hu=>h1 u (by simp[hu])) (λu hu=>h3 u (by simp[hu])) h4.2,dC];dsimp only;constructor
   .rintro (⟨a,b⟩|h)
    .split at b
     .by_cases hx:x<e.2
      .exact G ⟨a,hx⟩
      .exact H (G ⟨aa,b⟩)
     .exact G ⟨a,b⟩
    .exact H (H h)
   .rintro (⟨a,b⟩|⟨a,b⟩|h)
    .exact G ⟨a,by split<;>omega⟩
    .exact G ⟨aa,by split<;>omega⟩
    .exact H h
  .rw[dC,R9 h4.1 (λu hu=>h3 u (by simp[hu])) h4.2,dC]
theorem Sa:∀(r:SL)(e:d×d),(mB e r).length<=r.length+1
 |[],e=>by simp[mB]
 |s::r,e=>by
  simp only[mB];split
  .have:=Sa r (e.1,if s.2>e.2 then s.2 else e.2);simp only[ji];omega
  .have:=Sa r s;simp only[ji];omega
theorem Sb{lo hi:d}:∀{r:SL}{e:d×d},(lo<=e.1/\e.2<=hi)->(∀s∈r,lo<=s.1/\s.2<=hi)->∀u∈mB e r,lo<=u.1/\u.2<=hi
 |[],e,h1,h2=>by simp only[mB];intro u hu;simp at hu;subst hu;exact h1
 |s::r,e,h1,h2=>by
  have hs:=h2 s ae;simp only[mB];split
  .exact Sb ⟨h1.1,by dsimp only;split<;>omega⟩ (λu hu=>h2 u (by simp[hu]))
  .intro u hu;rcases je.1 hu with rfl|hu
   .exact h1
   .exact Sb hs (λu hu=>h2 u (by simp[hu])) u hu
theorem jFD{L:SL}(h:L.Pairwise (λx y=>¬w64 (y.1-x.1)<0))(hb:Sml L):Gp L:=by
 induction L with
 |nil=>trivial
 |cons s r ih=>rw[kf]at h;refine⟨λu hu=>?_,ih h.2 (λv hv=>hb v (by simp[hv]))⟩;have h1:=h.1 u hu;have h2:=hb s ae;have h3:=hb u (by simp[hu]);rw[ar (x:=u.1-s.1)]at h1;omega
theorem jC0:Go.Sort.SWO (Go.Proofs.ltOf λ(x y:Go.Lft.Sml (.pair (.int .i64) (.int .i64)))=>(j7O x.1 y.1).getD 0):=by
 refine Iq (λx=>x.1.1) (λx=>?_) _ λx y=>rfl;have:=x.2;simp only[iP,jd,jj]at this;exact this.1
theorem jEc{l:SL}(hl:l.length<=10000000)(hb:Sml l):∃L,j12 l=J L/\L.Perm l/\Gp L:=by
 obtain⟨L,e,hp,hs⟩:=Xk (a:= .pair (.int .i64) (.int .i64)) (cf:=λx y=>(j7O x y).getD 0) jC0 (xs:=l) (λx hx=>by
  have:=hb x hx;simp only[iP,jd,jj];refine⟨⟨?_,?_⟩,⟨?_,?_⟩⟩
  .exact qs (by decide) this.1
  .exact qs this.2.1 (by decide)
  .exact qs (by decide) this.2.2.1
  .exact qs this.2.2.2 (by decide)) (by show z l<_;omega)
 exact⟨L,e,hp,jFD hs λs hm=>hb s (hp.mem_iff.1 hm)⟩
theorem Gq{l:SL}(hl:l.length<=10000000)(hb:Sml l){lo hi:d}(jA:∀s∈l,s.1<s.2->lo<=s.1/\s.2<=hi) :
  ∃out,j9h l=J out/\bX (lo-1) out/\(∀x,bJ x out↔bJ x l)/\out.length<=l.length/\∀u∈out,lo<=u.1/\u.2<=hi:=by
 obtain⟨n,m,e1,ht⟩:=jA7 hl;have fB:(l.filter nE).length<=l.length:=zo _ _;obtain⟨L,e2,hp,hs⟩:=jEc (l:=l.filter nE) aa (λs h=>hb s (zw.1 h).1);have hLl:L.length=(l.filter nE).length:=hp.length_eq;have CO:∀s,s∈L↔s∈l/\nE s=true:=λs=>hp.mem_iff.trans zw
 have m_:∀x,bJ x L↔bJ x l:=by
  intro x;constructor
  .rintro⟨s,h,h2⟩;exact⟨s,((CO s).1 h).1,h2⟩
  .rintro⟨s,h,h2⟩;exact⟨s,(CO s).2 ⟨h,by simp only[nE];rw[an aa];rfl⟩,h2⟩
 have br:∀s∈L,s.1<s.2:=λs h=>by have:=((CO s).1 h).2;simp[nE]at this;omega
 refine⟨mg L,?_,?_⟩
 .simp only[j9h,j3v];rw[ag (by simp[aG];omega)];simp only[j6,j4,jw,e1,ht,e2,show B (z L)=(L.length:d) from rfl,jGJ (L:=L) aa]
 .cases L with
  |nil=>refine⟨trivial,λx=>m_ x,by simp[mg],by simp[mg]⟩
  |cons s r=>
   have h0:=jA s ((CO s).1 ae).1 (br s ae);have hr:∀u∈r,nE u=true:=λu hu=>((CO u).1 (by simp[hu])).2;refine⟨R8 aa (br s ae) hr hs.2,λx=>?_,?_,?_⟩
   .rw[<-m_ x,dC];exact R9 hs.1 hr hs.2
   .have:=Sa r s;simp only[mg,ji]at *;omega
   .exact Sb h0 λu hu=>jA u ((CO u).1 (by simp[hu])).1 (br u (by simp[hu]))
def qQ(o:d)(l:bh)(a b:d)(k:I):I->O (d×(d×d))
 |0=>[]
 |n+1=>if aX l (k+1)<b then (a,(aX l (k+1),bm o l k))::qQ o l (aX l (k+1)) b (k+1) n else [(a,(b,bm o l k))]
section
variable{o:d}{l:bh}(h:iF o l)
include h
theorem n_{b:d}(hb:b<=8589934592):∀(n k:I)(a:d)(acc:O (d×(d×d))),k+n=l.length+1->k<=l.length->aX l k<=a->a<aX l (k+1)->a<b->acc.length<=k->
  Ck a b o l acc=J (acc++qQ o l a b k n)
 |0,k,a,acc,hn,hk,_,_,_,_=>aa
 |n+1,k,a,acc,hn,hk,h1,h2,cF,ha=>by
  have hlen:=h.len;rw[Cl];simp only[j0B,show B (z l)=(l.length:d) from rfl,qQ];rw[ag cF];simp only[j6,Rw h hk h1 h2,Rx h hk,j4];by_cases ir:k<l.length
  .have hf:aX l (k+1)=(l.getD k ((0:d),(0:d))).1:=gN ir;rw[ag (show (k:d)<(l.length:d) by omega),bE];simp only[j6,j8,<-hf];rw[ag (by simp[aG];omega),j6,aS];by_cases hc:aX l (k+1)<b
   .rw[if_pos hc,if_pos hc];have:=n_ hb n (k+1) (aX l (k+1)) (acc++[(a,(aX l (k+1),bm o l k))]) aa aa aa (h.frm_lt aa) hc az;rw[jg]at this;exact this
   .rw[if_neg hc,if_neg hc];rw[Cl];simp only[j0B];rw[an aa,j7,aW]
  .have cg:k=l.length:=aa;have hf:aX l (k+1)=8589934593:=by rw[cg];exact mj
   rw[if_neg (show¬aX l (k+1)<b by omega),an aa,j7,ag (by simp[aG];omega),j6,aS];rw[Cl];simp only[j0B];rw[an aa,j7,aW]
omit h in
theorem o_:∀(n k:I)(a b:d),(qQ o l a b k n).length<=n
 |0,k,a,b=>by simp[qQ]
 |n+1,k,a,b=>by
  simp only[qQ];split
  .have:=o_ n (k+1) (aX l (k+1)) b;simp;omega
  .simp
theorem p_{b:d}:∀(n k:I)(a:d),k+n=l.length+1->aX l k<=a->a<aX l (k+1)->a<b->
  ∀p∈qQ o l a b k n,a<=p.1/\p.1<p.2.1/\p.2.1<=b/\∃i,k<=i/\i<=l.length/\p.2.2=bm o l i/\aX l i<=p.1/\p.2.1<=aX l (i+1)
 |0,k,a,hn,h1,h2,cF,p,hp=>by simp[qQ]at hp
 |n+1,k,a,hn,h1,h2,cF,p,hp=>by
  simp only[qQ]at hp;split at hp
  .rename_i hc;rcases je.1 hp with rfl|hp
   .exact⟨k8 _,h2,by dsimp only;omega,k,jq _,aa,rfl,h1,k8 _⟩
   .cases n with
    |zero=>simp[qQ]at hp
    |succ n=>
    obtain⟨a1,a2,a3,i,i1,i2,i3⟩:=p_ (n+1) (k+1) (aX l (k+1)) aa (k8 _) (h.frm_lt aa) hc p hp;exact⟨aa,a2,a3,i,aa,i2,i3⟩
  .rename_i hc;simp at hp;subst hp;exact⟨k8 _,cF,k8 _,k,jq _,aa,rfl,h1,by dsimp only;omega⟩
theorem q_{b:d}(hb:b<=8589934592):∀(n k:I)(a:d),k+n=l.length+1->k<=l.length->aX l k<=a->a<aX l (k+1)->a<b->
  ∀x,a<=x->x<b->∃p∈qQ o l a b k n,p.1<=x/\x<p.2.1
 |0,k,a,hn,hk,h1,h2,cF,x,hx,pV=>aa
 |n+1,k,a,hn,hk,h1,h2,cF,x,hx,pV=>by
  simp only[qQ];split
  .rename_i hc;by_cases aq:x<aX l (k+1)
   .exact⟨_,z7 ..,hx,aq⟩
   .have ir:k+1<=l.length:=by
     rcases qa k l.length with h'|h'
     .exact h'
     .have:k=l.length:=aa;subst this;rw[mj]at hc;omega
    obtain⟨p,hp,xR⟩:=q_ hb n (k+1) (aX l (k+1)) aa ir (k8 _) (h.frm_lt ir) hc x aa pV;exact⟨p,by simp[hp],xR⟩
  .exact⟨_,z7 ..,hx,pV⟩
theorem r_{a b:d}(ha:0<=a)(cF:a<=b)(hb:b<=8589934592):∃ps,j1X (o,l) a b=J ps/\ps.length<=l.length+1/\
  (∀p∈ps,a<=p.1/\p.1<p.2.1/\p.2.1<=b/\∃i,i<=l.length/\p.2.2=bm o l i/\aX l i<=p.1/\p.2.1<=aX l (i+1))/\∀x,a<=x->x<b->∃p∈ps,p.1<=x/\x<p.2.1:=by
 simp only[j1X];rcases Int.lt_or_le a b with aq|mu
 .obtain⟨k,hk,h1,h2⟩:=tI h ha aa;have:=n_ h hb (l.length+1-k) k a [] aa hk h1 h2 aq ae;rw[jw]at this;rw[this];refine⟨_,rfl,?_,λp hp=>?_,q_ h hb _ k a aa hk h1 h2 aq⟩
  .have:=o_ (o:=o) (l:=l) (l.length+1-k) k a b;omega
  .obtain⟨a1,a2,a3,i,_,i2⟩:=p_ h _ k a aa h1 h2 aq p hp;exact⟨a1,a2,a3,i,i2⟩
 .rw[Cl];simp only[j0B];rw[an aa,j7,aW];exact⟨[],rfl,ae,ae,λx h1 h2=>aa⟩
end
def gJ(f t st:d)(v:d×d):d×Int:=(if st+v.1>f then st+v.1 else f,if st+v.2<t then st+v.2 else t)
theorem Gr{s:d}:∀{w:WL},hasB s w=true↔∃v∈w,v.1<=s/\s<v.2
 |[]=>by simp[hasB]
 |x::r=>by
  simp only[hasB,je];cases hc:cond (decide (x.1<=s)) (decide (s<x.2)) false with
  |true=>
   simp only[j6,true_iff];refine⟨x,G rfl,?_⟩;by_cases h1:x.1<=s
   .rw[ag h1,j6]at hc;exact⟨h1,kr hc⟩
   .rw[an h1,j7]at hc;simp at hc
  |false=>
   simp only[j7];rw[Gr (w:=r)];constructor
   .rintro⟨v,hv,h⟩;exact⟨v,H hv,h⟩
   .rintro⟨v,rfl|hv,h⟩
    .rw[ag h.1,ag h.2]at hc;simp at hc
    .exact⟨v,hv,h⟩
theorem s_{w:WL}(hw:gO 0 w)(hl:w.length<=14){st f t q:d}(aV : -1000000<=st)(dp:st<=8600000000)(a b:d)(ps:O (d×(d×d))):∀(n i:I)(acc:SL),i+n=w.length->acc.length+n<=1000000->
  IK w st a b w (w.length:d) (i:d) f t q acc ps=J (w,st,a,b,f,t,q,acc++(w.drop i).map (gJ f t st),ps)
 |0,i,acc,hi,_=>by
  rw[XM];simp only[j4a];rw[an aa,j7,aW,F aa];simp
 |n+1,i,acc,hi,ha=>by
  have aq:i<w.length:=aa;have bc:w.getD i ((0:d),(0:d))=w[i]:=by simp[aq]
  have hg:=Az hw i aq;rw[bc]at hg;rw[XM,jb aq];simp only[j4a];rw[ag (show (i:d)<(w.length:d) by omega),bE];simp only[j6,j8,bc];rw[ar (x:=(i:d)+1),ar (x:=st+w[i].1),ar (x:=st+w[i].2),ag (by simp[aG];omega),j6,aS];have:=s_ hw hl aV dp a b ps n (i+1) (acc++[gJ f t st w[i]]) aa az (f:=f) (t:=t) (q:=q);rw[jg]at this;exact this
theorem jGK{w:WL}(hw:gO 0 w)(hl:w.length<=14){f t q:d}(hf:0<=f)(ht:t<=8589934592)(ig:f<t)(a b:d)(ps:O (d×(d×d))):∀(m:I)(st:d)(acc:SL), -1000000<=st->t<=st+604800*m->acc.length+14*m<=900000->
  ∃E,IL w st a b f t q acc ps=J (w,a,b,acc++E,ps)/\E.length<=w.length*m/\(∀s∈E,f<=s.1/\s.2<=t/\s.1<=100000000000 /\ -100000000000<=s.2)/\
   ∀x,bJ x E↔f<=x/\x<t/\st<=x/\hasB ((x-st)%604800) w=true:=by
 intro m;induction m with
 |zero=>intro st acc aV hm _;rw[XN];simp only[j4b];rw[an aa,j7,aW];exact⟨[],ae,ae,ae,λx=>⟨λh=>absurd h fU,λh=>aa⟩⟩
 |succ m ih=>
  intro st acc aV hm dJ;rw[XN];simp only[j4b,show B (z w)=(w.length:d) from rfl];by_cases aq:st<t
  .have h4:=s_ hw hl aV aa a b ps w.length 0 acc aa aa (f:=f) (t:=t) (q:=q);rw[show ((0:I):d)=0 from rfl,jk]at h4;rw[ag aq,j6,h4];simp only[j4];rw[ar (x:=st+604800),aS];obtain⟨E,e,h1,h2,h3⟩:=ih (st+604800) (acc++w.map (gJ f t st)) aa aa az;refine⟨w.map (gJ f t st)++E,?_,?_,?_,λx=>?_⟩
   .rw[jg]at e;exact e
   .rw[K,kc,Nat.mul_succ];omega
   .intro s hs;rcases jm.1 hs with hs|hs
    .obtain⟨v,hv,rfl⟩:=jx.1 hs;obtain⟨i,hi,rfl⟩:=qw hv;have hg:=Az hw i hi;rw[show w.getD i (0,0)=w[i] by simp[hi]]at hg;simp only[gJ];refine⟨?_,?_,?_,?_⟩<;>split<;>omega
    .exact h2 s hs
   .rw[xw,h3 x];constructor
    .rintro (⟨s,hs,pD,pV⟩|⟨a1,a2,a3,a4⟩)
     .obtain⟨v,hv,rfl⟩:=jx.1 hs;have gC:=hv;obtain⟨i,hi,rfl⟩:=qw hv;have hg:=Az hw i hi;rw[show w.getD i (0,0)=w[i] by simp[hi]]at hg;simp only[gJ]at pD pV;have b1:f<=x/\st+w[i].1<=x:=by split at pD<;>omega
      have b2:x<t/\x<st+w[i].2:=by split at pV<;>omega
      refine⟨b1.1,b2.1,aa,Gr.2 ⟨w[i],gC,?_,?_⟩⟩<;>omega
     .refine⟨a1,a2,aa,?_⟩;rw[show (x-st)%604800=(x-(st+604800))%604800 by omega];exact a4
    .rintro⟨a1,a2,a3,a4⟩
     by_cases hx:st+604800<=x
     .refine H ⟨a1,a2,hx,?_⟩;rw[show (x-(st+604800))%604800=(x-st)%604800 by omega];exact a4
     .obtain⟨v,hv,c1,c2⟩:=Gr.1 a4;have e1:(x-st)%604800=x-st:=aa;rw[e1]at c1 c2;refine G ⟨gJ f t st v,jx.2 ⟨v,hv,rfl⟩,?_,?_⟩<;>simp only[gJ]<;>split<;>omega
  .rw[an aq,j7,aW];exact⟨[],ae,ae,ae,λx=>⟨λh=>absurd h fU,λh=>aa⟩⟩
theorem t_{w:WL}(hw:gO 0 w)(hl:w.length<=14){ps:O (d×(d×d))}{M:I}(hM:M<=60)(fH:ps.length<=30){lo hi:d}(jA:0<=lo)(jB:hi<=8589934592)
  (ib:∀p∈ps,lo<=p.1/\p.1<p.2.1/\p.2.1<=hi /\ -64800<=p.2.2/\p.2.2<=64800/\p.2.1-p.1<=604800*M):∀(n i:I)(acc:SL),i+n=ps.length->acc.length<=854*i->
  ∃E,IM w (ps.length:d) (i:d) acc ps=J (acc++E)/\E.length<=w.length*(M+1)*n/\(∀s∈E,lo<=s.1/\s.2<=hi/\s.1<=100000000000 /\ -100000000000<=s.2)/\
   ∀x,bJ x E↔∃p∈ps.drop i,p.1<=x/\x<p.2.1/\hasB ((x+p.2.2+259200)%604800) w=true
 |0,i,acc,hi,_=>by
  rw[XO];simp only[j4c];rw[an aa,j7,aW,F aa];exact⟨[],ae,ae,ae,λx=>⟨λh=>absurd h fU,λ⟨p,hp,_⟩=>by simp at hp⟩⟩
 |n+1,i,acc,hi,dJ=>by
  have aq:i<ps.length:=aa;have bc:ps.getD i ((0:d),((0:d),(0:d)))=ps[i]:=by simp[aq]
  obtain⟨p1,p2,p3,p4,p5,p6⟩:=ib ps[i] (jl aq);have u_:w.length*(M+1)<=854:=ko (qm hl (show M+1<=61 by omega)) (by decide);rw[XO,jb aq];simp only[j4c];rw[ag (show (i:d)<(ps.length:d) by omega),bE];simp only[j6,j8,bc];rw[ar (x:=ps[i].1+ps[i].2.2),ar (x:=ps[i].1+ps[i].2.2 - -259200),Aq aa];rw[ar (x:=ps[i].1+ps[i].2.2 - -259200-(ps[i].1+ps[i].2.2 - -259200)%604800)];rw[ar (x:=ps[i].1+ps[i].2.2 - -259200-(ps[i].1+ps[i].2.2 - -259200)%604800 + -259200)];rw[ar (x:=ps[i].1+ps[i].2.2 - -259200-(ps[i].1+ps[i].2.2 - -259200)%604800 + -259200-ps[i].2.2)];generalize aV:ps[i].1+ps[i].2.2 - -259200-(ps[i].1+ps[i].2.2 - -259200)%604800 + -259200-ps[i].2.2=st;obtain⟨E1,e1,l1,b1,m1⟩:=jGK hw hl (f:=ps[i].1) (t:=ps[i].2.1) (q:=ps[i].2.2) aa aa p2 (ps.length:d) (i:d) ps (M+1) st acc aa aa aa;rw[e1];simp only[j4];rw[ar (x:=(i:d)+1),aS];obtain⟨E2,e2,l2,b2,m2⟩:=t_ hw hl hM fH jA jB ib n (i+1) (acc++E1) aa az;refine⟨E1++E2,?_,?_,?_,λx=>?_⟩
  .rw[jg]at e2;exact e2
  .rw[K,Nat.mul_succ];omega
  .intro s hs;rcases jm.1 hs with hs|hs
   .have:=b1 s hs;omega
   .exact b2 s hs
  .rw[xw,m1 x,m2 x];have key:∀x,ps[i].1<=x->(x-st)%604800=(x+ps[i].2.2+259200)%604800/\st<=x:=by intro x hx;omega
   constructor
   .rintro (⟨c1,c2,c3,c4⟩|⟨p,hp,h⟩)
    .exact⟨ps[i],z7 ..,c1,c2,by rw[<-(key x c1).1];exact c4⟩
    .exact⟨p,qi _ hp,h⟩
   .rintro⟨p,hp,c1,c2,c3⟩
    rcases je.1 hp with rfl|hp
    .exact G ⟨c1,c2,(key x c1).2,by rw[(key x c1).1];exact c3⟩
    .exact H ⟨p,hp,c1,c2,c3⟩
theorem jxK{o:d}{l:bh}(h:iF o l)(ix:l.length<=20){w:WL}(hw:gO 0 w)(hl:w.length<=14){M:I}(hM:M<=60){a b:d}(ha:0<=a)(cF:a<=b)(hb:b<=8589934592)(hlen:b-a<=604800*M) :
  ∃out,j6b (o,l) w a b=J out/\bX (a-1) out/\(∀u∈out,a<=u.1/\u.2<=b)/\out.length<=w.length*(M+1)*(l.length+1)/\
   ∀k,k<=l.length->∀x,a<=x->x<b->aX l k<=x->x<aX l (k+1)->(bJ x out↔hasB ((x+bm o l k+259200)%604800) w=true):=by
 obtain⟨ps,e,pl,pm,pc⟩:=r_ h ha cF hb
 obtain⟨E,e1,l1,b1,m1⟩:=t_ hw hl hM (ps:=ps) aa (lo:=a) (hi:=b) ha hb (λp hp=>by
  obtain⟨h1,h2,h3,i,i1,i2,_⟩:=pm p hp;have:=h.of0 i i1;have:=h.of1 i i1;exact⟨h1,h2,h3,aa,aa,aa⟩) ps.length 0 [] aa ae
 rw[show ((0:I):d)=0 from rfl,jw]at e1;have u_:w.length*(M+1)<=854:=ko (qm hl (show M+1<=61 by omega)) (by decide);have v_:E.length<=w.length*(M+1)*(l.length+1):=ko l1 (Nat.mul_le_mul_left _ pl);have hEl2:E.length<=854*21:=ko v_ (qm u_ aa);obtain⟨out,e2,s1,s2,s3,s4⟩:=Gq (l:=E) aa (λs hs=>by have:=b1 s hs;omega) (lo:=a) (hi:=b) (λs hs _=>⟨(b1 s hs).1,(b1 s hs).2.1⟩);refine⟨out,?_,s1,s4,aa,λk hk x pD pV dj fp=>?_⟩
 .simp only[j6b,e,j4,show B (z ps)=(ps.length:d) from rfl,e1,e2]
 .rw[s2 x,m1 x,jk];constructor
  .rintro⟨p,hp,c1,c2,c3⟩
   obtain⟨h1,h2,h3,i,i1,i2,i3,i4⟩:=pm p hp;have:i=k:=KE h i1 hk (t:=x) aa aa dj fp;subst this;rw[<-i2];exact c3
  .intro hx;obtain⟨p,hp,c1,c2⟩:=pc x pD pV;obtain⟨h1,h2,h3,i,i1,i2,i3,i4⟩:=pm p hp;have:i=k:=KE h i1 hk (t:=x) aa aa dj fp;subst this;exact⟨p,hp,c1,c2,by rw[i2];exact hx⟩
theorem AG{o:d}{rs:O aL}(hm:MZ o rs):(cC o (dM (occs rs))).length<=4:=by
 have h1:=KC (dM (occs rs)) o;have h2:(dM (occs rs)).length=(occs rs).length:=by unfold dM;rw[List.length_reverse,CF];simp
 have:=hm.few;omega
theorem jEd{o:d}{rs:O aL}(hm:MZ o rs):(cC o (dM (occs rs))).length<=20:=ko (AG hm) aa
end Go.Proofs.Pw
