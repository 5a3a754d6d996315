/- Dm in lowest ġ. -/
import Derived.Test.YtgfoijaggkhgnaaGreatLXFns
import Derived.Test.YtgfoijaggkhgnaaGreatLXPA
import Derived.Test.YtgfoijaggkhgnaaGreatLXPL
import Derived.Test.YtgfoijaggkhgnaaGreatLXPM
import Derived.Test.YtgfoijaggkhgnaaGreatLXPB
import Derived.Test.YtgfoijaggkhgnaaGreatLXPF
open _root_ renaming Int->A,Nat->B,List->D
open Int renaming ofNat->E,natCast_ediv->H,toNat->Â,natCast_emod->Ã
open Option renaming some->F,none->Ì
open List renaming getD->G,filterMap_nil->I,take_of_length_le->X,filterMap_append->Z,range->Á,range_succ->Æ,length->É
open Nat renaming gcd->J,gcd_pos_of_pos_right->R,gcd_comm->U,strongRecOn->Ä,div_le_self->Å,gcd_rec->È,mod_lt->Ê
open List.Pairwise renaming nil->O
open Decidable renaming decide->Y
open List.Perm renaming refl->À,eq_of_pairwise->Ç,swap->Í
open Go Go.Lft
namespace Go.Proofs.Pw
theorem jyM:∀(k m:B),KA (m:A) (k:A)=F ((J m k:B):A):=by
 intro k;induction k using Ä with
 |_ k ih=>
  intro m;rw[jrg];by_cases hk:k=0
  .subst hk;simp[j7R,lpK]
  .have h0:((k:A)==0)=false:=cj aa;have h1:((k:A) != 0)=true:=by simp[bne,h0]
   simp only[j7R,h0,h1,j6,ka,aH];rw[uJ aa,<-Ã,ih (m%k) (Ê _ aa) k];congr 2;rw[U k,<-È,U]
theorem jug:∀(k m:B),JH (m:A) (k:A)=F ((J m k:B):A):=by
 intro k;induction k using Ä with
 |_ k ih=>
  intro m;rw[jo5];by_cases hk:k=0
  .subst hk;simp[j5H,lpK]
  .have h0:((k:A)==0)=false:=cj aa;have h1:((k:A) != 0)=true:=by simp[bne,h0]
   simp only[j5H,h0,h1,j6,ka,aH];rw[uJ aa,<-Ã,ih (m%k) (Ê _ aa) k];congr 2;rw[U k,<-È,U]
def rN(n d:B):Nat:=n/J n d
def rD(n d:B):Nat:=d/J n d
theorem Ģ(n d:B):rN n d<=n:=Å _ _
theorem ģ(n d:B):rD n d<=d:=Å _ _
theorem eA(n d:B)(hn:n<=4611686018427387904)(hd:0<d)(gV:d<=4611686018427387904):jof (n:A) (d:A)=F ((((rN n d:B):A),((rD n d:B):A)),0):=by
 have hg:0<J n d:=R n hd;have h1:=Ģ n d;have h2:=ģ n d;simp only[jof,jAm,jrf,jv0];rw[ah (show (n:A) >= -4611686018427387904 by omega),ah (show (n:A)<=4611686018427387904 by omega),aj (show¬(d:A)<1 by omega),aj (show¬(d:A)>4611686018427387904 by omega),aj (show¬(n:A)<0 by omega)];simp only[j6,j7,j4,jl,jyM];rw[cj (show ((J n d:B):A)≠0 by omega),pj aa,pj aa,<-H,<-H];simp only[ka,j6];show F ((w64 ((rN n d:B):A),w64 ((rD n d:B):A)),(0:A))=_;rw[al,al]
theorem cP(n d:B)(hn:n<=4611686018427387904)(hd:0<d)(gV:d<=4611686018427387904):jfm (n:A) (d:A)=F ((((rN n d:B):A),((rD n d:B):A)),0):=by
 have hg:0<J n d:=R n hd;have h1:=Ģ n d;have h2:=ģ n d;simp only[jfm,jhB,jlR,jo6];rw[ah (show (n:A) >= -4611686018427387904 by omega),ah (show (n:A)<=4611686018427387904 by omega),aj (show¬(d:A)<1 by omega),aj (show¬(d:A)>4611686018427387904 by omega),aj (show¬(n:A)<0 by omega)];simp only[j6,j7,j4,jl,jug];rw[cj (show ((J n d:B):A)≠0 by omega),pj aa,pj aa,<-H,<-H];simp only[ka,j6];show F ((w64 ((rN n d:B):A),w64 ((rD n d:B):A)),(0:A))=_;rw[al,al]
abbrev bB:=A×(A×A)
abbrev nN:=D (A×bB)
def dN(p:A):bE->A
 |[]=>0
 |s::r=>(if s.2.2=p then s.2.1-s.1 else 0)+dN p r
theorem Ĥ(p:A):∀(l r:bE),dN p (l++r)=dN p l+dN p r
 |[],r=>by simp[dN]
 |s::l,r=>by simp only[z7,dN,Ĥ p l r];omega
theorem Ch.tot_le{f:A->A}{b p:A}:∀{l:bE}{a:A},Ch f b a l->0<=dN p l/\dN p l<=b-a
 |[],a,h=>by have h:a=b:=h;simp[dN];omega
 |s::r,a,h=>by
  obtain⟨h1,h2,h3,h4⟩:=h;have:=h4.tot_le (p:=p);simp only[dN];split<;>omega
structure BD(m:nN)(np:B)(n:B):Prop where
 len:m.length<=n
 key:∀x∈m,0<=x.1/\x.1<(np:A)/\x.2.1=x.1
theorem ĥ{β:Type}{m:D (A×β)}{k:A}{v:β}:∀{x:A×β},x∈eD m k v->x∈m\/x=(k,v):=by
 induction m with
 |nil=>intro x hx;simp[eD]at hx;exact .inr hx
 |cons y r ih=>
  intro x hx;simp only[eD]at hx;by_cases h:k=y.1
  .rw[dC h,j6]at hx;rcases je.1 hx with rfl|hx
   .exact .inr (by rw[h])
   .exact .inl (by simp[hx])
  .rw[cj h,j7]at hx;rcases je.1 hx with rfl|hx
   .exact .inl ae
   .exact(ih hx).imp (λh=>by simp[h]) id
theorem Ħ{β:Type}{m:D (A×β)}{k:A}{v:β}:(eD m k v).length<=m.length+1:=by
 induction m with
 |nil=>simp[eD]
 |cons y r ih=>
  simp only[eD];cases k==y.1 with
  |true=>simp
  |false=>simp only[j7,jk];omega
def iJ:bB:=((0:A),((0:A),(0:A)))
theorem ħ{m:nN}{k:A}(h:ej m k=false):di iJ m k=iJ:=by
 induction m with
 |nil=>rfl
 |cons y r ih=>have:ej (y::r) k=(k==y.1||ej r k):=rfl;rw[this,yh]at h;show cond (k==y.1) y.2 (di iJ r k)=_;rw[h.1];exact ih h.2
theorem Uq{m:nN}{k:A}:ej m k=true↔k∈m.map (λx=>x.1):=by
 unfold ej;rw[zj,jr];constructor
 .rintro⟨x,hx,h⟩
  exact⟨x,hx,(by simpa using h:k=x.1).symm⟩
 .rintro⟨x,hx,h⟩
  exact⟨x,hx,by simp[h]⟩
theorem insI_perm(x:A):∀l:D A,(insI x l).Perm (x::l)
 |[]=>À _
 |y::ys=>by
  unfold insI;cases Y (x<=y) with
  |true=>exact À _
  |false=>exact((insI_perm x ys).cons y).trans (Í x y ys)
theorem isortI_perm:∀l:D A,(ow l).Perm l
 |[]=>À _
 |x::xs=>(insI_perm x _).trans ((isortI_perm xs).cons x)
theorem Ĩ{m:nN}{ks:D A}(hl:ks.length<=1000000):∀(n i:B)(acc:D bB),i+n=ks.length->acc.length=i->
  Gg (ks.length:A) (i:A) m acc ks=F (m,acc++(ks.drop i).map λk=>di iJ m k)
 |0,i,acc,hi,ha=>by
  rw[Zu];simp only[j4B];rw[aj aa,j7,aS,jc aa];simp
 |n+1,i,acc,hi,ha=>by
  have an:i<ks.length:=aa;have aR:ks.getD i (0:A)=ks[i]:=by simp[G,an]
  have ih:=Ĩ (m:=m) hl n (i+1) (acc++[di iJ m ks[i]]) aa ax;rw[Zu];simp only[j4B,kf];rw[ah (show (i:A)<(ks.length:A) by omega),bD,al (x:=(i:A)+1),ah (by simp[aM];omega),jb an];simp only[j6,j8,aR,aH];rw[jj]at ih;exact ih
theorem ĩ{m:nN}{np n:B}(hm:BD m np n)(hn:n<=100000)(nB:np<=1000):jaN m=F ((lh m).map (λk=>di iJ m k),m):=by
 have hlen:(lh m).length=m.length:=by have:=(isortI_perm (m.map λx=>x.1)).length_eq;simpa[lh]using this
 have zX:=hm.len;have hk:Dt m=true:=by unfold Dt;simp only[jd,jz,jo];refine⟨Nat.ble_eq_true_of_le aa,λx hx=>?_⟩;have:=hm.key x hx;omega
 have lp:=Ĩ (m:=m) (ks:=lh m) aa (lh m).length 0 [] aa rfl;rw[jm,jw]at lp;simp only[jaN,hk,j6];rw[show Gg (E (lh m).length) 0 m [] (lh m)=_ from lp];rfl
def wgt(p:A):D bB->A
 |[]=>0
 |x::r=>if x.1=p then x.2.2 else wgt p r
theorem Ī{l:D bB}(hl:l.length<=1000000){p:A}:∀(n i:B),i+n=l.length->((Kz l p (i:A)).bind λq0=>sumC q0 (λa=>F a) (λ_=>F (0:A)))=F (wgt p (l.drop i))
 |0,i,hi=>by
  rw[_n];simp only[j46,show E l.length=(l.length:A) from rfl];rw[aj aa,j7,aS,jc aa];rfl
 |n+1,i,hi=>by
  have an:i<l.length:=aa;have aR:l.getD i ((0:A),((0:A),(0:A)))=l[i]:=by simp[G,an]
  rw[_n];simp only[j46,show E l.length=(l.length:A) from rfl];rw[ah aa,bD,al (x:=(i:A)+1),jb an];simp only[j6,j8,aR,wgt];by_cases h:l[i].1=p
  .rw[dC h,if_pos h];rfl
  .rw[cj h,if_neg h,j7,aH];exact Ī hl n (i+1) aa
theorem Dn{l:D bB}(hl:l.length<=1000000){p:A}:j5i l p=F (wgt p l):=Ī hl l.length 0 aa
section
variable{zs:D bF}{ps:D cR}{cs:D aV}(hs:db zs ps cs)
include hs
end
def rm(np:B)(u v:A->A):D bB:=(Á np).filterMap λ(p:B)=>if 0<u p then F ((p:A),(u p,v p)) else Ì
def yJ(np:B)(u:A->A):D Int:=(Á np).filterMap λ(p:B)=>if 0<u p then F (p:A) else Ì
theorem LI{np:B}{u:A->A}{k:A}:k∈yJ np u↔0<=k/\k<(np:A)/\0<u k:=by
 unfold yJ;rw[v8];constructor
 .rintro⟨p,hp,h⟩
  have:=List.mem_range.1 hp;split at h
  .rename_i hu;simp only[j5]at h;subst h;exact⟨aa,aa,hu⟩
  .simp at h
 .rintro⟨h0,h1,hu⟩
  refine⟨k.toNat,List.mem_range.2 aa,?_⟩;rw[show ((k.toNat:B):A)=k by omega,if_pos hu]
theorem Ur(u:A->A):∀np,(yJ np u).Pairwise (· < ·)
 |0=>O
 |n+1=>by
  unfold yJ;rw[Æ,Z];refine zk.2 ⟨Ur u n,?_,λx hx y hy=>?_⟩
  .simp only[qn,I];split
   .exact O
   .exact yu _ _
  .have h1:=(LI (np:=n) (u:=u)).1 hx;simp only[qn,I]at hy;split at hy
   .simp at hy
   .rename_i z hz;simp only[kp]at hy;subst hy;split at hz
    .simp only[j5]at hz;subst hz;exact h1.2.1
    .simp at hz
theorem Us(np:B)(u v:A->A):rm np u v=(yJ np u).map λk=>(k,(u k,v k)):=by
 unfold rm yJ;rw[List.map_filterMap];congr 1;funext p;split<;>rfl
theorem ī(x:A):∀l:D A,l.Pairwise (· <= ·)->(insI x l).Pairwise (· <= ·)
 |[],_=>yu _ _
 |y::ys,h=>by
  have hc:=kb.1 h;unfold insI;cases hd:Y (x<=y) with
  |true=>
   have hd:=q7 hd;refine kb.2 ⟨λz hz=>?_,h⟩;rcases je.1 hz with rfl|hz
   .exact hd
   .have:=hc.1 z hz;omega
  |false=>
   have hd:=of_decide_eq_false hd;refine kb.2 ⟨λz hz=>?_,ī x ys hc.2⟩;rcases je.1 ((insI_perm x ys).mem_iff.1 hz) with rfl|hz
   .omega
   .exact hc.1 z hz
theorem Ĭ:∀l:D A,(ow l).Pairwise (· <= ·)
 |[]=>O
 |x::xs=>ī x _ (Ĭ xs)
theorem LJ{ks L:D A}(hn:ks.Nodup)(hL:L.Pairwise (· < ·))(hm:∀k,k∈ks↔k∈L):ow ks=L:=by
 have hp:(ow ks).Perm L:=(isortI_perm ks).trans ((List.perm_ext_iff_of_nodup hn (hL.imp (λh=>aa))).2 hm);exact Ç (le:=(· <= ·)) (λa b _ _ h1 h2=>Int.le_antisymm h1 h2) (Ĭ ks) (hL.imp (λh=>aa)) hp
structure BE(m:nN)(np n:B)(u v:A->A):Prop where
 ok:BD m np n
 nd:(m.map λx=>x.1).Nodup
 has:∀p,0<=p->p<(np:A)->(ej m p=true↔0<u p)
 get:∀p,0<=p->p<(np:A)->ej m p=true->di iJ m p=(p,(u p,v p))
theorem ĭ{β:Type}{m:D (A×β)}{k:A}{v:β}(h:(m.map λx=>x.1).Nodup):((eD m k v).map λx=>x.1).Nodup/\∀q,q∈(eD m k v).map (λx=>x.1)->q=k\/q∈m.map (λx=>x.1):=by
 induction m with
 |nil=>simp[eD]
 |cons y r ih=>
  simp only[eD];have hc:=qh.1 (show (y.1::r.map λx=>x.1).Nodup from h);by_cases hk:k=y.1
  .rw[dC hk,j6];refine⟨?_,λq hq=>?_⟩
   .show (k::r.map λx=>x.1).Nodup;rw[hk];exact h
   .rw[ke,hk]at hq;exact .inr (by rw[ke];exact hq)
  .rw[cj hk,j7];obtain⟨i1,i2⟩:=ih hc.2;refine⟨?_,λq hq=>?_⟩
   .show (y.1::(eD r k v).map λx=>x.1).Nodup;refine qh.2 ⟨λhy=>?_,i1⟩;rcases i2 _ hy with h|h
    .exact hk h.symm
    .exact hc.1 h
   .rcases je.1 (show q∈y.1::(eD r k v).map (λx=>x.1) from hq) with rfl|hq
    .exact .inr ae
    .exact(i2 q hq).imp id (λh=>by
      rw[ke];exact qt _ h)
theorem juj{m:nN}{np n:B}{u v:A->A}(h:BE m np n u v)(hn:n<=100000)(nB:np<=1000):jaN m=F (rm np u v,m):=by
 rw[ĩ h.ok hn nB]
 have hk:lh m=yJ np u:=by
  unfold lh;refine LJ h.nd (Ur u np) λk=>?_;rw[<-Uq,LI];constructor
  .intro hh;obtain⟨x,hx,rfl⟩:=jr.1 (Uq.1 hh);have:=h.ok.key x hx;exact⟨this.1,this.2.1,(h.has _ this.1 this.2.1).1 hh⟩
  .rintro⟨h0,h1,hu⟩
   exact(h.has k h0 h1).2 hu
 rw[hk,Us];congr 2;refine zu λk hk=>?_;obtain⟨h0,h1,hu⟩:=LI.1 hk;exact h.get k h0 h1 ((h.has k h0 h1).2 hu)
theorem Į{l:D bB}(hl:l.length<=1000):∀n i:B,i+n=l.length->GL l l (l.length:A) (i:A)=F (.inr ())
 |0,i,hi=>by
  rw[_g];simp only[j5h];rw[aj aa,j7,aS]
 |n+1,i,hi=>by
  rw[_g];simp only[j5h];rw[ah aa,bD,al (x:=(i:A)+1)];simp only[j6,kq,vb,jl,j7,aH];exact Į hl n (i+1) aa
theorem į{l:D bB}(hl:l.length<=1000):jfC l l=F true:=by
 simp only[jfC,jh,j7];rw[show GL l l (E l.length) 0=_ from Į hl l.length 0 aa];simp only[j4,oc]
theorem jyO{a b:D bB}(ha:a.length<=1000)(hb:b.length<=1000):j1Q [a,b]=F (a++b):=by
 have w1:w64 (0+(a.length:A))=(a.length:A):=by rw[al];omega
 have w2:w64 ((a.length:A)+(b.length:A))=(a.length:A)+(b.length:A):=al;have l0:GM [a,b] 0 [a,b] 2 0=F ([a,b],(a.length:A)+(b.length:A)):=by rw[Py];simp only[j0m,show G [a,b] (Â 0) []=a from rfl,show E a.length=(a.length:A) from rfl,w1];rw[ah (show (0:A)<2 by omega),bY (show (0:A)<=0 by omega) (show (0:A)<(([a,b].length:B):A) by simp),aj (show¬(a.length:A)<0 by omega),al (x:=(0:A)+1)];simp only[j6,j7,aH];rw[Py];simp only[j0m,show G [a,b] (Â (0+1)) []=b from rfl,show E b.length=(b.length:A) from rfl,w2];rw[ah (show (0:A)+1<2 by omega),bY (show (0:A)<=0+1 by omega) (show (0:A)+1<(([a,b].length:B):A) by simp),aj (show¬(a.length:A)+(b.length:A)<0 by omega),al (x:=(0:A)+1+1)];simp only[j6,j7,aH];rw[Py];simp only[j0m];rw[aj (show¬(0:A)+1+1<2 by omega),j7,aS]
 have l2:GN [a,b] 2 0 []=F (a++b):=by rw[Pz];simp only[j0n,show G [a,b] (Â 0) []=a from rfl,kx,jw];rw[ah (show (0:A)<2 by omega),bY (show (0:A)<=0 by omega) (show (0:A)<(([a,b].length:B):A) by simp),ah (show 0+a.length<=aM by simp[aM];omega),al (x:=(0:A)+1)];simp only[j6,aH];rw[Pz];simp only[j0n,show G [a,b] (Â (0+1)) []=b from rfl];rw[ah (show (0:A)+1<2 by omega),bY (show (0:A)<=0+1 by omega) (show (0:A)+1<(([a,b].length:B):A) by simp),ah (show a.length+b.length<=aM by simp[aM];omega),al (x:=(0:A)+1+1)];simp only[j6,aH];rw[Pz];simp only[j0n];rw[aj (show¬(0:A)+1+1<2 by omega),j7,aS]
 simp only[j1Q,jk,kx];rw[show GM [a,b] 0 [a,b] (E (0+1+1)) 0=_ from l0];simp only[j4];rw[ah (show (0:A)<=(a.length:A)+(b.length:A) by omega),ah (show (a.length:A)+(b.length:A)<=1000000 by omega)];simp only[vb,j6];rw[show GN [a,b] (E [a,b].length) 0 []=_ from l2];rfl
def bz(p:A):D bB->A
 |[]=>0
 |x::r=>(if x.1=p then x.2.1 else 0)+bz p r
def bH(p:A):D bB->A
 |[]=>0
 |x::r=>(if x.1=p then x.2.2 else 0)+bH p r
theorem wK(p:A):∀(a b:D bB),bz p (a++b)=bz p a+bz p b
 |[],b=>by simp[bz]
 |x::a,b=>by simp only[z7,bz,wK p a b];omega
theorem yK(p:A):∀(a b:D bB),bH p (a++b)=bH p a+bH p b
 |[],b=>by simp[bH]
 |x::a,b=>by simp only[z7,bH,yK p a b];omega
structure UV(np:B)(u v:A->A):Prop where
 u0:∀p,0<=u p
 u1:∀p,u p<=4294967296
 v0:∀p,u p<=v p
 v1:∀p,v p<=8*u p
theorem jBB(np:B)(u v:A->A):(rm np u v).length<=np:=by
 have:=List.length_filterMap_le (λ(p:B)=>if 0<u p then F ((p:A),(u p,v p)) else Ì) (Á np);simpa[rm]using this
theorem jDk(np:B)(u v:A->A):(rm np u v).Pairwise λx y=>x.1<y.1:=by
 rw[Us,vf];exact Ur u np
theorem İ{u v:A->A}(p:A):∀np,bz p (rm np u v)=(if 0<=p/\p<(np:A)/\0<u p then u p else 0)/\bH p (rm np u v)=(if 0<=p/\p<(np:A)/\0<u p then v p else 0)
 |0=>by
  rw[if_neg aa,if_neg aa];exact⟨rfl,rfl⟩
 |n+1=>by
  obtain⟨i1,i2⟩:=İ (u:=u) (v:=v) p n
  have e:rm (n+1) u v=rm n u v++(if 0<u n then [((n:A),(u n,v n))] else []):=by
   unfold rm;rw[Æ,Z];congr 1;simp only[qn,I];split
   .rename_i hq;split at hq
    .simp at hq
    .rename_i h;rw[if_neg h]
   .rename_i z hq;split at hq
    .rename_i h;simp only[j5]at hq;subst hq;rw[if_pos h]
    .simp at hq
  rw[e,wK,yK,i1,i2];by_cases hp:p=(n:A)
  .subst hp;rw[if_neg (show¬(0<=(n:A)/\(n:A)<(n:A)/\0<u n) fromλh=>aa),if_neg (show¬(0<=(n:A)/\(n:A)<(n:A)/\0<u n) fromλh=>aa)];by_cases hu:0<u (n:A)
   .rw[if_pos hu,if_pos ⟨aa,aa,hu⟩,if_pos ⟨aa,aa,hu⟩];simp[bz,bH]
   .rw[if_neg hu,if_neg aa,if_neg aa];simp[bz,bH]
  .have e2:bz p (if 0<u (n:A) then [((n:A),(u n,v n))] else [])=0/\bH p (if 0<u (n:A) then [((n:A),(u n,v n))] else [])=0:=by
    split
    .simp only[bz,bH,if_neg (λh:(n:A)=p=>hp h.symm)];exact⟨rfl,rfl⟩
    .exact⟨rfl,rfl⟩
   rw[e2.1,e2.2,ze,ze];constructor
   .by_cases hq:0<=p/\p<(n:A)/\0<u p
    .rw[if_pos hq,if_pos ⟨hq.1,aa,hq.2.2⟩]
    .rw[if_neg hq,if_neg (λh=>hq ⟨h.1,aa,h.2.2⟩)]
   .by_cases hq:0<=p/\p<(n:A)/\0<u p
    .rw[if_pos hq,if_pos ⟨hq.1,aa,hq.2.2⟩]
    .rw[if_neg hq,if_neg (λh=>hq ⟨h.1,aa,h.2.2⟩)]
def iQ(o:A)(l:bC)(w:WL)(x:A):Bool:=(Á (l.length+1)).any λk=>Y (aT l k<=x)&&(Y (x<aT l (k+1))&&hasB ((x+bk o l k+259200)%604800) w)
theorem Ut{o:A}{l:bC}(h:iz o l){w:WL}{x:A}{k:B}(hk:k<=l.length)(h0:aT l k<=x)(h1:x<aT l (k+1)):iQ o l w x=hasB ((x+bk o l k+259200)%604800) w:=by
 rw[ya];unfold iQ;rw[zj];constructor
 .rintro⟨j,hj,hp⟩
  simp only[jd,jo]at hp;have:=List.mem_range.1 hj;have:j=k:=Hw h aa hk hp.1 hp.2.1 h0 h1;subst this;exact hp.2.2
 .intro hp;exact⟨k,List.mem_range.2 aa,by simp only[jd,jo];exact⟨h0,h1,hp⟩⟩
theorem ı{l:SL}{p:A}(h:iB p l)(hp:0<=p)(hl:l.length<=1000000)(hb:∀u∈l,u.2<=8589934592):∀(n i:B)(s:A),i+n=l.length->0<=s->s+jC (l.drop i)<=1000000000000->(∀u∈l,0<=u.1/\u.1<u.2)->
  Gf s l (l.length:A) (i:A)=F (s+jC (l.drop i))
 |0,i,s,hi,_,_,_=>by
  rw[Zt];simp only[j4A];rw[aj aa,j7,aS,jc aa];simp[jC]
 |n+1,i,s,hi,hs,nf,hu=>by
  have an:i<l.length:=aa;have aR:l.getD i ((0:A),(0:A))=l[i]:=by simp[an]
  have hui:=hu _ (jg an);have hbi:=hb _ (jg an);obtain⟨q,hq⟩:=ğ h (i+1);have bK:=Ğ hq;rw[jb an]at nf ⊢;simp only[jC]at nf ⊢;rw[Zt];simp only[j4A];rw[ah (show (i:A)<(l.length:A) by omega),bD];simp only[j6,j8,aR];rw[al (x:=(i:A)+1),al (x:=l[i].2-l[i].1),al (x:=s+(l[i].2-l[i].1)),aH];have:=ı h hp hl hb n (i+1) (s+(l[i].2-l[i].1)) aa aa aa hu;rw[show s+(l[i].2-l[i].1+jC (l.drop (i+1)))=s+(l[i].2-l[i].1)+jC (l.drop (i+1)) by omega];exact this
theorem Ĳ{l:SL}:∀{p:A},ca p l->∀u∈l,p<u.1/\u.1<u.2:=by
 induction l with
 |nil=>intro p _ u hu;simp at hu
 |cons x r ih=>
  intro p h u hu;rcases je.1 hu with rfl|hu
  .exact⟨h.1,h.2.1⟩
  .have:=ih h.2.2 u hu;have:=h.1;have:=h.2.1;omega
theorem ĳ{f:A->A}{a b:A}(ha:0<=a)(hb:b<=8589934592){S:bE}(hS:fy f b Ì a S)(hl:S.length<=16384)(v:A) :
  ∃out,j8K S v=F out/\ca (a-1) out/\(∀x,bJ x out↔a<=x/\x<b/\f x=v)/\out.length<=16384/\∀u∈out,a<=u.1/\u.2<=b:=by
 have eP:(rk v S).length<=16384:=by unfold rk;rw[kj];have:=vv (λs:kK=>s.2.2==v) S;omega
 have tl:=Up (v:=v) (S:=S) aa S.length 0 [] aa ae;rw[jw,jm]at tl
 have Uu:∀u∈rk v S,a<=u.1/\u.2<=b/\u.1<u.2:=λu hu=>by
  obtain⟨s,hm,rfl⟩:=jr.1 hu;have hm:=(zf.1 hm).1;have hc:=hS.ch.mem _ hm;exact⟨hc.1,hc.2.2.1,hS.pos _ hm⟩
 obtain⟨out,e3,h1,h2,h3,h4⟩:=HM (l:=rk v S) aa (λu hu=>by have:=Uu u hu;omega) (lo:=a) (hi:=b) (λu hu _=>⟨(Uu u hu).1,(Uu u hu).2.1⟩);refine⟨out,?_,h1,λx=>(h2 x).trans (jHu hS),aa,h4⟩;simp only[j8K];rw[show Ge v S (E S.length) 0 []=_ from tl];simp only[j4,e3]
theorem jG2{f:A->A}{a:A}{N:B}(ha:0<=a)(hb:a+N<=8589934592)(hN:N<=604800*60){S:bE}(hS:fy f (a+N) Ì a S)(hl:S.length<=16384){v:A}{T:SL}(hT:j8K S v=F T)
  {o:A}{l:bC}(h:iz o l)(fw:l.length<=20){w:WL}{W:SL}(hw:eN 0 w)(iG:w.length<=14)(hW:j2j (o,l) w a (a+N)=F W) :
  ∃C,j9f T W=F C/\jg9 C=F (cm (λx=>Y (f x=v)&&iQ o l w x) a N):=by
 obtain⟨T',e1,t1,t2,t3,t4⟩:=ĳ ha hb hS hl v;rw[hT]at e1;cases e1;obtain⟨W',e2,w1,w2,w3,w4⟩:=HN h fw hw iG (M:=60) aa ha (show a<=a+N by omega) hb aa;rw[hW]at e2;cases e2;have hWl:W.length<=14*61*21:=kr w3 (qi (qi iG aa) aa);obtain⟨C,e3,c1,c2,c3⟩:=ξ t1 w1 aa aa
 have gC:∀x,bJ x C↔a<=x/\x<a+N/\f x=v/\iQ o l w x=true:=by
  intro x;rw[c2 x,t2 x];constructor
  .rintro⟨⟨q1,q2,q3⟩,q4⟩
   obtain⟨k,hk,k1,k2⟩:=pX h (t:=x) aa aa;exact⟨q1,q2,q3,by rw[Ut h hk k1 k2];exact(w4 k hk x q1 q2 k1 k2).1 q4⟩
  .rintro⟨q1,q2,q3,q4⟩
   obtain⟨k,hk,k1,k2⟩:=pX h (t:=x) aa aa;rw[Ut h hk k1 k2]at q4;exact⟨⟨q1,q2,q3⟩,(w4 k hk x q1 q2 k1 k2).2 q4⟩
 have ez:=Ĳ c1
 have DM:∀u∈C,u.2<=a+N:=λu hu=>by
  have hm:=ez u hu;have:=(gC (u.2-1)).1 ⟨u,hu,aa,aa⟩;omega
 have BF:=c1.ino;rw[show a-1+1=a by omega]at BF;have HZ:jC C=cm (λx=>Y (f x=v)&&iQ o l w x) a N:=by rw[ĝ BF DM];refine Dl λx x1 x2=>?_;rw[ya,jd,decide_eq_true_iff,Bu];have:=gC x;unfold bJ at this;rw[this];exact⟨λh=>h.2.2,λh=>⟨x1,x2,h⟩⟩
 have hr:=Un (λx=>Y (f x=v)&&iQ o l w x) a N;have lp:=ı BF ha aa (λu hu=>by have:=DM u hu;omega) C.length 0 0 aa aa (by rw[jm,HZ];omega) (λu hu=>by have:=ez u hu;omega);refine⟨C,e3,?_⟩;simp only[jg9];rw[show Gf 0 C (E C.length) 0=_ from lp,jm,Int.zero_add,HZ];rfl
abbrev iR:=D ((A×A)×A)
structure H0(ws:iR):Prop where
 w:eN 0 (ws.map λy=>y.1)
 l:ws.length<=14
 g:∀y∈ws,1<=y.2/\y.2<=8
theorem Ĵ{L:D A}{w:WL}(hw:w.length<=4):∀(n i:B)(a:A)(acc:iR),i+n=w.length->c9 L a->acc.map (λy=>y.1)=w.take i->(∀y∈acc,1<=y.2/\y.2<=4)->
  ∃a' out,FG (i:A) L a acc w=F (L,a',out)/\out.map (λy=>y.1)=w/\(∀y∈out,1<=y.2/\y.2<=4)/\c9 L a'
 |0,i,a,acc,hi,hd,h1,h2=>by
  refine⟨a,acc,?_,by rw[h1,X aa],h2,hd⟩;rw[YE];simp only[j23,show E w.length=(w.length:A) from rfl];rw[aj aa,j7,aS]
 |n+1,i,a,acc,hi,hd,h1,h2=>by
  have an:i<w.length:=aa;have aR:w.getD i ((0:A),(0:A))=w[i]:=by simp[G,an]
  have nt:acc.length=i:=by have:=js É h1;simpa[Nat.min_eq_left (Nat.le_of_lt an)]using this
  obtain⟨x,a1,e,x0,x1,d1⟩:=dh (n:=4) hd aa aa;rw[YE];simp only[j23,show E w.length=(w.length:A) from rfl,e,j4,kf];rw[ah (show (i:A)<(w.length:A) by omega),bD,al (x:=1+x),al (x:=(i:A)+1),ah (show acc.length+1<=aM by simp[aM];omega)];simp only[j6,j8,aR,aH]
  exact Ĵ hw n (i+1) a1 (acc++[((w[i].1,w[i].2),1+x)]) aa d1 (by rw[qc,h1,qj an];rfl) (λy hy=>by
   rcases jn.1 hy with h|h
   .exact h2 y h
   .simp only[kp]at h;subst h;exact⟨by show 1<=1+x;omega,by show 1+x<=4;omega⟩)
theorem jyP{L:D A}{a:A}(h:c9 L a):∃ws a',j85 L a=F (ws,L,a')/\H0 ws/\c9 L a':=by
 obtain⟨w,a1,e,h1,h2,d1⟩:=Ll h;obtain⟨a',out,e2,q1,q2,d2⟩:=Ĵ (w:=w) aa w.length 0 a1 [] aa d1 ae ae;refine⟨out,a',?_,⟨by rw[q1];exact h1,?_,λy hy=>by have:=q2 y hy;omega⟩,d2⟩
 .simp only[j85,e,j4];rw[show FG 0 L a1 [] w=_ from e2];rfl
 .have:=js É q1;simp only[kj]at this;omega
theorem ĵ{ws:iR}(hl:ws.length<=100):∀(n i:B)(acc:WL),i+n=ws.length->acc.length=i->FH ws (ws.length:A) (i:A) acc=F (acc++(ws.drop i).map λy=>y.1)
 |0,i,acc,hi,ha=>by
  rw[YF];simp only[j3X];rw[aj aa,j7,aS,jc aa];simp
 |n+1,i,acc,hi,ha=>by
  have an:i<ws.length:=aa;have aR:ws.getD i (((0:A),(0:A)),(0:A))=ws[i]:=by simp[G,an]
  have ih:=ĵ hl n (i+1) (acc++[ws[i].1]) aa ax;rw[YF];simp only[j3X,kf];rw[ah (show (i:A)<(ws.length:A) by omega),bD,al (x:=(i:A)+1),ah (show acc.length+1<=aM by simp[aM];omega),jb an];simp only[j6,j8,aR,aH];rw[jj]at ih;exact ih
noncomputable def jE(f:A->A)(o:A)(l:bC)(a:A)(N:B)(p:A):iR->A
 |[]=>0
 |y::r=>(y.2-1)*cm (λx=>Y (f x=p)&&iQ o l [y.1] x) a N+jE f o l a N p r
section
variable{zs:D bF}{ps:D cR}{cs:D aV}(hs:db zs ps cs)
include hs
end
theorem Ķ{p:A}:∀{S:bE},(∀s∈S,s.1<s.2.1)->0<=dN p S
 |[],_=>k7 _
 |s::r,h=>by
  have:=Ķ (p:=p) (S:=r) (λx hx=>h x (by simp[hx]));have:=h s ae;simp only[dN];split<;>omega
theorem Uv{np:B}{f:A->A}{u:A}(hu:u<=8589934592){S:bE}(hl:S.length<=100000)(bK:∀s∈S,s.1<s.2.1){a1 a2:A}{ws:iR}{o:A}{tl:bC}(hp:∀s∈S,s.2.2<(np:A)) :
  ∀(n i:B)(m:nN)(x:A),i+n=S.length->0<=x->Ch f u x (S.drop i)->BE m np i (λp=>dN p (S.take i)) (λp=>dN p (S.take i))->(∀p,0<=p->dN p (S.take i)<=x)->
  ∃m',Gj a1 a2 ws (S.length:A) (i:A) o tl S m=F (a1,a2,ws,o,tl,S,m')/\BE m' np S.length (λp=>dN p S) (λp=>dN p S)
 |0,i,m,x,hi,vF,hc,hm,hb=>by
  refine⟨m,?_,?_⟩
  .rw[Zv];simp only[j51];rw[aj aa,j7,aS]
  .rw[X aa,show i=S.length by omega]at hm;exact hm
 |n+1,i,m,x,hi,vF,hc,hm,hb=>by
  have an:i<S.length:=aa;have aR:S.getD i ((0:A),((0:A),(0:A)))=S[i]:=by simp[G,an]
  have gW:=hp _ (jg an);have Ax:=bK _ (jg an);rw[jb an]at hc;obtain⟨h1,h2,h3,h4⟩:=hc;have hle:=h4.le
  have lJ:∀p,dN p (S.take (i+1))=dN p (S.take i)+(if S[i].2.2=p then S[i].2.1-S[i].1 else 0):=λp=>by
   rw[qj an,Ĥ];simp only[dN];omega
  have Uw:=λp=>Ķ (p:=p) (S:=S.take i) (λs hs=>bK s (qb hs));rw[Zv];simp only[j51];rw[ah (show (i:A)<(S.length:A) by omega),bD,al (x:=(i:A)+1)];simp only[j6,j8,aR];generalize S[i]=s at *;by_cases gQ:s.2.2>=0
  .rw[ah gQ];have fc:=hb s.2.2 gQ;have ib:=Uw s.2.2
   have Ef:(di iJ m s.2.2).2.1=dN s.2.2 (S.take i):=by
    cases hh:ej m s.2.2 with
    |true=>rw[hm.get _ gQ gW hh]
    |false=>
     have hn:¬0<dN s.2.2 (S.take i):=λhq=>by
      have:=(hm.has _ gQ gW).2 hq;rw[hh]at this;simp at this
     rw[ħ hh];show (0:A)=_;omega
   rw[show (di ((0:A),((0:A),(0:A))) m s.2.2)=di iJ m s.2.2 from rfl,Ef,al (x:=dN s.2.2 (S.take i)+s.2.1),al (x:=dN s.2.2 (S.take i)+s.2.1-s.1)];simp only[j6,aH]
   obtain⟨m',e,q1⟩:=Uv hu hl bK (a1:=a1) (a2:=a2) (ws:=ws) (o:=o) (tl:=tl) hp n (i+1) (eD m s.2.2 (s.2.2,(dN s.2.2 (S.take i)+s.2.1-s.1,dN s.2.2 (S.take i)+s.2.1-s.1))) s.2.1 aa aa h4
    ⟨⟨by have:=hm.ok.len;have:=Ħ (m:=m) (k:=s.2.2) (v:=(s.2.2,(dN s.2.2 (S.take i)+s.2.1-s.1,dN s.2.2 (S.take i)+s.2.1-s.1)));omega,λy hy=>by
      rcases ĥ hy with hy|rfl
      .exact hm.ok.key y hy
      .exact⟨gQ,gW,rfl⟩⟩,(ĭ hm.nd).1,λp p0 p1=>by
     rw[HT];show _↔0<dN p (S.take (i+1));rw[lJ];by_cases ot:p=s.2.2
     .subst ot;rw[kq,zd,if_pos rfl];simp only[true_iff];omega
     .rw[cj ot,qu,if_neg (λh=>ot h.symm),ze];exact hm.has p p0 p1,λp p0 p1 hh=>by
     rw[LD];show _=(p,(dN p (S.take (i+1)),dN p (S.take (i+1))));rw[lJ];by_cases ot:p=s.2.2
     .subst ot;rw[kq,j6,if_pos rfl,show dN s.2.2 (S.take i)+s.2.1-s.1=dN s.2.2 (S.take i)+(s.2.1-s.1) by omega]
     .rw[HT,cj ot,qu]at hh;rw[cj ot,j7,if_neg (λh=>ot h.symm),ze];exact hm.get p p0 p1 hh⟩ (λp nk=>by
     have:=hb p nk;rw[lJ];split<;>omega)
   rw[show ((i+1:B):A)=(i:A)+1 by omega]at e;exact⟨m',e,q1⟩
  .rw[aj gQ];simp only[j7,aH]
   obtain⟨m',e,q1⟩:=Uv hu hl bK (a1:=a1) (a2:=a2) (ws:=ws) (o:=o) (tl:=tl) hp n (i+1) m s.2.1 aa aa h4
    ⟨⟨by have:=hm.ok.len;omega,hm.ok.key⟩,hm.nd,λp p0 p1=>by
      show _↔0<dN p (S.take (i+1));rw[lJ,if_neg aa,ze];exact hm.has p p0 p1,λp p0 p1 hh=>by
      show _=(p,(dN p (S.take (i+1)),dN p (S.take (i+1))));rw[lJ,if_neg aa,ze];exact hm.get p p0 p1 hh⟩ (λp nk=>by
      have:=hb p nk;rw[lJ,if_neg aa];omega)
   rw[show ((i+1:B):A)=(i:A)+1 by omega]at e;exact⟨m',e,q1⟩
def mF(c:A->A)(m:nN):nN:=m.map λx=>(x.1,(x.2.1,(x.2.2.1,x.2.2.2+c x.1)))
theorem ķ{c:A->A}(p:A):∀m:nN,ej (mF c m) p=ej m p:=by
 intro m;simp only[ej,mF,List.any_map];rfl
theorem ĸ{c:A->A}{p:A}:∀{m:nN},ej m p=true->di iJ (mF c m) p=((di iJ m p).1,((di iJ m p).2.1,(di iJ m p).2.2+c p))
 |[],h=>by simp[ej]at h
 |x::r,h=>by
  show cond (p==x.1) (x.2.1,(x.2.2.1,x.2.2.2+c x.1)) (di iJ (mF c r) p)=_;by_cases hp:p=x.1
  .rw[dC hp,j6];have:di iJ (x::r) p=x.2:=by show cond (p==x.1) x.2 (di iJ r p)=x.2;rw[dC hp];rfl
   rw[this,hp]
  .rw[cj hp,j7];have:di iJ (x::r) p=di iJ r p:=by show cond (p==x.1) x.2 (di iJ r p)=_;rw[cj hp];rfl
   rw[this];refine ĸ ?_;have e:ej (x::r) p=(p==x.1||ej r p):=rfl;rw[e,cj hp,qu]at h;exact h
theorem jG3{m:nN}{np n:B}{u v c:A->A}(h:BE m np n u v):BE (mF c m) np n u (λp=>v p+c p):=by
 refine⟨⟨by have:=h.ok.len;simp only[mF,kj];exact this,λx hx=>?_⟩,?_,λp p0 p1=>?_,λp p0 p1 hh=>?_⟩
 .obtain⟨y,hy,rfl⟩:=jr.1 hx;exact h.ok.key y hy
 .have:(mF c m).map (λx=>x.1)=m.map (λx=>x.1):=by simp[mF,List.map_map,Function.comp_def]
  rw[this];exact h.nd
 .rw[ķ];exact h.has p p0 p1
 .rw[ķ]at hh;rw[ĸ hh,h.get p p0 p1 hh]
end Go.Proofs.Pw
