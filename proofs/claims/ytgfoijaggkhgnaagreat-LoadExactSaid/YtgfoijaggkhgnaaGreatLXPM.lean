/- tQ.Cuts: the wJ inside a range, ascending, and the end of the range. -/
import Derived.Test.YtgfoijaggkhgnaaGreatLXPF
import Derived.Test.YtgfoijaggkhgnaaGreatLXLS
import Derived.Test.YtgfoijaggkhgnaaGreatLXPL
import Derived.Test.YtgfoijaggkhgnaaGreatLXPG
import Derived.Test.YtgfoijaggkhgnaaGreatLXFns
import Derived.Test.YtgfoijaggkhgnaaGreatLXLD
import Derived.KernelRfl
open _root_ renaming Int->d,List->o,Nat->F,ByteArray->Y,Bool->Ä
open Int renaming ofNat->A,le_of_lt->Ã
open List renaming take_of_length_le->B,getD_eq_getElem?_getD->D,getD->H,getElem?_set_self->I,length->J,drop_set_of_lt->O,take_set_of_le->U,getElem?_drop->X,drop_drop->À,drop->Æ
open Option renaming some->G
open Bool renaming true->Z,true_and->Á,false->Å
open Go Go.Lft
namespace Go.Proofs.Pw
theorem jDe{l:o d}(hl:l.length<=1000000):∃s,j6o l=G s/\s.Perm l/\s.Pairwise (· <= ·):=by
 obtain⟨s,e,h1,h2⟩:=jCK (xs:=l) aa;exact⟨s,by simp only[j6o,e],h1,h2⟩
def px(f t x:d):Bool:= !(cond (decide (x<=f)) Z (decide (x>=t)))
theorem ė{l:o d}(hl:l.length<=1000000){f t:d}:∀(n i:F),i+n=l.length->(∀s∈l.take i,px f t s=Z)->
  (∃j:F,FX f t (l.length:d) (i:d) l=G (.inl ((j:d),l))/\j<l.length/\(∀s∈l.take j,px f t s=Z)/\px f t (l.getD j 0)=Å)\/
  (FX f t (l.length:d) (i:d) l=G (.inr l)/\∀s∈l,px f t s=Z)
 |0,i,hi,h=>by
  rw[Y0];simp only[j0L];rw[aj aa,j7,aS];rw[B aa]at h;exact Or.inr ⟨rfl,h⟩
 |n+1,i,hi,h=>by
  rw[Y0];simp only[j0L,jbs];rw[ah (show (i:d)<(l.length:d) by omega),bD,al (x:=(i:d)+1)];simp only[j6,j8,j4];have an:i<l.length:=aa;cases hc:(cond (decide (l.getD i (0:d)<=f)) Z (decide (l.getD i (0:d)>=t))) with
  |true=>simp only[j6,aS];exact Or.inl ⟨i,rfl,an,h,by simp only[px];rw[hc];rfl⟩
  |false=>
   simp only[j7,aH];refine ė hl n (i+1) aa λs hs=>?_;rw[q8]at hs;rcases jn.1 hs with hs|hs
   .exact h s hs
   .have aR:l.getD i (0:d)=l[i]:=by simp[an]
    rw[aR]at hc;rw[jp an]at hs;simp at hs;subst hs;simp only[px];rw[hc];rfl
theorem Ud{l:o d}(hl:l.length<=1000000){f t:d}:∀(n i j:F)(b:o d),j+n=l.length->i<=j->b.length=l.length->b.drop j=l.drop j->b.take i=(l.take j).filter (px f t)->
  ∃(k:F)(b':o d),J5 f t (i:d) (j:d) b=G ((k:d),b')/\b'.length=l.length/\k<=l.length/\b'.take k=l.filter (px f t)
 |0,i,j,b,hj,dS,hb,hd,ht=>by
  rw[Y1];simp only[j13,show A (J b)=(b.length:d) from rfl];rw[aj aa,j7,aS];rw[B (l:=l) aa]at ht;exact⟨i,b,rfl,hb,aa,ht⟩
 |n+1,i,j,b,hj,dS,hb,hd,ht=>by
  have an:j<l.length:=aa
  have Ay:b.getD j (0:d)=l[j]:=by
   have:b[j]? = l[j]? := by
    have h:=js (λx=>x[0]?) hd;simpa[X]using h
   rw[D,this,jp an];rfl
  have gU:b.drop (j+1)=l.drop (j+1):=by have:=js (Æ 1) hd;simpa[À]using this
  have lJ:l.take (j+1)=l.take j++[l[j]]:=by rw[q8,jp an];rfl
  rw[Y1];simp only[j13,jbs,show A (J b)=(b.length:d) from rfl];rw[ah (show (j:d)<(b.length:d) by omega),bD,bD,al (x:=(j:d)+1),al (x:=(i:d)+1)];simp only[j6,j8,j4,Ay];cases hc:(cond (decide (l[j]<=f)) Z (decide (l[j]>=t))) with
  |true=>simp only[jl,j7,aH];refine Ud hl n i (j+1) b aa aa hb gU ?_;rw[lJ,yf,ht];simp[px,hc]
  |false=>
   simp only[ka,j6,aH];refine Ud hl n (i+1) (j+1) _ aa aa (by simpa using hb) ?_ ?_
   .rw[O aa];exact gU
   .have vD:i<b.length:=aa;rw[q8,U (jv _),I vD,ht,lJ,yf];simp[px,hc]
theorem jyK{l:o d}(hl:l.length<=1000000){f t:d}:∃n m,j3d l f t=G (n,m)/\m.take n.toNat=l.filter (px f t):=by
 simp only[j3d,j4u,show A (J l)=(l.length:d) from rfl];rcases ė (f:=f) (t:=t) hl l.length 0 aa ae with⟨j,e,hj,h1,h2⟩|⟨e,h⟩
 .rw[show ((0:F):d)=0 from rfl]at e;rw[e];simp only[j4,OP];rw[cj aa,al (x:=(j:d)+1)];have aR:l.getD j (0:d)=l[j]:=by simp[hj]
  rw[aR]at h2
  obtain⟨k,b,e2,hb,hk,ht⟩:=Ud (f:=f) (t:=t) hl (l.length-(j+1)) j (j+1) l aa aa rfl rfl (by
   rw[q8,jp hj,yf,List.filter_eq_self.2 h1];simp[h2])
  rw[show ((j:d)+1)=((j+1:F):d) from rfl,e2];simp only[j7,j4,show A (J b)=(b.length:d) from rfl,j8];rw[ah (show (0:d)<=(k:d) by omega),ah (show (k:d)<=(b.length:d) by omega)];simp only[vb,j6,Á];rw[ah ax,j6];refine⟨_,_,rfl,?_⟩;simp only[show (A k).toNat=k from rfl];rw[qq ax,yk,Nat.min_self,ht]
 .rw[show ((0:F):d)=0 from rfl]at e;rw[e];simp only[j4,oc,kq,j6];refine⟨_,_,rfl,?_⟩;simp only[show (A l.length).toNat=l.length from rfl];rw[B (jv _),List.filter_eq_self.2 h]
def nM:d->o d->o d
 |_,[]=>[]
 |p,x::r=>if x=p then nM p r else x::nM x r
theorem Ue:∀(l:o d)(p:d),∀x,x∈p::nM p l↔x∈p::l
 |[],_,_=>Iff.rfl
 |y::r,p,x=>by
  unfold nM;split
  .rename_i h;subst h;rw[Ue r y x];simp
  .have:=Ue r y x;rw[je,this,je,je,je]
theorem Uf:∀(l:o d)(p:d),(p::l).Pairwise (· <= ·)->(p::nM p l).Pairwise (· < ·)
 |[],_,_=>by simp[nM]
 |y::r,p,h=>by
  have h1:=kb.1 h;unfold nM;split
  .rename_i h;subst h;exact Uf r y h1.2
  .have ih:=Uf r y h1.2;refine kb.2 ⟨λz hz=>?_,ih⟩;have hy:=h1.1 y ae;rcases je.1 hz with rfl|hz
   .omega
   .have:=(kb.1 ih).1 z hz;omega
theorem Ug{l:o d}(hl:l.length<=1000000){k0:F}:∀(n s k:F)(b:o d),k0+s+n=l.length->1<=s->k<=k0+s-1->b.length=l.length->b.drop k=l.drop k->
  ∃(m:F)(b':o d),FY (k:d) (k0:d) (s:d) b=G ((m:d),b')/\b'.length=l.length/\m<=l.length/\b'.take m=b.take k++nM (l.getD (k0+s-1) 0) (l.drop (k0+s))
 |0,s,k,b,hn,hs,hk,hb,hd=>by
  rw[Y2];simp only[j1k,j8,show A (b.length-k0)=((b.length-k0:F):d) from rfl];rw[aj aa,j7,aS,jc aa];exact⟨k,b,rfl,hb,aa,by simp[nM]⟩
 |n+1,s,k,b,hn,hs,hk,hb,hd=>by
  have an:k0+s<l.length:=aa
  have HX:∀j,k<=j->b[j]? = l[j]? := λj hj=>by
   have h:=js (λx=>x[j-k]?) hd;simpa[X,show k+(j-k)=j by omega]using h
  have g1:b.getD (k0+s) (0:d)=l[k0+s]:=by rw[D,HX _ aa,jp an];rfl
  have g2:b.getD (k0+(s-1)) (0:d)=l.getD (k0+s-1) 0:=by rw[D,HX _ aa,show k0+(s-1)=k0+s-1 by omega,D]
  have e1:l.getD (k0+(s+1)-1) 0=l[k0+s]:=by rw[show k0+(s+1)-1=k0+s by omega];simp[an]
  rw[Y2];simp only[j1k,j8,show A (b.length-k0)=((b.length-k0:F):d) from rfl,show A k0=(k0:d) from rfl];rw[ah (show (s:d)<((b.length-k0:F):d) by omega),bY (show (0:d)<=(s:d) by omega) aa,al (x:=(s:d)-1),bY (show (0:d)<=(s:d)-1 by omega) aa,bY (show (0:d)<=(k:d) by omega) aa,al (x:=(k:d)+1),al (x:=(s:d)+1),show ((s:d)-1).toNat=s-1 by omega,jb an];simp only[j6,g1,g2,nM];by_cases hc:l[k0+s]=l.getD (k0+s-1) 0
  .rw[show (l[k0+s] != l.getD (k0+s-1) 0)=Å by rw[bne_eq_false_iff_eq];exact hc,if_pos hc,j7,aH];have ih:=Ug hl (k0:=k0) n (s+1) k b aa aa aa hb hd;rw[e1,hc,show k0+(s+1)=k0+s+1 by omega]at ih;exact ih
  .rw[show (l[k0+s] != l.getD (k0+s-1) 0)=Z by rw[bne_iff_ne];exact hc,if_neg hc,j6,aH]
   have ih:=Ug hl (k0:=k0) n (s+1) (k+1) (b.set k l[k0+s]) aa aa aa (by simpa using hb) (by
    rw[O aa];have:=js (Æ 1) hd;simpa[À]using this)
   rw[e1,show k0+(s+1)=k0+s+1 by omega]at ih;obtain⟨m,b',r1,r2,r3,r4⟩:=ih;refine⟨m,b',r1,r2,r3,?_⟩;have uD:k<b.length:=aa;rw[r4,q8,U (jv _),I uD];simp
def tY:o d->o d
 |[]=>[]
 |a::r=>a::nM a r
theorem Ę{l:o d}(hl:l.length<=1000000):∀(n k:F),k+n=l.length->1<=k->tY l=l.take k++nM (l.getD (k-1) 0) (l.drop k)->
  (∃(m:F)(b:o d),AN (k:d) l=G (.inl ((m:d),b))/\b.take m=tY l)\/(AN (k:d) l=G (.inr l)/\tY l=l)
 |0,k,hn,hk,hT=>by
  rw[Y3];simp only[j1l,show A l.length=(l.length:d) from rfl];rw[aj aa,j7,aS];rw[B aa,jc aa]at hT;exact .inr ⟨rfl,by simpa[nM]using hT⟩
 |n+1,k,hn,hk,hT=>by
  have an:k<l.length:=aa;have g1:l.getD k (0:d)=l[k]:=by simp[an]
  rw[jb an]at hT;simp only[nM]at hT;rw[Y3];simp only[j1l,show A l.length=(l.length:d) from rfl];rw[ah (show (k:d)<(l.length:d) by omega),bY (show (0:d)<=(k:d) by omega) aa,al (x:=(k:d)-1),bY (show (0:d)<=(k:d)-1 by omega) aa,al (x:=(k:d)+1),show ((k:d)-1).toNat=k-1 by omega,ah (show (0:d)<=(k:d) by omega),ah (show (k:d)<=(l.length:d) by omega)];simp only[j6,j8,g1,vb,show A k=(k:d) from rfl];by_cases hc:l[k]=l.getD (k-1) 0
  .rw[if_pos hc]at hT;obtain⟨m,b,r1,r2,r3,r4⟩:=Ug hl (k0:=k) n 1 k l aa aa aa rfl rfl;rw[show k+1-1=k by omega,g1,hc,<-hT]at r4;rw[dC hc,j6,show FY (k:d) (k:d) 1 l=_ from r1];simp only[j4,j8,show A b.length=(b.length:d) from rfl];rw[ah (show (0:d)<=(m:d) by omega),ah (show (m:d)<=(b.length:d) by omega)];simp only[vb,j6,Á];rw[ah ax,j6,aS];refine .inl ⟨m,_,rfl,?_⟩;rw[qq ax,yk,Nat.min_self,r4]
  .rw[if_neg hc]at hT;rw[cj hc,j7,aH];refine Ę hl n (k+1) aa aa ?_;have lJ:l.take (k+1)=l.take k++[l[k]]:=by rw[q8,jp an];rfl
   rw[hT,lJ,show k+1-1=k by omega,g1,jj];rfl
theorem jw5{l:o d}(hl:l.length<=1000000):∃n m,j4G l=G (n,m)/\m.take n.toNat=tY l:=by
 simp only[j4G,show A l.length=(l.length:d) from rfl];by_cases h2:l.length<2
 .rw[ah aa,j6];refine⟨_,_,rfl,?_⟩;rw[j8,B (jv _)];match l,h2 with
  |[],_=>rfl
  |[a],_=>rfl
  |_::_::_,h2=>simp at h2;omega
 .rw[aj aa,j7]
  have hT:tY l=l.take 1++nM (l.getD (1-1) 0) (l.drop 1):=by
   match l,h2 with
   |[],h2=>simp at h2
   |a::r,_=>rfl
  rcases Ę hl (l.length-1) 1 aa aa hT with⟨m,b,e,h⟩|⟨e,h⟩
  .rw[show AN 1 l=_ from e];refine⟨_,_,rfl,?_⟩;simpa using h
  .rw[show AN 1 l=_ from e];refine⟨_,_,rfl,?_⟩;rw[h];simp
theorem jFV{l:o d}(x:d):x∈tY l↔x∈l:=by
 cases l with
 |nil=>exact Iff.rfl
 |cons a r=>exact Ue r a x
theorem jFW{l:o d}(h:l.Pairwise (· <= ·)):(tY l).Pairwise (· < ·):=by
 cases l with
 |nil=>exact .nil
 |cons a r=>exact Uf r a h
theorem Uh:∀(l:o d)(p:d),(nM p l).length<=l.length
 |[],_=>jv _
 |y::r,p=>by
  unfold nM;split
  .have:=Uh r p;simp;omega
  .have:=Uh r y;simp;omega
theorem jFX(l:o d):(tY l).length<=l.length:=by
 cases l with
 |nil=>exact jv _
 |cons a r=>have:=Uh r a;simp[tY];omega
theorem jFY{l:o d}(hl:l.length<=1000000){f t:d}:∃C,jkK l f t=G (C++[t])/\C.Pairwise (· < ·)/\C.length<=l.length/\(∀x,x∈C↔x∈l/\f<x/\x<t):=by
 obtain⟨n1,m1,e1,h1⟩:=jyK (l:=l) aa (f:=f) (t:=t);have fm:(l.filter (px f t)).length<=l.length:=vv _ _;obtain⟨s,e2,p2,a2⟩:=jDe (l:=l.filter (px f t)) aa;have eP:=p2.length_eq;obtain⟨n3,m3,e3,h3⟩:=jw5 (l:=s) aa;have fk:=jFX s;refine⟨tY s,?_,jFW a2,aa,λx=>?_⟩
 .simp only[jkK,j8q,jw,kx];rw[ah (show 0+l.length<=aM by simp[aM];omega),j6];simp only[j4,e1,h1,e2,e3,h3];rw[ah (show (tY s).length+[t].length<=aM by simp[aM];omega),j6]
 .rw[jFV,p2.mem_iff,zf]
  have:px f t x=Z↔f<x/\x<t:=by
   unfold px;by_cases h1:x<=f
   .rw[ah h1];simp;omega
   .rw[aj h1];by_cases h2:x>=t
    .rw[ah h2];simp;omega
    .rw[aj h2];simp;omega
  rw[this]
theorem jHr{ds:o d}(hs:ds.Pairwise (· < ·))(hl:ds.length<=64)(x:d):∃(k:F)(b:Ä),j2B ds x=G ((k:d),b)/\k<=ds.length/\(∀i,(hi:i<ds.length)->i<k->ds[i]<x)/\∀i,(hi:i<ds.length)->k<=i->x<=ds[i]:=by
 obtain⟨k,e,hk,h1,h2⟩:=Tx hs hl (x:=x) ds.length 0 ds.length aa aa (jv _) (λi _ h=>aa) (λi hi h=>aa);rw[show ((0:F):d)=0 from rfl]at e;simp only[j2B,show A ds.length=(ds.length:d) from rfl,e,j4,j8];by_cases jA:k<ds.length
 .have aR:ds.getD k (0:d)=ds[k]:=by simp[jA]
  rw[bD,ah (show (k:d)<(ds.length:d) by omega),aR];simp only[zd,j6];by_cases hx:ds[k]=x
  .rw[dC hx];exact⟨k,_,rfl,hk,h1,h2⟩
  .rw[cj hx];simp only[j7,j97,j4,jh];exact⟨k,_,rfl,hk,h1,h2⟩
 .rw[aj (show¬(k:d)<(ds.length:d) by omega)];simp only[ka,Bool.or_true,j6,j7,Bool.false_and];exact⟨k,_,rfl,hk,h1,h2⟩
theorem LG{a t:d}:∀(es:o dV)(p:d),(∀x∈es,(x.2.2.2.1<=a↔x.2.2.2.1<=t)/\(x.2.2.2.2<=a↔x.2.2.2.2<=t))->lY t p es=lY a p es
 |[],_,_=>rfl
 |x::r,p,h=>by
  have hx:=h x ae;simp only[lY]
  have e:yI t p x=yI a p x:=by
   unfold yI;have:(t<x.2.2.2.1\/x.2.2.2.2<=t)↔(a<x.2.2.2.1\/x.2.2.2.2<=a):=aa;by_cases hc:a<x.2.2.2.1\/x.2.2.2.2<=a
   .rw[if_pos hc,if_pos (this.2 hc)]
   .rw[if_neg hc,if_neg (λh=>hc (this.1 h))]
  rw[e];exact LG r _ (λy hy=>h y (by simp[hy]))
theorem ę{es:o dV}(hl:es.length<=1000){f t:d}{zs:o bF}{ps:o cR}{cs:o aV}{ss:o cW}{tbs:o (d×bC)}{nm:Y}{ls:o bZ}:∀(n i:F)(acc:o d),i+n=es.length->acc.length<=2*i->
  Gc f t es (es.length:d) (i:d) zs ps cs ss tbs nm ls es acc=G (f,t,zs,ps,cs,ss,tbs,nm,ls,es,acc++kL (es.drop i))
 |0,i,acc,hi,_=>by
  rw[Zp];simp only[j2C];rw[aj aa,j7,aS,jc aa];simp[kL]
 |n+1,i,acc,hi,eM=>by
  have br:i<es.length:=aa;have aR:es.getD i ((0:d),((0:d),((0:d),((0:d),(0:d)))))=es[i]:=by simp[H,br]
  have ih:=ę hl (f:=f) (t:=t) (zs:=zs) (ps:=ps) (cs:=cs) (ss:=ss) (tbs:=tbs) (nm:=nm) (ls:=ls) n (i+1) (acc++[es[i].2.2.2.1,es[i].2.2.2.2]) aa ax;rw[Zp];simp only[j2C];rw[ah aa,bD,al (x:=(i:d)+1)];simp only[j6,j8,aR];rw[ah (by simp[aM];omega),j6,aH,jb br];rw[jj]at ih;exact ih
theorem jDf{es:o dV}(hl:es.length<=100){p t:d}:jkM es p t=G (lY t p es):=by
 have ef:=Ĕ hl (t:=t) es.length 0 p aa;rw[jm]at ef;simp only[jkM,show A es.length=(es.length:d) from rfl,show Gb p t es (es.length:d) 0=_ from ef];rfl
section
variable{es:o dV}(fE:es.length<=100){K:o d}(hK:K.Pairwise (· < ·))(Ui:K.length<=64){a0 b:d}(hb:b∈K)(gC:∀x∈kL es,a0<x->x<b->x∈K)
include fE hK Ui hb gC
theorem jIn{g:d->d}{p u:d}(hu:u<=b){m q w:d}{nm:Y}{ls:o bZ}{R:bE}{x:d}:∀(n i:F)(a:d)(acc:bE),K.length-i<=n->a0<=a->a<=u->(a<u->i<K.length)->(∀k,(hk:k<K.length)->(a<u->(k<i->K[k]<=a)/\(i<=k->a<K[k])))->(∀t,a<=t->t<u->g t=p)->
  acc.length+(K.length-i)<=1000000000->Ch (λt=>lY t (g t) es) a x acc->
  ∃out,Kh (i:d) a m q nm ls es w u p K acc R=G (m,q,nm,ls,es,K,out,R)/\Ch (λt=>lY t (g t) es) u x out/\out.length<=acc.length+(K.length-i):=by
 intro n;induction n with
 |zero=>
  intro i a acc hn ha hau hi _ _ _ nK;rw[Zq];simp only[j2D];have rL:¬a<u:=λh=>by have:=hi h;omega
  rw[aj rL,j7,aS];have:a=u:=aa;subst this;exact⟨acc,rfl,nK,aa⟩
 |succ n ih=>
  intro i a acc hn ha hau hi dq hg nt nK;rw[Zq];simp only[j2D];by_cases an:a<u
  .have kC:=hi an;have aR:K.getD i (0:d)=K[i]:=by simp[kC]
   have h1:=((dq i kC) an).2 (jv _);rw[ah an,bD,al (x:=(i:d)+1)];simp only[j6,j8,aR,jDf fE,j4];rw[ah (by simp[aM];omega),j6,aH];have fg:(if K[i]<u then K[i] else u)=min K[i] u:=by split<;>omega
   rw[fg];have fH:a<min K[i] u:=aa
   have Uj:∀t,a<=t->t<min K[i] u->lY t (g t) es=lY a p es:=λt t1 t2=>by
    rw[hg t t1 aa];refine LG es p (λy hy=>?_);obtain⟨y1,y2⟩:=Ub hy
    have key:∀c,c∈kL es->(c<=a↔c<=t):=λc hc=>by
     refine⟨λh=>aa,λh=>?_⟩;apply jt;intro hca;have hcK:=gC c hc aa aa;obtain⟨k,hk,rfl⟩:=ye hcK;by_cases nX:k<i
     .have:=((dq k hk) an).1 nX;omega
     .by_cases Uk:k=i
      .subst Uk;omega
      .have:=q9.1 hK i k kC hk aa;omega
    exact⟨key _ y1,key _ y2⟩
   have Ul:=nK.snoc (b:=a) (c:=min K[i] u) (p:=lY a p es) aa Uj
   obtain⟨out,e,hc,hl⟩:=ih (i+1) (min K[i] u) (acc++[(a,(min K[i] u,lY a p es))]) aa aa aa (λh=>by
    apply jt;intro Um;obtain⟨k,hk,uD⟩:=ye hb;by_cases nX:k=i
    .subst nX;omega
    .have:=q9.1 hK k i hk kC aa;omega) (λk hk h=>⟨λnX=>by
    by_cases Uk:k=i
    .subst Uk;omega
    .have:=((dq k hk) an).1 aa;omega,λnX=>by
    have:=q9.1 hK i k kC hk aa;omega⟩) (λt t1 t2=>hg t aa t2) ax Ul
   exact⟨out,e,hc,by simp at hl;omega⟩
  .rw[aj an,j7,aS];have:a=u:=aa;subst this;exact⟨acc,rfl,nK,aa⟩
theorem Ě{g:d->d}{S:bE}(Dk:S.length<=10000000){nm:Y}{ls:o bZ}(CI : -1000000000000<=a0)(fc:b<=1000000000000){x:d}:∀(n i:F)(a:d)(acc:bE),i+n=S.length->a0<=a->Ch g b a (S.drop i)->Ch (λt=>lY t (g t) es) a x acc->acc.length<=64*i->
  ∃out,Gd (S.length:d) (i:d) nm ls es K acc S=G out/\Ch (λt=>lY t (g t) es) b x out/\out.length<=64*S.length
 |0,i,a,acc,hi,_,hc,nK,nt=>by
  rw[jc aa]at hc;have hc:a=b:=hc;subst hc;rw[Zr];simp only[j2E];rw[aj aa,j7,aS];exact⟨acc,rfl,nK,aa⟩
 |n+1,i,a,acc,hi,ha,hc,nK,nt=>by
  have br:i<S.length:=aa;rw[jb br]at hc;obtain⟨c1,c2,c3,c4⟩:=hc;have hle:=c4.le;have aR:S.getD i ((0:d),((0:d),(0:d)))=S[i]:=by simp[H,br]
  obtain⟨k,bb,ek,hk,k1,k2⟩:=jHr hK Ui (a+1)
  obtain⟨out,e4,nZ,wF⟩:=jIn fE hK Ui hb gC (g:=g) (p:=S[i].2.2) (u:=S[i].2.1) hle (m:=(S.length:d)) (q:=(i:d)) (w:=S[i].1) (nm:=nm) (ls:=ls) (R:=S) (x:=x) K.length k a acc aa ha c2 (λh=>by
   apply jt;intro Um;obtain⟨j,hj,BC⟩:=ye hb;have:=k1 j hj aa;omega) (λj hj _=>⟨λh=>by have:=k1 j hj h;omega,λh=>by have:=k2 j hj h;omega⟩) c3 aa nK
  have ih:=Ě Dk (nm:=nm) (ls:=ls) CI fc (g:=g) (x:=x) n (i+1) S[i].2.1 out aa aa c4 nZ aa;rw[Zr];simp only[j2E];rw[ah aa,bD];simp only[j6,j8,aR,c1];rw[al (x:=a+1),ek];simp only[j4];rw[c1]at e4;rw[e4];simp only[j4];rw[al (x:=(i:d)+1),aH];exact ih
end
section
variable{zs:o bF}{ps:o cR}{cs:o aV}(hs:db zs ps cs)
include hs
theorem ě{a b:d}(ha:0<=a)(cb:a<=b)(hb:b<=8589934592)(hlen:b-a<=35078400):∀ls:o bZ,(∀L∈ls,fh zs.length ps.length cs.length L)->
  ∃E:o d,E.length<=30000*ls.length/\∀L∈ls,∀x,a<x->x<b->cu zs cs L (x-1)≠cu zs cs L x->x∈E
 |[],_=>⟨[],ae,ae⟩
 |L::ls,hL=>by
  obtain⟨E,e1,e2⟩:=ě ha cb hb hlen ls (λM hM=>hL M (by simp[hM]));obtain⟨S,_,c1,l1⟩:=ϧ hs (hL L ae) (ss:=[]) ha cb hb hlen;refine⟨p9 S++E,?_,λM hM x x1 x2 x3=>?_⟩
  .have:(p9 S).length<=S.length:=by simp[p9]
   rw[jf,jk];omega
  .rcases je.1 hM with rfl|hM
   .exact ju _ (((LF c1).1 x).2 ⟨x1,x2,x3⟩)
   .exact jq _ (e2 M hM x x1 x2 x3)
theorem jDg{ls:o bZ}{es:o dV}(hL:∀L∈ls,fh zs.length ps.length cs.length L){a b:d}(ha:0<=a)(cb:a<=b)(hb:b<=8589934592)(hlen:b-a<=35078400) :
  ∃E:o d,E.length<=30000*ls.length+2*es.length/\(∀x,a<x->x<b->eB es (x-1) (dv zs cs ls (x-1)) ls.length≠eB es x (dv zs cs ls x) ls.length->x∈E)/\∀x∈kL es,x∈E:=by
 obtain⟨E,e1,e2⟩:=ě hs ha cb hb hlen ls hL;refine⟨E++kL es,by rw[jf,HW];omega,λx x1 x2 x3=>?_,λx hx=>jq _ hx⟩;apply jt;intro hn;simp only[jn,not_or]at hn;refine x3 (Uc (λi hi=>?_) (λp=>Đ hn.2 p));apply jt;intro bA;have e:∀t,dv zs cs ls t i=cu zs cs ls[i] t:=λt=>by simp[dv,H,hi]
 rw[e,e]at bA;exact hn.1 (e2 _ (jg hi) x x1 x2 bA)
theorem jyL{nm:Y}{ls:o bZ}{es:o dV}(hL:∀L∈ls,fh zs.length ps.length cs.length L)(fw:ls.length<=4)(hE:∀x∈es,pq ps.length x)(fE:es.length<=9)
  {ss:o cW}{a b:d}(ha:0<=a)(cb:a<=b)(hb:b<=8589934592)(hlen:b-a<=35078400) :
  ∃out,j4O ((zs,(ps,(cs,ss))),zs.map tb) (nm,(ls,es)) a b=G out/\fy (λt=>eB es t (dv zs cs ls t) ls.length) b none a out/\out.length<=30000*ls.length+2*es.length+1:=by
 obtain⟨out,e,h,_⟩:=jDd hs hL fw hE fE ha cb hb aa (nm:=nm) (ss:=ss);obtain⟨E,e1,e2,_⟩:=jDg hs (es:=es) hL ha cb hb hlen;have:=ď h e2;exact⟨out,e,h,aa⟩
theorem jFZ{s:cW}(hk:uK zs.length ps.length cs.length s)(fw:s.2.1.length<=3)(fE:s.2.2.length<=6){ss:o cW}{a b:d}(ha:0<=a)(cb:a<b)(hb:b<=8589934592)(hlen:b-a<=34560000) :
  ∃out,j7F ((zs,(ps,(cs,ss))),zs.map tb) s a b=G out/\fy (gy zs cs s) b none a out/\out.length<=10000000:=by
 obtain⟨S,eS,hS,lS⟩:=jyL hs (nm:=s.1) hk.ly aa hk.ed aa (ss:=ss) ha aa hb aa;have l0:=ę (es:=s.2.2) aa (f:=a) (t:=b) (zs:=zs) (ps:=ps) (cs:=cs) (ss:=ss) (tbs:=zs.map tb) (nm:=s.1) (ls:=s.2.1) s.2.2.length 0 [] aa ae;rw[jw,jm]at l0;have xj:=HW s.2.2;obtain⟨C,eC,c1,c2,c3⟩:=jFY (l:=kL s.2.2) aa (f:=a) (t:=b)
 have hKp:(C++[b]).Pairwise (· < ·):=zk.2 ⟨c1,yu _ _,λx hx y hy=>by
  simp at hy;subst hy;exact((c3 x).1 hx).2.2⟩
 obtain⟨M,e2,hM,lM⟩:=Ě (es:=s.2.2) aa hKp ax (a0:=a) (b:=b) ae (λx hx x1 x2=>ju _ ((c3 x).2 ⟨hx,x1,x2⟩)) (g:=λt=>eB s.2.2 t (dv zs cs s.2.1 t) s.2.1.length) (S:=S) aa (nm:=s.1) (ls:=s.2.1) aa aa (x:=a) S.length 0 a [] aa aa (by rw[jm];exact hS.ch) rfl ae;obtain⟨out,e3,h3,l3⟩:=TQ (l:=M) aa hM;refine⟨out,?_,h3,aa⟩;simp only[j7F,show A s.2.2.length=(s.2.2.length:d) from rfl];rw[show Gc a b s.2.2 (s.2.2.length:d) 0 zs ps cs ss (zs.map tb) s.1 s.2.1 s.2.2 []=_ from l0];simp only[j4,eC];rw[show j4O ((zs,(ps,(cs,ss))),zs.map tb) (s.1,(s.2.1,s.2.2)) a b=_ from eS];simp only[j4,show A S.length=(S.length:d) from rfl];rw[show Gd (S.length:d) 0 s.1 s.2.1 s.2.2 (C++[b]) [] S=_ from e2];simp only[j4,e3]
end
set_option linter.unusedSectionVars false
def cm(f:d->Ä)(a:d):F->d
 |0=>0
 |n+1=>cm f a n+(cond (f (a+n)) 1 0)
theorem Un(f:d->Ä)(a:d):∀n:F,0<=cm f a n/\cm f a n<=n
 |0=>by simp[cm]
 |n+1=>by
  have:=Un f a n;simp only[cm];cases f (a+n)<;>simp only[j6,j7]<;>omega
theorem LH(f:d->Ä)(a:d)(n:F):∀m:F,cm f a (n+m)=cm f a n+cm f (a+n) m
 |0=>by simp[cm]
 |m+1=>by
  have:=LH f a n m;rw[show n+(m+1)=(n+m)+1 by omega];simp only[cm];rw[this,show a+((n+m:F):d)=a+(n:d)+(m:d) by omega];omega
theorem Dl{f g:d->Ä}{a:d}:∀{n:F},(∀x,a<=x->x<a+n->f x=g x)->cm f a n=cm g a n
 |0,_=>rfl
 |n+1,h=>by
  simp only[cm];rw[Dl (n:=n) (λx h1 h2=>h x h1 aa),h (a+n) aa aa]
theorem HY{f:d->Ä}{a:d}:∀{n:F},(∀x,a<=x->x<a+n->f x=Å)->cm f a n=0
 |0,_=>rfl
 |n+1,h=>by
  simp only[cm];rw[HY (n:=n) (λx h1 h2=>h x h1 aa),h (a+n) aa aa];rfl
theorem Ĝ{f:d->Ä}{a:d}:∀{n:F},(∀x,a<=x->x<a+n->f x=Z)->cm f a n=n
 |0,_=>rfl
 |n+1,h=>by
  simp only[cm];rw[Ĝ (n:=n) (λx h1 h2=>h x h1 aa),h (a+n) aa aa];simp only[j6];omega
def iB(p:d):SL->Prop
 |[]=>True
 |x::r=>p<=x.1/\x.1<x.2/\iB x.2 r
theorem iB.weak{p q:d}(hq:q<=p):∀{l:SL},iB p l->iB q l
 |[],_=>trivial
 |_::_,h=>⟨by have:=h.1;omega,h.2⟩
theorem ca.ino:∀{l:SL}{p:d},ca p l->iB (p+1) l
 |[],_,_=>trivial
 |x::r,p,h=>⟨by have:=h.1;omega,h.2.1,(ca.ino h.2.2).weak aa⟩
theorem eN.ino:∀{l:WL}{p:d},eN p l->iB p l
 |[],_,_=>trivial
 |_::_,_,h=>⟨h.1,h.2.1,eN.ino h.2.2.2⟩
theorem Uo:∀{l:SL}{p s:d},iB p l->s<p->hasB s l=Å
 |[],_,_,_,_=>rfl
 |x::r,p,s,h,hs=>by
  obtain⟨h1,h2,h3⟩:=h;simp only[hasB];rw[aj (show¬x.1<=s by omega),Uo h3 aa];rfl
theorem ĝ:∀{l:SL}{p:d}{N:F},iB p l->(∀u∈l,u.2<=p+N)->jC l=cm (λs=>hasB s l) p N
 |[],p,N,_,_=>(HY (f:=λs=>hasB s []) (λ_ _ _=>rfl)).symm
 |x::r,p,N,h,hb=>by
  obtain⟨h1,h2,h3⟩:=h;have hx:=hb x ae;obtain⟨n1,e1⟩:∃n1:F,x.1=p+n1:=⟨(x.1-p).toNat,aa⟩;obtain⟨n2,e2⟩:∃n2:F,x.2=x.1+n2:=⟨(x.2-x.1).toNat,aa⟩;obtain⟨n3,e3⟩:∃n3:F,N=n1+n2+n3:=⟨N-n1-n2,aa⟩;have ih:=ĝ (l:=r) (p:=x.2) (N:=n3) h3 (λu hu=>by have:=hb u (by simp[hu]);omega);subst e3;rw[LH,LH]
  rw[HY (a:=p) (n:=n1) (λs s1 s2=>by
   simp only[hasB];rw[aj (show¬x.1<=s by omega),Uo h3 aa];rfl)]
  rw[Ĝ (a:=p+(n1:d)) (n:=n2) (λs s1 s2=>by
   simp only[hasB];rw[ah (show x.1<=s by omega),ah (show s<x.2 by omega)];rfl)]
  rw[Dl (a:=p+((n1+n2:F):d)) (g:=λs=>hasB s r) (λs s1 s2=>by
   simp only[hasB];rw[aj (show¬s<x.2 by omega)];cases decide (x.1<=s)<;>rfl)]
  rw[show p+((n1+n2:F):d)=x.2 by omega,<-ih];simp only[jC];omega
theorem Ğ:∀{l:SL}{p:d},iB p l->0<=jC l
 |[],_,_=>k7 _
 |x::r,p,h=>by
  have:=Ğ h.2.2;have:=h.2.1;simp only[jC];omega
theorem ğ:∀{l:SL}{p:d},iB p l->∀i,∃q,iB q (l.drop i)
 |[],p,_,i=>⟨p,by simp[iB]⟩
 |x::r,p,h,0=>⟨p,h⟩
 |x::r,p,h,i+1=>ğ h.2.2 i
section
variable{zs:o bF}{ps:o cR}{cs:o aV}(hs:db zs ps cs)
include hs
end
section
variable{zs:o bF}{ps:o cR}{cs:o aV}(hs:db zs ps cs)
include hs
end
def rk(v:d)(S:bE):SL:=(S.filter λs=>s.2.2==v).map λs=>(s.1,s.2.1)
theorem jDh(v:d)(s:kK)(r:bE):rk v (s::r)=(if s.2.2=v then [(s.1,s.2.1)] else [])++rk v r:=by
 unfold rk;by_cases hv:s.2.2=v
 .simp[hv]
 .simp[hv]
theorem jHu{f:d->d}{a b v:d}{S:bE}(h:fy f b none a S){x:d}:bJ x (rk v S)↔a<=x/\x<b/\f x=v:=by
 unfold bJ rk;constructor
 .rintro⟨u,hu,h1,h2⟩
  obtain⟨s,hs,rfl⟩:=jr.1 hu;have hm:=zf.1 hs;have hc:=h.ch.mem _ hm.1;have hv:s.2.2=v:=by simpa using hm.2
  exact⟨by dsimp only at h1;omega,by dsimp only at h2;omega,by rw[<-hv];exact hc.2.2.2 x h1 h2⟩
 .rintro⟨h0,h1,h2⟩
  obtain⟨s,hs,c1,c2⟩:=h.ch.has x h0 h1;have hc:=h.ch.mem _ hs;exact⟨_,jr.2 ⟨s,zf.2 ⟨hs,by rw[<-hc.2.2.2 x c1 c2,h2];exact kq _⟩,rfl⟩,c1,c2⟩
theorem Up{v:d}{S:bE}(hS:S.length<=1000000):∀(n i:F)(acc:SL),i+n=S.length->acc.length<=i->
  Ge v S (S.length:d) (i:d) acc=G (acc++rk v (S.drop i))
 |0,i,acc,hi,_=>by
  rw[Zs];simp only[j2Z];rw[aj aa,j7,aS,jc aa];simp[rk]
 |n+1,i,acc,hi,ha=>by
  have br:i<S.length:=aa;have aR:S.getD i ((0:d),((0:d),(0:d)))=S[i]:=by simp[H,br]
  rw[Zs];simp only[j2Z];rw[ah (show (i:d)<(S.length:d) by omega),bD,al (x:=(i:d)+1)];simp only[j6,j8,aR];have hd:rk v (S.drop i)=(if S[i].2.2=v then [(S[i].1,S[i].2.1)] else [])++rk v (S.drop (i+1)):=by rw[jb br,jDh]
  rw[hd];by_cases hv:S[i].2.2=v
  .rw[if_pos hv];rw[dC hv,j6,ah (by simp[aM];omega),j6,aH];have ih:=Up (v:=v) hS n (i+1) (acc++[(S[i].1,S[i].2.1)]) aa ax;rw[show ((i+1:F):d)=(i:d)+1 by omega]at ih;rw[jj]at ih;exact ih
  .rw[if_neg hv,jw];rw[cj hv,j7,aH];have ih:=Up (v:=v) hS n (i+1) acc aa aa;rw[show ((i+1:F):d)=(i:d)+1 by omega]at ih;exact ih
section
variable{zs:o bF}{ps:o cR}{cs:o aV}(hs:db zs ps cs)
include hs
end
theorem jDi{np:F}{t p:d}{x:dV}(h:pq np x)(hp:p<np):yI t p x<np:=by
 have ha:=h.a;have hb:=h.b;unfold yI;split
 .exact hp
 .split
  .omega
  .split
   .rename_i h1;have:=hb h1.1;omega
   .split
    .rename_i h1;have:=hb h1.1;omega
    .exact hp
theorem Ġ{np:F}{t:d}:∀(es:o dV)(p:d),(∀x∈es,pq np x)->p<np->lY t p es<np
 |[],_,_,hp=>hp
 |x::r,p,h,hp=>by
  simp only[lY];exact Ġ r _ (λy hy=>h y (by simp[hy])) (jDi (h x ae) hp)
section
variable{zs:o bF}{ps:o cR}{cs:o aV}(hs:db zs ps cs)
include hs
theorem jG1{s:cW}(hk:uK zs.length ps.length cs.length s){t:d}(h0:0<=t)(h1:t<=8589934592):gy zs cs s t<ps.length:=by
 unfold gy;refine Ġ _ _ hk.ed ?_;unfold eB;cases hT:ei (gE s.2.2 t (dv zs cs s.2.1 t)) s.2.1.length with
 |none=>dsimp only;omega
 |some k=>
  have jA:=Ē hT;have e:dv zs cs s.2.1 t k=cu zs cs s.2.1[k] t:=by simp[dv,H,jA]
  dsimp only
  rw[e];exact(ϗ hs (hk.ly _ (jg jA)) h0 h1).2.2
theorem jDj{ss:o cW}(hc:oe (zs,(ps,(cs,ss)))){i:F}(hi:i<ss.length)(fw:ss[i].2.1.length<=3)(fE:ss[i].2.2.length<=6){a b:d}(ha:0<=a)(cb:a<b)(hb:b<=8589934592)(hlen:b-a<=1209600) :
  ∃S,j3r (zs,(ps,(cs,ss))) (i:d) a b=G (S,0)/\fy (gy zs cs ss[i]) b none a S/\S.length<=16384:=by
 have lR:=hc.sc _ (jg hi);have xG:ss.getD i (ByteArray.empty,(([]:o bZ),([]:o dV)))=ss[i]:=by simp[H,hi]
 obtain⟨S,eS,hS,lS⟩:=jFZ hs lR fw fE (ss:=ss) (a:=a) (b:=b) ha cb hb aa;obtain⟨E,e1,e2,e3⟩:=jFU hs (es:=ss[i].2.2) lR.ly ha (Ã cb) hb hlen
 have Dk:S.length<=E.length+1:=ď hS (λx x1 x2 x3=>by
  apply jt;intro hn;refine x3 ?_;have hT:eB ss[i].2.2 (x-1) (dv zs cs ss[i].2.1 (x-1)) ss[i].2.1.length=eB ss[i].2.2 x (dv zs cs ss[i].2.1 x) ss[i].2.1.length:=by apply jt;intro bA;exact hn (e2 x x1 x2 bA)
  unfold gy;rw[hT];refine(LG _ _ λy hy=>?_).symm;obtain⟨m1,m2⟩:=Ub hy;have n1:x≠y.2.2.2.1:=λe=>hn (e▸e3 _ m1);have n2:x≠y.2.2.2.2:=λe=>hn (e▸e3 _ m2);omega)
 refine⟨S,?_,hS,aa⟩;simp only[j3r];rw[show jaK (zs,(ps,(cs,ss))) (i:d) a b=_ from jyI hs hc hi ha (Ã cb) hb aa];simp only[j4,jh,j7];rw[bD];simp only[j6,j8,xG];rw[show j7F ((zs,(ps,(cs,ss))),zs.map tb) (ss[i].1,(ss[i].2.1,ss[i].2.2)) a b=_ from eS];simp only[j4,show A S.length=(S.length:d) from rfl];rw[aj (show¬(S.length:d)>16384 by omega)];rfl
end
end Go.Proofs.Pw
