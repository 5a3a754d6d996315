/- eB 5, the reference: the times of JE are the wk form of their mC. -/
import Derived.Test.YtllkgjaoejhneaaGreatSEPF
import Derived.Test.YtllkgjaoejhneaaGreatSEPG
import Derived.Test.YtllkgjaoejhneaaGreatSEPD
open _root_ renaming Int->q,Nat->F,ByteArray->I,List->O
open Int renaming ofNat->D,tmod->K
open Decidable renaming decide->E
open Option renaming some->G
open Go Go.Lft
namespace Go.Proofs.Pw
theorem ZC:∀{A B:SL}{lo mid:q},pk lo A->pk mid B->lo<=mid->(∀s∈A,s.2<=mid)->pk lo (A++B)
 |[],B,lo,mid,_,hB,h,_=>hB.weak h
 |s::A,B,lo,mid,hA,hB,h,hs=>⟨hA.1,hA.2.1,ZC hA.2.2 hB (hs s af) (λu hu=>hs u (by simp[hu]))⟩
theorem jyB{f lo:q}:∀{l:SL},pk lo l->(∀s∈l,f<=s.1)->pk f l
 |[],_,_=>trivial
 |s::r,h,hf=>⟨hf s af,h.2⟩
theorem ZD:∀{A:SL}{p:q}{x:q×q},bX p A->p<x.1->(∀s∈A,s.2<x.1)->x.1<x.2->bX p (A++[x])
 |[],_,_,_,hp,_,hx=>⟨hp,hx,trivial⟩
 |s::A,p,x,h,_,hs,hx=>⟨h.1,h.2.1,ZD h.2.2 (hs s af) (λu hu=>hs u (by simp[hu])) hx⟩
theorem ZE:∀{A:SL}{p e:q}{y:q×q},bX p (A++[y])->y.2<=e->bX p (A++[(y.1,e)])
 |[],_,_,_,h,he=>⟨h.1,by have:=h.2.1;dsimp only;omega,trivial⟩
 |_::A,_,_,_,h,he=>⟨h.1,h.2.1,ZE h.2.2 he⟩
theorem ZG:∀{A:SL}{p:q}{y:q×q},bX p (A++[y])->∀s∈A,s.2<y.1
 |[],_,_,_,s,hs=>by simp at hs
 |u::A,p,y,h,s,hs=>by
  have low:∀{A:SL}{p:q},bX p (A++[y])->p<y.1:=by
   intro A;induction A with
   |nil=>intro p h;exact h.1
   |cons v r ih=>intro p h;have:=ih h.2.2;have:=h.1;have:=h.2.1;omega
  rcases jl.1 hs with rfl|hs
  .exact low h.2.2
  .exact ZG h.2.2 s hs
def im(l:SL)(x:q×q):SL:=cond (E (0<l.length)&&E ((l.getD (l.length-1) (0,0)).2=x.1)) (l.set (l.length-1) ((l.getD (l.length-1) (0,0)).1,x.2)) (l++[x])
theorem ZH(l:SL)(x:q×q):(im l x).length<=l.length+1:=by
 unfold im;cases (E (0<l.length)&&E ((l.getD (l.length-1) (0,0)).2=x.1))<;>simp
theorem jCf{p:q}{l:SL}{x:q×q}(h:bX p l)(hp:p<x.1)(hx:x.1<x.2)(hl:∀s∈l,s.2<=x.1) :
  bX p (im l x)/\(∀y,bG y (im l x)↔bG y l\/(x.1<=y/\y<x.2))/\(∀s∈im l x,s.2<=x.2):=by
 rcases vf l with rfl|⟨A,u,rfl⟩
 .refine⟨⟨hp,hx,trivial⟩,λy=>?_,λs hs=>?_⟩
  .show bG y [x]↔_;rw[fi];constructor
   .rintro (h|h)
    .exact .inr h
    .exact absurd h fU
   .rintro (h|h)
    .exact absurd h fU
    .exact .inl h
  .have:s=x:=by simpa[im]using hs
   rw[this];exact kx _
 .rw[vg]at h hl ⊢;have au:=ZG h;have hu:=hl u af;have hg:(A++[u]).getD ((A++[u]).length-1) ((0:q),(0:q))=u:=by simp[List.getD]
  unfold im;rw[hg];by_cases he:u.2=x.1
  .rw[ah af,ah he];simp only[yq,jc];have qM:(A++[u]).set ((A++[u]).length-1) (u.1,x.2)=A++[(u.1,x.2)]:=af;rw[qM];refine⟨ZE h aa,λy=>?_,λs hs=>?_⟩
   .rw[wR,wR,fi,fi]
    have C6:u.1<u.2:=by
     have:∀{A:SL}{p:q},bX p (A++[u])->u.1<u.2:=by
      intro A;induction A with
      |nil=>intro p h;exact h.2.1
      |cons v r ih=>intro p h;exact ih h.2.2
     exact this h
    constructor
    .rintro (h|h|h)
     .exact .inl (.inl h)
     .dsimp only at h
      by_cases hy:y<u.2
      .exact .inl (.inr (.inl ⟨h.1,hy⟩))
      .exact .inr ⟨aa,h.2⟩
     .exact absurd h fU
    .rintro ((h|h|h)|h)
     .exact .inl h
     .exact .inr (.inl ⟨h.1,by dsimp only;omega⟩)
     .exact absurd h fU
     .exact .inr (.inl ⟨by dsimp only;omega,h.2⟩)
   .rcases js.1 hs with hs|hs
    .have:=hl s (by simp[hs]);omega
    .have:s=(u.1,x.2):=by simpa using hs
     rw[this];exact kx _
  .rw[ak he];simp only[Bool.and_false,jd];refine⟨ZD h hp (λs hs=>?_) hx,λy=>?_,λs hs=>?_⟩
   .rcases js.1 hs with dy|dy
    .have:=au s dy
     have C6:u.1<u.2:=by
      have:∀{A:SL}{p:q},bX p (A++[u])->u.1<u.2:=by
       intro A;induction A with
       |nil=>intro p h;exact h.2.1
       |cons v r ih=>intro p h;exact ih h.2.2
      exact this h
     omega
    .have:s=u:=by simpa using dy
     rw[this];omega
   .rw[wR (r:=[x]),fi (l:=[])];constructor
    .rintro (h|h|h)
     .exact .inl h
     .exact .inr h
     .exact absurd h fU
    .rintro (h|h)
     .exact .inl h
     .exact .inr (.inl h)
   .rcases js.1 hs with dy|dy
    .have:=hl s dy;omega
    .have:s=x:=by simpa using dy
     rw[this];exact kx _
theorem ZI{p hi:q}:∀(b l:SL)(lo:q),bX p l->pk lo b->p<lo->(∀s∈l,s.2<=lo)->lo<=hi->(∀s∈b,s.2<=hi)->
  bX p (b.foldl im l)/\(∀y,bG y (b.foldl im l)↔bG y l\/bG y b)/\(∀s∈b.foldl im l,s.2<=hi)/\(b.foldl im l).length<=l.length+b.length
 |[],l,lo,h,_,_,hl,iL,_=>⟨h,λy=>⟨.inl,λh=>h.resolve_right fU⟩,λs hs=>by have:=hl s hs;omega,af⟩
 |x::b,l,lo,h,hb,hp,hl,iL,iM=>by
  obtain⟨b1,b2,b3⟩:=hb;obtain⟨j1,j2,j3⟩:=jCf h (x:=x) aa b2 (λs hs=>by have:=hl s hs;omega);have hx:=iM x af;obtain⟨k1,k2,k3,k4⟩:=ZI b (im l x) x.2 j1 b3 aa j3 hx (λs hs=>iM s (by simp[hs]));have:=ZH l x;refine⟨k1,λy=>?_,k3,?_⟩
  .show bG y (b.foldl im (im l x))↔_;rw[k2 y,j2 y,fi];constructor
   .rintro ((h|h)|h)
    .exact .inl h
    .exact .inr (.inl h)
    .exact .inr (.inr h)
   .rintro (h|h|h)
    .exact .inl (.inl h)
    .exact .inl (.inr h)
    .exact .inr h
  .show (b.foldl im (im l x)).length<=_;simp only[jq];omega
theorem ZJ{b:SL}(hb:b.length<=1000000):∀(n i:F)(l:SL),i+n=b.length->l.length+n<=10000000->Ie b (i:q) l=G ((b.drop i).foldl im l)
 |0,i,l,hi,_=>by
  rw[Wq];simp only[j63,show D b.length=(b.length:q) from rfl];rw[ak aa,jd,ba,jj aa];rfl
 |n+1,i,l,hi,hl=>by
  have au:i<b.length:=aa;have bm:b.getD i ((0:q),(0:q))=b[i]:=by simp[List.getD,au]
  have ih:=ZJ hb n (i+1) (im l b[i]) aa (by have:=ZH l b[i];omega);rw[show ((i+1:F):q)=(i:q)+1 by omega]at ih;rw[Wq,jh au];simp only[j63,show D b.length=(b.length:q) from rfl,show D l.length=(l.length:q) from rfl,List.foldl_cons];rw[ah (show (i:q)<(b.length:q) by omega),jc,cb (i:=(i:q)) (n:=b.length) aa aa,ar (x:=(i:q)+1)];simp only[jc,je,bm];have bT:E (l.length+[(b[i].1,b[i].2)].length<=aF)=true:=ah (by simp[aF];omega);by_cases h0:0<l.length
  .rw[ah (show (l.length:q)>0 by omega),ar (x:=(l.length:q)-1),cb (i:=(l.length:q)-1) aa aa,show ((l.length:q)-1).toNat=l.length-1 by omega];simp only[jc];by_cases he:(l.getD (l.length-1) ((0:q),(0:q))).2=b[i].1
   .have e:im l b[i]=l.set (l.length-1) ((l.getD (l.length-1) ((0:q),(0:q))).1,b[i].2):=by unfold im;rw[ah h0,ah he];rfl
    rw[fh he,jc,aV,<-e];exact ih
   .have e:im l b[i]=l++[b[i]]:=by unfold im;rw[ak he,Bool.and_false];rfl
    rw[cU he,jd,bT,jc,aV];rw[e]at ih ⊢;exact ih
  .have e:im l b[i]=l++[b[i]]:=by unfold im;rw[ak h0];rfl
   rw[ak (show¬(l.length:q)>0 by omega),jd,bT,jc,aV];rw[e]at ih ⊢;exact ih
theorem jyC{l b:SL}(hb:b.length<=1000000)(hl:l.length<=1000000):jcE l b=G (b.foldl im l):=by
 have:=ZJ hb b.length 0 l aa aa;rw[show ((0:F):q)=0 from rfl,jt]at this;simp only[jcE,this,ja]
theorem FG{d s:q}(hd : -1<=d)(ig:d<=1000000)(hs:0<=s)(lM:s<=86399):j6Z (d,s)=G ((d*86400+s+259200)%604800):=by
 have e:K d 7+10=d%7+10\/d = -1:=by
  by_cases h:0<=d
  .exact .inl (by rw[zL h])
  .exact .inr aa
 simp only[j6Z,jbv,ja];rcases e with e|rfl
 .rw[e,ar (x:=d%7+10),zL aa,ar (x:=(d%7+10)%7*86400),ar (x:=(d%7+10)%7*86400+s)];congr 1;omega
 .rw[show K (-1) 7 = -1 from rfl,ar (x:= -1+10),show K (-1+10) 7=2 from rfl,ar (x:=2*86400),ar (x:=2*86400+s)];congr 1;omega
def mT(f t st:q):WL->SL
 |[]=>[]
 |v::r=>cond (E ((gx f t st v).1<(gx f t st v).2)) (gx f t st v::mT f t st r) (mT f t st r)
def pY(w:WL)(f t:q):F->q->SL
 |0,_=>[]
 |m+1,st=>cond (E (st<t)) (mT f t st w++pY w f t m (st+604800)) []
theorem QW(f t st:q):∀w:WL,(mT f t st w).length<=w.length
 |[]=>by simp[mT]
 |v::r=>by
  have:=QW f t st r;unfold mT;cases E ((gx f t st v).1<(gx f t st v).2)<;>simp<;>omega
theorem ZK{w:WL}(hw:gF 0 w)(hl:w.length<=14){st f t:q}(aO : -1000000<=st)(cW:st<=8600000000):∀(n i:F)(acc:SL),i+n=w.length->acc.length+n<=1000000->
  Ib w f t st (i:q) acc=G (w,f,t,st,acc++mT f t st (w.drop i))
 |0,i,acc,hi,_=>by
  rw[Wo];simp only[j5j,show D w.length=(w.length:q) from rfl];rw[ak aa,jd,ba,jj aa];simp[mT]
 |n+1,i,acc,hi,ha=>by
  have au:i<w.length:=aa;have bm:w.getD i ((0:q),(0:q))=w[i]:=by simp[au]
  have hg:=zT hw i au;rw[bm]at hg;rw[Wo,jh au];simp only[j5j,show D w.length=(w.length:q) from rfl];rw[ah (show (i:q)<(w.length:q) by omega),bP];simp only[jc,je,bm];rw[ar (x:=(i:q)+1),ar (x:=st+w[i].1),ar (x:=st+w[i].2)];have ec:(E ((if st+w[i].1>f then st+w[i].1 else f)<(if st+w[i].2<t then st+w[i].2 else t)))=E ((gx f t st w[i]).1<(gx f t st w[i]).2):=rfl;rw[ec];have ih:=λacc h=>ZK hw hl aO cW (f:=f) (t:=t) n (i+1) acc aa h;rw[show ((i+1:F):q)=(i:q)+1 by omega]at ih;simp only[mT];cases E ((gx f t st w[i]).1<(gx f t st w[i]).2) with
  |true=>rw[jc,ah (by simp[aF];omega),jc,aV,jc];have:=ih (acc++[gx f t st w[i]]) ay;rw[jo]at this;exact this
  |false=>rw[jd,aV,jd];exact ih acc aa
theorem ZL{w:WL}(hw:gF 0 w)(hl:w.length<=14){f t:q}(ht:t<=8589934592):∀(m:F)(st:q)(acc:SL), -1000000<=st->t<=st+604800*m->acc.length+14*m<=900000->
  Ic w f t st acc=G (acc++pY w f t m st)
 |0,st,acc,aO,hm,_=>by
  rw[Wp];simp only[j5k];rw[ak aa,jd,ba];simp[pY]
 |m+1,st,acc,aO,hm,dI=>by
  rw[Wp];simp only[j5k,pY];by_cases au:st<t
  .have h2:=ZK hw hl aO aa (f:=f) (t:=t) w.length 0 acc aa aa;rw[show ((0:F):q)=0 from rfl,jt]at h2;have hlen:=QW f t st w;rw[ah au,jc,h2];simp only[ja,jc];rw[ar (x:=st+604800),aV];have:=ZL hw hl ht m (st+604800) (acc++mT f t st w) aa aa ay (f:=f);rw[jo]at this;exact this
  .rw[ak au,jd,ba,jd,qh]
theorem ZM{f t st:q}:∀{w:WL}{p:q},gF p w->pk (st+p) (mT f t st w)/\∀s∈mT f t st w,f<=s.1/\s.2<=t/\s.2<=st+604800
 |[],_,_=>⟨trivial,λs hs=>by simp[mT]at hs⟩
 |v::r,p,h=>by
  obtain⟨h1,h2,h3,h4⟩:=h;obtain⟨i1,i2⟩:=ZM (f:=f) (t:=t) (st:=st) h4;unfold mT;by_cases hc:(gx f t st v).1<(gx f t st v).2
  .have e1:st+v.1<=(gx f t st v).1/\f<=(gx f t st v).1:=by unfold gx;dsimp only;split<;>omega
   have e2:(gx f t st v).2<=st+v.2/\(gx f t st v).2<=t:=by unfold gx;dsimp only;split<;>omega
   rw[ah hc,jc];refine⟨⟨aa,hc,i1.weak aa⟩,λs hs=>?_⟩;rcases jl.1 hs with rfl|hs
   .exact⟨e1.2,e2.2,aa⟩
   .exact i2 s hs
  .rw[ak hc,jd];exact⟨i1.weak aa,i2⟩
theorem ZN{f t st x:q}:∀{w:WL}{p:q},gF p w->(bG x (mT f t st w)↔f<=x/\x<t/\∃v∈w,st+v.1<=x/\x<st+v.2)
 |[],_,_=>⟨λh=>absurd h fU,λ⟨_,_,v,hv,_⟩=>by simp at hv⟩
 |v::r,p,h=>by
  obtain⟨h1,h2,h3,h4⟩:=h;have ih:=ZN (f:=f) (t:=t) (st:=st) (x:=x) h4
  have he:((gx f t st v).1<=x/\x<(gx f t st v).2)↔f<=x/\x<t/\st+v.1<=x/\x<st+v.2:=by
   unfold gx;dsimp only;constructor
   .rintro⟨a1,a2⟩
    have b1:f<=x/\st+v.1<=x:=by split at a1<;>omega
    have b2:x<t/\x<st+v.2:=by split at a2<;>omega
    exact⟨b1.1,b2.1,b1.2,b2.2⟩
   .rintro⟨a1,a2,a3,a4⟩
    refine⟨?_,?_⟩<;>split<;>omega
  unfold mT;by_cases hc:(gx f t st v).1<(gx f t st v).2
  .rw[ah hc,jc,fi,ih,he];constructor
   .rintro (⟨a1,a2,a3,a4⟩|⟨a1,a2,u,hu,a3⟩)
    .exact⟨a1,a2,v,af,a3,a4⟩
    .exact⟨a1,a2,u,by simp[hu],a3⟩
   .rintro⟨a1,a2,u,hu,a3⟩
    rcases jl.1 hu with rfl|hu
    .exact .inl ⟨a1,a2,a3⟩
    .exact .inr ⟨a1,a2,u,hu,a3⟩
  .rw[ak hc,jd,ih];constructor
   .rintro⟨a1,a2,u,hu,a3⟩;exact⟨a1,a2,u,by simp[hu],a3⟩
   .rintro⟨a1,a2,u,hu,a3⟩
    rcases jl.1 hu with rfl|hu
    .have:=he.2 ⟨a1,a2,a3⟩;omega
    .exact⟨a1,a2,u,hu,a3⟩
theorem ZO{w:WL}(hw:gF 0 w){f t:q}:∀(m:F)(st:q),t<=st+604800*m->
  pk st (pY w f t m st)/\(∀s∈pY w f t m st,f<=s.1/\s.2<=t)/\(pY w f t m st).length<=w.length*m/\∀x,bG x (pY w f t m st)↔f<=x/\x<t/\st<=x/\hasB ((x-st)%604800) w=true
 |0,st,hm=>⟨trivial,λs hs=>by simp[pY]at hs,by simp[pY],λx=>⟨λh=>absurd h fU,λh=>aa⟩⟩
 |m+1,st,hm=>by
  obtain⟨i1,i2,i3,i4⟩:=ZO hw (f:=f) (t:=t) m (st+604800) aa;obtain⟨j1,j2⟩:=ZM (f:=f) (t:=t) (st:=st) hw;rw[Int.add_zero]at j1;unfold pY;by_cases au:st<t
  .rw[ah au,jc];refine⟨ZC j1 i1 aa (λs hs=>(j2 s hs).2.2),λs hs=>?_,?_,λx=>?_⟩
   .rcases js.1 hs with hs|hs
    .exact⟨(j2 s hs).1,(j2 s hs).2.1⟩
    .exact i2 s hs
   .have:=QW f t st w;rw[jn,Nat.mul_succ];omega
   .rw[wR,i4 x,ZN hw];constructor
    .rintro (⟨a1,a2,v,hv,a3,a4⟩|⟨a1,a2,a3,a4⟩)
     .obtain⟨i,hi,rfl⟩:=yn hv;have hg:=zT hw i hi;rw[show w.getD i (0,0)=w[i] by simp[hi]]at hg;exact⟨a1,a2,aa,Fw.2 ⟨w[i],hv,aa,aa⟩⟩
     .refine⟨a1,a2,aa,?_⟩;rw[show (x-st)%604800=(x-(st+604800))%604800 by omega];exact a4
    .rintro⟨a1,a2,a3,a4⟩
     by_cases hx:st+604800<=x
     .refine .inr ⟨a1,a2,hx,?_⟩;rw[show (x-(st+604800))%604800=(x-st)%604800 by omega];exact a4
     .obtain⟨v,hv,c1,c2⟩:=Fw.1 a4;have e1:(x-st)%604800=x-st:=aa;rw[e1]at c1 c2;exact .inl ⟨a1,a2,v,hv,aa,aa⟩
  .rw[ak au,jd];exact⟨trivial,λs hs=>by simp at hs,af,λx=>⟨λh=>absurd h fU,λh=>aa⟩⟩
theorem jCg{w:WL}(hw:gF 0 w)(hl:w.length<=14){f t n:q}(hf:0<=f)(ht:t<=8589934592)(kC:f<t)(hn : -64800<=n)(xD:n<=64800){M:F}(hM:M<=60)(hlen:t-f<=604800*M) :
  ∃P,jaf w f t n=G P/\pk f P/\(∀s∈P,s.2<=t)/\P.length<=w.length*(M+1)/\∀x,bG x P↔f<=x/\x<t/\hasB ((x+n+259200)%604800) w=true:=by
 have e1:j6Z ((f+n+864000)/86400-10,(f+n+864000)%86400)=G ((f+n+259200)%604800):=by rw[FG aa aa aa aa];congr 1;omega
 generalize aO:f-(f+n+259200)%604800=st
 obtain⟨a1,a2,a3,a4⟩:=ZO hw (f:=f) (t:=t) (M+1) st aa;refine⟨pY w f t (M+1) st,?_,jyB a1 (λs hs=>(a2 s hs).1),λs hs=>(a2 s hs).2,a3,λx=>?_⟩
 .simp only[jaf];rw[ar (x:=f+n),ar (x:=f+n+864000),uz aa,ar (x:=(f+n+864000)/86400),ar (x:=(f+n+864000)/86400-10),zL aa,e1];simp only[ja];rw[ar (x:=f+n-(f+n+259200)%604800),ar (x:=f+n-(f+n+259200)%604800-n),show f+n-(f+n+259200)%604800-n=st by omega];rw[ZL hw hl ht (M+1) st [] aa aa ay];simp
 .rw[a4 x];constructor
  .rintro⟨b1,b2,b3,b4⟩
   refine⟨b1,b2,?_⟩;rw[show (x+n+259200)%604800=(x-st)%604800 by omega];exact b4
  .rintro⟨b1,b2,b4⟩
   refine⟨b1,b2,aa,?_⟩;rw[show (x-st)%604800=(x+n+259200)%604800 by omega];exact b4
def QX(o:q)(l:bg)(w:WL)(a b:q)(k:F)(x:q):Prop:=a<=x/\x<b/\∃j,j<k/\aS l j<=x/\x<aS l (j+1)/\hasB ((x+bj o l j+259200)%604800) w=true
theorem QY{o:q}{l:bg}(h:iD o l){w:WL}(hw:gF 0 w)(hl:w.length<=14){M:F}(hM:M<=60){a b:q}(ha:0<=a)(cX:a<=b)(hb:b<=8589934592)(hlen:b-a<=604800*M)(nm:I)(rs:O aH)(jK:l.length<=20){c:F}(gI:w.length*(M+1)<=c)(eS:c<=854):∀(n k:F)(acc:SL),k+n=l.length+1->
  bX (a-1) acc->(∀s∈acc,s.2<=max a (aS l k)/\s.2<=b)->acc.length<=c*k->(∀x,bG x acc↔QX o l w a b k x)->
  ∃out,ES w a b ((k:q)-1) nm o rs l acc=G out/\bX (a-1) out/\(∀s∈out,s.2<=b)/\out.length<=c*(l.length+1)/\∀x,bG x out↔QX o l w a b (l.length+1) x
 |0,k,acc,hk,h1,h2,h3,h4=>by
  have hk:k=l.length+1:=aa;subst hk;refine⟨acc,?_,h1,λs hs=>(h2 s hs).2,h3,h4⟩;rw[Wr];simp only[j5l,show D l.length=(l.length:q) from rfl];rw[ak aa,jd,ba]
 |n+1,k,acc,hk,h1,h2,h3,h4=>by
  have iz:k<=l.length:=aa;have vU:c*k<=854*20:=z7 eS aa;have dj:c*(k+1)=c*k+c:=Nat.mul_succ c k;have o0:=h.of0 k iz;have o1:=h.of1 k iz;have fD:=h.frm_lt (i:=k) iz;have mi:=h.frm_le (i:=0) (j:=k) aa aa;rw[lD]at mi;have gP:k=l.length->aS l (k+1)=8589934593:=λe=>by rw[e];exact lE
  have key:∀A:Option ((WL×q×q×q×I×q×O aH×bg×SL) ⊕ SL),
    A=(if max a (aS l k)<min b (aS l (k+1)) then (jaf w (max a (aS l k)) (min b (aS l (k+1))) (bj o l k)).bind λp=>(jcE acc p).bind λj=>G (.inl (w,a,b,(k:q),nm,o,rs,l,j)) else G (.inl (w,a,b,(k:q),nm,o,rs,l,acc)))->
    ∃out,lpK A (λh=>ES h.1 h.2.1 h.2.2.1 h.2.2.2.1 h.2.2.2.2.1 h.2.2.2.2.2.1 h.2.2.2.2.2.2.1 h.2.2.2.2.2.2.2.1 h.2.2.2.2.2.2.2.2)=G out/\bX (a-1) out/\(∀s∈out,s.2<=b)/\out.length<=c*(l.length+1)/\∀x,bG x out↔QX o l w a b (l.length+1) x:=by
   intro A hA;have e1:((k+1:F):q)-1=(k:q):=aa;by_cases hc:max a (aS l k)<min b (aS l (k+1))
   .rw[if_pos hc]at hA;obtain⟨p,ep,p1,p2,p3,p4⟩:=jCg hw hl (f:=max a (aS l k)) (t:=min b (aS l (k+1))) aa aa hc o0 o1 hM aa;obtain⟨q1,q2,q3,q4⟩:=ZI (p:=a-1) (hi:=min b (aS l (k+1))) p acc (max a (aS l k)) h1 p1 aa (λs hs=>(h2 s hs).1) aa p2;rw[ep,ja,jyC aa aa,ja]at hA;rw[hA,aV];have ih:=QY h hw hl hM ha cX hb hlen nm rs jK gI eS n (k+1) (p.foldl im acc) aa q1 (λs hs=>by have:=q3 s hs;omega) aa (λx=>?_)
    .rw[e1]at ih;exact ih
    .rw[q2 x,h4 x,p4 x];constructor
     .rintro (⟨a1,a2,j,a3,a4⟩|⟨a1,a2,a3⟩)
      .exact⟨a1,a2,j,aa,a4⟩
      .exact⟨aa,aa,k,aa,aa,aa,a3⟩
     .rintro⟨a1,a2,j,a3,a4,a5,a6⟩
      by_cases hj:j=k
      .subst hj;exact .inr ⟨aa,aa,a6⟩
      .exact .inl ⟨a1,a2,j,aa,a4,a5,a6⟩
   .rw[if_neg hc]at hA;rw[hA,aV];have ih:=QY h hw hl hM ha cX hb hlen nm rs jK gI eS n (k+1) acc aa h1 (λs hs=>by have:=h2 s hs;omega) aa (λx=>?_)
    .rw[e1]at ih;exact ih
    .rw[h4 x];constructor
     .rintro⟨a1,a2,j,a3,a4⟩
      exact⟨a1,a2,j,aa,a4⟩
     .rintro⟨a1,a2,j,a3,a4,a5,a6⟩
      by_cases hj:j=k
      .subst hj;omega
      .exact⟨a1,a2,j,aa,a4,a5,a6⟩
  rw[Wr];refine key _ ?_;simp only[j5l,show D l.length=(l.length:q) from rfl];rw[ah (show (k:q)-1<(l.length:q) by omega),jc,ar (x:=(k:q)-1+1),show (k:q)-1+1=(k:q) by omega];have eI:∀u:q,(if u>a then u else a)=max a u:=λu=>by split<;>omega
  have nj:∀u:q,(if u<b then u else b)=min b u:=λu=>by split<;>omega
  rcases yw k with kN|kN
  .subst kN;have et:bj o l 0=o:=rfl;have em:max a (aS l 0)=a:=by rw[lD];omega
   rw[ak (show¬((0:F):q)-1>=0 by omega),jd,em,et];by_cases ix:0<l.length
   .have ef:(l.getD 0 ((0:q),(0:q))).1=aS l 1:=(gE ix).symm;rw[ah (show ((0:F):q)<(l.length:q) by omega),jc,cb (i:=((0:F):q)) aa aa,jc,je,ef,nj];by_cases hc:a<min b (aS l 1)
    .rw[ah hc,if_pos hc];rfl
    .rw[ak hc,if_neg hc];rfl
   .have ef:min b (aS l (0+1))=b:=by rw[gP aa];omega
    rw[ak (show¬((0:F):q)<(l.length:q) by omega),jd,ef];by_cases hc:a<b
    .rw[ah hc,if_pos hc];rfl
    .rw[ak hc,if_neg hc];rfl
  .obtain⟨k,rfl⟩:∃k',k=k'+1:=⟨k-1,aa⟩;have e1:((k+1:F):q)-1=(k:q):=aa;have et:(l.getD k ((0:q),(0:q))).2=bj o l (k+1):=rfl;have ef0:(l.getD k ((0:q),(0:q))).1=aS l (k+1):=(gE aa).symm;rw[e1,ah (show (k:q)>=0 by omega),jc,cb (i:=(k:q)) aa aa];simp only[jc,je,et,ef0,eI];by_cases ix:k+1<l.length
   .have ef:(l.getD (k+1) ((0:q),(0:q))).1=aS l (k+1+1):=(gE ix).symm;rw[ah (show ((k+1:F):q)<(l.length:q) by omega),jc,cb (i:=((k+1:F):q)) aa aa,jc,ef,nj];by_cases hc:max a (aS l (k+1))<min b (aS l (k+1+1))
    .rw[ah hc,if_pos hc];rfl
    .rw[ak hc,if_neg hc];rfl
   .have ef:min b (aS l (k+1+1))=b:=by rw[gP aa];omega
    rw[ak (show¬((k+1:F):q)<(l.length:q) by omega),jd,ef];by_cases hc:max a (aS l (k+1))<b
    .rw[ah hc,if_pos hc];rfl
    .rw[ak hc,if_neg hc];rfl
theorem jux{z:I×(q×O aH)}{l:bg}(h4:Z4 z l)(jK:l.length<=20){w:WL}(vU:j6G w=G 0)(hw:gF 0 w)(hl:w.length<=14){M:F}(hM:M<=60){a b:q}(ha:0<=a)(cX:a<=b)(hb:b<=8589934592)(hlen:b-a<=604800*M)(hq:b-a<=34560000) :
  ∃out,jdH z w a b=G (if out.length>4096 then ([],5) else (out,0))/\bX (a-1) out/\(∀s∈out,s.2<=b)/\out.length<=w.length*(M+1)*(l.length+1)/\
   ∀k,k<=l.length->∀x,a<=x->x<b->aS l k<=x->x<aS l (k+1)->(bG x out↔hasB ((x+bj z.2.1 l k+259200)%604800) w=true):=by
 obtain⟨out,e,o1,o2,o3,o4⟩:=QY h4.2 hw hl hM ha cX hb hlen z.1 z.2.2 jK (jy _) (qc (z7 hl (show M+1<=61 by omega)) (by decide)) (l.length+1) 0 [] aa trivial (λs hs=>by simp at hs) af (λx=>⟨λh=>absurd h fU,λ⟨_,_,j,hj,_⟩=>aa⟩);rw[show ((0:F):q)-1 = -1 from rfl]at e;refine⟨out,?_,o1,o2,o3,λk hk x x0 x1 k0 k1=>?_⟩
 .have er:j8P a b=G true:=by simp only[j8P];rw[ah (show a>=0 from ha),ah (show a<=8589934592 by omega),ah (show b>=a from cX),ah hb,ar (x:=b-a),ah hq];rfl
  simp only[jdH,show j0d (z.1,(z.2.1,z.2.2))=_ from h4.1,ja,jm,jd,vU,er,jk,e,show D out.length=(out.length:q) from rfl];by_cases hg:out.length>4096
  .rw[ah (show (out.length:q)>4096 by omega),if_pos hg];rfl
  .rw[ak (show¬(out.length:q)>4096 by omega),if_neg hg];rfl
 .rw[o4 x];constructor
  .rintro⟨_,_,j,hj,j0,j1,j2⟩
   have:j=k:=by
    rcases vp j k with au|he|au
    .have:=h4.2.frm_le (i:=j+1) (j:=k) aa aa;omega
    .exact he
    .have:=h4.2.frm_le (i:=k+1) (j:=j) aa aa;omega
   subst this;exact j2
  .exactλhx=>⟨x0,x1,k,aa,k0,k1,hx⟩
end Go.Proofs.Pw
