/- eU 5, the reference: the times of AA are the wj form of their mR. -/
import Derived.Test.YtbpjdcbbmibehaaGreatWEPD
import Derived.Test.YtbpjdcbbmibehaaGreatWEPC
open Go Go.Lft
namespace Go.Proofs.Pw
theorem K5:∀{l l':SL}{p q:Int},ed p l->ed q l'->(∀x,dI x l↔dI x l')->l=l'
 |[],[],_,_,_,_,_=>rfl
 |[],s::r,_,_,_,h',hx=>absurd ((hx s.1).2 (eF.2 (.inl ⟨ql _,h'.2.1⟩))) iB
 |s::r,[],_,_,h,_,hx=>absurd ((hx s.1).1 (eF.2 (.inl ⟨ql _,h.2.1⟩))) iB
 |s::r,s'::r',p,q,h,h',hx=>by
  obtain⟨h1,h2,h3⟩:=h;obtain⟨g1,g2,g3⟩:=h'
  have e1:s.1=s'.1:=by
   have a1:=(hx s.1).1 (eF.2 (.inl ⟨ql _,h2⟩));have a2:=(hx s'.1).2 (eF.2 (.inl ⟨ql _,g2⟩));rcases eF.1 a1 with a1|a1
   .rcases eF.1 a2 with a2|a2
    .omega
    .have:=h3.low a2;omega
   .have:=g3.low a1;rcases eF.1 a2 with a2|a2
    .omega
    .have:=h3.low a2;omega
  have e2:s.2=s'.2:=by
   apply Classical.byContradiction;intro aB;by_cases ak:s.2<s'.2
   .rcases eF.1 ((hx s.2).2 (eF.2 (.inl ⟨by omega,ak⟩))) with a|a
    .omega
    .have:=h3.low a;omega
   .rcases eF.1 ((hx s'.2).1 (eF.2 (.inl ⟨by omega,by omega⟩))) with a|a
    .omega
    .have:=g3.low a;omega
  have hs:s=s':=Prod.ext e1 e2;subst hs;rw[K5 h3 g3 (λx=>?_)];constructor
  .intro a;have:=h3.low a;exact(eF.1 ((hx x).1 (eF.2 (.inr a)))).resolve_left (by omega)
  .intro a;have:=g3.low a;exact(eF.1 ((hx x).2 (eF.2 (.inr a)))).resolve_left (by omega)
theorem K6:∀{A B:SL}{lo mid:Int},kT lo A->kT mid B->lo<=mid->(∀s∈A,s.2<=mid)->kT lo (A++B)
 |[],B,lo,mid,_,hB,h,_=>hB.weak h
 |s::A,B,lo,mid,hA,hB,h,hs=>⟨hA.1,hA.2.1,K6 hA.2.2 hB (hs s (by simp)) (λu hu=>hs u (by simp[hu]))⟩
theorem U4{f lo:Int}:∀{l:SL},kT lo l->(∀s∈l,f<=s.1)->kT f l
 |[],_,_=>trivial
 |s::r,h,hf=>⟨hf s (by simp),h.2⟩
theorem K7:∀{A:SL}{p:Int}{x:Int×Int},ed p A->p<x.1->(∀s∈A,s.2<x.1)->x.1<x.2->ed p (A++[x])
 |[],_,_,_,hp,_,hx=>⟨hp,hx,trivial⟩
 |s::A,p,x,h,_,hs,hx=>⟨h.1,h.2.1,K7 h.2.2 (hs s (by simp)) (λu hu=>hs u (by simp[hu])) hx⟩
theorem K8:∀{A:SL}{p e:Int}{y:Int×Int},ed p (A++[y])->y.2<=e->ed p (A++[(y.1,e)])
 |[],_,_,_,h,he=>⟨h.1,by have:=h.2.1;dsimp only;omega,trivial⟩
 |_::A,_,_,_,h,he=>⟨h.1,h.2.1,K8 h.2.2 he⟩
theorem K9:∀{A:SL}{p:Int}{y:Int×Int},ed p (A++[y])->∀s∈A,s.2<y.1
 |[],_,_,_,s,hs=>by simp at hs
 |u::A,p,y,h,s,hs=>by
  have low:∀{A:SL}{p:Int},ed p (A++[y])->p<y.1:=by
   intro A;induction A with
   |nil=>intro p h;exact h.1
   |cons v r ih=>intro p h;have:=ih h.2.2;have:=h.1;have:=h.2.1;omega
  rcases jf.1 hs with rfl|hs
  .exact low h.2.2
  .exact K9 h.2.2 s hs
def eG(l:SL)(x:Int×Int):SL:=cond (decide (0<l.length)&&decide ((l.getD (l.length-1) (0,0)).2=x.1)) (l.set (l.length-1) ((l.getD (l.length-1) (0,0)).1,x.2)) (l++[x])
theorem La(l:SL)(x:Int×Int):(eG l x).length<=l.length+1:=by
 unfold eG;cases (decide (0<l.length)&&decide ((l.getD (l.length-1) (0,0)).2=x.1))<;>simp
theorem U5{p:Int}{l:SL}{x:Int×Int}(h:ed p l)(hp:p<x.1)(hx:x.1<x.2)(hl:∀s∈l,s.2<=x.1) :
  ed p (eG l x)/\(∀y,dI y (eG l x)↔dI y l\/(x.1<=y/\y<x.2))/\(∀s∈eG l x,s.2<=x.2):=by
 rcases List.eq_nil_or_concat l with rfl|⟨A,u,rfl⟩
 .refine⟨⟨hp,hx,trivial⟩,λy=>?_,λs hs=>?_⟩
  .show dI y [x]↔_;rw[eF];constructor
   .rintro (h|h)
    .exact .inr h
    .exact absurd h iB
   .rintro (h|h)
    .exact absurd h iB
    .exact .inl h
  .have:s=x:=by simpa[eG]using hs
   rw[this];exact ql _
 .rw[List.concat_eq_append]at h hl ⊢;have ak:=K9 h;have hu:=hl u (by simp);have hg:(A++[u]).getD ((A++[u]).length-1) ((0:Int),(0:Int))=u:=by simp[List.getD]
  unfold eG;rw[hg];by_cases he:u.2=x.1
  .rw[ao (by simp),ao he];simp only[Bool.and_self,j6];have fv:(A++[u]).set ((A++[u]).length-1) (u.1,x.2)=A++[(u.1,x.2)]:=by simp
   rw[fv];refine⟨K8 h (by omega),λy=>?_,λs hs=>?_⟩
   .rw[uB,uB,eF,eF]
    have vg:u.1<u.2:=by
     have:∀{A:SL}{p:Int},ed p (A++[u])->u.1<u.2:=by
      intro A;induction A with
      |nil=>intro p h;exact h.2.1
      |cons v r ih=>intro p h;exact ih h.2.2
     exact this h
    constructor
    .rintro (h|h|h)
     .exact .inl (.inl h)
     .dsimp only at h
      by_cases hy:y<u.2
      .exact .inl (.inr (.inl ⟨h.1,hy⟩))
      .exact .inr ⟨by omega,h.2⟩
     .exact absurd h iB
    .rintro ((h|h|h)|h)
     .exact .inl h
     .exact .inr (.inl ⟨h.1,by dsimp only;omega⟩)
     .exact absurd h iB
     .exact .inr (.inl ⟨by dsimp only;omega,h.2⟩)
   .rcases jp.1 hs with hs|hs
    .have:=hl s (by simp[hs]);omega
    .have:s=(u.1,x.2):=by simpa using hs
     rw[this];exact ql _
  .rw[aw he];simp only[Bool.and_false,j7];refine⟨K7 h hp (λs hs=>?_) hx,λy=>?_,λs hs=>?_⟩
   .rcases jp.1 hs with cW|cW
    .have:=ak s cW
     have vg:u.1<u.2:=by
      have:∀{A:SL}{p:Int},ed p (A++[u])->u.1<u.2:=by
       intro A;induction A with
       |nil=>intro p h;exact h.2.1
       |cons v r ih=>intro p h;exact ih h.2.2
      exact this h
     omega
    .have:s=u:=by simpa using cW
     rw[this];omega
   .rw[uB (r:=[x]),eF (l:=[])];constructor
    .rintro (h|h|h)
     .exact .inl h
     .exact .inr h
     .exact absurd h iB
    .rintro (h|h)
     .exact .inl h
     .exact .inr (.inl h)
   .rcases jp.1 hs with cW|cW
    .have:=hl s cW;omega
    .have:s=x:=by simpa using cW
     rw[this];exact ql _
theorem Lb{p hi:Int}:∀(b l:SL)(lo:Int),ed p l->kT lo b->p<lo->(∀s∈l,s.2<=lo)->lo<=hi->(∀s∈b,s.2<=hi)->
  ed p (b.foldl eG l)/\(∀y,dI y (b.foldl eG l)↔dI y l\/dI y b)/\(∀s∈b.foldl eG l,s.2<=hi)/\(b.foldl eG l).length<=l.length+b.length
 |[],l,lo,h,_,_,hl,eQ,_=>⟨h,λy=>⟨.inl,λh=>h.resolve_right iB⟩,λs hs=>by have:=hl s hs;omega,by simp⟩
 |x::b,l,lo,h,hb,hp,hl,eQ,eR=>by
  obtain⟨b1,b2,b3⟩:=hb;obtain⟨j1,j2,j3⟩:=U5 h (x:=x) (by omega) b2 (λs hs=>by have:=hl s hs;omega);have hx:=eR x (by simp);obtain⟨k1,k2,k3,k4⟩:=Lb b (eG l x) x.2 j1 b3 (by omega) j3 hx (λs hs=>eR s (by simp[hs]));have:=La l x;refine⟨k1,λy=>?_,k3,?_⟩
  .show dI y (b.foldl eG (eG l x))↔_;rw[k2 y,j2 y,eF];constructor
   .rintro ((h|h)|h)
    .exact .inl h
    .exact .inr (.inl h)
    .exact .inr (.inr h)
   .rintro (h|h|h)
    .exact .inl (.inl h)
    .exact .inl (.inr h)
    .exact .inr h
  .show (b.foldl eG (eG l x)).length<=_;simp only[jm];omega
theorem Lc{b:SL}(hb:b.length<=1000000):∀(n i:Nat)(l:SL),i+n=b.length->l.length+n<=10000000->zZ b (i:Int) l=some ((b.drop i).foldl eG l)
 |0,i,l,hi,_=>by
  rw[JO];simp only[j2H,show Int.ofNat b.length=(b.length:Int) from rfl];rw[aw (by omega),j7,bC,jd (by omega)];rfl
 |n+1,i,l,hi,hl=>by
  have ak:i<b.length:=by omega
  have cU:b.getD i ((0:Int),(0:Int))=b[i]:=by simp[List.getD,ak]
  have ih:=Lc hb n (i+1) (eG l b[i]) (by omega) (by have:=La l b[i];omega);rw[show ((i+1:Nat):Int)=(i:Int)+1 by omega]at ih;rw[JO,je ak];simp only[j2H,show Int.ofNat b.length=(b.length:Int) from rfl,show Int.ofNat l.length=(l.length:Int) from rfl,List.foldl_cons];rw[ao (show (i:Int)<(b.length:Int) by omega),j6,bT (i:=(i:Int)) (n:=b.length) (by omega) (by omega),an (x:=(i:Int)+1) (by omega) (by omega)];simp only[j6,j8,cU];have ba:decide (l.length+[(b[i].1,b[i].2)].length<=bI)=true:=ao (by simp[bI];omega);by_cases h0:0<l.length
  .rw[ao (show (l.length:Int)>0 by omega),an (x:=(l.length:Int)-1) (by omega) (by omega),bT (i:=(l.length:Int)-1) (by omega) (by omega),show ((l.length:Int)-1).toNat=l.length-1 by omega];simp only[j6];by_cases he:(l.getD (l.length-1) ((0:Int),(0:Int))).2=b[i].1
   .have e:eG l b[i]=l.set (l.length-1) ((l.getD (l.length-1) ((0:Int),(0:Int))).1,b[i].2):=by unfold eG;rw[ao h0,ao he];rfl
    rw[uz he,j6,bF,<-e];exact ih
   .have e:eG l b[i]=l++[b[i]]:=by unfold eG;rw[aw he,Bool.and_false];rfl
    rw[nC he,j7,ba,j6,bF];rw[e]at ih ⊢;exact ih
  .have e:eG l b[i]=l++[b[i]]:=by unfold eG;rw[aw h0];rfl
   rw[aw (show¬(l.length:Int)>0 by omega),j7,ba,j6,bF];rw[e]at ih ⊢;exact ih
theorem U6{l b:SL}(hb:b.length<=1000000)(hl:l.length<=1000000):j5Q l b=some (b.foldl eG l):=by
 have:=Lc hb b.length 0 l (by omega) (by omega);rw[show ((0:Nat):Int)=0 from rfl,ka]at this;simp only[j5Q,this,j4]
theorem xK{d s:Int}(hd : -1<=d)(na:d<=1000000)(hs:0<=s)(iH:s<=86399):j5f (d,s)=some ((d*86400+s+259200)%604800):=by
 have e:Int.tmod d 7+10=d%7+10\/d = -1:=by
  by_cases h:0<=d
  .exact .inl (by rw[qQ h])
  .exact .inr (by omega)
 simp only[j5f,j5m,j4];rcases e with e|rfl
 .rw[e,an (x:=d%7+10) (by omega) (by omega),qQ (by omega),an (x:=(d%7+10)%7*86400) (by omega) (by omega),an (x:=(d%7+10)%7*86400+s) (by omega) (by omega)];congr 1;omega
 .rw[show Int.tmod (-1) 7 = -1 from rfl,an (x:= -1+10) (by omega) (by omega),show Int.tmod (-1+10) 7=2 from rfl,an (x:=2*86400) (by omega) (by omega),an (x:=2*86400+s) (by omega) (by omega)];congr 1;omega
def iC(f t st:Int):WL->SL
 |[]=>[]
 |v::r=>cond (decide ((dS f t st v).1<(dS f t st v).2)) (dS f t st v::iC f t st r) (iC f t st r)
def lx(w:WL)(f t:Int):Nat->Int->SL
 |0,_=>[]
 |m+1,st=>cond (decide (st<t)) (iC f t st w++lx w f t m (st+604800)) []
theorem FD(f t st:Int):∀w:WL,(iC f t st w).length<=w.length
 |[]=>by simp[iC]
 |v::r=>by
  have:=FD f t st r;unfold iC;cases decide ((dS f t st v).1<(dS f t st v).2)<;>simp<;>omega
theorem Ld{w:WL}(hw:eB 0 w)(hl:w.length<=14){st f t:Int}(aj : -1000000<=st)(br:st<=8600000000):∀(n i:Nat)(acc:SL),i+n=w.length->acc.length+n<=1000000->
  zX w f t st (i:Int) acc=some (w,f,t,st,acc++iC f t st (w.drop i))
 |0,i,acc,hi,_=>by
  rw[JM];simp only[j2m,show Int.ofNat w.length=(w.length:Int) from rfl];rw[aw (by omega),j7,bC,jd (by omega)];simp[iC]
 |n+1,i,acc,hi,ha=>by
  have ak:i<w.length:=by omega
  have cU:w.getD i ((0:Int),(0:Int))=w[i]:=by simp[ak]
  have hg:=oY hw i ak;rw[cU]at hg;rw[JM,je ak];simp only[j2m,show Int.ofNat w.length=(w.length:Int) from rfl];rw[ao (show (i:Int)<(w.length:Int) by omega),bT (by omega) (by omega)];simp only[j6,j8,cU];rw[an (x:=(i:Int)+1) (by omega) (by omega),an (x:=st+w[i].1) (by omega) (by omega),an (x:=st+w[i].2) (by omega) (by omega)];have ec:(decide ((if st+w[i].1>f then st+w[i].1 else f)<(if st+w[i].2<t then st+w[i].2 else t)))=decide ((dS f t st w[i]).1<(dS f t st w[i]).2):=rfl;rw[ec];have ih:=λacc h=>Ld hw hl aj br (f:=f) (t:=t) n (i+1) acc (by omega) h;rw[show ((i+1:Nat):Int)=(i:Int)+1 by omega]at ih;simp only[iC];cases decide ((dS f t st w[i]).1<(dS f t st w[i]).2) with
  |true=>rw[j6,ao (by simp[bI];omega),j6,bF,j6];have:=ih (acc++[dS f t st w[i]]) (by simp;omega);rw[jj]at this;exact this
  |false=>rw[j7,bF,j7];exact ih acc (by omega)
theorem Le{w:WL}(hw:eB 0 w)(hl:w.length<=14){f t:Int}(ht:t<=8589934592):∀(m:Nat)(st:Int)(acc:SL), -1000000<=st->t<=st+604800*m->acc.length+14*m<=900000->
  zY w f t st acc=some (acc++lx w f t m st)
 |0,st,acc,aj,hm,_=>by
  rw[JN];simp only[j2n];rw[aw (by omega),j7,bC];simp[lx]
 |m+1,st,acc,aj,hm,fJ=>by
  rw[JN];simp only[j2n,lx];by_cases ak:st<t
  .have h2:=Ld hw hl aj (by omega) (f:=f) (t:=t) w.length 0 acc (by omega) (by omega);rw[show ((0:Nat):Int)=0 from rfl,ka]at h2;have hlen:=FD f t st w;rw[ao ak,j6,h2];simp only[j4,j6];rw[an (x:=st+604800) (by omega) (by omega),bF];have:=Le hw hl ht m (st+604800) (acc++iC f t st w) (by omega) (by omega) (by simp;omega) (f:=f);rw[jj]at this;exact this
  .rw[aw ak,j7,bC,j7,kz]
theorem Lf{f t st:Int}:∀{w:WL}{p:Int},eB p w->kT (st+p) (iC f t st w)/\∀s∈iC f t st w,f<=s.1/\s.2<=t/\s.2<=st+604800
 |[],_,_=>⟨trivial,λs hs=>by simp[iC]at hs⟩
 |v::r,p,h=>by
  obtain⟨h1,h2,h3,h4⟩:=h;obtain⟨i1,i2⟩:=Lf (f:=f) (t:=t) (st:=st) h4;unfold iC;by_cases hc:(dS f t st v).1<(dS f t st v).2
  .have e1:st+v.1<=(dS f t st v).1/\f<=(dS f t st v).1:=by unfold dS;dsimp only;split<;>omega
   have e2:(dS f t st v).2<=st+v.2/\(dS f t st v).2<=t:=by unfold dS;dsimp only;split<;>omega
   rw[ao hc,j6];refine⟨⟨by omega,hc,i1.weak (by omega)⟩,λs hs=>?_⟩;rcases jf.1 hs with rfl|hs
   .exact⟨e1.2,e2.2,by omega⟩
   .exact i2 s hs
  .rw[aw hc,j7];exact⟨i1.weak (by omega),i2⟩
theorem Lg{f t st x:Int}:∀{w:WL}{p:Int},eB p w->(dI x (iC f t st w)↔f<=x/\x<t/\∃v∈w,st+v.1<=x/\x<st+v.2)
 |[],_,_=>⟨λh=>absurd h iB,λ⟨_,_,v,hv,_⟩=>by simp at hv⟩
 |v::r,p,h=>by
  obtain⟨h1,h2,h3,h4⟩:=h;have ih:=Lg (f:=f) (t:=t) (st:=st) (x:=x) h4
  have he:((dS f t st v).1<=x/\x<(dS f t st v).2)↔f<=x/\x<t/\st+v.1<=x/\x<st+v.2:=by
   unfold dS;dsimp only;constructor
   .rintro⟨a1,a2⟩
    have b1:f<=x/\st+v.1<=x:=by split at a1<;>omega
    have b2:x<t/\x<st+v.2:=by split at a2<;>omega
    exact⟨b1.1,b2.1,b1.2,b2.2⟩
   .rintro⟨a1,a2,a3,a4⟩
    refine⟨?_,?_⟩<;>split<;>omega
  unfold iC;by_cases hc:(dS f t st v).1<(dS f t st v).2
  .rw[ao hc,j6,eF,ih,he];constructor
   .rintro (⟨a1,a2,a3,a4⟩|⟨a1,a2,u,hu,a3⟩)
    .exact⟨a1,a2,v,by simp,a3,a4⟩
    .exact⟨a1,a2,u,by simp[hu],a3⟩
   .rintro⟨a1,a2,u,hu,a3⟩
    rcases jf.1 hu with rfl|hu
    .exact .inl ⟨a1,a2,a3⟩
    .exact .inr ⟨a1,a2,u,hu,a3⟩
  .rw[aw hc,j7,ih];constructor
   .rintro⟨a1,a2,u,hu,a3⟩;exact⟨a1,a2,u,by simp[hu],a3⟩
   .rintro⟨a1,a2,u,hu,a3⟩
    rcases jf.1 hu with rfl|hu
    .have:=he.2 ⟨a1,a2,a3⟩;omega
    .exact⟨a1,a2,u,hu,a3⟩
theorem Lh{w:WL}(hw:eB 0 w){f t:Int}:∀(m:Nat)(st:Int),t<=st+604800*m->
  kT st (lx w f t m st)/\(∀s∈lx w f t m st,f<=s.1/\s.2<=t)/\(lx w f t m st).length<=w.length*m/\∀x,dI x (lx w f t m st)↔f<=x/\x<t/\st<=x/\hasB ((x-st)%604800) w=true
 |0,st,hm=>⟨trivial,λs hs=>by simp[lx]at hs,by simp[lx],λx=>⟨λh=>absurd h iB,λh=>by omega⟩⟩
 |m+1,st,hm=>by
  obtain⟨i1,i2,i3,i4⟩:=Lh hw (f:=f) (t:=t) m (st+604800) (by omega);obtain⟨j1,j2⟩:=Lf (f:=f) (t:=t) (st:=st) hw;rw[Int.add_zero]at j1;unfold lx;by_cases ak:st<t
  .rw[ao ak,j6];refine⟨K6 j1 i1 (by omega) (λs hs=>(j2 s hs).2.2),λs hs=>?_,?_,λx=>?_⟩
   .rcases jp.1 hs with hs|hs
    .exact⟨(j2 s hs).1,(j2 s hs).2.1⟩
    .exact i2 s hs
   .have:=FD f t st w;rw[jn,Nat.mul_succ];omega
   .rw[uB,i4 x,Lg hw];constructor
    .rintro (⟨a1,a2,v,hv,a3,a4⟩|⟨a1,a2,a3,a4⟩)
     .obtain⟨i,hi,rfl⟩:=List.getElem_of_mem hv;have hg:=oY hw i hi;rw[show w.getD i (0,0)=w[i] by simp[hi]]at hg;exact⟨a1,a2,by omega,xJ.2 ⟨w[i],hv,by omega,by omega⟩⟩
     .refine⟨a1,a2,by omega,?_⟩;rw[show (x-st)%604800=(x-(st+604800))%604800 by omega];exact a4
    .rintro⟨a1,a2,a3,a4⟩
     by_cases hx:st+604800<=x
     .refine .inr ⟨a1,a2,hx,?_⟩;rw[show (x-(st+604800))%604800=(x-st)%604800 by omega];exact a4
     .obtain⟨v,hv,c1,c2⟩:=xJ.1 a4;have e1:(x-st)%604800=x-st:=by omega
      rw[e1]at c1 c2;exact .inl ⟨a1,a2,v,hv,by omega,by omega⟩
  .rw[aw ak,j7];exact⟨trivial,λs hs=>by simp at hs,by simp,λx=>⟨λh=>absurd h iB,λh=>by omega⟩⟩
theorem U7{w:WL}(hw:eB 0 w)(hl:w.length<=14){f t n:Int}(hf:0<=f)(ht:t<=8589934592)(UX:f<t)(hn : -64800<=n)(rE:n<=64800){M:Nat}(hM:M<=60)(hlen:t-f<=604800*M) :
  ∃P,j4L w f t n=some P/\kT f P/\(∀s∈P,s.2<=t)/\P.length<=w.length*(M+1)/\∀x,dI x P↔f<=x/\x<t/\hasB ((x+n+259200)%604800) w=true:=by
 have e1:j5f ((f+n+864000)/86400-10,(f+n+864000)%86400)=some ((f+n+259200)%604800):=by rw[xK (by omega) (by omega) (by omega) (by omega)];congr 1;omega
 generalize aj:f-(f+n+259200)%604800=st
 obtain⟨a1,a2,a3,a4⟩:=Lh hw (f:=f) (t:=t) (M+1) st (by omega);refine⟨lx w f t (M+1) st,?_,U4 a1 (λs hs=>(a2 s hs).1),λs hs=>(a2 s hs).2,a3,λx=>?_⟩
 .simp only[j4L];rw[an (x:=f+n) (by omega) (by omega),an (x:=f+n+864000) (by omega) (by omega),sK (by omega),an (x:=(f+n+864000)/86400) (by omega) (by omega),an (x:=(f+n+864000)/86400-10) (by omega) (by omega),qQ (by omega),e1];simp only[j4];rw[an (x:=f+n-(f+n+259200)%604800) (by omega) (by omega),an (x:=f+n-(f+n+259200)%604800-n) (by omega) (by omega),show f+n-(f+n+259200)%604800-n=st by omega];rw[Le hw hl ht (M+1) st [] (by omega) (by omega) (by simp;omega)];simp
 .rw[a4 x];constructor
  .rintro⟨b1,b2,b3,b4⟩
   refine⟨b1,b2,?_⟩;rw[show (x+n+259200)%604800=(x-st)%604800 by omega];exact b4
  .rintro⟨b1,b2,b4⟩
   refine⟨b1,b2,by omega,?_⟩;rw[show (x-st)%604800=(x+n+259200)%604800 by omega];exact b4
def FE(o:Int)(l:bd)(w:WL)(a b:Int)(k:Nat)(x:Int):Prop:=a<=x/\x<b/\∃j,j<k/\aH l j<=x/\x<aH l (j+1)/\hasB ((x+du o l j+259200)%604800) w=true
theorem FF{o:Int}{l:bd}(h:jB o l){w:WL}(hw:eB 0 w)(hl:w.length<=14){M:Nat}(hM:M<=60){a b:Int}(ha:0<=a)(eS:a<=b)(hb:b<=8589934592)(hlen:b-a<=604800*M)(nm:ByteArray)(rs:List aP)(ie:l.length<=20):∀(n k:Nat)(acc:SL),k+n=l.length+1->
  ed (a-1) acc->(∀s∈acc,s.2<=max a (aH l k)/\s.2<=b)->acc.length<=854*k->(∀x,dI x acc↔FE o l w a b k x)->
  ∃out,xp w a b ((k:Int)-1) nm o rs l acc=some out/\ed (a-1) out/\(∀s∈out,s.2<=b)/\out.length<=854*(l.length+1)/\∀x,dI x out↔FE o l w a b (l.length+1) x
 |0,k,acc,hk,h1,h2,h3,h4=>by
  have hk:k=l.length+1:=by omega
  subst hk;refine⟨acc,?_,h1,λs hs=>(h2 s hs).2,h3,h4⟩;rw[JP];simp only[j2o,show Int.ofNat l.length=(l.length:Int) from rfl];rw[aw (by omega),j7,bC]
 |n+1,k,acc,hk,h1,h2,h3,h4=>by
  have iy:k<=l.length:=by omega
  have o0:=h.of0 k iy;have o1:=h.of1 k iy;have dV:=h.frm_lt (i:=k) iy;have vP:=h.frm_le (i:=0) (j:=k) (by omega) (by omega);rw[oV]at vP;have eL:k=l.length->aH l (k+1)=8589934593:=λe=>by rw[e];exact uA
  have key:∀A:Option ((WL×Int×Int×Int×ByteArray×Int×List aP×bd×SL) ⊕ SL),
    A=(if max a (aH l k)<min b (aH l (k+1)) then (j4L w (max a (aH l k)) (min b (aH l (k+1))) (du o l k)).bind λp=>(j5Q acc p).bind λj=>some (.inl (w,a,b,(k:Int),nm,o,rs,l,j)) else some (.inl (w,a,b,(k:Int),nm,o,rs,l,acc)))->
    ∃out,lpK A (λh=>xp h.1 h.2.1 h.2.2.1 h.2.2.2.1 h.2.2.2.2.1 h.2.2.2.2.2.1 h.2.2.2.2.2.2.1 h.2.2.2.2.2.2.2.1 h.2.2.2.2.2.2.2.2)=some out/\ed (a-1) out/\(∀s∈out,s.2<=b)/\out.length<=854*(l.length+1)/\∀x,dI x out↔FE o l w a b (l.length+1) x:=by
   intro A hA;have e1:((k+1:Nat):Int)-1=(k:Int):=by omega
   by_cases hc:max a (aH l k)<min b (aH l (k+1))
   .rw[if_pos hc]at hA;obtain⟨p,ep,p1,p2,p3,p4⟩:=U7 hw hl (f:=max a (aH l k)) (t:=min b (aH l (k+1))) (by omega) (by omega) hc o0 o1 hM (by omega);have FC:w.length*(M+1)<=854:=ko (Nat.mul_le_mul hl (show M+1<=61 by omega)) (by decide);obtain⟨q1,q2,q3,q4⟩:=Lb (p:=a-1) (hi:=min b (aH l (k+1))) p acc (max a (aH l k)) h1 p1 (by omega) (λs hs=>(h2 s hs).1) (by omega) p2;rw[ep,j4,U6 (by omega) (by omega),j4]at hA;rw[hA,bF];have ih:=FF h hw hl hM ha eS hb hlen nm rs ie n (k+1) (p.foldl eG acc) (by omega) q1 (λs hs=>by have:=q3 s hs;omega) (by omega) (λx=>?_)
    .rw[e1]at ih;exact ih
    .rw[q2 x,h4 x,p4 x];constructor
     .rintro (⟨a1,a2,j,a3,a4⟩|⟨a1,a2,a3⟩)
      .exact⟨a1,a2,j,by omega,a4⟩
      .exact⟨by omega,by omega,k,by omega,by omega,by omega,a3⟩
     .rintro⟨a1,a2,j,a3,a4,a5,a6⟩
      by_cases hj:j=k
      .subst hj;exact .inr ⟨by omega,by omega,a6⟩
      .exact .inl ⟨a1,a2,j,by omega,a4,a5,a6⟩
   .rw[if_neg hc]at hA;rw[hA,bF];have ih:=FF h hw hl hM ha eS hb hlen nm rs ie n (k+1) acc (by omega) h1 (λs hs=>by have:=h2 s hs;omega) (by omega) (λx=>?_)
    .rw[e1]at ih;exact ih
    .rw[h4 x];constructor
     .rintro⟨a1,a2,j,a3,a4⟩
      exact⟨a1,a2,j,by omega,a4⟩
     .rintro⟨a1,a2,j,a3,a4,a5,a6⟩
      by_cases hj:j=k
      .subst hj;omega
      .exact⟨a1,a2,j,by omega,a4,a5,a6⟩
  rw[JP];refine key _ ?_;simp only[j2o,show Int.ofNat l.length=(l.length:Int) from rfl];rw[ao (show (k:Int)-1<(l.length:Int) by omega),j6,an (x:=(k:Int)-1+1) (by omega) (by omega),show (k:Int)-1+1=(k:Int) by omega];have cM:∀u:Int,(if u>a then u else a)=max a u:=λu=>by split<;>omega
  have lV:∀u:Int,(if u<b then u else b)=min b u:=λu=>by split<;>omega
  rcases Nat.eq_zero_or_pos k with pN|pN
  .subst pN;have et:du o l 0=o:=rfl;have em:max a (aH l 0)=a:=by rw[oV];omega
   rw[aw (show¬((0:Nat):Int)-1>=0 by omega),j7,em,et];by_cases gL:0<l.length
   .have ef:(l.getD 0 ((0:Int),(0:Int))).1=aH l 1:=(mO gL).symm;rw[ao (show ((0:Nat):Int)<(l.length:Int) by omega),j6,bT (i:=((0:Nat):Int)) (by omega) (by omega),j6,j8,ef,lV];by_cases hc:a<min b (aH l 1)
    .rw[ao hc,if_pos hc];rfl
    .rw[aw hc,if_neg hc];rfl
   .have ef:min b (aH l (0+1))=b:=by rw[eL (by omega)];omega
    rw[aw (show¬((0:Nat):Int)<(l.length:Int) by omega),j7,ef];by_cases hc:a<b
    .rw[ao hc,if_pos hc];rfl
    .rw[aw hc,if_neg hc];rfl
  .obtain⟨k,rfl⟩:∃k',k=k'+1:=⟨k-1,by omega⟩;have e1:((k+1:Nat):Int)-1=(k:Int):=by omega
   have et:(l.getD k ((0:Int),(0:Int))).2=du o l (k+1):=rfl;have U8:(l.getD k ((0:Int),(0:Int))).1=aH l (k+1):=(mO (by omega)).symm;rw[e1,ao (show (k:Int)>=0 by omega),j6,bT (i:=(k:Int)) (by omega) (by omega)];simp only[j6,j8,et,U8,cM];by_cases gL:k+1<l.length
   .have ef:(l.getD (k+1) ((0:Int),(0:Int))).1=aH l (k+1+1):=(mO gL).symm;rw[ao (show ((k+1:Nat):Int)<(l.length:Int) by omega),j6,bT (i:=((k+1:Nat):Int)) (by omega) (by omega),j6,ef,lV];by_cases hc:max a (aH l (k+1))<min b (aH l (k+1+1))
    .rw[ao hc,if_pos hc];rfl
    .rw[aw hc,if_neg hc];rfl
   .have ef:min b (aH l (k+1+1))=b:=by rw[eL (by omega)];omega
    rw[aw (show¬((k+1:Nat):Int)<(l.length:Int) by omega),j7,ef];by_cases hc:max a (aH l (k+1))<b
    .rw[ao hc,if_pos hc];rfl
    .rw[aw hc,if_neg hc];rfl
theorem U9{z:ByteArray×(Int×List aP)}{l:bd}(h4:Z4 z l)(ie:l.length<=20){w:WL}(nk:j2X w=some 0)(hw:eB 0 w)(hl:w.length<=14){M:Nat}(hM:M<=60){a b:Int}(ha:0<=a)(eS:a<=b)(hb:b<=8589934592)(hlen:b-a<=604800*M)(hq:b-a<=34560000) :
  ∃out,j4N z w a b=some (if out.length>4096 then ([],5) else (out,0))/\ed (a-1) out/\(∀s∈out,s.2<=b)/\out.length<=854*(l.length+1)/\
   ∀k,k<=l.length->∀x,a<=x->x<b->aH l k<=x->x<aH l (k+1)->(dI x out↔hasB ((x+du z.2.1 l k+259200)%604800) w=true):=by
 obtain⟨out,e,o1,o2,o3,o4⟩:=FF h4.2 hw hl hM ha eS hb hlen z.1 z.2.2 ie (l.length+1) 0 [] (by omega) trivial (λs hs=>by simp at hs) (by simp) (λx=>⟨λh=>absurd h iB,λ⟨_,_,j,hj,_⟩=>by omega⟩);rw[show ((0:Nat):Int)-1 = -1 from rfl]at e;refine⟨out,?_,o1,o2,o3,λk hk x x0 x1 k0 k1=>?_⟩
 .have er:j6w a b=some true:=by simp only[j6w];rw[ao (show a>=0 from ha),ao (show a<=8589934592 by omega),ao (show b>=a from eS),ao hb,an (x:=b-a) (by omega) (by omega),ao hq];rfl
  simp only[j4N,show j0V (z.1,(z.2.1,z.2.2))=_ from h4.1,j4,jl,j7,nk,er,ju,e,show Int.ofNat out.length=(out.length:Int) from rfl];by_cases hg:out.length>4096
  .rw[ao (show (out.length:Int)>4096 by omega),if_pos hg];rfl
  .rw[aw (show¬(out.length:Int)>4096 by omega),if_neg hg];rfl
 .rw[o4 x];constructor
  .rintro⟨_,_,j,hj,j0,j1,j2⟩
   have:j=k:=by
    rcases Nat.lt_trichotomy j k with ak|he|ak
    .have:=h4.2.frm_le (i:=j+1) (j:=k) (by omega) (by omega);omega
    .exact he
    .have:=h4.2.frm_le (i:=k+1) (j:=j) (by omega) (by omega);omega
   subst this;exact j2
  .exactλhx=>⟨x0,x1,k,by omega,k0,k1,hx⟩
end Go.Proofs.Pw
