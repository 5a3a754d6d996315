/- iq 5, the reference: the times of Lv are the qZ form of their Hp. -/
import Derived.Test.YtkoifkkadkmecaaGreatLRPF
import Derived.Test.YtkoifkkadkmecaaGreatLRPM
import Derived.Test.YtkoifkkadkmecaaGreatLRPE
import Derived.Test.YtkoifkkadkmecaaGreatLRPG
open _root_ renaming Int->D,Nat->G,ByteArray->J,List->O
open Int renaming ofNat->E,tmod->K
open Decidable renaming decide->F
open Option renaming some->H
open Go Go.Lft
namespace Go.Proofs.Pw
theorem T5:∀{l l':SL}{p q:D},bB p l->bB q l'->(∀x,bq x l↔bq x l')->l=l'
 |[],[],_,_,_,_,_=>rfl
 |[],s::r,_,_,_,h',hx=>absurd ((hx s.1).2 (du.2 (.inl ⟨jy _,h'.2.1⟩))) fp
 |s::r,[],_,_,h,_,hx=>absurd ((hx s.1).1 (du.2 (.inl ⟨jy _,h.2.1⟩))) fp
 |s::r,s'::r',p,q,h,h',hx=>by
  obtain⟨h1,h2,h3⟩:=h;obtain⟨g1,g2,g3⟩:=h'
  have e1:s.1=s'.1:=by
   have a1:=(hx s.1).1 (du.2 (.inl ⟨jy _,h2⟩));have a2:=(hx s'.1).2 (du.2 (.inl ⟨jy _,g2⟩));rcases du.1 a1 with a1|a1
   .rcases du.1 a2 with a2|a2
    .omega
    .have:=h3.low a2;omega
   .have:=g3.low a1;rcases du.1 a2 with a2|a2
    .omega
    .have:=h3.low a2;omega
  have e2:s.2=s'.2:=by
   apply ju;intro bz;by_cases aq:s.2<s'.2
   .rcases du.1 ((hx s.2).2 (du.2 (.inl ⟨omg_,aq⟩))) with a|a
    .omega
    .have:=h3.low a;omega
   .rcases du.1 ((hx s'.2).1 (du.2 (.inl ⟨omg_,omg_⟩))) with a|a
    .omega
    .have:=g3.low a;omega
  have hs:s=s':=Prod.ext e1 e2;subst hs;rw[T5 h3 g3 (λx=>?_)];constructor
  .intro a;have:=h3.low a;exact(du.1 ((hx x).1 (du.2 (.inr a)))).resolve_left omg_
  .intro a;have:=g3.low a;exact(du.1 ((hx x).2 (du.2 (.inr a)))).resolve_left omg_
theorem ī:∀{A B:SL}{lo mid:D},rD lo A->rD mid B->lo<=mid->(∀s∈A,s.2<=mid)->rD lo (A++B)
 |[],B,lo,mid,_,hB,h,_=>hB.weak h
 |s::A,B,lo,mid,hA,hB,h,hs=>⟨hA.1,hA.2.1,ī hA.2.2 hB (hs s smp_) (λu hu=>hs u (by simp[hu]))⟩
theorem jCS{f lo:D}:∀{l:SL},rD lo l->(∀s∈l,f<=s.1)->rD f l
 |[],_,_=>trivial
 |s::r,h,hf=>⟨hf s smp_,h.2⟩
theorem Ĭ:∀{A:SL}{p:D}{x:D×D},bB p A->p<x.1->(∀s∈A,s.2<x.1)->x.1<x.2->bB p (A++[x])
 |[],_,_,_,hp,_,hx=>⟨hp,hx,trivial⟩
 |s::A,p,x,h,_,hs,hx=>⟨h.1,h.2.1,Ĭ h.2.2 (hs s smp_) (λu hu=>hs u (by simp[hu])) hx⟩
theorem ĭ:∀{A:SL}{p e:D}{y:D×D},bB p (A++[y])->y.2<=e->bB p (A++[(y.1,e)])
 |[],_,_,_,h,he=>⟨h.1,by have:=h.2.1;dsimp only;omega,trivial⟩
 |_::A,_,_,_,h,he=>⟨h.1,h.2.1,ĭ h.2.2 he⟩
theorem Į:∀{A:SL}{p:D}{y:D×D},bB p (A++[y])->∀s∈A,s.2<y.1
 |[],_,_,_,s,hs=>by simp at hs
 |u::A,p,y,h,s,hs=>by
  have low:∀{A:SL}{p:D},bB p (A++[y])->p<y.1:=by
   intro A;induction A with
   |nil=>intro p h;exact h.1
   |cons v r ih=>intro p h;have:=ih h.2.2;have:=h.1;have:=h.2.1;omega
  rcases je.1 hs with rfl|hs
  .exact low h.2.2
  .exact Į h.2.2 s hs
def gS(l:SL)(x:D×D):SL:=cond (F (0<l.length)&&F ((l.getD (l.length-1) (0,0)).2=x.1)) (l.set (l.length-1) ((l.getD (l.length-1) (0,0)).1,x.2)) (l++[x])
theorem T6(l:SL)(x:D×D):(gS l x).length<=l.length+1:=by
 unfold gS;cases (F (0<l.length)&&F ((l.getD (l.length-1) (0,0)).2=x.1))<;>simp
theorem į{p:D}{l:SL}{x:D×D}(h:bB p l)(hp:p<x.1)(hx:x.1<x.2)(hl:∀s∈l,s.2<=x.1) :
  bB p (gS l x)/\(∀y,bq y (gS l x)↔bq y l\/(x.1<=y/\y<x.2))/\(∀s∈gS l x,s.2<=x.2):=by
 rcases vc l with rfl|⟨A,u,rfl⟩
 .refine⟨⟨hp,hx,trivial⟩,λy=>?_,λs hs=>?_⟩
  .show bq y [x]↔_;rw[du];constructor
   .rintro (h|h)
    .exact .inr h
    .exact absurd h fp
   .rintro (h|h)
    .exact absurd h fp
    .exact .inl h
  .have:s=x:=by simpa[gS]using hs
   rw[this];exact jy _
 .rw[vd]at h hl ⊢;have aq:=Į h;have hu:=hl u smp_;have hg:(A++[u]).getD ((A++[u]).length-1) ((0:D),(0:D))=u:=by simp[List.getD]
  unfold gS;rw[hg];by_cases he:u.2=x.1
  .rw[ah smp_,ah he];simp only[zt,j6];have sM:(A++[u]).set ((A++[u]).length-1) (u.1,x.2)=A++[(u.1,x.2)]:=smp_;rw[sM];refine⟨ĭ h omg_,λy=>?_,λs hs=>?_⟩
   .rw[wX,wX,du,du]
    have H4:u.1<u.2:=by
     have:∀{A:SL}{p:D},bB p (A++[u])->u.1<u.2:=by
      intro A;induction A with
      |nil=>intro p h;exact h.2.1
      |cons v r ih=>intro p h;exact ih h.2.2
     exact this h
    constructor
    .rintro (h|h|h)
     .exact .inl (.inl h)
     .dsimp only at h
      by_cases hy:y<u.2
      .exact .inl (.inr (.inl ⟨h.1,hy⟩))
      .exact .inr ⟨omg_,h.2⟩
     .exact absurd h fp
    .rintro ((h|h|h)|h)
     .exact .inl h
     .exact .inr (.inl ⟨h.1,by dsimp only;omega⟩)
     .exact absurd h fp
     .exact .inr (.inl ⟨by dsimp only;omega,h.2⟩)
   .rcases jj.1 hs with hs|hs
    .have:=hl s (by simp[hs]);omega
    .have:s=(u.1,x.2):=by simpa using hs
     rw[this];exact jy _
  .rw[ai he];simp only[Bool.and_false,j7];refine⟨Ĭ h hp (λs hs=>?_) hx,λy=>?_,λs hs=>?_⟩
   .rcases jj.1 hs with cW|cW
    .have:=aq s cW
     have H4:u.1<u.2:=by
      have:∀{A:SL}{p:D},bB p (A++[u])->u.1<u.2:=by
       intro A;induction A with
       |nil=>intro p h;exact h.2.1
       |cons v r ih=>intro p h;exact ih h.2.2
      exact this h
     omega
    .have:s=u:=by simpa using cW
     rw[this];omega
   .rw[wX (r:=[x]),du (l:=[])];constructor
    .rintro (h|h|h)
     .exact .inl h
     .exact .inr h
     .exact absurd h fp
    .rintro (h|h)
     .exact .inl h
     .exact .inr (.inl h)
   .rcases jj.1 hs with cW|cW
    .have:=hl s cW;omega
    .have:s=x:=by simpa using cW
     rw[this];exact jy _
theorem İ{p hi:D}:∀(b l:SL)(lo:D),bB p l->rD lo b->p<lo->(∀s∈l,s.2<=lo)->lo<=hi->(∀s∈b,s.2<=hi)->
  bB p (b.foldl gS l)/\(∀y,bq y (b.foldl gS l)↔bq y l\/bq y b)/\(∀s∈b.foldl gS l,s.2<=hi)/\(b.foldl gS l).length<=l.length+b.length
 |[],l,lo,h,_,_,hl,iP,_=>⟨h,λy=>⟨.inl,λh=>h.resolve_right fp⟩,λs hs=>by have:=hl s hs;omega,smp_⟩
 |x::b,l,lo,h,hb,hp,hl,iP,ir=>by
  obtain⟨b1,b2,b3⟩:=hb;obtain⟨j1,j2,j3⟩:=į h (x:=x) omg_ b2 (λs hs=>by have:=hl s hs;omega);have hx:=ir x smp_;obtain⟨k1,k2,k3,k4⟩:=İ b (gS l x) x.2 j1 b3 omg_ j3 hx (λs hs=>ir s (by simp[hs]));have:=T6 l x;refine⟨k1,λy=>?_,k3,?_⟩
  .show bq y (b.foldl gS (gS l x))↔_;rw[k2 y,j2 y,du];constructor
   .rintro ((h|h)|h)
    .exact .inl h
    .exact .inr (.inl h)
    .exact .inr (.inr h)
   .rintro (h|h|h)
    .exact .inl (.inl h)
    .exact .inl (.inr h)
    .exact .inr h
  .show (b.foldl gS (gS l x)).length<=_;simp only[ji];omega
theorem ı{b:SL}(hb:b.length<=1000000):∀(n i:G)(l:SL),i+n=b.length->l.length+n<=10000000->JR b (i:D) l=H ((b.drop i).foldl gS l)
 |0,i,l,hi,_=>by
  rw[Ze];simp only[j7M,show E b.length=(b.length:D) from rfl];rw[ai omg_,j7,aP,jd omg_];rfl
 |n+1,i,l,hi,hl=>by
  have aq:i<b.length:=omg_;have aT:b.getD i ((0:D),(0:D))=b[i]:=by simp[List.getD,aq]
  have ih:=ı hb n (i+1) (gS l b[i]) omg_ (by have:=T6 l b[i];omega);rw[show ((i+1:G):D)=(i:D)+1 by omega]at ih;rw[Ze,jb aq];simp only[j7M,show E b.length=(b.length:D) from rfl,show E l.length=(l.length:D) from rfl,vz];rw[ah (show (i:D)<(b.length:D) by omega),j6,bA (i:=(i:D)) (n:=b.length) omg_ omg_,aj (x:=(i:D)+1)];simp only[j6,j8,aT];have cp:F (l.length+[(b[i].1,b[i].2)].length<=aG)=true:=ah (by simp[aG];omega);by_cases h0:0<l.length
  .rw[ah (show (l.length:D)>0 by omega),aj (x:=(l.length:D)-1),bA (i:=(l.length:D)-1) omg_ omg_,show ((l.length:D)-1).toNat=l.length-1 by omega];simp only[j6];by_cases he:(l.getD (l.length-1) ((0:D),(0:D))).2=b[i].1
   .have e:gS l b[i]=l.set (l.length-1) ((l.getD (l.length-1) ((0:D),(0:D))).1,b[i].2):=by unfold gS;rw[ah h0,ah he];rfl
    rw[cR he,j6,aB,<-e];exact ih
   .have e:gS l b[i]=l++[b[i]]:=by unfold gS;rw[ai he,Bool.and_false];rfl
    rw[ca he,j7,cp,j6,aB];rw[e]at ih ⊢;exact ih
  .have e:gS l b[i]=l++[b[i]]:=by unfold gS;rw[ai h0];rfl
   rw[ai (show¬(l.length:D)>0 by omega),j7,cp,j6,aB];rw[e]at ih ⊢;exact ih
theorem jCT{l b:SL}(hb:b.length<=1000000)(hl:l.length<=1000000):jfg l b=H (b.foldl gS l):=by
 have:=ı hb b.length 0 l omg_ omg_;rw[show ((0:G):D)=0 from rfl,jr]at this;simp only[jfg,this,j4]
theorem Hq{d s:D}(hd : -1<=d)(kE:d<=1000000)(hs:0<=s)(og:s<=86399):j8Y (d,s)=H ((d*86400+s+259200)%604800):=by
 have e:K d 7+10=d%7+10\/d = -1:=by
  by_cases h:0<=d
  .exact .inl (by rw[yS h])
  .exact .inr omg_
 simp only[j8Y,jea,j4];rcases e with e|rfl
 .rw[e,aj (x:=d%7+10),yS omg_,aj (x:=(d%7+10)%7*86400),aj (x:=(d%7+10)%7*86400+s)];congr 1;omega
 .rw[show K (-1) 7 = -1 from rfl,aj (x:= -1+10),show K (-1+10) 7=2 from rfl,aj (x:=2*86400),aj (x:=2*86400+s)];congr 1;omega
def oD(f t st:D):WL->SL
 |[]=>[]
 |v::r=>cond (F ((gQ f t st v).1<(gQ f t st v).2)) (gQ f t st v::oD f t st r) (oD f t st r)
def sw(w:WL)(f t:D):G->D->SL
 |0,_=>[]
 |m+1,st=>cond (F (st<t)) (oD f t st w++sw w f t m (st+604800)) []
theorem T7(f t st:D):∀w:WL,(oD f t st w).length<=w.length
 |[]=>by simp[oD]
 |v::r=>by
  have:=T7 f t st r;unfold oD;cases F ((gQ f t st v).1<(gQ f t st v).2)<;>simp<;>omega
theorem Ĳ{w:WL}(hw:gj 0 w)(hl:w.length<=14){st f t:D}(aQ : -1000000<=st)(dp:st<=8600000000):∀(n i:G)(acc:SL),i+n=w.length->acc.length+n<=1000000->
  JP w f t st (i:D) acc=H (w,f,t,st,acc++oD f t st (w.drop i))
 |0,i,acc,hi,_=>by
  rw[Zc];simp only[j6X,show E w.length=(w.length:D) from rfl];rw[ai omg_,j7,aP,jd omg_];simp[oD]
 |n+1,i,acc,hi,ha=>by
  have aq:i<w.length:=omg_;have aT:w.getD i ((0:D),(0:D))=w[i]:=by simp[aq]
  have hg:=yU hw i aq;rw[aT]at hg;rw[Zc,jb aq];simp only[j6X,show E w.length=(w.length:D) from rfl];rw[ah (show (i:D)<(w.length:D) by omega),bJ];simp only[j6,j8,aT];rw[aj (x:=(i:D)+1),aj (x:=st+w[i].1),aj (x:=st+w[i].2)];have ec:(F ((if st+w[i].1>f then st+w[i].1 else f)<(if st+w[i].2<t then st+w[i].2 else t)))=F ((gQ f t st w[i]).1<(gQ f t st w[i]).2):=rfl;rw[ec];have ih:=λacc h=>Ĳ hw hl aQ dp (f:=f) (t:=t) n (i+1) acc omg_ h;rw[show ((i+1:G):D)=(i:D)+1 by omega]at ih;simp only[oD];cases F ((gQ f t st w[i]).1<(gQ f t st w[i]).2) with
  |true=>rw[j6,ah (by simp[aG];omega),j6,aB,j6];have:=ih (acc++[gQ f t st w[i]]) sqo_;rw[jh]at this;exact this
  |false=>rw[j7,aB,j7];exact ih acc omg_
theorem ĳ{w:WL}(hw:gj 0 w)(hl:w.length<=14){f t:D}(ht:t<=8589934592):∀(m:G)(st:D)(acc:SL), -1000000<=st->t<=st+604800*m->acc.length+14*m<=900000->
  JQ w f t st acc=H (acc++sw w f t m st)
 |0,st,acc,aQ,hm,_=>by
  rw[Zd];simp only[j6Y];rw[ai omg_,j7,aP];simp[sw]
 |m+1,st,acc,aQ,hm,dQ=>by
  rw[Zd];simp only[j6Y,sw];by_cases aq:st<t
  .have h2:=Ĳ hw hl aQ omg_ (f:=f) (t:=t) w.length 0 acc omg_ omg_;rw[show ((0:G):D)=0 from rfl,jr]at h2;have hlen:=T7 f t st w;rw[ah aq,j6,h2];simp only[j4,j6];rw[aj (x:=st+604800),aB];have:=ĳ hw hl ht m (st+604800) (acc++oD f t st w) omg_ omg_ sqo_ (f:=f);rw[jh]at this;exact this
  .rw[ai aq,j7,aP,j7,kc]
theorem Ĵ{f t st:D}:∀{w:WL}{p:D},gj p w->rD (st+p) (oD f t st w)/\∀s∈oD f t st w,f<=s.1/\s.2<=t/\s.2<=st+604800
 |[],_,_=>⟨trivial,λs hs=>by simp[oD]at hs⟩
 |v::r,p,h=>by
  obtain⟨h1,h2,h3,h4⟩:=h;obtain⟨i1,i2⟩:=Ĵ (f:=f) (t:=t) (st:=st) h4;unfold oD;by_cases hc:(gQ f t st v).1<(gQ f t st v).2
  .have e1:st+v.1<=(gQ f t st v).1/\f<=(gQ f t st v).1:=by unfold gQ;dsimp only;split<;>omega
   have e2:(gQ f t st v).2<=st+v.2/\(gQ f t st v).2<=t:=by unfold gQ;dsimp only;split<;>omega
   rw[ah hc,j6];refine⟨⟨omg_,hc,i1.weak omg_⟩,λs hs=>?_⟩;rcases je.1 hs with rfl|hs
   .exact⟨e1.2,e2.2,omg_⟩
   .exact i2 s hs
  .rw[ai hc,j7];exact⟨i1.weak omg_,i2⟩
theorem ĵ{f t st x:D}:∀{w:WL}{p:D},gj p w->(bq x (oD f t st w)↔f<=x/\x<t/\∃v∈w,st+v.1<=x/\x<st+v.2)
 |[],_,_=>⟨λh=>absurd h fp,λ⟨_,_,v,hv,_⟩=>by simp at hv⟩
 |v::r,p,h=>by
  obtain⟨h1,h2,h3,h4⟩:=h;have ih:=ĵ (f:=f) (t:=t) (st:=st) (x:=x) h4
  have he:((gQ f t st v).1<=x/\x<(gQ f t st v).2)↔f<=x/\x<t/\st+v.1<=x/\x<st+v.2:=by
   unfold gQ;dsimp only;constructor
   .rintro⟨a1,a2⟩
    have b1:f<=x/\st+v.1<=x:=by split at a1<;>omega
    have b2:x<t/\x<st+v.2:=by split at a2<;>omega
    exact⟨b1.1,b2.1,b1.2,b2.2⟩
   .rintro⟨a1,a2,a3,a4⟩
    refine⟨?_,?_⟩<;>split<;>omega
  unfold oD;by_cases hc:(gQ f t st v).1<(gQ f t st v).2
  .rw[ah hc,j6,du,ih,he];constructor
   .rintro (⟨a1,a2,a3,a4⟩|⟨a1,a2,u,hu,a3⟩)
    .exact⟨a1,a2,v,smp_,a3,a4⟩
    .exact⟨a1,a2,u,by simp[hu],a3⟩
   .rintro⟨a1,a2,u,hu,a3⟩
    rcases je.1 hu with rfl|hu
    .exact .inl ⟨a1,a2,a3⟩
    .exact .inr ⟨a1,a2,u,hu,a3⟩
  .rw[ai hc,j7,ih];constructor
   .rintro⟨a1,a2,u,hu,a3⟩;exact⟨a1,a2,u,by simp[hu],a3⟩
   .rintro⟨a1,a2,u,hu,a3⟩
    rcases je.1 hu with rfl|hu
    .have:=he.2 ⟨a1,a2,a3⟩;omega
    .exact⟨a1,a2,u,hu,a3⟩
theorem Ķ{w:WL}(hw:gj 0 w){f t:D}:∀(m:G)(st:D),t<=st+604800*m->
  rD st (sw w f t m st)/\(∀s∈sw w f t m st,f<=s.1/\s.2<=t)/\(sw w f t m st).length<=w.length*m/\∀x,bq x (sw w f t m st)↔f<=x/\x<t/\st<=x/\hasB ((x-st)%604800) w=true
 |0,st,hm=>⟨trivial,λs hs=>by simp[sw]at hs,by simp[sw],λx=>⟨λh=>absurd h fp,λh=>omg_⟩⟩
 |m+1,st,hm=>by
  obtain⟨i1,i2,i3,i4⟩:=Ķ hw (f:=f) (t:=t) m (st+604800) omg_;obtain⟨j1,j2⟩:=Ĵ (f:=f) (t:=t) (st:=st) hw;rw[Int.add_zero]at j1;unfold sw;by_cases aq:st<t
  .rw[ah aq,j6];refine⟨ī j1 i1 omg_ (λs hs=>(j2 s hs).2.2),λs hs=>?_,?_,λx=>?_⟩
   .rcases jj.1 hs with hs|hs
    .exact⟨(j2 s hs).1,(j2 s hs).2.1⟩
    .exact i2 s hs
   .have:=T7 f t st w;rw[jc,yi];omega
   .rw[wX,i4 x,ĵ hw];constructor
    .rintro (⟨a1,a2,v,hv,a3,a4⟩|⟨a1,a2,a3,a4⟩)
     .obtain⟨i,hi,rfl⟩:=qa hv;have hg:=yU hw i hi;rw[show w.getD i (0,0)=w[i] by simp[hi]]at hg;exact⟨a1,a2,omg_,G3.2 ⟨w[i],hv,omg_,omg_⟩⟩
     .refine⟨a1,a2,omg_,?_⟩;rw[show (x-st)%604800=(x-(st+604800))%604800 by omega];exact a4
    .rintro⟨a1,a2,a3,a4⟩
     by_cases hx:st+604800<=x
     .refine .inr ⟨a1,a2,hx,?_⟩;rw[show (x-(st+604800))%604800=(x-st)%604800 by omega];exact a4
     .obtain⟨v,hv,c1,c2⟩:=G3.1 a4;have e1:(x-st)%604800=x-st:=omg_;rw[e1]at c1 c2;exact .inl ⟨a1,a2,v,hv,omg_,omg_⟩
  .rw[ai aq,j7];exact⟨trivial,λs hs=>by simp at hs,smp_,λx=>⟨λh=>absurd h fp,λh=>omg_⟩⟩
theorem jH7{w:WL}(hw:gj 0 w)(hl:w.length<=14){f t n:D}(hf:0<=f)(ht:t<=8589934592)(jP:f<t)(hn : -64800<=n)(KT:n<=64800){M:G}(hM:M<=60)(hlen:t-f<=604800*M) :
  ∃P,jcG w f t n=H P/\rD f P/\(∀s∈P,s.2<=t)/\P.length<=w.length*(M+1)/\∀x,bq x P↔f<=x/\x<t/\hasB ((x+n+259200)%604800) w=true:=by
 have e1:j8Y ((f+n+864000)/86400-10,(f+n+864000)%86400)=H ((f+n+259200)%604800):=by rw[Hq omg_ omg_ omg_ omg_];congr 1;omega
 generalize aQ:f-(f+n+259200)%604800=st
 obtain⟨a1,a2,a3,a4⟩:=Ķ hw (f:=f) (t:=t) (M+1) st omg_;refine⟨sw w f t (M+1) st,?_,jCS a1 (λs hs=>(a2 s hs).1),λs hs=>(a2 s hs).2,a3,λx=>?_⟩
 .simp only[jcG];rw[aj (x:=f+n),aj (x:=f+n+864000),rh omg_,aj (x:=(f+n+864000)/86400),aj (x:=(f+n+864000)/86400-10),yS omg_,e1];simp only[j4];rw[aj (x:=f+n-(f+n+259200)%604800),aj (x:=f+n-(f+n+259200)%604800-n),show f+n-(f+n+259200)%604800-n=st by omega];rw[ĳ hw hl ht (M+1) st [] omg_ omg_ sqo_];simp
 .rw[a4 x];constructor
  .rintro⟨b1,b2,b3,b4⟩
   refine⟨b1,b2,?_⟩;rw[show (x+n+259200)%604800=(x-st)%604800 by omega];exact b4
  .rintro⟨b1,b2,b4⟩
   refine⟨b1,b2,omg_,?_⟩;rw[show (x-st)%604800=(x+n+259200)%604800 by omega];exact b4
def T8(o:D)(l:bI)(w:WL)(a b:D)(k:G)(x:D):Prop:=a<=x/\x<b/\∃j,j<k/\aR l j<=x/\x<aR l (j+1)/\hasB ((x+bu o l j+259200)%604800) w=true
theorem T9{o:D}{l:bI}(h:iU o l){w:WL}(hw:gj 0 w)(hl:w.length<=14){M:G}(hM:M<=60){a b:D}(ha:0<=a)(bt:a<=b)(hb:b<=8589934592)(hlen:b-a<=604800*M)(nm:J)(rs:O aN)(fm:l.length<=20){c:G}(jB:w.length*(M+1)<=c)(fL:c<=854):∀(n k:G)(acc:SL),k+n=l.length+1->
  bB (a-1) acc->(∀s∈acc,s.2<=max a (aR l k)/\s.2<=b)->acc.length<=c*k->(∀x,bq x acc↔T8 o l w a b k x)->
  ∃out,F6 w a b ((k:D)-1) nm o rs l acc=H out/\bB (a-1) out/\(∀s∈out,s.2<=b)/\out.length<=c*(l.length+1)/\∀x,bq x out↔T8 o l w a b (l.length+1) x
 |0,k,acc,hk,h1,h2,h3,h4=>by
  have hk:k=l.length+1:=omg_;subst hk;refine⟨acc,?_,h1,λs hs=>(h2 s hs).2,h3,h4⟩;rw[Zf];simp only[j6Z,show E l.length=(l.length:D) from rfl];rw[ai omg_,j7,aP]
 |n+1,k,acc,hk,h1,h2,h3,h4=>by
  have iv:k<=l.length:=omg_;have gf:c*k<=854*20:=ql fL omg_;have dy:c*(k+1)=c*k+c:=yi c k;have o0:=h.of0 k iv;have o1:=h.of1 k iv;have fh:=h.frm_lt (i:=k) iv;have nF:=h.frm_le (i:=0) (j:=k) omg_ omg_;rw[pk]at nF;have ee:k=l.length->aR l (k+1)=8589934593:=λe=>by rw[e];exact nP
  have key:∀A:Option ((WL×D×D×D×J×D×O aN×bI×SL) ⊕ SL),
    A=(if max a (aR l k)<min b (aR l (k+1)) then (jcG w (max a (aR l k)) (min b (aR l (k+1))) (bu o l k)).bind λp=>(jfg acc p).bind λj=>H (.inl (w,a,b,(k:D),nm,o,rs,l,j)) else H (.inl (w,a,b,(k:D),nm,o,rs,l,acc)))->
    ∃out,lpK A (λh=>F6 h.1 h.2.1 h.2.2.1 h.2.2.2.1 h.2.2.2.2.1 h.2.2.2.2.2.1 h.2.2.2.2.2.2.1 h.2.2.2.2.2.2.2.1 h.2.2.2.2.2.2.2.2)=H out/\bB (a-1) out/\(∀s∈out,s.2<=b)/\out.length<=c*(l.length+1)/\∀x,bq x out↔T8 o l w a b (l.length+1) x:=by
   intro A hA;have e1:((k+1:G):D)-1=(k:D):=omg_;by_cases hc:max a (aR l k)<min b (aR l (k+1))
   .rw[if_pos hc]at hA;obtain⟨p,ep,p1,p2,p3,p4⟩:=jH7 hw hl (f:=max a (aR l k)) (t:=min b (aR l (k+1))) omg_ omg_ hc o0 o1 hM omg_;obtain⟨q1,q2,q3,q4⟩:=İ (p:=a-1) (hi:=min b (aR l (k+1))) p acc (max a (aR l k)) h1 p1 omg_ (λs hs=>(h2 s hs).1) omg_ p2;rw[ep,j4,jCT omg_ omg_,j4]at hA;rw[hA,aB];have ih:=T9 h hw hl hM ha bt hb hlen nm rs fm jB fL n (k+1) (p.foldl gS acc) omg_ q1 (λs hs=>by have:=q3 s hs;omega) omg_ (λx=>?_)
    .rw[e1]at ih;exact ih
    .rw[q2 x,h4 x,p4 x];constructor
     .rintro (⟨a1,a2,j,a3,a4⟩|⟨a1,a2,a3⟩)
      .exact⟨a1,a2,j,omg_,a4⟩
      .exact⟨omg_,omg_,k,omg_,omg_,omg_,a3⟩
     .rintro⟨a1,a2,j,a3,a4,a5,a6⟩
      by_cases hj:j=k
      .subst hj;exact .inr ⟨omg_,omg_,a6⟩
      .exact .inl ⟨a1,a2,j,omg_,a4,a5,a6⟩
   .rw[if_neg hc]at hA;rw[hA,aB];have ih:=T9 h hw hl hM ha bt hb hlen nm rs fm jB fL n (k+1) acc omg_ h1 (λs hs=>by have:=h2 s hs;omega) omg_ (λx=>?_)
    .rw[e1]at ih;exact ih
    .rw[h4 x];constructor
     .rintro⟨a1,a2,j,a3,a4⟩
      exact⟨a1,a2,j,omg_,a4⟩
     .rintro⟨a1,a2,j,a3,a4,a5,a6⟩
      by_cases hj:j=k
      .subst hj;omega
      .exact⟨a1,a2,j,omg_,a4,a5,a6⟩
  rw[Zf];refine key _ ?_;simp only[j6Z,show E l.length=(l.length:D) from rfl];rw[ah (show (k:D)-1<(l.length:D) by omega),j6,aj (x:=(k:D)-1+1),show (k:D)-1+1=(k:D) by omega];have fi:∀u:D,(if u>a then u else a)=max a u:=λu=>by split<;>omega
  have oQ:∀u:D,(if u<b then u else b)=min b u:=λu=>by split<;>omega
  rcases yp k with nd|nd
  .subst nd;have et:bu o l 0=o:=rfl;have em:max a (aR l 0)=a:=by rw[pk];omega
   rw[ai (show¬((0:G):D)-1>=0 by omega),j7,em,et];by_cases jC:0<l.length
   .have ef:(l.getD 0 ((0:D),(0:D))).1=aR l 1:=(kG jC).symm;rw[ah (show ((0:G):D)<(l.length:D) by omega),j6,bA (i:=((0:G):D)) omg_ omg_,j6,j8,ef,oQ];by_cases hc:a<min b (aR l 1)
    .rw[ah hc,if_pos hc];rfl
    .rw[ai hc,if_neg hc];rfl
   .have ef:min b (aR l (0+1))=b:=by rw[ee omg_];omega
    rw[ai (show¬((0:G):D)<(l.length:D) by omega),j7,ef];by_cases hc:a<b
    .rw[ah hc,if_pos hc];rfl
    .rw[ai hc,if_neg hc];rfl
  .obtain⟨k,rfl⟩:∃k',k=k'+1:=⟨k-1,omg_⟩;have e1:((k+1:G):D)-1=(k:D):=omg_;have et:(l.getD k ((0:D),(0:D))).2=bu o l (k+1):=rfl;have ef0:(l.getD k ((0:D),(0:D))).1=aR l (k+1):=(kG omg_).symm;rw[e1,ah (show (k:D)>=0 by omega),j6,bA (i:=(k:D)) omg_ omg_];simp only[j6,j8,et,ef0,fi];by_cases jC:k+1<l.length
   .have ef:(l.getD (k+1) ((0:D),(0:D))).1=aR l (k+1+1):=(kG jC).symm;rw[ah (show ((k+1:G):D)<(l.length:D) by omega),j6,bA (i:=((k+1:G):D)) omg_ omg_,j6,ef,oQ];by_cases hc:max a (aR l (k+1))<min b (aR l (k+1+1))
    .rw[ah hc,if_pos hc];rfl
    .rw[ai hc,if_neg hc];rfl
   .have ef:min b (aR l (k+1+1))=b:=by rw[ee omg_];omega
    rw[ai (show¬((k+1:G):D)<(l.length:D) by omega),j7,ef];by_cases hc:max a (aR l (k+1))<b
    .rw[ah hc,if_pos hc];rfl
    .rw[ai hc,if_neg hc];rfl
theorem ķ{z:J×(D×O aN)}{l:bI}(h4:Z4 z l)(fm:l.length<=20){w:WL}(gf:jcD w=H 0)(hw:gj 0 w)(hl:w.length<=14){M:G}(hM:M<=60){a b:D}(ha:0<=a)(bt:a<=b)(hb:b<=8589934592)(hlen:b-a<=604800*M)(hq:b-a<=34560000) :
  ∃out,jaY z w a b=H (if out.length>4096 then ([],5) else (out,0))/\bB (a-1) out/\(∀s∈out,s.2<=b)/\out.length<=w.length*(M+1)*(l.length+1)/\
   ∀k,k<=l.length->∀x,a<=x->x<b->aR l k<=x->x<aR l (k+1)->(bq x out↔hasB ((x+bu z.2.1 l k+259200)%604800) w=true):=by
 obtain⟨out,e,o1,o2,o3,o4⟩:=T9 h4.2 hw hl hM ha bt hb hlen z.1 z.2.2 fm (jn _) (qi (ql hl (show M+1<=61 by omega)) (by decide)) (l.length+1) 0 [] omg_ trivial (λs hs=>by simp at hs) smp_ (λx=>⟨λh=>absurd h fp,λ⟨_,_,j,hj,_⟩=>omg_⟩);rw[show ((0:G):D)-1 = -1 from rfl]at e;refine⟨out,?_,o1,o2,o3,λk hk x x0 x1 k0 k1=>?_⟩
 .have er:j6V a b=H true:=by simp only[j6V];rw[ah (show a>=0 from ha),ah (show a<=8589934592 by omega),ah (show b>=a from bt),ah hb,aj (x:=b-a),ah hq];rfl
  simp only[jaY,show j0q (z.1,(z.2.1,z.2.2))=_ from h4.1,j4,jk,j7,gf,er,jl,e,show E out.length=(out.length:D) from rfl];by_cases hg:out.length>4096
  .rw[ah (show (out.length:D)>4096 by omega),if_pos hg];rfl
  .rw[ai (show¬(out.length:D)>4096 by omega),if_neg hg];rfl
 .rw[o4 x];constructor
  .rintro⟨_,_,j,hj,j0,j1,j2⟩
   have:j=k:=by
    rcases zo j k with aq|he|aq
    .have:=h4.2.frm_le (i:=j+1) (j:=k) omg_ omg_;omega
    .exact he
    .have:=h4.2.frm_le (i:=k+1) (j:=j) omg_ omg_;omega
   subst this;exact j2
  .exactλhx=>⟨x0,x1,k,omg_,k0,k1,hx⟩
end Go.Proofs.Pw
