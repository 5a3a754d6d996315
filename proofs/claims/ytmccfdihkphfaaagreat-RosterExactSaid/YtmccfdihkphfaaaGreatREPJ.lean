/- eP 5, the reference: the times of KU are the BV form of their sH. -/
import Derived.Test.YtmccfdihkphfaaaGreatREPF
import Derived.Test.YtmccfdihkphfaaaGreatREPG
import Derived.Test.YtmccfdihkphfaaaGreatREPD
open _root_ renaming Int->D,Nat->G,ByteArray->K,List->S
open Int renaming ofNat->E,tmod->N
open Decidable renaming decide->F
open Option renaming some->H
open List renaming drop_of_length_le->I,getD->O
open Go Go.Lft
namespace Go.Proofs.Pw
theorem Λ:∀{l l':SL}{p q:D},bX p l->bX q l'->(∀x,bJ x l↔bJ x l')->l=l'
 |[],[],_,_,_,_,_=>rfl
 |[],s::r,_,_,_,h',hx=>absurd ((hx s.1).2 (dC.2 (.inl ⟨k8 _,h'.2.1⟩))) fU
 |s::r,[],_,_,h,_,hx=>absurd ((hx s.1).1 (dC.2 (.inl ⟨k8 _,h.2.1⟩))) fU
 |s::r,s'::r',p,q,h,h',hx=>by
  obtain⟨h1,h2,h3⟩:=h;obtain⟨g1,g2,g3⟩:=h'
  have e1:s.1=s'.1:=by
   have a1:=(hx s.1).1 (dC.2 (.inl ⟨k8 _,h2⟩));have a2:=(hx s'.1).2 (dC.2 (.inl ⟨k8 _,g2⟩));rcases dC.1 a1 with a1|a1
   .rcases dC.1 a2 with a2|a2
    .omega
    .have:=h3.low a2;omega
   .have:=g3.low a1;rcases dC.1 a2 with a2|a2
    .omega
    .have:=h3.low a2;omega
  have e2:s.2=s'.2:=by
   apply ju;intro br;by_cases aq:s.2<s'.2
   .rcases dC.1 ((hx s.2).2 (dC.2 (.inl ⟨aa,aq⟩))) with a|a
    .omega
    .have:=h3.low a;omega
   .rcases dC.1 ((hx s'.2).1 (dC.2 (.inl ⟨aa,aa⟩))) with a|a
    .omega
    .have:=g3.low a;omega
  have hs:s=s':=Prod.ext e1 e2;subst hs;rw[Λ h3 g3 (λx=>?_)];constructor
  .intro a;have:=h3.low a;exact(dC.1 ((hx x).1 (dC.2 (.inr a)))).resolve_left aa
  .intro a;have:=g3.low a;exact(dC.1 ((hx x).2 (dC.2 (.inr a)))).resolve_left aa
theorem Μ:∀{A B:SL}{lo mid:D},pW lo A->pW mid B->lo<=mid->(∀s∈A,s.2<=mid)->pW lo (A++B)
 |[],B,lo,mid,_,hB,h,_=>hB.weak h
 |s::A,B,lo,mid,hA,hB,h,hs=>⟨hA.1,hA.2.1,Μ hA.2.2 hB (hs s ae) (λu hu=>hs u (by simp[hu]))⟩
theorem jC4{f lo:D}:∀{l:SL},pW lo l->(∀s∈l,f<=s.1)->pW f l
 |[],_,_=>trivial
 |s::r,h,hf=>⟨hf s ae,h.2⟩
theorem Ν:∀{A:SL}{p:D}{x:D×D},bX p A->p<x.1->(∀s∈A,s.2<x.1)->x.1<x.2->bX p (A++[x])
 |[],_,_,_,hp,_,hx=>⟨hp,hx,trivial⟩
 |s::A,p,x,h,_,hs,hx=>⟨h.1,h.2.1,Ν h.2.2 (hs s ae) (λu hu=>hs u (by simp[hu])) hx⟩
theorem Ξ:∀{A:SL}{p e:D}{y:D×D},bX p (A++[y])->y.2<=e->bX p (A++[(y.1,e)])
 |[],_,_,_,h,he=>⟨h.1,by have:=h.2.1;dsimp only;omega,trivial⟩
 |_::A,_,_,_,h,he=>⟨h.1,h.2.1,Ξ h.2.2 he⟩
theorem Ο:∀{A:SL}{p:D}{y:D×D},bX p (A++[y])->∀s∈A,s.2<y.1
 |[],_,_,_,s,hs=>by simp at hs
 |u::A,p,y,h,s,hs=>by
  have low:∀{A:SL}{p:D},bX p (A++[y])->p<y.1:=by
   intro A;induction A with
   |nil=>intro p h;exact h.1
   |cons v r ih=>intro p h;have:=ih h.2.2;have:=h.1;have:=h.2.1;omega
  rcases je.1 hs with rfl|hs
  .exact low h.2.2
  .exact Ο h.2.2 s hs
def iG(l:SL)(x:D×D):SL:=cond (F (0<l.length)&&F ((l.getD (l.length-1) (0,0)).2=x.1)) (l.set (l.length-1) ((l.getD (l.length-1) (0,0)).1,x.2)) (l++[x])
theorem Ρ(l:SL)(x:D×D):(iG l x).length<=l.length+1:=by
 unfold iG;cases (F (0<l.length)&&F ((l.getD (l.length-1) (0,0)).2=x.1))<;>simp
theorem jFW{p:D}{l:SL}{x:D×D}(h:bX p l)(hp:p<x.1)(hx:x.1<x.2)(hl:∀s∈l,s.2<=x.1) :
  bX p (iG l x)/\(∀y,bJ y (iG l x)↔bJ y l\/(x.1<=y/\y<x.2))/\(∀s∈iG l x,s.2<=x.2):=by
 rcases zp l with rfl|⟨A,u,rfl⟩
 .refine⟨⟨hp,hx,trivial⟩,λy=>?_,λs hs=>?_⟩
  .show bJ y [x]↔_;rw[dC];constructor
   .rintro (h|h)
    .exact .inr h
    .exact absurd h fU
   .rintro (h|h)
    .exact absurd h fU
    .exact .inl h
  .have:s=x:=by simpa[iG]using hs
   rw[this];exact k8 _
 .rw[zq]at h hl ⊢;have aq:=Ο h;have hu:=hl u ae;have hg:(A++[u]).getD ((A++[u]).length-1) ((0:D),(0:D))=u:=by simp[O]
  unfold iG;rw[hg];by_cases he:u.2=x.1
  .rw[ag ae,ag he];simp only[ql,j6];have mJ:(A++[u]).set ((A++[u]).length-1) (u.1,x.2)=A++[(u.1,x.2)]:=ae;rw[mJ];refine⟨Ξ h aa,λy=>?_,λs hs=>?_⟩
   .rw[xw,xw,dC,dC]
    have Bw:u.1<u.2:=by
     have:∀{A:SL}{p:D},bX p (A++[u])->u.1<u.2:=by
      intro A;induction A with
      |nil=>intro p h;exact h.2.1
      |cons v r ih=>intro p h;exact ih h.2.2
     exact this h
    constructor
    .rintro (h|h|h)
     .exact .inl (.inl h)
     .dsimp only at h
      by_cases hy:y<u.2
      .exact .inl (.inr (.inl ⟨h.1,hy⟩))
      .exact .inr ⟨aa,h.2⟩
     .exact absurd h fU
    .rintro ((h|h|h)|h)
     .exact .inl h
     .exact .inr (.inl ⟨h.1,by dsimp only;omega⟩)
     .exact absurd h fU
     .exact .inr (.inl ⟨by dsimp only;omega,h.2⟩)
   .rcases jm.1 hs with hs|hs
    .have:=hl s (by simp[hs]);omega
    .have:s=(u.1,x.2):=by simpa using hs
     rw[this];exact k8 _
  .rw[an he];simp only[Bool.and_false,j7];refine⟨Ν h hp (λs hs=>?_) hx,λy=>?_,λs hs=>?_⟩
   .rcases jm.1 hs with eE|eE
    .have:=aq s eE
     have Bw:u.1<u.2:=by
      have:∀{A:SL}{p:D},bX p (A++[u])->u.1<u.2:=by
       intro A;induction A with
       |nil=>intro p h;exact h.2.1
       |cons v r ih=>intro p h;exact ih h.2.2
      exact this h
     omega
    .have:s=u:=by simpa using eE
     rw[this];omega
   .rw[xw (r:=[x]),dC (l:=[])];constructor
    .rintro (h|h|h)
     .exact .inl h
     .exact .inr h
     .exact absurd h fU
    .rintro (h|h)
     .exact .inl h
     .exact .inr (.inl h)
   .rcases jm.1 hs with eE|eE
    .have:=hl s eE;omega
    .have:s=x:=by simpa using eE
     rw[this];exact k8 _
theorem Τ{p hi:D}:∀(b l:SL)(lo:D),bX p l->pW lo b->p<lo->(∀s∈l,s.2<=lo)->lo<=hi->(∀s∈b,s.2<=hi)->
  bX p (b.foldl iG l)/\(∀y,bJ y (b.foldl iG l)↔bJ y l\/bJ y b)/\(∀s∈b.foldl iG l,s.2<=hi)/\(b.foldl iG l).length<=l.length+b.length
 |[],l,lo,h,_,_,hl,jA,_=>⟨h,λy=>⟨.inl,λh=>h.resolve_right fU⟩,λs hs=>by have:=hl s hs;omega,ae⟩
 |x::b,l,lo,h,hb,hp,hl,jA,jB=>by
  obtain⟨b1,b2,b3⟩:=hb;obtain⟨j1,j2,j3⟩:=jFW h (x:=x) aa b2 (λs hs=>by have:=hl s hs;omega);have hx:=jB x ae;obtain⟨k1,k2,k3,k4⟩:=Τ b (iG l x) x.2 j1 b3 aa j3 hx (λs hs=>jB s (by simp[hs]));have:=Ρ l x;refine⟨k1,λy=>?_,k3,?_⟩
  .show bJ y (b.foldl iG (iG l x))↔_;rw[k2 y,j2 y,dC];constructor
   .rintro ((h|h)|h)
    .exact .inl h
    .exact .inr (.inl h)
    .exact .inr (.inr h)
   .rintro (h|h|h)
    .exact .inl (.inl h)
    .exact .inl (.inr h)
    .exact .inr h
  .show (b.foldl iG (iG l x)).length<=_;simp only[ji];omega
theorem Υ{b:SL}(hb:b.length<=1000000):∀(n i:G)(l:SL),i+n=b.length->l.length+n<=10000000->Jw b (i:D) l=H ((b.drop i).foldl iG l)
 |0,i,l,hi,_=>by
  rw[YO];simp only[j6J,show E b.length=(b.length:D) from rfl];rw[an aa,j7,aW,I aa];rfl
 |n+1,i,l,hi,hl=>by
  have aq:i<b.length:=aa;have bc:b.getD i ((0:D),(0:D))=b[i]:=by simp[O,aq]
  have ih:=Υ hb n (i+1) (iG l b[i]) aa (by have:=Ρ l b[i];omega);rw[show ((i+1:G):D)=(i:D)+1 by omega]at ih;rw[YO,jb aq];simp only[j6J,show E b.length=(b.length:D) from rfl,show E l.length=(l.length:D) from rfl,List.foldl_cons];rw[ag (show (i:D)<(b.length:D) by omega),j6,bU (i:=(i:D)) (n:=b.length) aa aa,ar (x:=(i:D)+1)];simp only[j6,j8,bc];have cm:F (l.length+[(b[i].1,b[i].2)].length<=aG)=true:=ag (by simp[aG];omega);by_cases h0:0<l.length
  .rw[ag (show (l.length:D)>0 by omega),ar (x:=(l.length:D)-1),bU (i:=(l.length:D)-1) aa aa,show ((l.length:D)-1).toNat=l.length-1 by omega];simp only[j6];by_cases he:(l.getD (l.length-1) ((0:D),(0:D))).2=b[i].1
   .have e:iG l b[i]=l.set (l.length-1) ((l.getD (l.length-1) ((0:D),(0:D))).1,b[i].2):=by unfold iG;rw[ag h0,ag he];rfl
    rw[dI he,j6,aS,<-e];exact ih
   .have e:iG l b[i]=l++[b[i]]:=by unfold iG;rw[an he,Bool.and_false];rfl
    rw[cG he,j7,cm,j6,aS];rw[e]at ih ⊢;exact ih
  .have e:iG l b[i]=l++[b[i]]:=by unfold iG;rw[an h0];rfl
   rw[an (show¬(l.length:D)>0 by omega),j7,cm,j6,aS];rw[e]at ih ⊢;exact ih
theorem jC5{l b:SL}(hb:b.length<=1000000)(hl:l.length<=1000000):jeb l b=H (b.foldl iG l):=by
 have:=Υ hb b.length 0 l aa aa;rw[show ((0:G):D)=0 from rfl,jk]at this;simp only[jeb,this,j4]
theorem GB{d s:D}(hd : -1<=d)(iC:d<=1000000)(hs:0<=s)(mq:s<=86399):j7U (d,s)=H ((d*86400+s+259200)%604800):=by
 have e:N d 7+10=d%7+10\/d = -1:=by
  by_cases h:0<=d
  .exact .inl (by rw[Aq h])
  .exact .inr aa
 simp only[j7U,jcW,j4];rcases e with e|rfl
 .rw[e,ar (x:=d%7+10),Aq aa,ar (x:=(d%7+10)%7*86400),ar (x:=(d%7+10)%7*86400+s)];congr 1;omega
 .rw[show N (-1) 7 = -1 from rfl,ar (x:= -1+10),show N (-1+10) 7=2 from rfl,ar (x:=2*86400),ar (x:=2*86400+s)];congr 1;omega
def nJ(f t st:D):WL->SL
 |[]=>[]
 |v::r=>cond (F ((gJ f t st v).1<(gJ f t st v).2)) (gJ f t st v::nJ f t st r) (nJ f t st r)
def qR(w:WL)(f t:D):G->D->SL
 |0,_=>[]
 |m+1,st=>cond (F (st<t)) (nJ f t st w++qR w f t m (st+604800)) []
theorem SD(f t st:D):∀w:WL,(nJ f t st w).length<=w.length
 |[]=>by simp[nJ]
 |v::r=>by
  have:=SD f t st r;unfold nJ;cases F ((gJ f t st v).1<(gJ f t st v).2)<;>simp<;>omega
theorem Φ{w:WL}(hw:gO 0 w)(hl:w.length<=14){st f t:D}(aV : -1000000<=st)(dp:st<=8600000000):∀(n i:G)(acc:SL),i+n=w.length->acc.length+n<=1000000->
  Ju w f t st (i:D) acc=H (w,f,t,st,acc++nJ f t st (w.drop i))
 |0,i,acc,hi,_=>by
  rw[YM];simp only[j60,show E w.length=(w.length:D) from rfl];rw[an aa,j7,aW,I aa];simp[nJ]
 |n+1,i,acc,hi,ha=>by
  have aq:i<w.length:=aa;have bc:w.getD i ((0:D),(0:D))=w[i]:=by simp[aq]
  have hg:=Az hw i aq;rw[bc]at hg;rw[YM,jb aq];simp only[j60,show E w.length=(w.length:D) from rfl];rw[ag (show (i:D)<(w.length:D) by omega),bE];simp only[j6,j8,bc];rw[ar (x:=(i:D)+1),ar (x:=st+w[i].1),ar (x:=st+w[i].2)];have ec:(F ((if st+w[i].1>f then st+w[i].1 else f)<(if st+w[i].2<t then st+w[i].2 else t)))=F ((gJ f t st w[i]).1<(gJ f t st w[i]).2):=rfl;rw[ec];have ih:=λacc h=>Φ hw hl aV dp (f:=f) (t:=t) n (i+1) acc aa h;rw[show ((i+1:G):D)=(i:D)+1 by omega]at ih;simp only[nJ];cases F ((gJ f t st w[i]).1<(gJ f t st w[i]).2) with
  |true=>rw[j6,ag (by simp[aG];omega),j6,aS,j6];have:=ih (acc++[gJ f t st w[i]]) az;rw[jg]at this;exact this
  |false=>rw[j7,aS,j7];exact ih acc aa
theorem Χ{w:WL}(hw:gO 0 w)(hl:w.length<=14){f t:D}(ht:t<=8589934592):∀(m:G)(st:D)(acc:SL), -1000000<=st->t<=st+604800*m->acc.length+14*m<=900000->
  Jv w f t st acc=H (acc++qR w f t m st)
 |0,st,acc,aV,hm,_=>by
  rw[YN];simp only[j61];rw[an aa,j7,aW];simp[qR]
 |m+1,st,acc,aV,hm,dJ=>by
  rw[YN];simp only[j61,qR];by_cases aq:st<t
  .have h2:=Φ hw hl aV aa (f:=f) (t:=t) w.length 0 acc aa aa;rw[show ((0:G):D)=0 from rfl,jk]at h2;have hlen:=SD f t st w;rw[ag aq,j6,h2];simp only[j4,j6];rw[ar (x:=st+604800),aS];have:=Χ hw hl ht m (st+604800) (acc++nJ f t st w) aa aa az (f:=f);rw[jg]at this;exact this
  .rw[an aq,j7,aW,j7,kx]
theorem Ψ{f t st:D}:∀{w:WL}{p:D},gO p w->pW (st+p) (nJ f t st w)/\∀s∈nJ f t st w,f<=s.1/\s.2<=t/\s.2<=st+604800
 |[],_,_=>⟨trivial,λs hs=>by simp[nJ]at hs⟩
 |v::r,p,h=>by
  obtain⟨h1,h2,h3,h4⟩:=h;obtain⟨i1,i2⟩:=Ψ (f:=f) (t:=t) (st:=st) h4;unfold nJ;by_cases hc:(gJ f t st v).1<(gJ f t st v).2
  .have e1:st+v.1<=(gJ f t st v).1/\f<=(gJ f t st v).1:=by unfold gJ;dsimp only;split<;>omega
   have e2:(gJ f t st v).2<=st+v.2/\(gJ f t st v).2<=t:=by unfold gJ;dsimp only;split<;>omega
   rw[ag hc,j6];refine⟨⟨aa,hc,i1.weak aa⟩,λs hs=>?_⟩;rcases je.1 hs with rfl|hs
   .exact⟨e1.2,e2.2,aa⟩
   .exact i2 s hs
  .rw[an hc,j7];exact⟨i1.weak aa,i2⟩
theorem Ω{f t st x:D}:∀{w:WL}{p:D},gO p w->(bJ x (nJ f t st w)↔f<=x/\x<t/\∃v∈w,st+v.1<=x/\x<st+v.2)
 |[],_,_=>⟨λh=>absurd h fU,λ⟨_,_,v,hv,_⟩=>by simp at hv⟩
 |v::r,p,h=>by
  obtain⟨h1,h2,h3,h4⟩:=h;have ih:=Ω (f:=f) (t:=t) (st:=st) (x:=x) h4
  have he:((gJ f t st v).1<=x/\x<(gJ f t st v).2)↔f<=x/\x<t/\st+v.1<=x/\x<st+v.2:=by
   unfold gJ;dsimp only;constructor
   .rintro⟨a1,a2⟩
    have b1:f<=x/\st+v.1<=x:=by split at a1<;>omega
    have b2:x<t/\x<st+v.2:=by split at a2<;>omega
    exact⟨b1.1,b2.1,b1.2,b2.2⟩
   .rintro⟨a1,a2,a3,a4⟩
    refine⟨?_,?_⟩<;>split<;>omega
  unfold nJ;by_cases hc:(gJ f t st v).1<(gJ f t st v).2
  .rw[ag hc,j6,dC,ih,he];constructor
   .rintro (⟨a1,a2,a3,a4⟩|⟨a1,a2,u,hu,a3⟩)
    .exact⟨a1,a2,v,ae,a3,a4⟩
    .exact⟨a1,a2,u,by simp[hu],a3⟩
   .rintro⟨a1,a2,u,hu,a3⟩
    rcases je.1 hu with rfl|hu
    .exact .inl ⟨a1,a2,a3⟩
    .exact .inr ⟨a1,a2,u,hu,a3⟩
  .rw[an hc,j7,ih];constructor
   .rintro⟨a1,a2,u,hu,a3⟩;exact⟨a1,a2,u,by simp[hu],a3⟩
   .rintro⟨a1,a2,u,hu,a3⟩
    rcases je.1 hu with rfl|hu
    .have:=he.2 ⟨a1,a2,a3⟩;omega
    .exact⟨a1,a2,u,hu,a3⟩
theorem δ{w:WL}(hw:gO 0 w){f t:D}:∀(m:G)(st:D),t<=st+604800*m->
  pW st (qR w f t m st)/\(∀s∈qR w f t m st,f<=s.1/\s.2<=t)/\(qR w f t m st).length<=w.length*m/\∀x,bJ x (qR w f t m st)↔f<=x/\x<t/\st<=x/\hasB ((x-st)%604800) w=true
 |0,st,hm=>⟨trivial,λs hs=>by simp[qR]at hs,by simp[qR],λx=>⟨λh=>absurd h fU,λh=>aa⟩⟩
 |m+1,st,hm=>by
  obtain⟨i1,i2,i3,i4⟩:=δ hw (f:=f) (t:=t) m (st+604800) aa;obtain⟨j1,j2⟩:=Ψ (f:=f) (t:=t) (st:=st) hw;rw[Int.add_zero]at j1;unfold qR;by_cases aq:st<t
  .rw[ag aq,j6];refine⟨Μ j1 i1 aa (λs hs=>(j2 s hs).2.2),λs hs=>?_,?_,λx=>?_⟩
   .rcases jm.1 hs with hs|hs
    .exact⟨(j2 s hs).1,(j2 s hs).2.1⟩
    .exact i2 s hs
   .have:=SD f t st w;rw[List.length_append,Nat.mul_succ];omega
   .rw[xw,i4 x,Ω hw];constructor
    .rintro (⟨a1,a2,v,hv,a3,a4⟩|⟨a1,a2,a3,a4⟩)
     .obtain⟨i,hi,rfl⟩:=qw hv;have hg:=Az hw i hi;rw[show w.getD i (0,0)=w[i] by simp[hi]]at hg;exact⟨a1,a2,aa,Gr.2 ⟨w[i],hv,aa,aa⟩⟩
     .refine⟨a1,a2,aa,?_⟩;rw[show (x-st)%604800=(x-(st+604800))%604800 by omega];exact a4
    .rintro⟨a1,a2,a3,a4⟩
     by_cases hx:st+604800<=x
     .refine .inr ⟨a1,a2,hx,?_⟩;rw[show (x-(st+604800))%604800=(x-st)%604800 by omega];exact a4
     .obtain⟨v,hv,c1,c2⟩:=Gr.1 a4;have e1:(x-st)%604800=x-st:=aa;rw[e1]at c1 c2;exact .inl ⟨a1,a2,v,hv,aa,aa⟩
  .rw[an aq,j7];exact⟨trivial,λs hs=>by simp at hs,ae,λx=>⟨λh=>absurd h fU,λh=>aa⟩⟩
theorem jFX{w:WL}(hw:gO 0 w)(hl:w.length<=14){f t n:D}(hf:0<=f)(ht:t<=8589934592)(ig:f<t)(hn : -64800<=n)(yp:n<=64800){M:G}(hM:M<=60)(hlen:t-f<=604800*M) :
  ∃P,jbz w f t n=H P/\pW f P/\(∀s∈P,s.2<=t)/\P.length<=w.length*(M+1)/\∀x,bJ x P↔f<=x/\x<t/\hasB ((x+n+259200)%604800) w=true:=by
 have e1:j7U ((f+n+864000)/86400-10,(f+n+864000)%86400)=H ((f+n+259200)%604800):=by rw[GB aa aa aa aa];congr 1;omega
 generalize aV:f-(f+n+259200)%604800=st
 obtain⟨a1,a2,a3,a4⟩:=δ hw (f:=f) (t:=t) (M+1) st aa;refine⟨qR w f t (M+1) st,?_,jC4 a1 (λs hs=>(a2 s hs).1),λs hs=>(a2 s hs).2,a3,λx=>?_⟩
 .simp only[jbz];rw[ar (x:=f+n),ar (x:=f+n+864000),vC aa,ar (x:=(f+n+864000)/86400),ar (x:=(f+n+864000)/86400-10),Aq aa,e1];simp only[j4];rw[ar (x:=f+n-(f+n+259200)%604800),ar (x:=f+n-(f+n+259200)%604800-n),show f+n-(f+n+259200)%604800-n=st by omega];rw[Χ hw hl ht (M+1) st [] aa aa az];simp
 .rw[a4 x];constructor
  .rintro⟨b1,b2,b3,b4⟩
   refine⟨b1,b2,?_⟩;rw[show (x+n+259200)%604800=(x-st)%604800 by omega];exact b4
  .rintro⟨b1,b2,b4⟩
   refine⟨b1,b2,aa,?_⟩;rw[show (x-st)%604800=(x+n+259200)%604800 by omega];exact b4
def SE(o:D)(l:bh)(w:WL)(a b:D)(k:G)(x:D):Prop:=a<=x/\x<b/\∃j,j<k/\aX l j<=x/\x<aX l (j+1)/\hasB ((x+bm o l j+259200)%604800) w=true
theorem SF{o:D}{l:bh}(h:iF o l){w:WL}(hw:gO 0 w)(hl:w.length<=14){M:G}(hM:M<=60){a b:D}(ha:0<=a)(cF:a<=b)(hb:b<=8589934592)(hlen:b-a<=604800*M)(nm:K)(rs:S aL)(ix:l.length<=20){c:G}(gT:w.length*(M+1)<=c)(eU:c<=854):∀(n k:G)(acc:SL),k+n=l.length+1->
  bX (a-1) acc->(∀s∈acc,s.2<=max a (aX l k)/\s.2<=b)->acc.length<=c*k->(∀x,bJ x acc↔SE o l w a b k x)->
  ∃out,FC w a b ((k:D)-1) nm o rs l acc=H out/\bX (a-1) out/\(∀s∈out,s.2<=b)/\out.length<=c*(l.length+1)/\∀x,bJ x out↔SE o l w a b (l.length+1) x
 |0,k,acc,hk,h1,h2,h3,h4=>by
  have hk:k=l.length+1:=aa;subst hk;refine⟨acc,?_,h1,λs hs=>(h2 s hs).2,h3,h4⟩;rw[YP];simp only[j62,show E l.length=(l.length:D) from rfl];rw[an aa,j7,aW]
 |n+1,k,acc,hk,h1,h2,h3,h4=>by
  have ir:k<=l.length:=aa;have rN:c*k<=854*20:=qm eU aa;have c9:c*(k+1)=c*k+c:=Nat.mul_succ c k;have o0:=h.of0 k ir;have o1:=h.of1 k ir;have fB:=h.frm_lt (i:=k) ir;have l7:=h.frm_le (i:=0) (j:=k) aa aa;rw[mi]at l7;have fk:k=l.length->aX l (k+1)=8589934593:=λe=>by rw[e];exact mj
  have key:∀A:Option ((WL×D×D×D×K×D×S aL×bh×SL) ⊕ SL),
    A=(if max a (aX l k)<min b (aX l (k+1)) then (jbz w (max a (aX l k)) (min b (aX l (k+1))) (bm o l k)).bind λp=>(jeb acc p).bind λj=>H (.inl (w,a,b,(k:D),nm,o,rs,l,j)) else H (.inl (w,a,b,(k:D),nm,o,rs,l,acc)))->
    ∃out,lpK A (λh=>FC h.1 h.2.1 h.2.2.1 h.2.2.2.1 h.2.2.2.2.1 h.2.2.2.2.2.1 h.2.2.2.2.2.2.1 h.2.2.2.2.2.2.2.1 h.2.2.2.2.2.2.2.2)=H out/\bX (a-1) out/\(∀s∈out,s.2<=b)/\out.length<=c*(l.length+1)/\∀x,bJ x out↔SE o l w a b (l.length+1) x:=by
   intro A hA;have e1:((k+1:G):D)-1=(k:D):=aa;by_cases hc:max a (aX l k)<min b (aX l (k+1))
   .rw[if_pos hc]at hA;obtain⟨p,ep,p1,p2,p3,p4⟩:=jFX hw hl (f:=max a (aX l k)) (t:=min b (aX l (k+1))) aa aa hc o0 o1 hM aa;obtain⟨q1,q2,q3,q4⟩:=Τ (p:=a-1) (hi:=min b (aX l (k+1))) p acc (max a (aX l k)) h1 p1 aa (λs hs=>(h2 s hs).1) aa p2;rw[ep,j4,jC5 aa aa,j4]at hA;rw[hA,aS];have ih:=SF h hw hl hM ha cF hb hlen nm rs ix gT eU n (k+1) (p.foldl iG acc) aa q1 (λs hs=>by have:=q3 s hs;omega) aa (λx=>?_)
    .rw[e1]at ih;exact ih
    .rw[q2 x,h4 x,p4 x];constructor
     .rintro (⟨a1,a2,j,a3,a4⟩|⟨a1,a2,a3⟩)
      .exact⟨a1,a2,j,aa,a4⟩
      .exact⟨aa,aa,k,aa,aa,aa,a3⟩
     .rintro⟨a1,a2,j,a3,a4,a5,a6⟩
      by_cases hj:j=k
      .subst hj;exact .inr ⟨aa,aa,a6⟩
      .exact .inl ⟨a1,a2,j,aa,a4,a5,a6⟩
   .rw[if_neg hc]at hA;rw[hA,aS];have ih:=SF h hw hl hM ha cF hb hlen nm rs ix gT eU n (k+1) acc aa h1 (λs hs=>by have:=h2 s hs;omega) aa (λx=>?_)
    .rw[e1]at ih;exact ih
    .rw[h4 x];constructor
     .rintro⟨a1,a2,j,a3,a4⟩
      exact⟨a1,a2,j,aa,a4⟩
     .rintro⟨a1,a2,j,a3,a4,a5,a6⟩
      by_cases hj:j=k
      .subst hj;omega
      .exact⟨a1,a2,j,aa,a4,a5,a6⟩
  rw[YP];refine key _ ?_;simp only[j62,show E l.length=(l.length:D) from rfl];rw[ag (show (k:D)-1<(l.length:D) by omega),j6,ar (x:=(k:D)-1+1),show (k:D)-1+1=(k:D) by omega];have eX:∀u:D,(if u>a then u else a)=max a u:=λu=>by split<;>omega
  have nY:∀u:D,(if u<b then u else b)=min b u:=λu=>by split<;>omega
  rcases yi k with lk|lk
  .subst lk;have et:bm o l 0=o:=rfl;have em:max a (aX l 0)=a:=by rw[mi];omega
   rw[an (show¬((0:G):D)-1>=0 by omega),j7,em,et];by_cases gv:0<l.length
   .have ef:(l.getD 0 ((0:D),(0:D))).1=aX l 1:=(gN gv).symm;rw[ag (show ((0:G):D)<(l.length:D) by omega),j6,bU (i:=((0:G):D)) aa aa,j6,j8,ef,nY];by_cases hc:a<min b (aX l 1)
    .rw[ag hc,if_pos hc];rfl
    .rw[an hc,if_neg hc];rfl
   .have ef:min b (aX l (0+1))=b:=by rw[fk aa];omega
    rw[an (show¬((0:G):D)<(l.length:D) by omega),j7,ef];by_cases hc:a<b
    .rw[ag hc,if_pos hc];rfl
    .rw[an hc,if_neg hc];rfl
  .obtain⟨k,rfl⟩:∃k',k=k'+1:=⟨k-1,aa⟩;have e1:((k+1:G):D)-1=(k:D):=aa;have et:(l.getD k ((0:D),(0:D))).2=bm o l (k+1):=rfl;have ef0:(l.getD k ((0:D),(0:D))).1=aX l (k+1):=(gN aa).symm;rw[e1,ag (show (k:D)>=0 by omega),j6,bU (i:=(k:D)) aa aa];simp only[j6,j8,et,ef0,eX];by_cases gv:k+1<l.length
   .have ef:(l.getD (k+1) ((0:D),(0:D))).1=aX l (k+1+1):=(gN gv).symm;rw[ag (show ((k+1:G):D)<(l.length:D) by omega),j6,bU (i:=((k+1:G):D)) aa aa,j6,ef,nY];by_cases hc:max a (aX l (k+1))<min b (aX l (k+1+1))
    .rw[ag hc,if_pos hc];rfl
    .rw[an hc,if_neg hc];rfl
   .have ef:min b (aX l (k+1+1))=b:=by rw[fk aa];omega
    rw[an (show¬((k+1:G):D)<(l.length:D) by omega),j7,ef];by_cases hc:max a (aX l (k+1))<b
    .rw[ag hc,if_pos hc];rfl
    .rw[an hc,if_neg hc];rfl
theorem jxM{z:K×(D×S aL)}{l:bh}(h4:Z4 z l)(ix:l.length<=20){w:WL}(rN:j7w w=H 0)(hw:gO 0 w)(hl:w.length<=14){M:G}(hM:M<=60){a b:D}(ha:0<=a)(cF:a<=b)(hb:b<=8589934592)(hlen:b-a<=604800*M)(hq:b-a<=34560000) :
  ∃out,jfh z w a b=H (if out.length>4096 then ([],5) else (out,0))/\bX (a-1) out/\(∀s∈out,s.2<=b)/\out.length<=w.length*(M+1)*(l.length+1)/\
   ∀k,k<=l.length->∀x,a<=x->x<b->aX l k<=x->x<aX l (k+1)->(bJ x out↔hasB ((x+bm z.2.1 l k+259200)%604800) w=true):=by
 obtain⟨out,e,o1,o2,o3,o4⟩:=SF h4.2 hw hl hM ha cF hb hlen z.1 z.2.2 ix (jq _) (ko (qm hl (show M+1<=61 by omega)) (by decide)) (l.length+1) 0 [] aa trivial (λs hs=>by simp at hs) ae (λx=>⟨λh=>absurd h fU,λ⟨_,_,j,hj,_⟩=>aa⟩);rw[show ((0:G):D)-1 = -1 from rfl]at e;refine⟨out,?_,o1,o2,o3,λk hk x x0 x1 k0 k1=>?_⟩
 .have er:j9S a b=H true:=by simp only[j9S];rw[ag (show a>=0 from ha),ag (show a<=8589934592 by omega),ag (show b>=a from cF),ag hb,ar (x:=b-a),ag hq];rfl
  simp only[jfh,show j0e (z.1,(z.2.1,z.2.2))=_ from h4.1,j4,jf,j7,rN,er,jc,e,show E out.length=(out.length:D) from rfl];by_cases hg:out.length>4096
  .rw[ag (show (out.length:D)>4096 by omega),if_pos hg];rfl
  .rw[an (show¬(out.length:D)>4096 by omega),if_neg hg];rfl
 .rw[o4 x];constructor
  .rintro⟨_,_,j,hj,j0,j1,j2⟩
   have:j=k:=by
    rcases v8 j k with aq|he|aq
    .have:=h4.2.frm_le (i:=j+1) (j:=k) aa aa;omega
    .exact he
    .have:=h4.2.frm_le (i:=k+1) (j:=j) aa aa;omega
   subst this;exact j2
  .exactλhx=>⟨x0,x1,k,aa,k0,k1,hx⟩
end Go.Proofs.Pw
