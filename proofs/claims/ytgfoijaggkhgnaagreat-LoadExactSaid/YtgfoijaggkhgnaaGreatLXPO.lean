/- load.Loads with weights. -/
import Derived.Test.YtgfoijaggkhgnaaGreatLXPN
import Derived.Test.YtgfoijaggkhgnaaGreatLXPF
import Derived.Test.YtgfoijaggkhgnaaGreatLXPM
import Derived.Test.YtgfoijaggkhgnaaGreatLXPE
import Derived.Test.YtgfoijaggkhgnaaGreatLXPG
open _root_ renaming Int->D,Nat->H,ByteArray->R,List->Z
open Decidable renaming decide->E
open Int renaming ofNat->F,tmod->X
open Option renaming some->I
open Go Go.Lft
namespace Go.Proofs.Pw
theorem Ĺ{α β:Type}{G:α->β->Option β}{g:α×β->β}:∀{m:Z (α×β)},(∀x∈m,G x.1 x.2=I (g x))->rF G m=I (m.map λx=>(x.1,g x))
 |[],_=>rfl
 |x::r,h=>by
  have ih:=Ĺ (m:=r) (λy hy=>h y (by simp[hy]));simp only[rF,h x ae,ih,j4,ke]
theorem jBD{m:nN}:∀{x:D×bB},(m.map λx=>x.1).Nodup->x∈m->ej m x.1=true/\di iJ m x.1=x.2:=by
 induction m with
 |nil=>intro x _ hx;simp at hx
 |cons y r ih=>
  intro x hn hx;have hc:=qh.1 (show (y.1::r.map λx=>x.1).Nodup from hn);rcases je.1 hx with rfl|hx
  .refine⟨by simp[ej],?_⟩;show cond (x.1==x.1) x.2 (di iJ r x.1)=x.2;rw[kq];rfl
  .obtain⟨i1,i2⟩:=ih hc.2 hx;have bA:¬x.1=y.1:=λhe=>hc.1 (he▸jr.2 ⟨x,hx,rfl⟩);refine⟨?_,?_⟩
   .show (x.1==y.1||ej r x.1)=true;rw[i1,Bool.or_true]
   .show cond (x.1==y.1) y.2 (di iJ r x.1)=x.2;rw[cj bA];exact i2
theorem ĺ{np K:H}{f:D->D}{a:D}{N:H}(ha:0<=a)(hb:a+N<=8589934592)(hN:N<=1209600){S:bE}(hS:fy f (a+N) none a S)(Dk:S.length<=16384){o:D}{tl:bC}(h:iz o tl)(fw:tl.length<=20)
  {ws:iR}(hw:∀y∈ws,eN 0 [y.1])(hg:∀y∈ws,1<=y.2/\y.2<=8)(hl:ws.length<=100){u:D->D}:∀(n j:H)(m:nN)(v:D->D),j+n=ws.length->BE m np K u v->(∀p,0<=v p/\v p+9000000*n<=1000000000000)->
  ∃m',Gk a (a+N) ws (ws.length:D) (j:D) o tl S m=I m'/\BE m' np K u (λp=>v p+jE f o tl a N p (ws.drop j))
 |0,j,m,v,hj,hm,_=>by
  refine⟨m,?_,?_⟩
  .rw[Zw];simp only[j52];rw[aj aa,j7,aS]
  .rw[jc aa];simp only[jE,ze];exact hm
 |n+1,j,m,v,hj,hm,hv=>by
  have an:j<ws.length:=aa;have aR:ws.getD j (((0:D),(0:D)),(0:D))=ws[j]:=by simp[List.getD,an]
  have Ļ:=hw _ (jg an);obtain⟨g1,g2⟩:=hg _ (jg an);obtain⟨W,eW,_⟩:=HN h fw Ļ ae (M:=60) aa ha (show a<=a+(N:D) by omega) hb aa;have uu:=λp=>Un (λx=>E (f x=p)&&iQ o tl [ws[j].1] x) a N
  have hme:=Ĺ (m:=m) (G:=λ(BG:D)(BH:bB)=>jcB a (a+N) ws (ws.length:D) (j:D) o tl ws[j].1.1 ws[j].1.2 ws[j].2 S W m BG BH I)
   (g:=λx=>(x.2.1,(x.2.2.1,x.2.2.2+(ws[j].2-1)*cm (λt=>E (f t=x.1)&&iQ o tl [ws[j].1] t) a N))) (λx hx=>by
    obtain⟨T,eT,_⟩:=ĳ ha hb hS Dk x.1;obtain⟨C,eC,eL⟩:=jG2 ha hb aa hS Dk eT h fw Ļ ae eW;have hk:=hm.ok.key x hx;obtain⟨m1,m2⟩:=jBD hm.nd hx;have uj:x.2=(x.1,(u x.1,v x.1)):=by rw[<-m2];exact hm.get x.1 hk.1 hk.2.1 m1
    have hvp:=hv x.1;have hc:=uu x.1;have Aq:x.2.2.2=v x.1:=by rw[uj]
    have hmul:0<=(ws[j].2-1)*cm (λt=>E (f t=x.1)&&iQ o tl [ws[j].1] t) a N/\(ws[j].2-1)*cm (λt=>E (f t=x.1)&&iQ o tl [ws[j].1] t) a N<=7*1209600:=by
     refine⟨zq aa hc.1,?_⟩
     calc (ws[j].2-1)*cm (λt=>E (f t=x.1)&&iQ o tl [ws[j].1] t) a N<=7*cm (λt=>E (f t=x.1)&&iQ o tl [ws[j].1] t) a N:=zw aa hc.1
      _<=7*1209600:=aa
    simp only[jcB,eT,eC,eL,j4]
    rw[al (x:=ws[j].2-1),al (x:=(ws[j].2-1)*cm (λt=>E (f t=x.1)&&iQ o tl [ws[j].1] t) a N),Aq,
     al (x:=v x.1+(ws[j].2-1)*cm (λt=>E (f t=x.1)&&iQ o tl [ws[j].1] t) a N)])
  have ik:=jG3 (c:=λp=>(ws[j].2-1)*cm (λt=>E (f t=p)&&iQ o tl [ws[j].1] t) a N) hm
  obtain⟨m',e,q⟩:=ĺ ha hb hN hS Dk h fw hw hg hl n (j+1) (mF (λp=>(ws[j].2-1)*cm (λt=>E (f t=p)&&iQ o tl [ws[j].1] t) a N) m) (λp=>v p+(ws[j].2-1)*cm (λt=>E (f t=p)&&iQ o tl [ws[j].1] t) a N) aa ik (λp=>by
   have hc:=uu p;have hvp:=hv p;have h1:0<=(ws[j].2-1)*cm (λt=>E (f t=p)&&iQ o tl [ws[j].1] t) a N:=zq aa hc.1;have h2:(ws[j].2-1)*cm (λt=>E (f t=p)&&iQ o tl [ws[j].1] t) a N<=7*cm (λt=>E (f t=p)&&iQ o tl [ws[j].1] t) a N:=zw aa hc.1;omega)
  refine⟨m',?_,?_⟩
  .rw[Zw];simp only[j52];rw[ah (show (j:D)<(ws.length:D) by omega),bD,al (x:=(j:D)+1)];simp only[j6,j8,aR];rw[show j2j (o,tl) [(ws[j].1.1,ws[j].1.2)] a (a+N)=_ from eW];simp only[j4];rw[hme];simp only[j4,aH];rw[show ((j+1:H):D)=(j:D)+1 by omega]at e;exact e
  .rw[jb an]
   have:(λp=>v p+jE f o tl a N p (ws[j]::ws.drop (j+1)))=(λp=>(v p+(ws[j].2-1)*cm (λt=>E (f t=p)&&iQ o tl [ws[j].1] t) a N)+jE f o tl a N p (ws.drop (j+1))):=by
    funext p
    simp only[jE];omega
   rw[this];exact q
theorem ļ{w:WL}:∀{p:D},0<=p->eN p w->∀v∈w,eN 0 [v]:=by
 induction w with
 |nil=>intro p _ _ v hv;simp at hv
 |cons x r ih=>
  intro p hp h v hv;obtain⟨h1,h2,h3,h4⟩:=h;rcases je.1 hv with rfl|hv
  .exact⟨aa,h2,h3,h3⟩
  .exact ih (p:=x.2) aa h4 v hv
theorem Ľ:∀{l l':SL}{p q:D},ca p l->ca q l'->(∀x,bJ x l↔bJ x l')->l=l'
 |[],[],_,_,_,_,_=>rfl
 |[],s::r,_,_,_,h',hx=>absurd ((hx s.1).2 (dI.2 (.inl ⟨k7 _,h'.2.1⟩))) fP
 |s::r,[],_,_,h,_,hx=>absurd ((hx s.1).1 (dI.2 (.inl ⟨k7 _,h.2.1⟩))) fP
 |s::r,s'::r',p,q,h,h',hx=>by
  obtain⟨h1,h2,h3⟩:=h;obtain⟨g1,g2,g3⟩:=h'
  have e1:s.1=s'.1:=by
   have a1:=(hx s.1).1 (dI.2 (.inl ⟨k7 _,h2⟩));have a2:=(hx s'.1).2 (dI.2 (.inl ⟨k7 _,g2⟩));rcases dI.1 a1 with a1|a1
   .rcases dI.1 a2 with a2|a2
    .omega
    .have:=h3.low a2;omega
   .have:=g3.low a1;rcases dI.1 a2 with a2|a2
    .omega
    .have:=h3.low a2;omega
  have e2:s.2=s'.2:=by
   apply jt;intro bA;by_cases an:s.2<s'.2
   .rcases dI.1 ((hx s.2).2 (dI.2 (.inl ⟨aa,an⟩))) with a|a
    .omega
    .have:=h3.low a;omega
   .rcases dI.1 ((hx s'.2).1 (dI.2 (.inl ⟨aa,aa⟩))) with a|a
    .omega
    .have:=g3.low a;omega
  have hs:s=s':=Prod.ext e1 e2;subst hs;rw[Ľ h3 g3 (λx=>?_)];constructor
  .intro a;have:=h3.low a;exact(dI.1 ((hx x).1 (dI.2 (.inr a)))).resolve_left aa
  .intro a;have:=g3.low a;exact(dI.1 ((hx x).2 (dI.2 (.inr a)))).resolve_left aa
theorem ľ:∀{A B:SL}{lo mid:D},iB lo A->iB mid B->lo<=mid->(∀s∈A,s.2<=mid)->iB lo (A++B)
 |[],B,lo,mid,_,hB,h,_=>hB.weak h
 |s::A,B,lo,mid,hA,hB,h,hs=>⟨hA.1,hA.2.1,ľ hA.2.2 hB (hs s ae) (λu hu=>hs u (by simp[hu]))⟩
theorem jDl{f lo:D}:∀{l:SL},iB lo l->(∀s∈l,f<=s.1)->iB f l
 |[],_,_=>trivial
 |s::r,h,hf=>⟨hf s ae,h.2⟩
theorem Ŀ:∀{A:SL}{p:D}{x:D×D},ca p A->p<x.1->(∀s∈A,s.2<x.1)->x.1<x.2->ca p (A++[x])
 |[],_,_,_,hp,_,hx=>⟨hp,hx,trivial⟩
 |s::A,p,x,h,_,hs,hx=>⟨h.1,h.2.1,Ŀ h.2.2 (hs s ae) (λu hu=>hs u (by simp[hu])) hx⟩
theorem ŀ:∀{A:SL}{p e:D}{y:D×D},ca p (A++[y])->y.2<=e->ca p (A++[(y.1,e)])
 |[],_,_,_,h,he=>⟨h.1,by have:=h.2.1;dsimp only;omega,trivial⟩
 |_::A,_,_,_,h,he=>⟨h.1,h.2.1,ŀ h.2.2 he⟩
theorem Ł:∀{A:SL}{p:D}{y:D×D},ca p (A++[y])->∀s∈A,s.2<y.1
 |[],_,_,_,s,hs=>by simp at hs
 |u::A,p,y,h,s,hs=>by
  have low:∀{A:SL}{p:D},ca p (A++[y])->p<y.1:=by
   intro A;induction A with
   |nil=>intro p h;exact h.1
   |cons v r ih=>intro p h;have:=ih h.2.2;have:=h.1;have:=h.2.1;omega
  rcases je.1 hs with rfl|hs
  .exact low h.2.2
  .exact Ł h.2.2 s hs
def iS(l:SL)(x:D×D):SL:=cond (E (0<l.length)&&E ((l.getD (l.length-1) (0,0)).2=x.1)) (l.set (l.length-1) ((l.getD (l.length-1) (0,0)).1,x.2)) (l++[x])
theorem ł(l:SL)(x:D×D):(iS l x).length<=l.length+1:=by
 unfold iS;cases (E (0<l.length)&&E ((l.getD (l.length-1) (0,0)).2=x.1))<;>simp
theorem jHC{p:D}{l:SL}{x:D×D}(h:ca p l)(hp:p<x.1)(hx:x.1<x.2)(hl:∀s∈l,s.2<=x.1) :
  ca p (iS l x)/\(∀y,bJ y (iS l x)↔bJ y l\/(x.1<=y/\y<x.2))/\(∀s∈iS l x,s.2<=x.2):=by
 rcases vw l with rfl|⟨A,u,rfl⟩
 .refine⟨⟨hp,hx,trivial⟩,λy=>?_,λs hs=>?_⟩
  .show bJ y [x]↔_;rw[dI];constructor
   .rintro (h|h)
    .exact .inr h
    .exact absurd h fP
   .rintro (h|h)
    .exact absurd h fP
    .exact .inl h
  .have:s=x:=by simpa[iS]using hs
   rw[this];exact k7 _
 .rw[vz]at h hl ⊢;have an:=Ł h;have hu:=hl u ae;have hg:(A++[u]).getD ((A++[u]).length-1) ((0:D),(0:D))=u:=by simp[List.getD]
  unfold iS;rw[hg];by_cases he:u.2=x.1
  .rw[ah ae,ah he];simp only[vb,j6];have kP:(A++[u]).set ((A++[u]).length-1) (u.1,x.2)=A++[(u.1,x.2)]:=ae;rw[kP];refine⟨ŀ h aa,λy=>?_,λs hs=>?_⟩
   .rw[yD,yD,dI,dI]
    have Cf:u.1<u.2:=by
     have:∀{A:SL}{p:D},ca p (A++[u])->u.1<u.2:=by
      intro A;induction A with
      |nil=>intro p h;exact h.2.1
      |cons v r ih=>intro p h;exact ih h.2.2
     exact this h
    constructor
    .rintro (h|h|h)
     .exact .inl (.inl h)
     .dsimp only at h
      by_cases hy:y<u.2
      .exact .inl (.inr (.inl ⟨h.1,hy⟩))
      .exact .inr ⟨aa,h.2⟩
     .exact absurd h fP
    .rintro ((h|h|h)|h)
     .exact .inl h
     .exact .inr (.inl ⟨h.1,by dsimp only;omega⟩)
     .exact absurd h fP
     .exact .inr (.inl ⟨by dsimp only;omega,h.2⟩)
   .rcases jn.1 hs with hs|hs
    .have:=hl s (by simp[hs]);omega
    .have:s=(u.1,x.2):=by simpa using hs
     rw[this];exact k7 _
  .rw[aj he];simp only[Bool.and_false,j7];refine⟨Ŀ h hp (λs hs=>?_) hx,λy=>?_,λs hs=>?_⟩
   .rcases jn.1 hs with dt|dt
    .have:=an s dt
     have Cf:u.1<u.2:=by
      have:∀{A:SL}{p:D},ca p (A++[u])->u.1<u.2:=by
       intro A;induction A with
       |nil=>intro p h;exact h.2.1
       |cons v r ih=>intro p h;exact ih h.2.2
      exact this h
     omega
    .have:s=u:=by simpa using dt
     rw[this];omega
   .rw[yD (r:=[x]),dI (l:=[])];constructor
    .rintro (h|h|h)
     .exact .inl h
     .exact .inr h
     .exact absurd h fP
    .rintro (h|h)
     .exact .inl h
     .exact .inr (.inl h)
   .rcases jn.1 hs with dt|dt
    .have:=hl s dt;omega
    .have:s=x:=by simpa using dt
     rw[this];exact k7 _
theorem Ń{p hi:D}:∀(b l:SL)(lo:D),ca p l->iB lo b->p<lo->(∀s∈l,s.2<=lo)->lo<=hi->(∀s∈b,s.2<=hi)->
  ca p (b.foldl iS l)/\(∀y,bJ y (b.foldl iS l)↔bJ y l\/bJ y b)/\(∀s∈b.foldl iS l,s.2<=hi)/\(b.foldl iS l).length<=l.length+b.length
 |[],l,lo,h,_,_,hl,iW,_=>⟨h,λy=>⟨.inl,λh=>h.resolve_right fP⟩,λs hs=>by have:=hl s hs;omega,ae⟩
 |x::b,l,lo,h,hb,hp,hl,iW,iE=>by
  obtain⟨b1,b2,b3⟩:=hb;obtain⟨j1,j2,j3⟩:=jHC h (x:=x) aa b2 (λs hs=>by have:=hl s hs;omega);have hx:=iE x ae;obtain⟨k1,k2,k3,k4⟩:=Ń b (iS l x) x.2 j1 b3 aa j3 hx (λs hs=>iE s (by simp[hs]));have:=ł l x;refine⟨k1,λy=>?_,k3,?_⟩
  .show bJ y (b.foldl iS (iS l x))↔_;rw[k2 y,j2 y,dI];constructor
   .rintro ((h|h)|h)
    .exact .inl h
    .exact .inr (.inl h)
    .exact .inr (.inr h)
   .rintro (h|h|h)
    .exact .inl (.inl h)
    .exact .inl (.inr h)
    .exact .inr h
  .show (b.foldl iS (iS l x)).length<=_;simp only[jk];omega
theorem ń{b:SL}(hb:b.length<=1000000):∀(n i:H)(l:SL),i+n=b.length->l.length+n<=10000000->Kp b (i:D) l=I ((b.drop i).foldl iS l)
 |0,i,l,hi,_=>by
  rw[ZU];simp only[j6N,show F b.length=(b.length:D) from rfl];rw[aj aa,j7,aS,jc aa];rfl
 |n+1,i,l,hi,hl=>by
  have an:i<b.length:=aa;have aR:b.getD i ((0:D),(0:D))=b[i]:=by simp[List.getD,an]
  have ih:=ń hb n (i+1) (iS l b[i]) aa (by have:=ł l b[i];omega);rw[show ((i+1:H):D)=(i:D)+1 by omega]at ih;rw[ZU,jb an];simp only[j6N,show F b.length=(b.length:D) from rfl,show F l.length=(l.length:D) from rfl,List.foldl_cons];rw[ah (show (i:D)<(b.length:D) by omega),j6,bY (i:=(i:D)) (n:=b.length) aa aa,al (x:=(i:D)+1)];simp only[j6,j8,aR];have bU:E (l.length+[(b[i].1,b[i].2)].length<=aM)=true:=ah (by simp[aM];omega);by_cases h0:0<l.length
  .rw[ah (show (l.length:D)>0 by omega),al (x:=(l.length:D)-1),bY (i:=(l.length:D)-1) aa aa,show ((l.length:D)-1).toNat=l.length-1 by omega];simp only[j6];by_cases he:(l.getD (l.length-1) ((0:D),(0:D))).2=b[i].1
   .have e:iS l b[i]=l.set (l.length-1) ((l.getD (l.length-1) ((0:D),(0:D))).1,b[i].2):=by unfold iS;rw[ah h0,ah he];rfl
    rw[dC he,j6,aH,<-e];exact ih
   .have e:iS l b[i]=l++[b[i]]:=by unfold iS;rw[aj he,Bool.and_false];rfl
    rw[cj he,j7,bU,j6,aH];rw[e]at ih ⊢;exact ih
  .have e:iS l b[i]=l++[b[i]]:=by unfold iS;rw[aj h0];rfl
   rw[aj (show¬(l.length:D)>0 by omega),j7,bU,j6,aH];rw[e]at ih ⊢;exact ih
theorem jDm{l b:SL}(hb:b.length<=1000000)(hl:l.length<=1000000):jeq l b=I (b.foldl iS l):=by
 have:=ń hb b.length 0 l aa aa;rw[show ((0:H):D)=0 from rfl,jm]at this;simp only[jeq,this,j4]
theorem H2{d s:D}(hd : -1<=d)(gV:d<=1000000)(hs:0<=s)(nf:s<=86399):j8c (d,s)=I ((d*86400+s+259200)%604800):=by
 have e:X d 7+10=d%7+10\/d = -1:=by
  by_cases h:0<=d
  .exact .inl (by rw[uJ h])
  .exact .inr aa
 simp only[j8c,jdh,j4];rcases e with e|rfl
 .rw[e,al (x:=d%7+10),uJ aa,al (x:=(d%7+10)%7*86400),al (x:=(d%7+10)%7*86400+s)];congr 1;omega
 .rw[show X (-1) 7 = -1 from rfl,al (x:= -1+10),show X (-1+10) 7=2 from rfl,al (x:=2*86400),al (x:=2*86400+s)];congr 1;omega
def ou(f t st:D):WL->SL
 |[]=>[]
 |v::r=>cond (E ((gS f t st v).1<(gS f t st v).2)) (gS f t st v::ou f t st r) (ou f t st r)
def sf(w:WL)(f t:D):H->D->SL
 |0,_=>[]
 |m+1,st=>cond (E (st<t)) (ou f t st w++sf w f t m (st+604800)) []
theorem Ux(f t st:D):∀w:WL,(ou f t st w).length<=w.length
 |[]=>by simp[ou]
 |v::r=>by
  have:=Ux f t st r;unfold ou;cases E ((gS f t st v).1<(gS f t st v).2)<;>simp<;>omega
theorem Ņ{w:WL}(hw:eN 0 w)(hl:w.length<=14){st f t:D}(aQ : -1000000<=st)(cZ:st<=8600000000):∀(n i:H)(acc:SL),i+n=w.length->acc.length+n<=1000000->
  Kn w f t st (i:D) acc=I (w,f,t,st,acc++ou f t st (w.drop i))
 |0,i,acc,hi,_=>by
  rw[ZS];simp only[j62,show F w.length=(w.length:D) from rfl];rw[aj aa,j7,aS,jc aa];simp[ou]
 |n+1,i,acc,hi,ha=>by
  have an:i<w.length:=aa;have aR:w.getD i ((0:D),(0:D))=w[i]:=by simp[an]
  have hg:=xZ hw i an;rw[aR]at hg;rw[ZS,jb an];simp only[j62,show F w.length=(w.length:D) from rfl];rw[ah (show (i:D)<(w.length:D) by omega),bD];simp only[j6,j8,aR];rw[al (x:=(i:D)+1),al (x:=st+w[i].1),al (x:=st+w[i].2)];have ec:(E ((if st+w[i].1>f then st+w[i].1 else f)<(if st+w[i].2<t then st+w[i].2 else t)))=E ((gS f t st w[i]).1<(gS f t st w[i]).2):=rfl;rw[ec];have ih:=λacc h=>Ņ hw hl aQ cZ (f:=f) (t:=t) n (i+1) acc aa h;rw[show ((i+1:H):D)=(i:D)+1 by omega]at ih;simp only[ou];cases E ((gS f t st w[i]).1<(gS f t st w[i]).2) with
  |true=>rw[j6,ah (by simp[aM];omega),j6,aH,j6];have:=ih (acc++[gS f t st w[i]]) ax;rw[jj]at this;exact this
  |false=>rw[j7,aH,j7];exact ih acc aa
theorem ņ{w:WL}(hw:eN 0 w)(hl:w.length<=14){f t:D}(ht:t<=8589934592):∀(m:H)(st:D)(acc:SL), -1000000<=st->t<=st+604800*m->acc.length+14*m<=900000->
  Ko w f t st acc=I (acc++sf w f t m st)
 |0,st,acc,aQ,hm,_=>by
  rw[ZT];simp only[j63];rw[aj aa,j7,aS];simp[sf]
 |m+1,st,acc,aQ,hm,eM=>by
  rw[ZT];simp only[j63,sf];by_cases an:st<t
  .have h2:=Ņ hw hl aQ aa (f:=f) (t:=t) w.length 0 acc aa aa;rw[show ((0:H):D)=0 from rfl,jm]at h2;have hlen:=Ux f t st w;rw[ah an,j6,h2];simp only[j4,j6];rw[al (x:=st+604800),aH];have:=ņ hw hl ht m (st+604800) (acc++ou f t st w) aa aa ax (f:=f);rw[jj]at this;exact this
  .rw[aj an,j7,aS,j7,ql]
theorem Ň{f t st:D}:∀{w:WL}{p:D},eN p w->iB (st+p) (ou f t st w)/\∀s∈ou f t st w,f<=s.1/\s.2<=t/\s.2<=st+604800
 |[],_,_=>⟨trivial,λs hs=>by simp[ou]at hs⟩
 |v::r,p,h=>by
  obtain⟨h1,h2,h3,h4⟩:=h;obtain⟨i1,i2⟩:=Ň (f:=f) (t:=t) (st:=st) h4;unfold ou;by_cases hc:(gS f t st v).1<(gS f t st v).2
  .have e1:st+v.1<=(gS f t st v).1/\f<=(gS f t st v).1:=by unfold gS;dsimp only;split<;>omega
   have e2:(gS f t st v).2<=st+v.2/\(gS f t st v).2<=t:=by unfold gS;dsimp only;split<;>omega
   rw[ah hc,j6];refine⟨⟨aa,hc,i1.weak aa⟩,λs hs=>?_⟩;rcases je.1 hs with rfl|hs
   .exact⟨e1.2,e2.2,aa⟩
   .exact i2 s hs
  .rw[aj hc,j7];exact⟨i1.weak aa,i2⟩
theorem ň{f t st x:D}:∀{w:WL}{p:D},eN p w->(bJ x (ou f t st w)↔f<=x/\x<t/\∃v∈w,st+v.1<=x/\x<st+v.2)
 |[],_,_=>⟨λh=>absurd h fP,λ⟨_,_,v,hv,_⟩=>by simp at hv⟩
 |v::r,p,h=>by
  obtain⟨h1,h2,h3,h4⟩:=h;have ih:=ň (f:=f) (t:=t) (st:=st) (x:=x) h4
  have he:((gS f t st v).1<=x/\x<(gS f t st v).2)↔f<=x/\x<t/\st+v.1<=x/\x<st+v.2:=by
   unfold gS;dsimp only;constructor
   .rintro⟨a1,a2⟩
    have b1:f<=x/\st+v.1<=x:=by split at a1<;>omega
    have b2:x<t/\x<st+v.2:=by split at a2<;>omega
    exact⟨b1.1,b2.1,b1.2,b2.2⟩
   .rintro⟨a1,a2,a3,a4⟩
    refine⟨?_,?_⟩<;>split<;>omega
  unfold ou;by_cases hc:(gS f t st v).1<(gS f t st v).2
  .rw[ah hc,j6,dI,ih,he];constructor
   .rintro (⟨a1,a2,a3,a4⟩|⟨a1,a2,u,hu,a3⟩)
    .exact⟨a1,a2,v,ae,a3,a4⟩
    .exact⟨a1,a2,u,by simp[hu],a3⟩
   .rintro⟨a1,a2,u,hu,a3⟩
    rcases je.1 hu with rfl|hu
    .exact .inl ⟨a1,a2,a3⟩
    .exact .inr ⟨a1,a2,u,hu,a3⟩
  .rw[aj hc,j7,ih];constructor
   .rintro⟨a1,a2,u,hu,a3⟩;exact⟨a1,a2,u,by simp[hu],a3⟩
   .rintro⟨a1,a2,u,hu,a3⟩
    rcases je.1 hu with rfl|hu
    .have:=he.2 ⟨a1,a2,a3⟩;omega
    .exact⟨a1,a2,u,hu,a3⟩
theorem ŉ{w:WL}(hw:eN 0 w){f t:D}:∀(m:H)(st:D),t<=st+604800*m->
  iB st (sf w f t m st)/\(∀s∈sf w f t m st,f<=s.1/\s.2<=t)/\(sf w f t m st).length<=w.length*m/\∀x,bJ x (sf w f t m st)↔f<=x/\x<t/\st<=x/\hasB ((x-st)%604800) w=true
 |0,st,hm=>⟨trivial,λs hs=>by simp[sf]at hs,by simp[sf],λx=>⟨λh=>absurd h fP,λh=>aa⟩⟩
 |m+1,st,hm=>by
  obtain⟨i1,i2,i3,i4⟩:=ŉ hw (f:=f) (t:=t) m (st+604800) aa;obtain⟨j1,j2⟩:=Ň (f:=f) (t:=t) (st:=st) hw;rw[ze]at j1;unfold sf;by_cases an:st<t
  .rw[ah an,j6];refine⟨ľ j1 i1 aa (λs hs=>(j2 s hs).2.2),λs hs=>?_,?_,λx=>?_⟩
   .rcases jn.1 hs with hs|hs
    .exact⟨(j2 s hs).1,(j2 s hs).2.1⟩
    .exact i2 s hs
   .have:=Ux f t st w;rw[jf,Nat.mul_succ];omega
   .rw[yD,i4 x,ň hw];constructor
    .rintro (⟨a1,a2,v,hv,a3,a4⟩|⟨a1,a2,a3,a4⟩)
     .obtain⟨i,hi,rfl⟩:=ye hv;have hg:=xZ hw i hi;rw[show w.getD i (0,0)=w[i] by simp[hi]]at hg;exact⟨a1,a2,aa,Bu.2 ⟨w[i],hv,aa,aa⟩⟩
     .refine⟨a1,a2,aa,?_⟩;rw[show (x-st)%604800=(x-(st+604800))%604800 by omega];exact a4
    .rintro⟨a1,a2,a3,a4⟩
     by_cases hx:st+604800<=x
     .refine .inr ⟨a1,a2,hx,?_⟩;rw[show (x-(st+604800))%604800=(x-st)%604800 by omega];exact a4
     .obtain⟨v,hv,c1,c2⟩:=Bu.1 a4;have e1:(x-st)%604800=x-st:=aa;rw[e1]at c1 c2;exact .inl ⟨a1,a2,v,hv,aa,aa⟩
  .rw[aj an,j7];exact⟨trivial,λs hs=>by simp at hs,ae,λx=>⟨λh=>absurd h fP,λh=>aa⟩⟩
theorem jHD{w:WL}(hw:eN 0 w)(hl:w.length<=14){f t n:D}(hf:0<=f)(ht:t<=8589934592)(jV:f<t)(hn : -64800<=n)(CC:n<=64800){M:H}(hM:M<=60)(hlen:t-f<=604800*M) :
  ∃P,jbF w f t n=I P/\iB f P/\(∀s∈P,s.2<=t)/\P.length<=w.length*(M+1)/\∀x,bJ x P↔f<=x/\x<t/\hasB ((x+n+259200)%604800) w=true:=by
 have e1:j8c ((f+n+864000)/86400-10,(f+n+864000)%86400)=I ((f+n+259200)%604800):=by rw[H2 aa aa aa aa];congr 1;omega
 generalize aQ:f-(f+n+259200)%604800=st
 obtain⟨a1,a2,a3,a4⟩:=ŉ hw (f:=f) (t:=t) (M+1) st aa;refine⟨sf w f t (M+1) st,?_,jDl a1 (λs hs=>(a2 s hs).1),λs hs=>(a2 s hs).2,a3,λx=>?_⟩
 .simp only[jbF];rw[al (x:=f+n),al (x:=f+n+864000),pj aa,al (x:=(f+n+864000)/86400),al (x:=(f+n+864000)/86400-10),uJ aa,e1];simp only[j4];rw[al (x:=f+n-(f+n+259200)%604800),al (x:=f+n-(f+n+259200)%604800-n),show f+n-(f+n+259200)%604800-n=st by omega];rw[ņ hw hl ht (M+1) st [] aa aa ax];simp
 .rw[a4 x];constructor
  .rintro⟨b1,b2,b3,b4⟩
   refine⟨b1,b2,?_⟩;rw[show (x+n+259200)%604800=(x-st)%604800 by omega];exact b4
  .rintro⟨b1,b2,b4⟩
   refine⟨b1,b2,aa,?_⟩;rw[show (x-st)%604800=(x+n+259200)%604800 by omega];exact b4
def Uy(o:D)(l:bC)(w:WL)(a b:D)(k:H)(x:D):Prop:=a<=x/\x<b/\∃j,j<k/\aT l j<=x/\x<aT l (j+1)/\hasB ((x+bk o l j+259200)%604800) w=true
theorem Uz{o:D}{l:bC}(h:iz o l){w:WL}(hw:eN 0 w)(hl:w.length<=14){M:H}(hM:M<=60){a b:D}(ha:0<=a)(cb:a<=b)(hb:b<=8589934592)(hlen:b-a<=604800*M)(nm:R)(rs:Z aL)(fw:l.length<=20){c:H}(jO:w.length*(M+1)<=c)(eX:c<=854):∀(n k:H)(acc:SL),k+n=l.length+1->
  ca (a-1) acc->(∀s∈acc,s.2<=max a (aT l k)/\s.2<=b)->acc.length<=c*k->(∀x,bJ x acc↔Uy o l w a b k x)->
  ∃out,GC w a b ((k:D)-1) nm o rs l acc=I out/\ca (a-1) out/\(∀s∈out,s.2<=b)/\out.length<=c*(l.length+1)/\∀x,bJ x out↔Uy o l w a b (l.length+1) x
 |0,k,acc,hk,h1,h2,h3,h4=>by
  have hk:k=l.length+1:=aa;subst hk;refine⟨acc,?_,h1,λs hs=>(h2 s hs).2,h3,h4⟩;rw[ZV];simp only[j64,show F l.length=(l.length:D) from rfl];rw[aj aa,j7,aS]
 |n+1,k,acc,hk,h1,h2,h3,h4=>by
  have jA:k<=l.length:=aa;have gj:c*k<=854*20:=qi eX aa;have dB:c*(k+1)=c*k+c:=Nat.mul_succ c k;have o0:=h.of0 k jA;have o1:=h.of1 k jA;have fm:=h.frm_lt (i:=k) jA;have nr:=h.frm_le (i:=0) (j:=k) aa aa;rw[pk]at nr;have fg:k=l.length->aT l (k+1)=8589934593:=λe=>by rw[e];exact nG
  have key:∀A:Option ((WL×D×D×D×R×D×Z aL×bC×SL) ⊕ SL),
    A=(if max a (aT l k)<min b (aT l (k+1)) then (jbF w (max a (aT l k)) (min b (aT l (k+1))) (bk o l k)).bind λp=>(jeq acc p).bind λj=>I (.inl (w,a,b,(k:D),nm,o,rs,l,j)) else I (.inl (w,a,b,(k:D),nm,o,rs,l,acc)))->
    ∃out,lpK A (λh=>GC h.1 h.2.1 h.2.2.1 h.2.2.2.1 h.2.2.2.2.1 h.2.2.2.2.2.1 h.2.2.2.2.2.2.1 h.2.2.2.2.2.2.2.1 h.2.2.2.2.2.2.2.2)=I out/\ca (a-1) out/\(∀s∈out,s.2<=b)/\out.length<=c*(l.length+1)/\∀x,bJ x out↔Uy o l w a b (l.length+1) x:=by
   intro A hA;have e1:((k+1:H):D)-1=(k:D):=aa;by_cases hc:max a (aT l k)<min b (aT l (k+1))
   .rw[if_pos hc]at hA;obtain⟨p,ep,p1,p2,p3,p4⟩:=jHD hw hl (f:=max a (aT l k)) (t:=min b (aT l (k+1))) aa aa hc o0 o1 hM aa;obtain⟨q1,q2,q3,q4⟩:=Ń (p:=a-1) (hi:=min b (aT l (k+1))) p acc (max a (aT l k)) h1 p1 aa (λs hs=>(h2 s hs).1) aa p2;rw[ep,j4,jDm aa aa,j4]at hA;rw[hA,aH];have ih:=Uz h hw hl hM ha cb hb hlen nm rs fw jO eX n (k+1) (p.foldl iS acc) aa q1 (λs hs=>by have:=q3 s hs;omega) aa (λx=>?_)
    .rw[e1]at ih;exact ih
    .rw[q2 x,h4 x,p4 x];constructor
     .rintro (⟨a1,a2,j,a3,a4⟩|⟨a1,a2,a3⟩)
      .exact⟨a1,a2,j,aa,a4⟩
      .exact⟨aa,aa,k,aa,aa,aa,a3⟩
     .rintro⟨a1,a2,j,a3,a4,a5,a6⟩
      by_cases hj:j=k
      .subst hj;exact .inr ⟨aa,aa,a6⟩
      .exact .inl ⟨a1,a2,j,aa,a4,a5,a6⟩
   .rw[if_neg hc]at hA;rw[hA,aH];have ih:=Uz h hw hl hM ha cb hb hlen nm rs fw jO eX n (k+1) acc aa h1 (λs hs=>by have:=h2 s hs;omega) aa (λx=>?_)
    .rw[e1]at ih;exact ih
    .rw[h4 x];constructor
     .rintro⟨a1,a2,j,a3,a4⟩
      exact⟨a1,a2,j,aa,a4⟩
     .rintro⟨a1,a2,j,a3,a4,a5,a6⟩
      by_cases hj:j=k
      .subst hj;omega
      .exact⟨a1,a2,j,aa,a4,a5,a6⟩
  rw[ZV];refine key _ ?_;simp only[j64,show F l.length=(l.length:D) from rfl];rw[ah (show (k:D)-1<(l.length:D) by omega),j6,al (x:=(k:D)-1+1),show (k:D)-1+1=(k:D) by omega];have fo:∀u:D,(if u>a then u else a)=max a u:=λu=>by split<;>omega
  have oH:∀u:D,(if u<b then u else b)=min b u:=λu=>by split<;>omega
  rcases Nat.eq_zero_or_pos k with mO|mO
  .subst mO;have et:bk o l 0=o:=rfl;have em:max a (aT l 0)=a:=by rw[pk];omega
   rw[aj (show¬((0:H):D)-1>=0 by omega),j7,em,et];by_cases jH:0<l.length
   .have ef:(l.getD 0 ((0:D),(0:D))).1=aT l 1:=(kI jH).symm;rw[ah (show ((0:H):D)<(l.length:D) by omega),j6,bY (i:=((0:H):D)) aa aa,j6,j8,ef,oH];by_cases hc:a<min b (aT l 1)
    .rw[ah hc,if_pos hc];rfl
    .rw[aj hc,if_neg hc];rfl
   .have ef:min b (aT l (0+1))=b:=by rw[fg aa];omega
    rw[aj (show¬((0:H):D)<(l.length:D) by omega),j7,ef];by_cases hc:a<b
    .rw[ah hc,if_pos hc];rfl
    .rw[aj hc,if_neg hc];rfl
  .obtain⟨k,rfl⟩:∃k',k=k'+1:=⟨k-1,aa⟩;have e1:((k+1:H):D)-1=(k:D):=aa;have et:(l.getD k ((0:D),(0:D))).2=bk o l (k+1):=rfl;have ef0:(l.getD k ((0:D),(0:D))).1=aT l (k+1):=(kI aa).symm;rw[e1,ah (show (k:D)>=0 by omega),j6,bY (i:=(k:D)) aa aa];simp only[j6,j8,et,ef0,fo];by_cases jH:k+1<l.length
   .have ef:(l.getD (k+1) ((0:D),(0:D))).1=aT l (k+1+1):=(kI jH).symm;rw[ah (show ((k+1:H):D)<(l.length:D) by omega),j6,bY (i:=((k+1:H):D)) aa aa,j6,ef,oH];by_cases hc:max a (aT l (k+1))<min b (aT l (k+1+1))
    .rw[ah hc,if_pos hc];rfl
    .rw[aj hc,if_neg hc];rfl
   .have ef:min b (aT l (k+1+1))=b:=by rw[fg aa];omega
    rw[aj (show¬((k+1:H):D)<(l.length:D) by omega),j7,ef];by_cases hc:max a (aT l (k+1))<b
    .rw[ah hc,if_pos hc];rfl
    .rw[aj hc,if_neg hc];rfl
theorem Ŋ{z:R×(D×Z aL)}{l:bC}(h4:Z4 z l)(fw:l.length<=20){w:WL}(gj:j3g w=I 0)(hw:eN 0 w)(hl:w.length<=14){M:H}(hM:M<=60){a b:D}(ha:0<=a)(cb:a<=b)(hb:b<=8589934592)(hlen:b-a<=604800*M)(hq:b-a<=34560000) :
  ∃out,j5d z w a b=I (if out.length>4096 then ([],5) else (out,0))/\ca (a-1) out/\(∀s∈out,s.2<=b)/\out.length<=w.length*(M+1)*(l.length+1)/\
   ∀k,k<=l.length->∀x,a<=x->x<b->aT l k<=x->x<aT l (k+1)->(bJ x out↔hasB ((x+bk z.2.1 l k+259200)%604800) w=true):=by
 obtain⟨out,e,o1,o2,o3,o4⟩:=Uz h4.2 hw hl hM ha cb hb hlen z.1 z.2.2 fw (jv _) (kr (qi hl (show M+1<=61 by omega)) (by decide)) (l.length+1) 0 [] aa trivial (λs hs=>by simp at hs) ae (λx=>⟨λh=>absurd h fP,λ⟨_,_,j,hj,_⟩=>aa⟩);rw[show ((0:H):D)-1 = -1 from rfl]at e;refine⟨out,?_,o1,o2,o3,λk hk x x0 x1 k0 k1=>?_⟩
 .have er:j8P a b=I true:=by simp only[j8P];rw[ah (show a>=0 from ha),ah (show a<=8589934592 by omega),ah (show b>=a from cb),ah hb,al (x:=b-a),ah hq];rfl
  simp only[j5d,show j0j (z.1,(z.2.1,z.2.2))=_ from h4.1,j4,jh,j7,gj,er,jl,e,show F out.length=(out.length:D) from rfl];by_cases hg:out.length>4096
  .rw[ah (show (out.length:D)>4096 by omega),if_pos hg];rfl
  .rw[aj (show¬(out.length:D)>4096 by omega),if_neg hg];rfl
 .rw[o4 x];constructor
  .rintro⟨_,_,j,hj,j0,j1,j2⟩
   have:j=k:=by
    rcases yg j k with an|he|an
    .have:=h4.2.frm_le (i:=j+1) (j:=k) aa aa;omega
    .exact he
    .have:=h4.2.frm_le (i:=k+1) (j:=j) aa aa;omega
   subst this;exact j2
  .exactλhx=>⟨x0,x1,k,aa,k0,k1,hx⟩
end Go.Proofs.Pw
