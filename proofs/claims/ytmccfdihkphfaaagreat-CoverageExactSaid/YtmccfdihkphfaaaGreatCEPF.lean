/- Facts. -/
import Derived.Test.YtmccfdihkphfaaaGreatCEPD
import Derived.Test.YtmccfdihkphfaaaGreatCEPB
import Derived.Test.YtmccfdihkphfaaaGreatCEPA
import Derived.Test.YtmccfdihkphfaaaGreatCEFns
import Derived.Test.YtmccfdihkphfaaaGreatCEPE
open _root_ renaming Int->E,List->I,Nat->U,ByteArray->À,Option->Å
open ByteArray renaming empty->F
open List renaming drop_eq_getElem_cons->G,length_append->J,drop_of_length_le->O,getD->Y
open Option renaming some->N,none->Ä
open Decidable renaming decide->S
open Int renaming ofNat->X
open List.Pairwise renaming nil->Z
open Go Go.Lft
namespace Go.Proofs.Pw
theorem Ļ:∀{l l':SL}{p q:E},bU p l->bU q l'->(∀x,bN x l↔bN x l')->l=l'
 |[],[],_,_,_,_,_=>rfl
 |[],s::r,_,_,_,h',hx=>absurd ((hx s.1).2 (dD.2 (.inl ⟨jx _,h'.2.1⟩))) iE
 |s::r,[],_,_,h,_,hx=>absurd ((hx s.1).1 (dD.2 (.inl ⟨jx _,h.2.1⟩))) iE
 |s::r,s'::r',p,q,h,h',hx=>by
  obtain⟨h1,h2,h3⟩:=h;obtain⟨g1,g2,g3⟩:=h'
  have e1:s.1=s'.1:=by
   have a1:=(hx s.1).1 (dD.2 (.inl ⟨jx _,h2⟩));have a2:=(hx s'.1).2 (dD.2 (.inl ⟨jx _,g2⟩));rcases dD.1 a1 with a1|a1
   .rcases dD.1 a2 with a2|a2
    .omega
    .have:=h3.low a2;omega
   .have:=g3.low a1;rcases dD.1 a2 with a2|a2
    .omega
    .have:=h3.low a2;omega
  have e2:s.2=s'.2:=by
   apply jt;intro bD;by_cases ao:s.2<s'.2
   .rcases dD.1 ((hx s.2).2 (dD.2 (.inl ⟨aa,ao⟩))) with a|a
    .omega
    .have:=h3.low a;omega
   .rcases dD.1 ((hx s'.2).1 (dD.2 (.inl ⟨aa,aa⟩))) with a|a
    .omega
    .have:=g3.low a;omega
  have hs:s=s':=Prod.ext e1 e2;subst hs;rw[Ļ h3 g3 (λx=>?_)];constructor
  .intro a;have:=h3.low a;exact(dD.1 ((hx x).1 (dD.2 (.inr a)))).resolve_left aa
  .intro a;have:=g3.low a;exact(dD.1 ((hx x).2 (dD.2 (.inr a)))).resolve_left aa
theorem ļ:∀{A B:SL}{lo mid:E},rv lo A->rv mid B->lo<=mid->(∀s∈A,s.2<=mid)->rv lo (A++B)
 |[],B,lo,mid,_,hB,h,_=>hB.weak h
 |s::A,B,lo,mid,hA,hB,h,hs=>⟨hA.1,hA.2.1,ļ hA.2.2 hB (hs s ae) (λu hu=>hs u (by simp[hu]))⟩
theorem jEL{f lo:E}:∀{l:SL},rv lo l->(∀s∈l,f<=s.1)->rv f l
 |[],_,_=>trivial
 |s::r,h,hf=>⟨hf s ae,h.2⟩
theorem Ľ:∀{A:SL}{p:E}{x:E×E},bU p A->p<x.1->(∀s∈A,s.2<x.1)->x.1<x.2->bU p (A++[x])
 |[],_,_,_,hp,_,hx=>⟨hp,hx,trivial⟩
 |s::A,p,x,h,_,hs,hx=>⟨h.1,h.2.1,Ľ h.2.2 (hs s ae) (λu hu=>hs u (by simp[hu])) hx⟩
theorem ľ:∀{A:SL}{p e:E}{y:E×E},bU p (A++[y])->y.2<=e->bU p (A++[(y.1,e)])
 |[],_,_,_,h,he=>⟨h.1,by have:=h.2.1;dsimp only;omega,trivial⟩
 |_::A,_,_,_,h,he=>⟨h.1,h.2.1,ľ h.2.2 he⟩
theorem Ŀ:∀{A:SL}{p:E}{y:E×E},bU p (A++[y])->∀s∈A,s.2<y.1
 |[],_,_,_,s,hs=>by simp at hs
 |u::A,p,y,h,s,hs=>by
  have low:∀{A:SL}{p:E},bU p (A++[y])->p<y.1:=by
   intro A;induction A with
   |nil=>intro p h;exact h.1
   |cons v r ih=>intro p h;have:=ih h.2.2;have:=h.1;have:=h.2.1;omega
  rcases jb.1 hs with rfl|hs
  .exact low h.2.2
  .exact Ŀ h.2.2 s hs
def mV(l:SL)(x:E×E):SL:=cond (S (0<l.length)&&S ((l.getD (l.length-1) (0,0)).2=x.1)) (l.set (l.length-1) ((l.getD (l.length-1) (0,0)).1,x.2)) (l++[x])
theorem jHn(l:SL)(x:E×E):(mV l x).length<=l.length+1:=by
 grind[mV]
theorem jJ0{p:E}{l:SL}{x:E×E}(h:bU p l)(hp:p<x.1)(hx:x.1<x.2)(hl:∀s∈l,s.2<=x.1) :
  bU p (mV l x)/\(∀y,bN y (mV l x)↔bN y l\/(x.1<=y/\y<x.2))/\(∀s∈mV l x,s.2<=x.2):=by
 rcases ze l with rfl|⟨A,u,rfl⟩
 .refine⟨⟨hp,hx,trivial⟩,λy=>?_,λs hs=>?_⟩;all_goals grind[dD,mV]
 .rw[zf]at h hl ⊢;have ao:=Ŀ h;have hu:=hl u ae;have hg:(A++[u]).getD ((A++[u]).length-1) ((0:E),(0:E))=u:=by simp[Y]
  unfold mV;rw[hg];by_cases he:u.2=x.1
  .rw[ai ae,ai he];simp only[z8,j6];have sP:(A++[u]).set ((A++[u]).length-1) (u.1,x.2)=A++[(u.1,x.2)]:=ae;rw[sP];refine⟨ľ h aa,λy=>?_,λs hs=>?_⟩
   .rw[Bu,Bu,dD,dD]
    have Cj:u.1<u.2:=by
     have:∀{A:SL}{p:E},bU p (A++[u])->u.1<u.2:=by
      intro A;induction A with
      |nil=>intro p h;exact h.2.1
      |cons v r ih=>intro p h;exact ih h.2.2
     exact this h
    grind
   grind
  .rw[aC he];simp only[Bool.and_false,j7];refine⟨Ľ h hp (λs hs=>?_) hx,λy=>?_,λs hs=>?_⟩
   .rcases ji.1 hs with fL|fL
    .have:=ao s fL
     have Cj:u.1<u.2:=by
      have:∀{A:SL}{p:E},bU p (A++[u])->u.1<u.2:=by
       intro A;induction A with
       |nil=>intro p h;exact h.2.1
       |cons v r ih=>intro p h;exact ih h.2.2
      exact this h
     omega
    grind
   all_goals grind[Bu,dD]
theorem ŀ{p hi:E}:∀(b l:SL)(lo:E),bU p l->rv lo b->p<lo->(∀s∈l,s.2<=lo)->lo<=hi->(∀s∈b,s.2<=hi)->
  bU p (b.foldl mV l)/\(∀y,bN y (b.foldl mV l)↔bN y l\/bN y b)/\(∀s∈b.foldl mV l,s.2<=hi)/\(b.foldl mV l).length<=l.length+b.length
 |[],l,lo,h,_,_,hl,jF,_=>⟨h,λy=>⟨.inl,λh=>h.resolve_right iE⟩,λs hs=>by grind,ae⟩
 |x::b,l,lo,h,hb,hp,hl,jF,iW=>by
  obtain⟨b1,b2,b3⟩:=hb;obtain⟨j1,j2,j3⟩:=jJ0 h (x:=x) aa b2 (λs hs=>by grind);have hx:=iW x ae;obtain⟨k1,k2,k3,k4⟩:=ŀ b (mV l x) x.2 j1 b3 aa j3 hx (λs hs=>iW s (by simp[hs]));grind[mV,dD]
theorem Ł{b:SL}(hb:b.length<=1000000):∀(n i:U)(l:SL),i+n=b.length->l.length+n<=10000000->Qg b (i:E) l=N ((b.drop i).foldl mV l)
 |0,i,l,hi,_=>by
  grind[b_,j7P,S0]
 |n+1,i,l,hi,hl=>by
  have ao:i<b.length:=aa;have br:b.getD i ((0:E),(0:E))=b[i]:=by simp[Y,ao]
  have ih:=Ł hb n (i+1) (mV l b[i]) aa (by grind[jHn]);rw[show ((i+1:U):E)=(i:E)+1 by omega]at ih;rw[b_,G ao];simp only[j7P,show X b.length=(b.length:E) from rfl,show X l.length=(l.length:E) from rfl,zr];rw[ai (show (i:E)<(b.length:E) by omega),j6,bL (i:=(i:E)) (n:=b.length) aa aa,aQ (x:=(i:E)+1)];simp only[j6,j8,br];have cO:S (l.length+[(b[i].1,b[i].2)].length<=aK)=true:=ai (by simp[aK];omega);by_cases h0:0<l.length
  .rw[ai (show (l.length:E)>0 by omega),aQ (x:=(l.length:E)-1),bL (i:=(l.length:E)-1) aa aa,show ((l.length:E)-1).toNat=l.length-1 by omega];simp only[j6];grind[mV,bg]
  grind[mV,S0]
theorem jEM{l b:SL}(hb:b.length<=1000000)(hl:l.length<=1000000):jfW l b=N (b.foldl mV l):=by
 have:=Ł hb b.length 0 l aa aa;grind[jfW]
theorem G8{d s:E}(hd : -1<=d)(iJ:d<=1000000)(hs:0<=s)(l5:s<=86399):j95 (d,s)=N ((d*86400+s+259200)%604800):=by
 have e:Int.tmod d 7+10=d%7+10\/d = -1:=by grind
 simp only[j95,jeJ,j4];rcases e with e|rfl
 .simp(disch:=omega)only[Dt,S0];congr 1;omega
 grind[gh]
def ow(f t st:E):WL->SL
 |[]=>[]
 |v::r=>cond (S ((gX f t st v).1<(gX f t st v).2)) (gX f t st v::ow f t st r) (ow f t st r)
def sq(w:WL)(f t:E):U->E->SL
 |0,_=>[]
 |m+1,st=>cond (S (st<t)) (ow f t st w++sq w f t m (st+604800)) []
theorem UO(f t st:E):∀w:WL,(ow f t st w).length<=w.length
 |[]=>by simp[ow]
 |v::r=>by
  have:=UO f t st r;unfold ow;cases S ((gX f t st v).1<(gX f t st v).2)<;>simp<;>omega
theorem ł{w:WL}(hw:ib 0 w)(hl:w.length<=14){st f t:E}(aW : -1000000<=st)(dp:st<=8600000000):∀(n i:U)(acc:SL),i+n=w.length->acc.length+n<=1000000->
  Qe w f t st (i:E) acc=N (w,f,t,st,acc++ow f t st (w.drop i))
 |0,i,acc,hi,_=>by
  grind[_9,j70,S0,ow]
 |n+1,i,acc,hi,ha=>by
  have ao:i<w.length:=aa;have br:w.getD i ((0:E),(0:E))=w[i]:=by simp[ao]
  have hg:=Bm hw i ao;rw[br]at hg;rw[_9,G ao];simp only[j70,show X w.length=(w.length:E) from rfl];rw[ai (show (i:E)<(w.length:E) by omega),cB];simp only[j6,j8,br];rw[aQ (x:=(i:E)+1),aQ (x:=st+w[i].1),aQ (x:=st+w[i].2)];have ec:(S ((if st+w[i].1>f then st+w[i].1 else f)<(if st+w[i].2<t then st+w[i].2 else t)))=S ((gX f t st w[i]).1<(gX f t st w[i]).2):=rfl;rw[ec];have ih:=λacc h=>ł hw hl aW dp (f:=f) (t:=t) n (i+1) acc aa h;rw[show ((i+1:U):E)=(i:E)+1 by omega]at ih;simp only[ow];cases S ((gX f t st w[i]).1<(gX f t st w[i]).2) with
  |true=>simp(disch:=omega)only[S0];grind[gX]
  |false=>grind[bg]
theorem Ń{w:WL}(hw:ib 0 w)(hl:w.length<=14){f t:E}(ht:t<=8589934592):∀(m:U)(st:E)(acc:SL), -1000000<=st->t<=st+604800*m->acc.length+14*m<=900000->
  Qf w f t st acc=N (acc++sq w f t m st)
 |0,st,acc,aW,hm,_=>by
  rw[a_];simp(disch:=omega)only[j71,S0];simp[sq]
 |m+1,st,acc,aW,hm,dM=>by
  rw[a_];simp only[j71,sq];by_cases ao:st<t
  .have h2:=ł hw hl aW aa (f:=f) (t:=t) w.length 0 acc aa aa;rw[show ((0:U):E)=0 from rfl,jj]at h2;have hlen:=UO f t st w;simp(disch:=omega)only[h2,S0];have:=Ń hw hl ht m (st+604800) (acc++ow f t st w) aa aa aj (f:=f);rw[jk]at this;exact this
  .rw[aC ao,j7,bV,j7,qu]
theorem ń{f t st:E}:∀{w:WL}{p:E},ib p w->rv (st+p) (ow f t st w)/\∀s∈ow f t st w,f<=s.1/\s.2<=t/\s.2<=st+604800
 |[],_,_=>⟨trivial,λs hs=>by simp[ow]at hs⟩
 |v::r,p,h=>by
  obtain⟨h1,h2,h3,h4⟩:=h;obtain⟨i1,i2⟩:=ń (f:=f) (t:=t) (st:=st) h4;unfold ow;by_cases hc:(gX f t st v).1<(gX f t st v).2
  .have e1:st+v.1<=(gX f t st v).1/\f<=(gX f t st v).1:=by unfold gX;dsimp only;split<;>omega
   have e2:(gX f t st v).2<=st+v.2/\(gX f t st v).2<=t:=by unfold gX;dsimp only;split<;>omega
   rw[ai hc,j6];refine⟨⟨aa,hc,i1.weak aa⟩,λs hs=>?_⟩;rcases jb.1 hs with rfl|hs
   .exact⟨e1.2,e2.2,aa⟩
   .exact i2 s hs
  .rw[aC hc,j7];exact⟨i1.weak aa,i2⟩
theorem Ņ{f t st x:E}:∀{w:WL}{p:E},ib p w->(bN x (ow f t st w)↔f<=x/\x<t/\∃v∈w,st+v.1<=x/\x<st+v.2)
 |[],_,_=>⟨λh=>absurd h iE,λ⟨_,_,v,hv,_⟩=>by simp at hv⟩
 |v::r,p,h=>by
  obtain⟨h1,h2,h3,h4⟩:=h;have ih:=Ņ (f:=f) (t:=t) (st:=st) (x:=x) h4
  have he:((gX f t st v).1<=x/\x<(gX f t st v).2)↔f<=x/\x<t/\st+v.1<=x/\x<st+v.2:=by
   unfold gX;dsimp only;constructor
   .rintro⟨a1,a2⟩
    have b1:f<=x/\st+v.1<=x:=by split at a1<;>omega
    have b2:x<t/\x<st+v.2:=by split at a2<;>omega
    exact⟨b1.1,b2.1,b1.2,b2.2⟩
   .rintro⟨a1,a2,a3,a4⟩
    refine⟨?_,?_⟩<;>split<;>omega
  unfold ow;by_cases hc:(gX f t st v).1<(gX f t st v).2
  .rw[ai hc,j6,dD,ih,he];constructor
   .rintro (⟨a1,a2,a3,a4⟩|⟨a1,a2,u,hu,a3⟩)
    .exact⟨a1,a2,v,ae,a3,a4⟩
    .exact⟨a1,a2,u,by simp[hu],a3⟩
   .rintro⟨a1,a2,u,hu,a3⟩
    rcases jb.1 hu with rfl|hu
    .exact .inl ⟨a1,a2,a3⟩
    .exact .inr ⟨a1,a2,u,hu,a3⟩
  .rw[aC hc,j7,ih];constructor
   .rintro⟨a1,a2,u,hu,a3⟩;exact⟨a1,a2,u,by simp[hu],a3⟩
   .rintro⟨a1,a2,u,hu,a3⟩
    rcases jb.1 hu with rfl|hu
    .have:=he.2 ⟨a1,a2,a3⟩;omega
    .exact⟨a1,a2,u,hu,a3⟩
theorem ņ{w:WL}(hw:ib 0 w){f t:E}:∀(m:U)(st:E),t<=st+604800*m->
  rv st (sq w f t m st)/\(∀s∈sq w f t m st,f<=s.1/\s.2<=t)/\(sq w f t m st).length<=w.length*m/\∀x,bN x (sq w f t m st)↔f<=x/\x<t/\st<=x/\hasB ((x-st)%604800) w=true
 |0,st,hm=>⟨trivial,λs hs=>by simp[sq]at hs,by simp[sq],λx=>⟨λh=>absurd h iE,λh=>aa⟩⟩
 |m+1,st,hm=>by
  obtain⟨i1,i2,i3,i4⟩:=ņ hw (f:=f) (t:=t) m (st+604800) aa;obtain⟨j1,j2⟩:=ń (f:=f) (t:=t) (st:=st) hw;rw[Int.add_zero]at j1;unfold sq;by_cases ao:st<t
  .rw[ai ao,j6];refine⟨ļ j1 i1 aa (λs hs=>(j2 s hs).2.2),λs hs=>?_,?_,λx=>?_⟩
   .rcases ji.1 hs with hs|hs
    .exact⟨(j2 s hs).1,(j2 s hs).2.1⟩
    .exact i2 s hs
   .have:=UO f t st w;rw[J,Nat.mul_succ];omega
   .rw[Bu,i4 x,Ņ hw];constructor
    .rintro (⟨a1,a2,v,hv,a3,a4⟩|⟨a1,a2,a3,a4⟩)
     .obtain⟨i,hi,rfl⟩:=qt hv;have hg:=Bm hw i hi;rw[show w.getD i (0,0)=w[i] by simp[hi]]at hg;exact⟨a1,a2,aa,GZ.2 ⟨w[i],hv,aa,aa⟩⟩
     .refine⟨a1,a2,aa,?_⟩;rw[show (x-st)%604800=(x-(st+604800))%604800 by omega];exact a4
    .rintro⟨a1,a2,a3,a4⟩
     by_cases hx:st+604800<=x
     .refine .inr ⟨a1,a2,hx,?_⟩;rw[show (x-(st+604800))%604800=(x-st)%604800 by omega];exact a4
     .obtain⟨v,hv,c1,c2⟩:=GZ.1 a4;have e1:(x-st)%604800=x-st:=aa;rw[e1]at c1 c2;exact .inl ⟨a1,a2,v,hv,aa,aa⟩
  .rw[aC ao,j7];exact⟨trivial,λs hs=>by simp at hs,ae,λx=>⟨λh=>absurd h iE,λh=>aa⟩⟩
theorem jJ1{w:WL}(hw:ib 0 w)(hl:w.length<=14){f t n:E}(hf:0<=f)(ht:t<=8589934592)(nV:f<t)(hn : -64800<=n)(zV:n<=64800){M:U}(hM:M<=60)(hlen:t-f<=604800*M) :
  ∃P,jd9 w f t n=N P/\rv f P/\(∀s∈P,s.2<=t)/\P.length<=w.length*(M+1)/\∀x,bN x P↔f<=x/\x<t/\hasB ((x+n+259200)%604800) w=true:=by
 have e1:j95 ((f+n+864000)/86400-10,(f+n+864000)%86400)=N ((f+n+259200)%604800):=by grind[G8]
 generalize aW:f-(f+n+259200)%604800=st
 obtain⟨a1,a2,a3,a4⟩:=ņ hw (f:=f) (t:=t) (M+1) st aa;refine⟨sq w f t (M+1) st,?_,jEL a1 (λs hs=>(a2 s hs).1),λs hs=>(a2 s hs).2,a3,λx=>?_⟩
 .simp only[jd9];rw[aQ (x:=f+n),aQ (x:=f+n+864000),uS aa,aQ (x:=(f+n+864000)/86400),aQ (x:=(f+n+864000)/86400-10),Dt aa,e1];grind[gh,Ń]
 grind
def UP(o:E)(l:bm)(w:WL)(a b:E)(k:U)(x:E):Prop:=a<=x/\x<b/\∃j,j<k/\aV l j<=x/\x<aV l (j+1)/\hasB ((x+bq o l j+259200)%604800) w=true
theorem UQ{o:E}{l:bm}(h:ix o l){w:WL}(hw:ib 0 w)(hl:w.length<=14){M:U}(hM:M<=60){a b:E}(ha:0<=a)(bH:a<=b)(hb:b<=8589934592)(hlen:b-a<=604800*M)(nm:À)(rs:I aO)(gw:l.length<=20){c:U}(ij:w.length*(M+1)<=c)(eP:c<=854):∀(n k:U)(acc:SL),k+n=l.length+1->
  bU (a-1) acc->(∀s∈acc,s.2<=max a (aV l k)/\s.2<=b)->acc.length<=c*k->(∀x,bN x acc↔UP o l w a b k x)->
  ∃out,JU w a b ((k:E)-1) nm o rs l acc=N out/\bU (a-1) out/\(∀s∈out,s.2<=b)/\out.length<=c*(l.length+1)/\∀x,bN x out↔UP o l w a b (l.length+1) x
 |0,k,acc,hk,h1,h2,h3,h4=>by
  have hk:k=l.length+1:=aa;subst hk;refine⟨acc,?_,h1,λs hs=>(h2 s hs).2,h3,h4⟩;rw[c_];simp(disch:=omega)only[j72,S0]
 |n+1,k,acc,hk,h1,h2,h3,h4=>by
  have iN:k<=l.length:=aa;have xQ:c*k<=854*20:=qi eP aa;have dm:c*(k+1)=c*k+c:=Nat.mul_succ c k;have o0:=h.of0 k iN;have o1:=h.of1 k iN;have fE:=h.frm_lt (i:=k) iN;have nM:=h.frm_le (i:=0) (j:=k) aa aa;rw[lE]at nM;have fW:k=l.length->aV l (k+1)=8589934593:=λe=>by rw[e];exact lF
  have key:∀A:Å ((WL×E×E×E×À×E×I aO×bm×SL) ⊕ SL),
    A=(if max a (aV l k)<min b (aV l (k+1)) then (jd9 w (max a (aV l k)) (min b (aV l (k+1))) (bq o l k)).bind λp=>(jfW acc p).bind λj=>N (.inl (w,a,b,(k:E),nm,o,rs,l,j)) else N (.inl (w,a,b,(k:E),nm,o,rs,l,acc)))->
    ∃out,lpK A (λh=>JU h.1 h.2.1 h.2.2.1 h.2.2.2.1 h.2.2.2.2.1 h.2.2.2.2.2.1 h.2.2.2.2.2.2.1 h.2.2.2.2.2.2.2.1 h.2.2.2.2.2.2.2.2)=N out/\bU (a-1) out/\(∀s∈out,s.2<=b)/\out.length<=c*(l.length+1)/\∀x,bN x out↔UP o l w a b (l.length+1) x:=by
   intro A hA;have e1:((k+1:U):E)-1=(k:E):=aa;by_cases hc:max a (aV l k)<min b (aV l (k+1))
   .rw[if_pos hc]at hA;obtain⟨p,ep,p1,p2,p3,p4⟩:=jJ1 hw hl (f:=max a (aV l k)) (t:=min b (aV l (k+1))) aa aa hc o0 o1 hM aa;obtain⟨q1,q2,q3,q4⟩:=ŀ (p:=a-1) (hi:=min b (aV l (k+1))) p acc (max a (aV l k)) h1 p1 aa (λs hs=>(h2 s hs).1) aa p2;rw[ep,j4,jEM aa aa,j4]at hA;rw[hA,bg];have ih:=UQ h hw hl hM ha bH hb hlen nm rs gw ij eP n (k+1) (p.foldl mV acc) aa q1 (λs hs=>by grind) aa (λx=>?_)
    .simp_all
    .rw[q2 x,h4 x,p4 x];constructor
     .rintro (⟨a1,a2,j,a3,a4⟩|⟨a1,a2,a3⟩)
      .exact⟨a1,a2,j,aa,a4⟩
      .exact⟨aa,aa,k,aa,aa,aa,a3⟩
     .rintro⟨a1,a2,j,a3,a4,a5,a6⟩
      by_cases hj:j=k
      .grind
      .exact .inl ⟨a1,a2,j,aa,a4,a5,a6⟩
   .rw[if_neg hc]at hA;rw[hA,bg];have ih:=UQ h hw hl hM ha bH hb hlen nm rs gw ij eP n (k+1) acc aa h1 (λs hs=>by grind) aa (λx=>?_)
    .simp_all
    .rw[h4 x];constructor
     .rintro⟨a1,a2,j,a3,a4⟩
      exact⟨a1,a2,j,aa,a4⟩
     .rintro⟨a1,a2,j,a3,a4,a5,a6⟩
      by_cases hj:j=k
      .subst hj;omega
      .exact⟨a1,a2,j,aa,a4,a5,a6⟩
  rw[c_];refine key _ ?_;simp only[j72,show X l.length=(l.length:E) from rfl];rw[ai (show (k:E)-1<(l.length:E) by omega),j6,aQ (x:=(k:E)-1+1),show (k:E)-1+1=(k:E) by omega];have fg:∀u:E,(if u>a then u else a)=max a u:=λu=>by split<;>omega
  have sV:∀u:E,(if u<b then u else b)=min b u:=λu=>by split<;>omega
  rcases vv k with ni|ni
  .subst ni;have et:bq o l 0=o:=rfl;have em:max a (aV l 0)=a:=by rw[lE];omega
   rw[aC (show¬((0:U):E)-1>=0 by omega),j7,em,et];by_cases jO:0<l.length
   .have ef:(l.getD 0 ((0:E),(0:E))).1=aV l 1:=(ia jO).symm;grind[bL]
   grind
  .obtain⟨k,rfl⟩:∃k',k=k'+1:=⟨k-1,aa⟩;have e1:((k+1:U):E)-1=(k:E):=aa;have et:(l.getD k ((0:E),(0:E))).2=bq o l (k+1):=rfl;have ef0:(l.getD k ((0:E),(0:E))).1=aV l (k+1):=(ia aa).symm;rw[e1,ai (show (k:E)>=0 by omega),j6,bL (i:=(k:E)) aa aa];simp only[j6,j8,et,ef0,fg];by_cases jO:k+1<l.length
   .have ef:(l.getD (k+1) ((0:E),(0:E))).1=aV l (k+1+1):=(ia jO).symm;grind[bL]
   grind
theorem jAg{z:À×(E×I aO)}{l:bm}(h4:Z4 z l)(gw:l.length<=20){w:WL}(xQ:j8N w=N 0)(hw:ib 0 w)(hl:w.length<=14){M:U}(hM:M<=60){a b:E}(ha:0<=a)(bH:a<=b)(hb:b<=8589934592)(hlen:b-a<=604800*M)(hq:b-a<=34560000) :
  ∃out,jhd z w a b=N (if out.length>4096 then ([],5) else (out,0))/\bU (a-1) out/\(∀s∈out,s.2<=b)/\out.length<=w.length*(M+1)*(l.length+1)/\
   ∀k,k<=l.length->∀x,a<=x->x<b->aV l k<=x->x<aV l (k+1)->(bN x out↔hasB ((x+bq z.2.1 l k+259200)%604800) w=true):=by
 obtain⟨out,e,o1,o2,o3,o4⟩:=UQ h4.2 hw hl hM ha bH hb hlen z.1 z.2.2 gw (jh _) (kf (qi hl (show M+1<=61 by omega)) (by decide)) (l.length+1) 0 [] aa trivial (λs hs=>by simp at hs) ae (λx=>⟨λh=>absurd h iE,λ⟨_,_,j,hj,_⟩=>aa⟩);rw[show ((0:U):E)-1 = -1 from rfl]at e;refine⟨out,?_,o1,o2,o3,λk hk x x0 x1 k0 k1=>?_⟩
 .have er:j6Y a b=N true:=by grind[j6Y,gh]
  simp(disch:=omega)only[jhd,show j0a (z.1,(z.2.1,z.2.2))=_ from h4.1,xQ,er,e,S0];grind
 .rw[o4 x];constructor
  .rintro⟨_,_,j,hj,j0,j1,j2⟩
   have:j=k:=by
    rcases v7 j k with ao|he|ao
    .have:=h4.2.frm_le (i:=j+1) (j:=k) aa aa;omega
    .exact he
    .have:=h4.2.frm_le (i:=k+1) (j:=j) aa aa;omega
   subst this;exact j2
  .exactλhx=>⟨x0,x1,k,aa,k0,k1,hx⟩
def kI(out:I E)(x:E):I Int:=cond (cond (S (out.length=0)) true (out.getD (out.length-1) 0 != x)) (out++[x]) out
def lN:U->I E->I E->I E->I E
 |0,out,_,_=>out
 |n+1,out,x::a,y::b=>cond (S (x<=y)) (lN n (kI out x) a (y::b)) (lN n (kI out y) (x::a) b)
 |n+1,out,x::a,[]=>lN n (kI out x) a []
 |n+1,out,[],y::b=>lN n (kI out y) [] b
 |_+1,out,[],[]=>out
def iu:U->I E->I E
 |0,l=>l
 |n+1,l=>if l.length<2 then l else lN l.length [] (iu n (l.take (l.length/2))) (iu n (l.drop (l.length/2)))
theorem DC(out:I E)(x:E):(kI out x).length<=out.length+1:=by
 grind[kI]
theorem Li{out:I E}{x:E}(h:out.Pairwise (· < ·))(hx:∀y∈out,y<=x):(kI out x).Pairwise (· < ·)/\(∀y,y∈kI out x↔y∈out\/y=x)/\∀y∈kI out x,y<=x:=by
 rcases ze out with rfl|⟨A,u,rfl⟩
 .grind[kI]
 .rw[zf]at h hx ⊢;have hg:(A++[u]).getD ((A++[u]).length-1) (0:E)=u:=by simp[Y]
  unfold kI;rw[hg,aC (show¬(A++[u]).length=0 by simp),j7];by_cases he:u=x;all_goals grind
theorem G9:∀(n:U)(out a b:I E),n=a.length+b.length->out.Pairwise (· < ·)->a.Pairwise (· < ·)->b.Pairwise (· < ·)->(∀x∈out,(∀y∈a,x<=y)/\∀y∈b,x<=y)->
  (lN n out a b).Pairwise (· < ·)/\(∀x,x∈lN n out a b↔x∈out\/x∈a\/x∈b)/\(lN n out a b).length<=out.length+n
 |0,out,a,b,hn,ho,_,_,_=>by
  have h1:a=[]:=List.length_eq_zero_iff.1 aa;have h2:b=[]:=List.length_eq_zero_iff.1 aa;subst h1;subst h2;exact⟨ho,λx=>by simp[lN],by simp[lN]⟩
 |n+1,out,x::a,y::b,hn,ho,ha,hb,hle=>by
  have my:=List.pairwise_cons.1 ha;have aZ:=List.pairwise_cons.1 hb;simp only[jf]at hn;unfold lN;by_cases iw:x<=y
  .rw[ai iw,j6];obtain⟨p1,p2,p3⟩:=Li (x:=x) ho (λz hz=>(hle z hz).1 x ae)
   obtain⟨q1,q2,q3⟩:=G9 n (kI out x) a (y::b) aj p1 my.2 hb (λz hz=>by
    have:=p3 z hz;refine⟨λu hu=>by have:=my.1 u hu;omega,λu hu=>?_⟩;rcases jb.1 hu with rfl|hu
    .omega
    .have:=aZ.1 u hu;omega)
   have:=DC out x;refine⟨q1,λz=>?_,aa⟩;rw[q2 z,p2 z];simp only[jb];constructor
   .rintro ((h|h)|h|h)
    .exact .inl h
    .exact .inr (.inl (.inl h))
    .exact .inr (.inl (.inr h))
    .exact .inr (.inr h)
   .rintro (h|(h|h)|h)
    .exact .inl (.inl h)
    .exact .inl (.inr h)
    .exact .inr (.inl h)
    .exact .inr (.inr h)
  .rw[aC iw,j7];obtain⟨p1,p2,p3⟩:=Li (x:=y) ho (λz hz=>(hle z hz).2 y ae)
   obtain⟨q1,q2,q3⟩:=G9 n (kI out y) (x::a) b aj p1 ha aZ.2 (λz hz=>by
    have:=p3 z hz;refine⟨λu hu=>?_,λu hu=>by have:=aZ.1 u hu;omega⟩;rcases jb.1 hu with rfl|hu
    .omega
    .have:=my.1 u hu;omega)
   have:=DC out y;refine⟨q1,λz=>?_,aa⟩;rw[q2 z,p2 z];simp only[jb];constructor
   .rintro ((h|h)|h|h)
    .exact .inl h
    .exact .inr (.inr (.inl h))
    .exact .inr (.inl h)
    .exact .inr (.inr (.inr h))
   .rintro (h|h|h|h)
    .exact .inl (.inl h)
    .exact .inr (.inl h)
    .exact .inl (.inr h)
    .exact .inr (.inr h)
 |n+1,out,x::a,[],hn,ho,ha,hb,hle=>by
  have my:=List.pairwise_cons.1 ha;simp only[jf,js]at hn;obtain⟨p1,p2,p3⟩:=Li (x:=x) ho (λz hz=>(hle z hz).1 x ae);obtain⟨q1,q2,q3⟩:=G9 n (kI out x) a [] aj p1 my.2 hb (λz hz=>⟨λu hu=>by have:=my.1 u hu;have:=p3 z hz;omega,λu hu=>by simp at hu⟩);have:=DC out x;refine⟨q1,λz=>?_,by show (lN n (kI out x) a []).length<=_;omega⟩;show z∈lN n (kI out x) a []↔_;rw[q2 z,p2 z];simp only[jb,vf,or_false,or_assoc]
 |n+1,out,[],y::b,hn,ho,ha,hb,hle=>by
  have aZ:=List.pairwise_cons.1 hb;simp only[jf,js]at hn;obtain⟨p1,p2,p3⟩:=Li (x:=y) ho (λz hz=>(hle z hz).2 y ae);obtain⟨q1,q2,q3⟩:=G9 n (kI out y) [] b aj p1 ha aZ.2 (λz hz=>⟨λu hu=>by simp at hu,λu hu=>by have:=aZ.1 u hu;have:=p3 z hz;omega⟩);have:=DC out y;refine⟨q1,λz=>?_,by show (lN n (kI out y) [] b).length<=_;omega⟩;show z∈lN n (kI out y) [] b↔_;rw[q2 z,p2 z];simp only[jb,vf,false_or,or_assoc]
 |n+1,out,[],[],hn,_,_,_,_=>by simp at hn
theorem Ň:∀(n:U)(out a b:I E),a.length+b.length<=n->lN n out a b=lN (a.length+b.length) out a b:=by
 intro n;induction n with
 |zero=>simp_all
 |succ n ih=>
  intro out a b h;match a,b,h with
  |[],[],_=>rfl
  |x::a,[],h=>
   simp_all[lN]
  |[],y::b,h=>
   simp_all[lN]
  |x::a,y::b,h=>simp only[jf]at h ⊢;grind[lN]
theorem DD:∀(n:U)(l:I E),l.length<=n+1->(iu n l).Pairwise (· < ·)/\(∀x,x∈iu n l↔x∈l)/\(iu n l).length<=l.length
 |0,l,hl=>by
  refine⟨?_,λx=>Iff.rfl,jh _⟩;match l,hl with
  |[],_=>exact Z
  |[x],_=>show List.Pairwise (· < ·) [x];simp
 |n+1,l,hl=>by
  unfold iu;by_cases h2:l.length<2
  .rw[if_pos h2];refine⟨?_,λx=>Iff.rfl,jh _⟩;match l,h2 with
   |[],_=>exact Z
   |[x],_=>simp
  .rw[if_neg h2];obtain⟨a1,a2,a3⟩:=DD n (l.take (l.length/2)) aj;obtain⟨b1,b2,b3⟩:=DD n (l.drop (l.length/2)) aj;simp only[List.length_take,qw]at a3 b3;rw[Ň l.length [] _ _ aa];obtain⟨q1,q2,q3⟩:=G9 _ [] (iu n (l.take (l.length/2))) (iu n (l.drop (l.length/2))) rfl Z a1 b1 (λx hx=>by simp at hx);refine⟨q1,λx=>?_,by simp at q3;omega⟩;rw[q2 x,a2 x,b2 x];have hx:x∈l↔x∈l.take (l.length/2)++l.drop (l.length/2):=by rw[k6]
   rw[hx,ji];simp
theorem UR:∀(n m:U)(l:I E),l.length<=n+1->l.length<=m+1->iu n l=iu m l
 |0,0,_,_,_=>rfl
 |0,m+1,l,h,_=>by unfold iu;rw[if_pos aa]
 |n+1,0,l,_,h=>by unfold iu;rw[if_pos aa]
 |n+1,m+1,l,h1,h2=>by
  unfold iu;by_cases h:l.length<2
  .rw[if_pos h,if_pos h]
  .rw[if_neg h,if_neg h,UR n m _ aj aj,UR n m _ aj aj]
theorem Lj{R:Type}(out:I E)(x:E)(hl:out.length<=400000000)(K:I E->Å R) :
  cond ((inR (w64 ((out.length:E)-1)) out.length) || !(!((out.length:E)==0))) (cond (cond ((out.length:E)==0) true (out.getD (w64 ((out.length:E)-1)).toNat 0 != x)) (cond (S (out.length+[x].length<=aK)) (K (out++[x])) Ä) (K out)) Ä=K (kI out x):=by
 rw[aQ (x:=(out.length:E)-1)];by_cases h0:out.length=0
 .have e:((out.length:E)==0)=true:=dR aa;have:out=[]:=List.length_eq_zero_iff.1 h0;subst this;rfl
 .have e:((out.length:E)==0)=false:=cU aa;rw[e,bL (i:=(out.length:E)-1) aa aa,show ((out.length:E)-1).toNat=out.length-1 by omega];grind[kI,aK]
theorem US(rec:I E->Å (I E)){a b:I E}(ha:a.length<=100000000)(hb:b.length<=100000000):∀(n i j:U)(out:I E),i<=a.length->j<=b.length->n=(a.length-i)+(b.length-j)->out.length+n<=200000000->
  JV rec (i:E) (j:E) out a b=N (lN n out (a.drop i) (b.drop j))
 |0,i,j,out,hi,hj,hn,_=>by
  rw[h_];simp(disch:=omega)only[j7T,S0];rfl
 |n+1,i,j,out,hi,hj,hn,ho=>by
  have uB:=λ(x:E)(h:i<a.length)=>US rec ha hb n (i+1) j (kI out x) aa hj aa (by have:=DC out x;omega);have uC:=λ(x:E)(h:j<b.length)=>US rec ha hb n i (j+1) (kI out x) hi aa aa (by have:=DC out x;omega);rw[h_];simp only[j7T,show X a.length=(a.length:E) from rfl,show X b.length=(b.length:E) from rfl,show X out.length=(out.length:E) from rfl]
  have ec:cond (S ((i:E)<(a.length:E))) true (S ((j:E)<(b.length:E)))=true:=by
   by_cases h:i<a.length
   .rw[ai aa];rfl
   .rw[aC aa,ai (show (j:E)<(b.length:E) by omega)];rfl
  rw[ec,j6];by_cases hja:j=b.length
  .have mS:i<a.length:=aa;have vM:a.getD i (0:E)=a[i]:=by simp[Y,mS]
   rw[dR (show (j:E)=(b.length:E) by omega),j6,bL (i:=(i:E)) (n:=a.length) aa aa,j6,aQ (x:=(i:E)+1)];simp only[j8,vM];rw[Lj out a[i] aa (λo=>N (Sum.inl ((i:E)+1,(j:E),o,a,b))),bg];have:=uB a[i] mS;rw[show ((i+1:U):E)=(i:E)+1 by omega]at this;refine this.trans ?_;rw[G mS,show b.drop j=[] from O aa];rfl
  .have pZ:j<b.length:=aa;have vZ:b.getD j (0:E)=b[j]:=by simp[Y,pZ]
   rw[cU (show (j:E)≠(b.length:E) by omega),j7];by_cases mS:i<a.length
   .have vM:a.getD i (0:E)=a[i]:=by simp[Y,mS]
    rw[ai (show (i:E)<(a.length:E) by omega),j6,bL (i:=(i:E)) (n:=a.length) aa aa,bL (i:=(j:E)) (n:=b.length) aa aa,aQ (x:=(i:E)+1),aQ (x:=(j:E)+1)];simp only[j6,j8,vM,vZ];by_cases iw:a[i]<=b[j]
    .rw[ai iw,j6,Lj out a[i] aa (λo=>N (Sum.inl ((i:E)+1,(j:E),o,a,b))),bg];have:=uB a[i] mS;rw[show ((i+1:U):E)=(i:E)+1 by omega]at this;refine this.trans ?_;rw[G mS,G pZ];show _=N (cond (S (a[i]<=b[j])) _ _);rw[ai iw,j6]
    .rw[aC iw,j7,Lj out b[j] aa (λo=>N (Sum.inl ((i:E),(j:E)+1,o,a,b))),bg];have:=uC b[j] pZ;rw[show ((j+1:U):E)=(j:E)+1 by omega]at this;refine this.trans ?_;rw[G mS,G pZ];show _=N (cond (S (a[i]<=b[j])) _ _);rw[aC iw,j7]
   .rw[aC (show¬(i:E)<(a.length:E) by omega),j7,bL (i:=(j:E)) (n:=b.length) aa aa,j6,aQ (x:=(j:E)+1)];simp only[j8,vZ];rw[Lj out b[j] aa (λo=>N (Sum.inl ((i:E),(j:E)+1,o,a,b))),bg];have:=uC b[j] pZ;rw[show ((j+1:U):E)=(j:E)+1 by omega]at this;refine this.trans ?_;rw[G pZ,show a.drop i=[] from O aa];rfl
theorem Lk:∀(n:U)(l:I E),l.length<=50000000->(iX j6n n l=Ä/\n<=l.length)\/iX j6n n l=N (iu l.length l)
 |0,l,_=> .inl ⟨rfl,jy _⟩
 |n+1,l,hl=>by
  show (JW (λv0=>iX j6n n v0) l=Ä/\_)\/JW (λv0=>iX j6n n v0) l=_;simp only[JW,show X l.length=(l.length:E) from rfl];by_cases h2:l.length<2
  .right;simp(disch:=omega)only[jr,S0];cases hk:l.length<;>grind[iu]
  .rw[aC (show¬(l.length:E)<2 by omega),j7,uS aa,aQ (x:=(l.length:E)/2),show ((l.length:E)/2).toNat=l.length/2 by omega];simp(disch:=omega)only[S0];simp only[z8,j6,jj,List.take_length];have hA:(l.take (l.length/2)).length=l.length/2:=aj;have hB:(l.drop (l.length/2)).length=l.length-l.length/2:=ae;rcases Lk n (l.take (l.length/2)) aa with⟨e1,k1⟩|e1
   .grind
   .rw[e1,j4];rcases Lk n (l.drop (l.length/2)) aa with⟨e2,k2⟩|e2
    .exact .inl ⟨by rw[e2];rfl,aa⟩
    .right;rw[e2,j4];have o1:=DD (l.take (l.length/2)).length (l.take (l.length/2)) aa;have o2:=DD (l.drop (l.length/2)).length (l.drop (l.length/2)) aa;generalize ň:iu (l.take (l.length/2)).length (l.take (l.length/2))=SA at *;generalize ŉ:iu (l.drop (l.length/2)).length (l.drop (l.length/2))=SB at *;have:=US (λv0=>iX j6n n v0) (a:=SA) (b:=SB) aa aa (SA.length+SB.length) 0 0 [] aa aa aa aj;rw[show ((0:U):E)=0 from rfl,jj,jj]at this;rw[this,j4];obtain⟨k,hk⟩:∃k,l.length=k+1:=⟨l.length-1,aa⟩;grind[iu,UR,Ň]
theorem jEO{l:I E}(hl:l.length<=50000000):jsZ l=N (iu l.length l):=
 I4 ⟨l.length+1,(Lk (l.length+1) l hl).resolve_left (λh=>by have:=h.2;omega)⟩ (λn y h=>by
  grind[Lk])
def lP(a b x:E):Bool:=cond (S (x>a)) (S (x<b)) false
def kJ(cj:I E)(a b:E):I Int:=(a::(iu cj.length cj).filter (lP a b))++(if b>a then [b] else [])
theorem Ŋ{a b:E}{l:I E}(hl:l.length<=50000000):∀(n i:U)(out:I E),i+n=l.length->out.length+n<=100000000->Qk a b (i:E) out l=N (a,b,out++(l.drop i).filter (lP a b))
 |0,i,out,hi,_=>by
  grind[i_,j5K,S0]
 |n+1,i,out,hi,ho=>by
  have ao:i<l.length:=aa;have br:l.getD i (0:E)=l[i]:=by simp[Y,ao]
  rw[i_,G ao];simp only[j5K,show X l.length=(l.length:E) from rfl];rw[ai (show (i:E)<(l.length:E) by omega),bL (i:=(i:E)) aa aa,aQ (x:=(i:E)+1)];simp only[j6,j8,br,zo];have ih:=λout h=>Ŋ (a:=a) (b:=b) hl n (i+1) out aa h;rw[show ((i+1:U):E)=(i:E)+1 by omega]at ih;show lpK (cond (lP a b l[i]) _ _) _=_;cases hc:lP a b l[i]with
  |true=>simp(disch:=omega)only[vq hc,S0];grind
  |false=>grind[bg]
theorem jAh{cj:I E}(hl:cj.length<=49000000)(a b:E):jhS cj a b=N (kJ cj a b):=by
 obtain⟨_,_,h3⟩:=DD cj.length cj aa;have:=Ŋ (a:=a) (b:=b) (l:=iu cj.length cj) aa (iu cj.length cj).length 0 [a] aa aj;rw[show ((0:U):E)=0 from rfl,jj]at this;have fE:((iu cj.length cj).filter (lP a b)).length<=(iu cj.length cj).length:=zu _ _;simp(disch:=omega)only[jhS,jEO,this,S0];grind[kJ,aK]
theorem jHq(cj:I E){a b:E}(bH:a<=b):(kJ cj a b).Pairwise (· < ·)/\(kJ cj a b).length<=cj.length+2/\(∀x∈kJ cj a b,a<=x/\x<=b)/\(∀c∈cj,a<c->c<b->c∈kJ cj a b)/\
  (∃r,kJ cj a b=a::r)/\(a<b->∃r,kJ cj a b=r++[b])/\(a=b->kJ cj a b=[a]):=by
 obtain⟨h1,h2,h3⟩:=DD cj.length cj aa;have fE:((iu cj.length cj).filter (lP a b)).length<=(iu cj.length cj).length:=zu _ _
 have iL:∀x,x∈(iu cj.length cj).filter (lP a b)↔x∈cj/\a<x/\x<b:=λx=>by
  grind[lP]
 have Ha:((iu cj.length cj).filter (lP a b)).Pairwise (· < ·):=h1.filter _;unfold kJ;by_cases ao:a<b
 .grind[List.pairwise_cons]
 .have hab':a=b:=aa;rw[if_neg (show¬b>a by omega)];have gp:(iu cj.length cj).filter (lP a b)=[]:=List.eq_nil_iff_forall_not_mem.2 (λx hx=>by grind);grind
section
variable{z:bB}{l:bm}(h4:Z4 z l)
include h4
theorem Bz{L:bt}(h:Rt L)(from_ Hb:E):∀(n:U)(k:E)(acc:I E),k+n=2386093->0<=k->(acc.length:E)<=k->
  ∃out,Qd from_ Hb k z.1 z.2.1 z.2.2 L.1 L.2.1 L.2.2.1.1 L.2.2.1.2 L.2.2.2.1 L.2.2.2.2.1 L.2.2.2.2.2.1 L.2.2.2.2.2.2.1 L.2.2.2.2.2.2.2.1 L.2.2.2.2.2.2.2.2 acc=N (0,out)/\(out.length:E)<=2386094/\
   (∀x∈acc,x∈out)/\∀j v,k<=j->hO z.2.1 l L j=N v->from_<=v->v<Hb->v∈out
 |n,k,acc,hn,hk,ha=>by
  obtain⟨v',rW,gP⟩:=Bs h4 h (k:=k) hk aa;rw[jl8];simp only[j6m];rw[show j6l (z.1,(z.2.1,z.2.2)) (L.1,L.2.1,(L.2.2.1.1,L.2.2.1.2),L.2.2.2.1,L.2.2.2.2.1,L.2.2.2.2.2.1,L.2.2.2.2.2.2.1,L.2.2.2.2.2.2.2.1,L.2.2.2.2.2.2.2.2) k=_ from rW];simp only[j4];cases hx:hO z.2.1 l L k with
  |none=>simp only[qf,jv,j6,bV];refine⟨acc,rfl,aa,λx hx=>hx,λj v hj hv _ _=>?_⟩;obtain⟨u,hu,_⟩:=QO.le h4.2 h hj ⟨v,hv,jx v⟩;rw[hx]at hu;simp at hu
  |some t=>
   have:=gP t hx;subst v';simp only[qg,jg,j7];by_cases kN:t>=Hb
   .rw[ai kN];simp only[j6,bV];refine⟨acc,rfl,aa,λx hx=>hx,λj v hj hv _ wc=>?_⟩;obtain⟨u,hu,huv⟩:=QO.le h4.2 h hj ⟨v,hv,jx v⟩;rw[hx]at hu;simp at hu;omega
   .simp(disch:=omega)only[S0];cases n with
    |zero=>have:=wX h4.2 h hk hx;omega
    |succ n=>
     by_cases gY:t>=from_
     .rw[ai gY];simp only[j6,bg];obtain⟨out,e1,e2,e3,e4⟩:=Bz h from_ Hb n (k+1) (acc++[t]) aa aa aj;refine⟨out,e1,e2,λx hx=>e3 x (by simp[hx]),λj v hj hv h1 h2=>?_⟩;by_cases wb:j=k
      .subst wb;rw[hx]at hv;simp at hv;subst hv;exact e3 t ae
      .exact e4 j v aa hv h1 h2
     .rw[aC gY];simp only[j7,bg];obtain⟨out,e1,e2,e3,e4⟩:=Bz h from_ Hb n (k+1) acc aa aa aa;refine⟨out,e1,e2,e3,λj v hj hv h1 h2=>?_⟩;by_cases wb:j=k
      .subst wb;rw[hx]at hv;simp at hv;omega
      .exact e4 j v aa hv h1 h2
theorem jJ3{a b:E}(ha:0<=a)(bH:a<=b)(hb:b<=8589934592)(hq:b-a<=34560000):j6Y a b=N true:=by
 have _:=h4;simp only[j6Y];rw[ai (show a>=0 from ha),ai (show a<=8589934592 by omega),ai (show b>=a from bH),ai hb,aQ (x:=b-a),ai hq];rfl
theorem jEP{L:bt}(h:Rt L){a b:E}(ha:0<=a)(bH:a<=b)(hb:b<=8589934592)(hq:b-a<=34560000):∃out,jbc z L a b=N (out,0)/\out.length<=2386094/\∀j v,0<=j->hO z.2.1 l L j=N v->a<v->v<b->v∈out:=by
 obtain⟨K,eK,hK⟩:=ĝ h4 h ha aa
 have hKb:K<=2386092:=by
  rcases hK with⟨hK,_⟩|⟨hK,⟨y,hy,_⟩,_⟩
  .omega
  .exact(wX h4.2 h hK hy).2.2
 obtain⟨k0,ni⟩:∃k0:E,k0=(if K>0 then K else 0):=⟨_,rfl⟩;have dr:0<=k0/\k0<=2386092/\(0<k0->k0=K):=by rw[ni];split<;>omega
 obtain⟨out,e1,e2,_,e4⟩:=Bz h4 h a b (2386093-k0).toNat k0 [] aa dr.1 aj;refine⟨out,?_,aa,λj v hj hv h1 h2=>?_⟩
 .have e2:jbb (z.1,(z.2.1,z.2.2)) (L.1,L.2.1,(L.2.2.1.1,L.2.2.1.2),L.2.2.2.1,L.2.2.2.2.1,L.2.2.2.2.2.1,L.2.2.2.2.2.2.1,L.2.2.2.2.2.2.2.1,L.2.2.2.2.2.2.2.2)=_:=Ux h4 L;simp(disch:=omega)only[jbc,e2,if_pos h,jJ3 h4 ha bH hb hq,show jeR (z.1,(z.2.1,z.2.2)) (L.1,L.2.1,(L.2.2.1.1,L.2.2.1.2),L.2.2.2.1,L.2.2.2.2.1,L.2.2.2.2.2.1,L.2.2.2.2.2.2.1,L.2.2.2.2.2.2.2.1,L.2.2.2.2.2.2.2.2) a=_ from eK,S0];rw[<-ni,e1];rfl
 .by_cases wb:k0<=j
  .exact e4 j v wb hv aa h2
  .exfalso;have hKk:=dr.2.2 aa;rcases hK with⟨hK,_⟩|⟨hK,hq,_⟩
   .omega
   .obtain⟨u,hu,hua⟩:=QO.le h4.2 h (show j<=K by omega) hq;rw[hv]at hu;simp at hu;omega
end
theorem jEQ{z:bB}(hz:eX z){L:bt}(hR:Rt L){x y:E}(h0:0<=x)(iw:x<=y)(h1:y<=8589934592)(db:∀j v,0<=j->hO z.2.1 (tb z).2 L j=N v->¬(x<v/\v<=y)):bY z L x=bY z L y:=by
 have a:=(sj hz hR (t:=x) h0 aa).2;have b:=(sj hz hR (t:=y) aa h1).2;refine lK.uniq hz.ztab.2 hR (t:=y) ?_ b;have q:∀j,0<=j->QO z.2.1 (tb z).2 L y j->QO z.2.1 (tb z).2 L x j:=λj hj ⟨v,hv,H3⟩=>⟨v,hv,by have:=db j v hj hv;omega⟩;rcases a with⟨a1,a2⟩|⟨a1,a2,a3⟩
 .exact .inl ⟨a1,λh=>a2 (q 0 aa h)⟩
 .obtain⟨v,hv,Mn⟩:=a2;exact .inr ⟨a1,⟨v,hv,aa⟩,λh=>a3 (q _ aa h)⟩
theorem Ll{z:bB}(hz:eX z){t:E}(h0:0<=t)(h1:t<=8589934592){k:U}(hk:k<=(tb z).2.length)(k1:aV (tb z).2 k<=t)(k2:t<aV (tb z).2 (k+1)) :
  cL z t=((t+bq z.2.1 (tb z).2 k)/86400,(t+bq z.2.1 (tb z).2 k)%86400)/\gf (cL z t)=(t+bq z.2.1 (tb z).2 k+259200)%604800:=by
 have e:=Dv hz.ztab.2 hk k1 k2;have o0:=hz.ztab.2.of0 k hk;have o1:=hz.ztab.2.of1 k hk;have el:cL z t=((t+bq z.2.1 (tb z).2 k)/86400,(t+bq z.2.1 (tb z).2 k)%86400):=by simp only[cL,show j1V (tb z) t=_ from e,kp]
 refine⟨el,?_⟩;have gN:j95 (cL z t)=N (gf (cL z t)):=(UB hz h0 h1).2;have h5:=G8 (d:=(t+bq z.2.1 (tb z).2 k)/86400) (s:=(t+bq z.2.1 (tb z).2 k)%86400) aa aa aa aa;rw[el]at gN ⊢;rw[h5]at gN;have:=Option.some.inj gN;rw[<-this];congr 1;omega
theorem jER{W:SL}{x y:E}(iw:x<=y)(db:∀u∈W,¬(x<u.1/\u.1<=y)/\¬(x<u.2/\u.2<=y)):bN x W↔bN y W:=by
 constructor
 .rintro⟨u,hu,h1,h2⟩
  have:=db u hu;exact⟨u,hu,aa,aa⟩
 .rintro⟨u,hu,h1,h2⟩
  have:=db u hu;exact⟨u,hu,aa,aa⟩
theorem ŋ{o:E}{l:bm}{s:E}:∀(n j i:U),j<=i->i<j+n->tX o l s i->s-bq o l i∈rr o l s j n
 |0,_,_,h1,h2,_=>aa
 |n+1,j,i,h1,h2,hs=>by
  simp only[rr];by_cases he:i=j
  .subst he;rw[if_pos hs];simp
  .exact jm _ (ŋ n (j+1) i aa aa hs)
theorem jES{z:bB}(hz:eX z){ds:I E}{x y:E}(h0:0<=x)(iw:x<=y)(h1:y<=8589934592)(htr:∀i,i<(tb z).2.length->¬(x<eh (tb z).2 i/\eh (tb z).2 i<=y))
  (x9:∀d∈ds,∀i:E,0<=i->i<2->∀t∈kG z.2.1 (tb z).2 ((d+i)*86400+0),¬(x<t/\t<=y)):S ((cL z x).1∈ds)=S ((cL z y).1∈ds):=by
 obtain⟨k,hk,k1,k2⟩:=uT hz.ztab.2 (t:=x) h0 aa
 have k3:y<aV (tb z).2 (k+1):=by
  rcases qr k (tb z).2.length with hl|hl
  .have:=htr k hl;rw[ia hl]at k2 ⊢;omega
  .rw[show k=(tb z).2.length by omega,lF];omega
 obtain⟨e1,_⟩:=Ll hz h0 aa hk k1 k2;obtain⟨e2,_⟩:=Ll hz (t:=y) aa h1 hk aa k3
 have key:∀D:E,x+bq z.2.1 (tb z).2 k<D*86400->D*86400<=y+bq z.2.1 (tb z).2 k->∀d∈ds,∀i:E,0<=i->i<2->d+i=D->False:=λD d1 d2 d hd i i0 i1 Ĥ=>by
  have hs:tX z.2.1 (tb z).2 (D*86400+0) k:=⟨aa,aa⟩;have hm:D*86400+0-bq z.2.1 (tb z).2 k∈kG z.2.1 (tb z).2 ((d+i)*86400+0):=by rw[Ĥ];exact ŋ _ 0 k aa aa hs
  exact x9 d hd i i0 i1 _ hm ⟨aa,aa⟩
 rw[e1,e2];by_cases he:(x+bq z.2.1 (tb z).2 k)/86400=(y+bq z.2.1 (tb z).2 k)/86400
 .rw[he]
 .have gg:¬(x+bq z.2.1 (tb z).2 k)/86400∈ds:=λhd=>key ((x+bq z.2.1 (tb z).2 k)/86400+1) aa aa _ hd 1 aa aa rfl;have hQ:¬(y+bq z.2.1 (tb z).2 k)/86400∈ds:=λhd=>key ((y+bq z.2.1 (tb z).2 k)/86400) aa aa _ hd 0 aa aa aa;rw[aC gg,aC hQ]
def wZ(W:SL):I Int:=W.flatMap λu=>[u.1,u.2]
theorem jHr(W:SL):(wZ W).length=2*W.length:=by
 induction W with
 |nil=>rfl
 |cons x r ih=>have:wZ (x::r)=[x.1,x.2]++wZ r:=rfl;rw[this,J,ih];simp;omega
section
variable{zs:I bB}{ps:I cZ}{cs:I aY}{ss:I bW}
theorem Ō{L:bt}{W:SL}(hW:W.length<=10000):∀(n i:U)(acc:I E),i+n=W.length->acc.length+2*n<=100000000->
  Qh (i:E) zs ps cs ss L.1 L.2.1 L.2.2.1.1 L.2.2.1.2 L.2.2.2.1 L.2.2.2.2.1 L.2.2.2.2.2.1 L.2.2.2.2.2.2.1 L.2.2.2.2.2.2.2.1 L.2.2.2.2.2.2.2.2 acc W=
   N (zs,ps,cs,ss,L.1,L.2.1,L.2.2.1.1,L.2.2.1.2,L.2.2.2.1,L.2.2.2.2.1,L.2.2.2.2.2.1,L.2.2.2.2.2.2.1,L.2.2.2.2.2.2.2.1,L.2.2.2.2.2.2.2.2,acc++wZ (W.drop i))
 |0,i,acc,hi,_=>by
  rw[e_];simp(disch:=omega)only[O,j7Q,S0];simp[wZ]
 |n+1,i,acc,hi,ha=>by
  have ao:i<W.length:=aa;have br:W.getD i ((0:E),(0:E))=W[i]:=by simp[ao]
  have ih:=Ō (L:=L) hW n (i+1) (acc++[W[i].1,W[i].2]) aa aj;rw[jk]at ih;rw[e_];simp(disch:=omega)only[G ao,j7Q,S0];exact ih
theorem ō{x:aY}{T:bm}(hT:T.length<=1000):∀(n i:U)(acc:I E),i+n=T.length->acc.length+n<=100000000->
  Df (i:E) zs ps cs ss x.1 x.2.1 x.2.2 acc T=N (zs,ps,cs,ss,x.1,x.2.1,x.2.2,acc++(T.drop i).map (·.1))
 |0,i,acc,hi,_=>by
  rw[f_];simp(disch:=omega)only[O,j7R,S0];simp
 |n+1,i,acc,hi,ha=>by
  have ao:i<T.length:=aa;have br:T.getD i ((0:E),(0:E))=T[i]:=by simp[ao]
  have ih:=ō (x:=x) hT n (i+1) (acc++[T[i].1]) aa aj;rw[jk]at ih;rw[f_];simp(disch:=omega)only[G ao,j7R,S0];exact ih
def uU(z:bB)(d:E):I Int:=kG z.2.1 (tb z).2 ((d+0)*86400+0)++kG z.2.1 (tb z).2 ((d+1)*86400+0)
theorem Ŏ{z:bB}(hz:eX z)(d:E):(uU z d).length<=10:=by
 have h4:(tb z).2.length<=4:=Bv hz;have a:=K8 (o:=z.2.1) (l:=(tb z).2) ((d+0)*86400+0) ((tb z).2.length+1) 0;have b:=K8 (o:=z.2.1) (l:=(tb z).2) ((d+1)*86400+0) ((tb z).2.length+1) 0;unfold uU kG;rw[J];omega
theorem jJX(kO:∀z∈zs,eX z){x:aY}(hx:nk zs.length x){i:U}(hi:i<x.2.2.length){acc:I E}(ha:acc.length<=90000000) :
  Qi (i:E) 0 zs ps cs ss x.1 x.2.1 x.2.2 acc=N ((i:E),zs,ps,cs,ss,x.1,x.2.1,x.2.2,acc++uU (az zs x.2.1) x.2.2[i]):=by
 have hz:eX (az zs x.2.1):=eG kO hx.z0 hx.z1;have h4:=hz.zref.2.1;have hd:=hx.day _ (jd hi);have d0:=jIX hd;have d1:=jIW hd;have br:x.2.2.getD i (0:E)=x.2.2[i]:=by simp[hi]
 have wT:(tb (az zs x.2.1)).2.length<=4:=Bv hz;have fp:=λs=>K8 (o:=(az zs x.2.1).2.1) (l:=(tb (az zs x.2.1)).2) s ((tb (az zs x.2.1)).2.length+1) 0;have e0:j96 ((zs.getD x.2.1.toNat (F,((0:E),([]:I aO)))).1,((zs.getD x.2.1.toNat (F,((0:E),([]:I aO)))).2.1,(zs.getD x.2.1.toNat (F,((0:E),([]:I aO)))).2.2)) (x.2.2[i]+0,0)=_:=ϱ h4 (show -2<=x.2.2[i]+0 by omega) aa (show (0:E)<=0 by omega) aa;have e1:j96 ((zs.getD x.2.1.toNat (F,((0:E),([]:I aO)))).1,((zs.getD x.2.1.toNat (F,((0:E),([]:I aO)))).2.1,(zs.getD x.2.1.toNat (F,((0:E),([]:I aO)))).2.2)) (x.2.2[i]+1,0)=_:=ϱ h4 (show -2<=x.2.2[i]+1 by omega) aa (show (0:E)<=0 by omega) aa;have b0:=fp ((x.2.2[i]+0)*86400+0);have b1:=fp ((x.2.2[i]+1)*86400+0);rw[Qj];simp only[j61];rw[ai (show (0:E)<2 by omega),bL hx.z0 hx.z1,bL (show (0:E)<=(i:E) by omega) aa];simp only[j6,j8,br];rw[aQ (x:=x.2.2[i]+0),e0];simp only[j4];rw[ai (show acc.length+(kG (az zs x.2.1).2.1 (tb (az zs x.2.1)).2 ((x.2.2[i]+0)*86400+0)).length<=aK by unfold kG aK;omega),j6,bg];rw[show w64 (0+1)=1 from rfl,Qj];simp only[j61];rw[ai (show (1:E)<2 by omega),bL hx.z0 hx.z1,bL (show (0:E)<=(i:E) by omega) aa];simp only[j6,j8,br];rw[aQ (x:=x.2.2[i]+1),e1];simp only[j4]
 rw[ai (show (acc++kG (az zs x.2.1).2.1 (tb (az zs x.2.1)).2 ((x.2.2[i]+0)*86400+0)).length+(kG (az zs x.2.1).2.1 (tb (az zs x.2.1)).2 ((x.2.2[i]+1)*86400+0)).length<=aK by rw[J];unfold kG aK;omega),j6,bg];rw[show w64 (1+1)=2 from rfl,Qj];simp only[j61];rw[aC (show¬(2:E)<2 by omega),j7,bV,jk];rfl
theorem ŏ(kO:∀z∈zs,eX z){x:aY}(hx:nk zs.length x):∀(n i:U)(acc:I E),i+n=x.2.2.length->acc.length+10*n<=90000000->
  Gg (i:E) zs ps cs ss x.1 x.2.1 x.2.2 acc=N (acc++(x.2.2.drop i).flatMap (uU (az zs x.2.1)))
 |0,i,acc,hi,_=>by
  rw[g_];simp(disch:=omega)only[O,j7S,S0];simp
 |n+1,i,acc,hi,ha=>by
  have ao:i<x.2.2.length:=aa;have hl:=hx.len;have hz:eX (az zs x.2.1):=eG kO hx.z0 hx.z1;have hb:=Ŏ hz x.2.2[i];have ih:=ŏ kO hx n (i+1) (acc++uU (az zs x.2.1) x.2.2[i]) aa (by rw[J];omega);rw[jk]at ih;rw[g_,G ao];simp only[j7S,show X x.2.2.length=(x.2.2.length:E) from rfl];rw[ai (show (i:E)<(x.2.2.length:E) by omega),j6,jJX kO hx ao aa];simp(disch:=omega)only[S0];exact ih
end
def pE(out:I E)(x y:E):Prop:=∀c∈out,¬(x<c/\c<=y)
theorem pE.left{A B:I E}{x y:E}(h:pE (A++B) x y):pE A x y:=λc hc=>h c (jo _ hc)
theorem pE.right{A B:I E}{x y:E}(h:pE (A++B) x y):pE B x y:=λc hc=>h c (jm _ hc)
section
variable{zs:I bB}{ps:I cZ}{cs:I aY}{ss:I bW}(hs:kS zs ps cs)
include hs
theorem jCY{L:bt}(hL:ic zs.length ps.length cs.length L){x y:E}(h0:0<=x)(iw:x<=y)(h1:y<=8589934592)
  (db:L.2.2.2.2.2.2.2.2≠0->pE ((tb (az zs (eI cs L.2.2.2.2.2.2.2.1).2.1)).2.map (·.1)++(eI cs L.2.2.2.2.2.2.2.1).2.2.flatMap (uU (az zs (eI cs L.2.2.2.2.2.2.2.1).2.1))) x y):jB zs cs L x=jB zs cs L y:=by
 unfold jB;by_cases hm:L.2.2.2.2.2.2.2.2=0
 .rw[dR hm];rfl
 .have hn:=db hm;have cI:=hL.cal hm;have hx:=mR hs cI.1 cI.2;have hz:eX (az zs (eI cs L.2.2.2.2.2.2.2.1).2.1):=eG hs.ok hx.z0 hx.z1;rw[jES hz h0 iw h1 (λi hi=>?_) (λd hd i i0 i1 t ht=>?_)]
  .refine hn.left _ (k7.2 ⟨(tb (az zs (eI cs L.2.2.2.2.2.2.2.1).2.1)).2[i],jd hi,?_⟩);unfold eh;simp[Y,hi]
  .refine hn.right t (kz.2 ⟨d,hd,?_⟩);unfold uU;have:i=0\/i=1:=aa;rcases this with rfl|rfl
   .exact jo _ ht
   .exact jm _ ht
theorem jCZ{L:bt}(hL:ic zs.length ps.length cs.length L){a b:E}(ha:0<=a)(bH:a<=b)(hb:b<=8589934592)(hlen:b-a<=34560000) :
  ∃out,jmm (zs,(ps,(cs,ss))) L a b=N out/\out.length<=2400000/\∀x y,a<=x->x<=y->y<b->pE out x y->cE zs cs L x=cE zs cs L y:=by
 have nu:=hL.rt2;have hz:eX (az zs L.2.1):=eG hs.ok hL.z0 hL.z1;have h4:=hz.zref.2.1;have wT:(tb (az zs L.2.1)).2.length<=4:=Bv hz;obtain⟨H,eH,lH,mH⟩:=jEP h4 nu ha bH hb aa
 have Hc:jbc ((zs.getD L.2.1.toNat (F,((0:E),([]:I aO)))).1,((zs.getD L.2.1.toNat (F,((0:E),([]:I aO)))).2.1,(zs.getD L.2.1.toNat (F,((0:E),([]:I aO)))).2.2))
  (L.1,L.2.1,(L.2.2.1.1,L.2.2.1.2),L.2.2.2.1,L.2.2.2.2.1,L.2.2.2.2.2.1,L.2.2.2.2.2.2.1,L.2.2.2.2.2.2.2.1,L.2.2.2.2.2.2.2.2) a b=_:=eH
 have rM:∀x y,a<=x->x<=y->y<b->pE H x y->bY (az zs L.2.1) L x=bY (az zs L.2.1) L y:=λx y h1 h2 h3 hn=>
  jEQ hz nu aa h2 aa (λj v hj hv hc=>hn v (mH j v hj hv aa aa) hc)
 obtain⟨W,eW,lW,hW⟩:∃W:SL,((L.2.2.2.2.2.2.1.length:E)>0->jhd (az zs L.2.1) L.2.2.2.2.2.2.1 a b=N (W,0))/\W.length<=1000/\
   ((L.2.2.2.2.2.2.1.length:E)>0->∀x y,a<=x->x<=y->y<b->pE (wZ W) x y->hasB (gf (cL (az zs L.2.1) x)) L.2.2.2.2.2.2.1=hasB (gf (cL (az zs L.2.1) y)) L.2.2.2.2.2.2.1):=by
  by_cases hw:(L.2.2.2.2.2.2.1.length:E)>0
  .obtain⟨W,e,s1,s2,s3,s4⟩:=jAg h4 (kf wT aa) (G7 hL.w hL.wl) hL.w hL.wl (M:=58) aa ha bH hb aa aa;have Au:W.length<=3*59*5:=kf s3 (qi (qi hL.w3 aa) aa);rw[if_neg aa]at e;refine⟨W,λ_=>e,aa,λ_ x y h1 h2 h3 hn=>?_⟩;have iL:=jER (W:=W) h2 (λu hu=>⟨hn u.1 (kz.2 ⟨u,hu,ae⟩),hn u.2 (kz.2 ⟨u,hu,ae⟩)⟩);obtain⟨i,i0,i1,i2⟩:=uT hz.ztab.2 (t:=x) aa aa;obtain⟨j,j0,j1,j2⟩:=uT hz.ztab.2 (t:=y) aa aa;rw[s4 i i0 x h1 aa i1 i2,s4 j j0 y aa h3 j1 j2]at iL;rw[(Ll hz aa aa i0 i1 i2).2,(Ll hz aa aa j0 j1 j2).2];exact vz.2 iL
  .exact⟨[],λh=>absurd h hw,ae,λh=>absurd h hw⟩
 have ca:∀x y,a<=x->x<=y->y<b->((L.2.2.2.2.2.2.1.length:E)>0->pE (wZ W) x y)->okW L.2.2.2.2.2.2.1 (gf (cL (az zs L.2.1) x))=okW L.2.2.2.2.2.2.1 (gf (cL (az zs L.2.1) y)):=λx y h1 h2 h3 hn=>by
  unfold okW;by_cases hw:(L.2.2.2.2.2.2.1.length:E)>0
  .rw[ai hw,j6,j6];exact hW hw x y h1 h2 h3 (hn hw)
  .rw[aC hw,j7,j7]
 have aD:∀out:I E,(∀c∈H,c∈out)->((L.2.2.2.2.2.2.1.length:E)>0->∀c∈wZ W,c∈out)->
   (L.2.2.2.2.2.2.2.2≠0->∀c∈(tb (az zs (eI cs L.2.2.2.2.2.2.2.1).2.1)).2.map (·.1)++(eI cs L.2.2.2.2.2.2.2.1).2.2.flatMap (uU (az zs (eI cs L.2.2.2.2.2.2.2.1).2.1)),c∈out)->
   ∀x y,a<=x->x<=y->y<b->pE out x y->cE zs cs L x=cE zs cs L y:=λout m1 m2 m3 x y h1 h2 h3 hn=>by
  have e1:=rM x y h1 h2 h3 (λc hc=>hn c (m1 c hc));have e2:=ca x y h1 h2 h3 (λhw c hc=>hn c (m2 hw c hc));have e3:=jCY hs hL (x:=x) (y:=y) aa h2 aa (λhm c hc=>hn c (m3 hm c hc));have eon:gx zs cs L x=gx zs cs L y:=by unfold gx;rw[e1,e2,e3]
  unfold cE;rw[eon,e1]
 have cI:∀acc:I E,acc.length<=2390000->L.2.2.2.2.2.2.2.2≠0->∃out,(cond (inR L.2.2.2.2.2.2.2.1 cs.length) (cond (inR (cs.getD L.2.2.2.2.2.2.2.1.toNat (F,((0:E),([]:I E)))).2.1 zs.length)
   ((
    j0a ((zs.getD (cs.getD L.2.2.2.2.2.2.2.1.toNat (F,((0:E),([]:I E)))).2.1.toNat (F,((0:E),([]:I aO)))).1,((zs.getD (cs.getD L.2.2.2.2.2.2.2.1.toNat (F,((0:E),([]:I E)))).2.1.toNat (F,((0:E),([]:I aO)))).2.1,(zs.getD (cs.getD L.2.2.2.2.2.2.2.1.toNat (F,((0:E),([]:I E)))).2.1.toNat (F,((0:E),([]:I aO)))).2.2))).bind λr88=>
    (Df 0 zs ps cs ss (cs.getD L.2.2.2.2.2.2.2.1.toNat (F,((0:E),([]:I E)))).1 (cs.getD L.2.2.2.2.2.2.2.1.toNat (F,((0:E),([]:I E)))).2.1 (cs.getD L.2.2.2.2.2.2.2.1.toNat (F,((0:E),([]:I E)))).2.2 acc r88.1).bind λq2=>
     (Gg 0 q2.1 q2.2.1 q2.2.2.1 q2.2.2.2.1 q2.2.2.2.2.1 q2.2.2.2.2.2.1 q2.2.2.2.2.2.2.1 q2.2.2.2.2.2.2.2).bind λq4=>N q4) Ä) Ä)=N out/\out.length<=2400000/\(∀c∈acc,c∈out)/\
   ∀c∈(tb (az zs (eI cs L.2.2.2.2.2.2.2.1).2.1)).2.map (·.1)++(eI cs L.2.2.2.2.2.2.2.1).2.2.flatMap (uU (az zs (eI cs L.2.2.2.2.2.2.2.1).2.1)),c∈out:=λacc dM hm=>by
  have hc:=hL.cal hm;have hx:nk zs.length (eI cs L.2.2.2.2.2.2.2.1):=mR hs hc.1 hc.2;have iA:eX (az zs (eI cs L.2.2.2.2.2.2.2.1).2.1):=eG hs.ok hx.z0 hx.z1;have Cc:(tb (az zs (eI cs L.2.2.2.2.2.2.2.1).2.1)).2.length<=4:=Bv iA;have nG:=hx.len;have e2:=ō (zs:=zs) (ps:=ps) (cs:=cs) (ss:=ss) (x:=eI cs L.2.2.2.2.2.2.2.1) (T:=(tb (az zs (eI cs L.2.2.2.2.2.2.2.1).2.1)).2) aa (tb (az zs (eI cs L.2.2.2.2.2.2.2.1).2.1)).2.length 0 acc aa aa;have e4:=ŏ (ps:=ps) (cs:=cs) (ss:=ss) hs.ok hx (eI cs L.2.2.2.2.2.2.2.1).2.2.length 0 (acc++(tb (az zs (eI cs L.2.2.2.2.2.2.2.1).2.1)).2.map (·.1)) aa (by rw[J,ki];omega);rw[show ((0:U):E)=0 from rfl,jj]at e2 e4
  have fE:∀ds:I E,(ds.flatMap (uU (az zs (eI cs L.2.2.2.2.2.2.2.1).2.1))).length<=10*ds.length:=λds=>by
   induction ds with
   |nil=>simp
   |cons d r ih=>have:=Ŏ iA d;rw[qz,J,jf];omega
  have hf:=fE (eI cs L.2.2.2.2.2.2.2.1).2.2;rw[bL hc.1 hc.2,show inR (cs.getD L.2.2.2.2.2.2.2.1.toNat (F,((0:E),([]:I E)))).2.1 zs.length=true from bL hx.z0 hx.z1];simp only[j6];rw[show j0a ((zs.getD (cs.getD L.2.2.2.2.2.2.2.1.toNat (F,((0:E),([]:I E)))).2.1.toNat (F,((0:E),([]:I aO)))).1,((zs.getD (cs.getD L.2.2.2.2.2.2.2.1.toNat (F,((0:E),([]:I E)))).2.1.toNat (F,((0:E),([]:I aO)))).2.1,(zs.getD (cs.getD L.2.2.2.2.2.2.2.1.toNat (F,((0:E),([]:I E)))).2.1.toNat (F,((0:E),([]:I aO)))).2.2))=_ from iA.zref.2.1.1];simp only[j4];rw[show Df 0 zs ps cs ss (cs.getD L.2.2.2.2.2.2.2.1.toNat (F,((0:E),([]:I E)))).1 (cs.getD L.2.2.2.2.2.2.2.1.toNat (F,((0:E),([]:I E)))).2.1 (cs.getD L.2.2.2.2.2.2.2.1.toNat (F,((0:E),([]:I E)))).2.2 acc _=_ from e2];simp only[j4];rw[e4];refine⟨_,rfl,?_,λc h=>?_,λc h=>?_⟩
  .rw[J,J,ki];omega
  .exact jo _ (jo _ h)
  .rcases ji.1 h with h|h
   .exact jo _ (jm _ h)
   .exact jm _ h
 simp only[jmm];rw[bL hL.z0 hL.z1,j6,Hc];simp only[j4,jr,js,ku];rw[ai (show H.length<=aK by unfold aK;omega),j6];by_cases hw:(L.2.2.2.2.2.2.1.length:E)>0
 .have e0:=Ō (zs:=zs) (ps:=ps) (cs:=cs) (ss:=ss) (L:=L) (W:=W) aa W.length 0 H aa aa;rw[show ((0:U):E)=0 from rfl,jj]at e0;simp(disch:=omega)only[show jhd ((zs.getD L.2.1.toNat (F,((0:E),([]:I aO)))).1,((zs.getD L.2.1.toNat (F,((0:E),([]:I aO)))).2.1,(zs.getD L.2.1.toNat (F,((0:E),([]:I aO)))).2.2)) L.2.2.2.2.2.2.1 a b=_ from eW hw,e0,S0];have xM:=jHr W;by_cases hm:L.2.2.2.2.2.2.2.2=0
  .rw[dR hm,j6];refine⟨_,rfl,by rw[J];omega,aD _ (λc h=>jo _ h) (λ_ c h=>jm _ h) (λh=>absurd hm h)⟩
  .rw[cU hm,j7];obtain⟨out,eo,lo,Lm,UT⟩:=cI (H++wZ W) (by rw[J];omega) hm;exact⟨out,eo,lo,aD out (λc h=>Lm c (jo _ h)) (λ_ c h=>Lm c (jm _ h)) (λ_=>UT)⟩
 .simp(disch:=omega)only[S0];by_cases hm:L.2.2.2.2.2.2.2.2=0
  .rw[dR hm,j6];exact⟨H,rfl,aa,aD _ (λc h=>h) (λh=>absurd h hw) (λh=>absurd hm h)⟩
  .rw[cU hm,j7];obtain⟨out,eo,lo,Lm,UT⟩:=cI H aa hm;exact⟨out,eo,lo,aD out Lm (λh=>absurd h hw) (λ_=>UT)⟩
end
end Go.Proofs.Pw
