/- Facts. -/
import Derived.Test.YtmccfdihkphfaaaGreatCEPC
import Derived.Test.YtmccfdihkphfaaaGreatCEPB
import Derived.KernelRfl
import Derived.Test.YtmccfdihkphfaaaGreatCELD
open _root_ renaming Int->D,Option->J,Nat->O,List->R
open Decidable renaming decide->F
open List renaming drop_eq_getElem_cons->G,length_append->I,length->U,drop_of_length_le->W,getD->X,singleton_append->Y
open Option renaming some->H,none->Â
open Int renaming ofNat->S,mul_comm->Á
open Bool renaming true->Z
open Go Go.Lft
namespace Go.Proofs.Pw
def sg(o:D)(l:bm)(a b:D)(k:O):O->R (D×(D×D))
 |0=>[]
 |n+1=>if aV l (k+1)<b then (a,(aV l (k+1),bq o l k))::sg o l (aV l (k+1)) b (k+1) n else [(a,(b,bq o l k))]
section
variable{o:D}{l:bm}(h:ix o l)
include h
theorem Ċ{b:D}(hb:b<=8589934592):∀(n k:O)(a:D)(acc:R (D×(D×D))),k+n=l.length+1->k<=l.length->aV l k<=a->a<aV l (k+1)->a<b->acc.length<=k->
  F2 a b o l acc=H (acc++sg o l a b k n)
 |0,k,a,acc,hn,hk,_,_,_,_=>aa
 |n+1,k,a,acc,hn,hk,h1,h2,bH,ha=>by
  have hlen:=h.len;rw[C5];simp only[j0O,show S (U l)=(l.length:D) from rfl,sg];rw[ai bH];simp only[j6,TL h hk h1 h2,TM h hk,j4];by_cases iN:k<l.length
  .have hf:aV l (k+1)=(l.getD k ((0:D),(0:D))).1:=ia iN;rw[ai (show (k:D)<(l.length:D) by omega),cB];simp only[j6,j8,<-hf];simp(disch:=omega)only[S0];by_cases hc:aV l (k+1)<b
   .rw[if_pos hc,if_pos hc];have:=Ċ hb n (k+1) (aV l (k+1)) (acc++[(a,(aV l (k+1),bq o l k))]) aa aa aa (h.frm_lt aa) hc aj;rw[jk]at this;exact this
   .rw[if_neg hc,if_neg hc];rw[C5];simp only[j0O];rw[aC aa,j7,bV]
  .have cG:k=l.length:=aa;have hf:aV l (k+1)=8589934593:=by rw[cG];exact lF
   simp(disch:=omega)only[if_neg,S0];rw[C5];simp only[j0O];rw[aC aa,j7,bV]
omit h in
theorem ċ:∀(n k:O)(a b:D),(sg o l a b k n).length<=n
 |0,k,a,b=>by simp[sg]
 |n+1,k,a,b=>by
  simp only[sg];split
  .have:=ċ n (k+1) (aV l (k+1)) b;simp;omega
  .simp
theorem Č{b:D}:∀(n k:O)(a:D),k+n=l.length+1->aV l k<=a->a<aV l (k+1)->a<b->
  ∀p∈sg o l a b k n,a<=p.1/\p.1<p.2.1/\p.2.1<=b/\∃i,k<=i/\i<=l.length/\p.2.2=bq o l i/\aV l i<=p.1/\p.2.1<=aV l (i+1)
 |0,k,a,hn,h1,h2,bH,p,hp=>by simp[sg]at hp
 |n+1,k,a,hn,h1,h2,bH,p,hp=>by
  simp only[sg]at hp;split at hp
  .rename_i hc;rcases jb.1 hp with rfl|hp
   .exact⟨jx _,h2,by dsimp only;omega,k,jh _,aa,rfl,h1,jx _⟩
   .cases n with
    |zero=>simp[sg]at hp
    |succ n=>
    obtain⟨a1,a2,a3,i,i1,i2,i3⟩:=Č (n+1) (k+1) (aV l (k+1)) aa (jx _) (h.frm_lt aa) hc p hp;exact⟨aa,a2,a3,i,aa,i2,i3⟩
  .rename_i hc;simp at hp;subst hp;exact⟨jx _,bH,jx _,k,jh _,aa,rfl,h1,by dsimp only;omega⟩
theorem č{b:D}(hb:b<=8589934592):∀(n k:O)(a:D),k+n=l.length+1->k<=l.length->aV l k<=a->a<aV l (k+1)->a<b->
  ∀x,a<=x->x<b->∃p∈sg o l a b k n,p.1<=x/\x<p.2.1
 |0,k,a,hn,hk,h1,h2,bH,x,hx,ru=>aa
 |n+1,k,a,hn,hk,h1,h2,bH,x,hx,ru=>by
  simp only[sg];split
  .rename_i hc;by_cases ao:x<aV l (k+1)
   .exact⟨_,zb ..,hx,ao⟩
   .have iN:k+1<=l.length:=by
     rcases qr k l.length with h'|h'
     .exact h'
     .have:k=l.length:=aa;subst this;rw[lF]at hc;omega
    obtain⟨p,hp,xr⟩:=č hb n (k+1) (aV l (k+1)) aa iN (jx _) (h.frm_lt iN) hc x aa ru;exact⟨p,by simp[hp],xr⟩
  .exact⟨_,zb ..,hx,ru⟩
theorem Ď{a b:D}(ha:0<=a)(bH:a<=b)(hb:b<=8589934592):∃ps,j36 (o,l) a b=H ps/\ps.length<=l.length+1/\
  (∀p∈ps,a<=p.1/\p.1<p.2.1/\p.2.1<=b/\∃i,i<=l.length/\p.2.2=bq o l i/\aV l i<=p.1/\p.2.1<=aV l (i+1))/\∀x,a<=x->x<b->∃p∈ps,p.1<=x/\x<p.2.1:=by
 simp only[j36];rcases Int.lt_or_le a b with ao|oI
 .obtain⟨k,hk,h1,h2⟩:=uT h ha aa;have:=Ċ h hb (l.length+1-k) k a [] aa hk h1 h2 ao ae;rw[jr]at this;rw[this];refine⟨_,rfl,?_,λp hp=>?_,č h hb _ k a aa hk h1 h2 ao⟩
  .have:=ċ (o:=o) (l:=l) (l.length+1-k) k a b;omega
  .obtain⟨a1,a2,a3,i,_,i2⟩:=Č h _ k a aa h1 h2 ao p hp;exact⟨a1,a2,a3,i,i2⟩
 .rw[C5];simp(disch:=omega)only[j0O,S0];exact⟨[],rfl,ae,ae,λx h1 h2=>aa⟩
end
def gX(f t st:D)(v:D×D):D×Int:=(if st+v.1>f then st+v.1 else f,if st+v.2<t then st+v.2 else t)
theorem GZ{s:D}:∀{w:WL},hasB s w=Z↔∃v∈w,v.1<=s/\s<v.2
 |[]=>by simp[hasB]
 |x::r=>by
  simp only[hasB,jb];cases hc:cond (F (x.1<=s)) (F (s<x.2)) false with
  |true=>
   simp only[j6,true_iff];refine⟨x,Or.inl rfl,?_⟩;by_cases h1:x.1<=s
   .rw[ai h1,j6]at hc;exact⟨h1,kv hc⟩
   .rw[aC h1,j7]at hc;simp at hc
  |false=>
   simp only[j7];rw[GZ (w:=r)];constructor
   .rintro⟨v,hv,h⟩;exact⟨v,Or.inr hv,h⟩
   .rintro⟨v,rfl|hv,h⟩
    .rw[ai h.1,ai h.2]at hc;simp at hc
    .exact⟨v,hv,h⟩
theorem ď{w:WL}(hw:ib 0 w)(hl:w.length<=14){st f t q:D}(aW : -1000000<=st)(dp:st<=8600000000)(a b:D)(ps:R (D×(D×D))):∀(n i:O)(acc:SL),i+n=w.length->acc.length+n<=1000000->
  Pn w st a b w (w.length:D) (i:D) f t q acc ps=H (w,st,a,b,f,t,q,acc++(w.drop i).map (gX f t st),ps)
 |0,i,acc,hi,_=>by
  rw[Z6];simp(disch:=omega)only[j55,W,S0];simp
 |n+1,i,acc,hi,ha=>by
  have ao:i<w.length:=aa;have br:w.getD i ((0:D),(0:D))=w[i]:=by simp[ao]
  have hg:=Bm hw i ao;rw[br]at hg;rw[Z6];simp(disch:=omega)only[G ao,j55,S0];have:=ď hw hl aW dp a b ps n (i+1) (acc++[gX f t st w[i]]) aa aj (f:=f) (t:=t) (q:=q);rw[jk]at this;exact this
theorem jJV{w:WL}(hw:ib 0 w)(hl:w.length<=14){f t q:D}(hf:0<=f)(ht:t<=8589934592)(nV:f<t)(a b:D)(ps:R (D×(D×D))):∀(m:O)(st:D)(acc:SL), -1000000<=st->t<=st+604800*m->acc.length+14*m<=900000->
  ∃E,Po w st a b f t q acc ps=H (w,a,b,acc++E,ps)/\E.length<=w.length*m/\(∀s∈E,f<=s.1/\s.2<=t/\s.1<=100000000000 /\ -100000000000<=s.2)/\
   ∀x,bN x E↔f<=x/\x<t/\st<=x/\hasB ((x-st)%604800) w=true:=by
 intro m;induction m with
 |zero=>intro st acc aW hm _;rw[Z7];simp(disch:=omega)only[j56,S0];exact⟨[],ae,ae,ae,λx=>⟨λh=>absurd h iE,λh=>aa⟩⟩
 |succ m ih=>
  intro st acc aW hm dM;rw[Z7];simp(disch:=omega)only[j56,S0];by_cases ao:st<t
  .have h4:=ď hw hl aW aa a b ps w.length 0 acc aa aa (f:=f) (t:=t) (q:=q);rw[show ((0:O):D)=0 from rfl,jj]at h4;simp(disch:=omega)only[h4,S0];obtain⟨E,e,h1,h2,h3⟩:=ih (st+604800) (acc++w.map (gX f t st)) aa aa aj;refine⟨w.map (gX f t st)++E,?_,?_,?_,λx=>?_⟩
   .rw[jk]at e;exact e
   .rw[I,ki,Nat.mul_succ];omega
   .intro s hs;rcases ji.1 hs with hs|hs
    .obtain⟨v,hv,rfl⟩:=k7.1 hs;obtain⟨i,hi,rfl⟩:=qt hv;have hg:=Bm hw i hi;rw[show w.getD i (0,0)=w[i] by simp[hi]]at hg;simp only[gX];refine⟨?_,?_,?_,?_⟩<;>split<;>omega
    .exact h2 s hs
   .rw[Bu,h3 x];constructor
    .rintro (⟨s,hs,qS,ru⟩|⟨a1,a2,a3,a4⟩)
     .obtain⟨v,hv,rfl⟩:=k7.1 hs;have gP:=hv;obtain⟨i,hi,rfl⟩:=qt hv;have hg:=Bm hw i hi;rw[show w.getD i (0,0)=w[i] by simp[hi]]at hg;simp only[gX]at qS ru;have b1:f<=x/\st+w[i].1<=x:=by split at qS<;>omega
      have b2:x<t/\x<st+w[i].2:=by split at ru<;>omega
      refine⟨b1.1,b2.1,aa,GZ.2 ⟨w[i],gP,?_,?_⟩⟩<;>omega
     .refine⟨a1,a2,aa,?_⟩;rw[show (x-st)%604800=(x-(st+604800))%604800 by omega];exact a4
    .rintro⟨a1,a2,a3,a4⟩
     by_cases hx:st+604800<=x
     .refine Or.inr ⟨a1,a2,hx,?_⟩;rw[show (x-(st+604800))%604800=(x-st)%604800 by omega];exact a4
     .obtain⟨v,hv,c1,c2⟩:=GZ.1 a4;have e1:(x-st)%604800=x-st:=aa;rw[e1]at c1 c2;refine Or.inl ⟨gX f t st v,k7.2 ⟨v,hv,rfl⟩,?_,?_⟩<;>simp only[gX]<;>split<;>omega
  .rw[aC ao,j7,bV];exact⟨[],ae,ae,ae,λx=>⟨λh=>absurd h iE,λh=>aa⟩⟩
theorem Đ{w:WL}(hw:ib 0 w)(hl:w.length<=14){ps:R (D×(D×D))}{M:O}(hM:M<=60)(fy:ps.length<=30){lo hi:D}(jF:0<=lo)(iW:hi<=8589934592)
  (iv:∀p∈ps,lo<=p.1/\p.1<p.2.1/\p.2.1<=hi /\ -64800<=p.2.2/\p.2.2<=64800/\p.2.1-p.1<=604800*M):∀(n i:O)(acc:SL),i+n=ps.length->acc.length<=854*i->
  ∃E,Pp w (ps.length:D) (i:D) acc ps=H (acc++E)/\E.length<=w.length*(M+1)*n/\(∀s∈E,lo<=s.1/\s.2<=hi/\s.1<=100000000000 /\ -100000000000<=s.2)/\
   ∀x,bN x E↔∃p∈ps.drop i,p.1<=x/\x<p.2.1/\hasB ((x+p.2.2+259200)%604800) w=Z
 |0,i,acc,hi,_=>by
  rw[Z8];simp(disch:=omega)only[j57,W,S0];exact⟨[],ae,ae,ae,λx=>⟨λh=>absurd h iE,λ⟨p,hp,_⟩=>by simp at hp⟩⟩
 |n+1,i,acc,hi,dM=>by
  have ao:i<ps.length:=aa;have br:ps.getD i ((0:D),((0:D),(0:D)))=ps[i]:=by simp[ao]
  obtain⟨p1,p2,p3,p4,p5,p6⟩:=iv ps[i] (jd ao);have đ:w.length*(M+1)<=854:=kf (qi hl (show M+1<=61 by omega)) (by decide);rw[Z8,G ao];simp only[j57];simp(disch:=omega)only[Dt,S0];generalize aW:ps[i].1+ps[i].2.2 - -259200-(ps[i].1+ps[i].2.2 - -259200)%604800 + -259200-ps[i].2.2=st;obtain⟨E1,e1,l1,b1,m1⟩:=jJV hw hl (f:=ps[i].1) (t:=ps[i].2.1) (q:=ps[i].2.2) aa aa p2 (ps.length:D) (i:D) ps (M+1) st acc aa aa aa;rw[e1];simp only[j4];rw[aQ (x:=(i:D)+1),bg];obtain⟨E2,e2,l2,b2,m2⟩:=Đ hw hl hM fy jF iW iv n (i+1) (acc++E1) aa aj;refine⟨E1++E2,?_,?_,?_,λx=>?_⟩
  .rw[jk]at e2;exact e2
  .rw[I,Nat.mul_succ];omega
  .intro s hs;rcases ji.1 hs with hs|hs
   .have:=b1 s hs;omega
   .exact b2 s hs
  .rw[Bu,m1 x,m2 x];have key:∀x,ps[i].1<=x->(x-st)%604800=(x+ps[i].2.2+259200)%604800/\st<=x:=by intro x hx;omega
   constructor
   .rintro (⟨c1,c2,c3,c4⟩|⟨p,hp,h⟩)
    .exact⟨ps[i],zb ..,c1,c2,by rw[<-(key x c1).1];exact c4⟩
    .exact⟨p,qm _ hp,h⟩
   .rintro⟨p,hp,c1,c2,c3⟩
    rcases jb.1 hp with rfl|hp
    .exact Or.inl ⟨c1,c2,(key x c1).2,by rw[(key x c1).1];exact c3⟩
    .exact Or.inr ⟨p,hp,c1,c2,c3⟩
theorem jAf{o:D}{l:bm}(h:ix o l)(gw:l.length<=20){w:WL}(hw:ib 0 w)(hl:w.length<=14){M:O}(hM:M<=60){a b:D}(ha:0<=a)(bH:a<=b)(hb:b<=8589934592)(hlen:b-a<=604800*M) :
  ∃out,j7b (o,l) w a b=H out/\bU (a-1) out/\(∀u∈out,a<=u.1/\u.2<=b)/\out.length<=w.length*(M+1)*(l.length+1)/\
   ∀k,k<=l.length->∀x,a<=x->x<b->aV l k<=x->x<aV l (k+1)->(bN x out↔hasB ((x+bq o l k+259200)%604800) w=Z):=by
 obtain⟨ps,e,pl,pm,pc⟩:=Ď h ha bH hb
 obtain⟨E,e1,l1,b1,m1⟩:=Đ hw hl hM (ps:=ps) aa (lo:=a) (hi:=b) ha hb (λp hp=>by
  obtain⟨h1,h2,h3,i,i1,i2,_⟩:=pm p hp;have:=h.of0 i i1;have:=h.of1 i i1;exact⟨h1,h2,h3,aa,aa,aa⟩) ps.length 0 [] aa ae
 rw[show ((0:O):D)=0 from rfl,jr]at e1;have đ:w.length*(M+1)<=854:=kf (qi hl (show M+1<=61 by omega)) (by decide);have Ē:E.length<=w.length*(M+1)*(l.length+1):=kf l1 (vj _ pl);have hEl2:E.length<=854*21:=kf Ē (qi đ aa);obtain⟨out,e2,s1,s2,s3,s4⟩:=GY (l:=E) aa (λs hs=>by have:=b1 s hs;omega) (lo:=a) (hi:=b) (λs hs _=>⟨(b1 s hs).1,(b1 s hs).2.1⟩);refine⟨out,?_,s1,s4,aa,λk hk x qS ru dr fo=>?_⟩
 .simp(disch:=omega)only[j7b,e,e1,e2,S0]
 .rw[s2 x,m1 x,jj];constructor
  .rintro⟨p,hp,c1,c2,c3⟩
   obtain⟨h1,h2,h3,i,i1,i2,i3,i4⟩:=pm p hp;have:i=k:=K3 h i1 hk (t:=x) aa aa dr fo;subst this;rw[<-i2];exact c3
  .intro hx;obtain⟨p,hp,c1,c2⟩:=pc x qS ru;obtain⟨h1,h2,h3,i,i1,i2,i3,i4⟩:=pm p hp;have:i=k:=K3 h i1 hk (t:=x) aa aa dr fo;subst this;exact⟨p,hp,c1,c2,by rw[i2];exact hx⟩
theorem Bv{o:D}{rs:R aO}(hm:MZ o rs):(cm o (dY (occs rs))).length<=4:=by
 have h1:=KX (dY (occs rs)) o;have h2:(dY (occs rs)).length=(occs rs).length:=by unfold dY;rw[List.length_reverse,Dw];simp
 have:=hm.few;omega
theorem jHd{o:D}{rs:R aO}(hm:MZ o rs):(cm o (dY (occs rs))).length<=20:=kf (Bv hm) aa
theorem bU.weak{p q:D}(hq:q<=p):∀{l:SL},bU p l->bU q l
 |[],_=>trivial
 |_::_,h=>⟨by have:=h.1;omega,h.2⟩
theorem bU.low{p x:D}:∀{l:SL},bU p l->bN x l->p<x
 |[],_,h=>absurd h iE
 |s::r,h,hx=>by
  rcases dD.1 hx with hx|hx
  .have:=h.1;omega
  .have:=bU.low h.2.2 hx;have:=h.1;have:=h.2.1;omega
theorem bU.mem{p:D}:∀{l:SL},bU p l->∀s∈l,p<s.1/\s.1<s.2
 |[],_,s,hs=>by simp at hs
 |u::r,h,s,hs=>by
  rcases jb.1 hs with rfl|hs
  .exact⟨h.1,h.2.1⟩
  .have:=bU.mem h.2.2 s hs;have:=h.1;have:=h.2.1;omega
def py:O->SL->SL->SL
 |n+1,s::a,u::b=>(if (if u.1>s.1 then u.1 else s.1)<(if u.2<s.2 then u.2 else s.2) then [((if u.1>s.1 then u.1 else s.1),(if u.2<s.2 then u.2 else s.2))] else [])++
  (if s.2<u.2 then py n a (u::b) else py n (s::a) b)
 |_,_,_=>[]
theorem Ut:∀(n:O)(a b:SL)(p q:D),a.length+b.length<=n->bU p a->bU q b->(∀x,bN x (py n a b)↔bN x a/\bN x b)/\bU p (py n a b)/\bU q (py n a b)/\(py n a b).length<=a.length+b.length
 |0,a,b,p,q,hn,_,_=>by
  grind[List.length_eq_zero_iff,py]
 |n+1,[],b,p,q,_,_,_=>⟨λx=>⟨λh=>absurd h iE,λh=>absurd h.1 iE⟩,trivial,trivial,by simp[py]⟩
 |n+1,_::_,[],p,q,_,_,_=>⟨λx=>⟨λh=>absurd h iE,λh=>absurd h.2 iE⟩,trivial,trivial,by simp[py]⟩
 |n+1,s::a,u::b,p,q,hn,ha,hb=>by
  obtain⟨a1,a2,a3⟩:=ha;obtain⟨b1,b2,b3⟩:=hb;simp only[jf]at hn ⊢;have hx:∃f t:D,f=(if u.1>s.1 then u.1 else s.1)/\t=(if u.2<s.2 then u.2 else s.2)/\(∀x,(f<=x/\x<t)↔(s.1<=x/\x<s.2)/\(u.1<=x/\x<u.2))/\p<f/\q<f/\t<=s.2/\t<=u.2:=by grind
  obtain⟨f,t,ef,et,hi,f1,f2,t1,t2⟩:=hx;simp only[py,<-ef,<-et]
  have key:∀(a' b':SL)(r:SL),(∀x,bN x r↔bN x a'/\bN x b')->bU t r->bU p r->bU q r->r.length<=a'.length+b'.length->a'.length+b'.length+1=a.length+1+(b.length+1)->
    (∀x,bN x (s::a)/\bN x (u::b)↔(f<=x/\x<t)\/(bN x a'/\bN x b'))->
    (∀x,bN x ((if f<t then [(f,t)] else [])++r)↔bN x (s::a)/\bN x (u::b))/\bU p ((if f<t then [(f,t)] else [])++r)/\bU q ((if f<t then [(f,t)] else [])++r)/\((if f<t then [(f,t)] else [])++r).length<=a.length+1+(b.length+1):=by
   intro a' b' r Et yJ hr3 ē hl uD Uu;by_cases nV:f<t
   .rw[if_pos nV];refine⟨λx=>?_,⟨f1,nV,yJ⟩,⟨f2,nV,yJ⟩,aj⟩;grind[dD]
   grind
  by_cases hc:s.2<u.2
  .rw[if_pos hc];obtain⟨i1,i2,i3,i4⟩:=Ut n a (u::b) s.2 q aj a3 ⟨b1,b2,b3⟩;refine key a (u::b) _ i1 (i2.weak t1) (i2.weak aa) i3 i4 aj (λx=>?_);rw[dD,hi x];constructor
   .rintro⟨h|h,h'⟩
    .rcases dD.1 h' with h'|h'
     .exact .inl ⟨h,h'⟩
     .have:=bU.low b3 h';omega
    .exact .inr ⟨h,h'⟩
   .rintro (h|h)
    all_goals grind[dD]
  .rw[if_neg hc];obtain⟨i1,i2,i3,i4⟩:=Ut n (s::a) b p u.2 aj ⟨a1,a2,a3⟩ b3;refine key (s::a) b _ i1 (i3.weak t2) i2 (i3.weak aa) i4 aj (λx=>?_);rw[dD (s:=u),hi x];constructor
   .rintro⟨h',h|h⟩
    .rcases dD.1 h' with h'|h'
     .exact .inl ⟨h',h⟩
     .have:=bU.low a3 h';omega
    .exact .inr ⟨h',h⟩
   .rintro (h|h)
    all_goals grind[dD]
theorem Uv{A B:SL}(hA:A.length<=10000000)(hB:B.length<=10000000):∀(n i k:O)(acc:SL),i<=A.length->k<=B.length->(A.length-i)+(B.length-k)=n->acc.length+n<=30000000->
  F5 A B (i:D) (k:D) acc=H (acc++py n (A.drop i) (B.drop k))
 |n,i,k,acc,hi,hk,hn,dM=>by
  rw[jnu];simp only[j7o,show S (U A)=(A.length:D) from rfl,show S (U B)=(B.length:D) from rfl];by_cases fW:i<A.length/\k<B.length
  .obtain⟨bG,bC⟩:=fW;obtain⟨n,rfl⟩:∃m,n=m+1:=⟨n-1,aa⟩;have gA:A.getD i ((0:D),(0:D))=A[i]:=by simp[X,bG]
   have gB:B.getD k ((0:D),(0:D))=B[k]:=by simp[X,bC]
   rw[ai (show (i:D)<(A.length:D) by omega),ai (show (k:D)<(B.length:D) by omega),bL (show (0:D)<=(i:D) by omega) aa,bL (show (0:D)<=(k:D) by omega) aa];simp only[j6,j8,gA,gB];rw[aQ (x:=(i:D)+1),aQ (x:=(k:D)+1)];rw[G bG,G bC];simp only[py];generalize (if B[k].1>A[i].1 then B[k].1 else A[i].1:D)=f;generalize (if B[k].2<A[i].2 then B[k].2 else A[i].2:D)=t
   have ih1:∀bd:SL,bd.length<=acc.length+1->F5 A B ((i:D)+1) (k:D) bd=H (bd++py n (A.drop (i+1)) (B[k]::B.drop (k+1))):=λbd my=>by
    have:=Uv hA hB n (i+1) k bd aa aa aa aa
    simp_all
   have ih2:∀bd:SL,bd.length<=acc.length+1->F5 A B (i:D) ((k:D)+1) bd=H (bd++py n (A[i]::A.drop (i+1)) (B.drop (k+1))):=λbd my=>by
    have:=Uv hA hB n i (k+1) bd aa aa aa aa
    simp_all
   by_cases nV:f<t
   .simp(disch:=omega)only[if_pos nV,S0];grind[bg]
   .rw[aC nV,if_neg nV];simp only[j7];by_cases hc:A[i].2<B[k].2;all_goals grind[S0]
  grind[bV,py]
theorem jCJ{A B:SL}{p q:D}(ha:bU p A)(hb:bU q B)(hA:A.length<=10000000)(hB:B.length<=10000000) :
  ∃out,jeD A B=H out/\bU p out/\(∀x,bN x out↔bN x A/\bN x B)/\out.length<=A.length+B.length:=by
 have lp:=Uv hA hB (A.length+B.length) 0 0 [] aa aa aa aj;obtain⟨h1,h2,h3,h4⟩:=Ut (A.length+B.length) A B p q (jh _) ha hb;grind[jeD]
def pz(e:D):D->SL->SL×D
 |t,[]=>([],t)
 |t,u::b=>if u.1<e then ((if t<u.1 then [(t,u.1)] else [])++(pz e (if u.2>t then u.2 else t) b).1,(pz e (if u.2>t then u.2 else t) b).2) else ([],t)
def nt(e t:D)(b:SL):SL:=(pz e t b).1++(if (pz e t b).2<e then [((pz e t b).2,e)] else [])
theorem jHf{e t:D}{u:D×D}{b:SL}(h:u.1<e):nt e t (u::b)=(if t<u.1 then [(t,u.1)] else [])++nt e (if u.2>t then u.2 else t) b:=by
 grind[nt,pz]
theorem Ĕ{e:D}:∀(b:SL)(t q:D),bU q b->(∀x,bN x (nt e t b)↔(t<=x/\x<e)/\¬bN x b)/\bU (t-1) (nt e t b)/\(∀s∈nt e t b,s.2<=e)/\(nt e t b).length<=b.countP (λu=>F (t<u.1)&&F (u.1<e))+1
 |[],t,q,_=>by
  rw[show nt e t []=(if t<e then [(t,e)] else []) from rfl];by_cases h:t<e
  .rw[if_pos h];exact⟨λx=>⟨λhx=>⟨by rcases dD.1 hx with hx|hx;exact hx;exact absurd hx iE,iE⟩,λhx=>dD.2 (.inl hx.1)⟩,⟨by dsimp only;omega,h,trivial⟩,ae,ae⟩
  .rw[if_neg h];exact⟨λx=>⟨λhx=>absurd hx iE,λhx=>aa⟩,trivial,ae,ae⟩
 |u::b,t,q,hb=>by
  obtain⟨b1,b2,b3⟩:=hb;by_cases hu:u.1<e
  .rw[jHf hu];have hm:∃t',t'=(if u.2>t then u.2 else t)/\t<=t'/\u.2<=t'/\(t'=t\/t'=u.2):=⟨_,rfl,by split<;>omega,by split<;>omega,by split<;>omega⟩;obtain⟨t',e',h1,h2,h3⟩:=hm;rw[<-e'];obtain⟨i1,i2,i3,i4⟩:=Ĕ b t' u.2 b3;have fU:∀x,bN x b->u.2<x:=λx=>bU.low b3
   have ĕ:b.countP (λu=>F (t'<u.1)&&F (u.1<e))<=b.countP (λu=>F (t<u.1)&&F (u.1<e)):=List.countP_mono_left λv _ h=>by
    simp only[jc,jl]at h ⊢;omega
   by_cases Bw:t<u.1
   .rw[if_pos Bw]
    refine⟨λx=>?_,⟨by dsimp only;omega,Bw,i2.weak aa⟩,λs hs=>?_,by
     rw[List.countP_cons_of_pos (by simp[Bw,hu]),Y,jf];omega⟩
    .rw[Y,dD,i1 x,dD];constructor
     .rintro (h|h)
      .exact⟨aa,λh'=>by
        rcases h' with h'|h'
        .omega
        .have:=fU x h';omega⟩
      .exact⟨aa,λh'=>by
        rcases h' with h'|h'
        .omega
        .exact h.2 h'⟩
     .rintro⟨h,h'⟩
      by_cases hx:x<u.1
      .exact .inl ⟨h.1,hx⟩
      .by_cases ru:x<u.2
       .exact absurd (.inl ⟨aa,ru⟩) h'
       .exact .inr ⟨aa,λh2=>h' (.inr h2)⟩
    .rcases jb.1 hs with rfl|hs
     .dsimp only;omega
     .exact i3 s hs
   .rw[if_neg Bw,jr]
    refine⟨λx=>?_,i2.weak aa,i3,by
     rw[List.countP_cons_of_neg (by simp[Bw])];omega⟩
    rw[i1 x,dD];constructor
    .rintro h
     exact⟨aa,λh'=>by
      rcases h' with h'|h'
      .omega
      .exact h.2 h'⟩
    .rintro⟨h,h'⟩
     by_cases ru:x<u.2
     .exact absurd (.inl ⟨aa,ru⟩) h'
     .exact⟨aa,λh2=>h' (.inr h2)⟩
  .have:nt e t (u::b)=if t<e then [(t,e)] else []:=by simp only[nt,pz,if_neg hu,jr]
   rw[this]
   have db:∀x,x<e->¬bN x (u::b):=λx hx h=>by
    rcases dD.1 h with h|h
    .omega
    .have:=bU.low b3 h;omega
   by_cases h:t<e
   .rw[if_pos h]
    exact⟨λx=>⟨λhx=>by
     rcases dD.1 hx with hx|hx
     .exact⟨hx,db x hx.2⟩
     .exact absurd hx iE,λhx=>dD.2 (.inl hx.1)⟩,⟨by dsimp only;omega,h,trivial⟩,ae,ae⟩
   .rw[if_neg h];exact⟨λx=>⟨λhx=>absurd hx iE,λhx=>aa⟩,trivial,ae,ae⟩
def pA(l:SL)(u:D×D):Bool:=l.any λs=>F (s.1<u.1)&&F (u.1<s.2)
theorem Ė{p q:D×D->Bool}(h:∀u,p u=Z->q u=Z->False):∀l:SL,l.countP p+l.countP q<=l.countP (λu=>p u||q u)
 |[]=>ae
 |u::l=>by
  have ih:=Ė h l;grind
theorem ė{q:D}:∀{b:SL}(k:O),bU q b->∃q',bU q' (b.drop k)
 |_,0,h=>⟨q,h⟩
 |[],_+1,_=>⟨q,trivial⟩
 |_::_,k+1,h=>ė k h.2.2
section
variable{B:SL}(hB:B.length<=10000000)
include hB
theorem Ę{A:SL}{n m s e:D}{acc:SL}:∀(d k:O),k+d=B.length->∃k':O,k<=k'/\k'<=B.length/\(∀j (h:j<B.length),k<=j->j<k'->B[j].2<=s)/\
  Ps B (k:D) A n m s e acc=H (B,(k':D),A,n,m,s,e,acc)
 |0,k,hk=>by
  grind[_b,j58,S0]
 |d+1,k,hk=>by
  have bC:k<B.length:=aa;have gB:B.getD k ((0:D),(0:D))=B[k]:=by simp[X,bC]
  rw[_b];simp only[j58,show S (U B)=(B.length:D) from rfl];rw[ai aa,cB];simp only[j6,j8,gB];by_cases hc:B[k].2<=s
  .simp(disch:=omega)only[S0];obtain⟨k',h1,h2,h3,h4⟩:=Ę d (k+1) aa;refine⟨k',aa,h2,λj h ha hb=>?_,h4⟩;grind
  grind[bV]
theorem ę{A:SL}{k n m s e:D}:∀(d i:O)(t:D)(acc:SL),i+d=B.length->acc.length+d<=4000000000->
  Jz B k t (i:D) A n m s e acc=H (B,k,(pz e t (B.drop i)).2,A,n,m,s,e,acc++(pz e t (B.drop i)).1)
 |0,i,t,acc,hi,dM=>by
  grind[_c,j59,S0,pz]
 |d+1,i,t,acc,hi,dM=>by
  have bG:i<B.length:=aa;have gB:B.getD i ((0:D),(0:D))=B[i]:=by simp[X,bG]
  rw[_c];simp only[j59,show S (U B)=(B.length:D) from rfl];rw[ai aa,cB];simp only[j6,j8,gB];rw[G bG,aQ (x:=(i:D)+1)];by_cases hc:B[i].1<e
  .rw[ai hc];simp only[j6,pz,if_pos hc];have ih:∀bd:SL,bd.length<=acc.length+1->Jz B k (if B[i].2>t then B[i].2 else t) ((i:D)+1) A n m s e bd=_:=λbd h'=>ę d (i+1) (if B[i].2>t then B[i].2 else t) bd aa aa;by_cases ht:t<B[i].1
   .simp(disch:=omega)only[if_pos ht,S0]
    simp_all
   grind[S0]
  grind[bV,pz]
theorem Ě{A:SL}(hA:A.length<=10000000){q:D}(hb:bU q B):∀(d j k:O)(p:D)(acc:SL),j+d=A.length->k<=B.length->bU p (A.drop j)->(∀i (h:i<B.length),i<k->∀x,bN x (A.drop j)->B[i].2<=x)->acc.length+d+B.countP (pA (A.drop j))<=30000000->
  ∃out,JA B (k:D) A (A.length:D) (j:D) acc=H (acc++out)/\bU p out/\(∀x,bN x out↔bN x (A.drop j)/\¬bN x B)/\out.length<=d+B.countP (pA (A.drop j))
 |0,j,k,p,acc,hj,hk,_,_,dM=>by
  grind[_d,j5a,bV,iE]
 |d+1,j,k,p,acc,hj,hk,ha,hkx,dM=>by
  have jQ:j<A.length:=aa;have gA:A.getD j ((0:D),(0:D))=A[j]:=by simp[X,jQ]
  rw[G jQ]at ha hkx dM ⊢;obtain⟨a1,a2,a3⟩:=ha;obtain⟨k',h1,h2,h3,h4⟩:=Ę hB (A:=A) (n:=(A.length:D)) (m:=(j:D)) (s:=A[j].1) (e:=A[j].2) (acc:=acc) (B.length-k) k aa;have aZ:∃q',bU q' (B.drop k'):=ė k' hb;obtain⟨q',aZ⟩:=aZ
  have ě:∀x,A[j].1<=x->(bN x B↔bN x (B.drop k')):=by
   intro x hx;constructor
   .rintro⟨u,hu,u1,u2⟩
    obtain⟨i,hi,rfl⟩:=List.mem_iff_getElem.1 hu;by_cases ln:i<k'
    .grind[dD]
    .exact⟨B[i],List.mem_drop_iff_getElem.2 ⟨i-k',aa,by grind⟩,u1,u2⟩
   .rintro⟨u,hu,u1,u2⟩
    exact⟨u,zg hu,u1,u2⟩
  have w4:=ę hB (A:=A) (k:=(k':D)) (n:=(A.length:D)) (m:=(j:D)) (s:=A[j].1) (e:=A[j].2) (B.length-k') k' A[j].1 acc aa aa;obtain⟨s1,s2,s3,s4⟩:=Ĕ (e:=A[j].2) (B.drop k') A[j].1 q' aZ;have Au:(pz A[j].2 A[j].1 (B.drop k')).1.length<=(nt A[j].2 A[j].1 (B.drop k')).length:=by simp[nt]
  have Fb:(nt A[j].2 A[j].1 (B.drop k')).length+B.countP (pA (A.drop (j+1)))<=B.countP (pA (A[j]::A.drop (j+1)))+1:=by
   have h5:(B.drop k').countP (λu=>F (A[j].1<u.1)&&F (u.1<A[j].2))<=B.countP (λu=>F (A[j].1<u.1)&&F (u.1<A[j].2)):=(List.drop_sublist k' B).countP_le
   have h6:=Ė (p:=λu=>F (A[j].1<u.1)&&F (u.1<A[j].2)) (q:=pA (A.drop (j+1))) (λu hp hq=>by
    obtain⟨s,hs,fL⟩:=List.any_eq_true.1 hq;have:=bU.mem a3 s hs;grind) B
   have h7:B.countP (λu=>(F (A[j].1<u.1)&&F (u.1<A[j].2))||pA (A.drop (j+1)) u)=B.countP (pA (A[j]::A.drop (j+1))):=rfl;omega
  have step:∀bd:SL,bd=acc++nt A[j].2 A[j].1 (B.drop k')->∃out,JA B (k':D) A (A.length:D) ((j:D)+1) bd=H (acc++out)/\bU p out/\(∀x,bN x out↔bN x (A[j]::A.drop (j+1))/\¬bN x B)/\out.length<=d+1+B.countP (pA (A[j]::A.drop (j+1))):=by
   rintro _ rfl
   obtain⟨out,e,o1,o2,o3⟩:=Ě hA hb d (j+1) k' A[j].2 (acc++nt A[j].2 A[j].1 (B.drop k')) aa h2 a3 (λi hi ln x hx=>by
    have hlow:=bU.low a3 hx;grind[dD]) (by rw[I];omega)
   refine⟨nt A[j].2 A[j].1 (B.drop k')++out,by simp_all,?_,λx=>?_,by rw[I];omega⟩
   .have glue:∀(l:SL)(r:D),bU r l->r<A[j].2->(∀s∈l,s.2<=A[j].2)->bU r (l++out):=by
     intro l;induction l with
     |nil=>intro r _ hr _;exact o1.weak aa
     |cons s l ih=>intro r h hr hl;exact⟨h.1,h.2.1,by
      have:=hl s ae;by_cases hs:s.2<A[j].2
      .exact ih s.2 h.2.2 hs (λu hu=>hl u (by simp[hu]))
      .have he:s.2=A[j].2:=aa;match l,h.2.2 with
       |[],_=>simp_all
       |u::l',h'=>have:=hl u ae;have:=h'.1;have:=h'.2.1;omega⟩
    exact glue _ _ (s2.weak aa) aa s3
   grind[Bu,dD]
  rw[_d];simp only[j5a];rw[ai (show (j:D)<(A.length:D) by omega),cB];simp only[j6,j8,gA,h4,j4,w4];rw[aQ (x:=(j:D)+1)];have hlen:(acc++(pz A[j].2 A[j].1 (B.drop k')).1).length<=2000000000:=by rw[I];omega
  by_cases ht:(pz A[j].2 A[j].1 (B.drop k')).2<A[j].2
  .grind[aK,bg,nt]
  simp_all[aC,bg,nt]
theorem Uw{A:SL}{p q:D}(ha:bU p A)(hb:bU q B)(hA:A.length<=10000000) :
  ∃out,j3L A B=H out/\bU p out/\(∀x,bN x out↔bN x A/\¬bN x B)/\out.length<=A.length+B.length:=by
 have hc:=List.countP_le_length (p:=pA (A.drop 0)) (l:=B);obtain⟨out,e,h1,h2,h3⟩:=Ě hB hA hb A.length 0 0 p [] aa aa ha (λi h hi=>aa) (by grind);refine⟨out,?_,h1,h2,aa⟩;grind[j3L]
end
set_option linter.unusedSectionVars false
section
variable{l:SL}{p:D}(h:bU p l)(hp : -1<=p)(hl:l.length<=4096)(hb:∀u∈l,u.2<=8589934592)
include h hp hl hb
end
set_option linter.unusedSectionVars false
def rv(p:D):SL->Prop
 |[]=>True
 |x::r=>p<=x.1/\x.1<x.2/\rv x.2 r
theorem rv.weak{p q:D}(hq:q<=p):∀{l:SL},rv p l->rv q l
 |[],_=>trivial
 |_::_,h=>⟨by have:=h.1;omega,h.2⟩
section
variable{zs:R bB}{ps:R cZ}{cs:R aY}(hs:kS zs ps cs)
include hs
end
def jJ(es:R ct)(p t:D):Bool:=es.any λx=>x.1==0&&(x.2.1==p&&(F (x.2.2.2.1<=t)&&F (t<x.2.2.2.2)))
def dX(good:O->Bool):O->J O
 |0=>Â
 |n+1=>cond (good n) (H n) (dX good n)
def gM(es:R ct)(t:D)(Pf:O->D)(i:O):Bool:=F (0<=Pf i) && !jJ es (Pf i) t
section
variable{zs:R bB}{ps:R cZ}{cs:R aY}{ss:R bW}
def fD(es:R ct)(t:D)(Pf:O->D)(n:O):Int:=match dX (gM es t Pf) n with
 |some i=>Pf i
 |none=> -1
end
instance(L:bt):Decidable (Rt L):=
 decidable_of_iff (1<=L.2.2.1.1/\L.2.2.1.1<=100000/\0<=L.2.2.1.2/\L.2.2.1.2<=86399/\0<=L.2.2.2.1/\L.2.2.2.1<=2/\1<=L.2.2.2.2.1/\L.2.2.2.2.1<=400/\L.2.2.2.2.2.1≠[])
  ⟨λ⟨a,b,c,d,e,f,g,h,i⟩=>⟨a,b,c,d,e,f,g,h,i⟩,λ⟨a,b,c,d,e,f,g,h,i⟩=>⟨a,b,c,d,e,f,g,h,i⟩⟩
section
variable{z:bB}{l:bm}(h4:Z4 z l)
include h4
theorem Ux(L:bt):jbb z L=H (if Rt L then 0 else 8):=by
 have hc:j8M (z.1,(z.2.1,z.2.2))=H 0:=by simp only[j8M,show j0a (z.1,(z.2.1,z.2.2))=_ from h4.1,j4]
 simp only[jbb,hc,j4,je,j7]
 have key:(cond (cond (cond (cond (cond (cond (cond (cond (F (L.2.2.1.1<1)) Z (F (L.2.2.1.1>100000))) Z (F (L.2.2.1.2<0))) Z (F (L.2.2.1.2>=86400))) Z (F (L.2.2.2.1<0))) Z (F (L.2.2.2.1>2))) Z (F (L.2.2.2.2.1<1))) Z (F (L.2.2.2.2.1>400))) Z (S L.2.2.2.2.2.1.length==0)) = !F (Rt L):=by
  have hlen:(S L.2.2.2.2.2.1.length==0)=F (L.2.2.2.2.2.1=[]):=by
   cases L.2.2.2.2.2.1 with
   |nil=>rfl
   |cons x r=>simp;omega
  rw[hlen];rw[vz];simp only[q9,ka];constructor
  .intro hh h;have a1:=h.d0;have a2:=h.d1;have a3:=h.c0;have a4:=h.c1;have a5:=h.u0;have a6:=h.u1;have a7:=h.e0;have a8:=h.e1;rw[aC (show¬L.2.2.1.1<1 by omega),aC (show¬L.2.2.1.1>100000 by omega),aC (show¬L.2.2.1.2<0 by omega),aC (show¬L.2.2.1.2>=86400 by omega),aC (show¬L.2.2.2.1<0 by omega),aC (show¬L.2.2.2.1>2 by omega),aC (show¬L.2.2.2.2.1<1 by omega),aC (show¬L.2.2.2.2.1>400 by omega),aC h.m0]at hh;simp at hh
  .intro hn;by_cases a1:L.2.2.1.1<1
   .rw[ai a1];rfl
   rw[aC a1];by_cases a2:L.2.2.1.1>100000
   .rw[ai a2];rfl
   rw[aC a2];by_cases a3:L.2.2.1.2<0
   .rw[ai a3];rfl
   rw[aC a3];by_cases a4:L.2.2.1.2>=86400
   .rw[ai a4];rfl
   rw[aC a4];by_cases a5:L.2.2.2.1<0
   .rw[ai a5];rfl
   rw[aC a5];by_cases a6:L.2.2.2.1>2
   .rw[ai a6];rfl
   rw[aC a6];by_cases a7:L.2.2.2.2.1<1
   .rw[ai a7];rfl
   rw[aC a7];by_cases a8:L.2.2.2.2.1>400
   .rw[ai a8];rfl
   rw[aC a8];by_cases a9:L.2.2.2.2.2.1=[]
   .rw[ai a9];rfl
   exact absurd ⟨aa,aa,aa,aa,aa,aa,aa,aa,a9⟩ hn
 rw[key];by_cases h:Rt L
 .rw[ai h,if_pos h];rfl
 .rw[aC h,if_neg h];rfl
end
theorem Ĝ{z:bB}{l:bm}(hz:Z4 z l){L:bt}(h:Rt L){t N:D}(hN:N<=8589934592):∀n:O,(n:D)<=N->
  ∃K:D,Dd t ((n:D)-1) z.1 z.2.1 z.2.2 L.1 L.2.1 L.2.2.1.1 L.2.2.1.2 L.2.2.2.1 L.2.2.2.2.1 L.2.2.2.2.2.1 L.2.2.2.2.2.2.1 L.2.2.2.2.2.2.2.1 L.2.2.2.2.2.2.2.2=H K/\
   (K = -1\/0<=K/\QO z.2.1 l L t K)/\K<n/\∀j:D,K<j->0<=j->j<n->¬QO z.2.1 l L t j
 |0,_=>by
  rw[_8];simp(disch:=omega)only[j6Z,S0];exact⟨_,rfl,.inl aa,aa,λj h1 h2 h3=>aa⟩
 |n+1,hn=>by
  obtain⟨K,e,k0,k1,k2⟩:=Ĝ hz h (t:=t) hN n aa;obtain⟨v,hH,hv⟩:=Bs hz h (k:=(n:D)) aa aa;rw[_8,show ((n+1:O):D)-1=(n:D) by omega];simp(disch:=omega)only[j6Z,show j6l (z.1,(z.2.1,z.2.2)) (L.1,L.2.1,(L.2.2.1.1,L.2.2.1.2),L.2.2.2.1,L.2.2.2.2.1,L.2.2.2.2.2.1,L.2.2.2.2.2.2.1,L.2.2.2.2.2.2.2.1,L.2.2.2.2.2.2.2.2) (n:D)=_ from hH,S0]
  have down:¬QO z.2.1 l L t (n:D)->(lpK (H (Sum.inl (t,(n:D)-1,z.1,z.2.1,z.2.2,L.1,L.2.1,L.2.2.1.1,L.2.2.1.2,L.2.2.2.1,L.2.2.2.2.1,L.2.2.2.2.2.1,L.2.2.2.2.2.2.1,L.2.2.2.2.2.2.2.1,L.2.2.2.2.2.2.2.2)):J ((D×D×ByteArray×D×R aO×ByteArray×D×D×D×D×D×R D×WL×D×D) ⊕ D)) (λh=>Dd h.1 h.2.1 h.2.2.1 h.2.2.2.1 h.2.2.2.2.1 h.2.2.2.2.2.1 h.2.2.2.2.2.2.1 h.2.2.2.2.2.2.2.1 h.2.2.2.2.2.2.2.2.1 h.2.2.2.2.2.2.2.2.2.1 h.2.2.2.2.2.2.2.2.2.2.1 h.2.2.2.2.2.2.2.2.2.2.2.1 h.2.2.2.2.2.2.2.2.2.2.2.2.1 h.2.2.2.2.2.2.2.2.2.2.2.2.2.1 h.2.2.2.2.2.2.2.2.2.2.2.2.2.2))=H K/\∀j:D,K<j->0<=j->j<((n+1:O):D)->¬QO z.2.1 l L t j:=by
   intro hq;refine⟨by rw[bg];exact e,λj h1 h2 h3=>?_⟩;by_cases xG:j<n
   .exact k2 j h1 h2 xG
   .rw[show j=(n:D) by omega];exact hq
  cases hx:hO z.2.1 l L (n:D) with
  |none=>
   simp only[qf,j7];obtain⟨d1,d2⟩:=down λ⟨y,hy,_⟩=>by rw[hx]at hy;simp at hy
   exact⟨K,d1,k0,aa,d2⟩
  |some x=>
   have:=hv x hx;subst this;simp only[qg,j6];by_cases hc:v<=t
   .rw[ai hc,j6,bV];exact⟨_,rfl,.inr ⟨aa,v,hx,hc⟩,aa,λj h1 h2 h3=>aa⟩
   .rw[aC hc,j7];obtain⟨d1,d2⟩:=down λ⟨y,hy,CO⟩=>by rw[hx]at hy;simp at hy;omega
    exact⟨K,d1,k0,aa,d2⟩
theorem ĝ{z:bB}{l:bm}(hz:Z4 z l){L:bt}(h:Rt L){t:D}(Lc:0<=t)(tp:t<=8589934592):∃K:D,jeR z L t=H K/\lK z.2.1 l L t K:=by
 have hs:=h.step;have Lb:=h.d0;have rO:=h.d1;have uN:=h.e0;have Ae:=h.e1;have ij:=h.c0;have eP:=h.c1;simp only[jeR];by_cases h0:L.2.2.2.1=0
 .have hF:=La hz (d:=L.2.2.1.1) (c:=L.2.2.1.2) aa ij eP;have jG:L.2.2.1.1*86400+L.2.2.1.2=dv L 0:=by unfold dv;omega
  rw[dR h0,j6,show j4A (z.1,(z.2.1,z.2.2)) (L.2.2.1.1,L.2.2.1.2)=_ from hF,jG];simp only[j4]
  have nq:(∀v,fO z.2.1 l (dv L 0)=H v->t<v)->¬QO z.2.1 l L t 0:=by
   rintro hn ⟨y,hy,CO⟩
   have:=hn y (ą h0 hy);omega
  cases hf:fO z.2.1 l (dv L 0) with
  |none=>exact⟨-1,rfl,.inl ⟨rfl,nq λv hv=>by rw[hf]at hv;simp at hv⟩⟩
  |some v=>
   have Uj:=Br hz.2 hf;simp only[ke,j6];by_cases hc:v<=t
   .obtain⟨s1,s2,s3⟩:=Ą (o:=z.2.1) (l:=l) h h0 tp hf hc Uj.2.1;simp(disch:=omega)only[qs,S0];exact⟨_,rfl,s1⟩
   .rw[aC hc];exact⟨-1,rfl,.inl ⟨rfl,nq λv' hv=>by rw[hf]at hv;simp at hv;omega⟩⟩
 .obtain⟨j,hj,j1,j2⟩:=uT hz.2 Lc tp;have o0:=hz.2.of0 j hj;have o1:=hz.2.of1 j hj;have eT:=ϯ hz (t:=t) Lc tp hj j1 j2;rw[cU h0,j7,show j4Y (z.1,(z.2.1,z.2.2)) t=_ from eT];simp only[j4];have G0:∀k:D,QO z.2.1 l L t k->L.2.2.1.1+k*dF L<=(t+bq z.2.1 l j)/86400+2:=λk hq=>QO.day hz.2 h h0 hq hj;generalize Ik:(t+bq z.2.1 l j)/86400=ld at G0;rw[aQ (x:=ld+2),aQ (x:=ld+2-L.2.2.1.1)]
  have fin:∀st:D,st=dF L->∃K:D,((Dd t (w64 (Int.tdiv (if (0:D)>ld+2-L.2.2.1.1 then (0:D) else ld+2-L.2.2.1.1) st)) z.1 z.2.1 z.2.2 L.1 L.2.1 L.2.2.1.1 L.2.2.1.2 L.2.2.2.1 L.2.2.2.2.1 L.2.2.2.2.2.1 L.2.2.2.2.2.2.1 L.2.2.2.2.2.2.2.1 L.2.2.2.2.2.2.2.2).bind λq0=>H q0)=H K/\lK z.2.1 l L t K:=by
   rintro st rfl
   obtain⟨m,hm,sf,gg⟩:∃m:D,(if (0:D)>ld+2-L.2.2.1.1 then (0:D) else ld+2-L.2.2.1.1)=m/\0<=m/\m<=1000000:=⟨_,rfl,by split<;>omega,by split<;>omega⟩;have Cs:ld+2-L.2.2.1.1<=m:=by rw[<-hm];split<;>omega
   rw[hm,qs sf];have q0:0<=m/dF L:=y8 sf aa;have q1:m/dF L<=m:=vg _ sf;have q2:m<dF L*(m/dF L)+dF L:=Int.lt_mul_ediv_self_add aa;rw[aQ];generalize m/dF L=km at *;obtain⟨K,e,k0,k1,k2⟩:=Ĝ hz h (t:=t) (jx _) (km+1).toNat aa;rw[show (((km+1).toNat:O):D)-1=km by omega]at e;rw[e];refine⟨K,rfl,?_⟩
   have top:¬QO z.2.1 l L t (K+1):=by
    by_cases hK:K+1<=km
    .exact k2 (K+1) aa (by rcases k0 with k0|k0<;>omega) aa
    .intro hq;have hd:=G0 _ hq;have cG:K=km:=aa;rw[cG,Int.add_mul,Int.one_mul]at hd;have:dF L*km=km*dF L:=Á _ _;omega
   rcases k0 with k0|k0
   .subst k0;exact .inl ⟨rfl,top⟩
   .exact .inr ⟨k0.1,k0.2,top⟩
  by_cases h2:L.2.2.2.1=2
  .have Bt:dF L=7*L.2.2.2.2.1:=by unfold dF;rw[if_pos h2]
   simp(disch:=omega)only[S0];exact fin _ (by rw[Bt,Á])
  .have Bt:dF L=L.2.2.2.2.1:=by unfold dF;rw[if_neg h2]
   simp(disch:=omega)only[S0];exact fin _ Bt.symm
abbrev mh:=D×(D×D)
abbrev bM:=R mh
def Ch(f:D->D)(b:D):D->bM->Prop
 |a,[]=>a=b
 |a,s::r=>s.1=a/\a<=s.2.1/\(∀t,a<=t->t<s.2.1->f t=s.2.2)/\Ch f b s.2.1 r
def dG(f:D->D)(b:D):J D->D->bM->Prop
 |_,a,[]=>a=b
 |q,a,s::r=>s.1=a/\a<s.2.1/\q≠H s.2.2/\(∀t,a<=t->t<s.2.1->f t=s.2.2)/\dG f b (H s.2.2) s.2.1 r
theorem Ch.le{f:D->D}{b:D}:∀{l:bM}{a:D},Ch f b a l->a<=b
 |[],_,h=>Int.le_of_eq h
 |_::_,_,h=>qq h.2.1 h.2.2.2.le
theorem Ch.app{f:D->D}{b c:D}:∀{l r:bM}{a:D},Ch f b a l->Ch f c b r->Ch f c a (l++r)
 |[],_,_,h,h'=>by have h:_=_:=h;subst h;exact h'
 |_::_,_,_,h,h'=>⟨h.1,h.2.1,h.2.2.1,h.2.2.2.app h'⟩
theorem Ch.snoc{f:D->D}{b c p:D}{l:bM}{a:D}(h:Ch f b a l)(yK:b<=c)(hp:∀t,b<=t->t<c->f t=p):Ch f c a (l++[(b,(c,p))]):=
 h.app ⟨rfl,yK,hp,rfl⟩
theorem dG.ch{f:D->D}{b:D}:∀{l:bM}{q:J D}{a:D},dG f b q a l->Ch f b a l
 |[],_,_,h=>h
 |_::_,_,_,h=>⟨h.1,Int.le_of_lt h.2.1,h.2.2.2.1,h.2.2.2.2.ch⟩
theorem dG.uniq{f:D->D}{b:D}:∀{l l':bM}{q:J D}{a:D},dG f b q a l->dG f b q a l'->l=l'
 |[],[],_,_,_,_=>rfl
 |[],_::_,_,_,h,h'=>by have:=h'.2.1;have:=h'.2.2.2.2.ch.le;have h:_=_:=h;omega
 |_::_,[],_,_,h,h'=>by have:=h.2.1;have:=h.2.2.2.2.ch.le;have h':_=_:=h';omega
 |s::r,s'::r',q,a,h,h'=>by
  obtain⟨h1,h2,h3,h4,h5⟩:=h;obtain⟨g1,g2,g3,g4,g5⟩:=h';have hp:s.2.2=s'.2.2:=by grind
  have ht:s.2.1=s'.2.1:=by
   apply jt;intro bD;by_cases ao:s.2.1<s'.2.1
   .match r,h5 with
    |[],h5=>have:=g5.ch.le;have h5:_=_:=h5;omega
    |u::v,h5=>have e1:=h5.2.2.2.1 s.2.1 aa h5.2.1;have e2:=g4 s.2.1 aa ao;exact h5.2.2.1 (by rw[<-e1,e2,hp])
   .match r',g5 with
    |[],g5=>have:=h5.ch.le;have g5:_=_:=g5;omega
    |u::v,g5=>have e1:=g5.2.2.2.1 s'.2.1 aa g5.2.1;have e2:=h4 s'.2.1 aa aa;exact g5.2.2.1 (by rw[<-e1,e2,hp])
  have hs:s=s':=Prod.ext (by rw[h1,g1]) (Prod.ext ht hp);subst hs;rw[h5.uniq g5]
def lstP:J D->bM->J D
 |q,[]=>q
 |_,s::r=>lstP (H s.2.2) r
theorem Ğ:∀(l:bM)(q:J D)(s:mh),lstP q (l++[s])=H s.2.2
 |[],_,_=>rfl
 |_::r,_,s=>Ğ r _ s
theorem dG.snoc{f:D->D}{b c p:D}:∀{l:bM}{q:J D}{a:D},dG f b q a l->b<c->lstP q l≠H p->(∀t,b<=t->t<c->f t=p)->dG f c q a (l++[(b,(c,p))])
 |[],_,_,h,yK,hl,hp=>by have h:_=_:=h;subst h;exact⟨rfl,yK,hl,hp,rfl⟩
 |_::_,_,_,h,yK,hl,hp=>⟨h.1,h.2.1,h.2.2.1,h.2.2.2.1,h.2.2.2.2.snoc yK hl hp⟩
theorem dG.ext{f:D->D}{b c x p:D}:∀{l:bM}{q:J D}{a:D},dG f b q a (l++[(x,(b,p))])->b<=c->(∀t,b<=t->t<c->f t=p)->dG f c q a (l++[(x,(c,p))])
 |[],_,_,h,yK,hp=>⟨h.1,by have:=h.2.1;grind,h.2.2.1,λt h1 h2=>by
  by_cases ht:t<b
  .exact h.2.2.2.1 t h1 ht
  simp_all,rfl⟩
 |_::_,_,_,h,yK,hp=>⟨h.1,h.2.1,h.2.2.1,h.2.2.2.1,h.2.2.2.2.ext yK hp⟩
def lL(out:bM)(s:mh):bM:=
 if s.2.1<=s.1 then out else match out.getLast? with
  |some x=>if x.2.1=s.1/\x.2.2=s.2.2 then out.dropLast++[(x.1,(s.2.1,x.2.2))] else out++[s]
  |none=>out++[s]
theorem ğ{f:D->D}{a b:D}{out:bM}(h:dG f b Â a out){s:mh}(h1:s.1=b)(h2:b<=s.2.1)(h3:∀t,b<=t->t<s.2.1->f t=s.2.2):dG f s.2.1 Â a (lL out s):=by
 obtain⟨x,y,p⟩:=s;dsimp only at h1 h2 h3 ⊢;subst h1;unfold lL;dsimp only;by_cases iw:y<=x
 .grind
 .rw[if_neg iw];rcases ze out with rfl|⟨l,u,rfl⟩
  .exact h.snoc aa (by simp[lstP]) h3
  .rw[zf]at h ⊢;rw[List.getLast?_append];simp only[vp,Option.some_or];by_cases hu:u.2.1=x/\u.2.2=p
   .rw[if_pos hu,List.dropLast_concat];obtain⟨u1,u2,u3⟩:=u;dsimp only at hu ⊢;obtain⟨rfl,rfl⟩:=hu;exact h.ext h2 h3
   .rw[if_neg hu];refine h.snoc aa ?_ h3;rw[Ğ];intro e;have hp:u.2.2=p:=by simpa using e
    refine hu ⟨?_,hp⟩
    have:∀(l:bM)(q:J D)(a:D),dG f x q a (l++[u])->u.2.1=x:=by
     intro l;induction l with
     |nil=>intro q a h;exact h.2.2.2.2
     |cons v r ih=>intro q a h;exact ih _ _ h.2.2.2.2
    exact this l _ _ h
theorem Ġ{f:D->D}{b:D}:∀(l:bM){a c:D}{out:bM},dG f c Â a out->Ch f b c l->dG f b Â a (l.foldl lL out)
 |[],_,_,_,h,h'=>by have h':_=_:=h';subst h';exact h
 |s::r,_,_,_,h,h'=>Ġ r (ğ h h'.1 h'.2.1 h'.2.2.1) h'.2.2.2
theorem Ch.cov{f:D->D}{a b:D}{l:bM}(h:Ch f b a l):dG f b Â a (l.foldl lL []):=Ġ l (show dG f a Â a [] from rfl) h
theorem ġ{f:D->D}:∀{l:bM}{a b:D},a<=b->l.Pairwise (λs u=>s.2.1<=u.1)->(∀s∈l,s.1<s.2.1/\∀t,s.1<=t->t<s.2.1->f t=s.2.2)->
  (∀x,(a<=x/\x<b)↔∃s∈l,s.1<=x/\x<s.2.1)->Ch f b a l
 |[],a,b,bH,_,_,hc=>by
  apply jt;intro bD;have bD:a≠b:=bD;obtain⟨s,hs,_⟩:=(hc a).1 ⟨jx _,aa⟩;simp at hs
 |s::r,a,b,bH,hp,hf,hc=>by
  obtain⟨s1,s2⟩:=hf s ae;obtain⟨p1,p2⟩:=List.pairwise_cons.1 hp;have h1:=(hc s.1).2 ⟨s,ae,jx _,s1⟩;have h2:=(hc (s.2.1-1)).2 ⟨s,ae,aa,aa⟩
  have he:s.1=a:=by
   obtain⟨u,hu,u1,u2⟩:=(hc a).1 ⟨jx _,aa⟩;rcases jb.1 hu with rfl|hu
   .omega
   .have:=p1 u hu;omega
  refine⟨he,aa,λt t1 t2=>s2 t aa t2,ġ aa p2 (λu hu=>hf u (by simp[hu])) (λx=>⟨λhx=>?_,λ⟨u,hu,u1,u2⟩=>?_⟩)⟩
  .obtain⟨u,hu,u1,u2⟩:=(hc x).1 ⟨aa,hx.2⟩;rcases jb.1 hu with rfl|hu
   .omega
   .exact⟨u,hu,u1,u2⟩
  .have:=p1 u hu;have:=(hc x).2 ⟨u,by simp[hu],u1,u2⟩;omega
theorem Ch.mem{f:D->D}{b:D}:∀{l:bM}{a:D},Ch f b a l->∀s∈l,a<=s.1/\s.1<=s.2.1/\s.2.1<=b/\∀t,s.1<=t->t<s.2.1->f t=s.2.2
 |[],_,_,s,hs=>by simp at hs
 |u::r,a,h,s,hs=>by
  obtain⟨h1,h2,h3,h4⟩:=h;rcases jb.1 hs with rfl|hs
  .exact⟨aa,aa,h4.le,λt t1 t2=>h3 t aa t2⟩
  .have:=h4.mem s hs;grind
theorem Ch.has{f:D->D}{b:D}:∀{l:bM}{a:D},Ch f b a l->∀x,a<=x->x<b->∃s∈l,s.1<=x/\x<s.2.1
 |[],_,h,x,h1,h2=>by have h:_=_:=h;omega
 |u::r,a,h,x,h1,h2=>by
  obtain⟨g1,g2,g3,g4⟩:=h;by_cases hx:x<u.2.1
  .simp_all
  .obtain⟨s,hs,e⟩:=g4.has x aa h2;grind
theorem Ch.congr{f g:D->D}{b:D}:∀{l:bM}{a:D},Ch f b a l->(∀t,a<=t->t<b->f t=g t)->Ch g b a l
 |[],_,h,_=>h
 |u::r,a,h,hg=>by
  obtain⟨g1,g2,g3,g4⟩:=h;have:=g4.le;exact⟨g1,g2,λt t1 t2=>by grind,g4.congr (λt t1 t2=>hg t aa t2)⟩
theorem dG.pos{f:D->D}{b:D}:∀{l:bM}{q:J D}{a:D},dG f b q a l->∀s∈l,s.1<s.2.1
 |[],_,_,_,s,hs=>by simp at hs
 |u::r,_,a,h,s,hs=>by
  rcases jb.1 hs with rfl|hs
  .have:=h.1;have:=h.2.1;omega
  .exact h.2.2.2.2.pos s hs
theorem dG.ne{f:D->D}{b:D}{l:bM}{q:J D}{a:D}(h:dG f b q a l)(bH:a<b):l≠[]:=by
 rintro rfl
 have h:_=_:=h;omega
end Go.Proofs.Pw
