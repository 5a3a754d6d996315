/- Joining loads. -/
import Derived.Test.YtlnljpfkgigljaaGreatPOPH
import Derived.Test.YtlnljpfkgigljaaGreatPOPD
import Derived.Test.YtlnljpfkgigljaaGreatPOPC
open _root_ renaming Int->D,Nat->J,List->Y,ByteArray->Ù
open Decidable renaming decide->E
open List renaming drop_eq_getElem_cons->F,getElem_mem->I,drop_of_length_le->U,take_succ_eq_append_getElem->X,getD->À,filterMap_cons->Á,drop_zero->Â,filterMap_nil->Ä,map_cons->Ç,pairwise_singleton->É,length_map->Ê,take_of_length_le->Ë,filterMap_append->Ì,length_singleton->Í,range->Î,mem_singleton->Ð,append_assoc->Ñ,cons_append->Ò,range_succ->Ó,length->Ý
open Option renaming some->H,none->Þ
open Int renaming add_zero->O,ofNat->R,mul_le_mul_of_nonneg_right->Z,le_refl->Å,mul_nonneg->Õ
open Nat renaming mul_le_mul->Ã,le_trans->Û,mul_succ->Ü
open List.Pairwise renaming nil->Æ
open Bool renaming and_eq_true->È,false_or->Ï,eq_iff_iff->Ô,true->Ö
open Go Go.Lft
namespace Go.Proofs.Pw
def jjD(np:J)(u v:D->D):Y LdT:=(Î np).filterMap λ(p:J)=>if 0<u p then H ((p:D),u p,v p) else Þ
def jk2(np:J)(u:D->D):Y Int:=(Î np).filterMap λ(p:J)=>if 0<u p then H (p:D) else Þ
theorem jgH{np:J}{u:D->D}{k:D}:k∈jk2 np u↔0<=k/\k<(np:D)/\0<u k:=by
 unfold jk2;rw[List.mem_filterMap];constructor
 .rintro⟨p,hp,h⟩
  have:=List.mem_range.1 hp;split at h
  .rename_i hu;simp only[j5]at h;subst h;exact⟨omg_,omg_,hu⟩
  .simp at h
 .rintro⟨h0,h1,hu⟩
  refine⟨k.toNat,List.mem_range.2 omg_,?_⟩;rw[show ((k.toNat:J):D)=k by omega,if_pos hu]
theorem jme(u:D->D):∀np,(jk2 np u).Pairwise (· < ·)
 |0=>Æ
 |n+1=>by
  unfold jk2;rw[Ó,Ì];refine List.pairwise_append.2 ⟨jme u n,?_,λx hx y hy=>?_⟩
  .simp only[Á,Ä];split
   .exact Æ
   .exact É _ _
  .have h1:=(jgH (np:=n) (u:=u)).1 hx;simp only[Á,Ä]at hy;split at hy
   .simp at hy
   .rename_i z hz;simp only[Ð]at hy;subst hy;split at hz
    .simp only[j5]at hz;subst hz;exact h1.2.1
    .simp at hz
theorem jmf(np:J)(u v:D->D):jjD np u v=(jk2 np u).map λk=>(k,u k,v k):=by
 unfold jjD jk2;rw[List.map_filterMap];congr 1;funext p;split<;>rfl
theorem jt5(x:D):∀l:Y D,l.Pairwise (· <= ·)->(insI x l).Pairwise (· <= ·)
 |[],_=>É _ _
 |y::ys,h=>by
  have hc:=List.pairwise_cons.1 h;unfold insI;cases hd:E (x<=y) with
  |true=>
   have hd:=of_decide_eq_true hd;refine List.pairwise_cons.2 ⟨λz hz=>?_,h⟩;rcases List.mem_cons.1 hz with rfl|hz
   .exact hd
   .have:=hc.1 z hz;omega
  |false=>
   have hd:=of_decide_eq_false hd;refine List.pairwise_cons.2 ⟨λz hz=>?_,jt5 x ys hc.2⟩;rcases List.mem_cons.1 ((insI_perm x ys).mem_iff.1 hz) with rfl|hz
   .omega
   .exact hc.1 z hz
theorem jno:∀l:Y D,(jc6 l).Pairwise (· <= ·)
 |[]=>Æ
 |x::xs=>jt5 x _ (jno xs)
theorem jmg{ks L:Y D}(hn:ks.Nodup)(hL:L.Pairwise (· < ·))(hm:∀k,k∈ks↔k∈L):jc6 ks=L:=by
 have hp:(jc6 ks).Perm L:=(isortI_perm ks).trans ((List.perm_ext_iff_of_nodup hn (hL.imp (λh=>omg_))).2 hm);exact List.Perm.eq_of_pairwise (le:=(· <= ·)) (λa b _ _ h1 h2=>Int.le_antisymm h1 h2) (jno ks) (hL.imp (λh=>omg_)) hp
structure MpC(m:MpL)(np n:J)(u v:D->D):Prop where
 ok:MpOk m np n
 nd:(m.map λx=>x.1).Nodup
 has:∀p,0<=p->p<(np:D)->(j1W m p=Ö↔0<u p)
 get:∀p,0<=p->p<(np:D)->j1W m p=Ö->j1r ld0 m p=(p,u p,v p)
theorem jrM{β:Type}{m:Y (D×β)}{k:D}{v:β}(h:(m.map λx=>x.1).Nodup):((j28 m k v).map λx=>x.1).Nodup/\∀q,q∈(j28 m k v).map (λx=>x.1)->q=k\/q∈m.map (λx=>x.1):=by
 induction m with
 |nil=>simp[j28]
 |cons y r ih=>
  simp only[j28];have hc:=List.nodup_cons.1 (show (y.1::r.map λx=>x.1).Nodup from h);by_cases hk:k=y.1
  .rw[j3m hk,j6];refine⟨?_,λq hq=>?_⟩
   .show (k::r.map λx=>x.1).Nodup;rw[hk];exact h
   .rw[Ç,hk]at hq;exact .inr (by rw[Ç];exact hq)
  .rw[j1p hk,j7];obtain⟨i1,i2⟩:=ih hc.2;refine⟨?_,λq hq=>?_⟩
   .show (y.1::(j28 r k v).map λx=>x.1).Nodup;refine List.nodup_cons.2 ⟨λhy=>?_,i1⟩;rcases i2 _ hy with h|h
    .exact hk h.symm
    .exact hc.1 h
   .rcases List.mem_cons.1 (show q∈y.1::(j28 r k v).map (λx=>x.1) from hq) with rfl|hq
    .exact .inr smp_
    .exact(i2 q hq).imp id (λh=>by
      rw[Ç];exact List.mem_cons_of_mem _ h)
theorem jqh{m:MpL}{np n:J}{u v:D->D}(h:MpC m np n u v)(hn:n<=100000)(hnp:np<=1000):jcn m=H (jjD np u v,m):=by
 rw[jxD h.ok hn hnp]
 have hk:jep m=jk2 np u:=by
  unfold jep;refine jmg h.nd (jme u np) λk=>?_;rw[<-jnn,jgH];constructor
  .intro hh;obtain⟨x,hx,rfl⟩:=List.mem_map.1 (jnn.1 hh);have:=h.ok.key x hx;exact⟨this.1,this.2.1,(h.has _ this.1 this.2.1).1 hh⟩
  .rintro⟨h0,h1,hu⟩
   exact(h.has k h0 h1).2 hu
 rw[hk,jmf];congr 2;refine List.map_congr_left λk hk=>?_;obtain⟨h0,h1,hu⟩:=jgH.1 hk;exact h.get k h0 h1 ((h.has k h0 h1).2 hu)
def usum(p:D):Y LdT->D
 |[]=>0
 |x::r=>(if x.1=p then x.2.1 else 0)+usum p r
def vsum(p:D):Y LdT->D
 |[]=>0
 |x::r=>(if x.1=p then x.2.2 else 0)+vsum p r
theorem jf3(p:D):∀(a b:Y LdT),usum p (a++b)=usum p a+usum p b
 |[],b=>by simp[usum]
 |x::a,b=>by simp only[Ò,usum,jf3 p a b];omega
theorem jf4(p:D):∀(a b:Y LdT),vsum p (a++b)=vsum p a+vsum p b
 |[],b=>by simp[vsum]
 |x::a,b=>by simp only[Ò,vsum,jf4 p a b];omega
structure UV(np:J)(u v:D->D):Prop where
 u0:∀p,0<=u p
 u1:∀p,u p<=4294967296
 v0:∀p,u p<=v p
 v1:∀p,v p<=8*u p
theorem jxE(np:J)(u v:D->D):(jjD np u v).length<=np:=by
 have:=List.length_filterMap_le (λ(p:J)=>if 0<u p then H ((p:D),u p,v p) else Þ) (Î np);simpa[jjD]using this
theorem jzD(np:J)(u v:D->D):(jjD np u v).Pairwise λx y=>x.1<y.1:=by
 rw[jmf,List.pairwise_map];exact jme u np
theorem jnp{u v:D->D}(p:D):∀np,usum p (jjD np u v)=(if 0<=p/\p<(np:D)/\0<u p then u p else 0)/\vsum p (jjD np u v)=(if 0<=p/\p<(np:D)/\0<u p then v p else 0)
 |0=>by
  rw[if_neg omg_,if_neg omg_];exact⟨rfl,rfl⟩
 |n+1=>by
  obtain⟨i1,i2⟩:=jnp (u:=u) (v:=v) p n
  have e:jjD (n+1) u v=jjD n u v++(if 0<u n then [((n:D),u n,v n)] else []):=by
   unfold jjD;rw[Ó,Ì];congr 1;simp only[Á,Ä];split
   .rename_i hq;split at hq
    .simp at hq
    .rename_i h;rw[if_neg h]
   .rename_i z hq;split at hq
    .rename_i h;simp only[j5]at hq;subst hq;rw[if_pos h]
    .simp at hq
  rw[e,jf3,jf4,i1,i2];by_cases hp:p=(n:D)
  .subst hp;rw[if_neg (show¬(0<=(n:D)/\(n:D)<(n:D)/\0<u n) fromλh=>omg_),if_neg (show¬(0<=(n:D)/\(n:D)<(n:D)/\0<u n) fromλh=>omg_)];by_cases hu:0<u (n:D)
   .rw[if_pos hu,if_pos ⟨omg_,omg_,hu⟩,if_pos ⟨omg_,omg_,hu⟩];simp[usum,vsum]
   .rw[if_neg hu,if_neg omg_,if_neg omg_];simp[usum,vsum]
  .have e2:usum p (if 0<u (n:D) then [((n:D),u n,v n)] else [])=0/\vsum p (if 0<u (n:D) then [((n:D),u n,v n)] else [])=0:=by
    split
    .simp only[usum,vsum,if_neg (λh:(n:D)=p=>hp h.symm)];exact⟨rfl,rfl⟩
    .exact⟨rfl,rfl⟩
   rw[e2.1,e2.2,O,O];constructor
   .by_cases hq:0<=p/\p<(n:D)/\0<u p
    .rw[if_pos hq,if_pos ⟨hq.1,omg_,hq.2.2⟩]
    .rw[if_neg hq,if_neg (λh=>hq ⟨h.1,omg_,h.2.2⟩)]
   .by_cases hq:0<=p/\p<(n:D)/\0<u p
    .rw[if_pos hq,if_pos ⟨hq.1,omg_,hq.2.2⟩]
    .rw[if_neg hq,if_neg (λh=>hq ⟨h.1,omg_,h.2.2⟩)]
def jb6(o:D)(l:TrL)(w:WL)(x:D):Bool:=(Î (l.length+1)).any λk=>E (frm l k<=x)&&(E (x<frm l (k+1))&&hasB ((x+tof o l k+259200)%604800) w)
theorem joF{o:D}{l:TrL}(h:TOk o l){w:WL}{x:D}{k:J}(hk:k<=l.length)(h0:frm l k<=x)(h1:x<frm l (k+1)):jb6 o l w x=hasB ((x+tof o l k+259200)%604800) w:=by
 rw[Ô];unfold jb6;rw[List.any_eq_true];constructor
 .rintro⟨j,hj,hp⟩
  simp only[È,decide_eq_true_eq]at hp;have:=List.mem_range.1 hj;have:j=k:=jem h omg_ hk hp.1 hp.2.1 h0 h1;subst this;exact hp.2.2
 .intro hp;exact⟨k,List.mem_range.2 omg_,by simp only[È,decide_eq_true_eq];exact⟨h0,h1,hp⟩⟩
theorem jEm{l:SL}{p:D}(h:InO p l)(hp:0<=p)(hl:l.length<=1000000)(hb:∀u∈l,u.2<=8589934592):∀(n i:J)(s:D),i+n=l.length->0<=s->s+sumL (l.drop i)<=1000000000000->(∀u∈l,0<=u.1/\u.1<u.2)->
  jaA s l (l.length:D) (i:D)=H (s+sumL (l.drop i))
 |0,i,s,hi,_,_,_=>by
  rw[je6];simp only[j4K];rw[j01 omg_,j7,j06,U omg_];simp[sumL]
 |n+1,i,s,hi,hs,hs2,hu=>by
  have hlt:i<l.length:=omg_;have hgd:l.getD i (0,0)=l[i]:=by simp[hlt]
  have hui:=hu _ (I hlt);have hbi:=hb _ (I hlt);obtain⟨q,hq⟩:=jt1 h (i+1);have hpos:=jt0 hq;rw[F hlt]at hs2 ⊢;simp only[sumL]at hs2 ⊢;rw[je6];simp only[j4K];rw[j00 (show (i:D)<(l.length:D) by omega),j0L];simp only[j6,j8,hgd];rw[j05 (x:=(i:D)+1),j05 (x:=l[i].2-l[i].1),j05 (x:=s+(l[i].2-l[i].1)),j03];have:=jEm h hp hl hb n (i+1) (s+(l[i].2-l[i].1)) omg_ omg_ omg_ hu;rw[show s+(l[i].2-l[i].1+sumL (l.drop (i+1)))=s+(l[i].2-l[i].1)+sumL (l.drop (i+1)) by omega];exact this
theorem jxF{l:SL}:∀{p:D},StS p l->∀u∈l,p<u.1/\u.1<u.2:=by
 induction l with
 |nil=>intro p _ u hu;simp at hu
 |cons x r ih=>
  intro p h u hu;rcases List.mem_cons.1 hu with rfl|hu
  .exact⟨h.1,h.2.1⟩
  .have:=ih h.2.2 u hu;have:=h.1;have:=h.2.1;omega
theorem jAV{f:D->D}{a b:D}(ha:0<=a)(hb:b<=8589934592){S:SgL}(hS:Cov f b Þ a S)(hl:S.length<=16384)(v:D) :
  ∃out,j3x S v=H out/\StS (a-1) out/\(∀x,inS x out↔a<=x/\x<b/\f x=v)/\out.length<=16384/\∀u∈out,a<=u.1/\u.2<=b:=by
 have hsl:(spP v S).length<=16384:=by unfold spP;rw[Ê];have:=List.length_filter_le (λs:SgT=>s.2.2==v) S;omega
 have tl:=jzA (v:=v) (S:=S) omg_ S.length 0 [] omg_ smp_;rw[List.nil_append,Â]at tl
 have hbd:∀u∈spP v S,a<=u.1/\u.2<=b/\u.1<u.2:=λu hu=>by
  obtain⟨s,hm,rfl⟩:=List.mem_map.1 hu;have hm:=(List.mem_filter.1 hm).1;have hc:=hS.ch.mem _ hm;exact⟨hc.1,hc.2.2.1,hS.pos _ hm⟩
 obtain⟨out,e3,h1,h2,h3,h4⟩:=jf2 (l:=spP v S) omg_ (λu hu=>by have:=hbd u hu;omega) (lo:=a) (hi:=b) (λu hu _=>⟨(hbd u hu).1,(hbd u hu).2.1⟩);refine⟨out,?_,h1,λx=>(h2 x).trans (jAT hS),omg_,h4⟩;simp only[j3x];rw[show j5P v S (R S.length) 0 []=_ from tl];simp only[j4,e3]
theorem jCD{f:D->D}{a:D}{N:J}(ha:0<=a)(hb:a+N<=8589934592)(hN:N<=604800*60){S:SgL}(hS:Cov f (a+N) Þ a S)(hl:S.length<=16384){v:D}{T:SL}(hT:j3x S v=H T)
  {o:D}{l:TrL}(h:TOk o l)(hll:l.length<=20){w:WL}{W:SL}(hw:WOk 0 w)(hwl:w.length<=14)(hW:j1F (o,l) w a (a+N)=H W) :
  ∃C,j7t T W=H C/\jeH C=H (cntB (λx=>E (f x=v)&&jb6 o l w x) a N):=by
 obtain⟨T',e1,t1,t2,t3,t4⟩:=jAV ha hb hS hl v;rw[hT]at e1;cases e1;obtain⟨W',e2,w1,w2,w3,w4⟩:=jc5 h hll hw hwl (M:=60) omg_ ha (show a<=a+N by omega) hb omg_;rw[hW]at e2;cases e2;have hWl:W.length<=14*61*21:=Û w3 (Ã (Ã hwl omg_) omg_);obtain⟨C,e3,c1,c2,c3⟩:=jm8 t1 w1 omg_ omg_
 have hin:∀x,inS x C↔a<=x/\x<a+N/\f x=v/\jb6 o l w x=true:=by
  intro x;rw[c2 x,t2 x];constructor
  .rintro⟨⟨q1,q2,q3⟩,q4⟩
   obtain⟨k,hk,k1,k2⟩:=j7b h (t:=x) omg_ omg_;exact⟨q1,q2,q3,by rw[joF h hk k1 k2];exact(w4 k hk x q1 q2 k1 k2).1 q4⟩
  .rintro⟨q1,q2,q3,q4⟩
   obtain⟨k,hk,k1,k2⟩:=j7b h (t:=x) omg_ omg_;rw[joF h hk k1 k2]at q4;exact⟨⟨q1,q2,q3⟩,(w4 k hk x q1 q2 k1 k2).2 q4⟩
 have hmem:=jxF c1
 have hub:∀u∈C,u.2<=a+N:=λu hu=>by
  have hm:=hmem u hu;have:=(hin (u.2-1)).1 ⟨u,hu,omg_,omg_⟩;omega
 have hino:=c1.ino;rw[show a-1+1=a by omega]at hino;have hsum:sumL C=cntB (λx=>E (f x=v)&&jb6 o l w x) a N:=by rw[jxz hino hub];refine jeo λx x1 x2=>?_;rw[Ô,È,decide_eq_true_iff,jhJ];have:=hin x;unfold inS at this;rw[this];exact⟨λh=>h.2.2,λh=>⟨x1,x2,h⟩⟩
 have hr:=jrK (λx=>E (f x=v)&&jb6 o l w x) a N;have lp:=jEm hino ha omg_ (λu hu=>by have:=hub u hu;omega) C.length 0 0 omg_ omg_ (by rw[Â,hsum];omega) (λu hu=>by have:=hmem u hu;omega);refine⟨C,e3,?_⟩;simp only[jeH];rw[show jaA 0 C (R C.length) 0=_ from lp,Â,Int.zero_add,hsum];rfl
abbrev WtL:=Y ((D×D)×D)
structure WtOk(ws:WtL):Prop where
 w:WOk 0 (ws.map λy=>y.1)
 l:ws.length<=14
 g:∀y∈ws,1<=y.2/\y.2<=8
theorem jAW{L:Y D}{w:WL}(hw:w.length<=4):∀(n i:J)(a:D)(acc:WtL),i+n=w.length->DOk L a->acc.map (λy=>y.1)=w.take i->(∀y∈acc,1<=y.2/\y.2<=4)->
  ∃a' out,j5z (i:D) L a acc w=H (L,a',out)/\out.map (λy=>y.1)=w/\(∀y∈out,1<=y.2/\y.2<=4)/\DOk L a'
 |0,i,a,acc,hi,hd,h1,h2=>by
  refine⟨a,acc,?_,by rw[h1,Ë omg_],h2,hd⟩;rw[j9P];simp only[j2j,show R w.length=(w.length:D) from rfl];rw[j01 omg_,j7,j06]
 |n+1,i,a,acc,hi,hd,h1,h2=>by
  have hlt:i<w.length:=omg_;have hgd:w.getD i (0,0)=w[i]:=by simp[À,hlt]
  have hal:acc.length=i:=by have:=congrArg Ý h1;simpa[Nat.min_eq_left (Nat.le_of_lt hlt)]using this
  obtain⟨x,a1,e,x0,x1,d1⟩:=j0H (n:=4) hd omg_ omg_;rw[j9P];simp only[j2j,show R w.length=(w.length:D) from rfl,e,j4,Í];rw[j00 (show (i:D)<(w.length:D) by omega),j0L,j05 (x:=1+x),j05 (x:=(i:D)+1),j00 (show acc.length+1<=j02 by simp[j02];omega)];simp only[j6,j8,hgd,j03]
  exact jAW hw n (i+1) a1 (acc++[((w[i].1,w[i].2),1+x)]) omg_ d1 (by rw[List.map_append,h1,X hlt];rfl) (λy hy=>by
   rcases List.mem_append.1 hy with h|h
   .exact h2 y h
   .simp only[Ð]at h;subst h;exact⟨by show 1<=1+x;omega,by show 1+x<=4;omega⟩)
theorem juG{L:Y D}{a:D}(h:DOk L a):∃ws a',j7X L a=H (ws,L,a')/\WtOk ws/\DOk L a':=by
 obtain⟨w,a1,e,h1,h2,d1⟩:=jgF h;obtain⟨a',out,e2,q1,q2,d2⟩:=jAW (w:=w) omg_ w.length 0 a1 [] omg_ d1 smp_ smp_;refine⟨out,a',?_,⟨by rw[q1];exact h1,?_,λy hy=>by have:=q2 y hy;omega⟩,d2⟩
 .simp only[j7X,e,j4];rw[show j5z 0 L a1 [] w=_ from e2];rfl
 .have:=congrArg Ý q1;simp only[Ê]at this;omega
theorem jCE{ws:WtL}(hl:ws.length<=100):∀(n i:J)(acc:WL),i+n=ws.length->acc.length=i->j7w ws (ws.length:D) (i:D) acc=H (acc++(ws.drop i).map λy=>y.1)
 |0,i,acc,hi,ha=>by
  rw[jde];simp only[j4i];rw[j01 omg_,j7,j06,U omg_];simp
 |n+1,i,acc,hi,ha=>by
  have hlt:i<ws.length:=omg_;have hgd:ws.getD i ((0,0),0)=ws[i]:=by simp[À,hlt]
  have ih:=jCE hl n (i+1) (acc++[ws[i].1]) omg_ sqo_;rw[jde];simp only[j4i,Í];rw[j00 (show (i:D)<(ws.length:D) by omega),j0L,j05 (x:=(i:D)+1),j00 (show acc.length+1<=j02 by simp[j02];omega),F hlt];simp only[j6,j8,hgd,j03];rw[Ñ]at ih;exact ih
theorem jEn{ws:WtL}(hl:ws.length<=100)(hg:∀y∈ws,1<=y.2/\y.2<=8):∀(n i:J),i+n=ws.length->j0q ws (ws.length:D) (i:D)=H (.inr ())
 |0,i,hi=>by
  rw[j0Q];simp only[j0a];rw[j01 omg_,j7,j06]
 |n+1,i,hi=>by
  have hlt:i<ws.length:=omg_;have hgd:ws.getD i ((0,0),0)=ws[i]:=by simp[À,hlt]
  obtain⟨g1,g2⟩:=hg _ (I hlt);rw[j0Q];simp only[j0a,jbG];rw[j00 (show (i:D)<(ws.length:D) by omega),j0L,j05 (x:=(i:D)+1)];simp only[j6,j8,hgd,j4];rw[j01 (show¬ws[i].2<1 by omega),j01 (show¬ws[i].2>8 by omega)];simp only[j7,j03];exact jEn hl hg n (i+1) omg_
theorem juH{ws:WtL}(h:WtOk ws):jc2 ws=H 0:=by
 have hl:=h.l;have e0:j93 ws=H (ws.map λy=>y.1):=by have:=jCE (ws:=ws) omg_ ws.length 0 [] omg_ rfl;simp only[j93];rw[show j7w ws (R ws.length) 0 []=_ from this];simp
 have e2:j0G ws=H false:=by have:=jEn (ws:=ws) omg_ (λy hy=>by have:=h.g y hy;omega) ws.length 0 omg_;simp only[j0G,j1b];rw[show j0q ws (R ws.length) 0=_ from this];rfl
 simp only[jc2,e0,j4,joA (w:=ws.map λy=>y.1) h.w sqo_,bne_self_eq_false,j7,e2]
noncomputable def wAdd(f:D->D)(o:D)(l:TrL)(a:D)(N:J)(p:D):WtL->D
 |[]=>0
 |y::r=>(y.2-1)*cntB (λx=>E (f x=p)&&jb6 o l [y.1] x) a N+wAdd f o l a N p r
section
variable{zs:Y j0z}{ps:Y j0d}{cs:Y CalT}(hs:SOk2 zs ps cs)
include hs
end
theorem jAX{p:D}:∀{S:SgL},(∀s∈S,s.1<s.2.1)->0<=tot p S
 |[],_=>Å _
 |s::r,h=>by
  have:=jAX (p:=p) (S:=r) (λx hx=>h x (by simp[hx]));have:=h s smp_;simp only[tot];split<;>omega
theorem jrN{np:J}{f:D->D}{u:D}(hu:u<=8589934592){S:SgL}(hl:S.length<=100000)(hpos:∀s∈S,s.1<s.2.1){a1 a2:D}{ws:WtL}{o:D}{tl:TrL}(hp:∀s∈S,s.2.2<(np:D)) :
  ∀(n i:J)(m:MpL)(x:D),i+n=S.length->0<=x->Ch f u x (S.drop i)->MpC m np i (λp=>tot p (S.take i)) (λp=>tot p (S.take i))->(∀p,0<=p->tot p (S.take i)<=x)->
  ∃m',jbH a1 a2 ws (S.length:D) (i:D) o tl S m=H (a1,a2,ws,o,tl,S,m')/\MpC m' np S.length (λp=>tot p S) (λp=>tot p S)
 |0,i,m,x,hi,hx0,hc,hm,hb=>by
  refine⟨m,?_,?_⟩
  .rw[jfb];simp only[j56];rw[j01 omg_,j7,j06]
  .rw[Ë omg_,show i=S.length by omega]at hm;exact hm
 |n+1,i,m,x,hi,hx0,hc,hm,hb=>by
  have hlt:i<S.length:=omg_;have hgd:S.getD i (0,0,0)=S[i]:=by simp[À,hlt]
  have hps:=hp _ (I hlt);have hpo:=hpos _ (I hlt);rw[F hlt]at hc;obtain⟨h1,h2,h3,h4⟩:=hc;have hle:=h4.le
  have htk:∀p,tot p (S.take (i+1))=tot p (S.take i)+(if S[i].2.2=p then S[i].2.1-S[i].1 else 0):=λp=>by
   rw[X hlt,jxB];simp only[tot];omega
  have hnn:=λp=>jAX (p:=p) (S:=S.take i) (λs hs=>hpos s (List.mem_of_mem_take hs));rw[jfb];simp only[j56];rw[j00 (show (i:D)<(S.length:D) by omega),j0L,j05 (x:=(i:D)+1)];simp only[j6,j8,hgd];generalize S[i]=s at *;by_cases hneg:s.2.2>=0
  .rw[j00 hneg];have hb1:=hb s.2.2 hneg;have hb2:=hnn s.2.2
   have hv1:(j1r ld0 m s.2.2).2.1=tot s.2.2 (S.take i):=by
    cases hh:j1W m s.2.2 with
    |true=>rw[hm.get _ hneg hps hh]
    |false=>
     have hn:¬0<tot s.2.2 (S.take i):=λhq=>by
      have:=(hm.has _ hneg hps).2 hq;rw[hh]at this;simp at this
     rw[jxC hh];show (0:D)=_;omega
   rw[show (j1r ((0:D),(0:D),(0:D)) m s.2.2)=j1r ld0 m s.2.2 from rfl,hv1,j05 (x:=tot s.2.2 (S.take i)+s.2.1),j05 (x:=tot s.2.2 (S.take i)+s.2.1-s.1)];simp only[j6,j03]
   obtain⟨m',e,q1⟩:=jrN hu hl hpos (a1:=a1) (a2:=a2) (ws:=ws) (o:=o) (tl:=tl) hp n (i+1) (j28 m s.2.2 (s.2.2,tot s.2.2 (S.take i)+s.2.1-s.1,tot s.2.2 (S.take i)+s.2.1-s.1)) s.2.1 omg_ omg_ h4
    ⟨⟨by have:=hm.ok.len;have:=juF (m:=m) (k:=s.2.2) (v:=(s.2.2,tot s.2.2 (S.take i)+s.2.1-s.1,tot s.2.2 (S.take i)+s.2.1-s.1));omega,λy hy=>by
      rcases juE hy with hy|rfl
      .exact hm.ok.key y hy
      .exact⟨hneg,hps,rfl⟩⟩,(jrM hm.nd).1,λp p0 p1=>by
     rw[jjA];show _↔0<tot p (S.take (i+1));rw[htk];by_cases hpe:p=s.2.2
     .subst hpe;rw[beq_self_eq_true,Bool.true_or,if_pos rfl];simp only[true_iff];omega
     .rw[j1p hpe,Ï,if_neg (λh=>hpe h.symm),O];exact hm.has p p0 p1,λp p0 p1 hh=>by
     rw[jjB];show _=(p,tot p (S.take (i+1)),tot p (S.take (i+1)));rw[htk];by_cases hpe:p=s.2.2
     .subst hpe;rw[beq_self_eq_true,j6,if_pos rfl,show tot s.2.2 (S.take i)+s.2.1-s.1=tot s.2.2 (S.take i)+(s.2.1-s.1) by omega]
     .rw[jjA,j1p hpe,Ï]at hh;rw[j1p hpe,j7,if_neg (λh=>hpe h.symm),O];exact hm.get p p0 p1 hh⟩ (λp hp0=>by
     have:=hb p hp0;rw[htk];split<;>omega)
   rw[show ((i+1:J):D)=(i:D)+1 by omega]at e;exact⟨m',e,q1⟩
  .rw[j01 hneg];simp only[j7,j03]
   obtain⟨m',e,q1⟩:=jrN hu hl hpos (a1:=a1) (a2:=a2) (ws:=ws) (o:=o) (tl:=tl) hp n (i+1) m s.2.1 omg_ omg_ h4
    ⟨⟨by have:=hm.ok.len;omega,hm.ok.key⟩,hm.nd,λp p0 p1=>by
      show _↔0<tot p (S.take (i+1));rw[htk,if_neg omg_,O];exact hm.has p p0 p1,λp p0 p1 hh=>by
      show _=(p,tot p (S.take (i+1)),tot p (S.take (i+1)));rw[htk,if_neg omg_,O];exact hm.get p p0 p1 hh⟩ (λp hp0=>by
      have:=hb p hp0;rw[htk,if_neg omg_];omega)
   rw[show ((i+1:J):D)=(i:D)+1 by omega]at e;exact⟨m',e,q1⟩
def addV(c:D->D)(m:MpL):MpL:=m.map λx=>(x.1,x.2.1,x.2.2.1,x.2.2.2+c x.1)
theorem jt6{c:D->D}(p:D):∀m:MpL,j1W (addV c m) p=j1W m p:=by
 intro m;simp only[j1W,addV,List.any_map];rfl
theorem jt7{c:D->D}{p:D}:∀{m:MpL},j1W m p=Ö->j1r ld0 (addV c m) p=((j1r ld0 m p).1,(j1r ld0 m p).2.1,(j1r ld0 m p).2.2+c p)
 |[],h=>by simp[j1W]at h
 |x::r,h=>by
  show cond (p==x.1) (x.2.1,x.2.2.1,x.2.2.2+c x.1) (j1r ld0 (addV c r) p)=_;by_cases hp:p=x.1
  .rw[j3m hp,j6];have:j1r ld0 (x::r) p=x.2:=by show cond (p==x.1) x.2 (j1r ld0 r p)=x.2;rw[j3m hp];rfl
   rw[this,hp]
  .rw[j1p hp,j7];have:j1r ld0 (x::r) p=j1r ld0 r p:=by show cond (p==x.1) x.2 (j1r ld0 r p)=_;rw[j1p hp];rfl
   rw[this];refine jt7 ?_;have e:j1W (x::r) p=(p==x.1||j1W r p):=rfl;rw[e,j1p hp,Ï]at h;exact h
theorem jCF{m:MpL}{np n:J}{u v c:D->D}(h:MpC m np n u v):MpC (addV c m) np n u (λp=>v p+c p):=by
 refine⟨⟨by have:=h.ok.len;simp only[addV,Ê];exact this,λx hx=>?_⟩,?_,λp p0 p1=>?_,λp p0 p1 hh=>?_⟩
 .obtain⟨y,hy,rfl⟩:=List.mem_map.1 hx;exact h.ok.key y hy
 .have:(addV c m).map (λx=>x.1)=m.map (λx=>x.1):=by simp[addV,List.map_map,Function.comp_def]
  rw[this];exact h.nd
 .rw[jt6];exact h.has p p0 p1
 .rw[jt6]at hh;rw[jt7 hh,h.get p p0 p1 hh]
theorem jnq{α β:Type}{G:α->β->Option β}{g:α×β->β}:∀{m:Y (α×β)},(∀x∈m,G x.1 x.2=H (g x))->jb8 G m=H (m.map λx=>(x.1,g x))
 |[],_=>rfl
 |x::r,h=>by
  have ih:=jnq (m:=r) (λy hy=>h y (by simp[hy]));simp only[jb8,h x smp_,ih,j4,Ç]
theorem jxG{m:MpL}:∀{x:D×LdT},(m.map λx=>x.1).Nodup->x∈m->j1W m x.1=Ö/\j1r ld0 m x.1=x.2:=by
 induction m with
 |nil=>intro x _ hx;simp at hx
 |cons y r ih=>
  intro x hn hx;have hc:=List.nodup_cons.1 (show (y.1::r.map λx=>x.1).Nodup from hn);rcases List.mem_cons.1 hx with rfl|hx
  .refine⟨by simp[j1W],?_⟩;show cond (x.1==x.1) x.2 (j1r ld0 r x.1)=x.2;rw[beq_self_eq_true];rfl
  .obtain⟨i1,i2⟩:=ih hc.2 hx;have hne:¬x.1=y.1:=λhe=>hc.1 (he▸List.mem_map.2 ⟨x,hx,rfl⟩);refine⟨?_,?_⟩
   .show (x.1==y.1||j1W r x.1)=Ö;rw[i1,Bool.or_true]
   .show cond (x.1==y.1) y.2 (j1r ld0 r x.1)=x.2;rw[j1p hne];exact i2
theorem jEo{np K:J}{f:D->D}{a:D}{N:J}(ha:0<=a)(hb:a+N<=8589934592)(hN:N<=2592000){S:SgL}(hS:Cov f (a+N) Þ a S)(hSl:S.length<=16384){o:D}{tl:TrL}(h:TOk o tl)(hll:tl.length<=20)
  {ws:WtL}(hw:∀y∈ws,WOk 0 [y.1])(hg:∀y∈ws,1<=y.2/\y.2<=8)(hl:ws.length<=100){u:D->D}:∀(n j:J)(m:MpL)(v:D->D),j+n=ws.length->MpC m np K u v->(∀p,0<=v p/\v p+19000000*n<=1000000000000)->
  ∃m',jbJ a (a+N) ws (ws.length:D) (j:D) o tl S m=H m'/\MpC m' np K u (λp=>v p+wAdd f o tl a N p (ws.drop j))
 |0,j,m,v,hj,hm,_=>by
  refine⟨m,?_,?_⟩
  .rw[jfc];simp only[j57];rw[j01 omg_,j7,j06]
  .rw[U omg_];simp only[wAdd,O];exact hm
 |n+1,j,m,v,hj,hm,hv=>by
  have hlt:j<ws.length:=omg_;have hgd:ws.getD j ((0,0),0)=ws[j]:=by simp[À,hlt]
  have hwj:=hw _ (I hlt);obtain⟨g1,g2⟩:=hg _ (I hlt);obtain⟨W,eW,_⟩:=jc5 h hll hwj smp_ (M:=60) omg_ ha (show a<=a+(N:D) by omega) hb omg_;have hcr:=λp=>jrK (λx=>E (f x=p)&&jb6 o tl [ws[j].1] x) a N
  have hme:=jnq (m:=m) (G:=λ(k106_1:D)(v106_1:LdT)=>jbI a (a+N) ws (ws.length:D) (j:D) o tl ws[j].1.1 ws[j].1.2 ws[j].2 S W m k106_1 v106_1 H)
   (g:=λx=>(x.2.1,x.2.2.1,x.2.2.2+(ws[j].2-1)*cntB (λt=>E (f t=x.1)&&jb6 o tl [ws[j].1] t) a N)) (λx hx=>by
    obtain⟨T,eT,_⟩:=jAV ha hb hS hSl x.1;obtain⟨C,eC,eL⟩:=jCD ha hb omg_ hS hSl eT h hll hwj smp_ eW;have hk:=hm.ok.key x hx;obtain⟨m1,m2⟩:=jxG hm.nd hx;have hvx:x.2=(x.1,u x.1,v x.1):=by rw[<-m2];exact hm.get x.1 hk.1 hk.2.1 m1
    have hvp:=hv x.1;have hc:=hcr x.1;have hv2:x.2.2.2=v x.1:=by rw[hvx]
    have hmul:0<=(ws[j].2-1)*cntB (λt=>E (f t=x.1)&&jb6 o tl [ws[j].1] t) a N/\(ws[j].2-1)*cntB (λt=>E (f t=x.1)&&jb6 o tl [ws[j].1] t) a N<=7*2592000:=by
     refine⟨Õ omg_ hc.1,?_⟩
     calc (ws[j].2-1)*cntB (λt=>E (f t=x.1)&&jb6 o tl [ws[j].1] t) a N<=7*cntB (λt=>E (f t=x.1)&&jb6 o tl [ws[j].1] t) a N:=Z omg_ hc.1
      _<=7*2592000:=omg_
    simp only[jbI,eT,eC,eL,j4]
    rw[j05 (x:=ws[j].2-1),j05 (x:=(ws[j].2-1)*cntB (λt=>E (f t=x.1)&&jb6 o tl [ws[j].1] t) a N),hv2,
     j05 (x:=v x.1+(ws[j].2-1)*cntB (λt=>E (f t=x.1)&&jb6 o tl [ws[j].1] t) a N)])
  have hm2:=jCF (c:=λp=>(ws[j].2-1)*cntB (λt=>E (f t=p)&&jb6 o tl [ws[j].1] t) a N) hm
  obtain⟨m',e,q⟩:=jEo ha hb hN hS hSl h hll hw hg hl n (j+1) (addV (λp=>(ws[j].2-1)*cntB (λt=>E (f t=p)&&jb6 o tl [ws[j].1] t) a N) m) (λp=>v p+(ws[j].2-1)*cntB (λt=>E (f t=p)&&jb6 o tl [ws[j].1] t) a N) omg_ hm2 (λp=>by
   have hc:=hcr p;have hvp:=hv p;have h1:0<=(ws[j].2-1)*cntB (λt=>E (f t=p)&&jb6 o tl [ws[j].1] t) a N:=Õ omg_ hc.1;have h2:(ws[j].2-1)*cntB (λt=>E (f t=p)&&jb6 o tl [ws[j].1] t) a N<=7*cntB (λt=>E (f t=p)&&jb6 o tl [ws[j].1] t) a N:=Z omg_ hc.1;omega)
  refine⟨m',?_,?_⟩
  .rw[jfc];simp only[j57];rw[j00 (show (j:D)<(ws.length:D) by omega),j0L,j05 (x:=(j:D)+1)];simp only[j6,j8,hgd];rw[show j1F (o,tl) [(ws[j].1.1,ws[j].1.2)] a (a+N)=_ from eW];simp only[j4];rw[hme];simp only[j4,j03];rw[show ((j+1:J):D)=(j:D)+1 by omega]at e;exact e
  .rw[F hlt]
   have:(λp=>v p+wAdd f o tl a N p (ws[j]::ws.drop (j+1)))=(λp=>(v p+(ws[j].2-1)*cntB (λt=>E (f t=p)&&jb6 o tl [ws[j].1] t) a N)+wAdd f o tl a N p (ws.drop (j+1))):=by
    funext p
    simp only[wAdd];omega
   rw[this];exact q
theorem jxH{w:WL}:∀{p:D},0<=p->WOk p w->∀v∈w,WOk 0 [v]:=by
 induction w with
 |nil=>intro p _ _ v hv;simp at hv
 |cons x r ih=>
  intro p hp h v hv;obtain⟨h1,h2,h3,h4⟩:=h;rcases List.mem_cons.1 hv with rfl|hv
  .exact⟨omg_,h2,h3,h3⟩
  .exact ih (p:=x.2) omg_ h4 v hv
theorem jt8:∀{l l':SL}{p q:D},StS p l->StS q l'->(∀x,inS x l↔inS x l')->l=l'
 |[],[],_,_,_,_,_=>rfl
 |[],s::r,_,_,_,h',hx=>absurd ((hx s.1).2 (j0i.2 (.inl ⟨Å _,h'.2.1⟩))) j3n
 |s::r,[],_,_,h,_,hx=>absurd ((hx s.1).1 (j0i.2 (.inl ⟨Å _,h.2.1⟩))) j3n
 |s::r,s'::r',p,q,h,h',hx=>by
  obtain⟨h1,h2,h3⟩:=h;obtain⟨g1,g2,g3⟩:=h'
  have e1:s.1=s'.1:=by
   have a1:=(hx s.1).1 (j0i.2 (.inl ⟨Å _,h2⟩));have a2:=(hx s'.1).2 (j0i.2 (.inl ⟨Å _,g2⟩));rcases j0i.1 a1 with a1|a1
   .rcases j0i.1 a2 with a2|a2
    .omega
    .have:=h3.low a2;omega
   .have:=g3.low a1;rcases j0i.1 a2 with a2|a2
    .omega
    .have:=h3.low a2;omega
  have e2:s.2=s'.2:=by
   apply Classical.byContradiction;intro hne;by_cases hlt:s.2<s'.2
   .rcases j0i.1 ((hx s.2).2 (j0i.2 (.inl ⟨omg_,hlt⟩))) with a|a
    .omega
    .have:=h3.low a;omega
   .rcases j0i.1 ((hx s'.2).1 (j0i.2 (.inl ⟨omg_,omg_⟩))) with a|a
    .omega
    .have:=g3.low a;omega
  have hs:s=s':=Prod.ext e1 e2;subst hs;rw[jt8 h3 g3 (λx=>?_)];constructor
  .intro a;have:=h3.low a;exact(j0i.1 ((hx x).1 (j0i.2 (.inr a)))).resolve_left omg_
  .intro a;have:=g3.low a;exact(j0i.1 ((hx x).2 (j0i.2 (.inr a)))).resolve_left omg_
theorem jxI:∀{A B:SL}{lo mid:D},InO lo A->InO mid B->lo<=mid->(∀s∈A,s.2<=mid)->InO lo (A++B)
 |[],B,lo,mid,_,hB,h,_=>hB.weak h
 |s::A,B,lo,mid,hA,hB,h,hs=>⟨hA.1,hA.2.1,jxI hA.2.2 hB (hs s smp_) (λu hu=>hs u (by simp[hu]))⟩
theorem jzE{f lo:D}:∀{l:SL},InO lo l->(∀s∈l,f<=s.1)->InO f l
 |[],_,_=>trivial
 |s::r,h,hf=>⟨hf s smp_,h.2⟩
theorem jt9:∀{A:SL}{p:D}{x:D×D},StS p A->p<x.1->(∀s∈A,s.2<x.1)->x.1<x.2->StS p (A++[x])
 |[],_,_,_,hp,_,hx=>⟨hp,hx,trivial⟩
 |s::A,p,x,h,_,hs,hx=>⟨h.1,h.2.1,jt9 h.2.2 (hs s smp_) (λu hu=>hs u (by simp[hu])) hx⟩
theorem jta:∀{A:SL}{p e:D}{y:D×D},StS p (A++[y])->y.2<=e->StS p (A++[(y.1,e)])
 |[],_,_,_,h,he=>⟨h.1,by have:=h.2.1;dsimp only;omega,trivial⟩
 |_::A,_,_,_,h,he=>⟨h.1,h.2.1,jta h.2.2 he⟩
theorem jAY:∀{A:SL}{p:D}{y:D×D},StS p (A++[y])->∀s∈A,s.2<y.1
 |[],_,_,_,s,hs=>by simp at hs
 |u::A,p,y,h,s,hs=>by
  have low:∀{A:SL}{p:D},StS p (A++[y])->p<y.1:=by
   intro A;induction A with
   |nil=>intro p h;exact h.1
   |cons v r ih=>intro p h;have:=ih h.2.2;have:=h.1;have:=h.2.1;omega
  rcases List.mem_cons.1 hs with rfl|hs
  .exact low h.2.2
  .exact jAY h.2.2 s hs
def jnA(l:SL)(x:D×D):SL:=cond (E (0<l.length)&&E ((l.getD (l.length-1) (0,0)).2=x.1)) (l.set (l.length-1) ((l.getD (l.length-1) (0,0)).1,x.2)) (l++[x])
theorem jCG(l:SL)(x:D×D):(jnA l x).length<=l.length+1:=by
 grind[jnA]
theorem jEp{p:D}{l:SL}{x:D×D}(h:StS p l)(hp:p<x.1)(hx:x.1<x.2)(hl:∀s∈l,s.2<=x.1) :
  StS p (jnA l x)/\(∀y,inS y (jnA l x)↔inS y l\/(x.1<=y/\y<x.2))/\(∀s∈jnA l x,s.2<=x.2):=by
 rcases List.eq_nil_or_concat l with rfl|⟨A,u,rfl⟩
 .refine⟨⟨hp,hx,trivial⟩,λy=>?_,λs hs=>?_⟩;all_goals grind[j0i,jnA]
 .rw[List.concat_eq_append]at h hl ⊢;have hlt:=jAY h;have hu:=hl u smp_;have hg:(A++[u]).getD ((A++[u]).length-1) (0,0)=u:=by simp[À]
  unfold jnA;rw[hg];by_cases he:u.2=x.1
  .rw[j00 smp_,j00 he];simp only[Bool.and_self,j6];have hset:(A++[u]).set ((A++[u]).length-1) (u.1,x.2)=A++[(u.1,x.2)]:=smp_;rw[hset];refine⟨jta h omg_,λy=>?_,λs hs=>?_⟩
   .rw[jgk,jgk,j0i,j0i]
    have hu2:u.1<u.2:=by
     have:∀{A:SL}{p:D},StS p (A++[u])->u.1<u.2:=by
      intro A;induction A with
      |nil=>intro p h;exact h.2.1
      |cons v r ih=>intro p h;exact ih h.2.2
     exact this h
    grind
   grind
  .rw[j01 he];simp only[Bool.and_false,j7];refine⟨jt9 h hp (λs hs=>?_) hx,λy=>?_,λs hs=>?_⟩
   .rcases List.mem_append.1 hs with hs'|hs'
    .have:=hlt s hs'
     have hu2:u.1<u.2:=by
      have:∀{A:SL}{p:D},StS p (A++[u])->u.1<u.2:=by
       intro A;induction A with
       |nil=>intro p h;exact h.2.1
       |cons v r ih=>intro p h;exact ih h.2.2
      exact this h
     omega
    grind
   all_goals grind[jgk,j0i]
theorem jAZ{p hi:D}:∀(b l:SL)(lo:D),StS p l->InO lo b->p<lo->(∀s∈l,s.2<=lo)->lo<=hi->(∀s∈b,s.2<=hi)->
  StS p (b.foldl jnA l)/\(∀y,inS y (b.foldl jnA l)↔inS y l\/inS y b)/\(∀s∈b.foldl jnA l,s.2<=hi)/\(b.foldl jnA l).length<=l.length+b.length
 |[],l,lo,h,_,_,hl,hlo,_=>⟨h,λy=>⟨.inl,λh=>h.resolve_right j3n⟩,λs hs=>by grind,smp_⟩
 |x::b,l,lo,h,hb,hp,hl,hlo,hhi=>by
  obtain⟨b1,b2,b3⟩:=hb;obtain⟨j1,j2,j3⟩:=jEp h (x:=x) omg_ b2 (λs hs=>by grind);have hx:=hhi x smp_;obtain⟨k1,k2,k3,k4⟩:=jAZ b (jnA l x) x.2 j1 b3 omg_ j3 hx (λs hs=>hhi s (by simp[hs]));grind[jnA,j0i]
theorem jB0{b:SL}(hb:b.length<=1000000):∀(n i:J)(l:SL),i+n=b.length->l.length+n<=10000000->jeN b (i:D) l=H ((b.drop i).foldl jnA l)
 |0,i,l,hi,_=>by
  grind[jgT,j6O,j6w,S0]
 |n+1,i,l,hi,hl=>by
  have hlt:i<b.length:=omg_;have hgd:b.getD i (0,0)=b[i]:=by simp[À,hlt]
  have ih:=jB0 hb n (i+1) (jnA l b[i]) omg_ (by grind[jCG]);rw[show ((i+1:J):D)=(i:D)+1 by omega]at ih;rw[jgT,F hlt];simp only[j6O,j6w,show R b.length=(b.length:D) from rfl,show R l.length=(l.length:D) from rfl,List.foldl_cons];rw[j00 (show (i:D)<(b.length:D) by omega),j6,j0N (i:=(i:D)) (n:=b.length) omg_ omg_,j05 (x:=(i:D)+1)];simp only[j6,j8,hgd];have hsz:E (l.length+[(b[i].1,b[i].2)].length<=j02)=true:=j00 (by simp[j02];omega);by_cases h0:0<l.length
  .rw[j00 (show (l.length:D)>0 by omega),j05 (x:=(l.length:D)-1),j0N (i:=(l.length:D)-1) omg_ omg_,show ((l.length:D)-1).toNat=l.length-1 by omega];simp only[j6];grind[jnA,j03]
  grind[jnA,S0]
theorem jzF{l b:SL}(hb:b.length<=1000000)(hl:l.length<=1000000):jip l b=H (b.foldl jnA l):=by
 have:=jB0 hb b.length 0 l omg_ omg_;grind[jip]
theorem sec5{d s:D}(hd : -1<=d)(hd2:d<=1000000)(hs:0<=s)(hs2:s<=86399):j7W (d,s)=H ((d*86400+s+259200)%604800):=by
 have e:Int.tmod d 7+10=d%7+10\/d = -1:=by grind
 simp only[j7W,jcw,j4];rcases e with e|rfl
 .simp(disch:=omega)only[jhE,S0];congr 1;omega
 grind[j4S]
def pcW(f t st:D):WL->SL
 |[]=>[]
 |v::r=>cond (E ((ent f t st v).1<(ent f t st v).2)) (ent f t st v::pcW f t st r) (pcW f t st r)
def pcA(w:WL)(f t:D):J->D->SL
 |0,_=>[]
 |m+1,st=>cond (E (st<t)) (pcW f t st w++pcA w f t m (st+604800)) []
theorem jrO(f t st:D):∀w:WL,(pcW f t st w).length<=w.length
 |[]=>by simp[pcW]
 |v::r=>by
  have:=jrO f t st r;unfold pcW;cases E ((ent f t st v).1<(ent f t st v).2)<;>simp<;>omega
theorem jB1{w:WL}(hw:WOk 0 w)(hl:w.length<=14){st f t:D}(hst : -1000000<=st)(hst2:st<=8600000000):∀(n i:J)(acc:SL),i+n=w.length->acc.length+n<=1000000->
  jdo w f t st (i:D) acc=H (w,f,t,st,acc++pcW f t st (w.drop i))
 |0,i,acc,hi,_=>by
  grind[jfU,j5Z,S0,pcW]
 |n+1,i,acc,hi,ha=>by
  have hlt:i<w.length:=omg_;have hgd:w.getD i (0,0)=w[i]:=by simp[hlt]
  have hg:=jgj hw i hlt;rw[hgd]at hg;rw[jfU,F hlt];simp only[j5Z,show R w.length=(w.length:D) from rfl];rw[j00 (show (i:D)<(w.length:D) by omega),j0L];simp only[j6,j8,hgd];rw[j05 (x:=(i:D)+1),j05 (x:=st+w[i].1),j05 (x:=st+w[i].2)];have ec:(E ((if st+w[i].1>f then st+w[i].1 else f)<(if st+w[i].2<t then st+w[i].2 else t)))=E ((ent f t st w[i]).1<(ent f t st w[i]).2):=rfl;rw[ec];have ih:=λacc h=>jB1 hw hl hst hst2 (f:=f) (t:=t) n (i+1) acc omg_ h;rw[show ((i+1:J):D)=(i:D)+1 by omega]at ih;simp only[pcW];cases E ((ent f t st w[i]).1<(ent f t st w[i]).2) with
  |true=>simp(disch:=omega)only[S0];grind[ent]
  |false=>grind[j03]
theorem jB2{w:WL}(hw:WOk 0 w)(hl:w.length<=14){f t:D}(ht:t<=8589934592):∀(m:J)(st:D)(acc:SL), -1000000<=st->t<=st+604800*m->acc.length+14*m<=900000->
  jfV w f t st acc=H (acc++pcA w f t m st)
 |0,st,acc,hst,hm,_=>by
  rw[jfW];simp(disch:=omega)only[j60,S0];simp[pcA]
 |m+1,st,acc,hst,hm,hacc=>by
  rw[jfW];simp only[j60,pcA];by_cases hlt:st<t
  .have h2:=jB1 hw hl hst omg_ (f:=f) (t:=t) w.length 0 acc omg_ omg_;rw[show ((0:J):D)=0 from rfl,Â]at h2;have hlen:=jrO f t st w;simp(disch:=omega)only[h2,S0];have:=jB2 hw hl ht m (st+604800) (acc++pcW f t st w) omg_ omg_ sqo_ (f:=f);rw[Ñ]at this;exact this
  .rw[j01 hlt,j7,j06,j7,List.append_nil]
theorem jxJ{f t st:D}:∀{w:WL}{p:D},WOk p w->InO (st+p) (pcW f t st w)/\∀s∈pcW f t st w,f<=s.1/\s.2<=t/\s.2<=st+604800
 |[],_,_=>⟨trivial,λs hs=>by simp[pcW]at hs⟩
 |v::r,p,h=>by
  obtain⟨h1,h2,h3,h4⟩:=h;obtain⟨i1,i2⟩:=jxJ (f:=f) (t:=t) (st:=st) h4;unfold pcW;by_cases hc:(ent f t st v).1<(ent f t st v).2
  .have e1:st+v.1<=(ent f t st v).1/\f<=(ent f t st v).1:=by unfold ent;dsimp only;split<;>omega
   have e2:(ent f t st v).2<=st+v.2/\(ent f t st v).2<=t:=by unfold ent;dsimp only;split<;>omega
   rw[j00 hc,j6];refine⟨⟨omg_,hc,i1.weak omg_⟩,λs hs=>?_⟩;rcases List.mem_cons.1 hs with rfl|hs
   .exact⟨e1.2,e2.2,omg_⟩
   .exact i2 s hs
  .rw[j01 hc,j7];exact⟨i1.weak omg_,i2⟩
theorem jB3{f t st x:D}:∀{w:WL}{p:D},WOk p w->(inS x (pcW f t st w)↔f<=x/\x<t/\∃v∈w,st+v.1<=x/\x<st+v.2)
 |[],_,_=>⟨λh=>absurd h j3n,λ⟨_,_,v,hv,_⟩=>by simp at hv⟩
 |v::r,p,h=>by
  obtain⟨h1,h2,h3,h4⟩:=h;have ih:=jB3 (f:=f) (t:=t) (st:=st) (x:=x) h4
  have he:((ent f t st v).1<=x/\x<(ent f t st v).2)↔f<=x/\x<t/\st+v.1<=x/\x<st+v.2:=by
   unfold ent;dsimp only;constructor
   .rintro⟨a1,a2⟩
    have b1:f<=x/\st+v.1<=x:=by split at a1<;>omega
    have b2:x<t/\x<st+v.2:=by split at a2<;>omega
    exact⟨b1.1,b2.1,b1.2,b2.2⟩
   .rintro⟨a1,a2,a3,a4⟩
    refine⟨?_,?_⟩<;>split<;>omega
  unfold pcW;by_cases hc:(ent f t st v).1<(ent f t st v).2
  .rw[j00 hc,j6,j0i,ih,he];constructor
   .rintro (⟨a1,a2,a3,a4⟩|⟨a1,a2,u,hu,a3⟩)
    .exact⟨a1,a2,v,smp_,a3,a4⟩
    .exact⟨a1,a2,u,by simp[hu],a3⟩
   .rintro⟨a1,a2,u,hu,a3⟩
    rcases List.mem_cons.1 hu with rfl|hu
    .exact .inl ⟨a1,a2,a3⟩
    .exact .inr ⟨a1,a2,u,hu,a3⟩
  .rw[j01 hc,j7,ih];constructor
   .rintro⟨a1,a2,u,hu,a3⟩;exact⟨a1,a2,u,by simp[hu],a3⟩
   .rintro⟨a1,a2,u,hu,a3⟩
    rcases List.mem_cons.1 hu with rfl|hu
    .have:=he.2 ⟨a1,a2,a3⟩;omega
    .exact⟨a1,a2,u,hu,a3⟩
theorem jB4{w:WL}(hw:WOk 0 w){f t:D}:∀(m:J)(st:D),t<=st+604800*m->
  InO st (pcA w f t m st)/\(∀s∈pcA w f t m st,f<=s.1/\s.2<=t)/\(pcA w f t m st).length<=w.length*m/\∀x,inS x (pcA w f t m st)↔f<=x/\x<t/\st<=x/\hasB ((x-st)%604800) w=Ö
 |0,st,hm=>⟨trivial,λs hs=>by simp[pcA]at hs,by simp[pcA],λx=>⟨λh=>absurd h j3n,λh=>omg_⟩⟩
 |m+1,st,hm=>by
  obtain⟨i1,i2,i3,i4⟩:=jB4 hw (f:=f) (t:=t) m (st+604800) omg_;obtain⟨j1,j2⟩:=jxJ (f:=f) (t:=t) (st:=st) hw;rw[O]at j1;unfold pcA;by_cases hlt:st<t
  .rw[j00 hlt,j6];refine⟨jxI j1 i1 omg_ (λs hs=>(j2 s hs).2.2),λs hs=>?_,?_,λx=>?_⟩
   .rcases List.mem_append.1 hs with hs|hs
    .exact⟨(j2 s hs).1,(j2 s hs).2.1⟩
    .exact i2 s hs
   .have:=jrO f t st w;rw[List.length_append,Ü];omega
   .rw[jgk,i4 x,jB3 hw];constructor
    .rintro (⟨a1,a2,v,hv,a3,a4⟩|⟨a1,a2,a3,a4⟩)
     .obtain⟨i,hi,rfl⟩:=List.getElem_of_mem hv;have hg:=jgj hw i hi;rw[show w.getD i (0,0)=w[i] by simp[hi]]at hg;exact⟨a1,a2,omg_,jhJ.2 ⟨w[i],hv,omg_,omg_⟩⟩
     .refine⟨a1,a2,omg_,?_⟩;rw[show (x-st)%604800=(x-(st+604800))%604800 by omega];exact a4
    .rintro⟨a1,a2,a3,a4⟩
     by_cases hx:st+604800<=x
     .refine .inr ⟨a1,a2,hx,?_⟩;rw[show (x-(st+604800))%604800=(x-st)%604800 by omega];exact a4
     .obtain⟨v,hv,c1,c2⟩:=jhJ.1 a4;have e1:(x-st)%604800=x-st:=omg_;rw[e1]at c1 c2;exact .inl ⟨a1,a2,v,hv,omg_,omg_⟩
  .rw[j01 hlt,j7];exact⟨trivial,λs hs=>by simp at hs,smp_,λx=>⟨λh=>absurd h j3n,λh=>omg_⟩⟩
theorem jEq{w:WL}(hw:WOk 0 w)(hl:w.length<=14){f t n:D}(hf:0<=f)(ht:t<=8589934592)(hft:f<t)(hn : -64800<=n)(hn2:n<=64800){M:J}(hM:M<=60)(hlen:t-f<=604800*M) :
  ∃P,jfX w f t n=H P/\InO f P/\(∀s∈P,s.2<=t)/\P.length<=w.length*(M+1)/\∀x,inS x P↔f<=x/\x<t/\hasB ((x+n+259200)%604800) w=true:=by
 have e1:j7W ((f+n+864000)/86400-10,(f+n+864000)%86400)=H ((f+n+259200)%604800):=by grind[sec5]
 generalize hst:f-(f+n+259200)%604800=st
 obtain⟨a1,a2,a3,a4⟩:=jB4 hw (f:=f) (t:=t) (M+1) st omg_;refine⟨pcA w f t (M+1) st,?_,jzE a1 (λs hs=>(a2 s hs).1),λs hs=>(a2 s hs).2,a3,λx=>?_⟩
 .simp only[jfX];rw[j05 (x:=f+n),j05 (x:=f+n+864000),jdF omg_,j05 (x:=(f+n+864000)/86400),j05 (x:=(f+n+864000)/86400-10),jhE omg_,e1];grind[j4S,jB2]
 grind
def inP(o:D)(l:TrL)(w:WL)(a b:D)(k:J)(x:D):Prop:=a<=x/\x<b/\∃j,j<k/\frm l j<=x/\x<frm l (j+1)/\hasB ((x+tof o l j+259200)%604800) w=Ö
theorem jCH{o:D}{l:TrL}(h:TOk o l){w:WL}(hw:WOk 0 w)(hl:w.length<=14){M:J}(hM:M<=60){a b:D}(ha:0<=a)(hab:a<=b)(hb:b<=8589934592)(hlen:b-a<=604800*M)(nm:Ù)(rs:Y Rule)(hll:l.length<=20){c:J}(hc0:w.length*(M+1)<=c)(hc1:c<=854):∀(n k:J)(acc:SL),k+n=l.length+1->
  StS (a-1) acc->(∀s∈acc,s.2<=max a (frm l k)/\s.2<=b)->acc.length<=c*k->(∀x,inS x acc↔inP o l w a b k x)->
  ∃out,jdp w a b ((k:D)-1) nm o rs l acc=H out/\StS (a-1) out/\(∀s∈out,s.2<=b)/\out.length<=c*(l.length+1)/\∀x,inS x out↔inP o l w a b (l.length+1) x
 |0,k,acc,hk,h1,h2,h3,h4=>by
  have hk:k=l.length+1:=omg_;subst hk;refine⟨acc,?_,h1,λs hs=>(h2 s hs).2,h3,h4⟩;rw[jfY];simp(disch:=omega)only[j61,j42,j5A,S0]
 |n+1,k,acc,hk,h1,h2,h3,h4=>by
  have hkl:k<=l.length:=omg_;have hck:c*k<=854*20:=Ã hc1 omg_;have hcs:c*(k+1)=c*k+c:=Ü c k;have o0:=h.of0 k hkl;have o1:=h.of1 k hkl;have hfl:=h.frm_lt (i:=k) hkl;have hf0:=h.frm_le (i:=0) (j:=k) omg_ omg_;rw[frm0]at hf0;have hend:k=l.length->frm l (k+1)=8589934593:=λe=>by rw[e];exact j8c
  have key:∀A:Option ((WL×D×D×D×Ù×D×Y Rule×TrL×SL) ⊕ SL),
    A=(if max a (frm l k)<min b (frm l (k+1)) then (jfX w (max a (frm l k)) (min b (frm l (k+1))) (tof o l k)).bind λp=>(jip acc p).bind λj=>H (.inl (w,a,b,(k:D),nm,o,rs,l,j)) else H (.inl (w,a,b,(k:D),nm,o,rs,l,acc)))->
    ∃out,lpK A (λh=>jdp h.1 h.2.1 h.2.2.1 h.2.2.2.1 h.2.2.2.2.1 h.2.2.2.2.2.1 h.2.2.2.2.2.2.1 h.2.2.2.2.2.2.2.1 h.2.2.2.2.2.2.2.2)=H out/\StS (a-1) out/\(∀s∈out,s.2<=b)/\out.length<=c*(l.length+1)/\∀x,inS x out↔inP o l w a b (l.length+1) x:=by
   intro A hA;have e1:((k+1:J):D)-1=(k:D):=omg_;by_cases hc:max a (frm l k)<min b (frm l (k+1))
   .rw[if_pos hc]at hA;obtain⟨p,ep,p1,p2,p3,p4⟩:=jEq hw hl (f:=max a (frm l k)) (t:=min b (frm l (k+1))) omg_ omg_ hc o0 o1 hM omg_;obtain⟨q1,q2,q3,q4⟩:=jAZ (p:=a-1) (hi:=min b (frm l (k+1))) p acc (max a (frm l k)) h1 p1 omg_ (λs hs=>(h2 s hs).1) omg_ p2;rw[ep,j4,jzF omg_ omg_,j4]at hA;rw[hA,j03];have ih:=jCH h hw hl hM ha hab hb hlen nm rs hll hc0 hc1 n (k+1) (p.foldl jnA acc) omg_ q1 (λs hs=>by grind) omg_ (λx=>?_)
    .simp_all
    .rw[q2 x,h4 x,p4 x];constructor
     .rintro (⟨a1,a2,j,a3,a4⟩|⟨a1,a2,a3⟩)
      .exact⟨a1,a2,j,omg_,a4⟩
      .exact⟨omg_,omg_,k,omg_,omg_,omg_,a3⟩
     .rintro⟨a1,a2,j,a3,a4,a5,a6⟩
      by_cases hj:j=k
      .grind
      .exact .inl ⟨a1,a2,j,omg_,a4,a5,a6⟩
   .rw[if_neg hc]at hA;rw[hA,j03];have ih:=jCH h hw hl hM ha hab hb hlen nm rs hll hc0 hc1 n (k+1) acc omg_ h1 (λs hs=>by grind) omg_ (λx=>?_)
    .simp_all
    .rw[h4 x];constructor
     .rintro⟨a1,a2,j,a3,a4⟩
      exact⟨a1,a2,j,omg_,a4⟩
     .rintro⟨a1,a2,j,a3,a4,a5,a6⟩
      by_cases hj:j=k
      .subst hj;omega
      .exact⟨a1,a2,j,omg_,a4,a5,a6⟩
  rw[jfY];refine key _ ?_;simp only[j61,j42,j5A,show R l.length=(l.length:D) from rfl];rw[j00 (show (k:D)-1<(l.length:D) by omega),j6,j05 (x:=(k:D)-1+1),show (k:D)-1+1=(k:D) by omega];have hmax:∀u:D,(if u>a then u else a)=max a u:=λu=>by split<;>omega
  have hmin:∀u:D,(if u<b then u else b)=min b u:=λu=>by split<;>omega
  rcases Nat.eq_zero_or_pos k with hk0|hk0
  .subst hk0;have et:tof o l 0=o:=rfl;have em:max a (frm l 0)=a:=by rw[frm0];omega
   rw[j01 (show¬((0:J):D)-1>=0 by omega),j7,em,et];by_cases hl0:0<l.length
   .have ef:(l.getD 0 (0,0)).1=frm l 1:=(jdG hl0).symm;grind[j0N]
   grind
  .obtain⟨k,rfl⟩:∃k',k=k'+1:=⟨k-1,omg_⟩;have e1:((k+1:J):D)-1=(k:D):=omg_;have et:(l.getD k (0,0)).2=tof o l (k+1):=rfl;have ef0:(l.getD k (0,0)).1=frm l (k+1):=(jdG omg_).symm;rw[e1,j00 (show (k:D)>=0 by omega),j6,j0N (i:=(k:D)) omg_ omg_];simp only[j6,j8,et,ef0,hmax];by_cases hl0:k+1<l.length
   .have ef:(l.getD (k+1) (0,0)).1=frm l (k+1+1):=(jdG hl0).symm;grind[j0N]
   grind
theorem jnr{z:Ù×D×Y Rule}{l:TrL}(h4:Z4 z l)(hll:l.length<=20){w:WL}(hck:j3P w=H 0)(hw:WOk 0 w)(hl:w.length<=14){M:J}(hM:M<=60){a b:D}(ha:0<=a)(hab:a<=b)(hb:b<=8589934592)(hlen:b-a<=604800*M)(hq:b-a<=34560000) :
  ∃out,j5j z w a b=H (if out.length>4096 then ([],5) else (out,0))/\StS (a-1) out/\(∀s∈out,s.2<=b)/\out.length<=w.length*(M+1)*(l.length+1)/\
   ∀k,k<=l.length->∀x,a<=x->x<b->frm l k<=x->x<frm l (k+1)->(inS x out↔hasB ((x+tof z.2.1 l k+259200)%604800) w=Ö):=by
 obtain⟨out,e,o1,o2,o3,o4⟩:=jCH h4.2 hw hl hM ha hab hb hlen z.1 z.2.2 hll (Nat.le_refl _) (Û (Ã hl (show M+1<=61 by omega)) (by decide)) (l.length+1) 0 [] omg_ trivial (λs hs=>by simp at hs) smp_ (λx=>⟨λh=>absurd h j3n,λ⟨_,_,j,hj,_⟩=>omg_⟩);rw[show ((0:J):D)-1 = -1 from rfl]at e;refine⟨out,?_,o1,o2,o3,λk hk x x0 x1 k0 k1=>?_⟩
 .have er:j8j a b=H true:=by grind[j8j,j4S]
  simp(disch:=omega)only[j5j,show j0s (z.1,z.2.1,z.2.2)=_ from h4.1,hck,er,e,S0];grind
 .rw[o4 x];constructor
  .rintro⟨_,_,j,hj,j0,j1,j2⟩
   have:j=k:=by
    rcases Nat.lt_trichotomy j k with hlt|he|hlt
    .have:=h4.2.frm_le (i:=j+1) (j:=k) omg_ omg_;omega
    .exact he
    .have:=h4.2.frm_le (i:=k+1) (j:=j) omg_ omg_;omega
   subst this;exact j2
  .exactλhx=>⟨x0,x1,k,omg_,k0,k1,hx⟩
end Go.Proofs.Pw
