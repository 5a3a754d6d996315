/- What the dice make of a configuration of one schedule or two by changing one thing. -/
import Derived.Test.YtmlokiiopbjgfaaGreatEEPE
import Derived.Test.YtmlokiiopbjgfaaGreatEEPC
import Derived.Test.YtmlokiiopbjgfaaGreatEEPD
import Derived.Test.YtmlokiiopbjgfaaGreatEELD
open _root_ renaming Int->j,List->m,ByteArray->E,Option->J,Nat->N,Bool->Ê
open List renaming length_nil->u,getElem_mem->B,length_cons->F,getD->G,nil_append->H,mem_or_eq_of_mem_set->U,getD_cons_zero->Y,getD_eq_getElem?_getD->À,drop_eq_getElem_cons->Á,getElem?_eq_getElem->Â,drop_of_length_le->Ã,length_replicate->Ä,getD_cons_succ->Æ,length_append->Ç
open Option renaming some->A,bind_none->I,none->È
open ByteArray renaming empty->D
open Bool renaming not_true->M,false->O,true->Z,not_false->Å
open Decidable renaming decide->S
open Int renaming ofNat->W,ofNat_eq_natCast->X
open Go Go.Lft
namespace Go.Proofs.Pw
structure SV(s:j0q):Prop where
 ll:s.2.1.length<=3
 ly:LyW s.2.1
 el:s.2.2.length<=4
 ed:EdW s.2.2
structure CV(c:CfgT):Prop where
 z:∀z∈c.1,ZW z
 s:∀s∈c.2.2.2,SV s
 one:1<=c.2.2.2.length
 pw:∀p∈c.2.1,p.2.2.1.length<=3
 few:c.2.2.2.length<=3
theorem CV.w{c:CfgT}(h:CV c):CW c:=
 ⟨h.z,λs hs x hx=>by have:=(h.s s hs).ed x hx;omega,λs hs=>(h.s s hs).ly⟩
def OKv(L:m j)(r:J (CfgT×m j×j)):Prop:=∃k a',r=A (k,L,a')/\CV k/\DOk L a'
section
variable{L:m j}
theorem ovN{a n:j}{f:j×m j×j->J (CfgT×m j×j)}(hd:DOk L a)(h1:1<=n)(h2:n<=1000000000000)(h:∀x a',0<=x->x<n->DOk L a'->OKv L (f (x,L,a'))):OKv L ((j02 L a n).bind f):=by
 grind[j0F]
theorem ovP{a:j}{xs:m j}{f:j×m j×j->J (CfgT×m j×j)}(hd:DOk L a)(h1:0<xs.length)(h2:xs.length<=1000000)(h:∀x a',x∈xs->DOk L a'->OKv L (f (x,L,a'))):OKv L ((j0b L a xs).bind f):=by
 grind[j7x]
theorem ovE{a:j}{u0 u1 u2 u3:m Unit}{f:j0H×m j×j->J (CfgT×m j×j)}(hd:DOk L a)(h1:1<=u1.length)(h2:u1.length<=100)(h:∀(x:j0H) a',x.2.2.2.1<=1000000000000->x.2.2.2.2<=1000000000000->DOk L a'->OKv L (f (x,L,a'))) :
  OKv L ((j2W L a (u0,u1,u2,u3)).bind f):=by
 obtain⟨x,a',e,x0,d⟩:=jiX hd (u0:=u0) (u2:=u2) (u3:=u3) h1 h2
 simp_all
theorem ovQ{x y:j}{a b:J (CfgT×m j×j)}(h1:x=y->OKv L a)(h2:x≠y->OKv L b):OKv L (cond (x==y) a b):=by
 grind
theorem ovT{b:Ê}{x:J (CfgT×m j×j)}(h:b=Z)(hx:OKv L x):OKv L (cond b x È):=by rw[h];exact hx
theorem ovS{a:j}{k:CfgT}(hd:DOk L a)(h:CV k):OKv L (A (k,L,a)):=⟨k,a,rfl,h,hd⟩
end
theorem juo{zs:m j0O}(h:∀z∈zs,ZW z)(i:N)(nm:E)(o:j):∀z∈zs.set i (nm,o,(zs.getD i (D,0,[])).2.2),ZW z:=λz hz=>by
 by_cases hi:i<zs.length
 .rcases U hz with hz|rfl
  .exact h z hz
  .have:=h zs[i] (B hi);rw[show zs.getD i (D,0,[])=zs[i] by simp[G,hi]];exact⟨this.ok,this.len,this.yr,this.few⟩
 grind[List.set_eq_of_length_le]
theorem jt1{ls:m j0c}(h:LyW ls)(i:N){x:j0c}(hx:x.2.2.2.2.2.2.1.length<=3):LyW (ls.set i x):=λy hy=>by
 rcases U hy with hy|rfl
 .exact h y hy
 .exact hx
theorem jt2{ls:m j0c}(h:LyW ls)(i:N):(ls.getD i (D,0,(0,0),0,0,[],[],0,0)).2.2.2.2.2.2.1.length<=3:=by
 by_cases hi:i<ls.length
 .rw[À,Â hi];exact h _ (B hi)
 simp_all
theorem svN:∀s∈([]:m j0q),SV s:=λs hs=>by simp at hs
theorem svC{s:j0q}{l:m j0q}(h:SV s)(h':∀x∈l,SV x):∀x∈s::l,SV x:=λx hx=>by
 grind
theorem svE(nm:E):SV (nm,([]:m j0c),([]:m j0H)):=⟨smp_,λx hx=>by simp at hx,smp_,λx hx=>by simp at hx⟩
theorem jt3{nm nm':E}{ls:m j0c}{es:m j0H}(h:SV (nm,ls,es))(h3:es.length<=3){x:j0H}(hx:x.2.2.2.2<=1000000000000):SV (nm',ls,es++[x]):=
 ⟨h.ll,h.ly,sqo_,EdW.snoc h.ed hx⟩
theorem jpO{ss:m j0q}(h:ScW ss):∀s∈ss,SV s:=λs hs=>by
 obtain⟨h1,h2,h3⟩:=h s hs;exact⟨h1.1,h1.2,omg_,h3⟩
theorem juV{zs:m j0O}{ps:m j0r}{cs:m CalT}{ss:m j0q}(hs:SOk zs ps cs)(hk:ScW ss)(h1:1<=ss.length)(h3:ss.length<=3):CV (zs,ps,cs,ss):=⟨λz hz=>(hs.ok z hz).w,jpO hk,h1,hs.pw,show ss.length<=3 by omega⟩
theorem jlH{L:m j}{a n:j}(hd:DOk L a){ls:m j0c}(hl:ls.length<=3)(hw:LyW ls){k:m j0c->m j->j->J (CfgT×m j×j)}(hk:∀l a',l.length<=3->LyW l->DOk L a'->OKv L (k l L a')):OKv L (jbP n ls L a k):=by
 have hs:∀(i:j)(f:j0c->j0c) a',(∀e:j0c,e.2.2.2.2.2.2.1.length<=3->(f e).2.2.2.2.2.2.1.length<=3)->DOk L a'->OKv L (k (j60 ls i f) L a'):=λi f a' hf hd=>
  hk _ _ (by grind[j60]) (jt1 hw _ (hf _ (jt2 hw _))) hd
 simp only[jbP,X];refine ovQ (λ_=>hk _ _ hl hw hd) (λh0=>ovN hd omg_ omg_ (λx a1 x0 x1 hd=>ovT (j1g) (ovN hd omg_ omg_ (λy a2 _ _ hd=>?_))));grind[ovP,ovN,j2M]
theorem jlI{L:m j}{a:j}(hd:DOk L a){z p c s:N}(h1:1<=p)(h2:p<=100){k:j0H->m j->j->J (CfgT×m j×j)}(hk:∀(x:j0H) a',x.2.2.2.2<=1000000000000->DOk L a'->OKv L (k x L a')):OKv L (jbQ z p c s L a k):=by
 simp only[jbQ,X];refine ovE hd (by rw[Ä];omega) (by rw[Ä];omega) (λx a1 _ _ hd=>ovN hd omg_ omg_ (λy a2 _ _ hd=>?_));grind[ovP]
theorem jpP{L:m j}{a:j}(hd:DOk L a){zs:m j0O}{ps:m j0r}{cs:m CalT}(hs:SOk zs ps cs){ss:m j0q}(h1:1<=ss.length)(h3:ss.length<=2)(hv:∀s∈ss,SV s){f g:m j->j->J (CfgT×m j×j)}(hf:∀a',DOk L a'->OKv L (f L a'))(hg:∀a',DOk L a'->OKv L (g L a')):OKv L (jdD zs ps cs ss L a f g):=by
 have hz0:=hs.z0;have hz1:=hs.z1;have hp0:=hs.p0;have hp1:=hs.p1;have hc1:=hs.c1;have hzw:∀z∈zs,ZW z:=λz hz=>(hs.ok z hz).w;have h4:ss.length<=3:=omg_
 have hpw:∀(i:j)(f:j0r->j0r),(∀e:j0r,e.2.2.1.length<=3->(f e).2.2.1.length<=3)->∀p∈jbO ps i f,p.2.2.1.length<=3:=λi f hf p hp=>by
  rcases U hp with hp|rfl
  .exact hs.pw p hp
  .refine hf _ ?_;by_cases hi:i.toNat<ps.length
   .rw[À,Â hi];exact hs.pw _ (B hi)
   simp_all
 simp only[jdD,X];refine ovN hd omg_ omg_ (λx a1 _ _ hd=>?_)
 repeat' ((try dsimp only);first
  |exact hf _ (by assumption)
  |exact hg _ (by assumption)
  |refine ovQ (λ_=>?_) (λ_=>?_)
  |refine ovN (by assumption) omg_ omg_ (λ_ _ _ _ _=>?_)
  |refine ovP (by assumption) smp_ smp_ (λ_ _ _ _=>?_)
  |refine ovT (j1g) ?_
  |refine ovT (j2M omg_ (by simp only[F,u];omega)) ?_
  |refine ovT (j00 (by simp only[j06,F,u];omega)) ?_
  |exact ovS (by assumption) ⟨hzw,hv,h1,hs.pw,h4⟩
  |exact ovS (by assumption) ⟨juo hzw _ _ _,hv,h1,hs.pw,h4⟩
  |(refine ovS (by assumption) ⟨hzw,hv,h1,?_,h4⟩;(try dsimp only);exact hpw _ _ (by intro e h;first|exact h|simp))
  |exact ovS (by assumption) ⟨hzw,λs hs=>by
   rcases List.mem_append.1 hs with h|h
   .exact hv s h
   .rw[List.mem_singleton.1 h];exact svE _,by simp only[Ç];omega,hs.pw,by simp only[Ç,List.length_singleton];omega⟩)
theorem sv2{s t:j0q}(h:SV s)(h':SV t):∀x∈[s,t],SV x:=svC h (svC h' svN)
theorem SV.ls'{nm:E}{ls l:m j0c}{es:m j0H}(h:SV (nm,ls,es))(h1:l.length<=3)(h2:LyW l):SV (nm,l,es):=⟨h1,h2,h.el,h.ed⟩
theorem jt4{L:m j}{a:j}(h:DOk L a){zs:m j0O}{ps:m j0r}{cs:m CalT}{nm:E}{ls:m j0c}{es:m j0H}(hs:SOk zs ps cs)(h0:SV (nm,ls,es))(hel:es.length<=3) :
  OKv L (j56 L a (zs,ps,cs,[(nm,ls,es)])):=by
 have hz0:=hs.z0;have hz1:=hs.z1;have hp0:=hs.p0;have hp1:=hs.p1;have hc1:=hs.c1;have hll:ls.length<=3:=h0.ll;have hzw:∀z∈zs,ZW z:=λz hz=>(hs.ok z hz).w;have cp:j8H (zs,ps,cs,[(nm,ls,es)])=A (zs,ps,cs,nm,ls,es):=by grind[j8H,j06,j2M]
 simp only[j56,cp,j0]
 refine jpP h hs smp_ smp_ (svC h0 svN) (λa hd=>ovN hd omg_ omg_ (λx a1 _ _ hd=>ovT (j1g) (jlH hd hll h0.ly (λl a2 l1 l2 hd=>ovS hd ⟨hzw,svC (h0.ls' l1 l2) svN,smp_,hs.pw,smp_⟩))))
  (λa hd=>ovN hd omg_ omg_ (λx a1 _ _ hd=>ovT (j1g) (jlI hd omg_ omg_ (λx a2 hx hd=>ovT (j00 (by grind[j06])) (ovS hd ⟨hzw,svC (jt3 h0 hel hx) svN,smp_,hs.pw,smp_⟩)))))
theorem jt5{L:m j}{a:j}(h:DOk L a){zs:m j0O}{ps:m j0r}{cs:m CalT}{nm nm1:E}{ls ls1:m j0c}{es es1:m j0H}(hs:SOk zs ps cs)(h0:SV (nm,ls,es))(hel:es.length<=3)(h1:SV (nm1,ls1,es1))(hel1:es1.length<=3) :
  OKv L (j7C L a (zs,ps,cs,[(nm,ls,es),(nm1,ls1,es1)])):=by
 have hz0:=hs.z0;have hz1:=hs.z1;have hp0:=hs.p0;have hp1:=hs.p1;have hc1:=hs.c1;have hll:ls.length<=3:=h0.ll;have hll1:ls1.length<=3:=h1.ll;have hzw:∀z∈zs,ZW z:=λz hz=>(hs.ok z hz).w;have cp:jck (zs,ps,cs,[(nm,ls,es),(nm1,ls1,es1)])=A (zs,ps,cs,nm,nm1,ls,es,ls1,es1):=by grind[jck,j06,j2M]
 simp only[j7C,cp,j0];refine jpP h hs smp_ smp_ (sv2 h0 h1) (λa hd=>ovN hd omg_ omg_ (λx a1 _ _ hd=>ovQ (λ_=>?_) (λ_=>ovT (j9g omg_) ?_))) (λa hd=>ovN hd omg_ omg_ (λx a1 _ _ hd=>ovQ (λ_=>?_) (λ_=>ovT (j9g omg_) ?_)))
 .exact jlH hd hll h0.ly (λl a2 l1 l2 hd=>ovS hd ⟨hzw,sv2 (h0.ls' l1 l2) h1,smp_,hs.pw,smp_⟩)
 .exact jlH hd hll1 h1.ly (λl a2 l1 l2 hd=>ovS hd ⟨hzw,sv2 h0 (h1.ls' l1 l2),smp_,hs.pw,smp_⟩)
 .exact jlI hd omg_ omg_ (λx a2 hx hd=>ovT (j00 (by grind[j06])) (ovS hd ⟨hzw,sv2 (jt3 h0 hel hx) h1,smp_,hs.pw,smp_⟩))
 .exact jlI hd omg_ omg_ (λx a2 hx hd=>ovT (j00 (by grind[j06])) (ovS hd ⟨hzw,sv2 h0 (jt3 h1 hel1 hx),smp_,hs.pw,smp_⟩))
theorem jt6{L:m j}{a:j}(h:DOk L a){zs:m j0O}{ps:m j0r}{cs:m CalT}{ss:m j0q}(hs:SOk zs ps cs)(hk:ScW ss)(h1:1<=ss.length)(h2:ss.length<=2) :
  OKv L (j6V L a (zs,ps,cs,ss)):=by
 match ss,h1,h2,hk with
 |[(nm,ls,es)],_,_,hk=>obtain⟨k,a',e,hv,hd⟩:=jt4 h hs (jpO hk (nm,ls,es) smp_) (hk (nm,ls,es) smp_).2.1;exact⟨k,a',by simp only[j6V,e,orF],hv,hd⟩
 |[(nm,ls,es),(nm1,ls1,es1)],_,_,hk=>
  obtain⟨k,a',e,hv,hd⟩:=jt5 h hs (jpO hk (nm,ls,es) smp_) (hk (nm,ls,es) smp_).2.1 (jpO hk (nm1,ls1,es1) smp_) (hk (nm1,ls1,es1) smp_).2.1
  have hn:j56 L a (zs,ps,cs,[(nm,ls,es),(nm1,ls1,es1)])=none:=by
   have cp:j8H (zs,ps,cs,[(nm,ls,es),(nm1,ls1,es1)])=none:=by
    have c2:∀(b:Ê),cond b (È:J (m j0O×m j0r×m CalT×E×m j0c×m j0H)) È=none:=λb=>by cases b<;>rfl
    simp(disch:=omega)only[j8H,c2,S0]
   unfold j56;simp only[cp,I]
  exact⟨k,a',by simp only[j6V,hn,e,orF],hv,hd⟩
theorem c0_{b:Ê}{k:j}{r:J j}(hk:k≠0)(h:cond b (A k) r=A 0):b=O/\r=A 0:=by
 cases b with
 |true=>simp at h;exact absurd h hk
 |false=>exact⟨rfl,h⟩
theorem c2_{b:Ê}{r s:J j}(h:cond b r s=A 0):r=A 0\/s=A 0:=by
 cases b with
 |true=>exact .inl h
 |false=>exact .inr h
theorem ce0{c:CfgT}{x:j0H}(h:j1a c x=A 0):0<=x.2.2.2.1/\x.2.2.2.1<x.2.2.2.2:=by
 have T:∀(t:j),cond (cond (S (x.2.2.2.1<(0:j))) Z (S (x.2.2.2.2<(0:j)))) (A (1:j)) ((j2P t).bind λr=>cond (!r) (A (1:j)) (cond (S (x.2.2.2.1>=x.2.2.2.2)) (A (6:j)) (A (0:j))))=A 0->0<=x.2.2.2.1/\x.2.2.2.1<x.2.2.2.2:=by
  intro t h;obtain⟨h1,h⟩:=c0_ (by decide) h;have h0:¬x.2.2.2.1<0:=by intro hh;rw[j00 hh]at h1;simp at h1
  cases hd:j2P t with
  |none=>rw[hd]at h;simp at h
  |some b=>rw[hd]at h;obtain⟨_,h⟩:=c0_ (by decide) h;obtain⟨h2,_⟩:=c0_ (by decide) h;simp only[decide_eq_false_iff_not]at h2;exact⟨omg_,omg_⟩
 simp only[j1a,j3m,j2O,j12,j0]at h;obtain⟨_,h⟩:=c0_ (by decide) h;rcases c2_ h with h|h
 .obtain⟨_,h⟩:=c0_ (by decide) h;obtain⟨_,h⟩:=c0_ (by decide) h;obtain⟨_,h⟩:=c0_ (by decide) h;exact T _ h
 .rcases c2_ h with h|h
  .obtain⟨_,h⟩:=c0_ (by decide) h;obtain⟨_,h⟩:=c0_ (by decide) h;obtain⟨_,h⟩:=c0_ (by decide) h;exact T _ h
  .obtain⟨_,h⟩:=c0_ (by decide) h;obtain⟨_,h⟩:=c0_ (by decide) h;exact T _ h
structure SG(zs:m j0O)(ps:m j0r)(cs:m CalT)(s:j0q):Prop where
 ly:∀L∈s.2.1,LC1 zs.length ps.length cs.length L
 ll:s.2.1.length<=4
 ed:∀x∈s.2.2,EC0 x
 el:s.2.2.length<=9
theorem juW{zs:m j0O}{ps:m j0r}{cs:m CalT}{ss:m j0q}(hv:CV (zs,ps,cs,ss))(hC:Cfg0 zs ps cs ss):∀s∈ss,SG zs ps cs s:=λs hs=>by
 have h:=hC.s s hs;have v:=hv.s s hs;have hll:=v.ll;have hel:=v.el
 exact⟨λL hL=>⟨h.ly L hL,v.ly L hL⟩,omg_,λx hx=>by
  have:=ce0 (h.ed x hx);exact⟨this.1,this.2,v.ed x hx⟩,omg_⟩
theorem jpQ{good:N->Ê}:∀n,(∀i,i<n->good i=O)->topI good n=È
 |0,_=>rfl
 |n+1,h=>by
  simp only[topI,h n omg_,j5];exact jpQ n λi hi=>h i omg_
section
variable{zs:m j0O}{ps:m j0r}{cs:m CalT}{ss:m j0q}
theorem jup(hv:CV (zs,ps,cs,ss)):∃e v b,jeE (zs,ps,cs,ss)=A (v,b)/\j2L (zs,ps,cs,ss)=A e/\(e≠0->b=O)/\
  (e=0->b=Z/\v=((zs,ps,cs,ss),zs.map tb)/\GOk zs ps cs/\∀s∈ss,SG zs ps cs s):=by
 obtain⟨e,e1,e2,e3⟩:=hv.w.chk;by_cases he:e=0
 .subst he;obtain⟨hC,hg⟩:=e3 rfl;refine⟨0,_,_,?_,e2,λh=>absurd rfl h,λ_=>⟨rfl,rfl,hg,juW hv hC⟩⟩;have hv:=jsJ (ps:=ps) (cs:=cs) (ss:=ss) hg.ok (by have:=hg.zl;omega);simp only[jeE,e1,j0,bne_self_eq_false,j5];rw[hv];rfl
 .refine⟨e,((([]:m j0O),([]:m j0r),([]:m CalT),([]:m j0q)),([]:m (j×TrL))),O,?_,e2,λ_=>rfl,λh=>absurd h he⟩;simp only[jeE,e1,j0];rw[show (e != 0)=Z by simpa using he,j4]
theorem juq(hg:GOk zs ps cs){s:j0q}(hs:SG zs ps cs s)(t:j):∃n p,j5P ((zs,ps,cs,ss),zs.map tb) s t=A (n,p)/\
  (0<=t->t<=8589934592->p=topP s.2.2 t (pfX zs cs s.2.1 t) s.2.1.length/\n=topN s.2.2 t (pfX zs cs s.2.1 t) s.2.1.length)/\(¬(0<=t/\t<=8589934592)->n = -1/\p = -1):=by
 have hel:=hs.el;by_cases ht:0<=t/\t<=8589934592
 .have hL:=jhQ (zs:=zs) (ps:=ps) (cs:=cs) (ss:=ss) (tbs:=zs.map tb) (nm:=s.1) (ls:=s.2.1) (es:=s.2.2) (t:=t) (Pf:=pfX zs cs s.2.1 t) omg_ (λi hi=>by
   obtain⟨_,eP,_⟩:=juR hg (hs.ly _ (B hi)) (ss:=ss) ht.1 ht.2;rw[show pfX zs cs s.2.1 t i=perX zs cs s.2.1[i] t by simp[pfX,G,hi]];exact eP)
  refine⟨_,_,hL.trans ?_,λ_ _=>⟨rfl,rfl⟩,λh=>absurd ht h⟩;simp only[topP,topN];cases topI (jed s.2.2 t (pfX zs cs s.2.1 t)) s.2.1.length<;>rfl
 .have hL:=jhQ (zs:=zs) (ps:=ps) (cs:=cs) (ss:=ss) (tbs:=zs.map tb) (nm:=s.1) (ls:=s.2.1) (es:=s.2.2) (t:=t) (Pf:=λ_=> -1) omg_ (λi hi=>by
   have e0:j3D ((zs,ps,cs,ss),zs.map tb) s.2.1[i] t=A (0,O):=by
    simp only[j3D,j6P];by_cases h0:t<0
    .rw[j00 h0];rfl
    .rw[j01 h0,j00 (show t>8589934592 by omega)];rfl
   generalize s.2.1[i]=p at e0
   have e1:j3D ((zs,ps,cs,ss),zs.map tb) (p.1,p.2.1,(p.2.2.1.1,p.2.2.1.2),p.2.2.2.1,p.2.2.2.2.1,p.2.2.2.2.2.1,p.2.2.2.2.2.2.1,p.2.2.2.2.2.2.2.1,p.2.2.2.2.2.2.2.2) t=A (0,O):=e0;simp only[j1S];rw[e1];rfl)
  rw[jpQ _ (λi _=>by simp[jed])]at hL;exact⟨-1, -1,hL,λh1 h2=>absurd ⟨h1,h2⟩ ht,λ_=>⟨rfl,rfl⟩⟩
theorem jt7(hg:GOk zs ps cs){i:N}(hi:i<ss.length)(hs:SG zs ps cs ss[i]){t:j}(h0:0<=t)(h1:t<=8589934592) :
  jiz (zs,ps,cs,ss) (i:j) t=A (topN ss[i].2.2 t (pfX zs cs ss[i].2.1 t) ss[i].2.1.length,topP ss[i].2.2 t (pfX zs cs ss[i].2.1 t) ss[i].2.1.length):=by
 have hel:=hs.el;have hll:=hs.ll;have hgs:ss.getD i (D,[],[])=ss[i]:=by simp[G,hi]
 have lp:=jpN hg (ss:=ss) (nm:=ss[i].1) (es:=ss[i].2.2) omg_ omg_ hs.ly h0 h1 ss[i].2.1.length (Nat.le_refl _);simp only[jiz];rw[j1g];simp only[j4,j6,hgs,show W ss[i].2.1.length=(ss[i].2.1.length:j) from rfl];rw[j0d (x:=(ss[i].2.1.length:j)-1),lp];simp only[j0,topN,topP];cases topI (jed ss[i].2.2 t (pfX zs cs ss[i].2.1 t)) ss[i].2.1.length<;>rfl
end
structure CG(c:CfgT):Prop where
 g:GOk c.1 c.2.1 c.2.2.1
 chk:j03 c=A 0
 r8:j2L c=A 0
 sc:∀s∈c.2.2.2,SG c.1 c.2.1 c.2.2.1 s
 of:jeE c=A ((c,c.1.map tb),Z)
section
variable{o:j}{l:TrL}(h:TOk o l)
include h
end
section
variable{zs:m j0O}{ps:m j0r}{cs:m CalT}(hs:GOk zs ps cs)
include hs
end
def jt8(t p:j)(x:j0H):Int:=
 if t<x.2.2.2.1\/x.2.2.2.2<=t then p else if x.1=1 then x.2.1 else if x.1=2/\p=x.2.1 then x.2.2.1 else if x.1=2/\p=x.2.2.1 then x.2.1 else p
def jky(t:j):j->m j0H->j
 |p,[]=>p
 |p,x::r=>jky t (jt8 t p x) r
theorem jrN{es:m j0H}(hl:es.length<=100){t:j}:∀(n i:N)(p:j),i+n=es.length->jaN es p t (i:j)=A (jky t p (es.drop i))
 |0,i,p,hi=>by
  rw[jcC];simp(disch:=omega)only[j4Z,Ã,S0];rfl
 |n+1,i,p,hi=>by
  have hi':i<es.length:=omg_;have hgd:es.getD i (0,0,0,0,0)=es[i]:=by simp[G,hi']
  have ih:=λp=>jrN hl (t:=t) n (i+1) p omg_;rw[jcC];simp only[j4Z,show W es.length=(es.length:j) from rfl];rw[j00 omg_,j1g,j0d (x:=(i:j)+1),Á hi'];simp only[j4,j6,hgd,jky];generalize es[i]=x;unfold jt8;by_cases ha:t<x.2.2.2.1\/x.2.2.2.2<=t
  .rw[if_pos ha]
   have:cond (S (t<x.2.2.2.1)) Z (S (t>=x.2.2.2.2))=true:=by
    rcases ha with ha|ha
    .rw[j00 ha];rfl
    .simp(disch:=omega)only[S0];cases S (t<x.2.2.2.1)<;>rfl
   rw[this,j4,j08];exact ih p
  .rw[if_neg ha,j01 (show¬t<x.2.2.2.1 by omega),j01 (show¬t>=x.2.2.2.2 by omega)];simp only[j5];by_cases h1:x.1=1
   .rw[if_pos h1,j9g h1,j4,j08];exact ih _
   .rw[if_neg h1,j55 h1,j5];by_cases h2:x.1=2
    .rw[j9g h2];simp only[j4];by_cases h3:p=x.2.1
     .rw[if_pos ⟨h2,h3⟩,j9g h3,j4,j08];exact ih _
     .rw[if_neg (λh=>h3 h.2),j55 h3,j5];by_cases h4:p=x.2.2.1
      .rw[if_pos ⟨h2,h4⟩,j9g h4,j4,j08];exact ih _
      .rw[if_neg (λh=>h4 h.2),j55 h4,j5,j08];exact ih _
    .rw[if_neg (λh=>h2 h.1),if_neg (λh=>h2 h.1),j55 h2];simp only[j5,j08];exact ih _
theorem jpR{es:m j0H}(hl:es.length<=100){t:j}:∀(n i:N)(p:j),i+n=es.length->jbL p t es (es.length:j) (i:j)=A (jky t p (es.drop i))
 |0,i,p,hi=>by
  rw[jbM];simp(disch:=omega)only[j4s,Ã,S0];rfl
 |n+1,i,p,hi=>by
  have hi':i<es.length:=omg_;have hgd:es.getD i (0,0,0,0,0)=es[i]:=by simp[G,hi']
  have ih:=λp=>jpR hl (t:=t) n (i+1) p omg_;rw[jbM];simp only[j4s,j6q,j0];rw[j00 omg_,j1g,j0d (x:=(i:j)+1),Á hi'];simp only[j4,j6,hgd,jky];generalize es[i]=x;unfold jt8;by_cases ha:t<x.2.2.2.1\/x.2.2.2.2<=t
  .rw[if_pos ha]
   have:cond (S (x.2.2.2.1<=t)) (S (t<x.2.2.2.2)) O=false:=by
    rcases ha with ha|ha
    .rw[j01 (show¬x.2.2.2.1<=t by omega)];rfl
    .simp(disch:=omega)only[S0];cases S (x.2.2.2.1<=t)<;>rfl
   rw[this];simp only[Å,j4,j08];exact ih p
  .rw[if_neg ha,j00 (show x.2.2.2.1<=t by omega),j00 (show t<x.2.2.2.2 by omega)];simp only[j4,M,j5];by_cases h0:x.1=0
   .simp(disch:=omega)only[if_neg,S0];exact ih p
   rw[j55 h0,j5];by_cases h1:x.1=1
   .rw[if_pos h1,j9g h1,j4,j08];exact ih _
   .rw[if_neg h1,j55 h1,j5];by_cases h2:x.1=2
    .rw[show (x.1 != 2)=O by simp[h2],j5];by_cases h3:p=x.2.1
     .rw[if_pos ⟨h2,h3⟩,j9g h3,j4,j08];exact ih _
     .rw[if_neg (λh=>h3 h.2),j55 h3,j5];by_cases h4:p=x.2.2.1
      .rw[if_pos ⟨h2,h4⟩,j9g h4,j4,j08];exact ih _
      .rw[if_neg (λh=>h4 h.2),j55 h4,j5,j08];exact ih _
    .rw[if_neg (λh=>h2 h.1),if_neg (λh=>h2 h.1),show (x.1 != 2)=Z by simp[h2],j4,j08];exact ih _
section
variable{zs:m j0O}{ps:m j0r}{cs:m CalT}(hs:GOk zs ps cs)
include hs
end
section
variable{zs:m j0O}{ps:m j0r}{cs:m CalT}(hs:GOk zs ps cs)
include hs
end
theorem jmA{es:m j0H}(hl:es.length<=100){p t:j}:jbN es p t=A (jky t p es):=by
 have ef:=jpR hl (t:=t) es.length 0 p omg_;grind[jbN]
section
variable{es:m j0H}(hel:es.length<=100){K:m j}(hK:K.Pairwise (· < ·))(hKl:K.length<=64){a0 b:j}(hb:b∈K)(hin:∀x∈edB es,a0<x->x<b->x∈K)
include hel hK hKl hb hin
end
section
variable{zs:m j0O}{ps:m j0r}{cs:m CalT}(hs:GOk zs ps cs)
include hs
end
theorem j4P{α:Type}{l:m α}{i:N}(h:i<l.length):l.set i l[i]=l:=List.set_getElem_self h
theorem clZ{xs:m j0O}(h:xs.length<=1000):j0R xs=A xs:=by
 simp only[j0R,H,u];rw[j00 (by simp[j06];omega),j4]
theorem clP{xs:m j0r}(h:xs.length<=1000):j0E xs=A xs:=by
 simp only[j0E,H,u];rw[j00 (by simp[j06];omega),j4]
theorem clC{xs:m CalT}(h:xs.length<=1000):j0s xs=A xs:=by
 simp only[j0s,H,u];rw[j00 (by simp[j06];omega),j4]
theorem clS{xs:m j0q}(h:xs.length<=1000):j0t xs=A xs:=by
 simp only[j0t,H,u];rw[j00 (by simp[j06];omega),j4]
theorem clR{xs:m Rule}(h:xs.length<=1000):j0u xs=A xs:=by
 simp only[j0u,H,u];rw[j00 (by simp[j06];omega),j4]
theorem clW{xs:m (j×j)}(h:xs.length<=1000):j0a xs=A xs:=by
 simp only[j0a,H,u];rw[j00 (by simp[j06];omega),j4]
theorem clI{xs:m j}(h:xs.length<=1000):j0B xs=A xs:=by
 simp only[j0B,H,u];rw[j00 (by simp[j06];omega),j4]
theorem clL{xs:m j0c}(h:xs.length<=1000):j04 xs=A xs:=by
 simp only[j04,H,u];rw[j00 (by simp[j06];omega),j4]
theorem clE{xs:m j0H}(h:xs.length<=1000):j05 xs=A xs:=by
 simp only[j05,H,u];rw[j00 (by simp[j06];omega),j4]
structure Sht3(zs:m j0O)(ps:m j0r)(cs:m CalT):Prop where
 z:zs.length<=1000/\∀z∈zs,z.2.2.length<=1000
 p:ps.length<=1000/\∀p∈ps,p.2.2.1.length<=1000
 c:cs.length<=1000/\∀c∈cs,c.2.2.length<=1000
structure ShtS(s:j0q):Prop where
 l:s.2.1.length<=1000/\∀x∈s.2.1,x.2.2.2.2.2.1.length<=1000/\x.2.2.2.2.2.2.1.length<=1000
 e:s.2.2.length<=1000
section
variable{zs:m j0O}{ps:m j0r}{cs:m CalT}{ss:m j0q}
theorem jpS(hl:zs.length<=1000)(hr:∀z∈zs,z.2.2.length<=1000):∀n i:N,i+n=zs.length->jav (zs.length:j) (i:j) zs ps cs ss=A (zs,ps,cs,ss)
 |0,i,hi=>by
  rw[jbc];simp only[j3Y];rw[j01 omg_,j5,j0f]
 |n+1,i,hi=>by
  have hlt:i<zs.length:=omg_;have hgd:zs.getD i (D,0,[])=zs[i]:=by simp[G,hlt]
  have h0:=hr _ (B hlt);rw[jbc];simp only[j3Y];rw[j00 omg_,j1g,j0d (x:=(i:j)+1)];simp only[j4,j6,hgd,clR h0,j0,j4P hlt,j08];exact jpS hl hr n (i+1) omg_
theorem jpT(hl:ps.length<=1000)(hr:∀z∈ps,z.2.2.1.length<=1000):∀n i:N,i+n=ps.length->jaw (ps.length:j) (i:j) zs ps cs ss=A (zs,ps,cs,ss)
 |0,i,hi=>by
  rw[jbd];simp only[j3Z];rw[j01 omg_,j5,j0f]
 |n+1,i,hi=>by
  have hlt:i<ps.length:=omg_;have hgd:ps.getD i (D,0,[],0,0,O)=ps[i]:=by simp[G,hlt]
  have h0:=hr _ (B hlt);rw[jbd];simp only[j3Z];rw[j00 omg_,j1g,j0d (x:=(i:j)+1)];simp only[j4,j6,hgd,clW h0,j0,j4P hlt,j08];exact jpT hl hr n (i+1) omg_
theorem jpU(hl:cs.length<=1000)(hr:∀z∈cs,z.2.2.length<=1000):∀n i:N,i+n=cs.length->jax (cs.length:j) (i:j) zs ps cs ss=A (zs,ps,cs,ss)
 |0,i,hi=>by
  rw[jbe];simp only[j40];rw[j01 omg_,j5,j0f]
 |n+1,i,hi=>by
  have hlt:i<cs.length:=omg_;have hgd:cs.getD i (D,0,[])=cs[i]:=by simp[G,hlt]
  have h0:=hr _ (B hlt);rw[jbe];simp only[j40];rw[j00 omg_,j1g,j0d (x:=(i:j)+1)];simp only[j4,j6,hgd,clI h0,j0,j4P hlt,j08];exact jpU hl hr n (i+1) omg_
theorem jmB{l20c1:Tn61}(s84:j)(s85:j)(b20_1:E)(l1c0:Tn55)(l1c1:Tn49)(l1c2:Tn26)(l20c2:Tn29)(hl:l20c1.length<=1000)(hr:∀z∈l20c1,z.2.2.2.2.2.1.length<=1000/\z.2.2.2.2.2.2.1.length<=1000):∀n i:N,i+n=l20c1.length->jay s84 s85 (l20c1.length:j) (i:j) b20_1 l1c0 l1c1 l1c2 l20c1 l20c2=A (s84,s85,b20_1,l1c0,l1c1,l1c2,l20c1,l20c2)
 |0,i,hi=>by
  rw[jbf];simp only[j41];rw[j01 omg_,j5,j0f]
 |n+1,i,hi=>by
  have hlt:i<l20c1.length:=omg_;have hgd:l20c1.getD i (D,0,(0,0),0,0,[],[],0,0)=l20c1[i]:=by simp[G,hlt]
  have h0:=hr _ (B hlt);rw[jbf];simp only[j41];rw[j00 omg_,j1g,j0d (x:=(i:j)+1)];simp only[j4,j6,hgd,clI h0.1,clW h0.2,j0,j4P hlt,j2M (show (0:j)<=(i:j) by omega) (show (i:j)<(l20c1.length:j) by omega),j08];exact jmB s84 s85 b20_1 l1c0 l1c1 l1c2 l20c2 hl hr n (i+1) omg_
theorem jr4{n0:E}{l0:m j0c}{e0:m j0H}(h:Sht3 zs ps cs)(h0:ShtS (n0,l0,e0)):j8F (zs,ps,cs,[(n0,l0,e0)])=A (zs,ps,cs,n0,l0,e0):=by
 have w1:w64 ((0:j)+1)=1:=by rw[j0d];rfl
 have w2:w64 ((1:j)+1)=2:=by rw[j0d];rfl
 have w3:w64 ((2:j)+1)=3:=by rw[j0d];rfl
 have a0:=jpS (ps:=ps) (cs:=cs) (ss:=[(n0,l0,e0)]) h.z.1 h.z.2 zs.length 0 omg_;have a2:=jpT (zs:=zs) (cs:=cs) (ss:=[(n0,l0,e0)]) h.p.1 h.p.2 ps.length 0 omg_;have a4:=jpU (zs:=zs) (ps:=ps) (ss:=[(n0,l0,e0)]) h.c.1 h.c.2 cs.length 0 omg_;simp only[show ((0:N):j)=0 from rfl]at a0 a2 a4;have i1:∀n:N,W n=(n:j):=λ_=>rfl;simp only[j8F,clZ h.z.1,clP h.p.1,clC h.c.1,clS (xs:=[(n0,l0,e0)]) smp_,j0,i1,a0,a2,a4,F,u,Nat.beq,j4,Y,clL h0.l.1,clE h0.e];have b0:=λp0 p1 p2 p3 p4=>jmB 1 0 p0 p1 p2 p3 p4 (show l0.length<=1000 from h0.l.1) (show∀z∈l0,z.2.2.2.2.2.1.length<=1000/\z.2.2.2.2.2.2.1.length<=1000 from h0.l.2) l0.length 0 omg_;simp only[show ((0:N):j)=0 from rfl]at b0;simp only[b0,j0,w1,j01 (show¬(1:j)<1 by decide),j5]
theorem jpV(hl:zs.length<=1000)(hr:∀z∈zs,z.2.2.length<=1000):∀n i:N,i+n=zs.length->jaz (zs.length:j) (i:j) zs ps cs ss=A (zs,ps,cs,ss)
 |0,i,hi=>by
  rw[jbg];simp only[j42];rw[j01 omg_,j5,j0f]
 |n+1,i,hi=>by
  have hlt:i<zs.length:=omg_;have hgd:zs.getD i (D,0,[])=zs[i]:=by simp[G,hlt]
  have h0:=hr _ (B hlt);rw[jbg];simp only[j42];rw[j00 omg_,j1g,j0d (x:=(i:j)+1)];simp only[j4,j6,hgd,clR h0,j0,j4P hlt,j08];exact jpV hl hr n (i+1) omg_
theorem jpW(hl:ps.length<=1000)(hr:∀z∈ps,z.2.2.1.length<=1000):∀n i:N,i+n=ps.length->jaA (ps.length:j) (i:j) zs ps cs ss=A (zs,ps,cs,ss)
 |0,i,hi=>by
  rw[jbh];simp only[j43];rw[j01 omg_,j5,j0f]
 |n+1,i,hi=>by
  have hlt:i<ps.length:=omg_;have hgd:ps.getD i (D,0,[],0,0,O)=ps[i]:=by simp[G,hlt]
  have h0:=hr _ (B hlt);rw[jbh];simp only[j43];rw[j00 omg_,j1g,j0d (x:=(i:j)+1)];simp only[j4,j6,hgd,clW h0,j0,j4P hlt,j08];exact jpW hl hr n (i+1) omg_
theorem jpX(hl:cs.length<=1000)(hr:∀z∈cs,z.2.2.length<=1000):∀n i:N,i+n=cs.length->jaB (cs.length:j) (i:j) zs ps cs ss=A (zs,ps,cs,ss)
 |0,i,hi=>by
  rw[jbi];simp only[j44];rw[j01 omg_,j5,j0f]
 |n+1,i,hi=>by
  have hlt:i<cs.length:=omg_;have hgd:cs.getD i (D,0,[])=cs[i]:=by simp[G,hlt]
  have h0:=hr _ (B hlt);rw[jbi];simp only[j44];rw[j00 omg_,j1g,j0d (x:=(i:j)+1)];simp only[j4,j6,hgd,clI h0,j0,j4P hlt,j08];exact jpX hl hr n (i+1) omg_
theorem jmC{l20c1:Tn61}(s84:j)(s85:j)(b20_1:E)(b20_1_1:E)(b20_1_2:Tn61)(b20_1_3:Tn29)(l1c0:Tn55)(l1c1:Tn49)(l1c2:Tn26)(l20c2:Tn29)(hl:l20c1.length<=1000)(hr:∀z∈l20c1,z.2.2.2.2.2.1.length<=1000/\z.2.2.2.2.2.2.1.length<=1000):∀n i:N,i+n=l20c1.length->jaC s84 s85 (l20c1.length:j) (i:j) b20_1 b20_1_1 b20_1_2 b20_1_3 l1c0 l1c1 l1c2 l20c1 l20c2=A (s84,s85,b20_1,b20_1_1,b20_1_2,b20_1_3,l1c0,l1c1,l1c2,l20c1,l20c2)
 |0,i,hi=>by
  rw[jbj];simp only[j45];rw[j01 omg_,j5,j0f]
 |n+1,i,hi=>by
  have hlt:i<l20c1.length:=omg_;have hgd:l20c1.getD i (D,0,(0,0),0,0,[],[],0,0)=l20c1[i]:=by simp[G,hlt]
  have h0:=hr _ (B hlt);rw[jbj];simp only[j45];rw[j00 omg_,j1g,j0d (x:=(i:j)+1)];simp only[j4,j6,hgd,clI h0.1,clW h0.2,j0,j4P hlt,j2M (show (0:j)<=(i:j) by omega) (show (i:j)<(l20c1.length:j) by omega),j08];exact jmC s84 s85 b20_1 b20_1_1 b20_1_2 b20_1_3 l1c0 l1c1 l1c2 l20c2 hl hr n (i+1) omg_
theorem jmD{l20c4:Tn61}(s84:j)(s85:j)(b20_1:E)(b20_1_1:E)(l1c0:Tn55)(l1c1:Tn49)(l1c2:Tn26)(l20c1:Tn61)(l20c2:Tn29)(l20c5:Tn29)(hl:l20c4.length<=1000)(hr:∀z∈l20c4,z.2.2.2.2.2.1.length<=1000/\z.2.2.2.2.2.2.1.length<=1000):∀n i:N,i+n=l20c4.length->j6K s84 s85 (l20c4.length:j) (i:j) b20_1 b20_1_1 l1c0 l1c1 l1c2 l20c1 l20c2 l20c4 l20c5=A (s84,s85,b20_1,b20_1_1,l1c0,l1c1,l1c2,l20c1,l20c2,l20c4,l20c5)
 |0,i,hi=>by
  rw[j9t];simp only[j3n];rw[j01 omg_,j5,j0f]
 |n+1,i,hi=>by
  have hlt:i<l20c4.length:=omg_;have hgd:l20c4.getD i (D,0,(0,0),0,0,[],[],0,0)=l20c4[i]:=by simp[G,hlt]
  have h0:=hr _ (B hlt);rw[j9t];simp only[j3n];rw[j00 omg_,j1g,j0d (x:=(i:j)+1)];simp only[j4,j6,hgd,clI h0.1,clW h0.2,j0,j4P hlt,j2M (show (0:j)<=(i:j) by omega) (show (i:j)<(l20c4.length:j) by omega),j08];exact jmD s84 s85 b20_1 b20_1_1 l1c0 l1c1 l1c2 l20c1 l20c2 l20c5 hl hr n (i+1) omg_
theorem jr5{n0 n1:E}{l0 l1:m j0c}{e0 e1:m j0H}(h:Sht3 zs ps cs)(h0:ShtS (n0,l0,e0))(h1:ShtS (n1,l1,e1)):j8G (zs,ps,cs,[(n0,l0,e0),(n1,l1,e1)])=A (zs,ps,cs,n0,n1,l0,e0,l1,e1):=by
 have w1:w64 ((0:j)+1)=1:=by rw[j0d];rfl
 have w2:w64 ((1:j)+1)=2:=by rw[j0d];rfl
 have w3:w64 ((2:j)+1)=3:=by rw[j0d];rfl
 have a0:=jpV (ps:=ps) (cs:=cs) (ss:=[(n0,l0,e0),(n1,l1,e1)]) h.z.1 h.z.2 zs.length 0 omg_;have a2:=jpW (zs:=zs) (cs:=cs) (ss:=[(n0,l0,e0),(n1,l1,e1)]) h.p.1 h.p.2 ps.length 0 omg_;have a4:=jpX (zs:=zs) (ps:=ps) (ss:=[(n0,l0,e0),(n1,l1,e1)]) h.c.1 h.c.2 cs.length 0 omg_;simp only[show ((0:N):j)=0 from rfl]at a0 a2 a4;have i1:∀n:N,W n=(n:j):=λ_=>rfl;simp only[j8G,clZ h.z.1,clP h.p.1,clC h.c.1,clS (xs:=[(n0,l0,e0),(n1,l1,e1)]) smp_,j0,i1,a0,a2,a4,F,u,Nat.beq,j4,Y,Æ,clL h0.l.1,clE h0.e];have b0:=λp0 p1 p2 p3 p4 p5 p6 p7=>jmC 2 0 p0 p1 p2 p3 p4 p5 p6 p7 (show l0.length<=1000 from h0.l.1) (show∀z∈l0,z.2.2.2.2.2.1.length<=1000/\z.2.2.2.2.2.2.1.length<=1000 from h0.l.2) l0.length 0 omg_;simp only[show ((0:N):j)=0 from rfl]at b0;simp only[b0,j0,w1,j00 (show (1:j)<2 by decide),j4,j5,clL h1.l.1,clE h1.e,show ((1:j)==0)=O from rfl,show ((1:j)==1)=Z from rfl];have b1:=λp0 p1 p2 p3 p4 p5 p6 p7=>jmD 2 1 p0 p1 p2 p3 p4 p5 p6 p7 (show l1.length<=1000 from h1.l.1) (show∀z∈l1,z.2.2.2.2.2.1.length<=1000/\z.2.2.2.2.2.2.1.length<=1000 from h1.l.2) l1.length 0 omg_;simp only[show ((0:N):j)=0 from rfl]at b1;simp only[b1,j0,w2,j01 (show¬(2:j)<2 by decide),j5]
theorem jrO(hl:zs.length<=1000)(hr:∀z∈zs,z.2.2.length<=1000):∀n i:N,i+n=zs.length->jaD (zs.length:j) (i:j) zs ps cs ss=A (zs,ps,cs,ss)
 |0,i,hi=>by
  rw[jbk];simp only[j46];rw[j01 omg_,j5,j0f]
 |n+1,i,hi=>by
  have hlt:i<zs.length:=omg_;have hgd:zs.getD i (D,0,[])=zs[i]:=by simp[G,hlt]
  have h0:=hr _ (B hlt);rw[jbk];simp only[j46];rw[j00 omg_,j1g,j0d (x:=(i:j)+1)];simp only[j4,j6,hgd,clR h0,j0,j4P hlt,j08];exact jrO hl hr n (i+1) omg_
theorem jrP(hl:ps.length<=1000)(hr:∀z∈ps,z.2.2.1.length<=1000):∀n i:N,i+n=ps.length->jaE (ps.length:j) (i:j) zs ps cs ss=A (zs,ps,cs,ss)
 |0,i,hi=>by
  rw[jbl];simp only[j47];rw[j01 omg_,j5,j0f]
 |n+1,i,hi=>by
  have hlt:i<ps.length:=omg_;have hgd:ps.getD i (D,0,[],0,0,O)=ps[i]:=by simp[G,hlt]
  have h0:=hr _ (B hlt);rw[jbl];simp only[j47];rw[j00 omg_,j1g,j0d (x:=(i:j)+1)];simp only[j4,j6,hgd,clW h0,j0,j4P hlt,j08];exact jrP hl hr n (i+1) omg_
theorem jrQ(hl:cs.length<=1000)(hr:∀z∈cs,z.2.2.length<=1000):∀n i:N,i+n=cs.length->jaF (cs.length:j) (i:j) zs ps cs ss=A (zs,ps,cs,ss)
 |0,i,hi=>by
  rw[jbm];simp only[j48];rw[j01 omg_,j5,j0f]
 |n+1,i,hi=>by
  have hlt:i<cs.length:=omg_;have hgd:cs.getD i (D,0,[])=cs[i]:=by simp[G,hlt]
  have h0:=hr _ (B hlt);rw[jbm];simp only[j48];rw[j00 omg_,j1g,j0d (x:=(i:j)+1)];simp only[j4,j6,hgd,clI h0,j0,j4P hlt,j08];exact jrQ hl hr n (i+1) omg_
theorem jmE{l20c1:Tn61}(s84:j)(s85:j)(b20_1:E)(b20_1_1:E)(b20_1_2:Tn61)(b20_1_3:Tn29)(b20_1_4:E)(b20_1_5:Tn61)(b20_1_6:Tn29)(l1c0:Tn55)(l1c1:Tn49)(l1c2:Tn26)(l20c2:Tn29)(hl:l20c1.length<=1000)(hr:∀z∈l20c1,z.2.2.2.2.2.1.length<=1000/\z.2.2.2.2.2.2.1.length<=1000):∀n i:N,i+n=l20c1.length->j8s s84 s85 (l20c1.length:j) (i:j) b20_1 b20_1_1 b20_1_2 b20_1_3 b20_1_4 b20_1_5 b20_1_6 l1c0 l1c1 l1c2 l20c1 l20c2=A (s84,s85,b20_1,b20_1_1,b20_1_2,b20_1_3,b20_1_4,b20_1_5,b20_1_6,l1c0,l1c1,l1c2,l20c1,l20c2)
 |0,i,hi=>by
  rw[jbn];simp only[j49];rw[j01 omg_,j5,j0f]
 |n+1,i,hi=>by
  have hlt:i<l20c1.length:=omg_;have hgd:l20c1.getD i (D,0,(0,0),0,0,[],[],0,0)=l20c1[i]:=by simp[G,hlt]
  have h0:=hr _ (B hlt);rw[jbn];simp only[j49];rw[j00 omg_,j1g,j0d (x:=(i:j)+1)];simp only[j4,j6,hgd,clI h0.1,clW h0.2,j0,j4P hlt,j2M (show (0:j)<=(i:j) by omega) (show (i:j)<(l20c1.length:j) by omega),j08];exact jmE s84 s85 b20_1 b20_1_1 b20_1_2 b20_1_3 b20_1_4 b20_1_5 b20_1_6 l1c0 l1c1 l1c2 l20c2 hl hr n (i+1) omg_
theorem jmF{l20c4:Tn61}(s84:j)(s85:j)(b20_1:E)(b20_1_1:E)(b20_1_2:E)(b20_1_3:Tn61)(b20_1_4:Tn29)(l1c0:Tn55)(l1c1:Tn49)(l1c2:Tn26)(l20c1:Tn61)(l20c2:Tn29)(l20c5:Tn29)(hl:l20c4.length<=1000)(hr:∀z∈l20c4,z.2.2.2.2.2.1.length<=1000/\z.2.2.2.2.2.2.1.length<=1000):∀n i:N,i+n=l20c4.length->j6L s84 s85 (l20c4.length:j) (i:j) b20_1 b20_1_1 b20_1_2 b20_1_3 b20_1_4 l1c0 l1c1 l1c2 l20c1 l20c2 l20c4 l20c5=A (s84,s85,b20_1,b20_1_1,b20_1_2,b20_1_3,b20_1_4,l1c0,l1c1,l1c2,l20c1,l20c2,l20c4,l20c5)
 |0,i,hi=>by
  rw[j9u];simp only[j3o];rw[j01 omg_,j5,j0f]
 |n+1,i,hi=>by
  have hlt:i<l20c4.length:=omg_;have hgd:l20c4.getD i (D,0,(0,0),0,0,[],[],0,0)=l20c4[i]:=by simp[G,hlt]
  have h0:=hr _ (B hlt);rw[j9u];simp only[j3o];rw[j00 omg_,j1g,j0d (x:=(i:j)+1)];simp only[j4,j6,hgd,clI h0.1,clW h0.2,j0,j4P hlt,j2M (show (0:j)<=(i:j) by omega) (show (i:j)<(l20c4.length:j) by omega),j08];exact jmF s84 s85 b20_1 b20_1_1 b20_1_2 b20_1_3 b20_1_4 l1c0 l1c1 l1c2 l20c1 l20c2 l20c5 hl hr n (i+1) omg_
theorem jmG{l20c7:Tn61}(s84:j)(s85:j)(b20_1:E)(b20_1_1:E)(b20_1_2:E)(l1c0:Tn55)(l1c1:Tn49)(l1c2:Tn26)(l20c1:Tn61)(l20c2:Tn29)(l20c4:Tn61)(l20c5:Tn29)(l20c8:Tn29)(hl:l20c7.length<=1000)(hr:∀z∈l20c7,z.2.2.2.2.2.1.length<=1000/\z.2.2.2.2.2.2.1.length<=1000):∀n i:N,i+n=l20c7.length->j6M s84 s85 (l20c7.length:j) (i:j) b20_1 b20_1_1 b20_1_2 l1c0 l1c1 l1c2 l20c1 l20c2 l20c4 l20c5 l20c7 l20c8=A (s84,s85,b20_1,b20_1_1,b20_1_2,l1c0,l1c1,l1c2,l20c1,l20c2,l20c4,l20c5,l20c7,l20c8)
 |0,i,hi=>by
  rw[j9v];simp only[j3p];rw[j01 omg_,j5,j0f]
 |n+1,i,hi=>by
  have hlt:i<l20c7.length:=omg_;have hgd:l20c7.getD i (D,0,(0,0),0,0,[],[],0,0)=l20c7[i]:=by simp[G,hlt]
  have h0:=hr _ (B hlt);rw[j9v];simp only[j3p];rw[j00 omg_,j1g,j0d (x:=(i:j)+1)];simp only[j4,j6,hgd,clI h0.1,clW h0.2,j0,j4P hlt,j2M (show (0:j)<=(i:j) by omega) (show (i:j)<(l20c7.length:j) by omega),j08];exact jmG s84 s85 b20_1 b20_1_1 b20_1_2 l1c0 l1c1 l1c2 l20c1 l20c2 l20c4 l20c5 l20c8 hl hr n (i+1) omg_
theorem jr6{n0 n1 n2:E}{l0 l1 l2:m j0c}{e0 e1 e2:m j0H}(h:Sht3 zs ps cs)(h0:ShtS (n0,l0,e0))(h1:ShtS (n1,l1,e1))(h2:ShtS (n2,l2,e2)):jcf (zs,ps,cs,[(n0,l0,e0),(n1,l1,e1),(n2,l2,e2)])=A (zs,ps,cs,n0,n1,n2,l0,e0,l1,e1,l2,e2):=by
 have w1:w64 ((0:j)+1)=1:=by rw[j0d];rfl
 have w2:w64 ((1:j)+1)=2:=by rw[j0d];rfl
 have w3:w64 ((2:j)+1)=3:=by rw[j0d];rfl
 have a0:=jrO (ps:=ps) (cs:=cs) (ss:=[(n0,l0,e0),(n1,l1,e1),(n2,l2,e2)]) h.z.1 h.z.2 zs.length 0 omg_;have a2:=jrP (zs:=zs) (cs:=cs) (ss:=[(n0,l0,e0),(n1,l1,e1),(n2,l2,e2)]) h.p.1 h.p.2 ps.length 0 omg_;have a4:=jrQ (zs:=zs) (ps:=ps) (ss:=[(n0,l0,e0),(n1,l1,e1),(n2,l2,e2)]) h.c.1 h.c.2 cs.length 0 omg_;simp only[show ((0:N):j)=0 from rfl]at a0 a2 a4;have i1:∀n:N,W n=(n:j):=λ_=>rfl;simp only[jcf,clZ h.z.1,clP h.p.1,clC h.c.1,clS (xs:=[(n0,l0,e0),(n1,l1,e1),(n2,l2,e2)]) smp_,j0,i1,a0,a2,a4,F,u,Nat.beq,j4,Y,Æ,clL h0.l.1,clE h0.e];have b0:=λp0 p1 p2 p3 p4 p5 p6 p7 p8 p9 p10=>jmE 3 0 p0 p1 p2 p3 p4 p5 p6 p7 p8 p9 p10 (show l0.length<=1000 from h0.l.1) (show∀z∈l0,z.2.2.2.2.2.1.length<=1000/\z.2.2.2.2.2.2.1.length<=1000 from h0.l.2) l0.length 0 omg_;simp only[show ((0:N):j)=0 from rfl]at b0;simp only[b0,j0,w1,j00 (show (1:j)<3 by decide),j4,j5,clL h1.l.1,clE h1.e,show ((1:j)==0)=O from rfl,show ((1:j)==1)=Z from rfl];have b1:=λp0 p1 p2 p3 p4 p5 p6 p7 p8 p9 p10=>jmF 3 1 p0 p1 p2 p3 p4 p5 p6 p7 p8 p9 p10 (show l1.length<=1000 from h1.l.1) (show∀z∈l1,z.2.2.2.2.2.1.length<=1000/\z.2.2.2.2.2.2.1.length<=1000 from h1.l.2) l1.length 0 omg_;simp only[show ((0:N):j)=0 from rfl]at b1;simp only[b1,j0,w2,j00 (show (2:j)<3 by decide),j4,j5,clL h2.l.1,clE h2.e,show ((2:j)==0)=O from rfl,show ((2:j)==1)=O from rfl,show ((2:j)==2)=Z from rfl]
 have b2:=λp0 p1 p2 p3 p4 p5 p6 p7 p8 p9 p10=>jmG 3 2 p0 p1 p2 p3 p4 p5 p6 p7 p8 p9 p10 (show l2.length<=1000 from h2.l.1) (show∀z∈l2,z.2.2.2.2.2.1.length<=1000/\z.2.2.2.2.2.2.1.length<=1000 from h2.l.2) l2.length 0 omg_;simp only[show ((0:N):j)=0 from rfl]at b2;simp only[b2,j0,w3,j01 (show¬(3:j)<3 by decide),j5]
end
theorem jh9{α:Type}{a b:J α}{x:α}(h:a=A x):orF a b=A x:=by rw[h];rfl
theorem jiY{α:Type}{a b:J α}(h:a=È):orF a b=b:=by rw[h];rfl
theorem jt9{α R:Type}{a:J α}{f:α->J R}{b:J R}{x:α}(h:a=A x):orB a f b=f x:=by rw[h];rfl
theorem j99{α R:Type}{a:J α}{f:α->J R}{b:J R}(h:a=È):orB a f b=b:=by rw[h];rfl
abbrev Z0:CfgT:=(([]:m j0O),([]:m j0r),([]:m CalT),([]:m j0q))
section
variable{zs:m j0O}{ps:m j0r}{cs:m CalT}{ss:m j0q}{i:j}
theorem jhS(h:0<=i/\i<(ss.length:j)):j2Q (zs,ps,cs,ss) i=A true:=by
 simp only[j2Q,show W ss.length=(ss.length:j) from rfl];rw[j00 (show i>=0 by omega),j00 h.2,j4]
theorem jrR(h:¬(0<=i/\i<(ss.length:j))):j2Q (zs,ps,cs,ss) i=A false:=by
 simp only[j2Q,show W ss.length=(ss.length:j) from rfl];by_cases h0:0<=i
 .rw[j00 (show i>=0 by omega),j01 omg_,j4]
 .rw[j01 (show¬i>=0 by omega),j5]
theorem opE8{e:j}(hk:j03 (zs,ps,cs,ss)=A e)(he:e≠0):j3E (zs,ps,cs,ss) i=A (Z0,8):=by
 simp only[j3E,hk,j0];rw[show (e != 0)=Z by simpa using he,j4]
theorem opE3(hk:j03 (zs,ps,cs,ss)=A 0)(h:¬(0<=i/\i<(ss.length:j))):j3E (zs,ps,cs,ss) i=A (Z0,3):=by
 simp only[j3E,hk,j0,bne_self_eq_false,j5,jrR h,Å,j4]
theorem opEn(hk:j03 (zs,ps,cs,ss)=A 0)(h:0<=i/\i<(ss.length:j)):j3E (zs,ps,cs,ss) i=none:=by
 simp only[j3E,hk,j0,bne_self_eq_false,j5,jhS h,M]
theorem jr7(h:Sht3 zs ps cs)(hs:ss.length<=1000)(hm:ss.length≠1):j8F (zs,ps,cs,ss)=none:=by
 have a0:=jpS (ps:=ps) (cs:=cs) (ss:=ss) h.z.1 h.z.2 zs.length 0 omg_;have a2:=jpT (zs:=zs) (cs:=cs) (ss:=ss) h.p.1 h.p.2 ps.length 0 omg_;have a4:=jpU (zs:=zs) (ps:=ps) (ss:=ss) h.c.1 h.c.2 cs.length 0 omg_;simp only[show ((0:N):j)=0 from rfl]at a0 a2 a4;have i1:∀n:N,W n=(n:j):=λ_=>rfl;simp only[j8F,clZ h.z.1,clP h.p.1,clC h.c.1,clS hs,j0,i1,a0,a2,a4];rw[beqF hm,j5]
theorem op18{e:j}(hk:j03 (zs,ps,cs,ss)=A e)(he:e≠0):j4q (zs,ps,cs,ss) i=none:=by
 simp only[j4q,hk,j0];rw[show (e != 0)=Z by simpa using he,j4]
theorem op13(hk:j03 (zs,ps,cs,ss)=A 0)(h:¬(0<=i/\i<(ss.length:j))):j4q (zs,ps,cs,ss) i=none:=by
 simp only[j4q,hk,j0,bne_self_eq_false,j5,jrR h,Å,j4]
theorem jrS(hk:j03 (zs,ps,cs,ss)=A 0)(hi:0<=i/\i<(ss.length:j))(h:Sht3 zs ps cs)(hs:ss.length<=1000)(hm:ss.length≠1):j4q (zs,ps,cs,ss) i=none:=by
 simp only[j4q,hk,j0,bne_self_eq_false,j5,jhS hi,M,jr7 h hs hm,I]
theorem jpY{n0:E}{l0:m j0c}{e0:m j0H}(hk:j03 (zs,ps,cs,[(n0,l0,e0)])=A 0)(hi:0<=i/\i<(([(n0,l0,e0)]:m j0q).length:j))(h:Sht3 zs ps cs)(h0:ShtS (n0,l0,e0)):j4q (zs,ps,cs,[(n0,l0,e0)]) i=A (0,zs,ps,cs,n0,l0,e0):=by
 simp only[j4q,hk,j0,bne_self_eq_false,j5,jhS hi,M,jr4 h h0]
theorem ap18{e:j}(hk:j03 (zs,ps,cs,ss)=A e)(he:e≠0)(x:j0H):j3M (zs,ps,cs,ss) i x=A (Z0,8):=by
 simp only[j3M,j99 (op18 (i:=i) hk he),opE8 (i:=i) hk he,j0];rfl
theorem ap13(hk:j03 (zs,ps,cs,ss)=A 0)(h:¬(0<=i/\i<(ss.length:j)))(x:j0H):j3M (zs,ps,cs,ss) i x=A (Z0,3):=by
 simp only[j3M,j99 (op13 hk h),opE3 hk h,j0];rfl
theorem jrT(hk:j03 (zs,ps,cs,ss)=A 0)(hi:0<=i/\i<(ss.length:j))(h:Sht3 zs ps cs)(hs:ss.length<=1000)(hm:ss.length≠1)(x:j0H):j3M (zs,ps,cs,ss) i x=none:=by
 simp only[j3M,j99 (jrS hk hi h hs hm),opEn hk hi,I]
theorem ca18{e:j}(hk:j03 (zs,ps,cs,ss)=A e)(he:e≠0)(x:j):j2A (zs,ps,cs,ss) i x=A (Z0,8):=by
 simp only[j2A,j99 (op18 (i:=i) hk he),opE8 (i:=i) hk he,j0];rfl
theorem ca13(hk:j03 (zs,ps,cs,ss)=A 0)(h:¬(0<=i/\i<(ss.length:j)))(x:j):j2A (zs,ps,cs,ss) i x=A (Z0,3):=by
 simp only[j2A,j99 (op13 hk h),opE3 hk h,j0];rfl
theorem jmH(hk:j03 (zs,ps,cs,ss)=A 0)(hi:0<=i/\i<(ss.length:j))(h:Sht3 zs ps cs)(hs:ss.length<=1000)(hm:ss.length≠1)(x:j):j2A (zs,ps,cs,ss) i x=none:=by
 simp only[j2A,j99 (jrS hk hi h hs hm),opEn hk hi,I]
theorem jta{n0:E}{l0:m j0c}{e0:m j0H}{x:j0H}{e:j}(hk:j03 (zs,ps,cs,[(n0,l0,e0)])=A 0)(h:Sht3 zs ps cs)(h0:ShtS (n0,l0,e0))(hk2:j03 (zs,ps,cs,[(n0,l0,e0++[x])])=A e) :
  j3M (zs,ps,cs,[(n0,l0,e0)]) 0 x=cond (e != 0) (A (Z0,e)) (A ((zs,ps,cs,[(n0,l0,e0++[x])]),0)):=by
 have hi:(0:j)<=0/\(0:j)<(([(n0,l0,e0)]:m j0q).length:j):=⟨omg_,by simp only[F,u];omega⟩;have hz:S (e0.length+[(x.1,x.2.1,x.2.2.1,x.2.2.2.1,x.2.2.2.2)].length<=j06)=true:=j00 (by have:=h0.e;simp only[j06,F,u];dsimp only at this;omega);simp only[j3M,jt9 (jpY hk hi h h0),bne_self_eq_false,j5,j2M (show (0:j)<=0 by omega) (show (0:j)<((1:N):j) by omega),j4,hz,hk2,j0]
theorem jr8(h:Sht3 zs ps cs)(hs:ss.length<=1000)(hm:ss.length≠2):j8G (zs,ps,cs,ss)=none:=by
 have a0:=jpV (ps:=ps) (cs:=cs) (ss:=ss) h.z.1 h.z.2 zs.length 0 omg_;have a2:=jpW (zs:=zs) (cs:=cs) (ss:=ss) h.p.1 h.p.2 ps.length 0 omg_;have a4:=jpX (zs:=zs) (ps:=ps) (ss:=ss) h.c.1 h.c.2 cs.length 0 omg_;simp only[show ((0:N):j)=0 from rfl]at a0 a2 a4;have i1:∀n:N,W n=(n:j):=λ_=>rfl;simp only[j8G,clZ h.z.1,clP h.p.1,clC h.c.1,clS hs,j0,i1,a0,a2,a4];rw[beqF hm,j5]
theorem jrU(hk:j03 (zs,ps,cs,ss)=A 0)(hi:0<=i/\i<(ss.length:j))(h:Sht3 zs ps cs)(hs:ss.length<=1000)(hm:ss.length≠2):j7s (zs,ps,cs,ss) i=none:=by
 simp only[j7s,hk,j0,bne_self_eq_false,j5,jhS hi,M,jr8 h hs hm,I]
theorem jhT{n0 n1:E}{l0 l1:m j0c}{e0 e1:m j0H}(hk:j03 (zs,ps,cs,[(n0,l0,e0),(n1,l1,e1)])=A 0)(hi:0<=i/\i<(([(n0,l0,e0),(n1,l1,e1)]:m j0q).length:j))(h:Sht3 zs ps cs)(h0:ShtS (n0,l0,e0))(h1:ShtS (n1,l1,e1)):j7s (zs,ps,cs,[(n0,l0,e0),(n1,l1,e1)]) i=A (0,zs,ps,cs,n0,n1,l0,e0,l1,e1):=by
 simp only[j7s,hk,j0,bne_self_eq_false,j5,jhS hi,M,jr5 h h0 h1]
theorem jur(hk:j03 (zs,ps,cs,ss)=A 0)(hi:0<=i/\i<(ss.length:j))(h:Sht3 zs ps cs)(hs:ss.length<=1000)(hm:ss.length≠2)(x:j0H):j4l (zs,ps,cs,ss) i x=none:=by
 simp only[j4l,j99 (opEn hk hi),jrU hk hi h hs hm,I]
theorem jrV(hk:j03 (zs,ps,cs,ss)=A 0)(hi:0<=i/\i<(ss.length:j))(h:Sht3 zs ps cs)(hs:ss.length<=1000)(hm:ss.length≠2)(x:j):j2B (zs,ps,cs,ss) i x=none:=by
 simp only[j2B,j99 (opEn hk hi),jrU hk hi h hs hm,I]
theorem jtb{n0 n1:E}{l0 l1:m j0c}{e0 e1:m j0H}{x:j0H}{e:j}(hk:j03 (zs,ps,cs,[(n0,l0,e0),(n1,l1,e1)])=A 0)(h:Sht3 zs ps cs)(h0:ShtS (n0,l0,e0))(h1:ShtS (n1,l1,e1))(hk2:j03 (zs,ps,cs,[(n0,l0,e0++[x]),(n1,l1,e1)])=A e) :
  j4l (zs,ps,cs,[(n0,l0,e0),(n1,l1,e1)]) 0 x=cond (e != 0) (A (Z0,e)) (A ((zs,ps,cs,[(n0,l0,e0++[x]),(n1,l1,e1)]),0)):=by
 have hi:(0:j)<=0/\(0:j)<(([(n0,l0,e0),(n1,l1,e1)]:m j0q).length:j):=⟨omg_,by simp only[F,u];omega⟩;have hz:S (e0.length+[(x.1,x.2.1,x.2.2.1,x.2.2.2.1,x.2.2.2.2)].length<=j06)=true:=j00 (by have:=h0.e;simp only[j06,F,u];dsimp only at this;omega);simp only[j4l,j99 (opEn hk hi),jhT hk hi h h0 h1,j0,bne_self_eq_false,j5,show ((0:j)==0)=Z from rfl,j4,hz,hk2,j0]
theorem jtc{n0 n1:E}{l0 l1:m j0c}{e0 e1:m j0H}{x:j0H}{e:j}(hk:j03 (zs,ps,cs,[(n0,l0,e0),(n1,l1,e1)])=A 0)(h:Sht3 zs ps cs)(h0:ShtS (n0,l0,e0))(h1:ShtS (n1,l1,e1))(hk2:j03 (zs,ps,cs,[(n0,l0,e0),(n1,l1,e1++[x])])=A e) :
  j4l (zs,ps,cs,[(n0,l0,e0),(n1,l1,e1)]) 1 x=cond (e != 0) (A (Z0,e)) (A ((zs,ps,cs,[(n0,l0,e0),(n1,l1,e1++[x])]),0)):=by
 have hi:(0:j)<=1/\(1:j)<(([(n0,l0,e0),(n1,l1,e1)]:m j0q).length:j):=⟨omg_,by simp only[F,u];omega⟩;have hz:S (e1.length+[(x.1,x.2.1,x.2.2.1,x.2.2.2.1,x.2.2.2.2)].length<=j06)=true:=j00 (by have:=h1.e;simp only[j06,F,u];dsimp only at this;omega);simp only[j4l,j99 (opEn hk hi),jhT hk hi h h0 h1,j0,bne_self_eq_false,j5,show ((1:j)==0)=O from rfl,show ((1:j)==1)=Z from rfl,j4,hz,hk2,j0]
theorem jee{n0 n1 n2:E}{l0 l1 l2:m j0c}{e0 e1 e2:m j0H}(hk:j03 (zs,ps,cs,[(n0,l0,e0),(n1,l1,e1),(n2,l2,e2)])=A 0)(hi:0<=i/\i<(([(n0,l0,e0),(n1,l1,e1),(n2,l2,e2)]:m j0q).length:j))(h:Sht3 zs ps cs)(h0:ShtS (n0,l0,e0))(h1:ShtS (n1,l1,e1))(h2:ShtS (n2,l2,e2)):ja8 (zs,ps,cs,[(n0,l0,e0),(n1,l1,e1),(n2,l2,e2)]) i=A (0,zs,ps,cs,n0,n1,n2,l0,e0,l1,e1,l2,e2):=by
 simp only[ja8,hk,j0,bne_self_eq_false,j5,jhS hi,M,jr6 h h0 h1 h2]
theorem jtd{n0 n1 n2:E}{l0 l1 l2:m j0c}{e0 e1 e2:m j0H}{x:j0H}{e:j}(hk:j03 (zs,ps,cs,[(n0,l0,e0),(n1,l1,e1),(n2,l2,e2)])=A 0)(h:Sht3 zs ps cs)(h0:ShtS (n0,l0,e0))(h1:ShtS (n1,l1,e1))(h2:ShtS (n2,l2,e2))(hk2:j03 (zs,ps,cs,[(n0,l0,e0++[x]),(n1,l1,e1),(n2,l2,e2)])=A e) :
  j5y (zs,ps,cs,[(n0,l0,e0),(n1,l1,e1),(n2,l2,e2)]) 0 x=cond (e != 0) (A (Z0,e)) (A ((zs,ps,cs,[(n0,l0,e0++[x]),(n1,l1,e1),(n2,l2,e2)]),0)):=by
 have hi:(0:j)<=0/\(0:j)<(([(n0,l0,e0),(n1,l1,e1),(n2,l2,e2)]:m j0q).length:j):=⟨omg_,by simp only[F,u];omega⟩;have hz:S (e0.length+[(x.1,x.2.1,x.2.2.1,x.2.2.2.1,x.2.2.2.2)].length<=j06)=true:=j00 (by have:=h0.e;simp only[j06,F,u];dsimp only at this;omega);simp only[j5y,j99 (opEn hk hi),jee hk hi h h0 h1 h2,j0,bne_self_eq_false,j5,show ((0:j)==0)=Z from rfl,j4,hz,hk2,j0]
theorem jte{n0 n1 n2:E}{l0 l1 l2:m j0c}{e0 e1 e2:m j0H}{x:j0H}{e:j}(hk:j03 (zs,ps,cs,[(n0,l0,e0),(n1,l1,e1),(n2,l2,e2)])=A 0)(h:Sht3 zs ps cs)(h0:ShtS (n0,l0,e0))(h1:ShtS (n1,l1,e1))(h2:ShtS (n2,l2,e2))(hk2:j03 (zs,ps,cs,[(n0,l0,e0),(n1,l1,e1++[x]),(n2,l2,e2)])=A e) :
  j5y (zs,ps,cs,[(n0,l0,e0),(n1,l1,e1),(n2,l2,e2)]) 1 x=cond (e != 0) (A (Z0,e)) (A ((zs,ps,cs,[(n0,l0,e0),(n1,l1,e1++[x]),(n2,l2,e2)]),0)):=by
 have hi:(0:j)<=1/\(1:j)<(([(n0,l0,e0),(n1,l1,e1),(n2,l2,e2)]:m j0q).length:j):=⟨omg_,by simp only[F,u];omega⟩;have hz:S (e1.length+[(x.1,x.2.1,x.2.2.1,x.2.2.2.1,x.2.2.2.2)].length<=j06)=true:=j00 (by have:=h1.e;simp only[j06,F,u];dsimp only at this;omega);simp only[j5y,j99 (opEn hk hi),jee hk hi h h0 h1 h2,j0,bne_self_eq_false,j5,show ((1:j)==0)=O from rfl,show ((1:j)==1)=Z from rfl,j4,hz,hk2,j0]
theorem jtf{n0 n1 n2:E}{l0 l1 l2:m j0c}{e0 e1 e2:m j0H}{x:j0H}{e:j}(hk:j03 (zs,ps,cs,[(n0,l0,e0),(n1,l1,e1),(n2,l2,e2)])=A 0)(h:Sht3 zs ps cs)(h0:ShtS (n0,l0,e0))(h1:ShtS (n1,l1,e1))(h2:ShtS (n2,l2,e2))(hk2:j03 (zs,ps,cs,[(n0,l0,e0),(n1,l1,e1),(n2,l2,e2++[x])])=A e) :
  j5y (zs,ps,cs,[(n0,l0,e0),(n1,l1,e1),(n2,l2,e2)]) 2 x=cond (e != 0) (A (Z0,e)) (A ((zs,ps,cs,[(n0,l0,e0),(n1,l1,e1),(n2,l2,e2++[x])]),0)):=by
 have hi:(0:j)<=2/\(2:j)<(([(n0,l0,e0),(n1,l1,e1),(n2,l2,e2)]:m j0q).length:j):=⟨omg_,by simp only[F,u];omega⟩;have hz:S (e2.length+[(x.1,x.2.1,x.2.2.1,x.2.2.2.1,x.2.2.2.2)].length<=j06)=true:=j00 (by have:=h2.e;simp only[j06,F,u];dsimp only at this;omega);simp only[j5y,j99 (opEn hk hi),jee hk hi h h0 h1 h2,j0,bne_self_eq_false,j5,show ((2:j)==0)=O from rfl,show ((2:j)==1)=O from rfl,show ((2:j)==2)=Z from rfl,j4,hz,hk2,j0]
end
end Go.Proofs.Pw
