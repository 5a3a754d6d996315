/- stack.SegmentsOf: its jlV form. -/
import Derived.Test.YtmccfdihkphfaaaGreatLIPH
import Derived.Test.YtmccfdihkphfaaaGreatLIPF
import Derived.Test.YtmccfdihkphfaaaGreatLIPE
import Derived.Test.YtmccfdihkphfaaaGreatLIPC
import Derived.Test.YtmccfdihkphfaaaGreatLILS
open _root_ renaming List->D,Int->G,Nat->N,ByteArray->U,Option->Á,Bool->Ú
open Decidable renaming decide->H
open List renaming drop_eq_getElem_cons->I,drop_of_length_le->K,getElem_mem->R,getD->X,length_append->À,take_add_one->Â,mem_or_eq_of_mem_set->Ã,mem_append_right->Å,length_cons->Æ,mem_cons->Ç,drop_zero->É,getD_eq_getElem?_getD->Ë,getElem?_eq_getElem->Î,length_nil->Ð,length_replicate->Ó,mem_append_left->Õ,drop_set_of_lt->Ö,take_set_of_le->Ø,filter_eq_self->Ù,any_eq_true->Û,nil_append->Ü,nodup_nil->ß,drop_drop->à,drop->ä
open Option renaming some->J,none->Ý
open ByteArray renaming empty->M
open Int renaming ofNat->Ä,ofNat_eq_natCast->È
open Bool renaming true->Ê,and_eq_true->Ï,false->Ò,not_false->Þ,true_and->á,not_true->â
open List.Pairwise renaming imp_of_mem->Í,nil->ã
open Nat renaming le_refl->Ñ,pow_le_pow_right->Ô
open Go Go.Lft
namespace Go.Proofs.Pw
def Gi(gd:N->Ú)(len:N):N->Á N
 |0=>Ý
 |m+1=>match Gi gd len m with
  |some i=>J i
  |none=>cond (gd (len-m-1)) (J (len-m-1)) Ý
theorem jy2(gd:N->Ú)(len:N):∀m,m<=len->topI gd len=match Gi gd len m with
  |some i=>J i
  |none=>topI gd (len-m)
 |0,_=>rfl
 |m+1,h=>by
  rw[jy2 gd len m omg_];simp only[Gi];cases Gi gd len m with
  |some i=>rfl
  |none=>
   dsimp only
   rw[show len-m=(len-m-1)+1 by omega,topI,show len-(m+1)=len-m-1 by omega,show len-m-1+1-1=len-m-1 by omega];cases gd (len-m-1)<;>rfl
def Wv(gd:N->Ú)(pf:N->G)(len m:N):Á Int:=(Gi gd len m).map pf
theorem jsB(gd:N->Ú)(pf:N->G)(len m:N):Wv gd pf len (m+1)=match Wv gd pf len m with
  |some p=>J p
  |none=>cond (gd (len-m-1)) (J (pf (len-m-1))) none:=by
 grind[Wv,Gi]
theorem jB5(es:D j3b)(t:G)(pf:N->G)(len:N):topP es t pf len=(Wv (jb8 es t pf) pf len len).getD (-1):=by
 simp only[topP,Wv,jy2 (jb8 es t pf) len len (Ñ _)];grind[topI]
theorem jCH:Go.Sort.SWO (Go.Proofs.ltOf λ(x y:Go.Lft.Sml (.pair (.int .i64) (.pair (.int .i64) (.int .i64))))=>(j42 x.1 y.1).getD 0):=by
 refine joT (λx=>x.1.1) (λx=>?_) _ λx y=>rfl;grind[j5O]
theorem jvj{l:SgL}(hl:l.length<=1000000000)(hb:∀x∈l, -1000000000000<=x.1/\x.1<=1000000000000 /\ -1000000000000<=x.2.1/\x.2.1<=1000000000000 /\ -1000000000000<=x.2.2/\x.2.2<=1000000000000) :
  ∃L,j0C l=J L/\L.Perm l/\L.Pairwise (λx y=>x.1<=y.1):=by
 obtain⟨L,e,hp,hs⟩:=joR (a:= .pair (.int .i64) (.pair (.int .i64) (.int .i64))) (cf:=λx y=>(j42 x y).getD 0) jCH (xs:=l) (λx hx=>by
  grind[j5O]) omg_
 refine⟨L,e,hp,?_⟩;refine Í (λ{x y} hx hy h=>?_) hs;have h1:=hb x (hp.mem_iff.1 hx);have h2:=hb y (hp.mem_iff.1 hy);have h':¬w64 (y.1-x.1)<0:=h;grind[j24]
theorem jEn{F:SL}(hF:F.length<=10000000):∀(n i:N)(acc:SgL),i+n=F.length->acc.length+n<=1000000000->j79 (F.length:G) (i:G) F acc=J (acc++(F.drop i).map λu=>(u.1,u.2, -1))
 |0,i,acc,hi,_=>by
  grind[jaI,j33,S0]
 |n+1,i,acc,hi,ha=>by
  have hi':i<F.length:=omg_;have hgd:F.getD i (0,0)=F[i]:=by simp[X,hi']
  rw[jaI];simp(disch:=omega)only[j33,I hi',S0];have:=jEn hF n (i+1) (acc++[(F[i].1,F[i].2, -1)]) omg_ sqo_;grind
def apart(x y:SgT):Prop:=x.2.1<=y.1\/y.2.1<=x.1
section
variable{zs:D j0K}{ps:D j0k}{cs:D CalT}(hs:GOk zs ps cs)
 {nm:U}{ls:D j0f}{es:D j3b}(hL:∀L∈ls,LC1 zs.length ps.length cs.length L)(hll:ls.length<=4)(hE:∀x∈es,EC0 x)(hel:es.length<=9)
 {ss:D j0R}{a b:G}(ha:0<=a)(hab:a<=b)(hb:b<=8589934592)(hlen:b-a<=35078400)
include hs hL hll hE hel ha hab hb hlen
structure jy3(zs:D j0K)(cs:D CalT)(ls:D j0f)(es:D j3b)(a b:G)(m:N)(F:SL)(O:SgL):Prop where
 st:StS (a-1) F
 fb:∀t,inS t F->t<b
 fr:∀t,a<=t->t<b->(inS t F↔Wv (jb8 es t (pfX zs cs ls t)) (pfX zs cs ls t) ls.length m=Ý)
 seg:∀x∈O,a<=x.1/\x.1<x.2.1/\x.2.1<=b/\∀t,x.1<=t->t<x.2.1->Wv (jb8 es t (pfX zs cs ls t)) (pfX zs cs ls t) ls.length m=J x.2.2
 ap:O.Pairwise apart
 cov:∀t,a<=t->t<b->Wv (jb8 es t (pfX zs cs ls t)) (pfX zs cs ls t) ls.length m≠Ý->inG t O
 fl:F.length+300000<=2^m*300001
 ol:O.length<=m*4000000
theorem jCI{k m:N}(hk:k+m+1=ls.length){F:SL}{O:SgL}(hI:jy3 zs cs ls es a b m F O) :
  ∃S Q W F',j3o ((zs,ps,cs,ss),zs.map tb) (ls.getD k (M,0,(0,0),0,0,[],[],0,0)) a b=J S/\
   ja4 (nm,ls,es) S=J Q/\jdQ Q F=J W/\O.length+W.length<=j03/\(∃P,jcZ W=J P/\j5l F P=J F')/\jy3 zs cs ls es a b (m+1) F' (O++W):=by
 have hk':k<ls.length:=omg_;have hLk:=hL _ (R hk');have hgd:ls.getD k (M,0,(0,0),0,0,[],[],0,0)=ls[k]:=by simp[X,hk']
 have hpf:∀t,pfX zs cs ls t k=perX zs cs ls[k] t:=λt=>by simp only[pfX,hgd]
 obtain⟨S,e1,c1,l1⟩:=jtP hs hLk (ss:=ss) ha hab hb hlen;have hpos:=c1.pos;have e2:=jvi (nm:=nm) (ls:=ls) hE omg_ (S:=S) omg_ hpos;obtain⟨p1,p2,p3⟩:=jxZ (nm:=nm) (ls:=ls) hE omg_ c1.ch hpos;have pl:=jtW (nm:=nm) (ls:=ls) hE omg_ (S:=S) hpos;have pl2:S.length*(1+es.length)<=30000*10:=Nat.mul_le_mul l1 omg_;generalize S.flatMap (prs (nm,ls,es))=Q at *;have hm4:m<=3:=omg_;have hpow:2^m<=2^3:=Ô omg_ hm4;have hfl:=hI.fl;have hol:=hI.ol;have hF:F.length<=10000000:=omg_;have lp:=jy1 (A:=Q) (B:=F) omg_ hF (Q.length+F.length) 0 0 [] omg_ omg_ omg_ sqo_;rw[Ü,É,É]at lp;obtain⟨w1,_,w3,w4,w5⟩:=jy0 (Q.length+F.length) Q F a (a-1) (Ñ _) p1 hI.st;generalize wiF (Q.length+F.length) Q F=W at *
 have hWin:∀x∈W,a<=x.1/\x.1<x.2.1/\x.2.1<=b/\∀t,x.1<=t->t<x.2.1->inS t F/\perX zs cs ls[k] t=x.2.2/\0<=x.2.2/\jdp es x.2.2 t=false:=λx hx=>by
  have hne:∀(l:SgL)(q:G),OrS q l->∀y∈l,y.1<y.2.1:=by
   intro l;induction l with
   |nil=>grind
   |cons s r ih=>intro q h y hy;rcases List.mem_cons.1 hy with rfl|hy;exact h.2.1;exact ih _ h.2.2 y hy
  have h0:=hne W a w1 x hx;have h1:=(w1.apart).2 x hx;obtain⟨s,hs',r1,r2,r3,r4⟩:=w3 x hx;obtain⟨g1,g2⟩:=p2 s hs';refine⟨h1,h0,omg_,λt t1 t2=>?_⟩;grind
 have hw0:∀x∈W,∀t,x.1<=t->t<x.2.1->Wv (jb8 es t (pfX zs cs ls t)) (pfX zs cs ls t) ls.length (m+1)=J x.2.2:=λx hx t t1 t2=>by
  obtain⟨h1,h2,h3,h4⟩:=hWin x hx;obtain⟨g1,g2,g3,g4⟩:=h4 t t1 t2;have hn:=(hI.fr t omg_ omg_).1 g1;rw[jsB,hn,show ls.length-m-1=k by omega];have:jb8 es t (pfX zs cs ls t) k=true:=by simp only[jb8,hpf,g2,g4];simp[g3]
  simp only[this,j6,hpf,g2]
 have hold:∀t p,Wv (jb8 es t (pfX zs cs ls t)) (pfX zs cs ls t) ls.length m=J p->Wv (jb8 es t (pfX zs cs ls t)) (pfX zs cs ls t) ls.length (m+1)=J p:=λt p h=>by rw[jsB,h]
 obtain⟨P,e4,q1,q2,q3⟩:=jzR (l:=W) omg_ (lo:=a) (hi:=b) ha hb (λx hx=>⟨(hWin x hx).1,(hWin x hx).2.1,(hWin x hx).2.2.1⟩);obtain⟨F',e5,f1,f2,f3⟩:=jky (B:=P) omg_ hI.st q1 hF;refine⟨S,Q,W,F',by rw[hgd];exact e1,e2,?_,by simp[j03];omega,⟨P,e4,e5⟩,?_⟩
 .simp only[jdQ,show j6H Q F 0 0 []=_ from lp];rfl
 .have hcase:∀t,a<=t->t<b->inS t F->inG t W\/Wv (jb8 es t (pfX zs cs ls t)) (pfX zs cs ls t) ls.length (m+1)=none:=λt t1 t2 hf=>by
   have hn:=(hI.fr t t1 t2).1 hf;by_cases hg:jb8 es t (pfX zs cs ls t) k=Ê
   .left;refine w4 t (p3 t t1 t2 ?_ ?_) hf
    .simp only[jb8,hpf,Ï,decide_eq_true_eq]at hg;exact hg.1
    .simp only[jb8,hpf,Ï,Bool.not_eq_true']at hg;exact hg.2
   .right;rw[jsB,hn,show ls.length-m-1=k by omega,Bool.eq_false_iff.2 hg];rfl
  refine⟨f1,λt h=>hI.fb t ((f2 t).1 h).1,λt t1 t2=>?_,λx hx=>?_,?_,λt t1 t2 hne=>?_,?_,?_⟩
  .rw[f2 t,q2 t];constructor
   .rintro⟨h1,h2⟩
    rcases hcase t t1 t2 h1 with h|h
    .exact absurd h h2
    .exact h
   .intro h
    have hn:Wv (jb8 es t (pfX zs cs ls t)) (pfX zs cs ls t) ls.length m=none:=by
     cases hw:Wv (jb8 es t (pfX zs cs ls t)) (pfX zs cs ls t) ls.length m with
     |none=>rfl
     |some p=>rw[hold t p hw]at h;simp at h
    refine⟨(hI.fr t t1 t2).2 hn,?_⟩
    rintro⟨x,hx,x1,x2⟩
    rw[hw0 x hx t x1 x2]at h;simp at h
  .rcases List.mem_append.1 hx with hx|hx
   .obtain⟨h1,h2,h3,h4⟩:=hI.seg x hx;exact⟨h1,h2,h3,λt t1 t2=>hold t _ (h4 t t1 t2)⟩
   .obtain⟨h1,h2,h3,_⟩:=hWin x hx;exact⟨h1,h2,h3,hw0 x hx⟩
  .refine List.pairwise_append.2 ⟨hI.ap,(w1.apart).1.imp (λh=> .inl h),λx hx y hy=>?_⟩;obtain⟨h1,h2,h3,h4⟩:=hI.seg x hx;obtain⟨g1,g2,g3,g4⟩:=hWin y hy;apply Classical.byContradiction;intro hn;simp only[apart,not_or]at hn
   have hc:∃t,x.1<=t/\t<x.2.1/\y.1<=t/\t<y.2.1:=by
    by_cases hxy:x.1<=y.1
    .exact⟨y.1,omg_,omg_,omg_,omg_⟩
    .exact⟨x.1,omg_,omg_,omg_,omg_⟩
   obtain⟨t,t1,t2,t3,t4⟩:=hc;have hw:=h4 t t1 t2;have:=(hI.fr t omg_ omg_).1 (g4 t t3 t4).1;rw[hw]at this;simp at this
  .by_cases hf:inS t F
   .rcases hcase t t1 t2 hf with⟨x,hx,h⟩|h
    .exact⟨x,Å _ hx,h⟩
    .exact absurd h hne
   .have hw:Wv (jb8 es t (pfX zs cs ls t)) (pfX zs cs ls t) ls.length m≠none:=λh=>hf ((hI.fr t t1 t2).2 h);obtain⟨x,hx,h⟩:=hI.cov t t1 t2 hw;exact⟨x,Õ _ hx,h⟩
  .rw[Nat.pow_succ];omega
  .rw[À,Nat.add_mul];omega
theorem jEo:∀(n m:N)(F:SL)(O:SgL),n+m=ls.length->jy3 zs cs ls es a b m F O->
  ∃F' O',j78 (n:G) ls zs ps cs ss (zs.map tb) nm ls es a b F O=J (F',O')/\jy3 zs cs ls es a b ls.length F' O'
 |0,m,F,O,hn,hI=>by
  grind[jaH,j32,S0]
 |k+1,m,F,O,hn,hI=>by
  obtain⟨S,Q,W,F',e1,e2,e3,e4,⟨P,e5,e6⟩,hI'⟩:=jCI hs hL hll hE hel ha hab hb hlen (nm:=nm) (ss:=ss) (k:=k) (m:=m) omg_ hI;rw[jaH];simp only[j32];rw[j01 omg_,j00 (show ((k+1:N):G)<=Ä ls.length by simp;omega),show ((k+1:N):G)-1=(k:G) by omega];simp only[j6,j7,j8];generalize ls.getD k (M,0,(0,0),0,0,[],[],0,0)=L at *;simp(disch:=omega)only[show j3o ((zs,ps,cs,ss),zs.map tb) (L.1,L.2.1,(L.2.2.1.1,L.2.2.1.2),L.2.2.2.1,L.2.2.2.2.1,L.2.2.2.2.2.1,L.2.2.2.2.2.2.1,L.2.2.2.2.2.2.2.1,L.2.2.2.2.2.2.2.2) a b=_ from e1,e2,e3,e5,e6,S0];exact jEo k (m+1) F' (O++W) omg_ hI'
theorem jzS:∃out,j7r ((zs,ps,cs,ss),zs.map tb) (nm,ls,es) a b=J out/\Cov (λt=>topP es t (pfX zs cs ls t) ls.length) b Ý a out/\out.length<=40000000:=by
 simp only[j7r];by_cases hge:a>=b
 .rw[j00 hge,j6];exact⟨[],rfl,show a=b by omega,smp_⟩
 .rw[j01 hge,j7]
  have h0:jy3 zs cs ls es a b 0 [(a,b)] []:=⟨⟨by dsimp only;omega,by dsimp only;omega,trivial⟩,λt h=>by
   grind[j0i,j2V],λt t1 t2=>⟨λ_=>rfl,λ_=>j0i.2 (.inl ⟨t1,t2⟩)⟩,smp_,ã,λt _ _ h=>absurd rfl h,smp_,smp_⟩
  obtain⟨F,O,e1,hI⟩:=jEo hs hL hll hE hel ha hab hb hlen (nm:=nm) (ss:=ss) ls.length 0 [(a,b)] [] omg_ h0;have hpow:2^ls.length<=2^4:=Ô omg_ hll;have hfl:=hI.fl;have hol:=hI.ol;have hF:F.length<=10000000:=omg_;have lp:=jEn hF F.length 0 O omg_ omg_;rw[É]at lp
  have hFm:∀u∈F,a<=u.1/\u.1<u.2/\u.2<=b/\∀t,u.1<=t->t<u.2->Wv (jb8 es t (pfX zs cs ls t)) (pfX zs cs ls t) ls.length ls.length=none:=λu hu=>by
   have hm:=StS.mem hI.st u hu;have:=hI.fb (u.2-1) ⟨u,hu,omg_,omg_⟩;exact⟨omg_,hm.2,omg_,λt t1 t2=>(hI.fr t omg_ omg_).1 ⟨u,hu,t1,t2⟩⟩
  have hall:∀x∈O++F.map (λu=>((u.1,u.2, -1):SgT)),a<=x.1/\x.1<x.2.1/\x.2.1<=b/\∀t,x.1<=t->t<x.2.1->topP es t (pfX zs cs ls t) ls.length=x.2.2:=λx hx=>by
   rcases List.mem_append.1 hx with hx|hx
   .obtain⟨h1,h2,h3,h4⟩:=hI.seg x hx;grind[jB5]
   .obtain⟨u,hu,rfl⟩:=List.mem_map.1 hx;grind[jB5]
  have hpr:∀x∈O++F.map (λu=>((u.1,u.2, -1):SgT)), -1<=x.2.2/\x.2.2<=100:=λx hx=>by
   obtain⟨h1,h2,h3,h4⟩:=hall x hx;have:=h4 x.1 (Int.le_refl _) h2;have hp1:=hs.pl;rw[<-this];simp only[topP];cases hT:topI (jb8 es x.1 (pfX zs cs ls x.1)) ls.length with
   |none=>dsimp only;omega
   |some i=>
    dsimp only
    have hi:∀(g:N->Ú)(n i:N),topI g n=J i->i<n:=by
     intro g n;induction n with
     |zero=>grind[topI]
     |succ n ih=>grind[topI]
    have hi':=hi _ _ _ hT;have e:pfX zs cs ls x.1 i=perX zs cs ls[i] x.1:=by simp[pfX,X,hi']
    rw[e];have:=(jCk (hL _ (R hi')) (t:=x.1) omg_ omg_).2;omega
  have hapart:(O++F.map (λu=>((u.1,u.2, -1):SgT))).Pairwise apart:=by
   refine List.pairwise_append.2 ⟨hI.ap,?_,λx hx y hy=>?_⟩
   .rw[List.pairwise_map]
    have:∀(l:SL)(q:G),StS q l->l.Pairwise (λu v=>u.2<=v.1):=by
     intro l;induction l with
     |nil=>simp_all
     |cons s r ih=>intro q h;exact List.pairwise_cons.2 ⟨λv hv=>by have:=StS.mem h.2.2 v hv;omega,ih _ h.2.2⟩
    exact(this F _ hI.st).imp (λh=> .inl h)
   .obtain⟨u,hu,rfl⟩:=List.mem_map.1 hy;obtain⟨h1,h2,h3,h4⟩:=hI.seg x hx;obtain⟨g1,g2,g3,g4⟩:=hFm u hu;apply Classical.byContradiction;intro hn;simp only[apart,not_or]at hn;grind
  have hcov:∀t,(a<=t/\t<b)↔∃s∈O++F.map (λu=>((u.1,u.2, -1):SgT)),s.1<=t/\t<s.2.1:=λt=>by
   constructor
   .rintro⟨t1,t2⟩
    by_cases hn:Wv (jb8 es t (pfX zs cs ls t)) (pfX zs cs ls t) ls.length ls.length=Ý
    .obtain⟨u,hu,u1,u2⟩:=(hI.fr t t1 t2).2 hn;exact⟨(u.1,u.2, -1),Å _ (List.mem_map.2 ⟨u,hu,rfl⟩),u1,u2⟩
    .obtain⟨x,hx,h⟩:=hI.cov t t1 t2 hn;grind
   grind
  have hZl:(O++F.map (λu=>((u.1,u.2, -1):SgT))).length<=40000000:=by grind
  generalize hZ:O++F.map (λu=>((u.1,u.2, -1):SgT))=Z at *
  obtain⟨Y,e2,hp,hsrt⟩:=jvj (l:=Z) omg_ (λx hx=>by grind)
  have hch:Ch (λt=>topP es t (pfX zs cs ls t) ls.length) b a Y:=by
   refine jDY hab ?_ (λs h=>⟨(hall s (hp.mem_iff.1 h)).2.1,(hall s (hp.mem_iff.1 h)).2.2.2⟩) (λt=>?_)
   .have hY:Y.Pairwise apart:=(hp.pairwise_iff (λ{x y} h=>Or.symm h)).2 hapart;refine Í (λ{x y} hx hy h=>?_) (hY.and hsrt);have h1:=hall x (hp.mem_iff.1 hx);have h2:=hall y (hp.mem_iff.1 hy);rcases h.1 with h3|h3;all_goals omega
   grind
  have hYl:=hp.length_eq;grind[jn3,j2S]
end
def edB(es:D j3b):D Int:=es.flatMap λx=>[x.2.2.2.1,x.2.2.2.2]
theorem jpp:∀es:D j3b,(edB es).length=2*es.length
 |[]=>rfl
 |x::es=>by
  have:=jpp es;simp only[edB,List.flatMap_cons,À,Æ,Ð]at this ⊢;omega
theorem jo8{es:D j3b}{t u:G}{pf pg:N->G}{n:N}(hp:∀i,i<n->pf i=pg i)(ha:∀p,jdp es p t=jdp es p u):topP es t pf n=topP es u pg n:=by
 have hg:∀m,m<=n->topI (jb8 es t pf) m=topI (jb8 es u pg) m:=by intro m;induction m<;>grind[jb8,topI]
 have hi:∀(g:N->Ú)(n i:N),topI g n=J i->i<n:=by intro g n;induction n<;>grind[topI]
 grind[topP]
theorem jy4{x y p:G}:∀es:D j3b,(∀e∈es,(e.2.2.2.1<=x↔e.2.2.2.1<=y)/\(e.2.2.2.2<=x↔e.2.2.2.2<=y))->jdp es p x=jdp es p y
 |[],_=>rfl
 |e::r,h=>by
  have h1:=h e smp_;have ih:=jy4 (p:=p) r (λu hu=>h u (by simp[hu]));unfold jdp at ih ⊢;have a1:H (e.2.2.2.1<=x)=H (e.2.2.2.1<=y):=decide_eq_decide.2 h1.1;have a2:H (x<e.2.2.2.2)=H (y<e.2.2.2.2):=decide_eq_decide.2 omg_;simp only[List.any_cons];rw[a1,a2,ih]
section
variable{zs:D j0K}{ps:D j0k}{cs:D CalT}
theorem jB6(hs:GOk zs ps cs){ss:D j0R}{nm:U}{ls:D j0f}{es:D j3b}(hl:ls.length<=6)(hL:∀L∈ls,LC1 zs.length ps.length cs.length L){a b:G}(ha:0<=a)(hab:a<=b)(hb:b<=8589934592)(hlen:b-a<=34560000) :
  ∀(n i:N)(acc:D G),i+n=ls.length->acc.length+2400000*n<=20000000->
  ∃out,jin a b (i:G) zs ps cs ss nm ls es acc=J (a,b,nm,ls,es,out)/\out.length<=acc.length+2400000*n/\(∀c∈acc,c∈out)/\∀L∈ls.drop i,∀x y,a<=x->x<=y->y<b->NoC out x y->perX zs cs L x=perX zs cs L y
 |0,i,acc,hi,_=>by
  rw[jhP];simp(disch:=omega)only[j7C,K,S0]
  simp_all
 |n+1,i,acc,hi,hacc=>by
  have hlt:i<ls.length:=omg_;have hgd:ls.getD i (M,0,(0,0),0,0,[],[],0,0)=ls[i]:=by simp[X,hlt]
  obtain⟨C,eC,lC,pC⟩:=jxP hs (ss:=ss) (hL _ (R hlt)) ha hab hb hlen;obtain⟨out,e1,e2,e3,e4⟩:=jB6 hs (ss:=ss) (nm:=nm) (es:=es) hl hL ha hab hb hlen n (i+1) (acc++C) omg_ (by rw[À];omega);rw[jhP];simp(disch:=omega)only[I hlt,j7C,S0];rw[show jje (zs,ps,cs,ss) (ls[i].1,ls[i].2.1,(ls[i].2.2.1.1,ls[i].2.2.1.2),ls[i].2.2.2.1,ls[i].2.2.2.2.1,ls[i].2.2.2.2.2.1,ls[i].2.2.2.2.2.2.1,ls[i].2.2.2.2.2.2.2.1,ls[i].2.2.2.2.2.2.2.2) a b=_ from eC];simp only[j4];rw[j00 (show acc.length+C.length<=j03 by unfold j03;omega),j6,j04];refine⟨out,e1,by grind,λc h=>e3 c (Õ _ h),λL hm x y h1 h2 h3 hn=>?_⟩;rcases List.mem_cons.1 hm with rfl|hm
  .exact pC x y h1 h2 h3 (λc hc=>hn c (e3 c (Å _ hc)))
  grind
theorem jB7{nm:U}{ls:D j0f}{es:D j3b}(hl:es.length<=100){a b:G}:∀(n i:N)(acc:D G),i+n=es.length->acc.length+2*n<=40000000->
  jio a b (i:G) nm ls es acc=J (a,b,acc++edB (es.drop i))
 |0,i,acc,hi,_=>by
  rw[jhQ];simp(disch:=omega)only[K,j7D,S0];simp[edB]
 |n+1,i,acc,hi,ha=>by
  have hlt:i<es.length:=omg_;have hgd:es.getD i (0,0,0,0,0)=es[i]:=by simp[X,hlt]
  have ih:=jB7 (nm:=nm) (ls:=ls) hl (a:=a) (b:=b) n (i+1) (acc++[es[i].2.2.2.1,es[i].2.2.2.2]) omg_ sqo_;rw[List.append_assoc]at ih;rw[jhQ];simp(disch:=omega)only[I hlt,j7D,S0];exact ih
theorem jtX{nm:U}{ls:D j0f}{es:D j3b}{p t:G}(hl:es.length<=1000):∀(n i:N),i+n=es.length->jfr p t (i:G) nm ls es=J (cond (jdp (es.drop i) p t) (.inl Ê) (.inr ()))
 |0,i,hi=>by
  rw[jhS];simp(disch:=omega)only[j7F,K,S0];rfl
 |n+1,i,hi=>by
  have hlt:i<es.length:=omg_;have hgd:es.getD i (0,0,0,0,0)=es[i]:=by simp[X,hlt]
  have ih:=jtX (nm:=nm) (ls:=ls) (p:=p) (t:=t) hl n (i+1) omg_;rw[jhS];simp(disch:=omega)only[j7F,I hlt,S0];have ha:jdp (es[i]::es.drop (i+1)) p t=((es[i].1==0&&(es[i].2.1==p&&(H (es[i].2.2.2.1<=t)&&H (t<es[i].2.2.2.2))))||jdp (es.drop (i+1)) p t):=rfl;have e:(cond (cond (cond (es[i].1==(0:G)) (es[i].2.1==p) Ò) (H (es[i].2.2.2.1<=t)) Ò) (H (t<es[i].2.2.2.2)) Ò)=(es[i].1==0&&(es[i].2.1==p&&(H (es[i].2.2.2.1<=t)&&H (t<es[i].2.2.2.2)))):=by grind
  rw[e,ha];cases (es[i].1==0&&(es[i].2.1==p&&(H (es[i].2.2.2.1<=t)&&H (t<es[i].2.2.2.2)))) with
  |true=>rfl
  |false=>grind[j04]
theorem jvk{nm:U}{ls:D j0f}{es:D j3b}{p t:G}(hl:es.length<=1000):jlq (nm,ls,es) p t=J (jdp es p t):=by
 have:=jtX (nm:=nm) (ls:=ls) (p:=p) (t:=t) hl es.length 0 omg_;simp only[jlq,show jfr p t 0 nm ls es=_ from this,j4,É];cases jdp es p t<;>rfl
theorem jy5(hs:GOk zs ps cs){ss:D j0R}{nm:U}{ls:D j0f}{es:D j3b}(hel:es.length<=1000)(hll:ls.length<=1000)(hL:∀L∈ls,LC1 zs.length ps.length cs.length L){t:G}(h0:0<=t)(h1:t<=8589934592):∀n:N,n<=ls.length->
  jhn t ((n:G)-1) zs ps cs ss nm ls es=J (match topI (jb8 es t (pfX zs cs ls t)) n with|some i=> .inl ((i:G),pfX zs cs ls t i)|none=> .inr ())
 |0,hn=>by
  rw[jjg];simp(disch:=omega)only[j8s,S0];rfl
 |n+1,hn=>by
  have hlt:n<ls.length:=omg_;have hgd:ls.getD n (M,0,(0,0),0,0,[],[],0,0)=ls[n]:=by simp[X,hlt]
  have ih:=jy5 hs (ss:=ss) (nm:=nm) hel hll hL h0 h1 n omg_;have hp:=jzF hs (hL _ (R hlt)) (ss:=ss) h0 h1;have e:pfX zs cs ls t n=perX zs cs ls[n] t:=by grind[pfX]
  rw[show ((n+1:N):G)-1=(n:G) by omega,jjg];simp(disch:=omega)only[j8s,show jmk (zs,ps,cs,ss) (ls[n].1,ls[n].2.1,(ls[n].2.2.1.1,ls[n].2.2.1.2),ls[n].2.2.2.1,ls[n].2.2.2.2.1,ls[n].2.2.2.2.2.1,ls[n].2.2.2.2.2.2.1,ls[n].2.2.2.2.2.2.2.1,ls[n].2.2.2.2.2.2.2.2) t=_ from hp,topI,jb8,e,S0];by_cases hp0:0<=perX zs cs ls[n] t
  .simp(disch:=omega)only[jvk hel,á,S0];grind[j04,j0e]
  simp_all[S0]
end
structure SV(s:j0R):Prop where
 ll:s.2.1.length<=3
 ly:LyW s.2.1
 el:s.2.2.length<=4
 ed:EdW s.2.2
structure CV(c:CfgT):Prop where
 z:∀z∈c.1,ZW z
 s:∀s∈c.2.2.2,SV s
 one:1<=c.2.2.2.length
 pw:∀p∈c.2.1,p.2.2.1.length<=3
 few:c.2.2.2.length<=4
theorem CV.w{c:CfgT}(h:CV c):CW c:=
 ⟨h.z,λs hs x hx=>by have:=(h.s s hs).ed x hx;omega,λs hs=>(h.s s hs).ly⟩
def OKv(L:D G)(r:Á (CfgT×D G×G)):Prop:=∃k a',r=J (k,L,a')/\CV k/\DOk L a'
section
variable{L:D G}
theorem ovN{a n:G}{f:G×D G×G->Á (CfgT×D G×G)}(hd:DOk L a)(h1:1<=n)(h2:n<=1000000000000)(h:∀x a',0<=x->x<n->DOk L a'->OKv L (f (x,L,a'))):OKv L ((j02 L a n).bind f):=by
 grind[j0J]
theorem ovP{a:G}{xs:D G}{f:G×D G×G->Á (CfgT×D G×G)}(hd:DOk L a)(h1:0<xs.length)(h2:xs.length<=1000000)(h:∀x a',x∈xs->DOk L a'->OKv L (f (x,L,a'))):OKv L ((j09 L a xs).bind f):=by
 grind[jb7]
theorem ovE{a:G}{u0 u1 u2 u3:D Unit}{f:j3b×D G×G->Á (CfgT×D G×G)}(hd:DOk L a)(h1:1<=u1.length)(h2:u1.length<=100)(h:∀(x:j3b) a',x.2.2.2.1<=1000000000000->x.2.2.2.2<=1000000000000->DOk L a'->OKv L (f (x,L,a'))) :
  OKv L ((j7I L a (u0,u1,u2,u3)).bind f):=by
 obtain⟨x,a',e,x0,d⟩:=jtV hd (u0:=u0) (u2:=u2) (u3:=u3) h1 h2
 simp_all
theorem ovQ{x y:G}{a b:Á (CfgT×D G×G)}(h1:x=y->OKv L a)(h2:x≠y->OKv L b):OKv L (cond (x==y) a b):=by
 grind
theorem ovT{b:Ú}{x:Á (CfgT×D G×G)}(h:b=Ê)(hx:OKv L x):OKv L (cond b x Ý):=by rw[h];exact hx
theorem ovS{a:G}{k:CfgT}(hd:DOk L a)(h:CV k):OKv L (J (k,L,a)):=⟨k,a,rfl,h,hd⟩
end
theorem jEp{zs:D j0K}(h:∀z∈zs,ZW z)(i:N)(nm:U)(o:G):∀z∈zs.set i (nm,o,(zs.getD i (M,0,[])).2.2),ZW z:=λz hz=>by
 by_cases hi:i<zs.length
 .rcases Ã hz with hz|rfl
  .exact h z hz
  .have:=h zs[i] (R hi);rw[show zs.getD i (M,0,[])=zs[i] by simp[X,hi]];exact⟨this.ok,this.len,this.yr,this.few⟩
 grind[List.set_eq_of_length_le]
theorem jCJ{ls:D j0f}(h:LyW ls)(i:N){x:j0f}(hx:x.2.2.2.2.2.2.1.length<=3):LyW (ls.set i x):=λy hy=>by
 rcases Ã hy with hy|rfl
 .exact h y hy
 .exact hx
theorem jCK{ls:D j0f}(h:LyW ls)(i:N):(ls.getD i (M,0,(0,0),0,0,[],[],0,0)).2.2.2.2.2.2.1.length<=3:=by
 by_cases hi:i<ls.length
 .rw[Ë,Î hi];exact h _ (R hi)
 simp_all
theorem svN:∀s∈([]:D j0R),SV s:=λs hs=>by simp at hs
theorem svC{s:j0R}{l:D j0R}(h:SV s)(h':∀x∈l,SV x):∀x∈s::l,SV x:=λx hx=>by
 grind
theorem svE(nm:U):SV (nm,([]:D j0f),([]:D j3b)):=⟨smp_,λx hx=>by simp at hx,smp_,λx hx=>by simp at hx⟩
theorem jCL{nm nm':U}{ls:D j0f}{es:D j3b}(h:SV (nm,ls,es))(h3:es.length<=3){x:j3b}(hx:x.2.2.2.2<=1000000000000):SV (nm',ls,es++[x]):=
 ⟨h.ll,h.ly,sqo_,EdW.snoc h.ed hx⟩
theorem jzT{ss:D j0R}(h:ScW ss):∀s∈ss,SV s:=λs hs=>by
 obtain⟨h1,h2,h3⟩:=h s hs;exact⟨h1.1,h1.2,omg_,h3⟩
theorem jFs{zs:D j0K}{ps:D j0k}{cs:D CalT}{ss:D j0R}(hs:SOk zs ps cs)(hk:ScW ss)(h1:1<=ss.length)(h3:ss.length<=3):CV (zs,ps,cs,ss):=⟨λz hz=>(hs.ok z hz).w,jzT hk,h1,hs.pw,show ss.length<=4 by omega⟩
theorem jsC{L:D G}{a n:G}(hd:DOk L a){ls:D j0f}(hl:ls.length<=3)(hw:LyW ls){k:D j0f->D G->G->Á (CfgT×D G×G)}(hk:∀l a',l.length<=3->LyW l->DOk L a'->OKv L (k l L a')):OKv L (jgx n ls L a k):=by
 have hs:∀(i:G)(f:j0f->j0f) a',(∀e:j0f,e.2.2.2.2.2.2.1.length<=3->(f e).2.2.2.2.2.2.1.length<=3)->DOk L a'->OKv L (k (j9d ls i f) L a'):=λi f a' hf hd=>
  hk _ _ (by grind[j9d]) (jCJ hw _ (hf _ (jCK hw _))) hd
 simp only[jgx,È];refine ovQ (λ_=>hk _ _ hl hw hd) (λh0=>ovN hd omg_ omg_ (λx a1 x0 x1 hd=>ovT (j2j) (ovN hd omg_ omg_ (λy a2 _ _ hd=>?_))));grind[ovP,ovN,j0B]
theorem jsD{L:D G}{a:G}(hd:DOk L a){z p c s:N}(h1:1<=p)(h2:p<=100){k:j3b->D G->G->Á (CfgT×D G×G)}(hk:∀(x:j3b) a',x.2.2.2.2<=1000000000000->DOk L a'->OKv L (k x L a')):OKv L (jgy z p c s L a k):=by
 simp only[jgy,È];refine ovE hd (by rw[Ó];omega) (by rw[Ó];omega) (λx a1 _ _ hd=>ovN hd omg_ omg_ (λy a2 _ _ hd=>?_));grind[ovP]
theorem jy6{L:D G}{a:G}(hd:DOk L a){zs:D j0K}{ps:D j0k}{cs:D CalT}(hs:SOk zs ps cs){ss:D j0R}(h1:1<=ss.length)(h3:ss.length<=3)(hv:∀s∈ss,SV s){f g:D G->G->Á (CfgT×D G×G)}(hf:∀a',DOk L a'->OKv L (f L a'))(hg:∀a',DOk L a'->OKv L (g L a')):OKv L (jj4 zs ps cs ss L a f g):=by
 have hz0:=hs.z0;have hz1:=hs.z1;have hp0:=hs.p0;have hp1:=hs.p1;have hc1:=hs.c1;have hzw:∀z∈zs,ZW z:=λz hz=>(hs.ok z hz).w;have h4:ss.length<=4:=omg_
 have hpw:∀(i:G)(f:j0k->j0k),(∀e:j0k,e.2.2.1.length<=3->(f e).2.2.1.length<=3)->∀p∈jgw ps i f,p.2.2.1.length<=3:=λi f hf p hp=>by
  rcases Ã hp with hp|rfl
  .exact hs.pw p hp
  .refine hf _ ?_;by_cases hi:i.toNat<ps.length
   .rw[Ë,Î hi];exact hs.pw _ (R hi)
   simp_all
 simp only[jj4,È];refine ovN hd omg_ omg_ (λx a1 _ _ hd=>?_)
 repeat' ((try dsimp only);first
  |exact hf _ (by assumption)
  |exact hg _ (by assumption)
  |refine ovQ (λ_=>?_) (λ_=>?_)
  |refine ovN (by assumption) omg_ omg_ (λ_ _ _ _ _=>?_)
  |refine ovP (by assumption) smp_ smp_ (λ_ _ _ _=>?_)
  |refine ovT (j2j) ?_
  |refine ovT (j0B omg_ (by simp only[Æ,Ð];omega)) ?_
  |refine ovT (j00 (by simp only[j03,Æ,Ð];omega)) ?_
  |exact ovS (by assumption) ⟨hzw,hv,h1,hs.pw,h4⟩
  |exact ovS (by assumption) ⟨jEp hzw _ _ _,hv,h1,hs.pw,h4⟩
  |(refine ovS (by assumption) ⟨hzw,hv,h1,?_,h4⟩;(try dsimp only);exact hpw _ _ (by intro e h;first|exact h|simp))
  |exact ovS (by assumption) ⟨hzw,λs hs=>by
   rcases List.mem_append.1 hs with h|h
   .exact hv s h
   .rw[List.mem_singleton.1 h];exact svE _,by simp only[À];omega,hs.pw,by simp only[À,List.length_singleton];omega⟩)
theorem sv2{s t:j0R}(h:SV s)(h':SV t):∀x∈[s,t],SV x:=svC h (svC h' svN)
theorem SV.ls'{nm:U}{ls l:D j0f}{es:D j3b}(h:SV (nm,ls,es))(h1:l.length<=3)(h2:LyW l):SV (nm,l,es):=⟨h1,h2,h.el,h.ed⟩
theorem jCM{L:D G}{a:G}(h:DOk L a){zs:D j0K}{ps:D j0k}{cs:D CalT}{nm:U}{ls:D j0f}{es:D j3b}(hs:SOk zs ps cs)(h0:SV (nm,ls,es))(hel:es.length<=3) :
  OKv L (j7J L a (zs,ps,cs,[(nm,ls,es)])):=by
 have hz0:=hs.z0;have hz1:=hs.z1;have hp0:=hs.p0;have hp1:=hs.p1;have hc1:=hs.c1;have hll:ls.length<=3:=h0.ll;have hzw:∀z∈zs,ZW z:=λz hz=>(hs.ok z hz).w;have cp:jcE (zs,ps,cs,[(nm,ls,es)])=J (zs,ps,cs,nm,ls,es):=by grind[jcE,j03,j0B]
 simp only[j7J,cp,j4]
 refine jy6 h hs smp_ smp_ (svC h0 svN) (λa hd=>ovN hd omg_ omg_ (λx a1 _ _ hd=>ovT (j2j) (jsC hd hll h0.ly (λl a2 l1 l2 hd=>ovS hd ⟨hzw,svC (h0.ls' l1 l2) svN,smp_,hs.pw,smp_⟩))))
  (λa hd=>ovN hd omg_ omg_ (λx a1 _ _ hd=>ovT (j2j) (jsD hd omg_ omg_ (λx a2 hx hd=>ovT (j00 (by grind[j03])) (ovS hd ⟨hzw,svC (jCL h0 hel hx) svN,smp_,hs.pw,smp_⟩)))))
theorem jCN{L:D G}{a:G}(h:DOk L a){zs:D j0K}{ps:D j0k}{cs:D CalT}{nm nm1:U}{ls ls1:D j0f}{es es1:D j3b}(hs:SOk zs ps cs)(h0:SV (nm,ls,es))(hel:es.length<=3)(h1:SV (nm1,ls1,es1))(hel1:es1.length<=3) :
  OKv L (jbh L a (zs,ps,cs,[(nm,ls,es),(nm1,ls1,es1)])):=by
 have hz0:=hs.z0;have hz1:=hs.z1;have hp0:=hs.p0;have hp1:=hs.p1;have hc1:=hs.c1;have hll:ls.length<=3:=h0.ll;have hll1:ls1.length<=3:=h1.ll;have hzw:∀z∈zs,ZW z:=λz hz=>(hs.ok z hz).w;have cp:jhj (zs,ps,cs,[(nm,ls,es),(nm1,ls1,es1)])=J (zs,ps,cs,nm,nm1,ls,es,ls1,es1):=by grind[jhj,j03,j0B]
 simp only[jbh,cp,j4];refine jy6 h hs smp_ smp_ (sv2 h0 h1) (λa hd=>ovN hd omg_ omg_ (λx a1 _ _ hd=>ovQ (λ_=>?_) (λ_=>ovT (j8T omg_) ?_))) (λa hd=>ovN hd omg_ omg_ (λx a1 _ _ hd=>ovQ (λ_=>?_) (λ_=>ovT (j8T omg_) ?_)))
 .exact jsC hd hll h0.ly (λl a2 l1 l2 hd=>ovS hd ⟨hzw,sv2 (h0.ls' l1 l2) h1,smp_,hs.pw,smp_⟩)
 .exact jsC hd hll1 h1.ly (λl a2 l1 l2 hd=>ovS hd ⟨hzw,sv2 h0 (h1.ls' l1 l2),smp_,hs.pw,smp_⟩)
 .exact jsD hd omg_ omg_ (λx a2 hx hd=>ovT (j00 (by grind[j03])) (ovS hd ⟨hzw,sv2 (jCL h0 hel hx) h1,smp_,hs.pw,smp_⟩))
 .exact jsD hd omg_ omg_ (λx a2 hx hd=>ovT (j00 (by grind[j03])) (ovS hd ⟨hzw,sv2 h0 (jCL h1 hel1 hx),smp_,hs.pw,smp_⟩))
theorem jCO{L:D G}{a:G}(h:DOk L a){zs:D j0K}{ps:D j0k}{cs:D CalT}{ss:D j0R}(hs:SOk zs ps cs)(hk:ScW ss)(h1:1<=ss.length)(h2:ss.length<=2) :
  OKv L (jaf L a (zs,ps,cs,ss)):=by
 match ss,h1,h2,hk with
 |[(nm,ls,es)],_,_,hk=>obtain⟨k,a',e,hv,hd⟩:=jCM h hs (jzT hk (nm,ls,es) smp_) (hk (nm,ls,es) smp_).2.1;exact⟨k,a',by simp only[jaf,e,orF],hv,hd⟩
 |[(nm,ls,es),(nm1,ls1,es1)],_,_,hk=>
  obtain⟨k,a',e,hv,hd⟩:=jCN h hs (jzT hk (nm,ls,es) smp_) (hk (nm,ls,es) smp_).2.1 (jzT hk (nm1,ls1,es1) smp_) (hk (nm1,ls1,es1) smp_).2.1
  have hn:j7J L a (zs,ps,cs,[(nm,ls,es),(nm1,ls1,es1)])=none:=by
   have cp:jcE (zs,ps,cs,[(nm,ls,es),(nm1,ls1,es1)])=none:=by
    have c2:∀(b:Ú),cond b (Ý:Á (D j0K×D j0k×D CalT×U×D j0f×D j3b)) Ý=none:=λb=>by cases b<;>rfl
    simp(disch:=omega)only[jcE,c2,S0]
   unfold j7J;simp only[cp,Option.bind_none]
  exact⟨k,a',by simp only[jaf,hn,e,orF],hv,hd⟩
theorem c0_{b:Ú}{k:G}{r:Á G}(hk:k≠0)(h:cond b (J k) r=J 0):b=Ò/\r=J 0:=by
 cases b with
 |true=>simp at h;exact absurd h hk
 |false=>exact⟨rfl,h⟩
theorem c2_{b:Ú}{r s:Á G}(h:cond b r s=J 0):r=J 0\/s=J 0:=by
 cases b with
 |true=>exact .inl h
 |false=>exact .inr h
theorem ce0{c:CfgT}{x:j3b}(h:j1F c x=J 0):0<=x.2.2.2.1/\x.2.2.2.1<x.2.2.2.2:=by
 have T:∀(t:G),cond (cond (H (x.2.2.2.1<(0:G))) Ê (H (x.2.2.2.2<(0:G)))) (J (1:G)) ((j1N t).bind λr=>cond (!r) (J (1:G)) (cond (H (x.2.2.2.1>=x.2.2.2.2)) (J (6:G)) (J (0:G))))=J 0->0<=x.2.2.2.1/\x.2.2.2.1<x.2.2.2.2:=by
  intro t h;obtain⟨h1,h⟩:=c0_ (by decide) h;have h0:¬x.2.2.2.1<0:=by intro hh;rw[j00 hh]at h1;simp at h1
  cases hd:j1N t with
  |none=>rw[hd]at h;simp at h
  |some b=>rw[hd]at h;obtain⟨_,h⟩:=c0_ (by decide) h;obtain⟨h2,_⟩:=c0_ (by decide) h;simp only[decide_eq_false_iff_not]at h2;exact⟨omg_,omg_⟩
 simp only[j1F,j4Z,j3D,j1n,j4]at h;obtain⟨_,h⟩:=c0_ (by decide) h;rcases c2_ h with h|h
 .obtain⟨_,h⟩:=c0_ (by decide) h;obtain⟨_,h⟩:=c0_ (by decide) h;obtain⟨_,h⟩:=c0_ (by decide) h;exact T _ h
 .rcases c2_ h with h|h
  .obtain⟨_,h⟩:=c0_ (by decide) h;obtain⟨_,h⟩:=c0_ (by decide) h;obtain⟨_,h⟩:=c0_ (by decide) h;exact T _ h
  .obtain⟨_,h⟩:=c0_ (by decide) h;obtain⟨_,h⟩:=c0_ (by decide) h;exact T _ h
structure SG(zs:D j0K)(ps:D j0k)(cs:D CalT)(s:j0R):Prop where
 ly:∀L∈s.2.1,LC1 zs.length ps.length cs.length L
 ll:s.2.1.length<=4
 ed:∀x∈s.2.2,EC0 x
 el:s.2.2.length<=9
theorem jFt{zs:D j0K}{ps:D j0k}{cs:D CalT}{ss:D j0R}(hv:CV (zs,ps,cs,ss))(hC:Cfg0 zs ps cs ss):∀s∈ss,SG zs ps cs s:=λs hs=>by
 have h:=hC.s s hs;have v:=hv.s s hs;have hll:=v.ll;have hel:=v.el
 exact⟨λL hL=>⟨h.ly L hL,v.ly L hL⟩,omg_,λx hx=>by
  have:=ce0 (h.ed x hx);exact⟨this.1,this.2,v.ed x hx⟩,omg_⟩
section
variable{zs:D j0K}{ps:D j0k}{cs:D CalT}{ss:D j0R}
theorem jEq(hv:CV (zs,ps,cs,ss)):∃e v b,jfk (zs,ps,cs,ss)=J (v,b)/\j8q (zs,ps,cs,ss)=J e/\(e≠0->b=Ò)/\
  (e=0->b=Ê/\v=((zs,ps,cs,ss),zs.map tb)/\GOk zs ps cs/\∀s∈ss,SG zs ps cs s):=by
 obtain⟨e,e1,e2,e3⟩:=hv.w.chk;by_cases he:e=0
 .subst he;obtain⟨hC,hg⟩:=e3 rfl;refine⟨0,_,_,?_,e2,λh=>absurd rfl h,λ_=>⟨rfl,rfl,hg,jFt hv hC⟩⟩;have hv:=jCc (ps:=ps) (cs:=cs) (ss:=ss) hg.ok (by have:=hg.zl;omega);simp only[jfk,e1,j4,bne_self_eq_false,j7];rw[hv];rfl
 .refine⟨e,((([]:D j0K),([]:D j0k),([]:D CalT),([]:D j0R)),([]:D (G×TrL))),Ò,?_,e2,λ_=>rfl,λh=>absurd h he⟩;simp only[jfk,e1,j4];rw[show (e != 0)=Ê by simpa using he,j6]
end
theorem jsE{l:SgL}(hl:l.length<=100000000)(x:SgT):jho l x=J (mgA l x):=by
 simp only[jho,jcq,mgA];by_cases hx:x.2.1<=x.1
 .rw[j00 hx,if_pos hx,j6]
 rw[j01 hx,if_neg hx,j7,oLn_ l];rcases List.eq_nil_or_concat l with rfl|⟨r,u,rfl⟩
 .rfl
 rw[List.concat_eq_append]at hl ⊢;have hlen:(r++[u]).length=r.length+1:=smp_;rw[hlen]at hl ⊢;have hgd:(r++[u]).getD r.length (0,0,0)=u:=by simp[X]
 rw[j00 (show ((r.length+1:N):G)>0 by omega),j07 (x:=((r.length+1:N):G)-1),j2j,show (((r.length+1:N):G)-1).toNat=r.length by omega,hgd];simp only[j6,List.getLast?_append,List.getLast?_singleton,Option.some_or,List.dropLast_concat];rw[j00 (show r.length+1+[(x.1,x.2.1,x.2.2)].length<=j03 by simp[j03];omega)];simp only[j6];by_cases h1:u.2.1=x.1
 .rw[j8T h1,j6];by_cases h2:u.2.2=x.2.2
  .rw[j8T h2,if_pos ⟨h1,h2⟩,j6];congr 1;simp
  .rw[j3Z h2,if_neg (λh=>h2 h.2),j7]
 .rw[j3Z h1,if_neg (λh=>h1 h.1),j7]
theorem jEr(a b:G):∃v,j5E a b=J v/\(v=Ê->0<=a/\a<=b/\b<=8589934592/\b-a<=34560000):=by
 refine⟨_,rfl,λh=>?_⟩
 have h':(H (a>=0)&&H (a<=8589934592)&&H (b>=a)&&H (b<=8589934592)&&H (w64 (b-a)<=34560000))=true:=by
  revert h
  cases H (a>=(0:G))<;>cases H (a<=(8589934592:G))<;>cases H (b>=a)<;>cases H (b<=(8589934592:G))<;>cases H (w64 (b-a)<=(34560000:G))<;>simp
 simp only[Ï,decide_eq_true_eq]at h';obtain⟨⟨⟨⟨h1,h2⟩,h3⟩,h4⟩,h5⟩:=h';rw[j07 (x:=b-a)]at h5;exact⟨h1,h3,h4,h5⟩
section
variable{zs:D j0K}{ps:D j0k}{cs:D CalT}{ss:D j0R}
end
structure CG(c:CfgT):Prop where
 g:GOk c.1 c.2.1 c.2.2.1
 chk:j48 c=J 0
 r8:j8q c=J 0
 sc:∀s∈c.2.2.2,SG c.1 c.2.1 c.2.2.1 s
 of:jfk c=J ((c,c.1.map tb),Ê)
section
variable{o:G}{l:TrL}(h:TOk o l)
include h
end
section
variable{zs:D j0K}{ps:D j0k}{cs:D CalT}(hs:GOk zs ps cs)
include hs
end
def jvl(t p:G)(x:j3b):Int:=
 if t<x.2.2.2.1\/x.2.2.2.2<=t then p else if x.1=1 then x.2.1 else if x.1=2/\p=x.2.1 then x.2.2.1 else if x.1=2/\p=x.2.2.1 then x.2.1 else p
def jgc(t:G):G->D j3b->G
 |p,[]=>p
 |p,x::r=>jgc t (jvl t p x) r
theorem jB8{es:D j3b}(hl:es.length<=100){t:G}:∀(n i:N)(p:G),i+n=es.length->jfs es p t (i:G)=J (jgc t p (es.drop i))
 |0,i,p,hi=>by
  rw[jhT];simp(disch:=omega)only[j7G,K,S0];rfl
 |n+1,i,p,hi=>by
  have hi':i<es.length:=omg_;have hgd:es.getD i (0,0,0,0,0)=es[i]:=by simp[X,hi']
  have ih:=λp=>jB8 hl (t:=t) n (i+1) p omg_;rw[jhT];simp only[j7G,show Ä es.length=(es.length:G) from rfl];rw[j00 omg_,j2j,j07 (x:=(i:G)+1),I hi'];simp only[j6,j8,hgd,jgc];generalize es[i]=x;unfold jvl;by_cases ha:t<x.2.2.2.1\/x.2.2.2.2<=t
  .rw[if_pos ha]
   have:cond (H (t<x.2.2.2.1)) Ê (H (t>=x.2.2.2.2))=true:=by
    rcases ha with ha|ha
    .rw[j00 ha];rfl
    .simp(disch:=omega)only[S0];cases H (t<x.2.2.2.1)<;>rfl
   rw[this,j6,j04];exact ih p
  .rw[if_neg ha,j01 (show¬t<x.2.2.2.1 by omega),j01 (show¬t>=x.2.2.2.2 by omega)];simp only[j7];by_cases h1:x.1=1
   .rw[if_pos h1,j8T h1,j6,j04];exact ih _
   .rw[if_neg h1,j3Z h1,j7];by_cases h2:x.1=2
    .rw[j8T h2];simp only[j6];by_cases h3:p=x.2.1
     .rw[if_pos ⟨h2,h3⟩,j8T h3,j6,j04];exact ih _
     .rw[if_neg (λh=>h3 h.2),j3Z h3,j7];by_cases h4:p=x.2.2.1
      .rw[if_pos ⟨h2,h4⟩,j8T h4,j6,j04];exact ih _
      .rw[if_neg (λh=>h4 h.2),j3Z h4,j7,j04];exact ih _
    .rw[if_neg (λh=>h2 h.1),if_neg (λh=>h2 h.1),j3Z h2];simp only[j7,j04];exact ih _
theorem jy7{es:D j3b}(hl:es.length<=100){t:G}:∀(n i:N)(p:G),i+n=es.length->jgu p t es (es.length:G) (i:G)=J (jgc t p (es.drop i))
 |0,i,p,hi=>by
  rw[jgv];simp(disch:=omega)only[j6I,K,S0];rfl
 |n+1,i,p,hi=>by
  have hi':i<es.length:=omg_;have hgd:es.getD i (0,0,0,0,0)=es[i]:=by simp[X,hi']
  have ih:=λp=>jy7 hl (t:=t) n (i+1) p omg_;rw[jgv];simp only[j6I,jig,j4];rw[j00 omg_,j2j,j07 (x:=(i:G)+1),I hi'];simp only[j6,j8,hgd,jgc];generalize es[i]=x;unfold jvl;by_cases ha:t<x.2.2.2.1\/x.2.2.2.2<=t
  .rw[if_pos ha]
   have:cond (H (x.2.2.2.1<=t)) (H (t<x.2.2.2.2)) Ò=false:=by
    rcases ha with ha|ha
    .rw[j01 (show¬x.2.2.2.1<=t by omega)];rfl
    .simp(disch:=omega)only[S0];cases H (x.2.2.2.1<=t)<;>rfl
   rw[this];simp only[Þ,j6,j04];exact ih p
  .rw[if_neg ha,j00 (show x.2.2.2.1<=t by omega),j00 (show t<x.2.2.2.2 by omega)];simp only[j6,â,j7];by_cases h0:x.1=0
   .simp(disch:=omega)only[if_neg,S0];exact ih p
   rw[j3Z h0,j7];by_cases h1:x.1=1
   .rw[if_pos h1,j8T h1,j6,j04];exact ih _
   .rw[if_neg h1,j3Z h1,j7];by_cases h2:x.1=2
    .rw[show (x.1 != 2)=Ò by simp[h2],j7];by_cases h3:p=x.2.1
     .rw[if_pos ⟨h2,h3⟩,j8T h3,j6,j04];exact ih _
     .rw[if_neg (λh=>h3 h.2),j3Z h3,j7];by_cases h4:p=x.2.2.1
      .rw[if_pos ⟨h2,h4⟩,j8T h4,j6,j04];exact ih _
      .rw[if_neg (λh=>h4 h.2),j3Z h4,j7,j04];exact ih _
    .rw[if_neg (λh=>h2 h.1),if_neg (λh=>h2 h.1),show (x.1 != 2)=Ê by simp[h2],j6,j04];exact ih _
section
variable{zs:D j0K}{ps:D j0k}{cs:D CalT}(hs:GOk zs ps cs)
include hs
noncomputable def whoS(zs:D j0K)(cs:D CalT)(s:j0R)(t:G):Int:=jgc t (topP s.2.2 t (pfX zs cs s.2.1 t) s.2.1.length) s.2.2
omit hs in
theorem tabx{i:G}(h0:0<=i)(h1:i<(zs.length:G)){c:CfgT}:j5C (c,zs.map tb) i=J (tb (zAt zs i)):=by
 simp only[j5C,List.length_map];rw[j0B h0 h1,j6,jtN h0 h1];rfl
end
section
variable{zs:D j0K}{ps:D j0k}{cs:D CalT}(hs:GOk zs ps cs)
include hs
end
section
variable{zs:D j0K}{ps:D j0k}{cs:D CalT}(hs:GOk zs ps cs)
include hs
end
def brd(l:SgL):D Int:=l.tail.map (·.1)
theorem jsF{f:G->G}{b:G}:∀{l:SgL}{q:Á G}{a:G},Cov f b q a l->(∀x,x∈brd l↔a<x/\x<b/\f (x-1)≠f x)/\(brd l).Nodup/\l.length<=(brd l).length+1
 |[],q,a,h=>⟨λx=>⟨λhx=>by simp[brd]at hx,λhx=>by have h:a=b:=h;omega⟩,ß,smp_⟩
 |[s],q,a,h=>by
  obtain⟨h1,h2,h3,h4,h5⟩:=h;have h5:s.2.1=b:=h5;exact⟨λx=>⟨λhx=>by simp[brd]at hx,λ⟨x1,x2,x3⟩=>absurd ((h4 (x-1) omg_ omg_).trans (h4 x omg_ omg_).symm) x3⟩,ß,by simp[brd]⟩
 |s::u::r,q,a,h=>by
  obtain⟨h1,h2,h3,h4,h5⟩:=h;obtain⟨i1,i2,i3⟩:=jsF h5;have hu:=h5.1;have hle:=h5.2.2.2.2.ch.le;have hu2:=h5.2.1;have e:brd (s::u::r)=u.1::brd (u::r):=rfl;refine⟨λx=>?_,?_,by rw[e];simp only[Æ]at i3 ⊢;omega⟩
  .rw[e,Ç,i1 x];constructor
   .rintro (rfl|⟨x1,x2,x3⟩)
    .refine⟨omg_,omg_,?_⟩;rw[h4 (u.1-1) omg_ omg_,h5.2.2.2.1 u.1 omg_ omg_]
     exactλhe=>h5.2.2.1 (by rw[he])
    .exact⟨omg_,x2,x3⟩
   .rintro⟨x1,x2,x3⟩
    by_cases hx:x<s.2.1
    .exact absurd ((h4 (x-1) omg_ omg_).trans (h4 x omg_ omg_).symm) x3
    .by_cases hx2:x=s.2.1
     .left;omega
     .right;exact⟨omg_,x2,x3⟩
  .rw[e];refine List.nodup_cons.2 ⟨λhm=>?_,i2⟩;have:=(i1 u.1).1 hm;omega
theorem jCP{f:G->G}{a b:G}{l:SgL}{q:Á G}(h:Cov f b q a l){E:D G}(hE:∀x,a<x->x<b->f (x-1)≠f x->x∈E):l.length<=E.length+1:=by
 obtain⟨h1,h2,h3⟩:=jsF h
 have:=h2.length_le_of_subset (l₂:=E) (λx hx=>by
  have:=(h1 x).1 hx;exact hE x this.1 this.2.1 this.2.2)
 omega
theorem jy8{es:D j3b}{x:j3b}(hx:x∈es):x.2.2.2.1∈edB es/\x.2.2.2.2∈edB es:=
 ⟨List.mem_flatMap.2 ⟨x,hx,smp_⟩,List.mem_flatMap.2 ⟨x,hx,smp_⟩⟩
theorem jy9{es:D j3b}{t:G}(ht:t∉edB es)(p:G):jdp es p (t-1)=jdp es p t:=by
 unfold jdp;rw[Bool.eq_iff_iff,Û,Û]
 have key:∀x∈es,(x.1==0&&(x.2.1==p&&(H (x.2.2.2.1<=t-1)&&H (t-1<x.2.2.2.2))))=(x.1==0&&(x.2.1==p&&(H (x.2.2.2.1<=t)&&H (t<x.2.2.2.2)))):=λx hx=>by
  obtain⟨m1,m2⟩:=jy8 hx;have n1:t≠x.2.2.2.1:=λe=>ht (e▸m1);have n2:t≠x.2.2.2.2:=λe=>ht (e▸m2)
  have e1:H (x.2.2.2.1<=t-1)=H (x.2.2.2.1<=t):=by
   by_cases h:x.2.2.2.1<=t
   .rw[j00 h,j00 omg_]
   .rw[j01 h,j01 omg_]
  have e2:H (t-1<x.2.2.2.2)=H (t<x.2.2.2.2):=by
   by_cases h:t<x.2.2.2.2
   .rw[j00 h,j00 omg_]
   .rw[j01 h,j01 omg_]
  rw[e1,e2]
 exact⟨λ⟨x,hx,h⟩=>⟨x,hx,by rw[<-key x hx];exact h⟩,λ⟨x,hx,h⟩=>⟨x,hx,by rw[key x hx];exact h⟩⟩
section
variable{zs:D j0K}{ps:D j0k}{cs:D CalT}(hs:GOk zs ps cs)
include hs
end
theorem jzU{l:D G}(hl:l.length<=1000000):∃s,j74 l=J s/\s.Perm l/\s.Pairwise (· <= ·):=by
 grind[jzn,j74]
def inB(f t x:G):Bool:= !(cond (H (x<=f)) Ê (H (x>=t)))
theorem jya{l:D G}(hl:l.length<=1000000){f t:G}:∀(n i:N),i+n=l.length->(∀s∈l.take i,inB f t s=Ê)->
  (∃j:N,j1I f t (l.length:G) (i:G) l=J (.inl ((j:G),l))/\j<l.length/\(∀s∈l.take j,inB f t s=Ê)/\inB f t (l.getD j 0)=Ò)\/
  (j1I f t (l.length:G) (i:G) l=J (.inr l)/\∀s∈l,inB f t s=Ê)
 |0,i,hi,h=>by
  grind[j60,j18,j0e]
 |n+1,i,hi,h=>by
  rw[j60];simp only[j18,jbu];rw[j00 (show (i:G)<(l.length:G) by omega),j2j,j07 (x:=(i:G)+1)];simp only[j6,j8,j4];have hlt:i<l.length:=omg_;cases hc:(cond (H (l.getD i (0:G)<=f)) Ê (H (l.getD i (0:G)>=t))) with
  |true=>grind[j0e,inB]
  |false=>simp only[j7,j04];refine jya hl n (i+1) omg_ λs hs=>?_;grind[Â,inB]
theorem jsG{l:D G}(hl:l.length<=1000000){f t:G}:∀(n i j:N)(b:D G),j+n=l.length->i<=j->b.length=l.length->b.drop j=l.drop j->b.take i=(l.take j).filter (inB f t)->
  ∃(k:N)(b':D G),j3c f t (i:G) (j:G) b=J ((k:G),b')/\b'.length=l.length/\k<=l.length/\b'.take k=l.filter (inB f t)
 |0,i,j,b,hj,hij,hb,hd,ht=>by
  grind[j6G,j1o,S0]
 |n+1,i,j,b,hj,hij,hb,hd,ht=>by
  have hlt:j<l.length:=omg_
  have hbj:b.getD j (0:G)=l[j]:=by
   have:b[j]? = l[j]? := by
    have h:=congrArg (λx=>x[0]?) hd;simpa[List.getElem?_drop]using h
   simp_all
  have hd':b.drop (j+1)=l.drop (j+1):=by have:=congrArg (ä 1) hd;grind[à]
  have htk:l.take (j+1)=l.take j++[l[j]]:=by simp_all
  rw[j6G];simp(disch:=omega)only[j1o,jbu,hbj,S0];cases hc:(cond (H (l[j]<=f)) Ê (H (l[j]>=t))) with
  |true=>simp only[â,j7,j04];refine jsG hl n i (j+1) b omg_ omg_ hb hd' ?_;grind[inB]
  |false=>simp only[Þ,j6,j04];refine jsG hl n (i+1) (j+1) _ omg_ omg_ (by simpa using hb) ?_ ?_;all_goals grind[Ö,Â,Ø,inB]
theorem jvm{l:D G}(hl:l.length<=1000000){f t:G}:∃n m,j49 l f t=J (n,m)/\m.take n.toNat=l.filter (inB f t):=by
 simp only[j49,j5A,show Ä (List.length l)=(l.length:G) from rfl];rcases jya (f:=f) (t:=t) hl l.length 0 omg_ smp_ with⟨j,e,hj,h1,h2⟩|⟨e,h⟩
 .rw[show ((0:N):G)=0 from rfl]at e;rw[e];simp only[j4,j8C];rw[j3Z omg_,j07 (x:=(j:G)+1)];have hgd:l.getD j (0:G)=l[j]:=by simp[hj]
  rw[hgd]at h2
  obtain⟨k,b,e2,hb,hk,ht⟩:=jsG (f:=f) (t:=t) hl (l.length-(j+1)) j (j+1) l omg_ omg_ rfl rfl (by
   grind[Â,Ù])
  grind
 .rw[show ((0:N):G)=0 from rfl]at e;rw[e];simp only[j4,j8D,beq_self_eq_true,j6];grind[Ù,S0]
def ddI:G->D G->D G
 |_,[]=>[]
 |p,x::r=>if x=p then ddI p r else x::ddI x r
theorem jsH:∀(l:D G)(p:G),∀x,x∈p::ddI p l↔x∈p::l
 |[],_,_=>Iff.rfl
 |y::r,p,x=>by
  unfold ddI;split
  .rename_i h;subst h;rw[jsH r y x];simp
  .have:=jsH r y x;rw[Ç,this,Ç,Ç,Ç]
theorem jsI:∀(l:D G)(p:G),(p::l).Pairwise (· <= ·)->(p::ddI p l).Pairwise (· < ·)
 |[],_,_=>by simp[ddI]
 |y::r,p,h=>by
  have h1:=List.pairwise_cons.1 h;unfold ddI;split
  .rename_i h;subst h;exact jsI r y h1.2
  .have ih:=jsI r y h1.2;refine List.pairwise_cons.2 ⟨λz hz=>?_,ih⟩;have hy:=h1.1 y smp_;rcases List.mem_cons.1 hz with rfl|hz
   .omega
   .have:=(List.pairwise_cons.1 ih).1 z hz;omega
theorem jyb{l:D G}(hl:l.length<=1000000){k0:N}:∀(n s k:N)(b:D G),k0+s+n=l.length->1<=s->k<=k0+s-1->b.length=l.length->b.drop k=l.drop k->
  ∃(m:N)(b':D G),j4a (k:G) (k0:G) (s:G) b=J ((m:G),b')/\b'.length=l.length/\m<=l.length/\b'.take m=b.take k++ddI (l.getD (k0+s-1) 0) (l.drop (k0+s))
 |0,s,k,b,hn,hs,hk,hb,hd=>by
  rw[j7W];simp only[j1J,j8,show Ä (b.length-k0)=((b.length-k0:N):G) from rfl];rw[j01 omg_,j7,j0e,K omg_];exact⟨k,b,rfl,hb,omg_,by simp[ddI]⟩
 |n+1,s,k,b,hn,hs,hk,hb,hd=>by
  have hlt:k0+s<l.length:=omg_
  have bget:∀j,k<=j->b[j]? = l[j]? := λj hj=>by
   have h:=congrArg (λx=>x[j-k]?) hd;grind
  have g1:b.getD (k0+s) (0:G)=l[k0+s]:=by grind
  have g2:b.getD (k0+(s-1)) (0:G)=l.getD (k0+s-1) 0:=by grind
  have e1:l.getD (k0+(s+1)-1) 0=l[k0+s]:=by
   simp_all
  rw[j7W];simp only[j1J,j8,show Ä (b.length-k0)=((b.length-k0:N):G) from rfl,show Ä k0=(k0:G) from rfl];rw[j00 (show (s:G)<((b.length-k0:N):G) by omega),j0B (show (0:G)<=(s:G) by omega) omg_,j07 (x:=(s:G)-1),j0B (show (0:G)<=(s:G)-1 by omega) omg_,j0B (show (0:G)<=(k:G) by omega) omg_,j07 (x:=(k:G)+1),j07 (x:=(s:G)+1),show ((s:G)-1).toNat=s-1 by omega,I hlt];simp only[j6,g1,g2,ddI];by_cases hc:l[k0+s]=l.getD (k0+s-1) 0
  .rw[show (l[k0+s] != l.getD (k0+s-1) 0)=Ò by rw[bne_eq_false_iff_eq];exact hc,if_pos hc,j7,j04];have ih:=jyb hl (k0:=k0) n (s+1) k b omg_ omg_ omg_ hb hd;rw[e1,hc,show k0+(s+1)=k0+s+1 by omega]at ih;exact ih
  .rw[show (l[k0+s] != l.getD (k0+s-1) 0)=Ê by rw[bne_iff_ne];exact hc,if_neg hc,j6,j04]
   have ih:=jyb hl (k0:=k0) n (s+1) (k+1) (b.set k l[k0+s]) omg_ omg_ omg_ (by simpa using hb) (by
    rw[Ö omg_];have:=congrArg (ä 1) hd;grind[à])
   rw[e1,show k0+(s+1)=k0+s+1 by omega]at ih;obtain⟨m,b',r1,r2,r3,r4⟩:=ih;refine⟨m,b',r1,r2,r3,?_⟩;grind[Â,Ø]
def cpI:D G->D G
 |[]=>[]
 |a::r=>a::ddI a r
theorem jB9{l:D G}(hl:l.length<=1000000):∀(n k:N),k+n=l.length->1<=k->cpI l=l.take k++ddI (l.getD (k-1) 0) (l.drop k)->
  (∃(m:N)(b:D G),j1r (k:G) l=J (.inl ((m:G),b))/\b.take m=cpI l)\/(j1r (k:G) l=J (.inr l)/\cpI l=l)
 |0,k,hn,hk,hT=>by
  grind[j7X,j1K,j0e,ddI]
 |n+1,k,hn,hk,hT=>by
  have hlt:k<l.length:=omg_;have g1:l.getD k (0:G)=l[k]:=by simp[hlt]
  rw[I hlt]at hT;simp only[ddI]at hT;rw[j7X];simp only[j1K,show Ä l.length=(l.length:G) from rfl];rw[j00 (show (k:G)<(l.length:G) by omega),j0B (show (0:G)<=(k:G) by omega) omg_,j07 (x:=(k:G)-1),j0B (show (0:G)<=(k:G)-1 by omega) omg_,j07 (x:=(k:G)+1),show ((k:G)-1).toNat=k-1 by omega,j00 (show (0:G)<=(k:G) by omega),j00 (show (k:G)<=(l.length:G) by omega)];simp only[j6,j8,g1,Bool.and_self,show Ä k=(k:G) from rfl];by_cases hc:l[k]=l.getD (k-1) 0
  .rw[if_pos hc]at hT;obtain⟨m,b,r1,r2,r3,r4⟩:=jyb hl (k0:=k) n 1 k l omg_ omg_ omg_ rfl rfl;rw[show k+1-1=k by omega,g1,hc,<-hT]at r4;rw[j8T hc,j6,show j4a (k:G) (k:G) 1 l=_ from r1];simp(disch:=omega)only[á,S0];grind[j0e]
  .rw[if_neg hc]at hT;rw[j3Z hc,j7,j04];refine jB9 hl n (k+1) omg_ omg_ ?_;grind[Â]
theorem jsJ{l:D G}(hl:l.length<=1000000):∃n m,j5M l=J (n,m)/\m.take n.toNat=cpI l:=by
 simp(disch:=omega)only[j5M,S0];by_cases h2:l.length<2
 .rw[j00 omg_,j6];refine⟨_,_,rfl,?_⟩;rw[j8,List.take_of_length_le (Ñ _)];match l,h2 with
  |[],_=>rfl
  |[a],_=>rfl
  |_::_::_,h2=>simp at h2;omega
 .rw[j01 omg_,j7]
  have hT:cpI l=l.take 1++ddI (l.getD (1-1) 0) (l.drop 1):=by
   match l,h2 with
   |[],h2=>simp at h2
   |a::r,_=>rfl
  rcases jB9 hl (l.length-1) 1 omg_ omg_ hT with⟨m,b,e,h⟩|⟨e,h⟩
  .rw[show j1r 1 l=_ from e];refine⟨_,_,rfl,?_⟩;simpa using h
  .rw[show j1r 1 l=_ from e];refine⟨_,_,rfl,?_⟩;rw[h];simp
theorem jCQ{l:D G}(x:G):x∈cpI l↔x∈l:=by
 cases l with
 |nil=>exact Iff.rfl
 |cons a r=>exact jsH r a x
theorem jCR{l:D G}(h:l.Pairwise (· <= ·)):(cpI l).Pairwise (· < ·):=by
 cases l with
 |nil=>exact .nil
 |cons a r=>exact jsI r a h
theorem jsK:∀(l:D G)(p:G),(ddI p l).length<=l.length
 |[],_=>Ñ _
 |y::r,p=>by
  unfold ddI;split
  .have:=jsK r p;simp;omega
  .have:=jsK r y;simp;omega
theorem jCS(l:D G):(cpI l).length<=l.length:=by
 cases l<;>grind[jsK,cpI]
theorem jyc{l:D G}(hl:l.length<=1000000){f t:G}:∃C,jgt l f t=J (C++[t])/\C.Pairwise (· < ·)/\C.length<=l.length/\(∀x,x∈C↔x∈l/\f<x/\x<t):=by
 obtain⟨n1,m1,e1,h1⟩:=jvm (l:=l) omg_ (f:=f) (t:=t);have hfl:(l.filter (inB f t)).length<=l.length:=List.length_filter_le _ _;obtain⟨s,e2,p2,a2⟩:=jzU (l:=l.filter (inB f t)) omg_;have hsl:=p2.length_eq;obtain⟨n3,m3,e3,h3⟩:=jsJ (l:=s) omg_;have hcl:=jCS s;refine⟨cpI s,?_,jCR a2,omg_,λx=>?_⟩
 .simp(disch:=omega)only[jgt,j90,Ü,e1,h1,e2,e3,h3,S0]
 .rw[jCQ,p2.mem_iff,List.mem_filter];grind[inB]
end Go.Proofs.Pw
