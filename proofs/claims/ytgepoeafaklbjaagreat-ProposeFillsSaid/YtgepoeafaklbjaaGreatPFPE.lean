/- Segments that cover a range: their jkA form is unique. -/
import Derived.Test.YtgepoeafaklbjaaGreatPFLD
import Derived.Test.YtgepoeafaklbjaaGreatPFPD
import Derived.Test.YtgepoeafaklbjaaGreatPFPB
open ByteArray renaming empty->E
open _root_ renaming Int->F,List->O,Option->È,Nat->Ò
open Classical renaming byContradiction->G
open Int renaming le_refl->H,tmod->X,mul_le_mul_of_nonneg_right->Â,ofNat->Ä,mul_le_mul_of_nonneg_left->Æ,tmod_lt_of_pos->Ï,tmod_nonneg->Ø,mul_nonneg->Ü,mul_sub->ß,sub_mul->à
open List renaming length_append->I,length_singleton->J,drop_eq_getElem_cons->R,drop_of_length_le->U,getLast?_singleton->Y,eq_nil_or_concat->Z,concat_eq_append->À,getElem_mem->Á,getLast?_append->Ã,length_map->Å,getD->Ê,dropLast_concat->Í,append_assoc->Ó,flatMap_cons->Ô,length_cons->Õ,foldl_cons->Ù,drop_zero->Û
open Option renaming some->S,some_or->Ë,isSome_none->Ð,isSome_some->Ñ,getD_some->Ö,none->Ú
open Nat renaming mul_le_mul_right->W,mul_le_mul->Ì,mul_le_mul_left->Î,le_trans->Þ
open Bool renaming not_false->Ç,true->É,not_true->Ý
noncomputable section
open Go Go.Lft
namespace Go.Proofs.Pw
abbrev SgT:=F×F×F
abbrev SgL:=O SgT
def Ch(f:F->F)(b:F):F->SgL->Prop
 |a,[]=>a=b
 |a,s::r=>s.1=a/\a<=s.2.1/\(∀t,a<=t->t<s.2.1->f t=s.2.2)/\Ch f b s.2.1 r
def Cov(f:F->F)(b:F):È F->F->SgL->Prop
 |_,a,[]=>a=b
 |q,a,s::r=>s.1=a/\a<s.2.1/\q≠S s.2.2/\(∀t,a<=t->t<s.2.1->f t=s.2.2)/\Cov f b (S s.2.2) s.2.1 r
theorem Ch.le{f:F->F}{b:F}:∀{l:SgL}{a:F},Ch f b a l->a<=b
 |[],_,h=>Int.le_of_eq h
 |_::_,_,h=>Int.le_trans h.2.1 h.2.2.2.le
theorem Ch.app{f:F->F}{b c:F}:∀{l r:SgL}{a:F},Ch f b a l->Ch f c b r->Ch f c a (l++r)
 |[],_,_,h,h'=>by have h:_=_:=h;subst h;exact h'
 |_::_,_,_,h,h'=>⟨h.1,h.2.1,h.2.2.1,h.2.2.2.app h'⟩
theorem Ch.snoc{f:F->F}{b c p:F}{l:SgL}{a:F}(h:Ch f b a l)(hbc:b<=c)(hp:∀t,b<=t->t<c->f t=p):Ch f c a (l++[(b,c,p)]):=
 h.app ⟨rfl,hbc,hp,rfl⟩
theorem Cov.ch{f:F->F}{b:F}:∀{l:SgL}{q:È F}{a:F},Cov f b q a l->Ch f b a l
 |[],_,_,h=>h
 |_::_,_,_,h=>⟨h.1,Int.le_of_lt h.2.1,h.2.2.2.1,h.2.2.2.2.ch⟩
theorem Cov.uniq{f:F->F}{b:F}:∀{l l':SgL}{q:È F}{a:F},Cov f b q a l->Cov f b q a l'->l=l'
 |[],[],_,_,_,_=>rfl
 |[],_::_,_,_,h,h'=>by have:=h'.2.1;have:=h'.2.2.2.2.ch.le;have h:_=_:=h;omega
 |_::_,[],_,_,h,h'=>by have:=h.2.1;have:=h.2.2.2.2.ch.le;have h':_=_:=h';omega
 |s::r,s'::r',q,a,h,h'=>by
  obtain⟨h1,h2,h3,h4,h5⟩:=h;obtain⟨g1,g2,g3,g4,g5⟩:=h';have hp:s.2.2=s'.2.2:=by grind
  have ht:s.2.1=s'.2.1:=by
   apply G;intro hne;by_cases hlt:s.2.1<s'.2.1
   .match r,h5 with
    |[],h5=>have:=g5.ch.le;have h5:_=_:=h5;omega
    |u::v,h5=>have e1:=h5.2.2.2.1 s.2.1 omg_ h5.2.1;have e2:=g4 s.2.1 omg_ hlt;exact h5.2.2.1 (by rw[<-e1,e2,hp])
   .match r',g5 with
    |[],g5=>have:=h5.ch.le;have g5:_=_:=g5;omega
    |u::v,g5=>have e1:=g5.2.2.2.1 s'.2.1 omg_ g5.2.1;have e2:=h4 s'.2.1 omg_ omg_;exact g5.2.2.1 (by rw[<-e1,e2,hp])
  have hs:s=s':=Prod.ext (by rw[h1,g1]) (Prod.ext ht hp);subst hs;rw[h5.uniq g5]
def lstP:È F->SgL->È F
 |q,[]=>q
 |_,s::r=>lstP (S s.2.2) r
theorem jpG:∀(l:SgL)(q:È F)(s:SgT),lstP q (l++[s])=S s.2.2
 |[],_,_=>rfl
 |_::r,_,s=>jpG r _ s
theorem Cov.snoc{f:F->F}{b c p:F}:∀{l:SgL}{q:È F}{a:F},Cov f b q a l->b<c->lstP q l≠S p->(∀t,b<=t->t<c->f t=p)->Cov f c q a (l++[(b,c,p)])
 |[],_,_,h,hbc,hl,hp=>by have h:_=_:=h;subst h;exact⟨rfl,hbc,hl,hp,rfl⟩
 |_::_,_,_,h,hbc,hl,hp=>⟨h.1,h.2.1,h.2.2.1,h.2.2.2.1,h.2.2.2.2.snoc hbc hl hp⟩
theorem Cov.ext{f:F->F}{b c x p:F}:∀{l:SgL}{q:È F}{a:F},Cov f b q a (l++[(x,b,p)])->b<=c->(∀t,b<=t->t<c->f t=p)->Cov f c q a (l++[(x,c,p)])
 |[],_,_,h,hbc,hp=>⟨h.1,by have:=h.2.1;grind,h.2.2.1,λt h1 h2=>by
  by_cases ht:t<b
  .exact h.2.2.2.1 t h1 ht
  simp_all,rfl⟩
 |_::_,_,_,h,hbc,hp=>⟨h.1,h.2.1,h.2.2.1,h.2.2.2.1,h.2.2.2.2.ext hbc hp⟩
def mgA(out:SgL)(s:SgT):SgL:=
 if s.2.1<=s.1 then out else match out.getLast? with
  |some x=>if x.2.1=s.1/\x.2.2=s.2.2 then out.dropLast++[(x.1,s.2.1,x.2.2)] else out++[s]
  |none=>out++[s]
theorem jzy{f:F->F}{a b:F}{out:SgL}(h:Cov f b Ú a out){s:SgT}(h1:s.1=b)(h2:b<=s.2.1)(h3:∀t,b<=t->t<s.2.1->f t=s.2.2):Cov f s.2.1 Ú a (mgA out s):=by
 obtain⟨x,y,p⟩:=s;dsimp only at h1 h2 h3 ⊢;subst h1;unfold mgA;dsimp only;by_cases hxy:y<=x
 .grind
 .rw[if_neg hxy];rcases Z out with rfl|⟨l,u,rfl⟩
  .exact h.snoc omg_ (by simp[lstP]) h3
  .rw[À]at h ⊢;rw[Ã];simp only[Y,Ë];by_cases hu:u.2.1=x/\u.2.2=p
   .rw[if_pos hu,Í];obtain⟨u1,u2,u3⟩:=u;dsimp only at hu ⊢;obtain⟨rfl,rfl⟩:=hu;exact h.ext h2 h3
   .rw[if_neg hu];refine h.snoc omg_ ?_ h3;rw[jpG];intro e;have hp:u.2.2=p:=by simpa using e
    refine hu ⟨?_,hp⟩
    have:∀(l:SgL)(q:È F)(a:F),Cov f x q a (l++[u])->u.2.1=x:=by
     intro l;induction l with
     |nil=>intro q a h;exact h.2.2.2.2
     |cons v r ih=>intro q a h;exact ih _ _ h.2.2.2.2
    exact this l _ _ h
theorem jzz{f:F->F}{b:F}:∀(l:SgL){a c:F}{out:SgL},Cov f c Ú a out->Ch f b c l->Cov f b Ú a (l.foldl mgA out)
 |[],_,_,_,h,h'=>by have h':_=_:=h';subst h';exact h
 |s::r,_,_,_,h,h'=>jzz r (jzy h h'.1 h'.2.1 h'.2.2.1) h'.2.2.2
theorem Ch.cov{f:F->F}{a b:F}{l:SgL}(h:Ch f b a l):Cov f b Ú a (l.foldl mgA []):=jzz l (show Cov f a Ú a [] from rfl) h
theorem jCH{f:F->F}:∀{l:SgL}{a b:F},a<=b->l.Pairwise (λs u=>s.2.1<=u.1)->(∀s∈l,s.1<s.2.1/\∀t,s.1<=t->t<s.2.1->f t=s.2.2)->
  (∀x,(a<=x/\x<b)↔∃s∈l,s.1<=x/\x<s.2.1)->Ch f b a l
 |[],a,b,hab,_,_,hc=>by
  apply G;intro hne;have hne:a≠b:=hne;obtain⟨s,hs,_⟩:=(hc a).1 ⟨H _,omg_⟩;simp at hs
 |s::r,a,b,hab,hp,hf,hc=>by
  obtain⟨s1,s2⟩:=hf s smp_;obtain⟨p1,p2⟩:=List.pairwise_cons.1 hp;have h1:=(hc s.1).2 ⟨s,smp_,H _,s1⟩;have h2:=(hc (s.2.1-1)).2 ⟨s,smp_,omg_,omg_⟩
  have he:s.1=a:=by
   obtain⟨u,hu,u1,u2⟩:=(hc a).1 ⟨H _,omg_⟩;rcases List.mem_cons.1 hu with rfl|hu
   .omega
   .have:=p1 u hu;omega
  refine⟨he,omg_,λt t1 t2=>s2 t omg_ t2,jCH omg_ p2 (λu hu=>hf u (by simp[hu])) (λx=>⟨λhx=>?_,λ⟨u,hu,u1,u2⟩=>?_⟩)⟩
  .obtain⟨u,hu,u1,u2⟩:=(hc x).1 ⟨omg_,hx.2⟩;rcases List.mem_cons.1 hu with rfl|hu
   .omega
   .exact⟨u,hu,u1,u2⟩
  .have:=p1 u hu;have:=(hc x).2 ⟨u,by simp[hu],u1,u2⟩;omega
theorem Ch.mem{f:F->F}{b:F}:∀{l:SgL}{a:F},Ch f b a l->∀s∈l,a<=s.1/\s.1<=s.2.1/\s.2.1<=b/\∀t,s.1<=t->t<s.2.1->f t=s.2.2
 |[],_,_,s,hs=>by simp at hs
 |u::r,a,h,s,hs=>by
  obtain⟨h1,h2,h3,h4⟩:=h;rcases List.mem_cons.1 hs with rfl|hs
  .exact⟨omg_,omg_,h4.le,λt t1 t2=>h3 t omg_ t2⟩
  .have:=h4.mem s hs;grind
theorem Ch.has{f:F->F}{b:F}:∀{l:SgL}{a:F},Ch f b a l->∀x,a<=x->x<b->∃s∈l,s.1<=x/\x<s.2.1
 |[],_,h,x,h1,h2=>by have h:_=_:=h;omega
 |u::r,a,h,x,h1,h2=>by
  obtain⟨g1,g2,g3,g4⟩:=h;by_cases hx:x<u.2.1
  .simp_all
  .obtain⟨s,hs,e⟩:=g4.has x omg_ h2;grind
theorem Ch.congr{f g:F->F}{b:F}:∀{l:SgL}{a:F},Ch f b a l->(∀t,a<=t->t<b->f t=g t)->Ch g b a l
 |[],_,h,_=>h
 |u::r,a,h,hg=>by
  obtain⟨g1,g2,g3,g4⟩:=h;have:=g4.le;exact⟨g1,g2,λt t1 t2=>by grind,g4.congr (λt t1 t2=>hg t omg_ t2)⟩
theorem Cov.pos{f:F->F}{b:F}:∀{l:SgL}{q:È F}{a:F},Cov f b q a l->∀s∈l,s.1<s.2.1
 |[],_,_,_,s,hs=>by simp at hs
 |u::r,_,a,h,s,hs=>by
  rcases List.mem_cons.1 hs with rfl|hs
  .have:=h.1;have:=h.2.1;omega
  .exact h.2.2.2.2.pos s hs
theorem jCI{d:F}(h:j16 d=S É):0<=d:=by
 apply G;intro hd;simp only[j16,j8P,jil,jik,j4]at h;rw[j00 (show d<0 by omega)]at h;simp at h
def dsp(p:F×F×F)(d:F):F×Int:=
 (if d*86400-p.2.2>p.1 then d*86400-p.2.2 else p.1,if d*86400-p.2.2+86400<p.2.1 then d*86400-p.2.2+86400 else p.2.1)
theorem jCJ{ds:O F}(hd:∀d∈ds,0<=d/\d<=100000)(hl:ds.length<=64){p:F×F×F}(hp : -64800<=p.2.2/\p.2.2<=64800){m q z:F}{nm:ByteArray}{ps:O (F×F×F)}:∀(n i:Ò)(acc:SL),i+n=ds.length->acc.length+n<=1000000->
  j7I m q ds (ds.length:F) (i:F) nm z ds p.1 p.2.1 p.2.2 acc ps=S (m,q,nm,z,ds,acc++(ds.drop i).map (dsp p),ps)
 |0,i,acc,hi,_=>by
  rw[jb9];simp only[j3b];rw[j01 omg_,j7,j06,U omg_];simp
 |n+1,i,acc,hi,hacc=>by
  have hi':i<ds.length:=omg_;have hgd:ds.getD i (0:F)=ds[i]:=by simp[hi']
  have hdi:=hd _ (Á hi');rw[jb9];simp only[j3b];rw[j00 omg_,j0O];simp only[j6,j8,hgd];rw[j05 (x:=ds[i]*86400),j05 (x:=ds[i]*86400-p.2.2),j05 (x:=ds[i]*86400-p.2.2+86400),j05 (x:=(i:F)+1),j00 (by simp[j02];omega),R hi'];simp only[j6,j03,List.map_cons];have:=jCJ hd hl hp (m:=m) (q:=q) (z:=z) (nm:=nm) (ps:=ps) n (i+1) (acc++[dsp p ds[i]]) omg_ sqo_;rw[Ó]at this;exact this
theorem jCK{ds:O F}(hd:∀d∈ds,0<=d/\d<=100000)(hl:ds.length<=64){z:F}{nm:ByteArray}{ps:O (F×F×F)}(hps:∀p∈ps, -64800<=p.2.2/\p.2.2<=64800)(hpl:ps.length<=100):∀(n i:Ò)(acc:SL),i+n=ps.length->acc.length<=64*i->
  j7J (ps.length:F) (i:F) nm z ds acc ps=S (acc++(ps.drop i).flatMap λp=>ds.map (dsp p))
 |0,i,acc,hi,_=>by
  rw[jba];simp only[j3c];rw[j01 omg_,j7,j06,U omg_];simp
 |n+1,i,acc,hi,hacc=>by
  have hi':i<ps.length:=omg_;have hgd:ps.getD i (0,0,0)=ps[i]:=by simp[Ê,hi']
  have h2:=jCJ hd hl (hps _ (Á hi')) (m:=(ps.length:F)) (q:=(i:F)) (z:=z) (nm:=nm) (ps:=ps) ds.length 0 acc omg_ omg_;have ih:=jCK hd hl (z:=z) (nm:=nm) hps hpl n (i+1) (acc++ds.map (dsp ps[i])) omg_ sqo_;rw[jba];simp only[j3c];rw[j00 omg_,j0O];simp only[j6,j8,hgd,show Ä ds.length=(ds.length:F) from rfl];rw[show j7I (ps.length:F) (i:F) ds (ds.length:F) 0 nm z ds ps[i].1 ps[i].2.1 ps[i].2.2 acc ps=_ from h2];simp only[j4,Û];rw[j05 (x:=(i:F)+1),j03,R hi',Ô,<-Ó];exact ih
theorem jzA{α β:Type}(f:α->O β)(k:Ò)(hf:∀a,(f a).length=k):∀l:O α,(l.flatMap f).length=l.length*k
 |[]=>smp_
 |a::l=>by rw[Ô,I,jzA f k hf l,hf,Õ,Nat.add_mul,Nat.one_mul];omega
theorem jzB{p:F×F×F}{d x:F}:((dsp p d).1<=x/\x<(dsp p d).2)↔(p.1<=x/\x<p.2.1)/\(x+p.2.2)/86400=d:=by
 simp only[dsp];constructor
 .intro h;split at h<;>split at h<;>omega
 .intro h;split<;>split<;>omega
section
variable{zs:O j0D}{ps:O j0h}{cs:O CalT}(hs:SOk2 zs ps cs)
include hs
theorem jBb{x:CalT}(hx:CCk zs.length x){ss:O j0r}{a b:F}(ha:0<=a)(hab:a<=b)(hb:b<=8589934592){z:j0D}(hz:zs.getD x.2.1.toNat (E,0,[])=z) :
  ∃out,j3r ((zs,ps,cs,ss),zs.map tb) x a b=S out/\StS (a-1) out/\out.length<=x.2.2.length*((tb z).2.length+1)/\
   ∀t d,a<=t->t<b->j1B (tb z) t=S d->(inS t out↔d.1∈x.2.2):=by
 have hlen:(zs.map tb).length=zs.length:=Å ..;have hg:=jsf (zs:=zs) hx.z0 hx.z1;have hzk:=zget hs.so.ok hx.z0 hx.z1;rw[hz]at hg hzk;have ht:=hzk.ztab.2;have hll:(tb z).2.length<=20:=jB6 hzk;obtain⟨pc,e,pl,pm,pcov⟩:=jzt ht ha hab hb;have hxl:=hx.len;have hd:∀d∈x.2.2,0<=d/\d<=100000:=λd hd=>⟨jCI (hx.day d hd),jzv (hx.day d hd)⟩
 have hpo:∀p∈pc, -64800<=p.2.2/\p.2.2<=64800:=λp hp=>by
  obtain⟨_,_,_,i,i1,i2,_⟩:=pm p hp;have:=ht.of0 i i1;have:=ht.of1 i i1;omega
 have l0:=jCK hd hxl (z:=x.2.1) (nm:=x.1) hpo omg_ pc.length 0 [] omg_ smp_;rw[List.nil_append,Û]at l0;have hEl:(pc.flatMap λp=>x.2.2.map (dsp p)).length=pc.length*x.2.2.length:=jzA _ _ (λp=>Å ..) pc;have hm:pc.length*x.2.2.length<=((tb z).2.length+1)*x.2.2.length:=W _ pl;have hm2:((tb z).2.length+1)*x.2.2.length<=21*64:=Ì omg_ hxl
 have hmem:∀s∈(pc.flatMap λp=>x.2.2.map (dsp p)),∃p∈pc,∃d∈x.2.2,s=dsp p d:=λs h=>by
  obtain⟨p,hp,h⟩:=List.mem_flatMap.1 h;obtain⟨d,hd,rfl⟩:=List.mem_map.1 h;exact⟨p,hp,d,hd,rfl⟩
 obtain⟨out,e2,s1,s2,s3,s4⟩:=jeB (l:=pc.flatMap λp=>x.2.2.map (dsp p)) omg_ (λs h=>by
  obtain⟨p,hp,d,hdm,rfl⟩:=hmem s h;obtain⟨h1,h2,h3,_⟩:=pm p hp;have:=hpo p hp;have:=hd d hdm;simp only[dsp];refine⟨?_,?_,?_,?_⟩<;>split<;>omega) (lo:=a) (hi:=b) (λs h hlt=>by
  obtain⟨p,hp,d,hdm,rfl⟩:=hmem s h;obtain⟨h1,h2,h3,_⟩:=pm p hp;simp only[dsp]at hlt ⊢;refine⟨?_,?_⟩<;>split<;>omega)
 refine⟨out,?_,s1,by rw[Nat.mul_comm];omega,λt d h1 h2 hdd=>?_⟩
 .simp only[j3r];rw[j0X hx.z0 (by rw[hlen];exact hx.z1)];simp only[j6,hg,show j1T ((tb z).1,(tb z).2) a b=_ from e,j4,show Ä pc.length=(pc.length:F) from rfl];rw[show j7J (pc.length:F) 0 x.1 x.2.1 x.2.2 [] pc=_ from l0];simp only[j4,e2]
 .obtain⟨k,hk,k1,k2⟩:=jaq ht (t:=t) omg_ omg_;have:=jge ht hk k1 k2;have hdv:=hdd.symm.trans this;simp only[j5]at hdv;subst hdv;dsimp only;rw[s2 t];constructor
  .rintro⟨s,hs',h3,h4⟩
   obtain⟨p,hp,d,hdm,rfl⟩:=hmem s hs';obtain⟨c1,c2⟩:=jzB.1 ⟨h3,h4⟩;obtain⟨_,_,_,i,i1,i2,i3,i4⟩:=pm p hp;have:i=k:=jgg ht i1 hk (t:=t) omg_ omg_ k1 k2;subst this;rw[<-i2,c2];exact hdm
  .intro hdm;obtain⟨p,hp,c1,c2⟩:=pcov t h1 h2;obtain⟨_,_,_,i,i1,i2,i3,i4⟩:=pm p hp;have:i=k:=jgg ht i1 hk (t:=t) omg_ omg_ k1 k2;subst this;obtain⟨g1,g2⟩:=jzB.2 ⟨⟨c1,c2⟩,show (t+p.2.2)/86400=(t+tof z.2.1 (tb z).2 i)/86400 by rw[i2]⟩;exact⟨_,List.mem_flatMap.2 ⟨p,hp,List.mem_map.2 ⟨_,hdm,rfl⟩⟩,g1,g2⟩
omit hs in
def zAt(zs:O j0D)(i:F):j0D:=zs.getD i.toNat (E,0,[])
omit hs in
def cAt(cs:O CalT)(i:F):CalT:=cs.getD i.toNat (E,0,[])
omit hs in
def locD(z:j0D)(t:F):F×Int:=(j1B (tb z) t).getD (0,0)
omit hs in
def secD(d:F×F):Int:=(j7P d).getD 0
omit hs in
def shK(z:j0D)(L:j0b)(t:F):Int:=(j4l (tb z) L t).getD (-1)
omit hs in
def calB(zs:O j0D)(cs:O CalT)(L:j0b)(t:F):Bool:=
 cond (L.2.2.2.2.2.2.2.2==0) É (decide ((locD (zAt zs (cAt cs L.2.2.2.2.2.2.2.1).2.1) t).1∈(cAt cs L.2.2.2.2.2.2.2.1).2.2)==(L.2.2.2.2.2.2.2.2==(2:F)))
omit hs in
def onX(zs:O j0D)(cs:O CalT)(L:j0b)(t:F):Bool:=
 cond (decide (0<=shK (zAt zs L.2.1) L t)) (cond (okW L.2.2.2.2.2.2.1 (secD (locD (zAt zs L.2.1) t))) (calB zs cs L t) false) false
omit hs in
def perX(zs:O j0D)(cs:O CalT)(L:j0b)(t:F):Int:=cond (onX zs cs L t) (whoL L (shK (zAt zs L.2.1) L t)) (-1)
omit hs in
theorem jr3{z:j0D}(hz:ZOk z){t:F}(h0:0<=t)(h1:t<=8589934592):j1B (tb z) t=S (locD z t)/\j7P (locD z t)=S (secD (locD z t)):=by
 obtain⟨d,s,hd,hsc⟩:=jCx hz h0 h1;have:locD z t=d:=by simp[locD,hd]
 rw[this];exact⟨hd,by simp[secD,hsc]⟩
omit hs in
theorem jd9{z:j0D}(hz:ZOk z){L:j0b}(hR:Rt L){t:F}(h0:0<=t)(h1:t<=8589934592):j4l (tb z) L t=S (shK z L t)/\ShO z.2.1 (tb z).2 L t (shK z L t):=by
 obtain⟨K,e,hK⟩:=jDN hz.ztab.2 hR h0 h1;have:shK z L t=K:=by simp only[shK,show j4l (tb z) L t=_ from e,Ö]
 rw[this];exact⟨e,hK⟩
omit hs in
theorem jyt{L:j0b}{t:F}(h:onX zs cs L t=É):0<=shK (zAt zs L.2.1) L t:=by
 by_cases hk:0<=shK (zAt zs L.2.1) L t
 .exact hk
 .unfold onX at h;rw[j01 hk]at h;simp at h
theorem jwh{L:j0b}(hL:LCk zs.length ps.length cs.length L){t:F}(_h0:0<=t)(_h1:t<=8589934592):(onX zs cs L t=É↔0<=perX zs cs L t) /\ -1<=perX zs cs L t/\perX zs cs L t<ps.length:=by
 have hon:onX zs cs L t=É->0<=shK (zAt zs L.2.1) L t:=jyt;unfold perX;have hp:=hs.so.p0;cases hc:onX zs cs L t with
 |false=>simp;omega
 |true=>
  have hk:=hon hc;have hm0:=hL.m0;have q1:0<=X (shK (zAt zs L.2.1) L t) (L.2.2.2.2.2.1.length:F):=Ø _ hk;have q2:X (shK (zAt zs L.2.1) L t) (L.2.2.2.2.2.1.length:F)<(L.2.2.2.2.2.1.length:F):=Ï _ omg_;have hi:(X (shK (zAt zs L.2.1) L t) (L.2.2.2.2.2.1.length:F)).toNat<L.2.2.2.2.2.1.length:=omg_;have e:whoL L (shK (zAt zs L.2.1) L t)=L.2.2.2.2.2.1[(X (shK (zAt zs L.2.1) L t) (L.2.2.2.2.2.1.length:F)).toNat]:=by simp[whoL,Ê,hi]
  rw[j6,e];have:=hL.mem _ (Á hi);exact⟨⟨λ_=>this.1,λ_=>rfl⟩,omg_,this.2⟩
theorem jwi{L:j0b}(hL:LCk zs.length ps.length cs.length L){ss:O j0r}{a b:F}(ha:0<=a)(hab:a<=b)(hb:b<=8589934592){M:Ò}(hM:M<=60)(hlen:b-a<=604800*M) :
  ∃out,j7m ((zs,ps,cs,ss),zs.map tb) L a b=S out/\StS (a-1) out/\(∀t,inS t out↔a<=t/\t<b/\onX zs cs L t=É)/\
   out.length<=L.2.2.2.2.2.2.1.length*(M+1)*5+1+(if L.2.2.2.2.2.2.2.2=0 then 0 else (cAt cs L.2.2.2.2.2.2.2.1).2.2.length*5):=by
 have hRt:=hL.rt2;have hzl:(zs.map tb).length=zs.length:=Å ..;have hz:=zget hs.so.ok hL.z0 hL.z1;have hg:=jsf (zs:=zs) hL.z0 hL.z1;have hwl:=hL.wl;have hll:(tb (zAt zs L.2.1)).2.length<=4:=jd8 hz;obtain⟨v,ev,hv⟩:=recH hz.ztab.2 hRt (k:=0) omg_ omg_
 have hsh:∀t,a<=t->t<b->(0<=shK (zAt zs L.2.1) L t↔QO (zAt zs L.2.1).2.1 (tb (zAt zs L.2.1)).2 L t 0):=λt h1 h2=>by
  have hK:=(jd9 hz hRt (t:=t) omg_ omg_).2;constructor
  .intro hk;rcases hK with⟨hK,_⟩|⟨_,hq,_⟩
   .have:shK (zAt zs L.2.1) L t = -1:=hK;omega
   .exact QO.le hz.ztab.2 hRt hk hq
  .intro hq;rcases hK with⟨_,hn⟩|⟨hk,_,_⟩
   .exact absurd hq hn
   .exact hk
 have hoff:∀t,a<=t->t<b->¬QO (zAt zs L.2.1).2.1 (tb (zAt zs L.2.1)).2 L t 0->onX zs cs L t=false:=λt h1 h2 hq=>by
  unfold onX;rw[j01 (λh=>hq ((hsh t h1 h2).1 h))];rfl
 simp only[j7m,j98];rw[j0X hL.z0 (by rw[hzl];exact hL.z1)];simp only[j6,hg];rw[show j0S ((tb (zs.getD L.2.1.toNat (E,0,[]))).1,(tb (zs.getD L.2.1.toNat (E,0,[]))).2) (L.1,L.2.1,(L.2.2.1.1,L.2.2.1.2),L.2.2.2.1,L.2.2.2.2.1,L.2.2.2.2.2.1,L.2.2.2.2.2.2.1,L.2.2.2.2.2.2.2.1,L.2.2.2.2.2.2.2.2) 0=_ from ev];simp only[j4]
 have hemp:∀(P:∀t,a<=t->t<b->onX zs cs L t=false),∃out,S ([]:SL)=S out/\StS (a-1) out/\(∀t,inS t out↔a<=t/\t<b/\onX zs cs L t=É)/\
   out.length<=L.2.2.2.2.2.2.1.length*(M+1)*5+1+(if L.2.2.2.2.2.2.2.2=0 then 0 else (cAt cs L.2.2.2.2.2.2.2.1).2.2.length*5):=λP=>
  ⟨[],rfl,trivial,λt=>⟨λh=>absurd h j33,λ⟨h1,h2,h3⟩=>by rw[P t h1 h2]at h3;simp at h3⟩,Nat.zero_le _⟩
 cases hh:hO (zs.getD L.2.1.toNat (E,0,[])).2.1 (tb (zs.getD L.2.1.toNat (E,0,[]))).2 L 0 with
 |none=>
  simp only[Ð,Ç,j6]
  exact hemp λt h1 h2=>hoff t h1 h2 (by
   rintro⟨u,hu,_⟩
   have hu':=hh.symm.trans hu;simp at hu')
 |some u=>
  have:=hv u hh;subst this
  have hq:∀t,QO (zAt zs L.2.1).2.1 (tb (zAt zs L.2.1)).2 L t 0↔v<=t:=λt=>⟨λ⟨u,hu,hut⟩=>by
   have hu':=hh.symm.trans hu;simp only[j5]at hu';omega,λh=>⟨v,hh,h⟩⟩
  simp only[Ñ,Ý,j7];by_cases hvb:v>=b
  .rw[j00 hvb];simp only[j6];exact hemp λt h1 h2=>hoff t h1 h2 (λh=>by have:=(hq t).1 h;omega)
  .rw[j01 hvb];simp only[j7];by_cases hab2:a>=b
   .rw[j00 hab2];simp only[j6];exact hemp λt h1 h2=>omg_
   .rw[j01 hab2];simp only[j7];obtain⟨c,hc,hca,hcv,hcb,hcc⟩:∃c:F,c=(if v>a then v else a)/\a<=c/\v<=c/\c<b/\∀t,a<=t->t<c->t<v:=⟨_,rfl,by split<;>omega,by split<;>omega,by split<;>omega,λt h1 h2=>by split at h2<;>omega⟩;rw[<-hc]
    obtain⟨A,hA1,hA2,hA3,hA4,hA5,hA6⟩:∃A:SL,((L.2.2.2.2.2.2.1.length:F)>0->j30 (tb (zAt zs L.2.1)) L.2.2.2.2.2.2.1 c b=S A)/\(¬(L.2.2.2.2.2.2.1.length:F)>0->A=[(c,b)])/\StS (c-1) A/\
      (∀t,inS t A->t<b)/\(∀t,c<=t->t<b->(inS t A↔okW L.2.2.2.2.2.2.1 (secD (locD (zAt zs L.2.1) t))=É))/\A.length<=L.2.2.2.2.2.2.1.length*(M+1)*5+1:=by
     by_cases hw:(L.2.2.2.2.2.2.1.length:F)>0
     .obtain⟨A,e,s1,s2,s3,s4⟩:=jmQ hz.ztab.2 (Þ hll omg_) hL.w hwl hM (a:=c) (b:=b) omg_ omg_ hb omg_;refine⟨A,λ_=>e,λh=>absurd hw h,s1,λt ⟨s,hs',h1,h2⟩=>by have:=(s2 s hs').2;omega,λt h1 h2=>?_,?_⟩
      .obtain⟨k,hk,k1,k2⟩:=jaq hz.ztab.2 (t:=t) omg_ omg_;rw[s4 k hk t h1 h2 k1 k2];have hloc:locD (zAt zs L.2.1) t=((t+tof (zAt zs L.2.1).2.1 (tb (zAt zs L.2.1)).2 k)/86400,(t+tof (zAt zs L.2.1).2.1 (tb (zAt zs L.2.1)).2 k)%86400):=by unfold locD;rw[show j1B (tb (zAt zs L.2.1)) t=_ from jge hz.ztab.2 hk k1 k2];rfl
       have o0:=hz.ztab.2.of0 k hk;have o1:=hz.ztab.2.of1 k hk;have hsec:secD (locD (zAt zs L.2.1) t)=(t+tof (zAt zs L.2.1).2.1 (tb (zAt zs L.2.1)).2 k+259200)%604800:=by rw[hloc];simp only[secD,j7P];have o0' : -64800<=tof (zAt zs L.2.1).2.1 (tb (zAt zs L.2.1)).2 k:=o0;have o1':tof (zAt zs L.2.1).2.1 (tb (zAt zs L.2.1)).2 k<=64800:=o1;rw[jgf _ omg_];simp only[j4,Ö];generalize tof (zAt zs L.2.1).2.1 (tb (zAt zs L.2.1)).2 k=o at *;rw[j05 (x:=((t+o)/86400+3)%7*86400),j05];omega
       rw[hsec];unfold okW;rw[j00 hw];rfl
      .have:L.2.2.2.2.2.2.1.length*(M+1)*((tb (zAt zs L.2.1)).2.length+1)<=L.2.2.2.2.2.2.1.length*(M+1)*5:=Î _ omg_;have s3':A.length<=L.2.2.2.2.2.2.1.length*(M+1)*((tb (zAt zs L.2.1)).2.length+1):=s3;omega
     .refine⟨[(c,b)],λh=>absurd h hw,λ_=>rfl,⟨by dsimp only;omega,hcb,trivial⟩,λt h=>?_,λt h1 h2=>?_,smp_⟩
      .rcases j0a.1 h with h|h
       .exact h.2
       .exact absurd h j33
      .unfold okW;rw[j01 hw];exact⟨λ_=>rfl,λ_=>j0a.2 (.inl ⟨h1,h2⟩)⟩
    have hA7:A.length<=30000:=by have:L.2.2.2.2.2.2.1.length*(M+1)<=14*61:=Ì hwl omg_;omega
    have hfin:∀out:SL,StS (c-1) out->(∀t,inS t out->t<b)->(∀t,c<=t->t<b->(inS t out↔inS t A/\calB zs cs L t=É))->StS (a-1) out/\∀t,inS t out↔a<=t/\t<b/\onX zs cs L t=true:=λout h1 h2 h3=>by
     refine⟨h1.weak omg_,λt=>⟨λhx=>?_,λ⟨g1,g2,g3⟩=>?_⟩⟩
     .have l1:=StS.low h1 hx;have l2:=h2 t hx;refine⟨omg_,l2,?_⟩;have:=(h3 t omg_ l2).1 hx;unfold onX;rw[j00 ((hsh t omg_ l2).2 ((hq t).2 omg_)),(hA5 t omg_ l2).1 this.1,this.2];rfl
     .have hk:=jyt g3;have hvt:=(hq t).1 ((hsh t g1 g2).1 hk);have hct:c<=t:=by apply G;intro hn;have:=hcc t g1 omg_;omega
      refine(h3 t hct g2).2 ⟨(hA5 t hct g2).2 ?_,?_⟩
      .unfold onX at g3;rw[j00 hk]at g3;revert g3;cases okW L.2.2.2.2.2.2.1 (secD (locD (zAt zs L.2.1) t))<;>simp
      .unfold onX at g3;rw[j00 hk]at g3;revert g3;cases okW L.2.2.2.2.2.2.1 (secD (locD (zAt zs L.2.1) t))<;>simp
    by_cases hm:L.2.2.2.2.2.2.2.2=0
    .have hout:=hfin A hA3 hA4 (λt _ _=>by unfold calB;rw[j43 hm];simp);rw[j1G (show¬L.2.2.2.2.2.2.2.2=1 by omega),j1G (show¬L.2.2.2.2.2.2.2.2=2 by omega),if_pos hm];simp only[j7];by_cases hw:(L.2.2.2.2.2.2.1.length:F)>0
     .rw[oLn_ L.2.2.2.2.2.2.1,j00 hw,j6,show j30 ((tb (zs.getD L.2.1.toNat (E,0,[]))).1,(tb (zs.getD L.2.1.toNat (E,0,[]))).2) L.2.2.2.2.2.2.1 c b=_ from hA1 hw];simp only[j4];exact⟨A,rfl,hout.1,hout.2,omg_⟩
     .rw[oLn_ L.2.2.2.2.2.2.1,j01 hw,j7,<-hA2 hw];exact⟨A,rfl,hout.1,hout.2,omg_⟩
    .have hcal:=hL.cal hm;have hx:=cget hs hcal.1 hcal.2;have hxz:=zget hs.so.ok hx.z0 hx.z1;have hll2:(tb (zAt zs (cAt cs L.2.2.2.2.2.2.2.1).2.1)).2.length<=4:=jd8 hxz;obtain⟨D,e2,d1,d2,d3⟩:=jBb hs hx (ss:=ss) (a:=c) (b:=b) omg_ omg_ hb rfl
     have hDl:D.length<=(cAt cs L.2.2.2.2.2.2.2.1).2.2.length*5:=Þ d2 (Î _ (by
      have:(tb (zAt zs (cAt cs L.2.2.2.2.2.2.2.1).2.1)).2.length+1<=5:=omg_;exact this))
     have hDl2:D.length<=2000:=by have:=hx.len;have h64:(cAt cs L.2.2.2.2.2.2.2.1).2.2.length<=64:=this;omega
     have hdx:∀t,c<=t->t<b->(inS t D↔(locD (zAt zs (cAt cs L.2.2.2.2.2.2.2.1).2.1) t).1∈(cAt cs L.2.2.2.2.2.2.2.1).2.2):=λt h1 h2=>d3 t _ h1 h2 (jr3 hxz omg_ omg_).1;rw[if_neg hm,j0X hcal.1 hcal.2];have hmode:L.2.2.2.2.2.2.2.2=1\/L.2.2.2.2.2.2.2.2=2:=by have:=hL.mode0;have:=hL.mode1;omega
     rcases hmode with hm1|hm2
     .obtain⟨out,e3,w1,w2,w3⟩:=jj8 omg_ hA3 d1 omg_
      have hout:=hfin out w1 (λt h=>hA4 t ((w2 t).1 h).1) (λt h1 h2=>by
       rw[w2 t,hdx t h1 h2];unfold calB;rw[j1G hm,j1G (show¬L.2.2.2.2.2.2.2.2=2 by omega),j7];simp)
      rw[j43 hm1];simp only[j6];by_cases hw:(L.2.2.2.2.2.2.1.length:F)>0
      .rw[oLn_ L.2.2.2.2.2.2.1,j00 hw,j6,show j30 ((tb (zs.getD L.2.1.toNat (E,0,[]))).1,(tb (zs.getD L.2.1.toNat (E,0,[]))).2) L.2.2.2.2.2.2.1 c b=_ from hA1 hw];simp only[j4];refine⟨out,?_,hout.1,hout.2,omg_⟩;rw[show j3r ((zs,ps,cs,ss),zs.map tb) ((cs.getD L.2.2.2.2.2.2.2.1.toNat (E,0,[])).1,(cs.getD L.2.2.2.2.2.2.2.1.toNat (E,0,[])).2.1,(cs.getD L.2.2.2.2.2.2.2.1.toNat (E,0,[])).2.2) c b=_ from e2];simp only[j4,e3]
      .rw[oLn_ L.2.2.2.2.2.2.1,j01 hw,j7,<-hA2 hw];refine⟨out,?_,hout.1,hout.2,omg_⟩;rw[show j3r ((zs,ps,cs,ss),zs.map tb) ((cs.getD L.2.2.2.2.2.2.2.1.toNat (E,0,[])).1,(cs.getD L.2.2.2.2.2.2.2.1.toNat (E,0,[])).2.1,(cs.getD L.2.2.2.2.2.2.2.1.toNat (E,0,[])).2.2) c b=_ from e2];simp only[j4,e3]
     .obtain⟨out,e3,w1,w2,w3⟩:=jpF hA3 d1 omg_ omg_
      have hout:=hfin out w1 (λt h=>hA4 t ((w2 t).1 h).1) (λt h1 h2=>by
       rw[w2 t,hdx t h1 h2];unfold calB;rw[j1G hm,j43 hm2,j7];simp)
      rw[j1G (show¬L.2.2.2.2.2.2.2.2=1 by omega),j43 hm2];simp only[j6,j7];by_cases hw:(L.2.2.2.2.2.2.1.length:F)>0
      .rw[oLn_ L.2.2.2.2.2.2.1,j00 hw,j6,show j30 ((tb (zs.getD L.2.1.toNat (E,0,[]))).1,(tb (zs.getD L.2.1.toNat (E,0,[]))).2) L.2.2.2.2.2.2.1 c b=_ from hA1 hw];simp only[j4];refine⟨out,?_,hout.1,hout.2,omg_⟩;rw[show j3r ((zs,ps,cs,ss),zs.map tb) ((cs.getD L.2.2.2.2.2.2.2.1.toNat (E,0,[])).1,(cs.getD L.2.2.2.2.2.2.2.1.toNat (E,0,[])).2.1,(cs.getD L.2.2.2.2.2.2.2.1.toNat (E,0,[])).2.2) c b=_ from e2];simp only[j4,e3]
      .rw[oLn_ L.2.2.2.2.2.2.1,j01 hw,j7,<-hA2 hw];refine⟨out,?_,hout.1,hout.2,omg_⟩;rw[show j3r ((zs,ps,cs,ss),zs.map tb) ((cs.getD L.2.2.2.2.2.2.2.1.toNat (E,0,[])).1,(cs.getD L.2.2.2.2.2.2.2.1.toNat (E,0,[])).2.1,(cs.getD L.2.2.2.2.2.2.2.1.toNat (E,0,[])).2.2) c b=_ from e2];simp only[j4,e3]
end
theorem jyu(l:SgL)(x y:SgT):(l++[x]).set l.length y=l++[y]:=by
 rw[List.set_append_right _ _ (Nat.le_refl _)];simp
theorem jwj(out:SgL)(s:SgT):(mgA out s).length<=out.length+1:=by
 unfold mgA;split
 .omega
 .rcases Z out with rfl|⟨l,u,rfl⟩
  .simp
  .rw[À,Ã];simp only[Y,Ë];split
   .simp
   .simp
theorem jwk:∀(l out:SgL),(l.foldl mgA out).length<=out.length+l.length
 |[],out=>smp_
 |s::r,out=>by
  have:=jwk r (mgA out s);have:=jwj out s;simp only[Ù,Õ];omega
theorem jCL{l:SgL}(hl:l.length<=1000000000):∀(n i:Ò)(out:SgL),i+n=l.length->out.length<=i->j99 l (l.length:F) (i:F) out=S ((l.drop i).foldl mgA out)
 |0,i,out,hi,ho=>by
  rw[jeJ];simp only[j51,j3z];rw[j01 omg_,j7,j06,U omg_];rfl
 |n+1,i,out,hi,ho=>by
  have hi':i<l.length:=omg_;have hgd:l.getD i (0,0,0)=l[i]:=by simp[Ê,hi']
  have ih:∀out':SgL,out'=mgA out l[i]->j99 l (l.length:F) ((i:F)+1) out'=S ((l.drop i).foldl mgA out):=λout' he=>by
   rw[R hi',Ù,<-he];have:=jwj out l[i];exact jCL hl n (i+1) out' omg_ (by rw[he];omega)
  rw[jeJ];simp only[j51,j3z];rw[j00 omg_,j0O];simp only[j6,j8,hgd,show Ä out.length=(out.length:F) from rfl];rw[j05 (x:=(i:F)+1)];generalize l[i]=s at *;by_cases hs:s.2.1<=s.1
  .rw[j00 hs,j6,j03];exact ih _ (by unfold mgA;rw[if_pos hs])
  .rw[j01 hs,j7];rcases Z out with rfl|⟨o,u,rfl⟩
   .simp only[List.length_nil];rw[j01 (show¬((0:Ò):F)>0 by omega),j7,j00 (show 0+[(s.1,s.2.1,s.2.2)].length<=j02 by simp[j02]),j6,j03];exact ih _ (by unfold mgA;rw[if_neg hs];rfl)
   .rw[À]at ih ho ⊢;have hol:(o++[u]).length=o.length+1:=smp_;rw[hol]at ho;have hg2:(o++[u]).getD o.length (0,0,0)=u:=by simp[Ê]
    rw[hol,j00 (show ((o.length+1:Ò):F)>0 by omega),j6,j05 (x:=((o.length+1:Ò):F)-1),show ((o.length+1:Ò):F)-1=(o.length:F) by omega,j0O];simp only[j6,j8,hg2];have hmg:mgA (o++[u]) s=if u.2.1=s.1/\u.2.2=s.2.2 then o++[(u.1,s.2.1,u.2.2)] else (o++[u])++[s]:=by unfold mgA;rw[if_neg hs,Ã];simp only[Y,Ë,Í]
    by_cases h1:u.2.1=s.1
    .rw[j43 h1,j6];by_cases h2:u.2.2=s.2.2
     .rw[j43 h2,j6,j03,jyu];exact ih _ (by rw[hmg,if_pos ⟨h1,h2⟩])
     .rw[j1G h2,j7,j00 (show o.length+1+[(s.1,s.2.1,s.2.2)].length<=j02 by simp[j02];omega),j6,j03];exact ih _ (by rw[hmg,if_neg (λh=>h2 h.2)])
    .rw[j1G h1,j7,j00 (show o.length+1+[(s.1,s.2.1,s.2.2)].length<=j02 by simp[j02];omega),j6,j03];exact ih _ (by rw[hmg,if_neg (λh=>h1 h.1)])
theorem jwl{l:SgL}(hl:l.length<=1000000000):jac l=S (l.foldl mgA []):=by
 simp only[jac,show Ä l.length=(l.length:F) from rfl];rw[show j99 l (l.length:F) 0 []=_ from jCL hl l.length 0 [] omg_ smp_];rfl
theorem jlF{f:F->F}{a b:F}{l:SgL}(hl:l.length<=1000000000)(h:Ch f b a l):∃out,jac l=S out/\Cov f b Ú a out/\out.length<=l.length:=
 ⟨_,jwl hl,h.cov,by have:=jwk l [];simpa using this⟩
section
variable{zs:O j0D}{ps:O j0h}{cs:O CalT}(hs:SOk2 zs ps cs)
include hs
theorem jlG{L:j0b}(hL:LCk zs.length ps.length cs.length L){t u:F}(h0:0<=t)(htu:t<=u)(h1:u<=8589934592):shK (zAt zs L.2.1) L t<=shK (zAt zs L.2.1) L u:=by
 have hz:=zget hs.so.ok hL.z0 hL.z1;have a:=(jd9 hz hL.rt2 (t:=t) h0 omg_).2;have b:=(jd9 hz hL.rt2 (t:=u) omg_ h1).2;show shK (zAt zs L.2.1) L t<=shK (zAt zs L.2.1) L u;have a':ShO (zAt zs L.2.1).2.1 (tb (zAt zs L.2.1)).2 L t (shK (zAt zs L.2.1) L t):=a;have b':ShO (zAt zs L.2.1).2.1 (tb (zAt zs L.2.1)).2 L u (shK (zAt zs L.2.1) L u):=b;generalize shK (zAt zs L.2.1) L t=K at *;generalize shK (zAt zs L.2.1) L u=K' at *;rcases a' with⟨a1,a2⟩|⟨a1,⟨v,hv,hvt⟩,a3⟩<;>rcases b' with⟨b1,b2⟩|⟨b1,b2,b3⟩
 .omega
 .omega
 .exact absurd (QO.le hz.ztab.2 hL.rt2 a1 ⟨v,hv,omg_⟩) b2
 .apply G;intro hn;exact b3 (QO.le hz.ztab.2 hL.rt2 (show K'+1<=K by omega) ⟨v,hv,omg_⟩)
def Cch(z:j0D)(L:j0b)(k nx t:F):Prop:=t<nx->(∀u,t<=u->u<nx->u<=8589934592->shK z L u=k)/\(nx<=8589934592->k<shK z L nx)
theorem jBc{L:j0b}(hL:LCk zs.length ps.length cs.length L){t:F}(h0:0<=t)(h1:t<=8589934592)(hk:0<=shK (zAt zs L.2.1) L t){v:F}{ok:Bool}
  (hv:j0S (tb (zAt zs L.2.1)) L (shK (zAt zs L.2.1) L t+1)=S (v,ok)):t<(cond ok v 8589934593)/\Cch (zAt zs L.2.1) L (shK (zAt zs L.2.1) L t) (cond ok v 8589934593) t:=by
 have hz:=zget hs.so.ok hL.z0 hL.z1;have a:=(jd9 hz hL.rt2 (t:=t) h0 h1).2;have a':ShO (zAt zs L.2.1).2.1 (tb (zAt zs L.2.1)).2 L t (shK (zAt zs L.2.1) L t):=a;have hu:∀u,t<=u->u<=8589934592->ShO (zAt zs L.2.1).2.1 (tb (zAt zs L.2.1)).2 L u (shK (zAt zs L.2.1) L u):=λu _ h2=>(jd9 hz hL.rt2 (t:=u) omg_ h2).2;generalize hK:shK (zAt zs L.2.1) L t=K at *;rcases a' with⟨a1,a2⟩|⟨a1,⟨w,hw,hwt⟩,a3⟩
 .omega
 .have hat:=jr1 hz.ztab.2 hL.rt2 a1 hw;obtain⟨v',ev,hv'⟩:=recH hz.ztab.2 hL.rt2 (k:=K+1) omg_ omg_;have:=ev.symm.trans hv;simp only[j5,j9]at this;obtain⟨rfl,rfl⟩:=this;cases hh:hO (zs.getD L.2.1.toNat (E,0,[])).2.1 (tb (zs.getD L.2.1.toNat (E,0,[]))).2 L (K+1) with
  |none=>
   simp only[Ð,j7]
   exact⟨omg_,λ_=>⟨λu h2 h3 h4=>ShO.uniq hz.ztab.2 hL.rt2 (hu u h2 h4) (.inr ⟨a1,⟨w,hw,omg_⟩,λ⟨x,hx,_⟩=>by
    have hx':=hh.symm.trans hx;simp at hx'⟩),λh=>omg_⟩⟩
  |some x=>
   have:=hv' x hh;subst this;simp only[Ñ,j6]
   refine⟨?_,λ_=>⟨λu h2 h3 h4=>ShO.uniq hz.ztab.2 hL.rt2 (hu u h2 h4) (.inr ⟨a1,⟨w,hw,omg_⟩,λ⟨x,hx,hxu⟩=>by
    have hx':=hh.symm.trans hx;simp only[j5]at hx';omega⟩),λhle=>?_⟩⟩
   rotate_left
   .have hle':v'<=8589934592:=hle;have htv:t<=v':=by apply G;intro hn;exact a3 ⟨_,hh,omg_⟩
    have b':=hu v' htv hle';rcases b' with⟨b1,b2⟩|⟨b1,b2,b3⟩
    .exact absurd (QO.le hz.ztab.2 hL.rt2 (show (0:F)<=K+1 by omega) ⟨_,hh,H _⟩) b2
    .apply G;intro hn;exact b3 (QO.le hz.ztab.2 hL.rt2 (show shK (zAt zs L.2.1) L v'+1<=K+1 by omega) ⟨_,hh,H _⟩)
   apply G;intro hn;exact a3 ⟨_,hh,omg_⟩
theorem jCM{L:j0b}(hL:LCk zs.length ps.length cs.length L){k:F}(hk:0<=k):∃_:(X k (L.2.2.2.2.2.1.length:F)).toNat<L.2.2.2.2.2.1.length,0<=X k (L.2.2.2.2.2.1.length:F)/\X k (L.2.2.2.2.2.1.length:F)<(L.2.2.2.2.2.1.length:F)/\L.2.2.2.2.2.1.getD (X k (L.2.2.2.2.2.1.length:F)).toNat 0=whoL L k:=by
 have _:=hs;have hm0:=hL.m0;have q1:0<=X k (L.2.2.2.2.2.1.length:F):=Ø _ hk;have q2:X k (L.2.2.2.2.2.1.length:F)<(L.2.2.2.2.2.1.length:F):=Ï _ omg_;exact⟨omg_,q1,q2,rfl⟩
theorem jCN{L:j0b}(hL:LCk zs.length ps.length cs.length L){a b e p m j:F}{sp:SL}(ha:0<=a)(he:e<=8589934592){B:F}(hB:B<=1000000):∀(n:Ò)(t k nx:F)(acc:SgL),e-t=n->a<=t->
  (∀u,t<=u->u<e->onX zs cs L u=É)->Cch (zAt zs L.2.1) L k nx t->Ch (perX zs cs L) t a acc->(t<e->(acc.length:F)<=B+shK (zAt zs L.2.1) L t)->
  (t=e->a<e->(acc.length:F)<=B+1+shK (zAt zs L.2.1) L (e-1))->
  ∃k' nx' acc',j3A b t k nx m j L.1 L.2.1 L.2.2.1.1 L.2.2.1.2 L.2.2.2.1 L.2.2.2.2.1 L.2.2.2.2.2.1 L.2.2.2.2.2.2.1 L.2.2.2.2.2.2.2.1 L.2.2.2.2.2.2.2.2 (tb (zAt zs L.2.1)).1 (tb (zAt zs L.2.1)).2 p e acc sp=
   S (b,e,k',nx',m,j,L.1,L.2.1,L.2.2.1.1,L.2.2.1.2,L.2.2.2.1,L.2.2.2.2.1,L.2.2.2.2.2.1,L.2.2.2.2.2.2.1,L.2.2.2.2.2.2.2.1,L.2.2.2.2.2.2.2.2,(tb (zAt zs L.2.1)).1,(tb (zAt zs L.2.1)).2,acc',sp)/\
   Cch (zAt zs L.2.1) L k' nx' e/\Ch (perX zs cs L) e a acc'/\(a<e->(acc'.length:F)<=B+1+shK (zAt zs L.2.1) L (e-1))
 |n,t,k,nx,acc,hn,hat,hon,hc,hch,hl,hl2=>by
  have hz:=zget hs.so.ok hL.z0 hL.z1;rw[jdG];simp only[j37,j41];by_cases hte:t<e
  .rw[j00 hte,j6];have hont:=hon t (H _) hte;obtain⟨eK,hK⟩:j4l (tb (zAt zs L.2.1)) L t=S (shK (zAt zs L.2.1) L t)/\ShO (zAt zs L.2.1).2.1 (tb (zAt zs L.2.1)).2 L t (shK (zAt zs L.2.1) L t):=jd9 hz hL.rt2 (t:=t) omg_ omg_;have hk0:0<=shK (zAt zs L.2.1) L t:=jyt hont
   have hkm:shK (zAt zs L.2.1) L t<=2386092:=by
    have hK':ShO (zAt zs L.2.1).2.1 (tb (zAt zs L.2.1)).2 L t (shK (zAt zs L.2.1) L t):=hK;rcases hK' with⟨h1,_⟩|⟨h1,⟨w,hw,_⟩,_⟩
    .omega
    .exact(jr1 hz.ztab.2 hL.rt2 h1 hw).2.2
   obtain⟨_,q1,q2,q3⟩:=jCM hs hL hk0;have hm0:=hL.m0;have hlt:=hl hte
   have step:∀nx':F,t<nx'->Cch (zAt zs L.2.1) L (shK (zAt zs L.2.1) L t) nx' t->∀acc':SgL,acc'=acc++[(t,(if nx'<e then nx' else e),whoL L (shK (zAt zs L.2.1) L t))]->
     ∃k'' nx'' acc'',j3A b (if nx'<e then nx' else e) (shK (zAt zs L.2.1) L t) nx' m j L.1 L.2.1 L.2.2.1.1 L.2.2.1.2 L.2.2.2.1 L.2.2.2.2.1 L.2.2.2.2.2.1 L.2.2.2.2.2.2.1 L.2.2.2.2.2.2.2.1 L.2.2.2.2.2.2.2.2 (tb (zAt zs L.2.1)).1 (tb (zAt zs L.2.1)).2 p e acc' sp=
      S (b,e,k'',nx'',m,j,L.1,L.2.1,L.2.2.1.1,L.2.2.1.2,L.2.2.2.1,L.2.2.2.2.1,L.2.2.2.2.2.1,L.2.2.2.2.2.2.1,L.2.2.2.2.2.2.2.1,L.2.2.2.2.2.2.2.2,(tb (zAt zs L.2.1)).1,(tb (zAt zs L.2.1)).2,acc'',sp)/\
      Cch (zAt zs L.2.1) L k'' nx'' e/\Ch (perX zs cs L) e a acc''/\(a<e->(acc''.length:F)<=B+1+shK (zAt zs L.2.1) L (e-1)):=by
    rintro nx' hnx hc' _ rfl
    obtain⟨t',ht',h1,h2,h3,h4⟩:∃t':F,t'=(if nx'<e then nx' else e)/\t<t'/\t'<=e/\t'<=nx'/\(t'<e->t'=nx'):=⟨_,rfl,by split<;>omega,by split<;>omega,by split<;>omega,λh=>by
     by_cases hx:nx'<e
     .rw[if_pos hx]
     .rw[if_neg hx]at h;omega⟩
    rw[<-ht']
    refine jCN hL ha he hB (e-t').toNat t' (shK (zAt zs L.2.1) L t) nx' _ omg_ omg_ (λu u1 u2=>hon u omg_ u2) (λh5=>⟨λu u1 u2 u3=>(hc' hnx).1 u omg_ u2 u3,(hc' hnx).2⟩)
     (hch.snoc omg_ (λu u1 u2=>?_)) (λhlt'=>?_) (λheq _=>?_)
    .unfold perX;rw[hon u u1 omg_,(hc' hnx).1 u u1 omg_ omg_];rfl
    .have hm:=jlG hs hL (t:=t) (u:=t') omg_ omg_ omg_;have hne:shK (zAt zs L.2.1) L t<shK (zAt zs L.2.1) L t':=by have:=h4 hlt';subst this;exact(hc' hnx).2 omg_
     simp only[I,J];omega
    .have hm:=jlG hs hL (t:=t) (u:=e-1) omg_ omg_ omg_;simp only[I,J];omega
   by_cases htn:t>=nx
   .rw[j00 htn,j6];rw[show j4l ((tb (zAt zs L.2.1)).1,(tb (zAt zs L.2.1)).2) (L.1,L.2.1,(L.2.2.1.1,L.2.2.1.2),L.2.2.2.1,L.2.2.2.2.1,L.2.2.2.2.2.1,L.2.2.2.2.2.2.1,L.2.2.2.2.2.2.2.1,L.2.2.2.2.2.2.2.2) t=_ from eK];simp only[j4];rw[j05 (x:=shK (zAt zs L.2.1) L t+1)];obtain⟨v,ev,_⟩:=recH hz.ztab.2 hL.rt2 (k:=shK (zAt zs L.2.1) L t+1) omg_ omg_;have hcn:=jBc hs hL (t:=t) omg_ omg_ hk0 ev;rw[show j0S ((tb (zAt zs L.2.1)).1,(tb (zAt zs L.2.1)).2) (L.1,L.2.1,(L.2.2.1.1,L.2.2.1.2),L.2.2.2.1,L.2.2.2.2.1,L.2.2.2.2.2.1,L.2.2.2.2.2.2.1,L.2.2.2.2.2.2.2.1,L.2.2.2.2.2.2.2.2) (shK (zAt zs L.2.1) L t+1)=_ from ev];simp only[j4,show Ä L.2.2.2.2.2.1.length=(L.2.2.2.2.2.1.length:F) from rfl];rw[j1G (show¬(L.2.2.2.2.2.1.length:F)=0 by omega),j0X q1 q2];have hsz:∀x:SgT,acc.length+[x].length<=j02:=λx=>by simp[j02];omega
    revert hcn
    generalize (hO (zs.getD L.2.1.toNat (E,0,[])).2.1 (tb (zs.getD L.2.1.toNat (E,0,[]))).2 L (shK (zAt zs L.2.1) L t+1)).isSome=ok
    cases ok with
    |false=>intro hcn;simp only[Ç,j6];rw[j00 (hsz _),j6,j03];exact step 8589934593 hcn.1 hcn.2 _ (by rw[q3])
    |true=>intro hcn;simp only[Ý,Ç,j7,j6];rw[j00 (hsz _),j6,j03];exact step v hcn.1 hcn.2 _ (by rw[q3])
   .have hk:=(hc omg_).1 t (H _) omg_ omg_;subst hk;rw[j01 htn,j7];simp only[show Ä L.2.2.2.2.2.1.length=(L.2.2.2.2.2.1.length:F) from rfl];rw[j1G (show¬(L.2.2.2.2.2.1.length:F)=0 by omega),j0X q1 q2];simp only[Ç,j6];rw[j00 (show acc.length+[_].length<=j02 by simp[j02];omega),j6,j03];exact step nx omg_ hc _ (by rw[q3])
  .have hte':t=e:=omg_;subst hte';rw[j01 hte,j7,j06];exact⟨k,nx,acc,rfl,hc,hch,hl2 rfl⟩
 termination_by n=>n
theorem jCO{L:j0b}(hL:LCk zs.length ps.length cs.length L){a b:F}(ha:0<=a)(hb:b<=8589934592){A:SL}(hA:A.length<=400000)(hA2:∀t,inS t A↔a<=t/\t<b/\onX zs cs L t=É)
  {k0:F}{N:Ò}(hN:N<=4000000)(hk0 : -1<=k0)(hkN:∀t,a<=t->t<b->onX zs cs L t=É->k0<=shK (zAt zs L.2.1) L t/\shK (zAt zs L.2.1) L t<=k0+N) :
  ∀(n j:Ò)(t k nx Kc:F)(acc:SgL),j+n=A.length->a<=t->t<=b->StS (t-1) (A.drop j)->(∀u,t<=u->(inS u A↔inS u (A.drop j)))->Cch (zAt zs L.2.1) L k nx t->Ch (perX zs cs L) t a acc->
   k0<=Kc->Kc<=k0+N->(∀u,t<=u->inS u A->Kc<=shK (zAt zs L.2.1) L u)->(acc.length:F)<=2*j+(Kc-k0)->
  ∃t' acc',j3B b t k nx (A.length:F) (j:F) L.1 L.2.1 L.2.2.1.1 L.2.2.1.2 L.2.2.2.1 L.2.2.2.2.1 L.2.2.2.2.2.1 L.2.2.2.2.2.2.1 L.2.2.2.2.2.2.2.1 L.2.2.2.2.2.2.2.2 (tb (zAt zs L.2.1)).1 (tb (zAt zs L.2.1)).2 acc A=S (b,t',acc')/\
   Ch (perX zs cs L) b a (acc'++[(t',b, -1)])/\acc'.length<=2*A.length+N
 |0,j,t,k,nx,Kc,acc,hj,hat,htb,hst,hin,hc,hch,hK1,hK2,hK3,hl=>by
  rw[j8Q];simp only[j1Y];rw[j01 omg_,j7,j06];refine⟨t,acc,rfl,hch.snoc htb (λu u1 u2=>?_),omg_⟩
  have:onX zs cs L u=false:=by
   cases ho:onX zs cs L u with
   |false=>rfl
   |true=>have:=(hin u u1).1 ((hA2 u).2 ⟨omg_,u2,ho⟩);rw[U omg_]at this;exact absurd this j33
  unfold perX;rw[this];rfl
 |n+1,j,t,k,nx,Kc,acc,hj,hat,htb,hst,hin,hc,hch,hK1,hK2,hK3,hl=>by
  have hj':j<A.length:=omg_;have hgd:A.getD j (0,0)=A[j]:=by simp[Ê,hj']
  rw[R hj']at hst hin;obtain⟨s1,s2,s3⟩:=hst;have hon:∀u,A[j].1<=u->u<A[j].2->inS u A:=λu u1 u2=>(hin u omg_).2 (j0a.2 (.inl ⟨u1,u2⟩));have hp1:=(hA2 A[j].1).1 (hon _ (H _) s2);have hp2:=(hA2 (A[j].2-1)).1 (hon _ omg_ omg_);have hKj:=hK3 A[j].1 omg_ (hon _ (H _) s2);rw[j8Q];simp only[j1Y];rw[j00 (show (j:F)<(A.length:F) by omega),j0O];simp only[j6,j8,hgd];rw[j00 (show acc.length+[_].length<=j02 by simp[j02];omega),j6]
  obtain⟨k',nx',acc',e2,c2,h2,l2⟩:=jCN hs hL (a:=a) (b:=b) (e:=A[j].2) (p:=A[j].1) (m:=(A.length:F)) (j:=(j:F)) (sp:=A) ha omg_ (B:=2*j+1-k0) omg_ (A[j].2-A[j].1).toNat A[j].1 k nx
   (acc++[(t,A[j].1, -1)]) omg_ omg_ (λu u1 u2=>((hA2 u).1 (hon u u1 u2)).2.2) (λh5=>by
    have h6:=hc omg_;exact⟨λu u1 u2 u3=>h6.1 u omg_ u2 u3,h6.2⟩) (hch.snoc omg_ (λu u1 u2=>by
    have:onX zs cs L u=false:=by
     cases ho:onX zs cs L u with
     |false=>rfl
     |true=>
      have:=(hin u u1).1 ((hA2 u).2 ⟨omg_,omg_,ho⟩);rcases j0a.1 this with h|h
      .omega
      .have:=StS.low s3 h;omega
    unfold perX;rw[this];rfl)) (λ_=>by rw[I,J];omega) (λh=>omg_)
  rw[e2];simp only[j4];rw[j05 (x:=(j:F)+1),j03];have hl2:=l2 omg_;have hr:=hkN (A[j].2-1) omg_ omg_ hp2.2.2
  exact jCO hL ha hb hA hA2 hN hk0 hkN n (j+1) A[j].2 k' nx' (shK (zAt zs L.2.1) L (A[j].2-1)) acc' omg_ omg_ omg_ (s3.weak omg_) (λu hu=>by
   rw[hin u omg_,j0a]
   exact⟨λh=>by
    rcases h with h|h
    .omega
    .exact h,.inr⟩) c2 h2 hr.1 hr.2 (λu hu hiu=>by
   have:=(hA2 u).1 hiu;exact jlG hs hL omg_ omg_ omg_) omg_
theorem jwm{L:j0b}(hL:LCk zs.length ps.length cs.length L){ss:O j0r}{a b:F}(ha:0<=a)(hab:a<=b)(hb:b<=8589934592){M:Ò}(hM:M<=60)(hlen:b-a<=604800*M)
  {k0:F}{N:Ò}(hN:N<=4000000)(hk0 : -1<=k0)(hkN:∀t,a<=t->t<b->onX zs cs L t=É->k0<=shK (zAt zs L.2.1) L t/\shK (zAt zs L.2.1) L t<=k0+N) :
  ∃out,j28 ((zs,ps,cs,ss),zs.map tb) L a b=S out/\Cov (perX zs cs L) b Ú a out/\
   out.length<=2*(L.2.2.2.2.2.2.1.length*(M+1)*5+1+(if L.2.2.2.2.2.2.2.2=0 then 0 else (cAt cs L.2.2.2.2.2.2.2.1).2.2.length*5))+N+1:=by
 have hzl:(zs.map tb).length=zs.length:=Å ..;have hg:=jsf (zs:=zs) hL.z0 hL.z1;obtain⟨A,e1,s1,s2,s3⟩:=jwi hs hL (ss:=ss) ha hab hb hM hlen
 have hAl:A.length<=400000:=by
  have h1:L.2.2.2.2.2.2.1.length*(M+1)<=14*61:=Ì hL.wl omg_;by_cases hm:L.2.2.2.2.2.2.2.2=0
  .rw[if_pos hm]at s3;omega
  .rw[if_neg hm]at s3;have hx:=(cget hs (hL.cal hm).1 (hL.cal hm).2).len;have h64:(cAt cs L.2.2.2.2.2.2.2.1).2.2.length<=64:=hx;omega
 obtain⟨t',acc,e2,h2,l2⟩:=jCO hs hL ha hb hAl s2 hN hk0 hkN A.length 0 a (-1) (-1) k0 [] omg_ (H _) hab s1 (λu _=>smp_) (λh=>omg_) rfl (H _) omg_ (λu hu hiu=>by
  have:=(s2 u).1 hiu;exact(hkN u this.1 this.2.1 this.2.2).1) smp_
 obtain⟨out,e3,h3,l3⟩:=jlF (l:=acc++[(t',b, -1)]) (by rw[I,J];omega) h2;refine⟨out,?_,h3,by rw[I,J]at l3;omega⟩;simp only[j28];rw[j0X hL.z0 (by rw[hzl];exact hL.z1)];simp only[j6,hg];rw[show j7m ((zs,ps,cs,ss),zs.map tb) (L.1,L.2.1,(L.2.2.1.1,L.2.2.1.2),L.2.2.2.1,L.2.2.2.2.1,L.2.2.2.2.2.1,L.2.2.2.2.2.2.1,L.2.2.2.2.2.2.2.1,L.2.2.2.2.2.2.2.2) a b=_ from e1];simp only[j4,show Ä A.length=(A.length:F) from rfl];rw[show j3B b a (-1) (-1) (A.length:F) 0 L.1 L.2.1 L.2.2.1.1 L.2.2.1.2 L.2.2.2.1 L.2.2.2.2.1 L.2.2.2.2.2.1 L.2.2.2.2.2.2.1 L.2.2.2.2.2.2.2.1 L.2.2.2.2.2.2.2.2 (tb (zs.getD L.2.1.toNat (E,0,[]))).1 (tb (zs.getD L.2.1.toNat (E,0,[]))).2 [] A=_ from e2];simp only[j4];rw[j00 (show acc.length+[_].length<=j02 by simp[j02];omega),j6,e3];rfl
end
section
variable{zs:O j0D}{ps:O j0h}{cs:O CalT}(hs:SOk2 zs ps cs)
include hs
omit hs in
theorem Fst.near{o:F}{l:TrL}(h:TOk o l){s t:F}{k:Ò}(f:Fst o l s t k)(hs:0<=s):s-64800<=t/\t<=s+64800:=by
 obtain⟨p1,p2,p3⟩:=f.piece h;have hk:=f.hk;have o1:=h.of1 k hk;have o0:=h.of0 k hk;have ht:=f.ht;refine⟨omg_,?_⟩;by_cases h0:k=0
 .subst h0;have e0:frm l 0=0:=frm0;omega
 .obtain⟨j,rfl⟩:∃j,k=j+1:=⟨k-1,omg_⟩;have b:=f.bef j omg_;have o2:=h.of0 j omg_;omega
theorem jBd{L:j0b}(hL:LCk zs.length ps.length cs.length L){t u:F}(h0:0<=t)(htu:t<=u)(h1:u<=8589934592):shK (zAt zs L.2.1) L u<=shK (zAt zs L.2.1) L t+(u-t)/3600+8:=by
 have hz:=zget hs.so.ok hL.z0 hL.z1;have hst:=hL.rt2.step;have he0:=hL.rt2.e0;have hc0:=hL.c0;have hd:=hL.d0;have a':ShO (zAt zs L.2.1).2.1 (tb (zAt zs L.2.1)).2 L t (shK (zAt zs L.2.1) L t):=(jd9 hz hL.rt2 (t:=t) h0 omg_).2;have b':ShO (zAt zs L.2.1).2.1 (tb (zAt zs L.2.1)).2 L u (shK (zAt zs L.2.1) L u):=(jd9 hz hL.rt2 (t:=u) omg_ h1).2;generalize shK (zAt zs L.2.1) L t=K at *;generalize shK (zAt zs L.2.1) L u=K' at *;have hK : -1<=K:=by rcases a' with⟨h,_⟩|⟨h,_⟩<;>omega
 have hn:¬QO (zAt zs L.2.1).2.1 (tb (zAt zs L.2.1)).2 L t (K+1):=by
  rcases a' with⟨h,h2⟩|⟨_,_,h2⟩
  .rw[h];exact h2
  .exact h2
 by_cases hKK:K'<=K+1
 .omega
 .rcases b' with⟨h,_⟩|⟨hK0,⟨v,hv,hvu⟩,_⟩
  .omega
  .obtain⟨w,hw,hwu⟩:QO (zAt zs L.2.1).2.1 (tb (zAt zs L.2.1)).2 L u (K+1):=QO.le hz.ztab.2 hL.rt2 (show K+1<=K' by omega) ⟨v,hv,hvu⟩;have hwt:t<w:=by apply G;intro hx;exact hn ⟨w,hw,omg_⟩
   have hm:3600*(K'-(K+1))<=3600*L.2.2.2.2.1*(K'-(K+1)):=Â omg_ omg_;by_cases hu:L.2.2.2.1=0
   .unfold hO at hv hw;rw[if_pos hu]at hv hw;cases hf:fO (zAt zs L.2.1).2.1 (tb (zAt zs L.2.1)).2 (sLoc L 0) with
    |none=>rw[hf]at hv;simp at hv
    |some x=>
     rw[hf]at hv hw;simp only[j4]at hv hw;split at hv
     .split at hw
      .simp only[j5]at hv hw;have e:3600*L.2.2.2.2.1*(K'-(K+1))=3600*L.2.2.2.2.1*K'-3600*L.2.2.2.2.1*(K+1):=ß ..;omega
      .simp at hw
     .simp at hv
   .unfold hO at hv hw;rw[if_neg hu]at hv hw;obtain⟨k1,f1⟩:=jtI hv;obtain⟨k2,f2⟩:=jtI hw;have e:(K'-(K+1))*j2V L=K'*j2V L-(K+1)*j2V L:=à ..;have hm2:(K'-(K+1))*1<=(K'-(K+1))*j2V L:=Æ hst.1 omg_;have hm3:0<=(K+1)*j2V L:=Ü omg_ omg_;have g1:=f1.near hz.ztab.2 (by unfold sLoc;omega);have g2:=f2.near hz.ztab.2 (by unfold sLoc;omega);unfold sLoc at g1 g2;omega
theorem jwn{L:j0b}(hL:LCk zs.length ps.length cs.length L){a b:F}(ha:0<=a)(hb:b<=8589934592):∀t,a<=t->t<b->onX zs cs L t=É->shK (zAt zs L.2.1) L a<=shK (zAt zs L.2.1) L t/\shK (zAt zs L.2.1) L t<=shK (zAt zs L.2.1) L a+(((b-a)/3600+8).toNat:F):=λt h1 h2 _=>by
 have e1:=jlG hs hL (t:=a) (u:=t) ha h1 omg_;have e2:=jBd hs hL (t:=a) (u:=t) ha h1 omg_;omega
theorem jCP{L:j0b}(hL:LCk zs.length ps.length cs.length L){t:F}(h0:0<=t)(h1:t<=8589934592) : -1<=shK (zAt zs L.2.1) L t:=by
 have hz:=zget hs.so.ok hL.z0 hL.z1;have a':ShO (zAt zs L.2.1).2.1 (tb (zAt zs L.2.1)).2 L t (shK (zAt zs L.2.1) L t):=(jd9 hz hL.rt2 (t:=t) h0 h1).2;rcases a' with⟨h,_⟩|⟨h,_⟩<;>omega
section
variable{ss:O j0r}(g0:ss.length<=12)(g1:NmL (ss.map (·.1)))(g2:∀s∈ss,SCk zs.length ps.length cs.length s)
 {L:j0b}(hL:LCk zs.length ps.length cs.length L)(hn:j8O L.1=S É)
include g0 g1 g2 hL hn
end
end
section
variable{zs:O j0D}{ps:O j0h}{cs:O CalT}(hs:SOk2 zs ps cs)
include hs
theorem jyv{L:j0b}(hL:LCk zs.length ps.length cs.length L){t u:F}(h0:0<=t)(htu:t<=u)(h1:u<=8589934592):shK (zAt zs L.2.1) L u<=shK (zAt zs L.2.1) L t+(u-t)/21600+8:=by
 have hz:=zget hs.so.ok hL.z0 hL.z1;have hst:=hL.rt2.step;have he0:=hL.rt2.e0;have hc0:=hL.c0;have hd:=hL.d0;have a':ShO (zAt zs L.2.1).2.1 (tb (zAt zs L.2.1)).2 L t (shK (zAt zs L.2.1) L t):=(jd9 hz hL.rt2 (t:=t) h0 omg_).2;have b':ShO (zAt zs L.2.1).2.1 (tb (zAt zs L.2.1)).2 L u (shK (zAt zs L.2.1) L u):=(jd9 hz hL.rt2 (t:=u) omg_ h1).2;generalize shK (zAt zs L.2.1) L t=K at *;generalize shK (zAt zs L.2.1) L u=K' at *;have hK : -1<=K:=by rcases a' with⟨h,_⟩|⟨h,_⟩<;>omega
 have hn:¬QO (zAt zs L.2.1).2.1 (tb (zAt zs L.2.1)).2 L t (K+1):=by
  rcases a' with⟨h,h2⟩|⟨_,_,h2⟩
  .rw[h];exact h2
  .exact h2
 by_cases hKK:K'<=K+1
 .omega
 .rcases b' with⟨h,_⟩|⟨hK0,⟨v,hv,hvu⟩,_⟩
  .omega
  .obtain⟨w,hw,hwu⟩:QO (zAt zs L.2.1).2.1 (tb (zAt zs L.2.1)).2 L u (K+1):=QO.le hz.ztab.2 hL.rt2 (show K+1<=K' by omega) ⟨v,hv,hvu⟩;have hwt:t<w:=by apply G;intro hx;exact hn ⟨w,hw,omg_⟩
   by_cases hu:L.2.2.2.1=0
   .have h6:=hL.h6 hu;have hm:21600*(K'-(K+1))<=3600*L.2.2.2.2.1*(K'-(K+1)):=Â omg_ omg_;unfold hO at hv hw;rw[if_pos hu]at hv hw;cases hf:fO (zAt zs L.2.1).2.1 (tb (zAt zs L.2.1)).2 (sLoc L 0) with
    |none=>rw[hf]at hv;simp at hv
    |some x=>
     rw[hf]at hv hw;simp only[j4]at hv hw;split at hv
     .split at hw
      .simp only[j5]at hv hw;have e:3600*L.2.2.2.2.1*(K'-(K+1))=3600*L.2.2.2.2.1*K'-3600*L.2.2.2.2.1*(K+1):=ß ..;omega
      .simp at hw
     .simp at hv
   .unfold hO at hv hw;rw[if_neg hu]at hv hw;obtain⟨k1,f1⟩:=jtI hv;obtain⟨k2,f2⟩:=jtI hw;have e:(K'-(K+1))*j2V L=K'*j2V L-(K+1)*j2V L:=à ..;have hm2:(K'-(K+1))*1<=(K'-(K+1))*j2V L:=Æ hst.1 omg_;have hm3:0<=(K+1)*j2V L:=Ü omg_ omg_;have g1:=f1.near hz.ztab.2 (by unfold sLoc;omega);have g2:=f2.near hz.ztab.2 (by unfold sLoc;omega);unfold sLoc at g1 g2;omega
theorem jtL{L:j0b}(hL:LCk zs.length ps.length cs.length L){a b:F}(ha:0<=a)(hb:b<=8589934592):∀t,a<=t->t<b->onX zs cs L t=É->shK (zAt zs L.2.1) L a<=shK (zAt zs L.2.1) L t/\shK (zAt zs L.2.1) L t<=shK (zAt zs L.2.1) L a+(((b-a)/21600+8).toNat:F):=λt h1 h2 _=>by
 have e1:=jlG hs hL (t:=a) (u:=t) ha h1 omg_;have e2:=jyv hs hL (t:=a) (u:=t) ha h1 omg_;omega
theorem jo3{L:j0b}(hL:LCk zs.length ps.length cs.length L){ss:O j0r}{a b:F}(ha:0<=a)(hab:a<=b)(hb:b<=8589934592){M:Ò}(hM:M<=60)(hlen:b-a<=604800*M) :
  ∃out,j28 ((zs,ps,cs,ss),zs.map tb) L a b=S out/\Cov (perX zs cs L) b Ú a out/\out.length<=58*M+81:=by
 obtain⟨out,e,h1,h2⟩:=jwm hs hL (ss:=ss) ha hab hb hM hlen (N:=((b-a)/21600+8).toNat) omg_ (jCP hs hL ha omg_) (jtL hs hL ha hb);refine⟨out,e,h1,?_⟩;have hw:L.2.2.2.2.2.2.1.length*(M+1)*5<=3*(M+1)*5:=W _ (W _ hL.w3)
 have hc:(if L.2.2.2.2.2.2.2.2=0 then 0 else (cAt cs L.2.2.2.2.2.2.2.1).2.2.length*5)<=4*5:=by
  by_cases hm:L.2.2.2.2.2.2.2.2=0
  .rw[if_pos hm];omega
  .rw[if_neg hm];refine W _ (hs.c.dl _ ?_);have hq:=hL.cal hm;have hi:(L.2.2.2.2.2.2.2.1).toNat<cs.length:=omg_;unfold cAt;rw[show cs.getD (L.2.2.2.2.2.2.2.1).toNat (E,0,[])=cs[(L.2.2.2.2.2.2.2.1).toNat] by simp[Ê,hi]];exact Á hi
 omega
end
end Go.Proofs.Pw
