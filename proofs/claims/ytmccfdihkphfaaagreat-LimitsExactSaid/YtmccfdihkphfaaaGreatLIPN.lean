/- Chapter 18 for any configurations: all people, reachable, worked. -/
import Derived.Test.YtmccfdihkphfaaaGreatLIPM
import Derived.Test.YtmccfdihkphfaaaGreatLIPA
import Derived.Test.YtmccfdihkphfaaaGreatLIPI
import Derived.Test.YtmccfdihkphfaaaGreatLILD
open _root_ renaming Int->m,List->z,Nat->H
open Option renaming some->D
open List renaming perm_ext_iff_of_nodup->E,drop_eq_getElem_cons->F,drop_of_length_le->I,replicate->K,getD->O,getElem_mem->U
open Bool renaming not_true->G,false->W
open Int renaming ofNat->J
open Go Go.Lft
set_option maxHeartbeats 1000000
namespace Go.Proofs.Pw
section
variable{a b i:m}{zs:z j0K}{ps:z j0k}{cs:z CalT}{ss:z j0R}
theorem jF2{V:SgL}(hl:V.length<=16384):∀(n j:H)(B:SgL),j+n=V.length->B.length<=700000+j->B.Pairwise ltV->
  ∃B',jhq a b i (j:m) zs ps cs ss B V=D (a,b,i,zs,ps,cs,ss,B')/\B'.Pairwise ltV/\(∀y,y∈B'↔y∈B\/y∈V.drop j)/\B'.length<=B.length+n
 |0,j,B,hj,_,h=>by
  rw[jjl];simp(disch:=omega)only[j8v,I,S0]
  simp_all
 |n+1,j,B,hj,hB,h=>by
  have hlt:j<V.length:=omg_;have hgd:V.getD j (0,0,0)=V[j]:=by simp[O,hlt]
  obtain⟨B1,e1,h1,m1,l1⟩:=jjP omg_ h V[j];obtain⟨B2,e2,h2,m2,l2⟩:=jF2 hl n (j+1) B1 omg_ omg_ h1;rw[jjl];simp(disch:=omega)only[F hlt,j8v,show jfv B (V[j].1,V[j].2.1,V[j].2.2)=_ from e1,S0];grind
end
section
variable{zs:z j0K}{ps:z j0k}{cs:z CalT}{ss:z j0R}
theorem jsV{l:SgL}(h:l.Pairwise ltV):l.Nodup:=h.imp (λh e=>by grind[ltV])
theorem jBr(hv:CV (zs,ps,cs,ss))(hl:ss.length<=4)(hpl:ps.length<=32){a b:m}:∀(n i:H)(acc B:SgL),i+n=ps.length->acc.length<=16384*i->acc.Nodup->(∀v∈acc,v.2.1<(i:m)/\SmV v)->B.Pairwise ltV->(∀y,y∈B↔y∈acc)->
  (∃e,j8R a b (ps.length:m) (i:m) zs ps cs ss acc=D (.inl e)/\jcH a b (i:m) zs ps cs ss B=D (.inl e))\/
  ∃acc' B',j8R a b (ps.length:m) (i:m) zs ps cs ss acc=D (.inr acc')/\jcH a b (i:m) zs ps cs ss B=D (.inr B')/\acc'.length<=16384*ps.length/\acc'.Nodup/\(∀v∈acc',SmV v)/\B'.Pairwise ltV/\∀y,y∈B'↔y∈acc'
 |0,i,acc,B,hi,ha,hn,hp,hB,hm=>by
  rw[jg2,jjm];simp(disch:=omega)only[j6n,j8w,S0]
  simp_all
 |n+1,i,acc,B,hi,ha,hn,hp,hB,hm=>by
  obtain⟨V,e,e1,e2,lV,hV,bV⟩:=jyC hv hl (i:m) a b;have hBl:B.length=acc.length:=((E (jsV hB) hn).2 hm).length_eq;rw[jg2,jjm];simp only[j6n,j8w,show J ps.length=(ps.length:m) from rfl];rw[j00 (show (i:m)<(ps.length:m) by omega),j6,j6,show j1H (zs,ps,cs,ss) (i:m) a b=_ from e1,show j3h (zs,ps,cs,ss) (i:m) a b=_ from e2];simp only[j4];by_cases he:e=0
  case neg=>grind[j0e]
  subst he;have h16:16384*i<=16384*31:=Nat.mul_le_mul_left _ omg_;obtain⟨B',f1,f2,f3,f4⟩:=jF2 (a:=a) (b:=b) (i:=(i:m)) (zs:=zs) (ps:=ps) (cs:=cs) (ss:=ss) lV V.length 0 B omg_ omg_ hB;rw[List.drop_zero]at f3;simp(disch:=omega)only[show jhq a b (i:m) 0 zs ps cs ss B V=_ from f1,S0];refine jBr hv hl hpl n (i+1) (acc++V) B' omg_ (by rw[List.length_append];omega) ?_ (λv hv'=>?_) f2 (λy=>by simp_all);all_goals grind[jsV]
theorem jDc(hv:CV (zs,ps,cs,ss))(hl:ss.length<=4)(a b:m):∃V e,jeY (zs,ps,cs,ss) a b=D (V,e)/\jmm (zs,ps,cs,ss) a b=D (V,e)/\V.length<=16384:=by
 obtain⟨e,e1,e2,e3,v,ok,eO,f1⟩:=jEv hv;by_cases he:e=0
 case neg=>have hb:=f1 he;subst hb;refine⟨[],8,?_,?_,smp_⟩;all_goals grind[jeY,jmm]
 subst he;have hc:=e3 rfl;have hpl:ps.length<=32:=hc.g.pl;obtain⟨w,w1,_⟩:=jEr a b;have w1':jaW a b=D w:=w1;simp only[jeY,jmm,hc.of,e2,j4,G,j7,bne_self_eq_false,w1,w1'];cases w with
 |false=>simp_all
 |true=>
  simp only[G,j7,show J ps.length=(ps.length:m) from rfl];rcases jBr hv hl hpl (a:=a) (b:=b) ps.length 0 [] [] omg_ smp_ smp_ smp_ List.Pairwise.nil smp_ with⟨e,g1,g2⟩|⟨acc,B,g1,g2,h1,h2,h3,h4,h5⟩
  .rw[show j8R a b (ps.length:m) 0 zs ps cs ss []=_ from g1,show jcH a b 0 zs ps cs ss []=_ from g2];exact⟨[],e,rfl,rfl,smp_⟩
  .have h16:16384*ps.length<=16384*32:=Nat.mul_le_mul_left _ omg_;have hBl:B.length=acc.length:=((E (jsV h4) h2).2 h5).length_eq;rw[show j8R a b (ps.length:m) 0 zs ps cs ss []=_ from g1,show jcH a b 0 zs ps cs ss []=_ from g2];simp only[j4,j8D,show J acc.length=(acc.length:m) from rfl,hBl];by_cases h6:(acc.length:m)>16384
   .simp_all
   .obtain⟨L,k1,k2,k3⟩:=ju5 (l:=acc) omg_ h3;have hnd:L.Nodup:=k2.nodup_iff.2 h2;have hL:L.Pairwise ltV:=(k3.and hnd).imp (λh=>jBh h.1 (λe=>h.2 e.symm));have hLB:L=B:=jBq hL h4 (λy=>by rw[k2.mem_iff,h5]);rw[j01 h6,j7,j7,k1,hLB];grind
theorem jAd(hv:CV (zs,ps,cs,ss))(p t:m)(u:Bool):∃r,j4V (zs,ps,cs,ss) p t u=D r/\jam (zs,ps,cs,ss) p t u=D r:=by
 obtain⟨v,e1,o1,o2,o3⟩:=jBn hv p t t;by_cases he:e1=0
 case neg=>
  have hne:(e1 != 0)=true:=by simpa using he
  refine⟨W,?_,?_⟩;all_goals grind[j4V,jam]
 obtain⟨rfl,hc,⟨p0,p1⟩,ht0,_,ht1,_⟩:=o3 he;subst he;obtain⟨i,rfl⟩:∃i:H,p=i:=⟨p.toNat,omg_⟩;have hi:i<ps.length:=omg_;have hP:=jub hv hc _ (U hi);have hz:ZOk (zAt zs ps[i].2.1):=zget hc.g.ok hP.z0 hP.z1;obtain⟨l1,l2⟩:=jpi hz ht0 ht1;obtain⟨_,ein⟩:=jAE hz ht0 ht1 hP.w hP.wl;have hgd:ps.getD i (ByteArray.empty,0,[],0,0,W)=ps[i]:=by simp[O,hi]
 refine⟨cond (cond u ps[i].2.2.2.2.2 W) true (!hasB (secD (locD (zAt zs ps[i].2.1) t)) ps[i].2.2.1),?_,?_⟩
 .simp(disch:=omega)only[j4V,show j5z (zs,ps,cs,ss) (i:m) t t=_ from o1,S0];grind[tabx,PC0.z0,PC0.z1,jDF,PC0.wl]
 .simp(disch:=omega)only[jam,show jbI (zs,ps,cs,ss) (i:m) t t=_ from o2,S0];grind[j0B,PC0.z0,PC0.z1,zAt]
end
def badV(l:SL)(i:H):Prop:=(l.getD i (0,0)).1<0\/(l.getD i (0,0)).1>=(l.getD i (0,0)).2\/(l.getD i (0,0)).2>8589934592\/(0<i/\(l.getD i (0,0)).1<=(l.getD (i-1) (0,0)).2)
theorem jyD{l:SL}(hl:l.length<=4096):∀(n i:H),i+n=l.length->(∀j,j<i->¬badV l j)->
  (j7i l l (l.length:m) (i:m)=D (.inl W)/\j6Y l (i:m)=D (.inl W))\/
  (j7i l l (l.length:m) (i:m)=D (.inr ())/\j6Y l (i:m)=D (.inr ())/\∀j,j<l.length->¬badV l j)
 |0,i,hi,h=>by
  grind[jg4,jak,j6p,j45,j0e]
 |n+1,i,hi,h=>by
  have hlt:i<l.length:=omg_
  have nb:¬badV l i->∀j,j<i+1->¬badV l j:=λhb j hj=>by
   grind
  rw[jg4,jak];simp only[j6p,j45,show J l.length=(l.length:m) from rfl];rw[j00 (show (i:m)<(l.length:m) by omega),j0B (show (0:m)<=(i:m) by omega) (show (i:m)<(l.length:m) by omega),j07 (x:=(i:m)+1)];simp only[j6,j8];by_cases h1:(l.getD i (0,0)).1<0
  .rw[j00 h1];exact .inl ⟨rfl,rfl⟩
  rw[j01 h1];simp only[j7];by_cases h2:(l.getD i (0,0)).1>=(l.getD i (0,0)).2
  .rw[j00 h2];exact .inl ⟨rfl,rfl⟩
  rw[j01 h2];simp only[j7];by_cases h3:(l.getD i (0,0)).2>8589934592
  .rw[j00 h3];exact .inl ⟨rfl,rfl⟩
  rw[j01 h3];simp only[j7];by_cases h0:i=0
  .subst h0;simp(disch:=omega)only[S0];exact jyD hl n 1 omg_ (nb (λhb=>by rcases hb with hb|hb|hb|hb<;>first|exact h1 hb|exact h2 hb|exact h3 hb|exact absurd hb.1 omg_))
  .rw[j00 (show (i:m)>0 by omega),j6,j6,j07 (x:=(i:m)-1),j0B (show (0:m)<=(i:m)-1 by omega) omg_,show ((i:m)-1).toNat=i-1 by omega];simp only[j6];by_cases h4:(l.getD i (0,0)).1<=(l.getD (i-1) (0,0)).2
   .rw[j00 h4];exact .inl ⟨rfl,rfl⟩
   .rw[j01 h4];simp only[j7,j04];exact jyD hl n (i+1) omg_ (nb (λhb=>by rcases hb with hb|hb|hb|hb<;>first|exact h1 hb|exact h2 hb|exact h3 hb|exact h4 hb.2))
theorem job{l:SL}:∀(r:SL)(k:H)(p:m),l.drop k=r->(∀j,j<l.length->¬badV l j)->(k=0->p = -1)->(0<k->p=(l.getD (k-1) (0,0)).2)->StS p r
 |[],_,_,_,_,_,_=>trivial
 |s::r,k,p,hr,hb,h0,h1=>by
  have hk:k<l.length:=by apply Classical.byContradiction;intro h;rw[I omg_]at hr;simp at hr
  rw[F hk]at hr;simp only[List.cons.injEq]at hr;have hg:l.getD k (0,0)=s:=by rw[<-hr.1];simp[O,hk]
  have hn:=hb k hk;unfold badV at hn;rw[hg]at hn;refine⟨?_,omg_,job r (k+1) s.2 hr.2 hb (λh=>omg_) (λ_=>by rw[show k+1-1=k by omega,hg])⟩;by_cases hz:k=0
  .rw[h0 hz];omega
  .rw[h1 omg_];omega
theorem jF3(l:SL):∃v,jhs l=D v/\jbL l=D v/\(v=true->l.length<=4096/\StS (-1) l/\∀s∈l,0<=s.1/\s.2<=8589934592):=by
 simp(disch:=omega)only[jhs,jbL,S0];by_cases hl:(l.length:m)>4096
 .simp_all
 rw[j01 hl];rcases jyD (l:=l) omg_ l.length 0 omg_ (λj hj=>omg_) with⟨g1,g2⟩|⟨g1,g2,g3⟩
 .rw[show j7i l l (l.length:m) 0=_ from g1,show j6Y l 0=_ from g2];exact⟨W,rfl,rfl,smp_⟩
 .rw[show j7i l l (l.length:m) 0=_ from g1,show j6Y l 0=_ from g2];refine⟨true,rfl,rfl,λ_=>⟨omg_,job l 0 (-1) rfl g3 (λ_=>rfl) (λh=>omg_),λs hs=>?_⟩⟩;grind[List.getElem_of_mem,badV]
theorem jyE{t:m}(ht:t<0):∀{l:SL},(∀s∈l,0<=s.1)->wkd t l=0
 |[],_=>rfl
 |s::r,h=>by
  have:=h s smp_;have ih:=jyE ht (l:=r) (λu hu=>h u (by simp[hu]));simp only[wkd,wk1,ih];omega
theorem jyF(l:SL)(t:m):∃n,jcw l t=D n/\jht l t=D n:=by
 obtain⟨v,v1,v2,v3⟩:=jF3 l;simp only[jcw,jht,v1,v2,j4];cases v with
 |false=>exact⟨0,rfl,rfl⟩
 |true=>
  obtain⟨hl,hS,hb⟩:=v3 rfl
  have hsml:Sml l:=λs hq=>by
   have h1:=hb s hq;have h2:=(hS.mem s hq).2;omega
  simp only[G,j7];by_cases ht:t<0
  .rw[j00 ht,show (if (-1:m)>t then (-1:m) else t) = -1 by split<;>omega,show (if (17179869184:m) < -1 then (17179869184:m) else -1) = -1 by rfl,jjM omg_ omg_ omg_ hsml hS,jyE omg_ (λs hs=>(hb s hs).1)];exact⟨0,rfl,rfl⟩
  .have hm0 : -1000000000000<=(if (17179869184:m)<t then (17179869184:m) else t):=by split<;>omega
   have hm1:(if (17179869184:m)<t then (17179869184:m) else t)<=1000000000000:=by split<;>omega
   simp(disch:=omega)only[show (if (-1:m)>t then (-1:m) else t)=t by split<;>omega,jjM omg_ hm0 hm1 hsml hS,jiC (show l.length<=1000000 by omega) hm0 hm1 hsml hS,S0];exact⟨_,rfl,rfl⟩
theorem jBs{l:SL}(hl:l.length<=100)(hb:∀u∈l,0<=u.1/\u.1<u.2/\u.2<=1000):∀(n i:H)(B:z m)(o s:SL),i+n=l.length->DInv (l.take i) B o s->
  ∃B' o' s',jcu l (i:m) B o s=D (.inr (B',o',s'))/\DInv l B' o' s'
 |0,i,B,o,s,hi,h=>by
  rw[jg3];simp(disch:=omega)only[j6o,S0];rw[List.take_of_length_le omg_]at h;exact⟨B,o,s,rfl,h⟩
 |n+1,i,B,o,s,hi,h=>by
  have hlt:i<l.length:=omg_;have hgd:l.getD i (0,0)=l[i]:=by simp[O,hlt]
  have hu:=hb _ (U hlt);have hBl:=h.len;have htl:(l.take i).length=i:=by rw[List.length_take];omega
  have r1:=jpx l[i].1 (l.take i);have r2:=jpy l[i].2 (l.take i);obtain⟨B',o',s',e,h'⟩:=jBs hl hb n (i+1) _ _ _ omg_ (by rw[List.take_succ_eq_append_getElem hlt];exact h.snoc l[i]);rw[jg3];simp(disch:=omega)only[j6o,h.o,h.s,S0];exact⟨B',o',s',e,h'⟩
theorem jF4(d i:m)(B:z m)(o s out:SL):jjn d i B o s out=j8P d i B o s out:=rfl
theorem jsW{l:SL}(hl:l.length<=100)(hb:∀u∈l,0<=u.1/\u.1<u.2/\u.2<=1000):∃R,jhr l=D (R,0):=by
 obtain⟨B,o,s,e,h⟩:=jBs hl hb l.length 0 [] [] [] omg_ ⟨smp_,rfl,λ_=>rfl,λ_=>rfl⟩;obtain⟨R,r1,_⟩:=jua h omg_ (a:=0) (b:=1000) hb;simp(disch:=omega)only[jhr,show jcu l 0 [] [] []=_ from e,jF4,S0];cases hs:jco B with
 |none=>rw[hs]at r1;simp at r1
 |some C=>rw[hs]at r1;simp only[j4]at r1;simp only[j4,r1];exact⟨R,rfl⟩
theorem jyG{L:z m}:∀(n:H)(a:m)(l:SL),DOk L a->l.length+n<=10->(∀u∈l,0<=u.1/\u.1<u.2/\u.2<=1000)->
  ∃l' a',jc1 (n:m) L a l=D (L,a',l')/\l'.length<=10/\(∀u∈l',0<=u.1/\u.1<u.2/\u.2<=1000)/\DOk L a'
 |0,a,l,hd,hl,hu=>by
  rw[jdg];simp(disch:=omega)only[j4z,S0];exact⟨l,a,rfl,omg_,hu,hd⟩
 |n+1,a,l,hd,hl,hu=>by
  obtain⟨x,a1,e1,x0,x1,d1⟩:=j0J (n:=60) hd omg_ omg_;obtain⟨y,a2,e2,y0,y1,d2⟩:=j0J (n:=9) d1 omg_ omg_;have es:jbn L a=D ((x,x+y-1),L,a2):=by simp(disch:=omega)only[jbn,e1,e2,S0]
  rw[jdg];simp only[j4z];rw[j00 omg_,j6,es];simp only[j4];rw[j07 (x:=((n+1:H):m)-1),show ((n+1:H):m)-1=(n:m) by omega];by_cases h:x<x+y-1
  .obtain⟨l',a',e,h1,h2,h3⟩:=jyG n a2 (l++[(x,x+y-1)]) d2 sqo_ (λu hu'=>by
    rcases List.mem_append.1 hu' with hu'|hu'
    .exact hu u hu'
    .rw[List.mem_singleton.1 hu'];dsimp only;omega)
   simp(disch:=omega)only[S0];exact⟨l',a',e,h1,h2,h3⟩
  .obtain⟨l',a',e,h1,h2,h3⟩:=jyG n a2 l d2 omg_ hu;rw[j01 h,j7,j04];exact⟨l',a',e,h1,h2,h3⟩
theorem jF5{L:z m}{a:m}(h:DOk L a):∃S a',jcv L a=D (S,L,a')/\DOk L a':=by
 obtain⟨x,a1,e1,x0,x1,d1⟩:=j0J (n:=7) h omg_ omg_;obtain⟨l,a2,e2,h1,h2,d2⟩:=jyG x.toNat a1 [] d1 sqo_ smp_;rw[show ((x.toNat:H):m)=x by omega]at e2;obtain⟨R,e3⟩:=jsW (l:=l) omg_ h2;simp only[jcv,e1,e2,e3,j4];exact⟨R,a2,rfl,d2⟩
end Go.Proofs.Pw
open Go Go.Lft
set_option linter.unusedVariables false
set_option maxHeartbeats 1000000
namespace Go.Proofs.Pw
theorem jrp{s:SgL}(hs:s.length<=1000000):∀(n i:H),i+n=s.length->jct s s (s.length:m) (i:m)=D (.inr ())
 |0,i,hi=>by
  rw[jg1];simp(disch:=omega)only[j6m,S0]
 |n+1,i,hi=>by
  rw[jg1];simp(disch:=omega)only[j6m,S0];exact jrp hs n (i+1) omg_
theorem jud{s:SgL}(hs:s.length<=1000000):jeX s s=D true:=by
 simp(disch:=omega)only[jeX,S0];rw[show jct s s (s.length:m) 0=_ from jrp hs s.length 0 omg_];rfl
theorem li6{s1:Tn2}{s2:m}{s3:m}{s4:m}{s5:m}{s17:m}{s21:m}{s59:Tn75}{s60:m}{s72:(z (z m))}{s73:m}{s79:(z m)}{s80:m}{b16:Tn57}{b16_1:Tn51}{b16_2:Tn28}{b16_3:Tn68}{b19:(z m)}{b52:(z m)}{b52_1:m}{A:SL}(hA:A.length<=1000000):∀(n i:H),i+n=A.length->j93 s1 s2 s3 s4 s5 s17 s21 s59 s60 s72 s73 s79 s80 (A.length:m) (i:m) b16 b16_1 b16_2 b16_3 b19 b52 b52_1 A A=D (.inr (s1,s2,s3,s4,s5,s17,s21,s59,s60,s72,s73,s79,s80,b16,b16_1,b16_2,b16_3,b19,b52,b52_1))
 |0,i,hi=>by
  rw[jan]
  simp_all[j2H,S0]
 |n+1,i,hi=>by
  have ih:=li6 (s1:=s1) (s2:=s2) (s3:=s3) (s4:=s4) (s5:=s5) (s17:=s17) (s21:=s21) (s59:=s59) (s60:=s60) (s72:=s72) (s73:=s73) (s79:=s79) (s80:=s80) (b16:=b16) (b16_1:=b16_1) (b16_2:=b16_2) (b16_3:=b16_3) (b19:=b19) (b52:=b52) (b52_1:=b52_1) hA n (i+1) omg_;rw[jan];simp(disch:=omega)only[j2H,S0];exact ih
theorem li8{s1:Tn2}{s2:m}{s3:m}{s4:m}{s5:m}{s17:m}{s21:m}{s59:Tn75}{s60:m}{s72:(z (z m))}{s73:m}{s79:(z m)}{s80:m}{s163:(z m)}{b16:Tn57}{b16_1:Tn51}{b16_2:Tn28}{b16_3:Tn68}{b19:(z m)}{b52:(z m)}(hc:CV (b16,b16_1,b16_2,b16_3)):∀(n i:H)(a:m),i+n=3->DOk b52 a->∃a',DOk b52 a'/\j6D s1 s2 s3 s4 s5 s17 s21 s59 s60 s72 s73 s79 s80 s163 (i:m) b16 b16_1 b16_2 b16_3 b19 b52 a=D (.inr (s1,s2,s3,s4,s5,s17,s59,s60,s72,s73,s79,s80,b16,b16_1,b16_2,b16_3,b19,b52,a'))
 |0,i,a,hi,hd=>by
  grind[jao,j2I,j0e]
 |n+1,i,a,hi,hd=>by
  obtain⟨u,a1,e1,d1⟩:=jej (n:=2) hd omg_ omg_;obtain⟨r,r1,r2⟩:=jAd hc s21 (s163.getD i 0) u;obtain⟨a',d',ih⟩:=li8 (s1:=s1) (s2:=s2) (s3:=s3) (s4:=s4) (s5:=s5) (s17:=s17) (s21:=s21) (s59:=s59) (s60:=s60) (s72:=s72) (s73:=s73) (s79:=s79) (s80:=s80) (s163:=s163) (b16:=b16) (b16_1:=b16_1) (b16_2:=b16_2) (b16_3:=b16_3) (b19:=b19) (b52:=b52) hc n (i+1) a1 omg_ d1;grind[jao,j2I,j0B,j24,j04]
theorem li4{s1:Tn2}{s2:m}{s3:m}{s4:m}{s5:m}{s17:m}{s59:Tn75}{s60:m}{s72:(z (z m))}{s73:m}{s79:(z m)}{b16:Tn57}{b16_1:Tn51}{b16_2:Tn28}{b16_3:Tn68}{b19:(z m)}{b52:(z m)}(hc:CV (b16,b16_1,b16_2,b16_3))(hl:b16_3.length<=4):∀(n i:H)(a:m),i+n=2->DOk b52 a->∃a',DOk b52 a'/\j6E s1 s2 s3 s4 s5 s17 s59 s60 s72 s73 s79 (i:m) b16 b16_1 b16_2 b16_3 b19 b52 a=D (.inr (s1,s2,s3,s4,s5,s17,s59,s60,s72,s73,b16,b16_1,b16_2,b16_3,b19,b52,a'))
 |0,i,a,hi,hd=>by
  rw[jap];simp(disch:=omega)only[j2J,S0];exact⟨a,hd,rfl⟩
 |n+1,i,a,hi,hd=>by
  obtain⟨V,e,a1,a2,a3,_⟩:=jyC hc hl (s79.getD i 0) (b19.getD 0 0) (b19.getD 1 0);obtain⟨M,f,v,e1,b1,b2,b3,_⟩:=jEV hc (show b16_3.length<=6 by omega) (s79.getD i 0) (b19.getD 0 0) (b19.getD 1 0);have h6:=li6 (s1:=s1) (s2:=s2) (s3:=s3) (s4:=s4) (s5:=s5) (s17:=s17) (s21:=s79.getD i 0) (s59:=s59) (s60:=s60) (s72:=s72) (s73:=s73) (s79:=s79) (s80:=(i:m)) (b16:=b16) (b16_1:=b16_1) (b16_2:=b16_2) (b16_3:=b16_3) (b19:=b19) (b52:=b52) (b52_1:=a) (A:=M) omg_ M.length 0 omg_;obtain⟨t,a4,e4,_,_,d4⟩:=jkv hd;obtain⟨a5,d5,h8⟩:=li8 (s1:=s1) (s2:=s2) (s3:=s3) (s4:=s4) (s5:=s5) (s17:=s17) (s21:=s79.getD i 0) (s59:=s59) (s60:=s60) (s72:=s72) (s73:=s73) (s79:=s79) (s80:=(i:m)) (s163:=[s2,s17,t]) (b16:=b16) (b16_1:=b16_1) (b16_2:=b16_2) (b16_3:=b16_3) (b19:=b19) (b52:=b52) hc 3 0 a4 omg_ d4;obtain⟨a',d',ih⟩:=li4 (s1:=s1) (s2:=s2) (s3:=s3) (s4:=s4) (s5:=s5) (s17:=s17) (s59:=s59) (s60:=s60) (s72:=s72) (s73:=s73) (s79:=s79) (b16:=b16) (b16_1:=b16_1) (b16_2:=b16_2) (b16_3:=b16_3) (b19:=b19) (b52:=b52) hc hl n (i+1) a5 omg_ d5;refine⟨a',d',?_⟩;rw[show ((0:H):m)=0 from rfl]at h6 h8;rw[jap];simp(disch:=omega)only[j2J,a1,a2,b1,b2,jud,h6,e4,h8,S0];exact ih
theorem li2{s1:Tn2}{s2:m}{s3:m}{s4:m}{s5:m}{s17:m}{s59:Tn75}{s60:m}{s72:(z (z m))}{b16:Tn57}{b16_1:Tn51}{b16_2:Tn28}{b16_3:Tn68}{b52:(z m)}(hc:CV (b16,b16_1,b16_2,b16_3))(hl:b16_3.length<=4):∀(n i:H)(a:m),i+n=2->DOk b52 a->∃a',DOk b52 a'/\j94 s1 s2 s3 s4 s5 s17 s59 s60 s72 (i:m) b16 b16_1 b16_2 b16_3 b52 a=D (.inr (s1,s2,s3,s4,s5,s59,s60,b52,a'))
 |0,i,a,hi,hd=>by
  rw[jaq];simp(disch:=omega)only[j2K,S0];exact⟨a,hd,rfl⟩
 |n+1,i,a,hi,hd=>by
  obtain⟨q,a1,e1,_,_,d1⟩:=j0J (n:=5) hd omg_ omg_;obtain⟨a2,d2,h4⟩:=li4 (s1:=s1) (s2:=s2) (s3:=s3) (s4:=s4) (s5:=s5) (s17:=s17) (s59:=s59) (s60:=s60) (s72:=s72) (s73:=(i:m)) (s79:=[q,s5]) (b16:=b16) (b16_1:=b16_1) (b16_2:=b16_2) (b16_3:=b16_3) (b19:=s72.getD i (K 2 0)) (b52:=b52) hc hl 2 0 a1 omg_ d1;obtain⟨V,e,b1,b2,b3⟩:=jDc hc hl ((s72.getD i (K 2 0)).getD 0 0) ((s72.getD i (K 2 0)).getD 1 0);obtain⟨a',d',ih⟩:=li2 (s1:=s1) (s2:=s2) (s3:=s3) (s4:=s4) (s5:=s5) (s17:=s17) (s59:=s59) (s60:=s60) (s72:=s72) (b16:=b16) (b16_1:=b16_1) (b16_2:=b16_2) (b16_3:=b16_3) (b52:=b52) hc hl n (i+1) a2 omg_ d2;refine⟨a',d',?_⟩;rw[show ((0:H):m)=0 from rfl]at h4;rw[jaq];simp(disch:=omega)only[j2K,e1,h4,b1,b2,jud,S0];exact ih
theorem li0{s1:Tn2}{s2:m}{s3:m}{s4:m}{s5:m}{s59:Tn75}{b52:(z m)}(hc:∀k∈s59,CV k/\k.2.2.2.length<=4)(hl:s59.length=2):∀(n i:H)(a:m),i+n=2->DOk b52 a->∃a',DOk b52 a'/\j95 s1 s2 s3 s4 s5 s59 (i:m) b52 a=D (.inr (s1,s2,b52,a'))
 |0,i,a,hi,hd=>by
  rw[jar];simp(disch:=omega)only[j2L,S0];exact⟨a,hd,rfl⟩
 |n+1,i,a,hi,hd=>by
  have hm:s59.getD i ([],[],[],[])∈s59:=by grind
  have hk:=hc _ hm;generalize hke:s59.getD i ([],[],[],[])=k at hk;obtain⟨t,a1,e1,t0,t1,d1⟩:=jkv hd;obtain⟨a2,d2,h2⟩:=li2 (s1:=s1) (s2:=s2) (s3:=s3) (s4:=s4) (s5:=s5) (s17:=t) (s59:=s59) (s60:=(i:m)) (s72:=[[t,w64 (t+777600)],[s3,s4]]) (b16:=k.1) (b16_1:=k.2.1) (b16_2:=k.2.2.1) (b16_3:=k.2.2.2) (b52:=b52) hk.1 hk.2 2 0 a1 omg_ d1;obtain⟨a',d',ih⟩:=li0 (s1:=s1) (s2:=s2) (s3:=s3) (s4:=s4) (s5:=s5) (s59:=s59) (b52:=b52) hc hl n (i+1) a2 omg_ d2;refine⟨a',d',?_⟩;rw[show ((0:H):m)=0 from rfl]at h2;rw[jar];simp only[j2L];rw[j00 omg_,j2j];simp only[j6,j8,hke,e1,j4,h2,sumC];simp(disch:=omega)only[S0];exact ih
theorem li12{s2:m}{s39:Tn2}{s214:Tn13}{s215:m}{s224:(z m)}{b52:(z m)}{b52_1:m}:∀(n i:H),i+n=3->j8x s2 s39 s214 s215 s224 (i:m) b52 b52_1=D (.inr (s2,s214,s215,b52,b52_1))
 |0,i,hi=>by
  rw[j9M];simp(disch:=omega)only[j2p,S0]
 |n+1,i,hi=>by
  have ih:=li12 (s2:=s2) (s39:=s39) (s214:=s214) (s215:=s215) (s224:=s224) (b52:=b52) (b52_1:=b52_1) n (i+1) omg_;obtain⟨w,w1,w2⟩:=jyF s39 (s224.getD i 0);rw[j9M];simp(disch:=omega)only[j2p,w1,w2,S0];exact ih
theorem li10{s2:m}{s214:Tn13}{b52:(z m)}:∀(n i:H)(a:m),i+n=2->DOk b52 a->j6q s2 s214 (i:m) b52 a=D (.inr ())
 |0,i,a,hi,hd=>by
  grind[j9N,j2q,j0e]
 |n+1,i,a,hi,hd=>by
  obtain⟨x,a1,e1,_,_,d1⟩:=j0J (n:=90) hd omg_ omg_;obtain⟨y,a2,e2,_,_,d2⟩:=j0J (n:=90) d1 omg_ omg_;have h12:=li12 (s2:=s2) (s39:=s214.getD i []) (s214:=s214) (s215:=(i:m)) (s224:=[s2,x,w64 (604800+y)]) (b52:=b52) (b52_1:=a2) 3 0 omg_;have ih:=li10 (s2:=s2) (s214:=s214) (b52:=b52) n (i+1) a2 omg_ d2;grind[j9N,j2q,j0B,sumC,j24,j04]
theorem jlb(t:z m)(_h:Wf (.list (.int .i64)) t)(raw:SL)(_h1:Wf (.list (.pair (.int .i64) (.int .i64))) raw)(x:m)(_h2:Wf (.int .i64) x)(f:m)(_h3:Wf (.int .i64) f)(to:m)(_h4:Wf (.int .i64) to)(p:m)(_h5:Wf (.int .i64) p):jb5 t raw x f to p=D true:=by
 simp(disch:=omega)only[jb5,jkc,S0];by_cases hl:(t.length:m)<=500
 case neg=>grind[jx8]
 rw[j00 hl];simp only[G,j7,jmh,j4];cases hr:decide (J (List.length raw)>50) with
 |true=>simp[jx8]
 |false=>
 simp only[j7];obtain⟨zs,ps,cs,ss,a1,e1,hs,g1,g2,g3,d1⟩:=jvf (L:=t) (a:=0) (n:=2) ⟨omg_,omg_,omg_⟩ omg_ omg_;obtain⟨k,a2,e2,hv,d2⟩:=jCO d1 hs g3 g1 omg_
 obtain⟨a3,d3,e3⟩:=li0 (s1:=raw) (s2:=x) (s3:=f) (s4:=to) (s5:=p) (s59:=[(zs,ps,cs,ss),(k.1,k.2.1,k.2.2.1,k.2.2.2)]) (b52:=t) (λy hy=>by
  grind[jFs,CV.few]) rfl 2 0 a2 omg_ d2
 obtain⟨S,a4,e4,d4⟩:=jF5 d3;have e5:=li10 (s2:=x) (s214:=[raw,S]) (b52:=t) 2 0 a4 omg_ d4;grind[sumC,jx8]
end Go.Proofs.Pw
