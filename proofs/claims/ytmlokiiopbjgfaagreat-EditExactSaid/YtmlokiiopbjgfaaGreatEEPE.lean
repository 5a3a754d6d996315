/- Chapter 8: checks of any configuration: layers, edits, schedules; all of it. -/
import Derived.Test.YtmlokiiopbjgfaaGreatEEPD
import Derived.Test.YtmlokiiopbjgfaaGreatEEPC
import Derived.Test.YtmlokiiopbjgfaaGreatEEPB
open _root_ renaming Int->o,List->E,ByteArray->K,Nat->R,Option->Ç,Bool->É
open Option renaming some->D
open Int renaming ofNat->G,tmod->Ê,toNat->Ì,tdiv->Î
open List renaming drop_eq_getElem_cons->H,getD->N,drop_zero->U,drop_of_length_le->W,getElem_mem->À,replicate->Á,length_replicate->Ã,length->Ë
open ByteArray renaming mk->I,empty->M
open Decidable renaming decide->J
open Bool renaming not_true->S,true->Z,false->Â,or_eq_false_iff->Ä,true_and->Å,cond_true_left->Æ
open Go Go.Lft
namespace Go.Proofs.Pw
theorem jgP(n lo hi:o):∃b,j2O n lo hi=D b/\j5S n lo hi=D b:=⟨_,rfl,rfl⟩
section
variable{zs:E j0O}{ps:E j0r}{cs:E CalT}{ss:E j0q}
theorem jum(hpl:ps.length<=100){L:j0c}(hl:L.2.2.2.2.2.1.length<=100):∀(n i:R),i+n=L.2.2.2.2.2.1.length->∃q e,((j1H L.2.2.2.2.2.1 zs ps cs ss (L.2.2.2.2.2.1.length:o) (i:o)).bind λq0=>sumC q0 (λa=>D a) (λ_=>D (-1:o)))=D q/\
   jbU (i:o) zs ps cs ss L.1 L.2.1 L.2.2.1.1 L.2.2.1.2 L.2.2.2.1 L.2.2.2.2.1 L.2.2.2.2.2.1 L.2.2.2.2.2.2.1 L.2.2.2.2.2.2.2.1 L.2.2.2.2.2.2.2.2=D (rE (zs,ps,cs,ss,L.1,L.2.1,L.2.2.1.1,L.2.2.1.2,L.2.2.2.1,L.2.2.2.2.1,L.2.2.2.2.2.1,L.2.2.2.2.2.2.1,L.2.2.2.2.2.2.2.1,L.2.2.2.2.2.2.2.2) e)/\
   (e=if q>=0 then 3 else 0)
 |0,i,hi=>by
  rw[j1j,jbV];simp(disch:=omega)only[j0p,j4u,S0];exact⟨-1,0,rfl,rfl,rfl⟩
 |n+1,i,hi=>by
  have hlt:i<L.2.2.2.2.2.1.length:=omg_;have hgd:L.2.2.2.2.2.1.getD i (0:o)=L.2.2.2.2.2.1[i]:=by simp[N,hlt]
  obtain⟨q,e,q1,q2,q3⟩:=jum hpl hl n (i+1) omg_;obtain⟨b,b1,b2⟩:=jdf L.2.2.2.2.2.1[i] (n:=ps.length) omg_;rw[j1j,jbV];simp only[j0p,j4u,j3X,show G L.2.2.2.2.2.1.length=(L.2.2.2.2.2.1.length:o) from rfl,show G ps.length=(ps.length:o) from rfl];rw[j00 (show (i:o)<(L.2.2.2.2.2.1.length:o) by omega),j1g,j0d (x:=(i:o)+1)];simp only[j4,j6,hgd,b1,b2,j0];cases b with
  |true=>grind[j08]
  |false=>exact⟨(i:o),3,rfl,rfl,by rw[if_pos omg_]⟩
theorem jsU(hzl:zs.length<=100)(hpl:ps.length<=100)(hcl:cs.length<=100)(L:j0c):∃e,j1k (zs,ps,cs,ss) L=D e/\jbW (zs,ps,cs,ss) L=D e:=by
 obtain⟨b1,p1,p2⟩:=jdf L.2.1 (n:=zs.length) omg_;obtain⟨b3,s1,s2⟩:=jgP L.2.2.1.2 0 86399;obtain⟨b4,s3,s4⟩:=jgP L.2.2.2.1 0 2;obtain⟨b5,s5,s6⟩:=jgP L.2.2.2.2.1 1 400;obtain⟨c,c1,c2,_⟩:=jgO L.2.2.2.2.2.2.1;obtain⟨b6,s7,s8⟩:=jgP L.2.2.2.2.2.2.2.2 0 2;obtain⟨b7,p3,p4⟩:=jdf L.2.2.2.2.2.2.2.1 (n:=cs.length) omg_;simp only[j1k,jbW,show G zs.length=(zs.length:o) from rfl,show G cs.length=(cs.length:o) from rfl,show G L.2.2.2.2.2.1.length=(L.2.2.2.2.2.1.length:o) from rfl,p1,p2,j0];cases b1 with
 |false=>exact⟨3,rfl,rfl⟩
 |true=>
 simp only[S,j5,jeU,jpF,j0,s1,s2,s3,s4,s5,s6]
 have hd:j5S L.2.2.1.1 1 98980=D (J (1<=L.2.2.1.1)&&J (L.2.2.1.1<=98980)):=by
  simp_all[j5S]
 rw[hd];simp only[j0];by_cases h1:L.2.2.1.1<1
 .grind
 rw[j01 h1,j00 (show 0<=L.2.2.1.1 by omega),j00 (show 1<=L.2.2.1.1 by omega)];simp only[j5,Å];cases J (L.2.2.1.1<=98980) with
 |false=>exact⟨1,rfl,rfl⟩
 |true=>
 simp only[S,j5];cases b3 with
 |false=>exact⟨1,rfl,rfl⟩
 |true=>
 cases b4 with
 |false=>exact⟨1,rfl,rfl⟩
 |true=>
 cases b5 with
 |false=>exact⟨1,rfl,rfl⟩
 |true=>
 simp only[S,j5];by_cases h0:L.2.2.2.2.2.1.length=0
 .simp_all
 rw[j55 (show (L.2.2.2.2.2.1.length:o)≠0 by omega),j5,j5];by_cases h12:(L.2.2.2.2.2.1.length:o)>12
 .simp_all
 rw[j01 h12,j5,j5];obtain⟨q,e,q1,q2,q3⟩:=jum (zs:=zs) (ps:=ps) (cs:=cs) (ss:=ss) hpl (L:=L) omg_ L.2.2.2.2.2.1.length 0 omg_;rw[show ((0:R):o)=0 from rfl]at q1 q2;have hcf:j0Q L.2.2.2.2.2.1 zs ps cs ss=D (J (q>=0)):=by grind[j0Q,j2j]
 rw[hcf,q2];by_cases hq:q>=0
 .rw[if_pos hq]at q3;subst q3;rw[j00 hq];exact⟨3,rfl,rfl⟩
 grind[rE_0,j3Q]
theorem jsV(hpl:ps.length<=100)(x:j0H)(hx:x.2.2.2.2<=9223372036854775807):∃e,j1a (zs,ps,cs,ss) x=D e/\jdK (zs,ps,cs,ss) x=D e:=by
 obtain⟨b1,s1,s2⟩:=jgP x.1 0 2;obtain⟨b2,p1,p2⟩:=jdf x.2.1 (n:=ps.length) omg_;obtain⟨b3,p3,p4⟩:=jdf x.2.2.1 (n:=ps.length) omg_
 have tail:∀X:Ç o,X=(cond (cond (x.1 != 2) (x.2.2.1 != 0) Â) (D 1) (cond (cond (x.1==2) (x.2.1==x.2.2.1) Â) (D 4)
   (cond (cond (J (x.2.2.2.1<0)) Z (J (x.2.2.2.2<0))) (D 1) ((j2P (w64 (Î x.2.2.2.2 86400))).bind λr74=>cond (!r74) (D 1) (cond (J (x.2.2.2.1>=x.2.2.2.2)) (D 6) (D 0))))))->
   ∀Y:Ç o,Y=(cond (cond (x.1 != 2) (x.2.2.1 != 0) Â) (D 1) (cond (cond (x.1==2) (x.2.1==x.2.2.1) Â) (D 4)
   (cond (J (x.2.2.2.1<0)) (D 1) (cond (J (x.2.2.2.2<0)) (D 1) ((j8I).bind λr77=>cond (J (w64 (Î x.2.2.2.2 86400)>r77)) (D 1) (cond (J (x.2.2.2.1>=x.2.2.2.2)) (D 6) (D 0)))))))->
   ∃e,X=D e/\Y=D e:=λX hX Y hY=>by
  rw[hX,hY];cases (cond (x.1 != 2) (x.2.2.1 != 0) Â) with
  |true=>exact⟨1,rfl,rfl⟩
  |false=>
  cases (cond (x.1==2) (x.2.1==x.2.2.1) Â) with
  |true=>exact⟨4,rfl,rfl⟩
  |false=>
  simp only[j5];by_cases hf:x.2.2.2.1<0
  .simp_all
  rw[j01 hf];by_cases ht:x.2.2.2.2<0
  .simp_all
  simp(disch:=omega)only[jeU,jpF,jeQ,S0];grind
 simp only[j1a,j3m,jdK,jd3,show G ps.length=(ps.length:o) from rfl,s1,s2,j0,p1,p2,p3,p4];grind
theorem jsW(hpl:ps.length<=100){es:E j0H}(hl:es.length<=100)(hx:∀x∈es,x.2.2.2.2<=9223372036854775807){m:o}{nm:K}{ls:E j0c}{l3:E K}:∀(n i:R),i+n=es.length->∃e,
   j22 es (es.length:o) (i:o) zs ps cs ss=D (rE () e)/\j8f m (i:o) zs ps cs ss nm ls es l3=D (rE (m,zs,ps,cs,ss,l3) e)
 |0,i,hi=>by
  rw[j3L,j8Y];simp(disch:=omega)only[j0V,j35,S0];exact⟨0,rfl,rfl⟩
 |n+1,i,hi=>by
  have hlt:i<es.length:=omg_;have hgd:es.getD i (0,0,0,0,0)=es[i]:=by simp[N,hlt]
  obtain⟨e,e1,e2⟩:=jsW (m:=m) (nm:=nm) (ls:=ls) (l3:=l3) hpl hl hx n (i+1) omg_;obtain⟨c,c1,c2⟩:=jsV (zs:=zs) (cs:=cs) (ss:=ss) hpl es[i] (hx _ (À hlt));rw[j3L,j8Y];simp only[j0V,j35,show G es.length=(es.length:o) from rfl];rw[j00 (show (i:o)<(es.length:o) by omega),j1g,j0d (x:=(i:o)+1)];simp only[j4,j6,hgd];rw[show j1a (zs,ps,cs,ss) (es[i].1,es[i].2.1,es[i].2.2.1,es[i].2.2.2.1,es[i].2.2.2.2)=_ from c1,show jdK (zs,ps,cs,ss) (es[i].1,es[i].2.1,es[i].2.2.1,es[i].2.2.2.1,es[i].2.2.2.2)=_ from c2];simp only[j0];by_cases hc:c=0
  .grind[j08]
  .rw[show (c != 0)=Z by simpa using hc];exact⟨c,by rw[rE_n _ hc];rfl,by rw[rE_n _ hc];rfl⟩
theorem jsX(hzl:zs.length<=100)(hpl:ps.length<=100)(hcl:cs.length<=100){ls:E j0c}(hl:ls.length<=100){m:o}{nm:K}{es:E j0H}{l3:E K}:∀(n i:R)(L:E K),i+n=ls.length->L.length=i->
  ∃e,j1c zs ps cs ss ls (ls.length:o) (i:o) (j95 L)=D (rE () e)/\j8e m (i:o) zs ps cs ss nm ls es l3 L=D (rE (m,zs,ps,cs,ss,nm,ls,es,l3) e)
 |0,i,L,hi,_=>by
  rw[j3i,j8X];simp(disch:=omega)only[j0L,j34,S0];exact⟨0,rfl,rfl⟩
 |n+1,i,L,hi,hL=>by
  have hlt:i<ls.length:=omg_;have hgd:ls.getD i (M,0,(0,0),0,0,[],[],0,0)=ls[i]:=by simp[N,hlt]
  have ih:=jsX hzl hpl hcl hl (m:=m) (nm:=nm) (es:=es) (l3:=l3) n (i+1) (L++[ls[i].1]) omg_ sqo_;obtain⟨en,n1,n2⟩:=jgN (L:=L) omg_ ls[i].1;obtain⟨c,c1,c2⟩:=jsU (zs:=zs) (ps:=ps) (cs:=cs) (ss:=ss) hzl hpl hcl ls[i];rw[hL]at n2;rw[j3i,j8X];simp only[j0L,j34,j3a,j3b,show G ls.length=(ls.length:o) from rfl];rw[j00 (show (i:o)<(ls.length:o) by omega),j1g,j0d (x:=(i:o)+1)];simp only[j4,j6,hgd,n1,j0];rw[j00 (show L.length+[ls[i].1].length<=j06 by simp[j06];omega)];simp only[j4,n2,j0];by_cases he:en=0
  .subst he;simp only[bne_self_eq_false,j5,if_true]
   rw[show j1k (zs,ps,cs,ss) (ls[i].1,ls[i].2.1,(ls[i].2.2.1.1,ls[i].2.2.1.2),ls[i].2.2.2.1,ls[i].2.2.2.2.1,ls[i].2.2.2.2.2.1,ls[i].2.2.2.2.2.2.1,ls[i].2.2.2.2.2.2.2.1,ls[i].2.2.2.2.2.2.2.2)=_ from c1,
    show jbW (zs,ps,cs,ss) (ls[i].1,ls[i].2.1,(ls[i].2.2.1.1,ls[i].2.2.1.2),ls[i].2.2.2.1,ls[i].2.2.2.2.1,ls[i].2.2.2.2.2.1,ls[i].2.2.2.2.2.2.1,ls[i].2.2.2.2.2.2.2.1,ls[i].2.2.2.2.2.2.2.2)=_ from c2]
   simp only[j0];by_cases hc:c=0
   .grind[j08]
   .rw[show (c != 0)=Z by simpa using hc];exact⟨c,by rw[rE_n _ hc];rfl,by rw[rE_n _ hc];rfl⟩
  .rw[show (en != 0)=Z by simpa using he];exact⟨en,by rw[rE_n _ he];rfl,by rw[rE_n _ he];rfl⟩
theorem jsY(hzl:zs.length<=100)(hpl:ps.length<=100)(hcl:cs.length<=100)(hl:ss.length<=100)(hx:∀s∈ss,∀x∈s.2.2,x.2.2.2.2<=9223372036854775807):∀(n i:R)(L:E K),i+n=ss.length->L.length=i->
  ∃e,j0W zs ps cs ss ss (ss.length:o) (i:o) (j95 L)=D (rE () e)/\j8g (i:o) zs ps cs ss L=D (rE () e)
 |0,i,L,hi,_=>by
  rw[j2F,j8Z];simp(disch:=omega)only[j0D,j36,S0];exact⟨0,rfl,rfl⟩
 |n+1,i,L,hi,hL=>by
  have hlt:i<ss.length:=omg_;have hgd:ss.getD i (M,[],[])=ss[i]:=by simp[N,hlt]
  have ih:=jsY hzl hpl hcl hl hx n (i+1) (L++[ss[i].1]) omg_ sqo_;have hxi:=hx _ (À hlt);obtain⟨en,n1,n2⟩:=jgN (L:=L) omg_ ss[i].1;rw[hL]at n2;rw[j2F,j8Z];simp only[j0D,j36,j6c,j6d,show G ss.length=(ss.length:o) from rfl];rw[j00 (show (i:o)<(ss.length:o) by omega),j1g,j0d (x:=(i:o)+1)];simp only[j4,j6,hgd,n1,j0];rw[j00 (show L.length+[ss[i].1].length<=j06 by simp[j06];omega)];simp only[j4,n2,j0];by_cases he:en=0
  .subst he;simp only[bne_self_eq_false,j5,if_true,j1u,show G ss[i].2.1.length=(ss[i].2.1.length:o) from rfl,show G ss[i].2.2.length=(ss[i].2.2.length:o) from rfl];by_cases hlim:(ss[i].2.1.length:o)>6\/(ss[i].2.2.length:o)>48
   .have hb:(cond (J ((ss[i].2.1.length:o)>6)) Z (J ((ss[i].2.2.length:o)>48)))=true:=by
     simp_all
    rw[hb];exact⟨5,rfl,rfl⟩
   .rw[j01 (λh=>hlim (.inl h)),j01 (λh=>hlim (.inr h))];simp only[j5];obtain⟨e,e1,e2⟩:=jsX (zs:=zs) (ps:=ps) (cs:=cs) (ss:=ss) hzl hpl hcl (ls:=ss[i].2.1) omg_ (m:=(i:o)) (nm:=ss[i].1) (es:=ss[i].2.2) (l3:=L++[ss[i].1]) ss[i].2.1.length 0 [] omg_ rfl;obtain⟨c,c1,c2⟩:=jsW (zs:=zs) (ps:=ps) (cs:=cs) (ss:=ss) hpl (es:=ss[i].2.2) omg_ hxi (m:=(i:o)) (nm:=ss[i].1) (ls:=ss[i].2.1) (l3:=L++[ss[i].1]) ss[i].2.2.length 0 omg_;rw[show ((0:R):o)=0 from rfl]at e1 e2 c1 c2
    have en:j2k ss[i].2.1 zs ps cs ss=D e:=by
     simp(disch:=omega)only[j2k,show j1c zs ps cs ss ss[i].2.1 (ss[i].2.1.length:o) 0 []=_ from e1,S0];by_cases h0:e=0
     .subst h0;rfl
     .rw[rE_n _ h0];rfl
    rw[en,e2];by_cases h0:e=0
    .subst h0;rw[rE_0];simp only[j0,bne_self_eq_false,j5,j3Q,c1,c2];by_cases hc:c=0
     .subst hc;simp(disch:=omega)only[rE_0,S0];exact ih
     .rw[rE_n _ hc,rE_n _ hc];simp only[j0,j6J];rw[show (c != 0)=Z by simpa using hc];exact⟨c,by rw[rE_n _ hc];rfl,by rw[rE_n _ hc];rfl⟩
    .rw[rE_n _ h0];simp only[j0,j6J];rw[show (e != 0)=Z by simpa using h0];simp only[j4,j0];rw[show (e != 0)=Z by simpa using h0];exact⟨e,by rw[rE_n _ h0];rfl,by rw[rE_n _ h0];rfl⟩
  .rw[show (en != 0)=Z by simpa using he];exact⟨en,by rw[rE_n _ he];rfl,by rw[rE_n _ he];rfl⟩
theorem jiS(hz:∀z∈zs,ZF z)(hx:∀s∈ss,∀x∈s.2.2,x.2.2.2.2<=9223372036854775807):∃e,j03 (zs,ps,cs,ss)=D e/\j2L (zs,ps,cs,ss)=D e:=by
 simp only[j03,j2L,show G zs.length=(zs.length:o) from rfl,show G ps.length=(ps.length:o) from rfl,show G cs.length=(cs.length:o) from rfl,show G ss.length=(ss.length:o) from rfl];cases hb:(cond (cond (cond (J ((zs.length:o)>16)) Z (J ((ps.length:o)>32))) Z (J ((cs.length:o)>8))) Z (J ((ss.length:o)>12))) with
 |true=>exact⟨5,rfl,rfl⟩
 |false=>
  simp only[Æ,Ä,decide_eq_false_iff_not]at hb;simp only[j5];obtain⟨e,e1,e2⟩:=jpM (zs:=zs) (ps:=ps) (cs:=cs) (ss:=ss) hz omg_;rw[e1,e2];simp only[j0];by_cases h0:e=0
  .subst h0;simp only[bne_self_eq_false,j5];obtain⟨c,c1,c2⟩:=jhR (zs:=zs) (ps:=ps) (cs:=cs) (ss:=ss) omg_ omg_;rw[c1,c2];simp only[j0];by_cases h1:c=0
   .subst h1;obtain⟨d,d1,d2⟩:=jr3 (zs:=zs) (ps:=ps) (cs:=cs) (ss:=ss) omg_ omg_;simp only[rE_0,j3Q,bne_self_eq_false,j5,d1,d2,j0];by_cases h2:d=0
    .subst h2;simp only[bne_self_eq_false,j5];obtain⟨f,f1,f2⟩:=jsY (zs:=zs) (ps:=ps) (cs:=cs) (ss:=ss) omg_ omg_ omg_ omg_ hx ss.length 0 [] omg_ rfl;rw[show ((0:R):o)=0 from rfl]at f1 f2;refine⟨f,?_,?_⟩
     .simp(disch:=omega)only[j2I,show j0W zs ps cs ss ss (ss.length:o) 0 []=_ from f1,S0];by_cases hf:f=0
      .subst hf;rfl
      .rw[rE_n _ hf];rfl
     .simp only[jaL,f2,j0];by_cases hf:f=0
      .subst hf;rfl
      .rw[rE_n _ hf];rfl
    grind
   .rw[rE_n _ h1,show (c != 0)=Z by simpa using h1];exact⟨c,rfl,rfl⟩
  grind
end
theorem jiT{n lo hi:o}(h:j2O n lo hi=D Z):lo<=n/\n<=hi:=by
 grind[j2O]
theorem jiU{i n:o}(h:j12 i n=D Z):0<=i/\i<n:=by
 grind[j12]
section
variable{zs:E j0O}{ps:E j0r}{cs:E CalT}{ss:E j0q}
theorem jrB{ms:E o}(hl:ms.length<=100):∀(n i:R),i+n=ms.length->∃q,((j1H ms zs ps cs ss (ms.length:o) (i:o)).bind λq0=>sumC q0 (λa=>D a) (λ_=>D (-1:o)))=D q/\(¬q>=0->∀m∈ms.drop i,0<=m/\m<(ps.length:o))
 |0,i,hi=>by
  rw[j1j];simp(disch:=omega)only[W,j0p,S0]
  simp_all
 |n+1,i,hi=>by
  have hlt:i<ms.length:=omg_;have hgd:ms.getD i (0:o)=ms[i]:=by simp[N,hlt]
  obtain⟨q,q1,q2⟩:=jrB hl n (i+1) omg_;obtain⟨b,hb⟩:∃b,j12 ms[i] (ps.length:o)=D b:=⟨_,rfl⟩;rw[j1j];simp(disch:=omega)only[H hlt,j0p,j3X,hb,S0];cases b with
  |true=>simp only[S,j5,j08];refine⟨q,q1,λhq m hm=>?_⟩;grind[jiU]
  |false=>exact⟨(i:o),rfl,λhq=>absurd omg_ hq⟩
theorem juS{L:j0c}(h:j1k (zs,ps,cs,ss) L=D 0):LC0 zs.length ps.length cs.length L:=by
 obtain⟨b1,p1⟩:∃b,j12 L.2.1 (zs.length:o)=D b:=⟨_,rfl⟩;obtain⟨b3,s1⟩:∃b,j2O L.2.2.1.2 0 86399=D b:=⟨_,rfl⟩;obtain⟨b4,s3⟩:∃b,j2O L.2.2.2.1 0 2=D b:=⟨_,rfl⟩;obtain⟨b5,s5⟩:∃b,j2O L.2.2.2.2.1 1 400=D b:=⟨_,rfl⟩;obtain⟨c,c1,_,c3⟩:=jgO L.2.2.2.2.2.2.1;obtain⟨b6,s7⟩:∃b,j2O L.2.2.2.2.2.2.2.2 0 2=D b:=⟨_,rfl⟩;obtain⟨b7,p3⟩:∃b,j12 L.2.2.2.2.2.2.2.1 (cs.length:o)=D b:=⟨_,rfl⟩;simp only[j1k,show G zs.length=(zs.length:o) from rfl,show G cs.length=(cs.length:o) from rfl,show G L.2.2.2.2.2.1.length=(L.2.2.2.2.2.1.length:o) from rfl,p1,j0,jeU,s1,s3,s5]at h;cases b1 with
 |false=>simp at h
 |true=>
 simp only[S,j5]at h;by_cases h1:L.2.2.1.1<1
 .simp_all
 rw[j01 h1,j00 (show 0<=L.2.2.1.1 by omega)]at h;simp only[j5,Å]at h;by_cases h2:L.2.2.1.1<=98980
 case neg=>simp_all
 rw[j00 h2]at h;simp only[S,j5]at h;cases b3 with
 |false=>simp at h
 |true=>
 cases b4 with
 |false=>simp at h
 |true=>
 cases b5 with
 |false=>simp at h
 |true=>
 simp only[S,j5]at h;by_cases h0:L.2.2.2.2.2.1.length=0
 .simp_all
 rw[j55 (show (L.2.2.2.2.2.1.length:o)≠0 by omega),j5]at h;by_cases h12:(L.2.2.2.2.2.1.length:o)>12
 .simp_all
 rw[j01 h12,j5]at h;obtain⟨q,q1,q2⟩:=jrB (zs:=zs) (ps:=ps) (cs:=cs) (ss:=ss) (ms:=L.2.2.2.2.2.1) omg_ L.2.2.2.2.2.1.length 0 omg_;rw[show ((0:R):o)=0 from rfl]at q1;have hcf:j0Q L.2.2.2.2.2.1 zs ps cs ss=D (J (q>=0)):=by grind[j0Q,j2j]
 rw[hcf]at h;by_cases hq:q>=0
 .simp_all
 rw[j01 hq]at h;simp only[j0,j5,c1]at h;by_cases hc:c=0
 case neg=>grind
 subst hc;simp only[bne_self_eq_false,j5,s7,j0]at h;cases b6 with
 |false=>simp at h
 |true=>
 simp only[S,j5,p3]at h;obtain⟨z0,z1⟩:=jiU p1;obtain⟨t0,t1⟩:=jiT s1;obtain⟨u0,u1⟩:=jiT s3;obtain⟨e0,e1⟩:=jiT s5;obtain⟨md0,md1⟩:=jiT s7;obtain⟨w0,w1⟩:=c3 rfl;have hmem:=q2 hq;rw[U]at hmem
 have hcal:(L.2.2.2.2.2.2.2.2≠0->0<=L.2.2.2.2.2.2.2.1/\L.2.2.2.2.2.2.2.1<(cs.length:o))/\(L.2.2.2.2.2.2.2.2=0->L.2.2.2.2.2.2.2.1=0):=by
  by_cases hm:L.2.2.2.2.2.2.2.2=0
  .grind
  .refine⟨λ_=>?_,λhn=>absurd hn hm⟩;rw[show (L.2.2.2.2.2.2.2.2 != 0)=Z by simpa using hm]at h;simp only[j4,j0]at h;cases b7 with
   |false=>simp at h
   |true=>exact jiU p3
 exact⟨z0,z1,omg_,h2,t0,t1,u0,u1,e0,e1,h0,omg_,hmem,w0,w1,md0,md1,hcal.1,hcal.2⟩
theorem jrC{ds:E o}(hl:ds.length<=100):∀(n i:R),i+n=ds.length->∃q,((j2i ds (ds.length:o) (i:o)).bind λq0=>sumC q0 (λa=>D a) (λ_=>D (-1:o)))=D q/\(¬q>=0->∀d∈ds.drop i,0<=d/\d<=98980)
 |0,i,hi=>by
  rw[j1G];simp(disch:=omega)only[W,j0A,S0]
  simp_all
 |n+1,i,hi=>by
  have hlt:i<ds.length:=omg_;have hgd:ds.getD i (0:o)=ds[i]:=by simp[N,hlt]
  obtain⟨q,q1,q2⟩:=jrC hl n (i+1) omg_;rw[j1G];simp(disch:=omega)only[H hlt,j0A,j38,jeU,S0];by_cases h:0<=ds[i]/\ds[i]<=98980
  .simp(disch:=omega)only[S0];refine⟨q,q1,λhq m hm=>?_⟩;grind
  .have:(J (0<=ds[i])&&J (ds[i]<=98980))=false:=by
    simp_all
   rw[this];exact⟨(i:o),rfl,λhq=>absurd omg_ hq⟩
theorem jrD{ds:E o}(hl:ds.length<=100){nm:K}{z:o}:∀(n i:R),i+1+n=ds.length->j1q (ds.length:o) ((i+1:R):o) nm z ds=D (.inr ())->(ds.drop i).Pairwise (· < ·)
 |0,i,hi,_=>by
  grind[H]
 |n+1,i,hi,h=>by
  have hlt:i+1<ds.length:=omg_;have g1:ds.getD (i+1) (0:o)=ds[i+1]:=by simp[N,hlt]
  have g0:ds.getD i (0:o)=ds[i]:=by grind
  rw[j19]at h;simp only[j0o]at h
  rw[j00 (show ((i+1:R):o)<(ds.length:o) by omega),j00 (show ((i+1:R):o)>0 by omega),j0d (x:=((i+1:R):o)-1),j0d (x:=((i+1:R):o)+1),
   j2M (show (0:o)<=((i+1:R):o) by omega) omg_,j2M (show (0:o)<=((i+1:R):o)-1 by omega) omg_,show (((i+1:R):o)-1).toNat=i by omega]at h
  simp only[j4,j6,g1,g0]at h;by_cases hc:ds[i+1]<=ds[i]
  .grind[j0f]
  .rw[j01 hc]at h;simp only[j5,j08]at h;have ih:=jrD hl n (i+1) omg_ h;grind[H,List.pairwise_cons]
theorem juT{x:CalT}(h:j1t (zs,ps,cs,ss) x=D 0):CCk zs.length x:=by
 obtain⟨b1,p1⟩:∃b,j12 x.2.1 (zs.length:o)=D b:=⟨_,rfl⟩;simp only[j1t,show G zs.length=(zs.length:o) from rfl,show G x.2.2.length=(x.2.2.length:o) from rfl,p1,j0]at h;cases b1 with
 |false=>simp at h
 |true=>
 simp only[S,j5]at h;by_cases h64:(x.2.2.length:o)>64
 .simp_all
 rw[j01 h64,j5]at h;obtain⟨q,q1,q2⟩:=jrC (ds:=x.2.2) omg_ x.2.2.length 0 omg_;rw[show ((0:R):o)=0 from rfl]at q1;have hcf:j18 x.2.2=D (J (q>=0)):=by grind[j18,j39]
 rw[hcf]at h;by_cases hq:q>=0
 .simp_all
 rw[j01 hq]at h;simp only[j0,j5]at h;have hd:=q2 hq;rw[U]at hd
 have hasc:x.2.2.Pairwise (· < ·):=by
  rcases Nat.eq_zero_or_pos x.2.2.length with h0|h0
  .simp_all
  .rw[j19]at h;simp only[j0o]at h;rw[j00 (show (0:o)<(x.2.2.length:o) by omega),j01 (show¬(0:o)>0 by omega)]at h;simp only[j4,j5,j08]at h;rw[j0d (x:=(0:o)+1),show (0:o)+1=((0+1:R):o) from rfl]at h;obtain⟨e,e1,_⟩:=jsS (zs:=zs) (ps:=ps) (cs:=cs) (ss:=ss) (ds:=x.2.2) (m:=0) (nm:=x.1) (z:=x.2.1) (l3:=[]) omg_ (x.2.2.length-1) 0 omg_;rw[e1]at h;by_cases he:e=0
   .subst he;have:=jrD (ds:=x.2.2) omg_ (x.2.2.length-1) 0 omg_ e1
    simp_all
   grind[rE_n,j6J]
 obtain⟨z0,z1⟩:=jiU p1;exact⟨z0,z1,omg_,λd hm=>by grind[jeU],hasc⟩
theorem jiV(s:K)(m:E (K×É)):∃e m',j3B s m=D (e,m'):=by
 obtain⟨b,b1,_⟩:=jrz s;simp only[j3B,b1,j0];cases b with
 |false=>exact⟨_,_,rfl⟩
 |true=>cases j8K Â m s<;>simp_all
theorem jrE(hl:zs.length<=100)(hz:∀z∈zs,ZF z):∀(n i:R)(m:E (K×É)),i+n=zs.length->j1h zs (zs.length:o) (i:o) m=D (.inr ())->∀z∈zs.drop i,j1x z=D 0
 |0,i,m,hi,_=>by
  simp_all
 |n+1,i,m,hi,h=>by
  have hlt:i<zs.length:=omg_;have hgd:zs.getD i (M,0,[])=zs[i]:=by simp[N,hlt]
  obtain⟨e,m',hn⟩:=jiV zs[i].1 m;obtain⟨ez,_,_,z1,_⟩:=jlG zs[i] (hz _ (À hlt));rw[j3x]at h;simp only[j0P,j69]at h;rw[j00 (show (i:o)<(zs.length:o) by omega),j1g,j0d (x:=(i:o)+1)]at h;simp only[j4,j6,hgd,j0,hn]at h;by_cases he:e=0
  .subst he;simp only[bne_self_eq_false,j5]at h;rw[show j1x (zs[i].1,zs[i].2.1,zs[i].2.2)=_ from z1]at h;simp only[j0]at h;by_cases h0:ez=0
   .subst h0;simp only[bne_self_eq_false,j5,j08]at h;rw[H hlt];intro z hm;rcases List.mem_cons.1 hm with rfl|hm
    .exact z1
    .exact jrE hl hz n (i+1) m' omg_ h z hm
   grind[j0f]
  grind[j0f]
theorem jrF(hzl:zs.length<=100)(hl:cs.length<=100):∀(n i:R)(m:E (K×É)),i+n=cs.length->j0U zs ps cs ss cs (cs.length:o) (i:o) m=D (.inr ())->∀x∈cs.drop i,CCk zs.length x
 |0,i,m,hi,_=>by
  simp_all
 |n+1,i,m,hi,h=>by
  have hlt:i<cs.length:=omg_;have hgd:cs.getD i (M,0,[])=cs[i]:=by simp[N,hlt]
  obtain⟨e,m',hn⟩:=jiV cs[i].1 m;rw[j2E]at h;simp only[j0C,j6a,j6b]at h;rw[j00 (show (i:o)<(cs.length:o) by omega),j1g,j0d (x:=(i:o)+1)]at h;simp only[j4,j6,hgd,j0,hn]at h;by_cases he:e=0
  .subst he;simp only[bne_self_eq_false,j5]at h;cases hc:j1t (zs,ps,cs,ss) cs[i]with
   |none=>grind[lpK]
   |some c=>
    rw[show j1t (zs,ps,cs,ss) (cs[i].1,cs[i].2.1,cs[i].2.2)=_ from hc]at h;simp only[j0]at h;by_cases h0:c=0
    .subst h0;simp only[bne_self_eq_false,j5,j08]at h;rw[H hlt];intro z hm;rcases List.mem_cons.1 hm with rfl|hm
     .exact juT hc
     .exact jrF hzl hl n (i+1) m' omg_ h z hm
    grind[j0f]
  grind[j0f]
theorem jrG{ls:E j0c}(hl:ls.length<=100):∀(n i:R)(m:E (K×É)),i+n=ls.length->j1c zs ps cs ss ls (ls.length:o) (i:o) m=D (.inr ())->∀x∈ls.drop i,LC0 zs.length ps.length cs.length x
 |0,i,m,hi,_=>by
  simp_all
 |n+1,i,m,hi,h=>by
  have hlt:i<ls.length:=omg_;have hgd:ls.getD i (M,0,(0,0),0,0,[],[],0,0)=ls[i]:=by simp[N,hlt]
  obtain⟨e,m',hn⟩:=jiV ls[i].1 m;rw[j3i]at h;simp only[j0L,j3a,j3b]at h;rw[j00 (show (i:o)<(ls.length:o) by omega),j1g,j0d (x:=(i:o)+1)]at h;simp only[j4,j6,hgd,j0,hn]at h;by_cases he:e=0
  .subst he;simp only[bne_self_eq_false,j5]at h;cases hc:j1k (zs,ps,cs,ss) ls[i]with
   |none=>grind[lpK]
   |some c=>
    rw[show j1k (zs,ps,cs,ss) (ls[i].1,ls[i].2.1,(ls[i].2.2.1.1,ls[i].2.2.1.2),ls[i].2.2.2.1,ls[i].2.2.2.2.1,ls[i].2.2.2.2.2.1,ls[i].2.2.2.2.2.2.1,ls[i].2.2.2.2.2.2.2.1,ls[i].2.2.2.2.2.2.2.2)=_ from hc]at h;simp only[j0]at h;by_cases h0:c=0
    .subst h0;simp only[bne_self_eq_false,j5,j08]at h;rw[H hlt];intro z hm;rcases List.mem_cons.1 hm with rfl|hm
     .exact juS hc
     .exact jrG hl n (i+1) m' omg_ h z hm
    grind[j0f]
  grind[j0f]
theorem jrH{es:E j0H}(hl:es.length<=100):∀(n i:R),i+n=es.length->j22 es (es.length:o) (i:o) zs ps cs ss=D (.inr ())->∀x∈es.drop i,j1a (zs,ps,cs,ss) x=D 0
 |0,i,hi,_=>by
  simp_all
 |n+1,i,hi,h=>by
  have hlt:i<es.length:=omg_;have hgd:es.getD i (0,0,0,0,0)=es[i]:=by simp[N,hlt]
  rw[j3L]at h;simp only[j0V]at h;rw[j00 (show (i:o)<(es.length:o) by omega),j1g,j0d (x:=(i:o)+1)]at h;simp only[j4,j6,hgd]at h;cases hc:j1a (zs,ps,cs,ss) es[i]with
  |none=>grind[lpK]
  |some c=>
   rw[show j1a (zs,ps,cs,ss) (es[i].1,es[i].2.1,es[i].2.2.1,es[i].2.2.2.1,es[i].2.2.2.2)=_ from hc]at h;simp only[j0]at h;by_cases h0:c=0
   .subst h0;simp only[bne_self_eq_false,j5,j08]at h;rw[H hlt];intro z hm;rcases List.mem_cons.1 hm with rfl|hm
    .exact hc
    .exact jrH hl n (i+1) omg_ h z hm
   grind[j0f]
structure SC0(zs:E j0O)(ps:E j0r)(cs:E CalT)(ss:E j0q)(s:j0q):Prop where
 ll:s.2.1.length<=6
 el:s.2.2.length<=48
 ly:∀x∈s.2.1,LC0 zs.length ps.length cs.length x
 ed:∀x∈s.2.2,j1a (zs,ps,cs,ss) x=D 0
theorem jrI{α:Type}{u:α}{e c:o}(h:(D (rE u e):Ç (o ⊕ α))=D (.inl c)):c≠0:=by
 grind[rE_0,rE_n]
theorem juU(hzl:zs.length<=100)(hpl:ps.length<=100)(hcl:cs.length<=100){s:j0q}(hx:∀x∈s.2.2,x.2.2.2.2<=9223372036854775807)(h:j1u (zs,ps,cs,ss) s=D 0):SC0 zs ps cs ss s:=by
 simp only[j1u,show G s.2.1.length=(s.2.1.length:o) from rfl,show G s.2.2.length=(s.2.2.length:o) from rfl]at h;by_cases h6:(s.2.1.length:o)>6
 .simp_all
 by_cases h48:(s.2.2.length:o)>48
 .simp_all
 rw[j01 h6,j01 h48]at h;simp only[j5,j2k,show G s.2.1.length=(s.2.1.length:o) from rfl]at h;obtain⟨e',e1,_⟩:=jsX (zs:=zs) (ps:=ps) (cs:=cs) (ss:=ss) hzl hpl hcl (ls:=s.2.1) omg_ (m:=0) (nm:=s.1) (es:=s.2.2) (l3:=[]) s.2.1.length 0 [] omg_ rfl;obtain⟨c',d1,_⟩:=jsW (zs:=zs) (ps:=ps) (cs:=cs) (ss:=ss) hpl (es:=s.2.2) omg_ hx (m:=0) (nm:=s.1) (ls:=s.2.1) (l3:=[]) s.2.2.length 0 omg_;rw[show ((0:R):o)=0 from rfl]at e1 d1;cases hn:j1c zs ps cs ss s.2.1 (s.2.1.length:o) 0 []with
 |none=>simp_all
 |some r=>
  rw[hn]at h;cases r with
  |inl e=>have he:=jrI (e1.symm.trans hn);grind[j6J]
  |inr u=>
   simp only[j0,j3Q,bne_self_eq_false,j5]at h;cases hm:j22 s.2.2 (s.2.2.length:o) 0 zs ps cs ss with
   |none=>simp_all
   |some r=>
    rw[hm]at h;cases r with
    |inl e=>grind[jrI,j6J]
    |inr u2=>have a:=jrG (zs:=zs) (ps:=ps) (cs:=cs) (ss:=ss) (ls:=s.2.1) omg_ s.2.1.length 0 [] omg_ hn;have b:=jrH (zs:=zs) (ps:=ps) (cs:=cs) (ss:=ss) (es:=s.2.2) omg_ s.2.2.length 0 omg_ hm;rw[U]at a b;exact⟨omg_,omg_,a,b⟩
theorem jrJ(hzl:zs.length<=100)(hpl:ps.length<=100)(hcl:cs.length<=100)(hl:ss.length<=100)(hx:∀s∈ss,∀x∈s.2.2,x.2.2.2.2<=9223372036854775807):∀(n i:R)(m:E (K×É)),i+n=ss.length->j0W zs ps cs ss ss (ss.length:o) (i:o) m=D (.inr ())->∀s∈ss.drop i,SC0 zs ps cs ss s
 |0,i,m,hi,_=>by
  simp_all
 |n+1,i,m,hi,h=>by
  have hlt:i<ss.length:=omg_;have hgd:ss.getD i (M,[],[])=ss[i]:=by simp[N,hlt]
  obtain⟨e,m',hn⟩:=jiV ss[i].1 m;rw[j2F]at h;simp only[j0D,j6c,j6d]at h;rw[j00 (show (i:o)<(ss.length:o) by omega),j1g,j0d (x:=(i:o)+1)]at h;simp only[j4,j6,hgd,j0,hn]at h;by_cases he:e=0
  .subst he;simp only[bne_self_eq_false,j5]at h;cases hc:j1u (zs,ps,cs,ss) ss[i]with
   |none=>grind[lpK]
   |some c=>
    rw[show j1u (zs,ps,cs,ss) (ss[i].1,ss[i].2.1,ss[i].2.2)=_ from hc]at h;simp only[j0]at h;by_cases h0:c=0
    .subst h0;simp only[bne_self_eq_false,j5,j08]at h;rw[H hlt];intro z hm;rcases List.mem_cons.1 hm with rfl|hm
     .grind[juU]
     .exact jrJ hzl hpl hcl hl hx n (i+1) m' omg_ h z hm
    grind[j0f]
  grind[j0f]
structure Cfg0(zs:E j0O)(ps:E j0r)(cs:E CalT)(ss:E j0q):Prop where
 zl:zs.length<=16
 pl:ps.length<=32
 cl:cs.length<=8
 sl:ss.length<=12
 z:∀z∈zs,j1x z=D 0
 c:∀x∈cs,CCk zs.length x
 s:∀s∈ss,SC0 zs ps cs ss s
theorem jsZ(hz:∀z∈zs,ZF z)(hx:∀s∈ss,∀x∈s.2.2,x.2.2.2.2<=9223372036854775807)(h:j03 (zs,ps,cs,ss)=D 0):Cfg0 zs ps cs ss:=by
 simp only[j03,show G zs.length=(zs.length:o) from rfl,show G ps.length=(ps.length:o) from rfl,show G cs.length=(cs.length:o) from rfl,show G ss.length=(ss.length:o) from rfl]at h;cases hb:(cond (cond (cond (J ((zs.length:o)>16)) Z (J ((ps.length:o)>32))) Z (J ((cs.length:o)>8))) Z (J ((ss.length:o)>12))) with
 |true=>grind
 |false=>
  rw[hb]at h;simp only[Æ,Ä,decide_eq_false_iff_not]at hb;simp only[j5]at h;obtain⟨r,r1,_,r3⟩:=jsR (zs:=zs) (ps:=ps) (cs:=cs) (ss:=ss) hz omg_ zs.length 0 [] omg_ rfl;rw[show ((0:R):o)=0 from rfl]at r1;have r1:j1h zs (zs.length:o) 0 []=D r:=r1;simp only[j2K,show G zs.length=(zs.length:o) from rfl,r1,j0]at h;cases r with
  |inl e=>grind[j6J]
  |inr u=>
   simp only[j3Q,j0,bne_self_eq_false,j5]at h;have fz:=jrE (zs:=zs) omg_ hz zs.length 0 [] omg_ r1;obtain⟨c,c1,_⟩:=jhR (zs:=zs) (ps:=ps) (cs:=cs) (ss:=ss) omg_ omg_;rw[c1]at h;by_cases h1:c=0
   case neg=>grind[rE_n,j6J]
   subst h1;simp only[rE_0,j0,j3Q]at h;obtain⟨d,d1,_⟩:=jsT (zs:=zs) (ps:=ps) (cs:=cs) (ss:=ss) omg_ omg_ cs.length 0 [] omg_ rfl;rw[show ((0:R):o)=0 from rfl]at d1;have d1:j0U zs ps cs ss cs (cs.length:o) 0 []=D (rE () d):=d1;simp only[j1C,show G cs.length=(cs.length:o) from rfl,d1,j0]at h;by_cases h2:d=0
   case neg=>grind[rE_n,j6J]
   subst h2;rw[rE_0]at h d1;simp only[j0,j3Q,bne_self_eq_false,j5]at h;have fc:=jrF (zs:=zs) (ps:=ps) (cs:=cs) (ss:=ss) omg_ omg_ cs.length 0 [] omg_ d1;obtain⟨f,f1,_⟩:=jsY (zs:=zs) (ps:=ps) (cs:=cs) (ss:=ss) omg_ omg_ omg_ omg_ hx ss.length 0 [] omg_ rfl;rw[show ((0:R):o)=0 from rfl]at f1;have f1:j0W zs ps cs ss ss (ss.length:o) 0 []=D (rE () f):=f1;simp only[j2I,show G ss.length=(ss.length:o) from rfl,f1,j0]at h;by_cases h3:f=0
   case neg=>grind[rE_n,j6J]
   subst h3;rw[rE_0]at f1;have fs:=jrJ (zs:=zs) (ps:=ps) (cs:=cs) (ss:=ss) omg_ omg_ omg_ omg_ hx ss.length 0 [] omg_ f1;rw[U]at fz fc fs;exact⟨omg_,omg_,omg_,omg_,fz,fc,fs⟩
end
structure ZW(z:j0O):Prop where
 ok:∀r∈z.2.2,ROk r
 len:z.2.2.length<=2
 yr:∀r∈z.2.2,2025<=r.1
 few:(occs z.2.2).length<=4
theorem ZOk.w{z:j0O}(h:ZOk z):ZW z:=⟨h.ok,h.len,h.yr,h.few⟩
theorem ZW.f{z:j0O}(h:ZW z):ZF z:=⟨by have:=h.len;omega,by have:=h.few;omega⟩
theorem jt0:cnt 2025=20089:=by decide
theorem jun{r:Rule}(h:ROk r){y:o}(hy:2025<=y)(h2:y<=2240):1735000000<=(occ r y).1/\(occ r y).1<=8556000000:=by
 have hv:=j98 (j8J y r.2.2.1 omg_ h2 h.m0 h.m1);have hs0:=h.s0;have hs1:=h.s1;have hn:=jec (w:=r.2.2.2.2.1) (show 1970<=y by omega) h2 h.m0 h.m1 h.k0 h.k1;have hd:=j3v y r.2.2.1;have hc:=j9E hy;have hu:=j96 y r.2.2.1;rw[jt0]at hc;have hm:20089<=num y r.2.2.1 1:=by unfold num;omega
 unfold occ;dsimp only;omega
theorem jiW:∀(L:TrL)(now:o)(p:Ç o)(l:TrL),(∀x∈L,(1735000000<=x.1/\x.1<=8556000000) /\ -64800<=x.2/\x.2<=64800) -> -64800<=now->now<=64800->trG now p L=D l->Good now p L
 |[],_,_,_,_,_,_,_=>trivial
 |x::r,now,p,l,hL,h0,h1,h=>by
  have hx:=hL x smp_;simp only[trG]at h;simp only[Good];by_cases he:x.2=now
  .rw[if_pos he]at h ⊢;exact jiW r now p l (λy hy=>hL y (by simp[hy])) h0 h1 h
  .rw[if_neg he]at h ⊢;split at h
   .rename_i hc;obtain⟨c1,c2,c3,c4,c5⟩:=hc;cases hq:trG x.2 (D (x.1-now)) r with
    |none=>rw[hq]at h;simp at h
    |some q=>refine⟨⟨c1,c2,omg_,omg_,λq' hq'=>?_,hx.2.1,hx.2.2⟩,jiW r x.2 _ q (λy hy=>hL y (by simp[hy])) hx.2.1 hx.2.2 hq⟩;subst hq';simpa using c5
   .simp at h
theorem ZW.zok{z:j0O}(h:ZW z)(hc:j1x z=D 0):ZOk z:=by
 obtain⟨l,e1,t1,t2,_,h0⟩:=jku z h.f.2;obtain⟨e,e1',b,k1,k2,_,k4⟩:=jlG z h.f;have c2:j5F z=D e1:=by simp only[j5F,show j0x (z.1,z.2.1,z.2.2)=_ from t2,j0]
 rw[hc]at k1;rw[c2]at k2;simp only[j3]at k1 k2;subst k1 k2;have he:e1=0:=by apply Classical.byContradiction;intro hn;rw[if_neg (λhh=>hn hh.1)]at k4;omega
 obtain⟨_,⟨o0,o1⟩,hg⟩:=h0 he;refine⟨o0,o1,h.ok,h.len,h.yr,h.few,jiW _ _ _ l (λx hx=>?_) o0 o1 hg⟩;obtain⟨r,hr,j,hj,rfl⟩:=jms (jkp hx);have hk:=h.ok r hr;have hy:=h.yr r hr;have hy2:=hk.y2;exact⟨jun hk omg_ omg_,hk.o0,hk.o1⟩
structure CW(c:CfgT):Prop where
 z:∀z∈c.1,ZW z
 ed:∀s∈c.2.2.2,∀x∈s.2.2,x.2.2.2.2<=9223372036854775807
 w3:∀s∈c.2.2.2,∀x∈s.2.1,x.2.2.2.2.2.2.1.length<=3
theorem CW.chk{c:CfgT}(h:CW c):∃e,j03 c=D e/\j2L c=D e/\(e=0->Cfg0 c.1 c.2.1 c.2.2.1 c.2.2.2/\GOk c.1 c.2.1 c.2.2.1):=by
 obtain⟨zs,ps,cs,ss⟩:=c;obtain⟨e,e1,e2⟩:=jiS (zs:=zs) (ps:=ps) (cs:=cs) (ss:=ss) (λz hz=>(h.z z hz).f) h.ed;refine⟨e,e1,e2,λhe=>?_⟩;subst he;have hC:=jsZ (λz hz=>(h.z z hz).f) h.ed e1;exact⟨hC,λz hz=>(h.z z hz).zok (hC.z z hz),hC.c,hC.zl,hC.pl⟩
theorem jiX{L:E o}{a:o}(h:DOk L a){u0 u1 u2 u3:E Unit}(hp0:1<=u1.length)(hp1:u1.length<=100) :
  ∃x a',j2W L a (u0,u1,u2,u3)=D (x,L,a')/\(x.2.2.2.1<=1000000000000/\x.2.2.2.2<=1000000000000)/\DOk L a':=by
 obtain⟨k,a1,e1,k0,k1,d1⟩:=j0F (n:=3) h omg_ omg_;obtain⟨p,a2,e2,p0,p1,d2⟩:=j0F (n:=(u1.length:o)) d1 omg_ omg_;obtain⟨t,a3,e3,t0,t1,d3⟩:=jcq d2;obtain⟨y,a4,e4,m4,d4⟩:=j7x d3 (xs:=[(3600:o),(86400:o),(7:o),(259200:o),(40000:o)]) smp_ smp_;have hy:7<=y/\y<=259200:=by simp at m4;omega
 simp only[j2W,show G (Ë u1)=(u1.length:o) from rfl,e1,e2,e3,e4,j0];rw[j0d (x:=t+y)]
 have fin:∀(kd A B:o)(a':o),DOk L a'->∃x a'',D ((kd,A,B,t,t+y),L,a')=D (x,L,a'')/\(x.2.2.2.1<=1000000000000/\x.2.2.2.2<=1000000000000)/\DOk L a'':=
  λkd A B a' hd=>⟨_,_,rfl,by dsimp only;omega,hd⟩
 by_cases h2:k=2
 .rw[j9g h2,j4];by_cases hn:(u1.length:o)<2
  .simp_all
  .rw[j01 hn,j5,j0d (x:=(u1.length:o)-1)];obtain⟨q,a5,e5,q0,q1,d5⟩:=j0F (n:=(u1.length:o)-1) d4 omg_ omg_;simp(disch:=omega)only[e5,S0];grind
 .rw[j55 h2,j5];by_cases h1:k=1
  .rw[j9g h1,j4];obtain⟨b,a5,e5,d5⟩:=jb1 (n:=4) d4 omg_ omg_;simp only[e5,j0];cases b<;>grind
  .rw[j55 h1,j5];exact fin k p 0 _ d4
def LyW(ls:E j0c):Prop:=∀x∈ls,x.2.2.2.2.2.2.1.length<=3
def EdW(es:E j0H):Prop:=∀x∈es,x.2.2.2.2<=1000000000000
def ScW(ss:E j0q):Prop:=∀s∈ss,(s.2.1.length<=3/\LyW s.2.1)/\s.2.2.length<=3/\EdW s.2.2
theorem LyW.snoc{ls:E j0c}{x:j0c}(h:LyW ls)(hx:x.2.2.2.2.2.2.1.length<=3):LyW (ls++[x]):=λy hy=>by
 rcases List.mem_append.1 hy with hy|hy
 .exact h y hy
 simp_all
theorem EdW.snoc{es:E j0H}{x:j0H}(h:EdW es)(hx:x.2.2.2.2<=1000000000000):EdW (es++[x]):=λy hy=>by
 rcases List.mem_append.1 hy with hy|hy
 .exact h y hy
 simp_all
theorem jrK{L:E o}{s6:o}{nm:K}{zs:E j0O}{ps:E j0r}{cs:E CalT}{ss:E j0q}(hs:SOk zs ps cs):∀(n:R)(a:o)(ls:E j0c),DOk L a->ls.length+n<=3->LyW ls->
  ∃ls' a',j4K s6 (n:o) L a zs ps cs nm ss ls=D (s6,L,a',zs,ps,cs,nm,ss,ls')/\(ls'.length<=3/\LyW ls')/\DOk L a'
 |0,a,ls,hd,hl,hk=>by
  grind[j7e,j23,S0]
 |n+1,a,ls,hd,hl,hk=>by
  have hnl:jab=D [(I #[97,100,97]),(I #[98,111,98]),(I #[99,108,101,111]),(I #[100,97,110]),(I #[101,118,101]),(I #[102,97,121]),(I #[103,117,115]),(I #[104,97,108])]:=rfl;rw[j7e];simp only[j23,hnl,j0,show G (Ë ls)=(ls.length:o) from rfl];rw[j00 omg_,j2M (show (0:o)<=(ls.length:o) by omega) (by grind),j0d (x:=((n+1:R):o)-1),show ((n+1:R):o)-1=(n:o) by omega];generalize N [(I #[97,100,97]),(I #[98,111,98]),(I #[99,108,101,111]),(I #[100,97,110]),(I #[101,118,101]),(I #[102,97,121]),(I #[103,117,115]),(I #[104,97,108])] (Ì (ls.length:o)) M=nmx;obtain⟨l,a1,e1,l2,_,_,d1⟩:=jqT (ss:=ss) hd hs nmx;simp(disch:=omega)only[e1,S0];exact jrK hs n a1 (ls++[l]) d1 sqo_ (hk.snoc l2.w3)
theorem jrL{L:E o}{s6:o}{nm:K}{zs:E j0O}{ps:E j0r}{cs:E CalT}{ss:E j0q}{ls:E j0c}(hs:SOk zs ps cs):∀(n:R)(a:o)(es:E j0H),DOk L a->es.length+n<=3->EdW es->
  ∃es' a',j6r s6 (n:o) L a zs ps cs nm ss ls es=D (s6,L,a',zs,ps,cs,nm,ss,ls,es')/\es'.length<=3/\EdW es'/\DOk L a'
 |0,a,es,hd,hl,hk=>by
  rw[j7f];simp(disch:=omega)only[j24,S0];grind
 |n+1,a,es,hd,hl,hk=>by
  have hp0:=hs.p0;have hp1:=hs.p1;obtain⟨x,a1,e1,x1,d1⟩:=jiX hd (u0:=Á zs.length ()) (u1:=Á ps.length ()) (u2:=Á cs.length ()) (u3:=Á ss.length ()) (by rw[Ã];omega) (by rw[Ã];omega);rw[j7f];simp only[j24];rw[j00 omg_,j0d (x:=((n+1:R):o)-1),show ((n+1:R):o)-1=(n:o) by omega];simp(disch:=omega)only[e1,S0];exact jrL hs n a1 (es++[x]) d1 sqo_ (hk.snoc x1.2)
theorem jrM{L:E o}{zs:E j0O}{ps:E j0r}{cs:E CalT}(hs:SOk zs ps cs):∀(n:R)(a:o)(ss:E j0q),DOk L a->ss.length+n<=3->ScW ss->
  ∃ss' a',j4L (n:o) L a zs ps cs ss=D (L,a',zs,ps,cs,ss')/\ss'.length=ss.length+n/\ScW ss'/\DOk L a'
 |0,a,ss,hd,hl,hk=>by
  grind[j7g,j25,S0]
 |n+1,a,ss,hd,hl,hk=>by
  have hm0:0<=Ê (ss.length:o) 3:=Int.tmod_nonneg _ omg_;have hm1:Ê (ss.length:o) 3<3:=Int.tmod_lt_of_pos _ omg_;obtain⟨k,a3,e3,k0,k1,d3⟩:=j0F (n:=4) hd omg_ omg_;rw[j7g];simp(disch:=omega)only[j25,e3,S0];generalize N [(I #[102,105,114,115,116]),(I #[115,101,99,111,110,100]),(I #[116,104,105,114,100])] (Ì (Ê (ss.length:o) 3)) M=nm;obtain⟨ls,a4,e4,l4,d4⟩:=jrK (s6:=((n+1:R):o)) (nm:=nm) (ss:=ss) hs k.toNat a3 [] d3 sqo_ (λx hx=>by simp at hx);obtain⟨m,a5,e5,m0,m1,d5⟩:=j0F (n:=4) d4 omg_ omg_;obtain⟨es,a6,e6,l6,q6,d6⟩:=jrL (s6:=((n+1:R):o)) (nm:=nm) (zs:=zs) (cs:=cs) (ss:=ss) (ls:=ls) hs m.toNat a5 [] d5 sqo_ (λx hx=>by simp at hx);rw[show ((k.toNat:R):o)=k by omega]at e4;rw[show ((m.toNat:R):o)=m by omega]at e6;simp only[e4,e5,e6,j0];rw[j00 (by simp[j06];omega),j0d (x:=((n+1:R):o)-1),show ((n+1:R):o)-1=(n:o) by omega];simp only[j4,j08]
  obtain⟨ss',a',e',l',k',d'⟩:=jrM hs n a6 (ss++[(nm,ls,es)]) d6 sqo_ (λs hs'=>by
   rcases List.mem_append.1 hs' with h|h
   .exact hk s h
   simp_all)
  grind
theorem jnB{L:E o}{a:o}(h:DOk L a){n:o}(hn:1<=n)(hn2:n<=3):∃zs ps cs ss a',j6i L a n=D ((zs,ps,cs,ss),L,a')/\SOk zs ps cs/\1<=ss.length/\(ss.length:o)<=n/\ScW ss/\DOk L a':=by
 obtain⟨zs,ps,cs,a1,e1,hs,d1⟩:=jqS h;obtain⟨x,a2,e2,x0,x1,d2⟩:=j0F (n:=n) d1 hn omg_;obtain⟨ss,a3,e3,l3,k3,d3⟩:=jrM hs (1+x).toNat a2 [] d2 sqo_ (λs hs'=>by simp at hs');rw[show (((1+x).toNat:R):o)=1+x by omega]at e3;simp(disch:=omega)only[j6i,e1,e2,e3,S0];grind
noncomputable def pfX(zs:E j0O)(cs:E CalT)(ls:E j0c)(t:o)(i:R):Int:=perX zs cs (ls.getD i (M,0,(0,0),0,0,[],[],0,0)) t
def OrS(p:o):SgL->Prop
 |[]=>True
 |x::r=>p<=x.1/\x.1<x.2.1/\OrS x.2.1 r
def inG(t:o)(l:SgL):Prop:=∃x∈l,x.1<=t/\t<x.2.1
theorem OrS.weak{p q:o}(hq:q<=p):∀{l:SgL},OrS p l->OrS q l
 |[],_=>trivial
 |_::_,h=>⟨by have:=h.1;omega,h.2⟩
theorem OrS.app{e:o}{r:SgL}(hr:OrS e r):∀{l:SgL}{p:o},OrS p l->p<=e->(∀x∈l,x.2.1<=e)->OrS p (l++r)
 |[],_,_,hp,_=>hr.weak hp
 |x::l,p,h,_,hl=>⟨h.1,h.2.1,hr.app h.2.2 (hl x smp_) (λy hy=>hl y (by simp[hy]))⟩
theorem OrS.apart{p:o}:∀{l:SgL},OrS p l->l.Pairwise (λx y=>x.2.1<=y.1)/\∀x∈l,p<=x.1
 |[],_=>⟨List.Pairwise.nil,smp_⟩
 |x::l,h=>by
  obtain⟨h1,h2⟩:=OrS.apart h.2.2
  exact⟨List.pairwise_cons.2 ⟨h2,h1⟩,λy hy=>by
   rcases List.mem_cons.1 hy with rfl|hy
   .exact h.1
   .have:=h2 y hy;have:=h.1;have:=h.2.1;omega⟩
section
variable{nm:K}{ls:E j0c}{es:E j0H}(hE:∀x∈es,EC0 x)(hl:es.length<=48)
include hE hl
end
def Gi(gd:R->É)(len:R):R->Ç R
 |0=>none
 |m+1=>match Gi gd len m with
  |some i=>D i
  |none=>cond (gd (len-m-1)) (D (len-m-1)) none
def Wv(gd:R->É)(pf:R->o)(len m:R):Ç Int:=(Gi gd len m).map pf
def apart(x y:SgT):Prop:=x.2.1<=y.1\/y.2.1<=x.1
section
variable{zs:E j0O}{ps:E j0r}{cs:E CalT}(hs:GOk zs ps cs)
 {nm:K}{ls:E j0c}{es:E j0H}(hL:∀L∈ls,LC1 zs.length ps.length cs.length L)(hll:ls.length<=4)(hE:∀x∈es,EC0 x)(hel:es.length<=9)
 {ss:E j0q}{a b:o}(ha:0<=a)(hab:a<=b)(hb:b<=8589934592)(hlen:b-a<=35078400)
include hs hL hll hE hel ha hab hb hlen
structure juZ(zs:E j0O)(cs:E CalT)(ls:E j0c)(es:E j0H)(a b:o)(m:R)(F:SL)(O:SgL):Prop where
 st:StS (a-1) F
 fb:∀t,inS t F->t<b
 fr:∀t,a<=t->t<b->(inS t F↔Wv (jed es t (pfX zs cs ls t)) (pfX zs cs ls t) ls.length m=none)
 seg:∀x∈O,a<=x.1/\x.1<x.2.1/\x.2.1<=b/\∀t,x.1<=t->t<x.2.1->Wv (jed es t (pfX zs cs ls t)) (pfX zs cs ls t) ls.length m=D x.2.2
 ap:O.Pairwise apart
 cov:∀t,a<=t->t<b->Wv (jed es t (pfX zs cs ls t)) (pfX zs cs ls t) ls.length m≠none->inG t O
 fl:F.length+300000<=2^m*300001
 ol:O.length<=m*4000000
end
def edB(es:E j0H):E Int:=es.flatMap λx=>[x.2.2.2.1,x.2.2.2.2]
section
variable{zs:E j0O}{ps:E j0r}{cs:E CalT}
theorem jmz{nm:K}{ls:E j0c}{es:E j0H}{p t:o}(hl:es.length<=1000):∀(n i:R),i+n=es.length->jaM p t (i:o) nm ls es=D (cond (jfo (es.drop i) p t) (.inl Z) (.inr ()))
 |0,i,hi=>by
  rw[jcB];simp(disch:=omega)only[j4Y,W,S0];rfl
 |n+1,i,hi=>by
  have hlt:i<es.length:=omg_;have hgd:es.getD i (0,0,0,0,0)=es[i]:=by simp[N,hlt]
  have ih:=jmz (nm:=nm) (ls:=ls) (p:=p) (t:=t) hl n (i+1) omg_;rw[jcB];simp(disch:=omega)only[j4Y,H hlt,S0];have ha:jfo (es[i]::es.drop (i+1)) p t=((es[i].1==0&&(es[i].2.1==p&&(J (es[i].2.2.2.1<=t)&&J (t<es[i].2.2.2.2))))||jfo (es.drop (i+1)) p t):=rfl;have e:(cond (cond (cond (es[i].1==(0:o)) (es[i].2.1==p) Â) (J (es[i].2.2.2.1<=t)) Â) (J (t<es[i].2.2.2.2)) Â)=(es[i].1==0&&(es[i].2.1==p&&(J (es[i].2.2.2.1<=t)&&J (t<es[i].2.2.2.2)))):=by grind
  rw[e,ha];cases (es[i].1==0&&(es[i].2.1==p&&(J (es[i].2.2.2.1<=t)&&J (t<es[i].2.2.2.2)))) with
  |true=>rfl
  |false=>grind[j08]
theorem jnC{nm:K}{ls:E j0c}{es:E j0H}{p t:o}(hl:es.length<=1000):jfC (nm,ls,es) p t=D (jfo es p t):=by
 have:=jmz (nm:=nm) (ls:=ls) (p:=p) (t:=t) hl es.length 0 omg_;simp only[jfC,show jaM p t 0 nm ls es=_ from this,j0,U];cases jfo es p t<;>rfl
theorem jpN(hs:GOk zs ps cs){ss:E j0q}{nm:K}{ls:E j0c}{es:E j0H}(hel:es.length<=1000)(hll:ls.length<=1000)(hL:∀L∈ls,LC1 zs.length ps.length cs.length L){t:o}(h0:0<=t)(h1:t<=8589934592):∀n:R,n<=ls.length->
  jeJ t ((n:o)-1) zs ps cs ss nm ls es=D (match topI (jed es t (pfX zs cs ls t)) n with|some i=> .inl ((i:o),pfX zs cs ls t i)|none=> .inr ())
 |0,hn=>by
  rw[jdP];simp(disch:=omega)only[j5G,S0];rfl
 |n+1,hn=>by
  have hlt:n<ls.length:=omg_;have hgd:ls.getD n (M,0,(0,0),0,0,[],[],0,0)=ls[n]:=by simp[N,hlt]
  have ih:=jpN hs (ss:=ss) (nm:=nm) hel hll hL h0 h1 n omg_;have hp:=jr0 hs (hL _ (À hlt)) (ss:=ss) h0 h1;have e:pfX zs cs ls t n=perX zs cs ls[n] t:=by grind[pfX]
  rw[show ((n+1:R):o)-1=(n:o) by omega,jdP];simp(disch:=omega)only[j5G,show jgp (zs,ps,cs,ss) (ls[n].1,ls[n].2.1,(ls[n].2.2.1.1,ls[n].2.2.1.2),ls[n].2.2.2.1,ls[n].2.2.2.2.1,ls[n].2.2.2.2.2.1,ls[n].2.2.2.2.2.2.1,ls[n].2.2.2.2.2.2.2.1,ls[n].2.2.2.2.2.2.2.2) t=_ from hp,topI,jed,e,S0];by_cases hp0:0<=perX zs cs ls[n] t
  .simp(disch:=omega)only[jnC hel,Å,S0];grind[j08,j0f]
  simp_all[S0]
end
end Go.Proofs.Pw
