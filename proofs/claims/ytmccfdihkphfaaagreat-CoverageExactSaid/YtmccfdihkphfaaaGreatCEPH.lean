/- Facts. -/
import Derived.Test.YtmccfdihkphfaaaGreatCEPG
import Derived.Test.YtmccfdihkphfaaaGreatCEPC
import Derived.Test.YtmccfdihkphfaaaGreatCEPB
open _root_ renaming Int->o,List->H,ByteArray->J,Nat->N,Option->Z,Bool->Â
open Option renaming some->D
open Int renaming ofNat->E,tmod->W,toNat->Á,tdiv->Ã
open List renaming drop_eq_getElem_cons->F,getD->K,replicate->R,drop_of_length_le->U,length->À
open ByteArray renaming mk->G,empty->M
open Decidable renaming decide->I
open Bool renaming true->O,false->S
open Go Go.Lft
namespace Go.Proofs.Pw
theorem He(n lo hi:o):∃b,j3I n lo hi=D b/\j9i n lo hi=D b:=⟨_,rfl,rfl⟩
section
variable{zs:H bB}{ps:H cZ}{cs:H aY}{ss:H bW}
theorem ţ(fy:ps.length<=100){L:bt}(hl:L.2.2.2.2.2.1.length<=100):∀(n i:N),i+n=L.2.2.2.2.2.1.length->∃q e,((Jo L.2.2.2.2.2.1 zs ps cs ss (L.2.2.2.2.2.1.length:o) (i:o)).bind λq0=>sumC q0 (λa=>D a) (λ_=>D (-1:o)))=D q/\
   P8 (i:o) zs ps cs ss L.1 L.2.1 L.2.2.1.1 L.2.2.1.2 L.2.2.2.1 L.2.2.2.2.1 L.2.2.2.2.2.1 L.2.2.2.2.2.2.1 L.2.2.2.2.2.2.2.1 L.2.2.2.2.2.2.2.2=D (rE (zs,ps,cs,ss,L.1,L.2.1,L.2.2.1.1,L.2.2.1.2,L.2.2.2.1,L.2.2.2.2.1,L.2.2.2.2.2.1,L.2.2.2.2.2.2.1,L.2.2.2.2.2.2.2.1,L.2.2.2.2.2.2.2.2) e)/\
   (e=if q>=0 then 3 else 0)
 |0,i,hi=>by
  rw[Jp,_3];simp(disch:=omega)only[j0q,j6X,S0];exact⟨-1,0,rfl,rfl,rfl⟩
 |n+1,i,hi=>by
  have ao:i<L.2.2.2.2.2.1.length:=aa;have br:L.2.2.2.2.2.1.getD i (0:o)=L.2.2.2.2.2.1[i]:=by simp[K,ao]
  obtain⟨q,e,q1,q2,q3⟩:=ţ fy hl n (i+1) aa;obtain⟨b,b1,b2⟩:=BA L.2.2.2.2.2.1[i] (n:=ps.length) aa;rw[Jp,_3];simp only[j0q,j6X,j68,show E L.2.2.2.2.2.1.length=(L.2.2.2.2.2.1.length:o) from rfl,show E ps.length=(ps.length:o) from rfl];rw[ai (show (i:o)<(L.2.2.2.2.2.1.length:o) by omega),cB,aQ (x:=(i:o)+1)];simp only[j6,j8,br,b1,b2,j4];cases b with
  |true=>simp only[jg,j7,bg];exact⟨q,e,q1,q2,q3⟩
  |false=>exact⟨(i:o),3,rfl,rfl,by rw[if_pos aa]⟩
theorem jHx(fT:zs.length<=100)(fy:ps.length<=100)(eu:cs.length<=100)(L:bt):∃e,j22 (zs,(ps,(cs,ss))) L=D e/\jjg (zs,(ps,(cs,ss))) L=D e:=by
 obtain⟨b1,p1,p2⟩:=BA L.2.1 (n:=zs.length) aa;obtain⟨b3,s1,s2⟩:=He L.2.2.1.2 0 86399;obtain⟨b4,s3,s4⟩:=He L.2.2.2.1 0 2;obtain⟨b5,s5,s6⟩:=He L.2.2.2.2.1 1 400;obtain⟨c,c1,c2,_⟩:=U0 L.2.2.2.2.2.2.1;obtain⟨b6,s7,s8⟩:=He L.2.2.2.2.2.2.2.2 0 2;obtain⟨b7,p3,p4⟩:=BA L.2.2.2.2.2.2.2.1 (n:=cs.length) aa;simp only[j22,jjg,show E zs.length=(zs.length:o) from rfl,show E cs.length=(cs.length:o) from rfl,show E L.2.2.2.2.2.1.length=(L.2.2.2.2.2.1.length:o) from rfl,p1,p2,j4];cases b1 with
 |false=>exact⟨3,rfl,rfl⟩
 |true=>
 simp only[jg,j7,yI,UL,j4,s1,s2,s3,s4,s5,s6]
 have hd:j9i L.2.2.1.1 1 98980=D (I (1<=L.2.2.1.1)&&I (L.2.2.1.1<=98980)):=by
  simp only[j9i];by_cases h:1<=L.2.2.1.1
  .simp(disch:=omega)only[qx,S0]
  .simp(disch:=omega)only[Bool.false_and,S0]
 rw[hd];simp only[j4];by_cases h1:L.2.2.1.1<1
 .simp(disch:=omega)only[S0];exact⟨1,rfl,rfl⟩
 rw[aC h1,ai (show 0<=L.2.2.1.1 by omega),ai (show 1<=L.2.2.1.1 by omega)];simp only[j7,qx];cases I (L.2.2.1.1<=98980) with
 |false=>exact⟨1,rfl,rfl⟩
 |true=>
 simp only[jg,j7];cases b3 with
 |false=>exact⟨1,rfl,rfl⟩
 |true=>
 cases b4 with
 |false=>exact⟨1,rfl,rfl⟩
 |true=>
 cases b5 with
 |false=>exact⟨1,rfl,rfl⟩
 |true=>
 simp only[jg,j7];by_cases h0:L.2.2.2.2.2.1.length=0
 .rw[show ((L.2.2.2.2.2.1.length:o)==0)=O by simp[h0]];exact⟨7,rfl,rfl⟩
 rw[cU (show (L.2.2.2.2.2.1.length:o)≠0 by omega),j7,j7];by_cases uI:(L.2.2.2.2.2.1.length:o)>12
 .rw[ai uI];exact⟨5,rfl,rfl⟩
 rw[aC uI,j7,j7];obtain⟨q,e,q1,q2,q3⟩:=ţ (zs:=zs) (ps:=ps) (cs:=cs) (ss:=ss) fy (L:=L) aa L.2.2.2.2.2.1.length 0 aa;rw[show ((0:N):o)=0 from rfl]at q1 q2;have BB:j1d L.2.2.2.2.2.1 zs ps cs ss=D (I (q>=0)):=by simp(disch:=omega)only[j1d,j3q,S0];rw[q1];rfl
 rw[BB,q2];by_cases hq:q>=0
 .rw[if_pos hq]at q3;subst q3;rw[ai hq];exact⟨3,rfl,rfl⟩
 rw[if_neg hq]at q3;subst q3;rw[aC hq,lQ];simp only[j4,j7,o8,c1,c2,s7,s8];cases (c != 0) with
 |true=>exact⟨8,rfl,rfl⟩
 |false=>
 simp only[j7];cases b6 with
 |false=>exact⟨1,rfl,rfl⟩
 |true=>
 simp only[jg,j7,show E cs.length=(cs.length:o) from rfl];rw[p3,p4];cases (L.2.2.2.2.2.2.2.2 != 0) with
 |true=>
  cases b7 with
  |false=>exact⟨3,rfl,rfl⟩
  |true=>
   simp only[jg,j7,j6,j4];cases (cond (L.2.2.2.2.2.2.2.2==0) (L.2.2.2.2.2.2.2.1 != 0) S) with
   |true=>exact⟨1,rfl,rfl⟩
   |false=>exact⟨0,rfl,rfl⟩
 |false=>
  simp only[j7];cases (cond (L.2.2.2.2.2.2.2.2==0) (L.2.2.2.2.2.2.2.1 != 0) S) with
  |true=>exact⟨1,rfl,rfl⟩
  |false=>exact⟨0,rfl,rfl⟩
theorem jHy(fy:ps.length<=100)(x:ct)(hx:x.2.2.2.2<=9223372036854775807):∃e,j11 (zs,(ps,(cs,ss))) x=D e/\jmk (zs,(ps,(cs,ss))) x=D e:=by
 obtain⟨b1,s1,s2⟩:=He x.1 0 2;obtain⟨b2,p1,p2⟩:=BA x.2.1 (n:=ps.length) aa;obtain⟨b3,p3,p4⟩:=BA x.2.2.1 (n:=ps.length) aa
 have tail:∀X:Z o,X=(cond (cond (x.1 != 2) (x.2.2.1 != 0) S) (D 1) (cond (cond (x.1==2) (x.2.1==x.2.2.1) S) (D 4)
   (cond (cond (I (x.2.2.2.1<0)) O (I (x.2.2.2.2<0))) (D 1) ((j15 (w64 (Ã x.2.2.2.2 86400))).bind λr74=>cond (!r74) (D 1) (cond (I (x.2.2.2.1>=x.2.2.2.2)) (D 6) (D 0))))))->
   ∀Y:Z o,Y=(cond (cond (x.1 != 2) (x.2.2.1 != 0) S) (D 1) (cond (cond (x.1==2) (x.2.1==x.2.2.1) S) (D 4)
   (cond (I (x.2.2.2.1<0)) (D 1) (cond (I (x.2.2.2.2<0)) (D 1) ((jc8).bind λr77=>cond (I (w64 (Ã x.2.2.2.2 86400)>r77)) (D 1) (cond (I (x.2.2.2.1>=x.2.2.2.2)) (D 6) (D 0)))))))->
   ∃e,X=D e/\Y=D e:=λX hX Y hY=>by
  rw[hX,hY];cases (cond (x.1 != 2) (x.2.2.1 != 0) S) with
  |true=>exact⟨1,rfl,rfl⟩
  |false=>
  cases (cond (x.1==2) (x.2.1==x.2.2.1) S) with
  |true=>exact⟨4,rfl,rfl⟩
  |false=>
  simp only[j7];by_cases hf:x.2.2.2.1<0
  .rw[ai hf];exact⟨1,rfl,rfl⟩
  rw[aC hf];by_cases ht:x.2.2.2.2<0
  .rw[ai ht];exact⟨1,rfl,rfl⟩
  simp(disch:=omega)only[yI,UL,uS,S0];by_cases hm:x.2.2.2.2/86400<=98980
  .rw[ai hm,aC (show¬x.2.2.2.2/86400>98980 by omega)];simp only[z8,jg,j7];cases I (x.2.2.2.1>=x.2.2.2.2) with
   |true=>exact⟨6,rfl,rfl⟩
   |false=>exact⟨0,rfl,rfl⟩
  .rw[aC hm,ai (show x.2.2.2.2/86400>98980 by omega)];exact⟨1,rfl,rfl⟩
 simp only[j11,jmk,show E ps.length=(ps.length:o) from rfl,s1,s2,j4,p1,p2,p3,p4];cases b1 with
 |false=>exact⟨1,rfl,rfl⟩
 |true=>
 simp only[jg,j7];have ha:(cond (x.1 != 1) O (x.2.1 != -1)) = !(cond (x.1==1) (x.2.1 == -1) S):=by show (cond (!(x.1==1)) O (!(x.2.1 == -1)))=_;cases (x.1==1)<;>simp
 rw[ha];cases hA:(cond (!b2) (!(cond (x.1==1) (x.2.1 == -1) S)) S) with
 |true=>simp only[j6,jv,Bool.or_true];exact⟨3,rfl,rfl⟩
 |false=>
 simp only[j7];cases hk:(x.1==2) with
 |true=>
  simp only[j6];cases b3 with
  |false=>exact⟨3,rfl,rfl⟩
  |true=>simp only[jg,j7];exact tail _ (by rw[hk];rfl) _ (by rw[hk];rfl)
 |false=>simp only[j7];exact tail _ (by rw[hk];rfl) _ (by rw[hk];rfl)
theorem U6(fy:ps.length<=100){es:H ct}(hl:es.length<=100)(hx:∀x∈es,x.2.2.2.2<=9223372036854775807){m:o}{nm:J}{ls:H bt}{l3:H J}:∀(n i:N),i+n=es.length->∃e,
   F1 es (es.length:o) (i:o) zs ps cs ss=D (rE () e)/\Qa m (i:o) zs ps cs ss nm ls es l3=D (rE (m,zs,ps,cs,ss,l3) e)
 |0,i,hi=>by
  rw[Pd,_5];simp(disch:=omega)only[j1k,j4y,S0];exact⟨0,rfl,rfl⟩
 |n+1,i,hi=>by
  have ao:i<es.length:=aa;have br:es.getD i ((0:o),((0:o),((0:o),((0:o),(0:o)))))=es[i]:=by simp[K,ao]
  obtain⟨e,e1,e2⟩:=U6 (m:=m) (nm:=nm) (ls:=ls) (l3:=l3) fy hl hx n (i+1) aa;obtain⟨c,c1,c2⟩:=jHy (zs:=zs) (cs:=cs) (ss:=ss) fy es[i] (hx _ (jd ao));rw[Pd,_5];simp only[j1k,j4y,show E es.length=(es.length:o) from rfl];rw[ai (show (i:o)<(es.length:o) by omega),cB,aQ (x:=(i:o)+1)];simp only[j6,j8,br];rw[show j11 (zs,(ps,(cs,ss))) (es[i].1,(es[i].2.1,(es[i].2.2.1,(es[i].2.2.2.1,es[i].2.2.2.2))))=_ from c1,show jmk (zs,(ps,(cs,ss))) (es[i].1,(es[i].2.1,(es[i].2.2.1,(es[i].2.2.2.1,es[i].2.2.2.2))))=_ from c2];simp only[j4];by_cases hc:c=0
  .subst hc;simp only[je,j7,bg];exact⟨e,e1,e2⟩
  .rw[show (c != 0)=O by simpa using hc];exact⟨c,by rw[cM _ hc];rfl,by rw[cM _ hc];rfl⟩
theorem U7(fT:zs.length<=100)(fy:ps.length<=100)(eu:cs.length<=100){ls:H bt}(hl:ls.length<=100){m:o}{nm:J}{es:H ct}{l3:H J}:∀(n i:N)(L:H J),i+n=ls.length->L.length=i->
  ∃e,C3 zs ps cs ss ls (ls.length:o) (i:o) (pr L)=D (rE () e)/\P9 m (i:o) zs ps cs ss nm ls es l3 L=D (rE (m,zs,ps,cs,ss,nm,ls,es,l3) e)
 |0,i,L,hi,_=>by
  rw[Pc,_4];simp(disch:=omega)only[j10,j4x,S0];exact⟨0,rfl,rfl⟩
 |n+1,i,L,hi,hL=>by
  have ao:i<ls.length:=aa;have br:ls.getD i (M,((0:o),(((0:o),(0:o)),((0:o),((0:o),(([]:H o),(([]:WL),((0:o),(0:o)))))))))=ls[i]:=by simp[K,ao]
  have ih:=U7 fT fy eu hl (m:=m) (nm:=nm) (es:=es) (l3:=l3) n (i+1) (L++[ls[i].1]) aa aj;obtain⟨en,n1,n2⟩:=Hd (L:=L) aa ls[i].1;obtain⟨c,c1,c2⟩:=jHx (zs:=zs) (ps:=ps) (cs:=cs) (ss:=ss) fT fy eu ls[i];rw[hL]at n2;rw[Pc,_4];simp only[j10,j4x,j4I,j4J,show E ls.length=(ls.length:o) from rfl];rw[ai (show (i:o)<(ls.length:o) by omega),cB,aQ (x:=(i:o)+1)];simp only[j6,j8,br,n1,j4];rw[ai (show L.length+[ls[i].1].length<=aK by simp[aK];omega)];simp only[j6,n2,j4];by_cases he:en=0
  .subst he;simp only[je,j7,if_true]
   rw[show j22 (zs,(ps,(cs,ss))) (ls[i].1,(ls[i].2.1,((ls[i].2.2.1.1,ls[i].2.2.1.2),(ls[i].2.2.2.1,(ls[i].2.2.2.2.1,(ls[i].2.2.2.2.2.1,(ls[i].2.2.2.2.2.2.1,(ls[i].2.2.2.2.2.2.2.1,ls[i].2.2.2.2.2.2.2.2))))))))=_ from c1,
    show jjg (zs,(ps,(cs,ss))) (ls[i].1,(ls[i].2.1,((ls[i].2.2.1.1,ls[i].2.2.1.2),(ls[i].2.2.2.1,(ls[i].2.2.2.2.1,(ls[i].2.2.2.2.2.1,(ls[i].2.2.2.2.2.2.1,(ls[i].2.2.2.2.2.2.2.1,ls[i].2.2.2.2.2.2.2.2))))))))=_ from c2]
   simp only[j4];by_cases hc:c=0
   .subst hc;simp only[je,j7,bg];exact ih
   .rw[show (c != 0)=O by simpa using hc];exact⟨c,by rw[cM _ hc];rfl,by rw[cM _ hc];rfl⟩
  .rw[show (en != 0)=O by simpa using he];exact⟨en,by rw[cM _ he];rfl,by rw[cM _ he];rfl⟩
theorem U8(fT:zs.length<=100)(fy:ps.length<=100)(eu:cs.length<=100)(hl:ss.length<=100)(hx:∀s∈ss,∀x∈s.2.2,x.2.2.2.2<=9223372036854775807):∀(n i:N)(L:H J),i+n=ss.length->L.length=i->
  ∃e,C4 zs ps cs ss ss (ss.length:o) (i:o) (pr L)=D (rE () e)/\Qb (i:o) zs ps cs ss L=D (rE () e)
 |0,i,L,hi,_=>by
  rw[Pe,_6];simp(disch:=omega)only[j0Q,j4z,S0];exact⟨0,rfl,rfl⟩
 |n+1,i,L,hi,hL=>by
  have ao:i<ss.length:=aa;have br:ss.getD i (M,(([]:H bt),([]:H ct)))=ss[i]:=by simp[K,ao]
  have ih:=U8 fT fy eu hl hx n (i+1) (L++[ss[i].1]) aa aj;have hxi:=hx _ (jd ao);obtain⟨en,n1,n2⟩:=Hd (L:=L) aa ss[i].1;rw[hL]at n2;rw[Pe,_6];simp only[j0Q,j4z,ja5,ja6,show E ss.length=(ss.length:o) from rfl];rw[ai (show (i:o)<(ss.length:o) by omega),cB,aQ (x:=(i:o)+1)];simp only[j6,j8,br,n1,j4];rw[ai (show L.length+[ss[i].1].length<=aK by simp[aK];omega)];simp only[j6,n2,j4];by_cases he:en=0
  .subst he;simp only[je,j7,if_true,j2h,show E ss[i].2.1.length=(ss[i].2.1.length:o) from rfl,show E ss[i].2.2.length=(ss[i].2.2.length:o) from rfl];by_cases BD:(ss[i].2.1.length:o)>6\/(ss[i].2.2.length:o)>48
   .have hb:(cond (I ((ss[i].2.1.length:o)>6)) O (I ((ss[i].2.2.length:o)>48)))=true:=by
     rcases BD with h|h
     .rw[ai h];rfl
     .rw[ai h];cases I ((ss[i].2.1.length:o)>6)<;>rfl
    rw[hb];exact⟨5,rfl,rfl⟩
   .rw[aC (λh=>BD (.inl h)),aC (λh=>BD (.inr h))];simp only[j7];obtain⟨e,e1,e2⟩:=U7 (zs:=zs) (ps:=ps) (cs:=cs) (ss:=ss) fT fy eu (ls:=ss[i].2.1) aa (m:=(i:o)) (nm:=ss[i].1) (es:=ss[i].2.2) (l3:=L++[ss[i].1]) ss[i].2.1.length 0 [] aa rfl;obtain⟨c,c1,c2⟩:=U6 (zs:=zs) (ps:=ps) (cs:=cs) (ss:=ss) fy (es:=ss[i].2.2) aa hxi (m:=(i:o)) (nm:=ss[i].1) (ls:=ss[i].2.1) (l3:=L++[ss[i].1]) ss[i].2.2.length 0 aa;rw[show ((0:N):o)=0 from rfl]at e1 e2 c1 c2
    have en:j3r ss[i].2.1 zs ps cs ss=D e:=by
     simp(disch:=omega)only[j3r,show C3 zs ps cs ss ss[i].2.1 (ss[i].2.1.length:o) 0 []=_ from e1,S0];by_cases h0:e=0
     .subst h0;rfl
     .rw[cM _ h0];rfl
    rw[en,e2];by_cases h0:e=0
    .subst h0;rw[lQ];simp only[j4,je,j7,o8,c1,c2];by_cases hc:c=0
     .subst hc;simp(disch:=omega)only[lQ,S0];exact ih
     .rw[cM _ hc,cM _ hc];simp only[j4,pX];rw[show (c != 0)=O by simpa using hc];exact⟨c,by rw[cM _ hc];rfl,by rw[cM _ hc];rfl⟩
    .rw[cM _ h0];simp only[j4,pX];rw[show (e != 0)=O by simpa using h0];simp only[j6,j4];rw[show (e != 0)=O by simpa using h0];exact⟨e,by rw[cM _ h0];rfl,by rw[cM _ h0];rfl⟩
  .rw[show (en != 0)=O by simpa using he];exact⟨en,by rw[cM _ he];rfl,by rw[cM _ he];rfl⟩
theorem jHC(hz:∀z∈zs,ZF z)(hx:∀s∈ss,∀x∈s.2.2,x.2.2.2.2<=9223372036854775807):∃e,j5h (zs,(ps,(cs,ss)))=D e/\j9N (zs,(ps,(cs,ss)))=D e:=by
 simp only[j5h,j9N,show E zs.length=(zs.length:o) from rfl,show E ps.length=(ps.length:o) from rfl,show E cs.length=(cs.length:o) from rfl,show E ss.length=(ss.length:o) from rfl];cases hb:(cond (cond (cond (I ((zs.length:o)>16)) O (I ((ps.length:o)>32))) O (I ((cs.length:o)>8))) O (I ((ss.length:o)>12))) with
 |true=>exact⟨5,rfl,rfl⟩
 |false=>
  simp only[zj,v8,ka]at hb;simp only[j7];obtain⟨e,e1,e2⟩:=jD4 (zs:=zs) (ps:=ps) (cs:=cs) (ss:=ss) hz aa;rw[e1,e2];simp only[j4];by_cases h0:e=0
  .subst h0;simp only[je,j7];obtain⟨c,c1,c2⟩:=š (zs:=zs) (ps:=ps) (cs:=cs) (ss:=ss) aa aa;rw[c1,c2];simp only[j4];by_cases h1:c=0
   .subst h1;obtain⟨d,d1,d2⟩:=jEV (zs:=zs) (ps:=ps) (cs:=cs) (ss:=ss) aa aa;simp only[lQ,o8,je,j7,d1,d2,j4];by_cases h2:d=0
    .subst h2;simp only[je,j7];obtain⟨f,f1,f2⟩:=U8 (zs:=zs) (ps:=ps) (cs:=cs) (ss:=ss) aa aa aa aa hx ss.length 0 [] aa rfl;rw[show ((0:N):o)=0 from rfl]at f1 f2;refine⟨f,?_,?_⟩
     .simp(disch:=omega)only[j3R,show C4 zs ps cs ss ss (ss.length:o) 0 []=_ from f1,S0];by_cases hf:f=0
      .subst hf;rfl
      .rw[cM _ hf];rfl
     .simp only[jhQ,f2,j4];by_cases hf:f=0
      .subst hf;rfl
      .rw[cM _ hf];rfl
    .rw[show (d != 0)=O by simpa using h2];exact⟨d,rfl,rfl⟩
   .rw[cM _ h1,show (c != 0)=O by simpa using h1];exact⟨c,rfl,rfl⟩
  .rw[show (e != 0)=O by simpa using h0];exact⟨e,rfl,rfl⟩
end
theorem Lq{n lo hi:o}(h:j3I n lo hi=D O):lo<=n/\n<=hi:=by
 grind[j3I]
theorem DE{i n:o}(h:j1a i n=D O):0<=i/\i<n:=by
 grind[j1a]
section
variable{zs:H bB}{ps:H cZ}{cs:H aY}{ss:H bW}
theorem Ť{ms:H o}(hl:ms.length<=100):∀(n i:N),i+n=ms.length->∃q,((Jo ms zs ps cs ss (ms.length:o) (i:o)).bind λq0=>sumC q0 (λa=>D a) (λ_=>D (-1:o)))=D q/\(¬q>=0->∀m∈ms.drop i,0<=m/\m<(ps.length:o))
 |0,i,hi=>by
  rw[Jp];simp(disch:=omega)only[U,j0q,S0]
  simp_all
 |n+1,i,hi=>by
  have ao:i<ms.length:=aa;have br:ms.getD i (0:o)=ms[i]:=by simp[K,ao]
  obtain⟨q,q1,q2⟩:=Ť hl n (i+1) aa;obtain⟨b,hb⟩:∃b,j1a ms[i] (ps.length:o)=D b:=⟨_,rfl⟩;rw[Jp];simp(disch:=omega)only[F ao,j0q,j68,hb,S0];cases b with
  |true=>simp only[jg,j7,bg];refine⟨q,q1,λhq m hm=>?_⟩;grind[DE]
  |false=>exact⟨(i:o),rfl,λhq=>absurd aa hq⟩
theorem jJY{L:bt}(h:j22 (zs,(ps,(cs,ss))) L=D 0):Dz zs.length ps.length cs.length L:=by
 obtain⟨b1,p1⟩:∃b,j1a L.2.1 (zs.length:o)=D b:=⟨_,rfl⟩;obtain⟨b3,s1⟩:∃b,j3I L.2.2.1.2 0 86399=D b:=⟨_,rfl⟩;obtain⟨b4,s3⟩:∃b,j3I L.2.2.2.1 0 2=D b:=⟨_,rfl⟩;obtain⟨b5,s5⟩:∃b,j3I L.2.2.2.2.1 1 400=D b:=⟨_,rfl⟩;obtain⟨c,c1,_,c3⟩:=U0 L.2.2.2.2.2.2.1;obtain⟨b6,s7⟩:∃b,j3I L.2.2.2.2.2.2.2.2 0 2=D b:=⟨_,rfl⟩;obtain⟨b7,p3⟩:∃b,j1a L.2.2.2.2.2.2.2.1 (cs.length:o)=D b:=⟨_,rfl⟩;simp only[j22,show E zs.length=(zs.length:o) from rfl,show E cs.length=(cs.length:o) from rfl,show E L.2.2.2.2.2.1.length=(L.2.2.2.2.2.1.length:o) from rfl,p1,j4,yI,s1,s3,s5]at h;cases b1 with
 |false=>simp at h
 |true=>
 simp only[jg,j7]at h;by_cases h1:L.2.2.1.1<1
 .simp_all
 rw[aC h1,ai (show 0<=L.2.2.1.1 by omega)]at h;simp only[j7,qx]at h;by_cases h2:L.2.2.1.1<=98980
 case neg=>simp_all
 rw[ai h2]at h;simp only[jg,j7]at h;cases b3 with
 |false=>simp at h
 |true=>
 cases b4 with
 |false=>simp at h
 |true=>
 cases b5 with
 |false=>simp at h
 |true=>
 simp only[jg,j7]at h;by_cases h0:L.2.2.2.2.2.1.length=0
 .simp_all
 rw[cU (show (L.2.2.2.2.2.1.length:o)≠0 by omega),j7]at h;by_cases uI:(L.2.2.2.2.2.1.length:o)>12
 .simp_all
 rw[aC uI,j7]at h;obtain⟨q,q1,q2⟩:=Ť (zs:=zs) (ps:=ps) (cs:=cs) (ss:=ss) (ms:=L.2.2.2.2.2.1) aa L.2.2.2.2.2.1.length 0 aa;rw[show ((0:N):o)=0 from rfl]at q1;have BB:j1d L.2.2.2.2.2.1 zs ps cs ss=D (I (q>=0)):=by grind[j1d,j3q]
 rw[BB]at h;by_cases hq:q>=0
 .simp_all
 rw[aC hq]at h;simp only[j4,j7,c1]at h;by_cases hc:c=0
 case neg=>grind
 subst hc;simp only[je,j7,s7,j4]at h;cases b6 with
 |false=>simp at h
 |true=>
 simp only[jg,j7,p3]at h;obtain⟨z0,z1⟩:=DE p1;obtain⟨t0,t1⟩:=Lq s1;obtain⟨u0,u1⟩:=Lq s3;obtain⟨e0,e1⟩:=Lq s5;obtain⟨md0,md1⟩:=Lq s7;obtain⟨w0,w1⟩:=c3 rfl;have iC:=q2 hq;rw[jj]at iC
 have cI:(L.2.2.2.2.2.2.2.2≠0->0<=L.2.2.2.2.2.2.2.1/\L.2.2.2.2.2.2.2.1<(cs.length:o))/\(L.2.2.2.2.2.2.2.2=0->L.2.2.2.2.2.2.2.1=0):=by
  by_cases hm:L.2.2.2.2.2.2.2.2=0
  .grind
  .refine⟨λ_=>?_,λhn=>absurd hn hm⟩;rw[show (L.2.2.2.2.2.2.2.2 != 0)=O by simpa using hm]at h;simp only[j6,j4]at h;cases b7 with
   |false=>simp at h
   |true=>exact DE p3
 exact⟨z0,z1,aa,h2,t0,t1,u0,u1,e0,e1,h0,aa,iC,w0,w1,md0,md1,cI.1,cI.2⟩
theorem ť{ds:H o}(hl:ds.length<=100):∀(n i:N),i+n=ds.length->∃q,((Jm ds (ds.length:o) (i:o)).bind λq0=>sumC q0 (λa=>D a) (λ_=>D (-1:o)))=D q/\(¬q>=0->∀d∈ds.drop i,0<=d/\d<=98980)
 |0,i,hi=>by
  rw[Jn];simp(disch:=omega)only[U,j0D,S0]
  simp_all
 |n+1,i,hi=>by
  have ao:i<ds.length:=aa;have br:ds.getD i (0:o)=ds[i]:=by simp[K,ao]
  obtain⟨q,q1,q2⟩:=ť hl n (i+1) aa;rw[Jn];simp(disch:=omega)only[F ao,j0D,j4G,yI,S0];by_cases h:0<=ds[i]/\ds[i]<=98980
  .simp(disch:=omega)only[S0];refine⟨q,q1,λhq m hm=>?_⟩;grind
  .have:(I (0<=ds[i])&&I (ds[i]<=98980))=false:=by
    simp_all
   rw[this];exact⟨(i:o),rfl,λhq=>absurd aa hq⟩
theorem Ŧ{ds:H o}(hl:ds.length<=100){nm:J}{z:o}:∀(n i:N),i+1+n=ds.length->F0 (ds.length:o) ((i+1:N):o) nm z ds=D (.inr ())->(ds.drop i).Pairwise (· < ·)
 |0,i,hi,_=>by
  grind[F]
 |n+1,i,hi,h=>by
  have ao:i+1<ds.length:=aa;have g1:ds.getD (i+1) (0:o)=ds[i+1]:=by simp[K,ao]
  have g0:ds.getD i (0:o)=ds[i]:=by grind
  rw[C1]at h;simp only[j0p]at h
  rw[ai (show ((i+1:N):o)<(ds.length:o) by omega),ai (show ((i+1:N):o)>0 by omega),aQ (x:=((i+1:N):o)-1),aQ (x:=((i+1:N):o)+1),
   bL (show (0:o)<=((i+1:N):o) by omega) aa,bL (show (0:o)<=((i+1:N):o)-1 by omega) aa,show (((i+1:N):o)-1).toNat=i by omega]at h
  simp only[j6,j8,g1,g0]at h;by_cases hc:ds[i+1]<=ds[i]
  .grind[bV]
  .rw[aC hc]at h;simp only[j7,bg]at h;have ih:=Ŧ hl n (i+1) aa h;grind[F,List.pairwise_cons]
theorem jJZ{x:aY}(h:j2g (zs,(ps,(cs,ss))) x=D 0):nk zs.length x:=by
 obtain⟨b1,p1⟩:∃b,j1a x.2.1 (zs.length:o)=D b:=⟨_,rfl⟩;simp only[j2g,show E zs.length=(zs.length:o) from rfl,show E x.2.2.length=(x.2.2.length:o) from rfl,p1,j4]at h;cases b1 with
 |false=>simp at h
 |true=>
 simp only[jg,j7]at h;by_cases G6:(x.2.2.length:o)>64
 .simp_all
 rw[aC G6,j7]at h;obtain⟨q,q1,q2⟩:=ť (ds:=x.2.2) aa x.2.2.length 0 aa;rw[show ((0:N):o)=0 from rfl]at q1;have BB:j1E x.2.2=D (I (q>=0)):=by grind[j1E,j4H]
 rw[BB]at h;by_cases hq:q>=0
 .simp_all
 rw[aC hq]at h;simp only[j4,j7]at h;have hd:=q2 hq;rw[jj]at hd
 have U9:x.2.2.Pairwise (· < ·):=by
  rcases vv x.2.2.length with h0|h0
  .simp_all
  .rw[C1]at h;simp only[j0p]at h;rw[ai (show (0:o)<(x.2.2.length:o) by omega),aC (show¬(0:o)>0 by omega)]at h;simp only[j6,j7,bg]at h;rw[aQ (x:=(0:o)+1),show (0:o)+1=((0+1:N):o) from rfl]at h;obtain⟨e,e1,_⟩:=U3 (zs:=zs) (ps:=ps) (cs:=cs) (ss:=ss) (ds:=x.2.2) (m:=0) (nm:=x.1) (z:=x.2.1) (l3:=[]) aa (x.2.2.length-1) 0 aa;rw[e1]at h;by_cases he:e=0
   .subst he;have:=Ŧ (ds:=x.2.2) aa (x.2.2.length-1) 0 aa e1
    simp_all
   grind[cM,pX]
 obtain⟨z0,z1⟩:=DE p1;exact⟨z0,z1,aa,λd hm=>by grind[yI],U9⟩
theorem Lr(s:J)(m:H (J×Â)):∃e m',j5r s m=D (e,m'):=by
 obtain⟨b,b1,_⟩:=Ř s;simp only[j5r,b1,j4];cases b with
 |false=>exact⟨_,_,rfl⟩
 |true=>cases iQ S m s<;>simp_all
theorem ŧ(hl:zs.length<=100)(hz:∀z∈zs,ZF z):∀(n i:N)(m:H (J×Â)),i+n=zs.length->C0 zs (zs.length:o) (i:o) m=D (.inr ())->∀z∈zs.drop i,j2s z=D 0
 |0,i,m,hi,_=>by
  simp_all
 |n+1,i,m,hi,h=>by
  have ao:i<zs.length:=aa;have br:zs.getD i (M,((0:o),([]:H aO)))=zs[i]:=by simp[K,ao]
  obtain⟨e,m',hn⟩:=Lr zs[i].1 m;obtain⟨ez,_,_,z1,_⟩:=UY zs[i] (hz _ (jd ao));rw[O7]at h;simp only[j1c,ja2]at h;rw[ai (show (i:o)<(zs.length:o) by omega),cB,aQ (x:=(i:o)+1)]at h;simp only[j6,j8,br,j4,hn]at h;by_cases he:e=0
  .subst he;simp only[je,j7]at h;rw[show j2s (zs[i].1,(zs[i].2.1,zs[i].2.2))=_ from z1]at h;simp only[j4]at h;by_cases h0:ez=0
   .subst h0;simp only[je,j7,bg]at h;rw[F ao];intro z hm;rcases jb.1 hm with rfl|hm
    .exact z1
    .exact ŧ hl hz n (i+1) m' aa h z hm
   grind[bV]
  grind[bV]
theorem Ũ(fT:zs.length<=100)(hl:cs.length<=100):∀(n i:N)(m:H (J×Â)),i+n=cs.length->C2 zs ps cs ss cs (cs.length:o) (i:o) m=D (.inr ())->∀x∈cs.drop i,nk zs.length x
 |0,i,m,hi,_=>by
  simp_all
 |n+1,i,m,hi,h=>by
  have ao:i<cs.length:=aa;have br:cs.getD i (M,((0:o),([]:H o)))=cs[i]:=by simp[K,ao]
  obtain⟨e,m',hn⟩:=Lr cs[i].1 m;rw[Pb]at h;simp only[j0P,ja3,ja4]at h;rw[ai (show (i:o)<(cs.length:o) by omega),cB,aQ (x:=(i:o)+1)]at h;simp only[j6,j8,br,j4,hn]at h;by_cases he:e=0
  .subst he;simp only[je,j7]at h;cases hc:j2g (zs,(ps,(cs,ss))) cs[i]with
   |none=>grind[lpK]
   |some c=>
    rw[show j2g (zs,(ps,(cs,ss))) (cs[i].1,(cs[i].2.1,cs[i].2.2))=_ from hc]at h;simp only[j4]at h;by_cases h0:c=0
    .subst h0;simp only[je,j7,bg]at h;rw[F ao];intro z hm;rcases jb.1 hm with rfl|hm
     .exact jJZ hc
     .exact Ũ fT hl n (i+1) m' aa h z hm
    grind[bV]
  grind[bV]
theorem ũ{ls:H bt}(hl:ls.length<=100):∀(n i:N)(m:H (J×Â)),i+n=ls.length->C3 zs ps cs ss ls (ls.length:o) (i:o) m=D (.inr ())->∀x∈ls.drop i,Dz zs.length ps.length cs.length x
 |0,i,m,hi,_=>by
  simp_all
 |n+1,i,m,hi,h=>by
  have ao:i<ls.length:=aa;have br:ls.getD i (M,((0:o),(((0:o),(0:o)),((0:o),((0:o),(([]:H o),(([]:WL),((0:o),(0:o)))))))))=ls[i]:=by simp[K,ao]
  obtain⟨e,m',hn⟩:=Lr ls[i].1 m;rw[Pc]at h;simp only[j10,j4I,j4J]at h;rw[ai (show (i:o)<(ls.length:o) by omega),cB,aQ (x:=(i:o)+1)]at h;simp only[j6,j8,br,j4,hn]at h;by_cases he:e=0
  .subst he;simp only[je,j7]at h;cases hc:j22 (zs,(ps,(cs,ss))) ls[i]with
   |none=>grind[lpK]
   |some c=>
    rw[show j22 (zs,(ps,(cs,ss))) (ls[i].1,(ls[i].2.1,((ls[i].2.2.1.1,ls[i].2.2.1.2),(ls[i].2.2.2.1,(ls[i].2.2.2.2.1,(ls[i].2.2.2.2.2.1,(ls[i].2.2.2.2.2.2.1,(ls[i].2.2.2.2.2.2.2.1,ls[i].2.2.2.2.2.2.2.2))))))))=_ from hc]at h;simp only[j4]at h;by_cases h0:c=0
    .subst h0;simp only[je,j7,bg]at h;rw[F ao];intro z hm;rcases jb.1 hm with rfl|hm
     .exact jJY hc
     .exact ũ hl n (i+1) m' aa h z hm
    grind[bV]
  grind[bV]
theorem Ū{es:H ct}(hl:es.length<=100):∀(n i:N),i+n=es.length->F1 es (es.length:o) (i:o) zs ps cs ss=D (.inr ())->∀x∈es.drop i,j11 (zs,(ps,(cs,ss))) x=D 0
 |0,i,hi,_=>by
  simp_all
 |n+1,i,hi,h=>by
  have ao:i<es.length:=aa;have br:es.getD i ((0:o),((0:o),((0:o),((0:o),(0:o)))))=es[i]:=by simp[K,ao]
  rw[Pd]at h;simp only[j1k]at h;rw[ai (show (i:o)<(es.length:o) by omega),cB,aQ (x:=(i:o)+1)]at h;simp only[j6,j8,br]at h;cases hc:j11 (zs,(ps,(cs,ss))) es[i]with
  |none=>grind[lpK]
  |some c=>
   rw[show j11 (zs,(ps,(cs,ss))) (es[i].1,(es[i].2.1,(es[i].2.2.1,(es[i].2.2.2.1,es[i].2.2.2.2))))=_ from hc]at h;simp only[j4]at h;by_cases h0:c=0
   .subst h0;simp only[je,j7,bg]at h;rw[F ao];intro z hm;rcases jb.1 hm with rfl|hm
    .exact hc
    .exact Ū hl n (i+1) aa h z hm
   grind[bV]
structure Va(zs:H bB)(ps:H cZ)(cs:H aY)(ss:H bW)(s:bW):Prop where
 ll:s.2.1.length<=6
 el:s.2.2.length<=48
 ly:∀x∈s.2.1,Dz zs.length ps.length cs.length x
 ed:∀x∈s.2.2,j11 (zs,(ps,(cs,ss))) x=D 0
theorem ū{α:Type}{u:α}{e c:o}(h:(D (rE u e):Z (o ⊕ α))=D (.inl c)):c≠0:=by
 grind[lQ,cM]
theorem jK0(fT:zs.length<=100)(fy:ps.length<=100)(eu:cs.length<=100){s:bW}(hx:∀x∈s.2.2,x.2.2.2.2<=9223372036854775807)(h:j2h (zs,(ps,(cs,ss))) s=D 0):Va zs ps cs ss s:=by
 simp only[j2h,show E s.2.1.length=(s.2.1.length:o) from rfl,show E s.2.2.length=(s.2.2.length:o) from rfl]at h;by_cases h6:(s.2.1.length:o)>6
 .simp_all
 by_cases h48:(s.2.2.length:o)>48
 .simp_all
 rw[aC h6,aC h48]at h;simp only[j7,j3r,show E s.2.1.length=(s.2.1.length:o) from rfl]at h;obtain⟨e',e1,_⟩:=U7 (zs:=zs) (ps:=ps) (cs:=cs) (ss:=ss) fT fy eu (ls:=s.2.1) aa (m:=0) (nm:=s.1) (es:=s.2.2) (l3:=[]) s.2.1.length 0 [] aa rfl;obtain⟨c',d1,_⟩:=U6 (zs:=zs) (ps:=ps) (cs:=cs) (ss:=ss) fy (es:=s.2.2) aa hx (m:=0) (nm:=s.1) (ls:=s.2.1) (l3:=[]) s.2.2.length 0 aa;rw[show ((0:N):o)=0 from rfl]at e1 d1;cases hn:C3 zs ps cs ss s.2.1 (s.2.1.length:o) 0 []with
 |none=>simp_all
 |some r=>
  rw[hn]at h;cases r with
  |inl e=>have he:=ū (e1.symm.trans hn);grind[pX]
  |inr u=>
   simp only[j4,o8,je,j7]at h;cases hm:F1 s.2.2 (s.2.2.length:o) 0 zs ps cs ss with
   |none=>simp_all
   |some r=>
    rw[hm]at h;cases r with
    |inl e=>grind[ū,pX]
    |inr u2=>have a:=ũ (zs:=zs) (ps:=ps) (cs:=cs) (ss:=ss) (ls:=s.2.1) aa s.2.1.length 0 [] aa hn;have b:=Ū (zs:=zs) (ps:=ps) (cs:=cs) (ss:=ss) (es:=s.2.2) aa s.2.2.length 0 aa hm;rw[jj]at a b;exact⟨aa,aa,a,b⟩
theorem Ŭ(fT:zs.length<=100)(fy:ps.length<=100)(eu:cs.length<=100)(hl:ss.length<=100)(hx:∀s∈ss,∀x∈s.2.2,x.2.2.2.2<=9223372036854775807):∀(n i:N)(m:H (J×Â)),i+n=ss.length->C4 zs ps cs ss ss (ss.length:o) (i:o) m=D (.inr ())->∀s∈ss.drop i,Va zs ps cs ss s
 |0,i,m,hi,_=>by
  simp_all
 |n+1,i,m,hi,h=>by
  have ao:i<ss.length:=aa;have br:ss.getD i (M,(([]:H bt),([]:H ct)))=ss[i]:=by simp[K,ao]
  obtain⟨e,m',hn⟩:=Lr ss[i].1 m;rw[Pe]at h;simp only[j0Q,ja5,ja6]at h;rw[ai (show (i:o)<(ss.length:o) by omega),cB,aQ (x:=(i:o)+1)]at h;simp only[j6,j8,br,j4,hn]at h;by_cases he:e=0
  .subst he;simp only[je,j7]at h;cases hc:j2h (zs,(ps,(cs,ss))) ss[i]with
   |none=>grind[lpK]
   |some c=>
    rw[show j2h (zs,(ps,(cs,ss))) (ss[i].1,(ss[i].2.1,ss[i].2.2))=_ from hc]at h;simp only[j4]at h;by_cases h0:c=0
    .subst h0;simp only[je,j7,bg]at h;rw[F ao];intro z hm;rcases jb.1 hm with rfl|hm
     .grind[jK0]
     .exact Ŭ fT fy eu hl hx n (i+1) m' aa h z hm
    grind[bV]
  grind[bV]
structure BE(zs:H bB)(ps:H cZ)(cs:H aY)(ss:H bW):Prop where
 zl:zs.length<=16
 pl:ps.length<=32
 cl:cs.length<=8
 sl:ss.length<=12
 z:∀z∈zs,j2s z=D 0
 c:∀x∈cs,nk zs.length x
 s:∀s∈ss,Va zs ps cs ss s
theorem ŭ(hz:∀z∈zs,ZF z)(hx:∀s∈ss,∀x∈s.2.2,x.2.2.2.2<=9223372036854775807)(h:j5h (zs,(ps,(cs,ss)))=D 0):BE zs ps cs ss:=by
 simp only[j5h,show E zs.length=(zs.length:o) from rfl,show E ps.length=(ps.length:o) from rfl,show E cs.length=(cs.length:o) from rfl,show E ss.length=(ss.length:o) from rfl]at h;cases hb:(cond (cond (cond (I ((zs.length:o)>16)) O (I ((ps.length:o)>32))) O (I ((cs.length:o)>8))) O (I ((ss.length:o)>12))) with
 |true=>grind
 |false=>
  rw[hb]at h;simp only[zj,v8,ka]at hb;simp only[j7]at h;obtain⟨r,r1,_,r3⟩:=UZ (zs:=zs) (ps:=ps) (cs:=cs) (ss:=ss) hz aa zs.length 0 [] aa rfl;rw[show ((0:N):o)=0 from rfl]at r1;have r1:C0 zs (zs.length:o) 0 []=D r:=r1;simp only[j3U,show E zs.length=(zs.length:o) from rfl,r1,j4]at h;cases r with
  |inl e=>grind[pX]
  |inr u=>
   simp only[o8,j4,je,j7]at h;have fz:=ŧ (zs:=zs) aa hz zs.length 0 [] aa r1;obtain⟨c,c1,_⟩:=š (zs:=zs) (ps:=ps) (cs:=cs) (ss:=ss) aa aa;rw[c1]at h;by_cases h1:c=0
   case neg=>grind[cM,pX]
   subst h1;simp only[lQ,j4,o8]at h;obtain⟨d,d1,_⟩:=U4 (zs:=zs) (ps:=ps) (cs:=cs) (ss:=ss) aa aa cs.length 0 [] aa rfl;rw[show ((0:N):o)=0 from rfl]at d1;have d1:C2 zs ps cs ss cs (cs.length:o) 0 []=D (rE () d):=d1;simp only[j2A,show E cs.length=(cs.length:o) from rfl,d1,j4]at h;by_cases h2:d=0
   case neg=>grind[cM,pX]
   subst h2;rw[lQ]at h d1;simp only[j4,o8,je,j7]at h;have fc:=Ũ (zs:=zs) (ps:=ps) (cs:=cs) (ss:=ss) aa aa cs.length 0 [] aa d1;obtain⟨f,f1,_⟩:=U8 (zs:=zs) (ps:=ps) (cs:=cs) (ss:=ss) aa aa aa aa hx ss.length 0 [] aa rfl;rw[show ((0:N):o)=0 from rfl]at f1;have f1:C4 zs ps cs ss ss (ss.length:o) 0 []=D (rE () f):=f1;simp only[j3R,show E ss.length=(ss.length:o) from rfl,f1,j4]at h;by_cases h3:f=0
   case neg=>grind[cM,pX]
   subst h3;rw[lQ]at f1;have fs:=Ŭ (zs:=zs) (ps:=ps) (cs:=cs) (ss:=ss) aa aa aa aa hx ss.length 0 [] aa f1;rw[jj]at fz fc fs;exact⟨aa,aa,aa,aa,fz,fc,fs⟩
end
structure ZW(z:bB):Prop where
 ok:∀r∈z.2.2,jA r
 len:z.2.2.length<=2
 yr:∀r∈z.2.2,2025<=r.1
 few:(occs z.2.2).length<=4
theorem eX.w{z:bB}(h:eX z):ZW z:=⟨h.ok,h.len,h.yr,h.few⟩
theorem ZW.f{z:bB}(h:ZW z):ZF z:=⟨by have:=h.len;omega,by have:=h.few;omega⟩
theorem jHD:dW 2025=20089:=by decide
theorem jJe{r:aO}(h:jA r){y:o}(hy:2025<=y)(h2:y<=2240):1735000000<=(cR r y).1/\(cR r y).1<=8556000000:=by
 have hv:=Bh (Dx y r.2.2.1 aa h2 h.m0 h.m1);have jG:=h.s0;have kM:=h.s1;have hn:=KV (w:=r.2.2.2.2.1) (show 1970<=y by omega) h2 h.m0 h.m1 h.k0 h.k1;have hd:=ot y r.2.2.1;have hc:=wS hy;have hu:=Bg y r.2.2.1;rw[jHD]at hc;have hm:20089<=num y r.2.2.1 1:=by unfold num;omega
 unfold cR;dsimp only;omega
theorem Vb:∀(L:bm)(now:o)(p:Z o)(l:bm),(∀x∈L,(1735000000<=x.1/\x.1<=8556000000) /\ -64800<=x.2/\x.2<=64800) -> -64800<=now->now<=64800->nX now p L=D l->Good now p L
 |[],_,_,_,_,_,_,_=>trivial
 |x::r,now,p,l,hL,h0,h1,h=>by
  have hx:=hL x ae;simp only[nX]at h;simp only[Good];by_cases he:x.2=now
  .rw[if_pos he]at h ⊢;exact Vb r now p l (λy hy=>hL y (by simp[hy])) h0 h1 h
  .rw[if_neg he]at h ⊢;split at h
   .rename_i hc;obtain⟨c1,c2,c3,c4,c5⟩:=hc;cases hq:nX x.2 (D (x.1-now)) r with
    |none=>rw[hq]at h;simp at h
    |some q=>refine⟨⟨c1,c2,aa,aa,λq' Es=>?_,hx.2.1,hx.2.2⟩,Vb r x.2 _ q (λy hy=>hL y (by simp[hy])) hx.2.1 hx.2.2 hq⟩;subst Es;simpa using c5
   .simp at h
theorem ZW.zok{z:bB}(h:ZW z)(hc:j2s z=D 0):eX z:=by
 obtain⟨l,e1,t1,t2,_,h0⟩:=ŕ z h.f.2;obtain⟨e,e1',b,k1,k2,_,k4⟩:=UY z h.f;have c2:j8M z=D e1:=by simp only[j8M,show j0a (z.1,(z.2.1,z.2.2))=_ from t2,j4]
 rw[hc]at k1;rw[c2]at k2;simp only[j5]at k1 k2;subst k1 k2;have he:e1=0:=by apply jt;intro hn;rw[if_neg (λhh=>hn hh.1)]at k4;omega
 obtain⟨_,⟨o0,o1⟩,hg⟩:=h0 he;refine⟨o0,o1,h.ok,h.len,h.yr,h.few,Vb _ _ _ l (λx hx=>?_) o0 o1 hg⟩;obtain⟨r,hr,j,hj,rfl⟩:=Ϧ (ϥ hx);have hk:=h.ok r hr;have hy:=h.yr r hr;have wh:=hk.y2;exact⟨jJe hk aa aa,hk.o0,hk.o1⟩
structure CW(c:fZ):Prop where
 z:∀z∈c.1,ZW z
 ed:∀s∈c.2.2.2,∀x∈s.2.2,x.2.2.2.2<=9223372036854775807
 w3:∀s∈c.2.2.2,∀x∈s.2.1,x.2.2.2.2.2.2.1.length<=3
theorem CW.chk{c:fZ}(h:CW c):∃e,j5h c=D e/\j9N c=D e/\(e=0->BE c.1 c.2.1 c.2.2.1 c.2.2.2/\kS c.1 c.2.1 c.2.2.1):=by
 obtain⟨zs,ps,cs,ss⟩:=c;obtain⟨e,e1,e2⟩:=jHC (zs:=zs) (ps:=ps) (cs:=cs) (ss:=ss) (λz hz=>(h.z z hz).f) h.ed;refine⟨e,e1,e2,λhe=>?_⟩;subst he;have hC:=ŭ (λz hz=>(h.z z hz).f) h.ed e1;exact⟨hC,λz hz=>(h.z z hz).zok (hC.z z hz),hC.c,hC.zl,hC.pl⟩
theorem Ů{L:H o}{a:o}(h:cQ L a){u0 u1 u2 u3:H Unit}(pT:1<=u1.length)(rN:u1.length<=100) :
  ∃x a',j83 L a (u0,(u1,(u2,u3)))=D (x,L,a')/\(x.2.2.2.1<=1000000000000/\x.2.2.2.2<=1000000000000)/\cQ L a':=by
 obtain⟨k,a1,e1,k0,k1,d1⟩:=dQ (n:=3) h aa aa;obtain⟨p,a2,e2,p0,p1,d2⟩:=dQ (n:=(u1.length:o)) d1 aa aa;obtain⟨t,a3,e3,t0,t1,d3⟩:=ϛ d2;obtain⟨y,a4,e4,m4,d4⟩:=rk d3 (xs:=[(3600:o),(86400:o),(7:o),(259200:o),(40000:o)]) ae ae;have hy:7<=y/\y<=259200:=by simp at m4;omega
 simp only[j83,show E (À u1)=(u1.length:o) from rfl,e1,e2,e3,e4,j4];rw[aQ (x:=t+y)]
 have fin:∀(kd A B:o)(a':o),cQ L a'->∃x GS,D ((kd,(A,(B,(t,t+y)))),L,a')=D (x,L,GS)/\(x.2.2.2.1<=1000000000000/\x.2.2.2.2<=1000000000000)/\cQ L GS:=
  λkd A B a' hd=>⟨_,_,rfl,by dsimp only;omega,hd⟩
 by_cases h2:k=2
 .rw[dR h2,j6];by_cases hn:(u1.length:o)<2
  .rw[ai hn,j6];exact fin 0 p 0 _ d4
  .rw[aC hn,j7,aQ (x:=(u1.length:o)-1)];obtain⟨q,a5,e5,q0,q1,d5⟩:=dQ (n:=(u1.length:o)-1) d4 aa aa;simp(disch:=omega)only[e5,S0];exact fin k p _ _ d5
 .rw[cU h2,j7];by_cases h1:k=1
  .rw[dR h1,j6];obtain⟨b,a5,e5,d5⟩:=wV (n:=4) d4 aa aa;simp only[e5,j4];cases b with
   |true=>exact fin k (-1) 0 _ d5
   |false=>exact fin k p 0 _ d5
  .rw[cU h1,j7];exact fin k p 0 _ d4
def rB(ls:H bt):Prop:=∀x∈ls,x.2.2.2.2.2.2.1.length<=3
def yO(es:H ct):Prop:=∀x∈es,x.2.2.2.2<=1000000000000
def DF(ss:H bW):Prop:=∀s∈ss,(s.2.1.length<=3/\rB s.2.1)/\s.2.2.length<=3/\yO s.2.2
theorem rB.snoc{ls:H bt}{x:bt}(h:rB ls)(hx:x.2.2.2.2.2.2.1.length<=3):rB (ls++[x]):=λy hy=>by
 rcases ji.1 hy with hy|hy
 .exact h y hy
 .simp at hy;subst hy;exact hx
theorem yO.snoc{es:H ct}{x:ct}(h:yO es)(hx:x.2.2.2.2<=1000000000000):yO (es++[x]):=λy hy=>by
 rcases ji.1 hy with hy|hy
 .exact h y hy
 .simp at hy;subst hy;exact hx
theorem ů{L:H o}{s6:o}{nm:J}{zs:H bB}{ps:H cZ}{cs:H aY}{ss:H bW}(hs:sd zs ps cs):∀(n:N)(a:o)(ls:H bt),cQ L a->ls.length+n<=3->rB ls->
  ∃ls' a',PH s6 (n:o) L a zs ps cs nm ss ls=D (s6,L,a',zs,ps,cs,nm,ss,ls')/\(ls'.length<=3/\rB ls')/\cQ L a'
 |0,a,ls,hd,hl,hk=>by
  rw[_B];simp(disch:=omega)only[j3a,S0];exact⟨ls,a,rfl,⟨aa,hk⟩,hd⟩
 |n+1,a,ls,hd,hl,hk=>by
  have CK:jha=D [(G #[97,100,97]),(G #[98,111,98]),(G #[99,108,101,111]),(G #[100,97,110]),(G #[101,118,101]),(G #[102,97,121]),(G #[103,117,115]),(G #[104,97,108])]:=rfl;rw[_B];simp only[j3a,CK,j4,show E (À ls)=(ls.length:o) from rfl];rw[ai aa,bL (show (0:o)<=(ls.length:o) by omega) (by simp only[jf,js];omega),aQ (x:=((n+1:N):o)-1),show ((n+1:N):o)-1=(n:o) by omega];generalize K [(G #[97,100,97]),(G #[98,111,98]),(G #[99,108,101,111]),(G #[100,97,110]),(G #[101,118,101]),(G #[102,97,121]),(G #[103,117,115]),(G #[104,97,108])] (Á (ls.length:o)) M=nmx;obtain⟨l,a1,e1,l2,_,_,d1⟩:=jEz (ss:=ss) hd hs nmx;simp(disch:=omega)only[e1,S0];exact ů hs n a1 (ls++[l]) d1 aj (hk.snoc l2.w3)
theorem Ű{L:H o}{s6:o}{nm:J}{zs:H bB}{ps:H cZ}{cs:H aY}{ss:H bW}{ls:H bt}(hs:sd zs ps cs):∀(n:N)(a:o)(es:H ct),cQ L a->es.length+n<=3->yO es->
  ∃wa a',PI s6 (n:o) L a zs ps cs nm ss ls es=D (s6,L,a',zs,ps,cs,nm,ss,ls,wa)/\wa.length<=3/\yO wa/\cQ L a'
 |0,a,es,hd,hl,hk=>by
  rw[_C];simp(disch:=omega)only[j3b,S0];exact⟨es,a,rfl,aa,hk,hd⟩
 |n+1,a,es,hd,hl,hk=>by
  have pT:=hs.p0;have rN:=hs.p1;obtain⟨x,a1,e1,x1,d1⟩:=Ů hd (u0:=R zs.length ()) (u1:=R ps.length ()) (u2:=R cs.length ()) (u3:=R ss.length ()) (by rw[za];omega) (by rw[za];omega);rw[_C];simp only[j3b];rw[ai aa,aQ (x:=((n+1:N):o)-1),show ((n+1:N):o)-1=(n:o) by omega];simp(disch:=omega)only[e1,S0];exact Ű hs n a1 (es++[x]) d1 aj (hk.snoc x1.2)
theorem ű{L:H o}{zs:H bB}{ps:H cZ}{cs:H aY}(hs:sd zs ps cs):∀(n:N)(a:o)(ss:H bW),cQ L a->ss.length+n<=3->DF ss->
  ∃Hf a',PJ (n:o) L a zs ps cs ss=D (L,a',zs,ps,cs,Hf)/\Hf.length=ss.length+n/\DF Hf/\cQ L a'
 |0,a,ss,hd,hl,hk=>by
  rw[_D];simp(disch:=omega)only[j3c,S0];exact⟨ss,a,rfl,rfl,hk,hd⟩
 |n+1,a,ss,hd,hl,hk=>by
  have sf:0<=W (ss.length:o) 3:=vw _ aa;have gg:W (ss.length:o) 3<3:=zm _ aa;obtain⟨k,a3,e3,k0,k1,d3⟩:=dQ (n:=4) hd aa aa;rw[_D];simp(disch:=omega)only[j3c,e3,S0];generalize K [(G #[102,105,114,115,116]),(G #[115,101,99,111,110,100]),(G #[116,104,105,114,100])] (Á (W (ss.length:o) 3)) M=nm;obtain⟨ls,a4,e4,l4,d4⟩:=ů (s6:=((n+1:N):o)) (nm:=nm) (ss:=ss) hs k.toNat a3 [] d3 aj (λx hx=>by simp at hx);obtain⟨m,a5,e5,m0,m1,d5⟩:=dQ (n:=4) d4 aa aa;obtain⟨es,a6,e6,l6,q6,d6⟩:=Ű (s6:=((n+1:N):o)) (nm:=nm) (zs:=zs) (cs:=cs) (ss:=ss) (ls:=ls) hs m.toNat a5 [] d5 aj (λx hx=>by simp at hx);rw[show ((k.toNat:N):o)=k by omega]at e4;rw[show ((m.toNat:N):o)=m by omega]at e6;simp only[e4,e5,e6,j4];rw[ai (by simp[aK];omega),aQ (x:=((n+1:N):o)-1),show ((n+1:N):o)-1=(n:o) by omega];simp only[j6,bg]
  obtain⟨Hf,a',e',l',k',d'⟩:=ű hs n a6 (ss++[(nm,(ls,es))]) d6 aj (λs fL=>by
   rcases ji.1 fL with h|h
   .exact hk s h
   .simp at h;subst h;exact⟨l4,l6,q6⟩)
  exact⟨Hf,a',e',by rw[l'];simp;omega,k',d'⟩
theorem jAi{L:H o}{a:o}(h:cQ L a){n:o}(hn:1<=n)(zV:n<=3):∃zs ps cs ss a',ja9 L a n=D ((zs,(ps,(cs,ss))),L,a')/\sd zs ps cs/\1<=ss.length/\(ss.length:o)<=n/\DF ss/\cQ L a':=by
 obtain⟨zs,ps,cs,a1,e1,hs,d1⟩:=jEy h;obtain⟨x,a2,e2,x0,x1,d2⟩:=dQ (n:=n) d1 hn aa;obtain⟨ss,a3,e3,l3,k3,d3⟩:=ű hs (1+x).toNat a2 [] d2 aj (λs fL=>by simp at fL);rw[show (((1+x).toNat:N):o)=1+x by omega]at e3;simp(disch:=omega)only[ja9,e1,e2,e3,S0];simp at l3;exact⟨zs,ps,cs,ss,a3,rfl,hs,aa,aa,k3,d3⟩
end Go.Proofs.Pw
