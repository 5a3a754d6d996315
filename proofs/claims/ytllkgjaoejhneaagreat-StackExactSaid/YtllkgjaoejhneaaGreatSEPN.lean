/- eB 8: Af of any gh: rW, edits, pr; all of it. -/
import Derived.Test.YtllkgjaoejhneaaGreatSEPM
open _root_ renaming Int->j,ByteArray->r,List->u,Nat->D
open Int renaming ofNat->k,tdiv->E
open Option renaming some->l
open Decidable renaming decide->o
open Bool renaming true->p,false->y
open Go Go.Lft
namespace Go.Proofs.Pw
theorem FL(n lo hi:j):∃b,j2V n lo hi=l b/\j7a n lo hi=l b:=⟨_,rfl,rfl⟩
section
variable{zs:u bS}{ps:u eu}{cs:u bq}{ss:u dC}
theorem _k(fp:ps.length<=100){L:bC}(hl:L.2.2.2.2.2.1.length<=100):∀(n i:D),i+n=L.2.2.2.2.2.1.length->∃q e,((Et L.2.2.2.2.2.1 zs ps cs ss (L.2.2.2.2.2.1.length:j) (i:j)).bind λq0=>sumC q0 (λa=>l a) (λ_=>l (-1:j)))=l q/\
   H5 (i:j) zs ps cs ss L.1 L.2.1 L.2.2.1.1 L.2.2.1.2 L.2.2.2.1 L.2.2.2.2.1 L.2.2.2.2.2.1 L.2.2.2.2.2.2.1 L.2.2.2.2.2.2.2.1 L.2.2.2.2.2.2.2.2=l (rE (zs,ps,cs,ss,L.1,L.2.1,L.2.2.1.1,L.2.2.1.2,L.2.2.2.1,L.2.2.2.2.1,L.2.2.2.2.2.1,L.2.2.2.2.2.2.1,L.2.2.2.2.2.2.2.1,L.2.2.2.2.2.2.2.2) e)/\
   (e=if q>=0 then 3 else 0)
 |0,i,hi=>by
  rw[Hv,Wc];simp only[j0p,j5h,show k L.2.2.2.2.2.1.length=(L.2.2.2.2.2.1.length:j) from rfl];rw[ak (show¬(i:j)<(L.2.2.2.2.2.1.length:j) by omega)];simp only[jd,ba];exact⟨-1,0,rfl,rfl,rfl⟩
 |n+1,i,hi=>by
  have au:i<L.2.2.2.2.2.1.length:=aa;have bm:L.2.2.2.2.2.1.getD i (0:j)=L.2.2.2.2.2.1[i]:=by simp[List.getD,au]
  obtain⟨q,e,q1,q2,q3⟩:=_k fp hl n (i+1) aa;obtain⟨b,b1,b2⟩:=Ag L.2.2.2.2.2.1[i] (n:=ps.length) aa;rw[Hv,Wc];simp only[j0p,j5h,j4C,show k L.2.2.2.2.2.1.length=(L.2.2.2.2.2.1.length:j) from rfl,show k ps.length=(ps.length:j) from rfl];rw[ah (show (i:j)<(L.2.2.2.2.2.1.length:j) by omega),bP,ar (x:=(i:j)+1)];simp only[jc,je,bm,b1,b2,ja];cases b with
  |true=>simp only[jk,jd,aV];exact⟨q,e,q1,q2,q3⟩
  |false=>exact⟨(i:j),3,rfl,rfl,by rw[if_pos aa]⟩
theorem jB2(fo:zs.length<=100)(fp:ps.length<=100)(dL:cs.length<=100)(L:bC):∃e,j1o (zs,(ps,(cs,ss))) L=l e/\jft (zs,(ps,(cs,ss))) L=l e:=by
 obtain⟨b1,p1,p2⟩:=Ag L.2.1 (n:=zs.length) aa;obtain⟨b3,s1,s2⟩:=FL L.2.2.1.2 0 86399;obtain⟨b4,s3,s4⟩:=FL L.2.2.2.1 0 2;obtain⟨b5,s5,s6⟩:=FL L.2.2.2.2.1 1 400;obtain⟨c,c1,c2,_⟩:=Q6 L.2.2.2.2.2.2.1;obtain⟨b6,s7,s8⟩:=FL L.2.2.2.2.2.2.2.2 0 2;obtain⟨b7,p3,p4⟩:=Ag L.2.2.2.2.2.2.2.1 (n:=cs.length) aa;simp only[j1o,jft,show k zs.length=(zs.length:j) from rfl,show k cs.length=(cs.length:j) from rfl,show k L.2.2.2.2.2.1.length=(L.2.2.2.2.2.1.length:j) from rfl,p1,p2,ja];cases b1 with
 |false=>exact⟨3,rfl,rfl⟩
 |true=>
 simp only[jk,jd,wQ,QT,ja,s1,s2,s3,s4,s5,s6]
 have hd:j7a L.2.2.1.1 1 98980=l (o (1<=L.2.2.1.1)&&o (L.2.2.1.1<=98980)):=by
  simp only[j7a];by_cases h:1<=L.2.2.1.1
  .rw[ah (show L.2.2.1.1>=1 from h),jc,zw]
  .rw[ak (show¬L.2.2.1.1>=1 from h),jd,Bool.false_and]
 rw[hd];simp only[ja];by_cases h1:L.2.2.1.1<1
 .rw[ah h1,ak (show¬1<=L.2.2.1.1 by omega)];exact⟨1,rfl,rfl⟩
 rw[ak h1,ah (show 0<=L.2.2.1.1 by omega),ah (show 1<=L.2.2.1.1 by omega)];simp only[jd,zw];cases o (L.2.2.1.1<=98980) with
 |false=>exact⟨1,rfl,rfl⟩
 |true=>
 simp only[jk,jd];cases b3 with
 |false=>exact⟨1,rfl,rfl⟩
 |true=>
 cases b4 with
 |false=>exact⟨1,rfl,rfl⟩
 |true=>
 cases b5 with
 |false=>exact⟨1,rfl,rfl⟩
 |true=>
 simp only[jk,jd];by_cases h0:L.2.2.2.2.2.1.length=0
 .rw[show ((L.2.2.2.2.2.1.length:j)==0)=p by simp[h0]];exact⟨7,rfl,rfl⟩
 rw[cU (show (L.2.2.2.2.2.1.length:j)≠0 by omega),jd,jd];by_cases oG:(L.2.2.2.2.2.1.length:j)>12
 .rw[ah oG];exact⟨5,rfl,rfl⟩
 rw[ak oG,jd,jd];obtain⟨q,e,q1,q2,q3⟩:=_k (zs:=zs) (ps:=ps) (cs:=cs) (ss:=ss) fp (L:=L) aa L.2.2.2.2.2.1.length 0 aa;rw[show ((0:D):j)=0 from rfl]at q1 q2;have Ah:j0U L.2.2.2.2.2.1 zs ps cs ss=l (o (q>=0)):=by simp only[j0U,j2v,show k L.2.2.2.2.2.1.length=(L.2.2.2.2.2.1.length:j) from rfl];rw[q1];rfl
 rw[Ah,q2];by_cases hq:q>=0
 .rw[if_pos hq]at q3;subst q3;rw[ah hq];exact⟨3,rfl,rfl⟩
 rw[if_neg hq]at q3;subst q3;rw[ak hq,iG];simp only[ja,jd,lN,c1,c2,s7,s8];cases (c != 0) with
 |true=>exact⟨8,rfl,rfl⟩
 |false=>
 simp only[jd];cases b6 with
 |false=>exact⟨1,rfl,rfl⟩
 |true=>
 simp only[jk,jd,show k cs.length=(cs.length:j) from rfl];rw[p3,p4];cases (L.2.2.2.2.2.2.2.2 != 0) with
 |true=>
  cases b7 with
  |false=>exact⟨3,rfl,rfl⟩
  |true=>
   simp only[jk,jd,jc,ja];cases (cond (L.2.2.2.2.2.2.2.2==0) (L.2.2.2.2.2.2.2.1 != 0) y) with
   |true=>exact⟨1,rfl,rfl⟩
   |false=>exact⟨0,rfl,rfl⟩
 |false=>
  simp only[jd];cases (cond (L.2.2.2.2.2.2.2.2==0) (L.2.2.2.2.2.2.2.1 != 0) y) with
  |true=>exact⟨1,rfl,rfl⟩
  |false=>exact⟨0,rfl,rfl⟩
theorem jB3(fp:ps.length<=100)(x:dA)(hx:x.2.2.2.2<=9223372036854775807):∃e,j11 (zs,(ps,(cs,ss))) x=l e/\ji8 (zs,(ps,(cs,ss))) x=l e:=by
 obtain⟨b1,s1,s2⟩:=FL x.1 0 2;obtain⟨b2,p1,p2⟩:=Ag x.2.1 (n:=ps.length) aa;obtain⟨b3,p3,p4⟩:=Ag x.2.2.1 (n:=ps.length) aa
 have tail:∀X:Option j,X=(cond (cond (x.1 != 2) (x.2.2.1 != 0) y) (l 1) (cond (cond (x.1==2) (x.2.1==x.2.2.1) y) (l 4)
   (cond (cond (o (x.2.2.2.1<0)) p (o (x.2.2.2.2<0))) (l 1) ((j1c (w64 (E x.2.2.2.2 86400))).bind λr74=>cond (!r74) (l 1) (cond (o (x.2.2.2.1>=x.2.2.2.2)) (l 6) (l 0))))))->
   ∀Y:Option j,Y=(cond (cond (x.1 != 2) (x.2.2.1 != 0) y) (l 1) (cond (cond (x.1==2) (x.2.1==x.2.2.1) y) (l 4)
   (cond (o (x.2.2.2.1<0)) (l 1) (cond (o (x.2.2.2.2<0)) (l 1) ((j9s).bind λr77=>cond (o (w64 (E x.2.2.2.2 86400)>r77)) (l 1) (cond (o (x.2.2.2.1>=x.2.2.2.2)) (l 6) (l 0)))))))->
   ∃e,X=l e/\Y=l e:=λX hX Y hY=>by
  rw[hX,hY];cases (cond (x.1 != 2) (x.2.2.1 != 0) y) with
  |true=>exact⟨1,rfl,rfl⟩
  |false=>
  cases (cond (x.1==2) (x.2.1==x.2.2.1) y) with
  |true=>exact⟨4,rfl,rfl⟩
  |false=>
  simp only[jd];by_cases hf:x.2.2.2.1<0
  .rw[ah hf];exact⟨1,rfl,rfl⟩
  rw[ak hf];by_cases ht:x.2.2.2.2<0
  .rw[ah ht];exact⟨1,rfl,rfl⟩
  rw[ak ht];simp only[jd,wQ,QT,ja];rw[uz aa,ar (x:=x.2.2.2.2/86400),ah (show 0<=x.2.2.2.2/86400 by omega)];by_cases hm:x.2.2.2.2/86400<=98980
  .rw[ah hm,ak (show¬x.2.2.2.2/86400>98980 by omega)];simp only[yq,jk,jd];cases o (x.2.2.2.1>=x.2.2.2.2) with
   |true=>exact⟨6,rfl,rfl⟩
   |false=>exact⟨0,rfl,rfl⟩
  .rw[ak hm,ah (show x.2.2.2.2/86400>98980 by omega)];exact⟨1,rfl,rfl⟩
 simp only[j11,ji8,show k ps.length=(ps.length:j) from rfl,s1,s2,ja,p1,p2,p3,p4];cases b1 with
 |false=>exact⟨1,rfl,rfl⟩
 |true=>
 simp only[jk,jd];have ha:(cond (x.1 != 1) p (x.2.1 != -1)) = !(cond (x.1==1) (x.2.1 == -1) y):=by show (cond (!(x.1==1)) p (!(x.2.1 == -1)))=_;cases (x.1==1)<;>simp
 rw[ha];cases hA:(cond (!b2) (!(cond (x.1==1) (x.2.1 == -1) y)) y) with
 |true=>simp only[jc,jv,Bool.or_true];exact⟨3,rfl,rfl⟩
 |false=>
 simp only[jd];cases hk:(x.1==2) with
 |true=>
  simp only[jc];cases b3 with
  |false=>exact⟨3,rfl,rfl⟩
  |true=>simp only[jk,jd];exact tail _ (by rw[hk];rfl) _ (by rw[hk];rfl)
 |false=>simp only[jd];exact tail _ (by rw[hk];rfl) _ (by rw[hk];rfl)
theorem Q9(fp:ps.length<=100){es:u dA}(hl:es.length<=100)(hx:∀x∈es,x.2.2.2.2<=9223372036854775807){m:j}{nm:r}{ls:u bC}{l3:u r}:∀(n i:D),i+n=es.length->∃e,
   BM es (es.length:j) (i:j) zs ps cs ss=l (rE () e)/\H7 m (i:j) zs ps cs ss nm ls es l3=l (rE (m,zs,ps,cs,ss,l3) e)
 |0,i,hi=>by
  rw[Ng,We];simp only[j12,j3m,show k es.length=(es.length:j) from rfl];rw[ak (show¬(i:j)<(es.length:j) by omega)];simp only[jd,ba];exact⟨0,rfl,rfl⟩
 |n+1,i,hi=>by
  have au:i<es.length:=aa;have bm:es.getD i ((0:j),((0:j),((0:j),((0:j),(0:j)))))=es[i]:=by simp[List.getD,au]
  obtain⟨e,e1,e2⟩:=Q9 (m:=m) (nm:=nm) (ls:=ls) (l3:=l3) fp hl hx n (i+1) aa;obtain⟨c,c1,c2⟩:=jB3 (zs:=zs) (cs:=cs) (ss:=ss) fp es[i] (hx _ (ju au));rw[Ng,We];simp only[j12,j3m,show k es.length=(es.length:j) from rfl];rw[ah (show (i:j)<(es.length:j) by omega),bP,ar (x:=(i:j)+1)];simp only[jc,je,bm];rw[show j11 (zs,(ps,(cs,ss))) (es[i].1,(es[i].2.1,(es[i].2.2.1,(es[i].2.2.2.1,es[i].2.2.2.2))))=_ from c1,show ji8 (zs,(ps,(cs,ss))) (es[i].1,(es[i].2.1,(es[i].2.2.1,(es[i].2.2.2.1,es[i].2.2.2.2))))=_ from c2];simp only[ja];by_cases hc:c=0
  .subst hc;simp only[jm,jd,aV];exact⟨e,e1,e2⟩
  .rw[show (c != 0)=p by simpa using hc];exact⟨c,by rw[cH _ hc];rfl,by rw[cH _ hc];rfl⟩
theorem Ra(fo:zs.length<=100)(fp:ps.length<=100)(dL:cs.length<=100){ls:u bC}(hl:ls.length<=100){m:j}{nm:r}{es:u dA}{l3:u r}:∀(n i:D)(L:u r),i+n=ls.length->L.length=i->
  ∃e,yY zs ps cs ss ls (ls.length:j) (i:j) (nH L)=l (rE () e)/\H6 m (i:j) zs ps cs ss nm ls es l3 L=l (rE (m,zs,ps,cs,ss,nm,ls,es,l3) e)
 |0,i,L,hi,_=>by
  rw[Nf,Wd];simp only[j0O,j3l,show k ls.length=(ls.length:j) from rfl];rw[ak (show¬(i:j)<(ls.length:j) by omega)];simp only[jd,ba];exact⟨0,rfl,rfl⟩
 |n+1,i,L,hi,hL=>by
  have au:i<ls.length:=aa;have bm:ls.getD i (ByteArray.empty,((0:j),(((0:j),(0:j)),((0:j),((0:j),(([]:u j),(([]:WL),((0:j),(0:j)))))))))=ls[i]:=by simp[List.getD,au]
  have ih:=Ra fo fp dL hl (m:=m) (nm:=nm) (es:=es) (l3:=l3) n (i+1) (L++[ls[i].1]) aa ay;obtain⟨en,n1,n2⟩:=FK (L:=L) aa ls[i].1;obtain⟨c,c1,c2⟩:=jB2 (zs:=zs) (ps:=ps) (cs:=cs) (ss:=ss) fo fp dL ls[i];rw[hL]at n2;rw[Nf,Wd];simp only[j0O,j3l,j3x,j3y,show k ls.length=(ls.length:j) from rfl];rw[ah (show (i:j)<(ls.length:j) by omega),bP,ar (x:=(i:j)+1)];simp only[jc,je,bm,n1,ja];rw[ah (show L.length+[ls[i].1].length<=aF by simp[aF];omega)];simp only[jc,n2,ja];by_cases he:en=0
  .subst he;simp only[jm,jd,if_true]
   rw[show j1o (zs,(ps,(cs,ss))) (ls[i].1,(ls[i].2.1,((ls[i].2.2.1.1,ls[i].2.2.1.2),(ls[i].2.2.2.1,(ls[i].2.2.2.2.1,(ls[i].2.2.2.2.2.1,(ls[i].2.2.2.2.2.2.1,(ls[i].2.2.2.2.2.2.2.1,ls[i].2.2.2.2.2.2.2.2))))))))=_ from c1,
    show jft (zs,(ps,(cs,ss))) (ls[i].1,(ls[i].2.1,((ls[i].2.2.1.1,ls[i].2.2.1.2),(ls[i].2.2.2.1,(ls[i].2.2.2.2.1,(ls[i].2.2.2.2.2.1,(ls[i].2.2.2.2.2.2.1,(ls[i].2.2.2.2.2.2.2.1,ls[i].2.2.2.2.2.2.2.2))))))))=_ from c2]
   simp only[ja];by_cases hc:c=0
   .subst hc;simp only[jm,jd,aV];exact ih
   .rw[show (c != 0)=p by simpa using hc];exact⟨c,by rw[cH _ hc];rfl,by rw[cH _ hc];rfl⟩
  .rw[show (en != 0)=p by simpa using he];exact⟨en,by rw[cH _ he];rfl,by rw[cH _ he];rfl⟩
theorem Rb(fo:zs.length<=100)(fp:ps.length<=100)(dL:cs.length<=100)(hl:ss.length<=100)(hx:∀s∈ss,∀x∈s.2.2,x.2.2.2.2<=9223372036854775807):∀(n i:D)(L:u r),i+n=ss.length->L.length=i->
  ∃e,yZ zs ps cs ss ss (ss.length:j) (i:j) (nH L)=l (rE () e)/\H8 (i:j) zs ps cs ss L=l (rE () e)
 |0,i,L,hi,_=>by
  rw[Nh,Wh];simp only[j0A,j3n,show k ss.length=(ss.length:j) from rfl];rw[ak (show¬(i:j)<(ss.length:j) by omega)];simp only[jd,ba];exact⟨0,rfl,rfl⟩
 |n+1,i,L,hi,hL=>by
  have au:i<ss.length:=aa;have bm:ss.getD i (ByteArray.empty,(([]:u bC),([]:u dA)))=ss[i]:=by simp[List.getD,au]
  have ih:=Rb fo fp dL hl hx n (i+1) (L++[ss[i].1]) aa ay;have hxi:=hx _ (ju au);obtain⟨en,n1,n2⟩:=FK (L:=L) aa ss[i].1;rw[hL]at n2;rw[Nh,Wh];simp only[j0A,j3n,j7M,j7N,show k ss.length=(ss.length:j) from rfl];rw[ah (show (i:j)<(ss.length:j) by omega),bP,ar (x:=(i:j)+1)];simp only[jc,je,bm,n1,ja];rw[ah (show L.length+[ss[i].1].length<=aF by simp[aF];omega)];simp only[jc,n2,ja];by_cases he:en=0
  .subst he;simp only[jm,jd,if_true,j1s,show k ss[i].2.1.length=(ss[i].2.1.length:j) from rfl,show k ss[i].2.2.length=(ss[i].2.2.length:j) from rfl];by_cases Aj:(ss[i].2.1.length:j)>6\/(ss[i].2.2.length:j)>48
   .have hb:(cond (o ((ss[i].2.1.length:j)>6)) p (o ((ss[i].2.2.length:j)>48)))=true:=by
     rcases Aj with h|h
     .rw[ah h];rfl
     .rw[ah h];cases o ((ss[i].2.1.length:j)>6)<;>rfl
    rw[hb];exact⟨5,rfl,rfl⟩
   .rw[ak (λh=>Aj (.inl h)),ak (λh=>Aj (.inr h))];simp only[jd];obtain⟨e,e1,e2⟩:=Ra (zs:=zs) (ps:=ps) (cs:=cs) (ss:=ss) fo fp dL (ls:=ss[i].2.1) aa (m:=(i:j)) (nm:=ss[i].1) (es:=ss[i].2.2) (l3:=L++[ss[i].1]) ss[i].2.1.length 0 [] aa rfl;obtain⟨c,c1,c2⟩:=Q9 (zs:=zs) (ps:=ps) (cs:=cs) (ss:=ss) fp (es:=ss[i].2.2) aa hxi (m:=(i:j)) (nm:=ss[i].1) (ls:=ss[i].2.1) (l3:=L++[ss[i].1]) ss[i].2.2.length 0 aa;rw[show ((0:D):j)=0 from rfl]at e1 e2 c1 c2
    have en:j2w ss[i].2.1 zs ps cs ss=l e:=by
     simp only[j2w,show k ss[i].2.1.length=(ss[i].2.1.length:j) from rfl];rw[show yY zs ps cs ss ss[i].2.1 (ss[i].2.1.length:j) 0 []=_ from e1];by_cases h0:e=0
     .subst h0;rfl
     .rw[cH _ h0];rfl
    rw[en,e2];by_cases h0:e=0
    .subst h0;rw[iG];simp only[ja,jm,jd,lN,c1,c2];by_cases hc:c=0
     .subst hc;rw[iG,iG];simp only[ja,jm,jd,lN,aV];rw[ar (x:=(i:j)+1)];exact ih
     .rw[cH _ hc,cH _ hc];simp only[ja,pR];rw[show (c != 0)=p by simpa using hc];exact⟨c,by rw[cH _ hc];rfl,by rw[cH _ hc];rfl⟩
    .rw[cH _ h0];simp only[ja,pR];rw[show (e != 0)=p by simpa using h0];simp only[jc,ja];rw[show (e != 0)=p by simpa using h0];exact⟨e,by rw[cH _ h0];rfl,by rw[cH _ h0];rfl⟩
  .rw[show (en != 0)=p by simpa using he];exact⟨en,by rw[cH _ he];rfl,by rw[cH _ he];rfl⟩
theorem jB7(hz:∀z∈zs,ZF z)(hx:∀s∈ss,∀x∈s.2.2,x.2.2.2.2<=9223372036854775807):∃e,j5A (zs,(ps,(cs,ss)))=l e/\jbC (zs,(ps,(cs,ss)))=l e:=by
 simp only[j5A,jbC,show k zs.length=(zs.length:j) from rfl,show k ps.length=(ps.length:j) from rfl,show k cs.length=(cs.length:j) from rfl,show k ss.length=(ss.length:j) from rfl];cases hb:(cond (cond (cond (o ((zs.length:j)>16)) p (o ((ps.length:j)>32))) p (o ((cs.length:j)>8))) p (o ((ss.length:j)>12))) with
 |true=>exact⟨5,rfl,rfl⟩
 |false=>
  simp only[vu,ye,ku]at hb;simp only[jd];obtain⟨e,e1,e2⟩:=jxh (zs:=zs) (ps:=ps) (cs:=cs) (ss:=ss) hz aa;rw[e1,e2];simp only[ja];by_cases h0:e=0
  .subst h0;simp only[jm,jd];obtain⟨c,c1,c2⟩:=_i (zs:=zs) (ps:=ps) (cs:=cs) (ss:=ss) aa aa;rw[c1,c2];simp only[ja];by_cases h1:c=0
   .subst h1;obtain⟨d,d1,d2⟩:=jyL (zs:=zs) (ps:=ps) (cs:=cs) (ss:=ss) aa aa;simp only[iG,lN,jm,jd,d1,d2,ja];by_cases h2:d=0
    .subst h2;simp only[jm,jd];obtain⟨f,f1,f2⟩:=Rb (zs:=zs) (ps:=ps) (cs:=cs) (ss:=ss) aa aa aa aa hx ss.length 0 [] aa rfl;rw[show ((0:D):j)=0 from rfl]at f1 f2;refine⟨f,?_,?_⟩
     .simp only[j2M,show k ss.length=(ss.length:j) from rfl];rw[show yZ zs ps cs ss ss (ss.length:j) 0 []=_ from f1];by_cases hf:f=0
      .subst hf;rfl
      .rw[cH _ hf];rfl
     .simp only[jeb,f2,ja];by_cases hf:f=0
      .subst hf;rfl
      .rw[cH _ hf];rfl
    .rw[show (d != 0)=p by simpa using h2];exact⟨d,rfl,rfl⟩
   .rw[cH _ h1,show (c != 0)=p by simpa using h1];exact⟨c,rfl,rfl⟩
  .rw[show (e != 0)=p by simpa using h0];exact⟨e,rfl,rfl⟩
end
end Go.Proofs.Pw
