/- eP 8: AN of any gy: sF, edits, CU; all of it. -/
import Derived.Test.YtmccfdihkphfaaaGreatREPM
open _root_ renaming Int->j,ByteArray->r,List->u,Nat->D
open Int renaming ofNat->k,tdiv->E
open Option renaming some->l
open Decidable renaming decide->o
open Bool renaming true->p,false->y
open Go Go.Lft
namespace Go.Proofs.Pw
theorem GH(n lo hi:j):∃b,j3d n lo hi=l b/\j85 n lo hi=l b:=⟨_,rfl,rfl⟩
section
variable{zs:u bH}{ps:u dr}{cs:u bd}{ss:u cN}
theorem ϖ(fH:ps.length<=100){L:bA}(hl:L.2.2.2.2.2.1.length<=100):∀(n i:D),i+n=L.2.2.2.2.2.1.length->∃q e,((E5 L.2.2.2.2.2.1 zs ps cs ss (L.2.2.2.2.2.1.length:j) (i:j)).bind λq0=>sumC q0 (λa=>l a) (λ_=>l (-1:j)))=l q/\
   Jp (i:j) zs ps cs ss L.1 L.2.1 L.2.2.1.1 L.2.2.1.2 L.2.2.2.1 L.2.2.2.2.1 L.2.2.2.2.2.1 L.2.2.2.2.2.2.1 L.2.2.2.2.2.2.2.1 L.2.2.2.2.2.2.2.2=l (rE (zs,ps,cs,ss,L.1,L.2.1,L.2.2.1.1,L.2.2.1.2,L.2.2.2.1,L.2.2.2.2.1,L.2.2.2.2.2.1,L.2.2.2.2.2.2.1,L.2.2.2.2.2.2.2.1,L.2.2.2.2.2.2.2.2) e)/\
   (e=if q>=0 then 3 else 0)
 |0,i,hi=>by
  rw[IF,YB];simp only[j0q,j5Y,show k L.2.2.2.2.2.1.length=(L.2.2.2.2.2.1.length:j) from rfl];rw[an (show¬(i:j)<(L.2.2.2.2.2.1.length:j) by omega)];simp only[j7,aW];exact⟨-1,0,rfl,rfl,rfl⟩
 |n+1,i,hi=>by
  have aq:i<L.2.2.2.2.2.1.length:=aa;have bc:L.2.2.2.2.2.1.getD i (0:j)=L.2.2.2.2.2.1[i]:=by simp[List.getD,aq]
  obtain⟨q,e,q1,q2,q3⟩:=ϖ fH hl n (i+1) aa;obtain⟨b,b1,b2⟩:=AO L.2.2.2.2.2.1[i] (n:=ps.length) aa;rw[IF,YB];simp only[j0q,j5Y,j54,show k L.2.2.2.2.2.1.length=(L.2.2.2.2.2.1.length:j) from rfl,show k ps.length=(ps.length:j) from rfl];rw[ag (show (i:j)<(L.2.2.2.2.2.1.length:j) by omega),bE,ar (x:=(i:j)+1)];simp only[j6,j8,bc,b1,b2,j4];cases b with
  |true=>simp only[jc,j7,aS];exact⟨q,e,q1,q2,q3⟩
  |false=>exact⟨(i:j),3,rfl,rfl,by rw[if_pos aa]⟩
theorem jEy(fE:zs.length<=100)(fH:ps.length<=100)(dR:cs.length<=100)(L:bA):∃e,j1s (zs,(ps,(cs,ss))) L=l e/\jhm (zs,(ps,(cs,ss))) L=l e:=by
 obtain⟨b1,p1,p2⟩:=AO L.2.1 (n:=zs.length) aa;obtain⟨b3,s1,s2⟩:=GH L.2.2.1.2 0 86399;obtain⟨b4,s3,s4⟩:=GH L.2.2.2.1 0 2;obtain⟨b5,s5,s6⟩:=GH L.2.2.2.2.1 1 400;obtain⟨c,c1,c2,_⟩:=SP L.2.2.2.2.2.2.1;obtain⟨b6,s7,s8⟩:=GH L.2.2.2.2.2.2.2.2 0 2;obtain⟨b7,p3,p4⟩:=AO L.2.2.2.2.2.2.2.1 (n:=cs.length) aa;simp only[j1s,jhm,show k zs.length=(zs.length:j) from rfl,show k cs.length=(cs.length:j) from rfl,show k L.2.2.2.2.2.1.length=(L.2.2.2.2.2.1.length:j) from rfl,p1,p2,j4];cases b1 with
 |false=>exact⟨3,rfl,rfl⟩
 |true=>
 simp only[jc,j7,xv,Sw,j4,s1,s2,s3,s4,s5,s6]
 have hd:j85 L.2.2.1.1 1 98980=l (o (1<=L.2.2.1.1)&&o (L.2.2.1.1<=98980)):=by
  simp only[j85];by_cases h:1<=L.2.2.1.1
  .rw[ag (show L.2.2.1.1>=1 from h),j6,qr]
  .rw[an (show¬L.2.2.1.1>=1 from h),j7,ym]
 rw[hd];simp only[j4];by_cases h1:L.2.2.1.1<1
 .rw[ag h1,an (show¬1<=L.2.2.1.1 by omega)];exact⟨1,rfl,rfl⟩
 rw[an h1,ag (show 0<=L.2.2.1.1 by omega),ag (show 1<=L.2.2.1.1 by omega)];simp only[j7,qr];cases o (L.2.2.1.1<=98980) with
 |false=>exact⟨1,rfl,rfl⟩
 |true=>
 simp only[jc,j7];cases b3 with
 |false=>exact⟨1,rfl,rfl⟩
 |true=>
 cases b4 with
 |false=>exact⟨1,rfl,rfl⟩
 |true=>
 cases b5 with
 |false=>exact⟨1,rfl,rfl⟩
 |true=>
 simp only[jc,j7];by_cases h0:L.2.2.2.2.2.1.length=0
 .rw[show ((L.2.2.2.2.2.1.length:j)==0)=p by simp[h0]];exact⟨7,rfl,rfl⟩
 rw[cG (show (L.2.2.2.2.2.1.length:j)≠0 by omega),j7,j7];by_cases nA:(L.2.2.2.2.2.1.length:j)>12
 .rw[ag nA];exact⟨5,rfl,rfl⟩
 rw[an nA,j7,j7];obtain⟨q,e,q1,q2,q3⟩:=ϖ (zs:=zs) (ps:=ps) (cs:=cs) (ss:=ss) fH (L:=L) aa L.2.2.2.2.2.1.length 0 aa;rw[show ((0:D):j)=0 from rfl]at q1 q2;have AP:j10 L.2.2.2.2.2.1 zs ps cs ss=l (o (q>=0)):=by simp only[j10,j2I,show k L.2.2.2.2.2.1.length=(L.2.2.2.2.2.1.length:j) from rfl];rw[q1];rfl
 rw[AP,q2];by_cases hq:q>=0
 .rw[if_pos hq]at q3;subst q3;rw[ag hq];exact⟨3,rfl,rfl⟩
 rw[if_neg hq]at q3;subst q3;rw[an hq,iW];simp only[j4,j7,me,c1,c2,s7,s8];cases (c != 0) with
 |true=>exact⟨8,rfl,rfl⟩
 |false=>
 simp only[j7];cases b6 with
 |false=>exact⟨1,rfl,rfl⟩
 |true=>
 simp only[jc,j7,show k cs.length=(cs.length:j) from rfl];rw[p3,p4];cases (L.2.2.2.2.2.2.2.2 != 0) with
 |true=>
  cases b7 with
  |false=>exact⟨3,rfl,rfl⟩
  |true=>
   simp only[jc,j7,j6,j4];cases (cond (L.2.2.2.2.2.2.2.2==0) (L.2.2.2.2.2.2.2.1 != 0) y) with
   |true=>exact⟨1,rfl,rfl⟩
   |false=>exact⟨0,rfl,rfl⟩
 |false=>
  simp only[j7];cases (cond (L.2.2.2.2.2.2.2.2==0) (L.2.2.2.2.2.2.2.1 != 0) y) with
  |true=>exact⟨1,rfl,rfl⟩
  |false=>exact⟨0,rfl,rfl⟩
theorem jEz(fH:ps.length<=100)(x:cO)(hx:x.2.2.2.2<=9223372036854775807):∃e,j17 (zs,(ps,(cs,ss))) x=l e/\jki (zs,(ps,(cs,ss))) x=l e:=by
 obtain⟨b1,s1,s2⟩:=GH x.1 0 2;obtain⟨b2,p1,p2⟩:=AO x.2.1 (n:=ps.length) aa;obtain⟨b3,p3,p4⟩:=AO x.2.2.1 (n:=ps.length) aa
 have tail:∀X:Option j,X=(cond (cond (x.1 != 2) (x.2.2.1 != 0) y) (l 1) (cond (cond (x.1==2) (x.2.1==x.2.2.1) y) (l 4)
   (cond (cond (o (x.2.2.2.1<0)) p (o (x.2.2.2.2<0))) (l 1) ((j1g (w64 (E x.2.2.2.2 86400))).bind λr74=>cond (!r74) (l 1) (cond (o (x.2.2.2.1>=x.2.2.2.2)) (l 6) (l 0))))))->
   ∀Y:Option j,Y=(cond (cond (x.1 != 2) (x.2.2.1 != 0) y) (l 1) (cond (cond (x.1==2) (x.2.1==x.2.2.1) y) (l 4)
   (cond (o (x.2.2.2.1<0)) (l 1) (cond (o (x.2.2.2.2<0)) (l 1) ((jaA).bind λr77=>cond (o (w64 (E x.2.2.2.2 86400)>r77)) (l 1) (cond (o (x.2.2.2.1>=x.2.2.2.2)) (l 6) (l 0)))))))->
   ∃e,X=l e/\Y=l e:=λX hX Y hY=>by
  rw[hX,hY];cases (cond (x.1 != 2) (x.2.2.1 != 0) y) with
  |true=>exact⟨1,rfl,rfl⟩
  |false=>
  cases (cond (x.1==2) (x.2.1==x.2.2.1) y) with
  |true=>exact⟨4,rfl,rfl⟩
  |false=>
  simp only[j7];by_cases hf:x.2.2.2.1<0
  .rw[ag hf];exact⟨1,rfl,rfl⟩
  rw[an hf];by_cases ht:x.2.2.2.2<0
  .rw[ag ht];exact⟨1,rfl,rfl⟩
  rw[an ht];simp only[j7,xv,Sw,j4];rw[vC aa,ar (x:=x.2.2.2.2/86400),ag (show 0<=x.2.2.2.2/86400 by omega)];by_cases hm:x.2.2.2.2/86400<=98980
  .rw[ag hm,an (show¬x.2.2.2.2/86400>98980 by omega)];simp only[ql,jc,j7];cases o (x.2.2.2.1>=x.2.2.2.2) with
   |true=>exact⟨6,rfl,rfl⟩
   |false=>exact⟨0,rfl,rfl⟩
  .rw[an hm,ag (show x.2.2.2.2/86400>98980 by omega)];exact⟨1,rfl,rfl⟩
 simp only[j17,jki,show k ps.length=(ps.length:j) from rfl,s1,s2,j4,p1,p2,p3,p4];cases b1 with
 |false=>exact⟨1,rfl,rfl⟩
 |true=>
 simp only[jc,j7];have ha:(cond (x.1 != 1) p (x.2.1 != -1)) = !(cond (x.1==1) (x.2.1 == -1) y):=by show (cond (!(x.1==1)) p (!(x.2.1 == -1)))=_;cases (x.1==1)<;>simp
 rw[ha];cases hA:(cond (!b2) (!(cond (x.1==1) (x.2.1 == -1) y)) y) with
 |true=>simp only[j6,jp,yb];exact⟨3,rfl,rfl⟩
 |false=>
 simp only[j7];cases hk:(x.1==2) with
 |true=>
  simp only[j6];cases b3 with
  |false=>exact⟨3,rfl,rfl⟩
  |true=>simp only[jc,j7];exact tail _ (by rw[hk];rfl) _ (by rw[hk];rfl)
 |false=>simp only[j7];exact tail _ (by rw[hk];rfl) _ (by rw[hk];rfl)
theorem SS(fH:ps.length<=100){es:u cO}(hl:es.length<=100)(hx:∀x∈es,x.2.2.2.2<=9223372036854775807){m:j}{nm:r}{ls:u bA}{l3:u r}:∀(n i:D),i+n=es.length->∃e,
   Cj es (es.length:j) (i:j) zs ps cs ss=l (rE () e)/\Jr m (i:j) zs ps cs ss nm ls es l3=l (rE (m,zs,ps,cs,ss,l3) e)
 |0,i,hi=>by
  rw[OA,YD];simp only[j18,j3H,show k es.length=(es.length:j) from rfl];rw[an (show¬(i:j)<(es.length:j) by omega)];simp only[j7,aW];exact⟨0,rfl,rfl⟩
 |n+1,i,hi=>by
  have aq:i<es.length:=aa;have bc:es.getD i ((0:j),((0:j),((0:j),((0:j),(0:j)))))=es[i]:=by simp[List.getD,aq]
  obtain⟨e,e1,e2⟩:=SS (m:=m) (nm:=nm) (ls:=ls) (l3:=l3) fH hl hx n (i+1) aa;obtain⟨c,c1,c2⟩:=jEz (zs:=zs) (cs:=cs) (ss:=ss) fH es[i] (hx _ (jl aq));rw[OA,YD];simp only[j18,j3H,show k es.length=(es.length:j) from rfl];rw[ag (show (i:j)<(es.length:j) by omega),bE,ar (x:=(i:j)+1)];simp only[j6,j8,bc];rw[show j17 (zs,(ps,(cs,ss))) (es[i].1,(es[i].2.1,(es[i].2.2.1,(es[i].2.2.2.1,es[i].2.2.2.2))))=_ from c1,show jki (zs,(ps,(cs,ss))) (es[i].1,(es[i].2.1,(es[i].2.2.1,(es[i].2.2.2.1,es[i].2.2.2.2))))=_ from c2];simp only[j4];by_cases hc:c=0
  .subst hc;simp only[jf,j7,aS];exact⟨e,e1,e2⟩
  .rw[show (c != 0)=p by simpa using hc];exact⟨c,by rw[cM _ hc];rfl,by rw[cM _ hc];rfl⟩
theorem SU(fE:zs.length<=100)(fH:ps.length<=100)(dR:cs.length<=100){ls:u bA}(hl:ls.length<=100){m:j}{nm:r}{es:u cO}{l3:u r}:∀(n i:D)(L:u r),i+n=ls.length->L.length=i->
  ∃e,Ab zs ps cs ss ls (ls.length:j) (i:j) (ow L)=l (rE () e)/\Jq m (i:j) zs ps cs ss nm ls es l3 L=l (rE (m,zs,ps,cs,ss,nm,ls,es,l3) e)
 |0,i,L,hi,_=>by
  rw[Oz,YC];simp only[j0T,j3G,show k ls.length=(ls.length:j) from rfl];rw[an (show¬(i:j)<(ls.length:j) by omega)];simp only[j7,aW];exact⟨0,rfl,rfl⟩
 |n+1,i,L,hi,hL=>by
  have aq:i<ls.length:=aa;have bc:ls.getD i (ByteArray.empty,((0:j),(((0:j),(0:j)),((0:j),((0:j),(([]:u j),(([]:WL),((0:j),(0:j)))))))))=ls[i]:=by simp[List.getD,aq]
  have ih:=SU fE fH dR hl (m:=m) (nm:=nm) (es:=es) (l3:=l3) n (i+1) (L++[ls[i].1]) aa az;obtain⟨en,n1,n2⟩:=GG (L:=L) aa ls[i].1;obtain⟨c,c1,c2⟩:=jEy (zs:=zs) (ps:=ps) (cs:=cs) (ss:=ss) fE fH dR ls[i];rw[hL]at n2;rw[Oz,YC];simp only[j0T,j3G,j3S,j3T,show k ls.length=(ls.length:j) from rfl];rw[ag (show (i:j)<(ls.length:j) by omega),bE,ar (x:=(i:j)+1)];simp only[j6,j8,bc,n1,j4];rw[ag (show L.length+[ls[i].1].length<=aG by simp[aG];omega)];simp only[j6,n2,j4];by_cases he:en=0
  .subst he;simp only[jf,j7,if_true]
   rw[show j1s (zs,(ps,(cs,ss))) (ls[i].1,(ls[i].2.1,((ls[i].2.2.1.1,ls[i].2.2.1.2),(ls[i].2.2.2.1,(ls[i].2.2.2.2.1,(ls[i].2.2.2.2.2.1,(ls[i].2.2.2.2.2.2.1,(ls[i].2.2.2.2.2.2.2.1,ls[i].2.2.2.2.2.2.2.2))))))))=_ from c1,
    show jhm (zs,(ps,(cs,ss))) (ls[i].1,(ls[i].2.1,((ls[i].2.2.1.1,ls[i].2.2.1.2),(ls[i].2.2.2.1,(ls[i].2.2.2.2.1,(ls[i].2.2.2.2.2.1,(ls[i].2.2.2.2.2.2.1,(ls[i].2.2.2.2.2.2.2.1,ls[i].2.2.2.2.2.2.2.2))))))))=_ from c2]
   simp only[j4];by_cases hc:c=0
   .subst hc;simp only[jf,j7,aS];exact ih
   .rw[show (c != 0)=p by simpa using hc];exact⟨c,by rw[cM _ hc];rfl,by rw[cM _ hc];rfl⟩
  .rw[show (en != 0)=p by simpa using he];exact⟨en,by rw[cM _ he];rfl,by rw[cM _ he];rfl⟩
theorem SX(fE:zs.length<=100)(fH:ps.length<=100)(dR:cs.length<=100)(hl:ss.length<=100)(hx:∀s∈ss,∀x∈s.2.2,x.2.2.2.2<=9223372036854775807):∀(n i:D)(L:u r),i+n=ss.length->L.length=i->
  ∃e,Ac zs ps cs ss ss (ss.length:j) (i:j) (ow L)=l (rE () e)/\Js (i:j) zs ps cs ss L=l (rE () e)
 |0,i,L,hi,_=>by
  rw[OC,YE];simp only[j0E,j3I,show k ss.length=(ss.length:j) from rfl];rw[an (show¬(i:j)<(ss.length:j) by omega)];simp only[j7,aW];exact⟨0,rfl,rfl⟩
 |n+1,i,L,hi,hL=>by
  have aq:i<ss.length:=aa;have bc:ss.getD i (ByteArray.empty,(([]:u bA),([]:u cO)))=ss[i]:=by simp[List.getD,aq]
  have ih:=SX fE fH dR hl hx n (i+1) (L++[ss[i].1]) aa az;have hxi:=hx _ (jl aq);obtain⟨en,n1,n2⟩:=GG (L:=L) aa ss[i].1;rw[hL]at n2;rw[OC,YE];simp only[j0E,j3I,j8L,j8M,show k ss.length=(ss.length:j) from rfl];rw[ag (show (i:j)<(ss.length:j) by omega),bE,ar (x:=(i:j)+1)];simp only[j6,j8,bc,n1,j4];rw[ag (show L.length+[ss[i].1].length<=aG by simp[aG];omega)];simp only[j6,n2,j4];by_cases he:en=0
  .subst he;simp only[jf,j7,if_true,j1w,show k ss[i].2.1.length=(ss[i].2.1.length:j) from rfl,show k ss[i].2.2.length=(ss[i].2.2.length:j) from rfl];by_cases AQ:(ss[i].2.1.length:j)>6\/(ss[i].2.2.length:j)>48
   .have hb:(cond (o ((ss[i].2.1.length:j)>6)) p (o ((ss[i].2.2.length:j)>48)))=true:=by
     rcases AQ with h|h
     .rw[ag h];rfl
     .rw[ag h];cases o ((ss[i].2.1.length:j)>6)<;>rfl
    rw[hb];exact⟨5,rfl,rfl⟩
   .rw[an (λh=>AQ (.inl h)),an (λh=>AQ (.inr h))];simp only[j7];obtain⟨e,e1,e2⟩:=SU (zs:=zs) (ps:=ps) (cs:=cs) (ss:=ss) fE fH dR (ls:=ss[i].2.1) aa (m:=(i:j)) (nm:=ss[i].1) (es:=ss[i].2.2) (l3:=L++[ss[i].1]) ss[i].2.1.length 0 [] aa rfl;obtain⟨c,c1,c2⟩:=SS (zs:=zs) (ps:=ps) (cs:=cs) (ss:=ss) fH (es:=ss[i].2.2) aa hxi (m:=(i:j)) (nm:=ss[i].1) (ls:=ss[i].2.1) (l3:=L++[ss[i].1]) ss[i].2.2.length 0 aa;rw[show ((0:D):j)=0 from rfl]at e1 e2 c1 c2
    have en:j2J ss[i].2.1 zs ps cs ss=l e:=by
     simp only[j2J,show k ss[i].2.1.length=(ss[i].2.1.length:j) from rfl];rw[show Ab zs ps cs ss ss[i].2.1 (ss[i].2.1.length:j) 0 []=_ from e1];by_cases h0:e=0
     .subst h0;rfl
     .rw[cM _ h0];rfl
    rw[en,e2];by_cases h0:e=0
    .subst h0;rw[iW];simp only[j4,jf,j7,me,c1,c2];by_cases hc:c=0
     .subst hc;rw[iW,iW];simp only[j4,jf,j7,me,aS];rw[ar (x:=(i:j)+1)];exact ih
     .rw[cM _ hc,cM _ hc];simp only[j4,pN];rw[show (c != 0)=p by simpa using hc];exact⟨c,by rw[cM _ hc];rfl,by rw[cM _ hc];rfl⟩
    .rw[cM _ h0];simp only[j4,pN];rw[show (e != 0)=p by simpa using h0];simp only[j6,j4];rw[show (e != 0)=p by simpa using h0];exact⟨e,by rw[cM _ h0];rfl,by rw[cM _ h0];rfl⟩
  .rw[show (en != 0)=p by simpa using he];exact⟨en,by rw[cM _ he];rfl,by rw[cM _ he];rfl⟩
theorem jED(hz:∀z∈zs,ZF z)(hx:∀s∈ss,∀x∈s.2.2,x.2.2.2.2<=9223372036854775807):∃e,j4l (zs,(ps,(cs,ss)))=l e/\j8y (zs,(ps,(cs,ss)))=l e:=by
 simp only[j4l,j8y,show k zs.length=(zs.length:j) from rfl,show k ps.length=(ps.length:j) from rfl,show k cs.length=(cs.length:j) from rfl,show k ss.length=(ss.length:j) from rfl];cases hb:(cond (cond (cond (o ((zs.length:j)>16)) p (o ((ps.length:j)>32))) p (o ((cs.length:j)>8))) p (o ((ss.length:j)>12))) with
 |true=>exact⟨5,rfl,rfl⟩
 |false=>
  simp only[vd,vv,kg]at hb;simp only[j7];obtain⟨e,e1,e2⟩:=jAA (zs:=zs) (ps:=ps) (cs:=cs) (ss:=ss) hz aa;rw[e1,e2];simp only[j4];by_cases h0:e=0
  .subst h0;simp only[jf,j7];obtain⟨c,c1,c2⟩:=ϔ (zs:=zs) (ps:=ps) (cs:=cs) (ss:=ss) aa aa;rw[c1,c2];simp only[j4];by_cases h1:c=0
   .subst h1;obtain⟨d,d1,d2⟩:=jCe (zs:=zs) (ps:=ps) (cs:=cs) (ss:=ss) aa aa;simp only[iW,me,jf,j7,d1,d2,j4];by_cases h2:d=0
    .subst h2;simp only[jf,j7];obtain⟨f,f1,f2⟩:=SX (zs:=zs) (ps:=ps) (cs:=cs) (ss:=ss) aa aa aa aa hx ss.length 0 [] aa rfl;rw[show ((0:D):j)=0 from rfl]at f1 f2;refine⟨f,?_,?_⟩
     .simp only[j32,show k ss.length=(ss.length:j) from rfl];rw[show Ac zs ps cs ss ss (ss.length:j) 0 []=_ from f1];by_cases hf:f=0
      .subst hf;rfl
      .rw[cM _ hf];rfl
     .simp only[jfS,f2,j4];by_cases hf:f=0
      .subst hf;rfl
      .rw[cM _ hf];rfl
    .rw[show (d != 0)=p by simpa using h2];exact⟨d,rfl,rfl⟩
   .rw[cM _ h1,show (c != 0)=p by simpa using h1];exact⟨c,rfl,rfl⟩
  .rw[show (e != 0)=p by simpa using h0];exact⟨e,rfl,rfl⟩
end
end Go.Proofs.Pw
