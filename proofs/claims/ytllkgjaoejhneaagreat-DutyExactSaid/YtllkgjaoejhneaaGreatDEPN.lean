/- Chapter 8: checks of any configuration: layers, edits, schedules; all of it. -/
import Derived.Test.YtllkgjaoejhneaaGreatDEPM
open _root_ renaming Int->j,ByteArray->r,List->u,Nat->D
open Int renaming ofNat->k,tdiv->E
open Option renaming some->l
open Decidable renaming decide->o
open Bool renaming true->p,false->y
open Go Go.Lft
namespace Go.Proofs.Pw
theorem jkI (n lo hi:j):∃ b,j36 n lo hi=l b∧j6t n lo hi=l b:=⟨_,rfl,rfl⟩
section
variable {zs:u j1l} {ps:u j1s} {cs:u CalT} {ss:u j3z}
theorem jzV (hpl:ps.length≤100) {L:j0j} (hl:L.2.2.2.2.2.1.length≤100):∀ (n i:D),i+n=L.2.2.2.2.2.1.length→∃ q e,((j1d L.2.2.2.2.2.1 zs ps cs ss (L.2.2.2.2.2.1.length:j) (i:j)).bind fun q0=>sumC q0 (fun a=>l a) (fun _=>l (-1:j)))=l q∧
   jbx (i:j) zs ps cs ss L.1 L.2.1 L.2.2.1.1 L.2.2.1.2 L.2.2.2.1 L.2.2.2.2.1 L.2.2.2.2.2.1 L.2.2.2.2.2.2.1 L.2.2.2.2.2.2.2.1 L.2.2.2.2.2.2.2.2=l (rE (zs,ps,cs,ss,L.1,L.2.1,L.2.2.1.1,L.2.2.1.2,L.2.2.2.1,L.2.2.2.2.1,L.2.2.2.2.2.1,L.2.2.2.2.2.2.1,L.2.2.2.2.2.2.2.1,L.2.2.2.2.2.2.2.2) e)∧
   (e=if q≥0 then 3 else 0)
 | 0,i,hi=>by
  rw [j1t,jew]
  simp only [j0p,j4N,show k L.2.2.2.2.2.1.length=(L.2.2.2.2.2.1.length:j) from rfl]
  rw [j01 (show ¬ (i:j)<(L.2.2.2.2.2.1.length:j) by omega)]
  simp only [jd,j08]
  exact ⟨-1,0,rfl,rfl,rfl⟩
 | n+1,i,hi=>by
  have hlt:i<L.2.2.2.2.2.1.length:=omg_
  have hgd:L.2.2.2.2.2.1.getD i (0:j)=L.2.2.2.2.2.1[i]:=by simp [List.getD,hlt]
  obtain ⟨q,e,q1,q2,q3⟩:=jzV hpl hl n (i+1) omg_
  obtain ⟨b,b1,b2⟩:=jgs L.2.2.2.2.2.1[i] (n:=ps.length) omg_
  rw [j1t,jew]
  simp only [j0p,j4N,j4c,show k L.2.2.2.2.2.1.length=(L.2.2.2.2.2.1.length:j) from rfl,show k ps.length=(ps.length:j) from rfl]
  rw [j00 (show (i:j)<(L.2.2.2.2.2.1.length:j) by omega),j1o,j07 (x:=(i:j)+1)]
  simp only [jc,je,hgd,b1,b2,ja]
  cases b with
  | true=>
   simp only [jk,jd,j06]
   exact ⟨q,e,q1,q2,q3⟩
  | false=>
   exact ⟨(i:j),3,rfl,rfl,by rw [if_pos omg_]⟩
theorem jyK (hzl:zs.length≤100) (hpl:ps.length≤100) (hcl:cs.length≤100) (L:j0j):∃ e,j1a (zs,(ps,(cs,ss))) L=l e∧jex (zs,(ps,(cs,ss))) L=l e:=by
 obtain ⟨b1,p1,p2⟩:=jgs L.2.1 (n:=zs.length) omg_
 obtain ⟨b3,s1,s2⟩:=jkI L.2.2.1.2 0 86399
 obtain ⟨b4,s3,s4⟩:=jkI L.2.2.2.1 0 2
 obtain ⟨b5,s5,s6⟩:=jkI L.2.2.2.2.1 1 400
 obtain ⟨c,c1,c2,_⟩:=jkH L.2.2.2.2.2.2.1
 obtain ⟨b6,s7,s8⟩:=jkI L.2.2.2.2.2.2.2.2 0 2
 obtain ⟨b7,p3,p4⟩:=jgs L.2.2.2.2.2.2.2.1 (n:=cs.length) omg_
 simp only [j1a,jex,show k zs.length=(zs.length:j) from rfl,show k cs.length=(cs.length:j) from rfl,show k L.2.2.2.2.2.1.length=(L.2.2.2.2.2.1.length:j) from rfl,p1,p2,ja]
 cases b1 with
 | false=>exact ⟨3,rfl,rfl⟩
 | true=>
 simp only [jk,jd,jeS,jvd,ja,s1,s2,s3,s4,s5,s6]
 have hd:j6t L.2.2.1.1 1 98980=l (o (1≤L.2.2.1.1)&&o (L.2.2.1.1≤98980)):=by
  simp only [j6t]
  by_cases h:1≤L.2.2.1.1
  ·rw [j00 (show L.2.2.1.1≥1 from h),jc,vz]
  ·rw [j01 (show ¬ L.2.2.1.1≥1 from h),jd,Bool.false_and]
 rw [hd]
 simp only [ja]
 by_cases h1:L.2.2.1.1<1
 ·rw [j00 h1,j01 (show ¬ 1≤L.2.2.1.1 by omega)]
  exact ⟨1,rfl,rfl⟩
 rw [j01 h1,j00 (show 0≤L.2.2.1.1 by omega),j00 (show 1≤L.2.2.1.1 by omega)]
 simp only [jd,vz]
 cases o (L.2.2.1.1≤98980) with
 | false=>exact ⟨1,rfl,rfl⟩
 | true=>
 simp only [jk,jd]
 cases b3 with
 | false=>exact ⟨1,rfl,rfl⟩
 | true=>
 cases b4 with
 | false=>exact ⟨1,rfl,rfl⟩
 | true=>
 cases b5 with
 | false=>exact ⟨1,rfl,rfl⟩
 | true=>
 simp only [jk,jd]
 by_cases h0:L.2.2.2.2.2.1.length=0
 ·rw [show ((L.2.2.2.2.2.1.length:j)==0)=p by simp [h0]]
  exact ⟨7,rfl,rfl⟩
 rw [j2q (show (L.2.2.2.2.2.1.length:j)≠0 by omega),jd,jd]
 by_cases h12:(L.2.2.2.2.2.1.length:j)>12
 ·rw [j00 h12]
  exact ⟨5,rfl,rfl⟩
 rw [j01 h12,jd,jd]
 obtain ⟨q,e,q1,q2,q3⟩:=jzV (zs:=zs) (ps:=ps) (cs:=cs) (ss:=ss) hpl (L:=L) omg_ L.2.2.2.2.2.1.length 0 omg_
 rw [show ((0:D):j)=0 from rfl] at q1 q2
 have hcf:j0Q L.2.2.2.2.2.1 zs ps cs ss=l (o (q≥0)):=by
  simp only [j0Q,j2b,show k L.2.2.2.2.2.1.length=(L.2.2.2.2.2.1.length:j) from rfl]
  rw [q1];rfl
 rw [hcf,q2]
 by_cases hq:q≥0
 ·rw [if_pos hq] at q3
  subst q3
  rw [j00 hq]
  exact ⟨3,rfl,rfl⟩
 rw [if_neg hq] at q3
 subst q3
 rw [j01 hq,rE_0]
 simp only [ja,jd,j48,c1,c2,s7,s8]
 cases (c != 0) with
 | true=>exact ⟨8,rfl,rfl⟩
 | false=>
 simp only [jd]
 cases b6 with
 | false=>exact ⟨1,rfl,rfl⟩
 | true=>
 simp only [jk,jd,show k cs.length=(cs.length:j) from rfl]
 rw [p3,p4]
 cases (L.2.2.2.2.2.2.2.2 != 0) with
 | true=>
  cases b7 with
  | false=>exact ⟨3,rfl,rfl⟩
  | true=>
   simp only [jk,jd,jc,ja]
   cases (cond (L.2.2.2.2.2.2.2.2==0) (L.2.2.2.2.2.2.2.1 != 0) y) with
   | true=>exact ⟨1,rfl,rfl⟩
   | false=>exact ⟨0,rfl,rfl⟩
 | false=>
  simp only [jd]
  cases (cond (L.2.2.2.2.2.2.2.2==0) (L.2.2.2.2.2.2.2.1 != 0) y) with
  | true=>exact ⟨1,rfl,rfl⟩
  | false=>exact ⟨0,rfl,rfl⟩
theorem jyL (hpl:ps.length≤100) (x:jbb) (hx:x.2.2.2.2≤9223372036854775807):∃ e,j1p (zs,(ps,(cs,ss))) x=l e∧jgY (zs,(ps,(cs,ss))) x=l e:=by
 obtain ⟨b1,s1,s2⟩:=jkI x.1 0 2
 obtain ⟨b2,p1,p2⟩:=jgs x.2.1 (n:=ps.length) omg_
 obtain ⟨b3,p3,p4⟩:=jgs x.2.2.1 (n:=ps.length) omg_
 have tail:∀ X:Option j,X=(cond (cond (x.1 != 2) (x.2.2.1 != 0) y) (l 1) (cond (cond (x.1==2) (x.2.1==x.2.2.1) y) (l 4)
   (cond (cond (o (x.2.2.2.1<0)) p (o (x.2.2.2.2<0))) (l 1) ((j1g (w64 (E x.2.2.2.2 86400))).bind fun r74=>cond (!r74) (l 1) (cond (o (x.2.2.2.1≥x.2.2.2.2)) (l 6) (l 0))))))→
   ∀ Y:Option j,Y=(cond (cond (x.1 != 2) (x.2.2.1 != 0) y) (l 1) (cond (cond (x.1==2) (x.2.1==x.2.2.1) y) (l 4)
   (cond (o (x.2.2.2.1<0)) (l 1) (cond (o (x.2.2.2.2<0)) (l 1) ((j8r).bind fun r77=>cond (o (w64 (E x.2.2.2.2 86400)>r77)) (l 1) (cond (o (x.2.2.2.1≥x.2.2.2.2)) (l 6) (l 0)))))))→
   ∃ e,X=l e∧Y=l e:=fun X hX Y hY=>by
  rw [hX,hY]
  cases (cond (x.1 != 2) (x.2.2.1 != 0) y) with
  | true=>exact ⟨1,rfl,rfl⟩
  | false=>
  cases (cond (x.1==2) (x.2.1==x.2.2.1) y) with
  | true=>exact ⟨4,rfl,rfl⟩
  | false=>
  simp only [jd]
  by_cases hf:x.2.2.2.1<0
  ·rw [j00 hf];exact ⟨1,rfl,rfl⟩
  rw [j01 hf]
  by_cases ht:x.2.2.2.2<0
  ·rw [j00 ht];exact ⟨1,rfl,rfl⟩
  rw [j01 ht]
  simp only [jd,jeS,jvd,ja]
  rw [jdN omg_,j07 (x:=x.2.2.2.2/86400),j00 (show 0≤x.2.2.2.2/86400 by omega)]
  by_cases hm:x.2.2.2.2/86400≤98980
  ·rw [j00 hm,j01 (show ¬ x.2.2.2.2/86400>98980 by omega)]
   simp only [y8,jk,jd]
   cases o (x.2.2.2.1≥x.2.2.2.2) with
   | true=>exact ⟨6,rfl,rfl⟩
   | false=>exact ⟨0,rfl,rfl⟩
  ·rw [j01 hm,j00 (show x.2.2.2.2/86400>98980 by omega)]
   exact ⟨1,rfl,rfl⟩
 simp only [j1p,jgY,show k ps.length=(ps.length:j) from rfl,s1,s2,ja,p1,p2,p3,p4]
 cases b1 with
 | false=>exact ⟨1,rfl,rfl⟩
 | true=>
 simp only [jk,jd]
 have ha:(cond (x.1 != 1) p (x.2.1 != -1)) = !(cond (x.1==1) (x.2.1 == -1) y):=by
  show (cond (!(x.1==1)) p (!(x.2.1 == -1)))=_
  cases (x.1==1)<;>simp
 rw [ha]
 cases hA:(cond (!b2) (!(cond (x.1==1) (x.2.1 == -1) y)) y) with
 | true=>
  simp only [jc,jt,yf]
  exact ⟨3,rfl,rfl⟩
 | false=>
 simp only [jd]
 cases hk:(x.1==2) with
 | true=>
  simp only [jc]
  cases b3 with
  | false=>exact ⟨3,rfl,rfl⟩
  | true=>
   simp only [jk,jd]
   exact tail _ (by rw [hk];rfl) _ (by rw [hk];rfl)
 | false=>
  simp only [jd]
  exact tail _ (by rw [hk];rfl) _ (by rw [hk];rfl)
theorem jyM (hpl:ps.length≤100) {es:u jbb} (hl:es.length≤100) (hx:∀ x∈es,x.2.2.2.2≤9223372036854775807) {m:j} {nm:r} {ls:u j0j} {l3:u r}:∀ (n i:D),i+n=es.length→∃ e,
   j1y es (es.length:j) (i:j) zs ps cs ss=l (rE () e)∧j77 m (i:j) zs ps cs ss nm ls es l3=l (rE (m,zs,ps,cs,ss,l3) e)
 | 0,i,hi=>by
  rw [j3R,jaz]
  simp only [j0W,j2Y,show k es.length=(es.length:j) from rfl]
  rw [j01 (show ¬ (i:j)<(es.length:j) by omega)]
  simp only [jd,j08]
  exact ⟨0,rfl,rfl⟩
 | n+1,i,hi=>by
  have hlt:i<es.length:=omg_
  have hgd:es.getD i ((0:j),((0:j),((0:j),((0:j),(0:j)))))=es[i]:=by simp [List.getD,hlt]
  obtain ⟨e,e1,e2⟩:=jyM (m:=m) (nm:=nm) (ls:=ls) (l3:=l3) hpl hl hx n (i+1) omg_
  obtain ⟨c,c1,c2⟩:=jyL (zs:=zs) (cs:=cs) (ss:=ss) hpl es[i] (hx _ (jx hlt))
  rw [j3R,jaz]
  simp only [j0W,j2Y,show k es.length=(es.length:j) from rfl]
  rw [j00 (show (i:j)<(es.length:j) by omega),j1o,j07 (x:=(i:j)+1)]
  simp only [jc,je,hgd]
  rw [show j1p (zs,(ps,(cs,ss))) (es[i].1,(es[i].2.1,(es[i].2.2.1,(es[i].2.2.2.1,es[i].2.2.2.2))))=_ from c1,show jgY (zs,(ps,(cs,ss))) (es[i].1,(es[i].2.1,(es[i].2.2.1,(es[i].2.2.2.1,es[i].2.2.2.2))))=_ from c2]
  simp only [ja]
  by_cases hc:c=0
  ·subst hc
   simp only [jm,jd,j06]
   exact ⟨e,e1,e2⟩
  ·rw [show (c != 0)=p by simpa using hc]
   exact ⟨c,by rw [rE_n _ hc];rfl,by rw [rE_n _ hc];rfl⟩
theorem jyN (hzl:zs.length≤100) (hpl:ps.length≤100) (hcl:cs.length≤100) {ls:u j0j} (hl:ls.length≤100) {m:j} {nm:r} {es:u jbb} {l3:u r}:∀ (n i:D) (L:u r),i+n=ls.length→L.length=i→
  ∃ e,j0U zs ps cs ss ls (ls.length:j) (i:j) (jb0 L)=l (rE () e)∧j76 m (i:j) zs ps cs ss nm ls es l3 L=l (rE (m,zs,ps,cs,ss,nm,ls,es,l3) e)
 | 0,i,L,hi,_=>by
  rw [j3i,jay]
  simp only [j0L,j2X,show k ls.length=(ls.length:j) from rfl]
  rw [j01 (show ¬ (i:j)<(ls.length:j) by omega)]
  simp only [jd,j08]
  exact ⟨0,rfl,rfl⟩
 | n+1,i,L,hi,hL=>by
  have hlt:i<ls.length:=omg_
  have hgd:ls.getD i (ByteArray.empty,((0:j),(((0:j),(0:j)),((0:j),((0:j),(([]:u j),(([]:WL),((0:j),(0:j)))))))))=ls[i]:=by simp [List.getD,hlt]
  have ih:=jyN hzl hpl hcl hl (m:=m) (nm:=nm) (es:=es) (l3:=l3) n (i+1) (L++[ls[i].1]) omg_ sqo_
  obtain ⟨en,n1,n2⟩:=jkG (L:=L) omg_ ls[i].1
  obtain ⟨c,c1,c2⟩:=jyK (zs:=zs) (ps:=ps) (cs:=cs) (ss:=ss) hzl hpl hcl ls[i]
  rw [hL] at n2
  rw [j3i,jay]
  simp only [j0L,j2X,j39,j3a,show k ls.length=(ls.length:j) from rfl]
  rw [j00 (show (i:j)<(ls.length:j) by omega),j1o,j07 (x:=(i:j)+1)]
  simp only [jc,je,hgd,n1,ja]
  rw [j00 (show L.length+[ls[i].1].length≤j05 by simp [j05];omega)]
  simp only [jc,n2,ja]
  by_cases he:en=0
  ·subst he
   simp only [jm,jd,if_true]
   rw [show j1a (zs,(ps,(cs,ss))) (ls[i].1,(ls[i].2.1,((ls[i].2.2.1.1,ls[i].2.2.1.2),(ls[i].2.2.2.1,(ls[i].2.2.2.2.1,(ls[i].2.2.2.2.2.1,(ls[i].2.2.2.2.2.2.1,(ls[i].2.2.2.2.2.2.2.1,ls[i].2.2.2.2.2.2.2.2))))))))=_ from c1,
    show jex (zs,(ps,(cs,ss))) (ls[i].1,(ls[i].2.1,((ls[i].2.2.1.1,ls[i].2.2.1.2),(ls[i].2.2.2.1,(ls[i].2.2.2.2.1,(ls[i].2.2.2.2.2.1,(ls[i].2.2.2.2.2.2.1,(ls[i].2.2.2.2.2.2.2.1,ls[i].2.2.2.2.2.2.2.2))))))))=_ from c2]
   simp only [ja]
   by_cases hc:c=0
   ·subst hc
    simp only [jm,jd,j06]
    exact ih
   ·rw [show (c != 0)=p by simpa using hc]
    exact ⟨c,by rw [rE_n _ hc];rfl,by rw [rE_n _ hc];rfl⟩
  ·rw [show (en != 0)=p by simpa using he]
   exact ⟨en,by rw [rE_n _ he];rfl,by rw [rE_n _ he];rfl⟩
theorem jyO (hzl:zs.length≤100) (hpl:ps.length≤100) (hcl:cs.length≤100) (hl:ss.length≤100) (hx:∀ s∈ss,∀ x∈s.2.2,x.2.2.2.2≤9223372036854775807):∀ (n i:D) (L:u r),i+n=ss.length→L.length=i→
  ∃ e,j0F zs ps cs ss ss (ss.length:j) (i:j) (jb0 L)=l (rE () e)∧j78 (i:j) zs ps cs ss L=l (rE () e)
 | 0,i,L,hi,_=>by
  rw [j2u,jaA]
  simp only [j0y,j2Z,show k ss.length=(ss.length:j) from rfl]
  rw [j01 (show ¬ (i:j)<(ss.length:j) by omega)]
  simp only [jd,j08]
  exact ⟨0,rfl,rfl⟩
 | n+1,i,L,hi,hL=>by
  have hlt:i<ss.length:=omg_
  have hgd:ss.getD i (ByteArray.empty,(([]:u j0j),([]:u jbb)))=ss[i]:=by simp [List.getD,hlt]
  have ih:=jyO hzl hpl hcl hl hx n (i+1) (L++[ss[i].1]) omg_ sqo_
  have hxi:=hx _ (jx hlt)
  obtain ⟨en,n1,n2⟩:=jkG (L:=L) omg_ ss[i].1
  rw [hL] at n2
  rw [j2u,jaA]
  simp only [j0y,j2Z,j6X,j6Y,show k ss.length=(ss.length:j) from rfl]
  rw [j00 (show (i:j)<(ss.length:j) by omega),j1o,j07 (x:=(i:j)+1)]
  simp only [jc,je,hgd,n1,ja]
  rw [j00 (show L.length+[ss[i].1].length≤j05 by simp [j05];omega)]
  simp only [jc,n2,ja]
  by_cases he:en=0
  ·subst he
   simp only [jm,jd,if_true,j1e,show k ss[i].2.1.length=(ss[i].2.1.length:j) from rfl,show k ss[i].2.2.length=(ss[i].2.2.length:j) from rfl]
   by_cases hlim:(ss[i].2.1.length:j)>6∨(ss[i].2.2.length:j)>48
   ·have hb:(cond (o ((ss[i].2.1.length:j)>6)) p (o ((ss[i].2.2.length:j)>48)))=true:=by
     rcases hlim with h | h
     ·rw [j00 h];rfl
     ·rw [j00 h];cases o ((ss[i].2.1.length:j)>6)<;>rfl
    rw [hb]
    exact ⟨5,rfl,rfl⟩
   ·rw [j01 (fun h=>hlim (.inl h)),j01 (fun h=>hlim (.inr h))]
    simp only [jd]
    obtain ⟨e,e1,e2⟩:=jyN (zs:=zs) (ps:=ps) (cs:=cs) (ss:=ss) hzl hpl hcl (ls:=ss[i].2.1) omg_ (m:=(i:j)) (nm:=ss[i].1) (es:=ss[i].2.2) (l3:=L++[ss[i].1]) ss[i].2.1.length 0 [] omg_ rfl
    obtain ⟨c,c1,c2⟩:=jyM (zs:=zs) (ps:=ps) (cs:=cs) (ss:=ss) hpl (es:=ss[i].2.2) omg_ hxi (m:=(i:j)) (nm:=ss[i].1) (ls:=ss[i].2.1) (l3:=L++[ss[i].1]) ss[i].2.2.length 0 omg_
    rw [show ((0:D):j)=0 from rfl] at e1 e2 c1 c2
    have en:j2c ss[i].2.1 zs ps cs ss=l e:=by
     simp only [j2c,show k ss[i].2.1.length=(ss[i].2.1.length:j) from rfl]
     rw [show j0U zs ps cs ss ss[i].2.1 (ss[i].2.1.length:j) 0 []=_ from e1]
     by_cases h0:e=0
     ·subst h0;rfl
     ·rw [rE_n _ h0];rfl
    rw [en,e2]
    by_cases h0:e=0
    ·subst h0
     rw [rE_0]
     simp only [ja,jm,jd,j48,c1,c2]
     by_cases hc:c=0
     ·subst hc
      rw [rE_0,rE_0]
      simp only [ja,jm,jd,j48,j06]
      rw [j07 (x:=(i:j)+1)]
      exact ih
     ·rw [rE_n _ hc,rE_n _ hc]
      simp only [ja,j7F]
      rw [show (c != 0)=p by simpa using hc]
      exact ⟨c,by rw [rE_n _ hc];rfl,by rw [rE_n _ hc];rfl⟩
    ·rw [rE_n _ h0]
     simp only [ja,j7F]
     rw [show (e != 0)=p by simpa using h0]
     simp only [jc,ja]
     rw [show (e != 0)=p by simpa using h0]
     exact ⟨e,by rw [rE_n _ h0];rfl,by rw [rE_n _ h0];rfl⟩
  ·rw [show (en != 0)=p by simpa using he]
   exact ⟨en,by rw [rE_n _ he];rfl,by rw [rE_n _ he];rfl⟩
theorem jyP (hz:∀ z∈zs,ZF z) (hx:∀ s∈ss,∀ x∈s.2.2,x.2.2.2.2≤9223372036854775807):∃ e,j3B (zs,(ps,(cs,ss)))=l e∧jaB (zs,(ps,(cs,ss)))=l e:=by
 simp only [j3B,jaB,show k zs.length=(zs.length:j) from rfl,show k ps.length=(ps.length:j) from rfl,show k cs.length=(cs.length:j) from rfl,show k ss.length=(ss.length:j) from rfl]
 cases hb:(cond (cond (cond (o ((zs.length:j)>16)) p (o ((ps.length:j)>32))) p (o ((cs.length:j)>8))) p (o ((ss.length:j)>12))) with
 | true=>exact ⟨5,rfl,rfl⟩
 | false=>
  simp only [vp,vf,ko] at hb
  simp only [jd]
  obtain ⟨e,e1,e2⟩:=jvr (zs:=zs) (ps:=ps) (cs:=cs) (ss:=ss) hz omg_
  rw [e1,e2]
  simp only [ja]
  by_cases h0:e=0
  ·subst h0
   simp only [jm,jd]
   obtain ⟨c,c1,c2⟩:=jlW (zs:=zs) (ps:=ps) (cs:=cs) (ss:=ss) omg_ omg_
   rw [c1,c2]
   simp only [ja]
   by_cases h1:c=0
   ·subst h1
    obtain ⟨d,d1,d2⟩:=jwG (zs:=zs) (ps:=ps) (cs:=cs) (ss:=ss) omg_ omg_
    simp only [rE_0,j48,jm,jd,d1,d2,ja]
    by_cases h2:d=0
    ·subst h2
     simp only [jm,jd]
     obtain ⟨f,f1,f2⟩:=jyO (zs:=zs) (ps:=ps) (cs:=cs) (ss:=ss) omg_ omg_ omg_ omg_ hx ss.length 0 [] omg_ rfl
     rw [show ((0:D):j)=0 from rfl] at f1 f2
     refine ⟨f,?_,?_⟩
     ·simp only [j2v,show k ss.length=(ss.length:j) from rfl]
      rw [show j0F zs ps cs ss ss (ss.length:j) 0 []=_ from f1]
      by_cases hf:f=0
      ·subst hf;rfl
      ·rw [rE_n _ hf];rfl
     ·simp only [jdg,f2,ja]
      by_cases hf:f=0
      ·subst hf;rfl
      ·rw [rE_n _ hf];rfl
    ·rw [show (d != 0)=p by simpa using h2]
     exact ⟨d,rfl,rfl⟩
   ·rw [rE_n _ h1,show (c != 0)=p by simpa using h1]
    exact ⟨c,rfl,rfl⟩
  ·rw [show (e != 0)=p by simpa using h0]
   exact ⟨e,rfl,rfl⟩
end
end Go.Proofs.Pw
