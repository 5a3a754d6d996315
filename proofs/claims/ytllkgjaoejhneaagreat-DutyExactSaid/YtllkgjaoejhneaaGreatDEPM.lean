/- Chapter 8: checks of any configuration: names and zones. -/
import Derived.Test.YtllkgjaoejhneaaGreatDEPI
import Derived.Test.YtllkgjaoejhneaaGreatDEPL
import Derived.Test.YtllkgjaoejhneaaGreatDEPB
import Derived.Test.YtllkgjaoejhneaaGreatDEPE
open _root_ renaming Int->d,ByteArray->B,Nat->F,List->G,Unit->W
open Int renaming ofNat->y,tmod->H
open Option renaming some->A
open Decidable renaming decide->D
open ByteArray renaming empty->E,ext->R,mk->S
open Bool renaming true->I,false->K
open List renaming getD->J
open Go Go.Lft
namespace Go.Proofs.Pw
theorem jpj {s:B} (hs:s.size≤24):∀ (n i:F),i+n=s.size→∃ r:Bool ⊕ W,j9Q s (s.size:d) (i:d)=A r∧jdd s (i:d)=A r∧(r = .inl K∨r = .inr ())
 | 0,i,hi=>by
  rw [jdV,jft]
  simp only [j49,j5m,show y s.size=(s.size:d) from rfl]
  rw [j01 (show ¬ (i:d)<(s.size:d) by omega)]
  simp only [jd,j08]
  exact ⟨.inr (),rfl,rfl,.inr rfl⟩
 | n+1,i,hi=>by
  obtain ⟨r,r1,r2,r3⟩:=jpj hs n (i+1) omg_
  rw [jdV,jft]
  simp only [j49,j5m,jao,jfV,jjZ,ja,show y s.size=(s.size:d) from rfl]
  rw [j00 (show (i:d)<(s.size:d) by omega),j1o,j07 (x:=(i:d)+1)]
  simp only [jc,zu]
  by_cases ha:97≤j3J s i∧j3J s i≤122
  ·rw [j00 (show j3J s i≥97 from ha.1),j00 ha.2,j01 (show ¬ j3J s i<97 by omega),j01 (show ¬ j3J s i>122 by omega)]
   simp only [jc,jk,jd,j06]
   exact ⟨r,r1,r2,r3⟩
  ·have e:cond (D (j3J s i≥97)) (D (j3J s i≤122)) K=false:=by
    by_cases hx:j3J s i≥97
    ·rw [j00 hx,jc];exact j01 omg_
    ·rw [j01 hx,jd]
   have e':cond (D (j3J s i<97)) I (D (j3J s i>122))=true:=by
    by_cases hx:j3J s i<97
    ·rw [j00 hx,jc]
    ·rw [j01 hx,jd];exact j00 omg_
   rw [e,e']
   simp only [jt,jc]
   by_cases hb:48≤j3J s i∧j3J s i≤57
   ·rw [j00 (show j3J s i≥48 from hb.1),j00 hb.2]
    simp only [jc,jk,jd,j06]
    exact ⟨r,r1,r2,r3⟩
   ·have e2:cond (D (j3J s i≥48)) (D (j3J s i≤57)) K=false:=by
     by_cases hx:j3J s i≥48
     ·rw [j00 hx,jc];exact j01 omg_
     ·rw [j01 hx,jd]
    rw [e2]
    simp only [jt,jc]
    by_cases hc:j3J s i=95
    ·rw [show (j3J s i != 95)=K by rw [hc];rfl]
     simp only [jd,j06]
     exact ⟨r,r1,r2,r3⟩
    ·rw [show (j3J s i != 95)=I by simpa using hc]
     simp only [jc]
     by_cases hd:j3J s i=45
     ·rw [show (j3J s i != 45)=K by rw [hd];rfl]
      simp only [jd,j06]
      exact ⟨r,r1,r2,r3⟩
     ·rw [show (j3J s i != 45)=I by simpa using hd]
      simp only [jc,j08]
      exact ⟨.inl K,rfl,rfl,.inl rfl⟩
theorem jxl (s:B):∃ b,jcy s=A b∧jj7 s=A b:=by
 simp only [jcy,jj7,show y s.size=(s.size:d) from rfl]
 by_cases hz:s.size=0∨24<s.size
 ·have t1:cond (s.toList==ByteArray.empty.toList) I (D ((s.size:d)>24))=true:=by
   rcases hz with hz | hz
   ·have:s=ByteArray.empty:=R (Array.eq_empty_of_size_eq_zero hz)
    rw [this];simp
   ·rw [j00 (show (s.size:d)>24 by omega)]
    cases (s.toList==ByteArray.empty.toList)<;>rfl
  have t2:cond (D ((s.size:d)<1)) I (D ((s.size:d)>24))=true:=by
   rcases hz with hz | hz
   ·rw [j00 omg_];rfl
   ·rw [j00 (show (s.size:d)>24 by omega)]
    cases D ((s.size:d)<1)<;>rfl
  rw [t1,t2]
  simp only [jc,jk,jt,yf]
  exact ⟨K,rfl,rfl⟩
 ·have hne:s≠ByteArray.empty:=fun h=>hz (.inl (by rw [h];rfl))
  have hs1:1≤s.size:=omg_
  have hs2:s.size≤24:=omg_
  rw [jrG hne,j01 (show ¬ (s.size:d)>24 by omega),j01 (show ¬ (s.size:d)<1 by omega),j1o]
  simp only [jc,jd,zu,jao,ja]
  by_cases ha:97≤j3J s 0∧j3J s 0≤122
  ·obtain ⟨r,r1,r2,r3⟩:=jpj hs2 s.size 0 omg_
   rw [show ((0:F):d)=0 from rfl] at r1 r2
   rw [j00 (show j3J s 0≥97 from ha.1),j00 ha.2,j01 (show ¬ j3J s 0<97 by omega),j01 (show ¬ j3J s 0>122 by omega),r1,r2]
   rcases r3 with rfl | rfl
   ·exact ⟨K,rfl,rfl⟩
   ·exact ⟨I,rfl,rfl⟩
  ·have e:cond (D (j3J s 0≥97)) (D (j3J s 0≤122)) K=false:=by
    by_cases hx:j3J s 0≥97
    ·rw [j00 hx,jc];exact j01 omg_
    ·rw [j01 hx,jd]
   have e':cond (D (j3J s 0<97)) I (D (j3J s 0>122))=true:=by
    by_cases hx:j3J s 0<97
    ·rw [j00 hx,jc]
    ·rw [j01 hx,jd];exact j00 omg_
   rw [e,e']
   exact ⟨K,rfl,rfl⟩
theorem jvq {s:B}:∀ {l:G B},s∈l→jam K (jb0 l) s=I
 | [],h=>by simp at h
 | k::l,h=>by
  show cond (s==k) I (jam K (jb0 l) s)=I
  cases hb:(s==k) with
  | true=>rfl
  | false=>
   rw [jd]
   rcases jl.1 h with rfl | h
   ·have:=(MapKept.bytes_beq s s).2 rfl
    rw [hb] at this;simp at this
   ·exact jvq h
theorem jzQ {L:G B} {s:B} (hl:L.length≤1000):∀ (n k:F),k+n=L.length→∃ r:d ⊕ W,jde (L++[s]) (L.length:d) (k:d)=A r∧((s∈L.drop k→r = .inl 4)∧(s∉L.drop k→r = .inr ()))
 | 0,k,hk=>by
  rw [jfu,jj omg_]
  simp only [j5n]
  rw [j01 omg_,jd,j08]
  exact ⟨.inr (),rfl,fun h=>by simp at h,fun _=>rfl⟩
 | n+1,k,hk=>by
  have hlt:k<L.length:=omg_
  obtain ⟨r,r1,r2,r3⟩:=jzQ (s:=s) hl n (k+1) omg_
  have g1:(L++[s]).getD k E=L[k]:=by rw [List.getD_eq_getElem?_getD,List.getElem?_append_left hlt,jv hlt];rfl
  have g2:(L++[s]).getD L.length E=s:=by simp [J]
  rw [jfu,jh hlt]
  simp only [j5n]
  rw [j00 (show (k:d)<(L.length:d) by omega),j1v (n:=(L++[s]).length) (show (0:d)≤(k:d) by omega) sqo_,j1v (n:=(L++[s]).length) (show (0:d)≤(L.length:d) by omega) sqo_,j07 (x:=(k:d)+1)]
  simp only [jc,je,g1,g2]
  by_cases he:L[k]=s
  ·rw [he,qh,jc,j08]
   exact ⟨.inl 4,rfl,fun _=>rfl,fun h=>absurd smp_ h⟩
  ·rw [jrG he,jd,j06]
   refine ⟨r,r1,fun h=>r2 ?_,fun h=>r3 (fun hm=>h (z6 _ hm))⟩
   rcases jl.1 h with h | h
   ·exact absurd h.symm he
   ·exact h
theorem jkG {L:G B} (hl:L.length≤1000) (s:B):∃ e,j3H s (jb0 L)=A (e,jb0 (if e=0 then L++[s] else L))∧jbv (L++[s]) (L.length:d)=A e:=by
 obtain ⟨b,b1,b2⟩:=jxl s
 have g2:(L++[s]).getD L.length E=s:=by simp [J]
 simp only [j3H,jbv,b1,ja]
 rw [j1v (n:=(L++[s]).length) (show (0:d)≤(L.length:d) by omega) sqo_]
 simp only [jc,je,g2,b2,ja]
 cases b with
 | false=>
  simp only [jt,jc]
  exact ⟨2,rfl,rfl⟩
 | true=>
  simp only [jk,jd]
  obtain ⟨r,r1,r2,r3⟩:=jzQ (s:=s) hl L.length 0 omg_
  rw [jy] at r2 r3
  rw [show ((0:F):d)=0 from rfl] at r1
  rw [r1]
  by_cases hm:s∈L
  ·rw [jvq hm,r2 hm]
   exact ⟨4,rfl,rfl⟩
  ·obtain ⟨m1,m2⟩:=juD hm
   rw [m1,m2,r3 hm]
   exact ⟨0,rfl,rfl⟩
theorem jxm {nm:B} {o:d} {rs:G Rule} (hl:rs.length≤100000):∀ (n i:F) (b:Bool),i+n=rs.length→j8J b (i:d) nm o rs=A (b&&(rs.drop i).all fun r=>H r.2.2.2.2.2.2 60==0)
 | 0,i,b,hi=>by
  rw [jcH,jj omg_]
  simp only [j3V,show y rs.length=(rs.length:d) from rfl]
  rw [j01 omg_,jd,j08]
  simp
 | n+1,i,b,hi=>by
  have hlt:i<rs.length:=omg_
  have hgd:rs.getD i ((0:d),((0:d),((0:d),((0:d),((0:d),((0:d),(0:d)))))))=rs[i]:=by simp [J,hlt]
  have ih:=fun b=>jxm (nm:=nm) (o:=o) hl n (i+1) b omg_
  rw [jcH,jh hlt]
  simp only [j3V,show y rs.length=(rs.length:d) from rfl]
  rw [j00 (show (i:d)<(rs.length:d) by omega),j1o,j07 (x:=(i:d)+1)]
  simp only [jc,je,hgd,zu,j06,zj]
  refine (ih _).trans ?_
  cases b<;>simp
theorem jzR {rs:G Rule} (hl:rs.length≤100000):∀ (n i:F),i+n=rs.length→∃ q,((j0C rs (rs.length:d) (i:d)).bind fun q0=>sumC q0 (fun a=>A a) (fun _=>A (-1:d)))=A q∧D (q≥0) = !((rs.drop i).all fun r=>H r.2.2.2.2.2.2 60==0)
 | 0,i,hi=>by
  rw [j1N,jj omg_]
  simp only [j0i]
  rw [j01 omg_,jd,j08]
  exact ⟨-1,rfl,rfl⟩
 | n+1,i,hi=>by
  have hlt:i<rs.length:=omg_
  have hgd:rs.getD i ((0:d),((0:d),((0:d),((0:d),((0:d),((0:d),(0:d)))))))=rs[i]:=by simp [J,hlt]
  obtain ⟨q,q1,q2⟩:=jzR hl n (i+1) omg_
  rw [j1N,jh hlt]
  simp only [j0i,j6v]
  rw [j00 (show (i:d)<(rs.length:d) by omega),j1o,j07 (x:=(i:d)+1)]
  simp only [jc,je,hgd,ja,zj]
  by_cases h:H rs[i].2.2.2.2.2.2 60=0
  ·rw [h]
   simp only [jm,jd,j06,qh,vz]
   exact ⟨q,q1,q2⟩
  ·rw [show (H rs[i].2.2.2.2.2.2 60 != 0)=I by simpa using h,j2q h,jc,j08]
   exact ⟨(i:d),rfl,by rw [j00 omg_];rfl⟩
theorem jqO (z:j1l) (hl:ZF z):∃ e e1 b,j1D z=A e∧j5Z z=A e1∧j8q z=A b∧(e=if e1=0∧b=I then 0 else 8):=by
 obtain ⟨l,e1,t1,t2,_,_⟩:=jpi z hl.2
 have hl:=hl.1
 have c1:jcz (z.1,(z.2.1,z.2.2))=A e1:=by simp only [jcz,show j0M (z.1,(z.2.1,z.2.2))=_ from t1,ja]
 have c2:j5Z z=A e1:=by simp only [j5Z,show j0c (z.1,(z.2.1,z.2.2))=_ from t2,ja]
 have m:=jxm (nm:=z.1) (o:=z.2.1) hl z.2.2.length 0 (H z.2.1 60==0) omg_
 obtain ⟨q,q1,q2⟩:=jzR hl z.2.2.length 0 omg_
 rw [show ((0:F):d)=0 from rfl,jy] at m
 rw [show ((0:F):d)=0 from rfl] at q1
 rw [jy] at q2
 have hm:j8q z=A ((H z.2.1 60==0)&&z.2.2.all fun r=>H r.2.2.2.2.2.2 60==0):=by
  simp only [j8q,m,ja]
 have hc:j0D z.2.2=A (!(z.2.2.all fun r=>H r.2.2.2.2.2.2 60==0)):=by
  simp only [j0D,j1n,show y z.2.2.length=(z.2.2.length:d) from rfl]
  rw [q1]
  simp only [ja,q2]
 refine ⟨_,e1,_,?_,c2,hm,rfl⟩
 simp only [j1D,c1,ja,hc]
 by_cases he:e1=0
 ·subst he
  by_cases ho:H z.2.1 60=0
  ·rw [ho]
   cases (z.2.2.all fun r=>H r.2.2.2.2.2.2 60==0)<;>rfl
  ·rw [show (H z.2.1 60 != 0)=I by simpa using ho,j2q ho]
   rfl
 ·rw [show (e1 != 0)=I by simpa using he,if_neg (fun h=>he h.1)]
  rfl
theorem jyH {zs:G j1l} {ps:G j1s} {cs:G CalT} {ss:G j3z} (hz:∀ z∈zs,ZF z) (hl:zs.length≤100):∀ (n i:F) (L:G B),i+n=zs.length→L.length=i→
  ∃ r:d ⊕ W,j10 zs (zs.length:d) (i:d) (jb0 L)=A r∧jbw (i:d) zs ps cs ss L=A r∧r ≠ .inl 0
 | 0,i,L,hi,_=>by
  rw [j3A,jeu]
  simp only [j0P,j4M,show y zs.length=(zs.length:d) from rfl]
  rw [j01 (show ¬ (i:d)<(zs.length:d) by omega)]
  simp only [jd,j08]
  exact ⟨.inr (),rfl,rfl,smp_⟩
 | n+1,i,L,hi,hL=>by
  have hlt:i<zs.length:=omg_
  have hgd:zs.getD i (E,((0:d),([]:G Rule)))=zs[i]:=by simp [J,hlt]
  obtain ⟨e,n1,n2⟩:=jkG (L:=L) omg_ zs[i].1
  obtain ⟨ez,e1,b,z1,z2,z3,z4⟩:=jqO zs[i] (hz _ (jx hlt))
  rw [hL] at n2
  rw [j3A,jeu]
  simp only [j0P,j4M,j6U,show y zs.length=(zs.length:d) from rfl]
  rw [j00 (show (i:d)<(zs.length:d) by omega),j1o,j07 (x:=(i:d)+1)]
  simp only [jc,je,hgd,ja,n1]
  rw [j00 (show L.length+[zs[i].1].length≤j05 by simp [j05];omega)]
  simp only [jc,n2,ja]
  by_cases he:e=0
  ·subst he
   simp only [jm,jd,if_true]
   rw [show j1D (zs[i].1,(zs[i].2.1,zs[i].2.2))=_ from z1,show j5Z (zs[i].1,(zs[i].2.1,zs[i].2.2))=_ from z2]
   simp only [ja,zu,jc]
   by_cases h1:e1=0
   ·subst h1
    simp only [jm,jd]
    rw [show j8q (zs[i].1,(zs[i].2.1,zs[i].2.2))=_ from z3]
    simp only [ja]
    cases b with
    | true=>
     rw [if_pos ⟨rfl,rfl⟩] at z4
     subst z4
     obtain ⟨r,r1,r2,r3⟩:=jyH (ps:=ps) (cs:=cs) (ss:=ss) hz hl n (i+1) (L++[zs[i].1]) omg_ sqo_
     simp only [jm,jk,jd,j06]
     exact ⟨r,r1,r2,r3⟩
    | false=>
     rw [if_neg smp_] at z4
     subst z4
     exact ⟨.inl 8,rfl,rfl,smp_⟩
   ·rw [if_neg (fun h=>h1 h.1)] at z4
    subst z4
    rw [show (e1 != 0)=I by simpa using h1]
    exact ⟨.inl 8,rfl,rfl,smp_⟩
  ·rw [show (e != 0)=I by simpa using he]
   exact ⟨.inl e,rfl,rfl,fun h=>he (by injection h)⟩
theorem jvr {zs:G j1l} {ps:G j1s} {cs:G CalT} {ss:G j3z} (hz:∀ z∈zs,ZF z) (hl:zs.length≤100):∃ e,j2x zs=A e∧jgX (zs,(ps,(cs,ss)))=A e:=by
 obtain ⟨r,r1,r2,r3⟩:=jyH (ps:=ps) (cs:=cs) (ss:=ss) hz hl zs.length 0 [] omg_ rfl
 rw [show ((0:F):d)=0 from rfl] at r1 r2
 simp only [j2x,jgX,show y zs.length=(zs.length:d) from rfl]
 rw [show j10 zs (zs.length:d) 0 []=_ from r1,r2]
 cases r with
 | inl e=>exact ⟨e,rfl,rfl⟩
 | inr u=>exact ⟨0,rfl,rfl⟩
def cw (p:d):WL→d
 | []=>0
 | v::r=>if v.1<0∨v.1≥v.2∨v.2>604800 then 1 else if v.1<p then 6 else cw v.2 r
def cwP (w:WL) (i:F):Int:=if i=0 then 0 else (w.getD (i-1) (0,0)).2
theorem jwF (w:WL) (i:F):cwP w (i+1)=(w.getD i (0,0)).2:=by simp [cwP]
theorem jzS:∀ {w:WL} {p:d},p≤604800→cw p w=0→WOk p w
 | [],p,hp,_=>hp
 | v::r,p,hp,h=>by
  simp only [cw] at h
  split at h
  ·simp at h
  split at h
  ·simp at h
  exact ⟨omg_,omg_,omg_,jzS omg_ h⟩
def cwR (c:d):d ⊕ Unit:=if c=0 then .inr () else .inl c
theorem jpk {w:WL} (hl:w.length≤14):∀ (n i:F),i+n=w.length→j9R w w (w.length:d) (i:d)=A (cwR (cw (cwP w i) (w.drop i)))
 | 0,i,hi=>by
  rw [jdW,jj omg_]
  simp only [j4a]
  rw [j01 omg_,jd,j08];rfl
 | n+1,i,hi=>by
  have ih:=jpk hl n (i+1) omg_
  have hlt:i<w.length:=omg_
  have hgd:w.getD i ((0:d),(0:d))=w[i]:=by simp [hlt]
  rw [jdW,jh hlt]
  simp only [j4a]
  rw [j00 (show (i:d)<(w.length:d) by omega),j1o,j07 (x:=(i:d)+1)]
  simp only [jc,je,hgd,cw]
  rw [jwF,hgd] at ih
  by_cases c1:w[i].1<0∨w[i].1≥w[i].2∨w[i].2>604800
  ·rw [if_pos c1,show (cond (cond (D (w[i].1<0)) I (D (w[i].1≥w[i].2))) I (D (w[i].2>604800)))=I by simp only [vp,qs,jq];omega]
   simp only [jc,j08];rfl
  ·rw [if_neg c1,show (cond (cond (D (w[i].1<0)) I (D (w[i].1≥w[i].2))) I (D (w[i].2>604800)))=K by rw [qo];simp only [ne_eq,vp,qs,jq];omega]
   simp only [jd]
   by_cases h0:i=0
   ·subst h0
    rw [j01 omg_,if_neg (by simp [cwP];omega)]
    simp only [jd,j06]
    exact ih
   ·obtain ⟨j,rfl⟩:∃ j,i=j+1:=⟨i-1,omg_⟩
    rw [j00 omg_,j07 (x:=((j+1:F):d)-1),j1o,show (((j+1:F):d)-1).toNat=j by omega,jwF]
    simp only [jc]
    by_cases c2:w[j+1].1<(w.getD j (0,0)).2
    ·rw [j00 c2,if_pos c2,jc,j08];rfl
    ·rw [j01 c2,if_neg c2,jd,j06]
     exact ih
theorem jpl {w:WL} (hl:w.length≤14):∀ (n i:F),i+n=w.length→j7r w (i:d)=A (cwR (cw (cwP w i) (w.drop i)))
 | 0,i,hi=>by
  rw [j7U,jj omg_]
  simp only [j2F,show y w.length=(w.length:d) from rfl]
  rw [j01 omg_,jd,j08];rfl
 | n+1,i,hi=>by
  have ih:=jpl hl n (i+1) omg_
  have hlt:i<w.length:=omg_
  have hgd:w.getD i ((0:d),(0:d))=w[i]:=by simp [hlt]
  rw [j7U,jh hlt]
  simp only [j2F,show y w.length=(w.length:d) from rfl]
  rw [j00 (show (i:d)<(w.length:d) by omega),j1o,j07 (x:=(i:d)+1)]
  simp only [jc,je,hgd,cw]
  rw [jwF,hgd] at ih
  by_cases a1:w[i].1<0
  ·rw [j00 a1,if_pos (Or.inl a1),jc,j08];rfl
  by_cases a2:w[i].1≥w[i].2
  ·rw [j01 a1,j00 a2,if_pos (Or.inr (Or.inl a2)),jc,jd,j08];rfl
  by_cases a3:w[i].2>604800
  ·rw [j01 a1,j01 a2,j00 a3,if_pos (Or.inr (Or.inr a3)),jc,jd,jd,j08];rfl
  rw [j01 a1,j01 a2,j01 a3,if_neg omg_]
  simp only [jd]
  by_cases h0:i=0
  ·subst h0
   rw [j01 omg_,if_neg (by simp [cwP];omega)]
   simp only [jd,j06]
   exact ih
  ·obtain ⟨j,rfl⟩:∃ j,i=j+1:=⟨i-1,omg_⟩
   rw [j00 omg_,j07 (x:=((j+1:F):d)-1),j1v (show (0:d)≤((j+1:F):d)-1 by omega) omg_,show (((j+1:F):d)-1).toNat=j by omega,jwF]
   simp only [jc]
   by_cases c2:w[j+1].1<(w.getD j (0,0)).2
   ·rw [j00 c2,if_pos c2,jc,j08];rfl
   ·rw [j01 c2,if_neg c2,jd,j06]
    exact ih
theorem jkH (w:WL):∃ c,jaf w=A c∧j60 w=A c∧(c=0→WOk 0 w∧w.length≤14):=by
 by_cases hl:w.length>14
 ·refine ⟨5,?_,?_,omg_⟩
  ·simp only [jaf,show y w.length=(w.length:d) from rfl]
   rw [j00 omg_,jc]
  ·simp only [j60,show y w.length=(w.length:d) from rfl]
   rw [j00 omg_,jc]
 ·refine ⟨cw 0 w,?_,?_,fun h=>⟨jzS omg_ h,omg_⟩⟩
  ·have:=jpk (w:=w) omg_ w.length 0 omg_
   rw [show ((0:F):d)=0 from rfl,jy,show cwP w 0=0 from rfl] at this
   simp only [jaf,show y w.length=(w.length:d) from rfl]
   rw [j01 omg_,jd,this]
   simp only [cwR]
   split
   ·next h=>simp [h,sumC]
   ·rfl
  ·have:=jpl (w:=w) omg_ w.length 0 omg_
   rw [show ((0:F):d)=0 from rfl,jy,show cwP w 0=0 from rfl] at this
   simp only [j60,show y w.length=(w.length:d) from rfl]
   rw [j01 omg_,jd,this]
   simp only [cwR]
   split
   ·next h=>simp [h,sumC]
   ·rfl
def rE {α:Type} (u:α) (e:d):d ⊕ α:=if e=0 then .inr u else .inl e
theorem rE_0 {α:Type} (u:α):rE u 0 = .inr u:=rfl
theorem rE_n {α:Type} (u:α) {e:d} (h:e≠0):rE u e = .inl e:=if_neg h
theorem jgs (i:d) {n:F} (hn:n≤1000000):∃ b,j1f i (n:d)=A b∧j6t i 0 (w64 ((n:d)-1))=A b:=by
 refine ⟨_,rfl,?_⟩
 simp only [j6t]
 rw [j07 (x:=(n:d)-1),show D (i≤(n:d)-1)=D (i<(n:d)) from decide_eq_decide.2 omg_]
section
variable {zs:G j1l} {ps:G j1s} {cs:G CalT} {ss:G j3z}
theorem jzT (hzl:zs.length≤100) (hl:ps.length≤100):∀ (n i:F) (L:G B),i+n=ps.length→L.length=i→
  ∃ e,j5j ps (ps.length:d) (i:d) zs ps cs ss (jb0 L)=A (rE (zs,ps,cs,ss) e)∧j9V (i:d) zs ps cs ss L=A (rE () e)
 | 0,i,L,hi,_=>by
  rw [jaq,jdZ]
  simp only [j2P,j4j,show y ps.length=(ps.length:d) from rfl]
  rw [j01 (show ¬ (i:d)<(ps.length:d) by omega)]
  simp only [jd,j08]
  exact ⟨0,rfl,rfl⟩
 | n+1,i,L,hi,hL=>by
  have hlt:i<ps.length:=omg_
  have hgd:ps.getD i (E,((0:d),(([]:WL),((0:d),((0:d),K)))))=ps[i]:=by simp [J,hlt]
  have ih:=jzT hzl hl n (i+1) (L++[ps[i].1]) omg_ sqo_
  obtain ⟨en,n1,n2⟩:=jkG (L:=L) omg_ ps[i].1
  obtain ⟨b,b1,b2⟩:=jgs ps[i].2.1 (n:=zs.length) omg_
  obtain ⟨c,c1,c2,_⟩:=jkH ps[i].2.2.1
  obtain ⟨h1,q1⟩:∃ h1,j56 ps[i].2.2.2.1=A h1:=⟨_,rfl⟩
  have q2:jev ps[i].2.2.2.1=A h1:=q1
  obtain ⟨h2,q3⟩:∃ h2,j56 ps[i].2.2.2.2.1=A h2:=⟨_,rfl⟩
  have q4:jev ps[i].2.2.2.2.1=A h2:=q3
  rw [hL] at n2
  rw [jaq,jdZ]
  simp only [j2P,j4j,show y ps.length=(ps.length:d) from rfl]
  rw [j00 (show (i:d)<(ps.length:d) by omega),j1o,j07 (x:=(i:d)+1)]
  simp only [jc,je,hgd,n1,ja]
  rw [j00 (show L.length+[ps[i].1].length≤j05 by simp [j05];omega)]
  simp only [jc,n2,ja]
  cases (ps[i].1.toList==(S #[110,111,98,111,100,121]).toList) with
  | true=>exact ⟨2,rfl,rfl⟩
  | false=>
   simp only [jd]
   by_cases he:en=0
   ·subst he
    simp only [qh,jc,jm,jd,if_true]
    have hcp:j3Q (zs,(ps,(cs,ss))) (ps[i].1,(ps[i].2.1,(ps[i].2.2.1,(ps[i].2.2.2.1,(ps[i].2.2.2.2.1,ps[i].2.2.2.2.2)))))=cond (!b) (A 3) (cond (c != 0) (A 8) (cond (!h1) (A 1) (cond (!h2) (A 1) (A 0)))):=by
     simp only [j3Q,show y zs.length=(zs.length:d) from rfl,b1,c1,q1,q3,ja]
    rw [hcp]
    simp only [show y zs.length=(zs.length:d) from rfl,b2,c2,q2,q4,ja]
    cases b with
    | false=>exact ⟨3,rfl,rfl⟩
    | true=>
     simp only [jk,jd]
     cases (c != 0) with
     | true=>exact ⟨8,rfl,rfl⟩
     | false=>
      simp only [jd]
      cases h1 with
      | false=>exact ⟨1,rfl,rfl⟩
      | true=>
       cases h2 with
       | false=>exact ⟨1,rfl,rfl⟩
       | true=>
        obtain ⟨e,e1,e2⟩:=ih
        exact ⟨e,e1,e2⟩
   ·rw [j2q he,show (en != 0)=I by simpa using he]
    exact ⟨en,by rw [rE_n _ he];rfl,by rw [rE_n _ he];rfl⟩
theorem jlW (hzl:zs.length≤100) (hl:ps.length≤100):∃ e,j5j ps (ps.length:d) 0 zs ps cs ss []=A (rE (zs,ps,cs,ss) e)∧jfa (zs,(ps,(cs,ss)))=A e:=by
 obtain ⟨e,e1,e2⟩:=jzT (zs:=zs) (ps:=ps) (cs:=cs) (ss:=ss) hzl hl ps.length 0 [] omg_ rfl
 rw [show ((0:F):d)=0 from rfl] at e1 e2
 refine ⟨e,e1,?_⟩
 simp only [jfa,e2,ja]
 by_cases he:e=0
 ·subst he;rfl
 ·rw [rE_n _ he];rfl
theorem jzU {ds:G d} (hl:ds.length≤100000) {m:d} {nm:B} {z:d} {l3:G B}:∀ (n i:F),i+n=ds.length→∃ q e,((j1A ds (ds.length:d) (i:d)).bind fun q0=>sumC q0 (fun a=>A a) (fun _=>A (-1:d)))=A q∧
   j73 m (i:d) zs ps cs ss nm z ds l3=A (rE (m,zs,ps,cs,ss,nm,z,ds,l3) e)∧(e=if q≥0 then 1 else 0)
 | 0,i,hi=>by
  rw [j1O,jav]
  simp only [j0v,j2U,show y ds.length=(ds.length:d) from rfl]
  rw [j01 (show ¬ (i:d)<(ds.length:d) by omega)]
  simp only [jd,j08]
  exact ⟨-1,0,rfl,rfl,rfl⟩
 | n+1,i,hi=>by
  have hlt:i<ds.length:=omg_
  have hgd:ds.getD i (0:d)=ds[i]:=by simp [J,hlt]
  obtain ⟨q,e,q1,q2,q3⟩:=jzU hl n (i+1) omg_
  rw [j1O,jav]
  simp only [j0v,j2U,j37,show y ds.length=(ds.length:d) from rfl]
  rw [j00 (show (i:d)<(ds.length:d) by omega),j1o,j07 (x:=(i:d)+1)]
  simp only [jc,je,hgd,jeS,jvd,ja,j6t]
  by_cases h0:0≤ds[i]
  ·by_cases h1:ds[i]≤98980
   ·rw [j00 h0,j00 h1]
    exact ⟨q,e,q1,q2,q3⟩
   ·rw [j00 h0,j01 h1]
    exact ⟨(i:d),1,rfl,rfl,by rw [if_pos omg_]⟩
  ·rw [j01 h0]
   exact ⟨(i:d),1,rfl,rfl,by rw [if_pos omg_]⟩
theorem jyI {ds:G d} (hl:ds.length≤100000) {m:d} {nm:B} {z:d} {l3:G B}:∀ (n i:F),i+1+n=ds.length∨(ds.length=0∧n=0∧i=0)→∃ e,
   j1x (ds.length:d) ((i+1:F):d) nm z ds=A (rE () e)∧j74 m ((i+1:F):d) zs ps cs ss nm z ds l3=A (rE (m,zs,ps,cs,ss,l3) e)
 | 0,i,hi=>by
  rw [j17,jaw]
  simp only [j0n,j2V,show y ds.length=(ds.length:d) from rfl]
  rw [j01 (show ¬ ((i+1:F):d)<(ds.length:d) by omega)]
  simp only [jd,j08]
  exact ⟨0,rfl,rfl⟩
 | n+1,i,hi=>by
  have hlt:i+1<ds.length:=omg_
  obtain ⟨e,e1,e2⟩:=jyI (m:=m) (nm:=nm) (z:=z) (l3:=l3) hl n (i+1) omg_
  rw [j17,jaw]
  simp only [j0n,j2V,show y ds.length=(ds.length:d) from rfl]
  rw [j00 (show ((i+1:F):d)<(ds.length:d) by omega),j00 (show ((i+1:F):d)>0 by omega),j07 (x:=((i+1:F):d)-1),j07 (x:=((i+1:F):d)+1),
   j1v (show (0:d)≤((i+1:F):d) by omega) omg_,j1v (show (0:d)≤((i+1:F):d)-1 by omega) omg_]
  simp only [jc]
  cases D (ds.getD ((i+1:F):d).toNat 0≤ds.getD (((i+1:F):d)-1).toNat 0) with
  | true=>exact ⟨6,rfl,rfl⟩
  | false=>
   simp only [jd,j06]
   exact ⟨e,e1,e2⟩
theorem jyJ (hzl:zs.length≤100) (hl:cs.length≤100):∀ (n i:F) (L:G B),i+n=cs.length→L.length=i→
  ∃ e,j0E zs ps cs ss cs (cs.length:d) (i:d) (jb0 L)=A (rE () e)∧j75 (i:d) zs ps cs ss L=A (rE () e)
 | 0,i,L,hi,_=>by
  rw [j2t,jax]
  simp only [j0x,j2W,show y cs.length=(cs.length:d) from rfl]
  rw [j01 (show ¬ (i:d)<(cs.length:d) by omega)]
  simp only [jd,j08]
  exact ⟨0,rfl,rfl⟩
 | n+1,i,L,hi,hL=>by
  have hlt:i<cs.length:=omg_
  have hgd:cs.getD i (E,((0:d),([]:G d)))=cs[i]:=by simp [J,hlt]
  have ih:=jyJ hzl hl n (i+1) (L++[cs[i].1]) omg_ sqo_
  obtain ⟨en,n1,n2⟩:=jkG (L:=L) omg_ cs[i].1
  obtain ⟨b,b1,b2⟩:=jgs cs[i].2.1 (n:=zs.length) omg_
  rw [hL] at n2
  rw [j2t,jax]
  simp only [j0x,j2W,j6V,j6W,show y cs.length=(cs.length:d) from rfl]
  rw [j00 (show (i:d)<(cs.length:d) by omega),j1o,j07 (x:=(i:d)+1)]
  simp only [jc,je,hgd,n1,ja]
  rw [j00 (show L.length+[cs[i].1].length≤j05 by simp [j05];omega)]
  simp only [jc,n2,ja]
  by_cases he:en=0
  ·subst he
   simp only [jm,jd,if_true,j1c,show y zs.length=(zs.length:d) from rfl,b1,b2,ja]
   cases b with
   | false=>exact ⟨3,rfl,rfl⟩
   | true=>
    simp only [jk,jd,show y cs[i].2.2.length=(cs[i].2.2.length:d) from rfl]
    by_cases h64:(cs[i].2.2.length:d)>64
    ·rw [j00 h64]
     exact ⟨5,rfl,rfl⟩
    ·rw [j01 h64]
     simp only [jd]
     obtain ⟨q,e,q1,q2,q3⟩:=jzU (zs:=zs) (ps:=ps) (cs:=cs) (ss:=ss) (ds:=cs[i].2.2) (m:=(i:d)) (nm:=cs[i].1) (z:=cs[i].2.1) (l3:=L++[cs[i].1]) omg_ cs[i].2.2.length 0 omg_
     rw [show ((0:F):d)=0 from rfl] at q1 q2
     have hcf:j16 cs[i].2.2=A (D (q≥0)):=by
      simp only [j16,j38,show y cs[i].2.2.length=(cs[i].2.2.length:d) from rfl]
      rw [q1];rfl
     rw [hcf,q2]
     by_cases hq:q≥0
     ·rw [if_pos hq] at q3
      subst q3
      rw [j00 hq]
      exact ⟨1,rfl,rfl⟩
     ·rw [if_neg hq] at q3
      subst q3
      rw [j01 hq,rE_0]
      simp only [ja,jd,j48]
      obtain ⟨e,e1,e2⟩:=jyI (zs:=zs) (ps:=ps) (cs:=cs) (ss:=ss) (ds:=cs[i].2.2) (m:=(i:d)) (nm:=cs[i].1) (z:=cs[i].2.1) (l3:=L++[cs[i].1]) omg_ (cs[i].2.2.length-1) 0 omg_
      rw [show ((0+1:F):d)=1 from rfl] at e1 e2
      have e0:j1x (cs[i].2.2.length:d) 0 cs[i].1 cs[i].2.1 cs[i].2.2=A (rE () e):=by
       rw [j17]
       simp only [j0n]
       by_cases hp:(0:d)<(cs[i].2.2.length:d)
       ·rw [j00 hp,j01 (show ¬ (0:d)>0 by omega)]
        simp only [jc,jd,j06]
        exact e1
       ·rw [j17] at e1
        simp only [j0n] at e1
        rw [j01 (show ¬ (1:d)<(cs[i].2.2.length:d) by omega)] at e1
        rw [j01 hp]
        exact e1
      rw [e0,e2]
      simp only [ja]
      by_cases h0:e=0
      ·subst h0
       rw [rE_0,rE_0]
       simp only [j48,ja,jm,jd,j06]
       rw [j07 (x:=(i:d)+1)]
       exact ih
      ·rw [rE_n _ h0,rE_n _ h0]
       refine ⟨e,?_,?_⟩
       ·rw [rE_n _ h0]
        simp only [j7F,ja]
        rw [show (e != 0)=I by simpa using h0]
        rfl
       ·rw [rE_n _ h0];rfl
  ·rw [show (en != 0)=I by simpa using he]
   exact ⟨en,by rw [rE_n _ he];rfl,by rw [rE_n _ he];rfl⟩
theorem jwG (hzl:zs.length≤100) (hl:cs.length≤100):∃ e,j1L cs zs ps cs ss=A e∧j9W (zs,(ps,(cs,ss)))=A e:=by
 obtain ⟨e,e1,e2⟩:=jyJ (zs:=zs) (ps:=ps) (cs:=cs) (ss:=ss) hzl hl cs.length 0 [] omg_ rfl
 rw [show ((0:F):d)=0 from rfl] at e1 e2
 refine ⟨e,?_,?_⟩
 ·simp only [j1L,show y cs.length=(cs.length:d) from rfl]
  rw [show j0E zs ps cs ss cs (cs.length:d) 0 []=_ from e1]
  by_cases he:e=0
  ·subst he;rfl
  ·rw [rE_n _ he];rfl
 ·simp only [j9W,e2,ja]
  by_cases he:e=0
  ·subst he;rfl
  ·rw [rE_n _ he];rfl
end
end Go.Proofs.Pw
