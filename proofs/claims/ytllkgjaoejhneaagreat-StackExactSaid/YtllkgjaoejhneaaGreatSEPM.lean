/- eB 8: Af of any gh: names and Z5. -/
import Derived.Test.YtllkgjaoejhneaaGreatSEPI
import Derived.Test.YtllkgjaoejhneaaGreatSEPL
import Derived.Test.YtllkgjaoejhneaaGreatSEPB
import Derived.Test.YtllkgjaoejhneaaGreatSEPE
open _root_ renaming Int->d,ByteArray->B,Nat->F,List->G,Unit->W
open Int renaming ofNat->y,tmod->H
open Option renaming some->A
open Decidable renaming decide->D
open ByteArray renaming empty->E,ext->R,mk->S
open Bool renaming true->I,false->K
open List renaming getD->J
open Go Go.Lft
namespace Go.Proofs.Pw
theorem Z6{s:B}(hs:s.size<=24):∀(n i:F),i+n=s.size->∃r:Bool ⊕ W,Hi s (s.size:d) (i:d)=A r/\HQ s (i:d)=A r/\(r = .inl K\/r = .inr ())
 |0,i,hi=>by
  rw[Vg,VY];simp only[j4z,j5Z,show y s.size=(s.size:d) from rfl];rw[ak (show¬(i:d)<(s.size:d) by omega)];simp only[jd,ba];exact⟨.inr (),rfl,rfl,.inr rfl⟩
 |n+1,i,hi=>by
  obtain⟨r,r1,r2,r3⟩:=Z6 hs n (i+1) aa;rw[Vg,VY];simp only[j4z,j5Z,jbm,jh0,jlg,ja,show y s.size=(s.size:d) from rfl];rw[ah (show (i:d)<(s.size:d) by omega),bP,ar (x:=(i:d)+1)];simp only[jc,zv];by_cases ha:97<=dS s i/\dS s i<=122
  .rw[ah (show dS s i>=97 from ha.1),ah ha.2,ak (show¬dS s i<97 by omega),ak (show¬dS s i>122 by omega)];simp only[jc,jk,jd,aV];exact⟨r,r1,r2,r3⟩
  .have e:cond (D (dS s i>=97)) (D (dS s i<=122)) K=false:=by
    by_cases hx:dS s i>=97
    .rw[ah hx,jc];exact ak aa
    .rw[ak hx,jd]
   have e':cond (D (dS s i<97)) I (D (dS s i>122))=true:=by
    by_cases hx:dS s i<97
    .rw[ah hx,jc]
    .rw[ak hx,jd];exact ah aa
   rw[e,e'];simp only[jv,jc];by_cases hb:48<=dS s i/\dS s i<=57
   .rw[ah (show dS s i>=48 from hb.1),ah hb.2];simp only[jc,jk,jd,aV];exact⟨r,r1,r2,r3⟩
   .have e2:cond (D (dS s i>=48)) (D (dS s i<=57)) K=false:=by
     by_cases hx:dS s i>=48
     .rw[ah hx,jc];exact ak aa
     .rw[ak hx,jd]
    rw[e2];simp only[jv,jc];by_cases hc:dS s i=95
    .rw[show (dS s i != 95)=K by rw[hc];rfl];simp only[jd,aV];exact⟨r,r1,r2,r3⟩
    .rw[show (dS s i != 95)=I by simpa using hc];simp only[jc];by_cases hd:dS s i=45
     .rw[show (dS s i != 45)=K by rw[hd];rfl];simp only[jd,aV];exact⟨r,r1,r2,r3⟩
     .rw[show (dS s i != 45)=I by simpa using hd];simp only[jc,ba];exact⟨.inl K,rfl,rfl,.inl rfl⟩
theorem Z7(s:B):∃b,jdx s=A b/\jkr s=A b:=by
 simp only[jdx,jkr,show y s.size=(s.size:d) from rfl];by_cases hz:s.size=0\/24<s.size
 .have t1:cond (s.toList==ByteArray.empty.toList) I (D ((s.size:d)>24))=true:=by
   rcases hz with hz|hz
   .have:s=ByteArray.empty:=R (Array.eq_empty_of_size_eq_zero hz);rw[this];simp
   .rw[ah (show (s.size:d)>24 by omega)];cases (s.toList==ByteArray.empty.toList)<;>rfl
  have t2:cond (D ((s.size:d)<1)) I (D ((s.size:d)>24))=true:=by
   rcases hz with hz|hz
   .rw[ah aa];rfl
   .rw[ah (show (s.size:d)>24 by omega)];cases D ((s.size:d)<1)<;>rfl
  rw[t1,t2];simp only[jc,jk,jv,Bool.or_true];exact⟨K,rfl,rfl⟩
 .have br:s≠ByteArray.empty:=λh=>hz (.inl (by rw[h];rfl));have kJ:1<=s.size:=aa;have lM:s.size<=24:=aa;rw[Zy br,ak (show¬(s.size:d)>24 by omega),ak (show¬(s.size:d)<1 by omega),bP];simp only[jc,jd,zv,jbm,ja];by_cases ha:97<=dS s 0/\dS s 0<=122
  .obtain⟨r,r1,r2,r3⟩:=Z6 lM s.size 0 aa;rw[show ((0:F):d)=0 from rfl]at r1 r2;rw[ah (show dS s 0>=97 from ha.1),ah ha.2,ak (show¬dS s 0<97 by omega),ak (show¬dS s 0>122 by omega),r1,r2];rcases r3 with rfl|rfl
   .exact⟨K,rfl,rfl⟩
   .exact⟨I,rfl,rfl⟩
  .have e:cond (D (dS s 0>=97)) (D (dS s 0<=122)) K=false:=by
    by_cases hx:dS s 0>=97
    .rw[ah hx,jc];exact ak aa
    .rw[ak hx,jd]
   have e':cond (D (dS s 0<97)) I (D (dS s 0>122))=true:=by
    by_cases hx:dS s 0<97
    .rw[ah hx,jc]
    .rw[ak hx,jd];exact ah aa
   rw[e,e'];exact⟨K,rfl,rfl⟩
theorem Z8{s:B}:∀{l:G B},s∈l->gS K (nH l) s=I
 |[],h=>by simp at h
 |k::l,h=>by
  show cond (s==k) I (gS K (nH l) s)=I;cases hb:(s==k) with
  |true=>rfl
  |false=>
   rw[jd];rcases jl.1 h with rfl|h
   .have:=(MapKept.bytes_beq s s).2 rfl;rw[hb]at this;simp at this
   .exact Z8 h
theorem Z9{L:G B}{s:B}(hl:L.length<=1000):∀(n k:F),k+n=L.length->∃r:d ⊕ W,HR (L++[s]) (L.length:d) (k:d)=A r/\((s∈L.drop k->r = .inl 4)/\(s∉L.drop k->r = .inr ()))
 |0,k,hk=>by
  rw[VZ,jj aa];simp only[j60];rw[ak aa,jd,ba];exact⟨.inr (),rfl,λh=>by simp at h,λ_=>rfl⟩
 |n+1,k,hk=>by
  have au:k<L.length:=aa;obtain⟨r,r1,r2,r3⟩:=Z9 (s:=s) hl n (k+1) aa;have g1:(L++[s]).getD k E=L[k]:=by rw[List.getD_eq_getElem?_getD,List.getElem?_append_left au,kb au];rfl
  have g2:(L++[s]).getD L.length E=s:=by simp[J]
  rw[VZ,jh au];simp only[j60];rw[ah (show (k:d)<(L.length:d) by omega),cb (n:=(L++[s]).length) (show (0:d)<=(k:d) by omega) ay,cb (n:=(L++[s]).length) (show (0:d)<=(L.length:d) by omega) ay,ar (x:=(k:d)+1)];simp only[jc,je,g1,g2];by_cases he:L[k]=s
  .rw[he,ql,jc,ba];exact⟨.inl 4,rfl,λ_=>rfl,λh=>absurd af h⟩
  .rw[Zy he,jd,aV];refine⟨r,r1,λh=>r2 ?_,λh=>r3 (λhm=>h (qv _ hm))⟩;rcases jl.1 h with h|h
   .exact absurd h.symm he
   .exact h
theorem FK{L:G B}(hl:L.length<=1000)(s:B):∃e,j45 s (nH L)=A (e,nH (if e=0 then L++[s] else L))/\jcz (L++[s]) (L.length:d)=A e:=by
 obtain⟨b,b1,b2⟩:=Z7 s;have g2:(L++[s]).getD L.length E=s:=by simp[J]
 simp only[j45,jcz,b1,ja];rw[cb (n:=(L++[s]).length) (show (0:d)<=(L.length:d) by omega) ay];simp only[jc,je,g2,b2,ja];cases b with
 |false=>simp only[jv,jc];exact⟨2,rfl,rfl⟩
 |true=>
  simp only[jk,jd];obtain⟨r,r1,r2,r3⟩:=Z9 (s:=s) hl L.length 0 aa;rw[jt]at r2 r3;rw[show ((0:F):d)=0 from rfl]at r1;rw[r1];by_cases hm:s∈L
  .rw[Z8 hm,r2 hm];exact⟨4,rfl,rfl⟩
  .obtain⟨m1,m2⟩:=Xz hm;rw[m1,m2,r3 hm];exact⟨0,rfl,rfl⟩
theorem _a{nm:B}{o:d}{rs:G aH}(hl:rs.length<=100000):∀(n i:F)(b:Bool),i+n=rs.length->HX b (i:d) nm o rs=A (b&&(rs.drop i).all λr=>H r.2.2.2.2.2.2 60==0)
 |0,i,b,hi=>by
  rw[V6,jj aa];simp only[j4o,show y rs.length=(rs.length:d) from rfl];rw[ak aa,jd,ba];simp
 |n+1,i,b,hi=>by
  have au:i<rs.length:=aa;have bm:rs.getD i ((0:d),((0:d),((0:d),((0:d),((0:d),((0:d),(0:d)))))))=rs[i]:=by simp[J,au]
  have ih:=λb=>_a (nm:=nm) (o:=o) hl n (i+1) b aa;rw[V6,jh au];simp only[j4o,show y rs.length=(rs.length:d) from rfl];rw[ah (show (i:d)<(rs.length:d) by omega),bP,ar (x:=(i:d)+1)];simp only[jc,je,bm,zv,aV,zo];refine(ih _).trans ?_;cases b<;>simp
theorem _b{rs:G aH}(hl:rs.length<=100000):∀(n i:F),i+n=rs.length->∃q,((Hq rs (rs.length:d) (i:d)).bind λq0=>sumC q0 (λa=>A a) (λ_=>A (-1:d)))=A q/\D (q>=0) = !((rs.drop i).all λr=>H r.2.2.2.2.2.2 60==0)
 |0,i,hi=>by
  rw[Vl,jj aa];simp only[j0j];rw[ak aa,jd,ba];exact⟨-1,rfl,rfl⟩
 |n+1,i,hi=>by
  have au:i<rs.length:=aa;have bm:rs.getD i ((0:d),((0:d),((0:d),((0:d),((0:d),((0:d),(0:d)))))))=rs[i]:=by simp[J,au]
  obtain⟨q,q1,q2⟩:=_b hl n (i+1) aa;rw[Vl,jh au];simp only[j0j,j7c];rw[ah (show (i:d)<(rs.length:d) by omega),bP,ar (x:=(i:d)+1)];simp only[jc,je,bm,ja,zo];by_cases h:H rs[i].2.2.2.2.2.2 60=0
  .rw[h];simp only[jm,jd,aV,ql,zw];exact⟨q,q1,q2⟩
  .rw[show (H rs[i].2.2.2.2.2.2 60 != 0)=I by simpa using h,cU h,jc,ba];exact⟨(i:d),rfl,by rw[ah aa];rfl⟩
theorem Q4(z:bS)(hl:ZF z):∃e e1 b,j1M z=A e/\j6F z=A e1/\j9r z=A b/\(e=if e1=0/\b=I then 0 else 8):=by
 obtain⟨l,e1,t1,t2,_,_⟩:=Z2 z hl.2;have hl:=hl.1;have c1:jdy (z.1,(z.2.1,z.2.2))=A e1:=by simp only[jdy,show j0P (z.1,(z.2.1,z.2.2))=_ from t1,ja]
 have c2:j6F z=A e1:=by simp only[j6F,show j0d (z.1,(z.2.1,z.2.2))=_ from t2,ja]
 have m:=_a (nm:=z.1) (o:=z.2.1) hl z.2.2.length 0 (H z.2.1 60==0) aa;obtain⟨q,q1,q2⟩:=_b hl z.2.2.length 0 aa;rw[show ((0:F):d)=0 from rfl,jt]at m;rw[show ((0:F):d)=0 from rfl]at q1;rw[jt]at q2;have hm:j9r z=A ((H z.2.1 60==0)&&z.2.2.all λr=>H r.2.2.2.2.2.2 60==0):=by simp only[j9r,m,ja]
 have hc:j0F z.2.2=A (!(z.2.2.all λr=>H r.2.2.2.2.2.2 60==0)):=by simp only[j0F,j1z,show y z.2.2.length=(z.2.2.length:d) from rfl];rw[q1];simp only[ja,q2]
 refine⟨_,e1,_,?_,c2,hm,rfl⟩;simp only[j1M,c1,ja,hc];by_cases he:e1=0
 .subst he;by_cases ho:H z.2.1 60=0
  .rw[ho];cases (z.2.2.all λr=>H r.2.2.2.2.2.2 60==0)<;>rfl
  .rw[show (H z.2.1 60 != 0)=I by simpa using ho,cU ho];rfl
 .rw[show (e1 != 0)=I by simpa using he,if_neg (λh=>he h.1)];rfl
theorem Q5{zs:G bS}{ps:G eu}{cs:G bq}{ss:G dC}(hz:∀z∈zs,ZF z)(hl:zs.length<=100):∀(n i:F)(L:G B),i+n=zs.length->L.length=i->
  ∃r:d ⊕ W,yW zs (zs.length:d) (i:d) (nH L)=A r/\HY (i:d) zs ps cs ss L=A r/\r ≠ .inl 0
 |0,i,L,hi,_=>by
  rw[Nc,V7];simp only[j0T,j5g,show y zs.length=(zs.length:d) from rfl];rw[ak (show¬(i:d)<(zs.length:d) by omega)];simp only[jd,ba];exact⟨.inr (),rfl,rfl,af⟩
 |n+1,i,L,hi,hL=>by
  have au:i<zs.length:=aa;have bm:zs.getD i (E,((0:d),([]:G aH)))=zs[i]:=by simp[J,au]
  obtain⟨e,n1,n2⟩:=FK (L:=L) aa zs[i].1;obtain⟨ez,e1,b,z1,z2,z3,z4⟩:=Q4 zs[i] (hz _ (ju au));rw[hL]at n2;rw[Nc,V7];simp only[j0T,j5g,j7J,show y zs.length=(zs.length:d) from rfl];rw[ah (show (i:d)<(zs.length:d) by omega),bP,ar (x:=(i:d)+1)];simp only[jc,je,bm,ja,n1];rw[ah (show L.length+[zs[i].1].length<=aF by simp[aF];omega)];simp only[jc,n2,ja];by_cases he:e=0
  .subst he;simp only[jm,jd,if_true];rw[show j1M (zs[i].1,(zs[i].2.1,zs[i].2.2))=_ from z1,show j6F (zs[i].1,(zs[i].2.1,zs[i].2.2))=_ from z2];simp only[ja,zv,jc];by_cases h1:e1=0
   .subst h1;simp only[jm,jd];rw[show j9r (zs[i].1,(zs[i].2.1,zs[i].2.2))=_ from z3];simp only[ja];cases b with
    |true=>rw[if_pos ⟨rfl,rfl⟩]at z4;subst z4;obtain⟨r,r1,r2,r3⟩:=Q5 (ps:=ps) (cs:=cs) (ss:=ss) hz hl n (i+1) (L++[zs[i].1]) aa ay;simp only[jm,jk,jd,aV];exact⟨r,r1,r2,r3⟩
    |false=>rw[if_neg af]at z4;subst z4;exact⟨.inl 8,rfl,rfl,af⟩
   .rw[if_neg (λh=>h1 h.1)]at z4;subst z4;rw[show (e1 != 0)=I by simpa using h1];exact⟨.inl 8,rfl,rfl,af⟩
  .rw[show (e != 0)=I by simpa using he];exact⟨.inl e,rfl,rfl,λh=>he (by injection h)⟩
theorem jxh{zs:G bS}{ps:G eu}{cs:G bq}{ss:G dC}(hz:∀z∈zs,ZF z)(hl:zs.length<=100):∃e,j2O zs=A e/\ji7 (zs,(ps,(cs,ss)))=A e:=by
 obtain⟨r,r1,r2,r3⟩:=Q5 (ps:=ps) (cs:=cs) (ss:=ss) hz hl zs.length 0 [] aa rfl;rw[show ((0:F):d)=0 from rfl]at r1 r2;simp only[j2O,ji7,show y zs.length=(zs.length:d) from rfl];rw[show yW zs (zs.length:d) 0 []=_ from r1,r2];cases r with
 |inl e=>exact⟨e,rfl,rfl⟩
 |inr u=>exact⟨0,rfl,rfl⟩
def cw(p:d):WL->d
 |[]=>0
 |v::r=>if v.1<0\/v.1>=v.2\/v.2>604800 then 1 else if v.1<p then 6 else cw v.2 r
def wY(w:WL)(i:F):Int:=if i=0 then 0 else (w.getD (i-1) (0,0)).2
theorem JO(w:WL)(i:F):wY w (i+1)=(w.getD i (0,0)).2:=by simp[wY]
theorem _c:∀{w:WL}{p:d},p<=604800->cw p w=0->gF p w
 |[],p,hp,_=>hp
 |v::r,p,hp,h=>by
  simp only[cw]at h;split at h
  .simp at h
  split at h
  .simp at h
  exact⟨aa,aa,aa,_c aa h⟩
def JP(c:d):d ⊕ Unit:=if c=0 then .inr () else .inl c
theorem _d{w:WL}(hl:w.length<=14):∀(n i:F),i+n=w.length->Hr w w (w.length:d) (i:d)=A (JP (cw (wY w i) (w.drop i)))
 |0,i,hi=>by
  rw[Vm,jj aa];simp only[j4A];rw[ak aa,jd,ba];rfl
 |n+1,i,hi=>by
  have ih:=_d hl n (i+1) aa;have au:i<w.length:=aa;have bm:w.getD i ((0:d),(0:d))=w[i]:=by simp[au]
  rw[Vm,jh au];simp only[j4A];rw[ah (show (i:d)<(w.length:d) by omega),bP,ar (x:=(i:d)+1)];simp only[jc,je,bm,cw];rw[JO,bm]at ih;by_cases c1:w[i].1<0\/w[i].1>=w[i].2\/w[i].2>604800
  .rw[if_pos c1,show (cond (cond (D (w[i].1<0)) I (D (w[i].1>=w[i].2))) I (D (w[i].2>604800)))=I by simp only[vu,qw,jr];omega];simp only[jc,ba];rfl
  .rw[if_neg c1,show (cond (cond (D (w[i].1<0)) I (D (w[i].1>=w[i].2))) I (D (w[i].2>604800)))=K by rw[qj];simp only[ne_eq,vu,qw,jr];omega];simp only[jd];by_cases h0:i=0
   .subst h0;rw[ak aa,if_neg (by simp[wY];omega)];simp only[jd,aV];exact ih
   .obtain⟨j,rfl⟩:∃j,i=j+1:=⟨i-1,aa⟩;rw[ah aa,ar (x:=((j+1:F):d)-1),bP,show (((j+1:F):d)-1).toNat=j by omega,JO];simp only[jc];by_cases c2:w[j+1].1<(w.getD j (0,0)).2
    .rw[ah c2,if_pos c2,jc,ba];rfl
    .rw[ak c2,if_neg c2,jd,aV];exact ih
theorem _e{w:WL}(hl:w.length<=14):∀(n i:F),i+n=w.length->BV w (i:d)=A (JP (cw (wY w i) (w.drop i)))
 |0,i,hi=>by
  rw[HZ,jj aa];simp only[j2Z,show y w.length=(w.length:d) from rfl];rw[ak aa,jd,ba];rfl
 |n+1,i,hi=>by
  have ih:=_e hl n (i+1) aa;have au:i<w.length:=aa;have bm:w.getD i ((0:d),(0:d))=w[i]:=by simp[au]
  rw[HZ,jh au];simp only[j2Z,show y w.length=(w.length:d) from rfl];rw[ah (show (i:d)<(w.length:d) by omega),bP,ar (x:=(i:d)+1)];simp only[jc,je,bm,cw];rw[JO,bm]at ih;by_cases a1:w[i].1<0
  .rw[ah a1,if_pos (Or.inl a1),jc,ba];rfl
  by_cases a2:w[i].1>=w[i].2
  .rw[ak a1,ah a2,if_pos (Or.inr (Or.inl a2)),jc,jd,ba];rfl
  by_cases a3:w[i].2>604800
  .rw[ak a1,ak a2,ah a3,if_pos (Or.inr (Or.inr a3)),jc,jd,jd,ba];rfl
  rw[ak a1,ak a2,ak a3,if_neg aa];simp only[jd];by_cases h0:i=0
  .subst h0;rw[ak aa,if_neg (by simp[wY];omega)];simp only[jd,aV];exact ih
  .obtain⟨j,rfl⟩:∃j,i=j+1:=⟨i-1,aa⟩;rw[ah aa,ar (x:=((j+1:F):d)-1),cb (show (0:d)<=((j+1:F):d)-1 by omega) aa,show (((j+1:F):d)-1).toNat=j by omega,JO];simp only[jc];by_cases c2:w[j+1].1<(w.getD j (0,0)).2
   .rw[ah c2,if_pos c2,jc,ba];rfl
   .rw[ak c2,if_neg c2,jd,aV];exact ih
theorem Q6(w:WL):∃c,jbd w=A c/\j6G w=A c/\(c=0->gF 0 w/\w.length<=14):=by
 by_cases hl:w.length>14
 .refine⟨5,?_,?_,aa⟩
  .simp only[jbd,show y w.length=(w.length:d) from rfl];rw[ah aa,jc]
  .simp only[j6G,show y w.length=(w.length:d) from rfl];rw[ah aa,jc]
 .refine⟨cw 0 w,?_,?_,λh=>⟨_c aa h,aa⟩⟩
  .have:=_d (w:=w) aa w.length 0 aa;rw[show ((0:F):d)=0 from rfl,jt,show wY w 0=0 from rfl]at this;simp only[jbd,show y w.length=(w.length:d) from rfl];rw[ak aa,jd,this];simp only[JP];split
   .next h=>simp[h,sumC]
   .rfl
  .have:=_e (w:=w) aa w.length 0 aa;rw[show ((0:F):d)=0 from rfl,jt,show wY w 0=0 from rfl]at this;simp only[j6G,show y w.length=(w.length:d) from rfl];rw[ak aa,jd,this];simp only[JP];split
   .next h=>simp[h,sumC]
   .rfl
def rE{α:Type}(u:α)(e:d):d ⊕ α:=if e=0 then .inr u else .inl e
theorem iG{α:Type}(u:α):rE u 0 = .inr u:=rfl
theorem cH{α:Type}(u:α){e:d}(h:e≠0):rE u e = .inl e:=if_neg h
theorem Ag(i:d){n:F}(hn:n<=1000000):∃b,j1h i (n:d)=A b/\j7a i 0 (w64 ((n:d)-1))=A b:=by
 refine⟨_,rfl,?_⟩;simp only[j7a];rw[ar (x:=(n:d)-1),show D (i<=(n:d)-1)=D (i<(n:d)) from decide_eq_decide.2 aa]
section
variable{zs:G bS}{ps:G eu}{cs:G bq}{ss:G dC}
theorem _g(fo:zs.length<=100)(hl:ps.length<=100):∀(n i:F)(L:G B),i+n=ps.length->L.length=i->
  ∃e,Eu ps (ps.length:d) (i:d) zs ps cs ss (nH L)=A (rE (zs,ps,cs,ss) e)/\H0 (i:d) zs ps cs ss L=A (rE () e)
 |0,i,L,hi,_=>by
  rw[Vp,V8];simp only[j3a,j4J,show y ps.length=(ps.length:d) from rfl];rw[ak (show¬(i:d)<(ps.length:d) by omega)];simp only[jd,ba];exact⟨0,rfl,rfl⟩
 |n+1,i,L,hi,hL=>by
  have au:i<ps.length:=aa;have bm:ps.getD i (E,((0:d),(([]:WL),((0:d),((0:d),K)))))=ps[i]:=by simp[J,au]
  have ih:=_g fo hl n (i+1) (L++[ps[i].1]) aa ay;obtain⟨en,n1,n2⟩:=FK (L:=L) aa ps[i].1;obtain⟨b,b1,b2⟩:=Ag ps[i].2.1 (n:=zs.length) aa;obtain⟨c,c1,c2,_⟩:=Q6 ps[i].2.2.1;obtain⟨h1,q1⟩:∃h1,j5z ps[i].2.2.2.1=A h1:=⟨_,rfl⟩;have q2:jfr ps[i].2.2.2.1=A h1:=q1;obtain⟨h2,q3⟩:∃h2,j5z ps[i].2.2.2.2.1=A h2:=⟨_,rfl⟩;have q4:jfr ps[i].2.2.2.2.1=A h2:=q3;rw[hL]at n2;rw[Vp,V8];simp only[j3a,j4J,show y ps.length=(ps.length:d) from rfl];rw[ah (show (i:d)<(ps.length:d) by omega),bP,ar (x:=(i:d)+1)];simp only[jc,je,bm,n1,ja];rw[ah (show L.length+[ps[i].1].length<=aF by simp[aF];omega)];simp only[jc,n2,ja];cases (ps[i].1.toList==(S #[110,111,98,111,100,121]).toList) with
  |true=>exact⟨2,rfl,rfl⟩
  |false=>
   simp only[jd];by_cases he:en=0
   .subst he;simp only[ql,jc,jm,jd,if_true];have YZ:j4g (zs,(ps,(cs,ss))) (ps[i].1,(ps[i].2.1,(ps[i].2.2.1,(ps[i].2.2.2.1,(ps[i].2.2.2.2.1,ps[i].2.2.2.2.2)))))=cond (!b) (A 3) (cond (c != 0) (A 8) (cond (!h1) (A 1) (cond (!h2) (A 1) (A 0)))):=by simp only[j4g,show y zs.length=(zs.length:d) from rfl,b1,c1,q1,q3,ja]
    rw[YZ];simp only[show y zs.length=(zs.length:d) from rfl,b2,c2,q2,q4,ja];cases b with
    |false=>exact⟨3,rfl,rfl⟩
    |true=>
     simp only[jk,jd];cases (c != 0) with
     |true=>exact⟨8,rfl,rfl⟩
     |false=>
      simp only[jd];cases h1 with
      |false=>exact⟨1,rfl,rfl⟩
      |true=>
       cases h2 with
       |false=>exact⟨1,rfl,rfl⟩
       |true=>obtain⟨e,e1,e2⟩:=ih;exact⟨e,e1,e2⟩
   .rw[cU he,show (en != 0)=I by simpa using he];exact⟨en,by rw[cH _ he];rfl,by rw[cH _ he];rfl⟩
theorem _i(fo:zs.length<=100)(hl:ps.length<=100):∃e,Eu ps (ps.length:d) 0 zs ps cs ss []=A (rE (zs,ps,cs,ss) e)/\jg8 (zs,(ps,(cs,ss)))=A e:=by
 obtain⟨e,e1,e2⟩:=_g (zs:=zs) (ps:=ps) (cs:=cs) (ss:=ss) fo hl ps.length 0 [] aa rfl;rw[show ((0:F):d)=0 from rfl]at e1 e2;refine⟨e,e1,?_⟩;simp only[jg8,e2,ja];by_cases he:e=0
 .subst he;rfl
 .rw[cH _ he];rfl
theorem _j{ds:G d}(hl:ds.length<=100000){m:d}{nm:B}{z:d}{l3:G B}:∀(n i:F),i+n=ds.length->∃q e,((Es ds (ds.length:d) (i:d)).bind λq0=>sumC q0 (λa=>A a) (λ_=>A (-1:d)))=A q/\
   H2 m (i:d) zs ps cs ss nm z ds l3=A (rE (m,zs,ps,cs,ss,nm,z,ds,l3) e)/\(e=if q>=0 then 1 else 0)
 |0,i,hi=>by
  rw[Hu,V9];simp only[j0w,j3i,show y ds.length=(ds.length:d) from rfl];rw[ak (show¬(i:d)<(ds.length:d) by omega)];simp only[jd,ba];exact⟨-1,0,rfl,rfl,rfl⟩
 |n+1,i,hi=>by
  have au:i<ds.length:=aa;have bm:ds.getD i (0:d)=ds[i]:=by simp[J,au]
  obtain⟨q,e,q1,q2,q3⟩:=_j hl n (i+1) aa;rw[Hu,V9];simp only[j0w,j3i,j3v,show y ds.length=(ds.length:d) from rfl];rw[ah (show (i:d)<(ds.length:d) by omega),bP,ar (x:=(i:d)+1)];simp only[jc,je,bm,wQ,QT,ja,j7a];by_cases h0:0<=ds[i]
  .by_cases h1:ds[i]<=98980
   .rw[ah h0,ah h1];exact⟨q,e,q1,q2,q3⟩
   .rw[ah h0,ak h1];exact⟨(i:d),1,rfl,rfl,by rw[if_pos aa]⟩
  .rw[ak h0];exact⟨(i:d),1,rfl,rfl,by rw[if_pos aa]⟩
theorem Q7{ds:G d}(hl:ds.length<=100000){m:d}{nm:B}{z:d}{l3:G B}:∀(n i:F),i+1+n=ds.length\/(ds.length=0/\n=0/\i=0)->∃e,
   BK (ds.length:d) ((i+1:F):d) nm z ds=A (rE () e)/\H3 m ((i+1:F):d) zs ps cs ss nm z ds l3=A (rE (m,zs,ps,cs,ss,l3) e)
 |0,i,hi=>by
  rw[BL,Wa];simp only[j0n,j3j,show y ds.length=(ds.length:d) from rfl];rw[ak (show¬((i+1:F):d)<(ds.length:d) by omega)];simp only[jd,ba];exact⟨0,rfl,rfl⟩
 |n+1,i,hi=>by
  have au:i+1<ds.length:=aa;obtain⟨e,e1,e2⟩:=Q7 (m:=m) (nm:=nm) (z:=z) (l3:=l3) hl n (i+1) aa;rw[BL,Wa];simp only[j0n,j3j,show y ds.length=(ds.length:d) from rfl]
  rw[ah (show ((i+1:F):d)<(ds.length:d) by omega),ah (show ((i+1:F):d)>0 by omega),ar (x:=((i+1:F):d)-1),ar (x:=((i+1:F):d)+1),
   cb (show (0:d)<=((i+1:F):d) by omega) aa,cb (show (0:d)<=((i+1:F):d)-1 by omega) aa]
  simp only[jc];cases D (ds.getD ((i+1:F):d).toNat 0<=ds.getD (((i+1:F):d)-1).toNat 0) with
  |true=>exact⟨6,rfl,rfl⟩
  |false=>simp only[jd,aV];exact⟨e,e1,e2⟩
theorem Q8(fo:zs.length<=100)(hl:cs.length<=100):∀(n i:F)(L:G B),i+n=cs.length->L.length=i->
  ∃e,yX zs ps cs ss cs (cs.length:d) (i:d) (nH L)=A (rE () e)/\H4 (i:d) zs ps cs ss L=A (rE () e)
 |0,i,L,hi,_=>by
  rw[Nd,Wb];simp only[j0z,j3k,show y cs.length=(cs.length:d) from rfl];rw[ak (show¬(i:d)<(cs.length:d) by omega)];simp only[jd,ba];exact⟨0,rfl,rfl⟩
 |n+1,i,L,hi,hL=>by
  have au:i<cs.length:=aa;have bm:cs.getD i (E,((0:d),([]:G d)))=cs[i]:=by simp[J,au]
  have ih:=Q8 fo hl n (i+1) (L++[cs[i].1]) aa ay;obtain⟨en,n1,n2⟩:=FK (L:=L) aa cs[i].1;obtain⟨b,b1,b2⟩:=Ag cs[i].2.1 (n:=zs.length) aa;rw[hL]at n2;rw[Nd,Wb];simp only[j0z,j3k,j7K,j7L,show y cs.length=(cs.length:d) from rfl];rw[ah (show (i:d)<(cs.length:d) by omega),bP,ar (x:=(i:d)+1)];simp only[jc,je,bm,n1,ja];rw[ah (show L.length+[cs[i].1].length<=aF by simp[aF];omega)];simp only[jc,n2,ja];by_cases he:en=0
  .subst he;simp only[jm,jd,if_true,j1q,show y zs.length=(zs.length:d) from rfl,b1,b2,ja];cases b with
   |false=>exact⟨3,rfl,rfl⟩
   |true=>
    simp only[jk,jd,show y cs[i].2.2.length=(cs[i].2.2.length:d) from rfl];by_cases Ac:(cs[i].2.2.length:d)>64
    .rw[ah Ac];exact⟨5,rfl,rfl⟩
    .rw[ak Ac];simp only[jd];obtain⟨q,e,q1,q2,q3⟩:=_j (zs:=zs) (ps:=ps) (cs:=cs) (ss:=ss) (ds:=cs[i].2.2) (m:=(i:d)) (nm:=cs[i].1) (z:=cs[i].2.1) (l3:=L++[cs[i].1]) aa cs[i].2.2.length 0 aa;rw[show ((0:F):d)=0 from rfl]at q1 q2;have Ah:j1k cs[i].2.2=A (D (q>=0)):=by simp only[j1k,j3w,show y cs[i].2.2.length=(cs[i].2.2.length:d) from rfl];rw[q1];rfl
     rw[Ah,q2];by_cases hq:q>=0
     .rw[if_pos hq]at q3;subst q3;rw[ah hq];exact⟨1,rfl,rfl⟩
     .rw[if_neg hq]at q3;subst q3;rw[ak hq,iG];simp only[ja,jd,lN];obtain⟨e,e1,e2⟩:=Q7 (zs:=zs) (ps:=ps) (cs:=cs) (ss:=ss) (ds:=cs[i].2.2) (m:=(i:d)) (nm:=cs[i].1) (z:=cs[i].2.1) (l3:=L++[cs[i].1]) aa (cs[i].2.2.length-1) 0 aa;rw[show ((0+1:F):d)=1 from rfl]at e1 e2
      have e0:BK (cs[i].2.2.length:d) 0 cs[i].1 cs[i].2.1 cs[i].2.2=A (rE () e):=by
       rw[BL];simp only[j0n];by_cases hp:(0:d)<(cs[i].2.2.length:d)
       .rw[ah hp,ak (show¬(0:d)>0 by omega)];simp only[jc,jd,aV];exact e1
       .rw[BL]at e1;simp only[j0n]at e1;rw[ak (show¬(1:d)<(cs[i].2.2.length:d) by omega)]at e1;rw[ak hp];exact e1
      rw[e0,e2];simp only[ja];by_cases h0:e=0
      .subst h0;rw[iG,iG];simp only[lN,ja,jm,jd,aV];rw[ar (x:=(i:d)+1)];exact ih
      .rw[cH _ h0,cH _ h0];refine⟨e,?_,?_⟩
       .rw[cH _ h0];simp only[pR,ja];rw[show (e != 0)=I by simpa using h0];rfl
       .rw[cH _ h0];rfl
  .rw[show (en != 0)=I by simpa using he];exact⟨en,by rw[cH _ he];rfl,by rw[cH _ he];rfl⟩
theorem jyL(fo:zs.length<=100)(hl:cs.length<=100):∃e,j1V cs zs ps cs ss=A e/\jaU (zs,(ps,(cs,ss)))=A e:=by
 obtain⟨e,e1,e2⟩:=Q8 (zs:=zs) (ps:=ps) (cs:=cs) (ss:=ss) fo hl cs.length 0 [] aa rfl;rw[show ((0:F):d)=0 from rfl]at e1 e2;refine⟨e,?_,?_⟩
 .simp only[j1V,show y cs.length=(cs.length:d) from rfl];rw[show yX zs ps cs ss cs (cs.length:d) 0 []=_ from e1];by_cases he:e=0
  .subst he;rfl
  .rw[cH _ he];rfl
 .simp only[jaU,e2,ja];by_cases he:e=0
  .subst he;rfl
  .rw[cH _ he];rfl
end
end Go.Proofs.Pw
