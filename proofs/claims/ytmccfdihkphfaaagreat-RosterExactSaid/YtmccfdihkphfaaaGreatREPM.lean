/- eP 8: AN of any gy: names and ω. -/
import Derived.Test.YtmccfdihkphfaaaGreatREPI
import Derived.Test.YtmccfdihkphfaaaGreatREPL
import Derived.Test.YtmccfdihkphfaaaGreatREPB
import Derived.Test.YtmccfdihkphfaaaGreatREPE
open _root_ renaming Int->d,ByteArray->B,Nat->G,List->H,Unit->X
open Int renaming ofNat->y,tmod->I
open Option renaming some->A
open Decidable renaming decide->D
open List renaming drop_of_length_le->E,getD->K
open ByteArray renaming empty->F,ext->S,mk->U
open Bool renaming true->J,false->M
open Go Go.Lft
namespace Go.Proofs.Pw
theorem ϊ{s:B}(hs:s.size<=24):∀(n i:G),i+n=s.size->∃r:Bool ⊕ X,Is s (s.size:d) (i:d)=A r/\Ja s (i:d)=A r/\(r = .inl M\/r = .inr ())
 |0,i,hi=>by
  rw[Xt,Yn];simp only[j51,j6E,show y s.size=(s.size:d) from rfl];rw[an (show¬(i:d)<(s.size:d) by omega)];simp only[j7,aW];exact⟨.inr (),rfl,rfl,.inr rfl⟩
 |n+1,i,hi=>by
  obtain⟨r,r1,r2,r3⟩:=ϊ hs n (i+1) aa;rw[Xt,Yn];simp only[j51,j6E,jcN,jj5,jnS,j4,show y s.size=(s.size:d) from rfl];rw[ag (show (i:d)<(s.size:d) by omega),bE,ar (x:=(i:d)+1)];simp only[j6,z8];by_cases ha:97<=dY s i/\dY s i<=122
  .rw[ag (show dY s i>=97 from ha.1),ag ha.2,an (show¬dY s i<97 by omega),an (show¬dY s i>122 by omega)];simp only[j6,jc,j7,aS];exact⟨r,r1,r2,r3⟩
  .have e:cond (D (dY s i>=97)) (D (dY s i<=122)) M=false:=by
    by_cases hx:dY s i>=97
    .rw[ag hx,j6];exact an aa
    .rw[an hx,j7]
   have e':cond (D (dY s i<97)) J (D (dY s i>122))=true:=by
    by_cases hx:dY s i<97
    .rw[ag hx,j6]
    .rw[an hx,j7];exact ag aa
   rw[e,e'];simp only[jp,j6];by_cases hb:48<=dY s i/\dY s i<=57
   .rw[ag (show dY s i>=48 from hb.1),ag hb.2];simp only[j6,jc,j7,aS];exact⟨r,r1,r2,r3⟩
   .have e2:cond (D (dY s i>=48)) (D (dY s i<=57)) M=false:=by
     by_cases hx:dY s i>=48
     .rw[ag hx,j6];exact an aa
     .rw[an hx,j7]
    rw[e2];simp only[jp,j6];by_cases hc:dY s i=95
    .rw[show (dY s i != 95)=M by rw[hc];rfl];simp only[j7,aS];exact⟨r,r1,r2,r3⟩
    .rw[show (dY s i != 95)=J by simpa using hc];simp only[j6];by_cases hd:dY s i=45
     .rw[show (dY s i != 45)=M by rw[hd];rfl];simp only[j7,aS];exact⟨r,r1,r2,r3⟩
     .rw[show (dY s i != 45)=J by simpa using hd];simp only[j6,aW];exact⟨.inl M,rfl,rfl,.inl rfl⟩
theorem ϋ(s:B):∃b,jf7 s=A b/\jmY s=A b:=by
 simp only[jf7,jmY,show y s.size=(s.size:d) from rfl];by_cases hz:s.size=0\/24<s.size
 .have t1:cond (s.toList==ByteArray.empty.toList) J (D ((s.size:d)>24))=true:=by
   rcases hz with hz|hz
   .have:s=ByteArray.empty:=S (Array.eq_empty_of_size_eq_zero hz);rw[this];simp
   .rw[ag (show (s.size:d)>24 by omega)];cases (s.toList==ByteArray.empty.toList)<;>rfl
  have t2:cond (D ((s.size:d)<1)) J (D ((s.size:d)>24))=true:=by
   rcases hz with hz|hz
   .rw[ag aa];rfl
   .rw[ag (show (s.size:d)>24 by omega)];cases D ((s.size:d)<1)<;>rfl
  rw[t1,t2];simp only[j6,jc,jp,yb];exact⟨M,rfl,rfl⟩
 .have br:s≠ByteArray.empty:=λh=>hz (.inl (by rw[h];rfl));have lb:1<=s.size:=aa;have mq:s.size<=24:=aa;rw[Η br,an (show¬(s.size:d)>24 by omega),an (show¬(s.size:d)<1 by omega),bE];simp only[j6,j7,z8,jcN,j4];by_cases ha:97<=dY s 0/\dY s 0<=122
  .obtain⟨r,r1,r2,r3⟩:=ϊ mq s.size 0 aa;rw[show ((0:G):d)=0 from rfl]at r1 r2;rw[ag (show dY s 0>=97 from ha.1),ag ha.2,an (show¬dY s 0<97 by omega),an (show¬dY s 0>122 by omega),r1,r2];rcases r3 with rfl|rfl
   .exact⟨M,rfl,rfl⟩
   .exact⟨J,rfl,rfl⟩
  .have e:cond (D (dY s 0>=97)) (D (dY s 0<=122)) M=false:=by
    by_cases hx:dY s 0>=97
    .rw[ag hx,j6];exact an aa
    .rw[an hx,j7]
   have e':cond (D (dY s 0<97)) J (D (dY s 0>122))=true:=by
    by_cases hx:dY s 0<97
    .rw[ag hx,j6]
    .rw[an hx,j7];exact ag aa
   rw[e,e'];exact⟨M,rfl,rfl⟩
theorem ό{s:B}:∀{l:H B},s∈l->hQ M (ow l) s=J
 |[],h=>by simp at h
 |k::l,h=>by
  show cond (s==k) J (hQ M (ow l) s)=J;cases hb:(s==k) with
  |true=>rfl
  |false=>
   rw[j7];rcases je.1 h with rfl|h
   .have:=(MapKept.bytes_beq s s).2 rfl;rw[hb]at this;simp at this
   .exact ό h
theorem ύ{L:H B}{s:B}(hl:L.length<=1000):∀(n k:G),k+n=L.length->∃r:d ⊕ X,Jb (L++[s]) (L.length:d) (k:d)=A r/\((s∈L.drop k->r = .inl 4)/\(s∉L.drop k->r = .inr ()))
 |0,k,hk=>by
  rw[Yo,E aa];simp only[j6F];rw[an aa,j7,aW];exact⟨.inr (),rfl,λh=>by simp at h,λ_=>rfl⟩
 |n+1,k,hk=>by
  have aq:k<L.length:=aa;obtain⟨r,r1,r2,r3⟩:=ύ (s:=s) hl n (k+1) aa;have g1:(L++[s]).getD k F=L[k]:=by rw[List.getD_eq_getElem?_getD,List.getElem?_append_left aq,jo aq];rfl
  have g2:(L++[s]).getD L.length F=s:=by simp[K]
  rw[Yo,jb aq];simp only[j6F];rw[ag (show (k:d)<(L.length:d) by omega),bU (n:=(L++[s]).length) (show (0:d)<=(k:d) by omega) az,bU (n:=(L++[s]).length) (show (0:d)<=(L.length:d) by omega) az,ar (x:=(k:d)+1)];simp only[j6,j8,g1,g2];by_cases he:L[k]=s
  .rw[he,kp,j6,aW];exact⟨.inl 4,rfl,λ_=>rfl,λh=>absurd ae h⟩
  .rw[Η he,j7,aS];refine⟨r,r1,λh=>r2 ?_,λh=>r3 (λhm=>h (qi _ hm))⟩;rcases je.1 h with h|h
   .exact absurd h.symm he
   .exact h
theorem GG{L:H B}(hl:L.length<=1000)(s:B):∃e,j4r s (ow L)=A (e,ow (if e=0 then L++[s] else L))/\je6 (L++[s]) (L.length:d)=A e:=by
 obtain⟨b,b1,b2⟩:=ϋ s;have g2:(L++[s]).getD L.length F=s:=by simp[K]
 simp only[j4r,je6,b1,j4];rw[bU (n:=(L++[s]).length) (show (0:d)<=(L.length:d) by omega) az];simp only[j6,j8,g2,b2,j4];cases b with
 |false=>simp only[jp,j6];exact⟨2,rfl,rfl⟩
 |true=>
  simp only[jc,j7];obtain⟨r,r1,r2,r3⟩:=ύ (s:=s) hl L.length 0 aa;rw[jk]at r2 r3;rw[show ((0:G):d)=0 from rfl]at r1;rw[r1];by_cases hm:s∈L
  .rw[ό hm,r2 hm];exact⟨4,rfl,rfl⟩
  .obtain⟨m1,m2⟩:=Z5 hm;rw[m1,m2,r3 hm];exact⟨0,rfl,rfl⟩
theorem ώ{nm:B}{o:d}{rs:H aL}(hl:rs.length<=100000):∀(n i:G)(b:Bool),i+n=rs.length->Ji b (i:d) nm o rs=A (b&&(rs.drop i).all λr=>I r.2.2.2.2.2.2 60==0)
 |0,i,b,hi=>by
  rw[Yv,E aa];simp only[j4J,show y rs.length=(rs.length:d) from rfl];rw[an aa,j7,aW];simp
 |n+1,i,b,hi=>by
  have aq:i<rs.length:=aa;have bc:rs.getD i ((0:d),((0:d),((0:d),((0:d),((0:d),((0:d),(0:d)))))))=rs[i]:=by simp[K,aq]
  have ih:=λb=>ώ (nm:=nm) (o:=o) hl n (i+1) b aa;rw[Yv,jb aq];simp only[j4J,show y rs.length=(rs.length:d) from rfl];rw[ag (show (i:d)<(rs.length:d) by omega),bE,ar (x:=(i:d)+1)];simp only[j6,j8,bc,z8,aS,zb];refine(ih _).trans ?_;cases b<;>simp
theorem Ϗ{rs:H aL}(hl:rs.length<=100000):∀(n i:G),i+n=rs.length->∃q,((IA rs (rs.length:d) (i:d)).bind λq0=>sumC q0 (λa=>A a) (λ_=>A (-1:d)))=A q/\D (q>=0) = !((rs.drop i).all λr=>I r.2.2.2.2.2.2 60==0)
 |0,i,hi=>by
  rw[Xy,E aa];simp only[j0l];rw[an aa,j7,aW];exact⟨-1,rfl,rfl⟩
 |n+1,i,hi=>by
  have aq:i<rs.length:=aa;have bc:rs.getD i ((0:d),((0:d),((0:d),((0:d),((0:d),((0:d),(0:d)))))))=rs[i]:=by simp[K,aq]
  obtain⟨q,q1,q2⟩:=Ϗ hl n (i+1) aa;rw[Xy,jb aq];simp only[j0l,j88];rw[ag (show (i:d)<(rs.length:d) by omega),bE,ar (x:=(i:d)+1)];simp only[j6,j8,bc,j4,zb];by_cases h:I rs[i].2.2.2.2.2.2 60=0
  .rw[h];simp only[jf,j7,aS,kp,qr];exact⟨q,q1,q2⟩
  .rw[show (I rs[i].2.2.2.2.2.2 60 != 0)=J by simpa using h,cG h,j6,aW];exact⟨(i:d),rfl,by rw[ag aa];rfl⟩
theorem SN(z:bH)(hl:ZF z):∃e e1 b,j1V z=A e/\j7v z=A e1/\jaz z=A b/\(e=if e1=0/\b=J then 0 else 8):=by
 obtain⟨l,e1,t1,t2,_,_⟩:=χ z hl.2;have hl:=hl.1;have c1:jf8 (z.1,(z.2.1,z.2.2))=A e1:=by simp only[jf8,show j0U (z.1,(z.2.1,z.2.2))=_ from t1,j4]
 have c2:j7v z=A e1:=by simp only[j7v,show j0e (z.1,(z.2.1,z.2.2))=_ from t2,j4]
 have m:=ώ (nm:=z.1) (o:=z.2.1) hl z.2.2.length 0 (I z.2.1 60==0) aa;obtain⟨q,q1,q2⟩:=Ϗ hl z.2.2.length 0 aa;rw[show ((0:G):d)=0 from rfl,jk]at m;rw[show ((0:G):d)=0 from rfl]at q1;rw[jk]at q2;have hm:jaz z=A ((I z.2.1 60==0)&&z.2.2.all λr=>I r.2.2.2.2.2.2 60==0):=by simp only[jaz,m,j4]
 have hc:j0J z.2.2=A (!(z.2.2.all λr=>I r.2.2.2.2.2.2 60==0)):=by simp only[j0J,j1E,show y z.2.2.length=(z.2.2.length:d) from rfl];rw[q1];simp only[j4,q2]
 refine⟨_,e1,_,?_,c2,hm,rfl⟩;simp only[j1V,c1,j4,hc];by_cases he:e1=0
 .subst he;by_cases ho:I z.2.1 60=0
  .rw[ho];cases (z.2.2.all λr=>I r.2.2.2.2.2.2 60==0)<;>rfl
  .rw[show (I z.2.1 60 != 0)=J by simpa using ho,cG ho];rfl
 .rw[show (e1 != 0)=J by simpa using he,if_neg (λh=>he h.1)];rfl
theorem SO{zs:H bH}{ps:H dr}{cs:H bd}{ss:H cN}(hz:∀z∈zs,ZF z)(hl:zs.length<=100):∀(n i:G)(L:H B),i+n=zs.length->L.length=i->
  ∃r:d ⊕ X,zZ zs (zs.length:d) (i:d) (ow L)=A r/\Jj (i:d) zs ps cs ss L=A r/\r ≠ .inl 0
 |0,i,L,hi,_=>by
  rw[Ox,Yw];simp only[j0Z,j5X,show y zs.length=(zs.length:d) from rfl];rw[an (show¬(i:d)<(zs.length:d) by omega)];simp only[j7,aW];exact⟨.inr (),rfl,rfl,ae⟩
 |n+1,i,L,hi,hL=>by
  have aq:i<zs.length:=aa;have bc:zs.getD i (F,((0:d),([]:H aL)))=zs[i]:=by simp[K,aq]
  obtain⟨e,n1,n2⟩:=GG (L:=L) aa zs[i].1;obtain⟨ez,e1,b,z1,z2,z3,z4⟩:=SN zs[i] (hz _ (jl aq));rw[hL]at n2;rw[Ox,Yw];simp only[j0Z,j5X,j8I,show y zs.length=(zs.length:d) from rfl];rw[ag (show (i:d)<(zs.length:d) by omega),bE,ar (x:=(i:d)+1)];simp only[j6,j8,bc,j4,n1];rw[ag (show L.length+[zs[i].1].length<=aG by simp[aG];omega)];simp only[j6,n2,j4];by_cases he:e=0
  .subst he;simp only[jf,j7,if_true];rw[show j1V (zs[i].1,(zs[i].2.1,zs[i].2.2))=_ from z1,show j7v (zs[i].1,(zs[i].2.1,zs[i].2.2))=_ from z2];simp only[j4,z8,j6];by_cases h1:e1=0
   .subst h1;simp only[jf,j7];rw[show jaz (zs[i].1,(zs[i].2.1,zs[i].2.2))=_ from z3];simp only[j4];cases b with
    |true=>rw[if_pos ⟨rfl,rfl⟩]at z4;subst z4;obtain⟨r,r1,r2,r3⟩:=SO (ps:=ps) (cs:=cs) (ss:=ss) hz hl n (i+1) (L++[zs[i].1]) aa az;simp only[jf,jc,j7,aS];exact⟨r,r1,r2,r3⟩
    |false=>rw[if_neg ae]at z4;subst z4;exact⟨.inl 8,rfl,rfl,ae⟩
   .rw[if_neg (λh=>h1 h.1)]at z4;subst z4;rw[show (e1 != 0)=J by simpa using h1];exact⟨.inl 8,rfl,rfl,ae⟩
  .rw[show (e != 0)=J by simpa using he];exact⟨.inl e,rfl,rfl,λh=>he (by injection h)⟩
theorem jAA{zs:H bH}{ps:H dr}{cs:H bd}{ss:H cN}(hz:∀z∈zs,ZF z)(hl:zs.length<=100):∃e,j34 zs=A e/\jkh (zs,(ps,(cs,ss)))=A e:=by
 obtain⟨r,r1,r2,r3⟩:=SO (ps:=ps) (cs:=cs) (ss:=ss) hz hl zs.length 0 [] aa rfl;rw[show ((0:G):d)=0 from rfl]at r1 r2;simp only[j34,jkh,show y zs.length=(zs.length:d) from rfl];rw[show zZ zs (zs.length:d) 0 []=_ from r1,r2];cases r with
 |inl e=>exact⟨e,rfl,rfl⟩
 |inr u=>exact⟨0,rfl,rfl⟩
def cw(p:d):WL->d
 |[]=>0
 |v::r=>if v.1<0\/v.1>=v.2\/v.2>604800 then 1 else if v.1<p then 6 else cw v.2 r
def xC(w:WL)(i:G):Int:=if i=0 then 0 else (w.getD (i-1) (0,0)).2
theorem K7(w:WL)(i:G):xC w (i+1)=(w.getD i (0,0)).2:=by simp[xC]
theorem ϐ:∀{w:WL}{p:d},p<=604800->cw p w=0->gO p w
 |[],p,hp,_=>hp
 |v::r,p,hp,h=>by
  simp only[cw]at h;split at h
  .simp at h
  split at h
  .simp at h
  exact⟨aa,aa,aa,ϐ aa h⟩
def K8(c:d):d ⊕ Unit:=if c=0 then .inr () else .inl c
theorem ϑ{w:WL}(hl:w.length<=14):∀(n i:G),i+n=w.length->IB w w (w.length:d) (i:d)=A (K8 (cw (xC w i) (w.drop i)))
 |0,i,hi=>by
  rw[Xz,E aa];simp only[j52];rw[an aa,j7,aW];rfl
 |n+1,i,hi=>by
  have ih:=ϑ hl n (i+1) aa;have aq:i<w.length:=aa;have bc:w.getD i ((0:d),(0:d))=w[i]:=by simp[aq]
  rw[Xz,jb aq];simp only[j52];rw[ag (show (i:d)<(w.length:d) by omega),bE,ar (x:=(i:d)+1)];simp only[j6,j8,bc,cw];rw[K7,bc]at ih;by_cases c1:w[i].1<0\/w[i].1>=w[i].2\/w[i].2>604800
  .rw[if_pos c1,show (cond (cond (D (w[i].1<0)) J (D (w[i].1>=w[i].2))) J (D (w[i].2>604800)))=J by simp only[vd,qk,jj];omega];simp only[j6,aW];rfl
  .rw[if_neg c1,show (cond (cond (D (w[i].1<0)) J (D (w[i].1>=w[i].2))) J (D (w[i].2>604800)))=M by rw[ky];simp only[ne_eq,vd,qk,jj];omega];simp only[j7];by_cases h0:i=0
   .subst h0;rw[an aa,if_neg (by simp[xC];omega)];simp only[j7,aS];exact ih
   .obtain⟨j,rfl⟩:∃j,i=j+1:=⟨i-1,aa⟩;rw[ag aa,ar (x:=((j+1:G):d)-1),bE,show (((j+1:G):d)-1).toNat=j by omega,K7];simp only[j6];by_cases c2:w[j+1].1<(w.getD j (0,0)).2
    .rw[ag c2,if_pos c2,j6,aW];rfl
    .rw[an c2,if_neg c2,j7,aS];exact ih
theorem ϒ{w:WL}(hl:w.length<=14):∀(n i:G),i+n=w.length->Cs w (i:d)=A (K8 (cw (xC w i) (w.drop i)))
 |0,i,hi=>by
  rw[Jk,E aa];simp only[j3g,show y w.length=(w.length:d) from rfl];rw[an aa,j7,aW];rfl
 |n+1,i,hi=>by
  have ih:=ϒ hl n (i+1) aa;have aq:i<w.length:=aa;have bc:w.getD i ((0:d),(0:d))=w[i]:=by simp[aq]
  rw[Jk,jb aq];simp only[j3g,show y w.length=(w.length:d) from rfl];rw[ag (show (i:d)<(w.length:d) by omega),bE,ar (x:=(i:d)+1)];simp only[j6,j8,bc,cw];rw[K7,bc]at ih;by_cases a1:w[i].1<0
  .rw[ag a1,if_pos (Or.inl a1),j6,aW];rfl
  by_cases a2:w[i].1>=w[i].2
  .rw[an a1,ag a2,if_pos (Or.inr (Or.inl a2)),j6,j7,aW];rfl
  by_cases a3:w[i].2>604800
  .rw[an a1,an a2,ag a3,if_pos (Or.inr (Or.inr a3)),j6,j7,j7,aW];rfl
  rw[an a1,an a2,an a3,if_neg aa];simp only[j7];by_cases h0:i=0
  .subst h0;rw[an aa,if_neg (by simp[xC];omega)];simp only[j7,aS];exact ih
  .obtain⟨j,rfl⟩:∃j,i=j+1:=⟨i-1,aa⟩;rw[ag aa,ar (x:=((j+1:G):d)-1),bU (show (0:d)<=((j+1:G):d)-1 by omega) aa,show (((j+1:G):d)-1).toNat=j by omega,K7];simp only[j6];by_cases c2:w[j+1].1<(w.getD j (0,0)).2
   .rw[ag c2,if_pos c2,j6,aW];rfl
   .rw[an c2,if_neg c2,j7,aS];exact ih
theorem SP(w:WL):∃c,jcD w=A c/\j7w w=A c/\(c=0->gO 0 w/\w.length<=14):=by
 by_cases hl:w.length>14
 .refine⟨5,?_,?_,aa⟩
  .simp only[jcD,show y w.length=(w.length:d) from rfl];rw[ag aa,j6]
  .simp only[j7w,show y w.length=(w.length:d) from rfl];rw[ag aa,j6]
 .refine⟨cw 0 w,?_,?_,λh=>⟨ϐ aa h,aa⟩⟩
  .have:=ϑ (w:=w) aa w.length 0 aa;rw[show ((0:G):d)=0 from rfl,jk,show xC w 0=0 from rfl]at this;simp only[jcD,show y w.length=(w.length:d) from rfl];rw[an aa,j7,this];simp only[K8];split
   .next h=>simp[h,sumC]
   .rfl
  .have:=ϒ (w:=w) aa w.length 0 aa;rw[show ((0:G):d)=0 from rfl,jk,show xC w 0=0 from rfl]at this;simp only[j7w,show y w.length=(w.length:d) from rfl];rw[an aa,j7,this];simp only[K8];split
   .next h=>simp[h,sumC]
   .rfl
def rE{α:Type}(u:α)(e:d):d ⊕ α:=if e=0 then .inr u else .inl e
theorem iW{α:Type}(u:α):rE u 0 = .inr u:=rfl
theorem cM{α:Type}(u:α){e:d}(h:e≠0):rE u e = .inl e:=if_neg h
theorem AO(i:d){n:G}(hn:n<=1000000):∃b,j1m i (n:d)=A b/\j85 i 0 (w64 ((n:d)-1))=A b:=by
 refine⟨_,rfl,?_⟩;simp only[j85];rw[ar (x:=(n:d)-1),show D (i<=(n:d)-1)=D (i<(n:d)) from decide_eq_decide.2 aa]
section
variable{zs:H bH}{ps:H dr}{cs:H bd}{ss:H cN}
theorem ϓ(fE:zs.length<=100)(hl:ps.length<=100):∀(n i:G)(L:H B),i+n=ps.length->L.length=i->
  ∃e,E6 ps (ps.length:d) (i:d) zs ps cs ss (ow L)=A (rE (zs,ps,cs,ss) e)/\Jl (i:d) zs ps cs ss L=A (rE () e)
 |0,i,L,hi,_=>by
  rw[XC,Yx];simp only[j3u,j5f,show y ps.length=(ps.length:d) from rfl];rw[an (show¬(i:d)<(ps.length:d) by omega)];simp only[j7,aW];exact⟨0,rfl,rfl⟩
 |n+1,i,L,hi,hL=>by
  have aq:i<ps.length:=aa;have bc:ps.getD i (F,((0:d),(([]:WL),((0:d),((0:d),M)))))=ps[i]:=by simp[K,aq]
  have ih:=ϓ fE hl n (i+1) (L++[ps[i].1]) aa az;obtain⟨en,n1,n2⟩:=GG (L:=L) aa ps[i].1;obtain⟨b,b1,b2⟩:=AO ps[i].2.1 (n:=zs.length) aa;obtain⟨c,c1,c2,_⟩:=SP ps[i].2.2.1;obtain⟨h1,q1⟩:∃h1,j6i ps[i].2.2.2.1=A h1:=⟨_,rfl⟩;have q2:jhk ps[i].2.2.2.1=A h1:=q1;obtain⟨h2,q3⟩:∃h2,j6i ps[i].2.2.2.2.1=A h2:=⟨_,rfl⟩;have q4:jhk ps[i].2.2.2.2.1=A h2:=q3;rw[hL]at n2;rw[XC,Yx];simp only[j3u,j5f,show y ps.length=(ps.length:d) from rfl];rw[ag (show (i:d)<(ps.length:d) by omega),bE,ar (x:=(i:d)+1)];simp only[j6,j8,bc,n1,j4];rw[ag (show L.length+[ps[i].1].length<=aG by simp[aG];omega)];simp only[j6,n2,j4];cases (ps[i].1.toList==(U #[110,111,98,111,100,121]).toList) with
  |true=>exact⟨2,rfl,rfl⟩
  |false=>
   simp only[j7];by_cases he:en=0
   .subst he;simp only[kp,j6,jf,j7,if_true];have x_:j4z (zs,(ps,(cs,ss))) (ps[i].1,(ps[i].2.1,(ps[i].2.2.1,(ps[i].2.2.2.1,(ps[i].2.2.2.2.1,ps[i].2.2.2.2.2)))))=cond (!b) (A 3) (cond (c != 0) (A 8) (cond (!h1) (A 1) (cond (!h2) (A 1) (A 0)))):=by simp only[j4z,show y zs.length=(zs.length:d) from rfl,b1,c1,q1,q3,j4]
    rw[x_];simp only[show y zs.length=(zs.length:d) from rfl,b2,c2,q2,q4,j4];cases b with
    |false=>exact⟨3,rfl,rfl⟩
    |true=>
     simp only[jc,j7];cases (c != 0) with
     |true=>exact⟨8,rfl,rfl⟩
     |false=>
      simp only[j7];cases h1 with
      |false=>exact⟨1,rfl,rfl⟩
      |true=>
       cases h2 with
       |false=>exact⟨1,rfl,rfl⟩
       |true=>obtain⟨e,e1,e2⟩:=ih;exact⟨e,e1,e2⟩
   .rw[cG he,show (en != 0)=J by simpa using he];exact⟨en,by rw[cM _ he];rfl,by rw[cM _ he];rfl⟩
theorem ϔ(fE:zs.length<=100)(hl:ps.length<=100):∃e,E6 ps (ps.length:d) 0 zs ps cs ss []=A (rE (zs,ps,cs,ss) e)/\jic (zs,(ps,(cs,ss)))=A e:=by
 obtain⟨e,e1,e2⟩:=ϓ (zs:=zs) (ps:=ps) (cs:=cs) (ss:=ss) fE hl ps.length 0 [] aa rfl;rw[show ((0:G):d)=0 from rfl]at e1 e2;refine⟨e,e1,?_⟩;simp only[jic,e2,j4];by_cases he:e=0
 .subst he;rfl
 .rw[cM _ he];rfl
theorem ϕ{ds:H d}(hl:ds.length<=100000){m:d}{nm:B}{z:d}{l3:H B}:∀(n i:G),i+n=ds.length->∃q e,((E4 ds (ds.length:d) (i:d)).bind λq0=>sumC q0 (λa=>A a) (λ_=>A (-1:d)))=A q/\
   Jm m (i:d) zs ps cs ss nm z ds l3=A (rE (m,zs,ps,cs,ss,nm,z,ds,l3) e)/\(e=if q>=0 then 1 else 0)
 |0,i,hi=>by
  rw[IE,Yy];simp only[j0z,j3D,show y ds.length=(ds.length:d) from rfl];rw[an (show¬(i:d)<(ds.length:d) by omega)];simp only[j7,aW];exact⟨-1,0,rfl,rfl,rfl⟩
 |n+1,i,hi=>by
  have aq:i<ds.length:=aa;have bc:ds.getD i (0:d)=ds[i]:=by simp[K,aq]
  obtain⟨q,e,q1,q2,q3⟩:=ϕ hl n (i+1) aa;rw[IE,Yy];simp only[j0z,j3D,j3Q,show y ds.length=(ds.length:d) from rfl];rw[ag (show (i:d)<(ds.length:d) by omega),bE,ar (x:=(i:d)+1)];simp only[j6,j8,bc,xv,Sw,j4,j85];by_cases h0:0<=ds[i]
  .by_cases h1:ds[i]<=98980
   .rw[ag h0,ag h1];exact⟨q,e,q1,q2,q3⟩
   .rw[ag h0,an h1];exact⟨(i:d),1,rfl,rfl,by rw[if_pos aa]⟩
  .rw[an h0];exact⟨(i:d),1,rfl,rfl,by rw[if_pos aa]⟩
theorem SQ{ds:H d}(hl:ds.length<=100000){m:d}{nm:B}{z:d}{l3:H B}:∀(n i:G),i+1+n=ds.length\/(ds.length=0/\n=0/\i=0)->∃e,
   Cg (ds.length:d) ((i+1:G):d) nm z ds=A (rE () e)/\Jn m ((i+1:G):d) zs ps cs ss nm z ds l3=A (rE (m,zs,ps,cs,ss,l3) e)
 |0,i,hi=>by
  rw[Ci,Yz];simp only[j0o,j3E,show y ds.length=(ds.length:d) from rfl];rw[an (show¬((i+1:G):d)<(ds.length:d) by omega)];simp only[j7,aW];exact⟨0,rfl,rfl⟩
 |n+1,i,hi=>by
  have aq:i+1<ds.length:=aa;obtain⟨e,e1,e2⟩:=SQ (m:=m) (nm:=nm) (z:=z) (l3:=l3) hl n (i+1) aa;rw[Ci,Yz];simp only[j0o,j3E,show y ds.length=(ds.length:d) from rfl]
  rw[ag (show ((i+1:G):d)<(ds.length:d) by omega),ag (show ((i+1:G):d)>0 by omega),ar (x:=((i+1:G):d)-1),ar (x:=((i+1:G):d)+1),
   bU (show (0:d)<=((i+1:G):d) by omega) aa,bU (show (0:d)<=((i+1:G):d)-1 by omega) aa]
  simp only[j6];cases D (ds.getD ((i+1:G):d).toNat 0<=ds.getD (((i+1:G):d)-1).toNat 0) with
  |true=>exact⟨6,rfl,rfl⟩
  |false=>simp only[j7,aS];exact⟨e,e1,e2⟩
theorem SR(fE:zs.length<=100)(hl:cs.length<=100):∀(n i:G)(L:H B),i+n=cs.length->L.length=i->
  ∃e,Aa zs ps cs ss cs (cs.length:d) (i:d) (ow L)=A (rE () e)/\Jo (i:d) zs ps cs ss L=A (rE () e)
 |0,i,L,hi,_=>by
  rw[Oy,YA];simp only[j0D,j3F,show y cs.length=(cs.length:d) from rfl];rw[an (show¬(i:d)<(cs.length:d) by omega)];simp only[j7,aW];exact⟨0,rfl,rfl⟩
 |n+1,i,L,hi,hL=>by
  have aq:i<cs.length:=aa;have bc:cs.getD i (F,((0:d),([]:H d)))=cs[i]:=by simp[K,aq]
  have ih:=SR fE hl n (i+1) (L++[cs[i].1]) aa az;obtain⟨en,n1,n2⟩:=GG (L:=L) aa cs[i].1;obtain⟨b,b1,b2⟩:=AO cs[i].2.1 (n:=zs.length) aa;rw[hL]at n2;rw[Oy,YA];simp only[j0D,j3F,j8J,j8K,show y cs.length=(cs.length:d) from rfl];rw[ag (show (i:d)<(cs.length:d) by omega),bE,ar (x:=(i:d)+1)];simp only[j6,j8,bc,n1,j4];rw[ag (show L.length+[cs[i].1].length<=aG by simp[aG];omega)];simp only[j6,n2,j4];by_cases he:en=0
  .subst he;simp only[jf,j7,if_true,j1u,show y zs.length=(zs.length:d) from rfl,b1,b2,j4];cases b with
   |false=>exact⟨3,rfl,rfl⟩
   |true=>
    simp only[jc,j7,show y cs[i].2.2.length=(cs[i].2.2.length:d) from rfl];by_cases AJ:(cs[i].2.2.length:d)>64
    .rw[ag AJ];exact⟨5,rfl,rfl⟩
    .rw[an AJ];simp only[j7];obtain⟨q,e,q1,q2,q3⟩:=ϕ (zs:=zs) (ps:=ps) (cs:=cs) (ss:=ss) (ds:=cs[i].2.2) (m:=(i:d)) (nm:=cs[i].1) (z:=cs[i].2.1) (l3:=L++[cs[i].1]) aa cs[i].2.2.length 0 aa;rw[show ((0:G):d)=0 from rfl]at q1 q2;have AP:j1p cs[i].2.2=A (D (q>=0)):=by simp only[j1p,j3R,show y cs[i].2.2.length=(cs[i].2.2.length:d) from rfl];rw[q1];rfl
     rw[AP,q2];by_cases hq:q>=0
     .rw[if_pos hq]at q3;subst q3;rw[ag hq];exact⟨1,rfl,rfl⟩
     .rw[if_neg hq]at q3;subst q3;rw[an hq,iW];simp only[j4,j7,me];obtain⟨e,e1,e2⟩:=SQ (zs:=zs) (ps:=ps) (cs:=cs) (ss:=ss) (ds:=cs[i].2.2) (m:=(i:d)) (nm:=cs[i].1) (z:=cs[i].2.1) (l3:=L++[cs[i].1]) aa (cs[i].2.2.length-1) 0 aa;rw[show ((0+1:G):d)=1 from rfl]at e1 e2
      have e0:Cg (cs[i].2.2.length:d) 0 cs[i].1 cs[i].2.1 cs[i].2.2=A (rE () e):=by
       rw[Ci];simp only[j0o];by_cases hp:(0:d)<(cs[i].2.2.length:d)
       .rw[ag hp,an (show¬(0:d)>0 by omega)];simp only[j6,j7,aS];exact e1
       .rw[Ci]at e1;simp only[j0o]at e1;rw[an (show¬(1:d)<(cs[i].2.2.length:d) by omega)]at e1;rw[an hp];exact e1
      rw[e0,e2];simp only[j4];by_cases h0:e=0
      .subst h0;rw[iW,iW];simp only[me,j4,jf,j7,aS];rw[ar (x:=(i:d)+1)];exact ih
      .rw[cM _ h0,cM _ h0];refine⟨e,?_,?_⟩
       .rw[cM _ h0];simp only[pN,j4];rw[show (e != 0)=J by simpa using h0];rfl
       .rw[cM _ h0];rfl
  .rw[show (en != 0)=J by simpa using he];exact⟨en,by rw[cM _ he];rfl,by rw[cM _ he];rfl⟩
theorem jCe(fE:zs.length<=100)(hl:cs.length<=100):∃e,j24 cs zs ps cs ss=A e/\jch (zs,(ps,(cs,ss)))=A e:=by
 obtain⟨e,e1,e2⟩:=SR (zs:=zs) (ps:=ps) (cs:=cs) (ss:=ss) fE hl cs.length 0 [] aa rfl;rw[show ((0:G):d)=0 from rfl]at e1 e2;refine⟨e,?_,?_⟩
 .simp only[j24,show y cs.length=(cs.length:d) from rfl];rw[show Aa zs ps cs ss cs (cs.length:d) 0 []=_ from e1];by_cases he:e=0
  .subst he;rfl
  .rw[cM _ he];rfl
 .simp only[jch,e2,j4];by_cases he:e=0
  .subst he;rfl
  .rw[cM _ he];rfl
end
end Go.Proofs.Pw
