/- Chapter 8: checks of any configuration: names and zones. -/
import Derived.Test.YtmccfdihkphfaaaGreatLIPE
import Derived.Test.YtmccfdihkphfaaaGreatLIPF
import Derived.Test.YtmccfdihkphfaaaGreatLIPA
import Derived.Test.YtmccfdihkphfaaaGreatLIPC
open _root_ renaming Int->y,ByteArray->E,List->H,Nat->M
open Option renaming some->A
open Int renaming ofNat->B,tmod->S,tdiv->Ä
open Decidable renaming decide->D
open List renaming drop_eq_getElem_cons->F,drop_of_length_le->I,getD->K,drop_zero->O,getElem_mem->W,all_cons->À
open ByteArray renaming empty->G,mk->Å
open Bool renaming true->J,not_true->N,false->R,cond_true_left->U,or_eq_true->Z,true_or->Á
open Go Go.Lft
namespace Go.Proofs.Pw
theorem jrh{s:E}(hs:s.size<=24):∀(n i:M),i+n=s.size->∃r:Bool ⊕ Unit,jch s (s.size:y) (i:y)=A r/\jfl s (i:y)=A r/\(r = .inl R\/r = .inr ())
 |0,i,hi=>by
  grind[jfO,jhI,j5W,j7u,S0]
 |n+1,i,hi=>by
  obtain⟨r,r1,r2,r3⟩:=jrh hs n (i+1) omg_;rw[jfO,jhI];simp only[j5W,j7u,jcP,jic,jmi,j4,show B s.size=(s.size:y) from rfl];rw[j00 (show (i:y)<(s.size:y) by omega),j2j,j07 (x:=(i:y)+1)];simp only[j6,Á];by_cases ha:97<=j9u s i/\j9u s i<=122
  .simp_all[S0]
  .have e:cond (D (j9u s i>=97)) (D (j9u s i<=122)) R=false:=by
    simp_all
   have e':cond (D (j9u s i<97)) J (D (j9u s i>122))=true:=by grind
   rw[e,e'];simp only[Bool.not_false,j6];by_cases hb:48<=j9u s i/\j9u s i<=57
   .simp_all[S0]
   grind[j04,j0e]
theorem jAP(s:E):∃b,jeE s=A b/\jln s=A b:=by
 simp(disch:=omega)only[jeE,jln,S0];by_cases hz:s.size=0\/24<s.size
 .have t1:cond (s.toList==ByteArray.empty.toList) J (D ((s.size:y)>24))=true:=by
   rcases hz with hz|hz
   .simp_all
   grind
  have t2:cond (D ((s.size:y)<1)) J (D ((s.size:y)>24))=true:=by grind
  simp(disch:=omega)only[t1,t2,Bool.or_true,S0];exact⟨R,rfl,rfl⟩
 .have hne:s≠ByteArray.empty:=λh=>hz (.inl (by rw[h];rfl));have hs1:1<=s.size:=omg_;have hs2:s.size<=24:=omg_;simp(disch:=omega)only[jtQ hne,jcP,S0];by_cases ha:97<=j9u s 0/\j9u s 0<=122
  .obtain⟨r,r1,r2,r3⟩:=jrh hs2 s.size 0 omg_;rw[show ((0:M):y)=0 from rfl]at r1 r2;rw[j00 (show j9u s 0>=97 from ha.1),j00 ha.2,j01 (show¬j9u s 0<97 by omega),j01 (show¬j9u s 0>122 by omega),r1,r2];rcases r3 with rfl|rfl
   .exact⟨R,rfl,rfl⟩
   .exact⟨J,rfl,rfl⟩
  .have e:cond (D (j9u s 0>=97)) (D (j9u s 0<=122)) R=false:=by
    simp_all
   have e':cond (D (j9u s 0<97)) J (D (j9u s 0>122))=true:=by grind
   rw[e,e'];exact⟨R,rfl,rfl⟩
theorem jxT{s:E}:∀{l:H E},s∈l->j3i R (jdl l) s=J
 |[],h=>by simp at h
 |k::l,h=>by
  show cond (s==k) J (j3i R (jdl l) s)=J;cases hb:(s==k) with
  |true=>rfl
  |false=>
   rw[j7];rcases List.mem_cons.1 h with rfl|h
   .have:=(MapKept.bytes_beq s s).2 rfl;rw[hb]at this;simp at this
   .exact jxT h
theorem jEe{L:H E}{s:E}(hl:L.length<=1000):∀(n k:M),k+n=L.length->∃r:y ⊕ Unit,jii (L++[s]) (L.length:y) (k:y)=A r/\((s∈L.drop k->r = .inl 4)/\(s∉L.drop k->r = .inr ()))
 |0,k,hk=>by
  rw[jhJ];simp(disch:=omega)only[I,j7v,S0]
  simp_all
 |n+1,k,hk=>by
  have hlt:k<L.length:=omg_;obtain⟨r,r1,r2,r3⟩:=jEe (s:=s) hl n (k+1) omg_;have g1:(L++[s]).getD k G=L[k]:=by grind
  have g2:(L++[s]).getD L.length G=s:=by simp[K]
  rw[jhJ,F hlt];simp only[j7v];rw[j00 (show (k:y)<(L.length:y) by omega),j0B (n:=(L++[s]).length) (show (0:y)<=(k:y) by omega) sqo_,j0B (n:=(L++[s]).length) (show (0:y)<=(L.length:y) by omega) sqo_,j07 (x:=(k:y)+1)];simp only[j6,j8,g1,g2];grind[j0e,jtQ,j04]
theorem jn4{L:H E}(hl:L.length<=1000)(s:E):∃e,j5j s (jdl L)=A (e,jdl (if e=0 then L++[s] else L))/\jdW (L++[s]) (L.length:y)=A e:=by
 obtain⟨b,b1,b2⟩:=jAP s;have g2:(L++[s]).getD L.length G=s:=by simp[K]
 simp only[j5j,jdW,b1,j4];rw[j0B (n:=(L++[s]).length) (show (0:y)<=(L.length:y) by omega) sqo_];simp only[j6,j8,g2,b2,j4];cases b with
 |false=>
  simp_all
 |true=>
  simp only[N,j7];obtain⟨r,r1,r2,r3⟩:=jEe (s:=s) hl L.length 0 omg_;rw[O]at r2 r3;rw[show ((0:M):y)=0 from rfl]at r1;rw[r1];by_cases hm:s∈L
  .rw[jxT hm,r2 hm];exact⟨4,rfl,rfl⟩
  .obtain⟨m1,m2⟩:=jx2 hm;rw[m1,m2,r3 hm];exact⟨0,rfl,rfl⟩
theorem jAQ{nm:E}{o:y}{rs:H Rule}(hl:rs.length<=100000):∀(n i:M)(b:Bool),i+n=rs.length->jed b (i:y) nm o rs=A (b&&(rs.drop i).all λr=>S r.2.2.2.2.2.2 60==0)
 |0,i,b,hi=>by
  rw[jeL];simp(disch:=omega)only[I,j5D,S0];simp
 |n+1,i,b,hi=>by
  have hlt:i<rs.length:=omg_;have hgd:rs.getD i (0,0,0,0,0,0,0)=rs[i]:=by simp[K,hlt]
  have ih:=λb=>jAQ (nm:=nm) (o:=o) hl n (i+1) b omg_;rw[jeL];simp(disch:=omega)only[F hlt,j5D,À,S0];refine(ih _).trans ?_;cases b<;>simp
theorem jEf{rs:H Rule}(hl:rs.length<=100000):∀(n i:M),i+n=rs.length->∃q,((j1C rs (rs.length:y) (i:y)).bind λq0=>sumC q0 (λa=>A a) (λ_=>A (-1:y)))=A q/\D (q>=0) = !((rs.drop i).all λr=>S r.2.2.2.2.2.2 60==0)
 |0,i,hi=>by
  rw[j2s];simp(disch:=omega)only[I,j0l,S0];exact⟨-1,rfl,rfl⟩
 |n+1,i,hi=>by
  have hlt:i<rs.length:=omg_;have hgd:rs.getD i (0,0,0,0,0,0,0)=rs[i]:=by simp[K,hlt]
  obtain⟨q,q1,q2⟩:=jEf hl n (i+1) omg_;rw[j2s,F hlt];simp only[j0l,j8Z];rw[j00 (show (i:y)<(rs.length:y) by omega),j2j,j07 (x:=(i:y)+1)];simp only[j6,j8,hgd,j4,À];by_cases h:S rs[i].2.2.2.2.2.2 60=0
  .grind[j04]
  .rw[show (S rs[i].2.2.2.2.2.2 60 != 0)=J by simpa using h,j3Z h,j6,j0e];exact⟨(i:y),rfl,by simp_all⟩
theorem jsz(z:j0K)(hl:ZF z):∃e e1 b,j2d z=A e/\j8o z=A e1/\jb0 z=A b/\(e=if e1=0/\b=J then 0 else 8):=by
 obtain⟨l,e1,t1,t2,_,_⟩:=jrg z hl.2;have hl:=hl.1;have c1:jeF (z.1,z.2.1,z.2.2)=A e1:=by grind[jeF]
 have c2:j8o z=A e1:=by grind[j8o]
 have m:=jAQ (nm:=z.1) (o:=z.2.1) hl z.2.2.length 0 (S z.2.1 60==0) omg_;obtain⟨q,q1,q2⟩:=jEf hl z.2.2.length 0 omg_;rw[show ((0:M):y)=0 from rfl,O]at m;rw[show ((0:M):y)=0 from rfl]at q1;rw[O]at q2;have hm:jb0 z=A ((S z.2.1 60==0)&&z.2.2.all λr=>S r.2.2.2.2.2.2 60==0):=by grind[jb0]
 have hc:j0V z.2.2=A (!(z.2.2.all λr=>S r.2.2.2.2.2.2 60==0)):=by grind[j0V,j1U]
 refine⟨_,e1,_,?_,c2,hm,rfl⟩;grind[j2d]
theorem jzO{zs:H j0K}{ps:H j0k}{cs:H CalT}{ss:H j0R}(hz:∀z∈zs,ZF z)(hl:zs.length<=100):∀(n i:M)(L:H E),i+n=zs.length->L.length=i->
  ∃r:y ⊕ Unit,j1W zs (zs.length:y) (i:y) (jdl L)=A r/\jgz (i:y) zs ps cs ss L=A r/\r ≠ .inl 0
 |0,i,L,hi,_=>by
  rw[j5g,jgA];simp(disch:=omega)only[j1b,j6J,S0]
  simp_all
 |n+1,i,L,hi,hL=>by
  have hlt:i<zs.length:=omg_;have hgd:zs.getD i (G,0,[])=zs[i]:=by simp[K,hlt]
  obtain⟨e,n1,n2⟩:=jn4 (L:=L) omg_ zs[i].1;obtain⟨ez,e1,b,z1,z2,z3,z4⟩:=jsz zs[i] (hz _ (W hlt));rw[hL]at n2;rw[j5g,jgA];simp only[j1b,j6J,j9l,show B zs.length=(zs.length:y) from rfl];rw[j00 (show (i:y)<(zs.length:y) by omega),j2j,j07 (x:=(i:y)+1)];simp only[j6,j8,hgd,j4,n1];rw[j00 (show L.length+[zs[i].1].length<=j03 by simp[j03];omega)];simp only[j6,n2,j4];by_cases he:e=0
  .subst he;simp only[bne_self_eq_false,j7,if_true];rw[show j2d (zs[i].1,zs[i].2.1,zs[i].2.2)=_ from z1,show j8o (zs[i].1,zs[i].2.1,zs[i].2.2)=_ from z2];simp only[j4,Á,j6];by_cases h1:e1=0
   .subst h1;simp only[bne_self_eq_false,j7];rw[show jb0 (zs[i].1,zs[i].2.1,zs[i].2.2)=_ from z3];simp only[j4];cases b with
    |true=>rw[if_pos ⟨rfl,rfl⟩]at z4;subst z4;obtain⟨r,r1,r2,r3⟩:=jzO (ps:=ps) (cs:=cs) (ss:=ss) hz hl n (i+1) (L++[zs[i].1]) omg_ sqo_;grind[j04]
    |false=>rw[if_neg smp_]at z4;subst z4;exact⟨.inl 8,rfl,rfl,smp_⟩
   .rw[if_neg (λh=>h1 h.1)]at z4;subst z4;rw[show (e1 != 0)=J by simpa using h1];exact⟨.inl 8,rfl,rfl,smp_⟩
  .rw[show (e != 0)=J by simpa using he];exact⟨.inl e,rfl,rfl,λh=>he (by injection h)⟩
theorem jxU{zs:H j0K}{ps:H j0k}{cs:H CalT}{ss:H j0R}(hz:∀z∈zs,ZF z)(hl:zs.length<=100):∃e,j1X zs=A e/\jja (zs,ps,cs,ss)=A e:=by
 obtain⟨r,r1,r2,r3⟩:=jzO (ps:=ps) (cs:=cs) (ss:=ss) hz hl zs.length 0 [] omg_ rfl;rw[show ((0:M):y)=0 from rfl]at r1 r2;simp(disch:=omega)only[j1X,jja,show j1W zs (zs.length:y) 0 []=_ from r1,r2,S0];cases r with
 |inl e=>exact⟨e,rfl,rfl⟩
 |inr u=>exact⟨0,rfl,rfl⟩
def cw(p:y):WL->y
 |[]=>0
 |v::r=>if v.1<0\/v.1>=v.2\/v.2>604800 then 1 else if v.1<p then 6 else cw v.2 r
def cwP(w:WL)(i:M):Int:=if i=0 then 0 else (w.getD (i-1) (0,0)).2
theorem jzP(w:WL)(i:M):cwP w (i+1)=(w.getD i (0,0)).2:=by simp[cwP]
theorem jEg:∀{w:WL}{p:y},p<=604800->cw p w=0->WOk p w
 |[],p,hp,_=>hp
 |v::r,p,hp,h=>by
  simp only[cw]at h;split at h
  .simp at h
  split at h
  .simp at h
  exact⟨omg_,omg_,omg_,jEg omg_ h⟩
def cwR(c:y):y ⊕ Unit:=if c=0 then .inr () else .inl c
theorem jri{w:WL}(hl:w.length<=14):∀(n i:M),i+n=w.length->jfi w w (w.length:y) (i:y)=A (cwR (cw (cwP w i) (w.drop i)))
 |0,i,hi=>by
  rw[jfP];simp(disch:=omega)only[I,j5X,S0];rfl
 |n+1,i,hi=>by
  have ih:=jri hl n (i+1) omg_;have hlt:i<w.length:=omg_;have hgd:w.getD i (0,0)=w[i]:=by simp[hlt]
  rw[jfP,F hlt];simp only[j5X];rw[j00 (show (i:y)<(w.length:y) by omega),j2j,j07 (x:=(i:y)+1)];simp only[j6,j8,hgd,cw];rw[jzP,hgd]at ih;by_cases c1:w[i].1<0\/w[i].1>=w[i].2\/w[i].2>604800
  .rw[if_pos c1,show (cond (cond (D (w[i].1<0)) J (D (w[i].1>=w[i].2))) J (D (w[i].2>604800)))=J by simp only[U,Z,decide_eq_true_eq];omega];simp only[j6,j0e];rfl
  .rw[if_neg c1,show (cond (cond (D (w[i].1<0)) J (D (w[i].1>=w[i].2))) J (D (w[i].2>604800)))=R by rw[Bool.eq_false_iff];simp only[ne_eq,U,Z,decide_eq_true_eq];omega];simp only[j7];by_cases h0:i=0
   .subst h0;rw[j01 omg_,if_neg (by simp[cwP];omega)];simp only[j7,j04];exact ih
   .obtain⟨j,rfl⟩:∃j,i=j+1:=⟨i-1,omg_⟩;rw[j00 omg_,j07 (x:=((j+1:M):y)-1),j2j,show (((j+1:M):y)-1).toNat=j by omega,jzP];simp only[j6];by_cases c2:w[j+1].1<(w.getD j (0,0)).2
    .rw[j00 c2,if_pos c2,j6,j0e];rfl
    .rw[j01 c2,if_neg c2,j7,j04];exact ih
theorem jrj{w:WL}(hl:w.length<=14):∀(n i:M),i+n=w.length->jbH w (i:y)=A (cwR (cw (cwP w i) (w.drop i)))
 |0,i,hi=>by
  rw[jai];simp(disch:=omega)only[I,j44,S0];rfl
 |n+1,i,hi=>by
  have ih:=jrj hl n (i+1) omg_;have hlt:i<w.length:=omg_;have hgd:w.getD i (0,0)=w[i]:=by simp[hlt]
  rw[jai,F hlt];simp only[j44,show B w.length=(w.length:y) from rfl];rw[j00 (show (i:y)<(w.length:y) by omega),j2j,j07 (x:=(i:y)+1)];simp only[j6,j8,hgd,cw];rw[jzP,hgd]at ih;by_cases a1:w[i].1<0
  .rw[j00 a1,if_pos (Or.inl a1),j6,j0e];rfl
  by_cases a2:w[i].1>=w[i].2
  .simp(disch:=omega)only[if_pos (Or.inr (Or.inl a2)),S0];rfl
  by_cases a3:w[i].2>604800
  .simp(disch:=omega)only[if_pos (Or.inr (Or.inr a3)),S0];rfl
  rw[j01 a1,j01 a2,j01 a3,if_neg omg_];simp only[j7];by_cases h0:i=0
  .subst h0;rw[j01 omg_,if_neg (by simp[cwP];omega)];simp only[j7,j04];exact ih
  .obtain⟨j,rfl⟩:∃j,i=j+1:=⟨i-1,omg_⟩;rw[j00 omg_,j07 (x:=((j+1:M):y)-1),j0B (show (0:y)<=((j+1:M):y)-1 by omega) omg_,show (((j+1:M):y)-1).toNat=j by omega,jzP];simp only[j6];by_cases c2:w[j+1].1<(w.getD j (0,0)).2
   .rw[j00 c2,if_pos c2,j6,j0e];rfl
   .rw[j01 c2,if_neg c2,j7,j04];exact ih
theorem jjJ(w:WL):∃c,jcD w=A c/\j8p w=A c/\(c=0->WOk 0 w/\w.length<=14):=by
 by_cases hl:w.length>14
 .refine⟨5,?_,?_,omg_⟩
  .simp(disch:=omega)only[jcD,S0]
  .simp(disch:=omega)only[j8p,S0]
 .refine⟨cw 0 w,?_,?_,λh=>⟨jEg omg_ h,omg_⟩⟩
  .have:=jri (w:=w) omg_ w.length 0 omg_;rw[show ((0:M):y)=0 from rfl,O,show cwP w 0=0 from rfl]at this;simp(disch:=omega)only[jcD,this,cwR,S0];split
   .next h=>simp[h,sumC]
   .rfl
  .have:=jrj (w:=w) omg_ w.length 0 omg_;rw[show ((0:M):y)=0 from rfl,O,show cwP w 0=0 from rfl]at this;simp(disch:=omega)only[j8p,this,cwR,S0];split
   .next h=>simp[h,sumC]
   .rfl
def rE{α:Type}(u:α)(e:y):y ⊕ α:=if e=0 then .inr u else .inl e
theorem rE_0{α:Type}(u:α):rE u 0 = .inr u:=rfl
theorem rE_n{α:Type}(u:α){e:y}(h:e≠0):rE u e = .inl e:=if_neg h
theorem jiB(i:y){n:M}(hn:n<=1000000):∃b,j1n i (n:y)=A b/\j8W i 0 (w64 ((n:y)-1))=A b:=by
 refine⟨_,rfl,?_⟩;grind[j8W,j24,decide]
section
variable{zs:H j0K}{ps:H j0k}{cs:H CalT}{ss:H j0R}
theorem jEh(hzl:zs.length<=100)(hl:ps.length<=100):∀(n i:M)(L:H E),i+n=ps.length->L.length=i->
  ∃e,j5Q ps (ps.length:y) (i:y) zs ps cs ss (jdl L)=A (rE (zs,ps,cs,ss) e)/\jfn (i:y) zs ps cs ss L=A (rE () e)
 |0,i,L,hi,_=>by
  rw[j9y,jfS];simp(disch:=omega)only[j30,j67,S0];exact⟨0,rfl,rfl⟩
 |n+1,i,L,hi,hL=>by
  have hlt:i<ps.length:=omg_;have hgd:ps.getD i (G,0,[],0,0,R)=ps[i]:=by simp[K,hlt]
  have ih:=jEh hzl hl n (i+1) (L++[ps[i].1]) omg_ sqo_;obtain⟨en,n1,n2⟩:=jn4 (L:=L) omg_ ps[i].1;obtain⟨b,b1,b2⟩:=jiB ps[i].2.1 (n:=zs.length) omg_;obtain⟨c,c1,c2,_⟩:=jjJ ps[i].2.2.1;obtain⟨h1,q1⟩:∃h1,j2e ps[i].2.2.2.1=A h1:=⟨_,rfl⟩;have q2:jgB ps[i].2.2.2.1=A h1:=q1;obtain⟨h2,q3⟩:∃h2,j2e ps[i].2.2.2.2.1=A h2:=⟨_,rfl⟩;have q4:jgB ps[i].2.2.2.2.1=A h2:=q3;rw[hL]at n2;rw[j9y,jfS];simp only[j30,j67,show B ps.length=(ps.length:y) from rfl];rw[j00 (show (i:y)<(ps.length:y) by omega),j2j,j07 (x:=(i:y)+1)];simp only[j6,j8,hgd,n1,j4];rw[j00 (show L.length+[ps[i].1].length<=j03 by simp[j03];omega)];simp only[j6,n2,j4];cases (ps[i].1.toList==(Å #[110,111,98,111,100,121]).toList) with
  |true=>exact⟨2,rfl,rfl⟩
  |false=>
   simp only[j7];by_cases he:en=0
   .subst he;simp only[beq_self_eq_true,j6,bne_self_eq_false,j7,if_true]
    have hcp:j1q (zs,ps,cs,ss) (ps[i].1,ps[i].2.1,ps[i].2.2.1,ps[i].2.2.2.1,ps[i].2.2.2.2.1,ps[i].2.2.2.2.2)=cond (!b) (A 3) (cond (c != 0) (A 8) (cond (!h1) (A 1) (cond (!h2) (A 1) (A 0)))):=by
     simp_all[j1q]
    rw[hcp];simp only[show B zs.length=(zs.length:y) from rfl,b2,c2,q2,q4,j4];cases b with
    |false=>exact⟨3,rfl,rfl⟩
    |true=>
     simp only[N,j7];cases (c != 0) with
     |true=>exact⟨8,rfl,rfl⟩
     |false=>
      simp only[j7];cases h1 with
      |false=>exact⟨1,rfl,rfl⟩
      |true=>
       cases h2 with
       |false=>exact⟨1,rfl,rfl⟩
       |true=>obtain⟨e,e1,e2⟩:=ih;exact⟨e,e1,e2⟩
   .rw[j3Z he,show (en != 0)=J by simpa using he];exact⟨en,by rw[rE_n _ he];rfl,by rw[rE_n _ he];rfl⟩
theorem jkB(hzl:zs.length<=100)(hl:ps.length<=100):∃e,j5Q ps (ps.length:y) 0 zs ps cs ss []=A (rE (zs,ps,cs,ss) e)/\jhk (zs,ps,cs,ss)=A e:=by
 obtain⟨e,e1,e2⟩:=jEh (zs:=zs) (ps:=ps) (cs:=cs) (ss:=ss) hzl hl ps.length 0 [] omg_ rfl;rw[show ((0:M):y)=0 from rfl]at e1 e2;refine⟨e,e1,?_⟩;simp only[jhk,e2,j4];by_cases he:e=0
 .subst he;rfl
 .rw[rE_n _ he];rfl
theorem jEi{ds:H y}(hl:ds.length<=100000){m:y}{nm:E}{z:y}{l3:H E}:∀(n i:M),i+n=ds.length->∃q e,((j3l ds (ds.length:y) (i:y)).bind λq0=>sumC q0 (λa=>A a) (λ_=>A (-1:y)))=A q/\
   jbU m (i:y) zs ps cs ss nm z ds l3=A (rE (m,zs,ps,cs,ss,nm,z,ds,l3) e)/\(e=if q>=0 then 1 else 0)
 |0,i,hi=>by
  rw[j2t,jd7];simp(disch:=omega)only[j0F,j4s,S0];exact⟨-1,0,rfl,rfl,rfl⟩
 |n+1,i,hi=>by
  have hlt:i<ds.length:=omg_;have hgd:ds.getD i (0:y)=ds[i]:=by simp[K,hlt]
  obtain⟨q,e,q1,q2,q3⟩:=jEi hl n (i+1) omg_;rw[j2t,jd7];simp(disch:=omega)only[j0F,j4s,j4A,jh4,jxF,j8W,S0];by_cases h0:0<=ds[i]
  .by_cases h1:ds[i]<=98980
   .rw[j00 h0,j00 h1];exact⟨q,e,q1,q2,q3⟩
   .rw[j00 h0,j01 h1];exact⟨(i:y),1,rfl,rfl,by rw[if_pos omg_]⟩
  .rw[j01 h0];exact⟨(i:y),1,rfl,rfl,by rw[if_pos omg_]⟩
theorem jCw{ds:H y}(hl:ds.length<=100000){m:y}{nm:E}{z:y}{l3:H E}:∀(n i:M),i+1+n=ds.length\/(ds.length=0/\n=0/\i=0)->∃e,
   j26 (ds.length:y) ((i+1:M):y) nm z ds=A (rE () e)/\jbV m ((i+1:M):y) zs ps cs ss nm z ds l3=A (rE (m,zs,ps,cs,ss,l3) e)
 |0,i,hi=>by
  rw[j1E,jd8];simp(disch:=omega)only[j0p,j4t,S0];exact⟨0,rfl,rfl⟩
 |n+1,i,hi=>by
  have hlt:i+1<ds.length:=omg_;obtain⟨e,e1,e2⟩:=jCw (m:=m) (nm:=nm) (z:=z) (l3:=l3) hl n (i+1) omg_;rw[j1E,jd8];simp only[j0p,j4t,show B ds.length=(ds.length:y) from rfl]
  rw[j00 (show ((i+1:M):y)<(ds.length:y) by omega),j00 (show ((i+1:M):y)>0 by omega),j07 (x:=((i+1:M):y)-1),j07 (x:=((i+1:M):y)+1),
   j0B (show (0:y)<=((i+1:M):y) by omega) omg_,j0B (show (0:y)<=((i+1:M):y)-1 by omega) omg_]
  simp only[j6];cases D (ds.getD ((i+1:M):y).toNat 0<=ds.getD (((i+1:M):y)-1).toNat 0) with
  |true=>exact⟨6,rfl,rfl⟩
  |false=>grind[j04]
theorem jCx(hzl:zs.length<=100)(hl:cs.length<=100):∀(n i:M)(L:H E),i+n=cs.length->L.length=i->
  ∃e,j1j zs ps cs ss cs (cs.length:y) (i:y) (jdl L)=A (rE () e)/\jbW (i:y) zs ps cs ss L=A (rE () e)
 |0,i,L,hi,_=>by
  rw[j3K,jd9];simp(disch:=omega)only[j0T,j4u,S0];exact⟨0,rfl,rfl⟩
 |n+1,i,L,hi,hL=>by
  have hlt:i<cs.length:=omg_;have hgd:cs.getD i (G,0,[])=cs[i]:=by simp[K,hlt]
  have ih:=jCx hzl hl n (i+1) (L++[cs[i].1]) omg_ sqo_;obtain⟨en,n1,n2⟩:=jn4 (L:=L) omg_ cs[i].1;obtain⟨b,b1,b2⟩:=jiB cs[i].2.1 (n:=zs.length) omg_;rw[hL]at n2;rw[j3K,jd9];simp only[j0T,j4u,j9m,j9n,show B cs.length=(cs.length:y) from rfl];rw[j00 (show (i:y)<(cs.length:y) by omega),j2j,j07 (x:=(i:y)+1)];simp only[j6,j8,hgd,n1,j4];rw[j00 (show L.length+[cs[i].1].length<=j03 by simp[j03];omega)];simp only[j6,n2,j4];by_cases he:en=0
  .subst he;simp only[bne_self_eq_false,j7,if_true,j29,show B zs.length=(zs.length:y) from rfl,b1,b2,j4];cases b with
   |false=>exact⟨3,rfl,rfl⟩
   |true=>
    simp only[N,j7,show B cs[i].2.2.length=(cs[i].2.2.length:y) from rfl];by_cases h64:(cs[i].2.2.length:y)>64
    .rw[j00 h64];exact⟨5,rfl,rfl⟩
    .rw[j01 h64];simp only[j7];obtain⟨q,e,q1,q2,q3⟩:=jEi (zs:=zs) (ps:=ps) (cs:=cs) (ss:=ss) (ds:=cs[i].2.2) (m:=(i:y)) (nm:=cs[i].1) (z:=cs[i].2.1) (l3:=L++[cs[i].1]) omg_ cs[i].2.2.length 0 omg_;rw[show ((0:M):y)=0 from rfl]at q1 q2;have hcf:j1D cs[i].2.2=A (D (q>=0)):=by grind[j1D,j4B]
     rw[hcf,q2];by_cases hq:q>=0
     .rw[if_pos hq]at q3;subst q3;rw[j00 hq];exact⟨1,rfl,rfl⟩
     .rw[if_neg hq]at q3;subst q3;rw[j01 hq,rE_0];simp only[j4,j7,j8D];obtain⟨e,e1,e2⟩:=jCw (zs:=zs) (ps:=ps) (cs:=cs) (ss:=ss) (ds:=cs[i].2.2) (m:=(i:y)) (nm:=cs[i].1) (z:=cs[i].2.1) (l3:=L++[cs[i].1]) omg_ (cs[i].2.2.length-1) 0 omg_;rw[show ((0+1:M):y)=1 from rfl]at e1 e2
      have e0:j26 (cs[i].2.2.length:y) 0 cs[i].1 cs[i].2.1 cs[i].2.2=A (rE () e):=by
       rw[j1E];simp only[j0p];by_cases hp:(0:y)<(cs[i].2.2.length:y)
       .simp_all[S0]
       grind[j1E,j0p]
      rw[e0,e2];simp only[j4];by_cases h0:e=0
      .subst h0;simp(disch:=omega)only[rE_0,S0];exact ih
      .rw[rE_n _ h0,rE_n _ h0];refine⟨e,?_,?_⟩
       .rw[rE_n _ h0];simp only[j8C,j4];rw[show (e != 0)=J by simpa using h0];rfl
       .rw[rE_n _ h0];rfl
  .rw[show (en != 0)=J by simpa using he];exact⟨en,by rw[rE_n _ he];rfl,by rw[rE_n _ he];rfl⟩
theorem jzQ(hzl:zs.length<=100)(hl:cs.length<=100):∃e,j2m cs zs ps cs ss=A e/\jcl (zs,ps,cs,ss)=A e:=by
 obtain⟨e,e1,e2⟩:=jCx (zs:=zs) (ps:=ps) (cs:=cs) (ss:=ss) hzl hl cs.length 0 [] omg_ rfl;rw[show ((0:M):y)=0 from rfl]at e1 e2;refine⟨e,?_,?_⟩
 .simp(disch:=omega)only[j2m,show j1j zs ps cs ss cs (cs.length:y) 0 []=_ from e1,S0];by_cases he:e=0
  .subst he;rfl
  .rw[rE_n _ he];rfl
 .simp only[jcl,e2,j4];by_cases he:e=0
  .subst he;rfl
  .rw[rE_n _ he];rfl
end
theorem jn5(n lo hi:y):∃b,j3D n lo hi=A b/\j8W n lo hi=A b:=⟨_,rfl,rfl⟩
section
variable{zs:H j0K}{ps:H j0k}{cs:H CalT}{ss:H j0R}
theorem jEj(hpl:ps.length<=100){L:j0f}(hl:L.2.2.2.2.2.1.length<=100):∀(n i:M),i+n=L.2.2.2.2.2.1.length->∃q e,((j2u L.2.2.2.2.2.1 zs ps cs ss (L.2.2.2.2.2.1.length:y) (i:y)).bind λq0=>sumC q0 (λa=>A a) (λ_=>A (-1:y)))=A q/\
   jgC (i:y) zs ps cs ss L.1 L.2.1 L.2.2.1.1 L.2.2.1.2 L.2.2.2.1 L.2.2.2.2.1 L.2.2.2.2.2.1 L.2.2.2.2.2.2.1 L.2.2.2.2.2.2.2.1 L.2.2.2.2.2.2.2.2=A (rE (zs,ps,cs,ss,L.1,L.2.1,L.2.2.1.1,L.2.2.1.2,L.2.2.2.1,L.2.2.2.2.1,L.2.2.2.2.2.1,L.2.2.2.2.2.2.1,L.2.2.2.2.2.2.2.1,L.2.2.2.2.2.2.2.2) e)/\
   (e=if q>=0 then 3 else 0)
 |0,i,hi=>by
  rw[j1Z,jgD];simp(disch:=omega)only[j0q,j6K,S0];exact⟨-1,0,rfl,rfl,rfl⟩
 |n+1,i,hi=>by
  have hlt:i<L.2.2.2.2.2.1.length:=omg_;have hgd:L.2.2.2.2.2.1.getD i (0:y)=L.2.2.2.2.2.1[i]:=by simp[K,hlt]
  obtain⟨q,e,q1,q2,q3⟩:=jEj hpl hl n (i+1) omg_;obtain⟨b,b1,b2⟩:=jiB L.2.2.2.2.2.1[i] (n:=ps.length) omg_;rw[j1Z,jgD];simp only[j0q,j6K,j5Z,show B L.2.2.2.2.2.1.length=(L.2.2.2.2.2.1.length:y) from rfl,show B ps.length=(ps.length:y) from rfl];rw[j00 (show (i:y)<(L.2.2.2.2.2.1.length:y) by omega),j2j,j07 (x:=(i:y)+1)];simp only[j6,j8,hgd,b1,b2,j4];cases b with
  |true=>grind[j04]
  |false=>exact⟨(i:y),3,rfl,rfl,by rw[if_pos omg_]⟩
theorem jCy(hzl:zs.length<=100)(hpl:ps.length<=100)(hcl:cs.length<=100)(L:j0f):∃e,j20 (zs,ps,cs,ss) L=A e/\jgE (zs,ps,cs,ss) L=A e:=by
 obtain⟨b1,p1,p2⟩:=jiB L.2.1 (n:=zs.length) omg_;obtain⟨b3,s1,s2⟩:=jn5 L.2.2.1.2 0 86399;obtain⟨b4,s3,s4⟩:=jn5 L.2.2.2.1 0 2;obtain⟨b5,s5,s6⟩:=jn5 L.2.2.2.2.1 1 400;obtain⟨c,c1,c2,_⟩:=jjJ L.2.2.2.2.2.2.1;obtain⟨b6,s7,s8⟩:=jn5 L.2.2.2.2.2.2.2.2 0 2;obtain⟨b7,p3,p4⟩:=jiB L.2.2.2.2.2.2.2.1 (n:=cs.length) omg_;simp only[j20,jgE,show B zs.length=(zs.length:y) from rfl,show B cs.length=(cs.length:y) from rfl,show B L.2.2.2.2.2.1.length=(L.2.2.2.2.2.1.length:y) from rfl,p1,p2,j4];cases b1 with
 |false=>exact⟨3,rfl,rfl⟩
 |true=>
 simp only[N,j7,jh4,jxF,j4,s1,s2,s3,s4,s5,s6]
 have hd:j8W L.2.2.1.1 1 98980=A (D (1<=L.2.2.1.1)&&D (L.2.2.1.1<=98980)):=by
  simp_all[j8W]
 rw[hd];simp only[j4];by_cases h1:L.2.2.1.1<1
 .grind
 rw[j01 h1,j00 (show 0<=L.2.2.1.1 by omega),j00 (show 1<=L.2.2.1.1 by omega)];simp only[j7,Bool.true_and];cases D (L.2.2.1.1<=98980) with
 |false=>exact⟨1,rfl,rfl⟩
 |true=>
 simp only[N,j7];cases b3 with
 |false=>exact⟨1,rfl,rfl⟩
 |true=>
 cases b4 with
 |false=>exact⟨1,rfl,rfl⟩
 |true=>
 cases b5 with
 |false=>exact⟨1,rfl,rfl⟩
 |true=>
 simp only[N,j7];by_cases h0:L.2.2.2.2.2.1.length=0
 .simp_all
 rw[j3Z (show (L.2.2.2.2.2.1.length:y)≠0 by omega),j7,j7];by_cases h12:(L.2.2.2.2.2.1.length:y)>12
 .simp_all
 rw[j01 h12,j7,j7];obtain⟨q,e,q1,q2,q3⟩:=jEj (zs:=zs) (ps:=ps) (cs:=cs) (ss:=ss) hpl (L:=L) omg_ L.2.2.2.2.2.1.length 0 omg_;rw[show ((0:M):y)=0 from rfl]at q1 q2;have hcf:j1c L.2.2.2.2.2.1 zs ps cs ss=A (D (q>=0)):=by grind[j1c,j3m]
 rw[hcf,q2];by_cases hq:q>=0
 .rw[if_pos hq]at q3;subst q3;rw[j00 hq];exact⟨3,rfl,rfl⟩
 grind[rE_0,j8D]
theorem jCz(hpl:ps.length<=100)(x:j3b)(hx:x.2.2.2.2<=9223372036854775807):∃e,j1F (zs,ps,cs,ss) x=A e/\jjb (zs,ps,cs,ss) x=A e:=by
 obtain⟨b1,s1,s2⟩:=jn5 x.1 0 2;obtain⟨b2,p1,p2⟩:=jiB x.2.1 (n:=ps.length) omg_;obtain⟨b3,p3,p4⟩:=jiB x.2.2.1 (n:=ps.length) omg_
 have tail:∀X:Option y,X=(cond (cond (x.1 != 2) (x.2.2.1 != 0) R) (A 1) (cond (cond (x.1==2) (x.2.1==x.2.2.1) R) (A 4)
   (cond (cond (D (x.2.2.2.1<0)) J (D (x.2.2.2.2<0))) (A 1) ((j1N (w64 (Ä x.2.2.2.2 86400))).bind λr74=>cond (!r74) (A 1) (cond (D (x.2.2.2.1>=x.2.2.2.2)) (A 6) (A 0))))))->
   ∀Y:Option y,Y=(cond (cond (x.1 != 2) (x.2.2.1 != 0) R) (A 1) (cond (cond (x.1==2) (x.2.1==x.2.2.1) R) (A 4)
   (cond (D (x.2.2.2.1<0)) (A 1) (cond (D (x.2.2.2.2<0)) (A 1) ((jcF).bind λr77=>cond (D (w64 (Ä x.2.2.2.2 86400)>r77)) (A 1) (cond (D (x.2.2.2.1>=x.2.2.2.2)) (A 6) (A 0)))))))->
   ∃e,X=A e/\Y=A e:=λX hX Y hY=>by
  rw[hX,hY];cases (cond (x.1 != 2) (x.2.2.1 != 0) R) with
  |true=>exact⟨1,rfl,rfl⟩
  |false=>
  cases (cond (x.1==2) (x.2.1==x.2.2.1) R) with
  |true=>exact⟨4,rfl,rfl⟩
  |false=>
  simp only[j7];by_cases hf:x.2.2.2.1<0
  .simp_all
  rw[j01 hf];by_cases ht:x.2.2.2.2<0
  .simp_all
  simp(disch:=omega)only[jh4,jxF,jei,S0];grind
 simp only[j1F,j4Z,jjb,jij,show B ps.length=(ps.length:y) from rfl,s1,s2,j4,p1,p2,p3,p4];grind
theorem jCA(hpl:ps.length<=100){es:H j3b}(hl:es.length<=100)(hx:∀x∈es,x.2.2.2.2<=9223372036854775807){m:y}{nm:E}{ls:H j0f}{l3:H E}:∀(n i:M),i+n=es.length->∃e,
   j2Z es (es.length:y) (i:y) zs ps cs ss=A (rE () e)/\jbY m (i:y) zs ps cs ss nm ls es l3=A (rE (m,zs,ps,cs,ss,l3) e)
 |0,i,hi=>by
  rw[j5x,jdb];simp(disch:=omega)only[j1k,j4w,S0];exact⟨0,rfl,rfl⟩
 |n+1,i,hi=>by
  have hlt:i<es.length:=omg_;have hgd:es.getD i (0,0,0,0,0)=es[i]:=by simp[K,hlt]
  obtain⟨e,e1,e2⟩:=jCA (m:=m) (nm:=nm) (ls:=ls) (l3:=l3) hpl hl hx n (i+1) omg_;obtain⟨c,c1,c2⟩:=jCz (zs:=zs) (cs:=cs) (ss:=ss) hpl es[i] (hx _ (W hlt));rw[j5x,jdb];simp only[j1k,j4w,show B es.length=(es.length:y) from rfl];rw[j00 (show (i:y)<(es.length:y) by omega),j2j,j07 (x:=(i:y)+1)];simp only[j6,j8,hgd];rw[show j1F (zs,ps,cs,ss) (es[i].1,es[i].2.1,es[i].2.2.1,es[i].2.2.2.1,es[i].2.2.2.2)=_ from c1,show jjb (zs,ps,cs,ss) (es[i].1,es[i].2.1,es[i].2.2.1,es[i].2.2.2.1,es[i].2.2.2.2)=_ from c2];simp only[j4];by_cases hc:c=0
  .grind[j04]
  .rw[show (c != 0)=J by simpa using hc];exact⟨c,by rw[rE_n _ hc];rfl,by rw[rE_n _ hc];rfl⟩
theorem jCB(hzl:zs.length<=100)(hpl:ps.length<=100)(hcl:cs.length<=100){ls:H j0f}(hl:ls.length<=100){m:y}{nm:E}{es:H j3b}{l3:H E}:∀(n i:M)(L:H E),i+n=ls.length->L.length=i->
  ∃e,j1L zs ps cs ss ls (ls.length:y) (i:y) (jdl L)=A (rE () e)/\jbX m (i:y) zs ps cs ss nm ls es l3 L=A (rE (m,zs,ps,cs,ss,nm,ls,es,l3) e)
 |0,i,L,hi,_=>by
  rw[j4T,jda];simp(disch:=omega)only[j14,j4v,S0];exact⟨0,rfl,rfl⟩
 |n+1,i,L,hi,hL=>by
  have hlt:i<ls.length:=omg_;have hgd:ls.getD i (G,0,(0,0),0,0,[],[],0,0)=ls[i]:=by simp[K,hlt]
  have ih:=jCB hzl hpl hcl hl (m:=m) (nm:=nm) (es:=es) (l3:=l3) n (i+1) (L++[ls[i].1]) omg_ sqo_;obtain⟨en,n1,n2⟩:=jn4 (L:=L) omg_ ls[i].1;obtain⟨c,c1,c2⟩:=jCy (zs:=zs) (ps:=ps) (cs:=cs) (ss:=ss) hzl hpl hcl ls[i];rw[hL]at n2;rw[j4T,jda];simp only[j14,j4v,j4C,j4D,show B ls.length=(ls.length:y) from rfl];rw[j00 (show (i:y)<(ls.length:y) by omega),j2j,j07 (x:=(i:y)+1)];simp only[j6,j8,hgd,n1,j4];rw[j00 (show L.length+[ls[i].1].length<=j03 by simp[j03];omega)];simp only[j6,n2,j4];by_cases he:en=0
  .subst he;simp only[bne_self_eq_false,j7,if_true]
   rw[show j20 (zs,ps,cs,ss) (ls[i].1,ls[i].2.1,(ls[i].2.2.1.1,ls[i].2.2.1.2),ls[i].2.2.2.1,ls[i].2.2.2.2.1,ls[i].2.2.2.2.2.1,ls[i].2.2.2.2.2.2.1,ls[i].2.2.2.2.2.2.2.1,ls[i].2.2.2.2.2.2.2.2)=_ from c1,
    show jgE (zs,ps,cs,ss) (ls[i].1,ls[i].2.1,(ls[i].2.2.1.1,ls[i].2.2.1.2),ls[i].2.2.2.1,ls[i].2.2.2.2.1,ls[i].2.2.2.2.2.1,ls[i].2.2.2.2.2.2.1,ls[i].2.2.2.2.2.2.2.1,ls[i].2.2.2.2.2.2.2.2)=_ from c2]
   simp only[j4];by_cases hc:c=0
   .grind[j04]
   .rw[show (c != 0)=J by simpa using hc];exact⟨c,by rw[rE_n _ hc];rfl,by rw[rE_n _ hc];rfl⟩
  .rw[show (en != 0)=J by simpa using he];exact⟨en,by rw[rE_n _ he];rfl,by rw[rE_n _ he];rfl⟩
theorem jCC(hzl:zs.length<=100)(hpl:ps.length<=100)(hcl:cs.length<=100)(hl:ss.length<=100)(hx:∀s∈ss,∀x∈s.2.2,x.2.2.2.2<=9223372036854775807):∀(n i:M)(L:H E),i+n=ss.length->L.length=i->
  ∃e,j1l zs ps cs ss ss (ss.length:y) (i:y) (jdl L)=A (rE () e)/\jbZ (i:y) zs ps cs ss L=A (rE () e)
 |0,i,L,hi,_=>by
  rw[j3L,jdc];simp(disch:=omega)only[j0U,j4x,S0];exact⟨0,rfl,rfl⟩
 |n+1,i,L,hi,hL=>by
  have hlt:i<ss.length:=omg_;have hgd:ss.getD i (G,[],[])=ss[i]:=by simp[K,hlt]
  have ih:=jCC hzl hpl hcl hl hx n (i+1) (L++[ss[i].1]) omg_ sqo_;have hxi:=hx _ (W hlt);obtain⟨en,n1,n2⟩:=jn4 (L:=L) omg_ ss[i].1;rw[hL]at n2;rw[j3L,jdc];simp only[j0U,j4x,j9o,j9p,show B ss.length=(ss.length:y) from rfl];rw[j00 (show (i:y)<(ss.length:y) by omega),j2j,j07 (x:=(i:y)+1)];simp only[j6,j8,hgd,n1,j4];rw[j00 (show L.length+[ss[i].1].length<=j03 by simp[j03];omega)];simp only[j6,n2,j4];by_cases he:en=0
  .subst he;simp only[bne_self_eq_false,j7,if_true,j2a,show B ss[i].2.1.length=(ss[i].2.1.length:y) from rfl,show B ss[i].2.2.length=(ss[i].2.2.length:y) from rfl];by_cases hlim:(ss[i].2.1.length:y)>6\/(ss[i].2.2.length:y)>48
   .have hb:(cond (D ((ss[i].2.1.length:y)>6)) J (D ((ss[i].2.2.length:y)>48)))=true:=by
     simp_all
    rw[hb];exact⟨5,rfl,rfl⟩
   .rw[j01 (λh=>hlim (.inl h)),j01 (λh=>hlim (.inr h))];simp only[j7];obtain⟨e,e1,e2⟩:=jCB (zs:=zs) (ps:=ps) (cs:=cs) (ss:=ss) hzl hpl hcl (ls:=ss[i].2.1) omg_ (m:=(i:y)) (nm:=ss[i].1) (es:=ss[i].2.2) (l3:=L++[ss[i].1]) ss[i].2.1.length 0 [] omg_ rfl;obtain⟨c,c1,c2⟩:=jCA (zs:=zs) (ps:=ps) (cs:=cs) (ss:=ss) hpl (es:=ss[i].2.2) omg_ hxi (m:=(i:y)) (nm:=ss[i].1) (ls:=ss[i].2.1) (l3:=L++[ss[i].1]) ss[i].2.2.length 0 omg_;rw[show ((0:M):y)=0 from rfl]at e1 e2 c1 c2
    have en:j3n ss[i].2.1 zs ps cs ss=A e:=by
     simp(disch:=omega)only[j3n,show j1L zs ps cs ss ss[i].2.1 (ss[i].2.1.length:y) 0 []=_ from e1,S0];by_cases h0:e=0
     .subst h0;rfl
     .rw[rE_n _ h0];rfl
    rw[en,e2];by_cases h0:e=0
    .subst h0;rw[rE_0];simp only[j4,bne_self_eq_false,j7,j8D,c1,c2];by_cases hc:c=0
     .subst hc;simp(disch:=omega)only[rE_0,S0];exact ih
     .rw[rE_n _ hc,rE_n _ hc];simp only[j4,j8C];rw[show (c != 0)=J by simpa using hc];exact⟨c,by rw[rE_n _ hc];rfl,by rw[rE_n _ hc];rfl⟩
    .rw[rE_n _ h0];simp only[j4,j8C];rw[show (e != 0)=J by simpa using h0];simp only[j6,j4];rw[show (e != 0)=J by simpa using h0];exact⟨e,by rw[rE_n _ h0];rfl,by rw[rE_n _ h0];rfl⟩
  .rw[show (en != 0)=J by simpa using he];exact⟨en,by rw[rE_n _ he];rfl,by rw[rE_n _ he];rfl⟩
theorem jCD(hz:∀z∈zs,ZF z)(hx:∀s∈ss,∀x∈s.2.2,x.2.2.2.2<=9223372036854775807):∃e,j48 (zs,ps,cs,ss)=A e/\j8q (zs,ps,cs,ss)=A e:=by
 simp only[j48,j8q,show B zs.length=(zs.length:y) from rfl,show B ps.length=(ps.length:y) from rfl,show B cs.length=(cs.length:y) from rfl,show B ss.length=(ss.length:y) from rfl];cases hb:(cond (cond (cond (D ((zs.length:y)>16)) J (D ((ps.length:y)>32))) J (D ((cs.length:y)>8))) J (D ((ss.length:y)>12))) with
 |true=>exact⟨5,rfl,rfl⟩
 |false=>
  simp only[U,Bool.or_eq_false_iff,decide_eq_false_iff_not]at hb;simp only[j7];obtain⟨e,e1,e2⟩:=jxU (zs:=zs) (ps:=ps) (cs:=cs) (ss:=ss) hz omg_;rw[e1,e2];simp only[j4];by_cases h0:e=0
  .subst h0;simp only[bne_self_eq_false,j7];obtain⟨c,c1,c2⟩:=jkB (zs:=zs) (ps:=ps) (cs:=cs) (ss:=ss) omg_ omg_;rw[c1,c2];simp only[j4];by_cases h1:c=0
   .subst h1;obtain⟨d,d1,d2⟩:=jzQ (zs:=zs) (ps:=ps) (cs:=cs) (ss:=ss) omg_ omg_;simp only[rE_0,j8D,bne_self_eq_false,j7,d1,d2,j4];by_cases h2:d=0
    .subst h2;simp only[bne_self_eq_false,j7];obtain⟨f,f1,f2⟩:=jCC (zs:=zs) (ps:=ps) (cs:=cs) (ss:=ss) omg_ omg_ omg_ omg_ hx ss.length 0 [] omg_ rfl;rw[show ((0:M):y)=0 from rfl]at f1 f2;refine⟨f,?_,?_⟩
     .simp(disch:=omega)only[j3N,show j1l zs ps cs ss ss (ss.length:y) 0 []=_ from f1,S0];by_cases hf:f=0
      .subst hf;rfl
      .rw[rE_n _ hf];rfl
     .simp only[jfo,f2,j4];by_cases hf:f=0
      .subst hf;rfl
      .rw[rE_n _ hf];rfl
    grind
   .rw[rE_n _ h1,show (c != 0)=J by simpa using h1];exact⟨c,rfl,rfl⟩
  grind
end
end Go.Proofs.Pw
