/- The reference of chapter 8: configurations that are right. -/
import Derived.Test.YtgepoeafaklbjaaGreatPFPD
import Derived.KernelRfl
import Derived.Test.YtgepoeafaklbjaaGreatPFPE
open ByteArray renaming empty->u,ext->Ä
open Int renaming ofNat->A,tmod->Â,tdiv->Ã
open _root_ renaming Int->B,ByteArray->G,List->I,Nat->W
open Bool renaming not_true->D,true->R,true_or->U,not_false->X,false->Y
open Option renaming some->E
open List renaming getElem_mem->F,getElem?_eq_getElem->H,getD_eq_getElem?_getD->M,getElem?_take_of_lt->O,getD->S,take_add_one->À,length_take->Á
open Decidable renaming decide->J
open Classical renaming byContradiction->N
open Go Go.Lft
namespace Go.Proofs.Pw
theorem jyw{x y:G}(h:x≠y):(x.toList==y.toList)=false:=by
 rw[ByteArray.toList_eq,ByteArray.toList_eq];exact Bool.eq_false_iff.2 λhh=>h (Ä (Array.toList_inj.mp (eq_of_beq hh)))
def okC(b:B):Prop:=(97<=b/\b<=122)\/(48<=b/\b<=57)\/b=95\/b=45
theorem jzC{s:G}(hs:s.size<=24):∀(n i:W),i+n=s.size->((jbh s (s.size:B) (i:B)).bind λq0=>sumC q0 (λa=>E a) (λ_=>E R))=E R->∀j:W,i<=j->j<s.size->okC (j39 s j)
 |0,i,hi,_,j,h1,h2=>omg_
 |n+1,i,hi,h,j,h1,h2=>by
  rw[jjB]at h;simp only[j6V,jbL,jgP,j4]at h;rw[j00 omg_,j0O,j05 (x:=(i:B)+1)]at h;simp only[j6]at h
  have key:okC (j39 s i)/\((jbh s (s.size:B) ((i:B)+1)).bind λq0=>sumC q0 (λa=>E a) (λ_=>E R))=E true:=by
   by_cases ha:97<=j39 s i/\j39 s i<=122
   .rw[j00 (show j39 s i>=97 from ha.1),j00 ha.2]at h;simp only[j6,D,j7,j03]at h;exact⟨.inl ha,h⟩
   .have e:cond (J (j39 s i>=97)) (J (j39 s i<=122)) Y=false:=by
     by_cases hx:j39 s i>=97
     .rw[j00 hx,j6];exact j01 omg_
     .rw[j01 hx,j7]
    rw[e]at h;simp only[X,j6]at h;by_cases hb:48<=j39 s i/\j39 s i<=57
    .rw[j00 (show j39 s i>=48 from hb.1),j00 hb.2]at h;simp only[j6,D,j7,j03]at h;exact⟨.inr (.inl hb),h⟩
    .have e2:cond (J (j39 s i>=48)) (J (j39 s i<=57)) Y=false:=by
      by_cases hx:j39 s i>=48
      .rw[j00 hx,j6];exact j01 omg_
      .rw[j01 hx,j7]
     rw[e2]at h;simp only[X,j6]at h;by_cases hc:j39 s i=95
     .have e3:(j39 s i != 95)=false:=by rw[hc];rfl
      rw[e3]at h;simp only[j7,j03]at h;exact⟨.inr (.inr (.inl hc)),h⟩
     .have e3:(j39 s i != 95)=true:=by simpa using hc
      rw[e3]at h;simp only[j6]at h;by_cases hd:j39 s i=45
      .have e4:(j39 s i != 45)=false:=by rw[hd];rfl
       rw[e4]at h;simp only[j7,j03]at h;exact⟨.inr (.inr (.inr hd)),h⟩
      .have e4:(j39 s i != 45)=true:=by simpa using hd
       rw[e4]at h;simp[j06,jjS]at h
  by_cases hj:j=i
  .subst hj;exact key.1
  .exact jzC hs n (i+1) omg_ key.2 j omg_ h2
theorem jzD{s:G}(hs:s.size<=24)(hok:∀j:W,j<s.size->okC (j39 s j)):∀(n i:W),i+n=s.size->jc3 s (i:B)=E (.inr ())
 |0,i,hi=>by
  rw[jgo];simp only[j6A,show A s.size=(s.size:B) from rfl];rw[j01 omg_,j7,j06]
 |n+1,i,hi=>by
  have ih:=jzD hs hok n (i+1) omg_;have ho:=hok i omg_;rw[jgo];simp only[j6A,jkX,j4,show A s.size=(s.size:B) from rfl];rw[j00 omg_,j0O,j05 (x:=(i:B)+1)];simp only[j6,U];have fin:lpK (E (.inl (s,(i:B)+1)):Option ((G×B) ⊕ (Bool ⊕ Unit))) (λh=>jc3 h.1 h.2)=E (.inr ()):=by rw[j03];exact ih
  by_cases ha:97<=j39 s i/\j39 s i<=122
  .rw[j01 (show¬j39 s i<97 by omega),j01 (show¬j39 s i>122 by omega)];exact fin
  .have e:cond (J (j39 s i<97)) R (J (j39 s i>122))=true:=by
    by_cases hx:j39 s i<97
    .rw[j00 hx,j6]
    .rw[j01 hx,j7];exact j00 omg_
   rw[e];simp only[j6];by_cases hb:48<=j39 s i/\j39 s i<=57
   .rw[j00 (show j39 s i>=48 from hb.1),j00 hb.2];exact fin
   .have e2:cond (J (j39 s i>=48)) (J (j39 s i<=57)) Y=false:=by
     by_cases hx:j39 s i>=48
     .rw[j00 hx,j6];exact j01 omg_
     .rw[j01 hx,j7]
    rw[e2];rcases ho with ho|ho|ho|ho
    .exact absurd ho ha
    .exact absurd ho hb
    .rw[ho];exact fin
    .rw[ho];exact fin
theorem jCQ{s:G}(h:j8O s=E R):jjX s=E true:=by
 simp only[j8O,show A s.size=(s.size:B) from rfl]at h;have hz:¬(cond (s.toList==ByteArray.empty.toList) R (J ((s.size:B)>24)))=true:=by intro hx;rw[hx]at h;simp at h
 have hz':cond (s.toList==ByteArray.empty.toList) R (J ((s.size:B)>24))=false:=Bool.eq_false_iff.2 hz;rw[hz']at h;simp only[X,D,Bool.or_false,j7]at h
 have h0:inR 0 s.size=true:=by
  cases hc:inR 0 s.size with
  |true=>rfl
  |false=>rw[hc]at h;simp at h
 have hlo:0<s.size:=by simp only[inR,Bool.and_eq_true,decide_eq_true_eq]at h0;omega
 have hhi:s.size<=24:=by
  have:J ((s.size:B)>24)=false:=by
   revert hz'
   cases (s.toList==ByteArray.empty.toList)<;>simp
  have:=of_decide_eq_false this;omega
 rw[h0]at h;simp only[j6,jbL,j4]at h
 have ha:97<=j39 s 0/\j39 s 0<=122:=by
  apply N;intro hn
  have e:cond (J (j39 s 0>=97)) (J (j39 s 0<=122)) Y=false:=by
   by_cases hx:j39 s 0>=97
   .rw[j00 hx,j6];exact j01 omg_
   .rw[j01 hx,j7]
  rw[e]at h;simp at h
 rw[j00 (show j39 s 0>=97 from ha.1),j00 ha.2]at h;simp only[j6,D,j7]at h;have hok:=jzC hhi s.size 0 omg_ h;simp only[jjX,show A s.size=(s.size:B) from rfl];rw[h0,j01 (show¬(s.size:B)<1 by omega),j01 (show¬(s.size:B)>24 by omega),j01 (show¬j39 s 0<97 by omega),j01 (show¬j39 s 0>122 by omega)];simp only[j7,U,j6];rw[show jc3 s 0=_ from jzD hhi (λj hj=>hok j omg_ hj) s.size 0 omg_];rfl
theorem jda{n lo hi:B}(h1:lo<=n)(h2:n<=hi):j86 n lo hi=E true:=by
 simp only[j86,j00 (show n>=lo from h1),j00 h2,j6]
theorem jCR{n lo hi:B}(h:n<lo):j86 n lo hi=E false:=by
 simp only[j86,j01 (show¬n>=lo by omega),j7]
theorem jwo:jdL=E 98980:=by kernel_rfl
theorem jsh{d:B}(h:j16 d=E R):d<=98980:=by
 apply N;intro hd;simp only[j16,j8P,jil,jik,j4]at h;rw[j01 (show¬d<0 by omega),j00 (show d>=98981 by omega)]at h;simp at h
theorem jzE{d:B}(h:j16 d=E R):0<=d:=by
 apply N;intro hd;simp only[j16,j8P,jil,jik,j4]at h;rw[j00 (show d<0 by omega)]at h;simp at h
theorem jwp{ks:I G}(hn:ks.Nodup){i:W}(hi:i<ks.length){l:I G}(hl:l=ks.take (i+1))(hs:ks.length<=1000):∀(n k:W),k+n=i->jef l (i:B) (k:B)=E (.inr ())
 |0,k,hk=>by
  rw[jgp];simp only[j6B];rw[j01 omg_,j7,j06]
 |n+1,k,hk=>by
  have hll:l.length=i+1:=by rw[hl,Á];omega
  have hk':k<ks.length:=omg_;have g1:l.getD k u=ks[k]:=by rw[hl,M,O omg_,H hk'];rfl
  have g2:l.getD i u=ks[i]:=by rw[hl,M,O omg_,H hi];rfl
  have hne:ks[k]≠ks[i]:=λe=>by
   have:=(List.getElem_inj (h₀:=hk') (h₁:=hi) hn).1 e;omega
  rw[jgp];simp only[j6B];rw[j00 omg_,j0X (show (0:B)<=(k:B) by omega) omg_,j0X (show (0:B)<=(i:B) by omega) omg_];simp only[j6,j8,g1,g2,jyw hne,j7];rw[j05 (x:=(k:B)+1),j03];exact jwp hn hi hl hs n (k+1) omg_
theorem jCS{ks:I G}(h:NmL ks){i:W}(hi:i<ks.length)(hs:ks.length<=1000):jbm (ks.take (i+1)) (i:B)=E 0:=by
 have hll:(ks.take (i+1)).length=i+1:=by rw[Á];omega
 have g2:(ks.take (i+1)).getD i u=ks[i]:=by rw[M,O omg_,H hi];rfl
 simp only[jbm];rw[j0O];simp only[j6,j8,g2,jCQ (h.2 _ (F hi)),j4,D,j7];rw[show jef (ks.take (i+1)) (i:B) 0=_ from jwp h.1 hi rfl hs i 0 omg_];rfl
theorem jpH{α:Type}(f:α->G){xs:I α}(h:NmL (xs.map f)){i:W}(hi:i<xs.length)(hs:xs.length<=1000) :
  (xs.take i).map f++[f xs[i]]=(xs.take (i+1)).map f/\jbm ((xs.take (i+1)).map f) (i:B)=E 0:=by
 refine⟨?_,?_⟩
 .rw[À,H hi,List.map_append];rfl
 .have:=jCS h (i:=i) (by simpa using hi) (by simpa using hs);rwa[<-List.map_take]at this
theorem jsi{nm:G}{o:B}{rs:I Rule}(h:∀r∈rs,Â r.2.2.2.2.2.2 60=0)(hl:rs.length<=1000):∀(n i:W),i+n=rs.length->jam R (i:B) nm o rs=E R
 |0,i,hi=>by
  rw[jdK];simp only[j4H,show A rs.length=(rs.length:B) from rfl];rw[j01 omg_,j7,j06]
 |n+1,i,hi=>by
  have hi':i<rs.length:=omg_;have hgd:rs.getD i (0,0,0,0,0,0,0)=rs[i]:=by simp[S,hi']
  rw[jdK];simp only[j4H,show A rs.length=(rs.length:B) from rfl];rw[j00 omg_,j0O];simp only[j6,U,j8,hgd,h _ (F hi'),beq_self_eq_true];rw[j05 (x:=(i:B)+1),j03];exact jsi h hl n (i+1) omg_
theorem jDQ{z:j0D}(h:ZCk z):jc5 z=E true:=by
 simp only[jc5,h.o60,beq_self_eq_true];rw[show jam R 0 z.1 z.2.1 z.2.2=_ from jsi h.r60 h.len z.2.2.length 0 omg_];rfl
section
variable{zs:I j0D}{ps:I j0h}{cs:I CalT}{ss:I j0r}
theorem jzF(hn:NmL (zs.map (·.1)))(hc:∀z∈zs,ZCk z)(hr:∀z∈zs,j7v z=E 0)(hl:zs.length<=100):∀(n i:W),i+n=zs.length->jcX (i:B) zs ps cs ss ((zs.take i).map (·.1))=E (.inr ())
 |0,i,hi=>by
  rw[jfp];simp only[j5O,show A zs.length=(zs.length:B) from rfl];rw[j01 omg_,j7,j06]
 |n+1,i,hi=>by
  have hi':i<zs.length:=omg_;have hgd:zs.getD i (u,0,[])=zs[i]:=by simp[S,hi']
  obtain⟨n1,n2⟩:=jpH (·.1) hn hi' omg_;have hck:=hc _ (F hi');rw[jfp];simp only[j5O,show A zs.length=(zs.length:B) from rfl];rw[j00 omg_,j0O];simp only[j6,j8,hgd];rw[j00 (show ((zs.take i).map (·.1)).length+[zs[i].1].length<=j02 by simp[j02];omega),j6,n1,n2];simp only[j4,bne_self_eq_false,j7,show j7v (zs[i].1,zs[i].2.1,zs[i].2.2)=_ from hr _ (F hi'),U,j6,show jc5 (zs[i].1,zs[i].2.1,zs[i].2.2)=_ from jDQ hck,D];rw[j05 (x:=(i:B)+1),j03];exact jzF hn hc hr hl n (i+1) omg_
theorem jwq{w:WL}(h:WOk 0 w)(hl:w.length<=14):∀(n i:W),i+n=w.length->jcY w (i:B)=E (.inr ())
 |0,i,hi=>by
  rw[jfq];simp only[j5P,show A w.length=(w.length:B) from rfl];rw[j01 omg_,j7,j06]
 |n+1,i,hi=>by
  have hi':i<w.length:=omg_;have hg:=jfT h i hi';have ih:=jwq h hl n (i+1) omg_;rw[jfq];simp only[j5P,show A w.length=(w.length:B) from rfl];rw[j00 omg_,j0O];simp only[j6,j8];rw[j01 (show¬(w.getD i (0,0)).1<0 by omega),j01 (show¬(w.getD i (0,0)).1>=(w.getD i (0,0)).2 by omega),j01 (show¬(w.getD i (0,0)).2>604800 by omega),j05 (x:=(i:B)+1)];simp only[j7];by_cases h0:(i:B)>0
  .obtain⟨k,rfl⟩:∃k,i=k+1:=⟨i-1,omg_⟩;have hgap:=jqX h k omg_;rw[j00 h0,j6,j05 (x:=((k+1:W):B)-1),show ((k+1:W):B)-1=(k:B) by omega,j0X (show (0:B)<=(k:B) by omega) omg_];simp only[j6,j8];rw[j01 (show¬(w.getD (k+1) (0,0)).1<(w.getD k (0,0)).2 by omega),j7,j03];exact ih
  .rw[j01 h0,j7,j03];exact ih
theorem r5ck{w:WL}(h:WOk 0 w)(hl:w.length<=14):jaI w=E 0:=by
 simp only[jaI,show A w.length=(w.length:B) from rfl];rw[j01 omg_,j7,show jcY w 0=_ from jwq h hl w.length 0 omg_];rfl
theorem jCT{n:B}(h:j3o n=E R):jhR n=E true:=h
theorem jzG(hn:NmL (ps.map (·.1)))(hc:∀p∈ps,PCk zs.length p)(hl:ps.length<=100)(hzl:zs.length<=100):∀(n i:W),i+n=ps.length->jbn (i:B) zs ps cs ss ((ps.take i).map (·.1))=E (.inr ())
 |0,i,hi=>by
  rw[jeL];simp only[j57,show A ps.length=(ps.length:B) from rfl];rw[j01 omg_,j7,j06]
 |n+1,i,hi=>by
  have hi':i<ps.length:=omg_;have hgd:ps.getD i (u,0,[],0,0,Y)=ps[i]:=by simp[S,hi']
  obtain⟨n1,n2⟩:=jpH (·.1) hn hi' omg_;have hck:=hc _ (F hi');have h0:=hck.z0;have h1:=hck.z1;rw[jeL];simp only[j57,show A ps.length=(ps.length:B) from rfl,show A zs.length=(zs.length:B) from rfl];rw[j00 omg_,j0O];simp only[j6,j8,hgd];rw[j00 (show ((ps.take i).map (·.1)).length+[ps[i].1].length<=j02 by simp[j02];omega),j6,n1,n2,hck.nb,j05 (x:=(zs.length:B)-1),jda h0 omg_];simp only[j4,bne_self_eq_false,j7,D,r5ck hck.w hck.wl,jCT hck.m,jCT hck.r];rw[j05 (x:=(i:B)+1),j03];exact jzG hn hc hl hzl n (i+1) omg_
theorem jwr{ds:I B}(h:∀d∈ds,j16 d=E R)(hl:ds.length<=64){m z:B}{nm:G}{l3:I G}:∀(n i:W),i+n=ds.length->j8r m (i:B) zs ps cs ss nm z ds l3=E (.inr (m,zs,ps,cs,ss,nm,z,ds,l3))
 |0,i,hi=>by
  rw[jc6];simp only[j3I,show A ds.length=(ds.length:B) from rfl];rw[j01 omg_,j7,j06]
 |n+1,i,hi=>by
  have hi':i<ds.length:=omg_;have hgd:ds.getD i (0:B)=ds[i]:=by simp[hi']
  have hd:=h _ (F hi');rw[jc6];simp only[j3I,show A ds.length=(ds.length:B) from rfl];rw[j00 omg_,j0O];simp only[j6,j8,hgd,jwo,j4,jda (jzE hd) (jsh hd),D,j7];rw[j05 (x:=(i:B)+1),j03];exact jwr h hl n (i+1) omg_
theorem jws{ds:I B}(h:ds.Pairwise (· < ·))(hl:ds.length<=64){m z:B}{nm:G}{l3:I G}:∀(n i:W),ds.length<=i+n->1<=i->j8s m (i:B) zs ps cs ss nm z ds l3=E (.inr (m,zs,ps,cs,ss,l3))
 |n,i,hi,h1=>by
  rw[jgV];simp only[j58,show A ds.length=(ds.length:B) from rfl];by_cases hi':i<ds.length
  .obtain⟨n,rfl⟩:∃m,n=m+1:=⟨n-1,omg_⟩;obtain⟨k,rfl⟩:∃k,i=k+1:=⟨i-1,omg_⟩;have hgd:ds.getD (k+1) (0:B)=ds[k+1]:=by simp[hi']
   have hgk:ds.getD k (0:B)=ds[k]:=by simp[show k<ds.length by omega]
   have hlt:=List.pairwise_iff_getElem.1 h k (k+1) omg_ hi' omg_;rw[j00 omg_,j0O,j05 (x:=((k+1:W):B)-1),show ((k+1:W):B)-1=(k:B) by omega,j0X (show (0:B)<=(k:B) by omega) omg_];simp only[j6,j8,hgd,hgk];rw[j01 (show¬ds[k+1]<=ds[k] by omega),j7,j05 (x:=((k+1:W):B)+1),j03];exact jws h hl n (k+1+1) omg_ omg_
  .rw[j01 omg_,j7,j06]
 termination_by n=>n
theorem jzH(hn:NmL (cs.map (·.1)))(hc:∀x∈cs,CCk zs.length x)(hl:cs.length<=100)(hzl:zs.length<=100):∀(n i:W),i+n=cs.length->j8t (i:B) zs ps cs ss ((cs.take i).map (·.1))=E (.inr ())
 |0,i,hi=>by
  rw[jc7];simp only[j3J,show A cs.length=(cs.length:B) from rfl];rw[j01 omg_,j7,j06]
 |n+1,i,hi=>by
  have hi':i<cs.length:=omg_;have hgd:cs.getD i (u,0,[])=cs[i]:=by simp[S,hi']
  obtain⟨n1,n2⟩:=jpH (·.1) hn hi' omg_;have hck:=hc _ (F hi');have h0:=hck.z0;have h1:=hck.z1;have h2:=hck.len;have l2:=jwr (zs:=zs) (ps:=ps) (cs:=cs) (ss:=ss) hck.day h2 (m:=(i:B)) (z:=cs[i].2.1) (nm:=cs[i].1) (l3:=(cs.take (i+1)).map (·.1)) cs[i].2.2.length 0 omg_;have l4:=jws (zs:=zs) (ps:=ps) (cs:=cs) (ss:=ss) hck.asc h2 (m:=(i:B)) (z:=cs[i].2.1) (nm:=cs[i].1) (l3:=(cs.take (i+1)).map (·.1)) cs[i].2.2.length 1 omg_ omg_;rw[jc7];simp only[j3J,show A cs.length=(cs.length:B) from rfl,show A zs.length=(zs.length:B) from rfl];rw[j00 omg_,j0O];simp only[j6,j8,hgd];rw[j00 (show ((cs.take i).map (·.1)).length+[cs[i].1].length<=j02 by simp[j02];omega),j6,n1,n2,j05 (x:=(zs.length:B)-1),jda h0 omg_];simp only[j4,bne_self_eq_false,j7,D,show A cs[i].2.2.length=(cs[i].2.2.length:B) from rfl];rw[j01 omg_,j7,show j8r (i:B) 0 zs ps cs ss cs[i].1 cs[i].2.1 cs[i].2.2 ((cs.take (i+1)).map (·.1))=_ from l2];simp only[j4,j4j];rw[show j8s (i:B) 1 zs ps cs ss cs[i].1 cs[i].2.1 cs[i].2.2 ((cs.take (i+1)).map (·.1))=_ from l4];simp only[j4,j4j];rw[j05 (x:=(i:B)+1),j03];exact jzH hn hc hl hzl n (i+1) omg_
theorem jzI{L:j0b}(h:∀m∈L.2.2.2.2.2.1,0<=m/\m<(ps.length:B))(hl:L.2.2.2.2.2.1.length<=12)(hp:ps.length<=100):∀(n i:W),i+n=L.2.2.2.2.2.1.length->
  jcZ (i:B) zs ps cs ss L.1 L.2.1 L.2.2.1.1 L.2.2.1.2 L.2.2.2.1 L.2.2.2.2.1 L.2.2.2.2.2.1 L.2.2.2.2.2.2.1 L.2.2.2.2.2.2.2.1 L.2.2.2.2.2.2.2.2=E (.inr (zs,ps,cs,ss,L.1,L.2.1,L.2.2.1.1,L.2.2.1.2,L.2.2.2.1,L.2.2.2.2.1,L.2.2.2.2.2.1,L.2.2.2.2.2.2.1,L.2.2.2.2.2.2.2.1,L.2.2.2.2.2.2.2.2))
 |0,i,hi=>by
  rw[jfr];simp only[j5Q,show A L.2.2.2.2.2.1.length=(L.2.2.2.2.2.1.length:B) from rfl];rw[j01 omg_,j7,j06]
 |n+1,i,hi=>by
  have hi':i<L.2.2.2.2.2.1.length:=omg_;have hgd:L.2.2.2.2.2.1.getD i (0:B)=L.2.2.2.2.2.1[i]:=by simp[hi']
  have hd:=h _ (F hi');rw[jfr];simp only[j5Q,show A L.2.2.2.2.2.1.length=(L.2.2.2.2.2.1.length:B) from rfl,show A ps.length=(ps.length:B) from rfl];rw[j00 omg_,j0O,j05 (x:=(ps.length:B)-1)];simp only[j6,j8,hgd,jda hd.1 (show L.2.2.2.2.2.1[i]<=(ps.length:B)-1 by omega),j4,D,j7];rw[j05 (x:=(i:B)+1),j03];exact jzI h hl hp n (i+1) omg_
theorem jBe{L:j0b}(h:LCk zs.length ps.length cs.length L)(hz:zs.length<=100)(hp:ps.length<=100)(hc:cs.length<=100):jfs (zs,ps,cs,ss) L=E 0:=by
 have h0:=h.z0;have h1:=h.z1;have hm0:=h.m0;have hm1:=h.m1;have hc1:=h.c1;have hwl:=h.wl;have lp:=jzI (zs:=zs) (ps:=ps) (cs:=cs) (ss:=ss) h.mem hm1 hp L.2.2.2.2.2.1.length 0 omg_;simp only[jfs,show A zs.length=(zs.length:B) from rfl,show A L.2.2.2.2.2.1.length=(L.2.2.2.2.2.1.length:B) from rfl];rw[j05 (x:=(zs.length:B)-1),jda h0 omg_,jwo];simp only[j4,D,j7,jda h.d0 (jsh h.day),jda h.c0 hc1,jda h.u0 h.u1,jda h.e0 h.e1];rw[j1G (show¬(L.2.2.2.2.2.1.length:B)=0 by omega),j01 (show¬(L.2.2.2.2.2.1.length:B)>12 by omega)];simp only[j7];rw[show jcZ 0 zs ps cs ss L.1 L.2.1 L.2.2.1.1 L.2.2.1.2 L.2.2.2.1 L.2.2.2.2.1 L.2.2.2.2.2.1 L.2.2.2.2.2.2.1 L.2.2.2.2.2.2.2.1 L.2.2.2.2.2.2.2.2=_ from lp];simp only[j4,j4j,r5ck h.w hwl,bne_self_eq_false,j7,jda h.mode0 h.mode1,D,show A cs.length=(cs.length:B) from rfl];rw[j05 (x:=(cs.length:B)-1)];by_cases hm:L.2.2.2.2.2.2.2.2=0
 .have e:(L.2.2.2.2.2.2.2.2 != 0)=false:=by rw[hm];rfl
  have e2:(L.2.2.2.2.2.2.2.1 != 0)=false:=by rw[h.cal0 hm];rfl
  rw[e,e2,j43 hm];rfl
 .have e:(L.2.2.2.2.2.2.2.2 != 0)=true:=by simpa using hm
  have hcal:=h.cal hm;rw[e,j1G hm,jda hcal.1 omg_];rfl
theorem jCU{x:j1D}(h:ECk ps.length x)(hp:ps.length<=100):jhS (zs,ps,cs,ss) x=E 0:=by
 have hf0:=h.f0;have hft:=h.ft;have ht1:=h.t1;have hd:=jsh h.day;have htd:Ã x.2.2.2.2 86400=x.2.2.2.2/86400:=jcm omg_
 have hin:∃b,j86 x.2.1 0 ((ps.length:B)-1)=E b/\cond (!b) (cond (x.1 != 1) R (x.2.1 != -1)) Y=false:=by
  rcases h.a with⟨a1,a2⟩|⟨a1,a2⟩
  .exact⟨R,jda a1 omg_,rfl⟩
  .exact⟨Y,jCR omg_,by rw[a1,a2];rfl⟩
 obtain⟨b,eb,hb⟩:=hin;simp only[jhS,jgW,show A ps.length=(ps.length:B) from rfl];rw[j05 (x:=(ps.length:B)-1),jda h.k0 h.k1,eb];simp only[j4,D,j7,hb];rw[j01 (show¬x.2.2.2.1<0 by omega),j01 (show¬x.2.2.2.2<0 by omega),j4N (x:=Ã x.2.2.2.2 86400) (by rw[htd];omega) (by rw[htd];omega),jwo];simp only[j7,j4];rw[j01 (show¬Ã x.2.2.2.2 86400>98980 by omega),j01 (show¬x.2.2.2.1>=x.2.2.2.2 by omega)];simp only[j7];by_cases hk:x.1=2
 .obtain⟨b1,b2,b3⟩:=h.b hk;have e2:(x.1 != 2)=false:=by rw[hk];rfl
  rw[j43 hk,j6,jda b1 omg_,e2,j1G b3];rfl
 .have e2:(x.1 != 2)=true:=by simpa using hk
  rw[j1G hk,e2,h.b0 hk];rfl
theorem jwt{ls:I j0b}(hn:NmL (ls.map (·.1)))(hc:∀x∈ls,LCk zs.length ps.length cs.length x)(hl:ls.length<=100)(hz:zs.length<=100)(hp:ps.length<=100)(hcl:cs.length<=100){m:B}{nm:G}{es:I j1D}{l3:I G}:∀(n i:W),i+n=ls.length->
  j8u m (i:B) zs ps cs ss nm ls es l3 ((ls.take i).map (·.1))=E (.inr (m,zs,ps,cs,ss,nm,ls,es,l3))
 |0,i,hi=>by
  rw[jc8];simp only[j3K,show A ls.length=(ls.length:B) from rfl];rw[j01 omg_,j7,j06]
 |n+1,i,hi=>by
  have hi':i<ls.length:=omg_;have hgd:ls.getD i (u,0,(0,0),0,0,[],[],0,0)=ls[i]:=by simp[S,hi']
  obtain⟨n1,n2⟩:=jpH (·.1) hn hi' omg_;have hck:=hc _ (F hi');rw[jc8];simp only[j3K,show A ls.length=(ls.length:B) from rfl];rw[j00 omg_,j0O];simp only[j6,j8,hgd];rw[j00 (show ((ls.take i).map (·.1)).length+[ls[i].1].length<=j02 by simp[j02];omega),j6,n1,n2];simp only[j4,bne_self_eq_false,j7];rw[show jfs (zs,ps,cs,ss) (ls[i].1,ls[i].2.1,(ls[i].2.2.1.1,ls[i].2.2.1.2),ls[i].2.2.2.1,ls[i].2.2.2.2.1,ls[i].2.2.2.2.2.1,ls[i].2.2.2.2.2.2.1,ls[i].2.2.2.2.2.2.2.1,ls[i].2.2.2.2.2.2.2.2)=_ from jBe hck hz hp hcl];simp only[j4,bne_self_eq_false,j7];rw[j05 (x:=(i:B)+1),j03];exact jwt hn hc hl hz hp hcl n (i+1) omg_
theorem jwu{es:I j1D}(hc:∀x∈es,ECk ps.length x)(hl:es.length<=48)(hp:ps.length<=100){m:B}{nm:G}{ls:I j0b}{l3:I G}:∀(n i:W),i+n=es.length->
  j8v m (i:B) zs ps cs ss nm ls es l3=E (.inr (m,zs,ps,cs,ss,l3))
 |0,i,hi=>by
  rw[jc9];simp only[j3L,show A es.length=(es.length:B) from rfl];rw[j01 omg_,j7,j06]
 |n+1,i,hi=>by
  have hi':i<es.length:=omg_;have hgd:es.getD i (0,0,0,0,0)=es[i]:=by simp[S,hi']
  have hck:=hc _ (F hi');rw[jc9];simp only[j3L,show A es.length=(es.length:B) from rfl];rw[j00 omg_,j0O];simp only[j6,j8,hgd];rw[show jhS (zs,ps,cs,ss) (es[i].1,es[i].2.1,es[i].2.2.1,es[i].2.2.2.1,es[i].2.2.2.2)=_ from jCU hck hp];simp only[j4,bne_self_eq_false,j7];rw[j05 (x:=(i:B)+1),j03];exact jwu hc hl hp n (i+1) omg_
theorem jzJ(hn:NmL (ss.map (·.1)))(hc:∀x∈ss,SCk zs.length ps.length cs.length x)(hl:ss.length<=100)(hz:zs.length<=100)(hp:ps.length<=100)(hcl:cs.length<=100):∀(n i:W),i+n=ss.length->
  j8w (i:B) zs ps cs ss ((ss.take i).map (·.1))=E (.inr ())
 |0,i,hi=>by
  rw[jca];simp only[j3M,show A ss.length=(ss.length:B) from rfl];rw[j01 omg_,j7,j06]
 |n+1,i,hi=>by
  have hi':i<ss.length:=omg_;have hgd:ss.getD i (u,[],[])=ss[i]:=by simp[S,hi']
  obtain⟨n1,n2⟩:=jpH (·.1) hn hi' omg_;have hck:=hc _ (F hi');have h1:=hck.ll;have h2:=hck.el;have l2:=jwt (ss:=ss) hck.nm hck.ly omg_ hz hp hcl (m:=(i:B)) (nm:=ss[i].1) (es:=ss[i].2.2) (l3:=(ss.take (i+1)).map (·.1)) ss[i].2.1.length 0 omg_;have l4:=jwu (zs:=zs) (cs:=cs) (ss:=ss) hck.ed h2 hp (m:=(i:B)) (nm:=ss[i].1) (ls:=ss[i].2.1) (l3:=(ss.take (i+1)).map (·.1)) ss[i].2.2.length 0 omg_;rw[jca];simp only[j3M,show A ss.length=(ss.length:B) from rfl];rw[j00 omg_,j0O];simp only[j6,j8,hgd];rw[j00 (show ((ss.take i).map (·.1)).length+[ss[i].1].length<=j02 by simp[j02];omega),j6,n1,n2];simp only[j4,bne_self_eq_false,j7,show A ss[i].2.1.length=(ss[i].2.1.length:B) from rfl,show A ss[i].2.2.length=(ss[i].2.2.length:B) from rfl];rw[j01 (show¬(ss[i].2.1.length:B)>6 by omega),j01 (show¬(ss[i].2.2.length:B)>48 by omega)];simp only[j7];rw[show j8u (i:B) 0 zs ps cs ss ss[i].1 ss[i].2.1 ss[i].2.2 ((ss.take (i+1)).map (·.1)) []=_ from l2];simp only[j4,j4j];rw[show j8v (i:B) 0 zs ps cs ss ss[i].1 ss[i].2.1 ss[i].2.2 ((ss.take (i+1)).map (·.1))=_ from l4];simp only[j4,j4j];rw[j05 (x:=(i:B)+1),j03];exact jzJ hn hc hl hz hp hcl n (i+1) omg_
theorem jCV(h:j6O (zs,ps,cs,ss))(hr:∀z∈zs,j7v z=E 0):jdM (zs,ps,cs,ss)=E 0:=by
 have hzl:zs.length<=16:=h.zl;have hpl:ps.length<=32:=h.pl;have hcl:cs.length<=8:=h.cl;have hsl:ss.length<=12:=h.sl;have lz:=jzF (zs:=zs) (ps:=ps) (cs:=cs) (ss:=ss) h.zn h.zc hr omg_ zs.length 0 omg_;have lp:=jzG (zs:=zs) (ps:=ps) (cs:=cs) (ss:=ss) h.pn h.pc omg_ omg_ ps.length 0 omg_;have lc:=jzH (zs:=zs) (ps:=ps) (cs:=cs) (ss:=ss) h.cn h.cc omg_ omg_ cs.length 0 omg_;have ls:=jzJ (zs:=zs) (ps:=ps) (cs:=cs) (ss:=ss) h.sn h.sc omg_ omg_ omg_ omg_ ss.length 0 omg_;simp only[jdM,show A zs.length=(zs.length:B) from rfl,show A ps.length=(ps.length:B) from rfl,show A cs.length=(cs.length:B) from rfl,show A ss.length=(ss.length:B) from rfl];rw[j01 (show¬(zs.length:B)>16 by omega),j01 (show¬(ps.length:B)>32 by omega),j01 (show¬(cs.length:B)>8 by omega),j01 (show¬(ss.length:B)>12 by omega)];simp only[j7,jkY,show jcX 0 zs ps cs ss []=_ from lz,j4,j4j,bne_self_eq_false,jiQ,show jbn 0 zs ps cs ss []=_ from lp,jeh,show j8t 0 zs ps cs ss []=_ from lc,jei,show j8w 0 zs ps cs ss []=_ from ls]
end
theorem r4ck{z:j0D}(h:ZOk z):j7v z=E 0:=by
 have h4:=h.zref.2.1;simp only[j7v];rw[show j0q (z.1,z.2.1,z.2.2)=_ from h4.1];rfl
theorem jBf{w:WL}(hl:w.length<=14)(s:B):∀(n i:W),i+n=w.length->jbp w s (i:B)=E (cond (hasB s (w.drop i)) (.inl R) (.inr ()))
 |0,i,hi=>by
  rw[jeN];simp only[j5b,show A w.length=(w.length:B) from rfl];rw[j01 omg_,j7,j06,List.drop_of_length_le omg_];rfl
 |n+1,i,hi=>by
  have hi':i<w.length:=omg_;have hgd:w.getD i (0,0)=w[i]:=by simp[S,hi']
  rw[jeN];simp only[j5b,show A w.length=(w.length:B) from rfl];rw[j00 omg_,j0O];simp only[j6,U,j8,hgd];rw[j05 (x:=(i:B)+1),List.drop_eq_getElem_cons hi'];have hb:hasB s (w[i]::w.drop (i+1))=cond (cond (J (w[i].1<=s)) (J (s<w[i].2)) Y) R (hasB s (w.drop (i+1))):=rfl;rw[hb];by_cases h1:w[i].1<=s
  .rw[j00 (show s>=w[i].1 from h1)];simp only[j6];by_cases h2:s<w[i].2
   .rw[j00 h2];rfl
   .rw[j01 h2];simp only[j7,j03];exact jBf hl s n (i+1) omg_
  .rw[j01 (show¬s>=w[i].1 from h1)];simp only[j7,j03];exact jBf hl s n (i+1) omg_
theorem jwv{w:WL}(hl:w.length<=14)(s:B):jg7 w s=E (hasB s w):=by
 have:=jBf hl s w.length 0 omg_;simp only[jg7,show jbp w s 0=_ from this,j4,List.drop_zero];cases hasB s w<;>rfl
theorem jCW{z:j0D}(hz:ZOk z){t:B}(h0:0<=t)(h1:t<=8589934592):j4I z t=E (locD z t,0):=by
 have h4:=hz.zref.2.1;obtain⟨k,hk,k1,k2⟩:=jaq h4.2 h0 h1;have e:=jge h4.2 hk k1 k2;have:locD z t=((t+tof z.2.1 (tb z).2 k)/86400,(t+tof z.2.1 (tb z).2 k)%86400):=by simp only[locD,show j1B (tb z) t=_ from e,Option.getD_some]
 rw[this];exact jsb h4 h0 h1 hk k1 k2
theorem jCX{z:j0D}(hz:ZOk z){t:B}(h0:0<=t)(h1:t<=8589934592){w:WL}(hw:WOk 0 w)(hl:w.length<=14):jbD z t=E (secD (locD z t),0)/\jp8 z w t=E (hasB (secD (locD z t)) w):=by
 have e1:=jCW hz h0 h1;obtain⟨_,hsc⟩:=jr3 hz h0 h1;have e2:j7M (locD z t)=E (secD (locD z t)):=hsc;have e3:jbD z t=E (secD (locD z t),0):=by simp only[jbD,show j4I (z.1,z.2.1,z.2.2) t=_ from e1,j4,bne_self_eq_false,j7,show j7M ((locD z t).1,(locD z t).2)=_ from e2]
 refine⟨e3,?_⟩;simp only[jp8,show jbD (z.1,z.2.1,z.2.2) t=_ from e3,j4,beq_self_eq_true,j6,r5ck hw hl,jwv hl]
section
variable{zs:I j0D}{ps:I j0h}{cs:I CalT}(hs:SOk2 zs ps cs)
include hs
theorem jBg{k d e:B}{x:CalT}(hx:CCk zs.length x){L:j0b}:∀(n i:W)(b:Bool),i+n=x.2.2.length->b=J (d∈x.2.2.take i)->
  jad k b (i:B) L.1 L.2.1 L.2.2.1.1 L.2.2.1.2 L.2.2.2.1 L.2.2.2.2.1 L.2.2.2.2.2.1 L.2.2.2.2.2.2.1 L.2.2.2.2.2.2.2.1 L.2.2.2.2.2.2.2.2 x.1 x.2.1 x.2.2 d e=
   E (k,J (d∈x.2.2),L.1,L.2.1,L.2.2.1.1,L.2.2.1.2,L.2.2.2.1,L.2.2.2.2.1,L.2.2.2.2.2.1,L.2.2.2.2.2.2.1,L.2.2.2.2.2.2.2.1,L.2.2.2.2.2.2.2.2)
 |0,i,b,hi,hb=>by
  rw[jgq];simp only[j6C,show A x.2.2.length=(x.2.2.length:B) from rfl];rw[j01 omg_,j7,j06,hb,List.take_of_length_le omg_]
 |n+1,i,b,hi,hb=>by
  have _:=hs;have hxl:=hx.len;have hi':i<x.2.2.length:=omg_;have hgd:x.2.2.getD i (0:B)=x.2.2[i]:=by simp[hi']
  rw[jgq];simp only[j6C,show A x.2.2.length=(x.2.2.length:B) from rfl];rw[j00 omg_,j05 (x:=(i:B)+1),j6];have ht:x.2.2.take (i+1)=x.2.2.take i++[x.2.2[i]]:=by rw[À,H hi'];rfl
  cases hbb:b with
  |true=>simp only[j6,j03];refine jBg hx n (i+1) R omg_ ?_;have:d∈x.2.2.take i:=of_decide_eq_true (by rw[<-hb,hbb]);rw[ht];exact(j00 (List.mem_append_left _ this)).symm
  |false=>
   have hnm:d∉x.2.2.take i:=of_decide_eq_false (by rw[<-hb,hbb]);rw[j0X (show (0:B)<=(i:B) by omega) omg_];simp only[j7,j6,j8,hgd,j03];refine jBg hx n (i+1) _ omg_ ?_;rw[ht];by_cases he:x.2.2[i]=d
   .rw[j43 he];exact(j00 (List.mem_append_right _ (by simp[he]))).symm
   .rw[j1G he];refine(j01 λhm=>?_).symm;rcases List.mem_append.1 hm with h|h
    .exact hnm h
    .simp at h;exact he h.symm
theorem jBh{L:j0b}(hL:LCk zs.length ps.length cs.length L){ss:I j0r}{t:B}(h0:0<=t)(h1:t<=8589934592):∃k,jhU (zs,ps,cs,ss) L t=E (k,onX zs cs L t)/\(onX zs cs L t=R->k=shK (zAt zs L.2.1) L t):=by
 have hRt:=hL.rt2;have hz:ZOk (zAt zs L.2.1):=zget hs.so.ok hL.z0 hL.z1;have h4:=hz.zref.2.1;obtain⟨K,eK,hK⟩:=jCG h4 hRt h0 h1;have hKs:K=shK (zAt zs L.2.1) L t:=ShO.uniq h4.2 hRt hK (jd9 hz hRt h0 h1).2;subst hKs;have ek:jfu (zAt zs L.2.1) L t=E (shK (zAt zs L.2.1) L t,0):=by simp only[jfu,show jcb ((zAt zs L.2.1).1,(zAt zs L.2.1).2.1,(zAt zs L.2.1).2.2) (L.1,L.2.1,(L.2.2.1.1,L.2.2.1.2),L.2.2.2.1,L.2.2.2.2.1,L.2.2.2.2.2.1,L.2.2.2.2.2.2.1,L.2.2.2.2.2.2.2.1,L.2.2.2.2.2.2.2.2)=_ from jlE h4 L,j4];rw[if_pos hRt,j01 (show¬t<0 by omega),j01 (show¬t>8589934592 by omega)];simp only[bne_self_eq_false,j7];rw[show jcd ((zAt zs L.2.1).1,(zAt zs L.2.1).2.1,(zAt zs L.2.1).2.2) (L.1,L.2.1,(L.2.2.1.1,L.2.2.1.2),L.2.2.2.1,L.2.2.2.2.1,L.2.2.2.2.2.1,L.2.2.2.2.2.2.1,L.2.2.2.2.2.2.2.1,L.2.2.2.2.2.2.2.2) t=_ from eK];rfl
 obtain⟨_,ein⟩:=jCX hz h0 h1 hL.w hL.wl
 have htail:(cond (L.2.2.2.2.2.2.2.2==(0:B)) (E (shK (zAt zs L.2.1) L t,R)) (cond (inR L.2.2.2.2.2.2.2.1 cs.length) (cond (inR (cs.getD L.2.2.2.2.2.2.2.1.toNat (u,0,[])).2.1 zs.length)
   ((
    j4I ((zs.getD (cs.getD L.2.2.2.2.2.2.2.1.toNat (u,(0:B),([]:I B))).2.1.toNat (u,0,[])).1,(zs.getD (cs.getD L.2.2.2.2.2.2.2.1.toNat (u,(0:B),([]:I B))).2.1.toNat (u,0,[])).2.1,(zs.getD (cs.getD L.2.2.2.2.2.2.2.1.toNat (u,(0:B),([]:I B))).2.1.toNat (u,0,[])).2.2) t).bind λr67=>
    (jad (shK (zAt zs L.2.1) L t) Y 0 L.1 L.2.1 L.2.2.1.1 L.2.2.1.2 L.2.2.2.1 L.2.2.2.2.1 L.2.2.2.2.2.1 L.2.2.2.2.2.2.1 L.2.2.2.2.2.2.2.1 L.2.2.2.2.2.2.2.2 (cs.getD L.2.2.2.2.2.2.2.1.toNat (u,0,[])).1 (cs.getD L.2.2.2.2.2.2.2.1.toNat (u,0,[])).2.1 (cs.getD L.2.2.2.2.2.2.2.1.toNat (u,0,[])).2.2 r67.1.1 r67.1.2).bind λq0=>
     E (q0.1,(q0.2.1==(q0.2.2.2.2.2.2.2.2.2.2.2==(2:B))))) none) none))=E (shK (zAt zs L.2.1) L t,calB zs cs L t):=by
  by_cases hm:L.2.2.2.2.2.2.2.2=0
  .rw[j43 hm,j6];unfold calB;rw[j43 hm];rfl
  .have hcal:=hL.cal hm;have hx:=cget hs hcal.1 hcal.2;have hxz:=zget hs.so.ok hx.z0 hx.z1;rw[j1G hm,j7,j0X hcal.1 hcal.2,j0X hx.z0 hx.z1];simp only[j6];rw[show j4I ((zs.getD (cs.getD L.2.2.2.2.2.2.2.1.toNat (u,(0:B),([]:I B))).2.1.toNat (u,0,[])).1,(zs.getD (cs.getD L.2.2.2.2.2.2.2.1.toNat (u,(0:B),([]:I B))).2.1.toNat (u,0,[])).2.1,(zs.getD (cs.getD L.2.2.2.2.2.2.2.1.toNat (u,(0:B),([]:I B))).2.1.toNat (u,0,[])).2.2) t=_ from jCW hxz h0 h1];simp only[j4];rw[show jad (shK (zAt zs L.2.1) L t) Y 0 L.1 L.2.1 L.2.2.1.1 L.2.2.1.2 L.2.2.2.1 L.2.2.2.2.1 L.2.2.2.2.2.1 L.2.2.2.2.2.2.1 L.2.2.2.2.2.2.2.1 L.2.2.2.2.2.2.2.2 (cs.getD L.2.2.2.2.2.2.2.1.toNat (u,0,[])).1 (cs.getD L.2.2.2.2.2.2.2.1.toNat (u,0,[])).2.1 (cs.getD L.2.2.2.2.2.2.2.1.toNat (u,0,[])).2.2 _ _=_ from jBg hs hx (L:=L) (cs.getD L.2.2.2.2.2.2.2.1.toNat (u,0,[])).2.2.length 0 Y omg_ smp_];unfold calB;rw[j1G hm];rfl
 simp only[jhU,jgX];rw[j0X hL.z0 hL.z1];simp only[j6];rw[show jfu ((zs.getD L.2.1.toNat (u,0,[])).1,(zs.getD L.2.1.toNat (u,0,[])).2.1,(zs.getD L.2.1.toNat (u,0,[])).2.2) (L.1,L.2.1,(L.2.2.1.1,L.2.2.1.2),L.2.2.2.1,L.2.2.2.2.1,L.2.2.2.2.2.1,L.2.2.2.2.2.2.1,L.2.2.2.2.2.2.2.1,L.2.2.2.2.2.2.2.2) t=_ from ek];simp only[j4,bne_self_eq_false,j7];by_cases hk:0<=shK (zAt zs L.2.1) L t
 .rw[j01 (show¬shK (zAt zs L.2.1) L t<0 by omega)];simp only[j7,show A L.2.2.2.2.2.2.1.length=(L.2.2.2.2.2.2.1.length:B) from rfl];have hon:onX zs cs L t=cond (okW L.2.2.2.2.2.2.1 (secD (locD (zAt zs L.2.1) t))) (calB zs cs L t) false:=by unfold onX;rw[j00 hk];rfl
  rw[hon];by_cases hw:(L.2.2.2.2.2.2.1.length:B)>0
  .rw[j00 hw,j6,show jp8 ((zs.getD L.2.1.toNat (u,0,[])).1,(zs.getD L.2.1.toNat (u,0,[])).2.1,(zs.getD L.2.1.toNat (u,0,[])).2.2) L.2.2.2.2.2.2.1 t=_ from ein];simp only[j4];unfold okW;rw[j00 hw,j6];cases hasB (secD (locD (zAt zs L.2.1) t)) L.2.2.2.2.2.2.1 with
   |false=>exact⟨0,rfl,λh=>by simp at h⟩
   |true=>simp only[D,j7,j6];exact⟨_,htail,λ_=>rfl⟩
  .rw[j01 hw,j7];unfold okW;rw[j01 hw];simp only[j7,j6];exact⟨_,htail,λ_=>rfl⟩
 .rw[j00 (show shK (zAt zs L.2.1) L t<0 by omega)];have hon:onX zs cs L t=false:=by unfold onX;rw[j01 hk];rfl
  rw[hon];simp only[j6,D,X,Bool.or_true];exact⟨0,rfl,λh=>by simp at h⟩
theorem jyx{L:j0b}(hL:LCk zs.length ps.length cs.length L){ss:I j0r}{t:B}(h0:0<=t)(h1:t<=8589934592):jkZ (zs,ps,cs,ss) L t=E (perX zs cs L t):=by
 obtain⟨k,e,hk⟩:=jBh hs hL (ss:=ss) h0 h1;have hon:onX zs cs L t=R->0<=shK (zAt zs L.2.1) L t:=jyt;simp only[jkZ];rw[show jhU (zs,ps,cs,ss) (L.1,L.2.1,(L.2.2.1.1,L.2.2.1.2),L.2.2.2.1,L.2.2.2.2.1,L.2.2.2.2.2.1,L.2.2.2.2.2.2.1,L.2.2.2.2.2.2.2.1,L.2.2.2.2.2.2.2.2) t=_ from e];simp only[j4,show A L.2.2.2.2.2.1.length=(L.2.2.2.2.2.1.length:B) from rfl];unfold perX;cases hc:onX zs cs L t with
 |false=>rfl
 |true=>have hm0:=hL.m0;have hk0:=hon hc;have:=hk hc;subst this;have q1:0<=Â (shK (zAt zs L.2.1) L t) (L.2.2.2.2.2.1.length:B):=Int.tmod_nonneg _ hk0;have q2:Â (shK (zAt zs L.2.1) L t) (L.2.2.2.2.2.1.length:B)<(L.2.2.2.2.2.1.length:B):=Int.tmod_lt_of_pos _ omg_;rw[j1G (show¬(L.2.2.2.2.2.1.length:B)=0 by omega),j0X q1 q2];rfl
theorem jCY:∀z∈zs,j7v z=E 0:=λz hz=>r4ck (hs.so.ok z hz)
end
end Go.Proofs.Pw
