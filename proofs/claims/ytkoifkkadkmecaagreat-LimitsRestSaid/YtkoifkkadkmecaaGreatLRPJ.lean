/- The reference of Ld 8: fZ that are right. -/
import Derived.Test.YtkoifkkadkmecaaGreatLRPG
import Derived.KernelRfl
open _root_ renaming Int->q,ByteArray->A,List->F,Nat->I
open Int renaming ofNat->u,tdiv->N
open Option renaming some->B
open ByteArray renaming empty->D,ext->O
open List renaming getD_eq_getElem?_getD->E,getD->H
open Decidable renaming decide->G
open Bool renaming true->J,false->M
open Go Go.Lft
namespace Go.Proofs.Pw
theorem jCv{x y:A}(h:x≠y):(x.toList==y.toList)=false:=by
 rw[ByteArray.toList_eq,ByteArray.toList_eq];exact z8.2 λhh=>h (O (Array.toList_inj.mp (eq_of_beq hh)))
def S8(b:q):Prop:=(97<=b/\b<=122)\/(48<=b/\b<=57)\/b=95\/b=45
theorem ξ{s:A}(hs:s.size<=24):∀(n i:I),i+n=s.size->((EZ s (s.size:q) (i:q)).bind λq0=>sumC q0 (λa=>B a) (λ_=>B J))=B J->∀j:I,i<=j->j<s.size->S8 (dr s j)
 |0,i,hi,_,j,h1,h2=>omg_
 |n+1,i,hi,h,j,h1,h2=>by
  rw[jmU]at h;simp only[j88,jdZ,jjZ,j4]at h;rw[ah omg_,bJ,aj (x:=(i:q)+1)]at h;simp only[j6]at h
  have key:S8 (dr s i)/\((EZ s (s.size:q) ((i:q)+1)).bind λq0=>sumC q0 (λa=>B a) (λ_=>B J))=B true:=by
   by_cases ha:97<=dr s i/\dr s i<=122
   .rw[ah (show dr s i>=97 from ha.1),ah ha.2]at h;simp only[j6,jl,j7,aB]at h;exact⟨.inl ha,h⟩
   .have e:cond (G (dr s i>=97)) (G (dr s i<=122)) M=false:=by
     by_cases hx:dr s i>=97
     .rw[ah hx,j6];exact ai omg_
     .rw[ai hx,j7]
    rw[e]at h;simp only[jv,j6]at h;by_cases hb:48<=dr s i/\dr s i<=57
    .rw[ah (show dr s i>=48 from hb.1),ah hb.2]at h;simp only[j6,jl,j7,aB]at h;exact⟨.inr (.inl hb),h⟩
    .have e2:cond (G (dr s i>=48)) (G (dr s i<=57)) M=false:=by
      by_cases hx:dr s i>=48
      .rw[ah hx,j6];exact ai omg_
      .rw[ai hx,j7]
     rw[e2]at h;simp only[jv,j6]at h;by_cases hc:dr s i=95
     .have e3:(dr s i != 95)=false:=by rw[hc];rfl
      rw[e3]at h;simp only[j7,aB]at h;exact⟨.inr (.inr (.inl hc)),h⟩
     .have e3:(dr s i != 95)=true:=by simpa using hc
      rw[e3]at h;simp only[j6]at h;by_cases hd:dr s i=45
      .have e4:(dr s i != 45)=false:=by rw[hd];rfl
       rw[e4]at h;simp only[j7,aB]at h;exact⟨.inr (.inr (.inr hd)),h⟩
      .have e4:(dr s i != 45)=true:=by simpa using hd
       rw[e4]at h;simp[aP,N0]at h
  by_cases hj:j=i
  .subst hj;exact key.1
  .exact ξ hs n (i+1) omg_ key.2 j omg_ h2
theorem ο{s:A}(hs:s.size<=24)(bX:∀j:I,j<s.size->S8 (dr s j)):∀(n i:I),i+n=s.size->CK s (i:q)=B (.inr ())
 |0,i,hi=>by
  rw[YQ];simp only[j7E,show u s.size=(s.size:q) from rfl];rw[ai omg_,j7,aP]
 |n+1,i,hi=>by
  have ih:=ο hs bX n (i+1) omg_;have ho:=bX i omg_;rw[YQ];simp only[j7E,jol,j4,show u s.size=(s.size:q) from rfl];rw[ah omg_,bJ,aj (x:=(i:q)+1)];simp only[j6,qz];have fin:lpK (B (.inl (s,(i:q)+1)):Option ((A×q) ⊕ (Bool ⊕ Unit))) (λh=>CK h.1 h.2)=B (.inr ()):=by rw[aB];exact ih
  by_cases ha:97<=dr s i/\dr s i<=122
  .rw[ai (show¬dr s i<97 by omega),ai (show¬dr s i>122 by omega)];exact fin
  .have e:cond (G (dr s i<97)) J (G (dr s i>122))=true:=by
    by_cases hx:dr s i<97
    .rw[ah hx,j6]
    .rw[ai hx,j7];exact ah omg_
   rw[e];simp only[j6];by_cases hb:48<=dr s i/\dr s i<=57
   .rw[ah (show dr s i>=48 from hb.1),ah hb.2];exact fin
   .have e2:cond (G (dr s i>=48)) (G (dr s i<=57)) M=false:=by
     by_cases hx:dr s i>=48
     .rw[ah hx,j6];exact ai omg_
     .rw[ai hx,j7]
    rw[e2];rcases ho with ho|ho|ho|ho
    .exact absurd ho ha
    .exact absurd ho hb
    .rw[ho];exact fin
    .rw[ho];exact fin
theorem jGC{s:A}(h:jam s=B J):jno s=B true:=by
 simp only[jam,show u s.size=(s.size:q) from rfl]at h;have hz:¬(cond (s.toList==ByteArray.empty.toList) J (G ((s.size:q)>24)))=true:=by intro hx;rw[hx]at h;simp at h
 have xS:cond (s.toList==ByteArray.empty.toList) J (G ((s.size:q)>24))=false:=z8.2 hz;rw[xS]at h;simp only[jv,jl,Bool.or_false,j7]at h
 have h0:inR 0 s.size=true:=by
  cases hc:inR 0 s.size with
  |true=>rfl
  |false=>rw[hc]at h;simp at h
 have iP:0<s.size:=by simp only[inR,jg,js]at h0;omega
 have ir:s.size<=24:=by
  have:G ((s.size:q)>24)=false:=by
   revert xS
   cases (s.toList==ByteArray.empty.toList)<;>simp
  have:=vv this;omega
 rw[h0]at h;simp only[j6,jdZ,j4]at h
 have ha:97<=dr s 0/\dr s 0<=122:=by
  apply ju;intro hn
  have e:cond (G (dr s 0>=97)) (G (dr s 0<=122)) M=false:=by
   by_cases hx:dr s 0>=97
   .rw[ah hx,j6];exact ai omg_
   .rw[ai hx,j7]
  rw[e]at h;simp at h
 rw[ah (show dr s 0>=97 from ha.1),ah ha.2]at h;simp only[j6,jl,j7]at h;have bX:=ξ ir s.size 0 omg_ h;simp only[jno,show u s.size=(s.size:q) from rfl];rw[h0,ai (show¬(s.size:q)<1 by omega),ai (show¬(s.size:q)>24 by omega),ai (show¬dr s 0<97 by omega),ai (show¬dr s 0>122 by omega)];simp only[j7,qz,j6];rw[show CK s 0=_ from ο ir (λj hj=>bX j omg_ hj) s.size 0 omg_];rfl
theorem p7{n lo hi:q}(h1:lo<=n)(h2:n<=hi):j9D n lo hi=B true:=by
 simp only[j9D,ah (show n>=lo from h1),ah h2,j6]
theorem jGD{n lo hi:q}(h:n<lo):j9D n lo hi=B false:=by
 simp only[j9D,ai (show¬n>=lo by omega),j7]
theorem S9:jdV=B 98980:=by kernel_rfl
theorem Le{d:q}(h:j1l d=B J):d<=98980:=by
 apply ju;intro hd;simp only[j1l,jan,La,K9,j4]at h;rw[ai (show¬d<0 by omega),ah (show d>=98981 by omega)]at h;simp at h
theorem π{d:q}(h:j1l d=B J):0<=d:=by
 apply ju;intro hd;simp only[j1l,jan,La,K9,j4]at h;rw[ah (show d<0 by omega)]at h;simp at h
theorem ς{ks:F A}(hn:ks.Nodup){i:I}(hi:i<ks.length){l:F A}(hl:l=ks.take (i+1))(hs:ks.length<=1000):∀(n k:I),k+n=i->FN l (i:q) (k:q)=B (.inr ())
 |0,k,hk=>by
  rw[YR];simp only[j7F];rw[ai omg_,j7,aP]
 |n+1,k,hk=>by
  have fm:l.length=i+1:=by rw[hl,qk];omega
  have bH:k<ks.length:=omg_;have g1:l.getD k D=ks[k]:=by rw[hl,E,vf omg_,jm bH];rfl
  have g2:l.getD i D=ks[i]:=by rw[hl,E,vf omg_,jm hi];rfl
  have bz:ks[k]≠ks[i]:=λe=>by
   have:=(List.getElem_inj (h₀:=bH) (h₁:=hi) hn).1 e;omega
  rw[YR];simp only[j7F];rw[ah omg_,bA (show (0:q)<=(k:q) by omega) omg_,bA (show (0:q)<=(i:q) by omega) omg_];simp only[j6,j8,g1,g2,jCv bz,j7];rw[aj (x:=(k:q)+1),aB];exact ς hn hi hl hs n (k+1) omg_
theorem jGE{ks:F A}(h:fG ks){i:I}(hi:i<ks.length)(hs:ks.length<=1000):jdA (ks.take (i+1)) (i:q)=B 0:=by
 have fm:(ks.take (i+1)).length=i+1:=by rw[qk];omega
 have g2:(ks.take (i+1)).getD i D=ks[i]:=by rw[E,vf omg_,jm hi];rfl
 simp only[jdA];rw[bJ];simp only[j6,j8,g2,jGC (h.2 _ (jf hi)),j4,jl,j7];rw[show FN (ks.take (i+1)) (i:q) 0=_ from ς h.1 hi rfl hs i 0 omg_];rfl
theorem Hd{α:Type}(f:α->A){xs:F α}(h:fG (xs.map f)){i:I}(hi:i<xs.length)(hs:xs.length<=1000) :
  (xs.take i).map f++[f xs[i]]=(xs.take (i+1)).map f/\jdA ((xs.take (i+1)).map f) (i:q)=B 0:=by
 refine⟨?_,?_⟩
 .rw[ku,jm hi,zq];rfl
 .have:=jGE h (i:=i) (by simpa using hi) (by simpa using hs);rwa[<-List.map_take]at this
theorem υ{nm:A}{o:q}{rs:F aN}(h:∀r∈rs,Int.tmod r.2.2.2.2.2.2 60=0)(hl:rs.length<=1000):∀(n i:I),i+n=rs.length->FU J (i:q) nm o rs=B J
 |0,i,hi=>by
  rw[Y0];simp only[j5x,show u rs.length=(rs.length:q) from rfl];rw[ai omg_,j7,aP]
 |n+1,i,hi=>by
  have bh:i<rs.length:=omg_;have aT:rs.getD i ((0:q),((0:q),((0:q),((0:q),((0:q),((0:q),(0:q)))))))=rs[i]:=by simp[H,bh]
  rw[Y0];simp only[j5x,show u rs.length=(rs.length:q) from rfl];rw[ah omg_,bJ];simp only[j6,qz,j8,aT,h _ (jf bh),qs];rw[aj (x:=(i:q)+1),aB];exact υ h hl n (i+1) omg_
theorem jHP{z:bF}(h:yV z):jeb z=B true:=by
 simp only[jeb,h.o60,qs];rw[show FU J 0 z.1 z.2.1 z.2.2=_ from υ h.r60 h.len z.2.2.length 0 omg_];rfl
section
variable{zs:F bF}{ps:F cI}{cs:F aU}{ss:F cu}
theorem φ(hn:fG (zs.map (·.1)))(hc:∀z∈zs,yV z)(hr:∀z∈zs,j8B z=B 0)(hl:zs.length<=100):∀(n i:I),i+n=zs.length->FV (i:q) zs ps cs ss ((zs.take i).map (·.1))=B (.inr ())
 |0,i,hi=>by
  rw[Y1];simp only[j6S,show u zs.length=(zs.length:q) from rfl];rw[ai omg_,j7,aP]
 |n+1,i,hi=>by
  have bh:i<zs.length:=omg_;have aT:zs.getD i (D,((0:q),([]:F aN)))=zs[i]:=by simp[H,bh]
  obtain⟨n1,n2⟩:=Hd (·.1) hn bh omg_;have gf:=hc _ (jf bh);rw[Y1];simp only[j6S,show u zs.length=(zs.length:q) from rfl];rw[ah omg_,bJ];simp only[j6,j8,aT];rw[ah (show ((zs.take i).map (·.1)).length+[zs[i].1].length<=aG by simp[aG];omega),j6,n1,n2];simp only[j4,jk,j7,show j8B (zs[i].1,(zs[i].2.1,zs[i].2.2))=_ from hr _ (jf bh),qz,j6,show jeb (zs[i].1,(zs[i].2.1,zs[i].2.2))=_ from jHP gf,jl];rw[aj (x:=(i:q)+1),aB];exact φ hn hc hr hl n (i+1) omg_
theorem χ{w:WL}(h:gj 0 w)(hl:w.length<=14):∀(n i:I),i+n=w.length->FW w (i:q)=B (.inr ())
 |0,i,hi=>by
  rw[Y2];simp only[j6T,show u w.length=(w.length:q) from rfl];rw[ai omg_,j7,aP]
 |n+1,i,hi=>by
  have bh:i<w.length:=omg_;have hg:=yU h i bh;have ih:=χ h hl n (i+1) omg_;rw[Y2];simp only[j6T,show u w.length=(w.length:q) from rfl];rw[ah omg_,bJ];simp only[j6,j8];rw[ai (show¬(w.getD i (0,0)).1<0 by omega),ai (show¬(w.getD i (0,0)).1>=(w.getD i (0,0)).2 by omega),ai (show¬(w.getD i (0,0)).2>604800 by omega),aj (x:=(i:q)+1)];simp only[j7];by_cases h0:(i:q)>0
  .obtain⟨k,rfl⟩:∃k,i=k+1:=⟨i-1,omg_⟩;have GN:=RZ h k omg_;rw[ah h0,j6,aj (x:=((k+1:I):q)-1),show ((k+1:I):q)-1=(k:q) by omega,bA (show (0:q)<=(k:q) by omega) omg_];simp only[j6,j8];rw[ai (show¬(w.getD (k+1) (0,0)).1<(w.getD k (0,0)).2 by omega),j7,aB];exact ih
  .rw[ai h0,j7,aB];exact ih
theorem uj{w:WL}(h:gj 0 w)(hl:w.length<=14):jcD w=B 0:=by
 simp only[jcD,show u w.length=(w.length:q) from rfl];rw[ai omg_,j7,show FW w 0=_ from χ h hl w.length 0 omg_];rfl
theorem ψ{n:q}(h:j3W n=B J):jl9 n=B true:=h
theorem ω(hn:fG (ps.map (·.1)))(hc:∀p∈ps,GQ zs.length p)(hl:ps.length<=100)(lN:zs.length<=100):∀(n i:I),i+n=ps.length->FX (i:q) zs ps cs ss ((ps.take i).map (·.1))=B (.inr ())
 |0,i,hi=>by
  rw[Y3];simp only[j67,show u ps.length=(ps.length:q) from rfl];rw[ai omg_,j7,aP]
 |n+1,i,hi=>by
  have bh:i<ps.length:=omg_;have aT:ps.getD i (D,((0:q),(([]:WL),((0:q),((0:q),M)))))=ps[i]:=by simp[H,bh]
  obtain⟨n1,n2⟩:=Hd (·.1) hn bh omg_;have gf:=hc _ (jf bh);have h0:=gf.z0;have h1:=gf.z1;rw[Y3];simp only[j67,show u ps.length=(ps.length:q) from rfl,show u zs.length=(zs.length:q) from rfl];rw[ah omg_,bJ];simp only[j6,j8,aT];rw[ah (show ((ps.take i).map (·.1)).length+[ps[i].1].length<=aG by simp[aG];omega),j6,n1,n2,gf.nb,aj (x:=(zs.length:q)-1),p7 h0 omg_];simp only[j4,jk,j7,jl,uj gf.w gf.wl,ψ gf.m,ψ gf.r];rw[aj (x:=(i:q)+1),aB];exact ω hn hc hl lN n (i+1) omg_
theorem ϊ{ds:F q}(h:∀d∈ds,j1l d=B J)(hl:ds.length<=64){m z:q}{nm:A}{l3:F A}:∀(n i:I),i+n=ds.length->FY m (i:q) zs ps cs ss nm z ds l3=B (.inr (m,zs,ps,cs,ss,nm,z,ds,l3))
 |0,i,hi=>by
  rw[Y4];simp only[j4e,show u ds.length=(ds.length:q) from rfl];rw[ai omg_,j7,aP]
 |n+1,i,hi=>by
  have bh:i<ds.length:=omg_;have aT:ds.getD i (0:q)=ds[i]:=by simp[bh]
  have hd:=h _ (jf bh);rw[Y4];simp only[j4e,show u ds.length=(ds.length:q) from rfl];rw[ah omg_,bJ];simp only[j6,j8,aT,S9,j4,p7 (π hd) (Le hd),jl,j7];rw[aj (x:=(i:q)+1),aB];exact ϊ h hl n (i+1) omg_
theorem ϋ{ds:F q}(h:ds.Pairwise (· < ·))(hl:ds.length<=64){m z:q}{nm:A}{l3:F A}:∀(n i:I),ds.length<=i+n->1<=i->FZ m (i:q) zs ps cs ss nm z ds l3=B (.inr (m,zs,ps,cs,ss,l3))
 |n,i,hi,h1=>by
  rw[jk4];simp only[j68,show u ds.length=(ds.length:q) from rfl];by_cases bh:i<ds.length
  .obtain⟨n,rfl⟩:∃m,n=m+1:=⟨n-1,omg_⟩;obtain⟨k,rfl⟩:∃k,i=k+1:=⟨i-1,omg_⟩;have aT:ds.getD (k+1) (0:q)=ds[k+1]:=by simp[bh]
   have Ci:ds.getD k (0:q)=ds[k]:=by simp[show k<ds.length by omega]
   have aq:=kg.1 h k (k+1) omg_ bh omg_;rw[ah omg_,bJ,aj (x:=((k+1:I):q)-1),show ((k+1:I):q)-1=(k:q) by omega,bA (show (0:q)<=(k:q) by omega) omg_];simp only[j6,j8,aT,Ci];rw[ai (show¬ds[k+1]<=ds[k] by omega),j7,aj (x:=((k+1:I):q)+1),aB];exact ϋ h hl n (k+1+1) omg_ omg_
  .rw[ai omg_,j7,aP]
 termination_by n=>n
theorem ό(hn:fG (cs.map (·.1)))(hc:∀x∈cs,rk zs.length x)(hl:cs.length<=100)(lN:zs.length<=100):∀(n i:I),i+n=cs.length->F0 (i:q) zs ps cs ss ((cs.take i).map (·.1))=B (.inr ())
 |0,i,hi=>by
  rw[Y5];simp only[j4f,show u cs.length=(cs.length:q) from rfl];rw[ai omg_,j7,aP]
 |n+1,i,hi=>by
  have bh:i<cs.length:=omg_;have aT:cs.getD i (D,((0:q),([]:F q)))=cs[i]:=by simp[H,bh]
  obtain⟨n1,n2⟩:=Hd (·.1) hn bh omg_;have gf:=hc _ (jf bh);have h0:=gf.z0;have h1:=gf.z1;have h2:=gf.len;have l2:=ϊ (zs:=zs) (ps:=ps) (cs:=cs) (ss:=ss) gf.day h2 (m:=(i:q)) (z:=cs[i].2.1) (nm:=cs[i].1) (l3:=(cs.take (i+1)).map (·.1)) cs[i].2.2.length 0 omg_;have l4:=ϋ (zs:=zs) (ps:=ps) (cs:=cs) (ss:=ss) gf.asc h2 (m:=(i:q)) (z:=cs[i].2.1) (nm:=cs[i].1) (l3:=(cs.take (i+1)).map (·.1)) cs[i].2.2.length 1 omg_ omg_;rw[Y5];simp only[j4f,show u cs.length=(cs.length:q) from rfl,show u zs.length=(zs.length:q) from rfl];rw[ah omg_,bJ];simp only[j6,j8,aT];rw[ah (show ((cs.take i).map (·.1)).length+[cs[i].1].length<=aG by simp[aG];omega),j6,n1,n2,aj (x:=(zs.length:q)-1),p7 h0 omg_];simp only[j4,jk,j7,jl,show u cs[i].2.2.length=(cs[i].2.2.length:q) from rfl];rw[ai omg_,j7,show FY (i:q) 0 zs ps cs ss cs[i].1 cs[i].2.1 cs[i].2.2 ((cs.take (i+1)).map (·.1))=_ from l2];simp only[j4,kV];rw[show FZ (i:q) 1 zs ps cs ss cs[i].1 cs[i].2.1 cs[i].2.2 ((cs.take (i+1)).map (·.1))=_ from l4];simp only[j4,kV];rw[aj (x:=(i:q)+1),aB];exact ό hn hc hl lN n (i+1) omg_
theorem ύ{L:bP}(h:∀m∈L.2.2.2.2.2.1,0<=m/\m<(ps.length:q))(hl:L.2.2.2.2.2.1.length<=12)(hp:ps.length<=100):∀(n i:I),i+n=L.2.2.2.2.2.1.length->
  F1 (i:q) zs ps cs ss L.1 L.2.1 L.2.2.1.1 L.2.2.1.2 L.2.2.2.1 L.2.2.2.2.1 L.2.2.2.2.2.1 L.2.2.2.2.2.2.1 L.2.2.2.2.2.2.2.1 L.2.2.2.2.2.2.2.2=B (.inr (zs,ps,cs,ss,L.1,L.2.1,L.2.2.1.1,L.2.2.1.2,L.2.2.2.1,L.2.2.2.2.1,L.2.2.2.2.2.1,L.2.2.2.2.2.2.1,L.2.2.2.2.2.2.2.1,L.2.2.2.2.2.2.2.2))
 |0,i,hi=>by
  rw[Y6];simp only[j6U,show u L.2.2.2.2.2.1.length=(L.2.2.2.2.2.1.length:q) from rfl];rw[ai omg_,j7,aP]
 |n+1,i,hi=>by
  have bh:i<L.2.2.2.2.2.1.length:=omg_;have aT:L.2.2.2.2.2.1.getD i (0:q)=L.2.2.2.2.2.1[i]:=by simp[bh]
  have hd:=h _ (jf bh);rw[Y6];simp only[j6U,show u L.2.2.2.2.2.1.length=(L.2.2.2.2.2.1.length:q) from rfl,show u ps.length=(ps.length:q) from rfl];rw[ah omg_,bJ,aj (x:=(ps.length:q)-1)];simp only[j6,j8,aT,p7 hd.1 (show L.2.2.2.2.2.1[i]<=(ps.length:q)-1 by omega),j4,jl,j7];rw[aj (x:=(i:q)+1),aB];exact ύ h hl hp n (i+1) omg_
theorem jF5{L:bP}(h:ez zs.length ps.length cs.length L)(hz:zs.length<=100)(hp:ps.length<=100)(hc:cs.length<=100):jig (zs,(ps,(cs,ss))) L=B 0:=by
 have h0:=h.z0;have h1:=h.z1;have gF:=h.m0;have fw:=h.m1;have fL:=h.c1;have kT:=h.wl;have lp:=ύ (zs:=zs) (ps:=ps) (cs:=cs) (ss:=ss) h.mem fw hp L.2.2.2.2.2.1.length 0 omg_;simp only[jig,show u zs.length=(zs.length:q) from rfl,show u L.2.2.2.2.2.1.length=(L.2.2.2.2.2.1.length:q) from rfl];rw[aj (x:=(zs.length:q)-1),p7 h0 omg_,S9];simp only[j4,jl,j7,p7 h.d0 (Le h.day),p7 h.c0 fL,p7 h.u0 h.u1,p7 h.e0 h.e1];rw[ca (show¬(L.2.2.2.2.2.1.length:q)=0 by omega),ai (show¬(L.2.2.2.2.2.1.length:q)>12 by omega)];simp only[j7];rw[show F1 0 zs ps cs ss L.1 L.2.1 L.2.2.1.1 L.2.2.1.2 L.2.2.2.1 L.2.2.2.2.1 L.2.2.2.2.2.1 L.2.2.2.2.2.2.1 L.2.2.2.2.2.2.2.1 L.2.2.2.2.2.2.2.2=_ from lp];simp only[j4,kV,uj h.w kT,jk,j7,p7 h.mode0 h.mode1,jl,show u cs.length=(cs.length:q) from rfl];rw[aj (x:=(cs.length:q)-1)];by_cases hm:L.2.2.2.2.2.2.2.2=0
 .have e:(L.2.2.2.2.2.2.2.2 != 0)=false:=by rw[hm];rfl
  have e2:(L.2.2.2.2.2.2.2.1 != 0)=false:=by rw[h.cal0 hm];rfl
  rw[e,e2,cR hm];rfl
 .have e:(L.2.2.2.2.2.2.2.2 != 0)=true:=by simpa using hm
  have cH:=h.cal hm;rw[e,ca hm,p7 cH.1 omg_];rfl
theorem jGG{x:dN}(h:rm ps.length x)(hp:ps.length<=100):jla (zs,(ps,(cs,ss))) x=B 0:=by
 have nF:=h.f0;have jP:=h.ft;have Bq:=h.t1;have hd:=Le h.day;have ώ:N x.2.2.2.2 86400=x.2.2.2.2/86400:=rh omg_
 have iE:∃b,j9D x.2.1 0 ((ps.length:q)-1)=B b/\cond (!b) (cond (x.1 != 1) J (x.2.1 != -1)) M=false:=by
  rcases h.a with⟨a1,a2⟩|⟨a1,a2⟩
  .exact⟨J,p7 a1 omg_,rfl⟩
  .exact⟨M,jGD omg_,by rw[a1,a2];rfl⟩
 obtain⟨b,eb,hb⟩:=iE;simp only[jla,show u ps.length=(ps.length:q) from rfl];rw[aj (x:=(ps.length:q)-1),p7 h.k0 h.k1,eb];simp only[j4,jl,j7,hb];rw[ai (show¬x.2.2.2.1<0 by omega),ai (show¬x.2.2.2.2<0 by omega),gY (x:=N x.2.2.2.2 86400) (by rw[ώ];omega) (by rw[ώ];omega),S9];simp only[j7,j4];rw[ai (show¬N x.2.2.2.2 86400>98980 by omega),ai (show¬x.2.2.2.1>=x.2.2.2.2 by omega)];simp only[j7];by_cases hk:x.1=2
 .obtain⟨b1,b2,b3⟩:=h.b hk;have e2:(x.1 != 2)=false:=by rw[hk];rfl
  rw[cR hk,j6,p7 b1 omg_,e2,ca b3];rfl
 .have e2:(x.1 != 2)=true:=by simpa using hk
  rw[ca hk,e2,h.b0 hk];rfl
theorem Ϗ{ls:F bP}(hn:fG (ls.map (·.1)))(hc:∀x∈ls,ez zs.length ps.length cs.length x)(hl:ls.length<=100)(hz:zs.length<=100)(hp:ps.length<=100)(ej:cs.length<=100){m:q}{nm:A}{es:F dN}{l3:F A}:∀(n i:I),i+n=ls.length->
  F2 m (i:q) zs ps cs ss nm ls es l3 ((ls.take i).map (·.1))=B (.inr (m,zs,ps,cs,ss,nm,ls,es,l3))
 |0,i,hi=>by
  rw[Y7];simp only[j4g,show u ls.length=(ls.length:q) from rfl];rw[ai omg_,j7,aP]
 |n+1,i,hi=>by
  have bh:i<ls.length:=omg_;have aT:ls.getD i (D,((0:q),(((0:q),(0:q)),((0:q),((0:q),(([]:F q),(([]:WL),((0:q),(0:q)))))))))=ls[i]:=by simp[H,bh]
  obtain⟨n1,n2⟩:=Hd (·.1) hn bh omg_;have gf:=hc _ (jf bh);rw[Y7];simp only[j4g,show u ls.length=(ls.length:q) from rfl];rw[ah omg_,bJ];simp only[j6,j8,aT];rw[ah (show ((ls.take i).map (·.1)).length+[ls[i].1].length<=aG by simp[aG];omega),j6,n1,n2];simp only[j4,jk,j7];rw[show jig (zs,ps,cs,ss) (ls[i].1,ls[i].2.1,(ls[i].2.2.1.1,ls[i].2.2.1.2),ls[i].2.2.2.1,ls[i].2.2.2.2.1,ls[i].2.2.2.2.2.1,ls[i].2.2.2.2.2.2.1,ls[i].2.2.2.2.2.2.2.1,ls[i].2.2.2.2.2.2.2.2)=_ from jF5 gf hz hp ej];simp only[j4,jk,j7];rw[aj (x:=(i:q)+1),aB];exact Ϗ hn hc hl hz hp ej n (i+1) omg_
theorem ϐ{es:F dN}(hc:∀x∈es,rm ps.length x)(hl:es.length<=48)(hp:ps.length<=100){m:q}{nm:A}{ls:F bP}{l3:F A}:∀(n i:I),i+n=es.length->
  F3 m (i:q) zs ps cs ss nm ls es l3=B (.inr (m,zs,ps,cs,ss,l3))
 |0,i,hi=>by
  rw[Y8];simp only[j4h,show u es.length=(es.length:q) from rfl];rw[ai omg_,j7,aP]
 |n+1,i,hi=>by
  have bh:i<es.length:=omg_;have aT:es.getD i ((0:q),((0:q),((0:q),((0:q),(0:q)))))=es[i]:=by simp[H,bh]
  have gf:=hc _ (jf bh);rw[Y8];simp only[j4h,show u es.length=(es.length:q) from rfl];rw[ah omg_,bJ];simp only[j6,j8,aT];rw[show jla (zs,ps,cs,ss) (es[i].1,es[i].2.1,es[i].2.2.1,es[i].2.2.2.1,es[i].2.2.2.2)=_ from jGG gf hp];simp only[j4,jk,j7];rw[aj (x:=(i:q)+1),aB];exact ϐ hc hl hp n (i+1) omg_
theorem ϑ(hn:fG (ss.map (·.1)))(hc:∀x∈ss,tZ zs.length ps.length cs.length x)(hl:ss.length<=100)(hz:zs.length<=100)(hp:ps.length<=100)(ej:cs.length<=100):∀(n i:I),i+n=ss.length->
  F4 (i:q) zs ps cs ss ((ss.take i).map (·.1))=B (.inr ())
 |0,i,hi=>by
  rw[Y9];simp only[j4i,show u ss.length=(ss.length:q) from rfl];rw[ai omg_,j7,aP]
 |n+1,i,hi=>by
  have bh:i<ss.length:=omg_;have aT:ss.getD i (D,(([]:F bP),([]:F dN)))=ss[i]:=by simp[H,bh]
  obtain⟨n1,n2⟩:=Hd (·.1) hn bh omg_;have gf:=hc _ (jf bh);have h1:=gf.ll;have h2:=gf.el;have l2:=Ϗ (ss:=ss) gf.nm gf.ly omg_ hz hp ej (m:=(i:q)) (nm:=ss[i].1) (es:=ss[i].2.2) (l3:=(ss.take (i+1)).map (·.1)) ss[i].2.1.length 0 omg_;have l4:=ϐ (zs:=zs) (cs:=cs) (ss:=ss) gf.ed h2 hp (m:=(i:q)) (nm:=ss[i].1) (ls:=ss[i].2.1) (l3:=(ss.take (i+1)).map (·.1)) ss[i].2.2.length 0 omg_;rw[Y9];simp only[j4i,show u ss.length=(ss.length:q) from rfl];rw[ah omg_,bJ];simp only[j6,j8,aT];rw[ah (show ((ss.take i).map (·.1)).length+[ss[i].1].length<=aG by simp[aG];omega),j6,n1,n2];simp only[j4,jk,j7,show u ss[i].2.1.length=(ss[i].2.1.length:q) from rfl,show u ss[i].2.2.length=(ss[i].2.2.length:q) from rfl];rw[ai (show¬(ss[i].2.1.length:q)>6 by omega),ai (show¬(ss[i].2.2.length:q)>48 by omega)];simp only[j7];rw[show F2 (i:q) 0 zs ps cs ss ss[i].1 ss[i].2.1 ss[i].2.2 ((ss.take (i+1)).map (·.1)) []=_ from l2];simp only[j4,kV];rw[show F3 (i:q) 0 zs ps cs ss ss[i].1 ss[i].2.1 ss[i].2.2 ((ss.take (i+1)).map (·.1))=_ from l4];simp only[j4,kV];rw[aj (x:=(i:q)+1),aB];exact ϑ hn hc hl hz hp ej n (i+1) omg_
theorem ϒ(h:nT (zs,(ps,(cs,ss))))(hr:∀z∈zs,j8B z=B 0):jeh (zs,(ps,(cs,ss)))=B 0:=by
 have lN:zs.length<=16:=h.zl;have gr:ps.length<=32:=h.pl;have ej:cs.length<=8:=h.cl;have dS:ss.length<=12:=h.sl;have lz:=φ (zs:=zs) (ps:=ps) (cs:=cs) (ss:=ss) h.zn h.zc hr omg_ zs.length 0 omg_;have lp:=ω (zs:=zs) (ps:=ps) (cs:=cs) (ss:=ss) h.pn h.pc omg_ omg_ ps.length 0 omg_;have lc:=ό (zs:=zs) (ps:=ps) (cs:=cs) (ss:=ss) h.cn h.cc omg_ omg_ cs.length 0 omg_;have ls:=ϑ (zs:=zs) (ps:=ps) (cs:=cs) (ss:=ss) h.sn h.sc omg_ omg_ omg_ omg_ ss.length 0 omg_;simp only[jeh,show u zs.length=(zs.length:q) from rfl,show u ps.length=(ps.length:q) from rfl,show u cs.length=(cs.length:q) from rfl,show u ss.length=(ss.length:q) from rfl];rw[ai (show¬(zs.length:q)>16 by omega),ai (show¬(ps.length:q)>32 by omega),ai (show¬(cs.length:q)>8 by omega),ai (show¬(ss.length:q)>12 by omega)];simp only[j7,jom,show FV 0 zs ps cs ss []=_ from lz,j4,kV,jk,jm9,show FX 0 zs ps cs ss []=_ from lp,jgP,show F0 0 zs ps cs ss []=_ from lc,jgQ,show F4 0 zs ps cs ss []=_ from ls]
end
theorem Ta{z:bF}(h:fY z):j8B z=B 0:=by
 have h4:=h.zref.2.1;simp only[j8B];rw[show j0q (z.1,(z.2.1,z.2.2))=_ from h4.1];rfl
end Go.Proofs.Pw
