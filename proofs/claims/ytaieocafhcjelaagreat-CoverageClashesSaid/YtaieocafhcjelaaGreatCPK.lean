/- The reference of s9 8: eR that are right. -/
import Derived.Test.YtaieocafhcjelaaGreatCPH
import Derived.KernelRfl
open Go Go.Lft
namespace Go.Proofs.Pw
theorem jAL{x y:ByteArray}(h:x≠y):(x.toList==y.toList)=false:=by
 rw[ByteArray.toList_eq,ByteArray.toList_eq];exact qf.2 λhh=>h (ByteArray.ext (Array.toList_inj.mp (eq_of_beq hh)))
def Ow(b:Int):Prop:=(97<=b/\b<=122)\/(48<=b/\b<=57)\/b=95\/b=45
theorem W0{s:ByteArray}(hs:s.size<=24):∀(n i:Nat),i+n=s.size->((xf s (s.size:Int) (i:Int)).bind λq0=>sumC q0 (λa=>some a) (λ_=>some true))=some true->∀j:Nat,i<=j->j<s.size->Ow (cN s j)
 |0,i,hi,_,j,h1,h2=>by omega
 |n+1,i,hi,h,j,h1,h2=>by
  rw[jmI]at h;simp only[j7N,jde,jjq,j3]at h;rw[ag (by omega),aR (by omega) (by omega),aj (x:=(i:Int)+1) (by omega) (by omega)]at h;simp only[j5]at h
  have key:Ow (cN s i)/\((xf s (s.size:Int) ((i:Int)+1)).bind λq0=>sumC q0 (λa=>some a) (λ_=>some true))=some true:=by
   by_cases ha:97<=cN s i/\cN s i<=122
   .rw[ag (show cN s i>=97 from ha.1),ag ha.2]at h;simp only[j5,ji,j6,aJ]at h;exact⟨.inl ha,h⟩
   .have e:cond (decide (cN s i>=97)) (decide (cN s i<=122)) false=false:=by
     by_cases hx:cN s i>=97
     .rw[ag hx,j5];exact ah (by omega)
     .rw[ah hx,j6]
    rw[e]at h;simp only[jt,j5]at h;by_cases hb:48<=cN s i/\cN s i<=57
    .rw[ag (show cN s i>=48 from hb.1),ag hb.2]at h;simp only[j5,ji,j6,aJ]at h;exact⟨.inr (.inl hb),h⟩
    .have e2:cond (decide (cN s i>=48)) (decide (cN s i<=57)) false=false:=by
      by_cases hx:cN s i>=48
      .rw[ag hx,j5];exact ah (by omega)
      .rw[ah hx,j6]
     rw[e2]at h;simp only[jt,j5]at h;by_cases hc:cN s i=95
     .have e3:(cN s i != 95)=false:=by rw[hc];rfl
      rw[e3]at h;simp only[j6,aJ]at h;exact⟨.inr (.inr (.inl hc)),h⟩
     .have e3:(cN s i != 95)=true:=by simpa using hc
      rw[e3]at h;simp only[j5]at h;by_cases hd:cN s i=45
      .have e4:(cN s i != 45)=false:=by rw[hd];rfl
       rw[e4]at h;simp only[j6,aJ]at h;exact⟨.inr (.inr (.inr hd)),h⟩
      .have e4:(cN s i != 45)=true:=by simpa using hd
       rw[e4]at h;simp[aU,JF]at h
  by_cases hj:j=i
  .subst hj;exact key.1
  .exact W0 hs n (i+1) (by omega) key.2 j (by omega) h2
theorem W7{s:ByteArray}(hs:s.size<=24)(bF:∀j:Nat,j<s.size->Ow (cN s j)):∀(n i:Nat),i+n=s.size->Af s (i:Int)=some (.inr ())
 |0,i,hi=>by
  rw[TF];simp only[j7p,show Int.ofNat s.size=(s.size:Int) from rfl];rw[ah (by omega),j6,aU]
 |n+1,i,hi=>by
  have ih:=W7 hs bF n (i+1) (by omega);have ho:=bF i (by omega);rw[TF];simp only[j7p,jo6,j3,show Int.ofNat s.size=(s.size:Int) from rfl];rw[ag (by omega),aR (by omega) (by omega),aj (x:=(i:Int)+1) (by omega) (by omega)];simp only[j5,zr];have fin:lpK (some (.inl (s,(i:Int)+1)):Option ((ByteArray×Int) ⊕ (Bool ⊕ Unit))) (λh=>Af h.1 h.2)=some (.inr ()):=by rw[aJ];exact ih
  by_cases ha:97<=cN s i/\cN s i<=122
  .rw[ah (show¬cN s i<97 by omega),ah (show¬cN s i>122 by omega)];exact fin
  .have e:cond (decide (cN s i<97)) true (decide (cN s i>122))=true:=by
    by_cases hx:cN s i<97
    .rw[ag hx,j5]
    .rw[ah hx,j6];exact ag (by omega)
   rw[e];simp only[j5];by_cases hb:48<=cN s i/\cN s i<=57
   .rw[ag (show cN s i>=48 from hb.1),ag hb.2];exact fin
   .have e2:cond (decide (cN s i>=48)) (decide (cN s i<=57)) false=false:=by
     by_cases hx:cN s i>=48
     .rw[ag hx,j5];exact ah (by omega)
     .rw[ah hx,j6]
    rw[e2];rcases ho with ho|ho|ho|ho
    .exact absurd ho ha
    .exact absurd ho hb
    .rw[ho];exact fin
    .rw[ho];exact fin
theorem jE3{s:ByteArray}(h:j7F s=some true):jng s=some true:=by
 simp only[j7F,show Int.ofNat s.size=(s.size:Int) from rfl]at h;have hz:¬(cond (s.toList==ByteArray.empty.toList) true (decide ((s.size:Int)>24)))=true:=by intro hx;rw[hx]at h;simp at h
 have ud:cond (s.toList==ByteArray.empty.toList) true (decide ((s.size:Int)>24))=false:=qf.2 hz;rw[ud]at h;simp only[jt,ji,Bool.or_false,j6]at h
 have h0:inR 0 s.size=true:=by
  cases hc:inR 0 s.size with
  |true=>rfl
  |false=>rw[hc]at h;simp at h
 have jC:0<s.size:=by simp only[inR,jb,jq]at h0;omega
 have jD:s.size<=24:=by
  have:decide ((s.size:Int)>24)=false:=by
   revert ud
   cases (s.toList==ByteArray.empty.toList)<;>simp
  have:=of_decide_eq_false this;omega
 rw[h0]at h;simp only[j5,jde,j3]at h
 have ha:97<=cN s 0/\cN s 0<=122:=by
  apply jr;intro hn
  have e:cond (decide (cN s 0>=97)) (decide (cN s 0<=122)) false=false:=by
   by_cases hx:cN s 0>=97
   .rw[ag hx,j5];exact ah (by omega)
   .rw[ah hx,j6]
  rw[e]at h;simp at h
 rw[ag (show cN s 0>=97 from ha.1),ag ha.2]at h;simp only[j5,ji,j6]at h;have bF:=W0 jD s.size 0 (by omega) h;simp only[jng,show Int.ofNat s.size=(s.size:Int) from rfl];rw[h0,ah (show¬(s.size:Int)<1 by omega),ah (show¬(s.size:Int)>24 by omega),ah (show¬cN s 0<97 by omega),ah (show¬cN s 0>122 by omega)];simp only[j6,zr,j5];rw[show Af s 0=_ from W7 jD (λj hj=>bF j (by omega) hj) s.size 0 (by omega)];rfl
theorem mV{n lo hi:Int}(h1:lo<=n)(h2:n<=hi):j9k n lo hi=some true:=by
 simp only[j9k,ag (show n>=lo from h1),ag h2,j5]
theorem jE4{n lo hi:Int}(h:n<lo):j9k n lo hi=some false:=by
 simp only[j9k,ah (show¬n>=lo by omega),j6]
theorem Ox:jd9=some 98980:=by kernel_rfl
theorem Oy{d:Int}(h:j17 d=some true):d<=98980:=by
 apply jr;intro hd;simp only[j17,j5R,G6,G5,j3]at h;rw[ah (show¬d<0 by omega),ag (show d>=98981 by omega)]at h;simp at h
theorem jE5{d:Int}(h:j17 d=some true):0<=d:=by
 apply jr;intro hd;simp only[j17,j5R,G6,G5,j3]at h;rw[ag (show d<0 by omega)]at h;simp at h
theorem W8{ks:List ByteArray}(hn:ks.Nodup){i:Nat}(hi:i<ks.length){l:List ByteArray}(hl:l=ks.take (i+1))(hs:ks.length<=1000):∀(n k:Nat),k+n=i->C2 l (i:Int) (k:Int)=some (.inr ())
 |0,k,hk=>by
  rw[TG];simp only[j7q];rw[ah (by omega),j6,aU]
 |n+1,k,hk=>by
  have gF:l.length=i+1:=by rw[hl,qd];omega
  have br:k<ks.length:=by omega
  have g1:l.getD k ByteArray.empty=ks[k]:=by rw[hl,List.getD_eq_getElem?_getD,zo (by omega),jh br];rfl
  have g2:l.getD i ByteArray.empty=ks[i]:=by rw[hl,List.getD_eq_getElem?_getD,zo (by omega),jh hi];rfl
  have bq:ks[k]≠ks[i]:=λe=>by
   have:=(List.getElem_inj (h₀:=br) (h₁:=hi) hn).1 e;omega
  rw[TG];simp only[j7q];rw[ag (by omega),aR (show (0:Int)<=(k:Int) by omega) (by omega),aR (show (0:Int)<=(i:Int) by omega) (by omega)];simp only[j5,j7,g1,g2,jAL bq,j6];rw[aj (x:=(k:Int)+1) (by omega) (by omega),aJ];exact W8 hn hi hl hs n (k+1) (by omega)
theorem jE6{ks:List ByteArray}(h:ez ks){i:Nat}(hi:i<ks.length)(hs:ks.length<=1000):jcT (ks.take (i+1)) (i:Int)=some 0:=by
 have gF:(ks.take (i+1)).length=i+1:=by rw[qd];omega
 have g2:(ks.take (i+1)).getD i ByteArray.empty=ks[i]:=by rw[List.getD_eq_getElem?_getD,zo (by omega),jh hi];rfl
 simp only[jcT];rw[aR (by omega) (by omega)];simp only[j5,j7,g2,jE3 (h.2 _ (je hi)),j3,ji,j6];rw[show C2 (ks.take (i+1)) (i:Int) 0=_ from W8 h.1 hi rfl hs i 0 (by omega)];rfl
theorem El{α:Type}(f:α->ByteArray){xs:List α}(h:ez (xs.map f)){i:Nat}(hi:i<xs.length)(hs:xs.length<=1000) :
  (xs.take i).map f++[f xs[i]]=(xs.take (i+1)).map f/\jcT ((xs.take (i+1)).map f) (i:Int)=some 0:=by
 refine⟨?_,?_⟩
 .rw[ko,jh hi,zq];rfl
 .have:=jE6 h (i:=i) (by simpa using hi) (by simpa using hs);rwa[<-List.map_take]at this
theorem W9{nm:ByteArray}{o:Int}{rs:List aO}(h:∀r∈rs,Int.tmod r.2.2.2.2.2.2 60=0)(hl:rs.length<=1000):∀(n i:Nat),i+n=rs.length->C7 true (i:Int) nm o rs=some true
 |0,i,hi=>by
  rw[TP];simp only[j5y,show Int.ofNat rs.length=(rs.length:Int) from rfl];rw[ah (by omega),j6,aU]
 |n+1,i,hi=>by
  have bd:i<rs.length:=by omega
  have bj:rs.getD i ((0:Int),((0:Int),((0:Int),((0:Int),((0:Int),((0:Int),(0:Int)))))))=rs[i]:=by simp[List.getD,bd]
  rw[TP];simp only[j5y,show Int.ofNat rs.length=(rs.length:Int) from rfl];rw[ag (by omega),aR (by omega) (by omega)];simp only[j5,zr,j7,bj,h _ (je bd),qj];rw[aj (x:=(i:Int)+1) (by omega) (by omega),aJ];exact W9 h hl n (i+1) (by omega)
theorem jEU{z:bU}(h:uT z):jds z=some true:=by
 simp only[jds,h.o60,qj];rw[show C7 true 0 z.1 z.2.1 z.2.2=_ from W9 h.r60 h.len z.2.2.length 0 (by omega)];rfl
section
variable{zs:List bU}{ps:List dH}{cs:List bt}{ss:List cS}
theorem Xa(hn:ez (zs.map (·.1)))(hc:∀z∈zs,uT z)(hr:∀z∈zs,j8e z=some 0)(hl:zs.length<=100):∀(n i:Nat),i+n=zs.length->C8 (i:Int) zs ps cs ss ((zs.take i).map (·.1))=some (.inr ())
 |0,i,hi=>by
  rw[TQ];simp only[j6M,show Int.ofNat zs.length=(zs.length:Int) from rfl];rw[ah (by omega),j6,aU]
 |n+1,i,hi=>by
  have bd:i<zs.length:=by omega
  have bj:zs.getD i (ByteArray.empty,((0:Int),([]:List aO)))=zs[i]:=by simp[List.getD,bd]
  obtain⟨n1,n2⟩:=El (·.1) hn bd (by omega);have fE:=hc _ (je bd);rw[TQ];simp only[j6M,show Int.ofNat zs.length=(zs.length:Int) from rfl];rw[ag (by omega),aR (by omega) (by omega)];simp only[j5,j7,bj];rw[ag (show ((zs.take i).map (·.1)).length+[zs[i].1].length<=aY by simp[aY];omega),j5,n1,n2];simp only[j3,jj,j6,show j8e (zs[i].1,(zs[i].2.1,zs[i].2.2))=_ from hr _ (je bd),zr,j5,show jds (zs[i].1,(zs[i].2.1,zs[i].2.2))=_ from jEU fE,ji];rw[aj (x:=(i:Int)+1) (by omega) (by omega),aJ];exact Xa hn hc hr hl n (i+1) (by omega)
theorem Xb{w:WL}(h:gW 0 w)(hl:w.length<=14):∀(n i:Nat),i+n=w.length->C9 w (i:Int)=some (.inr ())
 |0,i,hi=>by
  rw[TR];simp only[j6N,show Int.ofNat w.length=(w.length:Int) from rfl];rw[ah (by omega),j6,aU]
 |n+1,i,hi=>by
  have bd:i<w.length:=by omega
  have hg:=As h i bd;have ih:=Xb h hl n (i+1) (by omega);rw[TR];simp only[j6N,show Int.ofNat w.length=(w.length:Int) from rfl];rw[ag (by omega),aR (by omega) (by omega)];simp only[j5,j7];rw[ah (show¬(w.getD i (0,0)).1<0 by omega),ah (show¬(w.getD i (0,0)).1>=(w.getD i (0,0)).2 by omega),ah (show¬(w.getD i (0,0)).2>604800 by omega),aj (x:=(i:Int)+1) (by omega) (by omega)];simp only[j6];by_cases h0:(i:Int)>0
  .obtain⟨k,rfl⟩:∃k,i=k+1:=⟨i-1,by omega⟩;have NG:=ND h k (by omega);rw[ag h0,j5,aj (x:=((k+1:Nat):Int)-1) (by omega) (by omega),show ((k+1:Nat):Int)-1=(k:Int) by omega,aR (show (0:Int)<=(k:Int) by omega) (by omega)];simp only[j5,j7];rw[ah (show¬(w.getD (k+1) (0,0)).1<(w.getD k (0,0)).2 by omega),j6,aJ];exact ih
  .rw[ah h0,j6,aJ];exact ih
theorem ye{w:WL}(h:gW 0 w)(hl:w.length<=14):jfv w=some 0:=by
 simp only[jfv,show Int.ofNat w.length=(w.length:Int) from rfl];rw[ah (by omega),j6,show C9 w 0=_ from Xb h hl w.length 0 (by omega)];rfl
theorem Xc{n:Int}(h:j5Q n=some true):jkI n=some true:=h
theorem Xd(hn:ez (ps.map (·.1)))(hc:∀p∈ps,D2 zs.length p)(hl:ps.length<=100)(iH:zs.length<=100):∀(n i:Nat),i+n=ps.length->Da (i:Int) zs ps cs ss ((ps.take i).map (·.1))=some (.inr ())
 |0,i,hi=>by
  rw[TS];simp only[j63,show Int.ofNat ps.length=(ps.length:Int) from rfl];rw[ah (by omega),j6,aU]
 |n+1,i,hi=>by
  have bd:i<ps.length:=by omega
  have bj:ps.getD i (ByteArray.empty,((0:Int),(([]:WL),((0:Int),((0:Int),false)))))=ps[i]:=by simp[List.getD,bd]
  obtain⟨n1,n2⟩:=El (·.1) hn bd (by omega);have fE:=hc _ (je bd);have h0:=fE.z0;have h1:=fE.z1;rw[TS];simp only[j63,show Int.ofNat ps.length=(ps.length:Int) from rfl,show Int.ofNat zs.length=(zs.length:Int) from rfl];rw[ag (by omega),aR (by omega) (by omega)];simp only[j5,j7,bj];rw[ag (show ((ps.take i).map (·.1)).length+[ps[i].1].length<=aY by simp[aY];omega),j5,n1,n2,fE.nb,aj (x:=(zs.length:Int)-1) (by omega) (by omega),mV h0 (by omega)];simp only[j3,jj,j6,ji,ye fE.w fE.wl,Xc fE.m,Xc fE.r];rw[aj (x:=(i:Int)+1) (by omega) (by omega),aJ];exact Xd hn hc hl iH n (i+1) (by omega)
theorem Xe{ds:List Int}(h:∀d∈ds,j17 d=some true)(hl:ds.length<=64){m z:Int}{nm:ByteArray}{l3:List ByteArray}:∀(n i:Nat),i+n=ds.length->Db m (i:Int) zs ps cs ss nm z ds l3=some (.inr (m,zs,ps,cs,ss,nm,z,ds,l3))
 |0,i,hi=>by
  rw[TT];simp only[j4w,show Int.ofNat ds.length=(ds.length:Int) from rfl];rw[ah (by omega),j6,aU]
 |n+1,i,hi=>by
  have bd:i<ds.length:=by omega
  have bj:ds.getD i (0:Int)=ds[i]:=by simp[bd]
  have hd:=h _ (je bd);rw[TT];simp only[j4w,show Int.ofNat ds.length=(ds.length:Int) from rfl];rw[ag (by omega),aR (by omega) (by omega)];simp only[j5,j7,bj,Ox,j3,mV (jE5 hd) (Oy hd),ji,j6];rw[aj (x:=(i:Int)+1) (by omega) (by omega),aJ];exact Xe h hl n (i+1) (by omega)
theorem Xf{ds:List Int}(h:ds.Pairwise (· < ·))(hl:ds.length<=64){m z:Int}{nm:ByteArray}{l3:List ByteArray}:∀(n i:Nat),ds.length<=i+n->1<=i->Dc m (i:Int) zs ps cs ss nm z ds l3=some (.inr (m,zs,ps,cs,ss,l3))
 |n,i,hi,h1=>by
  rw[jju];simp only[j64,show Int.ofNat ds.length=(ds.length:Int) from rfl];by_cases bd:i<ds.length
  .obtain⟨n,rfl⟩:∃m,n=m+1:=⟨n-1,by omega⟩;obtain⟨k,rfl⟩:∃k,i=k+1:=⟨i-1,by omega⟩;have bj:ds.getD (k+1) (0:Int)=ds[k+1]:=by simp[bd]
   have yI:ds.getD k (0:Int)=ds[k]:=by simp[show k<ds.length by omega]
   have aA:=kr.1 h k (k+1) (by omega) bd (by omega);rw[ag (by omega),aR (by omega) (by omega),aj (x:=((k+1:Nat):Int)-1) (by omega) (by omega),show ((k+1:Nat):Int)-1=(k:Int) by omega,aR (show (0:Int)<=(k:Int) by omega) (by omega)];simp only[j5,j7,bj,yI];rw[ah (show¬ds[k+1]<=ds[k] by omega),j6,aj (x:=((k+1:Nat):Int)+1) (by omega) (by omega),aJ];exact Xf h hl n (k+1+1) (by omega) (by omega)
  .rw[ah (by omega),j6,aU]
 termination_by n=>n
theorem Xg(hn:ez (cs.map (·.1)))(hc:∀x∈cs,rE zs.length x)(hl:cs.length<=100)(iH:zs.length<=100):∀(n i:Nat),i+n=cs.length->Dd (i:Int) zs ps cs ss ((cs.take i).map (·.1))=some (.inr ())
 |0,i,hi=>by
  rw[TU];simp only[j4x,show Int.ofNat cs.length=(cs.length:Int) from rfl];rw[ah (by omega),j6,aU]
 |n+1,i,hi=>by
  have bd:i<cs.length:=by omega
  have bj:cs.getD i (ByteArray.empty,((0:Int),([]:List Int)))=cs[i]:=by simp[List.getD,bd]
  obtain⟨n1,n2⟩:=El (·.1) hn bd (by omega);have fE:=hc _ (je bd);have h0:=fE.z0;have h1:=fE.z1;have h2:=fE.len;have l2:=Xe (zs:=zs) (ps:=ps) (cs:=cs) (ss:=ss) fE.day h2 (m:=(i:Int)) (z:=cs[i].2.1) (nm:=cs[i].1) (l3:=(cs.take (i+1)).map (·.1)) cs[i].2.2.length 0 (by omega);have l4:=Xf (zs:=zs) (ps:=ps) (cs:=cs) (ss:=ss) fE.asc h2 (m:=(i:Int)) (z:=cs[i].2.1) (nm:=cs[i].1) (l3:=(cs.take (i+1)).map (·.1)) cs[i].2.2.length 1 (by omega) (by omega);rw[TU];simp only[j4x,show Int.ofNat cs.length=(cs.length:Int) from rfl,show Int.ofNat zs.length=(zs.length:Int) from rfl];rw[ag (by omega),aR (by omega) (by omega)];simp only[j5,j7,bj];rw[ag (show ((cs.take i).map (·.1)).length+[cs[i].1].length<=aY by simp[aY];omega),j5,n1,n2,aj (x:=(zs.length:Int)-1) (by omega) (by omega),mV h0 (by omega)];simp only[j3,jj,j6,ji,show Int.ofNat cs[i].2.2.length=(cs[i].2.2.length:Int) from rfl];rw[ah (by omega),j6,show Db (i:Int) 0 zs ps cs ss cs[i].1 cs[i].2.1 cs[i].2.2 ((cs.take (i+1)).map (·.1))=_ from l2];simp only[j3,jK];rw[show Dc (i:Int) 1 zs ps cs ss cs[i].1 cs[i].2.1 cs[i].2.2 ((cs.take (i+1)).map (·.1))=_ from l4];simp only[j3,jK];rw[aj (x:=(i:Int)+1) (by omega) (by omega),aJ];exact Xg hn hc hl iH n (i+1) (by omega)
theorem Xh{L:bP}(h:∀m∈L.2.2.2.2.2.1,0<=m/\m<(ps.length:Int))(hl:L.2.2.2.2.2.1.length<=12)(hp:ps.length<=100):∀(n i:Nat),i+n=L.2.2.2.2.2.1.length->
  De (i:Int) zs ps cs ss L.1 L.2.1 L.2.2.1.1 L.2.2.1.2 L.2.2.2.1 L.2.2.2.2.1 L.2.2.2.2.2.1 L.2.2.2.2.2.2.1 L.2.2.2.2.2.2.2.1 L.2.2.2.2.2.2.2.2=some (.inr (zs,ps,cs,ss,L.1,L.2.1,L.2.2.1.1,L.2.2.1.2,L.2.2.2.1,L.2.2.2.2.1,L.2.2.2.2.2.1,L.2.2.2.2.2.2.1,L.2.2.2.2.2.2.2.1,L.2.2.2.2.2.2.2.2))
 |0,i,hi=>by
  rw[TW];simp only[j6O,show Int.ofNat L.2.2.2.2.2.1.length=(L.2.2.2.2.2.1.length:Int) from rfl];rw[ah (by omega),j6,aU]
 |n+1,i,hi=>by
  have bd:i<L.2.2.2.2.2.1.length:=by omega
  have bj:L.2.2.2.2.2.1.getD i (0:Int)=L.2.2.2.2.2.1[i]:=by simp[bd]
  have hd:=h _ (je bd);rw[TW];simp only[j6O,show Int.ofNat L.2.2.2.2.2.1.length=(L.2.2.2.2.2.1.length:Int) from rfl,show Int.ofNat ps.length=(ps.length:Int) from rfl];rw[ag (by omega),aR (by omega) (by omega),aj (x:=(ps.length:Int)-1) (by omega) (by omega)];simp only[j5,j7,bj,mV hd.1 (show L.2.2.2.2.2.1[i]<=(ps.length:Int)-1 by omega),j3,ji,j6];rw[aj (x:=(i:Int)+1) (by omega) (by omega),aJ];exact Xh h hl hp n (i+1) (by omega)
theorem jCF{L:bP}(h:eD zs.length ps.length cs.length L)(hz:zs.length<=100)(hp:ps.length<=100)(hc:cs.length<=100):jhG (zs,(ps,(cs,ss))) L=some 0:=by
 have h0:=h.z0;have h1:=h.z1;have mv:=h.m0;have eZ:=h.m1;have fi:=h.c1;have jH:=h.wl;have lp:=Xh (zs:=zs) (ps:=ps) (cs:=cs) (ss:=ss) h.mem eZ hp L.2.2.2.2.2.1.length 0 (by omega);simp only[jhG,show Int.ofNat zs.length=(zs.length:Int) from rfl,show Int.ofNat L.2.2.2.2.2.1.length=(L.2.2.2.2.2.1.length:Int) from rfl];rw[aj (x:=(zs.length:Int)-1) (by omega) (by omega),mV h0 (by omega),Ox];simp only[j3,ji,j6,mV h.d0 (Oy h.day),mV h.c0 fi,mV h.u0 h.u1,mV h.e0 h.e1];rw[bW (show¬(L.2.2.2.2.2.1.length:Int)=0 by omega),ah (show¬(L.2.2.2.2.2.1.length:Int)>12 by omega)];simp only[j6];rw[show De 0 zs ps cs ss L.1 L.2.1 L.2.2.1.1 L.2.2.1.2 L.2.2.2.1 L.2.2.2.2.1 L.2.2.2.2.2.1 L.2.2.2.2.2.2.1 L.2.2.2.2.2.2.2.1 L.2.2.2.2.2.2.2.2=_ from lp];simp only[j3,jK,ye h.w jH,jj,j6,mV h.mode0 h.mode1,ji,show Int.ofNat cs.length=(cs.length:Int) from rfl];rw[aj (x:=(cs.length:Int)-1) (by omega) (by omega)];by_cases hm:L.2.2.2.2.2.2.2.2=0
 .have e:(L.2.2.2.2.2.2.2.2 != 0)=false:=by rw[hm];rfl
  have e2:(L.2.2.2.2.2.2.2.1 != 0)=false:=by rw[h.cal0 hm];rfl
  rw[e,e2,cP hm];rfl
 .have e:(L.2.2.2.2.2.2.2.2 != 0)=true:=by simpa using hm
  have cL:=h.cal hm;rw[e,bW hm,mV cL.1 (by omega)];rfl
theorem jE8{x:dE}(h:nS ps.length x)(hp:ps.length<=100):jkJ (zs,(ps,(cs,ss))) x=some 0:=by
 have nC:=h.f0;have h9:=h.ft;have NI:=h.t1;have hd:=Oy h.day;have Xi:Int.tdiv x.2.2.2.2 86400=x.2.2.2.2/86400:=sW (by omega)
 have mn:∃b,j9k x.2.1 0 ((ps.length:Int)-1)=some b/\cond (!b) (cond (x.1 != 1) true (x.2.1 != -1)) false=false:=by
  rcases h.a with⟨a1,a2⟩|⟨a1,a2⟩
  .exact⟨true,mV a1 (by omega),rfl⟩
  .exact⟨false,jE4 (by omega),by rw[a1,a2];rfl⟩
 obtain⟨b,eb,hb⟩:=mn;simp only[jkJ,show Int.ofNat ps.length=(ps.length:Int) from rfl];rw[aj (x:=(ps.length:Int)-1) (by omega) (by omega),mV h.k0 h.k1,eb];simp only[j3,ji,j6,hb];rw[ah (show¬x.2.2.2.1<0 by omega),ah (show¬x.2.2.2.2<0 by omega),aj (x:=Int.tdiv x.2.2.2.2 86400) (by rw[Xi];omega) (by rw[Xi];omega),Ox];simp only[j6,j3];rw[ah (show¬Int.tdiv x.2.2.2.2 86400>98980 by omega),ah (show¬x.2.2.2.1>=x.2.2.2.2 by omega)];simp only[j6];by_cases hk:x.1=2
 .obtain⟨b1,b2,b3⟩:=h.b hk;have e2:(x.1 != 2)=false:=by rw[hk];rfl
  rw[cP hk,j5,mV b1 (by omega),e2,bW b3];rfl
 .have e2:(x.1 != 2)=true:=by simpa using hk
  rw[bW hk,e2,h.b0 hk];rfl
theorem Xj{ls:List bP}(hn:ez (ls.map (·.1)))(hc:∀x∈ls,eD zs.length ps.length cs.length x)(hl:ls.length<=100)(hz:zs.length<=100)(hp:ps.length<=100)(ei:cs.length<=100){m:Int}{nm:ByteArray}{es:List dE}{l3:List ByteArray}:∀(n i:Nat),i+n=ls.length->
  Df m (i:Int) zs ps cs ss nm ls es l3 ((ls.take i).map (·.1))=some (.inr (m,zs,ps,cs,ss,nm,ls,es,l3))
 |0,i,hi=>by
  rw[TX];simp only[j4y,show Int.ofNat ls.length=(ls.length:Int) from rfl];rw[ah (by omega),j6,aU]
 |n+1,i,hi=>by
  have bd:i<ls.length:=by omega
  have bj:ls.getD i (ByteArray.empty,((0:Int),(((0:Int),(0:Int)),((0:Int),((0:Int),(([]:List Int),(([]:WL),((0:Int),(0:Int)))))))))=ls[i]:=by simp[List.getD,bd]
  obtain⟨n1,n2⟩:=El (·.1) hn bd (by omega);have fE:=hc _ (je bd);rw[TX];simp only[j4y,show Int.ofNat ls.length=(ls.length:Int) from rfl];rw[ag (by omega),aR (by omega) (by omega)];simp only[j5,j7,bj];rw[ag (show ((ls.take i).map (·.1)).length+[ls[i].1].length<=aY by simp[aY];omega),j5,n1,n2];simp only[j3,jj,j6];rw[show jhG (zs,ps,cs,ss) (ls[i].1,ls[i].2.1,(ls[i].2.2.1.1,ls[i].2.2.1.2),ls[i].2.2.2.1,ls[i].2.2.2.2.1,ls[i].2.2.2.2.2.1,ls[i].2.2.2.2.2.2.1,ls[i].2.2.2.2.2.2.2.1,ls[i].2.2.2.2.2.2.2.2)=_ from jCF fE hz hp ei];simp only[j3,jj,j6];rw[aj (x:=(i:Int)+1) (by omega) (by omega),aJ];exact Xj hn hc hl hz hp ei n (i+1) (by omega)
theorem Xk{es:List dE}(hc:∀x∈es,nS ps.length x)(hl:es.length<=48)(hp:ps.length<=100){m:Int}{nm:ByteArray}{ls:List bP}{l3:List ByteArray}:∀(n i:Nat),i+n=es.length->
  Dg m (i:Int) zs ps cs ss nm ls es l3=some (.inr (m,zs,ps,cs,ss,l3))
 |0,i,hi=>by
  rw[TY];simp only[j4z,show Int.ofNat es.length=(es.length:Int) from rfl];rw[ah (by omega),j6,aU]
 |n+1,i,hi=>by
  have bd:i<es.length:=by omega
  have bj:es.getD i ((0:Int),((0:Int),((0:Int),((0:Int),(0:Int)))))=es[i]:=by simp[List.getD,bd]
  have fE:=hc _ (je bd);rw[TY];simp only[j4z,show Int.ofNat es.length=(es.length:Int) from rfl];rw[ag (by omega),aR (by omega) (by omega)];simp only[j5,j7,bj];rw[show jkJ (zs,ps,cs,ss) (es[i].1,es[i].2.1,es[i].2.2.1,es[i].2.2.2.1,es[i].2.2.2.2)=_ from jE8 fE hp];simp only[j3,jj,j6];rw[aj (x:=(i:Int)+1) (by omega) (by omega),aJ];exact Xk hc hl hp n (i+1) (by omega)
theorem Xl(hn:ez (ss.map (·.1)))(hc:∀x∈ss,qK zs.length ps.length cs.length x)(hl:ss.length<=100)(hz:zs.length<=100)(hp:ps.length<=100)(ei:cs.length<=100):∀(n i:Nat),i+n=ss.length->
  Dh (i:Int) zs ps cs ss ((ss.take i).map (·.1))=some (.inr ())
 |0,i,hi=>by
  rw[TZ];simp only[j4A,show Int.ofNat ss.length=(ss.length:Int) from rfl];rw[ah (by omega),j6,aU]
 |n+1,i,hi=>by
  have bd:i<ss.length:=by omega
  have bj:ss.getD i (ByteArray.empty,(([]:List bP),([]:List dE)))=ss[i]:=by simp[List.getD,bd]
  obtain⟨n1,n2⟩:=El (·.1) hn bd (by omega);have fE:=hc _ (je bd);have h1:=fE.ll;have h2:=fE.el;have l2:=Xj (ss:=ss) fE.nm fE.ly (by omega) hz hp ei (m:=(i:Int)) (nm:=ss[i].1) (es:=ss[i].2.2) (l3:=(ss.take (i+1)).map (·.1)) ss[i].2.1.length 0 (by omega);have l4:=Xk (zs:=zs) (cs:=cs) (ss:=ss) fE.ed h2 hp (m:=(i:Int)) (nm:=ss[i].1) (ls:=ss[i].2.1) (l3:=(ss.take (i+1)).map (·.1)) ss[i].2.2.length 0 (by omega);rw[TZ];simp only[j4A,show Int.ofNat ss.length=(ss.length:Int) from rfl];rw[ag (by omega),aR (by omega) (by omega)];simp only[j5,j7,bj];rw[ag (show ((ss.take i).map (·.1)).length+[ss[i].1].length<=aY by simp[aY];omega),j5,n1,n2];simp only[j3,jj,j6,show Int.ofNat ss[i].2.1.length=(ss[i].2.1.length:Int) from rfl,show Int.ofNat ss[i].2.2.length=(ss[i].2.2.length:Int) from rfl];rw[ah (show¬(ss[i].2.1.length:Int)>6 by omega),ah (show¬(ss[i].2.2.length:Int)>48 by omega)];simp only[j6];rw[show Df (i:Int) 0 zs ps cs ss ss[i].1 ss[i].2.1 ss[i].2.2 ((ss.take (i+1)).map (·.1)) []=_ from l2];simp only[j3,jK];rw[show Dg (i:Int) 0 zs ps cs ss ss[i].1 ss[i].2.1 ss[i].2.2 ((ss.take (i+1)).map (·.1))=_ from l4];simp only[j3,jK];rw[aj (x:=(i:Int)+1) (by omega) (by omega),aJ];exact Xl hn hc hl hz hp ei n (i+1) (by omega)
theorem jEV(h:uU (zs,(ps,(cs,ss))))(hr:∀z∈zs,j8e z=some 0):jkK (zs,(ps,(cs,ss)))=some 0:=by
 have iH:zs.length<=16:=h.zl;have fm:ps.length<=32:=h.pl;have ei:cs.length<=8:=h.cl;have ee:ss.length<=12:=h.sl;have lz:=Xa (zs:=zs) (ps:=ps) (cs:=cs) (ss:=ss) h.zn h.zc hr (by omega) zs.length 0 (by omega);have lp:=Xd (zs:=zs) (ps:=ps) (cs:=cs) (ss:=ss) h.pn h.pc (by omega) (by omega) ps.length 0 (by omega);have lc:=Xg (zs:=zs) (ps:=ps) (cs:=cs) (ss:=ss) h.cn h.cc (by omega) (by omega) cs.length 0 (by omega);have ls:=Xl (zs:=zs) (ps:=ps) (cs:=cs) (ss:=ss) h.sn h.sc (by omega) (by omega) (by omega) (by omega) ss.length 0 (by omega);simp only[jkK,show Int.ofNat zs.length=(zs.length:Int) from rfl,show Int.ofNat ps.length=(ps.length:Int) from rfl,show Int.ofNat cs.length=(cs.length:Int) from rfl,show Int.ofNat ss.length=(ss.length:Int) from rfl];rw[ah (show¬(zs.length:Int)>16 by omega),ah (show¬(ps.length:Int)>32 by omega),ah (show¬(cs.length:Int)>8 by omega),ah (show¬(ss.length:Int)>12 by omega)];simp only[j6,jo7,show C8 0 zs ps cs ss []=_ from lz,j3,jK,jj,jlV,show Da 0 zs ps cs ss []=_ from lp,jg3,show Dd 0 zs ps cs ss []=_ from lc,jg4,show Dh 0 zs ps cs ss []=_ from ls]
end
theorem Oz{z:bU}(h:iu z):j8e z=some 0:=by
 have h4:=h.zref.2.1;simp only[j8e];rw[show j25 (z.1,(z.2.1,z.2.2))=_ from h4.1];rfl
end Go.Proofs.Pw
