/- The reference of Gt 8: eW that are right. -/
import Derived.Test.YtpbnnhakjhalaaaGreatLWPG
import Derived.KernelRfl
import Derived.Test.YtpbnnhakjhalaaaGreatLWPH
open Go Go.Lft
namespace Go.Proofs.Pw
theorem jvW{x y:ByteArray}(h:x≠y):(x.toList==y.toList)=false:=by
 rw[ByteArray.toList_eq,ByteArray.toList_eq];exact qb.2 λhh=>h (ByteArray.ext (Array.toList_inj.mp (eq_of_beq hh)))
def NN(b:Int):Prop:=(97<=b/\b<=122)\/(48<=b/\b<=57)\/b=95\/b=45
theorem Vq{s:ByteArray}(hs:s.size<=24):∀(n i:Nat),i+n=s.size->((wR s (s.size:Int) (i:Int)).bind λq0=>sumC q0 (λa=>some a) (λ_=>some true))=some true->∀j:Nat,i<=j->j<s.size->NN (cN s j)
 |0,i,hi,_,j,h1,h2=>by omega
 |n+1,i,hi,h,j,h1,h2=>by
  rw[ji8]at h;simp only[j64,jax,jfw,j3]at h;rw[ag (by omega),aZ (by omega) (by omega),ah (x:=(i:Int)+1) (by omega) (by omega)]at h;simp only[j5]at h
  have key:NN (cN s i)/\((wR s (s.size:Int) ((i:Int)+1)).bind λq0=>sumC q0 (λa=>some a) (λ_=>some true))=some true:=by
   by_cases ha:97<=cN s i/\cN s i<=122
   .rw[ag (show cN s i>=97 from ha.1),ag ha.2]at h;simp only[j5,jn,j6,aQ]at h;exact⟨.inl ha,h⟩
   .have e:cond (decide (cN s i>=97)) (decide (cN s i<=122)) false=false:=by
     by_cases hx:cN s i>=97
     .rw[ag hx,j5];exact aj (by omega)
     .rw[aj hx,j6]
    rw[e]at h;simp only[k5,j5]at h;by_cases hb:48<=cN s i/\cN s i<=57
    .rw[ag (show cN s i>=48 from hb.1),ag hb.2]at h;simp only[j5,jn,j6,aQ]at h;exact⟨.inr (.inl hb),h⟩
    .have e2:cond (decide (cN s i>=48)) (decide (cN s i<=57)) false=false:=by
      by_cases hx:cN s i>=48
      .rw[ag hx,j5];exact aj (by omega)
      .rw[aj hx,j6]
     rw[e2]at h;simp only[k5,j5]at h;by_cases hc:cN s i=95
     .have e3:(cN s i != 95)=false:=by rw[hc];rfl
      rw[e3]at h;simp only[j6,aQ]at h;exact⟨.inr (.inr (.inl hc)),h⟩
     .have e3:(cN s i != 95)=true:=by simpa using hc
      rw[e3]at h;simp only[j5]at h;by_cases hd:cN s i=45
      .have e4:(cN s i != 45)=false:=by rw[hd];rfl
       rw[e4]at h;simp only[j6,aQ]at h;exact⟨.inr (.inr (.inr hd)),h⟩
      .have e4:(cN s i != 45)=true:=by simpa using hd
       rw[e4]at h;simp[aY,Jj]at h
  by_cases hj:j=i
  .subst hj;exact key.1
  .exact Vq hs n (i+1) (by omega) key.2 j (by omega) h2
theorem Vr{s:ByteArray}(hs:s.size<=24)(br:∀j:Nat,j<s.size->NN (cN s j)):∀(n i:Nat),i+n=s.size->yq s (i:Int)=some (.inr ())
 |0,i,hi=>by
  rw[RH];simp only[j5C,show Int.ofNat s.size=(s.size:Int) from rfl];rw[aj (by omega),j6,aY]
 |n+1,i,hi=>by
  have ih:=Vr hs br n (i+1) (by omega);have ho:=br i (by omega);rw[RH];simp only[j5C,jjz,j3,show Int.ofNat s.size=(s.size:Int) from rfl];rw[ag (by omega),aZ (by omega) (by omega),ah (x:=(i:Int)+1) (by omega) (by omega)];simp only[j5,Bool.true_or];have fin:lpK (some (.inl (s,(i:Int)+1)):Option ((ByteArray×Int) ⊕ (Bool ⊕ Unit))) (λh=>yq h.1 h.2)=some (.inr ()):=by rw[aQ];exact ih
  by_cases ha:97<=cN s i/\cN s i<=122
  .rw[aj (show¬cN s i<97 by omega),aj (show¬cN s i>122 by omega)];exact fin
  .have e:cond (decide (cN s i<97)) true (decide (cN s i>122))=true:=by
    by_cases hx:cN s i<97
    .rw[ag hx,j5]
    .rw[aj hx,j6];exact ag (by omega)
   rw[e];simp only[j5];by_cases hb:48<=cN s i/\cN s i<=57
   .rw[ag (show cN s i>=48 from hb.1),ag hb.2];exact fin
   .have e2:cond (decide (cN s i>=48)) (decide (cN s i<=57)) false=false:=by
     by_cases hx:cN s i>=48
     .rw[ag hx,j5];exact aj (by omega)
     .rw[aj hx,j6]
    rw[e2];rcases ho with ho|ho|ho|ho
    .exact absurd ho ha
    .exact absurd ho hb
    .rw[ho];exact fin
    .rw[ho];exact fin
theorem jz4{s:ByteArray}(h:j4Y s=some true):jiI s=some true:=by
 simp only[j4Y,show Int.ofNat s.size=(s.size:Int) from rfl]at h;have hz:¬(cond (s.toList==ByteArray.empty.toList) true (decide ((s.size:Int)>24)))=true:=by intro hx;rw[hx]at h;simp at h
 have tJ:cond (s.toList==ByteArray.empty.toList) true (decide ((s.size:Int)>24))=false:=qb.2 hz;rw[tJ]at h;simp only[k5,jn,Bool.or_false,j6]at h
 have h0:inR 0 s.size=true:=by
  cases hc:inR 0 s.size with
  |true=>rfl
  |false=>rw[hc]at h;simp at h
 have gU:0<s.size:=by simp only[inR,ja,jk]at h0;omega
 have gK:s.size<=24:=by
  have:decide ((s.size:Int)>24)=false:=by
   revert tJ
   cases (s.toList==ByteArray.empty.toList)<;>simp
  have:=of_decide_eq_false this;omega
 rw[h0]at h;simp only[j5,jax,j3]at h
 have ha:97<=cN s 0/\cN s 0<=122:=by
  apply jm;intro hn
  have e:cond (decide (cN s 0>=97)) (decide (cN s 0<=122)) false=false:=by
   by_cases hx:cN s 0>=97
   .rw[ag hx,j5];exact aj (by omega)
   .rw[aj hx,j6]
  rw[e]at h;simp at h
 rw[ag (show cN s 0>=97 from ha.1),ag ha.2]at h;simp only[j5,jn,j6]at h;have br:=Vq gK s.size 0 (by omega) h;simp only[jiI,show Int.ofNat s.size=(s.size:Int) from rfl];rw[h0,aj (show¬(s.size:Int)<1 by omega),aj (show¬(s.size:Int)>24 by omega),aj (show¬cN s 0<97 by omega),aj (show¬cN s 0>122 by omega)];simp only[j6,Bool.true_or,j5];rw[show yq s 0=_ from Vr gK (λj hj=>br j (by omega) hj) s.size 0 (by omega)];rfl
theorem ni{n lo hi:Int}(h1:lo<=n)(h2:n<=hi):j7b n lo hi=some true:=by
 simp only[j7b,ag (show n>=lo from h1),ag h2,j5]
theorem jz5{n lo hi:Int}(h:n<lo):j7b n lo hi=some false:=by
 simp only[j7b,aj (show¬n>=lo by omega),j6]
theorem NO:jah=some 98980:=by kernel_rfl
theorem NP{d:Int}(h:j0t d=some true):d<=98980:=by
 apply jm;intro hd;simp only[j0t,j4j,Gn,Gm,j3]at h;rw[aj (show¬d<0 by omega),ag (show d>=98981 by omega)]at h;simp at h
theorem jz6{d:Int}(h:j0t d=some true):0<=d:=by
 apply jm;intro hd;simp only[j0t,j4j,Gn,Gm,j3]at h;rw[ag (show d<0 by omega)]at h;simp at h
theorem Vs{ks:List ByteArray}(hn:ks.Nodup){i:Nat}(hi:i<ks.length){l:List ByteArray}(hl:l=ks.take (i+1))(hs:ks.length<=1000):∀(n k:Nat),k+n=i->BO l (i:Int) (k:Int)=some (.inr ())
 |0,k,hk=>by
  rw[RI];simp only[j5D];rw[aj (by omega),j6,aY]
 |n+1,k,hk=>by
  have gM:l.length=i+1:=by rw[hl,qg];omega
  have bf:k<ks.length:=by omega
  have g1:l.getD k ByteArray.empty=ks[k]:=by rw[hl,List.getD_eq_getElem?_getD,z7 (by omega),jj bf];rfl
  have g2:l.getD i ByteArray.empty=ks[i]:=by rw[hl,List.getD_eq_getElem?_getD,z7 (by omega),jj hi];rfl
  have aT:ks[k]≠ks[i]:=λe=>by
   have:=(List.getElem_inj (h₀:=bf) (h₁:=hi) hn).1 e;omega
  rw[RI];simp only[j5D];rw[ag (by omega),aZ (show (0:Int)<=(k:Int) by omega) (by omega),aZ (show (0:Int)<=(i:Int) by omega) (by omega)];simp only[j5,j7,g1,g2,jvW aT,j6];rw[ah (x:=(k:Int)+1) (by omega) (by omega),aQ];exact Vs hn hi hl hs n (k+1) (by omega)
theorem jz7{ks:List ByteArray}(h:eG ks){i:Nat}(hi:i<ks.length)(hs:ks.length<=1000):ja1 (ks.take (i+1)) (i:Int)=some 0:=by
 have gM:(ks.take (i+1)).length=i+1:=by rw[qg];omega
 have g2:(ks.take (i+1)).getD i ByteArray.empty=ks[i]:=by rw[List.getD_eq_getElem?_getD,z7 (by omega),jj hi];rfl
 simp only[ja1];rw[aZ (by omega) (by omega)];simp only[j5,j7,g2,jz4 (h.2 _ (jh hi)),j3,jn,j6];rw[show BO (ks.take (i+1)) (i:Int) 0=_ from Vs h.1 hi rfl hs i 0 (by omega)];rfl
theorem Dr{α:Type}(f:α->ByteArray){xs:List α}(h:eG (xs.map f)){i:Nat}(hi:i<xs.length)(hs:xs.length<=1000) :
  (xs.take i).map f++[f xs[i]]=(xs.take (i+1)).map f/\ja1 ((xs.take (i+1)).map f) (i:Int)=some 0:=by
 refine⟨?_,?_⟩
 .rw[km,jj hi,z8];rfl
 .have:=jz7 h (i:=i) (by simpa using hi) (by simpa using hs);rwa[<-List.map_take]at this
theorem Vt{nm:ByteArray}{o:Int}{rs:List aU}(h:∀r∈rs,Int.tmod r.2.2.2.2.2.2 60=0)(hl:rs.length<=1000):∀(n i:Nat),i+n=rs.length->BU true (i:Int) nm o rs=some true
 |0,i,hi=>by
  rw[RS];simp only[j3K,show Int.ofNat rs.length=(rs.length:Int) from rfl];rw[aj (by omega),j6,aY]
 |n+1,i,hi=>by
  have aX:i<rs.length:=by omega
  have bh:rs.getD i ((0:Int),((0:Int),((0:Int),((0:Int),((0:Int),((0:Int),(0:Int)))))))=rs[i]:=by simp[List.getD,aX]
  rw[RS];simp only[j3K,show Int.ofNat rs.length=(rs.length:Int) from rfl];rw[ag (by omega),aZ (by omega) (by omega)];simp only[j5,Bool.true_or,j7,bh,h _ (jh aX),zj];rw[ah (x:=(i:Int)+1) (by omega) (by omega),aQ];exact Vt h hl n (i+1) (by omega)
theorem jzK{z:bI}(h:uD z):jaq z=some true:=by
 simp only[jaq,h.o60,zj];rw[show BU true 0 z.1 z.2.1 z.2.2=_ from Vt h.r60 h.len z.2.2.length 0 (by omega)];rfl
section
variable{zs:List bI}{ps:List c9}{cs:List aW}{ss:List dA}
theorem Vu(hn:eG (zs.map (·.1)))(hc:∀z∈zs,uD z)(hr:∀z∈zs,j9a z=some 0)(hl:zs.length<=100):∀(n i:Nat),i+n=zs.length->BV (i:Int) zs ps cs ss ((zs.take i).map (·.1))=some (.inr ())
 |0,i,hi=>by
  rw[RT];simp only[j4V,show Int.ofNat zs.length=(zs.length:Int) from rfl];rw[aj (by omega),j6,aY]
 |n+1,i,hi=>by
  have aX:i<zs.length:=by omega
  have bh:zs.getD i (ByteArray.empty,((0:Int),([]:List aU)))=zs[i]:=by simp[List.getD,aX]
  obtain⟨n1,n2⟩:=Dr (·.1) hn aX (by omega);have fC:=hc _ (jh aX);rw[RT];simp only[j4V,show Int.ofNat zs.length=(zs.length:Int) from rfl];rw[ag (by omega),aZ (by omega) (by omega)];simp only[j5,j7,bh];rw[ag (show ((zs.take i).map (·.1)).length+[zs[i].1].length<=aP by simp[aP];omega),j5,n1,n2];simp only[j3,ji,j6,show j9a (zs[i].1,(zs[i].2.1,zs[i].2.2))=_ from hr _ (jh aX),Bool.true_or,j5,show jaq (zs[i].1,(zs[i].2.1,zs[i].2.2))=_ from jzK fC,jn];rw[ah (x:=(i:Int)+1) (by omega) (by omega),aQ];exact Vu hn hc hr hl n (i+1) (by omega)
theorem Vv{w:WL}(h:iq 0 w)(hl:w.length<=14):∀(n i:Nat),i+n=w.length->BW w (i:Int)=some (.inr ())
 |0,i,hi=>by
  rw[RU];simp only[j4W,show Int.ofNat w.length=(w.length:Int) from rfl];rw[aj (by omega),j6,aY]
 |n+1,i,hi=>by
  have aX:i<w.length:=by omega
  have hg:=yH h i aX;have ih:=Vv h hl n (i+1) (by omega);rw[RU];simp only[j4W,show Int.ofNat w.length=(w.length:Int) from rfl];rw[ag (by omega),aZ (by omega) (by omega)];simp only[j5,j7];rw[aj (show¬(w.getD i (0,0)).1<0 by omega),aj (show¬(w.getD i (0,0)).1>=(w.getD i (0,0)).2 by omega),aj (show¬(w.getD i (0,0)).2>604800 by omega),ah (x:=(i:Int)+1) (by omega) (by omega)];simp only[j6];by_cases h0:(i:Int)>0
  .obtain⟨k,rfl⟩:∃k,i=k+1:=⟨i-1,by omega⟩;have MW:=MU h k (by omega);rw[ag h0,j5,ah (x:=((k+1:Nat):Int)-1) (by omega) (by omega),show ((k+1:Nat):Int)-1=(k:Int) by omega,aZ (show (0:Int)<=(k:Int) by omega) (by omega)];simp only[j5,j7];rw[aj (show¬(w.getD (k+1) (0,0)).1<(w.getD k (0,0)).2 by omega),j6,aQ];exact ih
  .rw[aj h0,j6,aQ];exact ih
theorem Ds{w:WL}(h:iq 0 w)(hl:w.length<=14):jee w=some 0:=by
 simp only[jee,show Int.ofNat w.length=(w.length:Int) from rfl];rw[aj (by omega),j6,show BW w 0=_ from Vv h hl w.length 0 (by omega)];rfl
theorem Vw{n:Int}(h:j4i n=some true):jgw n=some true:=h
theorem Vx(hn:eG (ps.map (·.1)))(hc:∀p∈ps,C9 zs.length p)(hl:ps.length<=100)(gD:zs.length<=100):∀(n i:Nat),i+n=ps.length->BX (i:Int) zs ps cs ss ((ps.take i).map (·.1))=some (.inr ())
 |0,i,hi=>by
  rw[RW];simp only[j4f,show Int.ofNat ps.length=(ps.length:Int) from rfl];rw[aj (by omega),j6,aY]
 |n+1,i,hi=>by
  have aX:i<ps.length:=by omega
  have bh:ps.getD i (ByteArray.empty,((0:Int),(([]:WL),((0:Int),((0:Int),false)))))=ps[i]:=by simp[List.getD,aX]
  obtain⟨n1,n2⟩:=Dr (·.1) hn aX (by omega);have fC:=hc _ (jh aX);have h0:=fC.z0;have h1:=fC.z1;rw[RW];simp only[j4f,show Int.ofNat ps.length=(ps.length:Int) from rfl,show Int.ofNat zs.length=(zs.length:Int) from rfl];rw[ag (by omega),aZ (by omega) (by omega)];simp only[j5,j7,bh];rw[ag (show ((ps.take i).map (·.1)).length+[ps[i].1].length<=aP by simp[aP];omega),j5,n1,n2,fC.nb,ah (x:=(zs.length:Int)-1) (by omega) (by omega),ni h0 (by omega)];simp only[j3,ji,j6,jn,Ds fC.w fC.wl,Vw fC.m,Vw fC.r];rw[ah (x:=(i:Int)+1) (by omega) (by omega),aQ];exact Vx hn hc hl gD n (i+1) (by omega)
theorem Vy{ds:List Int}(h:∀d∈ds,j0t d=some true)(hl:ds.length<=64){m z:Int}{nm:ByteArray}{l3:List ByteArray}:∀(n i:Nat),i+n=ds.length->BZ m (i:Int) zs ps cs ss nm z ds l3=some (.inr (m,zs,ps,cs,ss,nm,z,ds,l3))
 |0,i,hi=>by
  rw[RX];simp only[j2M,show Int.ofNat ds.length=(ds.length:Int) from rfl];rw[aj (by omega),j6,aY]
 |n+1,i,hi=>by
  have aX:i<ds.length:=by omega
  have bh:ds.getD i (0:Int)=ds[i]:=by simp[aX]
  have hd:=h _ (jh aX);rw[RX];simp only[j2M,show Int.ofNat ds.length=(ds.length:Int) from rfl];rw[ag (by omega),aZ (by omega) (by omega)];simp only[j5,j7,bh,NO,j3,ni (jz6 hd) (NP hd),jn,j6];rw[ah (x:=(i:Int)+1) (by omega) (by omega),aQ];exact Vy h hl n (i+1) (by omega)
theorem Vz{ds:List Int}(h:ds.Pairwise (· < ·))(hl:ds.length<=64){m z:Int}{nm:ByteArray}{l3:List ByteArray}:∀(n i:Nat),ds.length<=i+n->1<=i->B2 m (i:Int) zs ps cs ss nm z ds l3=some (.inr (m,zs,ps,cs,ss,l3))
 |n,i,hi,h1=>by
  rw[jfv];simp only[j4g,show Int.ofNat ds.length=(ds.length:Int) from rfl];by_cases aX:i<ds.length
  .obtain⟨n,rfl⟩:∃m,n=m+1:=⟨n-1,by omega⟩;obtain⟨k,rfl⟩:∃k,i=k+1:=⟨i-1,by omega⟩;have bh:ds.getD (k+1) (0:Int)=ds[k+1]:=by simp[aX]
   have sb:ds.getD k (0:Int)=ds[k]:=by simp[show k<ds.length by omega]
   have au:=q7.1 h k (k+1) (by omega) aX (by omega);rw[ag (by omega),aZ (by omega) (by omega),ah (x:=((k+1:Nat):Int)-1) (by omega) (by omega),show ((k+1:Nat):Int)-1=(k:Int) by omega,aZ (show (0:Int)<=(k:Int) by omega) (by omega)];simp only[j5,j7,bh,sb];rw[aj (show¬ds[k+1]<=ds[k] by omega),j6,ah (x:=((k+1:Nat):Int)+1) (by omega) (by omega),aQ];exact Vz h hl n (k+1+1) (by omega) (by omega)
  .rw[aj (by omega),j6,aY]
 termination_by n=>n
theorem VA(hn:eG (cs.map (·.1)))(hc:∀x∈cs,sM zs.length x)(hl:cs.length<=100)(gD:zs.length<=100):∀(n i:Nat),i+n=cs.length->B3 (i:Int) zs ps cs ss ((cs.take i).map (·.1))=some (.inr ())
 |0,i,hi=>by
  rw[RY];simp only[j2N,show Int.ofNat cs.length=(cs.length:Int) from rfl];rw[aj (by omega),j6,aY]
 |n+1,i,hi=>by
  have aX:i<cs.length:=by omega
  have bh:cs.getD i (ByteArray.empty,((0:Int),([]:List Int)))=cs[i]:=by simp[List.getD,aX]
  obtain⟨n1,n2⟩:=Dr (·.1) hn aX (by omega);have fC:=hc _ (jh aX);have h0:=fC.z0;have h1:=fC.z1;have h2:=fC.len;have l2:=Vy (zs:=zs) (ps:=ps) (cs:=cs) (ss:=ss) fC.day h2 (m:=(i:Int)) (z:=cs[i].2.1) (nm:=cs[i].1) (l3:=(cs.take (i+1)).map (·.1)) cs[i].2.2.length 0 (by omega);have l4:=Vz (zs:=zs) (ps:=ps) (cs:=cs) (ss:=ss) fC.asc h2 (m:=(i:Int)) (z:=cs[i].2.1) (nm:=cs[i].1) (l3:=(cs.take (i+1)).map (·.1)) cs[i].2.2.length 1 (by omega) (by omega);rw[RY];simp only[j2N,show Int.ofNat cs.length=(cs.length:Int) from rfl,show Int.ofNat zs.length=(zs.length:Int) from rfl];rw[ag (by omega),aZ (by omega) (by omega)];simp only[j5,j7,bh];rw[ag (show ((cs.take i).map (·.1)).length+[cs[i].1].length<=aP by simp[aP];omega),j5,n1,n2,ah (x:=(zs.length:Int)-1) (by omega) (by omega),ni h0 (by omega)];simp only[j3,ji,j6,jn,show Int.ofNat cs[i].2.2.length=(cs[i].2.2.length:Int) from rfl];rw[aj (by omega),j6,show BZ (i:Int) 0 zs ps cs ss cs[i].1 cs[i].2.1 cs[i].2.2 ((cs.take (i+1)).map (·.1))=_ from l2];simp only[j3,lT];rw[show B2 (i:Int) 1 zs ps cs ss cs[i].1 cs[i].2.1 cs[i].2.2 ((cs.take (i+1)).map (·.1))=_ from l4];simp only[j3,lT];rw[ah (x:=(i:Int)+1) (by omega) (by omega),aQ];exact VA hn hc hl gD n (i+1) (by omega)
theorem VC{L:bM}(h:∀m∈L.2.2.2.2.2.1,0<=m/\m<(ps.length:Int))(hl:L.2.2.2.2.2.1.length<=12)(hp:ps.length<=100):∀(n i:Nat),i+n=L.2.2.2.2.2.1.length->
  B4 (i:Int) zs ps cs ss L.1 L.2.1 L.2.2.1.1 L.2.2.1.2 L.2.2.2.1 L.2.2.2.2.1 L.2.2.2.2.2.1 L.2.2.2.2.2.2.1 L.2.2.2.2.2.2.2.1 L.2.2.2.2.2.2.2.2=some (.inr (zs,ps,cs,ss,L.1,L.2.1,L.2.2.1.1,L.2.2.1.2,L.2.2.2.1,L.2.2.2.2.1,L.2.2.2.2.2.1,L.2.2.2.2.2.2.1,L.2.2.2.2.2.2.2.1,L.2.2.2.2.2.2.2.2))
 |0,i,hi=>by
  rw[RZ];simp only[j4X,show Int.ofNat L.2.2.2.2.2.1.length=(L.2.2.2.2.2.1.length:Int) from rfl];rw[aj (by omega),j6,aY]
 |n+1,i,hi=>by
  have aX:i<L.2.2.2.2.2.1.length:=by omega
  have bh:L.2.2.2.2.2.1.getD i (0:Int)=L.2.2.2.2.2.1[i]:=by simp[aX]
  have hd:=h _ (jh aX);rw[RZ];simp only[j4X,show Int.ofNat L.2.2.2.2.2.1.length=(L.2.2.2.2.2.1.length:Int) from rfl,show Int.ofNat ps.length=(ps.length:Int) from rfl];rw[ag (by omega),aZ (by omega) (by omega),ah (x:=(ps.length:Int)-1) (by omega) (by omega)];simp only[j5,j7,bh,ni hd.1 (show L.2.2.2.2.2.1[i]<=(ps.length:Int)-1 by omega),j3,jn,j6];rw[ah (x:=(i:Int)+1) (by omega) (by omega),aQ];exact VC h hl hp n (i+1) (by omega)
theorem jxK{L:bM}(h:eX zs.length ps.length cs.length L)(hz:zs.length<=100)(hp:ps.length<=100)(hc:cs.length<=100):jeg (zs,(ps,(cs,ss))) L=some 0:=by
 have h0:=h.z0;have h1:=h.z1;have uE:=h.m0;have gf:=h.m1;have fa:=h.c1;have iX:=h.wl;have lp:=VC (zs:=zs) (ps:=ps) (cs:=cs) (ss:=ss) h.mem gf hp L.2.2.2.2.2.1.length 0 (by omega);simp only[jeg,show Int.ofNat zs.length=(zs.length:Int) from rfl,show Int.ofNat L.2.2.2.2.2.1.length=(L.2.2.2.2.2.1.length:Int) from rfl];rw[ah (x:=(zs.length:Int)-1) (by omega) (by omega),ni h0 (by omega),NO];simp only[j3,jn,j6,ni h.d0 (NP h.day),ni h.c0 fa,ni h.u0 h.u1,ni h.e0 h.e1];rw[cB (show¬(L.2.2.2.2.2.1.length:Int)=0 by omega),aj (show¬(L.2.2.2.2.2.1.length:Int)>12 by omega)];simp only[j6];rw[show B4 0 zs ps cs ss L.1 L.2.1 L.2.2.1.1 L.2.2.1.2 L.2.2.2.1 L.2.2.2.2.1 L.2.2.2.2.2.1 L.2.2.2.2.2.2.1 L.2.2.2.2.2.2.2.1 L.2.2.2.2.2.2.2.2=_ from lp];simp only[j3,lT,Ds h.w iX,ji,j6,ni h.mode0 h.mode1,jn,show Int.ofNat cs.length=(cs.length:Int) from rfl];rw[ah (x:=(cs.length:Int)-1) (by omega) (by omega)];by_cases hm:L.2.2.2.2.2.2.2.2=0
 .have e:(L.2.2.2.2.2.2.2.2 != 0)=false:=by rw[hm];rfl
  have e2:(L.2.2.2.2.2.2.2.1 != 0)=false:=by rw[h.cal0 hm];rfl
  rw[e,e2,eA hm];rfl
 .have e:(L.2.2.2.2.2.2.2.2 != 0)=true:=by simpa using hm
  have dj:=h.cal hm;rw[e,cB hm,ni dj.1 (by omega)];rfl
theorem jz9{x:cR}(h:kF ps.length x)(hp:ps.length<=100):jgx (zs,(ps,(cs,ss))) x=some 0:=by
 have AF:=h.f0;have ir:=h.ft;have M0:=h.t1;have hd:=NP h.day;have VD:Int.tdiv x.2.2.2.2 86400=x.2.2.2.2/86400:=sG (by omega)
 have gr:∃b,j7b x.2.1 0 ((ps.length:Int)-1)=some b/\cond (!b) (cond (x.1 != 1) true (x.2.1 != -1)) false=false:=by
  rcases h.a with⟨a1,a2⟩|⟨a1,a2⟩
  .exact⟨true,ni a1 (by omega),rfl⟩
  .exact⟨false,jz5 (by omega),by rw[a1,a2];rfl⟩
 obtain⟨b,eb,hb⟩:=gr;simp only[jgx,show Int.ofNat ps.length=(ps.length:Int) from rfl];rw[ah (x:=(ps.length:Int)-1) (by omega) (by omega),ni h.k0 h.k1,eb];simp only[j3,jn,j6,hb];rw[aj (show¬x.2.2.2.1<0 by omega),aj (show¬x.2.2.2.2<0 by omega),ah (x:=Int.tdiv x.2.2.2.2 86400) (by rw[VD];omega) (by rw[VD];omega),NO];simp only[j6,j3];rw[aj (show¬Int.tdiv x.2.2.2.2 86400>98980 by omega),aj (show¬x.2.2.2.1>=x.2.2.2.2 by omega)];simp only[j6];by_cases hk:x.1=2
 .obtain⟨b1,b2,b3⟩:=h.b hk;have e2:(x.1 != 2)=false:=by rw[hk];rfl
  rw[eA hk,j5,ni b1 (by omega),e2,cB b3];rfl
 .have e2:(x.1 != 2)=true:=by simpa using hk
  rw[cB hk,e2,h.b0 hk];rfl
theorem VE{ls:List bM}(hn:eG (ls.map (·.1)))(hc:∀x∈ls,eX zs.length ps.length cs.length x)(hl:ls.length<=100)(hz:zs.length<=100)(hp:ps.length<=100)(dE:cs.length<=100){m:Int}{nm:ByteArray}{es:List cR}{l3:List ByteArray}:∀(n i:Nat),i+n=ls.length->
  B5 m (i:Int) zs ps cs ss nm ls es l3 ((ls.take i).map (·.1))=some (.inr (m,zs,ps,cs,ss,nm,ls,es,l3))
 |0,i,hi=>by
  rw[R0];simp only[j2O,show Int.ofNat ls.length=(ls.length:Int) from rfl];rw[aj (by omega),j6,aY]
 |n+1,i,hi=>by
  have aX:i<ls.length:=by omega
  have bh:ls.getD i (ByteArray.empty,((0:Int),(((0:Int),(0:Int)),((0:Int),((0:Int),(([]:List Int),(([]:WL),((0:Int),(0:Int)))))))))=ls[i]:=by simp[List.getD,aX]
  obtain⟨n1,n2⟩:=Dr (·.1) hn aX (by omega);have fC:=hc _ (jh aX);rw[R0];simp only[j2O,show Int.ofNat ls.length=(ls.length:Int) from rfl];rw[ag (by omega),aZ (by omega) (by omega)];simp only[j5,j7,bh];rw[ag (show ((ls.take i).map (·.1)).length+[ls[i].1].length<=aP by simp[aP];omega),j5,n1,n2];simp only[j3,ji,j6];rw[show jeg (zs,ps,cs,ss) (ls[i].1,ls[i].2.1,(ls[i].2.2.1.1,ls[i].2.2.1.2),ls[i].2.2.2.1,ls[i].2.2.2.2.1,ls[i].2.2.2.2.2.1,ls[i].2.2.2.2.2.2.1,ls[i].2.2.2.2.2.2.2.1,ls[i].2.2.2.2.2.2.2.2)=_ from jxK fC hz hp dE];simp only[j3,ji,j6];rw[ah (x:=(i:Int)+1) (by omega) (by omega),aQ];exact VE hn hc hl hz hp dE n (i+1) (by omega)
theorem VF{es:List cR}(hc:∀x∈es,kF ps.length x)(hl:es.length<=48)(hp:ps.length<=100){m:Int}{nm:ByteArray}{ls:List bM}{l3:List ByteArray}:∀(n i:Nat),i+n=es.length->
  B6 m (i:Int) zs ps cs ss nm ls es l3=some (.inr (m,zs,ps,cs,ss,l3))
 |0,i,hi=>by
  rw[R1];simp only[j2P,show Int.ofNat es.length=(es.length:Int) from rfl];rw[aj (by omega),j6,aY]
 |n+1,i,hi=>by
  have aX:i<es.length:=by omega
  have bh:es.getD i ((0:Int),((0:Int),((0:Int),((0:Int),(0:Int)))))=es[i]:=by simp[List.getD,aX]
  have fC:=hc _ (jh aX);rw[R1];simp only[j2P,show Int.ofNat es.length=(es.length:Int) from rfl];rw[ag (by omega),aZ (by omega) (by omega)];simp only[j5,j7,bh];rw[show jgx (zs,ps,cs,ss) (es[i].1,es[i].2.1,es[i].2.2.1,es[i].2.2.2.1,es[i].2.2.2.2)=_ from jz9 fC hp];simp only[j3,ji,j6];rw[ah (x:=(i:Int)+1) (by omega) (by omega),aQ];exact VF hc hl hp n (i+1) (by omega)
theorem VG(hn:eG (ss.map (·.1)))(hc:∀x∈ss,rr zs.length ps.length cs.length x)(hl:ss.length<=100)(hz:zs.length<=100)(hp:ps.length<=100)(dE:cs.length<=100):∀(n i:Nat),i+n=ss.length->
  B7 (i:Int) zs ps cs ss ((ss.take i).map (·.1))=some (.inr ())
 |0,i,hi=>by
  rw[R2];simp only[j2Q,show Int.ofNat ss.length=(ss.length:Int) from rfl];rw[aj (by omega),j6,aY]
 |n+1,i,hi=>by
  have aX:i<ss.length:=by omega
  have bh:ss.getD i (ByteArray.empty,(([]:List bM),([]:List cR)))=ss[i]:=by simp[List.getD,aX]
  obtain⟨n1,n2⟩:=Dr (·.1) hn aX (by omega);have fC:=hc _ (jh aX);have h1:=fC.ll;have h2:=fC.el;have l2:=VE (ss:=ss) fC.nm fC.ly (by omega) hz hp dE (m:=(i:Int)) (nm:=ss[i].1) (es:=ss[i].2.2) (l3:=(ss.take (i+1)).map (·.1)) ss[i].2.1.length 0 (by omega);have l4:=VF (zs:=zs) (cs:=cs) (ss:=ss) fC.ed h2 hp (m:=(i:Int)) (nm:=ss[i].1) (ls:=ss[i].2.1) (l3:=(ss.take (i+1)).map (·.1)) ss[i].2.2.length 0 (by omega);rw[R2];simp only[j2Q,show Int.ofNat ss.length=(ss.length:Int) from rfl];rw[ag (by omega),aZ (by omega) (by omega)];simp only[j5,j7,bh];rw[ag (show ((ss.take i).map (·.1)).length+[ss[i].1].length<=aP by simp[aP];omega),j5,n1,n2];simp only[j3,ji,j6,show Int.ofNat ss[i].2.1.length=(ss[i].2.1.length:Int) from rfl,show Int.ofNat ss[i].2.2.length=(ss[i].2.2.length:Int) from rfl];rw[aj (show¬(ss[i].2.1.length:Int)>6 by omega),aj (show¬(ss[i].2.2.length:Int)>48 by omega)];simp only[j6];rw[show B5 (i:Int) 0 zs ps cs ss ss[i].1 ss[i].2.1 ss[i].2.2 ((ss.take (i+1)).map (·.1)) []=_ from l2];simp only[j3,lT];rw[show B6 (i:Int) 0 zs ps cs ss ss[i].1 ss[i].2.1 ss[i].2.2 ((ss.take (i+1)).map (·.1))=_ from l4];simp only[j3,lT];rw[ah (x:=(i:Int)+1) (by omega) (by omega),aQ];exact VG hn hc hl hz hp dE n (i+1) (by omega)
theorem VH(h:mL (zs,(ps,(cs,ss))))(hr:∀z∈zs,j9a z=some 0):jaw (zs,(ps,(cs,ss)))=some 0:=by
 have gD:zs.length<=16:=h.zl;have iY:ps.length<=32:=h.pl;have dE:cs.length<=8:=h.cl;have dU:ss.length<=12:=h.sl;have lz:=Vu (zs:=zs) (ps:=ps) (cs:=cs) (ss:=ss) h.zn h.zc hr (by omega) zs.length 0 (by omega);have lp:=Vx (zs:=zs) (ps:=ps) (cs:=cs) (ss:=ss) h.pn h.pc (by omega) (by omega) ps.length 0 (by omega);have lc:=VA (zs:=zs) (ps:=ps) (cs:=cs) (ss:=ss) h.cn h.cc (by omega) (by omega) cs.length 0 (by omega);have ls:=VG (zs:=zs) (ps:=ps) (cs:=cs) (ss:=ss) h.sn h.sc (by omega) (by omega) (by omega) (by omega) ss.length 0 (by omega);simp only[jaw,show Int.ofNat zs.length=(zs.length:Int) from rfl,show Int.ofNat ps.length=(ps.length:Int) from rfl,show Int.ofNat cs.length=(cs.length:Int) from rfl,show Int.ofNat ss.length=(ss.length:Int) from rfl];rw[aj (show¬(zs.length:Int)>16 by omega),aj (show¬(ps.length:Int)>32 by omega),aj (show¬(cs.length:Int)>8 by omega),aj (show¬(ss.length:Int)>12 by omega)];simp only[j6,jjA,show BV 0 zs ps cs ss []=_ from lz,j3,lT,ji,jhr,show BX 0 zs ps cs ss []=_ from lp,jcP,show B3 0 zs ps cs ss []=_ from lc,jcQ,show B7 0 zs ps cs ss []=_ from ls]
end
theorem NQ{z:bI}(h:kE z):j9a z=some 0:=by
 have h4:=h.zref.2.1;simp only[j9a];rw[show j4U (z.1,(z.2.1,z.2.2))=_ from h4.1];rfl
section
variable{zs:List bI}{ps:List c9}{cs:List aW}(hs:cW zs ps cs)
include hs
theorem VI:∀z∈zs,j9a z=some 0:=λz hz=>NQ (hs.so.ok z hz)
end
end Go.Proofs.Pw
