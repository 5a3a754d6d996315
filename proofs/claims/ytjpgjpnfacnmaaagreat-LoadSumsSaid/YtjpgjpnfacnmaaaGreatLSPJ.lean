/- The reference of JZ 8: fM that are right. -/
import Derived.Test.YtjpgjpnfacnmaaaGreatLSPG
import Derived.KernelRfl
open Go Go.Lft
namespace Go.Proofs.Pw
theorem jB7{x y:ByteArray}(h:x≠y):(x.toList==y.toList)=false:=by
 rw[ByteArray.toList_eq,ByteArray.toList_eq];exact z6.2 λhh=>h (ByteArray.ext (Array.toList_inj.mp (eq_of_beq hh)))
def RO(b:Int):Prop:=(97<=b/\b<=122)\/(48<=b/\b<=57)\/b=95\/b=45
theorem jC3{s:ByteArray}(hs:s.size<=24):∀(n i:Nat),i+n=s.size->((zM s (s.size:Int) (i:Int)).bind λq0=>sumC q0 (λa=>some a) (λ_=>some true))=some true->∀j:Nat,i<=j->j<s.size->RO (dn s j)
 |0,i,hi,_,j,h1,h2=>by omega
 |n+1,i,hi,h,j,h1,h2=>by
  rw[jle]at h;simp only[j6M,jc2,jil,j4]at h;rw[ag (by omega),bz,ai (x:=(i:Int)+1)]at h;simp only[j6]at h
  have key:RO (dn s i)/\((zM s (s.size:Int) ((i:Int)+1)).bind λq0=>sumC q0 (λa=>some a) (λ_=>some true))=some true:=by
   by_cases ha:97<=dn s i/\dn s i<=122
   .rw[ag (show dn s i>=97 from ha.1),ag ha.2]at h;simp only[j6,jl,j7,aK]at h;exact⟨.inl ha,h⟩
   .have e:cond (decide (dn s i>=97)) (decide (dn s i<=122)) false=false:=by
     by_cases hx:dn s i>=97
     .rw[ag hx,j6];exact ah (by omega)
     .rw[ah hx,j7]
    rw[e]at h;simp only[ka,j6]at h;by_cases hb:48<=dn s i/\dn s i<=57
    .rw[ag (show dn s i>=48 from hb.1),ag hb.2]at h;simp only[j6,jl,j7,aK]at h;exact⟨.inr (.inl hb),h⟩
    .have e2:cond (decide (dn s i>=48)) (decide (dn s i<=57)) false=false:=by
      by_cases hx:dn s i>=48
      .rw[ag hx,j6];exact ah (by omega)
      .rw[ah hx,j7]
     rw[e2]at h;simp only[ka,j6]at h;by_cases hc:dn s i=95
     .have e3:(dn s i != 95)=false:=by rw[hc];rfl
      rw[e3]at h;simp only[j7,aK]at h;exact⟨.inr (.inr (.inl hc)),h⟩
     .have e3:(dn s i != 95)=true:=by simpa using hc
      rw[e3]at h;simp only[j6]at h;by_cases hd:dn s i=45
      .have e4:(dn s i != 45)=false:=by rw[hd];rfl
       rw[e4]at h;simp only[j7,aK]at h;exact⟨.inr (.inr (.inr hd)),h⟩
      .have e4:(dn s i != 45)=true:=by simpa using hd
       rw[e4]at h;simp[aW,MP]at h
  by_cases hj:j=i
  .subst hj;exact key.1
  .exact jC3 hs n (i+1) (by omega) key.2 j (by omega) h2
theorem jC4{s:ByteArray}(hs:s.size<=24)(bH:∀j:Nat,j<s.size->RO (dn s j)):∀(n i:Nat),i+n=s.size->B0 s (i:Int)=some (.inr ())
 |0,i,hi=>by
  rw[Xr];simp only[j6d,show Int.ofNat s.size=(s.size:Int) from rfl];rw[ah (by omega),j7,aW]
 |n+1,i,hi=>by
  have ih:=jC4 hs bH n (i+1) (by omega);have ho:=bH i (by omega);rw[Xr];simp only[j6d,jmy,j4,show Int.ofNat s.size=(s.size:Int) from rfl];rw[ag (by omega),bz,ai (x:=(i:Int)+1)];simp only[j6,zj];have fin:lpK (some (.inl (s,(i:Int)+1)):Option ((ByteArray×Int) ⊕ (Bool ⊕ Unit))) (λh=>B0 h.1 h.2)=some (.inr ()):=by rw[aK];exact ih
  by_cases ha:97<=dn s i/\dn s i<=122
  .rw[ah (show¬dn s i<97 by omega),ah (show¬dn s i>122 by omega)];exact fin
  .have e:cond (decide (dn s i<97)) true (decide (dn s i>122))=true:=by
    by_cases hx:dn s i<97
    .rw[ag hx,j6]
    .rw[ah hx,j7];exact ag (by omega)
   rw[e];simp only[j6];by_cases hb:48<=dn s i/\dn s i<=57
   .rw[ag (show dn s i>=48 from hb.1),ag hb.2];exact fin
   .have e2:cond (decide (dn s i>=48)) (decide (dn s i<=57)) false=false:=by
     by_cases hx:dn s i>=48
     .rw[ag hx,j6];exact ah (by omega)
     .rw[ah hx,j7]
    rw[e2];rcases ho with ho|ho|ho|ho
    .exact absurd ho ha
    .exact absurd ho hb
    .rw[ho];exact fin
    .rw[ho];exact fin
theorem jF1{s:ByteArray}(h:j5l s=some true):jlJ s=some true:=by
 simp only[j5l,show Int.ofNat s.size=(s.size:Int) from rfl]at h;have hz:¬(cond (s.toList==ByteArray.empty.toList) true (decide ((s.size:Int)>24)))=true:=by intro hx;rw[hx]at h;simp at h
 have wE:cond (s.toList==ByteArray.empty.toList) true (decide ((s.size:Int)>24))=false:=z6.2 hz;rw[wE]at h;simp only[ka,jl,Bool.or_false,j7]at h
 have h0:inR 0 s.size=true:=by
  cases hc:inR 0 s.size with
  |true=>rfl
  |false=>rw[hc]at h;simp at h
 have iu:0<s.size:=by simp only[inR,jc,jo]at h0;omega
 have ig:s.size<=24:=by
  have:decide ((s.size:Int)>24)=false:=by
   revert wE
   cases (s.toList==ByteArray.empty.toList)<;>simp
  have:=of_decide_eq_false this;omega
 rw[h0]at h;simp only[j6,jc2,j4]at h
 have ha:97<=dn s 0/\dn s 0<=122:=by
  apply jp;intro hn
  have e:cond (decide (dn s 0>=97)) (decide (dn s 0<=122)) false=false:=by
   by_cases hx:dn s 0>=97
   .rw[ag hx,j6];exact ah (by omega)
   .rw[ah hx,j7]
  rw[e]at h;simp at h
 rw[ag (show dn s 0>=97 from ha.1),ag ha.2]at h;simp only[j6,jl,j7]at h;have bH:=jC3 ig s.size 0 (by omega) h;simp only[jlJ,show Int.ofNat s.size=(s.size:Int) from rfl];rw[h0,ah (show¬(s.size:Int)<1 by omega),ah (show¬(s.size:Int)>24 by omega),ah (show¬dn s 0<97 by omega),ah (show¬dn s 0>122 by omega)];simp only[j7,zj,j6];rw[show B0 s 0=_ from jC4 ig (λj hj=>bH j (by omega) hj) s.size 0 (by omega)];rfl
theorem ph{n lo hi:Int}(h1:lo<=n)(h2:n<=hi):j8c n lo hi=some true:=by
 simp only[j8c,ag (show n>=lo from h1),ag h2,j6]
theorem jF2{n lo hi:Int}(h:n<lo):j8c n lo hi=some false:=by
 simp only[j8c,ah (show¬n>=lo by omega),j7]
theorem RP:jbU=some 98980:=by kernel_rfl
theorem J0{d:Int}(h:j0A d=some true):d<=98980:=by
 apply jp;intro hd;simp only[j0A,j4B,JV,JU,j4]at h;rw[ah (show¬d<0 by omega),ag (show d>=98981 by omega)]at h;simp at h
theorem jC5{d:Int}(h:j0A d=some true):0<=d:=by
 apply jp;intro hd;simp only[j0A,j4B,JV,JU,j4]at h;rw[ag (show d<0 by omega)]at h;simp at h
theorem jze{ks:List ByteArray}(hn:ks.Nodup){i:Nat}(hi:i<ks.length){l:List ByteArray}(hl:l=ks.take (i+1))(hs:ks.length<=1000):∀(n k:Nat),k+n=i->E3 l (i:Int) (k:Int)=some (.inr ())
 |0,k,hk=>by
  rw[Xs];simp only[j6e];rw[ah (by omega),j7,aW]
 |n+1,k,hk=>by
  have eE:l.length=i+1:=by rw[hl,qn];omega
  have bK:k<ks.length:=by omega
  have g1:l.getD k ByteArray.empty=ks[k]:=by rw[hl,List.getD_eq_getElem?_getD,vc (by omega),jk bK];rfl
  have g2:l.getD i ByteArray.empty=ks[i]:=by rw[hl,List.getD_eq_getElem?_getD,vc (by omega),jk hi];rfl
  have bk:ks[k]≠ks[i]:=λe=>by
   have:=(List.getElem_inj (h₀:=bK) (h₁:=hi) hn).1 e;omega
  rw[Xs];simp only[j6e];rw[ag (by omega),cw (show (0:Int)<=(k:Int) by omega) (by omega),cw (show (0:Int)<=(i:Int) by omega) (by omega)];simp only[j6,j8,g1,g2,jB7 bk,j7];rw[ai (x:=(k:Int)+1),aK];exact jze hn hi hl hs n (k+1) (by omega)
theorem jF3{ks:List ByteArray}(h:fq ks){i:Nat}(hi:i<ks.length)(hs:ks.length<=1000):jbx (ks.take (i+1)) (i:Int)=some 0:=by
 have eE:(ks.take (i+1)).length=i+1:=by rw[qn];omega
 have g2:(ks.take (i+1)).getD i ByteArray.empty=ks[i]:=by rw[List.getD_eq_getElem?_getD,vc (by omega),jk hi];rfl
 simp only[jbx];rw[bz];simp only[j6,j8,g2,jF1 (h.2 _ (jf hi)),j4,jl,j7];rw[show E3 (ks.take (i+1)) (i:Int) 0=_ from jze h.1 hi rfl hs i 0 (by omega)];rfl
theorem Gu{α:Type}(f:α->ByteArray){xs:List α}(h:fq (xs.map f)){i:Nat}(hi:i<xs.length)(hs:xs.length<=1000) :
  (xs.take i).map f++[f xs[i]]=(xs.take (i+1)).map f/\jbx ((xs.take (i+1)).map f) (i:Int)=some 0:=by
 refine⟨?_,?_⟩
 .rw[kq,jk hi,za];rfl
 .have:=jF3 h (i:=i) (by simpa using hi) (by simpa using hs);rwa[<-List.map_take]at this
theorem jvv{nm:ByteArray}{o:Int}{rs:List aD}(h:∀r∈rs,Int.tmod r.2.2.2.2.2.2 60=0)(hl:rs.length<=1000):∀(n i:Nat),i+n=rs.length->E8 true (i:Int) nm o rs=some true
 |0,i,hi=>by
  rw[XB];simp only[j4h,show Int.ofNat rs.length=(rs.length:Int) from rfl];rw[ah (by omega),j7,aW]
 |n+1,i,hi=>by
  have bj:i<rs.length:=by omega
  have aR:rs.getD i ((0:Int),((0:Int),((0:Int),((0:Int),((0:Int),((0:Int),(0:Int)))))))=rs[i]:=by simp[List.getD,bj]
  rw[XB];simp only[j4h,show Int.ofNat rs.length=(rs.length:Int) from rfl];rw[ag (by omega),bz];simp only[j6,zj,j8,aR,h _ (jf bj),qd];rw[ai (x:=(i:Int)+1),aK];exact jvv h hl n (i+1) (by omega)
theorem jFS{z:br}(h:xj z):jcd z=some true:=by
 simp only[jcd,h.o60,qd];rw[show E8 true 0 z.1 z.2.1 z.2.2=_ from jvv h.r60 h.len z.2.2.length 0 (by omega)];rfl
section
variable{zs:List br}{ps:List cZ}{cs:List aX}{ss:List cF}
theorem jC6(hn:fq (zs.map (·.1)))(hc:∀z∈zs,xj z)(hr:∀z∈zs,j7b z=some 0)(hl:zs.length<=100):∀(n i:Nat),i+n=zs.length->E9 (i:Int) zs ps cs ss ((zs.take i).map (·.1))=some (.inr ())
 |0,i,hi=>by
  rw[XC];simp only[j5y,show Int.ofNat zs.length=(zs.length:Int) from rfl];rw[ah (by omega),j7,aW]
 |n+1,i,hi=>by
  have bj:i<zs.length:=by omega
  have aR:zs.getD i (ByteArray.empty,((0:Int),([]:List aD)))=zs[i]:=by simp[List.getD,bj]
  obtain⟨n1,n2⟩:=Gu (·.1) hn bj (by omega);have fP:=hc _ (jf bj);rw[XC];simp only[j5y,show Int.ofNat zs.length=(zs.length:Int) from rfl];rw[ag (by omega),bz];simp only[j6,j8,aR];rw[ag (show ((zs.take i).map (·.1)).length+[zs[i].1].length<=aN by simp[aN];omega),j6,n1,n2];simp only[j4,jh,j7,show j7b (zs[i].1,(zs[i].2.1,zs[i].2.2))=_ from hr _ (jf bj),zj,j6,show jcd (zs[i].1,(zs[i].2.1,zs[i].2.2))=_ from jFS fP,jl];rw[ai (x:=(i:Int)+1),aK];exact jC6 hn hc hr hl n (i+1) (by omega)
theorem jzf{w:WL}(h:ei 0 w)(hl:w.length<=14):∀(n i:Nat),i+n=w.length->Fa w (i:Int)=some (.inr ())
 |0,i,hi=>by
  rw[XE];simp only[j5z,show Int.ofNat w.length=(w.length:Int) from rfl];rw[ah (by omega),j7,aW]
 |n+1,i,hi=>by
  have bj:i<w.length:=by omega
  have hg:=xi h i bj;have ih:=jzf h hl n (i+1) (by omega);rw[XE];simp only[j5z,show Int.ofNat w.length=(w.length:Int) from rfl];rw[ag (by omega),bz];simp only[j6,j8];rw[ah (show¬(w.getD i (0,0)).1<0 by omega),ah (show¬(w.getD i (0,0)).1>=(w.getD i (0,0)).2 by omega),ah (show¬(w.getD i (0,0)).2>604800 by omega),ai (x:=(i:Int)+1)];simp only[j7];by_cases h0:(i:Int)>0
  .obtain⟨k,rfl⟩:∃k,i=k+1:=⟨i-1,by omega⟩;have F5:=QV h k (by omega);rw[ag h0,j6,ai (x:=((k+1:Nat):Int)-1),show ((k+1:Nat):Int)-1=(k:Int) by omega,cw (show (0:Int)<=(k:Int) by omega) (by omega)];simp only[j6,j8];rw[ah (show¬(w.getD (k+1) (0,0)).1<(w.getD k (0,0)).2 by omega),j7,aK];exact ih
  .rw[ah h0,j7,aK];exact ih
theorem vI{w:WL}(h:ei 0 w)(hl:w.length<=14):jaA w=some 0:=by
 simp only[jaA,show Int.ofNat w.length=(w.length:Int) from rfl];rw[ah (by omega),j7,show Fa w 0=_ from jzf h hl w.length 0 (by omega)];rfl
theorem jF4{n:Int}(h:j4A n=some true):jjw n=some true:=h
theorem jC7(hn:fq (ps.map (·.1)))(hc:∀p∈ps,F8 zs.length p)(hl:ps.length<=100)(kL:zs.length<=100):∀(n i:Nat),i+n=ps.length->Fb (i:Int) zs ps cs ss ((ps.take i).map (·.1))=some (.inr ())
 |0,i,hi=>by
  rw[XF];simp only[j4N,show Int.ofNat ps.length=(ps.length:Int) from rfl];rw[ah (by omega),j7,aW]
 |n+1,i,hi=>by
  have bj:i<ps.length:=by omega
  have aR:ps.getD i (ByteArray.empty,((0:Int),(([]:WL),((0:Int),((0:Int),false)))))=ps[i]:=by simp[List.getD,bj]
  obtain⟨n1,n2⟩:=Gu (·.1) hn bj (by omega);have fP:=hc _ (jf bj);have h0:=fP.z0;have h1:=fP.z1;rw[XF];simp only[j4N,show Int.ofNat ps.length=(ps.length:Int) from rfl,show Int.ofNat zs.length=(zs.length:Int) from rfl];rw[ag (by omega),bz];simp only[j6,j8,aR];rw[ag (show ((ps.take i).map (·.1)).length+[ps[i].1].length<=aN by simp[aN];omega),j6,n1,n2,fP.nb,ai (x:=(zs.length:Int)-1),ph h0 (by omega)];simp only[j4,jh,j7,jl,vI fP.w fP.wl,jF4 fP.m,jF4 fP.r];rw[ai (x:=(i:Int)+1),aK];exact jC7 hn hc hl kL n (i+1) (by omega)
theorem jzg{ds:List Int}(h:∀d∈ds,j0A d=some true)(hl:ds.length<=64){m z:Int}{nm:ByteArray}{l3:List ByteArray}:∀(n i:Nat),i+n=ds.length->Fc m (i:Int) zs ps cs ss nm z ds l3=some (.inr (m,zs,ps,cs,ss,nm,z,ds,l3))
 |0,i,hi=>by
  rw[XG];simp only[j38,show Int.ofNat ds.length=(ds.length:Int) from rfl];rw[ah (by omega),j7,aW]
 |n+1,i,hi=>by
  have bj:i<ds.length:=by omega
  have aR:ds.getD i (0:Int)=ds[i]:=by simp[bj]
  have hd:=h _ (jf bj);rw[XG];simp only[j38,show Int.ofNat ds.length=(ds.length:Int) from rfl];rw[ag (by omega),bz];simp only[j6,j8,aR,RP,j4,ph (jC5 hd) (J0 hd),jl,j7];rw[ai (x:=(i:Int)+1),aK];exact jzg h hl n (i+1) (by omega)
theorem jzh{ds:List Int}(h:ds.Pairwise (· < ·))(hl:ds.length<=64){m z:Int}{nm:ByteArray}{l3:List ByteArray}:∀(n i:Nat),ds.length<=i+n->1<=i->Fe m (i:Int) zs ps cs ss nm z ds l3=some (.inr (m,zs,ps,cs,ss,l3))
 |n,i,hi,h1=>by
  rw[jis];simp only[j4O,show Int.ofNat ds.length=(ds.length:Int) from rfl];by_cases bj:i<ds.length
  .obtain⟨n,rfl⟩:∃m,n=m+1:=⟨n-1,by omega⟩;obtain⟨k,rfl⟩:∃k,i=k+1:=⟨i-1,by omega⟩;have aR:ds.getD (k+1) (0:Int)=ds[k+1]:=by simp[bj]
   have Bi:ds.getD k (0:Int)=ds[k]:=by simp[show k<ds.length by omega]
   have ak:=ko.1 h k (k+1) (by omega) bj (by omega);rw[ag (by omega),bz,ai (x:=((k+1:Nat):Int)-1),show ((k+1:Nat):Int)-1=(k:Int) by omega,cw (show (0:Int)<=(k:Int) by omega) (by omega)];simp only[j6,j8,aR,Bi];rw[ah (show¬ds[k+1]<=ds[k] by omega),j7,ai (x:=((k+1:Nat):Int)+1),aK];exact jzh h hl n (k+1+1) (by omega) (by omega)
  .rw[ah (by omega),j7,aW]
 termination_by n=>n
theorem jC8(hn:fq (cs.map (·.1)))(hc:∀x∈cs,pT zs.length x)(hl:cs.length<=100)(kL:zs.length<=100):∀(n i:Nat),i+n=cs.length->Ff (i:Int) zs ps cs ss ((cs.take i).map (·.1))=some (.inr ())
 |0,i,hi=>by
  rw[XH];simp only[j39,show Int.ofNat cs.length=(cs.length:Int) from rfl];rw[ah (by omega),j7,aW]
 |n+1,i,hi=>by
  have bj:i<cs.length:=by omega
  have aR:cs.getD i (ByteArray.empty,((0:Int),([]:List Int)))=cs[i]:=by simp[List.getD,bj]
  obtain⟨n1,n2⟩:=Gu (·.1) hn bj (by omega);have fP:=hc _ (jf bj);have h0:=fP.z0;have h1:=fP.z1;have h2:=fP.len;have l2:=jzg (zs:=zs) (ps:=ps) (cs:=cs) (ss:=ss) fP.day h2 (m:=(i:Int)) (z:=cs[i].2.1) (nm:=cs[i].1) (l3:=(cs.take (i+1)).map (·.1)) cs[i].2.2.length 0 (by omega);have l4:=jzh (zs:=zs) (ps:=ps) (cs:=cs) (ss:=ss) fP.asc h2 (m:=(i:Int)) (z:=cs[i].2.1) (nm:=cs[i].1) (l3:=(cs.take (i+1)).map (·.1)) cs[i].2.2.length 1 (by omega) (by omega);rw[XH];simp only[j39,show Int.ofNat cs.length=(cs.length:Int) from rfl,show Int.ofNat zs.length=(zs.length:Int) from rfl];rw[ag (by omega),bz];simp only[j6,j8,aR];rw[ag (show ((cs.take i).map (·.1)).length+[cs[i].1].length<=aN by simp[aN];omega),j6,n1,n2,ai (x:=(zs.length:Int)-1),ph h0 (by omega)];simp only[j4,jh,j7,jl,show Int.ofNat cs[i].2.2.length=(cs[i].2.2.length:Int) from rfl];rw[ah (by omega),j7,show Fc (i:Int) 0 zs ps cs ss cs[i].1 cs[i].2.1 cs[i].2.2 ((cs.take (i+1)).map (·.1))=_ from l2];simp only[j4,nw];rw[show Fe (i:Int) 1 zs ps cs ss cs[i].1 cs[i].2.1 cs[i].2.2 ((cs.take (i+1)).map (·.1))=_ from l4];simp only[j4,nw];rw[ai (x:=(i:Int)+1),aK];exact jC8 hn hc hl kL n (i+1) (by omega)
theorem jC9{L:bI}(h:∀m∈L.2.2.2.2.2.1,0<=m/\m<(ps.length:Int))(hl:L.2.2.2.2.2.1.length<=12)(hp:ps.length<=100):∀(n i:Nat),i+n=L.2.2.2.2.2.1.length->
  Fg (i:Int) zs ps cs ss L.1 L.2.1 L.2.2.1.1 L.2.2.1.2 L.2.2.2.1 L.2.2.2.2.1 L.2.2.2.2.2.1 L.2.2.2.2.2.2.1 L.2.2.2.2.2.2.2.1 L.2.2.2.2.2.2.2.2=some (.inr (zs,ps,cs,ss,L.1,L.2.1,L.2.2.1.1,L.2.2.1.2,L.2.2.2.1,L.2.2.2.2.1,L.2.2.2.2.2.1,L.2.2.2.2.2.2.1,L.2.2.2.2.2.2.2.1,L.2.2.2.2.2.2.2.2))
 |0,i,hi=>by
  rw[XI];simp only[j5A,show Int.ofNat L.2.2.2.2.2.1.length=(L.2.2.2.2.2.1.length:Int) from rfl];rw[ah (by omega),j7,aW]
 |n+1,i,hi=>by
  have bj:i<L.2.2.2.2.2.1.length:=by omega
  have aR:L.2.2.2.2.2.1.getD i (0:Int)=L.2.2.2.2.2.1[i]:=by simp[bj]
  have hd:=h _ (jf bj);rw[XI];simp only[j5A,show Int.ofNat L.2.2.2.2.2.1.length=(L.2.2.2.2.2.1.length:Int) from rfl,show Int.ofNat ps.length=(ps.length:Int) from rfl];rw[ag (by omega),bz,ai (x:=(ps.length:Int)-1)];simp only[j6,j8,aR,ph hd.1 (show L.2.2.2.2.2.1[i]<=(ps.length:Int)-1 by omega),j4,jl,j7];rw[ai (x:=(i:Int)+1),aK];exact jC9 h hl hp n (i+1) (by omega)
theorem jDw{L:bI}(h:eD zs.length ps.length cs.length L)(hz:zs.length<=100)(hp:ps.length<=100)(hc:cs.length<=100):jgG (zs,(ps,(cs,ss))) L=some 0:=by
 have h0:=h.z0;have h1:=h.z1;have oy:=h.m0;have fD:=h.m1;have eG:=h.c1;have iD:=h.wl;have lp:=jC9 (zs:=zs) (ps:=ps) (cs:=cs) (ss:=ss) h.mem fD hp L.2.2.2.2.2.1.length 0 (by omega);simp only[jgG,show Int.ofNat zs.length=(zs.length:Int) from rfl,show Int.ofNat L.2.2.2.2.2.1.length=(L.2.2.2.2.2.1.length:Int) from rfl];rw[ai (x:=(zs.length:Int)-1),ph h0 (by omega),RP];simp only[j4,jl,j7,ph h.d0 (J0 h.day),ph h.c0 eG,ph h.u0 h.u1,ph h.e0 h.e1];rw[bW (show¬(L.2.2.2.2.2.1.length:Int)=0 by omega),ah (show¬(L.2.2.2.2.2.1.length:Int)>12 by omega)];simp only[j7];rw[show Fg 0 zs ps cs ss L.1 L.2.1 L.2.2.1.1 L.2.2.1.2 L.2.2.2.1 L.2.2.2.2.1 L.2.2.2.2.2.1 L.2.2.2.2.2.2.1 L.2.2.2.2.2.2.2.1 L.2.2.2.2.2.2.2.2=_ from lp];simp only[j4,nw,vI h.w iD,jh,j7,ph h.mode0 h.mode1,jl,show Int.ofNat cs.length=(cs.length:Int) from rfl];rw[ai (x:=(cs.length:Int)-1)];by_cases hm:L.2.2.2.2.2.2.2.2=0
 .have e:(L.2.2.2.2.2.2.2.2 != 0)=false:=by rw[hm];rfl
  have e2:(L.2.2.2.2.2.2.2.1 != 0)=false:=by rw[h.cal0 hm];rfl
  rw[e,e2,di hm];rfl
 .have e:(L.2.2.2.2.2.2.2.2 != 0)=true:=by simpa using hm
  have cD:=h.cal hm;rw[e,bW hm,ph cD.1 (by omega)];rfl
theorem jF5{x:dA}(h:mT ps.length x)(hp:ps.length<=100):jjx (zs,(ps,(cs,ss))) x=some 0:=by
 have mE:=h.f0;have jB:=h.ft;have QY:=h.t1;have hd:=J0 h.day;have htd:Int.tdiv x.2.2.2.2 86400=x.2.2.2.2/86400:=sG (by omega)
 have gM:∃b,j8c x.2.1 0 ((ps.length:Int)-1)=some b/\cond (!b) (cond (x.1 != 1) true (x.2.1 != -1)) false=false:=by
  rcases h.a with⟨a1,a2⟩|⟨a1,a2⟩
  .exact⟨true,ph a1 (by omega),rfl⟩
  .exact⟨false,jF2 (by omega),by rw[a1,a2];rfl⟩
 obtain⟨b,eb,hb⟩:=gM;simp only[jjx,show Int.ofNat ps.length=(ps.length:Int) from rfl];rw[ai (x:=(ps.length:Int)-1),ph h.k0 h.k1,eb];simp only[j4,jl,j7,hb];rw[ah (show¬x.2.2.2.1<0 by omega),ah (show¬x.2.2.2.2<0 by omega),im (x:=Int.tdiv x.2.2.2.2 86400) (by rw[htd];omega) (by rw[htd];omega),RP];simp only[j7,j4];rw[ah (show¬Int.tdiv x.2.2.2.2 86400>98980 by omega),ah (show¬x.2.2.2.1>=x.2.2.2.2 by omega)];simp only[j7];by_cases hk:x.1=2
 .obtain⟨b1,b2,b3⟩:=h.b hk;have e2:(x.1 != 2)=false:=by rw[hk];rfl
  rw[di hk,j6,ph b1 (by omega),e2,bW b3];rfl
 .have e2:(x.1 != 2)=true:=by simpa using hk
  rw[bW hk,e2,h.b0 hk];rfl
theorem jzi{ls:List bI}(hn:fq (ls.map (·.1)))(hc:∀x∈ls,eD zs.length ps.length cs.length x)(hl:ls.length<=100)(hz:zs.length<=100)(hp:ps.length<=100)(eM:cs.length<=100){m:Int}{nm:ByteArray}{es:List dA}{l3:List ByteArray}:∀(n i:Nat),i+n=ls.length->
  Fh m (i:Int) zs ps cs ss nm ls es l3 ((ls.take i).map (·.1))=some (.inr (m,zs,ps,cs,ss,nm,ls,es,l3))
 |0,i,hi=>by
  rw[XJ];simp only[j3a,show Int.ofNat ls.length=(ls.length:Int) from rfl];rw[ah (by omega),j7,aW]
 |n+1,i,hi=>by
  have bj:i<ls.length:=by omega
  have aR:ls.getD i (ByteArray.empty,((0:Int),(((0:Int),(0:Int)),((0:Int),((0:Int),(([]:List Int),(([]:WL),((0:Int),(0:Int)))))))))=ls[i]:=by simp[List.getD,bj]
  obtain⟨n1,n2⟩:=Gu (·.1) hn bj (by omega);have fP:=hc _ (jf bj);rw[XJ];simp only[j3a,show Int.ofNat ls.length=(ls.length:Int) from rfl];rw[ag (by omega),bz];simp only[j6,j8,aR];rw[ag (show ((ls.take i).map (·.1)).length+[ls[i].1].length<=aN by simp[aN];omega),j6,n1,n2];simp only[j4,jh,j7];rw[show jgG (zs,ps,cs,ss) (ls[i].1,ls[i].2.1,(ls[i].2.2.1.1,ls[i].2.2.1.2),ls[i].2.2.2.1,ls[i].2.2.2.2.1,ls[i].2.2.2.2.2.1,ls[i].2.2.2.2.2.2.1,ls[i].2.2.2.2.2.2.2.1,ls[i].2.2.2.2.2.2.2.2)=_ from jDw fP hz hp eM];simp only[j4,jh,j7];rw[ai (x:=(i:Int)+1),aK];exact jzi hn hc hl hz hp eM n (i+1) (by omega)
theorem jzj{es:List dA}(hc:∀x∈es,mT ps.length x)(hl:es.length<=48)(hp:ps.length<=100){m:Int}{nm:ByteArray}{ls:List bI}{l3:List ByteArray}:∀(n i:Nat),i+n=es.length->
  Fi m (i:Int) zs ps cs ss nm ls es l3=some (.inr (m,zs,ps,cs,ss,l3))
 |0,i,hi=>by
  rw[XK];simp only[j3b,show Int.ofNat es.length=(es.length:Int) from rfl];rw[ah (by omega),j7,aW]
 |n+1,i,hi=>by
  have bj:i<es.length:=by omega
  have aR:es.getD i ((0:Int),((0:Int),((0:Int),((0:Int),(0:Int)))))=es[i]:=by simp[List.getD,bj]
  have fP:=hc _ (jf bj);rw[XK];simp only[j3b,show Int.ofNat es.length=(es.length:Int) from rfl];rw[ag (by omega),bz];simp only[j6,j8,aR];rw[show jjx (zs,ps,cs,ss) (es[i].1,es[i].2.1,es[i].2.2.1,es[i].2.2.2.1,es[i].2.2.2.2)=_ from jF5 fP hp];simp only[j4,jh,j7];rw[ai (x:=(i:Int)+1),aK];exact jzj hc hl hp n (i+1) (by omega)
theorem jCa(hn:fq (ss.map (·.1)))(hc:∀x∈ss,pV zs.length ps.length cs.length x)(hl:ss.length<=100)(hz:zs.length<=100)(hp:ps.length<=100)(eM:cs.length<=100):∀(n i:Nat),i+n=ss.length->
  Fj (i:Int) zs ps cs ss ((ss.take i).map (·.1))=some (.inr ())
 |0,i,hi=>by
  rw[XL];simp only[j3c,show Int.ofNat ss.length=(ss.length:Int) from rfl];rw[ah (by omega),j7,aW]
 |n+1,i,hi=>by
  have bj:i<ss.length:=by omega
  have aR:ss.getD i (ByteArray.empty,(([]:List bI),([]:List dA)))=ss[i]:=by simp[List.getD,bj]
  obtain⟨n1,n2⟩:=Gu (·.1) hn bj (by omega);have fP:=hc _ (jf bj);have h1:=fP.ll;have h2:=fP.el;have l2:=jzi (ss:=ss) fP.nm fP.ly (by omega) hz hp eM (m:=(i:Int)) (nm:=ss[i].1) (es:=ss[i].2.2) (l3:=(ss.take (i+1)).map (·.1)) ss[i].2.1.length 0 (by omega);have l4:=jzj (zs:=zs) (cs:=cs) (ss:=ss) fP.ed h2 hp (m:=(i:Int)) (nm:=ss[i].1) (ls:=ss[i].2.1) (l3:=(ss.take (i+1)).map (·.1)) ss[i].2.2.length 0 (by omega);rw[XL];simp only[j3c,show Int.ofNat ss.length=(ss.length:Int) from rfl];rw[ag (by omega),bz];simp only[j6,j8,aR];rw[ag (show ((ss.take i).map (·.1)).length+[ss[i].1].length<=aN by simp[aN];omega),j6,n1,n2];simp only[j4,jh,j7,show Int.ofNat ss[i].2.1.length=(ss[i].2.1.length:Int) from rfl,show Int.ofNat ss[i].2.2.length=(ss[i].2.2.length:Int) from rfl];rw[ah (show¬(ss[i].2.1.length:Int)>6 by omega),ah (show¬(ss[i].2.2.length:Int)>48 by omega)];simp only[j7];rw[show Fh (i:Int) 0 zs ps cs ss ss[i].1 ss[i].2.1 ss[i].2.2 ((ss.take (i+1)).map (·.1)) []=_ from l2];simp only[j4,nw];rw[show Fi (i:Int) 0 zs ps cs ss ss[i].1 ss[i].2.1 ss[i].2.2 ((ss.take (i+1)).map (·.1))=_ from l4];simp only[j4,nw];rw[ai (x:=(i:Int)+1),aK];exact jCa hn hc hl hz hp eM n (i+1) (by omega)
theorem jFT(h:ny (zs,(ps,(cs,ss))))(hr:∀z∈zs,j7b z=some 0):jgH (zs,(ps,(cs,ss)))=some 0:=by
 have kL:zs.length<=16:=h.zl;have kU:ps.length<=32:=h.pl;have eM:cs.length<=8:=h.cl;have dV:ss.length<=12:=h.sl;have lz:=jC6 (zs:=zs) (ps:=ps) (cs:=cs) (ss:=ss) h.zn h.zc hr (by omega) zs.length 0 (by omega);have lp:=jC7 (zs:=zs) (ps:=ps) (cs:=cs) (ss:=ss) h.pn h.pc (by omega) (by omega) ps.length 0 (by omega);have lc:=jC8 (zs:=zs) (ps:=ps) (cs:=cs) (ss:=ss) h.cn h.cc (by omega) (by omega) cs.length 0 (by omega);have ls:=jCa (zs:=zs) (ps:=ps) (cs:=cs) (ss:=ss) h.sn h.sc (by omega) (by omega) (by omega) (by omega) ss.length 0 (by omega);simp only[jgH,show Int.ofNat zs.length=(zs.length:Int) from rfl,show Int.ofNat ps.length=(ps.length:Int) from rfl,show Int.ofNat cs.length=(cs.length:Int) from rfl,show Int.ofNat ss.length=(ss.length:Int) from rfl];rw[ah (show¬(zs.length:Int)>16 by omega),ah (show¬(ps.length:Int)>32 by omega),ah (show¬(cs.length:Int)>8 by omega),ah (show¬(ss.length:Int)>12 by omega)];simp only[j7,jmz,show E9 0 zs ps cs ss []=_ from lz,j4,nw,jh,jks,show Fb 0 zs ps cs ss []=_ from lp,jf5,show Ff 0 zs ps cs ss []=_ from lc,jf6,show Fj 0 zs ps cs ss []=_ from ls]
end
theorem RQ{z:br}(h:gg z):j7b z=some 0:=by
 have h4:=h.zref.2.1;simp only[j7b];rw[show j0h (z.1,(z.2.1,z.2.2))=_ from h4.1];rfl
end Go.Proofs.Pw
