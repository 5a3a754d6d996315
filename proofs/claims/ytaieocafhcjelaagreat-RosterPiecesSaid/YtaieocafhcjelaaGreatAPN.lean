/- stack.SegmentsOf: its jwP form. -/
import Derived.Test.YtaieocafhcjelaaGreatAPM
import Derived.Test.YtaieocafhcjelaaGreatAPI
import Derived.Test.YtaieocafhcjelaaGreatAPC
import Derived.Test.YtaieocafhcjelaaGreatAPA
import Derived.Test.YtaieocafhcjelaaGreatALD
open Go Go.Lft
namespace Go.Proofs.Pw
def Gi (gd:Nat→Bool) (len:Nat):Nat→Option Nat
 | 0=>none
 | m+1=>match Gi gd len m with
  | some i=>some i
  | none=>cond (gd (len-m-1)) (some (len-m-1)) none
theorem jyi (gd:Nat→Bool) (len:Nat):∀ m,m≤len→topI gd len=match Gi gd len m with
  | some i=>some i
  | none=>topI gd (len-m)
 | 0,_=>rfl
 | m+1,h=>by
  rw [jyi gd len m (by omega)]
  simp only [Gi]
  cases Gi gd len m with
  | some i=>rfl
  | none=>
   dsimp only
   rw [show len-m=(len-m-1)+1 by omega,topI,show len-(m+1)=len-m-1 by omega,show len-m-1+1-1=len-m-1 by omega]
   cases gd (len-m-1)<;>rfl
def Wv (gd:Nat→Bool) (pf:Nat→Int) (len m:Nat):Option Int:=(Gi gd len m).map pf
theorem jtW (gd:Nat→Bool) (pf:Nat→Int) (len m:Nat):Wv gd pf len (m+1)=match Wv gd pf len m with
  | some p=>some p
  | none=>cond (gd (len-m-1)) (some (pf (len-m-1))) none:=by
 simp only [Wv,Gi]
 cases Gi gd len m with
 | some i=>rfl
 | none=>cases gd (len-m-1)<;>rfl
theorem jAo (es:List j43) (t:Int) (pf:Nat→Int) (len:Nat):topP es t pf len=(Wv (j6X es t pf) pf len len).getD (-1):=by
 simp only [topP,Wv,jyi (j6X es t pf) len len (jo _)]
 cases Gi (j6X es t pf) len len with
 | some i=>rfl
 | none=>simp only [Nat.sub_self,topI];rfl
theorem jBs:Go.Sort.SWO (Go.Proofs.ltOf fun (x y:Go.Lft.Sml (.pair (.int .i64) (.pair (.int .i64) (.int .i64))))=>(j3y x.1 y.1).getD 0):=by
 refine jpE (fun x=>x.1.1) (fun x=> ?_) _ fun x y=>rfl
 have:=x.2
 simp only [j6v,ja,jl] at this
 exact this.1
theorem jvW {l:SgL} (hl:l.length≤1000000000) (hb:∀ x∈l, -1000000000000≤x.1∧x.1≤1000000000000 ∧ -1000000000000≤x.2.1∧x.2.1≤1000000000000 ∧ -1000000000000≤x.2.2∧x.2.2≤1000000000000) :
  ∃ L,j0K l=some L∧L.Perm l∧L.Pairwise (fun x y=>x.1≤y.1):=by
 obtain ⟨L,e,hp,hs⟩:=juC (a:= .pair (.int .i64) (.pair (.int .i64) (.int .i64))) (cf:=fun x y=>(j3y x y).getD 0) jBs (xs:=l) (fun x hx=>by
  have:=hb x hx
  simp only [j6v,ja,jl]
  refine ⟨⟨?_,?_⟩,⟨?_,?_⟩,⟨?_,?_⟩⟩
  ·exact qu (by decide) this.1
  ·exact qu this.2.1 (by decide)
  ·exact qu (by decide) this.2.2.1
  ·exact qu this.2.2.2.1 (by decide)
  ·exact qu (by decide) this.2.2.2.2.1
  ·exact qu this.2.2.2.2.2 (by decide)) (by show List.length l<_;omega)
 refine ⟨L,e,hp,?_⟩
 refine List.Pairwise.imp_of_mem (fun {x y} hx hy h=> ?_) hs
 have h1:=hb x (hp.mem_iff.1 hx)
 have h2:=hb y (hp.mem_iff.1 hy)
 have h':¬ w64 (y.1-x.1)<0:=h
 rw [j02 (x:=y.1-x.1) (by omega) (by omega)] at h'
 omega
theorem jCU {F:SL} (hF:F.length≤10000000):∀ (n i:Nat) (acc:SgL),i+n=F.length→acc.length+n≤1000000000→j2R (F.length:Int) (i:Int) F acc=some (acc++(F.drop i).map fun u=>(u.1,(u.2, -1)))
 | 0,i,acc,hi,_=>by
  rw [j9U]
  simp only [j2Y]
  rw [j00 (by omega),j6,j08,jc (by omega)]
  simp
 | n+1,i,acc,hi,ha=>by
  have hi':i<F.length:=by omega
  have hgd:F.getD i ((0:Int),(0:Int))=F[i]:=by simp [List.getD,hi']
  rw [j9U]
  simp only [j2Y]
  rw [j01 (by omega),j0s (by omega) (by omega),j02 (x:=(i:Int)+1) (by omega) (by omega)]
  simp only [j5,j7,hgd]
  rw [j01 (by simp [j07];omega),j5,j05,jb hi',kj]
  have:=jCU hF n (i+1) (acc++[(F[i].1,(F[i].2, -1))]) (by omega) (by simp;omega)
  rw [jk] at this
  exact this
def apart (x y:SgT):Prop:=x.2.1≤y.1∨y.2.1≤x.1
section
variable {zs:List j1R} {ps:List j1q} {cs:List CalT} (hs:SOk2 zs ps cs)
 {nm:ByteArray} {ls:List j0w} {es:List j43} (hL:∀ L∈ls,LCk zs.length ps.length cs.length L) (hll:ls.length≤4) (hE:∀ x∈es,ECk ps.length x) (hel:es.length≤9)
 {ss:List j1y} {a b:Int} (ha:0≤a) (hab:a≤b) (hb:b≤8589934592) (hlen:b-a≤35078400)
include hs hL hll hE hel ha hab hb hlen
structure jyj (zs:List j1R) (cs:List CalT) (ls:List j0w) (es:List j43) (a b:Int) (m:Nat) (F:SL) (O:SgL):Prop where
 st:StS (a-1) F
 fb:∀ t,inS t F→t<b
 fr:∀ t,a≤t→t<b→(inS t F↔Wv (j6X es t (pfX zs cs ls t)) (pfX zs cs ls t) ls.length m=none)
 seg:∀ x∈O,a≤x.1∧x.1<x.2.1∧x.2.1≤b∧∀ t,x.1≤t→t<x.2.1→Wv (j6X es t (pfX zs cs ls t)) (pfX zs cs ls t) ls.length m=some x.2.2
 ap:O.Pairwise apart
 cov:∀ t,a≤t→t<b→Wv (j6X es t (pfX zs cs ls t)) (pfX zs cs ls t) ls.length m≠none→inG t O
 fl:F.length+300000≤2^m*300001
 ol:O.length≤m*4000000
theorem jBt {k m:Nat} (hk:k+m+1=ls.length) {F:SL} {O:SgL} (hI:jyj zs cs ls es a b m F O) :
  ∃ S Q W F',j1l ((zs,(ps,(cs,ss))),zs.map tb) (ls.getD k (ByteArray.empty,((0:Int),(((0:Int),(0:Int)),((0:Int),((0:Int),(([]:List Int),(([]:List (Int×Int)),((0:Int),(0:Int)))))))))) a b=some S∧
   j5f (nm,(ls,es)) S=some Q∧j7n Q F=some W∧O.length+W.length≤j07∧(∃ P,j7o W=some P∧j2k F P=some F')∧jyj zs cs ls es a b (m+1) F' (O++W):=by
 have hk':k<ls.length:=by omega
 have hLk:=hL _ (jg hk')
 have hgd:ls.getD k (ByteArray.empty,((0:Int),(((0:Int),(0:Int)),((0:Int),((0:Int),(([]:List Int),(([]:List (Int×Int)),((0:Int),(0:Int)))))))))=ls[k]:=by simp [List.getD,hk']
 have hpf:∀ t,pfX zs cs ls t k=perX zs cs ls[k] t:=fun t=>by simp only [pfX,hgd]
 obtain ⟨S,e1,c1,l1⟩:=juV hs hLk (ss:=ss) ha hab hb hlen
 have hpos:=c1.pos
 have e2:=jvV (nm:=nm) (ls:=ls) hE (by omega) (S:=S) (by omega) hpos
 obtain ⟨p1,p2,p3⟩:=jyf (nm:=nm) (ls:=ls) hE (by omega) c1.ch hpos
 have pl:=juX (nm:=nm) (ls:=ls) hE (by omega) (S:=S) hpos
 have pl2:S.length*(1+es.length)≤30000*10:=zj l1 (by omega)
 generalize S.flatMap (prs (nm,(ls,es)))=Q at *
 have hm4:m≤3:=by omega
 have hpow:2^m≤2^3:=Nat.pow_le_pow_right (by omega) hm4
 have hfl:=hI.fl
 have hol:=hI.ol
 have hF:F.length≤10000000:=by omega
 have lp:=jyh (A:=Q) (B:=F) (by omega) hF (Q.length+F.length) 0 0 [] (by omega) (by omega) (by omega) (by simp;omega)
 rw [jt,jy,jy] at lp
 obtain ⟨w1,_,w3,w4,w5⟩:=jyg (Q.length+F.length) Q F a (a-1) (jo _) p1 hI.st
 generalize wiF (Q.length+F.length) Q F=W at *
 have hWin:∀ x∈W,a≤x.1∧x.1<x.2.1∧x.2.1≤b∧∀ t,x.1≤t→t<x.2.1→inS t F∧perX zs cs ls[k] t=x.2.2∧0≤x.2.2∧j9O es x.2.2 t=false:=fun x hx=>by
  have hne:∀ (l:SgL) (q:Int),OrS q l→∀ y∈l,y.1<y.2.1:=by
   intro l
   induction l with
   | nil=>intro q _ y hy;simp at hy
   | cons s r ih=>intro q h y hy;rcases jf.1 hy with rfl | hy;exact h.2.1;exact ih _ h.2.2 y hy
  have h0:=hne W a w1 x hx
  have h1:=(w1.apart).2 x hx
  obtain ⟨s,hs',r1,r2,r3,r4⟩:=w3 x hx
  obtain ⟨g1,g2⟩:=p2 s hs'
  refine ⟨h1,h0,by omega,fun t t1 t2=> ?_⟩
  obtain ⟨g3,g4,g5⟩:=g2 t (by omega) (by omega)
  rw [r3]
  exact ⟨r4 t t1 t2,g3,g4,g5⟩
 have hw0:∀ x∈W,∀ t,x.1≤t→t<x.2.1→Wv (j6X es t (pfX zs cs ls t)) (pfX zs cs ls t) ls.length (m+1)=some x.2.2:=fun x hx t t1 t2=>by
  obtain ⟨h1,h2,h3,h4⟩:=hWin x hx
  obtain ⟨g1,g2,g3,g4⟩:=h4 t t1 t2
  have hn:=(hI.fr t (by omega) (by omega)).1 g1
  rw [jtW,hn,show ls.length-m-1=k by omega]
  have:j6X es t (pfX zs cs ls t) k=true:=by
   simp only [j6X,hpf,g2,g4]
   simp [g3]
  simp only [this,j5,hpf,g2]
 have hold:∀ t p,Wv (j6X es t (pfX zs cs ls t)) (pfX zs cs ls t) ls.length m=some p→Wv (j6X es t (pfX zs cs ls t)) (pfX zs cs ls t) ls.length (m+1)=some p:=fun t p h=>by rw [jtW,h]
 obtain ⟨P,e4,q1,q2,q3⟩:=jzz (l:=W) (by omega) (lo:=a) (hi:=b) ha hb (fun x hx=>⟨(hWin x hx).1,(hWin x hx).2.1,(hWin x hx).2.2.1⟩)
 obtain ⟨F',e5,f1,f2,f3⟩:=jl8 (B:=P) (by omega) hI.st q1 hF
 refine ⟨S,Q,W,F',by rw [hgd];exact e1,e2,?_,by simp [j07];omega,⟨P,e4,e5⟩,?_⟩
 ·simp only [j7n,show j39 Q F 0 0 []=_ from lp]
  rfl
 ·have hcase:∀ t,a≤t→t<b→inS t F→inG t W∨Wv (j6X es t (pfX zs cs ls t)) (pfX zs cs ls t) ls.length (m+1)=none:=fun t t1 t2 hf=>by
   have hn:=(hI.fr t t1 t2).1 hf
   by_cases hg:j6X es t (pfX zs cs ls t) k=true
   ·left
    refine w4 t (p3 t t1 t2 ?_ ?_) hf
    ·simp only [j6X,hpf,ja,jl] at hg;exact hg.1
    ·simp only [j6X,hpf,ja,ku] at hg;exact hg.2
   ·right
    rw [jtW,hn,show ls.length-m-1=k by omega,ql.2 hg]
    rfl
  refine ⟨f1,fun t h=>hI.fb t ((f2 t).1 h).1,fun t t1 t2=> ?_,fun x hx=> ?_,?_,fun t t1 t2 hne=> ?_,?_,?_⟩
  ·rw [f2 t,q2 t]
   constructor
   ·rintro ⟨h1,h2⟩
    rcases hcase t t1 t2 h1 with h | h
    ·exact absurd h h2
    ·exact h
   ·intro h
    have hn:Wv (j6X es t (pfX zs cs ls t)) (pfX zs cs ls t) ls.length m=none:=by
     cases hw:Wv (j6X es t (pfX zs cs ls t)) (pfX zs cs ls t) ls.length m with
     | none=>rfl
     | some p=>rw [hold t p hw] at h;simp at h
    refine ⟨(hI.fr t t1 t2).2 hn,?_⟩
    rintro ⟨x,hx,x1,x2⟩
    rw [hw0 x hx t x1 x2] at h
    simp at h
  ·rcases jq.1 hx with hx | hx
   ·obtain ⟨h1,h2,h3,h4⟩:=hI.seg x hx
    exact ⟨h1,h2,h3,fun t t1 t2=>hold t _ (h4 t t1 t2)⟩
   ·obtain ⟨h1,h2,h3,_⟩:=hWin x hx
    exact ⟨h1,h2,h3,hw0 x hx⟩
  ·refine List.pairwise_append.2 ⟨hI.ap,(w1.apart).1.imp (fun h=> .inl h),fun x hx y hy=> ?_⟩
   obtain ⟨h1,h2,h3,h4⟩:=hI.seg x hx
   obtain ⟨g1,g2,g3,g4⟩:=hWin y hy
   apply jm
   intro hn
   simp only [apart,not_or] at hn
   have hc:∃ t,x.1≤t∧t<x.2.1∧y.1≤t∧t<y.2.1:=by
    by_cases hxy:x.1≤y.1
    ·exact ⟨y.1,by omega,by omega,by omega,by omega⟩
    ·exact ⟨x.1,by omega,by omega,by omega,by omega⟩
   obtain ⟨t,t1,t2,t3,t4⟩:=hc
   have hw:=h4 t t1 t2
   have:=(hI.fr t (by omega) (by omega)).1 (g4 t t3 t4).1
   rw [hw] at this
   simp at this
  ·by_cases hf:inS t F
   ·rcases hcase t t1 t2 hf with ⟨x,hx,h⟩ | h
    ·exact ⟨x,ki _ hx,h⟩
    ·exact absurd h hne
   ·have hw:Wv (j6X es t (pfX zs cs ls t)) (pfX zs cs ls t) ls.length m≠none:=fun h=>hf ((hI.fr t t1 t2).2 h)
    obtain ⟨x,hx,h⟩:=hI.cov t t1 t2 hw
    exact ⟨x,kb _ hx,h⟩
  ·rw [Nat.pow_succ];omega
  ·rw [jh,Nat.add_mul];omega
theorem jCV:∀ (n m:Nat) (F:SL) (O:SgL),n+m=ls.length→jyj zs cs ls es a b m F O→
  ∃ F' O',j2Q (n:Int) ls zs ps cs ss (zs.map tb) nm ls es a b F O=some (F',O')∧jyj zs cs ls es a b ls.length F' O'
 | 0,m,F,O,hn,hI=>by
  rw [j9T]
  simp only [j19]
  rw [j01 (by omega),j5,j08]
  obtain rfl:m=ls.length:=by omega
  exact ⟨F,O,rfl,hI⟩
 | k+1,m,F,O,hn,hI=>by
  obtain ⟨S,Q,W,F',e1,e2,e3,e4,⟨P,e5,e6⟩,hI'⟩:=jBt hs hL hll hE hel ha hab hb hlen (nm:=nm) (ss:=ss) (k:=k) (m:=m) (by omega) hI
  rw [j9T]
  simp only [j19]
  rw [j00 (by omega),j01 (show ((k+1:Nat):Int)≤Int.ofNat ls.length by simp;omega),show ((k+1:Nat):Int)-1=(k:Int) by omega]
  simp only [j5,j6,j7]
  generalize ls.getD k (ByteArray.empty,((0:Int),(((0:Int),(0:Int)),((0:Int),((0:Int),(([]:List Int),(([]:List (Int×Int)),((0:Int),(0:Int)))))))))=L at *
  rw [show j1l ((zs,(ps,(cs,ss))),zs.map tb) (L.1,(L.2.1,((L.2.2.1.1,L.2.2.1.2),(L.2.2.2.1,(L.2.2.2.2.1,(L.2.2.2.2.2.1,(L.2.2.2.2.2.2.1,(L.2.2.2.2.2.2.2.1,L.2.2.2.2.2.2.2.2)))))))) a b=_ from e1]
  simp only [j3,e2,e3]
  rw [j01 e4]
  simp only [j5,j3,e5,e6,j05]
  exact jCV k (m+1) F' (O++W) (by omega) hI'
theorem jzA:∃ out,j2K ((zs,(ps,(cs,ss))),zs.map tb) (nm,(ls,es)) a b=some out∧Cov (fun t=>topP es t (pfX zs cs ls t) ls.length) b none a out∧out.length≤40000000:=by
 simp only [j2K]
 by_cases hge:a≥b
 ·rw [j01 hge,j5]
  exact ⟨[],rfl,show a=b by omega,by simp⟩
 ·rw [j00 hge,j6]
  have h0:jyj zs cs ls es a b 0 [(a,b)] []:=⟨⟨by dsimp only;omega,by dsimp only;omega,trivial⟩,fun t h=>by
   rcases j1r.1 h with h | h
   ·exact h.2
   ·exact absurd h j4x,fun t t1 t2=>⟨fun _=>rfl,fun _=>j1r.2 (.inl ⟨t1,t2⟩)⟩,by simp,List.Pairwise.nil,fun t _ _ h=>absurd rfl h,by simp,by simp⟩
  obtain ⟨F,O,e1,hI⟩:=jCV hs hL hll hE hel ha hab hb hlen (nm:=nm) (ss:=ss) ls.length 0 [(a,b)] [] (by omega) h0
  have hpow:2^ls.length≤2^4:=Nat.pow_le_pow_right (by omega) hll
  have hfl:=hI.fl
  have hol:=hI.ol
  have hF:F.length≤10000000:=by omega
  have lp:=jCU hF F.length 0 O (by omega) (by omega)
  rw [jy] at lp
  have hFm:∀ u∈F,a≤u.1∧u.1<u.2∧u.2≤b∧∀ t,u.1≤t→t<u.2→Wv (j6X es t (pfX zs cs ls t)) (pfX zs cs ls t) ls.length ls.length=none:=fun u hu=>by
   have hm:=StS.mem hI.st u hu
   have:=hI.fb (u.2-1) ⟨u,hu,by omega,by omega⟩
   exact ⟨by omega,hm.2,by omega,fun t t1 t2=>(hI.fr t (by omega) (by omega)).1 ⟨u,hu,t1,t2⟩⟩
  have hall:∀ x∈O++F.map (fun u=>((u.1,(u.2, -1)):SgT)),a≤x.1∧x.1<x.2.1∧x.2.1≤b∧∀ t,x.1≤t→t<x.2.1→topP es t (pfX zs cs ls t) ls.length=x.2.2:=fun x hx=>by
   rcases jq.1 hx with hx | hx
   ·obtain ⟨h1,h2,h3,h4⟩:=hI.seg x hx
    exact ⟨h1,h2,h3,fun t t1 t2=>by rw [jAo,h4 t t1 t2];rfl⟩
   ·obtain ⟨u,hu,rfl⟩:=k7.1 hx
    obtain ⟨h1,h2,h3,h4⟩:=hFm u hu
    exact ⟨h1,h2,h3,fun t t1 t2=>by rw [jAo,h4 t t1 t2];rfl⟩
  have hpr:∀ x∈O++F.map (fun u=>((u.1,(u.2, -1)):SgT)), -1≤x.2.2∧x.2.2≤100:=fun x hx=>by
   obtain ⟨h1,h2,h3,h4⟩:=hall x hx
   have:=h4 x.1 (kn _) h2
   have hp1:=hs.so.p1
   rw [←this]
   simp only [topP]
   cases hT:topI (j6X es x.1 (pfX zs cs ls x.1)) ls.length with
   | none=>dsimp only;omega
   | some i=>
    dsimp only
    have hi:∀ (g:Nat→Bool) (n i:Nat),topI g n=some i→i<n:=by
     intro g n
     induction n with
     | zero=>intro i h;simp [topI] at h
     | succ n ih=>
      intro i h
      simp only [topI] at h
      cases hg:g n with
      | true=>rw [hg,j5] at h;simp at h;omega
      | false=>rw [hg,j6] at h;have:=ih i h;omega
    have hi':=hi _ _ _ hT
    have e:pfX zs cs ls x.1 i=perX zs cs ls[i] x.1:=by simp [pfX,List.getD,hi']
    rw [e]
    have:=(jBk hs (hL _ (jg hi')) (t:=x.1) (by omega) (by omega)).2
    omega
  have hapart:(O++F.map (fun u=>((u.1,(u.2, -1)):SgT))).Pairwise apart:=by
   refine List.pairwise_append.2 ⟨hI.ap,?_,fun x hx y hy=> ?_⟩
   ·rw [List.pairwise_map]
    have:∀ (l:SL) (q:Int),StS q l→l.Pairwise (fun u v=>u.2≤v.1):=by
     intro l
     induction l with
     | nil=>intro q _;exact List.Pairwise.nil
     | cons s r ih=>intro q h;exact qb.2 ⟨fun v hv=>by have:=StS.mem h.2.2 v hv;omega,ih _ h.2.2⟩
    exact (this F _ hI.st).imp (fun h=> .inl h)
   ·obtain ⟨u,hu,rfl⟩:=k7.1 hy
    obtain ⟨h1,h2,h3,h4⟩:=hI.seg x hx
    obtain ⟨g1,g2,g3,g4⟩:=hFm u hu
    apply jm
    intro hn
    simp only [apart,not_or] at hn
    have hc:∃ t,x.1≤t∧t<x.2.1∧u.1≤t∧t<u.2:=by
     by_cases hxy:x.1≤u.1
     ·exact ⟨u.1,by omega,by omega,by omega,by omega⟩
     ·exact ⟨x.1,by omega,by omega,by omega,by omega⟩
    obtain ⟨t,t1,t2,t3,t4⟩:=hc
    have hw:=h4 t t1 t2
    rw [g4 t t3 t4] at hw
    simp at hw
  have hcov:∀ t,(a≤t∧t<b)↔∃ s∈O++F.map (fun u=>((u.1,(u.2, -1)):SgT)),s.1≤t∧t<s.2.1:=fun t=>by
   constructor
   ·rintro ⟨t1,t2⟩
    by_cases hn:Wv (j6X es t (pfX zs cs ls t)) (pfX zs cs ls t) ls.length ls.length=none
    ·obtain ⟨u,hu,u1,u2⟩:=(hI.fr t t1 t2).2 hn
     exact ⟨(u.1,(u.2, -1)),ki _ (k7.2 ⟨u,hu,rfl⟩),u1,u2⟩
    ·obtain ⟨x,hx,h⟩:=hI.cov t t1 t2 hn
     exact ⟨x,kb _ hx,h⟩
   ·rintro ⟨x,hx,x1,x2⟩
    obtain ⟨h1,h2,h3,_⟩:=hall x hx
    omega
  have hZl:(O++F.map (fun u=>((u.1,(u.2, -1)):SgT))).length≤40000000:=by rw [jh,kv];omega
  generalize hZ:O++F.map (fun u=>((u.1,(u.2, -1)):SgT))=Z at *
  obtain ⟨Y,e2,hp,hsrt⟩:=jvW (l:=Z) (by omega) (fun x hx=>by have:=hall x hx;have:=hpr x hx;omega)
  have hch:Ch (fun t=>topP es t (pfX zs cs ls t) ls.length) b a Y:=by
   refine jCB hab ?_ (fun s h=>⟨(hall s (hp.mem_iff.1 h)).2.1,(hall s (hp.mem_iff.1 h)).2.2.2⟩) (fun t=> ?_)
   ·have hY:Y.Pairwise apart:=(hp.pairwise_iff (fun {x y} h=>Or.symm h)).2 hapart
    refine List.Pairwise.imp_of_mem (fun {x y} hx hy h=> ?_) (hY.and hsrt)
    have h1:=hall x (hp.mem_iff.1 hx)
    have h2:=hall y (hp.mem_iff.1 hy)
    rcases h.1 with h3 | h3
    ·exact h3
    ·have:=h.2;omega
   ·rw [hcov t]
    constructor
    ·rintro ⟨x,hx,h⟩;exact ⟨x,hp.mem_iff.2 hx,h⟩
    ·rintro ⟨x,hx,h⟩;exact ⟨x,hp.mem_iff.1 hx,h⟩
  have hYl:=hp.length_eq
  obtain ⟨out,e3,h3,l3⟩:=jnN (l:=Y) (by omega) hch
  refine ⟨out,?_,h3,by omega⟩
  simp only [j14,j3]
  rw [show j2Q (Int.ofNat ls.length) ls zs ps cs ss (zs.map tb) nm ls es a b [(a,b)] []=_ from e1]
  simp only [j3,show Int.ofNat F.length=(F.length:Int) from rfl]
  rw [show j2R (F.length:Int) 0 F O=_ from lp]
  simp only [j3]
  rw [e2]
  simp only [j3,e3]
end
def brd (l:SgL):List Int:=l.tail.map (·.1)
theorem jqD {f:Int→Int} {b:Int}:∀ {l:SgL} {q:Option Int} {a:Int},Cov f b q a l→(∀ x,x∈brd l↔a<x∧x<b∧f (x-1)≠f x)∧(brd l).Nodup∧l.length≤(brd l).length+1
 | [],q,a,h=>⟨fun x=>⟨fun hx=>by simp [brd] at hx,fun hx=>by have h:a=b:=h;omega⟩,zk,by simp⟩
 | [s],q,a,h=>by
  obtain ⟨h1,h2,h3,h4,h5⟩:=h
  have h5:s.2.1=b:=h5
  exact ⟨fun x=>⟨fun hx=>by simp [brd] at hx,fun ⟨x1,x2,x3⟩=>absurd ((h4 (x-1) (by omega) (by omega)).trans (h4 x (by omega) (by omega)).symm) x3⟩,zk,by simp [brd]⟩
 | s::u::r,q,a,h=>by
  obtain ⟨h1,h2,h3,h4,h5⟩:=h
  obtain ⟨i1,i2,i3⟩:=jqD h5
  have hu:=h5.1
  have hle:=h5.2.2.2.2.ch.le
  have hu2:=h5.2.1
  have e:brd (s::u::r)=u.1::brd (u::r):=rfl
  refine ⟨fun x=> ?_,?_,by rw [e];simp only [jp] at i3 ⊢;omega⟩
  ·rw [e,jf,i1 x]
   constructor
   ·rintro (rfl | ⟨x1,x2,x3⟩)
    ·refine ⟨by omega,by omega,?_⟩
     rw [h4 (u.1-1) (by omega) (by omega),h5.2.2.2.1 u.1 (by omega) (by omega)]
     exact fun he=>h5.2.2.1 (by rw [he])
    ·exact ⟨by omega,x2,x3⟩
   ·rintro ⟨x1,x2,x3⟩
    by_cases hx:x<s.2.1
    ·exact absurd ((h4 (x-1) (by omega) (by omega)).trans (h4 x (by omega) (by omega)).symm) x3
    ·by_cases hx2:x=s.2.1
     ·left;omega
     ·right;exact ⟨by omega,x2,x3⟩
  ·rw [e]
   refine qp.2 ⟨fun hm=> ?_,i2⟩
   have:=(i1 u.1).1 hm
   omega
theorem jyk {f:Int→Int} {a b:Int} {l:SgL} {q:Option Int} (h:Cov f b q a l) {E:List Int} (hE:∀ x,a<x→x<b→f (x-1)≠f x→x∈E):l.length≤E.length+1:=by
 obtain ⟨h1,h2,h3⟩:=jqD h
 have:=h2.length_le_of_subset (l₂:=E) (fun x hx=>by
  have:=(h1 x).1 hx
  exact hE x this.1 this.2.1 this.2.2)
 omega
def edB (es:List j43):List Int:=es.flatMap fun x=>[x.2.2.2.1,x.2.2.2.2]
theorem jqE:∀ es:List j43,(edB es).length=2*es.length
 | []=>rfl
 | x::es=>by
  have:=jqE es
  simp only [edB,qv,jh,jp,v6] at this ⊢
  omega
theorem jtX {es:List j43} {x:j43} (hx:x∈es):x.2.2.2.1∈edB es∧x.2.2.2.2∈edB es:=
 ⟨zo.2 ⟨x,hx,by simp⟩,zo.2 ⟨x,hx,by simp⟩⟩
theorem jss {es:List j43} {t:Int} (ht:t∉edB es) (p:Int):j9O es p (t-1)=j9O es p t:=by
 unfold j9O
 rw [Bool.eq_iff_iff,zm,zm]
 have key:∀ x∈es,(x.1==0&&(x.2.1==p&&(decide (x.2.2.2.1≤t-1)&&decide (t-1<x.2.2.2.2))))=(x.1==0&&(x.2.1==p&&(decide (x.2.2.2.1≤t)&&decide (t<x.2.2.2.2)))):=fun x hx=>by
  obtain ⟨m1,m2⟩:=jtX hx
  have n1:t≠x.2.2.2.1:=fun e=>ht (e▸m1)
  have n2:t≠x.2.2.2.2:=fun e=>ht (e▸m2)
  have e1:decide (x.2.2.2.1≤t-1)=decide (x.2.2.2.1≤t):=by
   by_cases h:x.2.2.2.1≤t
   ·rw [j01 h,j01 (by omega)]
   ·rw [j00 h,j00 (by omega)]
  have e2:decide (t-1<x.2.2.2.2)=decide (t<x.2.2.2.2):=by
   by_cases h:t<x.2.2.2.2
   ·rw [j01 h,j01 (by omega)]
   ·rw [j00 h,j00 (by omega)]
  rw [e1,e2]
 exact ⟨fun ⟨x,hx,h⟩=>⟨x,hx,by rw [←key x hx];exact h⟩,fun ⟨x,hx,h⟩=>⟨x,hx,by rw [key x hx];exact h⟩⟩
theorem jp6 {es:List j43} {t u:Int} {pf pg:Nat→Int} {n:Nat} (hp:∀ i,i<n→pf i=pg i) (ha:∀ p,j9O es p t=j9O es p u):topP es t pf n=topP es u pg n:=by
 have hg:∀ m,m≤n→topI (j6X es t pf) m=topI (j6X es u pg) m:=by
  intro m
  induction m with
  | zero=>intro _;rfl
  | succ m ih=>
   intro hm
   have e:j6X es t pf m=j6X es u pg m:=by simp only [j6X,hp m (by omega),ha]
   simp only [topI,e,ih (by omega)]
 have hi:∀ (g:Nat→Bool) (n i:Nat),topI g n=some i→i<n:=by
  intro g n
  induction n with
  | zero=>intro i h;simp [topI] at h
  | succ n ih=>
   intro i h
   simp only [topI] at h
   cases hg:g n with
   | true=>rw [hg,j5] at h;simp at h;omega
   | false=>rw [hg,j6] at h;have:=ih i h;omega
 simp only [topP,hg n (jo _)]
 cases hT:topI (j6X es u pg) n with
 | none=>rfl
 | some i=>exact hp i (hi _ _ _ hT)
section
variable {zs:List j1R} {ps:List j1q} {cs:List CalT} (hs:SOk2 zs ps cs)
include hs
theorem jyl {a b:Int} (ha:0≤a) (hab:a≤b) (hb:b≤8589934592) (hlen:b-a≤1209600):∀ ls:List j0w,(∀ L∈ls,LCk zs.length ps.length cs.length L)→
  ∃ E:List Int,E.length≤5000*ls.length∧∀ L∈ls,∀ x,a<x→x<b→perX zs cs L (x-1)≠perX zs cs L x→x∈E
 | [],_=>⟨[],by simp,by simp⟩
 | L::ls,hL=>by
  obtain ⟨E,e1,e2⟩:=jyl ha hab hb hlen ls (fun M hM=>hL M (by simp [hM]))
  obtain ⟨S,_,c1,l1⟩:=jzt hs (hL L (by simp)) (ss:=[]) ha hab hb hlen
  refine ⟨brd S++E,?_,fun M hM x x1 x2 x3=> ?_⟩
  ·have:(brd S).length≤S.length:=by simp [brd]
   rw [jh,jp];omega
  ·rcases jf.1 hM with rfl | hM
   ·exact kb _ (((jqD c1).1 x).2 ⟨x1,x2,x3⟩)
   ·exact ki _ (e2 M hM x x1 x2 x3)
theorem jBu {ls:List j0w} {es:List j43} (hL:∀ L∈ls,LCk zs.length ps.length cs.length L) {a b:Int} (ha:0≤a) (hab:a≤b) (hb:b≤8589934592) (hlen:b-a≤1209600) :
  ∃ E:List Int,E.length≤5000*ls.length+2*es.length∧(∀ x,a<x→x<b→topP es (x-1) (pfX zs cs ls (x-1)) ls.length≠topP es x (pfX zs cs ls x) ls.length→x∈E)∧∀ x∈edB es,x∈E:=by
 obtain ⟨E,e1,e2⟩:=jyl hs ha hab hb hlen ls hL
 refine ⟨E++edB es,by rw [jh,jqE];omega,fun x x1 x2 x3=> ?_,fun x hx=>ki _ hx⟩
 apply jm
 intro hn
 simp only [jq,not_or] at hn
 refine x3 (jp6 (fun i hi=> ?_) (fun p=>jss hn.2 p))
 apply jm
 intro hne
 have e:∀ t,pfX zs cs ls t i=perX zs cs ls[i] t:=fun t=>by simp [pfX,List.getD,hi]
 rw [e,e] at hne
 exact hn.1 (e2 _ (jg hi) x x1 x2 hne)
theorem jvX {ss:List j1y} (hc:jhe (zs,(ps,(cs,ss)))) {i:Nat} (hi:i<ss.length) {a b:Int} (ha:0≤a) (hab:a≤b) (hb:b≤8589934592) (hlen:b-a≤34560000) :
  j6i (zs,(ps,(cs,ss))) (i:Int) a b=some (((zs,(ps,(cs,ss))),zs.map tb),0):=by
 simp only [j6i,jA8 hs.so.ok hc,j3,jj,j6,jcm,show Int.ofNat ss.length=(ss.length:Int) from rfl,jkC]
 rw [j01 (show (i:Int)≥0 by omega),j01 (show (i:Int)<(ss.length:Int) by omega),j02 (x:=b-a) (by omega) (by omega),j01 (show a≥0 by omega),j01 (show a≤8589934592 by omega),j01 (show b≥a by omega),j01 hb,j01 hlen]
 rfl
end
theorem Cov.adj2 {f:Int→Int} {b:Int}:∀ {l:SgL} {q:Option Int} {a:Int},Cov f b q a l→∀ i,(h:i+1<l.length)→l[i].2.1=l[i+1].1∧l[i].2.2≠l[i+1].2.2
 | [],_,_,_,i,h=>by simp at h
 | [_],_,_,_,i,h=>by simp at h
 | s::u::r,q,a,h,0,_=>by
  obtain ⟨_,_,_,_,h5⟩:=h
  exact ⟨h5.1.symm,fun e=>h5.2.2.1 (by show some s.2.2=some u.2.2;rw [show s.2.2=u.2.2 from e])⟩
 | s::u::r,q,a,h,i+1,hi=>Cov.adj2 h.2.2.2.2 i (by simpa using hi)
theorem Ch.last2 {f:Int→Int} {b:Int}:∀ {l:SgL} {a:Int},Ch f b a l→(h:l≠[])→(l.getD (l.length-1) ((0:Int),((0:Int),(0:Int)))).2.1=b
 | [],_,_,h=>absurd rfl h
 | [s],_,h,_=>h.2.2.2
 | s::u::r,_,h,_=>by
  have:=Ch.last2 (l:=u::r) h.2.2.2 (by simp)
  simpa [List.getD] using this
theorem Cov.head2 {f:Int→Int} {b a:Int} {q:Option Int} {l:SgL} (h:Cov f b q a l) (hn:l≠[]):(l.getD 0 ((0:Int),((0:Int),(0:Int)))).1=a:=by
 cases l with
 | nil=>exact absurd rfl hn
 | cons s r=>exact h.1
def jst (t p:Int) (x:j43):Int:=
 if t<x.2.2.2.1∨x.2.2.2.2≤t then p else if x.1=1 then x.2.1 else if x.1=2∧p=x.2.1 then x.2.2.1 else if x.1=2∧p=x.2.2.1 then x.2.1 else p
def jfN (t:Int):Int→List j43→Int
 | p,[]=>p
 | p,x::r=>jfN t (jst t p x) r
theorem jtY {es:List j43} (hl:es.length≤100) {t:Int}:∀ (n i:Nat) (p:Int),i+n=es.length→j6b p t es (es.length:Int) (i:Int)=some (jfN t p (es.drop i))
 | 0,i,p,hi=>by
  rw [jgB]
  simp only [j5Z]
  rw [j00 (by omega),j6,j08,jc (by omega)]
  rfl
 | n+1,i,p,hi=>by
  have hi':i<es.length:=by omega
  have hgd:es.getD i ((0:Int),((0:Int),((0:Int),((0:Int),(0:Int)))))=es[i]:=by simp [List.getD,hi']
  have ih:=fun p=>jtY hl (t:=t) n (i+1) p (by omega)
  rw [jgB]
  simp only [j5Z,jiq,j3]
  rw [j01 (by omega),j0s (by omega) (by omega),j02 (x:=(i:Int)+1) (by omega) (by omega),jb hi']
  simp only [j5,j7,hgd,jfN]
  generalize es[i]=x
  unfold jst
  by_cases ha:t<x.2.2.2.1∨x.2.2.2.2≤t
  ·rw [if_pos ha]
   have:cond (decide (x.2.2.2.1≤t)) (decide (t<x.2.2.2.2)) false=false:=by
    rcases ha with ha | ha
    ·rw [j00 (show ¬ x.2.2.2.1≤t by omega)];rfl
    ·rw [j00 (show ¬ t<x.2.2.2.2 by omega)];cases decide (x.2.2.2.1≤t)<;>rfl
   rw [this]
   simp only [ju,j5,j05]
   exact ih p
  ·rw [if_neg ha,j01 (show x.2.2.2.1≤t by omega),j01 (show t<x.2.2.2.2 by omega)]
   simp only [j5,jj,j6]
   by_cases h0:x.1=0
   ·rw [j4Q h0,if_neg (by omega),if_neg (by omega),if_neg (by omega),j5,j05]
    exact ih p
   rw [j2c h0,j6]
   by_cases h1:x.1=1
   ·rw [if_pos h1,j4Q h1,j5,j05]
    exact ih _
   ·rw [if_neg h1,j2c h1,j6]
    by_cases h2:x.1=2
    ·rw [show (x.1 != 2)=false by simp [h2],j6]
     by_cases h3:p=x.2.1
     ·rw [if_pos ⟨h2,h3⟩,j4Q h3,j5,j05]
      exact ih _
     ·rw [if_neg (fun h=>h3 h.2),j2c h3,j6]
      by_cases h4:p=x.2.2.1
      ·rw [if_pos ⟨h2,h4⟩,j4Q h4,j5,j05]
       exact ih _
      ·rw [if_neg (fun h=>h4 h.2),j2c h4,j6,j05]
       exact ih _
    ·rw [if_neg (fun h=>h2 h.1),if_neg (fun h=>h2 h.1),show (x.1 != 2)=true by simp [h2],j5,j05]
     exact ih _
theorem juY {nm:ByteArray} {ls:List j0w} {es:List j43} {p t:Int} (hl:es.length≤1000):∀ (n i:Nat),i+n=es.length→jcC p t (i:Int) nm ls es=some (cond (j9O (es.drop i) p t) (.inl true) (.inr ()))
 | 0,i,hi=>by
  rw [ji0]
  simp only [j6K,show Int.ofNat es.length=(es.length:Int) from rfl]
  rw [j00 (by omega),j6,j08,jc (by omega)]
  rfl
 | n+1,i,hi=>by
  have hlt:i<es.length:=by omega
  have hgd:es.getD i ((0:Int),((0:Int),((0:Int),((0:Int),(0:Int)))))=es[i]:=by simp [List.getD,hlt]
  have ih:=juY (nm:=nm) (ls:=ls) (p:=p) (t:=t) hl n (i+1) (by omega)
  rw [ji0]
  simp only [j6K,show Int.ofNat es.length=(es.length:Int) from rfl]
  rw [j01 (by omega),j0s (by omega) (by omega),j02 (x:=(i:Int)+1) (by omega) (by omega),jb hlt]
  simp only [j5,j7,hgd]
  have ha:j9O (es[i]::es.drop (i+1)) p t=((es[i].1==0&&(es[i].2.1==p&&(decide (es[i].2.2.2.1≤t)&&decide (t<es[i].2.2.2.2))))||j9O (es.drop (i+1)) p t):=rfl
  have e:(cond (cond (cond (es[i].1==(0:Int)) (es[i].2.1==p) false) (decide (es[i].2.2.2.1≤t)) false) (decide (t<es[i].2.2.2.2)) false)=(es[i].1==0&&(es[i].2.1==p&&(decide (es[i].2.2.2.1≤t)&&decide (t<es[i].2.2.2.2)))):=by
   cases es[i].1==(0:Int)<;>cases es[i].2.1==p<;>cases decide (es[i].2.2.2.1≤t)<;>rfl
  rw [e,ha]
  cases (es[i].1==0&&(es[i].2.1==p&&(decide (es[i].2.2.2.1≤t)&&decide (t<es[i].2.2.2.2)))) with
  | true=>rfl
  | false=>
   rw [j6,j05,vf]
   exact ih
theorem jvY {nm:ByteArray} {ls:List j0w} {es:List j43} {p t:Int} (hl:es.length≤1000):jjE (nm,(ls,es)) p t=some (j9O es p t):=by
 have:=juY (nm:=nm) (ls:=ls) (p:=p) (t:=t) hl es.length 0 (by omega)
 simp only [jjE,show jcC p t 0 nm ls es=_ from this,j3,jy]
 cases j9O es p t<;>rfl
section
variable {zs:List j1R} {ps:List j1q} {cs:List CalT} (hs:SOk2 zs ps cs)
include hs
noncomputable def whoS (zs:List j1R) (cs:List CalT) (s:j1y) (t:Int):Int:=jfN t (topP s.2.2 t (pfX zs cs s.2.1 t) s.2.1.length) s.2.2
theorem jDv {ss:List j1y} (hc:jhe (zs,(ps,(cs,ss)))) {i:Nat} (hi:i<ss.length) {t:Int} (h0:0≤t) (h1:t≤8589934592):j7L (zs,(ps,(cs,ss))) (i:Int) t=some (whoS zs cs ss[i] t):=by
 have hsc:=hc.sc _ (jg hi)
 have hll:=hsc.ll;have hel:=hsc.el
 have hgs:ss.getD i (ByteArray.empty,(([]:List j0w),([]:List j43)))=ss[i]:=by simp [List.getD,hi]
 have hL:=jvS (zs:=zs) (ps:=ps) (cs:=cs) (ss:=ss) (tbs:=zs.map tb) (ls:=ss[i].2.1) (nm:=ss[i].1) (es:=ss[i].2.2) (t:=t) (Pf:=pfX zs cs ss[i].2.1 t) (by omega) (fun k hk=>by
  have e:pfX zs cs ss[i].2.1 t k=perX zs cs ss[i].2.1[k] t:=by simp [pfX,List.getD,hk]
  rw [e]
  exact (jxW hs (hsc.ly _ (jg hk)) (ss:=ss) h0 h1).2.1)
 have hL2:∃ k,j4r ((zs,(ps,(cs,ss))),zs.map tb) (ss[i].1,(ss[i].2.1,ss[i].2.2)) t=some (k,topP ss[i].2.2 t (pfX zs cs ss[i].2.1 t) ss[i].2.1.length):=by
  rw [show j4r ((zs,(ps,(cs,ss))),zs.map tb) (ss[i].1,(ss[i].2.1,ss[i].2.2)) t=_ from hL]
  simp only [topP]
  cases topI (j6X ss[i].2.2 t (pfX zs cs ss[i].2.1 t)) ss[i].2.1.length with
  | none=>exact ⟨_,rfl⟩
  | some k=>exact ⟨_,rfl⟩
 obtain ⟨k,hL2⟩:=hL2
 have ef:=jtY (es:=ss[i].2.2) (by omega) (t:=t) ss[i].2.2.length 0 (topP ss[i].2.2 t (pfX zs cs ss[i].2.1 t) ss[i].2.1.length) (by omega)
 rw [jy] at ef
 simp only [j7L,jhu,jA8 hs.so.ok hc,j3,jj,j6,jcm,show Int.ofNat ss.length=(ss.length:Int) from rfl]
 rw [j01 (show (i:Int)≥0 by omega),j01 (show (i:Int)<(ss.length:Int) by omega),j0s (by omega) (by omega)]
 simp only [j5,jj,j6,j7,hgs,j8X]
 rw [j00 (show ¬ t<0 by omega),j00 (show ¬ t>8589934592 by omega)]
 simp only [j6]
 simp only [hL2,j3,j9e,show Int.ofNat ss[i].2.2.length=(ss[i].2.2.length:Int) from rfl,show j6b (topP ss[i].2.2 t (pfX zs cs ss[i].2.1 t) ss[i].2.1.length) t ss[i].2.2 (ss[i].2.2.length:Int) 0=_ from ef]
 rfl
end
end Go.Proofs.Pw
