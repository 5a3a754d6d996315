/- The layers, edits and configurations that the dice make are right. -/
import Derived.Test.YtaieocafhcjelaaGreatAPD
import Derived.Test.YtaieocafhcjelaaGreatAPC
import Derived.Test.YtaieocafhcjelaaGreatAPA
open Go Go.Lft
namespace Go.Proofs.Pw
theorem jB8 {L:List Int} {zs:List j1R} {ps:List j1q} {cs:List CalT} {ss:List j1y} (hp0:1≤ps.length) (hp1:ps.length≤100) {x0 y0:ByteArray} {x1 x2 x3 x4 x5 x6 x7 y1 y2 y3 y4 y5 y6 y7:Int}:∀ (n:Nat) (a:Int) (ms:List Int),DOk L a→ms.length+n≤4→(∀ m∈ms,0≤m∧m<(ps.length:Int))→
  ∃ ms' a',j5h (n:Int) L a zs ps cs ss x0 x1 x2 x3 x4 x5 x6 x7 y0 y1 y2 y3 y4 y5 y6 y7 ms=some (L,a',zs,ps,cs,ss,x0,x1,x2,x3,x4,x5,x6,x7,y0,y1,y2,y3,y4,y5,y6,y7,ms')∧ms'.length=ms.length+n∧(∀ m∈ms',0≤m∧m<(ps.length:Int))∧DOk L a'
 | 0,a,ms,hd,_,hm=>by
  rw [jaV]
  simp only [j3h]
  rw [j00 (by omega),j6,j08]
  exact ⟨ms,a,rfl,rfl,hm,hd⟩
 | n+1,a,ms,hd,hl,hm=>by
  obtain ⟨x,a1,e1,x0',x1',d1⟩:=j0Q (n:=(ps.length:Int)) hd (by omega) (by omega)
  rw [jaV]
  simp only [j3h,show Int.ofNat (List.length ps)=(ps.length:Int) from rfl]
  rw [j01 (by omega),j02 (x:=((n+1:Nat):Int)-1) (by omega) (by omega),show ((n+1:Nat):Int)-1=(n:Int) by omega]
  simp only [j5,e1,j3]
  rw [j01 (by simp [j07];omega)]
  simp only [j5,j05]
  obtain ⟨ms',a',e,h1,h2,h3⟩:=jB8 (zs:=zs) (cs:=cs) (ss:=ss) hp0 hp1 (x0:=x0) (x1:=x1) (x2:=x2) (x3:=x3) (x4:=x4) (x5:=x5) (x6:=x6) (x7:=x7) (y0:=y0) (y1:=y1) (y2:=y2) (y3:=y3) (y4:=y4) (y5:=y5) (y6:=y6) (y7:=y7) n a1 (ms++[x]) d1 (by simp;omega) (fun m h=>by
   rcases jq.1 h with h | h
   ·exact hm m h
   ·simp at h;subst h;exact ⟨x0',x1'⟩)
  exact ⟨ms',a',e,by rw [h1];simp;omega,h2,h3⟩
theorem jxD {L:List Int} {a:Int} (h:DOk L a) {zs:List j1R} {ps:List j1q} {cs:List CalT} {ss:List j1y} (hs:SOk zs ps cs) (nm:ByteArray) :
  ∃ l a',j9h L a (zs,(ps,(cs,ss))) nm=some (l,L,a')∧LOk l∧LCk zs.length ps.length cs.length l∧l.1=nm∧DOk L a':=by
 have hz0:=hs.z0;have hz1:=hs.z1;have hp0:=hs.p0;have hp1:=hs.p1;have hc1:=hs.c1
 obtain ⟨z,a1,e1,z0,z1,d1⟩:=j0Q (n:=(zs.length:Int)) h (by omega) (by omega)
 obtain ⟨x,a2,e2,x0,x1,d2⟩:=j0Q (n:=6) d1 (by omega) (by omega)
 obtain ⟨s,a3,e3,m3,d3⟩:=j8Q d2 (xs:=[(0:Int),(32400:Int),(7200:Int),(9000:Int),(79200:Int),(1:Int)]) (by simp) (by simp)
 obtain ⟨u,a4,e4,u0,u1,d4⟩:=j0Q (n:=3) d3 (by omega) (by omega)
 obtain ⟨v,a5,e5,v0,v1,d5⟩:=j0Q (n:=2) d4 (by omega) (by omega)
 have hs':0≤s∧s≤79200:=by simp at m3;omega
 simp only [j9h,show Int.ofNat (List.length zs)=(zs.length:Int) from rfl,e1,e2,e3,e4,e5,j3]
 rw [j02 (x:=20454+x) (by omega) (by omega),j02 (x:=20454+x-2) (by omega) (by omega),j02 (x:=1+v) (by omega) (by omega)]
 have fin:∀ (ev:Int),1≤ev→ev≤49→(u≠0→ev≤2)→∀ ms:List Int,1≤ms.length→ms.length≤3→(∀ m∈ms,0≤m∧m<(ps.length:Int))→∀ (w:WL),WOk 0 w→w.length≤3→∀ (c m:Int),0≤m→m≤2→(m≠0→0≤c∧c<(cs.length:Int))→(m=0→c=0)→∀ (a':Int),DOk L a'→
   ∃ l a'',some ((nm,(z,((20454+x-2,s),(u,(ev,(ms,(w,(c,m)))))))),L,a')=some (l,L,a'')∧LOk l∧LCk zs.length ps.length cs.length l∧l.1=nm∧DOk L a'':=
  fun ev h1 h2 h3 ms h4 h5 hmem w hw hwl c m hm0 hm1 hmc hmz a' hd=>⟨_,_,rfl,⟨by dsimp only;omega,by dsimp only;omega,hs'.1,hs'.2,u0,by dsimp only;omega,h1,h2,h3,h4,h5⟩,
   ⟨z0,z1,by dsimp only;omega,jxA (by dsimp only;omega) (by dsimp only;omega),hs'.1,by dsimp only;omega,u0,by dsimp only;omega,h1,by dsimp only;omega,by dsimp only;omega,by dsimp only;omega,hmem,hw,by dsimp only;omega,hm0,hm1,hmc,hmz⟩,rfl,hd⟩
 have rest:∀ (ev:Int),1≤ev→ev≤49→(u≠0→ev≤2)→∀ (ms:List Int),1≤ms.length→ms.length≤3→(∀ m∈ms,0≤m∧m<(ps.length:Int))→∀ (w:WL),WOk 0 w→w.length≤3→∀ (a9:Int),DOk L a9→
   ∃ l a'',((j1d L a9 4).bind fun r=>cond (cond r.1 (decide ((cs.length:Int)>0)) false) ((j06 r.2.1 r.2.2 (cs.length:Int)).bind fun r70=>(j06 r70.2.1 r70.2.2 2).bind fun r72=>some ((nm,(z,((20454+x-2,s),(u,(ev,(ms,(w,(r70.1,w64 (1+r72.1))))))))),r72.2.1,r72.2.2))
    (some ((nm,(z,((20454+x-2,s),(u,(ev,(ms,(w,((0:Int),(0:Int))))))))),r.2.1,r.2.2)))=some (l,L,a'')∧LOk l∧LCk zs.length ps.length cs.length l∧l.1=nm∧DOk L a'':=by
  intro ev h1 h2 h3 ms h4 h5 hmem w hw hwl a9 d9
  obtain ⟨c,a11,e11,d11⟩:=jl7 (n:=4) d9 (by omega) (by omega)
  simp only [e11,j3]
  by_cases hcc:c=true∧(cs.length:Int)>0
  ·obtain ⟨i,a12,e12,i0,i1,d12⟩:=j0Q (n:=(cs.length:Int)) d11 (by omega) (by omega)
   obtain ⟨j,a13,e13,j0,j1,d13⟩:=j0Q (n:=2) d12 (by omega) (by omega)
   rw [hcc.1,j01 hcc.2]
   simp only [j5,e12,e13,j3,j02 (x:=1+j) (show -9223372036854775808≤_ by omega) (by omega)]
   exact fin ev h1 h2 h3 ms h4 h5 hmem w hw hwl i (1+j) (by omega) (by omega) (fun _=>⟨i0,i1⟩) (fun hh=>by omega) _ d13
  ·have hc0:cond c (decide ((cs.length:Int)>0)) false=false:=by
    cases c with
    | true=>exact j00 (fun h=>hcc ⟨rfl,h⟩)
    | false=>rfl
   rw [hc0]
   simp only [j6]
   exact fin ev h1 h2 h3 ms h4 h5 hmem w hw hwl 0 0 (by omega) (by omega) (fun hh=>absurd rfl hh) (fun _=>rfl) _ d11
 have nilW:WOk 0 ([]:WL):=show (0:Int)≤604800 by omega
 by_cases hu:u=0
 ·rw [j4Q hu,j5]
  obtain ⟨ev,a6,e6,m6,d6⟩:=j8Q d5 (xs:=[(6:Int),(8:Int),(12:Int),(24:Int),(23:Int),(49:Int)]) (by simp) (by simp)
  have hev:1≤ev∧ev≤49:=by simp at m6;omega
  obtain ⟨n,a7,e7,n0,n1,d7⟩:=j0Q (n:=3) d6 (by omega) (by omega)
  obtain ⟨ms,a8,e8,l8,k8,d8⟩:=jB8 (L:=L) (zs:=zs) (ps:=ps) (cs:=cs) (ss:=ss) hp0 (by omega) (x0:=ByteArray.empty) (x1:=0) (x2:=0) (x3:=0) (x4:=0) (x5:=0) (x6:=0) (x7:=0) (y0:=nm) (y1:=z) (y2:=20454+x-2) (y3:=s) (y4:=u) (y5:=ev) (y6:=0) (y7:=0) (1+n).toNat a7 [] d7 (by simp;omega) (by simp)
  rw [show (((1+n).toNat:Nat):Int)=1+n by omega] at e8
  simp at l8
  obtain ⟨b,a9,e9,d9⟩:=jl7 (n:=2) d8 (by omega) (by omega)
  simp only [e6,e7,j3]
  rw [j02 (x:=1+n) (by omega) (by omega)]
  simp only [e8,e9,j3,show Int.ofNat (List.length cs)=(cs.length:Int) from rfl]
  cases b with
  | true=>
   obtain ⟨w,a10,e10,hw,hwl,d10⟩:=jl6 d9
   simp only [j5,e10,j3]
   exact rest ev hev.1 hev.2 (fun h=>absurd hu h) ms (by omega) (by omega) k8 w hw hwl a10 d10
  | false=>
   simp only [j6]
   exact rest ev hev.1 hev.2 (fun h=>absurd hu h) ms (by omega) (by omega) k8 [] nilW (by simp) a9 d9
 ·rw [j2c hu,j6]
  obtain ⟨n,a7,e7,n0,n1,d7⟩:=j0Q (n:=3) d5 (by omega) (by omega)
  obtain ⟨ms,a8,e8,l8,k8,d8⟩:=jB8 (L:=L) (zs:=zs) (ps:=ps) (cs:=cs) (ss:=ss) hp0 (by omega) (x0:=ByteArray.empty) (x1:=0) (x2:=0) (x3:=0) (x4:=0) (x5:=0) (x6:=0) (x7:=0) (y0:=nm) (y1:=z) (y2:=20454+x-2) (y3:=s) (y4:=u) (y5:=1+v) (y6:=0) (y7:=0) (1+n).toNat a7 [] d7 (by simp;omega) (by simp)
  rw [show (((1+n).toNat:Nat):Int)=1+n by omega] at e8
  simp at l8
  obtain ⟨b,a9,e9,d9⟩:=jl7 (n:=2) d8 (by omega) (by omega)
  simp only [e7,j3]
  rw [j02 (x:=1+n) (by omega) (by omega)]
  simp only [e8,e9,j3,show Int.ofNat (List.length cs)=(cs.length:Int) from rfl]
  cases b with
  | true=>
   obtain ⟨w,a10,e10,hw,hwl,d10⟩:=jl6 d9
   simp only [j5,e10,j3]
   exact rest (1+v) (by omega) (by omega) (fun _=>by omega) ms (by omega) (by omega) k8 w hw hwl a10 d10
  | false=>
   simp only [j6]
   exact rest (1+v) (by omega) (by omega) (fun _=>by omega) ms (by omega) (by omega) k8 [] nilW (by simp) a9 d9
theorem jxE {L:List Int} {a:Int} (h:DOk L a) {zs:List j1R} {ps:List j1q} {cs:List CalT} {ss:List j1y} (hp0:1≤ps.length) (hp1:ps.length≤4) :
  ∃ x a',j6S L a (zs,(ps,(cs,ss)))=some (x,L,a')∧ECk ps.length x∧DOk L a':=by
 obtain ⟨k,a1,e1,k0,k1,d1⟩:=j0Q (n:=3) h (by omega) (by omega)
 obtain ⟨p,a2,e2,p0,p1,d2⟩:=j0Q (n:=(ps.length:Int)) d1 (by omega) (by omega)
 obtain ⟨t,a3,e3,t0,t1,d3⟩:=jp1 d2
 obtain ⟨y,a4,e4,m4,d4⟩:=j8Q d3 (xs:=[(3600:Int),(86400:Int),(7:Int),(259200:Int),(40000:Int)]) (by simp) (by simp)
 have hy:7≤y∧y≤259200:=by simp at m4;omega
 have hday:j0W (Int.tdiv (t+y) 86400)=some true:=by
  rw [jfE (by omega)]
  exact jxA (by omega) (by omega)
 simp only [j6S,show Int.ofNat (List.length ps)=(ps.length:Int) from rfl,e1,e2,e3,e4,j3]
 rw [j02 (x:=t+y) (by omega) (by omega)]
 have fin:∀ (kd A B:Int),0≤kd→kd≤2→(0≤A∧A<(ps.length:Int)∨kd=1∧A = -1)→(kd=2→0≤B∧B<(ps.length:Int)∧A≠B)→(kd≠2→B=0)→∀ a',DOk L a'→∃ x a'',some ((kd,(A,(B,(t,t+y)))),L,a')=some (x,L,a'')∧ECk ps.length x∧DOk L a'':=
  fun kd A B h1 h2 h3 h4 h5 a' hd=>⟨_,_,rfl,⟨h1,h2,h3,h4,h5,by dsimp only;omega,by dsimp only;omega,by dsimp only;omega,hday⟩,hd⟩
 by_cases h2:k=2
 ·rw [j4Q h2,j5]
  by_cases hn:(ps.length:Int)<2
  ·rw [j01 hn,j5]
   exact fin 0 p 0 (by omega) (by omega) (.inl ⟨p0,p1⟩) (fun hh=>by omega) (fun _=>rfl) _ d4
  ·rw [j00 hn,j6,j02 (x:=(ps.length:Int)-1) (by omega) (by omega)]
   obtain ⟨q,a5,e5,q0,q1,d5⟩:=j0Q (n:=(ps.length:Int)-1) d4 (by omega) (by omega)
   simp only [e5,j3]
   rw [j02 (x:=p+1) (by omega) (by omega),j02 (x:=p+1+q) (by omega) (by omega),j2c (show ¬ (ps.length:Int)=0 by omega),j2c (show ¬ k=1 by omega),jkU (by omega)]
   simp only [ju,j5,j6]
   have b0:0≤(p+1+q)%(ps.length:Int):=Int.emod_nonneg _ (by omega)
   have b1:(p+1+q)%(ps.length:Int)<(ps.length:Int):=Int.emod_lt_of_pos _ (by omega)
   have hne:p≠(p+1+q)%(ps.length:Int):=by
    by_cases hb:p+1+q<(ps.length:Int)
    ·rw [Int.emod_eq_of_lt (by omega) hb];omega
    ·rw [←Int.sub_emod_right,Int.emod_eq_of_lt (by omega) (by omega)];omega
   exact fin k p _ k0 (by omega) (.inl ⟨p0,p1⟩) (fun _=>⟨b0,b1,hne⟩) (fun hh=>absurd h2 hh) _ d5
 ·rw [j2c h2,j6]
  by_cases h1:k=1
  ·rw [j4Q h1,j5]
   obtain ⟨b,a5,e5,d5⟩:=jl7 (n:=4) d4 (by omega) (by omega)
   simp only [e5,j3]
   cases b with
   | true=>exact fin k (-1) 0 k0 (by omega) (.inr ⟨h1,rfl⟩) (fun hh=>absurd hh h2) (fun _=>rfl) _ d5
   | false=>exact fin k p 0 k0 (by omega) (.inl ⟨p0,p1⟩) (fun hh=>absurd hh h2) (fun _=>rfl) _ d5
  ·rw [j2c h1,j6]
   exact fin k p 0 k0 (by omega) (.inl ⟨p0,p1⟩) (fun hh=>absurd hh h2) (fun _=>rfl) _ d4
theorem jCj {L:List Int} {s6:Int} {nm:ByteArray} {zs:List j1R} {ps:List j1q} {cs:List CalT} {ss:List j1y} (hs:SOk zs ps cs):∀ (n:Nat) (a:Int) (ls:List j0w),DOk L a→ls.length+n≤3→(∀ x∈ls,LCk zs.length ps.length cs.length x)→ls.map (·.1)=nmsL.take ls.length→
  ∃ ls' a',j4L s6 (n:Int) L a zs ps cs nm ss ls=some (s6,L,a',zs,ps,cs,nm,ss,ls')∧ls'.length≤3∧(∀ x∈ls',LCk zs.length ps.length cs.length x)∧ls'.map (·.1)=nmsL.take ls'.length∧DOk L a'
 | 0,a,ls,hd,hl,hk,hn=>by
  rw [j9X]
  simp only [j2Z]
  rw [j00 (by omega),j6,j08]
  exact ⟨ls,a,rfl,by omega,hk,hn,hd⟩
 | n+1,a,ls,hd,hl,hk,hn=>by
  have hnm:ls.length<nmsL.length:=by show ls.length<8;omega
  obtain ⟨l,a1,e1,_,l2,l3,d1⟩:=jxD (ss:=ss) hd hs (nmsL.getD ls.length ByteArray.empty)
  rw [j9X]
  simp only [j2Z,juO,j3,show Int.ofNat (List.length ls)=(ls.length:Int) from rfl]
  rw [j01 (by omega),j0s (show (0:Int)≤(ls.length:Int) by omega) (by omega),j02 (x:=((n+1:Nat):Int)-1) (by omega) (by omega),show ((n+1:Nat):Int)-1=(n:Int) by omega]
  simp only [j5,j7,e1,j3]
  rw [j01 (by simp [j07];omega)]
  simp only [j5,j05]
  exact jCj hs n a1 (ls++[l]) d1 (by simp;omega) (fun x hx=>by
   rcases jq.1 hx with h | h
   ·exact hk x h
   ·simp at h;subst h;exact l2) (by
   rw [zg,hn,jh,kj,List.map_nil,l3]
   exact jqx hnm)
theorem jCk {L:List Int} {s6:Int} {nm:ByteArray} {zs:List j1R} {ps:List j1q} {cs:List CalT} {ss:List j1y} {ls:List j0w} (hs:SOk zs ps cs):∀ (n:Nat) (a:Int) (es:List j43),DOk L a→es.length+n≤3→(∀ x∈es,ECk ps.length x)→
  ∃ es' a',j6m s6 (n:Int) L a zs ps cs nm ss ls es=some (s6,L,a',zs,ps,cs,nm,ss,ls,es')∧es'.length≤3∧(∀ x∈es',ECk ps.length x)∧DOk L a'
 | 0,a,es,hd,hl,hk=>by
  rw [j9Y]
  simp only [j30]
  rw [j00 (by omega),j6,j08]
  exact ⟨es,a,rfl,by omega,hk,hd⟩
 | n+1,a,es,hd,hl,hk=>by
  obtain ⟨x,a1,e1,x1,d1⟩:=jxE (zs:=zs) (cs:=cs) (ss:=ss) hd hs.p0 hs.p1
  rw [j9Y]
  simp only [j30]
  rw [j01 (by omega),j02 (x:=((n+1:Nat):Int)-1) (by omega) (by omega),show ((n+1:Nat):Int)-1=(n:Int) by omega]
  simp only [j5,e1,j3]
  rw [j01 (by simp [j07];omega)]
  simp only [j5,j05]
  exact jCk hs n a1 (es++[x]) d1 (by simp;omega) (fun y hy=>by
   rcases jq.1 hy with h | h
   ·exact hk y h
   ·simp at h;subst h;exact x1)
theorem jA0 {zs:List j1R} {ps:List j1q} {cs:List CalT} {ss:List j1y} (hs:SOk2 zs ps cs) (h0:ss.length≤12) (h1:NmL (ss.map (·.1))) (h2:∀ s∈ss,SCk zs.length ps.length cs.length s):jhe (zs,(ps,(cs,ss))):=by
 have hz1:=hs.so.z1;have hp1:=hs.so.p1;have hc1:=hs.so.c1
 exact ⟨by dsimp only;rw [hs.z.nm];exact jB4.take _,hs.z.ck,by dsimp only;omega,by dsimp only;rw [hs.p.nm];exact jxz.take _,hs.p.ck,by dsimp only;omega,hs.c.nm,hs.c.ck,by dsimp only;omega,h1,h2,h0⟩
structure Fst (o:Int) (l:TrL) (s t:Int) (k:Nat):Prop where
 hk:k≤l.length
 hks:s-tof o l k<frm l (k+1)
 bef:∀ j,j<k→frm l (j+1)≤s-tof o l j
 ht:t=max (frm l k) (s-tof o l k)
def Dif (o:Int) (l:TrL):Prop:=∀ i,i<l.length → -86400<tof o l (i+1)-tof o l i∧tof o l (i+1)-tof o l i<86400
section
variable {o:Int} {l:TrL} (h:TOk o l)
include h
theorem Fst.piece {s t:Int} {k:Nat} (f:Fst o l s t k):frm l k≤t∧t<frm l (k+1)∧s≤t+tof o l k:=by
 have h1:=h.frm_lt f.hk
 have h2:=f.hks
 have h3:=f.ht
 omega
end
noncomputable def fstI (o:Int) (l:TrL) (s:Int):Int:=open Classical in if h:∃ t k,Fst o l s t k then Classical.choose h else 0
def j4h (L:j0w):Int:=if L.2.2.2.1=2 then 7*L.2.2.2.2.1 else L.2.2.2.2.1
def sLoc (L:j0w) (k:Int):Int:=(L.2.2.1.1+k*j4h L)*86400+L.2.2.1.2
noncomputable def hov (o:Int) (l:TrL) (L:j0w) (k:Int):Int:=if L.2.2.2.1=0 then fstI o l (sLoc L 0)+3600*L.2.2.2.2.1*k else fstI o l (sLoc L k)
structure LR (L:j0w):Prop where
 d0:100≤L.2.2.1.1
 d1:L.2.2.1.1≤30000
 c0:0≤L.2.2.1.2
 c1:L.2.2.1.2≤86399
 u0:0≤L.2.2.2.1
 u1:L.2.2.2.1≤2
 e0:1≤L.2.2.2.2.1
 e1:L.2.2.2.2.1≤49
 m0:1≤L.2.2.2.2.2.1.length
 m1:L.2.2.2.2.2.1.length≤1000
theorem jtQ (y:Int):j1X y=some (jqj y):=jxs y
theorem jfM (y m:Int):jf7 y m=some (dim y m):=by
 by_cases h:m<1∨12<m
 ·have hk:∀ k:Int,1≤k→k≤12→(m==k)=false:=fun k h1 h2=>j2c (by omega)
  have:dim y m=0:=if_pos h
  rw [this]
  simp only [jf7,hk 1 (by omega) (by omega),hk 2 (by omega) (by omega),hk 3 (by omega) (by omega),hk 4 (by omega) (by omega),hk 5 (by omega) (by omega),hk 6 (by omega) (by omega),hk 7 (by omega) (by omega),
   hk 8 (by omega) (by omega),hk 9 (by omega) (by omega),hk 10 (by omega) (by omega),hk 11 (by omega) (by omega),hk 12 (by omega) (by omega),j6]
 ·obtain rfl | rfl | rfl | rfl | rfl | rfl | rfl | rfl | rfl | rfl | rfl | rfl:m=1∨m=2∨m=3∨m=4∨m=5∨m=6∨m=7∨m=8∨m=9∨m=10∨m=11∨m=12:=by omega
  case inr.inl=>
   have e:jf7 y 2=(j1X y).bind fun r=>cond r (some (29:Int)) (some (28:Int)):=rfl
   rw [e,jtQ,dim,juJ]
   simp only [j3]
   cases jqj y<;>rfl
  all_goals rfl
theorem jsl (y m d:Int):jjv (y,m,d)=some (decide (jqn y m d)):=by
 simp only [jjv,jfM,j3]
 by_cases hv:jqn y m d
 ·have hm:=jiS hv
  have hv':=hv
  obtain ⟨a1,a2,a3,a4⟩:=hv
  rw [j01 (show y≥1970 from a1),j01 a2,j01 (show m≥1 from hm.1),j01 hm.2,j01 (show d≥1 from a3),j01 a4,j01 hv'];rfl
 ·rw [j00 hv]
  by_cases a1:y≥1970
  ·by_cases a2:y≤2240
   ·by_cases a3:m≥1
    ·by_cases a4:m≤12
     ·by_cases a5:d≥1
      ·rw [j01 a1,j01 a2,j01 a3,j01 a4,j01 a5,j00 (show ¬ d≤dim y m from fun h=>hv ⟨a1,a2,a5,h⟩)];rfl
      ·rw [j01 a1,j01 a2,j01 a3,j01 a4,j00 a5];rfl
     ·rw [j01 a1,j01 a2,j01 a3,j00 a4];rfl
    ·rw [j01 a1,j01 a2,j00 a3];rfl
   ·rw [j01 a1,j00 a2];rfl
  ·rw [j00 a1];rfl
theorem jtR (y:Int) (h1:1969≤y) (h2:y≤1000000000):jjw y=some (cnt y):=by
 simp only [jjw]
 rw [j02 (x:=y-1970) (by omega) (by omega),j02 (x:=y-1969) (by omega) (by omega),j02 (x:=y-1901) (by omega) (by omega),j02 (x:=y-1601) (by omega) (by omega)]
 rw [jfE (show 0≤y-1969 by omega),jfE (show 0≤y-1901 by omega),jfE (show 0≤y-1601 by omega)]
 simp (disch:=omega) only [j02]
 congr 1
 unfold cnt
 omega
theorem jp3 (y m d:Int) (hm:m≤13):∀ (n:Nat) (s k:Int),1≤k→k+n=m → -1000000000000≤s→s+31*n≤1000000000000→jhw s k y m d=some (s+cum y m-cum y k,y,m,d)
 | 0,s,k,hk,hn,_,_=>by
  rw [jjx]
  have:k=m:=by omega
  subst this
  simp only [j7q,j00 (show ¬ k<k by omega),j6,j08]
  congr 2;omega
 | n+1,s,k,hk,hn,h1,h2=>by
  rw [jjx]
  have hd:=j7E y k
  have hc:=jql y k hk (by omega)
  simp only [j7q,jfM,j3,j01 (show k<m by omega),j5,j05]
  rw [j02 (x:=s+dim y k) (by omega) (by omega),j02 (x:=k+1) (by omega) (by omega)]
  rw [jp3 y m d hm n (s+dim y k) (k+1) (by omega) (by omega) (by omega) (by omega)]
  congr 2;omega
theorem r01_Day_ok {y m d:Int} (hv:jqn y m d):jpG (y,m,d)=some (num y m d,0):=by
 have hm:=jiS hv
 have hd:=j7E y m
 have hb : -1000000000≤cnt y∧cnt y≤1000000000:=by have:=hv.1;have:=hv.2.1;unfold cnt;omega
 have hc:=jsg y m
 obtain ⟨h1,h2,h3,h4⟩:=id hv
 simp only [jpG,jsl,j01 hv,j3,jj,j6,jtR y (by omega) (by omega),jp3 y m d (by omega) (m-1).toNat (cnt y) 1 (by omega) (by omega) (by omega) (by omega)]
 have:cum y 1=0:=rfl
 rw [j02 (x:=cnt y+cum y m-cum y 1+d) (by omega) (by omega),j02 (by omega) (by omega)]
 unfold num
 congr 2;omega
theorem ji6 (d:Int):jf8 d=j6h d:=rfl
theorem jnJ (y m k w n e:Int) (hn0:0≤n) (hn1:n≤1000000) (he6:e≤6) (hew:(n+e+3)%7=w) :
  ∀ (j:Nat) (s:Int),0≤s→s+j=e→jhx y m k w n (n+s)=some (y,m,k,n,n+e)
 | 0,s,hs,hj=>by
  rw [jjy]
  have:s=e:=by omega
  subst this
  have hb:((n+s+3)%7 != w)=false:=by simp [hew]
  simp only [j7r,ji6,jhD (n+s) (by omega),j3,hb,j6,j08]
 | j+1,s,hs,hj=>by
  rw [jjy]
  have hb:((n+s+3)%7 != w)=true:=by
   simp only [bne_iff_ne,ne_eq];omega
  simp only [j7r,ji6,jhD (n+s) (by omega),j3,hb,j5,j05]
  rw [j02 (x:=n+s+1) (by omega) (by omega),show n+s+1=n+(s+1) by omega]
  exact jnJ y m k w n e hn0 hn1 he6 hew j (s+1) (by omega) (by omega)
theorem jj5 (y m n t:Int) (hn0:0≤n) (hn1:n≤1000000) (ht1:t<n+dim y m) (ht2:n+dim y m≤t+7) (ht0 : -1000≤t) :
  ∀ (j:Nat) (s:Int),s+7*j=t → -1000≤s→jhy y m n s=some t
 | 0,s,hs,_=>by
  have hd:=j7E y m
  rw [jjz]
  have:s=t:=by omega
  subst this
  simp only [j7s,jfM,j3]
  rw [j02 (x:=s+7) (by omega) (by omega),j02 (x:=n+dim y m) (by omega) (by omega),j00 (show ¬ s+7<n+dim y m by omega),j6,j08]
 | j+1,s,hs,h1=>by
  have hd:=j7E y m
  rw [jjz]
  simp only [j7s,jfM,j3]
  rw [j02 (x:=s+7) (by omega) (by omega),j02 (x:=n+dim y m) (by omega) (by omega),j01 (show s+7<n+dim y m by omega),j5,j05]
  exact jj5 y m n t hn0 hn1 ht1 ht2 ht0 j (s+7) (by omega) (by omega)
theorem r01_Nth_ok (y m k w:Int) (h1:1970≤y) (h2:y≤2240) (hm1:1≤m) (hm2:m≤12) (hk1:1≤k) (hk2:k≤5) (hw1:0≤w) (hw2:w≤6):jpH y m k w=some (nth y m k w,0):=by
 have hv:=jeI y m h1 h2 hm1 hm2
 have hr:=jh7 hv
 have hd:=jny y m hm1 hm2
 have hd2:=j7E y m
 simp only [jpH,r01_Day_ok hv,j3,jd]
 rw [j00 (show ¬ k<1 by omega),j00 (show ¬ k>5 by omega),j00 (show ¬ w<0 by omega),j00 (show ¬ w>6 by omega)]
 simp only [j6]
 unfold nth
 generalize num y m 1=n at *
 obtain ⟨e,he0,he6,hew,hee⟩:∃ e,0≤e∧e≤6∧(n+e+3)%7=w∧n+(w-(n+3)%7+7)%7=n+e:=⟨(w-(n+3)%7+7)%7,by omega,by omega,by omega,rfl⟩
 rw [hee]
 have hl:=jnJ y m k w n e hr.1 (by omega) he6 hew e.toNat 0 (by omega) (by omega)
 rw [Int.add_zero] at hl
 simp only [hl,j3]
 by_cases hk:k<5
 ·rw [j01 hk,j5,j02 (x:=k-1) (by omega) (by omega),j02 (x:=7*(k-1)) (by omega) (by omega),j02 (by omega) (by omega),if_neg (by omega)]
 ·have hk5:k=5:=by omega
  subst hk5
  rw [j00 hk,j6]
  by_cases hc:n+e+7*(5-1)≥n+dim y m
  ·rw [jj5 y m n (n+e+21) hr.1 (by omega) (by omega) (by omega) (by omega) 3 (n+e) (by omega) (by omega),if_pos hc]
   simp only [j3]
   congr 2;omega
  ·rw [jj5 y m n (n+e+28) hr.1 (by omega) (by omega) (by omega) (by omega) 4 (n+e) (by omega) (by omega),if_neg hc]
   simp only [j3]
   congr 2
theorem jdb {n lo hi:Int} (h1:lo≤n) (h2:n≤hi):ja0 n lo hi=some true:=by
 simp only [ja0]
 rw [j01 (show n≥lo from h1),j01 h2];rfl
theorem jCl {n lo hi:Int} (h:¬ (lo≤n∧n≤hi)):ja0 n lo hi=some false:=by
 simp only [ja0]
 by_cases h1:n≥lo
 ·rw [j01 h1,j00 (fun h2=>h ⟨h1,h2⟩)];rfl
 ·rw [j00 h1];rfl
theorem jvN {r:Rule} (h:ROk r):jgC r=some true:=by
 simp only [jgC,jdb h.y0 (show r.1≤2240 by have:=h.y1;have:=h.y2;omega),jdb h.y1 h.y2,jdb h.m0 h.m1,jdb h.k0 h.k1,jdb h.d0 h.d1,jdb h.s0 h.s1,jdb h.o0 h.o1,j3,j5]
theorem jlp (x:Int×Int):∀ l:TrL,ja3 x l=l.takeWhile (fun y=>decide (x.1<y.1))++x::l.dropWhile (fun y=>decide (x.1<y.1))
 | []=>rfl
 | y::ys=>by
  unfold ja3
  by_cases h:x.1<y.1
  ·rw [if_pos h,jlp x ys];simp [h]
  ·rw [if_neg h];simp [h]
theorem jCm {rs:List Rule} {i y a b:Int}:∀ (rp mid:TrL),rp.length+mid.length≤100000→
  j5i rs i y (rp.length:Int) a b (rp.reverse++mid)=some (rs,i,y,((rp.dropWhile (fun z=>decide (a<z.1))).length:Int),a,b,rp.reverse++mid)
 | [],mid,_=>by
  rw [jaW]
  simp only [j3i]
  rw [j00 (by simp),j6,j08]
  rfl
 | z::zs,mid,hl=>by
  have hL:((z::zs).reverse++mid).length=zs.length+1+mid.length:=by simp;omega
  simp only [jp] at hl
  have g2:((z::zs).reverse++mid).getD ((((zs.length+1:Nat):Int)-1).toNat) ((0:Int),(0:Int))=z:=by
   rw [show (((zs.length+1:Nat):Int)-1).toNat=zs.length by omega]
   simp
  rw [jaW]
  simp only [j3i,jp]
  simp only [j02 (x:=((zs.length+1:Nat):Int)-1) (by omega) (by omega),g2]
  rw [j01 (show ((zs.length+1:Nat):Int)>0 by omega),j0s (by omega) (by rw [hL];omega)]
  simp only [j5]
  by_cases hc:a<z.1
  ·rw [j01 (show z.1>a from hc)]
   simp only [j5,j05]
   have ih:=jCm (rs:=rs) (i:=i) (y:=y) (a:=a) (b:=b) zs (z::mid) (by simp;omega)
   have e:(z::zs).reverse++mid=zs.reverse++z::mid:=by simp
   rw [e,show ((zs.length+1:Nat):Int)-1=(zs.length:Int) by omega,ih]
   simp [hc]
  ·rw [j00 (show ¬ z.1>a from hc)]
   simp only [j6,j08]
   simp [hc]
theorem jzj (l:TrL) (x:Int×Int) {k:Nat} (hk:k≤l.length):List.set (over (l++[x]) (k+1) (List.drop k (l++[x]))) k x=l.take k++x::l.drop k:=by
 have h1:(l++[x]).length=l.length+1:=by simp
 unfold over
 rw [h1,jc (show (l++[x]).length≤k+1+(List.drop k (l++[x])).length by simp;omega),qo]
 have e1:List.drop k (l++[x])=List.drop k l++[x]:=by rw [List.drop_append_of_le_length hk]
 rw [e1]
 have e2:List.take (l.length+1-(k+1)) (List.drop k l++[x])=List.drop k l:=by
  rw [qs (by simp),List.take_of_length_le (by simp)]
 rw [e2]
 by_cases h:k<l.length
 ·have e3:List.take (k+1) (l++[x])=l.take k++[l[k]]:=by
   rw [qs (by omega),List.take_succ_eq_append_getElem h]
  rw [e3,jk,zv _ _ (by simp;omega)]
  simp [Nat.min_eq_left hk]
 ·have hk':k=l.length:=by omega
  subst hk'
  have e3:List.take (l.length+1) (l++[x])=l++[x]:=List.take_of_length_le (by simp)
  rw [e3]
  simp
theorem jCn {rs:List Rule} {i:Nat} (hi:i<rs.length) {r:Rule} (hr:rs[i]=r) (h:ROk r):∀ (n j:Nat) (acc:TrL),r.1+(j:Int)+n=r.2.1+1→acc.length+n≤90000→
  j78 rs (i:Int) (r.1+(j:Int)) acc.reverse=some (rs,(i:Int),(j48 ((List.range n).map fun (q:Nat)=>occ r (r.1+(j:Int)+(q:Int))) acc).reverse)
 | 0,j,acc,hj,_=>by
  have hg:rs.getD i ((0:Int),((0:Int),((0:Int),((0:Int),((0:Int),((0:Int),(0:Int)))))))=r:=by simp [hi,hr]
  rw [jaX]
  simp only [j3j]
  rw [j0s (by omega) (by omega)]
  simp only [j5,j7,hg]
  rw [j00 (by omega),j6,j08]
  rfl
 | n+1,j,acc,hj,hl=>by
  have hg:rs.getD i ((0:Int),((0:Int),((0:Int),((0:Int),((0:Int),((0:Int),(0:Int)))))))=r:=by simp [hi,hr]
  have h0:=h.y0;have h2:=h.y2;have hs0:=h.s0;have hs1:=h.s1
  have hv:=jh7 (jeI (r.1+(j:Int)) r.2.2.1 (by omega) (by omega) h.m0 h.m1)
  have hn:=jnH (w:=r.2.2.2.2.1) (y:=r.1+(j:Int)) (by omega) (by omega) h.m0 h.m1 h.k0 h.k1
  have hd:=j7E (r.1+(j:Int)) r.2.2.1
  rw [jaX]
  simp only [j3j]
  rw [j0s (by omega) (by omega)]
  simp only [j5,j7,hg]
  rw [j01 (show r.1+(j:Int)≤r.2.1 by omega),r01_Nth_ok _ _ _ _ (by omega) (by omega) h.m0 h.m1 h.k0 h.k1 h.d0 h.d1]
  simp only [j5,j3]
  rw [j02 (x:=nth (r.1+(j:Int)) r.2.2.1 r.2.2.2.1 r.2.2.2.2.1*86400) (by omega) (by omega),j02 (x:=nth (r.1+(j:Int)) r.2.2.1 r.2.2.2.1 r.2.2.2.2.1*86400+r.2.2.2.2.2.1) (by omega) (by omega)]
  have hl4:=jCm (rs:=rs) (i:=(i:Int)) (y:=r.1+(j:Int)) (a:=(occ r (r.1+(j:Int))).1) (b:=(occ r (r.1+(j:Int))).2) acc [] (by simp;omega)
  rw [qo] at hl4
  rw [show Int.ofNat (List.length acc.reverse)=(acc.length:Int) by simp]
  rw [show j5i rs (i:Int) (r.1+(j:Int)) (acc.length:Int) (nth (r.1+(j:Int)) r.2.2.1 r.2.2.2.1 r.2.2.2.2.1*86400+r.2.2.2.2.2.1) r.2.2.2.2.2.2 acc.reverse=_ from hl4]
  simp only [j3]
  generalize hx:occ r (r.1+(j:Int))=x at *
  have hdl:(acc.dropWhile (fun z=>decide (x.1<z.1))).length≤acc.length:=(List.dropWhile_sublist _).length_le
  generalize hD:acc.dropWhile (fun z=>decide (x.1<z.1))=D at *
  have hlen1:(acc.reverse++[(x.1,x.2)]).length=acc.length+1:=by simp
  rw [j01 (by simp [j07];omega)]
  simp only [j5]
  rw [j02 (x:=(D.length:Int)+1) (by omega) (by omega),j01 (show (0:Int)≤(D.length:Int)+1 by omega),j01 (show (D.length:Int)+1≤Int.ofNat (acc.reverse++[(x.1,x.2)]).length by rw [hlen1];show (D.length:Int)+1≤((acc.length+1:Nat):Int);omega),
   j01 (show (0:Int)≤(D.length:Int) by omega),j01 (show (D.length:Int)≤Int.ofNat (acc.reverse++[(x.1,x.2)]).length by rw [hlen1];show (D.length:Int)≤((acc.length+1:Nat):Int);omega)]
  simp only [Bool.and_self,j5,j7,show ((D.length:Int)+1).toNat=D.length+1 by omega]
  have hov:(over (acc.reverse++[(x.1,x.2)]) (D.length+1) (List.drop D.length (acc.reverse++[(x.1,x.2)]))).length=acc.length+1:=by
   unfold over
   simp
   omega
  rw [j0s (by omega) (by rw [hov];omega),jzj acc.reverse (x.1,x.2) (by simpa using hdl)]
  simp only [j5]
  rw [j02 (x:=r.1+(j:Int)+1) (by omega) (by omega),j05]
  have hins:acc.reverse.take D.length++(x.1,x.2)::acc.reverse.drop D.length=(ja3 x acc).reverse:=by
   have hsp:=List.takeWhile_append_dropWhile (p:=fun z:Int×Int=>decide (x.1<z.1)) (l:=acc)
   rw [jlp,hD]
   rw [hD] at hsp
   generalize acc.takeWhile (fun z=>decide (x.1<z.1))=T at hsp ⊢
   rw [←hsp]
   simp
  rw [hins]
  have ih:=jCn hi hr h n (j+1) (ja3 x acc) (by omega) (by rw [jeH];omega)
  rw [show r.1+(j:Int)+1=r.1+((j+1:Nat):Int) by omega]
  refine ih.trans ?_
  have hmap:(List.range n).map (fun (q:Nat)=>occ r (r.1+((j+1:Nat):Int)+(q:Int)))=(List.range n).map ((fun (q:Nat)=>occ r (r.1+(j:Int)+(q:Int))) ∘ Nat.succ):=List.map_congr_left fun q _=>by
   simp only [Function.comp]
   congr 1
   omega
  rw [List.range_succ_eq_map,kj,List.map_map,hmap]
  simp [j48,hx]
theorem jlq:∀ (a b acc:TrL),j48 (a++b) acc=j48 b (j48 a acc)
 | [],_,_=>rfl
 | x::a,b,acc=>by simp only [List.cons_append,j48];exact jlq a b _
theorem jCo {rs:List Rule} (h:∀ r∈rs,ROk r) (hlen:rs.length≤100):∀ (n i:Nat) (acc:TrL),i+n=rs.length→acc.length≤300*i→
  j5j rs (i:Int) acc.reverse=some (j48 (occs (rs.drop i)) acc).reverse
 | 0,i,acc,hi,_=>by
  rw [jaY]
  simp only [j3k,show Int.ofNat (List.length rs)=(rs.length:Int) from rfl]
  rw [j00 (by omega),j6,j08,jc (by omega)]
  rfl
 | n+1,i,acc,hi,hl=>by
  have hlt:i<rs.length:=by omega
  have hr:=h rs[i] (jg hlt)
  have h0:=hr.y0;have h1:=hr.y1;have h2:=hr.y2
  have hg:rs.getD i ((0:Int),((0:Int),((0:Int),((0:Int),((0:Int),((0:Int),(0:Int)))))))=rs[i]:=by simp [hlt]
  have hl2:=jCn hlt rfl hr (rs[i].2.1-rs[i].1+1).toNat 0 acc (by omega) (by omega)
  rw [show rs[i].1+((0:Nat):Int)=rs[i].1 by omega] at hl2
  have ih:=jCo h hlen n (i+1) (j48 (occR rs[i]) acc) (by omega) (by rw [jba];simp [occR];omega)
  rw [jaY]
  simp only [j3k,show Int.ofNat (List.length rs)=(rs.length:Int) from rfl]
  rw [j01 (show (i:Int)<(rs.length:Int) by omega),j0s (by omega) (by omega)]
  simp only [j5,j7,hg,hl2,j3]
  rw [j02 (by omega) (by omega),j05,jb hlt]
  refine ih.trans ?_
  show _=some (j48 (occR rs[i]++occs (rs.drop (i+1))) acc).reverse
  rw [jlq]
theorem jzk {rs:List Rule} (h:∀ r∈rs,ROk r) (hlen:rs.length≤100):j9i rs=some (j6t (occs rs)):=by
 have e:=jCo h hlen rs.length 0 [] (by omega) (by simp)
 simp only [j9i]
 rw [show j5j rs 0 []=_ from e]
 rfl
theorem jA1 {rs:List Rule} (h:∀ r∈rs,ROk r) (hlen:rs.length≤100) (nm:ByteArray) (o:Int):∀ (n i:Nat) (s:Int),i+n=rs.length→0≤s→s≤300*i→
  j5k s (i:Int) nm o rs=some (.inr (s+((occs (rs.drop i)).length:Int),nm,o,rs))
 | 0,i,s,hi,_,_=>by
  rw [jaZ]
  simp only [j3l,show Int.ofNat (List.length rs)=(rs.length:Int) from rfl]
  rw [j00 (by omega),j6,j08,jc (by omega)]
  simp [occs]
 | n+1,i,s,hi,hs0,hs1=>by
  have hlt:i<rs.length:=by omega
  have hr:=h rs[i] (jg hlt)
  have h0:=hr.y0;have h1:=hr.y1;have h2:=hr.y2
  have hg:rs.getD i ((0:Int),((0:Int),((0:Int),((0:Int),((0:Int),((0:Int),(0:Int)))))))=rs[i]:=by simp [hlt]
  have ih:=jA1 h hlen nm o n (i+1) (s+(rs[i].2.1-rs[i].1+1)) (by omega) (by omega) (by omega)
  have hrule:jgC (rs[i].1,(rs[i].2.1,(rs[i].2.2.1,(rs[i].2.2.2.1,(rs[i].2.2.2.2.1,(rs[i].2.2.2.2.2.1,rs[i].2.2.2.2.2.2))))))=some true:=jvN hr
  rw [jaZ]
  simp only [j3l,show Int.ofNat (List.length rs)=(rs.length:Int) from rfl]
  rw [j01 (show (i:Int)<(rs.length:Int) by omega),j0s (by omega) (by omega)]
  simp only [j5,j7,hg,hrule,j3,jj,j6]
  rw [j02 (x:=rs[i].2.1-rs[i].1) (by omega) (by omega),j02 (x:=rs[i].2.1-rs[i].1+1) (by omega) (by omega),j02 (x:=s+(rs[i].2.1-rs[i].1+1)) (by omega) (by omega),j02 (x:=(i:Int)+1) (by omega) (by omega),j05]
  refine ih.trans ?_
  rw [jb hlt]
  have:((occs (rs[i]::rs.drop (i+1))).length:Int)=(rs[i].2.1-rs[i].1+1)+((occs (rs.drop (i+1))).length:Int):=by
   have e1:(occR rs[i]).length=(rs[i].2.1-rs[i].1+1).toNat:=by simp [occR]
   show ((occR rs[i]++occs (rs.drop (i+1))).length:Int)=_
   rw [jh,e1];omega
  rw [this]
  congr 3;omega
theorem jB9 (L:TrL) (hL:L.length≤1000):∀ (n i:Nat) (now:Int) (acc:TrL),i+n=L.length → -64800≤now→now≤64800→acc.length≤i→(∀ x∈acc,0≤x.1∧x.1≤8589934592)→Good now (acc.getLast?.map (·.1)) (L.drop i)→
  j5l now (i:Int) acc L=some (.inr (acc++outT now (L.drop i)))
 | 0,i,now,acc,hi,_,_,_,_,_=>by
  rw [jb0]
  simp only [j3m,show Int.ofNat (List.length L)=(L.length:Int) from rfl]
  rw [j00 (by omega),j6,j08,jc (by omega)]
  simp [outT]
 | n+1,i,now,acc,hi,hn0,hn1,hal,hacc,hg=>by
  have hlt:i<L.length:=by omega
  rw [jb hlt] at hg ⊢
  have hgd:L.getD i ((0:Int),(0:Int))=L[i]:=by simp [hlt]
  rw [jb0]
  simp only [j3m,show Int.ofNat (List.length L)=(L.length:Int) from rfl]
  rw [j01 (show (i:Int)<(L.length:Int) by omega),j0s (by omega) (by omega)]
  simp only [j5,j7,hgd]
  generalize L[i]=x at *
  rw [j02 (x:=(i:Int)+1) (by omega) (by omega)]
  simp only [Good] at hg
  by_cases hx:x.2=now
  ·rw [if_pos hx] at hg
   rw [j4Q hx]
   simp only [j5,j05,outT]
   rw [if_pos hx]
   exact jB9 L hL n (i+1) now acc (by omega) hn0 hn1 (by omega) hacc hg
  ·rw [if_neg hx] at hg
   obtain ⟨⟨g1,g2,g3,g4,g5,g6,g7⟩,g8⟩:=hg
   rw [j2c hx,j02 (x:=x.1-now) (by omega) (by omega),j02 (x:=x.2-now) (by omega) (by omega)]
   simp only [j6,jdb (show (-86399:Int)≤x.2-now by omega) (show x.2-now≤86399 by omega),jdb (show (0:Int)≤x.1-now by omega) (show x.1-now≤8589934592 by omega),j3,jj,show Int.ofNat (List.length acc)=(acc.length:Int) from rfl]
   have hnext:=jB9 L hL n (i+1) x.2 (acc++[(x.1-now,x.2)]) (by omega) g6 g7 (by simp;omega)
    (fun y hy=>by
     rcases jq.1 hy with hy | hy
     ·exact hacc y hy
     ·simp at hy;subst hy;exact ⟨by show (0:Int)≤x.1-now;omega,by show x.1-now≤8589934592;omega⟩) (by simpa using g8)
   have hout:outT now (x::L.drop (i+1))=(x.1-now,x.2)::outT x.2 (L.drop (i+1)):=by simp [outT,hx]
   rw [hout]
   rw [jk] at hnext
   rw [j02 (x:=(acc.length:Int)-1) (by omega) (by omega)]
   by_cases ha:acc=[]
   ·subst ha
    simp only [v6]
    rw [show decide (((0:Nat):Int)>0)=false from rfl]
    simp only [j6]
    rw [j01 (by simp [j07])]
    simp only [j5,j05]
    exact hnext
   ·have hpos:0<acc.length:=List.length_pos_iff.2 ha
    have hlast:acc.getLast? = some (acc.getD (acc.length-1) (0,0)):=by
     rw [List.getLast?_eq_getElem?,List.getD_eq_getElem?_getD,ji (show acc.length-1<acc.length by omega)];rfl
    rw [hlast] at g5
    have g5:(acc.getD (acc.length-1) ((0:Int),(0:Int))).1+604800≤x.1-now:=g5 _ rfl
    have hb:=hacc (acc.getD (acc.length-1) (0,0)) (List.mem_of_getLast? hlast)
    rw [j0s (by omega) (by omega),j01 (show (acc.length:Int)>0 by omega),show ((acc.length:Int)-1).toNat=acc.length-1 by omega]
    simp only [j5]
    rw [j02 (by omega) (by omega),j00 (show ¬ x.1-now-(acc.getD (acc.length-1) ((0:Int),(0:Int))).1<604800 by omega),j01 (by simp [j07];omega)]
    simp only [j5,j6,j05]
    exact hnext
theorem jDo {nm:ByteArray} {o:Int} {rs:List Rule} (h:∀ r∈rs,ROk r) (ho0 : -64800≤o) (ho1:o≤64800) (hlen:rs.length≤16) (hn:(occs rs).length≤640) (hg:Good o none (j6t (occs rs))) :
  j1H (nm,(o,rs))=some (outT o (j6t (occs rs)),0):=by
 have hl:(j6t (occs rs)).length≤1000:=by simp [j6t,jba];omega
 have e0:=jA1 h (by omega) nm o rs.length 0 0 (by omega) (by omega) (by omega)
 rw [jy] at e0
 have e2:=jB9 (j6t (occs rs)) hl (j6t (occs rs)).length 0 o [] (by omega) ho0 ho1 (by simp) (by simp) hg
 rw [jy] at e2
 simp only [j1H,jdb ho0 ho1,j3,jj,j6,show Int.ofNat (List.length rs)=(rs.length:Int) from rfl]
 rw [j00 (show ¬ (rs.length:Int)>16 by omega),j6,show j5k 0 0 nm o rs=_ from e0]
 simp only [j3,j4S]
 rw [j00 (by omega),j6,jzk h (by omega)]
 simp only [j3]
 rw [show j5l o 0 [] (j6t (occs rs))=_ from e2]
 rfl
def Z4 (z:ByteArray×(Int×List Rule)) (l:TrL):Prop:=j1H z=some (l,0)∧TOk z.2.1 l
theorem MZ.r4 {o:Int} {rs:List Rule} (h:MZ o rs) (nm:ByteArray):Z4 (nm,(o,rs)) (outT o (j6t (occs rs))):=by
 have ht:=h.tab nm
 refine ⟨jDo h.ok (by have:=h.o0;omega) (by have:=h.o1;omega) ?_ ?_ h.good,ht.2⟩
 ·have:=h.len;omega
 ·have:=h.few;omega
end Go.Proofs.Pw
