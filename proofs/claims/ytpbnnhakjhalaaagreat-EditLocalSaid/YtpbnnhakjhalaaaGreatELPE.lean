/- The layers, edits and configurations that the dice make are right. -/
import Derived.Test.YtpbnnhakjhalaaaGreatELPD
import Derived.Test.YtpbnnhakjhalaaaGreatELPC
import Derived.Test.YtpbnnhakjhalaaaGreatELPA
open Go Go.Lft
namespace Go.Proofs.Pw
theorem jsj {L:List Int} {zs:List j1T} {ps:List j12} {cs:List CalT} {ss:List j2E} (hp0:1≤ps.length) (hp1:ps.length≤100) {x0 y0:ByteArray} {x1 x2 x3 x4 x5 x6 x7 y1 y2 y3 y4 y5 y6 y7:Int}:∀ (n:Nat) (a:Int) (ms:List Int),DOk L a→ms.length+n≤4→(∀ m∈ms,0≤m∧m<(ps.length:Int))→
  ∃ ms' a',j3N (n:Int) L a zs ps cs ss x0 x1 x2 x3 x4 x5 x6 x7 y0 y1 y2 y3 y4 y5 y6 y7 ms=some (L,a',zs,ps,cs,ss,x0,x1,x2,x3,x4,x5,x6,x7,y0,y1,y2,y3,y4,y5,y6,y7,ms')∧ms'.length=ms.length+n∧(∀ m∈ms',0≤m∧m<(ps.length:Int))∧DOk L a'
 | 0,a,ms,hd,_,hm=>by
  rw [j88]
  simp only [j2w]
  rw [j00 (by omega),j6,j0j]
  exact ⟨ms,a,rfl,rfl,hm,hd⟩
 | n+1,a,ms,hd,hl,hm=>by
  obtain ⟨x,a1,e1,x0',x1',d1⟩:=j0I (n:=(ps.length:Int)) hd (by omega) (by omega)
  rw [j88]
  simp only [j2w,show Int.ofNat (List.length ps)=(ps.length:Int) from rfl]
  rw [j01 (by omega),j02 (x:=((n+1:Nat):Int)-1) (by omega) (by omega),show ((n+1:Nat):Int)-1=(n:Int) by omega]
  simp only [j5,e1,j3]
  rw [j01 (by simp [j0m];omega)]
  simp only [j5,j0b]
  obtain ⟨ms',a',e,h1,h2,h3⟩:=jsj (zs:=zs) (cs:=cs) (ss:=ss) hp0 hp1 (x0:=x0) (x1:=x1) (x2:=x2) (x3:=x3) (x4:=x4) (x5:=x5) (x6:=x6) (x7:=x7) (y0:=y0) (y1:=y1) (y2:=y2) (y3:=y3) (y4:=y4) (y5:=y5) (y6:=y6) (y7:=y7) n a1 (ms++[x]) d1 (by simp;omega) (fun m h=>by
   rcases jp.1 h with h | h
   ·exact hm m h
   ·simp at h;subst h;exact ⟨x0',x1'⟩)
  exact ⟨ms',a',e,by rw [h1];simp;omega,h2,h3⟩
theorem jpM {L:List Int} {a:Int} (h:DOk L a) {zs:List j1T} {ps:List j12} {cs:List CalT} {ss:List j2E} (hs:SOk zs ps cs) (nm:ByteArray) :
  ∃ l a',j6Z L a (zs,(ps,(cs,ss))) nm=some (l,L,a')∧LOk l∧LCk zs.length ps.length cs.length l∧l.1=nm∧DOk L a':=by
 have hz0:=hs.z0;have hz1:=hs.z1;have hp0:=hs.p0;have hp1:=hs.p1;have hc1:=hs.c1
 obtain ⟨z,a1,e1,z0,z1,d1⟩:=j0I (n:=(zs.length:Int)) h (by omega) (by omega)
 obtain ⟨x,a2,e2,x0,x1,d2⟩:=j0I (n:=6) d1 (by omega) (by omega)
 obtain ⟨s,a3,e3,m3,d3⟩:=j6E d2 (xs:=[(0:Int),(32400:Int),(7200:Int),(9000:Int),(79200:Int),(1:Int)]) (by simp) (by simp)
 obtain ⟨u,a4,e4,u0,u1,d4⟩:=j0I (n:=3) d3 (by omega) (by omega)
 obtain ⟨v,a5,e5,v0,v1,d5⟩:=j0I (n:=2) d4 (by omega) (by omega)
 have hs':0≤s∧s≤79200:=by simp at m3;omega
 simp only [j6Z,show Int.ofNat (List.length zs)=(zs.length:Int) from rfl,e1,e2,e3,e4,e5,j3]
 rw [j02 (x:=20454+x) (by omega) (by omega),j02 (x:=20454+x-2) (by omega) (by omega),j02 (x:=1+v) (by omega) (by omega)]
 have fin:∀ (ev:Int),1≤ev→ev≤49→(u≠0→ev≤2)→(u=0→6≤ev)→∀ ms:List Int,1≤ms.length→ms.length≤3→(∀ m∈ms,0≤m∧m<(ps.length:Int))→∀ (w:WL),WOk 0 w→w.length≤3→∀ (c m:Int),0≤m→m≤2→(m≠0→0≤c∧c<(cs.length:Int))→(m=0→c=0)→∀ (a':Int),DOk L a'→
   ∃ l a'',some ((nm,(z,((20454+x-2,s),(u,(ev,(ms,(w,(c,m)))))))),L,a')=some (l,L,a'')∧LOk l∧LCk zs.length ps.length cs.length l∧l.1=nm∧DOk L a'':=
  fun ev h1 h2 h3 h36 ms h4 h5 hmem w hw hwl c m hm0 hm1 hmc hmz a' hd=>⟨_,_,rfl,⟨by dsimp only;omega,by dsimp only;omega,hs'.1,hs'.2,u0,by dsimp only;omega,h1,h2,h3,h4,h5⟩,
   ⟨z0,z1,by dsimp only;omega,jpJ (by dsimp only;omega) (by dsimp only;omega),hs'.1,by dsimp only;omega,u0,by dsimp only;omega,h1,by dsimp only;omega,by dsimp only;omega,by dsimp only;omega,hmem,hw,by dsimp only;omega,hm0,hm1,hmc,hmz,hwl,h36⟩,rfl,hd⟩
 have rest:∀ (ev:Int),1≤ev→ev≤49→(u≠0→ev≤2)→(u=0→6≤ev)→∀ (ms:List Int),1≤ms.length→ms.length≤3→(∀ m∈ms,0≤m∧m<(ps.length:Int))→∀ (w:WL),WOk 0 w→w.length≤3→∀ (a9:Int),DOk L a9→
   ∃ l a'',((j0U L a9 4).bind fun r=>cond (cond r.1 (decide ((cs.length:Int)>0)) false) ((j03 r.2.1 r.2.2 (cs.length:Int)).bind fun r70=>(j03 r70.2.1 r70.2.2 2).bind fun r72=>some ((nm,(z,((20454+x-2,s),(u,(ev,(ms,(w,(r70.1,w64 (1+r72.1))))))))),r72.2.1,r72.2.2))
    (some ((nm,(z,((20454+x-2,s),(u,(ev,(ms,(w,((0:Int),(0:Int))))))))),r.2.1,r.2.2)))=some (l,L,a'')∧LOk l∧LCk zs.length ps.length cs.length l∧l.1=nm∧DOk L a'':=by
  intro ev h1 h2 h3 h36 ms h4 h5 hmem w hw hwl a9 d9
  obtain ⟨c,a11,e11,d11⟩:=jfv (n:=4) d9 (by omega) (by omega)
  simp only [e11,j3]
  by_cases hcc:c=true∧(cs.length:Int)>0
  ·obtain ⟨i,a12,e12,i0,i1,d12⟩:=j0I (n:=(cs.length:Int)) d11 (by omega) (by omega)
   obtain ⟨j,a13,e13,j0,j1,d13⟩:=j0I (n:=2) d12 (by omega) (by omega)
   rw [hcc.1,j01 hcc.2]
   simp only [j5,e12,e13,j3,j02 (x:=1+j) (show -9223372036854775808≤_ by omega) (by omega)]
   exact fin ev h1 h2 h3 h36 ms h4 h5 hmem w hw hwl i (1+j) (by omega) (by omega) (fun _=>⟨i0,i1⟩) (fun hh=>by omega) _ d13
  ·have hc0:cond c (decide ((cs.length:Int)>0)) false=false:=by
    cases c with
    | true=>exact j00 (fun h=>hcc ⟨rfl,h⟩)
    | false=>rfl
   rw [hc0]
   simp only [j6]
   exact fin ev h1 h2 h3 h36 ms h4 h5 hmem w hw hwl 0 0 (by omega) (by omega) (fun hh=>absurd rfl hh) (fun _=>rfl) _ d11
 have nilW:WOk 0 ([]:WL):=show (0:Int)≤604800 by omega
 by_cases hu:u=0
 ·rw [j9D hu,j5]
  obtain ⟨ev,a6,e6,m6,d6⟩:=j6E d5 (xs:=[(6:Int),(8:Int),(12:Int),(24:Int),(23:Int),(49:Int)]) (by simp) (by simp)
  have hev:6≤ev∧ev≤49:=by simp at m6;omega
  obtain ⟨n,a7,e7,n0,n1,d7⟩:=j0I (n:=3) d6 (by omega) (by omega)
  obtain ⟨ms,a8,e8,l8,k8,d8⟩:=jsj (L:=L) (zs:=zs) (ps:=ps) (cs:=cs) (ss:=ss) hp0 (by omega) (x0:=ByteArray.empty) (x1:=0) (x2:=0) (x3:=0) (x4:=0) (x5:=0) (x6:=0) (x7:=0) (y0:=nm) (y1:=z) (y2:=20454+x-2) (y3:=s) (y4:=u) (y5:=ev) (y6:=0) (y7:=0) (1+n).toNat a7 [] d7 (by simp;omega) (by simp)
  rw [show (((1+n).toNat:Nat):Int)=1+n by omega] at e8
  simp at l8
  obtain ⟨b,a9,e9,d9⟩:=jfv (n:=2) d8 (by omega) (by omega)
  simp only [e6,e7,j3]
  rw [j02 (x:=1+n) (by omega) (by omega)]
  simp only [e8,e9,j3,show Int.ofNat (List.length cs)=(cs.length:Int) from rfl]
  cases b with
  | true=>
   obtain ⟨w,a10,e10,hw,hwl,d10⟩:=jfu d9
   simp only [j5,e10,j3]
   exact rest ev (by omega) hev.2 (fun h=>absurd hu h) (fun _=>hev.1) ms (by omega) (by omega) k8 w hw hwl a10 d10
  | false=>
   simp only [j6]
   exact rest ev (by omega) hev.2 (fun h=>absurd hu h) (fun _=>hev.1) ms (by omega) (by omega) k8 [] nilW (by simp) a9 d9
 ·rw [j4u hu,j6]
  obtain ⟨n,a7,e7,n0,n1,d7⟩:=j0I (n:=3) d5 (by omega) (by omega)
  obtain ⟨ms,a8,e8,l8,k8,d8⟩:=jsj (L:=L) (zs:=zs) (ps:=ps) (cs:=cs) (ss:=ss) hp0 (by omega) (x0:=ByteArray.empty) (x1:=0) (x2:=0) (x3:=0) (x4:=0) (x5:=0) (x6:=0) (x7:=0) (y0:=nm) (y1:=z) (y2:=20454+x-2) (y3:=s) (y4:=u) (y5:=1+v) (y6:=0) (y7:=0) (1+n).toNat a7 [] d7 (by simp;omega) (by simp)
  rw [show (((1+n).toNat:Nat):Int)=1+n by omega] at e8
  simp at l8
  obtain ⟨b,a9,e9,d9⟩:=jfv (n:=2) d8 (by omega) (by omega)
  simp only [e7,j3]
  rw [j02 (x:=1+n) (by omega) (by omega)]
  simp only [e8,e9,j3,show Int.ofNat (List.length cs)=(cs.length:Int) from rfl]
  cases b with
  | true=>
   obtain ⟨w,a10,e10,hw,hwl,d10⟩:=jfu d9
   simp only [j5,e10,j3]
   exact rest (1+v) (by omega) (by omega) (fun _=>by omega) (fun h=>absurd h hu) ms (by omega) (by omega) k8 w hw hwl a10 d10
  | false=>
   simp only [j6]
   exact rest (1+v) (by omega) (by omega) (fun _=>by omega) (fun h=>absurd h hu) ms (by omega) (by omega) k8 [] nilW (by simp) a9 d9
theorem jpN {L:List Int} {a:Int} (h:DOk L a) {zs:List j1T} {ps:List j12} {cs:List CalT} {ss:List j2E} (hp0:1≤ps.length) (hp1:ps.length≤4) :
  ∃ x a',j4Z L a (zs,(ps,(cs,ss)))=some (x,L,a')∧ECk ps.length x∧DOk L a':=by
 obtain ⟨k,a1,e1,k0,k1,d1⟩:=j0I (n:=3) h (by omega) (by omega)
 obtain ⟨p,a2,e2,p0,p1,d2⟩:=j0I (n:=(ps.length:Int)) d1 (by omega) (by omega)
 obtain ⟨t,a3,e3,t0,t1,d3⟩:=jb0 d2
 obtain ⟨y,a4,e4,m4,d4⟩:=j6E d3 (xs:=[(3600:Int),(86400:Int),(7:Int),(259200:Int),(40000:Int)]) (by simp) (by simp)
 have hy:7≤y∧y≤259200:=by simp at m4;omega
 have hday:j1e (Int.tdiv (t+y) 86400)=some true:=by
  rw [jcy (by omega)]
  exact jpJ (by omega) (by omega)
 simp only [j4Z,show Int.ofNat (List.length ps)=(ps.length:Int) from rfl,e1,e2,e3,e4,j3]
 rw [j02 (x:=t+y) (by omega) (by omega)]
 have fin:∀ (kd A B:Int),0≤kd→kd≤2→(0≤A∧A<(ps.length:Int)∨kd=1∧A = -1)→(kd=2→0≤B∧B<(ps.length:Int)∧A≠B)→(kd≠2→B=0)→∀ a',DOk L a'→∃ x a'',some ((kd,(A,(B,(t,t+y)))),L,a')=some (x,L,a'')∧ECk ps.length x∧DOk L a'':=
  fun kd A B h1 h2 h3 h4 h5 a' hd=>⟨_,_,rfl,⟨h1,h2,h3,h4,h5,by dsimp only;omega,by dsimp only;omega,by dsimp only;omega,hday⟩,hd⟩
 by_cases h2:k=2
 ·rw [j9D h2,j5]
  by_cases hn:(ps.length:Int)<2
  ·rw [j01 hn,j5]
   exact fin 0 p 0 (by omega) (by omega) (.inl ⟨p0,p1⟩) (fun hh=>by omega) (fun _=>rfl) _ d4
  ·rw [j00 hn,j6,j02 (x:=(ps.length:Int)-1) (by omega) (by omega)]
   obtain ⟨q,a5,e5,q0,q1,d5⟩:=j0I (n:=(ps.length:Int)-1) d4 (by omega) (by omega)
   simp only [e5,j3]
   rw [j02 (x:=p+1) (by omega) (by omega),j02 (x:=p+1+q) (by omega) (by omega),j4u (show ¬ (ps.length:Int)=0 by omega),j4u (show ¬ k=1 by omega),jmh (by omega)]
   simp only [kn,j5,j6]
   have b0:0≤(p+1+q)%(ps.length:Int):=Int.emod_nonneg _ (by omega)
   have b1:(p+1+q)%(ps.length:Int)<(ps.length:Int):=Int.emod_lt_of_pos _ (by omega)
   have hne:p≠(p+1+q)%(ps.length:Int):=by
    by_cases hb:p+1+q<(ps.length:Int)
    ·rw [Int.emod_eq_of_lt (by omega) hb];omega
    ·rw [←Int.sub_emod_right,Int.emod_eq_of_lt (by omega) (by omega)];omega
   exact fin k p _ k0 (by omega) (.inl ⟨p0,p1⟩) (fun _=>⟨b0,b1,hne⟩) (fun hh=>absurd h2 hh) _ d5
 ·rw [j4u h2,j6]
  by_cases h1:k=1
  ·rw [j9D h1,j5]
   obtain ⟨b,a5,e5,d5⟩:=jfv (n:=4) d4 (by omega) (by omega)
   simp only [e5,j3]
   cases b with
   | true=>exact fin k (-1) 0 k0 (by omega) (.inr ⟨h1,rfl⟩) (fun hh=>absurd hh h2) (fun _=>rfl) _ d5
   | false=>exact fin k p 0 k0 (by omega) (.inl ⟨p0,p1⟩) (fun hh=>absurd hh h2) (fun _=>rfl) _ d5
  ·rw [j4u h1,j6]
   exact fin k p 0 k0 (by omega) (.inl ⟨p0,p1⟩) (fun hh=>absurd hh h2) (fun _=>rfl) _ d4
theorem jtb {L:List Int} {s6:Int} {nm:ByteArray} {zs:List j1T} {ps:List j12} {cs:List CalT} {ss:List j2E} (hs:SOk zs ps cs):∀ (n:Nat) (a:Int) (ls:List j1b),DOk L a→ls.length+n≤3→(∀ x∈ls,LCk zs.length ps.length cs.length x)→ls.map (·.1)=nmsL.take ls.length→
  ∃ ls' a',j3t s6 (n:Int) L a zs ps cs nm ss ls=some (s6,L,a',zs,ps,cs,nm,ss,ls')∧ls'.length≤3∧(∀ x∈ls',LCk zs.length ps.length cs.length x)∧ls'.map (·.1)=nmsL.take ls'.length∧DOk L a'
 | 0,a,ls,hd,hl,hk,hn=>by
  rw [j7r]
  simp only [j2i]
  rw [j00 (by omega),j6,j0j]
  exact ⟨ls,a,rfl,by omega,hk,hn,hd⟩
 | n+1,a,ls,hd,hl,hk,hn=>by
  have hnm:ls.length<nmsL.length:=by show ls.length<8;omega
  obtain ⟨l,a1,e1,_,l2,l3,d1⟩:=jpM (ss:=ss) hd hs (nmsL.getD ls.length ByteArray.empty)
  rw [j7r]
  simp only [j2i,jna,j3,show Int.ofNat (List.length ls)=(ls.length:Int) from rfl]
  rw [j01 (by omega),j1M (show (0:Int)≤(ls.length:Int) by omega) (by omega),j02 (x:=((n+1:Nat):Int)-1) (by omega) (by omega),show ((n+1:Nat):Int)-1=(n:Int) by omega]
  simp only [j5,j7,e1,j3]
  rw [j01 (by simp [j0m];omega)]
  simp only [j5,j0b]
  exact jtb hs n a1 (ls++[l]) d1 (by simp;omega) (fun x hx=>by
   rcases jp.1 hx with h | h
   ·exact hk x h
   ·simp at h;subst h;exact l2) (by
   rw [qv,hn,ji,ku,List.map_nil,l3]
   exact jjY hnm)
theorem jtc {L:List Int} {s6:Int} {nm:ByteArray} {zs:List j1T} {ps:List j12} {cs:List CalT} {ss:List j2E} {ls:List j1b} (hs:SOk zs ps cs):∀ (n:Nat) (a:Int) (es:List j5P),DOk L a→es.length+n≤3→(∀ x∈es,ECk ps.length x)→
  ∃ es' a',j4E s6 (n:Int) L a zs ps cs nm ss ls es=some (s6,L,a',zs,ps,cs,nm,ss,ls,es')∧es'.length≤3∧(∀ x∈es',ECk ps.length x)∧DOk L a'
 | 0,a,es,hd,hl,hk=>by
  rw [j7s]
  simp only [j2j]
  rw [j00 (by omega),j6,j0j]
  exact ⟨es,a,rfl,by omega,hk,hd⟩
 | n+1,a,es,hd,hl,hk=>by
  obtain ⟨x,a1,e1,x1,d1⟩:=jpN (zs:=zs) (cs:=cs) (ss:=ss) hd hs.p0 hs.p1
  rw [j7s]
  simp only [j2j]
  rw [j01 (by omega),j02 (x:=((n+1:Nat):Int)-1) (by omega) (by omega),show ((n+1:Nat):Int)-1=(n:Int) by omega]
  simp only [j5,e1,j3]
  rw [j01 (by simp [j0m];omega)]
  simp only [j5,j0b]
  exact jtc hs n a1 (es++[x]) d1 (by simp;omega) (fun y hy=>by
   rcases jp.1 hy with h | h
   ·exact hk y h
   ·simp at h;subst h;exact x1)
theorem jtd {zs:List j1T} {ps:List j12} {cs:List CalT} {ss:List j2E} (hs:SOk2 zs ps cs) (h0:ss.length≤12) (h1:NmL (ss.map (·.1))) (h2:∀ s∈ss,SCk zs.length ps.length cs.length s):jbV (zs,(ps,(cs,ss))):=by
 have hz1:=hs.so.z1;have hp1:=hs.so.p1;have hc1:=hs.so.c1
 exact ⟨by dsimp only;rw [hs.z.nm];exact jsf.take _,hs.z.ck,by dsimp only;omega,by dsimp only;rw [hs.p.nm];exact jpI.take _,hs.p.ck,by dsimp only;omega,hs.c.nm,hs.c.ck,by dsimp only;omega,h1,h2,h0⟩
structure Fst (o:Int) (l:TrL) (s t:Int) (k:Nat):Prop where
 hk:k≤l.length
 hks:s-tof o l k<frm l (k+1)
 bef:∀ j,j<k→frm l (j+1)≤s-tof o l j
 ht:t=max (frm l k) (s-tof o l k)
def Dif (o:Int) (l:TrL):Prop:=∀ i,i<l.length → -86400<tof o l (i+1)-tof o l i∧tof o l (i+1)-tof o l i<86400
section
variable {o:Int} {l:TrL} (h:TOk o l)
include h
theorem Fst.piece {s t:Int} {k:Nat} (f:Fst o l s t k):frm l k≤t∧t<frm l (k+1)∧s≤t+tof o l k:=by
 have h1:=h.frm_lt f.hk
 have h2:=f.hks
 have h3:=f.ht
 omega
theorem Fst.up {s s' t t':Int} {k k':Nat} (hd:Dif o l) (hs:200000<s) (he:s+86400≤s') (f:Fst o l s t k) (g:Fst o l s' t' k'):t<t':=by
 obtain ⟨p1,p2,p3⟩:=f.piece h
 obtain ⟨q1,q2,q3⟩:=g.piece h
 have g1:=g.hks
 have g2:=g.ht
 have f2:=f.ht
 have hkN:=f.hk
 have hkN':=g.hk
 rcases zb k k' with hlt | heq | hgt
 ·have m1:=h.frm_le (i:=k+1) (j:=k') (by omega) (by omega)
  omega
 ·subst heq
  by_cases h0:k=0
  ·subst h0
   have e0:frm l 0=0:=frm0
   have o1:=h.of1 0 (by omega)
   omega
  ·obtain ⟨j,rfl⟩:∃ j,k=j+1:=⟨k-1,by omega⟩
   have b:=f.bef j (by omega)
   have d:=hd j (by omega)
   omega
 ·have:=f.bef k' hgt
  omega
end
noncomputable def fstI (o:Int) (l:TrL) (s:Int):Int:=open Classical in if h:∃ t k,Fst o l s t k then Classical.choose h else 0
def j7g (L:j1b):Int:=if L.2.2.2.1=2 then 7*L.2.2.2.2.1 else L.2.2.2.2.1
def sLoc (L:j1b) (k:Int):Int:=(L.2.2.1.1+k*j7g L)*86400+L.2.2.1.2
noncomputable def hov (o:Int) (l:TrL) (L:j1b) (k:Int):Int:=if L.2.2.2.1=0 then fstI o l (sLoc L 0)+3600*L.2.2.2.2.1*k else fstI o l (sLoc L k)
structure LR (L:j1b):Prop where
 d0:100≤L.2.2.1.1
 d1:L.2.2.1.1≤30000
 c0:0≤L.2.2.1.2
 c1:L.2.2.1.2≤86399
 u0:0≤L.2.2.2.1
 u1:L.2.2.2.1≤2
 e0:1≤L.2.2.2.2.1
 e1:L.2.2.2.2.1≤49
 m0:1≤L.2.2.2.2.2.1.length
 m1:L.2.2.2.2.2.1.length≤1000
theorem LOk.lr {L:j1b} (h:LOk L):LR L:=⟨by have:=h.d0;omega,by have:=h.d1;omega,h.c0,by have:=h.c1;omega,h.u0,h.u1,h.e0,h.e1,h.m0,by have:=h.m1;omega⟩
theorem LR.step {L:j1b} (h:LR L):1≤j7g L∧j7g L≤343:=by
 have:=h.e0;have:=h.e1
 unfold j7g;split<;>omega
section
variable {o:Int} {l:TrL} (h:TOk o l)
include h
end
theorem jmp (y:Int):j1t y=some (jjL y):=jpz y
theorem jbz (y m:Int):jbj y m=some (dim y m):=by
 by_cases h:m<1∨12<m
 ·have hk:∀ k:Int,1≤k→k≤12→(m==k)=false:=fun k h1 h2=>j4u (by omega)
  have:dim y m=0:=if_pos h
  rw [this]
  simp only [jbj,hk 1 (by omega) (by omega),hk 2 (by omega) (by omega),hk 3 (by omega) (by omega),hk 4 (by omega) (by omega),hk 5 (by omega) (by omega),hk 6 (by omega) (by omega),hk 7 (by omega) (by omega),
   hk 8 (by omega) (by omega),hk 9 (by omega) (by omega),hk 10 (by omega) (by omega),hk 11 (by omega) (by omega),hk 12 (by omega) (by omega),j6]
 ·obtain rfl | rfl | rfl | rfl | rfl | rfl | rfl | rfl | rfl | rfl | rfl | rfl:m=1∨m=2∨m=3∨m=4∨m=5∨m=6∨m=7∨m=8∨m=9∨m=10∨m=11∨m=12:=by omega
  case inr.inl=>
   have e:jbj y 2=(j1t y).bind fun r=>cond r (some (29:Int)) (some (28:Int)):=rfl
   rw [e,jmp,dim,jn5]
   simp only [j3]
   cases jjL y<;>rfl
  all_goals rfl
theorem jlm (y m d:Int):jex (y,m,d)=some (decide (jjP y m d)):=by
 simp only [jex,jbz,j3]
 by_cases hv:jjP y m d
 ·have hm:=je0 hv
  have hv':=hv
  obtain ⟨a1,a2,a3,a4⟩:=hv
  rw [j01 (show y≥1970 from a1),j01 a2,j01 (show m≥1 from hm.1),j01 hm.2,j01 (show d≥1 from a3),j01 a4,j01 hv'];rfl
 ·rw [j00 hv]
  by_cases a1:y≥1970
  ·by_cases a2:y≤2240
   ·by_cases a3:m≥1
    ·by_cases a4:m≤12
     ·by_cases a5:d≥1
      ·rw [j01 a1,j01 a2,j01 a3,j01 a4,j01 a5,j00 (show ¬ d≤dim y m from fun h=>hv ⟨a1,a2,a5,h⟩)];rfl
      ·rw [j01 a1,j01 a2,j01 a3,j01 a4,j00 a5];rfl
     ·rw [j01 a1,j01 a2,j01 a3,j00 a4];rfl
    ·rw [j01 a1,j01 a2,j00 a3];rfl
   ·rw [j01 a1,j00 a2];rfl
  ·rw [j00 a1];rfl
theorem jmq (y:Int) (h1:1969≤y) (h2:y≤1000000000):jgi y=some (cnt y):=by
 simp only [jgi]
 rw [j02 (x:=y-1970) (by omega) (by omega),j02 (x:=y-1969) (by omega) (by omega),j02 (x:=y-1901) (by omega) (by omega),j02 (x:=y-1601) (by omega) (by omega)]
 rw [jcy (show 0≤y-1969 by omega),jcy (show 0≤y-1901 by omega),jcy (show 0≤y-1601 by omega)]
 simp (disch:=omega) only [j02]
 congr 1
 unfold cnt
 omega
theorem jiL (y m d:Int) (hm:m≤13):∀ (n:Nat) (s k:Int),1≤k→k+n=m → -1000000000000≤s→s+31*n≤1000000000000→jcO s k y m d=some (s+cum y m-cum y k,y,m,d)
 | 0,s,k,hk,hn,_,_=>by
  rw [jey]
  have:k=m:=by omega
  subst this
  simp only [j5A,j00 (show ¬ k<k by omega),j6,j0j]
  congr 2;omega
 | n+1,s,k,hk,hn,h1,h2=>by
  rw [jey]
  have hd:=j5M y k
  have hc:=jjN y k hk (by omega)
  simp only [j5A,jbz,j3,j01 (show k<m by omega),j5,j0b]
  rw [j02 (x:=s+dim y k) (by omega) (by omega),j02 (x:=k+1) (by omega) (by omega)]
  rw [jiL y m d hm n (s+dim y k) (k+1) (by omega) (by omega) (by omega) (by omega)]
  congr 2;omega
theorem r01_Day_ok {y m d:Int} (hv:jjP y m d):jjm (y,m,d)=some (num y m d,0):=by
 have hm:=je0 hv
 have hd:=j5M y m
 have hb : -1000000000≤cnt y∧cnt y≤1000000000:=by have:=hv.1;have:=hv.2.1;unfold cnt;omega
 have hc:=jlg y m
 obtain ⟨h1,h2,h3,h4⟩:=id hv
 simp only [jjm,jlm,j01 hv,j3,jd,j6,jmq y (by omega) (by omega),jiL y m d (by omega) (m-1).toNat (cnt y) 1 (by omega) (by omega) (by omega) (by omega)]
 have:cum y 1=0:=rfl
 rw [j02 (x:=cnt y+cum y m-cum y 1+d) (by omega) (by omega),j02 (by omega) (by omega)]
 unfold num
 congr 2;omega
theorem jdf (d:Int):jdz d=j4C d:=rfl
theorem jhE (y m k w n e:Int) (hn0:0≤n) (hn1:n≤1000000) (he6:e≤6) (hew:(n+e+3)%7=w) :
  ∀ (j:Nat) (s:Int),0≤s→s+j=e→jcP y m k w n (n+s)=some (y,m,k,n,n+e)
 | 0,s,hs,hj=>by
  rw [jez]
  have:s=e:=by omega
  subst this
  have hb:((n+s+3)%7 != w)=false:=by simp [hew]
  simp only [j5B,jdf,jfr (n+s) (by omega),j3,hb,j6,j0j]
 | j+1,s,hs,hj=>by
  rw [jez]
  have hb:((n+s+3)%7 != w)=true:=by
   simp only [bne_iff_ne,ne_eq];omega
  simp only [j5B,jdf,jfr (n+s) (by omega),j3,hb,j5,j0b]
  rw [j02 (x:=n+s+1) (by omega) (by omega),show n+s+1=n+(s+1) by omega]
  exact jhE y m k w n e hn0 hn1 he6 hew j (s+1) (by omega) (by omega)
theorem jeb (y m n t:Int) (hn0:0≤n) (hn1:n≤1000000) (ht1:t<n+dim y m) (ht2:n+dim y m≤t+7) (ht0 : -1000≤t) :
  ∀ (j:Nat) (s:Int),s+7*j=t → -1000≤s→jcQ y m n s=some t
 | 0,s,hs,_=>by
  have hd:=j5M y m
  rw [jeA]
  have:s=t:=by omega
  subst this
  simp only [j5C,jbz,j3]
  rw [j02 (x:=s+7) (by omega) (by omega),j02 (x:=n+dim y m) (by omega) (by omega),j00 (show ¬ s+7<n+dim y m by omega),j6,j0j]
 | j+1,s,hs,h1=>by
  have hd:=j5M y m
  rw [jeA]
  simp only [j5C,jbz,j3]
  rw [j02 (x:=s+7) (by omega) (by omega),j02 (x:=n+dim y m) (by omega) (by omega),j01 (show s+7<n+dim y m by omega),j5,j0b]
  exact jeb y m n t hn0 hn1 ht1 ht2 ht0 j (s+7) (by omega) (by omega)
theorem r01_Nth_ok (y m k w:Int) (h1:1970≤y) (h2:y≤2240) (hm1:1≤m) (hm2:m≤12) (hk1:1≤k) (hk2:k≤5) (hw1:0≤w) (hw2:w≤6):jjn y m k w=some (nth y m k w,0):=by
 have hv:=jaT y m h1 h2 hm1 hm2
 have hr:=jcA hv
 have hd:=jht y m hm1 hm2
 have hd2:=j5M y m
 simp only [jjn,r01_Day_ok hv,j3,jb]
 rw [j00 (show ¬ k<1 by omega),j00 (show ¬ k>5 by omega),j00 (show ¬ w<0 by omega),j00 (show ¬ w>6 by omega)]
 simp only [j6]
 unfold nth
 generalize num y m 1=n at *
 obtain ⟨e,he0,he6,hew,hee⟩:∃ e,0≤e∧e≤6∧(n+e+3)%7=w∧n+(w-(n+3)%7+7)%7=n+e:=⟨(w-(n+3)%7+7)%7,by omega,by omega,by omega,rfl⟩
 rw [hee]
 have hl:=jhE y m k w n e hr.1 (by omega) he6 hew e.toNat 0 (by omega) (by omega)
 rw [Int.add_zero] at hl
 simp only [hl,j3]
 by_cases hk:k<5
 ·rw [j01 hk,j5,j02 (x:=k-1) (by omega) (by omega),j02 (x:=7*(k-1)) (by omega) (by omega),j02 (by omega) (by omega),if_neg (by omega)]
 ·have hk5:k=5:=by omega
  subst hk5
  rw [j00 hk,j6]
  by_cases hc:n+e+7*(5-1)≥n+dim y m
  ·rw [jeb y m n (n+e+21) hr.1 (by omega) (by omega) (by omega) (by omega) 3 (n+e) (by omega) (by omega),if_pos hc]
   simp only [j3]
   congr 2;omega
  ·rw [jeb y m n (n+e+28) hr.1 (by omega) (by omega) (by omega) (by omega) 4 (n+e) (by omega) (by omega),if_neg hc]
   simp only [j3]
   congr 2
end Go.Proofs.Pw
