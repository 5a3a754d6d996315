/- The layers, edits and configurations that the dice make are right. -/
import Derived.Test.YtaieocafhcjelaaGreatBPD
import Derived.Test.YtaieocafhcjelaaGreatBPC
import Derived.Test.YtaieocafhcjelaaGreatBPA
noncomputable section
open Go Go.Lft
namespace Go.Proofs.Pw
theorem jvk {L:List Int} {zs:List j2z} {ps:List j1F} {cs:List CalT} {ss:List j2d} (hp0:1≤ps.length) (hp1:ps.length≤100) {x0 y0:ByteArray} {x1 x2 x3 x4 x5 x6 x7 y1 y2 y3 y4 y5 y6 y7:Int}:∀ (n:Nat) (a:Int) (ms:List Int),DOk L a→ms.length+n≤4→(∀ m∈ms,0≤m∧m<(ps.length:Int))→
  ∃ ms' a',j4O (n:Int) L a zs ps cs ss x0 x1 x2 x3 x4 x5 x6 x7 y0 y1 y2 y3 y4 y5 y6 y7 ms=some (L,a',zs,ps,cs,ss,x0,x1,x2,x3,x4,x5,x6,x7,y0,y1,y2,y3,y4,y5,y6,y7,ms')∧ms'.length=ms.length+n∧(∀ m∈ms',0≤m∧m<(ps.length:Int))∧DOk L a'
 | 0,a,ms,hd,_,hm=>by
  rw [j9B]
  simp only [j3a]
  rw [j01 (by omega),j6,j0b]
  exact ⟨ms,a,rfl,rfl,hm,hd⟩
 | n+1,a,ms,hd,hl,hm=>by
  obtain ⟨x,a1,e1,x0',x1',d1⟩:=j0O (n:=(ps.length:Int)) hd (by omega) (by omega)
  rw [j9B]
  simp only [j3a,show Int.ofNat (List.length ps)=(ps.length:Int) from rfl]
  rw [j00 (by omega),j02 (x:=((n+1:Nat):Int)-1) (by omega) (by omega),show ((n+1:Nat):Int)-1=(n:Int) by omega]
  simp only [j5,e1,j3]
  rw [j00 (by simp [j06];omega)]
  simp only [j5,j07]
  obtain ⟨ms',a',e,h1,h2,h3⟩:=jvk (zs:=zs) (cs:=cs) (ss:=ss) hp0 hp1 (x0:=x0) (x1:=x1) (x2:=x2) (x3:=x3) (x4:=x4) (x5:=x5) (x6:=x6) (x7:=x7) (y0:=y0) (y1:=y1) (y2:=y2) (y3:=y3) (y4:=y4) (y5:=y5) (y6:=y6) (y7:=y7) n a1 (ms++[x]) d1 (by simp;omega) (fun m h=>by
   rcases jq.1 h with h | h
   ·exact hm m h
   ·simp at h;subst h;exact ⟨x0',x1'⟩)
  exact ⟨ms',a',e,by rw [h1];simp;omega,h2,h3⟩
theorem jsl {L:List Int} {a:Int} (h:DOk L a) {zs:List j2z} {ps:List j1F} {cs:List CalT} {ss:List j2d} (hs:SOk zs ps cs) (nm:ByteArray) :
  ∃ l a',j8c L a (zs,(ps,(cs,ss))) nm=some (l,L,a')∧LOk l∧LCk zs.length ps.length cs.length l∧l.1=nm∧DOk L a':=by
 have hz0:=hs.z0;have hz1:=hs.z1;have hp0:=hs.p0;have hp1:=hs.p1;have hc1:=hs.c1
 obtain ⟨z,a1,e1,z0,z1,d1⟩:=j0O (n:=(zs.length:Int)) h (by omega) (by omega)
 obtain ⟨x,a2,e2,x0,x1,d2⟩:=j0O (n:=6) d1 (by omega) (by omega)
 obtain ⟨s,a3,e3,m3,d3⟩:=j7O d2 (xs:=[(0:Int),(32400:Int),(7200:Int),(9000:Int),(79200:Int),(1:Int)]) (by simp) (by simp)
 obtain ⟨u,a4,e4,u0,u1,d4⟩:=j0O (n:=3) d3 (by omega) (by omega)
 obtain ⟨v,a5,e5,v0,v1,d5⟩:=j0O (n:=2) d4 (by omega) (by omega)
 have hs':0≤s∧s≤79200:=by simp at m3;omega
 simp only [j8c,show Int.ofNat (List.length zs)=(zs.length:Int) from rfl,e1,e2,e3,e4,e5,j3]
 rw [j02 (x:=20454+x) (by omega) (by omega),j02 (x:=20454+x-2) (by omega) (by omega),j02 (x:=1+v) (by omega) (by omega)]
 have fin:∀ (ev:Int),1≤ev→ev≤49→(u≠0→ev≤2)→∀ ms:List Int,1≤ms.length→ms.length≤3→(∀ m∈ms,0≤m∧m<(ps.length:Int))→∀ (w:WL),WOk 0 w→w.length≤3→∀ (c m:Int),0≤m→m≤2→(m≠0→0≤c∧c<(cs.length:Int))→(m=0→c=0)→∀ (a':Int),DOk L a'→
   ∃ l a'',some ((nm,(z,((20454+x-2,s),(u,(ev,(ms,(w,(c,m)))))))),L,a')=some (l,L,a'')∧LOk l∧LCk zs.length ps.length cs.length l∧l.1=nm∧DOk L a'':=
  fun ev h1 h2 h3 ms h4 h5 hmem w hw hwl c m hm0 hm1 hmc hmz a' hd=>⟨_,_,rfl,⟨by dsimp only;omega,by dsimp only;omega,hs'.1,hs'.2,u0,by dsimp only;omega,h1,h2,h3,h4,h5⟩,
   ⟨z0,z1,by dsimp only;omega,jsi (by dsimp only;omega) (by dsimp only;omega),hs'.1,by dsimp only;omega,u0,by dsimp only;omega,h1,by dsimp only;omega,by dsimp only;omega,by dsimp only;omega,hmem,hw,by dsimp only;omega,hm0,hm1,hmc,hmz⟩,rfl,hd⟩
 have rest:∀ (ev:Int),1≤ev→ev≤49→(u≠0→ev≤2)→∀ (ms:List Int),1≤ms.length→ms.length≤3→(∀ m∈ms,0≤m∧m<(ps.length:Int))→∀ (w:WL),WOk 0 w→w.length≤3→∀ (a9:Int),DOk L a9→
   ∃ l a'',((j1b L a9 4).bind fun r=>cond (cond r.1 (decide ((cs.length:Int)>0)) false) ((j03 r.2.1 r.2.2 (cs.length:Int)).bind fun r70=>(j03 r70.2.1 r70.2.2 2).bind fun r72=>some ((nm,(z,((20454+x-2,s),(u,(ev,(ms,(w,(r70.1,w64 (1+r72.1))))))))),r72.2.1,r72.2.2))
    (some ((nm,(z,((20454+x-2,s),(u,(ev,(ms,(w,((0:Int),(0:Int))))))))),r.2.1,r.2.2)))=some (l,L,a'')∧LOk l∧LCk zs.length ps.length cs.length l∧l.1=nm∧DOk L a'':=by
  intro ev h1 h2 h3 ms h4 h5 hmem w hw hwl a9 d9
  obtain ⟨c,a11,e11,d11⟩:=jhD (n:=4) d9 (by omega) (by omega)
  simp only [e11,j3]
  by_cases hcc:c=true∧(cs.length:Int)>0
  ·obtain ⟨i,a12,e12,i0,i1,d12⟩:=j0O (n:=(cs.length:Int)) d11 (by omega) (by omega)
   obtain ⟨j,a13,e13,j0,j1,d13⟩:=j0O (n:=2) d12 (by omega) (by omega)
   rw [hcc.1,j00 hcc.2]
   simp only [j5,e12,e13,j3,j02 (x:=1+j) (show -9223372036854775808≤_ by omega) (by omega)]
   exact fin ev h1 h2 h3 ms h4 h5 hmem w hw hwl i (1+j) (by omega) (by omega) (fun _=>⟨i0,i1⟩) (fun hh=>by omega) _ d13
  ·have hc0:cond c (decide ((cs.length:Int)>0)) false=false:=by
    cases c with
    | true=>exact j01 (fun h=>hcc ⟨rfl,h⟩)
    | false=>rfl
   rw [hc0]
   simp only [j6]
   exact fin ev h1 h2 h3 ms h4 h5 hmem w hw hwl 0 0 (by omega) (by omega) (fun hh=>absurd rfl hh) (fun _=>rfl) _ d11
 have nilW:WOk 0 ([]:WL):=show (0:Int)≤604800 by omega
 by_cases hu:u=0
 ·rw [j7g hu,j5]
  obtain ⟨ev,a6,e6,m6,d6⟩:=j7O d5 (xs:=[(6:Int),(8:Int),(12:Int),(24:Int),(23:Int),(49:Int)]) (by simp) (by simp)
  have hev:1≤ev∧ev≤49:=by simp at m6;omega
  obtain ⟨n,a7,e7,n0,n1,d7⟩:=j0O (n:=3) d6 (by omega) (by omega)
  obtain ⟨ms,a8,e8,l8,k8,d8⟩:=jvk (L:=L) (zs:=zs) (ps:=ps) (cs:=cs) (ss:=ss) hp0 (by omega) (x0:=ByteArray.empty) (x1:=0) (x2:=0) (x3:=0) (x4:=0) (x5:=0) (x6:=0) (x7:=0) (y0:=nm) (y1:=z) (y2:=20454+x-2) (y3:=s) (y4:=u) (y5:=ev) (y6:=0) (y7:=0) (1+n).toNat a7 [] d7 (by simp;omega) (by simp)
  rw [show (((1+n).toNat:Nat):Int)=1+n by omega] at e8
  simp at l8
  obtain ⟨b,a9,e9,d9⟩:=jhD (n:=2) d8 (by omega) (by omega)
  simp only [e6,e7,j3]
  rw [j02 (x:=1+n) (by omega) (by omega)]
  simp only [e8,e9,j3,show Int.ofNat (List.length cs)=(cs.length:Int) from rfl]
  cases b with
  | true=>
   obtain ⟨w,a10,e10,hw,hwl,d10⟩:=jhC d9
   simp only [j5,e10,j3]
   exact rest ev hev.1 hev.2 (fun h=>absurd hu h) ms (by omega) (by omega) k8 w hw hwl a10 d10
  | false=>
   simp only [j6]
   exact rest ev hev.1 hev.2 (fun h=>absurd hu h) ms (by omega) (by omega) k8 [] nilW (by simp) a9 d9
 ·rw [j3V hu,j6]
  obtain ⟨n,a7,e7,n0,n1,d7⟩:=j0O (n:=3) d5 (by omega) (by omega)
  obtain ⟨ms,a8,e8,l8,k8,d8⟩:=jvk (L:=L) (zs:=zs) (ps:=ps) (cs:=cs) (ss:=ss) hp0 (by omega) (x0:=ByteArray.empty) (x1:=0) (x2:=0) (x3:=0) (x4:=0) (x5:=0) (x6:=0) (x7:=0) (y0:=nm) (y1:=z) (y2:=20454+x-2) (y3:=s) (y4:=u) (y5:=1+v) (y6:=0) (y7:=0) (1+n).toNat a7 [] d7 (by simp;omega) (by simp)
  rw [show (((1+n).toNat:Nat):Int)=1+n by omega] at e8
  simp at l8
  obtain ⟨b,a9,e9,d9⟩:=jhD (n:=2) d8 (by omega) (by omega)
  simp only [e7,j3]
  rw [j02 (x:=1+n) (by omega) (by omega)]
  simp only [e8,e9,j3,show Int.ofNat (List.length cs)=(cs.length:Int) from rfl]
  cases b with
  | true=>
   obtain ⟨w,a10,e10,hw,hwl,d10⟩:=jhC d9
   simp only [j5,e10,j3]
   exact rest (1+v) (by omega) (by omega) (fun _=>by omega) ms (by omega) (by omega) k8 w hw hwl a10 d10
  | false=>
   simp only [j6]
   exact rest (1+v) (by omega) (by omega) (fun _=>by omega) ms (by omega) (by omega) k8 [] nilW (by simp) a9 d9
theorem jvl {L:List Int} {a:Int} (h:DOk L a) {zs:List j2z} {ps:List j1F} {cs:List CalT} {ss:List j2d} (hp0:1≤ps.length) (hp1:ps.length≤4) :
  ∃ x a',j9f L a (zs,(ps,(cs,ss)))=some (x,L,a')∧ECk ps.length x∧DOk L a':=by
 obtain ⟨k,a1,e1,k0,k1,d1⟩:=j0O (n:=3) h (by omega) (by omega)
 obtain ⟨p,a2,e2,p0,p1,d2⟩:=j0O (n:=(ps.length:Int)) d1 (by omega) (by omega)
 obtain ⟨t,a3,e3,t0,t1,d3⟩:=jl8 d2
 obtain ⟨y,a4,e4,m4,d4⟩:=j7O d3 (xs:=[(3600:Int),(86400:Int),(7:Int),(259200:Int),(40000:Int)]) (by simp) (by simp)
 have hy:7≤y∧y≤259200:=by simp at m4;omega
 have hday:j1z (Int.tdiv (t+y) 86400)=some true:=by
  rw [jmc (by omega)]
  exact jsi (by omega) (by omega)
 simp only [j9f,show Int.ofNat (List.length ps)=(ps.length:Int) from rfl,e1,e2,e3,e4,j3]
 rw [j02 (x:=t+y) (by omega) (by omega)]
 have fin:∀ (kd A B:Int),0≤kd→kd≤2→(0≤A∧A<(ps.length:Int)∨kd=1∧A = -1)→(kd=2→0≤B∧B<(ps.length:Int)∧A≠B)→(kd≠2→B=0)→∀ a',DOk L a'→∃ x a'',some ((kd,(A,(B,(t,t+y)))),L,a')=some (x,L,a'')∧ECk ps.length x∧DOk L a'':=
  fun kd A B h1 h2 h3 h4 h5 a' hd=>⟨_,_,rfl,⟨h1,h2,h3,h4,h5,by dsimp only;omega,by dsimp only;omega,by dsimp only;omega,hday⟩,hd⟩
 by_cases h2:k=2
 ·rw [j7g h2,j5]
  by_cases hn:(ps.length:Int)<2
  ·rw [j00 hn,j5]
   exact fin 0 p 0 (by omega) (by omega) (.inl ⟨p0,p1⟩) (fun hh=>by omega) (fun _=>rfl) _ d4
  ·rw [j01 hn,j6,j02 (x:=(ps.length:Int)-1) (by omega) (by omega)]
   obtain ⟨q,a5,e5,q0,q1,d5⟩:=j0O (n:=(ps.length:Int)-1) d4 (by omega) (by omega)
   simp only [e5,j3]
   rw [j02 (x:=p+1) (by omega) (by omega),j02 (x:=p+1+q) (by omega) (by omega),j3V (show ¬ (ps.length:Int)=0 by omega),j3V (show ¬ k=1 by omega),jmd (by omega)]
   simp only [kb,j5,j6]
   have b0:0≤(p+1+q)%(ps.length:Int):=Int.emod_nonneg _ (by omega)
   have b1:(p+1+q)%(ps.length:Int)<(ps.length:Int):=Int.emod_lt_of_pos _ (by omega)
   have hne:p≠(p+1+q)%(ps.length:Int):=by
    by_cases hb:p+1+q<(ps.length:Int)
    ·rw [Int.emod_eq_of_lt (by omega) hb];omega
    ·rw [←Int.sub_emod_right,Int.emod_eq_of_lt (by omega) (by omega)];omega
   exact fin k p _ k0 (by omega) (.inl ⟨p0,p1⟩) (fun _=>⟨b0,b1,hne⟩) (fun hh=>absurd h2 hh) _ d5
 ·rw [j3V h2,j6]
  by_cases h1:k=1
  ·rw [j7g h1,j5]
   obtain ⟨b,a5,e5,d5⟩:=jhD (n:=4) d4 (by omega) (by omega)
   simp only [e5,j3]
   cases b with
   | true=>exact fin k (-1) 0 k0 (by omega) (.inr ⟨h1,rfl⟩) (fun hh=>absurd hh h2) (fun _=>rfl) _ d5
   | false=>exact fin k p 0 k0 (by omega) (.inl ⟨p0,p1⟩) (fun hh=>absurd hh h2) (fun _=>rfl) _ d5
  ·rw [j3V h1,j6]
   exact fin k p 0 k0 (by omega) (.inl ⟨p0,p1⟩) (fun hh=>absurd hh h2) (fun _=>rfl) _ d4
theorem jwt {L:List Int} {s6:Int} {nm:ByteArray} {zs:List j2z} {ps:List j1F} {cs:List CalT} {ss:List j2d} (hs:SOk zs ps cs):∀ (n:Nat) (a:Int) (ls:List j0Q),DOk L a→ls.length+n≤3→(∀ x∈ls,LCk zs.length ps.length cs.length x)→ls.map (·.1)=nmsL.take ls.length→
  ∃ ls' a',j4o s6 (n:Int) L a zs ps cs nm ss ls=some (s6,L,a',zs,ps,cs,nm,ss,ls')∧ls'.length≤3∧(∀ x∈ls',LCk zs.length ps.length cs.length x)∧ls'.map (·.1)=nmsL.take ls'.length∧DOk L a'
 | 0,a,ls,hd,hl,hk,hn=>by
  rw [j8N]
  simp only [j2U]
  rw [j01 (by omega),j6,j0b]
  exact ⟨ls,a,rfl,by omega,hk,hn,hd⟩
 | n+1,a,ls,hd,hl,hk,hn=>by
  have hnm:ls.length<nmsL.length:=by show ls.length<8;omega
  obtain ⟨l,a1,e1,_,l2,l3,d1⟩:=jsl (ss:=ss) hd hs (nmsL.getD ls.length ByteArray.empty)
  rw [j8N]
  simp only [j2U,jpV,j3,show Int.ofNat (List.length ls)=(ls.length:Int) from rfl]
  rw [j00 (by omega),j1c (show (0:Int)≤(ls.length:Int) by omega) (by omega),j02 (x:=((n+1:Nat):Int)-1) (by omega) (by omega),show ((n+1:Nat):Int)-1=(n:Int) by omega]
  simp only [j5,j7,e1,j3]
  rw [j00 (by simp [j06];omega)]
  simp only [j5,j07]
  exact jwt hs n a1 (ls++[l]) d1 (by simp;omega) (fun x hx=>by
   rcases jq.1 hx with h | h
   ·exact hk x h
   ·simp at h;subst h;exact l2) (by
   rw [zm,hn,jf,ki,List.map_nil,l3]
   exact jmt hnm)
theorem jwu {L:List Int} {s6:Int} {nm:ByteArray} {zs:List j2z} {ps:List j1F} {cs:List CalT} {ss:List j2d} {ls:List j0Q} (hs:SOk zs ps cs):∀ (n:Nat) (a:Int) (es:List j5x),DOk L a→es.length+n≤3→(∀ x∈es,ECk ps.length x)→
  ∃ es' a',j5I s6 (n:Int) L a zs ps cs nm ss ls es=some (s6,L,a',zs,ps,cs,nm,ss,ls,es')∧es'.length≤3∧(∀ x∈es',ECk ps.length x)∧DOk L a'
 | 0,a,es,hd,hl,hk=>by
  rw [j8O]
  simp only [j2V]
  rw [j01 (by omega),j6,j0b]
  exact ⟨es,a,rfl,by omega,hk,hd⟩
 | n+1,a,es,hd,hl,hk=>by
  obtain ⟨x,a1,e1,x1,d1⟩:=jvl (zs:=zs) (cs:=cs) (ss:=ss) hd hs.p0 hs.p1
  rw [j8O]
  simp only [j2V]
  rw [j00 (by omega),j02 (x:=((n+1:Nat):Int)-1) (by omega) (by omega),show ((n+1:Nat):Int)-1=(n:Int) by omega]
  simp only [j5,e1,j3]
  rw [j00 (by simp [j06];omega)]
  simp only [j5,j07]
  exact jwu hs n a1 (es++[x]) d1 (by simp;omega) (fun y hy=>by
   rcases jq.1 hy with h | h
   ·exact hk y h
   ·simp at h;subst h;exact x1)
theorem jwv {zs:List j2z} {ps:List j1F} {cs:List CalT} {ss:List j2d} (hs:SOk2 zs ps cs) (h0:ss.length≤12) (h1:NmL (ss.map (·.1))) (h2:∀ s∈ss,SCk zs.length ps.length cs.length s):jms (zs,(ps,(cs,ss))):=by
 have hz1:=hs.so.z1;have hp1:=hs.so.p1;have hc1:=hs.so.c1
 exact ⟨by dsimp only;rw [hs.z.nm];exact jvg.take _,hs.z.ck,by dsimp only;omega,by dsimp only;rw [hs.p.nm];exact jsh.take _,hs.p.ck,by dsimp only;omega,hs.c.nm,hs.c.ck,by dsimp only;omega,h1,h2,h0⟩
structure Fst (o:Int) (l:TrL) (s t:Int) (k:Nat):Prop where
 hk:k≤l.length
 hks:s-tof o l k<frm l (k+1)
 bef:∀ j,j<k→frm l (j+1)≤s-tof o l j
 ht:t=max (frm l k) (s-tof o l k)
section
variable {o:Int} {l:TrL} (h:TOk o l)
include h
theorem Fst.piece {s t:Int} {k:Nat} (f:Fst o l s t k):frm l k≤t∧t<frm l (k+1)∧s≤t+tof o l k:=by
 have h1:=h.frm_lt f.hk
 have h2:=f.hks
 have h3:=f.ht
 omega
end
def fstI (o:Int) (l:TrL) (s:Int):Int:=open Classical in if h:∃ t k,Fst o l s t k then Classical.choose h else 0
def j7Z (L:j0Q):Int:=if L.2.2.2.1=2 then 7*L.2.2.2.2.1 else L.2.2.2.2.1
def sLoc (L:j0Q) (k:Int):Int:=(L.2.2.1.1+k*j7Z L)*86400+L.2.2.1.2
def hov (o:Int) (l:TrL) (L:j0Q) (k:Int):Int:=if L.2.2.2.1=0 then fstI o l (sLoc L 0)+3600*L.2.2.2.2.1*k else fstI o l (sLoc L k)
structure LR (L:j0Q):Prop where
 d0:100≤L.2.2.1.1
 d1:L.2.2.1.1≤30000
 c0:0≤L.2.2.1.2
 c1:L.2.2.1.2≤86399
 u0:0≤L.2.2.2.1
 u1:L.2.2.2.1≤2
 e0:1≤L.2.2.2.2.1
 e1:L.2.2.2.2.1≤49
 m0:1≤L.2.2.2.2.2.1.length
 m1:L.2.2.2.2.2.1.length≤1000
def NoF (o:Int) (l:TrL) (s:Int):Prop:=∀ j,j≤l.length→frm l (j+1)≤s-tof o l j
def fO (o:Int) (l:TrL) (s:Int):Option Int:=open Classical in if h:∃ t k,Fst o l s t k then some (Classical.choose h) else none
theorem Fst.uniq {o:Int} {l:TrL} {s t t':Int} {k k':Nat} (f:Fst o l s t k) (g:Fst o l s t' k'):k=k'∧t=t':=by
 have hk:k=k':=by
  rcases vd k k' with hlt | heq | hgt
  ·have:=g.bef k hlt;have:=f.hks;omega
  ·exact heq
  ·have:=f.bef k' hgt;have:=g.hks;omega
 subst hk
 exact ⟨rfl,by rw [f.ht,g.ht]⟩
theorem fO_t {o:Int} {l:TrL} {s t:Int} {k:Nat} (f:Fst o l s t k):fO o l s=some t:=by
 have he:∃ t k,Fst o l s t k:=⟨t,k,f⟩
 unfold fO
 rw [dif_pos he]
 obtain ⟨k',g⟩:=Classical.choose_spec he
 rw [(g.uniq f).2]
theorem fO_n {o:Int} {l:TrL} {s:Int} (hno:NoF o l s):fO o l s=none:=by
 unfold fO
 rw [dif_neg]
 rintro ⟨t,k,f⟩
 have:=hno k f.hk
 have:=f.hks
 omega
theorem jsm (o:Int) (l:TrL) (s:Int):(∃ t k,Fst o l s t k)∨NoF o l s:=by
 by_cases hno:NoF o l s
 ·exact .inr hno
 ·left
  have:∃ j,j≤l.length∧s-tof o l j<frm l (j+1):=by
   apply jl
   intro hn
   exact hno fun j hj=>by
    rcases Int.lt_or_le (s-tof o l j) (frm l (j+1)) with h | h
    ·exact absurd ⟨j,hj,h⟩ hn
    ·exact h
  obtain ⟨j,hj,hjs⟩:=this
  obtain ⟨a,⟨ha,haN⟩,hmin⟩:=jrB (fun j=>s-tof o l j<frm l (j+1)∧j≤l.length) j ⟨hjs,hj⟩
  refine ⟨_,a,haN,ha,fun i hi=> ?_,rfl⟩
  rcases Int.lt_or_le (s-tof o l i) (frm l (i+1)) with h' | h'
  ·have:=hmin i ⟨h',by omega⟩;omega
  ·exact h'
theorem jtO {o:Int} {l:TrL} {s t:Int} (he:fO o l s=some t):∃ k,Fst o l s t k:=by
 rcases jsm o l s with ⟨t',k,f⟩ | hno
 ·rw [fO_t f] at he
  simp at he;subst he
  exact ⟨k,f⟩
 ·rw [fO_n hno] at he;simp at he
section
variable {o:Int} {l:TrL} (h:TOk o l)
include h
theorem jvm {s t:Int} (he:fO o l s=some t):s≤t+64800∧0≤t∧t≤8589934592:=by
 obtain ⟨k,f⟩:=jtO he
 obtain ⟨p1,p2,p3⟩:=f.piece h
 have o1:=h.of1 k f.hk
 have g1:=h.frm_le (i:=0) (j:=k) (by omega) (by have:=f.hk;omega)
 have e0:frm l 0=0:=frm0
 have e1:frm l (l.length+1)=8589934593:=jde
 have g2:=h.frm_le (i:=k+1) (j:=l.length+1) (by have:=f.hk;omega) (by omega)
 omega
theorem jun {s:Int} (hs:8589934593+64800≤s):NoF o l s:=fun j hj=>by
 have o1:=h.of1 j hj
 have e1:frm l (l.length+1)=8589934593:=jde
 have g2:=h.frm_le (i:=j+1) (j:=l.length+1) (by omega) (by omega)
 omega
theorem jvn {s s' t':Int} (hs:s≤s') (he:fO o l s'=some t'):∃ t,fO o l s=some t∧t≤t':=by
 obtain ⟨k',g⟩:=jtO he
 have g1:=g.hks
 have hk':=g.hk
 rcases jsm o l s with ⟨t,k,f⟩ | hno
 ·refine ⟨t,fO_t f,?_⟩
  obtain ⟨p1,p2,p3⟩:=f.piece h
  obtain ⟨q1,q2,q3⟩:=g.piece h
  have f1:=f.ht;have g2:=g.ht
  rcases vd k k' with hlt | heq | hgt
  ·have:=h.frm_le (i:=k+1) (j:=k') (by omega) (by omega);omega
  ·subst heq;omega
  ·have:=f.bef k' hgt;omega
 ·have:=hno k' hk';omega
theorem jjW {d c s:Int} (hsec:j4b (d,c)=some s) (hs0 : -1000000000000≤s) (hs1:s≤1000000000000) (hno:NoF o l s) :
  ∀ (n i:Nat),i+n=l.length+1→j2K ((l.length+1:Nat):Int) (i:Int) d c (pcs o l (l.length+1))=some (.inr ())
 | 0,i,hi=>by
  rw [j4s]
  simp only [j1E]
  rw [j01 (by omega),j6,j0b]
 | n+1,i,hi=>by
  have hlen:=h.len
  have hil:i≤l.length:=by omega
  have o1:=h.of0 i hil;have o2:=h.of1 i hil
  have hb:=hno i hil
  have hlt:=h.frm_lt hil
  rw [j4s]
  simp only [j1E]
  rw [j00 (show (i:Int)<((l.length+1:Nat):Int) by omega),j1c (by omega) (by rw [jfI];omega)]
  simp only [j5,j7,joR (show i<l.length+1 by omega),hsec,j3,pc]
  rw [j02 (x:=s-tof o l i) (by omega) (by omega),j02 (x:=(i:Int)+1) (by omega) (by omega)]
  have hm:(if s-tof o l i>frm l i then s-tof o l i else frm l i)=max (frm l i) (s-tof o l i):=by split<;>omega
  rw [hm,j01 (by omega),j6,j07]
  exact jjW hsec hs0 hs1 hno n (i+1) (by omega)
theorem jmu {d c s:Int} (hsec:j4b (d,c)=some s) (hs0 : -1000000000000≤s) (hs1:s≤1000000000000) (hno:NoF o l s):j1V (o,l) (d,c)=some (0,false):=by
 have:=jjW h hsec hs0 hs1 hno (l.length+1) 0 (by omega)
 simp only [j1V,jnN h,j3,jfI,show Int.ofNat (List.length l+1)=((l.length+1:Nat):Int) from rfl]
 rw [show (0:Int)=((0:Nat):Int) from rfl,this]
 rfl
theorem jnU {d c:Int} (hd : -1000000≤d) (hd2:d≤1000000000000000) (hc:0≤c) (hc2:c≤86399) :
  j1V (o,l) (d,c)=some ((fO o l (d*86400+c)).getD 0,(fO o l (d*86400+c)).isSome):=by
 by_cases hb:d≤1000000
 ·rcases jsm o l (d*86400+c) with ⟨t,k,f⟩ | hno
  ·have e:=jtG h hd hb (by omega) (by omega) f.hk f.hks f.bef
   rw [←f.ht] at e
   rw [fO_t f]
   exact e
  ·rw [fO_n hno]
   exact jmu h (jhr hd hb (by omega) (by omega)) (by omega) (by omega) hno
 ·have hno:NoF o l (d*86400+c):=jun h (by omega)
  rw [fO_n hno]
  by_cases hb2:d≤1048576
  ·have hsec:j4b (d,c)=some (d*86400+c):=by
    simp only [j4b]
    rw [if_neg (show ¬ (-1048576:Int)>d by omega),if_neg (show ¬ (1048576:Int)<d by omega),j02 (x:=d*86400) (by omega) (by omega),j02 (by omega) (by omega)]
   exact jmu h hsec (by omega) (by omega) hno
  ·have hsec:j4b (d,c)=some (1048576*86400+c):=by
    simp only [j4b]
    rw [if_neg (show ¬ (-1048576:Int)>d by omega),if_pos (show (1048576:Int)<d by omega),j02 (x:=1048576*86400) (by omega) (by omega),j02 (by omega) (by omega)]
   exact jmu h hsec (by omega) (by omega) (jun h (by omega))
end
structure Rt (L:j0Q):Prop where
 d0:1≤L.2.2.1.1
 d1:L.2.2.1.1≤100000
 c0:0≤L.2.2.1.2
 c1:L.2.2.1.2≤86399
 u0:0≤L.2.2.2.1
 u1:L.2.2.2.1≤2
 e0:1≤L.2.2.2.2.1
 e1:L.2.2.2.2.1≤400
 m0:L.2.2.2.2.2.1≠[]
theorem Rt.step {L:j0Q} (h:Rt L):1≤j7Z L∧j7Z L≤2800:=by
 have:=h.e0;have:=h.e1
 unfold j7Z;split<;>omega
def hO (o:Int) (l:TrL) (L:j0Q) (k:Int):Option Int:=
 if L.2.2.2.1=0 then (fO o l (sLoc L 0)).bind fun t=>if t+3600*L.2.2.2.2.1*k≤8589934592 then some (t+3600*L.2.2.2.2.1*k) else none
 else fO o l (sLoc L k)
section
variable {o:Int} {l:TrL} (ht:TOk o l) {L:j0Q} (h:Rt L)
include ht h
theorem jsn {k t:Int} (hk:0≤k) (he:hO o l L k=some t):0≤t∧t≤8589934592∧k≤2386092:=by
 have hs:=h.step
 have hd0:=h.d0;have he0:=h.e0;have hc0:=h.c0
 unfold hO at he
 by_cases h0:L.2.2.2.1=0
 ·rw [if_pos h0] at he
  cases hf:fO o l (sLoc L 0) with
  | none=>rw [hf] at he;simp at he
  | some v=>
   rw [hf] at he
   simp only [j3] at he
   have hv:=jvm ht hf
   have hm:3600*k≤3600*L.2.2.2.2.1*k:=Int.mul_le_mul_of_nonneg_right (by omega) hk
   split at he
   ·simp at he;omega
   ·simp at he
 ·rw [if_neg h0] at he
  have hv:=jvm ht he
  have hm:k*1≤k*j7Z L:=Int.mul_le_mul_of_nonneg_left hs.1 hk
  unfold sLoc at hv
  omega
theorem jtP {k t:Int} (he:hO o l L (k+1)=some t):∃ v,hO o l L k=some v∧v≤t:=by
 have hs:=h.step
 have he0:=h.e0
 unfold hO at he ⊢
 by_cases h0:L.2.2.2.1=0
 ·rw [if_pos h0] at he ⊢
  cases hf:fO o l (sLoc L 0) with
  | none=>rw [hf] at he;simp at he
  | some v=>
   rw [hf] at he
   simp only [j3] at he ⊢
   have hm:3600*L.2.2.2.2.1*(k+1)=3600*L.2.2.2.2.1*k+3600*L.2.2.2.2.1:=by rw [Int.mul_add,Int.mul_one]
   split at he
   ·rw [if_pos (by omega)]
    simp at he
    exact ⟨_,rfl,by omega⟩
   ·simp at he
 ·rw [if_neg h0] at he ⊢
  have hm:(k+1)*j7Z L=k*j7Z L+j7Z L:=by rw [Int.add_mul,Int.one_mul]
  exact jvn ht (by unfold sLoc;rw [hm];omega) he
def QO (o:Int) (l:TrL) (L:j0Q) (t k:Int):Prop:=∃ v,hO o l L k=some v∧v≤t
theorem QO.down {t:Int}:∀ (n:Nat) {k:Int},QO o l L t (k+n)→QO o l L t k
 | 0,k,hq=>by rwa [show k+((0:Nat):Int)=k by omega] at hq
 | n+1,k,hq=>by
  rw [show k+((n+1:Nat):Int)=k+(n:Int)+1 by omega] at hq
  obtain ⟨v,hv,hvt⟩:=hq
  obtain ⟨v',hv',hl⟩:=jtP ht h (k:=k+(n:Int)) hv
  exact QO.down n ⟨v',hv',by omega⟩
theorem QO.le {t k j:Int} (hkj:k≤j) (hq:QO o l L t j):QO o l L t k:=by
 refine QO.down ht h (j-k).toNat ?_
 rwa [show k+(((j-k).toNat:Nat):Int)=j by omega]
def ShO (o:Int) (l:TrL) (L:j0Q) (t K:Int):Prop:=(K = -1∧¬ QO o l L t 0)∨(0≤K∧QO o l L t K∧¬ QO o l L t (K+1))
theorem ShO.uniq {t K K':Int} (a:ShO o l L t K) (b:ShO o l L t K'):K=K':=by
 rcases a with ⟨a1,a2⟩ | ⟨a1,a2,a3⟩<;>rcases b with ⟨b1,b2⟩ | ⟨b1,b2,b3⟩
 ·omega
 ·exact absurd (QO.le ht h b1 b2) a2
 ·exact absurd (QO.le ht h a1 a2) b2
 ·rcases Int.lt_trichotomy K K' with hlt | heq | hgt
  ·exact absurd (QO.le ht h (by omega) b2) a3
  ·exact heq
  ·exact absurd (QO.le ht h (by omega) a2) b3
end
theorem jpX {L:j0Q} (h:Rt L):j8W L=some (j7Z L):=by
 have:=h.e0;have:=h.e1
 simp only [j8W,j7Z]
 by_cases h2:L.2.2.2.1=2
 ·rw [j7g h2,j5,if_pos h2,j02 (by omega) (by omega)]
 ·rw [j3V h2,j6,if_neg h2]
def HVal (r:Option (Int×Bool)) (x:Option Int):Prop:=∃ v,r=some (v,x.isSome)∧∀ t,x=some t→v=t
theorem recH {o:Int} {l:TrL} (ht:TOk o l) {L:j0Q} (h:Rt L) {k:Int} (hk:0≤k) (hk2:k≤8589934592):HVal (j0K (o,l) L k) (hO o l L k):=by
 have hs:=h.step
 have hd0:=h.d0;have hd1:=h.d1;have hc0:=h.c0;have hc1:=h.c1;have he0:=h.e0;have he1:=h.e1
 have hstep:j8W (L.1,L.2.1,(L.2.2.1.1,L.2.2.1.2),L.2.2.2.1,L.2.2.2.2.1,L.2.2.2.2.2.1,L.2.2.2.2.2.2.1,L.2.2.2.2.2.2.2.1,L.2.2.2.2.2.2.2.2)=_:=jpX h
 simp only [HVal,j0K,hstep,j3]
 rw [j01 (show ¬ k>8589934592 by omega),j6]
 by_cases h0:L.2.2.2.1=0
 ·have hF:=jnU ht (d:=L.2.2.1.1) (c:=L.2.2.1.2) (by omega) (by omega) hc0 hc1
  have hs0:L.2.2.1.1*86400+L.2.2.1.2=sLoc L 0:=by unfold sLoc;omega
  have hm0:0≤3600*L.2.2.2.2.1*k:=Int.mul_nonneg (by omega) hk
  have hm1:3600*L.2.2.2.2.1*k≤3600*400*8589934592:=Int.mul_le_mul (by omega) hk2 hk (by omega)
  rw [show (L.2.2.2.1 != 0)=false by rw [h0];rfl,j6,hF,hs0]
  simp only [j3]
  unfold hO
  rw [if_pos h0]
  cases hf:fO o l (sLoc L 0) with
  | none=>exact ⟨_,rfl,fun t h=>by simp at h⟩
  | some v=>
   have hv:=jvm ht hf
   simp only [za,zi,j5,j3,j02 (x:=3600*L.2.2.2.2.1) (show -9223372036854775808≤_ by omega) (by omega),j02 (x:=3600*L.2.2.2.2.1*k) (show -9223372036854775808≤_ by omega) (by omega),j02 (x:=v+3600*L.2.2.2.2.1*k) (show -9223372036854775808≤_ by omega) (by omega)]
   by_cases hle:v+3600*L.2.2.2.2.1*k≤8589934592
   ·rw [if_pos hle,j00 hle]
    exact ⟨_,rfl,fun t h=>by simpa using h⟩
   ·rw [if_neg hle,j01 hle]
    exact ⟨_,rfl,fun t h=>by simp at h⟩
 ·have hm0:0≤k*j7Z L:=Int.mul_nonneg hk (by omega)
  have hm1:k*j7Z L≤8589934592*2800:=Int.mul_le_mul hk2 hs.2 (by omega) (by omega)
  rw [show (L.2.2.2.1 != 0)=true by simp [h0],j5,j02 (x:=k*j7Z L) (by omega) (by omega),j02 (x:=L.2.2.1.1+k*j7Z L) (by omega) (by omega),jnU ht (by omega) (by omega) hc0 hc1]
  simp only [j3]
  unfold hO
  rw [if_neg h0]
  exact ⟨_,rfl,fun t h=>by have h:fO o l ((L.2.2.1.1+k*j7Z L)*86400+L.2.2.1.2)=some t:=h;rw [h];rfl⟩
theorem jww {o:Int} {l:TrL} (ht:TOk o l) {L:j0Q} (h:Rt L) {t N:Int} (hN:N≤8589934592) (hfirst:QO o l L t 0):∀ n:Nat,(n:Int)≤N→
  ∃ k:Int,j4C t (n:Int) o l L.1 L.2.1 L.2.2.1.1 L.2.2.1.2 L.2.2.2.1 L.2.2.2.2.1 L.2.2.2.2.2.1 L.2.2.2.2.2.2.1 L.2.2.2.2.2.2.2.1 L.2.2.2.2.2.2.2.2=
   some (t,k,o,l,L.1,L.2.1,L.2.2.1.1,L.2.2.1.2,L.2.2.2.1,L.2.2.2.2.1,L.2.2.2.2.2.1,L.2.2.2.2.2.2.1,L.2.2.2.2.2.2.2.1,L.2.2.2.2.2.2.2.2)∧0≤k∧QO o l L t k
 | 0,_=>by
  rw [jaJ]
  simp only [j1M]
  rw [j01 (by omega),j6,j0b]
  exact ⟨_,rfl,by omega,hfirst⟩
 | n+1,hn=>by
  obtain ⟨k,e,k0,k1⟩:=jww ht h hN hfirst n (by omega)
  obtain ⟨v,hH,hv⟩:=recH ht h (k:=((n+1:Nat):Int)) (by omega) (by omega)
  rw [jaJ]
  simp only [j1M]
  rw [j00 (by omega),j5,show j0K (o,l) (L.1,L.2.1,(L.2.2.1.1,L.2.2.1.2),L.2.2.2.1,L.2.2.2.2.1,L.2.2.2.2.2.1,L.2.2.2.2.2.2.1,L.2.2.2.2.2.2.2.1,L.2.2.2.2.2.2.2.2) ((n+1:Nat):Int)=_ from hH]
  simp only [j3]
  rw [j02 (x:=((n+1:Nat):Int)-1) (by omega) (by omega),show ((n+1:Nat):Int)-1=(n:Int) by omega]
  cases hx:hO o l L ((n+1:Nat):Int) with
  | none=>
   simp only [v8,j6,j07]
   exact ⟨k,e,k0,k1⟩
  | some x=>
   have:=hv x hx
   subst this
   simp only [zi,j5]
   by_cases hc:v≤t
   ·rw [j00 hc,j5,j0b]
    exact ⟨_,rfl,by omega,v,hx,hc⟩
   ·rw [j01 hc,j6,j07]
    exact ⟨k,e,k0,k1⟩
theorem jwx {o:Int} {l:TrL} (ht:TOk o l) {L:j0Q} (h:Rt L) {t:Int}:∀ (n:Nat) (k:Int),k+n=2386093→0≤k→QO o l L t k→
  ∃ K:Int,j4D t k o l L.1 L.2.1 L.2.2.1.1 L.2.2.1.2 L.2.2.2.1 L.2.2.2.2.1 L.2.2.2.2.2.1 L.2.2.2.2.2.2.1 L.2.2.2.2.2.2.2.1 L.2.2.2.2.2.2.2.2=some K∧0≤K∧QO o l L t K∧¬ QO o l L t (K+1)
 | 0,k,hn,hk,hq=>by
  obtain ⟨v,hv,_⟩:=hq
  have:=jsn ht h hk hv
  omega
 | n+1,k,hn,hk,hq=>by
  obtain ⟨v,hH,hv⟩:=recH ht h (k:=k+1) (by omega) (by omega)
  rw [jfn]
  simp only [j2h]
  rw [j02 (x:=k+1) (by omega) (by omega),show j0K (o,l) (L.1,L.2.1,(L.2.2.1.1,L.2.2.1.2),L.2.2.2.1,L.2.2.2.2.1,L.2.2.2.2.2.1,L.2.2.2.2.2.2.1,L.2.2.2.2.2.2.2.1,L.2.2.2.2.2.2.2.2) (k+1)=_ from hH]
  simp only [j3]
  cases hx:hO o l L (k+1) with
  | none=>
   simp only [v8,kb,j5,j0b]
   exact ⟨k,rfl,hk,hq,fun ⟨y,hy,_⟩=>by rw [hx] at hy;simp at hy⟩
  | some x=>
   have:=hv x hx
   subst this
   simp only [zi,jt,j6]
   by_cases hc:v>t
   ·rw [j00 hc,j5,j0b]
    exact ⟨k,rfl,hk,hq,fun ⟨y,hy,hyt⟩=>by rw [hx] at hy;simp at hy;omega⟩
   ·rw [j01 hc,j6,j07]
    exact jwx ht h n (k+1) (by omega) (by omega) ⟨v,hx,by omega⟩
theorem jtQ {o:Int} {l:TrL} {L:j0Q} (h:Rt L) {t v:Int} (h0:L.2.2.2.1=0) (htt:t≤8589934592) (hf:fO o l (sLoc L 0)=some v) (hvt:v≤t) (hv0:0≤v) :
  ShO o l L t ((t-v)/(3600*L.2.2.2.2.1))∧0≤(t-v)/(3600*L.2.2.2.2.1)∧(t-v)/(3600*L.2.2.2.2.1)≤8589934592:=by
 have he0:=h.e0;have he1:=h.e1
 have q0:0≤(t-v)/(3600*L.2.2.2.2.1):=Int.ediv_nonneg (by omega) (by omega)
 have q1:3600*L.2.2.2.2.1*((t-v)/(3600*L.2.2.2.2.1))≤t-v:=Int.mul_ediv_self_le (by omega)
 have q2:t-v<3600*L.2.2.2.2.1*((t-v)/(3600*L.2.2.2.2.1))+3600*L.2.2.2.2.1:=Int.lt_mul_ediv_self_add (by omega)
 have q3:(t-v)/(3600*L.2.2.2.2.1)≤t-v:=Int.ediv_le_self _ (by omega)
 generalize (t-v)/(3600*L.2.2.2.2.1)=K at *
 refine ⟨.inr ⟨q0,⟨v+3600*L.2.2.2.2.1*K,?_,by omega⟩,?_⟩,q0,by omega⟩
 ·unfold hO
  rw [if_pos h0,hf]
  simp only [j3]
  rw [if_pos (by omega)]
 ·rintro ⟨y,hy,hyt⟩
  unfold hO at hy
  rw [if_pos h0,hf] at hy
  simp only [j3,Int.mul_add,Int.mul_one] at hy
  split at hy
  ·simp at hy;omega
  ·simp at hy
theorem jvo {o:Int} {l:TrL} {L:j0Q} (h0:L.2.2.2.1=0) {v:Int} (hv:hO o l L 0=some v):fO o l (sLoc L 0)=some v:=by
 unfold hO at hv
 rw [if_pos h0] at hv
 cases hf:fO o l (sLoc L 0) with
 | none=>rw [hf] at hv;simp at hv
 | some x=>
  rw [hf] at hv
  simp only [j3,Int.mul_zero,Int.add_zero] at hv
  split at hv
  ·simpa using hv
  ·simp at hv
theorem jxo {o:Int} {l:TrL} (ht:TOk o l) {L:j0Q} (h:Rt L) {t:Int} (h0t:0≤t) (htt:t≤8589934592):∃ K:Int,j1S (o,l) L t=some K∧ShO o l L t K:=by
 have hs:=h.step
 have hd0:=h.d0;have hd1:=h.d1;have he0:=h.e0;have he1:=h.e1
 obtain ⟨v0,hH,hv⟩:=recH ht h (k:=0) (by omega) (by omega)
 have hstep:j8W (L.1,L.2.1,(L.2.2.1.1,L.2.2.1.2),L.2.2.2.1,L.2.2.2.2.1,L.2.2.2.2.2.1,L.2.2.2.2.2.2.1,L.2.2.2.2.2.2.2.1,L.2.2.2.2.2.2.2.2)=_:=jpX h
 simp only [j1S,show j0K (o,l) (L.1,L.2.1,(L.2.2.1.1,L.2.2.1.2),L.2.2.2.1,L.2.2.2.2.1,L.2.2.2.2.2.1,L.2.2.2.2.2.2.1,L.2.2.2.2.2.2.2.1,L.2.2.2.2.2.2.2.2) 0=_ from hH,hstep,j3]
 cases hx:hO o l L 0 with
 | none=>
  simp only [v8,kb,j5]
  exact ⟨-1,rfl,.inl ⟨rfl,fun ⟨y,hy,_⟩=>by rw [hx] at hy;simp at hy⟩⟩
 | some v=>
  have:=hv v hx
  subst this
  simp only [zi,jt,j6]
  by_cases hc:v0>t
  ·rw [j00 hc,j5]
   exact ⟨-1,rfl,.inl ⟨rfl,fun ⟨y,hy,hyt⟩=>by rw [hx] at hy;simp at hy;omega⟩⟩
  ·rw [j01 hc,j6]
   have hq:QO o l L t 0:=⟨v0,hx,by omega⟩
   have hva:=jsn ht h (k:=0) (by omega) hx
   by_cases h0:L.2.2.2.1=0
   ·obtain ⟨s1,s2,s3⟩:=jtQ (o:=o) (l:=l) h h0 htt (jvo h0 hx) (by omega) hva.1
    rw [j7g h0,j5,j02 (x:=t-v0) (by omega) (by omega),j02 (x:=3600*L.2.2.2.2.1) (by omega) (by omega),j3V (show ¬ 3600*L.2.2.2.2.1=0 by omega),zo (by omega),j02 (x:=(t-v0)/(3600*L.2.2.2.2.1)) (by omega) (by omega)]
    exact ⟨_,rfl,s1⟩
   ·obtain ⟨j,hj,j1,j2⟩:=jgF ht h0t htt
    have o0:=ht.of0 j hj;have o1:=ht.of1 j hj
    rw [j3V h0,j6,jiz ht hj j1 j2]
    simp only [j3]
    generalize hld:(t+tof o l j)/86400=ld
    rw [j3V (show ¬ j7Z L=0 by omega),j02 (x:=ld-L.2.2.1.1) (by omega) (by omega)]
    simp only [kb,j5]
    obtain ⟨n,hn,hn2⟩:∃ n:Nat,(if w64 (Int.tdiv (ld-L.2.2.1.1) (j7Z L))>0 then w64 (Int.tdiv (ld-L.2.2.1.1) (j7Z L)) else 0)=(n:Int)∧(n:Int)≤8589934592:=by
     by_cases hneg:0≤ld-L.2.2.1.1
     ·rw [zo hneg]
      have q0:0≤(ld-L.2.2.1.1)/j7Z L:=Int.ediv_nonneg hneg (by omega)
      have q1:(ld-L.2.2.1.1)/j7Z L≤ld-L.2.2.1.1:=Int.ediv_le_self _ hneg
      rw [j02 (by omega) (by omega)]
      refine ⟨((ld-L.2.2.1.1)/j7Z L).toNat,?_,?_⟩
      ·split<;>omega
      ·omega
     ·have e:Int.tdiv (ld-L.2.2.1.1) (j7Z L) = -((-(ld-L.2.2.1.1))/j7Z L):=by
       rw [←zo (by omega),Int.neg_tdiv,Int.neg_neg]
      have q0:0≤(-(ld-L.2.2.1.1))/j7Z L:=Int.ediv_nonneg (by omega) (by omega)
      have q1:(-(ld-L.2.2.1.1))/j7Z L ≤ -(ld-L.2.2.1.1):=Int.ediv_le_self _ (by omega)
      rw [e,j02 (by omega) (by omega),if_neg (by omega)]
      exact ⟨0,rfl,by omega⟩
    rw [hn]
    obtain ⟨k,e,k0,k1⟩:=jww ht h (kc _) hq n hn2
    have hkb:=k1
    obtain ⟨y,hy,_⟩:=hkb
    have hkk:=jsn ht h k0 hy
    obtain ⟨K,e2,K0,K1,K2⟩:=jwx ht h (t:=t) (2386093-k).toNat k (by omega) k0 k1
    simp only [e,j3,e2]
    exact ⟨K,rfl,.inr ⟨K0,K1,K2⟩⟩
end Go.Proofs.Pw
