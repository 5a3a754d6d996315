/- What the dice make of a configuration by changing one thing. -/
import Derived.Test.YtllkgjaoejhneaaGreatDEPO
import Derived.Test.YtllkgjaoejhneaaGreatDEPL
import Derived.Test.YtllkgjaoejhneaaGreatDEPI
open _root_ renaming Int->q,List->A,Nat->O,ByteArray->R,Option->S
open Option renaming some->D,some_or->X,none->Y
open List renaming getD->E,getD_eq_getElem?_getD->H,mem_or_eq_of_mem_set->I
open Int renaming ofNat->F,ofNat_eq_natCast->N
open Decidable renaming decide->G
open ByteArray renaming mk->J,empty->K
open Go Go.Lft
namespace Go.Proofs.Pw
def OKr (L:A q) (r:S (CfgT×A q×q)):Prop:=∃ k a',r=D (k,L,a')∧CW k∧DOk L a'
section
variable {L:A q}
theorem okN {a n:q} {f:q×A q×q→S (CfgT×A q×q)} (hd:DOk L a) (h1:1≤n) (h2:n≤1000000000000) (h:∀ x a',0≤x→x<n→DOk L a'→OKr L (f (x,L,a'))):OKr L ((j02 L a n).bind f):=by
 obtain ⟨x,a',e,x0,x1,d⟩:=j0K hd h1 h2
 rw [e]
 exact h x a' x0 x1 d
theorem okP {a:q} {xs:A q} {f:q×A q×q→S (CfgT×A q×q)} (hd:DOk L a) (h1:0<xs.length) (h2:xs.length≤1000000) (h:∀ x a',x∈xs→DOk L a'→OKr L (f (x,L,a'))):OKr L ((j0a L a xs).bind f):=by
 obtain ⟨x,a',e,x0,d⟩:=j8a hd h1 h2
 rw [e]
 exact h x a' x0 d
theorem okE {a:q} {u0 u1 u2 u3:A Unit} {f:jbb×A q×q→S (CfgT×A q×q)} (hd:DOk L a) (h1:1≤u1.length) (h2:u1.length≤100) (h:∀ (x:jbb) a',x.2.2.2.1≤1000000000000→x.2.2.2.2≤1000000000000→DOk L a'→OKr L (f (x,L,a'))) :
  OKr L ((j5w L a (u0,(u1,(u2,u3)))).bind f):=by
 obtain ⟨x,a',e,x0,d⟩:=jrN hd (u0:=u0) (u2:=u2) (u3:=u3) h1 h2
 rw [e]
 exact h x a' x0.1 x0.2 d
theorem okQ {x y:q} {a b:S (CfgT×A q×q)} (h1:x=y→OKr L a) (h2:x≠y→OKr L b):OKr L (cond (x==y) a b):=by
 by_cases h:x=y
 ·rw [j5N h];exact h1 h
 ·rw [j2q h];exact h2 h
theorem okT {b:Bool} {x:S (CfgT×A q×q)} (h:b=true) (hx:OKr L x):OKr L (cond b x Y):=by rw [h];exact hx
theorem okS {a:q} {k:CfgT} (hd:DOk L a) (h:CW k):OKr L (D (k,L,a)):=⟨k,a,rfl,h,hd⟩
end
theorem jzX {zs:A j1l} (h:∀ z∈zs,ZW z) (i:O) (nm:R) (o:q):∀ z∈zs.set i (nm,(o,(zs.getD i (K,((0:q),([]:A Rule)))).2.2)),ZW z:=fun z hz=>by
 by_cases hi:i<zs.length
 ·rcases I hz with hz | rfl
  ·exact h z hz
  ·have:=h zs[i] (jx hi)
   rw [show zs.getD i (K,((0:q),([]:A Rule)))=zs[i] by simp [E,hi]]
   exact ⟨this.ok,this.len,this.yr,this.few⟩
 ·rw [List.set_eq_of_length_le omg_] at hz
  exact h z hz
theorem jyR {ls:A j0j} (h:LyW ls) (i:O) {x:j0j} (hx:x.2.2.2.2.2.2.1.length≤3):LyW (ls.set i x):=fun y hy=>by
 rcases I hy with hy | rfl
 ·exact h y hy
 ·exact hx
theorem jyS {ls:A j0j} (h:LyW ls) (i:O):(ls.getD i (K,((0:q),(((0:q),(0:q)),((0:q),((0:q),(([]:A q),(([]:WL),((0:q),(0:q)))))))))).2.2.2.2.2.2.1.length≤3:=by
 by_cases hi:i<ls.length
 ·rw [H,jv hi]
  exact h _ (jx hi)
 ·rw [H,qk omg_]
  simp
theorem cw1 {zs:A j1l} {ps:A j1s} {cs:A CalT} {nm:R} {ls:A j0j} {es:A jbb} (hz:∀ z∈zs,ZW z) (hl:LyW ls) (he:EdW es):CW (zs,(ps,(cs,[(nm,(ls,es))]))):=
 ⟨hz,fun s hs x hx=>by simp at hs;subst hs;have:=he x hx;omega,fun s hs=>by simp at hs;subst hs;exact hl⟩
theorem cw2 {zs:A j1l} {ps:A j1s} {cs:A CalT} {nm nm':R} {ls:A j0j} {es:A jbb} (hz:∀ z∈zs,ZW z) (hl:LyW ls) (he:EdW es):CW (zs,(ps,(cs,[(nm,(ls,es)),(nm',(([]:A j0j),([]:A jbb)))]))):=
 ⟨hz,fun s hs x hx=>by
  simp at hs
  rcases hs with rfl | rfl
  ·have:=he x hx;omega
  ·simp at hx,fun s hs=>by
  simp at hs
  rcases hs with rfl | rfl
  ·exact hl
  ·exact fun x hx=>by simp at hx⟩
theorem jzY {L:A q} {a:q} (h:DOk L a) {zs:A j1l} {ps:A j1s} {cs:A CalT} {nm:R} {ls:A j0j} {es:A jbb} (hs:SOk zs ps cs) (hll:ls.length≤3) (hl:LyW ls) (hel:es.length≤3) (he:EdW es) :
  OKr L (j9U L a (zs,(ps,(cs,[(nm,(ls,es))])))):=by
 have hz0:=hs.z0;have hz1:=hs.z1;have hp0:=hs.p0;have hp1:=hs.p1;have hc1:=hs.c1
 have hzw:∀ z∈zs,ZW z:=fun z hz=>(hs.ok z hz).w
 have cp:jgR (zs,(ps,(cs,[(nm,(ls,es))])))=D (zs,ps,cs,nm,ls,es):=by
  simp only [jgR,qc,kj,kg,qw,N]
  rw [j00 (show zs.length≤j05 by unfold j05;omega),j00 (show ps.length≤j05 by unfold j05;omega),j00 (show cs.length≤j05 by unfold j05;omega),j00 (show (0:q)<((1:O):q) by omega),j1v (show (0:q)≤0 by omega) (show (0:q)<((1:O):q) by omega)]
  simp only [jc,List.getD_cons_zero]
  rw [j00 (show ls.length≤j05 by unfold j05;omega),j00 (show es.length≤j05 by unfold j05;omega),j01 (show ¬ (1:q)<((1:O):q) by omega)]
  rfl
 unfold j9U
 simp only [cp,ja,N]
 refine okN h omg_ omg_ (fun x a1 x0 x1 hd=> ?_)
 repeat' ((try dsimp only);first
  | refine okQ (fun hq=> ?_) (fun hq=> ?_)
  | refine okN (by assumption) omg_ omg_ (fun _ _ _ _ _=> ?_)
  | refine okP (by assumption) smp_ smp_ (fun _ _ _ _=> ?_)
  | refine okE (by assumption) (by rw [zw];omega) (by rw [zw];omega) (fun _ _ _ _ _=> ?_)
  | refine okT (j1o) ?_
  | refine okT (j1v omg_ (by simp only [jp,qc];omega)) ?_
  | refine okT (j00 (by simp only [j05,jp,qc];omega)) ?_
  | refine okS (by assumption) (cw2 hzw hl he)
  | refine okS (by assumption) (cw1 (jzX hzw _ _ _) hl he)
  | refine okS (by assumption) (cw1 hzw hl he)
  | refine okS (by assumption) (cw1 hzw (jyR hl _ (jyS hl _)) he)
  | refine okS (by assumption) (cw1 hzw hl (he.snoc (by dsimp only;first | assumption | omega | (simp only [jl,List.not_mem_nil,or_false] at *;omega)))))
theorem jqP {c:CfgT} (hc:CW c) {p:j0j} (hp:p.2.2.2.2.2.2.1.length≤3):∃ b,j7I c p=D b∧j9X c p=D b∧(b=true→GOk c.1 c.2.1 c.2.2.1∧LC1 c.1.length c.2.1.length c.2.2.1.length p):=by
 obtain ⟨zs,ps,cs,ss⟩:=c
 obtain ⟨e,e1,e2,e3⟩:=hc.chk
 have ha:CW (zs,(ps,(cs,[((J #[97]),([p],([]:A jbb)))]))):=cw1 hc.z (fun x hx=>by simp at hx;subst hx;exact hp) (fun x hx=>by simp at hx)
 obtain ⟨f,f1,f2,f3⟩:=ha.chk
 simp only [j7I,j9X]
 rw [e1,e2]
 simp only [ja]
 by_cases he:e=0
 ·subst he
  obtain ⟨_,hg⟩:=e3 rfl
  simp only [jm,jd,qh,jc]
  rw [show j3B (zs,(ps,(cs,[((J #[97]),([(p.1,(p.2.1,((p.2.2.1.1,p.2.2.1.2),(p.2.2.2.1,(p.2.2.2.2.1,(p.2.2.2.2.2.1,(p.2.2.2.2.2.2.1,(p.2.2.2.2.2.2.2.1,p.2.2.2.2.2.2.2.2))))))))],([]:A jbb)))])))=D f from f1,
   show jaB (zs,(ps,(cs,[((J #[97]),([(p.1,(p.2.1,((p.2.2.1.1,p.2.2.1.2),(p.2.2.2.1,(p.2.2.2.2.1,(p.2.2.2.2.2.1,(p.2.2.2.2.2.2.1,(p.2.2.2.2.2.2.2.1,p.2.2.2.2.2.2.2.2))))))))],([]:A jbb)))])))=D f from f2]
  refine ⟨f==0,rfl,rfl,fun hb=>⟨hg,?_⟩⟩
  have hf:f=0:=by simpa using hb
  obtain ⟨hC,_⟩:=f3 hf
  exact ⟨(hC.s ((J #[97]),([p],([]:A jbb))) (qj.2 rfl)).ly p (qj.2 rfl),hp⟩
 ·rw [show (e != 0)=true by simpa using he,j2q he]
  exact ⟨false,rfl,rfl,fun h=>by simp at h⟩
theorem jzZ {c:CfgT} (hc:CW c) {p:j0j} (hp:p.2.2.2.2.2.2.1.length≤3) (t:q) :
  (∃ b,jfZ c p t=D b∧jcJ c p t=D b)∧∃ n,j5T c p t=D n∧jai c p t=D n:=by
 obtain ⟨zs,ps,cs,ss⟩:=c
 obtain ⟨b,b1,b2,b3⟩:=jqP hc hp
 have b1':j7I (zs,(ps,(cs,ss))) (p.1,(p.2.1,((p.2.2.1.1,p.2.2.1.2),(p.2.2.2.1,(p.2.2.2.2.1,(p.2.2.2.2.2.1,(p.2.2.2.2.2.2.1,(p.2.2.2.2.2.2.2.1,p.2.2.2.2.2.2.2.2))))))))=D b:=b1
 have b2':j9X (zs,(ps,(cs,ss))) (p.1,(p.2.1,((p.2.2.1.1,p.2.2.1.2),(p.2.2.2.1,(p.2.2.2.2.1,(p.2.2.2.2.2.1,(p.2.2.2.2.2.2.1,(p.2.2.2.2.2.2.2.1,p.2.2.2.2.2.2.2.2))))))))=D b:=b2
 cases b with
 | false=>
  have r1:jcJ (zs,(ps,(cs,ss))) p t=D false:=by
   simp only [jcJ,b2',ja,jd]
   cases (cond (G (t≥(0:q))) (G (t≤(8589934592:q))) false)<;>rfl
  refine ⟨⟨false,?_,r1⟩, -1,?_,?_⟩
  ·simp only [jfZ,b1',ja];rfl
  ·simp only [j5T,b1',ja];rfl
  ·simp only [jai]
   rw [show jcJ (zs,(ps,(cs,ss))) (p.1,(p.2.1,((p.2.2.1.1,p.2.2.1.2),(p.2.2.2.1,(p.2.2.2.2.1,(p.2.2.2.2.2.1,(p.2.2.2.2.2.2.1,(p.2.2.2.2.2.2.2.1,p.2.2.2.2.2.2.2.2)))))))) t=_ from r1]
   rfl
 | true=>
  obtain ⟨hg,hL⟩:=b3 rfl
  have hv:=jqI (ps:=ps) (cs:=cs) (ss:=ss) hg.ok (by have:=hg.zl;omega)
  by_cases ht:0≤t∧t≤8589934592
  ·obtain ⟨⟨r,er⟩,eP,_⟩:=jAj hg hL (ss:=ss) ht.1 ht.2
   obtain ⟨k,ek,_⟩:=jqL hg hL (ss:=ss) ht.1 ht.2
   have eR:=jrH hg hL (ss:=ss) ht.1 ht.2
   have r1:jcJ (zs,(ps,(cs,ss))) p t=D (onX zs cs p t):=by
    simp only [jcJ,b2',ja,jc]
    rw [j00 (show t≥0 from ht.1),j00 ht.2]
    simp only [jc,jaF]
    rw [show jby (zs,(ps,(cs,ss))) (p.1,(p.2.1,((p.2.2.1.1,p.2.2.1.2),(p.2.2.2.1,(p.2.2.2.2.1,(p.2.2.2.2.2.1,(p.2.2.2.2.2.2.1,(p.2.2.2.2.2.2.2.1,p.2.2.2.2.2.2.2.2)))))))) t=_ from ek]
    rfl
   refine ⟨⟨onX zs cs p t,?_,r1⟩,perX zs cs p t,?_,?_⟩
   ·simp only [jfZ,b1',ja,jk,jd,hv]
    rw [show j21 ((zs,(ps,(cs,ss))),zs.map tb) (p.1,(p.2.1,((p.2.2.1.1,p.2.2.1.2),(p.2.2.2.1,(p.2.2.2.2.1,(p.2.2.2.2.2.1,(p.2.2.2.2.2.2.1,(p.2.2.2.2.2.2.2.1,p.2.2.2.2.2.2.2.2)))))))) t=_ from er]
    rfl
   ·simp only [j5T,b1',ja,jk,jd,hv]
    rw [show j3j ((zs,(ps,(cs,ss))),zs.map tb) (p.1,(p.2.1,((p.2.2.1.1,p.2.2.1.2),(p.2.2.2.1,(p.2.2.2.2.1,(p.2.2.2.2.2.1,(p.2.2.2.2.2.2.1,(p.2.2.2.2.2.2.2.1,p.2.2.2.2.2.2.2.2)))))))) t=_ from eP]
    rfl
   ·simp only [jai]
    rw [show jcJ (zs,(ps,(cs,ss))) (p.1,(p.2.1,((p.2.2.1.1,p.2.2.1.2),(p.2.2.2.1,(p.2.2.2.2.1,(p.2.2.2.2.2.1,(p.2.2.2.2.2.2.1,(p.2.2.2.2.2.2.2.1,p.2.2.2.2.2.2.2.2)))))))) t=_ from r1]
    simp only [ja]
    cases hon:onX zs cs p t with
    | false=>
     simp only [jt,jc,perX,hon,jd]
    | true=>
     simp only [jk,jd]
     rw [show jdh (zs,(ps,(cs,ss))) (p.1,(p.2.1,((p.2.2.1.1,p.2.2.1.2),(p.2.2.2.1,(p.2.2.2.2.1,(p.2.2.2.2.2.1,(p.2.2.2.2.2.2.1,(p.2.2.2.2.2.2.2.1,p.2.2.2.2.2.2.2.2)))))))) t=_ from eR]
     rfl
  ·have e0:j21 ((zs,(ps,(cs,ss))),zs.map tb) p t=D (0,false):=by
    simp only [j21]
    by_cases h0:t<0
    ·rw [j00 h0];rfl
    ·rw [j01 h0,j00 (show t>8589934592 by omega)];rfl
   have r1:jcJ (zs,(ps,(cs,ss))) p t=D false:=by
    simp only [jcJ]
    by_cases h0:t≥0
    ·rw [j00 h0,j01 (show ¬ t≤8589934592 by omega)];rfl
    ·rw [j01 h0];rfl
   refine ⟨⟨false,?_,r1⟩, -1,?_,?_⟩
   ·simp only [jfZ,b1',ja,jk,jd,hv]
    rw [show j21 ((zs,(ps,(cs,ss))),zs.map tb) (p.1,(p.2.1,((p.2.2.1.1,p.2.2.1.2),(p.2.2.2.1,(p.2.2.2.2.1,(p.2.2.2.2.2.1,(p.2.2.2.2.2.2.1,(p.2.2.2.2.2.2.2.1,p.2.2.2.2.2.2.2.2)))))))) t=_ from e0]
    rfl
   ·simp only [j5T,b1',ja,jk,jd,hv,j3j]
    rw [show j21 ((zs,(ps,(cs,ss))),zs.map tb) (p.1,(p.2.1,((p.2.2.1.1,p.2.2.1.2),(p.2.2.2.1,(p.2.2.2.2.1,(p.2.2.2.2.2.1,(p.2.2.2.2.2.2.1,(p.2.2.2.2.2.2.2.1,p.2.2.2.2.2.2.2.2)))))))) t=_ from e0]
    rfl
   ·simp only [jai]
    rw [show jcJ (zs,(ps,(cs,ss))) (p.1,(p.2.1,((p.2.2.1.1,p.2.2.1.2),(p.2.2.2.1,(p.2.2.2.2.1,(p.2.2.2.2.2.1,(p.2.2.2.2.2.2.1,(p.2.2.2.2.2.2.2.1,p.2.2.2.2.2.2.2.2)))))))) t=_ from r1]
    rfl
section
variable {zs:A j1l} {ps:A j1s} {cs:A CalT} {ss:A j3z}
theorem jpm (hs:GOk zs ps cs) {L:j0j} (hL:LC1 zs.length ps.length cs.length L) {a b:q} (ha:0≤a) (hab:a≤b) (hb:b≤8589934592) (hlen:b-a≤34560000) :
  ∃ C,jbB (zs,(ps,(cs,ss))) L a b=D C∧∃ B,j8t C a b=D B∧B.Pairwise (· < ·)∧B.length≤2500000∧(∀ x∈B,a≤x∧x≤b)∧(∃ r,B=a::r)∧B.getD (B.length-1) 0=b∧
   ∀ x y,x∈B→x≤y→y<b→(∀ c∈B,¬ (x<c∧c≤y))→perX zs cs L x=perX zs cs L y:=by
 obtain ⟨C,e1,l1,h1⟩:=jvm hs hL (ss:=ss) ha hab hb hlen
 obtain ⟨b1,b2,b3,b4,b5,b6,b7⟩:=jyD C hab
 refine ⟨C,e1,_,jsR omg_ a b,b1,omg_,b3,b5,?_,fun x y hx hxy hyb hno=> ?_⟩
 ·by_cases hlt:a<b
  ·obtain ⟨r,hr⟩:=b6 hlt
   rw [hr];simp [E]
  ·rw [b7 omg_]
   show a=b
   omega
 ·have:=b3 x hx
  exact h1 x y this.1 hxy hyb (fun c hc hcc=>hno c (b4 c hc omg_ omg_) hcc)
theorem jlX {f:q→q} {B:A q} {b:q} (hB:B.Pairwise (· < ·)) (hlast:B.getD (B.length-1) 0=b) (hsame:∀ x y,x∈B→x≤y→y<b→(∀ c∈B,¬ (x<c∧c≤y))→f x=f y) {j:O} (h2:j+1<B.length) :
  B.getD j 0<B.getD (j+1) 0∧B.getD (j+1) 0≤b∧∀ t,B.getD j 0≤t→t<B.getD (j+1) 0→f t=f (B.getD j 0):=by
 have h1:j<B.length:=omg_
 have g1:B.getD j (0:q)=B[j]:=by simp [E,h1]
 have g2:B.getD (j+1) (0:q)=B[j+1]:=by simp [E,h2]
 have hpw:=vd.1 hB
 have hlt:B[j]<B[j+1]:=hpw j (j+1) h1 h2 omg_
 have hle:B[j+1]≤b:=by
  have gl:B.getD (B.length-1) (0:q)=B[B.length-1]:=by simp [E,show B.length-1<B.length by omega]
  rw [gl] at hlast
  by_cases he:j+1=B.length-1
  ·have:B[j+1]=B[B.length-1]:=by congr 1
   omega
  ·have:=hpw (j+1) (B.length-1) h2 omg_ omg_
   omega
 rw [g1,g2]
 refine ⟨hlt,hle,fun t t1 t2=>(hsame B[j] t (jx h1) t1 omg_ (fun c hc hcc=> ?_)).symm⟩
 obtain ⟨m,hm,rfl⟩:=List.mem_iff_getElem.1 hc
 by_cases hmj:m≤j
 ·by_cases he:m=j
  ·subst he;omega
  ·have:=hpw m j hm h1 omg_;omega
 ·by_cases he:m=j+1
  ·subst he;omega
  ·have:=hpw (j+1) m h2 hm omg_;omega
theorem jkJ {l:SgL} (hl:l.length≤100000000) (x:SgT):jaj l x=D (mgA l x):=by
 simp only [jaj,mgA]
 by_cases hx:x.2.1≤x.1
 ·rw [j00 hx,if_pos hx,jc]
 rw [j01 hx,if_neg hx,jd,oLn_ l]
 rcases vb l with rfl | ⟨r,u,rfl⟩
 ·rfl
 rw [vc] at hl ⊢
 have hlen:(r++[u]).length=r.length+1:=smp_
 rw [hlen] at hl ⊢
 have hgd:(r++[u]).getD r.length ((0:q),((0:q),(0:q)))=u:=by simp [E]
 rw [j00 (show ((r.length+1:O):q)>0 by omega),j07 (x:=((r.length+1:O):q)-1),j1o,show (((r.length+1:O):q)-1).toNat=r.length by omega,hgd]
 simp only [jc,yd,vj,X,yc]
 rw [j00 (show r.length+1+[(x.1,(x.2.1,x.2.2))].length≤j05 by simp [j05];omega)]
 simp only [jc]
 by_cases h1:u.2.1=x.1
 ·rw [j5N h1,jc]
  by_cases h2:u.2.2=x.2.2
  ·rw [j5N h2,if_pos ⟨h1,h2⟩,jc]
   congr 1
   simp
  ·rw [j2q h2,if_neg (fun h=>h2 h.2),jd]
 ·rw [j2q h1,if_neg (fun h=>h1 h.1),jd]
theorem jvs {f:q→q} {L:j0j} {B:A q} (hBl:B.length≤50000000) (hB:B.Pairwise (· < ·)) (hraw:∀ t∈B,jdh (zs,(ps,(cs,ss))) L t=D (f t)) {a b:q} (hlast:B.getD (B.length-1) 0=b)
  (hsame:∀ x y,x∈B→x≤y→y<b→(∀ c∈B,¬ (x<c∧c≤y))→f x=f y):∀ (n j:O) (acc:SgL),j+1+n=B.length→acc.length≤j→Cov f (B.getD j 0) Y a acc→
  ∃ out,j7Z (j:q) zs ps cs ss L.1 L.2.1 L.2.2.1.1 L.2.2.1.2 L.2.2.2.1 L.2.2.2.2.1 L.2.2.2.2.2.1 L.2.2.2.2.2.2.1 L.2.2.2.2.2.2.2.1 L.2.2.2.2.2.2.2.2 B acc=D out∧Cov f b Y a out
 | 0,j,acc,hj,ha,hC=>by
  rw [jbD]
  simp only [j3w,show F B.length=(B.length:q) from rfl]
  rw [j07 (x:=(j:q)+1),j01 omg_,jd,j08]
  refine ⟨acc,rfl,?_⟩
  rw [←hlast,show B.length-1=j by omega];exact hC
 | n+1,j,acc,hj,ha,hC=>by
  have h1:j<B.length:=omg_
  obtain ⟨hlt,hle,hconst⟩:=jlX hB hlast hsame (j:=j) omg_
  have hC2:=jx8 hC (s:=(B.getD j 0,(B.getD (j+1) 0,f (B.getD j 0)))) rfl (Int.le_of_lt hlt) hconst
  have hml:=jnn acc (B.getD j 0,(B.getD (j+1) 0,f (B.getD j 0)))
  have ih:=jvs hBl hB hraw hlast hsame n (j+1) (mgA acc (B.getD j 0,(B.getD (j+1) 0,f (B.getD j 0)))) omg_ omg_ hC2
  have hr:jdh (zs,(ps,(cs,ss))) L (B.getD j 0)=D (f (B.getD j 0)):=hraw _ (by rw [show B.getD j (0:q)=B[j] by simp [E,h1]];exact jx h1)
  have hr':jdh (zs,(ps,(cs,ss))) (L.1,(L.2.1,((L.2.2.1.1,L.2.2.1.2),(L.2.2.2.1,(L.2.2.2.2.1,(L.2.2.2.2.2.1,(L.2.2.2.2.2.2.1,(L.2.2.2.2.2.2.2.1,L.2.2.2.2.2.2.2.2)))))))) (B.getD j 0)=D (f (B.getD j 0)):=hr
  rw [jbD]
  simp only [j3w,show F B.length=(B.length:q) from rfl]
  rw [j07 (x:=(j:q)+1),j00 (show (j:q)+1<(B.length:q) by omega),j1v (show (0:q)≤(j:q) by omega) omg_,j1v (show (0:q)≤(j:q)+1 by omega) omg_,show ((j:q)+1).toNat=j+1 by omega]
  simp only [jc,je,hr',ja,jkJ (show acc.length≤100000000 by omega),j06]
  exact ih
theorem jA0 {l b:SL} (hb:b.length≤1000000) (hl:l.length≤8000000):j7Y l b=D (b.foldl jnA l):=by
 have:=jvh hb b.length 0 l omg_ omg_
 rw [show ((0:O):q)=0 from rfl,jy] at this
 simp only [j7Y,this,ja]
theorem jqQ {L:j0j} (hrng:∀ t,0≤t→t≤8589934592→(onX zs cs L t=true↔0≤perX zs cs L t)) {B:A q} (hBl:B.length≤5000000) (hB:B.Pairwise (· < ·)) (hin:∀ x∈B,0≤x∧x≤8589934592)
  (hhold:∀ t∈B,jaF (zs,(ps,(cs,ss))) L t=D (onX zs cs L t)) {a b:q} (hlast:B.getD (B.length-1) 0=b) (hb:b≤8589934592) (hfst:∀ x∈B,a≤x)
  (hsame:∀ x y,x∈B→x≤y→y<b→(∀ c∈B,¬ (x<c∧c≤y))→perX zs cs L x=perX zs cs L y):∀ (n j:O) (acc:SL),j+1+n=B.length→acc.length≤j→StS (a-1) acc→(∀ y,inS y acc↔a≤y∧y<B.getD j 0∧onX zs cs L y=true)→(∀ s∈acc,s.2≤B.getD j 0)→
  ∃ out,jbC (j:q) zs ps cs ss L.1 L.2.1 L.2.2.1.1 L.2.2.1.2 L.2.2.2.1 L.2.2.2.2.1 L.2.2.2.2.2.1 L.2.2.2.2.2.2.1 L.2.2.2.2.2.2.2.1 L.2.2.2.2.2.2.2.2 B acc=D out∧StS (a-1) out∧∀ y,inS y out↔a≤y∧y<b∧onX zs cs L y=true
 | 0,j,acc,hj,ha,h1,h2,h3=>by
  rw [jeD]
  simp only [j4S,show F B.length=(B.length:q) from rfl]
  rw [j07 (x:=(j:q)+1),j01 omg_,jd,j08]
  refine ⟨acc,rfl,h1,fun y=> ?_⟩
  rw [h2 y,←hlast,show B.length-1=j by omega]
 | n+1,j,acc,hj,hal,h1,h2,h3=>by
  have hjl:j<B.length:=omg_
  obtain ⟨hlt,hle,hconst⟩:=jlX hB hlast hsame (j:=j) omg_
  have hm:B.getD j (0:q)∈B:=by rw [show B.getD j (0:q)=B[j] by simp [E,hjl]];exact jx hjl
  have hin0:=hin _ hm
  have hf0:=hfst _ hm
  have hon:∀ t,B.getD j 0≤t→t<B.getD (j+1) 0→onX zs cs L t=onX zs cs L (B.getD j 0):=fun t t1 t2=>by
   have e1:=hrng t omg_ omg_
   have e2:=hrng (B.getD j 0) omg_ omg_
   rw [hconst t t1 t2] at e1
   exact Bool.eq_iff_iff.2 (e1.trans e2.symm)
  have hh:=hhold _ hm
  have hh':jaF (zs,(ps,(cs,ss))) (L.1,(L.2.1,((L.2.2.1.1,L.2.2.1.2),(L.2.2.2.1,(L.2.2.2.2.1,(L.2.2.2.2.2.1,(L.2.2.2.2.2.2.1,(L.2.2.2.2.2.2.2.1,L.2.2.2.2.2.2.2.2)))))))) (B.getD j 0)=D (onX zs cs L (B.getD j 0)):=hh
  rw [jeD]
  simp only [j4S,show F B.length=(B.length:q) from rfl]
  rw [j07 (x:=(j:q)+1),j00 (show (j:q)+1<(B.length:q) by omega),j1v (show (0:q)≤(j:q) by omega) omg_,j1v (show (0:q)≤(j:q)+1 by omega) omg_,show ((j:q)+1).toNat=j+1 by omega]
  simp only [jc,je,hh',ja]
  cases hc:onX zs cs L (B.getD j 0) with
  | true=>
   have hj5:=jA0 (l:=acc) (b:=[(B.getD j 0,B.getD (j+1) 0)]) smp_ omg_
   simp only [yk,List.foldl_nil] at hj5
   obtain ⟨q1,q2,q3⟩:=jxd h1 (x:=(B.getD j 0,B.getD (j+1) 0)) (by dsimp only;omega) hlt h3
   have hjl2:=jqM acc (B.getD j 0,B.getD (j+1) 0)
   simp only [jc,hj5,ja,j06]
   refine jqQ hrng hBl hB hin hhold hlast hb hfst hsame n (j+1) (jnA acc (B.getD j 0,B.getD (j+1) 0)) omg_ omg_ q1 (fun y=> ?_) q3
   rw [q2 y,h2 y]
   dsimp only
   constructor
   ·rintro (⟨g1,g2,g3⟩ | ⟨g1,g2⟩)
    ·exact ⟨g1,omg_,g3⟩
    ·exact ⟨omg_,g2,by rw [hon y g1 g2,hc]⟩
   ·rintro ⟨g1,g2,g3⟩
    by_cases hy:y<B.getD j 0
    ·exact .inl ⟨g1,hy,g3⟩
    ·exact .inr ⟨omg_,g2⟩
  | false=>
   simp only [jd,j06]
   refine jqQ hrng hBl hB hin hhold hlast hb hfst hsame n (j+1) acc omg_ omg_ h1 (fun y=> ?_) (fun s hs=>by have:=h3 s hs;omega)
   rw [h2 y]
   constructor
   ·rintro ⟨g1,g2,g3⟩
    exact ⟨g1,omg_,g3⟩
   ·rintro ⟨g1,g2,g3⟩
    by_cases hy:y<B.getD j 0
    ·exact ⟨g1,hy,g3⟩
    ·rw [hon y omg_ g2,hc] at g3
     simp at g3
end
theorem jA1 (a b:q):∃ v,j6M a b=D v∧(v=true→0≤a∧a≤b∧b≤8589934592∧b-a≤34560000):=by
 refine ⟨_,rfl,fun h=> ?_⟩
 have h':(G (a≥0)&&G (a≤8589934592)&&G (b≥a)&&G (b≤8589934592)&&G (w64 (b-a)≤34560000))=true:=by
  revert h
  cases G (a≥(0:q))<;>cases G (a≤(8589934592:q))<;>cases G (b≥a)<;>cases G (b≤(8589934592:q))<;>cases G (w64 (b-a)≤(34560000:q))<;>simp
 simp only [ji,jq] at h'
 obtain ⟨⟨⟨⟨h1,h2⟩,h3⟩,h4⟩,h5⟩:=h'
 rw [j07 (x:=b-a)] at h5
 exact ⟨h1,h3,h4,h5⟩
theorem jA2 {c:CfgT} (hc:CW c) {p:j0j} (hp:p.2.2.2.2.2.2.1.length≤3) (a b:q):∃ l e,jcF c p a b=D (l,e)∧jh0 c p a b=D (l,e)∧l.length≤4096:=by
 obtain ⟨zs,ps,cs,ss⟩:=c
 obtain ⟨f,f1,f2,f3⟩:=jqP hc hp
 have f1':j7I (zs,(ps,(cs,ss))) (p.1,(p.2.1,((p.2.2.1.1,p.2.2.1.2),(p.2.2.2.1,(p.2.2.2.2.1,(p.2.2.2.2.2.1,(p.2.2.2.2.2.2.1,(p.2.2.2.2.2.2.2.1,p.2.2.2.2.2.2.2.2))))))))=D f:=f1
 have f2':j9X (zs,(ps,(cs,ss))) (p.1,(p.2.1,((p.2.2.1.1,p.2.2.1.2),(p.2.2.2.1,(p.2.2.2.2.1,(p.2.2.2.2.2.1,(p.2.2.2.2.2.2.1,(p.2.2.2.2.2.2.2.1,p.2.2.2.2.2.2.2.2))))))))=D f:=f2
 obtain ⟨v,v1,v2⟩:=jA1 a b
 have v1':jf4 a b=D v:=v1
 simp only [jcF,jh0,jcA,f1',f2',v1,v1',ja]
 cases f with
 | false=>exact ⟨[],8,rfl,rfl,smp_⟩
 | true=>
 cases v with
 | false=>exact ⟨[],1,rfl,rfl,smp_⟩
 | true=>
 obtain ⟨hg,hL⟩:GOk zs ps cs∧LC1 zs.length ps.length cs.length p:=f3 rfl
 obtain ⟨ha,hab,hb,hlen⟩:=v2 rfl
 have hv:=jqI (ps:=ps) (cs:=cs) (ss:=ss) hg.ok (by have:=hg.zl;omega)
 obtain ⟨o,eo,o1,o2,o3⟩:=jpf hg hL (ss:=ss) ha hab hb (M:=58) omg_ omg_
 obtain ⟨C,eC,B,eB,b1,b2,b3,⟨r,hr⟩,b5,b6⟩:=jpm hg hL (ss:=ss) ha hab hb hlen
 obtain ⟨o',eo',p1,p2⟩:=jqQ (ss:=ss) (a:=a) (b:=b) (L:=p) (fun t h0 h1=>(jyv hL h0 h1).1) (B:=B) omg_ b1 (fun x hx=>by have:=b3 x hx;omega)
  (fun t ht=>by
   have:=b3 t ht
   obtain ⟨k,ek,_⟩:=jqL hg hL (ss:=ss) (t:=t) omg_ omg_
   have ek':jby (zs,(ps,(cs,ss))) (p.1,(p.2.1,((p.2.2.1.1,p.2.2.1.2),(p.2.2.2.1,(p.2.2.2.2.1,(p.2.2.2.2.2.1,(p.2.2.2.2.2.2.1,(p.2.2.2.2.2.2.2.1,p.2.2.2.2.2.2.2.2)))))))) t=_:=ek
   simp only [jaF]
   rw [ek']
   rfl) b5 hb (fun x hx=>(b3 x hx).1) b6 (B.length-1) 0 [] (by rw [hr];simp only [jp];omega) smp_ trivial (fun y=>by
   rw [hr]
   constructor
   ·intro h;exact absurd h j1I
   ·rintro ⟨h1,h2,_⟩
    simp [E] at h2
    omega) smp_
 have he:o'=o:=jrI p1 o1 fun x=>by rw [p2 x,o2 x]
 subst he
 have eo2:j3U ((zs,(ps,(cs,ss))),zs.map tb) (p.1,(p.2.1,((p.2.2.1.1,p.2.2.1.2),(p.2.2.2.1,(p.2.2.2.2.1,(p.2.2.2.2.2.1,(p.2.2.2.2.2.2.1,(p.2.2.2.2.2.2.2.1,p.2.2.2.2.2.2.2.2)))))))) a b=_:=eo
 have eC2:jbB (zs,(ps,(cs,ss))) (p.1,(p.2.1,((p.2.2.1.1,p.2.2.1.2),(p.2.2.2.1,(p.2.2.2.2.1,(p.2.2.2.2.2.1,(p.2.2.2.2.2.2.1,(p.2.2.2.2.2.2.2.1,p.2.2.2.2.2.2.2.2)))))))) a b=_:=eC
 rw [show ((0:O):q)=0 from rfl] at eo'
 simp only [jk,jd,jm,hv,eo2,eC2,eB,eo',ja,show F o'.length=(o'.length:q) from rfl]
 by_cases h4:(o'.length:q)>4096
 ·rw [j00 h4]
  exact ⟨[],5,rfl,rfl,smp_⟩
 ·rw [j01 h4]
  exact ⟨o',0,rfl,rfl,omg_⟩
theorem jA3 {c:CfgT} (hc:CW c) {p:j0j} (hp:p.2.2.2.2.2.2.1.length≤3) (a b:q):∃ l e,j7P c p a b=D (l,e)∧jbE c p a b=D (l,e)∧l.length≤16384:=by
 obtain ⟨zs,ps,cs,ss⟩:=c
 obtain ⟨f,f1,f2,f3⟩:=jqP hc hp
 have f1':j7I (zs,(ps,(cs,ss))) (p.1,(p.2.1,((p.2.2.1.1,p.2.2.1.2),(p.2.2.2.1,(p.2.2.2.2.1,(p.2.2.2.2.2.1,(p.2.2.2.2.2.2.1,(p.2.2.2.2.2.2.2.1,p.2.2.2.2.2.2.2.2))))))))=D f:=f1
 have f2':j9X (zs,(ps,(cs,ss))) (p.1,(p.2.1,((p.2.2.1.1,p.2.2.1.2),(p.2.2.2.1,(p.2.2.2.2.1,(p.2.2.2.2.2.1,(p.2.2.2.2.2.2.1,(p.2.2.2.2.2.2.2.1,p.2.2.2.2.2.2.2.2))))))))=D f:=f2
 obtain ⟨v,v1,v2⟩:=jA1 a b
 have v1':jf4 a b=D v:=v1
 simp only [j7P,jbE,jcA,f1',f2',v1,v1',ja]
 cases f with
 | false=>exact ⟨[],8,rfl,rfl,smp_⟩
 | true=>
 cases v with
 | false=>exact ⟨[],1,rfl,rfl,smp_⟩
 | true=>
 obtain ⟨hg,hL⟩:GOk zs ps cs∧LC1 zs.length ps.length cs.length p:=f3 rfl
 obtain ⟨ha,hab,hb,hlen⟩:=v2 rfl
 have hv:=jqI (ps:=ps) (cs:=cs) (ss:=ss) hg.ok (by have:=hg.zl;omega)
 obtain ⟨o,eo,o1,o2⟩:=jwv hg hL (ss:=ss) ha hab hb omg_
 obtain ⟨C,eC,B,eB,b1,b2,b3,⟨r,hr⟩,b5,b6⟩:=jpm hg hL (ss:=ss) ha hab hb hlen
 obtain ⟨o',eo',p1⟩:=jvs (zs:=zs) (ps:=ps) (cs:=cs) (ss:=ss) (f:=perX zs cs p) (L:=p) (B:=B) omg_ b1 (fun t ht=>by
  have:=b3 t ht
  exact jrH hg hL (ss:=ss) (t:=t) omg_ omg_) (a:=a) (b:=b) b5 b6 (B.length-1) 0 [] (by rw [hr];simp only [jp];omega) smp_ (by rw [hr];simp [E];rfl)
 have he:o'=o:=Cov.uniq p1 o1
 subst he
 have eo2:j3c ((zs,(ps,(cs,ss))),zs.map tb) (p.1,(p.2.1,((p.2.2.1.1,p.2.2.1.2),(p.2.2.2.1,(p.2.2.2.2.1,(p.2.2.2.2.2.1,(p.2.2.2.2.2.2.1,(p.2.2.2.2.2.2.2.1,p.2.2.2.2.2.2.2.2)))))))) a b=_:=eo
 have eC2:jbB (zs,(ps,(cs,ss))) (p.1,(p.2.1,((p.2.2.1.1,p.2.2.1.2),(p.2.2.2.1,(p.2.2.2.2.1,(p.2.2.2.2.2.1,(p.2.2.2.2.2.2.1,(p.2.2.2.2.2.2.2.1,p.2.2.2.2.2.2.2.2)))))))) a b=_:=eC
 rw [show ((0:O):q)=0 from rfl] at eo'
 simp only [jk,jd,jm,hv,eo2,eC2,eB,eo',ja,show F o'.length=(o'.length:q) from rfl]
 by_cases h4:(o'.length:q)>16384
 ·rw [j00 h4]
  exact ⟨[],5,rfl,rfl,smp_⟩
 ·rw [j01 h4]
  exact ⟨o',0,rfl,rfl,omg_⟩
theorem jxz {l:SgL} (hl:l.length≤1000000):∀ (n i:O) (acc:SgL),i+n=l.length→acc.length≤i→j9h l (i:q) acc=D ((l.drop i).foldl mgA acc)
 | 0,i,acc,hi,_=>by
  rw [jeE]
  simp only [j4T,show F l.length=(l.length:q) from rfl]
  rw [j01 omg_,jd,j08,jj omg_]
  rfl
 | n+1,i,acc,hi,ha=>by
  have hlt:i<l.length:=omg_
  have hgd:l.getD i ((0:q),((0:q),(0:q)))=l[i]:=by simp [E,hlt]
  have ih:=jxz hl n (i+1) (mgA acc l[i]) omg_ (by have:=jnn acc l[i];omega)
  rw [jeE,jh hlt]
  simp only [j4T,show F l.length=(l.length:q) from rfl,yk]
  rw [j00 (show (i:q)<(l.length:q) by omega),jc,j1v (i:=(i:q)) (n:=l.length) omg_ omg_,j07 (x:=(i:q)+1)]
  simp only [jc,je,hgd]
  rw [show jaj acc (l[i].1,(l[i].2.1,l[i].2.2))=D (mgA acc l[i]) from jkJ omg_ l[i]]
  simp only [ja,j06]
  exact ih
theorem jA4 {l:SgL} (hl:l.length≤1000000):jh1 l=D (l.foldl mgA []):=by
 simp only [jh1]
 rw [show j9h l 0 []=_ from jxz hl l.length 0 [] omg_ smp_]
 rfl
theorem jpn {s:SgL} (hs:s.length≤1000000):∀ (n i:O),i+n=s.length→j80 s s (s.length:q) (i:q)=D (.inr ())
 | 0,i,hi=>by
  rw [je2]
  simp only [j4q]
  rw [j01 omg_,jd,j08]
 | n+1,i,hi=>by
  rw [je2]
  simp only [j4q]
  rw [j00 omg_,j1v (i:=(i:q)) (n:=s.length) omg_ omg_,j07 (x:=(i:q)+1)]
  simp only [jc,qh,y8,jk,jd,j06]
  exact jpn hs n (i+1) omg_
theorem jrO {s:SgL} (hs:s.length≤1000000):jcN s s=D true:=by
 simp only [jcN,jm,jd,show F s.length=(s.length:q) from rfl]
 rw [show j80 s s (s.length:q) 0=_ from jpn hs s.length 0 omg_]
 rfl
theorem jlY {s:SL} (hs:s.length≤1000000):∀ (n i:O),i+n=s.length→j6N s s (s.length:q) (i:q)=D (.inr ())
 | 0,i,hi=>by
  rw [jcM]
  simp only [j3X]
  rw [j01 omg_,jd,j08]
 | n+1,i,hi=>by
  rw [jcM]
  simp only [j3X]
  rw [j00 omg_,j1v (i:=(i:q)) (n:=s.length) omg_ omg_,j07 (x:=(i:q)+1)]
  simp only [jc,qh,y8,jk,jd,j06]
  exact jlY hs n (i+1) omg_
theorem jvt {s:SL} (hs:s.length≤1000000):jdm s s=D true:=by
 simp only [jdm,jm,jd,show F s.length=(s.length:q) from rfl]
 rw [show j6N s s (s.length:q) 0=_ from jlY hs s.length 0 omg_]
 rfl
end Go.Proofs.Pw
