/- Layers above each other. -/
import Derived.Test.YtaieocafhcjelaaGreatBPF
import Derived.Test.YtaieocafhcjelaaGreatBPE
import Derived.Test.YtaieocafhcjelaaGreatBPC
import Derived.KernelRfl
import Derived.Test.YtaieocafhcjelaaGreatBPB
import Derived.Test.YtaieocafhcjelaaGreatBLD
open Go Go.Lft
namespace Go.Proofs.Pw
theorem jnW:j4V 2241=some 98981:=by kernel_rfl
theorem jnX:j4V 1970=some 0:=by kernel_rfl
theorem jus {d:Int} (h:j1z d=some true):d≤100000:=by
 apply jl
 intro hd
 simp only [j1z,j6p,jnX,jnW,j3] at h
 rw [j01 (show ¬ d<0 by omega),j00 (show d≥98981 by omega)] at h
 simp at h
theorem LCk.rt2 {nz np nc:Nat} {L:j0Q} (h:LCk nz np nc L):Rt L:=h.rt (jus h.day)
section
variable {zs:List j2z} {ps:List j1F} {cs:List CalT} (hs:SOk2 zs ps cs)
include hs
theorem cget {i:Int} (h0:0≤i) (h1:i<(cs.length:Int)):CCk zs.length (cs.getD i.toNat (ByteArray.empty,((0:Int),([]:List Int)))):=by
 have hi:i.toNat<cs.length:=by omega
 rw [show cs.getD i.toNat (ByteArray.empty,((0:Int),([]:List Int)))=cs[i.toNat] by simp [List.getD,hi]]
 exact hs.c.ck _ (jh hi)
end
def jcc (es:List j5x) (p t:Int):Bool:=es.any fun x=>x.1==0&&(x.2.1==p&&(decide (x.2.2.2.1≤t)&&decide (t<x.2.2.2.2)))
theorem jwG {es:List j5x} {p t:Int} (hl:es.length≤1000):∀ (n i:Nat),i+n=es.length→∃ r,j0w es p t (es.length:Int) (i:Int)=some r∧
  match r with
  | .inl k=>0≤k∧jcc (es.drop i) p t=true
  | .inr _=>jcc (es.drop i) p t=false
 | 0,i,hi=>by
  rw [j3u]
  simp only [j0M]
  rw [j01 (by omega),j6,j0b,je (by omega)]
  exact ⟨_,rfl,rfl⟩
 | n+1,i,hi=>by
  have hlt:i<es.length:=by omega
  have hgd:es.getD i ((0:Int),((0:Int),((0:Int),((0:Int),(0:Int)))))=es[i]:=by simp [List.getD,hlt]
  rw [j3u]
  simp only [j0M,jcZ]
  rw [j00 (by omega),j1c (by omega) (by omega),j02 (x:=(i:Int)+1) (by omega) (by omega)]
  simp only [j5,j7,hgd,j3]
  rw [jb hlt]
  have e:(cond (cond (cond (es[i].1==(0:Int)) (es[i].2.1==p) false) (decide (es[i].2.2.2.1≤t)) false) (decide (t<es[i].2.2.2.2)) false)=(es[i].1==0&&(es[i].2.1==p&&(decide (es[i].2.2.2.1≤t)&&decide (t<es[i].2.2.2.2)))):=by
   cases es[i].1==(0:Int)<;>cases es[i].2.1==p<;>cases decide (es[i].2.2.2.1≤t)<;>rfl
  rw [e]
  have ha:jcc (es[i]::es.drop (i+1)) p t=((es[i].1==0&&(es[i].2.1==p&&(decide (es[i].2.2.2.1≤t)&&decide (t<es[i].2.2.2.2))))||jcc (es.drop (i+1)) p t):=rfl
  rw [ha]
  cases hx:(es[i].1==0&&(es[i].2.1==p&&(decide (es[i].2.2.2.1≤t)&&decide (t<es[i].2.2.2.2)))) with
  | true=>
   rw [j5,j0b]
   exact ⟨_,rfl,by omega,rfl⟩
  | false=>
   rw [j6,j07]
   obtain ⟨r,e1,e2⟩:=jwG (es:=es) (p:=p) (t:=t) hl n (i+1) (by omega)
   exact ⟨r,e1,by simpa using e2⟩
theorem jvv {nm:ByteArray} {ls:List j0Q} {es:List j5x} {p t:Int} (hl:es.length≤1000):j8Z (nm,(ls,es)) p t=some (jcc es p t):=by
 obtain ⟨r,e1,e2⟩:=jwG (p:=p) (t:=t) hl es.length 0 (by omega)
 simp only [j8Z,j0H,j0S,show Int.ofNat es.length=(es.length:Int) from rfl]
 rw [show j0w es p t (es.length:Int) 0=_ from e1]
 cases r with
 | inl k=>
  simp only [k9] at e2
  simp only [j3,jiw,e2.2]
  rw [j00 (show k≥0 from e2.1)]
 | inr u=>
  simp only [k9] at e2
  simp only [j3,j86,e2]
  rfl
def topI (good:Nat→Bool):Nat→Option Nat
 | 0=>none
 | n+1=>cond (good n) (some n) (topI good n)
def j6U (es:List j5x) (t:Int) (Pf:Nat→Int) (i:Nat):Bool:=decide (0≤Pf i) && !jcc es (Pf i) t
theorem jut {ls:List j0Q} {zs:List j2z} {ps:List j1F} {cs:List CalT} {ss:List j2d} {tbs:List (Int×TrL)} {nm:ByteArray} {es:List j5x} {t b6 b7:Int} {Pf:Nat→Int} (hl:es.length≤1000)
  (hP:∀ i (h:i<ls.length),j1W ((zs,(ps,(cs,ss))),tbs) ls[i] t=some (Pf i)):∀ n:Nat,n≤ls.length→
  j3R (n:Int) ls zs ps cs ss tbs nm ls es t b6 b7=some (match topI (j6U es t Pf) n with | some i=> .inr ((i:Int),Pf i) | none=> .inl (b6,b7))
 | 0,hn=>by
  rw [jaM]
  simp only [j1O]
  rw [j00 (by omega),j5,j0b]
  rfl
 | n+1,hn=>by
  have hlt:n<ls.length:=by omega
  have hgd:ls.getD n (ByteArray.empty,((0:Int),(((0:Int),(0:Int)),((0:Int),((0:Int),(([]:List Int),(([]:List (Int×Int)),((0:Int),(0:Int)))))))))=ls[n]:=by simp [List.getD,hlt]
  have ih:=jut (nm:=nm) (b6:=b6) (b7:=b7) hl hP n (by omega)
  have hp:=hP n hlt
  rw [jaM]
  simp only [j1O]
  rw [j01 (by omega),j00 (show ((n+1:Nat):Int)≤Int.ofNat ls.length by simp;omega),show ((n+1:Nat):Int)-1=(n:Int) by omega]
  simp only [j5,j6,j7,hgd]
  rw [show j1W ((zs,(ps,(cs,ss))),tbs) (ls[n].1,(ls[n].2.1,((ls[n].2.2.1.1,ls[n].2.2.1.2),(ls[n].2.2.2.1,(ls[n].2.2.2.2.1,(ls[n].2.2.2.2.2.1,(ls[n].2.2.2.2.2.2.1,(ls[n].2.2.2.2.2.2.2.1,ls[n].2.2.2.2.2.2.2.2)))))))) t=_ from hp]
  simp only [j3,topI,j6U]
  by_cases h0:0≤Pf n
  ·rw [j01 (show ¬ Pf n<0 by omega),j00 h0]
   simp only [j6,jvv hl,j3,Bool.true_and]
   cases jcc es (Pf n) t with
   | true=>
    simp only [jt,j6,j07]
    exact ih
   | false=>rfl
  ·rw [j00 (show Pf n<0 by omega),j01 h0]
   simp only [j5,Bool.false_and,j6,j07]
   exact ih
theorem jla {ls:List j0Q} {zs:List j2z} {ps:List j1F} {cs:List CalT} {ss:List j2d} {tbs:List (Int×TrL)} {nm:ByteArray} {es:List j5x} {t:Int} {Pf:Nat→Int} (hl:es.length≤1000)
  (hP:∀ i (h:i<ls.length),j1W ((zs,(ps,(cs,ss))),tbs) ls[i] t=some (Pf i)) :
  j36 ((zs,(ps,(cs,ss))),tbs) (nm,(ls,es)) t=some (match topI (j6U es t Pf) ls.length with | some i=>((i:Int),Pf i) | none=>((-1:Int),(-1:Int))):=by
 have lp:=jut (nm:=nm) (b6:=0) (b7:=0) hl hP ls.length (jn _)
 simp only [j36,j12,j3]
 rw [show j3R (Int.ofNat ls.length) ls zs ps cs ss tbs nm ls es t 0 0=_ from lp]
 cases topI (j6U es t Pf) ls.length with
 | none=>rfl
 | some i=>rfl
section
variable {zs:List j2z} {ps:List j1F} {cs:List CalT} {ss:List j2d}
theorem juu (hz:∀ z∈zs,ZOk z) (hc:jms (zs,(ps,(cs,ss)))):jcX (zs,(ps,(cs,ss)))=some (((zs,(ps,(cs,ss))),zs.map tb),true):=by
 have hzl:zs.length≤16:=hc.zl
 simp only [jcX,show j4H (zs,(ps,(cs,ss)))=_ from joZ hc,j3,jm,j6,jvp (ps:=ps) (cs:=cs) (ss:=ss) hz (show zs.length≤100 by omega)]
def topP (es:List j5x) (t:Int) (Pf:Nat→Int) (n:Nat):Int:=match topI (j6U es t Pf) n with
 | some i=>Pf i
 | none=> -1
end
def nms3:List ByteArray:=[(ByteArray.mk #[102,105,114,115,116]),(ByteArray.mk #[115,101,99,111,110,100]),(ByteArray.mk #[116,104,105,114,100])]
theorem jvw:NmL nms3:=by
 refine ⟨by decide,fun k hk=> ?_⟩
 simp only [nms3,jd,qt,or_false] at hk
 rcases hk with rfl | rfl | rfl<;>exact j8s 60 _ true (by kernel_rfl)
structure SG (nz np nc:Nat) (s:j2d):Prop where
 ck:SCk nz np nc s
 nm:s.2.1.map (·.1)=nmsL.take s.2.1.length
 ll:s.2.1.length≤3
 el:s.2.2.length≤3
theorem juv {L:List Int} {zs:List j2z} {ps:List j1F} {cs:List CalT} (hs:SOk zs ps cs):∀ (n:Nat) (a:Int) (ss:List j2d),DOk L a→ss.length+n≤3→ss.map (·.1)=nms3.take ss.length→(∀ s∈ss,SG zs.length ps.length cs.length s)→
  ∃ ss' a',j5J (n:Int) L a zs ps cs ss=some (L,a',zs,ps,cs,ss')∧ss'.length=ss.length+n∧ss'.map (·.1)=nms3.take ss'.length∧(∀ s∈ss',SG zs.length ps.length cs.length s)∧DOk L a'
 | 0,a,ss,hd,hl,hn,hg=>by
  rw [j8P]
  simp only [j2W]
  rw [j01 (by omega),j6,j0b]
  exact ⟨ss,a,rfl,rfl,hn,hg,hd⟩
 | n+1,a,ss,hd,hl,hn,hg=>by
  have hlt:ss.length<nms3.length:=by show ss.length<3;omega
  have hmod:Int.tmod (Int.ofNat ss.length) 3=(ss.length:Int):=by
   have:Int.tmod (ss.length:Int) 3=(ss.length:Int):=Int.tmod_eq_of_lt (by omega) (by omega)
   exact this
  obtain ⟨k,a3,e3,k0,k1,d3⟩:=j0O (n:=4) hd (by omega) (by omega)
  obtain ⟨ls,a4,e4,l4,lk,ln,d4⟩:=jwt (s6:=((n+1:Nat):Int)) (nm:=List.getD nms3 ss.length ByteArray.empty) (ss:=ss) hs k.toNat a3 [] d3 (by simp;omega) (by simp) rfl
  obtain ⟨m,a5,e5,m0,m1,d5⟩:=j0O (n:=4) d4 (by omega) (by omega)
  obtain ⟨es,a6,e6,l6,ek,d6⟩:=jwu (s6:=((n+1:Nat):Int)) (nm:=List.getD nms3 ss.length ByteArray.empty) (zs:=zs) (cs:=cs) (ss:=ss) (ls:=ls) hs m.toNat a5 [] d5 (by simp;omega) (by simp)
  rw [show ((k.toNat:Nat):Int)=k by omega] at e4
  rw [show ((m.toNat:Nat):Int)=m by omega] at e6
  have hnew:SG zs.length ps.length cs.length (List.getD nms3 ss.length ByteArray.empty,(ls,es)):=
   ⟨⟨by dsimp only;rw [ln];exact jsh.take _,lk,by dsimp only;omega,ek,by dsimp only;omega⟩,ln,l4,l6⟩
  obtain ⟨ss',a',e',h1,h2,h3,h4⟩:=juv hs n a6 (ss++[(List.getD nms3 ss.length ByteArray.empty,(ls,es))]) d6 (by simp;omega) (by
   rw [zm,hn,jf]
   exact jmt hlt) (fun s h=>by
   rcases jq.1 h with h | h
   ·exact hg s h
   ·simp at h;subst h;exact hnew)
  rw [j8P]
  simp only [j2W]
  rw [j00 (show ((n+1:Nat):Int)>0 by omega),hmod,j1c (by omega) (by show (ss.length:Int)<(3:Nat);omega)]
  simp only [j5,j7,e3,j3]
  rw [show j4o ((n+1:Nat):Int) k L a3 zs ps cs (List.getD [(ByteArray.mk #[102,105,114,115,116]),(ByteArray.mk #[115,101,99,111,110,100]),(ByteArray.mk #[116,104,105,114,100])] ss.length ByteArray.empty) ss []=_ from e4]
  simp only [j3,e5,e6]
  rw [j00 (by simp [j06];omega),j02 (by omega) (by omega),show ((n+1:Nat):Int)-1=(n:Int) by omega]
  simp only [j5,j07]
  exact ⟨ss',a',e',by rw [h1];simp;omega,h2,h3,h4⟩
theorem jqG {L:List Int} {a n:Int} (h:DOk L a) (n0:1≤n) (n1:n≤3):∃ zs ps cs ss a',j7C L a n=some ((zs,(ps,(cs,ss))),L,a')∧SOk2 zs ps cs∧1≤ss.length∧(ss.length:Int)≤n∧ss.map (·.1)=nms3.take ss.length∧(∀ s∈ss,SG zs.length ps.length cs.length s)∧DOk L a':=by
 obtain ⟨zs,ps,cs,a1,e1,hs,d1⟩:=jsk h
 obtain ⟨x,a2,e2,x0,x1,d2⟩:=j0O (n:=n) d1 (by omega) (by omega)
 obtain ⟨ss,a3,e3,h1,h2,h3,d3⟩:=juv hs.so (1+x).toNat a2 [] d2 (by simp;omega) (by simp) (by simp)
 rw [show (((1+x).toNat:Nat):Int)=1+x by omega] at e3
 simp at h1
 simp only [j7C,e1,e2,j3]
 rw [j02 (x:=1+x) (by omega) (by omega)]
 simp only [e3,j3]
 exact ⟨zs,ps,cs,ss,a3,rfl,hs,by omega,by omega,h2,h3,d3⟩
theorem jvx {zs:List j2z} {ps:List j1F} {cs:List CalT} {ss:List j2d} (hs:SOk2 zs ps cs) (h0:ss.length≤12) (h1:NmL (ss.map (·.1))) (h2:∀ s∈ss,SCk zs.length ps.length cs.length s):jms (zs,(ps,(cs,ss))):=jwv hs h0 h1 h2
instance (L:j0Q):Decidable (Rt L):=
 decidable_of_iff (1≤L.2.2.1.1∧L.2.2.1.1≤100000∧0≤L.2.2.1.2∧L.2.2.1.2≤86399∧0≤L.2.2.2.1∧L.2.2.2.1≤2∧1≤L.2.2.2.2.1∧L.2.2.2.2.1≤400∧L.2.2.2.2.2.1≠[])
  ⟨fun ⟨a,b,c,d,e,f,g,h,i⟩=>⟨a,b,c,d,e,f,g,h,i⟩,fun ⟨a,b,c,d,e,f,g,h,i⟩=>⟨a,b,c,d,e,f,g,h,i⟩⟩
abbrev SgT:=Int×(Int×Int)
abbrev SgL:=List SgT
def Ch (f:Int→Int) (b:Int):Int→SgL→Prop
 | a,[]=>a=b
 | a,s::r=>s.1=a∧a≤s.2.1∧(∀ t,a≤t→t<s.2.1→f t=s.2.2)∧Ch f b s.2.1 r
def Cov (f:Int→Int) (b:Int):Option Int→Int→SgL→Prop
 | _,a,[]=>a=b
 | q,a,s::r=>s.1=a∧a<s.2.1∧q≠some s.2.2∧(∀ t,a≤t→t<s.2.1→f t=s.2.2)∧Cov f b (some s.2.2) s.2.1 r
theorem Ch.le {f:Int→Int} {b:Int}:∀ {l:SgL} {a:Int},Ch f b a l→a≤b
 | [],_,h=>Int.le_of_eq h
 | _::_,_,h=>qn h.2.1 h.2.2.2.le
theorem Ch.app {f:Int→Int} {b c:Int}:∀ {l r:SgL} {a:Int},Ch f b a l→Ch f c b r→Ch f c a (l++r)
 | [],_,_,h,h'=>by have h:_=_:=h;subst h;exact h'
 | _::_,_,_,h,h'=>⟨h.1,h.2.1,h.2.2.1,h.2.2.2.app h'⟩
theorem Ch.snoc {f:Int→Int} {b c p:Int} {l:SgL} {a:Int} (h:Ch f b a l) (hbc:b≤c) (hp:∀ t,b≤t→t<c→f t=p):Ch f c a (l++[(b,(c,p))]):=
 h.app ⟨rfl,hbc,hp,rfl⟩
theorem Cov.ch {f:Int→Int} {b:Int}:∀ {l:SgL} {q:Option Int} {a:Int},Cov f b q a l→Ch f b a l
 | [],_,_,h=>h
 | _::_,_,_,h=>⟨h.1,Int.le_of_lt h.2.1,h.2.2.2.1,h.2.2.2.2.ch⟩
def lstP:Option Int→SgL→Option Int
 | q,[]=>q
 | _,s::r=>lstP (some s.2.2) r
theorem jnY:∀ (l:SgL) (q:Option Int) (s:SgT),lstP q (l++[s])=some s.2.2
 | [],_,_=>rfl
 | _::r,_,s=>jnY r _ s
theorem Cov.snoc {f:Int→Int} {b c p:Int}:∀ {l:SgL} {q:Option Int} {a:Int},Cov f b q a l→b<c→lstP q l≠some p→(∀ t,b≤t→t<c→f t=p)→Cov f c q a (l++[(b,(c,p))])
 | [],_,_,h,hbc,hl,hp=>by have h:_=_:=h;subst h;exact ⟨rfl,hbc,hl,hp,rfl⟩
 | _::_,_,_,h,hbc,hl,hp=>⟨h.1,h.2.1,h.2.2.1,h.2.2.2.1,h.2.2.2.2.snoc hbc hl hp⟩
theorem Cov.ext {f:Int→Int} {b c x p:Int}:∀ {l:SgL} {q:Option Int} {a:Int},Cov f b q a (l++[(x,(b,p))])→b≤c→(∀ t,b≤t→t<c→f t=p)→Cov f c q a (l++[(x,(c,p))])
 | [],_,_,h,hbc,hp=>⟨h.1,by have:=h.2.1;dsimp only at this ⊢;omega,h.2.2.1,fun t h1 h2=>by
  by_cases ht:t<b
  ·exact h.2.2.2.1 t h1 ht
  ·exact hp t (by omega) h2,rfl⟩
 | _::_,_,_,h,hbc,hp=>⟨h.1,h.2.1,h.2.2.1,h.2.2.2.1,h.2.2.2.2.ext hbc hp⟩
def mgA (out:SgL) (s:SgT):SgL:=
 if s.2.1≤s.1 then out else match out.getLast? with
  | some x=>if x.2.1=s.1∧x.2.2=s.2.2 then out.dropLast++[(x.1,(s.2.1,x.2.2))] else out++[s]
  | none=>out++[s]
theorem jwH {f:Int→Int} {a b:Int} {out:SgL} (h:Cov f b none a out) {s:SgT} (h1:s.1=b) (h2:b≤s.2.1) (h3:∀ t,b≤t→t<s.2.1→f t=s.2.2):Cov f s.2.1 none a (mgA out s):=by
 obtain ⟨x,y,p⟩:=s
 dsimp only at h1 h2 h3 ⊢
 subst h1
 unfold mgA
 dsimp only
 by_cases hxy:y≤x
 ·rw [if_pos hxy]
  have:y=x:=by omega
  subst this;exact h
 ·rw [if_neg hxy]
  rcases List.eq_nil_or_concat out with rfl | ⟨l,u,rfl⟩
  ·exact h.snoc (by omega) (by simp [lstP]) h3
  ·rw [List.concat_eq_append] at h ⊢
   rw [List.getLast?_append]
   simp only [List.getLast?_singleton,Option.some_or]
   by_cases hu:u.2.1=x∧u.2.2=p
   ·rw [if_pos hu,List.dropLast_concat]
    obtain ⟨u1,u2,u3⟩:=u
    dsimp only at hu ⊢
    obtain ⟨rfl,rfl⟩:=hu
    exact h.ext h2 h3
   ·rw [if_neg hu]
    refine h.snoc (by omega) ?_ h3
    rw [jnY]
    intro e
    have hp:u.2.2=p:=by simpa using e
    refine hu ⟨?_,hp⟩
    have:∀ (l:SgL) (q:Option Int) (a:Int),Cov f x q a (l++[u])→u.2.1=x:=by
     intro l
     induction l with
     | nil=>intro q a h;exact h.2.2.2.2
     | cons v r ih=>intro q a h;exact ih _ _ h.2.2.2.2
    exact this l _ _ h
theorem juw {f:Int→Int} {b:Int}:∀ (l:SgL) {a c:Int} {out:SgL},Cov f c none a out→Ch f b c l→Cov f b none a (l.foldl mgA out)
 | [],_,_,_,h,h'=>by have h':_=_:=h';subst h';exact h
 | s::r,_,_,_,h,h'=>juw r (jwH h h'.1 h'.2.1 h'.2.2.1) h'.2.2.2
theorem Ch.cov {f:Int→Int} {a b:Int} {l:SgL} (h:Ch f b a l):Cov f b none a (l.foldl mgA []):=juw l (show Cov f a none a [] from rfl) h
theorem jwI {f:Int→Int}:∀ {l:SgL} {a b:Int},a≤b→l.Pairwise (fun s u=>s.2.1≤u.1)→(∀ s∈l,s.1<s.2.1∧∀ t,s.1≤t→t<s.2.1→f t=s.2.2)→
  (∀ x,(a≤x∧x<b)↔∃ s∈l,s.1≤x∧x<s.2.1)→Ch f b a l
 | [],a,b,hab,_,_,hc=>by
  apply jl
  intro hne
  have hne:a≠b:=hne
  obtain ⟨s,hs,_⟩:=(hc a).1 ⟨kc _,by omega⟩
  simp at hs
 | s::r,a,b,hab,hp,hf,hc=>by
  obtain ⟨s1,s2⟩:=hf s (by simp)
  obtain ⟨p1,p2⟩:=qa.1 hp
  have h1:=(hc s.1).2 ⟨s,by simp,kc _,s1⟩
  have h2:=(hc (s.2.1-1)).2 ⟨s,by simp,by omega,by omega⟩
  have he:s.1=a:=by
   obtain ⟨u,hu,u1,u2⟩:=(hc a).1 ⟨kc _,by omega⟩
   rcases jd.1 hu with rfl | hu
   ·omega
   ·have:=p1 u hu;omega
  refine ⟨he,by omega,fun t t1 t2=>s2 t (by omega) t2,jwI (by omega) p2 (fun u hu=>hf u (by simp [hu])) (fun x=>⟨fun hx=> ?_,fun ⟨u,hu,u1,u2⟩=> ?_⟩)⟩
  ·obtain ⟨u,hu,u1,u2⟩:=(hc x).1 ⟨by omega,hx.2⟩
   rcases jd.1 hu with rfl | hu
   ·omega
   ·exact ⟨u,hu,u1,u2⟩
  ·have:=p1 u hu
   have:=(hc x).2 ⟨u,by simp [hu],u1,u2⟩
   omega
theorem Ch.mem {f:Int→Int} {b:Int}:∀ {l:SgL} {a:Int},Ch f b a l→∀ s∈l,a≤s.1∧s.1≤s.2.1∧s.2.1≤b∧∀ t,s.1≤t→t<s.2.1→f t=s.2.2
 | [],_,_,s,hs=>by simp at hs
 | u::r,a,h,s,hs=>by
  obtain ⟨h1,h2,h3,h4⟩:=h
  rcases jd.1 hs with rfl | hs
  ·exact ⟨by omega,by omega,h4.le,fun t t1 t2=>h3 t (by omega) t2⟩
  ·have:=h4.mem s hs
   exact ⟨by omega,this.2.1,this.2.2.1,this.2.2.2⟩
theorem Cov.pos {f:Int→Int} {b:Int}:∀ {l:SgL} {q:Option Int} {a:Int},Cov f b q a l→∀ s∈l,s.1<s.2.1
 | [],_,_,_,s,hs=>by simp at hs
 | u::r,_,a,h,s,hs=>by
  rcases jd.1 hs with rfl | hs
  ·have:=h.1;have:=h.2.1;omega
  ·exact h.2.2.2.2.pos s hs
theorem Cov.ne {f:Int→Int} {b:Int} {l:SgL} {q:Option Int} {a:Int} (h:Cov f b q a l) (hab:a<b):l≠[]:=by
 rintro rfl
 have h:_=_:=h
 omega
end Go.Proofs.Pw
