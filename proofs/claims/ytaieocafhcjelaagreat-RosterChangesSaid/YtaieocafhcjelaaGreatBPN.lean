/- RosterChanges: the changes are the borders of the segments; Next finds them one by one. -/
import Derived.Test.YtaieocafhcjelaaGreatBPM
open Go Go.Lft
namespace Go.Proofs.Pw
def chg:SgL→SgL
 | []=>[]
 | [_]=>[]
 | s::t::r=>(t.1,(s.2.2,t.2.2))::chg (t::r)
theorem jpb:∀ S:SgL,(chg S).length=S.length-1
 | []=>rfl
 | [_]=>rfl
 | s::t::r=>by
  have:=jpb (t::r)
  simp only [chg,jo] at this ⊢
  omega
theorem jsW:∀ (S:SgL) (j:Nat) (h:j+1<S.length),(chg S).getD j (0,(0,0))=(S[j+1].1,(S[j].2.2,S[j+1].2.2))
 | [],_,h=>by simp at h
 | [_],_,h=>by simp at h
 | s::t::r,0,_=>rfl
 | s::t::r,j+1,h=>by
  have:=jsW (t::r) j (by simp only [jo] at h ⊢;omega)
  simpa [chg] using this
theorem juE {S:SgL} (hS:S.length≤1000000):∀ (n k:Nat) (acc:SgL),k+n=S.length→acc.length≤k→
  j3o ((k:Int)+1) S acc=some (acc++chg (S.drop k))
 | 0,k,acc,hk,_=>by
  rw [jad]
  simp only [j3g,show Int.ofNat S.length=(S.length:Int) from rfl]
  rw [j00 (show (S.length:Int)≤(k:Int)+1 by omega),j5,j0b,je (by omega)]
  simp [chg]
 | n+1,k,acc,hk,ha=>by
  have hk':k<S.length:=by omega
  rw [jad]
  simp only [j3g,show Int.ofNat S.length=(S.length:Int) from rfl]
  by_cases hl:k+1<S.length
  ·have hg1:S.getD (k+1) ((0:Int),((0:Int),(0:Int)))=S[k+1]:=by simp [List.getD,hl]
   have hg0:S.getD k ((0:Int),((0:Int),(0:Int)))=S[k]:=by simp [List.getD,hk']
   rw [j01 (show ¬ (S.length:Int)≤(k:Int)+1 by omega),j00 (show (1:Int)≤(k:Int)+1 by omega),show ((k:Int)+1).toNat=k+1 by omega,show ((k:Int)+1-1).toNat=k by omega]
   simp only [j5,j6,hg1,hg0]
   rw [j00 (by simp [j06];omega),j5,j07]
   have ih:=juE hS n (k+1) (acc++[(S[k+1].1,(S[k].2.2,S[k+1].2.2))]) (by omega) (by simp;omega)
   rw [show ((k+1:Nat):Int)+1=(k:Int)+1+1 by omega] at ih
   refine ih.trans ?_
   rw [jg]
   have:chg (S.drop k)=[(S[k+1].1,(S[k].2.2,S[k+1].2.2))]++chg (S.drop (k+1)):=by
    rw [jb hk',jb hl]
    rfl
   rw [this]
  ·rw [j00 (show (S.length:Int)≤(k:Int)+1 by omega),j5,j0b]
   have:chg (S.drop k)=[]:=by
    rw [jb hk',je (by omega)]
    rfl
   rw [this,qq]
theorem Cov.first {f:Int→Int} {b a m p:Int} {s:SgT} {r:SgL} (h:Cov f b none a (s::r)) (ham:a<m) (hmb:m≤b) (hp:∀ t,a≤t→t<m→f t=p):s.2.2=p∧m≤s.2.1∧((∃ u v,r=u::v∧u.1=s.2.1∧u.2.2=f s.2.1∧s.2.1<b)∨r=[]∧s.2.1=b):=by
 obtain ⟨h1,h2,_,h4,h5⟩:=h
 have hsp:s.2.2=p:=by rw [←h4 a (by omega) h2,hp a (by omega) ham]
 have hcase:(∃ u v,r=u::v∧u.1=s.2.1∧u.2.2=f s.2.1∧s.2.1<b∧u.2.2≠s.2.2)∨r=[]∧s.2.1=b:=by
  match r,h5 with
  | [],h5=>exact .inr ⟨rfl,h5⟩
  | u::v,h5=>
   obtain ⟨g1,g2,g3,g4,g5⟩:=h5
   have:=g5.ch.le
   refine .inl ⟨u,v,rfl,g1,(g4 _ (kc _) g2).symm,by omega,fun e=>g3 (by rw [e])⟩
 refine ⟨hsp,?_,hcase.imp (fun ⟨u,v,e1,e2,e3,e4,_⟩=>⟨u,v,e1,e2,e3,e4⟩) id⟩
 rcases hcase with ⟨u,v,e1,e2,e3,e4,e5⟩ | ⟨_,e⟩
 ·apply jl
  intro hn
  have:=hp s.2.1 (by omega) (by omega)
  exact e5 (by rw [e3,this,hsp])
 ·omega
section
variable {zs:List j2z} {ps:List j1F} {cs:List CalT} (hs:SOk2 zs ps cs)
include hs
theorem jo1 {ss:List j2d} (hc:jms (zs,(ps,(cs,ss)))) (hi:0<ss.length) (hll:ss[0].2.1.length≤3) (hel:ss[0].2.2.length≤6) {a m p:Int} (ha:0≤a) (ham:a<m) (hm:m≤a+34560000) (hb:m≤8589934592) (hp:∀ t,a≤t→t<m→whoS zs cs ss[0] t=p) :
  ∃ x e,j4n (zs,(ps,(cs,ss))) 0 a=some (x,e)∧(e=10∨e=0∧m≤x.1)∧(m<a+34560000→m<8589934592→whoS zs cs ss[0] m≠p→x=(m,(p,whoS zs cs ss[0] m))∧e=0):=by
 have hsc:=hc.sc _ (jh hi)
 have hgs:ss.getD 0 (ByteArray.empty,(([]:List j0Q),([]:List j5x)))=ss[0]:=by simp [List.getD,hi]
 obtain ⟨u,hu,hu1,hu2,hu3,hu4⟩:∃ u:Int,u=(if (8589934592:Int)<a+34560000 then (8589934592:Int) else a+34560000)∧m≤u∧u≤8589934592∧u-a≤34560000∧(m<a+34560000→m<8589934592→m<u):=⟨_,rfl,by split<;>omega,by split<;>omega,by split<;>omega,fun _ _=>by split<;>omega⟩
 obtain ⟨S,eS,hS,lS⟩:=jsT hs hsc hll hel (ss:=ss) (a:=a) (b:=u) ha (by omega) hu2 hu3
 simp only [j4n]
 rw [show j4X (zs,(ps,(cs,ss))) 0 a a=_ from jld hs hc hi ha (kc _) (by omega) (by omega)]
 simp only [j3,jm,j6]
 rw [j02 (x:=a+34560000) (by omega) (by omega),←hu,j1c (show (0:Int)≤0 by omega) (by omega)]
 simp only [j5,show (0:Int).toNat=0 from rfl,hgs]
 rw [show j2B ((zs,(ps,(cs,ss))),zs.map tb) (ss[0].1,(ss[0].2.1,ss[0].2.2)) a u=_ from eS]
 simp only [j3,j7q]
 rw [jhf]
 simp only [j5H,show Int.ofNat S.length=(S.length:Int) from rfl]
 match S,hS,lS with
 | [],hS,_=>
  have:a=u:=hS
  omega
 | s::r,hS,lS=>
  obtain ⟨f1,f2,f3⟩:=hS.first ham hu1 hp
  rcases f3 with ⟨v,w,rfl,g1,g2,g3⟩ | ⟨rfl,g1⟩
  ·rw [j01 (show ¬ (((s::v::w).length:Nat):Int)≤1 by simp;omega),j00 (show (1:Int)≤1 by omega)]
   simp only [j5,j6,j0b,j3,j86,show (1:Int).toNat=1 from rfl,show ((1:Int)-1).toNat=0 from rfl,show ∀ d:SgT,List.getD (s::v::w) 1 d=v from fun _=>rfl,show ∀ d:SgT,List.getD (s::v::w) 0 d=s from fun _=>rfl]
   refine ⟨_,_,rfl,.inr ⟨rfl,by dsimp only;omega⟩,fun h1 h2 h3=>⟨?_,rfl⟩⟩
   have hmu:=hu4 h1 h2
   have hsm:s.2.1=m:=by
    apply jl
    intro hne
    obtain ⟨_,_,_,h4,_⟩:=hS
    exact h3 (by rw [h4 m (by omega) (by omega),f1])
   rw [f1,g1,g2,hsm]
  ·rw [j00 (show ((([s]:SgL).length:Nat):Int)≤1 by simp)]
   simp only [j5,j0b,j3,jiw,show Int.ofNat ([s]:SgL).length=1 from rfl]
   rw [j00 (show (1:Int)>0 by omega),j1c (show (0:Int)≤0 by omega) (by omega)]
   simp only [j5,hgs,show (0:Int).toNat=0 from rfl]
   rw [show j5p ((zs,(ps,(cs,ss))),zs.map tb) (ss[0].1,(ss[0].2.1,ss[0].2.2)) u=_ from jsV hs hsc (by omega) hu2]
   simp only [j3]
   rw [j1c (show (0:Int)≤0 by omega) (by simp)]
   simp only [j5,show ∀ d:SgT,List.getD [s] 0 d=s from fun _=>rfl,f1]
   have hno:m<a+34560000→m<8589934592→¬ whoS zs cs ss[0] m≠p:=fun h1 h2 h3=>by
    have hmu:=hu4 h1 h2
    obtain ⟨_,_,_,h4,_⟩:=hS
    exact h3 (by rw [h4 m (by omega) (by omega),f1])
   by_cases hq:whoS zs cs ss[0] u=p
   ·rw [show (whoS zs cs ss[0] u != p)=false from by rw [hq];exact jm _,j6]
    exact ⟨_,_,rfl,.inl rfl,fun h1 h2 h3=>absurd h3 (hno h1 h2)⟩
   ·rw [show (whoS zs cs ss[0] u != p)=true from by simp [hq]]
    simp only [j5]
    exact ⟨_,_,rfl,.inr ⟨rfl,hu1⟩,fun h1 h2 h3=>absurd h3 (hno h1 h2)⟩
theorem juF {ss:List j2d} (hc:jms (zs,(ps,(cs,ss)))) (hi:0<ss.length) (hll:ss[0].2.1.length≤3) (hel:ss[0].2.2.length≤6) {a b:Int} (ha:0≤a) (hb:b≤8589934592) (hlen:b-a≤604800) {S:SgL} (hS:Cov (whoS zs cs ss[0]) b none a S) (hSl:S.length≤100000) :
  ∀ (n j:Nat) (hj:j<S.length),j+n+1=S.length→
  j3h b S[j].1 ((chg S).length:Int) (j:Int) zs ps cs ss (chg S)=some (.inr (b,(S[S.length-1]'(by omega)).1,zs,ps,cs,ss))
 | 0,j,hj,hn=>by
  rw [j7t]
  simp only [j2k,jpb]
  rw [j01 (by omega),j6,j0b]
  have:j=S.length-1:=by omega
  subst this
  rfl
 | n+1,j,hj,hn=>by
  have hj1:j+1<S.length:=by omega
  have hm:=hS.ch.mem _ (jh hj)
  have hm1:=hS.ch.mem _ (jh hj1)
  have hp:=hS.pos _ (jh hj)
  have hp1:=hS.pos _ (jh hj1)
  have hai:=hS.adj2 j hj1
  have hg:=jsW S j hj1
  have hw1:whoS zs cs ss[0] S[j+1].1=S[j+1].2.2:=hm1.2.2.2 _ (kc _) hp1
  obtain ⟨x,e,eN,_,hN⟩:=jo1 hs hc hi hll hel (a:=S[j].1) (m:=S[j].2.1) (p:=S[j].2.2) (by omega) hp (by omega) (by omega) hm.2.2.2
  rw [hai.1,hw1] at hN
  obtain ⟨rfl,rfl⟩:=hN (by omega) (by omega) (fun h=>hai.2 h.symm)
  have ih:=juF hc hi hll hel ha hb hlen hS hSl n (j+1) hj1 (by omega)
  have v1:=jwV hs hc hi (t:=S[j+1].1) (by omega) (by omega)
  have v2:=jwV hs hc hi (t:=S[j+1].1-1) (by omega) (by omega)
  have hw2:whoS zs cs ss[0] (S[j+1].1-1)=S[j].2.2:=hm.2.2.2 _ (by omega) (by omega)
  rw [hw1] at v1
  rw [hw2] at v2
  have hl:=jpb S
  rw [j7t]
  simp only [j2k]
  rw [j00 (show (j:Int)<((chg S).length:Int) by omega),show j4n (zs,(ps,(cs,ss))) 0 S[j].1=_ from eN]
  simp only [j5,j3,jm,j6,j7]
  rw [j1c (show (0:Int)≤(j:Int) by omega) (by omega)]
  simp only [j5,hg,zf,Bool.and_true,jt,j6]
  rw [j3V hai.2]
  simp only [j6]
  rw [show j5q (zs,(ps,(cs,ss))) 0 S[j+1].1=_ from v1]
  simp only [j3,jm,j6]
  rw [j02 (x:=S[j+1].1-1) (by omega) (by omega),show j5q (zs,(ps,(cs,ss))) 0 (S[j+1].1-1)=_ from v2]
  simp only [j3,jm,j6]
  rw [j02 (x:=(j:Int)+1) (by omega) (by omega),j07]
  exact ih
end
theorem jgT (t:List Int) (_h:Wf (.list (.int .i64)) t):j7J t=some true:=by
 simp only [j7J,jhb,j3,show Int.ofNat (List.length t)=(t.length:Int) from rfl]
 by_cases hl:(t.length:Int)≤500
 ·rw [j00 hl]
  simp only [jt,j6,jjk,j3]
  obtain ⟨zs,ps,cs,ss,a1,e1,hs,g0,g1,g2,g3,d1⟩:=jqG (L:=t) (a:=0) (n:=1) ⟨by omega,by omega,by omega⟩ (by omega) (by omega)
  have hc:=jvx hs (ss:=ss) (by omega) (by rw [g2];exact jvw.take _) (fun s h=>(g3 s h).ck)
  obtain ⟨x,a3,e3,x0,x1,d3⟩:=jl8 d1
  have hi:0<ss.length:=by omega
  have hsg:=g3 _ (jh hi)
  have hel:=hsg.el
  obtain ⟨S,e4,hS,hSl⟩:=ju2 hs hc (i:=0) hi hsg.ll (by omega) (a:=x) (b:=x+518400) (by omega) (by omega) (by omega) (by omega)
  have hne:S≠[]:=hS.ne (by omega)
  have hSl0:0<S.length:=List.length_pos_iff.2 hne
  have hf0:S[0].1=x:=by
   match S,hS,hSl0 with
   | s::r,hS,_=>exact hS.1
  have cl:=juE (S:=S) (by omega) S.length 0 [] (by omega) (by simp)
  rw [js,k9] at cl
  have lp:=juF hs hc hi hsg.ll (by omega) (a:=x) (b:=x+518400) (by omega) (by omega) (by omega) hS (by omega) (S.length-1) 0 hSl0 (by omega)
  rw [hf0] at lp
  have hlast:S.length-1<S.length:=by omega
  have hm:=hS.ch.mem _ (jh hlast)
  have hp:=hS.pos _ (jh hlast)
  have hend:S[S.length-1].2.1=x+518400:=by
   have:=hS.ch.last2 hne
   rw [List.getD_eq_getElem?_getD,ji hlast] at this
   exact this
  obtain ⟨y,e,eN,hN,_⟩:=jo1 hs hc hi hsg.ll (by omega) (a:=S[S.length-1].1) (m:=S[S.length-1].2.1) (p:=S[S.length-1].2.2) (by omega) hp (by omega) (by omega) hm.2.2.2
  simp only [e1,j3,e3]
  rw [j02 (x:=x+518400) (by omega) (by omega)]
  simp only [j4Z]
  rw [show j2C (zs,(ps,(cs,ss))) 0 x (x+518400)=_ from e4]
  simp only [j3,jm,j6,j7q]
  rw [show j3o 1 S []=_ from cl]
  simp only [j3,jm,j6,show Int.ofNat (chg S).length=((chg S).length:Int) from rfl]
  rw [show j3h (x+518400) x ((chg S).length:Int) 0 zs ps cs ss (chg S)=_ from lp]
  simp only [j3,j86]
  rw [show j4n (zs,(ps,(cs,ss))) 0 S[S.length-1].1=_ from eN]
  simp only [j3]
  rcases hN with rfl | ⟨rfl,hN⟩
  ·simp only [zf,j5,jsU,j3]
  ·rw [j00 (show y.1≥x+518400 by omega)]
   simp only [zf,j5,show ((0:Int)==10)=false from rfl,j6,jsU,j3]
 ·rw [j01 hl]
  simp only [kb,j5,jsU,j3]
end Go.Proofs.Pw
