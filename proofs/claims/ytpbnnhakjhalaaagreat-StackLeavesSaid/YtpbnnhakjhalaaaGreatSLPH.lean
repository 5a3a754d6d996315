/- StackLeaves. -/
import Derived.Test.YtpbnnhakjhalaaaGreatSLPG
import Derived.Test.YtpbnnhakjhalaaaGreatSLPC
import Derived.Test.YtpbnnhakjhalaaaGreatSLLD
open Go Go.Lft
namespace Go.Proofs.Pw
def topV (g:Nat→Bool) (Pf:Nat→Int) (n:Nat):Int:=match topI g n with
 | some i=>Pf i
 | none=> -1
theorem jmu {g:Nat→Bool} {Pf:Nat→Int} {n:Nat}:topV g Pf (n+1)=cond (g n) (Pf n) (topV g Pf n):=by
 simp only [topV,topI]
 cases g n<;>rfl
theorem jjO {g:Nat→Bool} {Pf:Nat→Int} {p:Int} {ins:Bool} (h0:0≤p):∀ n,
  (ins=false→topV (fun i=>g i && !(decide (Pf i=p)&&ins)) Pf n=topV g Pf n)∧(ins=true→topV (fun i=>g i && !(decide (Pf i=p)&&ins)) Pf n≠p)∧
   (topV g Pf n≠p→topV (fun i=>g i && !(decide (Pf i=p)&&ins)) Pf n=topV g Pf n)
 | 0=>⟨fun _=>rfl,fun _=>by show (-1:Int)≠p;omega,fun _=>rfl⟩
 | n+1=>by
  obtain ⟨h1,h2,h3⟩:=jjO (g:=g) (Pf:=Pf) (p:=p) (ins:=ins) h0 n
  rw [jmu,jmu]
  refine ⟨fun hi=> ?_,fun hi=> ?_,fun ho=> ?_⟩
  ·rw [h1 hi,hi]
   cases g n<;>cases decide (Pf n=p)<;>rfl
  ·subst hi
   by_cases hp:Pf n=p
   ·rw [qz hp]
    simp only [Bool.and_self,jk,Bool.and_false,j6]
    exact h2 rfl
   ·rw [ze hp]
    cases g n with
    | true=>exact hp
    | false=>exact h2 rfl
  ·cases hg:g n with
   | true=>
    rw [hg,j5] at ho
    rw [ze ho]
    rfl
   | false=>
    rw [hg,j6] at ho
    simp only [Bool.false_and,j6]
    exact h3 ho
theorem jnw {es:List jd7} {t p f u:Int} {Pf:Nat→Int}:jfI (es++[((0:Int),(p,((0:Int),(f,u))))]) t Pf=fun i=>jfI es t Pf i && !(decide (Pf i=p)&&(decide (f≤t)&&decide (t<u))):=by
 funext i
 simp only [jfI,jmt,List.any_append,List.any_cons,List.any_nil,Bool.or_false,beq_self_eq_true,Bool.true_and]
 have:(p==Pf i)=decide (Pf i=p):=by
  by_cases h:Pf i=p
  ·rw [h];simp
  ·rw [ze h,j6E (fun e=>h e.symm)]
 rw [this]
 cases decide (0≤Pf i)<;>cases (es.any fun x=>x.1==0&&(x.2.1==Pf i&&(decide (x.2.2.2.1≤t)&&decide (t<x.2.2.2.2))))<;>cases decide (Pf i=p)<;>simp
theorem jp8 {es:List jd7} {t p f u:Int} {Pf:Nat→Int} {n:Nat} (h0:0≤p) :
  ((decide (f≤t)&&decide (t<u))=false→topP (es++[((0:Int),(p,((0:Int),(f,u))))]) t Pf n=topP es t Pf n)∧((decide (f≤t)&&decide (t<u))=true→topP (es++[((0:Int),(p,((0:Int),(f,u))))]) t Pf n≠p)∧
    (topP es t Pf n≠p→topP (es++[((0:Int),(p,((0:Int),(f,u))))]) t Pf n=topP es t Pf n):=by
 have e1:topP (es++[((0:Int),(p,((0:Int),(f,u))))]) t Pf n=topV (fun i=>jfI es t Pf i && !(decide (Pf i=p)&&(decide (f≤t)&&decide (t<u)))) Pf n:=by
  unfold topP topV
  rw [jnw]
  cases topI (fun i=>jfI es t Pf i && !(decide (Pf i=p)&&(decide (f≤t)&&decide (t<u)))) n<;>rfl
 have e2:topP es t Pf n=topV (jfI es t Pf) Pf n:=rfl
 rw [e1,e2]
 exact jjO h0 n
theorem jr3 {zs:List j2q} {ps:List j1v} {cs:List CalT} {s:j3s} (hz:zs.length≤1000) (hp:ps.length≤1000) (hc:cs.length≤1000) (hl:s.2.1.length≤1000) (he:s.2.2.length≤1000) :
  jcS (zs,(ps,(cs,[s])))=some (zs,ps,cs,s.1,s.2.1,s.2.2):=by
 simp only [jcS,qb,List.length_nil,List.length_singleton]
 rw [j01 (by simp [j0b];omega),j01 (by simp [j0b];omega),j01 (by simp [j0b];omega),j01 (show (0:Int)<Int.ofNat 1 by decide),j2Y (by omega) (by omega)]
 simp only [j5,List.getD_cons_zero]
 rw [j01 (by simp [j0b];omega),j01 (by simp [j0b];omega),j00 (show ¬ (1:Int)<Int.ofNat 1 by decide)]
 rfl
section
variable {zs:List j2q} {ps:List j1v} {cs:List CalT} (hs:SOk2 zs ps cs)
include hs
theorem juf {s:j3s} (hc:jix (zs,(ps,(cs,[s])))) {p f u:Int} (hp:0≤p) (hf:1767000000≤f) (hfu:f≤u) (hu:u≤2000000000) (hc':jix (zs,(ps,(cs,[(s.1,(s.2.1,s.2.2++[((0:Int),(p,((0:Int),(f,u))))]))])))) {D:List Int} :
  ∀ (n:Nat) (k a:Int),k+n=9→0≤k→DOk D a→
  j4d p f u k zs ps cs [s] zs ps cs D a s.1 s.2.1 (s.2.2++[((0:Int),(p,((0:Int),(f,u))))])=some (.inr ())
 | 0,k,a,hk,k0,hd=>by
  rw [j6U]
  simp only [j26]
  rw [j00 (by omega),j6,j0D]
 | n+1,k,a,hk,k0,hd=>by
  obtain ⟨t,a',e,t0,t1,d'⟩:=jgl hd
  have ih:=juf hc hp hf hfu hu hc' (D:=D) n (k+1) a' (by omega) (by omega) d'
  rw [j6U]
  simp only [j26,e,j3]
  rw [j01 (show k<9 by omega),j5,j03 (x:=u-1) (by omega) (by omega),j03 (x:=f-1) (by omega) (by omega),j03 (x:=f+u) (by omega) (by omega),jbW (by omega),j03 (x:=(f+u)/2) (by omega) (by omega),jkP (by omega),
   j2Y (show 0≤k%6 by omega) (show k%6<((([f,u-1,f-1,u,(f+u)/2,t]:List Int).length:Nat):Int) by show k%6<((6:Nat):Int);omega),j5,j03 (x:=k+1) (by omega) (by omega)]
  have hx:∀ x∈[f,u-1,f-1,u,(f+u)/2,t],0≤x∧x≤8589934592:=by
   intro x hx
   simp only [jc,qo,or_false] at hx
   rcases hx with rfl | rfl | rfl | rfl | rfl | rfl<;>omega
  have hm:List.getD [f,u-1,f-1,u,(f+u)/2,t] (k%6).toNat 0∈[f,u-1,f-1,u,(f+u)/2,t]:=by
   have hlt:(k%6).toNat<[f,u-1,f-1,u,(f+u)/2,t].length:=by show (k%6).toNat<6;omega
   rw [show List.getD [f,u-1,f-1,u,(f+u)/2,t] (k%6).toNat 0=[f,u-1,f-1,u,(f+u)/2,t][(k%6).toNat] by rw [List.getD_eq_getElem?_getD,jn hlt,qm]]
   exact jm hlt
  obtain ⟨x0,x1⟩:=hx _ hm
  generalize List.getD [f,u-1,f-1,u,(f+u)/2,t] (k%6).toNat 0=x at *
  have w0:=(jr2 hs hc (i:=0) (by simp) x0 x1).1
  have w1:=(jr2 hs hc' (i:=0) (by simp) x0 x1).1
  rw [show ((0:Nat):Int)=0 from rfl] at w0 w1
  simp only [List.getElem_cons_zero] at w0 w1
  simp only [w0,w1,j3]
  obtain ⟨q1,q2,q3⟩:=jp8 (es:=s.2.2) (t:=x) (f:=f) (u:=u) (Pf:=pfX zs cs s.2.1 x) (n:=s.2.1.length) hp
  generalize topP s.2.2 x (pfX zs cs s.2.1 x) s.2.1.length=old at *
  generalize topP (s.2.2++[((0:Int),(p,((0:Int),(f,u))))]) x (pfX zs cs s.2.1 x) s.2.1.length=new at *
  have eI:cond (decide (f≤x)) (decide (x<u)) false=(decide (f≤x)&&decide (x<u)):=by cases decide (f≤x)<;>rfl
  rw [eI]
  cases hI:(decide (f≤x)&&decide (x<u)) with
  | false=>
   rw [q1 hI]
   simp only [kp,j5,jf,j6,j0x]
   exact ih
  | true=>
   have hn:=q2 hI
   rw [j6E hn]
   simp only [jk,j6,j5]
   by_cases ho:old=p
   ·rw [ho]
    simp only [jf,j6,j0x]
    exact ih
   ·rw [show (old != p)=true by simp [ho],q3 ho]
    simp only [j5,jf,j6,j0x]
    exact ih
end
theorem jgW (t:List Int) (_h:Wf (.list (.int .i64)) t):j7F t=some true:=by
 simp only [j7F,jg0,j3,show Int.ofNat (List.length t)=(t.length:Int) from rfl]
 by_cases hl:(t.length:Int)≤500
 ·rw [j01 hl]
  simp only [jk,j6,ji0,j3]
  obtain ⟨zs,ps,cs,ss,a1,e1,hs,g0,g1,g2,g3,d1⟩:=jp7 (L:=t) (a:=0) (n:=1) ⟨by omega,by omega,by omega⟩ (by omega) (by omega)
  obtain ⟨s,rfl⟩:∃ s,ss=[s]:=by
   match ss,g0,g1 with
   | [s],_,_=>exact ⟨s,rfl⟩
   | s::s'::r,_,g1=>simp at g1;omega
  have hsg:=g3 s (by simp)
  have hp0:=hs.so.p0;have hp1:=hs.so.p1;have hz1:=hs.so.z1;have hc1:=hs.so.c1
  have hll:=hsg.ll;have hel:=hsg.el
  have hnm:NmL ([s].map (·.1)):=by rw [g2];exact jtl.take _
  obtain ⟨p,a2,e2,p0,p1,d2⟩:=j0I (n:=(ps.length:Int)) d1 (by omega) (by omega)
  obtain ⟨f,a3,e3,f0,f1,d3⟩:=jgl d2
  obtain ⟨y,a4,e4,m4,d4⟩:=j64 d3 (xs:=[(3600:Int),(86400:Int),(432000:Int)]) (by simp) (by simp)
  have hy:3600≤y∧y≤432000:=by simp at m4;omega
  have hcp:=jr3 (zs:=zs) (ps:=ps) (cs:=cs) (s:=s) (by omega) (by omega) (by omega) (by omega) (by omega)
  have hc:jix (zs,(ps,(cs,[s]))):=jr0 hs (by simp) hnm (fun x hx=>by simp at hx;subst hx;exact hsg.ck)
  have hk:=hsg.ck
  have hday:j1o (Int.tdiv (f+y) 86400)=some true:=by
   rw [jbW (by omega)]
   exact jok (by omega) (by omega)
  have hc':jix (zs,(ps,(cs,[(s.1,(s.2.1,s.2.2++[((0:Int),(p,((0:Int),(f,f+y))))]))]))):=jr0 hs (by simp) hnm (fun x hx=>by
   simp at hx;subst hx
   exact ⟨hk.nm,hk.ly,hk.ll,fun x hx=>by
    rcases jr.1 hx with h | h
    ·exact hk.ed x h
    ·simp at h;subst h
     exact ⟨Int.le_refl _,by show (0:Int)≤2;omega,.inl ⟨p0,p1⟩,fun h=>absurd h (by show ¬ (0:Int)=2;omega),fun _=>rfl,by show 0≤f;omega,by show f<f+y;omega,by show f+y≤1000000000000;omega,hday⟩,
    by simp;omega⟩)
  simp only [e1,j3,show Int.ofNat ps.length=(ps.length:Int) from rfl,e2,e3,e4]
  rw [show jcS (zs,(ps,(cs,[s])))=_ from hcp,j03 (x:=f+y) (by omega) (by omega)]
  simp only [j3,List.length_singleton]
  rw [j01 (show s.2.2.length+1≤j0b by simp [j0b];omega)]
  simp only [j5]
  rw [juf hs hc p0 (by omega) (by omega) (by omega) hc' (D:=t) 9 0 a4 (by omega) (by omega) d4]
  simp only [j3,j91,jsf]
 ·rw [j00 hl]
  simp only [kp,j5,jsf,j3]
end Go.Proofs.Pw
