/- The references of chapters 11 to 14: who is on duty, who is on call. -/
import Derived.Test.YtmlokiiopbjgfaaGreatEEPC
import Derived.Test.YtmlokiiopbjgfaaGreatEEPB
import Derived.Test.YtmlokiiopbjgfaaGreatEEPA
import Derived.Test.YtmlokiiopbjgfaaGreatEEFns
open ByteArray renaming empty->D,mk->Ì
open _root_ renaming Int->E,ByteArray->H,List->J,Nat->R,Option->Á
open Option renaming some->F,map_some->À,none->Æ
open List renaming drop_eq_getElem_cons->G,drop_of_length_le->N,drop_zero->O,getD->X,length->Z,getElem_mem->Ä,all_cons->È
open Decidable renaming decide->I
open Int renaming ofNat->M,tmod->Y
open Bool renaming true->S,not_true->U,false->W,cond_true_left->Â,true_or->Ã,or_eq_true->Å,not_false->Ç
open Go Go.Lft
namespace Go.Proofs.Pw
theorem jsM{w:WL}(hl:w.length<=14)(s:E):∀(n i:R),i+n=w.length->j8w w s (i:E)=F (cond (hasB s (w.drop i)) (.inl S) (.inr ()))
 |0,i,hi=>by
  rw[jbq];simp only[j4h,show M w.length=(w.length:E) from rfl];rw[j01 omg_,j5,j0f,N omg_];rfl
 |n+1,i,hi=>by
  have hi':i<w.length:=omg_;have hgd:w.getD i (0,0)=w[i]:=by simp[X,hi']
  rw[jbq];simp only[j4h,show M w.length=(w.length:E) from rfl];rw[j00 omg_,j1g];simp only[j4,Ã,j6,hgd];rw[j0d (x:=(i:E)+1),G hi'];have hb:hasB s (w[i]::w.drop (i+1))=cond (cond (I (w[i].1<=s)) (I (s<w[i].2)) W) S (hasB s (w.drop (i+1))):=rfl;rw[hb];by_cases h1:w[i].1<=s
  .rw[j00 (show s>=w[i].1 from h1)];simp only[j4];by_cases h2:s<w[i].2
   .rw[j00 h2];rfl
   .rw[j01 h2];simp only[j5,j08];exact jsM hl s n (i+1) omg_
  .rw[j01 (show¬s>=w[i].1 from h1)];simp only[j5,j08];exact jsM hl s n (i+1) omg_
theorem jpH{w:WL}(hl:w.length<=14)(s:E):jcn w s=F (hasB s w):=by
 have:=jsM hl s w.length 0 omg_;simp only[jcn,show j8w w s 0=_ from this,j0,O];cases hasB s w<;>rfl
theorem juf{z:j0O}(hz:ZOk z){t:E}(h0:0<=t)(h1:t<=8589934592):j4m z t=F (locD z t,0):=by
 have h4:=hz.zref.2.1;obtain⟨k,hk,k1,k2⟩:=jfE h4.2 h0 h1;have e:=jiM h4.2 hk k1 k2;grind[locD,tb,jmu]
theorem jug{z:j0O}(hz:ZOk z){t:E}(h0:0<=t)(h1:t<=8589934592){w:WL}(hw:WOk 0 w)(hl:w.length<=14):jad z t=F (secD (locD z t),0)/\jjT z w t=F (hasB (secD (locD z t)) w):=by
 have e1:=juf hz h0 h1;obtain⟨_,hsc⟩:=jlF hz h0 h1;have e2:jeI (locD z t)=F (secD (locD z t)):=hsc;have e3:jad z t=F (secD (locD z t),0):=by grind[jad]
 grind[jjT,r5ck,jpH]
section
variable{zs:J j0O}{ps:J j0r}{cs:J CalT}(hs:GOk zs ps cs)
include hs
theorem jsN{k d e:E}{x:CalT}(hx:CCk zs.length x){L:j0c}:∀(n i:R)(b:Bool),i+n=x.2.2.length->b=I (d∈x.2.2.take i)->
  j7v k b (i:E) L.1 L.2.1 L.2.2.1.1 L.2.2.1.2 L.2.2.2.1 L.2.2.2.2.1 L.2.2.2.2.2.1 L.2.2.2.2.2.2.1 L.2.2.2.2.2.2.2.1 L.2.2.2.2.2.2.2.2 x.1 x.2.1 x.2.2 d e=
   F (k,I (d∈x.2.2),L.1,L.2.1,L.2.2.1.1,L.2.2.1.2,L.2.2.2.1,L.2.2.2.2.1,L.2.2.2.2.2.1,L.2.2.2.2.2.2.1,L.2.2.2.2.2.2.2.1,L.2.2.2.2.2.2.2.2)
 |0,i,b,hi,hb=>by
  rw[jcA];simp(disch:=omega)only[j4X,hb,List.take_of_length_le,S0]
 |n+1,i,b,hi,hb=>by
  have _:=hs;have hxl:=hx.len;have hi':i<x.2.2.length:=omg_;have hgd:x.2.2.getD i (0:E)=x.2.2[i]:=by simp[hi']
  rw[jcA];simp only[j4X,show M x.2.2.length=(x.2.2.length:E) from rfl];rw[j00 omg_,j0d (x:=(i:E)+1),j4];have ht:x.2.2.take (i+1)=x.2.2.take i++[x.2.2[i]]:=by simp_all
  cases hbb:b with
  |true=>simp only[j4,j08];refine jsN hx n (i+1) S omg_ ?_;grind
  |false=>have hnm:d∉x.2.2.take i:=of_decide_eq_false (by rw[<-hb,hbb]);simp(disch:=omega)only[S0];refine jsN hx n (i+1) _ omg_ ?_;grind
theorem jsO{L:j0c}(hL:LC1 zs.length ps.length cs.length L){ss:J j0q}{t:E}(h0:0<=t)(h1:t<=8589934592):∃k,jdO (zs,ps,cs,ss) L t=F (k,onX zs cs L t)/\(onX zs cs L t=S->k=shK (zAt zs L.2.1) L t):=by
 have hRt:=hL.rt2;have hz:ZOk (zAt zs L.2.1):=zget hs.ok hL.z0 hL.z1;have h4:=hz.zref.2.1;obtain⟨K,eK,hK⟩:=juP h4 hRt h0 h1;have hKs:K=shK (zAt zs L.2.1) L t:=ShO.uniq h4.2 hRt hK (jrw hz hRt h0 h1).2;subst hKs;have ek:jbZ (zAt zs L.2.1) L t=F (shK (zAt zs L.2.1) L t,0):=by grind[jbZ,jlE]
 obtain⟨_,ein⟩:=jug hz h0 h1 hL.w hL.wl
 have htail:(cond (L.2.2.2.2.2.2.2.2==(0:E)) (F (shK (zAt zs L.2.1) L t,S)) (cond (inR L.2.2.2.2.2.2.2.1 cs.length) (cond (inR (cs.getD L.2.2.2.2.2.2.2.1.toNat (D,0,[])).2.1 zs.length)
   ((
    j4m ((zs.getD (cs.getD L.2.2.2.2.2.2.2.1.toNat (D,(0:E),([]:J E))).2.1.toNat (D,0,[])).1,(zs.getD (cs.getD L.2.2.2.2.2.2.2.1.toNat (D,(0:E),([]:J E))).2.1.toNat (D,0,[])).2.1,(zs.getD (cs.getD L.2.2.2.2.2.2.2.1.toNat (D,(0:E),([]:J E))).2.1.toNat (D,0,[])).2.2) t).bind λr67=>
    (j7v (shK (zAt zs L.2.1) L t) W 0 L.1 L.2.1 L.2.2.1.1 L.2.2.1.2 L.2.2.2.1 L.2.2.2.2.1 L.2.2.2.2.2.1 L.2.2.2.2.2.2.1 L.2.2.2.2.2.2.2.1 L.2.2.2.2.2.2.2.2 (cs.getD L.2.2.2.2.2.2.2.1.toNat (D,0,[])).1 (cs.getD L.2.2.2.2.2.2.2.1.toNat (D,0,[])).2.1 (cs.getD L.2.2.2.2.2.2.2.1.toNat (D,0,[])).2.2 r67.1.1 r67.1.2).bind λq0=>
     F (q0.1,(q0.2.1==(q0.2.2.2.2.2.2.2.2.2.2.2==(2:E))))) Æ) Æ))=F (shK (zAt zs L.2.1) L t,calB zs cs L t):=by
  by_cases hm:L.2.2.2.2.2.2.2.2=0
  .grind[calB]
  .have hcal:=hL.cal hm;have hx:=cget hs hcal.1 hcal.2;have hxz:=zget hs.ok hx.z0 hx.z1;rw[j55 hm,j5,j2M hcal.1 hcal.2,j2M hx.z0 hx.z1];simp only[j4];rw[show j4m ((zs.getD (cs.getD L.2.2.2.2.2.2.2.1.toNat (D,(0:E),([]:J E))).2.1.toNat (D,0,[])).1,(zs.getD (cs.getD L.2.2.2.2.2.2.2.1.toNat (D,(0:E),([]:J E))).2.1.toNat (D,0,[])).2.1,(zs.getD (cs.getD L.2.2.2.2.2.2.2.1.toNat (D,(0:E),([]:J E))).2.1.toNat (D,0,[])).2.2) t=_ from juf hxz h0 h1];simp only[j0];rw[show j7v (shK (zAt zs L.2.1) L t) W 0 L.1 L.2.1 L.2.2.1.1 L.2.2.1.2 L.2.2.2.1 L.2.2.2.2.1 L.2.2.2.2.2.1 L.2.2.2.2.2.2.1 L.2.2.2.2.2.2.2.1 L.2.2.2.2.2.2.2.2 (cs.getD L.2.2.2.2.2.2.2.1.toNat (D,0,[])).1 (cs.getD L.2.2.2.2.2.2.2.1.toNat (D,0,[])).2.1 (cs.getD L.2.2.2.2.2.2.2.1.toNat (D,0,[])).2.2 _ _=_ from jsN hs hx (L:=L) (cs.getD L.2.2.2.2.2.2.2.1.toNat (D,0,[])).2.2.length 0 W omg_ smp_];unfold calB;rw[j55 hm];rfl
 simp only[jdO,jd4];rw[j2M hL.z0 hL.z1];simp only[j4];rw[show jbZ ((zs.getD L.2.1.toNat (D,0,[])).1,(zs.getD L.2.1.toNat (D,0,[])).2.1,(zs.getD L.2.1.toNat (D,0,[])).2.2) (L.1,L.2.1,(L.2.2.1.1,L.2.2.1.2),L.2.2.2.1,L.2.2.2.2.1,L.2.2.2.2.2.1,L.2.2.2.2.2.2.1,L.2.2.2.2.2.2.2.1,L.2.2.2.2.2.2.2.2) t=_ from ek];simp only[j0,bne_self_eq_false,j5];by_cases hk:0<=shK (zAt zs L.2.1) L t
 .rw[j01 (show¬shK (zAt zs L.2.1) L t<0 by omega)];simp only[j5,show M L.2.2.2.2.2.2.1.length=(L.2.2.2.2.2.2.1.length:E) from rfl];have hon:onX zs cs L t=cond (okW L.2.2.2.2.2.2.1 (secD (locD (zAt zs L.2.1) t))) (calB zs cs L t) false:=by grind[onX]
  rw[hon];by_cases hw:(L.2.2.2.2.2.2.1.length:E)>0
  .rw[j00 hw,j4,show jjT ((zs.getD L.2.1.toNat (D,0,[])).1,(zs.getD L.2.1.toNat (D,0,[])).2.1,(zs.getD L.2.1.toNat (D,0,[])).2.2) L.2.2.2.2.2.2.1 t=_ from ein];simp only[j0];unfold okW;rw[j00 hw,j4];cases hasB (secD (locD (zAt zs L.2.1) t)) L.2.2.2.2.2.2.1 with
   |false=>simp_all
   |true=>
    simp_all
  grind[okW]
 .rw[j00 (show shK (zAt zs L.2.1) L t<0 by omega)];have hon:onX zs cs L t=false:=by grind[onX]
  simp_all
theorem jr0{L:j0c}(hL:LC1 zs.length ps.length cs.length L){ss:J j0q}{t:E}(h0:0<=t)(h1:t<=8589934592):jgp (zs,ps,cs,ss) L t=F (perX zs cs L t):=by
 obtain⟨k,e,hk⟩:=jsO hs hL (ss:=ss) h0 h1;have hon:onX zs cs L t=S->0<=shK (zAt zs L.2.1) L t:=juQ;simp(disch:=omega)only[jgp,show jdO (zs,ps,cs,ss) (L.1,L.2.1,(L.2.2.1.1,L.2.2.1.2),L.2.2.2.1,L.2.2.2.2.1,L.2.2.2.2.2.1,L.2.2.2.2.2.2.1,L.2.2.2.2.2.2.2.1,L.2.2.2.2.2.2.2.2) t=_ from e,S0];unfold perX;cases hc:onX zs cs L t with
 |false=>rfl
 |true=>have hm0:=hL.m0;have hk0:=hon hc;have:=hk hc;subst this;have q1:0<=Y (shK (zAt zs L.2.1) L t) (L.2.2.2.2.2.1.length:E):=Int.tmod_nonneg _ hk0;have q2:Y (shK (zAt zs L.2.1) L t) (L.2.2.2.2.2.1.length:E)<(L.2.2.2.2.2.1.length:E):=Int.tmod_lt_of_pos _ omg_;rw[j55 (show¬(L.2.2.2.2.2.1.length:E)=0 by omega),j2M q1 q2];rfl
end
section
variable{z:j0O}{l:TrL}(h4:Z4 z l)
include h4
end
section
variable{zs:J j0O}{ps:J j0r}{cs:J CalT}{ss:J j0q}
end
def NoC(out:J E)(x y:E):Prop:=∀c∈out,¬(x<c/\c<=y)
theorem NoC.left{A B:J E}{x y:E}(h:NoC (A++B) x y):NoC A x y:=λc hc=>h c (List.mem_append_left _ hc)
theorem NoC.right{A B:J E}{x y:E}(h:NoC (A++B) x y):NoC B x y:=λc hc=>h c (List.mem_append_right _ hc)
section
variable{zs:J j0O}{ps:J j0r}{cs:J CalT}{ss:J j0q}(hs:GOk zs ps cs)
include hs
end
structure TG(o:E)(l:TrL):Prop where
 len:l.length<=1000
 gap:∀i,i+1<l.length->tat l i+604800<=tat l (i+1)
 pos:∀i,i<l.length->0<=tat l i
 max:∀i,i<l.length->tat l i<=8589934592
 of0:∀i,i<=l.length -> -64800<=tof o l i
 of1:∀i,i<=l.length->tof o l i<=64800
section
variable{o:E}{l:TrL}(h:TG o l)
include h
theorem TG.at_lt:∀(k i:R),i+k+1<l.length->tat l i+604800<=tat l (i+k+1)
 |0,i,hk=>h.gap i hk
 |k+1,i,hk=>by
  have h1:=TG.at_lt k i omg_;have h2:=h.gap (i+k+1) omg_;rw[show i+(k+1)+1=i+k+1+1 by omega];omega
theorem TG.at_le{i j:R}(hij:i<j)(hj:j<l.length):tat l i+604800<=tat l j:=by
 have:=h.at_lt (j-i-1) i omg_;rwa[show i+(j-i-1)+1=j by omega]at this
theorem TG.frm_le1{i:R}(hi:i<=l.length):frm l i<=frm l (i+1):=by
 rcases Nat.lt_or_ge i l.length with hl|hl
 .rw[j9K hl];cases i with
  |zero=>rw[frm0];exact h.pos 0 hl
  |succ i=>rw[j9K omg_];have:=h.gap i hl;omega
 .have:i=l.length:=omg_;subst this;rw[j8l];cases hq:l.length with
  |zero=>rw[frm0];omega
  |succ n=>rw[j9K omg_];have:=h.max n omg_;omega
theorem TG.frm_gap{i j:R}(hi:1<=i)(hij:i<j)(hj:j<=l.length):frm l i+604800<=frm l j:=by
 obtain⟨i,rfl⟩:∃i',i=i'+1:=⟨i-1,omg_⟩;obtain⟨j,rfl⟩:∃j',j=j'+1:=⟨j-1,omg_⟩;rw[j9K omg_,j9K omg_];exact h.at_le omg_ omg_
theorem TG.frm_le{i j:R}(hij:i<=j)(hj:j<=l.length+1):frm l i<=frm l j:=by
 induction j with
 |zero=>have:i=0:=omg_;subst this;omega
 |succ j ih=>
  by_cases he:i=j+1
  .subst he;omega
  .have h1:=ih omg_ omg_;have h2:=h.frm_le1 (i:=j) omg_;omega
theorem TG.frm_lt{i:R}(hi:i<=l.length)(h0:0<i):frm l i<frm l (i+1):=by
 rcases Nat.lt_or_ge i l.length with hl|hl
 .have:=h.frm_gap (i:=i) (j:=i+1) h0 omg_ omg_;omega
 .have:i=l.length:=omg_;subst this;obtain⟨n,hn⟩:∃n,l.length=n+1:=⟨l.length-1,omg_⟩;rw[j8l,show frm l l.length=tat l n by rw[hn];exact j9K omg_];have:=h.max n omg_;omega
end
theorem jfh(n lo hi:E):(j5T n lo hi=F S/\j6y n lo hi=F S/\lo<=n/\n<=hi)\/(j5T n lo hi=F W/\j6y n lo hi=F W):=by
 by_cases h:lo<=n/\n<=hi
 .exact .inl ⟨in_t h.1 h.2,in_t h.1 h.2,h.1,h.2⟩
 .exact .inr ⟨in_f h,in_f h⟩
theorem jr1(r:Rule):(j7J r=F 0/\j7P r=F S/\ROk r)\/(j7J r=F 1/\j7P r=F W):=by
 simp only[j7J,j7P];rcases jfh r.1 1970 2240 with⟨a,b,c1,c2⟩|⟨a,b⟩
 case inr=>simp_all
 simp(disch:=omega)only[a,b,S0];clear a b;rcases jfh r.2.1 r.1 2240 with⟨a,b,d1,d2⟩|⟨a,b⟩
 case inr=>simp_all
 simp(disch:=omega)only[a,b,S0];clear a b;rcases jfh r.2.2.1 1 12 with⟨a,b,e1,e2⟩|⟨a,b⟩
 case inr=>simp_all
 simp(disch:=omega)only[a,b,S0];clear a b;rcases jfh r.2.2.2.1 1 5 with⟨a,b,f1,f2⟩|⟨a,b⟩
 case inr=>simp_all
 simp(disch:=omega)only[a,b,S0];clear a b;rcases jfh r.2.2.2.2.1 0 6 with⟨a,b,g1,g2⟩|⟨a,b⟩
 case inr=>simp_all
 simp(disch:=omega)only[a,b,S0];clear a b;rcases jfh r.2.2.2.2.2.1 0 86399 with⟨a,b,i1,i2⟩|⟨a,b⟩
 case inr=>simp_all
 simp(disch:=omega)only[a,b,S0];clear a b;rcases jfh r.2.2.2.2.2.2 (-64800) 64800 with⟨a,b,j1,j2⟩|⟨a,b⟩
 case inr=>simp_all
 simp(disch:=omega)only[a,b,S0];exact .inl ⟨trivial,trivial,c1,d1,d2,e1,e2,f1,f2,g1,g2,i1,i2,j1,j2⟩
theorem jrx{rs:J Rule}(hlen:rs.length<=100)(nm:H)(o:E):∀(n i:R)(s:E),i+n=rs.length->0<=s->s<=300*i->¬(∀r∈rs.drop i,ROk r)->
  j3I s rs (rs.length:E) (i:E) nm o rs=F (.inl 1)/\j3c s (i:E) nm o rs=F (.inl 1)
 |0,i,s,hi,_,_,hb=>by
  simp_all
 |n+1,i,s,hi,hs0,hs1,hb=>by
  have hlt:i<rs.length:=omg_;have hg:rs.getD i (0,0,0,0,0,0,0)=rs[i]:=by simp[hlt]
  rw[j5c,j5E];simp only[j1p,j1y,show M (Z rs)=(rs.length:E) from rfl];rw[j00 (show (i:E)<(rs.length:E) by omega),j1g];simp only[j4,j6,hg];rcases jr1 rs[i]with⟨a,b,hr⟩|⟨a,b⟩
  .have h0:=hr.y0;have h1:=hr.y1;have h2:=hr.y2
   have ih:=jrx hlen nm o n (i+1) (s+(rs[i].2.1-rs[i].1+1)) omg_ omg_ omg_ (λh=>hb λr hrm=>by
    grind[G])
   simp(disch:=omega)only[a,b,S0];exact ih
  grind[j0f]
def trG(now:E)(p:Á E):TrL->Á TrL
 |[]=>F []
 |x::r=>if x.2=now then trG now p r else
  if -86400<x.2-now/\x.2-now<86400/\0<=x.1-now/\x.1-now<=8589934592/\(p.all λq=>I (q+604800<=x.1-now))=S then (trG x.2 (F (x.1-now)) r).map ((x.1-now,x.2):: ·) else Æ
def trR(acc:TrL):Á TrL->E ⊕ TrL
 |none=> .inl 6
 |some l=> .inr (acc++l)
theorem jpI(acc:TrL)(y:E×E)(q:Á TrL):trR acc (q.map (y :: ·))=trR (acc++[y]) q:=by
 cases q<;>grind[trR]
def OB(L:TrL):Prop:=∀x∈L,(-1000000000000<=x.1/\x.1<=1000000000000) /\ -64800<=x.2/\x.2<=64800
theorem jsP{acc:TrL}(h:acc≠[]):acc.getLast? = F (acc.getD (acc.length-1) (0,0)):=by
 grind[List.length_pos_iff]
theorem jry{L:TrL}(hL:L.length<=1000)(hO:OB L):∀(n i:R)(now:E)(acc:TrL),i+n=L.length -> -64800<=now->now<=64800->acc.length<=i->(∀x∈acc,0<=x.1/\x.1<=8589934592)->
  j3J now (L.length:E) (i:E) acc L=F (trR acc (trG now (acc.getLast?.map (·.1)) (L.drop i)))/\j3d now (i:E) acc L=F (trR acc (trG now (acc.getLast?.map (·.1)) (L.drop i)))
 |0,i,now,acc,hi,_,_,_,_=>by
  rw[j3R,j4d];grind[j16,j1e,trG,trR,S0]
 |n+1,i,now,acc,hi,hn0,hn1,hal,hacc=>by
  have hlt:i<L.length:=omg_;obtain⟨⟨x0,x1⟩,o0,o1⟩:=hO _ (Ä hlt);have hgd:L.getD i (0,0)=L[i]:=by simp[hlt]
  have ihA:=λnow acc=>jry hL hO n (i+1) now acc;rw[G hlt,j3R,j4d];simp only[j16,j1e,show M (Z L)=(L.length:E) from rfl];rw[j00 (show (i:E)<(L.length:E) by omega),j1g];simp only[j4,j6,hgd];generalize L[i]=x at *;rw[j0d (x:=(i:E)+1)];simp only[trG,show M (Z acc)=(acc.length:E) from rfl];by_cases hx:x.2=now
  .grind[j08]
  rw[if_neg hx,j55 hx,j0d (x:=x.1-now),j0d (x:=x.2-now),j0d (x:=(acc.length:E)-1)];simp only[j5]
  have hix:∀b:Bool,(b=S->0<acc.length)->(inR ((acc.length:E)-1) acc.length || !b)=true:=λb hb=>by
   grind[j2M]
  by_cases hd : -86400<x.2-now/\x.2-now<86400
  case neg=>rw[if_neg (λh=>hd ⟨h.1,h.2.1⟩),jpw (λh=>hd ⟨omg_,omg_⟩)];rw[show (cond (I (x.2-now>=86400)) S (I (x.2-now <= -86400)))=S by grind];rw[hix _ smp_];simp(disch:=omega)only[trR,S0];exact⟨trivial,trivial⟩
  rw[show (cond (I (x.2-now>=86400)) S (I (x.2-now <= -86400)))=W by simp_all,
   j85 (show (-86399:E)<=x.2-now by omega) (show x.2-now<=86399 by omega)]
  simp only[j5,j0,U];by_cases ha:0<=x.1-now/\x.1-now<=8589934592
  case neg=>grind[in_f,jpw,j0f,trR]
  rw[in_t ha.1 ha.2,j85 ha.1 ha.2];simp only[j0,U,j5,Ç,Bool.true_and]
  have hnext:=ihA x.2 (acc++[(x.1-now,x.2)]) omg_ o0 o1 sqo_ (λy hy=>by
   grind)
  rw[show (acc++[(x.1-now,x.2)]).getLast? = F (x.1-now,x.2) by simp,À]at hnext;by_cases he:acc=[]
  .subst he;simp only[List.length_nil,List.getLast?_nil,Option.map_none,Option.all_none];rw[show I (((0:R):E)>0)=W from rfl,if_pos ⟨hd.1,hd.2,ha.1,ha.2,trivial⟩,jpI]
   simp_all[S0]
  .have hpos:0<acc.length:=List.length_pos_iff.2 he;have hlast:=jsP he;have hb:=hacc (acc.getD (acc.length-1) (0,0)) (List.mem_of_getLast? hlast);rw[hix _ (λ_=>hpos),j1g,j00 (show (acc.length:E)>0 by omega),show ((acc.length:E)-1).toNat=acc.length-1 by omega,hlast];simp only[j4,À,Option.all_some];generalize acc.getD (acc.length-1) (0,0)=y at *;rw[j0d (x:=y.1+604800),j0d (x:=x.1-now-y.1)];by_cases hg:y.1+604800<=x.1-now
   .rw[if_pos ⟨hd.1,hd.2,ha.1,ha.2,j00 hg⟩,jpI,j01 (show¬x.1-now<y.1+604800 by omega),j01 (show¬x.1-now-y.1<604800 by omega),j00 (by simp[j06];omega)];grind[j08]
   grind[j0f,trR]
def ChG(p:Á E):TrL->Prop
 |[]=>True
 |x::r=>(0<=x.1/\x.1<=8589934592/\(∀q,p=F q->q+604800<=x.1) /\ -64800<=x.2/\x.2<=64800)/\ChG (F x.1) r
theorem jpJ:∀(L l:TrL)(now:E)(p:Á E),OB L->trG now p L=F l->ChG p l/\l.length<=L.length
 |[],l,now,p,_,h=>by
  simp only[trG,j3]at h;subst h;exact⟨trivial,Nat.le_refl _⟩
 |x::r,l,now,p,hO,h=>by
  have hx:=(hO x smp_).2;have hr:OB r:=λy hy=>hO y (by simp[hy]);simp only[trG]at h;split at h
  .obtain⟨a,b⟩:=jpJ r l now p hr h;exact⟨a,sqo_⟩
  split at h
  .next hc=>
   cases hq:trG x.2 (F (x.1-now)) r with
   |none=>rw[hq]at h;simp at h
   |some l'=>rw[hq]at h;simp only[À,j3]at h;subst h;obtain⟨a,b⟩:=jpJ r l' _ _ hr hq;obtain⟨c1,c2,c3,c4,c5⟩:=hc;exact⟨⟨⟨c3,c4,λq hq=>by subst hq;simpa using c5,hx⟩,a⟩,sqo_⟩
  .simp at h
theorem jpK:∀(l:TrL)(p:Á E),ChG p l->(∀i,i+1<l.length->tat l i+604800<=tat l (i+1))/\(∀i,i<l.length->0<=tat l i/\tat l i<=8589934592)/\
  (∀o i, -64800<=o->o<=64800->i<=l.length -> -64800<=tof o l i/\tof o l i<=64800)
 |[],_,_=>⟨λi h=>by simp at h,λi h=>by simp at h,λo i h1 h2 h3=>by
  have:i=0:=by simpa using h3
  subst this;exact⟨h1,h2⟩⟩
 |x::r,p,h=>by
  obtain⟨⟨g3,g4,g5,g6,g7⟩,g8⟩:=h;obtain⟨h1,h2,h3⟩:=jpK r _ g8;refine⟨λi hi=>?_,λi hi=>?_,λo i ho0 ho1 hi=>?_⟩
  .cases i with
   |zero=>
    cases r with
    |nil=>simp at hi
    |cons y ys=>have:=g8.1.2.2.1 _ rfl;exact this
   |succ i=>exact h1 i (by simp at hi ⊢;omega)
  .cases i with
   |zero=>exact⟨g3,g4⟩
   |succ i=>exact h2 i (by simp at hi ⊢;omega)
  .cases i with
   |zero=>exact⟨ho0,ho1⟩
   |succ i=>
    cases i with
    |zero=>exact⟨g6,g7⟩
    |succ i=>exact h3 x.2 (i+1) g6 g7 (by simp at hi ⊢;omega)
theorem jsQ{rs:J Rule}(h:∀r∈rs,ROk r):OB (j4z (occs rs)):=λx hx=>by
 have hx:=jkp hx;obtain⟨r,hr,j,_,rfl⟩:=jms hx;exact⟨jly h _ hx,(h r hr).o0,(h r hr).o1⟩
def ZF(z:H×E×J Rule):Prop:=z.2.2.length<=100000/\(occs z.2.2).length<20
theorem jku(z:H×E×J Rule)(hf:(occs z.2.2).length<20):∃l e,j14 z=F (l,e)/\j0x z=F (l,e)/\l.length<=1000/\(e=0->TG z.2.1 l/\(-64800<=z.2.1/\z.2.1<=64800)/\trG z.2.1 Æ (j4z (occs z.2.2))=F l):=by
 obtain⟨nm,o,rs⟩:=z;rcases jfh o (-64800) 64800 with⟨a,b,o0,o1⟩|⟨a,b⟩
 case inr=>refine⟨[],1,?_,?_,smp_,smp_⟩;all_goals grind[j14,j2z,j0x]
 by_cases h16:rs.length>16
 .refine⟨[],5,?_,?_,smp_,smp_⟩;all_goals grind[j14,j2z,j0x]
 by_cases hall:∀r∈rs,ROk r
 case neg=>
  have hb:=jrx (rs:=rs) omg_ nm o rs.length 0 0 omg_ omg_ omg_ (by rwa[O]);rw[show ((0:R):E)=0 from rfl]at hb;refine⟨[],1,?_,?_,smp_,smp_⟩
  .simp only[j14,j2z,a,j0,U,j5,show M (Z rs)=(rs.length:E) from rfl];rw[j01 (show¬(rs.length:E)>16 by omega),j5,hb.1];rfl
  .simp only[j0x,b,j0,U,j5,show M (Z rs)=(rs.length:E) from rfl];rw[j01 (show¬(rs.length:E)>16 by omega),j5,hb.2];rfl
 have e0:=jpq hall omg_ nm o rs.length 0 0 omg_ omg_ omg_;have e2:=jpp hall omg_ rs.length 0 [] omg_ smp_;have e3:=jpx hall omg_ nm o rs.length 0 0 omg_ omg_ omg_;rw[O]at e0 e2 e3;rw[show ((0:R):E)=0 from rfl,Int.zero_add]at e0 e3;rw[show ((0:R):E)=0 from rfl,List.nil_append]at e2;by_cases hn:(occs rs).length>640
 .grind
 have hso:j0g (occs rs)=F (j4z (occs rs)):=jea (jly hall) hf;have hl:(j4z (occs rs)).length<=640:=by simp[j4z,j84];omega
 have hob:=jsQ hall;obtain⟨t1,t2⟩:=jry (L:=j4z (occs rs)) omg_ hob (j4z (occs rs)).length 0 o [] omg_ o0 o1 smp_ smp_;rw[show ((0:R):E)=0 from rfl,O,show (([]:TrL).getLast?.map (·.1))=(Æ:Á E) from rfl]at t1 t2;have f1:j14 (nm,o,rs)=(F (trR [] (trG o Æ (j4z (occs rs))))).bind λq0=>sumC q0 (λa=>F (([]:TrL),a)) (λb=>F (b,(0:E))):=by grind[j14,j2z,S0]
 have f2:j0x (nm,o,rs)=(F (trR [] (trG o Æ (j4z (occs rs))))).bind λq0=>sumC q0 (λa=>F (([]:TrL),a)) (λb=>F (b,(0:E))):=by grind[j0x,jmt,S0]
 cases hq:trG o Æ (j4z (occs rs)) with
 |none=>rw[hq]at f1 f2;exact⟨[],6,f1,f2,smp_,smp_⟩
 |some l=>rw[hq]at f1 f2;obtain⟨hc,hlen⟩:=jpJ _ _ _ _ hob hq;obtain⟨c1,c2,c3⟩:=jpK l Æ hc;exact⟨l,0,f1,f2,omg_,λ_=>⟨⟨omg_,c1,λi hi=>(c2 i hi).1,λi hi=>(c2 i hi).2,λi hi=>(c3 o i o0 o1 hi).1,λi hi=>(c3 o i o0 o1 hi).2⟩,⟨o0,o1⟩,rfl⟩⟩
theorem jkv{s:H}(hs:s.size<=24):∀(n i:R),i+n=s.size->∃r:Bool ⊕ Unit,j8r s (s.size:E) (i:E)=F r/\jaH s (i:E)=F r/\(r = .inl W\/r = .inr ())
 |0,i,hi=>by
  grind[jb9,jcy,j3U,j4V,S0]
 |n+1,i,hi=>by
  obtain⟨r,r1,r2,r3⟩:=jkv hs n (i+1) omg_;rw[jb9,jcy];simp only[j3U,j4V,j8N,jcW,jgo,j0,show M s.size=(s.size:E) from rfl];rw[j00 (show (i:E)<(s.size:E) by omega),j1g,j0d (x:=(i:E)+1)];simp only[j4,Ã];by_cases ha:97<=j6l s i/\j6l s i<=122
  .simp_all[S0]
  .have e:cond (I (j6l s i>=97)) (I (j6l s i<=122)) W=false:=by
    simp_all
   have e':cond (I (j6l s i<97)) S (I (j6l s i>122))=true:=by grind
   rw[e,e'];simp only[Ç,j4];by_cases hb:48<=j6l s i/\j6l s i<=57
   .simp_all[S0]
   grind[j08,j0f]
theorem jrz(s:H):∃b,ja6 s=F b/\jfA s=F b:=by
 simp(disch:=omega)only[ja6,jfA,S0];by_cases hz:s.size=0\/24<s.size
 .have t1:cond (s.toList==ByteArray.empty.toList) S (I ((s.size:E)>24))=true:=by
   rcases hz with hz|hz
   .simp_all
   grind
  have t2:cond (I ((s.size:E)<1)) S (I ((s.size:E)>24))=true:=by grind
  simp(disch:=omega)only[t1,t2,Bool.or_true,S0];exact⟨W,rfl,rfl⟩
 .have hne:s≠ByteArray.empty:=λh=>hz (.inl (by rw[h];rfl));have hs1:1<=s.size:=omg_;have hs2:s.size<=24:=omg_;simp(disch:=omega)only[jmy hne,j8N,S0];by_cases ha:97<=j6l s 0/\j6l s 0<=122
  .obtain⟨r,r1,r2,r3⟩:=jkv hs2 s.size 0 omg_;rw[show ((0:R):E)=0 from rfl]at r1 r2;rw[j00 (show j6l s 0>=97 from ha.1),j00 ha.2,j01 (show¬j6l s 0<97 by omega),j01 (show¬j6l s 0>122 by omega),r1,r2];rcases r3 with rfl|rfl
   .exact⟨W,rfl,rfl⟩
   .exact⟨S,rfl,rfl⟩
  .have e:cond (I (j6l s 0>=97)) (I (j6l s 0<=122)) W=false:=by
    simp_all
   have e':cond (I (j6l s 0<97)) S (I (j6l s 0>122))=true:=by grind
   rw[e,e'];exact⟨W,rfl,rfl⟩
theorem jpL{s:H}:∀{l:J H},s∈l->j8K W (j95 l) s=S
 |[],h=>by simp at h
 |k::l,h=>by
  show cond (s==k) S (j8K W (j95 l) s)=S;cases hb:(s==k) with
  |true=>rfl
  |false=>
   rw[j5];rcases List.mem_cons.1 h with rfl|h
   .have:=(MapKept.bytes_beq s s).2 rfl;rw[hb]at this;simp at this
   .exact jpL h
theorem juh{L:J H}{s:H}(hl:L.length<=1000):∀(n k:R),k+n=L.length->∃r:E ⊕ Unit,jd2 (L++[s]) (L.length:E) (k:E)=F r/\((s∈L.drop k->r = .inl 4)/\(s∉L.drop k->r = .inr ()))
 |0,k,hk=>by
  rw[jcz];simp(disch:=omega)only[N,j4W,S0]
  simp_all
 |n+1,k,hk=>by
  have hlt:k<L.length:=omg_;obtain⟨r,r1,r2,r3⟩:=juh (s:=s) hl n (k+1) omg_;have g1:(L++[s]).getD k D=L[k]:=by grind
  have g2:(L++[s]).getD L.length D=s:=by simp[X]
  rw[jcz,G hlt];simp only[j4W];rw[j00 (show (k:E)<(L.length:E) by omega),j2M (n:=(L++[s]).length) (show (0:E)<=(k:E) by omega) sqo_,j2M (n:=(L++[s]).length) (show (0:E)<=(L.length:E) by omega) sqo_,j0d (x:=(k:E)+1)];simp only[j4,j6,g1,g2];grind[j0f,jmy,j08]
theorem jgN{L:J H}(hl:L.length<=1000)(s:H):∃e,j3B s (j95 L)=F (e,j95 (if e=0 then L++[s] else L))/\j9x (L++[s]) (L.length:E)=F e:=by
 obtain⟨b,b1,b2⟩:=jrz s;have g2:(L++[s]).getD L.length D=s:=by simp[X]
 simp only[j3B,j9x,b1,j0];rw[j2M (n:=(L++[s]).length) (show (0:E)<=(L.length:E) by omega) sqo_];simp only[j4,j6,g2,b2,j0];cases b with
 |false=>
  simp_all
 |true=>
  simp only[U,j5];obtain⟨r,r1,r2,r3⟩:=juh (s:=s) hl L.length 0 omg_;rw[O]at r2 r3;rw[show ((0:R):E)=0 from rfl]at r1;rw[r1];by_cases hm:s∈L
  .rw[jpL hm,r2 hm];exact⟨4,rfl,rfl⟩
  .obtain⟨m1,m2⟩:=jph hm;rw[m1,m2,r3 hm];exact⟨0,rfl,rfl⟩
theorem jrA{nm:H}{o:E}{rs:J Rule}(hl:rs.length<=100000):∀(n i:R)(b:Bool),i+n=rs.length->j9I b (i:E) nm o rs=F (b&&(rs.drop i).all λr=>Y r.2.2.2.2.2.2 60==0)
 |0,i,b,hi=>by
  rw[jac];simp(disch:=omega)only[N,j3O,S0];simp
 |n+1,i,b,hi=>by
  have hlt:i<rs.length:=omg_;have hgd:rs.getD i (0,0,0,0,0,0,0)=rs[i]:=by simp[X,hlt]
  have ih:=λb=>jrA (nm:=nm) (o:=o) hl n (i+1) b omg_;rw[jac];simp(disch:=omega)only[G hlt,j3O,È,S0];refine(ih _).trans ?_;cases b<;>simp
theorem jui{rs:J Rule}(hl:rs.length<=100000):∀(n i:R),i+n=rs.length->∃q,((j17 rs (rs.length:E) (i:E)).bind λq0=>sumC q0 (λa=>F a) (λ_=>F (-1:E)))=F q/\I (q>=0) = !((rs.drop i).all λr=>Y r.2.2.2.2.2.2 60==0)
 |0,i,hi=>by
  rw[j1F];simp(disch:=omega)only[N,j0i,S0];exact⟨-1,rfl,rfl⟩
 |n+1,i,hi=>by
  have hlt:i<rs.length:=omg_;have hgd:rs.getD i (0,0,0,0,0,0,0)=rs[i]:=by simp[X,hlt]
  obtain⟨q,q1,q2⟩:=jui hl n (i+1) omg_;rw[j1F,G hlt];simp only[j0i,j5U];rw[j00 (show (i:E)<(rs.length:E) by omega),j1g,j0d (x:=(i:E)+1)];simp only[j4,j6,hgd,j0,È];by_cases h:Y rs[i].2.2.2.2.2.2 60=0
  .grind[j08]
  .rw[show (Y rs[i].2.2.2.2.2.2 60 != 0)=S by simpa using h,j55 h,j4,j0f];exact⟨(i:E),rfl,by simp_all⟩
theorem jlG(z:j0O)(hl:ZF z):∃e e1 b,j1x z=F e/\j5F z=F e1/\j7u z=F b/\(e=if e1=0/\b=S then 0 else 8):=by
 obtain⟨l,e1,t1,t2,_,_⟩:=jku z hl.2;have hl:=hl.1;have c1:ja7 (z.1,z.2.1,z.2.2)=F e1:=by grind[ja7]
 have c2:j5F z=F e1:=by grind[j5F]
 have m:=jrA (nm:=z.1) (o:=z.2.1) hl z.2.2.length 0 (Y z.2.1 60==0) omg_;obtain⟨q,q1,q2⟩:=jui hl z.2.2.length 0 omg_;rw[show ((0:R):E)=0 from rfl,O]at m;rw[show ((0:R):E)=0 from rfl]at q1;rw[O]at q2;have hm:j7u z=F ((Y z.2.1 60==0)&&z.2.2.all λr=>Y r.2.2.2.2.2.2 60==0):=by grind[j7u]
 have hc:j0G z.2.2=F (!(z.2.2.all λr=>Y r.2.2.2.2.2.2 60==0)):=by grind[j0G,j1f]
 refine⟨_,e1,_,?_,c2,hm,rfl⟩;grind[j1x]
theorem jsR{zs:J j0O}{ps:J j0r}{cs:J CalT}{ss:J j0q}(hz:∀z∈zs,ZF z)(hl:zs.length<=100):∀(n i:R)(L:J H),i+n=zs.length->L.length=i->
  ∃r:E ⊕ Unit,j1h zs (zs.length:E) (i:E) (j95 L)=F r/\jbR (i:E) zs ps cs ss L=F r/\r ≠ .inl 0
 |0,i,L,hi,_=>by
  rw[j3x,jbS];simp(disch:=omega)only[j0P,j4t,S0]
  simp_all
 |n+1,i,L,hi,hL=>by
  have hlt:i<zs.length:=omg_;have hgd:zs.getD i (D,0,[])=zs[i]:=by simp[X,hlt]
  obtain⟨e,n1,n2⟩:=jgN (L:=L) omg_ zs[i].1;obtain⟨ez,e1,b,z1,z2,z3,z4⟩:=jlG zs[i] (hz _ (Ä hlt));rw[hL]at n2;rw[j3x,jbS];simp only[j0P,j4t,j69,show M zs.length=(zs.length:E) from rfl];rw[j00 (show (i:E)<(zs.length:E) by omega),j1g,j0d (x:=(i:E)+1)];simp only[j4,j6,hgd,j0,n1];rw[j00 (show L.length+[zs[i].1].length<=j06 by simp[j06];omega)];simp only[j4,n2,j0];by_cases he:e=0
  .subst he;simp only[bne_self_eq_false,j5,if_true];rw[show j1x (zs[i].1,zs[i].2.1,zs[i].2.2)=_ from z1,show j5F (zs[i].1,zs[i].2.1,zs[i].2.2)=_ from z2];simp only[j0,Ã,j4];by_cases h1:e1=0
   .subst h1;simp only[bne_self_eq_false,j5];rw[show j7u (zs[i].1,zs[i].2.1,zs[i].2.2)=_ from z3];simp only[j0];cases b with
    |true=>rw[if_pos ⟨rfl,rfl⟩]at z4;subst z4;obtain⟨r,r1,r2,r3⟩:=jsR (ps:=ps) (cs:=cs) (ss:=ss) hz hl n (i+1) (L++[zs[i].1]) omg_ sqo_;grind[j08]
    |false=>rw[if_neg smp_]at z4;subst z4;exact⟨.inl 8,rfl,rfl,smp_⟩
   .rw[if_neg (λh=>h1 h.1)]at z4;subst z4;rw[show (e1 != 0)=S by simpa using h1];exact⟨.inl 8,rfl,rfl,smp_⟩
  .rw[show (e != 0)=S by simpa using he];exact⟨.inl e,rfl,rfl,λh=>he (by injection h)⟩
theorem jpM{zs:J j0O}{ps:J j0r}{cs:J CalT}{ss:J j0q}(hz:∀z∈zs,ZF z)(hl:zs.length<=100):∃e,j2K zs=F e/\jdJ (zs,ps,cs,ss)=F e:=by
 obtain⟨r,r1,r2,r3⟩:=jsR (ps:=ps) (cs:=cs) (ss:=ss) hz hl zs.length 0 [] omg_ rfl;rw[show ((0:R):E)=0 from rfl]at r1 r2;simp(disch:=omega)only[j2K,jdJ,show j1h zs (zs.length:E) 0 []=_ from r1,r2,S0];cases r with
 |inl e=>exact⟨e,rfl,rfl⟩
 |inr u=>exact⟨0,rfl,rfl⟩
def cw(p:E):WL->E
 |[]=>0
 |v::r=>if v.1<0\/v.1>=v.2\/v.2>604800 then 1 else if v.1<p then 6 else cw v.2 r
def cwP(w:WL)(i:R):Int:=if i=0 then 0 else (w.getD (i-1) (0,0)).2
theorem jr2(w:WL)(i:R):cwP w (i+1)=(w.getD i (0,0)).2:=by simp[cwP]
theorem juj:∀{w:WL}{p:E},p<=604800->cw p w=0->WOk p w
 |[],p,hp,_=>hp
 |v::r,p,hp,h=>by
  simp only[cw]at h;split at h
  .simp at h
  split at h
  .simp at h
  exact⟨omg_,omg_,omg_,juj omg_ h⟩
def cwR(c:E):E ⊕ Unit:=if c=0 then .inr () else .inl c
theorem jkw{w:WL}(hl:w.length<=14):∀(n i:R),i+n=w.length->jat w w (w.length:E) (i:E)=F (cwR (cw (cwP w i) (w.drop i)))
 |0,i,hi=>by
  rw[jba];simp(disch:=omega)only[N,j3V,S0];rfl
 |n+1,i,hi=>by
  have ih:=jkw hl n (i+1) omg_;have hlt:i<w.length:=omg_;have hgd:w.getD i (0,0)=w[i]:=by simp[hlt]
  rw[jba,G hlt];simp only[j3V];rw[j00 (show (i:E)<(w.length:E) by omega),j1g,j0d (x:=(i:E)+1)];simp only[j4,j6,hgd,cw];rw[jr2,hgd]at ih;by_cases c1:w[i].1<0\/w[i].1>=w[i].2\/w[i].2>604800
  .rw[if_pos c1,show (cond (cond (I (w[i].1<0)) S (I (w[i].1>=w[i].2))) S (I (w[i].2>604800)))=S by simp only[Â,Å,decide_eq_true_eq];omega];simp only[j4,j0f];rfl
  .rw[if_neg c1,show (cond (cond (I (w[i].1<0)) S (I (w[i].1>=w[i].2))) S (I (w[i].2>604800)))=W by rw[Bool.eq_false_iff];simp only[ne_eq,Â,Å,decide_eq_true_eq];omega];simp only[j5];by_cases h0:i=0
   .subst h0;rw[j01 omg_,if_neg (by simp[cwP];omega)];simp only[j5,j08];exact ih
   .obtain⟨j,rfl⟩:∃j,i=j+1:=⟨i-1,omg_⟩;rw[j00 omg_,j0d (x:=((j+1:R):E)-1),j1g,show (((j+1:R):E)-1).toNat=j by omega,jr2];simp only[j4];by_cases c2:w[j+1].1<(w.getD j (0,0)).2
    .rw[j00 c2,if_pos c2,j4,j0f];rfl
    .rw[j01 c2,if_neg c2,j5,j08];exact ih
theorem jkx{w:WL}(hl:w.length<=14):∀(n i:R),i+n=w.length->j7T w (i:E)=F (cwR (cw (cwP w i) (w.drop i)))
 |0,i,hi=>by
  rw[j6Y];simp(disch:=omega)only[N,j2U,S0];rfl
 |n+1,i,hi=>by
  have ih:=jkx hl n (i+1) omg_;have hlt:i<w.length:=omg_;have hgd:w.getD i (0,0)=w[i]:=by simp[hlt]
  rw[j6Y,G hlt];simp only[j2U,show M w.length=(w.length:E) from rfl];rw[j00 (show (i:E)<(w.length:E) by omega),j1g,j0d (x:=(i:E)+1)];simp only[j4,j6,hgd,cw];rw[jr2,hgd]at ih;by_cases a1:w[i].1<0
  .rw[j00 a1,if_pos (Or.inl a1),j4,j0f];rfl
  by_cases a2:w[i].1>=w[i].2
  .simp(disch:=omega)only[if_pos (Or.inr (Or.inl a2)),S0];rfl
  by_cases a3:w[i].2>604800
  .simp(disch:=omega)only[if_pos (Or.inr (Or.inr a3)),S0];rfl
  rw[j01 a1,j01 a2,j01 a3,if_neg omg_];simp only[j5];by_cases h0:i=0
  .subst h0;rw[j01 omg_,if_neg (by simp[cwP];omega)];simp only[j5,j08];exact ih
  .obtain⟨j,rfl⟩:∃j,i=j+1:=⟨i-1,omg_⟩;rw[j00 omg_,j0d (x:=((j+1:R):E)-1),j2M (show (0:E)<=((j+1:R):E)-1 by omega) omg_,show (((j+1:R):E)-1).toNat=j by omega,jr2];simp only[j4];by_cases c2:w[j+1].1<(w.getD j (0,0)).2
   .rw[j00 c2,if_pos c2,j4,j0f];rfl
   .rw[j01 c2,if_neg c2,j5,j08];exact ih
theorem jgO(w:WL):∃c,j8E w=F c/\j6Z w=F c/\(c=0->WOk 0 w/\w.length<=14):=by
 by_cases hl:w.length>14
 .refine⟨5,?_,?_,omg_⟩
  .simp(disch:=omega)only[j8E,S0]
  .simp(disch:=omega)only[j6Z,S0]
 .refine⟨cw 0 w,?_,?_,λh=>⟨juj omg_ h,omg_⟩⟩
  .have:=jkw (w:=w) omg_ w.length 0 omg_;rw[show ((0:R):E)=0 from rfl,O,show cwP w 0=0 from rfl]at this;simp(disch:=omega)only[j8E,this,cwR,S0];split
   .next h=>simp[h,sumC]
   .rfl
  .have:=jkx (w:=w) omg_ w.length 0 omg_;rw[show ((0:R):E)=0 from rfl,O,show cwP w 0=0 from rfl]at this;simp(disch:=omega)only[j6Z,this,cwR,S0];split
   .next h=>simp[h,sumC]
   .rfl
def rE{α:Type}(u:α)(e:E):E ⊕ α:=if e=0 then .inr u else .inl e
theorem rE_0{α:Type}(u:α):rE u 0 = .inr u:=rfl
theorem rE_n{α:Type}(u:α){e:E}(h:e≠0):rE u e = .inl e:=if_neg h
theorem jdf(i:E){n:R}(hn:n<=1000000):∃b,j12 i (n:E)=F b/\j5S i 0 (w64 ((n:E)-1))=F b:=by
 refine⟨_,rfl,?_⟩;grind[j5S,j5Z,decide]
section
variable{zs:J j0O}{ps:J j0r}{cs:J CalT}{ss:J j0q}
theorem juk(hzl:zs.length<=100)(hl:ps.length<=100):∀(n i:R)(L:J H),i+n=ps.length->L.length=i->
  ∃e,j6e ps (ps.length:E) (i:E) zs ps cs ss (j95 L)=F (rE (zs,ps,cs,ss) e)/\jaK (i:E) zs ps cs ss L=F (rE () e)
 |0,i,L,hi,_=>by
  rw[j8R,jbo];simp(disch:=omega)only[j2X,j4e,S0];exact⟨0,rfl,rfl⟩
 |n+1,i,L,hi,hL=>by
  have hlt:i<ps.length:=omg_;have hgd:ps.getD i (D,0,[],0,0,W)=ps[i]:=by simp[X,hlt]
  have ih:=juk hzl hl n (i+1) (L++[ps[i].1]) omg_ sqo_;obtain⟨en,n1,n2⟩:=jgN (L:=L) omg_ ps[i].1;obtain⟨b,b1,b2⟩:=jdf ps[i].2.1 (n:=zs.length) omg_;obtain⟨c,c1,c2,_⟩:=jgO ps[i].2.2.1;obtain⟨h1,q1⟩:∃h1,j4I ps[i].2.2.2.1=F h1:=⟨_,rfl⟩;have q2:jbT ps[i].2.2.2.1=F h1:=q1;obtain⟨h2,q3⟩:∃h2,j4I ps[i].2.2.2.2.1=F h2:=⟨_,rfl⟩;have q4:jbT ps[i].2.2.2.2.1=F h2:=q3;rw[hL]at n2;rw[j8R,jbo];simp only[j2X,j4e,show M ps.length=(ps.length:E) from rfl];rw[j00 (show (i:E)<(ps.length:E) by omega),j1g,j0d (x:=(i:E)+1)];simp only[j4,j6,hgd,n1,j0];rw[j00 (show L.length+[ps[i].1].length<=j06 by simp[j06];omega)];simp only[j4,n2,j0];cases (ps[i].1.toList==(Ì #[110,111,98,111,100,121]).toList) with
  |true=>exact⟨2,rfl,rfl⟩
  |false=>
   simp only[j5];by_cases he:en=0
   .subst he;simp only[beq_self_eq_true,j4,bne_self_eq_false,j5,if_true]
    have hcp:j3K (zs,ps,cs,ss) (ps[i].1,ps[i].2.1,ps[i].2.2.1,ps[i].2.2.2.1,ps[i].2.2.2.2.1,ps[i].2.2.2.2.2)=cond (!b) (F 3) (cond (c != 0) (F 8) (cond (!h1) (F 1) (cond (!h2) (F 1) (F 0)))):=by
     simp_all[j3K]
    rw[hcp];simp only[show M zs.length=(zs.length:E) from rfl,b2,c2,q2,q4,j0];cases b with
    |false=>exact⟨3,rfl,rfl⟩
    |true=>
     simp only[U,j5];cases (c != 0) with
     |true=>exact⟨8,rfl,rfl⟩
     |false=>
      simp only[j5];cases h1 with
      |false=>exact⟨1,rfl,rfl⟩
      |true=>
       cases h2 with
       |false=>exact⟨1,rfl,rfl⟩
       |true=>obtain⟨e,e1,e2⟩:=ih;exact⟨e,e1,e2⟩
   .rw[j55 he,show (en != 0)=S by simpa using he];exact⟨en,by rw[rE_n _ he];rfl,by rw[rE_n _ he];rfl⟩
theorem jhR(hzl:zs.length<=100)(hl:ps.length<=100):∃e,j6e ps (ps.length:E) 0 zs ps cs ss []=F (rE (zs,ps,cs,ss) e)/\jcl (zs,ps,cs,ss)=F e:=by
 obtain⟨e,e1,e2⟩:=juk (zs:=zs) (ps:=ps) (cs:=cs) (ss:=ss) hzl hl ps.length 0 [] omg_ rfl;rw[show ((0:R):E)=0 from rfl]at e1 e2;refine⟨e,e1,?_⟩;simp only[jcl,e2,j0];by_cases he:e=0
 .subst he;rfl
 .rw[rE_n _ he];rfl
theorem jul{ds:J E}(hl:ds.length<=100000){m:E}{nm:H}{z:E}{l3:J H}:∀(n i:R),i+n=ds.length->∃q e,((j2i ds (ds.length:E) (i:E)).bind λq0=>sumC q0 (λa=>F a) (λ_=>F (-1:E)))=F q/\
   j8b m (i:E) zs ps cs ss nm z ds l3=F (rE (m,zs,ps,cs,ss,nm,z,ds,l3) e)/\(e=if q>=0 then 1 else 0)
 |0,i,hi=>by
  rw[j1G,j8U];simp(disch:=omega)only[j0A,j31,S0];exact⟨-1,0,rfl,rfl,rfl⟩
 |n+1,i,hi=>by
  have hlt:i<ds.length:=omg_;have hgd:ds.getD i (0:E)=ds[i]:=by simp[X,hlt]
  obtain⟨q,e,q1,q2,q3⟩:=jul hl n (i+1) omg_;rw[j1G,j8U];simp(disch:=omega)only[j0A,j31,j38,jeU,jpF,j5S,S0];by_cases h0:0<=ds[i]
  .by_cases h1:ds[i]<=98980
   .rw[j00 h0,j00 h1];exact⟨q,e,q1,q2,q3⟩
   .rw[j00 h0,j01 h1];exact⟨(i:E),1,rfl,rfl,by rw[if_pos omg_]⟩
  .rw[j01 h0];exact⟨(i:E),1,rfl,rfl,by rw[if_pos omg_]⟩
theorem jsS{ds:J E}(hl:ds.length<=100000){m:E}{nm:H}{z:E}{l3:J H}:∀(n i:R),i+1+n=ds.length\/(ds.length=0/\n=0/\i=0)->∃e,
   j1q (ds.length:E) ((i+1:R):E) nm z ds=F (rE () e)/\j8c m ((i+1:R):E) zs ps cs ss nm z ds l3=F (rE (m,zs,ps,cs,ss,l3) e)
 |0,i,hi=>by
  rw[j19,j8V];simp(disch:=omega)only[j0o,j32,S0];exact⟨0,rfl,rfl⟩
 |n+1,i,hi=>by
  have hlt:i+1<ds.length:=omg_;obtain⟨e,e1,e2⟩:=jsS (m:=m) (nm:=nm) (z:=z) (l3:=l3) hl n (i+1) omg_;rw[j19,j8V];simp only[j0o,j32,show M ds.length=(ds.length:E) from rfl]
  rw[j00 (show ((i+1:R):E)<(ds.length:E) by omega),j00 (show ((i+1:R):E)>0 by omega),j0d (x:=((i+1:R):E)-1),j0d (x:=((i+1:R):E)+1),
   j2M (show (0:E)<=((i+1:R):E) by omega) omg_,j2M (show (0:E)<=((i+1:R):E)-1 by omega) omg_]
  simp only[j4];cases I (ds.getD ((i+1:R):E).toNat 0<=ds.getD (((i+1:R):E)-1).toNat 0) with
  |true=>exact⟨6,rfl,rfl⟩
  |false=>grind[j08]
theorem jsT(hzl:zs.length<=100)(hl:cs.length<=100):∀(n i:R)(L:J H),i+n=cs.length->L.length=i->
  ∃e,j0U zs ps cs ss cs (cs.length:E) (i:E) (j95 L)=F (rE () e)/\j8d (i:E) zs ps cs ss L=F (rE () e)
 |0,i,L,hi,_=>by
  rw[j2E,j8W];simp(disch:=omega)only[j0C,j33,S0];exact⟨0,rfl,rfl⟩
 |n+1,i,L,hi,hL=>by
  have hlt:i<cs.length:=omg_;have hgd:cs.getD i (D,0,[])=cs[i]:=by simp[X,hlt]
  have ih:=jsT hzl hl n (i+1) (L++[cs[i].1]) omg_ sqo_;obtain⟨en,n1,n2⟩:=jgN (L:=L) omg_ cs[i].1;obtain⟨b,b1,b2⟩:=jdf cs[i].2.1 (n:=zs.length) omg_;rw[hL]at n2;rw[j2E,j8W];simp only[j0C,j33,j6a,j6b,show M cs.length=(cs.length:E) from rfl];rw[j00 (show (i:E)<(cs.length:E) by omega),j1g,j0d (x:=(i:E)+1)];simp only[j4,j6,hgd,n1,j0];rw[j00 (show L.length+[cs[i].1].length<=j06 by simp[j06];omega)];simp only[j4,n2,j0];by_cases he:en=0
  .subst he;simp only[bne_self_eq_false,j5,if_true,j1t,show M zs.length=(zs.length:E) from rfl,b1,b2,j0];cases b with
   |false=>exact⟨3,rfl,rfl⟩
   |true=>
    simp only[U,j5,show M cs[i].2.2.length=(cs[i].2.2.length:E) from rfl];by_cases h64:(cs[i].2.2.length:E)>64
    .rw[j00 h64];exact⟨5,rfl,rfl⟩
    .rw[j01 h64];simp only[j5];obtain⟨q,e,q1,q2,q3⟩:=jul (zs:=zs) (ps:=ps) (cs:=cs) (ss:=ss) (ds:=cs[i].2.2) (m:=(i:E)) (nm:=cs[i].1) (z:=cs[i].2.1) (l3:=L++[cs[i].1]) omg_ cs[i].2.2.length 0 omg_;rw[show ((0:R):E)=0 from rfl]at q1 q2;have hcf:j18 cs[i].2.2=F (I (q>=0)):=by grind[j18,j39]
     rw[hcf,q2];by_cases hq:q>=0
     .rw[if_pos hq]at q3;subst q3;rw[j00 hq];exact⟨1,rfl,rfl⟩
     .rw[if_neg hq]at q3;subst q3;rw[j01 hq,rE_0];simp only[j0,j5,j3Q];obtain⟨e,e1,e2⟩:=jsS (zs:=zs) (ps:=ps) (cs:=cs) (ss:=ss) (ds:=cs[i].2.2) (m:=(i:E)) (nm:=cs[i].1) (z:=cs[i].2.1) (l3:=L++[cs[i].1]) omg_ (cs[i].2.2.length-1) 0 omg_;rw[show ((0+1:R):E)=1 from rfl]at e1 e2
      have e0:j1q (cs[i].2.2.length:E) 0 cs[i].1 cs[i].2.1 cs[i].2.2=F (rE () e):=by
       rw[j19];simp only[j0o];by_cases hp:(0:E)<(cs[i].2.2.length:E)
       .simp_all[S0]
       grind[j19,j0o]
      rw[e0,e2];simp only[j0];by_cases h0:e=0
      .subst h0;simp(disch:=omega)only[rE_0,S0];exact ih
      .rw[rE_n _ h0,rE_n _ h0];refine⟨e,?_,?_⟩
       .rw[rE_n _ h0];simp only[j6J,j0];rw[show (e != 0)=S by simpa using h0];rfl
       .rw[rE_n _ h0];rfl
  .rw[show (en != 0)=S by simpa using he];exact⟨en,by rw[rE_n _ he];rfl,by rw[rE_n _ he];rfl⟩
theorem jr3(hzl:zs.length<=100)(hl:cs.length<=100):∃e,j1C cs zs ps cs ss=F e/\j8u (zs,ps,cs,ss)=F e:=by
 obtain⟨e,e1,e2⟩:=jsT (zs:=zs) (ps:=ps) (cs:=cs) (ss:=ss) hzl hl cs.length 0 [] omg_ rfl;rw[show ((0:R):E)=0 from rfl]at e1 e2;refine⟨e,?_,?_⟩
 .simp(disch:=omega)only[j1C,show j0U zs ps cs ss cs (cs.length:E) 0 []=_ from e1,S0];by_cases he:e=0
  .subst he;rfl
  .rw[rE_n _ he];rfl
 .simp only[j8u,e2,j0];by_cases he:e=0
  .subst he;rfl
  .rw[rE_n _ he];rfl
end
end Go.Proofs.Pw
