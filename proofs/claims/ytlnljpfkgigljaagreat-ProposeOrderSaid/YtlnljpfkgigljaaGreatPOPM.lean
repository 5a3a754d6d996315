/- ProposeOrder: candidates in order. -/
import Derived.Test.YtlnljpfkgigljaaGreatPOPL
import Derived.Test.YtlnljpfkgigljaaGreatPOFns
import Derived.KernelRfl
open _root_ renaming Int->d,Nat->s,List->A,Bool->Ã
open List renaming length_singleton->o,nil_append->D,length_append->E,drop_eq_getElem_cons->G,getElem_mem->J,getElem_map->O,drop_of_length_le->S,getD->U,drop_zero->W,mem_singleton->Z,append_assoc->À,length_map->Â,length->Å
open Int renaming ofNat->B,le_trans->R
open Option renaming some->F,getD_some->I
open Bool renaming not_true->H,and_eq_true->Á
open Go.Proofs renaming ltOf->X
open Go Go.Lft
namespace Go.Proofs.Pw
abbrev CnL:=A (d×d)
def cnL(M:s->Ã)(L:A LdT):s->s->CnL
 |_,0=>[]
 |i,n+1=>cond (M i) [((i:d),wgt (i:d) L)] []++cnL M L (i+1) n
theorem joJ{M:s->Ã}{L:A LdT}:∀{n i:s}{x:d×d},x∈cnL M L i n->∃k:s,i<=k/\k<i+n/\x=((k:d),wgt (k:d) L)/\M k=true
 |0,i,x,h=>by simp[cnL]at h
 |n+1,i,x,h=>by
  simp only[cnL]at h;rcases List.mem_append.1 h with h|h
  .cases hm:M i with
   |true=>rw[hm,j6,Z]at h;exact⟨i,omg_,omg_,h,hm⟩
   |false=>rw[hm,j7]at h;simp at h
  .obtain⟨k,h1,h2,h3⟩:=joJ h;exact⟨k,omg_,omg_,h3⟩
theorem jBm{M:s->Ã}{L:A LdT}:∀(n i:s),(cnL M L i n).Pairwise λx y=>x.1<y.1
 |0,i=>List.Pairwise.nil
 |n+1,i=>by
  simp only[cnL];refine List.pairwise_append.2 ⟨by cases M i<;>simp,jBm n (i+1),λx hx y hy=>?_⟩;obtain⟨k,h1,_,rfl,_⟩:=joJ hy;cases hm:M i with
  |true=>rw[hm,j6,Z]at hx;subst hx;show (i:d)<(k:d);omega
  |false=>rw[hm,j7]at hx;simp at hx
theorem js1{M:s->Ã}{L:A LdT}:∀(n i:s),(cnL M L i n).length<=n
 |0,i=>Nat.le_refl 0
 |n+1,i=>by
  have:=js1 (M:=M) (L:=L) n (i+1);simp only[cnL,E];cases M i<;>simp<;>omega
theorem jEM{L:A LdT}(hl:L.length<=100000){p:d}:∀(n i:s),i+n=L.length->(∃k:s,∃h:k<L.length,j0y L p (L.length:d) (i:d)=F (.inl (k:d))/\L[k].2.2=wgt p (L.drop i))\/
   j0y L p (L.length:d) (i:d)=F (.inr ())/\wgt p (L.drop i)=0
 |0,i,hi=>by
  right;rw[j3q,S omg_];simp only[j0F];rw[j01 omg_,j7,j06];exact⟨rfl,rfl⟩
 |n+1,i,hi=>by
  have hlt:i<L.length:=omg_;have ih:=jEM hl (p:=p) n (i+1) omg_;rw[show ((i+1:s):d)=(i:d)+1 by omega]at ih;have hgd:L.getD i (0,0,0)=L[i]:=by simp[U,hlt]
  rw[j3q,G hlt];simp only[j0F,j7y,j4,wgt];rw[j00 (show (i:d)<(L.length:d) by omega),j0L,j05 (x:=(i:d)+1)];simp only[j6,j8,hgd];by_cases hp:L[i].1=p
  .rw[j3m hp,j6,j06,if_pos hp];exact .inl ⟨i,hlt,rfl,rfl⟩
  .rw[j1p hp,j7,j03,if_neg hp];exact ih
section
variable{zs:A j0z}{ps:A j0d}{cs:A CalT}{ss:A j0u}{M:s->Ã}{L:A LdT}{a b:d}
theorem jCV(hM:∀i:s,i<ps.length->j3j (zs,ps,cs,ss) 0 (i:d) a b=F (M i))(hp:ps.length<=100000)(hl:L.length<=100000):∀(n i:s)(acc:CnL),i+n=ps.length->acc.length<=i->
  j58 0 a b (ps.length:d) (i:d) zs ps cs ss L acc=F (acc++cnL M L i n)
 |0,i,acc,hi,_=>by
  rw[j94];simp only[j20];rw[j01 omg_,j7,j06];simp[cnL]
 |n+1,i,acc,hi,ha=>by
  have hm:=hM i omg_;rw[j94];simp only[j20];rw[j00 (show (i:d)<(ps.length:d) by omega),j05 (x:=(i:d)+1),j6,hm];simp only[j4,cnL];cases hmi:M i with
  |false=>have ih:=jCV hM hp hl n (i+1) acc omg_ omg_;rw[show ((i+1:s):d)=(i:d)+1 by omega]at ih;rw[Bool.not_false,j6,j03,j7,D];exact ih
  |true=>
   have ih:=jCV hM hp hl n (i+1) (acc++[((i:d),wgt (i:d) L)]) omg_ (by rw[E,o];omega);rw[show ((i+1:s):d)=(i:d)+1 by omega,À]at ih;rw[H,j7,j6];simp only[j2G];rcases jEM hl (p:=(i:d)) L.length 0 omg_ with⟨k,hk,e,ew⟩|⟨e,ew⟩
   .have hgd:L.getD k (0,0,0)=L[k]:=by simp[U,hk]
    rw[W]at ew;rw[show j0y L (i:d) (B L.length) 0=_ from e];simp only[j4,jkm];rw[j00 (show (k:d)>=0 by omega),j0N (show (0:d)<=(k:d) by omega) (show (k:d)<(L.length:d) by omega)];simp only[j6,j8,hgd,ew,o];rw[j00 (show acc.length+1<=j02 by simp[j02];omega),j6,j03];exact ih
   .rw[W]at ew;rw[ew]at ih;rw[show j0y L (i:d) (B L.length) 0=_ from e];simp only[j4,j50];rw[j01 (show¬(-1:d)>=0 by omega)];simp only[j7,o,ew];rw[j00 (show acc.length+1<=j02 by simp[j02];omega),j6,j03];exact ih
end
abbrev ltC(x y:d×d):Prop:=x.2<y.2\/x.2=y.2/\x.1<y.1
theorem jEN{x y:d×d}(hx:(-1152921504606846976<=x.1/\x.1<=1152921504606846976)/\(-1152921504606846976<=x.2/\x.2<=1152921504606846976))(hy:(-1152921504606846976<=y.1/\y.1<=1152921504606846976)/\(-1152921504606846976<=y.2/\y.2<=1152921504606846976)) :
  (j17 x y).getD 0<0↔ltC x y:=by
 unfold ltC;simp only[j17];by_cases q:x.2=y.2
 .rw[show (x.2 != y.2)=false by simp[q],j7,j05];simp only[I];omega
 .rw[show (x.2 != y.2)=true by simp[q],j6,j05];simp only[I];omega
theorem jEO:Go.Sort.SWO (X λ(x y:Go.Lft.Sml (.pair (.int .i64) (.int .i64)))=>(j17 x.1 y.1).getD 0):=by
 have key:∀x:Go.Lft.Sml (.pair (.int .i64) (.int .i64)),(-1152921504606846976<=(x.1.1:d)/\(x.1.1:d)<=1152921504606846976)/\(-1152921504606846976<=(x.1.2:d)/\(x.1.2:d)<=1152921504606846976):=λx=>by
  have:=x.2;simp only[j3y,Á,decide_eq_true_eq]at this;exact this
 have e:∀x y:Go.Lft.Sml (.pair (.int .i64) (.int .i64)),X (λ(x y:Go.Lft.Sml (.pair (.int .i64) (.int .i64)))=>(j17 x.1 y.1).getD 0) x y=decide (ltC x.1 y.1):=λx y=>by
  unfold X;exact decide_eq_decide.2 (jEN (key x) (key y))
 refine⟨λx=>?_,λx y z=>?_,λx y z=>?_⟩
 .rw[e];simp only[ltC];exact decide_eq_false omg_
 .rw[e,e,e];exactλh1 h2=>decide_eq_true (by have h1:=of_decide_eq_true h1;have h2:=of_decide_eq_true h2;unfold ltC at *;omega)
 .rw[e,e,e];exactλh1 h2=>decide_eq_false (by have h1:=of_decide_eq_false h1;have h2:=of_decide_eq_false h2;unfold ltC at *;omega)
theorem jA1{l:CnL}(hl:l.length<=1000000000)(hb:∀x∈l,(-1000000000000000<=x.1/\x.1<=1000000000000000)/\(-1000000000000000<=x.2/\x.2<=1000000000000000)) :
  ∃Y,j0g l=F Y/\Y.Perm l/\Y.Pairwise λx y=>¬ltC y x:=by
 obtain⟨Y,e,hp,hs⟩:=jkp (a:= .pair (.int .i64) (.int .i64)) (cf:=λx y=>(j17 x y).getD 0) jEO (xs:=l) (λx hx=>by
  have:=hb x hx;simp only[j3y,Á,decide_eq_true_eq];refine⟨⟨?_,?_⟩,⟨?_,?_⟩⟩
  .exact R (by decide) this.1.1
  .exact R this.1.2 (by decide)
  .exact R (by decide) this.2.1
  .exact R this.2.2 (by decide)) (by show Å l<_;omega)
 refine⟨Y,e,hp,hs.imp_of_mem λ{x y} hx hy h q=>h ((jEN ?_ ?_).2 q)⟩
 .have:=hb y (hp.mem_iff.1 hy);omega
 .have:=hb x (hp.mem_iff.1 hx);omega
theorem jBn{Y:CnL}(hl:Y.length<=100000):∀(n i:s)(acc:A d),i+n=Y.length->acc.length=i->
  j59 (Y.length:d) (i:d) acc Y=F (acc++(Y.drop i).map (·.1))
 |0,i,acc,hi,_=>by
  rw[j95,S omg_];simp only[j21];rw[j01 omg_,j7,j06];simp
 |n+1,i,acc,hi,ha=>by
  have hlt:i<Y.length:=omg_;have hgd:Y.getD i (0,0)=Y[i]:=by simp[U,hlt]
  have ih:=jBn hl n (i+1) (acc++[Y[i].1]) omg_ (by simp[ha]);rw[show ((i+1:s):d)=(i:d)+1 by omega,À]at ih;rw[j95,G hlt];simp only[j21];rw[j00 (show (i:d)<(Y.length:d) by omega),j0N (show (0:d)<=(i:d) by omega) omg_,j05 (x:=(i:d)+1)];simp only[j6,j8,hgd,o];rw[j00 (show acc.length+1<=j02 by simp[j02];omega),j6,j03];exact ih
theorem js2:jef=F true:=by kernel_rfl
section
variable{zs:A j0z}{ps:A j0d}{cs:A CalT}(hs:SOk2 zs ps cs)
include hs
theorem jCW{nm:ByteArray}{ls:A j0c}{es:A j1V}(hc:j8W (zs,ps,cs,[(nm,ls,es)]))(hll:ls.length<=3)(hel:es.length<=5){a b:d}(ha:1766016000<=a)(hab:a<b)(hb:b<=1771200000)(hlen:b-a<=86400){ws:WtL}(hw:WtOk ws) :
  ∃(M:s->Ã)(L:A LdT)(Y:CnL),(∀i:s,i<ps.length->j3j (zs,ps,cs,[(nm,ls,es)]) 0 (i:d) a b=F (M i))/\j2T (zs,ps,cs,[(nm,ls,es)]) 0 a b 0 ws=F (Y.map (·.1),0)/\
   jg4 (zs,ps,cs,[(nm,ls,es)]) 0 (a-2419200) a 0 ws=F (L,0)/\L.length<=1000/\Y.Perm (cnL M L 0 ps.length)/\Y.Pairwise λx y=>¬ltC y x:=by
 have hz0:=hs.so.z0;have hp1:=hs.so.p1
 obtain⟨M,hM⟩:∃M:s->Ã,∀i:s,i<ps.length->j3j (zs,ps,cs,[(nm,ls,es)]) 0 (i:d) a b=F (M i):=
  ⟨λi=>(j3j (zs,ps,cs,[(nm,ls,es)]) 0 (i:d) a b).getD false,λi hi=>by
   obtain⟨m,e⟩:=jEL hs hc hll hel hi ha hab hb hlen;simp only[e,I]⟩
 obtain⟨L,e1,e2,lL,bL⟩:=jy4 hs hc (i:=0) smp_ hll (Nat.le_trans hel omg_) (a:=a-2419200) (N:=2419200) omg_ omg_ omg_ omg_ (z:=0) hz0 hw;rw[show a-2419200+((2419200:s):d)=a by omega]at e1 e2
 have hwb:∀p,0<=wgt p L/\wgt p L<=1000000000000000:=λp=>by
  have:∀l:A LdT,(∀y∈l,LdB 1000000000000000 y)->0<=wgt p l/\wgt p l<=1000000000000000:=λl=>by
   induction l with
   |nil=>intro _;simp[wgt]
   |cons x r ih=>
    intro h;simp only[wgt];split
    .exact(h x smp_).2.2
    .exact ih λy hy=>h y (by simp[hy])
  exact this L bL
 have l0:=jCV hM omg_ (show L.length<=100000 by omega) ps.length 0 [] omg_ smp_;rw[D]at l0;have hcl:=js1 (M:=M) (L:=L) ps.length 0
 obtain⟨Y,e3,pY,sY⟩:=jA1 (l:=cnL M L 0 ps.length) omg_ (λx hx=>by
  obtain⟨k,_,k2,rfl,_⟩:=joJ hx;have:=hwb (k:d);dsimp only;omega)
 have hYl:=pY.length_eq;have l2:=jBn (Y:=Y) omg_ Y.length 0 [] omg_ rfl;rw[D,W]at l2;refine⟨M,L,Y,hM,?_,e2,lL,pY,sY⟩;simp only[j2T,jeG,show j2N (zs,ps,cs,[(nm,ls,es)])=F 0 from jf0 hc,j4,bne_self_eq_false,j7,j8P,o]
 rw[j00 (show (0:d)>=0 by omega),j00 (show (0:d)<B 1 by decide),j01 (show¬a<0 by omega),j01 (show¬a>=b by omega),j01 (show¬b>8589934592 by omega),j05 (x:=b-a),j01 (show¬b-a>2419200 by omega),
  j05 (x:=a-2419200),if_pos (show a-2419200>0 by omega)]
 simp only[j6,j7,H,bne_self_eq_false,j4];rw[show je8 (zs,ps,cs,[(nm,ls,es)]) 0 (a-2419200) a 0 ws=_ from e1];simp only[j4,bne_self_eq_false,j7];rw[show j58 0 a b (B ps.length) 0 zs ps cs [(nm,ls,es)] L []=_ from l0];simp only[j4,e3];rw[show j59 (B Y.length) 0 [] Y=_ from l2];rfl
end
section
variable{zs:A j0z}{ps:A j0d}{cs:A CalT}{ss:A j0u}{M:s->Ã}{L:A LdT}{a b:d}{w:WtL}{l:A d}
theorem jyi(hM:∀i:s,i<ps.length->j3j (zs,ps,cs,ss) 0 (i:d) a b=F (M i))(hp:ps.length<=100000):∀(n i:s)(c:s),i+n=ps.length->c<=i->
  j5m a b (c:d) (ps.length:d) (i:d) zs ps cs ss w l L=F (a,b,((c+(cnL M L i n).length:s):d),zs,ps,cs,ss,w,l,L)
 |0,i,c,hi,_=>by
  rw[j98];simp only[j22];rw[j01 omg_,j7,j06];simp[cnL]
 |n+1,i,c,hi,hc=>by
  have hm:=hM i omg_;rw[j98];simp only[j22];rw[j00 (show (i:d)<(ps.length:d) by omega),j05 (x:=(i:d)+1),j6,hm];simp only[j4,cnL];cases hmi:M i with
  |false=>have ih:=jyi hM hp n (i+1) c omg_ omg_;rw[show ((i+1:s):d)=(i:d)+1 by omega]at ih;rw[j7,j03,j7,D];exact ih
  |true=>have ih:=jyi hM hp n (i+1) (c+1) omg_ omg_;rw[show ((i+1:s):d)=(i:d)+1 by omega,show ((c+1:s):d)=(c:d)+1 by omega]at ih;rw[j6,j05 (x:=(c:d)+1),j03,j6,E,o,show c+(1+(cnL M L (i+1) n).length)=c+1+(cnL M L (i+1) n).length by omega];exact ih
theorem jBo(hl:l.length<=100000)(hL:L.length<=100000)(hm:∀i (h:i<l.length),j3j (zs,ps,cs,ss) 0 l[i] a b=F true)
  (ho:∀i (h:i+1<l.length),wgt l[i] L<wgt l[i+1] L\/wgt l[i] L=wgt l[i+1] L/\l[i]<l[i+1]){c:d}:∀n i:s,i+n=l.length->
  j5n a b c (l.length:d) (i:d) zs ps cs ss w l L=F (.inr (a,b,c,zs,ps,cs,ss,w,l))
 |0,i,hi=>by
  rw[j99];simp only[j23];rw[j01 omg_,j7,j06]
 |n+1,i,hi=>by
  have hlt:i<l.length:=omg_;have hgd:l.getD i (0:d)=l[i]:=by simp[U,hlt]
  have ih:=jBo hl hL hm ho (c:=c) n (i+1) omg_;rw[show ((i+1:s):d)=(i:d)+1 by omega]at ih;rw[j99];simp only[j23];rw[j00 (show (i:d)<(l.length:d) by omega),j0N (show (0:d)<=(i:d) by omega) omg_,j05 (x:=(i:d)+1)];simp only[j6,j8,hgd,hm i hlt,j4,H,j7];cases i with
  |zero=>rw[j01 (show¬((0:s):d)>0 by omega),j7,j03];exact ih
  |succ k=>
   have hk:k<l.length:=omg_;have hgk:l.getD k (0:d)=l[k]:=by simp[U,hk]
   have hok:=ho k hlt;rw[j00 (show ((k+1:s):d)>0 by omega),j6,j05 (x:=((k+1:s):d)-1),show ((k+1:s):d)-1=(k:d) by omega,j0N (show (0:d)<=(k:d) by omega) omg_];simp only[j6,j8,hgk,jFf (show L.length<=1000000 by omega),j4];rw[j01 (show¬wgt l[k] L>wgt l[k+1] L by omega),j7];by_cases he:wgt l[k] L=wgt l[k+1] L
   .rw[j3m he,j6,j01 (show¬l[k]>=l[k+1] by omega),j7,j03];exact ih
   .rw[j1p he,j7,j03];exact ih
end
theorem jjF(t:A d)(_h:Wf (.list (.int .i64)) t):j9R t=F true:=by
 simp only[j9R,jjd,j4,show B (Å t)=(t.length:d) from rfl];by_cases hl:(t.length:d)<=500
 case neg=>rw[j01 hl];simp[js2]
 rw[j00 hl];simp only[H,j7,jlt,j4];obtain⟨zs,ps,cs,nm,ls,es,a1,e1,hs,hc,hll,hel,d1⟩:=jCy (L:=t) (a:=0) ⟨omg_,omg_,omg_⟩;obtain⟨ws,a2,e2,hw,d2⟩:=juG d1;obtain⟨f,a3,e3,f0,f1,d3⟩:=jnj d2;obtain⟨u,a4,e4,hu,d4⟩:=j8d d3 (xs:=[(3600:d),(86400:d),(40000:d)]) smp_ smp_;have hub:3600<=u/\u<=86400:=by simp only[List.mem_cons,List.not_mem_nil,or_false]at hu;omega
 have hp1:=hs.so.p1;obtain⟨M,L,Y,hM,e5,e6,lL,pY,sY⟩:=jCW hs hc hll (Nat.le_trans hel omg_) (a:=f) (b:=f+u) omg_ omg_ omg_ omg_ hw;have hcl:=js1 (M:=M) (L:=L) ps.length 0;have hYl:=pY.length_eq
 have hY:∀x∈Y,∃k:s,k<ps.length/\x=((k:d),wgt (k:d) L)/\M k=true:=λx hx=>by
  obtain⟨k,_,k2,k3⟩:=joJ (pY.mem_iff.1 hx);exact⟨k,omg_,k3⟩
 have hnd:(Y.map (·.1)).Nodup:=(pY.map (·.1)).nodup_iff.2 (List.pairwise_map.2 ((jBm ps.length 0).imp λh e=>Int.ne_of_lt h e));have l0:=jyi hM omg_ (w:=ws) (l:=Y.map (·.1)) (L:=L) ps.length 0 0 omg_ omg_
 have l2:=jBo (l:=Y.map (·.1)) (w:=ws) (L:=L) (zs:=zs) (ps:=ps) (cs:=cs) (ss:=[(nm,ls,es)]) (a:=f) (b:=f+u) (by rw[Â];omega) omg_ (λi h=>by
  have hi:i<Y.length:=by simpa using h
  obtain⟨k,k1,k2,k3⟩:=hY _ (J hi);rw[O,k2];dsimp only;rw[hM k k1,k3]) (λi h=>by
  have hi:i+1<Y.length:=by simpa using h
  have h1:=List.pairwise_iff_getElem.1 sY i (i+1) omg_ hi omg_;have h2:=List.pairwise_iff_getElem.1 hnd i (i+1) sqo_ (by simpa using hi) omg_;rw[O,O]at h2 ⊢;obtain⟨k,_,k2,_⟩:=hY _ (J (show i<Y.length by omega));obtain⟨j,_,j2,_⟩:=hY _ (J hi);rw[k2,j2]at h1 h2 ⊢;dsimp only at h1 h2 ⊢;omega) (c:=((0+(cnL M L 0 ps.length).length:s):d)) (Y.map (·.1)).length 0 omg_
 simp only[e1,e2,e3,e4,j4];rw[j05 (x:=f+u),j05 (x:=f-2419200)];rw[e5];simp only[j4];rw[e6];simp only[j4,bne_self_eq_false,j7];rw[show j5m f (f+u) 0 (B ps.length) 0 zs ps cs [(nm,ls,es)] ws (Y.map (·.1)) L=_ from l0];simp only[j4];rw[show j5n f (f+u) ((0+(cnL M L 0 ps.length).length:s):d) (B (Y.map (·.1)).length) 0 zs ps cs [(nm,ls,es)] ws (Y.map (·.1)) L=_ from l2];simp only[j4,j50,j9D];rw[e5];simp only[j4,bne_self_eq_false,j7];cases Y with
 |nil=>
  have:(cnL M L 0 ps.length).length=0:=by simpa using hYl.symm
  rw[this];simp[js2]
 |cons y r=>
  obtain⟨k,k1,rfl,k3⟩:=hY y smp_;obtain⟨hc',e7⟩:=jqm hs hc omg_ k1 (a:=f) (b:=f+u) omg_ omg_ omg_;have e8:=jEg hs hc' (i:=0) smp_ (t:=f) omg_ omg_;rw[show ([(nm,ls,es++[((1:d),(k:d),(0:d),f,f+u)])]:A j0u)[0]=(nm,ls,es++[((1:d),(k:d),(0:d),f,f+u)]) from rfl,jzv (.inl (show (1:d)≠0 by decide))]at e8;have e9:jiO f (whoS zs cs (nm,ls,es) f) ((1:d),(k:d),(0:d),f,f+u)=(k:d):=by unfold jiO;dsimp only;rw[if_neg omg_,if_pos rfl]
  rw[e9]at e8;simp only[List.map_cons,List.length_cons,List.getD_cons_zero,Â]at hYl ⊢;rw[show (B (r.length+1)==0)=false from j1p (by show¬((r.length+1:s):d)=0;omega),j0N (show (0:d)<=0 by omega) (show (0:d)<((r.length+1:s):d) by omega),<-hYl];simp only[j7,j6];rw[e7];simp only[j4,bne_self_eq_false,j7];rw[show ((0+(r.length+1):s):d)=B (r.length+1) by rw[Nat.zero_add];rfl];simp only[beq_self_eq_true,j6,Bool.true_or];rw[show jhq (zs,ps,cs,[(nm,ls,es++[((1:d),(k:d),(0:d),f,f+u)])]) 0 f=_ from e8];simp[js2]
end Go.Proofs.Pw
