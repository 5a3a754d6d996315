/- vL: times of Sr. -/
import Derived.Test.YtjpgjpnfacnmaaaGreatLSPM
import Derived.Test.YtjpgjpnfacnmaaaGreatLSPG
import Derived.Test.YtjpgjpnfacnmaaaGreatLSPL
import Derived.Test.YtjpgjpnfacnmaaaGreatLSPB
import Derived.Test.YtjpgjpnfacnmaaaGreatLSPF
open Go Go.Lft
namespace Go.Proofs.Pw
def l5(v:Int)(S:bD):SL:=(S.filter λs=>s.2.2==v).map λs=>(s.1,s.2.1)
theorem jvA(v:Int)(s:jD)(r:bD):l5 v (s::r)=(if s.2.2=v then [(s.1,s.2.1)] else [])++l5 v r:=by
 unfold l5;by_cases hv:s.2.2=v
 .simp[hv]
 .simp[hv]
theorem Ss{f:Int->Int}{a b v:Int}{S:bD}(h:dW f b none a S){x:Int}:bt x (l5 v S)↔a<=x/\x<b/\f x=v:=by
 unfold bt l5;constructor
 .rintro⟨u,hu,h1,h2⟩
  obtain⟨s,hs,rfl⟩:=jt.1 hu;have hm:=qu.1 hs;have hc:=h.ch.mem _ hm.1;have hv:s.2.2=v:=by simpa using hm.2
  exact⟨by dsimp only at h1;omega,by dsimp only at h2;omega,by rw[<-hv];exact hc.2.2.2 x h1 h2⟩
 .rintro⟨h0,h1,h2⟩
  obtain⟨s,hs,c1,c2⟩:=h.ch.has x h0 h1;have hc:=h.ch.mem _ hs;exact⟨_,jt.2 ⟨s,qu.2 ⟨hs,by rw[<-hc.2.2.2 x c1 c2,h2];exact qd _⟩,rfl⟩,c1,c2⟩
theorem Su{v:Int}{S:bD}(hS:S.length<=1000000):∀(n i:Nat)(acc:SL),i+n=S.length->acc.length<=i->
  EV v S (S.length:Int) (i:Int) acc=some (acc++l5 v (S.drop i))
 |0,i,acc,hi,_=>by
  rw[Xl];simp only[j2H];rw[ah (by omega),j7,aW,jd (by omega)];simp[l5]
 |n+1,i,acc,hi,ha=>by
  have bj:i<S.length:=by omega
  have aR:S.getD i ((0:Int),((0:Int),(0:Int)))=S[i]:=by simp[List.getD,bj]
  rw[Xl];simp only[j2H];rw[ag (show (i:Int)<(S.length:Int) by omega),bz,ai (x:=(i:Int)+1)];simp only[j6,j8,aR];have hd:l5 v (S.drop i)=(if S[i].2.2=v then [(S[i].1,S[i].2.1)] else [])++l5 v (S.drop (i+1)):=by rw[jb bj,jvA]
  rw[hd];by_cases hv:S[i].2.2=v
  .rw[if_pos hv];rw[di hv,j6,ag (by simp[aN];omega),j6,aK];have ih:=Su (v:=v) hS n (i+1) (acc++[(S[i].1,S[i].2.1)]) (by omega) (by simp;omega);rw[show ((i+1:Nat):Int)=(i:Int)+1 by omega]at ih;rw[jj]at ih;exact ih
  .rw[if_neg hv,jv];rw[bW hv,j7,aK];have ih:=Su (v:=v) hS n (i+1) acc (by omega) (by omega);rw[show ((i+1:Nat):Int)=(i:Int)+1 by omega]at ih;exact ih
section
variable{zs:List br}{ps:List cZ}{cs:List aX}(hs:cN zs ps cs)
include hs
theorem jBf{L:bI}(hL:eD zs.length ps.length cs.length L){ss:List cF}{a b:Int}(ha:0<=a)(bG:a<=b)(hb:b<=8589934592){M:Nat}(hM:M<=60)(hlen:b-a<=604800*M) :
  ∃out,j1t ((zs,(ps,(cs,ss))),zs.map tb) L a b=some out/\dW (bO zs cs L) b none a out/\out.length<=308*M+191:=by
 obtain⟨out,e,h1,h2⟩:=RK hs hL (ss:=ss) ha bG hb hM hlen (N:=((b-a)/3600+8).toNat) (by omega) (RN hs hL ha (by omega)) (RM hs hL ha hb);refine⟨out,e,h1,?_⟩;have hw:L.2.2.2.2.2.2.1.length*(M+1)*5<=14*(M+1)*5:=jw _ (jw _ hL.wl)
 have hc:(if L.2.2.2.2.2.2.2.2=0 then 0 else (fv cs L.2.2.2.2.2.2.2.1).2.2.length*5)<=4*5:=by
  by_cases hm:L.2.2.2.2.2.2.2.2=0
  .rw[if_pos hm];omega
  .rw[if_neg hm];refine jw _ (hs.c.dl _ ?_);have hq:=hL.cal hm;have hi:(L.2.2.2.2.2.2.2.1).toNat<cs.length:=by omega
   unfold fv;rw[show cs.getD (L.2.2.2.2.2.2.2.1).toNat (ByteArray.empty,((0:Int),([]:List Int)))=cs[(L.2.2.2.2.2.2.2.1).toNat] by simp[List.getD,hi]];exact jf hi
 omega
theorem jvB{a b:Int}(ha:0<=a)(bG:a<=b)(hb:b<=8589934592){M K:Nat}(hM:M<=60)(hlen:b-a<=604800*M)(hK:K=308*M+191):∀ls:List bI,(∀L∈ls,eD zs.length ps.length cs.length L)->
  ∃E:List Int,E.length<=K*ls.length/\∀L∈ls,∀x,a<x->x<b->bO zs cs L (x-1)≠bO zs cs L x->x∈E
 |[],_=>⟨[],by simp,by simp⟩
 |L::ls,hL=>by
  obtain⟨E,e1,e2⟩:=jvB ha bG hb hM hlen hK ls (λM hM=>hL M (by simp[hM]));obtain⟨S,_,c1,l1⟩:=jBf hs (hL L (by simp)) (ss:=[]) ha bG hb hM hlen;refine⟨mW S++E,?_,λM hM x x1 x2 x3=>?_⟩
  .have:(mW S).length<=S.length:=by simp[mW]
   rw[jg,jm,Nat.mul_succ];omega
  .rcases je.1 hM with rfl|hM
   .exact jz _ (((Gx c1).1 x).2 ⟨x1,x2,x3⟩)
   .exact k7 _ (e2 M hM x x1 x2 x3)
theorem jzB{s:cF}(hk:pV zs.length ps.length cs.length s){a b:Int}(ha:0<=a)(bG:a<=b)(hb:b<=8589934592){M K:Nat}(hM:M<=60)(hlen:b-a<=604800*M)(hK:K=308*M+191) :
  ∃E:List Int,E.length<=K*s.2.1.length+2*s.2.2.length/\∀x,a<x->x<b->cR zs cs s (x-1)≠cR zs cs s x->x∈E:=by
 obtain⟨E,e1,e2⟩:=jvB hs ha bG hb hM hlen hK s.2.1 hk.ly;refine⟨E++iL s.2.2,by rw[jg,Aq];omega,λx x1 x2 x3=>?_⟩;apply jp;intro hn;simp only[jn,not_or]at hn;refine x3 ?_
 have hT:dB s.2.2 (x-1) (cG zs cs s.2.1 (x-1)) s.2.1.length=dB s.2.2 x (cG zs cs s.2.1 x) s.2.1.length:=by
  refine J2 (λi hi=>?_) (λp=>R7 hn.2 p);apply jp;intro bk;have e:∀t,cG zs cs s.2.1 t i=bO zs cs s.2.1[i] t:=λt=>by simp[cG,List.getD,hi]
  rw[e,e]at bk;exact hn.1 (e2 _ (jf hi) x x1 x2 bk)
 unfold cR;rw[hT];refine(Gz _ _ λy hy=>?_).symm;obtain⟨m1,m2⟩:=J1 hy;have n1:x≠y.2.2.2.1:=λe=>hn.2 (e▸m1);have n2:x≠y.2.2.2.2:=λe=>hn.2 (e▸m2);omega
end
theorem jBg{np:Nat}{t p:Int}{x:dA}(h:mT np x)(hp:p<np):tL t p x<np:=by
 have ha:=h.a;have hb:=h.b;unfold tL;split
 .exact hp
 .split
  .omega
  .split
   .rename_i h1;have:=hb h1.1;omega
   .split
    .rename_i h1;have:=hb h1.1;omega
    .exact hp
theorem jvC{np:Nat}{t:Int}:∀(es:List dA)(p:Int),(∀x∈es,mT np x)->p<np->jO t p es<np
 |[],_,_,hp=>hp
 |x::r,p,h,hp=>by
  simp only[jO];exact jvC r _ (λy hy=>h y (by simp[hy])) (jBg (h x (by simp)) hp)
section
variable{zs:List br}{ps:List cZ}{cs:List aX}(hs:cN zs ps cs)
include hs
theorem jzC{s:cF}(hk:pV zs.length ps.length cs.length s){t:Int}(h0:0<=t)(h1:t<=8589934592):cR zs cs s t<ps.length:=by
 unfold cR;refine jvC _ _ hk.ed ?_;unfold dB;cases hT:dI (fZ s.2.2 t (cG zs cs s.2.1 t)) s.2.1.length with
 |none=>dsimp only;omega
 |some k=>
  have ia:=R8 hT;have e:cG zs cs s.2.1 t k=bO zs cs s.2.1[k] t:=by simp[cG,List.getD,ia]
  dsimp only
  rw[e];exact(RB hs (hk.ly _ (jf ia)) h0 h1).2.2
theorem jBh{ss:List cF}(hc:ny (zs,(ps,(cs,ss)))){i:Nat}(hi:i<ss.length)(eE:ss[i].2.1.length<=3)(eX:ss[i].2.2.length<=6){a b:Int}(ha:0<=a)(bG:a<b)(hb:b<=8589934592)(hlen:b-a<=1209600) :
  ∃S,j4e (zs,(ps,(cs,ss))) (i:Int) a b=some (S,0)/\dW (cR zs cs ss[i]) b none a S/\S.length<=16384:=by
 have kW:=hc.sc _ (jf hi);have wU:ss.getD i (ByteArray.empty,(([]:List bI),([]:List dA)))=ss[i]:=by simp[List.getD,hi]
 obtain⟨S,eS,hS,lS⟩:=jDK hs kW eE eX (ss:=ss) (a:=a) (b:=b) ha bG hb (by omega);obtain⟨E,e1,e2,e3⟩:=jDE hs (es:=ss[i].2.2) kW.ly ha (Int.le_of_lt bG) hb hlen
 have tM:S.length<=E.length+1:=R6 hS (λx x1 x2 x3=>by
  apply jp;intro hn;refine x3 ?_;have hT:dB ss[i].2.2 (x-1) (cG zs cs ss[i].2.1 (x-1)) ss[i].2.1.length=dB ss[i].2.2 x (cG zs cs ss[i].2.1 x) ss[i].2.1.length:=by apply jp;intro bk;exact hn (e2 x x1 x2 bk)
  unfold cR;rw[hT];refine(Gz _ _ λy hy=>?_).symm;obtain⟨m1,m2⟩:=J1 hy;have n1:x≠y.2.2.2.1:=λe=>hn (e▸e3 _ m1);have n2:x≠y.2.2.2.2:=λe=>hn (e▸e3 _ m2);omega)
 refine⟨S,?_,hS,by omega⟩;simp only[j4e];rw[show j9P (zs,(ps,(cs,ss))) (i:Int) a b=_ from joJ hs hc hi ha (Int.le_of_lt bG) hb (by omega)];simp only[j4,jh,j7];rw[bz];simp only[j6,j8,wU];rw[show j37 ((zs,(ps,(cs,ss))),zs.map tb) (ss[i].1,(ss[i].2.1,ss[i].2.2)) a b=_ from eS];simp only[j4,show Int.ofNat S.length=(S.length:Int) from rfl];rw[ah (show¬(S.length:Int)>16384 by omega)];rfl
end
abbrev oE:=Int×(Int×Int)
abbrev oF:=List (Int×oE)
def eF(p:Int):bD->Int
 |[]=>0
 |s::r=>(if s.2.2=p then s.2.1-s.1 else 0)+eF p r
theorem jzD(p:Int):∀(l r:bD),eF p (l++r)=eF p l+eF p r
 |[],r=>by simp[eF]
 |s::l,r=>by simp only[zv,eF,jzD p l r];omega
theorem Ch.tot_le{f:Int->Int}{b p:Int}:∀{l:bD}{a:Int},Ch f b a l->0<=eF p l/\eF p l<=b-a
 |[],a,h=>by have h:a=b:=h;simp[eF];omega
 |s::r,a,h=>by
  obtain⟨h1,h2,h3,h4⟩:=h;have:=h4.tot_le (p:=p);simp only[eF];split<;>omega
structure GC(m:oF)(np:Nat)(n:Nat):Prop where
 len:m.length<=n
 key:∀x∈m,0<=x.1/\x.1<(np:Int)/\x.2.1=x.1
theorem jwX{β:Type}{m:List (Int×β)}{k:Int}{v:β}:∀{x:Int×β},x∈ea m k v->x∈m\/x=(k,v):=by
 induction m with
 |nil=>intro x hx;simp[ea]at hx;exact .inr hx
 |cons y r ih=>
  intro x hx;simp only[ea]at hx;by_cases h:k=y.1
  .rw[di h,j6]at hx;rcases je.1 hx with rfl|hx
   .exact .inr (by rw[h])
   .exact .inl (by simp[hx])
  .rw[bW h,j7]at hx;rcases je.1 hx with rfl|hx
   .exact .inl (by simp)
   .exact(ih hx).imp (λh=>by simp[h]) id
theorem jwY{β:Type}{m:List (Int×β)}{k:Int}{v:β}:(ea m k v).length<=m.length+1:=by
 induction m with
 |nil=>simp[ea]
 |cons y r ih=>
  simp only[ea];cases k==y.1 with
  |true=>simp
  |false=>simp only[j7,jm];omega
def jQ:oE:=((0:Int),((0:Int),(0:Int)))
theorem jzE{m:oF}{k:Int}(h:ej m k=false):dx jQ m k=jQ:=by
 induction m with
 |nil=>rfl
 |cons y r ih=>have:ej (y::r) k=(k==y.1||ej r k):=rfl;rw[this,vz]at h;show cond (k==y.1) y.2 (dx jQ r k)=_;rw[h.1];exact ih h.2
theorem joL{m:oF}{k:Int}:ej m k=true↔k∈m.map (λx=>x.1):=by
 unfold ej;rw[zh,jt];constructor
 .rintro⟨x,hx,h⟩
  exact⟨x,hx,(by simpa using h:k=x.1).symm⟩
 .rintro⟨x,hx,h⟩
  exact⟨x,hx,by simp[h]⟩
theorem insI_perm(x:Int):∀l:List Int,(insI x l).Perm (x::l)
 |[]=>List.Perm.refl _
 |y::ys=>by
  unfold insI;cases decide (x<=y) with
  |true=>exact List.Perm.refl _
  |false=>exact((insI_perm x ys).cons y).trans (List.Perm.swap x y ys)
theorem isortI_perm:∀l:List Int,(nH l).Perm l
 |[]=>List.Perm.refl _
 |x::xs=>(insI_perm x _).trans ((isortI_perm xs).cons x)
theorem jCh{m:oF}{ks:List Int}(hl:ks.length<=1000000):∀(n i:Nat)(acc:List oE),i+n=ks.length->acc.length=i->
  EX (ks.length:Int) (i:Int) m acc ks=some (m,acc++(ks.drop i).map λk=>dx jQ m k)
 |0,i,acc,hi,ha=>by
  rw[Xn];simp only[j4g];rw[ah (by omega),j7,aW,jd (by omega)];simp
 |n+1,i,acc,hi,ha=>by
  have ak:i<ks.length:=by omega
  have aR:ks.getD i (0:Int)=ks[i]:=by simp[List.getD,ak]
  have ih:=jCh (m:=m) hl n (i+1) (acc++[dx jQ m ks[i]]) (by omega) (by simp;omega);rw[Xn];simp only[j4g,ku];rw[ag (show (i:Int)<(ks.length:Int) by omega),bz,ai (x:=(i:Int)+1),ag (by simp[aN];omega),jb ak];simp only[j6,j8,aR,aK];rw[jj]at ih;exact ih
theorem jzF{m:oF}{np n:Nat}(hm:GC m np n)(hn:n<=100000)(sj:np<=1000):jca m=some ((lh m).map (λk=>dx jQ m k),m):=by
 have hlen:(lh m).length=m.length:=by have:=(isortI_perm (m.map λx=>x.1)).length_eq;simpa[lh]using this
 have yw:=hm.len;have hk:Cp m=true:=by unfold Cp;simp only[jc,jy,jo];refine⟨Nat.ble_eq_true_of_le (by omega),λx hx=>?_⟩;have:=hm.key x hx;omega
 have lp:=jCh (m:=m) (ks:=lh m) (by omega) (lh m).length 0 [] (by omega) rfl;rw[jr,jv]at lp;simp only[jca,hk,j6];rw[show EX (Int.ofNat (lh m).length) 0 m [] (lh m)=_ from lp];rfl
section
variable{zs:List br}{ps:List cZ}{cs:List aX}(hs:cN zs ps cs)
include hs
end
def iG(np:Nat)(u v:Int->Int):List oE:=(List.range np).filterMap λ(p:Nat)=>if 0<u p then some ((p:Int),(u p,v p)) else none
def p9(np:Nat)(u:Int->Int):List Int:=(List.range np).filterMap λ(p:Nat)=>if 0<u p then some (p:Int) else none
theorem GD{np:Nat}{u:Int->Int}{k:Int}:k∈p9 np u↔0<=k/\k<(np:Int)/\0<u k:=by
 unfold p9;rw[v7];constructor
 .rintro⟨p,hp,h⟩
  have:=yt.1 hp;split at h
  .rename_i hu;simp only[j5]at h;subst h;exact⟨by omega,by omega,hu⟩
  .simp at h
 .rintro⟨h0,h1,hu⟩
  refine⟨k.toNat,yt.2 (by omega),?_⟩;rw[show ((k.toNat:Nat):Int)=k by omega,if_pos hu]
theorem J5(u:Int->Int):∀np,(p9 np u).Pairwise (· < ·)
 |0=>List.Pairwise.nil
 |n+1=>by
  unfold p9;rw[List.range_succ,List.filterMap_append];refine qw.2 ⟨J5 u n,?_,λx hx y hy=>?_⟩
  .simp only[z8,List.filterMap_nil];split
   .exact List.Pairwise.nil
   .exact yk _ _
  .have h1:=(GD (np:=n) (u:=u)).1 hx;simp only[z8,List.filterMap_nil]at hy;split at hy
   .simp at hy
   .rename_i z hz;simp only[kr]at hy;subst hy;split at hz
    .simp only[j5]at hz;subst hz;exact h1.2.1
    .simp at hz
theorem GF(np:Nat)(u v:Int->Int):iG np u v=(p9 np u).map λk=>(k,(u k,v k)):=by
 unfold iG p9;rw[List.map_filterMap];congr 1;funext p;split<;>rfl
theorem jvD(x:Int):∀l:List Int,l.Pairwise (· <= ·)->(insI x l).Pairwise (· <= ·)
 |[],_=>yk _ _
 |y::ys,h=>by
  have hc:=ki.1 h;unfold insI;cases hd:decide (x<=y) with
  |true=>
   have hd:=kz hd;refine ki.2 ⟨λz hz=>?_,h⟩;rcases je.1 hz with rfl|hz
   .exact hd
   .have:=hc.1 z hz;omega
  |false=>
   have hd:=of_decide_eq_false hd;refine ki.2 ⟨λz hz=>?_,jvD x ys hc.2⟩;rcases je.1 ((insI_perm x ys).mem_iff.1 hz) with rfl|hz
   .omega
   .exact hc.1 z hz
theorem joM:∀l:List Int,(nH l).Pairwise (· <= ·)
 |[]=>List.Pairwise.nil
 |x::xs=>jvD x _ (joM xs)
theorem jzG{ks L:List Int}(hn:ks.Nodup)(hL:L.Pairwise (· < ·))(hm:∀k,k∈ks↔k∈L):nH ks=L:=by
 have hp:(nH ks).Perm L:=(isortI_perm ks).trans ((List.perm_ext_iff_of_nodup hn (hL.imp (λh=>by omega))).2 hm);exact List.Perm.eq_of_pairwise (le:=(· <= ·)) (λa b _ _ h1 h2=>Int.le_antisymm h1 h2) (joM ks) (hL.imp (λh=>by omega)) hp
structure As(m:oF)(np n:Nat)(u v:Int->Int):Prop where
 ok:GC m np n
 nd:(m.map λx=>x.1).Nodup
 has:∀p,0<=p->p<(np:Int)->(ej m p=true↔0<u p)
 get:∀p,0<=p->p<(np:Int)->ej m p=true->dx jQ m p=(p,(u p,v p))
theorem juu{β:Type}{m:List (Int×β)}{k:Int}{v:β}(h:(m.map λx=>x.1).Nodup):((ea m k v).map λx=>x.1).Nodup/\∀q,q∈(ea m k v).map (λx=>x.1)->q=k\/q∈m.map (λx=>x.1):=by
 induction m with
 |nil=>simp[ea]
 |cons y r ih=>
  simp only[ea];have hc:=qb.1 (show (y.1::r.map λx=>x.1).Nodup from h);by_cases hk:k=y.1
  .rw[di hk,j6];refine⟨?_,λq hq=>?_⟩
   .show (k::r.map λx=>x.1).Nodup;rw[hk];exact h
   .rw[ke,hk]at hq;exact .inr (by rw[ke];exact hq)
  .rw[bW hk,j7];obtain⟨i1,i2⟩:=ih hc.2;refine⟨?_,λq hq=>?_⟩
   .show (y.1::(ea r k v).map λx=>x.1).Nodup;refine qb.2 ⟨λhy=>?_,i1⟩;rcases i2 _ hy with h|h
    .exact hk h.symm
    .exact hc.1 h
   .rcases je.1 (show q∈y.1::(ea r k v).map (λx=>x.1) from hq) with rfl|hq
    .exact .inr (by simp)
    .exact(i2 q hq).imp id (λh=>by
      rw[ke];exact qr _ h)
theorem jsI{m:oF}{np n:Nat}{u v:Int->Int}(h:As m np n u v)(hn:n<=100000)(sj:np<=1000):jca m=some (iG np u v,m):=by
 rw[jzF h.ok hn sj]
 have hk:lh m=p9 np u:=by
  unfold lh;refine jzG h.nd (J5 u np) λk=>?_;rw[<-joL,GD];constructor
  .intro hh;obtain⟨x,hx,rfl⟩:=jt.1 (joL.1 hh);have:=h.ok.key x hx;exact⟨this.1,this.2.1,(h.has _ this.1 this.2.1).1 hh⟩
  .rintro⟨h0,h1,hu⟩
   exact(h.has k h0 h1).2 hu
 rw[hk,GF];congr 2;refine yi λk hk=>?_;obtain⟨h0,h1,hu⟩:=GD.1 hk;exact h.get k h0 h1 ((h.has k h0 h1).2 hu)
def Sv(np:Nat)(x:oE):Prop:=0<=x.1/\x.1<(np:Int)/\0<x.2.1/\x.2.1<=8589934592/\x.2.1<=x.2.2/\x.2.2<=8*x.2.1
theorem jzH{l:List oE}(hl:l.length<=32)(hp:l.Pairwise λx y=>x.1<y.1){np:Nat}(sj:np<=32)(h:∀x∈l,Sv np x):j6z l=some true:=by
 have lp:∀n i:Nat,i+n=l.length->zL l l (l.length:Int) (i:Int)=some (.inr ()):=by
  intro n;induction n with
  |zero=>intro i hi;rw[We];simp only[j4x];rw[ah (by omega),j7,aW]
  |succ n ih=>
   intro i hi;have ak:i<l.length:=by omega
   have aR:l.getD i ((0:Int),((0:Int),(0:Int)))=l[i]:=by simp[List.getD,ak]
   obtain⟨h1,h2,h3,h4,h5,h6⟩:=h _ (jf ak);rw[We];simp only[j4x];rw[ag (show (i:Int)<(l.length:Int) by omega),cw (show (0:Int)<=(i:Int) by omega) (by omega),ai (x:=(i:Int)+1)];simp only[j6,j8,aR]
   rw[ah (show¬l[i].1<0 by omega),ah (show¬l[i].1>=32 by omega),ah (show¬l[i].2.1<0 by omega),ah (show¬l[i].2.1>8589934592 by omega),ah (show¬l[i].2.2<l[i].2.1 by omega),
    ai (x:=8*l[i].2.1),ah (show¬l[i].2.2>8*l[i].2.1 by omega)]
   simp only[j7];by_cases He:(i:Int)>0
   .have mK:i-1<l.length:=by omega
    have Sw:l.getD (i-1) ((0:Int),((0:Int),(0:Int)))=l[i-1]:=by simp[List.getD,mK]
    have GG:=ko.1 hp (i-1) i mK ak (by omega);rw[ag He,j6,ai (x:=(i:Int)-1),cw (show (0:Int)<=(i:Int)-1 by omega) (by omega),show ((i:Int)-1).toNat=i-1 by omega,Sw,ah (show¬l[i].1<=l[i-1].1 by omega)];simp only[j6,j7,aK];exact ih (i+1) (by omega)
   .rw[ah He,j7,aK];exact ih (i+1) (by omega)
 simp only[j6z,show Int.ofNat l.length=(l.length:Int) from rfl];rw[ah (show¬(l.length:Int)>32 by omega),show zL l l (l.length:Int) 0=_ from lp l.length 0 (by omega)];rfl
structure UV(np:Nat)(u v:Int->Int):Prop where
 u0:∀p,0<=u p
 u1:∀p,u p<=4294967296
 v0:∀p,u p<=v p
 v1:∀p,v p<=8*u p
theorem jzI{np:Nat}{u v:Int->Int}(h:UV np u v):∀x∈iG np u v,Sv np x:=by
 intro x hx;rw[GF]at hx;obtain⟨k,hk,rfl⟩:=jt.1 hx;obtain⟨k0,k1,hu⟩:=GD.1 hk;have:=h.u1 k;have:=h.v0 k;have:=h.v1 k;exact⟨k0,k1,hu,by show u k<=8589934592;omega,by show u k<=v k;omega,by show v k<=8*u k;omega⟩
theorem jzJ(np:Nat)(u v:Int->Int):(iG np u v).length<=np:=by
 have:=List.length_filterMap_le (λ(p:Nat)=>if 0<u p then some ((p:Int),(u p,v p)) else none) (List.range np);simpa[iG]using this
theorem jBi(np:Nat)(u v:Int->Int):(iG np u v).Pairwise λx y=>x.1<y.1:=by
 rw[GF,List.pairwise_map];exact J5 u np
def iM(o:Int)(l:bn)(w:WL)(x:Int):Bool:=(List.range (l.length+1)).any λk=>decide (aO l k<=x)&&(decide (x<aO l (k+1))&&hasB ((x+ba o l k+259200)%604800) w)
theorem Sz{o:Int}{l:bn}(h:gW o l){w:WL}{x:Int}{k:Nat}(hk:k<=l.length)(h0:aO l k<=x)(h1:x<aO l (k+1)):iM o l w x=hasB ((x+ba o l k+259200)%604800) w:=by
 rw[zr];unfold iM;rw[zh];constructor
 .rintro⟨j,hj,hp⟩
  simp only[jc,jo]at hp;have:=yt.1 hj;have:j=k:=F4 h (by omega) hk hp.1 hp.2.1 h0 h1;subst this;exact hp.2.2
 .intro hp;exact⟨k,yt.2 (by omega),by simp only[jc,jo];exact⟨h0,h1,hp⟩⟩
theorem jFf{l:SL}{p:Int}(h:jP p l)(hp:0<=p)(hl:l.length<=1000000)(hb:∀u∈l,u.2<=8589934592):∀(n i:Nat)(s:Int),i+n=l.length->0<=s->s+eB (l.drop i)<=1000000000000->(∀u∈l,0<=u.1/\u.1<u.2)->
  EW s l (l.length:Int) (i:Int)=some (s+eB (l.drop i))
 |0,i,s,hi,_,_,_=>by
  rw[Xm];simp only[j4f];rw[ah (by omega),j7,aW,jd (by omega)];simp[eB]
 |n+1,i,s,hi,hs,kK,hu=>by
  have ak:i<l.length:=by omega
  have aR:l.getD i ((0:Int),(0:Int))=l[i]:=by simp[ak]
  have hui:=hu _ (jf ak);have hbi:=hb _ (jf ak);obtain⟨q,hq⟩:=Sq h (i+1);have bJ:=Sp hq;rw[jb ak]at kK ⊢;simp only[eB]at kK ⊢;rw[Xm];simp only[j4f];rw[ag (show (i:Int)<(l.length:Int) by omega),bz];simp only[j6,j8,aR];rw[ai (x:=(i:Int)+1),ai (x:=l[i].2-l[i].1),ai (x:=s+(l[i].2-l[i].1)),aK];have:=jFf h hp hl hb n (i+1) (s+(l[i].2-l[i].1)) (by omega) (by omega) (by omega) hu;rw[show s+(l[i].2-l[i].1+eB (l.drop (i+1)))=s+(l[i].2-l[i].1)+eB (l.drop (i+1)) by omega];exact this
theorem jDN{l:SL}:∀{p:Int},bP p l->∀u∈l,p<u.1/\u.1<u.2:=by
 induction l with
 |nil=>intro p _ u hu;simp at hu
 |cons x r ih=>
  intro p h u hu;rcases je.1 hu with rfl|hu
  .exact⟨h.1,h.2.1⟩
  .have:=ih h.2.2 u hu;have:=h.1;have:=h.2.1;omega
theorem jCi{f:Int->Int}{a b:Int}(ha:0<=a)(hb:b<=8589934592){S:bD}(hS:dW f b none a S)(hl:S.length<=16384)(v:Int) :
  ∃out,j88 S v=some out/\bP (a-1) out/\(∀x,bt x out↔a<=x/\x<b/\f x=v)/\out.length<=16384/\∀u∈out,a<=u.1/\u.2<=b:=by
 have dV:(l5 v S).length<=16384:=by unfold l5;rw[k5];have:=qt (λs:jD=>s.2.2==v) S;omega
 have tl:=Su (v:=v) (S:=S) (by omega) S.length 0 [] (by omega) (by simp);rw[jv,jr]at tl
 have SC:∀u∈l5 v S,a<=u.1/\u.2<=b/\u.1<u.2:=λu hu=>by
  obtain⟨s,hm,rfl⟩:=jt.1 hu;have hm:=(qu.1 hm).1;have hc:=hS.ch.mem _ hm;exact⟨hc.1,hc.2.2.1,hS.pos _ hm⟩
 obtain⟨out,e3,h1,h2,h3,h4⟩:=Gm (l:=l5 v S) (by omega) (λu hu=>by have:=SC u hu;omega) (lo:=a) (hi:=b) (λu hu _=>⟨(SC u hu).1,(SC u hu).2.1⟩);refine⟨out,?_,h1,λx=>(h2 x).trans (Ss hS),by omega,h4⟩;simp only[j88];rw[show EV v S (Int.ofNat S.length) 0 []=_ from tl];simp only[j4,e3]
theorem jDO{f:Int->Int}{a:Int}{N:Nat}(ha:0<=a)(hb:a+N<=8589934592)(hN:N<=604800*60){S:bD}(hS:dW f (a+N) none a S)(hl:S.length<=16384){v:Int}{T:SL}(hT:j88 S v=some T)
  {o:Int}{l:bn}(h:gW o l)(eE:l.length<=20){w:WL}{W:SL}(hw:ei 0 w)(iD:w.length<=14)(hW:j31 (o,l) w a (a+N)=some W) :
  ∃C,j8y T W=some C/\jf3 C=some (bq (λx=>decide (f x=v)&&iM o l w x) a N):=by
 obtain⟨T',e1,t1,t2,t3,t4⟩:=jCi ha hb hS hl v;rw[hT]at e1;cases e1;obtain⟨W',e2,w1,w2,w3,w4⟩:=Rr h eE hw iD (M:=60) (by omega) ha (show a<=a+N by omega) hb (by omega);rw[hW]at e2;cases e2;have hWl:W.length<=14*61*21:=q9 w3 (ql (ql iD (by omega)) (by omega));obtain⟨C,e3,c1,c2,c3⟩:=Z9 t1 w1 (by omega) (by omega)
 have gM:∀x,bt x C↔a<=x/\x<a+N/\f x=v/\iM o l w x=true:=by
  intro x;rw[c2 x,t2 x];constructor
  .rintro⟨⟨q1,q2,q3⟩,q4⟩
   obtain⟨k,hk,k1,k2⟩:=pQ h (t:=x) (by omega) (by omega);exact⟨q1,q2,q3,by rw[Sz h hk k1 k2];exact(w4 k hk x q1 q2 k1 k2).1 q4⟩
  .rintro⟨q1,q2,q3,q4⟩
   obtain⟨k,hk,k1,k2⟩:=pQ h (t:=x) (by omega) (by omega);rw[Sz h hk k1 k2]at q4;exact⟨⟨q1,q2,q3⟩,(w4 k hk x q1 q2 k1 k2).2 q4⟩
 have ez:=jDN c1
 have we:∀u∈C,u.2<=a+N:=λu hu=>by
  have hm:=ez u hu;have:=(gM (u.2-1)).1 ⟨u,hu,by omega,by omega⟩;omega
 have qA:=c1.ino;rw[show a-1+1=a by omega]at qA;have Au:eB C=bq (λx=>decide (f x=v)&&iM o l w x) a N:=by rw[Sn qA we];refine J3 λx x1 x2=>?_;rw[zr,jc,decide_eq_true_iff,xo];have:=gM x;unfold bt at this;rw[this];exact⟨λh=>h.2.2,λh=>⟨x1,x2,h⟩⟩
 have hr:=GA (λx=>decide (f x=v)&&iM o l w x) a N;have lp:=jFf qA ha (by omega) (λu hu=>by have:=we u hu;omega) C.length 0 0 (by omega) (by omega) (by rw[jr,Au];omega) (λu hu=>by have:=ez u hu;omega);refine⟨C,e3,?_⟩;simp only[jf3];rw[show EW 0 C (Int.ofNat C.length) 0=_ from lp,jr,Int.zero_add,Au];rfl
abbrev mY:=List ((Int×Int)×Int)
theorem jzK{f:Int->Int}{p:Int}:∀{S:bD}{a:Int}{N:Nat},Ch f (a+N) a S->eF p S=bq (λx=>decide (f x=p)) a N
 |[],a,N,h=>by
  have h:a=a+N:=h;have:N=0:=by omega
  subst this;rfl
 |s::r,a,N,h=>by
  obtain⟨h1,h2,h3,h4⟩:=h;have hle:=h4.le;obtain⟨k,hk⟩:∃k:Nat,s.2.1=a+k:=⟨(s.2.1-a).toNat,by omega⟩;obtain⟨m,rfl⟩:∃m:Nat,N=k+m:=⟨N-k,by omega⟩;rw[hk]at h4;have ih:=jzK (f:=f) (p:=p) (S:=r) (a:=a+k) (N:=m) (by rw[show a+(k:Int)+(m:Int)=a+((k+m:Nat):Int) by omega];exact h4);simp only[eF,ih,GB];congr 1;by_cases hs:s.2.2=p
  .rw[if_pos hs,Sl (λx x1 x2=>by rw[h3 x x1 (by omega),hs];simp)];omega
  .rw[if_neg hs,J4 (λx x1 x2=>by rw[h3 x x1 (by omega)];simp[hs])]
structure sZ(ws:mY):Prop where
 w:ei 0 (ws.map λy=>y.1)
 l:ws.length<=4
 g:∀y∈ws,1<=y.2/\y.2<=4
theorem jCj{L:List Int}{w:WL}(hw:w.length<=4):∀(n i:Nat)(a:Int)(acc:mY),i+n=w.length->dD L a->acc.map (λy=>y.1)=w.take i->(∀y∈acc,1<=y.2/\y.2<=4)->
  ∃a' out,E0 (i:Int) L a acc w=some (L,a',out)/\out.map (λy=>y.1)=w/\(∀y∈out,1<=y.2/\y.2<=4)/\dD L a'
 |0,i,a,acc,hi,hd,h1,h2=>by
  refine⟨a,acc,?_,by rw[h1,List.take_of_length_le (by omega)],h2,hd⟩;rw[Xq];simp only[j1W,show Int.ofNat w.length=(w.length:Int) from rfl];rw[ah (by omega),j7,aW]
 |n+1,i,a,acc,hi,hd,h1,h2=>by
  have ak:i<w.length:=by omega
  have aR:w.getD i ((0:Int),(0:Int))=w[i]:=by simp[List.getD,ak]
  have nk:acc.length=i:=by have:=jq List.length h1;simpa[Nat.min_eq_left (Nat.le_of_lt ak)]using this
  obtain⟨x,a1,e,x0,x1,d1⟩:=dj (n:=4) hd (by omega) (by omega);rw[Xq];simp only[j1W,show Int.ofNat w.length=(w.length:Int) from rfl,e,j4,ku];rw[ag (show (i:Int)<(w.length:Int) by omega),bz,ai (x:=1+x),ai (x:=(i:Int)+1),ag (show acc.length+1<=aN by simp[aN];omega)];simp only[j6,j8,aR,aK]
  exact jCj hw n (i+1) a1 (acc++[((w[i].1,w[i].2),1+x)]) (by omega) d1 (by rw[za,h1,yg ak];rfl) (λy hy=>by
   rcases jn.1 hy with h|h
   .exact h2 y h
   .simp only[kr]at h;subst h;exact⟨by show 1<=1+x;omega,by show 1+x<=4;omega⟩)
theorem jwZ{L:List Int}{a:Int}(h:dD L a):∃ws a',j7v L a=some (ws,L,a')/\sZ ws/\dD L a':=by
 obtain⟨w,a1,e,h1,h2,d1⟩:=JI h;obtain⟨a',out,e2,q1,q2,d2⟩:=jCj (w:=w) (by omega) w.length 0 a1 [] (by omega) d1 (by simp) (by simp);refine⟨out,a',?_,⟨by rw[q1];exact h1,?_,q2⟩,d2⟩
 .simp only[j7v,e,j4];rw[show E0 0 L a1 [] w=_ from e2];rfl
 .have:=jq List.length q1;simp only[k5]at this;omega
theorem jFg{ws:mY}(hl:ws.length<=100):∀(n i:Nat)(acc:WL),i+n=ws.length->acc.length=i->ET ws (ws.length:Int) (i:Int) acc=some (acc++(ws.drop i).map λy=>y.1)
 |0,i,acc,hi,ha=>by
  rw[Xj];simp only[j3J];rw[ah (by omega),j7,aW,jd (by omega)];simp
 |n+1,i,acc,hi,ha=>by
  have ak:i<ws.length:=by omega
  have aR:ws.getD i (((0:Int),(0:Int)),(0:Int))=ws[i]:=by simp[List.getD,ak]
  have ih:=jFg hl n (i+1) (acc++[ws[i].1]) (by omega) (by simp;omega);rw[Xj];simp only[j3J,ku];rw[ag (show (i:Int)<(ws.length:Int) by omega),bz,ai (x:=(i:Int)+1),ag (show acc.length+1<=aN by simp[aN];omega),jb ak];simp only[j6,j8,aR,aK];rw[jj]at ih;exact ih
theorem jFh{ws:mY}(hl:ws.length<=100)(hg:∀y∈ws,1<=y.2/\y.2<=8):∀(n i:Nat),i+n=ws.length->EU ws (ws.length:Int) (i:Int)=some (.inr ())
 |0,i,hi=>by
  rw[Xk];simp only[j0i];rw[ah (by omega),j7,aW]
 |n+1,i,hi=>by
  have ak:i<ws.length:=by omega
  have aR:ws.getD i (((0:Int),(0:Int)),(0:Int))=ws[i]:=by simp[List.getD,ak]
  obtain⟨g1,g2⟩:=hg _ (jf ak);rw[Xk];simp only[j0i,jf2];rw[ag (show (i:Int)<(ws.length:Int) by omega),bz,ai (x:=(i:Int)+1)];simp only[j6,j8,aR,j4];rw[ah (show¬ws[i].2<1 by omega),ah (show¬ws[i].2>8 by omega)];simp only[j7,aK];exact jFh hl hg n (i+1) (by omega)
theorem jx0{ws:mY}(h:sZ ws):jhs ws=some 0:=by
 have hl:=h.l;have e0:jdd ws=some (ws.map λy=>y.1):=by have:=jFg (ws:=ws) (by omega) ws.length 0 [] (by omega) rfl;simp only[jdd];rw[show ET ws (Int.ofNat ws.length) 0 []=_ from this];simp
 have e2:j0K ws=some false:=by have:=jFh (ws:=ws) (by omega) (λy hy=>by have:=h.g y hy;omega) ws.length 0 (by omega);simp only[j0K,j1F];rw[show EU ws (Int.ofNat ws.length) 0=_ from this];rfl
 simp only[jhs,e0,j4,QW (w:=ws.map λy=>y.1) h.w (by simp;omega),jh,j7,e2]
noncomputable def dO(f:Int->Int)(o:Int)(l:bn)(a:Int)(N:Nat)(p:Int):mY->Int
 |[]=>0
 |y::r=>(y.2-1)*bq (λx=>decide (f x=p)&&iM o l [y.1] x) a N+dO f o l a N p r
theorem jsJ{f:Int->Int}{o:Int}{l:bn}{a:Int}{p:Int}(n m:Nat):∀ws:mY,dO f o l a (n+m) p ws=dO f o l a n p ws+dO f o l (a+n) m p ws
 |[]=>rfl
 |y::r=>by
  simp only[dO,jsJ n m r,GB,Int.mul_add];omega
theorem jBj(s:Int)(v:Int×Int):hasB s [v]=(decide (v.1<=s)&&decide (s<v.2)):=by
 rw[zr,xo];simp
def l7(s:Int):WL->Int
 |[]=>0
 |v::r=>cond (hasB s [v]) 1 0+l7 s r
theorem jCk{s:Int}:∀{w:WL}{p:Int},ei p w->0<=l7 s w/\l7 s w<=1/\(s<p->l7 s w=0)
 |[],_,_=>by simp[l7]
 |v::r,p,h=>by
  obtain⟨h1,h2,h3,h4⟩:=h;obtain⟨i1,i2,i3⟩:=jCk (s:=s) h4;simp only[l7,jBj];by_cases q1:v.1<=s
  .by_cases q2:s<v.2
   .have:=i3 q2;simp only[ag q1,ag q2,vu,j6];omega
   .simp only[ag q1,ah q2,Bool.and_false,j7];omega
  .simp only[ah q1,Bool.false_and,j7];refine⟨by omega,by omega,λhs=>?_⟩;have:=i3 (by omega);omega
theorem jCl{f:Int->Int}{o:Int}{l:bn}(h:gW o l){a:Int}{p:Int}(ha:0<=a){ws:mY}(hw:ei 0 (ws.map λy=>y.1))(hg:∀y∈ws,1<=y.2/\y.2<=4):∀N:Nat,a+N<=8589934592->
  0<=dO f o l a N p ws/\dO f o l a N p ws<=3*bq (λx=>decide (f x=p)) a N
 |0,_=>by
  have:∀ws:mY,dO f o l a 0 p ws=0:=by
   intro ws;induction ws with
   |nil=>rfl
   |cons y r ih=>simp only[dO,ih,bq];omega
  rw[this];simp[bq]
 |N+1,hN=>by
  obtain⟨i1,i2⟩:=jCl (f:=f) (p:=p) h ha hw hg N (by omega);obtain⟨k,hk,k1,k2⟩:=pQ h (t:=a+N) (by omega) (by omega);have hj:=λws:mY=>jsJ (f:=f) (o:=o) (l:=l) (a:=a) (p:=p) N 1 ws;have e1:bq (λx=>decide (f x=p)) a (N+1)=bq (λx=>decide (f x=p)) a N+cond (decide (f (a+N)=p)) 1 0:=rfl
  have step:∀ws:mY,(∀y∈ws,1<=y.2/\y.2<=4)->0<=dO f o l (a+N) 1 p ws/\dO f o l (a+N) 1 p ws<=3*(cond (decide (f (a+N)=p)) (l7 ((a+N+ba o l k+259200)%604800) (ws.map λy=>y.1)) 0):=by
   intro ws;induction ws with
   |nil=>intro _;simp only[dO,List.map_nil,l7];cases decide (f (a+N)=p)<;>simp
   |cons y r ih=>
    intro hg;obtain⟨j1,j2⟩:=ih (λz hz=>hg z (by simp[hz]));obtain⟨g1,g2⟩:=hg y (by simp);have ec:bq (λx=>decide (f x=p)&&iM o l [y.1] x) (a+N) 1=cond (decide (f (a+N)=p)&&hasB ((a+N+ba o l k+259200)%604800) [y.1]) 1 0:=by show 0+cond (decide (f (a+N+((0:Nat):Int))=p)&&iM o l [y.1] (a+N+((0:Nat):Int))) 1 0=_;rw[show a+(N:Int)+((0:Nat):Int)=a+N by omega,Sz h hk k1 k2,Int.zero_add]
    simp only[dO,ec,ke,l7];cases hq:decide (f (a+N)=p) with
    |false=>rw[hq]at j2;simp only[Bool.false_and,j7]at j2 ⊢;omega
    |true=>
     rw[hq]at j2;simp only[yl,j6]at j2 ⊢;cases hasB ((a+N+ba o l k+259200)%604800) [y.1]with
     |false=>simp only[j7];omega
     |true=>simp only[j6];omega
  obtain⟨s1,s2⟩:=step ws hg;have hh:=jCk (s:=(a+N+ba o l k+259200)%604800) hw;rw[hj ws,e1];cases hq:decide (f (a+N)=p) with
  |false=>rw[hq]at s2;simp only[j7]at s2 ⊢;omega
  |true=>rw[hq]at s2;simp only[j6]at s2 ⊢;omega
theorem dW.nil0{f:Int->Int}{a:Int}{q:Option Int}:∀{S:bD},dW f a q a S->S=[]
 |[],_=>rfl
 |s::r,h=>by
  have:=h.2.2.2.2.ch.le;have:=h.2.1;omega
section
variable{zs:List br}{ps:List cZ}{cs:List aX}(hs:cN zs ps cs)
include hs
theorem jBk{s:cF}(hk:pV zs.length ps.length cs.length s)(eE:s.2.1.length<=3)(eX:s.2.2.length<=6){ss:List cF}{a:Int}(ha:0<=a)(hb:a<=8589934592) :
  j37 ((zs,(ps,(cs,ss))),zs.map tb) s a a=some []:=by
 obtain⟨S,eS,hS,lS⟩:=joK hs (nm:=s.1) hk.ly (by omega) hk.ed (by omega) (ss:=ss) ha (k9 a) hb (by omega);obtain rfl:=hS.nil0;have l0:=Se (es:=s.2.2) (by omega) (f:=a) (t:=a) (zs:=zs) (ps:=ps) (cs:=cs) (ss:=ss) (tbs:=zs.map tb) (nm:=s.1) (ls:=s.2.1) s.2.2.length 0 [] (by omega) (by simp);rw[jv,jr]at l0;have uB:=Aq s.2.2;obtain⟨C,eC,c1,c2,c3⟩:=jzy (l:=iL s.2.2) (by omega) (f:=a) (t:=a);obtain⟨out,e3,h3,l3⟩:=JX (l:=[]) (by simp) (show Ch (cR zs cs s) a a [] from rfl);obtain rfl:=h3.nil0;have e2:zR 0 0 s.1 s.2.1 s.2.2 (C++[a]) [] []=some []:=by rw[NB];simp only[j1E];rw[ah (show¬(0:Int)<0 by omega),j7,aW]
 simp only[j37,show Int.ofNat s.2.2.length=(s.2.2.length:Int) from rfl];rw[show BZ a a s.2.2 (s.2.2.length:Int) 0 zs ps cs ss (zs.map tb) s.1 s.2.1 s.2.2 []=_ from l0];simp only[j4,eC];rw[show j3v ((zs,(ps,(cs,ss))),zs.map tb) (s.1,(s.2.1,s.2.2)) a a=_ from eS];simp only[j4,qc];rw[show zR (Int.ofNat 0) 0 s.1 s.2.1 s.2.2 (C++[a]) [] []=_ from e2];simp only[j4,e3]
theorem jsK{s:cF}(hc:ny (zs,(ps,(cs,[s]))))(eE:s.2.1.length<=3)(eX:s.2.2.length<=6){a:Int}{N:Nat}(ha:0<=a)(hb:a+N<=8589934592)(hN:N<=1209600) :
  ∃S,j4e (zs,(ps,(cs,[s]))) 0 a (a+N)=some (S,0)/\dW (cR zs cs s) (a+N) none a S/\S.length<=16384:=by
 by_cases h0:N=0
 .subst h0;have hk:=hc.sc s (by simp);refine⟨[],?_,show a=a+((0:Nat):Int) by omega,by simp⟩;rw[show a+((0:Nat):Int)=a by omega];simp only[j4e];have e:=joJ hs hc (i:=0) (by simp) (a:=a) (b:=a) ha (k9 a) (by omega) (by omega);rw[show j9P (zs,(ps,(cs,[s]))) 0 a a=_ from e];simp only[j4,jh,j7,ku];rw[cw (show (0:Int)<=0 by omega) (show (0:Int)<((1:Nat):Int) by omega)];simp only[j6,show Int.toNat 0=0 from rfl,List.getD_cons_zero];rw[show j37 ((zs,(ps,(cs,[s]))),zs.map tb) (s.1,(s.2.1,s.2.2)) a a=_ from jBk hs hk eE eX ha (by omega)];simp only[j4,qc];rw[ah (show¬Int.ofNat 0>(16384:Int) by decide)];rfl
 .exact jBh hs hc (i:=0) (by simp) eE eX ha (by omega) hb (by omega)
end
end Go.Proofs.Pw
