/- mJ.weeks, mJ.rests, mJ.begins. -/
import Derived.Test.YtaieocafhcjelaaGreatDPO
import Derived.Test.YtaieocafhcjelaaGreatDPG
import Derived.Test.YtaieocafhcjelaaGreatDPL
import Derived.Test.YtaieocafhcjelaaGreatDPB
import Derived.KernelRfl
open Go Go.Lft
namespace Go.Proofs.Pw
structure Of(l:SL)(m a b:Int)(n:Nat)(O:List Int):Prop where
 ok:∀e∈O,a<e/\e<=b/\cZ e l=m+1/\cZ (e-1) l=m
 pw:O.Pairwise (· < ·)
 all:O≠[]\/m<cZ a l\/∀t,a<=t->t<=b->cZ t l<=m
 len:2*O.length<=n+(if cZ a l<=m then 1 else 0)
theorem Hl{l:SL}(hl:l.length<=1000000)(hb:∀s∈l,0<=s.1/\s.2<=8589934592){p:Int}(hS:bB p l){m b:Int}(gj:0<=m)(hm:m<=604800)(da:b<=8589934592){N:List Int}(hN:N.length<=1000000)(cV:∀(h:N≠[]),N.getLast h=b) :
  ∀(n j:Nat)(a:Int)(out:List Int),j+n=N.length->out.length<=j->0<=a->(n=0->a=b)->(∀x∈N.drop j,a<x/\x<=b)->(N.drop j).Pairwise (· < ·)->(∀x∈oo l,a<x->x<b->x∈N.drop j)->
  ∃O,ym l m a (N.length:Int) (j:Int) out N=some (out++O)/\Of l m a b n O
 |0,j,a,out,hj,_,_,bz,_,_,_=>by
  refine⟨[],?_,⟨by simp,by simp,?_,by simp⟩⟩
  .rw[SP];simp only[j2M];rw[ak (by omega),j6,aW,kb]
  .have:=bz rfl;by_cases h:m<cZ a l
   .exact .inr (.inl h)
   .exact .inr (.inr λt h1 h2=>by rw[show t=a by omega];omega)
 |n+1,j,a,out,hj,uQ,sZ,_,hx,Bp,yO=>by
  have wI:j<N.length:=by omega
  have bf:N.getD j (0:Int)=N[j]:=by simp[List.getD,wI]
  rw[jc wI]at hx Bp yO;have rA:=hx N[j] qt
  have kW:Sml l:=λs hs=>by
   have h1:=hb s hs;have h2:=(hS.mem s hs).2;omega
  have hNB:Oc l a N[j]:=by
   have key:∀x∈oo l,¬(a<x/\x<N[j]):=λx hxb h=>by
    have hm:=yO x hxb h.1 (by omega);rcases je.1 hm with e|hm
    .omega
    .have:=(jx.1 Bp).1 x hm;omega
   intro s hs;have k:=λx h=>key x (WZ.2 ⟨s,hs,h⟩);exact⟨⟨k _ (.inl rfl),k _ (.inr (.inl rfl))⟩,k _ (.inr (.inr (.inl rfl))),k _ (.inr (.inr (.inr rfl)))⟩
  have tQ:=jzo hS (vm rA.1) hNB;have wa:=Oe hl (t:=a) (by omega) (by omega) kW hS;have wb:=Oe hl (t:=N[j]) (by omega) (by omega) kW hS;have la:=Ey (t:=a) hS;have na:=Hk (t:=a) (l:=l);have lb:=Ey (t:=N[j]) hS;have nb:=Hk (t:=N[j]) (l:=l)
  have sx:n=0->N[j]=b:=λh=>by
   have aZ:N≠[]:=λe=>by rw[e]at wI;simp at wI
   rw[<-cV aZ,List.getLast_eq_getElem];congr 1;omega
  have yP:=(jx.1 Bp).2;have gJ:∀x∈N.drop (j+1),N[j]<x/\x<=b:=λx h=>⟨(jx.1 Bp).1 x h,(hx x (zu _ h)).2⟩
  have ri:∀x∈oo l,N[j]<x->x<b->x∈N.drop (j+1):=λx h h1 h2=>by
   rcases je.1 (yO x h (by omega) h2) with e|e
   .omega
   .exact e
  rw[SP];simp only[j2M];rw[aj (show (j:Int)<(N.length:Int) by omega),aU (by omega) (by omega)];simp only[j5,j7,bf,wa,wb,j3];rw[ah (x:=(j:Int)+1) (by omega) (by omega)];by_cases hA:cZ a l<=m
  .rw[aj hA,j5];by_cases hB:cZ N[j] l>m
   .obtain⟨O,e,hO⟩:=Hl hl hb hS gj hm da hN cV n (j+1) N[j] (out++[a+m-cZ a l+1]) (by omega) (by simp;omega) (by omega) sx gJ yP ri;rw[aj hB,j5,ah (x:=a+m) (by omega) (by omega),ah (x:=a+m-cZ a l) (by omega) (by omega),ah (x:=a+m-cZ a l+1) (by omega) (by omega),aj (by simp[aS];omega),j5,aF];rw[show ((j+1:Nat):Int)=(j:Int)+1 by omega]at e
    have Og:∀t,a<=t->t<=N[j]->cZ t l=cZ a l+(t-a):=by
     have e0:N[j]<=N[j]:=kg _;rcases tQ with h|h|h
     .exact h
     .have:=h N[j] (by omega) e0;omega
     .have:=h N[j] (by omega) e0;omega
    have hbN:=Og N[j] (by omega) (kg _);refine⟨(a+m-cZ a l+1)::O,by rw[e];simp,?_,?_,.inl (by simp),?_⟩
    .intro x tT;rcases je.1 tT with rfl|tT
     .refine⟨by omega,by omega,?_,?_⟩
      .rw[Og _ (by omega) (by omega)];omega
      .rw[Og _ (by omega) (by omega)];omega
     .have:=hO.ok x tT;exact⟨by omega,this.2⟩
    .refine jx.2 ⟨λx tT=>?_,hO.pw⟩;have:=(hO.ok x tT).1;omega
    .have:=hO.len;rw[if_neg (by omega)]at this;rw[if_pos hA,jl];omega
   .obtain⟨O,e,hO⟩:=Hl hl hb hS gj hm da hN cV n (j+1) N[j] out (by omega) (by omega) (by omega) sx gJ yP ri;rw[ak hB,j6,aF];rw[show ((j+1:Nat):Int)=(j:Int)+1 by omega]at e;refine⟨O,e,λx tT=>?_,hO.pw,?_,?_⟩
    .have:=hO.ok x tT;exact⟨by omega,this.2⟩
    .rcases hO.all with h|h|h
     .exact .inl h
     .omega
     .refine .inr (.inr λt h1 h2=>?_);by_cases ht:t<=N[j]
      .have g:=tQ;have e0:N[j]<=N[j]:=kg _;rcases g with g|g|g
       .have g1:=g t h1 ht;have g2:=g N[j] (by omega) e0;omega
       .have g1:=g t h1 ht;omega
       .have g1:=g t h1 ht;omega
      .exact h t (by omega) h2
    .have:=hO.len;rw[if_pos hA];split at this<;>omega
  .obtain⟨O,e,hO⟩:=Hl hl hb hS gj hm da hN cV n (j+1) N[j] out (by omega) (by omega) (by omega) sx gJ yP ri;rw[ak hA,j6,j6,aF];rw[show ((j+1:Nat):Int)=(j:Int)+1 by omega]at e;refine⟨O,e,λx tT=>?_,hO.pw,.inr (.inl (by omega)),?_⟩
   .have:=hO.ok x tT;exact⟨by omega,this.2⟩
   .have:=hO.len;rw[if_neg hA];split at this<;>omega
theorem jxl{l:SL}(hl:l.length<=100000)(hb:∀s∈l,0<=s.1/\s.2<=8589934592){p:Int}(hS:bB p l){m a b:Int}(gj:0<=m)(hm:m<=604800)(ha:0<=a)(bz:a<b)(da:b<=8589934592) :
  ∃O,j89 l m a b=some O/\Of l m a b (4*l.length+1) O:=by
 have kW:Sml l:=λs hs=>by
  have h1:=hb s hs;have h2:=(hS.mem s hs).2;omega
 have e1:=W0 (s0:=l) (m:=m) (f:=a) (t:=b) (by omega) kW l.length 0 [] (by omega) (by simp);rw[jw,jm]at e1;have uD:=WY l;obtain⟨C,e2,hC,lC,mC⟩:=Wb (l:=oo l) (by omega) (f:=a) (t:=b)
 have Bp:(C++[b]).Pairwise (· < ·):=ql.2 ⟨hC,by simp,λx hx y hy=>by
  rw[ke.1 hy];exact((mC x).1 hx).2.2⟩
 obtain⟨O,e3,hO⟩:=Hl (by omega) hb hS gj hm da (N:=C++[b]) (by simp;omega) (λh=>by simp) (C++[b]).length 0 a [] (by omega) (by simp) ha (λh=>by simp at h) (λx hx=>by
  rw[jw]at hx;rcases jn.1 hx with hx|hx
  .have:=(mC x).1 hx;omega
  .rw[ke.1 hx];omega) (by rw[jw];exact Bp) (λx hx h1 h2=>by
  rw[jw];exact jn.2 (.inl ((mC x).2 ⟨hx,h1,h2⟩)))
 refine⟨O,?_,hO.ok,hO.pw,hO.all,?_⟩
 .simp only[j89,show Int.ofNat (List.length l)=(l.length:Int) from rfl];rw[show yl l m a b l (l.length:Int) 0 []=_ from e1];simp only[j3];rw[e2];simp only[j3,show Int.ofNat (List.length (C++[b]))=((C++[b]).length:Int) from rfl];rw[show ym l m a ((C++[b]).length:Int) 0 [] (C++[b])=_ from e3];rfl
 .have:=hO.len;simp only[ja,jl,qc]at this;split at this<;>split<;>omega
def rj(oQ:Int):Int->SL->List Int
 |_,[]=>[]
 |p,s::r=>if s.1-p<oQ then s.1::rj oQ s.2 r else rj oQ s.2 r
theorem W7(oQ:Int):∀(l:SL)(p:Int),(rj oQ p l).length<=l.length
 |[],_=>by simp[rj]
 |s::r,p=>by
  have:=W7 oQ r s.2;simp only[rj];split<;>simp only[jl]<;>omega
theorem Oh{l:SL}(hl:l.length<=1000000)(hb:Sml l){k:Int}:∀(n i:Nat)(acc:List Int),i+1+n=l.length->acc.length<=i->∀(h:i<l.length),
  AO l k ((i:Int)+1) acc=some (acc++rj k l[i].2 (l.drop (i+1)))
 |0,i,acc,hi,_,h=>by
  rw[Kn];simp only[j4b,show Int.ofNat (List.length l)=(l.length:Int) from rfl];rw[ak (by omega),j6,aW,jf (by omega)];simp[rj]
 |n+1,i,acc,hi,ha,h=>by
  have an:i+1<l.length:=by omega
  have gX:l.getD i ((0:Int),(0:Int))=l[i]:=by simp[List.getD,h]
  have sw:l.getD (i+1) ((0:Int),(0:Int))=l[i+1]:=by simp[List.getD,an]
  have b0:=hb _ (jg h);have b1:=hb _ (jg an);rw[Kn,jc an];simp only[j4b,rj,show Int.ofNat (List.length l)=(l.length:Int) from rfl];rw[aj (show (i:Int)+1<(l.length:Int) by omega),aU (show (0:Int)<=(i:Int)+1 by omega) (by omega),ah (x:=(i:Int)+1-1) (by omega) (by omega),show (i:Int)+1-1=(i:Int) by omega,aU (show (0:Int)<=(i:Int) by omega) (by omega)];simp only[j5,j7,show ((i:Int)+1).toNat=i+1 by omega,gX,sw];rw[ah (x:=l[i+1].1-l[i].2) (by omega) (by omega),ah (x:=(i:Int)+1+1) (by omega) (by omega)];by_cases hq:l[i+1].1-l[i].2<k
  .have ih:=Oh hl hb (k:=k) n (i+1) (acc++[l[i+1].1]) (by omega) (by simp;omega) an;rw[show ((i+1:Nat):Int)+1=(i:Int)+1+1 by omega]at ih;rw[aj hq,if_pos hq,j5,aj (by simp[aS];omega),j5,aF,ih];simp
  .have ih:=Oh hl hb (k:=k) n (i+1) acc (by omega) (by omega) an;rw[show ((i+1:Nat):Int)+1=(i:Int)+1+1 by omega]at ih;rw[ak hq,if_neg hq,j6,aF,ih]
def oq(k:Int):SL->List Int
 |[]=>[]
 |s::r=>rj k s.2 r
theorem jxm{l:SL}(hl:l.length<=1000000)(hb:Sml l)(k:Int):j77 l k=some (oq k l):=by
 simp only[j77];cases l with
 |nil=>rw[Kn];simp only[j4b,show Int.ofNat (List.length ([]:SL))=(0:Int) from rfl];rw[ak (by omega),j6,aW];rfl
 |cons s r=>have:=Oh hl hb (k:=k) r.length 0 [] (by simp;omega) (by simp) (by simp);rw[show ((0:Nat):Int)+1=1 by omega]at this;rw[this];rfl
theorem W8{l:SL}(hl:l.length<=1000000):∀(n i:Nat)(acc:List Int),i+n=l.length->acc.length<=i->
  yn l (l.length:Int) (i:Int) acc=some (acc++(l.drop i).map (·.1))
 |0,i,acc,hi,_=>by
  rw[SQ];simp only[j4M];rw[ak (by omega),j6,aW,jf (by omega)];simp
 |n+1,i,acc,hi,ha=>by
  have an:i<l.length:=by omega
  have bf:l.getD i ((0:Int),(0:Int))=l[i]:=by simp[List.getD,an]
  have ih:=W8 hl n (i+1) (acc++[l[i].1]) (by omega) (by simp;omega);rw[SQ,jc an];simp only[j4M];rw[aj (show (i:Int)<(l.length:Int) by omega),aU (by omega) (by omega)];simp only[j5,j7,bf];rw[aj (by simp[aS];omega),ah (x:=(i:Int)+1) (by omega) (by omega)];simp only[j5,aF];rw[show ((i+1:Nat):Int)=(i:Int)+1 by omega]at ih;rw[ih];simp only[kr,jd,List.singleton_append]
theorem jw8{l:SL}(hl:l.length<=1000000):j4C l=some (l.map (·.1)):=by
 have:=W8 hl l.length 0 [] (by omega) (by simp);rw[jw,jm]at this;simp only[j4C,show Int.ofNat (List.length l)=(l.length:Int) from rfl];rw[show yn l (l.length:Int) 0 []=_ from this];rfl
theorem jw9{f:Int->Int}{a b:Int}{S:aX}(hS:dO f b none a S)(ha:0<=a)(hb:b<=8589934592)(hl:S.length<=1000000)(v:Int) :
  ∃out,j6u S v=some out/\bB (a-1) out/\(∀x,br x out↔a<=x/\x<b/\f x=v)/\2*out.length<=S.length+1/\∀u∈out,a<=u.1/\u.2<=b:=by
 have eU:2*(oh v S).length<=S.length+1:=by have:=(Wh (v:=v) hS).1;unfold oh;rw[kn];exact this
 have tl:=NY (v:=v) (S:=S) (by omega) S.length 0 [] (by omega) (by simp);rw[jm,jw]at tl
 have Oi:∀u∈oh v S,a<=u.1/\u.2<=b/\u.1<u.2:=λu hu=>by
  obtain⟨s,hm,rfl⟩:=jt.1 hu;have hm:=(qq.1 hm).1;have hc:=hS.ch.mem _ hm;exact⟨hc.1,hc.2.2.1,hS.pos _ hm⟩
 obtain⟨out,e3,h1,h2,h3,h4⟩:=Bd (l:=oh v S) (by omega) (λu hu=>by have:=Oi u hu;omega) (lo:=a) (hi:=b) (λu hu _=>⟨(Oi u hu).1,(Oi u hu).2.1⟩);refine⟨out,?_,h1,λx=>(h2 x).trans (jAD hS),by omega,h4⟩;simp only[j6u,show Int.ofNat S.length=(S.length:Int) from rfl];rw[show yc v S (S.length:Int) 0 []=_ from tl];simp only[j3,e3]
section
variable{zs:List cg}{ps:List dP}{cs:List bk}(hs:fe zs ps cs)
include hs
theorem W9{ss:List cM}(kR:∀s∈ss,nY zs.length ps.length cs.length s/\s.2.1.length<=3/\s.2.2.length<=6)(hl:ss.length<=100){rr:List cM}{p a b:Int}(ha:0<=a)(bz:a<b)(hb:b<=8589934592)(hlen:b-a<=1209600):∀(n i:Nat)(acc:SL),i+n=ss.length->acc.length<=1250*i->
  ∃L,yd p a b ss (ss.length:Int) (i:Int) zs ps cs rr (zs.map tb) acc=some (.inr (acc++L))/\L.length<=1250*n/\(∀u∈L,a<=u.1/\u.2<=b/\u.1<u.2)/\∀x,br x L↔∃s∈ss.drop i,a<=x/\x<b/\gy zs cs s x=p
 |0,i,acc,hi,Hj=>by
  rw[Sw];simp only[j2x];rw[ak (by omega),j6,aW,jf (by omega)];exact⟨[],by simp,by simp,by simp,λx=>by simp[br]⟩
 |n+1,i,acc,hi,Hj=>by
  have bF:i<ss.length:=by omega
  have bf:ss.getD i (ByteArray.empty,(([]:List cb),([]:List eJ)))=ss[i]:=by simp[List.getD,bF]
  obtain⟨k1,k2,k3⟩:=kR _ (jg bF);obtain⟨S,e,hS,lS⟩:=WQ hs k1 k2 k3 (ss:=rr) ha bz hb hlen;obtain⟨T,e2,t1,t2,t3,t4⟩:=jw9 hS ha hb (by omega) p;obtain⟨L,e3,l1,l2,l3⟩:=W9 kR hl (rr:=rr) (p:=p) ha bz hb hlen n (i+1) (acc++T) (by omega) (by rw[ja];omega);rw[Sw,jc bF];simp only[j2x];rw[aj (show (i:Int)<(ss.length:Int) by omega),aU (show (0:Int)<=(i:Int) by omega) (by omega)];simp only[j5,j7,bf];rw[show j35 ((zs,(ps,(cs,rr))),zs.map tb) (ss[i].1,(ss[i].2.1,ss[i].2.2)) a b=_ from e];simp only[j3,show Int.ofNat S.length=(S.length:Int) from rfl];rw[ak (show¬(S.length:Int)>16384 by omega),j6,e2];simp only[j3];rw[aj (show acc.length+T.length<=aS by simp[aS];omega),j5,ah (x:=(i:Int)+1) (by omega) (by omega),aF];rw[show ((i+1:Nat):Int)=(i:Int)+1 by omega]at e3;refine⟨T++L,by rw[e3,jd],by rw[ja];omega,λu hu=>?_,λx=>?_⟩
  .rcases jn.1 hu with hu|hu
   .exact⟨(t4 u hu).1,(t4 u hu).2,(t1.mem u hu).2⟩
   .exact l2 u hu
  .rw[Ec,t2 x,l3 x];simp only[je,exists_eq_or_imp]
def Xa(zs:List cg)(cs:List bk)(ss:List cM)(p x:Int):Prop:=∃s∈ss,gy zs cs s x=p
theorem jtL{ss:List cM}(kR:∀s∈ss,nY zs.length ps.length cs.length s/\s.2.1.length<=3/\s.2.2.length<=6)(hl:ss.length<=3){rr:List cM}{p a b:Int}(ha:0<=a)(bz:a<b)(hb:b<=8589934592)(hlen:b-a<=1209600)(hrr:rr=ss) :
  ∃D,j4B ((zs,(ps,(cs,rr))),zs.map tb) p a b=some (D,0)/\bB (a-1) D/\(∀x,br x D↔a<=x/\x<b/\Xa zs cs ss p x)/\D.length<=1250*ss.length/\∀u∈D,a<=u.1/\u.2<=b:=by
 subst hrr;obtain⟨L,e,l1,l2,l3⟩:=W9 hs kR (by omega) (rr:=rr) (p:=p) ha bz hb hlen rr.length 0 [] (by omega) (by simp);rw[jm]at e;obtain⟨D,e3,h1,h2,h3,h4⟩:=Bd (l:=L) (by omega) (λu hu=>by have:=l2 u hu;omega) (lo:=a) (hi:=b) (λu hu _=>⟨(l2 u hu).1,(l2 u hu).2.1⟩);refine⟨D,?_,h1,λx=>?_,by omega,h4⟩
 .simp only[j4B,show Int.ofNat rr.length=(rr.length:Int) from rfl];rw[show yd p a b rr (rr.length:Int) 0 zs ps cs rr (zs.map tb) []=_ from e];simp only[j3,qA,e3,show Int.ofNat D.length=(D.length:Int) from rfl];rw[ak (show¬(D.length:Int)>4096 by omega),j6]
 .rw[h2 x,l3 x,jw];constructor
  .rintro⟨s,g1,g2,g3,g4⟩;exact⟨g2,g3,s,g1,g4⟩
  .rintro⟨g2,g3,s,g1,g4⟩;exact⟨s,g1,g2,g3,g4⟩
theorem Xb{ss:List cM}(hc:tK (zs,(ps,(cs,ss)))){p:Nat}(hp:p<ps.length){a b:Int}(ha:0<=a)(bz:a<=b)(hb:b<=8589934592)(hlen:b-a<=34560000) :
  j5I (zs,(ps,(cs,ss))) (p:Int) a b=some (((zs,(ps,(cs,ss))),zs.map tb),0):=by
 simp only[j5I,Vn hs.so.ok hc,j3,jr,j6,show Int.ofNat ps.length=(ps.length:Int) from rfl,jeD];rw[ak (show¬(p:Int)<0 by omega),ak (show¬(p:Int)>=(ps.length:Int) by omega),ah (x:=b-a) (by omega) (by omega),aj (show a>=0 by omega),aj (show a<=8589934592 by omega),aj (show b>=a by omega),aj (show b<=8589934592 by omega),aj (show b-a<=34560000 by omega)];rfl
theorem jwa{ss:List cM}(hc:tK (zs,(ps,(cs,ss))))(kR:∀s∈ss,nY zs.length ps.length cs.length s/\s.2.1.length<=3/\s.2.2.length<=6)(hl:ss.length<=3){p:Nat}(hp:p<ps.length){a b:Int}(ha:0<=a)(bz:a<b)(hb:b<=8589934592){D:SL}
  (e:j4B ((zs,(ps,(cs,ss))),zs.map tb) (p:Int) a b=some (D,0))(hlen:b-a<=1209600):j4D (zs,(ps,(cs,ss))) (p:Int) a b=some (D,0):=by
 have _:=kR;have _:=hl;simp only[j4D];rw[show j5I (zs,ps,cs,ss) (p:Int) a b=_ from Xb hs hc hp ha (vm bz) hb (by omega)];simp only[j3,jp,j6,e]
end
theorem Xc(x y:eX):(x.1==y.1&&(x.2.1==y.2.1&&x.2.2==y.2.2))=decide (x=y):=by
 obtain⟨a,b,c⟩:=x;obtain⟨d,e,f⟩:=y;rw[Bool.eq_iff_iff];simp only[jb,qy,jo,j8]
def jE(x y:eX):Prop:=x.2.2<y.2.2\/x.2.2=y.2.2/\(x.1<y.1\/x.1=y.1/\x.2.1<y.2.1)
instance(x y:eX):Decidable (jE x y):=by unfold jE;infer_instance
def Bq(x y:eX):Prop:=x.2.2<y.2.2\/x.2.2=y.2.2/\(x.1<y.1\/x.1=y.1/\x.2.1<=y.2.1)
theorem jAQ{x y:eX}(h:Bq x y)(hn:y≠x):jE x y:=by
 obtain⟨a,b,c⟩:=x;obtain⟨d,e,f⟩:=y;unfold Bq at h;unfold jE;have:¬(a=d/\b=e/\c=f):=λh=>hn (by rw[h.1,h.2.1,h.2.2]);dsimp only at h ⊢;omega
def kX:eX->aX->aX
 |_,[]=>[]
 |p,x::r=>if x=p then kX p r else x::kX x r
theorem Oj:∀(l:aX)(p:eX),∀x,x∈p::kX p l↔x∈p::l
 |[],_,_=>Iff.rfl
 |y::r,p,x=>by
  unfold kX;split
  .rename_i h;subst h;rw[Oj r y x];simp
  .have:=Oj r y x;rw[je,this,je,je,je]
theorem Ol:∀(l:aX)(p:eX),(p::l).Pairwise Bq->(p::kX p l).Pairwise jE
 |[],_,_=>by simp[kX]
 |y::r,p,h=>by
  have h1:=jx.1 h;unfold kX;split
  .rename_i h;subst h;exact Ol r y h1.2
  .rename_i aZ;have ih:=Ol r y h1.2;refine jx.2 ⟨λz hz=>?_,ih⟩;have hy:=jAQ (h1.1 y (by simp)) aZ;rcases je.1 hz with rfl|hz
   .exact hy
   .have:=(jx.1 ih).1 z hz;unfold jE at this hy ⊢;omega
theorem Om{l:aX}(hl:l.length<=1000000){k0:Nat}:∀(n s k:Nat)(b:aX),k0+s+n=l.length->1<=s->k<=k0+s-1->b.length=l.length->b.drop k=l.drop k->
  ∃(m:Nat)(b':aX),yo (k:Int) (k0:Int) (s:Int) b=some ((m:Int),b')/\b'.length=l.length/\m<=l.length/\b'.take m=b.take k++kX (l.getD (k0+s-1) ((0:Int),((0:Int),(0:Int)))) (l.drop (k0+s))
 |0,s,k,b,hn,hs,hk,hb,hd=>by
  rw[SR];simp only[j0J,j7,show Int.ofNat (b.length-k0)=((b.length-k0:Nat):Int) from rfl];rw[ak (by omega),j6,aW,jf (by omega)];exact⟨k,b,rfl,hb,by omega,by simp[kX]⟩
 |n+1,s,k,b,hn,hs,hk,hb,hd=>by
  have an:k0+s<l.length:=by omega
  have qZ:∀j,k<=j->b[j]? = l[j]? := λj hj=>by
   have h:=jh (λx=>x[j-k]?) hd;simpa[List.getElem?_drop,show k+(j-k)=j by omega]using h
  have g1:b.getD (k0+s) ((0:Int),((0:Int),(0:Int)))=l[k0+s]:=by rw[List.getD_eq_getElem?_getD,qZ _ (by omega),ji an];rfl
  have g2:b.getD (k0+(s-1)) ((0:Int),((0:Int),(0:Int)))=l.getD (k0+s-1) ((0:Int),((0:Int),(0:Int))):=by rw[List.getD_eq_getElem?_getD,qZ _ (by omega),show k0+(s-1)=k0+s-1 by omega,List.getD_eq_getElem?_getD]
  have e1:l.getD (k0+(s+1)-1) ((0:Int),((0:Int),(0:Int)))=l[k0+s]:=by rw[show k0+(s+1)-1=k0+s by omega];simp[an]
  rw[SR];simp only[j0J,j7,show Int.ofNat (b.length-k0)=((b.length-k0:Nat):Int) from rfl,show Int.ofNat k0=(k0:Int) from rfl];rw[aj (show (s:Int)<((b.length-k0:Nat):Int) by omega),aU (show (0:Int)<=(s:Int) by omega) (by omega),ah (x:=(s:Int)-1) (by omega) (by omega),aU (show (0:Int)<=(s:Int)-1 by omega) (by omega),aU (show (0:Int)<=(k:Int) by omega) (by omega),ah (x:=(k:Int)+1) (by omega) (by omega),ah (x:=(s:Int)+1) (by omega) (by omega),show ((s:Int)-1).toNat=s-1 by omega,jc an];simp only[j5,g1,g2,kX,Xc];by_cases hc:l[k0+s]=l.getD (k0+s-1) ((0:Int),((0:Int),(0:Int)))
  .rw[aj hc,if_pos hc,jr,j6,aF];have ih:=Om hl (k0:=k0) n (s+1) k b (by omega) (by omega) (by omega) hb hd;rw[e1,hc,show k0+(s+1)=k0+s+1 by omega]at ih;exact ih
  .rw[ak hc,if_neg hc,jy,j5,aF]
   have ih:=Om hl (k0:=k0) n (s+1) (k+1) (b.set k l[k0+s]) (by omega) (by omega) (by omega) (by simpa using hb) (by
    rw[List.drop_set_of_lt (by omega)];have:=jh (List.drop 1) hd;simpa[List.drop_drop]using this)
   rw[e1,show k0+(s+1)=k0+s+1 by omega]at ih;obtain⟨m,b',r1,r2,r3,r4⟩:=ih;refine⟨m,b',r1,r2,r3,?_⟩;have Bc:k<b.length:=by omega
   rw[r4,ko,List.take_set_of_le (jj _),vj Bc];simp
def ot:aX->aX
 |[]=>[]
 |a::r=>a::kX a r
theorem Xd{l:aX}(hl:l.length<=1000000):∀(n k:Nat),k+n=l.length->1<=k->ot l=l.take k++kX (l.getD (k-1) ((0:Int),((0:Int),(0:Int)))) (l.drop k)->
  (∃(m:Nat)(b:aX),tE (k:Int) l=some (.inl ((m:Int),b))/\b.take m=ot l)\/(tE (k:Int) l=some (.inr l)/\ot l=l)
 |0,k,hn,hk,hT=>by
  rw[SS];simp only[j0d,show Int.ofNat l.length=(l.length:Int) from rfl];rw[ak (by omega),j6,aW];rw[List.take_of_length_le (by omega),jf (by omega)]at hT;exact .inr ⟨rfl,by simpa[kX]using hT⟩
 |n+1,k,hn,hk,hT=>by
  have an:k<l.length:=by omega
  have g1:l.getD k ((0:Int),((0:Int),(0:Int)))=l[k]:=by simp[an]
  rw[jc an]at hT;simp only[kX]at hT;rw[SS];simp only[j0d,show Int.ofNat l.length=(l.length:Int) from rfl];rw[aj (show (k:Int)<(l.length:Int) by omega),aU (show (0:Int)<=(k:Int) by omega) (by omega),ah (x:=(k:Int)-1) (by omega) (by omega),aU (show (0:Int)<=(k:Int)-1 by omega) (by omega),ah (x:=(k:Int)+1) (by omega) (by omega),show ((k:Int)-1).toNat=k-1 by omega,aj (show (0:Int)<=(k:Int) by omega),aj (show (k:Int)<=(l.length:Int) by omega)];simp only[j5,j7,g1,Bool.and_self,show Int.ofNat k=(k:Int) from rfl,Xc];by_cases hc:l[k]=l.getD (k-1) ((0:Int),((0:Int),(0:Int)))
  .rw[if_pos hc]at hT;obtain⟨m,b,r1,r2,r3,r4⟩:=Om hl (k0:=k) n 1 k l (by omega) (by omega) (by omega) rfl rfl;rw[show k+1-1=k by omega,g1,hc,<-hT]at r4;rw[aj hc,j5,show yo (k:Int) (k:Int) 1 l=_ from r1];simp only[j3,j7,show Int.ofNat b.length=(b.length:Int) from rfl];rw[aj (show (0:Int)<=(m:Int) by omega),aj (show (m:Int)<=(b.length:Int) by omega)];simp only[Bool.and_self,j5,Bool.true_and];rw[aj (by simp;omega),j5,aW];refine .inl ⟨m,_,rfl,?_⟩;rw[zd (by simp;omega),zw,Nat.min_self,r4]
  .rw[if_neg hc]at hT;rw[ak hc,j6,aF];refine Xd hl n (k+1) (by omega) (by omega) ?_;have mj:l.take (k+1)=l.take k++[l[k]]:=by rw[ko,ji an];rfl
   rw[hT,mj,show k+1-1=k by omega,g1,jd];rfl
theorem jrT{l:aX}(hl:l.length<=1000000):∃n m,j06 l=some (n,m)/\m.take n.toNat=ot l:=by
 simp only[j06,show Int.ofNat l.length=(l.length:Int) from rfl];by_cases h2:l.length<2
 .rw[aj (by omega),j5];refine⟨_,_,rfl,?_⟩;rw[j7,List.take_of_length_le (jj _)];match l,h2 with
  |[],_=>rfl
  |[a],_=>rfl
  |_::_::_,h2=>simp at h2;omega
 .rw[ak (by omega),j6]
  have hT:ot l=l.take 1++kX (l.getD (1-1) ((0:Int),((0:Int),(0:Int)))) (l.drop 1):=by
   match l,h2 with
   |[],h2=>simp at h2
   |a::r,_=>rfl
  rcases Xd hl (l.length-1) 1 (by omega) (by omega) hT with⟨m,b,e,h⟩|⟨e,h⟩
  .rw[show tE 1 l=_ from e];refine⟨_,_,rfl,?_⟩;simpa using h
  .rw[show tE 1 l=_ from e];refine⟨_,_,rfl,?_⟩;rw[h];simp
theorem jzq{l:aX}(x:eX):x∈ot l↔x∈l:=by
 cases l with
 |nil=>exact Iff.rfl
 |cons a r=>exact Oj r a x
theorem jzr{l:aX}(h:l.Pairwise Bq):(ot l).Pairwise jE:=by
 cases l with
 |nil=>exact .nil
 |cons a r=>exact Ol r a h
theorem On:∀(l:aX)(p:eX),(kX p l).length<=l.length
 |[],_=>jj _
 |y::r,p=>by
  unfold kX;split
  .have:=On r p;simp;omega
  .have:=On r y;simp;omega
theorem jzs(l:aX):(ot l).length<=l.length:=by
 cases l with
 |nil=>exact jj _
 |cons a r=>have:=On r a;simp[ot];omega
theorem jAR(x y:eX):(j5y x y).getD 0=cond (x.2.2 != y.2.2) (w64 (x.2.2-y.2.2)) (cond (x.1 != y.1) (w64 (x.1-y.1)) (w64 (x.2.1-y.2.1))):=by
 unfold j5y;cases (x.2.2 != y.2.2)
 .cases (x.1 != y.1)
  .rfl
  .rfl
 .rfl
def Br(x:eX):Prop:=(-1000000000000<=x.1/\x.1<=1000000000000)/\(-1000000000000<=x.2.1/\x.2.1<=1000000000000)/\(-1000000000000<=x.2.2/\x.2.2<=1000000000000)
theorem Xe{x y:eX}(hx:(-1152921504606846976<=x.1/\x.1<=1152921504606846976)/\(-1152921504606846976<=x.2.1/\x.2.1<=1152921504606846976)/\(-1152921504606846976<=x.2.2/\x.2.2<=1152921504606846976))
  (hy:(-1152921504606846976<=y.1/\y.1<=1152921504606846976)/\(-1152921504606846976<=y.2.1/\y.2.1<=1152921504606846976)/\(-1152921504606846976<=y.2.2/\y.2.2<=1152921504606846976)):(j5y x y).getD 0<0↔jE x y:=by
 rw[jAR];unfold jE;by_cases q1:x.2.2=y.2.2
 .rw[show (x.2.2 != y.2.2)=false by simp[q1],j6];by_cases q2:x.1=y.1
  .rw[show (x.1 != y.1)=false by simp[q2],j6,ah (by omega) (by omega)];omega
  .rw[show (x.1 != y.1)=true by simp[q2],j5,ah (by omega) (by omega)];omega
 .rw[show (x.2.2 != y.2.2)=true by simp[q1],j5,ah (by omega) (by omega)];omega
theorem jxn:Go.Sort.SWO (Go.Proofs.ltOf λ(x y:Go.Lft.Sml (.pair (.int .i64) (.pair (.int .i64) (.int .i64))))=>(j5y x.1 y.1).getD 0):=by
 have key:∀x:Go.Lft.Sml (.pair (.int .i64) (.pair (.int .i64) (.int .i64))),(-1152921504606846976<=(x.1.1:Int)/\(x.1.1:Int)<=1152921504606846976)/\(-1152921504606846976<=(x.1.2.1:Int)/\(x.1.2.1:Int)<=1152921504606846976)/\(-1152921504606846976<=(x.1.2.2:Int)/\(x.1.2.2:Int)<=1152921504606846976):=λx=>by
  have:=x.2;simp only[fG,jb,jo]at this;exact this
 have e:∀x y:Go.Lft.Sml (.pair (.int .i64) (.pair (.int .i64) (.int .i64))),Go.Proofs.ltOf (λ(x y:Go.Lft.Sml (.pair (.int .i64) (.pair (.int .i64) (.int .i64))))=>(j5y x.1 y.1).getD 0) x y=decide (jE x.1 y.1):=λx y=>by
  unfold Go.Proofs.ltOf;exact decide_eq_decide.2 (Xe (key x) (key y))
 refine⟨λx=>?_,λx y z=>?_,λx y z=>?_⟩
 .rw[e];simp only[jE];exact decide_eq_false (by omega)
 .rw[e,e,e];exactλh1 h2=>v6 (by have h1:=kz h1;have h2:=kz h2;unfold jE at *;omega)
 .rw[e,e,e];exactλh1 h2=>decide_eq_false (by have h1:=of_decide_eq_false h1;have h2:=of_decide_eq_false h2;unfold jE at *;omega)
theorem jxo{l:aX}(hl:l.length<=1000000000)(hb:∀x∈l,Br x):∃L,j04 l=some L/\L.Perm l/\L.Pairwise Bq:=by
 obtain⟨L,e,hp,hs⟩:=J5 (a:= .pair (.int .i64) (.pair (.int .i64) (.int .i64))) (cf:=λx y=>(j5y x y).getD 0) jxn (xs:=l) (λx hx=>by
  have:=hb x hx;unfold Br at this;simp only[fG,jb,jo];refine⟨⟨?_,?_⟩,⟨?_,?_⟩,⟨?_,?_⟩⟩
  .exact q7 (by decide) this.1.1
  .exact q7 this.1.2 (by decide)
  .exact q7 (by decide) this.2.1.1
  .exact q7 this.2.1.2 (by decide)
  .exact q7 (by decide) this.2.2.1
  .exact q7 this.2.2.2 (by decide)) (by show List.length l<_;omega)
 refine⟨L,e,hp,hs.imp_of_mem λ{x y} hx hy h=>?_⟩;have h1:=hb x (hp.mem_iff.1 hx);have h2:=hb y (hp.mem_iff.1 hy);unfold Br at h1 h2;have:¬jE y x:=λq=>h ((Xe (x:=y) (y:=x) (by omega) (by omega)).2 q);unfold jE at this;unfold Bq;omega
theorem Xf:j9P=some true:=joW 60 true (by kernel_rfl)
end Go.Proofs.Pw
