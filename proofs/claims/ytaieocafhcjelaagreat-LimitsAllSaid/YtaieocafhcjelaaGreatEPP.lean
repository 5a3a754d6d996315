/- mN.weeks, mN.rests, mN.begins. -/
import Derived.Test.YtaieocafhcjelaaGreatEPO
import Derived.Test.YtaieocafhcjelaaGreatEPG
import Derived.Test.YtaieocafhcjelaaGreatEPL
import Derived.Test.YtaieocafhcjelaaGreatEPB
import Derived.KernelRfl
open Go Go.Lft
namespace Go.Proofs.Pw
structure Ov(l:SL)(m a b:Int)(n:Nat)(O:List Int):Prop where
 ok:∀e∈O,a<e/\e<=b/\dR e l=m+1/\dR (e-1) l=m
 pw:O.Pairwise (· < ·)
 all:O≠[]\/m<dR a l\/∀t,a<=t->t<=b->dR t l<=m
 len:2*O.length<=n+(if dR a l<=m then 1 else 0)
theorem Hu{l:SL}(hl:l.length<=1000000)(hb:∀s∈l,0<=s.1/\s.2<=8589934592){p:Int}(hS:bK p l){m b:Int}(gI:0<=m)(hm:m<=604800)(da:b<=8589934592){N:List Int}(hN:N.length<=1000000)(cW:∀(h:N≠[]),N.getLast h=b) :
  ∀(n j:Nat)(a:Int)(out:List Int),j+n=N.length->out.length<=j->0<=a->(n=0->a=b)->(∀x∈N.drop j,a<x/\x<=b)->(N.drop j).Pairwise (· < ·)->(∀x∈ov l,a<x->x<b->x∈N.drop j)->
  ∃O,yw l m a (N.length:Int) (j:Int) out N=some (out++O)/\Ov l m a b n O
 |0,j,a,out,hj,_,_,bR,_,_,_=>by
  refine⟨[],?_,⟨by simp,by simp,?_,by simp⟩⟩
  .rw[Td];simp only[j2N];rw[al (by omega),j6,aW,ka]
  .have:=bR rfl;by_cases h:m<dR a l
   .exact .inr (.inl h)
   .exact .inr (.inr λt h1 h2=>by rw[show t=a by omega];omega)
 |n+1,j,a,out,hj,uS,tc,_,hx,Bz,yW=>by
  have wQ:j<N.length:=by omega
  have bh:N.getD j (0:Int)=N[j]:=by simp[List.getD,wQ]
  rw[jc wQ]at hx Bz yW;have rE:=hx N[j] qu
  have ow:Sml l:=λs hs=>by
   have h1:=hb s hs;have h2:=(hS.mem s hs).2;omega
  have hNB:Ot l a N[j]:=by
   have key:∀x∈ov l,¬(a<x/\x<N[j]):=λx hxb h=>by
    have hm:=yW x hxb h.1 (by omega);rcases je.1 hm with e|hm
    .omega
    .have:=(js.1 Bz).1 x hm;omega
   intro s hs;have k:=λx h=>key x (Xf.2 ⟨s,hs,h⟩);exact⟨⟨k _ (.inl rfl),k _ (.inr (.inl rfl))⟩,k _ (.inr (.inr (.inl rfl))),k _ (.inr (.inr (.inr rfl)))⟩
  have mL:=jzB hS (Int.le_of_lt rE.1) hNB;have wa:=Xd hl (t:=a) (by omega) (by omega) ow hS;have wb:=Xd hl (t:=N[j]) (by omega) (by omega) ow hS;have la:=Ht (t:=a) hS;have na:=Hs (t:=a) (l:=l);have lb:=Ht (t:=N[j]) hS;have nb:=Hs (t:=N[j]) (l:=l)
  have sE:n=0->N[j]=b:=λh=>by
   have ba:N≠[]:=λe=>by rw[e]at wQ;simp at wQ
   rw[<-cW ba,List.getLast_eq_getElem];congr 1;omega
  have yX:=(js.1 Bz).2;have gN:∀x∈N.drop (j+1),N[j]<x/\x<=b:=λx h=>⟨(js.1 Bz).1 x h,(hx x (zv _ h)).2⟩
  have rn:∀x∈ov l,N[j]<x->x<b->x∈N.drop (j+1):=λx h h1 h2=>by
   rcases je.1 (yW x h (by omega) h2) with e|e
   .omega
   .exact e
  rw[Td];simp only[j2N];rw[aj (show (j:Int)<(N.length:Int) by omega),aX (by omega) (by omega)];simp only[j5,j7,bh,wa,wb,j3];rw[ai (x:=(j:Int)+1) (by omega) (by omega)];by_cases hA:dR a l<=m
  .rw[aj hA,j5];by_cases hB:dR N[j] l>m
   .obtain⟨O,e,hO⟩:=Hu hl hb hS gI hm da hN cW n (j+1) N[j] (out++[a+m-dR a l+1]) (by omega) (by simp;omega) (by omega) sE gN yX rn;rw[aj hB,j5,ai (x:=a+m) (by omega) (by omega),ai (x:=a+m-dR a l) (by omega) (by omega),ai (x:=a+m-dR a l+1) (by omega) (by omega),aj (by simp[aR];omega),j5,aJ];rw[show ((j+1:Nat):Int)=(j:Int)+1 by omega]at e
    have Ow:∀t,a<=t->t<=N[j]->dR t l=dR a l+(t-a):=by
     have e0:N[j]<=N[j]:=kg _;rcases mL with h|h|h
     .exact h
     .have:=h N[j] (by omega) e0;omega
     .have:=h N[j] (by omega) e0;omega
    have hbN:=Ow N[j] (by omega) (kg _);refine⟨(a+m-dR a l+1)::O,by rw[e];simp,?_,?_,.inl (by simp),?_⟩
    .intro x tW;rcases je.1 tW with rfl|tW
     .refine⟨by omega,by omega,?_,?_⟩
      .rw[Ow _ (by omega) (by omega)];omega
      .rw[Ow _ (by omega) (by omega)];omega
     .have:=hO.ok x tW;exact⟨by omega,this.2⟩
    .refine js.2 ⟨λx tW=>?_,hO.pw⟩;have:=(hO.ok x tW).1;omega
    .have:=hO.len;rw[if_neg (by omega)]at this;rw[if_pos hA,jk];omega
   .obtain⟨O,e,hO⟩:=Hu hl hb hS gI hm da hN cW n (j+1) N[j] out (by omega) (by omega) (by omega) sE gN yX rn;rw[al hB,j6,aJ];rw[show ((j+1:Nat):Int)=(j:Int)+1 by omega]at e;refine⟨O,e,λx tW=>?_,hO.pw,?_,?_⟩
    .have:=hO.ok x tW;exact⟨by omega,this.2⟩
    .rcases hO.all with h|h|h
     .exact .inl h
     .omega
     .refine .inr (.inr λt h1 h2=>?_);by_cases ht:t<=N[j]
      .have g:=mL;have e0:N[j]<=N[j]:=kg _;rcases g with g|g|g
       .have g1:=g t h1 ht;have g2:=g N[j] (by omega) e0;omega
       .have g1:=g t h1 ht;omega
       .have g1:=g t h1 ht;omega
      .exact h t (by omega) h2
    .have:=hO.len;rw[if_pos hA];split at this<;>omega
  .obtain⟨O,e,hO⟩:=Hu hl hb hS gI hm da hN cW n (j+1) N[j] out (by omega) (by omega) (by omega) sE gN yX rn;rw[al hA,j6,j6,aJ];rw[show ((j+1:Nat):Int)=(j:Int)+1 by omega]at e;refine⟨O,e,λx tW=>?_,hO.pw,.inr (.inl (by omega)),?_⟩
   .have:=hO.ok x tW;exact⟨by omega,this.2⟩
   .have:=hO.len;rw[if_neg hA];split at this<;>omega
theorem jxw{l:SL}(hl:l.length<=100000)(hb:∀s∈l,0<=s.1/\s.2<=8589934592){p:Int}(hS:bK p l){m a b:Int}(gI:0<=m)(hm:m<=604800)(ha:0<=a)(bR:a<b)(da:b<=8589934592) :
  ∃O,j8c l m a b=some O/\Ov l m a b (4*l.length+1) O:=by
 have ow:Sml l:=λs hs=>by
  have h1:=hb s hs;have h2:=(hS.mem s hs).2;omega
 have e1:=Xg (s0:=l) (m:=m) (f:=a) (t:=b) (by omega) ow l.length 0 [] (by omega) (by simp);rw[jv,jl]at e1;have uE:=Xe l;obtain⟨C,e2,hC,lC,mC⟩:=Wp (l:=ov l) (by omega) (f:=a) (t:=b)
 have Bz:(C++[b]).Pairwise (· < ·):=qh.2 ⟨hC,by simp,λx hx y hy=>by
  rw[ke.1 hy];exact((mC x).1 hx).2.2⟩
 obtain⟨O,e3,hO⟩:=Hu (by omega) hb hS gI hm da (N:=C++[b]) (by simp;omega) (λh=>by simp) (C++[b]).length 0 a [] (by omega) (by simp) ha (λh=>by simp at h) (λx hx=>by
  rw[jv]at hx;rcases jn.1 hx with hx|hx
  .have:=(mC x).1 hx;omega
  .rw[ke.1 hx];omega) (by rw[jv];exact Bz) (λx hx h1 h2=>by
  rw[jv];exact jn.2 (.inl ((mC x).2 ⟨hx,h1,h2⟩)))
 refine⟨O,?_,hO.ok,hO.pw,hO.all,?_⟩
 .simp only[j8c,show Int.ofNat (List.length l)=(l.length:Int) from rfl];rw[show yu l m a b l (l.length:Int) 0 []=_ from e1];simp only[j3];rw[e2];simp only[j3,show Int.ofNat (List.length (C++[b]))=((C++[b]).length:Int) from rfl];rw[show yw l m a ((C++[b]).length:Int) 0 [] (C++[b])=_ from e3];rfl
 .have:=hO.len;simp only[ja,jk,kq]at this;split at this<;>split<;>omega
def rq(oY:Int):Int->SL->List Int
 |_,[]=>[]
 |p,s::r=>if s.1-p<oY then s.1::rq oY s.2 r else rq oY s.2 r
theorem Xh(oY:Int):∀(l:SL)(p:Int),(rq oY p l).length<=l.length
 |[],_=>by simp[rq]
 |s::r,p=>by
  have:=Xh oY r s.2;simp only[rq];split<;>simp only[jk]<;>omega
theorem Ox{l:SL}(hl:l.length<=1000000)(hb:Sml l){k:Int}:∀(n i:Nat)(acc:List Int),i+1+n=l.length->acc.length<=i->∀(h:i<l.length),
  AX l k ((i:Int)+1) acc=some (acc++rq k l[i].2 (l.drop (i+1)))
 |0,i,acc,hi,_,h=>by
  rw[Ku];simp only[j4d,show Int.ofNat (List.length l)=(l.length:Int) from rfl];rw[al (by omega),j6,aW,jf (by omega)];simp[rq]
 |n+1,i,acc,hi,ha,h=>by
  have aq:i+1<l.length:=by omega
  have h9:l.getD i ((0:Int),(0:Int))=l[i]:=by simp[List.getD,h]
  have sD:l.getD (i+1) ((0:Int),(0:Int))=l[i+1]:=by simp[List.getD,aq]
  have b0:=hb _ (jh h);have b1:=hb _ (jh aq);rw[Ku,jc aq];simp only[j4d,rq,show Int.ofNat (List.length l)=(l.length:Int) from rfl];rw[aj (show (i:Int)+1<(l.length:Int) by omega),aX (show (0:Int)<=(i:Int)+1 by omega) (by omega),ai (x:=(i:Int)+1-1) (by omega) (by omega),show (i:Int)+1-1=(i:Int) by omega,aX (show (0:Int)<=(i:Int) by omega) (by omega)];simp only[j5,j7,show ((i:Int)+1).toNat=i+1 by omega,h9,sD];rw[ai (x:=l[i+1].1-l[i].2) (by omega) (by omega),ai (x:=(i:Int)+1+1) (by omega) (by omega)];by_cases hq:l[i+1].1-l[i].2<k
  .have ih:=Ox hl hb (k:=k) n (i+1) (acc++[l[i+1].1]) (by omega) (by simp;omega) aq;rw[show ((i+1:Nat):Int)+1=(i:Int)+1+1 by omega]at ih;rw[aj hq,if_pos hq,j5,aj (by simp[aR];omega),j5,aJ,ih];simp
  .have ih:=Ox hl hb (k:=k) n (i+1) acc (by omega) (by omega) aq;rw[show ((i+1:Nat):Int)+1=(i:Int)+1+1 by omega]at ih;rw[al hq,if_neg hq,j6,aJ,ih]
def ox(k:Int):SL->List Int
 |[]=>[]
 |s::r=>rq k s.2 r
theorem jxx{l:SL}(hl:l.length<=1000000)(hb:Sml l)(k:Int):j7a l k=some (ox k l):=by
 simp only[j7a];cases l with
 |nil=>rw[Ku];simp only[j4d,show Int.ofNat (List.length ([]:SL))=(0:Int) from rfl];rw[al (by omega),j6,aW];rfl
 |cons s r=>have:=Ox hl hb (k:=k) r.length 0 [] (by simp;omega) (by simp) (by simp);rw[show ((0:Nat):Int)+1=1 by omega]at this;rw[this];rfl
theorem Xi{l:SL}(hl:l.length<=1000000):∀(n i:Nat)(acc:List Int),i+n=l.length->acc.length<=i->
  yx l (l.length:Int) (i:Int) acc=some (acc++(l.drop i).map (·.1))
 |0,i,acc,hi,_=>by
  rw[Te];simp only[j4K];rw[al (by omega),j6,aW,jf (by omega)];simp
 |n+1,i,acc,hi,ha=>by
  have aq:i<l.length:=by omega
  have bh:l.getD i ((0:Int),(0:Int))=l[i]:=by simp[List.getD,aq]
  have ih:=Xi hl n (i+1) (acc++[l[i].1]) (by omega) (by simp;omega);rw[Te,jc aq];simp only[j4K];rw[aj (show (i:Int)<(l.length:Int) by omega),aX (by omega) (by omega)];simp only[j5,j7,bh];rw[aj (by simp[aR];omega),ai (x:=(i:Int)+1) (by omega) (by omega)];simp only[j5,aJ];rw[show ((i+1:Nat):Int)=(i:Int)+1 by omega]at ih;rw[ih];simp only[kr,jd,List.singleton_append]
theorem jwh{l:SL}(hl:l.length<=1000000):j4B l=some (l.map (·.1)):=by
 have:=Xi hl l.length 0 [] (by omega) (by simp);rw[jv,jl]at this;simp only[j4B,show Int.ofNat (List.length l)=(l.length:Int) from rfl];rw[show yx l (l.length:Int) 0 []=_ from this];rfl
section
variable{zs:List bY}{ps:List dB}{cs:List bf}(hs:eX zs ps cs)
include hs
def onD(zs:List bY)(cs:List bf)(ss:List cA)(p x:Int):Prop:=∃s∈ss,dU zs cs s x=p
theorem jwi{ss:List cA}(hc:tP (zs,(ps,(cs,ss)))){p:Nat}(hp:p<ps.length){a b:Int}(ha:0<=a)(bR:a<=b)(hb:b<=8589934592)(hlen:b-a<=34560000) :
  j6v (zs,(ps,(cs,ss))) (p:Int) a b=some (((zs,(ps,(cs,ss))),zs.map tb),0):=by
 simp only[j6v,Nz hs.so.ok hc,j3,jq,j6,show Int.ofNat ps.length=(ps.length:Int) from rfl,jb4];rw[al (show¬(p:Int)<0 by omega),al (show¬(p:Int)>=(ps.length:Int) by omega),ai (x:=b-a) (by omega) (by omega),aj (show a>=0 by omega),aj (show a<=8589934592 by omega),aj (show b>=a by omega),aj (show b<=8589934592 by omega),aj (show b-a<=34560000 by omega)];rfl
end
theorem Xj(x y:ej):(x.1==y.1&&(x.2.1==y.2.1&&x.2.2==y.2.2))=decide (x=y):=by
 obtain⟨a,b,c⟩:=x;obtain⟨d,e,f⟩:=y;rw[Bool.eq_iff_iff];simp only[jb,z6,jo,j8]
def fk(x y:ej):Prop:=x.2.2<y.2.2\/x.2.2=y.2.2/\(x.1<y.1\/x.1=y.1/\x.2.1<y.2.1)
instance(x y:ej):Decidable (fk x y):=by unfold fk;infer_instance
def BA(x y:ej):Prop:=x.2.2<y.2.2\/x.2.2=y.2.2/\(x.1<y.1\/x.1=y.1/\x.2.1<=y.2.1)
theorem Xk{x y:ej}(h:BA x y)(hn:y≠x):fk x y:=by
 obtain⟨a,b,c⟩:=x;obtain⟨d,e,f⟩:=y;unfold BA at h;unfold fk;have:¬(a=d/\b=e/\c=f):=λh=>hn (by rw[h.1,h.2.1,h.2.2]);dsimp only at h ⊢;omega
def lh:ej->aS->aS
 |_,[]=>[]
 |p,x::r=>if x=p then lh p r else x::lh x r
theorem Oy:∀(l:aS)(p:ej),∀x,x∈p::lh p l↔x∈p::l
 |[],_,_=>Iff.rfl
 |y::r,p,x=>by
  unfold lh;split
  .rename_i h;subst h;rw[Oy r y x];simp
  .have:=Oy r y x;rw[je,this,je,je,je]
theorem Oz:∀(l:aS)(p:ej),(p::l).Pairwise BA->(p::lh p l).Pairwise fk
 |[],_,_=>by simp[lh]
 |y::r,p,h=>by
  have h1:=js.1 h;unfold lh;split
  .rename_i h;subst h;exact Oz r y h1.2
  .rename_i ba;have ih:=Oz r y h1.2;refine js.2 ⟨λz hz=>?_,ih⟩;have hy:=Xk (h1.1 y (by simp)) ba;rcases je.1 hz with rfl|hz
   .exact hy
   .have:=(js.1 ih).1 z hz;unfold fk at this hy ⊢;omega
theorem OA{l:aS}(hl:l.length<=1000000){k0:Nat}:∀(n s k:Nat)(b:aS),k0+s+n=l.length->1<=s->k<=k0+s-1->b.length=l.length->b.drop k=l.drop k->
  ∃(m:Nat)(b':aS),yy (k:Int) (k0:Int) (s:Int) b=some ((m:Int),b')/\b'.length=l.length/\m<=l.length/\b'.take m=b.take k++lh (l.getD (k0+s-1) ((0:Int),((0:Int),(0:Int)))) (l.drop (k0+s))
 |0,s,k,b,hn,hs,hk,hb,hd=>by
  rw[Tf];simp only[j0J,j7,show Int.ofNat (b.length-k0)=((b.length-k0:Nat):Int) from rfl];rw[al (by omega),j6,aW,jf (by omega)];exact⟨k,b,rfl,hb,by omega,by simp[lh]⟩
 |n+1,s,k,b,hn,hs,hk,hb,hd=>by
  have aq:k0+s<l.length:=by omega
  have re:∀j,k<=j->b[j]? = l[j]? := λj hj=>by
   have h:=ji (λx=>x[j-k]?) hd;simpa[List.getElem?_drop,show k+(j-k)=j by omega]using h
  have g1:b.getD (k0+s) ((0:Int),((0:Int),(0:Int)))=l[k0+s]:=by rw[List.getD_eq_getElem?_getD,re _ (by omega),jj aq];rfl
  have g2:b.getD (k0+(s-1)) ((0:Int),((0:Int),(0:Int)))=l.getD (k0+s-1) ((0:Int),((0:Int),(0:Int))):=by rw[List.getD_eq_getElem?_getD,re _ (by omega),show k0+(s-1)=k0+s-1 by omega,List.getD_eq_getElem?_getD]
  have e1:l.getD (k0+(s+1)-1) ((0:Int),((0:Int),(0:Int)))=l[k0+s]:=by rw[show k0+(s+1)-1=k0+s by omega];simp[aq]
  rw[Tf];simp only[j0J,j7,show Int.ofNat (b.length-k0)=((b.length-k0:Nat):Int) from rfl,show Int.ofNat k0=(k0:Int) from rfl];rw[aj (show (s:Int)<((b.length-k0:Nat):Int) by omega),aX (show (0:Int)<=(s:Int) by omega) (by omega),ai (x:=(s:Int)-1) (by omega) (by omega),aX (show (0:Int)<=(s:Int)-1 by omega) (by omega),aX (show (0:Int)<=(k:Int) by omega) (by omega),ai (x:=(k:Int)+1) (by omega) (by omega),ai (x:=(s:Int)+1) (by omega) (by omega),show ((s:Int)-1).toNat=s-1 by omega,jc aq];simp only[j5,g1,g2,lh,Xj];by_cases hc:l[k0+s]=l.getD (k0+s-1) ((0:Int),((0:Int),(0:Int)))
  .rw[aj hc,if_pos hc,jq,j6,aJ];have ih:=OA hl (k0:=k0) n (s+1) k b (by omega) (by omega) (by omega) hb hd;rw[e1,hc,show k0+(s+1)=k0+s+1 by omega]at ih;exact ih
  .rw[al hc,if_neg hc,k7,j5,aJ]
   have ih:=OA hl (k0:=k0) n (s+1) (k+1) (b.set k l[k0+s]) (by omega) (by omega) (by omega) (by simpa using hb) (by
    rw[List.drop_set_of_lt (by omega)];have:=ji (List.drop 1) hd;simpa[List.drop_drop]using this)
   rw[e1,show k0+(s+1)=k0+s+1 by omega]at ih;obtain⟨m,b',r1,r2,r3,r4⟩:=ih;refine⟨m,b',r1,r2,r3,?_⟩;have Bj:k<b.length:=by omega
   rw[r4,ko,List.take_set_of_le (jg _),vq Bj];simp
def oy:aS->aS
 |[]=>[]
 |a::r=>a::lh a r
theorem Xl{l:aS}(hl:l.length<=1000000):∀(n k:Nat),k+n=l.length->1<=k->oy l=l.take k++lh (l.getD (k-1) ((0:Int),((0:Int),(0:Int)))) (l.drop k)->
  (∃(m:Nat)(b:aS),tI (k:Int) l=some (.inl ((m:Int),b))/\b.take m=oy l)\/(tI (k:Int) l=some (.inr l)/\oy l=l)
 |0,k,hn,hk,hT=>by
  rw[Tg];simp only[j0d,show Int.ofNat l.length=(l.length:Int) from rfl];rw[al (by omega),j6,aW];rw[List.take_of_length_le (by omega),jf (by omega)]at hT;exact .inr ⟨rfl,by simpa[lh]using hT⟩
 |n+1,k,hn,hk,hT=>by
  have aq:k<l.length:=by omega
  have g1:l.getD k ((0:Int),((0:Int),(0:Int)))=l[k]:=by simp[aq]
  rw[jc aq]at hT;simp only[lh]at hT;rw[Tg];simp only[j0d,show Int.ofNat l.length=(l.length:Int) from rfl];rw[aj (show (k:Int)<(l.length:Int) by omega),aX (show (0:Int)<=(k:Int) by omega) (by omega),ai (x:=(k:Int)-1) (by omega) (by omega),aX (show (0:Int)<=(k:Int)-1 by omega) (by omega),ai (x:=(k:Int)+1) (by omega) (by omega),show ((k:Int)-1).toNat=k-1 by omega,aj (show (0:Int)<=(k:Int) by omega),aj (show (k:Int)<=(l.length:Int) by omega)];simp only[j5,j7,g1,vi,show Int.ofNat k=(k:Int) from rfl,Xj];by_cases hc:l[k]=l.getD (k-1) ((0:Int),((0:Int),(0:Int)))
  .rw[if_pos hc]at hT;obtain⟨m,b,r1,r2,r3,r4⟩:=OA hl (k0:=k) n 1 k l (by omega) (by omega) (by omega) rfl rfl;rw[show k+1-1=k by omega,g1,hc,<-hT]at r4;rw[aj hc,j5,show yy (k:Int) (k:Int) 1 l=_ from r1];simp only[j3,j7,show Int.ofNat b.length=(b.length:Int) from rfl];rw[aj (show (0:Int)<=(m:Int) by omega),aj (show (m:Int)<=(b.length:Int) by omega)];simp only[vi,j5,Bool.true_and];rw[aj (by simp;omega),j5,aW];refine .inl ⟨m,_,rfl,?_⟩;rw[zf (by simp;omega),v6,Nat.min_self,r4]
  .rw[if_neg hc]at hT;rw[al hc,j6,aJ];refine Xl hl n (k+1) (by omega) (by omega) ?_;have mo:l.take (k+1)=l.take k++[l[k]]:=by rw[ko,jj aq];rfl
   rw[hT,mo,show k+1-1=k by omega,g1,jd];rfl
theorem js3{l:aS}(hl:l.length<=1000000):∃n m,j05 l=some (n,m)/\m.take n.toNat=oy l:=by
 simp only[j05,show Int.ofNat l.length=(l.length:Int) from rfl];by_cases h2:l.length<2
 .rw[aj (by omega),j5];refine⟨_,_,rfl,?_⟩;rw[j7,List.take_of_length_le (jg _)];match l,h2 with
  |[],_=>rfl
  |[a],_=>rfl
  |_::_::_,h2=>simp at h2;omega
 .rw[al (by omega),j6]
  have hT:oy l=l.take 1++lh (l.getD (1-1) ((0:Int),((0:Int),(0:Int)))) (l.drop 1):=by
   match l,h2 with
   |[],h2=>simp at h2
   |a::r,_=>rfl
  rcases Xl hl (l.length-1) 1 (by omega) (by omega) hT with⟨m,b,e,h⟩|⟨e,h⟩
  .rw[show tI 1 l=_ from e];refine⟨_,_,rfl,?_⟩;simpa using h
  .rw[show tI 1 l=_ from e];refine⟨_,_,rfl,?_⟩;rw[h];simp
theorem jzD{l:aS}(x:ej):x∈oy l↔x∈l:=by
 cases l with
 |nil=>exact Iff.rfl
 |cons a r=>exact Oy r a x
theorem jzE{l:aS}(h:l.Pairwise BA):(oy l).Pairwise fk:=by
 cases l with
 |nil=>exact .nil
 |cons a r=>exact Oz r a h
theorem OB:∀(l:aS)(p:ej),(lh p l).length<=l.length
 |[],_=>jg _
 |y::r,p=>by
  unfold lh;split
  .have:=OB r p;simp;omega
  .have:=OB r y;simp;omega
theorem jzF(l:aS):(oy l).length<=l.length:=by
 cases l with
 |nil=>exact jg _
 |cons a r=>have:=OB r a;simp[oy];omega
theorem jB5(x y:ej):(j5x x y).getD 0=cond (x.2.2 != y.2.2) (w64 (x.2.2-y.2.2)) (cond (x.1 != y.1) (w64 (x.1-y.1)) (w64 (x.2.1-y.2.1))):=by
 unfold j5x;cases (x.2.2 != y.2.2)
 .cases (x.1 != y.1)
  .rfl
  .rfl
 .rfl
def oz(x:ej):Prop:=(-1000000000000<=x.1/\x.1<=1000000000000)/\(-1000000000000<=x.2.1/\x.2.1<=1000000000000)/\(-1000000000000<=x.2.2/\x.2.2<=1000000000000)
theorem Xm{x y:ej}(hx:(-1152921504606846976<=x.1/\x.1<=1152921504606846976)/\(-1152921504606846976<=x.2.1/\x.2.1<=1152921504606846976)/\(-1152921504606846976<=x.2.2/\x.2.2<=1152921504606846976))
  (hy:(-1152921504606846976<=y.1/\y.1<=1152921504606846976)/\(-1152921504606846976<=y.2.1/\y.2.1<=1152921504606846976)/\(-1152921504606846976<=y.2.2/\y.2.2<=1152921504606846976)):(j5x x y).getD 0<0↔fk x y:=by
 rw[jB5];unfold fk;by_cases q1:x.2.2=y.2.2
 .rw[show (x.2.2 != y.2.2)=false by simp[q1],j6];by_cases q2:x.1=y.1
  .rw[show (x.1 != y.1)=false by simp[q2],j6,ai (by omega) (by omega)];omega
  .rw[show (x.1 != y.1)=true by simp[q2],j5,ai (by omega) (by omega)];omega
 .rw[show (x.2.2 != y.2.2)=true by simp[q1],j5,ai (by omega) (by omega)];omega
theorem jxy:Go.Sort.SWO (Go.Proofs.ltOf λ(x y:Go.Lft.Sml (.pair (.int .i64) (.pair (.int .i64) (.int .i64))))=>(j5x x.1 y.1).getD 0):=by
 have key:∀x:Go.Lft.Sml (.pair (.int .i64) (.pair (.int .i64) (.int .i64))),(-1152921504606846976<=(x.1.1:Int)/\(x.1.1:Int)<=1152921504606846976)/\(-1152921504606846976<=(x.1.2.1:Int)/\(x.1.2.1:Int)<=1152921504606846976)/\(-1152921504606846976<=(x.1.2.2:Int)/\(x.1.2.2:Int)<=1152921504606846976):=λx=>by
  have:=x.2;simp only[fK,jb,jo]at this;exact this
 have e:∀x y:Go.Lft.Sml (.pair (.int .i64) (.pair (.int .i64) (.int .i64))),Go.Proofs.ltOf (λ(x y:Go.Lft.Sml (.pair (.int .i64) (.pair (.int .i64) (.int .i64))))=>(j5x x.1 y.1).getD 0) x y=decide (fk x.1 y.1):=λx y=>by
  unfold Go.Proofs.ltOf;exact decide_eq_decide.2 (Xm (key x) (key y))
 refine⟨λx=>?_,λx y z=>?_,λx y z=>?_⟩
 .rw[e];simp only[fk];exact decide_eq_false (by omega)
 .rw[e,e,e];exactλh1 h2=>v7 (by have h1:=q8 h1;have h2:=q8 h2;unfold fk at *;omega)
 .rw[e,e,e];exactλh1 h2=>decide_eq_false (by have h1:=of_decide_eq_false h1;have h2:=of_decide_eq_false h2;unfold fk at *;omega)
theorem Xn{l:aS}(hl:l.length<=1000000000)(hb:∀x∈l,oz x):∃L,j03 l=some L/\L.Perm l/\L.Pairwise BA:=by
 obtain⟨L,e,hp,hs⟩:=Kd (a:= .pair (.int .i64) (.pair (.int .i64) (.int .i64))) (cf:=λx y=>(j5x x y).getD 0) jxy (xs:=l) (λx hx=>by
  have:=hb x hx;unfold oz at this;simp only[fK,jb,jo];refine⟨⟨?_,?_⟩,⟨?_,?_⟩,⟨?_,?_⟩⟩
  .exact q9 (by decide) this.1.1
  .exact q9 this.1.2 (by decide)
  .exact q9 (by decide) this.2.1.1
  .exact q9 this.2.1.2 (by decide)
  .exact q9 (by decide) this.2.2.1
  .exact q9 this.2.2.2 (by decide)) (by show List.length l<_;omega)
 refine⟨L,e,hp,hs.imp_of_mem λ{x y} hx hy h=>?_⟩;have h1:=hb x (hp.mem_iff.1 hx);have h2:=hb y (hp.mem_iff.1 hy);unfold oz at h1 h2;have:¬fk y x:=λq=>h ((Xm (x:=y) (y:=x) (by omega) (by omega)).2 q);unfold fk at this;unfold BA;omega
theorem Xo:jb7=some true:=jp4 60 true (by kernel_rfl)
end Go.Proofs.Pw
