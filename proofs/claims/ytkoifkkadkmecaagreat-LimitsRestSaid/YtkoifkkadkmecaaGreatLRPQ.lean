/- uA.weeks, uA.rests, uA.begins. -/
import Derived.Test.YtkoifkkadkmecaaGreatLRPP
import Derived.Test.YtkoifkkadkmecaaGreatLRPG
import Derived.Test.YtkoifkkadkmecaaGreatLRPM
import Derived.Test.YtkoifkkadkmecaaGreatLRPH
import Derived.Test.YtkoifkkadkmecaaGreatLRFns
import Derived.Test.YtkoifkkadkmecaaGreatLRLD
import Derived.KernelRfl
import Derived.Test.YtkoifkkadkmecaaGreatLRPL
open _root_ renaming Int->o,List->H,Nat->U
open Int renaming ofNat->G,toNat->Ã
open List renaming length->I,getD_eq_getElem?_getD->K,getD_cons_zero->R,getD->S,getD_cons_succ->X,take_of_length_le->Y,take->Â
open Option renaming some->J
open Go.Proofs renaming ltOf->Z
open Go Go.Lft
namespace Go.Proofs.Pw
structure TR(l:SL)(m a b:o)(n:U)(O:H o):Prop where
 ok:∀e∈O,a<e/\e<=b/\fg e l=m+1/\fg (e-1) l=m
 pw:O.Pairwise (· < ·)
 all:O≠[]\/m<fg a l\/∀t,a<=t->t<=b->fg t l<=m
 len:2*O.length<=n+(if fg a l<=m then 1 else 0)
theorem Lt{l:SL}(hl:l.length<=1000000)(hb:∀s∈l,0<=s.1/\s.2<=8589934592){p:o}(hS:bB p l){m b:o}(gF:0<=m)(hm:m<=604800)(dR:b<=8589934592){N:H o}(hN:N.length<=1000000)(cG:∀(h:N≠[]),N.getLast h=b) :
  ∀(n j:U)(a:o)(out:H o),j+n=N.length->out.length<=j->0<=a->(n=0->a=b)->(∀x∈N.drop j,a<x/\x<=b)->(N.drop j).Pairwise (· < ·)->(∀x∈rF l,a<x->x<b->x∈N.drop j)->
  ∃O,FH l m a (N.length:o) (j:o) out N=J (out++O)/\TR l m a b n O
 |0,j,a,out,hj,_,_,bt,_,_,_=>by
  refine⟨[],?_,⟨smp_,smp_,?_,smp_⟩⟩
  .rw[YC];simp only[j4R];rw[ai omg_,j7,aP,kc]
  .have:=bt rfl;by_cases h:m<fg a l
   .exact .inr (.inl h)
   .exact .inr (.inr λt h1 h2=>by rw[show t=a by omega];omega)
 |n+1,j,a,out,hj,xW,wB,_,hx,uB,BF=>by
  have mw:j<N.length:=omg_;have aT:N.getD j (0:o)=N[j]:=by simp[S,mw]
  rw[jb mw]at hx uB BF;have rW:=hx N[j] zd
  have rG:Sml l:=λs hs=>by
   have h1:=hb s hs;have h2:=(hS.mem s hs).2;omega
  have hNB:TQ l a N[j]:=by
   have key:∀x∈rF l,¬(a<x/\x<N[j]):=λx TS h=>by
    have hm:=BF x TS h.1 omg_;rcases je.1 hm with e|hm
    .omega
    .have:=(jt.1 uB).1 x hm;omega
   intro s hs;have k:=λx h=>key x (ě.2 ⟨s,hs,h⟩);exact⟨⟨k _ (.inl rfl),k _ (.inr (.inl rfl))⟩,k _ (.inr (.inr (.inl rfl))),k _ (.inr (.inr (.inr rfl)))⟩
  have pt:=jFl hS (vi rW.1) hNB;have wa:=ę hl (t:=a) omg_ omg_ rG hS;have wb:=ę hl (t:=N[j]) omg_ omg_ rG hS;have la:=Ls (t:=a) hS;have na:=Lr (t:=a) (l:=l);have lb:=Ls (t:=N[j]) hS;have nb:=Lr (t:=N[j]) (l:=l)
  have oh:n=0->N[j]=b:=λh=>by
   have bz:N≠[]:=λe=>by rw[e]at mw;simp at mw
   rw[<-cG bz,List.getLast_eq_getElem];congr 1;omega
  have BG:=(jt.1 uB).2;have iD:∀x∈N.drop (j+1),N[j]<x/\x<=b:=λx h=>⟨(jt.1 uB).1 x h,(hx x (qx _ h)).2⟩
  have uC:∀x∈rF l,N[j]<x->x<b->x∈N.drop (j+1):=λx h h1 h2=>by
   rcases je.1 (BF x h omg_ h2) with e|e
   .omega
   .exact e
  rw[YC];simp only[j4R];rw[ah (show (j:o)<(N.length:o) by omega),bJ];simp only[j6,j8,aT,wa,wb,j4];rw[aj (x:=(j:o)+1)];by_cases hA:fg a l<=m
  .rw[ah hA,j6];by_cases hB:fg N[j] l>m
   .obtain⟨O,e,hO⟩:=Lt hl hb hS gF hm dR hN cG n (j+1) N[j] (out++[a+m-fg a l+1]) omg_ sqo_ omg_ oh iD BG uC;rw[ah hB,j6,aj (x:=a+m),aj (x:=a+m-fg a l),aj (x:=a+m-fg a l+1),ah (by simp[aG];omega),j6,aB];rw[show ((j+1:U):o)=(j:o)+1 by omega]at e
    have TT:∀t,a<=t->t<=N[j]->fg t l=fg a l+(t-a):=by
     have e0:N[j]<=N[j]:=jy _;rcases pt with h|h|h
     .exact h
     .have:=h N[j] omg_ e0;omega
     .have:=h N[j] omg_ e0;omega
    have hbN:=TT N[j] omg_ (jy _);refine⟨(a+m-fg a l+1)::O,by rw[e];simp,?_,?_,.inl smp_,?_⟩
    .intro x xc;rcases je.1 xc with rfl|xc
     .refine⟨omg_,omg_,?_,?_⟩
      .rw[TT _ omg_ omg_];omega
      .rw[TT _ omg_ omg_];omega
     .have:=hO.ok x xc;exact⟨omg_,this.2⟩
    .refine jt.2 ⟨λx xc=>?_,hO.pw⟩;have:=(hO.ok x xc).1;omega
    .have:=hO.len;rw[if_neg omg_]at this;rw[if_pos hA,ji];omega
   .obtain⟨O,e,hO⟩:=Lt hl hb hS gF hm dR hN cG n (j+1) N[j] out omg_ omg_ omg_ oh iD BG uC;rw[ai hB,j7,aB];rw[show ((j+1:U):o)=(j:o)+1 by omega]at e;refine⟨O,e,λx xc=>?_,hO.pw,?_,?_⟩
    .have:=hO.ok x xc;exact⟨omg_,this.2⟩
    .rcases hO.all with h|h|h
     .exact .inl h
     .omega
     .refine .inr (.inr λt h1 h2=>?_);by_cases ht:t<=N[j]
      .have g:=pt;have e0:N[j]<=N[j]:=jy _;rcases g with g|g|g
       .have g1:=g t h1 ht;have g2:=g N[j] omg_ e0;omega
       .have g1:=g t h1 ht;omega
       .have g1:=g t h1 ht;omega
      .exact h t omg_ h2
    .have:=hO.len;rw[if_pos hA];split at this<;>omega
  .obtain⟨O,e,hO⟩:=Lt hl hb hS gF hm dR hN cG n (j+1) N[j] out omg_ omg_ omg_ oh iD BG uC;rw[ai hA,j7,j7,aB];rw[show ((j+1:U):o)=(j:o)+1 by omega]at e;refine⟨O,e,λx xc=>?_,hO.pw,.inr (.inl omg_),?_⟩
   .have:=hO.ok x xc;exact⟨omg_,this.2⟩
   .have:=hO.len;rw[if_neg hA];split at this<;>omega
theorem jCI{l:SL}(hl:l.length<=100000)(hb:∀s∈l,0<=s.1/\s.2<=8589934592){p:o}(hS:bB p l){m a b:o}(gF:0<=m)(hm:m<=604800)(ha:0<=a)(bt:a<b)(dR:b<=8589934592) :
  ∃O,jfd l m a b=J O/\TR l m a b (4*l.length+1) O:=by
 have rG:Sml l:=λs hs=>by
  have h1:=hb s hs;have h2:=(hS.mem s hs).2;omega
 have e1:=Ĝ (s0:=l) (m:=m) (f:=a) (t:=b) omg_ rG l.length 0 [] omg_ smp_;rw[jr,jp]at e1;have rZ:=Ě l;obtain⟨C,e2,hC,lC,mC⟩:=ϭ (l:=rF l) omg_ (f:=a) (t:=b)
 have uB:(C++[b]).Pairwise (· < ·):=qh.2 ⟨hC,smp_,λx hx y hy=>by
  rw[kr.1 hy];exact((mC x).1 hx).2.2⟩
 obtain⟨O,e3,hO⟩:=Lt omg_ hb hS gF hm dR (N:=C++[b]) sqo_ (λh=>smp_) (C++[b]).length 0 a [] omg_ smp_ ha (λh=>by simp at h) (λx hx=>by
  rw[jr]at hx;rcases jj.1 hx with hx|hx
  .have:=(mC x).1 hx;omega
  .rw[kr.1 hx];omega) (by rw[jr];exact uB) (λx hx h1 h2=>by
  rw[jr];exact jj.2 (.inl ((mC x).2 ⟨hx,h1,h2⟩)))
 refine⟨O,?_,hO.ok,hO.pw,hO.all,?_⟩
 .simp only[jfd,show G (I l)=(l.length:o) from rfl];rw[show FG l m a b l (l.length:o) 0 []=_ from e1];simp only[j4];rw[e2];simp only[j4,show G (I (C++[b]))=((C++[b]).length:o) from rfl];rw[show FH l m a ((C++[b]).length:o) 0 [] (C++[b])=_ from e3];rfl
 .have:=hO.len;simp only[jc,ji,jw]at this;split at this<;>split<;>omega
def iM(qZ:o):o->SL->H o
 |_,[]=>[]
 |p,s::r=>if s.1-p<qZ then s.1::iM qZ s.2 r else iM qZ s.2 r
theorem ĝ(qZ:o):∀(l:SL)(p:o),(iM qZ p l).length<=l.length
 |[],_=>by simp[iM]
 |s::r,p=>by
  have:=ĝ qZ r s.2;simp only[iM];split<;>simp only[ji]<;>omega
theorem TU{l:SL}(hl:l.length<=1000000)(hb:Sml l){k:o}:∀(n i:U)(acc:H o),i+1+n=l.length->acc.length<=i->∀(h:i<l.length),
  JC l k ((i:o)+1) acc=J (acc++iM k l[i].2 (l.drop (i+1)))
 |0,i,acc,hi,_,h=>by
  rw[OJ];simp only[j3x,show G (I l)=(l.length:o) from rfl];rw[ai omg_,j7,aP,jd omg_];simp[iM]
 |n+1,i,acc,hi,ha,h=>by
  have aq:i+1<l.length:=omg_;have kP:l.getD i ((0:o),(0:o))=l[i]:=by simp[S,h]
  have vN:l.getD (i+1) ((0:o),(0:o))=l[i+1]:=by simp[S,aq]
  have b0:=hb _ (jf h);have b1:=hb _ (jf aq);rw[OJ,jb aq];simp only[j3x,iM,show G (I l)=(l.length:o) from rfl];rw[ah (show (i:o)+1<(l.length:o) by omega),bA (show (0:o)<=(i:o)+1 by omega) omg_,aj (x:=(i:o)+1-1),show (i:o)+1-1=(i:o) by omega,bA (show (0:o)<=(i:o) by omega) omg_];simp only[j6,j8,show ((i:o)+1).toNat=i+1 by omega,kP,vN];rw[aj (x:=l[i+1].1-l[i].2),aj (x:=(i:o)+1+1)];by_cases hq:l[i+1].1-l[i].2<k
  .have ih:=TU hl hb (k:=k) n (i+1) (acc++[l[i+1].1]) omg_ sqo_ aq;rw[show ((i+1:U):o)+1=(i:o)+1+1 by omega]at ih;rw[ah hq,if_pos hq,j6,ah (by simp[aG];omega),j6,aB,ih];simp
  .have ih:=TU hl hb (k:=k) n (i+1) acc omg_ omg_ aq;rw[show ((i+1:U):o)+1=(i:o)+1+1 by omega]at ih;rw[ai hq,if_neg hq,j7,aB,ih]
def pD(k:o):SL->H o
 |[]=>[]
 |s::r=>iM k s.2 r
theorem jCJ{l:SL}(hl:l.length<=1000000)(hb:Sml l)(k:o):jcr l k=J (pD k l):=by
 simp only[jcr];cases l with
 |nil=>rw[OJ];simp only[j3x,show G (I ([]:SL))=(0:o) from rfl];rw[ai omg_,j7,aP];rfl
 |cons s r=>have:=TU hl hb (k:=k) r.length 0 [] sqo_ smp_ smp_;rw[show ((0:U):o)+1=1 by omega]at this;rw[this];rfl
theorem Ğ{l:SL}(hl:l.length<=1000000):∀(n i:U)(acc:H o),i+n=l.length->acc.length<=i->
  FI l (l.length:o) (i:o) acc=J (acc++(l.drop i).map (·.1))
 |0,i,acc,hi,_=>by
  rw[YD];simp only[j4d];rw[ai omg_,j7,aP,jd omg_];simp
 |n+1,i,acc,hi,ha=>by
  have aq:i<l.length:=omg_;have aT:l.getD i ((0:o),(0:o))=l[i]:=by simp[S,aq]
  have ih:=Ğ hl n (i+1) (acc++[l[i].1]) omg_ sqo_;rw[YD,jb aq];simp only[j4d];rw[ah (show (i:o)<(l.length:o) by omega),bJ];simp only[j6,j8,aT];rw[ah (by simp[aG];omega),aj (x:=(i:o)+1)];simp only[j6,aB];rw[show ((i+1:U):o)=(i:o)+1 by omega]at ih;rw[ih];simp only[qf,jh,List.singleton_append]
theorem jB9{l:SL}(hl:l.length<=1000000):j7f l=J (l.map (·.1)):=by
 have:=Ğ hl l.length 0 [] omg_ smp_;rw[jr,jp]at this;simp only[j7f,show G (I l)=(l.length:o) from rfl];rw[show FI l (l.length:o) 0 []=_ from this];rfl
section
variable{zs:H bF}{ps:H cI}{cs:H aU}(hs:cC zs ps cs)
include hs
def ğ(zs:H bF)(cs:H aU)(ss:H cu)(p x:o):Prop:=∃s∈ss,cN zs cs s x=p
theorem Ġ{ss:H cu}(hc:nT (zs,(ps,(cs,ss)))){p:U}(hp:p<ps.length){a b:o}(ha:0<=a)(bt:a<=b)(hb:b<=8589934592)(hlen:b-a<=34560000) :
  j8q (zs,(ps,(cs,ss))) (p:o) a b=J (((zs,(ps,(cs,ss))),zs.map tb),0):=by
 simp only[j8q,Z_ hs.so.ok hc,j4,jl,j7,show G ps.length=(ps.length:o) from rfl,jgc];rw[ai (show¬(p:o)<0 by omega),ai (show¬(p:o)>=(ps.length:o) by omega),aj (x:=b-a),ah (show a>=0 by omega),ah (show a<=8589934592 by omega),ah (show b>=a by omega),ah (show b<=8589934592 by omega),ah (show b-a<=34560000 by omega)];rfl
theorem jBa{ss:H cu}(hc:nT (zs,(ps,(cs,ss))))(gG:∀s∈ss,tZ zs.length ps.length cs.length s/\s.2.1.length<=3/\s.2.2.length<=6)(hl:ss.length<=3){p:U}(hp:p<ps.length){a b:o}(ha:0<=a)(bt:a<b)(hb:b<=8589934592){D:SL}
  (e:j7e ((zs,(ps,(cs,ss))),zs.map tb) (p:o) a b=J (D,0))(hlen:b-a<=1209600):j7g (zs,(ps,(cs,ss))) (p:o) a b=J (D,0):=by
 have _:=gG;have _:=hl;simp only[j7g];rw[show j8q (zs,ps,cs,ss) (p:o) a b=_ from Ġ hs hc hp ha (vi bt) hb omg_];simp only[j4,jk,j7,e]
end
theorem ġ(x y:fI):(x.1==y.1&&(x.2.1==y.2.1&&x.2.2==y.2.2))=decide (x=y):=by
 obtain⟨a,b,c⟩:=x;obtain⟨d,e,f⟩:=y;rw[vg];simp only[jg,zr,js,j9]
def kI(x y:fI):Prop:=x.2.2<y.2.2\/x.2.2=y.2.2/\(x.1<y.1\/x.1=y.1/\x.2.1<y.2.1)
instance(x y:fI):Decidable (kI x y):=by unfold kI;infer_instance
def Df(x y:fI):Prop:=x.2.2<y.2.2\/x.2.2=y.2.2/\(x.1<y.1\/x.1=y.1/\x.2.1<=y.2.1)
theorem jH4{x y:fI}(h:Df x y)(hn:y≠x):kI x y:=by
 obtain⟨a,b,c⟩:=x;obtain⟨d,e,f⟩:=y;unfold Df at h;unfold kI;have:¬(a=d/\b=e/\c=f):=λh=>hn (by rw[h.1,h.2.1,h.2.2]);dsimp only at h ⊢;omega
def oa:fI->bm->bm
 |_,[]=>[]
 |p,x::r=>if x=p then oa p r else x::oa x r
theorem TW:∀(l:bm)(p:fI),∀x,x∈p::oa p l↔x∈p::l
 |[],_,_=>Iff.rfl
 |y::r,p,x=>by
  unfold oa;split
  .rename_i h;subst h;rw[TW r y x];simp
  .have:=TW r y x;rw[je,this,je,je,je]
theorem TX:∀(l:bm)(p:fI),(p::l).Pairwise Df->(p::oa p l).Pairwise kI
 |[],_,_=>by simp[oa]
 |y::r,p,h=>by
  have h1:=jt.1 h;unfold oa;split
  .rename_i h;subst h;exact TX r y h1.2
  .rename_i bz;have ih:=TX r y h1.2;refine jt.2 ⟨λz hz=>?_,ih⟩;have hy:=jH4 (h1.1 y smp_) bz;rcases je.1 hz with rfl|hz
   .exact hy
   .have:=(jt.1 ih).1 z hz;unfold kI at this hy ⊢;omega
theorem TY{l:bm}(hl:l.length<=1000000){k0:U}:∀(n s k:U)(b:bm),k0+s+n=l.length->1<=s->k<=k0+s-1->b.length=l.length->b.drop k=l.drop k->
  ∃(m:U)(b':bm),FJ (k:o) (k0:o) (s:o) b=J ((m:o),b')/\b'.length=l.length/\m<=l.length/\b'.take m=b.take k++oa (l.getD (k0+s-1) ((0:o),((0:o),(0:o)))) (l.drop (k0+s))
 |0,s,k,b,hn,hs,hk,hb,hd=>by
  rw[YE];simp only[j0m,j8,show G (b.length-k0)=((b.length-k0:U):o) from rfl];rw[ai omg_,j7,aP,jd omg_];exact⟨k,b,rfl,hb,omg_,by simp[oa]⟩
 |n+1,s,k,b,hn,hs,hk,hb,hd=>by
  have aq:k0+s<l.length:=omg_
  have uq:∀j,k<=j->b[j]? = l[j]? := λj hj=>by
   have h:=jo (λx=>x[j-k]?) hd;simpa[List.getElem?_drop,show k+(j-k)=j by omega]using h
  have g1:b.getD (k0+s) ((0:o),((0:o),(0:o)))=l[k0+s]:=by rw[K,uq _ omg_,jm aq];rfl
  have g2:b.getD (k0+(s-1)) ((0:o),((0:o),(0:o)))=l.getD (k0+s-1) ((0:o),((0:o),(0:o))):=by rw[K,uq _ omg_,show k0+(s-1)=k0+s-1 by omega,K]
  have e1:l.getD (k0+(s+1)-1) ((0:o),((0:o),(0:o)))=l[k0+s]:=by rw[show k0+(s+1)-1=k0+s by omega];simp[aq]
  rw[YE];simp only[j0m,j8,show G (b.length-k0)=((b.length-k0:U):o) from rfl,show G k0=(k0:o) from rfl];rw[ah (show (s:o)<((b.length-k0:U):o) by omega),bA (show (0:o)<=(s:o) by omega) omg_,aj (x:=(s:o)-1),bA (show (0:o)<=(s:o)-1 by omega) omg_,bA (show (0:o)<=(k:o) by omega) omg_,aj (x:=(k:o)+1),aj (x:=(s:o)+1),show ((s:o)-1).toNat=s-1 by omega,jb aq];simp only[j6,g1,g2,oa,ġ];by_cases hc:l[k0+s]=l.getD (k0+s-1) ((0:o),((0:o),(0:o)))
  .rw[ah hc,if_pos hc,jl,j7,aB];have ih:=TY hl (k0:=k0) n (s+1) k b omg_ omg_ omg_ hb hd;rw[e1,hc,show k0+(s+1)=k0+s+1 by omega]at ih;exact ih
  .rw[ai hc,if_neg hc,jv,j6,aB]
   have ih:=TY hl (k0:=k0) n (s+1) (k+1) (b.set k l[k0+s]) omg_ omg_ omg_ (by simpa using hb) (by
    rw[List.drop_set_of_lt omg_];have:=jo (List.drop 1) hd;simpa[List.drop_drop]using this)
   rw[e1,show k0+(s+1)=k0+s+1 by omega]at ih;obtain⟨m,b',r1,r2,r3,r4⟩:=ih;refine⟨m,b',r1,r2,r3,?_⟩;have C3:k<b.length:=omg_;rw[r4,ku,List.take_set_of_le (jn _),yu C3];simp
def rH:bm->bm
 |[]=>[]
 |a::r=>a::oa a r
theorem Ģ{l:bm}(hl:l.length<=1000000):∀(n k:U),k+n=l.length->1<=k->rH l=l.take k++oa (l.getD (k-1) ((0:o),((0:o),(0:o)))) (l.drop k)->
  (∃(m:U)(b:bm),Ba (k:o) l=J (.inl ((m:o),b))/\b.take m=rH l)\/(Ba (k:o) l=J (.inr l)/\rH l=l)
 |0,k,hn,hk,hT=>by
  rw[YF];simp only[j0n,show G l.length=(l.length:o) from rfl];rw[ai omg_,j7,aP];rw[Y omg_,jd omg_]at hT;exact .inr ⟨rfl,by simpa[oa]using hT⟩
 |n+1,k,hn,hk,hT=>by
  have aq:k<l.length:=omg_;have g1:l.getD k ((0:o),((0:o),(0:o)))=l[k]:=by simp[aq]
  rw[jb aq]at hT;simp only[oa]at hT;rw[YF];simp only[j0n,show G l.length=(l.length:o) from rfl];rw[ah (show (k:o)<(l.length:o) by omega),bA (show (0:o)<=(k:o) by omega) omg_,aj (x:=(k:o)-1),bA (show (0:o)<=(k:o)-1 by omega) omg_,aj (x:=(k:o)+1),show ((k:o)-1).toNat=k-1 by omega,ah (show (0:o)<=(k:o) by omega),ah (show (k:o)<=(l.length:o) by omega)];simp only[j6,j8,g1,zt,show G k=(k:o) from rfl,ġ];by_cases hc:l[k]=l.getD (k-1) ((0:o),((0:o),(0:o)))
  .rw[if_pos hc]at hT;obtain⟨m,b,r1,r2,r3,r4⟩:=TY hl (k0:=k) n 1 k l omg_ omg_ omg_ rfl rfl;rw[show k+1-1=k by omega,g1,hc,<-hT]at r4;rw[ah hc,j6,show FJ (k:o) (k:o) 1 l=_ from r1];simp only[j4,j8,show G b.length=(b.length:o) from rfl];rw[ah (show (0:o)<=(m:o) by omega),ah (show (m:o)<=(b.length:o) by omega)];simp only[zt,j6,ym];rw[ah sqo_,j6,aP];refine .inl ⟨m,_,rfl,?_⟩;rw[z6 sqo_,vp,Nat.min_self,r4]
  .rw[if_neg hc]at hT;rw[ai hc,j7,aB];refine Ģ hl n (k+1) omg_ omg_ ?_;have oY:l.take (k+1)=l.take k++[l[k]]:=by rw[ku,jm aq];rfl
   rw[hT,oY,show k+1-1=k by omega,g1,jh];rfl
theorem jvR{l:bm}(hl:l.length<=1000000):∃n m,j0a l=J (n,m)/\m.take n.toNat=rH l:=by
 simp only[j0a,show G l.length=(l.length:o) from rfl];by_cases h2:l.length<2
 .rw[ah omg_,j6];refine⟨_,_,rfl,?_⟩;rw[j8,Y (jn _)];match l,h2 with
  |[],_=>rfl
  |[a],_=>rfl
  |_::_::_,h2=>simp at h2;omega
 .rw[ai omg_,j7]
  have hT:rH l=l.take 1++oa (l.getD (1-1) ((0:o),((0:o),(0:o)))) (l.drop 1):=by
   match l,h2 with
   |[],h2=>simp at h2
   |a::r,_=>rfl
  rcases Ģ hl (l.length-1) 1 omg_ omg_ hT with⟨m,b,e,h⟩|⟨e,h⟩
  .rw[show Ba 1 l=_ from e];refine⟨_,_,rfl,?_⟩;simpa using h
  .rw[show Ba 1 l=_ from e];refine⟨_,_,rfl,?_⟩;rw[h];simp
theorem jFn{l:bm}(x:fI):x∈rH l↔x∈l:=by
 cases l with
 |nil=>exact Iff.rfl
 |cons a r=>exact TW r a x
theorem jFo{l:bm}(h:l.Pairwise Df):(rH l).Pairwise kI:=by
 cases l with
 |nil=>exact .nil
 |cons a r=>exact TX r a h
theorem TZ:∀(l:bm)(p:fI),(oa p l).length<=l.length
 |[],_=>jn _
 |y::r,p=>by
  unfold oa;split
  .have:=TZ r p;simp;omega
  .have:=TZ r y;simp;omega
theorem jFp(l:bm):(rH l).length<=l.length:=by
 cases l with
 |nil=>exact jn _
 |cons a r=>have:=TZ r a;simp[rH];omega
theorem jH5(x y:fI):(j57 x y).getD 0=cond (x.2.2 != y.2.2) (w64 (x.2.2-y.2.2)) (cond (x.1 != y.1) (w64 (x.1-y.1)) (w64 (x.2.1-y.2.1))):=by
 unfold j57;cases (x.2.2 != y.2.2)
 .cases (x.1 != y.1)
  .rfl
  .rfl
 .rfl
def zH(x:fI):Prop:=(-1000000000000<=x.1/\x.1<=1000000000000)/\(-1000000000000<=x.2.1/\x.2.1<=1000000000000)/\(-1000000000000<=x.2.2/\x.2.2<=1000000000000)
theorem ģ{x y:fI}(hx:(-1152921504606846976<=x.1/\x.1<=1152921504606846976)/\(-1152921504606846976<=x.2.1/\x.2.1<=1152921504606846976)/\(-1152921504606846976<=x.2.2/\x.2.2<=1152921504606846976))
  (hy:(-1152921504606846976<=y.1/\y.1<=1152921504606846976)/\(-1152921504606846976<=y.2.1/\y.2.1<=1152921504606846976)/\(-1152921504606846976<=y.2.2/\y.2.2<=1152921504606846976)):(j57 x y).getD 0<0↔kI x y:=by
 rw[jH5];unfold kI;by_cases q1:x.2.2=y.2.2
 .rw[show (x.2.2 != y.2.2)=false by simp[q1],j7];by_cases q2:x.1=y.1
  .rw[show (x.1 != y.1)=false by simp[q2],j7,aj];omega
  .rw[show (x.1 != y.1)=true by simp[q2],j6,aj];omega
 .rw[show (x.2.2 != y.2.2)=true by simp[q1],j6,aj];omega
theorem jCK:Go.Sort.SWO (Z λ(x y:Go.Lft.Sml (.pair (.int .i64) (.pair (.int .i64) (.int .i64))))=>(j57 x.1 y.1).getD 0):=by
 have key:∀x:Go.Lft.Sml (.pair (.int .i64) (.pair (.int .i64) (.int .i64))),(-1152921504606846976<=(x.1.1:o)/\(x.1.1:o)<=1152921504606846976)/\(-1152921504606846976<=(x.1.2.1:o)/\(x.1.2.1:o)<=1152921504606846976)/\(-1152921504606846976<=(x.1.2.2:o)/\(x.1.2.2:o)<=1152921504606846976):=λx=>by
  have:=x.2;simp only[gZ,jg,js]at this;exact this
 have e:∀x y:Go.Lft.Sml (.pair (.int .i64) (.pair (.int .i64) (.int .i64))),Z (λ(x y:Go.Lft.Sml (.pair (.int .i64) (.pair (.int .i64) (.int .i64))))=>(j57 x.1 y.1).getD 0) x y=decide (kI x.1 y.1):=λx y=>by
  unfold Z;exact yg.2 (ģ (key x) (key y))
 refine⟨λx=>?_,λx y z=>?_,λx y z=>?_⟩
 .rw[e];simp only[kI];exact decide_eq_false omg_
 .rw[e,e,e];exactλh1 h2=>yd (by have h1:=q8 h1;have h2:=q8 h2;unfold kI at *;omega)
 .rw[e,e,e];exactλh1 h2=>decide_eq_false (by have h1:=vv h1;have h2:=vv h2;unfold kI at *;omega)
theorem jCL{l:bm}(hl:l.length<=1000000000)(hb:∀x∈l,zH x):∃L,j08 l=J L/\L.Perm l/\L.Pairwise Df:=by
 obtain⟨L,e,hp,hs⟩:=Ov (a:= .pair (.int .i64) (.pair (.int .i64) (.int .i64))) (cf:=λx y=>(j57 x y).getD 0) jCK (xs:=l) (λx hx=>by
  have:=hb x hx;unfold zH at this;simp only[gZ,jg,js];refine⟨⟨?_,?_⟩,⟨?_,?_⟩,⟨?_,?_⟩⟩
  .exact qb (by decide) this.1.1
  .exact qb this.1.2 (by decide)
  .exact qb (by decide) this.2.1.1
  .exact qb this.2.1.2 (by decide)
  .exact qb (by decide) this.2.2.1
  .exact qb this.2.2.2 (by decide)) (by show I l<_;omega)
 refine⟨L,e,hp,hs.imp_of_mem λ{x y} hx hy h=>?_⟩;have h1:=hb x (hp.mem_iff.1 hx);have h2:=hb y (hp.mem_iff.1 hy);unfold zH at h1 h2;have:¬kI y x:=λq=>h ((ģ (x:=y) (y:=x) omg_ omg_).2 q);unfold kI at this;unfold Df;omega
theorem Ĥ:jj6=J true:=by kernel_rfl
end Go.Proofs.Pw
open Go Go.Lft
set_option maxHeartbeats 1000000
namespace Go.Proofs.Pw
def jS(p:o)(cl:bG):H Int:=(cl.filter λz=>z.1==p).map (·.2.2.2.1)
theorem jCM(p:o)(z:iK)(r:bG):jS p (z::r)=cond (z.1==p) (z.2.2.2.1::jS p r) (jS p r):=by
 unfold jS;cases h:(z.1==p)<;>simp[h]
theorem jFq(p:o)(cl:bG):(jS p cl).length<=cl.length:=by
 unfold jS;rw[ke];exact qo _ _
theorem T0{p:o}{A B C:H o}{cl:bG}(hl:cl.length<=1000000):∀(n j:U)(acc:H o),j+n=cl.length->acc.length<=j->
  rf p (cl.length:o) (j:o) cl A B C acc=J (p,A,B,C,acc++jS p (cl.drop j))
 |0,j,acc,hj,_=>by
  rw[YG];simp only[j2G];rw[ai omg_,j7,aP,jd omg_];simp[jS]
 |n+1,j,acc,hj,ha=>by
  have fS:j<cl.length:=omg_;have aT:cl.getD j ((0:o),((0:o),((0:o),((0:o),(0:o)))))=cl[j]:=by simp[S,fS]
  rw[YG,jb fS,jCM];simp only[j2G];rw[ah (show (j:o)<(cl.length:o) by omega),bJ];simp only[j6,j8,aT];rw[aj (x:=(j:o)+1)];cases hq:(cl[j].1==p) with
  |true=>have ih:=T0 (p:=p) (A:=A) (B:=B) (C:=C) hl n (j+1) (acc++[cl[j].2.2.2.1]) omg_ sqo_;rw[show ((j+1:U):o)=(j:o)+1 by omega]at ih;rw[j6,j6,ah (by simp[aG];omega),j6,aB,ih,jh];rfl
  |false=>have ih:=T0 (p:=p) (A:=A) (B:=B) (C:=C) hl n (j+1) acc omg_ omg_;rw[show ((j+1:U):o)=(j:o)+1 by omega]at ih;rw[j7,j7,aB,ih]
def vK(k p:o)(L:H o):bm:=L.map λt=>(k,(p,t))
theorem ĥ{p k:o}{F:H (H o)}{i:o}{L:H o}(hl:L.length<=1000000):∀(n j:U)(acc:bm),j+n=L.length->acc.length<=10000000+j->
  yM p k F i L (L.length:o) (j:o) acc=J (p,F,i,acc++vK k p (L.drop j))
 |0,j,acc,hj,_=>by
  rw[YH];simp only[j2H];rw[ai omg_,j7,aP,jd omg_];simp[vK]
 |n+1,j,acc,hj,ha=>by
  have fS:j<L.length:=omg_;have aT:L.getD j (0:o)=L[j]:=by simp[S,fS]
  have ih:=ĥ (p:=p) (k:=k) (F:=F) (i:=i) hl n (j+1) (acc++[(k,(p,L[j]))]) omg_ sqo_;rw[show ((j+1:U):o)=(j:o)+1 by omega]at ih;rw[YH,jb fS];simp only[j2H];rw[ah (show (j:o)<(L.length:o) by omega),bJ];simp only[j6,j8,aT];rw[aj (x:=(j:o)+1),ah (by simp[aG];omega),j6,aB,ih,jh];rfl
def jT(p:o)(A B C E:H o):bm:=vK 0 p A++(vK 1 p B++(vK 2 p C++vK 3 p E))
theorem jHS{p:o}{A B C E:H o}(hA:A.length<=1000000)(hB:B.length<=1000000)(hC:C.length<=1000000)(hE:E.length<=1000000) :
  sf p [A,B,C,E] 0 []=J (jT p A B C E):=by
 have q:=λ(k:o)(L:H o)(hL:L.length<=1000000)(acc:bm)(dQ:acc.length<=10000000)=>ĥ (p:=p) (k:=k) (F:=[A,B,C,E]) (i:=k) hL L.length 0 acc omg_ omg_;have lv:∀k (L:H o),(vK k p L).length=L.length:=λk L=>by simp[vK]
 have q0:=q 0 A hA [] smp_;have q1:=q 1 B hB (vK 0 p A) (by rw[lv];omega);have q2:=q 2 C hC (vK 0 p A++vK 1 p B) (by rw[jc,lv,lv];omega);have q3:=q 3 E hE (vK 0 p A++vK 1 p B++vK 2 p C) (by rw[jc,jc,lv,lv,lv];omega);simp only[jr,jp]at q0 q1 q2 q3;rw[FK];simp only[j13];rw[ah (show (0:o)<4 by omega),bA (show (0:o)<=0 by omega) omg_];simp only[j6,Int.toNat_zero,R,show G A.length=(A.length:o) from rfl];rw[show yM p 0 [A,B,C,E] 0 A (A.length:o) 0 []=_ from q0];simp only[j4];rw[aj (x:=(0:o)+1),aB,show (0:o)+1=1 by omega,FK];simp only[j13];rw[ah (show (1:o)<4 by omega),bA (show (0:o)<=1 by omega) omg_];simp only[j6,show (1:o).toNat=1 from rfl,X,R,show G B.length=(B.length:o) from rfl];rw[show yM p 1 [A,B,C,E] 1 B (B.length:o) 0 (vK 0 p A)=_ from q1];simp only[j4];rw[aj (x:=(1:o)+1),aB,show (1:o)+1=2 by omega,FK];simp only[j13];rw[ah (show (2:o)<4 by omega),bA (show (0:o)<=2 by omega) omg_];simp only[j6,show (2:o).toNat=2 from rfl,X,R,show G C.length=(C.length:o) from rfl];rw[show yM p 2 [A,B,C,E] 2 C (C.length:o) 0 (vK 0 p A++vK 1 p B)=_ from q2];simp only[j4];rw[aj (x:=(2:o)+1),aB,show (2:o)+1=3 by omega,FK];simp only[j13];rw[ah (show (3:o)<4 by omega),bA (show (0:o)<=3 by omega) omg_];simp only[j6,show (3:o).toNat=3 from rfl,X,R,show G E.length=(E.length:o) from rfl]
 rw[show yM p 3 [A,B,C,E] 3 E (E.length:o) 0 (vK 0 p A++vK 1 p B++vK 2 p C)=_ from q3];simp only[j4];rw[aj (x:=(3:o)+1),aB,show (3:o)+1=4 by omega,FK];simp only[j13];rw[ai omg_,j7,aP];simp only[jT,jh]
noncomputable def T1(p:o)(cl:bG)(A B C:H o):Option (bm×o):=
 (rf p (G (I cl)) (0:o) cl A B C ([]:(H o))).bind λq0=>
 (sf q0.1 [q0.2.1,q0.2.2.1,q0.2.2.2.1,q0.2.2.2.2] (0:o) ([]:bm)).bind λq2=>
 (j08 q2).bind λT2=>
 (j0a T2).bind λxd=>
 cond (decide (G (I (Â (Ã xd.1) xd.2))>(16384:o))) (
 J (([]:bm),(5:o))) (
 J (Â (Ã xd.1) xd.2,(0:o)))
theorem jHT{p:o}(hp:0<=p/\p<=1000){cl:bG}{A B C:H o}(hl:A.length+B.length+C.length+(jS p cl).length<=16384)(ej:cl.length<=1000000)
  (hb:∀t,t∈A\/t∈B\/t∈C\/t∈jS p cl -> -1000000000000<=t/\t<=1000000000000) :
  ∃V,T1 p cl A B C=J (V,0)/\V.Pairwise kI/\(∀x,x∈V↔x∈jT p A B C (jS p cl))/\V.length<=A.length+B.length+C.length+(jS p cl).length:=by
 have e0:=T0 (p:=p) (A:=A) (B:=B) (C:=C) ej cl.length 0 [] omg_ smp_;rw[jp,jr]at e0;have e2:=jHS (p:=p) (A:=A) (B:=B) (C:=C) (E:=jS p cl) omg_ omg_ omg_ omg_;have lv:∀k (L:H o),(vK k p L).length=L.length:=λk L=>by simp[vK]
 have vU:(jT p A B C (jS p cl)).length=A.length+B.length+C.length+(jS p cl).length:=by simp only[jT,jc,lv];omega
 have iH:∀x∈jT p A B C (jS p cl),zH x:=λx hx=>by
  have key:∀k (L:H o),0<=k->k<=3->x∈vK k p L->(∀t∈L, -1000000000000<=t/\t<=1000000000000)->zH x:=λk L k0 k1 h hL=>by
   obtain⟨t,ht,rfl⟩:=jz.1 h;have:=hL t ht;unfold zH;dsimp only;omega
  simp only[jT,jj]at hx;rcases hx with h|h|h|h
  .exact key 0 A omg_ omg_ h λt ht=>hb t (.inl ht)
  .exact key 1 B omg_ omg_ h λt ht=>hb t (.inr (.inl ht))
  .exact key 2 C omg_ omg_ h λt ht=>hb t (.inr (.inr (.inl ht)))
  .exact key 3 _ omg_ omg_ h λt ht=>hb t (.inr (.inr (.inr ht)))
 obtain⟨L,e3,p3,s3⟩:=jCL (l:=jT p A B C (jS p cl)) omg_ iH;have hLl:=p3.length_eq;obtain⟨n,m,e4,h4⟩:=jvR (l:=L) omg_;have hcl4:=jFp L;refine⟨rH L,?_,jFo s3,λx=>(jFn x).trans p3.mem_iff,omg_⟩;unfold T1;rw[show rf p (G (I cl)) 0 cl A B C []=_ from e0];simp only[j4];rw[e2];simp only[j4,e3,e4,h4,show G (rH L).length=((rH L).length:o) from rfl];rw[ai (show¬((rH L).length:o)>16384 by omega),j7]
def fA(m:o)(D:SL)(a b:o)(A:H o):Prop:=m=0/\A=[]\/m≠0/\TR D m a b (4*D.length+1) A
def fB(r:o)(D:SL)(B:H o):Prop:=r=0/\B=[]\/r≠0/\B=pD r D
def fC(c:Bool)(z:o×bI)(w:WL)(D:SL)(a b:o)(C:H o):Prop:=c=true/\C=[]\/c=false/\∃W Q,j2d z w a b=J W/\bB (a-1) W/\(∀u∈W,a<=u.1/\u.2<=b)/\
 j6o D W=J Q/\bB (a-1) Q/\(∀x,bq x Q↔bq x D/\bq x W)/\Q.length<=D.length+210/\C=Q.map (·.1)
theorem T3{n:o}(h:j3W n=J true):0<=n/\n<=604800:=by
 simp only[j3W,j80]at h;by_cases h1:n<0
 .exfalso;revert h;rw[ai (show¬(0:o)<=n by omega)]<;>simp
 .by_cases h2:n>604800
  .exfalso;revert h;rw[ai (show¬n<=(604800:o) by omega)]<;>simp
  .omega
section
variable{zs:H bF}{ps:H cI}{cs:H aU}(hs:cC zs ps cs)
include hs
theorem jFs{ss:H cu}(hc:nT (zs,(ps,(cs,ss)))){p:U}(hp:p<ps.length){a b:o}(ha:0<=a)(bt:a<b)(hb:b<=8589934592)(hlen:b-a<=1209600){D:SL}
  (eD:j7e ((zs,(ps,(cs,ss))),zs.map tb) (p:o) a b=J (D,0))(hD:bB (a-1) D)(lD:D.length<=3800)(bD:∀u∈D,a<=u.1/\u.2<=b)
  {cl:bG}(eC:j4C (zs,(ps,(cs,ss))) a b=J (cl,0)) :
  ∃A B C,j24 (zs,(ps,(cs,ss))) (p:o) a b=T1 (p:o) cl A B C/\fA ps[p].2.2.2.1 D a b A/\fB ps[p].2.2.2.2.1 D B/\fC ps[p].2.2.2.2.2 (tb (aF zs ps[p].2.1)) ps[p].2.2.1 D a b C:=by
 have mb:=hc.pc ps[p] (jf hp);have hz:fY (aF zs ps[p].2.1):=fH hs.so.ok mb.z0 mb.z1;have aT:ps.getD p (ByteArray.empty,((0:o),(([]:H (o×o)),((0:o),((0:o),false)))))=ps[p]:=by simp[S,hp]
 have hm:=T3 mb.m;have hr:=T3 mb.r
 have rG:Sml D:=λs hq=>by
  have h1:=bD s hq;have h2:=(hD.mem s hq).2;omega
 obtain⟨A,eA,hA⟩:=jCI (l:=D) omg_ (λs hq=>by have:=bD s hq;omega) hD hm.1 hm.2 ha bt hb;have eB:=jCJ (l:=D) omg_ rG ps[p].2.2.2.2.1;have fm:(tb (aF zs ps[p].2.1)).2.length<=4:=wY hz;obtain⟨W,eW,w1,w2,w3,_⟩:=Sz hz.ztab.2 (qi fm omg_) mb.w mb.wl (M:=2) omg_ ha (vi bt) hb omg_;have Hn:W.length<=210:=by have:ps[p].2.2.1.length*(2+1)*((tb (aF zs ps[p].2.1)).2.length+1)<=14*(2+1)*(4+1):=ql (k7 _ mb.wl) omg_;omega
 obtain⟨Q,eQ,q1,q2,q3⟩:=SF hD w1 omg_ omg_;have eG:=jB9 (l:=Q) omg_;simp only[j24];rw[show j8q (zs,ps,cs,ss) (p:o) a b=_ from Ġ hs hc hp ha (vi bt) hb omg_];simp only[j4,jk,j7];rw[eD];simp only[j4,jk,j7];rw[show j4C (zs,ps,cs,ss) a b=_ from eC];simp only[j4,jk,j7];rw[bJ];simp only[j6,j8,aT];have tq:j2F ((zs,ps,cs,ss),zs.map tb) ps[p].2.1=_:=Tq mb.z0 mb.z1;have xe:ps[p].2.2.2.2.2=false->fC ps[p].2.2.2.2.2 (tb (aF zs ps[p].2.1)) ps[p].2.2.1 D a b (Q.map (·.1)):=λh=> .inr ⟨h,W,Q,eW,w1,w2,eQ,q1,q2,omg_,rfl⟩;have xf:ps[p].2.2.2.2.2=true->fC ps[p].2.2.2.2.2 (tb (aF zs ps[p].2.1)) ps[p].2.2.1 D a b []:=λh=> .inl ⟨h,rfl⟩;have BH:j2d ((tb (aF zs ps[p].2.1)).1,(tb (aF zs ps[p].2.1)).2) ps[p].2.2.1 a b=J W:=eW;by_cases gF:ps[p].2.2.2.1=0
 .rw[show (ps[p].2.2.2.1 != (0:o))=false by rw[gF];rfl];simp only[j7];by_cases rI:ps[p].2.2.2.2.1=0
  .rw[show (ps[p].2.2.2.2.1 != (0:o))=false by rw[rI];rfl];simp only[j7];cases dH:ps[p].2.2.2.2.2 with
   |false=>simp only[jv,j6,tq,j4,BH,eQ];rw[ai (show¬G Q.length>4096 by show¬(Q.length:o)>4096;omega)];simp only[j7,eG,j4];exact⟨[],[],Q.map (·.1),rfl,.inl ⟨gF,rfl⟩,.inl ⟨rI,rfl⟩,dH▸xe dH⟩
   |true=>simp only[jl,j7];exact⟨[],[],[],rfl,.inl ⟨gF,rfl⟩,.inl ⟨rI,rfl⟩,dH▸xf dH⟩
  .rw[show (ps[p].2.2.2.2.1 != (0:o))=true from bne_iff_ne.2 rI];simp only[j6,eB,j4];cases dH:ps[p].2.2.2.2.2 with
   |false=>simp only[jv,j6,tq,j4,BH,eQ];rw[ai (show¬G Q.length>4096 by show¬(Q.length:o)>4096;omega)];simp only[j7,eG,j4];exact⟨[],_,Q.map (·.1),rfl,.inl ⟨gF,rfl⟩,.inr ⟨rI,rfl⟩,dH▸xe dH⟩
   |true=>simp only[jl,j7];exact⟨[],_,[],rfl,.inl ⟨gF,rfl⟩,.inr ⟨rI,rfl⟩,dH▸xf dH⟩
 .rw[show (ps[p].2.2.2.1 != (0:o))=true from bne_iff_ne.2 gF];simp only[j6,eA,j4];by_cases rI:ps[p].2.2.2.2.1=0
  .rw[show (ps[p].2.2.2.2.1 != (0:o))=false by rw[rI];rfl];simp only[j7];cases dH:ps[p].2.2.2.2.2 with
   |false=>simp only[jv,j6,tq,j4,BH,eQ];rw[ai (show¬G Q.length>4096 by show¬(Q.length:o)>4096;omega)];simp only[j7,eG,j4];exact⟨A,[],Q.map (·.1),rfl,.inr ⟨gF,hA⟩,.inl ⟨rI,rfl⟩,dH▸xe dH⟩
   |true=>simp only[jl,j7];exact⟨A,[],[],rfl,.inr ⟨gF,hA⟩,.inl ⟨rI,rfl⟩,dH▸xf dH⟩
  .rw[show (ps[p].2.2.2.2.1 != (0:o))=true from bne_iff_ne.2 rI];simp only[j6,eB,j4];cases dH:ps[p].2.2.2.2.2 with
   |false=>simp only[jv,j6,tq,j4,BH,eQ];rw[ai (show¬G Q.length>4096 by show¬(Q.length:o)>4096;omega)];simp only[j7,eG,j4];exact⟨A,_,Q.map (·.1),rfl,.inr ⟨gF,hA⟩,.inr ⟨rI,rfl⟩,dH▸xe dH⟩
   |true=>simp only[jl,j7];exact⟨A,_,[],rfl,.inr ⟨gF,hA⟩,.inr ⟨rI,rfl⟩,dH▸xf dH⟩
end
end Go.Proofs.Pw
