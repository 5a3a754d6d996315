/- o4 4: what the uZ xZ answer is what the rq do, for any FH. -/
import Derived.Test.YtbpjdcbbmibehaaZEPF
import Derived.Test.YtbpjdcbbmibehaaZEPC
import Derived.Test.YtbpjdcbbmibehaaZEPB
import Derived.Test.YtbpjdcbbmibehaaZELD
open Go Go.Lft
namespace Go.Proofs.Pw
section
variable{o:Int}{l:aR}(h:TG o l)
include h
theorem Ln{nm:ByteArray}{rs:List aT}{d c:Int}(hd : -1000000<=d)(jY:d<=1000000)(hc:0<=c)(eQ:c<=86399):∀(n j:Nat)(acc:List Int),j+n=l.length+1->acc.length<=j->
  uM ((j:Int)-1) nm o rs d c l acc=some (acc++gu o l (d*86400+c) j n)
 |0,j,acc,hj,_=>by
  rw[JN];simp only[j1Y,show Int.ofNat (List.length l)=(l.length:Int) from rfl];rw[ay (by omega),j5,bS];simp[gu]
 |n+1,j,acc,hj,ha=>by
  have hlen:=h.len;have o1:=h.of0 j (by omega);have o2:=h.of1 j (by omega)
  have key:∀A:Option ((Int×ByteArray×Int×List aT×Int×Int×aR×List Int) ⊕ List Int),
    A=(cond (decide (kR o l (d*86400+c) j)) (some (.inl ((j:Int),nm,o,rs,d,c,l,acc++[d*86400+c-bX o l j]))) (some (.inl ((j:Int),nm,o,rs,d,c,l,acc))))->
    lpK A (λh=>uM h.1 h.2.1 h.2.2.1 h.2.2.2.1 h.2.2.2.2.1 h.2.2.2.2.2.1 h.2.2.2.2.2.2.1 h.2.2.2.2.2.2.2)=some (acc++gu o l (d*86400+c) j (n+1)):=by
   intro A hA;rw[hA]
   have ih:∀mQ:List Int,mQ.length<=j+1->uM (j:Int) nm o rs d c l mQ=some (mQ++gu o l (d*86400+c) (j+1) n):=λmQ h'=>by
    have:=Ln (nm:=nm) (rs:=rs) hd jY hc eQ n (j+1) mQ (by omega) h';rwa[show ((j+1:Nat):Int)-1=(j:Int) by omega]at this
   by_cases hs:kR o l (d*86400+c) j
   .rw[aw hs,j4,bR];refine(ih (acc++[d*86400+c-bX o l j]) (by simp;omega)).trans ?_;simp[gu,hs]
   .rw[ay hs,j5,bR];refine(ih acc (by omega)).trans ?_;simp[gu,hs]
  rw[JN];refine key _ ?_;simp only[j1Y,show Int.ofNat (List.length l)=(l.length:Int) from rfl];rw[aw (show (j:Int)-1<(l.length:Int) by omega)];simp only[show (j:Int)-1+1=(j:Int) by omega,ak (x:=(j:Int)) (by omega) (by omega),j6];have bb:decide (acc.length+[d*86400+c-bX o l j].length<=cY)=true:=aw (by simp[cY];omega);rw[ak (x:=d*86400) (by omega) (by omega),ak (x:=d*86400+c) (by omega) (by omega)];have cp:=KO (o:=o) (l:=l) (s:=d*86400+c) (j:=j);cases j with
  |zero=>
   have oX:bX o l 0=o:=rfl;have ma:aA l 0=0:=rfl;rw[ay (show¬((0:Nat):Int)-1>=0 by omega)];rw[oX]at o1 o2 bb cp ⊢;rw[ma]at cp;simp only[j4,j5,ak (x:=d*86400+c-o) (by omega) (by omega)];by_cases gR:0<l.length
   .have e:aA l (0+1)=cN l 0:=fp gR;rw[e]at cp;rw[aw (show ((0:Nat):Int)<(l.length:Int) by omega),bG (by omega) (by omega)];simp only[j4];rw[show (l.getD 0 ((0:Int),(0:Int))).1=cN l 0 from rfl,cp,bb];rfl
   .have td:l.length=0:=by omega
    have e:aA l (0+1)=8589934593:=by have:=kQ (l:=l);rwa[td]at this
    rw[e]at cp;rw[ay (show¬((0:Nat):Int)<(l.length:Int) by omega)];simp only[j5];rw[cp,bb];rfl
  |succ i=>
   have pA:i<l.length:=by omega
   have oX:bX o l (i+1)=(l.getD i ((0:Int),(0:Int))).2:=rfl;have ma:aA l (i+1)=(l.getD i ((0:Int),(0:Int))).1:=fp pA;rw[show ((i+1:Nat):Int)-1=(i:Int) by omega,aw (show (i:Int)>=0 by omega),bG (by omega) (by omega)];simp only[j4,j6,<-oX,<-ma];rw[ak (x:=d*86400+c-bX o l (i+1)) (by omega) (by omega)];by_cases gR:i+1<l.length
   .have e:aA l (i+1+1)=(l.getD (i+1) ((0:Int),(0:Int))).1:=fp gR;rw[aw (show ((i+1:Nat):Int)<(l.length:Int) by omega),bG (by omega) (by omega)];simp only[j4,<-e];rw[cp,bb];rfl
   .have e:aA l (i+1+1)=8589934593:=by have:=kQ (l:=l);rwa[show l.length+1=i+1+1 by omega]at this
    rw[ay (show¬((i+1:Nat):Int)<(l.length:Int) by omega)];rw[e]at cp;simp only[j5];rw[cp,bb];rfl
def dM(o:Int)(l:aR)(s:Int):Nat->Nat->Option Int
 |_,0=>none
 |j,n+1=>if max (aA l j) (s-bX o l j)<aA l (j+1) then some (max (aA l j) (s-bX o l j)) else dM o l s (j+1) n
def Lo:Option Int->(Int×Int) ⊕ Unit
 |none=> .inr ()
 |some t=> .inl (t,0)
def Ve:Option Int->(Int×Bool) ⊕ Unit
 |none=> .inr ()
 |some t=> .inl (t,true)
theorem Lp{nm:ByteArray}{rs:List aT}{d c:Int}(hd : -1000000<=d)(jY:d<=1000000)(hc:0<=c)(eQ:c<=86399):∀(n j:Nat),j+n=l.length+1->xA ((j:Int)-1) nm o rs d c l=some (Lo (dM o l (d*86400+c) j n))
 |0,j,hj=>by
  rw[JO];simp only[j2V,show Int.ofNat (List.length l)=(l.length:Int) from rfl];rw[ay (by omega),j5,bS];rfl
 |n+1,j,hj=>by
  have hlen:=h.len;have oc:j<=l.length:=by omega
  have o1:=h.of0 j oc;have o2:=h.of1 j oc
  have key:∀A:Option ((Int×ByteArray×Int×List aT×Int×Int×aR) ⊕ ((Int×Int) ⊕ Unit)),
    A=(cond (decide (max (aA l j) (d*86400+c-bX o l j)<aA l (j+1))) (some (.inr (.inl (max (aA l j) (d*86400+c-bX o l j),0)))) (some (.inl ((j:Int),nm,o,rs,d,c,l))))->
    lpK A (λh=>xA h.1 h.2.1 h.2.2.1 h.2.2.2.1 h.2.2.2.2.1 h.2.2.2.2.2.1 h.2.2.2.2.2.2)=some (Lo (dM o l (d*86400+c) j (n+1))):=by
   intro A hA;rw[hA];simp only[dM];by_cases hm:max (aA l j) (d*86400+c-bX o l j)<aA l (j+1)
   .rw[aw hm,if_pos hm,j4,bS];rfl
   .rw[ay hm,if_neg hm,j5,bR];have ih:=Lp (nm:=nm) (rs:=rs) hd jY hc eQ n (j+1) (by omega);rwa[show ((j+1:Nat):Int)-1=(j:Int) by omega]at ih
  rw[JO];refine key _ ?_;simp only[j2V,show Int.ofNat (List.length l)=(l.length:Int) from rfl];rw[aw (show (j:Int)-1<(l.length:Int) by omega)];simp only[show (j:Int)-1+1=(j:Int) by omega,ak (x:=(j:Int)) (by omega) (by omega),j6];rw[ak (x:=d*86400) (by omega) (by omega),ak (x:=d*86400+c) (by omega) (by omega)];have yL:∀a b:Int,(if a>b then a else b)=max b a:=λa b=>by omega
  clear key;cases j with
  |zero=>
   have oX:bX o l 0=o:=rfl;have ma:aA l 0=0:=rfl;rw[ay (show¬((0:Nat):Int)-1>=0 by omega)];rw[oX]at o1 o2 ⊢;rw[ma];simp only[j4,j5,ak (x:=d*86400+c-o) (by omega) (by omega),yL];by_cases gR:0<l.length
   .have e:aA l (0+1)=cN l 0:=fp gR;rw[e];rw[aw (show ((0:Nat):Int)<(l.length:Int) by omega),bG (by omega) (by omega)];rfl
   .have td:l.length=0:=by omega
    have e:aA l (0+1)=8589934593:=by have:=kQ (l:=l);rwa[td]at this
    rw[e];rw[ay (show¬((0:Nat):Int)<(l.length:Int) by omega)];rfl
  |succ i=>
   have pA:i<l.length:=by omega
   have oX:bX o l (i+1)=(l.getD i ((0:Int),(0:Int))).2:=rfl;have ma:aA l (i+1)=(l.getD i ((0:Int),(0:Int))).1:=fp pA;rw[show ((i+1:Nat):Int)-1=(i:Int) by omega,aw (show (i:Int)>=0 by omega),bG (by omega) (by omega)];simp only[j4,j6,<-oX,<-ma];rw[ak (x:=d*86400+c-bX o l (i+1)) (by omega) (by omega)];simp only[yL];by_cases gR:i+1<l.length
   .have e:aA l (i+1+1)=(l.getD (i+1) ((0:Int),(0:Int))).1:=fp gR;rw[aw (show ((i+1:Nat):Int)<(l.length:Int) by omega),bG (by omega) (by omega)];simp only[j4,<-e]
   .have e:aA l (i+1+1)=8589934593:=by have:=kQ (l:=l);rwa[show l.length+1=i+1+1 by omega]at this
    rw[ay (show¬((i+1:Nat):Int)<(l.length:Int) by omega),e];rfl
theorem Lq:∀(n k:Nat)(acc:List (Int×(Int×Int))),k+n=l.length+1->acc.length<=k->(k<=l.length->aA l k<aA l (k+1))->uH (aA l k) 8589934593 o l acc=some (acc++(List.range' k n).map (pc o l))
 |0,k,acc,hk,_,_=>by
  have bL:aA l k=8589934593:=by rw[show k=l.length+1 by omega];exact kQ
  rw[JC,bL];simp only[j0S];rw[ay (by omega),j5,bS];simp
 |n+1,k,acc,hk,ha,ax=>by
  have hlen:=h.len;have lk:k<=l.length:=by omega
  have ax:=ax lk;have hle:=h.frm_le (i:=k+1) (j:=l.length+1) (by omega) (by omega);have bL:aA l (l.length+1)=8589934593:=kQ;have ih:=Lq n (k+1) (acc++[pc o l k]) (by omega) (by simp;omega) (λh2=>h.frm_lt h2 (by omega));rw[jd,show [pc o l k]++(List.range' (k+1) n).map (pc o l)=(List.range' k (n+1)).map (pc o l) by rw[qo];rfl]at ih;rw[JC];simp only[j0S];rw[aw (show aA l k<8589934593 by omega),K9 h lk (by omega) ax];simp only[j4,j0,show Int.ofNat (List.length l)=(l.length:Int) from rfl,La h lk];by_cases mR:k<l.length
  .rw[aw (show (k:Int)<(l.length:Int) by omega),bG (by omega) (by omega)];simp only[j4,j6];have fi:(if (l.getD k ((0:Int),(0:Int))).1<8589934593 then (l.getD k ((0:Int),(0:Int))).1 else 8589934593)=aA l (k+1):=by have hf:aA l (k+1)=cN l k:=fp mR;have:=h.max k mR;rw[hf,if_pos (show (l.getD k ((0:Int),(0:Int))).1<8589934593 by show cN l k<_;omega)];rfl
   rw[fi,aw (by simp[cY];omega)];simp only[j4,bR];exact ih
  .rw[ay (show¬(k:Int)<(l.length:Int) by omega)];simp only[j5];rw[aw (by simp[cY];omega)];simp only[j4,bR];have aS:k=l.length:=by omega
   have e:aA l (k+1)=8589934593:=by rw[aS];exact bL
   unfold pc at ih;rw[e]at ih;exact ih
theorem Lr:∃k0,k0<=1/\k0<=l.length/\aA l k0=0/\aA l k0<aA l (k0+1)/\∀j,j<k0->aA l (j+1)=0:=by
 have hr:=h.frm_rng (i:=1) (by omega);by_cases h1:aA l 1=0
 .have hl:1<=l.length:=by
   rcases Nat.eq_zero_or_pos l.length with h0|h0
   .have:=kQ (l:=l);rw[h0]at this;have:aA l 1=8589934593:=this;omega
   .exact h0
  refine⟨1,by omega,hl,h1,h.frm_lt hl (by omega),λj hj=>?_⟩;have:j=0:=by omega
  subst this;exact h1
 .have h0:aA l 0=0:=rfl;have h2:aA l 0<aA l (0+1):=by show aA l 0<aA l 1;omega
  exact⟨0,by omega,by omega,rfl,h2,λj hj=>by omega⟩
theorem Ls{k0:Nat}(hk:k0<=l.length)(h0:aA l k0=0)(ax:aA l k0<aA l (k0+1)):j1t (o,l) 0 8589934593=some ((List.range' k0 (l.length+1-k0)).map (pc o l)):=by
 have:=Lq h (l.length+1-k0) k0 [] (by omega) (by simp) (λ_=>ax);rw[h0,js]at this;simp only[j1t];rw[this];rfl
omit h in
theorem AY(k0 N:Nat):((List.range' k0 N).map (pc o l)).length=N:=by simp
omit h in
theorem Lt{k0 N i:Nat}(hi:i<N):((List.range' k0 N).map (pc o l)).getD i ((0:Int),((0:Int),(0:Int)))=pc o l (k0+i):=by
 simp[List.getD,hi]
theorem Lu{d c s:Int}(hs:j3B (d,c)=some s)(gC : -100000000000<=s)(fY:s<=100000000000){k0 N:Nat}(hN:k0+N=l.length+1):∀(n i:Nat)(acc:List Int),i+n=N->acc.length<=i->
  uI (N:Int) (i:Int) d c acc ((List.range' k0 N).map (pc o l))=some (acc++gu o l s (k0+i) n)
 |0,i,acc,hi,_=>by
  rw[JD];simp only[j1Q];rw[ay (by omega),j5,bS];simp[gu]
 |n+1,i,acc,hi,ha=>by
  have hlen:=h.len;have o1:=h.of0 (k0+i) (by omega);have o2:=h.of1 (k0+i) (by omega);have ih:=λacc=>Lu hs gC fY hN n (i+1) acc (by omega);rw[JD];simp only[j1Q];rw[aw (show (i:Int)<(N:Int) by omega),bG (by omega) (by rw[AY];omega)];simp only[j4,j6,Lt (show i<N by omega),hs,j0,pc,gu];rw[ak (x:=s-bX o l (k0+i)) (by omega) (by omega),ak (x:=(i:Int)+1) (by omega) (by omega)];have cp:=KO (o:=o) (l:=l) (s:=s) (j:=k0+i);rw[show (cond (decide (aA l (k0+i)<=s-bX o l (k0+i))) (decide (s-bX o l (k0+i)<aA l (k0+i+1))) false)=decide (kR o l s (k0+i)) from cp];by_cases hq:kR o l s (k0+i)
  .rw[aw hq,if_pos hq,aw (by simp[cY];omega)];simp only[j4,bR];have:=ih (acc++[s-bX o l (k0+i)]) (by simp;omega);rw[jd]at this;exact this
  .rw[ay hq,if_neg hq];simp only[j5,bR,js];exact ih acc (by omega)
theorem Lv{d c s:Int}(hs:j3B (d,c)=some s)(gC : -100000000000<=s)(fY:s<=100000000000){k0 N:Nat}(hN:k0+N=l.length+1):∀(n i:Nat),i+n=N->
  uJ (N:Int) (i:Int) d c ((List.range' k0 N).map (pc o l))=some (Ve (dM o l s (k0+i) n))
 |0,i,hi=>by
  rw[JE];simp only[j1u];rw[ay (by omega),j5,bS];rfl
 |n+1,i,hi=>by
  have hlen:=h.len;have o1:=h.of0 (k0+i) (by omega);have o2:=h.of1 (k0+i) (by omega);have ih:=Lv hs gC fY hN n (i+1) (by omega);rw[JE];simp only[j1u];rw[aw (show (i:Int)<(N:Int) by omega),bG (by omega) (by rw[AY];omega)];simp only[j4,j6,Lt (show i<N by omega),hs,j0,pc,dM];rw[ak (x:=s-bX o l (k0+i)) (by omega) (by omega),ak (x:=(i:Int)+1) (by omega) (by omega)];have hm:(if s-bX o l (k0+i)>aA l (k0+i) then s-bX o l (k0+i) else aA l (k0+i))=max (aA l (k0+i)) (s-bX o l (k0+i)):=by split<;>omega
  rw[hm];by_cases hq:max (aA l (k0+i)) (s-bX o l (k0+i))<aA l (k0+i+1)
  .rw[aw hq,if_pos hq,j4,bS];rfl
  .rw[ay hq,if_neg hq,j5,bR];exact ih
theorem Vf{s:Int}{k0:Nat}(hk:k0<=1)(et:k0<=l.length)(hz:∀j,j<k0->aA l (j+1)=0):gu o l s 0 (l.length+1)=gu o l s k0 (l.length+1-k0):=by
 have _:=h;rcases Nat.eq_zero_or_pos k0 with h0|h0
 .subst h0;rfl
 .have:k0=1:=by omega
  subst this
  have hn:¬kR o l s 0:=λhs=>by
   have a:=hz 0 (by omega);have:=hs.1;have:=hs.2;have:aA l 0=0:=rfl;simp only[ju]at *;omega
  simp only[gu];rw[if_neg hn];rfl
theorem Vg{s:Int}{k0:Nat}(hk:k0<=1)(et:k0<=l.length)(hz:∀j,j<k0->aA l (j+1)=0):dM o l s 0 (l.length+1)=dM o l s k0 (l.length+1-k0):=by
 have _:=h;rcases Nat.eq_zero_or_pos k0 with h0|h0
 .subst h0;rfl
 .have:k0=1:=by omega
  subst this;have a:=hz 0 (by omega);have:aA l 0=0:=rfl;simp only[dM,ju]at *;rw[if_neg (by omega)];rfl
theorem Lw{s:Int}(hs:s < -64800\/8590000000<=s):∀(n j:Nat),j+n<=l.length+1->gu o l s j n=[]
 |0,_,_=>rfl
 |n+1,j,hj=>by
  have o1:=h.of0 j (by omega);have o2:=h.of1 j (by omega);have r1:=h.frm_rng (i:=j) (by omega);have r2:=h.frm_rng (i:=j+1) (by omega);simp only[gu];rw[if_neg (λhq:kR o l s j=>by have:=hq.1;have:=hq.2;omega),Lw hs n (j+1) (by omega)];rfl
theorem Lx{s:Int}(hs:8590000000<=s):∀(n j:Nat),j+n<=l.length+1->dM o l s j n=none
 |0,_,_=>rfl
 |n+1,j,hj=>by
  have o1:=h.of0 j (by omega);have o2:=h.of1 j (by omega);have r2:=h.frm_rng (i:=j+1) (by omega);simp only[dM];rw[if_neg (by omega),Lx hs n (j+1) (by omega)]
end
theorem Ly(d c:Int)(hc:0<=c)(eQ:c<=86399):∃D,j3B (d,c)=some (D*86400+c) /\ -1048576<=D/\D<=1048576/\(-1048576<=d->d<=1048576->D=d)/\(d < -2->D < -2)/\(99422<d->99422<D):=by
 refine⟨min (max d (-1048576)) 1048576,?_,by omega,by omega,by omega,by omega,by omega⟩;simp only[j3B]
 rw[show (if (-1048576:Int)>d then (-1048576:Int) else d)=max d (-1048576) by split<;>omega,show (if (1048576:Int)<max d (-1048576) then (1048576:Int) else max d (-1048576))=min (max d (-1048576)) 1048576 by split<;>omega,
  ak (x:=min (max d (-1048576)) 1048576*86400) (by omega) (by omega),ak (by omega) (by omega)]
abbrev ZT:=ByteArray×(Int×List aT)
theorem yc{z:ZT}{l:aR}{e:Int}(h:j0B z=some (l,e)):j7b (z.1,(z.2.1,z.2.2))=some ((z.2.1,l),e):=by
 simp only[j7b,show j0B (z.1,(z.2.1,z.2.2))=_ from h,j0]
theorem Vh(z:ZT)(t:Int):∃v e,j38 z t=some (v,e)/\j1X z t=some (v,e):=by
 obtain⟨l,e,t1,t2,_,hT⟩:=uY z;have hO:=yc t1;by_cases he:e=0
 .subst he;have h:=hT rfl;by_cases ht:0<=t/\t<=8589934592
  .obtain⟨k,hk,k1,k2⟩:=Lc h ht.1 ht.2;refine⟨bX z.2.1 l k,0,?_,?_⟩
   .simp only[j38,j3d,hO,j0,je,j5,dJ ht.1 ht.2,jc,Lb h hk k1 k2]
   .simp only[j1X,show j0t (z.1,(z.2.1,z.2.2))=_ from t2,j0,je,j5,fE ht.1 ht.2,jc,Le h hk k1 k2]
  .refine⟨0,1,?_,?_⟩
   .simp only[j38,j3d,hO,j0,je,j5,iO ht,jj,j4];rfl
   .simp only[j1X,show j0t (z.1,(z.2.1,z.2.2))=_ from t2,j0,je,j5,re ht,jj,j4]
 .have hb:(e != 0)=true:=by simp[he]
  refine⟨0,8,?_,?_⟩
  .simp only[j38,j3d,hO,j0,hb,j4];rfl
  .simp only[j1X,show j0t (z.1,(z.2.1,z.2.2))=_ from t2,j0,hb,j4]
theorem Vi(z:ZT)(t:Int):∃d c e,j1W z t=some ((d,c),e)/\j4b z t=some ((d,c),e) /\ -10<=d/\d<=1000000:=by
 obtain⟨l,e,t1,t2,_,hT⟩:=uY z;have hO:=yc t1;have q2:j0t (z.1,(z.2.1,z.2.2))=some (l,e):=t2;by_cases he:e=0
 .subst he;have h:=hT rfl;by_cases ht:0<=t/\t<=8589934592
  .obtain⟨k,hk,k1,k2⟩:=Lc h ht.1 ht.2;have o1:=h.of0 k hk;have o2:=h.of1 k hk;refine⟨(t+bX z.2.1 l k)/86400,(t+bX z.2.1 l k)%86400,0,?_,?_,by omega,by omega⟩
   .simp only[j1W,j3d,hO,j0,je,j5,dJ ht.1 ht.2,jc,U9 h hk k1 k2]
   .simp only[j4b,j1X,q2,j0,je,j5,fE ht.1 ht.2,jc,Le h hk k1 k2];rw[Uy (by omega) (by omega)];rfl
  .refine⟨0,0,1,?_,?_,by omega,by omega⟩
   .simp only[j1W,j3d,hO,j0,je,j5,iO ht,jj,j4];rfl
   .simp only[j4b,j1X,q2,j0,je,j5,re ht,jj,j4];rfl
 .have hb:(e != 0)=true:=by simp[he]
  refine⟨0,0,8,?_,?_,by omega,by omega⟩
  .simp only[j1W,j3d,hO,j0,hb,j4];rfl
  .simp only[j4b,j1X,q2,j0,hb,j4];rfl
theorem Vj(z:ZT):∃v,j3G z=some v/\j4a z=some v:=by
 obtain⟨l,e,t1,t2,hl,hT⟩:=uY z;have hO:=yc t1;have q2:j0t (z.1,(z.2.1,z.2.2))=some (l,e):=t2;by_cases he:e=0
 .subst he;by_cases h0:l.length=0
  .refine⟨0,?_,?_⟩
   .simp only[j3G,hO,j0,je,j5,j4t,h0];rfl
   .simp only[j4a,q2,j0,je,j5,h0];rfl
  .refine⟨(l.getD (l.length-1) (0,0)).1,?_,?_⟩
   .simp only[j3G,hO,j0,je,j5,j4t,show Int.ofNat l.length=(l.length:Int) from rfl];rw[jK (show (l.length:Int)≠0 by omega),ak (by omega) (by omega),bG (by omega) (by omega),show ((l.length:Int)-1).toNat=l.length-1 by omega];rfl
   .simp only[j4a,q2,j0,je,j5,show Int.ofNat l.length=(l.length:Int) from rfl];rw[jK (show (l.length:Int)≠0 by omega),ak (by omega) (by omega),bG (by omega) (by omega),show ((l.length:Int)-1).toNat=l.length-1 by omega];rfl
 .have hb:(e != 0)=true:=by simp[he]
  refine⟨0,?_,?_⟩
  .simp only[j3G,hO,j0,hb,j4]
  .simp only[j4a,q2,j0,hb,j4]
theorem Vk(z:ZT)(d c:Int):∃L e,j19 z (d,c)=some (L,e)/\j2w z (d,c)=some (L,e)/\L.length<=1001:=by
 obtain⟨l,e,t1,t2,hl,hT⟩:=uY z;have hO:=yc t1;have q2:j0t (z.1,(z.2.1,z.2.2))=some (l,e):=t2;by_cases he:e=0
 case neg=>
  have hb:(e != 0)=true:=by simp[he]
  refine⟨[],8,?_,?_,by simp⟩
  .simp only[j19,j1i,hO,j0,hb,j4];rfl
  .simp only[j2w,q2,j0,hb,j4]
 subst he;have h:=hT rfl;by_cases hc:0<=c/\c<=86399
 case neg=>
  refine⟨[],1,?_,?_,by simp⟩
  .simp only[j19,j1i,hO,j0,je,j5,iO hc,jj,j4];rfl
  .simp only[j2w,q2,j0,je,j5,re hc,jj,j4]
 obtain⟨D,d1,d2,d3,d4,d5,d6⟩:=Ly d c hc.1 hc.2;obtain⟨k0,k1,k2,k3,k4,k5⟩:=Lr h;have hP:=Ls h k2 k3 k4;have hA:=Lu h d1 (by omega) (by omega) (show k0+(l.length+1-k0)=l.length+1 by omega) (l.length+1-k0) 0 [] (by omega) (by simp);rw[show ((0:Nat):Int)=0 from rfl,js,show k0+0=k0 from rfl,<-Vf h k1 k2 k5]at hA;have hp:j19 z (d,c)=some (gu z.2.1 l (D*86400+c) 0 (l.length+1),0):=by simp only[j19,j1i,hO,j0,je,j5,dJ hc.1 hc.2,jc,j3l,hP,AY,show Int.ofNat (l.length+1-k0)=((l.length+1-k0:Nat):Int) from rfl,hA]
 refine⟨_,0,hp,?_,qg (KN _ _ _) (by omega)⟩;by_cases hd : -2<=d/\d<=99422
 .have hB:=Ln h (nm:=z.1) (rs:=z.2.2) (d:=d) (c:=c) (by omega) (by omega) hc.1 hc.2 (l.length+1) 0 [] (by omega) (by simp);rw[show ((0:Nat):Int)-1 = -1 from rfl,js]at hB;simp only[j2w,q2,j0,je,j5,fE hc.1 hc.2,jc,j5K,fE hd.1 hd.2,hB];rw[d4 (by omega) (by omega)]
 .rw[Lw h (by omega) (l.length+1) 0 (by omega)];simp only[j2w,q2,j0,je,j5,fE hc.1 hc.2,jc,j5K,re hd,jj,j4]
theorem Vl(z:ZT)(d c:Int):∃v e,j2o z (d,c)=some (v,e)/\j40 z (d,c)=some (v,e):=by
 obtain⟨l,e,t1,t2,hl,hT⟩:=uY z;have hO:=yc t1;have q2:j0t (z.1,(z.2.1,z.2.2))=some (l,e):=t2;by_cases he:e=0
 case neg=>
  have hb:(e != 0)=true:=by simp[he]
  refine⟨0,8,?_,?_⟩
  .simp only[j2o,j1i,hO,j0,hb,j4];rfl
  .simp only[j40,q2,j0,hb,j4]
 subst he;have h:=hT rfl;by_cases hc:0<=c/\c<=86399
 case neg=>
  refine⟨0,1,?_,?_⟩
  .simp only[j2o,j1i,hO,j0,je,j5,iO hc,jj,j4];rfl
  .simp only[j40,q2,j0,je,j5,re hc,jj,j4]
 obtain⟨D,d1,d2,d3,d4,d5,d6⟩:=Ly d c hc.1 hc.2;obtain⟨k0,k1,k2,k3,k4,k5⟩:=Lr h;have hP:=Ls h k2 k3 k4;have hA:=Lv h d1 (by omega) (by omega) (show k0+(l.length+1-k0)=l.length+1 by omega) (l.length+1-k0) 0 (by omega);rw[show ((0:Nat):Int)=0 from rfl,show k0+0=k0 from rfl]at hA;have hp:j2o z (d,c)=some (match dM z.2.1 l (D*86400+c) k0 (l.length+1-k0) with|some t=>(t,0)|none=>(0,10)):=by simp only[j2o,j1i,hO,j0,je,j5,dJ hc.1 hc.2,jc,j2n,hP,AY,show Int.ofNat (l.length+1-k0)=((l.length+1-k0:Nat):Int) from rfl,hA];cases dM z.2.1 l (D*86400+c) k0 (l.length+1-k0)<;>rfl
 rw[hp];by_cases fm:d < -2
 .have hD:=d5 fm;refine⟨0,0,?_,?_⟩
  .obtain⟨n,hn⟩:∃n,l.length+1-k0=n+1:=⟨l.length-k0,by omega⟩;have o2:=h.of0 k0 k2;rw[hn];simp only[dM];rw[show max (aA l k0) (D*86400+c-bX z.2.1 l k0)=0 by omega,if_pos (by omega)]
  .simp only[j40,q2,j0,je,j5,fE hc.1 hc.2,jc];rw[aw fm,j4]
 by_cases hd:d<=99422
 .have hB:=Lp h (nm:=z.1) (rs:=z.2.2) (d:=d) (c:=c) (by omega) (by omega) hc.1 hc.2 (l.length+1) 0 (by omega);rw[show ((0:Nat):Int)-1 = -1 from rfl,Vg h k1 k2 k5]at hB;have hr:j40 z (d,c)=some (match dM z.2.1 l (d*86400+c) k0 (l.length+1-k0) with|some t=>(t,0)|none=>(0,10)):=by simp only[j40,q2,j0,je,j5,fE hc.1 hc.2,jc,j5K,fE (show (-2:Int)<=d by omega) hd,hB];rw[ay fm,j5];cases dM z.2.1 l (d*86400+c) k0 (l.length+1-k0)<;>rfl
  rw[hr,d4 (by omega) (by omega)];exact⟨_,_,rfl,rfl⟩
 .refine⟨0,10,?_,?_⟩
  .rw[Lx h (by omega) (l.length+1-k0) k0 (by omega)]
  .simp only[j40,q2,j0,je,j5,fE hc.1 hc.2,jc,j5K,re (show¬((-2:Int)<=d/\d<=99422) by omega),jj,j4];rw[ay fm];rfl
theorem Lz{l:aR}(hl:l.length<=4096):∀(n i:Nat),i+n=l.length->Af l l (l.length:Int) (i:Int)=some (.inr ())
 |0,i,hi=>by
  rw[JL];simp only[j2u];rw[ay (by omega),j5,bS]
 |n+1,i,hi=>by
  rw[JL];simp only[j2u];rw[aw (show (i:Int)<(l.length:Int) by omega),bG (by omega) (by omega),ak (x:=(i:Int)+1) (by omega) (by omega)];simp only[j4,beq_self_eq_true,Bool.and_self,jc,j5,bR];exact Lz hl n (i+1) (by omega)
theorem Vm{l:aR}(hl:l.length<=4096):j8p l l=some true:=by
 have:=Lz hl l.length 0 (by omega);rw[show ((0:Nat):Int)=0 from rfl]at this;simp only[j8p,je,j5,show Int.ofNat l.length=(l.length:Int) from rfl,this,j0,ln]
theorem LA{l:List Int}(hl:l.length<=4096):∀(n i:Nat),i+n=l.length->Ag l l (l.length:Int) (i:Int)=some (.inr ())
 |0,i,hi=>by
  rw[JP];simp only[j2x];rw[ay (by omega),j5,bS]
 |n+1,i,hi=>by
  rw[JP];simp only[j2x];rw[aw (show (i:Int)<(l.length:Int) by omega),bG (by omega) (by omega),ak (x:=(i:Int)+1) (by omega) (by omega)];simp only[j4,je,j5,bR];exact LA hl n (i+1) (by omega)
theorem Vn{l:List Int}(hl:l.length<=4096):j8s l l=some true:=by
 have:=LA hl l.length 0 (by omega);rw[show ((0:Nat):Int)=0 from rfl]at this;simp only[j8s,je,j5,show Int.ofNat l.length=(l.length:Int) from rfl,this,j0,ln]
theorem Vo{L:List Int}{a:Int}(h:sY L a){z:ZT}(hz:z.2.2.length<=100):∃y a',j9s L a z=some (y,L,a'):=by
 simp only[j9s,js,ku,ju,show Int.ofNat z.2.2.length=(z.2.2.length:Int) from rfl];rw[aw (show z.2.2.length<=cY by simp[cY];omega),j4];by_cases h0:z.2.2.length=0
 .obtain⟨x,a1,e1,_,_⟩:=uS h (xs:=[64800,64801, -64800, -64801,86400]) (by simp) (by simp);rw[show ((z.2.2.length:Int)==0)=true by simp[h0],j4,e1];exact⟨_,_,rfl⟩
 rw[jK (show (z.2.2.length:Int)≠0 by omega),j5];obtain⟨x1,a1,e1,_,_,d1⟩:=ic (n:=4) h (by omega) (by omega);simp only[j6g,e1,j0];cases (x1==w64 (4-1)) with
 |true=>obtain⟨x,a2,e2,_,_⟩:=uS d1 (xs:=[64800,64801, -64800, -64801,86400]) (by simp) (by simp);rw[j4,e2];exact⟨_,_,rfl⟩
 |false=>
  obtain⟨x2,a2,e2,l2,u2,d2⟩:=ic (n:=(z.2.2.length:Int)) d1 (by omega) (by omega);rw[j5,e2];simp only[j0];rw[bG l2 u2,j4];obtain⟨x3,a3,e3,_,_,d3⟩:=ic (n:=8) d2 (by omega) (by omega);rw[e3];simp only[j0]
  have pk:∀xs:List Int,0<xs.length->xs.length<=1000000->∃x a',j0T L a3 xs=some (x,L,a'):=λxs h1 h2=>by
   obtain⟨x,a',e,_,_⟩:=uS d3 h1 h2;exact⟨x,a',e⟩
  cases (x3==0) with
  |true=>obtain⟨x,a',e⟩:=pk [1969,1970,(z.2.2.getD x2.toNat ((0:Int),((0:Int),((0:Int),((0:Int),((0:Int),((0:Int),(0:Int)))))))).2.1,w64 ((z.2.2.getD x2.toNat ((0:Int),((0:Int),((0:Int),((0:Int),((0:Int),((0:Int),(0:Int)))))))).2.1+1)] (by simp) (by simp);rw[j4,e];exact⟨_,_,rfl⟩
  |false=>
  rw[j5];cases (x3==1) with
  |true=>obtain⟨x,a',e⟩:=pk [2240,2241,(z.2.2.getD x2.toNat ((0:Int),((0:Int),((0:Int),((0:Int),((0:Int),((0:Int),(0:Int)))))))).1] (by simp) (by simp);rw[j4,e];exact⟨_,_,rfl⟩
  |false=>
  rw[j5];cases (x3==2) with
  |true=>obtain⟨x,a',e⟩:=pk [0,12,13,1] (by simp) (by simp);rw[j4,e];exact⟨_,_,rfl⟩
  |false=>
  rw[j5];cases (x3==3) with
  |true=>obtain⟨x,a',e⟩:=pk [0,5,6] (by simp) (by simp);rw[j4,e];exact⟨_,_,rfl⟩
  |false=>
  rw[j5];cases (x3==4) with
  |true=>obtain⟨x,a',e⟩:=pk [-1,0,6,7] (by simp) (by simp);rw[j4,e];exact⟨_,_,rfl⟩
  |false=>
  rw[j5];cases (x3==5) with
  |true=>obtain⟨x,a',e⟩:=pk [-1,0,86399,86400] (by simp) (by simp);rw[j4,e];exact⟨_,_,rfl⟩
  |false=>
  rw[j5];cases (x3==6) with
  |true=>obtain⟨x,a',e⟩:=pk [64800,64801,z.2.1,w64 (z.2.1+86399),w64 (z.2.1+86400)] (by simp) (by simp);rw[j4,e];exact⟨_,_,rfl⟩
  |false=>
  rw[j5,bG (by omega) (by omega),j4];rw[aw (show z.2.2.length+_<=cY by simp[cY];omega),j4];obtain⟨x,a',e⟩:=pk [1,2,5] (by simp) (by simp);rw[e];simp only[j0,ja,jn,ku,ju];rw[show Int.ofNat (z.2.2.length+1)=((z.2.2.length+1:Nat):Int) from rfl,ak (by omega) (by omega),bG (by omega) (by omega),j4];exact⟨_,_,rfl⟩
theorem LB(z:ZT)(s2 s3 s4:Int)(ru:List ZT)(rv:Int)(tg:List Int)(th:Int)(L:aR):∀(n j:Nat),j+n=3->
  Ah s2 s3 s4 ru rv tg th L (j:Int) z.1 z.2.1 z.2.2=some (.inr (s2,s3,s4,ru,rv,tg,th,z.1,z.2.1,z.2.2))
 |0,j,hj=>by
  rw[JQ];simp only[j1I];rw[ay (by omega),j5,bS]
 |n+1,j,hj=>by
  obtain⟨F,e,f1,f2,f3⟩:=Vk z (L.getD j (0,0)).1 (L.getD j (0,0)).2;obtain⟨v,g,g1,g2⟩:=Vl z (L.getD j (0,0)).1 (L.getD j (0,0)).2;have f1:j19 (z.1,(z.2.1,z.2.2)) _=_:=f1;have f2:j2w (z.1,(z.2.1,z.2.2)) _=_:=f2;have g1:j2o (z.1,(z.2.1,z.2.2)) _=_:=g1;have g2:j40 (z.1,(z.2.1,z.2.2)) _=_:=g2;rw[JQ];simp only[j1I];rw[aw (show (j:Int)<3 by omega),bG (by omega) (by omega),ak (x:=(j:Int)+1) (by omega) (by omega)];simp only[j4,j6,f1,f2,g1,g2,Vn (show F.length<=4096 by omega),j0,je,jc,j5,bR];exact LB z s2 s3 s4 ru rv tg th L n (j+1) (by omega)
theorem LC(z:ZT)(s2 s3 s4:Int)(ru:List ZT)(rv:Int)(L:List Int):∀(n j:Nat),j+n=5->
  xB s2 s3 s4 ru rv L (j:Int) z.1 z.2.1 z.2.2=some (.inr (s2,s3,s4,ru,rv))
 |0,j,hj=>by
  rw[JR];simp only[j1J];rw[ay (by omega),j5,bS]
 |n+1,j,hj=>by
  obtain⟨v,e,v1,v2⟩:=Vh z (L.getD j 0);obtain⟨d,c,g,g1,g2,d0,d1⟩:=Vi z (L.getD j 0);have v1:j38 (z.1,(z.2.1,z.2.2)) _=_:=v1;have v2:j1X (z.1,(z.2.1,z.2.2)) _=_:=v2;have g1:j1W (z.1,(z.2.1,z.2.2)) _=_:=g1;have g2:j4b (z.1,(z.2.1,z.2.2)) _=_:=g2;have e4:=λT=>LB z s2 s3 s4 ru rv L (j:Int) T 3 0 (by omega);rw[show ((0:Nat):Int)=0 from rfl]at e4;rw[JR];simp only[j1J];rw[aw (show (j:Int)<5 by omega),bG (by omega) (by omega)];simp only[j4,j6,v1,v2,g1,g2,j0,je,beq_self_eq_true,Bool.and_self,jc,j5,xO s3 3 (by omega) (by omega),xO s4 86402 (by omega) (by omega),e4,ln,bR];rw[ak (x:=(j:Int)+1) (by omega) (by omega)];exact LC z s2 s3 s4 ru rv L n (j+1) (by omega)
theorem LD(s2 s3 s4:Int)(Z:List ZT):∀(n j:Nat),j+n=4->Aj s2 s3 s4 Z (j:Int)=some (.inr ())
 |0,j,hj=>by
  rw[JS];simp only[j1K];rw[ay (by omega),j5,bS]
 |n+1,j,hj=>by
  have ih:=LD s2 s3 s4 Z n (j+1) (by omega);generalize hz:Z.getD j (ByteArray.empty,((0:Int),([]:List aT)))=z;obtain⟨l,e,t1,t2,hl,_⟩:=uY z;obtain⟨v,v1,v2⟩:=Vj z;have t1:j0B (z.1,(z.2.1,z.2.2))=_:=t1;have t2:j0t (z.1,(z.2.1,z.2.2))=_:=t2;have v1:j3G (z.1,(z.2.1,z.2.2))=_:=v1;have v2:j4a (z.1,(z.2.1,z.2.2))=_:=v2;have c1:j8q (z.1,(z.2.1,z.2.2))=some e:=by simp only[j8q,t1,j0]
  have c2:j9x (z.1,(z.2.1,z.2.2))=some e:=by simp only[j9x,t2,j0]
  have e2:=λL=>LC z s2 s3 s4 Z (j:Int) L 5 0 (by omega);rw[show ((0:Nat):Int)=0 from rfl]at e2;rw[JS];simp only[j1K];rw[aw (show (j:Int)<4 by omega),bG (by omega) (by omega)];simp only[j4,j6,hz,t1,t2,v1,v2,c1,c2,Vm (show l.length<=4096 by omega),j0,je,jc,j5,show Int.ofNat l.length=(l.length:Int) from rfl];have m4:=xO s4 9 (by omega) (by omega);have m3:=xO s3 90000 (by omega) (by omega);by_cases h0:0<l.length
  .have m2:=xO s2 (l.length:Int) (by omega) (by omega);have:=Int.emod_nonneg s2 (show (l.length:Int)≠0 by omega);have:=Int.emod_lt_of_pos s2 (show (0:Int)<(l.length:Int) by omega);rw[aw (show (l.length:Int)>0 by omega),m2];simp only[j4,j0];rw[bG (by omega) (by omega)];simp only[j4,m4,m3,j0,e2,ln,bR];rw[ak (x:=(j:Int)+1) (by omega) (by omega)];exact ih
  .rw[ay (show¬(l.length:Int)>0 by omega)];simp only[j5,m4,m3,j0,e2,ln,bR];rw[ak (x:=(j:Int)+1) (by omega) (by omega)];exact ih
theorem jcz(raw:ZT)(_h0:Wf (.pair .str (.pair (.int .i64) (.list (.pair (.int .i64) (.pair (.int .i64) (.pair (.int .i64) (.pair (.int .i64) (.pair (.int .i64) (.pair (.int .i64) (.int .i64)))))))))) raw)
  (t:List Int)(_h1:Wf (.list (.int .i64)) t)(x:Int)(_h2:Wf (.int .i64) x)(day:Int)(_h3:Wf (.int .i64) day)(second:Int)(_h4:Wf (.int .i64) second):j5M raw t x day second=some true:=by
 simp only[j5M,ja2,j0,show Int.ofNat (List.length t)=(t.length:Int) from rfl,show Int.ofNat raw.2.2.length=(raw.2.2.length:Int) from rfl];by_cases yd:(raw.2.2.length:Int)>20
 .rw[aw yd];simp only[j4,Fj,j0]
 rw[ay yd,j5];by_cases hl:(t.length:Int)<=500
 .rw[aw hl];simp only[jc,j5,jbW,j0];obtain⟨o,rs,a1,e1,hm,d1⟩:=Uk (L:=t) (a:=0) ⟨by omega,by omega,by omega⟩ (ByteArray.mk #[97]);obtain⟨y,a2,e2⟩:=Vo d1 (z:=(ByteArray.mk #[97],(o,rs))) (by have:=hm.len;show rs.length<=100;omega);have hx:=λZ=>LD x day second Z 4 0 (by omega);rw[show ((0:Nat):Int)=0 from rfl]at hx;simp only[e1,e2,j5y,j0,hx,ln,Fj]
 .rw[ay hl];simp only[jj,j4,Fj,j0]
end Go.Proofs.Pw
