/- o4 4: tables of transitions of any FH. -/
import Derived.Test.YtbpjdcbbmibehaaZEPB
import Derived.Test.YtbpjdcbbmibehaaZEPE
import Derived.Test.YtbpjdcbbmibehaaZEPC
open Go Go.Lft
namespace Go.Proofs.Pw
structure TG(o:Int)(l:aR):Prop where
 len:l.length<=1000
 gap:∀i,i+1<l.length->cN l i+604800<=cN l (i+1)
 pos:∀i,i<l.length->0<=cN l i
 max:∀i,i<l.length->cN l i<=8589934592
 of0:∀i,i<=l.length -> -64800<=bX o l i
 of1:∀i,i<=l.length->bX o l i<=64800
section
variable{o:Int}{l:aR}(h:TG o l)
include h
theorem TG.at_lt:∀(k i:Nat),i+k+1<l.length->cN l i+604800<=cN l (i+k+1)
 |0,i,hk=>h.gap i hk
 |k+1,i,hk=>by
  have h1:=TG.at_lt k i (by omega);have h2:=h.gap (i+k+1) (by omega);rw[show i+(k+1)+1=i+k+1+1 by omega];omega
theorem TG.at_le{i j:Nat}(cC:i<j)(hj:j<l.length):cN l i+604800<=cN l j:=by
 have:=h.at_lt (j-i-1) i (by omega);rwa[show i+(j-i-1)+1=j by omega]at this
theorem TG.frm_le1{i:Nat}(hi:i<=l.length):aA l i<=aA l (i+1):=by
 rcases qc i l.length with hl|hl
 .rw[fp hl];cases i with
  |zero=>rw[mE];exact h.pos 0 hl
  |succ i=>rw[fp (by omega)];have:=h.gap i hl;omega
 .have:i=l.length:=by omega
  subst this;rw[kQ];cases hq:l.length with
  |zero=>rw[mE];omega
  |succ n=>rw[fp (by omega)];have:=h.max n (by omega);omega
theorem TG.frm_gap{i j:Nat}(hi:1<=i)(cC:i<j)(hj:j<=l.length):aA l i+604800<=aA l j:=by
 obtain⟨i,rfl⟩:∃i',i=i'+1:=⟨i-1,by omega⟩;obtain⟨j,rfl⟩:∃j',j=j'+1:=⟨j-1,by omega⟩;rw[fp (by omega),fp (by omega)];exact h.at_le (by omega) (by omega)
theorem TG.frm_le{i j:Nat}(cC:i<=j)(hj:j<=l.length+1):aA l i<=aA l j:=by
 induction j with
 |zero=>
  have:i=0:=by omega
  subst this;omega
 |succ j ih=>
  by_cases he:i=j+1
  .subst he;omega
  .have h1:=ih (by omega) (by omega);have h2:=h.frm_le1 (i:=j) (by omega);omega
theorem FI{t:Int}{k:Nat}(hk:k<=l.length)(fm:∀i,i<k->cN l i<=t)(gh:∀i,k<=i->i<l.length->t<cN l i) :
  ∀(n:Nat)(a b:Nat),b-a<=n->a<=k->k<=b->b<=l.length->uG o l t (a:Int) (b:Int)=some (k:Int)
 |0,a,b,hn,ha,hb,tX=>by
  rw[JB];simp only[j1U,ay (show¬(a:Int)<(b:Int) by omega),j5,bS];congr 1;omega
 |n+1,a,b,hn,ha,hb,tX=>by
  have hlen:=h.len;rw[JB];by_cases pL:a<b
  .have hm:IntKind.wrap .u64 ((a:Int)+(b:Int))=(a:Int)+(b:Int):=IntWalk.u64_in _ ⟨by omega,by omega⟩;have hd:Int.fdiv ((a:Int)+(b:Int)) 2=(((a+b)/2:Nat):Int):=by rw[Int.fdiv_eq_ediv_of_nonneg _ (by omega)];omega
   simp only[j1U,aw (show (a:Int)<(b:Int) by omega),j4];rw[ak (x:=(a:Int)+(b:Int)) (by omega) (by omega),hm,hd,ak (x:=(((a+b)/2:Nat):Int)) (by omega) (by omega)];simp only[j49];rw[bG (by omega) (by omega)];simp only[j4,j0,j6];by_cases hc:cN l ((a+b)/2)>t
   .rw[aw (show (l.getD ((a+b)/2) ((0:Int),(0:Int))).1>t from hc)];simp only[jc,j5,bR]
    have nu:k<=(a+b)/2:=by
     rcases qc ((a+b)/2) k with h'|h'
     .have:=fm _ h';omega
     .exact h'
    exact FI hk fm gh n a ((a+b)/2) (by omega) ha nu (by omega)
   .rw[ay (show¬(l.getD ((a+b)/2) ((0:Int),(0:Int))).1>t from hc)];simp only[jj,j4,bR];rw[ak (by omega) (by omega)]
    have nu:(a+b)/2<k:=by
     rcases qc ((a+b)/2) k with h'|h'
     .exact h'
     .have:=gh _ h' (by omega);omega
    exact FI hk fm gh n ((a+b)/2+1) b (by omega) (by omega) hb tX
  .simp only[j1U,ay (show¬(a:Int)<(b:Int) by omega),j5,bS];congr 1;omega
theorem K9{t:Int}{k:Nat}(hk:k<=l.length)(h1:aA l k<=t)(h2:t<aA l (k+1)):j1M (o,l) t=some (k:Int):=by
 have fm:∀i,i<k->cN l i<=t:=by
  intro i hi;have:aA l k=cN l (k-1):=by have:=fp (l:=l) (i:=k-1) (by omega);rwa[show k-1+1=k by omega]at this
  rw[this]at h1;by_cases he:i=k-1
  .subst he;exact h1
  .have:=h.at_le (i:=i) (j:=k-1) (by omega) (by omega);omega
 have gh:∀i,k<=i->i<l.length->t<cN l i:=by
  intro i hi hl;have:aA l (k+1)=cN l k:=fp (by omega);rw[this]at h2;by_cases he:i=k
  .subst he;exact h2
  .have:=h.at_le (i:=k) (j:=i) (by omega) hl;omega
 have:=FI h hk fm gh l.length 0 l.length (by omega) (by omega) hk (by omega);simp only[j1M,j4Q,show Int.ofNat (List.length l)=(l.length:Int) from rfl];rw[show (0:Int)=((0:Nat):Int) from rfl,this];rfl
theorem La{k:Nat}(hk:k<=l.length):j2e (o,l) (k:Int)=some (bX o l k):=by
 have hlen:=h.len;unfold bX;by_cases h0:k=0
 .subst h0;rfl
 .simp only[j2e];rw[jK (show (k:Int)≠0 by omega),j5,ak (by omega) (by omega),bG (by omega) (by omega),show ((k:Int)-1).toNat=k-1 by omega,if_neg h0];rfl
theorem Lb{t:Int}{k:Nat}(hk:k<=l.length)(h1:aA l k<=t)(h2:t<aA l (k+1)):j1v (o,l) t=some (bX o l k):=by
 simp only[j1v,K9 h hk h1 h2,j0,La h hk]
theorem Lc{t:Int}(h0:0<=t)(h1:t<=8589934592):∃k,k<=l.length/\aA l k<=t/\t<aA l (k+1):=by
 have _:=h
 have:∀n,n<=l.length+1->t<aA l n->∃k,k<n/\aA l k<=t/\t<aA l (k+1):=by
  intro n;induction n with
  |zero=>intro _ hn;have:aA l 0=0:=rfl;omega
  |succ n ih=>
   intro hn ax;by_cases hc:aA l n<=t
   .exact⟨n,by omega,hc,ax⟩
   .obtain⟨k,a1,a2,a3⟩:=ih (by omega) (by omega);exact⟨k,by omega,a2,a3⟩
 have bL:aA l (l.length+1)=8589934593:=kQ;obtain⟨k,a1,a2,a3⟩:=this (l.length+1) (by omega) (by omega);exact⟨k,by omega,a2,a3⟩
theorem U9{t:Int}{k:Nat}(hk:k<=l.length)(h1:aA l k<=t)(h2:t<aA l (k+1)):j27 (o,l) t=some ((t+bX o l k)/86400,(t+bX o l k)%86400):=by
 have o1:=h.of0 k hk;have o2:=h.of1 k hk;have g1:0<=aA l k:=by have:=h.frm_le (i:=0) (j:=k) (by omega) (by omega);have e:aA l 0=0:=rfl;omega
 have bL:aA l (l.length+1)=8589934593:=kQ;have g2:=h.frm_le (i:=k+1) (j:=l.length+1) (by omega) (by omega);simp only[j27,Lb h hk h1 h2,j0];rw[ak (x:=t+bX o l k) (by omega) (by omega),SV (by omega) (by omega)];rfl
theorem Ld{t:Int}{k:Nat}(hk:k<=l.length)(h1:aA l k<=t)(h2:t<aA l (k+1)):∀(n i:Nat),i+n=k->xz l t (bX o l i) (i:Int)=some (bX o l k)
 |0,i,hi=>by
  have hi:i=k:=by omega
  subst hi;have hlen:=h.len;rw[JM];simp only[j2v,show Int.ofNat (List.length l)=(l.length:Int) from rfl];by_cases ax:i<l.length
  .have e:aA l (i+1)=cN l i:=fp ax;rw[bG (by omega) (by omega),aw (show (i:Int)<(l.length:Int) by omega)];simp only[Bool.true_or,j4,j6];rw[ay (show¬(l.getD i ((0:Int),(0:Int))).1<=t by show¬cN l i<=t;omega),j5,bS]
  .rw[ay (show¬(i:Int)<(l.length:Int) by omega)];simp only[jj,Bool.or_true,j4,j5,bS]
 |n+1,i,hi=>by
  have hlen:=h.len;have ax:i<l.length:=by omega
  have e:aA l (i+1)=cN l i:=fp ax;have hle:=h.frm_le (i:=i+1) (j:=k) (by omega) (by omega);rw[JM];simp only[j2v,show Int.ofNat (List.length l)=(l.length:Int) from rfl];rw[bG (by omega) (by omega),aw (show (i:Int)<(l.length:Int) by omega)];simp only[Bool.true_or,j4,j6];rw[aw (show (l.getD i ((0:Int),(0:Int))).1<=t by show cN l i<=t;omega),j4,ak (by omega) (by omega),bR];exact Ld hk h1 h2 n (i+1) (by omega)
theorem Le{nm:ByteArray}{rs:List aT}{t:Int}{k:Nat}(hk:k<=l.length)(h1:aA l k<=t)(h2:t<aA l (k+1)):j8r (nm,(o,rs)) l t=some (bX o l k):=by
 have:=Ld h hk h1 h2 k 0 (by omega);simp only[j8r];rw[show xz l t o 0=_ from this];rfl
theorem TG.frm_lt{i:Nat}(hi:i<=l.length)(h0:0<i):aA l i<aA l (i+1):=by
 rcases qc i l.length with hl|hl
 .have:=h.frm_gap (i:=i) (j:=i+1) h0 (by omega) (by omega);omega
 .have:i=l.length:=by omega
  subst this;obtain⟨n,hn⟩:∃n,l.length=n+1:=⟨l.length-1,by omega⟩;rw[kQ,show aA l l.length=cN l n by rw[hn];exact fp (by omega)];have:=h.max n (by omega);omega
theorem TG.frm_rng{i:Nat}(hi:i<=l.length+1):0<=aA l i/\aA l i<=8589934593:=by
 have a:=h.frm_le (i:=0) (j:=i) (by omega) hi;have b:=h.frm_le (i:=i) (j:=l.length+1) hi (by omega);rw[mE]at a;rw[kQ]at b;exact⟨a,b⟩
end
theorem Lf(x:Int×Int):∀rp:aR,cg rp.reverse->bj aa x rp.reverse=(e8 x rp).reverse
 |[],_=>rfl
 |y::ys,h=>by
  simp only[e8];rw[List.reverse_cons]at h ⊢;by_cases hx:x.1<y.1
  .rw[if_pos hx,FF hx,Lf x ys (h.sub (List.sublist_append_left _ _)),List.reverse_cons]
  .rw[if_neg hx,FE (λz hz=>?_)]
   .simp
   .show¬x.1<z.1;rcases jq.1 hz with hz|hz
    .have:z.1<=y.1:=(List.pairwise_append.1 h).2.2 z hz y (by simp);omega
    .simp at hz;subst hz;exact hx
theorem Va(x:Int×Int){l:aR}(h:cg l):cg (bj aa x l):=by
 have:=AO (key:=aa) (R:=λ_ _=>True) x l (h.imp λ{y z} yb=>by
  have yb:aa y<=aa z:=yb;rcases Int.lt_or_eq_of_le yb with h|h
  .exact .inl h
  .exact .inr ⟨h,trivial⟩) (λ_ _=>trivial)
 exact this.imp λ{y z} yb=>by
  show aa y<=aa z;rcases yb with h|h
  .omega
  .omega
theorem Lg:∀(l acc:aR),cg acc->l.foldl (λa x=>bj aa x a) acc=(eK l acc.reverse).reverse
 |[],acc,_=>by simp[eK]
 |x::l,acc,h=>by
  have e:=Lf x acc.reverse (by rwa[qb]);rw[qb]at e;simp only[List.foldl_cons,eK];rw[Lg l _ (Va x h),e,qb]
theorem Vb(l:aR):bq aa l=cD l:=Lg l [] List.Pairwise.nil
theorem rm(n lo hi:Int):(j3m n lo hi=some true/\j3Z n lo hi=some true/\lo<=n/\n<=hi)\/(j3m n lo hi=some false/\j3Z n lo hi=some false):=by
 by_cases h:lo<=n/\n<=hi
 .exact .inl ⟨dJ h.1 h.2,dJ h.1 h.2,h.1,h.2⟩
 .exact .inr ⟨iO h,iO h⟩
theorem Vc(r:aT):(j58 r=some 0/\j59 r=some true/\e9 r)\/(j58 r=some 1/\j59 r=some false):=by
 simp only[j58,j59];rcases rm r.1 1970 2240 with⟨a,b,c1,c2⟩|⟨a,b⟩
 case inr=>simp only[a,b,j0,jj,j4,j5];exact .inr ⟨trivial,trivial⟩
 rw[a,b];simp only[j0,jc,j4,j5];clear a b;rcases rm r.2.1 r.1 2240 with⟨a,b,d1,d2⟩|⟨a,b⟩
 case inr=>simp only[a,b,j0,jj,j4,j5];exact .inr ⟨trivial,trivial⟩
 rw[a,b];simp only[j0,jc,j4,j5];clear a b;rcases rm r.2.2.1 1 12 with⟨a,b,e1,e2⟩|⟨a,b⟩
 case inr=>simp only[a,b,j0,jj,j4,j5];exact .inr ⟨trivial,trivial⟩
 rw[a,b];simp only[j0,jc,j4,j5];clear a b;rcases rm r.2.2.2.1 1 5 with⟨a,b,f1,f2⟩|⟨a,b⟩
 case inr=>simp only[a,b,j0,jj,j4,j5];exact .inr ⟨trivial,trivial⟩
 rw[a,b];simp only[j0,jc,j4,j5];clear a b;rcases rm r.2.2.2.2.1 0 6 with⟨a,b,g1,g2⟩|⟨a,b⟩
 case inr=>simp only[a,b,j0,jj,j4,j5];exact .inr ⟨trivial,trivial⟩
 rw[a,b];simp only[j0,jc,j4,j5];clear a b;rcases rm r.2.2.2.2.2.1 0 86399 with⟨a,b,i1,i2⟩|⟨a,b⟩
 case inr=>simp only[a,b,j0,jj,j4,j5];exact .inr ⟨trivial,trivial⟩
 rw[a,b];simp only[j0,jc,j4,j5];clear a b;rcases rm r.2.2.2.2.2.2 (-64800) 64800 with⟨a,b,j1,j2⟩|⟨a,b⟩
 case inr=>simp only[a,b,j0,jj,j4];exact .inr ⟨trivial,trivial⟩
 rw[a,b];simp only[j0,jc,j5];exact .inl ⟨trivial,trivial,c1,d1,d2,e1,e2,f1,f2,g1,g2,i1,i2,j1,j2⟩
theorem Lh{rs:List aT}(hlen:rs.length<=100)(nm:ByteArray)(o:Int):∀(n i:Nat)(s:Int),i+n=rs.length->0<=s->s<=300*i->¬(∀r∈rs.drop i,e9 r)->
  qV s rs (rs.length:Int) (i:Int) nm o rs=some (.inl 1)/\uK s (i:Int) nm o rs=some (.inl 1)
 |0,i,s,hi,_,_,hb=>by
  rw[jh (by omega)]at hb;exact absurd (λr hr=>by simp at hr) hb
 |n+1,i,s,hi,il,gC,hb=>by
  have ax:i<rs.length:=by omega
  have hg:rs.getD i ((0:Int),((0:Int),((0:Int),((0:Int),((0:Int),((0:Int),(0:Int)))))))=rs[i]:=by simp[ax]
  rw[Ee,Ef];simp only[j1d,j1k,show Int.ofNat (List.length rs)=(rs.length:Int) from rfl];rw[aw (show (i:Int)<(rs.length:Int) by omega),bG (by omega) (by omega)];simp only[j4,j6,hg];rcases Vc rs[i]with⟨a,b,hr⟩|⟨a,b⟩
  .have h0:=hr.y0;have h1:=hr.y1;have h2:=hr.y2
   have ih:=Lh hlen nm o n (i+1) (s+(rs[i].2.1-rs[i].1+1)) (by omega) (by omega) (by omega) (λh=>hb λr AX=>by
    rw[jo ax]at AX;rcases jf.1 AX with rfl|AX
    .exact hr
    .exact h r AX)
   simp only[a,b,j0,je,jc,j5,bR];rw[ak (x:=rs[i].2.1-rs[i].1) (by omega) (by omega),ak (x:=rs[i].2.1-rs[i].1+1) (by omega) (by omega),ak (x:=s+(rs[i].2.1-rs[i].1+1)) (by omega) (by omega),ak (x:=(i:Int)+1) (by omega) (by omega)];exact ih
  .simp only[a,b,j0,jj,j4,bS];exact⟨rfl,trivial⟩
def kU(now:Int)(p:Option Int):aR->Option aR
 |[]=>some []
 |x::r=>if x.2=now then kU now p r else
  if -86400<x.2-now/\x.2-now<86400/\0<=x.1-now/\x.1-now<=8589934592/\(p.all λq=>decide (q+604800<=x.1-now))=true then (kU x.2 (some (x.1-now)) r).map ((x.1-now,x.2):: ·) else none
def mP(acc:aR):Option aR->Int ⊕ aR
 |none=> .inl 6
 |some l=> .inr (acc++l)
theorem Li(acc:aR)(y:Int×Int)(q:Option aR):mP acc (q.map (y :: ·))=mP (acc++[y]) q:=by
 cases q with
 |none=>rfl
 |some l=>simp[mP]
def OB(L:aR):Prop:=∀x∈L,(-1000000000000<=x.1/\x.1<=1000000000000) /\ -64800<=x.2/\x.2<=64800
theorem jmp{acc:aR}(h:acc≠[]):acc.getLast? = some (acc.getD (acc.length-1) (0,0)):=by
 have bZ:0<acc.length:=kc.2 h;rw[List.getLast?_eq_getElem?,jl,jt (show acc.length-1<acc.length by omega)];rfl
theorem Lj{L:aR}(hL:L.length<=1000)(hO:OB L):∀(n i:Nat)(now:Int)(acc:aR),i+n=L.length -> -64800<=now->now<=64800->acc.length<=i->(∀x∈acc,0<=x.1/\x.1<=8589934592)->
  qW now (L.length:Int) (i:Int) acc L=some (mP acc (kU now (acc.getLast?.map (·.1)) (L.drop i)))/\uL now (i:Int) acc L=some (mP acc (kU now (acc.getLast?.map (·.1)) (L.drop i)))
 |0,i,now,acc,hi,_,_,_,_=>by
  rw[zZ,Ae,jh (by omega)];simp only[j11,j13,show Int.ofNat (List.length L)=(L.length:Int) from rfl];rw[ay (show¬(i:Int)<(L.length:Int) by omega)];simp only[j5,bS,kU,mP,jw];exact⟨trivial,trivial⟩
 |n+1,i,now,acc,hi,iy,gE,kI,fa=>by
  have ax:i<L.length:=by omega
  obtain⟨⟨x0,x1⟩,o0,o1⟩:=hO _ (qh ax);have xX:L.getD i ((0:Int),(0:Int))=L[i]:=by simp[ax]
  have Lk:=λnow acc=>Lj hL hO n (i+1) now acc;rw[jo ax,zZ,Ae];simp only[j11,j13,show Int.ofNat (List.length L)=(L.length:Int) from rfl];rw[aw (show (i:Int)<(L.length:Int) by omega),bG (by omega) (by omega)];simp only[j4,j6,xX];generalize L[i]=x at *;rw[ak (x:=(i:Int)+1) (by omega) (by omega)];simp only[kU,show Int.ofNat (List.length acc)=(acc.length:Int) from rfl];by_cases hx:x.2=now
  .rw[if_pos hx,qZ hx];simp only[j4,bR];exact Lk now acc (by omega) iy gE (by omega) fa
  rw[if_neg hx,jK hx,ak (x:=x.1-now) (by omega) (by omega),ak (x:=x.2-now) (by omega) (by omega),ak (x:=(acc.length:Int)-1) (by omega) (by omega)];simp only[j5]
  have FJ:∀b:Bool,(b=true->0<acc.length)->(inR ((acc.length:Int)-1) acc.length || !b)=true:=λb hb=>by
   cases b with
   |false=>simp
   |true=>have:=hb rfl;rw[bG (by omega) (by omega)];rfl
  by_cases hd : -86400<x.2-now/\x.2-now<86400
  case neg=>rw[if_neg (λh=>hd ⟨h.1,h.2.1⟩),re (λh=>hd ⟨by omega,by omega⟩)];rw[show (cond (decide (x.2-now>=86400)) true (decide (x.2-now <= -86400)))=true by simp only[Bool.cond_true_left,qe,jg];omega];rw[FJ _ (by simp)];simp only[j4,bS,j0,jj,mP];exact⟨trivial,trivial⟩
  rw[show (cond (decide (x.2-now>=86400)) true (decide (x.2-now <= -86400)))=false by rw[qk];simp only[ne_eq,Bool.cond_true_left,qe,jg];omega,
   fE (show (-86399:Int)<=x.2-now by omega) (show x.2-now<=86399 by omega)]
  simp only[j5,j0,jc];by_cases ha:0<=x.1-now/\x.1-now<=8589934592
  case neg=>rw[if_neg (λh=>ha ⟨h.2.2.1,h.2.2.2.1⟩),iO ha,re ha];simp only[j0];rw[FJ _ (by simp)];simp only[jj,j4,bS,mP];exact⟨trivial,trivial⟩
  rw[dJ ha.1 ha.2,fE ha.1 ha.2];simp only[j0,jc,j5,jj,Bool.true_and]
  have dy:=Lk x.2 (acc++[(x.1-now,x.2)]) (by omega) o0 o1 (by simp;omega) (λy hy=>by
   rcases jq.1 hy with hy|hy
   .exact fa y hy
   .simp at hy;subst hy;exact ha)
  rw[show (acc++[(x.1-now,x.2)]).getLast? = some (x.1-now,x.2) by simp,ki]at dy;by_cases he:acc=[]
  .subst he;simp only[ku,List.getLast?_nil,Option.map_none,Option.all_none];rw[show decide (((0:Nat):Int)>0)=false from rfl,if_pos ⟨hd.1,hd.2,ha.1,ha.2,trivial⟩,Li];simp only[jj,Bool.or_true,j4,j5];rw[aw (by simp[cY])];simp only[j4,bR];exact dy
  .have bZ:0<acc.length:=kc.2 he;have bL:=jmp he;have hb:=fa (acc.getD (acc.length-1) (0,0)) (List.mem_of_getLast? bL);rw[FJ _ (λ_=>bZ),bG (by omega) (by omega),aw (show (acc.length:Int)>0 by omega),show ((acc.length:Int)-1).toNat=acc.length-1 by omega,bL];simp only[j4,ki,Option.all_some];generalize acc.getD (acc.length-1) ((0:Int),(0:Int))=y at *;rw[ak (x:=y.1+604800) (by omega) (by omega),ak (x:=x.1-now-y.1) (by omega) (by omega)];by_cases hg:y.1+604800<=x.1-now
   .rw[if_pos ⟨hd.1,hd.2,ha.1,ha.2,aw hg⟩,Li,ay (show¬x.1-now<y.1+604800 by omega),ay (show¬x.1-now-y.1<604800 by omega),aw (by simp[cY];omega)];simp only[j4,j5,bR];exact dy
   .rw[if_neg (λh=>hg (qd h.2.2.2.2)),aw (show x.1-now<y.1+604800 by omega),aw (show x.1-now-y.1<604800 by omega)];simp only[j4,bS,mP];exact⟨trivial,trivial⟩
def FK(p:Option Int):aR->Prop
 |[]=>True
 |x::r=>(0<=x.1/\x.1<=8589934592/\(∀q,p=some q->q+604800<=x.1) /\ -64800<=x.2/\x.2<=64800)/\FK (some x.1) r
theorem FL:∀(L l:aR)(now:Int)(p:Option Int),OB L->kU now p L=some l->FK p l/\l.length<=L.length
 |[],l,now,p,_,h=>by
  simp only[kU,j3]at h;subst h;exact⟨trivial,jm _⟩
 |x::r,l,now,p,hO,h=>by
  have hx:=(hO x (by simp)).2;have hr:OB r:=λy hy=>hO y (by simp[hy]);simp only[kU]at h;split at h
  .obtain⟨a,b⟩:=FL r l now p hr h;exact⟨a,by simp;omega⟩
  split at h
  .next hc=>
   cases hq:kU x.2 (some (x.1-now)) r with
   |none=>rw[hq]at h;simp at h
   |some l'=>rw[hq]at h;simp only[ki,j3]at h;subst h;obtain⟨a,b⟩:=FL r l' _ _ hr hq;obtain⟨c1,c2,c3,c4,c5⟩:=hc;exact⟨⟨⟨c3,c4,λq hq=>by subst hq;simpa using c5,hx⟩,a⟩,by simp;omega⟩
  .simp at h
theorem Ll:∀(l:aR)(p:Option Int),FK p l->(∀i,i+1<l.length->cN l i+604800<=cN l (i+1))/\(∀i,i<l.length->0<=cN l i/\cN l i<=8589934592)/\
  (∀o i, -64800<=o->o<=64800->i<=l.length -> -64800<=bX o l i/\bX o l i<=64800)
 |[],_,_=>⟨λi h=>by simp at h,λi h=>by simp at h,λo i h1 h2 h3=>by
  have:i=0:=by simpa using h3
  subst this;exact⟨h1,h2⟩⟩
 |x::r,p,h=>by
  obtain⟨⟨g3,g4,g5,g6,g7⟩,g8⟩:=h;obtain⟨h1,h2,h3⟩:=Ll r _ g8;refine⟨λi hi=>?_,λi hi=>?_,λo i gI eX hi=>?_⟩
  .cases i with
   |zero=>
    cases r with
    |nil=>simp at hi
    |cons y ys=>have:=g8.1.2.2.1 _ rfl;exact this
   |succ i=>exact h1 i (by simp at hi ⊢;omega)
  .cases i with
   |zero=>exact⟨g3,g4⟩
   |succ i=>exact h2 i (by simp at hi ⊢;omega)
  .cases i with
   |zero=>exact⟨gI,eX⟩
   |succ i=>
    cases i with
    |zero=>exact⟨g6,g7⟩
    |succ i=>exact h3 x.2 (i+1) g6 g7 (by simp at hi ⊢;omega)
theorem Vd{rs:List aT}(h:∀r∈rs,e9 r):OB (cD (occs rs)):=λx hx=>by
 have hx:=Ut hx;obtain⟨r,hr,j,_,rfl⟩:=Uu hx;exact⟨Fl h _ hx,(h r hr).o0,(h r hr).o1⟩
theorem uY(z:ByteArray×(Int×List aT)):∃l e,j0B z=some (l,e)/\j0t z=some (l,e)/\l.length<=1000/\(e=0->TG z.2.1 l):=by
 obtain⟨nm,o,rs⟩:=z;rcases rm o (-64800) 64800 with⟨a,b,o0,o1⟩|⟨a,b⟩
 case inr=>
  refine⟨[],1,?_,?_,by simp,by simp⟩
  .simp only[j0B,j10,a,j0,jj,j4];rfl
  .simp only[j0t,b,j0,jj,j4]
 by_cases h16:rs.length>16
 .refine⟨[],5,?_,?_,by simp,by simp⟩
  .simp only[j0B,j10,a,j0,jc,j5,show Int.ofNat (List.length rs)=(rs.length:Int) from rfl];rw[aw (show (rs.length:Int)>16 by omega)];rfl
  .simp only[j0t,b,j0,jc,j5,show Int.ofNat (List.length rs)=(rs.length:Int) from rfl];rw[aw (show (rs.length:Int)>16 by omega)];rfl
 by_cases ah:∀r∈rs,e9 r
 case neg=>
  have hb:=Lh (rs:=rs) (by omega) nm o rs.length 0 0 (by omega) (by omega) (by omega) (by rwa[qx]);rw[show ((0:Nat):Int)=0 from rfl]at hb;refine⟨[],1,?_,?_,by simp,by simp⟩
  .simp only[j0B,j10,a,j0,jc,j5,show Int.ofNat (List.length rs)=(rs.length:Int) from rfl];rw[ay (show¬(rs.length:Int)>16 by omega),j5,hb.1];rfl
  .simp only[j0t,b,j0,jc,j5,show Int.ofNat (List.length rs)=(rs.length:Int) from rfl];rw[ay (show¬(rs.length:Int)>16 by omega),j5,hb.2];rfl
 have e0:=Fo ah (by omega) nm o rs.length 0 0 (by omega) (by omega) (by omega);have e2:=Fm ah (by omega) rs.length 0 [] (by omega) (by simp);have e3:=Fw ah (by omega) nm o rs.length 0 0 (by omega) (by omega) (by omega);rw[qx]at e0 e2 e3;rw[show ((0:Nat):Int)=0 from rfl,Int.zero_add]at e0 e3;rw[show ((0:Nat):Int)=0 from rfl,js]at e2;by_cases hn:(occs rs).length>640
 .refine⟨[],5,?_,?_,by simp,by simp⟩
  .simp only[j0B,j10,a,j0,jc,j5,show Int.ofNat (List.length rs)=(rs.length:Int) from rfl];rw[ay (show¬(rs.length:Int)>16 by omega),j5,e0];simp only[j0,ln];rw[aw (show ((occs rs).length:Int)>640 by omega)];rfl
  .simp only[j0t,b,j0,jc,j5,show Int.ofNat (List.length rs)=(rs.length:Int) from rfl];rw[ay (show¬(rs.length:Int)>16 by omega),j5,e3];simp only[j0,ln];rw[aw (show ((occs rs).length:Int)>640 by omega)];rfl
 have DE:j03 (occs rs)=some (cD (occs rs)):=by rw[U8 (l:=occs rs) (λx hx=>Fl ah x hx) (by omega),Vb]
 have hl:(cD (occs rs)).length<=640:=by simp[cD,xK];omega
 have Lm:=Vd ah;obtain⟨t1,t2⟩:=Lj (L:=cD (occs rs)) (by omega) Lm (cD (occs rs)).length 0 o [] (by omega) o0 o1 (by simp) (by simp);rw[show ((0:Nat):Int)=0 from rfl,qx,show (([]:aR).getLast?.map (·.1))=(none:Option Int) from rfl]at t1 t2;have f1:j0B (nm,(o,rs))=(some (mP [] (kU o none (cD (occs rs))))).bind λq0=>sumC q0 (λa=>some (([]:aR),a)) (λb=>some (b,(0:Int))):=by simp only[j0B,j10,a,j0,jc,j5,show Int.ofNat (List.length rs)=(rs.length:Int) from rfl];rw[ay (show¬(rs.length:Int)>16 by omega),j5,e0];simp only[j0,ln];rw[ay (show¬((occs rs).length:Int)>640 by omega),j5,show Int.ofNat (List.length rs)=(rs.length:Int) from rfl,e2];simp only[j0,DE,je,j5,show Int.ofNat (cD (occs rs)).length=((cD (occs rs)).length:Int) from rfl,t1]
 have f2:j0t (nm,(o,rs))=(some (mP [] (kU o none (cD (occs rs))))).bind λq0=>sumC q0 (λa=>some (([]:aR),a)) (λb=>some (b,(0:Int))):=by simp only[j0t,b,j0,jc,j5,show Int.ofNat (List.length rs)=(rs.length:Int) from rfl];rw[ay (show¬(rs.length:Int)>16 by omega),j5,e3];simp only[j0,ln];rw[ay (show¬((occs rs).length:Int)>640 by omega),j5,KM ah (by omega)];simp only[j0,t2]
 cases hq:kU o none (cD (occs rs)) with
 |none=>rw[hq]at f1 f2;exact⟨[],6,f1,f2,by simp,by simp⟩
 |some l=>rw[hq]at f1 f2;obtain⟨hc,hlen⟩:=FL _ _ _ _ Lm hq;obtain⟨c1,c2,c3⟩:=Ll l none hc;exact⟨l,0,f1,f2,by omega,λ_=>⟨by omega,c1,λi hi=>(c2 i hi).1,λi hi=>(c2 i hi).2,λi hi=>(c3 o i o0 o1 hi).1,λi hi=>(c3 o i o0 o1 hi).2⟩⟩
end Go.Proofs.Pw
