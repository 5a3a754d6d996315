/- gX 5, the reference: the times of J6 are the Bv form of their GI. -/
import Derived.Test.YtjpgjpnfacnmaaaGreatLSPF
import Derived.Test.YtjpgjpnfacnmaaaGreatLSPM
import Derived.Test.YtjpgjpnfacnmaaaGreatLSPE
import Derived.Test.YtjpgjpnfacnmaaaGreatLSPG
open Go Go.Lft
namespace Go.Proofs.Pw
theorem jzN:∀{A B:SL}{lo mid:Int},jP lo A->jP mid B->lo<=mid->(∀s∈A,s.2<=mid)->jP lo (A++B)
 |[],B,lo,mid,_,hB,h,_=>hB.weak h
 |s::A,B,lo,mid,hA,hB,h,hs=>⟨hA.1,hA.2.1,jzN hA.2.2 hB (hs s (by simp)) (λu hu=>hs u (by simp[hu]))⟩
theorem jBl{f lo:Int}:∀{l:SL},jP lo l->(∀s∈l,f<=s.1)->jP f l
 |[],_,_=>trivial
 |s::r,h,hf=>⟨hf s (by simp),h.2⟩
theorem jvG:∀{A:SL}{p:Int}{x:Int×Int},bP p A->p<x.1->(∀s∈A,s.2<x.1)->x.1<x.2->bP p (A++[x])
 |[],_,_,_,hp,_,hx=>⟨hp,hx,trivial⟩
 |s::A,p,x,h,_,hs,hx=>⟨h.1,h.2.1,jvG h.2.2 (hs s (by simp)) (λu hu=>hs u (by simp[hu])) hx⟩
theorem jvH:∀{A:SL}{p e:Int}{y:Int×Int},bP p (A++[y])->y.2<=e->bP p (A++[(y.1,e)])
 |[],_,_,_,h,he=>⟨h.1,by have:=h.2.1;dsimp only;omega,trivial⟩
 |_::A,_,_,_,h,he=>⟨h.1,h.2.1,jvH h.2.2 he⟩
theorem jCn:∀{A:SL}{p:Int}{y:Int×Int},bP p (A++[y])->∀s∈A,s.2<y.1
 |[],_,_,_,s,hs=>by simp at hs
 |u::A,p,y,h,s,hs=>by
  have low:∀{A:SL}{p:Int},bP p (A++[y])->p<y.1:=by
   intro A;induction A with
   |nil=>intro p h;exact h.1
   |cons v r ih=>intro p h;have:=ih h.2.2;have:=h.1;have:=h.2.1;omega
  rcases je.1 hs with rfl|hs
  .exact low h.2.2
  .exact jCn h.2.2 s hs
def iy(l:SL)(x:Int×Int):SL:=cond (decide (0<l.length)&&decide ((l.getD (l.length-1) (0,0)).2=x.1)) (l.set (l.length-1) ((l.getD (l.length-1) (0,0)).1,x.2)) (l++[x])
theorem jzO(l:SL)(x:Int×Int):(iy l x).length<=l.length+1:=by
 unfold iy;cases (decide (0<l.length)&&decide ((l.getD (l.length-1) (0,0)).2=x.1))<;>simp
theorem jFk{p:Int}{l:SL}{x:Int×Int}(h:bP p l)(hp:p<x.1)(hx:x.1<x.2)(hl:∀s∈l,s.2<=x.1) :
  bP p (iy l x)/\(∀y,bt y (iy l x)↔bt y l\/(x.1<=y/\y<x.2))/\(∀s∈iy l x,s.2<=x.2):=by
 rcases va l with rfl|⟨A,u,rfl⟩
 .refine⟨⟨hp,hx,trivial⟩,λy=>?_,λs hs=>?_⟩
  .show bt y [x]↔_;rw[eU];constructor
   .rintro (h|h)
    .exact .inr h
    .exact absurd h fU
   .rintro (h|h)
    .exact absurd h fU
    .exact .inl h
  .have:s=x:=by simpa[iy]using hs
   rw[this];exact k9 _
 .rw[vb]at h hl ⊢;have ak:=jCn h;have hu:=hl u (by simp);have hg:(A++[u]).getD ((A++[u]).length-1) ((0:Int),(0:Int))=u:=by simp[List.getD]
  unfold iy;rw[hg];by_cases he:u.2=x.1
  .rw[ag (by simp),ag he];simp only[vu,j6];have jT:(A++[u]).set ((A++[u]).length-1) (u.1,x.2)=A++[(u.1,x.2)]:=by simp
   rw[jT];refine⟨jvH h (by omega),λy=>?_,λs hs=>?_⟩
   .rw[xn,xn,eU,eU]
    have Bd:u.1<u.2:=by
     have:∀{A:SL}{p:Int},bP p (A++[u])->u.1<u.2:=by
      intro A;induction A with
      |nil=>intro p h;exact h.2.1
      |cons v r ih=>intro p h;exact ih h.2.2
     exact this h
    constructor
    .rintro (h|h|h)
     .exact .inl (.inl h)
     .dsimp only at h
      by_cases hy:y<u.2
      .exact .inl (.inr (.inl ⟨h.1,hy⟩))
      .exact .inr ⟨by omega,h.2⟩
     .exact absurd h fU
    .rintro ((h|h|h)|h)
     .exact .inl h
     .exact .inr (.inl ⟨h.1,by dsimp only;omega⟩)
     .exact absurd h fU
     .exact .inr (.inl ⟨by dsimp only;omega,h.2⟩)
   .rcases jn.1 hs with hs|hs
    .have:=hl s (by simp[hs]);omega
    .have:s=(u.1,x.2):=by simpa using hs
     rw[this];exact k9 _
  .rw[ah he];simp only[Bool.and_false,j7];refine⟨jvG h hp (λs hs=>?_) hx,λy=>?_,λs hs=>?_⟩
   .rcases jn.1 hs with dC|dC
    .have:=ak s dC
     have Bd:u.1<u.2:=by
      have:∀{A:SL}{p:Int},bP p (A++[u])->u.1<u.2:=by
       intro A;induction A with
       |nil=>intro p h;exact h.2.1
       |cons v r ih=>intro p h;exact ih h.2.2
      exact this h
     omega
    .have:s=u:=by simpa using dC
     rw[this];omega
   .rw[xn (r:=[x]),eU (l:=[])];constructor
    .rintro (h|h|h)
     .exact .inl h
     .exact .inr h
     .exact absurd h fU
    .rintro (h|h)
     .exact .inl h
     .exact .inr (.inl h)
   .rcases jn.1 hs with dC|dC
    .have:=hl s dC;omega
    .have:s=x:=by simpa using dC
     rw[this];exact k9 _
theorem jCo{p hi:Int}:∀(b l:SL)(lo:Int),bP p l->jP lo b->p<lo->(∀s∈l,s.2<=lo)->lo<=hi->(∀s∈b,s.2<=hi)->
  bP p (b.foldl iy l)/\(∀y,bt y (b.foldl iy l)↔bt y l\/bt y b)/\(∀s∈b.foldl iy l,s.2<=hi)/\(b.foldl iy l).length<=l.length+b.length
 |[],l,lo,h,_,_,hl,iu,_=>⟨h,λy=>⟨.inl,λh=>h.resolve_right fU⟩,λs hs=>by have:=hl s hs;omega,by simp⟩
 |x::b,l,lo,h,hb,hp,hl,iu,ig=>by
  obtain⟨b1,b2,b3⟩:=hb;obtain⟨j1,j2,j3⟩:=jFk h (x:=x) (by omega) b2 (λs hs=>by have:=hl s hs;omega);have hx:=ig x (by simp);obtain⟨k1,k2,k3,k4⟩:=jCo b (iy l x) x.2 j1 b3 (by omega) j3 hx (λs hs=>ig s (by simp[hs]));have:=jzO l x;refine⟨k1,λy=>?_,k3,?_⟩
  .show bt y (b.foldl iy (iy l x))↔_;rw[k2 y,j2 y,eU];constructor
   .rintro ((h|h)|h)
    .exact .inl h
    .exact .inr (.inl h)
    .exact .inr (.inr h)
   .rintro (h|h|h)
    .exact .inl (.inl h)
    .exact .inl (.inr h)
    .exact .inr h
  .show (b.foldl iy (iy l x)).length<=_;simp only[jm];omega
theorem jCp{b:SL}(hb:b.length<=1000000):∀(n i:Nat)(l:SL),i+n=b.length->l.length+n<=10000000->IU b (i:Int) l=some ((b.drop i).foldl iy l)
 |0,i,l,hi,_=>by
  rw[XQ];simp only[j6l,show Int.ofNat b.length=(b.length:Int) from rfl];rw[ah (by omega),j7,aW,jd (by omega)];rfl
 |n+1,i,l,hi,hl=>by
  have ak:i<b.length:=by omega
  have aR:b.getD i ((0:Int),(0:Int))=b[i]:=by simp[List.getD,ak]
  have ih:=jCp hb n (i+1) (iy l b[i]) (by omega) (by have:=jzO l b[i];omega);rw[show ((i+1:Nat):Int)=(i:Int)+1 by omega]at ih;rw[XQ,jb ak];simp only[j6l,show Int.ofNat b.length=(b.length:Int) from rfl,show Int.ofNat l.length=(l.length:Int) from rfl,List.foldl_cons];rw[ag (show (i:Int)<(b.length:Int) by omega),j6,cw (i:=(i:Int)) (n:=b.length) (by omega) (by omega),ai (x:=(i:Int)+1)];simp only[j6,j8,aR];have bU:decide (l.length+[(b[i].1,b[i].2)].length<=aN)=true:=ag (by simp[aN];omega);by_cases h0:0<l.length
  .rw[ag (show (l.length:Int)>0 by omega),ai (x:=(l.length:Int)-1),cw (i:=(l.length:Int)-1) (by omega) (by omega),show ((l.length:Int)-1).toNat=l.length-1 by omega];simp only[j6];by_cases he:(l.getD (l.length-1) ((0:Int),(0:Int))).2=b[i].1
   .have e:iy l b[i]=l.set (l.length-1) ((l.getD (l.length-1) ((0:Int),(0:Int))).1,b[i].2):=by unfold iy;rw[ag h0,ag he];rfl
    rw[di he,j6,aK,<-e];exact ih
   .have e:iy l b[i]=l++[b[i]]:=by unfold iy;rw[ah he,Bool.and_false];rfl
    rw[bW he,j7,bU,j6,aK];rw[e]at ih ⊢;exact ih
  .have e:iy l b[i]=l++[b[i]]:=by unfold iy;rw[ah h0];rfl
   rw[ah (show¬(l.length:Int)>0 by omega),j7,bU,j6,aK];rw[e]at ih ⊢;exact ih
theorem jBm{l b:SL}(hb:b.length<=1000000)(hl:l.length<=1000000):jdg l b=some (b.foldl iy l):=by
 have:=jCp hb b.length 0 l (by omega) (by omega);rw[show ((0:Nat):Int)=0 from rfl,jr]at this;simp only[jdg,this,j4]
theorem GJ{d s:Int}(hd : -1<=d)(gZ:d<=1000000)(hs:0<=s)(kK:s<=86399):j7w (d,s)=some ((d*86400+s+259200)%604800):=by
 have e:Int.tmod d 7+10=d%7+10\/d = -1:=by
  by_cases h:0<=d
  .exact .inl (by rw[xg h])
  .exact .inr (by omega)
 simp only[j7w,jcc,j4];rcases e with e|rfl
 .rw[e,ai (x:=d%7+10),xg (by omega),ai (x:=(d%7+10)%7*86400),ai (x:=(d%7+10)%7*86400+s)];congr 1;omega
 .rw[show Int.tmod (-1) 7 = -1 from rfl,ai (x:= -1+10),show Int.tmod (-1+10) 7=2 from rfl,ai (x:=2*86400),ai (x:=2*86400+s)];congr 1;omega
def nG(f t st:Int):WL->SL
 |[]=>[]
 |v::r=>cond (decide ((gw f t st v).1<(gw f t st v).2)) (gw f t st v::nG f t st r) (nG f t st r)
def rq(w:WL)(f t:Int):Nat->Int->SL
 |0,_=>[]
 |m+1,st=>cond (decide (st<t)) (nG f t st w++rq w f t m (st+604800)) []
theorem SF(f t st:Int):∀w:WL,(nG f t st w).length<=w.length
 |[]=>by simp[nG]
 |v::r=>by
  have:=SF f t st r;unfold nG;cases decide ((gw f t st v).1<(gw f t st v).2)<;>simp<;>omega
theorem jCq{w:WL}(hw:ei 0 w)(hl:w.length<=14){st f t:Int}(aM : -1000000<=st)(cM:st<=8600000000):∀(n i:Nat)(acc:SL),i+n=w.length->acc.length+n<=1000000->
  IP w f t st (i:Int) acc=some (w,f,t,st,acc++nG f t st (w.drop i))
 |0,i,acc,hi,_=>by
  rw[XO];simp only[j5C,show Int.ofNat w.length=(w.length:Int) from rfl];rw[ah (by omega),j7,aW,jd (by omega)];simp[nG]
 |n+1,i,acc,hi,ha=>by
  have ak:i<w.length:=by omega
  have aR:w.getD i ((0:Int),(0:Int))=w[i]:=by simp[ak]
  have hg:=xi hw i ak;rw[aR]at hg;rw[XO,jb ak];simp only[j5C,show Int.ofNat w.length=(w.length:Int) from rfl];rw[ag (show (i:Int)<(w.length:Int) by omega),bz];simp only[j6,j8,aR];rw[ai (x:=(i:Int)+1),ai (x:=st+w[i].1),ai (x:=st+w[i].2)];have ec:(decide ((if st+w[i].1>f then st+w[i].1 else f)<(if st+w[i].2<t then st+w[i].2 else t)))=decide ((gw f t st w[i]).1<(gw f t st w[i]).2):=rfl;rw[ec];have ih:=λacc h=>jCq hw hl aM cM (f:=f) (t:=t) n (i+1) acc (by omega) h;rw[show ((i+1:Nat):Int)=(i:Int)+1 by omega]at ih;simp only[nG];cases decide ((gw f t st w[i]).1<(gw f t st w[i]).2) with
  |true=>rw[j6,ag (by simp[aN];omega),j6,aK,j6];have:=ih (acc++[gw f t st w[i]]) (by simp;omega);rw[jj]at this;exact this
  |false=>rw[j7,aK,j7];exact ih acc (by omega)
theorem jCr{w:WL}(hw:ei 0 w)(hl:w.length<=14){f t:Int}(ht:t<=8589934592):∀(m:Nat)(st:Int)(acc:SL), -1000000<=st->t<=st+604800*m->acc.length+14*m<=900000->
  IQ w f t st acc=some (acc++rq w f t m st)
 |0,st,acc,aM,hm,_=>by
  rw[XP];simp only[j5D];rw[ah (by omega),j7,aW];simp[rq]
 |m+1,st,acc,aM,hm,dZ=>by
  rw[XP];simp only[j5D,rq];by_cases ak:st<t
  .have h2:=jCq hw hl aM (by omega) (f:=f) (t:=t) w.length 0 acc (by omega) (by omega);rw[show ((0:Nat):Int)=0 from rfl,jr]at h2;have hlen:=SF f t st w;rw[ag ak,j6,h2];simp only[j4,j6];rw[ai (x:=st+604800),aK];have:=jCr hw hl ht m (st+604800) (acc++nG f t st w) (by omega) (by omega) (by simp;omega) (f:=f);rw[jj]at this;exact this
  .rw[ah ak,j7,aW,j7,qm]
theorem jzP{f t st:Int}:∀{w:WL}{p:Int},ei p w->jP (st+p) (nG f t st w)/\∀s∈nG f t st w,f<=s.1/\s.2<=t/\s.2<=st+604800
 |[],_,_=>⟨trivial,λs hs=>by simp[nG]at hs⟩
 |v::r,p,h=>by
  obtain⟨h1,h2,h3,h4⟩:=h;obtain⟨i1,i2⟩:=jzP (f:=f) (t:=t) (st:=st) h4;unfold nG;by_cases hc:(gw f t st v).1<(gw f t st v).2
  .have e1:st+v.1<=(gw f t st v).1/\f<=(gw f t st v).1:=by unfold gw;dsimp only;split<;>omega
   have e2:(gw f t st v).2<=st+v.2/\(gw f t st v).2<=t:=by unfold gw;dsimp only;split<;>omega
   rw[ag hc,j6];refine⟨⟨by omega,hc,i1.weak (by omega)⟩,λs hs=>?_⟩;rcases je.1 hs with rfl|hs
   .exact⟨e1.2,e2.2,by omega⟩
   .exact i2 s hs
  .rw[ah hc,j7];exact⟨i1.weak (by omega),i2⟩
theorem jCs{f t st x:Int}:∀{w:WL}{p:Int},ei p w->(bt x (nG f t st w)↔f<=x/\x<t/\∃v∈w,st+v.1<=x/\x<st+v.2)
 |[],_,_=>⟨λh=>absurd h fU,λ⟨_,_,v,hv,_⟩=>by simp at hv⟩
 |v::r,p,h=>by
  obtain⟨h1,h2,h3,h4⟩:=h;have ih:=jCs (f:=f) (t:=t) (st:=st) (x:=x) h4
  have he:((gw f t st v).1<=x/\x<(gw f t st v).2)↔f<=x/\x<t/\st+v.1<=x/\x<st+v.2:=by
   unfold gw;dsimp only;constructor
   .rintro⟨a1,a2⟩
    have b1:f<=x/\st+v.1<=x:=by split at a1<;>omega
    have b2:x<t/\x<st+v.2:=by split at a2<;>omega
    exact⟨b1.1,b2.1,b1.2,b2.2⟩
   .rintro⟨a1,a2,a3,a4⟩
    refine⟨?_,?_⟩<;>split<;>omega
  unfold nG;by_cases hc:(gw f t st v).1<(gw f t st v).2
  .rw[ag hc,j6,eU,ih,he];constructor
   .rintro (⟨a1,a2,a3,a4⟩|⟨a1,a2,u,hu,a3⟩)
    .exact⟨a1,a2,v,by simp,a3,a4⟩
    .exact⟨a1,a2,u,by simp[hu],a3⟩
   .rintro⟨a1,a2,u,hu,a3⟩
    rcases je.1 hu with rfl|hu
    .exact .inl ⟨a1,a2,a3⟩
    .exact .inr ⟨a1,a2,u,hu,a3⟩
  .rw[ah hc,j7,ih];constructor
   .rintro⟨a1,a2,u,hu,a3⟩;exact⟨a1,a2,u,by simp[hu],a3⟩
   .rintro⟨a1,a2,u,hu,a3⟩
    rcases je.1 hu with rfl|hu
    .have:=he.2 ⟨a1,a2,a3⟩;omega
    .exact⟨a1,a2,u,hu,a3⟩
theorem jCt{w:WL}(hw:ei 0 w){f t:Int}:∀(m:Nat)(st:Int),t<=st+604800*m->
  jP st (rq w f t m st)/\(∀s∈rq w f t m st,f<=s.1/\s.2<=t)/\(rq w f t m st).length<=w.length*m/\∀x,bt x (rq w f t m st)↔f<=x/\x<t/\st<=x/\hasB ((x-st)%604800) w=true
 |0,st,hm=>⟨trivial,λs hs=>by simp[rq]at hs,by simp[rq],λx=>⟨λh=>absurd h fU,λh=>by omega⟩⟩
 |m+1,st,hm=>by
  obtain⟨i1,i2,i3,i4⟩:=jCt hw (f:=f) (t:=t) m (st+604800) (by omega);obtain⟨j1,j2⟩:=jzP (f:=f) (t:=t) (st:=st) hw;rw[yf]at j1;unfold rq;by_cases ak:st<t
  .rw[ag ak,j6];refine⟨jzN j1 i1 (by omega) (λs hs=>(j2 s hs).2.2),λs hs=>?_,?_,λx=>?_⟩
   .rcases jn.1 hs with hs|hs
    .exact⟨(j2 s hs).1,(j2 s hs).2.1⟩
    .exact i2 s hs
   .have:=SF f t st w;rw[jg,Nat.mul_succ];omega
   .rw[xn,i4 x,jCs hw];constructor
    .rintro (⟨a1,a2,v,hv,a3,a4⟩|⟨a1,a2,a3,a4⟩)
     .obtain⟨i,hi,rfl⟩:=vg hv;have hg:=xi hw i hi;rw[show w.getD i (0,0)=w[i] by simp[hi]]at hg;exact⟨a1,a2,by omega,xo.2 ⟨w[i],hv,by omega,by omega⟩⟩
     .refine⟨a1,a2,by omega,?_⟩;rw[show (x-st)%604800=(x-(st+604800))%604800 by omega];exact a4
    .rintro⟨a1,a2,a3,a4⟩
     by_cases hx:st+604800<=x
     .refine .inr ⟨a1,a2,hx,?_⟩;rw[show (x-(st+604800))%604800=(x-st)%604800 by omega];exact a4
     .obtain⟨v,hv,c1,c2⟩:=xo.1 a4;have e1:(x-st)%604800=x-st:=by omega
      rw[e1]at c1 c2;exact .inl ⟨a1,a2,v,hv,by omega,by omega⟩
  .rw[ah ak,j7];exact⟨trivial,λs hs=>by simp at hs,by simp,λx=>⟨λh=>absurd h fU,λh=>by omega⟩⟩
theorem jFl{w:WL}(hw:ei 0 w)(hl:w.length<=14){f t n:Int}(hf:0<=f)(ht:t<=8589934592)(jB:f<t)(hn : -64800<=n)(DS:n<=64800){M:Nat}(hM:M<=60)(hlen:t-f<=604800*M) :
  ∃P,jaD w f t n=some P/\jP f P/\(∀s∈P,s.2<=t)/\P.length<=w.length*(M+1)/\∀x,bt x P↔f<=x/\x<t/\hasB ((x+n+259200)%604800) w=true:=by
 have e1:j7w ((f+n+864000)/86400-10,(f+n+864000)%86400)=some ((f+n+259200)%604800):=by rw[GJ (by omega) (by omega) (by omega) (by omega)];congr 1;omega
 generalize aM:f-(f+n+259200)%604800=st
 obtain⟨a1,a2,a3,a4⟩:=jCt hw (f:=f) (t:=t) (M+1) st (by omega);refine⟨rq w f t (M+1) st,?_,jBl a1 (λs hs=>(a2 s hs).1),λs hs=>(a2 s hs).2,a3,λx=>?_⟩
 .simp only[jaD];rw[ai (x:=f+n),ai (x:=f+n+864000),sG (by omega),ai (x:=(f+n+864000)/86400),ai (x:=(f+n+864000)/86400-10),xg (by omega),e1];simp only[j4];rw[ai (x:=f+n-(f+n+259200)%604800),ai (x:=f+n-(f+n+259200)%604800-n),show f+n-(f+n+259200)%604800-n=st by omega];rw[jCr hw hl ht (M+1) st [] (by omega) (by omega) (by simp;omega)];simp
 .rw[a4 x];constructor
  .rintro⟨b1,b2,b3,b4⟩
   refine⟨b1,b2,?_⟩;rw[show (x+n+259200)%604800=(x-st)%604800 by omega];exact b4
  .rintro⟨b1,b2,b4⟩
   refine⟨b1,b2,by omega,?_⟩;rw[show (x-st)%604800=(x+n+259200)%604800 by omega];exact b4
def SH(o:Int)(l:bn)(w:WL)(a b:Int)(k:Nat)(x:Int):Prop:=a<=x/\x<b/\∃j,j<k/\aO l j<=x/\x<aO l (j+1)/\hasB ((x+ba o l j+259200)%604800) w=true
theorem SI{o:Int}{l:bn}(h:gW o l){w:WL}(hw:ei 0 w)(hl:w.length<=14){M:Nat}(hM:M<=60){a b:Int}(ha:0<=a)(bG:a<=b)(hb:b<=8589934592)(hlen:b-a<=604800*M)(nm:ByteArray)(rs:List aD)(eE:l.length<=20){c:Nat}(iS:w.length*(M+1)<=c)(eG:c<=854):∀(n k:Nat)(acc:SL),k+n=l.length+1->
  bP (a-1) acc->(∀s∈acc,s.2<=max a (aO l k)/\s.2<=b)->acc.length<=c*k->(∀x,bt x acc↔SH o l w a b k x)->
  ∃out,Fl w a b ((k:Int)-1) nm o rs l acc=some out/\bP (a-1) out/\(∀s∈out,s.2<=b)/\out.length<=c*(l.length+1)/\∀x,bt x out↔SH o l w a b (l.length+1) x
 |0,k,acc,hk,h1,h2,h3,h4=>by
  have hk:k=l.length+1:=by omega
  subst hk;refine⟨acc,?_,h1,λs hs=>(h2 s hs).2,h3,h4⟩;rw[XR];simp only[j5E,show Int.ofNat l.length=(l.length:Int) from rfl];rw[ah (by omega),j7,aW]
 |n+1,k,acc,hk,h1,h2,h3,h4=>by
  have ia:k<=l.length:=by omega
  have fP:c*k<=854*20:=ql eG (by omega);have dE:c*(k+1)=c*k+c:=Nat.mul_succ c k;have o0:=h.of0 k ia;have o1:=h.of1 k ia;have fk:=h.frm_lt (i:=k) ia;have mE:=h.frm_le (i:=0) (j:=k) (by omega) (by omega);rw[ov]at mE;have fp:k=l.length->aO l (k+1)=8589934593:=λe=>by rw[e];exact mQ
  have key:∀A:Option ((WL×Int×Int×Int×ByteArray×Int×List aD×bn×SL) ⊕ SL),
    A=(if max a (aO l k)<min b (aO l (k+1)) then (jaD w (max a (aO l k)) (min b (aO l (k+1))) (ba o l k)).bind λp=>(jdg acc p).bind λj=>some (.inl (w,a,b,(k:Int),nm,o,rs,l,j)) else some (.inl (w,a,b,(k:Int),nm,o,rs,l,acc)))->
    ∃out,lpK A (λh=>Fl h.1 h.2.1 h.2.2.1 h.2.2.2.1 h.2.2.2.2.1 h.2.2.2.2.2.1 h.2.2.2.2.2.2.1 h.2.2.2.2.2.2.2.1 h.2.2.2.2.2.2.2.2)=some out/\bP (a-1) out/\(∀s∈out,s.2<=b)/\out.length<=c*(l.length+1)/\∀x,bt x out↔SH o l w a b (l.length+1) x:=by
   intro A hA;have e1:((k+1:Nat):Int)-1=(k:Int):=by omega
   by_cases hc:max a (aO l k)<min b (aO l (k+1))
   .rw[if_pos hc]at hA;obtain⟨p,ep,p1,p2,p3,p4⟩:=jFl hw hl (f:=max a (aO l k)) (t:=min b (aO l (k+1))) (by omega) (by omega) hc o0 o1 hM (by omega);obtain⟨q1,q2,q3,q4⟩:=jCo (p:=a-1) (hi:=min b (aO l (k+1))) p acc (max a (aO l k)) h1 p1 (by omega) (λs hs=>(h2 s hs).1) (by omega) p2;rw[ep,j4,jBm (by omega) (by omega),j4]at hA;rw[hA,aK];have ih:=SI h hw hl hM ha bG hb hlen nm rs eE iS eG n (k+1) (p.foldl iy acc) (by omega) q1 (λs hs=>by have:=q3 s hs;omega) (by omega) (λx=>?_)
    .rw[e1]at ih;exact ih
    .rw[q2 x,h4 x,p4 x];constructor
     .rintro (⟨a1,a2,j,a3,a4⟩|⟨a1,a2,a3⟩)
      .exact⟨a1,a2,j,by omega,a4⟩
      .exact⟨by omega,by omega,k,by omega,by omega,by omega,a3⟩
     .rintro⟨a1,a2,j,a3,a4,a5,a6⟩
      by_cases hj:j=k
      .subst hj;exact .inr ⟨by omega,by omega,a6⟩
      .exact .inl ⟨a1,a2,j,by omega,a4,a5,a6⟩
   .rw[if_neg hc]at hA;rw[hA,aK];have ih:=SI h hw hl hM ha bG hb hlen nm rs eE iS eG n (k+1) acc (by omega) h1 (λs hs=>by have:=h2 s hs;omega) (by omega) (λx=>?_)
    .rw[e1]at ih;exact ih
    .rw[h4 x];constructor
     .rintro⟨a1,a2,j,a3,a4⟩
      exact⟨a1,a2,j,by omega,a4⟩
     .rintro⟨a1,a2,j,a3,a4,a5,a6⟩
      by_cases hj:j=k
      .subst hj;omega
      .exact⟨a1,a2,j,by omega,a4,a5,a6⟩
  rw[XR];refine key _ ?_;simp only[j5E,show Int.ofNat l.length=(l.length:Int) from rfl];rw[ag (show (k:Int)-1<(l.length:Int) by omega),j6,ai (x:=(k:Int)-1+1),show (k:Int)-1+1=(k:Int) by omega];have fa:∀u:Int,(if u>a then u else a)=max a u:=λu=>by split<;>omega
  have nT:∀u:Int,(if u<b then u else b)=min b u:=λu=>by split<;>omega
  rcases Nat.eq_zero_or_pos k with mj|mj
  .subst mj;have et:ba o l 0=o:=rfl;have em:max a (aO l 0)=a:=by rw[ov];omega
   rw[ah (show¬((0:Nat):Int)-1>=0 by omega),j7,em,et];by_cases iI:0<l.length
   .have ef:(l.getD 0 ((0:Int),(0:Int))).1=aO l 1:=(jM iI).symm;rw[ag (show ((0:Nat):Int)<(l.length:Int) by omega),j6,cw (i:=((0:Nat):Int)) (by omega) (by omega),j6,j8,ef,nT];by_cases hc:a<min b (aO l 1)
    .rw[ag hc,if_pos hc];rfl
    .rw[ah hc,if_neg hc];rfl
   .have ef:min b (aO l (0+1))=b:=by rw[fp (by omega)];omega
    rw[ah (show¬((0:Nat):Int)<(l.length:Int) by omega),j7,ef];by_cases hc:a<b
    .rw[ag hc,if_pos hc];rfl
    .rw[ah hc,if_neg hc];rfl
  .obtain⟨k,rfl⟩:∃k',k=k'+1:=⟨k-1,by omega⟩;have e1:((k+1:Nat):Int)-1=(k:Int):=by omega
   have et:(l.getD k ((0:Int),(0:Int))).2=ba o l (k+1):=rfl;have ef0:(l.getD k ((0:Int),(0:Int))).1=aO l (k+1):=(jM (by omega)).symm;rw[e1,ag (show (k:Int)>=0 by omega),j6,cw (i:=(k:Int)) (by omega) (by omega)];simp only[j6,j8,et,ef0,fa];by_cases iI:k+1<l.length
   .have ef:(l.getD (k+1) ((0:Int),(0:Int))).1=aO l (k+1+1):=(jM iI).symm;rw[ag (show ((k+1:Nat):Int)<(l.length:Int) by omega),j6,cw (i:=((k+1:Nat):Int)) (by omega) (by omega),j6,ef,nT];by_cases hc:max a (aO l (k+1))<min b (aO l (k+1+1))
    .rw[ag hc,if_pos hc];rfl
    .rw[ah hc,if_neg hc];rfl
   .have ef:min b (aO l (k+1+1))=b:=by rw[fp (by omega)];omega
    rw[ah (show¬((k+1:Nat):Int)<(l.length:Int) by omega),j7,ef];by_cases hc:max a (aO l (k+1))<b
    .rw[ag hc,if_pos hc];rfl
    .rw[ah hc,if_neg hc];rfl
theorem jx1{z:ByteArray×(Int×List aD)}{l:bn}(h4:Z4 z l)(eE:l.length<=20){w:WL}(fP:jaA w=some 0)(hw:ei 0 w)(hl:w.length<=14){M:Nat}(hM:M<=60){a b:Int}(ha:0<=a)(bG:a<=b)(hb:b<=8589934592)(hlen:b-a<=604800*M)(hq:b-a<=34560000) :
  ∃out,jer z w a b=some (if out.length>4096 then ([],5) else (out,0))/\bP (a-1) out/\(∀s∈out,s.2<=b)/\out.length<=w.length*(M+1)*(l.length+1)/\
   ∀k,k<=l.length->∀x,a<=x->x<b->aO l k<=x->x<aO l (k+1)->(bt x out↔hasB ((x+ba z.2.1 l k+259200)%604800) w=true):=by
 obtain⟨out,e,o1,o2,o3,o4⟩:=SI h4.2 hw hl hM ha bG hb hlen z.1 z.2.2 eE (js _) (q9 (ql hl (show M+1<=61 by omega)) (by decide)) (l.length+1) 0 [] (by omega) trivial (λs hs=>by simp at hs) (by simp) (λx=>⟨λh=>absurd h fU,λ⟨_,_,j,hj,_⟩=>by omega⟩);rw[show ((0:Nat):Int)-1 = -1 from rfl]at e;refine⟨out,?_,o1,o2,o3,λk hk x x0 x1 k0 k1=>?_⟩
 .have er:j8d a b=some true:=by simp only[j8d];rw[ag (show a>=0 from ha),ag (show a<=8589934592 by omega),ag (show b>=a from bG),ag hb,ai (x:=b-a),ag hq];rfl
  simp only[jer,show j0h (z.1,(z.2.1,z.2.2))=_ from h4.1,j4,jh,j7,fP,er,jl,e,show Int.ofNat out.length=(out.length:Int) from rfl];by_cases hg:out.length>4096
  .rw[ag (show (out.length:Int)>4096 by omega),if_pos hg];rfl
  .rw[ah (show¬(out.length:Int)>4096 by omega),if_neg hg];rfl
 .rw[o4 x];constructor
  .rintro⟨_,_,j,hj,j0,j1,j2⟩
   have:j=k:=by
    rcases vw j k with ak|he|ak
    .have:=h4.2.frm_le (i:=j+1) (j:=k) (by omega) (by omega);omega
    .exact he
    .have:=h4.2.frm_le (i:=k+1) (j:=j) (by omega) (by omega);omega
   subst this;exact j2
  .exactλhx=>⟨x0,x1,k,by omega,k0,k1,hx⟩
end Go.Proofs.Pw
