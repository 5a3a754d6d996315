/- Segments that cover a range: their yT form is unique. -/
import Derived.Test.YtaieocafhcjelaaGreatCLD
import Derived.Test.YtaieocafhcjelaaGreatCPG
import Derived.Test.YtaieocafhcjelaaGreatCPH
noncomputable section
open Go Go.Lft
namespace Go.Proofs.Pw
abbrev jN:=Int×(Int×Int)
abbrev bQ:=List jN
def Ch(f:Int->Int)(b:Int):Int->bQ->Prop
 |a,[]=>a=b
 |a,s::r=>s.1=a/\a<=s.2.1/\(∀t,a<=t->t<s.2.1->f t=s.2.2)/\Ch f b s.2.1 r
def eh(f:Int->Int)(b:Int):Option Int->Int->bQ->Prop
 |_,a,[]=>a=b
 |q,a,s::r=>s.1=a/\a<s.2.1/\q≠some s.2.2/\(∀t,a<=t->t<s.2.1->f t=s.2.2)/\eh f b (some s.2.2) s.2.1 r
theorem Ch.le{f:Int->Int}{b:Int}:∀{l:bQ}{a:Int},Ch f b a l->a<=b
 |[],_,h=>Int.le_of_eq h
 |_::_,_,h=>qy h.2.1 h.2.2.2.le
theorem Ch.app{f:Int->Int}{b c:Int}:∀{l r:bQ}{a:Int},Ch f b a l->Ch f c b r->Ch f c a (l++r)
 |[],_,_,h,h'=>by have h:_=_:=h;subst h;exact h'
 |_::_,_,_,h,h'=>⟨h.1,h.2.1,h.2.2.1,h.2.2.2.app h'⟩
theorem Ch.snoc{f:Int->Int}{b c p:Int}{l:bQ}{a:Int}(h:Ch f b a l)(u6:b<=c)(hp:∀t,b<=t->t<c->f t=p):Ch f c a (l++[(b,(c,p))]):=
 h.app ⟨rfl,u6,hp,rfl⟩
theorem eh.ch{f:Int->Int}{b:Int}:∀{l:bQ}{q:Option Int}{a:Int},eh f b q a l->Ch f b a l
 |[],_,_,h=>h
 |_::_,_,_,h=>⟨h.1,Int.le_of_lt h.2.1,h.2.2.2.1,h.2.2.2.2.ch⟩
def lstP:Option Int->bQ->Option Int
 |q,[]=>q
 |_,s::r=>lstP (some s.2.2) r
theorem Wy:∀(l:bQ)(q:Option Int)(s:jN),lstP q (l++[s])=some s.2.2
 |[],_,_=>rfl
 |_::r,_,s=>Wy r _ s
theorem eh.snoc{f:Int->Int}{b c p:Int}:∀{l:bQ}{q:Option Int}{a:Int},eh f b q a l->b<c->lstP q l≠some p->(∀t,b<=t->t<c->f t=p)->eh f c q a (l++[(b,(c,p))])
 |[],_,_,h,u6,hl,hp=>by have h:_=_:=h;subst h;exact⟨rfl,u6,hl,hp,rfl⟩
 |_::_,_,_,h,u6,hl,hp=>⟨h.1,h.2.1,h.2.2.1,h.2.2.2.1,h.2.2.2.2.snoc u6 hl hp⟩
theorem eh.ext{f:Int->Int}{b c x p:Int}:∀{l:bQ}{q:Option Int}{a:Int},eh f b q a (l++[(x,(b,p))])->b<=c->(∀t,b<=t->t<c->f t=p)->eh f c q a (l++[(x,(c,p))])
 |[],_,_,h,u6,hp=>⟨h.1,by have:=h.2.1;dsimp only at this ⊢;omega,h.2.2.1,λt h1 h2=>by
  by_cases ht:t<b
  .exact h.2.2.2.1 t h1 ht
  .exact hp t (by omega) h2,rfl⟩
 |_::_,_,_,h,u6,hp=>⟨h.1,h.2.1,h.2.2.1,h.2.2.2.1,h.2.2.2.2.ext u6 hp⟩
def lL(out:bQ)(s:jN):bQ:=
 if s.2.1<=s.1 then out else match out.getLast? with
  |some x=>if x.2.1=s.1/\x.2.2=s.2.2 then out.dropLast++[(x.1,(s.2.1,x.2.2))] else out++[s]
  |none=>out++[s]
theorem jDT{f:Int->Int}{a b:Int}{out:bQ}(h:eh f b none a out){s:jN}(h1:s.1=b)(h2:b<=s.2.1)(h3:∀t,b<=t->t<s.2.1->f t=s.2.2):eh f s.2.1 none a (lL out s):=by
 obtain⟨x,y,p⟩:=s;dsimp only at h1 h2 h3 ⊢;subst h1;unfold lL;dsimp only;by_cases G7:y<=x
 .rw[if_pos G7];have:y=x:=by omega
  subst this;exact h
 .rw[if_neg G7];rcases List.eq_nil_or_concat out with rfl|⟨l,u,rfl⟩
  .exact h.snoc (by omega) (by simp[lstP]) h3
  .rw[List.concat_eq_append]at h ⊢;rw[List.getLast?_append];simp only[List.getLast?_singleton,Option.some_or];by_cases hu:u.2.1=x/\u.2.2=p
   .rw[if_pos hu,List.dropLast_concat];obtain⟨u1,u2,u3⟩:=u;dsimp only at hu ⊢;obtain⟨rfl,rfl⟩:=hu;exact h.ext h2 h3
   .rw[if_neg hu];refine h.snoc (by omega) ?_ h3;rw[Wy];intro e;have hp:u.2.2=p:=by simpa using e
    refine hu ⟨?_,hp⟩
    have:∀(l:bQ)(q:Option Int)(a:Int),eh f x q a (l++[u])->u.2.1=x:=by
     intro l;induction l with
     |nil=>intro q a h;exact h.2.2.2.2
     |cons v r ih=>intro q a h;exact ih _ _ h.2.2.2.2
    exact this l _ _ h
theorem Wz{f:Int->Int}{b:Int}:∀(l:bQ){a c:Int}{out:bQ},eh f c none a out->Ch f b c l->eh f b none a (l.foldl lL out)
 |[],_,_,_,h,h'=>by have h':_=_:=h';subst h';exact h
 |s::r,_,_,_,h,h'=>Wz r (jDT h h'.1 h'.2.1 h'.2.2.1) h'.2.2.2
theorem Ch.cov{f:Int->Int}{a b:Int}{l:bQ}(h:Ch f b a l):eh f b none a (l.foldl lL []):=Wz l (show eh f a none a [] from rfl) h
theorem WA{f:Int->Int}:∀{l:bQ}{a b:Int},a<=b->l.Pairwise (λs u=>s.2.1<=u.1)->(∀s∈l,s.1<s.2.1/\∀t,s.1<=t->t<s.2.1->f t=s.2.2)->
  (∀x,(a<=x/\x<b)↔∃s∈l,s.1<=x/\x<s.2.1)->Ch f b a l
 |[],a,b,cj,_,_,hc=>by
  apply jr;intro bq;have bq:a≠b:=bq;obtain⟨s,hs,_⟩:=(hc a).1 ⟨ki _,by omega⟩;simp at hs
 |s::r,a,b,cj,hp,hf,hc=>by
  obtain⟨s1,s2⟩:=hf s (by simp);obtain⟨p1,p2⟩:=kq.1 hp;have h1:=(hc s.1).2 ⟨s,by simp,ki _,s1⟩;have h2:=(hc (s.2.1-1)).2 ⟨s,by simp,by omega,by omega⟩
  have he:s.1=a:=by
   obtain⟨u,hu,u1,u2⟩:=(hc a).1 ⟨ki _,by omega⟩;rcases jg.1 hu with rfl|hu
   .omega
   .have:=p1 u hu;omega
  refine⟨he,by omega,λt t1 t2=>s2 t (by omega) t2,WA (by omega) p2 (λu hu=>hf u (by simp[hu])) (λx=>⟨λhx=>?_,λ⟨u,hu,u1,u2⟩=>?_⟩)⟩
  .obtain⟨u,hu,u1,u2⟩:=(hc x).1 ⟨by omega,hx.2⟩;rcases jg.1 hu with rfl|hu
   .omega
   .exact⟨u,hu,u1,u2⟩
  .have:=p1 u hu;have:=(hc x).2 ⟨u,by simp[hu],u1,u2⟩;omega
theorem Ch.mem{f:Int->Int}{b:Int}:∀{l:bQ}{a:Int},Ch f b a l->∀s∈l,a<=s.1/\s.1<=s.2.1/\s.2.1<=b/\∀t,s.1<=t->t<s.2.1->f t=s.2.2
 |[],_,_,s,hs=>by simp at hs
 |u::r,a,h,s,hs=>by
  obtain⟨h1,h2,h3,h4⟩:=h;rcases jg.1 hs with rfl|hs
  .exact⟨by omega,by omega,h4.le,λt t1 t2=>h3 t (by omega) t2⟩
  .have:=h4.mem s hs;exact⟨by omega,this.2.1,this.2.2.1,this.2.2.2⟩
theorem eh.pos{f:Int->Int}{b:Int}:∀{l:bQ}{q:Option Int}{a:Int},eh f b q a l->∀s∈l,s.1<s.2.1
 |[],_,_,_,s,hs=>by simp at hs
 |u::r,_,a,h,s,hs=>by
  rcases jg.1 hs with rfl|hs
  .have:=h.1;have:=h.2.1;omega
  .exact h.2.2.2.2.pos s hs
theorem eh.ne{f:Int->Int}{b:Int}{l:bQ}{q:Option Int}{a:Int}(h:eh f b q a l)(cj:a<b):l≠[]:=by
 rintro rfl
 have h:_=_:=h;omega
theorem jDV{d:Int}(h:j17 d=some true):0<=d:=by
 apply jr;intro hd;simp only[j17,j5R,G6,G5,j3]at h;rw[ag (show d<0 by omega)]at h;simp at h
def nX(p:Int×(Int×Int))(d:Int):Int×Int:=
 (if d*86400-p.2.2>p.1 then d*86400-p.2.2 else p.1,if d*86400-p.2.2+86400<p.2.1 then d*86400-p.2.2+86400 else p.2.1)
theorem WB{ds:List Int}(hd:∀d∈ds,0<=d/\d<=100000)(hl:ds.length<=64){p:Int×(Int×Int)}(hp : -64800<=p.2.2/\p.2.2<=64800){m q z:Int}{nm:ByteArray}{ps:List (Int×(Int×Int))}:∀(n i:Nat)(acc:SL),i+n=ds.length->acc.length+n<=1000000->
  xv m q ds (ds.length:Int) (i:Int) nm z ds p.1 p.2.1 p.2.2 acc ps=some (m,q,nm,z,ds,acc++(ds.drop i).map (nX p),ps)
 |0,i,acc,hi,_=>by
  rw[SU];simp only[j47];rw[ah (by omega),j6,aU,jf (by omega)];simp
 |n+1,i,acc,hi,ea=>by
  have bd:i<ds.length:=by omega
  have bj:ds.getD i (0:Int)=ds[i]:=by simp[bd]
  have hdi:=hd _ (je bd);rw[SU];simp only[j47];rw[ag (by omega),aR (by omega) (by omega)];simp only[j5,j7,bj];rw[aj (x:=ds[i]*86400) (by omega) (by omega),aj (x:=ds[i]*86400-p.2.2) (by omega) (by omega),aj (x:=ds[i]*86400-p.2.2+86400) (by omega) (by omega),aj (x:=(i:Int)+1) (by omega) (by omega),ag (by simp[aY];omega),jc bd];simp only[j5,aJ,ku];have:=WB hd hl hp (m:=m) (q:=q) (z:=z) (nm:=nm) (ps:=ps) n (i+1) (acc++[nX p ds[i]]) (by omega) (by simp;omega);rw[jd]at this;exact this
theorem WC{ds:List Int}(hd:∀d∈ds,0<=d/\d<=100000)(hl:ds.length<=64){z:Int}{nm:ByteArray}{ps:List (Int×(Int×Int))}(gH:∀p∈ps, -64800<=p.2.2/\p.2.2<=64800)(fm:ps.length<=100):∀(n i:Nat)(acc:SL),i+n=ps.length->acc.length<=64*i->
  xw (ps.length:Int) (i:Int) nm z ds acc ps=some (acc++(ps.drop i).flatMap λp=>ds.map (nX p))
 |0,i,acc,hi,_=>by
  rw[SV];simp only[j1W];rw[ah (by omega),j6,aU,jf (by omega)];simp
 |n+1,i,acc,hi,ea=>by
  have bd:i<ps.length:=by omega
  have bj:ps.getD i ((0:Int),((0:Int),(0:Int)))=ps[i]:=by simp[List.getD,bd]
  have h2:=WB hd hl (gH _ (je bd)) (m:=(ps.length:Int)) (q:=(i:Int)) (z:=z) (nm:=nm) (ps:=ps) ds.length 0 acc (by omega) (by omega);have ih:=WC hd hl (z:=z) (nm:=nm) gH fm n (i+1) (acc++ds.map (nX ps[i])) (by omega) (by simp;omega);rw[SV];simp only[j1W];rw[ag (by omega),aR (by omega) (by omega)];simp only[j5,j7,bj,show Int.ofNat ds.length=(ds.length:Int) from rfl];rw[show xv (ps.length:Int) (i:Int) ds (ds.length:Int) 0 nm z ds ps[i].1 ps[i].2.1 ps[i].2.2 acc ps=_ from h2];simp only[j3,kc];rw[aj (x:=(i:Int)+1) (by omega) (by omega),aJ,jc bd,z6,<-jd];exact ih
theorem WD{α β:Type}(f:α->List β)(k:Nat)(hf:∀a,(f a).length=k):∀l:List α,(l.flatMap f).length=l.length*k
 |[]=>by simp
 |a::l=>by rw[z6,ja,WD f k hf l,hf,jm,Nat.add_mul,Nat.one_mul];omega
theorem WE{p:Int×(Int×Int)}{d x:Int}:((nX p d).1<=x/\x<(nX p d).2)↔(p.1<=x/\x<p.2.1)/\(x+p.2.2)/86400=d:=by
 simp only[nX];constructor
 .intro h;split at h<;>split at h<;>omega
 .intro h;split<;>split<;>omega
section
variable{zs:List bU}{ps:List dH}{cs:List bt}(hs:fK zs ps cs)
include hs
theorem jCB{x:bt}(hx:rE zs.length x){ss:List cS}{a b:Int}(ha:0<=a)(cj:a<=b)(hb:b<=8589934592){z:bU}(hz:zs.getD x.2.1.toNat (ByteArray.empty,((0:Int),([]:List aO)))=z) :
  ∃out,j28 ((zs,(ps,(cs,ss))),zs.map tb) x a b=some out/\ct (a-1) out/\out.length<=x.2.2.length*((tb z).2.length+1)/\
   ∀t d,a<=t->t<b->j1C (tb z) t=some d->(bN t out↔d.1∈x.2.2):=by
 have hlen:(zs.map tb).length=zs.length:=qb ..;have hg:=N2 (zs:=zs) hx.z0 hx.z1;have Oh:=iw hs.so.ok hx.z0 hx.z1;rw[hz]at hg Oh;have ht:=Oh.ztab.2;have gF:(tb z).2.length<=20:=jCw Oh;obtain⟨pc,e,pl,pm,Oi⟩:=Wj ht ha cj hb;have lZ:=hx.len;have hd:∀d∈x.2.2,0<=d/\d<=100000:=λd hd=>⟨jDV (hx.day d hd),Wu (hx.day d hd)⟩
 have Cq:∀p∈pc, -64800<=p.2.2/\p.2.2<=64800:=λp hp=>by
  obtain⟨_,_,_,i,i1,i2,_⟩:=pm p hp;have:=ht.of0 i i1;have:=ht.of1 i i1;omega
 have l0:=WC hd lZ (z:=x.2.1) (nm:=x.1) Cq (by omega) pc.length 0 [] (by omega) (by simp);rw[jo,kc]at l0;have Wn:(pc.flatMap λp=>x.2.2.map (nX p)).length=pc.length*x.2.2.length:=WD _ _ (λp=>qb ..) pc;have hm:pc.length*x.2.2.length<=((tb z).2.length+1)*x.2.2.length:=jv _ pl;have ik:((tb z).2.length+1)*x.2.2.length<=21*64:=zv (by omega) lZ
 have er:∀s∈(pc.flatMap λp=>x.2.2.map (nX p)),∃p∈pc,∃d∈x.2.2,s=nX p d:=λs h=>by
  obtain⟨p,hp,h⟩:=v6.1 h;obtain⟨d,hd,rfl⟩:=ka.1 h;exact⟨p,hp,d,hd,rfl⟩
 obtain⟨out,e2,s1,s2,s3,s4⟩:=G3 (l:=pc.flatMap λp=>x.2.2.map (nX p)) (by omega) (λs h=>by
  obtain⟨p,hp,d,Ay,rfl⟩:=er s h;obtain⟨h1,h2,h3,_⟩:=pm p hp;have:=Cq p hp;have:=hd d Ay;simp only[nX];refine⟨?_,?_,?_,?_⟩<;>split<;>omega) (lo:=a) (hi:=b) (λs h aA=>by
  obtain⟨p,hp,d,Ay,rfl⟩:=er s h;obtain⟨h1,h2,h3,_⟩:=pm p hp;simp only[nX]at aA ⊢;refine⟨?_,?_⟩<;>split<;>omega)
 refine⟨out,?_,s1,by rw[Nat.mul_comm];omega,λt d h1 h2 nj=>?_⟩
 .simp only[j28];rw[aR hx.z0 (by rw[hlen];exact hx.z1)];simp only[j5,hg,show j1A ((tb z).1,(tb z).2) a b=_ from e,j3,show Int.ofNat pc.length=(pc.length:Int) from rfl];rw[show xw (pc.length:Int) 0 x.1 x.2.1 x.2.2 [] pc=_ from l0];simp only[j3,e2]
 .obtain⟨k,hk,k1,k2⟩:=xP ht (t:=t) (by omega) (by omega);have:=DP ht hk k1 k2;have GS:=nj.symm.trans this;simp only[j4]at GS;subst GS;dsimp only;rw[s2 t];constructor
  .rintro⟨s,dx,h3,h4⟩
   obtain⟨p,hp,d,Ay,rfl⟩:=er s dx;obtain⟨c1,c2⟩:=WE.1 ⟨h3,h4⟩;obtain⟨_,_,_,i,i1,i2,i3,i4⟩:=pm p hp;have:i=k:=GR ht i1 hk (t:=t) (by omega) (by omega) k1 k2;subst this;rw[<-i2,c2];exact Ay
  .intro Ay;obtain⟨p,hp,c1,c2⟩:=Oi t h1 h2;obtain⟨_,_,_,i,i1,i2,i3,i4⟩:=pm p hp;have:i=k:=GR ht i1 hk (t:=t) (by omega) (by omega) k1 k2;subst this;obtain⟨g1,g2⟩:=WE.2 ⟨⟨c1,c2⟩,show (t+p.2.2)/86400=(t+bB z.2.1 (tb z).2 i)/86400 by rw[i2]⟩;exact⟨_,v6.2 ⟨p,hp,ka.2 ⟨_,Ay,rfl⟩⟩,g1,g2⟩
omit hs in
def aN(zs:List bU)(i:Int):bU:=zs.getD i.toNat (ByteArray.empty,((0:Int),([]:List aO)))
omit hs in
def mz(cs:List bt)(i:Int):bt:=cs.getD i.toNat (ByteArray.empty,((0:Int),([]:List Int)))
omit hs in
def cT(z:bU)(t:Int):Int×Int:=(j1C (tb z) t).getD (0,0)
omit hs in
def fV(d:Int×Int):Int:=(j76 d).getD 0
omit hs in
def bO(z:bU)(L:bP)(t:Int):Int:=(j3a (tb z) L t).getD (-1)
omit hs in
def jO(zs:List bU)(cs:List bt)(L:bP)(t:Int):Bool:=
 cond (L.2.2.2.2.2.2.2.2==0) true (decide ((cT (aN zs (mz cs L.2.2.2.2.2.2.2.1).2.1) t).1∈(mz cs L.2.2.2.2.2.2.2.1).2.2)==(L.2.2.2.2.2.2.2.2==(2:Int)))
omit hs in
def fo(zs:List bU)(cs:List bt)(L:bP)(t:Int):Bool:=
 cond (decide (0<=bO (aN zs L.2.1) L t)) (cond (okW L.2.2.2.2.2.2.1 (fV (cT (aN zs L.2.1) t))) (jO zs cs L t) false) false
omit hs in
def cw(zs:List bU)(cs:List bt)(L:bP)(t:Int):Int:=cond (fo zs cs L t) (qP L (bO (aN zs L.2.1) L t)) (-1)
omit hs in
theorem WG{z:bU}(hz:iu z){t:Int}(h0:0<=t)(h1:t<=8589934592):j1C (tb z) t=some (cT z t)/\j76 (cT z t)=some (fV (cT z t)):=by
 obtain⟨d,s,hd,oO⟩:=jDL hz h0 h1;have:cT z t=d:=by simp[cT,hd]
 rw[this];exact⟨hd,by simp[fV,oO]⟩
omit hs in
theorem rF{z:bU}(hz:iu z){L:bP}(hR:Rt L){t:Int}(h0:0<=t)(h1:t<=8589934592):j3a (tb z) L t=some (bO z L t)/\iQ z.2.1 (tb z).2 L t (bO z L t):=by
 obtain⟨K,e,hK⟩:=jEQ hz.ztab.2 hR h0 h1;have:bO z L t=K:=by simp only[bO,show j3a (tb z) L t=_ from e,zb]
 rw[this];exact⟨e,hK⟩
omit hs in
theorem G8{L:bP}{t:Int}(h:fo zs cs L t=true):0<=bO (aN zs L.2.1) L t:=by
 by_cases hk:0<=bO (aN zs L.2.1) L t
 .exact hk
 .unfold fo at h;rw[ah hk]at h;simp at h
theorem jCC{L:bP}(hL:eD zs.length ps.length cs.length L){t:Int}(_h0:0<=t)(_h1:t<=8589934592):(fo zs cs L t=true↔0<=cw zs cs L t) /\ -1<=cw zs cs L t/\cw zs cs L t<ps.length:=by
 have lN:fo zs cs L t=true->0<=bO (aN zs L.2.1) L t:=G8;unfold cw;have hp:=hs.so.p0;cases hc:fo zs cs L t with
 |false=>simp;omega
 |true=>
  have hk:=lN hc;have mv:=hL.m0;have q1:0<=Int.tmod (bO (aN zs L.2.1) L t) (L.2.2.2.2.2.1.length:Int):=Int.tmod_nonneg _ hk;have q2:Int.tmod (bO (aN zs L.2.1) L t) (L.2.2.2.2.2.1.length:Int)<(L.2.2.2.2.2.1.length:Int):=vr _ (by omega);have hi:(Int.tmod (bO (aN zs L.2.1) L t) (L.2.2.2.2.2.1.length:Int)).toNat<L.2.2.2.2.2.1.length:=by omega
  have e:qP L (bO (aN zs L.2.1) L t)=L.2.2.2.2.2.1[(Int.tmod (bO (aN zs L.2.1) L t) (L.2.2.2.2.2.1.length:Int)).toNat]:=by simp[qP,List.getD,hi]
  rw[j5,e];have:=hL.mem _ (je hi);exact⟨⟨λ_=>this.1,λ_=>rfl⟩,by omega,this.2⟩
theorem jzd{L:bP}(hL:eD zs.length ps.length cs.length L){ss:List cS}{a b:Int}(ha:0<=a)(cj:a<=b)(hb:b<=8589934592){M:Nat}(hM:M<=60)(hlen:b-a<=604800*M) :
  ∃out,j4s ((zs,(ps,(cs,ss))),zs.map tb) L a b=some out/\ct (a-1) out/\(∀t,bN t out↔a<=t/\t<b/\fo zs cs L t=true)/\
   out.length<=L.2.2.2.2.2.2.1.length*(M+1)*5+1+(if L.2.2.2.2.2.2.2.2=0 then 0 else (mz cs L.2.2.2.2.2.2.2.1).2.2.length*5):=by
 have u7:=hL.rt2;have iH:(zs.map tb).length=zs.length:=qb ..;have hz:=iw hs.so.ok hL.z0 hL.z1;have hg:=N2 (zs:=zs) hL.z0 hL.z1;have jH:=hL.wl;have gF:(tb (aN zs L.2.1)).2.length<=4:=Oc hz;obtain⟨v,ev,hv⟩:=nV hz.ztab.2 u7 (k:=0) (by omega) (by omega)
 have ot:∀t,a<=t->t<b->(0<=bO (aN zs L.2.1) L t↔QO (aN zs L.2.1).2.1 (tb (aN zs L.2.1)).2 L t 0):=λt h1 h2=>by
  have hK:=(rF hz u7 (t:=t) (by omega) (by omega)).2;constructor
  .intro hk;rcases hK with⟨hK,_⟩|⟨_,hq,_⟩
   .have:bO (aN zs L.2.1) L t = -1:=hK;omega
   .exact QO.le hz.ztab.2 u7 hk hq
  .intro hq;rcases hK with⟨_,hn⟩|⟨hk,_,_⟩
   .exact absurd hq hn
   .exact hk
 have rR:∀t,a<=t->t<b->¬QO (aN zs L.2.1).2.1 (tb (aN zs L.2.1)).2 L t 0->fo zs cs L t=false:=λt h1 h2 hq=>by
  unfold fo;rw[ah (λh=>hq ((ot t h1 h2).1 h))];rfl
 simp only[j4s];rw[aR hL.z0 (by rw[iH];exact hL.z1)];simp only[j5,hg];rw[show j0F ((tb (zs.getD L.2.1.toNat (ByteArray.empty,((0:Int),([]:List aO))))).1,(tb (zs.getD L.2.1.toNat (ByteArray.empty,((0:Int),([]:List aO))))).2) (L.1,L.2.1,(L.2.2.1.1,L.2.2.1.2),L.2.2.2.1,L.2.2.2.2.1,L.2.2.2.2.2.1,L.2.2.2.2.2.2.1,L.2.2.2.2.2.2.2.1,L.2.2.2.2.2.2.2.2) 0=_ from ev];simp only[j3]
 have nG:∀(P:∀t,a<=t->t<b->fo zs cs L t=false),∃out,some ([]:SL)=some out/\ct (a-1) out/\(∀t,bN t out↔a<=t/\t<b/\fo zs cs L t=true)/\
   out.length<=L.2.2.2.2.2.2.1.length*(M+1)*5+1+(if L.2.2.2.2.2.2.2.2=0 then 0 else (mz cs L.2.2.2.2.2.2.2.1).2.2.length*5):=λP=>
  ⟨[],rfl,trivial,λt=>⟨λh=>absurd h gJ,λ⟨h1,h2,h3⟩=>by rw[P t h1 h2]at h3;simp at h3⟩,kb _⟩
 cases hh:hO (zs.getD L.2.1.toNat (ByteArray.empty,((0:Int),([]:List aO)))).2.1 (tb (zs.getD L.2.1.toNat (ByteArray.empty,((0:Int),([]:List aO))))).2 L 0 with
 |none=>
  simp only[v8,jt,j5]
  exact nG λt h1 h2=>rR t h1 h2 (by
   rintro⟨u,hu,_⟩
   have fj:=hh.symm.trans hu;simp at fj)
 |some u=>
  have:=hv u hh;subst this
  have hq:∀t,QO (aN zs L.2.1).2.1 (tb (aN zs L.2.1)).2 L t 0↔v<=t:=λt=>⟨λ⟨u,hu,hut⟩=>by
   have fj:=hh.symm.trans hu;simp only[j4]at fj;omega,λh=>⟨v,hh,h⟩⟩
  simp only[zh,ji,j6];by_cases EU:v>=b
  .rw[ag EU];simp only[j5];exact nG λt h1 h2=>rR t h1 h2 (λh=>by have:=(hq t).1 h;omega)
  .rw[ah EU];simp only[j6];by_cases Eg:a>=b
   .rw[ag Eg];simp only[j5];exact nG λt h1 h2=>by omega
   .rw[ah Eg];simp only[j6];obtain⟨c,hc,Oj,rk,I6,vR⟩:∃c:Int,c=(if v>a then v else a)/\a<=c/\v<=c/\c<b/\∀t,a<=t->t<c->t<v:=⟨_,rfl,by split<;>omega,by split<;>omega,by split<;>omega,λt h1 h2=>by split at h2<;>omega⟩;rw[<-hc]
    obtain⟨A,Eh,nY,Ol,Om,WH,hA6⟩:∃A:SL,((L.2.2.2.2.2.2.1.length:Int)>0->j4q (tb (aN zs L.2.1)) L.2.2.2.2.2.2.1 c b=some A)/\(¬(L.2.2.2.2.2.2.1.length:Int)>0->A=[(c,b)])/\ct (c-1) A/\
      (∀t,bN t A->t<b)/\(∀t,c<=t->t<b->(bN t A↔okW L.2.2.2.2.2.2.1 (fV (cT (aN zs L.2.1) t))=true))/\A.length<=L.2.2.2.2.2.2.1.length*(M+1)*5+1:=by
     by_cases hw:(L.2.2.2.2.2.2.1.length:Int)>0
     .obtain⟨A,e,s1,s2,s3,s4⟩:=jwX hz.ztab.2 (qm gF (by omega)) hL.w jH hM (a:=c) (b:=b) (by omega) (by omega) hb (by omega);refine⟨A,λ_=>e,λh=>absurd hw h,s1,λt ⟨s,dx,h1,h2⟩=>by have:=(s2 s dx).2;omega,λt h1 h2=>?_,?_⟩
      .obtain⟨k,hk,k1,k2⟩:=xP hz.ztab.2 (t:=t) (by omega) (by omega);rw[s4 k hk t h1 h2 k1 k2];have wK:cT (aN zs L.2.1) t=((t+bB (aN zs L.2.1).2.1 (tb (aN zs L.2.1)).2 k)/86400,(t+bB (aN zs L.2.1).2.1 (tb (aN zs L.2.1)).2 k)%86400):=by unfold cT;rw[show j1C (tb (aN zs L.2.1)) t=_ from DP hz.ztab.2 hk k1 k2];rfl
       have o0:=hz.ztab.2.of0 k hk;have o1:=hz.ztab.2.of1 k hk;have iv:fV (cT (aN zs L.2.1) t)=(t+bB (aN zs L.2.1).2.1 (tb (aN zs L.2.1)).2 k+259200)%604800:=by rw[wK];simp only[fV,j76];have o0' : -64800<=bB (aN zs L.2.1).2.1 (tb (aN zs L.2.1)).2 k:=o0;have o1':bB (aN zs L.2.1).2.1 (tb (aN zs L.2.1)).2 k<=64800:=o1;rw[GM _ (by omega)];simp only[j3,zb];generalize bB (aN zs L.2.1).2.1 (tb (aN zs L.2.1)).2 k=o at *;rw[aj (x:=((t+o)/86400+3)%7*86400) (by omega) (by omega),aj (by omega) (by omega)];omega
       rw[iv];unfold okW;rw[ag hw];rfl
      .have:L.2.2.2.2.2.2.1.length*(M+1)*((tb (aN zs L.2.1)).2.length+1)<=L.2.2.2.2.2.2.1.length*(M+1)*5:=Nat.mul_le_mul_left _ (by omega);have s3':A.length<=L.2.2.2.2.2.2.1.length*(M+1)*((tb (aN zs L.2.1)).2.length+1):=s3;omega
     .refine⟨[(c,b)],λh=>absurd h hw,λ_=>rfl,⟨by dsimp only;omega,I6,trivial⟩,λt h=>?_,λt h1 h2=>?_,by simp⟩
      .rcases eU.1 h with h|h
       .exact h.2
       .exact absurd h gJ
      .unfold okW;rw[ah hw];exact⟨λ_=>rfl,λ_=>eU.2 (.inl ⟨h1,h2⟩)⟩
    have hA7:A.length<=30000:=by have:L.2.2.2.2.2.2.1.length*(M+1)<=14*61:=zv jH (by omega);omega
    have dy:∀out:SL,ct (c-1) out->(∀t,bN t out->t<b)->(∀t,c<=t->t<b->(bN t out↔bN t A/\jO zs cs L t=true))->ct (a-1) out/\∀t,bN t out↔a<=t/\t<b/\fo zs cs L t=true:=λout h1 h2 h3=>by
     refine⟨h1.weak (by omega),λt=>⟨λhx=>?_,λ⟨g1,g2,g3⟩=>?_⟩⟩
     .have l1:=ct.low h1 hx;have l2:=h2 t hx;refine⟨by omega,l2,?_⟩;have:=(h3 t (by omega) l2).1 hx;unfold fo;rw[ag ((ot t (by omega) l2).2 ((hq t).2 (by omega))),(WH t (by omega) l2).1 this.1,this.2];rfl
     .have hk:=G8 g3;have uc:=(hq t).1 ((ot t g1 g2).1 hk);have WI:c<=t:=by apply jr;intro hn;have:=vR t g1 (by omega);omega
      refine(h3 t WI g2).2 ⟨(WH t WI g2).2 ?_,?_⟩
      .unfold fo at g3;rw[ag hk]at g3;revert g3;cases okW L.2.2.2.2.2.2.1 (fV (cT (aN zs L.2.1) t))<;>simp
      .unfold fo at g3;rw[ag hk]at g3;revert g3;cases okW L.2.2.2.2.2.2.1 (fV (cT (aN zs L.2.1) t))<;>simp
    by_cases hm:L.2.2.2.2.2.2.2.2=0
    .have cY:=dy A Ol Om (λt _ _=>by unfold jO;rw[cP hm];simp);rw[bW (show¬L.2.2.2.2.2.2.2.2=1 by omega),bW (show¬L.2.2.2.2.2.2.2.2=2 by omega),if_pos hm];simp only[j6];by_cases hw:(L.2.2.2.2.2.2.1.length:Int)>0
     .rw[show Int.ofNat L.2.2.2.2.2.2.1.length=(L.2.2.2.2.2.2.1.length:Int) from rfl,ag hw,j5,show j4q ((tb (zs.getD L.2.1.toNat (ByteArray.empty,((0:Int),([]:List aO))))).1,(tb (zs.getD L.2.1.toNat (ByteArray.empty,((0:Int),([]:List aO))))).2) L.2.2.2.2.2.2.1 c b=_ from Eh hw];simp only[j3];exact⟨A,rfl,cY.1,cY.2,by omega⟩
     .rw[show Int.ofNat L.2.2.2.2.2.2.1.length=(L.2.2.2.2.2.2.1.length:Int) from rfl,ah hw,j6,<-nY hw];exact⟨A,rfl,cY.1,cY.2,by omega⟩
    .have cL:=hL.cal hm;have hx:=th hs cL.1 cL.2;have yL:=iw hs.so.ok hx.z0 hx.z1;have hll2:(tb (aN zs (mz cs L.2.2.2.2.2.2.2.1).2.1)).2.length<=4:=Oc yL;obtain⟨D,e2,d1,d2,d3⟩:=jCB hs hx (ss:=ss) (a:=c) (b:=b) (by omega) (by omega) hb rfl
     have lj:D.length<=(mz cs L.2.2.2.2.2.2.2.1).2.2.length*5:=qm d2 (Nat.mul_le_mul_left _ (by
      have:(tb (aN zs (mz cs L.2.2.2.2.2.2.2.1).2.1)).2.length+1<=5:=by omega
      exact this))
     have hDl2:D.length<=2000:=by have:=hx.len;have h64:(mz cs L.2.2.2.2.2.2.2.1).2.2.length<=64:=this;omega
     have WJ:∀t,c<=t->t<b->(bN t D↔(cT (aN zs (mz cs L.2.2.2.2.2.2.2.1).2.1) t).1∈(mz cs L.2.2.2.2.2.2.2.1).2.2):=λt h1 h2=>d3 t _ h1 h2 (WG yL (by omega) (by omega)).1;rw[if_neg hm,aR cL.1 cL.2];have Ei:L.2.2.2.2.2.2.2.2=1\/L.2.2.2.2.2.2.2.2=2:=by have:=hL.mode0;have:=hL.mode1;omega
     rcases Ei with eZ|ik
     .obtain⟨out,e3,w1,w2,w3⟩:=jmp (by omega) Ol d1 (by omega)
      have cY:=dy out w1 (λt h=>Om t ((w2 t).1 h).1) (λt h1 h2=>by
       rw[w2 t,WJ t h1 h2];unfold jO;rw[bW hm,bW (show¬L.2.2.2.2.2.2.2.2=2 by omega),j6];simp)
      rw[cP eZ];simp only[j5];by_cases hw:(L.2.2.2.2.2.2.1.length:Int)>0
      .rw[show Int.ofNat L.2.2.2.2.2.2.1.length=(L.2.2.2.2.2.2.1.length:Int) from rfl,ag hw,j5,show j4q ((tb (zs.getD L.2.1.toNat (ByteArray.empty,((0:Int),([]:List aO))))).1,(tb (zs.getD L.2.1.toNat (ByteArray.empty,((0:Int),([]:List aO))))).2) L.2.2.2.2.2.2.1 c b=_ from Eh hw];simp only[j3];refine⟨out,?_,cY.1,cY.2,by omega⟩;rw[show j28 ((zs,(ps,(cs,ss))),zs.map tb) ((cs.getD L.2.2.2.2.2.2.2.1.toNat (ByteArray.empty,((0:Int),([]:List Int)))).1,(cs.getD L.2.2.2.2.2.2.2.1.toNat (ByteArray.empty,((0:Int),([]:List Int)))).2.1,(cs.getD L.2.2.2.2.2.2.2.1.toNat (ByteArray.empty,((0:Int),([]:List Int)))).2.2) c b=_ from e2];simp only[j3,e3]
      .rw[show Int.ofNat L.2.2.2.2.2.2.1.length=(L.2.2.2.2.2.2.1.length:Int) from rfl,ah hw,j6,<-nY hw];refine⟨out,?_,cY.1,cY.2,by omega⟩;rw[show j28 ((zs,(ps,(cs,ss))),zs.map tb) ((cs.getD L.2.2.2.2.2.2.2.1.toNat (ByteArray.empty,((0:Int),([]:List Int)))).1,(cs.getD L.2.2.2.2.2.2.2.1.toNat (ByteArray.empty,((0:Int),([]:List Int)))).2.1,(cs.getD L.2.2.2.2.2.2.2.1.toNat (ByteArray.empty,((0:Int),([]:List Int)))).2.2) c b=_ from e2];simp only[j3,e3]
     .obtain⟨out,e3,w1,w2,w3⟩:=jza Ol d1 (by omega) (by omega)
      have cY:=dy out w1 (λt h=>Om t ((w2 t).1 h).1) (λt h1 h2=>by
       rw[w2 t,WJ t h1 h2];unfold jO;rw[bW hm,cP ik,j6];simp)
      rw[bW (show¬L.2.2.2.2.2.2.2.2=1 by omega),cP ik];simp only[j5,j6];by_cases hw:(L.2.2.2.2.2.2.1.length:Int)>0
      .rw[show Int.ofNat L.2.2.2.2.2.2.1.length=(L.2.2.2.2.2.2.1.length:Int) from rfl,ag hw,j5,show j4q ((tb (zs.getD L.2.1.toNat (ByteArray.empty,((0:Int),([]:List aO))))).1,(tb (zs.getD L.2.1.toNat (ByteArray.empty,((0:Int),([]:List aO))))).2) L.2.2.2.2.2.2.1 c b=_ from Eh hw];simp only[j3];refine⟨out,?_,cY.1,cY.2,by omega⟩;rw[show j28 ((zs,(ps,(cs,ss))),zs.map tb) ((cs.getD L.2.2.2.2.2.2.2.1.toNat (ByteArray.empty,((0:Int),([]:List Int)))).1,(cs.getD L.2.2.2.2.2.2.2.1.toNat (ByteArray.empty,((0:Int),([]:List Int)))).2.1,(cs.getD L.2.2.2.2.2.2.2.1.toNat (ByteArray.empty,((0:Int),([]:List Int)))).2.2) c b=_ from e2];simp only[j3,e3]
      .rw[show Int.ofNat L.2.2.2.2.2.2.1.length=(L.2.2.2.2.2.2.1.length:Int) from rfl,ah hw,j6,<-nY hw];refine⟨out,?_,cY.1,cY.2,by omega⟩;rw[show j28 ((zs,(ps,(cs,ss))),zs.map tb) ((cs.getD L.2.2.2.2.2.2.2.1.toNat (ByteArray.empty,((0:Int),([]:List Int)))).1,(cs.getD L.2.2.2.2.2.2.2.1.toNat (ByteArray.empty,((0:Int),([]:List Int)))).2.1,(cs.getD L.2.2.2.2.2.2.2.1.toNat (ByteArray.empty,((0:Int),([]:List Int)))).2.2) c b=_ from e2];simp only[j3,e3]
end
end Go.Proofs.Pw
