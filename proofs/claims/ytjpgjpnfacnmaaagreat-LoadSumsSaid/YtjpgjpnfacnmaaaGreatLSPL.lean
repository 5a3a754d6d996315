/- stack.SegmentsOf: its Bv form. -/
import Derived.Test.YtjpgjpnfacnmaaaGreatLSPK
import Derived.Test.YtjpgjpnfacnmaaaGreatLSPG
import Derived.Test.YtjpgjpnfacnmaaaGreatLSPA
import Derived.Test.YtjpgjpnfacnmaaaGreatLSLD
open Go Go.Lft
namespace Go.Proofs.Pw
def Gi(gd:Nat->Bool)(len:Nat):Nat->Option Nat
 |0=>none
 |m+1=>match Gi gd len m with
  |some i=>some i
  |none=>cond (gd (len-m-1)) (some (len-m-1)) none
theorem jzr(gd:Nat->Bool)(len:Nat):∀m,m<=len->dI gd len=match Gi gd len m with
  |some i=>some i
  |none=>dI gd (len-m)
 |0,_=>rfl
 |m+1,h=>by
  rw[jzr gd len m (by omega)];simp only[Gi];cases Gi gd len m with
  |some i=>rfl
  |none=>
   dsimp only
   rw[show len-m=(len-m-1)+1 by omega,dI,show len-(m+1)=len-m-1 by omega,show len-m-1+1-1=len-m-1 by omega];cases gd (len-m-1)<;>rfl
def Wv(gd:Nat->Bool)(pf:Nat->Int)(len m:Nat):Option Int:=(Gi gd len m).map pf
theorem R2(gd:Nat->Bool)(pf:Nat->Int)(len m:Nat):Wv gd pf len (m+1)=match Wv gd pf len m with
  |some p=>some p
  |none=>cond (gd (len-m-1)) (some (pf (len-m-1))) none:=by
 simp only[Wv,Gi];cases Gi gd len m with
 |some i=>rfl
 |none=>cases gd (len-m-1)<;>rfl
theorem jCe(es:List dA)(t:Int)(pf:Nat->Int)(len:Nat):dB es t pf len=(Wv (fZ es t pf) pf len len).getD (-1):=by
 simp only[dB,Wv,jzr (fZ es t pf) len len (js _)];cases Gi (fZ es t pf) len len with
 |some i=>rfl
 |none=>simp only[Nat.sub_self,dI];rfl
theorem jDC:Go.Sort.SWO (Go.Proofs.ltOf λ(x y:Go.Lft.Sml (.pair (.int .i64) (.pair (.int .i64) (.int .i64))))=>(j2M x.1 y.1).getD 0):=by
 refine H9 (λx=>x.1.1) (λx=>?_) _ λx y=>rfl;have:=x.2;simp only[iE,jc,jo]at this;exact this.1
theorem jwT{l:bD}(hl:l.length<=1000000000)(hb:∀x∈l, -1000000000000<=x.1/\x.1<=1000000000000 /\ -1000000000000<=x.2.1/\x.2.1<=1000000000000 /\ -1000000000000<=x.2.2/\x.2.2<=1000000000000) :
  ∃L,j0n l=some L/\L.Perm l/\L.Pairwise (λx y=>x.1<=y.1):=by
 obtain⟨L,e,hp,hs⟩:=V3 (a:= .pair (.int .i64) (.pair (.int .i64) (.int .i64))) (cf:=λx y=>(j2M x y).getD 0) jDC (xs:=l) (λx hx=>by
  have:=hb x hx;simp only[iE,jc,jo];refine⟨⟨?_,?_⟩,⟨?_,?_⟩,⟨?_,?_⟩⟩
  .exact qs (by decide) this.1
  .exact qs this.2.1 (by decide)
  .exact qs (by decide) this.2.2.1
  .exact qs this.2.2.2.1 (by decide)
  .exact qs (by decide) this.2.2.2.2.1
  .exact qs this.2.2.2.2.2 (by decide)) (by show List.length l<_;omega)
 refine⟨L,e,hp,?_⟩;refine List.Pairwise.imp_of_mem (λ{x y} hx hy h=>?_) hs;have h1:=hb x (hp.mem_iff.1 hx);have h2:=hb y (hp.mem_iff.1 hy);have h':¬w64 (y.1-x.1)<0:=h;rw[ai (x:=y.1-x.1)]at h';omega
theorem jFa{F:SL}(hF:F.length<=10000000):∀(n i:Nat)(acc:bD),i+n=F.length->acc.length+n<=1000000000->ER (F.length:Int) (i:Int) F acc=some (acc++(F.drop i).map λu=>(u.1,(u.2, -1)))
 |0,i,acc,hi,_=>by
  rw[Xf];simp only[j2a];rw[ah (by omega),j7,aW,jd (by omega)];simp
 |n+1,i,acc,hi,ha=>by
  have bj:i<F.length:=by omega
  have aR:F.getD i ((0:Int),(0:Int))=F[i]:=by simp[List.getD,bj]
  rw[Xf];simp only[j2a];rw[ag (by omega),bz,ai (x:=(i:Int)+1)];simp only[j6,j8,aR];rw[ag (by simp[aN];omega),j6,aK,jb bj,ke];have:=jFa hF n (i+1) (acc++[(F[i].1,(F[i].2, -1))]) (by omega) (by simp;omega);rw[jj]at this;exact this
def apart(x y:jD):Prop:=x.2.1<=y.1\/y.2.1<=x.1
section
variable{zs:List br}{ps:List cZ}{cs:List aX}(hs:cN zs ps cs)
 {nm:ByteArray}{ls:List bI}{es:List dA}(hL:∀L∈ls,eD zs.length ps.length cs.length L)(eE:ls.length<=4)(hE:∀x∈es,mT ps.length x)(eX:es.length<=9)
 {ss:List cF}{a b:Int}(ha:0<=a)(bG:a<=b)(hb:b<=8589934592)(hlen:b-a<=35078400)
include hs hL eE hE eX ha bG hb hlen
structure Gw(zs:List br)(cs:List aX)(ls:List bI)(es:List dA)(a b:Int)(m:Nat)(F:SL)(O:bD):Prop where
 st:bP (a-1) F
 fb:∀t,bt t F->t<b
 fr:∀t,a<=t->t<b->(bt t F↔Wv (fZ es t (cG zs cs ls t)) (cG zs cs ls t) ls.length m=none)
 seg:∀x∈O,a<=x.1/\x.1<x.2.1/\x.2.1<=b/\∀t,x.1<=t->t<x.2.1->Wv (fZ es t (cG zs cs ls t)) (cG zs cs ls t) ls.length m=some x.2.2
 ap:O.Pairwise apart
 cov:∀t,a<=t->t<b->Wv (fZ es t (cG zs cs ls t)) (cG zs cs ls t) ls.length m≠none->nF t O
 fl:F.length+300000<=2^m*300001
 ol:O.length<=m*4000000
theorem jDD{k m:Nat}(hk:k+m+1=ls.length){F:SL}{O:bD}(hI:Gw zs cs ls es a b m F O) :
  ∃S Q W F',j1t ((zs,(ps,(cs,ss))),zs.map tb) (ls.getD k (ByteArray.empty,((0:Int),(((0:Int),(0:Int)),((0:Int),((0:Int),(([]:List Int),(([]:List (Int×Int)),((0:Int),(0:Int)))))))))) a b=some S/\
   j98 (nm,(ls,es)) S=some Q/\jda Q F=some W/\O.length+W.length<=aN/\(∃P,jc9 W=some P/\j2x F P=some F')/\Gw zs cs ls es a b (m+1) F' (O++W):=by
 have bK:k<ls.length:=by omega
 have hLk:=hL _ (jf bK);have aR:ls.getD k (ByteArray.empty,((0:Int),(((0:Int),(0:Int)),((0:Int),((0:Int),(([]:List Int),(([]:List (Int×Int)),((0:Int),(0:Int)))))))))=ls[k]:=by simp[List.getD,bK]
 have Cm:∀t,cG zs cs ls t k=bO zs cs ls[k] t:=λt=>by simp only[cG,aR]
 obtain⟨S,e1,c1,l1⟩:=jvt hs hLk (ss:=ss) ha bG hb hlen;have bJ:=c1.pos;have e2:=jwS (nm:=nm) (ls:=ls) hE (by omega) (S:=S) (by omega) bJ;obtain⟨p1,p2,p3⟩:=jzo (nm:=nm) (ls:=ls) hE (by omega) c1.ch bJ;have pl:=jvw (nm:=nm) (ls:=ls) hE (by omega) (S:=S) bJ;have pl2:S.length*(1+es.length)<=30000*10:=ql l1 (by omega);generalize S.flatMap (mV (nm,(ls,es)))=Q at *;have hm4:m<=3:=by omega
 have R3:2^m<=2^3:=Nat.pow_le_pow_right (by omega) hm4;have fk:=hI.fl;have yH:=hI.ol;have hF:F.length<=10000000:=by omega
 have lp:=R1 (A:=Q) (B:=F) (by omega) hF (Q.length+F.length) 0 0 [] (by omega) (by omega) (by omega) (by simp;omega);rw[jv,jr,jr]at lp;obtain⟨w1,_,w3,w4,w5⟩:=R0 (Q.length+F.length) Q F a (a-1) (js _) p1 hI.st;generalize lg (Q.length+F.length) Q F=W at *
 have p8:∀x∈W,a<=x.1/\x.1<x.2.1/\x.2.1<=b/\∀t,x.1<=t->t<x.2.1->bt t F/\bO zs cs ls[k] t=x.2.2/\0<=x.2.2/\iK es x.2.2 t=false:=λx hx=>by
  have bk:∀(l:bD)(q:Int),ib q l->∀y∈l,y.1<y.2.1:=by
   intro l;induction l with
   |nil=>intro q _ y hy;simp at hy
   |cons s r ih=>intro q h y hy;rcases je.1 hy with rfl|hy;exact h.2.1;exact ih _ h.2.2 y hy
  have h0:=bk W a w1 x hx;have h1:=(w1.apart).2 x hx;obtain⟨s,dC,r1,r2,r3,r4⟩:=w3 x hx;obtain⟨g1,g2⟩:=p2 s dC;refine⟨h1,h0,by omega,λt t1 t2=>?_⟩;obtain⟨g3,g4,g5⟩:=g2 t (by omega) (by omega);rw[r3];exact⟨r4 t t1 t2,g3,g4,g5⟩
 have yW:∀x∈W,∀t,x.1<=t->t<x.2.1->Wv (fZ es t (cG zs cs ls t)) (cG zs cs ls t) ls.length (m+1)=some x.2.2:=λx hx t t1 t2=>by
  obtain⟨h1,h2,h3,h4⟩:=p8 x hx;obtain⟨g1,g2,g3,g4⟩:=h4 t t1 t2;have hn:=(hI.fr t (by omega) (by omega)).1 g1;rw[R2,hn,show ls.length-m-1=k by omega];have:fZ es t (cG zs cs ls t) k=true:=by simp only[fZ,Cm,g2,g4];simp[g3]
  simp only[this,j6,Cm,g2]
 have hold:∀t p,Wv (fZ es t (cG zs cs ls t)) (cG zs cs ls t) ls.length m=some p->Wv (fZ es t (cG zs cs ls t)) (cG zs cs ls t) ls.length (m+1)=some p:=λt p h=>by rw[R2,h]
 obtain⟨P,e4,q1,q2,q3⟩:=jB9 (l:=W) (by omega) (lo:=a) (hi:=b) ha hb (λx hx=>⟨(p8 x hx).1,(p8 x hx).2.1,(p8 x hx).2.2.1⟩);obtain⟨F',e5,f1,f2,f3⟩:=Rw (B:=P) (by omega) hI.st q1 hF;refine⟨S,Q,W,F',by rw[aR];exact e1,e2,?_,by simp[aN];omega,⟨P,e4,e5⟩,?_⟩
 .simp only[jda,show zQ Q F 0 0 []=_ from lp];rfl
 .have cT:∀t,a<=t->t<b->bt t F->nF t W\/Wv (fZ es t (cG zs cs ls t)) (cG zs cs ls t) ls.length (m+1)=none:=λt t1 t2 hf=>by
   have hn:=(hI.fr t t1 t2).1 hf;by_cases hg:fZ es t (cG zs cs ls t) k=true
   .left;refine w4 t (p3 t t1 t2 ?_ ?_) hf
    .simp only[fZ,Cm,jc,jo]at hg;exact hg.1
    .simp only[fZ,Cm,jc,kp]at hg;exact hg.2
   .right;rw[R2,hn,show ls.length-m-1=k by omega,z6.2 hg];rfl
  refine⟨f1,λt h=>hI.fb t ((f2 t).1 h).1,λt t1 t2=>?_,λx hx=>?_,?_,λt t1 t2 bk=>?_,?_,?_⟩
  .rw[f2 t,q2 t];constructor
   .rintro⟨h1,h2⟩
    rcases cT t t1 t2 h1 with h|h
    .exact absurd h h2
    .exact h
   .intro h
    have hn:Wv (fZ es t (cG zs cs ls t)) (cG zs cs ls t) ls.length m=none:=by
     cases hw:Wv (fZ es t (cG zs cs ls t)) (cG zs cs ls t) ls.length m with
     |none=>rfl
     |some p=>rw[hold t p hw]at h;simp at h
    refine⟨(hI.fr t t1 t2).2 hn,?_⟩
    rintro⟨x,hx,x1,x2⟩
    rw[yW x hx t x1 x2]at h;simp at h
  .rcases jn.1 hx with hx|hx
   .obtain⟨h1,h2,h3,h4⟩:=hI.seg x hx;exact⟨h1,h2,h3,λt t1 t2=>hold t _ (h4 t t1 t2)⟩
   .obtain⟨h1,h2,h3,_⟩:=p8 x hx;exact⟨h1,h2,h3,yW x hx⟩
  .refine qw.2 ⟨hI.ap,(w1.apart).1.imp (λh=> .inl h),λx hx y hy=>?_⟩;obtain⟨h1,h2,h3,h4⟩:=hI.seg x hx;obtain⟨g1,g2,g3,g4⟩:=p8 y hy;apply jp;intro hn;simp only[apart,not_or]at hn
   have hc:∃t,x.1<=t/\t<x.2.1/\y.1<=t/\t<y.2.1:=by
    by_cases iw:x.1<=y.1
    .exact⟨y.1,by omega,by omega,by omega,by omega⟩
    .exact⟨x.1,by omega,by omega,by omega,by omega⟩
   obtain⟨t,t1,t2,t3,t4⟩:=hc;have hw:=h4 t t1 t2;have:=(hI.fr t (by omega) (by omega)).1 (g4 t t3 t4).1;rw[hw]at this;simp at this
  .by_cases hf:bt t F
   .rcases cT t t1 t2 hf with⟨x,hx,h⟩|h
    .exact⟨x,k7 _ hx,h⟩
    .exact absurd h bk
   .have hw:Wv (fZ es t (cG zs cs ls t)) (cG zs cs ls t) ls.length m≠none:=λh=>hf ((hI.fr t t1 t2).2 h);obtain⟨x,hx,h⟩:=hI.cov t t1 t2 hw;exact⟨x,jz _ hx,h⟩
  .rw[Nat.pow_succ];omega
  .rw[jg,Nat.add_mul];omega
theorem jFb:∀(n m:Nat)(F:SL)(O:bD),n+m=ls.length->Gw zs cs ls es a b m F O->
  ∃F' O',EP (n:Int) ls zs ps cs ss (zs.map tb) nm ls es a b F O=some (F',O')/\Gw zs cs ls es a b ls.length F' O'
 |0,m,F,O,hn,hI=>by
  rw[Xe];simp only[j29];rw[ag (by omega),j6,aW];obtain rfl:m=ls.length:=by omega
  exact⟨F,O,rfl,hI⟩
 |k+1,m,F,O,hn,hI=>by
  obtain⟨S,Q,W,F',e1,e2,e3,e4,⟨P,e5,e6⟩,HD⟩:=jDD hs hL eE hE eX ha bG hb hlen (nm:=nm) (ss:=ss) (k:=k) (m:=m) (by omega) hI;rw[Xe];simp only[j29];rw[ah (by omega),ag (show ((k+1:Nat):Int)<=Int.ofNat ls.length by simp;omega),show ((k+1:Nat):Int)-1=(k:Int) by omega];simp only[j6,j7,j8];generalize ls.getD k (ByteArray.empty,((0:Int),(((0:Int),(0:Int)),((0:Int),((0:Int),(([]:List Int),(([]:List (Int×Int)),((0:Int),(0:Int)))))))))=L at *;rw[show j1t ((zs,(ps,(cs,ss))),zs.map tb) (L.1,(L.2.1,((L.2.2.1.1,L.2.2.1.2),(L.2.2.2.1,(L.2.2.2.2.1,(L.2.2.2.2.2.1,(L.2.2.2.2.2.2.1,(L.2.2.2.2.2.2.2.1,L.2.2.2.2.2.2.2.2)))))))) a b=_ from e1];simp only[j4,e2,e3];rw[ag e4];simp only[j6,j4,e5,e6,aK];exact jFb k (m+1) F' (O++W) (by omega) HD
theorem jBa:∃out,j3v ((zs,(ps,(cs,ss))),zs.map tb) (nm,(ls,es)) a b=some out/\dW (λt=>dB es t (cG zs cs ls t) ls.length) b none a out/\out.length<=40000000:=by
 simp only[j3v];by_cases qO:a>=b
 .rw[ag qO,j6];exact⟨[],rfl,show a=b by omega,by simp⟩
 .rw[ah qO,j7]
  have h0:Gw zs cs ls es a b 0 [(a,b)] []:=⟨⟨by dsimp only;omega,by dsimp only;omega,trivial⟩,λt h=>by
   rcases eU.1 h with h|h
   .exact h.2
   .exact absurd h fU,λt t1 t2=>⟨λ_=>rfl,λ_=>eU.2 (.inl ⟨t1,t2⟩)⟩,by simp,List.Pairwise.nil,λt _ _ h=>absurd rfl h,by simp,by simp⟩
  obtain⟨F,O,e1,hI⟩:=jFb hs hL eE hE eX ha bG hb hlen (nm:=nm) (ss:=ss) ls.length 0 [(a,b)] [] (by omega) h0;have R3:2^ls.length<=2^4:=Nat.pow_le_pow_right (by omega) eE;have fk:=hI.fl;have yH:=hI.ol;have hF:F.length<=10000000:=by omega
  have lp:=jFa hF F.length 0 O (by omega) (by omega);rw[jr]at lp
  have hFm:∀u∈F,a<=u.1/\u.1<u.2/\u.2<=b/\∀t,u.1<=t->t<u.2->Wv (fZ es t (cG zs cs ls t)) (cG zs cs ls t) ls.length ls.length=none:=λu hu=>by
   have hm:=bP.mem hI.st u hu;have:=hI.fb (u.2-1) ⟨u,hu,by omega,by omega⟩;exact⟨by omega,hm.2,by omega,λt t1 t2=>(hI.fr t (by omega) (by omega)).1 ⟨u,hu,t1,t2⟩⟩
  have au:∀x∈O++F.map (λu=>((u.1,(u.2, -1)):jD)),a<=x.1/\x.1<x.2.1/\x.2.1<=b/\∀t,x.1<=t->t<x.2.1->dB es t (cG zs cs ls t) ls.length=x.2.2:=λx hx=>by
   rcases jn.1 hx with hx|hx
   .obtain⟨h1,h2,h3,h4⟩:=hI.seg x hx;exact⟨h1,h2,h3,λt t1 t2=>by rw[jCe,h4 t t1 t2];rfl⟩
   .obtain⟨u,hu,rfl⟩:=jt.1 hx;obtain⟨h1,h2,h3,h4⟩:=hFm u hu;exact⟨h1,h2,h3,λt t1 t2=>by rw[jCe,h4 t t1 t2];rfl⟩
  have DX:∀x∈O++F.map (λu=>((u.1,(u.2, -1)):jD)), -1<=x.2.2/\x.2.2<=100:=λx hx=>by
   obtain⟨h1,h2,h3,h4⟩:=au x hx;have:=h4 x.1 (k9 _) h2;have s7:=hs.so.p1;rw[<-this];simp only[dB];cases hT:dI (fZ es x.1 (cG zs cs ls x.1)) ls.length with
   |none=>dsimp only;omega
   |some i=>
    dsimp only
    have hi:∀(g:Nat->Bool)(n i:Nat),dI g n=some i->i<n:=by
     intro g n;induction n with
     |zero=>intro i h;simp[dI]at h
     |succ n ih=>
      intro i h;simp only[dI]at h;cases hg:g n with
      |true=>rw[hg,j6]at h;simp at h;omega
      |false=>rw[hg,j7]at h;have:=ih i h;omega
    have bj:=hi _ _ _ hT;have e:cG zs cs ls x.1 i=bO zs cs ls[i] x.1:=by simp[cG,List.getD,bj]
    rw[e];have:=(RB hs (hL _ (jf bj)) (t:=x.1) (by omega) (by omega)).2;omega
  have nX:(O++F.map (λu=>((u.1,(u.2, -1)):jD))).Pairwise apart:=by
   refine qw.2 ⟨hI.ap,?_,λx hx y hy=>?_⟩
   .rw[List.pairwise_map]
    have:∀(l:SL)(q:Int),bP q l->l.Pairwise (λu v=>u.2<=v.1):=by
     intro l;induction l with
     |nil=>intro q _;exact List.Pairwise.nil
     |cons s r ih=>intro q h;exact ki.2 ⟨λv hv=>by have:=bP.mem h.2.2 v hv;omega,ih _ h.2.2⟩
    exact(this F _ hI.st).imp (λh=> .inl h)
   .obtain⟨u,hu,rfl⟩:=jt.1 hy;obtain⟨h1,h2,h3,h4⟩:=hI.seg x hx;obtain⟨g1,g2,g3,g4⟩:=hFm u hu;apply jp;intro hn;simp only[apart,not_or]at hn
    have hc:∃t,x.1<=t/\t<x.2.1/\u.1<=t/\t<u.2:=by
     by_cases iw:x.1<=u.1
     .exact⟨u.1,by omega,by omega,by omega,by omega⟩
     .exact⟨x.1,by omega,by omega,by omega,by omega⟩
    obtain⟨t,t1,t2,t3,t4⟩:=hc;have hw:=h4 t t1 t2;rw[g4 t t3 t4]at hw;simp at hw
  have R4:∀t,(a<=t/\t<b)↔∃s∈O++F.map (λu=>((u.1,(u.2, -1)):jD)),s.1<=t/\t<s.2.1:=λt=>by
   constructor
   .rintro⟨t1,t2⟩
    by_cases hn:Wv (fZ es t (cG zs cs ls t)) (cG zs cs ls t) ls.length ls.length=none
    .obtain⟨u,hu,u1,u2⟩:=(hI.fr t t1 t2).2 hn;exact⟨(u.1,(u.2, -1)),k7 _ (jt.2 ⟨u,hu,rfl⟩),u1,u2⟩
    .obtain⟨x,hx,h⟩:=hI.cov t t1 t2 hn;exact⟨x,jz _ hx,h⟩
   .rintro⟨x,hx,x1,x2⟩
    obtain⟨h1,h2,h3,_⟩:=au x hx;omega
  have hZl:(O++F.map (λu=>((u.1,(u.2, -1)):jD))).length<=40000000:=by rw[jg,k5];omega
  generalize hZ:O++F.map (λu=>((u.1,(u.2, -1)):jD))=Z at *
  obtain⟨Y,e2,hp,R5⟩:=jwT (l:=Z) (by omega) (λx hx=>by have:=au x hx;have:=DX x hx;omega)
  have mU:Ch (λt=>dB es t (cG zs cs ls t) ls.length) b a Y:=by
   refine jET bG ?_ (λs h=>⟨(au s (hp.mem_iff.1 h)).2.1,(au s (hp.mem_iff.1 h)).2.2.2⟩) (λt=>?_)
   .have hY:Y.Pairwise apart:=(hp.pairwise_iff (λ{x y} h=>Or.symm h)).2 nX;refine List.Pairwise.imp_of_mem (λ{x y} hx hy h=>?_) (hY.and R5);have h1:=au x (hp.mem_iff.1 hx);have h2:=au y (hp.mem_iff.1 hy);rcases h.1 with h3|h3
    .exact h3
    .have:=h.2;omega
   .rw[R4 t];constructor
    .rintro⟨x,hx,h⟩;exact⟨x,hp.mem_iff.2 hx,h⟩
    .rintro⟨x,hx,h⟩;exact⟨x,hp.mem_iff.1 hx,h⟩
  have hYl:=hp.length_eq;obtain⟨out,e3,h3,l3⟩:=JX (l:=Y) (by omega) mU;refine⟨out,?_,h3,by omega⟩;simp only[j20,j4];rw[show EP (Int.ofNat ls.length) ls zs ps cs ss (zs.map tb) nm ls es a b [(a,b)] []=_ from e1];simp only[j4,show Int.ofNat F.length=(F.length:Int) from rfl];rw[show ER (F.length:Int) 0 F O=_ from lp];simp only[j4];rw[e2];simp only[j4,e3]
end
def mW(l:bD):List Int:=l.tail.map (·.1)
theorem Gx{f:Int->Int}{b:Int}:∀{l:bD}{q:Option Int}{a:Int},dW f b q a l->(∀x,x∈mW l↔a<x/\x<b/\f (x-1)≠f x)/\(mW l).Nodup/\l.length<=(mW l).length+1
 |[],q,a,h=>⟨λx=>⟨λhx=>by simp[mW]at hx,λhx=>by have h:a=b:=h;omega⟩,v6,by simp⟩
 |[s],q,a,h=>by
  obtain⟨h1,h2,h3,h4,h5⟩:=h;have h5:s.2.1=b:=h5;exact⟨λx=>⟨λhx=>by simp[mW]at hx,λ⟨x1,x2,x3⟩=>absurd ((h4 (x-1) (by omega) (by omega)).trans (h4 x (by omega) (by omega)).symm) x3⟩,v6,by simp[mW]⟩
 |s::u::r,q,a,h=>by
  obtain⟨h1,h2,h3,h4,h5⟩:=h;obtain⟨i1,i2,i3⟩:=Gx h5;have hu:=h5.1;have hle:=h5.2.2.2.2.ch.le;have Bd:=h5.2.1;have e:mW (s::u::r)=u.1::mW (u::r):=rfl;refine⟨λx=>?_,?_,by rw[e];simp only[jm]at i3 ⊢;omega⟩
  .rw[e,je,i1 x];constructor
   .rintro (rfl|⟨x1,x2,x3⟩)
    .refine⟨by omega,by omega,?_⟩;rw[h4 (u.1-1) (by omega) (by omega),h5.2.2.2.1 u.1 (by omega) (by omega)]
     exactλhe=>h5.2.2.1 (by rw[he])
    .exact⟨by omega,x2,x3⟩
   .rintro⟨x1,x2,x3⟩
    by_cases hx:x<s.2.1
    .exact absurd ((h4 (x-1) (by omega) (by omega)).trans (h4 x (by omega) (by omega)).symm) x3
    .by_cases nv:x=s.2.1
     .left;omega
     .right;exact⟨by omega,x2,x3⟩
  .rw[e];refine qb.2 ⟨λhm=>?_,i2⟩;have:=(i1 u.1).1 hm;omega
theorem R6{f:Int->Int}{a b:Int}{l:bD}{q:Option Int}(h:dW f b q a l){E:List Int}(hE:∀x,a<x->x<b->f (x-1)≠f x->x∈E):l.length<=E.length+1:=by
 obtain⟨h1,h2,h3⟩:=Gx h
 have:=h2.length_le_of_subset (l₂:=E) (λx hx=>by
  have:=(h1 x).1 hx;exact hE x this.1 this.2.1 this.2.2)
 omega
def iL(es:List dA):List Int:=es.flatMap λx=>[x.2.2.2.1,x.2.2.2.2]
theorem Aq:∀es:List dA,(iL es).length=2*es.length
 |[]=>rfl
 |x::es=>by
  have:=Aq es;simp only[iL,qz,jg,jm,qc]at this ⊢;omega
theorem J1{es:List dA}{x:dA}(hx:x∈es):x.2.2.2.1∈iL es/\x.2.2.2.2∈iL es:=
 ⟨qo.2 ⟨x,hx,by simp⟩,qo.2 ⟨x,hx,by simp⟩⟩
theorem R7{es:List dA}{t:Int}(ht:t∉iL es)(p:Int):iK es p (t-1)=iK es p t:=by
 unfold iK;rw[zr,zh,zh]
 have key:∀x∈es,(x.1==0&&(x.2.1==p&&(decide (x.2.2.2.1<=t-1)&&decide (t-1<x.2.2.2.2))))=(x.1==0&&(x.2.1==p&&(decide (x.2.2.2.1<=t)&&decide (t<x.2.2.2.2)))):=λx hx=>by
  obtain⟨m1,m2⟩:=J1 hx;have n1:t≠x.2.2.2.1:=λe=>ht (e▸m1);have n2:t≠x.2.2.2.2:=λe=>ht (e▸m2)
  have e1:decide (x.2.2.2.1<=t-1)=decide (x.2.2.2.1<=t):=by
   by_cases h:x.2.2.2.1<=t
   .rw[ag h,ag (by omega)]
   .rw[ah h,ah (by omega)]
  have e2:decide (t-1<x.2.2.2.2)=decide (t<x.2.2.2.2):=by
   by_cases h:t<x.2.2.2.2
   .rw[ag h,ag (by omega)]
   .rw[ah h,ah (by omega)]
  rw[e1,e2]
 exact⟨λ⟨x,hx,h⟩=>⟨x,hx,by rw[<-key x hx];exact h⟩,λ⟨x,hx,h⟩=>⟨x,hx,by rw[key x hx];exact h⟩⟩
theorem J2{es:List dA}{t u:Int}{pf pg:Nat->Int}{n:Nat}(hp:∀i,i<n->pf i=pg i)(ha:∀p,iK es p t=iK es p u):dB es t pf n=dB es u pg n:=by
 have hg:∀m,m<=n->dI (fZ es t pf) m=dI (fZ es u pg) m:=by
  intro m;induction m with
  |zero=>intro _;rfl
  |succ m ih=>
   intro hm;have e:fZ es t pf m=fZ es u pg m:=by simp only[fZ,hp m (by omega),ha]
   simp only[dI,e,ih (by omega)]
 have hi:∀(g:Nat->Bool)(n i:Nat),dI g n=some i->i<n:=by
  intro g n;induction n with
  |zero=>intro i h;simp[dI]at h
  |succ n ih=>
   intro i h;simp only[dI]at h;cases hg:g n with
   |true=>rw[hg,j6]at h;simp at h;omega
   |false=>rw[hg,j7]at h;have:=ih i h;omega
 simp only[dB,hg n (js _)];cases hT:dI (fZ es u pg) n with
 |none=>rfl
 |some i=>exact hp i (hi _ _ _ hT)
section
variable{zs:List br}{ps:List cZ}{cs:List aX}(hs:cN zs ps cs)
include hs
theorem jzt{a b:Int}(ha:0<=a)(bG:a<=b)(hb:b<=8589934592)(hlen:b-a<=1209600):∀ls:List bI,(∀L∈ls,eD zs.length ps.length cs.length L)->
  ∃E:List Int,E.length<=5000*ls.length/\∀L∈ls,∀x,a<x->x<b->bO zs cs L (x-1)≠bO zs cs L x->x∈E
 |[],_=>⟨[],by simp,by simp⟩
 |L::ls,hL=>by
  obtain⟨E,e1,e2⟩:=jzt ha bG hb hlen ls (λM hM=>hL M (by simp[hM]));obtain⟨S,_,c1,l1⟩:=jB6 hs (hL L (by simp)) (ss:=[]) ha bG hb hlen;refine⟨mW S++E,?_,λM hM x x1 x2 x3=>?_⟩
  .have:(mW S).length<=S.length:=by simp[mW]
   rw[jg,jm];omega
  .rcases je.1 hM with rfl|hM
   .exact jz _ (((Gx c1).1 x).2 ⟨x1,x2,x3⟩)
   .exact k7 _ (e2 M hM x x1 x2 x3)
theorem jDE{ls:List bI}{es:List dA}(hL:∀L∈ls,eD zs.length ps.length cs.length L){a b:Int}(ha:0<=a)(bG:a<=b)(hb:b<=8589934592)(hlen:b-a<=1209600) :
  ∃E:List Int,E.length<=5000*ls.length+2*es.length/\(∀x,a<x->x<b->dB es (x-1) (cG zs cs ls (x-1)) ls.length≠dB es x (cG zs cs ls x) ls.length->x∈E)/\∀x∈iL es,x∈E:=by
 obtain⟨E,e1,e2⟩:=jzt hs ha bG hb hlen ls hL;refine⟨E++iL es,by rw[jg,Aq];omega,λx x1 x2 x3=>?_,λx hx=>k7 _ hx⟩;apply jp;intro hn;simp only[jn,not_or]at hn;refine x3 (J2 (λi hi=>?_) (λp=>R7 hn.2 p));apply jp;intro bk;have e:∀t,cG zs cs ls t i=bO zs cs ls[i] t:=λt=>by simp[cG,List.getD,hi]
 rw[e,e]at bk;exact hn.1 (e2 _ (jf hi) x x1 x2 bk)
theorem joJ{ss:List cF}(hc:ny (zs,(ps,(cs,ss)))){i:Nat}(hi:i<ss.length){a b:Int}(ha:0<=a)(bG:a<=b)(hb:b<=8589934592)(hlen:b-a<=34560000) :
  j9P (zs,(ps,(cs,ss))) (i:Int) a b=some (((zs,(ps,(cs,ss))),zs.map tb),0):=by
 simp only[j9P,jER hs.so.ok hc,j4,jl,j7,jio,show Int.ofNat ss.length=(ss.length:Int) from rfl,jkq];rw[ag (show (i:Int)>=0 by omega),ag (show (i:Int)<(ss.length:Int) by omega),ai (x:=b-a),ag (show a>=0 by omega),ag (show a<=8589934592 by omega),ag (show b>=a by omega),ag hb,ag hlen];rfl
end
section
variable{zs:List br}{ps:List cZ}{cs:List aX}(hs:cN zs ps cs)
include hs
end
section
variable{o:Int}{l:bn}(h:gW o l)
include h
end
section
variable{zs:List br}{ps:List cZ}{cs:List aX}(hs:cN zs ps cs)
include hs
end
theorem R8{f:Nat->Bool}:∀{n k:Nat},dI f n=some k->k<n
 |0,k,h=>by simp[dI]at h
 |n+1,k,h=>by
  simp only[dI]at h;cases hf:f n with
  |true=>rw[hf]at h;simp at h;omega
  |false=>rw[hf]at h;simp at h;have:=R8 h;omega
def tL(t p:Int)(x:dA):Int:=
 if t<x.2.2.2.1\/x.2.2.2.2<=t then p else if x.1=1 then x.2.1 else if x.1=2/\p=x.2.1 then x.2.2.1 else if x.1=2/\p=x.2.2.1 then x.2.1 else p
def jO(t:Int):Int->List dA->Int
 |p,[]=>p
 |p,x::r=>jO t (tL t p x) r
theorem jCf{es:List dA}(hl:es.length<=100){t:Int}:∀(n i:Nat)(p:Int),i+n=es.length->Fq es p t (i:Int)=some (jO t p (es.drop i))
 |0,i,p,hi=>by
  rw[X5];simp only[j6u,show Int.ofNat es.length=(es.length:Int) from rfl];rw[ah (by omega),j7,aW,jd (by omega)];rfl
 |n+1,i,p,hi=>by
  have bj:i<es.length:=by omega
  have aR:es.getD i ((0:Int),((0:Int),((0:Int),((0:Int),(0:Int)))))=es[i]:=by simp[List.getD,bj]
  have ih:=λp=>jCf hl (t:=t) n (i+1) p (by omega);rw[X5];simp only[j6u,show Int.ofNat es.length=(es.length:Int) from rfl];rw[ag (by omega),bz,ai (x:=(i:Int)+1),jb bj];simp only[j6,j8,aR,jO];generalize es[i]=x;unfold tL;by_cases ha:t<x.2.2.2.1\/x.2.2.2.2<=t
  .rw[if_pos ha]
   have:cond (decide (t<x.2.2.2.1)) true (decide (t>=x.2.2.2.2))=true:=by
    rcases ha with ha|ha
    .rw[ag ha];rfl
    .rw[ag (show t>=x.2.2.2.2 from ha)];cases decide (t<x.2.2.2.1)<;>rfl
   rw[this,j6,aK];exact ih p
  .rw[if_neg ha,ah (show¬t<x.2.2.2.1 by omega),ah (show¬t>=x.2.2.2.2 by omega)];simp only[j7];by_cases h1:x.1=1
   .rw[if_pos h1,di h1,j6,aK];exact ih _
   .rw[if_neg h1,bW h1,j7];by_cases h2:x.1=2
    .rw[di h2];simp only[j6];by_cases h3:p=x.2.1
     .rw[if_pos ⟨h2,h3⟩,di h3,j6,aK];exact ih _
     .rw[if_neg (λh=>h3 h.2),bW h3,j7];by_cases h4:p=x.2.2.1
      .rw[if_pos ⟨h2,h4⟩,di h4,j6,aK];exact ih _
      .rw[if_neg (λh=>h4 h.2),bW h4,j7,aK];exact ih _
    .rw[if_neg (λh=>h2 h.1),if_neg (λh=>h2 h.1),bW h2];simp only[j7,aK];exact ih _
theorem jzu{es:List dA}(hl:es.length<=100){t:Int}:∀(n i:Nat)(p:Int),i+n=es.length->ES p t es (es.length:Int) (i:Int)=some (jO t p (es.drop i))
 |0,i,p,hi=>by
  rw[Xg];simp only[j5w];rw[ah (by omega),j7,aW,jd (by omega)];rfl
 |n+1,i,p,hi=>by
  have bj:i<es.length:=by omega
  have aR:es.getD i ((0:Int),((0:Int),((0:Int),((0:Int),(0:Int)))))=es[i]:=by simp[List.getD,bj]
  have ih:=λp=>jzu hl (t:=t) n (i+1) p (by omega);rw[Xg];simp only[j5w,jir,j4];rw[ag (by omega),bz,ai (x:=(i:Int)+1),jb bj];simp only[j6,j8,aR,jO];generalize es[i]=x;unfold tL;by_cases ha:t<x.2.2.2.1\/x.2.2.2.2<=t
  .rw[if_pos ha]
   have:cond (decide (x.2.2.2.1<=t)) (decide (t<x.2.2.2.2)) false=false:=by
    rcases ha with ha|ha
    .rw[ah (show¬x.2.2.2.1<=t by omega)];rfl
    .rw[ah (show¬t<x.2.2.2.2 by omega)];cases decide (x.2.2.2.1<=t)<;>rfl
   rw[this];simp only[ka,j6,aK];exact ih p
  .rw[if_neg ha,ag (show x.2.2.2.1<=t by omega),ag (show t<x.2.2.2.2 by omega)];simp only[j6,jl,j7];by_cases h0:x.1=0
   .rw[di h0,if_neg (by omega),if_neg (by omega),if_neg (by omega),j6,aK];exact ih p
   rw[bW h0,j7];by_cases h1:x.1=1
   .rw[if_pos h1,di h1,j6,aK];exact ih _
   .rw[if_neg h1,bW h1,j7];by_cases h2:x.1=2
    .rw[show (x.1 != 2)=false by simp[h2],j7];by_cases h3:p=x.2.1
     .rw[if_pos ⟨h2,h3⟩,di h3,j6,aK];exact ih _
     .rw[if_neg (λh=>h3 h.2),bW h3,j7];by_cases h4:p=x.2.2.1
      .rw[if_pos ⟨h2,h4⟩,di h4,j6,aK];exact ih _
      .rw[if_neg (λh=>h4 h.2),bW h4,j7,aK];exact ih _
    .rw[if_neg (λh=>h2 h.1),if_neg (λh=>h2 h.1),show (x.1 != 2)=true by simp[h2],j6,aK];exact ih _
theorem jvx{nm:ByteArray}{ls:List bI}{es:List dA}{p t:Int}(hl:es.length<=1000):∀(n i:Nat),i+n=es.length->Fo p t (i:Int) nm ls es=some (cond (iK (es.drop i) p t) (.inl true) (.inr ()))
 |0,i,hi=>by
  rw[X3];simp only[j6t,show Int.ofNat es.length=(es.length:Int) from rfl];rw[ah (by omega),j7,aW,jd (by omega)];rfl
 |n+1,i,hi=>by
  have ak:i<es.length:=by omega
  have aR:es.getD i ((0:Int),((0:Int),((0:Int),((0:Int),(0:Int)))))=es[i]:=by simp[List.getD,ak]
  have ih:=jvx (nm:=nm) (ls:=ls) (p:=p) (t:=t) hl n (i+1) (by omega);rw[X3];simp only[j6t,show Int.ofNat es.length=(es.length:Int) from rfl];rw[ag (by omega),bz,ai (x:=(i:Int)+1),jb ak];simp only[j6,j8,aR];have ha:iK (es[i]::es.drop (i+1)) p t=((es[i].1==0&&(es[i].2.1==p&&(decide (es[i].2.2.2.1<=t)&&decide (t<es[i].2.2.2.2))))||iK (es.drop (i+1)) p t):=rfl;have e:(cond (cond (cond (es[i].1==(0:Int)) (es[i].2.1==p) false) (decide (es[i].2.2.2.1<=t)) false) (decide (t<es[i].2.2.2.2)) false)=(es[i].1==0&&(es[i].2.1==p&&(decide (es[i].2.2.2.1<=t)&&decide (t<es[i].2.2.2.2)))):=by cases es[i].1==(0:Int)<;>cases es[i].2.1==p<;>cases decide (es[i].2.2.2.1<=t)<;>rfl
  rw[e,ha];cases (es[i].1==0&&(es[i].2.1==p&&(decide (es[i].2.2.2.1<=t)&&decide (t<es[i].2.2.2.2)))) with
  |true=>rfl
  |false=>rw[j7,aK,zt];exact ih
theorem jwU{nm:ByteArray}{ls:List bI}{es:List dA}{p t:Int}(hl:es.length<=1000):jlL (nm,(ls,es)) p t=some (iK es p t):=by
 have:=jvx (nm:=nm) (ls:=ls) (p:=p) (t:=t) hl es.length 0 (by omega);simp only[jlL,show Fo p t 0 nm ls es=_ from this,j4,jr];cases iK es p t<;>rfl
section
variable{zs:List br}{ps:List cZ}{cs:List aX}(hs:cN zs ps cs)
include hs
theorem jzv{ss:List cF}{nm:ByteArray}{ls:List bI}{es:List dA}(eX:es.length<=1000)(eE:ls.length<=1000)(hL:∀L∈ls,eD zs.length ps.length cs.length L){t:Int}(h0:0<=t)(h1:t<=8589934592):∀n:Nat,n<=ls.length->
  Fp t ((n:Int)-1) zs ps cs ss nm ls es=some (match dI (fZ es t (cG zs cs ls t)) n with|some i=> .inl ((i:Int),cG zs cs ls t i)|none=> .inr ())
 |0,hn=>by
  rw[X4];simp only[j7e];rw[ah (by omega),j7,aW];rfl
 |n+1,hn=>by
  have ak:n<ls.length:=by omega
  have aR:ls.getD n (ByteArray.empty,((0:Int),(((0:Int),(0:Int)),((0:Int),((0:Int),(([]:List Int),(([]:List (Int×Int)),((0:Int),(0:Int)))))))))=ls[n]:=by simp[List.getD,ak]
  have ih:=jzv (ss:=ss) (nm:=nm) eX eE hL h0 h1 n (by omega);have hp:=jB8 hs (hL _ (jf ak)) (ss:=ss) h0 h1;have e:cG zs cs ls t n=bO zs cs ls[n] t:=by simp[cG,List.getD,ak]
  rw[show ((n+1:Nat):Int)-1=(n:Int) by omega,X4];simp only[j7e];rw[ag (show (n:Int)>=0 by omega),bz,ai (x:=(n:Int)-1)];simp only[j6,j8,aR];rw[show jmA (zs,(ps,(cs,ss))) (ls[n].1,(ls[n].2.1,((ls[n].2.2.1.1,ls[n].2.2.1.2),(ls[n].2.2.2.1,(ls[n].2.2.2.2.1,(ls[n].2.2.2.2.2.1,(ls[n].2.2.2.2.2.2.1,(ls[n].2.2.2.2.2.2.2.1,ls[n].2.2.2.2.2.2.2.2)))))))) t=_ from hp];simp only[j4,dI,fZ,e];by_cases pS:0<=bO zs cs ls[n] t
  .rw[ag (show bO zs cs ls[n] t>=0 from pS)];simp only[j6,jwU eX,j4,yl];cases iK es (bO zs cs ls[n] t) t with
   |true=>simp only[jl,j7,aK];exact ih
   |false=>simp only[ka,j6,e];exact aW ..
  .rw[ah (show¬bO zs cs ls[n] t>=0 from pS)];simp only[j7,Bool.false_and,aK];exact ih
noncomputable def cR(zs:List br)(cs:List aX)(s:cF)(t:Int):Int:=jO t (dB s.2.2 t (cG zs cs s.2.1 t) s.2.1.length) s.2.2
end
section
variable{zs:List br}{ps:List cZ}{cs:List aX}(hs:cN zs ps cs)
include hs
end
section
variable{zs:List br}{ps:List cZ}{cs:List aX}{nm:ByteArray}{ls:List bI}{es:List dA}
structure Sht(zs:List br)(ps:List cZ)(cs:List aX)(ls:List bI)(es:List dA):Prop where
 z:zs.length<=1000/\∀z∈zs,z.2.2.length<=1000
 p:ps.length<=1000/\∀p∈ps,p.2.2.1.length<=1000
 c:cs.length<=1000/\∀c∈cs,c.2.2.length<=1000
 l:ls.length<=1000/\∀x∈ls,x.2.2.2.2.2.1.length<=1000/\x.2.2.2.2.2.2.1.length<=1000
 e:es.length<=1000
end
section
variable{zs:List br}{ps:List cZ}{cs:List aX}(hs:cN zs ps cs)
include hs
end
theorem jDF{L:List Int}{a:Int}(h:dD L a):∃zs ps cs nm ls es a',j67 L a 1=some ((zs,(ps,(cs,[(nm,(ls,es))]))),L,a')/\cN zs ps cs/\ny (zs,(ps,(cs,[(nm,(ls,es))])))/\ls.length<=3/\es.length<=3/\dD L a':=by
 obtain⟨zs,ps,cs,ss,a1,e1,hs,g0,g1,g2,g3,d1⟩:=jwR (n:=1) h (by omega) (by omega)
 obtain⟨s,rfl⟩:∃s,ss=[s]:=by
  match ss,g0,g1 with
  |[s],_,_=>exact⟨s,rfl⟩
  |s::s'::r,_,g1=>simp at g1;omega
 have DN:=g3 s (by simp);have hc:=jDr hs (ss:=[s]) (by simp) (by rw[g2];exact jDq.take _) (λy h=>(g3 y h).ck);exact⟨zs,ps,cs,s.1,s.2.1,s.2.2,a1,e1,hs,hc,DN.ll,DN.el,d1⟩
section
variable{zs:List br}{ps:List cZ}{cs:List aX}(hs:cN zs ps cs)
include hs
end
section
variable{zs:List br}{ps:List cZ}{cs:List aX}(hs:cN zs ps cs)
include hs
end
section
variable{zs:List br}{ps:List cZ}{cs:List aX}(hs:cN zs ps cs)
include hs
end
end Go.Proofs.Pw
