/- Facts. -/
import Derived.Test.YtmccfdihkphfaaaGreatCEPJ
import Derived.Test.YtmccfdihkphfaaaGreatCELD
import Derived.Test.YtmccfdihkphfaaaGreatCEPA
open _root_ renaming Int->G,List->H,Nat->I,ByteArray->Á,Option->Ç
open Option renaming some->J,none->Ã
open List renaming getD->N,length_append->O,drop_eq_getElem_cons->W,drop_of_length_le->X,filter_cons_of_neg->Z
open Int renaming ofNat->Y
open ByteArray renaming empty->À
open Go Go.Lft
namespace Go.Proofs.Pw
theorem jJo{ds:H G}(hs:ds.Pairwise (· < ·))(hl:ds.length<=64)(x:G):∃(k:I)(b:Bool),j3t ds x=J ((k:G),b)/\k<=ds.length/\(∀i,(hi:i<ds.length)->i<k->ds[i]<x)/\∀i,(hi:i<ds.length)->k<=i->x<=ds[i]:=by
 obtain⟨k,e,hk,h1,h2⟩:=Uk hs hl (x:=x) ds.length 0 ds.length aa aa (jh _) (λi _ h=>aa) (λi hi h=>aa);rw[show ((0:I):G)=0 from rfl]at e;simp(disch:=omega)only[j3t,e,S0];by_cases iN:k<ds.length
 .have br:ds.getD k (0:G)=ds[k]:=by simp[iN]
  rw[cB,ai (show (k:G)<(ds.length:G) by omega),br];simp only[zo,j6];by_cases hx:ds[k]=x
  .rw[dR hx];exact⟨k,_,rfl,hk,h1,h2⟩
  .rw[cU hx];simp only[j7,ja8,j4,je];exact⟨k,_,rfl,hk,h1,h2⟩
 .rw[aC (show¬(k:G)<(ds.length:G) by omega)];simp only[jv,Bool.or_true,j6,j7,Bool.false_and];exact⟨k,_,rfl,hk,h1,h2⟩
theorem VA{a t:G}:∀(es:H ct)(p:G),(∀x∈es,(x.2.2.2.1<=a↔x.2.2.2.1<=t)/\(x.2.2.2.2<=a↔x.2.2.2.2<=t))->ml t p es=ml a p es
 |[],_,_=>rfl
 |x::r,p,h=>by
  have hx:=h x ae;simp only[ml]
  have e:yP t p x=yP a p x:=by
   unfold yP;have:(t<x.2.2.2.1\/x.2.2.2.2<=t)↔(a<x.2.2.2.1\/x.2.2.2.2<=a):=aa;by_cases hc:a<x.2.2.2.1\/x.2.2.2.2<=a
   .rw[if_pos hc,if_pos (this.2 hc)]
   .rw[if_neg hc,if_neg (λh=>hc (this.1 h))]
  rw[e];exact VA r _ (λy hy=>h y (by simp[hy]))
theorem jJp{es:H ct}(hl:es.length<=1000){f t:G}{zs:H bB}{ps:H cZ}{cs:H aY}{ss:H bW}{tbs:H (G×bm)}{nm:Á}{ls:H bt}:∀(n i:I)(acc:H G),i+n=es.length->acc.length<=2*i->
  JG f t es (es.length:G) (i:G) zs ps cs ss tbs nm ls es acc=J (f,t,zs,ps,cs,ss,tbs,nm,ls,es,acc++mj (es.drop i))
 |0,i,acc,hi,_=>by
  rw[_q];simp(disch:=omega)only[j3u,X,S0];simp[mj]
 |n+1,i,acc,hi,dM=>by
  have bG:i<es.length:=aa;have br:es.getD i ((0:G),((0:G),((0:G),((0:G),(0:G)))))=es[i]:=by simp[N,bG]
  have ih:=jJp hl (f:=f) (t:=t) (zs:=zs) (ps:=ps) (cs:=cs) (ss:=ss) (tbs:=tbs) (nm:=nm) (ls:=ls) n (i+1) (acc++[es[i].2.2.2.1,es[i].2.2.2.2]) aa aj;rw[_q];simp(disch:=omega)only[j3u,W bG,S0];rw[jk]at ih;exact ih
theorem jF0{es:H ct}(hl:es.length<=100){p t:G}:jmd es p t=J (ml t p es):=by
 have ef:=jDi hl (t:=t) es.length 0 p aa;rw[jj]at ef;simp only[jmd,show Y es.length=(es.length:G) from rfl,show JF p t es (es.length:G) 0=_ from ef];rfl
section
variable{es:H ct}(fI:es.length<=100){K:H G}(hK:K.Pairwise (· < ·))(VC:K.length<=64){a0 b:G}(hb:b∈K)(iL:∀x∈mj es,a0<x->x<b->x∈K)
include fI hK VC hb iL
theorem jK4{g:G->G}{p u:G}(hu:u<=b){m q w:G}{nm:Á}{ls:H bt}{R:bM}{x:G}:∀(n i:I)(a:G)(acc:bM),K.length-i<=n->a0<=a->a<=u->(a<u->i<K.length)->(∀k,(hk:k<K.length)->(a<u->(k<i->K[k]<=a)/\(i<=k->a<K[k])))->(∀t,a<=t->t<u->g t=p)->
  acc.length+(K.length-i)<=1000000000->Ch (λt=>ml t (g t) es) a x acc->
  ∃out,Pz (i:G) a m q nm ls es w u p K acc R=J (m,q,nm,ls,es,K,out,R)/\Ch (λt=>ml t (g t) es) u x out/\out.length<=acc.length+(K.length-i):=by
 intro n;induction n with
 |zero=>
  intro i a acc hn ha hau hi _ _ _ nW;rw[_r];simp only[j3v];have oI:¬a<u:=λh=>by have:=hi h;omega
  rw[aC oI,j7,bV];have:a=u:=aa;subst this;exact⟨acc,rfl,nW,aa⟩
 |succ n ih=>
  intro i a acc hn ha hau hi dx hg wg nW;rw[_r];simp only[j3v];by_cases ao:a<u
  .have kL:=hi ao;have br:K.getD i (0:G)=K[i]:=by simp[kL]
   have h1:=((dx i kL) ao).2 (jh _);simp(disch:=omega)only[jF0 fI,S0];have fW:(if K[i]<u then K[i] else u)=min K[i] u:=by split<;>omega
   rw[fW];have gg:a<min K[i] u:=aa
   have VD:∀t,a<=t->t<min K[i] u->ml t (g t) es=ml a p es:=λt t1 t2=>by
    rw[hg t t1 aa];refine VA es p (λy hy=>?_);obtain⟨y1,y2⟩:=jDq hy
    have key:∀c,c∈mj es->(c<=a↔c<=t):=λc hc=>by
     refine⟨λh=>aa,λh=>?_⟩;apply jt;intro UC;have hcK:=iL c hc aa aa;obtain⟨k,hk,rfl⟩:=qt hcK;by_cases oX:k<i
     .have:=((dx k hk) ao).1 oX;omega
     .by_cases Hp:k=i
      .subst Hp;omega
      .have:=ky.1 hK i k kL hk aa;omega
    exact⟨key _ y1,key _ y2⟩
   have VE:=nW.snoc (b:=a) (c:=min K[i] u) (p:=ml a p es) aa VD
   obtain⟨out,e,hc,hl⟩:=ih (i+1) (min K[i] u) (acc++[(a,(min K[i] u,ml a p es))]) aa aa aa (λh=>by
    apply jt;intro VF;obtain⟨k,hk,uL⟩:=qt hb;by_cases oX:k=i
    .subst oX;omega
    .have:=ky.1 hK k i hk kL aa;omega) (λk hk h=>⟨λoX=>by
    by_cases Hp:k=i
    .subst Hp;omega
    .have:=((dx k hk) ao).1 aa;omega,λoX=>by
    have:=ky.1 hK i k kL hk aa;omega⟩) (λt t1 t2=>hg t aa t2) aj VE
   exact⟨out,e,hc,by simp at hl;omega⟩
  .rw[aC ao,j7,bV];have:a=u:=aa;subst this;exact⟨acc,rfl,nW,aa⟩
theorem jJq{g:G->G}{S:bM}(ur:S.length<=10000000){nm:Á}{ls:H bt}(yk : -1000000000000<=a0)(dS:b<=1000000000000){x:G}:∀(n i:I)(a:G)(acc:bM),i+n=S.length->a0<=a->Ch g b a (S.drop i)->Ch (λt=>ml t (g t) es) a x acc->acc.length<=64*i->
  ∃out,JH (S.length:G) (i:G) nm ls es K acc S=J out/\Ch (λt=>ml t (g t) es) b x out/\out.length<=64*S.length
 |0,i,a,acc,hi,_,hc,nW,wg=>by
  rw[X aa]at hc;have hc:a=b:=hc;subst hc;rw[_s];simp(disch:=omega)only[j3w,S0];exact⟨acc,rfl,nW,aa⟩
 |n+1,i,a,acc,hi,ha,hc,nW,wg=>by
  have bG:i<S.length:=aa;rw[W bG]at hc;obtain⟨c1,c2,c3,c4⟩:=hc;have hle:=c4.le;have br:S.getD i ((0:G),((0:G),(0:G)))=S[i]:=by simp[N,bG]
  obtain⟨k,bb,ek,hk,k1,k2⟩:=jJo hK VC (a+1)
  obtain⟨out,e4,rY,wT⟩:=jK4 fI hK VC hb iL (g:=g) (p:=S[i].2.2) (u:=S[i].2.1) hle (m:=(S.length:G)) (q:=(i:G)) (w:=S[i].1) (nm:=nm) (ls:=ls) (R:=S) (x:=x) K.length k a acc aa ha c2 (λh=>by
   apply jt;intro VF;obtain⟨j,hj,pZ⟩:=qt hb;have:=k1 j hj aa;omega) (λj hj _=>⟨λh=>by have:=k1 j hj h;omega,λh=>by have:=k2 j hj h;omega⟩) c3 aa nW
  have ih:=jJq ur (nm:=nm) (ls:=ls) yk dS (g:=g) (x:=x) n (i+1) S[i].2.1 out aa aa c4 rY aa;rw[_s];simp(disch:=omega)only[j3w,c1,ek,S0];rw[c1]at e4;rw[e4];simp only[j4];rw[aQ (x:=(i:G)+1),bg];exact ih
end
section
variable{zs:H bB}{ps:H cZ}{cs:H aY}(hs:kS zs ps cs)
include hs
theorem jz2{a b:G}(ha:0<=a)(bH:a<=b)(hb:b<=8589934592)(hlen:b-a<=35078400):∀ls:H bt,(∀L∈ls,ic zs.length ps.length cs.length L)->
  ∃E:H G,E.length<=30000*ls.length/\∀L∈ls,∀x,a<x->x<b->cE zs cs L (x-1)≠cE zs cs L x->x∈E
 |[],_=>⟨[],ae,ae⟩
 |L::ls,hL=>by
  obtain⟨E,e1,e2⟩:=jz2 ha bH hb hlen ls (λM hM=>hL M (by simp[hM]));obtain⟨S,_,c1,l1⟩:=Ķ hs (hL L ae) (ss:=[]) ha bH hb hlen;refine⟨uq S++E,?_,λM hM x x1 x2 x3=>?_⟩
  .have:(uq S).length<=S.length:=by simp[uq]
   rw[O,jf];omega
  .rcases jb.1 hM with rfl|hM
   .exact jo _ (((Vu c1).1 x).2 ⟨x1,x2,x3⟩)
   .exact jm _ (e2 M hM x x1 x2 x3)
theorem jF1{ls:H bt}{es:H ct}(hL:∀L∈ls,ic zs.length ps.length cs.length L){a b:G}(ha:0<=a)(bH:a<=b)(hb:b<=8589934592)(hlen:b-a<=35078400) :
  ∃E:H G,E.length<=30000*ls.length+2*es.length/\(∀x,a<x->x<b->fD es (x-1) (dH zs cs ls (x-1)) ls.length≠fD es x (dH zs cs ls x) ls.length->x∈E)/\∀x∈mj es,x∈E:=by
 obtain⟨E,e1,e2⟩:=jz2 hs ha bH hb hlen ls hL;refine⟨E++mj es,by rw[O,Lt];omega,λx x1 x2 x3=>?_,λx hx=>jm _ hx⟩;apply jt;intro hn;simp only[ji,not_or]at hn;refine x3 (ſ (λi hi=>?_) (λp=>jDr hn.2 p));apply jt;intro bD;have e:∀t,dH zs cs ls t i=cE zs cs ls[i] t:=λt=>by simp[dH,N,hi]
 rw[e,e]at bD;exact hn.1 (e2 _ (jd hi) x x1 x2 bD)
theorem jAq{nm:Á}{ls:H bt}{es:H ct}(hL:∀L∈ls,ic zs.length ps.length cs.length L)(gw:ls.length<=4)(hE:∀x∈es,GW x)(fI:es.length<=9)
  {ss:H bW}{a b:G}(ha:0<=a)(bH:a<=b)(hb:b<=8589934592)(hlen:b-a<=35078400) :
  ∃out,j5Z ((zs,(ps,(cs,ss))),zs.map tb) (nm,(ls,es)) a b=J out/\dG (λt=>fD es t (dH zs cs ls t) ls.length) b Ã a out/\out.length<=30000*ls.length+2*es.length+1:=by
 obtain⟨out,e,h,_⟩:=jEX hs hL gw hE fI ha bH hb aa (nm:=nm) (ss:=ss);obtain⟨E,e1,e2,_⟩:=jF1 hs (es:=es) hL ha bH hb hlen;have:=jHR h e2;exact⟨out,e,h,aa⟩
theorem Lv{s:bW}(hk:SG zs ps cs s)(gw:s.2.1.length<=3)(fI:s.2.2.length<=6){ss:H bW}{a b:G}(ha:0<=a)(bH:a<=b)(hb:b<=8589934592)(hlen:b-a<=34560000) :
  ∃out,j2M ((zs,(ps,(cs,ss))),zs.map tb) s a b=J out/\dG (dN zs cs s) b Ã a out/\out.length<=10000000:=by
 obtain⟨S,eS,hS,lS⟩:=jAq hs (nm:=s.1) hk.ly aa hk.ed aa (ss:=ss) ha aa hb aa;have l0:=jJp (es:=s.2.2) aa (f:=a) (t:=b) (zs:=zs) (ps:=ps) (cs:=cs) (ss:=ss) (tbs:=zs.map tb) (nm:=s.1) (ls:=s.2.1) s.2.2.length 0 [] aa ae;rw[jr,jj]at l0;have xM:=Lt s.2.2;obtain⟨C,eC,c1,c2,c3⟩:=jHV (l:=mj s.2.2) aa (f:=a) (t:=b)
 have hKp:(C++[b]).Pairwise (· < ·):=qy.2 ⟨c1,qb _ _,λx hx y hy=>by
  simp at hy;subst hy;exact((c3 x).1 hx).2.2⟩
 obtain⟨M,e2,hM,lM⟩:=jJq (es:=s.2.2) aa hKp aj (a0:=a) (b:=b) ae (λx hx x1 x2=>jo _ ((c3 x).2 ⟨hx,x1,x2⟩)) (g:=λt=>fD s.2.2 t (dH zs cs s.2.1 t) s.2.1.length) (S:=S) aa (nm:=s.1) (ls:=s.2.1) aa aa (x:=a) S.length 0 a [] aa aa (by rw[jj];exact hS.ch) rfl ae;obtain⟨out,e3,h3,l3⟩:=UG (l:=M) aa hM;refine⟨out,?_,h3,aa⟩;simp(disch:=omega)only[j2M,show JG a b s.2.2 (s.2.2.length:G) 0 zs ps cs ss (zs.map tb) s.1 s.2.1 s.2.2 []=_ from l0,eC,show j5Z ((zs,(ps,(cs,ss))),zs.map tb) (s.1,(s.2.1,s.2.2)) a b=_ from eS,show JH (S.length:G) 0 s.1 s.2.1 s.2.2 (C++[b]) [] S=_ from e2,S0];simp only[j4,e3]
end
theorem jDu{zs:H bB}{cs:H aY}{s:bW}{x y:G}(iw:x<=y)(hp:∀L∈s.2.1,cE zs cs L x=cE zs cs L y)(he:pE (mj s.2.2) x y):dN zs cs s x=dN zs cs s y:=by
 have hed:∀e∈s.2.2,(e.2.2.2.1<=x↔e.2.2.2.1<=y)/\(e.2.2.2.2<=x↔e.2.2.2.2<=y):=λe hm=>by
  have a:=he e.2.2.2.1 (kz.2 ⟨e,hm,ae⟩);have b:=he e.2.2.2.2 (kz.2 ⟨e,hm,ae⟩);exact⟨aa,aa⟩
 unfold dN;rw[ſ (u:=y) (pg:=dH zs cs s.2.1 y) (λi hi=>?_) (λp=>jDd s.2.2 hed)]
 .exact VA s.2.2 _ (λe hm=>by have:=hed e hm;exact⟨this.1.symm,this.2.symm⟩)
 .unfold dH;have br:s.2.1.getD i (À,((0:G),(((0:G),(0:G)),((0:G),((0:G),(([]:H G),(([]:H (G×G)),((0:G),(0:G)))))))))=s.2.1[i]:=by simp[N,hi]
  rw[br];exact hp _ (jd hi)
section
variable{zs:H bB}{ps:H cZ}{cs:H aY}(hs:kS zs ps cs)
include hs
theorem jF2{ss:H bW}(hc:CG (zs,(ps,(cs,ss)))){i:I}(hi:i<ss.length){t:G}(h0:0<=t)(h1:t<=8589934592):jpX (zs,(ps,(cs,ss))) (i:G) t=J (dN zs cs ss[i] t):=by
 have gN:=hc.sc _ (jd hi);have gw:=gN.ll;have fI:=gN.el;have wx:ss.getD i (À,(([]:H bt),([]:H ct)))=ss[i]:=by simp[N,hi]
 have lp:=jDe hs (ss:=ss) (nm:=ss[i].1) (es:=ss[i].2.2) aa aa gN.ly h0 h1 ss[i].2.1.length (jh _)
 have et:∃k,jt0 (zs,(ps,(cs,ss))) (i:G) t=J (k,fD ss[i].2.2 t (dH zs cs ss[i].2.1 t) ss[i].2.1.length):=by
  simp(disch:=omega)only[jt0,show JZ t ((ss[i].2.1.length:G)-1) zs ps cs ss ss[i].1 ss[i].2.1 ss[i].2.2=_ from lp,fD,S0];cases dX (gM ss[i].2.2 t (dH zs cs ss[i].2.1 t)) ss[i].2.1.length with
  |none=>exact⟨_,rfl⟩
  |some k=>exact⟨_,rfl⟩
 obtain⟨k,et⟩:=et;have ef:=jG9 (es:=ss[i].2.2) aa (t:=t) ss[i].2.2.length 0 (fD ss[i].2.2 t (dH zs cs ss[i].2.1 t) ss[i].2.1.length) aa;rw[jj]at ef;simp(disch:=omega)only[jpX,et,jt1,show J0 ss[i].2.2 (fD ss[i].2.2 t (dH zs cs ss[i].2.1 t) ss[i].2.1.length) t 0=_ from ef,S0];rfl
theorem jDv{ss:H bW}(hc:CG (zs,(ps,(cs,ss)))){i:I}(hi:i<ss.length){a b:G}(ha:0<=a)(bH:a<=b)(hb:b<=8589934592)(hlen:b-a<=34560000) :
  ∃B,jp1 (zs,(ps,(cs,ss))) (i:G) a b=J B/\B.Pairwise (· < ·)/\B.length<=40000000/\(∀x∈B,a<=x/\x<=b)/\(∃r,B=a::r)/\(B.getD (B.length-1) 0=b)/\
   ∀x y,x∈B->x<=y->y<b->(∀c∈B,¬(x<c/\c<=y))->dN zs cs ss[i] x=dN zs cs ss[i] y:=by
 have gN:=hc.sc _ (jd hi);have gw:=gN.ll;have fI:=gN.el;have wx:ss.getD i (À,(([]:H bt),([]:H ct)))=ss[i]:=by simp[N,hi]
 obtain⟨C,e1,e2,_,e4⟩:=jG6 hs (ss:=ss) (nm:=ss[i].1) (es:=ss[i].2.2) aa gN.ly ha bH hb hlen ss[i].2.1.length 0 [] aa aj;have e5:=jG7 (nm:=ss[i].1) (ls:=ss[i].2.1) (es:=ss[i].2.2) aa (a:=a) (b:=b) ss[i].2.2.length 0 C aa (by simp at e2;omega);rw[show ((0:I):G)=0 from rfl,jj]at e5;rw[show ((0:I):G)=0 from rfl]at e1;rw[jj]at e4;have Hh:=Lt ss[i].2.2;simp only[js,ku]at e2;have eu:(C++mj ss[i].2.2).length<=39000000:=by rw[O];omega
 obtain⟨b1,b2,b3,b4,b5,b6,b7⟩:=jHq (C++mj ss[i].2.2) bH;refine⟨kJ (C++mj ss[i].2.2) a b,?_,b1,aa,b3,b5,?_,λx y hx iw nL hn=>?_⟩
 .simp(disch:=omega)only[jp1,e1,e5,jAh (show (C++mj ss[i].2.2).length<=49000000 by omega) a b,S0]
 .by_cases h:a<b
  .obtain⟨r,hr⟩:=b6 h;rw[hr];simp[N]
  .rw[b7 aa];show a=b;omega
 .have pG:=b3 x hx;have db:pE (C++mj ss[i].2.2) x y:=λc hc lh=>hn c (b4 c hc aa aa) lh;exact jDu iw (λL hm=>e4 L hm x y pG.1 iw nL db.left) db.right
omit hs in
theorem jDw{f:G->G}{ss:H bW}{i:I}{B:H G}(hBl:B.length<=50000000)(hB:B.Pairwise (· < ·))(qO:∀t∈B,jpX (zs,(ps,(cs,ss))) (i:G) t=J (f t)){a b:G}(cY:B.getD (B.length-1) 0=b)
  (dq:∀x y,x∈B->x<=y->y<b->(∀c∈B,¬(x<c/\c<=y))->f x=f y):∀(n j:I)(acc:bM),j+1+n=B.length->acc.length<=j->dG f (B.getD j 0) Ã a acc->
  ∃out,Qn (i:G) (j:G) zs ps cs ss B acc=J out/\dG f b Ã a out
 |0,j,acc,hj,ha,hC=>by
  rw[q_];simp(disch:=omega)only[j6p,S0];refine⟨acc,rfl,?_⟩;rw[<-cY,show B.length-1=j by omega];exact hC
 |n+1,j,acc,hj,ha,hC=>by
  have h1:j<B.length:=aa;have h2:j+1<B.length:=aa;have g1:B.getD j (0:G)=B[j]:=by simp[N,h1]
  have g2:B.getD (j+1) (0:G)=B[j+1]:=by simp[N,h2]
  have DK:=ky.1 hB;have ao:B[j]<B[j+1]:=DK j (j+1) h1 h2 aa
  have hle:B[j+1]<=b:=by
   have gl:B.getD (B.length-1) (0:G)=B[B.length-1]:=by simp[N,show B.length-1<B.length by omega]
   rw[gl]at cY;by_cases he:j+1=B.length-1
   .have:B[j+1]=B[B.length-1]:=by congr 1
    omega
   .have:=DK (j+1) (B.length-1) h2 aa aa;omega
  have hconst:∀t,B[j]<=t->t<B[j+1]->f t=f B[j]:=λt t1 t2=>(dq B[j] t (jd h1) t1 aa (λc hc lh=>by
   obtain⟨m,hm,rfl⟩:=List.mem_iff_getElem.1 hc;by_cases hmj:m<=j
   .by_cases he:m=j
    .subst he;omega
    .have:=DK m j hm h1 aa;omega
   .by_cases he:m=j+1
    .subst he;omega
    .have:=DK (j+1) m h2 hm aa;omega)).symm
  rw[g1]at hC;have hC2:=ğ hC (s:=(B[j],(B[j+1],f B[j]))) rfl (by show B[j]<=B[j+1];omega) (λt t1 t2=>hconst t t1 t2)
  have Cs:(lL acc (B[j],(B[j+1],f B[j]))).length<=acc.length+1:=by
   unfold lL;split
   .omega
   .split
    .split
     .simp
     .simp
    .simp
  have ih:=jDw hBl hB qO cY dq n (j+1) (lL acc (B[j],(B[j+1],f B[j]))) aa aa (by rw[g2];exact hC2);rw[q_];simp(disch:=omega)only[j6p,qO _ (jd h1),jxN,S0];exact ih
theorem VG{ss:H bW}(hc:CG (zs,(ps,(cs,ss)))){i:I}(hi:i<ss.length){a b:G}(ha:0<=a)(bH:a<=b)(hb:b<=8589934592)(hlen:b-a<=34560000) :
  ∃S,jen (zs,(ps,(cs,ss))) (i:G) a b=J S/\dG (dN zs cs ss[i]) b Ã a S:=by
 obtain⟨B,e1,e2,e3,e4,⟨r,e5⟩,e6,e7⟩:=jDv hs hc hi ha bH hb hlen;have bZ:0<B.length:=by rw[e5];simp
 obtain⟨S,f1,f2⟩:=jDw (f:=dN zs cs ss[i]) (ss:=ss) (i:=i) (B:=B) aa e2 (λt ht=>jF2 hs hc hi (by have:=e4 t ht;omega) (by have:=e4 t ht;omega)) (a:=a) e6 e7 (B.length-1) 0 [] aa ae (by rw[e5];rfl);rw[show ((0:I):G)=0 from rfl]at f1;refine⟨S,?_,f2⟩;simp only[jen,e1,f1,j4]
omit hs in
theorem VH{p:G}{S:bM}(hl:S.length<=16384):∀(n j:I)(acc:SL),j+n=S.length->acc.length<=j->J5 p (j:G) S acc=J (acc++((S.drop j).filter (λx=>x.2.2==p)).map λx=>(x.1,x.2.1))
 |0,j,acc,hj,_=>by
  rw[v_,X aa];simp only[j73,show Y S.length=(S.length:G) from rfl];rw[aC aa,j7,bV];simp
 |n+1,j,acc,hj,ha=>by
  have ao:j<S.length:=aa;have br:S.getD j ((0:G),((0:G),(0:G)))=S[j]:=by simp[N,ao]
  rw[v_,W ao];simp only[j73,show Y S.length=(S.length:G) from rfl];rw[ai (show (j:G)<(S.length:G) by omega),cB,aQ (x:=(j:G)+1)];simp only[j6,j8,br];cases hq:(S[j].2.2==p) with
  |true=>have ih:=VH (p:=p) hl n (j+1) (acc++[(S[j].1,S[j].2.1)]) aa aj;rw[jk]at ih;rw[vq (by simpa using hq),ai (by simp[aK];omega)];simp only[j6,bg];exact ih
  |false=>rw[Z (by simp[hq])];simp only[j7,bg];exact VH hl n (j+1) acc aa aa
def iP(p:G)(S:bM):SL:=(S.filter (λx=>x.2.2==p)).map λx=>(x.1,x.2.1)
end
section
variable{zs:H bB}{ps:H cZ}{cs:H aY}{ss:H bW}
theorem VI(hv:CV (zs,(ps,(cs,ss)))):∃e,j5h (zs,(ps,(cs,ss)))=J e/\j9N (zs,(ps,(cs,ss)))=J e/\(e=0->CG (zs,(ps,(cs,ss))))/\∃v b,jhN (zs,(ps,(cs,ss)))=J (v,b)/\(e≠0->b=false):=by
 obtain⟨e,e1,e2,e3⟩:=hv.w.chk;obtain⟨e',v,b,eO,eC,f1,f2⟩:=jJk hv;have h0:e'=e:=by rw[e2]at eC;simp at eC;exact eC.symm
 subst h0;refine⟨e',e1,e2,λhe=>?_,v,b,eO,f1⟩;subst he;obtain⟨hC,hg⟩:=e3 rfl;obtain⟨rfl,rfl,_,hS⟩:=f2 rfl;exact⟨hg,e1,e2,hS,eO⟩
theorem jJr(hv:CV (zs,(ps,(cs,ss))))(i a b:G):∃v e,jag (zs,(ps,(cs,ss))) i a b=J (v,e)/\jd7 (zs,(ps,(cs,ss))) i a b=J e/\
  (e=0->v=((zs,(ps,(cs,ss))),zs.map tb)/\CG (zs,(ps,(cs,ss)))/\(0<=i/\i<(ss.length:G))/\0<=a/\a<=b/\b<=8589934592/\b-a<=34560000):=by
 obtain⟨e,e1,e2,e3,v,ok,eO,f1⟩:=VI hv;by_cases he:e=0
 case neg=>
  have hb:=f1 he;subst hb;refine⟨v,8,?_,?_,λh=>by simp at h⟩
  .simp only[jag,eO,j4];rfl
  .simp only[jd7,e2,j4];rw[show (e != 0)=true by simpa using he];rfl
 subst he;have hc:=e3 rfl;have Fx:=hc.of;obtain⟨w,w1,w2⟩:=jJl a b;have Hq:jej a b=J w:=w1;by_cases hi:0<=i/\i<(ss.length:G)
 case neg=>
  refine⟨((zs,(ps,(cs,ss))),zs.map tb),3,?_,?_,λh=>by simp at h⟩
  .simp only[jag,Fx,j4,jg,j7,jaf,show Y ss.length=(ss.length:G) from rfl];by_cases h0:0<=i
   .rw[ai (show i>=0 from h0),aC (show¬i<(ss.length:G) by omega)];rfl
   .rw[aC (show¬i>=0 from h0)];rfl
  .simp only[jd7,e2,j4,je,j7,show Y ss.length=(ss.length:G) from rfl];by_cases h0:i<0
   .rw[ai h0];rfl
   .rw[aC h0,ai (show i>=(ss.length:G) by omega)];rfl
 refine⟨((zs,(ps,(cs,ss))),zs.map tb),cond w 0 1,?_,?_,λh=>?_⟩
 .simp only[jag,Fx,j4,jg,j7,jaf,show Y ss.length=(ss.length:G) from rfl,Hq];rw[ai (show i>=0 from hi.1),ai hi.2];cases w<;>rfl
 .simp only[jd7,e2,j4,je,j7,show Y ss.length=(ss.length:G) from rfl,w1];rw[aC (show¬i<0 by omega),aC (show¬i>=(ss.length:G) by omega)];cases w<;>rfl
 .cases w with
  |false=>simp at h
  |true=>obtain⟨ha,bH,hb,hlen⟩:=w2 rfl;exact⟨rfl,hc,hi,ha,bH,hb,hlen⟩
theorem jHX(hv:CV (zs,(ps,(cs,ss))))(i a b:G):∃l e,j8F (zs,(ps,(cs,ss))) i a b=J (l,e)/\j7d (zs,(ps,(cs,ss))) i a b=J (l,e)/\l.length<=16384/\
  (e≠0\/∃f:G->G,dG f b Ã a l/\0<=a/\a<=b/\b<=8589934592):=by
 obtain⟨v,e,c1,c2,c3⟩:=jJr hv i a b;by_cases he:e=0
 case neg=>
  refine⟨[],e,?_,?_,ae,.inl he⟩
  .simp only[j8F,c1,j4];rw[show (e != 0)=true by simpa using he];rfl
  .simp only[j7d,c2,j4];rw[show (e != 0)=true by simpa using he];rfl
 obtain⟨rfl,hc,hi,ha,bH,hb,hlen⟩:=c3 he;subst he;have ao:i.toNat<ss.length:=aa;have hs:=hc.sc _ (jd ao);have yQ:=hv.s _ (jd ao);have fI:=yQ.el;have br:ss.getD i.toNat (À,(([]:H bt),([]:H ct)))=ss[i.toNat]:=by simp[N,ao]
 obtain⟨o,eo,o1,o2⟩:=Lv hc.g hs yQ.ll aa (ss:=ss) ha bH hb hlen;obtain⟨o',Lw,p1⟩:=VG hc.g hc ao ha bH hb hlen;rw[show ((i.toNat:I):G)=i by omega]at Lw;have he:o'=o:=dG.uniq p1 o1;subst he;have eo2:j2M ((zs,(ps,(cs,ss))),zs.map tb) (ss[i.toNat].1,(ss[i.toNat].2.1,ss[i.toNat].2.2)) a b=_:=eo;simp only[j8F,j7d,c1,c2,j4,je,j7,Lw,show Y o'.length=(o'.length:G) from rfl];rw[bL hi.1 hi.2,br];simp only[j6];rw[eo2];simp only[j4,show Y o'.length=(o'.length:G) from rfl];by_cases h4:(o'.length:G)>16384
 .rw[ai h4];exact⟨[],5,rfl,rfl,ae,.inl aa⟩
 .rw[aC h4];exact⟨o',0,rfl,rfl,aa,.inr ⟨_,p1,ha,bH,hb⟩⟩
end
theorem jGc{f:G->G}{b v:G}:∀{S:bM}{q:Ç G}{a:G},dG f b q a S->bU (if q=J v then a else a-1) (iP v S)
 |[],q,a,_=>trivial
 |s::r,q,a,h=>by
  obtain⟨h1,h2,h3,_,h5⟩:=h;have ih:=jGc (v:=v) h5;by_cases hv:s.2.2=v
  .have e:iP v (s::r)=(s.1,s.2.1)::iP v r:=by unfold iP;rw[vq (by simp[hv]),qc]
   rw[e,if_neg (λhq=>h3 (by rw[hq,hv]))];rw[if_pos (by rw[hv])]at ih;exact⟨by dsimp only;omega,by dsimp only;omega,ih⟩
  .have e:iP v (s::r)=iP v r:=by unfold iP;rw[Z (by simp[hv])]
   rw[e];rw[if_neg (by simp[hv])]at ih
   have hw:∀{l:SL}{p q:G},q<=p->bU p l->bU q l:=λ{l p q} hpq hl=>by
    match l,hl with
    |[],_=>trivial
    |u::l,hl=>exact⟨by have:=hl.1;omega,hl.2⟩
   refine hw ?_ ih;split<;>omega
section
variable{zs:H bB}{ps:H cZ}{cs:H aY}{ss:H bW}
end
theorem VJ{p:G}{S:bM}(hl:S.length<=16384):∀(n j:I)(acc:SL),j+n=S.length->acc.length<=j->PB p S (S.length:G) (j:G) acc=J (acc++iP p (S.drop j))
 |0,j,acc,hj,_=>by
  rw[_u];simp(disch:=omega)only[j3Y,X,S0];simp[iP]
 |n+1,j,acc,hj,ha=>by
  have ao:j<S.length:=aa;have br:S.getD j ((0:G),((0:G),(0:G)))=S[j]:=by simp[N,ao]
  rw[_u,W ao];simp only[j3Y];rw[ai aa,cB,aQ (x:=(j:G)+1)];simp only[j6,j8,br];by_cases hv:S[j].2.2=p
  .have e:iP p (S[j]::S.drop (j+1))=(S[j].1,S[j].2.1)::iP p (S.drop (j+1)):=by unfold iP;rw[vq (by simp[hv]),qc]
   simp(disch:=omega)only[e,S0];have ih:=VJ (p:=p) hl n (j+1) (acc++[(S[j].1,S[j].2.1)]) aa aj;rw[jk]at ih;exact ih
  .have e:iP p (S[j]::S.drop (j+1))=iP p (S.drop (j+1)):=by unfold iP;rw[Z (by simp[hv])]
   rw[cU hv,j7,bg,e];exact VJ hl n (j+1) acc aa aa
theorem jHY(p:G)(S:bM):(iP p S).length<=S.length:=by
 unfold iP;rw[ki];exact zu _ _
theorem jK5{f:G->G}{a b:G}{S:bM}(h:dG f b Ã a S)(hl:S.length<=16384)(ha:0<=a)(hb:b<=8589934592)(p:G):jcs S p=J (iP p S):=by
 have l0:=VJ (p:=p) hl S.length 0 [] aa ae;rw[show ((0:I):G)=0 from rfl,jr,jj]at l0
 have hm:∀s∈iP p S,a<=s.1/\s.1<s.2/\s.2<=b:=λs hs=>by
  obtain⟨x,hx,rfl⟩:=k7.1 hs;have hx:=(List.mem_filter.1 hx).1;have h1:=h.ch.mem x hx;have h2:=h.pos x hx;exact⟨h1.1,h2,h1.2.2.1⟩
 have hlen:=jHY p S;obtain⟨out,e,h1,h2,_⟩:=GY (l:=iP p S) aa (λs hs=>by have:=hm s hs;omega) (lo:=a) (hi:=b) (λs hs _=>by have:=hm s hs;omega);have aW:=jGc (v:=p) h;rw[if_neg ae]at aW;have:out=iP p S:=Ļ h1 aW h2;simp(disch:=omega)only[jcs,l0,e,this,S0]
section
variable{zs:H bB}{ps:H cZ}{cs:H aY}{ss:H bW}
theorem jF3(hv:CV (zs,(ps,(cs,ss))))(i p a b:G):∃l e,jcU (zs,(ps,(cs,ss))) i p a b=J (l,e)/\jjp (zs,(ps,(cs,ss))) i p a b=J (l,e)/\l.length<=4096:=by
 obtain⟨S,e,e1,e2,e3,e4⟩:=jHX hv i a b;simp only[jcU,jjp,e1,e2,j4];by_cases he:e=0
 case neg=>rw[show (e != 0)=true by simpa using he];exact⟨[],e,rfl,rfl,ae⟩
 subst he;obtain⟨f,hC,ha,bH,hb⟩:=e4.resolve_left aa;have l2:=VH (p:=p) (S:=S) e3 S.length 0 [] aa ae;rw[show ((0:I):G)=0 from rfl,jr,jj]at l2;have l2:J5 p 0 S []=J (iP p S):=l2;simp only[je,j7,jK5 hC e3 ha hb p,l2,j4,show Y (iP p S).length=((iP p S).length:G) from rfl];by_cases h4:((iP p S).length:G)>4096
 .rw[ai h4];exact⟨[],5,rfl,rfl,ae⟩
 .rw[aC h4];exact⟨iP p S,0,rfl,rfl,aa⟩
end
section
variable{α:Type}(key:α->G)
def c9(x:α):H α->H α
 |[]=>[x]
 |y::ys=>if key x<key y then x::y::ys else y::c9 x ys
def cN(l:H α):H α:=l.foldl (λacc x=>c9 key x acc) []
def gF:H α->H α->H α
 |[],bs=>bs
 |a::gI,bs=>go a (gF gI) gI bs
where go (a:α) (f:H α->H α) (gI:H α):H α->H α
 |[]=>a::gI
 |b::bs=>if key b<key a then b::go a f gI bs else a::f (b::bs)
theorem rD:∀gI:H α,gF key gI []=gI
 |[]=>rfl
 |_::_=>rfl
theorem pH(a b:α)(gI bs:H α):gF key (a::gI) (b::bs)=if key b<key a then b::gF key (a::gI) bs else a::gF key gI (b::bs):=rfl
variable{key}
theorem Lx(x:α):∀(A B:H α),c9 key x (gF key A B)=gF key A (c9 key x B)
 |[],_=>rfl
 |[a],[]=>by
  simp only[rD,c9,pH];split<;>rfl
 |a::a'::gI,[]=>by
  have ih:=Lx x (a'::gI) [];rw[rD]at ih ⊢;rw[show c9 key x ([]:H α)=[x] from rfl]at ih ⊢;rw[pH];rw[c9];split
  .rw[rD]
  .rw[ih]
 |a::gI,b::bs=>by
  have i1:=Lx x (a::gI) bs;have i2:=Lx x gI (b::bs);rw[pH];by_cases h1:key b<key a
  .rw[if_pos h1];simp only[c9];by_cases h2:key x<key b
   .rw[if_pos h2,if_pos h2,pH,if_pos (show key x<key a by omega),pH,if_pos h1]
   .rw[if_neg h2,if_neg h2,pH,if_pos h1,i1]
  .rw[if_neg h1];rw[show c9 key x (a::gF key gI (b::bs))=if key x<key a then x::a::gF key gI (b::bs) else a::c9 key x (gF key gI (b::bs)) from rfl,i2];rw[show c9 key x (b::bs)=if key x<key b then x::b::bs else b::c9 key x bs from rfl];by_cases h2:key x<key b
   .rw[if_pos h2];by_cases h3:key x<key a
    .rw[if_pos h3,pH,if_pos h3,pH,if_neg h1]
    .rw[if_neg h3,pH,if_neg h3]
   .rw[if_neg h2];rw[if_neg (show¬key x<key a by omega),pH,if_neg h1]
termination_by A B=>A.length+B.length
theorem jqL:∀(ys A B:H α),ys.foldl (λacc x=>c9 key x acc) (gF key A B)=gF key A (ys.foldl (λacc x=>c9 key x acc) B)
 |[],_,_=>rfl
 |y::ys,A,B=>by
  simp only[zr];rw[Lx,jqL ys A]
theorem jDx(xs ys:H α):cN key (xs++ys)=gF key (cN key xs) (cN key ys):=by
 have h:=jqL (key:=key) ys (cN key xs) [];rw[rD]at h;simp only[cN,List.foldl_append]at h ⊢;exact h
theorem w9:∀(A1 B1 A2 B2:H α),(∀x∈A2,∀y∈B1,key y<key x)->(∀x∈A1,∀y∈B2,¬key y<key x)->
  gF key (A1++A2) (B1++B2)=gF key A1 B1++gF key A2 B2
 |[],[],_,_,_,_=>rfl
 |[],b::bs,[],B2,_,_=>rfl
 |[],b::bs,a::gI,B2,h1,h2=>by
  have ih:=w9 [] bs (a::gI) B2 (λx hx y hy=>h1 x hx y (by simp[hy])) h2;rw[jr]at ih;rw[jr,qo,pH,if_pos (h1 a ae b ae),ih];rfl
 |a::gI,[],A2,[],_,_=>by simp only[qu,rD]
 |a::gI,[],A2,b::bs,h1,h2=>by
  have ih:=w9 gI [] A2 (b::bs) h1 (λx hx y hy=>h2 x (by simp[hx]) y hy);rw[jr,rD]at ih;rw[jr,qo,pH,if_neg (h2 a ae b ae),ih,rD];rfl
 |a::gI,b::bs,A2,B2,h1,h2=>by
  have i1:=w9 (a::gI) bs A2 B2 (λx hx y hy=>h1 x hx y (by simp[hy])) h2;have i2:=w9 gI (b::bs) A2 B2 h1 (λx hx y hy=>h2 x (by simp[hx]) y hy);rw[qo,qo,pH,pH];split
  .rw[<-qo,i1];rfl
  .rw[<-qo,i2];rfl
termination_by A1 B1=>A1.length+B1.length
theorem jHZ(x:α)(B1 B2:H α)(h1:∀y∈B1,key y<key x)(h2:∀y∈B2,¬key y<key x):gF key [x] (B1++B2)=B1++x::B2:=by
 have e1:=w9 (key:=key) [] B1 [x] B2 (by simpa using h1) ae;have e2:=w9 (key:=key) [x] [] [] B2 ae (by simpa using h2);rw[jr]at e1;rw[qu,jr,rD]at e2;rw[e1,e2];rfl
theorem jF4(y:α)(A1 A2:H α)(h1:∀x∈A1,¬key y<key x)(h2:∀x∈A2,key y<key x):gF key (A1++A2) [y]=A1++y::A2:=by
 have e1:=w9 (key:=key) A1 [] A2 [y] ae (by simpa using h1);have e2:=w9 (key:=key) [] [y] A2 [] (by simpa using h2) ae;rw[jr,rD]at e1;rw[jr,qu,rD]at e2;rw[e1,e2];rfl
theorem Hr(x:α):∀l:H α,(c9 key x l).Perm (x::l)
 |[]=>List.Perm.refl _
 |y::ys=>by
  unfold c9;split
  .exact List.Perm.refl _
  .exact((Hr x ys).cons y).trans (List.Perm.swap x y ys)
theorem jn1:∀(l acc:H α),(l.foldl (λacc x=>c9 key x acc) acc).Perm (acc++l)
 |[],acc=>ae
 |x::xs,acc=>by
  simp only[zr];refine(jn1 xs (c9 key x acc)).trans ?_;refine((Hr x acc).append_right xs).trans ?_;rw[qo];exact List.perm_middle.symm
theorem uu(l:H α):(cN key l).Perm l:=by
 have:=jn1 (key:=key) l [];rwa[jr]at this
theorem uZ(l:H α):(cN key l).length=l.length:=(uu l).length_eq
theorem VK{R:α->α->Prop}(x:α):∀l:H α,l.Pairwise (λy z=>key y<key z\/key y=key z/\R y z)->(∀y∈l,R y x)->(c9 key x l).Pairwise (λy z=>key y<key z\/key y=key z/\R y z)
 |[],_,_=>qb _ _
 |y::ys,h,hr=>by
  have hc:=List.pairwise_cons.1 h;unfold c9;split
  .rename_i ao;refine List.pairwise_cons.2 ⟨λz hz=>?_,h⟩;rcases jb.1 hz with rfl|hz
   .exact Or.inl ao
   .rcases hc.1 z hz with h1|h1
    .exact Or.inl aa
    .exact Or.inl aa
  .rename_i oI;refine List.pairwise_cons.2 ⟨λz hz=>?_,VK x ys hc.2 (λw hw=>hr w (by simp[hw]))⟩;rcases jb.1 ((Hr x ys).mem_iff.1 hz) with rfl|hz
   .by_cases he:key y=key z
    .exact Or.inr ⟨he,hr y ae⟩
    .exact Or.inl aa
   .exact hc.1 z hz
theorem jqM{R:α->α->Prop}:∀(l acc:H α),acc.Pairwise (λy z=>key y<key z\/key y=key z/\R y z)->(∀y∈acc,∀z∈l,R y z)->l.Pairwise R->
  (l.foldl (λacc x=>c9 key x acc) acc).Pairwise (λy z=>key y<key z\/key y=key z/\R y z)
 |[],_,h,_,_=>h
 |x::xs,acc,h,hr,hl=>by
  simp only[zr];have hc:=List.pairwise_cons.1 hl;refine jqM xs _ (VK x acc h (λy hy=>hr y hy x ae)) (λy hy z hz=>?_) hc.2;rcases jb.1 ((Hr x acc).mem_iff.1 hy) with rfl|hy
  .exact hc.1 z hz
  .exact hr y hy z (by simp[hz])
theorem jDy{R:α->α->Prop}{l:H α}(h:l.Pairwise R):(cN key l).Pairwise (λy z=>key y<key z\/key y=key z/\R y z):=
 jqM l [] List.Pairwise.nil ae h
theorem jI0(l:H α):(cN key l).Pairwise (λy z=>key y<=key z):=
 (jDy (R:=λ_ _=>True) (l:=l) (List.pairwise_of_forall (λ_ _=>trivial))).imp (λh=>aa)
variable(key)
inductive mm(n:I):H α->H α->Prop
 |last (l:H α):l.length<n->mm n l (cN key l)
 |more (x l d:H α):x.length=n->mm n l d->mm n (x++l) (cN key x++d)
variable{key}
theorem mm.len{n:I}{l d:H α}(h:mm key n l d):d.length=l.length:=by
 induction h with
 |last l _=>exact uZ l
 |more x l d hx _ ih=>simp[uZ,ih]
theorem mm.all{n:I}{l d:H α}(h:mm key n l d)(hl:l.length<=n):d=cN key l:=by
 cases h with
 |last _ _=>rfl
 |more x l d hx hb=>have hd:=hb.len;simp only[O]at hl;have h0:l=[]:=List.length_eq_zero_iff.1 aa;subst h0;have h1:d=[]:=List.length_eq_zero_iff.1 (by simpa using hd);subst h1;simp
end
abbrev ie:=G×(G×(G×(G×G)))
abbrev bK:=H ie
def aB(x:ie):Int:=x.2.2.2.1
def jC(l:bK):Prop:=∀x∈l, -1000000000000<=aB x/\aB x<=1000000000000
def eY(l:bK):Prop:=l.Pairwise λx y=>aB x<=aB y
theorem jC.app{l r:bK}(h:jC l)(h':jC r):jC (l++r):=λx hx=>(ji.1 hx).elim (h x) (h' x)
theorem jC.perm{l r:bK}(h:jC l)(hp:r.Perm l):jC r:=λx hx=>h x (hp.mem_iff.1 hx)
theorem jC.of{l r:bK}(h:jC l)(hp:∀x∈r,x∈l):jC r:=λx hx=>h x (hp x hx)
theorem Ly{x y:ie}(hx : -1000000000000<=aB x/\aB x<=1000000000000)(hy : -1000000000000<=aB y/\aB y<=1000000000000) :
  j2Z (x.1,(x.2.1,(x.2.2.1,(x.2.2.2.1,x.2.2.2.2)))) (y.1,(y.2.1,(y.2.2.1,(y.2.2.2.1,y.2.2.2.2))))=J (aB x-aB y):=by
 grind[j2Z,aB,gh]
theorem Hs{β:Type}(F:I->I->Ç β)(fin:I->β)(p:I->Prop)[DecidablePred p](lo hi:I)
  (fi:∀i j,lo<=i->i<j->j<=hi->F i j=if p ((i+j)/2) then F ((i+j)/2+1) j else F i ((i+j)/2))
  (fW:∀i,lo<=i->i<=hi->F i i=J (fin i))(mono:∀s t,lo<=s->s<=t->t<hi->p t->p s) :
  ∀(n i j:I),j-i<=n->lo<=i->i<=j->j<=hi->(∀t,lo<=t->t<i->p t)->(∀t,j<=t->t<hi->¬p t)->
   ∃k,i<=k/\k<=j/\F i j=J (fin k)/\(∀t,lo<=t->t<k->p t)/\∀t,k<=t->t<hi->¬p t
 |0,i,j,hn,h1,h2,h3,h4,h5=>by
  obtain rfl:i=j:=aa;grind
 |n+1,i,j,hn,h1,h2,h3,h4,h5=>by
  by_cases dT:i=j
  .grind
  .rw[fi i j h1 aa h3];by_cases hp:p ((i+j)/2)
   .rw[if_pos hp];obtain⟨k,k1,k2,k3⟩:=Hs F fin p lo hi fi fW mono n ((i+j)/2+1) j aa aa aa h3 (λt t1 t2=>mono t _ t1 aa aa hp) h5;grind
   .rw[if_neg hp];obtain⟨k,k1,k2,k3⟩:=Hs F fin p lo hi fi fW mono n i ((i+j)/2) aa h1 aa aa h4 (λt t1 t2 hq=>hp (mono _ t aa t1 t2 hq));grind
theorem Lz{a b:I}(h:a+b<=4000000000):w64 (Int.fdiv (IntKind.wrap .u64 (w64 ((a:G)+(b:G)))) 2)=(((a+b)/2:I):G):=by
 grind[gh,IntWalk.u64_in]
def dC:ie:=(0,(0,(0,(0,0))))
theorem yR(P R:bK)(x:ie):(P++x::R).getD P.length dC=x:=by
 simp_all
theorem yS(P R:bK)(x y:ie):(P++x::R).set P.length y=P++y::R:=by
 simp_all
theorem DM{l:bK}{i:I}(h:i<l.length):l.getD i dC∈l:=by
 simp_all
theorem jz4(P A R:bK)(i:I)(h:i<A.length):(P++(A++R)).getD (P.length+i) dC=A.getD i dC:=by
 grind
theorem yT{A:bK}(h:eY A){i j:I}(dT:i<=j)(hj:j<A.length):aB (A.getD i dC)<=aB (A.getD j dC):=by
 simp(disch:=omega)only[S0];by_cases he:i=j
 .simp_all
 .exact ky.1 h i j aa hj aa
theorem LA{A:bK}{k:I}{x:ie}(h:x∈A.take k):∃i,i<k/\i<A.length/\x=A.getD i dC:=by
 obtain⟨i,hi,rfl⟩:=qt h;simp only[List.length_take]at hi;exact⟨i,aa,aa,by grind⟩
theorem LB{A:bK}{k:I}{x:ie}(h:x∈A.drop k):∃i,k<=i/\i<A.length/\x=A.getD i dC:=by
 obtain⟨i,hi,rfl⟩:=qt h;simp only[qw]at hi;exact⟨k+i,aa,aa,by grind⟩
theorem jz5{n a b:G}:∀(U V P M Q:bK)(k:I),U.length=V.length->(k:G)+U.length=n->a+k=P.length->b+k=((P.length+U.length+M.length:I):G)->P.length+U.length+M.length+V.length+Q.length<=1000000000->0<=a->0<=b->k<=1000000000->
  PO a b n (k:G) (P++(U++(M++(V++Q))))=J (P++(V++(M++(U++Q))))
 |[],[],P,M,Q,k,_,hn,ha,hb,hl,_,_,_=>by
  rw[_F];simp only[j0F];simp only[js]at hn;rw[aC aa,j7,bV]
 |[],_::_,_,_,_,_,h,_,_,_,_,_,_,_=>by simp at h
 |_::_,[],_,_,_,_,h,_,_,_,_,_,_,_=>by simp at h
 |x::U,y::V,P,M,Q,k,hUV,hn,ha,hb,hl,yk,ig,hk=>by
  simp only[jf]at hUV hn hb hl;have VL:U.length=V.length:=aa;have e1:P++(x::U++(M++(y::V++Q)))=(P++x::(U++M))++y::(V++Q):=ae;have e2:P++(x::U++(M++(y::V++Q)))=P++x::(U++(M++(y::V++Q))):=ae;have hL:(P++(x::U++(M++(y::V++Q)))).length=P.length+U.length+1+M.length+V.length+1+Q.length:=aj;have g1:(P++(x::U++(M++(y::V++Q)))).getD (b+k).toNat dC=y:=by rw[e1,show (b+k).toNat=(P++x::(U++M)).length by simp;omega,yR]
  have g2:(P++(x::U++(M++(y::V++Q)))).getD (a+k).toNat dC=x:=by rw[e2,show (a+k).toNat=P.length by omega,yR]
  have s1:(P++(x::U++(M++(y::V++Q)))).set (a+k).toNat y=(P++y::(U++M))++y::(V++Q):=by rw[e2,show (a+k).toNat=P.length by omega,yS];simp
  have s2:((P++y::(U++M))++y::(V++Q)).set (b+k).toNat x=(P++[y])++(U++((M++[x])++(V++Q))):=by rw[show (b+k).toNat=(P++y::(U++M)).length by simp;omega,yS];simp
  have ih:=jz5 (n:=n) (a:=a) (b:=b) U V (P++[y]) (M++[x]) Q (k+1) VL aa aj aj aj yk ig aa;unfold dC at g1 g2;rw[_F];simp only[j0F];rw[ai (show (k:G)<n by omega),aQ (x:=a+(k:G)),aQ (x:=b+(k:G)),bL aa (by rw[hL];omega),bL (show (0:G)<=a+(k:G) by omega) (by rw[hL];omega)];simp only[j6,g1,g2];rw[show (P++(x::U++(M++(y::V++Q)))).set (a+(k:G)).toNat (y.1,(y.2.1,(y.2.2.1,(y.2.2.2.1,y.2.2.2.2))))=_ from s1];rw[bL (show (0:G)<=b+(k:G) by omega) aj,j6];simp(disch:=omega)only[show ((P++y::(U++M))++y::(V++Q)).set (b+(k:G)).toNat (x.1,(x.2.1,(x.2.2.1,(x.2.2.2.1,x.2.2.2.2))))=_ from s2,S0];rw[show ((k+1:I):G)=(k:G)+1 by omega]at ih;rw[ih];simp
theorem VM(P U M V Q:bK)(h:U.length=V.length)(hl:P.length+U.length+M.length+V.length+Q.length<=1000000000){a b n:G}(ha:a=P.length)(hb:b=((P.length+U.length+M.length:I):G))(hn:n=U.length) :
  j0x (P++(U++(M++(V++Q)))) a b n=J (P++(V++(M++(U++Q)))):=by
 have:=jz5 (n:=n) (a:=a) (b:=b) U V P M Q 0 h aa aa aa hl aa aa aa;grind[j0x]
theorem VN{m:G}:∀(n:I)(P U V Q:bK),U.length+V.length<=n->U≠[]->V≠[]->m=((P.length+U.length:I):G)->P.length+U.length+V.length+Q.length<=1000000000->
  ∃(i:G)(d:bK),PQ m (U.length:G) (V.length:G) (P++(U++(V++Q)))=J (m,i,d)/\j0x d (w64 (m-i)) m i=J (P++(V++(U++Q)))
 |0,P,U,V,Q,hn,hU,_,_,_=>by
  simp_all
 |n+1,P,U,V,Q,hn,hU,hV,hm,hl=>by
  have hu:=kg.2 hU;have hv:=kg.2 hV;rw[j9L];simp only[j1t];by_cases bD:U.length=V.length
  .rw[show (((U.length:I):G) != (V.length:G))=false by simp_all,j7,bV];refine⟨_,_,rfl,?_⟩;have:=VM P U [] V Q bD aj (a:=w64 (m-(U.length:G))) (b:=m) (n:=(U.length:G)) (by grind[gh]) aj rfl;simpa using this
  .rw[show (((U.length:I):G) != (V.length:G))=true by simp;omega,j6];by_cases Bq:V.length<U.length
   .rw[ai (show (U.length:G)>(V.length:G) by omega),j6];obtain⟨U1,U2,hUe,hU1⟩:∃U1 U2,U=U1++U2/\U1.length=V.length:=⟨U.take V.length,U.drop V.length,(k6 ..).symm,aj⟩;subst hUe;simp only[O]at *;have hs:=VM P U1 U2 V Q hU1 aa (a:=w64 (m-((U1.length+U2.length:I):G))) (b:=m) (n:=(V.length:G)) (by grind[gh]) aa aa;simp only[jk]at hs ⊢;rw[hs];simp(disch:=omega)only[S0];obtain⟨i,d,h1,h2⟩:=VN (m:=m) n (P++V) U2 U1 Q aa (λh=>by simp_all) (λh=>by simp_all) aj aj;grind
   .rw[aC (show¬(U.length:G)>(V.length:G) by omega),j7];obtain⟨V1,V2,hVe,hV2⟩:∃V1 V2,V=V1++V2/\V2.length=U.length:=⟨V.take (V.length-U.length),V.drop (V.length-U.length),(k6 ..).symm,aj⟩;subst hVe;simp only[O]at *;have hs:=VM P U V1 V2 Q hV2.symm aa (a:=w64 (m-(U.length:G))) (b:=w64 (w64 (m+((V1.length+V2.length:I):G))-(U.length:G))) (n:=(U.length:G)) (by grind[gh]) (by simp(disch:=omega)only[S0];omega) rfl;simp only[jk]at hs ⊢;rw[hs];simp(disch:=omega)only[S0];obtain⟨i,d,h1,h2⟩:=VN (m:=m) n P V2 V1 (U++Q) aa (λh=>by simp_all) (λh=>by simp_all) aa aj;grind
theorem jJs(P U V Q:bK)(hU:U≠[])(hV:V≠[])(hl:P.length+U.length+V.length+Q.length<=1000000000){a m b:G}(ha:a=P.length)(hm:m=((P.length+U.length:I):G))(hb:b=((P.length+U.length+V.length:I):G)) :
  j1e (P++(U++(V++Q))) a m b=J (P++(V++(U++Q))):=by
 obtain⟨i,d,h1,h2⟩:=VN (m:=m) _ P U V Q (jh _) hU hV hm hl;grind[j1e,gh]
section
variable(rec:bK->G->G->G->Ç bK)
theorem jGd{e:G}(x:ie):∀(B P Q:bK),e-1=((P.length+B.length:I):G)->P.length+B.length+Q.length<=1000000000->
  JJ rec e (P.length:G) (P++x::(B++Q))=J (P++(B++x::Q))
 |[],P,Q,he,hl=>by
  rw[_H];simp only[j0J];simp only[js]at he;simp(disch:=omega)only[S0];rfl
 |y::B,P,Q,he,hl=>by
  simp only[jf]at he hl;have hL:(P++x::(y::B++Q)).length=P.length+B.length+Q.length+2:=aj;have e1:P++x::(y::B++Q)=(P++[x])++y::(B++Q):=ae;have g1:(P++x::(y::B++Q)).getD ((P.length:G)+1).toNat dC=y:=by rw[e1,show ((P.length:G)+1).toNat=(P++[x]).length by simp,yR]
  have g2:(P++x::(y::B++Q)).getD P.length dC=x:=yR _ _ _;have s1:(P++x::(y::B++Q)).set P.length y=(P++[y])++y::(B++Q):=by rw[yS];simp
  have s2:((P++[y])++y::(B++Q)).set ((P.length:G)+1).toNat x=(P++[y])++x::(B++Q):=by rw[show ((P.length:G)+1).toNat=(P++[y]).length by simp,yS]
  have ih:=jGd (e:=e) x B (P++[y]) Q aj aj;unfold dC at g1 g2;rw[_H];simp(disch:=omega)only[j0J,g1,g2,show (P++x::(y::B++Q)).set P.length (y.1,(y.2.1,(y.2.2.1,(y.2.2.2.1,y.2.2.2.2))))=_ from s1,S0];rw[bL (n:=((P++[y])++y::(B++Q)).length) (show (0:G)<=(P.length:G)+1 by omega) aj,j6];rw[show ((P++[y])++y::(B++Q)).set ((P.length:G)+1).toNat (x.1,(x.2.1,(x.2.2.1,(x.2.2.2.1,x.2.2.2.2))))=_ from s2,bg];rw[show (((P++[y]).length:I):G)=(P.length:G)+1 by simp]at ih;rw[ih];simp
theorem jGe{i:G}(x:ie):∀(B P Q:bK),i=P.length->P.length+B.length+Q.length<=1000000000->
  JK rec i ((P.length+B.length:I):G) (P++(B.reverse++x::Q))=J (P++x::(B.reverse++Q))
 |[],P,Q,hi,hl=>by
  rw[_J];simp(disch:=omega)only[j0L,S0];rfl
 |y::B,P,Q,hi,hl=>by
  simp only[jf]at hl;have hL:(P++((y::B).reverse++x::Q)).length=P.length+B.length+Q.length+2:=aj;have e1:P++((y::B).reverse++x::Q)=(P++B.reverse++[y])++x::Q:=ae;have e2:P++((y::B).reverse++x::Q)=(P++B.reverse)++y::(x::Q):=ae;have n1:(((P.length+(B.length+1):I):G)-1).toNat=(P++B.reverse).length:=aj;have n2:P.length+(B.length+1)=(P++B.reverse++[y]).length:=ae;have g1:(P++((y::B).reverse++x::Q)).getD (((P.length+(B.length+1):I):G)-1).toNat dC=y:=by rw[e2,n1,yR]
  have g2:(P++((y::B).reverse++x::Q)).getD (P.length+(B.length+1)) dC=x:=by rw[e1,n2,yR]
  have s1:(P++((y::B).reverse++x::Q)).set (P.length+(B.length+1)) y=(P++B.reverse)++y::(y::Q):=by grind[yS]
  have s2:((P++B.reverse)++y::(y::Q)).set (((P.length+(B.length+1):I):G)-1).toNat x=P++(B.reverse++x::(y::Q)):=by rw[n1,yS];simp
  have ih:=jGe (i:=i) x B P (y::Q) hi aj;unfold dC at g1 g2;rw[_J];simp(disch:=omega)only[j0L,g1,g2,show (P++((y::B).reverse++x::Q)).set (P.length+(B.length+1)) (y.1,(y.2.1,(y.2.2.1,(y.2.2.2.1,y.2.2.2.2))))=_ from s1,S0];rw[bL (show (0:G)<=((P.length+(B.length+1):I):G)-1 by omega) aj,j6];rw[show ((P++B.reverse)++y::(y::Q)).set (((P.length+(B.length+1):I):G)-1).toNat (x.1,(x.2.1,(x.2.2.1,(x.2.2.2.1,x.2.2.2.2))))=_ from s2,bg];rw[show ((P.length+(B.length+1):I):G)-1=((P.length+B.length:I):G) by omega,ih];simp
variable{D:bK}(hD:jC D)(hL:D.length<=1000000000)
include hD hL
theorem jJt{a m b:I}(ha:a<D.length)(hmb:m<=b)(hb:b<=D.length)(mf:∀s t,m<=s->s<=t->t<b->aB (D.getD s dC)<=aB (D.getD t dC)) :
  ∃k,m<=k/\k<=b/\Gb rec (a:G) (m:G) (b:G) D=J ((a:G),(k:G),D)/\(∀t,m<=t->t<k->aB (D.getD t dC)<aB (D.getD a dC))/\∀t,k<=t->t<b->¬aB (D.getD t dC)<aB (D.getD a dC):=by
 refine Hs (λi j=>Gb rec (a:G) (i:G) (j:G) D) (λk=>((a:G),(k:G),D)) (λt=>aB (D.getD t dC)<aB (D.getD a dC)) m b (λi j h1 h2 h3=>?_) (λi h1 h2=>?_) (λs t h1 h2 h3 h4=>by grind) (b-m) m b (jh _) (jh _) hmb (jh _) (λt h1 h2=>aa) (λt h1 h2=>aa)
 .rw[_G];simp only[j0I];rw[ai (show (i:G)<(j:G) by omega),Lz aa,bL (show (0:G)<=(((i+j)/2:I):G) by omega) aa,bL (show (0:G)<=(a:G) by omega) aa];simp only[j6,j8];have c:=Ly (hD _ (DM (l:=D) (i:=(i+j)/2) aa)) (hD _ (DM ha));unfold dC at c ⊢;rw[c];simp only[j4];grind[gh,bg]
 .rw[_G];simp(disch:=omega)only[j0I,S0]
theorem jJu{a m:I}(hm:m<D.length)(ham:a<=m)(mf:∀s t,a<=s->s<=t->t<m->aB (D.getD s dC)<=aB (D.getD t dC)) :
  ∃k,a<=k/\k<=m/\Gc rec (m:G) (a:G) (m:G) D=J ((m:G),(k:G),D)/\(∀t,a<=t->t<k->¬aB (D.getD m dC)<aB (D.getD t dC))/\∀t,k<=t->t<m->¬¬aB (D.getD m dC)<aB (D.getD t dC):=by
 refine Hs (λi j=>Gc rec (m:G) (i:G) (j:G) D) (λk=>((m:G),(k:G),D)) (λt=>¬aB (D.getD m dC)<aB (D.getD t dC)) a m (λi j h1 h2 h3=>?_) (λi h1 h2=>?_) (λs t h1 h2 h3 h4=>by grind) (m-a) a m (jh _) (jh _) ham (jh _) (λt h1 h2=>aa) (λt h1 h2=>aa)
 .rw[_I];simp only[j0K];rw[ai (show (i:G)<(j:G) by omega),Lz aa,bL (show (0:G)<=(m:G) by omega) aa,bL (show (0:G)<=(((i+j)/2:I):G) by omega) aa];simp only[j6,j8];have c:=Ly (hD _ (DM hm)) (hD _ (DM (l:=D) (i:=(i+j)/2) aa));unfold dC at c ⊢;rw[c];simp only[j4];by_cases hp:aB (D.getD m ((0:G),((0:G),((0:G),((0:G),(0:G))))))<aB (D.getD ((i+j)/2) ((0:G),((0:G),((0:G),((0:G),(0:G))))))
  .grind[bg]
  .rw[if_pos hp,aC aa];simp(disch:=omega)only[S0];rfl
 .rw[_I];simp(disch:=omega)only[j0K,S0]
theorem jGf{lo hi p:I}{s1 s2 s3 s18 s19:G}(hlh:lo<=hi)(hh:hi<=D.length)(hp:∀c,lo<=c->c<hi->c<=p/\p-c<D.length)(xr:p<=2000000000)
  (mf:∀s t,lo<=s->s<=t->t<hi->¬aB (D.getD (p-t) dC)<aB (D.getD t dC)->¬aB (D.getD (p-s) dC)<aB (D.getD s dC)) :
  ∃k,lo<=k/\k<=hi/\Db rec s1 s2 s3 s18 s19 (lo:G) (hi:G) (p:G) D=J (s1,s2,s3,s18,s19,(k:G),D)/\(∀t,lo<=t->t<k->¬aB (D.getD (p-t) dC)<aB (D.getD t dC))/\∀t,k<=t->t<hi->¬¬aB (D.getD (p-t) dC)<aB (D.getD t dC):=by
 refine Hs (λi j=>Db rec s1 s2 s3 s18 s19 (i:G) (j:G) (p:G) D) (λk=>(s1,s2,s3,s18,s19,(k:G),D)) (λt=>¬aB (D.getD (p-t) dC)<aB (D.getD t dC)) lo hi (λi j h1 h2 h3=>?_) (λi h1 h2=>?_) mf (hi-lo) lo hi (jh _) (jh _) hlh (jh _) (λt h1 h2=>aa) (λt h1 h2=>aa)
 .have hpc:=hp ((i+j)/2) aa aa;rw[_K];simp only[j0M];rw[ai (show (i:G)<(j:G) by omega),Lz aa,aQ (x:=(p:G)-(((i+j)/2:I):G)),bL (show (0:G)<=(p:G)-(((i+j)/2:I):G) by omega) aa,bL (show (0:G)<=(((i+j)/2:I):G) by omega) aa];simp only[j6,j8];rw[show ((p:G)-(((i+j)/2:I):G)).toNat=p-(i+j)/2 by omega];have c:=Ly (hD _ (DM (l:=D) (i:=p-(i+j)/2) hpc.2)) (hD _ (DM (l:=D) (i:=(i+j)/2) aa));unfold dC at c ⊢;rw[c];simp only[j4];by_cases hq:aB (D.getD (p-(i+j)/2) ((0:G),((0:G),((0:G),((0:G),(0:G))))))<aB (D.getD ((i+j)/2) ((0:G),((0:G),((0:G),((0:G),(0:G))))))
  .grind[bg]
  .rw[if_pos hq,aC aa];simp(disch:=omega)only[S0];rfl
 .rw[_K];simp(disch:=omega)only[j0M,S0]
end
end Go.Proofs.Pw
