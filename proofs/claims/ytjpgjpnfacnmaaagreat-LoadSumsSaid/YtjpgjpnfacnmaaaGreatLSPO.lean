/- load.Loads: the map of loads, and what a round for each entry does. -/
import Derived.Test.YtjpgjpnfacnmaaaGreatLSPN
import Derived.Test.YtjpgjpnfacnmaaaGreatLSPA
open Go Go.Lft
namespace Go.Proofs.Pw
theorem jCm{p:Int}:∀{S:bD},(∀s∈S,s.1<s.2.1)->0<=eF p S
 |[],_=>k9 _
 |s::r,h=>by
  have:=jCm (p:=p) (S:=r) (λx hx=>h x (by simp[hx]));have:=h s (by simp);simp only[eF];split<;>omega
theorem SD{np:Nat}{f:Int->Int}{u:Int}(hu:u<=8589934592){S:bD}(hl:S.length<=100000)(bJ:∀s∈S,s.1<s.2.1){a1 a2:Int}{ws:mY}{o:Int}{tl:bn}(hp:∀s∈S,s.2.2<(np:Int)) :
  ∀(n i:Nat)(m:oF)(x:Int),i+n=S.length->0<=x->Ch f u x (S.drop i)->As m np i (λp=>eF p (S.take i)) (λp=>eF p (S.take i))->(∀p,0<=p->eF p (S.take i)<=x)->
  ∃m',EY a1 a2 ws (S.length:Int) (i:Int) o tl S m=some (a1,a2,ws,o,tl,S,m')/\As m' np S.length (λp=>eF p S) (λp=>eF p S)
 |0,i,m,x,hi,uj,hc,hm,hb=>by
  refine⟨m,?_,?_⟩
  .rw[Xo];simp only[j4H];rw[ah (by omega),j7,aW]
  .rw[List.take_of_length_le (by omega),show i=S.length by omega]at hm;exact hm
 |n+1,i,m,x,hi,uj,hc,hm,hb=>by
  have ak:i<S.length:=by omega
  have aR:S.getD i ((0:Int),((0:Int),(0:Int)))=S[i]:=by simp[List.getD,ak]
  have hP:=hp _ (jf ak);have yV:=bJ _ (jf ak);rw[jb ak]at hc;obtain⟨h1,h2,h3,h4⟩:=hc;have hle:=h4.le
  have kQ:∀p,eF p (S.take (i+1))=eF p (S.take i)+(if S[i].2.2=p then S[i].2.1-S[i].1 else 0):=λp=>by
   rw[yg ak,jzD];simp only[eF];omega
  have SE:=λp=>jCm (p:=p) (S:=S.take i) (λs hs=>bJ s (qe hs));rw[Xo];simp only[j4H];rw[ag (show (i:Int)<(S.length:Int) by omega),bz,ai (x:=(i:Int)+1)];simp only[j6,j8,aR];generalize S[i]=s at *;by_cases gu:s.2.2>=0
  .rw[ag gu];have eZ:=hb s.2.2 gu;have gG:=SE s.2.2
   have Db:(dx jQ m s.2.2).2.1=eF s.2.2 (S.take i):=by
    cases hh:ej m s.2.2 with
    |true=>rw[hm.get _ gu hP hh]
    |false=>
     have hn:¬0<eF s.2.2 (S.take i):=λhq=>by
      have:=(hm.has _ gu hP).2 hq;rw[hh]at this;simp at this
     rw[jzE hh];show (0:Int)=_;omega
   rw[show (dx ((0:Int),((0:Int),(0:Int))) m s.2.2)=dx jQ m s.2.2 from rfl,Db,ai (x:=eF s.2.2 (S.take i)+s.2.1),ai (x:=eF s.2.2 (S.take i)+s.2.1-s.1)];simp only[j6,aK]
   obtain⟨m',e,q1⟩:=SD hu hl bJ (a1:=a1) (a2:=a2) (ws:=ws) (o:=o) (tl:=tl) hp n (i+1) (ea m s.2.2 (s.2.2,(eF s.2.2 (S.take i)+s.2.1-s.1,eF s.2.2 (S.take i)+s.2.1-s.1))) s.2.1 (by omega) (by omega) h4
    ⟨⟨by have:=hm.ok.len;have:=jwY (m:=m) (k:=s.2.2) (v:=(s.2.2,(eF s.2.2 (S.take i)+s.2.1-s.1,eF s.2.2 (S.take i)+s.2.1-s.1)));omega,λy hy=>by
      rcases jwX hy with hy|rfl
      .exact hm.ok.key y hy
      .exact⟨gu,hP,rfl⟩⟩,(juu hm.nd).1,λp p0 p1=>by
     rw[RU];show _↔0<eF p (S.take (i+1));rw[kQ];by_cases p7:p=s.2.2
     .subst p7;rw[qd,zj,if_pos rfl];simp only[true_iff];omega
     .rw[bW p7,zt,if_neg (λh=>p7 h.symm),yf];exact hm.has p p0 p1,λp p0 p1 hh=>by
     rw[RW];show _=(p,(eF p (S.take (i+1)),eF p (S.take (i+1))));rw[kQ];by_cases p7:p=s.2.2
     .subst p7;rw[qd,j6,if_pos rfl,show eF s.2.2 (S.take i)+s.2.1-s.1=eF s.2.2 (S.take i)+(s.2.1-s.1) by omega]
     .rw[RU,bW p7,zt]at hh;rw[bW p7,j7,if_neg (λh=>p7 h.symm),yf];exact hm.get p p0 p1 hh⟩ (λp pS=>by
     have:=hb p pS;rw[kQ];split<;>omega)
   rw[show ((i+1:Nat):Int)=(i:Int)+1 by omega]at e;exact⟨m',e,q1⟩
  .rw[ah gu];simp only[j7,aK]
   obtain⟨m',e,q1⟩:=SD hu hl bJ (a1:=a1) (a2:=a2) (ws:=ws) (o:=o) (tl:=tl) hp n (i+1) m s.2.1 (by omega) (by omega) h4
    ⟨⟨by have:=hm.ok.len;omega,hm.ok.key⟩,hm.nd,λp p0 p1=>by
      show _↔0<eF p (S.take (i+1));rw[kQ,if_neg (by omega),yf];exact hm.has p p0 p1,λp p0 p1 hh=>by
      show _=(p,(eF p (S.take (i+1)),eF p (S.take (i+1))));rw[kQ,if_neg (by omega),yf];exact hm.get p p0 p1 hh⟩ (λp pS=>by
      have:=hb p pS;rw[kQ,if_neg (by omega)];omega)
   rw[show ((i+1:Nat):Int)=(i:Int)+1 by omega]at e;exact⟨m',e,q1⟩
def l9(c:Int->Int)(m:oF):oF:=m.map λx=>(x.1,(x.2.1,(x.2.2.1,x.2.2.2+c x.1)))
theorem jvE{c:Int->Int}(p:Int):∀m:oF,ej (l9 c m) p=ej m p:=by
 intro m;simp only[ej,l9,List.any_map];rfl
theorem jvF{c:Int->Int}{p:Int}:∀{m:oF},ej m p=true->dx jQ (l9 c m) p=((dx jQ m p).1,((dx jQ m p).2.1,(dx jQ m p).2.2+c p))
 |[],h=>by simp[ej]at h
 |x::r,h=>by
  show cond (p==x.1) (x.2.1,(x.2.2.1,x.2.2.2+c x.1)) (dx jQ (l9 c r) p)=_;by_cases hp:p=x.1
  .rw[di hp,j6];have:dx jQ (x::r) p=x.2:=by show cond (p==x.1) x.2 (dx jQ r p)=x.2;rw[di hp];rfl
   rw[this,hp]
  .rw[bW hp,j7];have:dx jQ (x::r) p=dx jQ r p:=by show cond (p==x.1) x.2 (dx jQ r p)=_;rw[bW hp];rfl
   rw[this];refine jvF ?_;have e:ej (x::r) p=(p==x.1||ej r p):=rfl;rw[e,bW hp,zt]at h;exact h
theorem jDP{m:oF}{np n:Nat}{u v c:Int->Int}(h:As m np n u v):As (l9 c m) np n u (λp=>v p+c p):=by
 refine⟨⟨by have:=h.ok.len;simp only[l9,k5];exact this,λx hx=>?_⟩,?_,λp p0 p1=>?_,λp p0 p1 hh=>?_⟩
 .obtain⟨y,hy,rfl⟩:=jt.1 hx;exact h.ok.key y hy
 .have:(l9 c m).map (λx=>x.1)=m.map (λx=>x.1):=by simp[l9,List.map_map,Function.comp_def]
  rw[this];exact h.nd
 .rw[jvE];exact h.has p p0 p1
 .rw[jvE]at hh;rw[jvF hh,h.get p p0 p1 hh]
noncomputable def vM(zs:List br)(cs:List aX)(s:cF)(a:Int)(N:Nat)(p:Int):Int:=bq (λx=>decide (cR zs cs s x=p)) a N
noncomputable def GH(zs:List br)(cs:List aX)(s:cF)(t:Int×bn)(ws:mY)(a:Int)(N:Nat)(p:Int):Int:=vM zs cs s a N p+dO (cR zs cs s) t.1 t.2 a N p ws
def jzL:Prop:=∀{zs:List br}{ps:List cZ}{cs:List aX}{s:cF},cN zs ps cs->ny (zs,(ps,(cs,[s])))->s.2.1.length<=3->s.2.2.length<=6->∀{z:Nat}(hz:z<zs.length){ws:mY},sZ ws->∀{a:Int}{N:Nat},0<=a->a+N<=8589934592->N<=1209600->
 j9S (zs,(ps,(cs,[s]))) 0 a (a+N) (z:Int) ws=some (iG ps.length (vM zs cs s a N) (GH zs cs s (tb zs[z]) ws a N),0)
theorem jFi{zs:List br}{ps:List cZ}{cs:List aX}{s:cF}(hs:cN zs ps cs){z:Nat}(hz:z<zs.length){ws:mY}(hw:sZ ws){a:Int}{N:Nat}(ha:0<=a)(hb:a+N<=8589934592)(hN:N<=1209600){np:Nat} :
  UV np (vM zs cs s a N) (GH zs cs s (tb zs[z]) ws a N):=by
 have aT:∀p,0<=dO (cR zs cs s) (tb zs[z]).1 (tb zs[z]).2 a N p ws/\dO (cR zs cs s) (tb zs[z]).1 (tb zs[z]).2 a N p ws<=3*bq (λx=>decide (cR zs cs s x=p)) a N:=λp=>jCl (f:=cR zs cs s) (p:=p) (hs.so.ok zs[z] (jf hz)).ztab.2 ha hw.w hw.g N hb;have hc:=λp=>GA (λx=>decide (cR zs cs s x=p)) a N;refine⟨λp=>(hc p).1,λp=>?_,λp=>?_,λp=>?_⟩
 .have:=(hc p).2;show bq _ a N<=_;omega
 .have:=(aT p).1;show bq _ a N<=bq _ a N+_;omega
 .have:=(aT p).2;have:=(hc p).1;show bq _ a N+_<=8*bq _ a N;omega
theorem joN{α β:Type}{G:α->β->Option β}{g:α×β->β}:∀{m:List (α×β)},(∀x∈m,G x.1 x.2=some (g x))->qJ G m=some (m.map λx=>(x.1,g x))
 |[],_=>rfl
 |x::r,h=>by
  have ih:=joN (m:=r) (λy hy=>h y (by simp[hy]));simp only[qJ,h x (by simp),ih,j4,ke]
theorem jzM{m:oF}:∀{x:Int×oE},(m.map λx=>x.1).Nodup->x∈m->ej m x.1=true/\dx jQ m x.1=x.2:=by
 induction m with
 |nil=>intro x _ hx;simp at hx
 |cons y r ih=>
  intro x hn hx;have hc:=qb.1 (show (y.1::r.map λx=>x.1).Nodup from hn);rcases je.1 hx with rfl|hx
  .refine⟨by simp[ej],?_⟩;show cond (x.1==x.1) x.2 (dx jQ r x.1)=x.2;rw[qd];rfl
  .obtain⟨i1,i2⟩:=ih hc.2 hx;have bk:¬x.1=y.1:=λhe=>hc.1 (he▸jt.2 ⟨x,hx,rfl⟩);refine⟨?_,?_⟩
   .show (x.1==y.1||ej r x.1)=true;rw[i1,Bool.or_true]
   .show cond (x.1==y.1) y.2 (dx jQ r x.1)=x.2;rw[bW bk];exact i2
theorem jFj{np K:Nat}{f:Int->Int}{a:Int}{N:Nat}(ha:0<=a)(hb:a+N<=8589934592)(hN:N<=1209600){S:bD}(hS:dW f (a+N) none a S)(tM:S.length<=16384){o:Int}{tl:bn}(h:gW o tl)(eE:tl.length<=20)
  {ws:mY}(hw:∀y∈ws,ei 0 [y.1])(hg:∀y∈ws,1<=y.2/\y.2<=4)(hl:ws.length<=100){u:Int->Int}:∀(n j:Nat)(m:oF)(v:Int->Int),j+n=ws.length->As m np K u v->(∀p,0<=v p/\v p+5000000*n<=1000000000000)->
  ∃m',EZ a (a+N) ws (ws.length:Int) (j:Int) o tl S m=some m'/\As m' np K u (λp=>v p+dO f o tl a N p (ws.drop j))
 |0,j,m,v,hj,hm,_=>by
  refine⟨m,?_,?_⟩
  .rw[Xp];simp only[j4I];rw[ah (by omega),j7,aW]
  .rw[jd (by omega)];simp only[dO,yf];exact hm
 |n+1,j,m,v,hj,hm,hv=>by
  have ak:j<ws.length:=by omega
  have aR:ws.getD j (((0:Int),(0:Int)),(0:Int))=ws[j]:=by simp[List.getD,ak]
  have hwj:=hw _ (jf ak);obtain⟨g1,g2⟩:=hg _ (jf ak);obtain⟨W,eW,_⟩:=Rr h eE hwj (by simp) (M:=60) (by omega) ha (show a<=a+(N:Int) by omega) hb (by omega);have tz:=λp=>GA (λx=>decide (f x=p)&&iM o tl [ws[j].1] x) a N
  have hme:=joN (m:=m) (G:=λ(Av:Int)(Aw:oE)=>jbw a (a+N) ws (ws.length:Int) (j:Int) o tl ws[j].1.1 ws[j].1.2 ws[j].2 S W m Av Aw some)
   (g:=λx=>(x.2.1,(x.2.2.1,x.2.2.2+(ws[j].2-1)*bq (λt=>decide (f t=x.1)&&iM o tl [ws[j].1] t) a N))) (λx hx=>by
    obtain⟨T,eT,_⟩:=jCi ha hb hS tM x.1;obtain⟨C,eC,eL⟩:=jDO ha hb (by omega) hS tM eT h eE hwj (by simp) eW;have hk:=hm.ok.key x hx;obtain⟨m1,m2⟩:=jzM hm.nd hx;have tt:x.2=(x.1,(u x.1,v x.1)):=by rw[<-m2];exact hm.get x.1 hk.1 hk.2.1 m1
    have hvp:=hv x.1;have hc:=tz x.1;have DL:x.2.2.2=v x.1:=by rw[tt]
    have hmul:0<=(ws[j].2-1)*bq (λt=>decide (f t=x.1)&&iM o tl [ws[j].1] t) a N/\(ws[j].2-1)*bq (λt=>decide (f t=x.1)&&iM o tl [ws[j].1] t) a N<=3*1209600:=by
     refine⟨yc (by omega) hc.1,?_⟩
     calc (ws[j].2-1)*bq (λt=>decide (f t=x.1)&&iM o tl [ws[j].1] t) a N<=3*bq (λt=>decide (f t=x.1)&&iM o tl [ws[j].1] t) a N:=vd (by omega) hc.1
      _<=3*1209600:=by omega
    simp only[jbw,eT,eC,eL,j4]
    rw[ai (x:=ws[j].2-1),ai (x:=(ws[j].2-1)*bq (λt=>decide (f t=x.1)&&iM o tl [ws[j].1] t) a N),DL,
     ai (x:=v x.1+(ws[j].2-1)*bq (λt=>decide (f t=x.1)&&iM o tl [ws[j].1] t) a N)])
  have gL:=jDP (c:=λp=>(ws[j].2-1)*bq (λt=>decide (f t=p)&&iM o tl [ws[j].1] t) a N) hm
  obtain⟨m',e,q⟩:=jFj ha hb hN hS tM h eE hw hg hl n (j+1) (l9 (λp=>(ws[j].2-1)*bq (λt=>decide (f t=p)&&iM o tl [ws[j].1] t) a N) m) (λp=>v p+(ws[j].2-1)*bq (λt=>decide (f t=p)&&iM o tl [ws[j].1] t) a N) (by omega) gL (λp=>by
   have hc:=tz p;have hvp:=hv p;have h1:0<=(ws[j].2-1)*bq (λt=>decide (f t=p)&&iM o tl [ws[j].1] t) a N:=yc (by omega) hc.1;have h2:(ws[j].2-1)*bq (λt=>decide (f t=p)&&iM o tl [ws[j].1] t) a N<=3*bq (λt=>decide (f t=p)&&iM o tl [ws[j].1] t) a N:=vd (by omega) hc.1;omega)
  refine⟨m',?_,?_⟩
  .rw[Xp];simp only[j4I];rw[ag (show (j:Int)<(ws.length:Int) by omega),bz,ai (x:=(j:Int)+1)];simp only[j6,j8,aR];rw[show j31 (o,tl) [(ws[j].1.1,ws[j].1.2)] a (a+N)=_ from eW];simp only[j4];rw[hme];simp only[j4,aK];rw[show ((j+1:Nat):Int)=(j:Int)+1 by omega]at e;exact e
  .rw[jb ak]
   have:(λp=>v p+dO f o tl a N p (ws[j]::ws.drop (j+1)))=(λp=>(v p+(ws[j].2-1)*bq (λt=>decide (f t=p)&&iM o tl [ws[j].1] t) a N)+dO f o tl a N p (ws.drop (j+1))):=by
    funext p
    simp only[dO];omega
   rw[this];exact q
theorem jDQ{w:WL}:∀{p:Int},0<=p->ei p w->∀v∈w,ei 0 [v]:=by
 induction w with
 |nil=>intro p _ _ v hv;simp at hv
 |cons x r ih=>
  intro p hp h v hv;obtain⟨h1,h2,h3,h4⟩:=h;rcases je.1 hv with rfl|hv
  .exact⟨by omega,h2,h3,h3⟩
  .exact ih (p:=x.2) (by omega) h4 v hv
theorem joO:jzL:=by
 intro zs ps cs s hs hc eE eX z hz ws hw a N ha hb hN;obtain⟨S,eS,hS,lS⟩:=jsK hs hc eE eX ha hb hN;have hk:=hc.sc s (by simp);have rh:=hs.so.z1;have s7:=hs.so.p1;have iD:=hw.l
 have ez:∀x∈S,x.2.2<(ps.length:Int):=λx hx=>by
  obtain⟨h1,h2,h3,h4⟩:=hS.ch.mem x hx;have bJ:=hS.pos x hx;rw[<-h4 x.1 (k9 _) bJ];exact jzC hs hk (by omega) (by omega)
 have Ap:=hs.so.ok zs[z] (jf hz);have aR:zs.getD z (ByteArray.empty,((0:Int),([]:List aD)))=zs[z]:=by simp[List.getD,hz]
 have hO:=Y3 Ap.ztab;have Gr:(tb zs[z]).2.length<=20:=Z8 Ap;have xR:=λp=>(hS.ch.tot_le (p:=p))
 obtain⟨m,e1,hm⟩:=SD (np:=ps.length) hb (by omega) (λx hx=>hS.pos x hx) (a1:=a) (a2:=a+N) (ws:=ws) (o:=(tb zs[z]).1) (tl:=(tb zs[z]).2) ez S.length 0 [] a (by omega) ha hS.ch
  ⟨⟨by simp,by simp⟩,v6,λp _ _=>by simp[ej,eF],λp _ _ h=>by simp[ej]at h⟩ (λp _=>ha)
 obtain⟨m2,e2,gL⟩:=jFj ha hb hN hS lS Ap.ztab.2 Gr (ws:=ws) (λy hy=>jDQ (k9 0) hw.w y.1 (jt.2 ⟨y,hy,rfl⟩)) hw.g (by omega) ws.length 0 m (λp=>eF p S) (by omega) hm (λp=>by have:=xR p;omega);rw[jr]at gL;have hL:=jsI gL (by omega) (by omega);have eu:(λp=>eF p S)=vM zs cs s a N:=funext λp=>jzK hS.ch
 have ev:(λp=>eF p S+dO (cR zs cs s) zs[z].2.1 (tb zs[z]).2 a N p ws)=GH zs cs s (tb zs[z]) ws a N:=funext λp=>by
  show eF p S+_=vM zs cs s a N p+_;rw[<-congrFun eu p];rfl
 rw[eu,ev]at hL;simp only[j9S];rw[show j4e (zs,(ps,(cs,[s]))) 0 a (a+N)=_ from eS];simp only[j4,jh,j7,show Int.ofNat zs.length=(zs.length:Int) from rfl];rw[ah (show¬(z:Int)<0 by omega),ah (show¬(z:Int)>=(zs.length:Int) by omega),jx0 hw];simp only[j4,jh,j7];rw[cw (show (0:Int)<=(z:Int) by omega) (show (z:Int)<(zs.length:Int) by omega)];simp only[j6,j8,aR];rw[show jim (zs[z].1,(zs[z].2.1,zs[z].2.2))=_ from hO];simp only[j4];rw[show EY a (a+N) ws (Int.ofNat S.length) 0 zs[z].2.1 (tb zs[z]).2 S []=_ from e1];simp only[j4];rw[show EZ a (a+N) ws (Int.ofNat ws.length) 0 (tb zs[z]).1 (tb zs[z]).2 S m=_ from e2];simp only[j4,hL]
end Go.Proofs.Pw
