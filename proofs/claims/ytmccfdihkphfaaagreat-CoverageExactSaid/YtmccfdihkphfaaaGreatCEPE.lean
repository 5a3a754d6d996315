/- Facts. -/
import Derived.Test.YtmccfdihkphfaaaGreatCEPD
import Derived.KernelRfl
import Derived.Test.YtmccfdihkphfaaaGreatCEPC
open ByteArray renaming empty->E,ext->Å
open _root_ renaming Int->F,List->G,Nat->X,ByteArray->Ã
open Option renaming some->H,some_or->Â,none->Ä
open List renaming drop_eq_getElem_cons->I,length_append->J,drop_of_length_le->U,getD->W,getLast?_append->Y
open Int renaming tmod->O,ofNat->R
open Bool renaming true->S,false->Á
noncomputable section
open Go Go.Lft
namespace Go.Proofs.Pw
def ry(p:F×(F×F))(d:F):F×Int:=
 (if d*86400-p.2.2>p.1 then d*86400-p.2.2 else p.1,if d*86400-p.2.2+86400<p.2.1 then d*86400-p.2.2+86400 else p.2.1)
theorem ģ{ds:G F}(hd:∀d∈ds,0<=d/\d<=100000)(hl:ds.length<=64){p:F×(F×F)}(hp : -64800<=p.2.2/\p.2.2<=64800){m q z:F}{nm:Ã}{ps:G (F×(F×F))}:∀(n i:X)(acc:SL),i+n=ds.length->acc.length+n<=1000000->
  Pq m q ds (ds.length:F) (i:F) nm z ds p.1 p.2.1 p.2.2 acc ps=H (m,q,nm,z,ds,acc++(ds.drop i).map (ry p),ps)
 |0,i,acc,hi,_=>by
  grind[Z9,j3W,S0]
 |n+1,i,acc,hi,dM=>by
  have bG:i<ds.length:=aa;have br:ds.getD i (0:F)=ds[i]:=by simp[bG]
  have Ĥ:=hd _ (jd bG);rw[Z9];simp(disch:=omega)only[j3W,I bG,S0];have:=ģ hd hl hp (m:=m) (q:=q) (z:=z) (nm:=nm) (ps:=ps) n (i+1) (acc++[ry p ds[i]]) aa aj;rw[jk]at this;exact this
theorem ĥ{ds:G F}(hd:∀d∈ds,0<=d/\d<=100000)(hl:ds.length<=64){z:F}{nm:Ã}{ps:G (F×(F×F))}(iv:∀p∈ps, -64800<=p.2.2/\p.2.2<=64800)(fy:ps.length<=100):∀(n i:X)(acc:SL),i+n=ps.length->acc.length<=64*i->
  Pr (ps.length:F) (i:F) nm z ds acc ps=H (acc++(ps.drop i).flatMap λp=>ds.map (ry p))
 |0,i,acc,hi,_=>by
  grind[_a,j3X,S0]
 |n+1,i,acc,hi,dM=>by
  have bG:i<ps.length:=aa;have br:ps.getD i ((0:F),((0:F),(0:F)))=ps[i]:=by simp[W,bG]
  have h2:=ģ hd hl (iv _ (jd bG)) (m:=(ps.length:F)) (q:=(i:F)) (z:=z) (nm:=nm) (ps:=ps) ds.length 0 acc aa aa;have ih:=ĥ hd hl (z:=z) (nm:=nm) iv fy n (i+1) (acc++ds.map (ry ps[i])) aa aj;rw[_a];simp(disch:=omega)only[j3X,S0];grind[gh,bg,I]
theorem Ħ{α β:Type}(f:α->G β)(k:X)(hf:∀a,(f a).length=k):∀l:G α,(l.flatMap f).length=l.length*k
 |[]=>ae
 |a::l=>by rw[qz,J,Ħ f k hf l,hf,jf,Nat.add_mul,Nat.one_mul];omega
theorem ħ{p:F×(F×F)}{d x:F}:((ry p d).1<=x/\x<(ry p d).2)↔(p.1<=x/\x<p.2.1)/\(x+p.2.2)/86400=d:=by
 grind[ry]
section
variable{zs:G bB}{ps:G cZ}{cs:G aY}(hs:kS zs ps cs)
include hs
theorem jHg{x:aY}(hx:nk zs.length x){ss:G bW}{a b:F}(ha:0<=a)(bH:a<=b)(hb:b<=8589934592){z:bB}(hz:zs.getD x.2.1.toNat (E,((0:F),([]:G aO)))=z) :
  ∃out,j6y ((zs,(ps,(cs,ss))),zs.map tb) x a b=H out/\bU (a-1) out/\out.length<=x.2.2.length*((tb z).2.length+1)/\
   ∀t d,a<=t->t<b->j1V (tb z) t=H d->(bN t out↔d.1∈x.2.2):=by
 have hlen:(zs.map tb).length=zs.length:=ki ..;have hg:=Ld (zs:=zs) hx.z0 hx.z1;have Uz:=eG hs.ok hx.z0 hx.z1;rw[hz]at hg Uz;have ht:=Uz.ztab.2;have gw:(tb z).2.length<=20:=jHd Uz;obtain⟨pc,e,pl,pm,UA⟩:=Ď ht ha bH hb;have nG:=hx.len;have hd:∀d∈x.2.2,0<=d/\d<=100000:=λd hd=>⟨Ā (hx.day d hd),jIE (hx.day d hd)⟩
 have CM:∀p∈pc, -64800<=p.2.2/\p.2.2<=64800:=λp hp=>by
  obtain⟨_,_,_,i,i1,i2,_⟩:=pm p hp;have:=ht.of0 i i1;have:=ht.of1 i i1;omega
 have l0:=ĥ hd nG (z:=x.2.1) (nm:=x.1) CM aa pc.length 0 [] aa ae;rw[jr,jj]at l0;have Ē:(pc.flatMap λp=>x.2.2.map (ry p)).length=pc.length*x.2.2.length:=Ħ _ _ (λp=>ki ..) pc;have hm:pc.length*x.2.2.length<=((tb z).2.length+1)*x.2.2.length:=k5 _ pl;have hQ:((tb z).2.length+1)*x.2.2.length<=21*64:=qi aa nG
 have iC:∀s∈(pc.flatMap λp=>x.2.2.map (ry p)),∃p∈pc,∃d∈x.2.2,s=ry p d:=λs h=>by
  grind
 obtain⟨out,e2,s1,s2,s3,s4⟩:=GY (l:=pc.flatMap λp=>x.2.2.map (ry p)) aa (λs h=>by
  obtain⟨p,hp,d,Le,rfl⟩:=iC s h;obtain⟨h1,h2,h3,_⟩:=pm p hp;have:=CM p hp;grind[ry]) (lo:=a) (hi:=b) (λs h ao=>by
  obtain⟨p,hp,d,Le,rfl⟩:=iC s h;grind[ry])
 refine⟨out,?_,s1,by rw[Nat.mul_comm];omega,λt d h1 h2 pN=>?_⟩
 .grind[j6y,bL,nk.z0,nk.z1,tb]
 .obtain⟨k,hk,k1,k2⟩:=uT ht (t:=t) aa aa;have:=Dv ht hk k1 k2;have Ĩ:=pN.symm.trans this;simp only[j5]at Ĩ;subst Ĩ;dsimp only;rw[s2 t];constructor
  .rintro⟨s,fL,h3,h4⟩
   obtain⟨p,hp,d,Le,rfl⟩:=iC s fL;obtain⟨c1,c2⟩:=ħ.1 ⟨h3,h4⟩;obtain⟨_,_,_,i,i1,i2,i3,i4⟩:=pm p hp;grind[K3]
  .intro Le;obtain⟨p,hp,c1,c2⟩:=UA t h1 h2;obtain⟨_,_,_,i,i1,i2,i3,i4⟩:=pm p hp;have:i=k:=K3 ht i1 hk (t:=t) aa aa k1 k2;subst this;obtain⟨g1,g2⟩:=ħ.2 ⟨⟨c1,c2⟩,show (t+p.2.2)/86400=(t+bq z.2.1 (tb z).2 i)/86400 by rw[i2]⟩;exact⟨_,kz.2 ⟨p,hp,k7.2 ⟨_,Le,rfl⟩⟩,g1,g2⟩
omit hs in
def az(zs:G bB)(i:F):bB:=zs.getD i.toNat (E,((0:F),([]:G aO)))
omit hs in
def eI(cs:G aY)(i:F):aY:=cs.getD i.toNat (E,((0:F),([]:G F)))
omit hs in
def cL(z:bB)(t:F):F×Int:=(j1V (tb z) t).getD (0,0)
omit hs in
def gf(d:F×F):Int:=(Du d).getD 0
omit hs in
def bY(z:bB)(L:bt)(t:F):Int:=(j6b (tb z) L t).getD (-1)
omit hs in
def jB(zs:G bB)(cs:G aY)(L:bt)(t:F):Bool:=
 cond (L.2.2.2.2.2.2.2.2==0) S (decide ((cL (az zs (eI cs L.2.2.2.2.2.2.2.1).2.1) t).1∈(eI cs L.2.2.2.2.2.2.2.1).2.2)==(L.2.2.2.2.2.2.2.2==(2:F)))
omit hs in
def gx(zs:G bB)(cs:G aY)(L:bt)(t:F):Bool:=
 cond (decide (0<=bY (az zs L.2.1) L t)) (cond (okW L.2.2.2.2.2.2.1 (gf (cL (az zs L.2.1) t))) (jB zs cs L t) Á) Á
omit hs in
def cE(zs:G bB)(cs:G aY)(L:bt)(t:F):Int:=cond (gx zs cs L t) (ue L (bY (az zs L.2.1) L t)) (-1)
omit hs in
theorem UB{z:bB}(hz:eX z){t:F}(h0:0<=t)(h1:t<=8589934592):j1V (tb z) t=H (cL z t)/\Du (cL z t)=H (gf (cL z t)):=by
 grind[jIH,cL,gf]
omit hs in
theorem sj{z:bB}(hz:eX z){L:bt}(hR:Rt L){t:F}(h0:0<=t)(h1:t<=8589934592):j6b (tb z) L t=H (bY z L t)/\lK z.2.1 (tb z).2 L t (bY z L t):=by
 obtain⟨K,e,hK⟩:=jJT hz.ztab.2 hR h0 h1;grind[bY,tb]
omit hs in
theorem Lf{L:bt}{t:F}(h:gx zs cs L t=S):0<=bY (az zs L.2.1) L t:=by
 grind[gx]
omit hs in
theorem ĩ{L:bt}(hL:ic zs.length ps.length cs.length L){t:F}(_h0:0<=t)(_h1:t<=8589934592):(gx zs cs L t=S↔0<=cE zs cs L t) /\ -1<=cE zs cs L t/\cE zs cs L t<ps.length:=by
 have ov:gx zs cs L t=S->0<=bY (az zs L.2.1) L t:=Lf;unfold cE;cases hc:gx zs cs L t with
 |false=>simp;omega
 |true=>
  have hk:=ov hc;have sf:=hL.m0;have q1:0<=O (bY (az zs L.2.1) L t) (L.2.2.2.2.2.1.length:F):=vw _ hk;have q2:O (bY (az zs L.2.1) L t) (L.2.2.2.2.2.1.length:F)<(L.2.2.2.2.2.1.length:F):=zm _ aa;have hi:(O (bY (az zs L.2.1) L t) (L.2.2.2.2.2.1.length:F)).toNat<L.2.2.2.2.2.1.length:=aa;have e:ue L (bY (az zs L.2.1) L t)=L.2.2.2.2.2.1[(O (bY (az zs L.2.1) L t) (L.2.2.2.2.2.1.length:F)).toNat]:=by grind[ue]
  rw[j6,e];have:=hL.mem _ (jd hi);grind
theorem jCM{L:bt}(hL:ic zs.length ps.length cs.length L){ss:G bW}{a b:F}(ha:0<=a)(bH:a<=b)(hb:b<=8589934592){M:X}(hM:M<=60)(hlen:b-a<=604800*M) :
  ∃out,j8D ((zs,(ps,(cs,ss))),zs.map tb) L a b=H out/\bU (a-1) out/\(∀t,bN t out↔a<=t/\t<b/\gx zs cs L t=S)/\
   out.length<=L.2.2.2.2.2.2.1.length*(M+1)*5+1+(if L.2.2.2.2.2.2.2.2=0 then 0 else (eI cs L.2.2.2.2.2.2.2.1).2.2.length*5):=by
 have nu:=hL.rt2;have fT:(zs.map tb).length=zs.length:=ki ..;have hz:=eG hs.ok hL.z0 hL.z1;have hg:=Ld (zs:=zs) hL.z0 hL.z1;have Au:=hL.wl;have gw:(tb (az zs L.2.1)).2.length<=4:=Bv hz;obtain⟨v,ev,hv⟩:=px hz.ztab.2 nu (k:=0) aa aa
 have rM:∀t,a<=t->t<b->(0<=bY (az zs L.2.1) L t↔QO (az zs L.2.1).2.1 (tb (az zs L.2.1)).2 L t 0):=λt h1 h2=>by
  have hK:=(sj hz nu (t:=t) aa aa).2;constructor
  .intro hk;rcases hK with⟨hK,_⟩|⟨_,hq,_⟩
   .grind[az]
   .exact QO.le hz.ztab.2 nu hk hq
  .intro hq;rcases hK with⟨_,hn⟩|⟨hk,_,_⟩
   .exact absurd hq hn
   .exact hk
 have zJ:∀t,a<=t->t<b->¬QO (az zs L.2.1).2.1 (tb (az zs L.2.1)).2 L t 0->gx zs cs L t=false:=λt h1 h2 hq=>by
  grind[gx]
 simp only[j8D];rw[bL hL.z0 (by rw[fT];exact hL.z1)];simp only[j6,hg];rw[show j0N ((tb (zs.getD L.2.1.toNat (E,((0:F),([]:G aO))))).1,(tb (zs.getD L.2.1.toNat (E,((0:F),([]:G aO))))).2) (L.1,L.2.1,(L.2.2.1.1,L.2.2.1.2),L.2.2.2.1,L.2.2.2.2.1,L.2.2.2.2.2.1,L.2.2.2.2.2.2.1,L.2.2.2.2.2.2.2.1,L.2.2.2.2.2.2.2.2) 0=_ from ev];simp only[j4]
 have wk:∀(P:∀t,a<=t->t<b->gx zs cs L t=Á),∃out,H ([]:SL)=H out/\bU (a-1) out/\(∀t,bN t out↔a<=t/\t<b/\gx zs cs L t=S)/\
   out.length<=L.2.2.2.2.2.2.1.length*(M+1)*5+1+(if L.2.2.2.2.2.2.2.2=0 then 0 else (eI cs L.2.2.2.2.2.2.2.1).2.2.length*5):=λP=>
  ⟨[],rfl,trivial,λt=>⟨λh=>absurd h iE,λ⟨h1,h2,h3⟩=>by simp_all⟩,jy _⟩
 cases hh:hO (zs.getD L.2.1.toNat (E,((0:F),([]:G aO)))).2.1 (tb (zs.getD L.2.1.toNat (E,((0:F),([]:G aO))))).2 L 0 with
 |none=>
  simp only[qf,jv,j6]
  exact wk λt h1 h2=>zJ t h1 h2 (by
   rintro⟨u,hu,_⟩
   have fF:=hh.symm.trans hu;simp at fF)
 |some u=>
  have:=hv u hh;subst this
  have hq:∀t,QO (az zs L.2.1).2.1 (tb (az zs L.2.1)).2 L t 0↔v<=t:=λt=>⟨λ⟨u,hu,hut⟩=>by
   have fF:=hh.symm.trans hu
   simp_all,λh=>⟨v,hh,h⟩⟩
  simp only[qg,jg,j7];by_cases Mp:v>=b
  .grind
  .rw[aC Mp];simp only[j7];by_cases G1:a>=b
   .rw[ai G1];grind
   .rw[aC G1];simp only[j7];obtain⟨c,hc,UC,mG,NN,lh⟩:∃c:F,c=(if v>a then v else a)/\a<=c/\v<=c/\c<b/\∀t,a<=t->t<c->t<v:=⟨_,rfl,by split<;>omega,by split<;>omega,by split<;>omega,λt h1 h2=>by split at h2<;>omega⟩;rw[<-hc]
    obtain⟨A,G2,rz,UD,UE,hA5,hA6⟩:∃A:SL,((L.2.2.2.2.2.2.1.length:F)>0->j7b (tb (az zs L.2.1)) L.2.2.2.2.2.2.1 c b=H A)/\(¬(L.2.2.2.2.2.2.1.length:F)>0->A=[(c,b)])/\bU (c-1) A/\
      (∀t,bN t A->t<b)/\(∀t,c<=t->t<b->(bN t A↔okW L.2.2.2.2.2.2.1 (gf (cL (az zs L.2.1) t))=S))/\A.length<=L.2.2.2.2.2.2.1.length*(M+1)*5+1:=by
     by_cases hw:(L.2.2.2.2.2.2.1.length:F)>0
     .obtain⟨A,e,s1,s2,s3,s4⟩:=jAf hz.ztab.2 (kf gw aa) hL.w Au hM (a:=c) (b:=b) aa aa hb aa;refine⟨A,λ_=>e,λh=>absurd hw h,s1,λt ⟨s,fL,h1,h2⟩=>by grind,λt h1 h2=>?_,?_⟩
      .obtain⟨k,hk,k1,k2⟩:=uT hz.ztab.2 (t:=t) aa aa;rw[s4 k hk t h1 h2 k1 k2];have Al:cL (az zs L.2.1) t=((t+bq (az zs L.2.1).2.1 (tb (az zs L.2.1)).2 k)/86400,(t+bq (az zs L.2.1).2.1 (tb (az zs L.2.1)).2 k)%86400):=by unfold cL;rw[show j1V (tb (az zs L.2.1)) t=_ from Dv hz.ztab.2 hk k1 k2];rfl
       have o0:=hz.ztab.2.of0 k hk;have o1:=hz.ztab.2.of1 k hk;have lJ:gf (cL (az zs L.2.1) t)=(t+bq (az zs L.2.1).2.1 (tb (az zs L.2.1)).2 k+259200)%604800:=by rw[Al];simp only[gf,Du];have o0' : -64800<=bq (az zs L.2.1).2.1 (tb (az zs L.2.1)).2 k:=o0;have o1':bq (az zs L.2.1).2.1 (tb (az zs L.2.1)).2 k<=64800:=o1;rw[KU _ aa];simp only[j4,kp];generalize bq (az zs L.2.1).2.1 (tb (az zs L.2.1)).2 k=o at *;simp(disch:=omega)only[S0];omega
       rw[lJ];unfold okW;rw[ai hw];rfl
      .have:L.2.2.2.2.2.2.1.length*(M+1)*((tb (az zs L.2.1)).2.length+1)<=L.2.2.2.2.2.2.1.length*(M+1)*5:=vj _ aa;grind[az]
     .refine⟨[(c,b)],λh=>absurd h hw,λ_=>rfl,⟨by dsimp only;omega,NN,trivial⟩,λt h=>?_,λt h1 h2=>?_,ae⟩;all_goals grind[dD,iE,okW]
    have hA7:A.length<=30000:=by have:L.2.2.2.2.2.2.1.length*(M+1)<=14*61:=qi Au aa;omega
    have fV:∀out:SL,bU (c-1) out->(∀t,bN t out->t<b)->(∀t,c<=t->t<b->(bN t out↔bN t A/\jB zs cs L t=S))->bU (a-1) out/\∀t,bN t out↔a<=t/\t<b/\gx zs cs L t=true:=λout h1 h2 h3=>by
     refine⟨h1.weak aa,λt=>⟨λhx=>?_,λ⟨g1,g2,g3⟩=>?_⟩⟩
     .have l1:=bU.low h1 hx;grind[gx]
     .have hk:=Lf g3;have wc:=(hq t).1 ((rM t g1 g2).1 hk);have Ī:c<=t:=by omega
      refine(h3 t Ī g2).2 ⟨(hA5 t Ī g2).2 ?_,?_⟩
      .grind[gx]
      .unfold gx at g3;grind
    by_cases hm:L.2.2.2.2.2.2.2.2=0
    .have cV:=fV A UD UE (λt _ _=>by grind[jB]);rw[cU (show¬L.2.2.2.2.2.2.2.2=1 by omega),cU (show¬L.2.2.2.2.2.2.2.2=2 by omega),if_pos hm];simp only[j7];by_cases hw:(L.2.2.2.2.2.2.1.length:F)>0
     .simp(disch:=omega)only[show j7b ((tb (zs.getD L.2.1.toNat (E,((0:F),([]:G aO))))).1,(tb (zs.getD L.2.1.toNat (E,((0:F),([]:G aO))))).2) L.2.2.2.2.2.2.1 c b=_ from G2 hw,S0];exact⟨A,rfl,cV.1,cV.2,aa⟩
     .simp(disch:=omega)only[<-rz hw,S0];exact⟨A,rfl,cV.1,cV.2,aa⟩
    .have cI:=hL.cal hm;have hx:=mR hs cI.1 cI.2;have nh:=eG hs.ok hx.z0 hx.z1;have G3:(tb (az zs (eI cs L.2.2.2.2.2.2.2.1).2.1)).2.length<=4:=Bv nh;obtain⟨D,e2,d1,d2,d3⟩:=jHg hs hx (ss:=ss) (a:=c) (b:=b) aa aa hb rfl
     have pD:D.length<=(eI cs L.2.2.2.2.2.2.2.1).2.2.length*5:=kf d2 (vj _ (by
      grind[az,eI]))
     have hDl2:D.length<=2000:=by grind[nk.len,eI]
     have ī:∀t,c<=t->t<b->(bN t D↔(cL (az zs (eI cs L.2.2.2.2.2.2.2.1).2.1) t).1∈(eI cs L.2.2.2.2.2.2.2.1).2.2):=λt h1 h2=>d3 t _ h1 h2 (UB nh aa aa).1;rw[if_neg hm,bL cI.1 cI.2];have G4:L.2.2.2.2.2.2.2.2=1\/L.2.2.2.2.2.2.2.2=2:=by have:=hL.mode0;have:=hL.mode1;omega
     rcases G4 with gg|hQ
     .obtain⟨out,e3,w1,w2,w3⟩:=Uw aa UD d1 aa
      have cV:=fV out w1 (λt h=>UE t ((w2 t).1 h).1) (λt h1 h2=>by
       rw[w2 t,ī t h1 h2];unfold jB;simp(disch:=omega)only[S0];simp)
      rw[dR gg];simp only[j6];by_cases hw:(L.2.2.2.2.2.2.1.length:F)>0
      .rw[sx L.2.2.2.2.2.2.1,ai hw,j6,show j7b ((tb (zs.getD L.2.1.toNat (E,((0:F),([]:G aO))))).1,(tb (zs.getD L.2.1.toNat (E,((0:F),([]:G aO))))).2) L.2.2.2.2.2.2.1 c b=_ from G2 hw];simp only[j4];refine⟨out,?_,cV.1,cV.2,aa⟩;grind
      .rw[sx L.2.2.2.2.2.2.1,aC hw,j7,<-rz hw];refine⟨out,?_,cV.1,cV.2,aa⟩;grind
     .obtain⟨out,e3,w1,w2,w3⟩:=jCJ UD d1 aa aa
      have cV:=fV out w1 (λt h=>UE t ((w2 t).1 h).1) (λt h1 h2=>by
       rw[w2 t,ī t h1 h2];unfold jB;rw[cU hm,dR hQ,j7];simp)
      rw[cU (show¬L.2.2.2.2.2.2.2.2=1 by omega),dR hQ];simp only[j6,j7];by_cases hw:(L.2.2.2.2.2.2.1.length:F)>0
      .rw[sx L.2.2.2.2.2.2.1,ai hw,j6,show j7b ((tb (zs.getD L.2.1.toNat (E,((0:F),([]:G aO))))).1,(tb (zs.getD L.2.1.toNat (E,((0:F),([]:G aO))))).2) L.2.2.2.2.2.2.1 c b=_ from G2 hw];simp only[j4];refine⟨out,?_,cV.1,cV.2,aa⟩;grind
      .rw[sx L.2.2.2.2.2.2.1,aC hw,j7,<-rz hw];refine⟨out,?_,cV.1,cV.2,aa⟩;grind
end
theorem jEJ(l:bM)(x y:mh):(l++[x]).set l.length y=l++[y]:=by
 rw[zq _ _ (jh _)];simp
theorem Ĭ(out:bM)(s:mh):(lL out s).length<=out.length+1:=by
 unfold lL;split
 .omega
 .rcases ze out with rfl|⟨l,u,rfl⟩
  .simp
  .rw[zf,Y];simp only[vp,Â];split
   .simp
   .simp
theorem ĭ:∀(l out:bM),(l.foldl lL out).length<=out.length+l.length
 |[],out=>ae
 |s::r,out=>by
  have:=ĭ r (lL out s);have:=Ĭ out s;simp only[zr,jf];omega
theorem Į{l:bM}(hl:l.length<=1000000000):∀(n i:X)(out:bM),i+n=l.length->out.length<=i->F6 l (l.length:F) (i:F) out=H ((l.drop i).foldl lL out)
 |0,i,out,hi,ho=>by
  rw[_g];simp(disch:=omega)only[j6c,U,S0];rfl
 |n+1,i,out,hi,ho=>by
  have bG:i<l.length:=aa;have br:l.getD i ((0:F),((0:F),(0:F)))=l[i]:=by simp[W,bG]
  have ih:∀wY:bM,wY=lL out l[i]->F6 l (l.length:F) ((i:F)+1) wY=H ((l.drop i).foldl lL out):=λwY he=>by
   rw[I bG,zr,<-he];have:=Ĭ out l[i];exact Į hl n (i+1) wY aa (by rw[he];omega)
  rw[_g];simp only[j6c];rw[ai aa,cB];simp only[j6,j8,br,show R out.length=(out.length:F) from rfl];rw[aQ (x:=(i:F)+1)];generalize l[i]=s at *;by_cases hs:s.2.1<=s.1
  .rw[ai hs,j6,bg];exact ih _ (by unfold lL;rw[if_pos hs])
  .rw[aC hs,j7];rcases ze out with rfl|⟨o,u,rfl⟩
   .simp(disch:=omega)only[S0];exact ih _ (by unfold lL;rw[if_neg hs];rfl)
   .rw[zf]at ih ho ⊢;have Ao:(o++[u]).length=o.length+1:=ae;rw[Ao]at ho;have kP:(o++[u]).getD o.length ((0:F),((0:F),(0:F)))=u:=by simp[W]
    rw[Ao,ai (show ((o.length+1:X):F)>0 by omega),j6,aQ (x:=((o.length+1:X):F)-1),show ((o.length+1:X):F)-1=(o.length:F) by omega,cB];simp only[j6,j8,kP];have UF:lL (o++[u]) s=if u.2.1=s.1/\u.2.2=s.2.2 then o++[(u.1,(s.2.1,u.2.2))] else (o++[u])++[s]:=by unfold lL;rw[if_neg hs,Y];simp only[vp,Â,List.dropLast_concat]
    by_cases h1:u.2.1=s.1
    .rw[dR h1,j6];by_cases h2:u.2.2=s.2.2
     .rw[dR h2,j6,bg,jEJ];exact ih _ (by rw[UF,if_pos ⟨h1,h2⟩])
     .rw[cU h2,j7,ai (show o.length+1+[(s.1,(s.2.1,s.2.2))].length<=aK by simp[aK];omega),j6,bg];exact ih _ (by rw[UF,if_neg (λh=>h2 h.2)])
    .rw[cU h1,j7,ai (show o.length+1+[(s.1,(s.2.1,s.2.2))].length<=aK by simp[aK];omega),j6,bg];exact ih _ (by rw[UF,if_neg (λh=>h1 h.1)])
theorem jCP{l:bM}(hl:l.length<=1000000000):jc5 l=H (l.foldl lL []):=by
 simp(disch:=omega)only[jc5,S0];rw[show F6 l (l.length:F) 0 []=_ from Į hl l.length 0 [] aa ae];rfl
theorem UG{f:F->F}{a b:F}{l:bM}(hl:l.length<=1000000000)(h:Ch f b a l):∃out,jc5 l=H out/\dG f b Ä a out/\out.length<=l.length:=
 ⟨_,jCP hl,h.cov,by have:=ĭ l [];simpa using this⟩
section
variable{zs:G bB}{ps:G cZ}{cs:G aY}(hs:kS zs ps cs)
include hs
theorem Lg{L:bt}(hL:ic zs.length ps.length cs.length L){t u:F}(h0:0<=t)(Bw:t<=u)(h1:u<=8589934592):bY (az zs L.2.1) L t<=bY (az zs L.2.1) L u:=by
 have hz:=eG hs.ok hL.z0 hL.z1;have a:=(sj hz hL.rt2 (t:=t) h0 aa).2;have b:=(sj hz hL.rt2 (t:=u) aa h1).2;show bY (az zs L.2.1) L t<=bY (az zs L.2.1) L u;have a':lK (az zs L.2.1).2.1 (tb (az zs L.2.1)).2 L t (bY (az zs L.2.1) L t):=a;have b':lK (az zs L.2.1).2.1 (tb (az zs L.2.1)).2 L u (bY (az zs L.2.1) L u):=b;generalize bY (az zs L.2.1) L t=K at *;generalize bY (az zs L.2.1) L u=K' at *;rcases a' with⟨a1,a2⟩|⟨a1,⟨v,hv,wc⟩,a3⟩<;>rcases b' with⟨b1,b2⟩|⟨b1,b2,b3⟩
 .omega
 .omega
 .exact absurd (QO.le hz.ztab.2 hL.rt2 a1 ⟨v,hv,aa⟩) b2
 .apply jt;intro hn;exact b3 (QO.le hz.ztab.2 hL.rt2 (show K'+1<=K by omega) ⟨v,hv,aa⟩)
def DB(z:bB)(L:bt)(k nx t:F):Prop:=t<nx->(∀u,t<=u->u<nx->u<=8589934592->bY z L u=k)/\(nx<=8589934592->k<bY z L nx)
theorem jHh{L:bt}(hL:ic zs.length ps.length cs.length L){t:F}(h0:0<=t)(h1:t<=8589934592)(hk:0<=bY (az zs L.2.1) L t){v:F}{ok:Bool}
  (hv:j0N (tb (az zs L.2.1)) L (bY (az zs L.2.1) L t+1)=H (v,ok)):t<(cond ok v 8589934593)/\DB (az zs L.2.1) L (bY (az zs L.2.1) L t) (cond ok v 8589934593) t:=by
 have hz:=eG hs.ok hL.z0 hL.z1;have a:=(sj hz hL.rt2 (t:=t) h0 h1).2;have a':lK (az zs L.2.1).2.1 (tb (az zs L.2.1)).2 L t (bY (az zs L.2.1) L t):=a;have hu:∀u,t<=u->u<=8589934592->lK (az zs L.2.1).2.1 (tb (az zs L.2.1)).2 L u (bY (az zs L.2.1) L u):=λu _ h2=>(sj hz hL.rt2 (t:=u) aa h2).2;generalize hK:bY (az zs L.2.1) L t=K at *;rcases a' with⟨a1,a2⟩|⟨a1,⟨w,hw,hwt⟩,a3⟩
 .omega
 .have tq:=wX hz.ztab.2 hL.rt2 a1 hw;obtain⟨v',ev,gP⟩:=px hz.ztab.2 hL.rt2 (k:=K+1) aa aa;have:=ev.symm.trans hv;simp only[j5,j9]at this;obtain⟨rfl,rfl⟩:=this;cases hh:hO (zs.getD L.2.1.toNat (E,((0:F),([]:G aO)))).2.1 (tb (zs.getD L.2.1.toNat (E,((0:F),([]:G aO))))).2 L (K+1) with
  |none=>
   simp only[qf,j7]
   exact⟨aa,λ_=>⟨λu h2 h3 h4=>lK.uniq hz.ztab.2 hL.rt2 (hu u h2 h4) (.inr ⟨a1,⟨w,hw,aa⟩,λ⟨x,hx,_⟩=>by
    have iV:=hh.symm.trans hx;simp at iV⟩),λh=>aa⟩⟩
  |some x=>
   have:=gP x hh;subst this;simp only[qg,j6]
   refine⟨?_,λ_=>⟨λu h2 h3 h4=>lK.uniq hz.ztab.2 hL.rt2 (hu u h2 h4) (.inr ⟨a1,⟨w,hw,aa⟩,λ⟨x,hx,kR⟩=>by
    have iV:=hh.symm.trans hx;simp only[j5]at iV;omega⟩),λhle=>?_⟩⟩
   rotate_left
   .have UH:v'<=8589934592:=hle;have Cw:t<=v':=by apply jt;intro hn;exact a3 ⟨_,hh,aa⟩
    have b':=hu v' Cw UH;rcases b' with⟨b1,b2⟩|⟨b1,b2,b3⟩
    .exact absurd (QO.le hz.ztab.2 hL.rt2 (show (0:F)<=K+1 by omega) ⟨_,hh,jx _⟩) b2
    .apply jt;intro hn;exact b3 (QO.le hz.ztab.2 hL.rt2 (show bY (az zs L.2.1) L v'+1<=K+1 by omega) ⟨_,hh,jx _⟩)
   apply jt;intro hn;exact a3 ⟨_,hh,aa⟩
theorem jIT{L:bt}(hL:ic zs.length ps.length cs.length L){k:F}(hk:0<=k):∃_:(O k (L.2.2.2.2.2.1.length:F)).toNat<L.2.2.2.2.2.1.length,0<=O k (L.2.2.2.2.2.1.length:F)/\O k (L.2.2.2.2.2.1.length:F)<(L.2.2.2.2.2.1.length:F)/\L.2.2.2.2.2.1.getD (O k (L.2.2.2.2.2.1.length:F)).toNat 0=ue L k:=by
 have _:=hs;have sf:=hL.m0;have q1:0<=O k (L.2.2.2.2.2.1.length:F):=vw _ hk;have q2:O k (L.2.2.2.2.2.1.length:F)<(L.2.2.2.2.2.1.length:F):=zm _ aa;exact⟨aa,q1,q2,rfl⟩
theorem į{L:bt}(hL:ic zs.length ps.length cs.length L){a b e p m j:F}{sp:SL}(ha:0<=a)(he:e<=8589934592){B:F}(hB:B<=1000000):∀(n:X)(t k nx:F)(acc:bM),e-t=n->a<=t->
  (∀u,t<=u->u<e->gx zs cs L u=S)->DB (az zs L.2.1) L k nx t->Ch (cE zs cs L) t a acc->(t<e->(acc.length:F)<=B+bY (az zs L.2.1) L t)->
  (t=e->a<e->(acc.length:F)<=B+1+bY (az zs L.2.1) L (e-1))->
  ∃k' mU bd,JB b t k nx m j L.1 L.2.1 L.2.2.1.1 L.2.2.1.2 L.2.2.2.1 L.2.2.2.2.1 L.2.2.2.2.2.1 L.2.2.2.2.2.2.1 L.2.2.2.2.2.2.2.1 L.2.2.2.2.2.2.2.2 (tb (az zs L.2.1)).1 (tb (az zs L.2.1)).2 p e acc sp=
   H (b,e,k',mU,m,j,L.1,L.2.1,L.2.2.1.1,L.2.2.1.2,L.2.2.2.1,L.2.2.2.2.1,L.2.2.2.2.2.1,L.2.2.2.2.2.2.1,L.2.2.2.2.2.2.2.1,L.2.2.2.2.2.2.2.2,(tb (az zs L.2.1)).1,(tb (az zs L.2.1)).2,bd,sp)/\
   DB (az zs L.2.1) L k' mU e/\Ch (cE zs cs L) e a bd/\(a<e->(bd.length:F)<=B+1+bY (az zs L.2.1) L (e-1))
 |n,t,k,nx,acc,hn,tq,ov,hc,nW,hl,uD=>by
  have hz:=eG hs.ok hL.z0 hL.z1;rw[jh8];simp only[j3S];by_cases dJ:t<e
  .rw[ai dJ,j6];have UI:=ov t (jx _) dJ;obtain⟨eK,hK⟩:j6b (tb (az zs L.2.1)) L t=H (bY (az zs L.2.1) L t)/\lK (az zs L.2.1).2.1 (tb (az zs L.2.1)).2 L t (bY (az zs L.2.1) L t):=sj hz hL.rt2 (t:=t) aa aa;have ni:0<=bY (az zs L.2.1) L t:=Lf UI
   have qU:bY (az zs L.2.1) L t<=2386092:=by
    have hK':lK (az zs L.2.1).2.1 (tb (az zs L.2.1)).2 L t (bY (az zs L.2.1) L t):=hK;rcases hK' with⟨h1,_⟩|⟨h1,⟨w,hw,_⟩,_⟩
    .omega
    .exact(wX hz.ztab.2 hL.rt2 h1 hw).2.2
   obtain⟨_,q1,q2,q3⟩:=jIT hs hL ni;have sf:=hL.m0;have ao:=hl dJ
   have step:∀mU:F,t<mU->DB (az zs L.2.1) L (bY (az zs L.2.1) L t) mU t->∀bd:bM,bd=acc++[(t,((if mU<e then mU else e),ue L (bY (az zs L.2.1) L t)))]->
     ∃İ G5 uf,JB b (if mU<e then mU else e) (bY (az zs L.2.1) L t) mU m j L.1 L.2.1 L.2.2.1.1 L.2.2.1.2 L.2.2.2.1 L.2.2.2.2.1 L.2.2.2.2.2.1 L.2.2.2.2.2.2.1 L.2.2.2.2.2.2.2.1 L.2.2.2.2.2.2.2.2 (tb (az zs L.2.1)).1 (tb (az zs L.2.1)).2 p e bd sp=
      H (b,e,İ,G5,m,j,L.1,L.2.1,L.2.2.1.1,L.2.2.1.2,L.2.2.2.1,L.2.2.2.2.1,L.2.2.2.2.2.1,L.2.2.2.2.2.2.1,L.2.2.2.2.2.2.2.1,L.2.2.2.2.2.2.2.2,(tb (az zs L.2.1)).1,(tb (az zs L.2.1)).2,uf,sp)/\
      DB (az zs L.2.1) L İ G5 e/\Ch (cE zs cs L) e a uf/\(a<e->(uf.length:F)<=B+1+bY (az zs L.2.1) L (e-1)):=by
    rintro mU Lh dO _ rfl
    obtain⟨t',Ci,h1,h2,h3,h4⟩:∃t':F,t'=(if mU<e then mU else e)/\t<t'/\t'<=e/\t'<=mU/\(t'<e->t'=mU):=⟨_,rfl,by split<;>omega,by split<;>omega,by split<;>omega,λh=>by
     by_cases hx:mU<e
     .rw[if_pos hx]
     .rw[if_neg hx]at h;omega⟩
    rw[<-Ci]
    refine į hL ha he hB (e-t').toNat t' (bY (az zs L.2.1) L t) mU _ aa aa (λu u1 u2=>ov u aa u2) (λh5=>⟨λu u1 u2 u3=>(dO Lh).1 u aa u2 u3,(dO Lh).2⟩)
     (nW.snoc aa (λu u1 u2=>?_)) (λlg=>?_) (λheq _=>?_)
    .unfold cE;rw[ov u u1 aa,(dO Lh).1 u u1 aa aa];rfl
    .have hm:=Lg hs hL (t:=t) (u:=t') aa aa aa;have bD:bY (az zs L.2.1) L t<bY (az zs L.2.1) L t':=by have:=h4 lg;subst this;exact(dO Lh).2 aa
     simp only[J,kn];omega
    .have hm:=Lg hs hL (t:=t) (u:=e-1) aa aa aa;simp only[J,kn];omega
   by_cases ı:t>=nx
   .rw[ai ı,j6];rw[show j6b ((tb (az zs L.2.1)).1,(tb (az zs L.2.1)).2) (L.1,L.2.1,(L.2.2.1.1,L.2.2.1.2),L.2.2.2.1,L.2.2.2.2.1,L.2.2.2.2.2.1,L.2.2.2.2.2.2.1,L.2.2.2.2.2.2.2.1,L.2.2.2.2.2.2.2.2) t=_ from eK];simp only[j4];rw[aQ (x:=bY (az zs L.2.1) L t+1)];obtain⟨v,ev,_⟩:=px hz.ztab.2 hL.rt2 (k:=bY (az zs L.2.1) L t+1) aa aa;have gZ:=jHh hs hL (t:=t) aa aa ni ev;rw[show j0N ((tb (az zs L.2.1)).1,(tb (az zs L.2.1)).2) (L.1,L.2.1,(L.2.2.1.1,L.2.2.1.2),L.2.2.2.1,L.2.2.2.2.1,L.2.2.2.2.2.1,L.2.2.2.2.2.2.1,L.2.2.2.2.2.2.2.1,L.2.2.2.2.2.2.2.2) (bY (az zs L.2.1) L t+1)=_ from ev];simp only[j4,show R L.2.2.2.2.2.1.length=(L.2.2.2.2.2.1.length:F) from rfl];rw[cU (show¬(L.2.2.2.2.2.1.length:F)=0 by omega),bL q1 q2];have cO:∀x:mh,acc.length+[x].length<=aK:=λx=>by simp[aK];omega
    revert gZ
    generalize (hO (zs.getD L.2.1.toNat (E,((0:F),([]:G aO)))).2.1 (tb (zs.getD L.2.1.toNat (E,((0:F),([]:G aO))))).2 L (bY (az zs L.2.1) L t+1)).isSome=ok
    cases ok with
    |false=>intro gZ;simp only[jv,j6];rw[ai (cO _),j6,bg];exact step 8589934593 gZ.1 gZ.2 _ (by rw[q3])
    |true=>intro gZ;simp only[jg,jv,j7,j6];rw[ai (cO _),j6,bg];exact step v gZ.1 gZ.2 _ (by rw[q3])
   .have hk:=(hc aa).1 t (jx _) aa aa;subst hk;rw[aC ı,j7];simp only[show R L.2.2.2.2.2.1.length=(L.2.2.2.2.2.1.length:F) from rfl];rw[cU (show¬(L.2.2.2.2.2.1.length:F)=0 by omega),bL q1 q2];simp only[jv,j6];rw[ai (show acc.length+[_].length<=aK by simp[aK];omega),j6,bg];exact step nx aa hc _ (by rw[q3])
  .have UJ:t=e:=aa;subst UJ;rw[aC dJ,j7,bV];exact⟨k,nx,acc,rfl,hc,nW,uD rfl⟩
 termination_by n=>n
theorem Ĳ{L:bt}(hL:ic zs.length ps.length cs.length L){a b:F}(ha:0<=a)(hb:b<=8589934592){A:SL}(hA:A.length<=400000)(rz:∀t,bN t A↔a<=t/\t<b/\gx zs cs L t=S)
  {k0:F}{N:X}(hN:N<=4000000)(ni : -1<=k0)(Dy:∀t,a<=t->t<b->gx zs cs L t=S->k0<=bY (az zs L.2.1) L t/\bY (az zs L.2.1) L t<=k0+N) :
  ∀(n j:X)(t k nx Kc:F)(acc:bM),j+n=A.length->a<=t->t<=b->bU (t-1) (A.drop j)->(∀u,t<=u->(bN u A↔bN u (A.drop j)))->DB (az zs L.2.1) L k nx t->Ch (cE zs cs L) t a acc->
   k0<=Kc->Kc<=k0+N->(∀u,t<=u->bN u A->Kc<=bY (az zs L.2.1) L u)->(acc.length:F)<=2*j+(Kc-k0)->
  ∃t' bd,JC b t k nx (A.length:F) (j:F) L.1 L.2.1 L.2.2.1.1 L.2.2.1.2 L.2.2.2.1 L.2.2.2.2.1 L.2.2.2.2.2.1 L.2.2.2.2.2.2.1 L.2.2.2.2.2.2.2.1 L.2.2.2.2.2.2.2.2 (tb (az zs L.2.1)).1 (tb (az zs L.2.1)).2 acc A=H (b,t',bd)/\
   Ch (cE zs cs L) b a (bd++[(t',(b, -1))])/\bd.length<=2*A.length+N
 |0,j,t,k,nx,Kc,acc,hj,tq,ĳ,aW,iL,hc,nW,hK1,hK2,Ĵ,hl=>by
  rw[_i];simp(disch:=omega)only[j2B,S0];refine⟨t,acc,rfl,nW.snoc ĳ (λu u1 u2=>?_),aa⟩
  have:gx zs cs L u=false:=by
   cases ho:gx zs cs L u with
   |false=>rfl
   |true=>have:=(iL u u1).1 ((rz u).2 ⟨aa,u2,ho⟩);rw[U aa]at this;exact absurd this iE
  unfold cE;rw[this];rfl
 |n+1,j,t,k,nx,Kc,acc,hj,tq,ĳ,aW,iL,hc,nW,hK1,hK2,Ĵ,hl=>by
  have jQ:j<A.length:=aa;have br:A.getD j ((0:F),(0:F))=A[j]:=by simp[W,jQ]
  rw[I jQ]at aW iL;obtain⟨s1,s2,s3⟩:=aW;have ov:∀u,A[j].1<=u->u<A[j].2->bN u A:=λu u1 u2=>(iL u aa).2 (dD.2 (.inl ⟨u1,u2⟩));have rN:=(rz A[j].1).1 (ov _ (jx _) s2);have xr:=(rz (A[j].2-1)).1 (ov _ aa aa);have hKj:=Ĵ A[j].1 aa (ov _ (jx _) s2);rw[_i];simp(disch:=omega)only[j2B,S0]
  obtain⟨k',mU,bd,e2,c2,h2,l2⟩:=į hs hL (a:=a) (b:=b) (e:=A[j].2) (p:=A[j].1) (m:=(A.length:F)) (j:=(j:F)) (sp:=A) ha aa (B:=2*j+1-k0) aa (A[j].2-A[j].1).toNat A[j].1 k nx
   (acc++[(t,(A[j].1, -1))]) aa aa (λu u1 u2=>((rz u).1 (ov u u1 u2)).2.2) (λh5=>by
    have h6:=hc aa;exact⟨λu u1 u2 u3=>h6.1 u aa u2 u3,h6.2⟩) (nW.snoc aa (λu u1 u2=>by
    have:gx zs cs L u=false:=by
     cases ho:gx zs cs L u with
     |false=>rfl
     |true=>
      have:=(iL u u1).1 ((rz u).2 ⟨aa,aa,ho⟩);rcases dD.1 this with h|h
      .omega
      .have:=bU.low s3 h;omega
    unfold cE;rw[this];rfl)) (λ_=>by rw[J,kn];omega) (λh=>aa)
  rw[e2];simp only[j4];rw[aQ (x:=(j:F)+1),bg];have uD:=l2 aa;have hr:=Dy (A[j].2-1) aa aa xr.2.2
  exact Ĳ hL ha hb hA rz hN ni Dy n (j+1) A[j].2 k' mU (bY (az zs L.2.1) L (A[j].2-1)) bd aa aa aa (s3.weak aa) (λu hu=>by
   rw[iL u aa,dD]
   exact⟨λh=>by
    rcases h with h|h
    .omega
    .exact h,.inr⟩) c2 h2 hr.1 hr.2 (λu hu UK=>by
   have:=(rz u).1 UK;exact Lg hs hL aa aa aa) aa
theorem jHi{L:bt}(hL:ic zs.length ps.length cs.length L){ss:G bW}{a b:F}(ha:0<=a)(bH:a<=b)(hb:b<=8589934592){M:X}(hM:M<=60)(hlen:b-a<=604800*M)
  {k0:F}{N:X}(hN:N<=4000000)(ni : -1<=k0)(Dy:∀t,a<=t->t<b->gx zs cs L t=S->k0<=bY (az zs L.2.1) L t/\bY (az zs L.2.1) L t<=k0+N) :
  ∃out,j3s ((zs,(ps,(cs,ss))),zs.map tb) L a b=H out/\dG (cE zs cs L) b Ä a out/\
   out.length<=2*(L.2.2.2.2.2.2.1.length*(M+1)*5+1+(if L.2.2.2.2.2.2.2.2=0 then 0 else (eI cs L.2.2.2.2.2.2.2.1).2.2.length*5))+N+1:=by
 have fT:(zs.map tb).length=zs.length:=ki ..;have hg:=Ld (zs:=zs) hL.z0 hL.z1;obtain⟨A,e1,s1,s2,s3⟩:=jCM hs hL (ss:=ss) ha bH hb hM hlen
 have ĵ:A.length<=400000:=by
  have h1:L.2.2.2.2.2.2.1.length*(M+1)<=14*61:=qi hL.wl aa;by_cases hm:L.2.2.2.2.2.2.2.2=0
  .rw[if_pos hm]at s3;omega
  .rw[if_neg hm]at s3;have hx:=(mR hs (hL.cal hm).1 (hL.cal hm).2).len;have G6:(eI cs L.2.2.2.2.2.2.2.1).2.2.length<=64:=hx;omega
 obtain⟨t',acc,e2,h2,l2⟩:=Ĳ hs hL ha hb ĵ s2 hN ni Dy A.length 0 a (-1) (-1) k0 [] aa (jx _) bH s1 (λu _=>ae) (λh=>aa) rfl (jx _) aa (λu hu UK=>by
  have:=(s2 u).1 UK;exact(Dy u this.1 this.2.1 this.2.2).1) ae
 obtain⟨out,e3,h3,l3⟩:=UG (l:=acc++[(t',(b, -1))]) (by rw[J,kn];omega) h2;refine⟨out,?_,h3,by rw[J,kn]at l3;omega⟩;simp only[j3s];rw[bL hL.z0 (by rw[fT];exact hL.z1)];simp only[j6,hg];rw[show j8D ((zs,(ps,(cs,ss))),zs.map tb) (L.1,L.2.1,(L.2.2.1.1,L.2.2.1.2),L.2.2.2.1,L.2.2.2.2.1,L.2.2.2.2.2.1,L.2.2.2.2.2.2.1,L.2.2.2.2.2.2.2.1,L.2.2.2.2.2.2.2.2) a b=_ from e1];simp only[j4,show R A.length=(A.length:F) from rfl];rw[show JC b a (-1) (-1) (A.length:F) 0 L.1 L.2.1 L.2.2.1.1 L.2.2.1.2 L.2.2.2.1 L.2.2.2.2.1 L.2.2.2.2.2.1 L.2.2.2.2.2.2.1 L.2.2.2.2.2.2.2.1 L.2.2.2.2.2.2.2.2 (tb (zs.getD L.2.1.toNat (E,((0:F),([]:G aO))))).1 (tb (zs.getD L.2.1.toNat (E,((0:F),([]:G aO))))).2 [] A=_ from e2];simp only[j4];rw[ai (show acc.length+[_].length<=aK by simp[aK];omega),j6,e3];rfl
end
section
variable{zs:G bB}{ps:G cZ}{cs:G aY}(hs:kS zs ps cs)
include hs
omit hs in
theorem ou.near{o:F}{l:bm}(h:ix o l){s t:F}{k:X}(f:ou o l s t k)(hs:0<=s):s-64800<=t/\t<=s+64800:=by
 obtain⟨p1,p2,p3⟩:=f.piece h;have hk:=f.hk;have o1:=h.of1 k hk;have o0:=h.of0 k hk;have ht:=f.ht;refine⟨aa,?_⟩;by_cases h0:k=0
 .subst h0;have e0:aV l 0=0:=lE;omega
 .obtain⟨j,rfl⟩:∃j,k=j+1:=⟨k-1,aa⟩;have b:=f.bef j aa;have o2:=h.of0 j aa;omega
theorem jHj{L:bt}(hL:ic zs.length ps.length cs.length L){t u:F}(h0:0<=t)(Bw:t<=u)(h1:u<=8589934592):bY (az zs L.2.1) L u<=bY (az zs L.2.1) L t+(u-t)/3600+8:=by
 have hz:=eG hs.ok hL.z0 hL.z1;have aW:=hL.rt2.step;have uN:=hL.rt2.e0;have ij:=hL.c0;have hd:=hL.d0;have a':lK (az zs L.2.1).2.1 (tb (az zs L.2.1)).2 L t (bY (az zs L.2.1) L t):=(sj hz hL.rt2 (t:=t) h0 aa).2;have b':lK (az zs L.2.1).2.1 (tb (az zs L.2.1)).2 L u (bY (az zs L.2.1) L u):=(sj hz hL.rt2 (t:=u) aa h1).2;generalize bY (az zs L.2.1) L t=K at *;generalize bY (az zs L.2.1) L u=K' at *;have hK : -1<=K:=by rcases a' with⟨h,_⟩|⟨h,_⟩<;>omega
 have hn:¬QO (az zs L.2.1).2.1 (tb (az zs L.2.1)).2 L t (K+1):=by
  rcases a' with⟨h,h2⟩|⟨_,_,h2⟩
  .rw[h];exact h2
  .exact h2
 by_cases hKK:K'<=K+1
 .omega
 .rcases b' with⟨h,_⟩|⟨hK0,⟨v,hv,hvu⟩,_⟩
  .omega
  .obtain⟨w,hw,hwu⟩:QO (az zs L.2.1).2.1 (tb (az zs L.2.1)).2 L u (K+1):=QO.le hz.ztab.2 hL.rt2 (show K+1<=K' by omega) ⟨v,hv,hvu⟩;have hwt:t<w:=by apply jt;intro hx;exact hn ⟨w,hw,aa⟩
   have hm:3600*(K'-(K+1))<=3600*L.2.2.2.2.1*(K'-(K+1)):=Int.mul_le_mul_of_nonneg_right aa aa;by_cases hu:L.2.2.2.1=0
   .unfold hO at hv hw;rw[if_pos hu]at hv hw;cases hf:fO (az zs L.2.1).2.1 (tb (az zs L.2.1)).2 (dv L 0) with
    |none=>rw[hf]at hv;simp at hv
    |some x=>
     rw[hf]at hv hw;simp only[j4]at hv hw;split at hv
     .split at hw
      .simp only[j5]at hv hw;have e:3600*L.2.2.2.2.1*(K'-(K+1))=3600*L.2.2.2.2.1*K'-3600*L.2.2.2.2.1*(K+1):=Int.mul_sub ..;omega
      .simp at hw
     .simp at hv
   .unfold hO at hv hw;rw[if_neg hu]at hv hw;obtain⟨k1,f1⟩:=K9 hv;obtain⟨k2,f2⟩:=K9 hw;have e:(K'-(K+1))*dF L=K'*dF L-(K+1)*dF L:=Int.sub_mul ..;have hQ:(K'-(K+1))*1<=(K'-(K+1))*dF L:=Int.mul_le_mul_of_nonneg_left aW.1 aa;have Ϲ:0<=(K+1)*dF L:=Int.mul_nonneg aa aa;have g1:=f1.near hz.ztab.2 (by unfold dv;omega);have g2:=f2.near hz.ztab.2 (by unfold dv;omega);unfold dv at g1 g2;omega
theorem jCQ{L:bt}(hL:ic zs.length ps.length cs.length L){a b:F}(ha:0<=a)(hb:b<=8589934592):∀t,a<=t->t<b->gx zs cs L t=S->bY (az zs L.2.1) L a<=bY (az zs L.2.1) L t/\bY (az zs L.2.1) L t<=bY (az zs L.2.1) L a+(((b-a)/3600+8).toNat:F):=λt h1 h2 _=>by
 have e1:=Lg hs hL (t:=a) (u:=t) ha h1 aa;have e2:=jHj hs hL (t:=a) (u:=t) ha h1 aa;omega
theorem jJW{L:bt}(hL:ic zs.length ps.length cs.length L){t:F}(h0:0<=t)(h1:t<=8589934592) : -1<=bY (az zs L.2.1) L t:=by
 have hz:=eG hs.ok hL.z0 hL.z1;have a':lK (az zs L.2.1).2.1 (tb (az zs L.2.1)).2 L t (bY (az zs L.2.1) L t):=(sj hz hL.rt2 (t:=t) h0 h1).2;rcases a' with⟨h,_⟩|⟨h,_⟩<;>omega
theorem Ķ{L:bt}(hL:ic zs.length ps.length cs.length L){ss:G bW}{a b:F}(ha:0<=a)(bH:a<=b)(hb:b<=8589934592)(hlen:b-a<=35078400) :
  ∃out,j3s ((zs,(ps,(cs,ss))),zs.map tb) L a b=H out/\dG (cE zs cs L) b Ä a out/\out.length<=30000:=by
 obtain⟨out,e,h1,h2⟩:=jHi hs hL (ss:=ss) ha bH hb (M:=58) aa aa (N:=((b-a)/3600+8).toNat) aa (jJW hs hL ha aa) (jCQ hs hL ha hb);refine⟨out,e,h1,?_⟩;have hw:L.2.2.2.2.2.2.1.length*(58+1)*5<=14*59*5:=k5 _ (k5 _ hL.wl)
 have hc:(if L.2.2.2.2.2.2.2.2=0 then 0 else (eI cs L.2.2.2.2.2.2.2.1).2.2.length*5)<=64*5:=by
  by_cases hm:L.2.2.2.2.2.2.2.2=0
  .rw[if_pos hm];omega
  .rw[if_neg hm];exact k5 _ (mR hs (hL.cal hm).1 (hL.cal hm).2).len
 omega
end
theorem ķ{x y:Ã}(h:x≠y):(x.toList==y.toList)=false:=by
 rw[ByteArray.toList_eq,ByteArray.toList_eq];exact qa.2 λhh=>h (Å (Array.toList_inj.mp (eq_of_beq hh)))
theorem UL:jc8=H 98980:=by kernel_rfl
theorem jIW{d:F}(h:j15 d=H S):d<=98980:=by
 apply jt;intro hd;simp only[j15,j67,Ui,Uh,j4]at h;rw[aC (show¬d<0 by omega),ai (show d>=98981 by omega)]at h;simp at h
theorem jIX{d:F}(h:j15 d=H S):0<=d:=by
 apply jt;intro hd;simp only[j15,j67,Ui,Uh,j4]at h;rw[ai (show d<0 by omega)]at h;simp at h
section
variable{zs:G bB}{ps:G cZ}{cs:G aY}{ss:G bW}
theorem ĸ{w:WL}(h:ib 0 w)(hl:w.length<=14):∀(n i:X),i+n=w.length->Gf w (i:F)=H (.inr ())
 |0,i,hi=>by
  rw[JS];simp(disch:=omega)only[j45,S0]
 |n+1,i,hi=>by
  have bG:i<w.length:=aa;have hg:=Bm h i bG;have ih:=ĸ h hl n (i+1) aa;rw[JS];simp only[j45,show R w.length=(w.length:F) from rfl];rw[ai aa,cB];simp only[j6,j8];rw[aC (show¬(w.getD i (0,0)).1<0 by omega),aC (show¬(w.getD i (0,0)).1>=(w.getD i (0,0)).2 by omega),aC (show¬(w.getD i (0,0)).2>604800 by omega),aQ (x:=(i:F)+1)];simp only[j7];by_cases h0:(i:F)>0
  .obtain⟨k,rfl⟩:∃k,i=k+1:=⟨i-1,aa⟩;have hgap:=ϙ h k aa;rw[ai h0,j6,aQ (x:=((k+1:X):F)-1),show ((k+1:X):F)-1=(k:F) by omega,bL (show (0:F)<=(k:F) by omega) aa];simp only[j6,j8];rw[aC (show¬(w.getD (k+1) (0,0)).1<(w.getD k (0,0)).2 by omega),j7,bg];exact ih
  .rw[aC h0,j7,bg];exact ih
theorem G7{w:WL}(h:ib 0 w)(hl:w.length<=14):j8N w=H 0:=by
 simp only[j8N,show R w.length=(w.length:F) from rfl];rw[aC aa,j7,show Gf w 0=_ from ĸ h hl w.length 0 aa];rfl
end
theorem UM{w:WL}(hl:w.length<=14)(s:F):∀(n i:X),i+n=w.length->JX w s (i:F)=H (cond (hasB s (w.drop i)) (.inl S) (.inr ()))
 |0,i,hi=>by
  rw[l_];simp only[j6o,show R w.length=(w.length:F) from rfl];rw[aC aa,j7,bV,U aa];rfl
 |n+1,i,hi=>by
  have bG:i<w.length:=aa;have br:w.getD i ((0:F),(0:F))=w[i]:=by simp[W,bG]
  rw[l_];simp only[j6o,show R w.length=(w.length:F) from rfl];rw[ai aa,cB];simp only[j6,zo,j8,br];rw[aQ (x:=(i:F)+1),I bG];have hb:hasB s (w[i]::w.drop (i+1))=cond (cond (decide (w[i].1<=s)) (decide (s<w[i].2)) Á) S (hasB s (w.drop (i+1))):=rfl;rw[hb];by_cases h1:w[i].1<=s
  .rw[ai (show s>=w[i].1 from h1)];simp only[j6];by_cases h2:s<w[i].2
   .rw[ai h2];rfl
   .rw[aC h2];simp only[j7,bg];exact UM hl s n (i+1) aa
  .rw[aC (show¬s>=w[i].1 from h1)];simp only[j7,bg];exact UM hl s n (i+1) aa
theorem jCT{w:WL}(hl:w.length<=14)(s:F):jka w s=H (hasB s w):=by
 have:=UM hl s w.length 0 aa;simp only[jka,show JX w s 0=_ from this,j4,jj];cases hasB s w<;>rfl
theorem Ĺ{z:bB}(hz:eX z){t:F}(h0:0<=t)(h1:t<=8589934592):j4Y z t=H (cL z t,0):=by
 have h4:=hz.zref.2.1;obtain⟨k,hk,k1,k2⟩:=uT h4.2 h0 h1;have e:=Dv h4.2 hk k1 k2;have:cL z t=((t+bq z.2.1 (tb z).2 k)/86400,(t+bq z.2.1 (tb z).2 k)%86400):=by simp only[cL,show j1V (tb z) t=_ from e,kp]
 rw[this];exact ϯ h4 h0 h1 hk k1 k2
theorem jIZ{z:bB}(hz:eX z){t:F}(h0:0<=t)(h1:t<=8589934592){w:WL}(hw:ib 0 w)(hl:w.length<=14):jem z t=H (gf (cL z t),0)/\jv0 z w t=H (hasB (gf (cL z t)) w):=by
 have e1:=Ĺ hz h0 h1;obtain⟨_,gN⟩:=UB hz h0 h1;have e2:j95 (cL z t)=H (gf (cL z t)):=gN;have e3:jem z t=H (gf (cL z t),0):=by simp only[jem,show j4Y (z.1,(z.2.1,z.2.2)) t=_ from e1,j4,je,j7,show j95 ((cL z t).1,(cL z t).2)=_ from e2]
 refine⟨e3,?_⟩;simp only[jv0,show jem (z.1,(z.2.1,z.2.2)) t=_ from e3,j4,ke,j6,G7 hw hl,jCT hl]
section
variable{zs:G bB}{ps:G cZ}{cs:G aY}(hs:kS zs ps cs)
include hs
theorem UN{k d e:F}{x:aY}(hx:nk zs.length x){L:bt}:∀(n i:X)(b:Bool),i+n=x.2.2.length->b=decide (d∈x.2.2.take i)->
  Dg k b (i:F) L.1 L.2.1 L.2.2.1.1 L.2.2.1.2 L.2.2.2.1 L.2.2.2.2.1 L.2.2.2.2.2.1 L.2.2.2.2.2.2.1 L.2.2.2.2.2.2.2.1 L.2.2.2.2.2.2.2.2 x.1 x.2.1 x.2.2 d e=
   H (k,decide (d∈x.2.2),L.1,L.2.1,L.2.2.1.1,L.2.2.1.2,L.2.2.2.1,L.2.2.2.2.1,L.2.2.2.2.2.1,L.2.2.2.2.2.2.1,L.2.2.2.2.2.2.2.1,L.2.2.2.2.2.2.2.2)
 |0,i,b,hi,hb=>by
  rw[m_];simp(disch:=omega)only[j7W,hb,List.take_of_length_le,S0]
 |n+1,i,b,hi,hb=>by
  have _:=hs;have nG:=hx.len;have bG:i<x.2.2.length:=aa;have br:x.2.2.getD i (0:F)=x.2.2[i]:=by simp[bG]
  rw[m_];simp only[j7W,show R x.2.2.length=(x.2.2.length:F) from rfl];rw[ai aa,aQ (x:=(i:F)+1),j6];have ht:x.2.2.take (i+1)=x.2.2.take i++[x.2.2[i]]:=by rw[kx,jn bG];rfl
  cases Fg:b with
  |true=>simp only[j6,bg];refine UN hx n (i+1) S aa ?_;have:d∈x.2.2.take i:=kv (by rw[<-hb,Fg]);rw[ht];exact(ai (jo _ this)).symm
  |false=>
   have cF:d∉x.2.2.take i:=of_decide_eq_false (by rw[<-hb,Fg]);simp(disch:=omega)only[S0];refine UN hx n (i+1) _ aa ?_;rw[ht];by_cases he:x.2.2[i]=d
   .rw[dR he];exact(ai (jm _ (by simp[he]))).symm
   .rw[cU he];refine(aC λhm=>?_).symm;rcases ji.1 hm with h|h
    .exact cF h
    .simp at h;exact he h.symm
theorem jHm{L:bt}(hL:ic zs.length ps.length cs.length L){ss:G bW}{t:F}(h0:0<=t)(h1:t<=8589934592):∃k,jmn (zs,(ps,(cs,ss))) L t=H (k,gx zs cs L t)/\(gx zs cs L t=S->k=bY (az zs L.2.1) L t):=by
 have nu:=hL.rt2;have hz:eX (az zs L.2.1):=eG hs.ok hL.z0 hL.z1;have h4:=hz.zref.2.1;obtain⟨K,eK,hK⟩:=ĝ h4 nu h0 h1;have hKs:K=bY (az zs L.2.1) L t:=lK.uniq h4.2 nu hK (sj hz nu h0 h1).2;subst hKs;have ek:jjn (az zs L.2.1) L t=H (bY (az zs L.2.1) L t,0):=by simp only[jjn,show jbb ((az zs L.2.1).1,((az zs L.2.1).2.1,(az zs L.2.1).2.2)) (L.1,L.2.1,(L.2.2.1.1,L.2.2.1.2),L.2.2.2.1,L.2.2.2.2.1,L.2.2.2.2.2.1,L.2.2.2.2.2.2.1,L.2.2.2.2.2.2.2.1,L.2.2.2.2.2.2.2.2)=_ from Ux h4 L,j4];rw[if_pos nu,aC (show¬t<0 by omega),aC (show¬t>8589934592 by omega)];simp only[je,j7];rw[show jeR ((az zs L.2.1).1,((az zs L.2.1).2.1,(az zs L.2.1).2.2)) (L.1,L.2.1,(L.2.2.1.1,L.2.2.1.2),L.2.2.2.1,L.2.2.2.2.1,L.2.2.2.2.2.1,L.2.2.2.2.2.2.1,L.2.2.2.2.2.2.2.1,L.2.2.2.2.2.2.2.2) t=_ from eK];rfl
 obtain⟨_,ein⟩:=jIZ hz h0 h1 hL.w hL.wl
 have yL:(cond (L.2.2.2.2.2.2.2.2==(0:F)) (H (bY (az zs L.2.1) L t,S)) (cond (inR L.2.2.2.2.2.2.2.1 cs.length) (cond (inR (cs.getD L.2.2.2.2.2.2.2.1.toNat (E,((0:F),([]:G F)))).2.1 zs.length)
   ((
    j4Y ((zs.getD (cs.getD L.2.2.2.2.2.2.2.1.toNat (E,((0:F),([]:G F)))).2.1.toNat (E,((0:F),([]:G aO)))).1,((zs.getD (cs.getD L.2.2.2.2.2.2.2.1.toNat (E,((0:F),([]:G F)))).2.1.toNat (E,((0:F),([]:G aO)))).2.1,(zs.getD (cs.getD L.2.2.2.2.2.2.2.1.toNat (E,((0:F),([]:G F)))).2.1.toNat (E,((0:F),([]:G aO)))).2.2)) t).bind λĺ=>
    (Dg (bY (az zs L.2.1) L t) Á 0 L.1 L.2.1 L.2.2.1.1 L.2.2.1.2 L.2.2.2.1 L.2.2.2.2.1 L.2.2.2.2.2.1 L.2.2.2.2.2.2.1 L.2.2.2.2.2.2.2.1 L.2.2.2.2.2.2.2.2 (cs.getD L.2.2.2.2.2.2.2.1.toNat (E,((0:F),([]:G F)))).1 (cs.getD L.2.2.2.2.2.2.2.1.toNat (E,((0:F),([]:G F)))).2.1 (cs.getD L.2.2.2.2.2.2.2.1.toNat (E,((0:F),([]:G F)))).2.2 ĺ.1.1 ĺ.1.2).bind λq0=>
     H (q0.1,(q0.2.1==(q0.2.2.2.2.2.2.2.2.2.2.2==(2:F))))) Ä) Ä))=H (bY (az zs L.2.1) L t,jB zs cs L t):=by
  by_cases hm:L.2.2.2.2.2.2.2.2=0
  .rw[dR hm,j6];unfold jB;rw[dR hm];rfl
  .have cI:=hL.cal hm;have hx:=mR hs cI.1 cI.2;have nh:=eG hs.ok hx.z0 hx.z1;rw[cU hm,j7,bL cI.1 cI.2,bL hx.z0 hx.z1];simp only[j6];rw[show j4Y ((zs.getD (cs.getD L.2.2.2.2.2.2.2.1.toNat (E,((0:F),([]:G F)))).2.1.toNat (E,((0:F),([]:G aO)))).1,((zs.getD (cs.getD L.2.2.2.2.2.2.2.1.toNat (E,((0:F),([]:G F)))).2.1.toNat (E,((0:F),([]:G aO)))).2.1,(zs.getD (cs.getD L.2.2.2.2.2.2.2.1.toNat (E,((0:F),([]:G F)))).2.1.toNat (E,((0:F),([]:G aO)))).2.2)) t=_ from Ĺ nh h0 h1];simp only[j4];rw[show Dg (bY (az zs L.2.1) L t) Á 0 L.1 L.2.1 L.2.2.1.1 L.2.2.1.2 L.2.2.2.1 L.2.2.2.2.1 L.2.2.2.2.2.1 L.2.2.2.2.2.2.1 L.2.2.2.2.2.2.2.1 L.2.2.2.2.2.2.2.2 (cs.getD L.2.2.2.2.2.2.2.1.toNat (E,((0:F),([]:G F)))).1 (cs.getD L.2.2.2.2.2.2.2.1.toNat (E,((0:F),([]:G F)))).2.1 (cs.getD L.2.2.2.2.2.2.2.1.toNat (E,((0:F),([]:G F)))).2.2 _ _=_ from UN hs hx (L:=L) (cs.getD L.2.2.2.2.2.2.2.1.toNat (E,((0:F),([]:G F)))).2.2.length 0 Á aa ae];unfold jB;rw[cU hm];rfl
 simp only[jmn];rw[bL hL.z0 hL.z1];simp only[j6];rw[show jjn ((zs.getD L.2.1.toNat (E,((0:F),([]:G aO)))).1,((zs.getD L.2.1.toNat (E,((0:F),([]:G aO)))).2.1,(zs.getD L.2.1.toNat (E,((0:F),([]:G aO)))).2.2)) (L.1,L.2.1,(L.2.2.1.1,L.2.2.1.2),L.2.2.2.1,L.2.2.2.2.1,L.2.2.2.2.2.1,L.2.2.2.2.2.2.1,L.2.2.2.2.2.2.2.1,L.2.2.2.2.2.2.2.2) t=_ from ek];simp only[j4,je,j7];by_cases hk:0<=bY (az zs L.2.1) L t
 .rw[aC (show¬bY (az zs L.2.1) L t<0 by omega)];simp only[j7,show R L.2.2.2.2.2.2.1.length=(L.2.2.2.2.2.2.1.length:F) from rfl];have ov:gx zs cs L t=cond (okW L.2.2.2.2.2.2.1 (gf (cL (az zs L.2.1) t))) (jB zs cs L t) false:=by unfold gx;rw[ai hk];rfl
  rw[ov];by_cases hw:(L.2.2.2.2.2.2.1.length:F)>0
  .rw[ai hw,j6,show jv0 ((zs.getD L.2.1.toNat (E,((0:F),([]:G aO)))).1,((zs.getD L.2.1.toNat (E,((0:F),([]:G aO)))).2.1,(zs.getD L.2.1.toNat (E,((0:F),([]:G aO)))).2.2)) L.2.2.2.2.2.2.1 t=_ from ein];simp only[j4];unfold okW;rw[ai hw,j6];cases hasB (gf (cL (az zs L.2.1) t)) L.2.2.2.2.2.2.1 with
   |false=>exact⟨0,rfl,λh=>by simp at h⟩
   |true=>simp only[jg,j7,j6];exact⟨_,yL,λ_=>rfl⟩
  .rw[aC hw,j7];unfold okW;rw[aC hw];simp only[j7,j6];exact⟨_,yL,λ_=>rfl⟩
 .rw[ai (show bY (az zs L.2.1) L t<0 by omega)];have ov:gx zs cs L t=false:=by unfold gx;rw[aC hk];rfl
  rw[ov];simp only[j6,jg,jv,Bool.or_true];exact⟨0,rfl,λh=>by simp at h⟩
theorem jEK{L:bt}(hL:ic zs.length ps.length cs.length L){ss:G bW}{t:F}(h0:0<=t)(h1:t<=8589934592):jpW (zs,(ps,(cs,ss))) L t=H (cE zs cs L t):=by
 obtain⟨k,e,hk⟩:=jHm hs hL (ss:=ss) h0 h1;have ov:gx zs cs L t=S->0<=bY (az zs L.2.1) L t:=Lf;simp(disch:=omega)only[jpW,show jmn (zs,ps,cs,ss) (L.1,L.2.1,(L.2.2.1.1,L.2.2.1.2),L.2.2.2.1,L.2.2.2.2.1,L.2.2.2.2.2.1,L.2.2.2.2.2.2.1,L.2.2.2.2.2.2.2.1,L.2.2.2.2.2.2.2.2) t=_ from e,S0];unfold cE;cases hc:gx zs cs L t with
 |false=>rfl
 |true=>have sf:=hL.m0;have ni:=ov hc;have:=hk hc;subst this;have q1:0<=O (bY (az zs L.2.1) L t) (L.2.2.2.2.2.1.length:F):=vw _ ni;have q2:O (bY (az zs L.2.1) L t) (L.2.2.2.2.2.1.length:F)<(L.2.2.2.2.2.1.length:F):=zm _ aa;rw[cU (show¬(L.2.2.2.2.2.1.length:F)=0 by omega),bL q1 q2];rfl
end
end Go.Proofs.Pw
