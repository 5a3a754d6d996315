/- eB 12 for any si, pr, mC and ranges: the Cp answers are the il. -/
import Derived.Test.YtllkgjaoejhneaaGreatSEPQ
import Derived.Test.YtllkgjaoejhneaaGreatSEPI
import Derived.Test.YtllkgjaoejhneaaGreatSEPA
import Derived.Test.YtllkgjaoejhneaaGreatSELD
open _root_ renaming Int->d,List->D,Nat->H,Bool->N
open Option renaming some->z,some_or->M,none->O
open ByteArray renaming empty->A
open Int renaming ofNat->E
open List renaming getD->F,replicate->J
open Decidable renaming decide->G
open Bool renaming false->I,true->K
open Go Go.Lft
namespace Go.Proofs.Pw
theorem qC{b:N}{k:d}{r:Option d}(hk:k≠0)(h:cond b (z k) r=z 0):b=I/\r=z 0:=by
 cases b with
 |true=>simp at h;exact absurd h hk
 |false=>exact⟨rfl,h⟩
theorem _2{b:N}{r s:Option d}(h:cond b r s=z 0):r=z 0\/s=z 0:=by
 cases b with
 |true=>exact .inl h
 |false=>exact .inr h
theorem ce0{c:gw}{x:dA}(h:j11 c x=z 0):0<=x.2.2.2.1/\x.2.2.2.1<x.2.2.2.2:=by
 have T:∀(t:d),cond (cond (G (x.2.2.2.1<(0:d))) K (G (x.2.2.2.2<(0:d)))) (z (1:d)) ((j1c t).bind λr=>cond (!r) (z (1:d)) (cond (G (x.2.2.2.1>=x.2.2.2.2)) (z (6:d)) (z (0:d))))=z 0->0<=x.2.2.2.1/\x.2.2.2.1<x.2.2.2.2:=by
  intro t h;obtain⟨h1,h⟩:=qC (by decide) h;have h0:¬x.2.2.2.1<0:=by intro hh;rw[ah hh]at h1;simp at h1
  cases hd:j1c t with
  |none=>rw[hd]at h;simp at h
  |some b=>rw[hd]at h;obtain⟨_,h⟩:=qC (by decide) h;obtain⟨h2,_⟩:=qC (by decide) h;simp only[ku]at h2;exact⟨aa,aa⟩
 simp only[j11,j2V,j1h,ja]at h;obtain⟨_,h⟩:=qC (by decide) h;rcases _2 h with h|h
 .obtain⟨_,h⟩:=qC (by decide) h;obtain⟨_,h⟩:=qC (by decide) h;obtain⟨_,h⟩:=qC (by decide) h;exact T _ h
 .rcases _2 h with h|h
  .obtain⟨_,h⟩:=qC (by decide) h;obtain⟨_,h⟩:=qC (by decide) h;obtain⟨_,h⟩:=qC (by decide) h;exact T _ h
  .obtain⟨_,h⟩:=qC (by decide) h;obtain⟨_,h⟩:=qC (by decide) h;exact T _ h
structure SG(zs:D bS)(ps:D eu)(cs:D bq)(s:dC):Prop where
 ly:∀L∈s.2.1,iR zs.length ps.length cs.length L
 ll:s.2.1.length<=4
 ed:∀x∈s.2.2,Jv x
 el:s.2.2.length<=9
theorem jCY{zs:D bS}{ps:D eu}{cs:D bq}{ss:D dC}(hv:CV (zs,(ps,(cs,ss))))(hC:Ak zs ps cs ss):∀s∈ss,SG zs ps cs s:=λs hs=>by
 have h:=hC.s s hs;have v:=hv.s s hs;have jK:=v.ll;have iw:=v.el
 exact⟨λL hL=>⟨h.ly L hL,v.ly L hL⟩,aa,λx hx=>by
  have:=ce0 (h.ed x hx);exact⟨this.1,this.2,v.ed x hx⟩,aa⟩
theorem _3{good:H->N}:∀n,(∀i,i<n->good i=I)->dq good n=O
 |0,_=>rfl
 |n+1,h=>by
  simp only[dq,h n aa,jd];exact _3 n λi hi=>h i aa
section
variable{zs:D bS}{ps:D eu}{cs:D bq}{ss:D dC}
theorem _4(hv:CV (zs,(ps,(cs,ss)))):∃e v b,jh2 (zs,(ps,(cs,ss)))=z (v,b)/\jbC (zs,(ps,(cs,ss)))=z e/\(e≠0->b=I)/\
  (e=0->b=K/\v=((zs,(ps,(cs,ss))),zs.map tb)/\nI zs ps cs/\∀s∈ss,SG zs ps cs s):=by
 obtain⟨e,e1,e2,e3⟩:=hv.w.chk;by_cases he:e=0
 .subst he;obtain⟨hC,hg⟩:=e3 rfl;refine⟨0,_,_,?_,e2,λh=>absurd rfl h,λ_=>⟨rfl,rfl,hg,jCY hv hC⟩⟩;have hv:=jAE (ps:=ps) (cs:=cs) (ss:=ss) hg.ok (by have:=hg.zl;omega);simp only[jh2,e1,ja,jm,jd];rw[hv];rfl
 .refine⟨e,((([]:D bS),(([]:D eu),(([]:D bq),([]:D dC)))),([]:D (d×bg))),I,?_,e2,λ_=>rfl,λh=>absurd h he⟩;simp only[jh2,e1,ja];rw[show (e != 0)=K by simpa using he,jc]
theorem jCx(hg:nI zs ps cs){s:dC}(hs:SG zs ps cs s)(t:d):∃n p,j5C ((zs,(ps,(cs,ss))),zs.map tb) s t=z (n,p)/\
  (0<=t->t<=8589934592->p=fZ s.2.2 t (dJ zs cs s.2.1 t) s.2.1.length/\n=uF s.2.2 t (dJ zs cs s.2.1 t) s.2.1.length)/\(¬(0<=t/\t<=8589934592)->n = -1/\p = -1):=by
 have iw:=hs.el;by_cases ht:0<=t/\t<=8589934592
 .have hL:=Y8 (zs:=zs) (ps:=ps) (cs:=cs) (ss:=ss) (tbs:=zs.map tb) (nm:=s.1) (ls:=s.2.1) (es:=s.2.2) (t:=t) (Pf:=dJ zs cs s.2.1 t) aa (λi hi=>by
   obtain⟨_,eP,_⟩:=jCQ hg (hs.ly _ (ju hi)) (ss:=ss) ht.1 ht.2;rw[show dJ zs cs s.2.1 t i=cK zs cs s.2.1[i] t by simp[dJ,F,hi]];exact eP)
  refine⟨_,_,hL.trans ?_,λ_ _=>⟨rfl,rfl⟩,λh=>absurd ht h⟩;simp only[fZ,uF];cases dq (fv s.2.2 t (dJ zs cs s.2.1 t)) s.2.1.length<;>rfl
 .have hL:=Y8 (zs:=zs) (ps:=ps) (cs:=cs) (ss:=ss) (tbs:=zs.map tb) (nm:=s.1) (ls:=s.2.1) (es:=s.2.2) (t:=t) (Pf:=λ_=> -1) aa (λi hi=>by
   have e0:j48 ((zs,(ps,(cs,ss))),zs.map tb) s.2.1[i] t=z (0,I):=by
    simp only[j48];by_cases h0:t<0
    .rw[ah h0];rfl
    .rw[ak h0,ah (show t>8589934592 by omega)];rfl
   generalize s.2.1[i]=p at e0
   have e1:j48 ((zs,(ps,(cs,ss))),zs.map tb) (p.1,(p.2.1,((p.2.2.1.1,p.2.2.1.2),(p.2.2.2.1,(p.2.2.2.2.1,(p.2.2.2.2.2.1,(p.2.2.2.2.2.2.1,(p.2.2.2.2.2.2.2.1,p.2.2.2.2.2.2.2.2)))))))) t=z (0,I):=e0;simp only[j27];rw[e1];rfl)
  rw[_3 _ (λi _=>by simp[fv])]at hL;exact⟨-1, -1,hL,λh1 h2=>absurd ⟨h1,h2⟩ ht,λ_=>⟨rfl,rfl⟩⟩
theorem _5(hg:nI zs ps cs){i:H}(hi:i<ss.length)(hs:SG zs ps cs ss[i]){t:d}(h0:0<=t)(h1:t<=8589934592) :
  jh5 (zs,(ps,(cs,ss))) (i:d) t=z (uF ss[i].2.2 t (dJ zs cs ss[i].2.1 t) ss[i].2.1.length,fZ ss[i].2.2 t (dJ zs cs ss[i].2.1 t) ss[i].2.1.length):=by
 have iw:=hs.el;have jK:=hs.ll;have D0:ss.getD i (A,(([]:D bC),([]:D dA)))=ss[i]:=by simp[F,hi]
 have lp:=_U hg (ss:=ss) (nm:=ss[i].1) (es:=ss[i].2.2) aa aa hs.ly h0 h1 ss[i].2.1.length (jy _);simp only[jh5];rw[bP];simp only[jc,je,D0,show E ss[i].2.1.length=(ss[i].2.1.length:d) from rfl];rw[ar (x:=(ss[i].2.1.length:d)-1),lp];simp only[ja,uF,fZ];cases dq (fv ss[i].2.2 t (dJ zs cs ss[i].2.1 t)) ss[i].2.1.length<;>rfl
theorem jyP{v:iB}(hO:jh2 (zs,(ps,(cs,ss)))=z (v,K)){i:d}(h0:0<=i)(h1:i<(ss.length:d)) :
  j8i (zs,(ps,(cs,ss))) i=z (v,ss.getD i.toNat (A,(([]:D bC),([]:D dA))),K):=by
 simp only[j8i,hO,ja,jk,jd,j83,show E ss.length=(ss.length:d) from rfl];rw[ah (show i>=0 from h0),ah h1,cb h0 h1];rfl
theorem jyQ(hv:CV (zs,(ps,(cs,ss))))(i t:d):(∃n,j6A (zs,(ps,(cs,ss))) i t=z n/\jbH (zs,(ps,(cs,ss))) i t=z n)/\∃n,j7y (zs,(ps,(cs,ss))) i t=z n/\jh6 (zs,(ps,(cs,ss))) i t=z n:=by
 obtain⟨e,v,b,eO,eC,f1,f2⟩:=_4 hv
 have no:∀s:dC,j8i (zs,(ps,(cs,ss))) i=z (v,s,I)->jgv (zs,(ps,(cs,ss))) i t=z I->(∃n,j6A (zs,(ps,(cs,ss))) i t=z n/\jbH (zs,(ps,(cs,ss))) i t=z n)/\∃n,j7y (zs,(ps,(cs,ss))) i t=z n/\jh6 (zs,(ps,(cs,ss))) i t=z n:=by
  intro s h1 h2;refine⟨⟨-1,?_,?_⟩, -1,?_,?_⟩
  .simp only[j6A,h1,ja];rfl
  .simp only[jbH,h2,ja];rfl
  .simp only[j7y,h1,ja];rfl
  .simp only[jh6,h2,ja];rfl
 by_cases he:e=0
 .obtain⟨rfl,rfl,hg,hS⟩:=f2 he;subst he;by_cases hi:0<=i/\i<(ss.length:d)
  .have ho:=jyP eO hi.1 hi.2;have au:i.toNat<ss.length:=aa;rw[show ss.getD i.toNat (A,(([]:D bC),([]:D dA)))=ss[i.toNat] by simp[F,au]]at ho;have hs:=hS _ (ju au);obtain⟨n,p,e1,e2,e3⟩:=jCx (ss:=ss) hg hs t;have Rg:j5C ((zs,(ps,(cs,ss))),zs.map tb) (ss[i.toNat].1,(ss[i.toNat].2.1,ss[i.toNat].2.2)) t=z (n,p):=e1;have k1:j6A (zs,(ps,(cs,ss))) i t=z n:=by simp only[j6A,ho,ja,jk,jd,Rg]
   have k2:j7y (zs,(ps,(cs,ss))) i t=z p:=by simp only[j7y,ho,ja,jk,jd,Rg]
   by_cases ht:0<=t/\t<=8589934592
   .have hk:jgv (zs,(ps,(cs,ss))) i t=z true:=by simp only[jgv,show E ss.length=(ss.length:d) from rfl];rw[ah (show i>=0 from hi.1),ah hi.2,ah (show t>=0 from ht.1),ah ht.2];simp only[jc,eC,ja,ql]
    have hT:=_5 hg au hs ht.1 ht.2;rw[show ((i.toNat:H):d)=i by omega]at hT;obtain⟨p1,p2⟩:=e2 ht.1 ht.2;subst p1 p2;refine⟨⟨_,k1,?_⟩,_,k2,?_⟩
    .simp only[jbH,hk,ja,jk,jd,hT]
    .simp only[jh6,hk,ja,jk,jd,hT]
   .obtain⟨p1,p2⟩:=e3 ht;subst p1 p2
    have hk:jgv (zs,(ps,(cs,ss))) i t=z false:=by
     simp only[jgv,show E ss.length=(ss.length:d) from rfl];rw[ah (show i>=0 from hi.1),ah hi.2];by_cases h0:0<=t
     .rw[ah (show t>=0 from h0),ak (show¬t<=8589934592 by omega)];rfl
     .rw[ak (show¬t>=0 from h0)];rfl
    refine⟨⟨_,k1,?_⟩,_,k2,?_⟩
    .simp only[jbH,hk,ja];rfl
    .simp only[jh6,hk,ja];rfl
  .refine no (A,(([]:D bC),([]:D dA))) ?_ ?_
   .simp only[j8i,eO,ja,jk,jd,j83,show E ss.length=(ss.length:d) from rfl];by_cases h0:0<=i
    .rw[ah (show i>=0 from h0),ak (show¬i<(ss.length:d) by omega)];rfl
    .rw[ak (show¬i>=0 from h0)];rfl
   .simp only[jgv,show E ss.length=(ss.length:d) from rfl];by_cases h0:0<=i
    .rw[ah (show i>=0 from h0),ak (show¬i<(ss.length:d) by omega)];rfl
    .rw[ak (show¬i>=0 from h0)];rfl
 .have hb:=f1 he;subst hb;refine no (A,(([]:D bC),([]:D dA))) ?_ ?_
  .simp only[j8i,eO,ja];rfl
  .simp only[jgv,eC,ja,cU he];cases (cond (cond (cond (G (i>=(0:d))) (G (i<E ss.length)) I) (G (t>=(0:d))) I) (G (t<=(8589934592:d))) I)<;>rfl
end
theorem juE{f:d->d}{B:D d}{b:d}(hB:B.Pairwise (· < ·))(cG:B.getD (B.length-1) 0=b)(cR:∀x y,x∈B->x<=y->y<b->(∀c∈B,¬(x<c/\c<=y))->f x=f y){j:H}(h2:j+1<B.length) :
  B.getD j 0<B.getD (j+1) 0/\B.getD (j+1) 0<=b/\∀t,B.getD j 0<=t->t<B.getD (j+1) 0->f t=f (B.getD j 0):=by
 have h1:j<B.length:=aa;have g1:B.getD j (0:d)=B[j]:=by simp[F,h1]
 have g2:B.getD (j+1) (0:d)=B[j+1]:=by simp[F,h2]
 have JX:=vi.1 hB;have au:B[j]<B[j+1]:=JX j (j+1) h1 h2 aa
 have hle:B[j+1]<=b:=by
  have gl:B.getD (B.length-1) (0:d)=B[B.length-1]:=by simp[F,show B.length-1<B.length by omega]
  rw[gl]at cG;by_cases he:j+1=B.length-1
  .have:B[j+1]=B[B.length-1]:=by congr 1
   omega
  .have:=JX (j+1) (B.length-1) h2 aa aa;omega
 rw[g1,g2];refine⟨au,hle,λt t1 t2=>(cR B[j] t (ju h1) t1 aa (λc hc jH=>?_)).symm⟩;obtain⟨m,hm,rfl⟩:=List.mem_iff_getElem.1 hc;by_cases hmj:m<=j
 .by_cases he:m=j
  .subst he;omega
  .have:=JX m j hm h1 aa;omega
 .by_cases he:m=j+1
  .subst he;omega
  .have:=JX (j+1) m h2 hm aa;omega
theorem jsv{l:cC}(hl:l.length<=100000000)(x:kR):jgc l x=z (lG l x):=by
 simp only[jgc,lG];by_cases hx:x.2.1<=x.1
 .rw[ah hx,if_pos hx,jc]
 rw[ak hx,if_neg hx,jd,kT l];rcases vf l with rfl|⟨r,u,rfl⟩
 .rfl
 rw[vg]at hl ⊢;have hlen:(r++[u]).length=r.length+1:=af;rw[hlen]at hl ⊢;have bm:(r++[u]).getD r.length ((0:d),((0:d),(0:d)))=u:=by simp[F]
 rw[ah (show ((r.length+1:H):d)>0 by omega),ar (x:=((r.length+1:H):d)-1),bP,show (((r.length+1:H):d)-1).toNat=r.length by omega,bm];simp only[jc,yg,vq,M,List.dropLast_concat];rw[ah (show r.length+1+[(x.1,(x.2.1,x.2.2))].length<=aF by simp[aF];omega)];simp only[jc];by_cases h1:u.2.1=x.1
 .rw[fh h1,jc];by_cases h2:u.2.2=x.2.2
  .rw[fh h2,if_pos ⟨h1,h2⟩,jc];congr 1;simp
  .rw[cU h2,if_neg (λh=>h2 h.2),jd]
 .rw[cU h1,if_neg (λh=>h1 h.1),jd]
theorem jCZ(a b:d):∃v,j8P a b=z v/\(v=K->0<=a/\a<=b/\b<=8589934592/\b-a<=34560000):=by
 refine⟨_,rfl,λh=>?_⟩
 have h':(G (a>=0)&&G (a<=8589934592)&&G (b>=a)&&G (b<=8589934592)&&G (w64 (b-a)<=34560000))=true:=by
  revert h
  cases G (a>=(0:d))<;>cases G (a<=(8589934592:d))<;>cases G (b>=a)<;>cases G (b<=(8589934592:d))<;>cases G (w64 (b-a)<=(34560000:d))<;>simp
 simp only[ji,jr]at h';obtain⟨⟨⟨⟨h1,h2⟩,h3⟩,h4⟩,h5⟩:=h';rw[ar (x:=b-a)]at h5;exact⟨h1,h3,h4,h5⟩
section
variable{zs:D bS}{ps:D eu}{cs:D bq}{ss:D dC}
theorem _6{f:d->d}{i:d}{B:D d}(hBl:B.length<=50000000)(hB:B.Pairwise (· < ·))(oJ:∀t∈B,∃n,jh5 (zs,(ps,(cs,ss))) i t=z (n,f t)){a b:d}(cG:B.getD (B.length-1) 0=b)
  (cR:∀x y,x∈B->x<=y->y<b->(∀c∈B,¬(x<c/\c<=y))->f x=f y):∀(n j:H)(acc:cC),j+1+n=B.length->acc.length<=j->gX f (B.getD j 0) O a acc->
  ∃out,Io i (j:d) zs ps cs ss B acc=z out/\gX f b O a out
 |0,j,acc,hj,ha,hC=>by
  rw[WB];simp only[j3V,show E B.length=(B.length:d) from rfl];rw[ar (x:=(j:d)+1),ak aa,jd,ba];refine⟨acc,rfl,?_⟩;rw[<-cG,show B.length-1=j by omega];exact hC
 |n+1,j,acc,hj,ha,hC=>by
  have h1:j<B.length:=aa;obtain⟨au,hle,hconst⟩:=juE hB cG cR (j:=j) aa;have hC2:=Zd hC (s:=(B.getD j 0,(B.getD (j+1) 0,f (B.getD j 0)))) rfl (Int.le_of_lt au) hconst;have AX:=QM acc (B.getD j 0,(B.getD (j+1) 0,f (B.getD j 0)));have ih:=_6 hBl hB oJ cG cR n (j+1) (lG acc (B.getD j 0,(B.getD (j+1) 0,f (B.getD j 0)))) aa aa hC2;obtain⟨m,hr⟩:=oJ (B.getD j 0) (by rw[show B.getD j (0:d)=B[j] by simp[F,h1]];exact ju h1);rw[WB];simp only[j3V,show E B.length=(B.length:d) from rfl];rw[ar (x:=(j:d)+1),ah (show (j:d)+1<(B.length:d) by omega),cb (show (0:d)<=(j:d) by omega) aa,cb (show (0:d)<=(j:d)+1 by omega) aa,show ((j:d)+1).toNat=j+1 by omega];simp only[jc,je,hr,ja,jsv (show acc.length<=100000000 by omega),aV];exact ih
theorem juF(hg:nI zs ps cs){i:H}(hi:i<ss.length)(hs:SG zs ps cs ss[i]){a b:d}(ha:0<=a)(cX:a<=b)(hb:b<=8589934592)(hlen:b-a<=34560000) :
  ∃B,jks (zs,(ps,(cs,ss))) (i:d) a b=z B/\B.Pairwise (· < ·)/\B.length<=40000000/\(∀x∈B,a<=x/\x<=b)/\(∃r,B=a::r)/\(B.getD (B.length-1) 0=b)/\
   ∀x y,x∈B->x<=y->y<b->(∀c∈B,¬(x<c/\c<=y))->fZ ss[i].2.2 x (dJ zs cs ss[i].2.1 x) ss[i].2.1.length=fZ ss[i].2.2 y (dJ zs cs ss[i].2.1 y) ss[i].2.1.length:=by
 have jK:=hs.ll;have iw:=hs.el;have D0:ss.getD i (A,(([]:D bC),([]:D dA)))=ss[i]:=by simp[F,hi]
 obtain⟨C,e1,e2,_,e4⟩:=_Q hg (ss:=ss) (nm:=ss[i].1) (es:=ss[i].2.2) aa hs.ly ha cX hb hlen ss[i].2.1.length 0 [] aa ay;have e5:=_R (nm:=ss[i].1) (ls:=ss[i].2.1) (es:=ss[i].2.2) aa (a:=a) (b:=b) ss[i].2.2.length 0 C aa (by simp at e2;omega);rw[show ((0:H):d)=0 from rfl,jt]at e5;rw[show ((0:H):d)=0 from rfl]at e1;rw[jt]at e4;have hel2:=_O ss[i].2.2;simp only[kr,ko]at e2;have dL:(C++uK ss[i].2.2).length<=39000000:=by rw[jn];omega
 obtain⟨b1,b2,b3,b4,b5,b6,b7⟩:=jAV (C++uK ss[i].2.2) cX;refine⟨jF (C++uK ss[i].2.2) a b,?_,b1,aa,b3,b5,?_,λx y hx jJ La hn=>?_⟩
 .simp only[jks];rw[bP];simp only[jc,je,D0,e1,e5,ja,juy (show (C++uK ss[i].2.2).length<=49000000 by omega) a b]
 .by_cases h:a<b
  .obtain⟨r,hr⟩:=b6 h;rw[hr];simp[F]
  .rw[b7 aa];show a=b;omega
 .have Ad:=b3 x hx;have cY:og (C++uK ss[i].2.2) x y:=λc hc jH=>hn c (b4 c hc aa aa) jH
  have hed:∀e∈ss[i].2.2,(e.2.2.2.1<=x↔e.2.2.2.1<=y)/\(e.2.2.2.2<=x↔e.2.2.2.2<=y):=λe hm=>by
   have a:=cY.right e.2.2.2.1 (qy.2 ⟨e,hm,af⟩);have b:=cY.right e.2.2.2.2 (qy.2 ⟨e,hm,af⟩);exact⟨aa,aa⟩
  refine juD (λk hk=>?_) (λp=>_P ss[i].2.2 hed);unfold dJ;rw[show ss[i].2.1.getD k (A,((0:d),(((0:d),(0:d)),((0:d),((0:d),(([]:D d),(([]:D (d×d)),((0:d),(0:d)))))))))=ss[i].2.1[k] by simp[F,hk]];exact e4 _ (ju hk) x y Ad.1 jJ La cY.left
theorem jxw(hv:CV (zs,(ps,(cs,ss))))(i a b:d):∃l e,j47 (zs,(ps,(cs,ss))) i a b=z (l,e)/\j6K (zs,(ps,(cs,ss))) i a b=z (l,e)/\l.length<=16384:=by
 obtain⟨e,v,ok,eO,eC,f1,f2⟩:=_4 hv;by_cases he:e=0
 case neg=>
  have hb:=f1 he;subst hb;refine⟨[],8,?_,?_,af⟩
  .simp only[j47,j9o,eO,ja];rfl
  .simp only[j6K,jdG,eC,ja];rw[show (e != 0)=K by simpa using he];rfl
 obtain⟨rfl,rfl,hg,hS⟩:=f2 he;subst he;obtain⟨w,w1,w2⟩:=jCZ a b;have w1':jj9 a b=z w:=w1;by_cases hi:0<=i/\i<(ss.length:d)
 case neg=>
  refine⟨[],3,?_,?_,af⟩
  .simp only[j47,j9o,eO,ja,jk,jd,j83,show E ss.length=(ss.length:d) from rfl];by_cases h0:0<=i
   .rw[ah (show i>=0 from h0),ak (show¬i<(ss.length:d) by omega)];rfl
   .rw[ak (show¬i>=0 from h0)];rfl
  .simp only[j6K,jdG,eC,ja,jm,jd,show E ss.length=(ss.length:d) from rfl];by_cases h0:i<0
   .rw[ah h0];rfl
   .rw[ak h0,ah (show i>=(ss.length:d) by omega)];rfl
 have au:i.toNat<ss.length:=aa;have hs:=hS _ (ju au);have jK:=hs.ll;have iw:=hs.el;have bm:ss.getD i.toNat (A,(([]:D bC),([]:D dA)))=ss[i.toNat]:=by simp[F,au]
 have eK:j9o (zs,(ps,(cs,ss))) i a b=z (((zs,(ps,(cs,ss))),zs.map tb),cond w 0 1):=by simp only[j9o,eO,ja,jk,jd,j83,show E ss.length=(ss.length:d) from rfl,w1'];rw[ah (show i>=0 from hi.1),ah hi.2];cases w<;>rfl
 have eW:jdG (zs,(ps,(cs,ss))) i a b=z (cond w 0 1):=by simp only[jdG,eC,ja,jm,jd,show E ss.length=(ss.length:d) from rfl,w1];rw[ak (show¬i<0 by omega),ak (show¬i>=(ss.length:d) by omega)];cases w<;>rfl
 cases w with
 |false=>
  refine⟨[],1,?_,?_,af⟩
  .simp only[j47,eK,ja];rfl
  .simp only[j6K,eW,ja];rfl
 |true=>
 obtain⟨ha,cX,hb,hlen⟩:=w2 rfl;obtain⟨o,eo,o1,o2⟩:=jyN hg hs.ly jK hs.ed iw ha cX hb (show b-a<=35078400 by omega) (nm:=ss[i.toNat].1) (ss:=ss);obtain⟨B,e1,b1,b2,b3,⟨r,hr⟩,b5,b6⟩:=juF hg au hs ha cX hb hlen;rw[show ((i.toNat:H):d)=i by omega]at e1
 obtain⟨o',_7,p1⟩:=_6 (zs:=zs) (ps:=ps) (cs:=cs) (ss:=ss) (f:=λt=>fZ ss[i.toNat].2.2 t (dJ zs cs ss[i.toNat].2.1 t) ss[i.toNat].2.1.length) (i:=i) (B:=B) aa b1 (λt ht=>by
  have hq:=b3 t ht;have:=_5 hg au hs (t:=t) aa aa;rw[show ((i.toNat:H):d)=i by omega]at this;exact⟨_,this⟩) (a:=a) (b:=b) b5 b6 (B.length-1) 0 [] (by rw[hr];simp only[jq];omega) af (by rw[hr];simp[F];rfl)
 have he:o'=o:=gX.uniq p1 o1;subst he;rw[show ((0:H):d)=0 from rfl]at _7;simp only[j47,j6K,eK,eW,ja,jc,jm,jd,e1,_7,show E o'.length=(o'.length:d) from rfl];rw[cb hi.1 hi.2,bm];simp only[jc];rw[show j5W ((zs,(ps,(cs,ss))),zs.map tb) (ss[i.toNat].1,(ss[i.toNat].2.1,ss[i.toNat].2.2)) a b=_ from eo];simp only[ja,show E o'.length=(o'.length:d) from rfl];by_cases h4:(o'.length:d)>16384
 .rw[ah h4];exact⟨[],5,rfl,rfl,af⟩
 .rw[ak h4];exact⟨o',0,rfl,rfl,aa⟩
end
theorem _8{s:cC}(hs:s.length<=1000000):∀(n i:H),i+n=s.length->ET s s (s.length:d) (i:d)=z (.inr ())
 |0,i,hi=>by
  rw[WC];simp only[j4Q];rw[ak aa,jd,ba]
 |n+1,i,hi=>by
  rw[WC];simp only[j4Q];rw[ah aa,cb (i:=(i:d)) (n:=s.length) aa aa,ar (x:=(i:d)+1)];simp only[jc,ql,yq,jk,jd,aV];exact _8 hs n (i+1) aa
theorem jyR{s:cC}(hs:s.length<=1000000):jgd s s=z true:=by
 simp only[jgd,jm,jd,show E s.length=(s.length:d) from rfl];rw[show ET s s (s.length:d) 0=_ from _8 hs s.length 0 aa];rfl
theorem _9{s1:d}{s2:d}{s3:d}{s4:d}{s15:d}{s17:d}{s41:df}{s42:d}{s50:(D d)}{s51:d}{s58:(D d)}{b14:ai}{b14_1:aj}{b14_2:al}{b14_3:ao}{b34:(D d)}{b34_1:d}(hc:CV (b14,(b14_1,(b14_2,b14_3)))):∀(n i:H),i+n=3->Ip s1 s2 s3 s4 s15 s17 s41 s42 s50 s51 s58 (i:d) b14 b14_1 b14_2 b14_3 b34 b34_1=z (.inr (s1,s2,s3,s4,s15,s17,s41,s42,s50,s51,b14,b14_1,b14_2,b14_3,b34,b34_1))
 |0,i,hi=>by
  rw[WD];simp only[j2i];rw[ak aa,jd,ba]
 |n+1,i,hi=>by
  have ih:=_9 (s1:=s1) (s2:=s2) (s3:=s3) (s4:=s4) (s15:=s15) (s17:=s17) (s41:=s41) (s42:=s42) (s50:=s50) (s51:=s51) (s58:=s58) (b14:=b14) (b14_1:=b14_1) (b14_2:=b14_2) (b14_3:=b14_3) (b34:=b34) (b34_1:=b34_1) hc n (i+1) aa;obtain⟨⟨v,v1,v2⟩,w,w1,w2⟩:=jyQ hc s17 (s58.getD i 0);rw[WD];simp only[j2i];rw[ah aa,bP,ar (x:=(i:d)+1)];simp only[jc,je,v1,v2,w1,w2,ja,jm,jd,aV];exact ih
theorem a_{s1:d}{s2:d}{s3:d}{s4:d}{s15:d}{s17:d}{s41:df}{s42:d}{s50:(D d)}{s51:d}{s94:(D (D d))}{b14:ai}{b14_1:aj}{b14_2:al}{b14_3:ao}{b34:(D d)}{b34_1:d}(hc:CV (b14,(b14_1,(b14_2,b14_3)))):∀(n i:H),i+n=3->Iq s1 s2 s3 s4 s15 s17 s41 s42 s50 s51 s94 (i:d) b14 b14_1 b14_2 b14_3 b34 b34_1=z (.inr (s1,s2,s3,s4,s15,s41,s42,s50,s51,b14,b14_1,b14_2,b14_3,b34,b34_1))
 |0,i,hi=>by
  rw[WE];simp only[j2j];rw[ak aa,jd,ba]
 |n+1,i,hi=>by
  have ih:=a_ (s1:=s1) (s2:=s2) (s3:=s3) (s4:=s4) (s15:=s15) (s17:=s17) (s41:=s41) (s42:=s42) (s50:=s50) (s51:=s51) (s94:=s94) (b14:=b14) (b14_1:=b14_1) (b14_2:=b14_2) (b14_3:=b14_3) (b34:=b34) (b34_1:=b34_1) hc n (i+1) aa;obtain⟨m,f,w1,w2,w3⟩:=jxw hc s17 ((s94.getD i (J 2 0)).getD 0 0) ((s94.getD i (J 2 0)).getD 1 0);rw[WE];simp only[j2j];rw[ah aa,bP,ar (x:=(i:d)+1)];simp only[jc,je,w1,w2,ja,jyR (show m.length<=1000000 by omega),jk,jm,jd,aV];exact ih
theorem st2{s1:d}{s2:d}{s3:d}{s4:d}{s15:d}{s41:df}{s42:d}{s50:(D d)}{b14:ai}{b14_1:aj}{b14_2:al}{b14_3:ao}{b34:(D d)}(hc:CV (b14,(b14_1,(b14_2,b14_3)))):∀(n i:H)(a:d),i+n=3->di b34 a->∃a',Ir s1 s2 s3 s4 s15 s41 s42 s50 (i:d) b14 b14_1 b14_2 b14_3 b34 a=z (.inr (s1,s2,s3,s4,s15,s41,s42,b14,b14_1,b14_2,b14_3,b34,a'))/\di b34 a'
 |0,i,a,hi,hd=>by
  rw[WG];simp only[j2k];rw[ak aa,jd,ba];exact⟨a,rfl,hd⟩
 |n+1,i,a,hi,hd=>by
  obtain⟨t,a1,e1,_,_,d1⟩:=Jl hd;obtain⟨a',ih,fW⟩:=st2 (s1:=s1) (s2:=s2) (s3:=s3) (s4:=s4) (s15:=s15) (s41:=s41) (s42:=s42) (s50:=s50) (b14:=b14) (b14_1:=b14_1) (b14_2:=b14_2) (b14_3:=b14_3) (b34:=b34) hc n (i+1) a1 aa d1;refine⟨a',?_,fW⟩;rw[WG];simp only[j2k];rw[ah aa,bP];simp only[jc,je,e1,ja];have h4:=_9 (s1:=s1) (s2:=s2) (s3:=s3) (s4:=s4) (s15:=s15) (s17:=s50.getD i 0) (s41:=s41) (s42:=s42) (s50:=s50) (s51:=(i:d)) (s58:=[s1,s15,t]) (b14:=b14) (b14_1:=b14_1) (b14_2:=b14_2) (b14_3:=b14_3) (b34:=b34) (b34_1:=a1) hc 3 0 aa;have h6:=λs=>a_ (s1:=s1) (s2:=s2) (s3:=s3) (s4:=s4) (s15:=s15) (s17:=s50.getD i 0) (s41:=s41) (s42:=s42) (s50:=s50) (s51:=(i:d)) (s94:=s) (b14:=b14) (b14_1:=b14_1) (b14_2:=b14_2) (b14_3:=b14_3) (b34:=b34) (b34_1:=a1) hc 3 0 aa;rw[show ((0:H):d)=0 from rfl]at h4;simp only[show ((0:H):d)=0 from rfl]at h6;simp only[h4,ja,sumC,h6];rw[ar (x:=(i:d)+1),aV];exact ih
theorem b_{s1:d}{s2:d}{s3:d}{s4:d}{s41:df}{s42:d}{s133:(D d)}{b14:ai}{b14_1:aj}{b14_2:al}{b14_3:ao}{b34:(D d)}(hc:CV (b14,(b14_1,(b14_2,b14_3)))):∀(n i:H)(a:d),i+n=3->di b34 a->∃a',Is s1 s2 s3 s4 s41 s42 s133 (i:d) b14 b14_1 b14_2 b14_3 b34 a=z (.inr (s1,s2,s3,s4,s41,s42,b34,a'))/\di b34 a'
 |0,i,a,hi,hd=>by
  rw[WH];simp only[j2l];rw[ak aa,jd,ba];exact⟨a,rfl,hd⟩
 |n+1,i,a,hi,hd=>by
  obtain⟨t,a1,e1,_,_,d1⟩:=dH (n:=5) hd aa aa;obtain⟨a',ih,fW⟩:=b_ (s1:=s1) (s2:=s2) (s3:=s3) (s4:=s4) (s41:=s41) (s42:=s42) (s133:=s133) (b14:=b14) (b14_1:=b14_1) (b14_2:=b14_2) (b14_3:=b14_3) (b34:=b34) hc n (i+1) a1 aa d1;refine⟨a',?_,fW⟩;have h1:=hc.one;dsimp only at h1;have hm:b14_3.getD 0 (A,(([]:an),([]:ax)))∈b14_3:=by rw[show b14_3.getD 0 (A,(([]:an),([]:ax)))=b14_3[0]'aa by simp[F,show 0<b14_3.length by omega]];exact ju _
  have hv:=(hc.s _ hm).el;generalize Ud:b14_3.getD 0 (A,(([]:an),([]:ax)))=s at hv;rw[WH];simp only[j2l];rw[ah aa,cb (show (0:d)<=(i:d) by omega) aa,cb (show (0:d)<=0 by omega) (show (0:d)<(b14_3.length:d) by omega),ar (x:=(i:d)+1)];simp only[jc,je,e1,ja,Ud,Y6 (nm:=s.1) (ls:=s.2.1) (es:=s.2.2) (show s.2.2.length<=1000 by omega),_T (nm:=s.1) (ls:=s.2.1) (es:=s.2.2) (show s.2.2.length<=1000 by omega),ql,jk,jd,aV];exact ih
theorem c_{s1:d}{s2:d}{s3:d}{s4:d}{s41:df}{b34:(D d)}(hc:∀k∈s41,CV k)(hl:s41.length=2):∀(n i:H)(a:d),i+n=2->di b34 a->It s1 s2 s3 s4 s41 (i:d) b34 a=z (.inr ())
 |0,i,a,hi,hd=>by
  rw[WI];simp only[j2m];rw[ak aa,jd,ba]
 |n+1,i,a,hi,hd=>by
  have hm:s41.getD i (([]:ai),(([]:aj),(([]:al),([]:ao))))∈s41:=by rw[show s41.getD i (([]:ai),(([]:aj),(([]:al),([]:ao))))=s41[i]'aa by simp[F,show i<s41.length by omega]];exact ju _
  have hk:=hc _ hm;generalize hke:s41.getD i (([]:ai),(([]:aj),(([]:al),([]:ao))))=k at hk;obtain⟨t,a1,e1,_,_,d1⟩:=Jl hd;obtain⟨q,a2,e2,_,_,d2⟩:=dH (n:=3) d1 aa aa;obtain⟨a3,e3,d3⟩:=st2 (s1:=s1) (s2:=s2) (s3:=s3) (s4:=s4) (s15:=t) (s41:=s41) (s42:=(i:d)) (s50:=[(0:d),q,s4]) (b14:=k.1) (b14_1:=k.2.1) (b14_2:=k.2.2.1) (b14_3:=k.2.2.2) (b34:=b34) hk 3 0 a2 aa d2;obtain⟨u,a4,e4,_,_,d4⟩:=Jl d3;obtain⟨a5,e5,d5⟩:=b_ (s1:=s1) (s2:=s2) (s3:=s3) (s4:=s4) (s41:=s41) (s42:=(i:d)) (s133:=[s1,t,u]) (b14:=k.1) (b14_1:=k.2.1) (b14_2:=k.2.2.1) (b14_3:=k.2.2.2) (b34:=b34) hk 3 0 a4 aa d4;have ih:=c_ (s1:=s1) (s2:=s2) (s3:=s3) (s4:=s4) (s41:=s41) (b34:=b34) hc hl n (i+1) a5 aa d5;rw[show ((0:H):d)=0 from rfl]at e3 e5;rw[WI];simp only[j2m];rw[ah aa,bP];simp only[jc,je,hke,e1,e2,ja,e3,sumC,e4,e5];rw[ar (x:=(i:d)+1),aV];exact ih
theorem jm2(t:D d)(_h:Wf (.list (.int .i64)) t)(x:d)(_h1:Wf (.int .i64) x)(f:d)(_h2:Wf (.int .i64) f)(to:d)(_h3:Wf (.int .i64) to)(sc:d)(_h4:Wf (.int .i64) sc):jao t x f to sc=z true:=by
 simp only[jao,jj7,ja,show E (List.length t)=(t.length:d) from rfl];by_cases hl:(t.length:d)<=500
 case neg=>rw[ak hl];simp[XP]
 rw[ah hl];simp only[jk,jd,jlf,ja];obtain⟨zs,ps,cs,ss,a1,e1,hs,g1,g2,g3,d1⟩:=juz (L:=t) (a:=0) (n:=2) ⟨aa,aa,aa⟩ aa aa;obtain⟨k,a2,e2,hv,d2⟩:=jBi d1 hs g3 g1 aa
 have e3:=c_ (s1:=x) (s2:=f) (s3:=to) (s4:=sc) (s41:=[(zs,(ps,(cs,ss))),(k.1,(k.2.1,(k.2.2.1,k.2.2.2)))]) (b34:=t) (λy hy=>by
  simp only[jl,vb,or_false]at hy;rcases hy with rfl|rfl
  .exact jCX hs g3 g1
  .exact hv) rfl 2 0 a2 aa d2
 rw[show ((0:H):d)=0 from rfl]at e3;simp only[e1,e2,e3,ja,sumC,XP]
end Go.Proofs.Pw
