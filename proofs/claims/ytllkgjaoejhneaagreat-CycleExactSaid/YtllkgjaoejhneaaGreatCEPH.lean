/- gH 8: NF of any iG: NG and yY. -/
import Derived.Test.YtllkgjaoejhneaaGreatCEPG
import Derived.Test.YtllkgjaoejhneaaGreatCEPE
open _root_ renaming Int->j,ByteArray->p,List->r,Nat->D
open Int renaming ofNat->k,tdiv->F
open Option renaming some->l
open Decidable renaming decide->o
open Bool renaming true->y,false->E
open ByteArray renaming empty->A,mk->G
open List renaming getD->B
open Go Go.Lft
namespace Go.Proofs.Pw
def rE{α:Type}(u:α)(e:j):j ⊕ α:=if e=0 then .inr u else .inl e
theorem gy{α:Type}(u:α):rE u 0 = .inr u:=rfl
theorem bY{α:Type}(u:α){e:j}(h:e≠0):rE u e = .inl e:=if_neg h
theorem xh(i:j){n:D}(hn:n<=1000000):∃b,j16 i (n:j)=l b/\j68 i 0 (w64 ((n:j)-1))=l b:=by
 refine⟨_,rfl,?_⟩;simp only[j68];rw[au (x:=(n:j)-1),show o (i<=(n:j)-1)=o (i<(n:j)) from decide_eq_decide.2 aa]
section
variable{zs:r bz}{ps:r cZ}{cs:r aT}{ss:r cL}
theorem U9(eN:zs.length<=100)(hl:ps.length<=100):∀(n i:D)(L:r p),i+n=ps.length->L.length=i->
  ∃e,Cf ps (ps.length:j) (i:j) zs ps cs ss (mm L)=l (rE (zs,ps,cs,ss) e)/\FH (i:j) zs ps cs ss L=l (rE () e)
 |0,i,L,hi,_=>by
  rw[RN,Sk];simp only[j2M,j46,show k ps.length=(ps.length:j) from rfl];rw[al (show¬(i:j)<(ps.length:j) by omega)];simp only[jd,bd];exact⟨0,rfl,rfl⟩
 |n+1,i,L,hi,hL=>by
  have ay:i<ps.length:=aa;have bG:ps.getD i (A,((0:j),(([]:WL),((0:j),((0:j),E)))))=ps[i]:=by simp[B,ay]
  have ih:=U9 eN hl n (i+1) (L++[ps[i].1]) aa aN;obtain⟨en,n1,n2⟩:=Dt (L:=L) aa ps[i].1;obtain⟨b,b1,b2⟩:=xh ps[i].2.1 (n:=zs.length) aa;obtain⟨c,c1,c2,_⟩:=ND ps[i].2.2.1;obtain⟨h1,q1⟩:∃h1,j4R ps[i].2.2.2.1=l h1:=⟨_,rfl⟩;have q2:jds ps[i].2.2.2.1=l h1:=q1;obtain⟨h2,q3⟩:∃h2,j4R ps[i].2.2.2.2.1=l h2:=⟨_,rfl⟩;have q4:jds ps[i].2.2.2.2.1=l h2:=q3;rw[hL]at n2;rw[RN,Sk];simp only[j2M,j46,show k ps.length=(ps.length:j) from rfl];rw[ai (show (i:j)<(ps.length:j) by omega),bR,au (x:=(i:j)+1)];simp only[jc,je,bG,n1,ja];rw[ai (show L.length+[ps[i].1].length<=aR by simp[aR];omega)];simp only[jc,n2,ja];cases (ps[i].1.toList==(G #[110,111,98,111,100,121]).toList) with
  |true=>exact⟨2,rfl,rfl⟩
  |false=>
   simp only[jd];by_cases he:en=0
   .subst he;simp only[kv,jc,ji,jd,if_true];have hcp:j3F (zs,(ps,(cs,ss))) (ps[i].1,(ps[i].2.1,(ps[i].2.2.1,(ps[i].2.2.2.1,(ps[i].2.2.2.2.1,ps[i].2.2.2.2.2)))))=cond (!b) (l 3) (cond (c != 0) (l 8) (cond (!h1) (l 1) (cond (!h2) (l 1) (l 0)))):=by simp only[j3F,show k zs.length=(zs.length:j) from rfl,b1,c1,q1,q3,ja]
    rw[hcp];simp only[show k zs.length=(zs.length:j) from rfl,b2,c2,q2,q4,ja];cases b with
    |false=>exact⟨3,rfl,rfl⟩
    |true=>
     simp only[jl,jd];cases (c != 0) with
     |true=>exact⟨8,rfl,rfl⟩
     |false=>
      simp only[jd];cases h1 with
      |false=>exact⟨1,rfl,rfl⟩
      |true=>
       cases h2 with
       |false=>exact⟨1,rfl,rfl⟩
       |true=>obtain⟨e,e1,e2⟩:=ih;exact⟨e,e1,e2⟩
   .rw[cN he,show (en != 0)=y by simpa using he];exact⟨en,by rw[bY _ he];rfl,by rw[bY _ he];rfl⟩
theorem Va(eN:zs.length<=100)(hl:ps.length<=100):∃e,Cf ps (ps.length:j) 0 zs ps cs ss []=l (rE (zs,ps,cs,ss) e)/\jeb (zs,(ps,(cs,ss)))=l e:=by
 obtain⟨e,e1,e2⟩:=U9 (zs:=zs) (ps:=ps) (cs:=cs) (ss:=ss) eN hl ps.length 0 [] aa rfl;rw[show ((0:D):j)=0 from rfl]at e1 e2;refine⟨e,e1,?_⟩;simp only[jeb,e2,ja];by_cases he:e=0
 .subst he;rfl
 .rw[bY _ he];rfl
theorem Vb{ds:r j}(hl:ds.length<=100000){m:j}{nm:p}{z:j}{l3:r p}:∀(n i:D),i+n=ds.length->∃q e,((Cd ds (ds.length:j) (i:j)).bind λq0=>sumC q0 (λa=>l a) (λ_=>l (-1:j)))=l q/\
   FI m (i:j) zs ps cs ss nm z ds l3=l (rE (m,zs,ps,cs,ss,nm,z,ds,l3) e)/\(e=if q>=0 then 1 else 0)
 |0,i,hi=>by
  rw[Fe,Sl];simp only[j0t,j2P,show k ds.length=(ds.length:j) from rfl];rw[al (show¬(i:j)<(ds.length:j) by omega)];simp only[jd,bd];exact⟨-1,0,rfl,rfl,rfl⟩
 |n+1,i,hi=>by
  have ay:i<ds.length:=aa;have bG:ds.getD i (0:j)=ds[i]:=by simp[B,ay]
  obtain⟨q,e,q1,q2,q3⟩:=Vb hl n (i+1) aa;rw[Fe,Sl];simp only[j0t,j2P,j30,show k ds.length=(ds.length:j) from rfl];rw[ai (show (i:j)<(ds.length:j) by omega),bR,au (x:=(i:j)+1)];simp only[jc,je,bG,xd,Nu,ja,j68];by_cases h0:0<=ds[i]
  .by_cases h1:ds[i]<=98980
   .rw[ai h0,ai h1];exact⟨q,e,q1,q2,q3⟩
   .rw[ai h0,al h1];exact⟨(i:j),1,rfl,rfl,by rw[if_pos aa]⟩
  .rw[al h0];exact⟨(i:j),1,rfl,rfl,by rw[if_pos aa]⟩
theorem NH{ds:r j}(hl:ds.length<=100000){m:j}{nm:p}{z:j}{l3:r p}:∀(n i:D),i+1+n=ds.length\/(ds.length=0/\n=0/\i=0)->∃e,
   yF (ds.length:j) ((i+1:D):j) nm z ds=l (rE () e)/\FJ m ((i+1:D):j) zs ps cs ss nm z ds l3=l (rE (m,zs,ps,cs,ss,l3) e)
 |0,i,hi=>by
  rw[yG,Sn];simp only[j0n,j2Q,show k ds.length=(ds.length:j) from rfl];rw[al (show¬((i+1:D):j)<(ds.length:j) by omega)];simp only[jd,bd];exact⟨0,rfl,rfl⟩
 |n+1,i,hi=>by
  have ay:i+1<ds.length:=aa;obtain⟨e,e1,e2⟩:=NH (m:=m) (nm:=nm) (z:=z) (l3:=l3) hl n (i+1) aa;rw[yG,Sn];simp only[j0n,j2Q,show k ds.length=(ds.length:j) from rfl]
  rw[ai (show ((i+1:D):j)<(ds.length:j) by omega),ai (show ((i+1:D):j)>0 by omega),au (x:=((i+1:D):j)-1),au (x:=((i+1:D):j)+1),
   cG (show (0:j)<=((i+1:D):j) by omega) aa,cG (show (0:j)<=((i+1:D):j)-1 by omega) aa]
  simp only[jc];cases o (ds.getD ((i+1:D):j).toNat 0<=ds.getD (((i+1:D):j)-1).toNat 0) with
  |true=>exact⟨6,rfl,rfl⟩
  |false=>simp only[jd,aZ];exact⟨e,e1,e2⟩
theorem NI(eN:zs.length<=100)(hl:cs.length<=100):∀(n i:D)(L:r p),i+n=cs.length->L.length=i->
  ∃e,wI zs ps cs ss cs (cs.length:j) (i:j) (mm L)=l (rE () e)/\FK (i:j) zs ps cs ss L=l (rE () e)
 |0,i,L,hi,_=>by
  rw[Ke,Sp];simp only[j0v,j2R,show k cs.length=(cs.length:j) from rfl];rw[al (show¬(i:j)<(cs.length:j) by omega)];simp only[jd,bd];exact⟨0,rfl,rfl⟩
 |n+1,i,L,hi,hL=>by
  have ay:i<cs.length:=aa;have bG:cs.getD i (A,((0:j),([]:r j)))=cs[i]:=by simp[B,ay]
  have ih:=NI eN hl n (i+1) (L++[cs[i].1]) aa aN;obtain⟨en,n1,n2⟩:=Dt (L:=L) aa cs[i].1;obtain⟨b,b1,b2⟩:=xh cs[i].2.1 (n:=zs.length) aa;rw[hL]at n2;rw[Ke,Sp];simp only[j0v,j2R,j6F,j6G,show k cs.length=(cs.length:j) from rfl];rw[ai (show (i:j)<(cs.length:j) by omega),bR,au (x:=(i:j)+1)];simp only[jc,je,bG,n1,ja];rw[ai (show L.length+[cs[i].1].length<=aR by simp[aR];omega)];simp only[jc,n2,ja];by_cases he:en=0
  .subst he;simp only[ji,jd,if_true,j1e,show k zs.length=(zs.length:j) from rfl,b1,b2,ja];cases b with
   |false=>exact⟨3,rfl,rfl⟩
   |true=>
    simp only[jl,jd,show k cs[i].2.2.length=(cs[i].2.2.length:j) from rfl];by_cases Du:(cs[i].2.2.length:j)>64
    .rw[ai Du];exact⟨5,rfl,rfl⟩
    .rw[al Du];simp only[jd];obtain⟨q,e,q1,q2,q3⟩:=Vb (zs:=zs) (ps:=ps) (cs:=cs) (ss:=ss) (ds:=cs[i].2.2) (m:=(i:j)) (nm:=cs[i].1) (z:=cs[i].2.1) (l3:=L++[cs[i].1]) aa cs[i].2.2.length 0 aa;rw[show ((0:D):j)=0 from rfl]at q1 q2;have xi:j19 cs[i].2.2=l (o (q>=0)):=by simp only[j19,j31,show k cs[i].2.2.length=(cs[i].2.2.length:j) from rfl];rw[q1];rfl
     rw[xi,q2];by_cases hq:q>=0
     .rw[if_pos hq]at q3;subst q3;rw[ai hq];exact⟨1,rfl,rfl⟩
     .rw[if_neg hq]at q3;subst q3;rw[al hq,gy];simp only[ja,jd,kW];obtain⟨e,e1,e2⟩:=NH (zs:=zs) (ps:=ps) (cs:=cs) (ss:=ss) (ds:=cs[i].2.2) (m:=(i:j)) (nm:=cs[i].1) (z:=cs[i].2.1) (l3:=L++[cs[i].1]) aa (cs[i].2.2.length-1) 0 aa;rw[show ((0+1:D):j)=1 from rfl]at e1 e2
      have e0:yF (cs[i].2.2.length:j) 0 cs[i].1 cs[i].2.1 cs[i].2.2=l (rE () e):=by
       rw[yG];simp only[j0n];by_cases hp:(0:j)<(cs[i].2.2.length:j)
       .rw[ai hp,al (show¬(0:j)>0 by omega)];simp only[jc,jd,aZ];exact e1
       .rw[yG]at e1;simp only[j0n]at e1;rw[al (show¬(1:j)<(cs[i].2.2.length:j) by omega)]at e1;rw[al hp];exact e1
      rw[e0,e2];simp only[ja];by_cases h0:e=0
      .subst h0;rw[gy,gy];simp only[kW,ja,ji,jd,aZ];rw[au (x:=(i:j)+1)];exact ih
      .rw[bY _ h0,bY _ h0];refine⟨e,?_,?_⟩
       .rw[bY _ h0];simp only[pH,ja];rw[show (e != 0)=y by simpa using h0];rfl
       .rw[bY _ h0];rfl
  .rw[show (en != 0)=y by simpa using he];exact⟨en,by rw[bY _ he];rfl,by rw[bY _ he];rfl⟩
theorem jvc(eN:zs.length<=100)(hl:cs.length<=100):∃e,j1G cs zs ps cs ss=l e/\j9y (zs,(ps,(cs,ss)))=l e:=by
 obtain⟨e,e1,e2⟩:=NI (zs:=zs) (ps:=ps) (cs:=cs) (ss:=ss) eN hl cs.length 0 [] aa rfl;rw[show ((0:D):j)=0 from rfl]at e1 e2;refine⟨e,?_,?_⟩
 .simp only[j1G,show k cs.length=(cs.length:j) from rfl];rw[show wI zs ps cs ss cs (cs.length:j) 0 []=_ from e1];by_cases he:e=0
  .subst he;rfl
  .rw[bY _ he];rfl
 .simp only[j9y,e2,ja];by_cases he:e=0
  .subst he;rfl
  .rw[bY _ he];rfl
end
theorem Dv(n lo hi:j):∃b,j2B n lo hi=l b/\j68 n lo hi=l b:=⟨_,rfl,rfl⟩
section
variable{zs:r bz}{ps:r cZ}{cs:r aT}{ss:r cL}
theorem Vc(fa:ps.length<=100){L:bh}(hl:L.2.2.2.2.2.1.length<=100):∀(n i:D),i+n=L.2.2.2.2.2.1.length->∃q e,((Ce L.2.2.2.2.2.1 zs ps cs ss (L.2.2.2.2.2.1.length:j) (i:j)).bind λq0=>sumC q0 (λa=>l a) (λ_=>l (-1:j)))=l q/\
   FL (i:j) zs ps cs ss L.1 L.2.1 L.2.2.1.1 L.2.2.1.2 L.2.2.2.1 L.2.2.2.2.1 L.2.2.2.2.2.1 L.2.2.2.2.2.2.1 L.2.2.2.2.2.2.2.1 L.2.2.2.2.2.2.2.2=l (rE (zs,ps,cs,ss,L.1,L.2.1,L.2.2.1.1,L.2.2.1.2,L.2.2.2.1,L.2.2.2.2.1,L.2.2.2.2.2.1,L.2.2.2.2.2.2.1,L.2.2.2.2.2.2.2.1,L.2.2.2.2.2.2.2.2) e)/\
   (e=if q>=0 then 3 else 0)
 |0,i,hi=>by
  rw[Ff,Sq];simp only[j0o,j4E,show k L.2.2.2.2.2.1.length=(L.2.2.2.2.2.1.length:j) from rfl];rw[al (show¬(i:j)<(L.2.2.2.2.2.1.length:j) by omega)];simp only[jd,bd];exact⟨-1,0,rfl,rfl,rfl⟩
 |n+1,i,hi=>by
  have ay:i<L.2.2.2.2.2.1.length:=aa;have bG:L.2.2.2.2.2.1.getD i (0:j)=L.2.2.2.2.2.1[i]:=by simp[B,ay]
  obtain⟨q,e,q1,q2,q3⟩:=Vc fa hl n (i+1) aa;obtain⟨b,b1,b2⟩:=xh L.2.2.2.2.2.1[i] (n:=ps.length) aa;rw[Ff,Sq];simp only[j0o,j4E,j40,show k L.2.2.2.2.2.1.length=(L.2.2.2.2.2.1.length:j) from rfl,show k ps.length=(ps.length:j) from rfl];rw[ai (show (i:j)<(L.2.2.2.2.2.1.length:j) by omega),bR,au (x:=(i:j)+1)];simp only[jc,je,bG,b1,b2,ja];cases b with
  |true=>simp only[jl,jd,aZ];exact⟨q,e,q1,q2,q3⟩
  |false=>exact⟨(i:j),3,rfl,rfl,by rw[if_pos aa]⟩
theorem jx3(eN:zs.length<=100)(fa:ps.length<=100)(dq:cs.length<=100)(L:bh):∃e,j1d (zs,(ps,(cs,ss))) L=l e/\jdu (zs,(ps,(cs,ss))) L=l e:=by
 obtain⟨b1,p1,p2⟩:=xh L.2.1 (n:=zs.length) aa;obtain⟨b3,s1,s2⟩:=Dv L.2.2.1.2 0 86399;obtain⟨b4,s3,s4⟩:=Dv L.2.2.2.1 0 2;obtain⟨b5,s5,s6⟩:=Dv L.2.2.2.2.1 1 400;obtain⟨c,c1,c2,_⟩:=ND L.2.2.2.2.2.2.1;obtain⟨b6,s7,s8⟩:=Dv L.2.2.2.2.2.2.2.2 0 2;obtain⟨b7,p3,p4⟩:=xh L.2.2.2.2.2.2.2.1 (n:=cs.length) aa;simp only[j1d,jdu,show k zs.length=(zs.length:j) from rfl,show k cs.length=(cs.length:j) from rfl,show k L.2.2.2.2.2.1.length=(L.2.2.2.2.2.1.length:j) from rfl,p1,p2,ja];cases b1 with
 |false=>exact⟨3,rfl,rfl⟩
 |true=>
 simp only[jl,jd,xd,Nu,ja,s1,s2,s3,s4,s5,s6]
 have hd:j68 L.2.2.1.1 1 98980=l (o (1<=L.2.2.1.1)&&o (L.2.2.1.1<=98980)):=by
  simp only[j68];by_cases h:1<=L.2.2.1.1
  .rw[ai (show L.2.2.1.1>=1 from h),jc,zk]
  .rw[al (show¬L.2.2.1.1>=1 from h),jd,Bool.false_and]
 rw[hd];simp only[ja];by_cases h1:L.2.2.1.1<1
 .rw[ai h1,al (show¬1<=L.2.2.1.1 by omega)];exact⟨1,rfl,rfl⟩
 rw[al h1,ai (show 0<=L.2.2.1.1 by omega),ai (show 1<=L.2.2.1.1 by omega)];simp only[jd,zk];cases o (L.2.2.1.1<=98980) with
 |false=>exact⟨1,rfl,rfl⟩
 |true=>
 simp only[jl,jd];cases b3 with
 |false=>exact⟨1,rfl,rfl⟩
 |true=>
 cases b4 with
 |false=>exact⟨1,rfl,rfl⟩
 |true=>
 cases b5 with
 |false=>exact⟨1,rfl,rfl⟩
 |true=>
 simp only[jl,jd];by_cases h0:L.2.2.2.2.2.1.length=0
 .rw[show ((L.2.2.2.2.2.1.length:j)==0)=y by simp[h0]];exact⟨7,rfl,rfl⟩
 rw[cN (show (L.2.2.2.2.2.1.length:j)≠0 by omega),jd,jd];by_cases nn:(L.2.2.2.2.2.1.length:j)>12
 .rw[ai nn];exact⟨5,rfl,rfl⟩
 rw[al nn,jd,jd];obtain⟨q,e,q1,q2,q3⟩:=Vc (zs:=zs) (ps:=ps) (cs:=cs) (ss:=ss) fa (L:=L) aa L.2.2.2.2.2.1.length 0 aa;rw[show ((0:D):j)=0 from rfl]at q1 q2;have xi:j0Q L.2.2.2.2.2.1 zs ps cs ss=l (o (q>=0)):=by simp only[j0Q,j2e,show k L.2.2.2.2.2.1.length=(L.2.2.2.2.2.1.length:j) from rfl];rw[q1];rfl
 rw[xi,q2];by_cases hq:q>=0
 .rw[if_pos hq]at q3;subst q3;rw[ai hq];exact⟨3,rfl,rfl⟩
 rw[if_neg hq]at q3;subst q3;rw[al hq,gy];simp only[ja,jd,kW,c1,c2,s7,s8];cases (c != 0) with
 |true=>exact⟨8,rfl,rfl⟩
 |false=>
 simp only[jd];cases b6 with
 |false=>exact⟨1,rfl,rfl⟩
 |true=>
 simp only[jl,jd,show k cs.length=(cs.length:j) from rfl];rw[p3,p4];cases (L.2.2.2.2.2.2.2.2 != 0) with
 |true=>
  cases b7 with
  |false=>exact⟨3,rfl,rfl⟩
  |true=>
   simp only[jl,jd,jc,ja];cases (cond (L.2.2.2.2.2.2.2.2==0) (L.2.2.2.2.2.2.2.1 != 0) E) with
   |true=>exact⟨1,rfl,rfl⟩
   |false=>exact⟨0,rfl,rfl⟩
 |false=>
  simp only[jd];cases (cond (L.2.2.2.2.2.2.2.2==0) (L.2.2.2.2.2.2.2.1 != 0) E) with
  |true=>exact⟨1,rfl,rfl⟩
  |false=>exact⟨0,rfl,rfl⟩
theorem jx4(fa:ps.length<=100)(x:cO)(hx:x.2.2.2.2<=9223372036854775807):∃e,j0U (zs,(ps,(cs,ss))) x=l e/\jg0 (zs,(ps,(cs,ss))) x=l e:=by
 obtain⟨b1,s1,s2⟩:=Dv x.1 0 2;obtain⟨b2,p1,p2⟩:=xh x.2.1 (n:=ps.length) aa;obtain⟨b3,p3,p4⟩:=xh x.2.2.1 (n:=ps.length) aa
 have tail:∀X:Option j,X=(cond (cond (x.1 != 2) (x.2.2.1 != 0) E) (l 1) (cond (cond (x.1==2) (x.2.1==x.2.2.1) E) (l 4)
   (cond (cond (o (x.2.2.2.1<0)) y (o (x.2.2.2.2<0))) (l 1) ((j1o (w64 (F x.2.2.2.2 86400))).bind λr74=>cond (!r74) (l 1) (cond (o (x.2.2.2.1>=x.2.2.2.2)) (l 6) (l 0))))))->
   ∀Y:Option j,Y=(cond (cond (x.1 != 2) (x.2.2.1 != 0) E) (l 1) (cond (cond (x.1==2) (x.2.1==x.2.2.1) E) (l 4)
   (cond (o (x.2.2.2.1<0)) (l 1) (cond (o (x.2.2.2.2<0)) (l 1) ((j8e).bind λr77=>cond (o (w64 (F x.2.2.2.2 86400)>r77)) (l 1) (cond (o (x.2.2.2.1>=x.2.2.2.2)) (l 6) (l 0)))))))->
   ∃e,X=l e/\Y=l e:=λX hX Y hY=>by
  rw[hX,hY];cases (cond (x.1 != 2) (x.2.2.1 != 0) E) with
  |true=>exact⟨1,rfl,rfl⟩
  |false=>
  cases (cond (x.1==2) (x.2.1==x.2.2.1) E) with
  |true=>exact⟨4,rfl,rfl⟩
  |false=>
  simp only[jd];by_cases hf:x.2.2.2.1<0
  .rw[ai hf];exact⟨1,rfl,rfl⟩
  rw[al hf];by_cases ht:x.2.2.2.2<0
  .rw[ai ht];exact⟨1,rfl,rfl⟩
  rw[al ht];simp only[jd,xd,Nu,ja];rw[qS aa,au (x:=x.2.2.2.2/86400),ai (show 0<=x.2.2.2.2/86400 by omega)];by_cases hm:x.2.2.2.2/86400<=98980
  .rw[ai hm,al (show¬x.2.2.2.2/86400>98980 by omega)];simp only[Bool.and_self,jl,jd];cases o (x.2.2.2.1>=x.2.2.2.2) with
   |true=>exact⟨6,rfl,rfl⟩
   |false=>exact⟨0,rfl,rfl⟩
  .rw[al hm,ai (show x.2.2.2.2/86400>98980 by omega)];exact⟨1,rfl,rfl⟩
 simp only[j0U,jg0,show k ps.length=(ps.length:j) from rfl,s1,s2,ja,p1,p2,p3,p4];cases b1 with
 |false=>exact⟨1,rfl,rfl⟩
 |true=>
 simp only[jl,jd];have ha:(cond (x.1 != 1) y (x.2.1 != -1)) = !(cond (x.1==1) (x.2.1 == -1) E):=by show (cond (!(x.1==1)) y (!(x.2.1 == -1)))=_;cases (x.1==1)<;>simp
 rw[ha];cases hA:(cond (!b2) (!(cond (x.1==1) (x.2.1 == -1) E)) E) with
 |true=>simp only[jc,jo,vw];exact⟨3,rfl,rfl⟩
 |false=>
 simp only[jd];cases hk:(x.1==2) with
 |true=>
  simp only[jc];cases b3 with
  |false=>exact⟨3,rfl,rfl⟩
  |true=>simp only[jl,jd];exact tail _ (by rw[hk];rfl) _ (by rw[hk];rfl)
 |false=>simp only[jd];exact tail _ (by rw[hk];rfl) _ (by rw[hk];rfl)
theorem NJ(fa:ps.length<=100){es:r cO}(hl:es.length<=100)(hx:∀x∈es,x.2.2.2.2<=9223372036854775807){m:j}{nm:p}{ls:r bh}{l3:r p}:∀(n i:D),i+n=es.length->∃e,
   yH es (es.length:j) (i:j) zs ps cs ss=l (rE () e)/\FN m (i:j) zs ps cs ss nm ls es l3=l (rE (m,zs,ps,cs,ss,l3) e)
 |0,i,hi=>by
  rw[Kg,Ss];simp only[j0V,j2T,show k es.length=(es.length:j) from rfl];rw[al (show¬(i:j)<(es.length:j) by omega)];simp only[jd,bd];exact⟨0,rfl,rfl⟩
 |n+1,i,hi=>by
  have ay:i<es.length:=aa;have bG:es.getD i ((0:j),((0:j),((0:j),((0:j),(0:j)))))=es[i]:=by simp[B,ay]
  obtain⟨e,e1,e2⟩:=NJ (m:=m) (nm:=nm) (ls:=ls) (l3:=l3) fa hl hx n (i+1) aa;obtain⟨c,c1,c2⟩:=jx4 (zs:=zs) (cs:=cs) (ss:=ss) fa es[i] (hx _ (jq ay));rw[Kg,Ss];simp only[j0V,j2T,show k es.length=(es.length:j) from rfl];rw[ai (show (i:j)<(es.length:j) by omega),bR,au (x:=(i:j)+1)];simp only[jc,je,bG];rw[show j0U (zs,(ps,(cs,ss))) (es[i].1,(es[i].2.1,(es[i].2.2.1,(es[i].2.2.2.1,es[i].2.2.2.2))))=_ from c1,show jg0 (zs,(ps,(cs,ss))) (es[i].1,(es[i].2.1,(es[i].2.2.1,(es[i].2.2.2.1,es[i].2.2.2.2))))=_ from c2];simp only[ja];by_cases hc:c=0
  .subst hc;simp only[ji,jd,aZ];exact⟨e,e1,e2⟩
  .rw[show (c != 0)=y by simpa using hc];exact⟨c,by rw[bY _ hc];rfl,by rw[bY _ hc];rfl⟩
theorem NK(eN:zs.length<=100)(fa:ps.length<=100)(dq:cs.length<=100){ls:r bh}(hl:ls.length<=100){m:j}{nm:p}{es:r cO}{l3:r p}:∀(n i:D)(L:r p),i+n=ls.length->L.length=i->
  ∃e,wJ zs ps cs ss ls (ls.length:j) (i:j) (mm L)=l (rE () e)/\FM m (i:j) zs ps cs ss nm ls es l3 L=l (rE (m,zs,ps,cs,ss,nm,ls,es,l3) e)
 |0,i,L,hi,_=>by
  rw[Kf,Sr];simp only[j0J,j2S,show k ls.length=(ls.length:j) from rfl];rw[al (show¬(i:j)<(ls.length:j) by omega)];simp only[jd,bd];exact⟨0,rfl,rfl⟩
 |n+1,i,L,hi,hL=>by
  have ay:i<ls.length:=aa;have bG:ls.getD i (A,((0:j),(((0:j),(0:j)),((0:j),((0:j),(([]:r j),(([]:WL),((0:j),(0:j)))))))))=ls[i]:=by simp[B,ay]
  have ih:=NK eN fa dq hl (m:=m) (nm:=nm) (es:=es) (l3:=l3) n (i+1) (L++[ls[i].1]) aa aN;obtain⟨en,n1,n2⟩:=Dt (L:=L) aa ls[i].1;obtain⟨c,c1,c2⟩:=jx3 (zs:=zs) (ps:=ps) (cs:=cs) (ss:=ss) eN fa dq ls[i];rw[hL]at n2;rw[Kf,Sr];simp only[j0J,j2S,j32,j33,show k ls.length=(ls.length:j) from rfl];rw[ai (show (i:j)<(ls.length:j) by omega),bR,au (x:=(i:j)+1)];simp only[jc,je,bG,n1,ja];rw[ai (show L.length+[ls[i].1].length<=aR by simp[aR];omega)];simp only[jc,n2,ja];by_cases he:en=0
  .subst he;simp only[ji,jd,if_true]
   rw[show j1d (zs,(ps,(cs,ss))) (ls[i].1,(ls[i].2.1,((ls[i].2.2.1.1,ls[i].2.2.1.2),(ls[i].2.2.2.1,(ls[i].2.2.2.2.1,(ls[i].2.2.2.2.2.1,(ls[i].2.2.2.2.2.2.1,(ls[i].2.2.2.2.2.2.2.1,ls[i].2.2.2.2.2.2.2.2))))))))=_ from c1,
    show jdu (zs,(ps,(cs,ss))) (ls[i].1,(ls[i].2.1,((ls[i].2.2.1.1,ls[i].2.2.1.2),(ls[i].2.2.2.1,(ls[i].2.2.2.2.1,(ls[i].2.2.2.2.2.1,(ls[i].2.2.2.2.2.2.1,(ls[i].2.2.2.2.2.2.2.1,ls[i].2.2.2.2.2.2.2.2))))))))=_ from c2]
   simp only[ja];by_cases hc:c=0
   .subst hc;simp only[ji,jd,aZ];exact ih
   .rw[show (c != 0)=y by simpa using hc];exact⟨c,by rw[bY _ hc];rfl,by rw[bY _ hc];rfl⟩
  .rw[show (en != 0)=y by simpa using he];exact⟨en,by rw[bY _ he];rfl,by rw[bY _ he];rfl⟩
theorem NL(eN:zs.length<=100)(fa:ps.length<=100)(dq:cs.length<=100)(hl:ss.length<=100)(hx:∀s∈ss,∀x∈s.2.2,x.2.2.2.2<=9223372036854775807):∀(n i:D)(L:r p),i+n=ss.length->L.length=i->
  ∃e,wK zs ps cs ss ss (ss.length:j) (i:j) (mm L)=l (rE () e)/\FO (i:j) zs ps cs ss L=l (rE () e)
 |0,i,L,hi,_=>by
  rw[Kh,Su];simp only[j0w,j2U,show k ss.length=(ss.length:j) from rfl];rw[al (show¬(i:j)<(ss.length:j) by omega)];simp only[jd,bd];exact⟨0,rfl,rfl⟩
 |n+1,i,L,hi,hL=>by
  have ay:i<ss.length:=aa;have bG:ss.getD i (A,(([]:r bh),([]:r cO)))=ss[i]:=by simp[B,ay]
  have ih:=NL eN fa dq hl hx n (i+1) (L++[ss[i].1]) aa aN;have hxi:=hx _ (jq ay);obtain⟨en,n1,n2⟩:=Dt (L:=L) aa ss[i].1;rw[hL]at n2;rw[Kh,Su];simp only[j0w,j2U,j6H,j6I,show k ss.length=(ss.length:j) from rfl];rw[ai (show (i:j)<(ss.length:j) by omega),bR,au (x:=(i:j)+1)];simp only[jc,je,bG,n1,ja];rw[ai (show L.length+[ss[i].1].length<=aR by simp[aR];omega)];simp only[jc,n2,ja];by_cases he:en=0
  .subst he;simp only[ji,jd,if_true,j1g,show k ss[i].2.1.length=(ss[i].2.1.length:j) from rfl,show k ss[i].2.2.length=(ss[i].2.2.length:j) from rfl];by_cases xj:(ss[i].2.1.length:j)>6\/(ss[i].2.2.length:j)>48
   .have hb:(cond (o ((ss[i].2.1.length:j)>6)) y (o ((ss[i].2.2.length:j)>48)))=true:=by
     rcases xj with h|h
     .rw[ai h];rfl
     .rw[ai h];cases o ((ss[i].2.1.length:j)>6)<;>rfl
    rw[hb];exact⟨5,rfl,rfl⟩
   .rw[al (λh=>xj (.inl h)),al (λh=>xj (.inr h))];simp only[jd];obtain⟨e,e1,e2⟩:=NK (zs:=zs) (ps:=ps) (cs:=cs) (ss:=ss) eN fa dq (ls:=ss[i].2.1) aa (m:=(i:j)) (nm:=ss[i].1) (es:=ss[i].2.2) (l3:=L++[ss[i].1]) ss[i].2.1.length 0 [] aa rfl;obtain⟨c,c1,c2⟩:=NJ (zs:=zs) (ps:=ps) (cs:=cs) (ss:=ss) fa (es:=ss[i].2.2) aa hxi (m:=(i:j)) (nm:=ss[i].1) (ls:=ss[i].2.1) (l3:=L++[ss[i].1]) ss[i].2.2.length 0 aa;rw[show ((0:D):j)=0 from rfl]at e1 e2 c1 c2
    have en:j2f ss[i].2.1 zs ps cs ss=l e:=by
     simp only[j2f,show k ss[i].2.1.length=(ss[i].2.1.length:j) from rfl];rw[show wJ zs ps cs ss ss[i].2.1 (ss[i].2.1.length:j) 0 []=_ from e1];by_cases h0:e=0
     .subst h0;rfl
     .rw[bY _ h0];rfl
    rw[en,e2];by_cases h0:e=0
    .subst h0;rw[gy];simp only[ja,ji,jd,kW,c1,c2];by_cases hc:c=0
     .subst hc;rw[gy,gy];simp only[ja,ji,jd,kW,aZ];rw[au (x:=(i:j)+1)];exact ih
     .rw[bY _ hc,bY _ hc];simp only[ja,pH];rw[show (c != 0)=y by simpa using hc];exact⟨c,by rw[bY _ hc];rfl,by rw[bY _ hc];rfl⟩
    .rw[bY _ h0];simp only[ja,pH];rw[show (e != 0)=y by simpa using h0];simp only[jc,ja];rw[show (e != 0)=y by simpa using h0];exact⟨e,by rw[bY _ h0];rfl,by rw[bY _ h0];rfl⟩
  .rw[show (en != 0)=y by simpa using he];exact⟨en,by rw[bY _ he];rfl,by rw[bY _ he];rfl⟩
theorem jx8(hz:∀z∈zs,ZF z)(hx:∀s∈ss,∀x∈s.2.2,x.2.2.2.2<=9223372036854775807):∃e,j2g (zs,(ps,(cs,ss)))=l e/\j6s (zs,(ps,(cs,ss)))=l e:=by
 simp only[j2g,j6s,show k zs.length=(zs.length:j) from rfl,show k ps.length=(ps.length:j) from rfl,show k cs.length=(cs.length:j) from rfl,show k ss.length=(ss.length:j) from rfl];cases hb:(cond (cond (cond (o ((zs.length:j)>16)) y (o ((ps.length:j)>32))) y (o ((cs.length:j)>8))) y (o ((ss.length:j)>12))) with
 |true=>exact⟨5,rfl,rfl⟩
 |false=>
  simp only[zo,zw,kg]at hb;simp only[jd];obtain⟨e,e1,e2⟩:=jtT (zs:=zs) (ps:=ps) (cs:=cs) (ss:=ss) hz aa;rw[e1,e2];simp only[ja];by_cases h0:e=0
  .subst h0;simp only[ji,jd];obtain⟨c,c1,c2⟩:=Va (zs:=zs) (ps:=ps) (cs:=cs) (ss:=ss) aa aa;rw[c1,c2];simp only[ja];by_cases h1:c=0
   .subst h1;obtain⟨d,d1,d2⟩:=jvc (zs:=zs) (ps:=ps) (cs:=cs) (ss:=ss) aa aa;simp only[gy,kW,ji,jd,d1,d2,ja];by_cases h2:d=0
    .subst h2;simp only[ji,jd];obtain⟨f,f1,f2⟩:=NL (zs:=zs) (ps:=ps) (cs:=cs) (ss:=ss) aa aa aa aa hx ss.length 0 [] aa rfl;rw[show ((0:D):j)=0 from rfl]at f1 f2;refine⟨f,?_,?_⟩
     .simp only[j2v,show k ss.length=(ss.length:j) from rfl];rw[show wK zs ps cs ss ss (ss.length:j) 0 []=_ from f1];by_cases hf:f=0
      .subst hf;rfl
      .rw[bY _ hf];rfl
     .simp only[jck,f2,ja];by_cases hf:f=0
      .subst hf;rfl
      .rw[bY _ hf];rfl
    .rw[show (d != 0)=y by simpa using h2];exact⟨d,rfl,rfl⟩
   .rw[bY _ h1,show (c != 0)=y by simpa using h1];exact⟨c,rfl,rfl⟩
  .rw[show (e != 0)=y by simpa using h0];exact⟨e,rfl,rfl⟩
end
end Go.Proofs.Pw
