/- gH 8: what is known of a iG that is found right. -/
import Derived.Test.YtllkgjaoejhneaaGreatCEPH
import Derived.Test.YtllkgjaoejhneaaGreatCEPE
import Derived.Test.YtllkgjaoejhneaaGreatCEPC
import Derived.Test.YtllkgjaoejhneaaGreatCEPF
open _root_ renaming Int->o,List->E,ByteArray->J,Nat->K,Bool->X
open ByteArray renaming mk->D,empty->H
open Int renaming ofNat->F,tmod->U,toNat->W
open Option renaming some->G
open List renaming getD->I,replicate->N,length->S
open Bool renaming true->M
open Decidable renaming decide->O
open Go Go.Lft
namespace Go.Proofs.Pw
theorem GR{n lo hi:o}(h:j2B n lo hi=G M):lo<=n/\n<=hi:=by
 simp only[j2B,jb]at h;by_cases h1:n>=lo
 .rw[ai h1,jc]at h;exact⟨h1,ky h⟩
 .rw[al h1]at h;simp at h
theorem GS{i n:o}(h:j16 i n=G M):0<=i/\i<n:=by
 simp only[j16,jb]at h;by_cases h1:i>=0
 .rw[ai h1,jc]at h;exact⟨h1,ky h⟩
 .rw[al h1]at h;simp at h
section
variable{zs:E bz}{ps:E cZ}{cs:E aT}{ss:E cL}
theorem Vd{ms:E o}(hl:ms.length<=100):∀(n i:K),i+n=ms.length->∃q,((Ce ms zs ps cs ss (ms.length:o) (i:o)).bind λq0=>sumC q0 (λa=>G a) (λ_=>G (-1:o)))=G q/\(¬q>=0->∀m∈ms.drop i,0<=m/\m<(ps.length:o))
 |0,i,hi=>by
  rw[Ff,jk aa];simp only[j0o];rw[al aa,jd,bd];exact⟨-1,rfl,λ_ m h=>by simp at h⟩
 |n+1,i,hi=>by
  have ay:i<ms.length:=aa;have bG:ms.getD i (0:o)=ms[i]:=by simp[I,ay]
  obtain⟨q,q1,q2⟩:=Vd hl n (i+1) aa;obtain⟨b,hb⟩:∃b,j16 ms[i] (ps.length:o)=G b:=⟨_,rfl⟩;rw[Ff,jj ay];simp only[j0o,j40,show F ps.length=(ps.length:o) from rfl];rw[ai (show (i:o)<(ms.length:o) by omega),bR,au (x:=(i:o)+1)];simp only[jc,je,bG,hb,ja];cases b with
  |true=>
   simp only[jl,jd,aZ];refine⟨q,q1,λhq m hm=>?_⟩;rcases jm.1 hm with rfl|hm
   .exact GS hb
   .exact q2 hq m hm
  |false=>exact⟨(i:o),rfl,λhq=>absurd aa hq⟩
theorem jyC{L:bh}(h:j1d (zs,(ps,(cs,ss))) L=G 0):yV zs.length ps.length cs.length L:=by
 obtain⟨b1,p1⟩:∃b,j16 L.2.1 (zs.length:o)=G b:=⟨_,rfl⟩;obtain⟨b3,s1⟩:∃b,j2B L.2.2.1.2 0 86399=G b:=⟨_,rfl⟩;obtain⟨b4,s3⟩:∃b,j2B L.2.2.2.1 0 2=G b:=⟨_,rfl⟩;obtain⟨b5,s5⟩:∃b,j2B L.2.2.2.2.1 1 400=G b:=⟨_,rfl⟩;obtain⟨c,c1,_,c3⟩:=ND L.2.2.2.2.2.2.1;obtain⟨b6,s7⟩:∃b,j2B L.2.2.2.2.2.2.2.2 0 2=G b:=⟨_,rfl⟩;obtain⟨b7,p3⟩:∃b,j16 L.2.2.2.2.2.2.2.1 (cs.length:o)=G b:=⟨_,rfl⟩;simp only[j1d,show F zs.length=(zs.length:o) from rfl,show F cs.length=(cs.length:o) from rfl,show F L.2.2.2.2.2.1.length=(L.2.2.2.2.2.1.length:o) from rfl,p1,ja,xd,s1,s3,s5]at h;cases b1 with
 |false=>simp at h
 |true=>
 simp only[jl,jd]at h;by_cases h1:L.2.2.1.1<1
 .rw[ai h1]at h;simp at h
 rw[al h1,ai (show 0<=L.2.2.1.1 by omega)]at h;simp only[jd,zk]at h;by_cases h2:L.2.2.1.1<=98980
 case neg=>rw[al h2]at h;simp at h
 rw[ai h2]at h;simp only[jl,jd]at h;cases b3 with
 |false=>simp at h
 |true=>
 cases b4 with
 |false=>simp at h
 |true=>
 cases b5 with
 |false=>simp at h
 |true=>
 simp only[jl,jd]at h;by_cases h0:L.2.2.2.2.2.1.length=0
 .rw[show ((L.2.2.2.2.2.1.length:o)==0)=M by simp[h0]]at h;simp at h
 rw[cN (show (L.2.2.2.2.2.1.length:o)≠0 by omega),jd]at h;by_cases nn:(L.2.2.2.2.2.1.length:o)>12
 .rw[ai nn]at h;simp at h
 rw[al nn,jd]at h;obtain⟨q,q1,q2⟩:=Vd (zs:=zs) (ps:=ps) (cs:=cs) (ss:=ss) (ms:=L.2.2.2.2.2.1) aa L.2.2.2.2.2.1.length 0 aa;rw[show ((0:K):o)=0 from rfl]at q1;have xi:j0Q L.2.2.2.2.2.1 zs ps cs ss=G (O (q>=0)):=by simp only[j0Q,j2e,show F L.2.2.2.2.2.1.length=(L.2.2.2.2.2.1.length:o) from rfl];rw[q1];rfl
 rw[xi]at h;by_cases hq:q>=0
 .rw[ai hq]at h;simp at h
 rw[al hq]at h;simp only[ja,jd,c1]at h;by_cases hc:c=0
 case neg=>rw[show (c != 0)=M by simpa using hc]at h;simp at h
 subst hc;simp only[ji,jd,s7,ja]at h;cases b6 with
 |false=>simp at h
 |true=>
 simp only[jl,jd,p3]at h;obtain⟨z0,z1⟩:=GS p1;obtain⟨t0,t1⟩:=GR s1;obtain⟨u0,u1⟩:=GR s3;obtain⟨e0,e1⟩:=GR s5;obtain⟨md0,md1⟩:=GR s7;obtain⟨w0,w1⟩:=c3 rfl;have pj:=q2 hq;rw[jw]at pj
 have cV:(L.2.2.2.2.2.2.2.2≠0->0<=L.2.2.2.2.2.2.2.1/\L.2.2.2.2.2.2.2.1<(cs.length:o))/\(L.2.2.2.2.2.2.2.2=0->L.2.2.2.2.2.2.2.1=0):=by
  by_cases hm:L.2.2.2.2.2.2.2.2=0
  .refine⟨λhn=>absurd hm hn,λ_=>?_⟩;rw[hm]at h;simp only[ji,jd,kv,jc]at h;apply zg;intro hn;rw[show (L.2.2.2.2.2.2.2.1 != 0)=M by simpa using hn]at h;simp at h
  .refine⟨λ_=>?_,λhn=>absurd hn hm⟩;rw[show (L.2.2.2.2.2.2.2.2 != 0)=M by simpa using hm]at h;simp only[jc,ja]at h;cases b7 with
   |false=>simp at h
   |true=>exact GS p3
 exact⟨z0,z1,aa,h2,t0,t1,u0,u1,e0,e1,h0,aa,pj,w0,w1,md0,md1,cV.1,cV.2⟩
theorem Ve{ds:E o}(hl:ds.length<=100):∀(n i:K),i+n=ds.length->∃q,((Cd ds (ds.length:o) (i:o)).bind λq0=>sumC q0 (λa=>G a) (λ_=>G (-1:o)))=G q/\(¬q>=0->∀d∈ds.drop i,0<=d/\d<=98980)
 |0,i,hi=>by
  rw[Fe,jk aa];simp only[j0t];rw[al aa,jd,bd];exact⟨-1,rfl,λ_ m h=>by simp at h⟩
 |n+1,i,hi=>by
  have ay:i<ds.length:=aa;have bG:ds.getD i (0:o)=ds[i]:=by simp[I,ay]
  obtain⟨q,q1,q2⟩:=Ve hl n (i+1) aa;rw[Fe,jj ay];simp only[j0t,j30];rw[ai (show (i:o)<(ds.length:o) by omega),bR,au (x:=(i:o)+1)];simp only[jc,je,bG,xd,ja];by_cases h:0<=ds[i]/\ds[i]<=98980
  .rw[ai h.1,ai h.2];simp only[Bool.and_self,jl,jd,aZ];refine⟨q,q1,λhq m hm=>?_⟩;rcases jm.1 hm with rfl|hm
   .exact h
   .exact q2 hq m hm
  .have:(O (0<=ds[i])&&O (ds[i]<=98980))=false:=by
    by_cases h0:0<=ds[i]
    .rw[al (λh1=>h ⟨h0,h1⟩),Bool.and_false]
    .rw[al h0,Bool.false_and]
   rw[this];exact⟨(i:o),rfl,λhq=>absurd aa hq⟩
theorem Vf{ds:E o}(hl:ds.length<=100){nm:J}{z:o}:∀(n i:K),i+1+n=ds.length->yF (ds.length:o) ((i+1:K):o) nm z ds=G (.inr ())->(ds.drop i).Pairwise (· < ·)
 |0,i,hi,_=>by
  have:ds.drop i=[ds[i]]:=by rw[jj aa,jk aa]
  rw[this];simp
 |n+1,i,hi,h=>by
  have ay:i+1<ds.length:=aa;have g1:ds.getD (i+1) (0:o)=ds[i+1]:=by simp[I,ay]
  have g0:ds.getD i (0:o)=ds[i]:=by simp[I,show i<ds.length by omega]
  rw[yG]at h;simp only[j0n]at h
  rw[ai (show ((i+1:K):o)<(ds.length:o) by omega),ai (show ((i+1:K):o)>0 by omega),au (x:=((i+1:K):o)-1),au (x:=((i+1:K):o)+1),
   cG (show (0:o)<=((i+1:K):o) by omega) aa,cG (show (0:o)<=((i+1:K):o)-1 by omega) aa,show (((i+1:K):o)-1).toNat=i by omega]at h
  simp only[jc,je,g1,g0]at h;by_cases hc:ds[i+1]<=ds[i]
  .rw[ai hc]at h;simp[bd]at h
  .rw[al hc]at h;simp only[jd,aZ]at h;have ih:=Vf hl n (i+1) aa h;rw[jj (show i<ds.length by omega)];refine List.pairwise_cons.2 ⟨λd hd=>?_,ih⟩;rw[jj ay]at hd ih;rcases jm.1 hd with rfl|hd
   .omega
   .have:=(List.pairwise_cons.1 ih).1 d hd;omega
theorem jyD{x:aT}(h:j1e (zs,(ps,(cs,ss))) x=G 0):oh zs.length x:=by
 obtain⟨b1,p1⟩:∃b,j16 x.2.1 (zs.length:o)=G b:=⟨_,rfl⟩;simp only[j1e,show F zs.length=(zs.length:o) from rfl,show F x.2.2.length=(x.2.2.length:o) from rfl,p1,ja]at h;cases b1 with
 |false=>simp at h
 |true=>
 simp only[jl,jd]at h;by_cases Du:(x.2.2.length:o)>64
 .rw[ai Du]at h;simp at h
 rw[al Du,jd]at h;obtain⟨q,q1,q2⟩:=Ve (ds:=x.2.2) aa x.2.2.length 0 aa;rw[show ((0:K):o)=0 from rfl]at q1;have xi:j19 x.2.2=G (O (q>=0)):=by simp only[j19,j31,show F x.2.2.length=(x.2.2.length:o) from rfl];rw[q1];rfl
 rw[xi]at h;by_cases hq:q>=0
 .rw[ai hq]at h;simp at h
 rw[al hq]at h;simp only[ja,jd]at h;have hd:=q2 hq;rw[jw]at hd
 have NM:x.2.2.Pairwise (· < ·):=by
  rcases Nat.eq_zero_or_pos x.2.2.length with h0|h0
  .rw[js h0];exact List.Pairwise.nil
  .rw[yG]at h;simp only[j0n]at h;rw[ai (show (0:o)<(x.2.2.length:o) by omega),al (show¬(0:o)>0 by omega)]at h;simp only[jc,jd,aZ]at h;rw[au (x:=(0:o)+1),show (0:o)+1=((0+1:K):o) from rfl]at h;obtain⟨e,e1,_⟩:=NH (zs:=zs) (ps:=ps) (cs:=cs) (ss:=ss) (ds:=x.2.2) (m:=0) (nm:=x.1) (z:=x.2.1) (l3:=[]) aa (x.2.2.length-1) 0 aa;rw[e1]at h;by_cases he:e=0
   .subst he;have:=Vf (ds:=x.2.2) aa (x.2.2.length-1) 0 aa e1;rwa[jw]at this
   .rw[bY _ he]at h;simp only[ja,pH,jb]at h;exact absurd h he
 obtain⟨z0,z1⟩:=GS p1;exact⟨z0,z1,aa,λd hm=>by rw[xd,ai (hd d hm).1,ai (hd d hm).2];rfl,NM⟩
theorem GU(s:J)(m:E (J×X)):∃e m',j3u s m=G (e,m'):=by
 obtain⟨b,b1,_⟩:=U1 s;simp only[j3u,b1,ja];cases b with
 |false=>exact⟨_,_,rfl⟩
 |true=>
  cases lK false m s with
  |true=>exact⟨_,_,rfl⟩
  |false=>exact⟨_,_,rfl⟩
theorem Vg(hl:zs.length<=100)(hz:∀z∈zs,ZF z):∀(n i:K)(m:E (J×X)),i+n=zs.length->wH zs (zs.length:o) (i:o) m=G (.inr ())->∀z∈zs.drop i,j1B z=G 0
 |0,i,m,hi,_=>by
  rw[jk aa];intro z h;simp at h
 |n+1,i,m,hi,h=>by
  have ay:i<zs.length:=aa;have bG:zs.getD i (H,((0:o),([]:E aP)))=zs[i]:=by simp[I,ay]
  obtain⟨e,m',hn⟩:=GU zs[i].1 m;obtain⟨ez,_,_,z1,_⟩:=NB zs[i] (hz _ (jq ay));rw[Kd]at h;simp only[j0P,j6E]at h;rw[ai (show (i:o)<(zs.length:o) by omega),bR,au (x:=(i:o)+1)]at h;simp only[jc,je,bG,ja,hn]at h;by_cases he:e=0
  .subst he;simp only[ji,jd]at h;rw[show j1B (zs[i].1,(zs[i].2.1,zs[i].2.2))=_ from z1]at h;simp only[ja]at h;by_cases h0:ez=0
   .subst h0;simp only[ji,jd,aZ]at h;rw[jj ay];intro z hm;rcases jm.1 hm with rfl|hm
    .exact z1
    .exact Vg hl hz n (i+1) m' aa h z hm
   .rw[show (ez != 0)=M by simpa using h0]at h;simp[bd]at h
  .rw[show (e != 0)=M by simpa using he]at h;simp[bd]at h
theorem Vh(eN:zs.length<=100)(hl:cs.length<=100):∀(n i:K)(m:E (J×X)),i+n=cs.length->wI zs ps cs ss cs (cs.length:o) (i:o) m=G (.inr ())->∀x∈cs.drop i,oh zs.length x
 |0,i,m,hi,_=>by
  rw[jk aa];intro z h;simp at h
 |n+1,i,m,hi,h=>by
  have ay:i<cs.length:=aa;have bG:cs.getD i (H,((0:o),([]:E o)))=cs[i]:=by simp[I,ay]
  obtain⟨e,m',hn⟩:=GU cs[i].1 m;rw[Ke]at h;simp only[j0v,j6F,j6G]at h;rw[ai (show (i:o)<(cs.length:o) by omega),bR,au (x:=(i:o)+1)]at h;simp only[jc,je,bG,ja,hn]at h;by_cases he:e=0
  .subst he;simp only[ji,jd]at h;cases hc:j1e (zs,(ps,(cs,ss))) cs[i]with
   |none=>rw[show j1e (zs,(ps,(cs,ss))) (cs[i].1,(cs[i].2.1,cs[i].2.2))=_ from hc]at h;simp[lpK]at h
   |some c=>
    rw[show j1e (zs,(ps,(cs,ss))) (cs[i].1,(cs[i].2.1,cs[i].2.2))=_ from hc]at h;simp only[ja]at h;by_cases h0:c=0
    .subst h0;simp only[ji,jd,aZ]at h;rw[jj ay];intro z hm;rcases jm.1 hm with rfl|hm
     .exact jyD hc
     .exact Vh eN hl n (i+1) m' aa h z hm
    .rw[show (c != 0)=M by simpa using h0]at h;simp[bd]at h
  .rw[show (e != 0)=M by simpa using he]at h;simp[bd]at h
theorem Vi{ls:E bh}(hl:ls.length<=100):∀(n i:K)(m:E (J×X)),i+n=ls.length->wJ zs ps cs ss ls (ls.length:o) (i:o) m=G (.inr ())->∀x∈ls.drop i,yV zs.length ps.length cs.length x
 |0,i,m,hi,_=>by
  rw[jk aa];intro z h;simp at h
 |n+1,i,m,hi,h=>by
  have ay:i<ls.length:=aa;have bG:ls.getD i (H,((0:o),(((0:o),(0:o)),((0:o),((0:o),(([]:E o),(([]:WL),((0:o),(0:o)))))))))=ls[i]:=by simp[I,ay]
  obtain⟨e,m',hn⟩:=GU ls[i].1 m;rw[Kf]at h;simp only[j0J,j32,j33]at h;rw[ai (show (i:o)<(ls.length:o) by omega),bR,au (x:=(i:o)+1)]at h;simp only[jc,je,bG,ja,hn]at h;by_cases he:e=0
  .subst he;simp only[ji,jd]at h;cases hc:j1d (zs,(ps,(cs,ss))) ls[i]with
   |none=>rw[show j1d (zs,(ps,(cs,ss))) (ls[i].1,(ls[i].2.1,((ls[i].2.2.1.1,ls[i].2.2.1.2),(ls[i].2.2.2.1,(ls[i].2.2.2.2.1,(ls[i].2.2.2.2.2.1,(ls[i].2.2.2.2.2.2.1,(ls[i].2.2.2.2.2.2.2.1,ls[i].2.2.2.2.2.2.2.2))))))))=_ from hc]at h;simp[lpK]at h
   |some c=>
    rw[show j1d (zs,(ps,(cs,ss))) (ls[i].1,(ls[i].2.1,((ls[i].2.2.1.1,ls[i].2.2.1.2),(ls[i].2.2.2.1,(ls[i].2.2.2.2.1,(ls[i].2.2.2.2.2.1,(ls[i].2.2.2.2.2.2.1,(ls[i].2.2.2.2.2.2.2.1,ls[i].2.2.2.2.2.2.2.2))))))))=_ from hc]at h;simp only[ja]at h;by_cases h0:c=0
    .subst h0;simp only[ji,jd,aZ]at h;rw[jj ay];intro z hm;rcases jm.1 hm with rfl|hm
     .exact jyC hc
     .exact Vi hl n (i+1) m' aa h z hm
    .rw[show (c != 0)=M by simpa using h0]at h;simp[bd]at h
  .rw[show (e != 0)=M by simpa using he]at h;simp[bd]at h
theorem Vj{es:E cO}(hl:es.length<=100):∀(n i:K),i+n=es.length->yH es (es.length:o) (i:o) zs ps cs ss=G (.inr ())->∀x∈es.drop i,j0U (zs,(ps,(cs,ss))) x=G 0
 |0,i,hi,_=>by
  rw[jk aa];intro z h;simp at h
 |n+1,i,hi,h=>by
  have ay:i<es.length:=aa;have bG:es.getD i ((0:o),((0:o),((0:o),((0:o),(0:o)))))=es[i]:=by simp[I,ay]
  rw[Kg]at h;simp only[j0V]at h;rw[ai (show (i:o)<(es.length:o) by omega),bR,au (x:=(i:o)+1)]at h;simp only[jc,je,bG]at h;cases hc:j0U (zs,(ps,(cs,ss))) es[i]with
  |none=>rw[show j0U (zs,(ps,(cs,ss))) (es[i].1,(es[i].2.1,(es[i].2.2.1,(es[i].2.2.2.1,es[i].2.2.2.2))))=_ from hc]at h;simp[lpK]at h
  |some c=>
   rw[show j0U (zs,(ps,(cs,ss))) (es[i].1,(es[i].2.1,(es[i].2.2.1,(es[i].2.2.2.1,es[i].2.2.2.2))))=_ from hc]at h;simp only[ja]at h;by_cases h0:c=0
   .subst h0;simp only[ji,jd,aZ]at h;rw[jj ay];intro z hm;rcases jm.1 hm with rfl|hm
    .exact hc
    .exact Vj hl n (i+1) aa h z hm
   .rw[show (c != 0)=M by simpa using h0]at h;simp[bd]at h
structure NN(zs:E bz)(ps:E cZ)(cs:E aT)(ss:E cL)(s:cL):Prop where
 ll:s.2.1.length<=6
 el:s.2.2.length<=48
 ly:∀x∈s.2.1,yV zs.length ps.length cs.length x
 ed:∀x∈s.2.2,j0U (zs,(ps,(cs,ss))) x=G 0
theorem Vk{α:Type}{u:α}{e c:o}(h:(G (rE u e):Option (o ⊕ α))=G (.inl c)):c≠0:=by
 by_cases h0:e=0
 .subst h0;rw[gy]at h;simp at h
 .rw[bY _ h0]at h;simp only[jb,Sum.inl.injEq]at h;omega
theorem jyE(eN:zs.length<=100)(fa:ps.length<=100)(dq:cs.length<=100){s:cL}(hx:∀x∈s.2.2,x.2.2.2.2<=9223372036854775807)(h:j1g (zs,(ps,(cs,ss))) s=G 0):NN zs ps cs ss s:=by
 simp only[j1g,show F s.2.1.length=(s.2.1.length:o) from rfl,show F s.2.2.length=(s.2.2.length:o) from rfl]at h;by_cases h6:(s.2.1.length:o)>6
 .rw[ai h6]at h;simp at h
 by_cases Vl:(s.2.2.length:o)>48
 .rw[al h6,ai Vl]at h;simp at h
 rw[al h6,al Vl]at h;simp only[jd,j2f,show F s.2.1.length=(s.2.1.length:o) from rfl]at h;obtain⟨e',e1,_⟩:=NK (zs:=zs) (ps:=ps) (cs:=cs) (ss:=ss) eN fa dq (ls:=s.2.1) aa (m:=0) (nm:=s.1) (es:=s.2.2) (l3:=[]) s.2.1.length 0 [] aa rfl;obtain⟨c',d1,_⟩:=NJ (zs:=zs) (ps:=ps) (cs:=cs) (ss:=ss) fa (es:=s.2.2) aa hx (m:=0) (nm:=s.1) (ls:=s.2.1) (l3:=[]) s.2.2.length 0 aa;rw[show ((0:K):o)=0 from rfl]at e1 d1;cases hn:wJ zs ps cs ss s.2.1 (s.2.1.length:o) 0 []with
 |none=>rw[hn]at h;simp at h
 |some r=>
  rw[hn]at h;cases r with
  |inl e=>have he:=Vk (e1.symm.trans hn);simp only[ja,pH]at h;rw[show (e != 0)=M by simpa using he]at h;simp only[jc,jb]at h;exact absurd h he
  |inr u=>
   simp only[ja,kW,ji,jd]at h;cases hm:yH s.2.2 (s.2.2.length:o) 0 zs ps cs ss with
   |none=>rw[hm]at h;simp at h
   |some r=>
    rw[hm]at h;cases r with
    |inl e=>have he:=Vk (d1.symm.trans hm);simp only[ja,pH,jb]at h;exact absurd h he
    |inr u2=>have a:=Vi (zs:=zs) (ps:=ps) (cs:=cs) (ss:=ss) (ls:=s.2.1) aa s.2.1.length 0 [] aa hn;have b:=Vj (zs:=zs) (ps:=ps) (cs:=cs) (ss:=ss) (es:=s.2.2) aa s.2.2.length 0 aa hm;rw[jw]at a b;exact⟨aa,aa,a,b⟩
theorem Vm(eN:zs.length<=100)(fa:ps.length<=100)(dq:cs.length<=100)(hl:ss.length<=100)(hx:∀s∈ss,∀x∈s.2.2,x.2.2.2.2<=9223372036854775807):∀(n i:K)(m:E (J×X)),i+n=ss.length->wK zs ps cs ss ss (ss.length:o) (i:o) m=G (.inr ())->∀s∈ss.drop i,NN zs ps cs ss s
 |0,i,m,hi,_=>by
  rw[jk aa];intro z h;simp at h
 |n+1,i,m,hi,h=>by
  have ay:i<ss.length:=aa;have bG:ss.getD i (H,(([]:E bh),([]:E cO)))=ss[i]:=by simp[I,ay]
  obtain⟨e,m',hn⟩:=GU ss[i].1 m;rw[Kh]at h;simp only[j0w,j6H,j6I]at h;rw[ai (show (i:o)<(ss.length:o) by omega),bR,au (x:=(i:o)+1)]at h;simp only[jc,je,bG,ja,hn]at h;by_cases he:e=0
  .subst he;simp only[ji,jd]at h;cases hc:j1g (zs,(ps,(cs,ss))) ss[i]with
   |none=>rw[show j1g (zs,(ps,(cs,ss))) (ss[i].1,(ss[i].2.1,ss[i].2.2))=_ from hc]at h;simp[lpK]at h
   |some c=>
    rw[show j1g (zs,(ps,(cs,ss))) (ss[i].1,(ss[i].2.1,ss[i].2.2))=_ from hc]at h;simp only[ja]at h;by_cases h0:c=0
    .subst h0;simp only[ji,jd,aZ]at h;rw[jj ay];intro z hm;rcases jm.1 hm with rfl|hm
     .exact jyE eN fa dq (hx _ (jq ay)) hc
     .exact Vm eN fa dq hl hx n (i+1) m' aa h z hm
    .rw[show (c != 0)=M by simpa using h0]at h;simp[bd]at h
  .rw[show (e != 0)=M by simpa using he]at h;simp[bd]at h
structure xk(zs:E bz)(ps:E cZ)(cs:E aT)(ss:E cL):Prop where
 zl:zs.length<=16
 pl:ps.length<=32
 cl:cs.length<=8
 sl:ss.length<=12
 z:∀z∈zs,j1B z=G 0
 c:∀x∈cs,oh zs.length x
 s:∀s∈ss,NN zs ps cs ss s
theorem jyF(hz:∀z∈zs,ZF z)(hx:∀s∈ss,∀x∈s.2.2,x.2.2.2.2<=9223372036854775807)(h:j2g (zs,(ps,(cs,ss)))=G 0):xk zs ps cs ss:=by
 simp only[j2g,show F zs.length=(zs.length:o) from rfl,show F ps.length=(ps.length:o) from rfl,show F cs.length=(cs.length:o) from rfl,show F ss.length=(ss.length:o) from rfl]at h;cases hb:(cond (cond (cond (O ((zs.length:o)>16)) M (O ((ps.length:o)>32))) M (O ((cs.length:o)>8))) M (O ((ss.length:o)>12))) with
 |true=>rw[hb]at h;simp at h
 |false=>
  rw[hb]at h;simp only[zo,zw,kg]at hb;simp only[jd]at h;obtain⟨r,r1,_,r3⟩:=NC (zs:=zs) (ps:=ps) (cs:=cs) (ss:=ss) hz aa zs.length 0 [] aa rfl;rw[show ((0:K):o)=0 from rfl]at r1;have r1:wH zs (zs.length:o) 0 []=G r:=r1;simp only[j2w,show F zs.length=(zs.length:o) from rfl,r1,ja]at h;cases r with
  |inl e=>have he:e≠0:=λhe=>r3 (by rw[he]);simp only[pH,ja]at h;rw[show (e != 0)=M by simpa using he]at h;simp only[jc,jb]at h;exact absurd h he
  |inr u=>
   simp only[kW,ja,ji,jd]at h;have fz:=Vg (zs:=zs) aa hz zs.length 0 [] aa r1;obtain⟨c,c1,_⟩:=Va (zs:=zs) (ps:=ps) (cs:=cs) (ss:=ss) aa aa;rw[c1]at h;by_cases h1:c=0
   case neg=>rw[bY _ h1]at h;simp only[ja,pH,jb]at h;exact absurd h h1
   subst h1;simp only[gy,ja,kW]at h;obtain⟨d,d1,_⟩:=NI (zs:=zs) (ps:=ps) (cs:=cs) (ss:=ss) aa aa cs.length 0 [] aa rfl;rw[show ((0:K):o)=0 from rfl]at d1;have d1:wI zs ps cs ss cs (cs.length:o) 0 []=G (rE () d):=d1;simp only[j1G,show F cs.length=(cs.length:o) from rfl,d1,ja]at h;by_cases h2:d=0
   case neg=>rw[bY _ h2]at h;simp only[ja,pH]at h;rw[show (d != 0)=M by simpa using h2]at h;simp only[jc,jb]at h;exact absurd h h2
   subst h2;rw[gy]at h d1;simp only[ja,kW,ji,jd]at h;have fc:=Vh (zs:=zs) (ps:=ps) (cs:=cs) (ss:=ss) aa aa cs.length 0 [] aa d1;obtain⟨f,f1,_⟩:=NL (zs:=zs) (ps:=ps) (cs:=cs) (ss:=ss) aa aa aa aa hx ss.length 0 [] aa rfl;rw[show ((0:K):o)=0 from rfl]at f1;have f1:wK zs ps cs ss ss (ss.length:o) 0 []=G (rE () f):=f1;simp only[j2v,show F ss.length=(ss.length:o) from rfl,f1,ja]at h;by_cases h3:f=0
   case neg=>rw[bY _ h3]at h;simp only[ja,pH,jb]at h;exact absurd h h3
   subst h3;rw[gy]at f1;have fs:=Vm (zs:=zs) (ps:=ps) (cs:=cs) (ss:=ss) aa aa aa aa hx ss.length 0 [] aa f1;rw[jw]at fz fc fs;exact⟨aa,aa,aa,aa,fz,fc,fs⟩
end
structure ZW(z:bz):Prop where
 ok:∀r∈z.2.2,gx r
 len:z.2.2.length<=2
 yr:∀r∈z.2.2,2025<=r.1
 few:(occs z.2.2).length<=4
theorem fA.w{z:bz}(h:fA z):ZW z:=⟨h.ok,h.len,h.yr,h.few⟩
theorem ZW.f{z:bz}(h:ZW z):ZF z:=⟨by have:=h.len;omega,by have:=h.few;omega⟩
theorem jx9:cY 2025=20089:=by decide
theorem jy7{r:aP}(h:gx r){y:o}(hy:2025<=y)(h2:y<=2240):1735000000<=(cd r y).1/\(cd r y).1<=8556000000:=by
 have hv:=wW (yS y r.2.2.1 aa h2 h.m0 h.m1);have gE:=h.s0;have iN:=h.s1;have hn:=Gz (w:=r.2.2.2.2.1) (show 1970<=y by omega) h2 h.m0 h.m1 h.k0 h.k1;have hd:=lF y r.2.2.1;have hc:=sm hy;have hu:=wV y r.2.2.1;rw[jx9]at hc;have hm:20089<=num y r.2.2.1 1:=by unfold num;omega
 unfold cd;dsimp only;omega
theorem NO:∀(L:aW)(now:o)(p:Option o)(l:aW),(∀x∈L,(1735000000<=x.1/\x.1<=8556000000) /\ -64800<=x.2/\x.2<=64800) -> -64800<=now->now<=64800->lh now p L=G l->Good now p L
 |[],_,_,_,_,_,_,_=>trivial
 |x::r,now,p,l,hL,h0,h1,h=>by
  have hx:=hL x af;simp only[lh]at h;simp only[Good];by_cases he:x.2=now
  .rw[if_pos he]at h ⊢;exact NO r now p l (λy hy=>hL y (by simp[hy])) h0 h1 h
  .rw[if_neg he]at h ⊢;split at h
   .rename_i hc;obtain⟨c1,c2,c3,c4,c5⟩:=hc;cases hq:lh x.2 (G (x.1-now)) r with
    |none=>rw[hq]at h;simp at h
    |some q=>refine⟨⟨c1,c2,aa,aa,λq' As=>?_,hx.2.1,hx.2.2⟩,NO r x.2 _ q (λy hy=>hL y (by simp[hy])) hx.2.1 hx.2.2 hq⟩;subst As;simpa using c5
   .simp at h
theorem ZW.zok{z:bz}(h:ZW z)(hc:j1B z=G 0):fA z:=by
 obtain⟨l,e1,t1,t2,_,h0⟩:=UY z h.f.2;obtain⟨e,e1',b,k1,k2,_,k4⟩:=NB z h.f;have c2:j5D z=G e1:=by simp only[j5D,show j0g (z.1,(z.2.1,z.2.2))=_ from t2,ja]
 rw[hc]at k1;rw[c2]at k2;simp only[jb]at k1 k2;subst k1 k2;have he:e1=0:=by apply zg;intro hn;rw[if_neg (λhh=>hn hh.1)]at k4;omega
 obtain⟨_,⟨o0,o1⟩,hg⟩:=h0 he;refine⟨o0,o1,h.ok,h.len,h.yr,h.few,NO _ _ _ l (λx hx=>?_) o0 o1 hg⟩;obtain⟨r,hr,j,hj,rfl⟩:=Uf (Ue hx);have hk:=h.ok r hr;have hy:=h.yr r hr;have rN:=hk.y2;exact⟨jy7 hk aa aa,hk.o0,hk.o1⟩
structure CW(c:eA):Prop where
 z:∀z∈c.1,ZW z
 ed:∀s∈c.2.2.2,∀x∈s.2.2,x.2.2.2.2<=9223372036854775807
 w3:∀s∈c.2.2.2,∀x∈s.2.1,x.2.2.2.2.2.2.1.length<=3
theorem CW.chk{c:eA}(h:CW c):∃e,j2g c=G e/\j6s c=G e/\(e=0->xk c.1 c.2.1 c.2.2.1 c.2.2.2/\lG c.1 c.2.1 c.2.2.1):=by
 obtain⟨zs,ps,cs,ss⟩:=c;obtain⟨e,e1,e2⟩:=jx8 (zs:=zs) (ps:=ps) (cs:=cs) (ss:=ss) (λz hz=>(h.z z hz).f) h.ed;refine⟨e,e1,e2,λhe=>?_⟩;subst he;have hC:=jyF (λz hz=>(h.z z hz).f) h.ed e1;exact⟨hC,λz hz=>(h.z z hz).zok (hC.z z hz),hC.c,hC.zl,hC.pl⟩
theorem Vn{L:E o}{a:o}(h:cD L a){u0 u1 u2 u3:E Unit}(mK:1<=u1.length)(pZ:u1.length<=100) :
  ∃x a',j3x L a (u0,(u1,(u2,u3)))=G (x,L,a')/\(x.2.2.2.1<=1000000000000/\x.2.2.2.2<=1000000000000)/\cD L a':=by
 obtain⟨k,a1,e1,k0,k1,d1⟩:=di (n:=3) h aa aa;obtain⟨p,a2,e2,p0,p1,d2⟩:=di (n:=(u1.length:o)) d1 aa aa;obtain⟨t,a3,e3,t0,t1,d3⟩:=M4 d2;obtain⟨y,a4,e4,m4,d4⟩:=mq d3 (xs:=[(3600:o),(86400:o),(7:o),(259200:o),(40000:o)]) af af;have hy:7<=y/\y<=259200:=by simp at m4;omega
 simp only[j3x,show F (S u1)=(u1.length:o) from rfl,e1,e2,e3,e4,ja];rw[au (x:=t+y)]
 have fin:∀(kd A B:o)(a':o),cD L a'->∃x Dg,G ((kd,(A,(B,(t,t+y)))),L,a')=G (x,L,Dg)/\(x.2.2.2.1<=1000000000000/\x.2.2.2.2<=1000000000000)/\cD L Dg:=
  λkd A B a' hd=>⟨_,_,rfl,by dsimp only;omega,hd⟩
 by_cases h2:k=2
 .rw[fi h2,jc];by_cases hn:(u1.length:o)<2
  .rw[ai hn,jc];exact fin 0 p 0 _ d4
  .rw[al hn,jd,au (x:=(u1.length:o)-1)];obtain⟨q,a5,e5,q0,q1,d5⟩:=di (n:=(u1.length:o)-1) d4 aa aa;simp only[e5,ja];rw[au (x:=p+1),au (x:=p+1+q),cN (show¬(u1.length:o)=0 by omega),cN (show¬k=1 by omega)];simp only[jo,jc,jd];exact fin k p _ _ d5
 .rw[cN h2,jd];by_cases h1:k=1
  .rw[fi h1,jc];obtain⟨b,a5,e5,d5⟩:=sq (n:=4) d4 aa aa;simp only[e5,ja];cases b with
   |true=>exact fin k (-1) 0 _ d5
   |false=>exact fin k p 0 _ d5
  .rw[cN h1,jd];exact fin k p 0 _ d4
def lI(ls:E bh):Prop:=∀x∈ls,x.2.2.2.2.2.2.1.length<=3
def uA(es:E cO):Prop:=∀x∈es,x.2.2.2.2<=1000000000000
def GV(ss:E cL):Prop:=∀s∈ss,(s.2.1.length<=3/\lI s.2.1)/\s.2.2.length<=3/\uA s.2.2
theorem lI.snoc{ls:E bh}{x:bh}(h:lI ls)(hx:x.2.2.2.2.2.2.1.length<=3):lI (ls++[x]):=λy hy=>by
 rcases jx.1 hy with hy|hy
 .exact h y hy
 .simp at hy;subst hy;exact hx
theorem uA.snoc{es:E cO}{x:cO}(h:uA es)(hx:x.2.2.2.2<=1000000000000):uA (es++[x]):=λy hy=>by
 rcases jx.1 hy with hy|hy
 .exact h y hy
 .simp at hy;subst hy;exact hx
theorem Vo{L:E o}{s6:o}{nm:J}{zs:E bz}{ps:E cZ}{cs:E aT}{ss:E cL}(hs:og zs ps cs):∀(n:K)(a:o)(ls:E bh),cD L a->ls.length+n<=3->lI ls->
  ∃fw a',Fu s6 (n:o) L a zs ps cs nm ss ls=G (s6,L,a',zs,ps,cs,nm,ss,fw)/\(fw.length<=3/\lI fw)/\cD L a'
 |0,a,ls,hd,hl,hk=>by
  rw[R6];simp only[j24];rw[al aa,jd,bd];exact⟨ls,a,rfl,⟨aa,hk⟩,hd⟩
 |n+1,a,ls,hd,hl,hk=>by
  have yl:jbR=G [(D #[97,100,97]),(D #[98,111,98]),(D #[99,108,101,111]),(D #[100,97,110]),(D #[101,118,101]),(D #[102,97,121]),(D #[103,117,115]),(D #[104,97,108])]:=rfl;rw[R6];simp only[j24,yl,ja,show F (S ls)=(ls.length:o) from rfl];rw[ai aa,cG (show (0:o)<=(ls.length:o) by omega) (by simp only[ju,ku];omega),au (x:=((n+1:K):o)-1),show ((n+1:K):o)-1=(n:o) by omega];generalize I [(D #[97,100,97]),(D #[98,111,98]),(D #[99,108,101,111]),(D #[100,97,110]),(D #[101,118,101]),(D #[102,97,121]),(D #[103,117,115]),(D #[104,97,108])] (W (ls.length:o)) H=nmx;obtain⟨l,a1,e1,l2,_,_,d1⟩:=jv2 (ss:=ss) hd hs nmx;simp only[jc,e1,ja];rw[ai (by simp[aR];omega)];simp only[jc,aZ];exact Vo hs n a1 (ls++[l]) d1 aN (hk.snoc l2.w3)
theorem Vp{L:E o}{s6:o}{nm:J}{zs:E bz}{ps:E cZ}{cs:E aT}{ss:E cL}{ls:E bh}(hs:og zs ps cs):∀(n:K)(a:o)(es:E cO),cD L a->es.length+n<=3->uA es->
  ∃rM a',Fv s6 (n:o) L a zs ps cs nm ss ls es=G (s6,L,a',zs,ps,cs,nm,ss,ls,rM)/\rM.length<=3/\uA rM/\cD L a'
 |0,a,es,hd,hl,hk=>by
  rw[R7];simp only[j25];rw[al aa,jd,bd];exact⟨es,a,rfl,aa,hk,hd⟩
 |n+1,a,es,hd,hl,hk=>by
  have mK:=hs.p0;have pZ:=hs.p1;obtain⟨x,a1,e1,x1,d1⟩:=Vn hd (u0:=N zs.length ()) (u1:=N ps.length ()) (u2:=N cs.length ()) (u3:=N ss.length ()) (by rw[qn];omega) (by rw[qn];omega);rw[R7];simp only[j25];rw[ai aa,au (x:=((n+1:K):o)-1),show ((n+1:K):o)-1=(n:o) by omega];simp only[jc,e1,ja];rw[ai (by simp[aR];omega)];simp only[jc,aZ];exact Vp hs n a1 (es++[x]) d1 aN (hk.snoc x1.2)
theorem Vq{L:E o}{zs:E bz}{ps:E cZ}{cs:E aT}(hs:og zs ps cs):∀(n:K)(a:o)(ss:E cL),cD L a->ss.length+n<=3->GV ss->
  ∃Dw a',Fw (n:o) L a zs ps cs ss=G (L,a',zs,ps,cs,Dw)/\Dw.length=ss.length+n/\GV Dw/\cD L a'
 |0,a,ss,hd,hl,hk=>by
  rw[R8];simp only[j26];rw[al aa,jd,bd];exact⟨ss,a,rfl,rfl,hk,hd⟩
 |n+1,a,ss,hd,hl,hk=>by
  have pT:0<=U (ss.length:o) 3:=Int.tmod_nonneg _ aa;have gq:U (ss.length:o) 3<3:=vk _ aa;obtain⟨k,a3,e3,k0,k1,d3⟩:=di (n:=4) hd aa aa;rw[R8];simp only[j26,show F (S ss)=(ss.length:o) from rfl];rw[ai aa,cG pT (by simp only[ju,ku];omega)];simp only[jc,e3,ja];generalize I [(D #[102,105,114,115,116]),(D #[115,101,99,111,110,100]),(D #[116,104,105,114,100])] (W (U (ss.length:o) 3)) H=nm;obtain⟨ls,a4,e4,l4,d4⟩:=Vo (s6:=((n+1:K):o)) (nm:=nm) (ss:=ss) hs k.toNat a3 [] d3 aN (λx hx=>by simp at hx);obtain⟨m,a5,e5,m0,m1,d5⟩:=di (n:=4) d4 aa aa;obtain⟨es,a6,e6,l6,q6,d6⟩:=Vp (s6:=((n+1:K):o)) (nm:=nm) (zs:=zs) (cs:=cs) (ss:=ss) (ls:=ls) hs m.toNat a5 [] d5 aN (λx hx=>by simp at hx);rw[show ((k.toNat:K):o)=k by omega]at e4;rw[show ((m.toNat:K):o)=m by omega]at e6;simp only[e4,e5,e6,ja];rw[ai (by simp[aR];omega),au (x:=((n+1:K):o)-1),show ((n+1:K):o)-1=(n:o) by omega];simp only[jc,aZ]
  obtain⟨Dw,a',e',l',k',d'⟩:=Vq hs n a6 (ss++[(nm,(ls,es))]) d6 aN (λs eU=>by
   rcases jx.1 eU with h|h
   .exact hk s h
   .simp at h;subst h;exact⟨l4,l6,q6⟩)
  exact⟨Dw,a',e',by rw[l'];simp;omega,k',d'⟩
theorem jrw{L:E o}{a:o}(h:cD L a){n:o}(hn:1<=n)(xR:n<=3):∃zs ps cs ss a',j3a L a n=G ((zs,(ps,(cs,ss))),L,a')/\og zs ps cs/\1<=ss.length/\(ss.length:o)<=n/\GV ss/\cD L a':=by
 obtain⟨zs,ps,cs,a1,e1,hs,d1⟩:=jv1 h;obtain⟨x,a2,e2,x0,x1,d2⟩:=di (n:=n) d1 hn aa;obtain⟨ss,a3,e3,l3,k3,d3⟩:=Vq hs (1+x).toNat a2 [] d2 aN (λs eU=>by simp at eU);rw[show (((1+x).toNat:K):o)=1+x by omega]at e3;simp only[j3a,e1,e2,ja];rw[au (x:=1+x)];simp only[e3,ja];simp at l3;exact⟨zs,ps,cs,ss,a3,rfl,hs,aa,aa,k3,d3⟩
noncomputable def ij(zs:E bz)(cs:E aT)(ls:E bh)(t:o)(i:K):Int:=iF zs cs (ls.getD i (H,((0:o),(((0:o),(0:o)),((0:o),((0:o),(([]:E o),(([]:E (o×o)),((0:o),(0:o)))))))))) t
def pV(p:o):fU->Prop
 |[]=>True
 |x::r=>p<=x.1/\x.1<x.2.1/\pV x.2.1 r
def inG(t:o)(l:fU):Prop:=∃x∈l,x.1<=t/\t<x.2.1
theorem pV.weak{p q:o}(hq:q<=p):∀{l:fU},pV p l->pV q l
 |[],_=>trivial
 |_::_,h=>⟨by have:=h.1;omega,h.2⟩
theorem pV.app{e:o}{r:fU}(hr:pV e r):∀{l:fU}{p:o},pV p l->p<=e->(∀x∈l,x.2.1<=e)->pV p (l++r)
 |[],_,_,hp,_=>hr.weak hp
 |x::l,p,h,_,hl=>⟨h.1,h.2.1,hr.app h.2.2 (hl x af) (λy hy=>hl y (by simp[hy]))⟩
theorem pV.apart{p:o}:∀{l:fU},pV p l->l.Pairwise (λx y=>x.2.1<=y.1)/\∀x∈l,p<=x.1
 |[],_=>⟨List.Pairwise.nil,af⟩
 |x::l,h=>by
  obtain⟨h1,h2⟩:=pV.apart h.2.2
  exact⟨List.pairwise_cons.2 ⟨h2,h1⟩,λy hy=>by
   rcases jm.1 hy with rfl|hy
   .exact h.1
   .have:=h2 y hy;have:=h.1;have:=h.2.1;omega⟩
section
variable{nm:J}{ls:E bh}{es:E cO}(hE:∀x∈es,Nn x)(hl:es.length<=48)
include hE hl
end
end Go.Proofs.Pw
