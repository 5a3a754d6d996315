/- eB 8: what is known of a gh that is found right. -/
import Derived.Test.YtllkgjaoejhneaaGreatSEPN
import Derived.Test.YtllkgjaoejhneaaGreatSEPE
import Derived.Test.YtllkgjaoejhneaaGreatSEPC
open _root_ renaming Int->o,List->F,Nat->J,ByteArray->K,Bool->X
open ByteArray renaming mk->D,empty->I
open Int renaming ofNat->E,tmod->S,toNat->W
open Option renaming some->G
open List renaming getD->H,replicate->N,length->R
open Bool renaming true->M
open Decidable renaming decide->O
open Go Go.Lft
namespace Go.Proofs.Pw
theorem JQ{n lo hi:o}(h:j2V n lo hi=G M):lo<=n/\n<=hi:=by
 simp only[j2V,jb]at h;by_cases h1:n>=lo
 .rw[ah h1,jc]at h;exact⟨h1,qb h⟩
 .rw[ak h1]at h;simp at h
theorem JR{i n:o}(h:j1h i n=G M):0<=i/\i<n:=by
 simp only[j1h,jb]at h;by_cases h1:i>=0
 .rw[ah h1,jc]at h;exact⟨h1,qb h⟩
 .rw[ak h1]at h;simp at h
section
variable{zs:F bS}{ps:F eu}{cs:F bq}{ss:F dC}
theorem _l{ms:F o}(hl:ms.length<=100):∀(n i:J),i+n=ms.length->∃q,((Et ms zs ps cs ss (ms.length:o) (i:o)).bind λq0=>sumC q0 (λa=>G a) (λ_=>G (-1:o)))=G q/\(¬q>=0->∀m∈ms.drop i,0<=m/\m<(ps.length:o))
 |0,i,hi=>by
  rw[Hv,jj aa];simp only[j0p];rw[ak aa,jd,ba];exact⟨-1,rfl,λ_ m h=>by simp at h⟩
 |n+1,i,hi=>by
  have au:i<ms.length:=aa;have bm:ms.getD i (0:o)=ms[i]:=by simp[H,au]
  obtain⟨q,q1,q2⟩:=_l hl n (i+1) aa;obtain⟨b,hb⟩:∃b,j1h ms[i] (ps.length:o)=G b:=⟨_,rfl⟩;rw[Hv,jh au];simp only[j0p,j4C,show E ps.length=(ps.length:o) from rfl];rw[ah (show (i:o)<(ms.length:o) by omega),bP,ar (x:=(i:o)+1)];simp only[jc,je,bm,hb,ja];cases b with
  |true=>
   simp only[jk,jd,aV];refine⟨q,q1,λhq m hm=>?_⟩;rcases jl.1 hm with rfl|hm
   .exact JR hb
   .exact q2 hq m hm
  |false=>exact⟨(i:o),rfl,λhq=>absurd aa hq⟩
theorem jCT{L:bC}(h:j1o (zs,(ps,(cs,ss))) L=G 0):Ce zs.length ps.length cs.length L:=by
 obtain⟨b1,p1⟩:∃b,j1h L.2.1 (zs.length:o)=G b:=⟨_,rfl⟩;obtain⟨b3,s1⟩:∃b,j2V L.2.2.1.2 0 86399=G b:=⟨_,rfl⟩;obtain⟨b4,s3⟩:∃b,j2V L.2.2.2.1 0 2=G b:=⟨_,rfl⟩;obtain⟨b5,s5⟩:∃b,j2V L.2.2.2.2.1 1 400=G b:=⟨_,rfl⟩;obtain⟨c,c1,_,c3⟩:=Q6 L.2.2.2.2.2.2.1;obtain⟨b6,s7⟩:∃b,j2V L.2.2.2.2.2.2.2.2 0 2=G b:=⟨_,rfl⟩;obtain⟨b7,p3⟩:∃b,j1h L.2.2.2.2.2.2.2.1 (cs.length:o)=G b:=⟨_,rfl⟩;simp only[j1o,show E zs.length=(zs.length:o) from rfl,show E cs.length=(cs.length:o) from rfl,show E L.2.2.2.2.2.1.length=(L.2.2.2.2.2.1.length:o) from rfl,p1,ja,wQ,s1,s3,s5]at h;cases b1 with
 |false=>simp at h
 |true=>
 simp only[jk,jd]at h;by_cases h1:L.2.2.1.1<1
 .rw[ah h1]at h;simp at h
 rw[ak h1,ah (show 0<=L.2.2.1.1 by omega)]at h;simp only[jd,zw]at h;by_cases h2:L.2.2.1.1<=98980
 case neg=>rw[ak h2]at h;simp at h
 rw[ah h2]at h;simp only[jk,jd]at h;cases b3 with
 |false=>simp at h
 |true=>
 cases b4 with
 |false=>simp at h
 |true=>
 cases b5 with
 |false=>simp at h
 |true=>
 simp only[jk,jd]at h;by_cases h0:L.2.2.2.2.2.1.length=0
 .rw[show ((L.2.2.2.2.2.1.length:o)==0)=M by simp[h0]]at h;simp at h
 rw[cU (show (L.2.2.2.2.2.1.length:o)≠0 by omega),jd]at h;by_cases oG:(L.2.2.2.2.2.1.length:o)>12
 .rw[ah oG]at h;simp at h
 rw[ak oG,jd]at h;obtain⟨q,q1,q2⟩:=_l (zs:=zs) (ps:=ps) (cs:=cs) (ss:=ss) (ms:=L.2.2.2.2.2.1) aa L.2.2.2.2.2.1.length 0 aa;rw[show ((0:J):o)=0 from rfl]at q1;have Ah:j0U L.2.2.2.2.2.1 zs ps cs ss=G (O (q>=0)):=by simp only[j0U,j2v,show E L.2.2.2.2.2.1.length=(L.2.2.2.2.2.1.length:o) from rfl];rw[q1];rfl
 rw[Ah]at h;by_cases hq:q>=0
 .rw[ah hq]at h;simp at h
 rw[ak hq]at h;simp only[ja,jd,c1]at h;by_cases hc:c=0
 case neg=>rw[show (c != 0)=M by simpa using hc]at h;simp at h
 subst hc;simp only[jm,jd,s7,ja]at h;cases b6 with
 |false=>simp at h
 |true=>
 simp only[jk,jd,p3]at h;obtain⟨z0,z1⟩:=JR p1;obtain⟨t0,t1⟩:=JQ s1;obtain⟨u0,u1⟩:=JQ s3;obtain⟨e0,e1⟩:=JQ s5;obtain⟨md0,md1⟩:=JQ s7;obtain⟨w0,w1⟩:=c3 rfl;have iy:=q2 hq;rw[jt]at iy
 have cA:(L.2.2.2.2.2.2.2.2≠0->0<=L.2.2.2.2.2.2.2.1/\L.2.2.2.2.2.2.2.1<(cs.length:o))/\(L.2.2.2.2.2.2.2.2=0->L.2.2.2.2.2.2.2.1=0):=by
  by_cases hm:L.2.2.2.2.2.2.2.2=0
  .refine⟨λhn=>absurd hm hn,λ_=>?_⟩;rw[hm]at h;simp only[jm,jd,ql,jc]at h;apply kn;intro hn;rw[show (L.2.2.2.2.2.2.2.1 != 0)=M by simpa using hn]at h;simp at h
  .refine⟨λ_=>?_,λhn=>absurd hn hm⟩;rw[show (L.2.2.2.2.2.2.2.2 != 0)=M by simpa using hm]at h;simp only[jc,ja]at h;cases b7 with
   |false=>simp at h
   |true=>exact JR p3
 exact⟨z0,z1,aa,h2,t0,t1,u0,u1,e0,e1,h0,aa,iy,w0,w1,md0,md1,cA.1,cA.2⟩
theorem _m{ds:F o}(hl:ds.length<=100):∀(n i:J),i+n=ds.length->∃q,((Es ds (ds.length:o) (i:o)).bind λq0=>sumC q0 (λa=>G a) (λ_=>G (-1:o)))=G q/\(¬q>=0->∀d∈ds.drop i,0<=d/\d<=98980)
 |0,i,hi=>by
  rw[Hu,jj aa];simp only[j0w];rw[ak aa,jd,ba];exact⟨-1,rfl,λ_ m h=>by simp at h⟩
 |n+1,i,hi=>by
  have au:i<ds.length:=aa;have bm:ds.getD i (0:o)=ds[i]:=by simp[H,au]
  obtain⟨q,q1,q2⟩:=_m hl n (i+1) aa;rw[Hu,jh au];simp only[j0w,j3v];rw[ah (show (i:o)<(ds.length:o) by omega),bP,ar (x:=(i:o)+1)];simp only[jc,je,bm,wQ,ja];by_cases h:0<=ds[i]/\ds[i]<=98980
  .rw[ah h.1,ah h.2];simp only[yq,jk,jd,aV];refine⟨q,q1,λhq m hm=>?_⟩;rcases jl.1 hm with rfl|hm
   .exact h
   .exact q2 hq m hm
  .have:(O (0<=ds[i])&&O (ds[i]<=98980))=false:=by
    by_cases h0:0<=ds[i]
    .rw[ak (λh1=>h ⟨h0,h1⟩),Bool.and_false]
    .rw[ak h0,Bool.false_and]
   rw[this];exact⟨(i:o),rfl,λhq=>absurd aa hq⟩
theorem _n{ds:F o}(hl:ds.length<=100){nm:K}{z:o}:∀(n i:J),i+1+n=ds.length->BK (ds.length:o) ((i+1:J):o) nm z ds=G (.inr ())->(ds.drop i).Pairwise (· < ·)
 |0,i,hi,_=>by
  have:ds.drop i=[ds[i]]:=by rw[jh aa,jj aa]
  rw[this];simp
 |n+1,i,hi,h=>by
  have au:i+1<ds.length:=aa;have g1:ds.getD (i+1) (0:o)=ds[i+1]:=by simp[H,au]
  have g0:ds.getD i (0:o)=ds[i]:=by simp[H,show i<ds.length by omega]
  rw[BL]at h;simp only[j0n]at h
  rw[ah (show ((i+1:J):o)<(ds.length:o) by omega),ah (show ((i+1:J):o)>0 by omega),ar (x:=((i+1:J):o)-1),ar (x:=((i+1:J):o)+1),
   cb (show (0:o)<=((i+1:J):o) by omega) aa,cb (show (0:o)<=((i+1:J):o)-1 by omega) aa,show (((i+1:J):o)-1).toNat=i by omega]at h
  simp only[jc,je,g1,g0]at h;by_cases hc:ds[i+1]<=ds[i]
  .rw[ah hc]at h;simp[ba]at h
  .rw[ak hc]at h;simp only[jd,aV]at h;have ih:=_n hl n (i+1) aa h;rw[jh (show i<ds.length by omega)];refine qp.2 ⟨λd hd=>?_,ih⟩;rw[jh au]at hd ih;rcases jl.1 hd with rfl|hd
   .omega
   .have:=(qp.1 ih).1 d hd;omega
theorem jCU{x:bq}(h:j1q (zs,(ps,(cs,ss))) x=G 0):pV zs.length x:=by
 obtain⟨b1,p1⟩:∃b,j1h x.2.1 (zs.length:o)=G b:=⟨_,rfl⟩;simp only[j1q,show E zs.length=(zs.length:o) from rfl,show E x.2.2.length=(x.2.2.length:o) from rfl,p1,ja]at h;cases b1 with
 |false=>simp at h
 |true=>
 simp only[jk,jd]at h;by_cases Ac:(x.2.2.length:o)>64
 .rw[ah Ac]at h;simp at h
 rw[ak Ac,jd]at h;obtain⟨q,q1,q2⟩:=_m (ds:=x.2.2) aa x.2.2.length 0 aa;rw[show ((0:J):o)=0 from rfl]at q1;have Ah:j1k x.2.2=G (O (q>=0)):=by simp only[j1k,j3w,show E x.2.2.length=(x.2.2.length:o) from rfl];rw[q1];rfl
 rw[Ah]at h;by_cases hq:q>=0
 .rw[ah hq]at h;simp at h
 rw[ak hq]at h;simp only[ja,jd]at h;have hd:=q2 hq;rw[jt]at hd
 have Rc:x.2.2.Pairwise (· < ·):=by
  rcases yw x.2.2.length with h0|h0
  .rw[ke h0];exact List.Pairwise.nil
  .rw[BL]at h;simp only[j0n]at h;rw[ah (show (0:o)<(x.2.2.length:o) by omega),ak (show¬(0:o)>0 by omega)]at h;simp only[jc,jd,aV]at h;rw[ar (x:=(0:o)+1),show (0:o)+1=((0+1:J):o) from rfl]at h;obtain⟨e,e1,_⟩:=Q7 (zs:=zs) (ps:=ps) (cs:=cs) (ss:=ss) (ds:=x.2.2) (m:=0) (nm:=x.1) (z:=x.2.1) (l3:=[]) aa (x.2.2.length-1) 0 aa;rw[e1]at h;by_cases he:e=0
   .subst he;have:=_n (ds:=x.2.2) aa (x.2.2.length-1) 0 aa e1;rwa[jt]at this
   .rw[cH _ he]at h;simp only[ja,pR,jb]at h;exact absurd h he
 obtain⟨z0,z1⟩:=JR p1;exact⟨z0,z1,aa,λd hm=>by rw[wQ,ah (hd d hm).1,ah (hd d hm).2];rfl,Rc⟩
theorem JS(s:K)(m:F (K×X)):∃e m',j45 s m=G (e,m'):=by
 obtain⟨b,b1,_⟩:=Z7 s;simp only[j45,b1,ja];cases b with
 |false=>exact⟨_,_,rfl⟩
 |true=>
  cases gS false m s with
  |true=>exact⟨_,_,rfl⟩
  |false=>exact⟨_,_,rfl⟩
theorem _o(hl:zs.length<=100)(hz:∀z∈zs,ZF z):∀(n i:J)(m:F (K×X)),i+n=zs.length->yW zs (zs.length:o) (i:o) m=G (.inr ())->∀z∈zs.drop i,j1M z=G 0
 |0,i,m,hi,_=>by
  rw[jj aa];intro z h;simp at h
 |n+1,i,m,hi,h=>by
  have au:i<zs.length:=aa;have bm:zs.getD i (I,((0:o),([]:F aH)))=zs[i]:=by simp[H,au]
  obtain⟨e,m',hn⟩:=JS zs[i].1 m;obtain⟨ez,_,_,z1,_⟩:=Q4 zs[i] (hz _ (ju au));rw[Nc]at h;simp only[j0T,j7J]at h;rw[ah (show (i:o)<(zs.length:o) by omega),bP,ar (x:=(i:o)+1)]at h;simp only[jc,je,bm,ja,hn]at h;by_cases he:e=0
  .subst he;simp only[jm,jd]at h;rw[show j1M (zs[i].1,(zs[i].2.1,zs[i].2.2))=_ from z1]at h;simp only[ja]at h;by_cases h0:ez=0
   .subst h0;simp only[jm,jd,aV]at h;rw[jh au];intro z hm;rcases jl.1 hm with rfl|hm
    .exact z1
    .exact _o hl hz n (i+1) m' aa h z hm
   .rw[show (ez != 0)=M by simpa using h0]at h;simp[ba]at h
  .rw[show (e != 0)=M by simpa using he]at h;simp[ba]at h
theorem _p(fo:zs.length<=100)(hl:cs.length<=100):∀(n i:J)(m:F (K×X)),i+n=cs.length->yX zs ps cs ss cs (cs.length:o) (i:o) m=G (.inr ())->∀x∈cs.drop i,pV zs.length x
 |0,i,m,hi,_=>by
  rw[jj aa];intro z h;simp at h
 |n+1,i,m,hi,h=>by
  have au:i<cs.length:=aa;have bm:cs.getD i (I,((0:o),([]:F o)))=cs[i]:=by simp[H,au]
  obtain⟨e,m',hn⟩:=JS cs[i].1 m;rw[Nd]at h;simp only[j0z,j7K,j7L]at h;rw[ah (show (i:o)<(cs.length:o) by omega),bP,ar (x:=(i:o)+1)]at h;simp only[jc,je,bm,ja,hn]at h;by_cases he:e=0
  .subst he;simp only[jm,jd]at h;cases hc:j1q (zs,(ps,(cs,ss))) cs[i]with
   |none=>rw[show j1q (zs,(ps,(cs,ss))) (cs[i].1,(cs[i].2.1,cs[i].2.2))=_ from hc]at h;simp[lpK]at h
   |some c=>
    rw[show j1q (zs,(ps,(cs,ss))) (cs[i].1,(cs[i].2.1,cs[i].2.2))=_ from hc]at h;simp only[ja]at h;by_cases h0:c=0
    .subst h0;simp only[jm,jd,aV]at h;rw[jh au];intro z hm;rcases jl.1 hm with rfl|hm
     .exact jCU hc
     .exact _p fo hl n (i+1) m' aa h z hm
    .rw[show (c != 0)=M by simpa using h0]at h;simp[ba]at h
  .rw[show (e != 0)=M by simpa using he]at h;simp[ba]at h
theorem _q{ls:F bC}(hl:ls.length<=100):∀(n i:J)(m:F (K×X)),i+n=ls.length->yY zs ps cs ss ls (ls.length:o) (i:o) m=G (.inr ())->∀x∈ls.drop i,Ce zs.length ps.length cs.length x
 |0,i,m,hi,_=>by
  rw[jj aa];intro z h;simp at h
 |n+1,i,m,hi,h=>by
  have au:i<ls.length:=aa;have bm:ls.getD i (I,((0:o),(((0:o),(0:o)),((0:o),((0:o),(([]:F o),(([]:WL),((0:o),(0:o)))))))))=ls[i]:=by simp[H,au]
  obtain⟨e,m',hn⟩:=JS ls[i].1 m;rw[Nf]at h;simp only[j0O,j3x,j3y]at h;rw[ah (show (i:o)<(ls.length:o) by omega),bP,ar (x:=(i:o)+1)]at h;simp only[jc,je,bm,ja,hn]at h;by_cases he:e=0
  .subst he;simp only[jm,jd]at h;cases hc:j1o (zs,(ps,(cs,ss))) ls[i]with
   |none=>rw[show j1o (zs,(ps,(cs,ss))) (ls[i].1,(ls[i].2.1,((ls[i].2.2.1.1,ls[i].2.2.1.2),(ls[i].2.2.2.1,(ls[i].2.2.2.2.1,(ls[i].2.2.2.2.2.1,(ls[i].2.2.2.2.2.2.1,(ls[i].2.2.2.2.2.2.2.1,ls[i].2.2.2.2.2.2.2.2))))))))=_ from hc]at h;simp[lpK]at h
   |some c=>
    rw[show j1o (zs,(ps,(cs,ss))) (ls[i].1,(ls[i].2.1,((ls[i].2.2.1.1,ls[i].2.2.1.2),(ls[i].2.2.2.1,(ls[i].2.2.2.2.1,(ls[i].2.2.2.2.2.1,(ls[i].2.2.2.2.2.2.1,(ls[i].2.2.2.2.2.2.2.1,ls[i].2.2.2.2.2.2.2.2))))))))=_ from hc]at h;simp only[ja]at h;by_cases h0:c=0
    .subst h0;simp only[jm,jd,aV]at h;rw[jh au];intro z hm;rcases jl.1 hm with rfl|hm
     .exact jCT hc
     .exact _q hl n (i+1) m' aa h z hm
    .rw[show (c != 0)=M by simpa using h0]at h;simp[ba]at h
  .rw[show (e != 0)=M by simpa using he]at h;simp[ba]at h
theorem _r{es:F dA}(hl:es.length<=100):∀(n i:J),i+n=es.length->BM es (es.length:o) (i:o) zs ps cs ss=G (.inr ())->∀x∈es.drop i,j11 (zs,(ps,(cs,ss))) x=G 0
 |0,i,hi,_=>by
  rw[jj aa];intro z h;simp at h
 |n+1,i,hi,h=>by
  have au:i<es.length:=aa;have bm:es.getD i ((0:o),((0:o),((0:o),((0:o),(0:o)))))=es[i]:=by simp[H,au]
  rw[Ng]at h;simp only[j12]at h;rw[ah (show (i:o)<(es.length:o) by omega),bP,ar (x:=(i:o)+1)]at h;simp only[jc,je,bm]at h;cases hc:j11 (zs,(ps,(cs,ss))) es[i]with
  |none=>rw[show j11 (zs,(ps,(cs,ss))) (es[i].1,(es[i].2.1,(es[i].2.2.1,(es[i].2.2.2.1,es[i].2.2.2.2))))=_ from hc]at h;simp[lpK]at h
  |some c=>
   rw[show j11 (zs,(ps,(cs,ss))) (es[i].1,(es[i].2.1,(es[i].2.2.1,(es[i].2.2.2.1,es[i].2.2.2.2))))=_ from hc]at h;simp only[ja]at h;by_cases h0:c=0
   .subst h0;simp only[jm,jd,aV]at h;rw[jh au];intro z hm;rcases jl.1 hm with rfl|hm
    .exact hc
    .exact _r hl n (i+1) aa h z hm
   .rw[show (c != 0)=M by simpa using h0]at h;simp[ba]at h
structure Re(zs:F bS)(ps:F eu)(cs:F bq)(ss:F dC)(s:dC):Prop where
 ll:s.2.1.length<=6
 el:s.2.2.length<=48
 ly:∀x∈s.2.1,Ce zs.length ps.length cs.length x
 ed:∀x∈s.2.2,j11 (zs,(ps,(cs,ss))) x=G 0
theorem _s{α:Type}{u:α}{e c:o}(h:(G (rE u e):Option (o ⊕ α))=G (.inl c)):c≠0:=by
 by_cases h0:e=0
 .subst h0;rw[iG]at h;simp at h
 .rw[cH _ h0]at h;simp only[jb,Sum.inl.injEq]at h;omega
theorem jCV(fo:zs.length<=100)(fp:ps.length<=100)(dL:cs.length<=100){s:dC}(hx:∀x∈s.2.2,x.2.2.2.2<=9223372036854775807)(h:j1s (zs,(ps,(cs,ss))) s=G 0):Re zs ps cs ss s:=by
 simp only[j1s,show E s.2.1.length=(s.2.1.length:o) from rfl,show E s.2.2.length=(s.2.2.length:o) from rfl]at h;by_cases h6:(s.2.1.length:o)>6
 .rw[ah h6]at h;simp at h
 by_cases _t:(s.2.2.length:o)>48
 .rw[ak h6,ah _t]at h;simp at h
 rw[ak h6,ak _t]at h;simp only[jd,j2w,show E s.2.1.length=(s.2.1.length:o) from rfl]at h;obtain⟨e',e1,_⟩:=Ra (zs:=zs) (ps:=ps) (cs:=cs) (ss:=ss) fo fp dL (ls:=s.2.1) aa (m:=0) (nm:=s.1) (es:=s.2.2) (l3:=[]) s.2.1.length 0 [] aa rfl;obtain⟨c',d1,_⟩:=Q9 (zs:=zs) (ps:=ps) (cs:=cs) (ss:=ss) fp (es:=s.2.2) aa hx (m:=0) (nm:=s.1) (ls:=s.2.1) (l3:=[]) s.2.2.length 0 aa;rw[show ((0:J):o)=0 from rfl]at e1 d1;cases hn:yY zs ps cs ss s.2.1 (s.2.1.length:o) 0 []with
 |none=>rw[hn]at h;simp at h
 |some r=>
  rw[hn]at h;cases r with
  |inl e=>have he:=_s (e1.symm.trans hn);simp only[ja,pR]at h;rw[show (e != 0)=M by simpa using he]at h;simp only[jc,jb]at h;exact absurd h he
  |inr u=>
   simp only[ja,lN,jm,jd]at h;cases hm:BM s.2.2 (s.2.2.length:o) 0 zs ps cs ss with
   |none=>rw[hm]at h;simp at h
   |some r=>
    rw[hm]at h;cases r with
    |inl e=>have he:=_s (d1.symm.trans hm);simp only[ja,pR,jb]at h;exact absurd h he
    |inr u2=>have a:=_q (zs:=zs) (ps:=ps) (cs:=cs) (ss:=ss) (ls:=s.2.1) aa s.2.1.length 0 [] aa hn;have b:=_r (zs:=zs) (ps:=ps) (cs:=cs) (ss:=ss) (es:=s.2.2) aa s.2.2.length 0 aa hm;rw[jt]at a b;exact⟨aa,aa,a,b⟩
theorem _u(fo:zs.length<=100)(fp:ps.length<=100)(dL:cs.length<=100)(hl:ss.length<=100)(hx:∀s∈ss,∀x∈s.2.2,x.2.2.2.2<=9223372036854775807):∀(n i:J)(m:F (K×X)),i+n=ss.length->yZ zs ps cs ss ss (ss.length:o) (i:o) m=G (.inr ())->∀s∈ss.drop i,Re zs ps cs ss s
 |0,i,m,hi,_=>by
  rw[jj aa];intro z h;simp at h
 |n+1,i,m,hi,h=>by
  have au:i<ss.length:=aa;have bm:ss.getD i (I,(([]:F bC),([]:F dA)))=ss[i]:=by simp[H,au]
  obtain⟨e,m',hn⟩:=JS ss[i].1 m;rw[Nh]at h;simp only[j0A,j7M,j7N]at h;rw[ah (show (i:o)<(ss.length:o) by omega),bP,ar (x:=(i:o)+1)]at h;simp only[jc,je,bm,ja,hn]at h;by_cases he:e=0
  .subst he;simp only[jm,jd]at h;cases hc:j1s (zs,(ps,(cs,ss))) ss[i]with
   |none=>rw[show j1s (zs,(ps,(cs,ss))) (ss[i].1,(ss[i].2.1,ss[i].2.2))=_ from hc]at h;simp[lpK]at h
   |some c=>
    rw[show j1s (zs,(ps,(cs,ss))) (ss[i].1,(ss[i].2.1,ss[i].2.2))=_ from hc]at h;simp only[ja]at h;by_cases h0:c=0
    .subst h0;simp only[jm,jd,aV]at h;rw[jh au];intro z hm;rcases jl.1 hm with rfl|hm
     .exact jCV fo fp dL (hx _ (ju au)) hc
     .exact _u fo fp dL hl hx n (i+1) m' aa h z hm
    .rw[show (c != 0)=M by simpa using h0]at h;simp[ba]at h
  .rw[show (e != 0)=M by simpa using he]at h;simp[ba]at h
structure Ak(zs:F bS)(ps:F eu)(cs:F bq)(ss:F dC):Prop where
 zl:zs.length<=16
 pl:ps.length<=32
 cl:cs.length<=8
 sl:ss.length<=12
 z:∀z∈zs,j1M z=G 0
 c:∀x∈cs,pV zs.length x
 s:∀s∈ss,Re zs ps cs ss s
theorem jCW(hz:∀z∈zs,ZF z)(hx:∀s∈ss,∀x∈s.2.2,x.2.2.2.2<=9223372036854775807)(h:j5A (zs,(ps,(cs,ss)))=G 0):Ak zs ps cs ss:=by
 simp only[j5A,show E zs.length=(zs.length:o) from rfl,show E ps.length=(ps.length:o) from rfl,show E cs.length=(cs.length:o) from rfl,show E ss.length=(ss.length:o) from rfl]at h;cases hb:(cond (cond (cond (O ((zs.length:o)>16)) M (O ((ps.length:o)>32))) M (O ((cs.length:o)>8))) M (O ((ss.length:o)>12))) with
 |true=>rw[hb]at h;simp at h
 |false=>
  rw[hb]at h;simp only[vu,ye,ku]at hb;simp only[jd]at h;obtain⟨r,r1,_,r3⟩:=Q5 (zs:=zs) (ps:=ps) (cs:=cs) (ss:=ss) hz aa zs.length 0 [] aa rfl;rw[show ((0:J):o)=0 from rfl]at r1;have r1:yW zs (zs.length:o) 0 []=G r:=r1;simp only[j2O,show E zs.length=(zs.length:o) from rfl,r1,ja]at h;cases r with
  |inl e=>have he:e≠0:=λhe=>r3 (by rw[he]);simp only[pR,ja]at h;rw[show (e != 0)=M by simpa using he]at h;simp only[jc,jb]at h;exact absurd h he
  |inr u=>
   simp only[lN,ja,jm,jd]at h;have fz:=_o (zs:=zs) aa hz zs.length 0 [] aa r1;obtain⟨c,c1,_⟩:=_i (zs:=zs) (ps:=ps) (cs:=cs) (ss:=ss) aa aa;rw[c1]at h;by_cases h1:c=0
   case neg=>rw[cH _ h1]at h;simp only[ja,pR,jb]at h;exact absurd h h1
   subst h1;simp only[iG,ja,lN]at h;obtain⟨d,d1,_⟩:=Q8 (zs:=zs) (ps:=ps) (cs:=cs) (ss:=ss) aa aa cs.length 0 [] aa rfl;rw[show ((0:J):o)=0 from rfl]at d1;have d1:yX zs ps cs ss cs (cs.length:o) 0 []=G (rE () d):=d1;simp only[j1V,show E cs.length=(cs.length:o) from rfl,d1,ja]at h;by_cases h2:d=0
   case neg=>rw[cH _ h2]at h;simp only[ja,pR]at h;rw[show (d != 0)=M by simpa using h2]at h;simp only[jc,jb]at h;exact absurd h h2
   subst h2;rw[iG]at h d1;simp only[ja,lN,jm,jd]at h;have fc:=_p (zs:=zs) (ps:=ps) (cs:=cs) (ss:=ss) aa aa cs.length 0 [] aa d1;obtain⟨f,f1,_⟩:=Rb (zs:=zs) (ps:=ps) (cs:=cs) (ss:=ss) aa aa aa aa hx ss.length 0 [] aa rfl;rw[show ((0:J):o)=0 from rfl]at f1;have f1:yZ zs ps cs ss ss (ss.length:o) 0 []=G (rE () f):=f1;simp only[j2M,show E ss.length=(ss.length:o) from rfl,f1,ja]at h;by_cases h3:f=0
   case neg=>rw[cH _ h3]at h;simp only[ja,pR,jb]at h;exact absurd h h3
   subst h3;rw[iG]at f1;have fs:=_u (zs:=zs) (ps:=ps) (cs:=cs) (ss:=ss) aa aa aa aa hx ss.length 0 [] aa f1;rw[jt]at fz fc fs;exact⟨aa,aa,aa,aa,fz,fc,fs⟩
end
structure ZW(z:bS):Prop where
 ok:∀r∈z.2.2,iF r
 len:z.2.2.length<=2
 yr:∀r∈z.2.2,2025<=r.1
 few:(occs z.2.2).length<=4
theorem fR.w{z:bS}(h:fR z):ZW z:=⟨h.ok,h.len,h.yr,h.few⟩
theorem ZW.f{z:bS}(h:ZW z):ZF z:=⟨by have:=h.len;omega,by have:=h.few;omega⟩
theorem jB8:dF 2025=20089:=by decide
theorem jCs{r:aH}(h:iF r){y:o}(hy:2025<=y)(h2:y<=2240):1735000000<=(cM r y).1/\(cM r y).1<=8556000000:=by
 have hv:=zQ (B8 y r.2.2.1 aa h2 h.m0 h.m1);have iN:=h.s0;have kJ:=h.s1;have hn:=Jg (w:=r.2.2.2.2.1) (show 1970<=y by omega) h2 h.m0 h.m1 h.k0 h.k1;have hd:=mP y r.2.2.1;have hc:=uC hy;have hu:=zP y r.2.2.1;rw[jB8]at hc;have hm:20089<=num y r.2.2.1 1:=by unfold num;omega
 unfold cM;dsimp only;omega
theorem Rf:∀(L:bg)(now:o)(p:Option o)(l:bg),(∀x∈L,(1735000000<=x.1/\x.1<=8556000000) /\ -64800<=x.2/\x.2<=64800) -> -64800<=now->now<=64800->mE now p L=G l->Good now p L
 |[],_,_,_,_,_,_,_=>trivial
 |x::r,now,p,l,hL,h0,h1,h=>by
  have hx:=hL x af;simp only[mE]at h;simp only[Good];by_cases he:x.2=now
  .rw[if_pos he]at h ⊢;exact Rf r now p l (λy hy=>hL y (by simp[hy])) h0 h1 h
  .rw[if_neg he]at h ⊢;split at h
   .rename_i hc;obtain⟨c1,c2,c3,c4,c5⟩:=hc;cases hq:mE x.2 (G (x.1-now)) r with
    |none=>rw[hq]at h;simp at h
    |some q=>refine⟨⟨c1,c2,aa,aa,λq' C5=>?_,hx.2.1,hx.2.2⟩,Rf r x.2 _ q (λy hy=>hL y (by simp[hy])) hx.2.1 hx.2.2 hq⟩;subst C5;simpa using c5
   .simp at h
theorem ZW.zok{z:bS}(h:ZW z)(hc:j1M z=G 0):fR z:=by
 obtain⟨l,e1,t1,t2,_,h0⟩:=Z2 z h.f.2;obtain⟨e,Rg,b,k1,k2,_,k4⟩:=Q4 z h.f;have c2:j6F z=G e1:=by simp only[j6F,show j0d (z.1,(z.2.1,z.2.2))=_ from t2,ja]
 rw[hc]at k1;rw[c2]at k2;simp only[jb]at k1 k2;subst k1 k2;have he:e1=0:=by apply kn;intro hn;rw[if_neg (λhh=>hn hh.1)]at k4;omega
 obtain⟨_,⟨o0,o1⟩,hg⟩:=h0 he;refine⟨o0,o1,h.ok,h.len,h.yr,h.few,Rf _ _ _ l (λx hx=>?_) o0 o1 hg⟩;obtain⟨r,hr,j,hj,rfl⟩:=Yh (Yg hx);have hk:=h.ok r hr;have hy:=h.yr r hr;have tW:=hk.y2;exact⟨jCs hk aa aa,hk.o0,hk.o1⟩
structure CW(c:gw):Prop where
 z:∀z∈c.1,ZW z
 ed:∀s∈c.2.2.2,∀x∈s.2.2,x.2.2.2.2<=9223372036854775807
 w3:∀s∈c.2.2.2,∀x∈s.2.1,x.2.2.2.2.2.2.1.length<=3
theorem CW.chk{c:gw}(h:CW c):∃e,j5A c=G e/\jbC c=G e/\(e=0->Ak c.1 c.2.1 c.2.2.1 c.2.2.2/\nI c.1 c.2.1 c.2.2.1):=by
 obtain⟨zs,ps,cs,ss⟩:=c;obtain⟨e,e1,e2⟩:=jB7 (zs:=zs) (ps:=ps) (cs:=cs) (ss:=ss) (λz hz=>(h.z z hz).f) h.ed;refine⟨e,e1,e2,λhe=>?_⟩;subst he;have hC:=jCW (λz hz=>(h.z z hz).f) h.ed e1;exact⟨hC,λz hz=>(h.z z hz).zok (hC.z z hz),hC.c,hC.zl,hC.pl⟩
theorem _v{L:F o}{a:o}(h:di L a){u0 u1 u2 u3:F Unit}(nW:1<=u1.length)(sk:u1.length<=100) :
  ∃x a',j49 L a (u0,(u1,(u2,u3)))=G (x,L,a')/\(x.2.2.2.1<=1000000000000/\x.2.2.2.2<=1000000000000)/\di L a':=by
 obtain⟨k,a1,e1,k0,k1,d1⟩:=dH (n:=3) h aa aa;obtain⟨p,a2,e2,p0,p1,d2⟩:=dH (n:=(u1.length:o)) d1 aa aa;obtain⟨t,a3,e3,t0,t1,d3⟩:=Jl d2;obtain⟨y,a4,e4,m4,d4⟩:=oY d3 (xs:=[(3600:o),(86400:o),(7:o),(259200:o),(40000:o)]) af af;have hy:7<=y/\y<=259200:=by simp at m4;omega
 simp only[j49,show E (R u1)=(u1.length:o) from rfl,e1,e2,e3,e4,ja];rw[ar (x:=t+y)]
 have fin:∀(kd A B:o)(a':o),di L a'->∃x Fp,G ((kd,(A,(B,(t,t+y)))),L,a')=G (x,L,Fp)/\(x.2.2.2.1<=1000000000000/\x.2.2.2.2<=1000000000000)/\di L Fp:=
  λkd A B a' hd=>⟨_,_,rfl,by dsimp only;omega,hd⟩
 by_cases h2:k=2
 .rw[fh h2,jc];by_cases hn:(u1.length:o)<2
  .rw[ah hn,jc];exact fin 0 p 0 _ d4
  .rw[ak hn,jd,ar (x:=(u1.length:o)-1)];obtain⟨q,a5,e5,q0,q1,d5⟩:=dH (n:=(u1.length:o)-1) d4 aa aa;simp only[e5,ja];rw[ar (x:=p+1),ar (x:=p+1+q),cU (show¬(u1.length:o)=0 by omega),cU (show¬k=1 by omega)];simp only[jv,jc,jd];exact fin k p _ _ d5
 .rw[cU h2,jd];by_cases h1:k=1
  .rw[fh h1,jc];obtain⟨b,a5,e5,d5⟩:=uD (n:=4) d4 aa aa;simp only[e5,ja];cases b with
   |true=>exact fin k (-1) 0 _ d5
   |false=>exact fin k p 0 _ d5
  .rw[cU h1,jd];exact fin k p 0 _ d4
def pt(ls:F bC):Prop:=∀x∈ls,x.2.2.2.2.2.2.1.length<=3
def wZ(es:F dA):Prop:=∀x∈es,x.2.2.2.2<=1000000000000
def Co(ss:F dC):Prop:=∀s∈ss,(s.2.1.length<=3/\pt s.2.1)/\s.2.2.length<=3/\wZ s.2.2
theorem pt.snoc{ls:F bC}{x:bC}(h:pt ls)(hx:x.2.2.2.2.2.2.1.length<=3):pt (ls++[x]):=λy hy=>by
 rcases js.1 hy with hy|hy
 .exact h y hy
 .simp at hy;subst hy;exact hx
theorem wZ.snoc{es:F dA}{x:dA}(h:wZ es)(hx:x.2.2.2.2<=1000000000000):wZ (es++[x]):=λy hy=>by
 rcases js.1 hy with hy|hy
 .exact h y hy
 .simp at hy;subst hy;exact hx
theorem _w{L:F o}{s6:o}{nm:K}{zs:F bS}{ps:F eu}{cs:F bq}{ss:F dC}(hs:sU zs ps cs):∀(n:J)(a:o)(ls:F bC),di L a->ls.length+n<=3->pt ls->
  ∃gf a',HN s6 (n:o) L a zs ps cs nm ss ls=G (s6,L,a',zs,ps,cs,nm,ss,gf)/\(gf.length<=3/\pt gf)/\di L a'
 |0,a,ls,hd,hl,hk=>by
  rw[VV];simp only[j2f];rw[ak aa,jd,ba];exact⟨ls,a,rfl,⟨aa,hk⟩,hd⟩
 |n+1,a,ls,hd,hl,hk=>by
  have Bp:jdD=G [(D #[97,100,97]),(D #[98,111,98]),(D #[99,108,101,111]),(D #[100,97,110]),(D #[101,118,101]),(D #[102,97,121]),(D #[103,117,115]),(D #[104,97,108])]:=rfl;rw[VV];simp only[j2f,Bp,ja,show E (R ls)=(ls.length:o) from rfl];rw[ah aa,cb (show (0:o)<=(ls.length:o) by omega) (by simp only[jq,kr];omega),ar (x:=((n+1:J):o)-1),show ((n+1:J):o)-1=(n:o) by omega];generalize H [(D #[97,100,97]),(D #[98,111,98]),(D #[99,108,101,111]),(D #[100,97,110]),(D #[101,118,101]),(D #[102,97,121]),(D #[103,117,115]),(D #[104,97,108])] (W (ls.length:o)) I=nmx;obtain⟨l,a1,e1,l2,_,_,d1⟩:=jyn (ss:=ss) hd hs nmx;simp only[jc,e1,ja];rw[ah (by simp[aF];omega)];simp only[jc,aV];exact _w hs n a1 (ls++[l]) d1 ay (hk.snoc l2.w3)
theorem _x{L:F o}{s6:o}{nm:K}{zs:F bS}{ps:F eu}{cs:F bq}{ss:F dC}{ls:F bC}(hs:sU zs ps cs):∀(n:J)(a:o)(es:F dA),di L a->es.length+n<=3->wZ es->
  ∃tU a',HO s6 (n:o) L a zs ps cs nm ss ls es=G (s6,L,a',zs,ps,cs,nm,ss,ls,tU)/\tU.length<=3/\wZ tU/\di L a'
 |0,a,es,hd,hl,hk=>by
  rw[VW];simp only[j2g];rw[ak aa,jd,ba];exact⟨es,a,rfl,aa,hk,hd⟩
 |n+1,a,es,hd,hl,hk=>by
  have nW:=hs.p0;have sk:=hs.p1;obtain⟨x,a1,e1,x1,d1⟩:=_v hd (u0:=N zs.length ()) (u1:=N ps.length ()) (u2:=N cs.length ()) (u3:=N ss.length ()) (by rw[z6];omega) (by rw[z6];omega);rw[VW];simp only[j2g];rw[ah aa,ar (x:=((n+1:J):o)-1),show ((n+1:J):o)-1=(n:o) by omega];simp only[jc,e1,ja];rw[ah (by simp[aF];omega)];simp only[jc,aV];exact _x hs n a1 (es++[x]) d1 ay (hk.snoc x1.2)
theorem _y{L:F o}{zs:F bS}{ps:F eu}{cs:F bq}(hs:sU zs ps cs):∀(n:J)(a:o)(ss:F dC),di L a->ss.length+n<=3->Co ss->
  ∃FM a',HP (n:o) L a zs ps cs ss=G (L,a',zs,ps,cs,FM)/\FM.length=ss.length+n/\Co FM/\di L a'
 |0,a,ss,hd,hl,hk=>by
  rw[VX];simp only[j2h];rw[ak aa,jd,ba];exact⟨ss,a,rfl,rfl,hk,hd⟩
 |n+1,a,ss,hd,hl,hk=>by
  have pj:0<=S (ss.length:o) 3:=ya _ aa;have gZ:S (ss.length:o) 3<3:=vd _ aa;obtain⟨k,a3,e3,k0,k1,d3⟩:=dH (n:=4) hd aa aa;rw[VX];simp only[j2h,show E (R ss)=(ss.length:o) from rfl];rw[ah aa,cb pj (by simp only[jq,kr];omega)];simp only[jc,e3,ja];generalize H [(D #[102,105,114,115,116]),(D #[115,101,99,111,110,100]),(D #[116,104,105,114,100])] (W (S (ss.length:o) 3)) I=nm;obtain⟨ls,a4,e4,l4,d4⟩:=_w (s6:=((n+1:J):o)) (nm:=nm) (ss:=ss) hs k.toNat a3 [] d3 ay (λx hx=>by simp at hx);obtain⟨m,a5,e5,m0,m1,d5⟩:=dH (n:=4) d4 aa aa;obtain⟨es,a6,e6,l6,q6,d6⟩:=_x (s6:=((n+1:J):o)) (nm:=nm) (zs:=zs) (cs:=cs) (ss:=ss) (ls:=ls) hs m.toNat a5 [] d5 ay (λx hx=>by simp at hx);rw[show ((k.toNat:J):o)=k by omega]at e4;rw[show ((m.toNat:J):o)=m by omega]at e6;simp only[e4,e5,e6,ja];rw[ah (by simp[aF];omega),ar (x:=((n+1:J):o)-1),show ((n+1:J):o)-1=(n:o) by omega];simp only[jc,aV]
  obtain⟨FM,a',e',l',k',d'⟩:=_y hs n a6 (ss++[(nm,(ls,es))]) d6 ay (λs dy=>by
   rcases js.1 dy with h|h
   .exact hk s h
   .simp at h;subst h;exact⟨l4,l6,q6⟩)
  exact⟨FM,a',e',by rw[l'];simp;omega,k',d'⟩
theorem juz{L:F o}{a:o}(h:di L a){n:o}(hn:1<=n)(xD:n<=3):∃zs ps cs ss a',j7R L a n=G ((zs,(ps,(cs,ss))),L,a')/\sU zs ps cs/\1<=ss.length/\(ss.length:o)<=n/\Co ss/\di L a':=by
 obtain⟨zs,ps,cs,a1,e1,hs,d1⟩:=jym h;obtain⟨x,a2,e2,x0,x1,d2⟩:=dH (n:=n) d1 hn aa;obtain⟨ss,a3,e3,l3,k3,d3⟩:=_y hs (1+x).toNat a2 [] d2 ay (λs dy=>by simp at dy);rw[show (((1+x).toNat:J):o)=1+x by omega]at e3;simp only[j7R,e1,e2,ja];rw[ar (x:=1+x)];simp only[e3,ja];simp at l3;exact⟨zs,ps,cs,ss,a3,rfl,hs,aa,aa,k3,d3⟩
end Go.Proofs.Pw
