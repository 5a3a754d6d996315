/- eP 8: what is known of a gy that is found right. -/
import Derived.Test.YtmccfdihkphfaaaGreatREPN
import Derived.Test.YtmccfdihkphfaaaGreatREPE
import Derived.Test.YtmccfdihkphfaaaGreatREPC
open _root_ renaming Int->o,List->G,Nat->K,ByteArray->M,Bool->Y
open ByteArray renaming mk->D,empty->J
open List renaming drop_of_length_le->E,getD->I,replicate->O,length->S
open Int renaming ofNat->F,tmod->U,toNat->X
open Option renaming some->H
open Bool renaming true->N
open Decidable renaming decide->R
open Go Go.Lft
namespace Go.Proofs.Pw
theorem K9{n lo hi:o}(h:j3d n lo hi=H N):lo<=n/\n<=hi:=by
 simp only[j3d,j5]at h;by_cases h1:n>=lo
 .rw[ag h1,j6]at h;exact⟨h1,kr h⟩
 .rw[an h1]at h;simp at h
theorem La{i n:o}(h:j1m i n=H N):0<=i/\i<n:=by
 simp only[j1m,j5]at h;by_cases h1:i>=0
 .rw[ag h1,j6]at h;exact⟨h1,kr h⟩
 .rw[an h1]at h;simp at h
section
variable{zs:G bH}{ps:G dr}{cs:G bd}{ss:G cN}
theorem ϗ{ms:G o}(hl:ms.length<=100):∀(n i:K),i+n=ms.length->∃q,((E5 ms zs ps cs ss (ms.length:o) (i:o)).bind λq0=>sumC q0 (λa=>H a) (λ_=>H (-1:o)))=H q/\(¬q>=0->∀m∈ms.drop i,0<=m/\m<(ps.length:o))
 |0,i,hi=>by
  rw[IF,E aa];simp only[j0q];rw[an aa,j7,aW];exact⟨-1,rfl,λ_ m h=>by simp at h⟩
 |n+1,i,hi=>by
  have aq:i<ms.length:=aa;have bc:ms.getD i (0:o)=ms[i]:=by simp[I,aq]
  obtain⟨q,q1,q2⟩:=ϗ hl n (i+1) aa;obtain⟨b,hb⟩:∃b,j1m ms[i] (ps.length:o)=H b:=⟨_,rfl⟩;rw[IF,jb aq];simp only[j0q,j54,show F ps.length=(ps.length:o) from rfl];rw[ag (show (i:o)<(ms.length:o) by omega),bE,ar (x:=(i:o)+1)];simp only[j6,j8,bc,hb,j4];cases b with
  |true=>
   simp only[jc,j7,aS];refine⟨q,q1,λhq m hm=>?_⟩;rcases je.1 hm with rfl|hm
   .exact La hb
   .exact q2 hq m hm
  |false=>exact⟨(i:o),rfl,λhq=>absurd aa hq⟩
theorem jGO{L:bA}(h:j1s (zs,(ps,(cs,ss))) L=H 0):CM zs.length ps.length cs.length L:=by
 obtain⟨b1,p1⟩:∃b,j1m L.2.1 (zs.length:o)=H b:=⟨_,rfl⟩;obtain⟨b3,s1⟩:∃b,j3d L.2.2.1.2 0 86399=H b:=⟨_,rfl⟩;obtain⟨b4,s3⟩:∃b,j3d L.2.2.2.1 0 2=H b:=⟨_,rfl⟩;obtain⟨b5,s5⟩:∃b,j3d L.2.2.2.2.1 1 400=H b:=⟨_,rfl⟩;obtain⟨c,c1,_,c3⟩:=SP L.2.2.2.2.2.2.1;obtain⟨b6,s7⟩:∃b,j3d L.2.2.2.2.2.2.2.2 0 2=H b:=⟨_,rfl⟩;obtain⟨b7,p3⟩:∃b,j1m L.2.2.2.2.2.2.2.1 (cs.length:o)=H b:=⟨_,rfl⟩;simp only[j1s,show F zs.length=(zs.length:o) from rfl,show F cs.length=(cs.length:o) from rfl,show F L.2.2.2.2.2.1.length=(L.2.2.2.2.2.1.length:o) from rfl,p1,j4,xv,s1,s3,s5]at h;cases b1 with
 |false=>simp at h
 |true=>
 simp only[jc,j7]at h;by_cases h1:L.2.2.1.1<1
 .rw[ag h1]at h;simp at h
 rw[an h1,ag (show 0<=L.2.2.1.1 by omega)]at h;simp only[j7,qr]at h;by_cases h2:L.2.2.1.1<=98980
 case neg=>rw[an h2]at h;simp at h
 rw[ag h2]at h;simp only[jc,j7]at h;cases b3 with
 |false=>simp at h
 |true=>
 cases b4 with
 |false=>simp at h
 |true=>
 cases b5 with
 |false=>simp at h
 |true=>
 simp only[jc,j7]at h;by_cases h0:L.2.2.2.2.2.1.length=0
 .rw[show ((L.2.2.2.2.2.1.length:o)==0)=N by simp[h0]]at h;simp at h
 rw[cG (show (L.2.2.2.2.2.1.length:o)≠0 by omega),j7]at h;by_cases nA:(L.2.2.2.2.2.1.length:o)>12
 .rw[ag nA]at h;simp at h
 rw[an nA,j7]at h;obtain⟨q,q1,q2⟩:=ϗ (zs:=zs) (ps:=ps) (cs:=cs) (ss:=ss) (ms:=L.2.2.2.2.2.1) aa L.2.2.2.2.2.1.length 0 aa;rw[show ((0:K):o)=0 from rfl]at q1;have AP:j10 L.2.2.2.2.2.1 zs ps cs ss=H (R (q>=0)):=by simp only[j10,j2I,show F L.2.2.2.2.2.1.length=(L.2.2.2.2.2.1.length:o) from rfl];rw[q1];rfl
 rw[AP]at h;by_cases hq:q>=0
 .rw[ag hq]at h;simp at h
 rw[an hq]at h;simp only[j4,j7,c1]at h;by_cases hc:c=0
 case neg=>rw[show (c != 0)=N by simpa using hc]at h;simp at h
 subst hc;simp only[jf,j7,s7,j4]at h;cases b6 with
 |false=>simp at h
 |true=>
 simp only[jc,j7,p3]at h;obtain⟨z0,z1⟩:=La p1;obtain⟨t0,t1⟩:=K9 s1;obtain⟨u0,u1⟩:=K9 s3;obtain⟨e0,e1⟩:=K9 s5;obtain⟨md0,md1⟩:=K9 s7;obtain⟨w0,w1⟩:=c3 rfl;have iN:=q2 hq;rw[jk]at iN
 have cH:(L.2.2.2.2.2.2.2.2≠0->0<=L.2.2.2.2.2.2.2.1/\L.2.2.2.2.2.2.2.1<(cs.length:o))/\(L.2.2.2.2.2.2.2.2=0->L.2.2.2.2.2.2.2.1=0):=by
  by_cases hm:L.2.2.2.2.2.2.2.2=0
  .refine⟨λhn=>absurd hm hn,λ_=>?_⟩;rw[hm]at h;simp only[jf,j7,kp,j6]at h;apply ju;intro hn;rw[show (L.2.2.2.2.2.2.2.1 != 0)=N by simpa using hn]at h;simp at h
  .refine⟨λ_=>?_,λhn=>absurd hn hm⟩;rw[show (L.2.2.2.2.2.2.2.2 != 0)=N by simpa using hm]at h;simp only[j6,j4]at h;cases b7 with
   |false=>simp at h
   |true=>exact La p3
 exact⟨z0,z1,aa,h2,t0,t1,u0,u1,e0,e1,h0,aa,iN,w0,w1,md0,md1,cH.1,cH.2⟩
theorem Ϙ{ds:G o}(hl:ds.length<=100):∀(n i:K),i+n=ds.length->∃q,((E4 ds (ds.length:o) (i:o)).bind λq0=>sumC q0 (λa=>H a) (λ_=>H (-1:o)))=H q/\(¬q>=0->∀d∈ds.drop i,0<=d/\d<=98980)
 |0,i,hi=>by
  rw[IE,E aa];simp only[j0z];rw[an aa,j7,aW];exact⟨-1,rfl,λ_ m h=>by simp at h⟩
 |n+1,i,hi=>by
  have aq:i<ds.length:=aa;have bc:ds.getD i (0:o)=ds[i]:=by simp[I,aq]
  obtain⟨q,q1,q2⟩:=Ϙ hl n (i+1) aa;rw[IE,jb aq];simp only[j0z,j3Q];rw[ag (show (i:o)<(ds.length:o) by omega),bE,ar (x:=(i:o)+1)];simp only[j6,j8,bc,xv,j4];by_cases h:0<=ds[i]/\ds[i]<=98980
  .rw[ag h.1,ag h.2];simp only[ql,jc,j7,aS];refine⟨q,q1,λhq m hm=>?_⟩;rcases je.1 hm with rfl|hm
   .exact h
   .exact q2 hq m hm
  .have:(R (0<=ds[i])&&R (ds[i]<=98980))=false:=by
    by_cases h0:0<=ds[i]
    .rw[an (λh1=>h ⟨h0,h1⟩),Bool.and_false]
    .rw[an h0,ym]
   rw[this];exact⟨(i:o),rfl,λhq=>absurd aa hq⟩
theorem ϙ{ds:G o}(hl:ds.length<=100){nm:M}{z:o}:∀(n i:K),i+1+n=ds.length->Cg (ds.length:o) ((i+1:K):o) nm z ds=H (.inr ())->(ds.drop i).Pairwise (· < ·)
 |0,i,hi,_=>by
  have:ds.drop i=[ds[i]]:=by rw[jb aa,E aa]
  rw[this];simp
 |n+1,i,hi,h=>by
  have aq:i+1<ds.length:=aa;have g1:ds.getD (i+1) (0:o)=ds[i+1]:=by simp[I,aq]
  have g0:ds.getD i (0:o)=ds[i]:=by simp[I,show i<ds.length by omega]
  rw[Ci]at h;simp only[j0o]at h
  rw[ag (show ((i+1:K):o)<(ds.length:o) by omega),ag (show ((i+1:K):o)>0 by omega),ar (x:=((i+1:K):o)-1),ar (x:=((i+1:K):o)+1),
   bU (show (0:o)<=((i+1:K):o) by omega) aa,bU (show (0:o)<=((i+1:K):o)-1 by omega) aa,show (((i+1:K):o)-1).toNat=i by omega]at h
  simp only[j6,j8,g1,g0]at h;by_cases hc:ds[i+1]<=ds[i]
  .rw[ag hc]at h;simp[aW]at h
  .rw[an hc]at h;simp only[j7,aS]at h;have ih:=ϙ hl n (i+1) aa h;rw[jb (show i<ds.length by omega)];refine kf.2 ⟨λd hd=>?_,ih⟩;rw[jb aq]at hd ih;rcases je.1 hd with rfl|hd
   .omega
   .have:=(kf.1 ih).1 d hd;omega
theorem jGP{x:bd}(h:j1u (zs,(ps,(cs,ss))) x=H 0):qP zs.length x:=by
 obtain⟨b1,p1⟩:∃b,j1m x.2.1 (zs.length:o)=H b:=⟨_,rfl⟩;simp only[j1u,show F zs.length=(zs.length:o) from rfl,show F x.2.2.length=(x.2.2.length:o) from rfl,p1,j4]at h;cases b1 with
 |false=>simp at h
 |true=>
 simp only[jc,j7]at h;by_cases AJ:(x.2.2.length:o)>64
 .rw[ag AJ]at h;simp at h
 rw[an AJ,j7]at h;obtain⟨q,q1,q2⟩:=Ϙ (ds:=x.2.2) aa x.2.2.length 0 aa;rw[show ((0:K):o)=0 from rfl]at q1;have AP:j1p x.2.2=H (R (q>=0)):=by simp only[j1p,j3R,show F x.2.2.length=(x.2.2.length:o) from rfl];rw[q1];rfl
 rw[AP]at h;by_cases hq:q>=0
 .rw[ag hq]at h;simp at h
 rw[an hq]at h;simp only[j4,j7]at h;have hd:=q2 hq;rw[jk]at hd
 have SY:x.2.2.Pairwise (· < ·):=by
  rcases yi x.2.2.length with h0|h0
  .rw[jy h0];exact List.Pairwise.nil
  .rw[Ci]at h;simp only[j0o]at h;rw[ag (show (0:o)<(x.2.2.length:o) by omega),an (show¬(0:o)>0 by omega)]at h;simp only[j6,j7,aS]at h;rw[ar (x:=(0:o)+1),show (0:o)+1=((0+1:K):o) from rfl]at h;obtain⟨e,e1,_⟩:=SQ (zs:=zs) (ps:=ps) (cs:=cs) (ss:=ss) (ds:=x.2.2) (m:=0) (nm:=x.1) (z:=x.2.1) (l3:=[]) aa (x.2.2.length-1) 0 aa;rw[e1]at h;by_cases he:e=0
   .subst he;have:=ϙ (ds:=x.2.2) aa (x.2.2.length-1) 0 aa e1;rwa[jk]at this
   .rw[cM _ he]at h;simp only[j4,pN,j5]at h;exact absurd h he
 obtain⟨z0,z1⟩:=La p1;exact⟨z0,z1,aa,λd hm=>by rw[xv,ag (hd d hm).1,ag (hd d hm).2];rfl,SY⟩
theorem Lb(s:M)(m:G (M×Y)):∃e m',j4r s m=H (e,m'):=by
 obtain⟨b,b1,_⟩:=ϋ s;simp only[j4r,b1,j4];cases b with
 |false=>exact⟨_,_,rfl⟩
 |true=>
  cases hQ false m s with
  |true=>exact⟨_,_,rfl⟩
  |false=>exact⟨_,_,rfl⟩
theorem Ϛ(hl:zs.length<=100)(hz:∀z∈zs,ZF z):∀(n i:K)(m:G (M×Y)),i+n=zs.length->zZ zs (zs.length:o) (i:o) m=H (.inr ())->∀z∈zs.drop i,j1V z=H 0
 |0,i,m,hi,_=>by
  rw[E aa];intro z h;simp at h
 |n+1,i,m,hi,h=>by
  have aq:i<zs.length:=aa;have bc:zs.getD i (J,((0:o),([]:G aL)))=zs[i]:=by simp[I,aq]
  obtain⟨e,m',hn⟩:=Lb zs[i].1 m;obtain⟨ez,_,_,z1,_⟩:=SN zs[i] (hz _ (jl aq));rw[Ox]at h;simp only[j0Z,j8I]at h;rw[ag (show (i:o)<(zs.length:o) by omega),bE,ar (x:=(i:o)+1)]at h;simp only[j6,j8,bc,j4,hn]at h;by_cases he:e=0
  .subst he;simp only[jf,j7]at h;rw[show j1V (zs[i].1,(zs[i].2.1,zs[i].2.2))=_ from z1]at h;simp only[j4]at h;by_cases h0:ez=0
   .subst h0;simp only[jf,j7,aS]at h;rw[jb aq];intro z hm;rcases je.1 hm with rfl|hm
    .exact z1
    .exact Ϛ hl hz n (i+1) m' aa h z hm
   .rw[show (ez != 0)=N by simpa using h0]at h;simp[aW]at h
  .rw[show (e != 0)=N by simpa using he]at h;simp[aW]at h
theorem ϛ(fE:zs.length<=100)(hl:cs.length<=100):∀(n i:K)(m:G (M×Y)),i+n=cs.length->Aa zs ps cs ss cs (cs.length:o) (i:o) m=H (.inr ())->∀x∈cs.drop i,qP zs.length x
 |0,i,m,hi,_=>by
  rw[E aa];intro z h;simp at h
 |n+1,i,m,hi,h=>by
  have aq:i<cs.length:=aa;have bc:cs.getD i (J,((0:o),([]:G o)))=cs[i]:=by simp[I,aq]
  obtain⟨e,m',hn⟩:=Lb cs[i].1 m;rw[Oy]at h;simp only[j0D,j8J,j8K]at h;rw[ag (show (i:o)<(cs.length:o) by omega),bE,ar (x:=(i:o)+1)]at h;simp only[j6,j8,bc,j4,hn]at h;by_cases he:e=0
  .subst he;simp only[jf,j7]at h;cases hc:j1u (zs,(ps,(cs,ss))) cs[i]with
   |none=>rw[show j1u (zs,(ps,(cs,ss))) (cs[i].1,(cs[i].2.1,cs[i].2.2))=_ from hc]at h;simp[lpK]at h
   |some c=>
    rw[show j1u (zs,(ps,(cs,ss))) (cs[i].1,(cs[i].2.1,cs[i].2.2))=_ from hc]at h;simp only[j4]at h;by_cases h0:c=0
    .subst h0;simp only[jf,j7,aS]at h;rw[jb aq];intro z hm;rcases je.1 hm with rfl|hm
     .exact jGP hc
     .exact ϛ fE hl n (i+1) m' aa h z hm
    .rw[show (c != 0)=N by simpa using h0]at h;simp[aW]at h
  .rw[show (e != 0)=N by simpa using he]at h;simp[aW]at h
theorem Ϝ{ls:G bA}(hl:ls.length<=100):∀(n i:K)(m:G (M×Y)),i+n=ls.length->Ab zs ps cs ss ls (ls.length:o) (i:o) m=H (.inr ())->∀x∈ls.drop i,CM zs.length ps.length cs.length x
 |0,i,m,hi,_=>by
  rw[E aa];intro z h;simp at h
 |n+1,i,m,hi,h=>by
  have aq:i<ls.length:=aa;have bc:ls.getD i (J,((0:o),(((0:o),(0:o)),((0:o),((0:o),(([]:G o),(([]:WL),((0:o),(0:o)))))))))=ls[i]:=by simp[I,aq]
  obtain⟨e,m',hn⟩:=Lb ls[i].1 m;rw[Oz]at h;simp only[j0T,j3S,j3T]at h;rw[ag (show (i:o)<(ls.length:o) by omega),bE,ar (x:=(i:o)+1)]at h;simp only[j6,j8,bc,j4,hn]at h;by_cases he:e=0
  .subst he;simp only[jf,j7]at h;cases hc:j1s (zs,(ps,(cs,ss))) ls[i]with
   |none=>rw[show j1s (zs,(ps,(cs,ss))) (ls[i].1,(ls[i].2.1,((ls[i].2.2.1.1,ls[i].2.2.1.2),(ls[i].2.2.2.1,(ls[i].2.2.2.2.1,(ls[i].2.2.2.2.2.1,(ls[i].2.2.2.2.2.2.1,(ls[i].2.2.2.2.2.2.2.1,ls[i].2.2.2.2.2.2.2.2))))))))=_ from hc]at h;simp[lpK]at h
   |some c=>
    rw[show j1s (zs,(ps,(cs,ss))) (ls[i].1,(ls[i].2.1,((ls[i].2.2.1.1,ls[i].2.2.1.2),(ls[i].2.2.2.1,(ls[i].2.2.2.2.1,(ls[i].2.2.2.2.2.1,(ls[i].2.2.2.2.2.2.1,(ls[i].2.2.2.2.2.2.2.1,ls[i].2.2.2.2.2.2.2.2))))))))=_ from hc]at h;simp only[j4]at h;by_cases h0:c=0
    .subst h0;simp only[jf,j7,aS]at h;rw[jb aq];intro z hm;rcases je.1 hm with rfl|hm
     .exact jGO hc
     .exact Ϝ hl n (i+1) m' aa h z hm
    .rw[show (c != 0)=N by simpa using h0]at h;simp[aW]at h
  .rw[show (e != 0)=N by simpa using he]at h;simp[aW]at h
theorem ϝ{es:G cO}(hl:es.length<=100):∀(n i:K),i+n=es.length->Cj es (es.length:o) (i:o) zs ps cs ss=H (.inr ())->∀x∈es.drop i,j17 (zs,(ps,(cs,ss))) x=H 0
 |0,i,hi,_=>by
  rw[E aa];intro z h;simp at h
 |n+1,i,hi,h=>by
  have aq:i<es.length:=aa;have bc:es.getD i ((0:o),((0:o),((0:o),((0:o),(0:o)))))=es[i]:=by simp[I,aq]
  rw[OA]at h;simp only[j18]at h;rw[ag (show (i:o)<(es.length:o) by omega),bE,ar (x:=(i:o)+1)]at h;simp only[j6,j8,bc]at h;cases hc:j17 (zs,(ps,(cs,ss))) es[i]with
  |none=>rw[show j17 (zs,(ps,(cs,ss))) (es[i].1,(es[i].2.1,(es[i].2.2.1,(es[i].2.2.2.1,es[i].2.2.2.2))))=_ from hc]at h;simp[lpK]at h
  |some c=>
   rw[show j17 (zs,(ps,(cs,ss))) (es[i].1,(es[i].2.1,(es[i].2.2.1,(es[i].2.2.2.1,es[i].2.2.2.2))))=_ from hc]at h;simp only[j4]at h;by_cases h0:c=0
   .subst h0;simp only[jf,j7,aS]at h;rw[jb aq];intro z hm;rcases je.1 hm with rfl|hm
    .exact hc
    .exact ϝ hl n (i+1) aa h z hm
   .rw[show (c != 0)=N by simpa using h0]at h;simp[aW]at h
structure SZ(zs:G bH)(ps:G dr)(cs:G bd)(ss:G cN)(s:cN):Prop where
 ll:s.2.1.length<=6
 el:s.2.2.length<=48
 ly:∀x∈s.2.1,CM zs.length ps.length cs.length x
 ed:∀x∈s.2.2,j17 (zs,(ps,(cs,ss))) x=H 0
theorem Ϟ{α:Type}{u:α}{e c:o}(h:(H (rE u e):Option (o ⊕ α))=H (.inl c)):c≠0:=by
 by_cases h0:e=0
 .subst h0;rw[iW]at h;simp at h
 .rw[cM _ h0]at h;simp only[j5,Sum.inl.injEq]at h;omega
theorem jGQ(fE:zs.length<=100)(fH:ps.length<=100)(dR:cs.length<=100){s:cN}(hx:∀x∈s.2.2,x.2.2.2.2<=9223372036854775807)(h:j1w (zs,(ps,(cs,ss))) s=H 0):SZ zs ps cs ss s:=by
 simp only[j1w,show F s.2.1.length=(s.2.1.length:o) from rfl,show F s.2.2.length=(s.2.2.length:o) from rfl]at h;by_cases h6:(s.2.1.length:o)>6
 .rw[ag h6]at h;simp at h
 by_cases ϟ:(s.2.2.length:o)>48
 .rw[an h6,ag ϟ]at h;simp at h
 rw[an h6,an ϟ]at h;simp only[j7,j2J,show F s.2.1.length=(s.2.1.length:o) from rfl]at h;obtain⟨e',e1,_⟩:=SU (zs:=zs) (ps:=ps) (cs:=cs) (ss:=ss) fE fH dR (ls:=s.2.1) aa (m:=0) (nm:=s.1) (es:=s.2.2) (l3:=[]) s.2.1.length 0 [] aa rfl;obtain⟨c',d1,_⟩:=SS (zs:=zs) (ps:=ps) (cs:=cs) (ss:=ss) fH (es:=s.2.2) aa hx (m:=0) (nm:=s.1) (ls:=s.2.1) (l3:=[]) s.2.2.length 0 aa;rw[show ((0:K):o)=0 from rfl]at e1 d1;cases hn:Ab zs ps cs ss s.2.1 (s.2.1.length:o) 0 []with
 |none=>rw[hn]at h;simp at h
 |some r=>
  rw[hn]at h;cases r with
  |inl e=>have he:=Ϟ (e1.symm.trans hn);simp only[j4,pN]at h;rw[show (e != 0)=N by simpa using he]at h;simp only[j6,j5]at h;exact absurd h he
  |inr u=>
   simp only[j4,me,jf,j7]at h;cases hm:Cj s.2.2 (s.2.2.length:o) 0 zs ps cs ss with
   |none=>rw[hm]at h;simp at h
   |some r=>
    rw[hm]at h;cases r with
    |inl e=>have he:=Ϟ (d1.symm.trans hm);simp only[j4,pN,j5]at h;exact absurd h he
    |inr u2=>have a:=Ϝ (zs:=zs) (ps:=ps) (cs:=cs) (ss:=ss) (ls:=s.2.1) aa s.2.1.length 0 [] aa hn;have b:=ϝ (zs:=zs) (ps:=ps) (cs:=cs) (ss:=ss) (es:=s.2.2) aa s.2.2.length 0 aa hm;rw[jk]at a b;exact⟨aa,aa,a,b⟩
theorem Ϡ(fE:zs.length<=100)(fH:ps.length<=100)(dR:cs.length<=100)(hl:ss.length<=100)(hx:∀s∈ss,∀x∈s.2.2,x.2.2.2.2<=9223372036854775807):∀(n i:K)(m:G (M×Y)),i+n=ss.length->Ac zs ps cs ss ss (ss.length:o) (i:o) m=H (.inr ())->∀s∈ss.drop i,SZ zs ps cs ss s
 |0,i,m,hi,_=>by
  rw[E aa];intro z h;simp at h
 |n+1,i,m,hi,h=>by
  have aq:i<ss.length:=aa;have bc:ss.getD i (J,(([]:G bA),([]:G cO)))=ss[i]:=by simp[I,aq]
  obtain⟨e,m',hn⟩:=Lb ss[i].1 m;rw[OC]at h;simp only[j0E,j8L,j8M]at h;rw[ag (show (i:o)<(ss.length:o) by omega),bE,ar (x:=(i:o)+1)]at h;simp only[j6,j8,bc,j4,hn]at h;by_cases he:e=0
  .subst he;simp only[jf,j7]at h;cases hc:j1w (zs,(ps,(cs,ss))) ss[i]with
   |none=>rw[show j1w (zs,(ps,(cs,ss))) (ss[i].1,(ss[i].2.1,ss[i].2.2))=_ from hc]at h;simp[lpK]at h
   |some c=>
    rw[show j1w (zs,(ps,(cs,ss))) (ss[i].1,(ss[i].2.1,ss[i].2.2))=_ from hc]at h;simp only[j4]at h;by_cases h0:c=0
    .subst h0;simp only[jf,j7,aS]at h;rw[jb aq];intro z hm;rcases je.1 hm with rfl|hm
     .exact jGQ fE fH dR (hx _ (jl aq)) hc
     .exact Ϡ fE fH dR hl hx n (i+1) m' aa h z hm
    .rw[show (c != 0)=N by simpa using h0]at h;simp[aW]at h
  .rw[show (e != 0)=N by simpa using he]at h;simp[aW]at h
structure AR(zs:G bH)(ps:G dr)(cs:G bd)(ss:G cN):Prop where
 zl:zs.length<=16
 pl:ps.length<=32
 cl:cs.length<=8
 sl:ss.length<=12
 z:∀z∈zs,j1V z=H 0
 c:∀x∈cs,qP zs.length x
 s:∀s∈ss,SZ zs ps cs ss s
theorem jGR(hz:∀z∈zs,ZF z)(hx:∀s∈ss,∀x∈s.2.2,x.2.2.2.2<=9223372036854775807)(h:j4l (zs,(ps,(cs,ss)))=H 0):AR zs ps cs ss:=by
 simp only[j4l,show F zs.length=(zs.length:o) from rfl,show F ps.length=(ps.length:o) from rfl,show F cs.length=(cs.length:o) from rfl,show F ss.length=(ss.length:o) from rfl]at h;cases hb:(cond (cond (cond (R ((zs.length:o)>16)) N (R ((ps.length:o)>32))) N (R ((cs.length:o)>8))) N (R ((ss.length:o)>12))) with
 |true=>rw[hb]at h;simp at h
 |false=>
  rw[hb]at h;simp only[vd,vv,kg]at hb;simp only[j7]at h;obtain⟨r,r1,_,r3⟩:=SO (zs:=zs) (ps:=ps) (cs:=cs) (ss:=ss) hz aa zs.length 0 [] aa rfl;rw[show ((0:K):o)=0 from rfl]at r1;have r1:zZ zs (zs.length:o) 0 []=H r:=r1;simp only[j34,show F zs.length=(zs.length:o) from rfl,r1,j4]at h;cases r with
  |inl e=>have he:e≠0:=λhe=>r3 (by rw[he]);simp only[pN,j4]at h;rw[show (e != 0)=N by simpa using he]at h;simp only[j6,j5]at h;exact absurd h he
  |inr u=>
   simp only[me,j4,jf,j7]at h;have fz:=Ϛ (zs:=zs) aa hz zs.length 0 [] aa r1;obtain⟨c,c1,_⟩:=ϔ (zs:=zs) (ps:=ps) (cs:=cs) (ss:=ss) aa aa;rw[c1]at h;by_cases h1:c=0
   case neg=>rw[cM _ h1]at h;simp only[j4,pN,j5]at h;exact absurd h h1
   subst h1;simp only[iW,j4,me]at h;obtain⟨d,d1,_⟩:=SR (zs:=zs) (ps:=ps) (cs:=cs) (ss:=ss) aa aa cs.length 0 [] aa rfl;rw[show ((0:K):o)=0 from rfl]at d1;have d1:Aa zs ps cs ss cs (cs.length:o) 0 []=H (rE () d):=d1;simp only[j24,show F cs.length=(cs.length:o) from rfl,d1,j4]at h;by_cases h2:d=0
   case neg=>rw[cM _ h2]at h;simp only[j4,pN]at h;rw[show (d != 0)=N by simpa using h2]at h;simp only[j6,j5]at h;exact absurd h h2
   subst h2;rw[iW]at h d1;simp only[j4,me,jf,j7]at h;have fc:=ϛ (zs:=zs) (ps:=ps) (cs:=cs) (ss:=ss) aa aa cs.length 0 [] aa d1;obtain⟨f,f1,_⟩:=SX (zs:=zs) (ps:=ps) (cs:=cs) (ss:=ss) aa aa aa aa hx ss.length 0 [] aa rfl;rw[show ((0:K):o)=0 from rfl]at f1;have f1:Ac zs ps cs ss ss (ss.length:o) 0 []=H (rE () f):=f1;simp only[j32,show F ss.length=(ss.length:o) from rfl,f1,j4]at h;by_cases h3:f=0
   case neg=>rw[cM _ h3]at h;simp only[j4,pN,j5]at h;exact absurd h h3
   subst h3;rw[iW]at f1;have fs:=Ϡ (zs:=zs) (ps:=ps) (cs:=cs) (ss:=ss) aa aa aa aa hx ss.length 0 [] aa f1;rw[jk]at fz fc fs;exact⟨aa,aa,aa,aa,fz,fc,fs⟩
end
structure ZW(z:bH):Prop where
 ok:∀r∈z.2.2,iU r
 len:z.2.2.length<=2
 yr:∀r∈z.2.2,2025<=r.1
 few:(occs z.2.2).length<=4
theorem gj.w{z:bH}(h:gj z):ZW z:=⟨h.ok,h.len,h.yr,h.few⟩
theorem ZW.f{z:bH}(h:ZW z):ZF z:=⟨by have:=h.len;omega,by have:=h.few;omega⟩
theorem jEE:dN 2025=20089:=by decide
theorem jG9{r:aL}(h:iU r){y:o}(hy:2025<=y)(h2:y<=2240):1735000000<=(cQ r y).1/\(cQ r y).1<=8556000000:=by
 have hv:=Aw (CH y r.2.2.1 aa h2 h.m0 h.m1);have jD:=h.s0;have lb:=h.s1;have hn:=KA (w:=r.2.2.2.2.1) (show 1970<=y by omega) h2 h.m0 h.m1 h.k0 h.k1;have hd:=nF y r.2.2.1;have hc:=vF hy;have hu:=Av y r.2.2.1;rw[jEE]at hc;have hm:20089<=num y r.2.2.1 1:=by unfold num;omega
 unfold cQ;dsimp only;omega
theorem S7:∀(L:bh)(now:o)(p:Option o)(l:bh),(∀x∈L,(1735000000<=x.1/\x.1<=8556000000) /\ -64800<=x.2/\x.2<=64800) -> -64800<=now->now<=64800->nk now p L=H l->Good now p L
 |[],_,_,_,_,_,_,_=>trivial
 |x::r,now,p,l,hL,h0,h1,h=>by
  have hx:=hL x ae;simp only[nk]at h;simp only[Good];by_cases he:x.2=now
  .rw[if_pos he]at h ⊢;exact S7 r now p l (λy hy=>hL y (by simp[hy])) h0 h1 h
  .rw[if_neg he]at h ⊢;split at h
   .rename_i hc;obtain⟨c1,c2,c3,c4,c5⟩:=hc;cases hq:nk x.2 (H (x.1-now)) r with
    |none=>rw[hq]at h;simp at h
    |some q=>refine⟨⟨c1,c2,aa,aa,λq' DB=>?_,hx.2.1,hx.2.2⟩,S7 r x.2 _ q (λy hy=>hL y (by simp[hy])) hx.2.1 hx.2.2 hq⟩;subst DB;simpa using c5
   .simp at h
theorem ZW.zok{z:bH}(h:ZW z)(hc:j1V z=H 0):gj z:=by
 obtain⟨l,e1,t1,t2,_,h0⟩:=χ z h.f.2;obtain⟨e,e1',b,k1,k2,_,k4⟩:=SN z h.f;have c2:j7v z=H e1:=by simp only[j7v,show j0e (z.1,(z.2.1,z.2.2))=_ from t2,j4]
 rw[hc]at k1;rw[c2]at k2;simp only[j5]at k1 k2;subst k1 k2;have he:e1=0:=by apply ju;intro hn;rw[if_neg (λhh=>hn hh.1)]at k4;omega
 obtain⟨_,⟨o0,o1⟩,hg⟩:=h0 he;refine⟨o0,o1,h.ok,h.len,h.yr,h.few,S7 _ _ _ l (λx hx=>?_) o0 o1 hg⟩;obtain⟨r,hr,j,hj,rfl⟩:=_P (_O hx);have hk:=h.ok r hr;have hy:=h.yr r hr;have uL:=hk.y2;exact⟨jG9 hk aa aa,hk.o0,hk.o1⟩
structure CW(c:fP):Prop where
 z:∀z∈c.1,ZW z
 ed:∀s∈c.2.2.2,∀x∈s.2.2,x.2.2.2.2<=9223372036854775807
 w3:∀s∈c.2.2.2,∀x∈s.2.1,x.2.2.2.2.2.2.1.length<=3
theorem CW.chk{c:fP}(h:CW c):∃e,j4l c=H e/\j8y c=H e/\(e=0->AR c.1 c.2.1 c.2.2.1 c.2.2.2/\lz c.1 c.2.1 c.2.2.1):=by
 obtain⟨zs,ps,cs,ss⟩:=c;obtain⟨e,e1,e2⟩:=jED (zs:=zs) (ps:=ps) (cs:=cs) (ss:=ss) (λz hz=>(h.z z hz).f) h.ed;refine⟨e,e1,e2,λhe=>?_⟩;subst he;have hC:=jGR (λz hz=>(h.z z hz).f) h.ed e1;exact⟨hC,λz hz=>(h.z z hz).zok (hC.z z hz),hC.c,hC.zl,hC.pl⟩
theorem ϡ{L:G o}{a:o}(h:dg L a){u0 u1 u2 u3:G Unit}(kN:1<=u1.length)(rh:u1.length<=100) :
  ∃x a',j6V L a (u0,(u1,(u2,u3)))=H (x,L,a')/\(x.2.2.2.1<=1000000000000/\x.2.2.2.2<=1000000000000)/\dg L a':=by
 obtain⟨k,a1,e1,k0,k1,d1⟩:=dT (n:=3) h aa aa;obtain⟨p,a2,e2,p0,p1,d2⟩:=dT (n:=(u1.length:o)) d1 aa aa;obtain⟨t,a3,e3,t0,t1,d3⟩:=_C d2;obtain⟨y,a4,e4,m4,d4⟩:=pQ d3 (xs:=[(3600:o),(86400:o),(7:o),(259200:o),(40000:o)]) ae ae;have hy:7<=y/\y<=259200:=by simp at m4;omega
 simp only[j6V,show F (S u1)=(u1.length:o) from rfl,e1,e2,e3,e4,j4];rw[ar (x:=t+y)]
 have fin:∀(kd A B:o)(a':o),dg L a'->∃x Gg,H ((kd,(A,(B,(t,t+y)))),L,a')=H (x,L,Gg)/\(x.2.2.2.1<=1000000000000/\x.2.2.2.2<=1000000000000)/\dg L Gg:=
  λkd A B a' hd=>⟨_,_,rfl,by dsimp only;omega,hd⟩
 by_cases h2:k=2
 .rw[dI h2,j6];by_cases hn:(u1.length:o)<2
  .rw[ag hn,j6];exact fin 0 p 0 _ d4
  .rw[an hn,j7,ar (x:=(u1.length:o)-1)];obtain⟨q,a5,e5,q0,q1,d5⟩:=dT (n:=(u1.length:o)-1) d4 aa aa;simp only[e5,j4];rw[ar (x:=p+1),ar (x:=p+1+q),cG (show¬(u1.length:o)=0 by omega),cG (show¬k=1 by omega)];simp only[jp,j6,j7];exact fin k p _ _ d5
 .rw[cG h2,j7];by_cases h1:k=1
  .rw[dI h1,j6];obtain⟨b,a5,e5,d5⟩:=vH (n:=4) d4 aa aa;simp only[e5,j4];cases b with
   |true=>exact fin k (-1) 0 _ d5
   |false=>exact fin k p 0 _ d5
  .rw[cG h1,j7];exact fin k p 0 _ d4
def pZ(ls:G bA):Prop:=∀x∈ls,x.2.2.2.2.2.2.1.length<=3
def xD(es:G cO):Prop:=∀x∈es,x.2.2.2.2<=1000000000000
def CX(ss:G cN):Prop:=∀s∈ss,(s.2.1.length<=3/\pZ s.2.1)/\s.2.2.length<=3/\xD s.2.2
theorem pZ.snoc{ls:G bA}{x:bA}(h:pZ ls)(hx:x.2.2.2.2.2.2.1.length<=3):pZ (ls++[x]):=λy hy=>by
 rcases jm.1 hy with hy|hy
 .exact h y hy
 .simp at hy;subst hy;exact hx
theorem xD.snoc{es:G cO}{x:cO}(h:xD es)(hx:x.2.2.2.2<=1000000000000):xD (es++[x]):=λy hy=>by
 rcases jm.1 hy with hy|hy
 .exact h y hy
 .simp at hy;subst hy;exact hx
theorem Ϣ{L:G o}{s6:o}{nm:M}{zs:G bH}{ps:G dr}{cs:G bd}{ss:G cN}(hs:sG zs ps cs):∀(n:K)(a:o)(ls:G bA),dg L a->ls.length+n<=3->pZ ls->
  ∃ls' a',I6 s6 (n:o) L a zs ps cs nm ss ls=H (s6,L,a',zs,ps,cs,nm,ss,ls')/\(ls'.length<=3/\pZ ls')/\dg L a'
 |0,a,ls,hd,hl,hk=>by
  rw[Yk];simp only[j2v];rw[an aa,j7,aW];exact⟨ls,a,rfl,⟨aa,hk⟩,hd⟩
 |n+1,a,ls,hd,hl,hk=>by
  have BX:jfe=H [(D #[97,100,97]),(D #[98,111,98]),(D #[99,108,101,111]),(D #[100,97,110]),(D #[101,118,101]),(D #[102,97,121]),(D #[103,117,115]),(D #[104,97,108])]:=rfl;rw[Yk];simp only[j2v,BX,j4,show F (S ls)=(ls.length:o) from rfl];rw[ag aa,bU (show (0:o)<=(ls.length:o) by omega) (by simp only[ji,jz];omega),ar (x:=((n+1:K):o)-1),show ((n+1:K):o)-1=(n:o) by omega];generalize I [(D #[97,100,97]),(D #[98,111,98]),(D #[99,108,101,111]),(D #[100,97,110]),(D #[101,118,101]),(D #[102,97,121]),(D #[103,117,115]),(D #[104,97,108])] (X (ls.length:o)) J=nmx;obtain⟨l,a1,e1,l2,_,_,d1⟩:=jBQ (ss:=ss) hd hs nmx;simp only[j6,e1,j4];rw[ag (by simp[aG];omega)];simp only[j6,aS];exact Ϣ hs n a1 (ls++[l]) d1 az (hk.snoc l2.w3)
theorem ϣ{L:G o}{s6:o}{nm:M}{zs:G bH}{ps:G dr}{cs:G bd}{ss:G cN}{ls:G bA}(hs:sG zs ps cs):∀(n:K)(a:o)(es:G cO),dg L a->es.length+n<=3->xD es->
  ∃uG a',I7 s6 (n:o) L a zs ps cs nm ss ls es=H (s6,L,a',zs,ps,cs,nm,ss,ls,uG)/\uG.length<=3/\xD uG/\dg L a'
 |0,a,es,hd,hl,hk=>by
  rw[Yl];simp only[j2w];rw[an aa,j7,aW];exact⟨es,a,rfl,aa,hk,hd⟩
 |n+1,a,es,hd,hl,hk=>by
  have kN:=hs.p0;have rh:=hs.p1;obtain⟨x,a1,e1,x1,d1⟩:=ϡ hd (u0:=O zs.length ()) (u1:=O ps.length ()) (u2:=O cs.length ()) (u3:=O ss.length ()) (by rw[zi];omega) (by rw[zi];omega);rw[Yl];simp only[j2w];rw[ag aa,ar (x:=((n+1:K):o)-1),show ((n+1:K):o)-1=(n:o) by omega];simp only[j6,e1,j4];rw[ag (by simp[aG];omega)];simp only[j6,aS];exact ϣ hs n a1 (es++[x]) d1 az (hk.snoc x1.2)
theorem Ϥ{L:G o}{zs:G bH}{ps:G dr}{cs:G bd}(hs:sG zs ps cs):∀(n:K)(a:o)(ss:G cN),dg L a->ss.length+n<=3->CX ss->
  ∃GI a',I8 (n:o) L a zs ps cs ss=H (L,a',zs,ps,cs,GI)/\GI.length=ss.length+n/\CX GI/\dg L a'
 |0,a,ss,hd,hl,hk=>by
  rw[Ym];simp only[j2x];rw[an aa,j7,aW];exact⟨ss,a,rfl,rfl,hk,hd⟩
 |n+1,a,ss,hd,hl,hk=>by
  have pU:0<=U (ss.length:o) 3:=vr _ aa;have ic:U (ss.length:o) 3<3:=zk _ aa;obtain⟨k,a3,e3,k0,k1,d3⟩:=dT (n:=4) hd aa aa;rw[Ym];simp only[j2x,show F (S ss)=(ss.length:o) from rfl];rw[ag aa,bU pU (by simp only[ji,jz];omega)];simp only[j6,e3,j4];generalize I [(D #[102,105,114,115,116]),(D #[115,101,99,111,110,100]),(D #[116,104,105,114,100])] (X (U (ss.length:o) 3)) J=nm;obtain⟨ls,a4,e4,l4,d4⟩:=Ϣ (s6:=((n+1:K):o)) (nm:=nm) (ss:=ss) hs k.toNat a3 [] d3 az (λx hx=>by simp at hx);obtain⟨m,a5,e5,m0,m1,d5⟩:=dT (n:=4) d4 aa aa;obtain⟨es,a6,e6,l6,q6,d6⟩:=ϣ (s6:=((n+1:K):o)) (nm:=nm) (zs:=zs) (cs:=cs) (ss:=ss) (ls:=ls) hs m.toNat a5 [] d5 az (λx hx=>by simp at hx);rw[show ((k.toNat:K):o)=k by omega]at e4;rw[show ((m.toNat:K):o)=m by omega]at e6;simp only[e4,e5,e6,j4];rw[ag (by simp[aG];omega),ar (x:=((n+1:K):o)-1),show ((n+1:K):o)-1=(n:o) by omega];simp only[j6,aS]
  obtain⟨GI,a',e',l',k',d'⟩:=Ϥ hs n a6 (ss++[(nm,(ls,es))]) d6 az (λs eE=>by
   rcases jm.1 eE with h|h
   .exact hk s h
   .simp at h;subst h;exact⟨l4,l6,q6⟩)
  exact⟨GI,a',e',by rw[l'];simp;omega,k',d'⟩
theorem jxO{L:G o}{a:o}(h:dg L a){n:o}(hn:1<=n)(yp:n<=3):∃zs ps cs ss a',j8P L a n=H ((zs,(ps,(cs,ss))),L,a')/\sG zs ps cs/\1<=ss.length/\(ss.length:o)<=n/\CX ss/\dg L a':=by
 obtain⟨zs,ps,cs,a1,e1,hs,d1⟩:=jBP h;obtain⟨x,a2,e2,x0,x1,d2⟩:=dT (n:=n) d1 hn aa;obtain⟨ss,a3,e3,l3,k3,d3⟩:=Ϥ hs (1+x).toNat a2 [] d2 az (λs eE=>by simp at eE);rw[show (((1+x).toNat:K):o)=1+x by omega]at e3;simp only[j8P,e1,e2,j4];rw[ar (x:=1+x)];simp only[e3,j4];simp at l3;exact⟨zs,ps,cs,ss,a3,rfl,hs,aa,aa,k3,d3⟩
end Go.Proofs.Pw
