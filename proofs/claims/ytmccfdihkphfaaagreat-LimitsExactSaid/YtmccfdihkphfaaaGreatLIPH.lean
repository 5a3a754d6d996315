/- Chapter 8: what is known of a configuration that is found right. -/
import Derived.Test.YtmccfdihkphfaaaGreatLIPG
import Derived.Test.YtmccfdihkphfaaaGreatLIPC
import Derived.Test.YtmccfdihkphfaaaGreatLIPB
import Derived.Test.YtmccfdihkphfaaaGreatLIPE
import Derived.Test.YtmccfdihkphfaaaGreatLIPD
open _root_ renaming Int->o,List->G,ByteArray->K,Nat->N,Bool->Ê,Option->Ë
open List renaming drop_eq_getElem_cons->D,getD->I,drop_zero->M,drop_of_length_le->R,replicate->U,flatMap_cons->X,nil_append->Y,length->À,length_replicate->Á,getElem_mem->Ã,length_cons->Ä
open ByteArray renaming mk->E,empty->J
open Option renaming some->F
open Int renaming ofNat->H,tmod->Æ,toNat->È
open Bool renaming not_true->O,true->Â,false->Ç
open Decidable renaming decide->Z
noncomputable section
open Go Go.Lft
namespace Go.Proofs.Pw
theorem jpn{n lo hi:o}(h:j3D n lo hi=F Â):lo<=n/\n<=hi:=by
 grind[j3D]
theorem jn6{i n:o}(h:j1n i n=F Â):0<=i/\i<n:=by
 grind[j1n]
section
variable{zs:G j0K}{ps:G j0k}{cs:G CalT}{ss:G j0R}
theorem jAR{ms:G o}(hl:ms.length<=100):∀(n i:N),i+n=ms.length->∃q,((j2u ms zs ps cs ss (ms.length:o) (i:o)).bind λq0=>sumC q0 (λa=>F a) (λ_=>F (-1:o)))=F q/\(¬q>=0->∀m∈ms.drop i,0<=m/\m<(ps.length:o))
 |0,i,hi=>by
  rw[j1Z];simp(disch:=omega)only[R,j0q,S0]
  simp_all
 |n+1,i,hi=>by
  have hlt:i<ms.length:=omg_;have hgd:ms.getD i (0:o)=ms[i]:=by simp[I,hlt]
  obtain⟨q,q1,q2⟩:=jAR hl n (i+1) omg_;obtain⟨b,hb⟩:∃b,j1n ms[i] (ps.length:o)=F b:=⟨_,rfl⟩;rw[j1Z];simp(disch:=omega)only[D hlt,j0q,j5Z,hb,S0];cases b with
  |true=>simp only[O,j7,j04];refine⟨q,q1,λhq m hm=>?_⟩;grind[jn6]
  |false=>exact⟨(i:o),rfl,λhq=>absurd omg_ hq⟩
theorem jFo{L:j0f}(h:j20 (zs,ps,cs,ss) L=F 0):LC0 zs.length ps.length cs.length L:=by
 obtain⟨b1,p1⟩:∃b,j1n L.2.1 (zs.length:o)=F b:=⟨_,rfl⟩;obtain⟨b3,s1⟩:∃b,j3D L.2.2.1.2 0 86399=F b:=⟨_,rfl⟩;obtain⟨b4,s3⟩:∃b,j3D L.2.2.2.1 0 2=F b:=⟨_,rfl⟩;obtain⟨b5,s5⟩:∃b,j3D L.2.2.2.2.1 1 400=F b:=⟨_,rfl⟩;obtain⟨c,c1,_,c3⟩:=jjJ L.2.2.2.2.2.2.1;obtain⟨b6,s7⟩:∃b,j3D L.2.2.2.2.2.2.2.2 0 2=F b:=⟨_,rfl⟩;obtain⟨b7,p3⟩:∃b,j1n L.2.2.2.2.2.2.2.1 (cs.length:o)=F b:=⟨_,rfl⟩;simp only[j20,show H zs.length=(zs.length:o) from rfl,show H cs.length=(cs.length:o) from rfl,show H L.2.2.2.2.2.1.length=(L.2.2.2.2.2.1.length:o) from rfl,p1,j4,jh4,s1,s3,s5]at h;cases b1 with
 |false=>simp at h
 |true=>
 simp only[O,j7]at h;by_cases h1:L.2.2.1.1<1
 .simp_all
 rw[j01 h1,j00 (show 0<=L.2.2.1.1 by omega)]at h;simp only[j7,Bool.true_and]at h;by_cases h2:L.2.2.1.1<=98980
 case neg=>simp_all
 rw[j00 h2]at h;simp only[O,j7]at h;cases b3 with
 |false=>simp at h
 |true=>
 cases b4 with
 |false=>simp at h
 |true=>
 cases b5 with
 |false=>simp at h
 |true=>
 simp only[O,j7]at h;by_cases h0:L.2.2.2.2.2.1.length=0
 .simp_all
 rw[j3Z (show (L.2.2.2.2.2.1.length:o)≠0 by omega),j7]at h;by_cases h12:(L.2.2.2.2.2.1.length:o)>12
 .simp_all
 rw[j01 h12,j7]at h;obtain⟨q,q1,q2⟩:=jAR (zs:=zs) (ps:=ps) (cs:=cs) (ss:=ss) (ms:=L.2.2.2.2.2.1) omg_ L.2.2.2.2.2.1.length 0 omg_;rw[show ((0:N):o)=0 from rfl]at q1;have hcf:j1c L.2.2.2.2.2.1 zs ps cs ss=F (Z (q>=0)):=by grind[j1c,j3m]
 rw[hcf]at h;by_cases hq:q>=0
 .simp_all
 rw[j01 hq]at h;simp only[j4,j7,c1]at h;by_cases hc:c=0
 case neg=>grind
 subst hc;simp only[bne_self_eq_false,j7,s7,j4]at h;cases b6 with
 |false=>simp at h
 |true=>
 simp only[O,j7,p3]at h;obtain⟨z0,z1⟩:=jn6 p1;obtain⟨t0,t1⟩:=jpn s1;obtain⟨u0,u1⟩:=jpn s3;obtain⟨e0,e1⟩:=jpn s5;obtain⟨md0,md1⟩:=jpn s7;obtain⟨w0,w1⟩:=c3 rfl;have hmem:=q2 hq;rw[M]at hmem
 have hcal:(L.2.2.2.2.2.2.2.2≠0->0<=L.2.2.2.2.2.2.2.1/\L.2.2.2.2.2.2.2.1<(cs.length:o))/\(L.2.2.2.2.2.2.2.2=0->L.2.2.2.2.2.2.2.1=0):=by
  by_cases hm:L.2.2.2.2.2.2.2.2=0
  .grind
  .refine⟨λ_=>?_,λhn=>absurd hn hm⟩;rw[show (L.2.2.2.2.2.2.2.2 != 0)=Â by simpa using hm]at h;simp only[j6,j4]at h;cases b7 with
   |false=>simp at h
   |true=>exact jn6 p3
 exact⟨z0,z1,omg_,h2,t0,t1,u0,u1,e0,e1,h0,omg_,hmem,w0,w1,md0,md1,hcal.1,hcal.2⟩
theorem jAS{ds:G o}(hl:ds.length<=100):∀(n i:N),i+n=ds.length->∃q,((j3l ds (ds.length:o) (i:o)).bind λq0=>sumC q0 (λa=>F a) (λ_=>F (-1:o)))=F q/\(¬q>=0->∀d∈ds.drop i,0<=d/\d<=98980)
 |0,i,hi=>by
  rw[j2t];simp(disch:=omega)only[R,j0F,S0]
  simp_all
 |n+1,i,hi=>by
  have hlt:i<ds.length:=omg_;have hgd:ds.getD i (0:o)=ds[i]:=by simp[I,hlt]
  obtain⟨q,q1,q2⟩:=jAS hl n (i+1) omg_;rw[j2t];simp(disch:=omega)only[D hlt,j0F,j4A,jh4,S0];by_cases h:0<=ds[i]/\ds[i]<=98980
  .simp(disch:=omega)only[S0];refine⟨q,q1,λhq m hm=>?_⟩;grind
  .have:(Z (0<=ds[i])&&Z (ds[i]<=98980))=false:=by
    simp_all
   rw[this];exact⟨(i:o),rfl,λhq=>absurd omg_ hq⟩
theorem jAT{ds:G o}(hl:ds.length<=100){nm:K}{z:o}:∀(n i:N),i+1+n=ds.length->j26 (ds.length:o) ((i+1:N):o) nm z ds=F (.inr ())->(ds.drop i).Pairwise (· < ·)
 |0,i,hi,_=>by
  grind[D]
 |n+1,i,hi,h=>by
  have hlt:i+1<ds.length:=omg_;have g1:ds.getD (i+1) (0:o)=ds[i+1]:=by simp[I,hlt]
  have g0:ds.getD i (0:o)=ds[i]:=by grind
  rw[j1E]at h;simp only[j0p]at h
  rw[j00 (show ((i+1:N):o)<(ds.length:o) by omega),j00 (show ((i+1:N):o)>0 by omega),j07 (x:=((i+1:N):o)-1),j07 (x:=((i+1:N):o)+1),
   j0B (show (0:o)<=((i+1:N):o) by omega) omg_,j0B (show (0:o)<=((i+1:N):o)-1 by omega) omg_,show (((i+1:N):o)-1).toNat=i by omega]at h
  simp only[j6,j8,g1,g0]at h;by_cases hc:ds[i+1]<=ds[i]
  .grind[j0e]
  .rw[j01 hc]at h;simp only[j7,j04]at h;have ih:=jAT hl n (i+1) omg_ h;grind[D,List.pairwise_cons]
theorem jFp{x:CalT}(h:j29 (zs,ps,cs,ss) x=F 0):CCk zs.length x:=by
 obtain⟨b1,p1⟩:∃b,j1n x.2.1 (zs.length:o)=F b:=⟨_,rfl⟩;simp only[j29,show H zs.length=(zs.length:o) from rfl,show H x.2.2.length=(x.2.2.length:o) from rfl,p1,j4]at h;cases b1 with
 |false=>simp at h
 |true=>
 simp only[O,j7]at h;by_cases h64:(x.2.2.length:o)>64
 .simp_all
 rw[j01 h64,j7]at h;obtain⟨q,q1,q2⟩:=jAS (ds:=x.2.2) omg_ x.2.2.length 0 omg_;rw[show ((0:N):o)=0 from rfl]at q1;have hcf:j1D x.2.2=F (Z (q>=0)):=by grind[j1D,j4B]
 rw[hcf]at h;by_cases hq:q>=0
 .simp_all
 rw[j01 hq]at h;simp only[j4,j7]at h;have hd:=q2 hq;rw[M]at hd
 have hasc:x.2.2.Pairwise (· < ·):=by
  rcases Nat.eq_zero_or_pos x.2.2.length with h0|h0
  .simp_all
  .rw[j1E]at h;simp only[j0p]at h;rw[j00 (show (0:o)<(x.2.2.length:o) by omega),j01 (show¬(0:o)>0 by omega)]at h;simp only[j6,j7,j04]at h;rw[j07 (x:=(0:o)+1),show (0:o)+1=((0+1:N):o) from rfl]at h;obtain⟨e,e1,_⟩:=jCw (zs:=zs) (ps:=ps) (cs:=cs) (ss:=ss) (ds:=x.2.2) (m:=0) (nm:=x.1) (z:=x.2.1) (l3:=[]) omg_ (x.2.2.length-1) 0 omg_;rw[e1]at h;by_cases he:e=0
   .subst he;have:=jAT (ds:=x.2.2) omg_ (x.2.2.length-1) 0 omg_ e1
    simp_all
   grind[rE_n,j8C]
 obtain⟨z0,z1⟩:=jn6 p1;exact⟨z0,z1,omg_,λd hm=>by grind[jh4],hasc⟩
theorem jn7(s:K)(m:G (K×Ê)):∃e m',j5j s m=F (e,m'):=by
 obtain⟨b,b1,_⟩:=jAP s;simp only[j5j,b1,j4];cases b with
 |false=>exact⟨_,_,rfl⟩
 |true=>cases j3i Ç m s<;>simp_all
theorem jAU(hl:zs.length<=100)(hz:∀z∈zs,ZF z):∀(n i:N)(m:G (K×Ê)),i+n=zs.length->j1W zs (zs.length:o) (i:o) m=F (.inr ())->∀z∈zs.drop i,j2d z=F 0
 |0,i,m,hi,_=>by
  simp_all
 |n+1,i,m,hi,h=>by
  have hlt:i<zs.length:=omg_;have hgd:zs.getD i (J,0,[])=zs[i]:=by simp[I,hlt]
  obtain⟨e,m',hn⟩:=jn7 zs[i].1 m;obtain⟨ez,_,_,z1,_⟩:=jsz zs[i] (hz _ (Ã hlt));rw[j5g]at h;simp only[j1b,j9l]at h;rw[j00 (show (i:o)<(zs.length:o) by omega),j2j,j07 (x:=(i:o)+1)]at h;simp only[j6,j8,hgd,j4,hn]at h;by_cases he:e=0
  .subst he;simp only[bne_self_eq_false,j7]at h;rw[show j2d (zs[i].1,zs[i].2.1,zs[i].2.2)=_ from z1]at h;simp only[j4]at h;by_cases h0:ez=0
   .subst h0;simp only[bne_self_eq_false,j7,j04]at h;rw[D hlt];intro z hm;rcases List.mem_cons.1 hm with rfl|hm
    .exact z1
    .exact jAU hl hz n (i+1) m' omg_ h z hm
   grind[j0e]
  grind[j0e]
theorem jAV(hzl:zs.length<=100)(hl:cs.length<=100):∀(n i:N)(m:G (K×Ê)),i+n=cs.length->j1j zs ps cs ss cs (cs.length:o) (i:o) m=F (.inr ())->∀x∈cs.drop i,CCk zs.length x
 |0,i,m,hi,_=>by
  simp_all
 |n+1,i,m,hi,h=>by
  have hlt:i<cs.length:=omg_;have hgd:cs.getD i (J,0,[])=cs[i]:=by simp[I,hlt]
  obtain⟨e,m',hn⟩:=jn7 cs[i].1 m;rw[j3K]at h;simp only[j0T,j9m,j9n]at h;rw[j00 (show (i:o)<(cs.length:o) by omega),j2j,j07 (x:=(i:o)+1)]at h;simp only[j6,j8,hgd,j4,hn]at h;by_cases he:e=0
  .subst he;simp only[bne_self_eq_false,j7]at h;cases hc:j29 (zs,ps,cs,ss) cs[i]with
   |none=>grind[lpK]
   |some c=>
    rw[show j29 (zs,ps,cs,ss) (cs[i].1,cs[i].2.1,cs[i].2.2)=_ from hc]at h;simp only[j4]at h;by_cases h0:c=0
    .subst h0;simp only[bne_self_eq_false,j7,j04]at h;rw[D hlt];intro z hm;rcases List.mem_cons.1 hm with rfl|hm
     .exact jFp hc
     .exact jAV hzl hl n (i+1) m' omg_ h z hm
    grind[j0e]
  grind[j0e]
theorem jAW{ls:G j0f}(hl:ls.length<=100):∀(n i:N)(m:G (K×Ê)),i+n=ls.length->j1L zs ps cs ss ls (ls.length:o) (i:o) m=F (.inr ())->∀x∈ls.drop i,LC0 zs.length ps.length cs.length x
 |0,i,m,hi,_=>by
  simp_all
 |n+1,i,m,hi,h=>by
  have hlt:i<ls.length:=omg_;have hgd:ls.getD i (J,0,(0,0),0,0,[],[],0,0)=ls[i]:=by simp[I,hlt]
  obtain⟨e,m',hn⟩:=jn7 ls[i].1 m;rw[j4T]at h;simp only[j14,j4C,j4D]at h;rw[j00 (show (i:o)<(ls.length:o) by omega),j2j,j07 (x:=(i:o)+1)]at h;simp only[j6,j8,hgd,j4,hn]at h;by_cases he:e=0
  .subst he;simp only[bne_self_eq_false,j7]at h;cases hc:j20 (zs,ps,cs,ss) ls[i]with
   |none=>grind[lpK]
   |some c=>
    rw[show j20 (zs,ps,cs,ss) (ls[i].1,ls[i].2.1,(ls[i].2.2.1.1,ls[i].2.2.1.2),ls[i].2.2.2.1,ls[i].2.2.2.2.1,ls[i].2.2.2.2.2.1,ls[i].2.2.2.2.2.2.1,ls[i].2.2.2.2.2.2.2.1,ls[i].2.2.2.2.2.2.2.2)=_ from hc]at h;simp only[j4]at h;by_cases h0:c=0
    .subst h0;simp only[bne_self_eq_false,j7,j04]at h;rw[D hlt];intro z hm;rcases List.mem_cons.1 hm with rfl|hm
     .exact jFo hc
     .exact jAW hl n (i+1) m' omg_ h z hm
    grind[j0e]
  grind[j0e]
theorem jAX{es:G j3b}(hl:es.length<=100):∀(n i:N),i+n=es.length->j2Z es (es.length:o) (i:o) zs ps cs ss=F (.inr ())->∀x∈es.drop i,j1F (zs,ps,cs,ss) x=F 0
 |0,i,hi,_=>by
  simp_all
 |n+1,i,hi,h=>by
  have hlt:i<es.length:=omg_;have hgd:es.getD i (0,0,0,0,0)=es[i]:=by simp[I,hlt]
  rw[j5x]at h;simp only[j1k]at h;rw[j00 (show (i:o)<(es.length:o) by omega),j2j,j07 (x:=(i:o)+1)]at h;simp only[j6,j8,hgd]at h;cases hc:j1F (zs,ps,cs,ss) es[i]with
  |none=>grind[lpK]
  |some c=>
   rw[show j1F (zs,ps,cs,ss) (es[i].1,es[i].2.1,es[i].2.2.1,es[i].2.2.2.1,es[i].2.2.2.2)=_ from hc]at h;simp only[j4]at h;by_cases h0:c=0
   .subst h0;simp only[bne_self_eq_false,j7,j04]at h;rw[D hlt];intro z hm;rcases List.mem_cons.1 hm with rfl|hm
    .exact hc
    .exact jAX hl n (i+1) omg_ h z hm
   grind[j0e]
structure SC0(zs:G j0K)(ps:G j0k)(cs:G CalT)(ss:G j0R)(s:j0R):Prop where
 ll:s.2.1.length<=6
 el:s.2.2.length<=48
 ly:∀x∈s.2.1,LC0 zs.length ps.length cs.length x
 ed:∀x∈s.2.2,j1F (zs,ps,cs,ss) x=F 0
theorem jxV{α:Type}{u:α}{e c:o}(h:(F (rE u e):Ë (o ⊕ α))=F (.inl c)):c≠0:=by
 grind[rE_0,rE_n]
theorem jFq(hzl:zs.length<=100)(hpl:ps.length<=100)(hcl:cs.length<=100){s:j0R}(hx:∀x∈s.2.2,x.2.2.2.2<=9223372036854775807)(h:j2a (zs,ps,cs,ss) s=F 0):SC0 zs ps cs ss s:=by
 simp only[j2a,show H s.2.1.length=(s.2.1.length:o) from rfl,show H s.2.2.length=(s.2.2.length:o) from rfl]at h;by_cases h6:(s.2.1.length:o)>6
 .simp_all
 by_cases h48:(s.2.2.length:o)>48
 .simp_all
 rw[j01 h6,j01 h48]at h;simp only[j7,j3n,show H s.2.1.length=(s.2.1.length:o) from rfl]at h;obtain⟨e',e1,_⟩:=jCB (zs:=zs) (ps:=ps) (cs:=cs) (ss:=ss) hzl hpl hcl (ls:=s.2.1) omg_ (m:=0) (nm:=s.1) (es:=s.2.2) (l3:=[]) s.2.1.length 0 [] omg_ rfl;obtain⟨c',d1,_⟩:=jCA (zs:=zs) (ps:=ps) (cs:=cs) (ss:=ss) hpl (es:=s.2.2) omg_ hx (m:=0) (nm:=s.1) (ls:=s.2.1) (l3:=[]) s.2.2.length 0 omg_;rw[show ((0:N):o)=0 from rfl]at e1 d1;cases hn:j1L zs ps cs ss s.2.1 (s.2.1.length:o) 0 []with
 |none=>simp_all
 |some r=>
  rw[hn]at h;cases r with
  |inl e=>have he:=jxV (e1.symm.trans hn);grind[j8C]
  |inr u=>
   simp only[j4,j8D,bne_self_eq_false,j7]at h;cases hm:j2Z s.2.2 (s.2.2.length:o) 0 zs ps cs ss with
   |none=>simp_all
   |some r=>
    rw[hm]at h;cases r with
    |inl e=>grind[jxV,j8C]
    |inr u2=>have a:=jAW (zs:=zs) (ps:=ps) (cs:=cs) (ss:=ss) (ls:=s.2.1) omg_ s.2.1.length 0 [] omg_ hn;have b:=jAX (zs:=zs) (ps:=ps) (cs:=cs) (ss:=ss) (es:=s.2.2) omg_ s.2.2.length 0 omg_ hm;rw[M]at a b;exact⟨omg_,omg_,a,b⟩
theorem jAY(hzl:zs.length<=100)(hpl:ps.length<=100)(hcl:cs.length<=100)(hl:ss.length<=100)(hx:∀s∈ss,∀x∈s.2.2,x.2.2.2.2<=9223372036854775807):∀(n i:N)(m:G (K×Ê)),i+n=ss.length->j1l zs ps cs ss ss (ss.length:o) (i:o) m=F (.inr ())->∀s∈ss.drop i,SC0 zs ps cs ss s
 |0,i,m,hi,_=>by
  simp_all
 |n+1,i,m,hi,h=>by
  have hlt:i<ss.length:=omg_;have hgd:ss.getD i (J,[],[])=ss[i]:=by simp[I,hlt]
  obtain⟨e,m',hn⟩:=jn7 ss[i].1 m;rw[j3L]at h;simp only[j0U,j9o,j9p]at h;rw[j00 (show (i:o)<(ss.length:o) by omega),j2j,j07 (x:=(i:o)+1)]at h;simp only[j6,j8,hgd,j4,hn]at h;by_cases he:e=0
  .subst he;simp only[bne_self_eq_false,j7]at h;cases hc:j2a (zs,ps,cs,ss) ss[i]with
   |none=>grind[lpK]
   |some c=>
    rw[show j2a (zs,ps,cs,ss) (ss[i].1,ss[i].2.1,ss[i].2.2)=_ from hc]at h;simp only[j4]at h;by_cases h0:c=0
    .subst h0;simp only[bne_self_eq_false,j7,j04]at h;rw[D hlt];intro z hm;rcases List.mem_cons.1 hm with rfl|hm
     .grind[jFq]
     .exact jAY hzl hpl hcl hl hx n (i+1) m' omg_ h z hm
    grind[j0e]
  grind[j0e]
structure Cfg0(zs:G j0K)(ps:G j0k)(cs:G CalT)(ss:G j0R):Prop where
 zl:zs.length<=16
 pl:ps.length<=32
 cl:cs.length<=8
 sl:ss.length<=12
 z:∀z∈zs,j2d z=F 0
 c:∀x∈cs,CCk zs.length x
 s:∀s∈ss,SC0 zs ps cs ss s
theorem jFr(hz:∀z∈zs,ZF z)(hx:∀s∈ss,∀x∈s.2.2,x.2.2.2.2<=9223372036854775807)(h:j48 (zs,ps,cs,ss)=F 0):Cfg0 zs ps cs ss:=by
 simp only[j48,show H zs.length=(zs.length:o) from rfl,show H ps.length=(ps.length:o) from rfl,show H cs.length=(cs.length:o) from rfl,show H ss.length=(ss.length:o) from rfl]at h;cases hb:(cond (cond (cond (Z ((zs.length:o)>16)) Â (Z ((ps.length:o)>32))) Â (Z ((cs.length:o)>8))) Â (Z ((ss.length:o)>12))) with
 |true=>grind
 |false=>
  rw[hb]at h;simp only[Bool.cond_true_left,Bool.or_eq_false_iff,decide_eq_false_iff_not]at hb;simp only[j7]at h;obtain⟨r,r1,_,r3⟩:=jzO (zs:=zs) (ps:=ps) (cs:=cs) (ss:=ss) hz omg_ zs.length 0 [] omg_ rfl;rw[show ((0:N):o)=0 from rfl]at r1;have r1:j1W zs (zs.length:o) 0 []=F r:=r1;simp only[j1X,show H zs.length=(zs.length:o) from rfl,r1,j4]at h;cases r with
  |inl e=>grind[j8C]
  |inr u=>
   simp only[j8D,j4,bne_self_eq_false,j7]at h;have fz:=jAU (zs:=zs) omg_ hz zs.length 0 [] omg_ r1;obtain⟨c,c1,_⟩:=jkB (zs:=zs) (ps:=ps) (cs:=cs) (ss:=ss) omg_ omg_;rw[c1]at h;by_cases h1:c=0
   case neg=>grind[rE_n,j8C]
   subst h1;simp only[rE_0,j4,j8D]at h;obtain⟨d,d1,_⟩:=jCx (zs:=zs) (ps:=ps) (cs:=cs) (ss:=ss) omg_ omg_ cs.length 0 [] omg_ rfl;rw[show ((0:N):o)=0 from rfl]at d1;have d1:j1j zs ps cs ss cs (cs.length:o) 0 []=F (rE () d):=d1;simp only[j2m,show H cs.length=(cs.length:o) from rfl,d1,j4]at h;by_cases h2:d=0
   case neg=>grind[rE_n,j8C]
   subst h2;rw[rE_0]at h d1;simp only[j4,j8D,bne_self_eq_false,j7]at h;have fc:=jAV (zs:=zs) (ps:=ps) (cs:=cs) (ss:=ss) omg_ omg_ cs.length 0 [] omg_ d1;obtain⟨f,f1,_⟩:=jCC (zs:=zs) (ps:=ps) (cs:=cs) (ss:=ss) omg_ omg_ omg_ omg_ hx ss.length 0 [] omg_ rfl;rw[show ((0:N):o)=0 from rfl]at f1;have f1:j1l zs ps cs ss ss (ss.length:o) 0 []=F (rE () f):=f1;simp only[j3N,show H ss.length=(ss.length:o) from rfl,f1,j4]at h;by_cases h3:f=0
   case neg=>grind[rE_n,j8C]
   subst h3;rw[rE_0]at f1;have fs:=jAY (zs:=zs) (ps:=ps) (cs:=cs) (ss:=ss) omg_ omg_ omg_ omg_ hx ss.length 0 [] omg_ f1;rw[M]at fz fc fs;exact⟨omg_,omg_,omg_,omg_,fz,fc,fs⟩
end
structure ZW(z:j0K):Prop where
 ok:∀r∈z.2.2,ROk r
 len:z.2.2.length<=2
 yr:∀r∈z.2.2,2025<=r.1
 few:(occs z.2.2).length<=4
theorem ZOk.w{z:j0K}(h:ZOk z):ZW z:=⟨h.ok,h.len,h.yr,h.few⟩
theorem ZW.f{z:j0K}(h:ZW z):ZF z:=⟨by have:=h.len;omega,by have:=h.few;omega⟩
theorem jCE:cnt 2025=20089:=by decide
theorem jEk{r:Rule}(h:ROk r){y:o}(hy:2025<=y)(h2:y<=2240):1735000000<=(occ r y).1/\(occ r y).1<=8556000000:=by
 have hv:=jdo (jcJ y r.2.2.1 omg_ h2 h.m0 h.m1);have hs0:=h.s0;have hs1:=h.s1;have hn:=jjG (w:=r.2.2.2.2.1) (show 1970<=y by omega) h2 h.m0 h.m1 h.k0 h.k1;have hd:=j5e y r.2.2.1;have hc:=je5 hy;have hu:=jdm y r.2.2.1;rw[jCE]at hc;have hm:20089<=num y r.2.2.1 1:=by unfold num;omega
 unfold occ;dsimp only;omega
theorem jpo:∀(L:TrL)(now:o)(p:Ë o)(l:TrL),(∀x∈L,(1735000000<=x.1/\x.1<=8556000000) /\ -64800<=x.2/\x.2<=64800) -> -64800<=now->now<=64800->trG now p L=F l->Good now p L
 |[],_,_,_,_,_,_,_=>trivial
 |x::r,now,p,l,hL,h0,h1,h=>by
  have hx:=hL x smp_;simp only[trG]at h;simp only[Good];by_cases he:x.2=now
  .rw[if_pos he]at h ⊢;exact jpo r now p l (λy hy=>hL y (by simp[hy])) h0 h1 h
  .rw[if_neg he]at h ⊢;split at h
   .rename_i hc;obtain⟨c1,c2,c3,c4,c5⟩:=hc;cases hq:trG x.2 (F (x.1-now)) r with
    |none=>rw[hq]at h;simp at h
    |some q=>refine⟨⟨c1,c2,omg_,omg_,λq' hq'=>?_,hx.2.1,hx.2.2⟩,jpo r x.2 _ q (λy hy=>hL y (by simp[hy])) hx.2.1 hx.2.2 hq⟩;subst hq';simpa using c5
   .simp at h
theorem ZW.zok{z:j0K}(h:ZW z)(hc:j2d z=F 0):ZOk z:=by
 obtain⟨l,e1,t1,t2,_,h0⟩:=jrg z h.f.2;obtain⟨e,e1',b,k1,k2,_,k4⟩:=jsz z h.f;have c2:j8o z=F e1:=by simp only[j8o,show j0c (z.1,z.2.1,z.2.2)=_ from t2,j4]
 rw[hc]at k1;rw[c2]at k2;simp only[j5]at k1 k2;subst k1 k2;have he:e1=0:=by apply Classical.byContradiction;intro hn;rw[if_neg (λhh=>hn hh.1)]at k4;omega
 obtain⟨_,⟨o0,o1⟩,hg⟩:=h0 he;refine⟨o0,o1,h.ok,h.len,h.yr,h.few,jpo _ _ _ l (λx hx=>?_) o0 o1 hg⟩;obtain⟨r,hr,j,hj,rfl⟩:=jtH (jr5 hx);have hk:=h.ok r hr;have hy:=h.yr r hr;have hy2:=hk.y2;exact⟨jEk hk omg_ omg_,hk.o0,hk.o1⟩
structure CW(c:CfgT):Prop where
 z:∀z∈c.1,ZW z
 ed:∀s∈c.2.2.2,∀x∈s.2.2,x.2.2.2.2<=9223372036854775807
 w3:∀s∈c.2.2.2,∀x∈s.2.1,x.2.2.2.2.2.2.1.length<=3
theorem CW.chk{c:CfgT}(h:CW c):∃e,j48 c=F e/\j8q c=F e/\(e=0->Cfg0 c.1 c.2.1 c.2.2.1 c.2.2.2/\GOk c.1 c.2.1 c.2.2.1):=by
 obtain⟨zs,ps,cs,ss⟩:=c;obtain⟨e,e1,e2⟩:=jCD (zs:=zs) (ps:=ps) (cs:=cs) (ss:=ss) (λz hz=>(h.z z hz).f) h.ed;refine⟨e,e1,e2,λhe=>?_⟩;subst he;have hC:=jFr (λz hz=>(h.z z hz).f) h.ed e1;exact⟨hC,λz hz=>(h.z z hz).zok (hC.z z hz),hC.c,hC.zl,hC.pl⟩
theorem jtV{L:G o}{a:o}(h:DOk L a){u0 u1 u2 u3:G Unit}(hp0:1<=u1.length)(hp1:u1.length<=100) :
  ∃x a',j7I L a (u0,u1,u2,u3)=F (x,L,a')/\(x.2.2.2.1<=1000000000000/\x.2.2.2.2<=1000000000000)/\DOk L a':=by
 obtain⟨k,a1,e1,k0,k1,d1⟩:=j0J (n:=3) h omg_ omg_;obtain⟨p,a2,e2,p0,p1,d2⟩:=j0J (n:=(u1.length:o)) d1 omg_ omg_;obtain⟨t,a3,e3,t0,t1,d3⟩:=jkv d2;obtain⟨y,a4,e4,m4,d4⟩:=jb7 d3 (xs:=[(3600:o),(86400:o),(7:o),(259200:o),(40000:o)]) smp_ smp_;have hy:7<=y/\y<=259200:=by simp at m4;omega
 simp only[j7I,show H (À u1)=(u1.length:o) from rfl,e1,e2,e3,e4,j4];rw[j07 (x:=t+y)]
 have fin:∀(kd A B:o)(a':o),DOk L a'->∃x a'',F ((kd,A,B,t,t+y),L,a')=F (x,L,a'')/\(x.2.2.2.1<=1000000000000/\x.2.2.2.2<=1000000000000)/\DOk L a'':=
  λkd A B a' hd=>⟨_,_,rfl,by dsimp only;omega,hd⟩
 by_cases h2:k=2
 .rw[j8T h2,j6];by_cases hn:(u1.length:o)<2
  .simp_all
  .rw[j01 hn,j7,j07 (x:=(u1.length:o)-1)];obtain⟨q,a5,e5,q0,q1,d5⟩:=j0J (n:=(u1.length:o)-1) d4 omg_ omg_;simp(disch:=omega)only[e5,S0];grind
 .rw[j3Z h2,j7];by_cases h1:k=1
  .rw[j8T h1,j6];obtain⟨b,a5,e5,d5⟩:=jej (n:=4) d4 omg_ omg_;simp only[e5,j4];cases b<;>grind
  .rw[j3Z h1,j7];exact fin k p 0 _ d4
def LyW(ls:G j0f):Prop:=∀x∈ls,x.2.2.2.2.2.2.1.length<=3
def EdW(es:G j3b):Prop:=∀x∈es,x.2.2.2.2<=1000000000000
def ScW(ss:G j0R):Prop:=∀s∈ss,(s.2.1.length<=3/\LyW s.2.1)/\s.2.2.length<=3/\EdW s.2.2
theorem LyW.snoc{ls:G j0f}{x:j0f}(h:LyW ls)(hx:x.2.2.2.2.2.2.1.length<=3):LyW (ls++[x]):=λy hy=>by
 rcases List.mem_append.1 hy with hy|hy
 .exact h y hy
 simp_all
theorem EdW.snoc{es:G j3b}{x:j3b}(h:EdW es)(hx:x.2.2.2.2<=1000000000000):EdW (es++[x]):=λy hy=>by
 rcases List.mem_append.1 hy with hy|hy
 .exact h y hy
 simp_all
theorem jAZ{L:G o}{s6:o}{nm:K}{zs:G j0K}{ps:G j0k}{cs:G CalT}{ss:G j0R}(hs:SOk zs ps cs):∀(n:N)(a:o)(ls:G j0f),DOk L a->ls.length+n<=3->LyW ls->
  ∃ls' a',j7d s6 (n:o) L a zs ps cs nm ss ls=F (s6,L,a',zs,ps,cs,nm,ss,ls')/\(ls'.length<=3/\LyW ls')/\DOk L a'
 |0,a,ls,hd,hl,hk=>by
  grind[jaM,j38,S0]
 |n+1,a,ls,hd,hl,hk=>by
  have hnl:jeK=F [(E #[97,100,97]),(E #[98,111,98]),(E #[99,108,101,111]),(E #[100,97,110]),(E #[101,118,101]),(E #[102,97,121]),(E #[103,117,115]),(E #[104,97,108])]:=rfl;rw[jaM];simp only[j38,hnl,j4,show H (À ls)=(ls.length:o) from rfl];rw[j00 omg_,j0B (show (0:o)<=(ls.length:o) by omega) (by grind),j07 (x:=((n+1:N):o)-1),show ((n+1:N):o)-1=(n:o) by omega];generalize I [(E #[97,100,97]),(E #[98,111,98]),(E #[99,108,101,111]),(E #[100,97,110]),(E #[101,118,101]),(E #[102,97,121]),(E #[103,117,115]),(E #[104,97,108])] (È (ls.length:o)) J=nmx;obtain⟨l,a1,e1,l2,_,_,d1⟩:=jzv (ss:=ss) hd hs nmx;simp(disch:=omega)only[e1,S0];exact jAZ hs n a1 (ls++[l]) d1 sqo_ (hk.snoc l2.w3)
theorem jB0{L:G o}{s6:o}{nm:K}{zs:G j0K}{ps:G j0k}{cs:G CalT}{ss:G j0R}{ls:G j0f}(hs:SOk zs ps cs):∀(n:N)(a:o)(es:G j3b),DOk L a->es.length+n<=3->EdW es->
  ∃es' a',j9A s6 (n:o) L a zs ps cs nm ss ls es=F (s6,L,a',zs,ps,cs,nm,ss,ls,es')/\es'.length<=3/\EdW es'/\DOk L a'
 |0,a,es,hd,hl,hk=>by
  rw[jaN];simp(disch:=omega)only[j39,S0];grind
 |n+1,a,es,hd,hl,hk=>by
  have hp0:=hs.p0;have hp1:=hs.p1;obtain⟨x,a1,e1,x1,d1⟩:=jtV hd (u0:=U zs.length ()) (u1:=U ps.length ()) (u2:=U cs.length ()) (u3:=U ss.length ()) (by rw[Á];omega) (by rw[Á];omega);rw[jaN];simp only[j39];rw[j00 omg_,j07 (x:=((n+1:N):o)-1),show ((n+1:N):o)-1=(n:o) by omega];simp(disch:=omega)only[e1,S0];exact jB0 hs n a1 (es++[x]) d1 sqo_ (hk.snoc x1.2)
theorem jB1{L:G o}{zs:G j0K}{ps:G j0k}{cs:G CalT}(hs:SOk zs ps cs):∀(n:N)(a:o)(ss:G j0R),DOk L a->ss.length+n<=3->ScW ss->
  ∃ss' a',j7e (n:o) L a zs ps cs ss=F (L,a',zs,ps,cs,ss')/\ss'.length=ss.length+n/\ScW ss'/\DOk L a'
 |0,a,ss,hd,hl,hk=>by
  grind[jaO,j3a,S0]
 |n+1,a,ss,hd,hl,hk=>by
  have hm0:0<=Æ (ss.length:o) 3:=Int.tmod_nonneg _ omg_;have hm1:Æ (ss.length:o) 3<3:=Int.tmod_lt_of_pos _ omg_;obtain⟨k,a3,e3,k0,k1,d3⟩:=j0J (n:=4) hd omg_ omg_;rw[jaO];simp(disch:=omega)only[j3a,e3,S0];generalize I [(E #[102,105,114,115,116]),(E #[115,101,99,111,110,100]),(E #[116,104,105,114,100])] (È (Æ (ss.length:o) 3)) J=nm;obtain⟨ls,a4,e4,l4,d4⟩:=jAZ (s6:=((n+1:N):o)) (nm:=nm) (ss:=ss) hs k.toNat a3 [] d3 sqo_ (λx hx=>by simp at hx);obtain⟨m,a5,e5,m0,m1,d5⟩:=j0J (n:=4) d4 omg_ omg_;obtain⟨es,a6,e6,l6,q6,d6⟩:=jB0 (s6:=((n+1:N):o)) (nm:=nm) (zs:=zs) (cs:=cs) (ss:=ss) (ls:=ls) hs m.toNat a5 [] d5 sqo_ (λx hx=>by simp at hx);rw[show ((k.toNat:N):o)=k by omega]at e4;rw[show ((m.toNat:N):o)=m by omega]at e6;simp only[e4,e5,e6,j4];rw[j00 (by simp[j03];omega),j07 (x:=((n+1:N):o)-1),show ((n+1:N):o)-1=(n:o) by omega];simp only[j6,j04]
  obtain⟨ss',a',e',l',k',d'⟩:=jB1 hs n a6 (ss++[(nm,ls,es)]) d6 sqo_ (λs hs'=>by
   rcases List.mem_append.1 hs' with h|h
   .exact hk s h
   simp_all)
  grind
theorem jvf{L:G o}{a:o}(h:DOk L a){n:o}(hn:1<=n)(hn2:n<=3):∃zs ps cs ss a',j9t L a n=F ((zs,ps,cs,ss),L,a')/\SOk zs ps cs/\1<=ss.length/\(ss.length:o)<=n/\ScW ss/\DOk L a':=by
 obtain⟨zs,ps,cs,a1,e1,hs,d1⟩:=jzu h;obtain⟨x,a2,e2,x0,x1,d2⟩:=j0J (n:=n) d1 hn omg_;obtain⟨ss,a3,e3,l3,k3,d3⟩:=jB1 hs (1+x).toNat a2 [] d2 sqo_ (λs hs'=>by simp at hs');rw[show (((1+x).toNat:N):o)=1+x by omega]at e3;simp(disch:=omega)only[j9t,e1,e2,e3,S0];grind
def pfX(zs:G j0K)(cs:G CalT)(ls:G j0f)(t:o)(i:N):Int:=perX zs cs (ls.getD i (J,0,(0,0),0,0,[],[],0,0)) t
def lvs(es:G j3b)(p:o):SL:=(es.filter λx=>x.1==0&&x.2.1==p).map λx=>(x.2.2.2.1,x.2.2.2.2)
theorem jEl{es:G j3b}{p t:o}:inS t (lvs es p)↔jdp es p t=true:=by
 unfold inS lvs jdp;rw[List.any_eq_true];constructor
 .grind
 .rintro⟨x,hx,h⟩
  grind
theorem jCF{es:G j3b}(hl:es.length<=1000){p:o}:∀(n i:N)(acc:SL),i+n=es.length->acc.length<=i->ja3 p es (es.length:o) (i:o) acc=F (acc++lvs (es.drop i) p)
 |0,i,acc,hi,_=>by
  grind[jdP,j56,S0,lvs]
 |n+1,i,acc,hi,ha=>by
  have hi':i<es.length:=omg_;have hgd:es.getD i (0,0,0,0,0)=es[i]:=by simp[I,hi']
  rw[jdP];simp only[j56];rw[j00 omg_,j2j,j07 (x:=(i:o)+1)];simp only[j6,j8,hgd];have hc:cond (es[i].1==(0:o)) (es[i].2.1==p) Ç=(es[i].1==0&&es[i].2.1==p):=by simp_all
  rw[hc,D hi'];cases hx:(es[i].1==0&&es[i].2.1==p) with
  |true=>simp(disch:=omega)only[S0];have:=jCF hl (p:=p) n (i+1) (acc++[(es[i].2.2.2.1,es[i].2.2.2.2)]) omg_ sqo_;grind[lvs]
  |false=>rw[j7,j04];have:=jCF hl (p:=p) n (i+1) acc omg_ omg_;grind[lvs]
theorem jxW{es:G j3b}(hE:∀x∈es,EC0 x)(hl:es.length<=48)(nm:K)(ls:G j0f)(p:o) :
  ∃out,j8f (nm,ls,es) p=F out/\StS (-1) out/\(∀t,inS t out↔jdp es p t=Â)/\out.length<=es.length:=by
 have lp:=jCF (es:=es) omg_ (p:=p) es.length 0 [] omg_ smp_;rw[Y,M]at lp;have hfl:(lvs es p).length<=es.length:=by grind[lvs]
 have hb:∀s∈lvs es p,0<=s.1/\s.1<s.2/\s.2<=1000000000000:=λs h=>by
  obtain⟨x,hx,rfl⟩:=List.mem_map.1 h;have:=hE x (List.mem_filter.1 hx).1;exact⟨this.f0,this.ft,this.t1⟩
 obtain⟨out,e,h1,h2,h3,h4⟩:=jhA (l:=lvs es p) omg_ (λs h=>by have:=hb s h;omega) (lo:=0) (hi:=1000000000000) (λs h _=>by have:=hb s h;omega);refine⟨out,?_,h1,λt=>(h2 t).trans jEl,omg_⟩;grind[j8f]
theorem jvg{β:Type}(l:G (o×β))(k:o)(v:β)(j:o):jaD (j6V l k v) j=(j==k||jaD l j):=by
 induction l<;>grind[j6V,jaD]
theorem jvh{β:Type}(d:β)(l:G (o×β))(k:o)(v:β)(j:o):j3i d (j6V l k v) j=cond (j==k) v (j3i d l j):=by
 induction l<;>grind[j6V,j3i]
def OrS(p:o):SgL->Prop
 |[]=>True
 |x::r=>p<=x.1/\x.1<x.2.1/\OrS x.2.1 r
def inG(t:o)(l:SgL):Prop:=∃x∈l,x.1<=t/\t<x.2.1
theorem jlt{t:o}{s:SgT}{l:SgL}:inG t (s::l)↔(s.1<=t/\t<s.2.1)\/inG t l:=by
 constructor
 .rintro⟨u,hu,h⟩
  rcases List.mem_cons.1 hu with rfl|hu
  .exact .inl h
  .exact .inr ⟨u,hu,h⟩
 .rintro (h|⟨u,hu,h⟩)
  .exact⟨s,smp_,h⟩
  .exact⟨u,by simp[hu],h⟩
theorem jsA{t:o}:¬inG t []:=by rintro⟨s,hs,_⟩;simp at hs
theorem OrS.weak{p q:o}(hq:q<=p):∀{l:SgL},OrS p l->OrS q l
 |[],_=>trivial
 |_::_,h=>⟨by have:=h.1;omega,h.2⟩
theorem OrS.low{p t:o}:∀{l:SgL},OrS p l->inG t l->p<=t
 |[],_,h=>absurd h jsA
 |s::r,h,hx=>by
  rcases jlt.1 hx with hx|hx
  .have:=h.1;omega
  .have:=OrS.low h.2.2 hx;have:=h.1;have:=h.2.1;omega
theorem OrS.app{e:o}{r:SgL}(hr:OrS e r):∀{l:SgL}{p:o},OrS p l->p<=e->(∀x∈l,x.2.1<=e)->OrS p (l++r)
 |[],_,_,hp,_=>hr.weak hp
 |x::l,p,h,_,hl=>⟨h.1,h.2.1,hr.app h.2.2 (hl x smp_) (λy hy=>hl y (by simp[hy]))⟩
theorem OrS.apart{p:o}:∀{l:SgL},OrS p l->l.Pairwise (λx y=>x.2.1<=y.1)/\∀x∈l,p<=x.1
 |[],_=>⟨List.Pairwise.nil,smp_⟩
 |x::l,h=>by
  obtain⟨h1,h2⟩:=OrS.apart h.2.2
  exact⟨List.pairwise_cons.2 ⟨h2,h1⟩,λy hy=>by
   rcases List.mem_cons.1 hy with rfl|hy
   .exact h.1
   .have:=h2 y hy;have:=h.1;have:=h.2.1;omega⟩
def lvO(s:j0R)(p:o):SL:=(j8f s p).getD []
def woO(s:j0R)(x:SgT):SL:=(j5l [(x.1,x.2.1)] (lvO s x.2.2)).getD []
def prs(s:j0R)(x:SgT):SgL:=if x.2.2<0 then [] else (woO s x).map λu=>(u.1,u.2,x.2.2)
section
variable{nm:K}{ls:G j0f}{es:G j3b}(hE:∀x∈es,EC0 x)(hl:es.length<=48)
include hE hl
theorem jB2(p:o):j8f (nm,ls,es) p=F (lvO (nm,ls,es) p)/\StS (-1) (lvO (nm,ls,es) p)/\(∀t,inS t (lvO (nm,ls,es) p)↔jdp es p t=Â)/\(lvO (nm,ls,es) p).length<=es.length:=by
 obtain⟨out,e,h⟩:=jxW hE hl nm ls p;grind[lvO]
theorem jxX{x:SgT}(hx:x.1<x.2.1):j5l [(x.1,x.2.1)] (lvO (nm,ls,es) x.2.2)=F (woO (nm,ls,es) x)/\StS (x.1-1) (woO (nm,ls,es) x)/\
  (∀t,inS t (woO (nm,ls,es) x)↔(x.1<=t/\t<x.2.1)/\jdp es x.2.2 t=Ç)/\(woO (nm,ls,es) x).length<=1+es.length:=by
 obtain⟨_,l1,l2,l3⟩:=jB2 (nm:=nm) (ls:=ls) hE hl x.2.2;obtain⟨out,e,h1,h2,h3⟩:=jky (B:=lvO (nm,ls,es) x.2.2) omg_ (A:=[(x.1,x.2.1)]) (p:=x.1-1) ⟨by dsimp only;omega,hx,trivial⟩ l1 smp_;grind[woO,j0i,j2V]
omit hE hl in
theorem jB3{S:SgL}{m j f e p:o}{mp:G (o×SL)}{W:SL}(hW:W.length<=1000):∀(n i:N)(acc:SgL),i+n=W.length->acc.length+n<=1000000000->
  j7q S m j (W.length:o) (i:o) nm ls es f e p mp acc W=F (S,m,j,nm,ls,es,mp,acc++(W.drop i).map λu=>(u.1,u.2,p))
 |0,i,acc,hi,_=>by
  rw[jcX];simp(disch:=omega)only[j4j,R,S0];simp
 |n+1,i,acc,hi,ha=>by
  have hi':i<W.length:=omg_;have hgd:W.getD i (0,0)=W[i]:=by simp[I,hi']
  rw[jcX];simp(disch:=omega)only[j4j,D hi',S0];have:=jB3 (S:=S) (m:=m) (j:=j) (f:=f) (e:=e) (p:=p) (mp:=mp) hW n (i+1) (acc++[(W[i].1,W[i].2,p)]) omg_ sqo_;grind
theorem jxY{S:SgL}(hS:S.length<=100000)(hpos:∀x∈S,x.1<x.2.1):∀(n i:N)(mp:G (o×SL))(acc:SgL),i+n=S.length->(∀p,jaD mp p=Â->j3i [] mp p=lvO (nm,ls,es) p)->acc.length<=49*i->
  j5R S (S.length:o) (i:o) nm ls es mp acc=F (acc++(S.drop i).flatMap (prs (nm,ls,es)))
 |0,i,mp,acc,hi,_,_=>by
  grind[jcY,j4k,j4F,S0]
 |n+1,i,mp,acc,hi,hm,ha=>by
  have hi':i<S.length:=omg_;have hgd:S.getD i (0,0,0)=S[i]:=by simp[I,hi']
  have hp:=hpos _ (Ã hi');rw[jcY];simp only[j4k,j4F];rw[j00 (show (i:o)<(S.length:o) by omega),j2j];simp only[j6,j8,hgd];rw[D hi',X];by_cases hneg:S[i].2.2<0
  .simp(disch:=omega)only[S0];have e:prs (nm,ls,es) S[i]=[]:=if_pos hneg;rw[e,Y];exact jxY hS hpos n (i+1) mp acc omg_ hm omg_
  .have e:prs (nm,ls,es) S[i]=(woO (nm,ls,es) S[i]).map λu=>(u.1,u.2,S[i].2.2):=if_neg hneg;obtain⟨w1,_,_,w4⟩:=jxX (nm:=nm) (ls:=ls) hE hl hp;rw[j01 hneg,j7]
   have fin:∀mp':G (o×SL),(∀p,jaD mp' p=Â->j3i [] mp' p=lvO (nm,ls,es) p)->j3i [] mp' S[i].2.2=lvO (nm,ls,es) S[i].2.2->
     lpK ((j5l [(S[i].1,S[i].2.1)] (j3i [] mp' S[i].2.2)).bind λr49=>
      (j7q S (S.length:o) (i:o) (H r49.length) 0 nm ls es S[i].1 S[i].2.1 S[i].2.2 mp' acc r49).bind λq2=>
       (F (Sum.inl (q2.1,q2.2.1,w64 (q2.2.2.1+1),q2.2.2.2.1,q2.2.2.2.2.1,q2.2.2.2.2.2.1,q2.2.2.2.2.2.2.1,q2.2.2.2.2.2.2.2)):Ë ((SgL×o×o×K×G j0f×G j3b×G (o×SL)×SgL) ⊕ SgL)))
      (λh=>j5R h.1 h.2.1 h.2.2.1 h.2.2.2.1 h.2.2.2.2.1 h.2.2.2.2.2.1 h.2.2.2.2.2.2.1 h.2.2.2.2.2.2.2)=F (acc++(prs (nm,ls,es) S[i]++(S.drop (i+1)).flatMap (prs (nm,ls,es)))):=λmp' hm' hg=>by
    have l2:=jB3 (nm:=nm) (ls:=ls) (es:=es) (S:=S) (m:=(S.length:o)) (j:=(i:o)) (f:=S[i].1) (e:=S[i].2.1) (p:=S[i].2.2) (mp:=mp') (W:=woO (nm,ls,es) S[i]) omg_ (woO (nm,ls,es) S[i]).length 0 acc omg_ omg_;rw[hg,w1];simp only[j4];rw[show j7q S (S.length:o) (i:o) (H (woO (nm,ls,es) S[i]).length) 0 nm ls es S[i].1 S[i].2.1 S[i].2.2 mp' acc (woO (nm,ls,es) S[i])=_ from l2];simp(disch:=omega)only[M,<-e,<-List.append_assoc,S0];exact jxY hS hpos n (i+1) mp' _ omg_ hm' (by grind)
   cases hh:jaD mp S[i].2.2 with
   |true=>
    simp_all
   |false=>simp(disch:=omega)only[show j8f (nm,ls,es) S[i].2.2=_ from (jB2 (nm:=nm) (ls:=ls) hE hl S[i].2.2).1,S0];grind[jvh,jvg]
theorem jvi{S:SgL}(hS:S.length<=100000)(hpos:∀x∈S,x.1<x.2.1):ja4 (nm,ls,es) S=F (S.flatMap (prs (nm,ls,es))):=by
 simp(disch:=omega)only[ja4,S0];rw[show j5R S (S.length:o) 0 nm ls es [] []=_ from jxY hE hl hS hpos S.length 0 [] [] omg_ (λp h=>by simp[jaD]at h) smp_];rfl
theorem jCG{x:SgT}(hx:x.1<x.2.1):(prs (nm,ls,es) x).length<=1+es.length:=by
 grind[prs,jxX]
theorem jtW:∀{S:SgL},(∀x∈S,x.1<x.2.1)->(S.flatMap (prs (nm,ls,es))).length<=S.length*(1+es.length)
 |[],_=>smp_
 |x::S,h=>by
  have h1:=jCG (nm:=nm) (ls:=ls) hE hl (h x smp_);have h2:=jtW (S:=S) (λy hy=>h y (by simp[hy]));rw[X,List.length_append,Ä,Nat.add_mul];omega
theorem jB4{p:o}{c e:o}:∀{W:SL}{q:o},StS q W->(∀u∈W,u.2<=e)->OrS (q+1) (W.map λu=>(u.1,u.2,c))/\(p<=q+1->OrS p (W.map λu=>(u.1,u.2,c)))
 |[],_,_,_=>⟨trivial,λ_=>trivial⟩
 |u::W,q,h,hb=>by
  have _:=hE;have _:=hl;have h3:=(jB4 (p:=u.2) (c:=c) (e:=e) (W:=W) h.2.2 (λv hv=>hb v (by simp[hv]))).2 omg_;exact⟨⟨by have:=h.1;dsimp only;omega,h.2.1,h3⟩,λhp=>⟨by have:=h.1;dsimp only;omega,h.2.1,h3⟩⟩
theorem jxZ{f:o->o}{b:o}:∀{S:SgL}{a:o},Ch f b a S->(∀x∈S,x.1<x.2.1)->
  OrS a (S.flatMap (prs (nm,ls,es)))/\(∀x∈S.flatMap (prs (nm,ls,es)),x.2.1<=b/\∀t,x.1<=t->t<x.2.1->f t=x.2.2/\0<=x.2.2/\jdp es x.2.2 t=Ç)/\
   ∀t,a<=t->t<b->0<=f t->jdp es (f t) t=Ç->inG t (S.flatMap (prs (nm,ls,es)))
 |[],a,h,_=>⟨trivial,smp_,λt h1 h2=>by have h:a=b:=h;omega⟩
 |x::S,a,h,hpos=>by
  obtain⟨h1,h2,h3,h4⟩:=h;have hx:=hpos x smp_;obtain⟨i1,i2,i3⟩:=jxZ (f:=f) (b:=b) h4 (λy hy=>hpos y (by simp[hy]));have hle:=h4.le;obtain⟨_,w2,w3,_⟩:=jxX (nm:=nm) (ls:=ls) hE hl hx
  have hmem:∀y∈prs (nm,ls,es) x,0<=x.2.2/\y.2.2=x.2.2/\y.1<y.2.1/\x.1<=y.1/\y.2.1<=x.2.1/\∀t,y.1<=t->t<y.2.1->jdp es x.2.2 t=false:=λy hy=>by
   unfold prs at hy;split at hy
   .simp at hy
   .obtain⟨u,hu,rfl⟩:=List.mem_map.1 hy;have hm:=StS.mem w2 u hu;have e1:=(w3 (u.2-1)).1 ⟨u,hu,omg_,omg_⟩;exact⟨omg_,rfl,hm.2,by dsimp only;omega,by dsimp only;omega,λt t1 t2=>((w3 t).1 ⟨u,hu,t1,t2⟩).2⟩
  rw[X];refine⟨?_,λy hy=>?_,λt t1 t2 t3 t4=>?_⟩
  .refine OrS.app i1 ?_ h2 (λy hy=>(hmem y hy).2.2.2.2.1);unfold prs;split
   .trivial
   .exact(jB4 hE hl (p:=a) (c:=x.2.2) (e:=x.2.1) w2 (λu hu=>by
     have hm:=StS.mem w2 u hu;have e1:=(w3 (u.2-1)).1 ⟨u,hu,omg_,omg_⟩;omega)).2 omg_
  .rcases List.mem_append.1 hy with hy|hy
   .obtain⟨g1,g2,g3,g4,g5,g6⟩:=hmem y hy;exact⟨omg_,λt t1 t2=>⟨by grind,omg_,by grind⟩⟩
   .exact i2 y hy
  .by_cases hlt:t<x.2.1
   .have hf:=h3 t t1 hlt;rw[hf]at t3 t4;obtain⟨u,hu,u1,u2⟩:=(w3 t).2 ⟨⟨omg_,hlt⟩,t4⟩;refine⟨(u.1,u.2,x.2.2),List.mem_append_left _ ?_,u1,u2⟩;grind[prs]
   .obtain⟨y,hy,y1,y2⟩:=i3 t omg_ t2 t3 t4;exact⟨y,List.mem_append_right _ hy,y1,y2⟩
end
def wiF:N->SgL->SL->SgL
 |n+1,s::a,u::b=>(if (if u.1>s.1 then u.1 else s.1)<(if u.2<s.2.1 then u.2 else s.2.1) then [((if u.1>s.1 then u.1 else s.1),(if u.2<s.2.1 then u.2 else s.2.1),s.2.2)] else [])++
  (if s.2.1<u.2 then wiF n a (u::b) else wiF n (s::a) b)
 |_,_,_=>[]
theorem jy0:∀(n:N)(a:SgL)(b:SL)(p q:o),a.length+b.length<=n->OrS p a->StS q b->
  OrS p (wiF n a b)/\OrS q (wiF n a b)/\(∀x∈wiF n a b,∃s∈a,s.1<=x.1/\x.2.1<=s.2.1/\x.2.2=s.2.2/\∀t,x.1<=t->t<x.2.1->inS t b)/\(∀t,inG t a->inS t b->inG t (wiF n a b))/\(wiF n a b).length<=a.length+b.length
 |0,a,b,p,q,hn,_,_=>by
  obtain rfl:a=[]:=List.length_eq_zero_iff.1 omg_;exact⟨trivial,trivial,by simp[wiF],λt h=>absurd h jsA,by simp[wiF]⟩
 |n+1,[],b,p,q,_,_,_=>⟨trivial,trivial,by simp[wiF],λt h=>absurd h jsA,by simp[wiF]⟩
 |n+1,_::_,[],p,q,_,_,_=>⟨trivial,trivial,by simp[wiF],λt _ h=>absurd h j2V,by simp[wiF]⟩
 |n+1,s::a,u::b,p,q,hn,ha,hb=>by
  obtain⟨a1,a2,a3⟩:=ha;obtain⟨b1,b2,b3⟩:=hb;simp only[Ä]at hn ⊢;have hx:∃f t:o,f=(if u.1>s.1 then u.1 else s.1)/\t=(if u.2<s.2.1 then u.2 else s.2.1)/\(∀x,(f<=x/\x<t)↔(s.1<=x/\x<s.2.1)/\(u.1<=x/\x<u.2))/\p<=f/\q<=f/\t<=s.2.1/\t<=u.2/\s.1<=f:=by grind
  obtain⟨f,t,ef,et,hi,f1,f2,t1,t2,f3⟩:=hx;simp only[wiF,<-ef,<-et]
  have key:∀(a':SgL)(b':SL)(r:SgL),OrS t r->OrS p r->OrS q r->(∀x∈r,∃s'∈(s::a),s'.1<=x.1/\x.2.1<=s'.2.1/\x.2.2=s'.2.2/\∀y,x.1<=y->y<x.2.1->inS y (u::b))->(∀y,inG y a'->inS y b'->inG y r)->
    r.length<=a'.length+b'.length->a'.length+b'.length+1=a.length+1+(b.length+1)->(∀y,inG y (s::a)->inS y (u::b)->(f<=y/\y<t)\/(inG y a'/\inS y b'))->
    OrS p ((if f<t then [(f,t,s.2.2)] else [])++r)/\OrS q ((if f<t then [(f,t,s.2.2)] else [])++r)/\(∀x∈((if f<t then [(f,t,s.2.2)] else [])++r),∃s'∈(s::a),s'.1<=x.1/\x.2.1<=s'.2.1/\x.2.2=s'.2.2/\∀y,x.1<=y->y<x.2.1->inS y (u::b))/\
     (∀y,inG y (s::a)->inS y (u::b)->inG y ((if f<t then [(f,t,s.2.2)] else [])++r))/\((if f<t then [(f,t,s.2.2)] else [])++r).length<=a.length+1+(b.length+1):=by
   intro a' b' r hr1 hr2 hr3 hr4 hr5 hl hl2 hiff;by_cases hft:f<t
   .rw[if_pos hft];refine⟨⟨f1,hft,hr1⟩,⟨f2,hft,hr1⟩,λx hx=>?_,λy y1 y2=>?_,sqo_⟩
    .rcases List.mem_cons.1 hx with rfl|hx
     .grind[j0i]
     .exact hr4 x hx
    grind[jlt]
   grind
  by_cases hc:s.2.1<u.2
  .rw[if_pos hc];obtain⟨i1,i2,i3,i4,i5⟩:=jy0 n a (u::b) s.2.1 q sqo_ a3 ⟨b1,b2,b3⟩;refine key a (u::b) _ (i1.weak t1) (i1.weak omg_) i2 (λx hx=>?_) i4 i5 sqo_ (λy y1 y2=>?_)
   .grind
   .rcases jlt.1 y1 with h|h
    .rcases j0i.1 y2 with h'|h'
     .omega
     .have:=StS.low b3 h';omega
    .exact .inr ⟨h,y2⟩
  .rw[if_neg hc];obtain⟨i1,i2,i3,i4,i5⟩:=jy0 n (s::a) b p u.2 sqo_ ⟨a1,a2,a3⟩ b3;refine key (s::a) b _ (i2.weak t2) i1 (i2.weak omg_) (λx hx=>?_) i4 i5 sqo_ (λy y1 y2=>?_)
   .grind[j0i]
   .rcases j0i.1 y2 with h|h
    .rcases jlt.1 y1 with h'|h'
     .omega
     .have:=OrS.low a3 h';omega
    .exact .inr ⟨y1,h⟩
theorem jy1{A:SgL}{B:SL}(hA:A.length<=10000000)(hB:B.length<=10000000):∀(n i k:N)(acc:SgL),i<=A.length->k<=B.length->(A.length-i)+(B.length-k)=n->acc.length+n<=3000000->
  j6H A B (i:o) (k:o) acc=F (acc++wiF n (A.drop i) (B.drop k))
 |n,i,k,acc,hi,hk,hn,hacc=>by
  rw[jj1];simp only[j6A,j77,show H (À A)=(A.length:o) from rfl,show H (À B)=(B.length:o) from rfl];by_cases hend:i<A.length/\k<B.length
  .obtain⟨hi',hk'⟩:=hend;obtain⟨n,rfl⟩:∃m,n=m+1:=⟨n-1,omg_⟩;have gA:A.getD i (0,0,0)=A[i]:=by simp[I,hi']
   have gB:B.getD k (0,0)=B[k]:=by simp[I,hk']
   rw[j00 (show (i:o)<(A.length:o) by omega),j00 (show (k:o)<(B.length:o) by omega),j0B (show (0:o)<=(i:o) by omega) omg_,j0B (show (0:o)<=(k:o) by omega) omg_];simp only[j6,j8,gA,gB];rw[j07 (x:=(i:o)+1),j07 (x:=(k:o)+1)];rw[D hi',D hk'];simp only[wiF];generalize (if B[k].1>A[i].1 then B[k].1 else A[i].1:o)=f;generalize (if B[k].2<A[i].2.1 then B[k].2 else A[i].2.1:o)=t
   have ih1:∀acc':SgL,acc'.length<=acc.length+1->j6H A B ((i:o)+1) (k:o) acc'=F (acc'++wiF n (A.drop (i+1)) (B[k]::B.drop (k+1))):=λacc' ha'=>by
    have:=jy1 hA hB n (i+1) k acc' omg_ omg_ omg_ omg_
    simp_all
   have ih2:∀acc':SgL,acc'.length<=acc.length+1->j6H A B (i:o) ((k:o)+1) acc'=F (acc'++wiF n (A[i]::A.drop (i+1)) (B.drop (k+1))):=λacc' ha'=>by
    have:=jy1 hA hB n i (k+1) acc' omg_ omg_ omg_ omg_
    simp_all
   by_cases hft:f<t
   .simp(disch:=omega)only[if_pos hft,S0];grind[j04]
   .rw[j01 hft,if_neg hft];simp only[j7];by_cases hc:A[i].2.1<B[k].2;all_goals grind[S0]
  grind[j0e,wiF]
theorem jEm{l:SgL}(hl:l.length<=10000000):∀(n i:N)(acc:SL),i+n=l.length->acc.length<=i->jbe l (l.length:o) (i:o) acc=F (acc++(l.drop i).map λx=>(x.1,x.2.1))
 |0,i,acc,hi,_=>by
  grind[jeJ,j5B,S0]
 |n+1,i,acc,hi,ha=>by
  have hi':i<l.length:=omg_;have hgd:l.getD i (0,0,0)=l[i]:=by simp[I,hi']
  rw[jeJ];simp(disch:=omega)only[j5B,D hi',S0];have:=jEm hl n (i+1) (acc++[(l[i].1,l[i].2.1)]) omg_ sqo_;grind
theorem jzR{l:SgL}(hl:l.length<=10000000){lo hi:o}(h0:0<=lo)(h1:hi<=8589934592)(hb:∀x∈l,lo<=x.1/\x.1<x.2.1/\x.2.1<=hi) :
  ∃out,jcZ l=F out/\StS (lo-1) out/\(∀t,inS t out↔inG t l)/\out.length<=l.length:=by
 have lp:=jEm hl l.length 0 [] omg_ smp_;rw[Y,M]at lp
 have hb':∀s∈l.map (λx=>(x.1,x.2.1)),lo<=s.1/\s.1<s.2/\s.2<=hi:=λs h=>by
  grind
 obtain⟨out,e,g1,g2,g3,g4⟩:=jhA (l:=l.map λx=>(x.1,x.2.1)) (by simpa using hl) (λs h=>by have:=hb' s h;omega) (lo:=lo) (hi:=hi) (λs h _=>by have:=hb' s h;omega);refine⟨out,?_,g1,λt=>(g2 t).trans ⟨?_,?_⟩,by simpa using g3⟩
 .grind[jcZ]
 .rintro⟨s,hs,h⟩
  obtain⟨x,hx,rfl⟩:=List.mem_map.1 hs;exact⟨x,hx,h⟩
 .rintro⟨x,hx,h⟩
  exact⟨_,List.mem_map.2 ⟨x,hx,rfl⟩,h⟩
end Go.Proofs.Pw
