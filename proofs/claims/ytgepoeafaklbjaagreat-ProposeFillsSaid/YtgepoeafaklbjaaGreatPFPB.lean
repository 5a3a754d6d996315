/- Chapter 8: configurations that are right. -/
import Derived.Test.YtgepoeafaklbjaaGreatPFPA
import Derived.Test.YtgepoeafaklbjaaGreatPFFns
import Derived.Test.YtgepoeafaklbjaaGreatPFLD
import Derived.KernelRfl
open _root_ renaming Int->D,List->E,Nat->M,ByteArray->O
open Int renaming ofNat->F,tmod->U,emod_eq_of_lt->Ã,tdiv->Ä
open Option renaming some->G
open ByteArray renaming empty->H,mk->I,toList->S
open List renaming getElem_mem->J,length->N,length_append->W,getElem?_eq_getElem->X,not_mem_nil->Y,map_append->Z,mem_cons->Á,getD->Æ
open Bool renaming not_true->R,true->À,false->Â
open Go Go.Lft
namespace Go.Proofs.Pw
abbrev j1D:=D×D×D×D×D
abbrev CfgT:=E j0D×E j0h×E CalT×E j0r
theorem jmN{n lo hi:D}(h1:lo<=n)(h2:n<=hi):j6R n lo hi=G true:=by
 simp only[j6R];rw[j00 (show n>=lo from h1),j00 h2];rfl
theorem jqY{i n:D}(h1:0<=i)(h2:i<n):j1Q i n=G true:=by
 simp only[j1Q];rw[j00 (show i>=0 from h1),j00 h2];rfl
theorem jDE{i n:D}(h1:i<0):j1Q i n=G false:=by
 simp only[j1Q];rw[j01 (show¬i>=0 by omega)];rfl
structure ZCk(z:j0D):Prop where
 ck:jdD z=G 0
 o60:U z.2.1 60=0
 r60:∀r∈z.2.2,U r.2.2.2.2.2.2 60=0
 len:z.2.2.length<=1000
theorem jCc{rs:E Rule}(h:∀r∈rs,U r.2.2.2.2.2.2 60=0)(hl:rs.length<=1000):∀(n i:M),i+n=rs.length->j1j rs (rs.length:D) (i:D)=G (.inr ())
 |0,i,hi=>by
  rw[j27];simp only[j0i];rw[j01 omg_,j7,j06]
 |n+1,i,hi=>by
  have hlt:i<rs.length:=omg_;have hgd:rs.getD i (0,0,0,0,0,0,0)=rs[i]:=by simp[hlt]
  have:=h rs[i] (J hlt);rw[j27];simp only[j0i,j7V];rw[j00 omg_,j0O,j05 (x:=(i:D)+1)];simp only[j6,j8,hgd,j4,this,bne_self_eq_false,j7,j03];exact jCc h hl n (i+1) omg_
theorem jDF{z:j0D}(h:ZCk z):j5x z=G 0:=by
 have lp:=jCc h.r60 h.len z.2.2.length 0 omg_;rw[show ((0:M):D)=0 from rfl]at lp;simp only[j5x,show jdD (z.1,z.2.1,z.2.2)=_ from h.ck,j4,h.o60,bne_self_eq_false,j7,j1k,j1y,show F z.2.2.length=(z.2.2.length:D) from rfl,lp,j4j];rfl
theorem jCd{zs:E j0D}(hn:NmL (zs.map (·.1)))(hc:∀z∈zs,ZCk z)(hl:zs.length<=100):∀(n i:M),i+n=zs.length->j3n zs (zs.length:D) (i:D) (jdT ((zs.take i).map (·.1)))=G (.inr ())
 |0,i,hi=>by
  rw[j6W];simp only[j1o];rw[j01 omg_,j7,j06]
 |n+1,i,hi=>by
  have hlt:i<zs.length:=omg_;have hgd:zs.getD i (H,0,[])=zs[i]:=by simp[hlt]
  have h1:=jj2 (·.1) hn hlt;have h2:=jDF (hc zs[i] (J hlt));rw[j6W];simp only[j1o,jaR];rw[j00 omg_,j0O,j05 (x:=(i:D)+1)];simp only[j6,j8,hgd,j4,h1,bne_self_eq_false,j7];rw[show j5x (zs[i].1,zs[i].2.1,zs[i].2.2)=_ from h2];simp only[j4,bne_self_eq_false,j7,j03];exact jCd hn hc hl n (i+1) omg_
theorem jCe{zs:E j0D}(hn:NmL (zs.map (·.1)))(hc:∀z∈zs,ZCk z)(hl:zs.length<=100):j4K zs=G 0:=by
 have lp:=jCd hn hc hl zs.length 0 omg_;simp only[j4K,show F zs.length=(zs.length:D) from rfl];rw[show j3n zs (zs.length:D) 0 []=_ from lp];rfl
structure PCk(nz:M)(p:j0h):Prop where
 nb:(S p.1==S (I #[110,111,98,111,100,121]))=Â
 z0:0<=p.2.1
 z1:p.2.1<nz
 w:WOk 0 p.2.2.1
 wl:p.2.2.1.length<=14
 m:j3o p.2.2.2.1=G À
 r:j3o p.2.2.2.2.1=G À
theorem jDG{c:CfgT}{p:j0h}(h:PCk c.1.length p):j3f c p=G 0:=by
 have hz0:=h.z0;have hz1:=h.z1;simp only[j3f,show F c.1.length=(c.1.length:D) from rfl,jqY hz0 hz1,j4,R,j7,jo0 h.w h.wl,bne_self_eq_false,h.m,h.r]
theorem jAT{zs:E j0D}{ps:E j0h}{cs:E CalT}{ss:E j0r}(hn:NmL (ps.map (·.1)))(hc:∀p∈ps,PCk zs.length p)(hl:ps.length<=100):∀(n i:M),i+n=ps.length->j6w ps (ps.length:D) (i:D) zs ps cs ss (jdT ((ps.take i).map (·.1)))=G (.inr (zs,ps,cs,ss))
 |0,i,hi=>by
  rw[jbO];simp only[j3w];rw[j01 omg_,j7,j06]
 |n+1,i,hi=>by
  have hlt:i<ps.length:=omg_;have hgd:ps.getD i (H,0,[],0,0,Â)=ps[i]:=by simp[hlt]
  have h1:=jj2 (·.1) hn hlt;have hp:=hc ps[i] (J hlt);have h2:=jDG (c:=(zs,ps,cs,ss)) hp;rw[jbO];simp only[j3w];rw[j00 omg_,j0O,j05 (x:=(i:D)+1)];simp only[j6,j8,hgd,j4,h1,hp.nb,beq_self_eq_true,j7];rw[show j3f (zs,ps,cs,ss) (ps[i].1,ps[i].2.1,ps[i].2.2.1,ps[i].2.2.2.1,ps[i].2.2.2.2.1,ps[i].2.2.2.2.2)=_ from h2];simp only[j4,bne_self_eq_false,j7,j03];exact jAT hn hc hl n (i+1) omg_
structure CCk(nz:M)(c:CalT):Prop where
 z0:0<=c.2.1
 z1:c.2.1<nz
 len:c.2.2.length<=64
 day:∀d∈c.2.2,j16 d=G À
 asc:c.2.2.Pairwise (· < ·)
theorem jCf{ds:E D}(h:∀d∈ds,j16 d=G À)(hl:ds.length<=64):∀(n i:M),i+n=ds.length->j4z ds (ds.length:D) (i:D)=G (.inr ())
 |0,i,hi=>by
  rw[j64];simp only[j1d];rw[j01 omg_,j7,j06]
 |n+1,i,hi=>by
  have hlt:i<ds.length:=omg_;have hgd:ds.getD i (0:D)=ds[i]:=by simp[hlt]
  have:=h ds[i] (J hlt);rw[j64];simp only[j1d,j5y];rw[j00 omg_,j0O,j05 (x:=(i:D)+1)];simp only[j6,j8,hgd,this,j4,R,j7,j03];exact jCf h hl n (i+1) omg_
theorem jCg{nm:O}{z:D}{ds:E D}(h:ds.Pairwise (· < ·))(hl:ds.length<=64):∀(n i:M),i+n=ds.length->j5A (ds.length:D) (i:D) nm z ds=G (.inr ())
 |0,i,hi=>by
  rw[j7h];simp only[j1z];rw[j01 omg_,j7,j06]
 |n+1,i,hi=>by
  have hlt:i<ds.length:=omg_;have hgd:ds.getD i (0:D)=ds[i]:=by simp[hlt]
  have ih:=jCg (nm:=nm) (z:=z) h hl n (i+1) omg_;rw[j7h];simp only[j1z];rw[j00 omg_,j0X (i:=(i:D)) omg_ omg_,j05 (x:=(i:D)+1)];simp only[j6,j8,hgd];by_cases h0:i=0
  .subst h0;rw[j01 omg_,j7,j03];exact ih
  .have hj:i-1<ds.length:=omg_;have hgj:ds.getD (i-1) (0:D)=ds[i-1]:=by simp[hj]
   have hp:ds[i-1]<ds[i]:=List.pairwise_iff_getElem.1 h (i-1) i hj hlt omg_;rw[j00 (show (i:D)>0 by omega),j05 (x:=(i:D)-1),j0X (i:=(i:D)-1) omg_ omg_,show ((i:D)-1).toNat=i-1 by omega,hgj,j01 (show¬ds[i]<=ds[i-1] by omega)];simp only[j6,j7,j03];exact ih
theorem jDH{c:CfgT}{x:CalT}(h:CCk c.1.length x):j3t c x=G 0:=by
 have hz0:=h.z0;have hz1:=h.z1;have hl:=h.len;have l1:=jCf h.day hl x.2.2.length 0 omg_;have l2:=jCg (nm:=x.1) (z:=x.2.1) h.asc hl x.2.2.length 0 omg_;rw[show ((0:M):D)=0 from rfl]at l1 l2;simp only[j3t,show F c.1.length=(c.1.length:D) from rfl,show F x.2.2.length=(x.2.2.length:D) from rfl,jqY hz0 hz1,j4,R,j7,j4A,j5z,l1,l2,j4j];rw[j01 omg_];rfl
theorem jCh{zs:E j0D}{ps:E j0h}{cs:E CalT}{ss:E j0r}(hn:NmL (cs.map (·.1)))(hc:∀x∈cs,CCk zs.length x)(hl:cs.length<=100):∀(n i:M),i+n=cs.length->j2g zs ps cs ss cs (cs.length:D) (i:D) (jdT ((cs.take i).map (·.1)))=G (.inr ())
 |0,i,hi=>by
  rw[j5n];simp only[j10];rw[j01 omg_,j7,j06]
 |n+1,i,hi=>by
  have hlt:i<cs.length:=omg_;have hgd:cs.getD i (H,0,[])=cs[i]:=by simp[hlt]
  have h1:=jj2 (·.1) hn hlt;have h2:=jDH (c:=(zs,ps,cs,ss)) (hc cs[i] (J hlt));rw[j5n];simp only[j10,jaT,jaU];rw[j00 omg_,j0O,j05 (x:=(i:D)+1)];simp only[j6,j8,hgd,j4,h1,bne_self_eq_false,j7];rw[show j3t (zs,ps,cs,ss) (cs[i].1,cs[i].2.1,cs[i].2.2)=_ from h2];simp only[j4,bne_self_eq_false,j7,j03];exact jCh hn hc hl n (i+1) omg_
theorem jCi{zs:E j0D}{ps:E j0h}{cs:E CalT}{ss:E j0r}(hn:NmL (cs.map (·.1)))(hc:∀x∈cs,CCk zs.length x)(hl:cs.length<=100):j34 cs zs ps cs ss=G 0:=by
 have lp:=jCh (ps:=ps) (ss:=ss) hn hc hl cs.length 0 omg_;simp only[j34,show F cs.length=(cs.length:D) from rfl];rw[show j2g zs ps cs ss cs (cs.length:D) 0 []=_ from lp];rfl
structure LCk(nz np nc:M)(l:j0b):Prop where
 z0:0<=l.2.1
 z1:l.2.1<nz
 d0:1<=l.2.2.1.1
 day:j16 l.2.2.1.1=G À
 c0:0<=l.2.2.1.2
 c1:l.2.2.1.2<=86399
 u0:0<=l.2.2.2.1
 u1:l.2.2.2.1<=2
 e0:1<=l.2.2.2.2.1
 e1:l.2.2.2.2.1<=400
 m0:l.2.2.2.2.2.1.length≠0
 m1:l.2.2.2.2.2.1.length<=12
 mem:∀m∈l.2.2.2.2.2.1,0<=m/\m<(np:D)
 w:WOk 0 l.2.2.2.2.2.2.1
 wl:l.2.2.2.2.2.2.1.length<=14
 mode0:0<=l.2.2.2.2.2.2.2.2
 mode1:l.2.2.2.2.2.2.2.2<=2
 cal:l.2.2.2.2.2.2.2.2≠0->0<=l.2.2.2.2.2.2.2.1/\l.2.2.2.2.2.2.2.1<(nc:D)
 cal0:l.2.2.2.2.2.2.2.2=0->l.2.2.2.2.2.2.2.1=0
 w3:l.2.2.2.2.2.2.1.length<=3
 h6:l.2.2.2.1=0->6<=l.2.2.2.2.1
theorem jCj{zs:E j0D}{ps:E j0h}{cs:E CalT}{ss:E j0r}{ms:E D}(h:∀m∈ms,0<=m/\m<(ps.length:D))(hl:ms.length<=12):∀(n i:M),i+n=ms.length->j3u ms zs ps cs ss (ms.length:D) (i:D)=G (.inr ())
 |0,i,hi=>by
  rw[j4X];simp only[j0T];rw[j01 omg_,j7,j06]
 |n+1,i,hi=>by
  have hlt:i<ms.length:=omg_;have hgd:ms.getD i (0:D)=ms[i]:=by simp[hlt]
  have hm:=h ms[i] (J hlt);rw[j4X];simp only[j0T,j7i,show F ps.length=(ps.length:D) from rfl];rw[j00 omg_,j0O,j05 (x:=(i:D)+1)];simp only[j6,j8,hgd,jqY hm.1 hm.2,j4,R,j7,j03];exact jCj h hl n (i+1) omg_
theorem jDI{c:CfgT}{l:j0b}(h:LCk c.1.length c.2.1.length c.2.2.1.length l):j4Y c l=G 0:=by
 have hz0:=h.z0;have hz1:=h.z1;have hd0:=h.d0;have hm0:=h.m0;have hm1:=h.m1;have l1:=jCj (zs:=c.1) (cs:=c.2.2.1) (ss:=c.2.2.2) h.mem hm1 l.2.2.2.2.2.1.length 0 omg_;rw[show ((0:M):D)=0 from rfl]at l1
 simp only[j4Y,show F c.1.length=(c.1.length:D) from rfl,show F l.2.2.2.2.2.1.length=(l.2.2.2.2.2.1.length:D) from rfl,show F c.2.2.1.length=(c.2.2.1.length:D) from rfl,jqY hz0 hz1,j4,R,j7,h.day,jmN h.c0 h.c1,jmN h.u0 h.u1,jmN h.e0 h.e1,jmN h.mode0 h.mode1,
  j3v,j4B,l1,j4j,jo0 h.w h.wl,bne_self_eq_false]
 rw[j01 (show¬l.2.2.1.1<1 by omega),j1G (show¬(l.2.2.2.2.2.1.length:D)=0 by omega),j01 (show¬(l.2.2.2.2.2.1.length:D)>12 by omega),j01 (show¬(-1:D)>=0 by omega)];simp only[j7];by_cases hmd:l.2.2.2.2.2.2.2.2=0
 .rw[hmd,h.cal0 hmd];rfl
 .have hc:=h.cal hmd;rw[show (l.2.2.2.2.2.2.2.2 != 0)=À by simp[hmd],j1G hmd,j6,jqY hc.1 hc.2];rfl
theorem jCk{zs:E j0D}{ps:E j0h}{cs:E CalT}{ss:E j0r}{ls:E j0b}(hn:NmL (ls.map (·.1)))(hc:∀x∈ls,LCk zs.length ps.length cs.length x)(hl:ls.length<=100):∀(n i:M),i+n=ls.length->j35 zs ps cs ss ls (ls.length:D) (i:D) (jdT ((ls.take i).map (·.1)))=G (.inr ())
 |0,i,hi=>by
  rw[j6v];simp only[j1l];rw[j01 omg_,j7,j06]
 |n+1,i,hi=>by
  have hlt:i<ls.length:=omg_;have hgd:ls.getD i (H,(0:D),((0:D),(0:D)),(0:D),(0:D),([]:(E D)),([]:(E (D×D))),(0:D),(0:D))=ls[i]:=by simp[hlt]
  have h1:=jj2 (·.1) hn hlt;have h2:=jDI (c:=(zs,ps,cs,ss)) (hc ls[i] (J hlt));rw[j6v];simp only[j1l,j5B,j5C];rw[j00 omg_,j0O,j05 (x:=(i:D)+1)];simp only[j6,j8,hgd,j4,h1,bne_self_eq_false,j7];rw[show j4Y (zs,ps,cs,ss) (ls[i].1,ls[i].2.1,(ls[i].2.2.1.1,ls[i].2.2.1.2),ls[i].2.2.2.1,ls[i].2.2.2.2.1,ls[i].2.2.2.2.2.1,ls[i].2.2.2.2.2.2.1,ls[i].2.2.2.2.2.2.2.1,ls[i].2.2.2.2.2.2.2.2)=_ from h2];simp only[j4,bne_self_eq_false,j7,j03];exact jCk hn hc hl n (i+1) omg_
theorem jDJ{zs:E j0D}{ps:E j0h}{cs:E CalT}{ss:E j0r}{ls:E j0b}(hn:NmL (ls.map (·.1)))(hc:∀x∈ls,LCk zs.length ps.length cs.length x)(hl:ls.length<=100):j4k ls zs ps cs ss=G 0:=by
 have lp:=jCk (ss:=ss) hn hc hl ls.length 0 omg_;simp only[j4k,show F ls.length=(ls.length:D) from rfl];rw[show j35 zs ps cs ss ls (ls.length:D) 0 []=_ from lp];rfl
structure ECk(np:M)(x:j1D):Prop where
 k0:0<=x.1
 k1:x.1<=2
 a:0<=x.2.1/\x.2.1<(np:D)\/x.1=1/\x.2.1 = -1
 b:x.1=2->0<=x.2.2.1/\x.2.2.1<(np:D)/\x.2.1≠x.2.2.1
 b0:x.1≠2->x.2.2.1=0
 f0:0<=x.2.2.2.1
 ft:x.2.2.2.1<x.2.2.2.2
 t1:x.2.2.2.2<=1000000000000
 day:j16 (Ä x.2.2.2.2 86400)=G À
theorem jDK{c:CfgT}{x:j1D}(h:ECk c.2.1.length x):j5D c x=G 0:=by
 have hf0:=h.f0;have hft:=h.ft;have ht1:=h.t1;have hday:=h.day;have hdv:w64 (Ä x.2.2.2.2 86400)=Ä x.2.2.2.2 86400:=by rw[jcm omg_];exact j05
 simp only[j5D,j5q,show F c.2.1.length=(c.2.1.length:D) from rfl,jmN h.k0 h.k1,j4,R,j7,hdv,hday];rw[j01 (show¬x.2.2.2.1<0 by omega),j01 (show¬x.2.2.2.2<0 by omega),j01 (show¬x.2.2.2.1>=x.2.2.2.2 by omega)];simp only[j7]
 have hA:∃b,j1Q x.2.1 (c.2.1.length:D)=G b/\cond (!b) (!(cond (x.1==(1:D)) (x.2.1==(-1:D)) Â)) Â=false:=by
  rcases h.a with⟨a1,a2⟩|⟨a1,a2⟩
  .exact⟨À,jqY a1 a2,rfl⟩
  .exact⟨Â,jDE omg_,by rw[a1,a2];rfl⟩
 obtain⟨b,e1,e2⟩:=hA;rw[e1];simp only[j4,e2,j7];by_cases h2:x.1=2
 .obtain⟨b1,b2,b3⟩:=h.b h2;rw[j43 h2,j6,jqY b1 b2,show (x.1 != 2)=Â by rw[h2];rfl,j1G b3];rfl
 .rw[j1G h2,j7,show (x.1 != 2)=À by simp[h2],h.b0 h2];rfl
theorem jCl{zs:E j0D}{ps:E j0h}{cs:E CalT}{ss:E j0r}{es:E j1D}(hc:∀x∈es,ECk ps.length x)(hl:es.length<=48):∀(n i:M),i+n=es.length->j5E es (es.length:D) (i:D) zs ps cs ss=G (.inr ())
 |0,i,hi=>by
  rw[j7j];simp only[j1A];rw[j01 omg_,j7,j06]
 |n+1,i,hi=>by
  have hlt:i<es.length:=omg_;have hgd:es.getD i (0,0,0,0,0)=es[i]:=by simp[hlt]
  have h2:=jDK (c:=(zs,ps,cs,ss)) (hc es[i] (J hlt));rw[j7j];simp only[j1A];rw[j00 omg_,j0O,j05 (x:=(i:D)+1)];simp only[j6,j8,hgd];rw[show j5D (zs,ps,cs,ss) (es[i].1,es[i].2.1,es[i].2.2.1,es[i].2.2.2.1,es[i].2.2.2.2)=_ from h2];simp only[j4,bne_self_eq_false,j7,j03];exact jCl hc hl n (i+1) omg_
structure SCk(nz np nc:M)(s:j0r):Prop where
 nm:NmL (s.2.1.map (·.1))
 ly:∀x∈s.2.1,LCk nz np nc x
 ll:s.2.1.length<=6
 ed:∀x∈s.2.2,ECk np x
 el:s.2.2.length<=48
theorem jDL{c:CfgT}{s:j0r}(h:SCk c.1.length c.2.1.length c.2.2.1.length s):j1p c s=G 0:=by
 have hll:=h.ll;have hel:=h.el;have lp:=jCl (zs:=c.1) (ps:=c.2.1) (cs:=c.2.2.1) (ss:=c.2.2.2) h.ed hel s.2.2.length 0 omg_;rw[show ((0:M):D)=0 from rfl]at lp;simp only[j1p,show F s.2.1.length=(s.2.1.length:D) from rfl,show F s.2.2.length=(s.2.2.length:D) from rfl];rw[j01 (show¬(s.2.1.length:D)>6 by omega),j01 (show¬(s.2.2.length:D)>48 by omega)];simp only[j7,jDJ (zs:=c.1) (ps:=c.2.1) (cs:=c.2.2.1) (ss:=c.2.2.2) h.nm h.ly omg_,j4,bne_self_eq_false,lp,j4j]
theorem jCm{zs:E j0D}{ps:E j0h}{cs:E CalT}{ss:E j0r}(hn:NmL (ss.map (·.1)))(hc:∀x∈ss,SCk zs.length ps.length cs.length x)(hl:ss.length<=100):∀(n i:M),i+n=ss.length->j13 zs ps cs ss ss (ss.length:D) (i:D) (jdT ((ss.take i).map (·.1)))=G (.inr ())
 |0,i,hi=>by
  rw[j31];simp only[j0I];rw[j01 omg_,j7,j06]
 |n+1,i,hi=>by
  have hlt:i<ss.length:=omg_;have hgd:ss.getD i (H,[],[])=ss[i]:=by simp[hlt]
  have h1:=jj2 (·.1) hn hlt;have h2:=jDL (c:=(zs,ps,cs,ss)) (hc ss[i] (J hlt));rw[j31];simp only[j0I,j8l,j8m];rw[j00 omg_,j0O,j05 (x:=(i:D)+1)];simp only[j6,j8,hgd,j4,h1,bne_self_eq_false,j7];rw[show j1p (zs,ps,cs,ss) (ss[i].1,ss[i].2.1,ss[i].2.2)=_ from h2];simp only[j4,bne_self_eq_false,j7,j03];exact jCm hn hc hl n (i+1) omg_
structure j6O(c:CfgT):Prop where
 zn:NmL (c.1.map (·.1))
 zc:∀z∈c.1,ZCk z
 zl:c.1.length<=16
 pn:NmL (c.2.1.map (·.1))
 pc:∀p∈c.2.1,PCk c.1.length p
 pl:c.2.1.length<=32
 cn:NmL (c.2.2.1.map (·.1))
 cc:∀x∈c.2.2.1,CCk c.1.length x
 cl:c.2.2.1.length<=8
 sn:NmL (c.2.2.2.map (·.1))
 sc:∀x∈c.2.2.2,SCk c.1.length c.2.1.length c.2.2.1.length x
 sl:c.2.2.2.length<=12
theorem jez{c:CfgT}(h:j6O c):j1R c=G 0:=by
 have hzl:=h.zl;have hpl:=h.pl;have hcl:=h.cl;have hsl:=h.sl;have lp:=jAT (zs:=c.1) (cs:=c.2.2.1) (ss:=c.2.2.2) h.pn h.pc omg_ c.2.1.length 0 omg_;have ls:=jCm (zs:=c.1) (ps:=c.2.1) (cs:=c.2.2.1) h.sn h.sc omg_ c.2.2.2.length 0 omg_;simp only[j1R,show F c.1.length=(c.1.length:D) from rfl,show F c.2.1.length=(c.2.1.length:D) from rfl,show F c.2.2.1.length=(c.2.2.1.length:D) from rfl,show F c.2.2.2.length=(c.2.2.2.length:D) from rfl];rw[j01 (show¬(c.1.length:D)>16 by omega),j01 (show¬(c.2.1.length:D)>32 by omega),j01 (show¬(c.2.2.1.length:D)>8 by omega),j01 (show¬(c.2.2.2.length:D)>12 by omega)];simp only[j7,jCe h.zn h.zc omg_,j4,bne_self_eq_false];rw[show j6w c.2.1 (c.2.1.length:D) 0 c.1 c.2.1 c.2.2.1 c.2.2.2 []=_ from lp];simp only[j4,j4j,jCi (zs:=c.1) (ps:=c.2.1) (cs:=c.2.2.1) (ss:=c.2.2.2) h.cn h.cc omg_,bne_self_eq_false,j7,j36,show F c.2.2.2.length=(c.2.2.2.length:D) from rfl];rw[show j13 c.1 c.2.1 c.2.2.1 c.2.2.2 c.2.2.2 (c.2.2.2.length:D) 0 []=_ from ls];rfl
def nmsL:E ByteArray:=[(I #[97,100,97]),(I #[98,111,98]),(I #[99,108,101,111]),(I #[100,97,110]),(I #[101,118,101]),(I #[102,97,121]),(I #[103,117,115]),(I #[104,97,108])]
def nmsZ:E ByteArray:=[(I #[104,101,114,101]),(I #[116,104,101,114,101])]
theorem js8:jg9=G nmsL:=rfl
theorem jvV:NmL nmsL:=by
 refine⟨by decide,λk hk=>?_⟩;simp only[nmsL,Á,Y,or_false]at hk;rcases hk with rfl|rfl|rfl|rfl|rfl|rfl|rfl|rfl<;>kernel_rfl
theorem jAU:NmL nmsZ:=by
 refine⟨by decide,λk hk=>?_⟩;simp only[nmsZ,Á,Y,or_false]at hk;rcases hk with rfl|rfl<;>kernel_rfl
theorem NmL.take{l:E O}(h:NmL l)(n:M):NmL (l.take n):=⟨h.1.sublist (List.take_sublist n l),λk hk=>h.2 k (List.mem_of_mem_take hk)⟩
theorem NmL.one{s:O}(h:j8O s=G À):NmL [s]:=⟨smp_,λk hk=>by simp at hk;subst hk;exact h⟩
theorem NmL.nil:NmL []:=⟨List.nodup_nil,smp_⟩
theorem jAV:j8O (I #[100,97,121,115])=G true:=by kernel_rfl
theorem jAW:∀k∈nmsL,(S k==S (I #[110,111,98,111,100,121]))=false:=by
 intro k hk;simp only[nmsL,Á,Y,or_false]at hk;rcases hk with rfl|rfl|rfl|rfl|rfl|rfl|rfl|rfl<;>kernel_rfl
theorem jyk:((List.range 61).all λi=>j16 (20440+(i:D))==G À)=true:=by kernel_rfl
theorem js9{d:D}(h1:20440<=d)(h2:d<=20500):j16 d=G true:=by
 have h:=List.all_eq_true.1 jyk (d-20440).toNat (List.mem_range.2 omg_);rw[show (20440:D)+(((d-20440).toNat:M):D)=d by omega]at h;exact eq_of_beq h
theorem t60{x:D}(h:x%60=0):U x 60=0:=by
 have:=jpt x 60;rw[h]at this;simpa using this
theorem all2{P:Rule->Prop}{r s:Rule}(h1:P r)(h2:P s):∀x∈[r,s],P x:=by
 intro x hx;simp at hx;rcases hx with rfl|rfl
 .exact h1
 .exact h2
theorem jAX{L:E D}{a:D}(h:DOk L a)(nm:O):∃o rs a',j4s L a nm=G ((nm,o,rs),L,a')/\U o 60=0/\∀r∈rs,U r.2.2.2.2.2.2 60=0:=by
 obtain⟨p,a1,e1,m1,d1⟩:=j8K h (xs:=[(0:D),(4:D),(-20:D),(22:D),(48:D),(-47:D)]) smp_ smp_;obtain⟨x2,a2,e2,x20,x21,d2⟩:=j0E (n:=2) d1 omg_ omg_;obtain⟨x3,a3,e3,x30,x31,d3⟩:=j0E (n:=3) d2 omg_ omg_;obtain⟨y,a4,e4,y0,y1,d4⟩:=j0E (n:=2) d3 omg_ omg_;obtain⟨q,a5,e5,q0,q1,d5⟩:=j0E (n:=4) d4 omg_ omg_;have hp : -47<=p/\p<=48:=by simp at m1;omega
 have hmul:0<=x2*x3/\x2*x3<=2:=by obtain rfl|rfl:x2=0\/x2=1:=omg_;all_goals omega
 have ho0 : -43200<=900*(p+x2*x3):=omg_;have ho1:900*(p+x2*x3)<=45000:=omg_;have ho2:(900*(p+x2*x3))%60=0:=omg_;simp only[j4s,e1,e2,e3,e4,e5,j4];rw[j05 (x:=x2*x3),j05 (x:=p+x2*x3),j05 (x:=900*(p+x2*x3)),j05 (x:=2025+y)];generalize 900*(p+x2*x3)=o at *;generalize 2025+y=last at *;by_cases hq1:q=1
 .rw[j43 hq1,j6,j05 (x:=o+3600)];exact⟨_,_,_,rfl,t60 ho2,all2 (P:=λr=>U r.2.2.2.2.2.2 60=0) (t60 (show (o+3600)%60=0 by omega)) (t60 ho2)⟩
 .rw[j1G hq1,j7];by_cases hq2:q=2
  .rw[j43 hq2,j6];obtain⟨b1,c1,f1,b10,b11,g1⟩:=j0E (n:=4) d5 omg_ omg_;obtain⟨b2,c2,f2,b20,b21,g2⟩:=j0E (n:=7) g1 omg_ omg_;obtain⟨b3,c3,f3,b30,b31,g3⟩:=j0E (n:=24) g2 omg_ omg_;obtain⟨b4,c4,f4,b40,b41,g4⟩:=j0E (n:=8) g3 omg_ omg_;obtain⟨b5,c5,f5,b50,b51,g5⟩:=j0E (n:=2) g4 omg_ omg_;obtain⟨b6,c6,f6,m6,g6⟩:=j8K g5 (xs:=[(2:D),(3:D),(5:D)]) smp_ smp_;obtain⟨b7,c7,f7,b70,b71,g7⟩:=j0E (n:=7) g6 omg_ omg_;obtain⟨b8,c8,f8,b80,b81,g8⟩:=j0E (n:=24) g7 omg_ omg_;simp only[f1,f2,f3,f4,f5,f6,f7,f8,j4];rw[j05 (x:=1+b4),j05 (x:=1800*(1+b4)),j05 (x:=o+1800*(1+b4))];exact⟨_,_,_,rfl,t60 ho2,all2 (P:=λr=>U r.2.2.2.2.2.2 60=0) (t60 (show (o+1800*(1+b4))%60=0 by omega)) (t60 ho2)⟩
  .rw[j1G hq2,j7];by_cases hq3:q=3
   .rw[j43 hq3,j6];obtain⟨b1,c1,f1,m1,g1⟩:=j8K d5 (xs:=[(3600:D),(-3600:D),(82800:D),(-82800:D),(43200:D)]) smp_ smp_;obtain⟨b2,c2,f2,b20,b21,g2⟩:=j0E (n:=7) g1 omg_ omg_;obtain⟨b3,c3,f3,b30,b31,g3⟩:=j0E (n:=48) g2 omg_ omg_;have hb1 : -82800<=b1/\b1<=82800/\b1%60=0:=by simp at m1;omega
    simp only[f1,f2,f3,j4];rw[j05 (x:=o+b1)];cases cond (decide (o+b1>64800)) À (decide (o+b1 < -64800)) with
    |true=>exact⟨_,_,_,rfl,t60 ho2,λr hr=>by simp at hr;subst hr;rfl⟩
    |false=>exact⟨_,_,_,rfl,t60 ho2,λr hr=>by simp at hr;subst hr;exact t60 (by dsimp only;omega)⟩
   .rw[j1G hq3,j7];exact⟨_,_,_,rfl,t60 ho2,smp_⟩
theorem jyl{L:E D}{a:D}(h:DOk L a)(nm:O):∃o rs a',j4s L a nm=G ((nm,o,rs),L,a')/\MZ o rs/\ZCk (nm,o,rs)/\DOk L a':=by
 obtain⟨o,rs,a1,e1,m1,d1⟩:=jAS h nm;obtain⟨o',rs',a2,e2,m2,m3⟩:=jAX h nm;have:=e1.symm.trans e2;simp only[j5,j9,true_and]at this;obtain⟨⟨rfl,rfl⟩,rfl⟩:=this;have ht:=(m1.tab nm).1;have hl:=m1.len;exact⟨o,rs,a1,e1,m1,⟨by simp only[jdD,show j40 (nm,o,rs)=_ from ht,j4],m2,m3,by dsimp only;omega⟩,d1⟩
structure ZInv(zs:E j0D):Prop where
 ok:∀z∈zs,ZOk z
 ck:∀z∈zs,ZCk z
 nm:zs.map (·.1)=nmsZ.take zs.length
theorem jo1{l:E O}{n:M}(hn:n<l.length):l.take n++[l.getD n H]=l.take (n+1):=by
 rw[List.take_add_one,X hn];simp[hn]
theorem jzo{L:E D}:∀(n:M)(a:D)(zs:E j0D),DOk L a->zs.length+n<=2->ZInv zs->
  ∃zs' a',j9v (n:D) L a zs=G (L,a',zs')/\zs'.length=zs.length+n/\ZInv zs'/\DOk L a'
 |0,a,zs,hd,_,hz=>by
  rw[jaK];simp only[j2R];rw[j01 omg_,j7,j06];exact⟨zs,a,rfl,rfl,hz,hd⟩
 |n+1,a,zs,hd,hl,hz=>by
  obtain⟨o,rs,a1,e1,m1,k1,d1⟩:=jyl hd (Æ nmsZ zs.length H)
  obtain⟨zs',a',e2,h2,h3,h4⟩:=jzo n a1 (zs++[(Æ nmsZ zs.length H,o,rs)]) d1 sqo_ ⟨λz hz'=>by
   rcases List.mem_append.1 hz' with h|h
   .exact hz.ok z h
   .simp at h;subst h;exact m1,λz hz'=>by
   rcases List.mem_append.1 hz' with h|h
   .exact hz.ck z h
   .simp at h;subst h;exact k1,by
   rw[Z,hz.nm,W];exact jo1 (by show zs.length<2;omega)⟩
  rw[jaK];simp only[j2R,show F (N zs)=(zs.length:D) from rfl];rw[j00 omg_,j0X (show (0:D)<=(zs.length:D) by omega) sqo_];simp only[j6,j8];rw[show j4s L a (Æ [(I #[104,101,114,101]),(I #[116,104,101,114,101])] zs.length H)=_ from e1];simp only[j4];rw[j00 (by simp[j02];omega),j05 (x:=((n+1:M):D)-1)];simp only[j6,j03];rw[show ((n+1:M):D)-1=(n:D) by omega];exact⟨zs',a',e2,by rw[h2];simp;omega,h3,h4⟩
structure PInv(nz:M)(ps:E j0h):Prop where
 ck:∀p∈ps,PCk nz p
 nm:ps.map (·.1)=nmsL.take ps.length
theorem jsa{n:D}(h0:0<=n)(h1:n<=168):j3o (w64 (3600*n))=G true:=by
 rw[j05];simp only[j3o,jmN (show 0<=3600*n by omega) (show 3600*n<=604800 by omega),j4,j6];rw[jpt,j43 (show (3600*n)%3600=0 by omega)]
theorem jvW{L:E D}{zs:E j0D}(hz0:1<=zs.length)(hz1:zs.length<=100):∀(n:M)(a:D)(ps:E j0h),DOk L a->ps.length+n<=4->PInv zs.length ps->
  ∃ps' a',j9w (n:D) L a zs ps=G (L,a',zs,ps')/\ps'.length=ps.length+n/\PInv zs.length ps'/\DOk L a'
 |0,a,ps,hd,_,hp=>by
  rw[jaL];simp only[j2S];rw[j01 omg_,j7,j06];exact⟨ps,a,rfl,rfl,hp,hd⟩
 |n+1,a,ps,hd,hl,hp=>by
  obtain⟨x,a1,e1,x0,x1,d1⟩:=j0E (n:=(zs.length:D)) hd omg_ omg_;obtain⟨b,a2,e2,d2⟩:=jj5 (n:=3) d1 omg_ omg_;obtain⟨c,a3,e3,d3⟩:=jj5 (n:=2) d2 omg_ omg_;have hnm:ps.length<nmsL.length:=by show ps.length<8;omega
  have hmem:nmsL.getD ps.length H∈nmsL:=by rw[List.getD_eq_getElem?_getD,X hnm];exact J hnm
  have ext:∀(w:WL)(p q:D),WOk 0 w->w.length<=14->p∈[(0:D),(40:D),(100:D),(12:D)]->q∈[(0:D),(11:D),(24:D),(1:D)]->
    PInv zs.length (ps++[(nmsL.getD ps.length H,x,w,w64 (3600*p),w64 (3600*q),b)]):=by
   intro w p q hw hwl hpm hqm;have hp':0<=p/\p<=168:=by simp at hpm;omega
   have hq':0<=q/\q<=168:=by simp at hqm;omega
   refine⟨λr hr=>?_,?_⟩
   .rcases List.mem_append.1 hr with h|h
    .exact hp.ck r h
    .simp at h;subst h;exact⟨jAW _ hmem,x0,x1,hw,hwl,jsa hp'.1 hp'.2,jsa hq'.1 hq'.2⟩
   .rw[Z,hp.nm,W];exact jo1 hnm
  rw[jaL];simp only[j2S,js8,j4,show F (N ps)=(ps.length:D) from rfl,show F (N zs)=(zs.length:D) from rfl];rw[j00 omg_,j0X (show (0:D)<=(ps.length:D) by omega) omg_];simp only[j6,e1,e2,e3,j4];rw[j05 (x:=((n+1:M):D)-1),show ((n+1:M):D)-1=(n:D) by omega];cases c with
  |true=>obtain⟨w,a4,e4,hw,hwl,d4⟩:=jj4 d3;obtain⟨p,a5,e5,hpm,d5⟩:=j8K d4 (xs:=[(0:D),(40:D),(100:D),(12:D)]) smp_ smp_;obtain⟨q,a6,e6,hqm,d6⟩:=j8K d5 (xs:=[(0:D),(11:D),(24:D),(1:D)]) smp_ smp_;simp only[j6,e4,e5,e6,j4];rw[j00 (by simp[j02];omega)];simp only[j6,j03];obtain⟨ps',a',e,h1,h2,h3⟩:=jvW hz0 hz1 n a6 _ d6 sqo_ (ext w p q hw omg_ hpm hqm);exact⟨ps',a',e,by rw[h1];simp;omega,h2,h3⟩
  |false=>obtain⟨p,a5,e5,hpm,d5⟩:=j8K d3 (xs:=[(0:D),(40:D),(100:D),(12:D)]) smp_ smp_;obtain⟨q,a6,e6,hqm,d6⟩:=j8K d5 (xs:=[(0:D),(11:D),(24:D),(1:D)]) smp_ smp_;simp only[j7,e5,e6,j4];rw[j00 (by simp[j02];omega)];simp only[j6,j03];obtain⟨ps',a',e,h1,h2,h3⟩:=jvW hz0 hz1 n a6 _ d6 sqo_ (ext [] p q (show (0:D)<=604800 by omega) smp_ hpm hqm);exact⟨ps',a',e,by rw[h1];simp;omega,h2,h3⟩
def DInv(q:D)(ds:E D):Prop:=ds.Pairwise (· < ·)/\∀d∈ds,20454<d/\d<=q
theorem jzp{L:E D}{s:D}{nm:O}{z:D}{zs:E j0D}{ps:E j0h}{cs:E CalT}:∀(n:M)(a day:D)(ds:E D),DOk L a->ds.length+n<=4->20454<=day->day+6*n<=20480->DInv day ds->
  ∃ds' a',j9x s (n:D) day L a nm z zs ps cs ds=G (s,L,a',nm,z,zs,ps,cs,ds')/\ds'.length<=4/\DInv 20480 ds'/\DOk L a'
 |0,a,day,ds,hd,hl,hy,hy2,hi=>by
  rw[jaM];simp only[j2T];rw[j01 omg_,j7,j06];exact⟨ds,a,rfl,omg_,⟨hi.1,λd hd=>by have:=hi.2 d hd;omega⟩,hd⟩
 |n+1,a,day,ds,hd,hl,hy,hy2,hi=>by
  obtain⟨x,a1,e1,x0,x1,d1⟩:=j0E (n:=6) hd omg_ omg_;rw[jaM];simp only[j2T];rw[j00 omg_,j05 (x:=((n+1:M):D)-1),show ((n+1:M):D)-1=(n:D) by omega];simp only[j6,e1,j4];rw[j00 (by simp[j02];omega),j05 (x:=1+x),j05 (x:=day+(1+x))];simp only[j6,j03];refine jzp n a1 _ _ d1 sqo_ omg_ omg_ ⟨List.pairwise_append.2 ⟨hi.1,smp_,λu hu v hv=>?_⟩,λd hd=>?_⟩
  .simp at hv;subst hv;have:=hi.2 u hu;omega
  .rcases List.mem_append.1 hd with h|h
   .have:=hi.2 d h;omega
   .simp at h;omega
structure CInv(nz:M)(cs:E CalT):Prop where
 ck:∀c∈cs,CCk nz c
 nm:NmL (cs.map (·.1))
 len:cs.length<=1
 dl:∀c∈cs,c.2.2.length<=4
theorem jCn{nz:M}{nm:O}{x:D}{ds:E D}(x0:0<=x)(x1:x<nz)(hl:ds.length<=64)(hi:DInv 20480 ds):CCk nz (nm,x,ds):=
 ⟨x0,x1,hl,λd hd=>js9 (by have:=hi.2 d hd;omega) (by have:=hi.2 d hd;omega),hi.1⟩
structure SOk2(zs:E j0D)(ps:E j0h)(cs:E CalT):Prop where
 so:SOk zs ps cs
 z:ZInv zs
 p:PInv zs.length ps
 c:CInv zs.length cs
theorem jvX{L:E D}{a:D}(h:DOk L a):∃zs ps cs a',j9z L a=G ((zs,ps,cs,([]:E j0r)),L,a')/\SOk2 zs ps cs/\DOk L a':=by
 obtain⟨x,a1,e1,x0,x1,d1⟩:=j0E (n:=2) h omg_ omg_;obtain⟨zs,a2,e2,l2,k2,d2⟩:=jzo (1+x).toNat a1 [] d1 sqo_ ⟨smp_,smp_,rfl⟩;obtain⟨y,a3,e3,y0,y1,d3⟩:=j0E (n:=4) d2 omg_ omg_;simp at l2;obtain⟨ps,a4,e4,l4,k4,d4⟩:=jvW (zs:=zs) omg_ omg_ (1+y).toNat a3 [] d3 sqo_ ⟨smp_,rfl⟩;obtain⟨q,a5,e5,q0,q1,d5⟩:=j0E (n:=2) d4 omg_ omg_;simp at l4
 have hcal:∃cs a',j9y q L a5 zs ps []=G (L,a',zs,ps,cs)/\CInv zs.length cs/\DOk L a':=by
  by_cases hq:q=0
  .subst hq;rw[j7y];simp only[j1V];rw[j01 omg_,j7,j06];exact⟨[],a5,rfl,⟨smp_,NmL.nil,smp_,smp_⟩,d5⟩
  .have hq1:q=1:=omg_;subst hq1;obtain⟨x,a6,e6,x0,x1,d6⟩:=j0E (n:=(zs.length:D)) d5 omg_ omg_;obtain⟨y,a7,e7,y0,y1,d7⟩:=j0E (n:=4) d6 omg_ omg_;obtain⟨ds,a8,e8,l8,k8,d8⟩:=jzp (s:=(1:D)) (nm:=I #[100,97,121,115]) (z:=x) (zs:=zs) (ps:=ps) (cs:=[]) y.toNat a7 20454 [] d7 sqo_ omg_ omg_ ⟨smp_,smp_⟩;rw[show ((y.toNat:M):D)=y by omega]at e8;rw[j7y];simp only[j1V,show F (N zs)=(zs.length:D) from rfl];rw[j00 omg_];simp only[j6,e6,e7,e8,j4];rw[j00 (by simp[j02]),j05 (x:=(1:D)-1)];simp only[j6,j03];rw[j7y];simp only[j1V];rw[j01 omg_,j7,j06];refine⟨_,a8,rfl,⟨λc hc=>?_,NmL.one jAV,smp_,λc hc=>by simp at hc;subst hc;exact l8⟩,d8⟩;simp at hc;subst hc;exact jCn x0 x1 omg_ k8
 obtain⟨cs,a6,e6,k6,d6⟩:=hcal;rw[show (((1+x).toNat:M):D)=1+x by omega]at e2;rw[show (((1+y).toNat:M):D)=1+y by omega]at e4;simp only[j9z,e1,j4];rw[j05 (x:=1+x)];simp only[e2,e3,j4];rw[j05 (x:=1+y)];simp only[e4,e5,e6,j4];exact⟨zs,ps,cs,a6,rfl,⟨⟨omg_,omg_,k2.ok,omg_,omg_,k6.len⟩,k2,k4,k6⟩,d6⟩
theorem jAY{L:E D}{zs:E j0D}{ps:E j0h}{cs:E CalT}{ss:E j0r}(hp0:1<=ps.length)(hp1:ps.length<=100){x0 y0:O}{x1 x2 x3 x4 x5 x6 x7 y1 y2 y3 y4 y5 y6 y7:D}:∀(n:M)(a:D)(ms:E D),DOk L a->ms.length+n<=4->(∀m∈ms,0<=m/\m<(ps.length:D))->
  ∃ms' a',j5c (n:D) L a zs ps cs ss x0 x1 x2 x3 x4 x5 x6 x7 y0 y1 y2 y3 y4 y5 y6 y7 ms=G (L,a',zs,ps,cs,ss,x0,x1,x2,x3,x4,x5,x6,x7,y0,y1,y2,y3,y4,y5,y6,y7,ms')/\ms'.length=ms.length+n/\(∀m∈ms',0<=m/\m<(ps.length:D))/\DOk L a'
 |0,a,ms,hd,_,hm=>by
  rw[jaN];simp only[j2U];rw[j01 omg_,j7,j06];exact⟨ms,a,rfl,rfl,hm,hd⟩
 |n+1,a,ms,hd,hl,hm=>by
  obtain⟨x,a1,e1,x0',x1',d1⟩:=j0E (n:=(ps.length:D)) hd omg_ omg_;rw[jaN];simp only[j2U,show F (N ps)=(ps.length:D) from rfl];rw[j00 omg_,j05 (x:=((n+1:M):D)-1),show ((n+1:M):D)-1=(n:D) by omega];simp only[j6,e1,j4];rw[j00 (by simp[j02];omega)];simp only[j6,j03]
  obtain⟨ms',a',e,h1,h2,h3⟩:=jAY (zs:=zs) (cs:=cs) (ss:=ss) hp0 hp1 (x0:=x0) (x1:=x1) (x2:=x2) (x3:=x3) (x4:=x4) (x5:=x5) (x6:=x6) (x7:=x7) (y0:=y0) (y1:=y1) (y2:=y2) (y3:=y3) (y4:=y4) (y5:=y5) (y6:=y6) (y7:=y7) n a1 (ms++[x]) d1 sqo_ (λm h=>by
   rcases List.mem_append.1 h with h|h
   .exact hm m h
   .simp at h;subst h;exact⟨x0',x1'⟩)
  exact⟨ms',a',e,by rw[h1];simp;omega,h2,h3⟩
theorem jvY{L:E D}{a:D}(h:DOk L a){zs:E j0D}{ps:E j0h}{cs:E CalT}{ss:E j0r}(hs:SOk zs ps cs)(nm:O) :
  ∃l a',j9A L a (zs,ps,cs,ss) nm=G (l,L,a')/\LOk l/\LCk zs.length ps.length cs.length l/\l.1=nm/\DOk L a':=by
 have hz0:=hs.z0;have hz1:=hs.z1;have hp0:=hs.p0;have hp1:=hs.p1;have hc1:=hs.c1;obtain⟨z,a1,e1,z0,z1,d1⟩:=j0E (n:=(zs.length:D)) h omg_ omg_;obtain⟨x,a2,e2,x0,x1,d2⟩:=j0E (n:=6) d1 omg_ omg_;obtain⟨s,a3,e3,m3,d3⟩:=j8K d2 (xs:=[(0:D),(32400:D),(7200:D),(9000:D),(79200:D),(1:D)]) smp_ smp_;obtain⟨u,a4,e4,u0,u1,d4⟩:=j0E (n:=3) d3 omg_ omg_;obtain⟨v,a5,e5,v0,v1,d5⟩:=j0E (n:=2) d4 omg_ omg_;have hs':0<=s/\s<=79200:=by simp at m3;omega
 simp only[j9A,show F (N zs)=(zs.length:D) from rfl,e1,e2,e3,e4,e5,j4];rw[j05 (x:=20454+x),j05 (x:=20454+x-2),j05 (x:=1+v)]
 have fin:∀(ev:D),1<=ev->ev<=49->(u≠0->ev<=2)->(u=0->6<=ev)->∀ms:E D,1<=ms.length->ms.length<=3->(∀m∈ms,0<=m/\m<(ps.length:D))->∀(w:WL),WOk 0 w->w.length<=3->∀(c m:D),0<=m->m<=2->(m≠0->0<=c/\c<(cs.length:D))->(m=0->c=0)->∀(a':D),DOk L a'->
   ∃l a'',G ((nm,z,(20454+x-2,s),u,ev,ms,w,c,m),L,a')=G (l,L,a'')/\LOk l/\LCk zs.length ps.length cs.length l/\l.1=nm/\DOk L a'':=
  λev h1 h2 h3 h36 ms h4 h5 hmem w hw hwl c m hm0 hm1 hmc hmz a' hd=>⟨_,_,rfl,⟨by dsimp only;omega,by dsimp only;omega,hs'.1,hs'.2,u0,by dsimp only;omega,h1,h2,h3,h4,h5⟩,
   ⟨z0,z1,by dsimp only;omega,js9 (by dsimp only;omega) (by dsimp only;omega),hs'.1,by dsimp only;omega,u0,by dsimp only;omega,h1,by dsimp only;omega,by dsimp only;omega,by dsimp only;omega,hmem,hw,by dsimp only;omega,hm0,hm1,hmc,hmz,hwl,h36⟩,rfl,hd⟩
 have rest:∀(ev:D),1<=ev->ev<=49->(u≠0->ev<=2)->(u=0->6<=ev)->∀(ms:E D),1<=ms.length->ms.length<=3->(∀m∈ms,0<=m/\m<(ps.length:D))->∀(w:WL),WOk 0 w->w.length<=3->∀(a9:D),DOk L a9->
   ∃l a'',((j0Z L a9 4).bind λr=>cond (cond r.1 (decide ((cs.length:D)>0)) Â) ((j04 r.2.1 r.2.2 (cs.length:D)).bind λr70=>(j04 r70.2.1 r70.2.2 2).bind λr72=>G ((nm,z,(20454+x-2,s),u,ev,ms,w,r70.1,w64 (1+r72.1)),r72.2.1,r72.2.2))
    (G ((nm,z,(20454+x-2,s),u,ev,ms,w,(0:D),(0:D)),r.2.1,r.2.2)))=G (l,L,a'')/\LOk l/\LCk zs.length ps.length cs.length l/\l.1=nm/\DOk L a'':=by
  intro ev h1 h2 h3 h36 ms h4 h5 hmem w hw hwl a9 d9;obtain⟨c,a11,e11,d11⟩:=jj5 (n:=4) d9 omg_ omg_;simp only[e11,j4];by_cases hcc:c=À/\(cs.length:D)>0
  .obtain⟨i,a12,e12,i0,i1,d12⟩:=j0E (n:=(cs.length:D)) d11 omg_ omg_;obtain⟨j,a13,e13,j0,j1,d13⟩:=j0E (n:=2) d12 omg_ omg_;rw[hcc.1,j00 hcc.2];simp only[j6,e12,e13,j4,j4N (x:=1+j) (show -9223372036854775808<=_ by omega) omg_];exact fin ev h1 h2 h3 h36 ms h4 h5 hmem w hw hwl i (1+j) omg_ omg_ (λ_=>⟨i0,i1⟩) (λhh=>omg_) _ d13
  .have hc0:cond c (decide ((cs.length:D)>0)) Â=false:=by
    cases c with
    |true=>exact j01 (λh=>hcc ⟨rfl,h⟩)
    |false=>rfl
   rw[hc0];simp only[j7];exact fin ev h1 h2 h3 h36 ms h4 h5 hmem w hw hwl 0 0 omg_ omg_ (λhh=>absurd rfl hh) (λ_=>rfl) _ d11
 have nilW:WOk 0 ([]:WL):=show (0:D)<=604800 by omega
 by_cases hu:u=0
 .rw[j43 hu,j6];obtain⟨ev,a6,e6,m6,d6⟩:=j8K d5 (xs:=[(6:D),(8:D),(12:D),(24:D),(23:D),(49:D)]) smp_ smp_;have hev:6<=ev/\ev<=49:=by simp at m6;omega
  obtain⟨n,a7,e7,n0,n1,d7⟩:=j0E (n:=3) d6 omg_ omg_;obtain⟨ms,a8,e8,l8,k8,d8⟩:=jAY (L:=L) (zs:=zs) (ps:=ps) (cs:=cs) (ss:=ss) hp0 omg_ (x0:=H) (x1:=0) (x2:=0) (x3:=0) (x4:=0) (x5:=0) (x6:=0) (x7:=0) (y0:=nm) (y1:=z) (y2:=20454+x-2) (y3:=s) (y4:=u) (y5:=ev) (y6:=0) (y7:=0) (1+n).toNat a7 [] d7 sqo_ smp_;rw[show (((1+n).toNat:M):D)=1+n by omega]at e8;simp at l8;obtain⟨b,a9,e9,d9⟩:=jj5 (n:=2) d8 omg_ omg_;simp only[e6,e7,j4];rw[j05 (x:=1+n)];simp only[e8,e9,j4,show F (N cs)=(cs.length:D) from rfl];cases b with
  |true=>obtain⟨w,a10,e10,hw,hwl,d10⟩:=jj4 d9;simp only[j6,e10,j4];exact rest ev omg_ hev.2 (λh=>absurd hu h) (λ_=>hev.1) ms omg_ omg_ k8 w hw hwl a10 d10
  |false=>simp only[j7];exact rest ev omg_ hev.2 (λh=>absurd hu h) (λ_=>hev.1) ms omg_ omg_ k8 [] nilW smp_ a9 d9
 .rw[j1G hu,j7];obtain⟨n,a7,e7,n0,n1,d7⟩:=j0E (n:=3) d5 omg_ omg_;obtain⟨ms,a8,e8,l8,k8,d8⟩:=jAY (L:=L) (zs:=zs) (ps:=ps) (cs:=cs) (ss:=ss) hp0 omg_ (x0:=H) (x1:=0) (x2:=0) (x3:=0) (x4:=0) (x5:=0) (x6:=0) (x7:=0) (y0:=nm) (y1:=z) (y2:=20454+x-2) (y3:=s) (y4:=u) (y5:=1+v) (y6:=0) (y7:=0) (1+n).toNat a7 [] d7 sqo_ smp_;rw[show (((1+n).toNat:M):D)=1+n by omega]at e8;simp at l8;obtain⟨b,a9,e9,d9⟩:=jj5 (n:=2) d8 omg_ omg_;simp only[e7,j4];rw[j05 (x:=1+n)];simp only[e8,e9,j4,show F (N cs)=(cs.length:D) from rfl];cases b with
  |true=>obtain⟨w,a10,e10,hw,hwl,d10⟩:=jj4 d9;simp only[j6,e10,j4];exact rest (1+v) omg_ omg_ (λ_=>omg_) (λh=>absurd h hu) ms omg_ omg_ k8 w hw hwl a10 d10
  |false=>simp only[j7];exact rest (1+v) omg_ omg_ (λ_=>omg_) (λh=>absurd h hu) ms omg_ omg_ k8 [] nilW smp_ a9 d9
theorem jAZ{L:E D}{a:D}(h:DOk L a){zs:E j0D}{ps:E j0h}{cs:E CalT}{ss:E j0r}(hp0:1<=ps.length)(hp1:ps.length<=4) :
  ∃x a',jan L a (zs,ps,cs,ss)=G (x,L,a')/\ECk ps.length x/\DOk L a':=by
 obtain⟨k,a1,e1,k0,k1,d1⟩:=j0E (n:=3) h omg_ omg_;obtain⟨p,a2,e2,p0,p1,d2⟩:=j0E (n:=(ps.length:D)) d1 omg_ omg_;obtain⟨t,a3,e3,t0,t1,d3⟩:=jmM d2;obtain⟨y,a4,e4,m4,d4⟩:=j8K d3 (xs:=[(3600:D),(86400:D),(7:D),(259200:D),(40000:D)]) smp_ smp_;have hy:7<=y/\y<=259200:=by simp at m4;omega
 have hday:j16 (Ä (t+y) 86400)=G true:=by rw[jcm omg_];exact js9 omg_ omg_
 simp only[jan,show F (N ps)=(ps.length:D) from rfl,e1,e2,e3,e4,j4];rw[j05 (x:=t+y)]
 have fin:∀(kd A B:D),0<=kd->kd<=2->(0<=A/\A<(ps.length:D)\/kd=1/\A = -1)->(kd=2->0<=B/\B<(ps.length:D)/\A≠B)->(kd≠2->B=0)->∀a',DOk L a'->∃x a'',G ((kd,A,B,t,t+y),L,a')=G (x,L,a'')/\ECk ps.length x/\DOk L a'':=
  λkd A B h1 h2 h3 h4 h5 a' hd=>⟨_,_,rfl,⟨h1,h2,h3,h4,h5,by dsimp only;omega,by dsimp only;omega,by dsimp only;omega,hday⟩,hd⟩
 by_cases h2:k=2
 .rw[j43 h2,j6];by_cases hn:(ps.length:D)<2
  .rw[j00 hn,j6];exact fin 0 p 0 omg_ omg_ (.inl ⟨p0,p1⟩) (λhh=>omg_) (λ_=>rfl) _ d4
  .rw[j01 hn,j7,j05 (x:=(ps.length:D)-1)];obtain⟨q,a5,e5,q0,q1,d5⟩:=j0E (n:=(ps.length:D)-1) d4 omg_ omg_;simp only[e5,j4];rw[j05 (x:=p+1),j05 (x:=p+1+q),j1G (show¬(ps.length:D)=0 by omega),j1G (show¬k=1 by omega),jfR omg_];simp only[Bool.not_false,j6,j7];have b0:0<=(p+1+q)%(ps.length:D):=Int.emod_nonneg _ omg_;have b1:(p+1+q)%(ps.length:D)<(ps.length:D):=Int.emod_lt_of_pos _ omg_
   have hne:p≠(p+1+q)%(ps.length:D):=by
    by_cases hb:p+1+q<(ps.length:D)
    .rw[Ã omg_ hb];omega
    .rw[<-Int.sub_emod_right,Ã omg_ omg_];omega
   exact fin k p _ k0 omg_ (.inl ⟨p0,p1⟩) (λ_=>⟨b0,b1,hne⟩) (λhh=>absurd h2 hh) _ d5
 .rw[j1G h2,j7];by_cases h1:k=1
  .rw[j43 h1,j6];obtain⟨b,a5,e5,d5⟩:=jj5 (n:=4) d4 omg_ omg_;simp only[e5,j4];cases b with
   |true=>exact fin k (-1) 0 k0 omg_ (.inr ⟨h1,rfl⟩) (λhh=>absurd hh h2) (λ_=>rfl) _ d5
   |false=>exact fin k p 0 k0 omg_ (.inl ⟨p0,p1⟩) (λhh=>absurd hh h2) (λ_=>rfl) _ d5
  .rw[j1G h1,j7];exact fin k p 0 k0 omg_ (.inl ⟨p0,p1⟩) (λhh=>absurd hh h2) (λ_=>rfl) _ d4
theorem jCo{L:E D}{s6:D}{nm:O}{zs:E j0D}{ps:E j0h}{cs:E CalT}{ss:E j0r}(hs:SOk zs ps cs):∀(n:M)(a:D)(ls:E j0b),DOk L a->ls.length+n<=3->(∀x∈ls,LCk zs.length ps.length cs.length x)->ls.map (·.1)=nmsL.take ls.length->
  ∃ls' a',j6m s6 (n:D) L a zs ps cs nm ss ls=G (s6,L,a',zs,ps,cs,nm,ss,ls')/\ls'.length<=3/\(∀x∈ls',LCk zs.length ps.length cs.length x)/\ls'.map (·.1)=nmsL.take ls'.length/\DOk L a'
 |0,a,ls,hd,hl,hk,hn=>by
  rw[j9Y];simp only[j2v];rw[j01 omg_,j7,j06];exact⟨ls,a,rfl,omg_,hk,hn,hd⟩
 |n+1,a,ls,hd,hl,hk,hn=>by
  have hnm:ls.length<nmsL.length:=by show ls.length<8;omega
  obtain⟨l,a1,e1,_,l2,l3,d1⟩:=jvY (ss:=ss) hd hs (nmsL.getD ls.length H);rw[j9Y];simp only[j2v,js8,j4,show F (N ls)=(ls.length:D) from rfl];rw[j00 omg_,j0X (show (0:D)<=(ls.length:D) by omega) omg_,j05 (x:=((n+1:M):D)-1),show ((n+1:M):D)-1=(n:D) by omega];simp only[j6,j8,e1,j4];rw[j00 (by simp[j02];omega)];simp only[j6,j03]
  exact jCo hs n a1 (ls++[l]) d1 sqo_ (λx hx=>by
   rcases List.mem_append.1 hx with h|h
   .exact hk x h
   .simp at h;subst h;exact l2) (by
   rw[Z,hn,W,List.map_cons,List.map_nil,l3];exact jo1 hnm)
theorem jCp{L:E D}{s6:D}{nm:O}{zs:E j0D}{ps:E j0h}{cs:E CalT}{ss:E j0r}{ls:E j0b}(hs:SOk zs ps cs):∀(n:M)(a:D)(es:E j1D),DOk L a->es.length+n<=3->(∀x∈es,ECk ps.length x)->
  ∃es' a',j8H s6 (n:D) L a zs ps cs nm ss ls es=G (s6,L,a',zs,ps,cs,nm,ss,ls,es')/\es'.length<=3/\(∀x∈es',ECk ps.length x)/\DOk L a'
 |0,a,es,hd,hl,hk=>by
  rw[j9Z];simp only[j2w];rw[j01 omg_,j7,j06];exact⟨es,a,rfl,omg_,hk,hd⟩
 |n+1,a,es,hd,hl,hk=>by
  obtain⟨x,a1,e1,x1,d1⟩:=jAZ (zs:=zs) (cs:=cs) (ss:=ss) hd hs.p0 hs.p1;rw[j9Z];simp only[j2w];rw[j00 omg_,j05 (x:=((n+1:M):D)-1),show ((n+1:M):D)-1=(n:D) by omega];simp only[j6,e1,j4];rw[j00 (by simp[j02];omega)];simp only[j6,j03]
  exact jCp hs n a1 (es++[x]) d1 sqo_ (λy hy=>by
   rcases List.mem_append.1 hy with h|h
   .exact hk y h
   .simp at h;subst h;exact x1)
theorem jCq{zs:E j0D}{ps:E j0h}{cs:E CalT}{ss:E j0r}(hs:SOk2 zs ps cs)(h0:ss.length<=12)(h1:NmL (ss.map (·.1)))(h2:∀s∈ss,SCk zs.length ps.length cs.length s):j6O (zs,ps,cs,ss):=by
 have hz1:=hs.so.z1;have hp1:=hs.so.p1;have hc1:=hs.so.c1;exact⟨by dsimp only;rw[hs.z.nm];exact jAU.take _,hs.z.ck,by dsimp only;omega,by dsimp only;rw[hs.p.nm];exact jvV.take _,hs.p.ck,by dsimp only;omega,hs.c.nm,hs.c.ck,by dsimp only;omega,h1,h2,h0⟩
structure Fst(o:D)(l:TrL)(s t:D)(k:M):Prop where
 hk:k<=l.length
 hks:s-tof o l k<frm l (k+1)
 bef:∀j,j<k->frm l (j+1)<=s-tof o l j
 ht:t=max (frm l k) (s-tof o l k)
def Dif(o:D)(l:TrL):Prop:=∀i,i<l.length -> -86400<tof o l (i+1)-tof o l i/\tof o l (i+1)-tof o l i<86400
section
variable{o:D}{l:TrL}(h:TOk o l)
include h
theorem Fst.piece{s t:D}{k:M}(f:Fst o l s t k):frm l k<=t/\t<frm l (k+1)/\s<=t+tof o l k:=by
 have h1:=h.frm_lt f.hk;have h2:=f.hks;have h3:=f.ht;omega
theorem Fst.up{s s' t t':D}{k k':M}(hd:Dif o l)(hs:200000<s)(he:s+86400<=s')(f:Fst o l s t k)(g:Fst o l s' t' k'):t<t':=by
 obtain⟨p1,p2,p3⟩:=f.piece h;obtain⟨q1,q2,q3⟩:=g.piece h;have g1:=g.hks;have g2:=g.ht;have f2:=f.ht;have hkN:=f.hk;have hkN':=g.hk;rcases Nat.lt_trichotomy k k' with hlt|heq|hgt
 .have m1:=h.frm_le (i:=k+1) (j:=k') omg_ omg_;omega
 .subst heq;by_cases h0:k=0
  .subst h0;have e0:frm l 0=0:=frm0;have o1:=h.of1 0 omg_;omega
  .obtain⟨j,rfl⟩:∃j,k=j+1:=⟨k-1,omg_⟩;have b:=f.bef j omg_;have d:=hd j omg_;omega
 .have:=f.bef k' hgt;omega
end
noncomputable def fstI(o:D)(l:TrL)(s:D):Int:=open Classical in if h:∃t k,Fst o l s t k then Classical.choose h else 0
def j2V(L:j0b):Int:=if L.2.2.2.1=2 then 7*L.2.2.2.2.1 else L.2.2.2.2.1
def sLoc(L:j0b)(k:D):Int:=(L.2.2.1.1+k*j2V L)*86400+L.2.2.1.2
noncomputable def hov(o:D)(l:TrL)(L:j0b)(k:D):Int:=if L.2.2.2.1=0 then fstI o l (sLoc L 0)+3600*L.2.2.2.2.1*k else fstI o l (sLoc L k)
structure LR(L:j0b):Prop where
 d0:100<=L.2.2.1.1
 d1:L.2.2.1.1<=30000
 c0:0<=L.2.2.1.2
 c1:L.2.2.1.2<=86399
 u0:0<=L.2.2.2.1
 u1:L.2.2.2.1<=2
 e0:1<=L.2.2.2.2.1
 e1:L.2.2.2.2.1<=49
 m0:1<=L.2.2.2.2.2.1.length
 m1:L.2.2.2.2.2.1.length<=1000
theorem LOk.lr{L:j0b}(h:LOk L):LR L:=⟨by have:=h.d0;omega,by have:=h.d1;omega,h.c0,by have:=h.c1;omega,h.u0,h.u1,h.e0,h.e1,h.m0,by have:=h.m1;omega⟩
theorem LR.step{L:j0b}(h:LR L):1<=j2V L/\j2V L<=343:=by
 have:=h.e0;have:=h.e1;unfold j2V;split<;>omega
section
variable{o:D}{l:TrL}(h:TOk o l)
include h
end
theorem jqZ(y:D):jjY y=G (jpx y):=jvO y
theorem jeA(y m:D):jeg y m=G (dim y m):=by
 by_cases h:m<1\/12<m
 .have hk:∀k:D,1<=k->k<=12->(m==k)=false:=λk h1 h2=>j1G omg_;have:dim y m=0:=if_pos h;rw[this]
  simp only[jeg,j7q,j7r,hk 1 omg_ omg_,hk 2 omg_ omg_,hk 3 omg_ omg_,hk 4 omg_ omg_,hk 5 omg_ omg_,hk 6 omg_ omg_,hk 7 omg_ omg_,
   hk 8 omg_ omg_,hk 9 omg_ omg_,hk 10 omg_ omg_,hk 11 omg_ omg_,hk 12 omg_ omg_,j7]
 .obtain rfl|rfl|rfl|rfl|rfl|rfl|rfl|rfl|rfl|rfl|rfl|rfl:m=1\/m=2\/m=3\/m=4\/m=5\/m=6\/m=7\/m=8\/m=9\/m=10\/m=11\/m=12:=omg_
  case inr.inl=>have e:jeg y 2=(jjY y).bind λr=>cond r (G (29:D)) (G (28:D)):=rfl;rw[e,jqZ,dim,js3];simp only[j4];cases jpx y<;>rfl
  all_goals rfl
theorem jpB(y m d:D):jhM (y,m,d)=G (decide (jnX y m d)):=by
 simp only[jhM,jeA,j4];by_cases hv:jnX y m d
 .have hm:=jhc hv;have hv':=hv;obtain⟨a1,a2,a3,a4⟩:=hv;rw[j00 (show y>=1970 from a1),j00 a2,j00 (show m>=1 from hm.1),j00 hm.2,j00 (show d>=1 from a3),j00 a4,j00 hv'];rfl
 .rw[j01 hv];by_cases a1:y>=1970
  .by_cases a2:y<=2240
   .by_cases a3:m>=1
    .by_cases a4:m<=12
     .by_cases a5:d>=1
      .rw[j00 a1,j00 a2,j00 a3,j00 a4,j00 a5,j01 (show¬d<=dim y m fromλh=>hv ⟨a1,a2,a5,h⟩)];rfl
      .rw[j00 a1,j00 a2,j00 a3,j00 a4,j01 a5];rfl
     .rw[j00 a1,j00 a2,j00 a3,j01 a4];rfl
    .rw[j00 a1,j00 a2,j01 a3];rfl
   .rw[j00 a1,j01 a2];rfl
  .rw[j01 a1];rfl
theorem jr0(y:D)(h1:1969<=y)(h2:y<=1000000000):jhN y=G (cnt y):=by
 simp(disch:=omega)only[jhN,S0];rw[jcm (show 0<=y-1969 by omega),jcm (show 0<=y-1901 by omega),jcm (show 0<=y-1601 by omega)];simp (disch:=omega) only[j4N];congr 1;unfold cnt;omega
theorem jmO(y m d:D)(hm:m<=13):∀(n:M)(s k:D),1<=k->k+n=m -> -1000000000000<=s->s+31*n<=1000000000000->jiN s k y m d=G (s+cum y m-cum y k,y,m,d)
 |0,s,k,hk,hn,_,_=>by
  rw[jhO];have:k=m:=omg_;subst this;simp(disch:=omega)only[j7s,S0];congr 2;omega
 |n+1,s,k,hk,hn,h1,h2=>by
  rw[jhO];have hd:=j7D y k;have hc:=jnV y k hk omg_;simp(disch:=omega)only[j7s,jeA,jmO y m d hm n (s+dim y k) (k+1) omg_ omg_ omg_ omg_,S0];congr 2;omega
theorem jtD{y m d:D}(hv:jnX y m d):jnE (y,m,d)=G (num y m d,0):=by
 have hm:=jhc hv;have hd:=j7D y m;have hb : -1000000000<=cnt y/\cnt y<=1000000000:=by have:=hv.1;have:=hv.2.1;unfold cnt;omega
 have hc:=jpz y m;obtain⟨h1,h2,h3,h4⟩:=id hv;simp(disch:=omega)only[jnE,jpB,jr0 y omg_ omg_,jmO y m d omg_ (m-1).toNat (cnt y) 1 omg_ omg_ omg_ omg_,S0];have:cum y 1=0:=rfl;simp(disch:=omega)only[S0];unfold num;congr 2;omega
theorem jgC(d:D):jc4 d=j6a d:=rfl
theorem jly(y m k w n e:D)(hn0:0<=n)(hn1:n<=1000000)(he6:e<=6)(hew:(n+e+3)%7=w) :
  ∀(j:M)(s:D),0<=s->s+j=e->jiO y m k w n (n+s)=G (y,m,k,n,n+e)
 |0,s,hs,hj=>by
  rw[jhP];have:s=e:=omg_;subst this;have hb:((n+s+3)%7 != w)=false:=by simp[hew]
  simp only[j7t,jgC,jgf (n+s) omg_,j4,hb,j7,j06]
 |j+1,s,hs,hj=>by
  rw[jhP];have hb:((n+s+3)%7 != w)=true:=by simp only[bne_iff_ne,ne_eq];omega
  simp only[j7t,jgC,jgf (n+s) omg_,j4,hb,j6,j03];rw[j05 (x:=n+s+1),show n+s+1=n+(s+1) by omega];exact jly y m k w n e hn0 hn1 he6 hew j (s+1) omg_ omg_
theorem jhd(y m n t:D)(hn0:0<=n)(hn1:n<=1000000)(ht1:t<n+dim y m)(ht2:n+dim y m<=t+7)(ht0 : -1000<=t) :
  ∀(j:M)(s:D),s+7*j=t -> -1000<=s->jiP y m n s=G t
 |0,s,hs,_=>by
  have hd:=j7D y m;rw[jhQ];have:s=t:=omg_;subst this;simp(disch:=omega)only[j7u,jeA,S0]
 |j+1,s,hs,h1=>by
  have hd:=j7D y m;rw[jhQ];simp(disch:=omega)only[j7u,jeA,S0];exact jhd y m n t hn0 hn1 ht1 ht2 ht0 j (s+7) omg_ omg_
theorem jtE(y m k w:D)(h1:1970<=y)(h2:y<=2240)(hm1:1<=m)(hm2:m<=12)(hk1:1<=k)(hk2:k<=5)(hw1:0<=w)(hw2:w<=6):jnF y m k w=G (nth y m k w,0):=by
 have hv:=jdV y m h1 h2 hm1 hm2;have hr:=jfS hv;have hd:=jlv y m hm1 hm2;have hd2:=j7D y m;simp(disch:=omega)only[jnF,jtD hv,S0];unfold nth;generalize num y m 1=n at *;obtain⟨e,he0,he6,hew,hee⟩:∃e,0<=e/\e<=6/\(n+e+3)%7=w/\n+(w-(n+3)%7+7)%7=n+e:=⟨(w-(n+3)%7+7)%7,omg_,omg_,omg_,rfl⟩;rw[hee];have hl:=jly y m k w n e hr.1 omg_ he6 hew e.toNat 0 omg_ omg_;rw[Int.add_zero]at hl;simp only[hl,j4];by_cases hk:k<5
 .simp(disch:=omega)only[if_neg,S0]
 .have hk5:k=5:=omg_;subst hk5;rw[j01 hk,j7];by_cases hc:n+e+7*(5-1)>=n+dim y m
  .rw[jhd y m n (n+e+21) hr.1 omg_ omg_ omg_ omg_ 3 (n+e) omg_ omg_,if_pos hc];simp only[j4];congr 2;omega
  .rw[jhd y m n (n+e+28) hr.1 omg_ omg_ omg_ omg_ 4 (n+e) omg_ omg_,if_neg hc];simp only[j4];congr 2
end Go.Proofs.Pw
