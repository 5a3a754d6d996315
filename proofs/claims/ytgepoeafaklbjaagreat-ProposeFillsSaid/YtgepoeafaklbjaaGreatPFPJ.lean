/- The references of chapters 10 and 11: the instants at which a layer may change. -/
import Derived.Test.YtgepoeafaklbjaaGreatPFPF
import Derived.Test.YtgepoeafaklbjaaGreatPFPC
import Derived.Test.YtgepoeafaklbjaaGreatPFPI
import Derived.Test.YtgepoeafaklbjaaGreatPFPH
import Derived.Test.YtgepoeafaklbjaaGreatPFLD
import Derived.Test.YtgepoeafaklbjaaGreatPFPA
import Derived.Test.YtgepoeafaklbjaaGreatPFPD
open _root_ renaming Int->E,List->U,Nat->Ä
open ByteArray renaming empty->F
open List renaming drop_eq_getElem_cons->G,length_append->I,drop_of_length_le->J,getElem_mem->X,drop_zero->Y,mem_append_right->Z,mem_append_left->À,getD->Á,append_assoc->Ã,length_cons->Å,nil_append->Æ,length_map->È,length_nil->É,length->Ì
open Int renaming ofNat->R,le_refl->Ç
open Option renaming some->Â,none->Ð
open Go Go.Lft
namespace Go.Proofs.Pw
section
variable{z:j0D}{l:TrL}(h4:Z4 z l)
include h4
theorem hl10{L:j0b}(h:Rt L)(from_ to_:E):∀(n:Ä)(k:E)(acc:U E),k+n=2386093->0<=k->(acc.length:E)<=k->
  ∃out,jaZ from_ to_ k z.1 z.2.1 z.2.2 L.1 L.2.1 L.2.2.1.1 L.2.2.1.2 L.2.2.2.1 L.2.2.2.2.1 L.2.2.2.2.2.1 L.2.2.2.2.2.2.1 L.2.2.2.2.2.2.2.1 L.2.2.2.2.2.2.2.2 acc=Â (0,out)/\(out.length:E)<=2386094/\
   (∀x∈acc,x∈out)/\∀j v,k<=j->hO z.2.1 l L j=Â v->from_<=v->v<to_->v∈out
 |n,k,acc,hn,hk,ha=>by
  obtain⟨v',ev',hv'⟩:=r10H h4 h (k:=k) hk omg_;rw[jh0];simp only[j5d];rw[show j7w (z.1,z.2.1,z.2.2) (L.1,L.2.1,(L.2.2.1.1,L.2.2.1.2),L.2.2.2.1,L.2.2.2.2.1,L.2.2.2.2.2.1,L.2.2.2.2.2.2.1,L.2.2.2.2.2.2.2.1,L.2.2.2.2.2.2.2.2) k=_ from ev'];simp only[j4];cases hx:hO z.2.1 l L k with
  |none=>simp only[Option.isSome_none,Bool.not_false,j6,j06];refine⟨acc,rfl,omg_,λx hx=>hx,λj v hj hv _ _=>?_⟩;obtain⟨u,hu,_⟩:=QO.le h4.2 h hj ⟨v,hv,Ç v⟩;rw[hx]at hu;simp at hu
  |some t=>
   have:=hv' t hx;subst v';simp only[Option.isSome_some,Bool.not_true,j7];by_cases hto:t>=to_
   .rw[j00 hto];simp only[j6,j06];refine⟨acc,rfl,omg_,λx hx=>hx,λj v hj hv _ hvt=>?_⟩;obtain⟨u,hu,huv⟩:=QO.le h4.2 h hj ⟨v,hv,Ç v⟩;rw[hx]at hu;simp at hu;omega
   .rw[j01 hto,j00 (show acc.length+[t].length<=j02 by simp[j02];omega),j05 (x:=k+1)];simp only[j6,j7];cases n with
    |zero=>have:=jr1 h4.2 h hk hx;omega
    |succ n=>
     by_cases hfr:t>=from_
     .rw[j00 hfr];simp only[j6,j03];obtain⟨out,e1,e2,e3,e4⟩:=hl10 h from_ to_ n (k+1) (acc++[t]) omg_ omg_ sqo_;refine⟨out,e1,e2,λx hx=>e3 x (by simp[hx]),λj v hj hv h1 h2=>?_⟩;by_cases hjk:j=k
      .subst hjk;rw[hx]at hv;simp at hv;subst hv;exact e3 t smp_
      .exact e4 j v omg_ hv h1 h2
     .rw[j01 hfr];simp only[j7,j03];obtain⟨out,e1,e2,e3,e4⟩:=hl10 h from_ to_ n (k+1) acc omg_ omg_ omg_;refine⟨out,e1,e2,e3,λj v hj hv h1 h2=>?_⟩;by_cases hjk:j=k
      .subst hjk;rw[hx]at hv;simp at hv;omega
      .exact e4 j v omg_ hv h1 h2
theorem jDa{a b:E}(ha:0<=a)(hab:a<=b)(hb:b<=8589934592)(hq:b-a<=34560000):j87 a b=Â true:=by
 have _:=h4;simp only[j87];rw[j00 (show a>=0 from ha),j00 (show a<=8589934592 by omega),j00 (show b>=a from hab),j00 hb,j05 (x:=b-a),j00 hq];rfl
theorem jyM{L:j0b}(h:Rt L){a b:E}(ha:0<=a)(hab:a<=b)(hb:b<=8589934592)(hq:b-a<=34560000):∃out,j9B z L a b=Â (out,0)/\out.length<=2386094/\∀j v,0<=j->hO z.2.1 l L j=Â v->a<v->v<b->v∈out:=by
 obtain⟨K,eK,hK⟩:=jCG h4 h ha omg_
 have hKb:K<=2386092:=by
  rcases hK with⟨hK,_⟩|⟨hK,⟨y,hy,_⟩,_⟩
  .omega
  .exact(jr1 h4.2 h hK hy).2.2
 obtain⟨k0,hk0⟩:∃k0:E,k0=(if K>0 then K else 0):=⟨_,rfl⟩;have hk1:0<=k0/\k0<=2386092/\(0<k0->k0=K):=by rw[hk0];split<;>omega
 obtain⟨out,e1,e2,_,e4⟩:=hl10 h4 h a b (2386093-k0).toNat k0 [] omg_ hk1.1 sqo_;refine⟨out,?_,omg_,λj v hj hv h1 h2=>?_⟩
 .have e2:jcb (z.1,z.2.1,z.2.2) (L.1,L.2.1,(L.2.2.1.1,L.2.2.1.2),L.2.2.2.1,L.2.2.2.2.1,L.2.2.2.2.2.1,L.2.2.2.2.2.2.1,L.2.2.2.2.2.2.2.1,L.2.2.2.2.2.2.2.2)=_:=jlE h4 L;simp only[j9B,e2,j4];rw[if_pos h];simp only[bne_self_eq_false,j7,jDa h4 ha hab hb hq,j4,Bool.not_true];rw[show jcd (z.1,z.2.1,z.2.2) (L.1,L.2.1,(L.2.2.1.1,L.2.2.1.2),L.2.2.2.1,L.2.2.2.2.1,L.2.2.2.2.2.1,L.2.2.2.2.2.2.1,L.2.2.2.2.2.2.2.1,L.2.2.2.2.2.2.2.2) a=_ from eK];simp only[j4];rw[<-hk0,e1];rfl
 .by_cases hjk:k0<=j
  .exact e4 j v hjk hv omg_ h2
  .exfalso;have hKk:=hk1.2.2 omg_;rcases hK with⟨hK,_⟩|⟨hK,hq,_⟩
   .omega
   .obtain⟨u,hu,hua⟩:=QO.le h4.2 h (show j<=K by omega) hq;rw[hv]at hu;simp at hu;omega
end
theorem jyN{z:j0D}(hz:ZOk z){L:j0b}(hR:Rt L){x y:E}(h0:0<=x)(hxy:x<=y)(h1:y<=8589934592)(hno:∀j v,0<=j->hO z.2.1 (tb z).2 L j=Â v->¬(x<v/\v<=y)):shK z L x=shK z L y:=by
 have a:=(jd9 hz hR (t:=x) h0 omg_).2;have b:=(jd9 hz hR (t:=y) omg_ h1).2;refine ShO.uniq hz.ztab.2 hR (t:=y) ?_ b;have q:∀j,0<=j->QO z.2.1 (tb z).2 L y j->QO z.2.1 (tb z).2 L x j:=λj hj ⟨v,hv,hvy⟩=>⟨v,hv,by have:=hno j v hj hv;omega⟩;rcases a with⟨a1,a2⟩|⟨a1,a2,a3⟩
 .exact .inl ⟨a1,λh=>a2 (q 0 omg_ h)⟩
 .obtain⟨v,hv,hvx⟩:=a2;exact .inr ⟨a1,⟨v,hv,omg_⟩,λh=>a3 (q _ omg_ h)⟩
theorem jo8{z:j0D}(hz:ZOk z){t:E}(h0:0<=t)(h1:t<=8589934592){k:Ä}(hk:k<=(tb z).2.length)(k1:frm (tb z).2 k<=t)(k2:t<frm (tb z).2 (k+1)) :
  locD z t=((t+tof z.2.1 (tb z).2 k)/86400,(t+tof z.2.1 (tb z).2 k)%86400)/\secD (locD z t)=(t+tof z.2.1 (tb z).2 k+259200)%604800:=by
 have e:=jge hz.ztab.2 hk k1 k2;have o0:=hz.ztab.2.of0 k hk;have o1:=hz.ztab.2.of1 k hk;have el:locD z t=((t+tof z.2.1 (tb z).2 k)/86400,(t+tof z.2.1 (tb z).2 k)%86400):=by simp only[locD,show j1B (tb z) t=_ from e,Option.getD_some]
 refine⟨el,?_⟩;have hsc:j7M (locD z t)=Â (secD (locD z t)):=(jr3 hz h0 h1).2;have h5:=sec5 (d:=(t+tof z.2.1 (tb z).2 k)/86400) (s:=(t+tof z.2.1 (tb z).2 k)%86400) omg_ omg_ omg_ omg_;rw[el]at hsc ⊢;rw[h5]at hsc;have:=Option.some.inj hsc;rw[<-this];congr 1;omega
theorem jyO{W:SL}{x y:E}(hxy:x<=y)(hno:∀u∈W,¬(x<u.1/\u.1<=y)/\¬(x<u.2/\u.2<=y)):inS x W↔inS y W:=by
 constructor
 .rintro⟨u,hu,h1,h2⟩
  have:=hno u hu;exact⟨u,hu,omg_,omg_⟩
 .rintro⟨u,hu,h1,h2⟩
  have:=hno u hu;exact⟨u,hu,omg_,omg_⟩
theorem jx2{o:E}{l:TrL}{s:E}:∀(n j i:Ä),j<=i->i<j+n->Sol o l s i->s-tof o l i∈jj7 o l s j n
 |0,_,_,h1,h2,_=>omg_
 |n+1,j,i,h1,h2,hs=>by
  simp only[jj7];by_cases he:i=j
  .subst he;rw[if_pos hs];simp
  .exact Z _ (jx2 n (j+1) i omg_ omg_ hs)
theorem jyP{z:j0D}(hz:ZOk z){ds:U E}{x y:E}(h0:0<=x)(hxy:x<=y)(h1:y<=8589934592)(htr:∀i,i<(tb z).2.length->¬(x<tat (tb z).2 i/\tat (tb z).2 i<=y))
  (hds:∀d∈ds,∀i:E,0<=i->i<2->∀t∈sols z.2.1 (tb z).2 ((d+i)*86400+0),¬(x<t/\t<=y)):decide ((locD z x).1∈ds)=decide ((locD z y).1∈ds):=by
 obtain⟨k,hk,k1,k2⟩:=jaq hz.ztab.2 (t:=x) h0 omg_
 have k3:y<frm (tb z).2 (k+1):=by
  rcases Nat.lt_or_ge k (tb z).2.length with hl|hl
  .have:=htr k hl;rw[jdi hl]at k2 ⊢;omega
  .rw[show k=(tb z).2.length by omega,j81];omega
 obtain⟨e1,_⟩:=jo8 hz h0 omg_ hk k1 k2;obtain⟨e2,_⟩:=jo8 hz (t:=y) omg_ h1 hk omg_ k3
 have key:∀D:E,x+tof z.2.1 (tb z).2 k<D*86400->D*86400<=y+tof z.2.1 (tb z).2 k->∀d∈ds,∀i:E,0<=i->i<2->d+i=D->False:=λD d1 d2 d hd i i0 i1 hdi=>by
  have hs:Sol z.2.1 (tb z).2 (D*86400+0) k:=⟨omg_,omg_⟩;have hm:D*86400+0-tof z.2.1 (tb z).2 k∈sols z.2.1 (tb z).2 ((d+i)*86400+0):=by rw[hdi];exact jx2 _ 0 k omg_ omg_ hs
  exact hds d hd i i0 i1 _ hm ⟨omg_,omg_⟩
 rw[e1,e2];by_cases he:(x+tof z.2.1 (tb z).2 k)/86400=(y+tof z.2.1 (tb z).2 k)/86400
 .rw[he]
 .have hm1:¬(x+tof z.2.1 (tb z).2 k)/86400∈ds:=λhd=>key ((x+tof z.2.1 (tb z).2 k)/86400+1) omg_ omg_ _ hd 1 omg_ omg_ rfl;have hm2:¬(y+tof z.2.1 (tb z).2 k)/86400∈ds:=λhd=>key ((y+tof z.2.1 (tb z).2 k)/86400) omg_ omg_ _ hd 0 omg_ omg_ omg_;rw[j01 hm1,j01 hm2]
def brW(W:SL):U Int:=W.flatMap λu=>[u.1,u.2]
theorem jBw(W:SL):(brW W).length=2*W.length:=by
 induction W with
 |nil=>rfl
 |cons x r ih=>have:brW (x::r)=[x.1,x.2]++brW r:=rfl;rw[this,I,ih];simp;omega
section
variable{zs:U j0D}{ps:U j0h}{cs:U CalT}{ss:U j0r}
theorem jDb{L:j0b}{W:SL}(hW:W.length<=10000):∀(n i:Ä)(acc:U E),i+n=W.length->acc.length+2*n<=100000000->
  jh1 (i:E) zs ps cs ss L.1 L.2.1 L.2.2.1.1 L.2.2.1.2 L.2.2.2.1 L.2.2.2.2.1 L.2.2.2.2.2.1 L.2.2.2.2.2.2.1 L.2.2.2.2.2.2.2.1 L.2.2.2.2.2.2.2.2 acc W=
   Â (zs,ps,cs,ss,L.1,L.2.1,L.2.2.1.1,L.2.2.1.2,L.2.2.2.1,L.2.2.2.2.1,L.2.2.2.2.2.1,L.2.2.2.2.2.2.1,L.2.2.2.2.2.2.2.1,L.2.2.2.2.2.2.2.2,acc++brW (W.drop i))
 |0,i,acc,hi,_=>by
  rw[jgu,J omg_];simp only[j6H,show R W.length=(W.length:E) from rfl];rw[j01 omg_,j7,j06];simp[brW]
 |n+1,i,acc,hi,ha=>by
  have hlt:i<W.length:=omg_;have hgd:W.getD i (0,0)=W[i]:=by simp[hlt]
  have ih:=jDb (L:=L) hW n (i+1) (acc++[W[i].1,W[i].2]) omg_ sqo_;rw[Ã]at ih;rw[jgu,G hlt];simp only[j6H,show R W.length=(W.length:E) from rfl];rw[j00 (show (i:E)<(W.length:E) by omega),j0O,j05 (x:=(i:E)+1)];simp only[j6,j8,hgd];rw[j00 (by simp[j02];omega),j6,j03];exact ih
theorem jDc{x:CalT}{T:TrL}(hT:T.length<=1000):∀(n i:Ä)(acc:U E),i+n=T.length->acc.length+n<=100000000->
  jae (i:E) zs ps cs ss x.1 x.2.1 x.2.2 acc T=Â (zs,ps,cs,ss,x.1,x.2.1,x.2.2,acc++(T.drop i).map (·.1))
 |0,i,acc,hi,_=>by
  rw[jgv,J omg_];simp only[j6I,show R T.length=(T.length:E) from rfl];rw[j01 omg_,j7,j06];simp
 |n+1,i,acc,hi,ha=>by
  have hlt:i<T.length:=omg_;have hgd:T.getD i (0,0)=T[i]:=by simp[hlt]
  have ih:=jDc (x:=x) hT n (i+1) (acc++[T[i].1]) omg_ sqo_;rw[Ã]at ih;rw[jgv,G hlt];simp only[j6I,show R T.length=(T.length:E) from rfl];rw[j00 (show (i:E)<(T.length:E) by omega),j0O,j05 (x:=(i:E)+1)];simp only[j6,j8,hgd];rw[j00 (by simp[j02];omega),j6,j03];exact ih
def dyB(z:j0D)(d:E):U Int:=sols z.2.1 (tb z).2 ((d+0)*86400+0)++sols z.2.1 (tb z).2 ((d+1)*86400+0)
theorem jx3{z:j0D}(hz:ZOk z)(d:E):(dyB z d).length<=10:=by
 have h4:(tb z).2.length<=4:=jd8 hz;have a:=jij (o:=z.2.1) (l:=(tb z).2) ((d+0)*86400+0) ((tb z).2.length+1) 0;have b:=jij (o:=z.2.1) (l:=(tb z).2) ((d+1)*86400+0) ((tb z).2.length+1) 0;unfold dyB sols;rw[I];omega
theorem jDS(hzs:∀z∈zs,ZOk z){x:CalT}(hx:CCk zs.length x){i:Ä}(hi:i<x.2.2.length){acc:U E}(ha:acc.length<=90000000) :
  jh2 (i:E) 0 zs ps cs ss x.1 x.2.1 x.2.2 acc=Â ((i:E),zs,ps,cs,ss,x.1,x.2.1,x.2.2,acc++dyB (zAt zs x.2.1) x.2.2[i]):=by
 have hz:ZOk (zAt zs x.2.1):=zget hzs hx.z0 hx.z1;have h4:=hz.zref.2.1;have hd:=hx.day _ (X hi);have d0:=jzE hd;have d1:=jsh hd;have hgd:x.2.2.getD i (0:E)=x.2.2[i]:=by simp[hi]
 have hl4:(tb (zAt zs x.2.1)).2.length<=4:=jd8 hz;have hsl:=λs=>jij (o:=(zAt zs x.2.1).2.1) (l:=(tb (zAt zs x.2.1)).2) s ((tb (zAt zs x.2.1)).2.length+1) 0;have e0:j7N ((zs.getD x.2.1.toNat (F,0,[])).1,(zs.getD x.2.1.toNat (F,0,[])).2.1,(zs.getD x.2.1.toNat (F,0,[])).2.2) (x.2.2[i]+0,0)=_:=jpD h4 (show -2<=x.2.2[i]+0 by omega) omg_ (show (0:E)<=0 by omega) omg_;have e1:j7N ((zs.getD x.2.1.toNat (F,0,[])).1,(zs.getD x.2.1.toNat (F,0,[])).2.1,(zs.getD x.2.1.toNat (F,0,[])).2.2) (x.2.2[i]+1,0)=_:=jpD h4 (show -2<=x.2.2[i]+1 by omega) omg_ (show (0:E)<=0 by omega) omg_;have b0:=hsl ((x.2.2[i]+0)*86400+0);have b1:=hsl ((x.2.2[i]+1)*86400+0);rw[jde];simp only[j4T];rw[j00 (show (0:E)<2 by omega),j0X hx.z0 hx.z1,j0X (show (0:E)<=(i:E) by omega) omg_];simp only[j6,j8,hgd];rw[j05 (x:=x.2.2[i]+0),e0];simp only[j4];rw[j00 (show acc.length+(sols (zAt zs x.2.1).2.1 (tb (zAt zs x.2.1)).2 ((x.2.2[i]+0)*86400+0)).length<=j02 by unfold sols j02;omega),j6,j03];rw[show w64 (0+1)=1 from rfl,jde];simp only[j4T];rw[j00 (show (1:E)<2 by omega),j0X hx.z0 hx.z1,j0X (show (0:E)<=(i:E) by omega) omg_];simp only[j6,j8,hgd];rw[j05 (x:=x.2.2[i]+1),e1];simp only[j4]
 rw[j00 (show (acc++sols (zAt zs x.2.1).2.1 (tb (zAt zs x.2.1)).2 ((x.2.2[i]+0)*86400+0)).length+(sols (zAt zs x.2.1).2.1 (tb (zAt zs x.2.1)).2 ((x.2.2[i]+1)*86400+0)).length<=j02 by rw[I];unfold sols j02;omega),j6,j03];rw[show w64 (1+1)=2 from rfl,jde];simp only[j4T];rw[j01 (show¬(2:E)<2 by omega),j7,j06,Ã];rfl
theorem jDd(hzs:∀z∈zs,ZOk z){x:CalT}(hx:CCk zs.length x):∀(n i:Ä)(acc:U E),i+n=x.2.2.length->acc.length+10*n<=90000000->
  jcg (i:E) zs ps cs ss x.1 x.2.1 x.2.2 acc=Â (acc++(x.2.2.drop i).flatMap (dyB (zAt zs x.2.1)))
 |0,i,acc,hi,_=>by
  rw[jgw,J omg_];simp only[j6J,show R x.2.2.length=(x.2.2.length:E) from rfl];rw[j01 omg_,j7,j06];simp
 |n+1,i,acc,hi,ha=>by
  have hlt:i<x.2.2.length:=omg_;have hl:=hx.len;have hz:ZOk (zAt zs x.2.1):=zget hzs hx.z0 hx.z1;have hb:=jx3 hz x.2.2[i];have ih:=jDd hzs hx n (i+1) (acc++dyB (zAt zs x.2.1) x.2.2[i]) omg_ (by rw[I];omega);rw[Ã]at ih;rw[jgw,G hlt];simp only[j6J,show R x.2.2.length=(x.2.2.length:E) from rfl];rw[j00 (show (i:E)<(x.2.2.length:E) by omega),j6,jDS hzs hx hlt omg_];simp only[j4];rw[j05 (x:=(i:E)+1),j03];exact ih
end
def NoC(out:U E)(x y:E):Prop:=∀c∈out,¬(x<c/\c<=y)
theorem NoC.left{A B:U E}{x y:E}(h:NoC (A++B) x y):NoC A x y:=λc hc=>h c (À _ hc)
theorem NoC.right{A B:U E}{x y:E}(h:NoC (A++B) x y):NoC B x y:=λc hc=>h c (Z _ hc)
section
variable{zs:U j0D}{ps:U j0h}{cs:U CalT}{ss:U j0r}(hs:SOk2 zs ps cs)
include hs
theorem jx4{L:j0b}(hL:LCk zs.length ps.length cs.length L){x y:E}(h0:0<=x)(hxy:x<=y)(h1:y<=8589934592)
  (hno:L.2.2.2.2.2.2.2.2≠0->NoC ((tb (zAt zs (cAt cs L.2.2.2.2.2.2.2.1).2.1)).2.map (·.1)++(cAt cs L.2.2.2.2.2.2.2.1).2.2.flatMap (dyB (zAt zs (cAt cs L.2.2.2.2.2.2.2.1).2.1))) x y):calB zs cs L x=calB zs cs L y:=by
 unfold calB;by_cases hm:L.2.2.2.2.2.2.2.2=0
 .rw[j43 hm];rfl
 .have hn:=hno hm;have hcal:=hL.cal hm;have hx:=cget hs hcal.1 hcal.2;have hz:ZOk (zAt zs (cAt cs L.2.2.2.2.2.2.2.1).2.1):=zget hs.so.ok hx.z0 hx.z1;rw[jyP hz h0 hxy h1 (λi hi=>?_) (λd hd i i0 i1 t ht=>?_)]
  .refine hn.left _ (List.mem_map.2 ⟨(tb (zAt zs (cAt cs L.2.2.2.2.2.2.2.1).2.1)).2[i],X hi,?_⟩);unfold tat;simp[Á,hi]
  .refine hn.right t (List.mem_flatMap.2 ⟨d,hd,?_⟩);unfold dyB;have:i=0\/i=1:=omg_;rcases this with rfl|rfl
   .exact À _ ht
   .exact Z _ ht
theorem jx5{L:j0b}(hL:LCk zs.length ps.length cs.length L){a b:E}(ha:0<=a)(hab:a<=b)(hb:b<=8589934592)(hlen:b-a<=2592000) :
  ∃out,jhY (zs,ps,cs,ss) L a b=Â out/\out.length<=2400000/\∀x y,a<=x->x<=y->y<b->NoC out x y->perX zs cs L x=perX zs cs L y:=by
 have hRt:=hL.rt2;have hz:ZOk (zAt zs L.2.1):=zget hs.so.ok hL.z0 hL.z1;have h4:=hz.zref.2.1;have hl4:(tb (zAt zs L.2.1)).2.length<=4:=jd8 hz;obtain⟨H,eH,lH,mH⟩:=jyM h4 hRt ha hab hb omg_
 have eH':j9B ((zs.getD L.2.1.toNat (F,0,[])).1,(zs.getD L.2.1.toNat (F,0,[])).2.1,(zs.getD L.2.1.toNat (F,0,[])).2.2)
  (L.1,L.2.1,(L.2.2.1.1,L.2.2.1.2),L.2.2.2.1,L.2.2.2.2.1,L.2.2.2.2.2.1,L.2.2.2.2.2.2.1,L.2.2.2.2.2.2.2.1,L.2.2.2.2.2.2.2.2) a b=_:=eH
 have hsh:∀x y,a<=x->x<=y->y<b->NoC H x y->shK (zAt zs L.2.1) L x=shK (zAt zs L.2.1) L y:=λx y h1 h2 h3 hn=>
  jyN hz hRt omg_ h2 omg_ (λj v hj hv hc=>hn v (mH j v hj hv omg_ omg_) hc)
 obtain⟨W,eW,lW,hW⟩:∃W:SL,((L.2.2.2.2.2.2.1.length:E)>0->jdP (zAt zs L.2.1) L.2.2.2.2.2.2.1 a b=Â (W,0))/\W.length<=100/\
   ((L.2.2.2.2.2.2.1.length:E)>0->∀x y,a<=x->x<=y->y<b->NoC (brW W) x y->hasB (secD (locD (zAt zs L.2.1) x)) L.2.2.2.2.2.2.1=hasB (secD (locD (zAt zs L.2.1) y)) L.2.2.2.2.2.2.1):=by
  by_cases hw:(L.2.2.2.2.2.2.1.length:E)>0
  .obtain⟨W,e,s1,s2,s3,s4⟩:=jtV h4 (Nat.le_trans hl4 omg_) (r5ck hL.w hL.wl) hL.w hL.wl (M:=5) omg_ ha hab hb omg_ omg_;have hwl:W.length<=3*6*5:=Nat.le_trans s3 (Nat.mul_le_mul (Nat.mul_le_mul hL.w3 omg_) omg_);rw[if_neg omg_]at e;refine⟨W,λ_=>e,omg_,λ_ x y h1 h2 h3 hn=>?_⟩;have hin:=jyO (W:=W) h2 (λu hu=>⟨hn u.1 (List.mem_flatMap.2 ⟨u,hu,smp_⟩),hn u.2 (List.mem_flatMap.2 ⟨u,hu,smp_⟩)⟩);obtain⟨i,i0,i1,i2⟩:=jaq hz.ztab.2 (t:=x) omg_ omg_;obtain⟨j,j0,j1,j2⟩:=jaq hz.ztab.2 (t:=y) omg_ omg_;rw[s4 i i0 x h1 omg_ i1 i2,s4 j j0 y omg_ h3 j1 j2]at hin;rw[(jo8 hz omg_ omg_ i0 i1 i2).2,(jo8 hz omg_ omg_ j0 j1 j2).2];exact Bool.eq_iff_iff.2 hin
  .exact⟨[],λh=>absurd h hw,smp_,λh=>absurd h hw⟩
 have hok:∀x y,a<=x->x<=y->y<b->((L.2.2.2.2.2.2.1.length:E)>0->NoC (brW W) x y)->okW L.2.2.2.2.2.2.1 (secD (locD (zAt zs L.2.1) x))=okW L.2.2.2.2.2.2.1 (secD (locD (zAt zs L.2.1) y)):=λx y h1 h2 h3 hn=>by
  unfold okW;by_cases hw:(L.2.2.2.2.2.2.1.length:E)>0
  .rw[j00 hw,j6,j6];exact hW hw x y h1 h2 h3 (hn hw)
  .rw[j01 hw,j7,j7]
 have hall:∀out:U E,(∀c∈H,c∈out)->((L.2.2.2.2.2.2.1.length:E)>0->∀c∈brW W,c∈out)->
   (L.2.2.2.2.2.2.2.2≠0->∀c∈(tb (zAt zs (cAt cs L.2.2.2.2.2.2.2.1).2.1)).2.map (·.1)++(cAt cs L.2.2.2.2.2.2.2.1).2.2.flatMap (dyB (zAt zs (cAt cs L.2.2.2.2.2.2.2.1).2.1)),c∈out)->
   ∀x y,a<=x->x<=y->y<b->NoC out x y->perX zs cs L x=perX zs cs L y:=λout m1 m2 m3 x y h1 h2 h3 hn=>by
  have e1:=hsh x y h1 h2 h3 (λc hc=>hn c (m1 c hc));have e2:=hok x y h1 h2 h3 (λhw c hc=>hn c (m2 hw c hc));have e3:=jx4 hs hL (x:=x) (y:=y) omg_ h2 omg_ (λhm c hc=>hn c (m3 hm c hc));have eon:onX zs cs L x=onX zs cs L y:=by unfold onX;rw[e1,e2,e3]
  unfold perX;rw[eon,e1]
 have hcal:∀acc:U E,acc.length<=2390000->L.2.2.2.2.2.2.2.2≠0->∃out,(cond (inR L.2.2.2.2.2.2.2.1 cs.length) (cond (inR (cs.getD L.2.2.2.2.2.2.2.1.toNat (F,0,[])).2.1 zs.length)
   ((
    j0q ((zs.getD (cs.getD L.2.2.2.2.2.2.2.1.toNat (F,(0:E),([]:U E))).2.1.toNat (F,0,[])).1,(zs.getD (cs.getD L.2.2.2.2.2.2.2.1.toNat (F,(0:E),([]:U E))).2.1.toNat (F,0,[])).2.1,(zs.getD (cs.getD L.2.2.2.2.2.2.2.1.toNat (F,(0:E),([]:U E))).2.1.toNat (F,0,[])).2.2)).bind λr88=>
    (jae 0 zs ps cs ss (cs.getD L.2.2.2.2.2.2.2.1.toNat (F,0,[])).1 (cs.getD L.2.2.2.2.2.2.2.1.toNat (F,0,[])).2.1 (cs.getD L.2.2.2.2.2.2.2.1.toNat (F,0,[])).2.2 acc r88.1).bind λq2=>
     (jcg 0 q2.1 q2.2.1 q2.2.2.1 q2.2.2.2.1 q2.2.2.2.2.1 q2.2.2.2.2.2.1 q2.2.2.2.2.2.2.1 q2.2.2.2.2.2.2.2).bind λq4=>Â q4) Ð) Ð)=Â out/\out.length<=2400000/\(∀c∈acc,c∈out)/\
   ∀c∈(tb (zAt zs (cAt cs L.2.2.2.2.2.2.2.1).2.1)).2.map (·.1)++(cAt cs L.2.2.2.2.2.2.2.1).2.2.flatMap (dyB (zAt zs (cAt cs L.2.2.2.2.2.2.2.1).2.1)),c∈out:=λacc hacc hm=>by
  have hc:=hL.cal hm;have hx:CCk zs.length (cAt cs L.2.2.2.2.2.2.2.1):=cget hs hc.1 hc.2;have hzc:ZOk (zAt zs (cAt cs L.2.2.2.2.2.2.2.1).2.1):=zget hs.so.ok hx.z0 hx.z1;have hlc:(tb (zAt zs (cAt cs L.2.2.2.2.2.2.2.1).2.1)).2.length<=4:=jd8 hzc;have hxl:=hx.len;have e2:=jDc (zs:=zs) (ps:=ps) (cs:=cs) (ss:=ss) (x:=cAt cs L.2.2.2.2.2.2.2.1) (T:=(tb (zAt zs (cAt cs L.2.2.2.2.2.2.2.1).2.1)).2) omg_ (tb (zAt zs (cAt cs L.2.2.2.2.2.2.2.1).2.1)).2.length 0 acc omg_ omg_;have e4:=jDd (ps:=ps) (cs:=cs) (ss:=ss) hs.so.ok hx (cAt cs L.2.2.2.2.2.2.2.1).2.2.length 0 (acc++(tb (zAt zs (cAt cs L.2.2.2.2.2.2.2.1).2.1)).2.map (·.1)) omg_ (by rw[I,È];omega);rw[show ((0:Ä):E)=0 from rfl,Y]at e2 e4
  have hfl:∀ds:U E,(ds.flatMap (dyB (zAt zs (cAt cs L.2.2.2.2.2.2.2.1).2.1))).length<=10*ds.length:=λds=>by
   induction ds with
   |nil=>simp
   |cons d r ih=>have:=jx3 hzc d;rw[List.flatMap_cons,I,Å];omega
  have hf:=hfl (cAt cs L.2.2.2.2.2.2.2.1).2.2;rw[j0X hc.1 hc.2,show inR (cs.getD L.2.2.2.2.2.2.2.1.toNat (F,0,[])).2.1 zs.length=true from j0X hx.z0 hx.z1];simp only[j6];rw[show j0q ((zs.getD (cs.getD L.2.2.2.2.2.2.2.1.toNat (F,(0:E),([]:U E))).2.1.toNat (F,0,[])).1,(zs.getD (cs.getD L.2.2.2.2.2.2.2.1.toNat (F,(0:E),([]:U E))).2.1.toNat (F,0,[])).2.1,(zs.getD (cs.getD L.2.2.2.2.2.2.2.1.toNat (F,(0:E),([]:U E))).2.1.toNat (F,0,[])).2.2)=_ from hzc.zref.2.1.1];simp only[j4];rw[show jae 0 zs ps cs ss (cs.getD L.2.2.2.2.2.2.2.1.toNat (F,0,[])).1 (cs.getD L.2.2.2.2.2.2.2.1.toNat (F,0,[])).2.1 (cs.getD L.2.2.2.2.2.2.2.1.toNat (F,0,[])).2.2 acc _=_ from e2];simp only[j4];rw[e4];refine⟨_,rfl,?_,λc h=>?_,λc h=>?_⟩
  .rw[I,I,È];omega
  .exact À _ (À _ h)
  .rcases List.mem_append.1 h with h|h
   .exact À _ (Z _ h)
   .exact Z _ h
 simp only[jhY];rw[j0X hL.z0 hL.z1,j6,eH'];simp only[j4,Æ,É,Nat.zero_add];rw[j00 (show H.length<=j02 by unfold j02;omega),j6];by_cases hw:(L.2.2.2.2.2.2.1.length:E)>0
 .have e0:=jDb (zs:=zs) (ps:=ps) (cs:=cs) (ss:=ss) (L:=L) (W:=W) omg_ W.length 0 H omg_ omg_;rw[show ((0:Ä):E)=0 from rfl,Y]at e0;rw[j00 (show R L.2.2.2.2.2.2.1.length>0 from hw),j6];rw[show jdP ((zs.getD L.2.1.toNat (F,0,[])).1,(zs.getD L.2.1.toNat (F,0,[])).2.1,(zs.getD L.2.1.toNat (F,0,[])).2.2) L.2.2.2.2.2.2.1 a b=_ from eW hw];simp only[j4,e0];have hbl:=jBw W;by_cases hm:L.2.2.2.2.2.2.2.2=0
  .rw[j43 hm,j6];refine⟨_,rfl,by rw[I];omega,hall _ (λc h=>À _ h) (λ_ c h=>Z _ h) (λh=>absurd hm h)⟩
  .rw[j1G hm,j7];obtain⟨out,eo,lo,mo1,mo2⟩:=hcal (H++brW W) (by rw[I];omega) hm;exact⟨out,eo,lo,hall out (λc h=>mo1 c (À _ h)) (λ_ c h=>mo1 c (Z _ h)) (λ_=>mo2)⟩
 .rw[j01 (show¬R L.2.2.2.2.2.2.1.length>0 from hw),j7];by_cases hm:L.2.2.2.2.2.2.2.2=0
  .rw[j43 hm,j6];exact⟨H,rfl,omg_,hall _ (λc h=>h) (λh=>absurd h hw) (λh=>absurd hm h)⟩
  .rw[j1G hm,j7];obtain⟨out,eo,lo,mo1,mo2⟩:=hcal H omg_ hm;exact⟨out,eo,lo,hall out mo1 (λh=>absurd h hw) (λ_=>mo2)⟩
end
theorem jrf{l:SgL}(hl:l.length<=100000000)(x:SgT):jga l x=Â (mgA l x):=by
 simp only[jga,jbr,mgA];by_cases hx:x.2.1<=x.1
 .rw[j00 hx,if_pos hx,j6]
 rw[j01 hx,if_neg hx,j7,oLn_ l];rcases List.eq_nil_or_concat l with rfl|⟨r,u,rfl⟩
 .rfl
 rw[List.concat_eq_append]at hl ⊢;have hlen:(r++[u]).length=r.length+1:=smp_;rw[hlen]at hl ⊢;have hgd:(r++[u]).getD r.length (0,0,0)=u:=by simp[Á]
 rw[j00 (show ((r.length+1:Ä):E)>0 by omega),j05 (x:=((r.length+1:Ä):E)-1),j0O,show (((r.length+1:Ä):E)-1).toNat=r.length by omega,hgd];simp only[j6,List.getLast?_append,List.getLast?_singleton,Option.some_or,List.dropLast_concat];rw[j00 (show r.length+1+[(x.1,x.2.1,x.2.2)].length<=j02 by simp[j02];omega)];simp only[j6];by_cases h1:u.2.1=x.1
 .rw[j43 h1,j6];by_cases h2:u.2.2=x.2.2
  .rw[j43 h2,if_pos ⟨h1,h2⟩,j6];congr 1;simp
  .rw[j1G h2,if_neg (λh=>h2 h.2),j7]
 .rw[j1G h1,if_neg (λh=>h1 h.1),j7]
theorem jx6{x y p:E}:∀es:U j1D,(∀e∈es,(e.2.2.2.1<=x↔e.2.2.2.1<=y)/\(e.2.2.2.2<=x↔e.2.2.2.2<=y))->jb4 es p x=jb4 es p y
 |[],_=>rfl
 |e::r,h=>by
  have h1:=h e smp_;have ih:=jx6 (p:=p) r (λu hu=>h u (by simp[hu]));unfold jb4 at ih ⊢;have a1:decide (e.2.2.2.1<=x)=decide (e.2.2.2.1<=y):=decide_eq_decide.2 h1.1;have a2:decide (x<e.2.2.2.2)=decide (y<e.2.2.2.2):=decide_eq_decide.2 omg_;simp only[List.any_cons];rw[a1,a2,ih]
theorem jx7{zs:U j0D}{cs:U CalT}{s:j0r}{x y:E}(hxy:x<=y)(hp:∀L∈s.2.1,perX zs cs L x=perX zs cs L y)(he:NoC (edB s.2.2) x y):whoS zs cs s x=whoS zs cs s y:=by
 have hed:∀e∈s.2.2,(e.2.2.2.1<=x↔e.2.2.2.1<=y)/\(e.2.2.2.2<=x↔e.2.2.2.2<=y):=λe hm=>by
  have a:=he e.2.2.2.1 (List.mem_flatMap.2 ⟨e,hm,smp_⟩);have b:=he e.2.2.2.2 (List.mem_flatMap.2 ⟨e,hm,smp_⟩);exact⟨omg_,omg_⟩
 unfold whoS;rw[jgh (u:=y) (pg:=pfX zs cs s.2.1 y) (λi hi=>?_) (λp=>jx6 s.2.2 hed)]
 .exact jbF s.2.2 _ (λe hm=>by have:=hed e hm;exact⟨this.1.symm,this.2.symm⟩)
 .unfold pfX;have hgd:s.2.1.getD i (F,0,(0,0),0,0,[],[],0,0)=s.2.1[i]:=by simp[Á,hi]
  rw[hgd];exact hp _ (X hi)
section
variable{zs:U j0D}{ps:U j0h}{cs:U CalT}(hs:SOk2 zs ps cs)
include hs
theorem jyQ{ss:U j0r}(hc:j6O (zs,ps,cs,ss)){i:Ä}(hi:i<ss.length){t:E}(h0:0<=t)(h1:t<=8589934592):jgY (zs,ps,cs,ss) (i:E) t=Â (whoS zs cs ss[i] t):=by
 have hsc:=hc.sc _ (X hi);have hll:=hsc.ll;have hel:=hsc.el;have hgs:ss.getD i (F,[],[])=ss[i]:=by simp[Á,hi]
 have lp:=jr6 hs (ss:=ss) (nm:=ss[i].1) (es:=ss[i].2.2) omg_ omg_ hsc.ly h0 h1 ss[i].2.1.length (Nat.le_refl _)
 have et:∃k,jiR (zs,ps,cs,ss) (i:E) t=Â (k,topP ss[i].2.2 t (pfX zs cs ss[i].2.1 t) ss[i].2.1.length):=by
  simp only[jiR];rw[j0O];simp only[j6,j8,hgs,show R ss[i].2.1.length=(ss[i].2.1.length:E) from rfl];rw[j05 (x:=(ss[i].2.1.length:E)-1),show jdO t ((ss[i].2.1.length:E)-1) zs ps cs ss ss[i].1 ss[i].2.1 ss[i].2.2=_ from lp];simp only[j4,topP];cases topI (j6P ss[i].2.2 t (pfX zs cs ss[i].2.1 t)) ss[i].2.1.length with
  |none=>exact⟨_,rfl⟩
  |some k=>exact⟨_,rfl⟩
 obtain⟨k,et⟩:=et;have ef:=jwI (es:=ss[i].2.2) omg_ (t:=t) ss[i].2.2.length 0 (topP ss[i].2.2 t (pfX zs cs ss[i].2.1 t) ss[i].2.1.length) omg_;rw[Y]at ef;simp only[jgY,et,j4];rw[j0O];simp only[j6,j8,hgs,jk0];rw[show jce ss[i].2.2 (topP ss[i].2.2 t (pfX zs cs ss[i].2.1 t) ss[i].2.1.length) t 0=_ from ef];rfl
theorem jA2{ss:U j0r}{nm:ByteArray}{ls:U j0b}{es:U j1D}(hl:ls.length<=6)(hL:∀L∈ls,LCk zs.length ps.length cs.length L){a b:E}(ha:0<=a)(hab:a<=b)(hb:b<=8589934592)(hlen:b-a<=2592000) :
  ∀(n i:Ä)(acc:U E),i+n=ls.length->acc.length+2400000*n<=20000000->
  ∃out,jh3 a b (i:E) zs ps cs ss nm ls es acc=Â (a,b,nm,ls,es,out)/\out.length<=acc.length+2400000*n/\(∀c∈acc,c∈out)/\∀L∈ls.drop i,∀x y,a<=x->x<=y->y<b->NoC out x y->perX zs cs L x=perX zs cs L y
 |0,i,acc,hi,_=>by
  rw[jgy];simp only[j6L,show R ls.length=(ls.length:E) from rfl];rw[j01 omg_,j7,j06,J omg_];exact⟨acc,rfl,omg_,λc h=>h,λL h=>by simp at h⟩
 |n+1,i,acc,hi,hacc=>by
  have hlt:i<ls.length:=omg_;have hgd:ls.getD i (F,0,(0,0),0,0,[],[],0,0)=ls[i]:=by simp[Á,hlt]
  obtain⟨C,eC,lC,pC⟩:=jx5 hs (ss:=ss) (hL _ (X hlt)) ha hab hb hlen;obtain⟨out,e1,e2,e3,e4⟩:=jA2 (ss:=ss) (nm:=nm) (es:=es) hl hL ha hab hb hlen n (i+1) (acc++C) omg_ (by rw[I];omega);rw[jgy,G hlt];simp only[j6L,show R ls.length=(ls.length:E) from rfl];rw[j00 (show (i:E)<(ls.length:E) by omega),j0O,j05 (x:=(i:E)+1)];simp only[j6,j8,hgd];rw[show jhY (zs,ps,cs,ss) (ls[i].1,ls[i].2.1,(ls[i].2.2.1.1,ls[i].2.2.1.2),ls[i].2.2.2.1,ls[i].2.2.2.2.1,ls[i].2.2.2.2.2.1,ls[i].2.2.2.2.2.2.1,ls[i].2.2.2.2.2.2.2.1,ls[i].2.2.2.2.2.2.2.2) a b=_ from eC];simp only[j4];rw[j00 (show acc.length+C.length<=j02 by unfold j02;omega),j6,j03];refine⟨out,e1,by rw[I]at e2;omega,λc h=>e3 c (À _ h),λL hm x y h1 h2 h3 hn=>?_⟩;rcases List.mem_cons.1 hm with rfl|hm
  .exact pC x y h1 h2 h3 (λc hc=>hn c (e3 c (Z _ hc)))
  .exact e4 L hm x y h1 h2 h3 hn
omit hs in
theorem jA3{nm:ByteArray}{ls:U j0b}{es:U j1D}(hl:es.length<=100){a b:E}:∀(n i:Ä)(acc:U E),i+n=es.length->acc.length+2*n<=40000000->
  jh4 a b (i:E) nm ls es acc=Â (a,b,acc++edB (es.drop i))
 |0,i,acc,hi,_=>by
  rw[jgz,J omg_];simp only[j6M,show R es.length=(es.length:E) from rfl];rw[j01 omg_,j7,j06];simp[edB]
 |n+1,i,acc,hi,ha=>by
  have hlt:i<es.length:=omg_;have hgd:es.getD i (0,0,0,0,0)=es[i]:=by simp[Á,hlt]
  have ih:=jA3 (nm:=nm) (ls:=ls) hl (a:=a) (b:=b) n (i+1) (acc++[es[i].2.2.2.1,es[i].2.2.2.2]) omg_ sqo_;rw[Ã]at ih;rw[jgz,G hlt];simp only[j6M,show R es.length=(es.length:E) from rfl];rw[j00 (show (i:E)<(es.length:E) by omega),j0O,j05 (x:=(i:E)+1)];simp only[j6,j8,hgd];rw[j00 (by simp[j02];omega),j6,j03];exact ih
theorem jx8{ss:U j0r}(hc:j6O (zs,ps,cs,ss)){i:Ä}(hi:i<ss.length){a b:E}(ha:0<=a)(hab:a<=b)(hb:b<=8589934592)(hlen:b-a<=2592000) :
  ∃B,jk1 (zs,ps,cs,ss) (i:E) a b=Â B/\B.Pairwise (· < ·)/\B.length<=40000000/\(∀x∈B,a<=x/\x<=b)/\(∃r,B=a::r)/\(B.getD (B.length-1) 0=b)/\
   ∀x y,x∈B->x<=y->y<b->(∀c∈B,¬(x<c/\c<=y))->whoS zs cs ss[i] x=whoS zs cs ss[i] y:=by
 have hsc:=hc.sc _ (X hi);have hll:=hsc.ll;have hel:=hsc.el;have hgs:ss.getD i (F,[],[])=ss[i]:=by simp[Á,hi]
 obtain⟨C,e1,e2,_,e4⟩:=jA2 hs (ss:=ss) (nm:=ss[i].1) (es:=ss[i].2.2) hll hsc.ly ha hab hb hlen ss[i].2.1.length 0 [] omg_ sqo_;have e5:=jA3 (nm:=ss[i].1) (ls:=ss[i].2.1) (es:=ss[i].2.2) omg_ (a:=a) (b:=b) ss[i].2.2.length 0 C omg_ (by simp at e2;omega);rw[show ((0:Ä):E)=0 from rfl,Y]at e5;rw[show ((0:Ä):E)=0 from rfl]at e1;rw[Y]at e4;have hel2:=jjb ss[i].2.2;simp only[É,Nat.zero_add]at e2;have hcl:(C++edB ss[i].2.2).length<=39000000:=by rw[I];omega
 obtain⟨b1,b2,b3,b4,b5,b6,b7⟩:=jBv (C++edB ss[i].2.2) hab;refine⟨bord (C++edB ss[i].2.2) a b,?_,b1,omg_,b3,b5,?_,λx y hx hxy hyb hn=>?_⟩
 .simp only[jk1];rw[j0O];simp only[j6,j8,hgs,e1,e5,j4,jtW (show (C++edB ss[i].2.2).length<=49000000 by omega) a b]
 .by_cases h:a<b
  .obtain⟨r,hr⟩:=b6 h;rw[hr];simp[Á]
  .rw[b7 omg_];show a=b;omega
 .have hxa:=b3 x hx;have hno:NoC (C++edB ss[i].2.2) x y:=λc hc hcc=>hn c (b4 c hc omg_ omg_) hcc;exact jx7 hxy (λL hm=>e4 L hm x y hxa.1 hxy hyb hno.left) hno.right
omit hs in
theorem jx9{f:E->E}{ss:U j0r}{i:Ä}{B:U E}(hBl:B.length<=50000000)(hB:B.Pairwise (· < ·))(hraw:∀t∈B,jgY (zs,ps,cs,ss) (i:E) t=Â (f t)){a b:E}(hlast:B.getD (B.length-1) 0=b)
  (hsame:∀x y,x∈B->x<=y->y<b->(∀c∈B,¬(x<c/\c<=y))->f x=f y):∀(n j:Ä)(acc:SgL),j+1+n=B.length->acc.length<=j->Cov f (B.getD j 0) Ð a acc->
  ∃out,jen (i:E) (j:E) zs ps cs ss B acc=Â out/\Cov f b Ð a out
 |0,j,acc,hj,ha,hC=>by
  rw[jeO];simp only[j5f,show R B.length=(B.length:E) from rfl];rw[j05 (x:=(j:E)+1),j01 omg_,j7,j06];refine⟨acc,rfl,?_⟩;rw[<-hlast,show B.length-1=j by omega];exact hC
 |n+1,j,acc,hj,ha,hC=>by
  have h1:j<B.length:=omg_;have h2:j+1<B.length:=omg_;have g1:B.getD j (0:E)=B[j]:=by simp[Á,h1]
  have g2:B.getD (j+1) (0:E)=B[j+1]:=by simp[Á,h2]
  have hpw:=List.pairwise_iff_getElem.1 hB;have hlt:B[j]<B[j+1]:=hpw j (j+1) h1 h2 omg_
  have hle:B[j+1]<=b:=by
   have gl:B.getD (B.length-1) (0:E)=B[B.length-1]:=by simp[Á,show B.length-1<B.length by omega]
   rw[gl]at hlast;by_cases he:j+1=B.length-1
   .have:B[j+1]=B[B.length-1]:=by congr 1
    omega
   .have:=hpw (j+1) (B.length-1) h2 omg_ omg_;omega
  have hconst:∀t,B[j]<=t->t<B[j+1]->f t=f B[j]:=λt t1 t2=>(hsame B[j] t (X h1) t1 omg_ (λc hc hcc=>by
   obtain⟨m,hm,rfl⟩:=List.mem_iff_getElem.1 hc;by_cases hmj:m<=j
   .by_cases he:m=j
    .subst he;omega
    .have:=hpw m j hm h1 omg_;omega
   .by_cases he:m=j+1
    .subst he;omega
    .have:=hpw (j+1) m h2 hm omg_;omega)).symm
  rw[g1]at hC;have hC2:=jzy hC (s:=(B[j],B[j+1],f B[j])) rfl (by show B[j]<=B[j+1];omega) (λt t1 t2=>hconst t t1 t2)
  have hml:(mgA acc (B[j],B[j+1],f B[j])).length<=acc.length+1:=by
   unfold mgA;split
   .omega
   .split
    .split
     .simp
     .simp
    .simp
  have ih:=jx9 hBl hB hraw hlast hsame n (j+1) (mgA acc (B[j],B[j+1],f B[j])) omg_ omg_ (by rw[g2];exact hC2);rw[jeO];simp only[j5f,show R B.length=(B.length:E) from rfl];rw[j05 (x:=(j:E)+1),j00 (show (j:E)+1<(B.length:E) by omega),j0X (show (0:E)<=(j:E) by omega) omg_,j0X (show (0:E)<=(j:E)+1 by omega) omg_,show ((j:E)+1).toNat=j+1 by omega];simp only[j6,j8,g1,g2,hraw _ (X h1),j4,jrf (show acc.length<=100000000 by omega),j03];exact ih
theorem jrg{ss:U j0r}(hc:j6O (zs,ps,cs,ss)){i:Ä}(hi:i<ss.length){a b:E}(ha:0<=a)(hab:a<=b)(hb:b<=8589934592)(hlen:b-a<=2592000) :
  ∃S,jgb (zs,ps,cs,ss) (i:E) a b=Â S/\Cov (whoS zs cs ss[i]) b Ð a S:=by
 obtain⟨B,e1,e2,e3,e4,⟨r,e5⟩,e6,e7⟩:=jx8 hs hc hi ha hab hb hlen;have hpos:0<B.length:=by rw[e5];simp
 obtain⟨S,f1,f2⟩:=jx9 (f:=whoS zs cs ss[i]) (ss:=ss) (i:=i) (B:=B) omg_ e2 (λt ht=>jyQ hs hc hi (by have:=e4 t ht;omega) (by have:=e4 t ht;omega)) (a:=a) e6 e7 (B.length-1) 0 [] omg_ smp_ (by rw[e5];rfl);rw[show ((0:Ä):E)=0 from rfl]at f1;refine⟨S,?_,f2⟩;simp only[jgb,e1,f1,j4]
theorem jtX{ss:U j0r}(hc:j6O (zs,ps,cs,ss)){i:Ä}(hi:i<ss.length){a b:E}(ha:0<=a)(hab:a<=b)(hb:b<=8589934592)(hlen:b-a<=34560000):jhW (zs,ps,cs,ss) (i:E) a b=Â 0:=by
 have e8:=jCV hc (jCY hs);have er:j87 a b=Â true:=by simp only[j87];rw[j00 (show a>=0 from ha),j00 (show a<=8589934592 by omega),j00 (show b>=a from hab),j00 hb,j05 (x:=b-a),j00 hlen];rfl
 simp only[jhW,show jdM (zs,ps,cs,ss)=_ from e8,j4,bne_self_eq_false,j7,show R ss.length=(ss.length:E) from rfl];rw[j01 (show¬(i:E)<0 by omega),j01 (show¬(i:E)>=(ss.length:E) by omega)];simp only[j7,er,j4,Bool.not_true]
theorem jxa{ss:U j0r}(hc:j6O (zs,ps,cs,ss)){i:Ä}(hi:i<ss.length){a b:E}(ha:0<=a)(hab:a<=b)(hb:b<=8589934592)(hlen:b-a<=2592000){S:SgL}(hS:Cov (whoS zs cs ss[i]) b Ð a S)(hl:S.length<=16384) :
  jd2 (zs,ps,cs,ss) (i:E) a b=Â (S,0):=by
 obtain⟨S',e1,e2⟩:=jrg hs hc hi ha hab hb hlen;have:=e2.uniq hS;subst this;simp only[jd2,jtX hs hc hi ha hab hb omg_,e1,j4,bne_self_eq_false,j7,show R S'.length=(S'.length:E) from rfl];rw[j01 omg_,j7]
omit hs in
theorem jrh{p:E}{S:SgL}(hl:S.length<=16384):∀(n j:Ä)(acc:SL),j+n=S.length->acc.length<=j->jd3 p (j:E) S acc=Â (acc++((S.drop j).filter (λx=>x.2.2==p)).map λx=>(x.1,x.2.1))
 |0,j,acc,hj,_=>by
  rw[jfA,J omg_];simp only[j5W,show R S.length=(S.length:E) from rfl];rw[j01 omg_,j7,j06];simp
 |n+1,j,acc,hj,ha=>by
  have hlt:j<S.length:=omg_;have hgd:S.getD j (0,0,0)=S[j]:=by simp[Á,hlt]
  rw[jfA,G hlt];simp only[j5W,show R S.length=(S.length:E) from rfl];rw[j00 (show (j:E)<(S.length:E) by omega),j0O,j05 (x:=(j:E)+1)];simp only[j6,j8,hgd];cases hq:(S[j].2.2==p) with
  |true=>have ih:=jrh (p:=p) hl n (j+1) (acc++[(S[j].1,S[j].2.1)]) omg_ sqo_;rw[Ã]at ih;rw[List.filter_cons_of_pos (by simpa using hq),j00 (by simp[j02];omega)];simp only[j6,j03];exact ih
  |false=>rw[List.filter_cons_of_neg (by simp[hq])];simp only[j7,j03];exact jrh hl n (j+1) acc omg_ omg_
def tmP(p:E)(S:SgL):SL:=(S.filter (λx=>x.2.2==p)).map λx=>(x.1,x.2.1)
theorem jtY{ss:U j0r}(hc:j6O (zs,ps,cs,ss)){i:Ä}(hi:i<ss.length){a b:E}(ha:0<=a)(hab:a<=b)(hb:b<=8589934592)(hlen:b-a<=2592000){S:SgL}(hS:Cov (whoS zs cs ss[i]) b Ð a S)(hl:S.length<=4096)(p:E) :
  jfB (zs,ps,cs,ss) (i:E) p a b=Â (tmP p S,0):=by
 have e:=jrh (p:=p) (S:=S) omg_ S.length 0 [] omg_ smp_;rw[show ((0:Ä):E)=0 from rfl,Y,Æ]at e;have hlt:(tmP p S).length<=S.length:=by unfold tmP;rw[È];exact List.length_filter_le _ _
 simp only[jfB,jxa hs hc hi ha hab hb hlen hS omg_,j4,bne_self_eq_false,j7];rw[show jd3 p 0 S []=Â (tmP p S) from e];simp only[j4,show R (tmP p S).length=((tmP p S).length:E) from rfl];rw[j01 omg_,j7]
end
section
variable{zs:U j0D}{ps:U j0h}{cs:U CalT}{s:j0r}
end
def wk1(t:E)(s:E×E):Int:=max 0 (min s.2 t-max s.1 (t-604800))
def wkd(t:E):SL->E
 |[]=>0
 |s::r=>wk1 t s+wkd t r
def ind(t:E)(s:E×E):Int:=if s.1<=t/\t<s.2 then 1 else 0
def chi(t:E):SL->E
 |[]=>0
 |s::r=>ind t s+chi t r
theorem jyR{t:E}{s:E×E}(h:s.1<s.2):wk1 (t+1) s=wk1 t s+ind t s-ind (t-604800) s:=by
 unfold wk1 ind;split<;>split<;>omega
theorem jA4{t:E}{s:E×E}:0<=wk1 t s:=by unfold wk1;omega
theorem jsv{t:E}:∀{l:SL},0<=wkd t l
 |[]=>by simp[wkd]
 |s::r=>by
  have:=jsv (t:=t) (l:=r);have:=jA4 (t:=t) (s:=s);simp only[wkd];omega
theorem jsw{t:E}:∀{l:SL}{p:E},StS p l->wkd (t+1) l=wkd t l+chi t l-chi (t-604800) l
 |[],_,_=>by simp[wkd,chi]
 |s::r,p,h=>by
  have ih:=jsw (t:=t) (l:=r) h.2.2;have:=jyR (t:=t) h.2.1;simp only[wkd,chi];omega
theorem jxb{t:E}:∀{l:SL}{p:E},StS p l->t<=p->chi t l=0
 |[],_,_,_=>by simp[chi]
 |s::r,p,h,ht=>by
  have h1:=h.1;have h2:=h.2.1;have ih:=jxb (t:=t) (l:=r) h.2.2 omg_;simp only[chi,ind];rw[ih,if_neg omg_];rfl
theorem jxc{t:E}:∀{l:SL}{p:E},StS p l->0<=chi t l/\chi t l<=1
 |[],_,_=>by simp[chi]
 |s::r,p,h=>by
  have ih:=jxc (t:=t) (l:=r) h.2.2;simp only[chi,ind];split
  .rename_i hq;rw[jxb (t:=t) (l:=r) h.2.2 omg_];omega
  .omega
theorem jo9{a t:E}(hat:a<=t):∀{l:SL},(∀s∈l,¬(a<s.1/\s.1<=t)/\¬(a<s.2/\s.2<=t))->chi t l=chi a l
 |[],_=>by simp[chi]
 |s::r,h=>by
  have ih:=jo9 hat (l:=r) (λu hu=>h u (by simp[hu]));have:=h s smp_;simp only[chi,ind];rw[ih];congr 1;by_cases h1:s.1<=a/\a<s.2
  .rw[if_pos h1,if_pos omg_]
  .rw[if_neg h1,if_neg omg_]
theorem jsx{t:E}:∀{l:SL}{p:E},StS p l->wkd t l<=max 0 (t-max (p+1) (t-604800))
 |[],_,_=>by simp only[wkd];omega
 |s::r,p,h=>by
  have h1:=h.1;have h2:=h.2.1;have ih:=jsx (t:=t) (l:=r) h.2.2;simp only[wkd,wk1];omega
def NoB(l:SL)(a b:E):Prop:=∀s∈l,(¬(a<s.1/\s.1<b)/\¬(a<s.2/\s.2<b))/\¬(a<s.1+604800/\s.1+604800<b)/\¬(a<s.2+604800/\s.2+604800<b)
theorem jxd{l:SL}{p:E}(h:StS p l){a b:E}(hB:NoB l a b):∀j:Ä,a+j<=b->wkd (a+j) l=wkd a l+j*(chi a l-chi (a-604800) l)
 |0,_=>smp_
 |j+1,hj=>by
  have ih:=jxd h hB j omg_;have e1:=jo9 (a:=a) (t:=a+j) omg_ (l:=l) (λs hs=>by have:=(hB s hs).1;omega);have e2:=jo9 (a:=a-604800) (t:=a+j-604800) omg_ (l:=l) (λs hs=>by have:=(hB s hs).2;omega);have:=jsw (t:=a+j) h;rw[show a+((j+1:Ä):E)=a+(j:E)+1 by omega,this,ih,e1,e2,show ((j+1:Ä):E)=(j:E)+1 by omega,Int.add_mul,Int.one_mul];omega
theorem jBx{l:SL}{p:E}(h:StS p l){a b:E}(hab:a<=b)(hB:NoB l a b) :
  (∀t,a<=t->t<=b->wkd t l=wkd a l+(t-a))\/(∀t,a<=t->t<=b->wkd t l=wkd a l)\/(∀t,a<=t->t<=b->wkd t l=wkd a l-(t-a)):=by
 have c1:=jxc (t:=a) h;have c2:=jxc (t:=a-604800) h
 have key:∀t,a<=t->t<=b->wkd t l=wkd a l+(t-a)*(chi a l-chi (a-604800) l):=λt h1 h2=>by
  have:=jxd h hB (t-a).toNat omg_;rw[show a+((t-a).toNat:E)=t by omega,show ((t-a).toNat:E)=t-a by omega]at this;exact this
 have hd:chi a l-chi (a-604800) l=1\/chi a l-chi (a-604800) l=0\/chi a l-chi (a-604800) l = -1:=omg_;rcases hd with hd|hd|hd
 .refine .inl λt h1 h2=>?_;rw[key t h1 h2,hd,Int.mul_one]
 .refine .inr (.inl λt h1 h2=>?_);rw[key t h1 h2,hd];simp
 .refine .inr (.inr λt h1 h2=>?_);rw[key t h1 h2,hd];omega
theorem jDe{l:SL}(hl:l.length<=1000000){t:E}(ht0 : -1000000000000<=t)(ht1:t<=1000000000000)(hb:Sml l):∀(n i:Ä)(acc:E),i+n=l.length->0<=acc->acc+wkd t (l.drop i)<=604800->
  jaX t acc l (l.length:E) (i:E)=Â (acc+wkd t (l.drop i))
 |0,i,acc,hi,_,_=>by
  rw[jc0];simp(disch:=omega)only[j3G,J,S0];simp[wkd]
 |n+1,i,acc,hi,h0,hle=>by
  have hlt:i<l.length:=omg_;have hgd:l.getD i (0,0)=l[i]:=by simp[Á,hlt]
  rw[G hlt]at hle ⊢;have hs:=hb _ (X hlt);have hw:=jA4 (t:=t) (s:=l[i]);have hr:=jsv (t:=t) (l:=l.drop (i+1));simp only[wkd]at hle ⊢;have ih:=jDe hl ht0 ht1 hb n (i+1) (acc+wk1 t l[i]) omg_ omg_ omg_;rw[jc0];simp only[j3G];rw[j00 (show (i:E)<(l.length:E) by omega),j0O];simp only[j6,j8,hgd]
  have e:(if w64 ((if t<l[i].2 then t else l[i].2)-(if w64 (t-604800)>l[i].1 then w64 (t-604800) else l[i].1))>0 then w64 ((if t<l[i].2 then t else l[i].2)-(if w64 (t-604800)>l[i].1 then w64 (t-604800) else l[i].1)) else 0:E)=wk1 t l[i]:=by
   rw[j05 (x:=t-604800)];have e1:(if t<l[i].2 then t else l[i].2:E)=min l[i].2 t:=by split<;>omega
   have e2:(if t-604800>l[i].1 then t-604800 else l[i].1:E)=max l[i].1 (t-604800):=by split<;>omega
   rw[e1,e2,j05];unfold wk1;split<;>omega
  rw[e,j05 (x:=acc+wk1 t l[i]),j05 (x:=(i:E)+1),j03];rw[show ((i+1:Ä):E)=(i:E)+1 by omega]at ih;rw[ih];congr 1;omega
theorem jpL{l:SL}(hl:l.length<=1000000){t:E}(ht0 : -1000000000000<=t)(ht1:t<=1000000000000)(hb:Sml l){p:E}(h:StS p l):j9j l t=Â (wkd t l):=by
 have hle:=jsx (t:=t) h;have:=jDe hl ht0 ht1 hb l.length 0 0 omg_ omg_ (by simp only[Y];omega);simp(disch:=omega)only[j9j,S0];rw[show ((0:Ä):E)=0 from rfl,Y,Int.zero_add]at this;rw[this];rfl
def bor:SL->U E
 |[]=>[]
 |s::r=>s.1::s.2::(s.1+604800)::(s.2+604800)::bor r
theorem jxe:∀l:SL,(bor l).length=4*l.length
 |[]=>rfl
 |s::r=>by simp only[bor,Å,jxe r];omega
theorem jxf{x:E}:∀{l:SL},x∈bor l↔∃s∈l,x=s.1\/x=s.2\/x=s.1+604800\/x=s.2+604800
 |[]=>by simp[bor]
 |s::r=>by
  simp only[bor,List.mem_cons,jxf (l:=r),exists_eq_or_imp];constructor
  .rintro (h|h|h|h|h)
   .exact .inl (.inl h)
   .exact .inl (.inr (.inl h))
   .exact .inl (.inr (.inr (.inl h)))
   .exact .inl (.inr (.inr (.inr h)))
   .exact .inr h
  .rintro ((h|h|h|h)|h)
   .exact .inl h
   .exact .inr (.inl h)
   .exact .inr (.inr (.inl h))
   .exact .inr (.inr (.inr (.inl h)))
   .exact .inr (.inr (.inr (.inr h)))
theorem jDf{s0:SL}{m f t:E}{l:SL}(hl:l.length<=1000000)(hb:Sml l):∀(n i:Ä)(acc:U E),i+n=l.length->acc.length<=4*i->
  j9k s0 m f t l (l.length:E) (i:E) acc=Â (s0,m,f,t,acc++bor (l.drop i))
 |0,i,acc,hi,_=>by
  rw[jcR];simp(disch:=omega)only[j4c,J,S0];simp[bor]
 |n+1,i,acc,hi,ha=>by
  have hlt:i<l.length:=omg_;have hgd:l.getD i (0,0)=l[i]:=by simp[Á,hlt]
  have hs:=hb _ (X hlt);have ih:=jDf (s0:=s0) (m:=m) (f:=f) (t:=t) hl hb n (i+1) (acc++[l[i].1,l[i].2,l[i].1+604800,l[i].2+604800]) omg_ sqo_;rw[jcR];simp(disch:=omega)only[G hlt,j4c,bor,S0];rw[show ((i+1:Ä):E)=(i:E)+1 by omega]at ih;rw[ih];simp
structure WkO(l:SL)(m a b:E)(n:Ä)(O:U E):Prop where
 ok:∀e∈O,a<e/\e<=b/\wkd e l=m+1/\wkd (e-1) l=m
 pw:O.Pairwise (· < ·)
 all:O≠[]\/m<wkd a l\/∀t,a<=t->t<=b->wkd t l<=m
 len:2*O.length<=n+(if wkd a l<=m then 1 else 0)
theorem jyS{l:SL}(hl:l.length<=1000000)(hb:∀s∈l,0<=s.1/\s.2<=8589934592){p:E}(hS:StS p l){m b:E}(hm0:0<=m)(hm:m<=604800)(hb1:b<=8589934592){N:U E}(hN:N.length<=1000000)(hlast:∀(h:N≠[]),N.getLast h=b) :
  ∀(n j:Ä)(a:E)(out:U E),j+n=N.length->out.length<=j->0<=a->(n=0->a=b)->(∀x∈N.drop j,a<x/\x<=b)->(N.drop j).Pairwise (· < ·)->(∀x∈bor l,a<x->x<b->x∈N.drop j)->
  ∃O,j9l l m a (N.length:E) (j:E) out N=Â (out++O)/\WkO l m a b n O
 |0,j,a,out,hj,_,_,hab,_,_,_=>by
  refine⟨[],?_,⟨smp_,smp_,?_,smp_⟩⟩
  .rw[jcS];simp only[j4d];rw[j01 omg_,j7,j06,List.append_nil]
  .have:=hab rfl;by_cases h:m<wkd a l
   .exact .inr (.inl h)
   .exact .inr (.inr λt h1 h2=>by rw[show t=a by omega];omega)
 |n+1,j,a,out,hj,hol,ha0,_,hx,hpw,hbor=>by
  have hjl:j<N.length:=omg_;have hgd:N.getD j (0:E)=N[j]:=by simp[Á,hjl]
  rw[G hjl]at hx hpw hbor;have hx0:=hx N[j] List.mem_cons_self
  have hsml:Sml l:=λs hs=>by
   have h1:=hb s hs;have h2:=(hS.mem s hs).2;omega
  have hNB:NoB l a N[j]:=by
   have key:∀x∈bor l,¬(a<x/\x<N[j]):=λx hxb h=>by
    have hm:=hbor x hxb h.1 omg_;rcases List.mem_cons.1 hm with e|hm
    .omega
    .have:=(List.pairwise_cons.1 hpw).1 x hm;omega
   intro s hs;have k:=λx h=>key x (jxf.2 ⟨s,hs,h⟩);exact⟨⟨k _ (.inl rfl),k _ (.inr (.inl rfl))⟩,k _ (.inr (.inr (.inl rfl))),k _ (.inr (.inr (.inr rfl)))⟩
  have hseg:=jBx hS (Int.le_of_lt hx0.1) hNB;have wa:=jpL hl (t:=a) omg_ omg_ hsml hS;have wb:=jpL hl (t:=N[j]) omg_ omg_ hsml hS;have la:=jsx (t:=a) hS;have na:=jsv (t:=a) (l:=l);have lb:=jsx (t:=N[j]) hS;have nb:=jsv (t:=N[j]) (l:=l)
  have hn0:n=0->N[j]=b:=λh=>by
   have hne:N≠[]:=λe=>by rw[e]at hjl;simp at hjl
   rw[<-hlast hne,List.getLast_eq_getElem];congr 1;omega
  have hpw':=(List.pairwise_cons.1 hpw).2;have hx':∀x∈N.drop (j+1),N[j]<x/\x<=b:=λx h=>⟨(List.pairwise_cons.1 hpw).1 x h,(hx x (List.mem_cons_of_mem _ h)).2⟩
  have hbor':∀x∈bor l,N[j]<x->x<b->x∈N.drop (j+1):=λx h h1 h2=>by
   rcases List.mem_cons.1 (hbor x h omg_ h2) with e|e
   .omega
   .exact e
  rw[jcS];simp only[j4d];rw[j00 (show (j:E)<(N.length:E) by omega),j0O];simp only[j6,j8,hgd,wa,wb,j4];rw[j05 (x:=(j:E)+1)];by_cases hA:wkd a l<=m
  .rw[j00 hA,j6];by_cases hB:wkd N[j] l>m
   .obtain⟨O,e,hO⟩:=jyS hl hb hS hm0 hm hb1 hN hlast n (j+1) N[j] (out++[a+m-wkd a l+1]) omg_ sqo_ omg_ hn0 hx' hpw' hbor';rw[j00 hB,j6,j05 (x:=a+m),j05 (x:=a+m-wkd a l),j05 (x:=a+m-wkd a l+1),j00 (by simp[j02];omega),j6,j03];rw[show ((j+1:Ä):E)=(j:E)+1 by omega]at e
    have hup:∀t,a<=t->t<=N[j]->wkd t l=wkd a l+(t-a):=by
     have e0:N[j]<=N[j]:=Ç _;rcases hseg with h|h|h
     .exact h
     .have:=h N[j] omg_ e0;omega
     .have:=h N[j] omg_ e0;omega
    have hbN:=hup N[j] omg_ (Ç _);refine⟨(a+m-wkd a l+1)::O,by rw[e];simp,?_,?_,.inl smp_,?_⟩
    .intro x hxm;rcases List.mem_cons.1 hxm with rfl|hxm
     .refine⟨omg_,omg_,?_,?_⟩
      .rw[hup _ omg_ omg_];omega
      .rw[hup _ omg_ omg_];omega
     .have:=hO.ok x hxm;exact⟨omg_,this.2⟩
    .refine List.pairwise_cons.2 ⟨λx hxm=>?_,hO.pw⟩;have:=(hO.ok x hxm).1;omega
    .have:=hO.len;rw[if_neg omg_]at this;rw[if_pos hA,Å];omega
   .obtain⟨O,e,hO⟩:=jyS hl hb hS hm0 hm hb1 hN hlast n (j+1) N[j] out omg_ omg_ omg_ hn0 hx' hpw' hbor';rw[j01 hB,j7,j03];rw[show ((j+1:Ä):E)=(j:E)+1 by omega]at e;refine⟨O,e,λx hxm=>?_,hO.pw,?_,?_⟩
    .have:=hO.ok x hxm;exact⟨omg_,this.2⟩
    .rcases hO.all with h|h|h
     .exact .inl h
     .omega
     .refine .inr (.inr λt h1 h2=>?_);by_cases ht:t<=N[j]
      .have g:=hseg;have e0:N[j]<=N[j]:=Ç _;rcases g with g|g|g
       .have g1:=g t h1 ht;have g2:=g N[j] omg_ e0;omega
       .have g1:=g t h1 ht;omega
       .have g1:=g t h1 ht;omega
      .exact h t omg_ h2
    .have:=hO.len;rw[if_pos hA];split at this<;>omega
  .obtain⟨O,e,hO⟩:=jyS hl hb hS hm0 hm hb1 hN hlast n (j+1) N[j] out omg_ omg_ omg_ hn0 hx' hpw' hbor';rw[j01 hA,j7,j7,j03];rw[show ((j+1:Ä):E)=(j:E)+1 by omega]at e;refine⟨O,e,λx hxm=>?_,hO.pw,.inr (.inl omg_),?_⟩
   .have:=hO.ok x hxm;exact⟨omg_,this.2⟩
   .have:=hO.len;rw[if_neg hA];split at this<;>omega
theorem jyT{l:SL}(hl:l.length<=100000)(hb:∀s∈l,0<=s.1/\s.2<=8589934592){p:E}(hS:StS p l){m a b:E}(hm0:0<=m)(hm:m<=604800)(ha:0<=a)(hab:a<b)(hb1:b<=8589934592) :
  ∃O,jcT l m a b=Â O/\WkO l m a b (4*l.length+1) O:=by
 have hsml:Sml l:=λs hs=>by
  have h1:=hb s hs;have h2:=(hS.mem s hs).2;omega
 have e1:=jDf (s0:=l) (m:=m) (f:=a) (t:=b) omg_ hsml l.length 0 [] omg_ smp_;rw[Y,Æ]at e1;have hbl:=jxe l;obtain⟨C,e2,hC,lC,mC⟩:=jwR (l:=bor l) omg_ (f:=a) (t:=b)
 have hpw:(C++[b]).Pairwise (· < ·):=List.pairwise_append.2 ⟨hC,smp_,λx hx y hy=>by
  rw[List.mem_singleton.1 hy];exact((mC x).1 hx).2.2⟩
 obtain⟨O,e3,hO⟩:=jyS omg_ hb hS hm0 hm hb1 (N:=C++[b]) sqo_ (λh=>smp_) (C++[b]).length 0 a [] omg_ smp_ ha (λh=>by simp at h) (λx hx=>by
  rw[Y]at hx;rcases List.mem_append.1 hx with hx|hx
  .have:=(mC x).1 hx;omega
  .rw[List.mem_singleton.1 hx];omega) (by rw[Y];exact hpw) (λx hx h1 h2=>by
  rw[Y];exact List.mem_append.2 (.inl ((mC x).2 ⟨hx,h1,h2⟩)))
 refine⟨O,?_,hO.ok,hO.pw,hO.all,?_⟩
 .simp only[jcT,show R (Ì l)=(l.length:E) from rfl];rw[show j9k l m a b l (l.length:E) 0 []=_ from e1];simp only[j4];rw[e2];simp only[j4,show R (Ì (C++[b]))=((C++[b]).length:E) from rfl];rw[show j9l l m a ((C++[b]).length:E) 0 [] (C++[b])=_ from e3];rfl
 .have:=hO.len;simp only[I,Å,É]at this;split at this<;>split<;>omega
def rst(jkA:E):E->SL->U E
 |_,[]=>[]
 |p,s::r=>if s.1-p<jkA then s.1::rst jkA s.2 r else rst jkA s.2 r
theorem jxg(jkA:E):∀(l:SL)(p:E),(rst jkA p l).length<=l.length
 |[],_=>by simp[rst]
 |s::r,p=>by
  have:=jxg jkA r s.2;simp only[rst];split<;>simp only[Å]<;>omega
theorem jBy{l:SL}(hl:l.length<=1000000)(hb:Sml l){k:E}:∀(n i:Ä)(acc:U E),i+1+n=l.length->acc.length<=i->∀(h:i<l.length),
  jc1 l k ((i:E)+1) acc=Â (acc++rst k l[i].2 (l.drop (i+1)))
 |0,i,acc,hi,_,h=>by
  rw[j9m];simp(disch:=omega)only[j2X,J,S0];simp[rst]
 |n+1,i,acc,hi,ha,h=>by
  have hlt:i+1<l.length:=omg_;have hg0:l.getD i (0,0)=l[i]:=by simp[Á,h]
  have hg1:l.getD (i+1) (0,0)=l[i+1]:=by simp[Á,hlt]
  have b0:=hb _ (X h);have b1:=hb _ (X hlt);rw[j9m,G hlt];simp only[j2X,rst,show R (Ì l)=(l.length:E) from rfl];rw[j00 (show (i:E)+1<(l.length:E) by omega),j0X (show (0:E)<=(i:E)+1 by omega) omg_,j05 (x:=(i:E)+1-1),show (i:E)+1-1=(i:E) by omega,j0X (show (0:E)<=(i:E) by omega) omg_];simp only[j6,j8,show ((i:E)+1).toNat=i+1 by omega,hg0,hg1];rw[j05 (x:=l[i+1].1-l[i].2),j05 (x:=(i:E)+1+1)];by_cases hq:l[i+1].1-l[i].2<k
  .have ih:=jBy hl hb (k:=k) n (i+1) (acc++[l[i+1].1]) omg_ sqo_ hlt;rw[show ((i+1:Ä):E)+1=(i:E)+1+1 by omega]at ih;simp(disch:=omega)only[if_pos hq,ih,S0];simp
  .have ih:=jBy hl hb (k:=k) n (i+1) acc omg_ omg_ hlt;rw[show ((i+1:Ä):E)+1=(i:E)+1+1 by omega]at ih;rw[j01 hq,if_neg hq,j7,j03,ih]
def rsts(k:E):SL->U E
 |[]=>[]
 |s::r=>rst k s.2 r
theorem jyU{l:SL}(hl:l.length<=1000000)(hb:Sml l)(k:E):jcU l k=Â (rsts k l):=by
 simp only[jcU];cases l with
 |nil=>rw[j9m];simp(disch:=omega)only[j2X,S0];rfl
 |cons s r=>have:=jBy hl hb (k:=k) r.length 0 [] sqo_ smp_ smp_;rw[show ((0:Ä):E)+1=1 by omega]at this;rw[this];rfl
theorem jDg{l:SL}(hl:l.length<=1000000):∀(n i:Ä)(acc:U E),i+n=l.length->acc.length<=i->
  j8q l (l.length:E) (i:E) acc=Â (acc++(l.drop i).map (·.1))
 |0,i,acc,hi,_=>by
  rw[jc2];simp(disch:=omega)only[j3H,J,S0];simp
 |n+1,i,acc,hi,ha=>by
  have hlt:i<l.length:=omg_;have hgd:l.getD i (0,0)=l[i]:=by simp[Á,hlt]
  have ih:=jDg hl n (i+1) (acc++[l[i].1]) omg_ sqo_;rw[jc2];simp(disch:=omega)only[G hlt,j3H,S0];rw[show ((i+1:Ä):E)=(i:E)+1 by omega]at ih;rw[ih];simp only[List.map_cons,Ã,List.singleton_append]
theorem jxh{l:SL}(hl:l.length<=1000000):jbl l=Â (l.map (·.1)):=by
 have:=jDg hl l.length 0 [] omg_ smp_;rw[Y,Æ]at this;simp(disch:=omega)only[jbl,S0];rw[show j8q l (l.length:E) 0 []=_ from this];rfl
end Go.Proofs.Pw
