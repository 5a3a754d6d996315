/- edit.Apply and r13.Apply alike. -/
import Derived.Test.YtmlokiiopbjgfaaGreatEEPF
import Derived.Test.YtmlokiiopbjgfaaGreatEEPA
import Derived.Test.YtmlokiiopbjgfaaGreatEELD
open _root_ renaming Int->d,List->D,ByteArray->M,Nat->N
open Int renaming ofNat->B
open Option renaming some->E
open Bool renaming not_true->F,and_self->O,false->U,true->Ç,true_or->É
open List renaming length_nil->G,getElem_mem->H,length_cons->J,getD->K,replicate->R,eraseIdx_eq_take_drop_succ->W,nil_append->X,mem_or_eq_of_mem_set->Y,take->Z,drop->À,append_assoc->Á,drop_eq_getElem_cons->Â,not_mem_nil->Ã,drop_of_length_le->Ä,length_replicate->Å,drop_zero->Æ,mem_cons->È,take_left'->Ê,length->Ë
open ByteArray renaming empty->I
open Decidable renaming decide->S
open Go Go.Lft
set_option linter.unusedVariables false
namespace Go.Proofs.Pw
structure ShtC(c:CfgT):Prop where
 t:Sht3 c.1 c.2.1 c.2.2.1
 l:c.2.2.2.length<=1000
 s:∀s∈c.2.2.2,ShtS s
theorem jnD:ShtC Z0:=⟨⟨⟨smp_,smp_⟩,⟨smp_,smp_⟩,⟨smp_,smp_⟩⟩,smp_,smp_⟩
section
variable{zs:D j0O}{ps:D j0r}{cs:D CalT}{ss:D j0q}
theorem jpZ(hv:CV (zs,ps,cs,ss))(hC:Cfg0 zs ps cs ss):ShtC (zs,ps,cs,ss):=
 ⟨⟨⟨by have:=hC.zl;dsimp only;omega,λz hz=>by have:=(hv.z z hz).len;omega⟩,⟨by have:=hC.pl;dsimp only;omega,λp hp=>by have:=hv.pw p hp;omega⟩,
   ⟨by have:=hC.cl;dsimp only;omega,λc hc=>by have:=(hC.c c hc).len;omega⟩⟩,by have:=hC.sl;dsimp only;omega,
   λs hs=>⟨⟨by have:=(hC.s s hs).ll;omega,λx hx=>by have h:=(hC.s s hs).ly x hx;have:=h.m1;have:=h.wl;omega⟩,by have:=(hC.s s hs).el;omega⟩⟩
theorem ShtC.set(h:ShtC (zs,ps,cs,ss))(i:N){s:j0q}(hs:ShtS s):ShtC (zs,ps,cs,ss.set i s):=
 ⟨h.t,by have:=h.l;dsimp only at this ⊢;rw[List.length_set];exact this,λy hy=>by
  rcases Y hy with h1|h1
  .exact h.s y h1
  .rw[h1];exact hs⟩
theorem jq0(hl:ss.length<=1000){i:N}(hi:i<ss.length)(l:D j0H):jdR (zs,ps,cs,ss) (i:d) l=E (zs,ps,cs,ss.set i (ss[i].1,ss[i].2.1,l)):=by
 have hgd:ss.getD i (I,[],[])=ss[i]:=by simp[K,hi]
 simp only[jdR,X,G];rw[j00 (by simp[j06];omega),j4,j1g,j4];simp only[j6,hgd]
theorem jtg(hk:j2L (zs,ps,cs,ss)=E 0)(hl:ss.length<=1000){i:N}(hi:i<ss.length)(he:ss[i].2.2.length<=1000)(x:j0H){e:d}(hk2:j2L (zs,ps,cs,ss.set i (ss[i].1,ss[i].2.1,ss[i].2.2++[x]))=E e) :
  j61 (zs,ps,cs,ss) (i:d) x=cond (e != 0) (E (Z0,e)) (E ((zs,ps,cs,ss.set i (ss[i].1,ss[i].2.1,ss[i].2.2++[x])),0)):=by
 have hgd:ss.getD i (I,[],[])=ss[i]:=by simp[K,hi]
 simp only[j61,hk,j0,bne_self_eq_false,j5,show B ss.length=(ss.length:d) from rfl];rw[j01 (show¬(i:d)<0 by omega),j01 (show¬(i:d)>=(ss.length:d) by omega),j2M (show (0:d)<=(i:d) by omega) omg_];simp only[j5,j4,j6,hgd,X,G];rw[j00 (by simp[j06];omega),j4,j00 (by simp[j06];omega),j4,jq0 hl hi];simp only[j0,hk2]
theorem jus{e i:d}(hk:j2L (zs,ps,cs,ss)=E e)(he:e≠0)(x:j0H):j61 (zs,ps,cs,ss) i x=E (Z0,8):=by
 simp only[j61,hk,j0];rw[show (e != 0)=Ç by simpa using he,j4]
theorem jut{i:d}(hk:j2L (zs,ps,cs,ss)=E 0)(h:¬(0<=i/\i<(ss.length:d)))(x:j0H):j61 (zs,ps,cs,ss) i x=E (Z0,3):=by
 simp only[j61,hk,j0,bne_self_eq_false,j5,show B ss.length=(ss.length:d) from rfl];by_cases h0:i<0
 .rw[j00 h0];rfl
 .rw[j01 h0,j00 (show i>=(ss.length:d) by omega)];rfl
theorem juu{e:d}{k:CfgT}(hk:ShtC k){a b:Option (CfgT×d)}(h1:a=cond (e != 0) (E (Z0,e)) (E (k,0)))(h2:b=cond (e != 0) (E (Z0,e)) (E (k,0))):∃k e,a=E (k,e)/\b=E (k,e)/\ShtC k:=by
 cases hb:(e != 0) with
 |true=>rw[hb,j4]at h1 h2;exact⟨_,_,h1,h2,jnD⟩
 |false=>rw[hb,j5]at h1 h2;exact⟨_,_,h1,h2,hk⟩
theorem jr9(hv:CV (zs,ps,cs,ss))(h3:ss.length<=3)(i:d)(x:j0H)(hx:x.2.2.2.2<=9223372036854775807) :
  ∃k e,j4r (zs,ps,cs,ss) i x=E (k,e)/\j61 (zs,ps,cs,ss) i x=E (k,e)/\ShtC k:=by
 have hzf:∀z∈zs,ZF z:=λz hz=>(hv.z z hz).f;have hed:∀s∈ss,∀y∈s.2.2,y.2.2.2.2<=9223372036854775807:=λs hs=>hv.w.ed s hs;obtain⟨e,e1,e2⟩:=jiS (zs:=zs) (ps:=ps) (cs:=cs) (ss:=ss) hzf hed;by_cases he:e=0
 .subst he;by_cases hi:0<=i/\i<(ss.length:d)
  .have hsh:=jpZ hv (jsZ hzf hed e1);obtain⟨n,rfl⟩:∃n:N,i=n:=⟨i.toNat,omg_⟩;have hn:n<ss.length:=omg_;have hsn:=hsh.s ss[n] (H hn)
   have hed2:∀s∈ss.set n (ss[n].1,ss[n].2.1,ss[n].2.2++[x]),∀y∈s.2.2,y.2.2.2.2<=9223372036854775807:=λs hs y hy=>by
    rcases Y hs with h1|h1
    .exact hed s h1 y hy
    .rw[h1]at hy;rcases List.mem_append.1 hy with h2|h2
     .exact hed _ (H hn) y h2
     .rw[List.mem_singleton.1 h2];exact hx
   obtain⟨f,f1,f2⟩:=jiS (zs:=zs) (ps:=ps) (cs:=cs) hzf hed2;have hr:=jtg e2 hsh.l hn hsn.e x f2;have hk:=hsh.set n (s:=(ss[n].1,ss[n].2.1,ss[n].2.2++[x])) ⟨hsn.l,by have h4:=(hv.s _ (H hn)).el;dsimp only;rw[List.length_append,List.length_singleton];omega⟩;refine juu hk (e:=f) ?_ hr;clear hr hk;have hs0:ss.length<=1000:=hsh.l;rcases ss with _|⟨⟨n0,l0,e0⟩,_|⟨⟨n1,l1,e1'⟩,_|⟨⟨n2,l2,e2'⟩,_|⟨s3,r⟩⟩⟩⟩
   .simp at hn
   .obtain rfl:n=0:=by simp at hn;exact hn
    have h:=jta e1 hsh.t (hsh.s _ smp_) f1;rw[j4r,show j3M (zs,ps,cs,[(n0,l0,e0)]) ((0:N):d) x=_ from h];cases hb:(f != 0)<;>rfl
   .have h1:=jrT (i:=(n:d)) e1 hi hsh.t hs0 smp_ x;rw[j4r,jiY h1];have hn2:n=0\/n=1:=by simp at hn;omega
    rcases hn2 with rfl|rfl
    .have h:=jtb e1 hsh.t (hsh.s _ smp_) (hsh.s _ smp_) f1;rw[show j4l (zs,ps,cs,[(n0,l0,e0),(n1,l1,e1')]) ((0:N):d) x=_ from h];cases hb:(f != 0)<;>rfl
    .have h:=jtc e1 hsh.t (hsh.s _ smp_) (hsh.s _ smp_) f1;rw[show j4l (zs,ps,cs,[(n0,l0,e0),(n1,l1,e1')]) ((1:N):d) x=_ from h];cases hb:(f != 0)<;>rfl
   .have h1:=jrT (i:=(n:d)) e1 hi hsh.t hs0 smp_ x;have h2:=jur (i:=(n:d)) e1 hi hsh.t hs0 smp_ x;rw[j4r,jiY h1,jiY h2];have hn2:n=0\/n=1\/n=2:=by simp at hn;omega
    rcases hn2 with rfl|rfl|rfl
    .exact jtd e1 hsh.t (hsh.s _ smp_) (hsh.s _ smp_) (hsh.s _ smp_) f1
    .exact jte e1 hsh.t (hsh.s _ smp_) (hsh.s _ smp_) (hsh.s _ smp_) f1
    .exact jtf e1 hsh.t (hsh.s _ smp_) (hsh.s _ smp_) (hsh.s _ smp_) f1
   .simp at h3
  .exact⟨_,_,by rw[j4r,jh9 (ap13 e1 hi x)],jut e2 hi x,jnD⟩
 .exact⟨_,_,by rw[j4r,jh9 (ap18 e1 he x)],jus e2 he x,jnD⟩
end
theorem jeV{es:D j0H}(hl:es.length<=1000){i:N}(hi:i<es.length):∃m,j0k es (i:d) ((i:d)+1)=E (((es.length-1:N):d),m)/\Z (es.length-1) m=es.eraseIdx i:=by
 have e1:((i:d)+1).toNat=i+1:=omg_;have e2:i+(es.length-(i+1))=es.length-1:=omg_;have hA:(Z i es++(À (i+1) es++À (es.length-1) es)).length=es.length:=sqo_;simp only[j0k,show B es.length=(es.length:d) from rfl]
 rw[j00 (show (0:d)<=(i:d) by omega),j00 (show (i:d)<=(i:d)+1 by omega),j00 (show (i:d)+1<=(es.length:d) by omega),j00 (show (es.length:d)<=(es.length:d) by omega),j55 (show¬(i:d)=(i:d)+1 by omega),
  j00 (show (i:d)<=(es.length:d) by omega),j00 (show (0:d)<=(i:d)+1 by omega)]
 simp only[O,j4,j5,j6,e1,e2];rw[j00 (show i<=i+1 by omega),j4];simp only[hA,show∀n:N,B n=(n:d) fromλ_=>rfl,j6];rw[j00 (show (0:d)<=((es.length-1:N):d) by omega),j00 (show ((es.length-1:N):d)<=(es.length:d) by omega)];simp only[decide_true,O,j4];refine⟨_,rfl,?_⟩;have hlen:(Z i es++À (i+1) es).length=es.length-1:=sqo_;have ht:Z (es.length-1) (Z i es++(À (i+1) es++À (es.length-1) es))=Z i es++À (i+1) es:=by rw[<-Á];exact Ê hlen
 rw[Ê (by rw[List.length_take];omega),ht,W]
section
variable{zs:D j0O}{ps:D j0r}{cs:D CalT}{ss:D j0q}
theorem jth{n0:M}{l0:D j0c}{e0:D j0H}{k:N}(hk:j03 (zs,ps,cs,[(n0,l0,e0)])=E 0)(h:Sht3 zs ps cs)(h0:ShtS (n0,l0,e0))(hj:k<e0.length) :
  j2A (zs,ps,cs,[(n0,l0,e0)]) 0 (k:d)=E ((zs,ps,cs,[(n0,l0,e0.eraseIdx k)]),0):=by
 have hi:(0:d)<=0/\(0:d)<(([(n0,l0,e0)]:D j0q).length:d):=⟨omg_,by simp only[J,G];omega⟩;have he:=h0.e;dsimp only at he;obtain⟨z,z1,z2⟩:=jeV he hj;simp only[j2A,jt9 (jpY hk hi h h0),bne_self_eq_false,j5,j2M (show (0:d)<=0 by omega) (show (0:d)<((1:N):d) by omega),j4,show B e0.length=(e0.length:d) from rfl];rw[j01 (show¬(k:d)<0 by omega),j01 (show¬(k:d)>=(e0.length:d) by omega),j0d (x:=(k:d)+1)];simp only[j5,z1,j0,j6,z2]
theorem jti{n0:M}{l0:D j0c}{e0:D j0H}{j:d}(hk:j03 (zs,ps,cs,[(n0,l0,e0)])=E 0)(h:Sht3 zs ps cs)(h0:ShtS (n0,l0,e0))(hj:¬(0<=j/\j<(e0.length:d))) :
  j2A (zs,ps,cs,[(n0,l0,e0)]) 0 j=E (Z0,10):=by
 have hi:(0:d)<=0/\(0:d)<(([(n0,l0,e0)]:D j0q).length:d):=⟨omg_,by simp only[J,G];omega⟩;simp only[j2A,jt9 (jpY hk hi h h0),bne_self_eq_false,j5,j2M (show (0:d)<=0 by omega) (show (0:d)<((1:N):d) by omega),j4,show B e0.length=(e0.length:d) from rfl];by_cases h0:j<0
 .rw[j00 h0];rfl
 .rw[j01 h0,j00 (show j>=(e0.length:d) by omega)];rfl
theorem jtj{n0 n1:M}{l0 l1:D j0c}{e0 e1:D j0H}{k:N}(hk:j03 (zs,ps,cs,[(n0,l0,e0),(n1,l1,e1)])=E 0)(h:Sht3 zs ps cs)(h0:ShtS (n0,l0,e0))(h1:ShtS (n1,l1,e1))(hj:k<e0.length) :
  j2B (zs,ps,cs,[(n0,l0,e0),(n1,l1,e1)]) 0 (k:d)=E ((zs,ps,cs,[(n0,l0,e0.eraseIdx k),(n1,l1,e1)]),0):=by
 have hi:(0:d)<=0/\(0:d)<(([(n0,l0,e0),(n1,l1,e1)]:D j0q).length:d):=⟨omg_,by simp only[J,G];omega⟩;have he:=h0.e;dsimp only at he;obtain⟨z,z1,z2⟩:=jeV he hj;simp only[j2B,j99 (opEn hk hi),jhT hk hi h h0 h1,j0,bne_self_eq_false,j5,show ((0:d)==0)=Ç from rfl,j4,show B e0.length=(e0.length:d) from rfl];rw[j01 (show¬(k:d)<0 by omega),j01 (show¬(k:d)>=(e0.length:d) by omega),j0d (x:=(k:d)+1)];simp only[j5,z1,j0,j6,z2]
theorem jtk{n0 n1:M}{l0 l1:D j0c}{e0 e1:D j0H}{j:d}(hk:j03 (zs,ps,cs,[(n0,l0,e0),(n1,l1,e1)])=E 0)(h:Sht3 zs ps cs)(h0:ShtS (n0,l0,e0))(h1:ShtS (n1,l1,e1))(hj:¬(0<=j/\j<(e0.length:d))) :
  j2B (zs,ps,cs,[(n0,l0,e0),(n1,l1,e1)]) 0 j=E (Z0,10):=by
 have hi:(0:d)<=0/\(0:d)<(([(n0,l0,e0),(n1,l1,e1)]:D j0q).length:d):=⟨omg_,by simp only[J,G];omega⟩;simp only[j2B,j99 (opEn hk hi),jhT hk hi h h0 h1,j0,bne_self_eq_false,j5,show ((0:d)==0)=Ç from rfl,j4,show B e0.length=(e0.length:d) from rfl];by_cases h0:j<0
 .rw[j00 h0];rfl
 .rw[j01 h0,j00 (show j>=(e0.length:d) by omega)];rfl
theorem jtl{n0 n1:M}{l0 l1:D j0c}{e0 e1:D j0H}{k:N}(hk:j03 (zs,ps,cs,[(n0,l0,e0),(n1,l1,e1)])=E 0)(h:Sht3 zs ps cs)(h0:ShtS (n0,l0,e0))(h1:ShtS (n1,l1,e1))(hj:k<e1.length) :
  j2B (zs,ps,cs,[(n0,l0,e0),(n1,l1,e1)]) 1 (k:d)=E ((zs,ps,cs,[(n0,l0,e0),(n1,l1,e1.eraseIdx k)]),0):=by
 have hi:(0:d)<=1/\(1:d)<(([(n0,l0,e0),(n1,l1,e1)]:D j0q).length:d):=⟨omg_,by simp only[J,G];omega⟩;have he:=h1.e;dsimp only at he;obtain⟨z,z1,z2⟩:=jeV he hj;simp only[j2B,j99 (opEn hk hi),jhT hk hi h h0 h1,j0,bne_self_eq_false,j5,show ((1:d)==0)=U from rfl,show ((1:d)==1)=Ç from rfl,j4,show B e1.length=(e1.length:d) from rfl];rw[j01 (show¬(k:d)<0 by omega),j01 (show¬(k:d)>=(e1.length:d) by omega),j0d (x:=(k:d)+1)];simp only[j5,z1,j0,j6,z2]
theorem jtm{n0 n1:M}{l0 l1:D j0c}{e0 e1:D j0H}{j:d}(hk:j03 (zs,ps,cs,[(n0,l0,e0),(n1,l1,e1)])=E 0)(h:Sht3 zs ps cs)(h0:ShtS (n0,l0,e0))(h1:ShtS (n1,l1,e1))(hj:¬(0<=j/\j<(e1.length:d))) :
  j2B (zs,ps,cs,[(n0,l0,e0),(n1,l1,e1)]) 1 j=E (Z0,10):=by
 have hi:(0:d)<=1/\(1:d)<(([(n0,l0,e0),(n1,l1,e1)]:D j0q).length:d):=⟨omg_,by simp only[J,G];omega⟩;simp only[j2B,j99 (opEn hk hi),jhT hk hi h h0 h1,j0,bne_self_eq_false,j5,show ((1:d)==0)=U from rfl,show ((1:d)==1)=Ç from rfl,j4,show B e1.length=(e1.length:d) from rfl];by_cases h0:j<0
 .rw[j00 h0];rfl
 .rw[j01 h0,j00 (show j>=(e1.length:d) by omega)];rfl
theorem jtn{n0 n1 n2:M}{l0 l1 l2:D j0c}{e0 e1 e2:D j0H}{k:N}(hk:j03 (zs,ps,cs,[(n0,l0,e0),(n1,l1,e1),(n2,l2,e2)])=E 0)(h:Sht3 zs ps cs)(h0:ShtS (n0,l0,e0))(h1:ShtS (n1,l1,e1))(h2:ShtS (n2,l2,e2))(hj:k<e0.length) :
  j1I (zs,ps,cs,[(n0,l0,e0),(n1,l1,e1),(n2,l2,e2)]) 0 (k:d)=E ((zs,ps,cs,[(n0,l0,e0.eraseIdx k),(n1,l1,e1),(n2,l2,e2)]),0):=by
 have hi:(0:d)<=0/\(0:d)<(([(n0,l0,e0),(n1,l1,e1),(n2,l2,e2)]:D j0q).length:d):=⟨omg_,by simp only[J,G];omega⟩;have he:=h0.e;dsimp only at he;obtain⟨z,z1,z2⟩:=jeV he hj;simp only[j1I,j99 (opEn hk hi),jee hk hi h h0 h1 h2,j0,bne_self_eq_false,j5,show ((0:d)==0)=Ç from rfl,j4,show B e0.length=(e0.length:d) from rfl];rw[j01 (show¬(k:d)<0 by omega),j01 (show¬(k:d)>=(e0.length:d) by omega),j0d (x:=(k:d)+1)];simp only[j5,z1,j0,j6,z2]
theorem jto{n0 n1 n2:M}{l0 l1 l2:D j0c}{e0 e1 e2:D j0H}{j:d}(hk:j03 (zs,ps,cs,[(n0,l0,e0),(n1,l1,e1),(n2,l2,e2)])=E 0)(h:Sht3 zs ps cs)(h0:ShtS (n0,l0,e0))(h1:ShtS (n1,l1,e1))(h2:ShtS (n2,l2,e2))(hj:¬(0<=j/\j<(e0.length:d))) :
  j1I (zs,ps,cs,[(n0,l0,e0),(n1,l1,e1),(n2,l2,e2)]) 0 j=E (Z0,10):=by
 have hi:(0:d)<=0/\(0:d)<(([(n0,l0,e0),(n1,l1,e1),(n2,l2,e2)]:D j0q).length:d):=⟨omg_,by simp only[J,G];omega⟩;simp only[j1I,j99 (opEn hk hi),jee hk hi h h0 h1 h2,j0,bne_self_eq_false,j5,show ((0:d)==0)=Ç from rfl,j4,show B e0.length=(e0.length:d) from rfl];by_cases h0:j<0
 .rw[j00 h0];rfl
 .rw[j01 h0,j00 (show j>=(e0.length:d) by omega)];rfl
theorem jtp{n0 n1 n2:M}{l0 l1 l2:D j0c}{e0 e1 e2:D j0H}{k:N}(hk:j03 (zs,ps,cs,[(n0,l0,e0),(n1,l1,e1),(n2,l2,e2)])=E 0)(h:Sht3 zs ps cs)(h0:ShtS (n0,l0,e0))(h1:ShtS (n1,l1,e1))(h2:ShtS (n2,l2,e2))(hj:k<e1.length) :
  j1I (zs,ps,cs,[(n0,l0,e0),(n1,l1,e1),(n2,l2,e2)]) 1 (k:d)=E ((zs,ps,cs,[(n0,l0,e0),(n1,l1,e1.eraseIdx k),(n2,l2,e2)]),0):=by
 have hi:(0:d)<=1/\(1:d)<(([(n0,l0,e0),(n1,l1,e1),(n2,l2,e2)]:D j0q).length:d):=⟨omg_,by simp only[J,G];omega⟩;have he:=h1.e;dsimp only at he;obtain⟨z,z1,z2⟩:=jeV he hj;simp only[j1I,j99 (opEn hk hi),jee hk hi h h0 h1 h2,j0,bne_self_eq_false,j5,show ((1:d)==0)=U from rfl,show ((1:d)==1)=Ç from rfl,j4,show B e1.length=(e1.length:d) from rfl];rw[j01 (show¬(k:d)<0 by omega),j01 (show¬(k:d)>=(e1.length:d) by omega),j0d (x:=(k:d)+1)];simp only[j5,z1,j0,j6,z2]
theorem jtq{n0 n1 n2:M}{l0 l1 l2:D j0c}{e0 e1 e2:D j0H}{j:d}(hk:j03 (zs,ps,cs,[(n0,l0,e0),(n1,l1,e1),(n2,l2,e2)])=E 0)(h:Sht3 zs ps cs)(h0:ShtS (n0,l0,e0))(h1:ShtS (n1,l1,e1))(h2:ShtS (n2,l2,e2))(hj:¬(0<=j/\j<(e1.length:d))) :
  j1I (zs,ps,cs,[(n0,l0,e0),(n1,l1,e1),(n2,l2,e2)]) 1 j=E (Z0,10):=by
 have hi:(0:d)<=1/\(1:d)<(([(n0,l0,e0),(n1,l1,e1),(n2,l2,e2)]:D j0q).length:d):=⟨omg_,by simp only[J,G];omega⟩;simp only[j1I,j99 (opEn hk hi),jee hk hi h h0 h1 h2,j0,bne_self_eq_false,j5,show ((1:d)==0)=U from rfl,show ((1:d)==1)=Ç from rfl,j4,show B e1.length=(e1.length:d) from rfl];by_cases h0:j<0
 .rw[j00 h0];rfl
 .rw[j01 h0,j00 (show j>=(e1.length:d) by omega)];rfl
theorem jtr{n0 n1 n2:M}{l0 l1 l2:D j0c}{e0 e1 e2:D j0H}{k:N}(hk:j03 (zs,ps,cs,[(n0,l0,e0),(n1,l1,e1),(n2,l2,e2)])=E 0)(h:Sht3 zs ps cs)(h0:ShtS (n0,l0,e0))(h1:ShtS (n1,l1,e1))(h2:ShtS (n2,l2,e2))(hj:k<e2.length) :
  j1I (zs,ps,cs,[(n0,l0,e0),(n1,l1,e1),(n2,l2,e2)]) 2 (k:d)=E ((zs,ps,cs,[(n0,l0,e0),(n1,l1,e1),(n2,l2,e2.eraseIdx k)]),0):=by
 have hi:(0:d)<=2/\(2:d)<(([(n0,l0,e0),(n1,l1,e1),(n2,l2,e2)]:D j0q).length:d):=⟨omg_,by simp only[J,G];omega⟩;have he:=h2.e;dsimp only at he;obtain⟨z,z1,z2⟩:=jeV he hj;simp only[j1I,j99 (opEn hk hi),jee hk hi h h0 h1 h2,j0,bne_self_eq_false,j5,show ((2:d)==0)=U from rfl,show ((2:d)==1)=U from rfl,show ((2:d)==2)=Ç from rfl,j4,show B e2.length=(e2.length:d) from rfl];rw[j01 (show¬(k:d)<0 by omega),j01 (show¬(k:d)>=(e2.length:d) by omega),j0d (x:=(k:d)+1)];simp only[j5,z1,j0,j6,z2]
theorem jts{n0 n1 n2:M}{l0 l1 l2:D j0c}{e0 e1 e2:D j0H}{j:d}(hk:j03 (zs,ps,cs,[(n0,l0,e0),(n1,l1,e1),(n2,l2,e2)])=E 0)(h:Sht3 zs ps cs)(h0:ShtS (n0,l0,e0))(h1:ShtS (n1,l1,e1))(h2:ShtS (n2,l2,e2))(hj:¬(0<=j/\j<(e2.length:d))) :
  j1I (zs,ps,cs,[(n0,l0,e0),(n1,l1,e1),(n2,l2,e2)]) 2 j=E (Z0,10):=by
 have hi:(0:d)<=2/\(2:d)<(([(n0,l0,e0),(n1,l1,e1),(n2,l2,e2)]:D j0q).length:d):=⟨omg_,by simp only[J,G];omega⟩;simp only[j1I,j99 (opEn hk hi),jee hk hi h h0 h1 h2,j0,bne_self_eq_false,j5,show ((2:d)==0)=U from rfl,show ((2:d)==1)=U from rfl,show ((2:d)==2)=Ç from rfl,j4,show B e2.length=(e2.length:d) from rfl];by_cases h0:j<0
 .rw[j00 h0];rfl
 .rw[j01 h0,j00 (show j>=(e2.length:d) by omega)];rfl
theorem jtt(hk:j2L (zs,ps,cs,ss)=E 0)(hl:ss.length<=1000){i:N}(hi:i<ss.length)(he:ss[i].2.2.length<=1000){k:N}(hj:k<ss[i].2.2.length) :
  j4w (zs,ps,cs,ss) (i:d) (k:d)=E ((zs,ps,cs,ss.set i (ss[i].1,ss[i].2.1,ss[i].2.2.eraseIdx k)),0):=by
 have hgd:ss.getD i (I,[],[])=ss[i]:=by simp[K,hi]
 have e1:((k:d)+1).toNat=k+1:=omg_;simp only[j4w,hk,j0,bne_self_eq_false,j5,show B ss.length=(ss.length:d) from rfl];rw[j01 (show¬(i:d)<0 by omega),j01 (show¬(i:d)>=(ss.length:d) by omega),j2M (show (0:d)<=(i:d) by omega) omg_];simp only[j5,j4,É,j6,hgd,show B ss[i].2.2.length=(ss[i].2.2.length:d) from rfl];rw[j01 (show¬(k:d)<0 by omega),j01 (show¬(k:d)>=(ss[i].2.2.length:d) by omega),j00 (show (0:d)<=0 by omega),j00 (show (0:d)<=(k:d) by omega),j00 (show (k:d)<=(ss[i].2.2.length:d) by omega),j0d (x:=(k:d)+1)];simp only[j5,j4,O,Æ,X,G,e1,List.take_length];rw[j00 (by simp[j06];omega),j4,j00 (show (0:d)<=(k:d)+1 by omega),j00 (show (k:d)+1<=(ss[i].2.2.length:d) by omega),j00 (show (ss[i].2.2.length:d)<=(ss[i].2.2.length:d) by omega)];simp only[O,j4];rw[j00 (by simp[j06];omega),j4,jq0 hl hi,<-W];rfl
theorem juv{e i:d}(hk:j2L (zs,ps,cs,ss)=E e)(he:e≠0)(j:d):j4w (zs,ps,cs,ss) i j=E (Z0,8):=by
 simp only[j4w,hk,j0];rw[show (e != 0)=Ç by simpa using he,j4]
theorem juw{i:d}(hk:j2L (zs,ps,cs,ss)=E 0)(h:¬(0<=i/\i<(ss.length:d)))(j:d):j4w (zs,ps,cs,ss) i j=E (Z0,3):=by
 simp only[j4w,hk,j0,bne_self_eq_false,j5,show B ss.length=(ss.length:d) from rfl];by_cases h0:i<0
 .rw[j00 h0];rfl
 .rw[j01 h0,j00 (show i>=(ss.length:d) by omega)];rfl
theorem jtu(hk:j2L (zs,ps,cs,ss)=E 0){i:N}(hi:i<ss.length){j:d}(hj:¬(0<=j/\j<(ss[i].2.2.length:d))):j4w (zs,ps,cs,ss) (i:d) j=E (Z0,10):=by
 have hgd:ss.getD i (I,[],[])=ss[i]:=by simp[K,hi]
 simp only[j4w,hk,j0,bne_self_eq_false,j5,show B ss.length=(ss.length:d) from rfl];rw[j01 (show¬(i:d)<0 by omega),j01 (show¬(i:d)>=(ss.length:d) by omega),j2M (show (0:d)<=(i:d) by omega) omg_];simp only[j5,j4,É,j6,hgd,show B ss[i].2.2.length=(ss[i].2.2.length:d) from rfl];by_cases h0:j<0
 .rw[j00 h0];rfl
 .rw[j01 h0,j00 (show j>=(ss[i].2.2.length:d) by omega)];rfl
theorem jq1(hv:CV (zs,ps,cs,ss))(h3:ss.length<=3)(i j:d):∃k e,j2R (zs,ps,cs,ss) i j=E (k,e)/\j4w (zs,ps,cs,ss) i j=E (k,e)/\ShtC k:=by
 have hzf:∀z∈zs,ZF z:=λz hz=>(hv.z z hz).f;have hed:∀s∈ss,∀y∈s.2.2,y.2.2.2.2<=9223372036854775807:=λs hs=>hv.w.ed s hs;obtain⟨e,e1,e2⟩:=jiS (zs:=zs) (ps:=ps) (cs:=cs) (ss:=ss) hzf hed;by_cases he:e=0
 .subst he;by_cases hi:0<=i/\i<(ss.length:d)
  .have hsh:=jpZ hv (jsZ hzf hed e1);obtain⟨n,rfl⟩:∃n:N,i=n:=⟨i.toNat,omg_⟩;have hn:n<ss.length:=omg_;have hsn:=hsh.s ss[n] (H hn);have hs0:ss.length<=1000:=hsh.l;by_cases hj:0<=j/\j<(ss[n].2.2.length:d)
   .obtain⟨k,rfl⟩:∃k:N,j=k:=⟨j.toNat,omg_⟩;have hk:k<ss[n].2.2.length:=omg_;refine⟨_,0,?_,jtt e2 hsh.l hn hsn.e hk,hsh.set n ⟨hsn.l,by have:=List.length_eraseIdx_le ss[n].2.2 k;have:=hsn.e;dsimp only;omega⟩⟩;rcases ss with _|⟨⟨n0,l0,e0⟩,_|⟨⟨n1,l1,e1'⟩,_|⟨⟨n2,l2,e2'⟩,_|⟨s3,r⟩⟩⟩⟩
    .simp at hn
    .obtain rfl:n=0:=by simp at hn;exact hn
     rw[j2R];exact jh9 (jth e1 hsh.t (hsh.s _ smp_) hk)
    .rw[j2R,jiY (jmH (i:=(n:d)) e1 hi hsh.t hs0 smp_ (k:d))];have hn2:n=0\/n=1:=by simp at hn;omega
     rcases hn2 with rfl|rfl
     .exact jh9 (jtj e1 hsh.t (hsh.s _ smp_) (hsh.s _ smp_) hk)
     .exact jh9 (jtl e1 hsh.t (hsh.s _ smp_) (hsh.s _ smp_) hk)
    .rw[j2R,jiY (jmH (i:=(n:d)) e1 hi hsh.t hs0 smp_ (k:d)),jiY (jrV (i:=(n:d)) e1 hi hsh.t hs0 smp_ (k:d))];have hn2:n=0\/n=1\/n=2:=by simp at hn;omega
     rcases hn2 with rfl|rfl|rfl
     .exact jtn e1 hsh.t (hsh.s _ smp_) (hsh.s _ smp_) (hsh.s _ smp_) hk
     .exact jtp e1 hsh.t (hsh.s _ smp_) (hsh.s _ smp_) (hsh.s _ smp_) hk
     .exact jtr e1 hsh.t (hsh.s _ smp_) (hsh.s _ smp_) (hsh.s _ smp_) hk
    .simp at h3
   .refine⟨_,10,?_,jtu e2 hn hj,jnD⟩;rcases ss with _|⟨⟨n0,l0,e0⟩,_|⟨⟨n1,l1,e1'⟩,_|⟨⟨n2,l2,e2'⟩,_|⟨s3,r⟩⟩⟩⟩
    .simp at hn
    .obtain rfl:n=0:=by simp at hn;exact hn
     rw[j2R];exact jh9 (jti e1 hsh.t (hsh.s _ smp_) hj)
    .rw[j2R,jiY (jmH (i:=(n:d)) e1 hi hsh.t hs0 smp_ j)];have hn2:n=0\/n=1:=by simp at hn;omega
     rcases hn2 with rfl|rfl
     .exact jh9 (jtk e1 hsh.t (hsh.s _ smp_) (hsh.s _ smp_) hj)
     .exact jh9 (jtm e1 hsh.t (hsh.s _ smp_) (hsh.s _ smp_) hj)
    .rw[j2R,jiY (jmH (i:=(n:d)) e1 hi hsh.t hs0 smp_ j),jiY (jrV (i:=(n:d)) e1 hi hsh.t hs0 smp_ j)];have hn2:n=0\/n=1\/n=2:=by simp at hn;omega
     rcases hn2 with rfl|rfl|rfl
     .exact jto e1 hsh.t (hsh.s _ smp_) (hsh.s _ smp_) (hsh.s _ smp_) hj
     .exact jtq e1 hsh.t (hsh.s _ smp_) (hsh.s _ smp_) (hsh.s _ smp_) hj
     .exact jts e1 hsh.t (hsh.s _ smp_) (hsh.s _ smp_) (hsh.s _ smp_) hj
    .simp at h3
  .exact⟨_,_,by rw[j2R,jh9 (ca13 e1 hi j)],juw e2 hi j,jnD⟩
 .exact⟨_,_,by rw[j2R,jh9 (ca18 e1 he j)],juv e2 he j,jnD⟩
end
theorem jux{nm nm':M}{o o':d}{rs:D Rule}(hl:rs.length<=1000):∀n i:N,i+n=rs.length->j70 (i:d) nm o rs nm' o' rs=E (.inr ())
 |0,i,hi=>by
  rw[j9y];simp only[j3t,show B rs.length=(rs.length:d) from rfl];rw[j01 omg_,j5,j0f]
 |n+1,i,hi=>by
  rw[j9y];simp only[j3t,show B rs.length=(rs.length:d) from rfl];rw[j00 omg_,j1g,j0d (x:=(i:d)+1)];simp only[j4,beq_self_eq_true,O,F,j5,j08];exact jux hl n (i+1) omg_
theorem jra{z:j0O}(hl:z.2.2.length<=1000):j7W z z=E true:=by
 simp only[j7W,beq_self_eq_true,F,j5,bne_self_eq_false];rw[show j70 0 z.1 z.2.1 z.2.2 z.1 z.2.1 z.2.2=_ from jux hl z.2.2.length 0 omg_];simp only[j0,j3Q]
theorem juy{w:WL}(hl:w.length<=1000):∀n i:N,i+n=w.length->j5l w w (i:d)=E (.inr ())
 |0,i,hi=>by
  rw[j7X];simp only[j2s,show B w.length=(w.length:d) from rfl];rw[j01 omg_,j5,j0f]
 |n+1,i,hi=>by
  rw[j7X];simp only[j2s,show B w.length=(w.length:d) from rfl];rw[j00 omg_,j1g,j0d (x:=(i:d)+1)];simp only[j4,beq_self_eq_true,O,F,j5,j08];exact juy hl n (i+1) omg_
theorem jq2{w:WL}(hl:w.length<=1000):j5H w w=E true:=by
 simp only[j5H,j5,bne_self_eq_false];rw[show j5l w w 0=_ from juy hl w.length 0 omg_];simp only[j0,j3Q]
theorem juz{w:D d}(hl:w.length<=1000):∀n i:N,i+n=w.length->j71 w w (i:d)=E (.inr ())
 |0,i,hi=>by
  rw[j9z];simp only[j3u,show B w.length=(w.length:d) from rfl];rw[j01 omg_,j5,j0f]
 |n+1,i,hi=>by
  rw[j9z];simp only[j3u,show B w.length=(w.length:d) from rfl];rw[j00 omg_,j1g,j0d (x:=(i:d)+1)];simp only[j4,bne_self_eq_false,j5,j08];exact juz hl n (i+1) omg_
theorem jq3{w:D d}(hl:w.length<=1000):j7Y w w=E true:=by
 simp only[j7Y,j5,bne_self_eq_false];rw[show j71 w w 0=_ from juz hl w.length 0 omg_];simp only[j0,j3Q]
theorem jtv{x:j0c}(h:x.2.2.2.2.2.1.length<=1000/\x.2.2.2.2.2.2.1.length<=1000):j72 x x=E true:=by
 simp only[j72,beq_self_eq_true,j4,O,jq3 h.1,jq2 h.2,j0]
theorem jrW{nm nm':M}{ls:D j0c}{es es':D j0H}(hl:ls.length<=1000)(hr:∀x∈ls,x.2.2.2.2.2.1.length<=1000/\x.2.2.2.2.2.2.1.length<=1000):∀n i:N,i+n=ls.length->j4M (i:d) nm ls es nm' ls es'=E (.inr (nm,ls,es,nm',ls,es'))
 |0,i,hi=>by
  rw[j7h];simp only[j26,show B ls.length=(ls.length:d) from rfl];rw[j01 omg_,j5,j0f]
 |n+1,i,hi=>by
  have hlt:i<ls.length:=omg_;have hgd:ls.getD i (I,0,(0,0),0,0,[],[],0,0)=ls[i]:=by simp[K,hlt]
  have e:=jtv (hr _ (H hlt));rw[j7h];simp only[j26,show B ls.length=(ls.length:d) from rfl];rw[j00 omg_,j1g,j0d (x:=(i:d)+1)];simp only[j4,j6,hgd];rw[show j72 (ls[i].1,ls[i].2.1,(ls[i].2.2.1.1,ls[i].2.2.1.2),ls[i].2.2.2.1,ls[i].2.2.2.2.1,ls[i].2.2.2.2.2.1,ls[i].2.2.2.2.2.2.1,ls[i].2.2.2.2.2.2.2.1,ls[i].2.2.2.2.2.2.2.2) (ls[i].1,ls[i].2.1,(ls[i].2.2.1.1,ls[i].2.2.1.2),ls[i].2.2.2.1,ls[i].2.2.2.2.1,ls[i].2.2.2.2.2.1,ls[i].2.2.2.2.2.2.1,ls[i].2.2.2.2.2.2.2.1,ls[i].2.2.2.2.2.2.2.2)=_ from e];simp only[j0,F,j5,j08];exact jrW hl hr n (i+1) omg_
theorem jrX{nm nm':M}{ls ls':D j0c}{es:D j0H}(hl:es.length<=1000):∀n i:N,i+n=es.length->j4N (i:d) nm ls es nm' ls' es=E (.inr ())
 |0,i,hi=>by
  rw[j7i];simp only[j27,show B es.length=(es.length:d) from rfl];rw[j01 omg_,j5,j0f]
 |n+1,i,hi=>by
  rw[j7i];simp only[j27,show B es.length=(es.length:d) from rfl];rw[j00 omg_,j1g,j0d (x:=(i:d)+1)];simp only[j4,beq_self_eq_true,O,F,j5,j08];exact jrX hl n (i+1) omg_
section
variable{zs:D j0O}{ps:D j0r}{cs:D CalT}
theorem jtw{s:j0q}(h:ShtS s):j50 s s=E true:=by
 obtain⟨nm,ls,es⟩:=s;simp only[j50,beq_self_eq_true,F,j5,bne_self_eq_false];rw[show j4M 0 nm ls es nm ls es=_ from jrW (show ls.length<=1000 from h.l.1) h.l.2 ls.length 0 omg_];simp only[j0,j3Q];rw[show j4N 0 nm ls es nm ls es=_ from jrX (show es.length<=1000 from h.e) es.length 0 omg_];simp only[j0,j3Q]
theorem jrY{ss:D j0q}(hl:zs.length<=1000)(hr:∀z∈zs,z.2.2.length<=1000):∀n i:N,i+n=zs.length->jaO (i:d) zs ps cs ss zs ps cs ss=E (.inr (zs,ps,cs,ss,zs,ps,cs,ss))
 |0,i,hi=>by
  rw[jcD];simp only[j51,show B zs.length=(zs.length:d) from rfl];rw[j01 omg_,j5,j0f]
 |n+1,i,hi=>by
  have hlt:i<zs.length:=omg_;have hgd:zs.getD i (I,0,[])=zs[i]:=by simp[K,hlt]
  have e:=jra (hr _ (H hlt));rw[jcD];simp only[j51,show B zs.length=(zs.length:d) from rfl];rw[j00 omg_,j1g,j0d (x:=(i:d)+1)];simp only[j4,j6,hgd];rw[show j7W (zs[i].1,zs[i].2.1,zs[i].2.2) (zs[i].1,zs[i].2.1,zs[i].2.2)=_ from e];simp only[j0,F,j5,j08];exact jrY hl hr n (i+1) omg_
theorem jrZ{ss:D j0q}(hl:ps.length<=1000)(hr:∀p∈ps,p.2.2.1.length<=1000):∀n i:N,i+n=ps.length->jaP (i:d) zs ps cs ss zs ps cs ss=E (.inr (zs,ps,cs,ss,zs,ps,cs,ss))
 |0,i,hi=>by
  rw[jcE];simp only[j52,show B ps.length=(ps.length:d) from rfl];rw[j01 omg_,j5,j0f]
 |n+1,i,hi=>by
  have hlt:i<ps.length:=omg_;have hgd:ps.getD i (I,0,[],0,0,U)=ps[i]:=by simp[K,hlt]
  have e:=jq2 (hr _ (H hlt));rw[jcE];simp only[j52,show B ps.length=(ps.length:d) from rfl];rw[j00 omg_,j1g,j0d (x:=(i:d)+1)];simp only[j4,j6,hgd,beq_self_eq_true,F,j5,bne_self_eq_false,e,j0,j08];exact jrZ hl hr n (i+1) omg_
theorem js0{ss:D j0q}(hl:cs.length<=1000)(hr:∀c∈cs,c.2.2.length<=1000):∀n i:N,i+n=cs.length->jaQ (i:d) zs ps cs ss zs ps cs ss=E (.inr (zs,ps,cs,ss,zs,ps,cs,ss))
 |0,i,hi=>by
  rw[jcF];simp only[j53,show B cs.length=(cs.length:d) from rfl];rw[j01 omg_,j5,j0f]
 |n+1,i,hi=>by
  have hlt:i<cs.length:=omg_;have hgd:cs.getD i (I,0,[])=cs[i]:=by simp[K,hlt]
  have e:=jq3 (hr _ (H hlt));rw[jcF];simp only[j53,show B cs.length=(cs.length:d) from rfl];rw[j00 omg_,j1g,j0d (x:=(i:d)+1)];simp only[j4,j6,hgd,beq_self_eq_true,F,j5,bne_self_eq_false,e,j0,j08];exact js0 hl hr n (i+1) omg_
theorem js1{ss:D j0q}(hl:ss.length<=1000)(hr:∀s∈ss,ShtS s):∀n i:N,i+n=ss.length->jaR (i:d) zs ps cs ss zs ps cs ss=E (.inr ())
 |0,i,hi=>by
  rw[jcG];simp only[j54,show B ss.length=(ss.length:d) from rfl];rw[j01 omg_,j5,j0f]
 |n+1,i,hi=>by
  have hlt:i<ss.length:=omg_;have hgd:ss.getD i (I,[],[])=ss[i]:=by simp[K,hlt]
  have e:=jtw (hr _ (H hlt));rw[jcG];simp only[j54,show B ss.length=(ss.length:d) from rfl];rw[j00 omg_,j1g,j0d (x:=(i:d)+1)];simp only[j4,j6,hgd];rw[show j50 (ss[i].1,ss[i].2.1,ss[i].2.2) (ss[i].1,ss[i].2.1,ss[i].2.2)=_ from e];simp only[j0,F,j5,j08];exact js1 hl hr n (i+1) omg_
theorem jkz{ss:D j0q}(h:ShtC (zs,ps,cs,ss)):jdS (zs,ps,cs,ss) (zs,ps,cs,ss)=E true:=by
 simp only[jdS,bne_self_eq_false,j5];rw[show jaO 0 zs ps cs ss zs ps cs ss=_ from jrY (show zs.length<=1000 from h.t.z.1) h.t.z.2 zs.length 0 omg_];simp only[j0,j3Q];rw[show jaP 0 zs ps cs ss zs ps cs ss=_ from jrZ (show ps.length<=1000 from h.t.p.1) h.t.p.2 ps.length 0 omg_];simp only[j0,j3Q];rw[show jaQ 0 zs ps cs ss zs ps cs ss=_ from js0 (show cs.length<=1000 from h.t.c.1) h.t.c.2 cs.length 0 omg_];simp only[j0,j3Q];rw[show jaR 0 zs ps cs ss zs ps cs ss=_ from js1 (show ss.length<=1000 from h.l) h.s ss.length 0 omg_];simp only[j0,j3Q]
end
theorem jhU{es:D j0H}(hl:es.length<=100){p t:d}:jdQ es p t=E (jky t p es):=by
 have ef:=jrN hl (t:=t) es.length 0 p omg_;rw[Æ]at ef;simp only[jdQ,show jaN es p t 0=_ from ef];rfl
def actE(t:d)(i:N):D j0H->D d
 |[]=>[]
 |x::r=>cond (cond (S (x.2.2.2.1<=t)) (S (t<x.2.2.2.2)) U) ((i:d)::actE t (i+1) r) (actE t (i+1) r)
theorem jnE(x:j0H)(t:d):j6q x t=E (cond (S (x.2.2.2.1<=t)) (S (t<x.2.2.2.2)) U):=by
 simp only[j6q]
theorem jtx{es:D j0H}(hl:es.length<=100){t:d}:∀(n i:N)(l:D d),i+n=es.length->l.length<=i->j7D t es (es.length:d) (i:d) l=E (l++actE t i (es.drop i))
 |0,i,l,hi,_=>by
  rw[jae];simp only[j3P];rw[j01 omg_,j5,j0f,Ä omg_];simp[actE]
 |n+1,i,l,hi,h2=>by
  have hi':i<es.length:=omg_;have hgd:es.getD i (0,0,0,0,0)=es[i]:=by simp[K,hi']
  rw[jae];simp only[j3P];rw[j00 omg_,j1g,j0d (x:=(i:d)+1),Â hi'];simp only[j4,j6,hgd,show j6q (es[i].1,es[i].2.1,es[i].2.2.1,es[i].2.2.2.1,es[i].2.2.2.2) t=_ from jnE es[i] t,j0,actE];cases (cond (S (es[i].2.2.2.1<=t)) (S (t<es[i].2.2.2.2)) U) with
  |true=>rw[j4,j00 (by simp[j06];omega),j4,j08];have:=jtx hl (t:=t) n (i+1) (l++[(i:d)]) omg_ sqo_;rw[Á]at this;rw[j4];exact this
  |false=>rw[j5,j08,j5];exact jtx hl (t:=t) n (i+1) l omg_ omg_
theorem jty{es:D j0H}(hl:es.length<=100){t:d}{nm:M}{ls:D j0c}:∀(n i:N)(l:D d),i+n=es.length->l.length<=i->j8x t (i:d) nm ls es l=E (l++actE t i (es.drop i))
 |0,i,l,hi,_=>by
  rw[jbr];simp only[j4i,show B es.length=(es.length:d) from rfl];rw[j01 omg_,j5,j0f,Ä omg_];simp[actE]
 |n+1,i,l,hi,h2=>by
  have hi':i<es.length:=omg_;have hgd:es.getD i (0,0,0,0,0)=es[i]:=by simp[K,hi']
  rw[jbr];simp only[j4i,show B es.length=(es.length:d) from rfl];rw[j00 omg_,j1g,j0d (x:=(i:d)+1),Â hi'];simp only[j4,É,j6,hgd,actE];cases (cond (S (es[i].2.2.2.1<=t)) (S (t<es[i].2.2.2.2)) U) with
  |true=>rw[j4,j00 (by simp[j06];omega),j4,j08];have:=jty hl (t:=t) (nm:=nm) (ls:=ls) n (i+1) (l++[(i:d)]) omg_ sqo_;rw[Á]at this;rw[j4];exact this
  |false=>rw[j5,j08,j5];exact jty hl (t:=t) n (i+1) l omg_ omg_
theorem jmI{t:d}:∀(es:D j0H)(i:N),(actE t i es).length<=es.length
 |[],_=>by simp[actE]
 |x::r,i=>by
  have:=jmI (t:=t) r (i+1);simp only[actE];cases (cond (S (x.2.2.2.1<=t)) (S (t<x.2.2.2.2)) U)<;>simp<;>omega
theorem jq4{s:j0q}(hl:s.2.2.length<=100)(t:d):jaS s t=E (actE t 0 s.2.2)/\jco s t=E (actE t 0 s.2.2):=by
 have h1:=jtx hl (t:=t) s.2.2.length 0 [] omg_ smp_;have h2:=jty hl (t:=t) (nm:=s.1) (ls:=s.2.1) s.2.2.length 0 [] omg_ smp_;rw[Æ,X]at h1 h2;refine⟨?_,?_⟩
 .simp only[jaS,show B s.2.2.length=(s.2.2.length:d) from rfl,show j7D t s.2.2 (s.2.2.length:d) 0 []=_ from h1,j0]
 .simp only[jco,show j8x t 0 s.1 s.2.1 s.2.2 []=_ from h2,j0]
section
variable{zs:D j0O}{ps:D j0r}{cs:D CalT}{ss:D j0q}
theorem jtz(hv:CV (zs,ps,cs,ss))(i t:d):∃n,j6Q (zs,ps,cs,ss) i t=E n/\jd5 (zs,ps,cs,ss) i t=E n:=by
 obtain⟨e,v,ok,eO,e2,f1,f2⟩:=jup hv;by_cases he:e=0
 case neg=>
  have hb:=f1 he;subst hb;refine⟨-1,?_,?_⟩
  .simp only[j6Q,eO,j0];rfl
  .simp only[jd5,jhH,e2,j0,j55 he];cases (cond (cond (cond (S (i>=(0:d))) (S (i<B ss.length)) U) (S (t>=(0:d))) U) (S (t<=(8589934592:d))) U)<;>rfl
 subst he;obtain⟨hok,hve,hg,hsg⟩:=f2 rfl;subst hok;subst hve;by_cases hi:0<=i/\i<(ss.length:d)
 case neg=>
  refine⟨-1,?_,?_⟩
  .simp only[j6Q,eO,j0,F,j5,j2Q,show B ss.length=(ss.length:d) from rfl];by_cases h0:0<=i
   .rw[j00 (show i>=0 from h0),j01 (show¬i<(ss.length:d) by omega)];rfl
   .rw[j01 (show¬i>=0 from h0)];rfl
  .simp only[jd5,jhH,show B ss.length=(ss.length:d) from rfl];by_cases h0:0<=i
   .rw[j00 (show i>=0 from h0),j01 (show¬i<(ss.length:d) by omega)];rfl
   .rw[j01 (show¬i>=0 from h0)];rfl
 obtain⟨k,rfl⟩:∃k:N,i=k:=⟨i.toNat,omg_⟩;have hlt:k<ss.length:=omg_;have hgs:ss.getD k (I,[],[])=ss[k]:=by simp[K,hlt]
 have hs:=hsg _ (H hlt);have hel:=hs.el;by_cases ht:0<=t/\t<=8589934592
 .obtain⟨n,p,l1,l2,_⟩:=juq (ps:=ps) (ss:=ss) hg hs t;have hp:=(l2 ht.1 ht.2).1;refine⟨jky t p ss[k].2.2,?_,?_⟩
  .simp only[j6Q,eO,j0,F,j5,j2Q,show B ss.length=(ss.length:d) from rfl];rw[j00 (show (k:d)>=0 from hi.1),j00 hi.2,j2M hi.1 hi.2];simp only[j4,F,j5,j6,hgs,jci];rw[j01 (show¬t<0 by omega),j01 (show¬t>8589934592 by omega)];simp only[j5,show j5P ((zs,ps,cs,ss),zs.map tb) (ss[k].1,ss[k].2.1,ss[k].2.2) t=_ from l1,j0,jmA (show ss[k].2.2.length<=100 by omega)]
  .simp only[jd5,jhH,show B ss.length=(ss.length:d) from rfl,e2,j0];rw[j00 (show (k:d)>=0 from hi.1),j00 hi.2,j00 (show t>=0 from ht.1),j00 ht.2];simp only[j4,beq_self_eq_true,j0,F,j5,jlf,jt7 hg hlt hs ht.1 ht.2];rw[j2M hi.1 hi.2];simp only[j4,j6,hgs,jhU (show ss[k].2.2.length<=100 by omega),j0,hp]
 .refine⟨-1,?_,?_⟩
  .simp only[j6Q,eO,j0,F,j5,j2Q,show B ss.length=(ss.length:d) from rfl];rw[j00 (show (k:d)>=0 from hi.1),j00 hi.2,j2M hi.1 hi.2];simp only[j4,F,j5,jci];by_cases h0:t<0
   .rw[j00 h0];rfl
   .rw[j01 h0,j00 (show t>8589934592 by omega)];rfl
  .simp only[jd5,jhH,show B ss.length=(ss.length:d) from rfl];rw[j00 (show (k:d)>=0 from hi.1),j00 hi.2];by_cases h0:0<=t
   .rw[j00 (show t>=0 from h0),j01 (show¬t<=8589934592 by omega)];rfl
   .rw[j01 (show¬t>=0 from h0)];rfl
end
end Go.Proofs.Pw
open Go Go.Lft
set_option linter.unusedVariables false
set_option maxHeartbeats 1000000
namespace Go.Proofs.Pw
theorem ex4{s2:Tn29}{s3:d}{s4:d}{s5:d}{s18:d}{s58:Tn73}{s59:d}{s65:(D d)}{s66:d}{s74:(D d)}{b7:d}{b7_1:d}{b7_2:d}{b7_3:d}{b7_4:d}{b14:Tn55}{b14_1:Tn49}{b14_2:Tn26}{b14_3:Tn66}{b16:Tn55}{b16_1:Tn49}{b16_2:Tn26}{b16_3:Tn66}{b51:(D d)}{b51_1:d}(hc:CV (b16,b16_1,b16_2,b16_3)):∀(n i:N),i+n=3->j73 s2 s3 s4 s5 s18 s58 s59 s65 s66 s74 (i:d) b7 b7_1 b7_2 b7_3 b7_4 b14 b14_1 b14_2 b14_3 b16 b16_1 b16_2 b16_3 b51 b51_1=E (.inr (s2,s3,s4,s5,s18,s58,s59,s65,s66,b7,b7_1,b7_2,b7_3,b7_4,b14,b14_1,b14_2,b14_3,b16,b16_1,b16_2,b16_3,b51,b51_1))
 |0,i,hi=>by
  rw[j7Z];simp only[j2t];rw[j01 omg_,j5,j0f]
 |n+1,i,hi=>by
  have ih:=ex4 (s2:=s2) (s3:=s3) (s4:=s4) (s5:=s5) (s18:=s18) (s58:=s58) (s59:=s59) (s65:=s65) (s66:=s66) (s74:=s74) (b7:=b7) (b7_1:=b7_1) (b7_2:=b7_2) (b7_3:=b7_3) (b7_4:=b7_4) (b14:=b14) (b14_1:=b14_1) (b14_2:=b14_2) (b14_3:=b14_3) (b16:=b16) (b16_1:=b16_1) (b16_2:=b16_2) (b16_3:=b16_3) (b51:=b51) (b51_1:=b51_1) hc n (i+1) omg_;obtain⟨w,w1,w2⟩:=jtz hc s18 (s74.getD i 0);rw[j7Z];simp only[j2t];rw[j00 omg_,j1g,j0d (x:=(i:d)+1)];simp only[j4,j6,w1,w2,j0,bne_self_eq_false,j5,j08];exact ih
theorem ex6{s2:Tn29}{s3:d}{s4:d}{s5:d}{s18:d}{s58:Tn73}{s59:d}{s65:(D d)}{s66:d}{s95:Tn29}{b7:d}{b7_1:d}{b7_2:d}{b7_3:d}{b7_4:d}{b14:Tn55}{b14_1:Tn49}{b14_2:Tn26}{b14_3:Tn66}{b16:Tn55}{b16_1:Tn49}{b16_2:Tn26}{b16_3:Tn66}{b51:(D d)}{b51_1:d}(hc:CV (b16,b16_1,b16_2,b16_3))(hx:∀x∈s95,x.2.2.2.2<=9223372036854775807)(hl:s95.length=3):∀(n i:N),i+n=3->j74 s2 s3 s4 s5 s18 s58 s59 s65 s66 s95 (i:d) b7 b7_1 b7_2 b7_3 b7_4 b14 b14_1 b14_2 b14_3 b16 b16_1 b16_2 b16_3 b51 b51_1=E (.inr (s2,s3,s4,s5,s18,s58,s59,s65,s66,b7,b7_1,b7_2,b7_3,b7_4,b14,b14_1,b14_2,b14_3,b16,b16_1,b16_2,b16_3,b51,b51_1))
 |0,i,hi=>by
  rw[j80];simp only[j2u];rw[j01 omg_,j5,j0f]
 |n+1,i,hi=>by
  have ih:=ex6 (s2:=s2) (s3:=s3) (s4:=s4) (s5:=s5) (s18:=s18) (s58:=s58) (s59:=s59) (s65:=s65) (s66:=s66) (s95:=s95) (b7:=b7) (b7_1:=b7_1) (b7_2:=b7_2) (b7_3:=b7_3) (b7_4:=b7_4) (b14:=b14) (b14_1:=b14_1) (b14_2:=b14_2) (b14_3:=b14_3) (b16:=b16) (b16_1:=b16_1) (b16_2:=b16_2) (b16_3:=b16_3) (b51:=b51) (b51_1:=b51_1) hc hx hl n (i+1) omg_;have hm:s95.getD i (0,0,0,0,0)∈s95:=by rw[show s95.getD i (0,0,0,0,0)=s95[i]'omg_ by simp[K,show i<s95.length by omega]];exact H _
  have hk:=hx _ hm;generalize hke:s95.getD i (0,0,0,0,0)=x at hk;obtain⟨k,e,w1,w2,w3⟩:=jr9 hc hc.few s18 x hk;have w4:=jkz (zs:=k.1) (ps:=k.2.1) (cs:=k.2.2.1) (ss:=k.2.2.2) w3;rw[j80];simp only[j2u];rw[j00 omg_,j1g,j0d (x:=(i:d)+1)];simp only[j4,j6,hke,show j4r (b16,b16_1,b16_2,b16_3) s18 (x.1,x.2.1,x.2.2.1,x.2.2.2.1,x.2.2.2.2)=_ from w1,show j61 (b16,b16_1,b16_2,b16_3) s18 (x.1,x.2.1,x.2.2.1,x.2.2.2.1,x.2.2.2.2)=_ from w2,w4,j0,bne_self_eq_false,F,j5,j08];exact ih
theorem ex8{s2:Tn29}{s3:d}{s4:d}{s5:d}{s18:d}{s58:Tn73}{s59:d}{s65:(D d)}{s66:d}{s127:(D d)}{b7:d}{b7_1:d}{b7_2:d}{b7_3:d}{b7_4:d}{b14:Tn55}{b14_1:Tn49}{b14_2:Tn26}{b14_3:Tn66}{b16:Tn55}{b16_1:Tn49}{b16_2:Tn26}{b16_3:Tn66}{b51:(D d)}{b51_1:d}(hc:CV (b16,b16_1,b16_2,b16_3)):∀(n i:N),i+n=3->j75 s2 s3 s4 s5 s18 s58 s59 s65 s66 s127 (i:d) b7 b7_1 b7_2 b7_3 b7_4 b14 b14_1 b14_2 b14_3 b16 b16_1 b16_2 b16_3 b51 b51_1=E (.inr (s2,s3,s4,s5,s58,s59,s65,s66,b7,b7_1,b7_2,b7_3,b7_4,b14,b14_1,b14_2,b14_3,b16,b16_1,b16_2,b16_3,b51,b51_1))
 |0,i,hi=>by
  rw[j81];simp only[j2v];rw[j01 omg_,j5,j0f]
 |n+1,i,hi=>by
  have ih:=ex8 (s2:=s2) (s3:=s3) (s4:=s4) (s5:=s5) (s18:=s18) (s58:=s58) (s59:=s59) (s65:=s65) (s66:=s66) (s127:=s127) (b7:=b7) (b7_1:=b7_1) (b7_2:=b7_2) (b7_3:=b7_3) (b7_4:=b7_4) (b14:=b14) (b14_1:=b14_1) (b14_2:=b14_2) (b14_3:=b14_3) (b16:=b16) (b16_1:=b16_1) (b16_2:=b16_2) (b16_3:=b16_3) (b51:=b51) (b51_1:=b51_1) hc n (i+1) omg_;obtain⟨k,e,w1,w2,w3⟩:=jq1 hc hc.few s18 (s127.getD i 0);have w4:=jkz (zs:=k.1) (ps:=k.2.1) (cs:=k.2.2.1) (ss:=k.2.2.2) w3;rw[j81];simp only[j2v];rw[j00 omg_,j1g,j0d (x:=(i:d)+1)];simp only[j4,j6,w1,w2,w4,j0,bne_self_eq_false,F,j5,j08];exact ih
theorem ex2{s2:Tn29}{s3:d}{s4:d}{s5:d}{s58:Tn73}{s59:d}{s65:(D d)}{b7:d}{b7_1:d}{b7_2:d}{b7_3:d}{b7_4:d}{b14:Tn55}{b14_1:Tn49}{b14_2:Tn26}{b14_3:Tn66}{b16:Tn55}{b16_1:Tn49}{b16_2:Tn26}{b16_3:Tn66}{b51:(D d)}(hc:CV (b16,b16_1,b16_2,b16_3))(hp:1<=b14_1.length/\b14_1.length<=100)(hr:b7_4<=9223372036854775807):∀(n i:N)(a:d),i+n=3->DOk b51 a->∃a',DOk b51 a'/\j5m s2 s3 s4 s5 s58 s59 s65 (i:d) b7 b7_1 b7_2 b7_3 b7_4 b14 b14_1 b14_2 b14_3 b16 b16_1 b16_2 b16_3 b51 a=E (.inr (s2,s3,s4,s5,s58,s59,b7,b7_1,b7_2,b7_3,b7_4,b14,b14_1,b14_2,b14_3,b51,a'))
 |0,i,a,hi,hd=>by
  rw[j82];simp only[j2w];rw[j01 omg_,j5,j0f];exact⟨a,hd,rfl⟩
 |n+1,i,a,hi,hd=>by
  obtain⟨t,a1,e1,_,_,d1⟩:=jcq hd;obtain⟨u,a2,e2,_,_,d2⟩:=jcq d1;have h4:=ex4 (s2:=s2) (s3:=s3) (s4:=s4) (s5:=s5) (s18:=s65.getD i 0) (s58:=s58) (s59:=s59) (s65:=s65) (s66:=(i:d)) (s74:=[s3,t,u]) (b7:=b7) (b7_1:=b7_1) (b7_2:=b7_2) (b7_3:=b7_3) (b7_4:=b7_4) (b14:=b14) (b14_1:=b14_1) (b14_2:=b14_2) (b14_3:=b14_3) (b16:=b16) (b16_1:=b16_1) (b16_2:=b16_2) (b16_3:=b16_3) (b51:=b51) (b51_1:=a2) hc 3 0 omg_;have hu:∀{u0 u2 u3:D Unit},∀{a},DOk b51 a->∃x a',j2W b51 a (u0,R b14_1.length (),u2,u3)=E (x,b51,a')/\(x.2.2.2.1<=1000000000000/\x.2.2.2.2<=1000000000000)/\DOk b51 a':=λh=>jiX h (by rw[Å];omega) (by rw[Å];omega);obtain⟨x,a3,e3,x1,d3⟩:=hu (u0:=R b14.length ()) (u2:=R b14_2.length ()) (u3:=R b14_3.length ()) d2;obtain⟨y,a4,e4,y1,d4⟩:=hu (u0:=R b14.length ()) (u2:=R b14_2.length ()) (u3:=R b14_3.length ()) d3
  have h6:=ex6 (s2:=s2) (s3:=s3) (s4:=s4) (s5:=s5) (s18:=s65.getD i 0) (s58:=s58) (s59:=s59) (s65:=s65) (s66:=(i:d)) (s95:=[(b7,b7_1,b7_2,b7_3,b7_4),(x.1,x.2.1,x.2.2.1,x.2.2.2.1,x.2.2.2.2),(y.1,y.2.1,y.2.2.1,y.2.2.2.1,y.2.2.2.2)]) (b7:=b7) (b7_1:=b7_1) (b7_2:=b7_2) (b7_3:=b7_3) (b7_4:=b7_4) (b14:=b14) (b14_1:=b14_1) (b14_2:=b14_2) (b14_3:=b14_3) (b16:=b16) (b16_1:=b16_1) (b16_2:=b16_2) (b16_3:=b16_3) (b51:=b51) (b51_1:=a4) hc (λw hw=>by
   simp only[È,Ã,or_false]at hw;rcases hw with rfl|rfl|rfl<;>dsimp only<;>omega) rfl 3 0 omg_
  obtain⟨q,a5,e5,_,_,d5⟩:=j0F (n:=5) d4 omg_ omg_;have h8:=ex8 (s2:=s2) (s3:=s3) (s4:=s4) (s5:=s5) (s18:=s65.getD i 0) (s58:=s58) (s59:=s59) (s65:=s65) (s66:=(i:d)) (s127:=[s5,w64 (q-1),0]) (b7:=b7) (b7_1:=b7_1) (b7_2:=b7_2) (b7_3:=b7_3) (b7_4:=b7_4) (b14:=b14) (b14_1:=b14_1) (b14_2:=b14_2) (b14_3:=b14_3) (b16:=b16) (b16_1:=b16_1) (b16_2:=b16_2) (b16_3:=b16_3) (b51:=b51) (b51_1:=a5) hc 3 0 omg_;obtain⟨a',d',ih⟩:=ex2 (s2:=s2) (s3:=s3) (s4:=s4) (s5:=s5) (s58:=s58) (s59:=s59) (s65:=s65) (b7:=b7) (b7_1:=b7_1) (b7_2:=b7_2) (b7_3:=b7_3) (b7_4:=b7_4) (b14:=b14) (b14_1:=b14_1) (b14_2:=b14_2) (b14_3:=b14_3) (b16:=b16) (b16_1:=b16_1) (b16_2:=b16_2) (b16_3:=b16_3) (b51:=b51) hc hp hr n (i+1) a5 omg_ d5;refine⟨a',d',?_⟩;rw[show ((0:N):d)=0 from rfl]at h4 h6 h8;rw[j82];simp only[j2w];rw[j00 omg_,j1g];simp only[j4,j6,e1,e2,j0,h4,sumC,e3,e4,h6,e5,h8];rw[j0d (x:=(i:d)+1),j08];exact ih
theorem ex0{s2:Tn29}{s3:d}{s4:d}{s5:d}{s58:Tn73}{b7:d}{b7_1:d}{b7_2:d}{b7_3:d}{b7_4:d}{b14:Tn55}{b14_1:Tn49}{b14_2:Tn26}{b14_3:Tn66}{b51:(D d)}(hc:∀k∈s58,CV k)(hl:s58.length=2)(hp:1<=b14_1.length/\b14_1.length<=100)(hr:b7_4<=9223372036854775807):∀(n i:N)(a:d),i+n=2->DOk b51 a->∃a',DOk b51 a'/\j5n s2 s3 s4 s5 s58 (i:d) b7 b7_1 b7_2 b7_3 b7_4 b14 b14_1 b14_2 b14_3 b51 a=E (.inr (s2,s3,b14,b14_1,b14_2,b14_3,b51,a'))
 |0,i,a,hi,hd=>by
  rw[j83];simp only[j2x];rw[j01 omg_,j5,j0f];exact⟨a,hd,rfl⟩
 |n+1,i,a,hi,hd=>by
  have hm:s58.getD i ([],[],[],[])∈s58:=by rw[show s58.getD i ([],[],[],[])=s58[i]'omg_ by simp[K,show i<s58.length by omega]];exact H _
  have hk:=hc _ hm;generalize hke:s58.getD i ([],[],[],[])=k at hk;obtain⟨q,a1,e1,_,_,d1⟩:=j0F (n:=3) hd omg_ omg_;obtain⟨a2,d2,h2⟩:=ex2 (s2:=s2) (s3:=s3) (s4:=s4) (s5:=s5) (s58:=s58) (s59:=(i:d)) (s65:=[0,q,s4]) (b7:=b7) (b7_1:=b7_1) (b7_2:=b7_2) (b7_3:=b7_3) (b7_4:=b7_4) (b14:=b14) (b14_1:=b14_1) (b14_2:=b14_2) (b14_3:=b14_3) (b16:=k.1) (b16_1:=k.2.1) (b16_2:=k.2.2.1) (b16_3:=k.2.2.2) (b51:=b51) hk hp hr 3 0 a1 omg_ d1;obtain⟨a',d',ih⟩:=ex0 (s2:=s2) (s3:=s3) (s4:=s4) (s5:=s5) (s58:=s58) (b7:=b7) (b7_1:=b7_1) (b7_2:=b7_2) (b7_3:=b7_3) (b7_4:=b7_4) (b14:=b14) (b14_1:=b14_1) (b14_2:=b14_2) (b14_3:=b14_3) (b51:=b51) hc hl hp hr n (i+1) a2 omg_ d2;refine⟨a',d',?_⟩;rw[show ((0:N):d)=0 from rfl]at h2;rw[j83];simp only[j2x];rw[j00 omg_,j1g];simp only[j4,j6,hke,e1,j0,h2,sumC];rw[j0d (x:=(i:d)+1),j08];exact ih
theorem ex14{s3:d}{s34:Tn29}{s163:Tn34}{s164:d}{s172:(D d)}{s173:d}{b51:(D d)}{b51_1:d}{A:D d}(hA:A.length<=1000000):∀(n i:N),i+n=A.length->j6s s3 s34 s163 s164 s172 s173 (A.length:d) (i:d) b51 b51_1 A A=E (.inr (s3,s34,s163,s164,s172,s173,b51,b51_1))
 |0,i,hi=>by
  rw[j7j];simp only[j28];rw[j01 omg_,j5,j0f]
 |n+1,i,hi=>by
  have ih:=ex14 (s3:=s3) (s34:=s34) (s163:=s163) (s164:=s164) (s172:=s172) (s173:=s173) (b51:=b51) (b51_1:=b51_1) hA n (i+1) omg_;rw[j7j];simp only[j28];rw[j00 omg_,j2M (i:=(i:d)) (n:=A.length) omg_ omg_,j0d (x:=(i:d)+1)];simp only[j4,bne_self_eq_false,j5,j08];exact ih
theorem ex12{s3:d}{s34:Tn29}{s163:Tn34}{s164:d}{s172:(D d)}{b51:(D d)}(hl:s34.length<=100):∀(n i:N)(a:d),i+n=3->DOk b51 a->∃a',DOk b51 a'/\j6t s3 s34 s163 s164 s172 (i:d) b51 a=E (.inr (s3,s163,s164,b51,a'))
 |0,i,a,hi,hd=>by
  rw[j7k];simp only[j29];rw[j01 omg_,j5,j0f];exact⟨a,hd,rfl⟩
 |n+1,i,a,hi,hd=>by
  obtain⟨q,a1,e1,_,_,d1⟩:=j0F (n:=5) hd omg_ omg_;obtain⟨v1,v2⟩:=jq4 (s:=(I,([]:Tn61),s34)) hl (s172.getD i 0);have vl:=jmI (t:=s172.getD i 0) s34 0;dsimp only at v1 v2;generalize actE (s172.getD i 0) 0 s34=A at v1 v2 vl;have w1:=jmA hl (t:=s172.getD i 0) (p:=w64 (q-1));have w2:=jhU hl (t:=s172.getD i 0) (p:=w64 (q-1));have h14:=ex14 (s3:=s3) (s34:=s34) (s163:=s163) (s164:=s164) (s172:=s172) (s173:=(i:d)) (b51:=b51) (b51_1:=a1) (A:=A) omg_ A.length 0 omg_;obtain⟨a',d',ih⟩:=ex12 (s3:=s3) (s34:=s34) (s163:=s163) (s164:=s164) (s172:=s172) (b51:=b51) hl n (i+1) a1 omg_ d1;refine⟨a',d',?_⟩;rw[show ((0:N):d)=0 from rfl]at h14;rw[j7k];simp only[j29];rw[j00 omg_,j1g];simp only[j4,j6,e1,v1,v2,w1,w2,j0,bne_self_eq_false,j5,show B A.length=(A.length:d) from rfl,h14,sumC];rw[j0d (x:=(i:d)+1),j08];exact ih
theorem ex10{s3:d}{s163:Tn34}{b51:(D d)}(hx:∀x∈s163,x.length<=100)(hl:s163.length=2):∀(n i:N)(a:d),i+n=2->DOk b51 a->j6u s3 s163 (i:d) b51 a=E (.inr ())
 |0,i,a,hi,hd=>by
  rw[j7l];simp only[j2a];rw[j01 omg_,j5,j0f]
 |n+1,i,a,hi,hd=>by
  have hm:s163.getD i ([]:Tn29)∈s163:=by rw[show s163.getD i ([]:Tn29)=s163[i]'omg_ by simp[K,show i<s163.length by omega]];exact H _
  have hk:=hx _ hm;obtain⟨t,a1,e1,_,_,d1⟩:=jcq hd;obtain⟨a2,d2,h12⟩:=ex12 (s3:=s3) (s34:=s163.getD i ([]:Tn29)) (s163:=s163) (s164:=(i:d)) (s172:=[s3,t,s3%9]) (b51:=b51) hk 3 0 a1 omg_ d1;have ih:=ex10 (s3:=s3) (s163:=s163) (b51:=b51) hx hl n (i+1) a2 omg_ d2;rw[show ((0:N):d)=0 from rfl]at h12;rw[j7l];simp only[j2a];rw[j00 omg_,j1g];simp only[j4,j6,e1,ju2 s3 9 omg_ omg_,j0,h12,sumC];rw[j0d (x:=(i:d)+1),j08];exact ih
theorem jha(t:D d)(_h:Wf (.list (.int .i64)) t)(raw:j0H)(h1:Wf (.pair (.int .i64) (.pair (.int .i64) (.pair (.int .i64) (.pair (.int .i64) (.int .i64))))) raw)(l:D j0H)(_h2:Wf (.list (.pair (.int .i64) (.pair (.int .i64) (.pair (.int .i64) (.pair (.int .i64) (.int .i64)))))) l)(x:d)(_h3:Wf (.int .i64) x)(f:d)(_h4:Wf (.int .i64) f)(to:d)(_h5:Wf (.int .i64) to):j91 t raw l x f to=E true:=by
 have hr:raw.2.2.2.2<=9223372036854775807:=by have:=h1.2.2.2.2;have e:IntKind.i64.max=9223372036854775807:=rfl;simp only[Wf,Lit.wf]at this;simp at this;omega
 simp only[j91,jeC,j0,show B (Ë t)=(t.length:d) from rfl];by_cases hl:(t.length:d)<=500
 case neg=>rw[j01 hl];simp[jpn]
 rw[j00 hl];simp only[F,j5,jgn,j0,show B (Ë l)=(l.length:d) from rfl];by_cases h60:(l.length:d)>60
 case pos=>rw[j00 h60];simp[jpn]
 rw[j01 h60];simp only[j5];obtain⟨zs,ps,cs,ss,a1,e1,hs,g1,g2,g3,d1⟩:=jnB (L:=t) (a:=0) (n:=2) ⟨omg_,omg_,omg_⟩ omg_ omg_;obtain⟨k,a2,e2,hv,d2⟩:=jt6 d1 hs g3 g1 omg_;have hp0:=hs.p0;have hp1:=hs.p1
 obtain⟨a3,d3,e3⟩:=ex0 (s2:=l) (s3:=x) (s4:=f) (s5:=to) (b7:=raw.1) (b7_1:=raw.2.1) (b7_2:=raw.2.2.1) (b7_3:=raw.2.2.2.1) (b7_4:=raw.2.2.2.2) (b14:=zs) (b14_1:=ps) (b14_2:=cs) (b14_3:=ss) (s58:=[(zs,ps,cs,ss),(k.1,k.2.1,k.2.2.1,k.2.2.2)]) (b51:=t) (λy hy=>by
  simp only[È,Ã,or_false]at hy;rcases hy with rfl|rfl
  .exact juV hs g3 g1 omg_
  .exact hv) rfl omg_ hr 2 0 a2 omg_ d2
 have he:(ss.getD 0 (I,[],[])).2.2.length<=100:=by rw[show ss.getD 0 (I,[],[])=ss[0]'omg_ by simp[K,show 0<ss.length by omega]];have:=(jpO g3 _ (H (show 0<ss.length by omega))).el;omega
 have e4:=ex10 (s3:=x) (s163:=[l,(ss.getD 0 (I,[],[])).2.2]) (b51:=t) (λy hy=>by
  simp only[È,Ã,or_false]at hy;rcases hy with rfl|rfl<;>omega) rfl 2 0 a3 omg_ d3
 rw[show ((0:N):d)=0 from rfl]at e3 e4;have hq:inR (0:d) ss.length=true:=j1g;simp only[e1,e2,e3,j0,sumC,hq,j4,e4,jpn]
end Go.Proofs.Pw
