/- limits.duties. -/
import Derived.Test.YtgepoeafaklbjaaGreatPFPH
import Derived.Test.YtgepoeafaklbjaaGreatPFPJ
import Derived.Test.YtgepoeafaklbjaaGreatPFPE
import Derived.Test.YtgepoeafaklbjaaGreatPFPI
import Derived.Test.YtgepoeafaklbjaaGreatPFFns
import Derived.KernelRfl
open _root_ renaming Int->d,List->H,Nat->Z,ByteArray->Ï,Bool->Ø,Option->Ú
open List renaming length_singleton->o,drop_eq_getElem_cons->I,length_append->N,drop_of_length_le->O,getD_cons_zero->R,append_assoc->À,drop_zero->Á,nil_append->Ã,mem_cons->Å,getD->Æ,getD_cons_succ->Ç,mem_singleton->È,length->Ê,take_add_one->Í,getElem_mem->Ð,length_map->Õ,take->Û
open Int renaming ofNat->G,le_trans->É,toNat->Ë,le_of_lt->Ì
open Option renaming some->J,getD_some->Ó
open Bool renaming not_true->U,not_false->Â,false->Î,true->Ò,and_eq_true->Ô
open Go.Proofs renaming ltOf->Ä
open Go Go.Lft
namespace Go.Proofs.Pw
theorem jxi{f:d->d}{a b:d}{S:SgL}(hS:Cov f b none a S)(ha:0<=a)(hb:b<=8589934592)(hl:S.length<=1000000)(v:d) :
  ∃out,j5j S v=J out/\StS (a-1) out/\(∀x,inS x out↔a<=x/\x<b/\f x=v)/\2*out.length<=S.length+1/\∀u∈out,a<=u.1/\u.2<=b:=by
 have hsl:2*(spP v S).length<=S.length+1:=by have:=(jo5 (v:=v) hS).1;unfold spP;rw[Õ];exact this
 have tl:=jyD (v:=v) (S:=S) omg_ S.length 0 [] omg_ smp_;rw[Ã,Á]at tl
 have hbd:∀u∈spP v S,a<=u.1/\u.2<=b/\u.1<u.2:=λu hu=>by
  obtain⟨s,hm,rfl⟩:=List.mem_map.1 hu;have hm:=(List.mem_filter.1 hm).1;have hc:=hS.ch.mem _ hm;exact⟨hc.1,hc.2.2.1,hS.pos _ hm⟩
 obtain⟨out,e3,h1,h2,h3,h4⟩:=jeB (l:=spP v S) omg_ (λu hu=>by have:=hbd u hu;omega) (lo:=a) (hi:=b) (λu hu _=>⟨(hbd u hu).1,(hbd u hu).2.1⟩);refine⟨out,?_,h1,λx=>(h2 x).trans (jpJ hS),omg_,h4⟩;simp only[j5j,show G S.length=(S.length:d) from rfl];rw[show j5I v S (S.length:d) 0 []=_ from tl];simp only[j4,e3]
section
variable{zs:H j0D}{ps:H j0h}{cs:H CalT}(hs:SOk2 zs ps cs)
include hs
theorem joa{s:j0r}(hk:SCk zs.length ps.length cs.length s)(hll:s.2.1.length<=3)(hel:s.2.2.length<=48){ss:H j0r}{a b:d}(ha:0<=a)(hab:a<b)(hb:b<=8589934592)(hlen:b-a<=2592000) :
  ∃out,j1N ((zs,ps,cs,ss),zs.map tb) s a b=J out/\Cov (whoS zs cs s) b none a out/\out.length<=2499:=by
 obtain⟨S,e,h,_⟩:=jrc hs hk hll hel (ss:=ss) ha hab hb omg_;obtain⟨E,e1,e2⟩:=jwT hs hk ha (Ì hab) hb (M:=5) (K:=371) omg_ omg_ rfl;have:=jo4 h e2;exact⟨S,e,h,omg_⟩
theorem jDh{ss:H j0r}(hsc:∀s∈ss,SCk zs.length ps.length cs.length s/\s.2.1.length<=3/\s.2.2.length<=48)(hl:ss.length<=100){rr:H j0r}{p a b:d}(ha:0<=a)(hab:a<b)(hb:b<=8589934592)(hlen:b-a<=2592000):∀(n i:Z)(acc:SL),i+n=ss.length->acc.length<=1250*i->
  ∃L,j8p p a b ss (ss.length:d) (i:d) zs ps cs rr (zs.map tb) acc=J (.inr (acc++L))/\L.length<=1250*n/\(∀u∈L,a<=u.1/\u.2<=b/\u.1<u.2)/\∀x,inS x L↔∃s∈ss.drop i,a<=x/\x<b/\whoS zs cs s x=p
 |0,i,acc,hi,hai=>by
  rw[jbY];simp only[j3F];rw[j01 omg_,j7,j06,O omg_];exact⟨[],smp_,smp_,smp_,λx=>by simp[inS]⟩
 |n+1,i,acc,hi,hai=>by
  have hi':i<ss.length:=omg_;have hgd:ss.getD i (ByteArray.empty,[],[])=ss[i]:=by simp[Æ,hi']
  obtain⟨k1,k2,k3⟩:=hsc _ (Ð hi');obtain⟨S,e,hS,lS⟩:=joa hs k1 k2 k3 (ss:=rr) ha hab hb hlen;obtain⟨T,e2,t1,t2,t3,t4⟩:=jxi hS ha hb omg_ p;obtain⟨L,e3,l1,l2,l3⟩:=jDh hsc hl (rr:=rr) (p:=p) ha hab hb hlen n (i+1) (acc++T) omg_ (by rw[N];omega);rw[jbY,I hi'];simp only[j3F];rw[j00 (show (i:d)<(ss.length:d) by omega),j0X (show (0:d)<=(i:d) by omega) omg_];simp only[j6,j8,hgd];rw[show j1N ((zs,ps,cs,rr),zs.map tb) (ss[i].1,ss[i].2.1,ss[i].2.2) a b=_ from e];simp only[j4,show G S.length=(S.length:d) from rfl];rw[j01 (show¬(S.length:d)>16384 by omega),j7,e2];simp only[j4];rw[j00 (show acc.length+T.length<=j02 by simp[j02];omega),j6,j05 (x:=(i:d)+1),j03];rw[show ((i+1:Z):d)=(i:d)+1 by omega]at e3;refine⟨T++L,by rw[e3,À],by rw[N];omega,λu hu=>?_,λx=>?_⟩
  .rcases List.mem_append.1 hu with hu|hu
   .exact⟨(t4 u hu).1,(t4 u hu).2,(t1.mem u hu).2⟩
   .exact l2 u hu
  .rw[jfU,t2 x,l3 x];simp only[Å,exists_eq_or_imp]
def onD(zs:H j0D)(cs:H CalT)(ss:H j0r)(p x:d):Prop:=∃s∈ss,whoS zs cs s x=p
theorem jtZ{ss:H j0r}(hsc:∀s∈ss,SCk zs.length ps.length cs.length s/\s.2.1.length<=3/\s.2.2.length<=48)(hl:ss.length<=3){rr:H j0r}{p a b:d}(ha:0<=a)(hab:a<b)(hb:b<=8589934592)(hlen:b-a<=2592000)(hrr:rr=ss) :
  ∃D,j9e ((zs,ps,cs,rr),zs.map tb) p a b=J (D,0)/\StS (a-1) D/\(∀x,inS x D↔a<=x/\x<b/\onD zs cs ss p x)/\D.length<=1250*ss.length/\∀u∈D,a<=u.1/\u.2<=b:=by
 subst hrr;obtain⟨L,e,l1,l2,l3⟩:=jDh hs hsc omg_ (rr:=rr) (p:=p) ha hab hb hlen rr.length 0 [] omg_ smp_;rw[Ã]at e;obtain⟨D,e3,h1,h2,h3,h4⟩:=jeB (l:=L) omg_ (λu hu=>by have:=l2 u hu;omega) (lo:=a) (hi:=b) (λu hu _=>⟨(l2 u hu).1,(l2 u hu).2.1⟩);refine⟨D,?_,h1,λx=>?_,omg_,h4⟩
 .simp only[j9e,show G rr.length=(rr.length:d) from rfl];rw[show j8p p a b rr (rr.length:d) 0 zs ps cs rr (zs.map tb) []=_ from e];simp only[j4,j4j,e3,show G D.length=(D.length:d) from rfl];rw[j01 (show¬(D.length:d)>4096 by omega),j7]
 .rw[h2 x,l3 x,Á];constructor
  .rintro⟨s,g1,g2,g3,g4⟩;exact⟨g2,g3,s,g1,g4⟩
  .rintro⟨g2,g3,s,g1,g4⟩;exact⟨s,g1,g2,g3,g4⟩
theorem jxj{ss:H j0r}(hc:j6O (zs,ps,cs,ss)){p:Z}(hp:p<ps.length){a b:d}(ha:0<=a)(hab:a<=b)(hb:b<=8589934592)(hlen:b-a<=34560000) :
  jbX (zs,ps,cs,ss) (p:d) a b=J (((zs,ps,cs,ss),zs.map tb),0):=by
 simp only[jbX,jwf hs.so.ok hc,j4,U,j7,show G ps.length=(ps.length:d) from rfl,ja9];rw[j01 (show¬(p:d)<0 by omega),j01 (show¬(p:d)>=(ps.length:d) by omega),j05 (x:=b-a),j00 (show a>=0 by omega),j00 (show a<=8589934592 by omega),j00 (show b>=a by omega),j00 (show b<=8589934592 by omega),j00 (show b-a<=34560000 by omega)];rfl
end
theorem eqV(x y:SgT):(x.1==y.1&&(x.2.1==y.2.1&&x.2.2==y.2.2))=decide (x=y):=by
 grind
def ltV(x y:SgT):Prop:=x.2.2<y.2.2\/x.2.2=y.2.2/\(x.1<y.1\/x.1=y.1/\x.2.1<y.2.1)
instance(x y:SgT):Decidable (ltV x y):=by unfold ltV;infer_instance
def leV(x y:SgT):Prop:=x.2.2<y.2.2\/x.2.2=y.2.2/\(x.1<y.1\/x.1=y.1/\x.2.1<=y.2.1)
theorem jDi{x y:SgT}(h:leV x y)(hn:y≠x):ltV x y:=by
 grind[leV,ltV]
def ddV:SgT->SgL->SgL
 |_,[]=>[]
 |p,x::r=>if x=p then ddV p r else x::ddV x r
theorem jri:∀(l:SgL)(p:SgT),∀x,x∈p::ddV p l↔x∈p::l
 |[],_,_=>Iff.rfl
 |y::r,p,x=>by
  unfold ddV;split
  .rename_i h;subst h;rw[jri r y x];simp
  .have:=jri r y x;rw[Å,this,Å,Å,Å]
theorem jrj:∀(l:SgL)(p:SgT),(p::l).Pairwise leV->(p::ddV p l).Pairwise ltV
 |[],_,_=>by simp[ddV]
 |y::r,p,h=>by
  have h1:=List.pairwise_cons.1 h;unfold ddV;split
  .rename_i h;subst h;exact jrj r y h1.2
  .rename_i hne;have ih:=jrj r y h1.2;refine List.pairwise_cons.2 ⟨λz hz=>?_,ih⟩;have hy:=jDi (h1.1 y smp_) hne;rcases List.mem_cons.1 hz with rfl|hz
   .exact hy
   .have:=(List.pairwise_cons.1 ih).1 z hz;unfold ltV at this hy ⊢;omega
theorem jxk{l:SgL}(hl:l.length<=1000000){k0:Z}:∀(n s k:Z)(b:SgL),k0+s+n=l.length->1<=s->k<=k0+s-1->b.length=l.length->b.drop k=l.drop k->
  ∃(m:Z)(b':SgL),j0K (k:d) (k0:d) (s:d) b=J ((m:d),b')/\b'.length=l.length/\m<=l.length/\b'.take m=b.take k++ddV (l.getD (k0+s-1) (0,0,0)) (l.drop (k0+s))
 |0,s,k,b,hn,hs,hk,hb,hd=>by
  rw[j2a];simp only[j0j,j8,show G (b.length-k0)=((b.length-k0:Z):d) from rfl];rw[j01 omg_,j7,j06,O omg_];exact⟨k,b,rfl,hb,omg_,by simp[ddV]⟩
 |n+1,s,k,b,hn,hs,hk,hb,hd=>by
  have hlt:k0+s<l.length:=omg_
  have bget:∀j,k<=j->b[j]? = l[j]? := λj hj=>by
   have h:=congrArg (λx=>x[j-k]?) hd;grind
  have g1:b.getD (k0+s) (0,0,0)=l[k0+s]:=by grind
  have g2:b.getD (k0+(s-1)) (0,0,0)=l.getD (k0+s-1) (0,0,0):=by grind
  have e1:l.getD (k0+(s+1)-1) (0,0,0)=l[k0+s]:=by
   simp_all
  rw[j2a];simp only[j0j,j8,show G (b.length-k0)=((b.length-k0:Z):d) from rfl,show G k0=(k0:d) from rfl];rw[j00 (show (s:d)<((b.length-k0:Z):d) by omega),j0X (show (0:d)<=(s:d) by omega) omg_,j05 (x:=(s:d)-1),j0X (show (0:d)<=(s:d)-1 by omega) omg_,j0X (show (0:d)<=(k:d) by omega) omg_,j05 (x:=(k:d)+1),j05 (x:=(s:d)+1),show ((s:d)-1).toNat=s-1 by omega,I hlt];simp only[j6,g1,g2,ddV,eqV];by_cases hc:l[k0+s]=l.getD (k0+s-1) (0,0,0)
  .rw[j00 hc,if_pos hc,U,j7,j03];have ih:=jxk hl (k0:=k0) n (s+1) k b omg_ omg_ omg_ hb hd;rw[e1,hc,show k0+(s+1)=k0+s+1 by omega]at ih;exact ih
  .rw[j01 hc,if_neg hc,Â,j6,j03]
   have ih:=jxk hl (k0:=k0) n (s+1) (k+1) (b.set k l[k0+s]) omg_ omg_ omg_ (by simpa using hb) (by
    rw[List.drop_set_of_lt omg_];have:=congrArg (List.drop 1) hd;grind[List.drop_drop])
   rw[e1,show k0+(s+1)=k0+s+1 by omega]at ih;obtain⟨m,b',r1,r2,r3,r4⟩:=ih;refine⟨m,b',r1,r2,r3,?_⟩;grind[Í,List.take_set_of_le]
def cpV:SgL->SgL
 |[]=>[]
 |a::r=>a::ddV a r
theorem jA5{l:SgL}(hl:l.length<=1000000):∀(n k:Z),k+n=l.length->1<=k->cpV l=l.take k++ddV (l.getD (k-1) (0,0,0)) (l.drop k)->
  (∃(m:Z)(b:SgL),j0c (k:d) l=J (.inl ((m:d),b))/\b.take m=cpV l)\/(j0c (k:d) l=J (.inr l)/\cpV l=l)
 |0,k,hn,hk,hT=>by
  grind[j2b,j0k,j06,ddV]
 |n+1,k,hn,hk,hT=>by
  have hlt:k<l.length:=omg_;have g1:l.getD k (0,0,0)=l[k]:=by simp[hlt]
  rw[I hlt]at hT;simp only[ddV]at hT;rw[j2b];simp only[j0k,show G l.length=(l.length:d) from rfl];rw[j00 (show (k:d)<(l.length:d) by omega),j0X (show (0:d)<=(k:d) by omega) omg_,j05 (x:=(k:d)-1),j0X (show (0:d)<=(k:d)-1 by omega) omg_,j05 (x:=(k:d)+1),show ((k:d)-1).toNat=k-1 by omega,j00 (show (0:d)<=(k:d) by omega),j00 (show (k:d)<=(l.length:d) by omega)];simp only[j6,j8,g1,Bool.and_self,show G k=(k:d) from rfl,eqV];by_cases hc:l[k]=l.getD (k-1) (0,0,0)
  .rw[if_pos hc]at hT;obtain⟨m,b,r1,r2,r3,r4⟩:=jxk hl (k0:=k) n 1 k l omg_ omg_ omg_ rfl rfl;rw[show k+1-1=k by omega,g1,hc,<-hT]at r4;rw[j00 hc,j6,show j0K (k:d) (k:d) 1 l=_ from r1];simp(disch:=omega)only[Bool.true_and,S0];grind[j06]
  .rw[if_neg hc]at hT;rw[j01 hc,j7,j03];refine jA5 hl n (k+1) omg_ omg_ ?_;grind[Í]
theorem jrk{l:SgL}(hl:l.length<=1000000):∃n m,j0B l=J (n,m)/\m.take n.toNat=cpV l:=by
 simp(disch:=omega)only[j0B,S0];by_cases h2:l.length<2
 .rw[j00 omg_,j6];refine⟨_,_,rfl,?_⟩;rw[j8,List.take_of_length_le (Nat.le_refl _)];match l,h2 with
  |[],_=>rfl
  |[a],_=>rfl
  |_::_::_,h2=>simp at h2;omega
 .rw[j01 omg_,j7]
  have hT:cpV l=l.take 1++ddV (l.getD (1-1) (0,0,0)) (l.drop 1):=by
   match l,h2 with
   |[],h2=>simp at h2
   |a::r,_=>rfl
  rcases jA5 hl (l.length-1) 1 omg_ omg_ hT with⟨m,b,e,h⟩|⟨e,h⟩
  .rw[show j0c 1 l=_ from e];refine⟨_,_,rfl,?_⟩;simpa using h
  .rw[show j0c 1 l=_ from e];refine⟨_,_,rfl,?_⟩;rw[h];simp
theorem jBz{l:SgL}(x:SgT):x∈cpV l↔x∈l:=by
 cases l with
 |nil=>exact Iff.rfl
 |cons a r=>exact jri r a x
theorem jBA{l:SgL}(h:l.Pairwise leV):(cpV l).Pairwise ltV:=by
 cases l with
 |nil=>exact .nil
 |cons a r=>exact jrj r a h
theorem jrl:∀(l:SgL)(p:SgT),(ddV p l).length<=l.length
 |[],_=>Nat.le_refl _
 |y::r,p=>by
  unfold ddV;split
  .have:=jrl r p;simp;omega
  .have:=jrl r y;simp;omega
theorem jBB(l:SgL):(cpV l).length<=l.length:=by
 cases l<;>grind[jrl,cpV]
theorem jDj(x y:SgT):(j4r x y).getD 0=cond (x.2.2 != y.2.2) (w64 (x.2.2-y.2.2)) (cond (x.1 != y.1) (w64 (x.1-y.1)) (w64 (x.2.1-y.2.1))):=by
 grind[j4r]
def SmV(x:SgT):Prop:=(-1000000000000<=x.1/\x.1<=1000000000000)/\(-1000000000000<=x.2.1/\x.2.1<=1000000000000)/\(-1000000000000<=x.2.2/\x.2.2<=1000000000000)
theorem jA6{x y:SgT}(hx:(-1152921504606846976<=x.1/\x.1<=1152921504606846976)/\(-1152921504606846976<=x.2.1/\x.2.1<=1152921504606846976)/\(-1152921504606846976<=x.2.2/\x.2.2<=1152921504606846976))
  (hy:(-1152921504606846976<=y.1/\y.1<=1152921504606846976)/\(-1152921504606846976<=y.2.1/\y.2.1<=1152921504606846976)/\(-1152921504606846976<=y.2.2/\y.2.2<=1152921504606846976)):(j4r x y).getD 0<0↔ltV x y:=by
 grind[jDj,ltV,j4N]
theorem jyV:Go.Sort.SWO (Ä λ(x y:Go.Lft.Sml (.pair (.int .i64) (.pair (.int .i64) (.int .i64))))=>(j4r x.1 y.1).getD 0):=by
 have key:∀x:Go.Lft.Sml (.pair (.int .i64) (.pair (.int .i64) (.int .i64))),(-1152921504606846976<=(x.1.1:d)/\(x.1.1:d)<=1152921504606846976)/\(-1152921504606846976<=(x.1.2.1:d)/\(x.1.2.1:d)<=1152921504606846976)/\(-1152921504606846976<=(x.1.2.2:d)/\(x.1.2.2:d)<=1152921504606846976):=λx=>by
  grind[j3s]
 have e:∀x y:Go.Lft.Sml (.pair (.int .i64) (.pair (.int .i64) (.int .i64))),Ä (λ(x y:Go.Lft.Sml (.pair (.int .i64) (.pair (.int .i64) (.int .i64))))=>(j4r x.1 y.1).getD 0) x y=decide (ltV x.1 y.1):=λx y=>by
  grind[ltOf,jA6]
 refine⟨λx=>?_,λx y z=>?_,λx y z=>?_⟩;all_goals grind[ltV]
theorem jyW{l:SgL}(hl:l.length<=1000000000)(hb:∀x∈l,SmV x):∃L,j0l l=J L/\L.Perm l/\L.Pairwise leV:=by
 obtain⟨L,e,hp,hs⟩:=jjV (a:= .pair (.int .i64) (.pair (.int .i64) (.int .i64))) (cf:=λx y=>(j4r x y).getD 0) jyV (xs:=l) (λx hx=>by
  grind[SmV,j3s]) omg_
 refine⟨L,e,hp,hs.imp_of_mem λ{x y} hx hy h=>?_⟩;have h1:=hb x (hp.mem_iff.1 hx);have h2:=hb y (hp.mem_iff.1 hy);unfold SmV at h1 h2;have:¬ltV y x:=λq=>h ((jA6 (x:=y) (y:=x) omg_ omg_).2 q);grind[ltV,leV]
end Go.Proofs.Pw
open Go Go.Lft
set_option maxHeartbeats 1000000
namespace Go.Proofs.Pw
abbrev ClT:=d×d×d×d×d
abbrev ClL:=H ClT
def clP(p:d)(cl:ClL):H Int:=(cl.filter λz=>z.1==p).map (·.2.2.2.1)
theorem jyX(p:d)(z:ClT)(r:ClL):clP p (z::r)=cond (z.1==p) (z.2.2.2.1::clP p r) (clP p r):=by
 unfold clP;cases h:(z.1==p)<;>simp[h]
theorem jBC{p:d}{A B C:H d}{cl:ClL}(hl:cl.length<=1000000):∀(n j:Z)(acc:H d),j+n=cl.length->acc.length<=j->
  j4e p (cl.length:d) (j:d) cl A B C acc=J (p,A,B,C,acc++clP p (cl.drop j))
 |0,j,acc,hj,_=>by
  rw[j9n];simp only[j2d];rw[j01 omg_,j7,j06,O omg_];simp[clP]
 |n+1,j,acc,hj,ha=>by
  have hj':j<cl.length:=omg_;have hgd:cl.getD j (0,0,0,0,0)=cl[j]:=by simp[Æ,hj']
  rw[j9n,I hj',jyX];simp only[j2d];rw[j00 (show (j:d)<(cl.length:d) by omega),j0O];simp only[j6,j8,hgd];rw[j05 (x:=(j:d)+1)];cases hq:(cl[j].1==p) with
  |true=>have ih:=jBC (p:=p) (A:=A) (B:=B) (C:=C) hl n (j+1) (acc++[cl[j].2.2.2.1]) omg_ sqo_;rw[show ((j+1:Z):d)=(j:d)+1 by omega]at ih;rw[j6,j6,j00 (by simp[j02];omega),j6,j03,ih,À];rfl
  |false=>have ih:=jBC (p:=p) (A:=A) (B:=B) (C:=C) hl n (j+1) acc omg_ omg_;rw[show ((j+1:Z):d)=(j:d)+1 by omega]at ih;rw[j7,j7,j03,ih]
def vK(k p:d)(L:H d):SgL:=L.map λt=>(k,p,t)
theorem jDk{p k:d}{F:H (H d)}{i:d}{L:H d}(hl:L.length<=1000000):∀(n j:Z)(acc:SgL),j+n=L.length->acc.length<=10000000+j->
  j26 p k F i L (L.length:d) (j:d) acc=J (p,F,i,acc++vK k p (L.drop j))
 |0,j,acc,hj,_=>by
  rw[j9o];simp only[j2e];rw[j01 omg_,j7,j06,O omg_];simp[vK]
 |n+1,j,acc,hj,ha=>by
  have hj':j<L.length:=omg_;have hgd:L.getD j (0:d)=L[j]:=by simp[Æ,hj']
  have ih:=jDk (p:=p) (k:=k) (F:=F) (i:=i) hl n (j+1) (acc++[(k,p,L[j])]) omg_ sqo_;rw[show ((j+1:Z):d)=(j:d)+1 by omega]at ih;rw[j9o,I hj'];simp only[j2e];rw[j00 (show (j:d)<(L.length:d) by omega),j0O];simp only[j6,j8,hgd];rw[j05 (x:=(j:d)+1),j00 (by simp[j02];omega),j6,j03,ih,À];rfl
def vAll(p:d)(A B C E:H d):SgL:=vK 0 p A++(vK 1 p B++(vK 2 p C++vK 3 p E))
theorem jDT{p:d}{A B C E:H d}(hA:A.length<=1000000)(hB:B.length<=1000000)(hC:C.length<=1000000)(hE:E.length<=1000000) :
  j5t p [A,B,C,E] 0 []=J (vAll p A B C E):=by
 have q:=λ(k:d)(L:H d)(hL:L.length<=1000000)(acc:SgL)(hacc:acc.length<=10000000)=>jDk (p:=p) (k:=k) (F:=[A,B,C,E]) (i:=k) hL L.length 0 acc omg_ omg_;have lv:∀k (L:H d),(vK k p L).length=L.length:=λk L=>by simp[vK]
 have q0:=q 0 A hA [] smp_;have q1:=q 1 B hB (vK 0 p A) (by rw[lv];omega);have q2:=q 2 C hC (vK 0 p A++vK 1 p B) (by rw[N,lv,lv];omega);have q3:=q 3 E hE (vK 0 p A++vK 1 p B++vK 2 p C) (by rw[N,N,lv,lv,lv];omega);simp only[Á,Ã]at q0 q1 q2 q3;rw[j2M];simp only[j0R];rw[j00 (show (0:d)<4 by omega),j0X (show (0:d)<=0 by omega) omg_];simp only[j6,Int.toNat_zero,R,show G A.length=(A.length:d) from rfl];rw[show j26 p 0 [A,B,C,E] 0 A (A.length:d) 0 []=_ from q0];simp only[j4];rw[j05 (x:=(0:d)+1),j03,show (0:d)+1=1 by omega,j2M];simp only[j0R];rw[j00 (show (1:d)<4 by omega),j0X (show (0:d)<=1 by omega) omg_];simp only[j6,show (1:d).toNat=1 from rfl,Ç,R,show G B.length=(B.length:d) from rfl];rw[show j26 p 1 [A,B,C,E] 1 B (B.length:d) 0 (vK 0 p A)=_ from q1];simp only[j4];rw[j05 (x:=(1:d)+1),j03,show (1:d)+1=2 by omega,j2M];simp only[j0R];rw[j00 (show (2:d)<4 by omega),j0X (show (0:d)<=2 by omega) omg_];simp only[j6,show (2:d).toNat=2 from rfl,Ç,R,show G C.length=(C.length:d) from rfl];rw[show j26 p 2 [A,B,C,E] 2 C (C.length:d) 0 (vK 0 p A++vK 1 p B)=_ from q2];simp only[j4];rw[j05 (x:=(2:d)+1),j03,show (2:d)+1=3 by omega,j2M];simp only[j0R];rw[j00 (show (3:d)<4 by omega),j0X (show (0:d)<=3 by omega) omg_]
 simp only[j6,show (3:d).toNat=3 from rfl,Ç,R,show G E.length=(E.length:d) from rfl];rw[show j26 p 3 [A,B,C,E] 3 E (E.length:d) 0 (vK 0 p A++vK 1 p B++vK 2 p C)=_ from q3];simp only[j4];rw[j05 (x:=(3:d)+1),j03,show (3:d)+1=4 by omega,j2M];simp only[j0R];rw[j01 omg_,j7,j06];simp only[vAll,À]
noncomputable def tlV(p:d)(cl:ClL)(A B C:H d):Ú (SgL×d):=
 (j4e p (G (Ê cl)) (0:d) cl A B C ([]:(H d))).bind λq0=>
 (j5t q0.1 [q0.2.1,q0.2.2.1,q0.2.2.2.1,q0.2.2.2.2] (0:d) ([]:SgL)).bind λq2=>
 (j0l q2).bind λr139=>
 (j0B r139).bind λr141=>
 cond (decide (G (Ê (Û (Ë r141.1) r141.2))>(16384:d))) (
 J (([]:SgL),(5:d))) (
 J (Û (Ë r141.1) r141.2,(0:d)))
theorem jDU{p:d}(hp:0<=p/\p<=1000){cl:ClL}{A B C:H d}(hl:A.length+B.length+C.length+(clP p cl).length<=16384)(hcl:cl.length<=1000000)
  (hb:∀t,t∈A\/t∈B\/t∈C\/t∈clP p cl -> -1000000000000<=t/\t<=1000000000000) :
  ∃V,tlV p cl A B C=J (V,0)/\V.Pairwise ltV/\(∀x,x∈V↔x∈vAll p A B C (clP p cl))/\V.length<=A.length+B.length+C.length+(clP p cl).length:=by
 have e0:=jBC (p:=p) (A:=A) (B:=B) (C:=C) hcl cl.length 0 [] omg_ smp_;rw[Ã,Á]at e0;have e2:=jDT (p:=p) (A:=A) (B:=B) (C:=C) (E:=clP p cl) omg_ omg_ omg_ omg_;have lv:∀k (L:H d),(vK k p L).length=L.length:=λk L=>by simp[vK]
 have hvl:(vAll p A B C (clP p cl)).length=A.length+B.length+C.length+(clP p cl).length:=by simp only[vAll,N,lv];omega
 have hsm:∀x∈vAll p A B C (clP p cl),SmV x:=λx hx=>by
  have key:∀k (L:H d),0<=k->k<=3->x∈vK k p L->(∀t∈L, -1000000000000<=t/\t<=1000000000000)->SmV x:=λk L k0 k1 h hL=>by
   obtain⟨t,ht,rfl⟩:=List.mem_map.1 h;have:=hL t ht;unfold SmV;dsimp only;omega
  simp only[vAll,List.mem_append]at hx;rcases hx with h|h|h|h
  .exact key 0 A omg_ omg_ h λt ht=>hb t (.inl ht)
  .exact key 1 B omg_ omg_ h λt ht=>hb t (.inr (.inl ht))
  .exact key 2 C omg_ omg_ h λt ht=>hb t (.inr (.inr (.inl ht)))
  .exact key 3 _ omg_ omg_ h λt ht=>hb t (.inr (.inr (.inr ht)))
 obtain⟨L,e3,p3,s3⟩:=jyW (l:=vAll p A B C (clP p cl)) omg_ hsm;have hLl:=p3.length_eq;obtain⟨n,m,e4,h4⟩:=jrk (l:=L) omg_;have hcl4:=jBB L;refine⟨cpV L,?_,jBA s3,λx=>(jBz x).trans p3.mem_iff,omg_⟩;unfold tlV;rw[show j4e p (G (Ê cl)) 0 cl A B C []=_ from e0];simp only[j4];rw[e2];simp only[j4,e3,e4,h4,show G (cpV L).length=((cpV L).length:d) from rfl];rw[j01 (show¬((cpV L).length:d)>16384 by omega),j7]
def fA(m:d)(D:SL)(a b:d)(A:H d):Prop:=m=0/\A=[]\/m≠0/\WkO D m a b (4*D.length+1) A
def fB(r:d)(D:SL)(B:H d):Prop:=r=0/\B=[]\/r≠0/\B=rsts r D
def fC(c:Ø)(z:d×TrL)(w:WL)(D:SL)(a b:d)(C:H d):Prop:=c=Ò/\C=[]\/c=Î/\∃W Q,j30 z w a b=J W/\StS (a-1) W/\(∀u∈W,a<=u.1/\u.2<=b)/\
 j8F D W=J Q/\StS (a-1) Q/\(∀x,inS x Q↔inS x D/\inS x W)/\Q.length<=D.length+420/\C=Q.map (·.1)
theorem jxl{n:d}(h:j3o n=J Ò):0<=n/\n<=604800:=by
 simp only[j3o,j6R]at h;by_cases h1:n<0
 .exfalso;revert h;rw[j01 (show¬(0:d)<=n by omega)]<;>simp
 .by_cases h2:n>604800
  .exfalso;revert h;rw[j01 (show¬n<=(604800:d) by omega)]<;>simp
  .omega
section
variable{zs:H j0D}{ps:H j0h}{cs:H CalT}(hs:SOk2 zs ps cs)
include hs
theorem jBD{ss:H j0r}(hc:j6O (zs,ps,cs,ss)){p:Z}(hp:p<ps.length){a b:d}(ha:0<=a)(hab:a<b)(hb:b<=8589934592)(hlen:b-a<=2592000){D:SL}
  (eD:j9e ((zs,ps,cs,ss),zs.map tb) (p:d) a b=J (D,0))(hD:StS (a-1) D)(lD:D.length<=3600)(bD:∀u∈D,a<=u.1/\u.2<=b)
  {cl:ClL}(eC:j4R (zs,ps,cs,ss) a b=J (cl,0)) :
  ∃A B C,j3i (zs,ps,cs,ss) (p:d) a b=tlV (p:d) cl A B C/\fA ps[p].2.2.2.1 D a b A/\fB ps[p].2.2.2.2.1 D B/\fC ps[p].2.2.2.2.2 (tb (zAt zs ps[p].2.1)) ps[p].2.2.1 D a b C:=by
 have hpc:=hc.pc ps[p] (Ð hp);have hz:ZOk (zAt zs ps[p].2.1):=zget hs.so.ok hpc.z0 hpc.z1;have hgd:ps.getD p (ByteArray.empty,0,[],0,0,Î)=ps[p]:=by simp[Æ,hp]
 have hm:=jxl hpc.m;have hr:=jxl hpc.r
 have hsml:Sml D:=λs hq=>by
  have h1:=bD s hq;have h2:=(hD.mem s hq).2;omega
 obtain⟨A,eA,hA⟩:=jyT (l:=D) omg_ (λs hq=>by have:=bD s hq;omega) hD hm.1 hm.2 ha hab hb;have eB:=jyU (l:=D) omg_ hsml ps[p].2.2.2.2.1;have hll:(tb (zAt zs ps[p].2.1)).2.length<=4:=jd8 hz;obtain⟨W,eW,w1,w2,w3,_⟩:=jmQ hz.ztab.2 (Nat.le_trans hll omg_) hpc.w hpc.wl (M:=5) omg_ ha (Ì hab) hb omg_;have wlen:W.length<=420:=by have:ps[p].2.2.1.length*(5+1)*((tb (zAt zs ps[p].2.1)).2.length+1)<=14*(5+1)*(4+1):=Nat.mul_le_mul (Nat.mul_le_mul_right _ hpc.wl) omg_;omega
 obtain⟨Q,eQ,q1,q2,q3⟩:=jpF hD w1 omg_ omg_;have eG:=jxh (l:=Q) omg_;simp only[j3i,j5N,j7W,j7X];rw[show jbX (zs,ps,cs,ss) (p:d) a b=_ from jxj hs hc hp ha (Ì hab) hb omg_];simp only[j4,bne_self_eq_false,j7];rw[eD];simp only[j4,bne_self_eq_false,j7];rw[show j4R (zs,ps,cs,ss) a b=_ from eC];simp only[j4,bne_self_eq_false,j7];rw[j0O];simp only[j6,j8,hgd];have tq:j7o ((zs,ps,cs,ss),zs.map tb) ps[p].2.1=_:=tabx hpc.z0 hpc.z1;have hfC1:ps[p].2.2.2.2.2=Î->fC ps[p].2.2.2.2.2 (tb (zAt zs ps[p].2.1)) ps[p].2.2.1 D a b (Q.map (·.1)):=λh=> .inr ⟨h,W,Q,eW,w1,w2,eQ,q1,q2,omg_,rfl⟩;have hfC0:ps[p].2.2.2.2.2=Ò->fC ps[p].2.2.2.2.2 (tb (zAt zs ps[p].2.1)) ps[p].2.2.1 D a b []:=λh=> .inl ⟨h,rfl⟩;have eW':j30 ((tb (zAt zs ps[p].2.1)).1,(tb (zAt zs ps[p].2.1)).2) ps[p].2.2.1 a b=J W:=eW;by_cases hm0:ps[p].2.2.2.1=0
 .rw[show (ps[p].2.2.2.1 != (0:d))=Î by rw[hm0];rfl];simp only[j7];by_cases hr0:ps[p].2.2.2.2.1=0
  .rw[show (ps[p].2.2.2.2.1 != (0:d))=Î by rw[hr0];rfl];simp only[j7];cases hcn:ps[p].2.2.2.2.2 with
   |false=>simp only[Â,j6,tq,j4,eW',eQ];rw[j01 (show¬G Q.length>4096 by show¬(Q.length:d)>4096;omega)];simp only[j7,eG,j4];exact⟨[],[],Q.map (·.1),rfl,.inl ⟨hm0,rfl⟩,.inl ⟨hr0,rfl⟩,hcn▸hfC1 hcn⟩
   |true=>simp only[U,j7];exact⟨[],[],[],rfl,.inl ⟨hm0,rfl⟩,.inl ⟨hr0,rfl⟩,hcn▸hfC0 hcn⟩
  .rw[show (ps[p].2.2.2.2.1 != (0:d))=Ò from bne_iff_ne.2 hr0];simp only[j6,eB,j4];cases hcn:ps[p].2.2.2.2.2 with
   |false=>simp only[Â,j6,tq,j4,eW',eQ];rw[j01 (show¬G Q.length>4096 by show¬(Q.length:d)>4096;omega)];simp only[j7,eG,j4];exact⟨[],_,Q.map (·.1),rfl,.inl ⟨hm0,rfl⟩,.inr ⟨hr0,rfl⟩,hcn▸hfC1 hcn⟩
   |true=>simp only[U,j7];exact⟨[],_,[],rfl,.inl ⟨hm0,rfl⟩,.inr ⟨hr0,rfl⟩,hcn▸hfC0 hcn⟩
 .rw[show (ps[p].2.2.2.1 != (0:d))=Ò from bne_iff_ne.2 hm0];simp only[j6,eA,j4];by_cases hr0:ps[p].2.2.2.2.1=0
  .rw[show (ps[p].2.2.2.2.1 != (0:d))=Î by rw[hr0];rfl];simp only[j7];cases hcn:ps[p].2.2.2.2.2 with
   |false=>simp only[Â,j6,tq,j4,eW',eQ];rw[j01 (show¬G Q.length>4096 by show¬(Q.length:d)>4096;omega)];simp only[j7,eG,j4];exact⟨A,[],Q.map (·.1),rfl,.inr ⟨hm0,hA⟩,.inl ⟨hr0,rfl⟩,hcn▸hfC1 hcn⟩
   |true=>simp only[U,j7];exact⟨A,[],[],rfl,.inr ⟨hm0,hA⟩,.inl ⟨hr0,rfl⟩,hcn▸hfC0 hcn⟩
  .rw[show (ps[p].2.2.2.2.1 != (0:d))=Ò from bne_iff_ne.2 hr0];simp only[j6,eB,j4];cases hcn:ps[p].2.2.2.2.2 with
   |false=>simp only[Â,j6,tq,j4,eW',eQ];rw[j01 (show¬G Q.length>4096 by show¬(Q.length:d)>4096;omega)];simp only[j7,eG,j4];exact⟨A,_,Q.map (·.1),rfl,.inr ⟨hm0,hA⟩,.inr ⟨hr0,rfl⟩,hcn▸hfC1 hcn⟩
   |true=>simp only[U,j7];exact⟨A,_,[],rfl,.inr ⟨hm0,hA⟩,.inr ⟨hr0,rfl⟩,hcn▸hfC0 hcn⟩
end
theorem jrm{k:d}:∀{l:SL}{p x:d},x∈rst k p l->∃s∈l,s.1=x
 |s::r,p,x,h=>by
  simp only[rst]at h;split at h
  .rcases List.mem_cons.1 h with rfl|h
   .exact⟨s,smp_,rfl⟩
   .obtain⟨u,hu,e⟩:=jrm h;exact⟨u,by simp[hu],e⟩
  .obtain⟨u,hu,e⟩:=jrm h;exact⟨u,by simp[hu],e⟩
theorem jyY{k:d}{l:SL}{x:d}(h:x∈rsts k l):∃s∈l,s.1=x:=by
 match l,h with
 |s::r,h=>obtain⟨u,hu,e⟩:=jrm h;exact⟨u,by simp[hu],e⟩
theorem jyZ{k:d}{l:SL}:(rsts k l).length<=l.length:=by
 match l with
 |[]=>simp[rsts]
 |s::r=>have:=jxg k r s.2;simp only[rsts,List.length_cons];omega
section
variable{zs:H j0D}{ps:H j0h}{cs:H CalT}(hs:SOk2 zs ps cs)
include hs
end
section
variable{zs:H j0D}{ps:H j0h}{cs:H CalT}(hs:SOk2 zs ps cs)
include hs
theorem jxm{s:j0r}(hc:j6O (zs,ps,cs,[s]))(hll:s.2.1.length<=3)(hel:s.2.2.length<=48){a b:d}(ha:0<=a)(hab:a<b)(hb:b<=8589934592)(hlen:b-a<=2592000) :
  j4R (zs,ps,cs,[s]) a b=J ([],0):=by
 obtain⟨S,e,_,lS⟩:=joa hs (hc.sc s smp_) hll hel (ss:=[s]) ha hab hb hlen;have e1:j6k a b [s] 1 0 zs ps cs [s] (zs.map tb) []=J (.inr [S]):=by rw[j9W];simp only[j2t,o];rw[j00 (show (0:d)<1 by omega),j0X (show (0:d)<=0 by omega) (show (0:d)<((1:Z):d) by omega)];simp only[j6,show Ë 0=0 from rfl,R];rw[show j1N ((zs,ps,cs,[s]),zs.map tb) (s.1,s.2.1,s.2.2) a b=_ from e];simp only[j4,show G S.length=(S.length:d) from rfl];rw[j01 (show¬(S.length:d)>16384 by omega),j7,j00 (show ([]:H SgL).length+1<=j02 by simp[j02]),j6,j05 (x:=(0:d)+1),j03,j9W];simp only[j2t];rw[j01 (show¬(0:d)+1<1 by omega),j7,j06];rfl
 have e5:j8G 0 1 1 0 [S] []=J (1,0,[S],[]):=by rw[jeR];simp only[j3U,o];rw[j01 (show¬(1:d)<G 1 by decide),j7,j06]
 have e3:j6l 1 0 [S] []=J []:=by rw[j9X];simp only[j2u];rw[j00 (show (0:d)<1 by omega),j05 (x:=(0:d)+1),j6,show (0:d)+1=1 by omega,e5];simp only[j4];rw[j05 (x:=(0:d)+1),j03,j9X];simp only[j2u];rw[j01 (show¬(0:d)+1<1 by omega),j7,j06]
 have e4:j1F []=J []:=by kernel_rfl
 simp only[j4R,jwf hs.so.ok hc,j4,U,j7,ja9];rw[j05 (x:=b-a),j00 (show a>=0 by omega),j00 (show a<=8589934592 by omega),j00 (show b>=a by omega),j00 (show b<=8589934592 by omega),j00 (show b-a<=34560000 by omega)];simp only[j6,U,j7,o];rw[show j6k a b [s] (G 1) 0 zs ps cs [s] (zs.map tb) []=_ from e1];simp only[j4,j4j,o];rw[show j6l (G 1) 0 [S] []=_ from e3];simp only[j4,List.length_nil];rw[j01 (show¬G 0>16384 by decide),j7,e4];rfl
theorem jsy{s:j0r}(hc:j6O (zs,ps,cs,[s]))(hll:s.2.1.length<=3)(hel:s.2.2.length<=48){p:Z}(hp:p<ps.length){a b:d}(ha:0<=a)(hab:a<b)(hb:b<=8589934592)(hlen:b-a<=2592000) :
  ∃V,j3i (zs,ps,cs,[s]) (p:d) a b=J (V,0)/\V.length<=16384:=by
 have hp1:=hs.so.p1;obtain⟨D,eD,d1,d2,d3,d4⟩:=jtZ hs (ss:=[s]) (p:=(p:d)) (λu h=>by simp only[È]at h;subst h;exact⟨hc.sc u smp_,hll,hel⟩) smp_ ha hab hb hlen rfl;rw[o]at d3;obtain⟨A,B,C,eV,hA,hB,hC⟩:=jBD hs hc hp ha hab hb hlen eD d1 omg_ d4 (jxm hs hc hll hel ha hab hb hlen)
 have lA:A.length<=5001/\∀t∈A,a<t/\t<=b:=by
  rcases hA with⟨_,rfl⟩|⟨_,h⟩
  .simp
  .have:=h.len;refine⟨by split at this<;>omega,λt ht=>⟨(h.ok t ht).1,(h.ok t ht).2.1⟩⟩
 have lB:B.length<=1250/\∀t∈B,a<=t/\t<=b:=by
  rcases hB with⟨_,rfl⟩|⟨_,rfl⟩
  .simp
  .have:=jyZ (k:=ps[p].2.2.2.2.1) (l:=D);refine⟨omg_,λt ht=>?_⟩;obtain⟨u,hsm,rfl⟩:=jyY ht;have h1:=d4 u hsm;have h2:=(d1.mem u hsm).2;omega
 have lC:C.length<=1670/\∀t∈C,a<=t/\t<=b:=by
  rcases hC with⟨_,rfl⟩|⟨_,W,Q,_,_,_,_,q1,q2,q3,rfl⟩
  .simp
  .refine⟨by rw[Õ];omega,λt ht=>?_⟩;obtain⟨u,hsm,rfl⟩:=List.mem_map.1 ht;have h2:=(q1.mem u hsm);have:=(d2 u.1).1 ((q2 u.1).1 ⟨u,hsm,omg_,omg_⟩).1;omega
 obtain⟨V,e,_,_,v3⟩:=jDU (p:=(p:d)) omg_ (cl:=[]) (A:=A) (B:=B) (C:=C) (by simp[clP];omega) smp_ (λt ht=>by
  rcases ht with h|h|h|h
  .have:=lA.2 t h;omega
  .have:=lB.2 t h;omega
  .have:=lC.2 t h;omega
  .simp[clP]at h)
 refine⟨V,eV.trans e,?_⟩;simp[clP]at v3;omega
end
theorem jxn{α β:Type}{f:α->Ú β}{X:Ø}{A B:Ú (α ⊕ β)}(h1:∃r,lpK A f=J r)(h2:∃r,lpK B f=J r):∃r,lpK (cond X A B) f=J r:=by
 cases X
 .exact h2
 .exact h1
theorem jDl{α:Type}{X:Ø}{A B:Ú α}(h1:∃r,A=J r)(h2:∃r,B=J r):∃r,cond X A B=J r:=by
 cases X
 .exact h2
 .exact h1
theorem jDm{es:H j1D}(hl:es.length<=1000){p a b:d}:∀(n i:Z),i+n=es.length->∃r,j1i es p a b (es.length:d) (i:d)=J r
 |0,i,hi=>by
  rw[j3k];simp only[j0A];rw[j01 omg_,j7,j06];exact⟨_,rfl⟩
 |n+1,i,hi=>by
  obtain⟨r,ih⟩:=jDm hl (p:=p) (a:=a) (b:=b) n (i+1) omg_;rw[show ((i+1:Z):d)=(i:d)+1 by omega]at ih;rw[j3k];simp only[j0A,jbW,j4];rw[j00 (show (i:d)<(es.length:d) by omega),j0O,j05 (x:=(i:d)+1),j6,j6];exact jxn ⟨_,j06 _ _⟩ ⟨_,(j03 _ _).trans ih⟩
theorem jBE{s:j0r}(hl:s.2.2.length<=1000)(p a b:d):∃r,jaC s p a b=J r:=by
 obtain⟨r,e⟩:=jDm hl (p:=p) (a:=a) (b:=b) s.2.2.length 0 omg_;simp only[jaC,j24,j2B];rw[show j1i s.2.2 p a b (G s.2.2.length) 0=_ from e];cases r<;>exact⟨_,rfl⟩
theorem jDn{V:SgL}(hl:V.length<=100000){x y z:d}:∀(n i:Z),i+n=V.length->∃r,j0P V (V.length:d) (i:d) x y z=J r
 |0,i,hi=>by
  rw[j2j];simp only[j0n];rw[j01 omg_,j7,j06];exact⟨_,rfl⟩
 |n+1,i,hi=>by
  obtain⟨r,ih⟩:=jDn hl (x:=x) (y:=y) (z:=z) n (i+1) omg_;rw[show ((i+1:Z):d)=(i:d)+1 by omega]at ih;rw[j2j];simp only[j0n];rw[j00 (show (i:d)<(V.length:d) by omega),j0O,j05 (x:=(i:d)+1),j6,j6];exact jxn ⟨_,j06 _ _⟩ ⟨_,(j03 _ _).trans ih⟩
theorem jDo{V:SgL}(hl:V.length<=100000)(x:SgT):∃r,j85 x V=J r:=by
 obtain⟨r,e⟩:=jDn hl (x:=x.1) (y:=x.2.1) (z:=x.2.2) V.length 0 omg_;simp only[j85,j1w,j1J];rw[show j0P V (G V.length) 0 x.1 x.2.1 x.2.2=_ from e];cases r<;>exact⟨_,rfl⟩
theorem jDp{V W:SgL}(hl:V.length<=100000)(hw:W.length<=100000):∀(n i:Z),i+n=V.length->∃r,j0G V W (V.length:d) (i:d)=J r
 |0,i,hi=>by
  rw[j1P];simp only[j0e];rw[j01 omg_,j7,j06];exact⟨_,rfl⟩
 |n+1,i,hi=>by
  obtain⟨r,ih⟩:=jDp hl hw n (i+1) omg_;rw[show ((i+1:Z):d)=(i:d)+1 by omega]at ih;rw[j1P];simp only[j0e];obtain⟨c,ec⟩:=jDo hw (V.getD ((i:d).toNat) (0,0,0));rw[j00 (show (i:d)<(V.length:d) by omega),j0O,j05 (x:=(i:d)+1),j6,j6];rw[show j85 ((V.getD ((i:d).toNat) (0,0,0)).1,(V.getD ((i:d).toNat) (0,0,0)).2.1,(V.getD ((i:d).toNat) (0,0,0)).2.2) W=_ from ec];simp only[j4];exact jxn ⟨_,j06 _ _⟩ ⟨_,(j03 _ _).trans ih⟩
theorem jz0{V W:SgL}(hl:V.length<=100000)(hw:W.length<=100000):∃r,j0H V W=J r:=by
 obtain⟨r,e⟩:=jDp hl hw V.length 0 omg_;simp only[j0H,j1n];rw[show j0G V W (G V.length) 0=_ from e];cases r<;>exact⟨_,rfl⟩
section
variable{zs:H j0D}{ps:H j0h}{cs:H CalT}(hs:SOk2 zs ps cs)
include hs
theorem jDV{p:Z}(hp:p<ps.length){a b:d}(ha:1766016000<=a)(hab:a<b)(hb:b<=1771200000):ECk ps.length ((1:d),(p:d),(0:d),a,b):=by
 have _:=hs;refine⟨?_,?_,?_,?_,?_,?_,?_,?_,?_⟩
 case refine_9=>show j16 (Int.tdiv b 86400)=J Ò;rw[Int.tdiv_eq_ediv_of_nonneg (show 0<=b by omega)];exact js9 omg_ omg_
 all_goals dsimp only<;>omega
theorem jDW{c:CfgT}{s:j0r}(hll:s.2.1.length<=6)(hel:s.2.2.length=49):j1p c s=J 5:=by
 have _:=hs;simp only[j1p,show G s.2.1.length=(s.2.1.length:d) from rfl,show G s.2.2.length=(s.2.2.length:d) from rfl];rw[j01 (show¬(s.2.1.length:d)>6 by omega),j00 (show (s.2.2.length:d)>48 by omega)];rfl
theorem jrn{nm:Ï}{ls:H j0b}{es es':H j1D}(h:j6O (zs,ps,cs,[(nm,ls,es)]))(he:es'.length=49):j1R (zs,ps,cs,[(nm,ls,es')])=J 5:=by
 have hzl:=h.zl;have hpl:=h.pl;have hcl:=h.cl;have hll:=(h.sc (nm,ls,es) smp_).ll;dsimp only at hzl hpl hcl hll;have lp:=jAT (zs:=zs) (ps:=ps) (cs:=cs) (ss:=[(nm,ls,es')]) h.pn h.pc omg_ ps.length 0 omg_;have h1:=jj2 (λx:j0r=>x.1) (xs:=[(nm,ls,es')]) h.sn (i:=0) smp_;have e1:j13 zs ps cs [(nm,ls,es')] [(nm,ls,es')] 1 0 []=J (.inl 5):=by rw[j31];simp only[j0I,j8l,j8m,o];rw[j00 (show (0:d)<1 by omega),j0X (show (0:d)<=0 by omega) (show (0:d)<((1:Z):d) by omega)];simp only[j6,show Ë 0=0 from rfl,R,j4];rw[show j4V nm []=_ from h1];simp only[j4,bne_self_eq_false,j7];rw[show j1p (zs,ps,cs,[(nm,ls,es')]) (nm,ls,es')=_ from jDW hs hll he];rfl
 simp only[j1R,show G zs.length=(zs.length:d) from rfl,show G ps.length=(ps.length:d) from rfl,show G cs.length=(cs.length:d) from rfl,o];rw[j01 (show¬(zs.length:d)>16 by omega),j01 (show¬(ps.length:d)>32 by omega),j01 (show¬(cs.length:d)>8 by omega),j01 (show¬G 1>12 by decide)];simp only[j7,jCe (zs:=zs) h.zn h.zc omg_,j4,bne_self_eq_false];rw[show j6w ps (ps.length:d) 0 zs ps cs [(nm,ls,es')] []=_ from lp];simp only[j4,j4j,jCi (zs:=zs) (ps:=ps) (cs:=cs) (ss:=[(nm,ls,es')]) h.cn h.cc omg_,bne_self_eq_false,j7,j36,o];rw[show j13 zs ps cs [(nm,ls,es')] [(nm,ls,es')] (G 1) 0 []=_ from e1];rfl
theorem jxo{nm:Ï}{ls:H j0b}{es:H j1D}(hc:j6O (zs,ps,cs,[(nm,ls,es)]))(hel:es.length=48){p:d}{a b:d} :
  ∃c,j4m (zs,ps,cs,[(nm,ls,es)]) 0 p a b=J (c,5):=by
 simp only[j4m,jbC,jsm hc,j4,bne_self_eq_false,j7,o];rw[j0X (show (0:d)<=0 by omega) (show (0:d)<((1:Z):d) by omega),j6,j00 (by simp[j02];omega),j6,jrn hs hc (by simp[hel])];exact⟨_,rfl⟩
theorem jpM{nm:Ï}{ls:H j0b}{es:H j1D}(hc:j6O (zs,ps,cs,[(nm,ls,es)]))(hel:es.length<=47){p:Z}(hp:p<ps.length){a b:d}(ha:1766016000<=a)(hab:a<b)(hb:b<=1771200000) :
  j6O (zs,ps,cs,[(nm,ls,es++[((1:d),(p:d),(0:d),a,b)])])/\
   j4m (zs,ps,cs,[(nm,ls,es)]) 0 (p:d) a b=J ((zs,ps,cs,[(nm,ls,es++[((1:d),(p:d),(0:d),a,b)])]),0):=by
 have hc':=jD3 hs hc (es':=es++[((1:d),(p:d),(0:d),a,b)]) (λy hy=>by
  rcases List.mem_append.1 hy with h|h
  .exact(hc.sc (nm,ls,es) smp_).ed y h
  .simp only[È]at h;subst h;exact jDV hs hp ha hab hb) sqo_
 refine⟨hc',?_⟩;simp only[j4m];rw[show jbC (zs,ps,cs,[(nm,ls,es)]) 0 ((1:d),(p:d),(0:d),a,b)=_ from jwL hc hc'];rfl
theorem jDq{nm:Ï}{ls:H j0b}{es:H j1D}(hc:j6O (zs,ps,cs,[(nm,ls,es)]))(hll:ls.length<=3){p:Z}(hp:p<ps.length){a b:d}(ha:1766016000<=a)(hab:a<b)(hb:b<=1771200000)(hlen:b-a<=172800) :
  ∃m,j5k (zs,ps,cs,[(nm,ls,es)]) 0 (p:d) a b=J m/\(m=Ò->es.length<=47):=by
 have hel:es.length<=48:=(hc.sc (nm,ls,es) smp_).el;by_cases h48:es.length=48
 .obtain⟨c,e⟩:=jxo hs hc h48 (p:=(p:d)) (a:=a) (b:=b);refine⟨Î,?_,λh=>by simp at h⟩;simp only[j5k];rw[j01 (show¬(p:d)<0 by omega),j7,show j4m (zs,ps,cs,[(nm,ls,es)]) 0 (p:d) a b=_ from e];simp only[j4,o];rw[j0X (show (0:d)<=0 by omega) (show (0:d)<((1:Z):d) by omega)];rfl
 suffices h:∃m,j5k (zs,ps,cs,[(nm,ls,es)]) 0 (p:d) a b=J m by
  obtain⟨m,e⟩:=h;exact⟨m,e,λ_=>omg_⟩
 obtain⟨hc',e1⟩:=jpM hs hc omg_ hp ha hab hb;obtain⟨r,e2⟩:=jBE (s:=(nm,ls,es)) (show es.length<=1000 by omega) (p:d) a b;simp only[j5k];rw[j01 (show¬(p:d)<0 by omega),j7,show j4m (zs,ps,cs,[(nm,ls,es)]) 0 (p:d) a b=_ from e1];simp only[j4,o];rw[j0X (show (0:d)<=0 by omega) (show (0:d)<((1:Z):d) by omega)];simp only[Bool.true_or,j6,bne_self_eq_false,j7,show Ë 0=0 from rfl,R];rw[show jaC (nm,ls,es) (p:d) a b=_ from e2];simp only[j4];refine jDl ⟨_,rfl⟩ ?_;rw[j05 (x:=a-604800),j05 (x:=b+604800)];generalize hA:(if a-604800>(0:d) then a-604800 else (0:d):d)=A;generalize hB:(if b+604800<(8589934592:d) then b+604800 else (8589934592:d):d)=B;have hAB:0<=A/\A<B/\B<=8589934592/\B-A<=2592000:=by rw[<-hA,<-hB];split<;>split<;>omega
 obtain⟨V,e3,l3⟩:=jsy hs hc hll hel hp hAB.1 hAB.2.1 hAB.2.2.1 hAB.2.2.2;obtain⟨W,e4,l4⟩:=jsy hs hc' hll (by simp only[N,o];omega) hp hAB.1 hAB.2.1 hAB.2.2.1 hAB.2.2.2;obtain⟨c,e5⟩:=jz0 (V:=W) (W:=V) omg_ omg_;rw[show j3i (zs,ps,cs,[(nm,ls,es)]) (p:d) A B=_ from e3];simp only[j4];rw[e4];simp only[j4,bne_self_eq_false,j7,e5];exact⟨_,rfl⟩
end
abbrev CnL:=H (d×d)
def cnL(M:Z->Ø)(L:H LdT):Z->Z->CnL
 |_,0=>[]
 |i,n+1=>cond (M i) [((i:d),wgt (i:d) L)] []++cnL M L (i+1) n
theorem jro{M:Z->Ø}{L:H LdT}:∀{n i:Z}{x:d×d},x∈cnL M L i n->∃k:Z,i<=k/\k<i+n/\x=((k:d),wgt (k:d) L)/\M k=Ò
 |0,i,x,h=>by simp[cnL]at h
 |n+1,i,x,h=>by
  simp only[cnL]at h;rcases List.mem_append.1 h with h|h
  .cases hm:M i with
   |true=>rw[hm,j6,È]at h;exact⟨i,omg_,omg_,h,hm⟩
   |false=>rw[hm,j7]at h;simp at h
  .obtain⟨k,h1,h2,h3⟩:=jro h;exact⟨k,omg_,omg_,h3⟩
theorem jxp{M:Z->Ø}{L:H LdT}:∀(n i:Z),(cnL M L i n).length<=n
 |0,i=>Nat.le_refl 0
 |n+1,i=>by
  have:=jxp (M:=M) (L:=L) n (i+1);simp only[cnL,N];cases M i<;>simp<;>omega
theorem jDr{L:H LdT}(hl:L.length<=100000){p:d}:∀(n i:Z),i+n=L.length->(∃k:Z,∃h:k<L.length,j0w L p (L.length:d) (i:d)=J (.inl (k:d))/\L[k].2.2=wgt p (L.drop i))\/
   j0w L p (L.length:d) (i:d)=J (.inr ())/\wgt p (L.drop i)=0
 |0,i,hi=>by
  right;rw[j3l,O omg_];simp only[j0C];rw[j01 omg_,j7,j06];exact⟨rfl,rfl⟩
 |n+1,i,hi=>by
  have hlt:i<L.length:=omg_;have ih:=jDr hl (p:=p) n (i+1) omg_;rw[show ((i+1:Z):d)=(i:d)+1 by omega]at ih;have hgd:L.getD i (0,0,0)=L[i]:=by simp[Æ,hlt]
  rw[j3l,I hlt];simp only[j0C,j7p,j4,wgt];rw[j00 (show (i:d)<(L.length:d) by omega),j0O,j05 (x:=(i:d)+1)];simp only[j6,j8,hgd];by_cases hp:L[i].1=p
  .rw[j43 hp,j6,j06,if_pos hp];exact .inl ⟨i,hlt,rfl,rfl⟩
  .rw[j1G hp,j7,j03,if_neg hp];exact ih
section
variable{zs:H j0D}{ps:H j0h}{cs:H CalT}{ss:H j0r}{M:Z->Ø}{L:H LdT}{a b:d}
theorem jBF(hM:∀i:Z,i<ps.length->j5k (zs,ps,cs,ss) 0 (i:d) a b=J (M i))(hp:ps.length<=100000)(hl:L.length<=100000):∀(n i:Z)(acc:CnL),i+n=ps.length->acc.length<=i->
  j53 0 a b (ps.length:d) (i:d) zs ps cs ss L acc=J (acc++cnL M L i n)
 |0,i,acc,hi,_=>by
  rw[j8R];simp only[j1Z];rw[j01 omg_,j7,j06];simp[cnL]
 |n+1,i,acc,hi,ha=>by
  have hm:=hM i omg_;rw[j8R];simp only[j1Z];rw[j00 (show (i:d)<(ps.length:d) by omega),j05 (x:=(i:d)+1),j6,hm];simp only[j4,cnL];cases hmi:M i with
  |false=>have ih:=jBF hM hp hl n (i+1) acc omg_ omg_;rw[show ((i+1:Z):d)=(i:d)+1 by omega]at ih;rw[Â,j6,j03,j7,Ã];exact ih
  |true=>
   have ih:=jBF hM hp hl n (i+1) (acc++[((i:d),wgt (i:d) L)]) omg_ (by rw[N,o];omega);rw[show ((i+1:Z):d)=(i:d)+1 by omega,À]at ih;rw[U,j7,j6];simp only[j2C];rcases jDr hl (p:=(i:d)) L.length 0 omg_ with⟨k,hk,e,ew⟩|⟨e,ew⟩
   .have hgd:L.getD k (0,0,0)=L[k]:=by simp[Æ,hk]
    rw[Á]at ew;rw[show j0w L (i:d) (G L.length) 0=_ from e];simp only[j4,jjS];rw[j00 (show (k:d)>=0 by omega),j0X (show (0:d)<=(k:d) by omega) (show (k:d)<(L.length:d) by omega)];simp only[j6,j8,hgd,ew,o];rw[j00 (show acc.length+1<=j02 by simp[j02];omega),j6,j03];exact ih
   .rw[Á]at ew;rw[ew]at ih;rw[show j0w L (i:d) (G L.length) 0=_ from e];simp only[j4,j4j];rw[j01 (show¬(-1:d)>=0 by omega)];simp only[j7,o,ew];rw[j00 (show acc.length+1<=j02 by simp[j02];omega),j6,j03];exact ih
end
abbrev ltC(x y:d×d):Prop:=x.2<y.2\/x.2=y.2/\x.1<y.1
theorem jDs{x y:d×d}(hx:(-1152921504606846976<=x.1/\x.1<=1152921504606846976)/\(-1152921504606846976<=x.2/\x.2<=1152921504606846976))(hy:(-1152921504606846976<=y.1/\y.1<=1152921504606846976)/\(-1152921504606846976<=y.2/\y.2<=1152921504606846976)) :
  (j15 x y).getD 0<0↔ltC x y:=by
 unfold ltC;simp only[j15];by_cases q:x.2=y.2
 .rw[show (x.2 != y.2)=Î by simp[q],j7,j05];simp only[Ó];omega
 .rw[show (x.2 != y.2)=Ò by simp[q],j6,j05];simp only[Ó];omega
theorem jDt:Go.Sort.SWO (Ä λ(x y:Go.Lft.Sml (.pair (.int .i64) (.int .i64)))=>(j15 x.1 y.1).getD 0):=by
 have key:∀x:Go.Lft.Sml (.pair (.int .i64) (.int .i64)),(-1152921504606846976<=(x.1.1:d)/\(x.1.1:d)<=1152921504606846976)/\(-1152921504606846976<=(x.1.2:d)/\(x.1.2:d)<=1152921504606846976):=λx=>by
  have:=x.2;simp only[j3s,Ô,decide_eq_true_eq]at this;exact this
 have e:∀x y:Go.Lft.Sml (.pair (.int .i64) (.int .i64)),Ä (λ(x y:Go.Lft.Sml (.pair (.int .i64) (.int .i64)))=>(j15 x.1 y.1).getD 0) x y=decide (ltC x.1 y.1):=λx y=>by
  unfold Ä;exact decide_eq_decide.2 (jDs (key x) (key y))
 refine⟨λx=>?_,λx y z=>?_,λx y z=>?_⟩
 .rw[e];simp only[ltC];exact decide_eq_false omg_
 .rw[e,e,e];exactλh1 h2=>decide_eq_true (by have h1:=of_decide_eq_true h1;have h2:=of_decide_eq_true h2;unfold ltC at *;omega)
 .rw[e,e,e];exactλh1 h2=>decide_eq_false (by have h1:=of_decide_eq_false h1;have h2:=of_decide_eq_false h2;unfold ltC at *;omega)
theorem jz1{l:CnL}(hl:l.length<=1000000000)(hb:∀x∈l,(-1000000000000000<=x.1/\x.1<=1000000000000000)/\(-1000000000000000<=x.2/\x.2<=1000000000000000)) :
  ∃Y,j0f l=J Y/\Y.Perm l/\Y.Pairwise λx y=>¬ltC y x:=by
 obtain⟨Y,e,hp,hs⟩:=jjV (a:= .pair (.int .i64) (.int .i64)) (cf:=λx y=>(j15 x y).getD 0) jDt (xs:=l) (λx hx=>by
  have:=hb x hx;simp only[j3s,Ô,decide_eq_true_eq];refine⟨⟨?_,?_⟩,⟨?_,?_⟩⟩
  .exact É (by decide) this.1.1
  .exact É this.1.2 (by decide)
  .exact É (by decide) this.2.1
  .exact É this.2.2 (by decide)) (by show Ê l<_;omega)
 refine⟨Y,e,hp,hs.imp_of_mem λ{x y} hx hy h q=>h ((jDs ?_ ?_).2 q)⟩
 .have:=hb y (hp.mem_iff.1 hy);omega
 .have:=hb x (hp.mem_iff.1 hx);omega
theorem jA7{Y:CnL}(hl:Y.length<=100000):∀(n i:Z)(acc:H d),i+n=Y.length->acc.length=i->
  j54 (Y.length:d) (i:d) acc Y=J (acc++(Y.drop i).map (·.1))
 |0,i,acc,hi,_=>by
  rw[j8S,O omg_];simp only[j20];rw[j01 omg_,j7,j06];simp
 |n+1,i,acc,hi,ha=>by
  have hlt:i<Y.length:=omg_;have hgd:Y.getD i (0,0)=Y[i]:=by simp[Æ,hlt]
  have ih:=jA7 hl n (i+1) (acc++[Y[i].1]) omg_ (by simp[ha]);rw[show ((i+1:Z):d)=(i:d)+1 by omega,À]at ih;rw[j8S,I hlt];simp only[j20];rw[j00 (show (i:d)<(Y.length:d) by omega),j0X (show (0:d)<=(i:d) by omega) omg_,j05 (x:=(i:d)+1)];simp only[j6,j8,hgd,o];rw[j00 (show acc.length+1<=j02 by simp[j02];omega),j6,j03];exact ih
theorem jxq:jg8=J true:=by kernel_rfl
end Go.Proofs.Pw
