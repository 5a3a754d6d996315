/- Loads: what load.Loads without weights gives. -/
import Derived.Test.YtgepoeafaklbjaaGreatPFPH
import Derived.Test.YtgepoeafaklbjaaGreatPFPA
import Derived.Test.YtgepoeafaklbjaaGreatPFPD
import Derived.Test.YtgepoeafaklbjaaGreatPFPC
import Derived.Test.YtgepoeafaklbjaaGreatPFFns
open _root_ renaming Int->D,List->F,Nat->J,ByteArray->Î,Option->Ó
open List renaming drop_eq_getElem_cons->E,getD->N,drop_zero->O,length_cons->U,length_nil->W,drop_of_length_le->X,mem_cons->Z,eq_nil_or_concat->Á,concat_eq_append->Â,length_filter_le->Ã,append_assoc->Å,getElem_mem->Ç,not_mem_nil->É,nil_append->Ê
open Int renaming ofNat->G,le_refl->Y,add_zero->Ð
open Option renaming some->H,none->Ò
open Decidable renaming decide->I
open List.Pairwise renaming nil->À
open List.Perm renaming refl->Ä,swap->Õ
open Nat renaming le_refl->È,mul_le_mul->Ë,mul_succ->Ñ
open Go Go.Lft
namespace Go.Proofs.Pw
abbrev LdT:=D×D×D
abbrev MpL:=F (D×LdT)
def tot(p:D):SgL->D
 |[]=>0
 |s::r=>(if s.2.2=p then s.2.1-s.1 else 0)+tot p r
theorem jwU(p:D):∀(l r:SgL),tot p (l++r)=tot p l+tot p r
 |[],r=>by simp[tot]
 |s::l,r=>by simp only[List.cons_append,tot,jwU p l r];omega
theorem Ch.tot_le{f:D->D}{b p:D}:∀{l:SgL}{a:D},Ch f b a l->0<=tot p l/\tot p l<=b-a
 |[],a,h=>by have h:a=b:=h;simp[tot];omega
 |s::r,a,h=>by
  obtain⟨h1,h2,h3,h4⟩:=h;have:=h4.tot_le (p:=p);simp only[tot];split<;>omega
structure MpOk(m:MpL)(np:J)(n:J):Prop where
 len:m.length<=n
 key:∀x∈m,0<=x.1/\x.1<(np:D)/\x.2.1=x.1
theorem jtR{β:Type}{m:F (D×β)}{k:D}{v:β}:∀{x:D×β},x∈j2Y m k v->x∈m\/x=(k,v):=by
 induction m with
 |nil=>intro x hx;simp[j2Y]at hx;exact .inr hx
 |cons y r ih=>
  intro x hx;simp only[j2Y]at hx;by_cases h:k=y.1
  .rw[j43 h,j6]at hx;rcases List.mem_cons.1 hx with rfl|hx
   .exact .inr (by rw[h])
   .exact .inl (by simp[hx])
  .rw[j1G h,j7]at hx;rcases List.mem_cons.1 hx with rfl|hx
   .exact .inl smp_
   .exact(ih hx).imp (λh=>by simp[h]) id
theorem jtS{β:Type}{m:F (D×β)}{k:D}{v:β}:(j2Y m k v).length<=m.length+1:=by
 induction m with
 |nil=>simp[j2Y]
 |cons y r ih=>
  simp only[j2Y];cases k==y.1 with
  |true=>simp
  |false=>simp only[j7,U];omega
def ld0:LdT:=((0:D),(0:D),(0:D))
theorem jtT{m:MpL}{k:D}(h:j38 m k=true):(k,j1x ld0 m k)∈m:=by
 induction m with
 |nil=>simp[j38]at h
 |cons y r ih=>
  by_cases hk:k=y.1
  .have:j1x ld0 (y::r) k=y.2:=by show cond (k==y.1) y.2 (j1x ld0 r k)=y.2;rw[j43 hk];rfl
   rw[this,hk];simp
  .have e:j1x ld0 (y::r) k=j1x ld0 r k:=by show cond (k==y.1) y.2 (j1x ld0 r k)=_;rw[j1G hk];rfl
   have h2:j38 r k=true:=by have:j38 (y::r) k=(k==y.1||j38 r k):=rfl;rw[this,j1G hk,Bool.false_or]at h;exact h
   rw[e];exact List.mem_cons_of_mem _ (ih h2)
theorem jwV{m:MpL}{k:D}(h:j38 m k=false):j1x ld0 m k=ld0:=by
 induction m with
 |nil=>rfl
 |cons y r ih=>have:j38 (y::r) k=(k==y.1||j38 r k):=rfl;rw[this,Bool.or_eq_false_iff]at h;show cond (k==y.1) y.2 (j1x ld0 r k)=_;rw[h.1];exact ih h.2
theorem jtU{m:MpL}{k:D}:j38 m k=true↔k∈m.map (λx=>x.1):=by
 unfold j38;rw[List.any_eq_true,List.mem_map];constructor
 .rintro⟨x,hx,h⟩
  exact⟨x,hx,(by simpa using h:k=x.1).symm⟩
 .rintro⟨x,hx,h⟩
  exact⟨x,hx,by simp[h]⟩
theorem jwW{np:J}{f:D->D}{u:D}(hu:u<=8589934592){S:SgL}(hl:S.length<=100000){a1 a2 w1 w2:D}{ws:F ((D×D)×D)}{o:D}{tl:TrL}(hp:∀s∈S,s.2.2<(np:D)) :
  ∀(n i:J)(m:MpL)(x:D),i+n=S.length->0<=x->Ch f u x (S.drop i)->MpOk m np i->(∀p,0<=p->(j1x ld0 m p).2.1=tot p (S.take i)/\(j1x ld0 m p).2.2=tot p (S.take i))->(∀p,0<=p->tot p (S.take i)<=x)->
  (∀p,0<=p->0<=tot p (S.take i))->
  ∃m',jbk a1 a2 ws (S.length:D) (i:D) o tl S m=H (a1,a2,ws,o,tl,S,m')/\MpOk m' np S.length/\∀p,0<=p->(j1x ld0 m' p).2.2=tot p S
 |0,i,m,x,hi,hx0,hc,hm,hv,hb,hb0=>by
  refine⟨m,?_,⟨by have:=hm.len;omega,hm.key⟩,λp h=>by have:=(hv p h).2;rwa[List.take_of_length_le omg_]at this⟩;rw[jeK];simp only[j52];rw[j01 omg_,j7,j06]
 |n+1,i,m,x,hi,hx0,hc,hm,hv,hb,hb0=>by
  have hlt:i<S.length:=omg_;have hgd:S.getD i (0,0,0)=S[i]:=by simp[N,hlt]
  have hps:=hp _ (Ç hlt);rw[E hlt]at hc;obtain⟨h1,h2,h3,h4⟩:=hc;have hle:=h4.le
  have htk:∀p,tot p (S.take (i+1))=tot p (S.take i)+(if S[i].2.2=p then S[i].2.1-S[i].1 else 0):=λp=>by
   rw[List.take_succ_eq_append_getElem hlt,jwU];simp only[tot];omega
  rw[jeK];simp only[j52];rw[j00 (show (i:D)<(S.length:D) by omega),j0O,j05 (x:=(i:D)+1)];simp only[j6,j8,hgd];generalize S[i]=s at *;by_cases hneg:s.2.2>=0
  .rw[j00 hneg];have hv1:=(hv s.2.2 hneg).1;have hb1:=hb s.2.2 hneg;have hb2:=hb0 s.2.2 hneg;rw[show (j1x ((0:D),(0:D),(0:D)) m s.2.2)=j1x ld0 m s.2.2 from rfl,hv1,j05 (x:=tot s.2.2 (S.take i)+s.2.1),j05 (x:=tot s.2.2 (S.take i)+s.2.1-s.1)];simp only[j6,j03]
   obtain⟨m',e,q1,q2⟩:=jwW hu hl (a1:=a1) (a2:=a2) (w1:=w1) (w2:=w2) (ws:=ws) (o:=o) (tl:=tl) hp n (i+1) (j2Y m s.2.2 (s.2.2,tot s.2.2 (S.take i)+s.2.1-s.1,tot s.2.2 (S.take i)+s.2.1-s.1)) s.2.1 omg_ omg_ h4
    ⟨by have:=hm.len;have:=jtS (m:=m) (k:=s.2.2) (v:=(s.2.2,tot s.2.2 (S.take i)+s.2.1-s.1,tot s.2.2 (S.take i)+s.2.1-s.1));omega,λy hy=>by
     rcases jtR hy with hy|rfl
     .exact hm.key y hy
     .exact⟨hneg,hps,rfl⟩⟩ (λp hp0=>by
     rw[jja,htk];by_cases hpe:p=s.2.2
     .subst hpe;rw[beq_self_eq_true,if_pos rfl];exact⟨by show tot s.2.2 (S.take i)+s.2.1-s.1=_;omega,by show tot s.2.2 (S.take i)+s.2.1-s.1=_;omega⟩
     .rw[j1G hpe,if_neg (λh=>hpe h.symm)];have:=hv p hp0;exact⟨by rw[j7,this.1];omega,by rw[j7,this.2];omega⟩) (λp hp0=>by
     have:=hb p hp0;rw[htk];split<;>omega) (λp hp0=>by
     have:=hb0 p hp0;rw[htk];split<;>omega)
   rw[show ((i+1:J):D)=(i:D)+1 by omega]at e;exact⟨m',e,q1,q2⟩
  .rw[j01 hneg];simp only[j7,j03]
   obtain⟨m',e,q1,q2⟩:=jwW hu hl (a1:=a1) (a2:=a2) (w1:=w1) (w2:=w2) (ws:=ws) (o:=o) (tl:=tl) hp n (i+1) m s.2.1 omg_ omg_ h4 ⟨by have:=hm.len;omega,hm.key⟩ (λp hp0=>by
    rw[htk,if_neg omg_,Ð];exact hv p hp0) (λp hp0=>by
    have:=hb p hp0;rw[htk,if_neg omg_];omega) (λp hp0=>by
    have:=hb0 p hp0;rw[htk,if_neg omg_];omega)
   rw[show ((i+1:J):D)=(i:D)+1 by omega]at e;exact⟨m',e,q1,q2⟩
theorem insI_perm(x:D):∀l:F D,(insI x l).Perm (x::l)
 |[]=>Ä _
 |y::ys=>by
  unfold insI;cases I (x<=y) with
  |true=>exact Ä _
  |false=>exact((insI_perm x ys).cons y).trans (Õ x y ys)
theorem isortI_perm:∀l:F D,(jeC l).Perm l
 |[]=>Ä _
 |x::xs=>(insI_perm x _).trans ((isortI_perm xs).cons x)
theorem jzU{m:MpL}{ks:F D}(hl:ks.length<=1000000):∀(n i:J)(acc:F LdT),i+n=ks.length->acc.length=i->
  jal (ks.length:D) (i:D) m acc ks=H (m,acc++(ks.drop i).map λk=>j1x ld0 m k)
 |0,i,acc,hi,ha=>by
  rw[jdI];simp only[j4G];rw[j01 omg_,j7,j06,X omg_];simp
 |n+1,i,acc,hi,ha=>by
  have hlt:i<ks.length:=omg_;have hgd:ks.getD i (0:D)=ks[i]:=by simp[N,hlt]
  have ih:=jzU (m:=m) hl n (i+1) (acc++[j1x ld0 m ks[i]]) omg_ sqo_;rw[jdI];simp only[j4G,List.length_singleton];rw[j00 (show (i:D)<(ks.length:D) by omega),j0O,j05 (x:=(i:D)+1),j00 (by simp[j02];omega),E hlt];simp only[j6,j8,hgd,j03];rw[Å]at ih;exact ih
theorem jwX{m:MpL}{np n:J}(hm:MpOk m np n)(hn:n<=100000)(hnp:np<=1000):jee m=H ((jdb m).map (λk=>j1x ld0 m k),m):=by
 have hlen:(jdb m).length=m.length:=by have:=(isortI_perm (m.map λx=>x.1)).length_eq;simpa[jdb]using this
 have hml:=hm.len;have hk:job m=true:=by unfold job;simp only[Bool.and_eq_true,List.all_eq_true,decide_eq_true_eq];refine⟨Nat.ble_eq_true_of_le omg_,λx hx=>?_⟩;have:=hm.key x hx;omega
 have lp:=jzU (m:=m) (ks:=jdb m) omg_ (jdb m).length 0 [] omg_ rfl;rw[O,Ê]at lp;simp only[jee,hk,j6];rw[show jal (G (jdb m).length) 0 m [] (jdb m)=_ from lp];rfl
def wgt(p:D):F LdT->D
 |[]=>0
 |x::r=>if x.1=p then x.2.2 else wgt p r
theorem jwY{m:MpL}{p:D}:∀{ks:F D},(∀k∈ks,(j1x ld0 m k).1=k)->(p∉ks->j1x ld0 m p=ld0)->wgt p (ks.map λk=>j1x ld0 m k)=(j1x ld0 m p).2.2
 |[],_,h=>by rw[h smp_];rfl
 |k::r,h1,h2=>by
  simp only[List.map_cons,wgt];rw[h1 k smp_];by_cases hk:k=p
  .rw[if_pos hk,hk]
  .rw[if_neg hk];exact jwY (λk hk=>h1 k (by simp[hk])) (λhp=>h2 (by simp[hp,Ne.symm hk]))
theorem jrd:jg5 ([]:F ((D×D)×D))=H 0:=by
 have e0:jcN ([]:F ((D×D)×D))=H []:=by simp only[jcN,W];rw[jhG];simp only[j5s];rw[j01 (show¬(0:D)<G 0 by decide),j7,j06];rfl
 have e2:j0W ([]:F ((D×D)×D))=H false:=by simp only[j0W,j1U,W];rw[j60];simp only[j0J];rw[j01 (show¬(0:D)<G 0 by decide),j7,j06];rfl
 simp only[jg5,e0,j4,jo0 (w:=[]) (by show (0:D)<=604800;omega) smp_,bne_self_eq_false,j7,e2]
section
variable{zs:F j0D}{ps:F j0h}{cs:F CalT}(hs:SOk2 zs ps cs)
include hs
theorem jwZ{s:j0r}(hc:j6O (zs,ps,cs,[s]))(hll:s.2.1.length<=3)(hel:s.2.2.length<=48){a b:D}(ha:0<=a)(hab:a<b)(hb:b<=8589934592)(hlen:b-a<=2592000) :
  ∃S l,jdJ (zs,ps,cs,[s]) 0 a b 0 []=H (l,0)/\Cov (whoS zs cs s) b Ò a S/\l.length<=16384/\∀p,0<=p->wgt p l=tot p S:=by
 obtain⟨S,eS,hS,lS⟩:=jyH hs hc (i:=0) smp_ hll hel ha hab hb hlen;have hk:=hc.sc s smp_;have hz0:=hs.so.z0;have hp1:=hs.so.p1
 have hmem:∀x∈S,x.2.2<(ps.length:D):=λx hx=>by
  obtain⟨h1,h2,h3,h4⟩:=hS.ch.mem x hx;have hpos:=hS.pos x hx;rw[<-h4 x.1 (Y _) hpos];exact jBr hs hk omg_ omg_
 have hlt:0<zs.length:=omg_;obtain⟨m,e1,hm,hv⟩:=jwW (np:=ps.length) hb omg_ (a1:=a) (a2:=b) (w1:=0) (w2:=0) (ws:=[]) (o:=(tb zs[0]).1) (tl:=(tb zs[0]).2) hmem S.length 0 [] a omg_ ha hS.ch ⟨smp_,smp_⟩ (λp _=>⟨rfl,rfl⟩) (λp _=>ha) (λp _=>Y _);have hgd:zs.getD 0 (ByteArray.empty,0,[])=zs[0]:=by simp[N,hlt]
 have hO:=jCb (hs.so.ok zs[0] (Ç hlt)).ztab;have hL:=jwX hm omg_ omg_
 have hkl:∀k,k∈jdb m↔j38 m k=true:=λk=>by
  rw[jtU];exact(isortI_perm (m.map λx=>x.1)).mem_iff
 have hlk:(jdb m).length=m.length:=by have:=(isortI_perm (m.map λx=>x.1)).length_eq;simpa[jdb]using this
 refine⟨S,(jdb m).map (λk=>j1x ld0 m k),?_,hS,by have:=hm.len;simp only[List.length_map];omega,λp hp=>?_⟩
 .simp only[jdJ];rw[show j4F (zs,ps,cs,[s]) 0 a b=_ from eS];simp only[j4,bne_self_eq_false,j7,show G zs.length=(zs.length:D) from rfl];rw[j01 (show¬(0:D)<0 by omega),j01 (show¬(0:D)>=(zs.length:D) by omega),jrd];simp only[j4,bne_self_eq_false,j7];rw[j0X (show (0:D)<=0 by omega) (show (0:D)<(zs.length:D) by omega)];simp only[j6,show Int.toNat 0=0 from rfl,hgd];rw[show jgQ (zs[0].1,zs[0].2.1,zs[0].2.2)=_ from hO];simp only[j4];rw[show jbk a b [] (G S.length) 0 zs[0].2.1 (tb zs[0]).2 S []=_ from e1];simp only[j4];rw[jjC];simp only[j71,W];rw[j01 (show¬(0:D)<G 0 by decide),j7,j06];simp only[j4,hL]
 .rw[jwY (λk hk=>?_) (λh=>?_),hv p hp]
  .exact(hm.key _ (jtT ((hkl k).1 hk))).2.2
  .refine jwV ?_;cases hh:j38 m p with
   |false=>rfl
   |true=>exact absurd ((hkl p).2 hh) h
end
structure MpC(m:MpL)(np n:J)(u v:D->D):Prop where
 ok:MpOk m np n
 nd:(m.map λx=>x.1).Nodup
 has:∀p,0<=p->p<(np:D)->(j38 m p=true↔0<u p)
 get:∀p,0<=p->p<(np:D)->j38 m p=true->j1x ld0 m p=(p,u p,v p)
structure UV(np:J)(u v:D->D):Prop where
 u0:∀p,0<=u p
 u1:∀p,u p<=4294967296
 v0:∀p,u p<=v p
 v1:∀p,v p<=8*u p
abbrev WtL:=F ((D×D)×D)
structure WtOk(ws:WtL):Prop where
 w:WOk 0 (ws.map λy=>y.1)
 l:ws.length<=14
 g:∀y∈ws,1<=y.2/\y.2<=8
section
variable{zs:F j0D}{ps:F j0h}{cs:F CalT}(hs:SOk2 zs ps cs)
include hs
end
theorem jo6:∀{l l':SL}{p q:D},StS p l->StS q l'->(∀x,inS x l↔inS x l')->l=l'
 |[],[],_,_,_,_,_=>rfl
 |[],s::r,_,_,_,h',hx=>absurd ((hx s.1).2 (j0a.2 (.inl ⟨Y _,h'.2.1⟩))) j33
 |s::r,[],_,_,h,_,hx=>absurd ((hx s.1).1 (j0a.2 (.inl ⟨Y _,h.2.1⟩))) j33
 |s::r,s'::r',p,q,h,h',hx=>by
  obtain⟨h1,h2,h3⟩:=h;obtain⟨g1,g2,g3⟩:=h'
  have e1:s.1=s'.1:=by
   have a1:=(hx s.1).1 (j0a.2 (.inl ⟨Y _,h2⟩));have a2:=(hx s'.1).2 (j0a.2 (.inl ⟨Y _,g2⟩));rcases j0a.1 a1 with a1|a1
   .rcases j0a.1 a2 with a2|a2
    .omega
    .have:=h3.low a2;omega
   .have:=g3.low a1;rcases j0a.1 a2 with a2|a2
    .omega
    .have:=h3.low a2;omega
  have e2:s.2=s'.2:=by
   apply Classical.byContradiction;intro hne;by_cases hlt:s.2<s'.2
   .rcases j0a.1 ((hx s.2).2 (j0a.2 (.inl ⟨omg_,hlt⟩))) with a|a
    .omega
    .have:=h3.low a;omega
   .rcases j0a.1 ((hx s'.2).1 (j0a.2 (.inl ⟨omg_,omg_⟩))) with a|a
    .omega
    .have:=g3.low a;omega
  have hs:s=s':=Prod.ext e1 e2;subst hs;rw[jo6 h3 g3 (λx=>?_)];constructor
  .intro a;have:=h3.low a;exact(j0a.1 ((hx x).1 (j0a.2 (.inr a)))).resolve_left omg_
  .intro a;have:=g3.low a;exact(j0a.1 ((hx x).2 (j0a.2 (.inr a)))).resolve_left omg_
theorem jx0:∀{A B:SL}{lo mid:D},InO lo A->InO mid B->lo<=mid->(∀s∈A,s.2<=mid)->InO lo (A++B)
 |[],B,lo,mid,_,hB,h,_=>hB.weak h
 |s::A,B,lo,mid,hA,hB,h,hs=>⟨hA.1,hA.2.1,jx0 hA.2.2 hB (hs s smp_) (λu hu=>hs u (by simp[hu]))⟩
theorem jyI{f lo:D}:∀{l:SL},InO lo l->(∀s∈l,f<=s.1)->InO f l
 |[],_,_=>trivial
 |s::r,h,hf=>⟨hf s smp_,h.2⟩
theorem jsr:∀{A:SL}{p:D}{x:D×D},StS p A->p<x.1->(∀s∈A,s.2<x.1)->x.1<x.2->StS p (A++[x])
 |[],_,_,_,hp,_,hx=>⟨hp,hx,trivial⟩
 |s::A,p,x,h,_,hs,hx=>⟨h.1,h.2.1,jsr h.2.2 (hs s smp_) (λu hu=>hs u (by simp[hu])) hx⟩
theorem jss:∀{A:SL}{p e:D}{y:D×D},StS p (A++[y])->y.2<=e->StS p (A++[(y.1,e)])
 |[],_,_,_,h,he=>⟨h.1,by have:=h.2.1;dsimp only;omega,trivial⟩
 |_::A,_,_,_,h,he=>⟨h.1,h.2.1,jss h.2.2 he⟩
theorem jzV:∀{A:SL}{p:D}{y:D×D},StS p (A++[y])->∀s∈A,s.2<y.1
 |[],_,_,_,s,hs=>by simp at hs
 |u::A,p,y,h,s,hs=>by
  have low:∀{A:SL}{p:D},StS p (A++[y])->p<y.1:=by
   intro A;induction A with
   |nil=>intro p h;exact h.1
   |cons v r ih=>intro p h;have:=ih h.2.2;have:=h.1;have:=h.2.1;omega
  rcases List.mem_cons.1 hs with rfl|hs
  .exact low h.2.2
  .exact jzV h.2.2 s hs
def jnA(l:SL)(x:D×D):SL:=cond (I (0<l.length)&&I ((l.getD (l.length-1) (0,0)).2=x.1)) (l.set (l.length-1) ((l.getD (l.length-1) (0,0)).1,x.2)) (l++[x])
theorem jBs(l:SL)(x:D×D):(jnA l x).length<=l.length+1:=by
 grind[jnA]
theorem jD7{p:D}{l:SL}{x:D×D}(h:StS p l)(hp:p<x.1)(hx:x.1<x.2)(hl:∀s∈l,s.2<=x.1) :
  StS p (jnA l x)/\(∀y,inS y (jnA l x)↔inS y l\/(x.1<=y/\y<x.2))/\(∀s∈jnA l x,s.2<=x.2):=by
 rcases Á l with rfl|⟨A,u,rfl⟩
 .refine⟨⟨hp,hx,trivial⟩,λy=>?_,λs hs=>?_⟩;all_goals grind[j0a,jnA]
 .rw[Â]at h hl ⊢;have hlt:=jzV h;have hu:=hl u smp_;have hg:(A++[u]).getD ((A++[u]).length-1) (0,0)=u:=by simp[N]
  unfold jnA;rw[hg];by_cases he:u.2=x.1
  .rw[j00 smp_,j00 he];simp only[Bool.and_self,j6];have hset:(A++[u]).set ((A++[u]).length-1) (u.1,x.2)=A++[(u.1,x.2)]:=smp_;rw[hset];refine⟨jss h omg_,λy=>?_,λs hs=>?_⟩
   .rw[jfU,jfU,j0a,j0a]
    have hu2:u.1<u.2:=by
     have:∀{A:SL}{p:D},StS p (A++[u])->u.1<u.2:=by
      intro A;induction A with
      |nil=>intro p h;exact h.2.1
      |cons v r ih=>intro p h;exact ih h.2.2
     exact this h
    grind
   grind
  .rw[j01 he];simp only[Bool.and_false,j7];refine⟨jsr h hp (λs hs=>?_) hx,λy=>?_,λs hs=>?_⟩
   .rcases List.mem_append.1 hs with hs'|hs'
    .have:=hlt s hs'
     have hu2:u.1<u.2:=by
      have:∀{A:SL}{p:D},StS p (A++[u])->u.1<u.2:=by
       intro A;induction A with
       |nil=>intro p h;exact h.2.1
       |cons v r ih=>intro p h;exact ih h.2.2
      exact this h
     omega
    grind
   all_goals grind[jfU,j0a]
theorem jzW{p hi:D}:∀(b l:SL)(lo:D),StS p l->InO lo b->p<lo->(∀s∈l,s.2<=lo)->lo<=hi->(∀s∈b,s.2<=hi)->
  StS p (b.foldl jnA l)/\(∀y,inS y (b.foldl jnA l)↔inS y l\/inS y b)/\(∀s∈b.foldl jnA l,s.2<=hi)/\(b.foldl jnA l).length<=l.length+b.length
 |[],l,lo,h,_,_,hl,hlo,_=>⟨h,λy=>⟨.inl,λh=>h.resolve_right j33⟩,λs hs=>by grind,smp_⟩
 |x::b,l,lo,h,hb,hp,hl,hlo,hhi=>by
  obtain⟨b1,b2,b3⟩:=hb;obtain⟨j1,j2,j3⟩:=jD7 h (x:=x) omg_ b2 (λs hs=>by grind);have hx:=hhi x smp_;obtain⟨k1,k2,k3,k4⟩:=jzW b (jnA l x) x.2 j1 b3 omg_ j3 hx (λs hs=>hhi s (by simp[hs]));grind[jnA,j0a]
theorem jzX{b:SL}(hb:b.length<=1000000):∀(n i:J)(l:SL),i+n=b.length->l.length+n<=10000000->jek b (i:D) l=H ((b.drop i).foldl jnA l)
 |0,i,l,hi,_=>by
  grind[jgt,j6G,j6n,S0]
 |n+1,i,l,hi,hl=>by
  have hlt:i<b.length:=omg_;have hgd:b.getD i (0,0)=b[i]:=by simp[N,hlt]
  have ih:=jzX hb n (i+1) (jnA l b[i]) omg_ (by grind[jBs]);rw[show ((i+1:J):D)=(i:D)+1 by omega]at ih;rw[jgt,E hlt];simp only[j6G,j6n,show G b.length=(b.length:D) from rfl,show G l.length=(l.length:D) from rfl,List.foldl_cons];rw[j00 (show (i:D)<(b.length:D) by omega),j6,j0X (i:=(i:D)) (n:=b.length) omg_ omg_,j05 (x:=(i:D)+1)];simp only[j6,j8,hgd];have hsz:I (l.length+[(b[i].1,b[i].2)].length<=j02)=true:=j00 (by simp[j02];omega);by_cases h0:0<l.length
  .rw[j00 (show (l.length:D)>0 by omega),j05 (x:=(l.length:D)-1),j0X (i:=(l.length:D)-1) omg_ omg_,show ((l.length:D)-1).toNat=l.length-1 by omega];simp only[j6];grind[jnA,j03]
  grind[jnA,S0]
theorem jyJ{l b:SL}(hb:b.length<=1000000)(hl:l.length<=1000000):jhX l b=H (b.foldl jnA l):=by
 have:=jzX hb b.length 0 l omg_ omg_;grind[jhX]
theorem sec5{d s:D}(hd : -1<=d)(hd2:d<=1000000)(hs:0<=s)(hs2:s<=86399):j7M (d,s)=H ((d*86400+s+259200)%604800):=by
 have e:Int.tmod d 7+10=d%7+10\/d = -1:=by grind
 simp only[j7M,jc4,j4];rcases e with e|rfl
 .simp(disch:=omega)only[jfR,S0];congr 1;omega
 grind[j4N]
def pcW(f t st:D):WL->SL
 |[]=>[]
 |v::r=>cond (I ((ent f t st v).1<(ent f t st v).2)) (ent f t st v::pcW f t st r) (pcW f t st r)
def pcA(w:WL)(f t:D):J->D->SL
 |0,_=>[]
 |m+1,st=>cond (I (st<t)) (pcW f t st w++pcA w f t m (st+604800)) []
theorem jre(f t st:D):∀w:WL,(pcW f t st w).length<=w.length
 |[]=>by simp[pcW]
 |v::r=>by
  have:=jre f t st r;unfold pcW;cases I ((ent f t st v).1<(ent f t st v).2)<;>simp<;>omega
theorem jzY{w:WL}(hw:WOk 0 w)(hl:w.length<=14){st f t:D}(hst : -1000000<=st)(hst2:st<=8600000000):∀(n i:J)(acc:SL),i+n=w.length->acc.length+n<=1000000->
  jd0 w f t st (i:D) acc=H (w,f,t,st,acc++pcW f t st (w.drop i))
 |0,i,acc,hi,_=>by
  grind[jfv,j5T,S0,pcW]
 |n+1,i,acc,hi,ha=>by
  have hlt:i<w.length:=omg_;have hgd:w.getD i (0,0)=w[i]:=by simp[hlt]
  have hg:=jfT hw i hlt;rw[hgd]at hg;rw[jfv,E hlt];simp only[j5T,show G w.length=(w.length:D) from rfl];rw[j00 (show (i:D)<(w.length:D) by omega),j0O];simp only[j6,j8,hgd];rw[j05 (x:=(i:D)+1),j05 (x:=st+w[i].1),j05 (x:=st+w[i].2)];have ec:(I ((if st+w[i].1>f then st+w[i].1 else f)<(if st+w[i].2<t then st+w[i].2 else t)))=I ((ent f t st w[i]).1<(ent f t st w[i]).2):=rfl;rw[ec];have ih:=λacc h=>jzY hw hl hst hst2 (f:=f) (t:=t) n (i+1) acc omg_ h;rw[show ((i+1:J):D)=(i:D)+1 by omega]at ih;simp only[pcW];cases I ((ent f t st w[i]).1<(ent f t st w[i]).2) with
  |true=>simp(disch:=omega)only[S0];grind[ent]
  |false=>grind[j03]
theorem jzZ{w:WL}(hw:WOk 0 w)(hl:w.length<=14){f t:D}(ht:t<=8589934592):∀(m:J)(st:D)(acc:SL), -1000000<=st->t<=st+604800*m->acc.length+14*m<=900000->
  jfw w f t st acc=H (acc++pcA w f t m st)
 |0,st,acc,hst,hm,_=>by
  rw[jfx];simp(disch:=omega)only[j5U,S0];simp[pcA]
 |m+1,st,acc,hst,hm,hacc=>by
  rw[jfx];simp only[j5U,pcA];by_cases hlt:st<t
  .have h2:=jzY hw hl hst omg_ (f:=f) (t:=t) w.length 0 acc omg_ omg_;rw[show ((0:J):D)=0 from rfl,O]at h2;have hlen:=jre f t st w;simp(disch:=omega)only[h2,S0];have:=jzZ hw hl ht m (st+604800) (acc++pcW f t st w) omg_ omg_ sqo_ (f:=f);rw[Å]at this;exact this
  .rw[j01 hlt,j7,j06,j7,List.append_nil]
theorem jx1{f t st:D}:∀{w:WL}{p:D},WOk p w->InO (st+p) (pcW f t st w)/\∀s∈pcW f t st w,f<=s.1/\s.2<=t/\s.2<=st+604800
 |[],_,_=>⟨trivial,λs hs=>by simp[pcW]at hs⟩
 |v::r,p,h=>by
  obtain⟨h1,h2,h3,h4⟩:=h;obtain⟨i1,i2⟩:=jx1 (f:=f) (t:=t) (st:=st) h4;unfold pcW;by_cases hc:(ent f t st v).1<(ent f t st v).2
  .have e1:st+v.1<=(ent f t st v).1/\f<=(ent f t st v).1:=by unfold ent;dsimp only;split<;>omega
   have e2:(ent f t st v).2<=st+v.2/\(ent f t st v).2<=t:=by unfold ent;dsimp only;split<;>omega
   rw[j00 hc,j6];refine⟨⟨omg_,hc,i1.weak omg_⟩,λs hs=>?_⟩;rcases List.mem_cons.1 hs with rfl|hs
   .exact⟨e1.2,e2.2,omg_⟩
   .exact i2 s hs
  .rw[j01 hc,j7];exact⟨i1.weak omg_,i2⟩
theorem jA0{f t st x:D}:∀{w:WL}{p:D},WOk p w->(inS x (pcW f t st w)↔f<=x/\x<t/\∃v∈w,st+v.1<=x/\x<st+v.2)
 |[],_,_=>⟨λh=>absurd h j33,λ⟨_,_,v,hv,_⟩=>by simp at hv⟩
 |v::r,p,h=>by
  obtain⟨h1,h2,h3,h4⟩:=h;have ih:=jA0 (f:=f) (t:=t) (st:=st) (x:=x) h4
  have he:((ent f t st v).1<=x/\x<(ent f t st v).2)↔f<=x/\x<t/\st+v.1<=x/\x<st+v.2:=by
   unfold ent;dsimp only;constructor
   .rintro⟨a1,a2⟩
    have b1:f<=x/\st+v.1<=x:=by split at a1<;>omega
    have b2:x<t/\x<st+v.2:=by split at a2<;>omega
    exact⟨b1.1,b2.1,b1.2,b2.2⟩
   .rintro⟨a1,a2,a3,a4⟩
    refine⟨?_,?_⟩<;>split<;>omega
  unfold pcW;by_cases hc:(ent f t st v).1<(ent f t st v).2
  .rw[j00 hc,j6,j0a,ih,he];constructor
   .rintro (⟨a1,a2,a3,a4⟩|⟨a1,a2,u,hu,a3⟩)
    .exact⟨a1,a2,v,smp_,a3,a4⟩
    .exact⟨a1,a2,u,by simp[hu],a3⟩
   .rintro⟨a1,a2,u,hu,a3⟩
    rcases List.mem_cons.1 hu with rfl|hu
    .exact .inl ⟨a1,a2,a3⟩
    .exact .inr ⟨a1,a2,u,hu,a3⟩
  .rw[j01 hc,j7,ih];constructor
   .rintro⟨a1,a2,u,hu,a3⟩;exact⟨a1,a2,u,by simp[hu],a3⟩
   .rintro⟨a1,a2,u,hu,a3⟩
    rcases List.mem_cons.1 hu with rfl|hu
    .have:=he.2 ⟨a1,a2,a3⟩;omega
    .exact⟨a1,a2,u,hu,a3⟩
theorem jA1{w:WL}(hw:WOk 0 w){f t:D}:∀(m:J)(st:D),t<=st+604800*m->
  InO st (pcA w f t m st)/\(∀s∈pcA w f t m st,f<=s.1/\s.2<=t)/\(pcA w f t m st).length<=w.length*m/\∀x,inS x (pcA w f t m st)↔f<=x/\x<t/\st<=x/\hasB ((x-st)%604800) w=true
 |0,st,hm=>⟨trivial,λs hs=>by simp[pcA]at hs,by simp[pcA],λx=>⟨λh=>absurd h j33,λh=>omg_⟩⟩
 |m+1,st,hm=>by
  obtain⟨i1,i2,i3,i4⟩:=jA1 hw (f:=f) (t:=t) m (st+604800) omg_;obtain⟨j1,j2⟩:=jx1 (f:=f) (t:=t) (st:=st) hw;rw[Ð]at j1;unfold pcA;by_cases hlt:st<t
  .rw[j00 hlt,j6];refine⟨jx0 j1 i1 omg_ (λs hs=>(j2 s hs).2.2),λs hs=>?_,?_,λx=>?_⟩
   .rcases List.mem_append.1 hs with hs|hs
    .exact⟨(j2 s hs).1,(j2 s hs).2.1⟩
    .exact i2 s hs
   .have:=jre f t st w;rw[List.length_append,Ñ];omega
   .rw[jfU,i4 x,jA0 hw];constructor
    .rintro (⟨a1,a2,v,hv,a3,a4⟩|⟨a1,a2,a3,a4⟩)
     .obtain⟨i,hi,rfl⟩:=List.getElem_of_mem hv;have hg:=jfT hw i hi;rw[show w.getD i (0,0)=w[i] by simp[hi]]at hg;exact⟨a1,a2,omg_,jlC.2 ⟨w[i],hv,omg_,omg_⟩⟩
     .refine⟨a1,a2,omg_,?_⟩;rw[show (x-st)%604800=(x-(st+604800))%604800 by omega];exact a4
    .rintro⟨a1,a2,a3,a4⟩
     by_cases hx:st+604800<=x
     .refine .inr ⟨a1,a2,hx,?_⟩;rw[show (x-(st+604800))%604800=(x-st)%604800 by omega];exact a4
     .obtain⟨v,hv,c1,c2⟩:=jlC.1 a4;have e1:(x-st)%604800=x-st:=omg_;rw[e1]at c1 c2;exact .inl ⟨a1,a2,v,hv,omg_,omg_⟩
  .rw[j01 hlt,j7];exact⟨trivial,λs hs=>by simp at hs,smp_,λx=>⟨λh=>absurd h j33,λh=>omg_⟩⟩
theorem jD8{w:WL}(hw:WOk 0 w)(hl:w.length<=14){f t n:D}(hf:0<=f)(ht:t<=8589934592)(hft:f<t)(hn : -64800<=n)(hn2:n<=64800){M:J}(hM:M<=60)(hlen:t-f<=604800*M) :
  ∃P,jfy w f t n=H P/\InO f P/\(∀s∈P,s.2<=t)/\P.length<=w.length*(M+1)/\∀x,inS x P↔f<=x/\x<t/\hasB ((x+n+259200)%604800) w=true:=by
 have e1:j7M ((f+n+864000)/86400-10,(f+n+864000)%86400)=H ((f+n+259200)%604800):=by grind[sec5]
 generalize hst:f-(f+n+259200)%604800=st
 obtain⟨a1,a2,a3,a4⟩:=jA1 hw (f:=f) (t:=t) (M+1) st omg_;refine⟨pcA w f t (M+1) st,?_,jyI a1 (λs hs=>(a2 s hs).1),λs hs=>(a2 s hs).2,a3,λx=>?_⟩
 .simp only[jfy];rw[j05 (x:=f+n),j05 (x:=f+n+864000),jcm omg_,j05 (x:=(f+n+864000)/86400),j05 (x:=(f+n+864000)/86400-10),jfR omg_,e1];grind[j4N,jzZ]
 grind
def inP(o:D)(l:TrL)(w:WL)(a b:D)(k:J)(x:D):Prop:=a<=x/\x<b/\∃j,j<k/\frm l j<=x/\x<frm l (j+1)/\hasB ((x+tof o l j+259200)%604800) w=true
theorem jBt{o:D}{l:TrL}(h:TOk o l){w:WL}(hw:WOk 0 w)(hl:w.length<=14){M:J}(hM:M<=60){a b:D}(ha:0<=a)(hab:a<=b)(hb:b<=8589934592)(hlen:b-a<=604800*M)(nm:Î)(rs:F Rule)(hll:l.length<=20){c:J}(hc0:w.length*(M+1)<=c)(hc1:c<=854):∀(n k:J)(acc:SL),k+n=l.length+1->
  StS (a-1) acc->(∀s∈acc,s.2<=max a (frm l k)/\s.2<=b)->acc.length<=c*k->(∀x,inS x acc↔inP o l w a b k x)->
  ∃out,jd1 w a b ((k:D)-1) nm o rs l acc=H out/\StS (a-1) out/\(∀s∈out,s.2<=b)/\out.length<=c*(l.length+1)/\∀x,inS x out↔inP o l w a b (l.length+1) x
 |0,k,acc,hk,h1,h2,h3,h4=>by
  have hk:k=l.length+1:=omg_;subst hk;refine⟨acc,?_,h1,λs hs=>(h2 s hs).2,h3,h4⟩;rw[jfz];simp(disch:=omega)only[j5V,j3W,j5u,S0]
 |n+1,k,acc,hk,h1,h2,h3,h4=>by
  have hkl:k<=l.length:=omg_;have hck:c*k<=854*20:=Ë hc1 omg_;have hcs:c*(k+1)=c*k+c:=Ñ c k;have o0:=h.of0 k hkl;have o1:=h.of1 k hkl;have hfl:=h.frm_lt (i:=k) hkl;have hf0:=h.frm_le (i:=0) (j:=k) omg_ omg_;rw[frm0]at hf0;have hend:k=l.length->frm l (k+1)=8589934593:=λe=>by rw[e];exact j81
  have key:∀A:Ó ((WL×D×D×D×Î×D×F Rule×TrL×SL) ⊕ SL),
    A=(if max a (frm l k)<min b (frm l (k+1)) then (jfy w (max a (frm l k)) (min b (frm l (k+1))) (tof o l k)).bind λp=>(jhX acc p).bind λj=>H (.inl (w,a,b,(k:D),nm,o,rs,l,j)) else H (.inl (w,a,b,(k:D),nm,o,rs,l,acc)))->
    ∃out,lpK A (λh=>jd1 h.1 h.2.1 h.2.2.1 h.2.2.2.1 h.2.2.2.2.1 h.2.2.2.2.2.1 h.2.2.2.2.2.2.1 h.2.2.2.2.2.2.2.1 h.2.2.2.2.2.2.2.2)=H out/\StS (a-1) out/\(∀s∈out,s.2<=b)/\out.length<=c*(l.length+1)/\∀x,inS x out↔inP o l w a b (l.length+1) x:=by
   intro A hA;have e1:((k+1:J):D)-1=(k:D):=omg_;by_cases hc:max a (frm l k)<min b (frm l (k+1))
   .rw[if_pos hc]at hA;obtain⟨p,ep,p1,p2,p3,p4⟩:=jD8 hw hl (f:=max a (frm l k)) (t:=min b (frm l (k+1))) omg_ omg_ hc o0 o1 hM omg_;obtain⟨q1,q2,q3,q4⟩:=jzW (p:=a-1) (hi:=min b (frm l (k+1))) p acc (max a (frm l k)) h1 p1 omg_ (λs hs=>(h2 s hs).1) omg_ p2;rw[ep,j4,jyJ omg_ omg_,j4]at hA;rw[hA,j03];have ih:=jBt h hw hl hM ha hab hb hlen nm rs hll hc0 hc1 n (k+1) (p.foldl jnA acc) omg_ q1 (λs hs=>by grind) omg_ (λx=>?_)
    .simp_all
    .rw[q2 x,h4 x,p4 x];constructor
     .rintro (⟨a1,a2,j,a3,a4⟩|⟨a1,a2,a3⟩)
      .exact⟨a1,a2,j,omg_,a4⟩
      .exact⟨omg_,omg_,k,omg_,omg_,omg_,a3⟩
     .rintro⟨a1,a2,j,a3,a4,a5,a6⟩
      by_cases hj:j=k
      .grind
      .exact .inl ⟨a1,a2,j,omg_,a4,a5,a6⟩
   .rw[if_neg hc]at hA;rw[hA,j03];have ih:=jBt h hw hl hM ha hab hb hlen nm rs hll hc0 hc1 n (k+1) acc omg_ h1 (λs hs=>by grind) omg_ (λx=>?_)
    .simp_all
    .rw[h4 x];constructor
     .rintro⟨a1,a2,j,a3,a4⟩
      exact⟨a1,a2,j,omg_,a4⟩
     .rintro⟨a1,a2,j,a3,a4,a5,a6⟩
      by_cases hj:j=k
      .subst hj;omega
      .exact⟨a1,a2,j,omg_,a4,a5,a6⟩
  rw[jfz];refine key _ ?_;simp only[j5V,j3W,j5u,show G l.length=(l.length:D) from rfl];rw[j00 (show (k:D)-1<(l.length:D) by omega),j6,j05 (x:=(k:D)-1+1),show (k:D)-1+1=(k:D) by omega];have hmax:∀u:D,(if u>a then u else a)=max a u:=λu=>by split<;>omega
  have hmin:∀u:D,(if u<b then u else b)=min b u:=λu=>by split<;>omega
  rcases Nat.eq_zero_or_pos k with hk0|hk0
  .subst hk0;have et:tof o l 0=o:=rfl;have em:max a (frm l 0)=a:=by rw[frm0];omega
   rw[j01 (show¬((0:J):D)-1>=0 by omega),j7,em,et];by_cases hl0:0<l.length
   .have ef:(l.getD 0 (0,0)).1=frm l 1:=(jdi hl0).symm;grind[j0X]
   grind
  .obtain⟨k,rfl⟩:∃k',k=k'+1:=⟨k-1,omg_⟩;have e1:((k+1:J):D)-1=(k:D):=omg_;have et:(l.getD k (0,0)).2=tof o l (k+1):=rfl;have ef0:(l.getD k (0,0)).1=frm l (k+1):=(jdi omg_).symm;rw[e1,j00 (show (k:D)>=0 by omega),j6,j0X (i:=(k:D)) omg_ omg_];simp only[j6,j8,et,ef0,hmax];by_cases hl0:k+1<l.length
   .have ef:(l.getD (k+1) (0,0)).1=frm l (k+1+1):=(jdi hl0).symm;grind[j0X]
   grind
theorem jtV{z:Î×D×F Rule}{l:TrL}(h4:Z4 z l)(hll:l.length<=20){w:WL}(hck:jaI w=H 0)(hw:WOk 0 w)(hl:w.length<=14){M:J}(hM:M<=60){a b:D}(ha:0<=a)(hab:a<=b)(hb:b<=8589934592)(hlen:b-a<=604800*M)(hq:b-a<=34560000) :
  ∃out,jdP z w a b=H (if out.length>4096 then ([],5) else (out,0))/\StS (a-1) out/\(∀s∈out,s.2<=b)/\out.length<=w.length*(M+1)*(l.length+1)/\
   ∀k,k<=l.length->∀x,a<=x->x<b->frm l k<=x->x<frm l (k+1)->(inS x out↔hasB ((x+tof z.2.1 l k+259200)%604800) w=true):=by
 obtain⟨out,e,o1,o2,o3,o4⟩:=jBt h4.2 hw hl hM ha hab hb hlen z.1 z.2.2 hll (È _) (Nat.le_trans (Ë hl (show M+1<=61 by omega)) (by decide)) (l.length+1) 0 [] omg_ trivial (λs hs=>by simp at hs) smp_ (λx=>⟨λh=>absurd h j33,λ⟨_,_,j,hj,_⟩=>omg_⟩);rw[show ((0:J):D)-1 = -1 from rfl]at e;refine⟨out,?_,o1,o2,o3,λk hk x x0 x1 k0 k1=>?_⟩
 .have er:j87 a b=H true:=by grind[j87,j4N]
  simp(disch:=omega)only[jdP,show j0q (z.1,z.2.1,z.2.2)=_ from h4.1,hck,er,e,S0];grind
 .rw[o4 x];constructor
  .rintro⟨_,_,j,hj,j0,j1,j2⟩
   have:j=k:=by
    rcases Nat.lt_trichotomy j k with hlt|he|hlt
    .have:=h4.2.frm_le (i:=j+1) (j:=k) omg_ omg_;omega
    .exact he
    .have:=h4.2.frm_le (i:=k+1) (j:=j) omg_ omg_;omega
   subst this;exact j2
  .exactλhx=>⟨x0,x1,k,omg_,k0,k1,hx⟩
def ap3(out:F D)(x:D):F Int:=cond (cond (I (out.length=0)) true (out.getD (out.length-1) 0 != x)) (out++[x]) out
def mg3:J->F D->F D->F D->F D
 |0,out,_,_=>out
 |n+1,out,x::a,y::b=>cond (I (x<=y)) (mg3 n (ap3 out x) a (y::b)) (mg3 n (ap3 out y) (x::a) b)
 |n+1,out,x::a,[]=>mg3 n (ap3 out x) a []
 |n+1,out,[],y::b=>mg3 n (ap3 out y) [] b
 |_+1,out,[],[]=>out
def so3:J->F D->F D
 |0,l=>l
 |n+1,l=>if l.length<2 then l else mg3 l.length [] (so3 n (l.take (l.length/2))) (so3 n (l.drop (l.length/2)))
theorem jjc(out:F D)(x:D):(ap3 out x).length<=out.length+1:=by
 grind[ap3]
theorem jst{out:F D}{x:D}(h:out.Pairwise (· < ·))(hx:∀y∈out,y<=x):(ap3 out x).Pairwise (· < ·)/\(∀y,y∈ap3 out x↔y∈out\/y=x)/\∀y∈ap3 out x,y<=x:=by
 rcases Á out with rfl|⟨A,u,rfl⟩
 .grind[ap3]
 .rw[Â]at h hx ⊢;have hg:(A++[u]).getD ((A++[u]).length-1) (0:D)=u:=by simp[N]
  unfold ap3;rw[hg,j01 (show¬(A++[u]).length=0 by simp),j7];by_cases he:u=x;all_goals grind
theorem jpK:∀(n:J)(out a b:F D),n=a.length+b.length->out.Pairwise (· < ·)->a.Pairwise (· < ·)->b.Pairwise (· < ·)->(∀x∈out,(∀y∈a,x<=y)/\∀y∈b,x<=y)->
  (mg3 n out a b).Pairwise (· < ·)/\(∀x,x∈mg3 n out a b↔x∈out\/x∈a\/x∈b)/\(mg3 n out a b).length<=out.length+n
 |0,out,a,b,hn,ho,_,_,_=>by
  have h1:a=[]:=List.length_eq_zero_iff.1 omg_;have h2:b=[]:=List.length_eq_zero_iff.1 omg_;subst h1;subst h2;exact⟨ho,λx=>by simp[mg3],by simp[mg3]⟩
 |n+1,out,x::a,y::b,hn,ho,ha,hb,hle=>by
  have ha':=List.pairwise_cons.1 ha;have hb':=List.pairwise_cons.1 hb;simp only[U]at hn;unfold mg3;by_cases hxy:x<=y
  .rw[j00 hxy,j6];obtain⟨p1,p2,p3⟩:=jst (x:=x) ho (λz hz=>(hle z hz).1 x smp_)
   obtain⟨q1,q2,q3⟩:=jpK n (ap3 out x) a (y::b) sqo_ p1 ha'.2 hb (λz hz=>by
    have:=p3 z hz;refine⟨λu hu=>by have:=ha'.1 u hu;omega,λu hu=>?_⟩;rcases List.mem_cons.1 hu with rfl|hu
    .omega
    .have:=hb'.1 u hu;omega)
   have:=jjc out x;refine⟨q1,λz=>?_,omg_⟩;rw[q2 z,p2 z];simp only[Z];constructor
   .rintro ((h|h)|h|h)
    .exact .inl h
    .exact .inr (.inl (.inl h))
    .exact .inr (.inl (.inr h))
    .exact .inr (.inr h)
   .rintro (h|(h|h)|h)
    .exact .inl (.inl h)
    .exact .inl (.inr h)
    .exact .inr (.inl h)
    .exact .inr (.inr h)
  .rw[j01 hxy,j7];obtain⟨p1,p2,p3⟩:=jst (x:=y) ho (λz hz=>(hle z hz).2 y smp_)
   obtain⟨q1,q2,q3⟩:=jpK n (ap3 out y) (x::a) b sqo_ p1 ha hb'.2 (λz hz=>by
    have:=p3 z hz;refine⟨λu hu=>?_,λu hu=>by have:=hb'.1 u hu;omega⟩;rcases List.mem_cons.1 hu with rfl|hu
    .omega
    .have:=ha'.1 u hu;omega)
   have:=jjc out y;refine⟨q1,λz=>?_,omg_⟩;rw[q2 z,p2 z];simp only[Z];constructor
   .rintro ((h|h)|h|h)
    .exact .inl h
    .exact .inr (.inr (.inl h))
    .exact .inr (.inl h)
    .exact .inr (.inr (.inr h))
   .rintro (h|h|h|h)
    .exact .inl (.inl h)
    .exact .inr (.inl h)
    .exact .inl (.inr h)
    .exact .inr (.inr h)
 |n+1,out,x::a,[],hn,ho,ha,hb,hle=>by
  have ha':=List.pairwise_cons.1 ha;simp only[U,W]at hn;obtain⟨p1,p2,p3⟩:=jst (x:=x) ho (λz hz=>(hle z hz).1 x smp_);obtain⟨q1,q2,q3⟩:=jpK n (ap3 out x) a [] sqo_ p1 ha'.2 hb (λz hz=>⟨λu hu=>by have:=ha'.1 u hu;have:=p3 z hz;omega,λu hu=>by simp at hu⟩);have:=jjc out x;refine⟨q1,λz=>?_,by show (mg3 n (ap3 out x) a []).length<=_;omega⟩;show z∈mg3 n (ap3 out x) a []↔_;rw[q2 z,p2 z];simp only[Z,É,or_false,or_assoc]
 |n+1,out,[],y::b,hn,ho,ha,hb,hle=>by
  have hb':=List.pairwise_cons.1 hb;simp only[U,W]at hn;obtain⟨p1,p2,p3⟩:=jst (x:=y) ho (λz hz=>(hle z hz).2 y smp_);obtain⟨q1,q2,q3⟩:=jpK n (ap3 out y) [] b sqo_ p1 ha hb'.2 (λz hz=>⟨λu hu=>by simp at hu,λu hu=>by have:=hb'.1 u hu;have:=p3 z hz;omega⟩);have:=jjc out y;refine⟨q1,λz=>?_,by show (mg3 n (ap3 out y) [] b).length<=_;omega⟩;show z∈mg3 n (ap3 out y) [] b↔_;rw[q2 z,p2 z];simp only[Z,É,false_or,or_assoc]
 |n+1,out,[],[],hn,_,_,_,_=>by simp at hn
theorem jsu:∀(n:J)(out a b:F D),a.length+b.length<=n->mg3 n out a b=mg3 (a.length+b.length) out a b:=by
 intro n;induction n with
 |zero=>simp_all
 |succ n ih=>
  intro out a b h;match a,b,h with
  |[],[],_=>rfl
  |x::a,[],h=>
   simp_all[mg3]
  |[],y::b,h=>
   simp_all[mg3]
  |x::a,y::b,h=>simp only[U]at h ⊢;grind[mg3]
theorem jmS:∀(n:J)(l:F D),l.length<=n+1->(so3 n l).Pairwise (· < ·)/\(∀x,x∈so3 n l↔x∈l)/\(so3 n l).length<=l.length
 |0,l,hl=>by
  refine⟨?_,λx=>Iff.rfl,È _⟩;match l,hl with
  |[],_=>exact À
  |[x],_=>show List.Pairwise (· < ·) [x];simp
 |n+1,l,hl=>by
  unfold so3;by_cases h2:l.length<2
  .rw[if_pos h2];refine⟨?_,λx=>Iff.rfl,È _⟩;match l,h2 with
   |[],_=>exact À
   |[x],_=>simp
  .rw[if_neg h2];obtain⟨a1,a2,a3⟩:=jmS n (l.take (l.length/2)) sqo_;obtain⟨b1,b2,b3⟩:=jmS n (l.drop (l.length/2)) sqo_;simp only[List.length_take,List.length_drop]at a3 b3;rw[jsu l.length [] _ _ omg_];obtain⟨q1,q2,q3⟩:=jpK _ [] (so3 n (l.take (l.length/2))) (so3 n (l.drop (l.length/2))) rfl À a1 b1 (λx hx=>by simp at hx);refine⟨q1,λx=>?_,by simp at q3;omega⟩;rw[q2 x,a2 x,b2 x];have hx:x∈l↔x∈l.take (l.length/2)++l.drop (l.length/2):=by rw[List.take_append_drop]
   rw[hx,List.mem_append];simp
theorem jo7:∀(n m:J)(l:F D),l.length<=n+1->l.length<=m+1->so3 n l=so3 m l
 |0,0,_,_,_=>rfl
 |0,m+1,l,h,_=>by unfold so3;rw[if_pos omg_]
 |n+1,0,l,_,h=>by unfold so3;rw[if_pos omg_]
 |n+1,m+1,l,h1,h2=>by
  unfold so3;by_cases h:l.length<2
  .rw[if_pos h,if_pos h]
  .rw[if_neg h,if_neg h,jo7 n m _ sqo_ sqo_,jo7 n m _ sqo_ sqo_]
theorem jk5{R:Type}(out:F D)(x:D)(hl:out.length<=400000000)(K:F D->Ó R) :
  cond ((inR (w64 ((out.length:D)-1)) out.length) || !(!((out.length:D)==0))) (cond (cond ((out.length:D)==0) true (out.getD (w64 ((out.length:D)-1)).toNat 0 != x)) (cond (I (out.length+[x].length<=j02)) (K (out++[x])) Ò) (K out)) Ò=K (ap3 out x):=by
 rw[j05 (x:=(out.length:D)-1)];by_cases h0:out.length=0
 .have e:((out.length:D)==0)=true:=j43 omg_;have:out=[]:=List.length_eq_zero_iff.1 h0;subst this;rfl
 .have e:((out.length:D)==0)=false:=j1G omg_;rw[e,j0X (i:=(out.length:D)-1) omg_ omg_,show ((out.length:D)-1).toNat=out.length-1 by omega];grind[ap3,j02]
theorem jBu(rec:F D->Ó (F D)){a b:F D}(ha:a.length<=100000000)(hb:b.length<=100000000):∀(n i j:J)(out:F D),i<=a.length->j<=b.length->n=(a.length-i)+(b.length-j)->out.length+n<=200000000->
  jel rec (i:D) (j:D) out a b=H (mg3 n out (a.drop i) (b.drop j))
 |0,i,j,out,hi,hj,hn,_=>by
  rw[jgx];simp(disch:=omega)only[j6K,j6o,j6p,S0];rfl
 |n+1,i,j,out,hi,hj,hn,ho=>by
  have iha:=λ(x:D)(h:i<a.length)=>jBu rec ha hb n (i+1) j (ap3 out x) omg_ hj omg_ (by have:=jjc out x;omega);have ihb:=λ(x:D)(h:j<b.length)=>jBu rec ha hb n i (j+1) (ap3 out x) hi omg_ omg_ (by have:=jjc out x;omega);rw[jgx];simp only[j6K,j6o,j6p,show G a.length=(a.length:D) from rfl,show G b.length=(b.length:D) from rfl,show G out.length=(out.length:D) from rfl]
  have ec:cond (I ((i:D)<(a.length:D))) true (I ((j:D)<(b.length:D)))=true:=by
   by_cases h:i<a.length
   .rw[j00 omg_];rfl
   .rw[j01 omg_,j00 (show (j:D)<(b.length:D) by omega)];rfl
  rw[ec,j6];by_cases hja:j=b.length
  .have hia:i<a.length:=omg_;have hga:a.getD i (0:D)=a[i]:=by simp[N,hia]
   rw[j43 (show (j:D)=(b.length:D) by omega),j6,j0X (i:=(i:D)) (n:=a.length) omg_ omg_,j6,j05 (x:=(i:D)+1)];simp only[j8,hga];rw[jk5 out a[i] omg_ (λo=>H (Sum.inl ((i:D)+1,(j:D),o,a,b))),j03];have:=iha a[i] hia;rw[show ((i+1:J):D)=(i:D)+1 by omega]at this;refine this.trans ?_;rw[E hia,show b.drop j=[] from X omg_];rfl
  .have hjb:j<b.length:=omg_;have hgb:b.getD j (0:D)=b[j]:=by simp[N,hjb]
   rw[j1G (show (j:D)≠(b.length:D) by omega),j7];by_cases hia:i<a.length
   .have hga:a.getD i (0:D)=a[i]:=by simp[N,hia]
    rw[j00 (show (i:D)<(a.length:D) by omega),j6,j0X (i:=(i:D)) (n:=a.length) omg_ omg_,j0X (i:=(j:D)) (n:=b.length) omg_ omg_,j05 (x:=(i:D)+1),j05 (x:=(j:D)+1)];simp only[j6,j8,hga,hgb];by_cases hxy:a[i]<=b[j]
    .rw[j00 hxy,j6,jk5 out a[i] omg_ (λo=>H (Sum.inl ((i:D)+1,(j:D),o,a,b))),j03];have:=iha a[i] hia;rw[show ((i+1:J):D)=(i:D)+1 by omega]at this;refine this.trans ?_;rw[E hia,E hjb];show _=H (cond (I (a[i]<=b[j])) _ _);rw[j00 hxy,j6]
    .rw[j01 hxy,j7,jk5 out b[j] omg_ (λo=>H (Sum.inl ((i:D),(j:D)+1,o,a,b))),j03];have:=ihb b[j] hjb;rw[show ((j+1:J):D)=(j:D)+1 by omega]at this;refine this.trans ?_;rw[E hia,E hjb];show _=H (cond (I (a[i]<=b[j])) _ _);rw[j01 hxy,j7]
   .rw[j01 (show¬(i:D)<(a.length:D) by omega),j7,j0X (i:=(j:D)) (n:=b.length) omg_ omg_,j6,j05 (x:=(j:D)+1)];simp only[j8,hgb];rw[jk5 out b[j] omg_ (λo=>H (Sum.inl ((i:D),(j:D)+1,o,a,b))),j03];have:=ihb b[j] hjb;rw[show ((j+1:J):D)=(j:D)+1 by omega]at this;refine this.trans ?_;rw[E hjb,show a.drop i=[] from X omg_];rfl
theorem jyK:∀(n:J)(l:F D),l.length<=50000000->(jeb j5e n l=Ò/\n<=l.length)\/jeb j5e n l=H (so3 l.length l)
 |0,l,_=> .inl ⟨rfl,Nat.zero_le _⟩
 |n+1,l,hl=>by
  show (jbq (λv0=>jeb j5e n v0) l=Ò/\_)\/jbq (λv0=>jeb j5e n v0) l=_;simp only[jbq,show G l.length=(l.length:D) from rfl];by_cases h2:l.length<2
  .right;simp(disch:=omega)only[Ê,S0];cases hk:l.length<;>grind[so3]
  .rw[j01 (show¬(l.length:D)<2 by omega),j7,jcm omg_,j05 (x:=(l.length:D)/2),show ((l.length:D)/2).toNat=l.length/2 by omega];simp(disch:=omega)only[S0];simp only[Bool.and_self,j6,O,List.take_length];have hA:(l.take (l.length/2)).length=l.length/2:=sqo_;have hB:(l.drop (l.length/2)).length=l.length-l.length/2:=smp_;rcases jyK n (l.take (l.length/2)) omg_ with⟨e1,k1⟩|e1
   .grind
   .rw[e1,j4];rcases jyK n (l.drop (l.length/2)) omg_ with⟨e2,k2⟩|e2
    .exact .inl ⟨by rw[e2];rfl,omg_⟩
    .right;rw[e2,j4];have o1:=jmS (l.take (l.length/2)).length (l.take (l.length/2)) omg_;have o2:=jmS (l.drop (l.length/2)).length (l.drop (l.length/2)) omg_;generalize hSA:so3 (l.take (l.length/2)).length (l.take (l.length/2))=SA at *;generalize hSB:so3 (l.drop (l.length/2)).length (l.drop (l.length/2))=SB at *;have:=jBu (λv0=>jeb j5e n v0) (a:=SA) (b:=SB) omg_ omg_ (SA.length+SB.length) 0 0 [] omg_ omg_ omg_ sqo_;rw[show ((0:J):D)=0 from rfl,O,O]at this;rw[this,j4];obtain⟨k,hk⟩:∃k,l.length=k+1:=⟨l.length-1,omg_⟩;grind[so3,jo7,jsu]
theorem jyL{l:F D}(hl:l.length<=50000000):jnG l=H (so3 l.length l):=
 jp3 ⟨l.length+1,(jyK (l.length+1) l hl).resolve_left (λh=>by have:=h.2;omega)⟩ (λn y h=>by
  grind[jyK])
def inBo(a b x:D):Bool:=cond (I (x>a)) (I (x<b)) false
def bord(cuts:F D)(a b:D):F Int:=(a::(so3 cuts.length cuts).filter (inBo a b))++(if b>a then [b] else [])
theorem jD9{a b:D}{l:F D}(hl:l.length<=50000000):∀(n i:J)(out:F D),i+n=l.length->out.length+n<=100000000->jao a b (i:D) out l=H (a,b,out++(l.drop i).filter (inBo a b))
 |0,i,out,hi,_=>by
  grind[jdQ,j4J,S0]
 |n+1,i,out,hi,ho=>by
  have hlt:i<l.length:=omg_;have hgd:l.getD i (0:D)=l[i]:=by simp[N,hlt]
  rw[jdQ,E hlt];simp only[j4J,show G l.length=(l.length:D) from rfl];rw[j00 (show (i:D)<(l.length:D) by omega),j0X (i:=(i:D)) omg_ omg_,j05 (x:=(i:D)+1)];simp only[j6,j8,hgd,Bool.true_or];have ih:=λout h=>jD9 (a:=a) (b:=b) hl n (i+1) out omg_ h;rw[show ((i+1:J):D)=(i:D)+1 by omega]at ih;show lpK (cond (inBo a b l[i]) _ _) _=_;cases hc:inBo a b l[i]with
  |true=>simp(disch:=omega)only[List.filter_cons_of_pos hc,S0];grind
  |false=>grind[j03]
theorem jtW{cuts:F D}(hl:cuts.length<=49000000)(a b:D):jem cuts a b=H (bord cuts a b):=by
 obtain⟨_,_,h3⟩:=jmS cuts.length cuts omg_;have:=jD9 (a:=a) (b:=b) (l:=so3 cuts.length cuts) omg_ (so3 cuts.length cuts).length 0 [a] omg_ sqo_;rw[show ((0:J):D)=0 from rfl,O]at this;have hfl:((so3 cuts.length cuts).filter (inBo a b)).length<=(so3 cuts.length cuts).length:=Ã _ _;simp(disch:=omega)only[jem,jyL,this,S0];grind[bord,j02]
theorem jBv(cuts:F D){a b:D}(hab:a<=b):(bord cuts a b).Pairwise (· < ·)/\(bord cuts a b).length<=cuts.length+2/\(∀x∈bord cuts a b,a<=x/\x<=b)/\(∀c∈cuts,a<c->c<b->c∈bord cuts a b)/\
  (∃r,bord cuts a b=a::r)/\(a<b->∃r,bord cuts a b=r++[b])/\(a=b->bord cuts a b=[a]):=by
 obtain⟨h1,h2,h3⟩:=jmS cuts.length cuts omg_;have hfl:((so3 cuts.length cuts).filter (inBo a b)).length<=(so3 cuts.length cuts).length:=Ã _ _
 have hin:∀x,x∈(so3 cuts.length cuts).filter (inBo a b)↔x∈cuts/\a<x/\x<b:=λx=>by
  grind[inBo]
 have hpf:((so3 cuts.length cuts).filter (inBo a b)).Pairwise (· < ·):=h1.filter _;unfold bord;by_cases hlt:a<b
 .grind[List.pairwise_cons]
 .have hab':a=b:=omg_;rw[if_neg (show¬b>a by omega)];have hnil:(so3 cuts.length cuts).filter (inBo a b)=[]:=List.eq_nil_iff_forall_not_mem.2 (λx hx=>by grind);grind
end Go.Proofs.Pw
