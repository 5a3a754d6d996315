/- Facts. -/
import Derived.Test.YtmccfdihkphfaaaGreatCEPI
import Derived.Test.YtmccfdihkphfaaaGreatCEPE
import Derived.Test.YtmccfdihkphfaaaGreatCEPC
import Derived.Test.YtmccfdihkphfaaaGreatCELS
open _root_ renaming Int->A,List->B,Nat->O,ByteArray->U,Option->Ã
open List renaming drop_eq_getElem_cons->D,drop_of_length_le->F,take_of_length_le->K,getD_eq_getElem?_getD->M,getD->N,getElem?_set_self->S,drop_set_of_lt->X,take_set_of_le->Y,getElem?_drop->Z,any_eq_true->Á,drop_drop->Â,length->Æ,drop->Ç
open Int renaming ofNat->G,add_zero->Ä
open Decidable renaming decide->H
open Option renaming some->I,bind_none->À
open ByteArray renaming empty->J
open Bool renaming true->R,false->W
noncomputable section
open Go Go.Lft
namespace Go.Proofs.Pw
theorem BI{s t u:bW}(h:SV s)(h':SV t)(h'':SV u):∀x∈[s,t,u],SV x:=DG h (DL h' h'')
theorem jHM{L:B A}{a:A}(h:cQ L a){zs:B bB}{ps:B cZ}{cs:B aY}{nm nv w7:U}{ls kT uj:B bt}{es kU um:B ct}(hs:sd zs ps cs)(h0:SV (nm,(ls,es)))(fI:es.length<=3)(h1:SV (nv,(kT,kU)))(BG:kU.length<=3)(h2:SV (w7,(uj,um)))(Hh:um.length<=3) :
  jK L (jcu L a (zs,(ps,(cs,[(nm,(ls,es)),(nv,(kT,kU)),(w7,(uj,um))])))):=by
 have rR:=hs.z0;have wW:=hs.z1;have pT:=hs.p0;have rN:=hs.p1;have eP:=hs.c1;have gw:ls.length<=3:=h0.ll;have BH:kT.length<=3:=h1.ll;have G3:uj.length<=3:=h2.ll;have mW:∀z∈zs,ZW z:=λz hz=>(hs.ok z hz).w;have cp:jk7 (zs,(ps,(cs,[(nm,(ls,es)),(nv,(kT,kU)),(w7,(uj,um))])))=I (zs,ps,cs,nm,nv,w7,ls,es,kT,kU,uj,um):=by simp only[jk7,js,ku,jr,jf,qp];rw[ai (show zs.length<=aK by unfold aK;omega),ai (show ps.length<=aK by unfold aK;omega),ai (show cs.length<=aK by unfold aK;omega),ai (show (0:A)<((1+1+1:O):A) by omega),bL (show (0:A)<=0 by omega) (show (0:A)<((1+1+1:O):A) by omega)];simp only[j6,List.getD_cons_zero,List.getD_cons_succ];rw[ai (show ls.length<=aK by unfold aK;omega),ai (show es.length<=aK by unfold aK;omega),ai (show (1:A)<((1+1+1:O):A) by omega),bL (show (0:A)<=1 by omega) (show (1:A)<((1+1+1:O):A) by omega),ai (show kT.length<=aK by unfold aK;omega),ai (show kU.length<=aK by unfold aK;omega),ai (show (2:A)<((1+1+1:O):A) by omega),bL (show (0:A)<=2 by omega) (show (2:A)<((1+1+1:O):A) by omega),ai (show uj.length<=aK by unfold aK;omega),ai (show um.length<=aK by unfold aK;omega),aC (show¬(3:A)<((1+1+1:O):A) by omega)];rfl
 simp only[jcu,cp,j4];refine Vn h hs ae ae (BI h0 h1 h2) (λa hd=>sr hd aa aa (λx a1 _ _ hd=>uX (λ_=>?_) (λ_=>uX (λ_=>?_) (λ_=>nZ (dR aa) ?_)))) (λa hd=>sr hd aa aa (λx a1 _ _ hd=>uX (λ_=>?_) (λ_=>uX (λ_=>?_) (λ_=>nZ (dR aa) ?_))))
 .exact DI hd gw h0.ly (λl a2 l1 l2 hd=>oy hd ⟨mW,BI (h0.ls' l1 l2) h1 h2,ae,hs.pw,ae⟩)
 .exact DI hd BH h1.ly (λl a2 l1 l2 hd=>oy hd ⟨mW,BI h0 (h1.ls' l1 l2) h2,ae,hs.pw,ae⟩)
 .exact DI hd G3 h2.ly (λl a2 l1 l2 hd=>oy hd ⟨mW,BI h0 h1 (h2.ls' l1 l2),ae,hs.pw,ae⟩)
 .exact DJ hd aa aa (λx a2 hx hd=>nZ (ai (by simp only[aK,jf,js];omega)) (oy hd ⟨mW,BI (DH h0 fI hx) h1 h2,ae,hs.pw,ae⟩))
 .exact DJ hd aa aa (λx a2 hx hd=>nZ (ai (by simp only[aK,jf,js];omega)) (oy hd ⟨mW,BI h0 (DH h1 BG hx) h2,ae,hs.pw,ae⟩))
 .exact DJ hd aa aa (λx a2 hx hd=>nZ (ai (by simp only[aK,jf,js];omega)) (oy hd ⟨mW,BI h0 h1 (DH h2 Hh hx),ae,hs.pw,ae⟩))
theorem jDf{α:Type}(b:Bool):cond b (none:Ã α) none=none:=by cases b<;>rfl
theorem jDg{L:B A}{a:A}{zs:B bB}{ps:B cZ}{cs:B aY}{ss:B bW}(h:2<=ss.length):j84 L a (zs,(ps,(cs,ss)))=none:=by
 have cp:jek (zs,(ps,(cs,ss)))=none:=by simp only[jek,qp];rw[ai (show (1:A)<(ss.length:A) by omega)];simp only[j6,jDf]
 simp only[j84,cp,À]
theorem jHN{L:B A}{a:A}{zs:B bB}{ps:B cZ}{cs:B aY}{ss:B bW}(h:3<=ss.length):j85 L a (zs,(ps,(cs,ss)))=none:=by
 have cp:jel (zs,(ps,(cs,ss)))=none:=by simp only[jel,qp];rw[ai (show (2:A)<(ss.length:A) by omega)];simp only[j6,jDf]
 simp only[j85,cp,À]
theorem jEY{L:B A}{a:A}(h:cQ L a){zs:B bB}{ps:B cZ}{cs:B aY}{ss:B bW}(hs:sd zs ps cs)(hk:DF ss)(h1:1<=ss.length)(h2:ss.length<=3) :
  jK L (j94 L a (zs,(ps,(cs,ss)))):=by
 match ss,h1,h2,hk with
 |[(nm,(ls,es))],_,_,hk=>obtain⟨k,a',e,hv,hd⟩:=jHK h hs (BF hk (nm,(ls,es)) ae) (hk (nm,(ls,es)) ae).2.1;exact⟨k,a',by simp only[j94,e,orF],hv,hd⟩
 |[(nm,(ls,es)),(nv,(kT,kU))],_,_,hk=>obtain⟨k,a',e,hv,hd⟩:=jHL h hs (BF hk (nm,(ls,es)) ae) (hk (nm,(ls,es)) ae).2.1 (BF hk (nv,(kT,kU)) ae) (hk (nv,(kT,kU)) ae).2.1;exact⟨k,a',by simp only[j94,jDg (L:=L) (a:=a) (zs:=zs) (ps:=ps) (cs:=cs) (ss:=[(nm,(ls,es)),(nv,(kT,kU))]) ae,e,orF],hv,hd⟩
 |[(nm,(ls,es)),(nv,(kT,kU)),(w7,(uj,um))],_,_,hk=>obtain⟨k,a',e,hv,hd⟩:=jHM h hs (BF hk (nm,(ls,es)) ae) (hk (nm,(ls,es)) ae).2.1 (BF hk (nv,(kT,kU)) ae) (hk (nv,(kT,kU)) ae).2.1 (BF hk (w7,(uj,um)) ae) (hk (w7,(uj,um)) ae).2.1;exact⟨k,a',by simp only[j94,jDg (L:=L) (a:=a) (zs:=zs) (ps:=ps) (cs:=cs) (ss:=[(nm,(ls,es)),(nv,(kT,kU)),(w7,(uj,um))]) ae,jHN (L:=L) (a:=a) (zs:=zs) (ps:=ps) (cs:=cs) (ss:=[(nm,(ls,es)),(nv,(kT,kU)),(w7,(uj,um))]) ae,e,orF],hv,hd⟩
theorem su{b:Bool}{k:A}{r:Ã A}(hk:k≠0)(h:cond b (I k) r=I 0):b=W/\r=I 0:=by
 cases b with
 |true=>simp at h;exact absurd h hk
 |false=>exact⟨rfl,h⟩
theorem c2_{b:Bool}{r s:Ã A}(h:cond b r s=I 0):r=I 0\/s=I 0:=by
 cases b with
 |true=>exact .inl h
 |false=>exact .inr h
theorem ce0{c:fZ}{x:ct}(h:j11 c x=I 0):0<=x.2.2.2.1/\x.2.2.2.1<x.2.2.2.2:=by
 have T:∀(t:A),cond (cond (H (x.2.2.2.1<(0:A))) R (H (x.2.2.2.2<(0:A)))) (I (1:A)) ((j15 t).bind λr=>cond (!r) (I (1:A)) (cond (H (x.2.2.2.1>=x.2.2.2.2)) (I (6:A)) (I (0:A))))=I 0->0<=x.2.2.2.1/\x.2.2.2.1<x.2.2.2.2:=by
  intro t h;obtain⟨h1,h⟩:=su (by decide) h;have h0:¬x.2.2.2.1<0:=by intro hh;rw[ai hh]at h1;simp at h1
  cases hd:j15 t with
  |none=>rw[hd]at h;simp at h
  |some b=>rw[hd]at h;obtain⟨_,h⟩:=su (by decide) h;obtain⟨h2,_⟩:=su (by decide) h;simp only[ka]at h2;exact⟨aa,aa⟩
 simp only[j11,j3I,j1a,j4]at h;obtain⟨_,h⟩:=su (by decide) h;rcases c2_ h with h|h
 .obtain⟨_,h⟩:=su (by decide) h;obtain⟨_,h⟩:=su (by decide) h;obtain⟨_,h⟩:=su (by decide) h;exact T _ h
 .rcases c2_ h with h|h
  .obtain⟨_,h⟩:=su (by decide) h;obtain⟨_,h⟩:=su (by decide) h;obtain⟨_,h⟩:=su (by decide) h;exact T _ h
  .obtain⟨_,h⟩:=su (by decide) h;obtain⟨_,h⟩:=su (by decide) h;exact T _ h
structure SG(zs:B bB)(ps:B cZ)(cs:B aY)(s:bW):Prop where
 ly:∀L∈s.2.1,ic zs.length ps.length cs.length L
 ll:s.2.1.length<=4
 ed:∀x∈s.2.2,GW x
 el:s.2.2.length<=9
theorem jK2{zs:B bB}{ps:B cZ}{cs:B aY}{ss:B bW}(hv:CV (zs,(ps,(cs,ss))))(hC:BE zs ps cs ss):∀s∈ss,SG zs ps cs s:=λs hs=>by
 have h:=hC.s s hs;have v:=hv.s s hs;have gw:=v.ll;have fI:=v.el
 exact⟨λL hL=>⟨h.ly L hL,v.ly L hL⟩,aa,λx hx=>by
  have:=ce0 (h.ed x hx);exact⟨this.1,this.2,v.ed x hx⟩,aa⟩
section
variable{zs:B bB}{ps:B cZ}{cs:B aY}{ss:B bW}
theorem jJk(hv:CV (zs,(ps,(cs,ss)))):∃e v b,jhN (zs,(ps,(cs,ss)))=I (v,b)/\j9N (zs,(ps,(cs,ss)))=I e/\(e≠0->b=W)/\
  (e=0->b=R/\v=((zs,(ps,(cs,ss))),zs.map tb)/\kS zs ps cs/\∀s∈ss,SG zs ps cs s):=by
 obtain⟨e,e1,e2,e3⟩:=hv.w.chk;by_cases he:e=0
 .subst he;obtain⟨hC,hg⟩:=e3 rfl;refine⟨0,_,_,?_,e2,λh=>absurd rfl h,λ_=>⟨rfl,rfl,hg,jK2 hv hC⟩⟩;have hv:=jH9 (ps:=ps) (cs:=cs) (ss:=ss) hg.ok (by have:=hg.zl;omega);simp only[jhN,e1,j4,je,j7];rw[hv];rfl
 .refine⟨e,((([]:B bB),(([]:B cZ),(([]:B aY),([]:B bW)))),([]:B (A×bm))),W,?_,e2,λ_=>rfl,λh=>absurd h he⟩;simp only[jhN,e1,j4];rw[show (e != 0)=R by simpa using he,j6]
end
theorem jxN{l:bM}(hl:l.length<=100000000)(x:mh):jkc l x=I (lL l x):=by
 simp only[jkc,lL];by_cases hx:x.2.1<=x.1
 .rw[ai hx,if_pos hx,j6]
 rw[aC hx,if_neg hx,j7,sx l];rcases ze l with rfl|⟨r,u,rfl⟩
 .rfl
 rw[zf]at hl ⊢;have hlen:(r++[u]).length=r.length+1:=ae;rw[hlen]at hl ⊢;have br:(r++[u]).getD r.length ((0:A),((0:A),(0:A)))=u:=by simp[N]
 rw[ai (show ((r.length+1:O):A)>0 by omega),aQ (x:=((r.length+1:O):A)-1),cB,show (((r.length+1:O):A)-1).toNat=r.length by omega,br];simp only[j6,List.getLast?_append,vp,Option.some_or,List.dropLast_concat];rw[ai (show r.length+1+[(x.1,(x.2.1,x.2.2))].length<=aK by simp[aK];omega)];simp only[j6];by_cases h1:u.2.1=x.1
 .rw[dR h1,j6];by_cases h2:u.2.2=x.2.2
  .rw[dR h2,if_pos ⟨h1,h2⟩,j6];congr 1;simp
  .rw[cU h2,if_neg (λh=>h2 h.2),j7]
 .rw[cU h1,if_neg (λh=>h1 h.1),j7]
theorem jJl(a b:A):∃v,j6Y a b=I v/\(v=R->0<=a/\a<=b/\b<=8589934592/\b-a<=34560000):=by
 refine⟨_,rfl,λh=>?_⟩
 have h':(H (a>=0)&&H (a<=8589934592)&&H (b>=a)&&H (b<=8589934592)&&H (w64 (b-a)<=34560000))=true:=by
  revert h
  cases H (a>=(0:A))<;>cases H (a<=(8589934592:A))<;>cases H (b>=a)<;>cases H (b<=(8589934592:A))<;>cases H (w64 (b-a)<=(34560000:A))<;>simp
 simp only[jc,jl]at h';obtain⟨⟨⟨⟨h1,h2⟩,h3⟩,h4⟩,h5⟩:=h';rw[aQ (x:=b-a)]at h5;exact⟨h1,h3,h4,h5⟩
section
variable{zs:B bB}{ps:B cZ}{cs:B aY}{ss:B bW}
end
structure CG(c:fZ):Prop where
 g:kS c.1 c.2.1 c.2.2.1
 chk:j5h c=I 0
 r8:j9N c=I 0
 sc:∀s∈c.2.2.2,SG c.1 c.2.1 c.2.2.1 s
 of:jhN c=I ((c,c.1.map tb),R)
def zH(l:bm):Int:=if l.length=0 then 0 else aV l l.length+86400
section
variable{o:A}{l:bm}(h:ix o l)
include h
theorem jG8{s:A}(hs:s<=8551958400):∃v,fO o l s=I v:=by
 rcases GV o l s with⟨v,k,f⟩|db
 .exact⟨v,ub f⟩
 .have fW:aV l (l.length+1)=8589934593:=lF;have:=db l.length (jh _);have:=h.of0 l.length (jh _);omega
end
theorem jHO{d:A}(h:j15 d=I R):d<=98980:=by
 apply jt;intro hd;simp only[j15,j67,Ui,Uh,j4]at h;rw[aC (show¬d<0 by omega),ai (show d>=98981 by omega)]at h;simp at h
def n4(x:aY):Int:=(x.2.2.getD (x.2.2.length-1) 0+1)*86400
def iF(zs:B bB)(x:aY):Int:=max (zH (tb (az zs x.2.1)).2) (if x.2.2.length=0 then 0 else (fO (az zs x.2.1).2.1 (tb (az zs x.2.1)).2 (n4 x)).getD 0)
def gy(zs:B bB)(cs:B aY)(L:bt):Int:=
 max (max (zH (tb (az zs L.2.1)).2) ((hO (az zs L.2.1).2.1 (tb (az zs L.2.1)).2 L 0).getD 0)) (if L.2.2.2.2.2.2.2.2=0 then 0 else iF zs (eI cs L.2.2.2.2.2.2.2.1))
section
variable{zs:B bB}{ps:B cZ}{cs:B aY}(hs:kS zs ps cs)
include hs
end
theorem jDh{f:O->Bool}:∀{n k:O},dX f n=I k->k<n
 |0,k,h=>by simp[dX]at h
 |n+1,k,h=>by
  simp only[dX]at h;cases hf:f n with
  |true=>rw[hf]at h;simp at h;omega
  |false=>rw[hf]at h;simp at h;have:=jDh h;omega
def yP(t p:A)(x:ct):Int:=
 if t<x.2.2.2.1\/x.2.2.2.2<=t then p else if x.1=1 then x.2.1 else if x.1=2/\p=x.2.1 then x.2.2.1 else if x.1=2/\p=x.2.2.1 then x.2.1 else p
def ml(t:A):A->B ct->A
 |p,[]=>p
 |p,x::r=>ml t (yP t p x) r
theorem jG9{es:B ct}(hl:es.length<=100){t:A}:∀(n i:O)(p:A),i+n=es.length->J0 es p t (i:A)=I (ml t p (es.drop i))
 |0,i,p,hi=>by
  rw[p_];simp(disch:=omega)only[j7Y,F,S0];rfl
 |n+1,i,p,hi=>by
  have bG:i<es.length:=aa;have br:es.getD i ((0:A),((0:A),((0:A),((0:A),(0:A)))))=es[i]:=by simp[N,bG]
  have ih:=λp=>jG9 hl (t:=t) n (i+1) p aa;rw[p_];simp only[j7Y,show G es.length=(es.length:A) from rfl];rw[ai aa,cB,aQ (x:=(i:A)+1),D bG];simp only[j6,j8,br,ml];generalize es[i]=x;unfold yP;by_cases ha:t<x.2.2.2.1\/x.2.2.2.2<=t
  .rw[if_pos ha]
   have:cond (H (t<x.2.2.2.1)) R (H (t>=x.2.2.2.2))=true:=by
    rcases ha with ha|ha
    .rw[ai ha];rfl
    .simp(disch:=omega)only[S0];cases H (t<x.2.2.2.1)<;>rfl
   rw[this,j6,bg];exact ih p
  .rw[if_neg ha,aC (show¬t<x.2.2.2.1 by omega),aC (show¬t>=x.2.2.2.2 by omega)];simp only[j7];by_cases h1:x.1=1
   .rw[if_pos h1,dR h1,j6,bg];exact ih _
   .rw[if_neg h1,cU h1,j7];by_cases h2:x.1=2
    .rw[dR h2];simp only[j6];by_cases h3:p=x.2.1
     .rw[if_pos ⟨h2,h3⟩,dR h3,j6,bg];exact ih _
     .rw[if_neg (λh=>h3 h.2),cU h3,j7];by_cases h4:p=x.2.2.1
      .rw[if_pos ⟨h2,h4⟩,dR h4,j6,bg];exact ih _
      .rw[if_neg (λh=>h4 h.2),cU h4,j7,bg];exact ih _
    .rw[if_neg (λh=>h2 h.1),if_neg (λh=>h2 h.1),cU h2];simp only[j7,bg];exact ih _
theorem jDi{es:B ct}(hl:es.length<=100){t:A}:∀(n i:O)(p:A),i+n=es.length->JF p t es (es.length:A) (i:A)=I (ml t p (es.drop i))
 |0,i,p,hi=>by
  rw[_p];simp(disch:=omega)only[j6T,F,S0];rfl
 |n+1,i,p,hi=>by
  have bG:i<es.length:=aa;have br:es.getD i ((0:A),((0:A),((0:A),((0:A),(0:A)))))=es[i]:=by simp[N,bG]
  have ih:=λp=>jDi hl (t:=t) n (i+1) p aa;rw[_p];simp only[j6T,jl5,j4];rw[ai aa,cB,aQ (x:=(i:A)+1),D bG];simp only[j6,j8,br,ml];generalize es[i]=x;unfold yP;by_cases ha:t<x.2.2.2.1\/x.2.2.2.2<=t
  .rw[if_pos ha]
   have:cond (H (x.2.2.2.1<=t)) (H (t<x.2.2.2.2)) W=false:=by
    rcases ha with ha|ha
    .rw[aC (show¬x.2.2.2.1<=t by omega)];rfl
    .simp(disch:=omega)only[S0];cases H (x.2.2.2.1<=t)<;>rfl
   rw[this];simp only[jv,j6,bg];exact ih p
  .rw[if_neg ha,ai (show x.2.2.2.1<=t by omega),ai (show t<x.2.2.2.2 by omega)];simp only[j6,jg,j7];by_cases h0:x.1=0
   .simp(disch:=omega)only[if_neg,S0];exact ih p
   rw[cU h0,j7];by_cases h1:x.1=1
   .rw[if_pos h1,dR h1,j6,bg];exact ih _
   .rw[if_neg h1,cU h1,j7];by_cases h2:x.1=2
    .rw[show (x.1 != 2)=W by simp[h2],j7];by_cases h3:p=x.2.1
     .rw[if_pos ⟨h2,h3⟩,dR h3,j6,bg];exact ih _
     .rw[if_neg (λh=>h3 h.2),cU h3,j7];by_cases h4:p=x.2.2.1
      .rw[if_pos ⟨h2,h4⟩,dR h4,j6,bg];exact ih _
      .rw[if_neg (λh=>h4 h.2),cU h4,j7,bg];exact ih _
    .rw[if_neg (λh=>h2 h.1),if_neg (λh=>h2 h.1),show (x.1 != 2)=R by simp[h2],j6,bg];exact ih _
theorem Hi(a b:A):(if a>b then a else b)=max b a:=by split<;>omega
section
variable{zs:B bB}{ps:B cZ}{cs:B aY}(hs:kS zs ps cs)
include hs
def dN(zs:B bB)(cs:B aY)(s:bW)(t:A):Int:=ml t (fD s.2.2 t (dH zs cs s.2.1 t) s.2.1.length) s.2.2
omit hs in
theorem jGa{l:bm}(h:l.length≠0):zH l=(l.getD (l.length-1) ((0:A),(0:A))).1+86400:=by
 unfold zH aV;rw[if_neg h,if_neg h,if_pos (jh _)];rfl
omit hs in
theorem lR{o:A}{l:bm}(h:ix o l):0<=zH l/\zH l<=8589934592+86400:=by
 unfold zH;by_cases h0:l.length=0
 .rw[if_pos h0];omega
 .rw[if_neg h0];have e:aV l (l.length+1)=8589934593:=lF;have:=h.frm_lt (i:=l.length) (jh _);have:=h.frm_le (i:=0) (j:=l.length) aa aa;have e0:aV l 0=0:=lE;omega
omit hs in
theorem w8{i:A}(h0:0<=i)(h1:i<(zs.length:A)){c:fZ}:j5E (c,zs.map tb) i=I (tb (az zs i)):=by
 simp only[j5E,ki];rw[bL h0 h1,j6,Ld h0 h1];rfl
theorem Hj{i:A}(h0:0<=i)(h1:i<(zs.length:A)){ss:B bW}{n:A}(hn:0<=n):j41 i zs ps cs ss (zs.map tb) n=I (zs,ps,cs,ss,zs.map tb,max n (zH (tb (az zs i)).2)):=by
 have hz:eX (az zs i):=eG hs.ok h0 h1;have hb:=lR hz.ztab.2;have hlen:=hz.ztab.2.len;simp only[j41,w8 h0 h1,j4,jaR,jey,show G (tb (az zs i)).2.length=((tb (az zs i)).2.length:A) from rfl];by_cases hl:(tb (az zs i)).2.length=0
 .rw[aC aa,j7,show zH (tb (az zs i)).2=0 by unfold zH;rw[if_pos hl]];simp only[j5,j9,kc];omega
 .have e:=jGa hl;rw[ai aa,j6,cU aa,j7,aQ (x:=((tb (az zs i)).2.length:A)-1),cB,show (((tb (az zs i)).2.length:A)-1).toNat=(tb (az zs i)).2.length-1 by omega];simp only[j6,j4];rw[<-e,aQ (x:=zH (tb (az zs i)).2),Hi]
omit hs in
theorem jw4{z:bB}(hz:eX z):jfZ z=I (zH (tb z).2):=by
 have h4:=hz.zref.2.1;have hb:=lR h4.2;have hlen:=h4.2.len;simp only[jfZ,jle,show j0a (z.1,(z.2.1,z.2.2))=_ from h4.1,j4,je,j7,show G (tb z).2.length=((tb z).2.length:A) from rfl];by_cases hl:(tb z).2.length=0
 .rw[dR aa,j6,show zH (tb z).2=0 by unfold zH;rw[if_pos hl]]
 .have e:=jGa hl;rw[cU aa,j7,j7,aQ (x:=((tb z).2.length:A)-1),cB,show (((tb z).2.length:A)-1).toNat=(tb z).2.length-1 by omega];simp only[j6,j4];rw[<-e,aQ (x:=zH (tb z).2)]
omit hs in
theorem jz0{nz:O}{x:aY}(hx:nk nz x)(hl:x.2.2.length≠0):0<=x.2.2.getD (x.2.2.length-1) 0/\x.2.2.getD (x.2.2.length-1) 0<=98980:=by
 have wu:x.2.2.getD (x.2.2.length-1) 0∈x.2.2:=by rw[show x.2.2.getD (x.2.2.length-1) 0=x.2.2[x.2.2.length-1] by simp[N,show x.2.2.length-1<x.2.2.length by omega]];exact jd _
 exact⟨Ā (hx.day _ wu),jHO (hx.day _ wu)⟩
omit hs in
theorem Hk{o:A}{l:bm}(ht:ix o l){L:bt}(hR:Rt L):0<=(hO o l L 0).getD 0:=by
 cases h:hO o l L 0 with
 |none=>simp
 |some v=>have:=wX ht hR (k:=0) aa h;simp;omega
theorem jJm{ls:B bt}{m:A}(gg:m=ls.length)(hQ:m<=100)(oL:∀L∈ls,ic zs.length ps.length cs.length L){i:O}(hi:i<ls.length){ss:B bW}{n:A}(hn:0<=n) :
  j2b ls m (i:A) zs ps cs ss (zs.map tb) n=I (.inl (ls,m,(i:A)+1,zs,ps,cs,ss,zs.map tb,max n (gy zs cs ls[i]))):=by
 have hL:=oL _ (jd hi);have br:ls.getD i (J,((0:A),(((0:A),(0:A)),((0:A),((0:A),(([]:B A),(([]:B (A×A)),((0:A),(0:A)))))))))=ls[i]:=by simp[N,hi]
 simp only[j2b];rw[ai aa,cB,aQ (x:=(i:A)+1)];simp only[j6,j8,br];generalize ls[i]=L at *;have nu:=hL.rt2;have hz:eX (az zs L.2.1):=eG hs.ok hL.z0 hL.z1;obtain⟨v,eH,hv⟩:=px hz.ztab.2 nu (k:=0) aa aa;have Hc:j0N ((tb (az zs L.2.1)).1,(tb (az zs L.2.1)).2) (L.1,(L.2.1,((L.2.2.1.1,L.2.2.1.2),(L.2.2.2.1,(L.2.2.2.2.1,(L.2.2.2.2.2.1,(L.2.2.2.2.2.2.1,(L.2.2.2.2.2.2.2.1,L.2.2.2.2.2.2.2.2)))))))) 0=I (v,(hO (az zs L.2.1).2.1 (tb (az zs L.2.1)).2 L 0).isSome):=eH;have hb:=Hk hz.ztab.2 nu;simp only[Hj hs hL.z0 hL.z1 hn,j4,w8 hL.z0 hL.z1,Hc,Hi];by_cases hm:L.2.2.2.2.2.2.2.2=0
 .have el:gy zs cs L=max (zH (tb (az zs L.2.1)).2) ((hO (az zs L.2.1).2.1 (tb (az zs L.2.1)).2 L 0).getD 0):=by have Vp:=lR hz.ztab.2;unfold gy;rw[if_pos hm];omega
  rw[dR hm,el];cases hh:hO (az zs L.2.1).2.1 (tb (az zs L.2.1)).2 L 0 with
  |none=>simp only[qf,j7,j6,vi];congr 1;congr 1;simp only[j9,kc];omega
  |some w=>rw[hv w hh];simp only[qg,j6,kp];congr 1;congr 1;simp only[j9,kc];omega
 .have hx:nk zs.length (eI cs L.2.2.2.2.2.2.2.1):=mR hs (hL.cal hm).1 (hL.cal hm).2;have el:gy zs cs L=max (max (zH (tb (az zs L.2.1)).2) ((hO (az zs L.2.1).2.1 (tb (az zs L.2.1)).2 L 0).getD 0)) (iF zs (eI cs L.2.2.2.2.2.2.2.1)):=by unfold gy;rw[if_neg hm]
  rw[cU hm,el,bL (hL.cal hm).1 (hL.cal hm).2];have xC:cs.getD L.2.2.2.2.2.2.2.1.toNat (J,((0:A),([]:B A)))=eI cs L.2.2.2.2.2.2.2.1:=rfl;rw[xC];generalize eI cs L.2.2.2.2.2.2.2.1=x at *;have nh:eX (az zs x.2.1):=eG hs.ok hx.z0 hx.z1;have Vp:=lR hz.ztab.2;have Hl:=lR nh.ztab.2;have nG:=hx.len;simp only[j7,j6,show G x.2.2.length=(x.2.2.length:A) from rfl];by_cases hl:x.2.2.length=0
  .have ec:iF zs x=zH (tb (az zs x.2.1)).2:=by unfold iF;rw[if_pos hl];omega
   rw[aC (show¬(x.2.2.length:A)>0 by omega),ec];cases hh:hO (az zs L.2.1).2.1 (tb (az zs L.2.1)).2 L 0 with
   |none=>simp only[qf,j7,vi,Hj hs hx.z0 hx.z1 (show 0<=max n (zH (tb (az zs L.2.1)).2) by omega),j4];congr 1;congr 1;simp only[j9,kc];omega
   |some w=>rw[hv w hh];simp only[qg,j6,j7,kp,Hj hs hx.z0 hx.z1 (show 0<=max (max n (zH (tb (az zs L.2.1)).2)) w by omega),j4];congr 1;congr 1;simp only[j9,kc];omega
  .obtain⟨l0,l1⟩:=jz0 hx hl;obtain⟨u,hu⟩:=jG8 nh.ztab.2 (s:=n4 x) (by unfold n4;omega);have eF:=Ug nh.ztab.2 (d:=x.2.2.getD (x.2.2.length-1) 0+1) (c:=0) aa aa aa aa;rw[Ä,show (x.2.2.getD (x.2.2.length-1) 0+1)*86400=n4 x from rfl,hu]at eF;have Hm:j1U ((tb (az zs x.2.1)).1,(tb (az zs x.2.1)).2) (x.2.2.getD (x.2.2.length-1) 0+1,0)=I (u,R):=eF;have ec:iF zs x=max (zH (tb (az zs x.2.1)).2) u:=by unfold iF;rw[if_neg hl,hu];rfl
   rw[ai (show (x.2.2.length:A)>0 by omega),ec,aQ (x:=(x.2.2.length:A)-1),bL (show 0<=(x.2.2.length:A)-1 by omega) aa,show ((x.2.2.length:A)-1).toNat=x.2.2.length-1 by omega,aQ (x:=x.2.2.getD (x.2.2.length-1) 0+1)];cases hh:hO (az zs L.2.1).2.1 (tb (az zs L.2.1)).2 L 0 with
   |none=>simp only[qf,j7,vi,Hj hs hx.z0 hx.z1 (show 0<=max n (zH (tb (az zs L.2.1)).2) by omega),j4,j6,w8 hx.z0 hx.z1,Hm];congr 1;congr 1;simp only[j9,kc];omega
   |some w=>rw[hv w hh];simp only[qg,j6,kp,Hj hs hx.z0 hx.z1 (show 0<=max (max n (zH (tb (az zs L.2.1)).2)) w by omega),j4,w8 hx.z0 hx.z1,Hm];congr 1;congr 1;simp only[j9,kc];omega
theorem jHP{ls:B bt}(hQ:ls.length<=100)(oL:∀L∈ls,ic zs.length ps.length cs.length L){i:O}(hi:i<ls.length){ss:B bW}{nm:U}{es:B ct}{n:A}(hn:0<=n) :
  j46 n (i:A) zs ps cs ss nm ls es=I (.inl (max n (gy zs cs ls[i]),(i:A)+1,zs,ps,cs,ss,nm,ls,es)):=by
 have hL:=oL _ (jd hi);have br:ls.getD i (J,((0:A),(((0:A),(0:A)),((0:A),((0:A),(([]:B A),(([]:B (A×A)),((0:A),(0:A)))))))))=ls[i]:=by simp[N,hi]
 simp only[j46,show G ls.length=(ls.length:A) from rfl];rw[ai aa,bL (show (0:A)<=(i:A) by omega) aa,aQ (x:=(i:A)+1)];simp only[j6,j8,br];generalize ls[i]=L at *;have nu:=hL.rt2;have hz:eX (az zs L.2.1):=eG hs.ok hL.z0 hL.z1;have h4:=hz.zref.2.1;have EU:zs.getD L.2.1.toNat (J,((0:A),([]:B aO)))=az zs L.2.1:=rfl;obtain⟨v,eH,hv⟩:=Bs h4 nu (k:=0) aa aa
 have Hc:jg0 ((az zs L.2.1).1,((az zs L.2.1).2.1,(az zs L.2.1).2.2)) (L.1,(L.2.1,((L.2.2.1.1,L.2.2.1.2),(L.2.2.2.1,(L.2.2.2.2.1,(L.2.2.2.2.2.1,(L.2.2.2.2.2.2.1,(L.2.2.2.2.2.2.2.1,L.2.2.2.2.2.2.2.2)))))))) 0=I (match hO (az zs L.2.1).2.1 (tb (az zs L.2.1)).2 L 0 with|some w=>(w,0)|none=>(0,10)):=by
  simp only[jg0];rw[show jbb ((az zs L.2.1).1,((az zs L.2.1).2.1,(az zs L.2.1).2.2)) (L.1,L.2.1,(L.2.2.1.1,L.2.2.1.2),L.2.2.2.1,L.2.2.2.2.1,L.2.2.2.2.2.1,L.2.2.2.2.2.2.1,L.2.2.2.2.2.2.2.1,L.2.2.2.2.2.2.2.2)=_ from Ux h4 L,j4,if_pos nu,aC (show¬(0:A)<0 by omega),aC (show¬(0:A)>2386092 by omega)];simp only[je,j7];rw[show j6l ((az zs L.2.1).1,((az zs L.2.1).2.1,(az zs L.2.1).2.2)) (L.1,L.2.1,(L.2.2.1.1,L.2.2.1.2),L.2.2.2.1,L.2.2.2.2.1,L.2.2.2.2.2.1,L.2.2.2.2.2.2.1,L.2.2.2.2.2.2.2.1,L.2.2.2.2.2.2.2.2) 0=_ from eH];cases hh:hO (az zs L.2.1).2.1 (tb (az zs L.2.1)).2 L 0 with
  |none=>rfl
  |some w=>rw[hv w hh];rfl
 have hb:=Hk hz.ztab.2 nu;rw[bL hL.z0 hL.z1];simp only[j6,EU,show jfZ ((az zs L.2.1).1,((az zs L.2.1).2.1,(az zs L.2.1).2.2))=I (zH (tb (az zs L.2.1)).2) from jw4 hz,j4,Hc,Hi];by_cases hm:L.2.2.2.2.2.2.2.2=0
 .have el:gy zs cs L=max (zH (tb (az zs L.2.1)).2) ((hO (az zs L.2.1).2.1 (tb (az zs L.2.1)).2 L 0).getD 0):=by have Vp:=lR hz.ztab.2;unfold gy;rw[if_pos hm];omega
  rw[dR hm,el];cases hh:hO (az zs L.2.1).2.1 (tb (az zs L.2.1)).2 L 0 with
  |none=>simp only[show ((10:A)==0)=W from rfl,j7,j6,vi];congr 1;congr 1;simp only[j9,y9];omega
  |some w=>simp only[ke,j6,kp];congr 1;congr 1;simp only[j9,y9];omega
 .have hx:nk zs.length (eI cs L.2.2.2.2.2.2.2.1):=mR hs (hL.cal hm).1 (hL.cal hm).2;have el:gy zs cs L=max (max (zH (tb (az zs L.2.1)).2) ((hO (az zs L.2.1).2.1 (tb (az zs L.2.1)).2 L 0).getD 0)) (iF zs (eI cs L.2.2.2.2.2.2.2.1)):=by unfold gy;rw[if_neg hm]
  rw[cU hm,el,bL (hL.cal hm).1 (hL.cal hm).2];have xC:cs.getD L.2.2.2.2.2.2.2.1.toNat (J,((0:A),([]:B A)))=eI cs L.2.2.2.2.2.2.2.1:=rfl;rw[xC];generalize eI cs L.2.2.2.2.2.2.2.1=x at *;have nh:eX (az zs x.2.1):=eG hs.ok hx.z0 hx.z1;have EV:zs.getD x.2.1.toNat (J,((0:A),([]:B aO)))=az zs x.2.1:=rfl;have Vp:=lR hz.ztab.2;have Hl:=lR nh.ztab.2;have nG:=hx.len;rw[bL hx.z0 hx.z1];simp only[j7,j6,EV,show jfZ ((az zs x.2.1).1,((az zs x.2.1).2.1,(az zs x.2.1).2.2))=I (zH (tb (az zs x.2.1)).2) from jw4 nh,j4,show G x.2.2.length=(x.2.2.length:A) from rfl];by_cases hl:x.2.2.length=0
  .have ec:iF zs x=zH (tb (az zs x.2.1)).2:=by unfold iF;rw[if_pos hl];omega
   rw[aC (show¬(x.2.2.length:A)>0 by omega),ec];cases hh:hO (az zs L.2.1).2.1 (tb (az zs L.2.1)).2 L 0 with
   |none=>simp only[show ((10:A)==0)=W from rfl,j7,vi];congr 1;congr 1;simp only[j9,y9];omega
   |some w=>simp only[ke,j6,j7,kp];congr 1;congr 1;simp only[j9,y9];omega
  .obtain⟨l0,l1⟩:=jz0 hx hl;obtain⟨u,hu⟩:=jG8 nh.ztab.2 (s:=n4 x) (by unfold n4;omega);have eF:=La nh.zref.2.1 (d:=x.2.2.getD (x.2.2.length-1) 0+1) (c:=0) aa aa aa;rw[Ä,show (x.2.2.getD (x.2.2.length-1) 0+1)*86400=n4 x from rfl,hu]at eF;have Hm:j4A ((az zs x.2.1).1,((az zs x.2.1).2.1,(az zs x.2.1).2.2)) (x.2.2.getD (x.2.2.length-1) 0+1,0)=I (u,0):=eF;have ec:iF zs x=max (zH (tb (az zs x.2.1)).2) u:=by unfold iF;rw[if_neg hl,hu];rfl
   rw[ai (show (x.2.2.length:A)>0 by omega),ec,aQ (x:=(x.2.2.length:A)-1),bL (show 0<=(x.2.2.length:A)-1 by omega) aa,show ((x.2.2.length:A)-1).toNat=x.2.2.length-1 by omega,aQ (x:=x.2.2.getD (x.2.2.length-1) 0+1)];cases hh:hO (az zs L.2.1).2.1 (tb (az zs L.2.1)).2 L 0 with
   |none=>simp only[show ((10:A)==0)=W from rfl,j7,j6,vi,Hm,j4,ke];congr 1;congr 1;simp only[j9,y9];omega
   |some w=>simp only[ke,j6,kp,Hm,j4];congr 1;congr 1;simp only[j9,y9];omega
end
def sv(zs:B bB)(cs:B aY):A->B bt->A
 |n,[]=>n
 |n,L::r=>sv zs cs (max n (gy zs cs L)) r
def oz:A->B ct->A
 |n,[]=>n
 |n,x::r=>oz (max n x.2.2.2.2) r
theorem Vq{zs:B bB}{cs:B aY}{t:A}:∀(ls:B bt)(n:A),sv zs cs n ls<=t↔n<=t/\∀L∈ls,gy zs cs L<=t
 |[],n=>by simp[sv]
 |L::r,n=>by
  simp only[sv,Vq r,jb,forall_eq_or_imp];constructor
  .rintro⟨a,b⟩;exact⟨aa,aa,b⟩
  .rintro⟨a,b,c⟩;exact⟨aa,c⟩
theorem Hn{t:A}:∀(es:B ct)(n:A),oz n es<=t↔n<=t/\∀x∈es,x.2.2.2.2<=t
 |[],n=>by simp[oz]
 |x::r,n=>by
  simp only[oz,Hn r,jb,forall_eq_or_imp];constructor
  .rintro⟨a,b⟩;exact⟨aa,aa,b⟩
  .rintro⟨a,b,c⟩;exact⟨aa,c⟩
def sw(zs:B bB)(cs:B aY)(s:bW):Int:=oz (sv zs cs 0 s.2.1) s.2.2
theorem Vr{zs:B bB}{cs:B aY}{s:bW}{t:A}:sw zs cs s<=t↔0<=t/\(∀L∈s.2.1,gy zs cs L<=t)/\∀x∈s.2.2,x.2.2.2.2<=t:=by
 unfold sw;rw[Hn,Vq,and_assoc]
theorem jz1{zs:B bB}{cs:B aY}{s:bW}:sv zs cs (oz 0 s.2.2) s.2.1=sw zs cs s:=by
 have key:∀t,sv zs cs (oz 0 s.2.2) s.2.1<=t↔sw zs cs s<=t:=λt=>by
  rw[Vr,Vq,Hn];constructor
  .rintro⟨⟨a,b⟩,c⟩;exact⟨a,c,b⟩
  .rintro⟨a,c,b⟩;exact⟨⟨a,b⟩,c⟩
 have h1:=(key (sw zs cs s)).2 (jx _);have h2:=(key (sv zs cs (oz 0 s.2.2) s.2.1)).1 (jx _);omega
section
variable{zs:B bB}{ps:B cZ}{cs:B aY}(hs:kS zs ps cs)
include hs
theorem jJn{L:bt}(hL:ic zs.length ps.length cs.length L):gy zs cs L<=1000000000000:=by
 have hz:eX (az zs L.2.1):=eG hs.ok hL.z0 hL.z1;have hb:=lR hz.ztab.2
 have h1:(hO (az zs L.2.1).2.1 (tb (az zs L.2.1)).2 L 0).getD 0<=8589934592:=by
  cases h:hO (az zs L.2.1).2.1 (tb (az zs L.2.1)).2 L 0 with
  |none=>simp
  |some v=>have:=wX hz.ztab.2 hL.rt2 (k:=0) aa h;simp;omega
 unfold gy;by_cases hm:L.2.2.2.2.2.2.2.2=0
 .rw[if_pos hm];omega
 .rw[if_neg hm];have hx:nk zs.length (eI cs L.2.2.2.2.2.2.2.1):=mR hs (hL.cal hm).1 (hL.cal hm).2;generalize eI cs L.2.2.2.2.2.2.2.1=x at *;have nh:eX (az zs x.2.1):=eG hs.ok hx.z0 hx.z1;have Hl:=lR nh.ztab.2
  have h2:iF zs x<=1000000000000:=by
   unfold iF;by_cases hl:x.2.2.length=0
   .rw[if_pos hl];omega
   .rw[if_neg hl];cases h:fO (az zs x.2.1).2.1 (tb (az zs x.2.1)).2 (n4 x) with
    |none=>simp;omega
    |some v=>have:=Br nh.ztab.2 h;simp;omega
  omega
theorem jK3{s:bW}(hk:SG zs ps cs s):0<=sw zs cs s/\sw zs cs s<=1000000000000:=
 ⟨(Vr.1 (jx _)).1,Vr.2 ⟨aa,λL hL=>jJn hs (hk.ly L hL),λx hx=>(hk.ed x hx).t1⟩⟩
theorem jDl{ls:B bt}(hl:ls.length<=100)(oL:∀L∈ls,ic zs.length ps.length cs.length L){ss:B bW}{nm:U}{es:B ct}:∀(m i:O)(n:A),i+m=ls.length->0<=n->
  J6 n (i:A) zs ps cs ss nm ls es=I (sv zs cs n (ls.drop i),nm,ls,es)
 |0,i,n,hi,_=>by
  rw[w_];simp only[j46,show G ls.length=(ls.length:A) from rfl];rw[aC aa,j7,bV,F aa];rfl
 |m+1,i,n,hi,hn=>by
  have bG:i<ls.length:=aa;rw[w_,jHP hs hl oL bG hn,bg,D bG];exact jDl hl oL m (i+1) (max n (gy zs cs ls[i])) aa aa
omit hs in
theorem jDm{es:B ct}(hl:es.length<=100){nm:U}{ls:B bt}:∀(m i:O)(n:A),i+m=es.length->
  J7 n (i:A) nm ls es=I (oz n (es.drop i))
 |0,i,n,hi=>by
  rw[x_];simp only[j5O,show G es.length=(es.length:A) from rfl];rw[aC aa,j7,bV,F aa];rfl
 |m+1,i,n,hi=>by
  have bG:i<es.length:=aa;have br:es.getD i ((0:A),((0:A),((0:A),((0:A),(0:A)))))=es[i]:=by simp[N,bG]
  rw[x_];simp only[j5O,show G es.length=(es.length:A) from rfl];rw[ai aa,cB,aQ (x:=(i:A)+1)];simp only[j6,j8,br,Hi,bg];rw[D bG];exact jDm hl m (i+1) _ aa
theorem Vs{es:B ct}(hl:es.length<=100){nm:U}{ls:B bt}{ss:B bW}:∀(m i:O)(n:A),i+m=es.length->
  F3 es (es.length:A) (i:A) zs ps cs ss (zs.map tb) nm ls es n=I (zs,ps,cs,ss,zs.map tb,nm,ls,es,oz n (es.drop i))
 |0,i,n,hi=>by
  have _:=hs;rw[ZX];simp only[j37];rw[aC aa,j7,bV,F aa];rfl
 |m+1,i,n,hi=>by
  have bG:i<es.length:=aa;have br:es.getD i ((0:A),((0:A),((0:A),((0:A),(0:A)))))=es[i]:=by simp[N,bG]
  rw[ZX];simp only[j37];rw[ai aa,cB,aQ (x:=(i:A)+1)];simp only[j6,j8,br,Hi,bg];rw[D bG];exact Vs hl m (i+1) _ aa
theorem Vt{ls:B bt}(hl:ls.length<=100)(oL:∀L∈ls,ic zs.length ps.length cs.length L){ss:B bW}:∀(m i:O)(n:A),i+m=ls.length->0<=n->
  F4 ls (ls.length:A) (i:A) zs ps cs ss (zs.map tb) n=I (sv zs cs n (ls.drop i))
 |0,i,n,hi,_=>by
  rw[ZY];simp only[j2b];rw[aC aa,j7,bV,F aa];rfl
 |m+1,i,n,hi,hn=>by
  have bG:i<ls.length:=aa;rw[ZY,jJm hs rfl aa oL bG hn,bg,D bG];exact Vt hl oL m (i+1) (max n (gy zs cs ls[i])) aa aa
theorem jDp{ss:B bW}(hc:CG (zs,(ps,(cs,ss)))){i:O}(hi:i<ss.length):j6z (zs,(ps,(cs,ss))) (i:A)=I (sw zs cs ss[i]):=by
 have gN:=hc.sc _ (jd hi);have gw:=gN.ll;have fI:=gN.el;have wx:ss.getD i (J,(([]:B bt),([]:B ct)))=ss[i]:=by simp[N,hi]
 have e8:=hc.r8;have l0:=jDl hs aa gN.ly (ss:=ss) (nm:=ss[i].1) (es:=ss[i].2.2) ss[i].2.1.length 0 0 aa aa;have l2:=jDm (es:=ss[i].2.2) aa (nm:=ss[i].1) (ls:=ss[i].2.1) ss[i].2.2.length 0 (sv zs cs 0 ss[i].2.1) aa;rw[jj]at l0 l2;simp only[j6z,e8,j4,je,j7,show G ss.length=(ss.length:A) from rfl];rw[aC (show¬(i:A)<0 by omega),aC (show¬(i:A)>=(ss.length:A) by omega),cB];simp only[j7,j6,j8,wx];rw[show J6 0 0 zs ps cs ss ss[i].1 ss[i].2.1 ss[i].2.2=_ from l0];simp only[j4];rw[show J7 (sv zs cs 0 ss[i].2.1) 0 ss[i].1 ss[i].2.1 ss[i].2.2=_ from l2];rfl
theorem jHQ{ss:B bW}(hc:CG (zs,(ps,(cs,ss)))){i:O}(hi:i<ss.length):j3M (zs,(ps,(cs,ss))) (i:A)=I (sw zs cs ss[i]):=by
 have gN:=hc.sc _ (jd hi);have gw:=gN.ll;have fI:=gN.el;have wx:ss.getD i (J,(([]:B bt),([]:B ct)))=ss[i]:=by simp[N,hi]
 have l0:=Vs hs (es:=ss[i].2.2) aa (nm:=ss[i].1) (ls:=ss[i].2.1) (ss:=ss) ss[i].2.2.length 0 0 aa;have l7:=(Hn (t:=oz 0 ss[i].2.2) ss[i].2.2 0).1 (jx _);have l2:=Vt hs aa gN.ly (ss:=ss) ss[i].2.1.length 0 (oz 0 ss[i].2.2) aa l7.1;rw[jj]at l0 l2;simp only[j3M,hc.of,j4,jg,j7,jaf,show G ss.length=(ss.length:A) from rfl];rw[ai (show (i:A)>=0 by omega),ai (show (i:A)<(ss.length:A) by omega),cB];simp only[j6,jg,j7,j8,wx,j4V,show G ss[i].2.2.length=(ss[i].2.2.length:A) from rfl];rw[show F3 ss[i].2.2 (ss[i].2.2.length:A) 0 zs ps cs ss (zs.map tb) ss[i].1 ss[i].2.1 ss[i].2.2 0=_ from l0];simp only[j4,show G ss[i].2.1.length=(ss[i].2.1.length:A) from rfl];rw[show F4 ss[i].2.1 (ss[i].2.1.length:A) 0 zs ps cs ss (zs.map tb) (oz 0 ss[i].2.2)=_ from l2,jz1];rfl
end
section
variable{zs:B bB}{ps:B cZ}{cs:B aY}(hs:kS zs ps cs)
include hs
end
def uq(l:bM):B Int:=l.tail.map (·.1)
theorem Vu{f:A->A}{b:A}:∀{l:bM}{q:Ã A}{a:A},dG f b q a l->(∀x,x∈uq l↔a<x/\x<b/\f (x-1)≠f x)/\(uq l).Nodup/\l.length<=(uq l).length+1
 |[],q,a,h=>⟨λx=>⟨λhx=>by simp[uq]at hx,λhx=>by have h:a=b:=h;omega⟩,vc,ae⟩
 |[s],q,a,h=>by
  obtain⟨h1,h2,h3,h4,h5⟩:=h;have h5:s.2.1=b:=h5;exact⟨λx=>⟨λhx=>by simp[uq]at hx,λ⟨x1,x2,x3⟩=>absurd ((h4 (x-1) aa aa).trans (h4 x aa aa).symm) x3⟩,vc,by simp[uq]⟩
 |s::u::r,q,a,h=>by
  obtain⟨h1,h2,h3,h4,h5⟩:=h;obtain⟨i1,i2,i3⟩:=Vu h5;have hu:=h5.1;have hle:=h5.2.2.2.2.ch.le;have Cj:=h5.2.1;have e:uq (s::u::r)=u.1::uq (u::r):=rfl;refine⟨λx=>?_,?_,by rw[e];simp only[jf]at i3 ⊢;omega⟩
  .rw[e,jb,i1 x];constructor
   .rintro (rfl|⟨x1,x2,x3⟩)
    .refine⟨aa,aa,?_⟩;rw[h4 (u.1-1) aa aa,h5.2.2.2.1 u.1 aa aa]
     exactλhe=>h5.2.2.1 (by rw[he])
    .exact⟨aa,x2,x3⟩
   .rintro⟨x1,x2,x3⟩
    by_cases hx:x<s.2.1
    .exact absurd ((h4 (x-1) aa aa).trans (h4 x aa aa).symm) x3
    .by_cases ru:x=s.2.1
     .left;omega
     .right;exact⟨aa,x2,x3⟩
  .rw[e];refine qk.2 ⟨λhm=>?_,i2⟩;have:=(i1 u.1).1 hm;omega
theorem jHR{f:A->A}{a b:A}{l:bM}{q:Ã A}(h:dG f b q a l){E:B A}(hE:∀x,a<x->x<b->f (x-1)≠f x->x∈E):l.length<=E.length+1:=by
 obtain⟨h1,h2,h3⟩:=Vu h
 have:=h2.length_le_of_subset (l₂:=E) (λx hx=>by
  have:=(h1 x).1 hx;exact hE x this.1 this.2.1 this.2.2)
 omega
theorem jDq{es:B ct}{x:ct}(hx:x∈es):x.2.2.2.1∈mj es/\x.2.2.2.2∈mj es:=
 ⟨kz.2 ⟨x,hx,ae⟩,kz.2 ⟨x,hx,ae⟩⟩
theorem jDr{es:B ct}{t:A}(ht:t∉mj es)(p:A):jJ es p (t-1)=jJ es p t:=by
 unfold jJ;rw[vz,Á,Á]
 have key:∀x∈es,(x.1==0&&(x.2.1==p&&(H (x.2.2.2.1<=t-1)&&H (t-1<x.2.2.2.2))))=(x.1==0&&(x.2.1==p&&(H (x.2.2.2.1<=t)&&H (t<x.2.2.2.2)))):=λx hx=>by
  obtain⟨m1,m2⟩:=jDq hx;have n1:t≠x.2.2.2.1:=λe=>ht (e▸m1);have n2:t≠x.2.2.2.2:=λe=>ht (e▸m2)
  have e1:H (x.2.2.2.1<=t-1)=H (x.2.2.2.1<=t):=by
   by_cases h:x.2.2.2.1<=t
   .rw[ai h,ai aa]
   .rw[aC h,aC aa]
  have e2:H (t-1<x.2.2.2.2)=H (t<x.2.2.2.2):=by
   by_cases h:t<x.2.2.2.2
   .rw[ai h,ai aa]
   .rw[aC h,aC aa]
  rw[e1,e2]
 exact⟨λ⟨x,hx,h⟩=>⟨x,hx,by rw[<-key x hx];exact h⟩,λ⟨x,hx,h⟩=>⟨x,hx,by rw[key x hx];exact h⟩⟩
section
variable{zs:B bB}{ps:B cZ}{cs:B aY}(hs:kS zs ps cs)
include hs
end
theorem jEZ{l:B A}(hl:l.length<=1000000):∃s,j7n l=I s/\s.Perm l/\s.Pairwise (· <= ·):=by
 obtain⟨s,e,h1,h2⟩:=jEo (xs:=l) aa;exact⟨s,by simp only[j7n,e],h1,h2⟩
def pF(f t x:A):Bool:= !(cond (H (x<=f)) R (H (x>=t)))
theorem jDs{l:B A}(hl:l.length<=1000000){f t:A}:∀(n i:O),i+n=l.length->(∀s∈l.take i,pF f t s=R)->
  (∃j:O,Ju f t (l.length:A) (i:A) l=I (.inl ((j:A),l))/\j<l.length/\(∀s∈l.take j,pF f t s=R)/\pF f t (l.getD j 0)=W)\/
  (Ju f t (l.length:A) (i:A) l=I (.inr l)/\∀s∈l,pF f t s=R)
 |0,i,hi,h=>by
  rw[ZZ];simp only[j16];rw[aC aa,j7,bV];rw[K aa]at h;exact Or.inr ⟨rfl,h⟩
 |n+1,i,hi,h=>by
  rw[ZZ];simp only[j16,jcQ];rw[ai (show (i:A)<(l.length:A) by omega),cB,aQ (x:=(i:A)+1)];simp only[j6,j8,j4];have ao:i<l.length:=aa;cases hc:(cond (H (l.getD i (0:A)<=f)) R (H (l.getD i (0:A)>=t))) with
  |true=>simp only[j6,bV];exact Or.inl ⟨i,rfl,ao,h,by simp only[pF];rw[hc];rfl⟩
  |false=>
   simp only[j7,bg];refine jDs hl n (i+1) aa λs hs=>?_;rw[kx]at hs;rcases ji.1 hs with hs|hs
   .exact h s hs
   .have br:l.getD i (0:A)=l[i]:=by simp[ao]
    rw[br]at hc;rw[jn ao]at hs;simp at hs;subst hs;simp only[pF];rw[hc];rfl
theorem Vv{l:B A}(hl:l.length<=1000000){f t:A}:∀(n i j:O)(b:B A),j+n=l.length->i<=j->b.length=l.length->b.drop j=l.drop j->b.take i=(l.take j).filter (pF f t)->
  ∃(k:O)(b':B A),Pj f t (i:A) (j:A) b=I ((k:A),b')/\b'.length=l.length/\k<=l.length/\b'.take k=l.filter (pF f t)
 |0,i,j,b,hj,dT,hb,hd,ht=>by
  rw[Z0];simp(disch:=omega)only[j1n,S0];rw[K (l:=l) aa]at ht;exact⟨i,b,rfl,hb,aa,ht⟩
 |n+1,i,j,b,hj,dT,hb,hd,ht=>by
  have ao:j<l.length:=aa
  have Um:b.getD j (0:A)=l[j]:=by
   have:b[j]? = l[j]? := by
    have h:=jp (λx=>x[0]?) hd;simpa[Z]using h
   rw[M,this,jn ao];rfl
  have iH:b.drop (j+1)=l.drop (j+1):=by have:=jp (Ç 1) hd;simpa[Â]using this
  have qQ:l.take (j+1)=l.take j++[l[j]]:=by rw[kx,jn ao];rfl
  rw[Z0];simp(disch:=omega)only[j1n,jcQ,Um,S0];cases hc:(cond (H (l[j]<=f)) R (H (l[j]>=t))) with
  |true=>simp only[jg,j7,bg];refine Vv hl n i (j+1) b aa aa hb iH ?_;rw[qQ,zp,ht];simp[pF,hc]
  |false=>
   simp only[jv,j6,bg];refine Vv hl n (i+1) (j+1) _ aa aa (by simpa using hb) ?_ ?_
   .rw[X aa];exact iH
   .have Eo:i<b.length:=aa;rw[kx,Y (jh _),S Eo,ht,qQ,zp];simp[pF,hc]
theorem jAp{l:B A}(hl:l.length<=1000000){f t:A}:∃n m,j4g l f t=I (n,m)/\m.take n.toNat=l.filter (pF f t):=by
 simp only[j4g,j5H,show G (Æ l)=(l.length:A) from rfl];rcases jDs (f:=f) (t:=t) hl l.length 0 aa ae with⟨j,e,hj,h1,h2⟩|⟨e,h⟩
 .rw[show ((0:O):A)=0 from rfl]at e;rw[e];simp only[j4,pX];rw[cU aa,aQ (x:=(j:A)+1)];have br:l.getD j (0:A)=l[j]:=by simp[hj]
  rw[br]at h2
  obtain⟨k,b,e2,hb,hk,ht⟩:=Vv (f:=f) (t:=t) hl (l.length-(j+1)) j (j+1) l aa aa rfl rfl (by
   rw[kx,jn hj,zp,List.filter_eq_self.2 h1];simp[h2])
  rw[show ((j:A)+1)=((j+1:O):A) from rfl,e2];simp only[j7,j4,show G (Æ b)=(b.length:A) from rfl,j8];rw[ai (show (0:A)<=(k:A) by omega),ai (show (k:A)<=(b.length:A) by omega)];simp only[z8,j6,qx];rw[ai aj,j6];refine⟨_,_,rfl,?_⟩;simp(disch:=omega)only[S0];rw[qv aj,vb,Nat.min_self,ht]
 .rw[show ((0:O):A)=0 from rfl]at e;rw[e];simp only[j4,o8,ke,j6];refine⟨_,_,rfl,?_⟩;simp(disch:=omega)only[K (jh _),List.filter_eq_self.2 h,S0]
def oa:A->B A->B A
 |_,[]=>[]
 |p,x::r=>if x=p then oa p r else x::oa x r
theorem Vw:∀(l:B A)(p:A),∀x,x∈p::oa p l↔x∈p::l
 |[],_,_=>Iff.rfl
 |y::r,p,x=>by
  unfold oa;split
  .rename_i h;subst h;rw[Vw r y x];simp
  .have:=Vw r y x;rw[jb,this,jb,jb,jb]
theorem Vx:∀(l:B A)(p:A),(p::l).Pairwise (· <= ·)->(p::oa p l).Pairwise (· < ·)
 |[],_,_=>by simp[oa]
 |y::r,p,h=>by
  have h1:=List.pairwise_cons.1 h;unfold oa;split
  .rename_i h;subst h;exact Vx r y h1.2
  .have ih:=Vx r y h1.2;refine List.pairwise_cons.2 ⟨λz hz=>?_,ih⟩;have hy:=h1.1 y ae;rcases jb.1 hz with rfl|hz
   .omega
   .have:=(List.pairwise_cons.1 ih).1 z hz;omega
theorem Vy{l:B A}(hl:l.length<=1000000){k0:O}:∀(n s k:O)(b:B A),k0+s+n=l.length->1<=s->k<=k0+s-1->b.length=l.length->b.drop k=l.drop k->
  ∃(m:O)(b':B A),Jv (k:A) (k0:A) (s:A) b=I ((m:A),b')/\b'.length=l.length/\m<=l.length/\b'.take m=b.take k++oa (l.getD (k0+s-1) 0) (l.drop (k0+s))
 |0,s,k,b,hn,hs,hk,hb,hd=>by
  rw[Z1];simp only[j1I,j8,show G (b.length-k0)=((b.length-k0:O):A) from rfl];rw[aC aa,j7,bV,F aa];exact⟨k,b,rfl,hb,aa,by simp[oa]⟩
 |n+1,s,k,b,hn,hs,hk,hb,hd=>by
  have ao:k0+s<l.length:=aa
  have Ho:∀j,k<=j->b[j]? = l[j]? := λj hj=>by
   have h:=jp (λx=>x[j-k]?) hd;simpa[Z,show k+(j-k)=j by omega]using h
  have g1:b.getD (k0+s) (0:A)=l[k0+s]:=by rw[M,Ho _ aa,jn ao];rfl
  have g2:b.getD (k0+(s-1)) (0:A)=l.getD (k0+s-1) 0:=by rw[M,Ho _ aa,show k0+(s-1)=k0+s-1 by omega,M]
  have e1:l.getD (k0+(s+1)-1) 0=l[k0+s]:=by rw[show k0+(s+1)-1=k0+s by omega];simp[ao]
  rw[Z1];simp only[j1I,j8,show G (b.length-k0)=((b.length-k0:O):A) from rfl,show G k0=(k0:A) from rfl];rw[ai (show (s:A)<((b.length-k0:O):A) by omega),bL (show (0:A)<=(s:A) by omega) aa,aQ (x:=(s:A)-1),bL (show (0:A)<=(s:A)-1 by omega) aa,bL (show (0:A)<=(k:A) by omega) aa,aQ (x:=(k:A)+1),aQ (x:=(s:A)+1),show ((s:A)-1).toNat=s-1 by omega,D ao];simp only[j6,g1,g2,oa];by_cases hc:l[k0+s]=l.getD (k0+s-1) 0
  .rw[show (l[k0+s] != l.getD (k0+s-1) 0)=W by rw[bne_eq_false_iff_eq];exact hc,if_pos hc,j7,bg];have ih:=Vy hl (k0:=k0) n (s+1) k b aa aa aa hb hd;rw[e1,hc,show k0+(s+1)=k0+s+1 by omega]at ih;exact ih
  .rw[show (l[k0+s] != l.getD (k0+s-1) 0)=R by rw[bne_iff_ne];exact hc,if_neg hc,j6,bg]
   have ih:=Vy hl (k0:=k0) n (s+1) (k+1) (b.set k l[k0+s]) aa aa aa (by simpa using hb) (by
    rw[X aa];have:=jp (Ç 1) hd;simpa[Â]using this)
   rw[e1,show k0+(s+1)=k0+s+1 by omega]at ih;obtain⟨m,b',r1,r2,r3,r4⟩:=ih;refine⟨m,b',r1,r2,r3,?_⟩;have uL:k<b.length:=aa;rw[r4,kx,Y (jh _),S uL];simp
def uY:B A->B A
 |[]=>[]
 |a::r=>a::oa a r
theorem jGb{l:B A}(hl:l.length<=1000000):∀(n k:O),k+n=l.length->1<=k->uY l=l.take k++oa (l.getD (k-1) 0) (l.drop k)->
  (∃(m:O)(b:B A),C6 (k:A) l=I (.inl ((m:A),b))/\b.take m=uY l)\/(C6 (k:A) l=I (.inr l)/\uY l=l)
 |0,k,hn,hk,hT=>by
  rw[Z2];simp only[j1J,show G l.length=(l.length:A) from rfl];rw[aC aa,j7,bV];rw[K aa,F aa]at hT;exact .inr ⟨rfl,by simpa[oa]using hT⟩
 |n+1,k,hn,hk,hT=>by
  have ao:k<l.length:=aa;have g1:l.getD k (0:A)=l[k]:=by simp[ao]
  rw[D ao]at hT;simp only[oa]at hT;rw[Z2];simp only[j1J,show G l.length=(l.length:A) from rfl];rw[ai (show (k:A)<(l.length:A) by omega),bL (show (0:A)<=(k:A) by omega) aa,aQ (x:=(k:A)-1),bL (show (0:A)<=(k:A)-1 by omega) aa,aQ (x:=(k:A)+1),show ((k:A)-1).toNat=k-1 by omega,ai (show (0:A)<=(k:A) by omega),ai (show (k:A)<=(l.length:A) by omega)];simp only[j6,j8,g1,z8,show G k=(k:A) from rfl];by_cases hc:l[k]=l.getD (k-1) 0
  .rw[if_pos hc]at hT;obtain⟨m,b,r1,r2,r3,r4⟩:=Vy hl (k0:=k) n 1 k l aa aa aa rfl rfl;rw[show k+1-1=k by omega,g1,hc,<-hT]at r4;rw[dR hc,j6,show Jv (k:A) (k:A) 1 l=_ from r1];simp(disch:=omega)only[qx,S0];rw[ai aj,j6,bV];refine .inl ⟨m,_,rfl,?_⟩;rw[qv aj,vb,Nat.min_self,r4]
  .rw[if_neg hc]at hT;rw[cU hc,j7,bg];refine jGb hl n (k+1) aa aa ?_;have qQ:l.take (k+1)=l.take k++[l[k]]:=by rw[kx,jn ao];rfl
   rw[hT,qQ,show k+1-1=k by omega,g1,jk];rfl
theorem jxS{l:B A}(hl:l.length<=1000000):∃n m,j5U l=I (n,m)/\m.take n.toNat=uY l:=by
 simp(disch:=omega)only[j5U,S0];by_cases h2:l.length<2
 .rw[ai aa,j6];refine⟨_,_,rfl,?_⟩;rw[j8,K (jh _)];match l,h2 with
  |[],_=>rfl
  |[a],_=>rfl
  |_::_::_,h2=>simp at h2;omega
 .rw[aC aa,j7]
  have hT:uY l=l.take 1++oa (l.getD (1-1) 0) (l.drop 1):=by
   match l,h2 with
   |[],h2=>simp at h2
   |a::r,_=>rfl
  rcases jGb hl (l.length-1) 1 aa aa hT with⟨m,b,e,h⟩|⟨e,h⟩
  .rw[show C6 1 l=_ from e];refine⟨_,_,rfl,?_⟩;simpa using h
  .rw[show C6 1 l=_ from e];refine⟨_,_,rfl,?_⟩;rw[h];simp
theorem jHS{l:B A}(x:A):x∈uY l↔x∈l:=by
 cases l with
 |nil=>exact Iff.rfl
 |cons a r=>exact Vw r a x
theorem jHT{l:B A}(h:l.Pairwise (· <= ·)):(uY l).Pairwise (· < ·):=by
 cases l with
 |nil=>exact .nil
 |cons a r=>exact Vx r a h
theorem Vz:∀(l:B A)(p:A),(oa p l).length<=l.length
 |[],_=>jh _
 |y::r,p=>by
  unfold oa;split
  .have:=Vz r p;simp;omega
  .have:=Vz r y;simp;omega
theorem jHU(l:B A):(uY l).length<=l.length:=by
 cases l with
 |nil=>exact jh _
 |cons a r=>have:=Vz r a;simp[uY];omega
theorem jHV{l:B A}(hl:l.length<=1000000){f t:A}:∃C,jmb l f t=I (C++[t])/\C.Pairwise (· < ·)/\C.length<=l.length/\(∀x,x∈C↔x∈l/\f<x/\x<t):=by
 obtain⟨n1,m1,e1,h1⟩:=jAp (l:=l) aa (f:=f) (t:=t);have fE:(l.filter (pF f t)).length<=l.length:=zu _ _;obtain⟨s,e2,p2,a2⟩:=jEZ (l:=l.filter (pF f t)) aa;have fp:=p2.length_eq;obtain⟨n3,m3,e3,h3⟩:=jxS (l:=s) aa;have eu:=jHU s;refine⟨uY s,?_,jHT a2,aa,λx=>?_⟩
 .simp(disch:=omega)only[jmb,j9n,jr,e1,h1,e2,e3,h3,S0]
 .rw[jHS,p2.mem_iff,List.mem_filter]
  have:pF f t x=R↔f<x/\x<t:=by
   unfold pF;by_cases h1:x<=f
   .rw[ai h1];simp;omega
   .rw[aC h1];by_cases h2:x>=t
    .rw[ai h2];simp;omega
    .rw[aC h2];simp;omega
  rw[this]
end Go.Proofs.Pw
