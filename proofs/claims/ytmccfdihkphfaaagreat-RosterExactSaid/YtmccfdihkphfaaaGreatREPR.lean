/- The Tp change of one ϻ, of one schedule or two. -/
import Derived.Test.YtmccfdihkphfaaaGreatREPQ
import Derived.Test.YtmccfdihkphfaaaGreatREPI
import Derived.Test.YtmccfdihkphfaaaGreatREPE
import Derived.Test.YtmccfdihkphfaaaGreatRELS
open _root_ renaming Int->d,List->A,Nat->K,Option->Z
open Decidable renaming decide->B
open Int renaming ofNat->D
open Option renaming some->F
open List renaming take_of_length_le->G,getD_eq_getElem?_getD->H,drop_of_length_le->I,getD->J,getElem?_set_self->N,length->O,drop_set_of_lt->R,take_set_of_le->S,getElem?_drop->U,drop_drop->Y,drop->Á
open Bool renaming true->M,false->W
open Go Go.Lft
namespace Go.Proofs.Pw
theorem jEO{L:A d}{a:d}(h:dg L a){zs:A bH}{ps:A dr}{cs:A bd}{ss:A cN}(hs:sG zs ps cs)(hk:CX ss)(h1:1<=ss.length)(h2:ss.length<=2) :
  kA L (j9P L a (zs,(ps,(cs,ss)))):=by
 match ss,h1,h2,hk with
 |[(nm,(ls,es))],_,_,hk=>obtain⟨k,a',e,hv,hd⟩:=jEM h hs (Lf hk (nm,(ls,es)) ae) (hk (nm,(ls,es)) ae).2.1;exact⟨k,a',by simp only[j9P,e,orF],hv,hd⟩
 |[(nm,(ls,es)),(vM,(sR,sS))],_,_,hk=>
  obtain⟨k,a',e,hv,hd⟩:=jEN h hs (Lf hk (nm,(ls,es)) ae) (hk (nm,(ls,es)) ae).2.1 (Lf hk (vM,(sR,sS)) ae) (hk (vM,(sR,sS)) ae).2.1
  have hn:j6W L a (zs,(ps,(cs,[(nm,(ls,es)),(vM,(sR,sS))])))=none:=by
   have cp:jcF (zs,(ps,(cs,[(nm,(ls,es)),(vM,(sR,sS))])))=none:=by
    have c2:∀(b:Bool),cond b (none:Z (A bH×A dr×A bd×ByteArray×A bA×A cO)) none=none:=λb=>by cases b<;>rfl
    simp only[jcF,ji,jz,v7];rw[ag (show (1:d)<((0+1+1:K):d) by omega)];simp only[j6,c2]
   unfold j6W;simp only[cp,Option.bind_none]
  exact⟨k,a',by simp only[j9P,hn,e,orF],hv,hd⟩
theorem qW{b:Bool}{k:d}{r:Z d}(hk:k≠0)(h:cond b (F k) r=F 0):b=W/\r=F 0:=by
 cases b with
 |true=>simp at h;exact absurd h hk
 |false=>exact⟨rfl,h⟩
theorem Ā{b:Bool}{r s:Z d}(h:cond b r s=F 0):r=F 0\/s=F 0:=by
 cases b with
 |true=>exact .inl h
 |false=>exact .inr h
theorem ce0{c:fP}{x:cO}(h:j17 c x=F 0):0<=x.2.2.2.1/\x.2.2.2.1<x.2.2.2.2:=by
 have T:∀(t:d),cond (cond (B (x.2.2.2.1<(0:d))) M (B (x.2.2.2.2<(0:d)))) (F (1:d)) ((j1g t).bind λr=>cond (!r) (F (1:d)) (cond (B (x.2.2.2.1>=x.2.2.2.2)) (F (6:d)) (F (0:d))))=F 0->0<=x.2.2.2.1/\x.2.2.2.1<x.2.2.2.2:=by
  intro t h;obtain⟨h1,h⟩:=qW (by decide) h;have h0:¬x.2.2.2.1<0:=by intro hh;rw[ag hh]at h1;simp at h1
  cases hd:j1g t with
  |none=>rw[hd]at h;simp at h
  |some b=>rw[hd]at h;obtain⟨_,h⟩:=qW (by decide) h;obtain⟨h2,_⟩:=qW (by decide) h;simp only[kg]at h2;exact⟨aa,aa⟩
 simp only[j17,j3d,j1m,j4]at h;obtain⟨_,h⟩:=qW (by decide) h;rcases Ā h with h|h
 .obtain⟨_,h⟩:=qW (by decide) h;obtain⟨_,h⟩:=qW (by decide) h;obtain⟨_,h⟩:=qW (by decide) h;exact T _ h
 .rcases Ā h with h|h
  .obtain⟨_,h⟩:=qW (by decide) h;obtain⟨_,h⟩:=qW (by decide) h;obtain⟨_,h⟩:=qW (by decide) h;exact T _ h
  .obtain⟨_,h⟩:=qW (by decide) h;obtain⟨_,h⟩:=qW (by decide) h;exact T _ h
structure SG(zs:A bH)(ps:A dr)(cs:A bd)(s:cN):Prop where
 ly:∀L∈s.2.1,iw zs.length ps.length cs.length L
 ll:s.2.1.length<=4
 ed:∀x∈s.2.2,Gk x
 el:s.2.2.length<=9
theorem jGT{zs:A bH}{ps:A dr}{cs:A bd}{ss:A cN}(hv:CV (zs,(ps,(cs,ss))))(hC:AR zs ps cs ss):∀s∈ss,SG zs ps cs s:=λs hs=>by
 have h:=hC.s s hs;have v:=hv.s s hs;have ix:=v.ll;have gp:=v.el
 exact⟨λL hL=>⟨h.ly L hL,v.ly L hL⟩,aa,λx hx=>by
  have:=ce0 (h.ed x hx);exact⟨this.1,this.2,v.ed x hx⟩,aa⟩
section
variable{zs:A bH}{ps:A dr}{cs:A bd}{ss:A cN}
theorem jGf(hv:CV (zs,(ps,(cs,ss)))):∃e v b,jfM (zs,(ps,(cs,ss)))=F (v,b)/\j8y (zs,(ps,(cs,ss)))=F e/\(e≠0->b=W)/\
  (e=0->b=M/\v=((zs,(ps,(cs,ss))),zs.map tb)/\lz zs ps cs/\∀s∈ss,SG zs ps cs s):=by
 obtain⟨e,e1,e2,e3⟩:=hv.w.chk;by_cases he:e=0
 .subst he;obtain⟨hC,hg⟩:=e3 rfl;refine⟨0,_,_,?_,e2,λh=>absurd rfl h,λ_=>⟨rfl,rfl,hg,jGT hv hC⟩⟩;have hv:=jEa (ps:=ps) (cs:=cs) (ss:=ss) hg.ok (by have:=hg.zl;omega);simp only[jfM,e1,j4,jf,j7];rw[hv];rfl
 .refine⟨e,((([]:A bH),(([]:A dr),(([]:A bd),([]:A cN)))),([]:A (d×bh))),W,?_,e2,λ_=>rfl,λh=>absurd h he⟩;simp only[jfM,e1,j4];rw[show (e != 0)=M by simpa using he,j6]
end
theorem jvo{l:bM}(hl:l.length<=100000000)(x:lD):jif l x=F (kW l x):=by
 simp only[jif,kW];by_cases hx:x.2.1<=x.1
 .rw[ag hx,if_pos hx,j6]
 rw[an hx,if_neg hx,j7,lG l];rcases zp l with rfl|⟨r,u,rfl⟩
 .rfl
 rw[zq]at hl ⊢;have hlen:(r++[u]).length=r.length+1:=ae;rw[hlen]at hl ⊢;have bc:(r++[u]).getD r.length ((0:d),((0:d),(0:d)))=u:=by simp[J]
 rw[ag (show ((r.length+1:K):d)>0 by omega),ar (x:=((r.length+1:K):d)-1),bE,show (((r.length+1:K):d)-1).toNat=r.length by omega,bc];simp only[j6,List.getLast?_append,ye,Option.some_or,List.dropLast_concat];rw[ag (show r.length+1+[(x.1,(x.2.1,x.2.2))].length<=aG by simp[aG];omega)];simp only[j6];by_cases h1:u.2.1=x.1
 .rw[dI h1,j6];by_cases h2:u.2.2=x.2.2
  .rw[dI h2,if_pos ⟨h1,h2⟩,j6];congr 1;simp
  .rw[cG h2,if_neg (λh=>h2 h.2),j7]
 .rw[cG h1,if_neg (λh=>h1 h.1),j7]
theorem jGU(a b:d):∃v,j9S a b=F v/\(v=M->0<=a/\a<=b/\b<=8589934592/\b-a<=34560000):=by
 refine⟨_,rfl,λh=>?_⟩
 have h':(B (a>=0)&&B (a<=8589934592)&&B (b>=a)&&B (b<=8589934592)&&B (w64 (b-a)<=34560000))=true:=by
  revert h
  cases B (a>=(0:d))<;>cases B (a<=(8589934592:d))<;>cases B (b>=a)<;>cases B (b<=(8589934592:d))<;>cases B (w64 (b-a)<=(34560000:d))<;>simp
 simp only[jd,jj]at h';obtain⟨⟨⟨⟨h1,h2⟩,h3⟩,h4⟩,h5⟩:=h';rw[ar (x:=b-a)]at h5;exact⟨h1,h3,h4,h5⟩
section
variable{zs:A bH}{ps:A dr}{cs:A bd}{ss:A cN}
end
structure CG(c:fP):Prop where
 g:lz c.1 c.2.1 c.2.2.1
 chk:j4l c=F 0
 r8:j8y c=F 0
 sc:∀s∈c.2.2.2,SG c.1 c.2.1 c.2.2.1 s
 of:jfM c=F ((c,c.1.map tb),M)
section
variable{o:d}{l:bh}(h:iF o l)
include h
end
section
variable{zs:A bH}{ps:A dr}{cs:A bd}(hs:lz zs ps cs)
include hs
end
def C0(t p:d)(x:cO):Int:=
 if t<x.2.2.2.1\/x.2.2.2.2<=t then p else if x.1=1 then x.2.1 else if x.1=2/\p=x.2.1 then x.2.2.1 else if x.1=2/\p=x.2.2.1 then x.2.1 else p
def mD(t:d):d->A cO->d
 |p,[]=>p
 |p,x::r=>mD t (C0 t p x) r
theorem Tq{es:A cO}(hl:es.length<=100){t:d}:∀(n i:K)(p:d),i+n=es.length->Cu es p t (i:d)=F (mD t p (es.drop i))
 |0,i,p,hi=>by
  rw[YL];simp only[j6I,show D es.length=(es.length:d) from rfl];rw[an aa,j7,aW,I aa];rfl
 |n+1,i,p,hi=>by
  have bY:i<es.length:=aa;have bc:es.getD i ((0:d),((0:d),((0:d),((0:d),(0:d)))))=es[i]:=by simp[J,bY]
  have ih:=λp=>Tq hl (t:=t) n (i+1) p aa;rw[YL];simp only[j6I,show D es.length=(es.length:d) from rfl];rw[ag aa,bE,ar (x:=(i:d)+1),jb bY];simp only[j6,j8,bc,mD];generalize es[i]=x;unfold C0;by_cases ha:t<x.2.2.2.1\/x.2.2.2.2<=t
  .rw[if_pos ha]
   have:cond (B (t<x.2.2.2.1)) M (B (t>=x.2.2.2.2))=true:=by
    rcases ha with ha|ha
    .rw[ag ha];rfl
    .rw[ag (show t>=x.2.2.2.2 from ha)];cases B (t<x.2.2.2.1)<;>rfl
   rw[this,j6,aS];exact ih p
  .rw[if_neg ha,an (show¬t<x.2.2.2.1 by omega),an (show¬t>=x.2.2.2.2 by omega)];simp only[j7];by_cases h1:x.1=1
   .rw[if_pos h1,dI h1,j6,aS];exact ih _
   .rw[if_neg h1,cG h1,j7];by_cases h2:x.1=2
    .rw[dI h2];simp only[j6];by_cases h3:p=x.2.1
     .rw[if_pos ⟨h2,h3⟩,dI h3,j6,aS];exact ih _
     .rw[if_neg (λh=>h3 h.2),cG h3,j7];by_cases h4:p=x.2.2.1
      .rw[if_pos ⟨h2,h4⟩,dI h4,j6,aS];exact ih _
      .rw[if_neg (λh=>h4 h.2),cG h4,j7,aS];exact ih _
    .rw[if_neg (λh=>h2 h.1),if_neg (λh=>h2 h.1),cG h2];simp only[j7,aS];exact ih _
theorem Tr{es:A cO}(hl:es.length<=100){t:d}:∀(n i:K)(p:d),i+n=es.length->Cp p t es (es.length:d) (i:d)=F (mD t p (es.drop i))
 |0,i,p,hi=>by
  rw[X4];simp only[j5V];rw[an aa,j7,aW,I aa];rfl
 |n+1,i,p,hi=>by
  have bY:i<es.length:=aa;have bc:es.getD i ((0:d),((0:d),((0:d),((0:d),(0:d)))))=es[i]:=by simp[J,bY]
  have ih:=λp=>Tr hl (t:=t) n (i+1) p aa;rw[X4];simp only[j5V,jj9,j4];rw[ag aa,bE,ar (x:=(i:d)+1),jb bY];simp only[j6,j8,bc,mD];generalize es[i]=x;unfold C0;by_cases ha:t<x.2.2.2.1\/x.2.2.2.2<=t
  .rw[if_pos ha]
   have:cond (B (x.2.2.2.1<=t)) (B (t<x.2.2.2.2)) W=false:=by
    rcases ha with ha|ha
    .rw[an (show¬x.2.2.2.1<=t by omega)];rfl
    .rw[an (show¬t<x.2.2.2.2 by omega)];cases B (x.2.2.2.1<=t)<;>rfl
   rw[this];simp only[jp,j6,aS];exact ih p
  .rw[if_neg ha,ag (show x.2.2.2.1<=t by omega),ag (show t<x.2.2.2.2 by omega)];simp only[j6,jc,j7];by_cases h0:x.1=0
   .rw[dI h0,if_neg aa,if_neg aa,if_neg aa,j6,aS];exact ih p
   rw[cG h0,j7];by_cases h1:x.1=1
   .rw[if_pos h1,dI h1,j6,aS];exact ih _
   .rw[if_neg h1,cG h1,j7];by_cases h2:x.1=2
    .rw[show (x.1 != 2)=W by simp[h2],j7];by_cases h3:p=x.2.1
     .rw[if_pos ⟨h2,h3⟩,dI h3,j6,aS];exact ih _
     .rw[if_neg (λh=>h3 h.2),cG h3,j7];by_cases h4:p=x.2.2.1
      .rw[if_pos ⟨h2,h4⟩,dI h4,j6,aS];exact ih _
      .rw[if_neg (λh=>h4 h.2),cG h4,j7,aS];exact ih _
    .rw[if_neg (λh=>h2 h.1),if_neg (λh=>h2 h.1),show (x.1 != 2)=M by simp[h2],j6,aS];exact ih _
section
variable{zs:A bH}{ps:A dr}{cs:A bd}(hs:lz zs ps cs)
include hs
noncomputable def dQ(zs:A bH)(cs:A bd)(s:cN)(t:d):Int:=mD t (dL s.2.2 t (di zs cs s.2.1 t) s.2.1.length) s.2.2
theorem jGg{ss:A cN}(hc:CG (zs,(ps,(cs,ss)))){i:K}(hi:i<ss.length){t:d}(h0:0<=t)(h1:t<=8589934592):jer (zs,(ps,(cs,ss))) (i:d) t=F (dQ zs cs ss[i] t):=by
 have iV:=hc.sc _ (jl hi);have ix:=iV.ll;have gp:=iV.el;have pH:ss.getD i (ByteArray.empty,(([]:A bA),([]:A cO)))=ss[i]:=by simp[J,hi]
 have e8:=hc.r8;have lp:=Ti hs (ss:=ss) (nm:=ss[i].1) (es:=ss[i].2.2) aa aa iV.ly h0 h1 ss[i].2.1.length (jq _)
 have et:∃k,jlq (zs,(ps,(cs,ss))) (i:d) t=F (k,dL ss[i].2.2 t (di zs cs ss[i].2.1 t) ss[i].2.1.length):=by
  simp only[jlq];rw[bE];simp only[j6,j8,pH,show D ss[i].2.1.length=(ss[i].2.1.length:d) from rfl];rw[ar (x:=(ss[i].2.1.length:d)-1),show Ct t ((ss[i].2.1.length:d)-1) zs ps cs ss ss[i].1 ss[i].2.1 ss[i].2.2=_ from lp];simp only[j4,dL];cases dK (fQ ss[i].2.2 t (di zs cs ss[i].2.1 t)) ss[i].2.1.length with
  |none=>exact⟨_,rfl⟩
  |some k=>exact⟨_,rfl⟩
 obtain⟨k,et⟩:=et;have ef:=Tq (es:=ss[i].2.2) aa (t:=t) ss[i].2.2.length 0 (dL ss[i].2.2 t (di zs cs ss[i].2.1 t) ss[i].2.1.length) aa;rw[jk]at ef;simp only[jer,jlr,jpP,show D ss.length=(ss.length:d) from rfl];rw[ag (show (i:d)>=0 by omega),ag (show (i:d)<(ss.length:d) by omega),ag (show t>=0 from h0),ag h1];simp only[j6,e8,j4,kp,jc,j7,jfT,et];rw[bE];simp only[j6,j8,pH,jn0];rw[show Cu ss[i].2.2 (dL ss[i].2.2 t (di zs cs ss[i].2.1 t) ss[i].2.1.length) t 0=_ from ef];rfl
theorem ā{ss:A cN}(hc:CG (zs,(ps,(cs,ss)))){i:K}(hi:i<ss.length){t:d}(h0:0<=t)(h1:t<=8589934592):j4W (zs,(ps,(cs,ss))) (i:d) t=F (dQ zs cs ss[i] t):=by
 have iV:=hc.sc _ (jl hi);have ix:=iV.ll;have gp:=iV.el;have pH:ss.getD i (ByteArray.empty,(([]:A bA),([]:A cO)))=ss[i]:=by simp[J,hi]
 have hL:=jxL (zs:=zs) (ps:=ps) (cs:=cs) (ss:=ss) (tbs:=zs.map tb) (ls:=ss[i].2.1) (nm:=ss[i].1) (es:=ss[i].2.2) (t:=t) (Pf:=di zs cs ss[i].2.1 t) aa (λk hk=>by
  have e:di zs cs ss[i].2.1 t k=cA zs cs ss[i].2.1[k] t:=by simp[di,J,hk]
  rw[e];exact(jGL hs (iV.ly _ (jl hk)) (ss:=ss) h0 h1).2.1)
 have Ts:∃k,j7S ((zs,(ps,(cs,ss))),zs.map tb) (ss[i].1,(ss[i].2.1,ss[i].2.2)) t=F (k,dL ss[i].2.2 t (di zs cs ss[i].2.1 t) ss[i].2.1.length):=by
  rw[show j7S ((zs,(ps,(cs,ss))),zs.map tb) (ss[i].1,(ss[i].2.1,ss[i].2.2)) t=_ from hL];simp only[dL];cases dK (fQ ss[i].2.2 t (di zs cs ss[i].2.1 t)) ss[i].2.1.length with
  |none=>exact⟨_,rfl⟩
  |some k=>exact⟨_,rfl⟩
 obtain⟨k,Ts⟩:=Ts;have ef:=Tr (es:=ss[i].2.2) aa (t:=t) ss[i].2.2.length 0 (dL ss[i].2.2 t (di zs cs ss[i].2.1 t) ss[i].2.1.length) aa;rw[jk]at ef;simp only[j4W,je5,hc.of,j4,jc,j7,j5x,show D ss.length=(ss.length:d) from rfl];rw[ag (show (i:d)>=0 by omega),ag (show (i:d)<(ss.length:d) by omega),bE];simp only[j6,jc,j7,j8,pH,j6U];rw[an (show¬t<0 by omega),an (show¬t>8589934592 by omega)];simp only[j7];simp only[Ts,j4,jfd,show D ss[i].2.2.length=(ss[i].2.2.length:d) from rfl,show Cp (dL ss[i].2.2 t (di zs cs ss[i].2.1 t) ss[i].2.1.length) t ss[i].2.2 (ss[i].2.2.length:d) 0=_ from ef];rfl
end
section
variable{zs:A bH}{ps:A dr}{cs:A bd}(hs:lz zs ps cs)
include hs
end
section
variable{zs:A bH}{ps:A dr}{cs:A bd}(hs:lz zs ps cs)
include hs
end
def sT(l:bM):A Int:=l.tail.map (·.1)
theorem Tt{f:d->d}{b:d}:∀{l:bM}{q:Z d}{a:d},fJ f b q a l->(∀x,x∈sT l↔a<x/\x<b/\f (x-1)≠f x)/\(sT l).Nodup/\l.length<=(sT l).length+1
 |[],q,a,h=>⟨λx=>⟨λhx=>by simp[sT]at hx,λhx=>by have h:a=b:=h;omega⟩,y8,ae⟩
 |[s],q,a,h=>by
  obtain⟨h1,h2,h3,h4,h5⟩:=h;have h5:s.2.1=b:=h5;exact⟨λx=>⟨λhx=>by simp[sT]at hx,λ⟨x1,x2,x3⟩=>absurd ((h4 (x-1) aa aa).trans (h4 x aa aa).symm) x3⟩,y8,by simp[sT]⟩
 |s::u::r,q,a,h=>by
  obtain⟨h1,h2,h3,h4,h5⟩:=h;obtain⟨i1,i2,i3⟩:=Tt h5;have hu:=h5.1;have hle:=h5.2.2.2.2.ch.le;have Bw:=h5.2.1;have e:sT (s::u::r)=u.1::sT (u::r):=rfl;refine⟨λx=>?_,?_,by rw[e];simp only[ji]at i3 ⊢;omega⟩
  .rw[e,je,i1 x];constructor
   .rintro (rfl|⟨x1,x2,x3⟩)
    .refine⟨aa,aa,?_⟩;rw[h4 (u.1-1) aa aa,h5.2.2.2.1 u.1 aa aa]
     exactλhe=>h5.2.2.1 (by rw[he])
    .exact⟨aa,x2,x3⟩
   .rintro⟨x1,x2,x3⟩
    by_cases hx:x<s.2.1
    .exact absurd ((h4 (x-1) aa aa).trans (h4 x aa aa).symm) x3
    .by_cases pV:x=s.2.1
     .left;omega
     .right;exact⟨aa,x2,x3⟩
  .rw[e];refine qo.2 ⟨λhm=>?_,i2⟩;have:=(i1 u.1).1 hm;omega
theorem jEP{f:d->d}{a b:d}{l:bM}{q:Z d}(h:fJ f b q a l){E:A d}(hE:∀x,a<x->x<b->f (x-1)≠f x->x∈E):l.length<=E.length+1:=by
 obtain⟨h1,h2,h3⟩:=Tt h
 have:=h2.length_le_of_subset (l₂:=E) (λx hx=>by
  have:=(h1 x).1 hx;exact hE x this.1 this.2.1 this.2.2)
 omega
theorem Ă{es:A cO}{x:cO}(hx:x∈es):x.2.2.2.1∈lF es/\x.2.2.2.2∈lF es:=
 ⟨q8.2 ⟨x,hx,ae⟩,q8.2 ⟨x,hx,ae⟩⟩
theorem jAN{es:A cO}{t:d}(ht:t∉lF es)(p:d):gP es p (t-1)=gP es p t:=by
 unfold gP;rw[Bool.eq_iff_iff,zg,zg]
 have key:∀x∈es,(x.1==0&&(x.2.1==p&&(B (x.2.2.2.1<=t-1)&&B (t-1<x.2.2.2.2))))=(x.1==0&&(x.2.1==p&&(B (x.2.2.2.1<=t)&&B (t<x.2.2.2.2)))):=λx hx=>by
  obtain⟨m1,m2⟩:=Ă hx;have n1:t≠x.2.2.2.1:=λe=>ht (e▸m1);have n2:t≠x.2.2.2.2:=λe=>ht (e▸m2)
  have e1:B (x.2.2.2.1<=t-1)=B (x.2.2.2.1<=t):=by
   by_cases h:x.2.2.2.1<=t
   .rw[ag h,ag aa]
   .rw[an h,an aa]
  have e2:B (t-1<x.2.2.2.2)=B (t<x.2.2.2.2):=by
   by_cases h:t<x.2.2.2.2
   .rw[ag h,ag aa]
   .rw[an h,an aa]
  rw[e1,e2]
 exact⟨λ⟨x,hx,h⟩=>⟨x,hx,by rw[<-key x hx];exact h⟩,λ⟨x,hx,h⟩=>⟨x,hx,by rw[key x hx];exact h⟩⟩
section
variable{zs:A bH}{ps:A dr}{cs:A bd}(hs:lz zs ps cs)
include hs
end
theorem jCi{l:A d}(hl:l.length<=1000000):∃s,j6j l=F s/\s.Perm l/\s.Pairwise (· <= ·):=by
 obtain⟨s,e,h1,h2⟩:=jBF (xs:=l) aa;exact⟨s,by simp only[j6j,e],h1,h2⟩
def oA(f t x:d):Bool:= !(cond (B (x<=f)) M (B (x>=t)))
theorem ă{l:A d}(hl:l.length<=1000000){f t:d}:∀(n i:K),i+n=l.length->(∀s∈l.take i,oA f t s=M)->
  (∃j:K,E8 f t (l.length:d) (i:d) l=F (.inl ((j:d),l))/\j<l.length/\(∀s∈l.take j,oA f t s=M)/\oA f t (l.getD j 0)=W)\/
  (E8 f t (l.length:d) (i:d) l=F (.inr l)/\∀s∈l,oA f t s=M)
 |0,i,hi,h=>by
  rw[XF];simp only[j0W];rw[an aa,j7,aW];rw[G aa]at h;exact Or.inr ⟨rfl,h⟩
 |n+1,i,hi,h=>by
  rw[XF];simp only[j0W,jbk];rw[ag (show (i:d)<(l.length:d) by omega),bE,ar (x:=(i:d)+1)];simp only[j6,j8,j4];have aq:i<l.length:=aa;cases hc:(cond (B (l.getD i (0:d)<=f)) M (B (l.getD i (0:d)>=t))) with
  |true=>simp only[j6,aW];exact Or.inl ⟨i,rfl,aq,h,by simp only[oA];rw[hc];rfl⟩
  |false=>
   simp only[j7,aS];refine ă hl n (i+1) aa λs hs=>?_;rw[qb]at hs;rcases jm.1 hs with hs|hs
   .exact h s hs
   .have bc:l.getD i (0:d)=l[i]:=by simp[aq]
    rw[bc]at hc;rw[jo aq]at hs;simp at hs;subst hs;simp only[oA];rw[hc];rfl
theorem Tu{l:A d}(hl:l.length<=1000000){f t:d}:∀(n i j:K)(b:A d),j+n=l.length->i<=j->b.length=l.length->b.drop j=l.drop j->b.take i=(l.take j).filter (oA f t)->
  ∃(k:K)(b':A d),IG f t (i:d) (j:d) b=F ((k:d),b')/\b'.length=l.length/\k<=l.length/\b'.take k=l.filter (oA f t)
 |0,i,j,b,hj,eh,hb,hd,ht=>by
  rw[XG];simp only[j1c,show D (O b)=(b.length:d) from rfl];rw[an aa,j7,aW];rw[G (l:=l) aa]at ht;exact⟨i,b,rfl,hb,aa,ht⟩
 |n+1,i,j,b,hj,eh,hb,hd,ht=>by
  have aq:j<l.length:=aa
  have R6:b.getD j (0:d)=l[j]:=by
   have:b[j]? = l[j]? := by
    have h:=js (λx=>x[0]?) hd;simpa[U]using h
   rw[H,this,jo aq];rfl
  have h9:b.drop (j+1)=l.drop (j+1):=by have:=js (Á 1) hd;simpa[Y]using this
  have pz:l.take (j+1)=l.take j++[l[j]]:=by rw[qb,jo aq];rfl
  rw[XG];simp only[j1c,jbk,show D (O b)=(b.length:d) from rfl];rw[ag (show (j:d)<(b.length:d) by omega),bE,bE,ar (x:=(j:d)+1),ar (x:=(i:d)+1)];simp only[j6,j8,j4,R6];cases hc:(cond (B (l[j]<=f)) M (B (l[j]>=t))) with
  |true=>simp only[jc,j7,aS];refine Tu hl n i (j+1) b aa aa hb h9 ?_;rw[pz,vk,ht];simp[oA,hc]
  |false=>
   simp only[jp,j6,aS];refine Tu hl n (i+1) (j+1) _ aa aa (by simpa using hb) ?_ ?_
   .rw[R aa];exact h9
   .have Dx:i<b.length:=aa;rw[qb,S (jq _),N Dx,ht,pz,vk];simp[oA,hc]
theorem jxU{l:A d}(hl:l.length<=1000000){f t:d}:∃n m,j3o l f t=F (n,m)/\m.take n.toNat=l.filter (oA f t):=by
 simp only[j3o,j4C,show D (O l)=(l.length:d) from rfl];rcases ă (f:=f) (t:=t) hl l.length 0 aa ae with⟨j,e,hj,h1,h2⟩|⟨e,h⟩
 .rw[show ((0:K):d)=0 from rfl]at e;rw[e];simp only[j4,pN];rw[cG aa,ar (x:=(j:d)+1)];have bc:l.getD j (0:d)=l[j]:=by simp[hj]
  rw[bc]at h2
  obtain⟨k,b,e2,hb,hk,ht⟩:=Tu (f:=f) (t:=t) hl (l.length-(j+1)) j (j+1) l aa aa rfl rfl (by
   rw[qb,jo hj,vk,List.filter_eq_self.2 h1];simp[h2])
  rw[show ((j:d)+1)=((j+1:K):d) from rfl,e2];simp only[j7,j4,show D (O b)=(b.length:d) from rfl,j8];rw[ag (show (0:d)<=(k:d) by omega),ag (show (k:d)<=(b.length:d) by omega)];simp only[ql,j6,qr];rw[ag az,j6];refine⟨_,_,rfl,?_⟩;simp only[show (D k).toNat=k from rfl];rw[qy az,vz,Nat.min_self,ht]
 .rw[show ((0:K):d)=0 from rfl]at e;rw[e];simp only[j4,me,kp,j6];refine⟨_,_,rfl,?_⟩;simp only[show (D l.length).toNat=l.length from rfl];rw[G (jq _),List.filter_eq_self.2 h]
def nr:d->A d->A d
 |_,[]=>[]
 |p,x::r=>if x=p then nr p r else x::nr x r
theorem Tv:∀(l:A d)(p:d),∀x,x∈p::nr p l↔x∈p::l
 |[],_,_=>Iff.rfl
 |y::r,p,x=>by
  unfold nr;split
  .rename_i h;subst h;rw[Tv r y x];simp
  .have:=Tv r y x;rw[je,this,je,je,je]
theorem Tw:∀(l:A d)(p:d),(p::l).Pairwise (· <= ·)->(p::nr p l).Pairwise (· < ·)
 |[],_,_=>by simp[nr]
 |y::r,p,h=>by
  have h1:=kf.1 h;unfold nr;split
  .rename_i h;subst h;exact Tw r y h1.2
  .have ih:=Tw r y h1.2;refine kf.2 ⟨λz hz=>?_,ih⟩;have hy:=h1.1 y ae;rcases je.1 hz with rfl|hz
   .omega
   .have:=(kf.1 ih).1 z hz;omega
theorem Tx{l:A d}(hl:l.length<=1000000){k0:K}:∀(n s k:K)(b:A d),k0+s+n=l.length->1<=s->k<=k0+s-1->b.length=l.length->b.drop k=l.drop k->
  ∃(m:K)(b':A d),E9 (k:d) (k0:d) (s:d) b=F ((m:d),b')/\b'.length=l.length/\m<=l.length/\b'.take m=b.take k++nr (l.getD (k0+s-1) 0) (l.drop (k0+s))
 |0,s,k,b,hn,hs,hk,hb,hd=>by
  rw[XH];simp only[j1y,j8,show D (b.length-k0)=((b.length-k0:K):d) from rfl];rw[an aa,j7,aW,I aa];exact⟨k,b,rfl,hb,aa,by simp[nr]⟩
 |n+1,s,k,b,hn,hs,hk,hb,hd=>by
  have aq:k0+s<l.length:=aa
  have GN:∀j,k<=j->b[j]? = l[j]? := λj hj=>by
   have h:=js (λx=>x[j-k]?) hd;simpa[U,show k+(j-k)=j by omega]using h
  have g1:b.getD (k0+s) (0:d)=l[k0+s]:=by rw[H,GN _ aa,jo aq];rfl
  have g2:b.getD (k0+(s-1)) (0:d)=l.getD (k0+s-1) 0:=by rw[H,GN _ aa,show k0+(s-1)=k0+s-1 by omega,H]
  have e1:l.getD (k0+(s+1)-1) 0=l[k0+s]:=by rw[show k0+(s+1)-1=k0+s by omega];simp[aq]
  rw[XH];simp only[j1y,j8,show D (b.length-k0)=((b.length-k0:K):d) from rfl,show D k0=(k0:d) from rfl];rw[ag (show (s:d)<((b.length-k0:K):d) by omega),bU (show (0:d)<=(s:d) by omega) aa,ar (x:=(s:d)-1),bU (show (0:d)<=(s:d)-1 by omega) aa,bU (show (0:d)<=(k:d) by omega) aa,ar (x:=(k:d)+1),ar (x:=(s:d)+1),show ((s:d)-1).toNat=s-1 by omega,jb aq];simp only[j6,g1,g2,nr];by_cases hc:l[k0+s]=l.getD (k0+s-1) 0
  .rw[show (l[k0+s] != l.getD (k0+s-1) 0)=W by rw[bne_eq_false_iff_eq];exact hc,if_pos hc,j7,aS];have ih:=Tx hl (k0:=k0) n (s+1) k b aa aa aa hb hd;rw[e1,hc,show k0+(s+1)=k0+s+1 by omega]at ih;exact ih
  .rw[show (l[k0+s] != l.getD (k0+s-1) 0)=M by rw[bne_iff_ne];exact hc,if_neg hc,j6,aS]
   have ih:=Tx hl (k0:=k0) n (s+1) (k+1) (b.set k l[k0+s]) aa aa aa (by simpa using hb) (by
    rw[R aa];have:=js (Á 1) hd;simpa[Y]using this)
   rw[e1,show k0+(s+1)=k0+s+1 by omega]at ih;obtain⟨m,b',r1,r2,r3,r4⟩:=ih;refine⟨m,b',r1,r2,r3,?_⟩;have tA:k<b.length:=aa;rw[r4,qb,S (jq _),N tA];simp
def sU:A d->A d
 |[]=>[]
 |a::r=>a::nr a r
theorem Ą{l:A d}(hl:l.length<=1000000):∀(n k:K),k+n=l.length->1<=k->sU l=l.take k++nr (l.getD (k-1) 0) (l.drop k)->
  (∃(m:K)(b:A d),Ad (k:d) l=F (.inl ((m:d),b))/\b.take m=sU l)\/(Ad (k:d) l=F (.inr l)/\sU l=l)
 |0,k,hn,hk,hT=>by
  rw[XI];simp only[j1z,show D l.length=(l.length:d) from rfl];rw[an aa,j7,aW];rw[G aa,I aa]at hT;exact .inr ⟨rfl,by simpa[nr]using hT⟩
 |n+1,k,hn,hk,hT=>by
  have aq:k<l.length:=aa;have g1:l.getD k (0:d)=l[k]:=by simp[aq]
  rw[jb aq]at hT;simp only[nr]at hT;rw[XI];simp only[j1z,show D l.length=(l.length:d) from rfl];rw[ag (show (k:d)<(l.length:d) by omega),bU (show (0:d)<=(k:d) by omega) aa,ar (x:=(k:d)-1),bU (show (0:d)<=(k:d)-1 by omega) aa,ar (x:=(k:d)+1),show ((k:d)-1).toNat=k-1 by omega,ag (show (0:d)<=(k:d) by omega),ag (show (k:d)<=(l.length:d) by omega)];simp only[j6,j8,g1,ql,show D k=(k:d) from rfl];by_cases hc:l[k]=l.getD (k-1) 0
  .rw[if_pos hc]at hT;obtain⟨m,b,r1,r2,r3,r4⟩:=Tx hl (k0:=k) n 1 k l aa aa aa rfl rfl;rw[show k+1-1=k by omega,g1,hc,<-hT]at r4;rw[dI hc,j6,show E9 (k:d) (k:d) 1 l=_ from r1];simp only[j4,j8,show D b.length=(b.length:d) from rfl];rw[ag (show (0:d)<=(m:d) by omega),ag (show (m:d)<=(b.length:d) by omega)];simp only[ql,j6,qr];rw[ag az,j6,aW];refine .inl ⟨m,_,rfl,?_⟩;rw[qy az,vz,Nat.min_self,r4]
  .rw[if_neg hc]at hT;rw[cG hc,j7,aS];refine Ą hl n (k+1) aa aa ?_;have pz:l.take (k+1)=l.take k++[l[k]]:=by rw[qb,jo aq];rfl
   rw[hT,pz,show k+1-1=k by omega,g1,jg];rfl
theorem jvu{l:A d}(hl:l.length<=1000000):∃n m,j4O l=F (n,m)/\m.take n.toNat=sU l:=by
 simp only[j4O,show D l.length=(l.length:d) from rfl];by_cases h2:l.length<2
 .rw[ag aa,j6];refine⟨_,_,rfl,?_⟩;rw[j8,G (jq _)];match l,h2 with
  |[],_=>rfl
  |[a],_=>rfl
  |_::_::_,h2=>simp at h2;omega
 .rw[an aa,j7]
  have hT:sU l=l.take 1++nr (l.getD (1-1) 0) (l.drop 1):=by
   match l,h2 with
   |[],h2=>simp at h2
   |a::r,_=>rfl
  rcases Ą hl (l.length-1) 1 aa aa hT with⟨m,b,e,h⟩|⟨e,h⟩
  .rw[show Ad 1 l=_ from e];refine⟨_,_,rfl,?_⟩;simpa using h
  .rw[show Ad 1 l=_ from e];refine⟨_,_,rfl,?_⟩;rw[h];simp
theorem jEQ{l:A d}(x:d):x∈sU l↔x∈l:=by
 cases l with
 |nil=>exact Iff.rfl
 |cons a r=>exact Tv r a x
theorem jER{l:A d}(h:l.Pairwise (· <= ·)):(sU l).Pairwise (· < ·):=by
 cases l with
 |nil=>exact .nil
 |cons a r=>exact Tw r a h
theorem Tz:∀(l:A d)(p:d),(nr p l).length<=l.length
 |[],_=>jq _
 |y::r,p=>by
  unfold nr;split
  .have:=Tz r p;simp;omega
  .have:=Tz r y;simp;omega
theorem jES(l:A d):(sU l).length<=l.length:=by
 cases l with
 |nil=>exact jq _
 |cons a r=>have:=Tz r a;simp[sU];omega
theorem jET{l:A d}(hl:l.length<=1000000){f t:d}:∃C,jk9 l f t=F (C++[t])/\C.Pairwise (· < ·)/\C.length<=l.length/\(∀x,x∈C↔x∈l/\f<x/\x<t):=by
 obtain⟨n1,m1,e1,h1⟩:=jxU (l:=l) aa (f:=f) (t:=t);have fB:(l.filter (oA f t)).length<=l.length:=zo _ _;obtain⟨s,e2,p2,a2⟩:=jCi (l:=l.filter (oA f t)) aa;have eL:=p2.length_eq;obtain⟨n3,m3,e3,h3⟩:=jvu (l:=s) aa;have dR:=jES s;refine⟨sU s,?_,jER a2,aa,λx=>?_⟩
 .simp only[jk9,j89,jw,jz];rw[ag (show 0+l.length<=aG by simp[aG];omega),j6];simp only[j4,e1,h1,e2,e3,h3];rw[ag (show (sU s).length+[t].length<=aG by simp[aG];omega),j6]
 .rw[jEQ,p2.mem_iff,zw]
  have:oA f t x=M↔f<x/\x<t:=by
   unfold oA;by_cases h1:x<=f
   .rw[ag h1];simp;omega
   .rw[an h1];by_cases h2:x>=t
    .rw[ag h2];simp;omega
    .rw[an h2];simp;omega
  rw[this]
end Go.Proofs.Pw
