/- What the two H9 of r17.Loads add up to: the L5 of a BL in the Ia times. -/
import Derived.Test.YtgfoijaggkhgnaaGreatLXPS
import Derived.Test.YtgfoijaggkhgnaaGreatLXPN
import Derived.Test.YtgfoijaggkhgnaaGreatLXPO
import Derived.Test.YtgfoijaggkhgnaaGreatLXPQ
import Derived.Test.YtgfoijaggkhgnaaGreatLXPA
open _root_ renaming Int->d,List->j,Nat->A
open Int renaming ofNat->D,add_mul->Z
open List renaming length->E,getD->U,map_map->Y,map_id->À
open Option renaming some->H
open Decidable renaming decide->I,byContradiction->X
open Go Go.Lft
set_option linter.unusedVariables false
namespace Go.Proofs.Pw
theorem Ű{f g:d->Bool}{a:d}:∀{n:A},(∀x,a<=x->x<a+n->f x=true->g x=false)->cm (λx=>f x||g x) a n=cm f a n+cm g a n
 |0,_=>rfl
 |n+1,h=>by
  have ih:=Ű (f:=f) (g:=g) (a:=a) (n:=n) λx x1 x2=>h x x1 aa;have h1:=h (a+n) aa aa;simp only[cm,ih];cases hf:f (a+n) with
  |true=>rw[h1 hf];simp only[Bool.or_false,j6,j7];omega
  |false=>simp only[qu,j7];omega
def ov(s u:d×d):Int:=if 0<(if u.2<s.2 then u.2 else s.2)-(if u.1>s.1 then u.1 else s.1) then (if u.2<s.2 then u.2 else s.2)-(if u.1>s.1 then u.1 else s.1) else 0
theorem ű(u:d×d)(hu:u.1<u.2)(c:d):∀n:A,cm (λx=>cond (I (u.1<=x)) (I (x<u.2)) false) c n=ov (c,c+n) u
 |0=>by
  have e:(c:d)+((0:A):d)=c:=aa;simp only[cm,ov];rw[e]
  (repeat' split)<;>omega
 |n+1=>by
  have ih:=ű u hu c n;simp only[cm,ih];by_cases h1:u.1<=c+n
  .by_cases h2:c+n<u.2
   .rw[ah h1,ah h2];simp only[ov,j6];have e:(c:d)+((n+1:A):d)=c+n+1:=aa;rw[e]
    (repeat' split)<;>omega
   .rw[ah h1,aj h2];simp only[ov,j6,j7];have e:(c:d)+((n+1:A):d)=c+n+1:=aa;rw[e]
    (repeat' split)<;>omega
  .rw[aj h1];simp only[ov,j7];have e:(c:d)+((n+1:A):d)=c+n+1:=aa;rw[e]
   (repeat' split)<;>omega
def rowS(s:d×d):SL->d
 |[]=>0
 |u::T=>ov s u+rowS s T
theorem Ų{c:d}{n:A}:∀{T:SL}{p:d},iB p T->rowS (c,c+n) T=cm (λx=>hasB x T) c n
 |[],p,_=>(HY (f:=λx=>hasB x []) (λ_ _ _=>rfl)).symm
 |u::T,p,h=>by
  obtain⟨h1,h2,h3⟩:=h;simp only[rowS]
  rw[Ų h3,<-ű u h2 c n,<-Ű (f:=λx=>cond (I (u.1<=x)) (I (x<u.2)) false) (g:=λx=>hasB x T) (λx x1 x2 hx=>by
   have:x<u.2:=by
    by_cases q:u.1<=x
    .have hx:cond (I (u.1<=x)) (I (x<u.2)) false=true:=hx;rw[ah q]at hx;exact q7 hx
    .have hx:cond (I (u.1<=x)) (I (x<u.2)) false=true:=hx;rw[aj q]at hx;simp at hx
   exact Uo h3 this)]
  refine Dl λx x1 x2=>?_;simp only[hasB];cases cond (I (u.1<=x)) (I (x<u.2)) false<;>rfl
theorem ų{s u:d×d}(h:s.2<=u.1\/u.2<=s.1):ov s u=0:=by
 simp only[ov]
 (repeat' split)<;>omega
theorem Ŵ{s:d×d}:∀{T:SL}{p:d},iB p T->s.2<=p->rowS s T=0
 |[],_,_,_=>rfl
 |u::T,p,h,hs=>by
  obtain⟨h1,h2,h3⟩:=h;simp only[rowS];rw[ų (.inl aa),Ŵ h3 aa];rfl
def iL(p:d)(T:SL):bE->d
 |[]=>0
 |s::S=>(if s.2.2=p then rowS (s.1,s.2.1) T else 0)+iL p T S
theorem all_cons{f:d->d}{b p:d}{u:d×d}{T:SL}:∀{S:bE}{a:d},Ch f b a S->u.2<=a->iL p (u::T) S=iL p T S
 |[],_,_,_=>rfl
 |s::S,a,h,hu=>by
  obtain⟨h1,h2,h3,h4⟩:=h;simp only[iL,rowS];rw[all_cons h4 aa,ų (.inr (by show u.2<=s.1;omega)),Int.zero_add]
theorem ŵ(p:d):∀S:bE,iL p [] S=0
 |[]=>rfl
 |s::S=>by simp only[iL,rowS,ŵ p S];split<;>rfl
theorem US{f:d->d}{b p g:d}(hp:0<=p):∀(n:A){S:bE}{T:SL}{a lo:d},S.length+T.length<=n->Ch f b a S->iB lo T->bH p (iC g n S T)=iL p T S*g/\bz p (iC g n S T)=0
 |0,S,T,a,lo,hn,hS,hT=>by
  have:S=[]:=qg.1 aa;subst this;simp[iC,bH,bz,iL]
 |n+1,[],T,a,lo,hn,hS,hT=>by simp[iC,bH,bz,iL]
 |n+1,s::S,[],a,lo,hn,hS,hT=>by
  rw[ŵ];simp[iC,bH,bz]
 |n+1,s::S,u::T,a,lo,hn,hS,hT=>by
  obtain⟨h1,h2,h3,h4⟩:=hS;obtain⟨t1,t2,t3⟩:=hT;simp only[iC];rw[yK,wK]
  have head:bH p (if 0<(if u.2<s.2.1 then u.2 else s.2.1)-(if u.1>s.1 then u.1 else s.1)/\0<=s.2.2 then [(s.2.2,((0:d),((if u.2<s.2.1 then u.2 else s.2.1)-(if u.1>s.1 then u.1 else s.1))*g))] else [])=(if s.2.2=p then ov (s.1,s.2.1) u else 0)*g/\
    bz p (if 0<(if u.2<s.2.1 then u.2 else s.2.1)-(if u.1>s.1 then u.1 else s.1)/\0<=s.2.2 then [(s.2.2,((0:d),((if u.2<s.2.1 then u.2 else s.2.1)-(if u.1>s.1 then u.1 else s.1))*g))] else [])=0:=by
   show bH p (if 0<(if u.2<(s.1,s.2.1).2 then u.2 else (s.1,s.2.1).2)-(if u.1>(s.1,s.2.1).1 then u.1 else (s.1,s.2.1).1)/\0<=s.2.2 then [(s.2.2,((0:d),((if u.2<(s.1,s.2.1).2 then u.2 else (s.1,s.2.1).2)-(if u.1>(s.1,s.2.1).1 then u.1 else (s.1,s.2.1).1))*g))] else [])=_/\
    bz p (if 0<(if u.2<(s.1,s.2.1).2 then u.2 else (s.1,s.2.1).2)-(if u.1>(s.1,s.2.1).1 then u.1 else (s.1,s.2.1).1)/\0<=s.2.2 then [(s.2.2,((0:d),((if u.2<(s.1,s.2.1).2 then u.2 else (s.1,s.2.1).2)-(if u.1>(s.1,s.2.1).1 then u.1 else (s.1,s.2.1).1))*g))] else [])=0
   unfold ov;generalize (if u.2<(s.1,s.2.1).2 then u.2 else (s.1,s.2.1).2)-(if u.1>(s.1,s.2.1).1 then u.1 else (s.1,s.2.1).1)=m;by_cases hm:0<m
   .by_cases hw:0<=s.2.2
    .rw[if_pos ⟨hm,hw⟩,if_pos hm];simp only[bH,bz];by_cases he:s.2.2=p
     .rw[if_pos he,if_pos he,if_pos he];exact⟨aa,aa⟩
     .rw[if_neg he,if_neg he,if_neg he];exact⟨ae,ae⟩
    .rw[if_neg (λh=>hw h.2),if_neg (show¬s.2.2=p by omega)];exact⟨by simp[bH],rfl⟩
   .rw[if_neg (λh=>hm h.1),if_neg hm];refine⟨?_,rfl⟩;split<;>simp[bH]
  rw[head.1,head.2];by_cases hc:s.2.1<=u.2
  .rw[if_pos hc];obtain⟨i1,i2⟩:=US (g:=g) hp n (S:=S) (T:=u::T) (a:=s.2.1) (lo:=lo) (by simp only[jk]at hn ⊢;omega) h4 ⟨t1,t2,t3⟩;rw[i1,i2];refine⟨?_,rfl⟩;simp only[iL,rowS];rw[Ŵ (s:=(s.1,s.2.1)) t3 hc,ze,Z]
  .rw[if_neg hc];obtain⟨i1,i2⟩:=US (g:=g) hp n (S:=s::S) (T:=T) (a:=a) (lo:=u.2) (by simp only[jk]at hn ⊢;omega) ⟨h1,h2,h3,h4⟩ t3;rw[i1,i2];refine⟨?_,rfl⟩;simp only[iL,rowS];rw[all_cons h4 aa,<-Z];congr 1;by_cases he:s.2.2=p
   .simp only[he,if_true];omega
   .simp only[he,za];omega
theorem Ŷ{f:d->d}{p lo:d}{T:SL}(hT:iB lo T):∀{S:bE}{a:d}{N:A},Ch f (a+N) a S->iL p T S=cm (λx=>I (f x=p)&&hasB x T) a N
 |[],a,N,h=>by
  have h:a=a+N:=h;have:N=0:=aa;subst this;rfl
 |s::r,a,N,h=>by
  obtain⟨h1,h2,h3,h4⟩:=h;have hle:=h4.le;obtain⟨k,hk⟩:∃k:A,s.2.1=a+k:=⟨(s.2.1-a).toNat,aa⟩;obtain⟨m,rfl⟩:∃m:A,N=k+m:=⟨N-k,aa⟩;rw[hk]at h4;have ih:=Ŷ (f:=f) (p:=p) hT (S:=r) (a:=a+k) (N:=m) (by rw[show a+(k:d)+(m:d)=a+((k+m:A):d) by omega];exact h4);simp only[iL,ih,LH];congr 1;by_cases hs:s.2.2=p
  .rw[if_pos hs,h1,hk,Ų hT];refine Dl λx x1 x2=>?_;rw[h3 x x1 aa,hs];simp
  .rw[if_neg hs,HY (λx x1 x2=>by rw[h3 x x1 aa];simp[hs])]
theorem jDy{F G:j bB}(hF:F.Pairwise λy z=>y.1<z.1)(hG:G.Pairwise λy z=>y.1<z.1)(hk:∀q,q∈F.map (λy=>y.1)↔q∈G.map (λy=>y.1))(hu:∀y∈F,bz y.1 F=bz y.1 G/\bH y.1 F=bH y.1 G):F=G:=by
 have nd:∀{L:j bB},(L.Pairwise λy z=>y.1<z.1)->(L.map λy=>y.1).Nodup:=λh=>vf.2 (h.imp λh e=>aa);have e1:=LJ (nd hF) (vf.2 hF) (λ_=>Iff.rfl);have e2:=LJ (nd hF) (vf.2 hG) hk;have ek:F.map (λy=>y.1)=G.map (λy=>y.1):=e1.symm.trans e2
 have own:∀{L:j bB},(L.Pairwise λy z=>y.1<z.1)->L=(L.map λy=>y.1).map λk=>(k,(bz k L,bH k L)):=λ{L} h=>by
  rw[Y];refine((zu (g:=id) λy hy=>?_).trans (À _)).symm;have:=UM h y hy;show (y.1,(bz y.1 L,bH y.1 L))=y;rw[this.1,this.2]
 rw[own hF,own hG,<-ek];refine zu λk bQ=>?_;obtain⟨y,hy,rfl⟩:=jr.1 bQ;rw[(hu y hy).1,(hu y hy).2]
theorem L6{p:d}(hp:0<=p):∀S:bE,bz p (gh S)=dN p S/\bH p (gh S)=dN p S
 |[]=>⟨rfl,rfl⟩
 |s::S=>by
  have ih:=L6 hp S;unfold gh at ih ⊢;rw[qn];simp only[dN];by_cases h:0<=s.2.2
  .rw[if_pos h];simp only[bz,bH,ih.1,ih.2];exact⟨trivial,trivial⟩
  .rw[if_neg h,if_neg (show¬s.2.2=p by omega)];simp only[ih.1,ih.2];omega
def sg(S:bE)(Wt:(d×d)×d->SL):iR->j bB
 |[]=>[]
 |y::r=>iC (y.2-1) (S.length+(Wt y).length) S (Wt y)++sg S Wt r
theorem ŷ{np:A}(nB:np<=900){S:bE}(hl:S.length<=100000)(hS:∀s∈S,L3 np s){a b:d}{ws:iR}(iG:ws.length<=14)(hw:∀y∈ws,1<=y.2/\y.2<=8){Wt:(d×d)×d->SL}
  {zs:j bF}{z:A}(hz:z<zs.length)(hW:∀y∈ws,j5d zs[z] [y.1] a b=H (Wt y,0)/\(Wt y).length<=1000/\∀u∈Wt y,0<=u.1/\u.1<=8589934592/\0<=u.2/\u.2<=8589934592)
  {ps:j cR}{cs:j aV}{ss:j cW}:∀(n i:A)(out:j bB)(B:d),i+n=ws.length->pz np out->0<=B->B+8467200*101000*(n:d)<=1000000000000000->(∀y∈out,lg B y)->
  GK a b (z:d) ws (i:d) zs ps cs ss S out=H (eE out (sg S Wt (ws.drop i)))
 |0,i,out,B,hi,ho,hB,_,cd=>by
  rw[_e,jc aa];simp only[j67,show D ws.length=(ws.length:d) from rfl];rw[aj aa,j7,aS];rfl
 |n+1,i,out,B,hi,ho,hB,L2,cd=>by
  have an:i<ws.length:=aa;have ES:ws.getD i (((0:d),(0:d)),(0:d))=ws[i]:=by simp[U,an]
  have Of:zs.getD z (ByteArray.empty,((0:d),([]:j aL)))=zs[z]:=by simp[U,hz]
  obtain⟨e1,w1,w2⟩:=hW _ (jg an);have hBm:B+8467200*((S.length+(Wt ws[i]).length:A):d)<=B+8467200*101000:=aa;obtain⟨f1,f2,f3⟩:=jHR nB hl hS (show (Wt ws[i]).length<=100000 by omega) w2 (a:=a) (b:=b) (z:=(z:d)) hw an (zs:=zs) (ps:=ps) (cs:=cs) (ss:=ss) (S.length+(Wt ws[i]).length) 0 0 out B aa aa aa ho hB aa cd;rw[jm,jm]at f1 f2 f3;rw[_e,jb an];simp only[j67,show D ws.length=(ws.length:d) from rfl];rw[ah (show (i:d)<(ws.length:d) by omega),bY (show (0:d)<=(z:d) by omega) (show (z:d)<(zs.length:d) by omega),bY (show (0:d)<=(i:d) by omega) (show (i:d)<(ws.length:d) by omega)];simp only[j6,j8,ES,Of];rw[show j5d (zs[z].1,(zs[z].2.1,zs[z].2.2)) [(ws[i].1.1,ws[i].1.2)] a b=_ from e1];simp only[j4];rw[show AW a b (z:d) ws (i:d) 0 0 zs ps cs ss S out (Wt ws[i])=_ from f1];simp only[j4,aH,sg];rw[al (x:=(i:d)+1),UQ];exact ŷ nB hl hS iG hw hz hW n (i+1) _ (B+8467200*101000) aa f2 aa aa λy hy=>(f3 y hy).mono hBm
theorem jDz{S:bE}(bK:∀s∈S,s.1<s.2.1):∀s∈S,0<dN s.2.2 S:=by
 induction S with
 |nil=>intro s hs;simp at hs
 |cons x r ih=>
  intro s hs;have hx:=bK x ae;have hr:=λs hs=>bK s (qt _ hs)
  have nn:∀p,∀{S:bE},(∀s∈S,s.1<s.2.1)->0<=dN p S:=λp {S}=>by
   induction S with
   |nil=>intro _;exact k7 _
   |cons y q Bv=>intro h;have h1:=h y ae;have h2:=Bv λs hs=>h s (by simp[hs]);simp only[dN];split<;>omega
  simp only[dN];rcases je.1 hs with rfl|hs
  .rw[if_pos rfl];have:=nn s.2.2 hr;omega
  .have:=ih hr s hs;split<;>omega
theorem jDA{q:d}:∀{S:bE},q∈(gh S).map (λy=>y.1)->∃s∈S,s.2.2=q/\0<=q:=by
 intro S h;obtain⟨y,hy,rfl⟩:=jr.1 h;obtain⟨s,hs,e⟩:=v8.1 hy;split at e
 .simp only[j5]at e;subst e;exact⟨s,hs,rfl,by assumption⟩
 .simp at e
theorem UT{q g:d}:∀{n:A}{S:bE}{T:SL},q∈(iC g n S T).map (λy=>y.1)->∃s∈S,s.2.2=q/\0<=q
 |0,S,T,h=>by simp[iC]at h
 |n+1,[],T,h=>by simp[iC]at h
 |n+1,s::S,[],h=>by simp[iC]at h
 |n+1,s::S,u::T,h=>by
  simp only[iC,qc,jn]at h;rcases h with h|h
  .obtain⟨y,hy,rfl⟩:=jr.1 h
   have one:∀(C:Prop)[Decidable C](x y:bB),y∈(if C then [x] else [])->C/\y=x:=by
    intro C _ x y h;by_cases hC:C
    .rw[if_pos hC]at h;exact⟨hC,kp.1 h⟩
    .rw[if_neg hC]at h;simp at h
   obtain⟨hC,rfl⟩:=one _ _ _ hy;exact⟨s,ae,rfl,hC.2⟩
  .split at h
   .obtain⟨x,hx,e⟩:=UT h;exact⟨x,by simp[hx],e⟩
   .exact UT h
theorem Ÿ{q:d}{S:bE}{Wt:(d×d)×d->SL}:∀{ws:iR},q∈(sg S Wt ws).map (λy=>y.1)->∃s∈S,s.2.2=q/\0<=q
 |[],h=>by simp[sg]at h
 |y::r,h=>by
  simp only[sg,qc,jn]at h;exact h.elim UT Ÿ
theorem Ź{f:d->d}{a:d}{N:A}{S:bE}(hS:Ch f (a+N) a S){Wt:(d×d)×d->SL}{o:d}{tl:bC}{p:d}(hp:0<=p):∀{ws:iR},(∀y∈ws,(∃lo,iB lo (Wt y))/\∀x,a<=x->x<a+N->hasB x (Wt y)=iQ o tl [y.1] x)->
  bz p (sg S Wt ws)=0/\bH p (sg S Wt ws)=jE f o tl a N p ws
 |[],_=>⟨rfl,rfl⟩
 |y::r,h=>by
  obtain⟨⟨lo,h1⟩,h2⟩:=h y ae;obtain⟨i1,i2⟩:=Ź hS (o:=o) (tl:=tl) hp (ws:=r) λz hz=>h z (by simp[hz]);obtain⟨j1,j2⟩:=US (p:=p) (g:=y.2-1) hp (S.length+(Wt y).length) (jv _) hS h1;simp only[sg,jE];rw[wK,yK,i1,i2,j1,j2,Ŷ h1 hS];refine⟨rfl,?_⟩;rw[Int.mul_comm,Dl λx x1 x2=>by rw[h2 x x1 x2]]
theorem jC6{f:d->d}{a:d}{N np:A}{S:bE}(hS:Ch f (a+N) a S)(bK:∀s∈S,s.1<s.2.1)(an:∀s∈S,s.2.2<(np:d)){Wt:(d×d)×d->SL}{o:d}{tl:bC}{ws:iR}
  (h:∀y∈ws,(∃lo,iB lo (Wt y))/\∀x,a<=x->x<a+N->hasB x (Wt y)=iQ o tl [y.1] x) :
  eE [] (gh S++sg S Wt ws)=rm np (λp=>dN p S) (λp=>dN p S+jE f o tl a N p ws):=by
 have oY:∀q,q∈(eE [] (gh S++sg S Wt ws)).map (λy=>y.1)↔0<=q/\q<(np:d)/\0<dN q S:=λq=>by
  rw[H7,jw,qc,jn];constructor
  .intro hq;obtain⟨s,hs,rfl,h0⟩:∃s∈S,s.2.2=q/\0<=q:=hq.elim jDA Ÿ;exact⟨h0,an s hs,jDz bK s hs⟩
  .rintro⟨h0,h1,h2⟩
   refine .inl (X λhn=>?_);have:=(H8 hn).1;rw[(L6 h0 S).1]at this;omega
 refine jDy (UL _ List.Pairwise.nil) (jDk np _ _) (λq=>?_) λy hy=>?_
 .rw[oY,Us,Y];show _↔q∈(yJ np λp=>dN p S).map id;rw[À,LI]
 .obtain⟨k0,k1,k2⟩:=(oY y.1).1 (jr.2 ⟨y,hy,rfl⟩);have hs:=UK y.1 (gh S++sg S Wt ws) [];have hc:=İ (u:=λp=>dN p S) (v:=λp=>dN p S+jE f o tl a N p ws) y.1 np;rw[if_pos ⟨k0,k1,k2⟩,if_pos ⟨k0,k1,k2⟩]at hc;rw[hs.1,hs.2,hc.1,hc.2,jw,wK,yK,(L6 k0 S).1,(L6 k0 S).2];obtain⟨o1,o2⟩:=Ź hS (o:=o) (tl:=tl) k0 h;rw[o1,o2];exact⟨aa,rfl⟩
theorem ź{L:j d}:∀(n:A)(p a:d)(acc:j bB),n<=4->acc.length+n<=4->c9 L a->∃a' bI,Ky p (n:d) L a acc=H (L,a',bI)/\bI.length<=4/\c9 L a'
 |0,p,a,acc,_,hl,h=>by
  refine⟨a,acc,?_,aa,h⟩;rw[_i];simp only[j2K];rw[aj aa,j7,aS]
 |n+1,p,a,acc,hn,hl,h=>by
  obtain⟨x,a1,e1,_,d1⟩:=mR h (xs:=[(0:d),(1:d),(100:d),(300:d),(86400:d),(7:d)]) ae ae;obtain⟨y,a2,e2,_,_,d2⟩:=dh d1 (n:=3) aa aa;obtain⟨z,a3,e3,_,_,d3⟩:=dh d2 (n:=2) aa aa;rw[_i];simp only[j2K,e1,j4,e2,e3,kf];rw[ah (show ((n+1:A):d)>0 by omega),ah (show acc.length+1<=aM by simp only[aM];omega),show w64 (((n+1:A):d)-1)=(n:d) by rw[al];omega];simp only[j6,aH];exact ź n _ a3 _ aa (by simp only[jf,kf];omega) d3
theorem Ż{L:j d}{a:d}(h:c9 L a):∃l a',j7P L a=H (l,L,a')/\l.length<=4/\c9 L a':=by
 obtain⟨x,a1,e1,_,_,d1⟩:=dh h (n:=3) aa aa;obtain⟨y,a2,e2,y0,y1,d2⟩:=dh d1 (n:=5) aa aa;obtain⟨m,rfl⟩:∃m:A,y=(m:d):=⟨y.toNat,aa⟩;obtain⟨a',l,e3,hl,d3⟩:=ź m x a2 [] aa ax d2;refine⟨l,a',?_,hl,d3⟩;simp only[j7P,e1,j4,e2,e3]
theorem jHT{m n:j bB}(hm:m.length<=1000){pe ps:j d}(ot:pe.length<=1000)(gW:ps.length<=1000){x c1:d}{k:d}{ll:j (j (j bB))}{L:j d}{a:d} :
  C2 pe x ll k [pe,ps] 0 m n L a=H (.inr (pe,x,ll,k,L,a)):=by
 have step:∀(i:A)(hi:i<2),j1r pe x ll k [pe,ps] (i:d) m n L a=H (.inl (pe,x,ll,k,[pe,ps],((i+1:A):d),m,n,L,a)):=by
  intro i hi
  have hq:∃q,([pe,ps].getD i ([]:j d))=q/\q.length<=1000:=by
   match i,hi with
   |0,_=>exact⟨pe,rfl,ot⟩
   |1,_=>exact⟨ps,rfl,gW⟩
  obtain⟨q,eq,hq⟩:=hq;obtain⟨r1,f1,g1⟩:=jDv hm (ps:=q);obtain⟨r2,f2,g2⟩:=jBU hm (Int.tmod x 7);obtain⟨r3,f3,g3⟩:=jyT hm hq;simp only[j1r];rw[ah (show (i:d)<2 by omega),bY (show (0:d)<=(i:d) by omega) (show (i:d)<((2:A):d) by omega)];simp only[j6,j8,eq,f1,g1,f2,g2,f3,g3,j4,kq,vb,jl,j7,jh];rw[al (x:=(i:d)+1)];rfl
 rw[PD,show j1r pe x ll k [pe,ps] 0 m n L a=_ from step 0 aa,aH];show C2 pe x ll k [pe,ps] ((0+1:A):d) m n L a=_;rw[PD,step 1 aa,aH];show C2 pe x ll k [pe,ps] ((1+1:A):d) m n L a=_;rw[PD];simp only[j1r];rw[aj (show¬((1+1:A):d)<2 by omega),j7,aS]
theorem jHU{raw m n:j bB}(hr:raw.length<=50)(hm:m.length<=4)(hn:n.length<=4){pe:j d}(ot:pe.length<=60){x:d}{L:j d}{a:d}(h:c9 L a) :
  AZ pe x [[m,n],[raw,m],[m,raw]] 0 L a=H (.inr ()):=by
 have step:∀(i:A)(hi:i<3)(a:d),c9 L a->∃a',c9 L a'/\j1s pe x [[m,n],[raw,m],[m,raw]] (i:d) L a=H (.inl (pe,x,[[m,n],[raw,m],[m,raw]],((i+1:A):d),L,a')):=by
  intro i hi a h
  have hq:∃u v:j bB,([[m,n],[raw,m],[m,raw]].getD i (List.replicate 2 ([]:j bB)))=[u,v]/\u.length<=1000/\v.length<=1000:=by
   match i,hi with
   |0,_=>exact⟨m,n,rfl,aa,aa⟩
   |1,_=>exact⟨raw,m,rfl,aa,aa⟩
   |2,_=>exact⟨m,raw,rfl,aa,aa⟩
  obtain⟨u,v,eq,hu,hv⟩:=hq;obtain⟨r1,f1,g1,l1⟩:=jDx hu hv;obtain⟨r2,f2,g2,_⟩:=Ş hu;obtain⟨y,a',e1,_,_,d1⟩:=dh h (n:=5) aa aa;refine⟨a',d1,?_⟩;simp only[j1s];rw[ah (show (i:d)<3 by omega),bY (show (0:d)<=(i:d) by omega) (show (i:d)<((3:A):d) by omega)];simp only[j6,j8,eq,List.getD_cons_zero,List.getD_cons_succ,f1,g1,f2,g2,j4,į l1,kq,vb,jl,j7,jh,e1];rw[jHT hu aa ae (c1:=0)];simp only[j4,sumC];rw[al (x:=(i:d)+1)];rfl
 obtain⟨a1,d1,e1⟩:=step 0 aa a h;obtain⟨a2,d2,e2⟩:=step 1 aa a1 d1;obtain⟨a3,d3,e3⟩:=step 2 aa a2 d2;rw[KD,show j1s pe x [[m,n],[raw,m],[m,raw]] 0 L a=_ from e1,aH];show AZ pe x [[m,n],[raw,m],[m,raw]] ((0+1:A):d) L a1=_;rw[KD,e2,aH];show AZ pe x [[m,n],[raw,m],[m,raw]] ((1+1:A):d) L a2=_;rw[KD,e3,aH];show AZ pe x [[m,n],[raw,m],[m,raw]] ((2+1:A):d) L a3=_;rw[KD];simp only[j1s];rw[aj (show¬((2+1:A):d)<3 by omega),j7,aS]
theorem jyU{zs:j bF}{ps:j cR}{cs:j aV}(hs:db zs ps cs){ss:j cW}(hc:oe (zs,(ps,(cs,ss)))){i:A}(hi:i<ss.length)(fw:ss[i].2.1.length<=3)(fE:ss[i].2.2.length<=6){a:d}{N:A}(ha:0<=a)(hb:a+N<=8589934592)
  (hN0:0<N)(hN:N<=1209600)(z:d){ws:iR}(Ib:ws.length<=100) :
  ∃r,jaO (zs,(ps,(cs,ss))) (i:d) a (a+N) z ws=H r/\jdu (zs,(ps,(cs,ss))) (i:d) a (a+N) z ws=H r/\r.1.length<=1000:=by
 obtain⟨S,eS,hS,lS⟩:=jDj hs hc hi fw fE ha (show a<a+N by omega) hb aa;have e14:=jBQ hs hc hi ha (show a<=a+N by omega) hb aa hS lS;simp only[jaO,jdu];rw[show j3r (zs,(ps,(cs,ss))) (i:d) a (a+N)=_ from eS,show j6i (zs,(ps,(cs,ss))) (i:d) a (a+N)=_ from e14];simp only[j4,jh,j7,show D zs.length=(zs.length:d) from rfl];by_cases my:z<0
 .rw[ah my];exact⟨_,rfl,rfl,ae⟩
 by_cases pY:z>=(zs.length:d)
 .rw[aj my,ah pY];exact⟨_,rfl,rfl,ae⟩
 rw[aj my,aj pY];obtain⟨c,c1,c2,c3⟩:=ŭ Ib;simp only[j7,c1,c2,j4];by_cases h0:c=0
 case neg=>rw[show (c != 0)=true from bne_iff_ne.2 h0];exact⟨_,rfl,rfl,ae⟩
 have hw:=c3 h0;subst h0;obtain⟨z,rfl⟩:∃n:A,z=(n:d):=⟨z.toNat,aa⟩;have hz:z<zs.length:=aa;have hk:=hc.sc _ (jg hi);have pY:=hs.so.z1;have ub:=hs.so.p1;have iG:=hw.l
 have ez:∀x∈S,x.2.2<(ps.length:d):=λx hx=>by
  obtain⟨h1,h2,h3,h4⟩:=hS.ch.mem x hx;have bK:=hS.pos x hx;rw[<-h4 x.1 (k7 _) bK];exact jG1 hs hk aa aa
 have tT:=hs.so.ok zs[z] (jg hz);have aR:zs.getD z (ByteArray.empty,((0:d),([]:j aL)))=zs[z]:=by simp[U,hz]
 have hO:=n_ tT.ztab;have BB:(tb zs[z]).2.length<=20:=ν tT;have zL:=λp=>(hS.ch.tot_le (p:=p))
 obtain⟨m,e1,hm⟩:=Uv (np:=ps.length) hb aa (λx hx=>hS.pos x hx) (a1:=a) (a2:=a+N) (ws:=ws) (o:=(tb zs[z]).1) (tl:=(tb zs[z]).2) ez S.length 0 [] a aa ha hS.ch
  ⟨⟨ae,ae⟩,vc,λp _ _=>by simp[ej,dN],λp _ _ h=>by simp[ej]at h⟩ (λp _=>ha)
 obtain⟨m2,e2,ik⟩:=ĺ ha hb hN hS lS tT.ztab.2 BB (ws:=ws) (λy hy=>ļ (k7 0) hw.w y.1 (jr.2 ⟨y,hy,rfl⟩)) hw.g aa ws.length 0 m (λp=>dN p S) aa hm (λp=>by have:=zL p;omega);rw[jm]at ik;have hL:=juj ik aa aa;have dQ:∀y∈ws,eN 0 [y.1]:=λy hy=>ļ (k7 0) hw.w y.1 (jr.2 ⟨y,hy,rfl⟩)
 have hT:∀y∈ws,∃W,j5d zs[z] [y.1] a (a+N)=H (W,0)/\W.length<=210/\(∀u∈W,a<=u.1/\u.2<=a+N)/\ca (a-1) W/\∀x,a<=x->x<a+N->hasB x W=iQ zs[z].2.1 (tb zs[z]).2 [y.1] x:=λy hy=>by
  obtain⟨W,f1,f2,f3,f4,f5⟩:=UC tT (dQ y hy) ae ha (show a<=a+N by omega) hb aa;obtain⟨W',g1,_,_,_,g4⟩:=HN tT.ztab.2 BB (dQ y hy) ae (M:=60) aa ha (show a<=a+N by omega) hb aa;have e:j2j (tb zs[z]) [y.1] a (a+N)=H W':=g1;rw[f1]at e;cases e;refine⟨W,f2,f5,f4,f3,λx x1 x2=>?_⟩;obtain⟨k,hk,k1,k2⟩:=pX tT.ztab.2 (t:=x) aa aa;rw[Ut tT.ztab.2 hk k1 k2,ya,Bu];exact g4 k hk x x1 x2 k1 k2
 let Wt:(d×d)×d->SL:=λy=>match j5d zs[z] [y.1] a (a+N) with
  |some (W,_)=>W
  |none=>[]
 have ż:∀y∈ws,j5d zs[z] [y.1] a (a+N)=H (Wt y,0)/\(Wt y).length<=210/\(∀u∈Wt y,a<=u.1/\u.2<=a+N)/\ca (a-1) (Wt y)/\∀x,a<=x->x<a+N->hasB x (Wt y)=iQ zs[z].2.1 (tb zs[z]).2 [y.1] x:=λy hy=>by
  obtain⟨W,f1,f2⟩:=hT y hy;have:Wt y=W:=by show (match j5d zs[z] [y.1] a (a+N) with|some (W,_)=>W|none=>[])=W;rw[f1]
  rw[this];exact⟨f1,f2⟩
 have Ž:∀s∈S,L3 ps.length s:=λs dt=>by
  obtain⟨h1,h2,h3,h4⟩:=hS.ch.mem s dt;have:=hS.pos s dt;exact⟨ez s dt,aa,aa,aa,aa⟩
 have hO0:pz ps.length []:=⟨List.Pairwise.nil,ae⟩;obtain⟨p1,p2,p3⟩:=UR (np:=ps.length) aa aa Ž (a:=a) (b:=a+N) (z:=(z:d)) (ws:=ws) (zs:=zs) (ps:=ps) (cs:=cs) (ss:=ss) S.length 0 [] 0 aa hO0 aa aa ae
 have p4:=ŷ (np:=ps.length) aa aa Ž (a:=a) (b:=a+N) hw.l hw.g (Wt:=Wt) hz (λy hy=>by
  obtain⟨q1,q2,q3,q4,_⟩:=ż y hy;refine⟨q1,aa,λu hu=>?_⟩;have:=q3 u hu;have:=Ĳ q4 u hu;exact⟨aa,aa,aa,aa⟩) (ps:=ps) (cs:=cs) (ss:=ss) ws.length 0 _ (0+8467200*(S.length:d)) aa p2 aa aa p3
 rw[jm]at p1 p4
 rw[jm,<-UQ,jC6 hS.ch (λx hx=>hS.pos x hx) ez (o:=zs[z].2.1) (tl:=(tb zs[z]).2) (λy hy=>by
  obtain⟨q1,q2,q3,q4,q5⟩:=ż y hy;exact⟨⟨_,q4.ino⟩,q5⟩)]at p4
 refine⟨(rm ps.length (λp=>dN p S) (λp=>dN p S+jE (gy zs cs ss[i]) zs[z].2.1 (tb zs[z]).2 a N p ws),0),?_,?_,?_⟩
 .simp only[jh,j7];rw[bY (show (0:d)<=(z:d) by omega) (show (z:d)<(zs.length:d) by omega)];simp only[j6,j8,aR];rw[show jjH (zs[z].1,(zs[z].2.1,zs[z].2.2))=_ from hO];simp only[j4];rw[show Gj a (a+N) ws (D S.length) 0 zs[z].2.1 (tb zs[z]).2 S []=_ from e1];simp only[j4];rw[show Gk a (a+N) ws (D ws.length) 0 (tb zs[z]).1 (tb zs[z]).2 S m=_ from e2];simp only[j4,hL]
 .simp only[jh,j7];rw[show GJ a (a+N) (z:d) ws 0 zs ps cs ss S []=_ from p1];simp only[j4];rw[show GK a (a+N) (z:d) ws 0 zs ps cs ss S (eE [] (gh S))=_ from p4];rfl
 .have h1:=jBB ps.length (λp=>dN p S) (λp=>dN p S+jE (gy zs cs ss[i]) zs[z].2.1 (tb zs[z]).2 a N p ws);have h2:ps.length<=1000:=aa;exact kr h1 h2
def UU(zs:j bF)(ps:j cR)(cs:j aV)(ss:j cW)(t:d):Prop:=∀(s z:d)(ws:iR),0<=s->s<2->ws.length<=100->
 ∃r,jaO (zs,(ps,(cs,ss))) s t (t+604800) z ws=H r/\jdu (zs,(ps,(cs,ss))) s t (t+604800) z ws=H r/\r.1.length<=1000
theorem jHV{zs:j bF}{ps:j cR}{cs:j aV}{ss:j cW}{t:d}(ht:0<=t/\t<=8000000000)(hL:UU zs ps cs ss t){raw:j bB}{pe:j d}{x zo:d}{ws:iR}(Ib:ws.length<=100){W:j iR}{k:d}{z1 z2:d}{L:j d}{a:d}(h:c9 L a) :
  ∃a',c9 L a'/\C1 raw pe x zo t ws W k [z1,z2] 0 zs ps cs ss L a=H (.inr (raw,pe,x,zo,t,W,k,zs,ps,cs,ss,L,a')):=by
 have ew:w64 (t+604800)=t+604800:=al;have step:∀(i:A)(hi:i<2)(a:d),c9 L a->∃a',c9 L a'/\j1p raw pe x zo t ws W k [z1,z2] (i:d) zs ps cs ss L a=H (.inl (raw,pe,x,zo,t,ws,W,k,[z1,z2],((i+1:A):d),zs,ps,cs,ss,L,a')):=by intro i hi a h;obtain⟨s,a',e1,s0,s1,d1⟩:=dh h (n:=2) aa aa;obtain⟨r,f1,g1,hr⟩:=hL s ([z1,z2].getD i 0) ws s0 s1 Ib;refine⟨a',d1,?_⟩;simp only[j1p];rw[ah (show (i:d)<2 by omega),bY (show (0:d)<=(i:d) by omega) (show (i:d)<((2:A):d) by omega)];simp only[j6,j8,e1,j4,ew,f1,g1,į hr,jl,j7,jh];rw[al (x:=(i:d)+1)];rfl
 obtain⟨a1,d1,e1⟩:=step 0 aa a h;obtain⟨a2,d2,e2⟩:=step 1 aa a1 d1;refine⟨a2,d2,?_⟩;rw[PC,show j1p raw pe x zo t ws W k [z1,z2] 0 zs ps cs ss L a=_ from e1,aH];show C1 raw pe x zo t ws W k [z1,z2] ((0+1:A):d) zs ps cs ss L a1=_;rw[PC,e2,aH];show C1 raw pe x zo t ws W k [z1,z2] ((1+1:A):d) zs ps cs ss L a2=_;rw[PC];simp only[j1p];rw[aj (show¬((1+1:A):d)<2 by omega),j7,aS]
theorem jHW{zs:j bF}{ps:j cR}{cs:j aV}{ss:j cW}{t:d}(ht:0<=t/\t<=8000000000)(hL:UU zs ps cs ss t){raw:j bB}{pe:j d}{x zo:d}{w1 w2 w3:iR}(h1:w1.length<=100)(h2:w2.length<=100)(h3:w3.length<=100){L:j d}{a:d}(h:c9 L a) :
  ∃a',c9 L a'/\AY raw pe x zo t [w1,w2,w3] 0 zs ps cs ss L a=H (.inr (raw,pe,x,L,a')):=by
 have step:∀(i:A)(hi:i<3)(a:d),c9 L a->∃a',c9 L a'/\j1q raw pe x zo t [w1,w2,w3] (i:d) zs ps cs ss L a=H (.inl (raw,pe,x,zo,t,[w1,w2,w3],((i+1:A):d),zs,ps,cs,ss,L,a')):=by
  intro i hi a h
  have hq:∃q,([w1,w2,w3].getD i ([]:iR))=q/\q.length<=100:=by
   match i,hi with
   |0,_=>exact⟨w1,rfl,h1⟩
   |1,_=>exact⟨w2,rfl,h2⟩
   |2,_=>exact⟨w3,rfl,h3⟩
  obtain⟨q,eq,hq⟩:=hq;obtain⟨c,c1,c2,_⟩:=ŭ hq;obtain⟨y,a1,e1,_,_,d1⟩:=dh h (n:=3) aa aa;obtain⟨a',d2,e2⟩:=jHV ht hL (raw:=raw) (pe:=pe) (x:=x) (zo:=zo) hq (W:=[w1,w2,w3]) (k:=(i:d)) (z1:=y) (z2:=zo) d1;refine⟨a',d2,?_⟩;simp only[j1q];rw[ah (show (i:d)<3 by omega),bY (show (0:d)<=(i:d) by omega) (show (i:d)<((3:A):d) by omega)];simp only[j6,j8,eq,c1,c2,j4,jh,j7,e1,e2,sumC];rw[al (x:=(i:d)+1)];rfl
 obtain⟨a1,d1,e1⟩:=step 0 aa a h;obtain⟨a2,d2,e2⟩:=step 1 aa a1 d1;obtain⟨a3,d3,e3⟩:=step 2 aa a2 d2;refine⟨a3,d3,?_⟩;rw[KC,show j1q raw pe x zo t [w1,w2,w3] 0 zs ps cs ss L a=_ from e1,aH];show AY raw pe x zo t [w1,w2,w3] ((0+1:A):d) zs ps cs ss L a1=_;rw[KC,e2,aH];show AY raw pe x zo t [w1,w2,w3] ((1+1:A):d) zs ps cs ss L a2=_;rw[KC,e3,aH];show AY raw pe x zo t [w1,w2,w3] ((2+1:A):d) zs ps cs ss L a3=_;rw[KC];simp only[j1q];rw[aj (show¬((2+1:A):d)<3 by omega),j7,aS]
theorem jC7{zs:j bF}{ps:j cR}{cs:j aV}(hs:db zs ps cs){ss:j cW}(hc:oe (zs,(ps,(cs,ss)))){i:d}(hi:(ss.length:d)<=i){a b:d}(z:d){ws:iR} :
  jaO (zs,(ps,(cs,ss))) i a b z ws=H ([],3)/\jdu (zs,(ps,(cs,ss))) i a b z ws=H ([],3):=by
 have eO:=ω hs.so.ok hc;have eI:jaJ (zs,(ps,(cs,ss))) i=H false:=by simp only[jaJ,show D ss.length=(ss.length:d) from rfl];rw[aj (show¬i<(ss.length:d) by omega)];cases I (i>=0)<;>rfl
 have e1:j3r (zs,(ps,(cs,ss))) i a b=H ([],3):=by simp only[j3r,jaK];rw[show jo9 (zs,(ps,(cs,ss)))=_ from eO];simp only[j4,jl,j7];rw[show jaJ (zs,(ps,(cs,ss))) i=_ from eI];rfl
 have e8:=Ϻ hc (ā hs);have e2:j6i (zs,(ps,(cs,ss))) i a b=H ([],3):=by simp only[j6i,jhO,show jfx (zs,(ps,(cs,ss)))=_ from e8,j4,jh,j7,show D ss.length=(ss.length:d) from rfl];rw[ah (show i>=(ss.length:d) from hi)];cases I (i<0)<;>rfl
 constructor
 .simp only[jaO];rw[show j3r (zs,(ps,(cs,ss))) i a b=_ from e1];rfl
 .simp only[jdu];rw[show j6i (zs,(ps,(cs,ss))) i a b=_ from e2];rfl
theorem jDB{zs:j bF}{ps:j cR}{cs:j aV}(hs:db zs ps cs){ss:j cW}(hc:oe (zs,(ps,(cs,ss))))(fw:∀s∈ss,s.2.1.length<=3)(fE:∀s∈ss,s.2.2.length<=6){t:d}(h0:0<=t)(h1:t<=8000000000):UU zs ps cs ss t:=by
 intro s z ws s0 s1 Ib;by_cases hi:s<(ss.length:d)
 .obtain⟨i,rfl⟩:∃i:A,s=(i:d):=⟨s.toNat,aa⟩;have an:i<ss.length:=aa;exact jyU hs hc an (fw _ (jg an)) (fE _ (jg an)) (N:=604800) h0 aa aa aa z Ib
 .obtain⟨e1,e2⟩:=jC7 hs hc (i:=s) aa (a:=t) (b:=t+604800) z (ws:=ws);exact⟨_,e1,e2,ae⟩
theorem jpy(t:j d)(_h:Wf (.list (.int .i64)) t)(raw:j bB)(_h1:Wf (.list (.pair (.int .i64) (.pair (.int .i64) (.int .i64)))) raw)(w:iR)(_h2:Wf (.list (.pair (.pair (.int .i64) (.int .i64)) (.int .i64))) w)(iM:j d)(_h3:Wf (.list (.int .i64)) iM)(x:d)(_h4:Wf (.int .i64) x)(Bl:d)(_h5:Wf (.int .i64) Bl):jdz t raw w iM x Bl=H true:=by
 simp only[jdz,jlQ,j4,show D (E t)=(t.length:d) from rfl,show D (E raw)=(raw.length:d) from rfl,show D (E w)=(w.length:d) from rfl,show D (E iM)=(iM.length:d) from rfl];by_cases hl:(t.length:d)<=500
 case neg=>rw[aj hl];simp[Hs]
 rw[ah hl];by_cases hr:(raw.length:d)>50
 .rw[ah hr];simp[Hs]
 by_cases hw:(w.length:d)>30
 .rw[ah hw];simp[Hs]
 by_cases hp:(iM.length:d)>60
 .rw[ah hp];simp[Hs]
 rw[aj hr,aj hw,aj hp];simp only[jl,j7,jo7,j4];obtain⟨zs,ps,cs,ss,a1,e1,hs,g0,g1,g2,g3,d1⟩:=jyF (L:=t) (a:=0) (n:=2) ⟨aa,aa,aa⟩ aa aa;have hc:oe (zs,(ps,(cs,ss))):=jFI hs (ss:=ss) aa (by rw[g2];exact jFH.take _) (λs h=>(g3 s h).ck);obtain⟨g,a2,e2,hg,d2⟩:=jyP d1;obtain⟨f,a3,e3,f0,f1,d3⟩:=y_ d2;obtain⟨u,a4,e4,_,d4⟩:=mR d3 (xs:=[(0:d),(600000:d)]) ae ae;obtain⟨v,a5,e5,_,d5⟩:=mR d4 (xs:=[(0:d),(1:d),(8:d),(9:d)]) ae ae;have sH:=hg.l;have hL:=jDB hs hc (λs dt=>(g3 s dt).ll) (λs dt=>kr (g3 s dt).el aa) (t:=f) aa aa;obtain⟨a6,d6,e6⟩:=jHW (t:=f) aa hL (raw:=raw) (pe:=iM) (x:=x) (zo:=Bl) (w1:=g) (w2:=g++[((u,(604800:d)),v)]) (w3:=w) aa (by simp only[jf,kf];omega) aa d5;obtain⟨m,a7,e7,hm,d7⟩:=Ż d6;obtain⟨n,a8,e8,hn,d8⟩:=Ż d7;have e9:=jHU (raw:=raw) (m:=m) (n:=n) aa hm hn (pe:=iM) aa (x:=x) d8;have s1:E ([]:iR)+E g<=aM:=by simp only[kx,aM];omega
 have s2:E g+E [((u,(604800:d)),v)]<=aM:=by simp only[kf,aM];omega
 simp only[e1,e2,e3,e4,e5,j4,jw];rw[ah s1,ah s2];simp only[j6,e6,j4,sumC,e7,e8,e9,Hs]
end Go.Proofs.Pw
