/- Facts. -/
import Derived.Test.YtmccfdihkphfaaaGreatCEPL
import Derived.Test.YtmccfdihkphfaaaGreatCEPK
import Derived.Test.YtmccfdihkphfaaaGreatCEPJ
import Derived.Test.YtmccfdihkphfaaaGreatCEPA
import Derived.Test.YtmccfdihkphfaaaGreatCELD
open _root_ renaming Int->u,List->H,Nat->U
open List renaming drop_eq_getElem_cons->D,getD->I,drop_of_length_le->J,replicate->W,length_append->X,length->Ã
open Option renaming some->E,none->Á
open Int renaming ofNat->G
open ByteArray renaming empty->N
open List.Pairwise renaming nil->Y
open Decidable renaming decide->Z
open Go Go.Lft
namespace Go.Proofs.Pw
section
variable{f g:u->u}{a b:u}{A B:bM}(hA:dG f b Á a A)(hB:dG g b Á a B)
include hA hB
theorem jI2{i k:u}(hlA:A.length<=500000)(hlB:B.length<=500000):∀(n x y:U)(c:u)(acc:bK),(A.length-x)+(B.length-y)<=n->x<=A.length->y<=B.length->
  (∀(hx:x<A.length)(hy:y<B.length),c=max A[x].1 B[y].1/\A[x].1<=B[y].2.1/\B[y].1<=A[x].2.1)->((x=A.length\/y=B.length)->c=b)->a<=c->mn f g a b i k c acc->acc.length+n<=1000000->
  ∃out,AX i k A B (x:u) (y:u) acc=E out/\mn f g a b i k b out/\out.length<=acc.length+n:=by
 intro n;induction n with
 |zero=>intro x y c acc hn hx hy _ h2 _ hI hl;rw[Qo];simp(disch:=omega)only[j62,S0];have:=h2 aa;subst this;exact⟨acc,rfl,hI,aa⟩
 |succ n ih=>
  intro x y c acc hn hx hy h1 h2 Hx hI hl;rw[Qo];simp only[j62,show G A.length=(A.length:u) from rfl,show G B.length=(B.length:u) from rfl];by_cases pG:x<A.length
  .rw[ai (show (x:u)<(A.length:u) by omega)];by_cases nL:y<B.length
   .obtain⟨c1,c2,c3⟩:=h1 pG nL;have ga:A.getD x ((0:u),((0:u),(0:u)))=A[x]:=by simp[I,pG]
    have gb:B.getD y ((0:u),((0:u),(0:u)))=B[y]:=by simp[I,nL]
    have pA:=hA.pos _ (jd pG);have pB:=hB.pos _ (jd nL);rw[ai (show (y:u)<(B.length:u) by omega),bL (show (0:u)<=(x:u) by omega) aa,bL (show (0:u)<=(y:u) by omega) aa];simp only[j6,j8,ga,gb];obtain⟨d,hd⟩:∃d,d=min A[x].2.1 B[y].2.1:=⟨_,rfl⟩;have e1:(if B[y].1>A[x].1 then B[y].1 else A[x].1)=c:=by split<;>omega
    have e2:(if B[y].2.1<A[x].2.1 then B[y].2.1 else A[x].2.1)=d:=by split<;>omega
    rw[e1,e2];obtain⟨s1,s2,VS⟩:=jDC hA hB (i:=i) (k:=k) pG nL c1 hd c2 c3 Hx hI
    have LD:∀bd:bK,A[x].2.1<=B[y].2.1->mn f g a b i k d bd->bd.length<=acc.length+1->∃out,AX i k A B ((x:u)+1) (y:u) bd=E out/\mn f g a b i k b out/\out.length<=acc.length+(n+1):=λbd ao mK lu=>by
     have:=ih (x+1) y d bd aa aa hy (λiV oh=>by
      rcases hA.ch.nxt x pG with⟨h',e⟩|⟨e,_⟩
      .have pA':=hA.pos _ (jd iV);exact⟨aa,aa,aa⟩
      .omega) (λh=>by
      rcases hA.ch.nxt x pG with⟨h',e⟩|⟨_,e⟩
      .omega
      .omega) aa mK aa
     obtain⟨out,r1,r2,r3⟩:=this;exact⟨out,r1,r2,aa⟩
    have LF:∀bd:bK,¬A[x].2.1<=B[y].2.1->mn f g a b i k d bd->bd.length<=acc.length+1->∃out,AX i k A B (x:u) ((y:u)+1) bd=E out/\mn f g a b i k b out/\out.length<=acc.length+(n+1):=λbd ao mK lu=>by
     have:=ih x (y+1) d bd aa hx aa (λiV oh=>by
      rcases hB.ch.nxt y nL with⟨h',e⟩|⟨e,_⟩
      .have pB':=hB.pos _ (jd oh);exact⟨aa,aa,aa⟩
      .omega) (λh=>by
      rcases hB.ch.nxt y nL with⟨h',e⟩|⟨_,e⟩
      .omega
      .omega) aa mK aa
     obtain⟨out,r1,r2,r3⟩:=this;exact⟨out,r1,r2,aa⟩
    rw[aQ (x:=(x:u)+1),aQ (x:=(y:u)+1)]
    have step:∀bd:bK,mn f g a b i k d bd->bd.length<=acc.length+1->∃out,lpK (cond (Z (A[x].2.1<=B[y].2.1)) (E (Sum.inl (i,k,A,B,(x:u)+1,(y:u),bd))) (E (Sum.inl (i,k,A,B,(x:u),(y:u)+1,bd)))) (λh=>AX h.1 h.2.1 h.2.2.1 h.2.2.2.1 h.2.2.2.2.1 h.2.2.2.2.2.1 h.2.2.2.2.2.2)=E out/\mn f g a b i k b out/\out.length<=acc.length+(n+1):=λbd mK lu=>by
     by_cases ao:A[x].2.1<=B[y].2.1
     .rw[ai ao,j6,bg];exact LD bd ao mK lu
     .rw[aC ao,j7,bg];exact LF bd ao mK lu
    by_cases q1:c<d
    .rw[ai q1,j6];by_cases q2:A[x].2.2=B[y].2.2
     .rw[dR q2,j6];by_cases q3:0<=A[x].2.2
      .simp(disch:=omega)only[S0];exact step _ (s1 ⟨q3,q2,q1⟩) ae
      .simp(disch:=omega)only[S0];exact step acc (s2 λh=>q3 h.1) aa
     .rw[cU q2,j7];exact step acc (s2 λh=>q2 h.2.1) aa
    .rw[aC q1,j7];exact step acc (s2 λh=>q1 h.2.2) aa
   .simp(disch:=omega)only[S0];have:=h2 aa;subst this;exact⟨acc,rfl,hI,aa⟩
  .simp(disch:=omega)only[S0];have:=h2 aa;subst this;exact⟨acc,rfl,hI,aa⟩
theorem jDF{i k:u}(bH:a<=b)(hl:A.length+B.length<=500000):∃out,jmp i k A B=E out/\mn f g a b i k b out/\out.length<=A.length+B.length:=by
 by_cases e0:a=b
 .subst e0;obtain rfl:=hA.emp;obtain rfl:=hB.emp;refine⟨[],?_,⟨ae,Y,λt h1 h2=>aa⟩,ae⟩;simp only[jmp];rw[Qo];simp only[j62,js];rw[aC ae];rfl
 have bH:a<b:=aa;have nA:=kg.2 (hA.ne bH);have nB:=kg.2 (hB.ne bH)
 have fA:A[0].1=a:=by
  match A,hA,nA with
  |s::r,hA,_=>exact hA.1
 have fB:B[0].1=a:=by
  match B,hB,nB with
  |s::r,hB,_=>exact hB.1
 have pA:=hA.pos _ (jd nA);have pB:=hB.pos _ (jd nB);obtain⟨out,e,h1,h2⟩:=jI2 hA hB (i:=i) (k:=k) aa aa (A.length+B.length) 0 0 a [] aa aa aa (λ_ _=>⟨aa,aa,aa⟩) (λh=>aa) (jx _) ⟨ae,Y,λt h1 h2=>aa⟩ aj;refine⟨out,?_,h1,by simpa using h2⟩;simp only[jmp];rw[show AX i k A B 0 0 []=_ from e];rfl
end
section
variable{F:U->u->u}{a b:u}(bH:a<=b){K:U}(hK:K<=16384){Ss:H bM}(ur:Ss.length<=1000)(hS:∀j (h:j<Ss.length),dG (F j) b Á a Ss[j]/\Ss[j].length<=K)
include bH hK ur hS
theorem HA{i:U}:∀(n k:U)(L:bK),k+n=Ss.length->i<k->nw F Ss.length a b i k L->L.length+2*K*n<=1000000->
  ∃L',J3 (i:u) (k:u) Ss L=E ((i:u),Ss,L')/\nw F Ss.length a b i Ss.length L'/\L'.length<=L.length+2*K*n
 |0,k,L,hk,_,hI,_=>by
  rw[t_];simp(disch:=omega)only[j5M,S0];obtain rfl:k=Ss.length:=aa;exact⟨L,rfl,hI,aa⟩
 |n+1,k,L,hk,ln,hI,hl=>by
  have hmul:2*K*(n+1)=2*K*n+2*K:=Nat.mul_succ _ _;have bC:k<Ss.length:=aa;have bG:i<Ss.length:=aa;have gi:Ss.getD i ([]:bM)=Ss[i]:=by simp[I,bG]
  have gk:Ss.getD k ([]:bM)=Ss[k]:=by simp[I,bC]
  have si:=hS i bG;have sk:=hS k bC;obtain⟨O,e,hO,lO⟩:=jDF si.1 sk.1 (i:=(i:u)) (k:=(k:u)) bH aa;obtain⟨L',e',mK,l'⟩:=HA (i:=i) n (k+1) (L++O) aa aa (hI.add ln bC hO) (by rw[X];omega);rw[t_];simp(disch:=omega)only[j5M,e,S0];exact⟨L',e',mK,by rw[X]at l';omega⟩
theorem jJB:∀(n i:U)(L:bK),i+n=Ss.length->nw F Ss.length a b i (i+1) L->L.length+2*K*uw n<=900000->
  ∃L',J4 (i:u) Ss L=E L'/\nw F Ss.length a b Ss.length (Ss.length+1) L'/\L'.length<=L.length+2*K*uw n
 |0,i,L,hi,hI,_=>by
  rw[u_];simp(disch:=omega)only[j5N,S0];obtain rfl:i=Ss.length:=aa;exact⟨L,rfl,hI,aa⟩
 |n+1,i,L,hi,hI,hl=>by
  have hmul:2*K*uw (n+1)=2*K*uw n+2*K*n:=Nat.mul_add _ _ _;obtain⟨L1,e1,h1,l1⟩:=HA bH hK ur hS (i:=i) n (i+1) L aa aa hI aa;obtain⟨L2,e2,h2,l2⟩:=jJB n (i+1) L1 aa (h1.next (jh _)) aa;rw[u_];simp(disch:=omega)only[j5N,show J3 (i:u) ((i:u)+1) Ss L=_ from e1,S0];exact⟨L2,e2,h2,aa⟩
end
theorem jK7(x y:ie):jhf x y=E (iG x y):=by
 simp only[jhf,iG];cases (x.2.2.2.1 != y.2.2.2.1)<;>cases (x.2.1 != y.2.1)<;>rfl
theorem VU(rec:bK->Option bK){a b:bK}(ha:a.length<=100000000)(hb:b.length<=100000000):∀(n i j:U)(out:bK),i<=a.length->j<=b.length->n=(a.length-i)+(b.length-j)->out.length+n<=200000000->
  J1 rec a b (i:u) (j:u) out=E (mY n out (a.drop i) (b.drop j))
 |0,i,j,out,hi,hj,hn,_=>by
  rw[r_];simp(disch:=omega)only[j6q,S0];rfl
 |n+1,i,j,out,hi,hj,hn,ho=>by
  have uB:=λ(x:ie)(h:i<a.length)=>VU rec ha hb n (i+1) j (out++[x]) aa hj aa aj;have uC:=λ(x:ie)(h:j<b.length)=>VU rec ha hb n i (j+1) (out++[x]) hi aa aa aj;have pd:∀x:ie,Z (out.length+[x].length<=aK)=true:=λx=>ai (by simp[aK];omega);rw[r_];simp only[j6q,show G a.length=(a.length:u) from rfl,show G b.length=(b.length:u) from rfl]
  have ec:cond (Z ((i:u)<(a.length:u))) true (Z ((j:u)<(b.length:u)))=true:=by
   by_cases h:i<a.length
   .rw[ai aa];rfl
   .rw[aC aa,ai (show (j:u)<(b.length:u) by omega)];rfl
  rw[ec,j6];by_cases hja:j=b.length
  .have mS:i<a.length:=aa;have vM:a.getD i ((0:u),((0:u),((0:u),((0:u),(0:u)))))=a[i]:=by simp[I,mS]
   simp(disch:=omega)only[S0];have:=uB a[i] mS;rw[show ((i+1:U):u)=(i:u)+1 by omega]at this;refine Eq.trans this ?_;rw[D mS,show b.drop j=[] from J aa];rfl
  .have pZ:j<b.length:=aa;have vZ:b.getD j ((0:u),((0:u),((0:u),((0:u),(0:u)))))=b[j]:=by simp[I,pZ]
   rw[cU (show (j:u)≠(b.length:u) by omega),j7];by_cases mS:i<a.length
   .have vM:a.getD i ((0:u),((0:u),((0:u),((0:u),(0:u)))))=a[i]:=by simp[I,mS]
    simp(disch:=omega)only[show jhf (b[j].1,(b[j].2.1,(b[j].2.2.1,(b[j].2.2.2.1,b[j].2.2.2.2)))) (a[i].1,(a[i].2.1,(a[i].2.2.1,(a[i].2.2.2.1,a[i].2.2.2.2))))=_ from jK7 b[j] a[i],S0];cases hc:iG b[j] a[i]with
    |false=>simp only[jv,j6,bg];have:=uB a[i] mS;rw[show ((i+1:U):u)=(i:u)+1 by omega]at this;refine Eq.trans this ?_;rw[D mS,D pZ];show _=E (cond (!(iG b[j] a[i])) _ _);rw[hc];rfl
    |true=>simp only[jg,j7,bg];have:=uC b[j] pZ;rw[show ((j+1:U):u)=(j:u)+1 by omega]at this;refine Eq.trans this ?_;rw[D mS,D pZ];show _=E (cond (!(iG b[j] a[i])) _ _);rw[hc];rfl
   .simp(disch:=omega)only[S0];have:=uC b[j] pZ;rw[show ((j+1:U):u)=(j:u)+1 by omega]at this;refine Eq.trans this ?_;rw[D pZ,show a.drop i=[] from J aa];rfl
theorem LK:∀(n:U)(l:bK),l.length<=50000000->(iX j4i n l=Á/\n<=l.length)\/iX j4i n l=E (lU l.length l)
 |0,l,_=> .inl ⟨rfl,jy _⟩
 |n+1,l,hl=>by
  show (J2 (λv0=>iX j4i n v0) l=Á/\_)\/J2 (λv0=>iX j4i n v0) l=_;simp only[J2,show G l.length=(l.length:u) from rfl];by_cases h2:l.length<2
  .right;simp(disch:=omega)only[S0];cases hk:l.length with
   |zero=>rfl
   |succ k=>unfold lU;rw[if_pos h2]
  .rw[aC (show¬(l.length:u)<2 by omega),j7,uS aa,aQ (x:=(l.length:u)/2),show ((l.length:u)/2).toNat=l.length/2 by omega];simp(disch:=omega)only[S0];simp only[z8,j6,jj,List.take_length];have hA:(l.take (l.length/2)).length=l.length/2:=aj;have hB:(l.drop (l.length/2)).length=l.length-l.length/2:=ae;rcases LK n (l.take (l.length/2)) aa with⟨e1,k1⟩|e1
   .exact .inl ⟨by rw[e1];rfl,aa⟩
   .rw[e1,j4];rcases LK n (l.drop (l.length/2)) aa with⟨e2,k2⟩|e2
    .exact .inl ⟨by rw[e2];rfl,aa⟩
    .right;rw[e2,j4];have o1:=(DQ (l.take (l.length/2)).length (l.take (l.length/2)) aa).2.length_eq;have o2:=(DQ (l.drop (l.length/2)).length (l.drop (l.length/2)) aa).2.length_eq;generalize ň:lU (l.take (l.length/2)).length (l.take (l.length/2))=SA at *;generalize ŉ:lU (l.drop (l.length/2)).length (l.drop (l.length/2))=SB at *;have:=VU (λv0=>iX j4i n v0) (a:=SA) (b:=SB) aa aa (SA.length+SB.length) 0 0 [] aa aa aa aj;rw[show ((0:U):u)=0 from rfl,jj,jj]at this;rw[this,j4];obtain⟨k,hk⟩:∃k,l.length=k+1:=⟨l.length-1,aa⟩
     have e3:lU l.length l=mY l.length [] SA SB:=by
      conv=>lhs;rw[hk];unfold lU
      rw[if_neg h2,<-ň,<-ŉ,LI k (l.take (l.length/2)).length _ aa aa,LI k (l.drop (l.length/2)).length _ aa aa]
     rw[e3];rw[jz8 l.length [] SA SB aa]
theorem jxY{l:bK}(hl:l.length<=50000000):jny l=E (lU l.length l):=
 I4 ⟨l.length+1,(LK (l.length+1) l hl).resolve_left (λh=>by have:=h.2;omega)⟩ (λn y h=>by
  rcases LK n l hl with⟨e,_⟩|e
  .rw[e]at h;simp at h
  .rw[e]at h;exact(Option.some.inj h).symm)
theorem jJC{R:ie->ie->Prop}:∀{L:bK},L.Pairwise R->∀{x y},x∈L->y∈L->x≠y->R x y\/R y x
 |[],_,_,_,hx,_,_=>by simp at hx
 |z::r,h,x,y,hx,hy,e=>by
  obtain⟨h1,h2⟩:=List.pairwise_cons.1 h;rcases jb.1 hx with e1|iV
  .rcases jb.1 hy with e2|oh
   .exact absurd (e1.trans e2.symm) e
   .rw[e1];exact .inl (h1 _ oh)
  .rcases jb.1 hy with e2|oh
   .rw[e2];exact .inr (h1 _ iV)
   .exact jJC h2 iV oh e
theorem jI4{L M:bK}(hL:L.Pairwise λx y=>x.2.2.2.1=y.2.2.2.1->rF x y)(hM:M.Pairwise λx y=>x.2.2.2.1=y.2.2.2.1->rF x y)(h:∀z,z∈M↔z∈L):lU M.length M=cN aB L:=by
 have nd:∀{l:bK},(l.Pairwise λx y=>x.2.2.2.1=y.2.2.2.1->rF x y)->l.Nodup:=λh=>h.imp (λh e=>by
  subst e;have:=h rfl;unfold rF at this;omega)
 obtain⟨s1,s2⟩:=DQ M.length M aa;have hp:(lU M.length M).Perm (cN aB L):=s2.trans (((List.perm_ext_iff_of_nodup (nd hM) (nd hL)).2 h).trans (uu L).symm)
 have hk:(cN aB L).Pairwise lT:=(jDy hL).imp (λ{x y} h=>by
  rw[LG];unfold aB rF at *;omega)
 refine hp.eq_of_pairwise (le:=lT) (λx y hx hy h1 h2=>?_) s1 hk;have hx:x∈L:=(uu L).mem_iff.1 (hp.mem_iff.1 hx);have hy:y∈L:=(uu L).mem_iff.1 hy;rw[LG]at h1 h2;rcases Classical.em (x=y) with e|e
 .exact e
 .exfalso;have:=jJC hL hx hy e;unfold rF at *;omega
section
variable{zs:H bB}{ps:H cZ}{cs:H aY}{ss:H bW}
theorem jJD{a b:u}(ha:0<=a)(bH:a<=b)(hb:b<=8589934592)(hlen:b-a<=34560000):j6Y a b=E true/\jej a b=E true:=by
 have:j6Y a b=E true:=by simp only[j6Y];rw[ai (show a>=0 from ha),ai (show a<=8589934592 by omega),ai (show b>=a by omega),ai hb,aQ (x:=b-a),ai (show b-a<=34560000 by omega)];rfl
 exact⟨this,this⟩
theorem jK8(hv:CV (zs,(ps,(cs,ss))))(hc:CG (zs,(ps,(cs,ss)))){i:U}(hi:i<ss.length){a b:u}(ha:0<=a)(bH:a<=b)(hb:b<=8589934592)(hlen:b-a<=34560000) :
  ∃S,j2M ((zs,(ps,(cs,ss))),zs.map tb) ss[i] a b=E S/\dG (dN zs cs ss[i]) b Á a S/\j7d (zs,(ps,(cs,ss))) (i:u) a b=E (cond (Z ((S.length:u)>16384)) ([],5) (S,0)):=by
 have hs:=hc.sc _ (jd hi);have yQ:=hv.s _ (jd hi);have fI:=yQ.el;obtain⟨o,eo,o1,o2⟩:=Lv hc.g hs yQ.ll aa (ss:=ss) ha bH hb hlen;obtain⟨o',Lw,p1⟩:=VG hc.g hc hi ha bH hb hlen;have he:o'=o:=dG.uniq p1 o1;subst he;refine⟨o',eo,o1,?_⟩;simp(disch:=omega)only[j7d,jd7,hc.r8,(jJD ha bH hb hlen).1,Lw,S0];cases Z ((o'.length:u)>16384)<;>rfl
theorem jGi(hv:CV (zs,(ps,(cs,ss))))(hc:CG (zs,(ps,(cs,ss))))(hl:ss.length<=100){a b:u}(ha:0<=a)(bH:a<=b)(hb:b<=8589934592)(hlen:b-a<=34560000):∀(n i:U)(acc:H bM),i+n=ss.length->acc.length=i->
  (∀j (h:j<acc.length) (h':j<ss.length),dG (dN zs cs ss[j]) b Á a acc[j]/\acc[j].length<=16384)->
  (Dc a b ss (ss.length:u) (i:u) zs ps cs ss (zs.map tb) acc=E (.inl 5)/\Dh a b (i:u) zs ps cs ss acc=E (.inl 5))\/
  ∃Ss,Dc a b ss (ss.length:u) (i:u) zs ps cs ss (zs.map tb) acc=E (.inr Ss)/\Dh a b (i:u) zs ps cs ss acc=E (.inr Ss)/\Ss.length=ss.length/\
   ∀j (h:j<Ss.length) (h':j<ss.length),dG (dN zs cs ss[j]) b Á a Ss[j]/\Ss[j].length<=16384
 |0,i,acc,hi,hai,hg=>by
  rw[_M,s_];simp(disch:=omega)only[j3d,j5L,S0];exact .inr ⟨acc,rfl,rfl,aa,hg⟩
 |n+1,i,acc,hi,hai,hg=>by
  have bG:i<ss.length:=aa;have br:ss.getD i (N,(([]:H bt),([]:H ct)))=ss[i]:=by simp[I,bG]
  obtain⟨S,e,hS,e'⟩:=jK8 hv hc bG ha bH hb hlen;rw[_M,s_];simp only[j3d,j5L,show G ss.length=(ss.length:u) from rfl];rw[ai (show (i:u)<(ss.length:u) by omega),bL (show (0:u)<=(i:u) by omega) aa];simp only[j6,j8,br];rw[show j2M ((zs,(ps,(cs,ss))),zs.map tb) (ss[i].1,(ss[i].2.1,ss[i].2.2)) a b=_ from e,e'];simp only[j4,show G S.length=(S.length:u) from rfl];by_cases h4:(S.length:u)>16384
  .rw[ai h4];exact .inl ⟨rfl,rfl⟩
  .have h:=jGi hv hc hl ha bH hb hlen n (i+1) (acc++[S]) aa aj (λj h h'=>by
    simp only[X,kn]at h;by_cases hj:j<acc.length
    .rw[List.getElem_append_left hj];exact hg j hj h'
    .have:j=i:=aa;subst this;rw[List.getElem_append_right aa];simp only[hai,Nat.sub_self,List.getElem_cons_zero];exact⟨hS,aa⟩)
   simp(disch:=omega)only[S0];exact h
theorem jK9(hv:CV (zs,(ps,(cs,ss))))(hc:CG (zs,(ps,(cs,ss))))(hl:ss.length<=4){a b:u}(ha:0<=a)(bH:a<=b)(hb:b<=8589934592)(hlen:b-a<=34560000) :
  ∃L e,j4X (zs,(ps,(cs,ss))) a b=E (L,e)/\jam (zs,(ps,(cs,ss))) a b=E (L,e)/\L.length<=16384/\(e=5\/e=0/\∀z∈L,a<=z.2.2.2.1/\z.2.2.2.1<b):=by
 obtain⟨w1,Hq⟩:=jJD ha bH hb hlen;simp only[j4X,jam,hc.of,hc.r8,j4,jg,j7,je,w1,Hq,show G ss.length=(ss.length:u) from rfl];rcases jGi hv hc aa ha bH hb hlen ss.length 0 [] aa rfl (λj h=>by simp at h) with⟨g1,g2⟩|⟨Ss,g1,g2,h1,h2⟩
 .rw[show Dc a b ss (ss.length:u) 0 zs ps cs ss (zs.map tb) []=_ from g1,show Dh a b 0 zs ps cs ss []=_ from g2];exact⟨[],5,rfl,rfl,ae,.inl rfl⟩
 have hS:∀j (h:j<Ss.length),dG ((λj=>dN zs cs (ss.getD j (N,([],[])))) j) b Á a Ss[j]/\Ss[j].length<=16384:=λj h=>by
  have hj:j<ss.length:=aa;have br:ss.getD j (N,(([]:H bt),([]:H ct)))=ss[j]:=by simp[I,hj]
  dsimp only
  rw[br];exact h2 j h hj
 have VV:uw Ss.length<=6:=by have:Ss.length=0\/Ss.length=1\/Ss.length=2\/Ss.length=3\/Ss.length=4:=aa;rcases this with h|h|h|h|h<;>rw[h]<;>decide
 have hmul:2*16384*uw Ss.length<=2*16384*6:=vj _ VV;have h0:nw (λj=>dN zs cs (ss.getD j (N,([],[])))) Ss.length a b 0 (0+1) []:=⟨ae,Y,λi' k' h1 h2 h3=>aa⟩;obtain⟨L,p1,p2,p3⟩:=pl3 bH (jh 16384) aa hS Ss.length 0 [] aa h0 (by rw[js];omega);obtain⟨M,q1,q2,q3⟩:=jJB bH (jh 16384) aa hS Ss.length 0 [] aa h0 (by rw[js];omega);rw[js]at p3 q3;have hm:∀z,z∈M↔z∈L:=λz=>⟨q2.sub p2 z,p2.sub q2 z⟩;have CN:=jI4 p2.pw q2.pw hm;have HB:M.length=L.length:=by have:=jp Ã CN;rw[uZ,(DQ M.length M aa).2.length_eq]at this;exact this
 have iL:∀z∈L,a<=z.2.2.2.1/\z.2.2.2.1<b:=λz hz=>by
  obtain⟨i',k',g1,g2,g3,g4⟩:=p2.ok z hz;have:=g4.lo;have:=g4.lt;have:=g4.hi;omega
 have pd:jC L:=λz hz=>by
  have:=iL z hz;unfold aB;omega
 rw[show Dc a b ss (ss.length:u) 0 zs ps cs ss (zs.map tb) []=_ from g1,show Dh a b 0 zs ps cs ss []=_ from g2];simp only[j4,o8,show G Ss.length=(Ss.length:u) from rfl];rw[show JO (Ss.length:u) 0 Ss []=_ from p1,show J4 0 Ss []=_ from q1];simp only[j4,show G L.length=(L.length:u) from rfl,HB];by_cases h4:(L.length:u)>16384
 .rw[ai h4];exact⟨[],5,rfl,rfl,ae,.inl rfl⟩
 .rw[aC h4,j7,j7,show j0G L=_ from jAr pd aa,jxY aa,CN];exact⟨cN aB L,0,rfl,rfl,by rw[uZ];omega,.inr ⟨rfl,λz hz=>iL z ((uu L).mem_iff.1 hz)⟩⟩
theorem jKa(hv:CV (zs,(ps,(cs,ss))))(hl:ss.length<=4)(a b:u):∃L e,j4X (zs,(ps,(cs,ss))) a b=E (L,e)/\jam (zs,(ps,(cs,ss))) a b=E (L,e)/\L.length<=16384:=by
 obtain⟨e,e1,e2,e3,v,ok,eO,f1⟩:=VI hv;by_cases he:e=0
 case neg=>
  have hb:=f1 he;subst hb;refine⟨[],8,?_,?_,ae⟩
  .simp only[j4X,eO,j4];rfl
  .simp only[jam,e2,j4];rw[show (e != 0)=true by simpa using he];rfl
 subst he;have hc:=e3 rfl;obtain⟨w,w1,w2⟩:=jJl a b;have Hq:jej a b=E w:=w1;cases w with
 |false=>simp(disch:=omega)only[j4X,jam,hc.of,e2,w1,Hq,S0];exact⟨[],1,rfl,rfl,ae⟩
 |true=>obtain⟨ha,bH,hb,hlen⟩:=w2 rfl;obtain⟨L,e,h1,h2,h3,_⟩:=jK9 hv hc hl ha bH hb hlen;exact⟨L,e,h1,h2,h3⟩
end
theorem jGj{f:u->u}{b:u}{S:bM}(ur:S.length<=10000000)(hp:∀s∈S,s.1<s.2.1){s3 e:u}{zs:H bB}{ps:H cZ}{cs:H aY}{ss:H bW}{tbs:H (u×bm)}{nm:ByteArray}{ls:H bt}{es:H ct} :
  ∀(n i:U)(c:u),i+n=S.length->Ch f b c (S.drop i)->
  (∃x,C9 s3 e (S.length:u) (i:u) zs ps cs ss tbs nm ls es S=E (.inl (x,true))/\c<=x/\x<b/\f x<0/\∀t,c<=t->t<x->0<=f t)\/
  (C9 s3 e (S.length:u) (i:u) zs ps cs ss tbs nm ls es S=E (.inr (s3,e,zs,ps,cs,ss,tbs,nm,ls,es))/\∀t,c<=t->t<b->0<=f t)
 |0,i,c,hi,hc=>by
  refine .inr ⟨?_,λt t0 t1=>?_⟩
  .rw[_t];simp only[j5c];rw[aC aa,j7,bV]
  .rw[J aa]at hc;have hc:c=b:=hc;omega
 |n+1,i,c,hi,hc=>by
  have bG:i<S.length:=aa;have br:S.getD i ((0:u),((0:u),(0:u)))=S[i]:=by simp[I,bG]
  rw[D bG]at hc;obtain⟨h1,h2,h3,h4⟩:=hc;have CC:=hp _ (jd bG);rw[_t];simp only[j5c];rw[ai (show (i:u)<(S.length:u) by omega),cB];simp only[j6,j8,br];by_cases kH:S[i].2.2<0
  .refine .inl ⟨S[i].1,?_,aa,?_,?_,λt t0 t1=>aa⟩
   .rw[ai kH,j6,bV]
   .have:=h4.le;omega
   .rw[h3 _ aa CC];exact kH
  .rw[aC kH,j7,bg];dsimp only;rw[aQ (x:=(i:u)+1)];have ih:=jGj ur hp (s3:=s3) (e:=e) (zs:=zs) (ps:=ps) (cs:=cs) (ss:=ss) (tbs:=tbs) (nm:=nm) (ls:=ls) (es:=es) n (i+1) _ aa h4;rw[show ((i+1:U):u)=(i:u)+1 by omega]at ih;rcases ih with⟨x,e1,x0,x1,x2,x3⟩|⟨e1,x3⟩
   .refine .inl ⟨x,e1,aa,x1,x2,λt t0 t1=>?_⟩;by_cases ht:t<S[i].2.1
    .rw[h3 t t0 ht];omega
    .exact x3 t aa t1
   .refine .inr ⟨e1,λt t0 t1=>?_⟩;by_cases ht:t<S[i].2.1
    .rw[h3 t t0 ht];omega
    .exact x3 t aa t1
section
variable{zs:H bB}{ps:H cZ}{cs:H aY}(hs:kS zs ps cs)
include hs
theorem jGk{s:bW}(hk:SG zs ps cs s)(gw:s.2.1.length<=3)(fI:s.2.2.length<=6){ss:H bW}{b:u}(hb:b<=8589934592):∀(n:U)(a:u),0<=a->b<=a+4320000*n->
  (∃x,JI a b zs ps cs ss (zs.map tb) s.1 s.2.1 s.2.2=E (.inl (x,true))/\a<=x/\x<b/\dN zs cs s x<0/\∀t,a<=t->t<x->0<=dN zs cs s t)\/
  (JI a b zs ps cs ss (zs.map tb) s.1 s.2.1 s.2.2=E (.inr ())/\∀t,a<=t->t<b->0<=dN zs cs s t)
 |0,a,ha,hn=>by
  refine .inr ⟨?_,λt t0 t1=>aa⟩;rw[PA];simp only[j3J];rw[aC aa,j7,bV]
 |n+1,a,ha,hn=>by
  by_cases bH:a<b
  .obtain⟨m,hm⟩:∃m,m=if a+4320000<b then a+4320000 else b:=⟨_,rfl⟩
   have gg:a<m/\m<=b/\m-a<=4320000/\(m=b\/m=a+4320000):=by rw[hm];split<;>omega
   obtain⟨S,eS,hS,lS⟩:=Lv hs hk gw fI (ss:=ss) (a:=a) (b:=m) ha aa aa aa;have l2:=jGj (f:=dN zs cs s) (b:=m) lS hS.pos (s3:=b) (e:=m) (zs:=zs) (ps:=ps) (cs:=cs) (ss:=ss) (tbs:=zs.map tb) (nm:=s.1) (ls:=s.2.1) (es:=s.2.2) S.length 0 a aa (by rw[jj];exact hS.ch);rw[PA];simp only[j3J];rw[ai bH,j6,aQ (x:=a+4320000),<-hm,show j2M ((zs,(ps,(cs,ss))),zs.map tb) (s.1,(s.2.1,s.2.2)) a m=_ from eS];simp only[j4,show G S.length=(S.length:u) from rfl];rcases l2 with⟨x,e1,x0,x1,x2,x3⟩|⟨e1,x3⟩
   .refine .inl ⟨x,?_,x0,aa,x2,x3⟩;rw[show C9 b m (S.length:u) 0 zs ps cs ss (zs.map tb) s.1 s.2.1 s.2.2 S=_ from e1];simp only[j4,pX,bV]
   .have ih:=jGk hk gw fI (ss:=ss) hb n m aa (by rcases gg.2.2.2 with h|h<;>omega);rw[show C9 b m (S.length:u) 0 zs ps cs ss (zs.map tb) s.1 s.2.1 s.2.2 S=_ from e1];simp only[j4,o8,bg];rcases ih with⟨x,e2,y0,y1,y2,y3⟩|⟨e2,y3⟩
    .refine .inl ⟨x,e2,aa,y1,y2,λt t0 t1=>?_⟩;by_cases ht:t<m
     .exact x3 t t0 ht
     .exact y3 t aa t1
    .refine .inr ⟨e2,λt t0 t1=>?_⟩;by_cases ht:t<m
     .exact x3 t t0 ht
     .exact y3 t aa t1
  .refine .inr ⟨?_,λt t0 t1=>aa⟩;rw[PA];simp only[j3J];rw[aC bH,j7,bV]
theorem jI5{ss:H bW}{s:bW}(gN:SG zs ps cs s):j4V ((zs,(ps,(cs,ss))),zs.map tb) (s.1,(s.2.1,s.2.2))=E (sw zs cs s):=by
 have gw:=gN.ll;have fI:=gN.el;have l0:=Vs hs (es:=s.2.2) aa (nm:=s.1) (ls:=s.2.1) (ss:=ss) s.2.2.length 0 0 aa;have l7:=(Hn (t:=oz 0 s.2.2) s.2.2 0).1 (jx _);have l2:=Vt hs aa gN.ly (ss:=ss) s.2.1.length 0 (oz 0 s.2.2) aa l7.1;rw[jj]at l0 l2;simp only[j4V,show G s.2.2.length=(s.2.2.length:u) from rfl];rw[show F3 s.2.2 (s.2.2.length:u) 0 zs ps cs ss (zs.map tb) s.1 s.2.1 s.2.2 0=_ from l0];simp only[j4,show G s.2.1.length=(s.2.1.length:u) from rfl];rw[show F4 s.2.1 (s.2.1.length:u) 0 zs ps cs ss (zs.map tb) (oz 0 s.2.2)=_ from l2,jz1];rfl
end
def EA(x:ct):Prop:= -1<=x.2.1/\(x.1=2->0<=x.2.1/\0<=x.2.2.1)
theorem jKb{zs:H bB}{ps:H cZ}{cs:H aY}{ss:H bW}{x:ct}(h:j11 (zs,(ps,(cs,ss))) x=E 0):EA x:=by
 obtain⟨b1,p1⟩:∃b,j3I x.1 0 2=E b:=⟨_,rfl⟩;obtain⟨b2,p2⟩:∃b,j1a x.2.1 (ps.length:u)=E b:=⟨_,rfl⟩;obtain⟨b3,p3⟩:∃b,j1a x.2.2.1 (ps.length:u)=E b:=⟨_,rfl⟩;simp only[j11,show G ps.length=(ps.length:u) from rfl,p1,p2,p3,j4]at h;cases b1 with
 |false=>simp at h
 |true=>
 simp only[jg,j7]at h;cases b2 with
 |true=>
  obtain⟨a0,_⟩:=DE p2;simp only[jg,j7]at h;by_cases h2:x.1=2
  .rw[dR h2,j6]at h;cases b3 with
   |false=>simp at h
   |true=>exact⟨aa,λ_=>⟨a0,(DE p3).1⟩⟩
  .exact⟨aa,λh=>absurd h h2⟩
 |false=>
  simp only[jv,j6]at h;by_cases h1:x.1=1
  .rw[dR h1,j6]at h;by_cases ha:x.2.1 = -1
   .exact⟨aa,λh=>aa⟩
   .rw[cU ha]at h;simp at h
  .rw[cU h1]at h;simp at h
theorem jF8{t p:u}{x:ct}(h:EA x)(hp : -1<=p) : -1<=yP t p x:=by
 obtain⟨ha,hb⟩:=h;unfold yP;split
 .exact hp
 .split
  .omega
  .split
   .rename_i h1;have:=hb h1.1;omega
   .split
    .rename_i h1;have:=hb h1.1;omega
    .exact hp
theorem jz9{t:u}:∀(es:H ct)(p:u),(∀x∈es,EA x) -> -1<=p -> -1<=ml t p es
 |[],_,_,hp=>hp
 |x::r,p,h,hp=>by
  simp only[ml];exact jz9 r _ (λy hy=>h y (by simp[hy])) (jF8 (h x ae) hp)
section
variable{zs:H bB}{ps:H cZ}{cs:H aY}{ss:H bW}
theorem jKc(hv:CV (zs,(ps,(cs,ss))))(hc:CG (zs,(ps,(cs,ss)))):∀s∈ss,∀x∈s.2.2,EA x:=λs hs x hx=>by
 have h:=ŭ (λz hz=>(hv.z z hz).f) hv.w.ed hc.chk;exact jKb ((h.s s hs).ed x hx)
theorem jI6{s:bW}(hk:SG zs ps cs s)(he:∀x∈s.2.2,EA x){t:u}(h0:0<=t)(h1:t<=8589934592) : -1<=dN zs cs s t:=by
 unfold dN;refine jz9 _ _ he ?_;unfold fD;cases hT:dX (gM s.2.2 t (dH zs cs s.2.1 t)) s.2.1.length with
 |none=>exact jx _
 |some k=>
  have iN:=jDh hT;have e:dH zs cs s.2.1 t k=cE zs cs s.2.1[k] t:=by simp[dH,I,iN]
  dsimp only
  rw[e];exact(ĩ (hk.ly _ (jd iN)) h0 h1).2.1
theorem jGl{f:u->u}{b:u}{S:bM}(ur:S.length<=100000000)(hp:∀s∈S,s.1<s.2.1){i0 s10 e:u}:∀(n i:U)(c:u),i+n=S.length->Ch f b c (S.drop i)->
  (∃x,Di i0 s10 e (i:u) zs ps cs ss S=E (.inl (x,false,0))/\c<=x/\x<b/\f x = -1/\∀t,c<=t->t<x->f t ≠ -1)\/
  (Di i0 s10 e (i:u) zs ps cs ss S=E (.inr (i0,s10,e,zs,ps,cs,ss))/\∀t,c<=t->t<b->f t ≠ -1)
 |0,i,c,hi,hc=>by
  refine .inr ⟨?_,λt t0 t1=>?_⟩
  .rw[y_];simp only[j5P,show G S.length=(S.length:u) from rfl];rw[aC aa,j7,bV]
  .rw[J aa]at hc;have hc:c=b:=hc;omega
 |n+1,i,c,hi,hc=>by
  have ao:i<S.length:=aa;have br:S.getD i ((0:u),((0:u),(0:u)))=S[i]:=by simp[I,ao]
  have CC:=hp _ (jd ao);rw[D ao]at hc;obtain⟨c1,c2,c3,c4⟩:=hc;rw[y_];simp only[j5P,show G S.length=(S.length:u) from rfl];rw[ai (show (i:u)<(S.length:u) by omega),cB,aQ (x:=(i:u)+1)];simp only[j6,j8,br];have hle:=Ch.le c4;by_cases hq:S[i].2.2 = -1
  .rw[dR hq,j6,bV];refine .inl ⟨S[i].1,rfl,aa,aa,?_,λt t0 t1=>aa⟩;rw[<-hq];exact c3 _ aa CC
  .rw[cU hq,j7,bg];rcases jGl ur hp (i0:=i0) (s10:=s10) (e:=e) n (i+1) S[i].2.1 aa c4 with⟨x,e1,x0,x1,x2,x3⟩|⟨e1,x3⟩
   .refine .inl ⟨x,e1,aa,x1,x2,λt t0 t1=>?_⟩;by_cases ht:t<S[i].2.1
    .rw[c3 t aa ht];exact hq
    .exact x3 t aa t1
   .refine .inr ⟨e1,λt t0 t1=>?_⟩;by_cases ht:t<S[i].2.1
    .rw[c3 t aa ht];exact hq
    .exact x3 t aa t1
theorem jGm(hv:CV (zs,(ps,(cs,ss))))(hc:CG (zs,(ps,(cs,ss)))){i:U}(hi:i<ss.length){b:u}(hb:b<=8589934592):∀(n:U)(a:u),0<=a->b<=a+34560000*n->
  (∃x,J8 (i:u) a b zs ps cs ss=E (.inl (x,false,0))/\a<=x/\x<b/\dN zs cs ss[i] x = -1/\∀t,a<=t->t<x->dN zs cs ss[i] t ≠ -1)\/
  (J8 (i:u) a b zs ps cs ss=E (.inr ())/\∀t,a<=t->t<b->dN zs cs ss[i] t ≠ -1)
 |0,a,ha,hn=>by
  refine .inr ⟨?_,λt t0 t1=>aa⟩;rw[Qp];simp only[j47];rw[aC aa,j7,bV]
 |n+1,a,ha,hn=>by
  by_cases bH:a<b
  .obtain⟨m,hm⟩:∃m,m=if a+34560000<b then a+34560000 else b:=⟨_,rfl⟩
   have gg:a<m/\m<=b/\m-a<=34560000/\(m=b\/m=a+34560000):=by rw[hm];split<;>omega
   obtain⟨S,eS,hS⟩:=VG hc.g hc hi (a:=a) (b:=m) ha aa aa aa;have gN:=hc.sc _ (jd hi);obtain⟨S',_,tA,lS'⟩:=Lv hc.g gN (hv.s _ (jd hi)).ll (by have:=(hv.s _ (jd hi)).el;omega) (ss:=ss) (a:=a) (b:=m) ha aa aa aa;obtain rfl:S=S':=dG.uniq hS tA;have l2:=jGl (zs:=zs) (ps:=ps) (cs:=cs) (ss:=ss) (f:=dN zs cs ss[i]) (b:=m) aa hS.pos (i0:=(i:u)) (s10:=b) (e:=m) S.length 0 a aa (by rw[jj];exact hS.ch);rw[Qp];simp only[j47];rw[ai bH,j6,aQ (x:=a+34560000),<-hm,show jen (zs,(ps,(cs,ss))) (i:u) a m=_ from eS];simp only[j4];rcases l2 with⟨x,e1,x0,x1,x2,x3⟩|⟨e1,x3⟩
   .refine .inl ⟨x,?_,x0,aa,x2,x3⟩;rw[show Di (i:u) b m 0 zs ps cs ss S=_ from e1];simp only[j4,pX,bV]
   .have ih:=jGm hv hc hi hb n m aa (by rcases gg.2.2.2 with h|h<;>omega);rw[show Di (i:u) b m 0 zs ps cs ss S=_ from e1];simp only[j4,o8,bg];rcases ih with⟨x,e2,y0,y1,y2,y3⟩|⟨e2,y3⟩
    .refine .inl ⟨x,e2,aa,y1,y2,λt t0 t1=>?_⟩;by_cases ht:t<m
     .exact x3 t t0 ht
     .exact y3 t aa t1
    .refine .inr ⟨e2,λt t0 t1=>?_⟩;by_cases ht:t<m
     .exact x3 t t0 ht
     .exact y3 t aa t1
  .refine .inr ⟨?_,λt t0 t1=>aa⟩;rw[Qp];simp only[j47];rw[aC bH,j7,bV]
theorem jGn(hv:CV (zs,(ps,(cs,ss))))(i:u):∃h,j3M (zs,(ps,(cs,ss))) i=E h/\j6z (zs,(ps,(cs,ss))) i=E h:=by
 obtain⟨e,e1,e2,e3,v,ok,eO,f1⟩:=VI hv;by_cases he:e=0
 case neg=>
  have hb:=f1 he;subst hb;refine⟨0,?_,?_⟩
  .simp only[j3M,eO,j4];rfl
  .simp only[j6z,e2,j4];rw[show (e != 0)=true by simpa using he];rfl
 subst he;have hc:=e3 rfl;by_cases hi:0<=i/\i<(ss.length:u)
 .obtain⟨k,rfl⟩:∃k:U,i=k:=⟨i.toNat,aa⟩;have hk:k<ss.length:=aa;exact⟨_,jHQ hc.g hc hk,jDp hc.g hc hk⟩
 .refine⟨0,?_,?_⟩
  .simp only[j3M,hc.of,j4,jg,j7,jaf,show G ss.length=(ss.length:u) from rfl];by_cases h0:0<=i
   .rw[ai (show i>=0 from h0),aC (show¬i<(ss.length:u) by omega)];rfl
   .rw[aC (show¬i>=0 from h0)];rfl
  .simp only[j6z,e2,j4,je,j7,show G ss.length=(ss.length:u) from rfl];by_cases h0:i<0
   .rw[ai h0];rfl
   .rw[aC h0,ai (show i>=(ss.length:u) by omega)];rfl
theorem jI7(hv:CV (zs,(ps,(cs,ss))))(i a:u):∃t ok e,j4W (zs,(ps,(cs,ss))) i a=E (t,ok,e)/\jeU (zs,(ps,(cs,ss))) i a=E (t,ok,e):=by
 obtain⟨v,e,c1,c2,c3⟩:=jJr hv i a a;by_cases he:e=0
 case neg=>
  refine⟨0,false,e,?_,?_⟩
  .simp only[j4W,c1,j4];rw[show (e != 0)=true by simpa using he];rfl
  .simp only[jeU,c2,j4];rw[show (e != 0)=true by simpa using he];rfl
 obtain⟨rfl,hc,hi,ha,_,CJ,_⟩:=c3 he;subst he;obtain⟨k,rfl⟩:∃k:U,i=k:=⟨i.toNat,aa⟩;have hk:k<ss.length:=aa;have hg:kS zs ps cs:=hc.g;have gN:SG zs ps cs ss[k]:=hc.sc _ (jd hk);have yQ:=hv.s _ (jd hk);have fI:=yQ.el;have hea:=jKc hv hc _ (jd hk);have wx:ss.getD k (N,(([]:H bt),([]:H ct)))=ss[k]:=by simp[I,hk]
 have hb:=jK3 hg gN;obtain⟨m,hm⟩:∃m,m=(if sw zs cs ss[k]>a then sw zs cs ss[k] else a):=⟨_,rfl⟩;have gg:0<=m/\m<=1000000000000:=by rw[hm];split<;>omega
 obtain⟨q,hq⟩:∃q,q=min (m+604800) 8589934592:=⟨_,rfl⟩;have T0:(if (8589934592:u)<m+604800 then (8589934592:u) else m+604800)=q:=by rw[hq];split<;>omega
 have KY:(if m+604800<(8589934592:u) then m+604800 else (8589934592:u))=q:=by rw[hq];split<;>omega
 have g0:=jGk hg gN yQ.ll aa (ss:=ss) (b:=q) aa 2000 a ha aa;have f0:=jGm hv hc hk (b:=q) aa 250 a ha aa;simp only[j4W,jeU,c1,c2,j4,je,j7];rw[bL hi.1 hi.2];simp only[j6,j8,wx];rw[show j4V ((zs,(ps,(cs,ss))),zs.map tb) (ss[k].1,(ss[k].2.1,ss[k].2.2))=_ from jI5 hg gN,show j6z (zs,(ps,(cs,ss))) (k:u)=_ from jDp hg hc hk];simp only[j4,<-hm];rw[aQ (x:=m+604800),T0,KY];simp only[jj8];rcases g0 with⟨x,e,x0,x1,x2,x3⟩|⟨e,x3⟩
 .have hx:dN zs cs ss[k] x = -1:=by have : -1<=dN zs cs ss[k] x:=jI6 gN hea (t:=x) aa aa;omega
  rcases f0 with⟨y,e',y0,y1,y2,y3⟩|⟨e',y3⟩
  .have iw:x=y:=by
    rcases Int.lt_trichotomy x y with h|h|h
    .exact absurd hx (y3 x x0 h)
    .exact h
    .have:=x3 y y0 h;omega
   subst iw;rw[e,e'];exact⟨x,false,0,rfl,rfl⟩
  .exact absurd hx (y3 x x0 x1)
 .rcases f0 with⟨y,e',y0,y1,y2,y3⟩|⟨e',y3⟩
  .have:=x3 y y0 y1;omega
  .rw[e,e'];exact⟨0,true,0,rfl,rfl⟩
theorem jGo(hv:CV (zs,(ps,(cs,ss))))(i a b:u):∃l e,j7r (zs,(ps,(cs,ss))) i a b=E (l,e)/\jkd (zs,(ps,(cs,ss))) i a b=E (l,e)/\l.length<=4096:=by
 obtain⟨l,e,h1,h2,h3⟩:=jF3 hv i (-1) a b;refine⟨l,e,?_,?_,h3⟩
 .simp only[j7r];rw[show jcU (zs,ps,cs,ss) i (-1) a b=_ from h1];rfl
 .simp only[jkd];rw[show jjp (zs,ps,cs,ss) i (-1) a b=_ from h2];rfl
theorem jI8(hv:CV (zs,(ps,(cs,ss))))(i a b:u):∃r,j7M (zs,(ps,(cs,ss))) i a b=E r/\jhW (zs,(ps,(cs,ss))) i a b=E r:=by
 obtain⟨l,e,h1,h2,h3⟩:=jGo hv i a b;simp only[j7M,jhW];rw[show j7r (zs,ps,cs,ss) i a b=_ from h1,show jkd (zs,ps,cs,ss) i a b=_ from h2];simp only[j4];exact⟨_,rfl,rfl⟩
end
end Go.Proofs.Pw
open Go Go.Lft
set_option linter.unusedVariables false
set_option maxHeartbeats 1000000
namespace Go.Proofs.Pw
theorem HC{s1:u}{s2:u}{s3:u}{s4:u}{s15:u}{s52:dV}{s53:u}{s65:(H (H u))}{s66:u}{b14:an}{b14_1:aq}{b14_2:aw}{b14_3:aA}{b17:(H u)}{b45:(H u)}{b45_1:u}{A:bK}(hA:A.length<=1000000):∀(n i:U),i+n=A.length->Qq s1 s2 s3 s4 s15 A s52 s53 s65 s66 (A.length:u) (i:u) b14 b14_1 b14_2 b14_3 b17 b45 b45_1 A=E (.inr (s1,s2,s3,s4,s15,s52,s53,s65,s66,b14,b14_1,b14_2,b14_3,b17,b45,b45_1))
 |0,i,hi=>by
  rw[z_];simp only[j2i];rw[aC aa,j7,bV]
 |n+1,i,hi=>by
  have ih:=HC (s1:=s1) (s2:=s2) (s3:=s3) (s4:=s4) (s15:=s15) (s52:=s52) (s53:=s53) (s65:=s65) (s66:=s66) (b14:=b14) (b14_1:=b14_1) (b14_2:=b14_2) (b14_3:=b14_3) (b17:=b17) (b45:=b45) (b45_1:=b45_1) hA n (i+1) aa;rw[z_];simp only[j2i];rw[ai aa,bL (i:=(i:u)) (n:=A.length) aa aa,aQ (x:=(i:u)+1)];simp only[j6,ke,z8,jg,j7,bg];exact ih
theorem HD{s1:u}{s2:u}{s3:u}{s4:u}{s15:u}{s52:dV}{s53:u}{s65:(H (H u))}{s66:u}{s115:(H u)}{s116:u}{b14:an}{b14_1:aq}{b14_2:aw}{b14_3:aA}{b17:(H u)}{b45:(H u)}{b45_1:u}{A:SL}(hA:A.length<=1000000):∀(n i:U),i+n=A.length->Qr s1 s2 s3 s4 s15 s52 s53 s65 s66 s115 s116 (A.length:u) (i:u) b14 b14_1 b14_2 b14_3 b17 b45 b45_1 A A=E (.inr (s1,s2,s3,s4,s15,s52,s53,s65,s66,s115,s116,b14,b14_1,b14_2,b14_3,b17,b45,b45_1))
 |0,i,hi=>by
  rw[A_];simp only[j2j];rw[aC aa,j7,bV]
 |n+1,i,hi=>by
  have ih:=HD (s1:=s1) (s2:=s2) (s3:=s3) (s4:=s4) (s15:=s15) (s52:=s52) (s53:=s53) (s65:=s65) (s66:=s66) (s115:=s115) (s116:=s116) (b14:=b14) (b14_1:=b14_1) (b14_2:=b14_2) (b14_3:=b14_3) (b17:=b17) (b45:=b45) (b45_1:=b45_1) hA n (i+1) aa;rw[A_];simp only[j2j];rw[ai aa,bL (i:=(i:u)) (n:=A.length) aa aa,aQ (x:=(i:u)+1)];simp only[j6,ke,z8,jg,j7,bg];exact ih
theorem HE{s1:u}{s2:u}{s3:u}{s4:u}{s15:u}{s52:dV}{s53:u}{s65:(H (H u))}{s66:u}{s115:(H u)}{b14:an}{b14_1:aq}{b14_2:aw}{b14_3:aA}{b17:(H u)}{b45:(H u)}{b45_1:u}(hc:CV (b14,(b14_1,(b14_2,b14_3)))):∀(n i:U),i+n=2->Qs s1 s2 s3 s4 s15 s52 s53 s65 s66 s115 (i:u) b14 b14_1 b14_2 b14_3 b17 b45 b45_1=E (.inr (s1,s2,s3,s4,s15,s52,s53,s65,s66,b14,b14_1,b14_2,b14_3,b45,b45_1))
 |0,i,hi=>by
  rw[B_];simp only[j2k];rw[aC aa,j7,bV]
 |n+1,i,hi=>by
  have ih:=HE (s1:=s1) (s2:=s2) (s3:=s3) (s4:=s4) (s15:=s15) (s52:=s52) (s53:=s53) (s65:=s65) (s66:=s66) (s115:=s115) (b14:=b14) (b14_1:=b14_1) (b14_2:=b14_2) (b14_3:=b14_3) (b17:=b17) (b45:=b45) (b45_1:=b45_1) hc n (i+1) aa;obtain⟨A,e,a1,a2,a3⟩:=jGo hc (s115.getD i 0) (b17.getD 0 0) (b17.getD 1 0);obtain⟨r,b1,b2⟩:=jI8 hc (s115.getD i 0) (b17.getD 0 0) (b17.getD 1 0);obtain⟨h,c1,c2⟩:=jGn hc (s115.getD i 0);have h8:=HD (s1:=s1) (s2:=s2) (s3:=s3) (s4:=s4) (s15:=s15) (s52:=s52) (s53:=s53) (s65:=s65) (s66:=s66) (s115:=s115) (s116:=(i:u)) (b14:=b14) (b14_1:=b14_1) (b14_2:=b14_2) (b14_3:=b14_3) (b17:=b17) (b45:=b45) (b45_1:=b45_1) (A:=A) aa A.length 0 aa;rw[show ((0:U):u)=0 from rfl]at h8;rw[B_];simp only[j2k];rw[ai aa,cB];simp only[j6,j8,a1,a2,b1,b2,c1,c2,j4,ke,jg,je,j7,show G A.length=(A.length:u) from rfl,h8,sumC];rw[aQ (x:=(i:u)+1),bg];exact ih
theorem HF{s1:u}{s2:u}{s3:u}{s4:u}{s15:u}{s52:dV}{s53:u}{s65:(H (H u))}{b14:an}{b14_1:aq}{b14_2:aw}{b14_3:aA}{b45:(H u)}(hc:CV (b14,(b14_1,(b14_2,b14_3)))):∀(n i:U)(a:u),i+n=2->cQ b45 a->∃a',cQ b45 a'/\Qt s1 s2 s3 s4 s15 s52 s53 s65 (i:u) b14 b14_1 b14_2 b14_3 b45 a=E (.inr (s1,s2,s3,s4,s15,s52,s53,b14,b14_1,b14_2,b14_3,b45,a'))
 |0,i,a,hi,hd=>by
  rw[C_];simp only[j2l];rw[aC aa,j7,bV];exact⟨a,hd,rfl⟩
 |n+1,i,a,hi,hd=>by
  obtain⟨A,e,a1,a2,a3⟩:=jKa hc hc.few ((s65.getD i (W 2 0)).getD 0 0) ((s65.getD i (W 2 0)).getD 1 0);have h4:=HC (s1:=s1) (s2:=s2) (s3:=s3) (s4:=s4) (s15:=s15) (s52:=s52) (s53:=s53) (s65:=s65) (s66:=(i:u)) (b14:=b14) (b14_1:=b14_1) (b14_2:=b14_2) (b14_3:=b14_3) (b17:=s65.getD i (W 2 0)) (b45:=b45) (b45_1:=a) (A:=A) aa A.length 0 aa;obtain⟨q,a4,e4,_,_,d4⟩:=dQ (n:=4) hd aa aa;have h6:=HE (s1:=s1) (s2:=s2) (s3:=s3) (s4:=s4) (s15:=s15) (s52:=s52) (s53:=s53) (s65:=s65) (s66:=(i:u)) (s115:=[q,s4]) (b14:=b14) (b14_1:=b14_1) (b14_2:=b14_2) (b14_3:=b14_3) (b17:=s65.getD i (W 2 0)) (b45:=b45) (b45_1:=a4) hc 2 0 aa;obtain⟨a',d',ih⟩:=HF (s1:=s1) (s2:=s2) (s3:=s3) (s4:=s4) (s15:=s15) (s52:=s52) (s53:=s53) (s65:=s65) (b14:=b14) (b14_1:=b14_1) (b14_2:=b14_2) (b14_3:=b14_3) (b45:=b45) hc n (i+1) a4 aa d4;refine⟨a',d',?_⟩;rw[show ((0:U):u)=0 from rfl]at h4 h6;rw[C_];simp only[j2l];rw[ai aa,cB];simp only[j6,j8,a1,a2,j4,je,j7,show G A.length=(A.length:u) from rfl,h4,sumC,e4,h6];rw[aQ (x:=(i:u)+1),bg];exact ih
theorem jJE{s1:u}{s2:u}{s3:u}{s4:u}{s52:dV}{s53:u}{s194:(H u)}{b14:an}{b14_1:aq}{b14_2:aw}{b14_3:aA}{b45:(H u)}(hc:CV (b14,(b14_1,(b14_2,b14_3)))):∀(n i:U)(a:u),i+n=2->cQ b45 a->∃a',cQ b45 a'/\Qu s1 s2 s3 s4 s52 s53 s194 (i:u) b14 b14_1 b14_2 b14_3 b45 a=E (.inr (s1,s2,s3,s4,s52,s53,b45,a'))
 |0,i,a,hi,hd=>by
  rw[D_];simp only[j24];rw[aC aa,j7,bV];exact⟨a,hd,rfl⟩
 |n+1,i,a,hi,hd=>by
  obtain⟨q,a1,e1,_,_,d1⟩:=dQ (n:=4) hd aa aa;obtain⟨h,_,c2⟩:=jGn hc q;obtain⟨t,ok,e,f1,f2⟩:=jI7 hc q (s194.getD i 0);obtain⟨a',d',ih⟩:=jJE (s1:=s1) (s2:=s2) (s3:=s3) (s4:=s4) (s52:=s52) (s53:=s53) (s194:=s194) (b14:=b14) (b14_1:=b14_1) (b14_2:=b14_2) (b14_3:=b14_3) (b45:=b45) hc n (i+1) a1 aa d1;refine⟨a',d',?_⟩;rw[D_];simp only[j24];rw[ai aa,cB];simp only[j6,j8,e1,c2,f1,f2,j4,ke,jg,je,j7];rw[aQ (x:=(i:u)+1)];cases cond (Z (h>s194.getD i 0)) (Z (w64 (h-s194.getD i 0)>103680000)) false with
  |true=>rw[j6,bg];exact ih
  |false=>rw[j7,bg];exact ih
theorem HG{s1:u}{s2:u}{s3:u}{s4:u}{s52:dV}{b45:(H u)}(hc:∀k∈s52,CV k)(hl:s52.length=2):∀(n i:U)(a:u),i+n=2->cQ b45 a->Qv s1 s2 s3 s4 s52 (i:u) b45 a=E (.inr ())
 |0,i,a,hi,hd=>by
  rw[E_];simp only[j2m];rw[aC aa,j7,bV]
 |n+1,i,a,hi,hd=>by
  have hm:s52.getD i (([]:an),(([]:aq),(([]:aw),([]:aA))))∈s52:=by rw[show s52.getD i (([]:an),(([]:aq),(([]:aw),([]:aA))))=s52[i]'aa by simp[I,show i<s52.length by omega]];exact jd _
  have hk:=hc _ hm;generalize Hp:s52.getD i (([]:an),(([]:aq),(([]:aw),([]:aA))))=k at hk;obtain⟨t,a1,e1,t0,t1,d1⟩:=ϛ hd;obtain⟨a2,d2,h2⟩:=HF (s1:=s1) (s2:=s2) (s3:=s3) (s4:=s4) (s15:=t) (s52:=s52) (s53:=(i:u)) (s65:=[[t,w64 (t+518400)],[s2,s3]]) (b14:=k.1) (b14_1:=k.2.1) (b14_2:=k.2.2.1) (b14_3:=k.2.2.2) (b45:=b45) hk 2 0 a1 aa d1;obtain⟨a3,d3,H8⟩:=jJE (s1:=s1) (s2:=s2) (s3:=s3) (s4:=s4) (s52:=s52) (s53:=(i:u)) (s194:=[s1,t]) (b14:=k.1) (b14_1:=k.2.1) (b14_2:=k.2.2.1) (b14_3:=k.2.2.2) (b45:=b45) hk 2 0 a2 aa d2;have ih:=HG (s1:=s1) (s2:=s2) (s3:=s3) (s4:=s4) (s52:=s52) (b45:=b45) hc hl n (i+1) a3 aa d3;rw[show ((0:U):u)=0 from rfl]at h2 H8;rw[E_];simp only[j2m];rw[ai aa,cB];simp only[j6,j8,Hp,e1,j4,h2,sumC,H8];rw[aQ (x:=(i:u)+1),bg];exact ih
theorem jn3(t:H u)(_h:Wf (.list (.int .i64)) t)(x:u)(_h1:Wf (.int .i64) x)(f:u)(_h2:Wf (.int .i64) f)(to:u)(_h3:Wf (.int .i64) to)(sc:u)(_h4:Wf (.int .i64) sc):jan t x f to sc=E true:=by
 simp only[jan,jnr,j4,show G (Ã t)=(t.length:u) from rfl];by_cases hl:(t.length:u)<=500
 case neg=>rw[aC hl];simp[ύ]
 rw[ai hl];simp only[jg,j7,jpU,j4];obtain⟨zs,ps,cs,ss,a1,e1,hs,g1,g2,g3,d1⟩:=jAi (L:=t) (a:=0) (n:=3) ⟨aa,aa,aa⟩ aa aa;obtain⟨k,a2,e2,hv,d2⟩:=jEY d1 hs g3 g1 aa
 have e3:=HG (s1:=x) (s2:=f) (s3:=to) (s4:=sc) (s52:=[(zs,(ps,(cs,ss))),(k.1,(k.2.1,(k.2.2.1,k.2.2.2)))]) (b45:=t) (λy hy=>by
  simp only[jb,vf,or_false]at hy;rcases hy with rfl|rfl
  .exact jK1 hs g3 g1 aa
  .exact hv) rfl 2 0 a2 aa d2
 rw[show ((0:U):u)=0 from rfl]at e3;simp only[e1,e2,e3,j4,sumC,ύ]
end Go.Proofs.Pw
