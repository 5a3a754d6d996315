/- The reference of LB 8: ga that are right. -/
import Derived.Test.YtgfoijaggkhgnaaGreatLXPG
import Derived.KernelRfl
open _root_ renaming Int->q,ByteArray->A,List->F,Nat->I
open Int renaming ofNat->u,tdiv->O
open Option renaming some->B
open ByteArray renaming empty->D,ext->R
open List renaming getD_eq_getElem?_getD->E,getD->H
open Decidable renaming decide->G
open Bool renaming true->J,false->N
open Go Go.Lft
namespace Go.Proofs.Pw
theorem jDa{x y:A}(h:x≠y):(x.toList==y.toList)=false:=by
 rw[ByteArray.toList_eq,ByteArray.toList_eq];exact z8.2 λhh=>h (R (Array.toList_inj.mp (eq_of_beq hh)))
def TW(b:q):Prop:=(97<=b/\b<=122)\/(48<=b/\b<=57)\/b=95\/b=45
theorem Ϩ{s:A}(hs:s.size<=24):∀(n i:I),i+n=s.size->((FL s (s.size:q) (i:q)).bind λq0=>sumC q0 (λa=>B a) (λ_=>B J))=B J->∀j:I,i<=j->j<s.size->TW (dG s j)
 |0,i,hi,_,j,h1,h2=>aa
 |n+1,i,hi,h,j,h1,h2=>by
  rw[jmL]at h;simp only[j7j,jd9,jjG,j4]at h;rw[ah aa,bD,al (x:=(i:q)+1)]at h;simp only[j6]at h
  have key:TW (dG s i)/\((FL s (s.size:q) ((i:q)+1)).bind λq0=>sumC q0 (λa=>B a) (λ_=>B J))=B true:=by
   by_cases ha:97<=dG s i/\dG s i<=122
   .rw[ah (show dG s i>=97 from ha.1),ah ha.2]at h;simp only[j6,jl,j7,aH]at h;exact⟨.inl ha,h⟩
   .have e:cond (G (dG s i>=97)) (G (dG s i<=122)) N=false:=by
     by_cases hx:dG s i>=97
     .rw[ah hx,j6];exact aj aa
     .rw[aj hx,j7]
    rw[e]at h;simp only[ka,j6]at h;by_cases hb:48<=dG s i/\dG s i<=57
    .rw[ah (show dG s i>=48 from hb.1),ah hb.2]at h;simp only[j6,jl,j7,aH]at h;exact⟨.inr (.inl hb),h⟩
    .have e2:cond (G (dG s i>=48)) (G (dG s i<=57)) N=false:=by
      by_cases hx:dG s i>=48
      .rw[ah hx,j6];exact aj aa
      .rw[aj hx,j7]
     rw[e2]at h;simp only[ka,j6]at h;by_cases hc:dG s i=95
     .have e3:(dG s i != 95)=false:=by rw[hc];rfl
      rw[e3]at h;simp only[j7,aH]at h;exact⟨.inr (.inr (.inl hc)),h⟩
     .have e3:(dG s i != 95)=true:=by simpa using hc
      rw[e3]at h;simp only[j6]at h;by_cases hd:dG s i=45
      .have e4:(dG s i != 45)=false:=by rw[hd];rfl
       rw[e4]at h;simp only[j7,aH]at h;exact⟨.inr (.inr (.inr hd)),h⟩
      .have e4:(dG s i != 45)=true:=by simpa using hd
       rw[e4]at h;simp[aS,OP]at h
  by_cases hj:j=i
  .subst hj;exact key.1
  .exact Ϩ hs n (i+1) aa key.2 j aa h2
theorem ϩ{s:A}(hs:s.size<=24)(bP:∀j:I,j<s.size->TW (dG s j)):∀(n i:I),i+n=s.size->CY s (i:q)=B (.inr ())
 |0,i,hi=>by
  rw[Zx];simp only[j6F,show u s.size=(s.size:q) from rfl];rw[aj aa,j7,aS]
 |n+1,i,hi=>by
  have ih:=ϩ hs bP n (i+1) aa;have ho:=bP i aa;rw[Zx];simp only[j6F,joa,j4,show u s.size=(s.size:q) from rfl];rw[ah aa,bD,al (x:=(i:q)+1)];simp only[j6,zd];have fin:lpK (B (.inl (s,(i:q)+1)):Option ((A×q) ⊕ (Bool ⊕ Unit))) (λh=>CY h.1 h.2)=B (.inr ()):=by rw[aH];exact ih
  by_cases ha:97<=dG s i/\dG s i<=122
  .rw[aj (show¬dG s i<97 by omega),aj (show¬dG s i>122 by omega)];exact fin
  .have e:cond (G (dG s i<97)) J (G (dG s i>122))=true:=by
    by_cases hx:dG s i<97
    .rw[ah hx,j6]
    .rw[aj hx,j7];exact ah aa
   rw[e];simp only[j6];by_cases hb:48<=dG s i/\dG s i<=57
   .rw[ah (show dG s i>=48 from hb.1),ah hb.2];exact fin
   .have e2:cond (G (dG s i>=48)) (G (dG s i<=57)) N=false:=by
     by_cases hx:dG s i>=48
     .rw[ah hx,j6];exact aj aa
     .rw[aj hx,j7]
    rw[e2];rcases ho with ho|ho|ho|ho
    .exact absurd ho ha
    .exact absurd ho hb
    .rw[ho];exact fin
    .rw[ho];exact fin
theorem jHe{s:A}(h:j9w s=B J):jne s=B true:=by
 simp only[j9w,show u s.size=(s.size:q) from rfl]at h;have hz:¬(cond (s.toList==ByteArray.empty.toList) J (G ((s.size:q)>24)))=true:=by intro hx;rw[hx]at h;simp at h
 have xp:cond (s.toList==ByteArray.empty.toList) J (G ((s.size:q)>24))=false:=z8.2 hz;rw[xp]at h;simp only[ka,jl,Bool.or_false,j7]at h
 have h0:inR 0 s.size=true:=by
  cases hc:inR 0 s.size with
  |true=>rfl
  |false=>rw[hc]at h;simp at h
 have iW:0<s.size:=by simp only[inR,jd,jo]at h0;omega
 have iE:s.size<=24:=by
  have:G ((s.size:q)>24)=false:=by
   revert xp
   cases (s.toList==ByteArray.empty.toList)<;>simp
  have:=of_decide_eq_false this;omega
 rw[h0]at h;simp only[j6,jd9,j4]at h
 have ha:97<=dG s 0/\dG s 0<=122:=by
  apply jt;intro hn
  have e:cond (G (dG s 0>=97)) (G (dG s 0<=122)) N=false:=by
   by_cases hx:dG s 0>=97
   .rw[ah hx,j6];exact aj aa
   .rw[aj hx,j7]
  rw[e]at h;simp at h
 rw[ah (show dG s 0>=97 from ha.1),ah ha.2]at h;simp only[j6,jl,j7]at h;have bP:=Ϩ iE s.size 0 aa h;simp only[jne,show u s.size=(s.size:q) from rfl];rw[h0,aj (show¬(s.size:q)<1 by omega),aj (show¬(s.size:q)>24 by omega),aj (show¬dG s 0<97 by omega),aj (show¬dG s 0>122 by omega)];simp only[j7,zd,j6];rw[show CY s 0=_ from ϩ iE (λj hj=>bP j aa hj) s.size 0 aa];rfl
theorem pZ{n lo hi:q}(h1:lo<=n)(h2:n<=hi):j8O n lo hi=B true:=by
 simp only[j8O,ah (show n>=lo from h1),ah h2,j6]
theorem jHf{n lo hi:q}(h:n<lo):j8O n lo hi=B false:=by
 simp only[j8O,aj (show¬n>=lo by omega),j7]
theorem TX:jcX=B 98980:=by kernel_rfl
theorem LC{d:q}(h:j0W d=B J):d<=98980:=by
 apply jt;intro hd;simp only[j0W,j9x,Lx,Lw,j4]at h;rw[aj (show¬d<0 by omega),ah (show d>=98981 by omega)]at h;simp at h
theorem Ϫ{d:q}(h:j0W d=B J):0<=d:=by
 apply jt;intro hd;simp only[j0W,j9x,Lx,Lw,j4]at h;rw[ah (show d<0 by omega)]at h;simp at h
theorem ϫ{ks:F A}(hn:ks.Nodup){i:I}(hi:i<ks.length){l:F A}(hl:l=ks.take (i+1))(hs:ks.length<=1000):∀(n k:I),k+n=i->Gl l (i:q) (k:q)=B (.inr ())
 |0,k,hk=>by
  rw[Zy];simp only[j6G];rw[aj aa,j7,aS]
 |n+1,k,hk=>by
  have fw:l.length=i+1:=by rw[hl,qo];omega
  have bQ:k<ks.length:=aa;have g1:l.getD k D=ks[k]:=by rw[hl,E,y9 aa,jp bQ];rfl
  have g2:l.getD i D=ks[i]:=by rw[hl,E,y9 aa,jp hi];rfl
  have bA:ks[k]≠ks[i]:=λe=>by
   have:=(List.getElem_inj (h₀:=bQ) (h₁:=hi) hn).1 e;omega
  rw[Zy];simp only[j6G];rw[ah aa,bY (show (0:q)<=(k:q) by omega) aa,bY (show (0:q)<=(i:q) by omega) aa];simp only[j6,j8,g1,g2,jDa bA,j7];rw[al (x:=(k:q)+1),aH];exact ϫ hn hi hl hs n (k+1) aa
theorem jHg{ks:F A}(h:fJ ks){i:I}(hi:i<ks.length)(hs:ks.length<=1000):jcC (ks.take (i+1)) (i:q)=B 0:=by
 have fw:(ks.take (i+1)).length=i+1:=by rw[qo];omega
 have g2:(ks.take (i+1)).getD i D=ks[i]:=by rw[E,y9 aa,jp hi];rfl
 simp only[jcC];rw[bD];simp only[j6,j8,g2,jHe (h.2 _ (jg hi)),j4,jl,j7];rw[show Gl (ks.take (i+1)) (i:q) 0=_ from ϫ h.1 hi rfl hs i 0 aa];rfl
theorem HS{α:Type}(f:α->A){xs:F α}(h:fJ (xs.map f)){i:I}(hi:i<xs.length)(hs:xs.length<=1000) :
  (xs.take i).map f++[f xs[i]]=(xs.take (i+1)).map f/\jcC ((xs.take (i+1)).map f) (i:q)=B 0:=by
 refine⟨?_,?_⟩
 .rw[q8,jp hi,qc];rfl
 .have:=jHg h (i:=i) (by simpa using hi) (by simpa using hs);rwa[<-List.map_take]at this
theorem Ϭ{nm:A}{o:q}{rs:F aL}(h:∀r∈rs,Int.tmod r.2.2.2.2.2.2 60=0)(hl:rs.length<=1000):∀(n i:I),i+n=rs.length->Gr J (i:q) nm o rs=B J
 |0,i,hi=>by
  rw[ZH];simp only[j4C,show u rs.length=(rs.length:q) from rfl];rw[aj aa,j7,aS]
 |n+1,i,hi=>by
  have br:i<rs.length:=aa;have aR:rs.getD i ((0:q),((0:q),((0:q),((0:q),((0:q),((0:q),(0:q)))))))=rs[i]:=by simp[H,br]
  rw[ZH];simp only[j4C,show u rs.length=(rs.length:q) from rfl];rw[ah aa,bD];simp only[j6,zd,j8,aR,h _ (jg br),kq];rw[al (x:=(i:q)+1),aH];exact Ϭ h hl n (i+1) aa
theorem jIm{z:bF}(h:x8 z):jdi z=B true:=by
 simp only[jdi,h.o60,kq];rw[show Gr J 0 z.1 z.2.1 z.2.2=_ from Ϭ h.r60 h.len z.2.2.length 0 aa];rfl
section
variable{zs:F bF}{ps:F cR}{cs:F aV}{ss:F cW}
theorem ϭ(hn:fJ (zs.map (·.1)))(hc:∀z∈zs,x8 z)(hr:∀z∈zs,j7J z=B 0)(hl:zs.length<=100):∀(n i:I),i+n=zs.length->Gs (i:q) zs ps cs ss ((zs.take i).map (·.1))=B (.inr ())
 |0,i,hi=>by
  rw[ZI];simp only[j5Z,show u zs.length=(zs.length:q) from rfl];rw[aj aa,j7,aS]
 |n+1,i,hi=>by
  have br:i<zs.length:=aa;have aR:zs.getD i (D,((0:q),([]:F aL)))=zs[i]:=by simp[H,br]
  obtain⟨n1,n2⟩:=HS (·.1) hn br aa;have gj:=hc _ (jg br);rw[ZI];simp only[j5Z,show u zs.length=(zs.length:q) from rfl];rw[ah aa,bD];simp only[j6,j8,aR];rw[ah (show ((zs.take i).map (·.1)).length+[zs[i].1].length<=aM by simp[aM];omega),j6,n1,n2];simp only[j4,jh,j7,show j7J (zs[i].1,(zs[i].2.1,zs[i].2.2))=_ from hr _ (jg br),zd,j6,show jdi (zs[i].1,(zs[i].2.1,zs[i].2.2))=_ from jIm gj,jl];rw[al (x:=(i:q)+1),aH];exact ϭ hn hc hr hl n (i+1) aa
theorem Ϯ{w:WL}(h:eN 0 w)(hl:w.length<=14):∀(n i:I),i+n=w.length->CR w (i:q)=B (.inr ())
 |0,i,hi=>by
  rw[JS];simp only[j32,show u w.length=(w.length:q) from rfl];rw[aj aa,j7,aS]
 |n+1,i,hi=>by
  have br:i<w.length:=aa;have hg:=xZ h i br;have ih:=Ϯ h hl n (i+1) aa;rw[JS];simp only[j32,show u w.length=(w.length:q) from rfl];rw[ah aa,bD];simp only[j6,j8];rw[aj (show¬(w.getD i (0,0)).1<0 by omega),aj (show¬(w.getD i (0,0)).1>=(w.getD i (0,0)).2 by omega),aj (show¬(w.getD i (0,0)).2>604800 by omega),al (x:=(i:q)+1)];simp only[j7];by_cases h0:(i:q)>0
  .obtain⟨k,rfl⟩:∃k,i=k+1:=⟨i-1,aa⟩;have Tb:=Ta h k aa;rw[ah h0,j6,al (x:=((k+1:I):q)-1),show ((k+1:I):q)-1=(k:q) by omega,bY (show (0:q)<=(k:q) by omega) aa];simp only[j6,j8];rw[aj (show¬(w.getD (k+1) (0,0)).1<(w.getD k (0,0)).2 by omega),j7,aH];exact ih
  .rw[aj h0,j7,aH];exact ih
theorem tW{w:WL}(h:eN 0 w)(hl:w.length<=14):j3g w=B 0:=by
 simp only[j3g,show u w.length=(w.length:q) from rfl];rw[aj aa,j7,show CR w 0=_ from Ϯ h hl w.length 0 aa];rfl
theorem ϯ{n:q}(h:j4T n=B J):jkS n=B true:=h
theorem ϰ(hn:fJ (ps.map (·.1)))(hc:∀p∈ps,Hz zs.length p)(hl:ps.length<=100)(lE:zs.length<=100):∀(n i:I),i+n=ps.length->Gt (i:q) zs ps cs ss ((ps.take i).map (·.1))=B (.inr ())
 |0,i,hi=>by
  rw[ZJ];simp only[j57,show u ps.length=(ps.length:q) from rfl];rw[aj aa,j7,aS]
 |n+1,i,hi=>by
  have br:i<ps.length:=aa;have aR:ps.getD i (D,((0:q),(([]:WL),((0:q),((0:q),N)))))=ps[i]:=by simp[H,br]
  obtain⟨n1,n2⟩:=HS (·.1) hn br aa;have gj:=hc _ (jg br);have h0:=gj.z0;have h1:=gj.z1;rw[ZJ];simp only[j57,show u ps.length=(ps.length:q) from rfl,show u zs.length=(zs.length:q) from rfl];rw[ah aa,bD];simp only[j6,j8,aR];rw[ah (show ((ps.take i).map (·.1)).length+[ps[i].1].length<=aM by simp[aM];omega),j6,n1,n2,gj.nb,al (x:=(zs.length:q)-1),pZ h0 aa];simp only[j4,jh,j7,jl,tW gj.w gj.wl,ϯ gj.m,ϯ gj.r];rw[al (x:=(i:q)+1),aH];exact ϰ hn hc hl lE n (i+1) aa
theorem ϱ{ds:F q}(h:∀d∈ds,j0W d=B J)(hl:ds.length<=64){m z:q}{nm:A}{l3:F A}:∀(n i:I),i+n=ds.length->Gu m (i:q) zs ps cs ss nm z ds l3=B (.inr (m,zs,ps,cs,ss,nm,z,ds,l3))
 |0,i,hi=>by
  rw[ZK];simp only[j3s,show u ds.length=(ds.length:q) from rfl];rw[aj aa,j7,aS]
 |n+1,i,hi=>by
  have br:i<ds.length:=aa;have aR:ds.getD i (0:q)=ds[i]:=by simp[br]
  have hd:=h _ (jg br);rw[ZK];simp only[j3s,show u ds.length=(ds.length:q) from rfl];rw[ah aa,bD];simp only[j6,j8,aR,TX,j4,pZ (Ϫ hd) (LC hd),jl,j7];rw[al (x:=(i:q)+1),aH];exact ϱ h hl n (i+1) aa
theorem ϲ{ds:F q}(h:ds.Pairwise (· < ·))(hl:ds.length<=64){m z:q}{nm:A}{l3:F A}:∀(n i:I),ds.length<=i+n->1<=i->Gv m (i:q) zs ps cs ss nm z ds l3=B (.inr (m,zs,ps,cs,ss,l3))
 |n,i,hi,h1=>by
  rw[jjM];simp only[j58,show u ds.length=(ds.length:q) from rfl];by_cases br:i<ds.length
  .obtain⟨n,rfl⟩:∃m,n=m+1:=⟨n-1,aa⟩;obtain⟨k,rfl⟩:∃k,i=k+1:=⟨i-1,aa⟩;have aR:ds.getD (k+1) (0:q)=ds[k+1]:=by simp[br]
   have Cl:ds.getD k (0:q)=ds[k]:=by simp[show k<ds.length by omega]
   have an:=q9.1 h k (k+1) aa br aa;rw[ah aa,bD,al (x:=((k+1:I):q)-1),show ((k+1:I):q)-1=(k:q) by omega,bY (show (0:q)<=(k:q) by omega) aa];simp only[j6,j8,aR,Cl];rw[aj (show¬ds[k+1]<=ds[k] by omega),j7,al (x:=((k+1:I):q)+1),aH];exact ϲ h hl n (k+1+1) aa aa
  .rw[aj aa,j7,aS]
 termination_by n=>n
theorem ϳ(hn:fJ (cs.map (·.1)))(hc:∀x∈cs,ra zs.length x)(hl:cs.length<=100)(lE:zs.length<=100):∀(n i:I),i+n=cs.length->Gw (i:q) zs ps cs ss ((cs.take i).map (·.1))=B (.inr ())
 |0,i,hi=>by
  rw[ZL];simp only[j3t,show u cs.length=(cs.length:q) from rfl];rw[aj aa,j7,aS]
 |n+1,i,hi=>by
  have br:i<cs.length:=aa;have aR:cs.getD i (D,((0:q),([]:F q)))=cs[i]:=by simp[H,br]
  obtain⟨n1,n2⟩:=HS (·.1) hn br aa;have gj:=hc _ (jg br);have h0:=gj.z0;have h1:=gj.z1;have h2:=gj.len;have l2:=ϱ (zs:=zs) (ps:=ps) (cs:=cs) (ss:=ss) gj.day h2 (m:=(i:q)) (z:=cs[i].2.1) (nm:=cs[i].1) (l3:=(cs.take (i+1)).map (·.1)) cs[i].2.2.length 0 aa;have l4:=ϲ (zs:=zs) (ps:=ps) (cs:=cs) (ss:=ss) gj.asc h2 (m:=(i:q)) (z:=cs[i].2.1) (nm:=cs[i].1) (l3:=(cs.take (i+1)).map (·.1)) cs[i].2.2.length 1 aa aa;rw[ZL];simp only[j3t,show u cs.length=(cs.length:q) from rfl,show u zs.length=(zs.length:q) from rfl];rw[ah aa,bD];simp only[j6,j8,aR];rw[ah (show ((cs.take i).map (·.1)).length+[cs[i].1].length<=aM by simp[aM];omega),j6,n1,n2,al (x:=(zs.length:q)-1),pZ h0 aa];simp only[j4,jh,j7,jl,show u cs[i].2.2.length=(cs[i].2.2.length:q) from rfl];rw[aj aa,j7,show Gu (i:q) 0 zs ps cs ss cs[i].1 cs[i].2.1 cs[i].2.2 ((cs.take (i+1)).map (·.1))=_ from l2];simp only[j4,oc];rw[show Gv (i:q) 1 zs ps cs ss cs[i].1 cs[i].2.1 cs[i].2.2 ((cs.take (i+1)).map (·.1))=_ from l4];simp only[j4,oc];rw[al (x:=(i:q)+1),aH];exact ϳ hn hc hl lE n (i+1) aa
theorem ϴ{L:bZ}(h:∀m∈L.2.2.2.2.2.1,0<=m/\m<(ps.length:q))(hl:L.2.2.2.2.2.1.length<=12)(hp:ps.length<=100):∀(n i:I),i+n=L.2.2.2.2.2.1.length->
  Gx (i:q) zs ps cs ss L.1 L.2.1 L.2.2.1.1 L.2.2.1.2 L.2.2.2.1 L.2.2.2.2.1 L.2.2.2.2.2.1 L.2.2.2.2.2.2.1 L.2.2.2.2.2.2.2.1 L.2.2.2.2.2.2.2.2=B (.inr (zs,ps,cs,ss,L.1,L.2.1,L.2.2.1.1,L.2.2.1.2,L.2.2.2.1,L.2.2.2.2.1,L.2.2.2.2.2.1,L.2.2.2.2.2.2.1,L.2.2.2.2.2.2.2.1,L.2.2.2.2.2.2.2.2))
 |0,i,hi=>by
  rw[ZM];simp only[j60,show u L.2.2.2.2.2.1.length=(L.2.2.2.2.2.1.length:q) from rfl];rw[aj aa,j7,aS]
 |n+1,i,hi=>by
  have br:i<L.2.2.2.2.2.1.length:=aa;have aR:L.2.2.2.2.2.1.getD i (0:q)=L.2.2.2.2.2.1[i]:=by simp[br]
  have hd:=h _ (jg br);rw[ZM];simp only[j60,show u L.2.2.2.2.2.1.length=(L.2.2.2.2.2.1.length:q) from rfl,show u ps.length=(ps.length:q) from rfl];rw[ah aa,bD,al (x:=(ps.length:q)-1)];simp only[j6,j8,aR,pZ hd.1 (show L.2.2.2.2.2.1[i]<=(ps.length:q)-1 by omega),j4,jl,j7];rw[al (x:=(i:q)+1),aH];exact ϴ h hl hp n (i+1) aa
theorem jFM{L:bZ}(h:fh zs.length ps.length cs.length L)(hz:zs.length<=100)(hp:ps.length<=100)(hc:cs.length<=100):jhN (zs,(ps,(cs,ss))) L=B 0:=by
 have h0:=h.z0;have h1:=h.z1;have mS:=h.m0;have fH:=h.m1;have eX:=h.c1;have iG:=h.wl;have lp:=ϴ (zs:=zs) (ps:=ps) (cs:=cs) (ss:=ss) h.mem fH hp L.2.2.2.2.2.1.length 0 aa;simp only[jhN,show u zs.length=(zs.length:q) from rfl,show u L.2.2.2.2.2.1.length=(L.2.2.2.2.2.1.length:q) from rfl];rw[al (x:=(zs.length:q)-1),pZ h0 aa,TX];simp only[j4,jl,j7,pZ h.d0 (LC h.day),pZ h.c0 eX,pZ h.u0 h.u1,pZ h.e0 h.e1];rw[cj (show¬(L.2.2.2.2.2.1.length:q)=0 by omega),aj (show¬(L.2.2.2.2.2.1.length:q)>12 by omega)];simp only[j7];rw[show Gx 0 zs ps cs ss L.1 L.2.1 L.2.2.1.1 L.2.2.1.2 L.2.2.2.1 L.2.2.2.2.1 L.2.2.2.2.2.1 L.2.2.2.2.2.2.1 L.2.2.2.2.2.2.2.1 L.2.2.2.2.2.2.2.2=_ from lp];simp only[j4,oc,tW h.w iG,jh,j7,pZ h.mode0 h.mode1,jl,show u cs.length=(cs.length:q) from rfl];rw[al (x:=(cs.length:q)-1)];by_cases hm:L.2.2.2.2.2.2.2.2=0
 .have e:(L.2.2.2.2.2.2.2.2 != 0)=false:=by rw[hm];rfl
  have e2:(L.2.2.2.2.2.2.2.1 != 0)=false:=by rw[h.cal0 hm];rfl
  rw[e,e2,dC hm];rfl
 .have e:(L.2.2.2.2.2.2.2.2 != 0)=true:=by simpa using hm
  have cN:=h.cal hm;rw[e,cj hm,pZ cN.1 aa];rfl
theorem jHi{x:dV}(h:pq ps.length x)(hp:ps.length<=100):jkT (zs,(ps,(cs,ss))) x=B 0:=by
 have nr:=h.f0;have jV:=h.ft;have Tc:=h.t1;have hd:=LC h.day;have ϵ:O x.2.2.2.2 86400=x.2.2.2.2/86400:=pj aa
 have gC:∃b,j8O x.2.1 0 ((ps.length:q)-1)=B b/\cond (!b) (cond (x.1 != 1) J (x.2.1 != -1)) N=false:=by
  rcases h.a with⟨a1,a2⟩|⟨a1,a2⟩
  .exact⟨J,pZ a1 aa,rfl⟩
  .exact⟨N,jHf aa,by rw[a1,a2];rfl⟩
 obtain⟨b,eb,hb⟩:=gC;simp only[jkT,show u ps.length=(ps.length:q) from rfl];rw[al (x:=(ps.length:q)-1),pZ h.k0 h.k1,eb];simp only[j4,jl,j7,hb];rw[aj (show¬x.2.2.2.1<0 by omega),aj (show¬x.2.2.2.2<0 by omega),iH (x:=O x.2.2.2.2 86400) (by rw[ϵ];omega) (by rw[ϵ];omega),TX];simp only[j7,j4];rw[aj (show¬O x.2.2.2.2 86400>98980 by omega),aj (show¬x.2.2.2.1>=x.2.2.2.2 by omega)];simp only[j7];by_cases hk:x.1=2
 .obtain⟨b1,b2,b3⟩:=h.b hk;have e2:(x.1 != 2)=false:=by rw[hk];rfl
  rw[dC hk,j6,pZ b1 aa,e2,cj b3];rfl
 .have e2:(x.1 != 2)=true:=by simpa using hk
  rw[cj hk,e2,h.b0 hk];rfl
theorem Ϸ{ls:F bZ}(hn:fJ (ls.map (·.1)))(hc:∀x∈ls,fh zs.length ps.length cs.length x)(hl:ls.length<=100)(hz:zs.length<=100)(hp:ps.length<=100)(fk:cs.length<=100){m:q}{nm:A}{es:F dV}{l3:F A}:∀(n i:I),i+n=ls.length->
  Gy m (i:q) zs ps cs ss nm ls es l3 ((ls.take i).map (·.1))=B (.inr (m,zs,ps,cs,ss,nm,ls,es,l3))
 |0,i,hi=>by
  rw[ZN];simp only[j3u,show u ls.length=(ls.length:q) from rfl];rw[aj aa,j7,aS]
 |n+1,i,hi=>by
  have br:i<ls.length:=aa;have aR:ls.getD i (D,((0:q),(((0:q),(0:q)),((0:q),((0:q),(([]:F q),(([]:WL),((0:q),(0:q)))))))))=ls[i]:=by simp[H,br]
  obtain⟨n1,n2⟩:=HS (·.1) hn br aa;have gj:=hc _ (jg br);rw[ZN];simp only[j3u,show u ls.length=(ls.length:q) from rfl];rw[ah aa,bD];simp only[j6,j8,aR];rw[ah (show ((ls.take i).map (·.1)).length+[ls[i].1].length<=aM by simp[aM];omega),j6,n1,n2];simp only[j4,jh,j7];rw[show jhN (zs,ps,cs,ss) (ls[i].1,ls[i].2.1,(ls[i].2.2.1.1,ls[i].2.2.1.2),ls[i].2.2.2.1,ls[i].2.2.2.2.1,ls[i].2.2.2.2.2.1,ls[i].2.2.2.2.2.2.1,ls[i].2.2.2.2.2.2.2.1,ls[i].2.2.2.2.2.2.2.2)=_ from jFM gj hz hp fk];simp only[j4,jh,j7];rw[al (x:=(i:q)+1),aH];exact Ϸ hn hc hl hz hp fk n (i+1) aa
theorem ϸ{es:F dV}(hc:∀x∈es,pq ps.length x)(hl:es.length<=48)(hp:ps.length<=100){m:q}{nm:A}{ls:F bZ}{l3:F A}:∀(n i:I),i+n=es.length->
  Gz m (i:q) zs ps cs ss nm ls es l3=B (.inr (m,zs,ps,cs,ss,l3))
 |0,i,hi=>by
  rw[ZO];simp only[j3v,show u es.length=(es.length:q) from rfl];rw[aj aa,j7,aS]
 |n+1,i,hi=>by
  have br:i<es.length:=aa;have aR:es.getD i ((0:q),((0:q),((0:q),((0:q),(0:q)))))=es[i]:=by simp[H,br]
  have gj:=hc _ (jg br);rw[ZO];simp only[j3v,show u es.length=(es.length:q) from rfl];rw[ah aa,bD];simp only[j6,j8,aR];rw[show jkT (zs,ps,cs,ss) (es[i].1,es[i].2.1,es[i].2.2.1,es[i].2.2.2.1,es[i].2.2.2.2)=_ from jHi gj hp];simp only[j4,jh,j7];rw[al (x:=(i:q)+1),aH];exact ϸ hc hl hp n (i+1) aa
theorem Ϲ(hn:fJ (ss.map (·.1)))(hc:∀x∈ss,uK zs.length ps.length cs.length x)(hl:ss.length<=100)(hz:zs.length<=100)(hp:ps.length<=100)(fk:cs.length<=100):∀(n i:I),i+n=ss.length->
  GA (i:q) zs ps cs ss ((ss.take i).map (·.1))=B (.inr ())
 |0,i,hi=>by
  rw[ZP];simp only[j3w,show u ss.length=(ss.length:q) from rfl];rw[aj aa,j7,aS]
 |n+1,i,hi=>by
  have br:i<ss.length:=aa;have aR:ss.getD i (D,(([]:F bZ),([]:F dV)))=ss[i]:=by simp[H,br]
  obtain⟨n1,n2⟩:=HS (·.1) hn br aa;have gj:=hc _ (jg br);have h1:=gj.ll;have h2:=gj.el;have l2:=Ϸ (ss:=ss) gj.nm gj.ly aa hz hp fk (m:=(i:q)) (nm:=ss[i].1) (es:=ss[i].2.2) (l3:=(ss.take (i+1)).map (·.1)) ss[i].2.1.length 0 aa;have l4:=ϸ (zs:=zs) (cs:=cs) (ss:=ss) gj.ed h2 hp (m:=(i:q)) (nm:=ss[i].1) (ls:=ss[i].2.1) (l3:=(ss.take (i+1)).map (·.1)) ss[i].2.2.length 0 aa;rw[ZP];simp only[j3w,show u ss.length=(ss.length:q) from rfl];rw[ah aa,bD];simp only[j6,j8,aR];rw[ah (show ((ss.take i).map (·.1)).length+[ss[i].1].length<=aM by simp[aM];omega),j6,n1,n2];simp only[j4,jh,j7,show u ss[i].2.1.length=(ss[i].2.1.length:q) from rfl,show u ss[i].2.2.length=(ss[i].2.2.length:q) from rfl];rw[aj (show¬(ss[i].2.1.length:q)>6 by omega),aj (show¬(ss[i].2.2.length:q)>48 by omega)];simp only[j7];rw[show Gy (i:q) 0 zs ps cs ss ss[i].1 ss[i].2.1 ss[i].2.2 ((ss.take (i+1)).map (·.1)) []=_ from l2];simp only[j4,oc];rw[show Gz (i:q) 0 zs ps cs ss ss[i].1 ss[i].2.1 ss[i].2.2 ((ss.take (i+1)).map (·.1))=_ from l4];simp only[j4,oc];rw[al (x:=(i:q)+1),aH];exact Ϲ hn hc hl hz hp fk n (i+1) aa
theorem Ϻ(h:oe (zs,(ps,(cs,ss))))(hr:∀z∈zs,j7J z=B 0):jfx (zs,(ps,(cs,ss)))=B 0:=by
 have lE:zs.length<=16:=h.zl;have lP:ps.length<=32:=h.pl;have fk:cs.length<=8:=h.cl;have eP:ss.length<=12:=h.sl;have lz:=ϭ (zs:=zs) (ps:=ps) (cs:=cs) (ss:=ss) h.zn h.zc hr aa zs.length 0 aa;have lp:=ϰ (zs:=zs) (ps:=ps) (cs:=cs) (ss:=ss) h.pn h.pc aa aa ps.length 0 aa;have lc:=ϳ (zs:=zs) (ps:=ps) (cs:=cs) (ss:=ss) h.cn h.cc aa aa cs.length 0 aa;have ls:=Ϲ (zs:=zs) (ps:=ps) (cs:=cs) (ss:=ss) h.sn h.sc aa aa aa aa ss.length 0 aa;simp only[jfx,show u zs.length=(zs.length:q) from rfl,show u ps.length=(ps.length:q) from rfl,show u cs.length=(cs.length:q) from rfl,show u ss.length=(ss.length:q) from rfl];rw[aj (show¬(zs.length:q)>16 by omega),aj (show¬(ps.length:q)>32 by omega),aj (show¬(cs.length:q)>8 by omega),aj (show¬(ss.length:q)>12 by omega)];simp only[j7,job,show Gs 0 zs ps cs ss []=_ from lz,j4,oc,jh,jlV,show Gt 0 zs ps cs ss []=_ from lp,jgb,show Gw 0 zs ps cs ss []=_ from lc,jgc,show GA 0 zs ps cs ss []=_ from ls]
end
theorem TY{z:bF}(h:gx z):j7J z=B 0:=by
 have h4:=h.zref.2.1;simp only[j7J];rw[show j0j (z.1,(z.2.1,z.2.2))=_ from h4.1];rfl
end Go.Proofs.Pw
