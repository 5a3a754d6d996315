/- LimitsAll. -/
import Derived.Test.YtaieocafhcjelaaGreatEPQ
open Go Go.Lft
namespace Go.Proofs.Pw
def bA(f:Nat->aS):Nat->aS
 |0=>[]
 |n+1=>bA f n++f n
theorem Xv(f:Nat->aS):∀n,(bA f n).length=dj (λi=>(f i).length) n
 |0=>rfl
 |n+1=>by simp only[bA,dj,ja,Xv f n]
theorem OL{f:Nat->aS}{x:ej}:∀{n:Nat},x∈bA f n->∃i,i<n/\x∈f i
 |n+1,h=>by
  simp only[bA]at h;rcases jn.1 h with h|h
  .obtain⟨i,hi,hx⟩:=OL h;exact⟨i,by omega,hx⟩
  .exact⟨n,by omega,h⟩
theorem jB7{x y:ej}(h:fk x y):x≠y:=by
 rintro rfl
 unfold fk at h;omega
theorem Xw{f:Nat->aS}:∀n,(∀i,i<n->(f i).Pairwise fk/\∀y∈f i,y.2.1=(i:Int))->(bA f n).Pairwise (· ≠ ·)
 |0,_=> .nil
 |n+1,h=>by
  simp only[bA];refine qh.2 ⟨Xw n λi hi=>h i (by omega),(h n (by omega)).1.imp jB7,λx hx y hy e=>?_⟩;obtain⟨i,hi,hx⟩:=OL hx;have h1:=(h i (by omega)).2 x hx;have h2:=(h n (by omega)).2 y hy;rw[e]at h1;omega
theorem Xx{f:Nat->aS}{k:Nat}:∀n,(∀i,i<n->∀y∈f i,y.2.1=(i:Int))->(bA f n).filter (λy=>y.2.1==(k:Int))=if k<n then f k else []
 |0,_=>by simp[bA]
 |n+1,h=>by
  simp only[bA,zb,Xx n λi hi=>h i (by omega)];by_cases hk:k=n
  .subst hk;rw[if_neg (by omega),if_pos (by omega),jl];exact vg.2 λy hy=>by rw[h k (by omega) y hy];simp
  .have e:(f n).filter (λy=>y.2.1==(k:Int))=[]:=List.filter_eq_nil_iff.2 λy hy=>by
    rw[h n (by omega) y hy];simp;omega
   rw[e,ka];by_cases h2:k<n
   .rw[if_pos h2,if_pos (by omega)]
   .rw[if_neg h2,if_neg (by omega)]
theorem jxD{x y:ej}(h:fk x y)(g:fk y x):False:=by
 unfold fk at h g;omega
theorem Xy:∀{l m:aS},l.Perm m->l.Pairwise fk->m.Pairwise fk->l=m
 |[],m,h,_,_=>(List.Perm.eq_nil h.symm).symm
 |x::r,m,h,h1,h2=>by
  match m,h,h2 with
  |[],h,_=>exact absurd h.eq_nil (by simp)
  |y::s,h,h2=>
   have e:x=y:=by
    have hx:x∈y::s:=h.mem_iff.1 (by simp);have hy:y∈x::r:=h.mem_iff.2 (by simp);rcases je.1 hx with e|hx
    .exact e
    .rcases je.1 hy with e|hy
     .exact e.symm
     .exact(jxD ((js.1 h1).1 y hy) ((js.1 h2).1 x hx)).elim
   subst e;rw[Xy (List.Perm.cons_inv h) (js.1 h1).2 (js.1 h2).2]
theorem Xz(c:Nat):∀n,dj (λ_=>c) n=c*n
 |0=>rfl
 |n+1=>by simp only[dj,Xz c n,vv]
theorem XA(c:Nat)(f:Nat->Nat):∀n,dj (λi=>c*f i) n=c*dj f n
 |0=>rfl
 |n+1=>by simp only[dj,XA c f n,Nat.mul_add]
theorem XB(F:cA->aS){K:Nat}(p:Int):∀ss:List cA,(∀s∈ss,(F s).length<=K)->lX F p ss<=K*ss.length
 |[],_=>by simp[lX]
 |s::r,h=>by
  have ih:=XB F p r (λu hu=>h u (by simp[hu]));have h1:=h s (by simp);have eu:(iB p (F s)).length<=(F s).length:=by unfold iB;rw[kb];exact qt _ _
  simp only[lX];rw[jk,vv];omega
section
variable{zs:List bY}{ps:List dB}{cs:List bf}{ss:List cA}{a b:Int}{f:Nat->aS}
 (hf:∀i,i<ps.length->j14 (zs,(ps,(cs,ss))) (i:Int) a b=some (f i,0)/\(f i).Pairwise fk/\∀y∈f i,y.2.1=(i:Int)/\oz y)(hp:ps.length<=100)(ht:(bA f ps.length).length<=16384)
include hf hp ht
theorem XC:∀(n i:Nat),i+n=ps.length->(bA f i).length<=16384->
  Dy a b (ps.length:Int) (i:Int) zs ps cs ss (bA f i)=some (.inr (bA f ps.length))
 |0,i,hi,_=>by
  rw[Tr];simp only[j6f];rw[al (by omega),j6,aW];obtain rfl:i=ps.length:=by omega
  rfl
 |n+1,i,hi,hc=>by
  have hle:∀m k,(bA f k).length<=(bA f (k+m)).length:=λm=>by
   induction m with
   |zero=>intro k;exact jg _
   |succ m ih=>intro k;have:=ih k;rw[show k+(m+1)=(k+m)+1 by omega];simp only[bA,ja];omega
  have hn:=hle n (i+1);rw[show i+1+n=ps.length by omega]at hn;have ih:=XC n (i+1) (by omega) (by omega);rw[show ((i+1:Nat):Int)=(i:Int)+1 by omega]at ih;have xi:=hn;simp only[bA,ja]at xi;rw[Tr];simp only[j6f];rw[aj (show (i:Int)<(ps.length:Int) by omega),j5,show j14 (zs,ps,cs,ss) (i:Int) a b=_ from (hf i (by omega)).1];simp only[j3,jp,j6];rw[aj (show (bA f i).length+(f i).length<=aR by simp[aR];omega),j5,ai (x:=(i:Int)+1) (by omega) (by omega),aJ];exact ih
theorem jzK(hs:eX zs ps cs)(hc:tP (zs,(ps,(cs,ss))))(ha:0<=a)(bR:a<b)(hb:b<=8589934592)(hlen:b-a<=1209600) :
  ∃R,jeP (zs,(ps,(cs,ss))) a b=some (R,0)/\R.Pairwise fk/\R.length=(bA f ps.length).length/\∀k,k<ps.length->R.filter (λy=>y.2.1==(k:Int))=f k:=by
 have e1:=XC hf hp ht ps.length 0 (by omega) (by simp[bA])
 obtain⟨R,e3,p3,s3⟩:=Xn (l:=bA f ps.length) (by omega) (λx hx=>by
  obtain⟨i,hi,hx⟩:=OL hx;exact((hf i hi).2.2 x hx).2)
 have dy:R.Pairwise (· ≠ ·):=(p3.pairwise_iff (λh=>h.symm)).2 (Xw ps.length λi hi=>⟨(hf i hi).2.1,λy hy=>((hf i hi).2.2 y hy).1⟩);have hR:R.Pairwise fk:=(s3.and dy).imp λh=>Xk h.1 h.2.symm;refine⟨R,?_,hR,p3.length_eq,λk hk=>?_⟩
 .simp only[jeP,Nz hs.so.ok hc,j3,jq,j6,jb4];rw[ai (x:=b-a) (by omega) (by omega),aj (show a>=0 by omega),aj (show a<=8589934592 by omega),aj (show b>=a by omega),aj (show b<=8589934592 by omega),aj (show b-a<=34560000 by omega)];simp only[j5,jq,j6,show Int.ofNat ps.length=(ps.length:Int) from rfl];rw[show Dy a b (ps.length:Int) 0 zs ps cs ss []=_ from e1];simp only[j3,nV,show Int.ofNat (bA f ps.length).length=((bA f ps.length).length:Int) from rfl];rw[al (show¬((bA f ps.length).length:Int)>16384 by omega),j6,e3];rfl
 .have q:=p3.filter (λy=>y.2.1==(k:Int));rw[Xx ps.length λi hi y hy=>((hf i hi).2.2 y hy).1,if_pos hk]at q;exact Xy q (hR.filter _) (hf k hk).2.1
omit hf hp ht in
theorem OM{s9 s10 s12:Int}{k:Int}{R V:aS}(hR:R.length<=1000000):∀(n j:Nat)(acc:aS),j+n=R.length->acc.length<=j->
  DA a b s9 s10 s12 (ps.length:Int) k (R.length:Int) (j:Int) zs ps cs ss R V acc=some (a,b,s9,s12,(ps.length:Int),k,zs,ps,cs,ss,R,V,acc++(R.drop j).filter (λy=>y.2.1==s10))
 |0,j,acc,hj,_=>by
  rw[Tt];simp only[j4b];rw[al (by omega),j6,aW,jf (by omega)];simp
 |n+1,j,acc,hj,eT=>by
  have eJ:j<R.length:=by omega
  have bh:R.getD j ((0:Int),((0:Int),(0:Int)))=R[j]:=by simp[List.getD,eJ]
  rw[Tt,jc eJ];simp only[j4b];rw[aj (show (j:Int)<(R.length:Int) by omega),aX (by omega) (by omega)];simp only[j5,j7,bh];rw[ai (x:=(j:Int)+1) (by omega) (by omega)];cases hq:(R[j].2.1==s10) with
  |true=>have ih:=OM (s9:=s9) (s10:=s10) (s12:=s12) (k:=k) (V:=V) hR n (j+1) (acc++[R[j]]) (by omega) (by simp;omega);rw[show ((j+1:Nat):Int)=(j:Int)+1 by omega]at ih;rw[j5,aj (by simp[aR];omega),j5,aJ];rw[List.filter_cons_of_pos (by simpa using hq)];refine Eq.trans ih ?_;rw[jd];rfl
  |false=>have ih:=OM (s9:=s9) (s10:=s10) (s12:=s12) (k:=k) (V:=V) hR n (j+1) acc (by omega) (by omega);rw[show ((j+1:Nat):Int)=(j:Int)+1 by omega]at ih;rw[j6,aJ,List.filter_cons_of_neg (by simpa using hq)];exact ih
end
theorem XE{V:aS}(hV:V.length<=1000000):∀(n j:Nat),j+n=V.length->Dz V V (V.length:Int) (j:Int)=some (.inr ())
 |0,j,hj=>by
  rw[Ts];simp only[j6g];rw[al (by omega),j6,aW]
 |n+1,j,hj=>by
  have ih:=XE hV n (j+1) (by omega);rw[show ((j+1:Nat):Int)=(j:Int)+1 by omega]at ih;rw[Ts];simp only[j6g];rw[aj (show (j:Int)<(V.length:Int) by omega),aX (by omega) (by omega)];simp only[j5,vb,vi,jq,j6];rw[ai (x:=(j:Int)+1) (by omega) (by omega),aJ];exact ih
theorem jwo{V:aS}(hV:V.length<=1000000):jhb V V=some true:=by
 simp only[jhb,show Int.ofNat V.length=(V.length:Int) from rfl,jp,j6];rw[show Dz V V (V.length:Int) 0=_ from XE hV V.length 0 (by omega)];rfl
section
variable{zs:List bY}{ps:List dB}{cs:List bf}{ss:List cA}{a b:Int}{f:Nat->aS}
 (hf:∀i,i<ps.length->j14 (zs,(ps,(cs,ss))) (i:Int) a b=some (f i,0)/\(f i).Pairwise fk/\∀y∈f i,y.2.1=(i:Int)/\oz y)(hp:ps.length<=100)(ht:(bA f ps.length).length<=16384)
include hf hp ht
theorem XF{R:aS}(hR:R.length<=1000000)(hF:∀k,k<ps.length->R.filter (λy=>y.2.1==(k:Int))=f k):∀(n i:Nat),i+n=ps.length->(bA f i).length<=16384->
  DB a b ((bA f i).length:Int) (ps.length:Int) (i:Int) zs ps cs ss R=some (.inr (((bA f ps.length).length:Int),R))
 |0,i,hi,_=>by
  rw[Tu];simp only[j4c];rw[al (by omega),j6,aW];obtain rfl:i=ps.length:=by omega
  rfl
 |n+1,i,hi,hc=>by
  have hle:∀m k,(bA f k).length<=(bA f (k+m)).length:=λm=>by
   induction m with
   |zero=>intro k;exact jg _
   |succ m ih=>intro k;have:=ih k;rw[show k+(m+1)=(k+m)+1 by omega];simp only[bA,ja];omega
  have hn:=hle n (i+1);rw[show i+1+n=ps.length by omega]at hn;have xi:=hn;simp only[bA,ja]at xi;have ih:=XF hR hF n (i+1) (by omega) (by omega);rw[show ((i+1:Nat):Int)=(i:Int)+1 by omega]at ih;have e2:=OM (zs:=zs) (ps:=ps) (cs:=cs) (ss:=ss) (a:=a) (b:=b) (s9:=((bA f i).length:Int)) (s10:=(i:Int)) (s12:=0) (k:=(i:Int)) (R:=R) (V:=f i) hR R.length 0 [] (by omega) (by simp);rw[jv,jl,hF i (by omega)]at e2;rw[Tu];simp only[j4c];rw[aj (show (i:Int)<(ps.length:Int) by omega),j5,show j14 (zs,ps,cs,ss) (i:Int) a b=_ from (hf i (by omega)).1];simp only[j3,show Int.ofNat R.length=(R.length:Int) from rfl];rw[show DA a b ((bA f i).length:Int) (i:Int) 0 (ps.length:Int) (i:Int) (R.length:Int) 0 zs ps cs ss R (f i) []=_ from e2];simp only[j3,jp,j6,jwo (V:=f i) (by omega),jq,show Int.ofNat (f i).length=((f i).length:Int) from rfl];rw[ai (x:=((bA f i).length:Int)+((f i).length:Int)) (by omega) (by omega),ai (x:=(i:Int)+1) (by omega) (by omega),aJ];refine Eq.trans ?_ ih;rw[show (((bA f (i+1)).length:Nat):Int)=((bA f i).length:Int)+((f i).length:Int) by simp only[bA,ja];omega]
end
theorem XG{s9:Int}{R:aS}(hR:R.length<=1000000)(hP:R.Pairwise fk):∀(n j:Nat),j+n=R.length->1<=j->DC s9 (j:Int) R=some (.inr (s9,R))
 |0,j,hj,_=>by
  rw[Kx];simp only[j3d,show Int.ofNat R.length=(R.length:Int) from rfl];rw[al (by omega),j6,aW]
 |n+1,j,hj,h1=>by
  obtain⟨k,rfl⟩:∃k,j=k+1:=⟨j-1,by omega⟩;have eJ:k+1<R.length:=by omega
  have bg:k<R.length:=by omega
  have bh:R.getD (k+1) ((0:Int),((0:Int),(0:Int)))=R[k+1]:=by simp[List.getD,eJ]
  have zX:R.getD k ((0:Int),((0:Int),(0:Int)))=R[k]:=by simp[List.getD,bg]
  have ih:=XG (s9:=s9) hR hP n (k+1+1) (by omega) (by omega);have ho:=ky.1 hP k (k+1) bg eJ (by omega);rw[show ((k+1+1:Nat):Int)=((k+1:Nat):Int)+1 by omega]at ih;rw[Kx];simp only[j3d,show Int.ofNat R.length=(R.length:Int) from rfl];rw[aj (show ((k+1:Nat):Int)<(R.length:Int) by omega),ai (x:=((k+1:Nat):Int)-1) (by omega) (by omega),show ((k+1:Nat):Int)-1=(k:Int) by omega,aX (show (0:Int)<=(k:Int) by omega) (by omega),aX (show (0:Int)<=((k+1:Nat):Int) by omega) (by omega)];simp only[j5,j7,bh,zX]
  have ht:(cond (decide (R[k].2.2>R[k+1].2.2)) true (cond (R[k].2.2==R[k+1].2.2) (cond (decide (R[k].1>R[k+1].1)) true (cond (R[k].1==R[k+1].1) (decide (R[k].2.1>=R[k+1].2.1)) false)) false))=false:=by
   unfold fk at ho;rw[al (show¬R[k].2.2>R[k+1].2.2 by omega),j6];by_cases q1:R[k].2.2=R[k+1].2.2
   .rw[ee q1,j5,al (show¬R[k].1>R[k+1].1 by omega),j6];by_cases q2:R[k].1=R[k+1].1
    .rw[ee q2,j5,al (show¬R[k].2.1>=R[k+1].2.1 by omega)]
    .rw[cP q2,j6]
   .rw[cP q1,j6]
  rw[ht,j6,ai (x:=((k+1:Nat):Int)+1) (by omega) (by omega),aJ];exact ih
theorem jnc(t:List Int)(_h:Wf (.list (.int .i64)) t):jcZ t=some true:=by
 simp only[jcZ,jjQ,j3,show Int.ofNat (List.length t)=(t.length:Int) from rfl];by_cases hl:(t.length:Int)<=500
 .rw[aj hl];simp only[jq,j6,jlY,j3];obtain⟨zs,ps,cs,ss,a1,e1,hs,g0,g1,g2,g3,d1⟩:=jtN (L:=t) (a:=0) (n:=2) ⟨by omega,by omega,by omega⟩ (by omega) (by omega);have hc:=jzg hs (ss:=ss) (by omega) (by rw[g2];exact jzf.take _) (λs h=>(g3 s h).ck);have hp4:=hs.so.p1;obtain⟨x,a3,e3,x0,x1,d3⟩:=UH d1
  have mL:∀s∈ss,∃out,j0N ((zs,(ps,(cs,ss))),zs.map tb) s x (x+604800)=some out/\di (dU zs cs s) (x+604800) none x out/\out.length<=1510:=λs h=>by
   have hk:=(g3 s h).ck;have ib:=(g3 s h).ll;have hQ:=(g3 s h).el;obtain⟨S,e,hS,_⟩:=jzu hs hk ib (by omega) (ss:=ss) (a:=x) (b:=x+604800) (by omega) (by omega) (by omega) (by omega);obtain⟨E,q1,q2⟩:=jw5 hs hk (a:=x) (b:=x+604800) (by omega) (by omega) (by omega) (M:=1) (K:=499) (by omega) (by omega) rfl;have:=Wj hS q2;exact⟨S,e,hS,by omega⟩
  have hF:∀s∈ss,j0N ((zs,(ps,(cs,ss))),zs.map tb) s x (x+604800)=some ((j0N ((zs,(ps,(cs,ss))),zs.map tb) s x (x+604800)).getD [])/\di (dU zs cs s) (x+604800) none x ((j0N ((zs,(ps,(cs,ss))),zs.map tb) s x (x+604800)).getD [])/\((j0N ((zs,(ps,(cs,ss))),zs.map tb) s x (x+604800)).getD []).length<=1510:=λs h=>by
   obtain⟨out,e,h1,h2⟩:=mL s h;rw[e,kz];exact⟨rfl,h1,h2⟩
  obtain⟨L,eL,hI,lL1,lL2⟩:=js0 hs (K:=1510) (by omega) hc (by omega) (a:=x) (b:=x+604800) (by omega) (by omega) (by omega) (by omega) mL
  have EK:r5 ss.length<=1:=by
   have:ss.length=0\/ss.length=1\/ss.length=2:=by omega
   rcases this with h|h|h<;>rw[h]<;>decide
  have EN:=rZ (key:=ah) L;generalize hFd:(λs:cA=>(j0N ((zs,(ps,(cs,ss))),zs.map tb) s x (x+604800)).getD [])=F at *
  have ON:∀s∈ss,j0N ((zs,(ps,(cs,ss))),zs.map tb) s x (x+604800)=some (F s)/\di (dU zs cs s) (x+604800) none x (F s)/\(F s).length<=1510:=λs h=>by
   rw[<-hFd];exact hF s h
  have Hg:1510*ss.length<=3020:=by omega
  have nL:=λp=>XB F (K:=1510) p ss λs h=>(ON s h).2.2;have Vr:=λp=>jzG p (br ah L)
  have hV:∀i:Nat,∃V:aS,i<ps.length->j14 (zs,(ps,(cs,ss))) (i:Int) x (x+604800)=some (V,0)/\V.Pairwise fk/\V.length<=4*lX F (i:Int) ss+211+(gE (i:Int) (br ah L)).length/\∀y∈V,y.2.1=(i:Int)/\oz y:=λi=>by
   by_cases hi:i<ps.length
   .have h1:=nL (i:Int);have h2:=Vr (i:Int);obtain⟨V,q⟩:=jxC hs (K:=1510) (by omega) hc (a:=x) (b:=x+604800) (by omega) (by omega) (by omega) (by omega) ON (by omega) hi (by omega) eL hI (by omega) (by omega);exact⟨V,λ_=>q⟩
   .exact⟨[],λh=>absurd h hi⟩
  obtain⟨f,hf⟩:=Classical.axiomOfChoice hV;have Fh:∀i,i<ps.length->j14 (zs,(ps,(cs,ss))) (i:Int) x (x+604800)=some (f i,0)/\(f i).Pairwise fk/\∀y∈f i,y.2.1=(i:Int)/\oz y:=λi hi=>⟨(hf i hi).1,(hf i hi).2.1,(hf i hi).2.2.2⟩
  have yY:(bA f ps.length).length<=16384:=by
   rw[Xv];have h1:=Xr (f:=λi=>(f i).length) (g:=λi=>4*lX F (i:Int) ss+211+(gE (i:Int) (br ah L)).length) ps.length (λi hi=>(hf i hi).2.2.1);rw[EL,EL,XA,Xz]at h1;have h2:=Xt F (K:=1510) ps.length ss λs h=>(ON s h).2.2
   have h3:dj (λi=>(gE (i:Int) (br ah L)).length) ps.length<=(br ah L).length:=by
    have:=OI (λz:lg=>z.1) ps.length (br ah L)
    have e:(λi:Nat=>(gE (i:Int) (br ah L)).length)=λi:Nat=>((br ah L).filter λz=>z.1==(i:Int)).length:=by
     funext i
     unfold gE;rw[kb]
    rw[e];exact this
   omega
  obtain⟨R,eR,hR,lR,OO⟩:=jzK Fh (by omega) yY hs hc (by omega) (by omega) (by omega) (by omega);have l0:=XF Fh (by omega) yY (R:=R) (by omega) OO ps.length 0 (by omega) (by simp[bA]);simp only[e1,j3,e3];rw[ai (x:=x+604800) (by omega) (by omega),show jeP (zs,ps,cs,ss) x (x+604800)=_ from eR];simp only[j3,jp,j6,show Int.ofNat ps.length=(ps.length:Int) from rfl];rw[show DB x (x+604800) 0 (ps.length:Int) 0 zs ps cs ss R=_ from l0];simp only[j3,nV]
  have l4:DC ((bA f ps.length).length:Int) 1 R=some (.inr (((bA f ps.length).length:Int),R)):=by
   by_cases h:R.length=0
   .rw[Kx];simp only[j3d,show Int.ofNat R.length=(R.length:Int) from rfl];rw[al (by omega),j6,aW]
   .exact XG (by omega) hR (R.length-1) 1 (by omega) (by omega)
  rw[l4];simp only[j3,nV,show Int.ofNat R.length=(R.length:Int) from rfl];rw[ee (show ((bA f ps.length).length:Int)=(R.length:Int) by omega),j5];simp only[Xo,j3]
 .rw[al hl];simp only[k7,j5,Xo,j3]
end Go.Proofs.Pw
