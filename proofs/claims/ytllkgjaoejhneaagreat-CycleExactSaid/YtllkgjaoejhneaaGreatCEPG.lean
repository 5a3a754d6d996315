/- The references of Ds 11 and 12: GN the cuts nothing changes. -/
import Derived.Test.YtllkgjaoejhneaaGreatCEPF
import Derived.Test.YtllkgjaoejhneaaGreatCEPB
import Derived.Test.YtllkgjaoejhneaaGreatCEPD
open _root_ renaming Int->d,ByteArray->H,List->J,Nat->N,Option->S
open Int renaming ofNat->D,tmod->K
open Option renaming some->E,none->X
open Decidable renaming decide->F
open List renaming length->G,getD_eq_getElem?_getD->R,getD->U
open Bool renaming true->I,false->M
open ByteArray renaming empty->O,ext->À
open Go Go.Lft
namespace Go.Proofs.Pw
def yX(out:J d)(x y:d):Prop:=∀c∈out,¬(x<c/\c<=y)
theorem yX.left{A B:J d}{x y:d}(h:yX (A++B) x y):yX A x y:=λc hc=>h c (kj _ hc)
theorem yX.right{A B:J d}{x y:d}(h:yX (A++B) x y):yX B x y:=λc hc=>h c (kq _ hc)
section
variable{zs:J bz}{ps:J cZ}{cs:J aT}{ss:J cL}(hs:lG zs ps cs)
include hs
end
structure TG(o:d)(l:aW):Prop where
 len:l.length<=1000
 gap:∀i,i+1<l.length->dS l i+604800<=dS l (i+1)
 pos:∀i,i<l.length->0<=dS l i
 max:∀i,i<l.length->dS l i<=8589934592
 of0:∀i,i<=l.length -> -64800<=bL o l i
 of1:∀i,i<=l.length->bL o l i<=64800
section
variable{o:d}{l:aW}(h:TG o l)
include h
theorem TG.at_lt:∀(k i:N),i+k+1<l.length->dS l i+604800<=dS l (i+k+1)
 |0,i,hk=>h.gap i hk
 |k+1,i,hk=>by
  have h1:=TG.at_lt k i aa;have h2:=h.gap (i+k+1) aa;rw[show i+(k+1)+1=i+k+1+1 by omega];omega
theorem TG.at_le{i j:N}(eJ:i<j)(hj:j<l.length):dS l i+604800<=dS l j:=by
 have:=h.at_lt (j-i-1) i aa;rwa[show i+(j-i-1)+1=j by omega]at this
theorem TG.frm_le1{i:N}(hi:i<=l.length):ba l i<=ba l (i+1):=by
 rcases qr i l.length with hl|hl
 .rw[ie hl];cases i with
  |zero=>rw[mn];exact h.pos 0 hl
  |succ i=>rw[ie aa];have:=h.gap i hl;omega
 .have:i=l.length:=aa;subst this;rw[mo];cases hq:l.length with
  |zero=>rw[mn];omega
  |succ n=>rw[ie aa];have:=h.max n aa;omega
theorem TG.frm_gap{i j:N}(hi:1<=i)(eJ:i<j)(hj:j<=l.length):ba l i+604800<=ba l j:=by
 obtain⟨i,rfl⟩:∃i',i=i'+1:=⟨i-1,aa⟩;obtain⟨j,rfl⟩:∃j',j=j'+1:=⟨j-1,aa⟩;rw[ie aa,ie aa];exact h.at_le aa aa
theorem TG.frm_le{i j:N}(eJ:i<=j)(hj:j<=l.length+1):ba l i<=ba l j:=by
 induction j with
 |zero=>have:i=0:=aa;subst this;omega
 |succ j ih=>
  by_cases he:i=j+1
  .subst he;omega
  .have h1:=ih aa aa;have h2:=h.frm_le1 (i:=j) aa;omega
theorem TG.frm_lt{i:N}(hi:i<=l.length)(h0:0<i):ba l i<ba l (i+1):=by
 rcases qr i l.length with hl|hl
 .have:=h.frm_gap (i:=i) (j:=i+1) h0 aa aa;omega
 .have:i=l.length:=aa;subst this;obtain⟨n,hn⟩:∃n,l.length=n+1:=⟨l.length-1,aa⟩;rw[mo,show ba l l.length=dS l n by rw[hn];exact ie aa];have:=h.max n aa;omega
end
theorem uy(n lo hi:d):(j69 n lo hi=E I/\j7d n lo hi=E I/\lo<=n/\n<=hi)\/(j69 n lo hi=E M/\j7d n lo hi=E M):=by
 by_cases h:lo<=n/\n<=hi
 .exact .inl ⟨gw h.1 h.2,gw h.1 h.2,h.1,h.2⟩
 .exact .inr ⟨wX h,wX h⟩
theorem jva(r:aP):(j8L r=E 0/\j8S r=E I/\gx r)\/(j8L r=E 1/\j8S r=E M):=by
 simp only[j8L,j8S];rcases uy r.1 1970 2240 with⟨a,b,c1,c2⟩|⟨a,b⟩
 case inr=>simp only[a,b,ja,jo,jc,jd];exact .inr ⟨trivial,trivial⟩
 rw[a,b];simp only[ja,jl,jc,jd];clear a b;rcases uy r.2.1 r.1 2240 with⟨a,b,d1,d2⟩|⟨a,b⟩
 case inr=>simp only[a,b,ja,jo,jc,jd];exact .inr ⟨trivial,trivial⟩
 rw[a,b];simp only[ja,jl,jc,jd];clear a b;rcases uy r.2.2.1 1 12 with⟨a,b,e1,e2⟩|⟨a,b⟩
 case inr=>simp only[a,b,ja,jo,jc,jd];exact .inr ⟨trivial,trivial⟩
 rw[a,b];simp only[ja,jl,jc,jd];clear a b;rcases uy r.2.2.2.1 1 5 with⟨a,b,f1,f2⟩|⟨a,b⟩
 case inr=>simp only[a,b,ja,jo,jc,jd];exact .inr ⟨trivial,trivial⟩
 rw[a,b];simp only[ja,jl,jc,jd];clear a b;rcases uy r.2.2.2.2.1 0 6 with⟨a,b,g1,g2⟩|⟨a,b⟩
 case inr=>simp only[a,b,ja,jo,jc,jd];exact .inr ⟨trivial,trivial⟩
 rw[a,b];simp only[ja,jl,jc,jd];clear a b;rcases uy r.2.2.2.2.2.1 0 86399 with⟨a,b,i1,i2⟩|⟨a,b⟩
 case inr=>simp only[a,b,ja,jo,jc,jd];exact .inr ⟨trivial,trivial⟩
 rw[a,b];simp only[ja,jl,jc,jd];clear a b;rcases uy r.2.2.2.2.2.2 (-64800) 64800 with⟨a,b,j1,j2⟩|⟨a,b⟩
 case inr=>simp only[a,b,ja,jo,jc];exact .inr ⟨trivial,trivial⟩
 rw[a,b];simp only[ja,jl,jd];exact .inl ⟨trivial,trivial,c1,d1,d2,e1,e2,f1,f2,g1,g2,i1,i2,j1,j2⟩
theorem US{rs:J aP}(hlen:rs.length<=100)(nm:H)(o:d):∀(n i:N)(s:d),i+n=rs.length->0<=s->s<=300*i->¬(∀r∈rs.drop i,gx r)->
  yD s rs (rs.length:d) (i:d) nm o rs=E (.inl 1)/\yI s (i:d) nm o rs=E (.inl 1)
 |0,i,s,hi,_,_,hb=>by
  rw[jk aa]at hb;exact absurd (λr hr=>by simp at hr) hb
 |n+1,i,s,hi,gE,iN,hb=>by
  have ay:i<rs.length:=aa;have hg:rs.getD i ((0:d),((0:d),((0:d),((0:d),((0:d),((0:d),(0:d)))))))=rs[i]:=by simp[ay]
  rw[Kc,Ki];simp only[j1u,j1C,show D (G rs)=(rs.length:d) from rfl];rw[ai (show (i:d)<(rs.length:d) by omega),bR];simp only[jc,je,hg];rcases jva rs[i]with⟨a,b,hr⟩|⟨a,b⟩
  .have h0:=hr.y0;have h1:=hr.y1;have h2:=hr.y2
   have ih:=US hlen nm o n (i+1) (s+(rs[i].2.1-rs[i].1+1)) aa aa aa (λh=>hb λr GO=>by
    rw[jj ay]at GO;rcases jm.1 GO with rfl|GO
    .exact hr
    .exact h r GO)
   simp only[a,b,ja,ji,jl,jd,aZ];rw[au (x:=rs[i].2.1-rs[i].1),au (x:=rs[i].2.1-rs[i].1+1),au (x:=s+(rs[i].2.1-rs[i].1+1)),au (x:=(i:d)+1)];exact ih
  .simp only[a,b,ja,jo,jc,bd];exact⟨rfl,trivial⟩
def lh(now:d)(p:S d):aW->S aW
 |[]=>E []
 |x::r=>if x.2=now then lh now p r else
  if -86400<x.2-now/\x.2-now<86400/\0<=x.1-now/\x.1-now<=8589934592/\(p.all λq=>F (q+604800<=x.1-now))=I then (lh x.2 (E (x.1-now)) r).map ((x.1-now,x.2):: ·) else X
def pU(acc:aW):S aW->d ⊕ aW
 |none=> .inl 6
 |some l=> .inr (acc++l)
theorem UT(acc:aW)(y:d×d)(q:S aW):pU acc (q.map (y :: ·))=pU (acc++[y]) q:=by
 cases q with
 |none=>rfl
 |some l=>simp[pU]
def OB(L:aW):Prop:=∀x∈L,(-1000000000000<=x.1/\x.1<=1000000000000) /\ -64800<=x.2/\x.2<=64800
theorem jwY{acc:aW}(h:acc≠[]):acc.getLast? = E (acc.getD (acc.length-1) (0,0)):=by
 have cI:0<acc.length:=List.length_pos_iff.2 h;rw[List.getLast?_eq_getElem?,R,ka (show acc.length-1<acc.length by omega)];rfl
theorem UU{L:aW}(hL:L.length<=1000)(hO:OB L):∀(n i:N)(now:d)(acc:aW),i+n=L.length -> -64800<=now->now<=64800->acc.length<=i->(∀x∈acc,0<=x.1/\x.1<=8589934592)->
  yE now (L.length:d) (i:d) acc L=E (pU acc (lh now (acc.getLast?.map (·.1)) (L.drop i)))/\yJ now (i:d) acc L=E (pU acc (lh now (acc.getLast?.map (·.1)) (L.drop i)))
 |0,i,now,acc,hi,_,_,_,_=>by
  rw[E8,FD,jk aa];simp only[j18,j1j,show D (G L)=(L.length:d) from rfl];rw[al (show¬(i:d)<(L.length:d) by omega)];simp only[jd,bd,lh,pU,zh];exact⟨trivial,trivial⟩
 |n+1,i,now,acc,hi,h9,lD,yc,gY=>by
  have ay:i<L.length:=aa;obtain⟨⟨x0,x1⟩,o0,o1⟩:=hO _ (jq ay);have bG:L.getD i ((0:d),(0:d))=L[i]:=by simp[ay]
  have UW:=λnow acc=>UU hL hO n (i+1) now acc;rw[jj ay,E8,FD];simp only[j18,j1j,show D (G L)=(L.length:d) from rfl];rw[ai (show (i:d)<(L.length:d) by omega),bR];simp only[jc,je,bG];generalize L[i]=x at *;rw[au (x:=(i:d)+1)];simp only[lh,show D (G acc)=(acc.length:d) from rfl];by_cases hx:x.2=now
  .rw[if_pos hx,fi hx];simp only[jc,aZ];exact UW now acc aa h9 lD aa gY
  rw[if_neg hx,cN hx,au (x:=x.1-now),au (x:=x.2-now),au (x:=(acc.length:d)-1)];simp only[jd]
  have Ny:∀b:Bool,(b=I->0<acc.length)->(inR ((acc.length:d)-1) acc.length || !b)=true:=λb hb=>by
   cases b with
   |false=>simp
   |true=>have:=hb rfl;rw[bR];rfl
  by_cases hd : -86400<x.2-now/\x.2-now<86400
  case neg=>rw[if_neg (λh=>hd ⟨h.1,h.2.1⟩),Ng (λh=>hd ⟨aa,aa⟩)];rw[show (cond (F (x.2-now>=86400)) I (F (x.2-now <= -86400)))=I by simp only[zo,qk,jp];omega];rw[Ny _ af];simp only[jc,bd,ja,jo,pU];exact⟨trivial,trivial⟩
  rw[show (cond (F (x.2-now>=86400)) I (F (x.2-now <= -86400)))=M by rw[qc];simp only[ne_eq,zo,qk,jp];omega,
   la (show (-86399:d)<=x.2-now by omega) (show x.2-now<=86399 by omega)]
  simp only[jd,ja,jl];by_cases ha:0<=x.1-now/\x.1-now<=8589934592
  case neg=>rw[if_neg (λh=>ha ⟨h.2.2.1,h.2.2.2.1⟩),wX ha,Ng ha];simp only[ja];rw[Ny _ af];simp only[jo,jc,bd,pU];exact⟨trivial,trivial⟩
  rw[gw ha.1 ha.2,la ha.1 ha.2];simp only[ja,jl,jd,jo,zk]
  have dZ:=UW x.2 (acc++[(x.1-now,x.2)]) aa o0 o1 aN (λy hy=>by
   rcases jx.1 hy with hy|hy
   .exact gY y hy
   .simp at hy;subst hy;exact ha)
  rw[show (acc++[(x.1-now,x.2)]).getLast? = E (x.1-now,x.2) by simp,qa]at dZ;by_cases he:acc=[]
  .subst he;simp only[ku,List.getLast?_nil,Option.map_none,Option.all_none];rw[show F (((0:N):d)>0)=M from rfl,if_pos ⟨hd.1,hd.2,ha.1,ha.2,trivial⟩,UT];simp only[jo,vw,jc,jd];rw[ai (by simp[aR])];simp only[jc,aZ];exact dZ
  .have cI:0<acc.length:=List.length_pos_iff.2 he;have cW:=jwY he;have hb:=gY (acc.getD (acc.length-1) (0,0)) (List.mem_of_getLast? cW);rw[Ny _ (λ_=>cI),bR,ai (show (acc.length:d)>0 by omega),show ((acc.length:d)-1).toNat=acc.length-1 by omega,cW];simp only[jc,qa,Option.all_some];generalize acc.getD (acc.length-1) ((0:d),(0:d))=y at *;rw[au (x:=y.1+604800),au (x:=x.1-now-y.1)];by_cases hg:y.1+604800<=x.1-now
   .rw[if_pos ⟨hd.1,hd.2,ha.1,ha.2,ai hg⟩,UT,al (show¬x.1-now<y.1+604800 by omega),al (show¬x.1-now-y.1<604800 by omega),ai (by simp[aR];omega)];simp only[jc,jd,aZ];exact dZ
   .rw[if_neg (λh=>hg (ky h.2.2.2.2)),ai (show x.1-now<y.1+604800 by omega),ai (show x.1-now-y.1<604800 by omega)];simp only[jc,bd,pU];exact⟨trivial,trivial⟩
def Nz(p:S d):aW->Prop
 |[]=>True
 |x::r=>(0<=x.1/\x.1<=8589934592/\(∀q,p=E q->q+604800<=x.1) /\ -64800<=x.2/\x.2<=64800)/\Nz (E x.1) r
theorem NA:∀(L l:aW)(now:d)(p:S d),OB L->lh now p L=E l->Nz p l/\l.length<=L.length
 |[],l,now,p,_,h=>by
  simp only[lh,jb]at h;subst h;exact⟨trivial,jz _⟩
 |x::r,l,now,p,hO,h=>by
  have hx:=(hO x af).2;have hr:OB r:=λy hy=>hO y (by simp[hy]);simp only[lh]at h;split at h
  .obtain⟨a,b⟩:=NA r l now p hr h;exact⟨a,aN⟩
  split at h
  .next hc=>
   cases hq:lh x.2 (E (x.1-now)) r with
   |none=>rw[hq]at h;simp at h
   |some l'=>rw[hq]at h;simp only[qa,jb]at h;subst h;obtain⟨a,b⟩:=NA r l' _ _ hr hq;obtain⟨c1,c2,c3,c4,c5⟩:=hc;exact⟨⟨⟨c3,c4,λq hq=>by subst hq;simpa using c5,hx⟩,a⟩,aN⟩
  .simp at h
theorem UX:∀(l:aW)(p:S d),Nz p l->(∀i,i+1<l.length->dS l i+604800<=dS l (i+1))/\(∀i,i<l.length->0<=dS l i/\dS l i<=8589934592)/\
  (∀o i, -64800<=o->o<=64800->i<=l.length -> -64800<=bL o l i/\bL o l i<=64800)
 |[],_,_=>⟨λi h=>by simp at h,λi h=>by simp at h,λo i h1 h2 h3=>by
  have:i=0:=by simpa using h3
  subst this;exact⟨h1,h2⟩⟩
 |x::r,p,h=>by
  obtain⟨⟨g3,g4,g5,g6,g7⟩,g8⟩:=h;obtain⟨h1,h2,h3⟩:=UX r _ g8;refine⟨λi hi=>?_,λi hi=>?_,λo i jU iV hi=>?_⟩
  .cases i with
   |zero=>
    cases r with
    |nil=>simp at hi
    |cons y ys=>have:=g8.1.2.2.1 _ rfl;exact this
   |succ i=>exact h1 i (by simp at hi ⊢;omega)
  .cases i with
   |zero=>exact⟨g3,g4⟩
   |succ i=>exact h2 i (by simp at hi ⊢;omega)
  .cases i with
   |zero=>exact⟨jU,iV⟩
   |succ i=>
    cases i with
    |zero=>exact⟨g6,g7⟩
    |succ i=>exact h3 x.2 (i+1) g6 g7 (by simp at hi ⊢;omega)
theorem jwZ{rs:J aP}(h:∀r∈rs,gx r):OB (dD (occs rs)):=λx hx=>by
 have hx:=Ue hx;obtain⟨r,hr,j,_,rfl⟩:=Uf hx;exact⟨MT h _ hx,(h r hr).o0,(h r hr).o1⟩
def ZF(z:H×(d×J aP)):Prop:=z.2.2.length<=100000/\(occs z.2.2).length<20
theorem UY(z:H×(d×J aP))(hf:(occs z.2.2).length<20):∃l e,j0M z=E (l,e)/\j0g z=E (l,e)/\l.length<=1000/\(e=0->TG z.2.1 l/\(-64800<=z.2.1/\z.2.1<=64800)/\lh z.2.1 X (dD (occs z.2.2))=E l):=by
 obtain⟨nm,o,rs⟩:=z;rcases uy o (-64800) 64800 with⟨a,b,o0,o1⟩|⟨a,b⟩
 case inr=>
  refine⟨[],1,?_,?_,af,af⟩
  .simp only[j0M,j1W,a,ja,jo,jc];rfl
  .simp only[j0g,b,ja,jo,jc]
 by_cases ES:rs.length>16
 .refine⟨[],5,?_,?_,af,af⟩
  .simp only[j0M,j1W,a,ja,jl,jd,show D (G rs)=(rs.length:d) from rfl];rw[ai (show (rs.length:d)>16 by omega)];rfl
  .simp only[j0g,b,ja,jl,jd,show D (G rs)=(rs.length:d) from rfl];rw[ai (show (rs.length:d)>16 by omega)];rfl
 by_cases ar:∀r∈rs,gx r
 case neg=>
  have hb:=US (rs:=rs) aa nm o rs.length 0 0 aa aa aa (by rwa[jw]);rw[show ((0:N):d)=0 from rfl]at hb;refine⟨[],1,?_,?_,af,af⟩
  .simp only[j0M,j1W,a,ja,jl,jd,show D (G rs)=(rs.length:d) from rfl];rw[al (show¬(rs.length:d)>16 by omega),jd,hb.1];rfl
  .simp only[j0g,b,ja,jl,jd,show D (G rs)=(rs.length:d) from rfl];rw[al (show¬(rs.length:d)>16 by omega),jd,hb.2];rfl
 have e0:=MV ar aa nm o rs.length 0 0 aa aa aa;have e2:=MU ar aa rs.length 0 [] aa af;have e3:=Nh ar aa nm o rs.length 0 0 aa aa aa;rw[jw]at e0 e2 e3;rw[show ((0:N):d)=0 from rfl,Int.zero_add]at e0 e3;rw[show ((0:N):d)=0 from rfl,qj]at e2;by_cases hn:(occs rs).length>640
 .refine⟨[],5,?_,?_,af,af⟩
  .simp only[j0M,j1W,a,ja,jl,jd,show D (G rs)=(rs.length:d) from rfl];rw[al (show¬(rs.length:d)>16 by omega),jd,e0];simp only[ja,kW];rw[ai (show ((occs rs).length:d)>640 by omega)];rfl
  .simp only[j0g,b,ja,jl,jd,show D (G rs)=(rs.length:d) from rfl];rw[al (show¬(rs.length:d)>16 by omega),jd,e3];simp only[ja,kW];rw[ai (show ((occs rs).length:d)>640 by omega)];rfl
 have Jf:j0f (occs rs)=E (dD (occs rs)):=TI (MT ar) hf;have hl:(dD (occs rs)).length<=640:=by simp[dD,C7];omega
 have UZ:=jwZ ar;obtain⟨t1,t2⟩:=UU (L:=dD (occs rs)) aa UZ (dD (occs rs)).length 0 o [] aa o0 o1 af af;rw[show ((0:N):d)=0 from rfl,jw,show (([]:aW).getLast?.map (·.1))=(X:S d) from rfl]at t1 t2;have f1:j0M (nm,(o,rs))=(E (pU [] (lh o X (dD (occs rs))))).bind λq0=>sumC q0 (λa=>E (([]:aW),a)) (λb=>E (b,(0:d))):=by simp only[j0M,j1W,a,ja,jl,jd,show D (G rs)=(rs.length:d) from rfl];rw[al (show¬(rs.length:d)>16 by omega),jd,e0];simp only[ja,kW];rw[al (show¬((occs rs).length:d)>640 by omega),jd,zD rs,e2];simp only[ja,Jf,ji,jd,show D (dD (occs rs)).length=((dD (occs rs)).length:d) from rfl,t1]
 have f2:j0g (nm,(o,rs))=(E (pU [] (lh o X (dD (occs rs))))).bind λq0=>sumC q0 (λa=>E (([]:aW),a)) (λb=>E (b,(0:d))):=by simp only[j0g,b,ja,jl,jd,show D (G rs)=(rs.length:d) from rfl];rw[al (show¬(rs.length:d)>16 by omega),jd,e3];simp only[ja,kW];rw[al (show¬((occs rs).length:d)>640 by omega),jd,Um ar aa];simp only[ja,t2]
 cases hq:lh o X (dD (occs rs)) with
 |none=>rw[hq]at f1 f2;exact⟨[],6,f1,f2,af,af⟩
 |some l=>rw[hq]at f1 f2;obtain⟨hc,hlen⟩:=NA _ _ _ _ UZ hq;obtain⟨c1,c2,c3⟩:=UX l X hc;exact⟨l,0,f1,f2,aa,λ_=>⟨⟨aa,c1,λi hi=>(c2 i hi).1,λi hi=>(c2 i hi).2,λi hi=>(c3 o i o0 o1 hi).1,λi hi=>(c3 o i o0 o1 hi).2⟩,⟨o0,o1⟩,rfl⟩⟩
theorem U0{s:H}(hs:s.size<=24):∀(n i:N),i+n=s.size->∃r:Bool ⊕ Unit,E1 s (s.size:d) (i:d)=E r/\Fx s (i:d)=E r/\(r = .inl M\/r = .inr ())
 |0,i,hi=>by
  rw[RD,R9];simp only[j3X,j57,show D s.size=(s.size:d) from rfl];rw[al (show¬(i:d)<(s.size:d) by omega)];simp only[jd,bd];exact⟨.inr (),rfl,rfl,.inr rfl⟩
 |n+1,i,hi=>by
  obtain⟨r,r1,r2,r3⟩:=U0 hs n (i+1) aa;rw[RD,R9];simp only[j3X,j57,j9S,jeS,jiX,ja,show D s.size=(s.size:d) from rfl];rw[ai (show (i:d)<(s.size:d) by omega),bR,au (x:=(i:d)+1)];simp only[jc,zj];by_cases ha:97<=dz s i/\dz s i<=122
  .rw[ai (show dz s i>=97 from ha.1),ai ha.2,al (show¬dz s i<97 by omega),al (show¬dz s i>122 by omega)];simp only[jc,jl,jd,aZ];exact⟨r,r1,r2,r3⟩
  .have e:cond (F (dz s i>=97)) (F (dz s i<=122)) M=false:=by
    by_cases hx:dz s i>=97
    .rw[ai hx,jc];exact al aa
    .rw[al hx,jd]
   have e':cond (F (dz s i<97)) I (F (dz s i>122))=true:=by
    by_cases hx:dz s i<97
    .rw[ai hx,jc]
    .rw[al hx,jd];exact ai aa
   rw[e,e'];simp only[jo,jc];by_cases hb:48<=dz s i/\dz s i<=57
   .rw[ai (show dz s i>=48 from hb.1),ai hb.2];simp only[jc,jl,jd,aZ];exact⟨r,r1,r2,r3⟩
   .have e2:cond (F (dz s i>=48)) (F (dz s i<=57)) M=false:=by
     by_cases hx:dz s i>=48
     .rw[ai hx,jc];exact al aa
     .rw[al hx,jd]
    rw[e2];simp only[jo,jc];by_cases hc:dz s i=95
    .rw[show (dz s i != 95)=M by rw[hc];rfl];simp only[jd,aZ];exact⟨r,r1,r2,r3⟩
    .rw[show (dz s i != 95)=I by simpa using hc];simp only[jc];by_cases hd:dz s i=45
     .rw[show (dz s i != 45)=M by rw[hd];rfl];simp only[jd,aZ];exact⟨r,r1,r2,r3⟩
     .rw[show (dz s i != 45)=I by simpa using hd];simp only[jc,bd];exact⟨.inl M,rfl,rfl,.inl rfl⟩
theorem U1(s:H):∃b,jbL s=E b/\jia s=E b:=by
 simp only[jbL,jia,show D s.size=(s.size:d) from rfl];by_cases hz:s.size=0\/24<s.size
 .have t1:cond (s.toList==ByteArray.empty.toList) I (F ((s.size:d)>24))=true:=by
   rcases hz with hz|hz
   .have:s=ByteArray.empty:=À (Array.eq_empty_of_size_eq_zero hz);rw[this];simp
   .rw[ai (show (s.size:d)>24 by omega)];cases (s.toList==ByteArray.empty.toList)<;>rfl
  have t2:cond (F ((s.size:d)<1)) I (F ((s.size:d)>24))=true:=by
   rcases hz with hz|hz
   .rw[ai aa];rfl
   .rw[ai (show (s.size:d)>24 by omega)];cases F ((s.size:d)<1)<;>rfl
  rw[t1,t2];simp only[jc,jl,jo,vw];exact⟨M,rfl,rfl⟩
 .have br:s≠ByteArray.empty:=λh=>hz (.inl (by rw[h];rfl));have iN:1<=s.size:=aa;have kC:s.size<=24:=aa;rw[UO br,al (show¬(s.size:d)>24 by omega),al (show¬(s.size:d)<1 by omega),bR];simp only[jc,jd,zj,j9S,ja];by_cases ha:97<=dz s 0/\dz s 0<=122
  .obtain⟨r,r1,r2,r3⟩:=U0 kC s.size 0 aa;rw[show ((0:N):d)=0 from rfl]at r1 r2;rw[ai (show dz s 0>=97 from ha.1),ai ha.2,al (show¬dz s 0<97 by omega),al (show¬dz s 0>122 by omega),r1,r2];rcases r3 with rfl|rfl
   .exact⟨M,rfl,rfl⟩
   .exact⟨I,rfl,rfl⟩
  .have e:cond (F (dz s 0>=97)) (F (dz s 0<=122)) M=false:=by
    by_cases hx:dz s 0>=97
    .rw[ai hx,jc];exact al aa
    .rw[al hx,jd]
   have e':cond (F (dz s 0<97)) I (F (dz s 0>122))=true:=by
    by_cases hx:dz s 0<97
    .rw[ai hx,jc]
    .rw[al hx,jd];exact ai aa
   rw[e,e'];exact⟨M,rfl,rfl⟩
theorem U2{s:H}:∀{l:J H},s∈l->lK M (mm l) s=I
 |[],h=>by simp at h
 |k::l,h=>by
  show cond (s==k) I (lK M (mm l) s)=I;cases hb:(s==k) with
  |true=>rfl
  |false=>
   rw[jd];rcases jm.1 h with rfl|h
   .have:=(MapKept.bytes_beq s s).2 rfl;rw[hb]at this;simp at this
   .exact U2 h
theorem U3{L:J H}{s:H}(hl:L.length<=1000):∀(n k:N),k+n=L.length->∃r:d ⊕ Unit,Fy (L++[s]) (L.length:d) (k:d)=E r/\((s∈L.drop k->r = .inl 4)/\(s∉L.drop k->r = .inr ()))
 |0,k,hk=>by
  rw[Sa,jk aa];simp only[j58];rw[al aa,jd,bd];exact⟨.inr (),rfl,λh=>by simp at h,λ_=>rfl⟩
 |n+1,k,hk=>by
  have ay:k<L.length:=aa;obtain⟨r,r1,r2,r3⟩:=U3 (s:=s) hl n (k+1) aa;have g1:(L++[s]).getD k O=L[k]:=by rw[R,List.getElem?_append_left ay,ka ay];rfl
  have g2:(L++[s]).getD L.length O=s:=by simp[U]
  rw[Sa,jj ay];simp only[j58];rw[ai (show (k:d)<(L.length:d) by omega),cG (n:=(L++[s]).length) (show (0:d)<=(k:d) by omega) aN,cG (n:=(L++[s]).length) (show (0:d)<=(L.length:d) by omega) aN,au (x:=(k:d)+1)];simp only[jc,je,g1,g2];by_cases he:L[k]=s
  .rw[he,kv,jc,bd];exact⟨.inl 4,rfl,λ_=>rfl,λh=>absurd af h⟩
  .rw[UO he,jd,aZ];refine⟨r,r1,λh=>r2 ?_,λh=>r3 (λhm=>h (z6 _ hm))⟩;rcases jm.1 h with h|h
   .exact absurd h.symm he
   .exact h
theorem Dt{L:J H}(hl:L.length<=1000)(s:H):∃e,j3u s (mm L)=E (e,mm (if e=0 then L++[s] else L))/\jaS (L++[s]) (L.length:d)=E e:=by
 obtain⟨b,b1,b2⟩:=U1 s;have g2:(L++[s]).getD L.length O=s:=by simp[U]
 simp only[j3u,jaS,b1,ja];rw[cG (n:=(L++[s]).length) (show (0:d)<=(L.length:d) by omega) aN];simp only[jc,je,g2,b2,ja];cases b with
 |false=>simp only[jo,jc];exact⟨2,rfl,rfl⟩
 |true=>
  simp only[jl,jd];obtain⟨r,r1,r2,r3⟩:=U3 (s:=s) hl L.length 0 aa;rw[jw]at r2 r3;rw[show ((0:N):d)=0 from rfl]at r1;rw[r1];by_cases hm:s∈L
  .rw[U2 hm,r2 hm];exact⟨4,rfl,rfl⟩
  .obtain⟨m1,m2⟩:=Tt hm;rw[m1,m2,r3 hm];exact⟨0,rfl,rfl⟩
theorem U4{nm:H}{o:d}{rs:J aP}(hl:rs.length<=100000):∀(n i:N)(b:Bool),i+n=rs.length->FE b (i:d) nm o rs=E (b&&(rs.drop i).all λr=>K r.2.2.2.2.2.2 60==0)
 |0,i,b,hi=>by
  rw[Si,jk aa];simp only[j3M,show D rs.length=(rs.length:d) from rfl];rw[al aa,jd,bd];simp
 |n+1,i,b,hi=>by
  have ay:i<rs.length:=aa;have bG:rs.getD i ((0:d),((0:d),((0:d),((0:d),((0:d),((0:d),(0:d)))))))=rs[i]:=by simp[U,ay]
  have ih:=λb=>U4 (nm:=nm) (o:=o) hl n (i+1) b aa;rw[Si,jj ay];simp only[j3M,show D rs.length=(rs.length:d) from rfl];rw[ai (show (i:d)<(rs.length:d) by omega),bR,au (x:=(i:d)+1)];simp only[jc,je,bG,zj,aZ,qz];refine(ih _).trans ?_;cases b<;>simp
theorem U5{rs:J aP}(hl:rs.length<=100000):∀(n i:N),i+n=rs.length->∃q,((E9 rs (rs.length:d) (i:d)).bind λq0=>sumC q0 (λa=>E a) (λ_=>E (-1:d)))=E q/\F (q>=0) = !((rs.drop i).all λr=>K r.2.2.2.2.2.2 60==0)
 |0,i,hi=>by
  rw[RI,jk aa];simp only[j0j];rw[al aa,jd,bd];exact⟨-1,rfl,rfl⟩
 |n+1,i,hi=>by
  have ay:i<rs.length:=aa;have bG:rs.getD i ((0:d),((0:d),((0:d),((0:d),((0:d),((0:d),(0:d)))))))=rs[i]:=by simp[U,ay]
  obtain⟨q,q1,q2⟩:=U5 hl n (i+1) aa;rw[RI,jj ay];simp only[j0j,j6a];rw[ai (show (i:d)<(rs.length:d) by omega),bR,au (x:=(i:d)+1)];simp only[jc,je,bG,ja,qz];by_cases h:K rs[i].2.2.2.2.2.2 60=0
  .rw[h];simp only[ji,jd,aZ,kv,zk];exact⟨q,q1,q2⟩
  .rw[show (K rs[i].2.2.2.2.2.2 60 != 0)=I by simpa using h,cN h,jc,bd];exact⟨(i:d),rfl,by rw[ai aa];rfl⟩
theorem NB(z:bz)(hl:ZF z):∃e e1 b,j1B z=E e/\j5D z=E e1/\j8d z=E b/\(e=if e1=0/\b=I then 0 else 8):=by
 obtain⟨l,e1,t1,t2,_,_⟩:=UY z hl.2;have hl:=hl.1;have c1:jbM (z.1,(z.2.1,z.2.2))=E e1:=by simp only[jbM,show j0M (z.1,(z.2.1,z.2.2))=_ from t1,ja]
 have c2:j5D z=E e1:=by simp only[j5D,show j0g (z.1,(z.2.1,z.2.2))=_ from t2,ja]
 have m:=U4 (nm:=z.1) (o:=z.2.1) hl z.2.2.length 0 (K z.2.1 60==0) aa;obtain⟨q,q1,q2⟩:=U5 hl z.2.2.length 0 aa;rw[show ((0:N):d)=0 from rfl,jw]at m;rw[show ((0:N):d)=0 from rfl]at q1;rw[jw]at q2;have hm:j8d z=E ((K z.2.1 60==0)&&z.2.2.all λr=>K r.2.2.2.2.2.2 60==0):=by simp only[j8d,m,ja]
 have hc:j0C z.2.2=E (!(z.2.2.all λr=>K r.2.2.2.2.2.2 60==0)):=by simp only[j0C,j1k,show D z.2.2.length=(z.2.2.length:d) from rfl];rw[q1];simp only[ja,q2]
 refine⟨_,e1,_,?_,c2,hm,rfl⟩;simp only[j1B,c1,ja,hc];by_cases he:e1=0
 .subst he;by_cases ho:K z.2.1 60=0
  .rw[ho];cases (z.2.2.all λr=>K r.2.2.2.2.2.2 60==0)<;>rfl
  .rw[show (K z.2.1 60 != 0)=I by simpa using ho,cN ho];rfl
 .rw[show (e1 != 0)=I by simpa using he,if_neg (λh=>he h.1)];rfl
theorem NC{zs:J bz}{ps:J cZ}{cs:J aT}{ss:J cL}(hz:∀z∈zs,ZF z)(hl:zs.length<=100):∀(n i:N)(L:J H),i+n=zs.length->L.length=i->
  ∃r:d ⊕ Unit,wH zs (zs.length:d) (i:d) (mm L)=E r/\FF (i:d) zs ps cs ss L=E r/\r ≠ .inl 0
 |0,i,L,hi,_=>by
  rw[Kd,Sj];simp only[j0P,j4D,show D zs.length=(zs.length:d) from rfl];rw[al (show¬(i:d)<(zs.length:d) by omega)];simp only[jd,bd];exact⟨.inr (),rfl,rfl,af⟩
 |n+1,i,L,hi,hL=>by
  have ay:i<zs.length:=aa;have bG:zs.getD i (O,((0:d),([]:J aP)))=zs[i]:=by simp[U,ay]
  obtain⟨e,n1,n2⟩:=Dt (L:=L) aa zs[i].1;obtain⟨ez,e1,b,z1,z2,z3,z4⟩:=NB zs[i] (hz _ (jq ay));rw[hL]at n2;rw[Kd,Sj];simp only[j0P,j4D,j6E,show D zs.length=(zs.length:d) from rfl];rw[ai (show (i:d)<(zs.length:d) by omega),bR,au (x:=(i:d)+1)];simp only[jc,je,bG,ja,n1];rw[ai (show L.length+[zs[i].1].length<=aR by simp[aR];omega)];simp only[jc,n2,ja];by_cases he:e=0
  .subst he;simp only[ji,jd,if_true];rw[show j1B (zs[i].1,(zs[i].2.1,zs[i].2.2))=_ from z1,show j5D (zs[i].1,(zs[i].2.1,zs[i].2.2))=_ from z2];simp only[ja,zj,jc];by_cases h1:e1=0
   .subst h1;simp only[ji,jd];rw[show j8d (zs[i].1,(zs[i].2.1,zs[i].2.2))=_ from z3];simp only[ja];cases b with
    |true=>rw[if_pos ⟨rfl,rfl⟩]at z4;subst z4;obtain⟨r,r1,r2,r3⟩:=NC (ps:=ps) (cs:=cs) (ss:=ss) hz hl n (i+1) (L++[zs[i].1]) aa aN;simp only[ji,jl,jd,aZ];exact⟨r,r1,r2,r3⟩
    |false=>rw[if_neg af]at z4;subst z4;exact⟨.inl 8,rfl,rfl,af⟩
   .rw[if_neg (λh=>h1 h.1)]at z4;subst z4;rw[show (e1 != 0)=I by simpa using h1];exact⟨.inl 8,rfl,rfl,af⟩
  .rw[show (e != 0)=I by simpa using he];exact⟨.inl e,rfl,rfl,λh=>he (by injection h)⟩
theorem jtT{zs:J bz}{ps:J cZ}{cs:J aT}{ss:J cL}(hz:∀z∈zs,ZF z)(hl:zs.length<=100):∃e,j2w zs=E e/\jfZ (zs,(ps,(cs,ss)))=E e:=by
 obtain⟨r,r1,r2,r3⟩:=NC (ps:=ps) (cs:=cs) (ss:=ss) hz hl zs.length 0 [] aa rfl;rw[show ((0:N):d)=0 from rfl]at r1 r2;simp only[j2w,jfZ,show D zs.length=(zs.length:d) from rfl];rw[show wH zs (zs.length:d) 0 []=_ from r1,r2];cases r with
 |inl e=>exact⟨e,rfl,rfl⟩
 |inr u=>exact⟨0,rfl,rfl⟩
def cw(p:d):WL->d
 |[]=>0
 |v::r=>if v.1<0\/v.1>=v.2\/v.2>604800 then 1 else if v.1<p then 6 else cw v.2 r
def uz(w:WL)(i:N):Int:=if i=0 then 0 else (w.getD (i-1) (0,0)).2
theorem GP(w:WL)(i:N):uz w (i+1)=(w.getD i (0,0)).2:=by simp[uz]
theorem U6:∀{w:WL}{p:d},p<=604800->cw p w=0->jV p w
 |[],p,hp,_=>hp
 |v::r,p,hp,h=>by
  simp only[cw]at h;split at h
  .simp at h
  split at h
  .simp at h
  exact⟨aa,aa,aa,U6 aa h⟩
def GQ(c:d):d ⊕ Unit:=if c=0 then .inr () else .inl c
theorem U7{w:WL}(hl:w.length<=14):∀(n i:N),i+n=w.length->Fa w w (w.length:d) (i:d)=E (GQ (cw (uz w i) (w.drop i)))
 |0,i,hi=>by
  rw[RJ,jk aa];simp only[j3Y];rw[al aa,jd,bd];rfl
 |n+1,i,hi=>by
  have ih:=U7 hl n (i+1) aa;have ay:i<w.length:=aa;have bG:w.getD i ((0:d),(0:d))=w[i]:=by simp[ay]
  rw[RJ,jj ay];simp only[j3Y];rw[ai (show (i:d)<(w.length:d) by omega),bR,au (x:=(i:d)+1)];simp only[jc,je,bG,cw];rw[GP,bG]at ih;by_cases c1:w[i].1<0\/w[i].1>=w[i].2\/w[i].2>604800
  .rw[if_pos c1,show (cond (cond (F (w[i].1<0)) I (F (w[i].1>=w[i].2))) I (F (w[i].2>604800)))=I by simp only[zo,qk,jp];omega];simp only[jc,bd];rfl
  .rw[if_neg c1,show (cond (cond (F (w[i].1<0)) I (F (w[i].1>=w[i].2))) I (F (w[i].2>604800)))=M by rw[qc];simp only[ne_eq,zo,qk,jp];omega];simp only[jd];by_cases h0:i=0
   .subst h0;rw[al aa,if_neg (by simp[uz];omega)];simp only[jd,aZ];exact ih
   .obtain⟨j,rfl⟩:∃j,i=j+1:=⟨i-1,aa⟩;rw[ai aa,au (x:=((j+1:N):d)-1),bR,show (((j+1:N):d)-1).toNat=j by omega,GP];simp only[jc];by_cases c2:w[j+1].1<(w.getD j (0,0)).2
    .rw[ai c2,if_pos c2,jc,bd];rfl
    .rw[al c2,if_neg c2,jd,aZ];exact ih
theorem U8{w:WL}(hl:w.length<=14):∀(n i:N),i+n=w.length->yK w (i:d)=E (GQ (cw (uz w i) (w.drop i)))
 |0,i,hi=>by
  rw[FG,jk aa];simp only[j2E,show D w.length=(w.length:d) from rfl];rw[al aa,jd,bd];rfl
 |n+1,i,hi=>by
  have ih:=U8 hl n (i+1) aa;have ay:i<w.length:=aa;have bG:w.getD i ((0:d),(0:d))=w[i]:=by simp[ay]
  rw[FG,jj ay];simp only[j2E,show D w.length=(w.length:d) from rfl];rw[ai (show (i:d)<(w.length:d) by omega),bR,au (x:=(i:d)+1)];simp only[jc,je,bG,cw];rw[GP,bG]at ih;by_cases a1:w[i].1<0
  .rw[ai a1,if_pos (Or.inl a1),jc,bd];rfl
  by_cases a2:w[i].1>=w[i].2
  .rw[al a1,ai a2,if_pos (Or.inr (Or.inl a2)),jc,jd,bd];rfl
  by_cases a3:w[i].2>604800
  .rw[al a1,al a2,ai a3,if_pos (Or.inr (Or.inr a3)),jc,jd,jd,bd];rfl
  rw[al a1,al a2,al a3,if_neg aa];simp only[jd];by_cases h0:i=0
  .subst h0;rw[al aa,if_neg (by simp[uz];omega)];simp only[jd,aZ];exact ih
  .obtain⟨j,rfl⟩:∃j,i=j+1:=⟨i-1,aa⟩;rw[ai aa,au (x:=((j+1:N):d)-1),cG (show (0:d)<=((j+1:N):d)-1 by omega) aa,show (((j+1:N):d)-1).toNat=j by omega,GP];simp only[jc];by_cases c2:w[j+1].1<(w.getD j (0,0)).2
   .rw[ai c2,if_pos c2,jc,bd];rfl
   .rw[al c2,if_neg c2,jd,aZ];exact ih
theorem ND(w:WL):∃c,j9K w=E c/\j7x w=E c/\(c=0->jV 0 w/\w.length<=14):=by
 by_cases hl:w.length>14
 .refine⟨5,?_,?_,aa⟩
  .simp only[j9K,show D w.length=(w.length:d) from rfl];rw[ai aa,jc]
  .simp only[j7x,show D w.length=(w.length:d) from rfl];rw[ai aa,jc]
 .refine⟨cw 0 w,?_,?_,λh=>⟨U6 aa h,aa⟩⟩
  .have:=U7 (w:=w) aa w.length 0 aa;rw[show ((0:N):d)=0 from rfl,jw,show uz w 0=0 from rfl]at this;simp only[j9K,show D w.length=(w.length:d) from rfl];rw[al aa,jd,this];simp only[GQ];split
   .next h=>simp[h,sumC]
   .rfl
  .have:=U8 (w:=w) aa w.length 0 aa;rw[show ((0:N):d)=0 from rfl,jw,show uz w 0=0 from rfl]at this;simp only[j7x,show D w.length=(w.length:d) from rfl];rw[al aa,jd,this];simp only[GQ];split
   .next h=>simp[h,sumC]
   .rfl
end Go.Proofs.Pw
