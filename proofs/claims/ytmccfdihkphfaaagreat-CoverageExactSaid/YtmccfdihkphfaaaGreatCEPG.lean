/- Facts. -/
import Derived.Test.YtmccfdihkphfaaaGreatCEPA
import Derived.Test.YtmccfdihkphfaaaGreatCEPB
import Derived.Test.YtmccfdihkphfaaaGreatCEPE
import Derived.Test.YtmccfdihkphfaaaGreatCEPC
open _root_ renaming Int->d,ByteArray->E,Nat->H,List->J,Option->U
open Option renaming some->A,none->X
open List renaming drop_eq_getElem_cons->B,drop_of_length_le->F,length->K,getD->R,getD_eq_getElem?_getD->S
open Decidable renaming decide->D
open Int renaming ofNat->G,tmod->N
open Bool renaming true->I,false->O
open ByteArray renaming empty->M,ext->À,mk->Á
open Go Go.Lft
namespace Go.Proofs.Pw
structure TG(o:d)(l:bm):Prop where
 len:l.length<=1000
 gap:∀i,i+1<l.length->eh l i+604800<=eh l (i+1)
 pos:∀i,i<l.length->0<=eh l i
 max:∀i,i<l.length->eh l i<=8589934592
 of0:∀i,i<=l.length -> -64800<=bq o l i
 of1:∀i,i<=l.length->bq o l i<=64800
section
variable{o:d}{l:bm}(h:TG o l)
include h
theorem TG.at_lt:∀(k i:H),i+k+1<l.length->eh l i+604800<=eh l (i+k+1)
 |0,i,hk=>h.gap i hk
 |k+1,i,hk=>by
  have h1:=TG.at_lt k i aa;have h2:=h.gap (i+k+1) aa;rw[show i+(k+1)+1=i+k+1+1 by omega];omega
theorem TG.at_le{i j:H}(dT:i<j)(hj:j<l.length):eh l i+604800<=eh l j:=by
 have:=h.at_lt (j-i-1) i aa;rwa[show i+(j-i-1)+1=j by omega]at this
theorem TG.frm_le1{i:H}(hi:i<=l.length):aV l i<=aV l (i+1):=by
 rcases qr i l.length with hl|hl
 .rw[ia hl];cases i with
  |zero=>rw[lE];exact h.pos 0 hl
  |succ i=>rw[ia aa];have:=h.gap i hl;omega
 .have:i=l.length:=aa;subst this;rw[lF];cases hq:l.length with
  |zero=>rw[lE];omega
  |succ n=>rw[ia aa];have:=h.max n aa;omega
theorem TG.frm_gap{i j:H}(hi:1<=i)(dT:i<j)(hj:j<=l.length):aV l i+604800<=aV l j:=by
 obtain⟨i,rfl⟩:∃i',i=i'+1:=⟨i-1,aa⟩;obtain⟨j,rfl⟩:∃j',j=j'+1:=⟨j-1,aa⟩;rw[ia aa,ia aa];exact h.at_le aa aa
theorem TG.frm_le{i j:H}(dT:i<=j)(hj:j<=l.length+1):aV l i<=aV l j:=by
 induction j with
 |zero=>have:i=0:=aa;subst this;omega
 |succ j ih=>
  by_cases he:i=j+1
  .subst he;omega
  .have h1:=ih aa aa;have h2:=h.frm_le1 (i:=j) aa;omega
theorem TG.frm_lt{i:H}(hi:i<=l.length)(h0:0<i):aV l i<aV l (i+1):=by
 rcases qr i l.length with hl|hl
 .have:=h.frm_gap (i:=i) (j:=i+1) h0 aa aa;omega
 .have:i=l.length:=aa;subst this;obtain⟨n,hn⟩:∃n,l.length=n+1:=⟨l.length-1,aa⟩;rw[lF,show aV l l.length=eh l n by rw[hn];exact ia aa];have:=h.max n aa;omega
end
theorem yM(n lo hi:d):(j9l n lo hi=A I/\j9M n lo hi=A I/\lo<=n/\n<=hi)\/(j9l n lo hi=A O/\j9M n lo hi=A O):=by
 by_cases h:lo<=n/\n<=hi
 .exact .inl ⟨iZ h.1 h.2,iZ h.1 h.2,h.1,h.2⟩
 .exact .inr ⟨Bi h,Bi h⟩
theorem jET(r:aO):(jcP r=A 0/\jd2 r=A I/\jA r)\/(jcP r=A 1/\jd2 r=A O):=by
 simp only[jcP,jd2];rcases yM r.1 1970 2240 with⟨a,b,c1,c2⟩|⟨a,b⟩
 case inr=>simp(disch:=omega)only[a,b,S0];exact .inr ⟨trivial,trivial⟩
 simp(disch:=omega)only[a,b,S0];clear a b;rcases yM r.2.1 r.1 2240 with⟨a,b,d1,d2⟩|⟨a,b⟩
 case inr=>simp(disch:=omega)only[a,b,S0];exact .inr ⟨trivial,trivial⟩
 simp(disch:=omega)only[a,b,S0];clear a b;rcases yM r.2.2.1 1 12 with⟨a,b,e1,e2⟩|⟨a,b⟩
 case inr=>simp(disch:=omega)only[a,b,S0];exact .inr ⟨trivial,trivial⟩
 simp(disch:=omega)only[a,b,S0];clear a b;rcases yM r.2.2.2.1 1 5 with⟨a,b,f1,f2⟩|⟨a,b⟩
 case inr=>simp(disch:=omega)only[a,b,S0];exact .inr ⟨trivial,trivial⟩
 simp(disch:=omega)only[a,b,S0];clear a b;rcases yM r.2.2.2.2.1 0 6 with⟨a,b,g1,g2⟩|⟨a,b⟩
 case inr=>simp(disch:=omega)only[a,b,S0];exact .inr ⟨trivial,trivial⟩
 simp(disch:=omega)only[a,b,S0];clear a b;rcases yM r.2.2.2.2.2.1 0 86399 with⟨a,b,i1,i2⟩|⟨a,b⟩
 case inr=>simp(disch:=omega)only[a,b,S0];exact .inr ⟨trivial,trivial⟩
 simp(disch:=omega)only[a,b,S0];clear a b;rcases yM r.2.2.2.2.2.2 (-64800) 64800 with⟨a,b,j1,j2⟩|⟨a,b⟩
 case inr=>simp only[a,b,j4,jv,j6];exact .inr ⟨trivial,trivial⟩
 simp(disch:=omega)only[a,b,S0];exact .inl ⟨trivial,trivial,c1,d1,d2,e1,e2,f1,f2,g1,g2,i1,i2,j1,j2⟩
theorem Ő{rs:J aO}(hlen:rs.length<=100)(nm:E)(o:d):∀(n i:H)(s:d),i+n=rs.length->0<=s->s<=300*i->¬(∀r∈rs.drop i,jA r)->
  FY s rs (rs.length:d) (i:d) nm o rs=A (.inl 1)/\Gd s (i:d) nm o rs=A (.inl 1)
 |0,i,s,hi,_,_,hb=>by
  rw[F aa]at hb;exact absurd (λr hr=>by simp at hr) hb
 |n+1,i,s,hi,jG,kM,hb=>by
  have ao:i<rs.length:=aa;have hg:rs.getD i ((0:d),((0:d),((0:d),((0:d),((0:d),((0:d),(0:d)))))))=rs[i]:=by simp[ao]
  rw[O4,P1];simp only[j2a,j2w,show G (K rs)=(rs.length:d) from rfl];rw[ai (show (i:d)<(rs.length:d) by omega),cB];simp only[j6,j8,hg];rcases jET rs[i]with⟨a,b,hr⟩|⟨a,b⟩
  .have h0:=hr.y0;have h1:=hr.y1;have h2:=hr.y2
   have ih:=Ő hlen nm o n (i+1) (s+(rs[i].2.1-rs[i].1+1)) aa aa aa (λh=>hb λr Ln=>by
    rw[B ao]at Ln;rcases jb.1 Ln with rfl|Ln
    .exact hr
    .exact h r Ln)
   simp(disch:=omega)only[a,b,S0];exact ih
  .simp only[a,b,j4,jv,j6,bV];exact⟨rfl,trivial⟩
def nX(now:d)(p:U d):bm->U bm
 |[]=>A []
 |x::r=>if x.2=now then nX now p r else
  if -86400<x.2-now/\x.2-now<86400/\0<=x.1-now/\x.1-now<=8589934592/\(p.all λq=>D (q+604800<=x.1-now))=I then (nX x.2 (A (x.1-now)) r).map ((x.1-now,x.2):: ·) else X
def ug(acc:bm):U bm->d ⊕ bm
 |none=> .inl 6
 |some l=> .inr (acc++l)
theorem ő(acc:bm)(y:d×d)(q:U bm):ug acc (q.map (y :: ·))=ug (acc++[y]) q:=by
 cases q with
 |none=>rfl
 |some l=>simp[ug]
def OB(L:bm):Prop:=∀x∈L,(-1000000000000<=x.1/\x.1<=1000000000000) /\ -64800<=x.2/\x.2<=64800
theorem jHs{acc:bm}(h:acc≠[]):acc.getLast? = A (acc.getD (acc.length-1) (0,0)):=by
 have bZ:0<acc.length:=kg.2 h;rw[List.getLast?_eq_getElem?,S,jn (show acc.length-1<acc.length by omega)];rfl
theorem Œ{L:bm}(hL:L.length<=1000)(hO:OB L):∀(n i:H)(now:d)(acc:bm),i+n=L.length -> -64800<=now->now<=64800->acc.length<=i->(∀x∈acc,0<=x.1/\x.1<=8589934592)->
  FZ now (L.length:d) (i:d) acc L=A (ug acc (nX now (acc.getLast?.map (·.1)) (L.drop i)))/\Ge now (i:d) acc L=A (ug acc (nX now (acc.getLast?.map (·.1)) (L.drop i)))
 |0,i,now,acc,hi,_,_,_,_=>by
  rw[Jl,JR];simp(disch:=omega)only[F,j1C,j1R,nX,ug,qu,S0];exact⟨trivial,trivial⟩
 |n+1,i,now,acc,hi,l7,oY,wg,dM=>by
  have ao:i<L.length:=aa;obtain⟨⟨x0,x1⟩,o0,o1⟩:=hO _ (jd ao);have br:L.getD i ((0:d),(0:d))=L[i]:=by simp[ao]
  have œ:=λnow acc=>Œ hL hO n (i+1) now acc;rw[B ao,Jl,JR];simp only[j1C,j1R,show G (K L)=(L.length:d) from rfl];rw[ai (show (i:d)<(L.length:d) by omega),cB];simp only[j6,j8,br];generalize L[i]=x at *;rw[aQ (x:=(i:d)+1)];simp only[nX,show G (K acc)=(acc.length:d) from rfl];by_cases hx:x.2=now
  .rw[if_pos hx,dR hx];simp only[j6,bg];exact œ now acc aa l7 oY aa dM
  rw[if_neg hx,cU hx,aQ (x:=x.1-now),aQ (x:=x.2-now),aQ (x:=(acc.length:d)-1)];simp only[j7]
  have UU:∀b:Bool,(b=I->0<acc.length)->(inR ((acc.length:d)-1) acc.length || !b)=true:=λb hb=>by
   cases b with
   |false=>simp
   |true=>have:=hb rfl;rw[cB];rfl
  by_cases hd : -86400<x.2-now/\x.2-now<86400
  case neg=>rw[if_neg (λh=>hd ⟨h.1,h.2.1⟩),Ua (λh=>hd ⟨aa,aa⟩)];rw[show (cond (D (x.2-now>=86400)) I (D (x.2-now <= -86400)))=I by simp only[zj,qe,jl];omega];rw[UU _ ae];simp(disch:=omega)only[ug,S0];exact⟨trivial,trivial⟩
  rw[show (cond (D (x.2-now>=86400)) I (D (x.2-now <= -86400)))=O by rw[qa];simp only[ne_eq,zj,qe,jl];omega,
   nn (show (-86399:d)<=x.2-now by omega) (show x.2-now<=86399 by omega)]
  simp only[j7,j4,jg];by_cases ha:0<=x.1-now/\x.1-now<=8589934592
  case neg=>rw[if_neg (λh=>ha ⟨h.2.2.1,h.2.2.2.1⟩),Bi ha,Ua ha];simp only[j4];rw[UU _ ae];simp only[jv,j6,bV,ug];exact⟨trivial,trivial⟩
  rw[iZ ha.1 ha.2,nn ha.1 ha.2];simp only[j4,jg,j7,jv,qx]
  have fj:=œ x.2 (acc++[(x.1-now,x.2)]) aa o0 o1 aj (λy hy=>by
   rcases ji.1 hy with hy|hy
   .exact dM y hy
   .simp at hy;subst hy;exact ha)
  rw[show (acc++[(x.1-now,x.2)]).getLast? = A (x.1-now,x.2) by simp,kb]at fj;by_cases he:acc=[]
  .subst he;simp only[js,List.getLast?_nil,Option.map_none,Option.all_none];rw[show D (((0:H):d)>0)=O from rfl,if_pos ⟨hd.1,hd.2,ha.1,ha.2,trivial⟩,ő];simp(disch:=omega)only[S0];exact fj
  .have bZ:0<acc.length:=kg.2 he;have cY:=jHs he;have hb:=dM (acc.getD (acc.length-1) (0,0)) (List.mem_of_getLast? cY);rw[UU _ (λ_=>bZ),cB,ai (show (acc.length:d)>0 by omega),show ((acc.length:d)-1).toNat=acc.length-1 by omega,cY];simp only[j6,kb,Option.all_some];generalize acc.getD (acc.length-1) ((0:d),(0:d))=y at *;rw[aQ (x:=y.1+604800),aQ (x:=x.1-now-y.1)];by_cases hg:y.1+604800<=x.1-now
   .rw[if_pos ⟨hd.1,hd.2,ha.1,ha.2,ai hg⟩,ő,aC (show¬x.1-now<y.1+604800 by omega),aC (show¬x.1-now-y.1<604800 by omega),ai (by simp[aK];omega)];simp only[j6,j7,bg];exact fj
   .rw[if_neg (λh=>hg (kv h.2.2.2.2)),ai (show x.1-now<y.1+604800 by omega),ai (show x.1-now-y.1<604800 by omega)];simp only[j6,bV,ug];exact⟨trivial,trivial⟩
def UW(p:U d):bm->Prop
 |[]=>True
 |x::r=>(0<=x.1/\x.1<=8589934592/\(∀q,p=A q->q+604800<=x.1) /\ -64800<=x.2/\x.2<=64800)/\UW (A x.1) r
theorem UX:∀(L l:bm)(now:d)(p:U d),OB L->nX now p L=A l->UW p l/\l.length<=L.length
 |[],l,now,p,_,h=>by
  simp only[nX,j5]at h;subst h;exact⟨trivial,jh _⟩
 |x::r,l,now,p,hO,h=>by
  have hx:=(hO x ae).2;have hr:OB r:=λy hy=>hO y (by simp[hy]);simp only[nX]at h;split at h
  .obtain⟨a,b⟩:=UX r l now p hr h;exact⟨a,aj⟩
  split at h
  .next hc=>
   cases hq:nX x.2 (A (x.1-now)) r with
   |none=>rw[hq]at h;simp at h
   |some l'=>rw[hq]at h;simp only[kb,j5]at h;subst h;obtain⟨a,b⟩:=UX r l' _ _ hr hq;obtain⟨c1,c2,c3,c4,c5⟩:=hc;exact⟨⟨⟨c3,c4,λq hq=>by subst hq;simpa using c5,hx⟩,a⟩,aj⟩
  .simp at h
theorem Ŕ:∀(l:bm)(p:U d),UW p l->(∀i,i+1<l.length->eh l i+604800<=eh l (i+1))/\(∀i,i<l.length->0<=eh l i/\eh l i<=8589934592)/\
  (∀o i, -64800<=o->o<=64800->i<=l.length -> -64800<=bq o l i/\bq o l i<=64800)
 |[],_,_=>⟨λi h=>by simp at h,λi h=>by simp at h,λo i h1 h2 h3=>by
  have:i=0:=by simpa using h3
  subst this;exact⟨h1,h2⟩⟩
 |x::r,p,h=>by
  obtain⟨⟨g3,g4,g5,g6,g7⟩,g8⟩:=h;obtain⟨h1,h2,h3⟩:=Ŕ r _ g8;refine⟨λi hi=>?_,λi hi=>?_,λo i nj me hi=>?_⟩
  .cases i with
   |zero=>
    cases r with
    |nil=>simp at hi
    |cons y ys=>have:=g8.1.2.2.1 _ rfl;exact this
   |succ i=>exact h1 i (by simp at hi ⊢;omega)
  .cases i with
   |zero=>exact⟨g3,g4⟩
   |succ i=>exact h2 i (by simp at hi ⊢;omega)
  .cases i with
   |zero=>exact⟨nj,me⟩
   |succ i=>
    cases i with
    |zero=>exact⟨g6,g7⟩
    |succ i=>exact h3 x.2 (i+1) g6 g7 (by simp at hi ⊢;omega)
theorem jHt{rs:J aO}(h:∀r∈rs,jA r):OB (dY (occs rs)):=λx hx=>by
 have hx:=ϥ hx;obtain⟨r,hr,j,_,rfl⟩:=Ϧ hx;exact⟨TT h _ hx,(h r hr).o0,(h r hr).o1⟩
def ZF(z:E×(d×J aO)):Prop:=z.2.2.length<=100000/\(occs z.2.2).length<20
theorem ŕ(z:E×(d×J aO))(hf:(occs z.2.2).length<20):∃l e,j14 z=A (l,e)/\j0a z=A (l,e)/\l.length<=1000/\(e=0->TG z.2.1 l/\(-64800<=z.2.1/\z.2.1<=64800)/\nX z.2.1 X (dY (occs z.2.2))=A l):=by
 obtain⟨nm,o,rs⟩:=z;rcases yM o (-64800) 64800 with⟨a,b,o0,o1⟩|⟨a,b⟩
 case inr=>
  refine⟨[],1,?_,?_,ae,ae⟩
  .simp only[j14,j2R,a,j4,jv,j6];rfl
  .simp only[j0a,b,j4,jv,j6]
 by_cases Zr:rs.length>16
 .refine⟨[],5,?_,?_,ae,ae⟩
  .simp only[j14,j2R,a,j4,jg,j7,show G (K rs)=(rs.length:d) from rfl];rw[ai (show (rs.length:d)>16 by omega)];rfl
  .simp only[j0a,b,j4,jg,j7,show G (K rs)=(rs.length:d) from rfl];rw[ai (show (rs.length:d)>16 by omega)];rfl
 by_cases aD:∀r∈rs,jA r
 case neg=>
  have hb:=Ő (rs:=rs) aa nm o rs.length 0 0 aa aa aa (by rwa[jj]);rw[show ((0:H):d)=0 from rfl]at hb;refine⟨[],1,?_,?_,ae,ae⟩
  .simp only[j14,j2R,a,j4,jg,j7,show G (K rs)=(rs.length:d) from rfl];rw[aC (show¬(rs.length:d)>16 by omega),j7,hb.1];rfl
  .simp only[j0a,b,j4,jg,j7,show G (K rs)=(rs.length:d) from rfl];rw[aC (show¬(rs.length:d)>16 by omega),j7,hb.2];rfl
 have e0:=TW aD aa nm o rs.length 0 0 aa aa aa;have e2:=TU aD aa rs.length 0 [] aa ae;have e3:=Ub aD aa nm o rs.length 0 0 aa aa aa;rw[jj]at e0 e2 e3;rw[show ((0:H):d)=0 from rfl,Int.zero_add]at e0 e3;rw[show ((0:H):d)=0 from rfl,jr]at e2;by_cases hn:(occs rs).length>640
 .refine⟨[],5,?_,?_,ae,ae⟩
  .simp only[j14,j2R,a,j4,jg,j7,show G (K rs)=(rs.length:d) from rfl];rw[aC (show¬(rs.length:d)>16 by omega),j7,e0];simp only[j4,o8];rw[ai (show ((occs rs).length:d)>640 by omega)];rfl
  .simp only[j0a,b,j4,jg,j7,show G (K rs)=(rs.length:d) from rfl];rw[aC (show¬(rs.length:d)>16 by omega),j7,e3];simp only[j4,o8];rw[ai (show ((occs rs).length:d)>640 by omega)];rfl
 have CN:j0f (occs rs)=A (dY (occs rs)):=χ (TT aD) hf;have hl:(dY (occs rs)).length<=640:=by simp[dY,Dw];omega
 have Ŗ:=jHt aD;obtain⟨t1,t2⟩:=Œ (L:=dY (occs rs)) aa Ŗ (dY (occs rs)).length 0 o [] aa o0 o1 ae ae;rw[show ((0:H):d)=0 from rfl,jj,show (([]:bm).getLast?.map (·.1))=(X:U d) from rfl]at t1 t2;have f1:j14 (nm,(o,rs))=(A (ug [] (nX o X (dY (occs rs))))).bind λq0=>sumC q0 (λa=>A (([]:bm),a)) (λb=>A (b,(0:d))):=by simp(disch:=omega)only[j14,j2R,a,e0,e2,CN,t1,S0]
 have f2:j0a (nm,(o,rs))=(A (ug [] (nX o X (dY (occs rs))))).bind λq0=>sumC q0 (λa=>A (([]:bm),a)) (λb=>A (b,(0:d))):=by simp(disch:=omega)only[j0a,b,e3,Ϭ aD aa,t2,S0]
 cases hq:nX o X (dY (occs rs)) with
 |none=>rw[hq]at f1 f2;exact⟨[],6,f1,f2,ae,ae⟩
 |some l=>rw[hq]at f1 f2;obtain⟨hc,hlen⟩:=UX _ _ _ _ Ŗ hq;obtain⟨c1,c2,c3⟩:=Ŕ l X hc;exact⟨l,0,f1,f2,aa,λ_=>⟨⟨aa,c1,λi hi=>(c2 i hi).1,λi hi=>(c2 i hi).2,λi hi=>(c3 o i o0 o1 hi).1,λi hi=>(c3 o i o0 o1 hi).2⟩,⟨o0,o1⟩,rfl⟩⟩
theorem ŗ{s:E}(hs:s.size<=24):∀(n i:H),i+n=s.size->∃r:Bool ⊕ Unit,OX s (s.size:d) (i:d)=A r/\PV s (i:d)=A r/\(r = .inl O\/r = .inr ())
 |0,i,hi=>by
  rw[ZJ,_P];simp(disch:=omega)only[j64,j7N,S0];exact⟨.inr (),rfl,rfl,.inr rfl⟩
 |n+1,i,hi=>by
  obtain⟨r,r1,r2,r3⟩:=ŗ hs n (i+1) aa;rw[ZJ,_P];simp only[j64,j7N,jet,jl1,jpV,j4,show G s.size=(s.size:d) from rfl];rw[ai (show (i:d)<(s.size:d) by omega),cB,aQ (x:=(i:d)+1)];simp only[j6,zo];by_cases ha:97<=eJ s i/\eJ s i<=122
  .simp(disch:=omega)only[S0];exact⟨r,r1,r2,r3⟩
  .have e:cond (D (eJ s i>=97)) (D (eJ s i<=122)) O=false:=by
    by_cases hx:eJ s i>=97
    .rw[ai hx,j6];exact aC aa
    .rw[aC hx,j7]
   have e':cond (D (eJ s i<97)) I (D (eJ s i>122))=true:=by
    by_cases hx:eJ s i<97
    .rw[ai hx,j6]
    .rw[aC hx,j7];exact ai aa
   rw[e,e'];simp only[jv,j6];by_cases hb:48<=eJ s i/\eJ s i<=57
   .simp(disch:=omega)only[S0];exact⟨r,r1,r2,r3⟩
   .have e2:cond (D (eJ s i>=48)) (D (eJ s i<=57)) O=false:=by
     by_cases hx:eJ s i>=48
     .rw[ai hx,j6];exact aC aa
     .rw[aC hx,j7]
    rw[e2];simp only[jv,j6];by_cases hc:eJ s i=95
    .rw[show (eJ s i != 95)=O by rw[hc];rfl];simp only[j7,bg];exact⟨r,r1,r2,r3⟩
    .rw[show (eJ s i != 95)=I by simpa using hc];simp only[j6];by_cases hd:eJ s i=45
     .rw[show (eJ s i != 45)=O by rw[hd];rfl];simp only[j7,bg];exact⟨r,r1,r2,r3⟩
     .rw[show (eJ s i != 45)=I by simpa using hd];simp only[j6,bV];exact⟨.inl O,rfl,rfl,.inl rfl⟩
theorem Ř(s:E):∃b,jh4 s=A b/\jp0 s=A b:=by
 simp(disch:=omega)only[jh4,jp0,S0];by_cases hz:s.size=0\/24<s.size
 .have t1:cond (s.toList==ByteArray.empty.toList) I (D ((s.size:d)>24))=true:=by
   rcases hz with hz|hz
   .have:s=ByteArray.empty:=À (Array.eq_empty_of_size_eq_zero hz);rw[this];simp
   .simp(disch:=omega)only[S0];cases (s.toList==ByteArray.empty.toList)<;>rfl
  have t2:cond (D ((s.size:d)<1)) I (D ((s.size:d)>24))=true:=by
   rcases hz with hz|hz
   .rw[ai aa];rfl
   .rw[ai (show (s.size:d)>24 by omega)];cases D ((s.size:d)<1)<;>rfl
  simp(disch:=omega)only[t1,t2,Bool.or_true,S0];exact⟨O,rfl,rfl⟩
 .have bD:s≠ByteArray.empty:=λh=>hz (.inl (by rw[h];rfl));have kM:1<=s.size:=aa;have l5:s.size<=24:=aa;simp(disch:=omega)only[ķ bD,jet,S0];by_cases ha:97<=eJ s 0/\eJ s 0<=122
  .obtain⟨r,r1,r2,r3⟩:=ŗ l5 s.size 0 aa;rw[show ((0:H):d)=0 from rfl]at r1 r2;rw[ai (show eJ s 0>=97 from ha.1),ai ha.2,aC (show¬eJ s 0<97 by omega),aC (show¬eJ s 0>122 by omega),r1,r2];rcases r3 with rfl|rfl
   .exact⟨O,rfl,rfl⟩
   .exact⟨I,rfl,rfl⟩
  .have e:cond (D (eJ s 0>=97)) (D (eJ s 0<=122)) O=false:=by
    by_cases hx:eJ s 0>=97
    .rw[ai hx,j6];exact aC aa
    .rw[aC hx,j7]
   have e':cond (D (eJ s 0<97)) I (D (eJ s 0>122))=true:=by
    by_cases hx:eJ s 0<97
    .rw[ai hx,j6]
    .rw[aC hx,j7];exact ai aa
   rw[e,e'];exact⟨O,rfl,rfl⟩
theorem ř{s:E}:∀{l:J E},s∈l->iQ O (pr l) s=I
 |[],h=>by simp at h
 |k::l,h=>by
  show cond (s==k) I (iQ O (pr l) s)=I;cases hb:(s==k) with
  |true=>rfl
  |false=>
   rw[j7];rcases jb.1 h with rfl|h
   .have:=(MapKept.bytes_beq s s).2 rfl;rw[hb]at this;simp at this
   .exact ř h
theorem Ś{L:J E}{s:E}(hl:L.length<=1000):∀(n k:H),k+n=L.length->∃r:d ⊕ Unit,PW (L++[s]) (L.length:d) (k:d)=A r/\((s∈L.drop k->r = .inl 4)/\(s∉L.drop k->r = .inr ()))
 |0,k,hk=>by
  rw[_Q];simp(disch:=omega)only[F,j7O,S0];exact⟨.inr (),rfl,λh=>by simp at h,λ_=>rfl⟩
 |n+1,k,hk=>by
  have ao:k<L.length:=aa;obtain⟨r,r1,r2,r3⟩:=Ś (s:=s) hl n (k+1) aa;have g1:(L++[s]).getD k M=L[k]:=by rw[S,ko ao,jn ao];rfl
  have g2:(L++[s]).getD L.length M=s:=by simp[R]
  rw[_Q,B ao];simp only[j7O];rw[ai (show (k:d)<(L.length:d) by omega),bL (n:=(L++[s]).length) (show (0:d)<=(k:d) by omega) aj,bL (n:=(L++[s]).length) (show (0:d)<=(L.length:d) by omega) aj,aQ (x:=(k:d)+1)];simp only[j6,j8,g1,g2];by_cases he:L[k]=s
  .rw[he,ke,j6,bV];exact⟨.inl 4,rfl,λ_=>rfl,λh=>absurd ae h⟩
  .rw[ķ he,j7,bg];refine⟨r,r1,λh=>r2 ?_,λh=>r3 (λhm=>h (qm _ hm))⟩;rcases jb.1 h with h|h
   .exact absurd h.symm he
   .exact h
theorem Hd{L:J E}(hl:L.length<=1000)(s:E):∃e,j5r s (pr L)=A (e,pr (if e=0 then L++[s] else L))/\jfV (L++[s]) (L.length:d)=A e:=by
 obtain⟨b,b1,b2⟩:=Ř s;have g2:(L++[s]).getD L.length M=s:=by simp[R]
 simp only[j5r,jfV,b1,j4];rw[bL (n:=(L++[s]).length) (show (0:d)<=(L.length:d) by omega) aj];simp only[j6,j8,g2,b2,j4];cases b with
 |false=>simp only[jv,j6];exact⟨2,rfl,rfl⟩
 |true=>
  simp only[jg,j7];obtain⟨r,r1,r2,r3⟩:=Ś (s:=s) hl L.length 0 aa;rw[jj]at r2 r3;rw[show ((0:H):d)=0 from rfl]at r1;rw[r1];by_cases hm:s∈L
  .rw[ř hm,r2 hm];exact⟨4,rfl,rfl⟩
  .obtain⟨m1,m2⟩:=ι hm;rw[m1,m2,r3 hm];exact⟨0,rfl,rfl⟩
theorem ś{nm:E}{o:d}{rs:J aO}(hl:rs.length<=100000):∀(n i:H)(b:Bool),i+n=rs.length->P2 b (i:d) nm o rs=A (b&&(rs.drop i).all λr=>N r.2.2.2.2.2.2 60==0)
 |0,i,b,hi=>by
  rw[_X];simp(disch:=omega)only[F,j5J,S0];simp
 |n+1,i,b,hi=>by
  have ao:i<rs.length:=aa;have br:rs.getD i ((0:d),((0:d),((0:d),((0:d),((0:d),((0:d),(0:d)))))))=rs[i]:=by simp[R,ao]
  have ih:=λb=>ś (nm:=nm) (o:=o) hl n (i+1) b aa;rw[_X];simp(disch:=omega)only[B ao,j5J,z7,S0];refine(ih _).trans ?_;cases b<;>simp
theorem Ŝ{rs:J aO}(hl:rs.length<=100000):∀(n i:H),i+n=rs.length->∃q,((O6 rs (rs.length:d) (i:d)).bind λq0=>sumC q0 (λa=>A a) (λ_=>A (-1:d)))=A q/\D (q>=0) = !((rs.drop i).all λr=>N r.2.2.2.2.2.2 60==0)
 |0,i,hi=>by
  rw[ZP];simp(disch:=omega)only[F,j0i,S0];exact⟨-1,rfl,rfl⟩
 |n+1,i,hi=>by
  have ao:i<rs.length:=aa;have br:rs.getD i ((0:d),((0:d),((0:d),((0:d),((0:d),((0:d),(0:d)))))))=rs[i]:=by simp[R,ao]
  obtain⟨q,q1,q2⟩:=Ŝ hl n (i+1) aa;rw[ZP,B ao];simp only[j0i,j9m];rw[ai (show (i:d)<(rs.length:d) by omega),cB,aQ (x:=(i:d)+1)];simp only[j6,j8,br,j4,z7];by_cases h:N rs[i].2.2.2.2.2.2 60=0
  .rw[h];simp only[je,j7,bg,ke,qx];exact⟨q,q1,q2⟩
  .rw[show (N rs[i].2.2.2.2.2.2 60 != 0)=I by simpa using h,cU h,j6,bV];exact⟨(i:d),rfl,by rw[ai aa];rfl⟩
theorem UY(z:bB)(hl:ZF z):∃e e1 b,j2s z=A e/\j8M z=A e1/\jc7 z=A b/\(e=if e1=0/\b=I then 0 else 8):=by
 obtain⟨l,e1,t1,t2,_,_⟩:=ŕ z hl.2;have hl:=hl.1;have c1:jh5 (z.1,(z.2.1,z.2.2))=A e1:=by simp only[jh5,show j14 (z.1,(z.2.1,z.2.2))=_ from t1,j4]
 have c2:j8M z=A e1:=by simp only[j8M,show j0a (z.1,(z.2.1,z.2.2))=_ from t2,j4]
 have m:=ś (nm:=z.1) (o:=z.2.1) hl z.2.2.length 0 (N z.2.1 60==0) aa;obtain⟨q,q1,q2⟩:=Ŝ hl z.2.2.length 0 aa;rw[show ((0:H):d)=0 from rfl,jj]at m;rw[show ((0:H):d)=0 from rfl]at q1;rw[jj]at q2;have hm:jc7 z=A ((N z.2.1 60==0)&&z.2.2.all λr=>N r.2.2.2.2.2.2 60==0):=by simp only[jc7,m,j4]
 have hc:j0S z.2.2=A (!(z.2.2.all λr=>N r.2.2.2.2.2.2 60==0)):=by simp(disch:=omega)only[j0S,j1T,q1,q2,S0]
 refine⟨_,e1,_,?_,c2,hm,rfl⟩;simp only[j2s,c1,j4,hc];by_cases he:e1=0
 .subst he;by_cases ho:N z.2.1 60=0
  .rw[ho];cases (z.2.2.all λr=>N r.2.2.2.2.2.2 60==0)<;>rfl
  .rw[show (N z.2.1 60 != 0)=I by simpa using ho,cU ho];rfl
 .rw[show (e1 != 0)=I by simpa using he,if_neg (λh=>he h.1)];rfl
theorem UZ{zs:J bB}{ps:J cZ}{cs:J aY}{ss:J bW}(hz:∀z∈zs,ZF z)(hl:zs.length<=100):∀(n i:H)(L:J E),i+n=zs.length->L.length=i->
  ∃r:d ⊕ Unit,C0 zs (zs.length:d) (i:d) (pr L)=A r/\P3 (i:d) zs ps cs ss L=A r/\r ≠ .inl 0
 |0,i,L,hi,_=>by
  rw[O7,_Y];simp(disch:=omega)only[j1c,j6W,S0];exact⟨.inr (),rfl,rfl,ae⟩
 |n+1,i,L,hi,hL=>by
  have ao:i<zs.length:=aa;have br:zs.getD i (M,((0:d),([]:J aO)))=zs[i]:=by simp[R,ao]
  obtain⟨e,n1,n2⟩:=Hd (L:=L) aa zs[i].1;obtain⟨ez,e1,b,z1,z2,z3,z4⟩:=UY zs[i] (hz _ (jd ao));rw[hL]at n2;rw[O7,_Y];simp only[j1c,j6W,ja2,show G zs.length=(zs.length:d) from rfl];rw[ai (show (i:d)<(zs.length:d) by omega),cB,aQ (x:=(i:d)+1)];simp only[j6,j8,br,j4,n1];rw[ai (show L.length+[zs[i].1].length<=aK by simp[aK];omega)];simp only[j6,n2,j4];by_cases he:e=0
  .subst he;simp only[je,j7,if_true];rw[show j2s (zs[i].1,(zs[i].2.1,zs[i].2.2))=_ from z1,show j8M (zs[i].1,(zs[i].2.1,zs[i].2.2))=_ from z2];simp only[j4,zo,j6];by_cases h1:e1=0
   .subst h1;simp only[je,j7];rw[show jc7 (zs[i].1,(zs[i].2.1,zs[i].2.2))=_ from z3];simp only[j4];cases b with
    |true=>rw[if_pos ⟨rfl,rfl⟩]at z4;subst z4;obtain⟨r,r1,r2,r3⟩:=UZ (ps:=ps) (cs:=cs) (ss:=ss) hz hl n (i+1) (L++[zs[i].1]) aa aj;simp only[je,jg,j7,bg];exact⟨r,r1,r2,r3⟩
    |false=>rw[if_neg ae]at z4;subst z4;exact⟨.inl 8,rfl,rfl,ae⟩
   .rw[if_neg (λh=>h1 h.1)]at z4;subst z4;rw[show (e1 != 0)=I by simpa using h1];exact⟨.inl 8,rfl,rfl,ae⟩
  .rw[show (e != 0)=I by simpa using he];exact⟨.inl e,rfl,rfl,λh=>he (by injection h)⟩
theorem jD4{zs:J bB}{ps:J cZ}{cs:J aY}{ss:J bW}(hz:∀z∈zs,ZF z)(hl:zs.length<=100):∃e,j3U zs=A e/\jmj (zs,(ps,(cs,ss)))=A e:=by
 obtain⟨r,r1,r2,r3⟩:=UZ (ps:=ps) (cs:=cs) (ss:=ss) hz hl zs.length 0 [] aa rfl;rw[show ((0:H):d)=0 from rfl]at r1 r2;simp(disch:=omega)only[j3U,jmj,show C0 zs (zs.length:d) 0 []=_ from r1,r2,S0];cases r with
 |inl e=>exact⟨e,rfl,rfl⟩
 |inr u=>exact⟨0,rfl,rfl⟩
def cw(p:d):WL->d
 |[]=>0
 |v::r=>if v.1<0\/v.1>=v.2\/v.2>604800 then 1 else if v.1<p then 6 else cw v.2 r
def yN(w:WL)(i:H):Int:=if i=0 then 0 else (w.getD (i-1) (0,0)).2
theorem Lo(w:WL)(i:H):yN w (i+1)=(w.getD i (0,0)).2:=by simp[yN]
theorem ŝ:∀{w:WL}{p:d},p<=604800->cw p w=0->ib p w
 |[],p,hp,_=>hp
 |v::r,p,hp,h=>by
  simp only[cw]at h;split at h
  .simp at h
  split at h
  .simp at h
  exact⟨aa,aa,aa,ŝ aa h⟩
def Lp(c:d):d ⊕ Unit:=if c=0 then .inr () else .inl c
theorem Ş{w:WL}(hl:w.length<=14):∀(n i:H),i+n=w.length->O8 w w (w.length:d) (i:d)=A (Lp (cw (yN w i) (w.drop i)))
 |0,i,hi=>by
  rw[ZQ];simp(disch:=omega)only[F,j65,S0];rfl
 |n+1,i,hi=>by
  have ih:=Ş hl n (i+1) aa;have ao:i<w.length:=aa;have br:w.getD i ((0:d),(0:d))=w[i]:=by simp[ao]
  rw[ZQ,B ao];simp only[j65];rw[ai (show (i:d)<(w.length:d) by omega),cB,aQ (x:=(i:d)+1)];simp only[j6,j8,br,cw];rw[Lo,br]at ih;by_cases c1:w[i].1<0\/w[i].1>=w[i].2\/w[i].2>604800
  .rw[if_pos c1,show (cond (cond (D (w[i].1<0)) I (D (w[i].1>=w[i].2))) I (D (w[i].2>604800)))=I by simp only[zj,qe,jl];omega];simp only[j6,bV];rfl
  .rw[if_neg c1,show (cond (cond (D (w[i].1<0)) I (D (w[i].1>=w[i].2))) I (D (w[i].2>604800)))=O by rw[qa];simp only[ne_eq,zj,qe,jl];omega];simp only[j7];by_cases h0:i=0
   .subst h0;rw[aC aa,if_neg (by simp[yN];omega)];simp only[j7,bg];exact ih
   .obtain⟨j,rfl⟩:∃j,i=j+1:=⟨i-1,aa⟩;rw[ai aa,aQ (x:=((j+1:H):d)-1),cB,show (((j+1:H):d)-1).toNat=j by omega,Lo];simp only[j6];by_cases c2:w[j+1].1<(w.getD j (0,0)).2
    .rw[ai c2,if_pos c2,j6,bV];rfl
    .rw[aC c2,if_neg c2,j7,bg];exact ih
theorem ş{w:WL}(hl:w.length<=14):∀(n i:H),i+n=w.length->Gf w (i:d)=A (Lp (cw (yN w i) (w.drop i)))
 |0,i,hi=>by
  rw[JS];simp(disch:=omega)only[F,j45,S0];rfl
 |n+1,i,hi=>by
  have ih:=ş hl n (i+1) aa;have ao:i<w.length:=aa;have br:w.getD i ((0:d),(0:d))=w[i]:=by simp[ao]
  rw[JS,B ao];simp only[j45,show G w.length=(w.length:d) from rfl];rw[ai (show (i:d)<(w.length:d) by omega),cB,aQ (x:=(i:d)+1)];simp only[j6,j8,br,cw];rw[Lo,br]at ih;by_cases a1:w[i].1<0
  .rw[ai a1,if_pos (Or.inl a1),j6,bV];rfl
  by_cases a2:w[i].1>=w[i].2
  .simp(disch:=omega)only[if_pos (Or.inr (Or.inl a2)),S0];rfl
  by_cases a3:w[i].2>604800
  .simp(disch:=omega)only[if_pos (Or.inr (Or.inr a3)),S0];rfl
  rw[aC a1,aC a2,aC a3,if_neg aa];simp only[j7];by_cases h0:i=0
  .subst h0;rw[aC aa,if_neg (by simp[yN];omega)];simp only[j7,bg];exact ih
  .obtain⟨j,rfl⟩:∃j,i=j+1:=⟨i-1,aa⟩;rw[ai aa,aQ (x:=((j+1:H):d)-1),bL (show (0:d)<=((j+1:H):d)-1 by omega) aa,show (((j+1:H):d)-1).toNat=j by omega,Lo];simp only[j6];by_cases c2:w[j+1].1<(w.getD j (0,0)).2
   .rw[ai c2,if_pos c2,j6,bV];rfl
   .rw[aC c2,if_neg c2,j7,bg];exact ih
theorem U0(w:WL):∃c,jei w=A c/\j8N w=A c/\(c=0->ib 0 w/\w.length<=14):=by
 by_cases hl:w.length>14
 .refine⟨5,?_,?_,aa⟩
  .simp(disch:=omega)only[jei,S0]
  .simp(disch:=omega)only[j8N,S0]
 .refine⟨cw 0 w,?_,?_,λh=>⟨ŝ aa h,aa⟩⟩
  .have:=Ş (w:=w) aa w.length 0 aa;rw[show ((0:H):d)=0 from rfl,jj,show yN w 0=0 from rfl]at this;simp(disch:=omega)only[jei,this,Lp,S0];split
   .next h=>simp[h,sumC]
   .rfl
  .have:=ş (w:=w) aa w.length 0 aa;rw[show ((0:H):d)=0 from rfl,jj,show yN w 0=0 from rfl]at this;simp(disch:=omega)only[j8N,this,Lp,S0];split
   .next h=>simp[h,sumC]
   .rfl
def rE{α:Type}(u:α)(e:d):d ⊕ α:=if e=0 then .inr u else .inl e
theorem lQ{α:Type}(u:α):rE u 0 = .inr u:=rfl
theorem cM{α:Type}(u:α){e:d}(h:e≠0):rE u e = .inl e:=if_neg h
theorem BA(i:d){n:H}(hn:n<=1000000):∃b,j1a i (n:d)=A b/\j9i i 0 (w64 ((n:d)-1))=A b:=by
 refine⟨_,rfl,?_⟩;simp only[j9i];rw[aQ (x:=(n:d)-1),show D (i<=(n:d)-1)=D (i<(n:d)) from decide_eq_decide.2 aa]
section
variable{zs:J bB}{ps:J cZ}{cs:J aY}{ss:J bW}
theorem Š(fT:zs.length<=100)(hl:ps.length<=100):∀(n i:H)(L:J E),i+n=ps.length->L.length=i->
  ∃e,Jq ps (ps.length:d) (i:d) zs ps cs ss (pr L)=A (rE (zs,ps,cs,ss) e)/\P4 (i:d) zs ps cs ss L=A (rE () e)
 |0,i,L,hi,_=>by
  rw[ZT,_Z];simp(disch:=omega)only[j4m,j6j,S0];exact⟨0,rfl,rfl⟩
 |n+1,i,L,hi,hL=>by
  have ao:i<ps.length:=aa;have br:ps.getD i (M,((0:d),(([]:WL),((0:d),((0:d),O)))))=ps[i]:=by simp[R,ao]
  have ih:=Š fT hl n (i+1) (L++[ps[i].1]) aa aj;obtain⟨en,n1,n2⟩:=Hd (L:=L) aa ps[i].1;obtain⟨b,b1,b2⟩:=BA ps[i].2.1 (n:=zs.length) aa;obtain⟨c,c1,c2,_⟩:=U0 ps[i].2.2.1;obtain⟨h1,q1⟩:∃h1,j7l ps[i].2.2.2.1=A h1:=⟨_,rfl⟩;have q2:jjd ps[i].2.2.2.1=A h1:=q1;obtain⟨h2,q3⟩:∃h2,j7l ps[i].2.2.2.2.1=A h2:=⟨_,rfl⟩;have q4:jjd ps[i].2.2.2.2.1=A h2:=q3;rw[hL]at n2;rw[ZT,_Z];simp only[j4m,j6j,show G ps.length=(ps.length:d) from rfl];rw[ai (show (i:d)<(ps.length:d) by omega),cB,aQ (x:=(i:d)+1)];simp only[j6,j8,br,n1,j4];rw[ai (show L.length+[ps[i].1].length<=aK by simp[aK];omega)];simp only[j6,n2,j4];cases (ps[i].1.toList==(Á #[110,111,98,111,100,121]).toList) with
  |true=>exact⟨2,rfl,rfl⟩
  |false=>
   simp only[j7];by_cases he:en=0
   .subst he;simp only[ke,j6,je,j7,if_true];have ĕ:j5B (zs,(ps,(cs,ss))) (ps[i].1,(ps[i].2.1,(ps[i].2.2.1,(ps[i].2.2.2.1,(ps[i].2.2.2.2.1,ps[i].2.2.2.2.2)))))=cond (!b) (A 3) (cond (c != 0) (A 8) (cond (!h1) (A 1) (cond (!h2) (A 1) (A 0)))):=by simp(disch:=omega)only[j5B,b1,c1,q1,q3,S0]
    rw[ĕ];simp only[show G zs.length=(zs.length:d) from rfl,b2,c2,q2,q4,j4];cases b with
    |false=>exact⟨3,rfl,rfl⟩
    |true=>
     simp only[jg,j7];cases (c != 0) with
     |true=>exact⟨8,rfl,rfl⟩
     |false=>
      simp only[j7];cases h1 with
      |false=>exact⟨1,rfl,rfl⟩
      |true=>
       cases h2 with
       |false=>exact⟨1,rfl,rfl⟩
       |true=>obtain⟨e,e1,e2⟩:=ih;exact⟨e,e1,e2⟩
   .rw[cU he,show (en != 0)=I by simpa using he];exact⟨en,by rw[cM _ he];rfl,by rw[cM _ he];rfl⟩
theorem š(fT:zs.length<=100)(hl:ps.length<=100):∃e,Jq ps (ps.length:d) 0 zs ps cs ss []=A (rE (zs,ps,cs,ss) e)/\jk8 (zs,(ps,(cs,ss)))=A e:=by
 obtain⟨e,e1,e2⟩:=Š (zs:=zs) (ps:=ps) (cs:=cs) (ss:=ss) fT hl ps.length 0 [] aa rfl;rw[show ((0:H):d)=0 from rfl]at e1 e2;refine⟨e,e1,?_⟩;simp only[jk8,e2,j4];by_cases he:e=0
 .subst he;rfl
 .rw[cM _ he];rfl
theorem Ţ{ds:J d}(hl:ds.length<=100000){m:d}{nm:E}{z:d}{l3:J E}:∀(n i:H),i+n=ds.length->∃q e,((Jm ds (ds.length:d) (i:d)).bind λq0=>sumC q0 (λa=>A a) (λ_=>A (-1:d)))=A q/\
   P5 m (i:d) zs ps cs ss nm z ds l3=A (rE (m,zs,ps,cs,ss,nm,z,ds,l3) e)/\(e=if q>=0 then 1 else 0)
 |0,i,hi=>by
  rw[Jn,_0];simp(disch:=omega)only[j0D,j4u,S0];exact⟨-1,0,rfl,rfl,rfl⟩
 |n+1,i,hi=>by
  have ao:i<ds.length:=aa;have br:ds.getD i (0:d)=ds[i]:=by simp[R,ao]
  obtain⟨q,e,q1,q2,q3⟩:=Ţ hl n (i+1) aa;rw[Jn,_0];simp(disch:=omega)only[j0D,j4u,j4G,yI,UL,j9i,S0];by_cases h0:0<=ds[i]
  .by_cases h1:ds[i]<=98980
   .rw[ai h0,ai h1];exact⟨q,e,q1,q2,q3⟩
   .rw[ai h0,aC h1];exact⟨(i:d),1,rfl,rfl,by rw[if_pos aa]⟩
  .rw[aC h0];exact⟨(i:d),1,rfl,rfl,by rw[if_pos aa]⟩
theorem U3{ds:J d}(hl:ds.length<=100000){m:d}{nm:E}{z:d}{l3:J E}:∀(n i:H),i+1+n=ds.length\/(ds.length=0/\n=0/\i=0)->∃e,
   F0 (ds.length:d) ((i+1:H):d) nm z ds=A (rE () e)/\P6 m ((i+1:H):d) zs ps cs ss nm z ds l3=A (rE (m,zs,ps,cs,ss,l3) e)
 |0,i,hi=>by
  rw[C1,_1];simp(disch:=omega)only[j0p,j4v,S0];exact⟨0,rfl,rfl⟩
 |n+1,i,hi=>by
  have ao:i+1<ds.length:=aa;obtain⟨e,e1,e2⟩:=U3 (m:=m) (nm:=nm) (z:=z) (l3:=l3) hl n (i+1) aa;rw[C1,_1];simp only[j0p,j4v,show G ds.length=(ds.length:d) from rfl]
  rw[ai (show ((i+1:H):d)<(ds.length:d) by omega),ai (show ((i+1:H):d)>0 by omega),aQ (x:=((i+1:H):d)-1),aQ (x:=((i+1:H):d)+1),
   bL (show (0:d)<=((i+1:H):d) by omega) aa,bL (show (0:d)<=((i+1:H):d)-1 by omega) aa]
  simp only[j6];cases D (ds.getD ((i+1:H):d).toNat 0<=ds.getD (((i+1:H):d)-1).toNat 0) with
  |true=>exact⟨6,rfl,rfl⟩
  |false=>simp only[j7,bg];exact⟨e,e1,e2⟩
theorem U4(fT:zs.length<=100)(hl:cs.length<=100):∀(n i:H)(L:J E),i+n=cs.length->L.length=i->
  ∃e,C2 zs ps cs ss cs (cs.length:d) (i:d) (pr L)=A (rE () e)/\P7 (i:d) zs ps cs ss L=A (rE () e)
 |0,i,L,hi,_=>by
  rw[Pb,_2];simp(disch:=omega)only[j0P,j4w,S0];exact⟨0,rfl,rfl⟩
 |n+1,i,L,hi,hL=>by
  have ao:i<cs.length:=aa;have br:cs.getD i (M,((0:d),([]:J d)))=cs[i]:=by simp[R,ao]
  have ih:=U4 fT hl n (i+1) (L++[cs[i].1]) aa aj;obtain⟨en,n1,n2⟩:=Hd (L:=L) aa cs[i].1;obtain⟨b,b1,b2⟩:=BA cs[i].2.1 (n:=zs.length) aa;rw[hL]at n2;rw[Pb,_2];simp only[j0P,j4w,ja3,ja4,show G cs.length=(cs.length:d) from rfl];rw[ai (show (i:d)<(cs.length:d) by omega),cB,aQ (x:=(i:d)+1)];simp only[j6,j8,br,n1,j4];rw[ai (show L.length+[cs[i].1].length<=aK by simp[aK];omega)];simp only[j6,n2,j4];by_cases he:en=0
  .subst he;simp only[je,j7,if_true,j2g,show G zs.length=(zs.length:d) from rfl,b1,b2,j4];cases b with
   |false=>exact⟨3,rfl,rfl⟩
   |true=>
    simp only[jg,j7,show G cs[i].2.2.length=(cs[i].2.2.length:d) from rfl];by_cases G6:(cs[i].2.2.length:d)>64
    .rw[ai G6];exact⟨5,rfl,rfl⟩
    .rw[aC G6];simp only[j7];obtain⟨q,e,q1,q2,q3⟩:=Ţ (zs:=zs) (ps:=ps) (cs:=cs) (ss:=ss) (ds:=cs[i].2.2) (m:=(i:d)) (nm:=cs[i].1) (z:=cs[i].2.1) (l3:=L++[cs[i].1]) aa cs[i].2.2.length 0 aa;rw[show ((0:H):d)=0 from rfl]at q1 q2;have BB:j1E cs[i].2.2=A (D (q>=0)):=by simp(disch:=omega)only[j1E,j4H,S0];rw[q1];rfl
     rw[BB,q2];by_cases hq:q>=0
     .rw[if_pos hq]at q3;subst q3;rw[ai hq];exact⟨1,rfl,rfl⟩
     .rw[if_neg hq]at q3;subst q3;rw[aC hq,lQ];simp only[j4,j7,o8];obtain⟨e,e1,e2⟩:=U3 (zs:=zs) (ps:=ps) (cs:=cs) (ss:=ss) (ds:=cs[i].2.2) (m:=(i:d)) (nm:=cs[i].1) (z:=cs[i].2.1) (l3:=L++[cs[i].1]) aa (cs[i].2.2.length-1) 0 aa;rw[show ((0+1:H):d)=1 from rfl]at e1 e2
      have e0:F0 (cs[i].2.2.length:d) 0 cs[i].1 cs[i].2.1 cs[i].2.2=A (rE () e):=by
       rw[C1];simp only[j0p];by_cases hp:(0:d)<(cs[i].2.2.length:d)
       .simp(disch:=omega)only[S0];exact e1
       .rw[C1]at e1;simp only[j0p]at e1;rw[aC (show¬(1:d)<(cs[i].2.2.length:d) by omega)]at e1;rw[aC hp];exact e1
      rw[e0,e2];simp only[j4];by_cases h0:e=0
      .subst h0;simp(disch:=omega)only[lQ,S0];exact ih
      .rw[cM _ h0,cM _ h0];refine⟨e,?_,?_⟩
       .rw[cM _ h0];simp only[pX,j4];rw[show (e != 0)=I by simpa using h0];rfl
       .rw[cM _ h0];rfl
  .rw[show (en != 0)=I by simpa using he];exact⟨en,by rw[cM _ he];rfl,by rw[cM _ he];rfl⟩
theorem jEV(fT:zs.length<=100)(hl:cs.length<=100):∃e,j2A cs zs ps cs ss=A e/\jdY (zs,(ps,(cs,ss)))=A e:=by
 obtain⟨e,e1,e2⟩:=U4 (zs:=zs) (ps:=ps) (cs:=cs) (ss:=ss) fT hl cs.length 0 [] aa rfl;rw[show ((0:H):d)=0 from rfl]at e1 e2;refine⟨e,?_,?_⟩
 .simp(disch:=omega)only[j2A,show C2 zs ps cs ss cs (cs.length:d) 0 []=_ from e1,S0];by_cases he:e=0
  .subst he;rfl
  .rw[cM _ he];rfl
 .simp only[jdY,e2,j4];by_cases he:e=0
  .subst he;rfl
  .rw[cM _ he];rfl
end
end Go.Proofs.Pw
