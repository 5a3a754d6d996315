/- LoadSwaps. -/
import Derived.Test.YtpbnnhakjhalaaaGreatLWPL
import Derived.Test.YtpbnnhakjhalaaaGreatLWPM
import Derived.Test.YtpbnnhakjhalaaaGreatLWPB
import Derived.Test.YtpbnnhakjhalaaaGreatLWPA
open Go Go.Lft
namespace Go.Proofs.Pw
abbrev xo:=Int×(Int×Int)
abbrev uN:=List (Int×xo)
def gw(p:Int):bK->Int
 |[]=>0
 |s::r=>(if s.2.2=p then s.2.1-s.1 else 0)+gw p r
theorem Wb(p:Int):∀(l r:bK),gw p (l++r)=gw p l+gw p r
 |[],r=>by simp[gw]
 |s::l,r=>by simp only[vc,gw,Wb p l r];omega
structure xp(m:uN)(np:Nat)(n:Nat):Prop where
 len:m.length<=n
 key:∀x∈m,0<=x.1/\x.1<(np:Int)/\x.2.1=x.1
theorem js7{β:Type}{m:List (Int×β)}{k:Int}{v:β}:∀{x:Int×β},x∈fI m k v->x∈m\/x=(k,v):=by
 induction m with
 |nil=>intro x hx;simp[fI]at hx;exact .inr hx
 |cons y r ih=>
  intro x hx;simp only[fI]at hx;by_cases h:k=y.1
  .rw[eA h,j5]at hx;rcases jd.1 hx with rfl|hx
   .exact .inr (by rw[h])
   .exact .inl (by simp[hx])
  .rw[cB h,j6]at hx;rcases jd.1 hx with rfl|hx
   .exact .inl (by simp)
   .exact(ih hx).imp (λh=>by simp[h]) id
theorem js8{β:Type}{m:List (Int×β)}{k:Int}{v:β}:(fI m k v).length<=m.length+1:=by
 induction m with
 |nil=>simp[fI]
 |cons y r ih=>
  simp only[fI];cases k==y.1 with
  |true=>simp
  |false=>simp only[j6,jo];omega
def iv:xo:=((0:Int),((0:Int),(0:Int)))
theorem js9{m:uN}{k:Int}(h:eJ m k=true):(k,df iv m k)∈m:=by
 induction m with
 |nil=>simp[eJ]at h
 |cons y r ih=>
  by_cases hk:k=y.1
  .have:df iv (y::r) k=y.2:=by show cond (k==y.1) y.2 (df iv r k)=y.2;rw[eA hk];rfl
   rw[this,hk];simp
  .have e:df iv (y::r) k=df iv r k:=by show cond (k==y.1) y.2 (df iv r k)=_;rw[cB hk];rfl
   have h2:eJ r k=true:=by have:eJ (y::r) k=(k==y.1||eJ r k):=rfl;rw[this,cB hk,vj]at h;exact h
   rw[e];exact v6 _ (ih h2)
theorem juK{m:uN}{k:Int}(h:eJ m k=false):df iv m k=iv:=by
 induction m with
 |nil=>rfl
 |cons y r ih=>have:eJ (y::r) k=(k==y.1||eJ r k):=rfl;rw[this,Bool.or_eq_false_iff]at h;show cond (k==y.1) y.2 (df iv r k)=_;rw[h.1];exact ih h.2
theorem jsa{m:uN}{k:Int}:eJ m k=true↔k∈m.map (λx=>x.1):=by
 unfold eJ;rw[qq,jx];constructor
 .rintro⟨x,hx,h⟩
  exact⟨x,hx,(by simpa using h:k=x.1).symm⟩
 .rintro⟨x,hx,h⟩
  exact⟨x,hx,by simp[h]⟩
theorem Oe{np:Nat}{f:Int->Int}{u:Int}(hu:u<=8589934592){S:bK}(hl:S.length<=100000){a1 a2 w1 w2:Int}{ws:List ((Int×Int)×Int)}{o:Int}{tl:bC}(hp:∀s∈S,s.2.2<(np:Int)) :
  ∀(n i:Nat)(m:uN)(x:Int),i+n=S.length->0<=x->Ch f u x (S.drop i)->xp m np i->(∀p,0<=p->(df iv m p).2.1=gw p (S.take i)/\(df iv m p).2.2=gw p (S.take i))->(∀p,0<=p->gw p (S.take i)<=x)->
  (∀p,0<=p->0<=gw p (S.take i))->
  ∃m',CA a1 a2 ws (S.length:Int) (i:Int) o tl S m=some (a1,a2,ws,o,tl,S,m')/\xp m' np S.length/\∀p,0<=p->(df iv m' p).2.2=gw p S
 |0,i,m,x,hi,rU,hc,hm,hv,hb,dG=>by
  refine⟨m,?_,⟨by have:=hm.len;omega,hm.key⟩,λp h=>by have:=(hv p h).2;rwa[List.take_of_length_le (by omega)]at this⟩;rw[SY];simp only[j4s];rw[aj (by omega),j6,aY]
 |n+1,i,m,x,hi,rU,hc,hm,hv,hb,dG=>by
  have au:i<S.length:=by omega
  have bh:S.getD i ((0:Int),((0:Int),(0:Int)))=S[i]:=by simp[List.getD,au]
  have fM:=hp _ (jh au);rw[jb au]at hc;obtain⟨h1,h2,h3,h4⟩:=hc;have hle:=h4.le
  have iS:∀p,gw p (S.take (i+1))=gw p (S.take i)+(if S[i].2.2=p then S[i].2.1-S[i].1 else 0):=λp=>by
   rw[List.take_succ_eq_append_getElem au,Wb];simp only[gw];omega
  rw[SY];simp only[j4s];rw[ag (show (i:Int)<(S.length:Int) by omega),aZ (by omega) (by omega),ah (x:=(i:Int)+1) (by omega) (by omega)];simp only[j5,j7,bh];generalize S[i]=s at *;by_cases fH:s.2.2>=0
  .rw[ag fH];have HE:=(hv s.2.2 fH).1;have cO:=hb s.2.2 fH;have dH:=dG s.2.2 fH;rw[show (df ((0:Int),((0:Int),(0:Int))) m s.2.2)=df iv m s.2.2 from rfl,HE,ah (x:=gw s.2.2 (S.take i)+s.2.1) (by omega) (by omega),ah (x:=gw s.2.2 (S.take i)+s.2.1-s.1) (by omega) (by omega)];simp only[j5,aQ]
   obtain⟨m',e,q1,q2⟩:=Oe hu hl (a1:=a1) (a2:=a2) (w1:=w1) (w2:=w2) (ws:=ws) (o:=o) (tl:=tl) hp n (i+1) (fI m s.2.2 (s.2.2,(gw s.2.2 (S.take i)+s.2.1-s.1,gw s.2.2 (S.take i)+s.2.1-s.1))) s.2.1 (by omega) (by omega) h4
    ⟨by have:=hm.len;have:=js8 (m:=m) (k:=s.2.2) (v:=(s.2.2,(gw s.2.2 (S.take i)+s.2.1-s.1,gw s.2.2 (S.take i)+s.2.1-s.1)));omega,λy hy=>by
     rcases js7 hy with hy|rfl
     .exact hm.key y hy
     .exact⟨fH,fM,rfl⟩⟩ (λp iU=>by
     rw[NS,iS];by_cases uM:p=s.2.2
     .subst uM;rw[zj,if_pos rfl];exact⟨by show gw s.2.2 (S.take i)+s.2.1-s.1=_;omega,by show gw s.2.2 (S.take i)+s.2.1-s.1=_;omega⟩
     .rw[cB uM,if_neg (λh=>uM h.symm)];have:=hv p iU;exact⟨by rw[j6,this.1];omega,by rw[j6,this.2];omega⟩) (λp iU=>by
     have:=hb p iU;rw[iS];split<;>omega) (λp iU=>by
     have:=dG p iU;rw[iS];split<;>omega)
   rw[show ((i+1:Nat):Int)=(i:Int)+1 by omega]at e;exact⟨m',e,q1,q2⟩
  .rw[aj fH];simp only[j6,aQ]
   obtain⟨m',e,q1,q2⟩:=Oe hu hl (a1:=a1) (a2:=a2) (w1:=w1) (w2:=w2) (ws:=ws) (o:=o) (tl:=tl) hp n (i+1) m s.2.1 (by omega) (by omega) h4 ⟨by have:=hm.len;omega,hm.key⟩ (λp iU=>by
    rw[iS,if_neg (by omega),Int.add_zero];exact hv p iU) (λp iU=>by
    have:=hb p iU;rw[iS,if_neg (by omega)];omega) (λp iU=>by
    have:=dG p iU;rw[iS,if_neg (by omega)];omega)
   rw[show ((i+1:Nat):Int)=(i:Int)+1 by omega]at e;exact⟨m',e,q1,q2⟩
theorem insI_perm(x:Int):∀l:List Int,(insI x l).Perm (x::l)
 |[]=>List.Perm.refl _
 |y::ys=>by
  unfold insI;cases decide (x<=y) with
  |true=>exact List.Perm.refl _
  |false=>exact((insI_perm x ys).cons y).trans (List.Perm.swap x y ys)
theorem isortI_perm:∀l:List Int,(nX l).Perm l
 |[]=>List.Perm.refl _
 |x::xs=>(insI_perm x _).trans ((isortI_perm xs).cons x)
theorem Wc{m:uN}{ks:List Int}(hl:ks.length<=1000000):∀(n i:Nat)(acc:List xo),i+n=ks.length->acc.length=i->
  Cz (ks.length:Int) (i:Int) m acc ks=some (m,acc++(ks.drop i).map λk=>df iv m k)
 |0,i,acc,hi,ha=>by
  rw[SX];simp only[j3X];rw[aj (by omega),j6,aY,jc (by omega)];simp
 |n+1,i,acc,hi,ha=>by
  have au:i<ks.length:=by omega
  have bh:ks.getD i (0:Int)=ks[i]:=by simp[List.getD,au]
  have ih:=Wc (m:=m) hl n (i+1) (acc++[df iv m ks[i]]) (by omega) (by simp;omega);rw[SX];simp only[j3X,qa];rw[ag (show (i:Int)<(ks.length:Int) by omega),aZ (by omega) (by omega),ah (x:=(i:Int)+1) (by omega) (by omega),ag (by simp[aP];omega),jb au];simp only[j5,j7,bh,aQ];rw[jg]at ih;exact ih
theorem juM{m:uN}{np n:Nat}(hm:xp m np n)(hn:n<=100000)(ud:np<=1000):jcS m=some ((iw m).map (λk=>df iv m k),m):=by
 have hlen:(iw m).length=m.length:=by have:=(isortI_perm (m.map λx=>x.1)).length_eq;simpa[iw]using this
 have As:=hm.len;have hk:yP m=true:=by unfold yP;simp only[ja,jp,jk];refine⟨Nat.ble_eq_true_of_le (by omega),λx hx=>?_⟩;have:=hm.key x hx;omega
 have lp:=Wc (m:=m) (ks:=iw m) (by omega) (iw m).length 0 [] (by omega) rfl;rw[kc,jt]at lp;simp only[jcS,hk,j5];rw[show Cz (Int.ofNat (iw m).length) 0 m [] (iw m)=_ from lp];rfl
def sS(p:Int):List xo->Int
 |[]=>0
 |x::r=>if x.1=p then x.2.2 else sS p r
theorem Wd{l:List xo}(hl:l.length<=1000000){p:Int}:∀(n i:Nat),i+n=l.length->((FA l p (i:Int)).bind λq0=>sumC q0 (λa=>some a) (λ_=>some (0:Int)))=some (sS p (l.drop i))
 |0,i,hi=>by
  rw[SZ];simp only[j3r,show Int.ofNat l.length=(l.length:Int) from rfl];rw[aj (by omega),j6,aY,jc (by omega)];rfl
 |n+1,i,hi=>by
  have au:i<l.length:=by omega
  have bh:l.getD i ((0:Int),((0:Int),(0:Int)))=l[i]:=by simp[List.getD,au]
  rw[SZ];simp only[j3r,show Int.ofNat l.length=(l.length:Int) from rfl];rw[ag (by omega),aZ (by omega) (by omega),ah (x:=(i:Int)+1) (by omega) (by omega),jb au];simp only[j5,j7,bh,sS];by_cases h:l[i].1=p
  .rw[eA h,if_pos h];rfl
  .rw[cB h,if_neg h,j6,aQ];exact Wd hl n (i+1) (by omega)
theorem We{l:List xo}(hl:l.length<=1000000){p:Int}:j3E l p=some (sS p l):=Wd hl l.length 0 (by omega)
theorem Wh{m:uN}{p:Int}:∀{ks:List Int},(∀k∈ks,(df iv m k).1=k)->(p∉ks->df iv m p=iv)->sS p (ks.map λk=>df iv m k)=(df iv m p).2.2
 |[],_,h=>by rw[h (by simp)];rfl
 |k::r,h1,h2=>by
  simp only[ka,sS];rw[h1 k (by simp)];by_cases hk:k=p
  .rw[if_pos hk,hk]
  .rw[if_neg hk];exact Wh (λk hk=>h1 k (by simp[hk])) (λhp=>h2 (by simp[hp,Ne.symm hk]))
def swp(A B p:Int):Int:=if p=A then B else if p=B then A else p
theorem Wi{A B p q:Int}(h:swp A B p=swp A B q):p=q:=by
 unfold swp at h;split at h<;>split at h<;>(try split at h)<;>(try split at h)<;>omega
theorem eH.swp{f g:Int->Int}{A B b:Int}:∀{l:bK}{q:Option Int}{a:Int},(∀t,a<=t->t<b->g t=swp A B (f t))->eH f b q a l->eH g b (q.map (swp A B)) a (l.map λs=>(s.1,(s.2.1,Pw.swp A B s.2.2)))
 |[],_,_,_,h=>h
 |s::r,q,a,hg,h=>by
  obtain⟨h1,h2,h3,h4,h5⟩:=h;have hle:=h5.ch.le;refine⟨h1,h2,λhq=>?_,λt t1 t2=>?_,?_⟩
  .cases q with
   |none=>simp at hq
   |some p=>simp only[ki,j4]at hq;exact h3 (by rw[Wi hq])
  .rw[hg t t1 (by have:t<s.2.1:=t2;omega),h4 t t1 t2]
  .exact eH.swp (q:=some s.2.2) (λt t1 t2=>hg t (by have:s.2.1<=t:=t1;omega) t2) h5
theorem Wj{A B p:Int}:∀(l:bK),gw (swp A B p) (l.map λs=>(s.1,(s.2.1,swp A B s.2.2)))=gw p l
 |[]=>rfl
 |s::r=>by
  simp only[ka,gw,Wj r];by_cases h:s.2.2=p
  .rw[if_pos (by rw[h]),if_pos h]
  .rw[if_neg (λe=>h (Wi e)),if_neg h]
theorem jqm:jeQ ([]:List ((Int×Int)×Int))=some 0:=by
 have e0:jby ([]:List ((Int×Int)×Int))=some []:=by simp only[jby,ql];rw[jgD];simp only[j4L];rw[aj (show¬(0:Int)<Int.ofNat 0 by decide),j6,aY];rfl
 have e2:j0H ([]:List ((Int×Int)×Int))=some false:=by simp only[j0H,j1x,ql];rw[j5e];simp only[j0y];rw[aj (show¬(0:Int)<Int.ofNat 0 by decide),j6,aY];rfl
 simp only[jeQ,e0,j3,MX (w:=[]) (by show (0:Int)<=604800;omega) (by simp),ji,j6,e2]
section
variable{zs:List bI}{ps:List c9}{cs:List aW}(hs:cW zs ps cs)
include hs
theorem Wk{s:dA}(hc:mL (zs,(ps,(cs,[s]))))(gM:s.2.1.length<=3)(fZ:s.2.2.length<=6){a b:Int}(ha:0<=a)(cG:a<b)(hb:b<=8589934592)(hlen:b-a<=1209600) :
  ∃S l,jcq (zs,(ps,(cs,[s]))) 0 a b 0 []=some (l,0)/\eH (jW zs cs s) b none a S/\l.length<=16384/\∀p,0<=p->sS p l=gw p S:=by
 obtain⟨S,eS,hS,lS⟩:=jw5 hs hc (i:=0) (by simp) gM fZ ha cG hb hlen;have hk:=hc.sc s (by simp);have mj:=hs.so.z0;have oX:=hs.so.p1
 have eF:∀x∈S,x.2.2<(ps.length:Int):=λx hx=>by
  obtain⟨h1,h2,h3,h4⟩:=hS.ch.mem x hx;have bG:=hS.pos x hx;rw[<-h4 x.1 (kg _) bG];exact jxX hs hk (by omega) (by omega)
 have au:0<zs.length:=by omega
 obtain⟨m,e1,hm,hv⟩:=Oe (np:=ps.length) hb (by omega) (a1:=a) (a2:=b) (w1:=0) (w2:=0) (ws:=[]) (o:=(tb zs[0]).1) (tl:=(tb zs[0]).2) eF S.length 0 [] a (by omega) ha hS.ch ⟨by simp,by simp⟩ (λp _=>⟨rfl,rfl⟩) (λp _=>ha) (λp _=>kg _);have bh:zs.getD 0 (ByteArray.empty,((0:Int),([]:List aU)))=zs[0]:=by simp[List.getD,au]
 have hO:=TU (hs.so.ok zs[0] (jh au)).ztab;have hL:=juM hm (by omega) (by omega)
 have gN:∀k,k∈iw m↔eJ m k=true:=λk=>by
  rw[jsa];exact(isortI_perm (m.map λx=>x.1)).mem_iff
 have AS:(iw m).length=m.length:=by have:=(isortI_perm (m.map λx=>x.1)).length_eq;simpa[iw]using this
 refine⟨S,(iw m).map (λk=>df iv m k),?_,hS,by have:=hm.len;simp only[kb];omega,λp hp=>?_⟩
 .simp only[jcq];rw[show j6s (zs,(ps,(cs,[s]))) 0 a b=_ from eS];simp only[j3,ji,j6,show Int.ofNat zs.length=(zs.length:Int) from rfl];rw[aj (show¬(0:Int)<0 by omega),aj (show¬(0:Int)>=(zs.length:Int) by omega),jqm];simp only[j3,ji,j6];rw[aZ (show (0:Int)<=0 by omega) (show (0:Int)<(zs.length:Int) by omega)];simp only[j5,show Int.toNat 0=0 from rfl,bh];rw[show jfx (zs[0].1,(zs[0].2.1,zs[0].2.2))=_ from hO];simp only[j3];rw[show CA a b [] (Int.ofNat S.length) 0 zs[0].2.1 (tb zs[0]).2 S []=_ from e1];simp only[j3];rw[ji9];simp only[j69,ql];rw[aj (show¬(0:Int)<Int.ofNat 0 by decide),j6,aY];simp only[j3,hL]
 .rw[Wh (λk hk=>?_) (λh=>?_),hv p hp]
  .exact(hm.key _ (js9 ((gN k).1 hk))).2.2
  .refine juK ?_;cases hh:eJ m p with
   |false=>rfl
   |true=>exact absurd ((gN p).2 hh) h
theorem Wl{A B:Int}(rQ:A≠B){l l':List xo}(h1:l.length<=1000000)(h2:l'.length<=1000000)(hw:∀p,0<=p->sS (swp A B p) l'=sS p l):∀(n i:Nat),i+n=ps.length->
  CB A B (ps.length:Int) (i:Int) l l'=some (.inr ())
 |0,i,hi=>by
  rw[S7];simp only[j2q];rw[aj (by omega),j6,aY]
 |n+1,i,hi=>by
  have oX:=hs.so.p1;have ih:=Wl rQ h1 h2 hw n (i+1) (by omega);have ow:=hw (i:Int) (by omega);rw[S7];simp only[j2q];rw[ag (show (i:Int)<(ps.length:Int) by omega),ah (x:=(i:Int)+1) (by omega) (by omega)];simp only[j5,We h1,We h2,j3];by_cases hA:(i:Int)=A
  .rw[show swp A B (i:Int)=B by unfold swp;rw[if_pos hA]]at ow;rw[eA hA,cB (show¬(i:Int)=B by omega)];simp only[j5,j6,ow,ji,aQ];exact ih
  .by_cases hB:(i:Int)=B
   .rw[show swp A B (i:Int)=A by unfold swp;rw[if_neg hA,if_pos hB]]at ow;rw[cB hA,eA hB];simp only[j5,j6,ow,ji,aQ];exact ih
   .rw[show swp A B (i:Int)=(i:Int) by unfold swp;rw[if_neg hA,if_neg hB]]at ow;rw[cB hA,cB hB];simp only[j6,ow,ji,aQ];exact ih
end
theorem jkR(t:List Int)(_h:Wf (.list (.int .i64)) t):jaI t=some true:=by
 simp only[jaI,jhq,j3,show Int.ofNat (List.length t)=(t.length:Int) from rfl];by_cases hl:(t.length:Int)<=500
 .rw[ag hl];simp only[jn,j6,jjy,j3];obtain⟨zs,ps,cs,nm,ls,es,a1,e1,hs,hc,gM,fZ,d1⟩:=jxR (L:=t) (a:=0) ⟨by omega,by omega,by omega⟩;have oX:=hs.so.p1;simp only[e1,j3,show Int.ofNat ps.length=(ps.length:Int) from rfl];by_cases h2:(ps.length:Int)<2
  .rw[ag h2];simp only[j5,ML,j3]
  .rw[aj h2];obtain⟨A,a2,e2,A0,A1,d2⟩:=cM (n:=(ps.length:Int)) d1 (by omega) (by omega);obtain⟨d,a3,e3,k0,k1,d3⟩:=cM (n:=(ps.length:Int)-1) d2 (by omega) (by omega);obtain⟨x,a4,e4,x0,x1,d4⟩:=T6 d3;have hlen:(ps.length:Int)≠0:=by omega
   have B0:=Int.emod_nonneg (A+1+d) hlen;have B1:=Int.emod_lt_of_pos (A+1+d) (show 0<(ps.length:Int) by omega)
   have rQ:A≠(A+1+d)%(ps.length:Int):=by
    intro he;by_cases au:A+1+d<(ps.length:Int)
    .rw[Int.emod_eq_of_lt (by omega) au]at he;omega
    .rw[<-Int.sub_emod_right,Int.emod_eq_of_lt (by omega) (by omega)]at he;omega
   simp only[j6,e2,j3];rw[ah (x:=(ps.length:Int)-1) (by omega) (by omega),e3];simp only[j3];rw[ah (x:=A+1) (by omega) (by omega),ah (x:=A+1+d) (by omega) (by omega),show ((ps.length:Int)==0)=false from cB hlen,CU (by omega)];simp only[k5,j5,e4,j3];rw[ah (x:=x+518400) (by omega) (by omega)];generalize (A+1+d)%(ps.length:Int)=B at *
   have hx:kF ps.length ((2:Int),(A,(B,(x,x+518400)))):=
    ⟨by show (0:Int)<=2;omega,by show (2:Int)<=2;omega,.inl ⟨A0,A1⟩,λ_=>⟨B0,B1,rQ⟩,λh=>absurd rfl h,by show (0:Int)<=x;omega,by show x<x+518400;omega,by show x+518400<=1000000000000;omega,by
     show j0t (Int.tdiv (x+518400) 86400)=some true;rw[sG (by omega)];exact F9 (by omega) (by omega)⟩
   have c1:=jxQ hs hc hx (by omega);rw[show jeh (zs,(ps,(cs,[(nm,(ls,es))]))) 0 (2,(A,(B,(x,x+518400))))=_ from jvZ hs hc c1];simp only[j3];obtain⟨S,l,q1,q2,q3,q4⟩:=Wk hs hc gM (by show es.length<=6;omega) (a:=x) (b:=x+518400) (by omega) (by omega) (by omega) (by omega);obtain⟨S',l',r1,r2,r3,r4⟩:=Wk hs c1 gM (by show (es++[_]).length<=6;simp;omega) (a:=x) (b:=x+518400) (by omega) (by omega) (by omega) (by omega)
   have xn:=eH.swp (g:=jW zs cs (nm,(ls,es++[((2:Int),(A,(B,(x,x+518400))))]))) (A:=A) (B:=B) (λt t1 t2=>by
    rw[jw0 (.inl (by show (2:Int)≠0;omega))];unfold oM;rw[if_neg (by show¬(t<x\/x+518400<=t);omega),if_neg (by show¬(2:Int)=1;omega)];simp only[kp];rfl) q2
   have hSS:S'=S.map λs=>(s.1,(s.2.1,swp A B s.2.2)):=r2.uniq xn;rw[q1];simp only[j3];rw[r1];simp only[j3,ji,j6]
   have lp:=Wl hs rQ (l:=l) (l':=l') (by omega) (by omega) (λp hp=>by
    have rN:0<=swp A B p:=by unfold swp;split<;>(try split)<;>omega
    rw[r4 _ rN,q4 p hp,hSS,Wj]) ps.length 0 (by omega)
   rw[show CB A B (ps.length:Int) 0 l l'=_ from lp];simp only[j3,lT,ML]
 .rw[aj hl];simp only[k5,j5,ML,j3]
end Go.Proofs.Pw
