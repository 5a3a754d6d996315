/- Gq: what Cv do is what the oG says. -/
import Derived.Test.YtbpjdcbbmibehaaGreatLJLB
import Derived.Laws.Cover3
import Derived.RangeFuncNested
import Derived.OrdersIn
import Derived.Maps.Range
set_option linter.unusedVariables false
namespace Go.Lft
section
variable{N:NT}{np:Nat}{S0:ay}{w0:World}{refs:Refs}{σ:St}{a:Go.Act}{w:World}{S:ay}{γ:Nat->Value}
def cN(σ:St):Prop:=∀i,(σ.sl i).bare=true
theorem nA{d:Nat}(hd:d<a.tmps.size)(v:Value)(j:Nat):tm (a.put (some d) v) j=if j=d then v else tm a j:=by
 unfold tm Go.Act.put;by_cases h:j=d
 .subst h;simp[hd]
 .have h':d≠j:=λe=>h e.symm;simp[h,Array.getElem?_setIfInBounds_ne h']
theorem R0{bx:Nat->BS}{d:Nat}(hd:d<a.tmps.size){v u:Value}{x:Slot}(h:ij S w γ bx (tm a) x u):ij S w γ bx (tm (a.put (some d) v)) (kill d x) u:=by
 cases x with
 |one c=>exact h
 |tup l=>exact h
 |und=>exact h
 |cnd s b c=>
  simp only[kill];split
  .exact⟨trivial,λh=>absurd rfl h⟩
  .rename_i aN;simp only[ij,nA hd,if_neg aN];exact h
theorem pU(dst:Option Nat)(v:Value):(a.put dst v).tmps.size=a.tmps.size:=by cases dst<;>simp[Go.Act.put]
theorem vS(dst:Option Nat)(v:Value):(a.put dst v).defers=a.defers:=by cases dst<;>rfl
theorem CJ(hR:Rel N np S0 w0 refs σ a w S γ){dst:Option Nat}(hd:∀d,dst=some d->N.ok d){s:Slot}{v:Value}(hs:ij S w γ σ.bx (tm a) s v) :
  Rel N np S0 w0 refs (σ.put dst s) (a.put dst v) w S γ:=by
 cases dst with
 |none=>exact hR
 |some d=>
  have gm:d<a.tmps.size:=by rw[hR.size];exact(hd d rfl).1
  refine⟨(pU _ _).trans hR.size,(vS _ _).trans hR.defers,λi=>?_,hR.box,hR.own,hR.apart,hR.ext,hR.new,hR.here,hR.below,hR.grow,hR.os,hR.tape,hR.output,hR.par,hR.kept,λi u h=>?_⟩
  .show ij S w γ σ.bx (tm (a.put (some d) v)) (kill d (if i=d then s else σ.sl i)) (tm (a.put (some d) v) i);rw[nA gm];split
   .exact R0 gm hs
   .exact R0 gm (hR.slot i)
  .obtain⟨h1,h2⟩:=hR.fix i u h;refine⟨h1,?_⟩;show tm (a.put (some d) v) i=u;rw[nA gm,if_neg]
   .exact h2
   .rintro rfl
    have:=(hd i rfl).2;rw[h1]at this;simp at this
theorem R1{d:Nat}{x:Slot}(h:x.bare=true):kill d x=x:=by cases x<;>first|rfl|simp[Slot.bare]at h
theorem AE(hR:Rel N np S0 w0 refs σ a w S γ)(hc:cN σ){dst:Option Nat}(hd:∀d,dst=some d->N.ok d){s:Slot}{v:Value}(hs:ij S w γ σ.bx (tm a) s v)(hb:s.bare=true) :
  Rel N np S0 w0 refs (σ.setD dst s) (a.put dst v) w S γ/\cN (σ.setD dst s):=by
 have he:σ.setD dst s=σ.put dst s:=by
  cases dst with
  |none=>rfl
  |some d=>
   simp only[St.setD,St.setS,St.put];congr 1;funext j;split
   .exact(R1 hb).symm
   .exact(R1 (hc j)).symm
 refine⟨he▸CJ hR hd hs,λi=>?_⟩;cases dst with
 |none=>exact hc i
 |some d=>
  simp only[St.setD,St.setS];split
  .exact hb
  .exact hc i
theorem xJ{o:Oper}(h:lI N o=true):∀d,o.dst=some d->N.ok d:=by
 intro d hd;simpa[lI,hd,NT.ok]using h
theorem R2{u:Ups}(h:cN σ):cN (σ.upd u):=by
 intro i;rw[u7];exact h i
theorem jrm{P:Program}{E:Env}(hT:ca P E.T)(hR:Rel E.N E.np S0 w0 refs σ a w S γ){o:Oper}{e:Bool}(h:nilT E σ o=some e) :
  ∃v b,(execOp a.eval o).run P w = .ok (.value v) w/\v = .bool b/\(b=true->e=true):=by
 unfold nilT at h;split at h
 .rename_i t x y ty bL;split at h
  .rename_i el xs ti hx hy u4;split at h
   .rename_i hl;simp only[j4]at h;subst h;have ex:=lK hR x;have ey:=lK hR y;rw[hx]at ex;rw[hy]at ey;obtain⟨ad,cap,dF,hlen,_,CK,_⟩:=ex.1;have CL:a.eval x = .slice ad (List.length xs) cap:=by simpa using dF
    have J1:a.eval y = .slice none 0 0:=ey.1;obtain⟨a',aW⟩:=FW hl;obtain⟨hd,_⟩:=mX hT u4 aW;refine⟨.bool ad.isNone,ad.isNone,?_,rfl,λhb=>?_⟩
    .simp only[execOp,bL,CL,J1,eqGuard,binOp];simp[run_equal_slice_nil w t ti.elem ad (List.length xs) cap hd]
    .have:ad=none:=by cases ad<;>simp_all
     have:=CK this;have:List.length xs=0:=by omega
     cases xs with
     |nil=>rfl
     |cons=>simp at this
   .simp at h
  .simp at h
 .simp at h
theorem AF{P:Program}{E:Env}(hT:ca P E.T)(hC:iU P E.C)(hR:Rel E.N E.np S0 w0 refs σ a w S γ){act:List (Nat×Bool)}(aJ:qJ (tm a) act){p:Bool}
  (hc:p=false->cN σ){o:Oper}(hd:lI E.N o=true){R:Type}{k:St->Option R}{r:R}(h:run1 E p σ act o k=some r){next:Go.Act->World->Prop}{Q:Exit->Go.Act->World->Prop}
  (hn:∀σ' a' w' S' γ',Rel E.N E.np S0 w0 refs σ' a' w' S' γ'->(p=false->cN σ')->k σ'=some r->next a' w'):o.wp P a w next Q:=by
 have hd:=xJ hd
 have dV:∀(u:Ups)(s:Slot)(v:Value)(w':World)(S':ay)(γ':Nat->Value),Rel E.N E.np S0 w0 refs (σ.upd u) a w' S' γ'->ij S' w' γ' (σ.upd u).bx (tm a) s v->s.bare=true->
   k (cond p ((σ.upd u).put o.dst s) ((σ.upd u).setD o.dst s))=some r->next (a.put o.dst v) w':=by
  intro u s v w' S' γ' bN hs hb hk;cases p with
  |true=>exact hn _ _ _ _ _ (CJ bN hd hs) (by simp) hk
  |false=>obtain⟨h1,h2⟩:=AE bN (R2 (hc rfl)) hd hs hb;exact hn _ _ _ _ _ h1 (λ_=>h2) hk
 unfold run1 at h;split at h
 .rename_i e he
  have he:nilT E σ o=some e:=by
   cases hz:E.nz with
   |true=>rw[hz]at he;exact he
   |false=>rw[hz]at he;simp at he
  obtain⟨v,b,aq,rfl,hb⟩:=jrm (P:=P) hT hR he;obtain⟨h1,h2⟩:=Y9 h;unfold Oper.wp;rw[aq,Oper.upon_value];cases b with
  |true=>exact dV [] (.one (.one (.d .bool true))) (.bool true) w S γ hR ⟨rfl,λ_=>rfl⟩ rfl (h2 (hb rfl))
  |false=>exact dV [] (.one (.one (.d .bool false))) (.bool false) w S γ hR ⟨rfl,λ_=>rfl⟩ rfl h1
 split at h
 .simp at h
 .rename_i jR s u ho;cases jR with
  |false=>simp at h
  |true=>
   obtain⟨⟨v,w',S',γ',aq,bN,hs⟩,hb⟩:=JY hT hR aJ (λ_=> .inl rfl) ho;unfold Oper.wp;rcases aq with aq|⟨aq,rfl⟩
   .rw[aq,Oper.upon_value];exact dV u s v w' S' γ' bN hs hb h
   .rw[aq,Oper.upon_skip];exact dV u s undef w' S' γ' bN hs hb h
 .rename_i f args mk ho;obtain⟨hf,dJ⟩:=hC f args R _ r h;obtain⟨vals,aq,nB,hb⟩:=RZ hR aJ (λ_=> .inl rfl) ho hf dJ;unfold Oper.wp;rw[aq,Oper.upon_enter];refine nB.mono ?_
  rintro e w' ⟨ret,hk,al⟩
  split at hk
  .rename_i s u aV;obtain⟨v,S',γ',rfl,bN,hs⟩:=al s u aV;exact dV u s v w' S' γ' bN hs (hb ret s u aV) hk
  .simp at hk
theorem J2{P:Program}{E:Env}(hT:ca P E.T)(hC:iU P E.C){ops:Array Oper}(bW:bare ops=true){R:Type}{k:St->Option R}{r:R}{Q:Exit->Go.Act->World->Prop}
  (hn:∀σ' a' w' S' γ',Rel E.N E.np S0 w0 refs σ' a' w' S' γ'->cN σ'->k σ'=some r->Q .normal a' w') :
  ∀(n i:Nat)(σ:St)(a:Go.Act)(w:World)(S:ay)(γ:Nat->Value),i+n=ops.size->Rel E.N E.np S0 w0 refs σ a w S γ->cN σ->mz E (ops.toList.drop i) σ k=some r->
   wpOps P ops Q (List.range' i n) a w
 |0,i,σ,a,w,S,γ,hi,hR,hc,h=>by
  rw[jd (by simp;omega)]at h;exact hn _ _ _ _ _ hR hc h
 |n+1,i,σ,a,w,S,γ,hi,hR,hc,h=>by
  have ak:i<ops.size:=by omega
  rw[jb (by simpa using ak)]at h;simp only[mz]at h;split at h
  .rename_i hd;have ho:ops[i]? = some ops[i]:=jr ak;simp only[zt,wpOps,ho];have hg:ops[i].guard=none:=by have:=jq.1 bW ops[i] (by simp);simpa using this
   have hw:Region.wanted ops[i] (yielded ops a.tmps)=true:=by simp[Region.wanted,hg]
   simp only[hw,if_true];refine .inl (AF hT hC hR (act:=[]) (λg hg=>by simp at hg) (p:=false) (λ_=>hc) (by simpa using hd) (by simpa using h) (λσ' a' w' S' γ' bN cI hk=>?_));exact J2 hT hC bW hn n (i+1) σ' a' w' S' γ' (by omega) bN (cI rfl) hk
  .simp at h
theorem Gr{ops:Array Oper}{o:Oper}{g:Nat×Bool}(h:oI ops o=some g):Region.wanted o (yielded ops a.tmps)=true↔tm a g.1 = .bool g.2:=by
 unfold oI at h;split at h
 .simp at h
 .rename_i j wn J3;split at h
  .rename_i oj kA;split at h
   .rename_i s hs;simp only[j4]at h;subst h;simp only[Region.wanted,J3,yielded,kA,j3,hs,tm];cases hq:a.tmps[s]? with
    |none=>
     have:a.tmps.getD s undef=undef:=by simp[hq]
     rw[this];simp[undef]
    |some v=>
     have:a.tmps.getD s undef=v:=by simp[hq]
     rw[this];cases v<;>simp
   .simp at h
  .simp at h
theorem J4(hR:Rel N np S0 w0 refs σ a w S γ):∀(n:Nat)(g:Nat×Bool),tm a g.1 = .bool g.2->qJ (tm a) (σ.chain n g)
 |0,g,h=>by intro x hx;simp only[St.chain,km]at hx;subst hx;exact h
 |n+1,g,h=>by
  simp only[St.chain];have hs:=hR.slot g.1;split
  .rename_i s b c hc;rw[hc]at hs
   have h2:tm a s = .bool b:=by
    rcases hs with hs|hs
    .exact hs.1
    .have:tm a g.1=undef:=hs.2;rw[h]at this;simp[undef]at this
   intro x hx;rcases jc.1 hx with rfl|hx
   .exact h
   .exact J4 hR n (s,b) h2 x hx
  .intro x hx;simp only[km]at hx;subst hx;exact h
theorem jsH:∀(n:Nat)(g:Nat×Bool),g∈σ.chain n g
 |0,g=>by simp[St.chain]
 |n+1,g=>by simp only[St.chain];split<;>simp
theorem R3(hR:Rel N np S0 w0 refs σ a w S γ):∀{l:List (Nat×Bool)}{b:Bool},actB σ l=some b->qJ (tm a) l->b=true
 |[],b,h,_=>by simp[actB]at h;exact h
 |(s,wn)::r,b,h,ha=>by
  have ht:tm a s = .bool wn:=ha (s,wn) (by simp);simp only[actB]at h;split at h
  .rename_i v hv
   have hvv:v=wn:=by
    have hs:=hR.slot s;unfold gval at hv;split at hv
    .rename_i v' eE;simp only[j4]at hv;subst hv;rw[eE]at hs;have:tm a s = .bool v':=sj hs;rw[ht]at this;simpa using this.symm
    .rename_i s' b' v' eE;simp only[j4]at hv;subst hv;rw[eE]at hs;rcases hs with hs|hs
     .have:tm a s = .bool v':=sj hs.2;rw[ht]at this;simpa using this.symm
     .have:tm a s=undef:=hs.2;rw[ht]at this;simp[undef]at this
    .simp at hv
   subst hvv;split at h
   .simp only[j4]at h;rw[<-h];cases v<;>rfl
   .split at h
    .rename_i b2 dX;simp only[j4]at h;have:=R3 hR dX (λg hg=>ha g (by simp[hg]));rw[<-h,this];cases v<;>rfl
    .simp at h
  .simp at h
theorem J5(hR:Rel N np S0 w0 refs σ a w S γ){s:Nat}{x:Slot}(h:ij S w γ σ.bx (tm a) x (tm a s)):Rel N np S0 w0 refs (σ.setS s x) a w S γ:=by
 refine⟨hR.size,hR.defers,λi=>?_,hR.box,hR.own,hR.apart,hR.ext,hR.new,hR.here,hR.below,hR.grow,hR.os,hR.tape,hR.output,hR.par,hR.kept,hR.fix⟩;simp only[St.setS];split
 .rename_i hi;subst hi;exact h
 .exact hR.slot i
theorem R4{R:Type}:∀(l:List (Nat×Bool)){σ:St}{k:St->Bool->Option R}{r:R},Rel N np S0 w0 refs σ a w S γ->uR l σ k=some r->
  ∃σ' b,Rel N np S0 w0 refs σ' a w S γ/\k σ' b=some r/\(b=true↔qJ (tm a) l)
 |[],σ,k,r,hR,h=>⟨σ,true,hR,h,by simp[qJ]⟩
 |(s,wn)::l,σ,k,r,hR,h=>by
  simp only[uR]at h;obtain⟨σ1,b1,aU,dT,di⟩:=R4 l hR h;cases b1 with
  |false=>
   refine⟨σ1,false,aU,dT,?_⟩;simp only[ku,false_iff]at di ⊢
   exactλha=>di (λg hg=>ha g (by simp[hg]))
  |true=>
   have mH:=di.1 rfl;simp only at dT;split at dT
   .rename_i v hv
    have ht:tm a s = .bool v:=by
     have hs:=aU.slot s;unfold IV at hv;split at hv
     .rename_i v' eE;simp only[j4]at hv;subst hv;rw[eE]at hs;exact sj hs
     .rename_i s' b' v' eE;split at hv
      .rename_i hm;simp only[j4]at hv;subst hv;rw[eE]at hs;have gY:(s',b')∈l:=by simpa using hm
       have:=mH _ gY;rcases hs with hs|hs
       .exact sj hs.2
       .exact absurd this hs.1
      .simp at hv
     .simp at hv
    have CM:∀b,b=v->Rel N np S0 w0 refs (σ1.setS s (.one (.one (.d .bool b)))) a w S γ:=by
     rintro b rfl
     refine J5 aU ⟨?_,λ_=>?_⟩
     .show Rep S w .bool b [tm a s];rw[ht];rfl
     .rw[ht];rfl
    cases v with
    |true=>
     simp only[j5]at dT;refine⟨_,wn,CM true rfl,dT,?_⟩;constructor
     .rintro rfl g hg
      rcases jc.1 hg with rfl|hg
      .exact ht
      .exact mH g hg
     .intro ha;have:=ha (s,wn) (by simp);rw[ht]at this;simpa using this.symm
    |false=>
     simp only[j6]at dT;refine⟨_, !wn,CM false rfl,dT,?_⟩;constructor
     .intro hw g hg;have J6:wn=false:=by simpa using hw
      subst J6;rcases jc.1 hg with rfl|hg
      .exact ht
      .exact mH g hg
     .intro ha;have:=ha (s,wn) (by simp);rw[ht]at this;have:false=wn:=by simpa using this
      rw[<-this];rfl
   .simp at dT
theorem jx0{P:Program}{E:Env}(hT:ca P E.T)(hC:iU P E.C)(hR:Rel E.N E.np S0 w0 refs σ a w S γ){ops:Array Oper}{o:Oper}(hd:lI E.N o=true)
  {R:Type}{k:St->Option R}{r:R}(h:BH E ops σ o k=some r){next:Go.Act->World->Prop}{Q:Exit->Go.Act->World->Prop}
  (hn:∀σ' a' w' S' γ',Rel E.N E.np S0 w0 refs σ' a' w' S' γ'->k σ'=some r->next a' w') :
  if Region.wanted o (yielded ops a.tmps) then o.wp P a w next Q\/(o.asks P a w/\LetsOut Q) else next (a.put o.dst undef) w:=by
 have tG:=xJ hd;unfold BH at h;split at h
 .split at h
  .rename_i hg;have hw:Region.wanted o (yielded ops a.tmps)=true:=by simp[Region.wanted,hg]
   simp only[hw,if_true];exact .inl (AF hT hC hR (act:=[]) (λg hg=>by simp at hg) (p:=true) (by simp) hd h (λσ' a' w' S' γ' bN _ hk=>hn σ' a' w' S' γ' bN hk))
  .simp at h
 .rename_i g hg;dsimp only at h;have CN:=Gr (a:=a) hg
  have vT:uR (σ.chain 40 g) σ (λσ' a=>match a with
    |true=>run1 E true σ' (σ.chain 40 g) o k
    |false=>k (σ'.put o.dst (.one (.one .dead))))=some r->
    if Region.wanted o (yielded ops a.tmps) then o.wp P a w next Q\/(o.asks P a w/\LetsOut Q) else next (a.put o.dst undef) w:=by
   intro hs;obtain⟨σ',b,bN,hk,hb⟩:=R4 _ hR hs;cases b with
   |true=>have aJ:=hb.1 rfl;have hw:=CN.2 (aJ g (jsH 40 g));simp only[hw,if_true];exact .inl (AF hT hC bN aJ (p:=true) (by simp) hd hk (λσ' a' w' S' γ' bN _ hk=>hn σ' a' w' S' γ' bN hk))
   |false=>
    have hw:¬Region.wanted o (yielded ops a.tmps)=true:=λhw=>by
     have:=hb.2 (J4 hR 40 g (CN.1 hw));simp at this
    simp only[hw];exact hn _ _ _ _ _ (CJ bN tG (s:= .one (.one .dead)) (v:=undef) ⟨trivial,λh=>absurd rfl h⟩) hk
  split at h
  .rename_i jR c ho;split at h
   .rename_i ab dj;by_cases hw:Region.wanted o (yielded ops a.tmps)=true
    .have aJ:=J4 hR 40 g (CN.1 hw);have:=R3 hR dj aJ;subst this;simp only[hw,if_true];cases jR with
     |false=>simp at h
     |true=>
      simp only[jw,Bool.or_false,j5]at h;obtain⟨⟨v,w',S',γ',aq,bN,hs⟩,hb⟩:=JY hT hR aJ (λ_=> .inl rfl) ho;have jF:=CJ bN tG (s:= .cnd g.1 g.2 c) (v:=v) (.inl ⟨CN.1 hw,hs⟩);refine .inl ?_;unfold Oper.wp;rcases aq with aq|⟨aq,rfl⟩
      .rw[aq,Oper.upon_value];exact hn _ _ _ _ _ jF h
      .rw[aq,Oper.upon_skip];exact hn _ _ _ _ _ jF h
    .simp only[hw]
     have hk:k (σ.put o.dst (.cnd g.1 g.2 c))=some r:=by
      cases hc:(jR || !ab) with
      |true=>rw[hc]at h;exact h
      |false=>rw[hc]at h;simp at h
     exact hn _ _ _ _ _ (CJ hR tG (s:= .cnd g.1 g.2 c) (v:=undef) (.inr ⟨λhh=>hw (CN.2 hh),rfl⟩)) hk
   .exact vT h
  .exact vT h
theorem jsJ(hR:Rel N np S0 w0 refs σ a w S γ):Rel N np S0 w0 refs σ.clear a w S γ/\cN σ.clear:=by
 refine⟨⟨hR.size,hR.defers,λi=>?_,hR.box,hR.own,hR.apart,hR.ext,hR.new,hR.here,hR.below,hR.grow,hR.os,hR.tape,hR.output,hR.par,hR.kept,hR.fix⟩,λi=>?_⟩
 .have:=hR.slot i;simp only[St.clear];cases hs:σ.sl i with
  |one c=>rw[hs]at this;exact this
  |tup l=>rw[hs]at this;exact this
  |und=>rw[hs]at this;exact this
  |cnd s b c=>exact⟨trivial,λh=>absurd rfl h⟩
 .simp only[St.clear];cases σ.sl i<;>rfl
theorem R5{P:Program}{E:Env}(hT:ca P E.T)(hC:iU P E.C){ops:Array Oper}{R:Type}{k:St->Option R}{r:R}{Q:Exit->Go.Act->World->Prop}
  (hn:∀σ' a' w' S' γ',Rel E.N E.np S0 w0 refs σ' a' w' S' γ'->cN σ'->k σ'=some r->Q .normal a' w') :
  ∀(n i:Nat)(σ:St)(a:Go.Act)(w:World)(S:ay)(γ:Nat->Value),i+n=ops.size->Rel E.N E.np S0 w0 refs σ a w S γ->zU E ops (ops.toList.drop i) σ k=some r->
   wpOps P ops Q (List.range' i n) a w
 |0,i,σ,a,w,S,γ,hi,hR,h=>by
  rw[jd (by simp;omega)]at h;obtain⟨h1,h2⟩:=jsJ hR;exact hn _ _ _ _ _ h1 h2 h
 |n+1,i,σ,a,w,S,γ,hi,hR,h=>by
  have ak:i<ops.size:=by omega
  rw[jb (by simpa using ak)]at h;simp only[zU]at h;split at h
  .rename_i hd;have ho:ops[i]? = some ops[i]:=jr ak;simp only[zt,wpOps,ho];exact jx0 hT hC hR (by simpa using hd) (by simpa using h) (λσ' a' w' S' γ' bN hk=>R5 hT hC hn n (i+1) σ' a' w' S' γ' (by omega) bN hk)
  .simp at h
theorem R6{P:Program}{E:Env}(hT:ca P E.T)(hC:iU P E.C)(hR:Rel E.N E.np S0 w0 refs σ a w S γ)(hc:cN σ){ops:Array Oper}{R:Type}{k:St->Option R}{r:R}
  {Q:Exit->Go.Act->World->Prop}(hn:∀σ' a' w' S' γ',Rel E.N E.np S0 w0 refs σ' a' w' S' γ'->cN σ'->k σ'=some r->Q .normal a' w')(h:pG E ops σ k=some r) :
  wpOps P ops Q (List.range ops.size) a w:=by
 rw[List.range_eq_range'];unfold pG at h;split at h
 .rename_i hb;exact J2 hT hC hb hn ops.size 0 σ a w S γ (by omega) hR hc (by simpa using h)
 .exact R5 hT hC hn ops.size 0 σ a w S γ (by omega) hR (by simpa using h)
end
section
variable{N:NT}{np:Nat}{S0:ay}{w0:World}{refs:Refs}{σ:St}{a:Go.Act}{w:World}{S:ay}{γ:Nat->Value}
theorem R7(hR:Rel N np S0 w0 refs σ a w S γ){k:Nat}{b b':Bx}(hk:σ.bx k = .live b)(pL:iO b b')(cC:∀bx',BxLe γ σ.bx γ bx'->ez S w γ bx' k b') :
  Rel N np S0 w0 refs (σ.setB k (.live b')) a w S γ:=by
 have hle:BxLe γ σ.bx γ (σ.setB k (.live b')).bx:=by
  intro k' bc;by_cases h:k'=k
  .subst h;rw[eO];exact⟨by simp,rfl,λx hx=>by simp at hx;subst hx;exact⟨b,hk,pL⟩⟩
  .rw[cB σ _ h];exact⟨bc,rfl,λx hx=>⟨x,hx,.refl x⟩⟩
 have bD:∀k' x,(σ.setB k (.live b')).bx k' = .live x->∃x',σ.bx k' = .live x':=by
  intro k' x hx;by_cases h:k'=k
  .subst h;exact⟨b,hk⟩
  .rw[cB σ _ h]at hx;exact⟨x,hx⟩
 refine Rel.step (bx':=(σ.setB k (.live b')).bx) hR (.refl S w) hle ?_ ?_ ?_ hR.new hR.here hR.below hR.grow hR.os hR.tape hR.output (λg _ _ h=>⟨rfl,λk' b' ax=>by obtain⟨b2,dX⟩:=bD k' b' ax;exact h k' b2 dX⟩)
 .intro k' x hx;by_cases h:k'=k
  .subst h;rw[eO]at hx;simp at hx;subst hx;exact cC _ hle
  .rw[cB σ _ h]at hx;exact ez.keep (.refl S w) hle rfl (λg hg=>⟨rfl,λ_=>Iff.rfl⟩) (hR.box k' x hx)
 .intro k' x g hx hg;obtain⟨x',mD⟩:=bD k' x hx;exact hR.own k' x' g mD hg
 .intro k1 k2 x1 x2 g aN h1 h2 hg;obtain⟨y1,hy1⟩:=bD k1 x1 h1;obtain⟨y2,J7⟩:=bD k2 x2 h2;exact hR.apart k1 k2 y1 y2 g aN hy1 J7 hg
theorem All2.set_left{α β:Type}{R:α->β->Prop}:∀{as:List α}{bs:List β},All2 R as bs->∀(i:Nat)(x:α)(b:β),bs[i]? = some b->R x b->All2 R (as.set i x) bs
 |[],[],_,i,x,b,hb,_=>by simp at hb
 |_::_,_::_,h,0,x,b,hb,hr=>by simp at hb;subst hb;exact⟨hr,h.2⟩
 |_::_,_::_,h,i+1,x,b,hb,hr=>⟨h.1,All2.set_left h.2 i x b (by simpa using hb) hr⟩
 |[],_::_,h,_,_,_,_,_=>h.elim
 |_::_,[],h,_,_,_,_,_=>h.elim
theorem J8:∀(l:List (Loc×Ty))(σ σ':St)(S:ay),Rel N np S0 w0 refs σ a w S γ->cN σ->zY np l σ=some σ'->∃S',Rel N np S0 w0 refs σ' a w S' γ/\cN σ'
 |[],σ,σ',S,hR,hc,h=>by simp[zY]at h;subst h;exact⟨S,hR,hc⟩
 |(l,t)::r,σ,σ',S,hR,hc,h=>by
  simp only[zY]at h;split at h
  .rename_i v u hv;have aX:=AD (np:=np) (σ:=σ) (rd:=mskM σ.bx) (RdR.msk λ_=> .inl rfl)
   suffices hs:∃S',Rel N np S0 w0 refs (wZ (σ.upd u) l (.d t v)) a w S' γ/\cN (wZ (σ.upd u) l (.d t v)) by
    obtain⟨S1,aU,fc⟩:=hs;exact J8 r _ σ' S1 aU fc h
   cases l with
   |slot i=>
    cases eE:σ.sl i with
    |tup x=>simp only[iN,eE]at hv;simp[iZ]at hv
    |cnd x y z=>simp only[iN,eE]at hv;simp[iZ]at hv
    |und=>simp only[iN,eE]at hv;simp[iZ]at hv
    |one c=>
     cases c with
     |st ls=>simp only[iN,eE]at hv;simp[iZ]at hv
     |av n b xs=>simp only[iN,eE]at hv;simp[iZ]at hv
     |one x=>
      simp only[iN,eE]at hv;have vU:=hR.slot i;rw[eE]at vU;obtain⟨fC,hp⟩:=u9 aX hR.box hv vU.1;obtain⟨S1,aU,cF,gQ,_⟩:=od u σ S hR fC;have bd:=hp S1 w cF gQ;refine⟨S1,?_,?_⟩
      .simp only[wZ,u7,eE];exact J5 aU ⟨bd,λ_=>Rep.one _ _ _ bd _ (km.2 rfl)⟩
      .intro j;simp only[wZ,u7,eE,St.setS];split
       .rfl
       .exact hc j
   |cell k c=>
    have nC:iN σ (.cell k c) ≠ .dead:=λhd=>by rw[hd]at hv;simp[iZ]at hv
    cases er:σ.bx k with
    |free=>simp[iN,er]at nC
    |gone=>simp[iN,er]at nC
    |live b=>
     cases b with
     |lst e b xs f=>simp[iN,er]at nC
     |arr n b xs=>simp[iN,er]at nC
     |cell ls f=>
      cases f with
      |true=>simp[iN,er]at nC
      |false=>
       have hl:iN σ (.cell k c)=ls.getD c .dead:=by simp[iN,er]
       rw[hl]at hv nC;obtain⟨g,cur,e,h1,h2,h3,h4,h5,h6⟩:=hR.box k _ er;cases hg:ls[c]? with
       |none=>simp[hg]at nC
       |some x=>
        have hgx:ls.getD c .dead=x:=by simp[hg]
        rw[hgx]at hv;obtain⟨z,hz,Gs⟩:=h3.get c x hg;obtain⟨fC,hp⟩:=u9 aX hR.box hv Gs;obtain⟨S1,aU,cF,gQ,dI⟩:=od u σ S hR fC;have bd:=hp S1 w cF gQ;have tU:=dI.cell er;refine⟨S1,?_,?_⟩
        .simp only[wZ,tU];refine R7 aU tU trivial (λbx' hle=>?_);obtain⟨g',iB,e',lN,kM,vP,h4',h5',h6'⟩:=aU.box k _ tU;rw[h1]at lN;simp at lN;subst lN;rw[h2]at kM;simp at kM;obtain⟨rfl,rfl⟩:=kM;exact⟨g,cur,e,h1,h2,by rw[zp];exact All2.set_left (vP.mono (λx u hx=>br.keep (.refl S1 w) hle hx)) c (.d t v) z hz bd,by rw[zp];exact h4',h5',by simp⟩
        .intro j;simp only[wZ,tU];show ((σ.upd u).sl j).bare=true;rw[u7];exact hc j
  .simp at h
theorem CO:∀(l:List oH)(σ σ':St)(S:ay),Rel N np S0 w0 refs σ a w S γ->cN σ->uT np l σ=some σ'->∃S',Rel N np S0 w0 refs σ' a w S' γ/\cN σ'
 |[],σ,σ',S,hR,hc,h=>by simp[uT]at h;subst h;exact⟨S,hR,hc⟩
 |x::r,σ,σ',S,hR,hc,h=>by
  simp only[uT]at h;split at h
  .split at h
   .split at h
    .split at h
     .rename_i e b xs f er;split at h
      .simp at h
      .rename_i hp;simp only[zw,not_or,Bool.not_eq_true]at hp;obtain⟨S1,aU,_⟩:=Jk hR hp.2 er hp.1;exact CO r _ σ' S1 aU (λi=>hc i) h
     .simp at h
    .exact CO r σ σ' S hR hc h
   .exact CO r σ σ' S hR hc h
  .exact CO r σ σ' S hR hc h
theorem pV:∀{l:List Nat}{i j:Nat},l.idxOf? i=some j->l[j]? = some i
 |[],i,j,h=>by simp at h
 |x::l,i,j,h=>by
  rw[List.idxOf?_cons]at h;split at h
  .rename_i he;simp at h he;subst h;subst he;rfl
  .cases hq:l.idxOf? i with
   |none=>simp[hq]at h
   |some j'=>simp[hq]at h;subst h;simpa using pV hq
theorem J9:∀{l:List Nat}{i:Nat},l.idxOf? i=none->i∉l
 |[],i,_=>by simp
 |x::l,i,h=>by
  rw[List.idxOf?_cons]at h;split at h
  .simp at h
  .rename_i he;have hq:l.idxOf? i=none:=by simpa using h
   have:=J9 hq;simp only[jc,not_or];exact⟨λe=>he (by simp[e]),this⟩
theorem Ka{e:Nat}{t:Ty}{l:Loc}{k:Option Nat}{xs:List t.den}{f:Bool}(h:zW σ e t l=some (k,xs,f)) :
  (k=none/\isM e=false/\xs=[]/\iN σ l = .nil)\/∃k0,k=some k0/\iN σ l = .ol k0/\σ.bx k0 = .live (.lst e t xs f):=by
 unfold zW at h;split at h
 .rename_i hl;split at h
  .simp at h
  .rename_i hm;simp only[j4,j8]at h;exact .inl ⟨h.1.symm,by simpa using hm,h.2.1.symm,hl⟩
 .rename_i k0 hl;split at h
  .rename_i e' t' cZ f' hb;split at h
   .rename_i v iQ;split at h
    .rename_i he;simp only[j4,j8]at h;obtain⟨rfl,rfl,rfl⟩:=h;have:=lL iQ;cases this;subst he;exact .inr ⟨k0,rfl,hl,hb⟩
    .simp at h
   .simp at h
  .simp at h
 .simp at h
theorem Gt{e:Nat}{t:Ty}:∀{ls:List Loc}{k:Option Nat}{xs:List t.den}{f:Bool},wY σ e t ls=some (k,xs,f)->
  (∃l∈ls,zW σ e t l=some (k,xs,f))/\∀l∈ls,∃cZ f',zW σ e t l=some (k,cZ,f')
 |[],_,_,_,h=>by simp[wY]at h
 |[l],k,xs,f,h=>by
  simp only[wY]at h;exact⟨⟨l,by simp,h⟩,λl' ny=>by simp at ny;subst ny;exact⟨_,_,h⟩⟩
 |l::l2::ls,k,xs,f,h=>by
  simp only[wY]at h;split at h
  .rename_i k1 Ga f1 k2 QY f2 h1 h2;split at h
   .rename_i hk;simp only[j4,j8]at h;obtain⟨rfl,rfl,rfl⟩:=h;subst hk;obtain⟨_,al⟩:=Gt h2;refine⟨⟨l,by simp,h1⟩,λl' ny=>?_⟩;rcases jc.1 ny with rfl|ny
    .exact⟨_,_,h1⟩
    .exact al l' ny
   .simp at h
  .simp at h
def R8(np:Nat)(σ:St)(bs:List Nat)(x:oH)(it:Item)(src:Option Nat):Prop:=
 ∃xs f f',wY σ x.e x.a x.locs=some (src,xs,f)/\it = .b (.live (.lst x.e x.a xs f'))/\∀k0,src=some k0->f'=f/\k0∉bs/\parK np k0=false
theorem R9{bs:List Nat}:∀{L:List oH}{is:List Item}{ks:List Nat},zX np σ bs L=some (is,ks)->
  ∃fp:List (Option Nat),ks=fp.filterMap id/\ks.Nodup/\∀(j:Nat)(x:oH),L[j]? = some x->∃it src,is[j]? = some it/\fp[j]? = some src/\R8 np σ bs x it src
 |[],is,ks,h=>by
  simp[zX]at h;obtain⟨rfl,rfl⟩:=h;exact⟨[],rfl,zg,λj x hx=>by simp at hx⟩
 |x::L,is,ks,h=>by
  simp only[zX]at h;split at h
  .rename_i k xs f is' I4 h1 h2;obtain⟨fp,e1,e2,e3⟩:=R9 h2;split at h
   .simp only[j4,j8]at h;obtain⟨rfl,rfl⟩:=h;refine⟨none::fp,by simp[e1],e2,λj y hy=>?_⟩;cases j with
    |zero=>simp at hy;subst hy;exact⟨_,none,rfl,rfl,xs,f,x.frz,h1,rfl,by simp⟩
    |succ j=>exact e3 j y (by simpa using hy)
   .rename_i k0;split at h
    .simp at h
    .rename_i hn;simp only[zw,not_or,Bool.not_eq_true,qb,jh]at hn;simp only[j4,j8]at h;obtain⟨rfl,rfl⟩:=h;refine⟨some k0::fp,by simp[e1],q8.2 ⟨hn.1.1,e2⟩,λj y hy=>?_⟩;cases j with
     |zero=>simp at hy;subst hy;exact⟨_,some k0,rfl,rfl,xs,f,f,h1,rfl,λk1 dT=>by simp at dT;subst dT;exact⟨rfl,hn.1.2,hn.2⟩⟩
     |succ j=>exact e3 j y (by simpa using hy)
  .simp at h
theorem Sa:∀{fp:List (Option Nat)},(fp.filterMap id).Nodup->∀{j j' k:Nat},fp[j]? = some (some k)->fp[j']? = some (some k)->j=j'
 |[],_,j,_,_,h,_=>by simp at h
 |s::fp,hn,j,j',k,h,h'=>by
  have eb:∀{i:Nat},fp[i]? = some (some k)->k∈fp.filterMap id:=λhi=>zv.2 ⟨some k,jy hi,rfl⟩
  have Kb:(fp.filterMap id).Nodup:=by
   cases s with
   |none=>simpa using hn
   |some y=>simp at hn;exact hn.2
  cases j with
  |zero=>
   cases j' with
   |zero=>rfl
   |succ j'=>simp at h h';subst h;simp at hn;exact absurd (by simpa using eb h') hn.1
  |succ j=>
   cases j' with
   |zero=>simp at h h';subst h';simp at hn;exact absurd (by simpa using eb h) hn.1
   |succ j'=>have:=Sa Kb (j:=j) (j':=j') (k:=k) (by simpa using h) (by simpa using h');omega
theorem Sb:∀{l:List Nat},l.Nodup->∀{i j n:Nat},l[i]? = some n->l[j]? = some n->i=j
 |[],_,i,_,_,hi,_=>by simp at hi
 |x::l,h,i,j,n,hi,hj=>by
  obtain⟨h1,h2⟩:=q8.1 h;cases i with
  |zero=>
   cases j with
   |zero=>rfl
   |succ j=>simp at hi hj;subst hi;exact absurd (jy hj) h1
  |succ i=>
   cases j with
   |zero=>simp at hi hj;subst hj;exact absurd (jy hi) h1
   |succ j=>rw[Sb h2 (i:=i) (j:=j) (n:=n) (by simpa using hi) (by simpa using hj)]
end
section
variable{N:NT}{np:Nat}{S0:ay}{w0:World}{refs:Refs}{σ:St}{a:Go.Act}{w:World}{S:ay}{γ:Nat->Value}
theorem jp5{K:Keep}{l:Loc}{n:Nat}(h:BN K l=some n):∃(j:Nat)(x:oH),K.lists[j]? = some x/\x.name=n/\l∈x.locs:=by
 unfold BN at h;obtain⟨x,hq,hn⟩:=Option.map_eq_some_iff.1 h;have h1:=List.find?_some hq;obtain⟨j,hj⟩:=qy.1 (List.mem_of_find?_eq_some hq);exact⟨j,x,hj,hn,by simpa using h1⟩
theorem xK{K:Keep}{k:Nat}{x:BS}{b:Bx}(h:uS K k x = .live b):∃b0,x = .live b0/\iO b0 b:=by
 unfold uS at h;split at h
 .simp only[BS.live.injEq]at h;subst h;exact⟨_,rfl,trivial⟩
 .simp only[BS.live.injEq]at h;subst h;exact⟨_,rfl,.refl _⟩
 .simp only[BS.live.injEq]at h;subst h;exact⟨_,rfl,.refl _⟩
 .simp at h
theorem xL{K:Keep}{k:Nat}{x:BS}:uS K k x ≠ .free:=by
 unfold uS;split<;>simp
theorem Sc{R:Leaf->Value->Prop}{f:Leaf×Nat->Leaf}:∀{ls:List Leaf}{cs:List Value}(n:Nat),(∀(j:Nat)(x:Leaf)(u:Value),ls[j]? = some x->cs[j]? = some u->R (f (x,n+j)) u)->ls.length=cs.length->
  All2 R ((ls.zipIdx n).map f) cs
 |[],[],_,_,_=>trivial
 |x::ls,c::cs,n,h,hl=>by
  refine⟨h 0 x c rfl rfl,Sc (n+1) (λj y u hy hu=>?_) (by simpa using hl)⟩;have:=h (j+1) y u (by simpa using hy) (by simpa using hu);rwa[show n+1+j=n+(j+1) by omega]
 |[],_::_,_,_,hl=>by simp at hl
 |_::_,[],_,_,hl=>by simp at hl
theorem jv9{K:Keep}{s:Snap}(hR:Rel N np S0 w0 refs σ a w S γ)(hs:I0 np K σ=some s):∃γ',Rel N np S0 w0 refs (cw np K s) a w S γ'/\cN (cw np K s):=by
 unfold I0 at hs;cases hL:zX np σ K.boxes K.lists with
 |none=>simp[hL]at hs
 |some p=>
 obtain⟨is,ks⟩:=p;simp only[hL]at hs;cases bz:K.ok np with
 |false=>simp[bz]at hs
 |true=>
 simp only[bz,if_true,j4]at hs;obtain⟨fp,hks,dv,CP⟩:=R9 hL;rw[hks]at dv;simp only[Keep.ok,ja]at bz;have xM:=xu bz.1;have CF:∀(j:Nat)(x:oH),K.lists[j]? = some x->x.name∉K.boxes:=by intro j x hx;have:=jq.1 bz.2 x (jy hx);simp only[ja]at this;simpa using this.1
 have vV:∀(j:Nat)(x:oH),K.lists[j]? = some x->parK np x.name=false:=by intro j x hx;have:=jq.1 bz.2 x (jy hx);simp only[ja]at this;simpa using this.2
 let γ':Nat->Value:=λn=>match K.boxes.idxOf? n with
  |some _=>γ n
  |none=>match (K.lists.map (·.name)).idxOf? n with
   |some j=>match fp[j]? with
    |some (some k)=>γ k
    |_=> .slice none 0 0
   |none=>γ n
 have er:(cw np K s).bx=λn=>match K.boxes.idxOf? n with
  |some j=>uU s[K.slots.length+j]?
  |none=>match (K.lists.map (·.name)).idxOf? n with
   |some j=>uU s[K.slots.length+K.boxes.length+j]?
   |none=>if parK np n then .gone else .free:=rfl
 have hB:∀n,n∈K.boxes->(cw np K s).bx n=uS K n (σ.bx n)/\γ' n=γ n:=by
  intro n hn;rw[er];cases hq:K.boxes.idxOf? n with
  |none=>exact absurd hn (J9 hq)
  |some j=>have hj:=pV hq;refine⟨?_,by simp only[γ',hq]⟩;simp only[hq,<-hs];rw[kc (by simp)];simp only[ka,Nat.add_sub_cancel_left];rw[List.getElem?_append_left (by simp;exact(jt.1 hj).1)];simp[hj,uU]
 have Kd:∀(j:Nat)(x:oH),K.lists[j]? = some x->∃it src,fp[j]? = some src/\R8 np σ K.boxes x it src/\(cw np K s).bx x.name=uU (some it)/\
   γ' x.name=(match src with|some k=>γ k|none=> .slice none 0 0):=by
  intro j x hx;obtain⟨it,src,h1,h2,h3⟩:=CP j x hx
  have vW:K.boxes.idxOf? x.name=none:=by
   cases hq:K.boxes.idxOf? x.name with
   |none=>rfl
   |some i=>exact absurd (jy (pV hq)) (CF j x hx)
  have Ar:(K.lists.map (·.name))[j]? = some x.name:=by simp[hx]
  cases hq:(K.lists.map (·.name)).idxOf? x.name with
  |none=>exact absurd (jy Ar) (J9 hq)
  |some i=>
   have hi:=Sb xM (pV hq) Ar;subst hi;refine⟨it,src,h2,h3,?_,?_⟩
   .rw[er];simp only[vW,hq,<-hs];rw[kc (by simp;omega),kc (by simp;omega)];have:K.slots.length+K.boxes.length+i-(K.slots.map λi=>Item.s (FM K i (σ.sl i))).length-(K.boxes.map λk=>Item.b (uS K k (σ.bx k))).length=i:=by simp;omega
    rw[this,h1]
   .simp only[γ',vW,hq,h2];cases src<;>rfl
 have hF:∀n b,(cw np K s).bx n = .live b->n∈K.boxes\/∃(j:Nat)(x:oH),K.lists[j]? = some x/\x.name=n:=by
  intro n b hb;by_cases hn:n∈K.boxes
  .exact .inl hn
  .right;rw[er]at hb
   have vW:K.boxes.idxOf? n=none:=by
    cases hq:K.boxes.idxOf? n with
    |none=>rfl
    |some i=>exact absurd (jy (pV hq)) hn
   simp only[vW]at hb;split at hb
   .rename_i j hq;have hj:=pV hq;simp only[qf]at hj;cases hx:K.lists[j]? with
    |none=>simp[hx]at hj
    |some x=>simp[hx]at hj;exact⟨j,x,hx,hj⟩
   .split at hb<;>simp at hb
 have jV:∀(loc:Option Loc)(x:Leaf)(u:Value),br S w γ σ.bx x u->(x ≠ .dead->One u)->(∀l,loc=some l->iN σ l=x)->
   br S w γ' (cw np K s).bx (ob K loc x) u/\(ob K loc x ≠ .dead->One u):=by
  intro loc x u hl h1 xN;have gZ:br S w γ' (cw np K s).bx .dead u/\(Leaf.dead ≠ .dead->One u):=⟨trivial,λh=>absurd rfl h⟩
  have jY:∀n,loc.bind (BN K)=some n->∀(hu:(x = .nil)\/∃k,x = .ol k),br S w γ' (cw np K s).bx (.ol n) u/\(Leaf.ol n ≠ .dead->One u):=by
   intro n hn hu;cases loc with
   |none=>simp at hn
   |some l=>
    simp only[j3]at hn;have oW:=xN l rfl;obtain⟨j,y,hy,hyn,Jr⟩:=jp5 hn;obtain⟨it,src,_,⟨xs,f,f',iF,vX,xO⟩,xP,sF⟩:=Kd j y hy;obtain⟨_,al⟩:=Gt iF;obtain⟨cZ,f1,ri⟩:=al l Jr;have c9:One u:=h1 (by rcases hu with rfl|⟨k,rfl⟩<;>simp);rw[hyn]at xP sF;refine⟨⟨by rw[xP,vX];simp[uU],c9,λb _=>?_⟩,λ_=>c9⟩;rw[sF];rcases Ka ri with⟨rfl,_,_,fh⟩|⟨k0,rfl,xQ,cJ⟩
    .rw[oW]at fh;subst fh;exact hl
    .rw[oW]at xQ;subst xQ;exact hl.2.2 _ cJ
  cases x with
  |dead=>exact gZ
  |nil=>
   simp only[ob];split
   .rename_i n hn;exact jY n hn (.inl rfl)
   .exact⟨hl,h1⟩
  |d t v=>exact⟨hl,h1⟩
  |ip ls=>exact⟨hl,h1⟩
  |clo f caps=>exact⟨hl,h1⟩
  |clr f ks=>
   simp only[ob];split
   .rename_i hks;obtain⟨cv,hu,ha⟩:=hl;refine⟨⟨cv,hu,?_⟩,λ_=>h1 (by simp)⟩
    have go:∀(ks:List Nat)(zs:List Value),ks.all (λk=>K.boxes.contains k)=true->All2 (BW γ σ.bx) ks zs->All2 (BW γ' (cw np K s).bx) ks zs:=by
     intro ks;induction ks with
     |nil=>intro zs _ h;cases zs with|nil=>trivial|cons _ _=>exact h.elim
     |cons k ks ih=>
      intro zs hc h;cases zs with
      |nil=>exact h.elim
      |cons z zs=>simp only[v8,ja]at hc;obtain⟨di,dX⟩:=hB k (by simpa using hc.1);refine⟨⟨by rw[di];exact xL,h.1.2.1,λb hb=>?_⟩,ih zs hc.2 h.2⟩;rw[di]at hb;obtain⟨b0,ew,_⟩:=xK hb;rw[dX];exact h.1.2.2 b0 ew
    exact go ks cv.toList hks ha
   .exact gZ
  |ep k i c=>exact gZ
  |s1 k=>
   simp only[ob];split
   .rename_i hk;obtain⟨di,dX⟩:=hB k (by simpa using hk);refine⟨⟨by rw[di];exact xL,hl.2.1,λb hb=>?_⟩,λ_=>hl.2.1⟩;rw[di]at hb;obtain⟨b0,ew,jG⟩:=xK hb;have h3:=hl.2.2 b0 ew;rw[dX]
    cases b0<;>cases b<;>simp only[iO]at jG<;>first
     |exact jG.elim
     |exact h3.elim
     |exact h3
   .exact gZ
  |tl k i=>
   simp only[ob];split
   .rename_i hk;obtain⟨di,dX⟩:=hB k (by simpa using hk);refine⟨⟨by rw[di];exact xL,hl.2.1,λb hb=>?_⟩,λ_=>hl.2.1⟩;rw[di]at hb;obtain⟨b0,ew,jG⟩:=xK hb;have h3:=hl.2.2 b0 ew;rw[dX]
    cases b0<;>cases b<;>simp only[iO]at jG<;>first
     |exact jG.elim
     |exact h3.elim
     |(obtain⟨rfl,rfl,ny⟩:=jG;simp only at h3 ⊢;obtain⟨hm,h3⟩:=h3;rw[<-ny hm];exact⟨hm,h3⟩)
   .exact gZ
  |hd k i=>
   simp only[ob];split
   .rename_i hk;obtain⟨di,dX⟩:=hB k (by simpa using hk);refine⟨⟨by rw[di];exact xL,hl.2.1,λb hb=>?_⟩,λ_=>hl.2.1⟩;rw[di]at hb;obtain⟨b0,ew,jG⟩:=xK hb;have h3:=hl.2.2 b0 ew;rw[dX]
    cases b0<;>cases b<;>simp only[iO]at jG<;>first
     |exact jG.elim
     |exact h3.elim
     |(obtain⟨rfl,rfl,ny⟩:=jG;simp only at h3 ⊢;obtain⟨hm,h3⟩:=h3;rw[<-ny hm];exact⟨hm,h3⟩)
   .exact gZ
  |ol k=>
   simp only[ob];split
   .rename_i hk;obtain⟨di,dX⟩:=hB k (by simpa using hk);refine⟨⟨by rw[di];exact xL,hl.2.1,λb hb=>?_⟩,λ_=>hl.2.1⟩;rw[di]at hb;obtain⟨b0,ew,_⟩:=xK hb;rw[dX];exact hl.2.2 b0 ew
   .split
    .rename_i n hn;exact jY n hn (.inr ⟨k,rfl⟩)
    .exact gZ
  |bp k c=>
   simp only[ob];split
   .rename_i hk;obtain⟨di,dX⟩:=hB k (by simpa using hk);refine⟨⟨by rw[di];exact xL,hl.2.1,λb hb=>?_⟩,λ_=>hl.2.1⟩;rw[di]at hb;obtain⟨b0,ew,_⟩:=xK hb;rw[dX];exact hl.2.2 b0 ew
   .exact gZ
 have gy:∀n b,(cw np K s).bx n = .live b->(n∈K.boxes/\γ' n=γ n/\∃b0,σ.bx n = .live b0)\/(blk (γ' n)=none)\/
   ∃(j:Nat)(x:oH)(k:Nat)(b0:Bx),K.lists[j]? = some x/\x.name=n/\fp[j]? = some (some k)/\γ' n=γ k/\σ.bx k = .live b0/\k∉K.boxes/\parK np k=false:=by
  intro n b hb;rcases hF n b hb with hn|⟨j,x,hx,rfl⟩
  .obtain⟨h1,h2⟩:=hB n hn;rw[h1]at hb;obtain⟨b0,ew,_⟩:=xK hb;exact .inl ⟨hn,h2,b0,ew⟩
  .obtain⟨it,src,xO,⟨xs,f,f',iF,vX,pR⟩,xP,sF⟩:=Kd j x hx;obtain⟨⟨l,_,ri⟩,_⟩:=Gt iF;rcases Ka ri with⟨rfl,_,_,_⟩|⟨k,rfl,_,cJ⟩
   .exact .inr (.inl (by rw[sF];rfl))
   .obtain⟨_,h2,h3⟩:=pR k rfl;exact .inr (.inr ⟨j,x,k,_,hx,rfl,xO,sF,cJ,h2,h3⟩)
 refine⟨γ',⟨hR.size,hR.defers,?_,?_,?_,?_,hR.ext,hR.new,hR.here,hR.below,hR.grow,hR.os,hR.tape,hR.output,?_,λg o h=>⟨(hR.kept g o h).1,λn b hb cJ=>by
  have dQ:=(hR.kept g o h).2;rcases gy n b hb with⟨_,e,b0,ew⟩|e|⟨j,x,k,b0,_,_,_,e,ew,_⟩
  .rw[e]at cJ;exact dQ n b0 ew cJ
  .rw[e]at cJ;simp at cJ
  .rw[e]at cJ;exact dQ k b0 ew cJ⟩,hR.fix⟩,?_⟩
 ·-- slots
  intro i
  have eE:(cw np K s).sl i=match K.slots.idxOf? i with
   |some j=>w6 s[j]?
   |none=> .one (.one .dead):=rfl
  rw[eE];cases hq:K.slots.idxOf? i with
  |none=>exact⟨trivial,λh=>absurd rfl h⟩
  |some j=>
   have hj:=pV hq;have CQ:s[j]? = some (.s (FM K i (σ.sl i))):=by rw[<-hs,List.getElem?_append_left (by simp;exact(jt.1 hj).1)];simp[hj]
   simp only[CQ,w6];have vU:=hR.slot i;show bC S w γ' (cw np K s).bx (FM K i (σ.sl i)) _;cases na:σ.sl i with
   |tup l=>exact⟨trivial,λh=>absurd rfl h⟩
   |cnd x y z=>exact⟨trivial,λh=>absurd rfl h⟩
   |und=>exact⟨trivial,λh=>absurd rfl h⟩
   |one c=>
    rw[na]at vU;cases c with
    |one x=>exact jV (some (.slot i)) x _ vU.1 vU.2 (λl hl=>by simp at hl;subst hl;simp[iN,na])
    |st ls=>
     obtain⟨cs,hu,al,h1⟩:=vU;refine⟨cs,hu,?_,h1⟩;refine All2.map_left.2 ?_
     have:∀{ls:List Leaf}{cs:List Value},All2 (br S w γ σ.bx) ls cs->(∀u∈cs,One u)->All2 (λx u=>br S w γ' (cw np K s).bx (ob K none x) u) ls cs:=by
      intro ls;induction ls with
      |nil=>intro cs h _;cases cs with|nil=>trivial|cons _ _=>exact h.elim
      |cons x ls ih=>
       intro cs h h1;cases cs with
       |nil=>exact h.elim
       |cons u cs=>exact⟨(jV none x u h.1 (λ_=>h1 u (by simp)) (by simp)).1,ih h.2 (λv hv=>h1 v (by simp[hv]))⟩
     exact this al h1
    |av n b xs=>obtain⟨cs,hu,bd⟩:=vU;exact⟨cs,hu,bd⟩
 ·-- boxes
  intro n b hb;rcases hF n b hb with hn|⟨j,x,hx,rfl⟩
  .obtain⟨h1,h2⟩:=hB n hn;rw[h1]at hb;unfold uS at hb;split at hb
   .rename_i ls frz lZ;simp only[BS.live.injEq]at hb;subst hb;obtain⟨g,cur,e,q1,q2,q3,q4,q5,q6⟩:=hR.box n _ lZ;have pP:(ls.zipIdx.map λx=>ob K (if frz=true then none else some (Loc.cell n x.2)) x.1).length=ls.length:=by simp
    refine⟨g,cur,e,h2.trans q1,q2,?_,by rw[pP];exact q4,q5,q6⟩;rw[pP];refine Sc 0 (λj x u hx hu=>?_) q3.length;obtain⟨u',dH,il⟩:=q3.get j x hx;rw[hu]at dH;simp at dH;subst dH;refine(jV _ x u il (λ_=>q4 u (jy hu)) (λl hl=>?_)).1;cases frz with
    |true=>simp at hl
    |false=>simp at hl;subst hl;simp[iN,lZ,hx]
   .rename_i m t xs lZ;simp only[BS.live.injEq]at hb;subst hb;obtain⟨g,cur,e,q1,q2,q3,q4⟩:=hR.box n _ lZ;exact⟨g,cur,e,h2.trans q1,q2,q3,q4⟩
   .rename_i e t xs frz lZ;simp only[BS.live.injEq]at hb;subst hb;obtain⟨q1,q3⟩:=hR.box n _ lZ;exact⟨by rw[h2];exact q1,by rw[h2];exact q3⟩
   .simp at hb
  .obtain⟨it,src,xO,⟨xs,f,f',iF,vX,pR⟩,xP,sF⟩:=Kd j x hx;obtain⟨⟨l,_,ri⟩,_⟩:=Gt iF;rw[xP,vX]at hb;simp only[uU,BS.live.injEq]at hb;subst hb;rcases Ka ri with⟨rfl,bT,rfl,_⟩|⟨k,rfl,_,cJ⟩
   .refine BZ bT ⟨[],?_,trivial,λg hg=>?_⟩
    .rw[sF];exact⟨by simp,.inl ⟨rfl,rfl⟩⟩
    .rw[sF]at hg;simp[blk]at hg
   .obtain⟨rfl,_,_⟩:=pR k rfl;obtain⟨q1,q3⟩:=hR.box k _ cJ;exact⟨by rw[sF];exact q1,by rw[sF];exact q3⟩
 ·-- own
  intro n b g hb hg;rcases gy n b hb with⟨_,h2,b0,h3⟩|h|⟨j,x,k,b0,_,_,_,h2,h3,_,h5⟩
  .rw[h2]at hg;exact hR.own n b0 g h3 hg
  .rw[h]at hg;simp at hg
  .rw[h2]at hg;rcases hR.own k b0 g h3 hg with h|h
   .exact .inl h
   .rw[h5]at h;simp at h
 ·-- apart
  intro n n' b b' g aN hb ax hg ah;rcases gy n b hb with⟨m1,h2,b0,h3⟩|h|⟨j,x,k,b0,hx,hxn,hj,h2,h3,h4,_⟩
  .rw[h2]at hg;rcases gy n' b' ax with⟨_,i2,b1,i3⟩|i|⟨j',x',k',b1,_,_,_,i2,i3,i4,_⟩
   .rw[i2]at ah;exact hR.apart n n' b0 b1 g aN h3 i3 hg ah
   .rw[i]at ah;simp at ah
   .rw[i2]at ah;exact hR.apart n k' b0 b1 g (by rintro rfl;exact i4 m1) h3 i3 hg ah
  .rw[h]at hg;simp at hg
  .rw[h2]at hg;rcases gy n' b' ax with⟨m1,i2,b1,i3⟩|i|⟨j',x',k',b1,mD,Ke,h9,i2,i3,i4,_⟩
   .rw[i2]at ah;exact hR.apart k n' b0 b1 g (by rintro rfl;exact h4 m1) h3 i3 hg ah
   .rw[i]at ah;simp at ah
   .rw[i2]at ah;by_cases bR:k=k'
    .subst bR;have:=Sa dv hj h9;subst this;rw[hx]at mD;simp at mD;subst mD;exact aN (hxn.symm.trans Ke)
    .exact hR.apart k k' b0 b1 g bR h3 i3 hg ah
 ·-- parameters
  intro k v hv;obtain⟨p1,p2,p3⟩:=hR.par k v hv;refine⟨p1,?_,?_⟩
  .by_cases hk:k∈K.boxes
   .rw[(hB k hk).1];exact xL
   .rw[er]
    have vW:K.boxes.idxOf? k=none:=by
     cases hq:K.boxes.idxOf? k with
     |none=>rfl
     |some i=>exact absurd (jy (pV hq)) hk
    simp only[vW];split
    .rename_i j hq;have hj:=pV hq;simp only[qf]at hj;cases hx:K.lists[j]? with
     |none=>simp[hx]at hj
     |some x=>simp[hx]at hj;have:=vV j x hx;rw[hj,p1]at this;simp at this
    .simp[p1]
  .by_cases hk:k∈K.boxes
   .rw[(hB k hk).2];exact p3
   .have vW:K.boxes.idxOf? k=none:=by
     cases hq:K.boxes.idxOf? k with
     |none=>rfl
     |some i=>exact absurd (jy (pV hq)) hk
    simp only[γ',vW];split
    .rename_i j hq;have hj:=pV hq;simp only[qf]at hj;cases hx:K.lists[j]? with
     |none=>simp[hx]at hj
     |some x=>simp[hx]at hj;have:=vV j x hx;rw[hj,p1]at this;simp at this
    .exact p3
 .intro i;show ((match K.slots.idxOf? i with|some j=>w6 s[j]?|none=>Slot.one (.one .dead)):Slot).bare=true;split
  .unfold w6;split<;>rfl
  .rfl
theorem sG{K:Keep}{s:Snap}(hR:Rel N np S0 w0 refs σ a w S γ)(hc:cN σ)(hs:iv np K σ=some s):∃S' γ',Rel N np S0 w0 refs (cw np K s) a w S' γ'/\cN (cw np K s):=by
 unfold iv at hs;split at hs
 .rename_i σ1 h1;split at hs
  .rename_i σ2 h2;obtain⟨S1,aU,fc⟩:=J8 _ _ _ _ hR hc h1;obtain⟨S2,bU,gW⟩:=CO _ _ _ _ aU fc h2;obtain⟨γ',eY,tV⟩:=jv9 bU hs;exact⟨S2,γ',eY,tV⟩
  .simp at hs
 .simp at hs
end
def RdLe(rd bE:Nat->BS):Prop:=∀k,rd k=bE k\/rd k = .gone
theorem RdLe.live{rd bE:Nat->BS}(h:RdLe rd bE){k:Nat}{b:Bx}(hk:rd k = .live b):bE k = .live b:=by
 rcases h k with h|h
 .rw[<-h];exact hk
 .rw[h]at hk;simp at hk
theorem RdLe.free{rd bE:Nat->BS}(h:RdLe rd bE){k:Nat}(hk:gH (rd k)=true):gH (bE k)=true:=by
 rcases h k with h|h
 .rw[<-h];exact hk
 .rw[h]at hk;simp[gH]at hk
theorem RdLe.isLive{rd bE:Nat->BS}(h:RdLe rd bE){k:Nat}(hk:isLive (rd k)=true):isLive (bE k)=true:=by
 rcases h k with h|h
 .rw[<-h];exact hk
 .rw[h]at hk;simp[Lft.isLive]at hk
theorem RdLe.rdf{rd bE:Nat->BS}(h:RdLe rd bE)(np:Nat):RdLe (λk=>if parK np k then .gone else rd k) (λk=>if parK np k then .gone else bE k):=by
 intro k;dsimp only;split
 .exact .inl rfl
 .exact h k
theorem RdLe.msk{rd bE:Nat->BS}(h:RdLe rd bE):RdLe (mskM rd) (mskM bE):=by
 intro k;rcases h k with h|h
 .left;unfold mskM;rw[h]
 .right;unfold mskM;rw[h]
theorem Kf(M:List Nat)(rd:Nat->BS):RdLe (iM M rd) rd:=by
 intro k;unfold iM;split
 .exact .inr rfl
 .exact .inl rfl
section
variable{rd bE:Nat->BS}(hle:RdLe rd bE)
include hle
theorem Sd{t:Ty}{l:Leaf}{x}(h:iZ rd t l=some x):iZ bE t l=some x:=by
 unfold iZ at h ⊢;split at h
 .exact h
 .exact h
 .split at h
  .rename_i hk;rw[hle.live hk];exact h
  .simp at h
 .rename_i k
  have hs:∀v,s1D t (rd k)=some v->s1D t (bE k)=some v:=by
   intro v hv;rcases hle k with he|he
   .rw[<-he];exact hv
   .rw[he]at hv;unfold s1D at hv;split at hv<;>simp_all
  split at h
  .rename_i hv;rw[hs _ hv];exact h
  .simp at h
 .simp at h
theorem Gu:∀(t:Ty){ls:List Leaf}{x},gath rd t ls=some x->gath bE t ls=some x:=by
 intro t;induction t with
 |unit=>intro ls x h;simpa[gath]using h
 |wrap a ih=>
  intro ls x h;simp only[gath]at h ⊢;split at h
  .rename_i hg;rw[ih hg];exact h
  .simp at h
 |pair a b xh tp=>
  intro ls x h;simp only[gath]at h ⊢;split at h
  .rename_i hg;rw[xh hg];dsimp only;split at h
   .rename_i ej;rw[tp ej];exact h
   .simp at h
  .simp at h
 |arr n a ih=>intro ls x h;simp[gath]at h
 |_=>
  intro ls x h;cases ls with
  |nil=>simp[gath]at h
  |cons l ls=>
   simp only[gath]at h ⊢;split at h
   .rename_i hl;rw[Sd hle hl];exact h
   .simp at h
theorem Kg{t:Ty}{c:Cel}{x}(h:pE rd t c=some x):pE bE t c=some x:=by
 unfold pE at h ⊢;split at h
 .split at h
  .simp at h
  .rename_i ha;simp only[ha,z6,ku];split at h
   .rename_i hg;rw[Gu hle _ hg];exact h
   .simp at h
 .split at h
  .rename_i ha;simp only[ha,if_true];split at h
   .rename_i hg;rw[Gu hle _ hg];exact h
   .simp at h
  .simp at h
 .exact h
theorem jrn{ti:TyI}{l:Leaf}{x}(h:oJ rd ti l=some x):oJ bE ti l=some x:=by
 unfold oJ at h ⊢;split at h
 .split at h
  .rename_i hk;rw[hle.live hk];exact h
  .rename_i hk;rw[hle.live hk];exact h
  .simp at h
 .split at h
  .rename_i hk;rw[hle.live hk];exact h
  .rename_i hk;rw[hle.live hk];exact h
  .simp at h
 .exact h
 .simp at h
theorem jp6{ti:TyI}{i:Nat}{l:Leaf}{x}(h:pF rd ti i l=some x):pF bE ti i l=some x:=by
 unfold pF at h ⊢;split at h
 .split at h
  .split at h
   .rename_i hl;simp only[hle.isLive hl,if_true];exact h
   .simp at h
  .simp at h
 .split at h
  .split at h
   .rename_i hl;simp only[hle.isLive hl,if_true];exact h
   .simp at h
  .simp at h
 .exact h
 .simp at h
theorem jp7{ti:TyI}{l i:Leaf}{x}(h:sV rd ti l i=some x):sV bE ti l i=some x:=by
 unfold sV at h ⊢;split at h
 .split at h
  .rename_i hk;rw[hle.live hk];exact h
  .simp at h
 .exact h
 .split at h
  .rename_i hk;rw[hle.live hk];exact h
  .rename_i hk;rw[hle.live hk];exact h
  .simp at h
 .split at h
  .rename_i hk;rw[hle.live hk];exact h
  .simp at h
 .split at h
  .rename_i hk;rw[hle.live hk];exact h
  .simp at h
 .simp at h
theorem Se(a:Ty):∀{ls:List Leaf}{x},sT rd a ls=some x->sT bE a ls=some x
 |[],_,h=>h
 |l::ls,x,h=>by
  simp only[sT]at h ⊢;split at h
  .rename_i h1 h2;rw[Sd hle h1,Se a h2];exact h
  .simp at h
theorem jp8{t:Option Ty}{l:Leaf}{x}(h:sU rd t l=some x):sU bE t l=some x:=by
 unfold sU at h ⊢;split at h
 .split at h
  .split at h
   .rename_i hi;rw[if_pos hi];split at h
    .rename_i hk;rw[hle.live hk];exact h
    .simp at h
   .simp at h
  .simp at h
 .simp at h
theorem jp9{ti:TyI}{l:Leaf}{c:Cel}(h:sU rd ti.ty l=none)(hc:oJ rd ti l=some c):sU bE ti.ty l=none:=by
 unfold sU at h ⊢;split at h
 .rename_i k;split at h
  .rename_i m el aW;split at h
   .rename_i hi;rw[if_pos hi];simp only[oJ]at hc;split at hc
    .rename_i ls frz hk;rw[hle.live hk];cases frz with
     |true=>rfl
     |false=>rw[hk]at h;simp at h
    .rename_i hk;rw[hle.live hk]
    .simp at hc
   .rename_i hi;rw[if_neg hi]
  .rfl
 .rfl
theorem Kh(a:Ty):∀(ps:List (Nat×Cel)){xs:List a.den}{u:Ups}{x},jQ rd a xs u ps=some x->jQ bE a xs u ps=some x
 |[],_,_,_,h=>h
 |(i,c)::r,xs,u,x,h=>by
  simp only[jQ]at h ⊢;split at h
  .rename_i hd;rw[Kg hle hd];dsimp only;split at h
   .rename_i hi;simp only[hi,if_true];exact Kh a r h
   .simp at h
  .simp at h
theorem jsK{t:Option Ty}{l:Leaf}{x}(h:lenC rd t l=some x):lenC bE t l=some x:=by
 unfold lenC at h ⊢;split at h
 .exact h
 .split at h
  .rename_i hk;rw[hle.live hk];exact h
  .simp at h
 .exact h
 .exact h
 .split at h
  .rename_i hk;rw[hle.live hk];exact h
  .simp at h
 .split at h
  .rename_i hk;rw[hle.live hk];exact h
  .simp at h
 .split at h
  .rename_i hk;rw[hle.live hk];exact h
  .simp at h
 .simp at h
theorem jsL{e:Nat}{a:Ty}{s l:Leaf}{x}(h:appH rd e a s l=some x):appH bE e a s l=some x:=by
 unfold appH at h ⊢;split at h
 .split at h
  .rename_i bR;rw[if_pos bR];split at h
   .rename_i hk;rw[hle.live hk];exact h
   .simp at h
  .simp at h
 .simp at h
omit hle in
theorem jsM{e e':Nat}{a a':Ty}{s l:Leaf}{x}(h:appS rd e a s=some x):appH bE e' a' s l=none:=by
 unfold appS at h;split at h
 .rfl
 .rfl
 .simp at h
omit hle in
theorem jsN{fr Sf:Bool}(hf:fr=true->Sf=true){a:Ty}{n len:Nat}{ps:List (Nat×Cel)}{x}(h:one1 fr a n len ps=some x):one1 Sf a n len ps=some x:=by
 unfold one1 at h ⊢;split at h
 .split at h
  .split at h
   .rename_i hc;rw[if_pos ⟨hc.1,hc.2.1,hc.2.2.1,hf hc.2.2.2⟩];exact h
   .simp at h
  .simp at h
 .simp at h
theorem jsO{rdf eG:Nat->BS}(eP:RdLe rdf eG){a:Ty}{n:Nat}{s l:Leaf}{x}(h:appN rd rdf a n s l=some x):appN bE eG a n s l=some x:=by
 unfold appN at h ⊢;split at h
 .split at h
  .rename_i hk;rw[eP.live hk];dsimp only;split at h
   .rename_i hc;rw[if_pos ⟨hc.1,hle.free hc.2⟩];exact h
   .simp at h
  .simp at h
 .simp at h
omit hle in
theorem jro{rdf:Nat->BS}{e:Nat}{a a':Ty}{n:Nat}{s l:Leaf}{x}(h:appN rd rdf a n s l=some x):appH bE e a' s l=none:=by
 unfold appN at h;split at h
 .rfl
 .simp at h
omit hle in
theorem jsP{rdf eG:Nat->BS}{a a':Ty}{n:Nat}{s l:Leaf}{x}(h:appX rdf a l=some x):appN rd eG a' n s l=none:=by
 unfold appN;split
 .unfold appX at h;simp at h
 .rfl
theorem jpa{ti:TyI}{l m:Leaf}{lo hi:Option Leaf}{x}(h:zR rd ti l lo hi m=some x):zR bE ti l lo hi m=some x:=by
 unfold zR at h ⊢;split at h
 .split at h
  .rename_i hk;rw[hle.live hk];exact h
  .simp at h
 .simp at h
theorem jsQ{e:Nat}{a:Ty}{l:Leaf}{x}(h:appS rd e a l=some x):appS bE e a l=some x:=by
 unfold appS at h ⊢;split at h
 .split at h
  .rename_i hk;rw[hle.live hk];exact h
  .simp at h
 .exact h
 .simp at h
theorem Sh{a:Ty}{l:Leaf}{x}(h:appX rd a l=some x):appX bE a l=some x:=by
 unfold appX at h ⊢;split at h
 .split at h
  .rename_i hk;rw[hle.live hk];exact h
  .simp at h
 .exact h
 .exact h
 .split at h
  .rename_i hk;rw[hle.live hk];exact h
  .simp at h
 .simp at h
theorem jrp{t:Option Ty}{l m:Leaf}{x}(h:zS rd t l m=some x):zS bE t l m=some x:=by
 unfold zS at h ⊢;split at h
 .split at h
  .rename_i hk;rw[hle.live hk];dsimp only;split at h
   .rename_i ht;rw[if_pos ht];split at h
    .rename_i hy;rw[Sh hle hy];exact h
    .simp at h
   .simp at h
  .simp at h
 .simp at h
theorem jpb{t:Option Ty}{l:Leaf}{x}(h:zT rd t l=some x):zT bE t l=some x:=by
 unfold zT at h ⊢;split at h
 .split at h
  .rename_i hk;rw[hle.live hk];exact h
  .simp at h
 .simp at h
theorem Gv:∀(ls:List Leaf){x},tvs rd ls=some x->tvs bE ls=some x
 |[],_,h=>h
 |l::ls,x,h=>by
  simp only[tvs]at h ⊢;split at h
  .rename_i hr;rw[Gv ls hr];dsimp only;split at h
   .exact h
   .split at h
    .rename_i hk;rw[hle.live hk];exact h
    .simp at h
   .simp at h
  .simp at h
theorem Si:∀(cs:List Cel){x},uO rd cs=some x->uO bE cs=some x
 |[],_,h=>h
 |c::cs,x,h=>by
  simp only[uO]at h ⊢;split at h
  .rename_i hr;rw[Si cs hr];dsimp only;split at h
   .exact h
   .split at h
    .rename_i hk;rw[hle.live hk];dsimp only;split at h
     .rename_i ht;rw[Gv hle _ ht];exact h
     .simp at h
    .simp at h
   .simp at h
  .simp at h
end
theorem jpc{rd bE rdf eG:Nat->BS}(hle:RdLe rd bE)(eP:RdLe rdf eG){n:Nat}{c:Cel}{l:Leaf}{x}(h:uN rd rdf n c l=some x):uN bE eG n c l=some x:=by
 unfold uN at h ⊢;split at h
 .split at h
  .rename_i hk;rw[hle.live hk];exact h
  .rename_i hk;rw[hle.live hk];exact h
  .simp at h
 .split at h
  .rename_i hk;rw[hle.live hk];dsimp only;split at h
   .split at h
    .rename_i hi;rw[if_pos hi];split at h
     .rename_i hg;rw[Gu eP _ hg];exact h
     .simp at h
    .simp at h
   .simp at h
  .rename_i hk;rw[hle.live hk];dsimp only;split at h
   .split at h
    .rename_i hi;rw[if_pos hi];split at h
     .rename_i hg;rw[Gu eP _ hg];exact h
     .simp at h
    .simp at h
   .simp at h
  .simp at h
 .simp at h
theorem jpd{par:Nat->Bool}{rd bE:Nat->BS}(hle:RdLe rd bE){ti:TyI}{n:Nat}{l:Leaf}{lo hi:Option Leaf}{x}(h:zQ par rd ti n l lo hi=some x):zQ par bE ti n l lo hi=some x:=by
 unfold zQ at h ⊢;split at h
 .exact h
 .split at h
  .split at h
   .rename_i hk;rw[hle.live hk];exact h
   .simp at h
  .split at h
   .rename_i hk;rw[hle.live hk];dsimp only;split at h
    .rename_i aW;rw[if_pos aW];split at h
     .split at h
      .rename_i hp;rw[if_pos hp];exact h
      .rename_i hp;rw[if_neg hp];split at h
       .rename_i hl;rw[if_pos hl];split at h
        .rename_i hf;rw[if_pos (hle.free hf)];exact h
        .simp at h
       .rename_i hl;rw[if_neg hl];exact h
     .simp at h
    .simp at h
   .simp at h
 .split at h
  .rename_i hk;rw[hle.live hk];exact h
  .simp at h
 .simp at h
theorem jrq{rd bE rdf eG:Nat->BS}(hle:RdLe rd bE)(eP:RdLe rdf eG){t:Option TyI}{mv rl:Bool}{c:Cel}{x}(h:uP rd rdf t mv rl c=some x):uP bE eG t mv rl c=some x:=by
 unfold uP at h ⊢;split at h
 .split at h
  .rename_i hk;rw[hle.live hk];dsimp only;split at h
   .rename_i ht;rw[Gv eP _ ht];exact h
   .simp at h
  .rename_i hk;rw[hle.live hk];dsimp only;split at h
   .rename_i ht;rw[Gv eP _ ht];exact h
   .simp at h
  .simp at h
 .exact h
 .exact h
 .split at h
  .cases mv with
   |true=>
    simp only[j5]at h ⊢;split at h
    .rename_i hk;rw[eP.live hk];exact h
    .simp at h
   |false=>
    simp only[j6]at h ⊢;split at h
    .rename_i hk;rw[hle.live hk];exact h
    .simp at h
  .split at h
   .rename_i hk;rw[eP.live hk];exact h
   .simp at h
 .split at h
  .split at h
   .split at h
    .rename_i hd;rw[Kg eP hd];exact h
    .simp at h
   .simp at h
  .simp at h
theorem Ki{rd bE rdf eG:Nat->BS}(hle:RdLe rd bE)(eP:RdLe rdf eG){T:Nat->Option TyI}{mv:Bool}:∀(cs:List Cel){ts:List Nat}{ms:List Bool}{x},oK rd rdf T mv ts ms cs=some x->oK bE eG T mv ts ms cs=some x
 |[],_,_,_,h=>h
 |c::cs,ts,ms,x,h=>by
  simp only[oK]at h ⊢;split at h
  .rename_i ha;rw[jrq hle eP ha];dsimp only;split at h
   .rename_i hr;rw[Ki hle eP cs hr];exact h
   .simp at h
  .simp at h
theorem jsR{rd bE rdf eG:Nat->BS}(hle:RdLe rd bE)(eP:RdLe rdf eG){n m:Nat}{us:Ups}{fs:List Bk}{os:List Out}{x}(h:mkHd rd rdf n us fs m os=some x):mkHd bE eG n us fs m os=some x:=by
 unfold mkHd at h ⊢;split at h
 .split at h
  .split at h
   .rename_i hf;simp only[ja]at hf;rw[if_pos (by simp only[ja];exact⟨hle.free hf.1,eP.isLive hf.2⟩)];exact h
   .simp at h
  .simp at h
 .simp at h
theorem Sj{rd bE rdf eG:Nat->BS}(hle:RdLe rd bE)(eP:RdLe rdf eG){n:Nat}{us:Ups}{fs:List Bk}{r:Ret}{x}(h:sW rd rdf n us fs r=some x):sW bE eG n us fs r=some x:=by
 unfold sW at h ⊢;split at h
 .exact jsR hle eP h
 .unfold BG at h ⊢;split at h
  .split at h
   .rename_i hf;simp only[ja]at hf;rw[if_pos (by simp only[ja];exact⟨hf.1,jq.2 λe he=>hle.free (jq.1 hf.2 e he)⟩)];exact h
   .simp at h
  .simp at h
 .split at h
  .split at h
   .split at h
    .rename_i hf;rw[if_pos (jq.2 λe he=>hle.free (jq.1 hf e he))];exact h
    .simp at h
   .simp at h
  .simp at h
inductive ActLe:Act->Act->Prop
 |val (jR:Bool) (s:Slot) (u:Ups):ActLe (.val jR s u) (.val jR s u)
 |call (f:Nat) (args:List Arg) (mk mk':Ret->Option (Slot×Ups)):(∀r x,mk r=some x->mk' r=some x)->ActLe (.call f args mk) (.call f args mk')
theorem ActLe.refl(x:Act):ActLe x x:=by cases x with
 |val jR s u=>exact .val jR s u
 |call f args mk=>exact .call f args mk mk λ_ _ h=>h
theorem Sk{x y:Option Leaf}(h:∀z,x=some z->y=some z){r:Act}(hr:mW x=some r):mW y=some r:=by
 cases x with
 |none=>simp[mW]at hr
 |some z=>rw[h z rfl];exact hr
theorem jsS{x y:Option (Bool×Leaf)}(h:∀z,x=some z->y=some z){r:Act}(hr:oChk x=some r):oChk y=some r:=by
 cases x with
 |none=>simp[oChk]at hr
 |some z=>rw[h z rfl];exact hr
theorem Sl{rd bE:Nat->BS}(hle:RdLe rd bE){t:Nat}{k v:Ty}{x y:Leaf}{z}(h:mapC rd t k v x y=some z):mapC bE t k v x y=some z:=by
 unfold mapC at h ⊢;split at h
 .split at h
  .rename_i hb;simp only[hle.live hb];exact h
  .simp at h
 .simp at h
theorem Sn{E:Env}{ev:Operand->Slot}{rd bE:Nat->BS}(tx:RdLe rd bE){act:List (Nat×Bool)}{o:Oper}{A:Act}(h:dS E ev rd act o=some A):∃A',dS E ev bE act o=some A'/\ActLe A A':=by
 have hle:=tx.msk;have eP:=hle.rdf E.np;have same:dS E ev bE act o=some A->∃A',dS E ev bE act o=some A'/\ActLe A A':=λh=>⟨A,h,.refl A⟩;obtain⟨dst,op,type,pos,after,guard⟩:=o;cases op
 case alloc t=>
  refine same ?_;simp only[dS]at h ⊢;split at h
  .split at h
   .rename_i hf;simp only[hle.free hf,if_true];exact h
   .simp at h
  .simp at h
 case box t x=>
  refine same ?_;simp only[dS]at h ⊢;split at h
  .rename_i hf;simp only[hle.free hf,if_true];exact h
  .simp at h
 case build t ps=>
  refine same ?_;simp only[dS]at h ⊢;split at h
  .split at h
   .split at h
    .rename_i hi;simp only[hi,if_true];exact h
    rename_i hi;rw[if_neg hi];split at h
    .rename_i hb;rw[Kh eP _ _ hb];exact h
    .simp at h
   .exact h
   .simp at h
  .simp at h
 case buildSlice t n ps=>
  refine same ?_;simp only[dS]at h ⊢;split at h
  .split at h
   .split at h
    .rename_i di;rw[if_pos di];exact jsN hle.free h
    rename_i di;rw[if_neg di];split at h
    .simp at h
    .rename_i hn;simp only[hn,z6];split at h
     .rename_i hb;rw[Kh eP _ _ hb];dsimp only;split at h
      .rename_i hf;simp only[hle.free hf,if_true];exact h
      .simp at h
     .simp at h
   .simp at h
  .simp at h
 case load t x=>
  refine same ?_;simp only[dS]at h ⊢;split at h
  .split at h
   .rename_i ri;split at h
    .rename_i hg;rw[jp8 hle ri];dsimp only;rw[Se eP _ hg];exact h
    .simp at h
   .rename_i ri;cases vB:oJ (mskM rd) _ (lf ((ev x).cel act)) with
    |none=>rw[vB]at h;simp[oCel]at h
    |some c=>rw[jp9 hle ri vB,jrn hle vB];rw[vB]at h;exact h
  .simp at h
 case store t x y=>
  refine same ?_;simp only[dS]at h ⊢;split at h
  .split at h
   .rename_i hs;rw[jpc hle eP hs];exact h
   .simp at h
  .simp at h
 case nilCheck x=>
  refine same ?_;simp only[dS]at h ⊢;split at h
  .split at h
   .rename_i hl;simp only[hle.isLive hl,if_true];exact h
   .simp at h
  .split at h
   .rename_i hl;simp only[hle.isLive hl,if_true];exact h
   .simp at h
  .exact h
  .simp at h
 case makeFunc fn first captured=>
  refine same ?_;cases fn with
  |func f=>
   simp only[dS]at h ⊢;split at h
   .rename_i hf;simp only[hf,if_true];split at h
    .rename_i oq;simp only[oq,if_true];exact h
    .rename_i oq;simp only[oq];split at h
     .rename_i hc;rw[Si eP _ hc];exact h
     .simp at h
   .simp at h
  |_=>simp[dS]at h
 case fieldAddr t x i=>
  refine same ?_;simp only[dS]at h ⊢;split at h
  .exact Sk (λz hz=>jp6 hle hz) h
  .simp at h
 case indexAddr t x i=>
  refine same ?_;simp only[dS]at h ⊢;split at h
  .exact jsS (λz hz=>jp7 hle hz) h
  .simp at h
 case call c=>
  simp only[dS]at h ⊢;cases hc:c.callee with
  |invoke r m=>simp[hc]at h
  |value f=>
   simp only[hc]at h ⊢;split at h
   .split at h
    .rename_i ha;rw[Ki tx eP _ ha];dsimp only;split at h
     .rename_i hb;simp only[hb,if_true];simp only[j4]at h;subst h;exact⟨_,rfl,.call _ _ _ _ λr x hx=>Sj hle eP hx⟩
     .simp at h
    .simp at h
   .split at h
    .rename_i ha;rw[Ki tx eP _ ha];dsimp only;split at h
     .rename_i hb;simp only[hb,if_true];simp only[j4]at h;subst h;exact⟨_,rfl,.call _ _ _ _ λr x hx=>Sj hle eP hx⟩
     .simp at h
    .simp at h
   .simp at h
  |builtin b=>
   simp only[hc]at h ⊢;cases b
   case len=>
    refine⟨A,?_,.refl A⟩;dsimp only at h ⊢;split at h
    .split at h
     .exact Sk (λz hz=>jsK hle hz) h
     .simp at h
    .simp at h
   case append=>
    refine⟨A,?_,.refl A⟩;dsimp only at h ⊢;split at h
    .split at h
     .rename_i ht;rw[if_pos ht];split at h
      .split at h
       .rename_i aW;split at h
        .rename_i hh;rw[jsL hle hh];exact h
        split at h
        .rename_i hh;rw[jro hh];dsimp only;rw[jsO hle eP hh];exact h
        split at h
        .rename_i h1 h2;rw[jsM h1];dsimp only;rw[jsP h2,jsQ eP h1,Sh hle h2];dsimp only;split at h
         .rename_i hf;simp only[hle.free hf,if_true];exact h
         .simp at h
        .simp at h
       .simp at h
      .simp at h
     .simp at h
    .simp at h
   case copy=>
    refine⟨A,?_,.refl A⟩;dsimp only at h ⊢;split at h
    .split at h
     .rename_i ht;rw[if_pos ht];split at h
      .split at h
       .rename_i hq;rw[jrp hle hq];exact h
       .simp at h
      .simp at h
     .simp at h
    .simp at h
   case clear=>
    refine⟨A,?_,.refl A⟩;dsimp only at h ⊢;split at h
    .split at h
     .split at h
      .rename_i hq;rw[jpb hle hq];exact h
      .simp at h
     .simp at h
    .simp at h
   all_goals exact⟨A,h,.refl A⟩
 case slice t x lo hi mx=>
  refine same ?_;cases mx with
  |some m=>
   simp only[dS]at h ⊢;split at h
   .split at h
    .rename_i hq;rw[jpa hle hq];exact h
    .simp at h
   .simp at h
  |none=>
   simp only[dS]at h ⊢;split at h
   .split at h
    .rename_i hq;rw[jpd hle hq];exact h
    .simp at h
   .simp at h
 case makeMap t x=>
  refine same ?_;cases x with
  |some m=>simp[dS]at h
  |none=>
   simp only[dS]at h ⊢;split at h
   .split at h
    .rename_i hf;simp only[hle.free hf,if_true];exact h
    .simp at h
   .simp at h
 case lookup t x i ok=>
  refine same ?_;simp only[dS]at h ⊢;split at h
  .split at h
   .rename_i hq;rw[Sl tx hq];exact h
   .simp at h
  .simp at h
 case mapUpdate t x i y=>
  refine same ?_;simp only[dS]at h ⊢;split at h
  .split at h
   .rename_i hq hd;rw[Sl tx hq,Kg eP hd];exact h
   .simp at h
  .simp at h
 all_goals exact⟨A,h,.refl A⟩
section
variable{N:NT}{np:Nat}{S0:ay}{w0:World}{refs:Refs}{σ:St}{a:Go.Act}{w:World}{S:ay}{γ:Nat->Value}
def CFun(C:Nat->List Arg->(R:Type)->(Ret->Option R)->Option R):Prop:=
 ∀f args,∃o:Option Ret,∀(R:Type)(k:Ret->Option R),C f args R k=o.bind k
theorem Sp{E:Env}{ev sH:Operand->Slot}{rd:Nat->BS}{act:List (Nat×Bool)}{o:Oper}(h:∀x∈o.op.operands,ev x=sH x):dS E ev rd act o=dS E sH rd act o:=by
 have vY:∀ps:Array (Nat×Operand),(∀x∈ps.toList.map (·.2),ev x=sH x)->
   (ps.toList.map λp=>(p.1,(ev p.2).cel act))=(ps.toList.map λp=>(p.1,(sH p.2).cel act)):=λps hp=>
  y9 λp hm=>by simp only[hp p.2 (jn.2 ⟨p,hm,rfl⟩)]
 have args:∀ps:Array Operand,(∀x∈ps,ev x=sH x)->(ps.toList.map λp=>(ev p).cel act)=(ps.toList.map λp=>(sH p).cel act):=λps hp=>
  y9 λp hm=>by rw[hp p (by simpa using hm)]
 obtain⟨dst,op,type,pos,after,guard⟩:=o;cases op<;>simp only[Op.operands]at h<;>simp only[dS]
 case build t ps=>rw[vY ps λx hx=>h x (by simpa using hx)]
 case buildSlice t n ps=>rw[vY ps λx hx=>h x (by simpa using hx)]
 case makeFunc fn first captured=>
  have e:=args captured λx hx=>h x (by simp[hx]);cases fn with
  |func f=>simp only[e]
  |_=>rfl
 case call c=>
  have ha:=args c.args (λx hx=>h x (by simp[Call.operands,hx]));have nD:∀x∈c.args.toList,ev x=sH x:=λx hx=>h x (by simp[Call.operands];right;simpa using hx);simp only[ha];cases hc:c.callee with
  |value f=>have hf:ev f=sH f:=h f (by simp[Call.operands,hc]);simp only[hf]
  |invoke r m=>rfl
  |builtin b=>
   cases b<;>simp only
   case len=>
    split
    .rename_i x t fZ nv;have:=nD x (by rw[fZ];simp);simp only[this]
    .rfl
   case append=>
    split
    .rename_i t t' s x nv fZ;have e1:=nD s (by rw[fZ];simp);have e2:=nD x (by rw[fZ];simp);simp only[e1,e2]
    .rfl
   case copy=>
    split
    .rename_i t t' s x nv fZ;have e1:=nD s (by rw[fZ];simp);have e2:=nD x (by rw[fZ];simp);simp only[e1,e2]
    .rfl
   case clear=>
    split
    .rename_i t x nv fZ;have e1:=nD x (by rw[fZ];simp);simp only[e1]
    .rfl
 case slice t x lo hi mx=>
  have e1:=h x (by simp)
  have eo:∀y:Option Operand,(∀z,y=some z->ev z=sH z)->(y.map λx=>lf ((ev x).cel act))=(y.map λx=>lf ((sH x).cel act)):=by
   intro y hy;cases y with
   |none=>rfl
   |some z=>simp only[ko,hy z rfl]
  have e2:=eo lo (λz hz=>h z (by simp[hz]));have e3:=eo hi (λz hz=>h z (by simp[hz]));cases mx with
  |some m=>have e4:=h m (by simp);simp only[e1,e2,e3,e4]
  |none=>simp only[e1,e2,e3]
 case makeMap t x=>cases x<;>rfl
 all_goals (first|rfl|(simp_all;done))
def ShEq:BS->BS->Prop
 |.live (.cell _ _),.live (.cell _ _)=>True
 |.live (.lst e a xs _),.live (.lst e' a' cZ _)=>e=e'/\a=a'/\xs.length=cZ.length
 |.live (.arr n a _),.live (.arr n' a' _)=>n=n'/\a=a'
 |.free,.free=>True
 |.gone,.gone=>True
 |_,_=>False
theorem ShEq.refl:∀b:BS,ShEq b b
 |.live (.cell _ _)=>trivial
 |.live (.lst _ _ _ _)=>⟨rfl,rfl,rfl⟩
 |.live (.arr _ _ _)=>⟨rfl,rfl⟩
 |.free=>trivial
 |.gone=>trivial
theorem ShEq.symm{b c:BS}(h:ShEq b c):ShEq c b:=by
 cases b with
 |free=>cases c<;>simp_all[ShEq]
 |gone=>cases c<;>simp_all[ShEq]
 |live b=>
  cases c with
  |free=>cases b<;>simp[ShEq]at h
  |gone=>cases b<;>simp[ShEq]at h
  |live c=>
   cases b<;>cases c<;>simp only[ShEq]at h ⊢
   .exact⟨h.1.symm,h.2.1.symm,h.2.2.symm⟩
   .exact⟨h.1.symm,h.2.symm⟩
theorem ShEq.trans{b c d:BS}(h:ShEq b c)(h':ShEq c d):ShEq b d:=by
 cases b with
 |free=>cases c with
  |free=>exact h'
  |gone=>simp[ShEq]at h
  |live c=>cases c<;>simp[ShEq]at h
 |gone=>cases c with
  |gone=>exact h'
  |free=>simp[ShEq]at h
  |live c=>cases c<;>simp[ShEq]at h
 |live b=>cases c with
  |free=>cases b<;>simp[ShEq]at h
  |gone=>cases b<;>simp[ShEq]at h
  |live c=>cases d with
   |free=>cases c<;>simp[ShEq]at h'
   |gone=>cases c<;>simp[ShEq]at h'
   |live d=>
    cases b<;>cases c<;>simp only[ShEq]at h<;>cases d<;>simp only[ShEq]at h' ⊢
    .exact⟨h.1.trans h'.1,h.2.1.trans h'.2.1,h.2.2.trans h'.2.2⟩
    .exact⟨h.1.trans h'.1,h.2.trans h'.2⟩
theorem ShEq.mask{rd bE:Nat->BS}{M:List Nat}(h:∀k,M.contains k=false->ShEq (rd k) (bE k))(k:Nat):ShEq (iM M rd k) (iM M bE k):=by
 unfold iM;split
 .trivial
 .rename_i hc;exact h k (by simpa using hc)
theorem Gw{b c:BS}(h:ShEq b c):isLive b=isLive c:=by
 cases b with
 |free=>cases c<;>simp_all[ShEq,isLive]
 |gone=>cases c<;>simp_all[ShEq,isLive]
 |live b=>cases c with
  |free=>cases b<;>simp[ShEq]at h
  |gone=>cases b<;>simp[ShEq]at h
  |live c=>rfl
theorem jsT{rd bE:Nat->BS}(h:∀k,ShEq (rd k) (bE k))(ti:TyI)(l i:Leaf):sV rd ti l i=sV bE ti l i:=by
 unfold sV;split
 .rename_i k _ _;have hk:=h k;generalize rd k=b at hk;generalize bE k=c at hk;cases b with
  |free=>cases c<;>simp_all[ShEq]
  |gone=>cases c<;>simp_all[ShEq]
  |live b=>cases c with
   |free=>cases b<;>simp[ShEq]at hk
   |gone=>cases b<;>simp[ShEq]at hk
   |live c=>
    cases b with
    |lst e a xs f=>cases c with
     |lst e' a' cZ f'=>simp only[ShEq]at hk;obtain⟨rfl,rfl,hl⟩:=hk;dsimp only;rw[hl]
     |cell _ _=>simp[ShEq]at hk
     |arr _ _ _=>simp[ShEq]at hk
    |cell _ _=>cases c<;>first|rfl|(simp[ShEq]at hk)
    |arr _ _ _=>cases c<;>first|rfl|(simp[ShEq]at hk)
 .rfl
 .rename_i k _ _;have hk:=h k;generalize rd k=b at hk;generalize bE k=c at hk;cases b with
  |free=>cases c<;>simp_all[ShEq]
  |gone=>cases c<;>simp_all[ShEq]
  |live b=>cases c with
   |free=>cases b<;>simp[ShEq]at hk
   |gone=>cases b<;>simp[ShEq]at hk
   |live c=>
    cases b with
    |arr n a xs=>cases c with
     |arr n' a' cZ=>simp only[ShEq]at hk;obtain⟨rfl,rfl⟩:=hk;rfl
     |cell _ _=>simp[ShEq]at hk
     |lst _ _ _ _=>simp[ShEq]at hk
    |cell _ _=>cases c<;>first|rfl|(simp[ShEq]at hk)
    |lst _ _ _ _=>cases c<;>first|rfl|(simp[ShEq]at hk)
 .rename_i k _ _ _;have hk:=h k;generalize rd k=b at hk;generalize bE k=c at hk;cases b with
  |free=>cases c<;>simp_all[ShEq]
  |gone=>cases c<;>simp_all[ShEq]
  |live b=>cases c with
   |free=>cases b<;>simp[ShEq]at hk
   |gone=>cases b<;>simp[ShEq]at hk
   |live c=>
    cases b with
    |lst e a xs f=>cases c with
     |lst e' a' cZ f'=>simp only[ShEq]at hk;obtain⟨rfl,rfl,hl⟩:=hk;dsimp only;rw[hl]
     |cell _ _=>simp[ShEq]at hk
     |arr _ _ _=>simp[ShEq]at hk
    |cell _ _=>cases c<;>first|rfl|(simp[ShEq]at hk)
    |arr _ _ _=>cases c<;>first|rfl|(simp[ShEq]at hk)
 .rename_i k _ _;have hk:=h k;generalize rd k=b at hk;generalize bE k=c at hk;cases b with
  |free=>cases c<;>simp_all[ShEq]
  |gone=>cases c<;>simp_all[ShEq]
  |live b=>cases c with
   |free=>cases b<;>simp[ShEq]at hk
   |gone=>cases b<;>simp[ShEq]at hk
   |live c=>cases b<;>cases c<;>first|rfl|(simp[ShEq]at hk)
 .rfl
theorem jsU{rd bE:Nat->BS}(h:∀k,ShEq (rd k) (bE k))(ti:TyI)(i:Nat)(l:Leaf):pF rd ti i l=pF bE ti i l:=by
 unfold pF;split
 .rw[Gw (h _)]
 .rw[Gw (h _)]
 .rfl
 .rfl
theorem ShEq.msk{rd bE:Nat->BS}{k:Nat}(h:ShEq (rd k) (bE k)):ShEq (mskM rd k) (mskM bE k):=by
 unfold mskM;generalize rd k=a at h;generalize bE k=b at h;cases a with
 |free=>cases b<;>simp_all[ShEq]
 |gone=>cases b<;>simp_all[ShEq]
 |live a=>
  cases b with
  |free=>cases a<;>simp[ShEq]at h
  |gone=>cases a<;>simp[ShEq]at h
  |live b=>
   cases a<;>cases b<;>simp only[ShEq]at h<;>dsimp only
   .trivial
   .obtain⟨rfl,rfl,h3⟩:=h;rename_i e _ _ _ _ _;cases isM e
    .exact⟨rfl,rfl,h3⟩
    .trivial
   .exact h
theorem jva{E:Env}{ev:Operand->Slot}{rd bE:Nat->BS}{act:List (Nat×Bool)}{o:Oper}(ha:qG o=true)(h:∀k,ShEq (rd k) (bE k)):dS E ev rd act o=dS E ev bE act o:=by
 have h:∀k,ShEq (mskM rd k) (mskM bE k):=λk=>(h k).msk;obtain⟨dst,op,type,pos,after,guard⟩:=o;cases op<;>simp only[qG,ku]at ha
 .simp only[dS];split
  .rw[Gw (h _)]
  .rw[Gw (h _)]
  .rfl
  .rfl
 .simp only[dS];split
  .rw[jsU h]
  .rfl
 .simp only[dS];split
  .rw[jsT h]
  .rfl
theorem Sq:∀(u:Ups)(σ:St),(∀e∈u,ShEq (σ.bx e.1) e.2)->∀k,ShEq (σ.bx k) ((σ.upd u).bx k)
 |[],σ,_,k=>ShEq.refl _
 |e::u,σ,h,k=>by
  have h0:∀k,ShEq (σ.bx k) ((σ.setB e.1 e.2).bx k):=by
   intro k;simp only[St.setB];split
   .rename_i hk;rw[hk];exact h e (by simp)
   .exact ShEq.refl _
  have h1:=Sq u (σ.setB e.1 e.2) (λx hx=>(h0 x.1).symm.trans (h x (by simp[hx]))) k;exact(h0 k).trans h1
def UpSh(rd:Nat->BS)(u:Ups):Prop:=∀e∈u,ShEq (rd e.1) e.2/\isLive e.2=true
theorem jvb{rd:Nat->BS}{t:Ty}{l:Leaf}{v:t.den}{u:Ups}(h:iZ rd t l=some (v,u)):UpSh rd u:=by
 unfold iZ at h;split at h
 .split at h
  .simp only[j4,j8]at h;rw[<-h.2];intro e he;simp at he
  .simp at h
 .split at h
  .simp only[j4,j8]at h;rw[<-h.2];intro e he;simp at he
  .simp at h
 .split at h
  .rename_i hk;split at h
   .simp only[j4,j8]at h;rw[<-h.2];intro e he;simp only[km]at he;subst he;dsimp only;rw[hk];exact⟨⟨rfl,rfl,rfl⟩,rfl⟩
   .simp at h
  .simp at h
 .split at h
  .simp only[j4,j8]at h;rw[<-h.2];intro e he;simp at he
  .simp at h
 .simp at h
theorem UpSh.app{rd:Nat->BS}{u v:Ups}(h:UpSh rd u)(h':UpSh rd v):UpSh rd (u++v):=by
 intro e he;rcases jm.1 he with he|he
 .exact h e he
 .exact h' e he
theorem Sr{rd:Nat->BS}:∀(t:Ty){ls:List Leaf}{v:t.den}{r:List Leaf}{u:Ups},gath rd t ls=some (v,r,u)->UpSh rd u:=by
 intro t;induction t with
 |unit=>intro ls v r u h;simp only[gath,j4,j8]at h;rw[<-h.2.2];intro e he;simp at he
 |wrap a ih=>
  intro ls v r u h;simp only[gath]at h;split at h
  .rename_i hg;simp only[j4,j8]at h;rw[<-h.2.2];exact ih hg
  .simp at h
 |pair a b xh tp=>
  intro ls v r u h;simp only[gath]at h;split at h
  .rename_i hg;split at h
   .rename_i ej;simp only[j4,j8]at h;rw[<-h.2.2];exact(xh hg).app (tp ej)
   .simp at h
  .simp at h
 |arr n a ih=>intro ls v r u h;simp[gath]at h
 |_=>
  intro ls v r u h;cases ls with
  |nil=>simp[gath]at h
  |cons l ls=>
   simp only[gath]at h;split at h
   .rename_i hl;simp only[j4,j8]at h;rw[<-h.2.2];exact jvb hl
   .simp at h
theorem jsW{rd rdf:Nat->BS}(aX:RdLe rdf rd){n:Nat}{c:Cel}{l:Leaf}{u:Ups}(h:uN rd rdf n c l=some u):UpSh rd u:=by
 have one:∀(k:Nat)(b b':Bx),rd k = .live b->ShEq (.live b) (.live b')->UpSh rd [(k,.live b')]:=by intro k b b' hk hs e he;simp only[km]at he;subst he;exact⟨by rw[hk];exact hs,rfl⟩
 have lift:∀u,UpSh rdf u->UpSh rd u:=by
  intro u hu e he;obtain⟨h1,h2⟩:=hu e he;rcases aX e.1 with hq|hq
  .rw[hq]at h1;exact⟨h1,h2⟩
  .rw[hq]at h1;cases h3:e.2 with
   |free=>rw[h3]at h2;simp[isLive]at h2
   |gone=>rw[h3]at h2;simp[isLive]at h2
   |live b=>rw[h3]at h1;cases b<;>simp[ShEq]at h1
 unfold uN at h;split at h
 .split at h
  .rename_i hk;split at h
   .split at h
    .simp only[j4]at h;subst h;exact one _ _ _ hk trivial
    .simp at h
   .simp at h
  .rename_i hk;split at h
   .split at h
    .split at h
     .split at h
      .simp only[j4]at h;subst h;exact one _ _ _ hk ⟨rfl,rfl⟩
      .simp at h
     .simp at h
    .simp at h
   .simp at h
  .simp at h
 .split at h
  .rename_i hk;split at h
   .split at h
    .split at h
     .rename_i hg;split at h
      .simp at h
      .simp only[j4]at h;subst h;exact(lift _ (Sr _ hg)).app (one _ _ _ hk ⟨rfl,rfl,by simp⟩)
     .simp at h
    .simp at h
   .simp at h
  .rename_i hk;split at h
   .split at h
    .split at h
     .rename_i hg;split at h
      .simp at h
      .simp only[j4]at h;subst h;exact(lift _ (Sr _ hg)).app (one _ _ _ hk ⟨rfl,rfl⟩)
     .simp at h
    .simp at h
   .simp at h
  .simp at h
 .simp at h
theorem jya(np:Nat)(rd:Nat->BS):RdLe (λk=>if parK np k then .gone else rd k) rd:=by
 intro k;dsimp only;split
 .exact .inr rfl
 .exact .inl rfl
theorem UpSh.le{rd bE:Nat->BS}(hle:RdLe rd bE){u:Ups}(h:UpSh rd u):UpSh bE u:=by
 intro e he;obtain⟨h1,h2⟩:=h e he;rcases hle e.1 with hq|hq
 .rw[hq]at h1;exact⟨h1,h2⟩
 .rw[hq]at h1;cases h3:e.2 with
  |free=>rw[h3]at h2;simp[isLive]at h2
  |gone=>rw[h3]at h2;simp[isLive]at h2
  |live b=>rw[h3]at h1;cases b<;>simp[ShEq]at h1
theorem jx1(rd:Nat->BS):RdLe (mskM rd) rd:=λk=>QV k
theorem jpe{E:Env}{ev:Operand->Slot}{rd:Nat->BS}{act:List (Nat×Bool)}{o:Oper}(ho:sY o=true){jR:Bool}{s:Slot}{u:Ups}(h:dS E ev rd act o=some (.val jR s u)):UpSh rd u:=by
 obtain⟨dst,op,type,pos,after,guard⟩:=o;cases op<;>simp only[sY,ku]at ho;simp only[dS]at h;split at h
 .split at h
  .rename_i hs;simp only[j4,Act.val.injEq]at h;rw[<-h.2.2];exact(jsW (jya E.np (mskM rd)) hs).le (jx1 rd)
  .simp at h
 .simp at h
theorem jiS{E:Env}{ev:Operand->Slot}{rd:Nat->BS}{act:List (Nat×Bool)}{o:Oper}(ho:sY o=true){f:Nat}{args:List Arg}{mk:Ret->Option (Slot×Ups)}:dS E ev rd act o≠some (.call f args mk):=by
 obtain⟨dst,op,type,pos,after,guard⟩:=o;cases op<;>simp only[sY,ku]at ho;intro h;simp only[dS]at h;split at h
 .split at h
  .simp at h
  .simp at h
 .simp at h
theorem UpSh.unmask{rd:Nat->BS}{M:List Nat}{u:Ups}(h:UpSh (iM M rd) u):UpSh rd u:=by
 intro e he;obtain⟨h1,h2⟩:=h e he;rcases Kf M rd e.1 with hq|hq
 .rw[hq]at h1;exact⟨h1,h2⟩
 .rw[hq]at h1;cases h3:e.2 with
  |free=>rw[h3]at h2;simp[isLive]at h2
  |gone=>rw[h3]at h2;simp[isLive]at h2
  |live b=>rw[h3]at h1;cases b<;>simp[ShEq]at h1
end
section
variable{N:NT}{np:Nat}{S0:ay}{w0:World}{refs:Refs}{σ:St}{a:Go.Act}{w:World}{S:ay}{γ:Nat->Value}
inductive Bef(ops:Array Oper):Nat->Nat->Prop
 |dep {i j:Nat} {o:Oper}:ops[i]? = some o->j∈oM o->Bef ops i j
 |trans {i j k:Nat}:Bef ops i j->Bef ops j k->Bef ops i k
structure DOkR(ops:Array Oper)(A:List (List Nat)):Prop where
 lt:∀i o,ops[i]? = some o->∀j∈oM o,j<i
 addr:∀i o,ops[i]? = some o->qG o=true->∀k,k∉A.getD i []
 dst:∀i j oi oj t,ops[i]? = some oi->ops[j]? = some oj->i≠j->oj.dst=some t->oi.dst≠some t/\(t∈oi.looksAt ops->Bef ops i j\/Bef ops j i)
 box:∀i j oi oj k,ops[i]? = some oi->ops[j]? = some oj->i≠j->k∈A.getD i []->k∈A.getD j []->Bef ops i j\/Bef ops j i
theorem DOkR.bef{ops:Array Oper}{A:List (List Nat)}(h:DOkR ops A){i j:Nat}(hb:Bef ops i j):j<i:=by
 induction hb with
 |dep ho hj=>exact h.lt _ _ ho _ hj
 |trans _ _ h1 h2=>omega
def ClOk(ops:Array Oper)(cl:List Nat):Prop:=∀i j,(cl.getD i 0).testBit j=true->Bef ops i j
theorem Ss{ops:Array Oper}{cls:List Nat}(hc:ClOk ops cls){i:Nat}{o:Oper}(ho:ops[i]? = some o):∀(l:List Nat)(m:Nat),(∀j∈l,j∈oM o)->(∀j,m.testBit j=true->Bef ops i j)->
  ∀j,(l.foldl (λm j=>m|||(2^j|||cls.getD j 0)) m).testBit j=true->Bef ops i j
 |[],m,_,hm,j,h=>hm j h
 |x::l,m,hl,hm,j,h=>by
  refine Ss hc ho l _ (λj hj=>hl j (by simp[hj])) (λj hj=>?_) j h;simp only[Nat.testBit_or,zw,Nat.testBit_two_pow,jh]at hj;rcases hj with hj|hj|hj
  .exact hm j hj
  .subst hj;exact .dep ho (hl x (by simp))
  .exact .trans (.dep ho (hl x (by simp))) (hc x j hj)
theorem Su{ops:Array Oper}:∀(l:List Oper)(cls:List Nat),ClOk ops cls->(∀k o,l[k]? = some o->ops[cls.length+k]? = some o)->ClOk ops (BJ l cls)
 |[],cls,hc,_=>hc
 |o::os,cls,hc,hl=>by
  have ho:ops[cls.length]? = some o:=by have:=hl 0 o rfl;simpa using this
  refine Su os _ ?_ (λk x hk=>by
   have:=hl (k+1) x (by simpa using hk);rw[jf,kn];rwa[show cls.length+1+k=cls.length+(k+1) by omega])
  intro i j dG;rcases yj i cls.length with hi|hi|hi
  .rw[List.getD_eq_getElem?_getD,List.getElem?_append_left hi,<-List.getD_eq_getElem?_getD]at dG;exact hc i j dG
  .subst hi;rw[List.getD_eq_getElem?_getD,kc (jo _),Nat.sub_self]at dG;simp only[List.getElem?_cons_zero,vb]at dG;exact Ss hc ho (oM o) 0 (λ_ h=>h) (λj h=>by simp at h) j dG
  .rw[List.getD_eq_getElem?_getD,qk (by simp;omega)]at dG;simp at dG
theorem Kj{ops:Array Oper}{cl:List Nat}(hc:ClOk ops cl){i j:Nat}(h:BK cl i j=true):i=j\/Bef ops i j\/Bef ops j i:=by
 simp only[BK,zw,zr]at h;rcases h with (h|h)|h
 .exact .inl h
 .exact .inr (.inl (hc i j h))
 .exact .inr (.inr (hc j i h))
theorem jpf{ops:Array Oper}{cl:List Nat}{A:List (List Nat)}(hc:ClOk ops cl)(bz:Qz ops cl A=true):DOkR ops A:=by
 have hz:∀{i:Nat}{o:Oper},ops[i]? = some o->(o,i)∈ops.toList.zipIdx:=by intro i o ho;rw[qy];exact⟨i,by rw[List.getElem?_zipIdx];simp[ho]⟩
 have oX:∀i k,k∈A.getD i []->A.isEmpty=false:=by
  intro i k hk;cases A with
  |nil=>simp at hk
  |cons _ _=>rfl
 have al:∀{i:Nat}{o:Oper},ops[i]? = some o->(∀j∈oM o,j<i)/\(A.isEmpty || !qG o||(A.getD i []).isEmpty)=true/\∀j oj,ops[j]? = some oj->FL ops cl A i o j oj=true:=by intro i o ho;have:=jq.1 bz (o,i) (hz ho);simp only[ja]at this;exact⟨λj hj=>by simpa using jq.1 this.1.1 j hj,this.1.2,λj oj kA=>jq.1 this.2 (oj,j) (hz kA)⟩
 refine⟨λi o ho=>(al ho).1,λi o ho l5 k hk=>?_,λi j oi oj t hi hj dG ht=>?_,λi j oi oj k hi hj dG hk bc=>?_⟩
 .have:=(al ho).2.1;rw[oX i k hk,l5]at this;simp only[jw,ze,List.isEmpty_iff]at this;rw[this]at hk;simp at hk
 .have:=(al hi).2.2 j oj hj;simp only[FL,ht,ja]at this;have h1:=this.1;simp only[zw,zr,dG,false_or,ja,bne_iff_ne,ne_eq,kr,qb,kj]at h1;refine⟨h1.1,λhm=>?_⟩;rcases h1.2 with h|h
  .exact absurd hm h
  .exact(Kj hc h).resolve_left dG
 .have:=(al hi).2.2 j oj hj;simp only[FL,ja]at this;have h2:=this.2;rw[oX i k hk]at h2;simp only[ze,zw]at h2;rcases h2 with h|h
  .exact(Kj hc h).resolve_left dG
  .have:=jq.1 h k hk;simp only[qb,kr,kj]at this;exact absurd bc this
theorem Sv{ops:Array Oper}{cl:List Nat}{A:List (List Nat)}(hc:ClOk ops cl){i:Nat}{oi:Oper}{k:Nat}(hm:(sZ ops cl A i oi).contains k=false){j:Nat}{oj:Oper}(hj:ops[j]? = some oj)(hk:k∈A.getD j []) :
  i=j\/Bef ops i j\/Bef ops j i\/(qG oi=true/\sY oj=true):=by
 have hz:(oj,j)∈ops.toList.zipIdx:=by rw[qy];exact⟨j,by rw[List.getElem?_zipIdx];simp[hj]⟩
 have aN:A.isEmpty=false:=by
  cases A with
  |nil=>simp at hk
  |cons _ _=>rfl
 unfold sZ at hm;rw[aN]at hm;simp only[ku,z6,qb,kj,vc,not_exists,not_and]at hm;have:=hm (oj,j) hz;dsimp only at this;split at this
 .rename_i h;simp only[zw,ja]at h;rcases h with h|h
  .rcases Kj hc h with h|h|h
   .exact .inl h
   .exact .inr (.inl h)
   .exact .inr (.inr (.inl h))
  .exact .inr (.inr (.inr h))
 .exact absurd hk this
inductive DStep(P:Program)(E:Env)(ops:Array Oper)(M Ai:List Nat)(o:Oper)(σ:St):St->Prop
 |skip (s:Nat) (wn v:Bool):oI ops o=some (s,wn)->σ.sl s = .one (.one (.d .bool v))->v≠wn->DStep P E ops M Ai o σ (σ.setD o.dst .und)
 |skipU (s:Nat) (wn:Bool):oI ops o=some (s,wn)->σ.sl s = .und->DStep P E ops M Ai o σ (σ.setD o.dst .und)
 |val (s:Slot) (u:Ups):(o.guard=none\/∃s wn,oI ops o=some (s,wn)/\σ.sl s = .one (.one (.d .bool wn)))->dS E σ.ev (iM M σ.bx) [] o=some (.val true s u)->(∀e∈u,e.1∈Ai)->
  DStep P E ops M Ai o σ ((σ.upd u).setD o.dst s)
 |call (f:Nat) (args:List Arg) (mk:Ret->Option (Slot×Ups)) (ret:Ret) (s:Slot) (u:Ups):(o.guard=none\/∃s wn,oI ops o=some (s,wn)/\σ.sl s = .one (.one (.d .bool wn)))->
  dS E σ.ev (iM M σ.bx) [] o=some (.call f args mk)->Fun P f->Gf P f args (λr=>r=ret)->mk ret=some (s,u)->(∀e∈u,e.1∈Ai)->DStep P E ops M Ai o σ ((σ.upd u).setD o.dst s)
theorem Sw{s:Nat}{x:Slot}(h:σ.sl s=x):σ.setS s x=σ:=by
 unfold St.setS
 have:(λj=>if j=s then x else σ.sl j)=σ.sl:=by
  funext j
  split
  .rename_i hj;subst hj;exact h.symm
  .rfl
 rw[this]
theorem Sz{u:Ups}{Ai:List Nat}(h:(u.all λe=>Ai.contains e.1)=true):∀e∈u,e.1∈Ai:=λe he=>by simpa using jq.1 h e he
theorem Kk{P:Program}{E:Env}(hC:iU P E.C)(hF:CFun E.C){ops:Array Oper}{M Ai:List Nat}{o:Oper}{R:Type}{k:St->Option R}{r:R}
  (hg:o.guard=none\/∃s wn,oI ops o=some (s,wn)/\σ.sl s = .one (.one (.d .bool wn)))(h:runD E M Ai σ o k=some r):∃σ',DStep P E ops M Ai o σ σ'/\k σ'=some r:=by
 unfold runD at h;split at h
 .simp at h
 .rename_i jR s u ho;split at h
  .rename_i hb;cases jR with
   |false=>simp at h
   |true=>exact⟨_,.val s u hg ho (Sz hb),h⟩
  .simp at h
 .rename_i f args mk ho;obtain⟨x,hx⟩:=hF f args;rw[hx]at h;cases x with
  |none=>simp at h
  |some ret=>
   simp only[j3]at h;obtain⟨hf,dJ⟩:=hC f args Ret some ret (by rw[hx];rfl);split at h
   .rename_i s u aV;split at h
    .rename_i hb
     exact⟨_,.call f args mk ret s u hg ho hf (by
      intro w S vals ha hn hS;refine(dJ w S vals ha hn hS).mono ?_
      rintro e w' ⟨r',qR,rest⟩
      exact⟨r',by simpa using qR,rest⟩) aV (Sz hb),h⟩
    .simp at h
   .simp at h
theorem jx2{P:Program}{E:Env}(hC:iU P E.C)(hF:CFun E.C){ops:Array Oper}{M Ai:List Nat}{o:Oper}{R:Type}{k:St->Option R}{r:R}
  (h:BL E ops M Ai σ o k=some r):∃σ',DStep P E ops M Ai o σ σ'/\k σ'=some r:=by
 unfold BL at h;split at h
 .rename_i hg;exact Kk hC hF (.inl hg) h
 .split at h
  .rename_i s wn hg;split at h
   .rename_i v hv;cases v with
    |true=>
     rw[j5,Sw hv]at h;cases wn with
     |true=>exact Kk hC hF (.inr ⟨s,true,hg,hv⟩) h
     |false=>exact⟨_,.skip s false true hg hv (by simp),h⟩
    |false=>
     rw[j6,Sw hv]at h;cases wn with
     |false=>exact Kk hC hF (.inr ⟨s,false,hg,hv⟩) h
     |true=>exact⟨_,.skip s true false hg hv (by simp),h⟩
   .rename_i hv;exact⟨_,.skipU s wn hg hv,h⟩
   .simp at h
  .simp at h
theorem SA{P:Program}{E:Env}(hC:iU P E.C)(hF:CFun E.C){ops:Array Oper}{cl:List Nat}{A:List (List Nat)}{R:Type}{k:St->Option R}{r:R}:∀(n i:Nat)(σ:St),i+n=ops.size->zV E ops cl A (ops.toList.drop i) i σ k=some r->
  ∃τ:Nat->St,τ i=σ/\k (τ ops.size)=some r/\∀j o,i<=j->ops[j]? = some o->lI E.N o=true/\DStep P E ops (sZ ops cl A j o) (A.getD j []) o (τ j) (τ (j+1))
 |0,i,σ,hi,h=>by
  rw[jd (by simp;omega)]at h;refine⟨λ_=>σ,rfl,h,λj o hj ho=>?_⟩;have:=(je.1 ho).1;omega
 |n+1,i,σ,hi,h=>by
  have ak:i<ops.size:=by omega
  rw[jb (by simpa using ak)]at h;simp only[zV]at h;split at h
  .rename_i hd;obtain⟨σ1,hs,hk⟩:=jx2 (P:=P) hC hF h;obtain⟨τ1,h1,h2,h3⟩:=SA hC hF n (i+1) σ1 (by omega) hk;refine⟨λj=>if j=i then σ else τ1 j,by simp,?_,λj o hj ho=>?_⟩
   .simp only[show ops.size≠i by omega,z6];exact h2
   .by_cases pW:j=i
    .subst pW;have xR:ops[j]? = some ops[j]:=jr ak;rw[xR]at ho;simp only[j4]at ho;subst ho;refine⟨by simpa using hd,?_⟩;simp only[if_true,show j+1≠j by omega,z6,h1];simpa using hs
    .simp only[pW,z6,show j+1≠i by omega];exact h3 j o (by omega) ho
  .simp at h
theorem Rel.drawn(hR:Rel N np S0 w0 refs σ a w S γ)(n:Nat):Rel N np S0 w0 refs σ a { w with drawn:=n } S γ:=
 Rel.step (bx':=σ.bx) (γ':=γ) hR (λ_ _ h=>⟨h,rfl⟩) (.refl _ _) (λk b hb=>ez.keep (w:=w) (w':={ w with drawn:=n }) (λ_ _ h=>⟨h,rfl⟩) (.refl _ _) rfl (λ_ _=>⟨rfl,λ_=>Iff.rfl⟩) (hR.box k b hb))
  hR.own hR.apart hR.new hR.here hR.below hR.grow hR.os hR.tape hR.output (λ_ _ _ h=>⟨rfl,h⟩)
theorem D_wp{P:Program}{E:Env}(hT:ca P E.T)(hR:Rel E.N E.np S0 w0 refs σ a w S γ)(hc:cN σ){ops:Array Oper}{M Ai:List Nat}{i:Nat}{o:Oper}(ho:ops[i]? = some o)(hd:lI E.N o=true)
  {τ τ':St}(hs:DStep P E ops M Ai o τ τ')(er:(∀k,iM M σ.bx k=iM M τ.bx k)\/(qG o=true/\∀k,ShEq (iM M σ.bx k) (iM M τ.bx k)))(rj:∀t,t∈o.looksAt ops->σ.sl t=τ.sl t){K:Go.Act->World->Prop}{Q:Exit->Go.Act->World->Prop}
  (hK:∀(s:Slot)(u:Ups)(a':Go.Act)(w':World)(S':ay)(γ':Nat->Value),τ'=(τ.upd u).setD o.dst s->(∀e∈u,e.1∈Ai)->Rel E.N E.np S0 w0 refs ((σ.upd u).setD o.dst s) a' w' S' γ'->cN ((σ.upd u).setD o.dst s)->K a' w') :
  wpOp P ops Q i K a w:=by
 have tG:=xJ hd
 have l7:∀x∈o.op.operands,σ.ev x=τ.ev x:=by
  intro x hx;cases x with
  |tmp t=>exact rj t (kb _ (zv.2 ⟨.tmp t,by simpa using hx,rfl⟩))
  |_=>rfl
 have sr:∀s wn,oI ops o=some (s,wn)->s∈o.looksAt ops:=by
  intro s wn hg;refine kg _ ?_;unfold oI at hg;split at hg
  .simp at hg
  .rename_i j w' J3;split at hg
   .rename_i oj kA;split at hg
    .rename_i s' dP;simp only[j4,j8]at hg;simp[J3,kA,dP,hg.1]
    .simp at hg
   .simp at hg
 have tW:∀s v,oI ops o≠none->s∈o.looksAt ops->τ.sl s = .one (.one (.d .bool v))->tm a s = .bool v:=by intro s v _ hm hv;have:=hR.slot s;rw[rj s hm,hv]at this;exact sj this
 have aJ:dS E σ.ev (iM M σ.bx) [] o=dS E τ.ev (iM M τ.bx) [] o:=by
  rcases er with er|⟨l5,er⟩
  .rw[show iM M σ.bx=iM M τ.bx from funext er];exact Sp l7
  .rw[jva l5 er];exact Sp l7
 have dV:∀(s:Slot)(u:Ups)(v:Value)(w':World)(S':ay)(γ':Nat->Value),τ'=(τ.upd u).setD o.dst s->(∀e∈u,e.1∈Ai)->Rel E.N E.np S0 w0 refs (σ.upd u) a w' S' γ'->
   ij S' w' γ' (σ.upd u).bx (tm a) s v->s.bare=true->K (a.put o.dst v) w':=by
  intro s u v w' S' γ' he hb bN dP bW;obtain⟨h1,h2⟩:=AE bN (R2 hc) tG dP bW;exact hK s u _ w' S' γ' he hb h1 h2
 have vZ:(o.guard=none\/∃s wn,oI ops o=some (s,wn)/\τ.sl s = .one (.one (.d .bool wn)))->Region.wanted o (yielded ops a.tmps)=true:=by
  rintro (hg|⟨s,wn,hg,hv⟩)
  .simp[Region.wanted,hg]
  .exact(Gr hg).2 (tW s wn (by rw[hg];simp) (sr s wn hg) hv)
 unfold wpOp;simp only[ho];cases hs with
 |skip s wn v hg hv aN=>
  have hw:¬Region.wanted o (yielded ops a.tmps)=true:=λhw=>by
   have h1:=(Gr hg).1 hw;rw[tW s v (by rw[hg];simp) (sr s wn hg) hv]at h1;exact aN (by simpa using h1)
  simp only[hw,z6,ku];exact dV .und [] undef w S γ rfl (by simp) hR rfl rfl
 |skipU s wn hg hv=>
  have hu:tm a s=undef:=by have:=hR.slot s;rw[rj s (sr s wn hg),hv]at this;exact this
  have hw:¬Region.wanted o (yielded ops a.tmps)=true:=λhw=>by
   have h1:=(Gr hg).1 hw;rw[hu]at h1;simp[undef]at h1
  simp only[hw,z6,ku];exact dV .und [] undef w S γ rfl (by simp) hR rfl rfl
 |val s u hg bL hb=>
  simp only[vZ hg,if_true];rw[<-aJ]at bL;obtain⟨A',xS,hle⟩:=Sn (Kf M σ.bx) bL;cases hle;obtain⟨⟨v,w',S',γ',aq,bN,dP⟩,bW⟩:=JY hT hR (act:=[]) (λg hg=>by simp at hg) (λ_=> .inl rfl) xS;refine .inl ?_;unfold Oper.wp;rcases aq with aq|⟨aq,rfl⟩
  .rw[aq,Oper.upon_value];exact dV s u v w' S' γ' rfl hb bN dP bW
  .rw[aq,Oper.upon_skip];exact dV s u undef w' S' γ' rfl hb bN dP bW
 |call f args mk ret s u hg bL hf dJ aV hb=>
  simp only[vZ hg,if_true];rw[<-aJ]at bL;obtain⟨A',xS,hle⟩:=Sn (Kf M σ.bx) bL;cases hle with
  |call _ _ _ mk' CR=>
   have CS:=CR _ _ aV;obtain⟨vals,aq,nB,bW⟩:=RZ hR (act:=[]) (λg hg=>by simp at hg) (λ_=> .inl rfl) xS hf dJ;refine .inl ?_;unfold Oper.wp;rw[aq,Oper.upon_enter];refine nB.mono ?_
   rintro e w' ⟨ret',rfl,al⟩
   obtain⟨v,S',γ',rfl,bN,dP⟩:=al s u CS;exact dV s u v w' S' γ' rfl hb bN dP (bW _ s u CS)
end
section
variable{S0:ay}{w0:World}{refs:Refs}{σ:St}{a:Go.Act}{w:World}{S:ay}{γ:Nat->Value}
theorem Kl{o:Oper}{j:Nat}:j∈oM o↔∃e∈o.after,Region.binds .any e=true/\e.on=j:=by
 simp only[oM,zv];constructor
 .rintro⟨e,he,h⟩
  split at h
  .rename_i hb;simp only[j4]at h;exact⟨e,by simpa using he,hb,h⟩
  .simp at h
 .rintro⟨e,he,hb,h⟩
  exact⟨e,by simpa using he,by simp[hb,h]⟩
theorem jrr{ops:Array Oper}{an:Array Bool}{i:Nat}(h:i∈Region.ready .any ops an) :
  an.getD i true=false/\∃o,ops[i]? = some o/\∀j∈oM o,an.getD j false=true:=by
 obtain⟨h0,o,ho,h1⟩:=mem_ready.1 h;exact⟨h0,o,ho,λj hj=>by obtain⟨e,he,hb,rfl⟩:=Kl.1 hj;exact h1 e he hb⟩
def tX(P:Program)(E:Env)(ops:Array Oper)(cl:List Nat)(A:List (List Nat))(τ:Nat->St):Prop:=
 ∀j o,ops[j]? = some o->lI E.N o=true/\DStep P E ops (sZ ops cl A j o) (A.getD j []) o (τ j) (τ (j+1))
theorem Gx:∀(u:Ups)(σ:St)(t:Nat),(σ.upd u).sl t=σ.sl t
 |[],_,_=>rfl
 |e::u,σ,t=>Gx u (σ.setB e.1 e.2) t
theorem xT(σ:St)(d:Option Nat)(s:Slot):(σ.setD d s).bx=σ.bx:=by cases d<;>rfl
theorem Km{σ:St}{d:Option Nat}{s:Slot}{t:Nat}(h:d≠some t):(σ.setD d s).sl t=σ.sl t:=by
 cases d with
 |none=>rfl
 |some d=>have:t≠d:=λe=>h (by rw[e]);simp[St.setD,St.setS,this]
theorem SB{σ:St}{s:Slot}{t:Nat}:(σ.setD (some t) s).sl t=s:=by simp[St.setD,St.setS]
theorem Gy:∀(u:Ups)(σ:St)(k:Nat),(∀e∈u,e.1≠k)->(σ.upd u).bx k=σ.bx k
 |[],_,_,_=>rfl
 |e::u,σ,k,h=>by
  have h1:=Gy u (σ.setB e.1 e.2) k (λx hx=>h x (by simp[hx]));show ((σ.setB e.1 e.2).upd u).bx k=_;rw[h1];have:=h e (by simp);have aN:¬k=e.1:=λhk=>this hk.symm;simp[St.setB,aN]
theorem SC:∀(u:Ups)(σ τ:St)(k:Nat),σ.bx k=τ.bx k->(σ.upd u).bx k=(τ.upd u).bx k
 |[],_,_,_,h=>h
 |e::u,σ,τ,k,h=>by
  refine SC u (σ.setB e.1 e.2) (τ.setB e.1 e.2) k ?_;simp only[St.setB];split
  .rfl
  .exact h
section
variable{P:Program}{E:Env}{ops:Array Oper}{cl:List Nat}{A:List (List Nat)}{τ:Nat->St}
theorem Kn(h:tX P E ops cl A τ){j:Nat}{o:Oper}(ho:ops[j]? = some o):∃s u,τ (j+1)=((τ j).upd u).setD o.dst s/\(∀e∈u,e.1∈A.getD j [])/\(sY o=true->∀k,ShEq ((τ j).bx k) ((τ (j+1)).bx k)):=by
 obtain⟨_,hs⟩:=h j o ho;generalize hq:τ (j+1)=σ' at hs;cases hs with
 |skip s wn v hg hv aN=>exact⟨.und,[],rfl,by simp,λ_ k=>by rw[xT];exact ShEq.refl _⟩
 |skipU s wn hg hv=>exact⟨.und,[],rfl,by simp,λ_ k=>by rw[xT];exact ShEq.refl _⟩
 |val s u hg bL hb=>exact⟨s,u,rfl,hb,λau k=>by
  rw[xT];exact Sq u (τ j) (λe he=>((jpe au bL).unmask e he).1) k⟩
 |call f args mk ret s u hg bL hf dJ aV hb=>exact⟨s,u,rfl,hb,λau=>absurd bL (jiS au)⟩
theorem jx3(h:tX P E ops cl A τ){j:Nat}{o:Oper}(ho:ops[j]? = some o){t:Nat}(ht:o.dst≠some t):(τ (j+1)).sl t=(τ j).sl t:=by
 obtain⟨s,u,he,_⟩:=Kn h ho;rw[he,Km ht,Gx]
theorem SD(h:tX P E ops cl A τ){j:Nat}{o:Oper}(ho:ops[j]? = some o){k:Nat}(hk:k∉A.getD j []):(τ (j+1)).bx k=(τ j).bx k:=by
 obtain⟨s,u,he,hu,_⟩:=Kn h ho;rw[he,xT];exact Gy u _ k (λe hm sD=>hk (sD▸hu e hm))
theorem CT(h:tX P E ops cl A τ){t j:Nat}:∀n,j+n<=ops.size->(∀k o,j<=k->k<j+n->ops[k]? = some o->o.dst≠some t)->(τ (j+n)).sl t=(τ j).sl t
 |0,_,_=>rfl
 |n+1,hn,hk=>by
  have ak:j+n<ops.size:=by omega
  have ho:ops[j+n]? = some ops[j+n]:=jr ak;rw[<-Nat.add_assoc,jx3 h ho (hk _ _ (by omega) (by omega) ho)];exact CT h n (by omega) (λk o h1 h2=>hk k o h1 (by omega))
theorem CU(h:tX P E ops cl A τ){k j:Nat}:∀n,j+n<=ops.size->(∀i o,j<=i->i<j+n->ops[i]? = some o->k∉A.getD i [])->(τ (j+n)).bx k=(τ j).bx k
 |0,_,_=>rfl
 |n+1,hn,hk=>by
  have ak:j+n<ops.size:=by omega
  have ho:ops[j+n]? = some ops[j+n]:=jr ak;rw[<-Nat.add_assoc,SD h ho (hk _ _ (by omega) (by omega) ho)];exact CU h n (by omega) (λi o h1 h2=>hk i o h1 (by omega))
theorem Gz(h:tX P E ops cl A τ){k j:Nat}:∀n,j+n<=ops.size->(∀i o,j<=i->i<j+n->ops[i]? = some o->k∈A.getD i []->sY o=true)->ShEq ((τ j).bx k) ((τ (j+n)).bx k)
 |0,_,_=>ShEq.refl _
 |n+1,hn,hk=>by
  have ak:j+n<ops.size:=by omega
  have ho:ops[j+n]? = some ops[j+n]:=jr ak;have ih:=Gz h n (by omega) (λi o h1 h2=>hk i o h1 (by omega));refine ih.trans ?_;rw[<-Nat.add_assoc];by_cases hm:k∈A.getD (j+n) []
  .obtain⟨_,_,_,_,au⟩:=Kn h ho;exact au (hk _ _ (by omega) (by omega) ho hm) k
  .rw[SD h ho hm];exact ShEq.refl _
structure Ph(ops:Array Oper)(A:List (List Nat))(τ:Nat->St)(an:Array Bool)(σ:St):Prop where
 closed:∀j o,ops[j]? = some o->an.getD j false=true->∀d∈oM o,an.getD d false=true
 done:∀j o t,ops[j]? = some o->o.dst=some t->an.getD j false=true->σ.sl t=(τ (j+1)).sl t
 rest:∀t,(∀j o,ops[j]? = some o->o.dst=some t->an.getD j false=false)->σ.sl t=(τ 0).sl t
 bdone:∀j k,j<ops.size->k∈A.getD j []->an.getD j false=true->(∀i,i<ops.size->k∈A.getD i []->an.getD i false=true->i<=j)->σ.bx k=(τ (j+1)).bx k
 brest:∀k,(∀j,j<ops.size->k∈A.getD j []->an.getD j false=false)->σ.bx k=(τ 0).bx k
theorem Ph.bef{an:Array Bool}(hp:Ph ops A τ an σ){i j:Nat}(hb:Bef ops i j)(hi:an.getD i false=true):an.getD j false=true:=by
 induction hb with
 |dep ho hj=>exact hp.closed _ _ ho hi _ hj
 |trans _ _ h1 h2=>exact h2 (h1 hi)
theorem Ph.befd{an:Array Bool}(hp:Ph ops A τ an σ){i j:Nat}{o:Oper}(ho:ops[i]? = some o)(hd:∀j∈oM o,an.getD j false=true)(hb:Bef ops i j):an.getD j false=true:=by
 induction hb with
 |dep xR hj=>rw[ho]at xR;simp only[j4]at xR;subst xR;exact hd _ hj
 |trans di dX h1 h2=>exact hp.bef dX (h1 ho)
theorem GA(p:Nat->Prop):∀n,(∃j,j<n/\p j)->∃m,m<n/\p m/\∀j,j<n->p j->j<=m
 |0,h=>by obtain⟨j,hj,_⟩:=h;omega
 |n+1,h=>by
  by_cases hn:p n
  .exact⟨n,by omega,hn,λj hj _=>by omega⟩
  .obtain⟨j,hj,hp⟩:=h
   have Ar:j<n:=by
    rcases za j n with h|h
    .exact h
    .have:j=n:=by omega
     subst this;exact absurd hp hn
   obtain⟨m,hm,tY,al⟩:=GA p n ⟨j,Ar,hp⟩;refine⟨m,by omega,tY,λi hi SE=>?_⟩;rcases za i n with h|h
   .exact al i h SE
   .have:i=n:=by omega
    subst this;exact absurd SE hn
theorem SF{l:Array Bool}{i:Nat}(h:l.getD i true=false):l.getD i false=false:=by
 rcases za i l.size with h'|h'
 .simp[h']at h ⊢;exact h
 .simp[Array.getElem?_eq_none h']
theorem rk{l:Array Bool}{i j:Nat}(hi:i<l.size):(l.setIfInBounds i true).getD j false=true↔j=i\/l.getD j false=true:=by
 by_cases h:i=j
 .subst h;simp[hi]
 .rw[getD_set_ne false h];exact⟨.inr,λhh=>hh.resolve_left λe=>h e.symm⟩
theorem CV{l:Array Bool}{i:Nat}(h:¬l.getD i false=true):l.getD i false=false:=by
 cases hq:l.getD i false with
 |false=>rfl
 |true=>exact absurd hq h
section
variable(bz:DOkR ops A)(h:tX P E ops cl A τ){an:Array Bool}(hp:Ph ops A τ an σ){i:Nat}{o:Oper}(hi:ops[i]? = some o)(jE:an.getD i false=false)(dY:∀j∈oM o,an.getD j false=true)
include bz h hp hi jE dY
theorem jx4:∀t,t∈o.looksAt ops->σ.sl t=(τ i).sl t:=by
 intro t xn;have kS:i<ops.size:=(je.1 hi).1;have GB:∀j oj,ops[j]? = some oj->oj.dst=some t->j≠i->Bef ops i j\/Bef ops j i:=λj oj hj ht aN=>(bz.dst i j o oj t hi hj (λe=>aN e.symm) ht).2 xn;by_cases hex:∃(j:Nat)(oj:Oper),ops[j]? = some oj/\oj.dst=some t/\an.getD j false=true
 .obtain⟨j,oj,hj,ht,ou⟩:=hex;have pW:j≠i:=λe=>by rw[e,jE]at ou;simp at ou
  have xU:Bef ops i j:=by
   rcases GB j oj hj ht pW with hd|hd
   .exact hd
   .have:=hp.bef hd ou;rw[jE]at this;simp at this
  have ak:=bz.bef xU;rw[hp.done j oj t hj ht ou];have:=CT h (t:=t) (j:=j+1) (i-(j+1)) (by omega) (λk ok h1 h2 hk=>(bz.dst k j ok oj t hk hj (by omega) ht).1);rw[show j+1+(i-(j+1))=i by omega]at this;exact this.symm
 .rw[hp.rest t (λj oj hj ht=>CV λhq=>hex ⟨j,oj,hj,ht,hq⟩)]
  have:=CT h (t:=t) (j:=0) i (by omega) (λk ok _ hk oY su=>by
   have mI:k≠i:=by omega
   rcases GB k ok oY su mI with hd|hd
   .exact hex ⟨k,ok,oY,su,hp.befd hi dY hd⟩
   .have:=bz.bef hd;omega)
  rw[k9]at this;exact this.symm
theorem SH{k:Nat}(hk:∀j oj,ops[j]? = some oj->k∈A.getD j []->i=j\/Bef ops i j\/Bef ops j i):σ.bx k=(τ i).bx k:=by
 have kS:i<ops.size:=(je.1 hi).1;by_cases hex:∃j,j<ops.size/\(k∈A.getD j []/\an.getD j false=true)
 .obtain⟨m,hm,⟨rm,sJ⟩,eX⟩:=GA _ _ hex;have Ko:ops[m]? = some ops[m]:=jr hm;have Kp:i≠m:=λe=>by rw[<-e,jE]at sJ;simp at sJ
  have xU:Bef ops i m:=by
   rcases hk m _ Ko rm with hd|hd|hd
   .exact absurd hd Kp
   .exact hd
   .have:=hp.bef hd sJ;rw[jE]at this;simp at this
  have ak:=bz.bef xU;rw[hp.bdone m k hm rm sJ (λj hj ee ou=>eX j hj ⟨ee,ou⟩)]
  have:=CU h (k:=k) (j:=m+1) (i-(m+1)) (by omega) (λj oj h1 h2 hj ee=>by
   rcases hk j oj hj ee with hd|hd|hd
   .omega
   .have:=eX j (by omega) ⟨ee,hp.befd hi dY hd⟩;omega
   .have:=bz.bef hd;omega)
  rw[show m+1+(i-(m+1))=i by omega]at this;exact this.symm
 .rw[hp.brest k (λj hj ee=>CV λhq=>hex ⟨j,hj,ee,hq⟩)]
  have:=CU h (k:=k) (j:=0) i (by omega) (λj oj h1 h2 hj ee=>by
   rcases hk j oj hj ee with hd|hd|hd
   .omega
   .exact hex ⟨j,by omega,ee,hp.befd hi dY hd⟩
   .have:=bz.bef hd;omega)
  rw[k9]at this;exact this.symm
theorem jzs(l5:qG o=true){k:Nat}(hk:∀j oj,ops[j]? = some oj->k∈A.getD j []->i=j\/Bef ops i j\/Bef ops j i\/sY oj=true):ShEq (σ.bx k) ((τ i).bx k):=by
 have kS:i<ops.size:=(je.1 hi).1;by_cases hex:∃j,j<ops.size/\(k∈A.getD j []/\an.getD j false=true)
 .obtain⟨m,hm,⟨rm,sJ⟩,eX⟩:=GA _ _ hex;have Ko:ops[m]? = some ops[m]:=jr hm;rw[hp.bdone m k hm rm sJ (λj hj ee ou=>eX j hj ⟨ee,ou⟩)];rcases za m i with Kp|Kp
  .have:=Gz h (k:=k) (j:=m+1) (i-(m+1)) (by omega) (λj oj h1 h2 hj ee=>by
    rcases hk j oj hj ee with hd|hd|hd|hd
    .omega
    .have:=eX j (by omega) ⟨ee,hp.befd hi dY hd⟩;omega
    .have:=bz.bef hd;omega
    .exact hd)
   rwa[show m+1+(i-(m+1))=i by omega]at this
  .have hmi':i≠m:=λe=>by rw[<-e,jE]at sJ;simp at sJ
   have:=Gz h (k:=k) (j:=i) (m+1-i) (by omega) (λj oj h1 h2 hj ee=>by
    have ou:an.getD j false=true:=by
     by_cases wa:j=m
     .rw[wa];exact sJ
     .rcases bz.box j m oj ops[m] k hj Ko wa ee rm with hd|hd
      .have:=bz.bef hd;omega
      .exact hp.bef hd sJ
    rcases hk j oj hj ee with hd|hd|hd|hd
    .rw[<-hd,jE]at ou;simp at ou
    .have:=bz.bef hd;omega
    .have:=hp.bef hd ou;rw[jE]at this;simp at this
    .exact hd)
   rw[show i+(m+1-i)=m+1 by omega]at this;exact this.symm
 .rw[hp.brest k (λj hj ee=>CV λhq=>hex ⟨j,hj,ee,hq⟩)]
  have:=Gz h (k:=k) (j:=0) i (by omega) (λj oj h1 h2 hj ee=>by
   rcases hk j oj hj ee with hd|hd|hd|hd
   .omega
   .exact absurd ⟨j,by omega,ee,hp.befd hi dY hd⟩ hex
   .have:=bz.bef hd;omega
   .exact hd)
  rwa[k9]at this
theorem jx5(hc:ClOk ops cl):(∀k,iM (sZ ops cl A i o) σ.bx k=iM (sZ ops cl A i o) (τ i).bx k)\/(qG o=true/\∀k,ShEq (iM (sZ ops cl A i o) σ.bx k) (iM (sZ ops cl A i o) (τ i).bx k)):=by
 by_cases l5:qG o=true
 .refine .inr ⟨l5,ShEq.mask λk hk=>jzs bz h hp hi jE dY l5 λj oj hj ee=>?_⟩;rcases Sv hc hk hj ee with hd|hd|hd|hd
  .exact .inl hd
  .exact .inr (.inl hd)
  .exact .inr (.inr (.inl hd))
  .exact .inr (.inr (.inr hd.2))
 .refine .inl λk=>?_;unfold iM;split
  .rfl
  .rename_i hk
   exact SH bz h hp hi jE dY λj oj hj ee=>by
    rcases Sv hc (by simpa using hk) hj ee with hd|hd|hd|hd
    .exact .inl hd
    .exact .inr (.inl hd)
    .exact .inr (.inr hd)
    .exact absurd hd.1 l5
theorem jx6(bH:ops.size<=an.size){s:Slot}{u:Ups}(he:τ (i+1)=((τ i).upd u).setD o.dst s)(hu:∀e∈u,e.1∈A.getD i []):Ph ops A τ (an.setIfInBounds i true) ((σ.upd u).setD o.dst s):=by
 have kS:i<ops.size:=(je.1 hi).1;have fX:i<an.size:=by omega
 have lZ:∀k,k∈A.getD i []->σ.bx k=(τ i).bx k:=λk hk=>SH bz h hp hi jE dY λj oj hj ee=>by
  by_cases dG:i=j
  .exact .inl dG
  .exact .inr (bz.box i j o oj k hi hj dG hk ee)
 refine⟨?_,?_,?_,?_,?_⟩
 .intro j oj kA hj d mZ;rcases (rk fX).1 hj with rfl|hj
  .rw[hi]at kA;simp only[j4]at kA;subst kA;exact(rk fX).2 (.inr (dY d mZ))
  .exact(rk fX).2 (.inr (hp.closed j oj kA hj d mZ))
 .intro j oj t kA ht hj;by_cases pW:j=i
  .subst pW;rw[hi]at kA;simp only[j4]at kA;subst kA;rw[he,ht,SB,SB]
  .rcases (rk fX).1 hj with hj|hj
   .exact absurd hj pW
   .rw[Km (bz.dst i j o oj t hi kA (λe=>pW e.symm) ht).1,Gx];exact hp.done j oj t kA ht hj
 .intro t al
  have hot:o.dst≠some t:=λe=>by
   have:=al i o hi e;have h2:=(rk (j:=i) fX).2 (.inl rfl);rw[this]at h2;simp at h2
  rw[Km hot,Gx]
  exact hp.rest t λj oj kA ht=>CV λhq=>by
   have:=al j oj kA ht;have h2:=(rk (i:=i) fX).2 (.inr hq);rw[this]at h2;simp at h2
 .intro j k hj ee ou eX;rw[xT];by_cases pW:j=i
  .subst pW;rw[he,xT];exact SC u σ (τ j) k (lZ k ee)
  .have CW:an.getD j false=true:=by
    rcases (rk fX).1 ou with e|hh
    .exact absurd e pW
    .exact hh
   have mI:k∉A.getD i []:=λmI=>by
    have hle:=eX i kS mI ((rk fX).2 (.inl rfl));have kA:ops[j]? = some ops[j]:=jr hj;rcases bz.box i j o _ k hi kA (λe=>pW e.symm) mI ee with hd|hd
    .have:=bz.bef hd;omega
    .have:=hp.bef hd CW;rw[jE]at this;simp at this
   rw[Gy u σ k (λe hm sD=>mI (sD▸hu e hm))];exact hp.bdone j k hj ee CW (λi' bQ bc ny=>eX i' bQ bc ((rk fX).2 (.inr ny)))
 .intro k al
  have mI:k∉A.getD i []:=λmI=>by
   have:=al i kS mI;have h2:=(rk (j:=i) fX).2 (.inl rfl);rw[this]at h2;simp at h2
  rw[xT,Gy u σ k (λe hm sD=>mI (sD▸hu e hm))]
  exact hp.brest k λj hj ee=>CV λhq=>by
   have:=al j hj ee;have h2:=(rk (i:=i) fX).2 (.inr hq);rw[this]at h2;simp at h2
end
theorem jyc(bz:DOkR ops A)(h:tX P E ops cl A τ){an:Array Bool}(hp:Ph ops A τ an σ)(al:∀j,j<ops.size->an.getD j false=true):σ=τ ops.size:=by
 have eE:σ.sl=(τ ops.size).sl:=by
  funext t
  by_cases hex:∃(j:Nat)(oj:Oper),ops[j]? = some oj/\oj.dst=some t
  .obtain⟨j,oj,hj,ht⟩:=hex;have ak:j<ops.size:=(je.1 hj).1;rw[hp.done j oj t hj ht (al j ak)];have:=CT h (t:=t) (j:=j+1) (ops.size-(j+1)) (by omega) (λk ok h1 h2 hk=>(bz.dst k j ok oj t hk hj (by omega) ht).1);rw[show j+1+(ops.size-(j+1))=ops.size by omega]at this;exact this.symm
  .rw[hp.rest t (λj oj hj ht=>absurd ⟨j,oj,hj,ht⟩ hex)];have:=CT h (t:=t) (j:=0) ops.size (by omega) (λk ok _ hk oY su=>hex ⟨k,ok,oY,su⟩);rw[k9]at this;exact this.symm
 have er:σ.bx=(τ ops.size).bx:=by
  funext k
  by_cases hex:∃j,j<ops.size/\k∈A.getD j []
  .obtain⟨m,hm,rm,eX⟩:=GA _ _ hex;rw[hp.bdone m k hm rm (al m hm) (λj hj ee _=>eX j hj ee)];have:=CU h (k:=k) (j:=m+1) (ops.size-(m+1)) (by omega) (λj oj h1 h2 hj ee=>by have:=eX j (by omega) ee;omega);rw[show m+1+(ops.size-(m+1))=ops.size by omega]at this;exact this.symm
  .rw[hp.brest k (λj hj ee=>absurd ⟨j,hj,ee⟩ hex)];have:=CU h (k:=k) (j:=0) ops.size (by omega) (λj oj h1 h2 hj ee=>hex ⟨j,by omega,ee⟩);rw[k9]at this;exact this.symm
 cases σ;cases hq:τ ops.size;rw[hq]at er eE;simp only at er eE;rw[er,eE]
end
theorem jnE{l:Array Bool}{i:Nat}(hi:l.getD i true=false):(l.setIfInBounds i true).toList.count false+1=l.toList.count false:=by
 have ak:i<l.size:=by
  rcases za i l.size with h|h
  .exact h
  .simp[Array.getElem?_eq_none h]at hi
 have hv:l.toList[i]'(by simpa using ak)=false:=by simp[ak]at hi;simpa using hi
 have bB:0<l.toList.count false:=List.count_pos_iff.2 (hv▸ji _);have hc:(l.toList.set i true).count false=l.toList.count false-(if l.toList[i]'(by simpa using ak)==false then 1 else 0)+(if true==false then 1 else 0):=List.count_set (by simpa using ak);rw[hv]at hc;rw[Array.toList_setIfInBounds];simp only[qe,if_true,show (true==false)=false from rfl,ku,z6,Nat.add_zero]at hc;omega
theorem jrs{l:Array Bool}(h:l.toList.count false=0){j:Nat}(hj:j<l.size):l.getD j false=true:=by
 have h0:false∉l.toList:=List.count_eq_zero.1 h;simp only[zo,jr hj,vb];cases hv:l[j]with
 |true=>rfl
 |false=>exact absurd (hv▸by simp:false∈l.toList) h0
theorem jt1{ops:Array Oper}{A:List (List Nat)}(bz:DOkR ops A){an:Array Bool}(hs:an.size=ops.size)(h:Region.ready .any ops an=[]):∀j,j<ops.size->an.getD j false=true:=by
 intro j;induction j using Nat.strongRecOn with
 |_ j ih=>
  intro hj;cases hq:an.getD j false with
  |true=>rfl
  |false=>
   have ho:ops[j]? = some ops[j]:=jr hj
   have hm:j∈Region.ready .any ops an:=mem_ready.2 ⟨by
    have h9:j<an.size:=by omega
    simp[h9]at hq ⊢;exact hq,ops[j],ho,λe he hb=>ih _ (bz.lt j _ ho _ (Kl.2 ⟨e,he,hb,rfl⟩)) (Nat.lt_trans (bz.lt j _ ho _ (Kl.2 ⟨e,he,hb,rfl⟩)) hj)⟩
   rw[h]at hm;simp at hm
theorem jrt{P:Program}{E:Env}(hT:ca P E.T){ops:Array Oper}{cl:List Nat}{A:List (List Nat)}(eN:ClOk ops cl)(bz:DOkR ops A){τ:Nat->St}(h:tX P E ops cl A τ)
  {Q:Exit->Go.Act->World->Prop}(hn:∀a' w' S' γ',Rel E.N E.np S0 w0 refs (τ ops.size) a' w' S' γ'->cN (τ ops.size)->Q .normal a' w') :
  ∀(fuel:Nat)(an:Array Bool){σ:St}{a:Go.Act}{w:World}{S:ay}{γ:Nat->Value},an.size=ops.size->an.toList.count false<=fuel->Rel E.N E.np S0 w0 refs σ a w S γ->cN σ->
   Ph ops A τ an σ->wpAny P .any ops Q fuel an a w:=by
 have gf:∀(an:Array Bool){σ:St}{a:Go.Act}{w:World}{S:ay}{γ:Nat->Value},Rel E.N E.np S0 w0 refs σ a w S γ->cN σ->Ph ops A τ an σ->(∀j,j<ops.size->an.getD j false=true)->Q .normal a w:=by intro an σ a w S γ hR hc wb al;have he:=jyc bz h wb al;subst he;exact hn a w S γ hR hc
 intro fuel;induction fuel with
 |zero=>
  intro an σ a w S γ hs CX hR hc wb;have al:∀j,j<ops.size->an.getD j false=true:=λj hj=>jrs (by omega) (by omega);refine⟨?_,gf an hR hc wb al⟩;refine List.eq_nil_iff_forall_not_mem.2 λi hi=>?_;have h0:=(mem_ready.1 hi).1;have ak:i<ops.size:=by obtain⟨_,o,ho,_⟩:=mem_ready.1 hi;exact(je.1 ho).1
  have:=al i ak;rw[SF h0]at this;simp at this
 |succ fuel ih=>
  intro an σ a w S γ hs CX hR hc wb;refine⟨λfh=>gf an hR hc wb (jt1 bz hs fh),λi hi=>?_⟩;obtain⟨jE,o,ho,dY⟩:=jrr hi;have xV:=SF jE;have dF:=jnE jE;have bH:(an.setIfInBounds i true).size=ops.size:=by simpa using hs
  obtain⟨hd,gz⟩:=h i o ho;refine D_wp hT hR hc ho hd gz (jx5 bz h wb ho xV dY eN) (jx4 bz h wb ho xV dY) ?_;intro s u a' w' S' γ' he hu bN cI;exact ih _ bH (by omega) bN cI (jx6 bz h wb ho xV dY (Nat.le_of_eq hs.symm) he hu)
theorem jru{P:Program}{E:Env}(hT:ca P E.T)(hC:iU P E.C)(hF:CFun E.C)(hR:Rel E.N E.np S0 w0 refs σ a w S γ)(hc:cN σ){ops:Array Oper}{A:List (List Nat)}
  {R:Type}{k:St->Option R}{r:R}{Q:Exit->Go.Act->World->Prop}(hn:∀σ' a' w' S' γ',Rel E.N E.np S0 w0 refs σ' a' w' S' γ'->cN σ'->k σ'=some r->Q .normal a' w')(h:BM E ops A σ k=some r) :
  wpAny P .any ops Q ops.size (Array.replicate ops.size false) a { w with drawn:=w.drawn+1 }:=by
 unfold BM at h;split at h
 .rename_i bz;obtain⟨τ,h1,h2,h3⟩:=SA (P:=P) (ops:=ops) hC hF ops.size 0 σ (k9 _) (by simpa using h)
  have nF:∀j,(Array.replicate ops.size false).getD j false=false:=by
   intro j;rcases za j ops.size with hj|hj
   .simp[hj]
   .simp[hj]
  have eN:ClOk ops (BJ ops.toList []):=Su ops.toList [] (λi j h=>by simp at h) (λk o hk=>by simpa using hk);refine jrt hT eN (jpf eN bz) (τ:=τ) (λj o ho=>h3 j o (k7 _) ho) (λa' w' S' γ' bN cI=>hn _ a' w' S' γ' bN cI h2) ops.size _ (by simp) (by simp) (hR.drawn _) hc ?_
  exact⟨λj o _ hj=>by rw[nF]at hj;simp at hj,λj o t _ _ hj=>by rw[nF]at hj;simp at hj,λt _=>by rw[h1],
   λj k _ _ hj=>by rw[nF]at hj;simp at hj,λk _=>by rw[h1]⟩
 .simp at h
end
def FR(ro:Option Nat):Fence:={ Fence.wide with round:=ro }
theorem SI(ro:Option Nat)(n:Nat):(FR ro).room n:=λd h=>by simp[FR,Fence.wide]at h
section
variable{P:Program}{ro:Option Nat}{n:Nat}
theorem jx7{f:FuncId}{args:Array Value}{w:World}{R:Ending->World->Prop}(h:Calls P f args w R):CallsIn (FR ro) n P f args w R:=(callsIn_wide (n:=n)).2 h
theorem jx8{f:FuncId}{args:Array Value}{w:World}{R:Ending->World->Prop}(h:CallsIn (FR ro) n P f args w R):Calls P f args w R:=(callsIn_wide (n:=n)).1 h
theorem jyd{m:Nat}{c:Code}{Q:Exit->Go.Act->World->Prop}{a:Go.Act}{w:World}(h:c.wpIn (FR ro) n P Q a w):c.wpIn (FR ro) m P Q a w:=
 λb k cs fL hb hr=>h b k cs fL hb (SI _ _)
theorem jye{row:String}{args:Array Value}{w:World}{R:Value->World->Prop}(h:Rows P row args w R):RowsIn (FR ro) n P row args w R:=
 λc cs _=>let ⟨v,w',r,s⟩:=h c cs;⟨v,w',r,stepsIn_wide.2 s⟩
theorem GC{o:Oper}(hp:ro=none\/∀c,o.op ≠ .defer c){a:Go.Act}{w:World}{K K':Go.Act->World->Prop}{Q:Exit->Go.Act->World->Prop}(hK:∀a w,K a w->K' a w)
  (h:o.wp P a w K Q):o.wpIn (FR ro) n P a w K' Q:=by
 refine⟨λ_ _=>trivial,?_⟩
 have e:o.semAt (FR ro).round a.eval=execOp a.eval o:=by
  rcases hp with rfl|hp
  .rfl
  .exact Oper.semAt_eq _ _ _ hp
 rw[e];unfold Oper.wp at h;revert h;cases (execOp a.eval o).run P w with
 |ok x w'=>
  cases x with
  |value v=>intro h;exact hK _ _ h
  |skip=>intro h;exact hK _ _ h
  |defer d=>intro h;exact hK _ _ h
  |enter f args=>
   intro h;refine⟨λhd=>by simp[FR,Fence.wide]at hd,jx7 (Calls.mono h λe sg he=>?_)⟩;cases e with
   |returned v=>exact hK _ _ he
   |panicked c=>exact he
   |outgrown=>exact he
  |row r args=>intro h;exact⟨λhd=>by simp[FR,Fence.wide]at hd,jye (Rows.mono h λv sg he=>hK _ _ he)⟩
  |round l f tmps x y=>intro h;exact h.elim
  |_=>intro h;exact h.elim
 |halt x w'=>cases x<;>intro h<;>exact h
theorem tZ{ops:Array Oper}{Q:Exit->Go.Act->World->Prop}(hp:ro=none\/∀o∈ops.toList,∀c,o.op ≠ .defer c)(dQ:¬LetsOut Q):∀(l:List Nat)(a:Go.Act)(w:World),wpOps P ops Q l a w->wpOpsIn (FR ro) n P ops Q l a w
 |[],a,w,h=>h
 |i::r,a,w,h=>by
  simp only[wpOps]at h;simp only[wpOpsIn];cases ho:ops[i]? with
  |none=>simp only[ho]at h ⊢;exact tZ hp dQ r a w h
  |some o=>
   simp only[ho]at h ⊢;split
   .rename_i hw;simp only[hw,if_true]at h;rcases h with h|⟨_,h⟩
    .refine GC (hp.imp id λhh=>hh o ?_) (λa w=>tZ hp dQ r a w) h;obtain⟨ak,rfl⟩:=je.1 ho;exact Array.mem_toList_iff.2 (Array.getElem_mem ak)
    .exact absurd h dQ
   .rename_i hw;simp only[hw]at h;exact⟨λ_ _=>trivial,tZ hp dQ r _ w h⟩
theorem GD{md:Region.Mode}{ops:Array Oper}{Q:Exit->Go.Act->World->Prop}(hp:ro=none\/∀o∈ops.toList,∀c,o.op ≠ .defer c)(dQ:¬LetsOut Q) :
  ∀(fuel:Nat)(an:Array Bool)(a:Go.Act)(w:World),wpAny P md ops Q fuel an a w->wpAnyIn (FR ro) n P md ops Q fuel an a w
 |0,_,_,_,h=>h
 |fuel+1,an,a,w,h=>by
  refine⟨h.1,λi hi=>?_⟩;have h2:=h.2 i hi;unfold wpOp at h2;unfold wpOpIn;cases ho:ops[i]? with
  |none=>simp only[ho]at h2 ⊢;exact GD hp dQ fuel _ a w h2
  |some o=>
   simp only[ho]at h2 ⊢;split
   .rename_i hw;simp only[hw,if_true]at h2;rcases h2 with h2|⟨_,h2⟩
    .refine GC (hp.imp id λhh=>hh o ?_) (λa w=>GD hp dQ fuel _ a w) h2;obtain⟨ak,rfl⟩:=je.1 ho;exact Array.mem_toList_iff.2 (Array.getElem_mem ak)
    .exact absurd h2 dQ
   .rename_i hw;simp only[hw]at h2;exact⟨λ_ _=>trivial,GD hp dQ fuel _ _ w h2⟩
end
section
variable{N:NT}{np:Nat}{S0:ay}{w0:World}{refs:Refs}{σ:St}{a:Go.Act}{w:World}{S:ay}{γ:Nat->Value}
theorem Rel.allocO(hR:Rel N np S0 w0 refs σ a w S γ)(o:Obj):Rel N np S0 w0 refs σ a (w.alloc o) S γ:=
 Rel.step (bx':=σ.bx) (γ':=γ) hR (Ak hR o) (.refl _ _) (λk b hb=>ez.keep (Ak hR o) (.refl _ _) rfl (λg hg=>⟨heap_alloc_old w o (iR (hR.box k b hb) hg),λ_=>Iff.rfl⟩) (hR.box k b hb))
  hR.own hR.apart hR.new (λg i h=>by have:=hR.here g i h;simp;omega) (λg hg hr=>(heap_alloc_old w o (qc hg hR.grow)).trans (hR.below g hg hr)) (by have:=hR.grow;simp;omega) hR.os hR.tape hR.output
  (λg hg _ h=>⟨heap_alloc_old w o hg,h⟩)
structure Grew(w w':World):Prop where
 old:∀g,g<w.heap.size->w'.heap[g]? = w.heap[g]?
 size:w.heap.size<=w'.heap.size
 os:w'.os=w.os
 tape:w'.tape=w.tape
 output:w'.output=w.output
structure AG(S:ay)(w:World)(S':ay)(w':World):Prop where
 sub:∀g o,S g o->S' g o
 new:∀g o,S' g o->S g o\/w.heap.size<=g
 here:∀g o,S' g o->g<w'.heap.size
theorem Rel.grew(hR:Rel N np S0 w0 refs σ a w S γ){S':ay}{w':World}(h:Grew w w')(hs:AG S w S' w'):Rel N np S0 w0 refs σ a w' S' γ:=
 have au:dz S w S' w':=λg o hg=>⟨hs.sub g o hg,World.cell?_of_block (h.old g (hR.here g o hg))⟩
 Rel.step (bx':=σ.bx) (γ':=γ) hR au (.refl _ _) (λk b hb=>ez.keep au (.refl _ _) rfl (λg hg=>
   have hl:=iR (hR.box k b hb) hg
   ⟨h.old g hl,λo=>⟨λh1=>(hs.new g o h1).resolve_right (by omega),hs.sub g o⟩⟩) (hR.box k b hb))
  hR.own hR.apart (λg o h1=>(hs.new g o h1).elim (hR.new g o) λh2=> .inr (.inl (q7 hR.grow h2))) hs.here (λg hg hr=>(h.old g (qc hg hR.grow)).trans (hR.below g hg hr)) (q7 hR.grow h.size) (h.os.trans hR.os) (h.tape.trans hR.tape) (h.output.trans hR.output)
  (λg hg _ hn=>⟨h.old g hg,hn⟩)
theorem Rel.swap(hR:Rel N np S0 w0 refs σ a w S γ){N':NT}{refs':Refs}{a':Go.Act}(hb:refs'.blks=refs.blks)(hv:refs'.val=refs.val)(bH:a'.tmps.size=N'.n)(AH:a'.defers=refs'.ds)
  (rq:∀i,ij S w γ σ.bx (tm a') (σ.sl i) (tm a' i))(hk:∀g o,refs'.kw g=some o->w.heap[g]? = some o/\∀k b,σ.bx k = .live b->blk (γ k)≠some g)
  (hf:∀i v,refs'.fix i=some v->N'.pin i=true/\a'.tmps.getD i undef=v)(GF:refs'.mv=refs.mv:=by rfl):Rel N' np S0 w0 refs' σ a' w S γ:=
 have hm:∀g,g∈refs'↔g∈refs:=λg=>by show g∈refs'.blks↔g∈refs.blks;rw[hb]
 ⟨bH,AH,rq,hR.box,λk b g h h'=>(hR.own k b g h h').imp (λh=>Own.swap h hb GF) λh=>⟨(hm g).2 h.1,h.2⟩,hR.apart,hR.ext,λg o h=>(hR.new g o h).imp id λh=>Own.swap h hb GF,hR.here,λg h h'=>hR.below g h λh2=>h' ((hm g).2 h2),
  hR.grow,hR.os,hR.tape,hR.output,λk v h=>hR.par k v (hv▸h),hk,hf⟩
theorem GG{g o:Nat}{x:Obj}(h:w.heap[g]? = some x)(hc:x.isCells=false):w.cell? ⟨g,o,none⟩=none:=by
 unfold World.cell?;simp only[h];cases x<;>first|rfl|(simp[Obj.isCells]at hc)
theorem Rel.putO(hR:Rel N np S0 w0 refs σ a w S γ){l:Nat}{o o':Obj}(hk:refs.kw l=some o)(hl:w0.heap.size<=l)(hc:o.isCells=false)(cI:o'.isCells=false) :
  Rel N np S0 w0 { refs with kw:=λg=>if g=l then some o' else refs.kw g } σ a (w.putObj l o') S γ:=by
 obtain⟨hw,dQ⟩:=hR.kept l o hk;have ak:=(je.1 hw).1
 have au:dz S w S (w.putObj l o'):=λg i h=>⟨h,by
  by_cases hg:g=l
  .subst hg;rw[GG hw hc,GG (World.putObj_heap_same ak) cI]
  .exact World.cell?_of_block (World.putObj_heap_other hg)⟩
 have aU:Rel N np S0 w0 { refs with kw:=λg=>if g=l then none else refs.kw g } σ a w S γ:=
  Rel.swap hR rfl rfl hR.size hR.defers hR.slot (λg x h=>by
   simp only at h;split at h
   .simp at h
   .exact hR.kept g x h) hR.fix
 have bU:Rel N np S0 w0 { refs with kw:=λg=>if g=l then none else refs.kw g } σ a (w.putObj l o') S γ:=
  Rel.step (bx':=σ.bx) (γ':=γ) aU au (.refl _ _) (λk b hb=>ez.keep au (.refl _ _) rfl (λg hg=>⟨World.putObj_heap_other (λe=>dQ k b hb (e▸hg)),λ_=>Iff.rfl⟩) (hR.box k b hb))
   aU.own aU.apart aU.new (λg i h=>by simpa using hR.here g i h) (λg hg hr=>(World.putObj_heap_other (by omega)).trans (aU.below g hg hr)) (by simpa using hR.grow) hR.os hR.tape hR.output
   (λg _ nh h=>⟨World.putObj_heap_other (λe=>by subst e;simp at nh),h⟩)
 refine Rel.swap bU rfl rfl bU.size bU.defers bU.slot (λg x h=>?_) bU.fix;simp only at h;split at h
 .rename_i e;subst e;simp only[j4]at h;subst h;exact⟨World.putObj_heap_same ak,dQ⟩
 .rename_i e;have h1:=hR.kept g x h;exact⟨(World.putObj_heap_other e).trans h1.1,h1.2⟩
theorem jt3(np:Nat)(K:Keep)(s:Snap)(i:Nat):(∃c,(cw np K s).sl i = .one c)/\(i∉K.slots->(cw np K s).sl i = .one (.one .dead)):=by
 have eE:(cw np K s).sl i=match K.slots.idxOf? i with
  |some j=>w6 s[j]?
  |none=> .one (.one .dead):=rfl
 rw[eE];cases hq:K.slots.idxOf? i with
 |none=>exact⟨⟨_,rfl⟩,λ_=>rfl⟩
 |some j=>refine⟨?_,λh=>absurd (jy (pV hq)) h⟩;simp only;unfold w6;split<;>exact⟨_,rfl⟩
theorem Rel.frame{K:Keep}{s:Snap}(hR:Rel N np S0 w0 refs (cw np K s) a w S γ){N':NT}{refs':Refs}{a':Go.Act}(hb:refs'.blks=refs.blks)(hv:refs'.val=refs.val)(bH:a'.tmps.size=N'.n)(AH:a'.defers=refs'.ds)
  (eE:∀i∈K.slots,tm a' i=tm a i)(hk:∀g o,refs'.kw g=some o->w.heap[g]? = some o/\∀k b,(cw np K s).bx k = .live b->blk (γ k)≠some g)
  (hf:∀i v,refs'.fix i=some v->N'.pin i=true/\a'.tmps.getD i undef=v)(GF:refs'.mv=refs.mv:=by rfl):Rel N' np S0 w0 refs' (cw np K s) a' w S γ:=by
 refine hR.swap hb hv bH AH (λi=>?_) hk hf GF;obtain⟨⟨c,hc⟩,hd⟩:=jt3 np K s i;by_cases hi:i∈K.slots
 .have:=hR.slot i;rw[hc]at this ⊢;rw[eE i hi];exact this
 .rw[hd hi];exact⟨trivial,λh=>absurd rfl h⟩
end
section
variable{P:Program}{F:Fence}{n:Nat}{b:Frame}{a:Go.Act}{k:List Go.Item}{cs:List Frame}{w:World}{Q:Exit->Go.Act->World->Prop}
theorem AJ{c:Code}:step P (lone (b.atR a (.code (.scope c)::k)) cs w) = .next (lone (b.atR a (.code c :: .inScope c::k)) cs w):=
 step_lone_go (by simp[stepG,stepG.exec,Frame.atR])
theorem jlP{c:Code}:step P (lone (b.atR a (.inScope c::k)) cs w) = .next (lone (b.atR a k) cs w):=
 step_lone_go (by simp[stepG,stepG.exec,Frame.atR])
theorem jrw{c:Code}(hng:∀l a w,¬Q (.goto l) a w)(h:c.wpIn F n P Q a w):(Code.scope c).wpIn F n P Q a w:=by
 intro b k cs fL hb hr;have h0:(lone (b.atR a (.code (.scope c)::k)) cs w).fenced P F:=fenced_calm hb hr rfl;obtain⟨e,a₁,w₁,hq,oZ⟩:=h b (.inScope c::k) cs fL hb hr;cases e with
 |normal=>exact⟨.normal,a₁,w₁,hq,.head h0 AJ (StepsIn.trans oZ (.one (fenced_calm hb hr rfl) jlP))⟩
 |exit id=>
  have hx:exitTo id (.inScope c::k)=exitTo id k:=by simp[exitTo]
  exact⟨_,a₁,w₁,hq,λk' hk=> .head h0 AJ (oZ.1 k' (by rw[hx];exact hk)),
   λqR hk=>let ⟨k₁,h1,h2⟩:=oZ.2 qR (by rw[hx];exact hk);⟨k₁,h1,.head h0 AJ h2⟩⟩
 |goto l=>exact absurd hq (hng l a₁ w₁)
 |ret=>exact⟨_,a₁,w₁,hq,.of_steps (.one h0 AJ) oZ⟩
 |panic ch=>exact⟨_,a₁,w₁,hq,.of_steps (.one h0 AJ) oZ⟩
 |outgrown=>exact⟨_,a₁,w₁,hq,.of_steps (.one h0 AJ) oZ⟩
end
section
variable{N:NT}{np:Nat}{S0:ay}{w0:World}{refs:Refs}{σ:St}{a:Go.Act}{w:World}{S:ay}{γ:Nat->Value}
theorem jx9{α:Type}{xs:List α}{d:α}(h:xs.length=1):xs=[xs.getD 0 d]:=by
 match xs,h with
 |[x],_=>rfl
theorem jpg(hR:Rel N np S0 w0 refs σ a w S γ)(hc:cN σ){g:Gh}{σ':St}(h:BO np σ g=some (true,σ')):∃S' γ',Rel N np S0 w0 refs σ' a w S' γ'/\cN σ':=by
 cases g with
 |ex k c n=>
  simp only[BO]at h;split at h
  case h_2=>simp at h
  rename_i ls hk;split at h
  case h_2=>simp at h
  rename_i b hs;split at h
  case h_2=>simp at h
  rename_i e t xs hb;split at h
  case isTrue=>simp at h
  rename_i bM;simp only[j4,j8]at h;obtain⟨h1,rfl⟩:=h;have h1:xs.length=1:=vj h1;simp only[zw,not_or,Bool.not_eq_true,beq_eq_false_iff_ne,Bool.not_eq_false']at bM;obtain⟨⟨⟨⟨hm,hp⟩,xP⟩,cJ⟩,hn⟩:=bM
  have hn:σ.bx n = .free:=by
   revert hn
   cases σ.bx n<;>simp[gH]
  have nh:k≠n:=by rintro rfl;rw[hn]at hk;simp at hk
  obtain⟨gk,Kq,ek,xA,SJ,GB,bz,ZQ,_⟩:=hR.box k _ hk
  have Ck:ls[c]? = some (.ol b):=by
   cases cI:ls[c]? with
   |none=>simp[cI]at hs
   |some x=>simp[cI]at hs;rw[hs]
  obtain⟨z,hz,jU⟩:=GB.get c _ Ck;have hu:z=γ b:=jU.2.2 _ hb;obtain⟨css,aA,al,hS⟩:=ix hm (hR.box b _ hb);rcases aA.2 with⟨_,kT⟩|⟨gb,cap,cur,hg,_,hh,hle,kK,dF,dq⟩
  .omega
  have hlen:=All2.flatten_length (λx c hx=>Rep.length t x c hx) al;rw[h1,Nat.one_mul]at hlen dq;have nD:=jx9 (d:=t.dflt) h1;rw[nD]at al;have aU:=F2 hR hb;have mF:(σ.setB b .gone).bx n = .free:=by rw[cB σ _ (Ne.symm xP)];exact hn
  have bd:Rep S w t (xs.getD 0 t.dflt) css.flatten:=by
   match css,al with
   |[c],h=>simpa using h.1
  have wc:=oO t _ _ bd;have fM:((scat t (xs.getD 0 t.dflt)).map TV.leaf).length=t.size:=by rw[ka,wc.length,hlen]
  obtain⟨bU,fF⟩:=JK aU mF (v':= .pointer (some ⟨gb,0,none⟩)) (b:= .cell ((scat t (xs.getD 0 t.dflt)).map TV.leaf) false) (λg' ah=>by
   have ah:gb=g':=by simpa[blk]using ah
   subst ah;have Kr:blk (γ b)=some gb:=by rw[hg];rfl
   refine⟨⟨?_,hR.kw_live hb Kr⟩,λk' b' ax bc=>?_⟩
   .rcases hR.own b _ gb hb Kr with h|h
    .exact h
    .rw[hp]at h;simp at h
   .have bR:k'≠b:=by rintro rfl;rw[eO]at ax;simp at ax
    rw[cB σ _ bR]at ax;exact hR.apart k' b _ _ gb bR ax hb bc Kr) (by
   refine⟨gb,cur,_,eD _ _ _,hh,?_,?_,λ_ o=>(hS gb (by rw[hg];rfl)).1 rfl o,by simp⟩
   .rw[fM,dq];exact qK wc
   .rw[fM,dq];exact Rep.one _ _ _ bd)
  have gn:((σ.setB b .gone).setB n (.live (.cell ((scat t (xs.getD 0 t.dflt)).map TV.leaf) false))).bx k = .live (.cell ls false):=by rw[cB _ _ nh,cB _ _ (λh=>cJ h.symm)];exact hk
  refine⟨S,_,R7 bU gn (b':= .cell (ls.set c (.s1 n)) false) trivial (λbx' tK=>?_),λi=>hc i⟩;obtain⟨g3,cur3,e3,q1,q2,q3,q4,q5,_⟩:=bU.box k _ gn;rw[fe γ _ nh,xA]at q1;simp at q1;subst q1;rw[SJ]at q2;simp at q2;obtain⟨rfl,rfl⟩:=q2;refine⟨gk,Kq,ek,by rw[fe γ _ nh];exact xA,SJ,?_,by rw[zp];exact q4,q5,by simp⟩;rw[zp];refine All2.set_left (q3.mono (λx u hx=>br.keep (.refl S w) tK hx)) c (.s1 n) z hz ?_;have ru:((σ.setB b .gone).setB n (.live (.cell ((scat t (xs.getD 0 t.dflt)).map TV.leaf) false))).bx n = .live (.cell ((scat t (xs.getD 0 t.dflt)).map TV.leaf) false):=eO _ _ _;refine br.keep (.refl S w) tK (x:= .s1 n) ⟨by rw[ru];simp,jU.2.1,λb' ax=>?_⟩;rw[ru]at ax;cases ax;refine⟨gb,cap,eD _ _ _,?_,by omega,kK⟩;rw[hu,hg,h1]
 |se k=>
  simp only[BO]at h;split at h
  case h_2=>simp at h
  rename_i ls hk;split at h
  case isTrue=>simp at h
  rename_i hp;split at h
  case h_2=>simp at h
  rename_i xs u hx;split at h
  case isTrue=>simp at h
  rename_i kU;simp only[j4,j8,q9]at h;subst h;have hp:parK np k=false:=qv.2 hp;have kU:u.any (λy=>y.1==k)=false:=qv.2 kU;have aG:RdF np σ (λj=>if parK np j then .gone else mskM σ.bx j):=AD (RdR.msk λ_=> .inl rfl);obtain⟨g,cur,e,hg,hh,cT,_⟩:=hR.box k _ hk;obtain⟨hf,sy⟩:=xr aG hx cT;obtain⟨S1,aU,cF,gQ,dI⟩:=od u σ S hR hf;have dT:(σ.upd u).bx k = .live (.cell ls false):=(kN u σ kU).trans hk
  obtain⟨S2,g2,bU,_⟩:=Rn aU dT hp (xs:=xs) (λg' iB e' ah u5 _=>by
   rw[hg]at ah;simp at ah;subst ah;rw[hh]at u5;simp at u5;obtain⟨rfl,_⟩:=u5;exact sy S1 w cF gQ)
  refine⟨S2,γ,by rw[jT];exact bU,λi=>?_⟩;rw[u7];exact hc i
 |da l=>
  simp only[BO]at h;split at h
  .rename_i σ1 hd;simp only[j4,j8,q9]at h;subst h;obtain⟨S',bN,cI⟩:=J8 l σ σ1 S hR hc hd;exact⟨S',γ,bN,cI⟩
  .simp at h
theorem Ks{R:Type}{r:R}:∀{gs:List Gh}{σ:St}{S:ay}{γ:Nat->Value}{k:St->Option R},Rel N np S0 w0 refs σ a w S γ->cN σ->w7 np gs σ k=some r->
  ∃σ' S' γ',Rel N np S0 w0 refs σ' a w S' γ'/\cN σ'/\k σ'=some r
 |[],σ,S,γ,k,hR,hc,h=>⟨σ,S,γ,hR,hc,h⟩
 |g::gs,σ,S,γ,k,hR,hc,h=>by
  simp only[w7]at h;split at h
  .rename_i b σ1 hg;cases b with
   |false=>simp at h
   |true=>obtain⟨S1,γ1,aU,fc⟩:=jpg hR hc hg;exact Ks aU fc h
  .simp at h
end
section
variable{N:NT}{np:Nat}{S0:ay}{w0:World}{refs:Refs}{σ:St}{a:Go.Act}{w:World}{S:ay}{γ:Nat->Value}
def exOf:Ex->Exit
 |.normal=> .normal
 |.exit i=> .exit i
 |.ret=> .ret
def fq:Nat->Code->List (Nat×Code)
 |b,.seq x y=>fq b x++fq b y
 |b,.cond _ x y=>fq b x++fq b y
 |_,.block id c=>fq id c
 |b,.loop c=>(b,c)::fq b c
 |b,.rangeFunc g ps x y=>[(b,.rangeFunc g ps x y)]
 |b,.scope c=>fq b c
 |_,_=>[]
def CY(E:Env)(b:Nat)(c:Code):Prop:=
 ∀(s:Snap)(R:Type)(k:Ex->Snap->Option R)(r:R),E.L b s R k=some r->∃n e s',loopN (I3 E b c) n s=some (e,s')/\k e s'=some r
def MrOK(E:Env)(b:Nat)(c:Code):Prop:=
 ∀(m nm:Nat)(p:MrP),E.mr b=some (m,nm)->mrP b c=some p->∀(s:Snap)(R:Type)(k:Snap->Option R)(r:R),E.M b s R k=some r->
  ∃(em:Nat)(v:Ty)(xs ys:List (Int×v.den)),isM em=true/\s=gv s em v xs/\
   (∀zs,(cw E.np (E.keep b) (gv s em v zs)).bx nm = .live (.lst em (.pair (.int .i64) v) zs false)/\(cw E.np (E.keep b) (gv s em v zs)).sl m = .one (.one (.ol nm)))/\
   All2 (λx y=>y.1=x.1/\∀zs,Ac E b p m (gv s em v zs) v x.1 x.2 some=some (gv s em v (@dO _ _ (Ty.int .i64).keq zs x.1 y.2))) xs ys/\k (gv s em v ys)=some r
theorem CZ(p:Nat->Prop):∀n,p n->∃m,p m/\∀j,p j->m<=j:=by
 intro n;induction n using Nat.strongRecOn with
 |_ n ih=>
  intro h;by_cases hj:∃j,j<n/\p j
  .obtain⟨j,hj,hp⟩:=hj;exact ih j hj hp
  .exact⟨n,h,λj hp=>Nat.le_of_not_lt λhl=>hj ⟨j,hl,hp⟩⟩
open Classical in
noncomputable def GH(p:Nat->Prop):Nat:=if h:∃n,p n then (CZ p h.choose h.choose_spec).choose else 0
theorem SK{p:Nat->Prop}{n:Nat}(h:p n):p (GH p)/\GH p<=n:=by
 unfold GH;have hx:∃n,p n:=⟨n,h⟩;rw[dif_pos hx];exact⟨(CZ p hx.choose hx.choose_spec).choose_spec.1,(CZ p hx.choose hx.choose_spec).choose_spec.2 n h⟩
theorem Kt{P:Program}{F:Fence}{n0:Nat}{Q:Exit->Go.Act->World->Prop}{c:Code}(I:Nat->Go.Act->World->Prop){n:Nat}(h₀:I n a w)
  (round:∀n a w,I n a w->c.wpIn F n0 P (Exit.then (λa' w'=>∃m,m<n/\I m a' w') Q) a w):(Code.loop c).wpIn F n0 P Q a w:=by
 refine wpIn_loop (λa w=>∃n,I n a w) (λa w=>GH λn=>I n a w) ⟨n,h₀⟩ (λa w hI=>?_);obtain⟨m,hm⟩:=hI;have hl:=(SK (p:=λn=>I n a w) hm).1;refine wpIn_mono (round _ a w hl) (λe a' w' h=>?_);cases e with
 |normal=>obtain⟨m',ak,GI⟩:=h;exact⟨⟨m',GI⟩,Nat.lt_of_le_of_lt (SK (p:=λn=>I n a' w') GI).2 ak⟩
 |_=>exact h
def xW(w0:World)(refs:Refs):Prop:=
 refs.ds.Nodup/\∀d∈refs.ds,∃D,d={ target:= .collected D,args:=#[] }/\w0.heap.size<=D/\refs.kw D=some (.deferred (some []))
structure we(w0:World)(refs refs':Refs):Prop where
 blks:refs'.blks=refs.blks
 val:refs'.val=refs.val
 fix:refs'.fix=refs.fix
 marks:xW w0 refs'
 mv:refs'.mv=refs.mv
theorem we.trans{r r' SM:Refs}(h:we w0 r r')(h':we w0 r' SM):we w0 r SM:=⟨h'.blks.trans h.blks,h'.val.trans h.val,h'.fix.trans h.fix,h'.marks,h'.mv.trans h.mv⟩
def Post(E:Env)(S0:ay)(w0:World)(refs:Refs)(pl:Bool){R:Type}(k:Ex->St->Option R)(r:R):Exit->Go.Act->World->Prop:=
 λe a' w'=>∃refs' ex σ' S' γ',we w0 refs refs'/\(pl=true->refs'=refs)/\exOf ex=e/\Rel E.N E.np S0 w0 refs' σ' a' w' S' γ'/\cN σ'/\k ex σ'=some r
theorem Ku{E:Env}{pl:Bool}{R:Type}{k:Ex->St->Option R}{r:R}:¬LetsOut (Post E S0 w0 refs pl k r):=by
 rintro⟨a,w,refs',ex,_,_,_,_,_,he,_⟩
 cases ex<;>simp[exOf]at he
def BwOK(P:Program)(f:Nat)(t:Ty):Prop:=
 Fun P f/\∀(cv:Array Value)(m l:Nat)(J:Nat->ay->World->Prop)(Jx:World->Prop)(W:World)(S:ay),
  (∀j S W S' W',Grew W W'->AG S W S' W'->J j S W->J j S' W')->(∀W W',Grew W W'->Jx W->Jx W')->(∀j S W,J j S W->∀g o,S g o->g<W.heap.size)->
  (∀j S W,j<m->J j S W->∃xs:List t.den,All2 (jB S W) [.p [⟨.list t,xs⟩]] cv.toList/\m-1-j<xs.length/\∀S' W' x v,Grew W W'->AG S W S' W'->xs[m-1-j]? = some x->VRep S' W' ⟨t,x⟩ v->
   YieldAt (FR none) 0 P l #[.int .i64 ((m-1-j:Nat):Int),v] W' λe W'=>(e = .returned (.bool true)/\∃S',J (j+1) S' W')\/(e = .returned (.bool false)/\Jx W'))->
  (∃(S':ay)(xs:List t.den),xs.length=m/\(∀g o,S' g o->g<W.heap.size)/\All2 (jB S' W) [.p [⟨.list t,xs⟩]] cv.toList)->J 0 S W->
  CallsIn (FR none) 0 P f (#[.func (.yield l) #[] #[]]++cv) W λe W'=>(∃v,e = .returned v)/\((∃S',J m S' W')\/Jx W')
def ItOK(P:Program)(f:Nat)(kd:Bool)(t:Ty):Prop:=
 Fun P f/\∀(cv:Array Value)(l:Nat)(J:Int->ay->World->Prop)(Je Jx:World->Prop)(W:World)(S:ay)(gJ:List t.den),
  (∀c S W S' W',Grew W W'->AG S W S' W'->J c S W->J c S' W')->(∀W W',Grew W W'->Je W->Je W')->(∀W W',Grew W W'->Jx W->Jx W')->(∀c S W,J c S W->∀g o,S g o->g<W.heap.size)->
  (∀c S W,J c S W->∃xs:List t.den,All2 (jB S W) [.p [⟨.list t,xs⟩]] cv.toList/\(I1 kd xs.length c=true->Je W)/\
   (I1 kd xs.length c=false->itOk kd xs.length c=true/\∀S' W' vs,Grew W W'->AG S W S' W'->All2 (VRep S' W') (BR kd t xs c) vs->
    YieldAt (FR none) 0 P l vs.toArray W' λe W'=>(e = .returned (.bool true)/\∃S',J (BQ kd c) S' W')\/(e = .returned (.bool false)/\Jx W')))->
  (∃S',(∀g o,S' g o->g<W.heap.size)/\All2 (jB S' W) [.p [⟨.list t,gJ⟩]] cv.toList)->J (BP kd gJ.length) S W->
  CallsIn (FR none) 0 P f (#[.func (.yield l) #[] #[]]++cv) W λe W'=>(∃v,e = .returned v)/\(Je W'\/Jx W')
def Kv(P:Program)(fK fS e:Nat):Prop:=Fun P fK/\Fun P fS/\∀(w:World)(g:Nat)(es:Array MapEntry)(clock:Nat)(ks:List Int),
 w.heap[g]? = some (.map es clock)->MapKept.Stamped es clock->es.toList.map (·.key)=ks.map (Value.int .i64)->(∀x∈ks, -9223372036854775808<=x/\x<=9223372036854775807)->ks.length<=1000000->
 Calls P fK #[.map (some g)] w λr w1=>∃c,r = .returned c/\Grew w w1/\Calls P fS #[c] w1 λr2 w2=>∃v,r2 = .returned v/\w2.ownsRow w1.heap.size e 1 v ks.length ((mU ks).map (Value.int .i64))/\Grew w1 w2
def Kw(P:Program)(f e sz:Nat):Prop:=Fun P f/\∀(w:World)(n:Int),0<=n->n<=1000000->
 Calls P f #[.slice none 0 0,.int .i64 n] w λr w'=>∃v,r = .returned v/\w'.ownsRow w.heap.size e sz v 0 []/\Grew w w'
def BwK(P:Program)(f:Nat):Bool×Ty->Prop
 |(true,.arr fK (.arr e .bool))=>Kv P fK f e
 |(true,.arr e (.arr sz .unit))=>Kw P f e sz
 |(kd,t)=>ItOK P f kd t
theorem BwK.it{P:Program}{f:Nat}{kd:Bool}{t:Ty}(h:BwK P f (kd,t))(ht:kd=true->t=segT):ItOK P f kd t:=by
 cases kd with
 |false=>exact h
 |true=>obtain rfl:=ht rfl;exact h
section
variable{N:NT}{np:Nat}{S0:ay}{w0:World}{refs:Refs}{σ:St}{a:Go.Act}{w:World}{S:ay}{γ:Nat->Value}
theorem jvc(ks:List Int):(mU ks).length=ks.length:=by
 have hi:∀(x:Int)(l:List Int),(insI x l).length=l.length+1:=by
  intro x l;induction l with
  |nil=>rfl
  |cons y r ih=>unfold insI;cases decide (x<=y)<;>simp[ih]
 induction ks with
 |nil=>rfl
 |cons x r ih=>simp[mU,hi,ih]
theorem C0{vt:Ty}:∀{xs:List (Int×vt.den)}{l:List MapEntry},All2 (λ(x:(Ty.int .i64).den×vt.den)(e:MapEntry)=>Rep S w (.int .i64) x.1 [e.key]/\VRep S w ⟨vt,x.2⟩ e.val) xs l->
  l.map (·.key)=(xs.map λx=>x.1).map (Value.int .i64)
 |[],[],_=>rfl
 |[],_::_,h=>h.elim
 |_::_,[],h=>h.elim
 |y::r,z::q,h=>by
  have h1:[z.key]=[Value.int .i64 y.1]:=h.1.1;simp only[jz,vi];exact⟨by simpa using h1,C0 h.2⟩
theorem jrx{P:Program}{E:Env}(ib:∀f t,E.bw f=some t->BwK P f t)(hR:Rel E.N E.np S0 w0 refs σ a w S γ)(hc:cN σ){o o2:Oper}(hd:lI E.N o=true)(lO:lI E.N o2=true)
  {σ':St}(h:IW E σ o o2=some (true,σ')){next wg:Go.Act->World->Prop}{Q:Exit->Go.Act->World->Prop}
  (mF:∀a1 w1,o2.wp P a1 w1 next Q->wg a1 w1)(hn:∀a' w' S' γ',Rel E.N E.np S0 w0 refs σ' a' w' S' γ'->cN σ'->next a' w'):o.wp P a w wg Q:=by
 unfold IW at h;split at h
 case h_2=>simp at h
 rename_i c1 c2 ho nw;split at h
 case h_2=>simp at h
 rename_i f1 x f2 d fc C1 gW sk;split at h
 case h_2=>simp at h
 rename_i fK b fS oP hx tq;split at h
 case h_2=>simp at h
 rename_i IX e em ta xs fr Kx GJ;split at h
 case h_2=>simp at h
 rename_i cq ys sK;split at h
 case isFalse=>simp at h
 rename_i bM;obtain⟨rfl,C2,tT,C3,aH⟩:=bM;simp only[j4,j8]at h;obtain⟨rfl,rfl⟩:=h;obtain⟨hFK,hFS,dJ⟩:Kv P IX fS e:=ib _ _ Kx;have C4:=lK hR x;rw[hx]at C4;have CL:a.eval x=γ b:=C4.1.2.2 _ GJ;unfold Qx at sK;split at sK
 case h_2=>simp at sK
 rename_i vt xs;simp only[j4,j8]at sK;obtain⟨bz,rfl⟩:=sK
 obtain⟨g,es,clock,hg,hh,al,au⟩:BX S w (.pair (.int .i64) vt) xs (γ b):=by
  rcases (hR.box b _ GJ).1 with⟨hm,_⟩|⟨_,hm⟩
  .rw[tT]at hm;simp at hm
  .exact hm
 unfold BD at bz;simp only[ja,jq,jh]at bz;have sx:xs.length<=1000000:=ql bz.1;have hks:es.toList.map (·.key)=(xs.map λx=>x.1).map (Value.int .i64):=by exact C0 al
 have cY:=dJ w g es clock (xs.map λx=>x.1) hh au.1 hks (λz hz=>by
  obtain⟨y,hy,rfl⟩:=jn.1 hz;exact bz.2 y hy) (by simpa using sx)
 have C5:=lK hR f1;rw[oP]at C5;obtain⟨cv,Cq,iV⟩:=C5.1
 obtain rfl:cv = #[]:=by
  have:cv.toList=[]:=by
   cases hq:cv.toList with
   |nil=>rfl
   |cons=>rw[hq]at iV;exact iV.elim
  exact zh.1 this
 have aq:=Cz (w:=w) hFK ho fc Cq;have e1:c1.args.map a.eval ++ #[] = #[.map (some g)]:=by apply kq;simp[C1,CL,hg]
 rw[e1]at aq;unfold Oper.wp;rw[aq,Oper.upon_enter];refine cY.mono ?_
 rintro r w1 ⟨c,rfl,lz,Ky⟩
 have aU:=hR.grew lz (S':=S) ⟨λ_ _ h=>h,λ_ _ h=> .inl h,λg o h=>qc (hR.here g o h) lz.size⟩;obtain⟨bU,Kz⟩:=AE aU hc (xJ hd) (s:= .one (.one .dead)) (v:=c) ⟨trivial,λh=>absurd rfl h⟩ rfl;have C6:=lK bU f2;rw[tq]at C6;obtain⟨cv,F9,iV⟩:=C6.1
 obtain rfl:cv = #[]:=by
  have:cv.toList=[]:=by
   cases hq:cv.toList with
   |nil=>rfl
   |cons=>rw[hq]at iV;exact iV.elim
  exact zh.1 this
 have ov:=Cz (w:=w1) hFS nw gW F9;have hda:d<a.tmps.size:=by rw[hR.size];exact(xJ hd d C2).1
 have e2:c2.args.map (a.put o.dst c).eval ++ #[] = #[c]:=by
  apply kq;have:(a.put o.dst c).eval (.tmp d)=c:=by show tm (a.put o.dst c) d=c;rw[C2,nA hda,if_pos rfl]
  simp[sk,this]
 rw[e2]at ov;refine mF _ _ ?_;unfold Oper.wp;rw[ov,Oper.upon_enter];refine Ky.mono ?_
 rintro r2 w2 ⟨v,rfl,bJ,o4⟩
 have gL:(σ.setD o.dst (.one (.one .dead))).bx ((o2.dst.getD 0)*64) = .free:=by
  rw[show (σ.setD o.dst (.one (.one .dead))).bx=σ.bx by rw[C2];rfl];cases hq:σ.bx ((o2.dst.getD 0)*64) with
  |free=>rfl
  |gone=>rw[hq]at aH;simp[gH]at aH
  |live=>rw[hq]at aH;simp[gH]at aH
 have hblk:∀g',blk v=some g'->w1.heap.size<=g'/\g'<w2.heap.size:=by
  intro g' ah;rcases bJ.2 with⟨rfl,_⟩|⟨gb,cap,cur,rfl,ew,xG,_⟩
  .simp[blk]at ah
  .simp[blk]at ah;subst ah;exact⟨ew,(je.1 xG).1⟩
 have iG:w2.ownsRow 0 e (Ty.int .i64).size v (kH xs).length (((kH xs).map (λx=>[Value.int .i64 x])).flatten):=by
  have e3:((kH xs).map (λx=>[Value.int .i64 x])).flatten=(mU (xs.map λx=>x.1)).map (Value.int .i64):=by
   unfold kH;induction mU (xs.map λx=>x.1) with
   |nil=>rfl
   |cons y r ih=>simp only[jz,ki,ih];rfl
  rw[e3,show (kH xs).length=(xs.map λx=>x.1).length from jvc _];refine⟨bJ.1,?_⟩;rcases bJ.2 with hl|⟨gb,cap,cur,h1,h2,h3⟩
  .exact .inl hl
  .exact .inr ⟨gb,cap,cur,h1,k7 _,h3⟩
 have KA:=An bU gL (w':=w2) (S':=S) (v':=v) (e:=e) C3 (el:= .int .i64) (zs:=kH xs) (frz:=false) (css:=(kH xs).map λx=>[Value.int .i64 x])
  (λg' o' hs=>⟨hs,World.cell?_of_block (o4.old g' (bU.here g' o' hs))⟩) (λg' ah _=>o4.old g' ah) o4.size
  (λg' ah=>⟨.inl (q7 bU.grow (hblk g' ah).1),λk b' ax hk=>by have:=iR (bU.box k b' ax) hk;have:=(hblk g' ah).1;omega,(hblk g' ah).2⟩)
  (λ_ _ h=> .inl h) o4.os o4.tape o4.output iG (by
   generalize kH xs=l
   induction l with
   |nil=>trivial
   |cons y r ih=>exact⟨rfl,ih⟩)
  (λg' ah=>⟨λ_ o' hs=>by have:=bU.here g' o' hs;have:=(hblk g' ah).1;omega,λh=>by simp at h⟩) (λg' ah=>bU.kw_new (hblk g' ah).1)
 obtain⟨eY,nr⟩:=KA;obtain⟨mJ,mK⟩:=AE eY (λi=>Kz i) (xJ lO) (s:= .one (.one (.ol ((o2.dst.getD 0)*64)))) (v:=v) nr rfl;exact hn _ _ _ _ mJ mK
theorem jry{P:Program}{E:Env}(ib:∀f t,E.bw f=some t->BwK P f t)(hR:Rel E.N E.np S0 w0 refs σ a w S γ)(hc:cN σ){o:Oper}(hd:lI E.N o=true)
  {σ':St}(h:IY E σ o=some (true,σ')){next:Go.Act->World->Prop}{Q:Exit->Go.Act->World->Prop}
  (hn:∀a' w' S' γ',Rel E.N E.np S0 w0 refs σ' a' w' S' γ'->cN σ'->next a' w'):o.wp P a w next Q:=by
 unfold IY at h;split at h
 case h_2=>simp at h
 rename_i c1 ho;split at h
 case h_2=>simp at h
 rename_i f1 x y fc C1;split at h
 case h_2=>simp at h
 rename_i fG n oP hx hy;split at h
 case h_2=>simp at h
 rename_i e sz ti Kx u4;split at h
 case h_2=>simp at h
 rename_i ta aW;split at h
 case isFalse=>simp at h
 rename_i bM;obtain⟨rfl,C3,aH⟩:=bM;simp only[j4,j8,ja,jh]at h;obtain⟨⟨oQ,mF⟩,rfl⟩:=h;obtain⟨hFG,dJ⟩:Kw P fG e ta.size:=ib _ _ Kx;have C4:=lK hR x;rw[hx]at C4;have CL:a.eval x = .slice none 0 0:=C4.1;have SN:=lK hR y;rw[hy]at SN;have J1:a.eval y = .int .i64 n:=tg SN;have C5:=lK hR f1;rw[oP]at C5;obtain⟨cv,Cq,iV⟩:=C5.1
 obtain rfl:cv = #[]:=by
  have:cv.toList=[]:=by
   cases hq:cv.toList with
   |nil=>rfl
   |cons=>rw[hq]at iV;exact iV.elim
  exact zh.1 this
 have aq:=Cz (w:=w) hFG ho fc Cq;have e1:c1.args.map a.eval ++ #[] = #[.slice none 0 0,.int .i64 n]:=by apply kq;simp[C1,CL,J1]
 rw[e1]at aq;unfold Oper.wp;rw[aq,Oper.upon_enter];refine(dJ w n oQ mF).mono ?_
 rintro r w1 ⟨v,rfl,bJ,lz⟩
 have gL:σ.bx ((o.dst.getD 0)*64) = .free:=by
  cases hq:σ.bx ((o.dst.getD 0)*64) with
  |free=>rfl
  |gone=>rw[hq]at aH;simp[gH]at aH
  |live=>rw[hq]at aH;simp[gH]at aH
 have hblk:∀g',blk v=some g'->w.heap.size<=g'/\g'<w1.heap.size:=by
  intro g' ah;rcases bJ.2 with⟨rfl,_⟩|⟨gb,cap,cur,rfl,ew,xG,_⟩
  .simp[blk]at ah
  .simp[blk]at ah;subst ah;exact⟨ew,(je.1 xG).1⟩
 have iG:w1.ownsRow 0 e ta.size v ([]:List ta.den).length (([]:List (List Value)).flatten):=by
  refine⟨bJ.1,?_⟩;rcases bJ.2 with hl|⟨gb,cap,cur,h1,h2,h3⟩
  .exact .inl hl
  .exact .inr ⟨gb,cap,cur,h1,k7 _,h3⟩
 have KA:=An hR gL (w':=w1) (S':=S) (v':=v) (e:=e) C3 (el:=ta) (zs:=[]) (frz:=false) (css:=[])
  (λg' o' hs=>⟨hs,World.cell?_of_block (lz.old g' (hR.here g' o' hs))⟩) (λg' ah _=>lz.old g' ah) lz.size
  (λg' ah=>⟨.inl (q7 hR.grow (hblk g' ah).1),λk b' ax hk=>by have:=iR (hR.box k b' ax) hk;have:=(hblk g' ah).1;omega,(hblk g' ah).2⟩)
  (λ_ _ h=> .inl h) lz.os lz.tape lz.output iG trivial
  (λg' ah=>⟨λ_ o' hs=>by have:=hR.here g' o' hs;have:=(hblk g' ah).1;omega,λh=>by simp at h⟩) (λg' ah=>hR.kw_new (hblk g' ah).1)
 obtain⟨eY,nr⟩:=KA;obtain⟨mJ,mK⟩:=AE eY (λi=>hc i) (xJ hd) (s:= .one (.one (.ol ((o.dst.getD 0)*64)))) (v:=v) nr rfl;exact hn _ _ _ _ mJ mK
theorem SO{P:Program}{E:Env}(hT:ca P E.T)(hC:iU P E.C)(ib:∀f t,E.bw f=some t->BwK P f t)(hR:Rel E.N E.np S0 w0 refs σ a w S γ)(hc:cN σ){o:Oper}(hd:lI E.N o=true){R:Type}{k:St->Option R}{r:R}
  (h:runK E σ o k=some r){next:Go.Act->World->Prop}{Q:Exit->Go.Act->World->Prop}
  (hn:∀σ' a' w' S' γ',Rel E.N E.np S0 w0 refs σ' a' w' S' γ'->cN σ'->k σ'=some r->next a' w'):o.wp P a w next Q:=by
 unfold runK at h;split at h
 .rename_i c σ' hg;cases c with
  |false=>simp at h
  |true=>exact jry ib hR hc hd hg (λa' w' S' γ' bN cI=>hn _ _ _ _ _ bN cI h)
 .exact AF hT hC hR (act:=[]) (λg hg=>by simp at hg) (p:=false) (λ_=>hc) hd h (λσ' a' w' S' γ' bN cI hk=>hn _ _ _ _ _ bN (cI rfl) hk)
theorem KB{P:Program}{E:Env}(hT:ca P E.T)(hC:iU P E.C)(ib:∀f t,E.bw f=some t->BwK P f t){ops:Array Oper}(bW:bare ops=true){R:Type}{k:St->Option R}{r:R}{Q:Exit->Go.Act->World->Prop}
  (hn:∀σ' a' w' S' γ',Rel E.N E.np S0 w0 refs σ' a' w' S' γ'->cN σ'->k σ'=some r->Q .normal a' w') :
  ∀(n i:Nat)(σ:St)(a:Go.Act)(w:World)(S:ay)(γ:Nat->Value),i+n=ops.size->Rel E.N E.np S0 w0 refs σ a w S γ->cN σ->sX E (ops.toList.drop i) σ k=some r->
   wpOps P ops Q (List.range' i n) a w
 |0,i,σ,a,w,S,γ,hi,hR,hc,h=>by
  rw[jd (by simp;omega)]at h;exact hn _ _ _ _ _ hR hc h
 |1,i,σ,a,w,S,γ,hi,hR,hc,h=>by
  have ak:i<ops.size:=by omega
  rw[jb (by simpa using ak),jd (by simp;omega)]at h;simp only[sX]at h;split at h
  .rename_i hd;have ho:ops[i]? = some ops[i]:=jr ak;simp only[zt,wpOps,ho];have hg:ops[i].guard=none:=by have:=jq.1 bW ops[i] (by simp);simpa using this
   have hw:Region.wanted ops[i] (yielded ops a.tmps)=true:=by simp[Region.wanted,hg]
   simp only[hw,if_true];exact .inl (SO hT hC ib hR hc (by simpa using hd) (by simpa using h) (λσ' a' w' S' γ' bN cI hk=>hn _ _ _ _ _ bN cI hk))
  .simp at h
 |n+2,i,σ,a,w,S,γ,hi,hR,hc,h=>by
  have ak:i<ops.size:=by omega
  have nG:i+1<ops.size:=by omega
  rw[jb (by simpa using ak),jb (by simpa using nG)]at h;simp only[sX]at h;have ho:ops[i]? = some ops[i]:=jr ak;have nw:ops[i+1]? = some ops[i+1]:=jr nG
  have hw:∀(j:Nat)(hj:j<ops.size)(a:Go.Act),Region.wanted ops[j] (yielded ops a.tmps)=true:=λj hj a=>by
   have hg:ops[j].guard=none:=by have:=jq.1 bW ops[j] (by simp);simpa using this
   simp[Region.wanted,hg]
  split at h
  case isFalse=>simp at h
  rename_i hd;split at h
  .rename_i cq σ' hks;split at h
   case isFalse=>simp at h
   rename_i lO;cases cq with
   |false=>simp at h
   |true=>simp only[j5]at h;simp only[zt,wpOps,ho,nw,hw i ak,hw (i+1) nG,if_true];refine .inl (jrx ib hR hc (by simpa using hd) (by simpa using lO) (by simpa using hks) (λa1 w1 hq=> .inl hq) (λa' w' S' γ' bN cI=>?_));exact KB hT hC ib bW hn n (i+2) σ' a' w' S' γ' (by omega) bN cI h
  .rw[zt];simp only[wpOps,ho,hw i ak,if_true];refine .inl (SO hT hC ib hR hc (by simpa using hd) (by simpa using h) (λσ' a' w' S' γ' bN cI hk=>?_));refine KB hT hC ib bW hn (n+1) (i+1) σ' a' w' S' γ' (by omega) bN cI ?_;rw[jb (by simpa using nG)];simpa using hk
theorem jrz{P:Program}{E:Env}(hT:ca P E.T)(hC:iU P E.C)(ib:∀f t,E.bw f=some t->BwK P f t)(hR:Rel E.N E.np S0 w0 refs σ a w S γ)(hc:cN σ){ops:Array Oper}{R:Type}{k:St->Option R}{r:R}
  {Q:Exit->Go.Act->World->Prop}(hn:∀σ' a' w' S' γ',Rel E.N E.np S0 w0 refs σ' a' w' S' γ'->cN σ'->k σ'=some r->Q .normal a' w')(h:BI E ops σ k=some r) :
  wpOps P ops Q (List.range ops.size) a w:=by
 rw[List.range_eq_range'];unfold BI at h;split at h
 .rename_i hb;exact KB hT hC ib hb hn ops.size 0 σ a w S γ (by omega) hR hc (by simpa using h)
 .simp at h
end
theorem jzt{P:Program}{f:Nat}{t:Ty}(h:BwOK P f t):ItOK P f false t:=by
 refine⟨h.1,λcv l J Je Jx W S gJ au SP hsx hh hY df sL=>?_⟩;obtain⟨S',ua,cI⟩:=df;refine CallsIn.mono (h.2 cv gJ.length l (λj S W=>j<=gJ.length/\J ((gJ.length:Int)-j) S W) Jx W S (λj S W S' W' hg hs hj=>⟨hj.1,au _ _ _ _ _ hg hs hj.2⟩) hsx (λj S W hj=>hh _ _ _ hj.2) ?_ ⟨S',gJ,rfl,ua,cI⟩ ⟨k7 _,?_⟩) ?_
 .rintro j S W hj ⟨_,hJ⟩
  obtain⟨xs,h1,_,h3⟩:=hY _ _ _ hJ;obtain⟨h4,h5⟩:=h3 (by show decide _=false;exact decide_eq_false (by omega));have h4:(gJ.length:Int)-j<=Int.ofNat xs.length:=qg h4;have h4:(gJ.length:Int)-j<=(xs.length:Int):=h4;refine⟨xs,h1,by omega,λS' W' x v hg hs hx hv=>?_⟩
  have xX:All2 (VRep S' W') (BR false t xs ((gJ.length:Int)-j)) [.int .i64 ((gJ.length-1-j:Nat):Int),v]:=by
   refine⟨⟨?_,λhm=>absurd hm (show¬iw (.int .i64)=true by decide),λ_=>rfl⟩,?_,trivial⟩
   .show [Value.int .i64 ((gJ.length-1-j:Nat):Int)]=[Value.int .i64 ((gJ.length:Int)-j-1)];rw[show ((gJ.length-1-j:Nat):Int)=(gJ.length:Int)-j-1 by omega]
   .have e:List.getD xs ((gJ.length:Int)-j-1).toNat t.dflt=x:=by rw[show ((gJ.length:Int)-j-1).toNat=gJ.length-1-j by omega];simp[List.getD,hx]
    rw[e];exact hv
  obtain⟨fn,tmps,as,bo,hy,hR⟩:=h5 S' W' _ hg hs xX;refine⟨fn,tmps,as,bo,hy,hR.mono λe W' he=>?_⟩;rcases he with⟨h6,S6,h7⟩|h6
  .refine .inl ⟨h6,S6,by omega,?_⟩;have e2:BQ false ((gJ.length:Int)-j)=(gJ.length:Int)-((j+1:Nat):Int):=by show (gJ.length:Int)-j-1=_;omega
   rw[<-e2];exact h7
  .exact .inr h6
 .have:((gJ.length:Int)-((0:Nat):Int))=BP false gJ.length:=by show _=Int.ofNat gJ.length;simp
  rw[this];exact sL
 .rintro e W' ⟨hv,⟨S',_,hJ⟩|hx⟩
  .obtain⟨xs,_,h2,_⟩:=hY _ _ _ hJ;exact⟨hv,.inl (h2 (by show decide _=true;exact yk (by omega)))⟩
  .exact⟨hv,.inr hx⟩
def GK(P:Program)(E:Env)(ro:Option Nat)(c:Code):Prop:=
 ∀(b n:Nat){S0:ay}{w0:World}{refs:Refs}{σ:St}{a:Go.Act}{w:World}{S:ay}{γ:Nat->Value}{R:Type}{k:Ex->St->Option R}{r:R},xW w0 refs->
  (∀x∈fq b c,CY E x.1 x.2/\MrOK E x.1 x.2)->Rel E.N E.np S0 w0 refs σ a w S γ->cN σ->fa E b c σ k=some r->c.wpIn (FR ro) n P (Post E S0 w0 refs (dy c) k r) a w
theorem ub:∀(c:Code)(b:Nat),dy c=true->fq b c=[]
 |.seq x y,b,h=>by simp only[dy,ja]at h;simp[fq,ub x b h.1,ub y b h.2]
 |.cond _ x y,b,h=>by simp only[dy,ja]at h;simp[fq,ub x b h.1,ub y b h.2]
 |.block id c,b,h=>by simp only[dy]at h;simp[fq,ub c id h]
 |.loop c,b,h=>by simp[dy]at h
 |.rangeFunc _ _ _ _,b,h=>by simp[dy]at h
 |.skip,_,_=>rfl
 |.region _ _ _,_,_=>rfl
 |.exit _,_,_=>rfl
 |.goto _,_,_=>rfl
 |.label _,_,_=>rfl
 |.ret,_,_=>rfl
 |.scope c,b,h=>by simp only[dy]at h;simp[fq,ub c b h]
theorem SQ:∀(L:List (Nat×Value))(T:Array Value),pH (L.map (·.1))=true->(∀q∈L,q.1<T.size)->
  (∀q∈L,(L.foldl (λt (q:Nat×Value)=>t.setIfInBounds q.1 q.2) T).getD q.1 undef=q.2)/\(∀i,i∉L.map (·.1)->(L.foldl (λt (q:Nat×Value)=>t.setIfInBounds q.1 q.2) T).getD i undef=T.getD i undef)/\
  (L.foldl (λt (q:Nat×Value)=>t.setIfInBounds q.1 q.2) T).size=T.size
 |[],T,_,_=>⟨λq h=>by simp at h,λ_ _=>rfl,rfl⟩
 |q::r,T,hn,hb=>by
  simp only[jz,pH,ja,kr,qb,kj]at hn;obtain⟨h1,h2,h3⟩:=SQ r (T.setIfInBounds q.1 q.2) hn.2 (λp hp=>by simpa using hb p (by simp[hp]));have hq:=hb q (by simp);refine⟨λp hp=>?_,λi hi=>?_,by simpa using h3⟩
  .rcases jc.1 hp with rfl|hp
   .show (List.foldl (λt (q:Nat×Value)=>t.setIfInBounds q.1 q.2) (T.setIfInBounds p.1 p.2) r).getD p.1 undef=_;rw[h2 p.1 hn.1];simp[Array.getD,hq]
   .exact h1 p hp
  .simp only[jz,jc,not_or]at hi;show (List.foldl (λt (q:Nat×Value)=>t.setIfInBounds q.1 q.2) (T.setIfInBounds q.1 q.2) r).getD i undef=_;rw[h2 i hi.2];rw[zo,Array.getElem?_setIfInBounds,if_neg (λh=>hi.1 h.symm),<-zo]
theorem SR{N:NT}{np:Nat}:∀(L:List (Nat×TV)){σ:St},Rel N np S0 w0 refs σ a w S γ->cN σ->(∀q∈L,VRep S w q.2 (tm a q.1))->Rel N np S0 w0 refs (setL L σ) a w S γ/\cN (setL L σ)
 |[],_,hR,hc,_=>⟨hR,hc⟩
 |q::r,σ,hR,hc,hv=>by
  have h1:=J5 hR (s:=q.1) (x:= .one (nZ q.2.t q.2.v)) (xw (hv q (by simp)));refine SR r h1 (λi=>?_) (λp hp=>hv p (by simp[hp]));simp only[St.setS];split
  .rfl
  .exact hc i
theorem SS{S:ay}{w:World}:∀{ps:List Nat}{xs:List TV}{vs:List Value},All2 (VRep S w) xs vs->∀q∈ps.zip xs,∃v,(q.1,v)∈ps.zip vs/\VRep S w q.2 v
 |[],_,_,_,q,h=>by simp at h
 |p::ps,[],vs,_,q,h=>by simp at h
 |p::ps,x::xs,[],h2,q,h=>h2.elim
 |p::ps,x::xs,v::vs,h2,q,h=>by
  simp only[List.zip_cons_cons,jc]at h;rcases h with rfl|h
  .exact⟨v,by simp,h2.1⟩
  .obtain⟨u,h3,h4⟩:=SS h2.2 q h;exact⟨u,by simp[h3],h4⟩
theorem SU:∀(ps:List Nat)(vs:List Value),pH ps=true->pH ((ps.zip vs).map (·.1))=true
 |[],_,_=>by simp[pH]
 |p::ps,[],_=>by simp[pH]
 |p::ps,v::vs,h=>by
  simp only[pH,ja,kr,qb,kj,List.zip_cons_cons,jz]at h ⊢;refine⟨λhm=>h.1 ?_,SU ps vs h.2⟩;obtain⟨q,hq,he⟩:=jn.1 hm;rw[<-he];exact(List.of_mem_zip hq).1
theorem jxa{kd:Bool}{t:Ty}{xs:List t.den}{c:Int}(h:kd=true->t=segT):(BR kd t xs c).length=cond kd 1 2:=by
 cases kd with
 |false=>rfl
 |true=>have:=h rfl;subst this;rfl
theorem jvd{P:Program}{E:Env}(ib:∀f t,E.bw f=some t->BwK P f t)(kY:E.N.pin=λ_=>false){b n:Nat}{g:Operand}{ps:Array Nat}{x y:Code}
  (rv:∀l,dy x=true->GK P (E.rnd ps x y) (some l) x)(ry:∀l,dy y=true->GK P (E.rnd ps x y) (some l) y)
  (hLO:CY E b (.rangeFunc g ps x y)){R:Type}{k:Ex->St->Option R}{r:R}(hm:xW w0 refs)(hR:Rel E.N E.np S0 w0 refs σ a w S γ)(hc:cN σ)
  (h:fa E b (.rangeFunc g ps x y) σ k=some r) :
  (Code.rangeFunc g ps x y).wpIn (FR none) n P (Post E S0 w0 refs (dy (.rangeFunc g ps x y)) k r) a w:=by
 refine jyd (n:=1) ?_;simp only[fa]at h;split at h
 case h_2=>simp at h
 rename_i f t xs l7;split at h
 case h_2=>simp at h
 rename_i kd bz;split at h
 case h_2=>simp at h
 rename_i s hs;obtain⟨fu0,e,s',C7,hk⟩:=hLO _ R _ r h;have bd:=lK hR g;rw[l7]at bd;obtain⟨⟨cv,SV,iV⟩,_⟩:=bd;obtain⟨S1,γ1,aU,fc⟩:=sG hR hc hs
 have parts:∀f t kd,rfK E b f t ps x y=some kd->E.bw f=some (kd,t)/\(kd=true->t=segT)/\ps.toList.length=cond kd 1 2/\pH ps.toList=true/\(∀p∈ps.toList,p<E.N.n)/\dy x=true/\dy y=true/\pinK ps x y (E.keep b)=true:=by
  intro f t kd bz;unfold rfK at bz;split at bz
  case h_2=>simp at bz
  rename_i q hq;cases rz:(decide (q.2=t)&&(cond q.1 (decide (t=segT)) true&&(decide (ps.toList.length=cond q.1 1 2)&&(pH ps.toList&&(ps.toList.all (λp=>decide (p<E.N.n))&&(dy x&&(dy y&&pinK ps x y (E.keep b)))))))) with
  |false=>rw[rz]at bz;simp at bz
  |true=>
  rw[rz,j5,j4]at bz;subst bz;simp only[ja,jh,jq]at rz;obtain⟨h1,h0,h2,h3,h4,h5,h6,h7⟩:=rz;exact⟨by rw[hq,<-h1],λhk=>by rw[hk]at h0;exact qg h0,h2,h3,h4,h5,h6,h7⟩
 obtain⟨Ay,C8,h2,dv,ak,xY,xZ,SX⟩:=parts f t kd bz;obtain⟨⟨SY,KC,wh,bT⟩,vX⟩:=(ib f _ Ay).it C8
 have heg:∀args w,(callFunc f args).run P w = .ok (.enter f args) w:=λargs w=>by
  have kM:¬SY.body=none:=λhn=>by rw[hn]at wh;simp at wh
  have vP : ¬ SY.name = "runtime.NumGoroutine" := by simpa using bT
  simp[callFunc,KC,kM,vP]
 refine wpIn_rangeFunc λfn _=>?_;obtain⟨rec,fW⟩:∃rec:LoopState->Option Code->Loop,rec=λst pe=>{ state:=st,pending:=pe,fn,tmps:=a.tmps,params:=ps,assign:=x,body:=y,defers:=w.heap.size }:=⟨_,rfl⟩;obtain⟨W1,AK⟩:∃W1,(w.alloc (.deferred (some []))).alloc (.loop (rec .ready none))=W1:=⟨_,rfl⟩
 refine⟨w.heap.size+1,[{ target:= .collected w.heap.size,args:=#[] }],W1,{ target:= .fn (.func f) cv,args:=#[.func (.yield (w.heap.size+1)) #[] #[]] },W1,f,
  #[.func (.yield (w.heap.size+1)) #[] #[]]++cv,W1,?_,?_,λ_ _=>trivial,?_,λhd=>by simp[FR,Fence.wide]at hd,?_⟩
 .rw[<-AK,fW];exact run_enterLoop_outer _ _ _ _ _
 .simp only[resolve,SV];simp[go_sem]
 .simp[invoke,go_sem,heg]
 obtain⟨l,hl⟩:∃l,l=w.heap.size+1:=⟨_,rfl⟩;rw[<-hl];let cg:(Nat->Option Value)->Obj->Refs:=λfx o=>{ blks:=refs.blks,val:=refs.val,ds:=[],kw:=λg=>if g=l then some o else if g=w.heap.size then some (.deferred (some [])) else refs.kw g,fix:=fx,mv:=refs.mv }
 let fx:Nat->Option Value:=λi=>if zZ ps x y i then some (a.tmps.getD i undef) else none
 let aI:Go.Act:={ tmps:=a.tmps,defers:=[] }
 have jH:∀fx o,(cg fx o).kw l=some o:=λfx o=>by simp[cg]
 have iX:w0.heap.size<=l:=by have:=hR.grow;omega
 have aV:∀fx o,xW w0 (cg fx o):=λfx o=>⟨zg,λd hd=>by simp[cg]at hd⟩
 have jF:∀{N:NT}{fx:Nat->Option Value}{o o':Obj}{σ:St}{a:Go.Act}{W:World}{S:ay}{γ:Nat->Value},o.isCells=false->o'.isCells=false->Rel N E.np S0 w0 (cg fx o) σ a W S γ->
   Rel N E.np S0 w0 (cg fx o') σ a (W.putObj l o') S γ:=by
  intro N fx o o' σ a W S γ h1 h2 hR;have:=hR.putO (jH fx o) iX h1 h2;refine this.swap rfl rfl this.size this.defers this.slot (λg u hg=>this.kept g u ?_) this.fix;simp only[cg]at hg ⊢;split
  .rename_i e;subst e;simpa using hg
  .rename_i e;simpa[e]using hg
 have rA:∀{N N':NT}{fx KD:Nat->Option Value}{o:Obj}{K:Keep}{s:Snap}{a a':Go.Act}{W:World}{S:ay}{γ:Nat->Value},Rel N E.np S0 w0 (cg fx o) (cw E.np K s) a W S γ->a'.tmps.size=N'.n->a'.defers=[]->
   (∀i∈K.slots,tm a' i=tm a i)->(∀i v,KD i=some v->N'.pin i=true/\a'.tmps.getD i undef=v)->Rel N' E.np S0 w0 (cg KD o) (cw E.np K s) a' W S γ:=by
  intro N N' fx KD o K s a a' W S γ hR h1 h2 h3 h4;exact hR.frame rfl rfl h1 h2 h3 (λg u hg=>hR.kept g u hg) h4
 have rB:∀i v,(λ_=>none:Nat->Option Value) i=some v->E.N.pin i=true/\aI.tmps.getD i undef=v:=λi v h=>by simp at h
 let J:Int->ay->World->Prop:=λc S W=>∃s γ fu,Rel E.N E.np S0 w0 (cg (λ_=>none) (.loop (rec .ready none))) (cw E.np (E.keep b) s) aI W S γ/\cN (cw E.np (E.keep b) s)/\
  loopN (Ab E b g ps x y) fu (.s (.one (.d (.int .i64) c))::s)=some (e,s')
 let Je:World->Prop:=λW=>∃S γ,Rel E.N E.np S0 w0 (cg (λ_=>none) (.loop (rec .ready none))) (cw E.np (E.keepX b e) s') aI W S γ/\cN (cw E.np (E.keepX b e) s')/\e = .normal
 let Jx:World->Prop:=λW=>∃S γ c,Rel E.N E.np S0 w0 (cg (λ_=>none) (.loop (rec .done (some c)))) (cw E.np (E.keepX b e) s') aI W S γ/\cN (cw E.np (E.keepX b e) s')/\
  ((e = .ret/\c = .ret)\/∃i,e = .exit i/\c = .exit i)
 have wi:∀K:Keep,pinK ps x y K=true->∀i∈K.slots,zZ ps x y i=true:=λK hK i hi=>jq.1 hK i hi;have wj:∀i,zZ ps x y i=true->i∉ps.toList:=by intro i hi;simp only[zZ,ja,kr,qb,kj]at hi;exact hi.1
 have sL:J (BP kd xs.length) S1 W1:=by
  refine⟨s,γ1,fu0,?_,fc,C7⟩;have hA:=(aU.allocO (.deferred (some []))).allocO (.loop (rec .ready none));rw[AK]at hA;refine hA.frame rfl rfl hR.size rfl (λi _=>rfl) (λg' u ah=>?_) rB;simp only[cg]at ah;split at ah
  .rename_i e';simp only[j4]at ah;subst ah;rw[e',hl];refine⟨?_,λk' b' ax cJ=>?_⟩
   .rw[<-AK];have:=World.alloc_heap_new (w.alloc (.deferred (some []))) (.loop (rec .ready none));rwa[World.size_alloc]at this
   .have:=iR (aU.box k' b' ax) cJ;omega
  .split at ah
   .rename_i _ e';simp only[j4]at ah;subst ah;rw[e'];refine⟨?_,λk' b' ax cJ=>?_⟩
    .rw[<-AK];exact(heap_alloc_old _ _ (by simp)).trans (World.alloc_heap_new w _)
    .have:=iR (aU.box k' b' ax) cJ;omega
   .exact hA.kept g' u ah
 have haI:aI.eval g=a.eval g:=by cases g<;>rfl
 have KE:aI.tmps.size=E.N.n:=hR.size
 have C9:∀{K:Keep}{s:Snap}{o:Obj}{W W':World}{S:ay}{γ:Nat->Value},Grew W W'->Rel E.N E.np S0 w0 (cg (λ_=>none) o) (cw E.np K s) aI W S γ->Rel E.N E.np S0 w0 (cg (λ_=>none) o) (cw E.np K s) aI W' S γ:=
  λhg h1=>h1.grew hg ⟨λ_ _ h=>h,λ_ _ h=> .inl h,λg o h=>qc (h1.here g o h) hg.size⟩
 refine CallsIn.mono (vX cv l J Je Jx W1 S1 xs (λc S W S' W' hg hs ⟨s,γ,fu,h1,h2,h3⟩=>⟨s,γ,fu,h1.grew hg hs,h2,h3⟩) (λW W' hg ⟨S,γ,h1,h2⟩=>⟨S,γ,C9 hg h1,h2⟩) (λW W' hg ⟨S,γ,c,h1,h2⟩=>⟨S,γ,c,C9 hg h1,h2⟩)
  (λc S W ⟨s,γ,fu,h1,_⟩=>h1.here) ?_ ?_ sL) ?_
 ·-- a round
  rintro cn S W ⟨s,γ,fu,AL,SZ,sM⟩
  cases fu with
  |zero=>simp[loopN]at sM
  |succ fu=>
  simp only[loopN]at sM;cases au:Ab E b g ps x y (.s (.one (.d (.int .i64) cn))::s) with
  |none=>rw[au]at sM;simp at sM
  |some r0=>
  rw[au]at sM;unfold Ab BU at au;dsimp only at au;split at au
  case h_2=>simp at au
  rename_i f' t' cZ x8;split at au
  case h_2=>simp at au
  rename_i kd' oY;have lR:=lK AL g;rw[x8,haI,SV]at lR;obtain⟨⟨cv',Da,df⟩,_⟩:=lR;simp only[Value.func.injEq,Fn.func.injEq,q9]at Da;obtain⟨rfl,rfl⟩:=Da;have ht:=(parts f t' kd' oY).1;rw[Ay]at ht;simp only[j4,j8]at ht;obtain⟨rfl,rfl⟩:=ht;refine⟨cZ,df,λKF=>?_,λKF=>?_⟩
  .rw[KF,j5]at au;cases o5:pinK ps x y (E.keepX b .normal) with
   |false=>rw[o5]at au;simp at au
   |true=>
   rw[o5,j5]at au;split at au
   case h_2=>simp at au
   rename_i s3 hs3;simp only[j4]at au;subst au;simp only[j4,j8]at sM;obtain⟨rfl,rfl⟩:=sM;obtain⟨S5,γ5,mL,x9⟩:=sG AL SZ hs3;exact⟨S5,γ5,mL,x9,rfl⟩
  rw[KF,j6]at au;cases hle:itOk kd cZ.length cn with
  |false=>rw[hle]at au;simp at au
  |true=>
  rw[hle,j5]at au;refine⟨rfl,λSg Wg vs hgw KG ik=>?_⟩;have AL:=AL.grew hgw KG;have vG:vs.toArray.size=ps.size:=by have e1:=ik.length;rw[jxa C8]at e1;simp only[v7];rw[<-e1,<-h2,qd]
  refine⟨fn,_,x,y,by have:=run_yield (P:=P) (args:=vs.toArray) (AL.kept l _ (jH _ _)).1 (by rw[fW];exact vG);rw[fW]at this;exact this,roundIn_of_wpIn trivial ?_⟩;let a1:Go.Act:={ tmps:=(ps.zip vs.toArray).foldl (λt (q:Nat×Value)=>t.setIfInBounds q.1 q.2) a.tmps,defers:=[] }
  have jU:(ps.zip vs.toArray).toList=ps.toList.zip vs:=by simp
  have C1:a1.tmps=(ps.toList.zip vs).foldl (λt (q:Nat×Value)=>t.setIfInBounds q.1 q.2) a.tmps:=by show (ps.zip vs.toArray).foldl _ _=_;rw[<-Array.foldl_toList,jU]
  have fJ:∀i,i∈(ps.toList.zip vs).map (·.1)->i∈ps.toList:=λi hi=>by
   obtain⟨q,hq,rfl⟩:=jn.1 hi;exact(List.of_mem_zip hq).1
  have KH:pH ((ps.toList.zip vs).map (·.1))=true:=SU _ _ dv;obtain⟨Gm,iQ,S7⟩:=SQ (ps.toList.zip vs) a.tmps KH (λq hq=>by rw[hR.size];exact ak _ (List.of_mem_zip hq).1);rw[<-C1]at Gm iQ S7;have KI:a1.tmps.size=E.N.n:=S7.trans hR.size;have tW:∀i,i∉ps.toList->tm a1 i=tm aI i:=λi hi=>iQ i (λh=>hi (fJ i h))
  have hRa:Rel (E.rnd ps x y).N E.np S0 w0 (cg fx (.loop (rec .ready none))) (cw E.np (E.keep b) s) a1 Wg Sg γ:=rA AL KI rfl (λi hi=>tW i (wj i (wi _ SX i hi))) (λi u hu=>by
   simp only[fx]at hu;split at hu
   .rename_i hp;simp only[j4]at hu;refine⟨hp,?_⟩;show tm a1 i=u;rw[tW i (wj i hp)];exact hu
   .simp at hu)
  obtain⟨hRc,oq⟩:=SR (ps.toList.zip (BR kd t cZ cn)) hRa SZ (λq hq=>by
   obtain⟨v,h3,h4⟩:=SS ik q hq;have:=Gm _ h3;show VRep Sg Wg q.2 (a1.tmps.getD q.1 undef);rw[this];exact h4)
  refine wpIn_mono (rv l xY 0 0 (aV _ _) (by rw[ub x 0 xY];simp) hRc oq au) ?_
  rintro e1 a2 w2 ⟨fV,ex,σ2,S2,γ2,_,kZ,rfl,bU,gW,gn⟩
  have:=kZ xY;subst this;cases ex with
  |exit i=>simp at gn
  |ret=>simp at gn
  |normal=>
  refine⟨_,run_beginRound (bU.kept l _ (jH _ _)).1 (by rw[fW]),?_⟩;have eY:Rel (E.rnd ps x y).N E.np S0 w0 (cg fx (.loop (rec .busy none))) σ2 a2 (w2.putObj l (.loop { rec .ready none with state:= .busy })) S2 γ2:=by have:=jF (o':= .loop (rec .busy none)) rfl rfl bU;rw[fW]at this ⊢;exact this
  refine wpIn_mono (ry l xZ 0 0 (aV _ _) (by rw[ub y 0 xZ];simp) eY gW gn) ?_
  rintro e1 a3 w3 ⟨S8,ex,σ3,S3,γ3,_,kZ,rfl,mJ,mK,ym⟩
  have:=kZ xZ;subst this
  have l9:∀{K:Keep}{s:Snap}{o:Obj}{W:World}{S:ay}{γ:Nat->Value},pinK ps x y K=true->Rel (E.rnd ps x y).N E.np S0 w0 (cg fx o) (cw E.np K s) a3 W S γ->
    Rel E.N E.np S0 w0 (cg (λ_=>none) o) (cw E.np K s) aI W S γ:=λhK hR=>rA hR KE rfl (λi hi=>by
   have:=(hR.fix i (a.tmps.getD i undef) (by simp only[cg,fx];rw[if_pos (wi _ hK i hi)])).2;exact this.symm) rB
  have rC:∀(ex:Ex)(c:Code),((ex = .ret/\c = .ret)\/∃i,ex = .exit i/\c = .exit i)->
    (cond (pinK ps x y (E.keepX b ex)) (match iv E.np (E.keepX b ex) σ3 with
     |some s'=>some (Sum.inr (ex,s'))
     |none=>none) none:Option (Snap ⊕ Ex×Snap))=some r0->
    ∃v w',(Instr.endRound l (some c)).run P w3 = .ok v w'/\((Ending.returned v = .returned (.bool true)/\∃S',J (BQ kd cn) S' w')\/(Ending.returned v = .returned (.bool false)/\Jx w')):=by
   intro ex c hex kB;cases o5:pinK ps x y (E.keepX b ex) with
   |false=>rw[o5]at kB;simp at kB
   |true=>
   rw[o5,j5]at kB;split at kB
   case h_2=>simp at kB
   rename_i s2 mC;simp only[j4]at kB;subst kB;simp only[j4,j8]at sM;obtain⟨rfl,rfl⟩:=sM;obtain⟨S5,γ5,mL,x9⟩:=sG mJ mK mC;refine⟨_,_,run_endRound (some c) (mL.kept l _ (jH _ _)).1,.inr ⟨rfl,S5,γ5,c,?_,x9,hex⟩⟩;have:=jF (o':= .loop (rec .done (some c))) rfl rfl (l9 o5 mL);rw[fW]at this ⊢;exact this
  cases ex with
  |normal=>
   dsimp only at ym
   split at ym
   case h_2=>simp at ym
   rename_i s2 mC;simp only[j4]at ym;subst ym;obtain⟨S5,γ5,mL,x9⟩:=sG mJ mK mC;show∃v w',(Instr.endRound l none).run P w3 = .ok v w'/\_;refine⟨_,_,run_endRound none (mL.kept l _ (jH _ _)).1,.inl ⟨rfl,S5,s2,γ5,fu,?_,x9,?_⟩⟩
   .have:=jF (o':= .loop (rec .ready none)) rfl rfl (l9 SX mL);rw[fW]at this ⊢;exact this
   .exact sM
  |exit i=>exact rC _ _ (.inr ⟨i,rfl,rfl⟩) ym
  |ret=>exact rC _ _ (.inl ⟨rfl,rfl⟩) ym
 .refine⟨S,λg o h=>by rw[<-AK];have:=hR.here g o h;simp;omega,iV.mono λx z hx=>?_⟩;rw[<-AK]
  exact jB.keep (λg o h=>⟨h,by
   have:=hR.here g o h;rw[World.cell?_alloc_lt _ _ _ (by simp;omega),World.cell?_alloc_lt _ _ _ this]⟩) hx
 .rintro e2 W2 ⟨⟨v,rfl⟩,gf⟩
  have l9:∀{K:Keep}{s:Snap}{o:Obj}{W:World}{S:ay}{γ:Nat->Value},Rel E.N E.np S0 w0 (cg (λ_=>none) o) (cw E.np K s) aI W S γ->
    ∃refs',we w0 refs refs'/\Rel E.N E.np S0 w0 refs' (cw E.np K s) { a with defers:=[{ target:= .collected w.heap.size,args:=#[] }]++a.defers } W S γ:=by
   intro K s o W S γ S9;refine⟨{ blks:=refs.blks,val:=refs.val,ds:={ target:= .collected w.heap.size,args:=#[] }::refs.ds,kw:=λg=>if g=w.heap.size then some (.deferred (some [])) else refs.kw g,fix:=refs.fix,mv:=refs.mv },⟨rfl,rfl,rfl,⟨?_,?_⟩,rfl⟩,?_⟩
   .refine q8.2 ⟨λgY=>?_,hm.1⟩;obtain⟨D,hD,_,AM⟩:=hm.2 _ gY;simp only[Deferred.mk.injEq,Target.collected.injEq,and_true]at hD;rw[<-hD,hR.kw_new (jo _)]at AM;simp at AM
   .intro d hd;rcases jc.1 hd with rfl|hd
    .exact⟨w.heap.size,rfl,hR.grow,by simp⟩
    .obtain⟨D,rfl,h1,h2⟩:=hm.2 d hd;refine⟨D,rfl,h1,?_⟩;show (if D=w.heap.size then _ else refs.kw D)=_;rw[if_neg,h2]
     rintro rfl
     rw[hR.kw_new (jo _)]at h2;simp at h2
   .refine S9.frame rfl rfl hR.size (by rw[hR.defers];rfl) (λi _=>rfl) (λg' u ah=>S9.kept g' u ?_) (λi v hv=>?_)
    .simp only[cg]at ah ⊢;by_cases h1:g'=l
     .exfalso;subst h1;rw[if_neg (by omega),hR.kw_new (by omega)]at ah;simp at ah
     .rw[if_neg h1];exact ah
    .have:=(hR.fix i v hv).1;rw[kY]at this;simp at this
  rcases gf with⟨S2,γ2,uc,hce,rfl⟩|⟨S2,γ2,c,tQ,F5,hex⟩
  .refine⟨none,_,by have:=run_endLoop (P:=P) (uc.kept l _ (jH _ _)).1 (by rw[fW];simp);rw[fW]at this;exact this,?_⟩;have o8:=jF (o':= .loop { rec .ready none with state:= .exhausted }) rfl rfl uc;obtain⟨refs',hle,uc⟩:=l9 o8;rw[fW]at uc;exact⟨refs',.normal,_,S2,γ2,hle,λhf=>by simp[dy]at hf,rfl,uc,hce,hk⟩
  .have o8:=jF (o':= .loop { rec .done (some c) with state:= .exhausted }) rfl rfl tQ;obtain⟨refs',hle,uc⟩:=l9 o8;refine⟨some c,_,by have:=run_endLoop (P:=P) (tQ.kept l _ (jH _ _)).1 (by rw[fW];simp);rw[fW]at this;exact this,?_⟩;rw[fW]at uc;rcases hex with⟨rfl,rfl⟩|⟨i,rfl,rfl⟩
   .exact wpIn_ret ⟨refs',.ret,_,S2,γ2,hle,λhf=>by simp[dy]at hf,rfl,uc,F5,hk⟩
   .exact wpIn_exit ⟨refs',.exit i,_,S2,γ2,hle,λhf=>by simp[dy]at hf,rfl,uc,F5,hk⟩
def MrS(P:Program)(AN:Nat->Option (Nat×Nat)):Prop:=
 ∀{E:Env},E.mr=AN->ca P E.T->iU P E.C->CFun E.C->(∀f t,E.bw f=some t->BwK P f t)->(E.N.pin=λ_=>false)->
  ∀(x y:Code)(b n:Nat)(pl:Bool){S0:ay}{w0:World}{refs:Refs}{σ:St}{a:Go.Act}{w:World}{S:ay}{γ:Nat->Value}{R:Type}{k:Ex->St->Option R}{r:R},xW w0 refs->
   (∀z∈fq b y,MrOK E z.1 z.2)->Rel E.N E.np S0 w0 refs σ a w S γ->cN σ->Aa E x y=true->BT E x y σ k=some r->(Code.seq x y).wpIn (FR none) n P (Post E S0 w0 refs pl k r) a w
theorem jnI{E:Env}{x y:Code}(h:Aa E x y=true):dy (.seq x y)=false:=by
 unfold Aa at h;split at h
 .simp[dy]
 .simp at h
theorem Ta{P:Program}(gC:P.follows .mixedOrders=true){AN:Nat->Option (Nat×Nat)}(Db:MrS P AN):∀(c:Code){E:Env}{ro:Option Nat},ca P E.T->iU P E.C->CFun E.C->E.mr=AN->
  (∀f t,E.bw f=some t->BwK P f t)->(dy c=true\/(ro=none/\E.N.pin=λ_=>false))->GK P E ro c:=by
 intro c;induction c with
 |skip=>intro E ro hT hC hF hE fL hp b n S0 w0 refs σ a w S γ R k r hm hL hR hc h;exact wpIn_skip ⟨refs,.normal,σ,S,γ,⟨rfl,rfl,rfl,hm,rfl⟩,λ_=>rfl,rfl,hR,hc,h⟩
 |label l=>intro E ro hT hC hF hE fL hp b n S0 w0 refs σ a w S γ R k r hm hL hR hc h;exact wpIn_label ⟨refs,.normal,σ,S,γ,⟨rfl,rfl,rfl,hm,rfl⟩,λ_=>rfl,rfl,hR,hc,h⟩
 |region rD ops draw=>
  intro E ro hT hC hF hE fL hp b n S0 w0 refs σ a w S γ R k r hm hL hR hc h
  have yn:ro=none\/∀o∈ops.toList,∀c,o.op ≠ .defer c:=hp.elim (λhp=> .inr λo ho c hd=>by
   have:=jq.1 hp o ho;simp[QA,hd]at this) λh=> .inl h.1
  cases draw with
  |true=>simp only[fa]at h;obtain⟨σ,S,γ,hR,hc,h⟩:=Ks hR hc h;exact wpIn_region_any gC (GD yn Ku _ _ _ _ (jru hT hC hF hR hc (λσ' a' w' S' γ' bN cI hk=>⟨refs,.normal,σ',S',γ',⟨rfl,rfl,rfl,hm,rfl⟩,λ_=>rfl,rfl,bN,cI,hk⟩) h))
  |false=>
   simp only[fa]at h;obtain⟨σ,S,γ,hR,hc,h⟩:=Ks hR hc h;cases hks:E.ks rD with
   |true=>rw[hks,j5]at h;exact wpIn_region (tZ yn Ku _ _ _ (jrz hT hC fL hR hc (λσ' a' w' S' γ' bN cI hk=>⟨refs,.normal,σ',S',γ',⟨rfl,rfl,rfl,hm,rfl⟩,λ_=>rfl,rfl,bN,cI,hk⟩) h))
   |false=>rw[hks,j6]at h;exact wpIn_region (tZ yn Ku _ _ _ (R6 hT hC hR hc (λσ' a' w' S' γ' bN cI hk=>⟨refs,.normal,σ',S',γ',⟨rfl,rfl,rfl,hm,rfl⟩,λ_=>rfl,rfl,bN,cI,hk⟩) h))
 |seq x y rv ry=>
  intro E ro hT hC hF hE fL hp b n S0 w0 refs σ a w S γ R k r hm hL hR hc h;simp only[fa]at h;cases GL:Aa E x y with
  |true=>rw[GL,j5]at h;obtain⟨rfl,kY⟩:=hp.resolve_left (by rw[jnI GL];simp);exact Db hE hT hC hF fL kY x y b n _ hm (λz hz=>(hL z (by simp[fq,hz])).2) hR hc GL h
  |false=>
  rw[GL,j6]at h;have xY:dy x=true\/(ro=none/\E.N.pin=λ_=>false):=hp.imp (λh=>by simp only[dy,ja]at h;exact h.1) id;have xZ:dy y=true\/(ro=none/\E.N.pin=λ_=>false):=hp.imp (λh=>by simp only[dy,ja]at h;exact h.2) id;refine wpIn_seq (wpIn_mono (rv hT hC hF hE fL xY b n hm (λz hz=>hL z (by simp[fq,hz])) hR hc h) ?_)
  rintro e a' w' ⟨refs',ex,σ',S',γ',hle,kZ,rfl,bN,cI,hk⟩
  have hx:dy (.seq x y)=true->refs'=refs:=λh=>by simp only[dy,ja]at h;exact kZ h.1
  cases ex with
  |normal=>
   refine wpIn_mono (ry hT hC hF hE fL xZ b n hle.marks (λz hz=>hL z (by simp[fq,hz])) bN cI hk) ?_
   rintro e2 a2 w2 ⟨fV,ex,σ2,S2,γ2,fF,KJ,rfl,bU,gW,gn⟩
   refine⟨fV,ex,σ2,S2,γ2,hle.trans fF,λh=>?_,rfl,bU,gW,gn⟩;have h1:=hx h;simp only[dy,ja]at h;rw[KJ h.2,h1]
  |exit i=>exact⟨refs',.exit i,σ',S',γ',hle,hx,rfl,bN,cI,hk⟩
  |ret=>exact⟨refs',.ret,σ',S',γ',hle,hx,rfl,bN,cI,hk⟩
 |cond c x y rv ry=>
  intro E ro hT hC hF hE fL hp b n S0 w0 refs σ a w S γ R k r hm hL hR hc h;simp only[fa]at h;have xY:dy x=true\/(ro=none/\E.N.pin=λ_=>false):=hp.imp (λh=>by simp only[dy,ja]at h;exact h.1) id;have xZ:dy y=true\/(ro=none/\E.N.pin=λ_=>false):=hp.imp (λh=>by simp only[dy,ja]at h;exact h.2) id;split at h
  .rename_i v hv;have l7:=lK hR c;rw[hv]at l7;have wk:a.eval c = .bool v:=sj l7;refine wpIn_cond wk ?_;cases v with
   |true=>
    refine wpIn_mono (rv hT hC hF hE fL xY b n hm (λz hz=>hL z (by simp[fq,hz])) hR hc h) ?_
    rintro e a' w' ⟨refs',ex,σ',S',γ',hle,kZ,he,hr⟩
    exact⟨refs',ex,σ',S',γ',hle,λh=>by simp only[dy,ja]at h;exact kZ h.1,he,hr⟩
   |false=>
    refine wpIn_mono (ry hT hC hF hE fL xZ b n hm (λz hz=>hL z (by simp[fq,hz])) hR hc h) ?_
    rintro e a' w' ⟨refs',ex,σ',S',γ',hle,kZ,he,hr⟩
    exact⟨refs',ex,σ',S',γ',hle,λh=>by simp only[dy,ja]at h;exact kZ h.2,he,hr⟩
  .simp at h
 |block id c ih=>
  intro E ro hT hC hF hE fL hp b n S0 w0 refs σ a w S γ R k r hm hL hR hc h;simp only[fa]at h;refine wpIn_block (wpIn_mono (ih hT hC hF hE fL hp id n hm (λz hz=>hL z (by simpa[fq]using hz)) hR hc h) ?_)
  rintro e a' w' ⟨refs',ex,σ',S',γ',hle,kZ,rfl,bN,cI,hk⟩
  cases ex with
  |normal=>exact⟨refs',.normal,σ',S',γ',hle,kZ,rfl,bN,cI,hk⟩
  |exit i=>
   simp only[exOf,Exit.inBlock];simp only at hk;split
   .rename_i hi;rw[if_pos hi]at hk;exact⟨refs',.normal,σ',S',γ',hle,kZ,rfl,bN,cI,hk⟩
   .rename_i hi;rw[if_neg hi]at hk;exact⟨refs',.exit i,σ',S',γ',hle,kZ,rfl,bN,cI,hk⟩
  |ret=>exact⟨refs',.ret,σ',S',γ',hle,kZ,rfl,bN,cI,hk⟩
 |scope c ih=>intro E ro hT hC hF hE fL hp b n S0 w0 refs σ a w S γ R k r hm hL hR hc h;simp only[fa]at h;refine jrw (λl a w hq=>?_) (ih hT hC hF hE fL hp b n hm (λz hz=>hL z (by simpa[fq]using hz)) hR hc h);obtain⟨_,ex,_,_,_,_,_,he,_⟩:=hq;cases ex<;>simp[exOf]at he
 |loop c ih=>
  intro E ro hT hC hF hE fL hp b n S0 w0 refs σ a w S γ R k r hm hL hR hc h;have Tb:=hp.resolve_left (by simp[dy]);simp only[fa]at h;cases KK:isRf c with
  |true=>rw[KK]at h;simp at h
  |false=>
  rw[KK,j6]at h;cases jE:E.un b with
  |true=>
   rw[jE,j5]at h;refine Kt (λn a w=>∃refs' σ' S γ,we w0 refs refs'/\Rel E.N E.np S0 w0 refs' σ' a w S γ/\cN σ'/\uV (λσ k=>fa E b c σ k) n σ' k=some r) ⟨refs,σ,S,γ,⟨rfl,rfl,rfl,hm,rfl⟩,hR,hc,h⟩ ?_
   rintro m a1 w1 ⟨Dc,σ1,S2,γ2,ia,bU,gW,gY⟩
   cases m with
   |zero=>simp[uV]at gY
   |succ m=>
    simp only[uV]at gY;refine wpIn_mono (ih hT hC hF hE fL (.inr Tb) b n ia.marks (λz hz=>hL z (by simp[fq,hz])) bU gW gY) ?_
    rintro e2 a2 w2 ⟨fV,ex,σ2,S3,γ3,fF,_,rfl,eY,tV,iH⟩
    cases ex with
    |normal=>exact⟨m,Nat.lt_succ_self m,fV,σ2,S3,γ3,ia.trans fF,eY,tV,iH⟩
    |exit i=>exact⟨fV,.exit i,σ2,S3,γ3,ia.trans fF,λhf=>by simp[dy]at hf,rfl,eY,tV,iH⟩
    |ret=>exact⟨fV,.ret,σ2,S3,γ3,ia.trans fF,λhf=>by simp[dy]at hf,rfl,eY,tV,iH⟩
  |false=>
  rw[jE,j6]at h;split at h
  .rename_i s hs;obtain⟨n1,e,s',hn,hk⟩:=(hL (b,c) (by simp[fq])).1 s R _ r h
   have gz:I3 E b c=w8 E b c:=by
    funext s
    cases c<;>first|rfl|simp[isRf]at KK
   rw[gz]at hn;obtain⟨S1,γ1,aU,fc⟩:=sG hR hc hs;refine Kt (λn a w=>∃refs' s S γ,we w0 refs refs'/\Rel E.N E.np S0 w0 refs' (cw E.np (E.keep b) s) a w S γ/\cN (cw E.np (E.keep b) s)/\loopN (w8 E b c) n s=some (e,s')) ⟨refs,s,S1,γ1,⟨rfl,rfl,rfl,hm,rfl⟩,aU,fc,hn⟩ ?_
   rintro m a1 w1 ⟨Dc,s1,S2,γ2,ia,bU,gW,gY⟩
   cases m with
   |zero=>simp[loopN]at gY
   |succ m=>
    simp only[loopN]at gY;cases au:w8 E b c s1 with
    |none=>simp[au]at gY
    |some out=>
     rw[au]at gY;unfold w8 at au;refine wpIn_mono (ih hT hC hF hE fL (.inr Tb) b n ia.marks (λz hz=>hL z (by simp[fq,hz])) bU gW au) ?_
     rintro e2 a2 w2 ⟨fV,ex,σ2,S3,γ3,fF,_,rfl,eY,tV,iH⟩
     cases ex with
     |normal=>
      simp only at iH;split at iH
      .rename_i s2 mC;simp only[j4]at iH;subst iH;obtain⟨S4,γ4,mJ,mK⟩:=sG eY tV mC;exact⟨m,Nat.lt_succ_self m,fV,s2,S4,γ4,ia.trans fF,mJ,mK,gY⟩
      .simp at iH
     |exit i=>
      simp only at iH;split at iH
      .rename_i s2 mC;simp only[j4]at iH;subst iH;obtain⟨S4,γ4,mJ,mK⟩:=sG eY tV mC;simp only[j4,j8]at gY;obtain⟨rfl,rfl⟩:=gY;exact⟨fV,.exit i,_,S4,γ4,ia.trans fF,λhf=>by simp[dy]at hf,rfl,mJ,mK,hk⟩
      .simp at iH
     |ret=>
      simp only at iH;split at iH
      .rename_i s2 mC;simp only[j4]at iH;subst iH;obtain⟨S4,γ4,mJ,mK⟩:=sG eY tV mC;simp only[j4,j8]at gY;obtain⟨rfl,rfl⟩:=gY;exact⟨fV,.ret,_,S4,γ4,ia.trans fF,λhf=>by simp[dy]at hf,rfl,mJ,mK,hk⟩
      .simp at iH
  .simp at h
 |rangeFunc g ps x y rv ry=>
  intro E ro hT hC hF hE fL hp b n S0 w0 refs σ a w S γ R k r hm hL hR hc h;obtain⟨rfl,kY⟩:=hp.resolve_left (by simp[dy])
  exact jvd fL kY (λl hx=>rv (E:=E.rnd ps x y) hT hC hF hE fL (.inl hx)) (λl hy=>ry (E:=E.rnd ps x y) hT hC hF hE fL (.inl hy))
   (hL (b,.rangeFunc g ps x y) (by simp[fq])).1 hm hR hc h
 |exit i=>intro E ro hT hC hF hE fL hp b n S0 w0 refs σ a w S γ R k r hm hL hR hc h;exact wpIn_exit ⟨refs,.exit i,σ,S,γ,⟨rfl,rfl,rfl,hm,rfl⟩,λ_=>rfl,rfl,hR,hc,h⟩
 |ret=>intro E ro hT hC hF hE fL hp b n S0 w0 refs σ a w S γ R k r hm hL hR hc h;exact wpIn_ret ⟨refs,.ret,σ,S,γ,⟨rfl,rfl,rfl,hm,rfl⟩,λ_=>rfl,rfl,hR,hc,h⟩
 |goto l=>intro E ro hT hC hF hE fL hp b n S0 w0 refs σ a w S γ R k r hm hL hR hc h;simp[fa]at h
 |refuse y=>intro E ro hT hC hF hE fL hp b n S0 w0 refs σ a w S γ R k r hm hL hR hc h;simp[fa]at h
end
def keyB(es:Array MapEntry):List (Value×Nat):=es.toList.map λe=>(e.key,e.born)
theorem Tc{α:Type}{p q:α->Bool}(h:∀x,q x=true->p x=true):∀l:List α,(l.filter q).length<=(l.filter p).length
 |[]=>jo _
 |x::r=>by
  have ih:=Tc h r;rw[List.filter_cons,List.filter_cons];by_cases hq:q x=true
  .rw[if_pos hq,if_pos (h x hq)];simp only[jl];omega
  .rw[if_neg hq];split
   .simp only[jl];omega
   .exact ih
theorem Td{α:Type}{p q:α->Bool}(h:∀x,q x=true->p x=true):∀l:List α,(∃x∈l,p x=true/\q x≠true)->(l.filter q).length<(l.filter p).length
 |[],hx=>by obtain⟨x,hx,_⟩:=hx;simp at hx
 |y::r,hx=>by
  obtain⟨x,hx,h1,h2⟩:=hx;have hle:=Tc h r;rw[List.filter_cons,List.filter_cons];rcases jc.1 hx with rfl|hx
  .rw[if_neg h2,if_pos h1];simp only[jl];omega
  .have ih:=Td h r ⟨x,hx,h1,h2⟩;by_cases hq:q y=true
   .rw[if_pos hq,if_pos (h y hq)];simp only[jl];omega
   .rw[if_neg hq];split
    .simp only[jl];omega
    .exact ih
theorem Dd(seen:Array Nat)(b x:Nat):(seen.push b).contains x=true↔seen.contains x=true\/x=b:=by
 simp
theorem jt8{ks:List (Value×Nat)}{seen:Array Nat}{b:Nat}(h:∃q∈ks,q.2=b/\seen.contains q.2=false):(ks.filter λq=> !(seen.push b).contains q.2).length<(ks.filter λq=> !seen.contains q.2).length:=by
 refine Td (λx hx=>?_) ks ?_
 .rw[kr]at hx ⊢;cases hs:seen.contains x.2 with
  |false=>rfl
  |true=>have:=(Dd seen b x.2).2 (.inl hs);rw[hx]at this;simp at this
 .obtain⟨q,hq,h1,h2⟩:=h;refine⟨q,hq,by rw[h2];rfl,?_⟩;rw[(Dd seen b q.2).2 (.inr h1)];simp
structure AtR(g r it since clock:Nat)(ks:List (Value×Nat))(es:Array MapEntry)(seen:Array Nat)(a:Go.Act)(w:World):Prop where
 map:w.heap[g]? = some (.map es clock)
 ks:keyB es=ks
 iter:w.heap[r]? = some (.mapIter (some g) since seen clock)
 ptr:tm a it = .pointer (some ⟨r,0,none⟩)
theorem jrA{P:Program}{ro:Option Nat}(fL:ro=none){n0 g r it d1 c2 b since clock rD:Nat}{ks:List (Value×Nat)}{o1 o2:Oper}{body:Code}{Q:Exit->Go.Act->World->Prop}
  (iW:o1.op = .next (.tmp it) false)(pN:o1.dst=some d1)(iz:o1.guard=none)(nw:o2.op = .extract (.tmp d1) 0)(lO:o2.dst=some c2)(ej:o2.guard=none)(hi1:it≠d1)(hi2:it≠c2)(lz:g≠r)
  (AO:since<=clock)(hold:∀q∈ks,q.2<since)(N:Nat)(mF:d1<N)(tI:c2<N)
  (J:Array MapEntry->Array Nat->Go.Act->World->Prop)(hJ:∀es seen a w,J es seen a w->a.tmps.size=N)
  (gf:∀es seen a w v v',AtR g r it since clock ks es seen a w->J es seen a w->(∀x∈es.toList,seen.contains x.born=true)->Q (.exit b) ((a.put (some d1) v).put (some c2) v') w)
  (gz:∀es seen a w w1 v v' e,AtR g r it since clock ks es seen a w->J es seen a w->e∈es.toList->seen.contains e.born=false->(w1=w\/w1=w.drew)->
   AtR g r it since clock ks es (seen.push e.born) ((a.put (some d1) v).put (some c2) v') (ChangeMaps.setBlock w1 r (.mapIter (some g) since (seen.push e.born) clock))->
   body.wpIn (FR ro) n0 P (Exit.then (λa' w'=>∃es',AtR g r it since clock ks es' (seen.push e.born) a' w'/\J es' (seen.push e.born) a' w') Q) ((a.put (some d1) v).put (some c2) v') (ChangeMaps.setBlock w1 r (.mapIter (some g) since (seen.push e.born) clock)))
  {es:Array MapEntry} {seen:Array Nat} {a:Go.Act} {w:World} (h0:AtR g r it since clock ks es seen a w) (sL:J es seen a w) :
  (Code.loop ((Code.region rD #[o1,o2] false).seq ((Code.cond (.tmp c2) .skip (.exit b)).seq body))).wpIn (FR ro) n0 P Q a w:=by
 refine Kt (λn a w=>∃es seen,AtR g r it since clock ks es seen a w/\J es seen a w/\n=(ks.filter λq=> !seen.contains q.2).length) ⟨es,seen,h0,sL,rfl⟩ ?_
 rintro n a w ⟨es,seen,hA,KL,rfl⟩
 subst fL;have bH:=hJ _ _ _ _ KL
 have De:∀x∈es.toList,x.born<since:=λx hx=>by
  have:(x.key,x.born)∈keyB es:=jn.2 ⟨x,hx,rfl⟩;rw[hA.ks]at this;exact hold _ this
 have l7:a.eval (.tmp it) = .pointer (some ⟨r,0,none⟩):=hA.ptr
 have two:∀(v v':Value)(w':World),(execOp a.eval o1).run P w = .ok (.value v) w'->(execOp (a.put (some d1) v).eval o2).run P w' = .ok (.value v') w'->
   ((Code.cond (.tmp c2) .skip (.exit b)).seq body).wpIn (FR none) n0 P (Exit.then (λa' w'=>∃m,m<(ks.filter λq=> !seen.contains q.2).length/\∃es seen,AtR g r it since clock ks es seen a' w'/\J es seen a' w'/\m=(ks.filter λq=> !seen.contains q.2).length) Q) ((a.put (some d1) v).put (some c2) v') w'->
   ((Code.region rD #[o1,o2] false).seq ((Code.cond (.tmp c2) .skip (.exit b)).seq body)).wpIn (FR none) n0 P (Exit.then (λa' w'=>∃m,m<(ks.filter λq=> !seen.contains q.2).length/\∃es seen,AtR g r it since clock ks es seen a' w'/\J es seen a' w'/\m=(ks.filter λq=> !seen.contains q.2).length) Q) a w:=by
  intro v v' w' h1 h2 h3;refine wpIn_seq (wpIn_mono (Q:=λe a' sg=>e = .normal/\a'=(a.put (some d1) v).put (some c2) v'/\sg=w') (wpIn_region (tZ (.inl rfl) (by rintro⟨a,w,h,_⟩;cases h) _ _ _ ?_)) ?_)
  .show wpOps P #[o1,o2] _ [0,1] a w;have e0:(#[o1,o2]:Array Oper)[0]? = some o1:=rfl;have e1:(#[o1,o2]:Array Oper)[1]? = some o2:=rfl;have w0:∀tm,Region.wanted o1 (yielded #[o1,o2] tm)=true:=λtm=>by simp[Region.wanted,iz]
   have w1:∀tm,Region.wanted o2 (yielded #[o1,o2] tm)=true:=λtm=>by simp[Region.wanted,ej]
   simp only[wpOps,e0,e1,w0,w1,if_true];refine .inl ?_;unfold Oper.wp;rw[h1,Oper.upon_value,pN];refine .inl ?_;rw[h2,Oper.upon_value,lO];exact⟨trivial,rfl,rfl⟩
  .rintro e a' sg ⟨rfl,rfl,rfl⟩
   exact h3
 have Df:∀(v:Value)(t:Array Value)(w':World)(x:Value),v = .tuple t->t[0]? = some x->(execOp (a.put (some d1) v).eval o2).run P w' = .ok (.value x) w':=by
  intro v t w' x hv ht;have:(a.put (some d1) v).eval (.tmp d1)=v:=by show tm (a.put (some d1) v) d1=v;rw[nA (by omega),if_pos rfl]
  subst hv;simp only[execOp,nw,this,Instr.extract,ht];simp
 have iV:∀v v',(((a.put (some d1) v).put (some c2) v').eval (.tmp c2))=v':=λv v'=>by
  show tm _ c2=v';rw[nA (by rw[pU];omega),if_pos rfl]
 rcases run_next_at (P:=P) w o1.type r g since clock seen es clock hA.iter hA.map De AO with⟨h0,aq⟩|⟨e,he,w1,mH,aq⟩
 .refine two (.tuple #[.bool false]) (.bool false) w (by simp[execOp,iW,l7,aq,Result.andThen]) (Df (.tuple #[.bool false]) #[.bool false] w (.bool false) rfl rfl) (wpIn_seq (wpIn_cond_false (iV _ _) (wpIn_exit ?_)));refine gf es seen a w _ _ hA KL (λx hx=>?_);cases hs:seen.contains x.born with
  |true=>rfl
  |false=>
   have mM:x∈(leftOf es seen).toList:=by unfold leftOf;rw[Array.toList_filter];exact qx.2 ⟨hx,by rw[hs];rfl⟩
   have:(leftOf es seen).toList=[]:=zj.1 (by simpa using h0);rw[this]at mM;simp at mM
 .have fg:e∈es.toList/\seen.contains e.born=false:=by unfold leftOf at he;simpa using he
  have kC:AtR g r it since clock ks es (seen.push e.born) ((a.put (some d1) (.tuple #[.bool true,e.key,e.val])).put (some c2) (.bool true)) (ChangeMaps.setBlock w1 r (.mapIter (some g) since (seen.push e.born) clock)):=by
   have gp:w1.heap[g]? = some (.map es clock):=by rcases mH with rfl|rfl<;>exact hA.map
   have KM:w1.heap[r]? = some (.mapIter (some g) since seen clock):=by rcases mH with rfl|rfl<;>exact hA.iter
   have ak:r<w1.heap.size:=(je.1 KM).1;refine⟨?_,hA.ks,?_,?_⟩
   .show (w1.heap.setIfInBounds r _)[g]? = _;rw[Array.getElem?_setIfInBounds_ne (Ne.symm lz)];exact gp
   .show (w1.heap.setIfInBounds r _)[r]? = _;rw[Array.getElem?_setIfInBounds_self_of_lt ak]
   .rw[nA (by rw[pU];omega),if_neg hi2,nA (by omega),if_neg hi1];exact hA.ptr
  refine two (.tuple #[.bool true,e.key,e.val]) (.bool true) (ChangeMaps.setBlock w1 r (.mapIter (some g) since (seen.push e.born) clock)) (by simp[execOp,iW,l7,aq,Result.andThen]) (Df (.tuple #[.bool true,e.key,e.val]) #[.bool true,e.key,e.val] _ (.bool true) rfl rfl) (wpIn_seq (wpIn_cond_true (iV _ _) (wpIn_skip ?_)));refine wpIn_mono (gz es seen a w w1 _ _ e hA KL fg.1 fg.2 mH kC) ?_;intro ex a' w' hq;cases ex with
  |normal=>obtain⟨es',q1,q2⟩:=hq;exact⟨_,jt8 (ks:=ks) (seen:=seen) (b:=e.born) ⟨(e.key,e.born),by rw[<-hA.ks];exact jn.2 ⟨e,fg.1,rfl⟩,rfl,fg.2⟩,es',seen.push e.born,q1,q2,rfl⟩
  |_=>exact hq
section
variable{N:NT}{np:Nat}{S0:ay}{w0:World}{refs:Refs}{σ:St}{a:Go.Act}{w:World}{S:ay}{γ:Nat->Value}
theorem Te{P:Program}{E:Env}(hT:ca P E.T)(hC:iU P E.C){ops:Array Oper}(bW:bare ops=true){R:Type}{k:St->Option R}{r:R}{Q:Exit->Go.Act->World->Prop}{rest:List Nat}
  (hn:∀σ' a' w' S' γ',Rel E.N E.np S0 w0 refs σ' a' w' S' γ'->cN σ'->k σ'=some r->wpOps P ops Q rest a' w') :
  ∀(n i:Nat)(σ:St)(a:Go.Act)(w:World)(S:ay)(γ:Nat->Value),i+n<=ops.size->Rel E.N E.np S0 w0 refs σ a w S γ->cN σ->mz E ((ops.toList.drop i).take n) σ k=some r->
   wpOps P ops Q (List.range' i n++rest) a w
 |0,i,σ,a,w,S,γ,hi,hR,hc,h=>by
  rw[List.take_zero]at h;exact hn _ _ _ _ _ hR hc h
 |n+1,i,σ,a,w,S,γ,hi,hR,hc,h=>by
  have ak:i<ops.size:=by omega
  rw[jb (by simpa using ak),List.take_succ_cons]at h;simp only[mz]at h;split at h
  .rename_i hd;have ho:ops[i]? = some ops[i]:=jr ak;simp only[zt,zb,wpOps,ho];have hg:ops[i].guard=none:=by have:=jq.1 bW ops[i] (by simp);simpa using this
   have hw:Region.wanted ops[i] (yielded ops a.tmps)=true:=by simp[Region.wanted,hg]
   simp only[hw,if_true];refine .inl (AF hT hC hR (act:=[]) (λg hg=>by simp at hg) (p:=false) (λ_=>hc) (by simpa using hd) (by simpa using h) (λσ' a' w' S' γ' bN cI hk=>?_));exact Te hT hC bW hn n (i+1) σ' a' w' S' γ' (by omega) bN (cI rfl) hk
  .simp at h
theorem Tf{β:Type}:∀{zs:List (Int×β)}{j:Nat}{x:Int×β},(zs.map λx=>x.1).Nodup->zs[j]? = some x->∀y,@dO _ _ (Ty.int .i64).keq zs x.1 y=zs.set j (x.1,y)
 |[],j,x,_,h,y=>by simp at h
 |z::r,0,x,_,h,y=>by
  have h:z=x:=by simpa using h
  subst h;show cond ((z.1:Int)==z.1) ((z.1,y)::r) _=(z.1,y)::r;rw[qe];rfl
 |z::r,j+1,x,hn,h,y=>by
  have h:r[j]? = some x:=by simpa using h
  have hc:=q8.1 (show (z.1::r.map λx=>x.1).Nodup from hn);have aN:¬(x.1:Int)=z.1:=λhe=>hc.1 (he▸jn.2 ⟨x,jy h,rfl⟩);show cond ((x.1:Int)==z.1) _ (z::@dO _ _ (Ty.int .i64).keq r x.1 y)=z::r.set j (x.1,y);rw[beq_false_of_ne aN,j6,Tf hc.2 h y]
theorem Tg(hR:Rel N np S0 w0 refs σ a w S γ){nm em:Nat}{v:Ty}{zs:List (Int×v.den)}(tT:isM em=true)(hb:σ.bx nm = .live (.lst em (.pair (.int .i64) v) zs false)) :
  ∃g es clock,γ nm = .map (some g)/\w.heap[g]? = some (.map es clock)/\All2 (xD S w (.int .i64) v) zs es.toList/\uY es clock:=by
 rcases (hR.box nm _ hb).1 with⟨hm,_⟩|⟨_,hm⟩
 .rw[tT]at hm;simp at hm
 .exact hm
theorem Th{es:Array MapEntry}{clock:Nat}(h:uY es clock){j:Nat}{e:MapEntry}(he:es.toList[j]? = some e):e.born=j:=by
 have h1:(es.toList.map (·.born))[j]? = some e.born:=by simp[he]
 rw[h.2]at h1;have h2:=(jt.1 h1).2;simpa using h2.symm
theorem Dg{es:Array MapEntry}{clock:Nat}(h:uY es clock):es.toList.length=clock:=by
 have:=jj List.length h.2;simpa using this
theorem jxb{es es':Array MapEntry}(h1:es'.toList.map (·.key)=es.toList.map (·.key))(h2:es'.toList.map (·.born)=es.toList.map (·.born)):keyB es'=keyB es:=by
 have hz:∀es:Array MapEntry,keyB es=(es.toList.map (·.key)).zip (es.toList.map (·.born)):=λes=>by
  unfold keyB;rw[List.zip_map']
 rw[hz,hz,h1,h2]
structure Mix{β:Type}(xs ys:List (Int×β))(seen:Array Nat)(zs:List (Int×β)):Prop where
 len:zs.length=xs.length
 get:∀i,zs[i]? = if seen.contains i=true then ys[i]? else xs[i]?
theorem jt9{β:Type}{Z:Int×β->Int×β->Prop}:∀{xs ys:List (Int×β)},All2 (λx y=>y.1=x.1/\Z x y) xs ys->xs.length=ys.length/\∀(j:Nat)(x:Int×β),xs[j]? = some x->∃y,ys[j]? = some y/\y.1=x.1/\Z x y:=
 λh=>⟨h.length,λj x hx=>h.get j x hx⟩
theorem jyf{b:Nat}{c:Code}{p:MrP}(h:mrP b c=some p):∃rD r3 o1 o2 o3,c = .seq (.region rD #[o1,o2] false) (.seq (.cond (.tmp p.c2) .skip (.exit b)) (.block p.b6 (.seq (.region r3 p.ops false) p.rest)))/\
  o1.op = .next (.tmp p.it) false/\o1.dst=some p.d1/\o1.guard=none/\o2.op = .extract (.tmp p.d1) 0/\o2.dst=some p.c2/\o2.guard=none/\p.ops[0]? = some o3/\o3.op = .entry (.tmp p.it)/\o3.dst=some p.d3/\o3.guard=none:=by
 unfold mrP at h;split at h
 case h_2=>simp at h
 rename_i rD ops c b' b6 r3 s5 rest;split at h
 case h_2=>simp at h
 rename_i o1 o2 o3 l3 nH Dh;split at h
 case h_2=>simp at h
 rename_i it d1 QC c2 QD d3 h1 h2 h3;split at h
 case isFalse=>simp at h
 rename_i bM;obtain⟨rfl,rfl,rfl,rfl⟩:=bM;simp only[j4]at h;subst h;have nH:ops = #[o1,o2]:=kq (by simpa using nH);subst nH;have e3:s5[0]? = some o3:=by rw[<-kz,Dh];rfl
 unfold QB at h1;split at h1
 case h_2=>simp at h1
 rename_i q1 q2 q3;simp only[j4,j8]at h1;obtain⟨rfl,rfl⟩:=h1;unfold fstO at h2;split at h2
 case h_2=>simp at h2
 rename_i p1 p2 p3;simp only[j4,j8]at h2;obtain⟨rfl,rfl⟩:=h2;unfold entO at h3;split at h3
 case h_2=>simp at h3
 rename_i s1 s2 s3;simp only[j4,j8]at h3;obtain⟨rfl,rfl⟩:=h3;exact⟨rD,r3,o1,o2,o3,rfl,q1,q2,q3,p1,p2,p3,e3,s1,s2,s3⟩
theorem nbeq{i j:Nat}(h:Nat.beq i j=false):i≠j:=by
 rintro rfl
 rw[Nat.beq_refl]at h;simp at h
theorem beqF{i j:Nat}(h:i≠j):Nat.beq i j=false:=by
 cases hq:Nat.beq i j with
 |false=>rfl
 |true=>exact absurd (vj hq) h
theorem jve{P:Program}(gC:P.follows .mixedOrders=true)(AN:Nat->Option (Nat×Nat)):MrS P AN:=by
 intro E hE hT hC hF ib kY x y b n pl S0 w0 refs σ a w S γ R k r hm hMO hR hc rE h;unfold BT at h;split at h
 case h_2=>simp at h
 rename_i rD ops bl c;split at h
 case h_2=>simp at h
 rename_i m nm p o Db hp dC;split at h
 case h_2=>simp at h
 rename_i t m1 it bL C2;cases pM:(bare ops&&(Nat.beq it p.it&&(mrC E bl p m&&(qE E.T t).isSome))) with
 |false=>rw[pM]at h;simp at h
 |true=>
 rw[pM,j5]at h;simp only[ja]at pM;obtain⟨bW,vX,Am,aW⟩:=pM;obtain rfl:it=p.it:=vj vX;have hMK:=hMO (bl,c) (by simp[fq]) m nm p Db hp;unfold mrC at Am;simp only[ja,kr,qb,kj]at Am;obtain⟨hb3,Di,n1,n2,n3,n4,n5,n6,n7,l1,l2,l3,l4,k1,k2,k3⟩:=Am;have n1:=nbeq n1;have n2:=nbeq n2;have n3:=nbeq n3;have n4:=nbeq n4;have n5:=nbeq n5;have n6:=nbeq n6;have n7:=nbeq n7;have l1:p.it<E.N.n:=ql l1;have l2:p.d1<E.N.n:=ql l2;have l3:p.c2<E.N.n:=ql l3;have l4:p.d3<E.N.n:=ql l4;obtain⟨rid1,r3,o1,o2,o3,KN,q1,q2,q3,p1,p2,p3,e3,s1,s2,s3⟩:=jyf hp;refine wpIn_seq (wpIn_mono (Q:=λe a2 w2=>e = .normal/\(Code.block bl (.loop c)).wpIn (FR none) n P (Post E S0 w0 refs pl k r) a2 w2) (wpIn_region (tZ (.inl rfl) (by rintro⟨a,w,h,_⟩;cases h) _ _ _ ?_)) ?_)
 rotate_left
 .rintro e a2 w2 ⟨rfl,h⟩;exact h
 obtain⟨pre,rF⟩:=List.getLast?_eq_some_iff.1 dC;have bH:ops.size=pre.length+1:=by rw[<-qd,rF];simp
 rw[List.range_eq_range',bH,List.range'_concat];refine Te hT hC bW (k:=mrGo E bl m m1 k) (r:=r) (λσ1 a1 w1 S1 γ1 aU fc nn=>?_) pre.length 0 σ a w S γ (by omega) hR hc (by rw[rF,List.dropLast_concat]at h;rw[rF,k5,ye];exact h;rfl);have ho:ops[0+1*pre.length]? = some o:=by rw[<-kz,rF];simp
 have hg:o.guard=none:=by have:=jq.1 bW o (by rw[rF];simp);simpa using this
 have hw:Region.wanted o (yielded ops a1.tmps)=true:=by simp[Region.wanted,hg]
 simp only[wpOps,ho,hw,if_true];refine .inl ?_;unfold mrGo at nn;split at nn
 case h_2=>simp at nn
 rename_i bm Ti gp hmm;cases wk:(Nat.beq bm Ti&&I2 (σ1.bx bm)) with
 |false=>rw[wk]at nn;simp at nn
 |true=>
 rw[wk,j5]at nn;simp only[ja]at wk;obtain⟨GJ,KO⟩:=wk;obtain rfl:bm=Ti:=vj GJ;split at nn
 case h_2=>simp at nn
 rename_i s hs;obtain⟨em,v,xs,ys,tT,SP,AP,ud,hk⟩:=hMK s R _ r nn;obtain⟨S2,γ2,bU,gW⟩:=sG aU fc hs;rw[SP]at bU gW;obtain⟨g,es,clock,ej,As,Dj,cM⟩:=Tg bU tT (AP xs).1
 have hlv:∃bx,σ1.bx bm = .live bx:=by
  unfold I2 at KO;split at KO
  .rename_i hb;exact⟨_,hb⟩
  .simp at KO
 obtain⟨bx,er⟩:=hlv;have CA:tm a1 m1=γ1 bm:=by have:=aU.slot m1;rw[gp]at this;exact this.1.2.2 _ er
 have xX:tm a1 m=γ1 bm:=by have:=aU.slot m;rw[hmm]at this;exact this.1.2.2 _ er
 have hv3:tm a1 m=γ2 nm:=by have:=bU.slot m;rw[(AP xs).2]at this;exact this.1.2.2 _ (AP xs).1
 have Aw:tm a1 m = .map (some g):=hv3.trans ej;have l7:a1.eval (.tmp m1) = .map (some g):=CA.trans (xX.symm.trans Aw)
 obtain⟨ky,kv,hkv⟩:∃ky kv,qE E.T t=some (ky,kv):=by
  cases hq:qE E.T t with
  |none=>rw[hq]at aW;simp at aW
  |some q=>exact⟨q.1,q.2,rfl⟩
 obtain⟨kt,vt,tv,ga,_⟩:=JV hT hkv;have aq:=run_range_map (P:=P) w1 t kt vt g es clock ga As;obtain⟨rr,KP⟩:∃rr,rr=w1.heap.size:=⟨_,rfl⟩;rw[<-KP]at aq;have ov:(execOp a1.eval o).run P w1 = .ok (.value (.pointer (some ⟨rr,0,none⟩))) (w1.alloc (.mapIter (some g) clock #[] clock)):=by simp[execOp,bL,l7,aq,Result.andThen]
 unfold Oper.wp;rw[ov,Oper.upon_value,C2];refine⟨trivial,?_⟩;let fx:Nat->Option Value:=λi=>if i=p.it then some (.pointer (some ⟨rr,0,none⟩)) else if i=m then some (.map (some g)) else none
 let eR:Array Nat->Refs:=λseen=>{ blks:=refs.blks,val:=refs.val,ds:=refs.ds,kw:=λx=>if x=rr then some (.mapIter (some g) clock seen clock) else refs.kw x,fix:=fx,mv:=refs.mv }
 let N':NT:=(E.mrE p.it m).N
 have nh:refs.kw rr=none:=aU.kw_new (by omega);have hwr:w0.heap.size<=rr:=by have:=aU.grow;omega
 have aV:∀seen,xW w0 (eR seen):=λseen=>⟨hm.1,λd hd=>by
  obtain⟨D,hD,GM,AM⟩:=hm.2 d hd;refine⟨D,hD,GM,?_⟩;show (if D=rr then _ else refs.kw D)=_;rw[if_neg,AM]
  rintro rfl
  rw[nh]at AM;simp at AM⟩
 have lz:g≠rr:=by have:=(je.1 As).1;omega
 have jF:∀{seen seen':Array Nat}{σ:St}{a:Go.Act}{W:World}{S:ay}{γ:Nat->Value},Rel N' E.np S0 w0 (eR seen) σ a W S γ->Rel N' E.np S0 w0 (eR seen') σ a (W.putObj rr (.mapIter (some g) clock seen' clock)) S γ:=by
  intro seen seen' σ a W S γ hR;have:=hR.putO (l:=rr) (o:= .mapIter (some g) clock seen clock) (o':= .mapIter (some g) clock seen' clock) (by simp[eR]) hwr rfl rfl;refine this.swap rfl rfl this.size this.defers this.slot (λg u hg=>this.kept g u ?_) this.fix;simp only[eR]at hg ⊢;split
  .rename_i e;subst e;simpa using hg
  .rename_i e;simpa[e]using hg
 have KQ:N'.pin p.it=true:=by show (Nat.beq p.it p.it||Nat.beq p.it m)=true;rw[Nat.beq_refl];rfl
 have tY:N'.pin m=true:=by show (Nat.beq m p.it||Nat.beq m m)=true;rw[Nat.beq_refl,Bool.or_true]
 have Tj:∀{a':Go.Act},tm a' p.it = .pointer (some ⟨rr,0,none⟩)->tm a' m = .map (some g)->∀i u,fx i=some u->N'.pin i=true/\a'.tmps.getD i undef=u:=by
  intro a' h1 h2 i u hu;simp only[fx]at hu;split at hu
  .rename_i e;subst e;simp only[j4]at hu;exact⟨KQ,h1.trans hu⟩
  .split at hu
   .rename_i e;subst e;simp only[j4]at hu;exact⟨tY,h2.trans hu⟩
   .simp at hu
 have KR:a1.tmps.size=E.N.n:=aU.size;let a2:Go.Act:=a1.put (some p.it) (.pointer (some ⟨rr,0,none⟩))
 have AQ:∀j,tm a2 j=if j=p.it then .pointer (some ⟨rr,0,none⟩) else tm a1 j:=λj=>nA (by omega) _ j
 have hRL:Rel N' E.np S0 w0 (eR #[]) (cw E.np (E.keep bl) (gv s em v xs)) a2 (w1.alloc (.mapIter (some g) clock #[] clock)) S2 γ2:=by
  have hA:=bU.allocO (.mapIter (some g) clock #[] clock);refine hA.frame rfl rfl ((pU _ _).trans KR) ((vS _ _).trans aU.defers) (λi hi=>?_) (λg' u ah=>?_) (Tj ?_ ?_)
  .have z:i≠p.it:=λe=>k1 (e▸hi);rw[AQ,if_neg z]
  .simp only[eR]at ah;split at ah
   .rename_i e';simp only[j4]at ah;subst ah;rw[e',KP];refine⟨World.alloc_heap_new _ _,λk' b' ax cJ=>?_⟩;have:=iR (bU.box k' b' ax) cJ;omega
   .exact hA.kept g' u ah
  .rw[AQ,if_pos rfl]
  .rw[AQ,if_neg n4];exact Aw
 have KS:AtR g rr p.it clock clock (keyB es) es #[] a2 (w1.alloc (.mapIter (some g) clock #[] clock)):=by
  refine⟨(heap_alloc_old _ _ (je.1 As).1).trans As,rfl,?_,?_⟩
  .rw[KP];exact World.alloc_heap_new _ _
  .rw[AQ,if_pos rfl]
 let J:Array MapEntry->Array Nat->Go.Act->World->Prop:=λes' seen a w=>∃(zs:List (Int×v.den))(S:ay)(γ:Nat->Value),Rel N' E.np S0 w0 (eR seen) (cw E.np (E.keep bl) (gv s em v zs)) a w S γ/\
  cN (cw E.np (E.keep bl) (gv s em v zs))/\Mix xs ys seen zs/\uY es' clock
 have om:xs.length=clock:=by rw[Dj.length,Dg cM]
 obtain⟨hxyl,KT⟩:=jt9 ud;have sL:J es #[] a2 (w1.alloc (.mapIter (some g) clock #[] clock)):=⟨xs,S2,γ2,hRL,gW,⟨rfl,λi=>by simp⟩,cM⟩
 have Tk:∀{es':Array MapEntry}{seen:Array Nat}{a:Go.Act}{w:World}{zs:List (Int×v.den)}{S:ay}{γ:Nat->Value},Rel N' E.np S0 w0 (eR seen) (cw E.np (E.keep bl) (gv s em v zs)) a w S γ->
   ∃es' eF,γ nm = .map (some g)/\w.heap[g]? = some (.map es' eF)/\All2 (xD S w (.int .i64) v) zs es'.toList/\uY es' eF:=by
  intro es' seen a w zs S γ hR;obtain⟨g',es',eF,h1,h2,h3,h4⟩:=Tg hR tT (AP zs).1;have h5:tm a m=γ nm:=by have:=hR.slot m;rw[(AP zs).2]at this;exact this.1.2.2 _ (AP zs).1
  have h6:tm a m = .map (some g):=(hR.fix m (.map (some g)) (by show (if m=p.it then _ else if m=m then _ else _)=_;rw[if_neg n4,if_pos rfl])).2;have:g'=g:=by rw[h5,h1]at h6;simpa using h6
  subst this;exact⟨es',eF,h1,h2,h3,h4⟩
 subst KN
 refine wpIn_block (wpIn_mono (jrA (P:=P) (ro:=none) rfl (Q:=λe a' w'=>e = .exit bl/\∃S' γ',Rel E.N E.np S0 w0 refs (cw E.np (E.keep bl) (gv s em v ys)) a' w' S' γ'/\cN (cw E.np (E.keep bl) (gv s em v ys)))
  q1 q2 q3 p1 p2 p3 n1 n2 lz (jo clock) (λq hq=>?_) E.N.n l2 l3 J (λes' seen a' w' hJ=>?_) ?_ ?_ KS sL) ?_)
 .obtain⟨e,he,rfl⟩:=jn.1 hq;exact cM.1.1 e he
 .obtain⟨zs,S',γ',bN,_⟩:=hJ;exact bN.size
 ·-- the end
  rintro es' seen a' w' u u' hA ⟨zs,S',γ',bN,cI,iI,qN⟩ dL
  have CD:zs=ys:=by
   refine zm λi=>?_;rw[iI.get i];split
   .rfl
   .rename_i AR;by_cases hi:i<clock
    .exfalso;have ak:i<es'.toList.length:=by rw[Dg qN];exact hi
     have hb:=Th qN (jk ak);have:=dL _ (ji ak);rw[hb]at this;exact AR this
    .rw[qk (by omega),qk (by omega)]
  subst CD;refine⟨rfl,S',γ',bN.frame rfl rfl ?_ ?_ (λi hi=>?_) (λg' o' ah=>?_) (λi u hu=>?_),cI⟩
  .rw[pU,pU];exact bN.size
  .rw[vS,vS];exact bN.defers
  .have z1:i≠p.c2:=λe=>k3 (e▸hi);have z2:i≠p.d1:=λe=>k2 (e▸hi);have z3:a'.tmps.size=E.N.n:=bN.size;rw[nA (by rw[pU];omega),if_neg z1,nA (by omega),if_neg z2]
  .refine bN.kept g' o' ?_;show (if g'=rr then _ else refs.kw g')=_;rw[if_neg]
   .exact ah
   .rintro rfl
    rw[nh]at ah;simp at ah
  .have:=(hR.fix i u hu).1;rw[kY]at this;simp at this
 ·-- a round
  rintro es' seen a' w' Dk u u' e hA ⟨zs,S',γ',bN,cI,iI,qN⟩ he AR mH kC
  have KU:a'.tmps.size=E.N.n:=bN.size;obtain⟨GN,dA,hg2',KV,dL,kD⟩:=Tk (es':=es') bN;have:GN=es'/\dA=clock:=by have:=hA.map;rw[KV]at this;simpa using this
  obtain⟨rfl,rfl⟩:=this;obtain⟨j,hj⟩:=qy.1 he;have yo:e.born=j:=Th kD hj;have Aq:j<xs.length:=by have:=(jt.1 hj).1;rw[om,<-Dg kD];exact this
  have xF:zs[j]? = xs[j]? := by
   rw[iI.get j,if_neg];rw[<-yo,AR];simp
  obtain⟨x,hx⟩:∃x,xs[j]? = some x:=⟨_,jk Aq⟩;obtain⟨e',AA,AS,tA⟩:=dL.get j x (xF.trans hx);obtain rfl:e'=e:=by rw[hj]at AA;exact(Option.some.inj AA).symm
  obtain⟨y,hy,Tl,x8⟩:=KT j x hx;have dv:(zs.map λx=>x.1).Nodup:=by have h1:=kD.1.2.2;rw[C0 dL]at h1;exact(List.pairwise_map.1 h1).imp λh e=>h (by rw[e])
  have Tm:Rel N' E.np S0 w0 (eR seen) (cw E.np (E.keep bl) (gv s em v zs)) a' Dk S' γ':=by
   rcases mH with rfl|rfl
   .exact bN
   .exact bN.drawn _
  have KW:VRep S' Dk ⟨v,x.2⟩ e'.val:=by
   rcases mH with rfl|rfl
   .exact tA
   .exact VRep.keep (S:=S') (w:=w') (S':=S') (w':=w'.drew) (λg o hs=>⟨hs,rfl⟩) tA
  have KX:=jF (seen':=seen.push e'.born) Tm;obtain⟨w2,wm⟩:∃w2,Dk.putObj rr (.mapIter (some g) dA (seen.push e'.born) dA)=w2:=⟨_,rfl⟩;have kC:AtR g rr p.it dA dA (keyB es) GN (seen.push e'.born) ((a'.put (some p.d1) u).put (some p.c2) u') w2:=by rw[<-wm];exact kC
  show (Code.block p.b6 _).wpIn (FR none) n P _ _ (Dk.putObj rr (.mapIter (some g) dA (seen.push e'.born) dA));rw[wm]at KX ⊢;obtain⟨a3,GO⟩:∃a3,(a'.put (some p.d1) u).put (some p.c2) u'=a3:=⟨_,rfl⟩;rw[GO]at kC ⊢
  have KY:∀j,tm a3 j=if j=p.c2 then u' else if j=p.d1 then u else tm a' j:=λj=>by
   rw[<-GO,nA (by rw[pU];omega),nA (by omega)]
  have KZ:a3.tmps.size=E.N.n:=by rw[<-GO,pU,pU];exact KU
  have u4:tm a' p.it = .pointer (some ⟨rr,0,none⟩):=hA.ptr;have tW:tm a' m = .map (some g):=(bN.fix m (.map (some g)) (by show (if m=p.it then _ else if m=m then _ else _)=_;rw[if_neg n4,if_pos rfl])).2
  have eY:Rel N' E.np S0 w0 (eR (seen.push e'.born)) (cw E.np (E.keep bl) (gv s em v zs)) a3 w2 S' γ':=by
   refine KX.frame rfl rfl KZ (by rw[<-GO,vS,vS];exact bN.defers) (λi hi=>?_) (λg' o' ah=>KX.kept g' o' ah) (Tj ?_ ?_)
   .have z1:i≠p.c2:=λe=>k3 (e▸hi);have z2:i≠p.d1:=λe=>k2 (e▸hi);rw[KY,if_neg z1,if_neg z2]
   .rw[KY,if_neg n2,if_neg n1];exact u4
   .rw[KY,if_neg n6,if_neg n5];exact tW
  have tJ:dz S' Dk S' w2:=λg' o' dP=>by
   refine⟨dP,?_⟩;have hq:=(Tm.kept rr (.mapIter (some g) dA seen dA) (by show (if rr=rr then _ else _)=_;rw[if_pos rfl])).1;by_cases sr:g'=rr
   .subst sr;rw[GG hq rfl,<-wm,GG (World.putObj_heap_same (je.1 hq).1) rfl]
   .rw[<-wm];exact World.cell?_of_block (World.putObj_heap_other sr)
  have ue:e'.key = .int .i64 x.1:=by have:[e'.key]=[Value.int .i64 x.1]:=AS;simpa using this
  have K3:=run_entry_at (P:=P) w2 rr g dA seen GN dA e' kC.iter kC.map he kD.1.2.1;have K4:a3.eval (.tmp p.it) = .pointer (some ⟨rr,0,none⟩):=kC.ptr;have Dl:(execOp a3.eval o3).run P w2 = .ok (.value (.tuple #[e'.key,e'.val])) w2:=by simp[execOp,s1,K4,K3,Result.andThen]
  obtain⟨mJ,mK⟩:=AE eY cI (dst:=some p.d3) (λd hd=>by
   simp only[j4]at hd;subst hd;refine⟨l4,?_⟩;show (Nat.beq p.d3 p.it||Nat.beq p.d3 m)=false;rw[vq];exact⟨beqF (Ne.symm n3),beqF (Ne.symm n7)⟩) (s:= .tup [.one (.d (.int .i64) x.1),nZ v x.2]) (v:= .tuple #[e'.key,e'.val]) (by
   refine⟨#[e'.key,e'.val],rfl,⟨AS,λ_=>by rw[ue];rfl⟩,?_,trivial⟩;exact xw (x:=⟨v,x.2⟩) (VRep.keep tJ KW)) rfl
  have Dm:=x8 zs;unfold Ac at Dm;have K5:p.ops.size=(p.ops.size-1)+1:=by have:=(je.1 e3).1;omega
  have hw3:Region.wanted o3 (yielded p.ops a3.tmps)=true:=by simp[Region.wanted,s3]
  have K6:MrS P (λ_=>none):=by
   intro E hE _ _ _ _ _ x y _ _ _ _ _ _ _ _ _ _ _ _ _ _ _ _ _ _ rE _;unfold Aa at rE;split at rE
   .rw[hE]at rE;simp at rE
   .simp at rE
  have cU:=Ta gC K6 p.rest (E:=E.mrE p.it m) (ro:=none) hT hC hF rfl ib (.inl Di)
  refine wpIn_block (wpIn_seq (wpIn_mono (Q:=λe4 a4 w4=>e4 = .normal/\p.rest.wpIn (FR none) n P (Post (E.mrE p.it m) S0 w0 (eR (seen.push e'.born)) (dy p.rest) (λe σ2=>cond (mrNx p.b6 e) (match iv E.np (E.keep bl) σ2 with
   |some s'=>some s'
   |none=>none) none) (gv s em v (@dO _ _ (Ty.int .i64).keq zs x.1 y.2))) a4 w4) (wpIn_region (tZ (.inl rfl) (by rintro⟨a,w,h,_⟩;cases h) _ _ _ ?_)) ?_))
  .rw[List.range_eq_range',K5,zt];simp only[wpOps,e3,hw3,if_true];refine .inl ?_;unfold Oper.wp;rw[Dl,Oper.upon_value,s2];refine J2 (E:=E.mrE p.it m) hT hC hb3 (λσ' a' w' S' γ' h1 h2 h3=>⟨rfl,cU p.b6 n (aV _) (by rw[ub _ _ Di];simp) h1 h2 h3⟩) (p.ops.size-1) 1 _ _ _ _ _ (by omega) mJ mK ?_;rw[List.drop_one];exact Dm
  rintro e4 a4 w4 ⟨rfl,h4⟩
  refine wpIn_mono h4 ?_
  rintro e5 a5 w5 ⟨Tn,ex,σ5,S5,γ5,_,K7,rfl,mL,x9,kB⟩
  have:=K7 Di;subst this;dsimp only at kB;cases uf:mrNx p.b6 ex with
  |false=>rw[uf]at kB;simp at kB
  |true=>
  rw[uf,j5]at kB;split at kB
  case h_2=>simp at kB
  rename_i s6 hs6;simp only[j4]at kB;subst kB;obtain⟨S6,γ6,o8,hc6⟩:=sG mL x9 hs6
  have tw:∀Q:Exit->Go.Act->World->Prop,Q .normal a5 w5->Exit.inBlock p.b6 Q (exOf ex) a5 w5:=by
   intro Q hQ;cases ex with
   |normal=>exact hQ
   |exit i=>have:i=p.b6:=vj uf;simp only[exOf,Exit.inBlock,this,if_true];exact hQ
   |ret=>simp[mrNx]at uf
  refine tw _ ?_;obtain⟨es3,nI,Gb,hh3,wo,rG⟩:=Tk (es':=GN) o8;have lP:@dO _ _ (Ty.int .i64).keq zs x.1 y.2=zs.set j y:=by rw[Tf dv (xF.trans hx) y.2,<-Tl]
  have iH:(@dO _ _ (Ty.int .i64).keq zs x.1 y.2).map (λx=>x.1)=zs.map λx=>x.1:=by
   rw[lP,List.map_set,Tl];refine zm λi=>?_;rw[List.getElem?_set];split
   .rename_i dG;subst dG;rw[qf,xF.trans hx];rw[if_pos (by rw[ka,iI.len];exact Aq)];rfl
   .rfl
  have wq:nI=dA:=by rw[<-Dg rG,<-wo.length,<-Dg kD,<-dL.length,lP,zp]
  subst wq;refine⟨es3,⟨hh3,?_,?_,?_⟩,_,S6,γ6,o8,hc6,⟨?_,λi=>?_⟩,rG⟩
  .rw[<-hA.ks];exact jxb (by rw[C0 wo,C0 dL,iH]) (by rw[rG.2,kD.2])
  .exact(o8.kept rr (.mapIter (some g) nI (seen.push e'.born) nI) (by show (if rr=rr then _ else _)=_;rw[if_pos rfl])).1
  .exact(o8.fix p.it (.pointer (some ⟨rr,0,none⟩)) (by show (if p.it=p.it then _ else _)=_;rw[if_pos rfl])).2
  .rw[lP,zp];exact iI.len
  .rw[lP,List.getElem?_set];by_cases dG:j=i
   .subst dG;rw[if_pos rfl,if_pos (by rw[iI.len];exact Aq),if_pos ((Dd _ _ _).2 (.inr yo.symm))];exact hy.symm
   .rw[if_neg dG,iI.get i];by_cases GP:seen.contains i=true
    .rw[if_pos GP,if_pos ((Dd _ _ _).2 (.inl GP))]
    .rw[if_neg GP,if_neg];intro hq;rcases (Dd _ _ _).1 hq with hq|hq
     .exact GP hq
     .exact dG (by rw[hq,yo])
 .rintro e a' w' ⟨rfl,S',γ',bN,cI⟩
  simp only[Exit.inBlock,if_true];exact⟨refs,.normal,_,S',γ',⟨rfl,rfl,rfl,hm,rfl⟩,λ_=>rfl,rfl,bN,cI,hk⟩
theorem jrB{P:Program}(gC:P.follows .mixedOrders=true)(c:Code){E:Env}{ro:Option Nat}(hT:ca P E.T)(hC:iU P E.C)(hF:CFun E.C)(ib:∀f t,E.bw f=some t->BwK P f t)
 (hq:dy c=true\/(ro=none/\E.N.pin=λ_=>false)):GK P E ro c:=Ta gC (jve gC E.mr) c hT hC hF rfl ib hq
end
section
variable{N:NT}{np:Nat}{S0:ay}{w0:World}{refs:Refs}{σ:St}{a:Go.Act}{w:World}{S:ay}{γ:Nat->Value}
def yp:Arg->Bool
 |.ref _=>true
 |.rl _ _=>true
 |_=>false
def Dn(args:List Arg)(vals:List Value)(k:Nat):Option Value:=
 if k%64=0 then match args[k/64]? with
  |some x=>if yp x then vals[k/64]? else none
  |none=>none
 else none
def o9(args:List Arg)(vals:List Value):Refs:={ blks:=dR args vals,val:=Dn args vals,mv:=mvOf args vals }
def γ0(vals:List Value)(k:Nat):Value:=vals.getD (k/64) undef
theorem Dp:∀{as:List Arg}{us:List Value}{i:Nat}{x:Arg}{u:Value}{g:Nat},as[i]? = some x->us[i]? = some u->jW x u=some g->g∈dR as us
 |y::as,v::us,0,x,u,g,h,h',hg=>by
  simp at h h';subst h;subst h';simp[dR,hg]
 |y::as,v::us,i+1,x,u,g,h,h',hg=>by
  have:=Dp (as:=as) (us:=us) (i:=i) (by simpa using h) (by simpa using h') hg;simp[dR,this]
 |[],_,_,_,_,_,h,_,_=>by simp at h
 |_::_,[],_,_,_,_,_,h',_=>by simp at h'
theorem To:∀{as:List Arg}{us:List Value}{i j:Nat}{x y:Arg}{u v:Value}{g:Nat},(dR as us).Nodup->as[i]? = some x->us[i]? = some u->as[j]? = some y->us[j]? = some v->
  jW x u=some g->jW y v=some g->i=j
 |z::as,t::us,0,0,_,_,_,_,_,_,_,_,_,_,_,_=>rfl
 |z::as,t::us,0,j+1,x,y,u,v,g,hn,hx,hu,hy,hv,h1,h2=>by
  simp at hx hu;subst hx;subst hu;have:=Dp (as:=as) (us:=us) (i:=j) (by simpa using hy) (by simpa using hv) h2;simp[dR,h1]at hn;exact absurd this hn.1
 |z::as,t::us,i+1,0,x,y,u,v,g,hn,hx,hu,hy,hv,h1,h2=>by
  simp at hy hv;subst hy;subst hv;have:=Dp (as:=as) (us:=us) (i:=i) (by simpa using hx) (by simpa using hu) h1;simp[dR,h2]at hn;exact absurd this hn.1
 |z::as,t::us,i+1,j+1,x,y,u,v,g,hn,hx,hu,hy,hv,h1,h2=>by
  have Kb:(dR as us).Nodup:=by simp only[dR]at hn;exact(qw.1 hn).2.1
  rw[To Kb (i:=i) (j:=j) (by simpa using hx) (by simpa using hu) (by simpa using hy) (by simpa using hv) h1 h2]
 |[],_,_,_,_,_,_,_,_,_,h,_,_,_,_,_=>by simp at h
 |_::_,[],_,_,_,_,_,_,_,_,_,h,_,_,_,_=>by simp at h
theorem Tp:∀{as:List Arg}{us:List Value}{i e:Nat}{x:TV}{u:Value}{g:Nat},as[i]? = some (.mv e x)->us[i]? = some u->blk u=some g->g∈mvOf as us
 |y::as,v::us,0,e,x,u,g,h,h',hg=>by
  simp at h h';subst h;subst h';simp[mvOf,hg]
 |y::as,v::us,i+1,e,x,u,g,h,h',hg=>by
  have:=Tp (as:=as) (us:=us) (i:=i) (by simpa using h) (by simpa using h') hg;cases y<;>simp[mvOf,this]
 |[],_,_,_,_,_,_,h,_,_=>by simp at h
 |_::_,[],_,_,_,_,_,_,h',_=>by simp at h'
theorem jvf{args:List Arg}{vals:List Value}(ha:All2 (nk S w) args vals)(dv:(dR args vals).Nodup)(hS:∀g o,S g o->g<w.heap.size)(hlen:args.length=np)(hN:np<=N.n) :
  Rel N np S w (o9 args vals) (St.init args) ⟨vals.toArray++Array.replicate (N.n-vals.toArray.size) undef,[]⟩ w S (γ0 vals)/\cN (St.init args):=by
 have vG:vals.length=np:=by rw[<-ha.length,hlen]
 have tW:∀i u,vals[i]? = some u->(vals.toArray++Array.replicate (N.n-vals.toArray.size) undef).getD i undef=u:=by intro i u hu;have hi:i<vals.length:=(jt.1 hu).1;rw[zo,Array.getElem?_append_left (by simpa using hi)];simp[hu]
 have kQ:∀i u,vals[i]? = some u->γ0 vals (i*64)=u:=by intro i u hu;simp only[γ0];rw[yf _ (by omega)];simp[hu]
 have ug:∀i u,vals[i]? = some u->γ0 vals (i*64+63)=u:=by intro i u hu;simp only[γ0];rw[show (i*64+63)/64=i by omega];simp[hu]
 have er:∀k b,(St.init args).bx k = .live b->∃i x u,args[i]? = some x/\vals[i]? = some u/\nk S w x u/\((k=i*64/\mA (some x) = .live b)\/(k=i*64+63/\s7 (some x) = .live b)):=by
  intro k b hb;simp only[St.init]at hb;split at hb
  .rename_i hk;cases hx:args[k/64]? with
   |none=>simp[hx,mA]at hb
   |some x=>obtain⟨u,hu,il⟩:=ha.get _ x hx;exact⟨k/64,x,u,hx,hu,il,.inl ⟨by omega,by rw[hx]at hb;exact hb⟩⟩
  .split at hb
   .rename_i hk;cases hx:args[k/64]? with
    |none=>simp[hx,s7]at hb
    |some x=>obtain⟨u,hu,il⟩:=ha.get _ x hx;exact⟨k/64,x,u,hx,hu,il,.inr ⟨by omega,by rw[hx]at hb;exact hb⟩⟩
   .simp at hb
 have rH:∀{x:Arg}{b:Bx},s7 (some x) = .live b->∃e t xs,x = .mv e ⟨.list t,xs⟩/\b = .lst e t xs false:=by
  intro x b hb;cases x with
  |mv e y=>obtain⟨t,v⟩:=y;cases t<;>simp[s7]at hb;exact⟨_,_,_,rfl,hb.symm⟩
  |_=>simp[s7]at hb
 have Dq:∀i x,args[i]? = some x->(St.init args).bx (i*64+63)=s7 (some x):=by intro i x hx;simp only[St.init];rw[if_neg (by omega),if_pos (by omega),show (i*64+63)/64=i by omega,hx]
 have nJ:∀i x,args[i]? = some x->(St.init args).bx (i*64)=mA (some x):=by intro i x hx;simp only[St.init];rw[if_pos (by omega),yf _ (by omega),hx]
 have hblk:∀x u b,mA (some x) = .live b->jW x u=blk u:=by intro x u b hb;cases x<;>first|rfl|simp[mA]at hb
 refine⟨⟨?_,rfl,?_,?_,?_,?_,λ_ _ h=>h,λ_ _ h=> .inl h,hS,λ_ _ _=>rfl,jo _,rfl,rfl,rfl,?_,λg o h=>by simp[o9]at h,λi v h=>by simp[o9]at h⟩,?_⟩
 .simp;omega
 .intro i
  have eE:(St.init args).sl i=match args[i]? with
   |some a=> .one (FN i a)
   |none=> .one (.one .dead):=rfl
  rw[eE];cases hx:args[i]? with
  |none=>exact⟨trivial,λh=>absurd rfl h⟩
  |some x=>
   obtain⟨u,hu,il⟩:=ha.get i x hx;show bC S w (γ0 vals) (St.init args).bx (FN i x) _;rw[tW i u hu];have hb:=nJ i x hx;cases x with
   |v x=>exact xw il
   |ref ls=>obtain⟨g,cur,e,h1,_⟩:=id il;exact⟨⟨by rw[hb];simp[mA],by rw[h1];rfl,λb _=>⟨g,(kQ i u hu).trans h1,h1⟩⟩,λ_=>by rw[h1];rfl⟩
   |rl e x=>obtain⟨t,xs,rfl,bJ,_⟩:=id il;have c9:One u:=bJ.one;exact⟨⟨by rw[hb];simp[mA],c9,λb _=>(kQ i u hu).symm⟩,λ_=>c9⟩
   |ip ls=>obtain⟨g,o,cs,h1,_⟩:=id il;exact⟨il,λ_=>by rw[h1];rfl⟩
   |clo f caps=>obtain⟨cv,h1,_⟩:=id il;exact⟨il,λ_=>by rw[h1];rfl⟩
   |mv e x=>obtain⟨t,xs,rfl,bJ,_⟩:=id il.1;have c9:One u:=bJ.one;have ax:=Dq i _ hx;exact⟨⟨by rw[ax];simp[s7],c9,λb _=>(ug i u hu).symm⟩,λ_=>c9⟩
 .intro k b hb;obtain⟨i,x,u,hx,hu,il,⟨rfl,cC⟩|⟨rfl,cC⟩⟩:=er k b hb
  .cases x with
   |ref ls=>simp only[mA,BS.live.injEq]at cC;subst cC;exact JI (kQ i u hu) il
   |rl e x=>obtain⟨t,xs,rfl,_⟩:=id il;simp only[mA,BS.live.injEq]at cC;subst cC;exact Au (kQ i u hu) il
   |_=>simp[mA]at cC
  .obtain⟨e,t,xs,rfl,rfl⟩:=rH cC;exact Au (ug i u hu) il.1
 .intro k b g hb hg;obtain⟨i,x,u,hx,hu,il,⟨rfl,cC⟩|⟨rfl,cC⟩⟩:=er k b hb
  .rw[kQ i u hu,<-hblk x u b cC]at hg;refine .inr ⟨Dp hx hu hg,?_⟩;have:i<args.length:=(jt.1 hx).1;simp[parK];omega
  .obtain⟨e,t,xs,rfl,rfl⟩:=rH cC;rw[ug i u hu]at hg;exact .inl (.inr ⟨Tp hx hu hg,Dp (x:= .mv e ⟨.list t,xs⟩) hx hu hg⟩)
 .intro k k' b b' g aN hb ax hg ah
  have Tq:∀k b g,(St.init args).bx k = .live b->blk (γ0 vals k)=some g->∃i x u,args[i]? = some x/\vals[i]? = some u/\jW x u=some g/\((k=i*64/\mA (some x) = .live b)\/(k=i*64+63/\s7 (some x) = .live b)):=by
   intro k b g hb hg;obtain⟨i,x,u,hx,hu,il,⟨rfl,cC⟩|⟨rfl,cC⟩⟩:=er k b hb
   .rw[kQ i u hu,<-hblk x u b cC]at hg;exact⟨i,x,u,hx,hu,hg,.inl ⟨rfl,cC⟩⟩
   .obtain⟨e,t,xs,rfl,rfl⟩:=rH cC;rw[ug i u hu]at hg;exact⟨i,_,u,hx,hu,hg,.inr ⟨rfl,cC⟩⟩
  obtain⟨i,x,u,hx,hu,h1,h2⟩:=Tq k b g hb hg;obtain⟨j,y,v,hy,hv,h3,h4⟩:=Tq k' b' g ax ah;have dG:=To dv hx hu hy hv h1 h3;subst dG;rw[hx]at hy;cases hy;rcases h2 with⟨rfl,h2⟩|⟨rfl,h2⟩<;>rcases h4 with⟨rfl,h4⟩|⟨rfl,h4⟩
  .exact aN rfl
  .obtain⟨e,t,xs,rfl,rfl⟩:=rH h4;simp[mA]at h2
  .obtain⟨e,t,xs,rfl,rfl⟩:=rH h2;simp[mA]at h4
  .exact aN rfl
 .intro k v hv;simp only[o9,Dn]at hv;split at hv
  .rename_i hk;split at hv
   .rename_i x hx;split at hv
    .rename_i hr;have hi:k/64<args.length:=(jt.1 hx).1;have bc:k=(k/64)*64:=by omega
     refine⟨by simp[parK,hk];omega,?_,?_⟩
     .rw[bc,nJ _ x hx];cases x with
      |rl e y=>obtain⟨u,hu,il⟩:=ha.get _ _ hx;obtain⟨t,xs,rfl,_⟩:=il;simp[mA]
      |ref ls=>simp[mA]
      |_=>simp[yp]at hr
     .rw[bc];exact kQ _ v hv
    .simp at hv
   .simp at hv
  .simp at hv
 .intro i;show ((match args[i]? with|some a=>Slot.one (FN i a)|none=> .one (.one .dead)):Slot).bare=true;split<;>rfl
theorem GQ{α β:Type}{P:Program}(f:α->Sem β):∀{rs:List α}{zs:List β},All2 (λr z=>(f r).run P w = .ok z w) rs zs->(rs.mapM f).run P w = .ok zs w
 |[],[],_=>by simp
 |r::rs,z::zs,h=>by
  simp only[zu,Sem.run_bind,h.1,Result.andThen_ok,GQ f h.2,Sem.run_pure]
 |[],_::_,h=>h.elim
 |_::_,[],h=>h.elim
def Uns(b:Bx):Prop:=(∃ls,b = .cell ls false)\/∃e t xs,b = .lst e t xs false
theorem GR{P:Program}{E:Env}(hT:ca P E.T)(hR:Rel N np S0 w0 refs σ a w S γ){r:ResultVar}{c:Cel}(h:w9 E σ r=some c) :
  ∃z,((match r with
   |.tmp t=>pure (a.tmps.getD t undef)
   |.cell x t=>do loadVar t (<-asAddr (a.tmps.getD x undef)):Sem Value)).run P w = .ok z w/\bC S w γ σ.bx c z:=by
 cases r with
 |tmp t=>
  simp only[w9]at h;split at h
  .rename_i c' hc;simp only[j4]at h;subst h;have:=hR.slot t;rw[hc]at this;exact⟨_,by simp,this⟩
  .simp at h
 |cell x t=>
  simp only[w9]at h;split at h
  .rename_i ti y ht hy;have:=hR.slot x;rw[hy]at this;obtain⟨z,hz,gX⟩:=QW hT hR (RdR.msk λ_=> .inl rfl) ht h this.1;refine⟨z,?_,gX⟩;show (do loadVar t (<-asAddr (a.tmps.getD x undef)):Sem Value).run P w=_
   have hu:∃ad,a.tmps.getD x undef = .pointer (some ad):=by
    generalize a.tmps.getD x undef=u at hz
    cases u with
    |pointer o=>
     cases o with
     |some ad=>exact⟨ad,rfl⟩
     |none=>simp[Instr.loadAt,Instr.sureAddr]at hz
    |_=>simp[Instr.loadAt,Instr.sureAddr]at hz
   obtain⟨ad,hu⟩:=hu;rw[hu]at hz ⊢;simpa[Instr.loadAt,Instr.sureAddr,asAddr]using hz
  .simp at h
theorem GS{rd:Nat->BS}(hR:Rel N np S0 w0 refs σ a w S γ)(aG:RdF np σ rd):∀{ks:List SoK}{ls:List Leaf}{r:List RL}{n:List Nat}{v:Ups}{zs:List Value},soOf rd ks ls=some (r,n,v)->
  All2 (br S w γ σ.bx) ls zs->(∀z∈zs,One z)->FrzL np σ.bx v/\(∀k∈n,(∃b,σ.bx k = .live b/\Uns b)/\parK np k=false)/\oo r zs=(n.filterMap λk=>blk (γ k))/\
   ∀S',dz S w S' w->Froz σ.bx γ S' w v->(∀k∈n,∀g,blk (γ k)=some g->∀o,¬S' g o)->All2 (Gc S' w) r zs
 |[],[],r,n,v,zs,h,ha,h1=>by
  simp[soOf]at h;obtain⟨rfl,rfl,rfl⟩:=h;cases zs with
  |nil=>exact⟨.nil,by simp,rfl,λ_ _ _ _=>trivial⟩
  |cons _ _=>exact ha.elim
 |.d t::ks,l::ls,r,n,v,zs,h,ha,h1=>by
  cases zs with
  |nil=>exact ha.elim
  |cons z zs=>
  simp only[soOf]at h;split at h
  .rename_i x u r' n' v' hx hr;cases eP:t.leafy with
   |false=>rw[eP]at h;simp at h
   |true=>
   rw[eP,j5]at h;simp only[j4,j8]at h;obtain⟨rfl,rfl,rfl⟩:=h;obtain⟨f1,p1⟩:=u9 aG hR.box hx ha.1;obtain⟨f2,k2,b2,p2⟩:=GS hR aG hr ha.2 (λy hy=>h1 y (by simp[hy]));refine⟨FrzL.app.2 ⟨f1,f2⟩,k2,by simp[oo,b2],λS' au ea hn=>?_⟩;obtain⟨g1,g2⟩:=Froz.app.1 ea;exact⟨⟨h1 z (by simp),p1 S' w au g1⟩,p2 S' au g2 hn⟩
  .simp at h
 |.own e t::ks,l::ls,r,n,v,zs,h,ha,h1=>by
  cases zs with
  |nil=>exact ha.elim
  |cons z zs=>
  cases l with
  |nil=>
   simp only[soOf]at h;split at h
   .rename_i r' n' v' hr;cases hm:isM e with
    |true=>rw[hm]at h;simp at h
    |false=>
    rw[hm,j6]at h;simp only[j4,j8]at h;obtain⟨rfl,rfl,rfl⟩:=h;have hz:z = .slice none 0 0:=ha.1;subst hz;obtain⟨f2,k2,b2,p2⟩:=GS hR aG hr ha.2 (λy hy=>h1 y (by simp[hy]));refine⟨f2,k2,by simp[oo,blk,b2],λS' au ea hn=>⟨⟨t,[],rfl,.inl ⟨hm,[],⟨by simp,.inl ⟨rfl,rfl⟩⟩,trivial⟩,λg hg=>by simp[blk]at hg⟩,p2 S' au ea hn⟩⟩
   .simp at h
  |ol k=>
   simp only[soOf]at h;split at h
   .rename_i e' b xs hk;cases he:Nat.beq e' e with
    |false=>rw[he]at h;simp at h
    |true=>
    rw[he,j5]at h;split at h
    .rename_i r' n' v' hr;simp only[j4,j8]at h;obtain⟨rfl,rfl,rfl⟩:=h;have hp:=aG.par hk;have hk:=aG.ok.live hk;have hz:=ha.1.2.2 _ hk;obtain⟨f2,k2,b2,p2⟩:=GS hR aG hr ha.2 (λy hy=>h1 y (by simp[hy]));refine⟨f2,λk' bc=>?_,?_,λS' au ea hn=>⟨⟨b,xs,rfl,by rw[hz];exact(hR.box k _ hk).1.keep au (λ_ _=>rfl),λg hg=>hn k (by simp) g (by rw[<-hz];exact hg)⟩,p2 S' au ea (λk' bc=>hn k' (by simp[bc]))⟩⟩
     .rcases jc.1 bc with rfl|bc
      .exact⟨⟨_,hk,.inr ⟨_,_,_,rfl⟩⟩,hp⟩
      .exact k2 k' bc
     .simp only[oo,hz,qn];rw[b2];cases blk (γ k)<;>rfl
    .simp at h
   .simp at h
  |_=>simp[soOf]at h
 |[],_::_,r,n,v,zs,h,_,_=>by simp[soOf]at h
 |.d _::_,[],r,n,v,zs,h,_,_=>by simp[soOf]at h
 |.own _ _::_,[],r,n,v,zs,h,_,_=>by simp[soOf]at h
theorem jyg{P:Program}{E:Env}(hT:ca P E.T)(hR:Rel N E.np S0 w0 refs σ a w S γ){rd:Nat->BS}(aG:RdF E.np σ rd){own:Bool}{t:Nat}{c:Cel}{v:RV}{ks:List Nat}{u:Ups}{z:Value}(h:rvOf E rd own t c=some (v,ks,u))(hc:bC S w γ σ.bx c z) :
  FrzL E.np σ.bx u/\(∀k∈ks,(∃b,σ.bx k = .live b/\Uns b)/\parK E.np k=false)/\kV v z=(ks.filterMap λk=>blk (γ k))/\
   ∀S',dz S w S' w->Froz σ.bx γ S' w u->(∀k∈ks,∀g,blk (γ k)=some g->∀o,¬S' g o)->pQ S' w v z:=by
 unfold rvOf at h;split at h
 .rename_i k;split at h
  .rename_i ls hk;split at h
   .rename_i xs u1 h1;simp only[j4,j8]at h;obtain⟨rfl,rfl,rfl⟩:=h;have hp:=aG.par hk;have hk:=aG.ok.live hk;obtain⟨g,hg,hz⟩:=hc.1.2.2 _ hk;obtain⟨g',cur,e,ah,hh,cT,_⟩:=hR.box k _ hk;rw[hg]at ah;simp at ah;subst ah;obtain⟨hf,sy⟩:=xr aG h1 cT;refine⟨hf,λk' bc=>by simp at bc;subst bc;exact⟨⟨_,hk,.inl ⟨_,rfl⟩⟩,hp⟩,?_,λS' au ea hn=>⟨g,cur,e,hz,hh,by rw[FP cT (sy S' w au ea)];exact sy S' w au ea,?_⟩⟩
    .simp[kV,mG,hz,hg,blk]
    .exact hn k (by simp) g (by rw[hg];rfl)
   .simp at h
  .simp at h
 .rename_i f caps;simp only[j4,j8]at h;obtain⟨rfl,rfl,rfl⟩:=h;obtain⟨⟨cv,hz,al⟩,_⟩:=hc;exact⟨.nil,by simp,by simp[kV,mG],λS' au _ _=>⟨cv,hz,al.mono λ_ _ h=>jB.keep au h⟩⟩
 .split at h
  .rename_i ti ht;split at h
   .rename_i ty aW;split at h
    .split at h
     .rename_i ls;split at h
      .rename_i r n u1 hso;simp only[j4,j8]at h;obtain⟨rfl,rfl,rfl⟩:=h;obtain⟨cs,hz,al,c9⟩:=hc;subst hz;obtain⟨f1,k1,b1,p1⟩:=GS hR aG hso al c9;exact⟨f1,k1,b1,λS' au ea hn=>⟨cs,rfl,p1 S' au ea hn⟩⟩
      .simp at h
     .rename_i el dQ _;simp only[j4,j8]at h;obtain⟨rfl,rfl,rfl⟩:=h;have hz:z = .slice none 0 0:=hc.1;subst hz;exact⟨.nil,by simp,by simp[kV,mG,blk],λS' _ _ _=>⟨el,[],rfl,.inl ⟨I9 hT ht,[],⟨by simp,.inl ⟨rfl,rfl⟩⟩,trivial⟩,λg hg=>by simp[blk]at hg⟩⟩
     .rename_i k dQ _;split at h
      .rename_i e el xs hk;simp only[j4,j8]at h;obtain⟨rfl,rfl,rfl⟩:=h;have hp:=aG.par hk;have bT:=aG.ok.nm hk;have hk:=aG.ok.live hk;have hz:=hc.1.2.2 _ hk;obtain⟨css,aA,al,_⟩:=ix bT (hR.box k _ hk);refine⟨.nil,λk' bc=>by simp at bc;subst bc;exact⟨⟨_,hk,.inr ⟨_,_,_,rfl⟩⟩,hp⟩,?_,λS' au _ hn=>⟨el,xs,rfl,by rw[hz];exact(hR.box k _ hk).1.keep au (λ_ _=>rfl),λg hg=>hn k (by simp) g (by rw[<-hz];exact hg)⟩⟩;simp only[kV,mG,hz,qn,List.filterMap_nil];cases blk (γ k)<;>rfl
      .simp at h
     .simp at h
    .split at h
     .rename_i x u1 hx;simp only[j4,j8]at h;obtain⟨rfl,rfl,rfl⟩:=h;obtain⟨hf,hp,_⟩:=B7 aG hR.box hx hc;exact⟨hf,by simp,by simp[kV,mG],λS' au ea _=>hp S' w au ea⟩
     .simp at h
   .simp at h
  .simp at h
theorem Tr{P:Program}{E:Env}(hT:ca P E.T)(hR:Rel N E.np S0 w0 refs σ a w S γ):∀{os:List Bool}{rs:List ResultVar}{ts:List Nat}{vs:List RV}{ks:List Nat}{u:Ups},pJ E σ os rs ts=some (vs,ks,u)->
  ∃zs,All2 (λ(r:ResultVar) z=>((match r with
   |.tmp t=>pure (a.tmps.getD t undef)
   |.cell x t=>do loadVar t (<-asAddr (a.tmps.getD x undef)):Sem Value)).run P w = .ok z w) rs zs/\
  FrzL E.np σ.bx u/\(∀k∈ks,(∃b,σ.bx k = .live b/\Uns b)/\parK E.np k=false)/\fI vs zs=(ks.filterMap λk=>blk (γ k))/\
   ∀S',dz S w S' w->Froz σ.bx γ S' w u->(∀k∈ks,∀g,blk (γ k)=some g->∀o,¬S' g o)->All2 (pQ S' w) vs zs
 |os,[],ts,vs,ks,u,h=>by
  simp[pJ]at h;obtain⟨rfl,rfl,rfl⟩:=h;exact⟨[],trivial,.nil,by simp,rfl,λ_ _ _ _=>trivial⟩
 |os,r::rs,ts,vs,ks,u,h=>by
  simp only[pJ]at h;split at h
  .rename_i c hc;split at h
   .rename_i v k1 u1 hv;split at h
    .rename_i jA k2 u2 ik;simp only[j4,j8]at h;obtain⟨rfl,rfl,rfl⟩:=h;obtain⟨z,hz,gX⟩:=GR hT hR hc;obtain⟨f1,p1,n1,r1⟩:=jyg hT hR (AD (RdR.msk λ_=> .inl rfl)) hv gX;obtain⟨zs,kO,f2,p2,n2,r2⟩:=Tr hT hR ik;refine⟨z::zs,⟨hz,kO⟩,FrzL.app.2 ⟨f1,f2⟩,λk hk=>?_,?_,λS' au ea hn=>?_⟩
     .rcases jm.1 hk with hk|hk
      .exact p1 k hk
      .exact p2 k hk
     .simp[fI,n1,n2]
     .obtain⟨g1,g2⟩:=Froz.app.1 ea;exact⟨r1 S' au g1 (λk hk=>hn k (by simp[hk])),r2 S' au g2 (λk hk=>hn k (by simp[hk]))⟩
    .simp at h
   .simp at h
  .simp at h
theorem K8(hR:Rel N np S0 w0 refs σ a w S γ):∀{as:List Arg}{us:List Value}{i:Nat}{os:List Out}{u:Ups},outs np σ i as=some (os,u)->as.length=us.length->
  (∀(j:Nat)(x:Arg)(v:Value),as[j]? = some x->us[j]? = some v->yp x=true->γ ((i+j)*64)=v)->
  FrzL np σ.bx u/\∀S',dz S w S' w->Froz σ.bx γ S' w u->(∀(j:Nat)(x:Arg)(v:Value)(g:Nat),as[j]? = some x->us[j]? = some v->yp x=true->(∃b,σ.bx ((i+j)*64) = .live b/\Uns b)->blk v=some g->∀o,¬S' g o)->kW S' w as us os
 |[],us,i,os,u,h,hl,_=>by
  simp[outs]at h;obtain⟨rfl,rfl⟩:=h;cases us with
  |nil=>exact⟨.nil,λ_ _ _ _=>trivial⟩
  |cons _ _=>simp at hl
 |x::as,[],i,os,u,h,hl,_=>by simp at hl
 |x::as,v::us,i,os,u,h,hl,hg=>by
  simp only[outs]at h;split at h
  .rename_i pS u' h'
   obtain⟨f1,r1⟩:=K8 hR (i:=i+1) h' (by simpa using hl) (λj y z hy hz hr=>by
    have:=hg (j+1) y z (by simpa using hy) (by simpa using hz) hr;rwa[show i+1+j=i+(j+1) by omega])
   have cU:∀S',dz S w S' w->Froz σ.bx γ S' w u'->(∀(j:Nat)(x':Arg)(v':Value)(g:Nat),(x::as)[j]? = some x'->(v::us)[j]? = some v'->yp x'=true->(∃b,σ.bx ((i+j)*64) = .live b/\Uns b)->blk v'=some g->∀o,¬S' g o)->kW S' w as us pS:=by intro S' au ea hn;refine r1 S' au ea (λj y z g hy hz hr hb hgz=>?_);exact hn (j+1) y z g (by simpa using hy) (by simpa using hz) hr (by rwa[show i+(j+1)=i+1+j by omega]) hgz
   split at h
   .rename_i ls;have K9:γ (i*64)=v:=hg 0 _ v rfl rfl rfl;split at h
    .rename_i fH hb;split at h
     .rename_i xs u2 hx;simp only[j4,j8]at h;obtain⟨rfl,rfl⟩:=h;obtain⟨g,cur,e,h1,h2,h3,_⟩:=hR.box _ _ hb;obtain⟨f2,r2⟩:=xr (AD (RdR.msk λ_=> .inl rfl)) hx h3;refine⟨FrzL.app.2 ⟨f2,f1⟩,λS' au ea hn=>?_⟩;obtain⟨g1,g2⟩:=Froz.app.1 ea;have Ts:v = .pointer (some ⟨g,0,none⟩):=by rw[<-K9];exact h1
      exact⟨⟨g,cur,e,Ts,h2,by rw[FP h3 (r2 S' w au g1)];exact r2 S' w au g1,hn 0 _ v g rfl rfl rfl ⟨_,hb,.inl ⟨fH,rfl⟩⟩ (by rw[Ts];rfl)⟩,cU S' au g2 hn⟩
     .simp at h
    .simp at h
   .rename_i e y;have K9:γ (i*64)=v:=hg 0 _ v rfl rfl rfl;split at h
    .rename_i e' t xs hb;split at h
     .rename_i bM;obtain⟨rfl,GU⟩:=bM;simp only[j4,j8]at h;obtain⟨rfl,rfl⟩:=h;have aA:=(hR.box _ _ hb).1;rw[K9]at aA;refine⟨f1,λS' au ea hn=>⟨⟨t,xs,rfl,aA.keep au (λ_ _=>rfl),λg ah=>hn 0 _ v g rfl rfl rfl ⟨_,hb,.inr ⟨_,t,xs,rfl⟩⟩ ah⟩,GU.symm,cU S' au ea hn⟩⟩
     .simp at h
    .simp at h
   .rename_i La Lb;simp only[j4,j8]at h;obtain⟨rfl,rfl⟩:=h;refine⟨f1,λS' au ea hn=>?_⟩;have:=cU S' au ea hn;cases x with
    |ref ls=>exact absurd rfl (La ls)
    |rl e y=>exact absurd rfl (Lb e y)
    |_=>exact this
  .simp at h
theorem Tt{x:Arg}{u:Value}{g:Nat}(h:nk S w x u)(hr:jW x u=some g):∀o,¬S g o:=by
 cases x with
 |ref ls=>obtain⟨g',cur,e,h1,_,_,h4⟩:=h;have qR:blk u=some g:=hr;rw[h1]at qR;simp[blk]at qR;subst qR;exact h4
 |rl e y=>obtain⟨t,xs,_,_,h4⟩:=h;exact h4 g hr
 |mv e y=>obtain⟨⟨t,xs,_,_,h4⟩,_⟩:=h;exact h4 g hr
 |_=>simp[jW]at hr
theorem Lc:∀{as:List Arg}{us:List Value}{g:Nat},g∈dR as us->∃(i:Nat)(x:Arg)(u:Value),as[i]? = some x/\us[i]? = some u/\jW x u=some g
 |[],_,_,h=>by simp[dR]at h
 |_::_,[],_,h=>by simp[dR]at h
 |x::as,u::us,g,h=>by
  simp only[dR,jm,Option.mem_toList]at h;rcases h with h|h
  .exact⟨0,x,u,rfl,rfl,h⟩
  .obtain⟨i,y,v,h1,h2,h3⟩:=Lc h;exact⟨i+1,y,v,by simpa using h1,by simpa using h2,h3⟩
theorem Ld(zs:List Value):(if h:zs.toArray.size=1 then zs.toArray[0] else .tuple zs.toArray)=lT zs:=by
 match zs with
 |[]=>rfl
 |[z]=>rfl
 |z::z'::zs=>simp[lT]
theorem jvg{P:Program}{E:Env}(hT:ca P E.T)(hR:Rel N np S0 w0 refs σ a w S γ){rs:List ResultVar}{vs jA:List RV}{zs:List Value}
  (kO:All2 (λ(r:ResultVar) z=>((match r with
   |.tmp t=>pure (a.tmps.getD t undef)
   |.cell x t=>do loadVar t (<-asAddr (a.tmps.getD x undef)):Sem Value)).run P w = .ok z w) rs zs) (h:nilV E σ rs vs=some jA) :
  (∀S' w',All2 (pQ S' w') vs zs->All2 (pQ S' w') jA zs)/\fI jA zs=fI vs zs/\(∀m,jA=[.hd m]->vs=[.hd m])/\∀ns s,jA=[.raw ns s]->vs=[.raw ns s]:=by
 unfold nilV at h;split at h
 .simp only[j4]at h;subst h;exact⟨λ_ _ h=>h,rfl,λ_ h=>h,λ_ _ h=>h⟩
 .split at h
  .rename_i r x;split at h
   .rename_i ls hc;split at h
    .rename_i hn;simp only[j4]at h;subst h;obtain⟨z,hz,gX⟩:=GR hT hR hc;cases zs with
     |nil=>exact kO.elim
     |cons z' zs=>
      cases zs with
      |cons _ _=>exact kO.2.elim
      |nil=>
       have tu:z'=z:=by have h1:=hz.symm.trans kO.1;simp only[Result.ok.injEq]at h1;exact h1.1.symm
       subst tu;obtain⟨cs,hu,al,_⟩:=gX;refine⟨λS' w' hv=>⟨⟨hv.1,λsB nK i hi z hzi=>?_⟩,trivial⟩,rfl,λm hm=>by simp at hm,λns s hm=>by simp at hm⟩;rw[hu]at nK;simp only[Value.agg.injEq]at nK;subst nK;have hl:=jq.1 hn i hi;cases Le:ls[i]? with
       |none=>rw[Le]at hl;simp at hl
       |some l=>rw[Le]at hl;obtain⟨z2,Lf,pP⟩:=al.get i l Le;rw[hzi]at Lf;simp only[j4]at Lf;subst Lf;cases l<;>first|exact pP|simp at hl
    .simp at h
   .simp at h
  .simp at h
theorem jlU{E:Env}{os:List Bool}{rs:List ResultVar}{ts:List Nat}{vs:List RV}{ks:List Nat}{u:Ups}(h:pJ E σ os rs ts=some (vs,ks,u))(m:Nat):vs≠[.hd m]:=by
 cases rs with
 |nil=>simp[pJ]at h;rw[<-h.1];simp
 |cons r rs=>
  simp only[pJ]at h;split at h
  .split at h
   .rename_i v k1 u1 hv;split at h
    .simp only[j4,j8]at h;rw[<-h.1];intro he;have:v = .hd m:=by simpa using (List.cons.inj he).1
     subst this;unfold rvOf at hv;split at hv
     .split at hv
      .split at hv<;>simp at hv
      .simp at hv
     .simp at hv
     .split at hv
      .split at hv
       .split at hv
        .split at hv
         .split at hv<;>simp at hv
         .simp at hv
         .split at hv<;>simp at hv
         .simp at hv
        .split at hv<;>simp at hv
       .simp at hv
      .simp at hv
    .simp at h
   .simp at h
  .simp at h
theorem jk4{E:Env}{os:List Bool}{rs:List ResultVar}{ts:List Nat}{vs:List RV}{ks:List Nat}{u:Ups}(h:pJ E σ os rs ts=some (vs,ks,u))(ns:List Nat)(s:Snap):vs≠[.raw ns s]:=by
 cases rs with
 |nil=>simp[pJ]at h;rw[<-h.1];simp
 |cons r rs=>
  simp only[pJ]at h;split at h
  .split at h
   .rename_i v k1 u1 hv;split at h
    .simp only[j4,j8]at h;rw[<-h.1];intro he;have:v = .raw ns s:=by simpa using (List.cons.inj he).1
     subst this;unfold rvOf at hv;split at hv
     .split at hv
      .split at hv<;>simp at hv
      .simp at hv
     .simp at hv
     .split at hv
      .split at hv
       .split at hv
        .split at hv
         .split at hv<;>simp at hv
         .simp at hv
         .split at hv<;>simp at hv
         .simp at hv
        .split at hv<;>simp at hv
       .simp at hv
      .simp at hv
    .simp at h
   .simp at h
  .simp at h
theorem jyh{P:Program}{E:Env}(hT:ca P E.T){fn:Func}{args:List Arg}{vals:List Value}{σ':St}{a':Go.Act}{w':World}{S':ay}{γ':Nat->Value}(hR:Rel N E.np S w (o9 args vals) σ' a' w' S' γ')
  (ha:All2 (nk S w) args vals)(hS:∀g o,S g o->g<w.heap.size)(iC:¬E.rw=true)(rE:E.hd=true){ret:Ret}(bO:tc E fn args σ'=some ret){R:Type}{k:Ret->Option R}{r:R}(hk:k ret=some r) :
  ∃v,(results fn a'.tmps).run P w' = .ok v w'/\∃ret,k ret=some r/\∃v' S' vs,Ending.returned v = .returned v'/\Ge w S args vals ret v' w' S' vs:=by
 have eA:∀(j:Nat)(x:Arg)(v:Value),args[j]? = some x->vals[j]? = some v->yp x=true->γ' ((0+j)*64)=v:=by intro j x v hx hv hr;refine(hR.par ((0+j)*64) v ?_).2.2;simp only[o9,Dn];rw[if_pos (by omega),yf _ (by omega),k9,hx];simp[hr,hv]
 unfold tc at bO;rw[if_neg iC,if_pos rE]at bO;unfold QE at bO;split at bO
 .rename_i e x as r0 ma;split at bO
  .rename_i l os u' hc oT;split at bO
   .rename_i m hm;simp only[j4]at bO;subst bO;obtain⟨z,hz,gX⟩:=GR (P:=P) hT hR hc;obtain⟨f2,r2⟩:=K8 hR oT ha.length eA;obtain⟨S2,bU,cM,qW,dI⟩:=od u' σ' S' hR f2;cases vals with
    |nil=>exact ha.elim
    |cons v0 vs0=>
    have h0:γ' 0=v0:=by have:=eA 0 _ v0 rfl rfl rfl;simpa using this
    have jD:∀k,parK E.np k=true->u'.any (λy=>y.1==k)=false:=by intro k hk;rw[qm];intro y hy he;simp only[zr]at he;have:=(f2 y hy).1;rw[he,hk]at this;simp at this
    have oV:∀k b,u'.any (λy=>y.1==k)=false->σ'.bx k = .live b->Uns b->∀g,blk (γ' k)=some g->∀o,¬S2 g o:=by
     intro k b hk hb lW g hg o;have dX:(σ'.upd u').bx k = .live b:=(kN _ _ hk).trans hb;have cC:=bU.box k b dX;rcases lW with⟨ls,rfl⟩|⟨e,t,xs,rfl⟩
     .obtain⟨g',cur,e,ah,_,_,_,hS,_⟩:=cC;rw[ah]at hg;simp[blk]at hg;subst hg;exact hS rfl o
     .exact(cC.2 g hg).1 rfl o
    have dK:=r2 S2 cM qW (λj x v g hx hv hr Lg hg=>by
     obtain⟨b,hb,hu⟩:=Lg;have hp:parK E.np ((0+j)*64)=true:=by refine(hR.par ((0+j)*64) v ?_).1;simp only[o9,Dn];rw[if_pos (by omega),yf _ (by omega),k9,hx];simp[hr,hv]
     exact oV ((0+j)*64) b (jD _ hp) hb hu g (by rw[eA j x v hx hv hr];exact hg))
    have c9:One z:=gX.2 (by rintro rfl;simp[hdOf]at hm)
    have rb:∃ad len cap,v0 = .slice ad len cap/\m<=len/\z = .slice ad m cap:=by
     unfold hdOf at hm;split at hm
     .split at hm
      .rename_i e1 t1 Ga hb;split at hm
       .simp at hm
       .rename_i bT;simp only[j4]at hm;subst hm;obtain⟨css,aA,_⟩:=ix (by simpa using bT) (hR.box 0 _ hb);have tu:=gX.1.2.2 _ hb;rcases aA.2 with⟨hg,hn⟩|⟨g,cap,cur,hg,_⟩
        .exact⟨none,0,0,by rw[<-h0,hg],by omega,by rw[tu,hg,hn]⟩
        .exact⟨_,_,cap,by rw[<-h0,hg],jo _,by rw[tu,hg]⟩
      .simp at hm
     .split at hm
      .rename_i i e1 t1 Ga hb;simp only[j4]at hm;subst hm;obtain⟨_,hi,ad,cap,hg,tu⟩:=gX.1.2.2 _ hb;exact⟨ad,_,cap,by rw[<-h0,hg],hi,tu⟩
      .simp at hm
     .simp at hm
    have aq:(results fn a'.tmps).run P w' = .ok (lT [z]) w':=by
     have hm:=GQ (P:=P) (w:=w') (rs:=[r0]) (zs:=[z]) (λr=>((match r with
      |.tmp t=>pure (a'.tmps.getD t undef)
      |.cell x t=>do loadVar t (<-asAddr (a'.tmps.getD x undef)):Sem Value))) ⟨hz,trivial⟩
     unfold results;rw[vr,ma];simp only[Sem.run_bind,Sem.run_map]
     erw [hm]
     simp only[Result.andThen_ok,Sem.run_pure];exact jj (Result.ok · w') (Ld [z])
    refine⟨lT [z],aq,⟨[.hd m],os⟩,hk,lT [z],S2,[z],rfl,⟨rfl,⟨c9,trivial⟩,λg hg=>by simp[fI,mG,kV]at hg,by simp[fI,mG,kV],dK,λg o hs=>⟨bU.ext g o hs,?_⟩,λg o h=>(bU.new g o h).imp id (λh=>h.imp id And.left),bU.here,bU.below,bU.grow,bU.os,bU.tape,bU.output,λns s he=>by simp at he,?_⟩⟩
    .refine World.cell?_of_block (bU.below g (hS g o hs) (λhm=>?_));obtain⟨i,x,v,hx,hv,hb⟩:=Lc hm;obtain⟨v',gx,Lh⟩:=ha.get i x hx;rw[hv]at gx;simp at gx;subst gx;exact Tt Lh hb o hs
    .intro m' gY;have:m'=m:=by simpa using gY.symm
     subst this;obtain⟨ad,len,cap,h1,h2,h3⟩:=rb;exact⟨ad,len,cap,by rw[h1];rfl,h2,by rw[h3]⟩
   .simp at bO
  .simp at bO
 .simp at bO
theorem Tu{P:Program}{E:Env}(hT:ca P E.T)(hR:Rel N np S0 w0 refs σ a w S γ):∀{rs:List ResultVar}{cs:List Cel},BV E σ rs=some cs->
  ∃zs,All2 (λ(r:ResultVar) z=>((match r with
   |.tmp t=>pure (a.tmps.getD t undef)
   |.cell x t=>do loadVar t (<-asAddr (a.tmps.getD x undef)):Sem Value)).run P w = .ok z w) rs zs/\All2 (bC S w γ σ.bx) cs zs
 |[],cs,h=>by
  simp only[BV,j4]at h;subst h;exact⟨[],trivial,trivial⟩
 |r::rs,cs,h=>by
  simp only[BV]at h;split at h
  .rename_i c sB hc dF;simp only[j4]at h;subst h;obtain⟨z,h1,h2⟩:=GR (P:=P) hT hR hc;obtain⟨zs,h3,h4⟩:=Tu hT hR dF;exact⟨z::zs,⟨h1,h3⟩,h2,h4⟩
  .simp at h
theorem Tv{bx bx':Nat->BS}{ns:List Nat}(hb:∀k∈ns,bx' k=bx k){l:Leaf}{u:Value}(hl:s9 ns l=true)(h:br S w γ bx l u):br S w γ bx' l u:=by
 cases l with
 |dead=>trivial
 |nil=>exact h
 |d t v=>exact h
 |ol k=>have hk:=hb k (by simpa[s9]using hl);exact⟨by rw[hk];exact h.1,h.2.1,by rw[hk];exact h.2.2⟩
 |bp k c=>have hk:=hb k (by simpa[s9]using hl);exact⟨by rw[hk];exact h.1,h.2.1,by rw[hk];exact h.2.2⟩
 |s1 k=>have hk:=hb k (by simpa[s9]using hl);exact⟨by rw[hk];exact h.1,h.2.1,by rw[hk];exact h.2.2⟩
 |_=>simp[s9]at hl
theorem Li{bx bx':Nat->BS}{ns:List Nat}(hb:∀k∈ns,bx' k=bx k):∀{ls:List Leaf}{us:List Value},ls.all (s9 ns)=true->All2 (br S w γ bx) ls us->All2 (br S w γ bx') ls us
 |[],[],_,_=>trivial
 |l::ls,u::us,hl,h=>by
  simp only[v8,ja]at hl;exact⟨Tv hb hl.1 h.1,Li hb hl.2 h.2⟩
 |[],_::_,_,h=>h.elim
 |_::_,[],_,h=>h.elim
theorem jpi{bx bx':Nat->BS}{ns:List Nat}(hb:∀k∈ns,bx' k=bx k){c:Cel}{u:Value}(hl:I5 ns c=true)(h:bC S w γ bx c u):bC S w γ bx' c u:=by
 cases c with
 |one l=>exact⟨Tv hb hl h.1,h.2⟩
 |st ls=>obtain⟨cs,hu,ha,h1⟩:=h;exact⟨cs,hu,Li hb hl ha,h1⟩
 |av n b xs=>exact h
theorem jxc{P:Program}{E:Env}(hT:ca P E.T){fn:Func}{args:List Arg}{vals:List Value}{σ':St}{a':Go.Act}{w':World}{S':ay}{γ':Nat->Value}(hR:Rel N E.np S w (o9 args vals) σ' a' w' S' γ')
  (ha:All2 (nk S w) args vals)(hS:∀g o,S g o->g<w.heap.size)(iC:E.rw=true){ret:Ret}(bO:tc E fn args σ'=some ret){R:Type}{k:Ret->Option R}{r:R}(hk:k ret=some r) :
  ∃v,(results fn a'.tmps).run P w' = .ok v w'/\∃ret,k ret=some r/\∃v' S' vs,Ending.returned v = .returned v'/\Ge w S args vals ret v' w' S' vs:=by
 unfold tc at bO;rw[if_pos iC]at bO;unfold QF at bO;split at bO
 case h_2=>simp at bO
 rename_i cs dF;split at bO
 case isFalse=>simp at bO
 rename_i bM;simp only[ja]at bM;obtain⟨dv,AR,eN,cD⟩:=bM;simp only[j4]at bO;subst bO;obtain⟨zs,kO,gX⟩:=Tu hT hR dF
 have aq:(results fn a'.tmps).run P w' = .ok (lT zs) w':=by
  have hm:=GQ (P:=P) (w:=w') _ kO;unfold results;rw[vr];simp only[Sem.run_bind,Sem.run_map]
  erw [hm]
  simp only[Result.andThen_ok,Sem.run_pure];exact jj (Result.ok · w') (Ld zs)
 have hlen:(cs.map Item.s++E.rn.map λk=>Item.b (σ'.bx k)).length-E.rn.length=cs.length:=by simp
 have hC:rawC E.rn (cs.map Item.s++E.rn.map λk=>Item.b (σ'.bx k))=cs:=by unfold rawC;rw[hlen,ye (by simp),List.map_map];exact List.map_id' _
 have hU:rawU E.rn (cs.map Item.s++E.rn.map λk=>Item.b (σ'.bx k))=E.rn.map λk=>(k,σ'.bx k):=by
  unfold rawU;rw[hlen,List.drop_left' (by simp),List.map_map];generalize E.rn=l;induction l with
  |nil=>rfl
  |cons x l ih=>simp only[jz,List.zip_cons_cons,ih];rfl
 have er:∀k∈E.rn,(emp.upd (E.rn.map λk=>(k,σ'.bx k))).bx k=σ'.bx k:=λk hk=>
  vM _ emp (by rw[List.map_map];simpa[Function.comp_def]using xu dv) (jn.2 ⟨k,hk,rfl⟩)
 have nJ:∀k b,(emp.upd (E.rn.map λk=>(k,σ'.bx k))).bx k = .live b->k∈E.rn/\σ'.bx k = .live b:=by
  intro k b hb;by_cases hk:k∈E.rn
  .exact⟨hk,(er k hk).symm.trans hb⟩
  .rw[kN]at hb
   .simp[emp]at hb
   .rw[qm];intro x hx he;obtain⟨y,hy,rfl⟩:=jn.1 hx;simp only[zr]at he;exact hk (he▸hy)
 have Lj:∀k b,σ'.bx k = .live b->k∈E.rn->ez S' w' γ' (emp.upd (E.rn.map λk=>(k,σ'.bx k))).bx k b:=by
  intro k b hb hk;have h1:=hR.box k b hb;have h2:=(Bool.and_eq_true_iff.1 (jq.1 AR k hk)).2;rw[hb]at h2;cases b with
  |cell ls f=>obtain⟨g,cur,e,q1,q2,q3,q4⟩:=h1;exact⟨g,cur,e,q1,q2,Li er h2 q3,q4⟩
  |lst e t xs f=>exact h1
  |arr n t xs=>exact h1
 have rI:All2 (bC S' w' γ' (emp.upd (E.rn.map λk=>(k,σ'.bx k))).bx) cs zs:=by
  have go:∀(cs:List Cel)(zs:List Value),cs.all (I5 E.rn)=true->All2 (bC S' w' γ' σ'.bx) cs zs->All2 (bC S' w' γ' (emp.upd (E.rn.map λk=>(k,σ'.bx k))).bx) cs zs:=by
   intro cs;induction cs with
   |nil=>intro zs _ h;cases zs with|nil=>trivial|cons _ _=>exact h.elim
   |cons c cs ih=>
    intro zs eN h;cases zs with
    |nil=>exact h.elim
    |cons z zs=>simp only[v8,ja]at eN;exact⟨jpi er eN.1 h.1,ih zs eN.2 h.2⟩
  exact go cs zs eN gX
 have nL:dR args vals=[]:=by
  clear aq rI hR;induction args generalizing vals with
  |nil=>cases vals<;>rfl
  |cons x xs ih=>
   cases vals with
   |nil=>rfl
   |cons v vs=>simp only[v8,ja]at cD;have:=ih ha.2 cD.2;cases x<;>simp_all[dR,jW,I6]
 have dK:kW S' w' args vals []:=by
  clear aq rI hR nL;induction args generalizing vals with
  |nil=>cases vals with|nil=>trivial|cons _ _=>exact ha.elim
  |cons x xs ih=>
   cases vals with
   |nil=>exact ha.elim
   |cons v vs=>simp only[v8,ja]at cD;have:=ih ha.2 cD.2;cases x<;>first|exact this|(simp[I6]at cD)
 refine⟨lT zs,aq,_,hk,lT zs,S',[lT zs],rfl,⟨rfl,⟨trivial,trivial⟩,λg hg=>by simp[fI,mG,kV]at hg,by simp[fI,mG,kV],dK,λg o hs=>⟨hR.ext g o hs,?_⟩,λg o h=>(hR.new g o h).imp id (λh=>h.imp id And.left),hR.here,
  hR.below,hR.grow,hR.os,hR.tape,hR.output,λns s he=>?_,λm hm=>by simp at hm⟩⟩
 .refine World.cell?_of_block (hR.below g (hS g o hs) (λhm=>?_));have hm:g∈dR args vals:=hm;rw[nL]at hm;simp at hm
 .simp only[vi,RV.raw.injEq,and_true]at he;obtain⟨rfl,rfl⟩:=he;refine⟨γ',zs,rfl,by rw[hC,hU];exact rI,λk b hb=>?_,λk b g hb hg=>?_,λk k' b b' g aN hb ax hg ah=>?_⟩
  .rw[hU]at hb ⊢;obtain⟨h1,h2⟩:=nJ k b hb;exact Lj k b h2 h1
  .rw[hU]at hb;obtain⟨h1,h2⟩:=nJ k b hb;rcases hR.own k b g h2 hg with h|h
   .rcases h with h|h
    .exact h
    .have hm:g∈dR args vals:=h.2;rw[nL]at hm;simp at hm
   .have:=(Bool.and_eq_true_iff.1 (jq.1 AR k h1)).1;rw[h.2]at this;simp at this
  .rw[hU]at hb ax;exact hR.apart k k' b b' g aN (nJ k b hb).2 (nJ k' b' ax).2 hg ah
theorem Lk{P:Program}{fn:Func}{n:Nat}{R:Ending->World->Prop}:∀(ds:List Deferred){refs:Refs}{σ:St}{a:Go.Act}{w:World}{S:ay}{γ:Nat->Value},refs.ds=ds->xW w0 refs->Rel N np S0 w0 refs σ a w S γ->
  (∀w2,Rel N np S0 w0 ⟨refs.blks,refs.val,[],λ_=>none,λ_=>none,refs.mv⟩ σ { a with defers:=[] } w2 S γ->LeavesIn (FR none) n P fn a.tmps R [] .returning w2)->LeavesInM (FR none) n P fn a.tmps R ds .returning w
 |[],refs,σ,a,w,S,γ,hd,hm,hR,h=>h w (hR.swap rfl rfl hR.size rfl hR.slot (λg o h=>by simp at h) (λi v h=>by simp at h))
 |d::ds,refs,σ,a,w,S,γ,hd,hm,hR,h=>by
  obtain⟨dv,al⟩:=hm;rw[hd]at dv;obtain⟨D,rfl,h1,h2⟩:=al d (by rw[hd];simp);refine⟨by simp,.inl ⟨D,_,rfl,run_takeDeferred (hR.kept D _ h2).1,?_⟩⟩;have aU:=hR.putO (o':= .deferred none) h2 h1 rfl rfl
  have bU:=aU.swap (a':={ a with defers:=ds }) (refs':=⟨refs.blks,refs.val,ds,λg=>if g=D then none else refs.kw g,refs.fix,refs.mv⟩) rfl rfl hR.size rfl aU.slot (λg o hg=>aU.kept g o (by
   simp only at hg ⊢;split at hg
   .simp at hg
   .rename_i e;rw[if_neg e];exact hg)) aU.fix
  refine Lk (a:={ a with defers:=ds }) (refs:=⟨refs.blks,refs.val,ds,λg=>if g=D then none else refs.kw g,refs.fix,refs.mv⟩) ds rfl ⟨(q8.1 dv).2,λd' gm=>?_⟩ bU (λw2 hw=>h w2 hw);obtain⟨D',rfl,q1,q2⟩:=al d' (by rw[hd];simp[gm]);refine⟨D',rfl,q1,?_⟩;show (if D'=D then none else refs.kw D')=_;rw[if_neg,q2]
  rintro rfl
  exact(q8.1 dv).1 gm
theorem Tw{P:Program}{E:Env}(hT:ca P E.T)(hC:iU P E.C)(hF:CFun E.C)(gC:P.follows .mixedOrders=true){f:Nat}{fn:Func}{c:Code}(hf:P.funcs[f]? = some fn)(hb:fn.body=some c)(hN:fn.ntmps=E.N.n)(kY:E.N.pin=λ_=>false)(ib:∀f t,E.bw f=some t->BwK P f t)(ow:E.np<=E.N.n)
  (bT : (fn.name == "runtime.NumGoroutine") = false) (hL : ∀ x ∈ fq 0 c, CY E x.1 x.2 ∧ MrOK E x.1 x.2) : FnOK P f (fun args _ k => td E fn args k) := by
 intro args R k r h;refine⟨⟨fn,hf,by rw[hb];rfl,bT⟩,?_⟩;intro w S vals ha dv hS;by_cases hlen:args.length=E.np
 case neg=>simp[td,hlen]at h
 case pos=>
 simp only[td,hb,hlen,if_true]at h;have vG:vals.length=E.np:=by rw[<-ha.length,hlen]
 obtain⟨hR0,ng⟩:=jvf (N:=E.N) ha dv hS hlen ow;refine jx8 (n:=0) (ro:=none) (callsIn_of_wp_marks hf hb trivial ?_);rw[hN];refine wpIn_mono (jrB gC c (ro:=none) hT hC hF ib (.inr ⟨rfl,kY⟩) 0 0 ⟨zg,λd hd=>by simp[o9]at hd⟩ hL hR0 ng h) ?_
 rintro e a0 w1 ⟨refs',ex,σ',S',γ',hle,_,rfl,aU,fY,hk⟩
 have gf:∀(hk:(match tc E fn args σ' with|some r=>k r|none=>none)=some r)(w':World),Rel E.N E.np S w ⟨refs'.blks,refs'.val,[],λ_=>none,λ_=>none,refs'.mv⟩ σ' { a0 with defers:=[] } w' S' γ'->∃v,(results fn a0.tmps).run P w' = .ok v w'/\
   ∃ret,k ret=some r/\∃v' S' vs,Ending.returned v = .returned v'/\Ge w S args vals ret v' w' S' vs:=by
  intro hk w' hR;have hR:Rel E.N E.np S w (o9 args vals) σ' { a0 with defers:=[] } w' S' γ':=hR.swap hle.blks.symm hle.val.symm hR.size rfl hR.slot (λg o h=>by simp[o9]at h) (λi v h=>by simp[o9]at h) hle.mv.symm;generalize AU:({ a0 with defers:=[] }:Go.Act)=a' at hR;have oW:a0.tmps=a'.tmps:=by rw[<-AU]
  rw[oW];cases bO:tc E fn args σ' with
  |none=>simp[bO]at hk
  |some ret=>
  simp only[bO]at hk;by_cases iC:E.rw=true
  .exact jxc hT hR ha hS iC bO hk
  by_cases rE:E.hd=true
  .exact jyh hT hR ha hS iC rE bO hk
  have yq:∃vs ks u os u',pJ E σ' E.ro fn.results.toList fn.resultTypes.toList=some (vs,ks,u)/\outs E.np σ' 0 args=some (os,u')/\
    oa ks=true/\(u++u').all (λe=> !ks.contains e.1)=true/\∃jA,nilV E σ' fn.results.toList vs=some jA/\ret=⟨jA,os⟩:=by
   unfold tc at bO;rw[if_neg iC,if_neg rE]at bO;split at bO
   .rename_i vs ks u os u' ik oT;split at bO
    .rename_i bM;split at bO
     .rename_i jA yr;simp only[j4]at bO;simp only[ja]at bM;exact⟨vs,ks,u,os,u',ik,oT,bM.1,bM.2,jA,yr,bO.symm⟩
     .simp at bO
    .simp at bO
   .simp at bO
  obtain⟨vs,ks,u,os,u',ik,oT,qO,xz,jA,yr,rfl⟩:=yq;obtain⟨zs,kO,f1,p1,n1,r1⟩:=Tr hT hR ik;have fh:(∀S' w',All2 (pQ S' w') vs zs->All2 (pQ S' w') jA zs)/\fI jA zs=fI vs zs/\(∀m,jA=[.hd m]->vs=[.hd m])/\∀ns s,jA=[.raw ns s]->vs=[.raw ns s]:=jvg hT hR kO yr;have eA:∀(j:Nat)(x:Arg)(v:Value),args[j]? = some x->vals[j]? = some v->yp x=true->γ' ((0+j)*64)=v:=by intro j x v hx hv hr;refine(hR.par ((0+j)*64) v ?_).2.2;simp only[o9,Dn];rw[if_pos (by omega),yf _ (by omega),k9,hx];simp[hr,hv]
  obtain⟨f2,r2⟩:=K8 hR oT ha.length eA;obtain⟨S2,bU,cM,qW,dI⟩:=od (u++u') σ' S' hR (FrzL.app.2 ⟨f1,f2⟩);obtain⟨Ll,Lm⟩:=Froz.app.1 qW
  have oV:∀k b,(u++u').any (λy=>y.1==k)=false->σ'.bx k = .live b->Uns b->∀g,blk (γ' k)=some g->∀o,¬S2 g o:=by
   intro k b hk hb lW g hg o;have dX:(σ'.upd (u++u')).bx k = .live b:=(kN _ _ hk).trans hb;have cC:=bU.box k b dX;rcases lW with⟨ls,rfl⟩|⟨e,t,xs,rfl⟩
   .obtain⟨g',cur,e,ah,_,_,_,hS,_⟩:=cC;rw[ah]at hg;simp[blk]at hg;subst hg;exact hS rfl o
   .exact(cC.2 g hg).1 rfl o
  have uh:∀k∈ks,(u++u').any (λy=>y.1==k)=false:=by intro k hk;rw[qm];intro y hy he;have:=jq.1 xz y hy;simp only[zr]at he;rw[he]at this;simp[hk]at this
  have jD:∀k,parK E.np k=true->(u++u').any (λy=>y.1==k)=false:=by intro k hk;rw[qm];intro y hy he;simp only[zr]at he;have:=(FrzL.app.2 ⟨f1,f2⟩ y hy).1;rw[he,hk]at this;simp at this
  have Dr:=r1 S2 cM Ll (λk hk g hg=>by
   obtain⟨⟨b,hb,hu⟩,_⟩:=p1 k hk;exact oV k b (uh k hk) hb hu g hg)
  have dK:=r2 S2 cM Lm (λj x v g hx hv hr Lg hg=>by
   obtain⟨b,hb,hu⟩:=Lg;have hj:j<args.length:=(jt.1 hx).1;exact oV ((0+j)*64) b (jD _ (by simp[parK];omega)) hb hu g (by rw[eA j x v hx hv hr];exact hg))
  have aq:(results fn a'.tmps).run P w' = .ok (lT zs) w':=by
   have hm:=GQ (P:=P) (w:=w') _ kO;unfold results;rw[vr];simp only[Sem.run_bind,Sem.run_map]
   erw [hm]
   simp only[Result.andThen_ok,Sem.run_pure];exact jj (Result.ok · w') (Ld zs)
  have hnh:∀m,jA=[.hd m]->∃ad len cap,Gd args vals=some (.slice ad len cap)/\m<=len/\zs=[.slice ad m cap]:=λm hm=>by
   exact absurd (fh.2.2.1 m hm) (jlU ik m)
  have hnr:∀ns s,jA=[.raw ns s]->JF w.heap.size S2 w' ns s (lT zs):=λns s hm=>absurd (fh.2.2.2 ns s hm) (jk4 ik ns s);refine⟨lT zs,aq,⟨jA,os⟩,hk,lT zs,S2,zs,rfl,⟨rfl,fh.1 _ _ Dr,λg hg=>?_,?_,dK,λg o hs=>⟨bU.ext g o hs,?_⟩,λg o h=>(bU.new g o h).imp id (λh=>h.imp id And.left),bU.here,bU.below,bU.grow,bU.os,bU.tape,bU.output,hnr,hnh⟩⟩
  .rw[fh.2.1,n1]at hg;obtain⟨k,bc,hkg⟩:=zv.1 hg;obtain⟨⟨b,hb,_⟩,hp⟩:=p1 k bc;rcases hR.own k b g hb hkg with h|h
   .exact h.imp id And.left
   .rw[hp]at h;simp at h
  .rw[fh.2.1,n1];exact JH hR (xu qO) (λk bc=>by obtain⟨⟨b,hb,_⟩,_⟩:=p1 k bc;exact⟨b,hb⟩)
  .refine World.cell?_of_block (bU.below g (hS g o hs) (λhm=>?_));obtain⟨i,x,v,hx,hv,hb⟩:=Lc hm;obtain⟨v',gx,Lh⟩:=ha.get i x hx;rw[hv]at gx;simp at gx;subst gx;exact Tt Lh hb o hs
 cases ex with
 |exit i=>simp at hk
 |normal=>exact Lk a0.defers aU.defers.symm hle.marks aU (λw2 hw=>gf hk w2 hw)
 |ret=>exact Lk a0.defers aU.defers.symm hle.marks aU (λw2 hw=>gf hk w2 hw)
end
section
variable{E:Env}
def LFun(L:Nat->Snap->(R:Type)->(Ex->Snap->Option R)->Option R):Prop:=
 ∀b s,∃o:Option (Ex×Snap),∀(R:Type)(k:Ex->Snap->Option R),L b s R k=o.bind λx=>k x.1 x.2
def MFun(M:Nat->Snap->(R:Type)->(Snap->Option R)->Option R):Prop:=∀b s,∃o:Option Snap,∀(R:Type)(k:Snap->Option R),M b s R k=o.bind k
def Det{α:Type}(f:(R:Type)->(α->Option R)->Option R):Prop:=∃o:Option α,∀(R:Type)(k:α->Option R),f R k=o.bind k
theorem Det.val{α:Type}(x:α):Det (λ_ k=>k x):=⟨some x,λ_ _=>rfl⟩
theorem Det.no{α:Type}:Det (λR (_:α->Option R)=>none):=⟨none,λ_ _=>rfl⟩
theorem Det.cond{α:Type}{f g:(R:Type)->(α->Option R)->Option R}(b:Bool)(h:Det f)(h':Det g):Det (λR k=>cond b (f R k) (g R k)):=by
 cases b with
 |true=>exact h
 |false=>exact h'
theorem Det.bind{α β:Type}{f:(R:Type)->(α->Option R)->Option R}{g:α->(R:Type)->(β->Option R)->Option R}(h:Det f)(h':∀a,Det (g a)):Det (λR k=>f R λa=>g a R k):=by
 obtain⟨o,ho⟩:=h;cases o with
 |none=>exact⟨none,λR k=>ho R _⟩
 |some a=>obtain⟨o',xR⟩:=h' a;exact⟨o',λR k=>(ho R _).trans (xR R k)⟩
theorem Det.congr{α:Type}{f g:(R:Type)->(α->Option R)->Option R}(h:Det f)(e:∀R k,g R k=f R k):Det g:=by
 obtain⟨o,ho⟩:=h;exact⟨o,λR k=>(e R k).trans (ho R k)⟩
theorem GV(hF:CFun E.C)(hz:E.nz=false)(p:Bool)(σ:St)(act:List (Nat×Bool))(o:Oper):Det (λR (k:St->Option R)=>run1 E p σ act o k):=by
 unfold run1;simp only[hz,j6];split
 .exact .no
 .exact .cond _ (.val _) .no
 .rename_i f args mk _;refine Det.bind (f:=λR k=>E.C f args R k) (hF f args) λret=>?_;split
  .exact .val _
  .exact .no
theorem Tx:∀(l:List (Nat×Bool))(σ:St),Det (λR (k:St×Bool->Option R)=>uR l σ λa b=>k (a,b))
 |[],σ=> .val _
 |(s,w)::r,σ=>by
  simp only[uR]
  refine(Det.bind (Tx r σ) (g:=λx R k=>match x.2 with
   |true=>match IV r x.1 s with
    |some v=>cond v (k (x.1.setS s (.one (.one (.d .bool true))),w)) (k (x.1.setS s (.one (.one (.d .bool false))), !w))
    |none=>none
   |false=>k (x.1,false)) λx=>?_).congr λR k=>rfl
  obtain⟨σ1,a⟩:=x;cases a with
  |true=>
   dsimp only
   split
   .exact .cond _ (.val _) (.val _)
   .exact .no
  |false=>exact .val _
theorem jtb(hF:CFun E.C)(hz:E.nz=false)(ops:Array Oper)(σ:St)(o:Oper):Det (λR (k:St->Option R)=>BH E ops σ o k):=by
 unfold BH;split
 .split
  .exact GV hF hz _ _ _ _
  .exact .no
 .rename_i g _
  have qF:Det (λR (k:St->Option R)=>uR (σ.chain 40 g) σ λσ' a=>match a with
    |true=>run1 E true σ' (σ.chain 40 g) o k
    |false=>k (σ'.put o.dst (.one (.one .dead)))):=by
   refine(Det.bind (Tx (σ.chain 40 g) σ) (g:=λx R k=>match x.2 with
    |true=>run1 E true x.1 (σ.chain 40 g) o k
    |false=>k (x.1.put o.dst (.one (.one .dead)))) λx=>?_).congr λR k=>rfl
   obtain⟨σ1,a⟩:=x;cases a with
   |true=>exact GV hF hz _ _ _ _
   |false=>exact .val _
  dsimp only
  split
  .split
   .exact .cond _ (.val _) .no
   .exact qF
  .exact qF
theorem GW(hF:CFun E.C)(hz:E.nz=false):∀(l:List Oper)(σ:St),Det (λR (k:St->Option R)=>mz E l σ k)
 |[],σ=> .val _
 |o::os,σ=>by
  simp only[mz];split
  .exact Det.bind (GV hF hz false σ [] o) λσ'=>GW hF hz os σ'
  .exact .no
theorem Tz(hF:CFun E.C)(hz:E.nz=false)(ops:Array Oper):∀(l:List Oper)(σ:St),Det (λR (k:St->Option R)=>zU E ops l σ k)
 |[],σ=> .val _
 |o::os,σ=>by
  simp only[zU];split
  .exact Det.bind (jtb hF hz ops σ o) λσ'=>Tz hF hz ops os σ'
  .exact .no
theorem jpj(hF:CFun E.C)(hz:E.nz=false)(ops:Array Oper)(σ:St):Det (λR (k:St->Option R)=>pG E ops σ k):=by
 unfold pG;split
 .exact GW hF hz _ _
 .exact Tz hF hz _ _ _
theorem TA(hF:CFun E.C)(hz:E.nz=false)(σ:St)(o:Oper):Det (λR (k:St->Option R)=>runK E σ o k):=by
 unfold runK;split
 .rename_i c σ' _;exact .cond c (.val σ') .no
 .exact GV hF hz false σ [] o
theorem Ln(hF:CFun E.C)(hz:E.nz=false):∀(l:List Oper)(σ:St),Det (λR (k:St->Option R)=>sX E l σ k)
 |[],σ=> .val σ
 |[o],σ=>by
  simp only[sX];split
  .exact TA hF hz σ o
  .exact .no
 |o::o2::os,σ=>by
  simp only[sX];split
  .split
   .split
    .exact .cond _ (Ln hF hz os _) .no
    .exact .no
   .exact Det.bind (TA hF hz σ o) λσ'=>Ln hF hz (o2::os) σ'
  .exact .no
theorem jtc(hF:CFun E.C)(hz:E.nz=false)(ops:Array Oper)(σ:St):Det (λR (k:St->Option R)=>BI E ops σ k):=by
 unfold BI;split
 .exact Ln hF hz _ _
 .exact .no
theorem Lo(hF:CFun E.C)(hz:E.nz=false)(M Ai:List Nat)(σ:St)(o:Oper):Det (λR (k:St->Option R)=>runD E M Ai σ o k):=by
 unfold runD;split
 .exact .no
 .split
  .exact .cond _ (.val _) .no
  .exact .no
 .rename_i f args mk _;refine Det.bind (f:=λR k=>E.C f args R k) (hF f args) λret=>?_;split
  .split
   .exact .val _
   .exact .no
  .exact .no
theorem jrC(hF:CFun E.C)(hz:E.nz=false)(ops:Array Oper)(M Ai:List Nat)(σ:St)(o:Oper):Det (λR (k:St->Option R)=>BL E ops M Ai σ o k):=by
 unfold BL;split
 .exact Lo hF hz _ _ _ _
 .split
  .split
   .exact .cond _ (.cond _ (Lo hF hz _ _ _ _) (.val _)) (.cond _ (.val _) (Lo hF hz _ _ _ _))
   .exact .val _
   .exact .no
  .exact .no
theorem TB(hF:CFun E.C)(hz:E.nz=false)(ops:Array Oper)(cl:List Nat)(A:List (List Nat)):∀(l:List Oper)(i:Nat)(σ:St),Det (λR (k:St->Option R)=>zV E ops cl A l i σ k)
 |[],_,σ=> .val _
 |o::os,i,σ=>by
  simp only[zV];split
  .exact Det.bind (jrC hF hz ops _ _ σ o) λσ'=>TB hF hz ops cl A os (i+1) σ'
  .exact .no
theorem jnN(hF:CFun E.C)(hz:E.nz=false)(ops:Array Oper)(A:List (List Nat))(σ:St):Det (λR (k:St->Option R)=>BM E ops A σ k):=by
 unfold BM;split
 .exact TB hF hz _ _ _ _ _ _
 .exact .no
theorem Lp(np:Nat):∀(gs:List Gh)(σ:St),Det (λR (k:St->Option R)=>w7 np gs σ k)
 |[],σ=> .val _
 |g::gs,σ=>by
  simp only[w7];split
  .exact .cond _ (Lp np gs _) .no
  .exact .no
theorem TC{f:(R:Type)->St->(Ex->St->Option R)->Option R}(hf:∀σ,Det (λR (k:Ex×St->Option R)=>f R σ λe σ'=>k (e,σ'))):∀(n:Nat)(σ:St),
  Det (λR (k:Ex×St->Option R)=>uV (f R) n σ λe σ'=>k (e,σ'))
 |0,σ=> .no
 |n+1,σ=>by
  refine(Det.bind (hf σ) (g:=λz R k=>match z.1 with
   |.normal=>uV (f R) n z.2 λe σ'=>k (e,σ')
   |e=>k (e,z.2)) λz=>?_).congr λR k=>by
    simp only[uV];congr 1;try (funext e σ';cases e<;>rfl)
  obtain⟨e,σ'⟩:=z;cases e with
  |normal=>exact TC hf n σ'
  |exit i=>exact .val _
  |ret=>exact .val _
theorem jrD(hF:CFun E.C)(hz:E.nz=false)(hM:MFun E.M)(x y:Code)(σ:St):Det (λR (k:Ex×St->Option R)=>BT E x y σ λe σ'=>k (e,σ')):=by
 unfold BT;split
 .rename_i b _;split
  .split
   .refine .cond _ (Det.bind (GW hF hz _ σ) λσ1=>?_) .no;unfold mrGo;split
    .refine .cond _ ?_ .no;split
     .rename_i s _;obtain⟨o,ho⟩:=hM b s;exact Det.bind (f:=λR k=>E.M b s R k) ⟨o,λR k=>ho R _⟩ (g:=λs' R k=>k (Ex.normal,cw E.np (E.keep b) s')) λz=> .val (Ex.normal,cw E.np (E.keep b) z)
     .exact .no
    .exact .no
   .exact .no
  .exact .no
 .exact .no
theorem Ds(hF:CFun E.C)(hz:E.nz=false)(hL:LFun E.L/\MFun E.M):∀(c:Code)(b:Nat)(σ:St),Det (λR (k:Ex×St->Option R)=>fa E b c σ λe σ'=>k (e,σ')):=by
 intro c;induction c with
 |skip=>intro b σ;exact .val _
 |region id ops draw=>
  intro b σ;cases draw with
  |true=>exact Det.bind (Lp E.np (E.pre id) σ) λσ1=>Det.bind (jnN hF hz ops (E.dw id) σ1) λσ'=> .val (Ex.normal,σ')
  |false=>exact Det.bind (Lp E.np (E.pre id) σ) λσ1=> .cond _ (Det.bind (jtc hF hz ops σ1) λσ'=> .val (Ex.normal,σ')) (Det.bind (jpj hF hz ops σ1) λσ'=> .val (Ex.normal,σ'))
 |seq x y rv ry=>
  intro b σ;simp only[fa];refine .cond _ (jrD hF hz hL.2 x y σ) ?_
  refine(Det.bind (rv b σ) (g:=λz R k=>match z.1 with
   |.normal=>fa E b y z.2 λe σ'=>k (e,σ')
   |e=>k (e,z.2)) λz=>?_).congr λR k=>by
    congr 1
    try (funext e σ';cases e<;>rfl)
  obtain⟨e,σ'⟩:=z;cases e with
  |normal=>exact ry b σ'
  |exit i=>exact .val _
  |ret=>exact .val _
 |cond c x y rv ry=>
  intro b σ;simp only[fa];split
  .exact .cond _ (rv b σ) (ry b σ)
  .exact .no
 |block id c ih=>
  intro b σ
  refine(Det.bind (ih id σ) (g:=λz R k=>match z.1 with
   |.exit i=>if i=id then k (.normal,z.2) else k (.exit i,z.2)
   |e=>k (e,z.2)) λz=>?_).congr λR k=>by
    simp only[fa];congr 1;try (funext e σ';cases e<;>rfl)
  obtain⟨e,σ'⟩:=z;cases e with
  |normal=>exact .val _
  |exit i=>
   dsimp only
   split
   .exact .val _
   .exact .val _
  |ret=>exact .val _
 |loop c ih=>
  intro b σ;simp only[fa];refine .cond _ .no (.cond _ ?_ ?_)
  .exact TC (f:=λR σ k=>fa E b c σ k) (λσ=>ih b σ) 2 σ
  split
  .rename_i s _;obtain⟨o,ho⟩:=hL.1 b s;exact Det.bind (f:=λR k=>E.L b s R λe s'=>k (e,s')) ⟨o,λR k=>ho R _⟩ (g:=λz R k=>k (z.1,cw E.np (E.keepX b z.1) z.2)) λz=> .val _
  .exact .no
 |rangeFunc g ps x y _ _=>
  intro b σ;simp only[fa];split
  .split
   .rename_i kd _;split
    .rename_i s _;obtain⟨o,ho⟩:=hL.1 b (.s (.one (.d (.int .i64) (BP kd (List.length _))))::s);exact Det.bind (f:=λR k=>E.L b _ R λe s'=>k (e,s')) ⟨o,λR k=>ho R _⟩ (g:=λz R k=>k (z.1,cw E.np (E.keepX b z.1) z.2)) λz=> .val _
    .exact .no
   .exact .no
  .exact .no
 |scope c ih=>intro b σ;exact ih b σ
 |label l=>intro b σ;exact .val _
 |exit i=>intro b σ;exact .val _
 |ret=>intro b σ;exact .val _
 |_=>intro b σ;exact .no
theorem jpk(hF:CFun E.C)(hz:E.nz=false)(hL:LFun E.L/\MFun E.M)(b:Nat)(g:Operand)(ps:Array Nat)(x y:Code)(s:Snap) :
  Det (λR (k:Option (List Item)×Ex×St->Option R)=>BU E b g ps x y s λp e σ'=>k (p,e,σ')):=by
 unfold BU;split
 .rename_i n s0;split
  .split
   .rename_i kd _;refine .cond _ (.val _) (.cond _ ?_ .no)
    refine(Det.bind (Ds (E:=E.rnd ps x y) hF hz hL x 0 _) (g:=λz R k=>match z.1 with
     |.normal=>fa (E.rnd ps x y) 0 y z.2 λe σ'=>k (some [.s (.one (.d (.int .i64) (BQ kd n)))],e,σ')
     |_=>none) λz=>?_).congr λR k=>by
      congr 1
      try (funext e σ';cases e<;>rfl)
    obtain⟨e,σ'⟩:=z;cases e with
    |normal=>exact Det.bind (Ds (E:=E.rnd ps x y) hF hz hL y 0 σ') λz=> .val (_,z)
    |exit i=>exact .no
    |ret=>exact .no
   .exact .no
  .exact .no
 .exact .no
theorem jrE(hF:CFun E.C)(hz:E.nz=false)(hL:LFun E.L/\MFun E.M)(b:Nat)(p:MrP)(m:Nat)(s:Snap)(v:Ty)(q:Int)(z:v.den):Det (λR (k:Snap->Option R)=>Ac E b p m s v q z k):=by
 unfold Ac;refine Det.bind (GW (E:=E.mrE p.it m) hF hz _ _) λσ1=>?_
 refine(Det.bind (Ds (E:=E.mrE p.it m) hF hz hL p.rest p.b6 σ1) (g:=λz R k=>cond (mrNx p.b6 z.1) (match iv E.np (E.keep b) z.2 with
  |some s'=>k s'
  |none=>none) none) λz=> .cond _ ?_ .no).congr λR k=>rfl
 split
 .exact .val _
 .exact .no
theorem jrF(hF:CFun E.C)(hz:E.nz=false)(hL:LFun E.L/\MFun E.M)(fn:Func)(args:List Arg):Det (λR (k:Ret->Option R)=>td E fn args k):=by
 unfold td;split
 .split
  .rename_i c _
   refine(Det.bind (Ds hF hz hL c 0 (St.init args)) (g:=λz R k=>match z.1 with
    |.exit _=>none
    |_=>match tc E fn args z.2 with
     |some r=>k r
     |none=>none) λz=>?_).congr λR k=>rfl
   obtain⟨e,σ'⟩:=z;cases e<;>dsimp only<;>(try split)<;>first|exact .no|exact .val _
  .exact .no
 .exact .no
end
end Go.Lft
