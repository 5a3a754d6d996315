/- Ho: what they do is what the pk says. -/
import Derived.Test.YtjpgjpnfacnmaaaGreatLSLB
import Derived.Laws.Cover3
import Derived.RangeFuncNested
import Derived.OrdersIn
import Derived.Maps.Range
set_option linter.unusedVariables false
namespace Go.Lft
section
variable{N:NT}{np:Nat}{S0:aP}{w0:World}{refs:Refs}{σ:St}{a:Go.Act}{w:World}{S:aP}{γ:Nat->Value}
def dp(σ:St):Prop:=∀i,(σ.sl i).bare=true
theorem oa{d:Nat}(hd:d<a.tmps.size)(v:Value)(j:Nat):tm (a.put (some d) v) j=if j=d then v else tm a j:=by
 unfold tm Go.Act.put;by_cases h:j=d
 .subst h;simp[hd]
 .have h':d≠j:=λe=>h e.symm;simp[h,Array.getElem?_setIfInBounds_ne h']
theorem Ui{bx:Nat->BS}{d:Nat}(hd:d<a.tmps.size){v u:Value}{x:Slot}(h:iH S w γ bx (tm a) x u):iH S w γ bx (tm (a.put (some d) v)) (kill d x) u:=by
 cases x with
 |one c=>exact h
 |tup l=>exact h
 |und=>exact h
 |cnd s b c=>
  simp only[kill];split
  .exact⟨trivial,λh=>absurd rfl h⟩
  .rename_i bk;simp only[iH,oa hd,if_neg bk];exact h
theorem qT(dst:Option Nat)(v:Value):(a.put dst v).tmps.size=a.tmps.size:=by cases dst<;>simp[Go.Act.put]
theorem wF(dst:Option Nat)(v:Value):(a.put dst v).defers=a.defers:=by cases dst<;>rfl
theorem Dj(hR:Rel N np S0 w0 refs σ a w S γ){dst:Option Nat}(hd:∀d,dst=some d->N.ok d){s:Slot}{v:Value}(hs:iH S w γ σ.bx (tm a) s v) :
  Rel N np S0 w0 refs (σ.put dst s) (a.put dst v) w S γ:=by
 cases dst with
 |none=>exact hR
 |some d=>
  have gx:d<a.tmps.size:=by rw[hR.size];exact(hd d rfl).1
  refine⟨(qT _ _).trans hR.size,(wF _ _).trans hR.defers,λi=>?_,hR.box,hR.own,hR.apart,hR.ext,hR.new,hR.here,hR.below,hR.grow,hR.os,hR.tape,hR.output,hR.par,hR.kept,λi u h=>?_⟩
  .show iH S w γ σ.bx (tm (a.put (some d) v)) (kill d (if i=d then s else σ.sl i)) (tm (a.put (some d) v) i);rw[oa gx];split
   .exact Ui gx hs
   .exact Ui gx (hR.slot i)
  .obtain⟨h1,h2⟩:=hR.fix i u h;refine⟨h1,?_⟩;show tm (a.put (some d) v) i=u;rw[oa gx,if_neg]
   .exact h2
   .rintro rfl
    have:=(hd i rfl).2;rw[h1]at this;simp at this
theorem Uj{d:Nat}{x:Slot}(h:x.bare=true):kill d x=x:=by cases x<;>first|rfl|simp[Slot.bare]at h
theorem Bp(hR:Rel N np S0 w0 refs σ a w S γ)(hc:dp σ){dst:Option Nat}(hd:∀d,dst=some d->N.ok d){s:Slot}{v:Value}(hs:iH S w γ σ.bx (tm a) s v)(hb:s.bare=true) :
  Rel N np S0 w0 refs (σ.setD dst s) (a.put dst v) w S γ/\dp (σ.setD dst s):=by
 have he:σ.setD dst s=σ.put dst s:=by
  cases dst with
  |none=>rfl
  |some d=>
   simp only[St.setD,St.setS,St.put];congr 1;funext j;split
   .exact(Uj hb).symm
   .exact(Uj (hc j)).symm
 refine⟨he▸Dj hR hd hs,λi=>?_⟩;cases dst with
 |none=>exact hc i
 |some d=>
  simp only[St.setD,St.setS];split
  .exact hb
  .exact hc i
theorem yD{o:Oper}(h:mu N o=true):∀d,o.dst=some d->N.ok d:=by
 intro d hd;simpa[mu,hd,NT.ok]using h
theorem Uk{u:Ups}(h:dp σ):dp (σ.upd u):=by
 intro i;rw[AV];exact h i
theorem jw3{P:Program}{E:Env}(hT:cO P E.T)(hR:Rel E.N E.np S0 w0 refs σ a w S γ){o:Oper}{e:Bool}(h:nilT E σ o=some e) :
  ∃v b,(execOp a.eval o).run P w = .ok (.value v) w/\v = .bool b/\(b=true->e=true):=by
 unfold nilT at h;split at h
 .rename_i t x y ty ca;split at h
  .rename_i el xs ti hx hy wg;split at h
   .rename_i hl;simp only[j5]at h;subst h;have ex:=mw hR x;have ey:=mw hR y;rw[hx]at ex;rw[hy]at ey;obtain⟨ad,cap,dE,hlen,_,Dk,_⟩:=ex.1;have Bq:a.eval x = .slice ad (List.length xs) cap:=by simpa using dE
    have Lh:a.eval y = .slice none 0 0:=ey.1;obtain⟨a',bR⟩:=Tn hl;obtain⟨hd,_⟩:=oI hT wg bR;refine⟨.bool ad.isNone,ad.isNone,?_,rfl,λhb=>?_⟩
    .simp only[execOp,ca,Bq,Lh,eqGuard,binOp];simp[run_equal_slice_nil w t ti.elem ad (List.length xs) cap hd]
    .have:ad=none:=by cases ad<;>simp_all
     have:=Dk this;have:List.length xs=0:=by omega
     cases xs with
     |nil=>rfl
     |cons=>simp at this
   .simp at h
  .simp at h
 .simp at h
theorem Br{P:Program}{E:Env}(hT:cO P E.T)(hC:jJ P E.C)(hR:Rel E.N E.np S0 w0 refs σ a w S γ){act:List (Nat×Bool)}(aZ:rD (tm a) act){p:Bool}
  (hc:p=false->dp σ){o:Oper}(hd:mu E.N o=true){R:Type}{k:St->Option R}{r:R}(h:run1 E p σ act o k=some r){next:Go.Act->World->Prop}{Q:Exit->Go.Act->World->Prop}
  (hn:∀σ' a' w' S' γ',Rel E.N E.np S0 w0 refs σ' a' w' S' γ'->(p=false->dp σ')->k σ'=some r->next a' w'):o.wp P a w next Q:=by
 have hd:=yD hd
 have dY:∀(u:Ups)(s:Slot)(v:Value)(w':World)(S':aP)(γ':Nat->Value),Rel E.N E.np S0 w0 refs (σ.upd u) a w' S' γ'->iH S' w' γ' (σ.upd u).bx (tm a) s v->s.bare=true->
   k (cond p ((σ.upd u).put o.dst s) ((σ.upd u).setD o.dst s))=some r->next (a.put o.dst v) w':=by
  intro u s v w' S' γ' bY hs hb hk;cases p with
  |true=>exact hn _ _ _ _ _ (Dj bY hd hs) (by simp) hk
  |false=>obtain⟨h1,h2⟩:=Bp bY (Uk (hc rfl)) hd hs hb;exact hn _ _ _ _ _ h1 (λ_=>h2) hk
 unfold run1 at h;split at h
 .rename_i e he
  have he:nilT E σ o=some e:=by
   cases hz:E.nz with
   |true=>rw[hz]at he;exact he
   |false=>rw[hz]at he;simp at he
  obtain⟨v,b,aL,rfl,hb⟩:=jw3 (P:=P) hT hR he;obtain⟨h1,h2⟩:=jsP h;unfold Oper.wp;rw[aL,Oper.upon_value];cases b with
  |true=>exact dY [] (.one (.one (.d .bool true))) (.bool true) w S γ hR ⟨rfl,λ_=>rfl⟩ rfl (h2 (hb rfl))
  |false=>exact dY [] (.one (.one (.d .bool false))) (.bool false) w S γ hR ⟨rfl,λ_=>rfl⟩ rfl h1
 split at h
 .simp at h
 .rename_i kG s u ho;cases kG with
  |false=>simp at h
  |true=>
   obtain⟨⟨v,w',S',γ',aL,bY,hs⟩,hb⟩:=Le hT hR aZ (λ_=> .inl rfl) ho;unfold Oper.wp;rcases aL with aL|⟨aL,rfl⟩
   .rw[aL,Oper.upon_value];exact dY u s v w' S' γ' bY hs hb h
   .rw[aL,Oper.upon_skip];exact dY u s undef w' S' γ' bY hs hb h
 .rename_i f args mk ho;obtain⟨hf,ee⟩:=hC f args R _ r h;obtain⟨vals,aL,ob,hb⟩:=Uh hR aZ (λ_=> .inl rfl) ho hf ee;unfold Oper.wp;rw[aL,Oper.upon_enter];refine ob.mono ?_
  rintro e w' ⟨ret,hk,au⟩
  split at hk
  .rename_i s u cI;obtain⟨v,S',γ',rfl,bY,hs⟩:=au s u cI;exact dY u s v w' S' γ' bY hs (hb ret s u cI) hk
  .simp at hk
theorem Li{P:Program}{E:Env}(hT:cO P E.T)(hC:jJ P E.C){ops:Array Oper}(ct:bare ops=true){R:Type}{k:St->Option R}{r:R}{Q:Exit->Go.Act->World->Prop}
  (hn:∀σ' a' w' S' γ',Rel E.N E.np S0 w0 refs σ' a' w' S' γ'->dp σ'->k σ'=some r->Q .normal a' w') :
  ∀(n i:Nat)(σ:St)(a:Go.Act)(w:World)(S:aP)(γ:Nat->Value),i+n=ops.size->Rel E.N E.np S0 w0 refs σ a w S γ->dp σ->mZ E (ops.toList.drop i) σ k=some r->
   wpOps P ops Q (List.range' i n) a w
 |0,i,σ,a,w,S,γ,hi,hR,hc,h=>by
  rw[jd (by simp;omega)]at h;exact hn _ _ _ _ _ hR hc h
 |n+1,i,σ,a,w,S,γ,hi,hR,hc,h=>by
  have ak:i<ops.size:=by omega
  rw[jb (by simpa using ak)]at h;simp only[mZ]at h;split at h
  .rename_i hd;have ho:ops[i]? = some ops[i]:=ju ak;simp only[zu,wpOps,ho];have hg:ops[i].guard=none:=by have:=jy.1 ct ops[i] (by simp);simpa using this
   have hw:Region.wanted ops[i] (yielded ops a.tmps)=true:=by simp[Region.wanted,hg]
   simp only[hw,if_true];refine .inl (Br hT hC hR (act:=[]) (λg hg=>by simp at hg) (p:=false) (λ_=>hc) (by simpa using hd) (by simpa using h) (λσ' a' w' S' γ' bY dq hk=>?_));exact Li hT hC ct hn n (i+1) σ' a' w' S' γ' (by omega) bY (dq rfl) hk
  .simp at h
theorem Hp{ops:Array Oper}{o:Oper}{g:Nat×Bool}(h:pq ops o=some g):Region.wanted o (yielded ops a.tmps)=true↔tm a g.1 = .bool g.2:=by
 unfold pq at h;split at h
 .simp at h
 .rename_i j wn Lj;split at h
  .rename_i oj kR;split at h
   .rename_i s hs;simp only[j5]at h;subst h;simp only[Region.wanted,Lj,yielded,kR,j4,hs,tm];cases hq:a.tmps[s]? with
    |none=>
     have:a.tmps.getD s undef=undef:=by simp[hq]
     rw[this];simp[undef]
    |some v=>
     have:a.tmps.getD s undef=v:=by simp[hq]
     rw[this];cases v<;>simp
   .simp at h
  .simp at h
theorem Lk(hR:Rel N np S0 w0 refs σ a w S γ):∀(n:Nat)(g:Nat×Bool),tm a g.1 = .bool g.2->rD (tm a) (σ.chain n g)
 |0,g,h=>by intro x hx;simp only[St.chain,kr]at hx;subst hx;exact h
 |n+1,g,h=>by
  simp only[St.chain];have hs:=hR.slot g.1;split
  .rename_i s b c hc;rw[hc]at hs
   have h2:tm a s = .bool b:=by
    rcases hs with hs|hs
    .exact hs.1
    .have:tm a g.1=undef:=hs.2;rw[h]at this;simp[undef]at this
   intro x hx;rcases je.1 hx with rfl|hx
   .exact h
   .exact Lk hR n (s,b) h2 x hx
  .intro x hx;simp only[kr]at hx;subst hx;exact h
theorem jxD:∀(n:Nat)(g:Nat×Bool),g∈σ.chain n g
 |0,g=>by simp[St.chain]
 |n+1,g=>by simp only[St.chain];split<;>simp
theorem Ul(hR:Rel N np S0 w0 refs σ a w S γ):∀{l:List (Nat×Bool)}{b:Bool},actB σ l=some b->rD (tm a) l->b=true
 |[],b,h,_=>by simp[actB]at h;exact h
 |(s,wn)::r,b,h,ha=>by
  have ht:tm a s = .bool wn:=ha (s,wn) (by simp);simp only[actB]at h;split at h
  .rename_i v hv
   have hvv:v=wn:=by
    have hs:=hR.slot s;unfold gval at hv;split at hv
    .rename_i v' dV;simp only[j5]at hv;subst hv;rw[dV]at hs;have:tm a s = .bool v':=s9 hs;rw[ht]at this;simpa using this.symm
    .rename_i s' b' v' dV;simp only[j5]at hv;subst hv;rw[dV]at hs;rcases hs with hs|hs
     .have:tm a s = .bool v':=s9 hs.2;rw[ht]at this;simpa using this.symm
     .have:tm a s=undef:=hs.2;rw[ht]at this;simp[undef]at this
    .simp at hv
   subst hvv;split at h
   .simp only[j5]at h;rw[<-h];cases v<;>rfl
   .split at h
    .rename_i b2 gG;simp only[j5]at h;have:=Ul hR gG (λg hg=>ha g (by simp[hg]));rw[<-h,this];cases v<;>rfl
    .simp at h
  .simp at h
theorem Ll(hR:Rel N np S0 w0 refs σ a w S γ){s:Nat}{x:Slot}(h:iH S w γ σ.bx (tm a) x (tm a s)):Rel N np S0 w0 refs (σ.setS s x) a w S γ:=by
 refine⟨hR.size,hR.defers,λi=>?_,hR.box,hR.own,hR.apart,hR.ext,hR.new,hR.here,hR.below,hR.grow,hR.os,hR.tape,hR.output,hR.par,hR.kept,hR.fix⟩;simp only[St.setS];split
 .rename_i hi;subst hi;exact h
 .exact hR.slot i
theorem Um{R:Type}:∀(l:List (Nat×Bool)){σ:St}{k:St->Bool->Option R}{r:R},Rel N np S0 w0 refs σ a w S γ->vV l σ k=some r->
  ∃σ' b,Rel N np S0 w0 refs σ' a w S γ/\k σ' b=some r/\(b=true↔rD (tm a) l)
 |[],σ,k,r,hR,h=>⟨σ,true,hR,h,by simp[rD]⟩
 |(s,wn)::l,σ,k,r,hR,h=>by
  simp only[vV]at h;obtain⟨σ1,b1,bE,dJ,eZ⟩:=Um l hR h;cases b1 with
  |false=>
   refine⟨σ1,false,bE,dJ,?_⟩;simp only[q7,false_iff]at eZ ⊢
   exactλha=>eZ (λg hg=>ha g (by simp[hg]))
  |true=>
   have nk:=eZ.1 rfl;simp only at dJ;split at dJ
   .rename_i v hv
    have ht:tm a s = .bool v:=by
     have hs:=bE.slot s;unfold Ki at hv;split at hv
     .rename_i v' dV;simp only[j5]at hv;subst hv;rw[dV]at hs;exact s9 hs
     .rename_i s' b' v' dV;split at hv
      .rename_i hm;simp only[j5]at hv;subst hv;rw[dV]at hs;have mF:(s',b')∈l:=by simpa using hm
       have:=nk _ mF;rcases hs with hs|hs
       .exact s9 hs.2
       .exact absurd this hs.1
      .simp at hv
     .simp at hv
    have Dl:∀b,b=v->Rel N np S0 w0 refs (σ1.setS s (.one (.one (.d .bool b)))) a w S γ:=by
     rintro b rfl
     refine Ll bE ⟨?_,λ_=>?_⟩
     .show Rep S w .bool b [tm a s];rw[ht];rfl
     .rw[ht];rfl
    cases v with
    |true=>
     simp only[j6]at dJ;refine⟨_,wn,Dl true rfl,dJ,?_⟩;constructor
     .rintro rfl g hg
      rcases je.1 hg with rfl|hg
      .exact ht
      .exact nk g hg
     .intro ha;have:=ha (s,wn) (by simp);rw[ht]at this;simpa using this.symm
    |false=>
     simp only[j7]at dJ;refine⟨_, !wn,Dl false rfl,dJ,?_⟩;constructor
     .intro hw g hg;have Lm:wn=false:=by simpa using hw
      subst Lm;rcases je.1 hg with rfl|hg
      .exact ht
      .exact nk g hg
     .intro ha;have:=ha (s,wn) (by simp);rw[ht]at this;have:false=wn:=by simpa using this
      rw[<-this];rfl
   .simp at dJ
theorem jCO{P:Program}{E:Env}(hT:cO P E.T)(hC:jJ P E.C)(hR:Rel E.N E.np S0 w0 refs σ a w S γ){ops:Array Oper}{o:Oper}(hd:mu E.N o=true)
  {R:Type}{k:St->Option R}{r:R}(h:Cq E ops σ o k=some r){next:Go.Act->World->Prop}{Q:Exit->Go.Act->World->Prop}
  (hn:∀σ' a' w' S' γ',Rel E.N E.np S0 w0 refs σ' a' w' S' γ'->k σ'=some r->next a' w') :
  if Region.wanted o (yielded ops a.tmps) then o.wp P a w next Q\/(o.asks P a w/\LetsOut Q) else next (a.put o.dst undef) w:=by
 have uu:=yD hd;unfold Cq at h;split at h
 .split at h
  .rename_i hg;have hw:Region.wanted o (yielded ops a.tmps)=true:=by simp[Region.wanted,hg]
   simp only[hw,if_true];exact .inl (Br hT hC hR (act:=[]) (λg hg=>by simp at hg) (p:=true) (by simp) hd h (λσ' a' w' S' γ' bY _ hk=>hn σ' a' w' S' γ' bY hk))
  .simp at h
 .rename_i g hg;dsimp only at h;have Dm:=Hp (a:=a) hg
  have wG:vV (σ.chain 40 g) σ (λσ' a=>match a with
    |true=>run1 E true σ' (σ.chain 40 g) o k
    |false=>k (σ'.put o.dst (.one (.one .dead))))=some r->
    if Region.wanted o (yielded ops a.tmps) then o.wp P a w next Q\/(o.asks P a w/\LetsOut Q) else next (a.put o.dst undef) w:=by
   intro hs;obtain⟨σ',b,bY,hk,hb⟩:=Um _ hR hs;cases b with
   |true=>have aZ:=hb.1 rfl;have hw:=Dm.2 (aZ g (jxD 40 g));simp only[hw,if_true];exact .inl (Br hT hC bY aZ (p:=true) (by simp) hd hk (λσ' a' w' S' γ' bY _ hk=>hn σ' a' w' S' γ' bY hk))
   |false=>
    have hw:¬Region.wanted o (yielded ops a.tmps)=true:=λhw=>by
     have:=hb.2 (Lk hR 40 g (Dm.1 hw));simp at this
    simp only[hw];exact hn _ _ _ _ _ (Dj bY uu (s:= .one (.one .dead)) (v:=undef) ⟨trivial,λh=>absurd rfl h⟩) hk
  split at h
  .rename_i kG c ho;split at h
   .rename_i ab bG;by_cases hw:Region.wanted o (yielded ops a.tmps)=true
    .have aZ:=Lk hR 40 g (Dm.1 hw);have:=Ul hR bG aZ;subst this;simp only[hw,if_true];cases kG with
     |false=>simp at h
     |true=>
      simp only[jl,Bool.or_false,j6]at h;obtain⟨⟨v,w',S',γ',aL,bY,hs⟩,hb⟩:=Le hT hR aZ (λ_=> .inl rfl) ho;have jX:=Dj bY uu (s:= .cnd g.1 g.2 c) (v:=v) (.inl ⟨Dm.1 hw,hs⟩);refine .inl ?_;unfold Oper.wp;rcases aL with aL|⟨aL,rfl⟩
      .rw[aL,Oper.upon_value];exact hn _ _ _ _ _ jX h
      .rw[aL,Oper.upon_skip];exact hn _ _ _ _ _ jX h
    .simp only[hw]
     have hk:k (σ.put o.dst (.cnd g.1 g.2 c))=some r:=by
      cases hc:(kG || !ab) with
      |true=>rw[hc]at h;exact h
      |false=>rw[hc]at h;simp at h
     exact hn _ _ _ _ _ (Dj hR uu (s:= .cnd g.1 g.2 c) (v:=undef) (.inr ⟨λhh=>hw (Dm.2 hh),rfl⟩)) hk
   .exact wG h
  .exact wG h
theorem jxF(hR:Rel N np S0 w0 refs σ a w S γ):Rel N np S0 w0 refs σ.clear a w S γ/\dp σ.clear:=by
 refine⟨⟨hR.size,hR.defers,λi=>?_,hR.box,hR.own,hR.apart,hR.ext,hR.new,hR.here,hR.below,hR.grow,hR.os,hR.tape,hR.output,hR.par,hR.kept,hR.fix⟩,λi=>?_⟩
 .have:=hR.slot i;simp only[St.clear];cases hs:σ.sl i with
  |one c=>rw[hs]at this;exact this
  |tup l=>rw[hs]at this;exact this
  |und=>rw[hs]at this;exact this
  |cnd s b c=>exact⟨trivial,λh=>absurd rfl h⟩
 .simp only[St.clear];cases σ.sl i<;>rfl
theorem Un{P:Program}{E:Env}(hT:cO P E.T)(hC:jJ P E.C){ops:Array Oper}{R:Type}{k:St->Option R}{r:R}{Q:Exit->Go.Act->World->Prop}
  (hn:∀σ' a' w' S' γ',Rel E.N E.np S0 w0 refs σ' a' w' S' γ'->dp σ'->k σ'=some r->Q .normal a' w') :
  ∀(n i:Nat)(σ:St)(a:Go.Act)(w:World)(S:aP)(γ:Nat->Value),i+n=ops.size->Rel E.N E.np S0 w0 refs σ a w S γ->AH E ops (ops.toList.drop i) σ k=some r->
   wpOps P ops Q (List.range' i n) a w
 |0,i,σ,a,w,S,γ,hi,hR,h=>by
  rw[jd (by simp;omega)]at h;obtain⟨h1,h2⟩:=jxF hR;exact hn _ _ _ _ _ h1 h2 h
 |n+1,i,σ,a,w,S,γ,hi,hR,h=>by
  have ak:i<ops.size:=by omega
  rw[jb (by simpa using ak)]at h;simp only[AH]at h;split at h
  .rename_i hd;have ho:ops[i]? = some ops[i]:=ju ak;simp only[zu,wpOps,ho];exact jCO hT hC hR (by simpa using hd) (by simpa using h) (λσ' a' w' S' γ' bY hk=>Un hT hC hn n (i+1) σ' a' w' S' γ' (by omega) bY hk)
  .simp at h
theorem Uo{P:Program}{E:Env}(hT:cO P E.T)(hC:jJ P E.C)(hR:Rel E.N E.np S0 w0 refs σ a w S γ)(hc:dp σ){ops:Array Oper}{R:Type}{k:St->Option R}{r:R}
  {Q:Exit->Go.Act->World->Prop}(hn:∀σ' a' w' S' γ',Rel E.N E.np S0 w0 refs σ' a' w' S' γ'->dp σ'->k σ'=some r->Q .normal a' w')(h:qG E ops σ k=some r) :
  wpOps P ops Q (List.range ops.size) a w:=by
 rw[List.range_eq_range'];unfold qG at h;split at h
 .rename_i hb;exact Li hT hC hb hn ops.size 0 σ a w S γ (by omega) hR hc (by simpa using h)
 .exact Un hT hC hn ops.size 0 σ a w S γ (by omega) hR (by simpa using h)
end
section
variable{N:NT}{np:Nat}{S0:aP}{w0:World}{refs:Refs}{σ:St}{a:Go.Act}{w:World}{S:aP}{γ:Nat->Value}
theorem jAo(hR:Rel N np S0 w0 refs σ a w S γ){k:Nat}{b b':Bx}(hk:σ.bx k = .live b)(oJ:kH b b')(cL:∀bx',BxLe γ σ.bx γ bx'->fy S w γ bx' k b') :
  Rel N np S0 w0 refs (σ.setB k (.live b')) a w S γ:=by
 have hle:BxLe γ σ.bx γ (σ.setB k (.live b')).bx:=by
  intro k' bK;by_cases h:k'=k
  .subst h;rw[gY];exact⟨by simp,rfl,λx hx=>by simp at hx;subst hx;exact⟨b,hk,oJ⟩⟩
  .rw[du σ _ h];exact⟨bK,rfl,λx hx=>⟨x,hx,.refl x⟩⟩
 have bQ:∀k' x,(σ.setB k (.live b')).bx k' = .live x->∃x',σ.bx k' = .live x':=by
  intro k' x hx;by_cases h:k'=k
  .subst h;exact⟨b,hk⟩
  .rw[du σ _ h]at hx;exact⟨x,hx⟩
 refine Rel.step (bx':=(σ.setB k (.live b')).bx) hR (.refl S w) hle ?_ ?_ ?_ hR.new hR.here hR.below hR.grow hR.os hR.tape hR.output (λg _ _ h=>⟨rfl,λk' b' aT=>by obtain⟨b2,gG⟩:=bQ k' b' aT;exact h k' b2 gG⟩)
 .intro k' x hx;by_cases h:k'=k
  .subst h;rw[gY]at hx;simp at hx;subst hx;exact cL _ hle
  .rw[du σ _ h]at hx;exact fy.keep (.refl S w) hle rfl (λg hg=>⟨rfl,λ_=>Iff.rfl⟩) (hR.box k' x hx)
 .intro k' x g hx hg;obtain⟨x',nh⟩:=bQ k' x hx;exact hR.own k' x' g nh hg
 .intro k1 k2 x1 x2 g bk h1 h2 hg;obtain⟨y1,hy1⟩:=bQ k1 x1 h1;obtain⟨y2,Ln⟩:=bQ k2 x2 h2;exact hR.apart k1 k2 y1 y2 g bk hy1 Ln hg
theorem All2.set_left{α β:Type}{R:α->β->Prop}:∀{as:List α}{bs:List β},All2 R as bs->∀(i:Nat)(x:α)(b:β),bs[i]? = some b->R x b->All2 R (as.set i x) bs
 |[],[],_,i,x,b,hb,_=>by simp at hb
 |_::_,_::_,h,0,x,b,hb,hr=>by simp at hb;subst hb;exact⟨hr,h.2⟩
 |_::_,_::_,h,i+1,x,b,hb,hr=>⟨h.1,All2.set_left h.2 i x b (by simpa using hb) hr⟩
 |[],_::_,h,_,_,_,_,_=>h.elim
 |_::_,[],h,_,_,_,_,_=>h.elim
theorem Up:∀(l:List (Loc×Ty))(σ σ':St)(S:aP),Rel N np S0 w0 refs σ a w S γ->dp σ->Cx np l σ=some σ'->∃S',Rel N np S0 w0 refs σ' a w S' γ/\dp σ'
 |[],σ,σ',S,hR,hc,h=>by simp[Cx]at h;subst h;exact⟨S,hR,hc⟩
 |(l,t)::r,σ,σ',S,hR,hc,h=>by
  simp only[Cx]at h;split at h
  .rename_i v u hv;have bL:=Dh (np:=np) (σ:=σ) (rd:=mskM σ.bx) (RdR.msk λ_=> .inl rfl)
   suffices hs:∃S',Rel N np S0 w0 refs (xz (σ.upd u) l (.d t v)) a w S' γ/\dp (xz (σ.upd u) l (.d t v)) by
    obtain⟨S1,bE,eG⟩:=hs;exact Up r _ σ' S1 bE eG h
   cases l with
   |slot i=>
    cases dV:σ.sl i with
    |tup x=>simp only[jG,dV]at hv;simp[lj]at hv
    |cnd x y z=>simp only[jG,dV]at hv;simp[lj]at hv
    |und=>simp only[jG,dV]at hv;simp[lj]at hv
    |one c=>
     cases c with
     |st ls=>simp only[jG,dV]at hv;simp[lj]at hv
     |av n b xs=>simp only[jG,dV]at hv;simp[lj]at hv
     |one x=>
      simp only[jG,dV]at hv;have wH:=hR.slot i;rw[dV]at wH;obtain⟨fk,hp⟩:=AX bL hR.box hv wH.1;obtain⟨S1,bE,dr,lN,_⟩:=qM u σ S hR fk;have bS:=hp S1 w dr lN;refine⟨S1,?_,?_⟩
      .simp only[xz,AV,dV];exact Ll bE ⟨bS,λ_=>Rep.one _ _ _ bS _ (kr.2 rfl)⟩
      .intro j;simp only[xz,AV,dV,St.setS];split
       .rfl
       .exact hc j
   |cell k c=>
    have oc:jG σ (.cell k c) ≠ .dead:=λhd=>by rw[hd]at hv;simp[lj]at hv
    cases fh:σ.bx k with
    |free=>simp[jG,fh]at oc
    |gone=>simp[jG,fh]at oc
    |live b=>
     cases b with
     |lst e b xs f=>simp[jG,fh]at oc
     |arr n b xs=>simp[jG,fh]at oc
     |cell ls f=>
      cases f with
      |true=>simp[jG,fh]at oc
      |false=>
       have hl:jG σ (.cell k c)=ls.getD c .dead:=by simp[jG,fh]
       rw[hl]at hv oc;obtain⟨g,cur,e,h1,h2,h3,h4,h5,h6⟩:=hR.box k _ fh;cases hg:ls[c]? with
       |none=>simp[hg]at oc
       |some x=>
        have hgx:ls.getD c .dead=x:=by simp[hg]
        rw[hgx]at hv;obtain⟨z,hz,Bs⟩:=h3.get c x hg;obtain⟨fk,hp⟩:=AX bL hR.box hv Bs;obtain⟨S1,bE,dr,lN,dS⟩:=qM u σ S hR fk;have bS:=hp S1 w dr lN;have uI:=dS.cell fh;refine⟨S1,?_,?_⟩
        .simp only[xz,uI];refine jAo bE uI trivial (λbx' hle=>?_);obtain⟨g',jW,e',my,lD,wC,h4',h5',h6'⟩:=bE.box k _ uI;rw[h1]at my;simp at my;subst my;rw[h2]at lD;simp at lD;obtain⟨rfl,rfl⟩:=lD;exact⟨g,cur,e,h1,h2,by rw[vq];exact All2.set_left (wC.mono (λx u hx=>bZ.keep (.refl S1 w) hle hx)) c (.d t v) z hz bS,by rw[vq];exact h4',h5',by simp⟩
        .intro j;simp only[xz,uI];show ((σ.upd u).sl j).bare=true;rw[AV];exact hc j
  .simp at h
theorem Dn:∀(l:List po)(σ σ':St)(S:aP),Rel N np S0 w0 refs σ a w S γ->dp σ->vX np l σ=some σ'->∃S',Rel N np S0 w0 refs σ' a w S' γ/\dp σ'
 |[],σ,σ',S,hR,hc,h=>by simp[vX]at h;subst h;exact⟨S,hR,hc⟩
 |x::r,σ,σ',S,hR,hc,h=>by
  simp only[vX]at h;split at h
  .split at h
   .split at h
    .split at h
     .rename_i e b xs f fh;split at h
      .simp at h
      .rename_i hp;simp only[vr,not_or,Bool.not_eq_true]at hp;obtain⟨S1,bE,_⟩:=KD hR hp.2 fh hp.1;exact Dn r _ σ' S1 bE (λi=>hc i) h
     .simp at h
    .exact Dn r σ σ' S hR hc h
   .exact Dn r σ σ' S hR hc h
  .exact Dn r σ σ' S hR hc h
theorem qU:∀{l:List Nat}{i j:Nat},l.idxOf? i=some j->l[j]? = some i
 |[],i,j,h=>by simp at h
 |x::l,i,j,h=>by
  rw[List.idxOf?_cons]at h;split at h
  .rename_i he;simp at h he;subst h;subst he;rfl
  .cases hq:l.idxOf? i with
   |none=>simp[hq]at h
   |some j'=>simp[hq]at h;subst h;simpa using qU hq
theorem Lo:∀{l:List Nat}{i:Nat},l.idxOf? i=none->i∉l
 |[],i,_=>by simp
 |x::l,i,h=>by
  rw[List.idxOf?_cons]at h;split at h
  .simp at h
  .rename_i he;have hq:l.idxOf? i=none:=by simpa using h
   have:=Lo hq;simp only[je,not_or];exact⟨λe=>he (by simp[e]),this⟩
theorem Lp{e:Nat}{t:Ty}{l:Loc}{k:Option Nat}{xs:List t.den}{f:Bool}(h:AK σ e t l=some (k,xs,f)) :
  (k=none/\isM e=false/\xs=[]/\jG σ l = .nil)\/∃k0,k=some k0/\jG σ l = .ol k0/\σ.bx k0 = .live (.lst e t xs f):=by
 unfold AK at h;split at h
 .rename_i hl;split at h
  .simp at h
  .rename_i hm;simp only[j5,j9]at h;exact .inl ⟨h.1.symm,by simpa using hm,h.2.1.symm,hl⟩
 .rename_i k0 hl;split at h
  .rename_i e' t' dg f' hb;split at h
   .rename_i v iR;split at h
    .rename_i he;simp only[j5,j9]at h;obtain⟨rfl,rfl,rfl⟩:=h;have:=ng iR;cases this;subst he;exact .inr ⟨k0,rfl,hl,hb⟩
    .simp at h
   .simp at h
  .simp at h
 .simp at h
theorem Hq{e:Nat}{t:Ty}:∀{ls:List Loc}{k:Option Nat}{xs:List t.den}{f:Bool},xy σ e t ls=some (k,xs,f)->
  (∃l∈ls,AK σ e t l=some (k,xs,f))/\∀l∈ls,∃dg f',AK σ e t l=some (k,dg,f')
 |[],_,_,_,h=>by simp[xy]at h
 |[l],k,xs,f,h=>by
  simp only[xy]at h;exact⟨⟨l,by simp,h⟩,λl' oZ=>by simp at oZ;subst oZ;exact⟨_,_,h⟩⟩
 |l::l2::ls,k,xs,f,h=>by
  simp only[xy]at h;split at h
  .rename_i k1 KT f1 k2 To f2 h1 h2;split at h
   .rename_i hk;simp only[j5,j9]at h;obtain⟨rfl,rfl,rfl⟩:=h;subst hk;obtain⟨_,au⟩:=Hq h2;refine⟨⟨l,by simp,h1⟩,λl' oZ=>?_⟩;rcases je.1 oZ with rfl|oZ
    .exact⟨_,_,h1⟩
    .exact au l' oZ
   .simp at h
  .simp at h
def Uq(np:Nat)(σ:St)(bs:List Nat)(x:po)(it:Item)(src:Option Nat):Prop:=
 ∃xs f f',xy σ x.e x.a x.locs=some (src,xs,f)/\it = .b (.live (.lst x.e x.a xs f'))/\∀k0,src=some k0->f'=f/\k0∉bs/\parK np k0=false
theorem Ur{bs:List Nat}:∀{L:List po}{is:List Item}{ks:List Nat},AL np σ bs L=some (is,ks)->
  ∃fH:List (Option Nat),ks=fH.filterMap id/\ks.Nodup/\∀(j:Nat)(x:po),L[j]? = some x->∃it src,is[j]? = some it/\fH[j]? = some src/\Uq np σ bs x it src
 |[],is,ks,h=>by
  simp[AL]at h;obtain⟨rfl,rfl⟩:=h;exact⟨[],rfl,v6,λj x hx=>by simp at hx⟩
 |x::L,is,ks,h=>by
  simp only[AL]at h;split at h
  .rename_i k xs f is' SZ h1 h2;obtain⟨fH,e1,e2,e3⟩:=Ur h2;split at h
   .simp only[j5,j9]at h;obtain⟨rfl,rfl⟩:=h;refine⟨none::fH,by simp[e1],e2,λj y hy=>?_⟩;cases j with
    |zero=>simp at hy;subst hy;exact⟨_,none,rfl,rfl,xs,f,x.frz,h1,rfl,by simp⟩
    |succ j=>exact e3 j y (by simpa using hy)
   .rename_i k0;split at h
    .simp at h
    .rename_i hn;simp only[vr,not_or,Bool.not_eq_true,qf,jo]at hn;simp only[j5,j9]at h;obtain⟨rfl,rfl⟩:=h;refine⟨some k0::fH,by simp[e1],qb.2 ⟨hn.1.1,e2⟩,λj y hy=>?_⟩;cases j with
     |zero=>simp at hy;subst hy;exact⟨_,some k0,rfl,rfl,xs,f,f,h1,rfl,λk1 dJ=>by simp at dJ;subst dJ;exact⟨rfl,hn.1.2,hn.2⟩⟩
     |succ j=>exact e3 j y (by simpa using hy)
  .simp at h
theorem Us:∀{fH:List (Option Nat)},(fH.filterMap id).Nodup->∀{j j' k:Nat},fH[j]? = some (some k)->fH[j']? = some (some k)->j=j'
 |[],_,j,_,_,h,_=>by simp at h
 |s::fH,hn,j,j',k,h,h'=>by
  have ez:∀{i:Nat},fH[i]? = some (some k)->k∈fH.filterMap id:=λhi=>v7.2 ⟨some k,kc hi,rfl⟩
  have Lq:(fH.filterMap id).Nodup:=by
   cases s with
   |none=>simpa using hn
   |some y=>simp at hn;exact hn.2
  cases j with
  |zero=>
   cases j' with
   |zero=>rfl
   |succ j'=>simp at h h';subst h;simp at hn;exact absurd (by simpa using ez h') hn.1
  |succ j=>
   cases j' with
   |zero=>simp at h h';subst h';simp at hn;exact absurd (by simpa using ez h) hn.1
   |succ j'=>have:=Us Lq (j:=j) (j':=j') (k:=k) (by simpa using h) (by simpa using h');omega
theorem Ut:∀{l:List Nat},l.Nodup->∀{i j n:Nat},l[i]? = some n->l[j]? = some n->i=j
 |[],_,i,_,_,hi,_=>by simp at hi
 |x::l,h,i,j,n,hi,hj=>by
  obtain⟨h1,h2⟩:=qb.1 h;cases i with
  |zero=>
   cases j with
   |zero=>rfl
   |succ j=>simp at hi hj;subst hi;exact absurd (kc hj) h1
  |succ i=>
   cases j with
   |zero=>simp at hi hj;subst hj;exact absurd (kc hi) h1
   |succ j=>rw[Ut h2 (i:=i) (j:=j) (n:=n) (by simpa using hi) (by simpa using hj)]
end
section
variable{N:NT}{np:Nat}{S0:aP}{w0:World}{refs:Refs}{σ:St}{a:Go.Act}{w:World}{S:aP}{γ:Nat->Value}
theorem jt2{K:Keep}{l:Loc}{n:Nat}(h:Cw K l=some n):∃(j:Nat)(x:po),K.lists[j]? = some x/\x.name=n/\l∈x.locs:=by
 unfold Cw at h;obtain⟨x,hq,hn⟩:=Option.map_eq_some_iff.1 h;have h1:=List.find?_some hq;obtain⟨j,hj⟩:=zd.1 (List.mem_of_find?_eq_some hq);exact⟨j,x,hj,hn,by simpa using h1⟩
theorem Dp{K:Keep}{k:Nat}{x:BS}{b:Bx}(h:vW K k x = .live b):∃b0,x = .live b0/\kH b0 b:=by
 unfold vW at h;split at h
 .simp only[BS.live.injEq]at h;subst h;exact⟨_,rfl,trivial⟩
 .simp only[BS.live.injEq]at h;subst h;exact⟨_,rfl,.refl _⟩
 .simp only[BS.live.injEq]at h;subst h;exact⟨_,rfl,.refl _⟩
 .simp at h
theorem Dq{K:Keep}{k:Nat}{x:BS}:vW K k x ≠ .free:=by
 unfold vW;split<;>simp
theorem Uu{R:Leaf->Value->Prop}{f:Leaf×Nat->Leaf}:∀{ls:List Leaf}{cs:List Value}(n:Nat),(∀(j:Nat)(x:Leaf)(u:Value),ls[j]? = some x->cs[j]? = some u->R (f (x,n+j)) u)->ls.length=cs.length->
  All2 R ((ls.zipIdx n).map f) cs
 |[],[],_,_,_=>trivial
 |x::ls,c::cs,n,h,hl=>by
  refine⟨h 0 x c rfl rfl,Uu (n+1) (λj y u hy hu=>?_) (by simpa using hl)⟩;have:=h (j+1) y u (by simpa using hy) (by simpa using hu);rwa[show n+1+j=n+(j+1) by omega]
 |[],_::_,_,_,hl=>by simp at hl
 |_::_,[],_,_,hl=>by simp at hl
theorem jAp{K:Keep}{s:Snap}(hR:Rel N np S0 w0 refs σ a w S γ)(hs:Kn np K σ=some s):∃γ',Rel N np S0 w0 refs (cJ np K s) a w S γ'/\dp (cJ np K s):=by
 unfold Kn at hs;cases hL:AL np σ K.boxes K.lists with
 |none=>simp[hL]at hs
 |some p=>
 obtain⟨is,ks⟩:=p;simp only[hL]at hs;cases bH:K.ok np with
 |false=>simp[bH]at hs
 |true=>
 simp only[bH,if_true,j5]at hs;obtain⟨fH,hks,fA,Dr⟩:=Ur hL;rw[hks]at fA;simp only[Keep.ok,jc]at bH;have yE:=C0 bH.1;have Df:∀(j:Nat)(x:po),K.lists[j]? = some x->x.name∉K.boxes:=by intro j x hx;have:=jy.1 bH.2 x (kc hx);simp only[jc]at this;simpa using this.1
 have wI:∀(j:Nat)(x:po),K.lists[j]? = some x->parK np x.name=false:=by intro j x hx;have:=jy.1 bH.2 x (kc hx);simp only[jc]at this;simpa using this.2
 let γ':Nat->Value:=λn=>match K.boxes.idxOf? n with
  |some _=>γ n
  |none=>match (K.lists.map (·.name)).idxOf? n with
   |some j=>match fH[j]? with
    |some (some k)=>γ k
    |_=> .slice none 0 0
   |none=>γ n
 have fh:(cJ np K s).bx=λn=>match K.boxes.idxOf? n with
  |some j=>vY s[K.slots.length+j]?
  |none=>match (K.lists.map (·.name)).idxOf? n with
   |some j=>vY s[K.slots.length+K.boxes.length+j]?
   |none=>if parK np n then .gone else .free:=rfl
 have hB:∀n,n∈K.boxes->(cJ np K s).bx n=vW K n (σ.bx n)/\γ' n=γ n:=by
  intro n hn;rw[fh];cases hq:K.boxes.idxOf? n with
  |none=>exact absurd hn (Lo hq)
  |some j=>have hj:=qU hq;refine⟨?_,by simp only[γ',hq]⟩;simp only[hq,<-hs];rw[kj (by simp)];simp only[k5,Nat.add_sub_cancel_left];rw[List.getElem?_append_left (by simp;exact(jx.1 hj).1)];simp[hj,vY]
 have Lr:∀(j:Nat)(x:po),K.lists[j]? = some x->∃it src,fH[j]? = some src/\Uq np σ K.boxes x it src/\(cJ np K s).bx x.name=vY (some it)/\
   γ' x.name=(match src with|some k=>γ k|none=> .slice none 0 0):=by
  intro j x hx;obtain⟨it,src,h1,h2,h3⟩:=Dr j x hx
  have wJ:K.boxes.idxOf? x.name=none:=by
   cases hq:K.boxes.idxOf? x.name with
   |none=>rfl
   |some i=>exact absurd (kc (qU hq)) (Df j x hx)
  have wv:(K.lists.map (·.name))[j]? = some x.name:=by simp[hx]
  cases hq:(K.lists.map (·.name)).idxOf? x.name with
  |none=>exact absurd (kc wv) (Lo hq)
  |some i=>
   have hi:=Ut yE (qU hq) wv;subst hi;refine⟨it,src,h2,h3,?_,?_⟩
   .rw[fh];simp only[wJ,hq,<-hs];rw[kj (by simp;omega),kj (by simp;omega)];have:K.slots.length+K.boxes.length+i-(K.slots.map λi=>Item.s (GU K i (σ.sl i))).length-(K.boxes.map λk=>Item.b (vW K k (σ.bx k))).length=i:=by simp;omega
    rw[this,h1]
   .simp only[γ',wJ,hq,h2];cases src<;>rfl
 have hF:∀n b,(cJ np K s).bx n = .live b->n∈K.boxes\/∃(j:Nat)(x:po),K.lists[j]? = some x/\x.name=n:=by
  intro n b hb;by_cases hn:n∈K.boxes
  .exact .inl hn
  .right;rw[fh]at hb
   have wJ:K.boxes.idxOf? n=none:=by
    cases hq:K.boxes.idxOf? n with
    |none=>rfl
    |some i=>exact absurd (kc (qU hq)) hn
   simp only[wJ]at hb;split at hb
   .rename_i j hq;have hj:=qU hq;simp only[qi]at hj;cases hx:K.lists[j]? with
    |none=>simp[hx]at hj
    |some x=>simp[hx]at hj;exact⟨j,x,hx,hj⟩
   .split at hb<;>simp at hb
 have kN:∀(loc:Option Loc)(x:Leaf)(u:Value),bZ S w γ σ.bx x u->(x ≠ .dead->One u)->(∀l,loc=some l->jG σ l=x)->
   bZ S w γ' (cJ np K s).bx (qH K loc x) u/\(qH K loc x ≠ .dead->One u):=by
  intro loc x u hl h1 yF;have kS:bZ S w γ' (cJ np K s).bx .dead u/\(Leaf.dead ≠ .dead->One u):=⟨trivial,λh=>absurd rfl h⟩
  have rO:∀n,loc.bind (Cw K)=some n->∀(hu:(x = .nil)\/∃k,x = .ol k),bZ S w γ' (cJ np K s).bx (.ol n) u/\(Leaf.ol n ≠ .dead->One u):=by
   intro n hn hu;cases loc with
   |none=>simp at hn
   |some l=>
    simp only[j4]at hn;have pE:=yF l rfl;obtain⟨j,y,hy,hyn,KJ⟩:=jt2 hn;obtain⟨it,src,_,⟨xs,f,f',iW,wK,yG⟩,Ds,tC⟩:=Lr j y hy;obtain⟨_,au⟩:=Hq iW;obtain⟨dg,f1,Dt⟩:=au l KJ;have dR:One u:=h1 (by rcases hu with rfl|⟨k,rfl⟩<;>simp);rw[hyn]at Ds tC;refine⟨⟨by rw[Ds,wK];simp[vY],dR,λb _=>?_⟩,λ_=>dR⟩;rw[tC];rcases Lp Dt with⟨rfl,_,_,fo⟩|⟨k0,rfl,yH,dL⟩
    .rw[pE]at fo;subst fo;exact hl
    .rw[pE]at yH;subst yH;exact hl.2.2 _ dL
  cases x with
  |dead=>exact kS
  |nil=>
   simp only[qH];split
   .rename_i n hn;exact rO n hn (.inl rfl)
   .exact⟨hl,h1⟩
  |d t v=>exact⟨hl,h1⟩
  |ip ls=>exact⟨hl,h1⟩
  |clo f bF=>exact⟨hl,h1⟩
  |ep k i c=>exact kS
  |tl k i=>
   simp only[qH];split
   .rename_i hk;obtain⟨eZ,gG⟩:=hB k (by simpa using hk);refine⟨⟨by rw[eZ];exact Dq,hl.2.1,λb hb=>?_⟩,λ_=>hl.2.1⟩;rw[eZ]at hb;obtain⟨b0,fW,jL⟩:=Dp hb;have h3:=hl.2.2 b0 fW;rw[gG]
    cases b0<;>cases b<;>simp only[kH]at jL<;>first
     |exact jL.elim
     |exact h3.elim
     |(obtain⟨rfl,rfl,oZ⟩:=jL;simp only at h3 ⊢;obtain⟨hm,h3⟩:=h3;rw[<-oZ hm];exact⟨hm,h3⟩)
   .exact kS
  |hd k i=>
   simp only[qH];split
   .rename_i hk;obtain⟨eZ,gG⟩:=hB k (by simpa using hk);refine⟨⟨by rw[eZ];exact Dq,hl.2.1,λb hb=>?_⟩,λ_=>hl.2.1⟩;rw[eZ]at hb;obtain⟨b0,fW,jL⟩:=Dp hb;have h3:=hl.2.2 b0 fW;rw[gG]
    cases b0<;>cases b<;>simp only[kH]at jL<;>first
     |exact jL.elim
     |exact h3.elim
     |(obtain⟨rfl,rfl,oZ⟩:=jL;simp only at h3 ⊢;obtain⟨hm,h3⟩:=h3;rw[<-oZ hm];exact⟨hm,h3⟩)
   .exact kS
  |ol k=>
   simp only[qH];split
   .rename_i hk;obtain⟨eZ,gG⟩:=hB k (by simpa using hk);refine⟨⟨by rw[eZ];exact Dq,hl.2.1,λb hb=>?_⟩,λ_=>hl.2.1⟩;rw[eZ]at hb;obtain⟨b0,fW,_⟩:=Dp hb;rw[gG];exact hl.2.2 b0 fW
   .split
    .rename_i n hn;exact rO n hn (.inr ⟨k,rfl⟩)
    .exact kS
  |bp k c=>
   simp only[qH];split
   .rename_i hk;obtain⟨eZ,gG⟩:=hB k (by simpa using hk);refine⟨⟨by rw[eZ];exact Dq,hl.2.1,λb hb=>?_⟩,λ_=>hl.2.1⟩;rw[eZ]at hb;obtain⟨b0,fW,_⟩:=Dp hb;rw[gG];exact hl.2.2 b0 fW
   .exact kS
 have gO:∀n b,(cJ np K s).bx n = .live b->(n∈K.boxes/\γ' n=γ n/\∃b0,σ.bx n = .live b0)\/(blk (γ' n)=none)\/
   ∃(j:Nat)(x:po)(k:Nat)(b0:Bx),K.lists[j]? = some x/\x.name=n/\fH[j]? = some (some k)/\γ' n=γ k/\σ.bx k = .live b0/\k∉K.boxes/\parK np k=false:=by
  intro n b hb;rcases hF n b hb with hn|⟨j,x,hx,rfl⟩
  .obtain⟨h1,h2⟩:=hB n hn;rw[h1]at hb;obtain⟨b0,fW,_⟩:=Dp hb;exact .inl ⟨hn,h2,b0,fW⟩
  .obtain⟨it,src,yG,⟨xs,f,f',iW,wK,mj⟩,Ds,tC⟩:=Lr j x hx;obtain⟨⟨l,_,Dt⟩,_⟩:=Hq iW;rcases Lp Dt with⟨rfl,_,_,_⟩|⟨k,rfl,_,dL⟩
   .exact .inr (.inl (by rw[tC];rfl))
   .obtain⟨_,h2,h3⟩:=mj k rfl;exact .inr (.inr ⟨j,x,k,_,hx,rfl,yG,tC,dL,h2,h3⟩)
 refine⟨γ',⟨hR.size,hR.defers,?_,?_,?_,?_,hR.ext,hR.new,hR.here,hR.below,hR.grow,hR.os,hR.tape,hR.output,?_,λg o h=>⟨(hR.kept g o h).1,λn b hb dL=>by
  have cY:=(hR.kept g o h).2;rcases gO n b hb with⟨_,e,b0,fW⟩|e|⟨j,x,k,b0,_,_,_,e,fW,_⟩
  .rw[e]at dL;exact cY n b0 fW dL
  .rw[e]at dL;simp at dL
  .rw[e]at dL;exact cY k b0 fW dL⟩,hR.fix⟩,?_⟩
 ·-- slots
  intro i
  have dV:(cJ np K s).sl i=match K.slots.idxOf? i with
   |some j=>xA s[j]?
   |none=> .one (.one .dead):=rfl
  rw[dV];cases hq:K.slots.idxOf? i with
  |none=>exact⟨trivial,λh=>absurd rfl h⟩
  |some j=>
   have hj:=qU hq;have Du:s[j]? = some (.s (GU K i (σ.sl i))):=by rw[<-hs,List.getElem?_append_left (by simp;exact(jx.1 hj).1)];simp[hj]
   simp only[Du,xA];have wH:=hR.slot i;show cd S w γ' (cJ np K s).bx (GU K i (σ.sl i)) _;cases nN:σ.sl i with
   |tup l=>exact⟨trivial,λh=>absurd rfl h⟩
   |cnd x y z=>exact⟨trivial,λh=>absurd rfl h⟩
   |und=>exact⟨trivial,λh=>absurd rfl h⟩
   |one c=>
    rw[nN]at wH;cases c with
    |one x=>exact kN (some (.slot i)) x _ wH.1 wH.2 (λl hl=>by simp at hl;subst hl;simp[jG,nN])
    |st ls=>
     obtain⟨cs,hu,au,h1⟩:=wH;refine⟨cs,hu,?_,h1⟩;refine All2.map_left.2 ?_
     have:∀{ls:List Leaf}{cs:List Value},All2 (bZ S w γ σ.bx) ls cs->(∀u∈cs,One u)->All2 (λx u=>bZ S w γ' (cJ np K s).bx (qH K none x) u) ls cs:=by
      intro ls;induction ls with
      |nil=>intro cs h _;cases cs with|nil=>trivial|cons _ _=>exact h.elim
      |cons x ls ih=>
       intro cs h h1;cases cs with
       |nil=>exact h.elim
       |cons u cs=>exact⟨(kN none x u h.1 (λ_=>h1 u (by simp)) (by simp)).1,ih h.2 (λv hv=>h1 v (by simp[hv]))⟩
     exact this au h1
    |av n b xs=>obtain⟨cs,hu,bS⟩:=wH;exact⟨cs,hu,bS⟩
 ·-- boxes
  intro n b hb;rcases hF n b hb with hn|⟨j,x,hx,rfl⟩
  .obtain⟨h1,h2⟩:=hB n hn;rw[h1]at hb;unfold vW at hb;split at hb
   .rename_i ls frz mG;simp only[BS.live.injEq]at hb;subst hb;obtain⟨g,cur,e,q1,q2,q3,q4,q5,q6⟩:=hR.box n _ mG;have qP:(ls.zipIdx.map λx=>qH K (if frz=true then none else some (Loc.cell n x.2)) x.1).length=ls.length:=by simp
    refine⟨g,cur,e,h2.trans q1,q2,?_,by rw[qP];exact q4,q5,q6⟩;rw[qP];refine Uu 0 (λj x u hx hu=>?_) q3.length;obtain⟨u',eJ,iJ⟩:=q3.get j x hx;rw[hu]at eJ;simp at eJ;subst eJ;refine(kN _ x u iJ (λ_=>q4 u (kc hu)) (λl hl=>?_)).1;cases frz with
    |true=>simp at hl
    |false=>simp at hl;subst hl;simp[jG,mG,hx]
   .rename_i m t xs mG;simp only[BS.live.injEq]at hb;subst hb;obtain⟨g,cur,e,q1,q2,q3,q4⟩:=hR.box n _ mG;exact⟨g,cur,e,h2.trans q1,q2,q3,q4⟩
   .rename_i e t xs frz mG;simp only[BS.live.injEq]at hb;subst hb;obtain⟨q1,q3⟩:=hR.box n _ mG;exact⟨by rw[h2];exact q1,by rw[h2];exact q3⟩
   .simp at hb
  .obtain⟨it,src,yG,⟨xs,f,f',iW,wK,mj⟩,Ds,tC⟩:=Lr j x hx;obtain⟨⟨l,_,Dt⟩,_⟩:=Hq iW;rw[Ds,wK]at hb;simp only[vY,BS.live.injEq]at hb;subst hb;rcases Lp Dt with⟨rfl,cb,rfl,_⟩|⟨k,rfl,_,dL⟩
   .refine CE cb ⟨[],?_,trivial,λg hg=>?_⟩
    .rw[tC];exact⟨by simp,.inl ⟨rfl,rfl⟩⟩
    .rw[tC]at hg;simp[blk]at hg
   .obtain⟨rfl,_,_⟩:=mj k rfl;obtain⟨q1,q3⟩:=hR.box k _ dL;exact⟨by rw[tC];exact q1,by rw[tC];exact q3⟩
 ·-- own
  intro n b g hb hg;rcases gO n b hb with⟨_,h2,b0,h3⟩|h|⟨j,x,k,b0,_,_,_,h2,h3,_,h5⟩
  .rw[h2]at hg;exact hR.own n b0 g h3 hg
  .rw[h]at hg;simp at hg
  .rw[h2]at hg;rcases hR.own k b0 g h3 hg with h|h
   .exact .inl h
   .rw[h5]at h;simp at h
 ·-- apart
  intro n n' b b' g bk hb aT hg ar;rcases gO n b hb with⟨m1,h2,b0,h3⟩|h|⟨j,x,k,b0,hx,hxn,hj,h2,h3,h4,_⟩
  .rw[h2]at hg;rcases gO n' b' aT with⟨_,i2,b1,i3⟩|i|⟨j',x',k',b1,_,_,_,i2,i3,i4,_⟩
   .rw[i2]at ar;exact hR.apart n n' b0 b1 g bk h3 i3 hg ar
   .rw[i]at ar;simp at ar
   .rw[i2]at ar;exact hR.apart n k' b0 b1 g (by rintro rfl;exact i4 m1) h3 i3 hg ar
  .rw[h]at hg;simp at hg
  .rw[h2]at hg;rcases gO n' b' aT with⟨m1,i2,b1,i3⟩|i|⟨j',x',k',b1,nh,Ls,iB,i2,i3,i4,_⟩
   .rw[i2]at ar;exact hR.apart k n' b0 b1 g (by rintro rfl;exact h4 m1) h3 i3 hg ar
   .rw[i]at ar;simp at ar
   .rw[i2]at ar;by_cases cu:k=k'
    .subst cu;have:=Us fA hj iB;subst this;rw[hx]at nh;simp at nh;subst nh;exact bk (hxn.symm.trans Ls)
    .exact hR.apart k k' b0 b1 g cu h3 i3 hg ar
 ·-- parameters
  intro k v hv;obtain⟨p1,p2,p3⟩:=hR.par k v hv;refine⟨p1,?_,?_⟩
  .by_cases hk:k∈K.boxes
   .rw[(hB k hk).1];exact Dq
   .rw[fh]
    have wJ:K.boxes.idxOf? k=none:=by
     cases hq:K.boxes.idxOf? k with
     |none=>rfl
     |some i=>exact absurd (kc (qU hq)) hk
    simp only[wJ];split
    .rename_i j hq;have hj:=qU hq;simp only[qi]at hj;cases hx:K.lists[j]? with
     |none=>simp[hx]at hj
     |some x=>simp[hx]at hj;have:=wI j x hx;rw[hj,p1]at this;simp at this
    .simp[p1]
  .by_cases hk:k∈K.boxes
   .rw[(hB k hk).2];exact p3
   .have wJ:K.boxes.idxOf? k=none:=by
     cases hq:K.boxes.idxOf? k with
     |none=>rfl
     |some i=>exact absurd (kc (qU hq)) hk
    simp only[γ',wJ];split
    .rename_i j hq;have hj:=qU hq;simp only[qi]at hj;cases hx:K.lists[j]? with
     |none=>simp[hx]at hj
     |some x=>simp[hx]at hj;have:=wI j x hx;rw[hj,p1]at this;simp at this
    .exact p3
 .intro i;show ((match K.slots.idxOf? i with|some j=>xA s[j]?|none=>Slot.one (.one .dead)):Slot).bare=true;split
  .unfold xA;split<;>rfl
  .rfl
theorem tD{K:Keep}{s:Snap}(hR:Rel N np S0 w0 refs σ a w S γ)(hc:dp σ)(hs:iP np K σ=some s):∃S' γ',Rel N np S0 w0 refs (cJ np K s) a w S' γ'/\dp (cJ np K s):=by
 unfold iP at hs;split at hs
 .rename_i σ1 h1;split at hs
  .rename_i σ2 h2;obtain⟨S1,bE,eG⟩:=Up _ _ _ _ hR hc h1;obtain⟨S2,cH,fg⟩:=Dn _ _ _ _ bE eG h2;obtain⟨γ',gj,Dv⟩:=jAp cH hs;exact⟨S2,γ',gj,Dv⟩
  .simp at hs
 .simp at hs
end
def RdLe(rd bV:Nat->BS):Prop:=∀k,rd k=bV k\/rd k = .gone
theorem RdLe.live{rd bV:Nat->BS}(h:RdLe rd bV){k:Nat}{b:Bx}(hk:rd k = .live b):bV k = .live b:=by
 rcases h k with h|h
 .rw[<-h];exact hk
 .rw[h]at hk;simp at hk
theorem RdLe.free{rd bV:Nat->BS}(h:RdLe rd bV){k:Nat}(hk:iO (rd k)=true):iO (bV k)=true:=by
 rcases h k with h|h
 .rw[<-h];exact hk
 .rw[h]at hk;simp[iO]at hk
theorem RdLe.isLive{rd bV:Nat->BS}(h:RdLe rd bV){k:Nat}(hk:isLive (rd k)=true):isLive (bV k)=true:=by
 rcases h k with h|h
 .rw[<-h];exact hk
 .rw[h]at hk;simp[Lft.isLive]at hk
theorem RdLe.rdf{rd bV:Nat->BS}(h:RdLe rd bV)(np:Nat):RdLe (λk=>if parK np k then .gone else rd k) (λk=>if parK np k then .gone else bV k):=by
 intro k;dsimp only;split
 .exact .inl rfl
 .exact h k
theorem RdLe.msk{rd bV:Nat->BS}(h:RdLe rd bV):RdLe (mskM rd) (mskM bV):=by
 intro k;rcases h k with h|h
 .left;unfold mskM;rw[h]
 .right;unfold mskM;rw[h]
theorem Lt(M:List Nat)(rd:Nat->BS):RdLe (jF M rd) rd:=by
 intro k;unfold jF;split
 .exact .inr rfl
 .exact .inl rfl
section
variable{rd bV:Nat->BS}(hle:RdLe rd bV)
include hle
theorem jw4{t:Ty}{l:Leaf}{x}(h:lj rd t l=some x):lj bV t l=some x:=by
 unfold lj at h ⊢;split at h
 .exact h
 .exact h
 .split at h
  .rename_i hk;rw[hle.live hk];exact h
  .simp at h
 .simp at h
theorem Hr:∀(t:Ty){ls:List Leaf}{x},gath rd t ls=some x->gath bV t ls=some x:=by
 intro t;induction t with
 |unit=>intro ls x h;simpa[gath]using h
 |wrap a ih=>
  intro ls x h;simp only[gath]at h ⊢;split at h
  .rename_i hg;rw[ih hg];exact h
  .simp at h
 |pair a b td tg=>
  intro ls x h;simp only[gath]at h ⊢;split at h
  .rename_i hg;rw[td hg];dsimp only;split at h
   .rename_i jV;rw[tg jV];exact h
   .simp at h
  .simp at h
 |arr n a ih=>intro ls x h;simp[gath]at h
 |_=>
  intro ls x h;cases ls with
  |nil=>simp[gath]at h
  |cons l ls=>
   simp only[gath]at h ⊢;split at h
   .rename_i hl;rw[jw4 hle hl];exact h
   .simp at h
theorem Lu{t:Ty}{c:Cel}{x}(h:qC rd t c=some x):qC bV t c=some x:=by
 unfold qC at h ⊢;split at h
 .split at h
  .simp at h
  .rename_i ha;simp only[ha,zo,q7];split at h
   .rename_i hg;rw[Hr hle _ hg];exact h
   .simp at h
 .split at h
  .rename_i ha;simp only[ha,if_true];split at h
   .rename_i hg;rw[Hr hle _ hg];exact h
   .simp at h
  .simp at h
 .exact h
theorem jw5{ti:TyI}{l:Leaf}{x}(h:ru rd ti l=some x):ru bV ti l=some x:=by
 unfold ru at h ⊢;split at h
 .split at h
  .rename_i hk;rw[hle.live hk];exact h
  .rename_i hk;rw[hle.live hk];exact h
  .simp at h
 .split at h
  .rename_i hk;rw[hle.live hk];exact h
  .rename_i hk;rw[hle.live hk];exact h
  .simp at h
 .exact h
 .simp at h
theorem jt3{ti:TyI}{i:Nat}{l:Leaf}{x}(h:qD rd ti i l=some x):qD bV ti i l=some x:=by
 unfold qD at h ⊢;split at h
 .split at h
  .split at h
   .rename_i hl;simp only[hle.isLive hl,if_true];exact h
   .simp at h
  .simp at h
 .split at h
  .split at h
   .rename_i hl;simp only[hle.isLive hl,if_true];exact h
   .simp at h
  .simp at h
 .exact h
 .simp at h
theorem jt4{ti:TyI}{l i:Leaf}{x}(h:tQ rd ti l i=some x):tQ bV ti l i=some x:=by
 unfold tQ at h ⊢;split at h
 .split at h
  .rename_i hk;rw[hle.live hk];exact h
  .simp at h
 .exact h
 .split at h
  .rename_i hk;rw[hle.live hk];exact h
  .simp at h
 .split at h
  .rename_i hk;rw[hle.live hk];exact h
  .simp at h
 .simp at h
theorem Lv(a:Ty):∀(ps:List (Nat×Cel)){xs:List a.den}{u:Ups}{x},kF rd a xs u ps=some x->kF bV a xs u ps=some x
 |[],_,_,_,h=>h
 |(i,c)::r,xs,u,x,h=>by
  simp only[kF]at h ⊢;split at h
  .rename_i hd;rw[Lu hle hd];dsimp only;split at h
   .rename_i hi;simp only[hi,if_true];exact Lv a r h
   .simp at h
  .simp at h
theorem jxG{t:Option Ty}{l:Leaf}{x}(h:lenC rd t l=some x):lenC bV t l=some x:=by
 unfold lenC at h ⊢;split at h
 .exact h
 .split at h
  .rename_i hk;rw[hle.live hk];exact h
  .simp at h
 .exact h
 .exact h
 .split at h
  .rename_i hk;rw[hle.live hk];exact h
  .simp at h
 .split at h
  .rename_i hk;rw[hle.live hk];exact h
  .simp at h
 .simp at h
theorem jxH{e:Nat}{a:Ty}{s l:Leaf}{x}(h:appH rd e a s l=some x):appH bV e a s l=some x:=by
 unfold appH at h ⊢;split at h
 .split at h
  .rename_i cu;rw[if_pos cu];split at h
   .rename_i hk;rw[hle.live hk];exact h
   .simp at h
  .simp at h
 .simp at h
omit hle in
theorem jxI{e e':Nat}{a a':Ty}{s l:Leaf}{x}(h:appS rd e a s=some x):appH bV e' a' s l=none:=by
 unfold appS at h;split at h
 .rfl
 .rfl
 .simp at h
theorem jt5{ti:TyI}{l m:Leaf}{lo hi:Option Leaf}{x}(h:AE rd ti l lo hi m=some x):AE bV ti l lo hi m=some x:=by
 unfold AE at h ⊢;split at h
 .split at h
  .rename_i hk;rw[hle.live hk];exact h
  .simp at h
 .simp at h
theorem jxJ{e:Nat}{a:Ty}{l:Leaf}{x}(h:appS rd e a l=some x):appS bV e a l=some x:=by
 unfold appS at h ⊢;split at h
 .split at h
  .rename_i hk;rw[hle.live hk];exact h
  .simp at h
 .exact h
 .simp at h
theorem Uv{a:Ty}{l:Leaf}{x}(h:appX rd a l=some x):appX bV a l=some x:=by
 unfold appX at h ⊢;split at h
 .split at h
  .rename_i hk;rw[hle.live hk];exact h
  .simp at h
 .exact h
 .exact h
 .split at h
  .rename_i hk;rw[hle.live hk];exact h
  .simp at h
 .simp at h
theorem jw6{t:Option Ty}{l m:Leaf}{x}(h:AF rd t l m=some x):AF bV t l m=some x:=by
 unfold AF at h ⊢;split at h
 .split at h
  .rename_i hk;rw[hle.live hk];dsimp only;split at h
   .rename_i ht;rw[if_pos ht];split at h
    .rename_i hy;rw[Uv hle hy];exact h
    .simp at h
   .simp at h
  .simp at h
 .simp at h
theorem jt6{t:Option Ty}{l:Leaf}{x}(h:AG rd t l=some x):AG bV t l=some x:=by
 unfold AG at h ⊢;split at h
 .split at h
  .rename_i hk;rw[hle.live hk];exact h
  .simp at h
 .simp at h
theorem Hs:∀(ls:List Leaf){x},tvs rd ls=some x->tvs bV ls=some x
 |[],_,h=>h
 |l::ls,x,h=>by
  simp only[tvs]at h ⊢;split at h
  .rename_i hr;rw[Hs ls hr];dsimp only;split at h
   .exact h
   .split at h
    .rename_i hk;rw[hle.live hk];exact h
    .simp at h
   .simp at h
  .simp at h
theorem Uw:∀(cs:List Cel){x},vS rd cs=some x->vS bV cs=some x
 |[],_,h=>h
 |c::cs,x,h=>by
  simp only[vS]at h ⊢;split at h
  .rename_i hr;rw[Uw cs hr];dsimp only;split at h
   .exact h
   .split at h
    .rename_i hk;rw[hle.live hk];dsimp only;split at h
     .rename_i ht;rw[Hs hle _ ht];exact h
     .simp at h
    .simp at h
   .simp at h
  .simp at h
end
theorem jt7{rd bV rdf gP:Nat->BS}(hle:RdLe rd bV)(gK:RdLe rdf gP){n:Nat}{c:Cel}{l:Leaf}{x}(h:vR rd rdf n c l=some x):vR bV gP n c l=some x:=by
 unfold vR at h ⊢;split at h
 .split at h
  .rename_i hk;rw[hle.live hk];exact h
  .rename_i hk;rw[hle.live hk];exact h
  .simp at h
 .split at h
  .rename_i hk;rw[hle.live hk];dsimp only;split at h
   .split at h
    .rename_i hi;rw[if_pos hi];split at h
     .rename_i hg;rw[Hr gK _ hg];exact h
     .simp at h
    .simp at h
   .simp at h
  .rename_i hk;rw[hle.live hk];dsimp only;split at h
   .split at h
    .rename_i hi;rw[if_pos hi];split at h
     .rename_i hg;rw[Hr gK _ hg];exact h
     .simp at h
    .simp at h
   .simp at h
  .simp at h
 .simp at h
theorem jt8{par:Nat->Bool}{rd bV:Nat->BS}(hle:RdLe rd bV){ti:TyI}{n:Nat}{l:Leaf}{lo hi:Option Leaf}{x}(h:AD par rd ti n l lo hi=some x):AD par bV ti n l lo hi=some x:=by
 unfold AD at h ⊢;split at h
 .exact h
 .split at h
  .split at h
   .rename_i hk;rw[hle.live hk];exact h
   .simp at h
  .split at h
   .rename_i hk;rw[hle.live hk];dsimp only;split at h
    .rename_i bR;rw[if_pos bR];split at h
     .split at h
      .rename_i hp;rw[if_pos hp];exact h
      .rename_i hp;rw[if_neg hp];split at h
       .rename_i hl;rw[if_pos hl];split at h
        .rename_i hf;rw[if_pos (hle.free hf)];exact h
        .simp at h
       .rename_i hl;rw[if_neg hl];exact h
     .simp at h
    .simp at h
   .simp at h
 .split at h
  .rename_i hk;rw[hle.live hk];exact h
  .simp at h
 .simp at h
theorem jw7{rd bV rdf gP:Nat->BS}(hle:RdLe rd bV)(gK:RdLe rdf gP){t:Option TyI}{mv rl:Bool}{c:Cel}{x}(h:vT rd rdf t mv rl c=some x):vT bV gP t mv rl c=some x:=by
 unfold vT at h ⊢;split at h
 .split at h
  .rename_i hk;rw[hle.live hk];dsimp only;split at h
   .rename_i ht;rw[Hs gK _ ht];exact h
   .simp at h
  .rename_i hk;rw[hle.live hk];dsimp only;split at h
   .rename_i ht;rw[Hs gK _ ht];exact h
   .simp at h
  .simp at h
 .exact h
 .exact h
 .split at h
  .cases mv with
   |true=>
    simp only[j6]at h ⊢;split at h
    .rename_i hk;rw[gK.live hk];exact h
    .simp at h
   |false=>
    simp only[j7]at h ⊢;split at h
    .rename_i hk;rw[hle.live hk];exact h
    .simp at h
  .split at h
   .rename_i hk;rw[gK.live hk];exact h
   .simp at h
 .split at h
  .split at h
   .split at h
    .rename_i hd;rw[Lu gK hd];exact h
    .simp at h
   .simp at h
  .simp at h
theorem Ux{rd bV rdf gP:Nat->BS}(hle:RdLe rd bV)(gK:RdLe rdf gP){T:Nat->Option TyI}{mv:Bool}:∀(cs:List Cel){ts:List Nat}{ms:List Bool}{x},qE rd rdf T mv ts ms cs=some x->qE bV gP T mv ts ms cs=some x
 |[],_,_,_,h=>h
 |c::cs,ts,ms,x,h=>by
  simp only[qE]at h ⊢;split at h
  .rename_i ha;rw[jw7 hle gK ha];dsimp only;split at h
   .rename_i hr;rw[Ux hle gK cs hr];exact h
   .simp at h
  .simp at h
theorem jxK{rd bV rdf gP:Nat->BS}(hle:RdLe rd bV)(gK:RdLe rdf gP){n m:Nat}{us:Ups}{fs:List Bk}{os:List Out}{x}(h:mkHd rd rdf n us fs m os=some x):mkHd bV gP n us fs m os=some x:=by
 unfold mkHd at h ⊢;split at h
 .split at h
  .split at h
   .rename_i hf;simp only[jc]at hf;rw[if_pos (by simp only[jc];exact⟨hle.free hf.1,gK.isLive hf.2⟩)];exact h
   .simp at h
  .simp at h
 .simp at h
theorem jw8{rd bV rdf gP:Nat->BS}(hle:RdLe rd bV)(gK:RdLe rdf gP){n:Nat}{us:Ups}{fs:List Bk}{r:Ret}{x}(h:xw rd rdf n us fs r=some x):xw bV gP n us fs r=some x:=by
 unfold xw at h ⊢;split at h
 .exact jxK hle gK h
 .split at h
  .split at h
   .split at h
    .rename_i hf;rw[if_pos (jy.2 λe he=>hle.free (jy.1 hf e he))];exact h
    .simp at h
   .simp at h
  .simp at h
inductive ActLe:Act->Act->Prop
 |val (kG:Bool) (s:Slot) (u:Ups):ActLe (.val kG s u) (.val kG s u)
 |call (f:Nat) (args:List Arg) (mk mk':Ret->Option (Slot×Ups)):(∀r x,mk r=some x->mk' r=some x)->ActLe (.call f args mk) (.call f args mk')
theorem ActLe.refl(x:Act):ActLe x x:=by cases x with
 |val kG s u=>exact .val kG s u
 |call f args mk=>exact .call f args mk mk λ_ _ h=>h
theorem Uy{x y:Option Leaf}(h:∀z,x=some z->y=some z){r:Act}(hr:nI x=some r):nI y=some r:=by
 cases x with
 |none=>simp[nI]at hr
 |some z=>rw[h z rfl];exact hr
theorem jxL{x y:Option (Bool×Leaf)}(h:∀z,x=some z->y=some z){r:Act}(hr:oChk x=some r):oChk y=some r:=by
 cases x with
 |none=>simp[oChk]at hr
 |some z=>rw[h z rfl];exact hr
theorem Uz{rd bV:Nat->BS}(hle:RdLe rd bV){t:Nat}{k v:Ty}{x y:Leaf}{z}(h:mapC rd t k v x y=some z):mapC bV t k v x y=some z:=by
 unfold mapC at h ⊢;split at h
 .split at h
  .rename_i hb;simp only[hle.live hb];exact h
  .simp at h
 .simp at h
theorem UA{E:Env}{ev:Operand->Slot}{rd bV:Nat->BS}(iI:RdLe rd bV){act:List (Nat×Bool)}{o:Oper}{A:Act}(h:dX E ev rd act o=some A):∃A',dX E ev bV act o=some A'/\ActLe A A':=by
 have hle:=iI.msk;have gK:=hle.rdf E.np;have same:dX E ev bV act o=some A->∃A',dX E ev bV act o=some A'/\ActLe A A':=λh=>⟨A,h,.refl A⟩;obtain⟨dst,op,type,pos,after,guard⟩:=o;cases op
 case alloc t=>
  refine same ?_;simp only[dX]at h ⊢;split at h
  .split at h
   .rename_i hf;simp only[hle.free hf,if_true];exact h
   .simp at h
  .simp at h
 case box t x=>
  refine same ?_;simp only[dX]at h ⊢;split at h
  .rename_i hf;simp only[hle.free hf,if_true];exact h
  .simp at h
 case build t ps=>
  refine same ?_;simp only[dX]at h ⊢;split at h
  .split at h
   .split at h
    .rename_i hb;rw[Lv gK _ _ hb];exact h
    .simp at h
   .exact h
   .simp at h
  .simp at h
 case buildSlice t n ps=>
  refine same ?_;simp only[dX]at h ⊢;split at h
  .split at h
   .split at h
    .simp at h
    .rename_i hn;simp only[hn,zo];split at h
     .rename_i hb;rw[Lv gK _ _ hb];dsimp only;split at h
      .rename_i hf;simp only[hle.free hf,if_true];exact h
      .simp at h
     .simp at h
   .simp at h
  .simp at h
 case load t x=>
  refine same ?_;simp only[dX]at h ⊢;split at h
  .cases wi:ru (mskM rd) _ (lf ((ev x).cel act)) with
   |none=>rw[wi]at h;simp[oCel]at h
   |some c=>rw[jw5 hle wi];rw[wi]at h;exact h
  .simp at h
 case store t x y=>
  refine same ?_;simp only[dX]at h ⊢;split at h
  .split at h
   .rename_i hs;rw[jt7 hle gK hs];exact h
   .simp at h
  .simp at h
 case nilCheck x=>
  refine same ?_;simp only[dX]at h ⊢;split at h
  .split at h
   .rename_i hl;simp only[hle.isLive hl,if_true];exact h
   .simp at h
  .split at h
   .rename_i hl;simp only[hle.isLive hl,if_true];exact h
   .simp at h
  .exact h
  .simp at h
 case makeFunc fn first captured=>
  refine same ?_;cases fn with
  |func f=>
   simp only[dX]at h ⊢;split at h
   .rename_i hf;simp only[hf,if_true];split at h
    .rename_i hc;rw[Uw gK _ hc];exact h
    .simp at h
   .simp at h
  |_=>simp[dX]at h
 case fieldAddr t x i=>
  refine same ?_;simp only[dX]at h ⊢;split at h
  .exact Uy (λz hz=>jt3 hle hz) h
  .simp at h
 case indexAddr t x i=>
  refine same ?_;simp only[dX]at h ⊢;split at h
  .exact jxL (λz hz=>jt4 hle hz) h
  .simp at h
 case call c=>
  simp only[dX]at h ⊢;cases hc:c.callee with
  |invoke r m=>simp[hc]at h
  |value f=>
   simp only[hc]at h ⊢;split at h
   .split at h
    .rename_i ha;rw[Ux iI gK _ ha];dsimp only;split at h
     .rename_i hb;simp only[hb,if_true];simp only[j5]at h;subst h;exact⟨_,rfl,.call _ _ _ _ λr x hx=>jw8 hle gK hx⟩
     .simp at h
    .simp at h
   .simp at h
  |builtin b=>
   simp only[hc]at h ⊢;cases b
   case len=>
    refine⟨A,?_,.refl A⟩;dsimp only at h ⊢;split at h
    .split at h
     .exact Uy (λz hz=>jxG hle hz) h
     .simp at h
    .simp at h
   case append=>
    refine⟨A,?_,.refl A⟩;dsimp only at h ⊢;split at h
    .split at h
     .rename_i ht;rw[if_pos ht];split at h
      .split at h
       .rename_i bR;split at h
        .rename_i hh;rw[jxH hle hh];exact h
        split at h
        .rename_i h1 h2;rw[jxI h1];dsimp only;rw[jxJ gK h1,Uv hle h2];dsimp only;split at h
         .rename_i hf;simp only[hle.free hf,if_true];exact h
         .simp at h
        .simp at h
       .simp at h
      .simp at h
     .simp at h
    .simp at h
   case copy=>
    refine⟨A,?_,.refl A⟩;dsimp only at h ⊢;split at h
    .split at h
     .rename_i ht;rw[if_pos ht];split at h
      .split at h
       .rename_i hq;rw[jw6 hle hq];exact h
       .simp at h
      .simp at h
     .simp at h
    .simp at h
   case clear=>
    refine⟨A,?_,.refl A⟩;dsimp only at h ⊢;split at h
    .split at h
     .split at h
      .rename_i hq;rw[jt6 hle hq];exact h
      .simp at h
     .simp at h
    .simp at h
   all_goals exact⟨A,h,.refl A⟩
 case slice t x lo hi mx=>
  refine same ?_;cases mx with
  |some m=>
   simp only[dX]at h ⊢;split at h
   .split at h
    .rename_i hq;rw[jt5 hle hq];exact h
    .simp at h
   .simp at h
  |none=>
   simp only[dX]at h ⊢;split at h
   .split at h
    .rename_i hq;rw[jt8 hle hq];exact h
    .simp at h
   .simp at h
 case makeMap t x=>
  refine same ?_;cases x with
  |some m=>simp[dX]at h
  |none=>
   simp only[dX]at h ⊢;split at h
   .split at h
    .rename_i hf;simp only[hle.free hf,if_true];exact h
    .simp at h
   .simp at h
 case lookup t x i ok=>
  refine same ?_;simp only[dX]at h ⊢;split at h
  .split at h
   .rename_i hq;rw[Uz iI hq];exact h
   .simp at h
  .simp at h
 case mapUpdate t x i y=>
  refine same ?_;simp only[dX]at h ⊢;split at h
  .split at h
   .rename_i hq hd;rw[Uz iI hq,Lu gK hd];exact h
   .simp at h
  .simp at h
 all_goals exact⟨A,h,.refl A⟩
section
variable{N:NT}{np:Nat}{S0:aP}{w0:World}{refs:Refs}{σ:St}{a:Go.Act}{w:World}{S:aP}{γ:Nat->Value}
def CFun(C:Nat->List Arg->(R:Type)->(Ret->Option R)->Option R):Prop:=
 ∀f args,∃o:Option Ret,∀(R:Type)(k:Ret->Option R),C f args R k=o.bind k
theorem UB{E:Env}{ev qV:Operand->Slot}{rd:Nat->BS}{act:List (Nat×Bool)}{o:Oper}(h:∀x∈o.op.operands,ev x=qV x):dX E ev rd act o=dX E qV rd act o:=by
 have wL:∀ps:Array (Nat×Operand),(∀x∈ps.toList.map (·.2),ev x=qV x)->
   (ps.toList.map λp=>(p.1,(ev p.2).cel act))=(ps.toList.map λp=>(p.1,(qV p.2).cel act)):=λps hp=>
  yi λp hm=>by simp only[hp p.2 (jt.2 ⟨p,hm,rfl⟩)]
 have args:∀ps:Array Operand,(∀x∈ps,ev x=qV x)->(ps.toList.map λp=>(ev p).cel act)=(ps.toList.map λp=>(qV p).cel act):=λps hp=>
  yi λp hm=>by rw[hp p (by simpa using hm)]
 obtain⟨dst,op,type,pos,after,guard⟩:=o;cases op<;>simp only[Op.operands]at h<;>simp only[dX]
 case build t ps=>rw[wL ps λx hx=>h x (by simpa using hx)]
 case buildSlice t n ps=>rw[wL ps λx hx=>h x (by simpa using hx)]
 case makeFunc fn first captured=>
  have e:=args captured λx hx=>h x (by simp[hx]);cases fn with
  |func f=>simp only[e]
  |_=>rfl
 case call c=>
  have ha:=args c.args (λx hx=>h x (by simp[Call.operands,hx]));have pF:∀x∈c.args.toList,ev x=qV x:=λx hx=>h x (by simp[Call.operands];right;simpa using hx);simp only[ha];cases hc:c.callee with
  |value f=>have hf:ev f=qV f:=h f (by simp[Call.operands,hc]);simp only[hf]
  |invoke r m=>rfl
  |builtin b=>
   cases b<;>simp only
   case len=>
    split
    .rename_i x t gz oY;have:=pF x (by rw[gz];simp);simp only[this]
    .rfl
   case append=>
    split
    .rename_i t t' s x oY gz;have e1:=pF s (by rw[gz];simp);have e2:=pF x (by rw[gz];simp);simp only[e1,e2]
    .rfl
   case copy=>
    split
    .rename_i t t' s x oY gz;have e1:=pF s (by rw[gz];simp);have e2:=pF x (by rw[gz];simp);simp only[e1,e2]
    .rfl
   case clear=>
    split
    .rename_i t x oY gz;have e1:=pF x (by rw[gz];simp);simp only[e1]
    .rfl
 case slice t x lo hi mx=>
  have e1:=h x (by simp)
  have eo:∀y:Option Operand,(∀z,y=some z->ev z=qV z)->(y.map λx=>lf ((ev x).cel act))=(y.map λx=>lf ((qV x).cel act)):=by
   intro y hy;cases y with
   |none=>rfl
   |some z=>simp only[qa,hy z rfl]
  have e2:=eo lo (λz hz=>h z (by simp[hz]));have e3:=eo hi (λz hz=>h z (by simp[hz]));cases mx with
  |some m=>have e4:=h m (by simp);simp only[e1,e2,e3,e4]
  |none=>simp only[e1,e2,e3]
 case makeMap t x=>cases x<;>rfl
 all_goals (first|rfl|(simp_all;done))
def ShEq:BS->BS->Prop
 |.live (.cell _ _),.live (.cell _ _)=>True
 |.live (.lst e a xs _),.live (.lst e' a' dg _)=>e=e'/\a=a'/\xs.length=dg.length
 |.live (.arr n a _),.live (.arr n' a' _)=>n=n'/\a=a'
 |.free,.free=>True
 |.gone,.gone=>True
 |_,_=>False
theorem ShEq.refl:∀b:BS,ShEq b b
 |.live (.cell _ _)=>trivial
 |.live (.lst _ _ _ _)=>⟨rfl,rfl,rfl⟩
 |.live (.arr _ _ _)=>⟨rfl,rfl⟩
 |.free=>trivial
 |.gone=>trivial
theorem ShEq.symm{b c:BS}(h:ShEq b c):ShEq c b:=by
 cases b with
 |free=>cases c<;>simp_all[ShEq]
 |gone=>cases c<;>simp_all[ShEq]
 |live b=>
  cases c with
  |free=>cases b<;>simp[ShEq]at h
  |gone=>cases b<;>simp[ShEq]at h
  |live c=>
   cases b<;>cases c<;>simp only[ShEq]at h ⊢
   .exact⟨h.1.symm,h.2.1.symm,h.2.2.symm⟩
   .exact⟨h.1.symm,h.2.symm⟩
theorem ShEq.trans{b c d:BS}(h:ShEq b c)(h':ShEq c d):ShEq b d:=by
 cases b with
 |free=>cases c with
  |free=>exact h'
  |gone=>simp[ShEq]at h
  |live c=>cases c<;>simp[ShEq]at h
 |gone=>cases c with
  |gone=>exact h'
  |free=>simp[ShEq]at h
  |live c=>cases c<;>simp[ShEq]at h
 |live b=>cases c with
  |free=>cases b<;>simp[ShEq]at h
  |gone=>cases b<;>simp[ShEq]at h
  |live c=>cases d with
   |free=>cases c<;>simp[ShEq]at h'
   |gone=>cases c<;>simp[ShEq]at h'
   |live d=>
    cases b<;>cases c<;>simp only[ShEq]at h<;>cases d<;>simp only[ShEq]at h' ⊢
    .exact⟨h.1.trans h'.1,h.2.1.trans h'.2.1,h.2.2.trans h'.2.2⟩
    .exact⟨h.1.trans h'.1,h.2.trans h'.2⟩
theorem ShEq.mask{rd bV:Nat->BS}{M:List Nat}(h:∀k,M.contains k=false->ShEq (rd k) (bV k))(k:Nat):ShEq (jF M rd k) (jF M bV k):=by
 unfold jF;split
 .trivial
 .rename_i hc;exact h k (by simpa using hc)
theorem Ht{b c:BS}(h:ShEq b c):isLive b=isLive c:=by
 cases b with
 |free=>cases c<;>simp_all[ShEq,isLive]
 |gone=>cases c<;>simp_all[ShEq,isLive]
 |live b=>cases c with
  |free=>cases b<;>simp[ShEq]at h
  |gone=>cases b<;>simp[ShEq]at h
  |live c=>rfl
theorem jxM{rd bV:Nat->BS}(h:∀k,ShEq (rd k) (bV k))(ti:TyI)(l i:Leaf):tQ rd ti l i=tQ bV ti l i:=by
 unfold tQ;split
 .rename_i k _ _;have hk:=h k;generalize rd k=b at hk;generalize bV k=c at hk;cases b with
  |free=>cases c<;>simp_all[ShEq]
  |gone=>cases c<;>simp_all[ShEq]
  |live b=>cases c with
   |free=>cases b<;>simp[ShEq]at hk
   |gone=>cases b<;>simp[ShEq]at hk
   |live c=>
    cases b with
    |lst e a xs f=>cases c with
     |lst e' a' dg f'=>simp only[ShEq]at hk;obtain⟨rfl,rfl,hl⟩:=hk;dsimp only;rw[hl]
     |cell _ _=>simp[ShEq]at hk
     |arr _ _ _=>simp[ShEq]at hk
    |cell _ _=>cases c<;>first|rfl|(simp[ShEq]at hk)
    |arr _ _ _=>cases c<;>first|rfl|(simp[ShEq]at hk)
 .rfl
 .rename_i k _ _;have hk:=h k;generalize rd k=b at hk;generalize bV k=c at hk;cases b with
  |free=>cases c<;>simp_all[ShEq]
  |gone=>cases c<;>simp_all[ShEq]
  |live b=>cases c with
   |free=>cases b<;>simp[ShEq]at hk
   |gone=>cases b<;>simp[ShEq]at hk
   |live c=>
    cases b with
    |arr n a xs=>cases c with
     |arr n' a' dg=>simp only[ShEq]at hk;obtain⟨rfl,rfl⟩:=hk;rfl
     |cell _ _=>simp[ShEq]at hk
     |lst _ _ _ _=>simp[ShEq]at hk
    |cell _ _=>cases c<;>first|rfl|(simp[ShEq]at hk)
    |lst _ _ _ _=>cases c<;>first|rfl|(simp[ShEq]at hk)
 .rename_i k _ _ _;have hk:=h k;generalize rd k=b at hk;generalize bV k=c at hk;cases b with
  |free=>cases c<;>simp_all[ShEq]
  |gone=>cases c<;>simp_all[ShEq]
  |live b=>cases c with
   |free=>cases b<;>simp[ShEq]at hk
   |gone=>cases b<;>simp[ShEq]at hk
   |live c=>
    cases b with
    |lst e a xs f=>cases c with
     |lst e' a' dg f'=>simp only[ShEq]at hk;obtain⟨rfl,rfl,hl⟩:=hk;dsimp only;rw[hl]
     |cell _ _=>simp[ShEq]at hk
     |arr _ _ _=>simp[ShEq]at hk
    |cell _ _=>cases c<;>first|rfl|(simp[ShEq]at hk)
    |arr _ _ _=>cases c<;>first|rfl|(simp[ShEq]at hk)
 .rfl
theorem jxN{rd bV:Nat->BS}(h:∀k,ShEq (rd k) (bV k))(ti:TyI)(i:Nat)(l:Leaf):qD rd ti i l=qD bV ti i l:=by
 unfold qD;split
 .rw[Ht (h _)]
 .rw[Ht (h _)]
 .rfl
 .rfl
theorem ShEq.msk{rd bV:Nat->BS}{k:Nat}(h:ShEq (rd k) (bV k)):ShEq (mskM rd k) (mskM bV k):=by
 unfold mskM;generalize rd k=a at h;generalize bV k=b at h;cases a with
 |free=>cases b<;>simp_all[ShEq]
 |gone=>cases b<;>simp_all[ShEq]
 |live a=>
  cases b with
  |free=>cases a<;>simp[ShEq]at h
  |gone=>cases a<;>simp[ShEq]at h
  |live b=>
   cases a<;>cases b<;>simp only[ShEq]at h<;>dsimp only
   .trivial
   .obtain⟨rfl,rfl,h3⟩:=h;rename_i e _ _ _ _ _;cases isM e
    .exact⟨rfl,rfl,h3⟩
    .trivial
   .exact h
theorem jAq{E:Env}{ev:Operand->Slot}{rd bV:Nat->BS}{act:List (Nat×Bool)}{o:Oper}(ha:rA o=true)(h:∀k,ShEq (rd k) (bV k)):dX E ev rd act o=dX E ev bV act o:=by
 have h:∀k,ShEq (mskM rd k) (mskM bV k):=λk=>(h k).msk;obtain⟨dst,op,type,pos,after,guard⟩:=o;cases op<;>simp only[rA,q7]at ha
 .simp only[dX];split
  .rw[Ht (h _)]
  .rw[Ht (h _)]
  .rfl
  .rfl
 .simp only[dX];split
  .rw[jxN h]
  .rfl
 .simp only[dX];split
  .rw[jxM h]
  .rfl
theorem UC:∀(u:Ups)(σ:St),(∀e∈u,ShEq (σ.bx e.1) e.2)->∀k,ShEq (σ.bx k) ((σ.upd u).bx k)
 |[],σ,_,k=>ShEq.refl _
 |e::u,σ,h,k=>by
  have h0:∀k,ShEq (σ.bx k) ((σ.setB e.1 e.2).bx k):=by
   intro k;simp only[St.setB];split
   .rename_i hk;rw[hk];exact h e (by simp)
   .exact ShEq.refl _
  have h1:=UC u (σ.setB e.1 e.2) (λx hx=>(h0 x.1).symm.trans (h x (by simp[hx]))) k;exact(h0 k).trans h1
def UpSh(rd:Nat->BS)(u:Ups):Prop:=∀e∈u,ShEq (rd e.1) e.2/\isLive e.2=true
theorem jAr{rd:Nat->BS}{t:Ty}{l:Leaf}{v:t.den}{u:Ups}(h:lj rd t l=some (v,u)):UpSh rd u:=by
 unfold lj at h;split at h
 .split at h
  .simp only[j5,j9]at h;rw[<-h.2];intro e he;simp at he
  .simp at h
 .split at h
  .simp only[j5,j9]at h;rw[<-h.2];intro e he;simp at he
  .simp at h
 .split at h
  .rename_i hk;split at h
   .simp only[j5,j9]at h;rw[<-h.2];intro e he;simp only[kr]at he;subst he;dsimp only;rw[hk];exact⟨⟨rfl,rfl,rfl⟩,rfl⟩
   .simp at h
  .simp at h
 .simp at h
theorem UpSh.app{rd:Nat->BS}{u v:Ups}(h:UpSh rd u)(h':UpSh rd v):UpSh rd (u++v):=by
 intro e he;rcases jn.1 he with he|he
 .exact h e he
 .exact h' e he
theorem UD{rd:Nat->BS}:∀(t:Ty){ls:List Leaf}{v:t.den}{r:List Leaf}{u:Ups},gath rd t ls=some (v,r,u)->UpSh rd u:=by
 intro t;induction t with
 |unit=>intro ls v r u h;simp only[gath,j5,j9]at h;rw[<-h.2.2];intro e he;simp at he
 |wrap a ih=>
  intro ls v r u h;simp only[gath]at h;split at h
  .rename_i hg;simp only[j5,j9]at h;rw[<-h.2.2];exact ih hg
  .simp at h
 |pair a b td tg=>
  intro ls v r u h;simp only[gath]at h;split at h
  .rename_i hg;split at h
   .rename_i jV;simp only[j5,j9]at h;rw[<-h.2.2];exact(td hg).app (tg jV)
   .simp at h
  .simp at h
 |arr n a ih=>intro ls v r u h;simp[gath]at h
 |_=>
  intro ls v r u h;cases ls with
  |nil=>simp[gath]at h
  |cons l ls=>
   simp only[gath]at h;split at h
   .rename_i hl;simp only[j5,j9]at h;rw[<-h.2.2];exact jAr hl
   .simp at h
theorem jxP{rd rdf:Nat->BS}(bL:RdLe rdf rd){n:Nat}{c:Cel}{l:Leaf}{u:Ups}(h:vR rd rdf n c l=some u):UpSh rd u:=by
 have one:∀(k:Nat)(b b':Bx),rd k = .live b->ShEq (.live b) (.live b')->UpSh rd [(k,.live b')]:=by intro k b b' hk hs e he;simp only[kr]at he;subst he;exact⟨by rw[hk];exact hs,rfl⟩
 have lift:∀u,UpSh rdf u->UpSh rd u:=by
  intro u hu e he;obtain⟨h1,h2⟩:=hu e he;rcases bL e.1 with hq|hq
  .rw[hq]at h1;exact⟨h1,h2⟩
  .rw[hq]at h1;cases h3:e.2 with
   |free=>rw[h3]at h2;simp[isLive]at h2
   |gone=>rw[h3]at h2;simp[isLive]at h2
   |live b=>rw[h3]at h1;cases b<;>simp[ShEq]at h1
 unfold vR at h;split at h
 .split at h
  .rename_i hk;split at h
   .split at h
    .simp only[j5]at h;subst h;exact one _ _ _ hk trivial
    .simp at h
   .simp at h
  .rename_i hk;split at h
   .split at h
    .split at h
     .split at h
      .simp only[j5]at h;subst h;exact one _ _ _ hk ⟨rfl,rfl⟩
      .simp at h
     .simp at h
    .simp at h
   .simp at h
  .simp at h
 .split at h
  .rename_i hk;split at h
   .split at h
    .split at h
     .rename_i hg;split at h
      .simp at h
      .simp only[j5]at h;subst h;exact(lift _ (UD _ hg)).app (one _ _ _ hk ⟨rfl,rfl,by simp⟩)
     .simp at h
    .simp at h
   .simp at h
  .rename_i hk;split at h
   .split at h
    .split at h
     .rename_i hg;split at h
      .simp at h
      .simp only[j5]at h;subst h;exact(lift _ (UD _ hg)).app (one _ _ _ hk ⟨rfl,rfl⟩)
     .simp at h
    .simp at h
   .simp at h
  .simp at h
 .simp at h
theorem jE3(np:Nat)(rd:Nat->BS):RdLe (λk=>if parK np k then .gone else rd k) rd:=by
 intro k;dsimp only;split
 .exact .inr rfl
 .exact .inl rfl
theorem UpSh.le{rd bV:Nat->BS}(hle:RdLe rd bV){u:Ups}(h:UpSh rd u):UpSh bV u:=by
 intro e he;obtain⟨h1,h2⟩:=h e he;rcases hle e.1 with hq|hq
 .rw[hq]at h1;exact⟨h1,h2⟩
 .rw[hq]at h1;cases h3:e.2 with
  |free=>rw[h3]at h2;simp[isLive]at h2
  |gone=>rw[h3]at h2;simp[isLive]at h2
  |live b=>rw[h3]at h1;cases b<;>simp[ShEq]at h1
theorem jCP(rd:Nat->BS):RdLe (mskM rd) rd:=λk=>Tl k
theorem jt9{E:Env}{ev:Operand->Slot}{rd:Nat->BS}{act:List (Nat×Bool)}{o:Oper}(ho:tT o=true){kG:Bool}{s:Slot}{u:Ups}(h:dX E ev rd act o=some (.val kG s u)):UpSh rd u:=by
 obtain⟨dst,op,type,pos,after,guard⟩:=o;cases op<;>simp only[tT,q7]at ho;simp only[dX]at h;split at h
 .split at h
  .rename_i hs;simp only[j5,Act.val.injEq]at h;rw[<-h.2.2];exact(jxP (jE3 E.np (mskM rd)) hs).le (jCP rd)
  .simp at h
 .simp at h
theorem jmc{E:Env}{ev:Operand->Slot}{rd:Nat->BS}{act:List (Nat×Bool)}{o:Oper}(ho:tT o=true){f:Nat}{args:List Arg}{mk:Ret->Option (Slot×Ups)}:dX E ev rd act o≠some (.call f args mk):=by
 obtain⟨dst,op,type,pos,after,guard⟩:=o;cases op<;>simp only[tT,q7]at ho;intro h;simp only[dX]at h;split at h
 .split at h
  .simp at h
  .simp at h
 .simp at h
theorem UpSh.unmask{rd:Nat->BS}{M:List Nat}{u:Ups}(h:UpSh (jF M rd) u):UpSh rd u:=by
 intro e he;obtain⟨h1,h2⟩:=h e he;rcases Lt M rd e.1 with hq|hq
 .rw[hq]at h1;exact⟨h1,h2⟩
 .rw[hq]at h1;cases h3:e.2 with
  |free=>rw[h3]at h2;simp[isLive]at h2
  |gone=>rw[h3]at h2;simp[isLive]at h2
  |live b=>rw[h3]at h1;cases b<;>simp[ShEq]at h1
end
section
variable{N:NT}{np:Nat}{S0:aP}{w0:World}{refs:Refs}{σ:St}{a:Go.Act}{w:World}{S:aP}{γ:Nat->Value}
inductive Bef(ops:Array Oper):Nat->Nat->Prop
 |dep {i j:Nat} {o:Oper}:ops[i]? = some o->j∈pt o->Bef ops i j
 |trans {i j k:Nat}:Bef ops i j->Bef ops j k->Bef ops i k
structure DOkR(ops:Array Oper)(A:List (List Nat)):Prop where
 lt:∀i o,ops[i]? = some o->∀j∈pt o,j<i
 addr:∀i o,ops[i]? = some o->rA o=true->∀k,k∉A.getD i []
 dst:∀i j oi oj t,ops[i]? = some oi->ops[j]? = some oj->i≠j->oj.dst=some t->oi.dst≠some t/\(t∈oi.looksAt ops->Bef ops i j\/Bef ops j i)
 box:∀i j oi oj k,ops[i]? = some oi->ops[j]? = some oj->i≠j->k∈A.getD i []->k∈A.getD j []->Bef ops i j\/Bef ops j i
theorem DOkR.bef{ops:Array Oper}{A:List (List Nat)}(h:DOkR ops A){i j:Nat}(hb:Bef ops i j):j<i:=by
 induction hb with
 |dep ho hj=>exact h.lt _ _ ho _ hj
 |trans _ _ h1 h2=>omega
def ClOk(ops:Array Oper)(cl:List Nat):Prop:=∀i j,(cl.getD i 0).testBit j=true->Bef ops i j
theorem UE{ops:Array Oper}{cls:List Nat}(hc:ClOk ops cls){i:Nat}{o:Oper}(ho:ops[i]? = some o):∀(l:List Nat)(m:Nat),(∀j∈l,j∈pt o)->(∀j,m.testBit j=true->Bef ops i j)->
  ∀j,(l.foldl (λm j=>m|||(2^j|||cls.getD j 0)) m).testBit j=true->Bef ops i j
 |[],m,_,hm,j,h=>hm j h
 |x::l,m,hl,hm,j,h=>by
  refine UE hc ho l _ (λj hj=>hl j (by simp[hj])) (λj hj=>?_) j h;simp only[Nat.testBit_or,vr,Nat.testBit_two_pow,jo]at hj;rcases hj with hj|hj|hj
  .exact hm j hj
  .subst hj;exact .dep ho (hl x (by simp))
  .exact .trans (.dep ho (hl x (by simp))) (hc x j hj)
theorem UF{ops:Array Oper}:∀(l:List Oper)(cls:List Nat),ClOk ops cls->(∀k o,l[k]? = some o->ops[cls.length+k]? = some o)->ClOk ops (Cs l cls)
 |[],cls,hc,_=>hc
 |o::os,cls,hc,hl=>by
  have ho:ops[cls.length]? = some o:=by have:=hl 0 o rfl;simpa using this
  refine UF os _ ?_ (λk x hk=>by
   have:=hl (k+1) x (by simpa using hk);rw[jg,ku];rwa[show cls.length+1+k=cls.length+(k+1) by omega])
  intro i j dF;rcases vw i cls.length with hi|hi|hi
  .rw[List.getD_eq_getElem?_getD,List.getElem?_append_left hi,<-List.getD_eq_getElem?_getD]at dF;exact hc i j dF
  .subst hi;rw[List.getD_eq_getElem?_getD,kj (js _),Nat.sub_self]at dF;simp only[List.getElem?_cons_zero,zg]at dF;exact UE hc ho (pt o) 0 (λ_ h=>h) (λj h=>by simp at h) j dF
  .rw[List.getD_eq_getElem?_getD,qp (by simp;omega)]at dF;simp at dF
theorem Lw{ops:Array Oper}{cl:List Nat}(hc:ClOk ops cl){i j:Nat}(h:Ct cl i j=true):i=j\/Bef ops i j\/Bef ops j i:=by
 simp only[Ct,vr,vj]at h;rcases h with (h|h)|h
 .exact .inl h
 .exact .inr (.inl (hc i j h))
 .exact .inr (.inr (hc j i h))
theorem jta{ops:Array Oper}{cl:List Nat}{A:List (List Nat)}(hc:ClOk ops cl)(bH:SS ops cl A=true):DOkR ops A:=by
 have hz:∀{i:Nat}{o:Oper},ops[i]? = some o->(o,i)∈ops.toList.zipIdx:=by intro i o ho;rw[zd];exact⟨i,by rw[List.getElem?_zipIdx];simp[ho]⟩
 have pG:∀i k,k∈A.getD i []->A.isEmpty=false:=by
  intro i k hk;cases A with
  |nil=>simp at hk
  |cons _ _=>rfl
 have au:∀{i:Nat}{o:Oper},ops[i]? = some o->(∀j∈pt o,j<i)/\(A.isEmpty || !rA o||(A.getD i []).isEmpty)=true/\∀j oj,ops[j]? = some oj->GS ops cl A i o j oj=true:=by intro i o ho;have:=jy.1 bH (o,i) (hz ho);simp only[jc]at this;exact⟨λj hj=>by simpa using jy.1 this.1.1 j hj,this.1.2,λj oj kR=>jy.1 this.2 (oj,j) (hz kR)⟩
 refine⟨λi o ho=>(au ho).1,λi o ho mI k hk=>?_,λi j oi oj t hi hj dF ht=>?_,λi j oi oj k hi hj dF hk bK=>?_⟩
 .have:=(au ho).2.1;rw[pG i k hk,mI]at this;simp only[jl,zt,List.isEmpty_iff]at this;rw[this]at hk;simp at hk
 .have:=(au hi).2.2 j oj hj;simp only[GS,ht,jc]at this;have h1:=this.1;simp only[vr,vj,dF,false_or,jc,bne_iff_ne,ne_eq,kp,qf,kn]at h1;refine⟨h1.1,λhm=>?_⟩;rcases h1.2 with h|h
  .exact absurd hm h
  .exact(Lw hc h).resolve_left dF
 .have:=(au hi).2.2 j oj hj;simp only[GS,jc]at this;have h2:=this.2;rw[pG i k hk]at h2;simp only[zt,vr]at h2;rcases h2 with h|h
  .exact(Lw hc h).resolve_left dF
  .have:=jy.1 h k hk;simp only[qf,kp,kn]at this;exact absurd bK this
theorem UG{ops:Array Oper}{cl:List Nat}{A:List (List Nat)}(hc:ClOk ops cl){i:Nat}{oi:Oper}{k:Nat}(hm:(tU ops cl A i oi).contains k=false){j:Nat}{oj:Oper}(hj:ops[j]? = some oj)(hk:k∈A.getD j []) :
  i=j\/Bef ops i j\/Bef ops j i\/(rA oi=true/\tT oj=true):=by
 have hz:(oj,j)∈ops.toList.zipIdx:=by rw[zd];exact⟨j,by rw[List.getElem?_zipIdx];simp[hj]⟩
 have bk:A.isEmpty=false:=by
  cases A with
  |nil=>simp at hk
  |cons _ _=>rfl
 unfold tU at hm;rw[bk]at hm;simp only[q7,zo,qf,kn,qo,not_exists,not_and]at hm;have:=hm (oj,j) hz;dsimp only at this;split at this
 .rename_i h;simp only[vr,jc]at h;rcases h with h|h
  .rcases Lw hc h with h|h|h
   .exact .inl h
   .exact .inr (.inl h)
   .exact .inr (.inr (.inl h))
  .exact .inr (.inr (.inr h))
 .exact absurd hk this
inductive DStep(P:Program)(E:Env)(ops:Array Oper)(M Ai:List Nat)(o:Oper)(σ:St):St->Prop
 |skip (s:Nat) (wn v:Bool):pq ops o=some (s,wn)->σ.sl s = .one (.one (.d .bool v))->v≠wn->DStep P E ops M Ai o σ (σ.setD o.dst .und)
 |skipU (s:Nat) (wn:Bool):pq ops o=some (s,wn)->σ.sl s = .und->DStep P E ops M Ai o σ (σ.setD o.dst .und)
 |val (s:Slot) (u:Ups):(o.guard=none\/∃s wn,pq ops o=some (s,wn)/\σ.sl s = .one (.one (.d .bool wn)))->dX E σ.ev (jF M σ.bx) [] o=some (.val true s u)->(∀e∈u,e.1∈Ai)->
  DStep P E ops M Ai o σ ((σ.upd u).setD o.dst s)
 |call (f:Nat) (args:List Arg) (mk:Ret->Option (Slot×Ups)) (ret:Ret) (s:Slot) (u:Ups):(o.guard=none\/∃s wn,pq ops o=some (s,wn)/\σ.sl s = .one (.one (.d .bool wn)))->
  dX E σ.ev (jF M σ.bx) [] o=some (.call f args mk)->Fun P f->Hh P f args (λr=>r=ret)->mk ret=some (s,u)->(∀e∈u,e.1∈Ai)->DStep P E ops M Ai o σ ((σ.upd u).setD o.dst s)
theorem UH{s:Nat}{x:Slot}(h:σ.sl s=x):σ.setS s x=σ:=by
 unfold St.setS
 have:(λj=>if j=s then x else σ.sl j)=σ.sl:=by
  funext j
  split
  .rename_i hj;subst hj;exact h.symm
  .rfl
 rw[this]
theorem UI{u:Ups}{Ai:List Nat}(h:(u.all λe=>Ai.contains e.1)=true):∀e∈u,e.1∈Ai:=λe he=>by simpa using jy.1 h e he
theorem Lx{P:Program}{E:Env}(hC:jJ P E.C)(hF:CFun E.C){ops:Array Oper}{M Ai:List Nat}{o:Oper}{R:Type}{k:St->Option R}{r:R}
  (hg:o.guard=none\/∃s wn,pq ops o=some (s,wn)/\σ.sl s = .one (.one (.d .bool wn)))(h:runD E M Ai σ o k=some r):∃σ',DStep P E ops M Ai o σ σ'/\k σ'=some r:=by
 unfold runD at h;split at h
 .simp at h
 .rename_i kG s u ho;split at h
  .rename_i hb;cases kG with
   |false=>simp at h
   |true=>exact⟨_,.val s u hg ho (UI hb),h⟩
  .simp at h
 .rename_i f args mk ho;obtain⟨x,hx⟩:=hF f args;rw[hx]at h;cases x with
  |none=>simp at h
  |some ret=>
   simp only[j4]at h;obtain⟨hf,ee⟩:=hC f args Ret some ret (by rw[hx];rfl);split at h
   .rename_i s u cI;split at h
    .rename_i hb
     exact⟨_,.call f args mk ret s u hg ho hf (by
      intro w S vals ha hn hS;refine(ee w S vals ha hn hS).mono ?_
      rintro e w' ⟨r',ui,rest⟩
      exact⟨r',by simpa using ui,rest⟩) cI (UI hb),h⟩
    .simp at h
   .simp at h
theorem jCQ{P:Program}{E:Env}(hC:jJ P E.C)(hF:CFun E.C){ops:Array Oper}{M Ai:List Nat}{o:Oper}{R:Type}{k:St->Option R}{r:R}
  (h:Cu E ops M Ai σ o k=some r):∃σ',DStep P E ops M Ai o σ σ'/\k σ'=some r:=by
 unfold Cu at h;split at h
 .rename_i hg;exact Lx hC hF (.inl hg) h
 .split at h
  .rename_i s wn hg;split at h
   .rename_i v hv;cases v with
    |true=>
     rw[j6,UH hv]at h;cases wn with
     |true=>exact Lx hC hF (.inr ⟨s,true,hg,hv⟩) h
     |false=>exact⟨_,.skip s false true hg hv (by simp),h⟩
    |false=>
     rw[j7,UH hv]at h;cases wn with
     |false=>exact Lx hC hF (.inr ⟨s,false,hg,hv⟩) h
     |true=>exact⟨_,.skip s true false hg hv (by simp),h⟩
   .rename_i hv;exact⟨_,.skipU s wn hg hv,h⟩
   .simp at h
  .simp at h
theorem UJ{P:Program}{E:Env}(hC:jJ P E.C)(hF:CFun E.C){ops:Array Oper}{cl:List Nat}{A:List (List Nat)}{R:Type}{k:St->Option R}{r:R}:∀(n i:Nat)(σ:St),i+n=ops.size->AJ E ops cl A (ops.toList.drop i) i σ k=some r->
  ∃τ:Nat->St,τ i=σ/\k (τ ops.size)=some r/\∀j o,i<=j->ops[j]? = some o->mu E.N o=true/\DStep P E ops (tU ops cl A j o) (A.getD j []) o (τ j) (τ (j+1))
 |0,i,σ,hi,h=>by
  rw[jd (by simp;omega)]at h;refine⟨λ_=>σ,rfl,h,λj o hj ho=>?_⟩;have:=(ji.1 ho).1;omega
 |n+1,i,σ,hi,h=>by
  have ak:i<ops.size:=by omega
  rw[jb (by simpa using ak)]at h;simp only[AJ]at h;split at h
  .rename_i hd;obtain⟨σ1,hs,hk⟩:=jCQ (P:=P) hC hF h;obtain⟨τ1,h1,h2,h3⟩:=UJ hC hF n (i+1) σ1 (by omega) hk;refine⟨λj=>if j=i then σ else τ1 j,by simp,?_,λj o hj ho=>?_⟩
   .simp only[show ops.size≠i by omega,zo];exact h2
   .by_cases qW:j=i
    .subst qW;have yI:ops[j]? = some ops[j]:=ju ak;rw[yI]at ho;simp only[j5]at ho;subst ho;refine⟨by simpa using hd,?_⟩;simp only[if_true,show j+1≠j by omega,zo,h1];simpa using hs
    .simp only[qW,zo,show j+1≠i by omega];exact h3 j o (by omega) ho
  .simp at h
theorem Rel.drawn(hR:Rel N np S0 w0 refs σ a w S γ)(n:Nat):Rel N np S0 w0 refs σ a { w with drawn:=n } S γ:=
 Rel.step (bx':=σ.bx) (γ':=γ) hR (λ_ _ h=>⟨h,rfl⟩) (.refl _ _) (λk b hb=>fy.keep (w:=w) (w':={ w with drawn:=n }) (λ_ _ h=>⟨h,rfl⟩) (.refl _ _) rfl (λ_ _=>⟨rfl,λ_=>Iff.rfl⟩) (hR.box k b hb))
  hR.own hR.apart hR.new hR.here hR.below hR.grow hR.os hR.tape hR.output (λ_ _ _ h=>⟨rfl,h⟩)
theorem D_wp{P:Program}{E:Env}(hT:cO P E.T)(hR:Rel E.N E.np S0 w0 refs σ a w S γ)(hc:dp σ){ops:Array Oper}{M Ai:List Nat}{i:Nat}{o:Oper}(ho:ops[i]? = some o)(hd:mu E.N o=true)
  {τ τ':St}(hs:DStep P E ops M Ai o τ τ')(fh:(∀k,jF M σ.bx k=jF M τ.bx k)\/(rA o=true/\∀k,ShEq (jF M σ.bx k) (jF M τ.bx k)))(rW:∀t,t∈o.looksAt ops->σ.sl t=τ.sl t){K:Go.Act->World->Prop}{Q:Exit->Go.Act->World->Prop}
  (hK:∀(s:Slot)(u:Ups)(a':Go.Act)(w':World)(S':aP)(γ':Nat->Value),τ'=(τ.upd u).setD o.dst s->(∀e∈u,e.1∈Ai)->Rel E.N E.np S0 w0 refs ((σ.upd u).setD o.dst s) a' w' S' γ'->dp ((σ.upd u).setD o.dst s)->K a' w') :
  wpOp P ops Q i K a w:=by
 have uu:=yD hd
 have mJ:∀x∈o.op.operands,σ.ev x=τ.ev x:=by
  intro x hx;cases x with
  |tmp t=>exact rW t (jz _ (v7.2 ⟨.tmp t,by simpa using hx,rfl⟩))
  |_=>rfl
 have tn:∀s wn,pq ops o=some (s,wn)->s∈o.looksAt ops:=by
  intro s wn hg;refine k7 _ ?_;unfold pq at hg;split at hg
  .simp at hg
  .rename_i j w' Lj;split at hg
   .rename_i oj kR;split at hg
    .rename_i s' dC;simp only[j5,j9]at hg;simp[Lj,kR,dC,hg.1]
    .simp at hg
   .simp at hg
 have uJ:∀s v,pq ops o≠none->s∈o.looksAt ops->τ.sl s = .one (.one (.d .bool v))->tm a s = .bool v:=by intro s v _ hm hv;have:=hR.slot s;rw[rW s hm,hv]at this;exact s9 this
 have aZ:dX E σ.ev (jF M σ.bx) [] o=dX E τ.ev (jF M τ.bx) [] o:=by
  rcases fh with fh|⟨mI,fh⟩
  .rw[show jF M σ.bx=jF M τ.bx from funext fh];exact UB mJ
  .rw[jAq mI fh];exact UB mJ
 have dY:∀(s:Slot)(u:Ups)(v:Value)(w':World)(S':aP)(γ':Nat->Value),τ'=(τ.upd u).setD o.dst s->(∀e∈u,e.1∈Ai)->Rel E.N E.np S0 w0 refs (σ.upd u) a w' S' γ'->
   iH S' w' γ' (σ.upd u).bx (tm a) s v->s.bare=true->K (a.put o.dst v) w':=by
  intro s u v w' S' γ' he hb bY dC ct;obtain⟨h1,h2⟩:=Bp bY (Uk hc) uu dC ct;exact hK s u _ w' S' γ' he hb h1 h2
 have wM:(o.guard=none\/∃s wn,pq ops o=some (s,wn)/\τ.sl s = .one (.one (.d .bool wn)))->Region.wanted o (yielded ops a.tmps)=true:=by
  rintro (hg|⟨s,wn,hg,hv⟩)
  .simp[Region.wanted,hg]
  .exact(Hp hg).2 (uJ s wn (by rw[hg];simp) (tn s wn hg) hv)
 unfold wpOp;simp only[ho];cases hs with
 |skip s wn v hg hv bk=>
  have hw:¬Region.wanted o (yielded ops a.tmps)=true:=λhw=>by
   have h1:=(Hp hg).1 hw;rw[uJ s v (by rw[hg];simp) (tn s wn hg) hv]at h1;exact bk (by simpa using h1)
  simp only[hw,zo,q7];exact dY .und [] undef w S γ rfl (by simp) hR rfl rfl
 |skipU s wn hg hv=>
  have hu:tm a s=undef:=by have:=hR.slot s;rw[rW s (tn s wn hg),hv]at this;exact this
  have hw:¬Region.wanted o (yielded ops a.tmps)=true:=λhw=>by
   have h1:=(Hp hg).1 hw;rw[hu]at h1;simp[undef]at h1
  simp only[hw,zo,q7];exact dY .und [] undef w S γ rfl (by simp) hR rfl rfl
 |val s u hg ca hb=>
  simp only[wM hg,if_true];rw[<-aZ]at ca;obtain⟨A',yJ,hle⟩:=UA (Lt M σ.bx) ca;cases hle;obtain⟨⟨v,w',S',γ',aL,bY,dC⟩,ct⟩:=Le hT hR (act:=[]) (λg hg=>by simp at hg) (λ_=> .inl rfl) yJ;refine .inl ?_;unfold Oper.wp;rcases aL with aL|⟨aL,rfl⟩
  .rw[aL,Oper.upon_value];exact dY s u v w' S' γ' rfl hb bY dC ct
  .rw[aL,Oper.upon_skip];exact dY s u undef w' S' γ' rfl hb bY dC ct
 |call f args mk ret s u hg ca hf ee cI hb=>
  simp only[wM hg,if_true];rw[<-aZ]at ca;obtain⟨A',yJ,hle⟩:=UA (Lt M σ.bx) ca;cases hle with
  |call _ _ _ mk' Dw=>
   have Dx:=Dw _ _ cI;obtain⟨vals,aL,ob,ct⟩:=Uh hR (act:=[]) (λg hg=>by simp at hg) (λ_=> .inl rfl) yJ hf ee;refine .inl ?_;unfold Oper.wp;rw[aL,Oper.upon_enter];refine ob.mono ?_
   rintro e w' ⟨ret',rfl,au⟩
   obtain⟨v,S',γ',rfl,bY,dC⟩:=au s u Dx;exact dY s u v w' S' γ' rfl hb bY dC (ct _ s u Dx)
end
section
variable{S0:aP}{w0:World}{refs:Refs}{σ:St}{a:Go.Act}{w:World}{S:aP}{γ:Nat->Value}
theorem Ly{o:Oper}{j:Nat}:j∈pt o↔∃e∈o.after,Region.binds .any e=true/\e.on=j:=by
 simp only[pt,v7];constructor
 .rintro⟨e,he,h⟩
  split at h
  .rename_i hb;simp only[j5]at h;exact⟨e,by simpa using he,hb,h⟩
  .simp at h
 .rintro⟨e,he,hb,h⟩
  exact⟨e,by simpa using he,by simp[hb,h]⟩
theorem jw9{ops:Array Oper}{aw:Array Bool}{i:Nat}(h:i∈Region.ready .any ops aw) :
  aw.getD i true=false/\∃o,ops[i]? = some o/\∀j∈pt o,aw.getD j false=true:=by
 obtain⟨h0,o,ho,h1⟩:=mem_ready.1 h;exact⟨h0,o,ho,λj hj=>by obtain⟨e,he,hb,rfl⟩:=Ly.1 hj;exact h1 e he hb⟩
def uK(P:Program)(E:Env)(ops:Array Oper)(cl:List Nat)(A:List (List Nat))(τ:Nat->St):Prop:=
 ∀j o,ops[j]? = some o->mu E.N o=true/\DStep P E ops (tU ops cl A j o) (A.getD j []) o (τ j) (τ (j+1))
theorem Hu:∀(u:Ups)(σ:St)(t:Nat),(σ.upd u).sl t=σ.sl t
 |[],_,_=>rfl
 |e::u,σ,t=>Hu u (σ.setB e.1 e.2) t
theorem yK(σ:St)(d:Option Nat)(s:Slot):(σ.setD d s).bx=σ.bx:=by cases d<;>rfl
theorem Lz{σ:St}{d:Option Nat}{s:Slot}{t:Nat}(h:d≠some t):(σ.setD d s).sl t=σ.sl t:=by
 cases d with
 |none=>rfl
 |some d=>have:t≠d:=λe=>h (by rw[e]);simp[St.setD,St.setS,this]
theorem UK{σ:St}{s:Slot}{t:Nat}:(σ.setD (some t) s).sl t=s:=by simp[St.setD,St.setS]
theorem Hv:∀(u:Ups)(σ:St)(k:Nat),(∀e∈u,e.1≠k)->(σ.upd u).bx k=σ.bx k
 |[],_,_,_=>rfl
 |e::u,σ,k,h=>by
  have h1:=Hv u (σ.setB e.1 e.2) k (λx hx=>h x (by simp[hx]));show ((σ.setB e.1 e.2).upd u).bx k=_;rw[h1];have:=h e (by simp);have bk:¬k=e.1:=λhk=>this hk.symm;simp[St.setB,bk]
theorem UL:∀(u:Ups)(σ τ:St)(k:Nat),σ.bx k=τ.bx k->(σ.upd u).bx k=(τ.upd u).bx k
 |[],_,_,_,h=>h
 |e::u,σ,τ,k,h=>by
  refine UL u (σ.setB e.1 e.2) (τ.setB e.1 e.2) k ?_;simp only[St.setB];split
  .rfl
  .exact h
section
variable{P:Program}{E:Env}{ops:Array Oper}{cl:List Nat}{A:List (List Nat)}{τ:Nat->St}
theorem LA(h:uK P E ops cl A τ){j:Nat}{o:Oper}(ho:ops[j]? = some o):∃s u,τ (j+1)=((τ j).upd u).setD o.dst s/\(∀e∈u,e.1∈A.getD j [])/\(tT o=true->∀k,ShEq ((τ j).bx k) ((τ (j+1)).bx k)):=by
 obtain⟨_,hs⟩:=h j o ho;generalize hq:τ (j+1)=σ' at hs;cases hs with
 |skip s wn v hg hv bk=>exact⟨.und,[],rfl,by simp,λ_ k=>by rw[yK];exact ShEq.refl _⟩
 |skipU s wn hg hv=>exact⟨.und,[],rfl,by simp,λ_ k=>by rw[yK];exact ShEq.refl _⟩
 |val s u hg ca hb=>exact⟨s,u,rfl,hb,λaM k=>by
  rw[yK];exact UC u (τ j) (λe he=>((jt9 aM ca).unmask e he).1) k⟩
 |call f args mk ret s u hg ca hf ee cI hb=>exact⟨s,u,rfl,hb,λaM=>absurd ca (jmc aM)⟩
theorem jCR(h:uK P E ops cl A τ){j:Nat}{o:Oper}(ho:ops[j]? = some o){t:Nat}(ht:o.dst≠some t):(τ (j+1)).sl t=(τ j).sl t:=by
 obtain⟨s,u,he,_⟩:=LA h ho;rw[he,Lz ht,Hu]
theorem UM(h:uK P E ops cl A τ){j:Nat}{o:Oper}(ho:ops[j]? = some o){k:Nat}(hk:k∉A.getD j []):(τ (j+1)).bx k=(τ j).bx k:=by
 obtain⟨s,u,he,hu,_⟩:=LA h ho;rw[he,yK];exact Hv u _ k (λe hm tA=>hk (tA▸hu e hm))
theorem Dy(h:uK P E ops cl A τ){t j:Nat}:∀n,j+n<=ops.size->(∀k o,j<=k->k<j+n->ops[k]? = some o->o.dst≠some t)->(τ (j+n)).sl t=(τ j).sl t
 |0,_,_=>rfl
 |n+1,hn,hk=>by
  have ak:j+n<ops.size:=by omega
  have ho:ops[j+n]? = some ops[j+n]:=ju ak;rw[<-Nat.add_assoc,jCR h ho (hk _ _ (by omega) (by omega) ho)];exact Dy h n (by omega) (λk o h1 h2=>hk k o h1 (by omega))
theorem Dz(h:uK P E ops cl A τ){k j:Nat}:∀n,j+n<=ops.size->(∀i o,j<=i->i<j+n->ops[i]? = some o->k∉A.getD i [])->(τ (j+n)).bx k=(τ j).bx k
 |0,_,_=>rfl
 |n+1,hn,hk=>by
  have ak:j+n<ops.size:=by omega
  have ho:ops[j+n]? = some ops[j+n]:=ju ak;rw[<-Nat.add_assoc,UM h ho (hk _ _ (by omega) (by omega) ho)];exact Dz h n (by omega) (λi o h1 h2=>hk i o h1 (by omega))
theorem Hw(h:uK P E ops cl A τ){k j:Nat}:∀n,j+n<=ops.size->(∀i o,j<=i->i<j+n->ops[i]? = some o->k∈A.getD i []->tT o=true)->ShEq ((τ j).bx k) ((τ (j+n)).bx k)
 |0,_,_=>ShEq.refl _
 |n+1,hn,hk=>by
  have ak:j+n<ops.size:=by omega
  have ho:ops[j+n]? = some ops[j+n]:=ju ak;have ih:=Hw h n (by omega) (λi o h1 h2=>hk i o h1 (by omega));refine ih.trans ?_;rw[<-Nat.add_assoc];by_cases hm:k∈A.getD (j+n) []
  .obtain⟨_,_,_,_,aM⟩:=LA h ho;exact aM (hk _ _ (by omega) (by omega) ho hm) k
  .rw[UM h ho hm];exact ShEq.refl _
structure Ph(ops:Array Oper)(A:List (List Nat))(τ:Nat->St)(aw:Array Bool)(σ:St):Prop where
 closed:∀j o,ops[j]? = some o->aw.getD j false=true->∀d∈pt o,aw.getD d false=true
 done:∀j o t,ops[j]? = some o->o.dst=some t->aw.getD j false=true->σ.sl t=(τ (j+1)).sl t
 rest:∀t,(∀j o,ops[j]? = some o->o.dst=some t->aw.getD j false=false)->σ.sl t=(τ 0).sl t
 bdone:∀j k,j<ops.size->k∈A.getD j []->aw.getD j false=true->(∀i,i<ops.size->k∈A.getD i []->aw.getD i false=true->i<=j)->σ.bx k=(τ (j+1)).bx k
 brest:∀k,(∀j,j<ops.size->k∈A.getD j []->aw.getD j false=false)->σ.bx k=(τ 0).bx k
theorem Ph.bef{aw:Array Bool}(hp:Ph ops A τ aw σ){i j:Nat}(hb:Bef ops i j)(hi:aw.getD i false=true):aw.getD j false=true:=by
 induction hb with
 |dep ho hj=>exact hp.closed _ _ ho hi _ hj
 |trans _ _ h1 h2=>exact h2 (h1 hi)
theorem Ph.befd{aw:Array Bool}(hp:Ph ops A τ aw σ){i j:Nat}{o:Oper}(ho:ops[i]? = some o)(hd:∀j∈pt o,aw.getD j false=true)(hb:Bef ops i j):aw.getD j false=true:=by
 induction hb with
 |dep yI hj=>rw[ho]at yI;simp only[j5]at yI;subst yI;exact hd _ hj
 |trans eZ gG h1 h2=>exact hp.bef gG (h1 ho)
theorem Hx(p:Nat->Prop):∀n,(∃j,j<n/\p j)->∃m,m<n/\p m/\∀j,j<n->p j->j<=m
 |0,h=>by obtain⟨j,hj,_⟩:=h;omega
 |n+1,h=>by
  by_cases hn:p n
  .exact⟨n,by omega,hn,λj hj _=>by omega⟩
  .obtain⟨j,hj,hp⟩:=h
   have wv:j<n:=by
    rcases qx j n with h|h
    .exact h
    .have:j=n:=by omega
     subst this;exact absurd hp hn
   obtain⟨m,hm,uL,au⟩:=Hx p n ⟨j,wv,hp⟩;refine⟨m,by omega,uL,λi hi UN=>?_⟩;rcases qx i n with h|h
   .exact au i h UN
   .have:i=n:=by omega
    subst this;exact absurd UN hn
theorem UO{l:Array Bool}{i:Nat}(h:l.getD i true=false):l.getD i false=false:=by
 rcases qx i l.size with h'|h'
 .simp[h']at h ⊢;exact h
 .simp[Array.getElem?_eq_none h']
theorem rX{l:Array Bool}{i j:Nat}(hi:i<l.size):(l.setIfInBounds i true).getD j false=true↔j=i\/l.getD j false=true:=by
 by_cases h:i=j
 .subst h;simp[hi]
 .rw[getD_set_ne false h];exact⟨.inr,λhh=>hh.resolve_left λe=>h e.symm⟩
theorem DA{l:Array Bool}{i:Nat}(h:¬l.getD i false=true):l.getD i false=false:=by
 cases hq:l.getD i false with
 |false=>rfl
 |true=>exact absurd hq h
section
variable(bH:DOkR ops A)(h:uK P E ops cl A τ){aw:Array Bool}(hp:Ph ops A τ aw σ){i:Nat}{o:Oper}(hi:ops[i]? = some o)(mi:aw.getD i false=false)(eh:∀j∈pt o,aw.getD j false=true)
include bH h hp hi mi eh
theorem jCS:∀t,t∈o.looksAt ops->σ.sl t=(τ i).sl t:=by
 intro t xR;have lJ:i<ops.size:=(ji.1 hi).1;have UP:∀j oj,ops[j]? = some oj->oj.dst=some t->j≠i->Bef ops i j\/Bef ops j i:=λj oj hj ht bk=>(bH.dst i j o oj t hi hj (λe=>bk e.symm) ht).2 xR;by_cases hex:∃(j:Nat)(oj:Oper),ops[j]? = some oj/\oj.dst=some t/\aw.getD j false=true
 .obtain⟨j,oj,hj,ht,o5⟩:=hex;have qW:j≠i:=λe=>by rw[e,mi]at o5;simp at o5
  have yL:Bef ops i j:=by
   rcases UP j oj hj ht qW with hd|hd
   .exact hd
   .have:=hp.bef hd o5;rw[mi]at this;simp at this
  have ak:=bH.bef yL;rw[hp.done j oj t hj ht o5];have:=Dy h (t:=t) (j:=j+1) (i-(j+1)) (by omega) (λk ok h1 h2 hk=>(bH.dst k j ok oj t hk hj (by omega) ht).1);rw[show j+1+(i-(j+1))=i by omega]at this;exact this.symm
 .rw[hp.rest t (λj oj hj ht=>DA λhq=>hex ⟨j,oj,hj,ht,hq⟩)]
  have:=Dy h (t:=t) (j:=0) i (by omega) (λk ok _ hk pH tp=>by
   have nn:k≠i:=by omega
   rcases UP k ok pH tp nn with hd|hd
   .exact hex ⟨k,ok,pH,tp,hp.befd hi eh hd⟩
   .have:=bH.bef hd;omega)
  rw[kg]at this;exact this.symm
theorem UQ{k:Nat}(hk:∀j oj,ops[j]? = some oj->k∈A.getD j []->i=j\/Bef ops i j\/Bef ops j i):σ.bx k=(τ i).bx k:=by
 have lJ:i<ops.size:=(ji.1 hi).1;by_cases hex:∃j,j<ops.size/\(k∈A.getD j []/\aw.getD j false=true)
 .obtain⟨m,hm,⟨rY,tE⟩,fa⟩:=Hx _ _ hex;have LB:ops[m]? = some ops[m]:=ju hm;have LC:i≠m:=λe=>by rw[<-e,mi]at tE;simp at tE
  have yL:Bef ops i m:=by
   rcases hk m _ LB rY with hd|hd|hd
   .exact absurd hd LC
   .exact hd
   .have:=hp.bef hd tE;rw[mi]at this;simp at this
  have ak:=bH.bef yL;rw[hp.bdone m k hm rY tE (λj hj eA o5=>fa j hj ⟨eA,o5⟩)]
  have:=Dz h (k:=k) (j:=m+1) (i-(m+1)) (by omega) (λj oj h1 h2 hj eA=>by
   rcases hk j oj hj eA with hd|hd|hd
   .omega
   .have:=fa j (by omega) ⟨eA,hp.befd hi eh hd⟩;omega
   .have:=bH.bef hd;omega)
  rw[show m+1+(i-(m+1))=i by omega]at this;exact this.symm
 .rw[hp.brest k (λj hj eA=>DA λhq=>hex ⟨j,hj,eA,hq⟩)]
  have:=Dz h (k:=k) (j:=0) i (by omega) (λj oj h1 h2 hj eA=>by
   rcases hk j oj hj eA with hd|hd|hd
   .omega
   .exact hex ⟨j,by omega,eA,hp.befd hi eh hd⟩
   .have:=bH.bef hd;omega)
  rw[kg]at this;exact this.symm
theorem jFx(mI:rA o=true){k:Nat}(hk:∀j oj,ops[j]? = some oj->k∈A.getD j []->i=j\/Bef ops i j\/Bef ops j i\/tT oj=true):ShEq (σ.bx k) ((τ i).bx k):=by
 have lJ:i<ops.size:=(ji.1 hi).1;by_cases hex:∃j,j<ops.size/\(k∈A.getD j []/\aw.getD j false=true)
 .obtain⟨m,hm,⟨rY,tE⟩,fa⟩:=Hx _ _ hex;have LB:ops[m]? = some ops[m]:=ju hm;rw[hp.bdone m k hm rY tE (λj hj eA o5=>fa j hj ⟨eA,o5⟩)];rcases qx m i with LC|LC
  .have:=Hw h (k:=k) (j:=m+1) (i-(m+1)) (by omega) (λj oj h1 h2 hj eA=>by
    rcases hk j oj hj eA with hd|hd|hd|hd
    .omega
    .have:=fa j (by omega) ⟨eA,hp.befd hi eh hd⟩;omega
    .have:=bH.bef hd;omega
    .exact hd)
   rwa[show m+1+(i-(m+1))=i by omega]at this
  .have hmi':i≠m:=λe=>by rw[<-e,mi]at tE;simp at tE
   have:=Hw h (k:=k) (j:=i) (m+1-i) (by omega) (λj oj h1 h2 hj eA=>by
    have o5:aw.getD j false=true:=by
     by_cases wN:j=m
     .rw[wN];exact tE
     .rcases bH.box j m oj ops[m] k hj LB wN eA rY with hd|hd
      .have:=bH.bef hd;omega
      .exact hp.bef hd tE
    rcases hk j oj hj eA with hd|hd|hd|hd
    .rw[<-hd,mi]at o5;simp at o5
    .have:=bH.bef hd;omega
    .have:=hp.bef hd o5;rw[mi]at this;simp at this
    .exact hd)
   rw[show i+(m+1-i)=m+1 by omega]at this;exact this.symm
 .rw[hp.brest k (λj hj eA=>DA λhq=>hex ⟨j,hj,eA,hq⟩)]
  have:=Hw h (k:=k) (j:=0) i (by omega) (λj oj h1 h2 hj eA=>by
   rcases hk j oj hj eA with hd|hd|hd|hd
   .omega
   .exact absurd ⟨j,by omega,eA,hp.befd hi eh hd⟩ hex
   .have:=bH.bef hd;omega
   .exact hd)
  rwa[kg]at this
theorem jCT(hc:ClOk ops cl):(∀k,jF (tU ops cl A i o) σ.bx k=jF (tU ops cl A i o) (τ i).bx k)\/(rA o=true/\∀k,ShEq (jF (tU ops cl A i o) σ.bx k) (jF (tU ops cl A i o) (τ i).bx k)):=by
 by_cases mI:rA o=true
 .refine .inr ⟨mI,ShEq.mask λk hk=>jFx bH h hp hi mi eh mI λj oj hj eA=>?_⟩;rcases UG hc hk hj eA with hd|hd|hd|hd
  .exact .inl hd
  .exact .inr (.inl hd)
  .exact .inr (.inr (.inl hd))
  .exact .inr (.inr (.inr hd.2))
 .refine .inl λk=>?_;unfold jF;split
  .rfl
  .rename_i hk
   exact UQ bH h hp hi mi eh λj oj hj eA=>by
    rcases UG hc (by simpa using hk) hj eA with hd|hd|hd|hd
    .exact .inl hd
    .exact .inr (.inl hd)
    .exact .inr (.inr hd)
    .exact absurd hd.1 mI
theorem jCU(bU:ops.size<=aw.size){s:Slot}{u:Ups}(he:τ (i+1)=((τ i).upd u).setD o.dst s)(hu:∀e∈u,e.1∈A.getD i []):Ph ops A τ (aw.setIfInBounds i true) ((σ.upd u).setD o.dst s):=by
 have lJ:i<ops.size:=(ji.1 hi).1;have gi:i<aw.size:=by omega
 have mG:∀k,k∈A.getD i []->σ.bx k=(τ i).bx k:=λk hk=>UQ bH h hp hi mi eh λj oj hj eA=>by
  by_cases dF:i=j
  .exact .inl dF
  .exact .inr (bH.box i j o oj k hi hj dF hk eA)
 refine⟨?_,?_,?_,?_,?_⟩
 .intro j oj kR hj d px;rcases (rX gi).1 hj with rfl|hj
  .rw[hi]at kR;simp only[j5]at kR;subst kR;exact(rX gi).2 (.inr (eh d px))
  .exact(rX gi).2 (.inr (hp.closed j oj kR hj d px))
 .intro j oj t kR ht hj;by_cases qW:j=i
  .subst qW;rw[hi]at kR;simp only[j5]at kR;subst kR;rw[he,ht,UK,UK]
  .rcases (rX gi).1 hj with hj|hj
   .exact absurd hj qW
   .rw[Lz (bH.dst i j o oj t hi kR (λe=>qW e.symm) ht).1,Hu];exact hp.done j oj t kR ht hj
 .intro t au
  have hot:o.dst≠some t:=λe=>by
   have:=au i o hi e;have h2:=(rX (j:=i) gi).2 (.inl rfl);rw[this]at h2;simp at h2
  rw[Lz hot,Hu]
  exact hp.rest t λj oj kR ht=>DA λhq=>by
   have:=au j oj kR ht;have h2:=(rX (i:=i) gi).2 (.inr hq);rw[this]at h2;simp at h2
 .intro j k hj eA o5 fa;rw[yK];by_cases qW:j=i
  .subst qW;rw[he,yK];exact UL u σ (τ j) k (mG k eA)
  .have DB:aw.getD j false=true:=by
    rcases (rX gi).1 o5 with e|hh
    .exact absurd e qW
    .exact hh
   have nn:k∉A.getD i []:=λnn=>by
    have hle:=fa i lJ nn ((rX gi).2 (.inl rfl));have kR:ops[j]? = some ops[j]:=ju hj;rcases bH.box i j o _ k hi kR (λe=>qW e.symm) nn eA with hd|hd
    .have:=bH.bef hd;omega
    .have:=hp.bef hd DB;rw[mi]at this;simp at this
   rw[Hv u σ k (λe hm tA=>nn (tA▸hu e hm))];exact hp.bdone j k hj eA DB (λi' bj bK oZ=>fa i' bj bK ((rX gi).2 (.inr oZ)))
 .intro k au
  have nn:k∉A.getD i []:=λnn=>by
   have:=au i lJ nn;have h2:=(rX (j:=i) gi).2 (.inl rfl);rw[this]at h2;simp at h2
  rw[yK,Hv u σ k (λe hm tA=>nn (tA▸hu e hm))]
  exact hp.brest k λj hj eA=>DA λhq=>by
   have:=au j hj eA;have h2:=(rX (i:=i) gi).2 (.inr hq);rw[this]at h2;simp at h2
end
theorem jE5(bH:DOkR ops A)(h:uK P E ops cl A τ){aw:Array Bool}(hp:Ph ops A τ aw σ)(au:∀j,j<ops.size->aw.getD j false=true):σ=τ ops.size:=by
 have dV:σ.sl=(τ ops.size).sl:=by
  funext t
  by_cases hex:∃(j:Nat)(oj:Oper),ops[j]? = some oj/\oj.dst=some t
  .obtain⟨j,oj,hj,ht⟩:=hex;have ak:j<ops.size:=(ji.1 hj).1;rw[hp.done j oj t hj ht (au j ak)];have:=Dy h (t:=t) (j:=j+1) (ops.size-(j+1)) (by omega) (λk ok h1 h2 hk=>(bH.dst k j ok oj t hk hj (by omega) ht).1);rw[show j+1+(ops.size-(j+1))=ops.size by omega]at this;exact this.symm
  .rw[hp.rest t (λj oj hj ht=>absurd ⟨j,oj,hj,ht⟩ hex)];have:=Dy h (t:=t) (j:=0) ops.size (by omega) (λk ok _ hk pH tp=>hex ⟨k,ok,pH,tp⟩);rw[kg]at this;exact this.symm
 have fh:σ.bx=(τ ops.size).bx:=by
  funext k
  by_cases hex:∃j,j<ops.size/\k∈A.getD j []
  .obtain⟨m,hm,rY,fa⟩:=Hx _ _ hex;rw[hp.bdone m k hm rY (au m hm) (λj hj eA _=>fa j hj eA)];have:=Dz h (k:=k) (j:=m+1) (ops.size-(m+1)) (by omega) (λj oj h1 h2 hj eA=>by have:=fa j (by omega) eA;omega);rw[show m+1+(ops.size-(m+1))=ops.size by omega]at this;exact this.symm
  .rw[hp.brest k (λj hj eA=>absurd ⟨j,hj,eA⟩ hex)];have:=Dz h (k:=k) (j:=0) ops.size (by omega) (λj oj h1 h2 hj eA=>hex ⟨j,by omega,eA⟩);rw[kg]at this;exact this.symm
 cases σ;cases hq:τ ops.size;rw[hq]at fh dV;simp only at fh dV;rw[fh,dV]
end
theorem jrh{l:Array Bool}{i:Nat}(hi:l.getD i true=false):(l.setIfInBounds i true).toList.count false+1=l.toList.count false:=by
 have ak:i<l.size:=by
  rcases qx i l.size with h|h
  .exact h
  .simp[Array.getElem?_eq_none h]at hi
 have hv:l.toList[i]'(by simpa using ak)=false:=by simp[ak]at hi;simpa using hi
 have bJ:0<l.toList.count false:=List.count_pos_iff.2 (hv▸jf _);have hc:(l.toList.set i true).count false=l.toList.count false-(if l.toList[i]'(by simpa using ak)==false then 1 else 0)+(if true==false then 1 else 0):=List.count_set (by simpa using ak);rw[hv]at hc;rw[Array.toList_setIfInBounds];simp only[qd,if_true,show (true==false)=false from rfl,q7,zo,Nat.add_zero]at hc;omega
theorem jwa{l:Array Bool}(h:l.toList.count false=0){j:Nat}(hj:j<l.size):l.getD j false=true:=by
 have h0:false∉l.toList:=List.count_eq_zero.1 h;simp only[zq,ju hj,zg];cases hv:l[j]with
 |true=>rfl
 |false=>exact absurd (hv▸by simp:false∈l.toList) h0
theorem jxU{ops:Array Oper}{A:List (List Nat)}(bH:DOkR ops A){aw:Array Bool}(hs:aw.size=ops.size)(h:Region.ready .any ops aw=[]):∀j,j<ops.size->aw.getD j false=true:=by
 intro j;induction j using Nat.strongRecOn with
 |_ j ih=>
  intro hj;cases hq:aw.getD j false with
  |true=>rfl
  |false=>
   have ho:ops[j]? = some ops[j]:=ju hj
   have hm:j∈Region.ready .any ops aw:=mem_ready.2 ⟨by
    have iB:j<aw.size:=by omega
    simp[iB]at hq ⊢;exact hq,ops[j],ho,λe he hb=>ih _ (bH.lt j _ ho _ (Ly.2 ⟨e,he,hb,rfl⟩)) (Nat.lt_trans (bH.lt j _ ho _ (Ly.2 ⟨e,he,hb,rfl⟩)) hj)⟩
   rw[h]at hm;simp at hm
theorem jwb{P:Program}{E:Env}(hT:cO P E.T){ops:Array Oper}{cl:List Nat}{A:List (List Nat)}(eM:ClOk ops cl)(bH:DOkR ops A){τ:Nat->St}(h:uK P E ops cl A τ)
  {Q:Exit->Go.Act->World->Prop}(hn:∀a' w' S' γ',Rel E.N E.np S0 w0 refs (τ ops.size) a' w' S' γ'->dp (τ ops.size)->Q .normal a' w') :
  ∀(fuel:Nat)(aw:Array Bool){σ:St}{a:Go.Act}{w:World}{S:aP}{γ:Nat->Value},aw.size=ops.size->aw.toList.count false<=fuel->Rel E.N E.np S0 w0 refs σ a w S γ->dp σ->
   Ph ops A τ aw σ->wpAny P .any ops Q fuel aw a w:=by
 have fp:∀(aw:Array Bool){σ:St}{a:Go.Act}{w:World}{S:aP}{γ:Nat->Value},Rel E.N E.np S0 w0 refs σ a w S γ->dp σ->Ph ops A τ aw σ->(∀j,j<ops.size->aw.getD j false=true)->Q .normal a w:=by intro aw σ a w S γ hR hc wO au;have he:=jE5 bH h wO au;subst he;exact hn a w S γ hR hc
 intro fuel;induction fuel with
 |zero=>
  intro aw σ a w S γ hs DC hR hc wO;have au:∀j,j<ops.size->aw.getD j false=true:=λj hj=>jwa (by omega) (by omega);refine⟨?_,fp aw hR hc wO au⟩;refine List.eq_nil_iff_forall_not_mem.2 λi hi=>?_;have h0:=(mem_ready.1 hi).1;have ak:i<ops.size:=by obtain⟨_,o,ho,_⟩:=mem_ready.1 hi;exact(ji.1 ho).1
  have:=au i ak;rw[UO h0]at this;simp at this
 |succ fuel ih=>
  intro aw σ a w S γ hs DC hR hc wO;refine⟨λfo=>fp aw hR hc wO (jxU bH hs fo),λi hi=>?_⟩;obtain⟨mi,o,ho,eh⟩:=jw9 hi;have yM:=UO mi;have dE:=jrh mi;have bU:(aw.setIfInBounds i true).size=ops.size:=by simpa using hs
  obtain⟨hd,fI⟩:=h i o ho;refine D_wp hT hR hc ho hd fI (jCT bH h wO ho yM eh eM) (jCS bH h wO ho yM eh) ?_;intro s u a' w' S' γ' he hu bY dq;exact ih _ bU (by omega) bY dq (jCU bH h wO ho yM eh (Nat.le_of_eq hs.symm) he hu)
theorem jwc{P:Program}{E:Env}(hT:cO P E.T)(hC:jJ P E.C)(hF:CFun E.C)(hR:Rel E.N E.np S0 w0 refs σ a w S γ)(hc:dp σ){ops:Array Oper}{A:List (List Nat)}
  {R:Type}{k:St->Option R}{r:R}{Q:Exit->Go.Act->World->Prop}(hn:∀σ' a' w' S' γ',Rel E.N E.np S0 w0 refs σ' a' w' S' γ'->dp σ'->k σ'=some r->Q .normal a' w')(h:Cv E ops A σ k=some r) :
  wpAny P .any ops Q ops.size (Array.replicate ops.size false) a { w with drawn:=w.drawn+1 }:=by
 unfold Cv at h;split at h
 .rename_i bH;obtain⟨τ,h1,h2,h3⟩:=UJ (P:=P) (ops:=ops) hC hF ops.size 0 σ (kg _) (by simpa using h)
  have od:∀j,(Array.replicate ops.size false).getD j false=false:=by
   intro j;rcases qx j ops.size with hj|hj
   .simp[hj]
   .simp[hj]
  have eM:ClOk ops (Cs ops.toList []):=UF ops.toList [] (λi j h=>by simp at h) (λk o hk=>by simpa using hk);refine jwb hT eM (jta eM bH) (τ:=τ) (λj o ho=>h3 j o (kf _) ho) (λa' w' S' γ' bY dq=>hn _ a' w' S' γ' bY dq h2) ops.size _ (by simp) (by simp) (hR.drawn _) hc ?_
  exact⟨λj o _ hj=>by rw[od]at hj;simp at hj,λj o t _ _ hj=>by rw[od]at hj;simp at hj,λt _=>by rw[h1],
   λj k _ _ hj=>by rw[od]at hj;simp at hj,λk _=>by rw[h1]⟩
 .simp at h
end
def FR(ro:Option Nat):Fence:={ Fence.wide with round:=ro }
theorem UR(ro:Option Nat)(n:Nat):(FR ro).room n:=λd h=>by simp[FR,Fence.wide]at h
section
variable{P:Program}{ro:Option Nat}{n:Nat}
theorem jCV{f:FuncId}{args:Array Value}{w:World}{R:Ending->World->Prop}(h:Calls P f args w R):CallsIn (FR ro) n P f args w R:=(callsIn_wide (n:=n)).2 h
theorem jCW{f:FuncId}{args:Array Value}{w:World}{R:Ending->World->Prop}(h:CallsIn (FR ro) n P f args w R):Calls P f args w R:=(callsIn_wide (n:=n)).1 h
theorem jE6{m:Nat}{c:Code}{Q:Exit->Go.Act->World->Prop}{a:Go.Act}{w:World}(h:c.wpIn (FR ro) n P Q a w):c.wpIn (FR ro) m P Q a w:=
 λb k cs gm hb hr=>h b k cs gm hb (UR _ _)
theorem jE7{row:String}{args:Array Value}{w:World}{R:Value->World->Prop}(h:Rows P row args w R):RowsIn (FR ro) n P row args w R:=
 λc cs _=>let ⟨v,w',r,s⟩:=h c cs;⟨v,w',r,stepsIn_wide.2 s⟩
theorem Hy{o:Oper}(hp:ro=none\/∀c,o.op ≠ .defer c){a:Go.Act}{w:World}{K K':Go.Act->World->Prop}{Q:Exit->Go.Act->World->Prop}(hK:∀a w,K a w->K' a w)
  (h:o.wp P a w K Q):o.wpIn (FR ro) n P a w K' Q:=by
 refine⟨λ_ _=>trivial,?_⟩
 have e:o.semAt (FR ro).round a.eval=execOp a.eval o:=by
  rcases hp with rfl|hp
  .rfl
  .exact Oper.semAt_eq _ _ _ hp
 rw[e];unfold Oper.wp at h;revert h;cases (execOp a.eval o).run P w with
 |ok x w'=>
  cases x with
  |value v=>intro h;exact hK _ _ h
  |skip=>intro h;exact hK _ _ h
  |defer d=>intro h;exact hK _ _ h
  |enter f args=>
   intro h;refine⟨λhd=>by simp[FR,Fence.wide]at hd,jCV (Calls.mono h λe xD he=>?_)⟩;cases e with
   |returned v=>exact hK _ _ he
   |panicked c=>exact he
   |outgrown=>exact he
  |row r args=>intro h;exact⟨λhd=>by simp[FR,Fence.wide]at hd,jE7 (Rows.mono h λv xD he=>hK _ _ he)⟩
  |round l f tmps x y=>intro h;exact h.elim
  |_=>intro h;exact h.elim
 |halt x w'=>cases x<;>intro h<;>exact h
theorem uM{ops:Array Oper}{Q:Exit->Go.Act->World->Prop}(hp:ro=none\/∀o∈ops.toList,∀c,o.op ≠ .defer c)(cY:¬LetsOut Q):∀(l:List Nat)(a:Go.Act)(w:World),wpOps P ops Q l a w->wpOpsIn (FR ro) n P ops Q l a w
 |[],a,w,h=>h
 |i::r,a,w,h=>by
  simp only[wpOps]at h;simp only[wpOpsIn];cases ho:ops[i]? with
  |none=>simp only[ho]at h ⊢;exact uM hp cY r a w h
  |some o=>
   simp only[ho]at h ⊢;split
   .rename_i hw;simp only[hw,if_true]at h;rcases h with h|⟨_,h⟩
    .refine Hy (hp.imp id λhh=>hh o ?_) (λa w=>uM hp cY r a w) h;obtain⟨ak,rfl⟩:=ji.1 ho;exact Array.mem_toList_iff.2 (Array.getElem_mem ak)
    .exact absurd h cY
   .rename_i hw;simp only[hw]at h;exact⟨λ_ _=>trivial,uM hp cY r _ w h⟩
theorem Hz{md:Region.Mode}{ops:Array Oper}{Q:Exit->Go.Act->World->Prop}(hp:ro=none\/∀o∈ops.toList,∀c,o.op ≠ .defer c)(cY:¬LetsOut Q) :
  ∀(fuel:Nat)(aw:Array Bool)(a:Go.Act)(w:World),wpAny P md ops Q fuel aw a w->wpAnyIn (FR ro) n P md ops Q fuel aw a w
 |0,_,_,_,h=>h
 |fuel+1,aw,a,w,h=>by
  refine⟨h.1,λi hi=>?_⟩;have h2:=h.2 i hi;unfold wpOp at h2;unfold wpOpIn;cases ho:ops[i]? with
  |none=>simp only[ho]at h2 ⊢;exact Hz hp cY fuel _ a w h2
  |some o=>
   simp only[ho]at h2 ⊢;split
   .rename_i hw;simp only[hw,if_true]at h2;rcases h2 with h2|⟨_,h2⟩
    .refine Hy (hp.imp id λhh=>hh o ?_) (λa w=>Hz hp cY fuel _ a w) h2;obtain⟨ak,rfl⟩:=ji.1 ho;exact Array.mem_toList_iff.2 (Array.getElem_mem ak)
    .exact absurd h2 cY
   .rename_i hw;simp only[hw]at h2;exact⟨λ_ _=>trivial,Hz hp cY fuel _ _ w h2⟩
end
section
variable{N:NT}{np:Nat}{S0:aP}{w0:World}{refs:Refs}{σ:St}{a:Go.Act}{w:World}{S:aP}{γ:Nat->Value}
theorem Rel.allocO(hR:Rel N np S0 w0 refs σ a w S γ)(o:Obj):Rel N np S0 w0 refs σ a (w.alloc o) S γ:=
 Rel.step (bx':=σ.bx) (γ':=γ) hR (AZ hR o) (.refl _ _) (λk b hb=>fy.keep (AZ hR o) (.refl _ _) rfl (λg hg=>⟨heap_alloc_old w o (me (hR.box k b hb) hg),λ_=>Iff.rfl⟩) (hR.box k b hb))
  hR.own hR.apart hR.new (λg i h=>by have:=hR.here g i h;simp;omega) (λg hg hr=>(heap_alloc_old w o (qv hg hR.grow)).trans (hR.below g hg hr)) (by have:=hR.grow;simp;omega) hR.os hR.tape hR.output
  (λg hg _ h=>⟨heap_alloc_old w o hg,h⟩)
structure Grew(w w':World):Prop where
 old:∀g,g<w.heap.size->w'.heap[g]? = w.heap[g]?
 size:w.heap.size<=w'.heap.size
 os:w'.os=w.os
 tape:w'.tape=w.tape
 output:w'.output=w.output
structure Bt(S:aP)(w:World)(S':aP)(w':World):Prop where
 sub:∀g o,S g o->S' g o
 new:∀g o,S' g o->S g o\/w.heap.size<=g
 here:∀g o,S' g o->g<w'.heap.size
theorem Rel.grew(hR:Rel N np S0 w0 refs σ a w S γ){S':aP}{w':World}(h:Grew w w')(hs:Bt S w S' w'):Rel N np S0 w0 refs σ a w' S' γ:=
 have aM:dP S w S' w':=λg o hg=>⟨hs.sub g o hg,World.cell?_of_block (h.old g (hR.here g o hg))⟩
 Rel.step (bx':=σ.bx) (γ':=γ) hR aM (.refl _ _) (λk b hb=>fy.keep aM (.refl _ _) rfl (λg hg=>
   have hl:=me (hR.box k b hb) hg
   ⟨h.old g hl,λo=>⟨λh1=>(hs.new g o h1).resolve_right (by omega),hs.sub g o⟩⟩) (hR.box k b hb))
  hR.own hR.apart (λg o h1=>(hs.new g o h1).elim (hR.new g o) λh2=> .inr (.inl (q9 hR.grow h2))) hs.here (λg hg hr=>(h.old g (qv hg hR.grow)).trans (hR.below g hg hr)) (q9 hR.grow h.size) (h.os.trans hR.os) (h.tape.trans hR.tape) (h.output.trans hR.output)
  (λg hg _ hn=>⟨h.old g hg,hn⟩)
theorem Rel.swap(hR:Rel N np S0 w0 refs σ a w S γ){N':NT}{refs':Refs}{a':Go.Act}(hb:refs'.blks=refs.blks)(hv:refs'.val=refs.val)(bU:a'.tmps.size=N'.n)(wP:a'.defers=refs'.ds)
  (rZ:∀i,iH S w γ σ.bx (tm a') (σ.sl i) (tm a' i))(hk:∀g o,refs'.kw g=some o->w.heap[g]? = some o/\∀k b,σ.bx k = .live b->blk (γ k)≠some g)
  (hf:∀i v,refs'.fix i=some v->N'.pin i=true/\a'.tmps.getD i undef=v)(HA:refs'.mv=refs.mv:=by rfl):Rel N' np S0 w0 refs' σ a' w S γ:=
 have hm:∀g,g∈refs'↔g∈refs:=λg=>by show g∈refs'.blks↔g∈refs.blks;rw[hb]
 ⟨bU,wP,rZ,hR.box,λk b g h h'=>(hR.own k b g h h').imp (λh=>Own.swap h hb HA) λh=>⟨(hm g).2 h.1,h.2⟩,hR.apart,hR.ext,λg o h=>(hR.new g o h).imp id λh=>Own.swap h hb HA,hR.here,λg h h'=>hR.below g h λh2=>h' ((hm g).2 h2),
  hR.grow,hR.os,hR.tape,hR.output,λk v h=>hR.par k v (hv▸h),hk,hf⟩
theorem HB{g o:Nat}{x:Obj}(h:w.heap[g]? = some x)(hc:x.isCells=false):w.cell? ⟨g,o,none⟩=none:=by
 unfold World.cell?;simp only[h];cases x<;>first|rfl|(simp[Obj.isCells]at hc)
theorem Rel.putO(hR:Rel N np S0 w0 refs σ a w S γ){l:Nat}{o o':Obj}(hk:refs.kw l=some o)(hl:w0.heap.size<=l)(hc:o.isCells=false)(dq:o'.isCells=false) :
  Rel N np S0 w0 { refs with kw:=λg=>if g=l then some o' else refs.kw g } σ a (w.putObj l o') S γ:=by
 obtain⟨hw,cY⟩:=hR.kept l o hk;have ak:=(ji.1 hw).1
 have aM:dP S w S (w.putObj l o'):=λg i h=>⟨h,by
  by_cases hg:g=l
  .subst hg;rw[HB hw hc,HB (World.putObj_heap_same ak) dq]
  .exact World.cell?_of_block (World.putObj_heap_other hg)⟩
 have bE:Rel N np S0 w0 { refs with kw:=λg=>if g=l then none else refs.kw g } σ a w S γ:=
  Rel.swap hR rfl rfl hR.size hR.defers hR.slot (λg x h=>by
   simp only at h;split at h
   .simp at h
   .exact hR.kept g x h) hR.fix
 have cH:Rel N np S0 w0 { refs with kw:=λg=>if g=l then none else refs.kw g } σ a (w.putObj l o') S γ:=
  Rel.step (bx':=σ.bx) (γ':=γ) bE aM (.refl _ _) (λk b hb=>fy.keep aM (.refl _ _) rfl (λg hg=>⟨World.putObj_heap_other (λe=>cY k b hb (e▸hg)),λ_=>Iff.rfl⟩) (hR.box k b hb))
   bE.own bE.apart bE.new (λg i h=>by simpa using hR.here g i h) (λg hg hr=>(World.putObj_heap_other (by omega)).trans (bE.below g hg hr)) (by simpa using hR.grow) hR.os hR.tape hR.output
   (λg _ uh h=>⟨World.putObj_heap_other (λe=>by subst e;simp at uh),h⟩)
 refine Rel.swap cH rfl rfl cH.size cH.defers cH.slot (λg x h=>?_) cH.fix;simp only at h;split at h
 .rename_i e;subst e;simp only[j5]at h;subst h;exact⟨World.putObj_heap_same ak,cY⟩
 .rename_i e;have h1:=hR.kept g x h;exact⟨(World.putObj_heap_other e).trans h1.1,h1.2⟩
theorem jxW(np:Nat)(K:Keep)(s:Snap)(i:Nat):(∃c,(cJ np K s).sl i = .one c)/\(i∉K.slots->(cJ np K s).sl i = .one (.one .dead)):=by
 have dV:(cJ np K s).sl i=match K.slots.idxOf? i with
  |some j=>xA s[j]?
  |none=> .one (.one .dead):=rfl
 rw[dV];cases hq:K.slots.idxOf? i with
 |none=>exact⟨⟨_,rfl⟩,λ_=>rfl⟩
 |some j=>refine⟨?_,λh=>absurd (kc (qU hq)) h⟩;simp only;unfold xA;split<;>exact⟨_,rfl⟩
theorem Rel.frame{K:Keep}{s:Snap}(hR:Rel N np S0 w0 refs (cJ np K s) a w S γ){N':NT}{refs':Refs}{a':Go.Act}(hb:refs'.blks=refs.blks)(hv:refs'.val=refs.val)(bU:a'.tmps.size=N'.n)(wP:a'.defers=refs'.ds)
  (dV:∀i∈K.slots,tm a' i=tm a i)(hk:∀g o,refs'.kw g=some o->w.heap[g]? = some o/\∀k b,(cJ np K s).bx k = .live b->blk (γ k)≠some g)
  (hf:∀i v,refs'.fix i=some v->N'.pin i=true/\a'.tmps.getD i undef=v)(HA:refs'.mv=refs.mv:=by rfl):Rel N' np S0 w0 refs' (cJ np K s) a' w S γ:=by
 refine hR.swap hb hv bU wP (λi=>?_) hk hf HA;obtain⟨⟨c,hc⟩,hd⟩:=jxW np K s i;by_cases hi:i∈K.slots
 .have:=hR.slot i;rw[hc]at this ⊢;rw[dV i hi];exact this
 .rw[hd hi];exact⟨trivial,λh=>absurd rfl h⟩
end
section
variable{P:Program}{F:Fence}{n:Nat}{b:Frame}{a:Go.Act}{k:List Go.Item}{cs:List Frame}{w:World}{Q:Exit->Go.Act->World->Prop}
theorem Bu{c:Code}:step P (lone (b.atR a (.code (.scope c)::k)) cs w) = .next (lone (b.atR a (.code c :: .inScope c::k)) cs w):=
 step_lone_go (by simp[stepG,stepG.exec,Frame.atR])
theorem jpc{c:Code}:step P (lone (b.atR a (.inScope c::k)) cs w) = .next (lone (b.atR a k) cs w):=
 step_lone_go (by simp[stepG,stepG.exec,Frame.atR])
theorem jwe{c:Code}(hng:∀l a w,¬Q (.goto l) a w)(h:c.wpIn F n P Q a w):(Code.scope c).wpIn F n P Q a w:=by
 intro b k cs gm hb hr;have h0:(lone (b.atR a (.code (.scope c)::k)) cs w).fenced P F:=fenced_calm hb hr rfl;obtain⟨e,a₁,w₁,hq,pI⟩:=h b (.inScope c::k) cs gm hb hr;cases e with
 |normal=>exact⟨.normal,a₁,w₁,hq,.head h0 Bu (StepsIn.trans pI (.one (fenced_calm hb hr rfl) jpc))⟩
 |exit id=>
  have hx:exitTo id (.inScope c::k)=exitTo id k:=by simp[exitTo]
  exact⟨_,a₁,w₁,hq,λk' hk=> .head h0 Bu (pI.1 k' (by rw[hx];exact hk)),
   λui hk=>let ⟨k₁,h1,h2⟩:=pI.2 ui (by rw[hx];exact hk);⟨k₁,h1,.head h0 Bu h2⟩⟩
 |goto l=>exact absurd hq (hng l a₁ w₁)
 |ret=>exact⟨_,a₁,w₁,hq,.of_steps (.one h0 Bu) pI⟩
 |panic ch=>exact⟨_,a₁,w₁,hq,.of_steps (.one h0 Bu) pI⟩
 |outgrown=>exact⟨_,a₁,w₁,hq,.of_steps (.one h0 Bu) pI⟩
end
section
variable{N:NT}{np:Nat}{S0:aP}{w0:World}{refs:Refs}{σ:St}{a:Go.Act}{w:World}{S:aP}{γ:Nat->Value}
def exOf:Ex->Exit
 |.normal=> .normal
 |.exit i=> .exit i
 |.ret=> .ret
def fQ:Nat->Code->List (Nat×Code)
 |b,.seq x y=>fQ b x++fQ b y
 |b,.cond _ x y=>fQ b x++fQ b y
 |_,.block id c=>fQ id c
 |b,.loop c=>(b,c)::fQ b c
 |b,.rangeFunc g ps x y=>[(b,.rangeFunc g ps x y)]
 |b,.scope c=>fQ b c
 |_,_=>[]
def DD(E:Env)(b:Nat)(c:Code):Prop:=
 ∀(s:Snap)(R:Type)(k:Ex->Snap->Option R)(r:R),E.L b s R k=some r->∃n e s',loopN (Kq E b c) n s=some (e,s')/\k e s'=some r
def MrOK(E:Env)(b:Nat)(c:Code):Prop:=
 ∀(m nm:Nat)(p:MrP),E.mr b=some (m,nm)->mrP b c=some p->∀(s:Snap)(R:Type)(k:Snap->Option R)(r:R),E.M b s R k=some r->
  ∃(em:Nat)(v:Ty)(xs ys:List (Int×v.den)),isM em=true/\s=gF s em v xs/\
   (∀zs,(cJ E.np (E.keep b) (gF s em v zs)).bx nm = .live (.lst em (.pair (.int .i64) v) zs false)/\(cJ E.np (E.keep b) (gF s em v zs)).sl m = .one (.one (.ol nm)))/\
   All2 (λx y=>y.1=x.1/\∀zs,AP E b p m (gF s em v zs) v x.1 x.2 some=some (gF s em v (@ea _ _ (Ty.int .i64).keq zs x.1 y.2))) xs ys/\k (gF s em v ys)=some r
theorem Bv(p:Nat->Prop):∀n,p n->∃m,p m/\∀j,p j->m<=j:=by
 intro n;induction n using Nat.strongRecOn with
 |_ n ih=>
  intro h;by_cases hj:∃j,j<n/\p j
  .obtain⟨j,hj,hp⟩:=hj;exact ih j hj hp
  .exact⟨n,h,λj hp=>Nat.le_of_not_lt λhl=>hj ⟨j,hl,hp⟩⟩
open Classical in
noncomputable def HC(p:Nat->Prop):Nat:=if h:∃n,p n then (Bv p h.choose h.choose_spec).choose else 0
theorem US{p:Nat->Prop}{n:Nat}(h:p n):p (HC p)/\HC p<=n:=by
 unfold HC;have hx:∃n,p n:=⟨n,h⟩;rw[dif_pos hx];exact⟨(Bv p hx.choose hx.choose_spec).choose_spec.1,(Bv p hx.choose hx.choose_spec).choose_spec.2 n h⟩
theorem UT{P:Program}{F:Fence}{n0:Nat}{Q:Exit->Go.Act->World->Prop}{c:Code}(I:Nat->Go.Act->World->Prop){n:Nat}(h₀:I n a w)
  (round:∀n a w,I n a w->c.wpIn F n0 P (Exit.then (λa' w'=>∃m,m<n/\I m a' w') Q) a w):(Code.loop c).wpIn F n0 P Q a w:=by
 refine wpIn_loop (λa w=>∃n,I n a w) (λa w=>HC λn=>I n a w) ⟨n,h₀⟩ (λa w hI=>?_);obtain⟨m,hm⟩:=hI;have hl:=(US (p:=λn=>I n a w) hm).1;refine wpIn_mono (round _ a w hl) (λe a' w' h=>?_);cases e with
 |normal=>obtain⟨m',ak,HD⟩:=h;exact⟨⟨m',HD⟩,Nat.lt_of_le_of_lt (US (p:=λn=>I n a' w') HD).2 ak⟩
 |_=>exact h
def yN(w0:World)(refs:Refs):Prop:=
 refs.ds.Nodup/\∀d∈refs.ds,∃D,d={ target:= .collected D,args:=#[] }/\w0.heap.size<=D/\refs.kw D=some (.deferred (some []))
structure yO(w0:World)(refs refs':Refs):Prop where
 blks:refs'.blks=refs.blks
 val:refs'.val=refs.val
 fix:refs'.fix=refs.fix
 marks:yN w0 refs'
 mv:refs'.mv=refs.mv
theorem yO.trans{r r' UU:Refs}(h:yO w0 r r')(h':yO w0 r' UU):yO w0 r UU:=⟨h'.blks.trans h.blks,h'.val.trans h.val,h'.fix.trans h.fix,h'.marks,h'.mv.trans h.mv⟩
def Post(E:Env)(S0:aP)(w0:World)(refs:Refs)(pl:Bool){R:Type}(k:Ex->St->Option R)(r:R):Exit->Go.Act->World->Prop:=
 λe a' w'=>∃refs' ex σ' S' γ',yO w0 refs refs'/\(pl=true->refs'=refs)/\exOf ex=e/\Rel E.N E.np S0 w0 refs' σ' a' w' S' γ'/\dp σ'/\k ex σ'=some r
theorem LD{E:Env}{pl:Bool}{R:Type}{k:Ex->St->Option R}{r:R}:¬LetsOut (Post E S0 w0 refs pl k r):=by
 rintro⟨a,w,refs',ex,_,_,_,_,_,he,_⟩
 cases ex<;>simp[exOf]at he
def BwOK(P:Program)(f:Nat)(t:Ty):Prop:=
 Fun P f/\∀(cv:Array Value)(m l:Nat)(J:Nat->aP->World->Prop)(Jx:World->Prop)(W:World)(S:aP),
  (∀j S W S' W',Grew W W'->Bt S W S' W'->J j S W->J j S' W')->(∀W W',Grew W W'->Jx W->Jx W')->(∀j S W,J j S W->∀g o,S g o->g<W.heap.size)->
  (∀j S W,j<m->J j S W->∃xs:List t.den,All2 (jR S W) [.p [⟨.list t,xs⟩]] cv.toList/\m-1-j<xs.length/\∀S' W' x v,Grew W W'->Bt S W S' W'->xs[m-1-j]? = some x->VRep S' W' ⟨t,x⟩ v->
   YieldAt (FR none) 0 P l #[.int .i64 ((m-1-j:Nat):Int),v] W' λe W'=>(e = .returned (.bool true)/\∃S',J (j+1) S' W')\/(e = .returned (.bool false)/\Jx W'))->
  (∃(S':aP)(xs:List t.den),xs.length=m/\(∀g o,S' g o->g<W.heap.size)/\All2 (jR S' W) [.p [⟨.list t,xs⟩]] cv.toList)->J 0 S W->
  CallsIn (FR none) 0 P f (#[.func (.yield l) #[] #[]]++cv) W λe W'=>(∃v,e = .returned v)/\((∃S',J m S' W')\/Jx W')
def ItOK(P:Program)(f:Nat)(kd:Bool)(t:Ty):Prop:=
 Fun P f/\∀(cv:Array Value)(l:Nat)(J:Int->aP->World->Prop)(Je Jx:World->Prop)(W:World)(S:aP)(h9:List t.den),
  (∀c S W S' W',Grew W W'->Bt S W S' W'->J c S W->J c S' W')->(∀W W',Grew W W'->Je W->Je W')->(∀W W',Grew W W'->Jx W->Jx W')->(∀c S W,J c S W->∀g o,S g o->g<W.heap.size)->
  (∀c S W,J c S W->∃xs:List t.den,All2 (jR S W) [.p [⟨.list t,xs⟩]] cv.toList/\(Ko kd xs.length c=true->Je W)/\
   (Ko kd xs.length c=false->itOk kd xs.length c=true/\∀S' W' vs,Grew W W'->Bt S W S' W'->All2 (VRep S' W') (CA kd t xs c) vs->
    YieldAt (FR none) 0 P l vs.toArray W' λe W'=>(e = .returned (.bool true)/\∃S',J (Cz kd c) S' W')\/(e = .returned (.bool false)/\Jx W')))->
  (∃S',(∀g o,S' g o->g<W.heap.size)/\All2 (jR S' W) [.p [⟨.list t,h9⟩]] cv.toList)->J (Cy kd h9.length) S W->
  CallsIn (FR none) 0 P f (#[.func (.yield l) #[] #[]]++cv) W λe W'=>(∃v,e = .returned v)/\(Je W'\/Jx W')
def LF(P:Program)(fK fS e:Nat):Prop:=Fun P fK/\Fun P fS/\∀(w:World)(g:Nat)(es:Array MapEntry)(clock:Nat)(ks:List Int),
 w.heap[g]? = some (.map es clock)->MapKept.Stamped es clock->es.toList.map (·.key)=ks.map (Value.int .i64)->(∀x∈ks, -9223372036854775808<=x/\x<=9223372036854775807)->ks.length<=1000000->
 Calls P fK #[.map (some g)] w λr w1=>∃c,r = .returned c/\Grew w w1/\Calls P fS #[c] w1 λr2 w2=>∃v,r2 = .returned v/\w2.ownsRow w1.heap.size e 1 v ks.length ((nH ks).map (Value.int .i64))/\Grew w1 w2
def UW(P:Program)(f e sz:Nat):Prop:=Fun P f/\∀(w:World)(n:Int),0<=n->n<=1000000->
 Calls P f #[.slice none 0 0,.int .i64 n] w λr w'=>∃v,r = .returned v/\w'.ownsRow w.heap.size e sz v 0 []/\Grew w w'
def BwK(P:Program)(f:Nat):Bool×Ty->Prop
 |(true,.arr fK (.arr e .bool))=>LF P fK f e
 |(true,.arr e (.arr sz .unit))=>UW P f e sz
 |(kd,t)=>ItOK P f kd t
theorem BwK.it{P:Program}{f:Nat}{kd:Bool}{t:Ty}(h:BwK P f (kd,t))(ht:kd=true->t=segT):ItOK P f kd t:=by
 cases kd with
 |false=>exact h
 |true=>obtain rfl:=ht rfl;exact h
section
variable{N:NT}{np:Nat}{S0:aP}{w0:World}{refs:Refs}{σ:St}{a:Go.Act}{w:World}{S:aP}{γ:Nat->Value}
theorem jAs(ks:List Int):(nH ks).length=ks.length:=by
 have hi:∀(x:Int)(l:List Int),(insI x l).length=l.length+1:=by
  intro x l;induction l with
  |nil=>rfl
  |cons y r ih=>unfold insI;cases decide (x<=y)<;>simp[ih]
 induction ks with
 |nil=>rfl
 |cons x r ih=>simp[nH,hi,ih]
theorem DE{vt:Ty}:∀{xs:List (Int×vt.den)}{l:List MapEntry},All2 (λ(x:(Ty.int .i64).den×vt.den)(e:MapEntry)=>Rep S w (.int .i64) x.1 [e.key]/\VRep S w ⟨vt,x.2⟩ e.val) xs l->
  l.map (·.key)=(xs.map λx=>x.1).map (Value.int .i64)
 |[],[],_=>rfl
 |[],_::_,h=>h.elim
 |_::_,[],h=>h.elim
 |y::r,z::q,h=>by
  have h1:[z.key]=[Value.int .i64 y.1]:=h.1.1;simp only[ke,List.cons.injEq];exact⟨by simpa using h1,DE h.2⟩
theorem jwg{P:Program}{E:Env}(iC:∀f t,E.bw f=some t->BwK P f t)(hR:Rel E.N E.np S0 w0 refs σ a w S γ)(hc:dp σ){o o2:Oper}(hd:mu E.N o=true)(gZ:mu E.N o2=true)
  {σ':St}(h:Kj E σ o o2=some (true,σ')){next wQ:Go.Act->World->Prop}{Q:Exit->Go.Act->World->Prop}
  (qX:∀a1 w1,o2.wp P a1 w1 next Q->wQ a1 w1)(hn:∀a' w' S' γ',Rel E.N E.np S0 w0 refs σ' a' w' S' γ'->dp σ'->next a' w'):o.wp P a w wQ Q:=by
 unfold Kj at h;split at h
 case h_2=>simp at h
 rename_i c1 c2 ho nZ;split at h
 case h_2=>simp at h
 rename_i f1 x f2 d eG DF fg wh;split at h
 case h_2=>simp at h
 rename_i fK b fS py hx ud;split at h
 case h_2=>simp at h
 rename_i Kk e em ta xs fr LG yP;split at h
 case h_2=>simp at h
 rename_i cq ys tF;split at h
 case isFalse=>simp at h
 rename_i dy;obtain⟨rfl,DG,Bw,DH,bg⟩:=dy;simp only[j5,j9]at h;obtain⟨rfl,rfl⟩:=h;obtain⟨hFK,hFS,ee⟩:LF P Kk fS e:=iC _ _ LG;have DI:=mw hR x;rw[hx]at DI;have Bq:a.eval x=γ b:=DI.1.2.2 _ yP;unfold SP at tF;split at tF
 case h_2=>simp at tF
 rename_i vt xs;simp only[j5,j9]at tF;obtain⟨bH,rfl⟩:=tF
 obtain⟨g,es,clock,hg,hh,au,aM⟩:CD S w (.pair (.int .i64) vt) xs (γ b):=by
  rcases (hR.box b _ yP).1 with⟨hm,_⟩|⟨_,hm⟩
  .rw[Bw]at hm;simp at hm
  .exact hm
 unfold Cp at bH;simp only[jc,jy,jo]at bH;have Hd:xs.length<=1000000:=qq bH.1;have hks:es.toList.map (·.key)=(xs.map λx=>x.1).map (Value.int .i64):=by exact DE au
 have dQ:=ee w g es clock (xs.map λx=>x.1) hh aM.1 hks (λz hz=>by
  obtain⟨y,hy,rfl⟩:=jt.1 hz;exact bH.2 y hy) (by simpa using Hd)
 have DJ:=mw hR f1;rw[py]at DJ;obtain⟨cv,Bg,kP⟩:=DJ.1
 obtain rfl:cv = #[]:=by
  have:cv.toList=[]:=by
   cases hq:cv.toList with
   |nil=>rfl
   |cons=>rw[hq]at kP;exact kP.elim
  exact ve.1 this
 have aL:=Hm (w:=w) hFK ho eG Bg;have e1:c1.args.map a.eval ++ #[] = #[.map (some g)]:=by apply qk;simp[DF,Bq,hg]
 rw[e1]at aL;unfold Oper.wp;rw[aL,Oper.upon_enter];refine dQ.mono ?_
 rintro r w1 ⟨c,rfl,mf,LH⟩
 have bE:=hR.grew mf (S':=S) ⟨λ_ _ h=>h,λ_ _ h=> .inl h,λg o h=>qv (hR.here g o h) mf.size⟩;obtain⟨cH,LI⟩:=Bp bE hc (yD hd) (s:= .one (.one .dead)) (v:=c) ⟨trivial,λh=>absurd rfl h⟩ rfl;have DK:=mw cH f2;rw[ud]at DK;obtain⟨cv,Bd,kP⟩:=DK.1
 obtain rfl:cv = #[]:=by
  have:cv.toList=[]:=by
   cases hq:cv.toList with
   |nil=>rfl
   |cons=>rw[hq]at kP;exact kP.elim
  exact ve.1 this
 have o8:=Hm (w:=w1) hFS nZ fg Bd;have hda:d<a.tmps.size:=by rw[hR.size];exact(yD hd d DG).1
 have e2:c2.args.map (a.put o.dst c).eval ++ #[] = #[c]:=by
  apply qk;have:(a.put o.dst c).eval (.tmp d)=c:=by show tm (a.put o.dst c) d=c;rw[DG,oa hda,if_pos rfl]
  simp[wh,this]
 rw[e2]at o8;refine qX _ _ ?_;unfold Oper.wp;rw[o8,Oper.upon_enter];refine LH.mono ?_
 rintro r2 w2 ⟨v,rfl,cg,pJ⟩
 have ir:(σ.setD o.dst (.one (.one .dead))).bx ((o2.dst.getD 0)*64) = .free:=by
  rw[show (σ.setD o.dst (.one (.one .dead))).bx=σ.bx by rw[DG];rfl];cases hq:σ.bx ((o2.dst.getD 0)*64) with
  |free=>rfl
  |gone=>rw[hq]at bg;simp[iO]at bg
  |live=>rw[hq]at bg;simp[iO]at bg
 have hblk:∀g',blk v=some g'->w1.heap.size<=g'/\g'<w2.heap.size:=by
  intro g' ar;rcases cg.2 with⟨rfl,_⟩|⟨gb,cap,cur,rfl,fW,tB,_⟩
  .simp[blk]at ar
  .simp[blk]at ar;subst ar;exact⟨fW,(ji.1 tB).1⟩
 have iX:w2.ownsRow 0 e (Ty.int .i64).size v (lh xs).length (((lh xs).map (λx=>[Value.int .i64 x])).flatten):=by
  have e3:((lh xs).map (λx=>[Value.int .i64 x])).flatten=(nH (xs.map λx=>x.1)).map (Value.int .i64):=by
   unfold lh;induction nH (xs.map λx=>x.1) with
   |nil=>rfl
   |cons y r ih=>simp only[ke,kx,ih];rfl
  rw[e3,show (lh xs).length=(xs.map λx=>x.1).length from jAs _];refine⟨cg.1,?_⟩;rcases cg.2 with hl|⟨gb,cap,cur,h1,h2,h3⟩
  .exact .inl hl
  .exact .inr ⟨gb,cap,cur,h1,kf _,h3⟩
 have LJ:=Bb cH ir (w':=w2) (S':=S) (v':=v) (e:=e) DH (el:= .int .i64) (zs:=lh xs) (frz:=false) (css:=(lh xs).map λx=>[Value.int .i64 x])
  (λg' o' hs=>⟨hs,World.cell?_of_block (pJ.old g' (cH.here g' o' hs))⟩) (λg' ar _=>pJ.old g' ar) pJ.size
  (λg' ar=>⟨.inl (q9 cH.grow (hblk g' ar).1),λk b' aT hk=>by have:=me (cH.box k b' aT) hk;have:=(hblk g' ar).1;omega,(hblk g' ar).2⟩)
  (λ_ _ h=> .inl h) pJ.os pJ.tape pJ.output iX (by
   generalize lh xs=l
   induction l with
   |nil=>trivial
   |cons y r ih=>exact⟨rfl,ih⟩)
  (λg' ar=>⟨λ_ o' hs=>by have:=cH.here g' o' hs;have:=(hblk g' ar).1;omega,λh=>by simp at h⟩) (λg' ar=>cH.kw_new (hblk g' ar).1)
 obtain⟨gj,nW⟩:=LJ;obtain⟨nr,nt⟩:=Bp gj (λi=>LI i) (yD gZ) (s:= .one (.one (.ol ((o2.dst.getD 0)*64)))) (v:=v) nW rfl;exact hn _ _ _ _ nr nt
theorem jwh{P:Program}{E:Env}(iC:∀f t,E.bw f=some t->BwK P f t)(hR:Rel E.N E.np S0 w0 refs σ a w S γ)(hc:dp σ){o:Oper}(hd:mu E.N o=true)
  {σ':St}(h:Kl E σ o=some (true,σ')){next:Go.Act->World->Prop}{Q:Exit->Go.Act->World->Prop}
  (hn:∀a' w' S' γ',Rel E.N E.np S0 w0 refs σ' a' w' S' γ'->dp σ'->next a' w'):o.wp P a w next Q:=by
 unfold Kl at h;split at h
 case h_2=>simp at h
 rename_i c1 ho;split at h
 case h_2=>simp at h
 rename_i f1 x y eG DF;split at h
 case h_2=>simp at h
 rename_i fG n py hx hy;split at h
 case h_2=>simp at h
 rename_i e sz ti LG wg;split at h
 case h_2=>simp at h
 rename_i ta bR;split at h
 case isFalse=>simp at h
 rename_i dy;obtain⟨rfl,DH,bg⟩:=dy;simp only[j5,j9,jc,jo]at h;obtain⟨⟨oO,qX⟩,rfl⟩:=h;obtain⟨hFG,ee⟩:UW P fG e ta.size:=iC _ _ LG;have DI:=mw hR x;rw[hx]at DI;have Bq:a.eval x = .slice none 0 0:=DI.1;have UX:=mw hR y;rw[hy]at UX;have Lh:a.eval y = .int .i64 n:=tZ UX;have DJ:=mw hR f1;rw[py]at DJ;obtain⟨cv,Bg,kP⟩:=DJ.1
 obtain rfl:cv = #[]:=by
  have:cv.toList=[]:=by
   cases hq:cv.toList with
   |nil=>rfl
   |cons=>rw[hq]at kP;exact kP.elim
  exact ve.1 this
 have aL:=Hm (w:=w) hFG ho eG Bg;have e1:c1.args.map a.eval ++ #[] = #[.slice none 0 0,.int .i64 n]:=by apply qk;simp[DF,Bq,Lh]
 rw[e1]at aL;unfold Oper.wp;rw[aL,Oper.upon_enter];refine(ee w n oO qX).mono ?_
 rintro r w1 ⟨v,rfl,cg,mf⟩
 have ir:σ.bx ((o.dst.getD 0)*64) = .free:=by
  cases hq:σ.bx ((o.dst.getD 0)*64) with
  |free=>rfl
  |gone=>rw[hq]at bg;simp[iO]at bg
  |live=>rw[hq]at bg;simp[iO]at bg
 have hblk:∀g',blk v=some g'->w.heap.size<=g'/\g'<w1.heap.size:=by
  intro g' ar;rcases cg.2 with⟨rfl,_⟩|⟨gb,cap,cur,rfl,fW,tB,_⟩
  .simp[blk]at ar
  .simp[blk]at ar;subst ar;exact⟨fW,(ji.1 tB).1⟩
 have iX:w1.ownsRow 0 e ta.size v ([]:List ta.den).length (([]:List (List Value)).flatten):=by
  refine⟨cg.1,?_⟩;rcases cg.2 with hl|⟨gb,cap,cur,h1,h2,h3⟩
  .exact .inl hl
  .exact .inr ⟨gb,cap,cur,h1,kf _,h3⟩
 have LJ:=Bb hR ir (w':=w1) (S':=S) (v':=v) (e:=e) DH (el:=ta) (zs:=[]) (frz:=false) (css:=[])
  (λg' o' hs=>⟨hs,World.cell?_of_block (mf.old g' (hR.here g' o' hs))⟩) (λg' ar _=>mf.old g' ar) mf.size
  (λg' ar=>⟨.inl (q9 hR.grow (hblk g' ar).1),λk b' aT hk=>by have:=me (hR.box k b' aT) hk;have:=(hblk g' ar).1;omega,(hblk g' ar).2⟩)
  (λ_ _ h=> .inl h) mf.os mf.tape mf.output iX trivial
  (λg' ar=>⟨λ_ o' hs=>by have:=hR.here g' o' hs;have:=(hblk g' ar).1;omega,λh=>by simp at h⟩) (λg' ar=>hR.kw_new (hblk g' ar).1)
 obtain⟨gj,nW⟩:=LJ;obtain⟨nr,nt⟩:=Bp gj (λi=>hc i) (yD hd) (s:= .one (.one (.ol ((o.dst.getD 0)*64)))) (v:=v) nW rfl;exact hn _ _ _ _ nr nt
theorem UY{P:Program}{E:Env}(hT:cO P E.T)(hC:jJ P E.C)(iC:∀f t,E.bw f=some t->BwK P f t)(hR:Rel E.N E.np S0 w0 refs σ a w S γ)(hc:dp σ){o:Oper}(hd:mu E.N o=true){R:Type}{k:St->Option R}{r:R}
  (h:runK E σ o k=some r){next:Go.Act->World->Prop}{Q:Exit->Go.Act->World->Prop}
  (hn:∀σ' a' w' S' γ',Rel E.N E.np S0 w0 refs σ' a' w' S' γ'->dp σ'->k σ'=some r->next a' w'):o.wp P a w next Q:=by
 unfold runK at h;split at h
 .rename_i c σ' hg;cases c with
  |false=>simp at h
  |true=>exact jwh iC hR hc hd hg (λa' w' S' γ' bY dq=>hn _ _ _ _ _ bY dq h)
 .exact Br hT hC hR (act:=[]) (λg hg=>by simp at hg) (p:=false) (λ_=>hc) hd h (λσ' a' w' S' γ' bY dq hk=>hn _ _ _ _ _ bY (dq rfl) hk)
theorem LL{P:Program}{E:Env}(hT:cO P E.T)(hC:jJ P E.C)(iC:∀f t,E.bw f=some t->BwK P f t){ops:Array Oper}(ct:bare ops=true){R:Type}{k:St->Option R}{r:R}{Q:Exit->Go.Act->World->Prop}
  (hn:∀σ' a' w' S' γ',Rel E.N E.np S0 w0 refs σ' a' w' S' γ'->dp σ'->k σ'=some r->Q .normal a' w') :
  ∀(n i:Nat)(σ:St)(a:Go.Act)(w:World)(S:aP)(γ:Nat->Value),i+n=ops.size->Rel E.N E.np S0 w0 refs σ a w S γ->dp σ->tR E (ops.toList.drop i) σ k=some r->
   wpOps P ops Q (List.range' i n) a w
 |0,i,σ,a,w,S,γ,hi,hR,hc,h=>by
  rw[jd (by simp;omega)]at h;exact hn _ _ _ _ _ hR hc h
 |1,i,σ,a,w,S,γ,hi,hR,hc,h=>by
  have ak:i<ops.size:=by omega
  rw[jb (by simpa using ak),jd (by simp;omega)]at h;simp only[tR]at h;split at h
  .rename_i hd;have ho:ops[i]? = some ops[i]:=ju ak;simp only[zu,wpOps,ho];have hg:ops[i].guard=none:=by have:=jy.1 ct ops[i] (by simp);simpa using this
   have hw:Region.wanted ops[i] (yielded ops a.tmps)=true:=by simp[Region.wanted,hg]
   simp only[hw,if_true];exact .inl (UY hT hC iC hR hc (by simpa using hd) (by simpa using h) (λσ' a' w' S' γ' bY dq hk=>hn _ _ _ _ _ bY dq hk))
  .simp at h
 |n+2,i,σ,a,w,S,γ,hi,hR,hc,h=>by
  have ak:i<ops.size:=by omega
  have mK:i+1<ops.size:=by omega
  rw[jb (by simpa using ak),jb (by simpa using mK)]at h;simp only[tR]at h;have ho:ops[i]? = some ops[i]:=ju ak;have nZ:ops[i+1]? = some ops[i+1]:=ju mK
  have hw:∀(j:Nat)(hj:j<ops.size)(a:Go.Act),Region.wanted ops[j] (yielded ops a.tmps)=true:=λj hj a=>by
   have hg:ops[j].guard=none:=by have:=jy.1 ct ops[j] (by simp);simpa using this
   simp[Region.wanted,hg]
  split at h
  case isFalse=>simp at h
  rename_i hd;split at h
  .rename_i cq σ' hks;split at h
   case isFalse=>simp at h
   rename_i gZ;cases cq with
   |false=>simp at h
   |true=>simp only[j6]at h;simp only[zu,wpOps,ho,nZ,hw i ak,hw (i+1) mK,if_true];refine .inl (jwg iC hR hc (by simpa using hd) (by simpa using gZ) (by simpa using hks) (λa1 w1 hq=> .inl hq) (λa' w' S' γ' bY dq=>?_));exact LL hT hC iC ct hn n (i+2) σ' a' w' S' γ' (by omega) bY dq h
  .rw[zu];simp only[wpOps,ho,hw i ak,if_true];refine .inl (UY hT hC iC hR hc (by simpa using hd) (by simpa using h) (λσ' a' w' S' γ' bY dq hk=>?_));refine LL hT hC iC ct hn (n+1) (i+1) σ' a' w' S' γ' (by omega) bY dq ?_;rw[jb (by simpa using mK)];simpa using hk
theorem jwi{P:Program}{E:Env}(hT:cO P E.T)(hC:jJ P E.C)(iC:∀f t,E.bw f=some t->BwK P f t)(hR:Rel E.N E.np S0 w0 refs σ a w S γ)(hc:dp σ){ops:Array Oper}{R:Type}{k:St->Option R}{r:R}
  {Q:Exit->Go.Act->World->Prop}(hn:∀σ' a' w' S' γ',Rel E.N E.np S0 w0 refs σ' a' w' S' γ'->dp σ'->k σ'=some r->Q .normal a' w')(h:Cr E ops σ k=some r) :
  wpOps P ops Q (List.range ops.size) a w:=by
 rw[List.range_eq_range'];unfold Cr at h;split at h
 .rename_i hb;exact LL hT hC iC hb hn ops.size 0 σ a w S γ (by omega) hR hc (by simpa using h)
 .simp at h
end
theorem jFy{P:Program}{f:Nat}{t:Ty}(h:BwOK P f t):ItOK P f false t:=by
 refine⟨h.1,λcv l J Je Jx W S h9 aM UZ hsx hh hY dh tG=>?_⟩;obtain⟨S',uN,dq⟩:=dh;refine CallsIn.mono (h.2 cv h9.length l (λj S W=>j<=h9.length/\J ((h9.length:Int)-j) S W) Jx W S (λj S W S' W' hg hs hj=>⟨hj.1,aM _ _ _ _ _ hg hs hj.2⟩) hsx (λj S W hj=>hh _ _ _ hj.2) ?_ ⟨S',h9,rfl,uN,dq⟩ ⟨kf _,?_⟩) ?_
 .rintro j S W hj ⟨_,hJ⟩
  obtain⟨xs,h1,_,h3⟩:=hY _ _ _ hJ;obtain⟨h4,h5⟩:=h3 (by show decide _=false;exact decide_eq_false (by omega));have h4:(h9.length:Int)-j<=Int.ofNat xs.length:=kz h4;have h4:(h9.length:Int)-j<=(xs.length:Int):=h4;refine⟨xs,h1,by omega,λS' W' x v hg hs hx hv=>?_⟩
  have DL:All2 (VRep S' W') (CA false t xs ((h9.length:Int)-j)) [.int .i64 ((h9.length-1-j:Nat):Int),v]:=by
   refine⟨⟨?_,λhm=>absurd hm (show¬jS (.int .i64)=true by decide),λ_=>rfl⟩,?_,trivial⟩
   .show [Value.int .i64 ((h9.length-1-j:Nat):Int)]=[Value.int .i64 ((h9.length:Int)-j-1)];rw[show ((h9.length-1-j:Nat):Int)=(h9.length:Int)-j-1 by omega]
   .have e:List.getD xs ((h9.length:Int)-j-1).toNat t.dflt=x:=by rw[show ((h9.length:Int)-j-1).toNat=h9.length-1-j by omega];simp[List.getD,hx]
    rw[e];exact hv
  obtain⟨fn,tmps,as,bo,hy,hR⟩:=h5 S' W' _ hg hs DL;refine⟨fn,tmps,as,bo,hy,hR.mono λe W' he=>?_⟩;rcases he with⟨h6,S6,h7⟩|h6
  .refine .inl ⟨h6,S6,by omega,?_⟩;have e2:Cz false ((h9.length:Int)-j)=(h9.length:Int)-((j+1:Nat):Int):=by show (h9.length:Int)-j-1=_;omega
   rw[<-e2];exact h7
  .exact .inr h6
 .have:((h9.length:Int)-((0:Nat):Int))=Cy false h9.length:=by show _=Int.ofNat h9.length;simp
  rw[this];exact tG
 .rintro e W' ⟨hv,⟨S',_,hJ⟩|hx⟩
  .obtain⟨xs,_,h2,_⟩:=hY _ _ _ hJ;exact⟨hv,.inl (h2 (by show decide _=true;exact yq (by omega)))⟩
  .exact⟨hv,.inr hx⟩
def HE(P:Program)(E:Env)(ro:Option Nat)(c:Code):Prop:=
 ∀(b n:Nat){S0:aP}{w0:World}{refs:Refs}{σ:St}{a:Go.Act}{w:World}{S:aP}{γ:Nat->Value}{R:Type}{k:Ex->St->Option R}{r:R},yN w0 refs->
  (∀x∈fQ b c,DD E x.1 x.2/\MrOK E x.1 x.2)->Rel E.N E.np S0 w0 refs σ a w S γ->dp σ->fV E b c σ k=some r->c.wpIn (FR ro) n P (Post E S0 w0 refs (dM c) k r) a w
theorem uO:∀(c:Code)(b:Nat),dM c=true->fQ b c=[]
 |.seq x y,b,h=>by simp only[dM,jc]at h;simp[fQ,uO x b h.1,uO y b h.2]
 |.cond _ x y,b,h=>by simp only[dM,jc]at h;simp[fQ,uO x b h.1,uO y b h.2]
 |.block id c,b,h=>by simp only[dM]at h;simp[fQ,uO c id h]
 |.loop c,b,h=>by simp[dM]at h
 |.rangeFunc _ _ _ _,b,h=>by simp[dM]at h
 |.skip,_,_=>rfl
 |.region _ _ _,_,_=>rfl
 |.exit _,_,_=>rfl
 |.goto _,_,_=>rfl
 |.label _,_,_=>rfl
 |.ret,_,_=>rfl
 |.scope c,b,h=>by simp only[dM]at h;simp[fQ,uO c b h]
theorem U0:∀(L:List (Nat×Value))(T:Array Value),qI (L.map (·.1))=true->(∀q∈L,q.1<T.size)->
  (∀q∈L,(L.foldl (λt (q:Nat×Value)=>t.setIfInBounds q.1 q.2) T).getD q.1 undef=q.2)/\(∀i,i∉L.map (·.1)->(L.foldl (λt (q:Nat×Value)=>t.setIfInBounds q.1 q.2) T).getD i undef=T.getD i undef)/\
  (L.foldl (λt (q:Nat×Value)=>t.setIfInBounds q.1 q.2) T).size=T.size
 |[],T,_,_=>⟨λq h=>by simp at h,λ_ _=>rfl,rfl⟩
 |q::r,T,hn,hb=>by
  simp only[ke,qI,jc,kp,qf,kn]at hn;obtain⟨h1,h2,h3⟩:=U0 r (T.setIfInBounds q.1 q.2) hn.2 (λp hp=>by simpa using hb p (by simp[hp]));have hq:=hb q (by simp);refine⟨λp hp=>?_,λi hi=>?_,by simpa using h3⟩
  .rcases je.1 hp with rfl|hp
   .show (List.foldl (λt (q:Nat×Value)=>t.setIfInBounds q.1 q.2) (T.setIfInBounds p.1 p.2) r).getD p.1 undef=_;rw[h2 p.1 hn.1];simp[Array.getD,hq]
   .exact h1 p hp
  .simp only[ke,je,not_or]at hi;show (List.foldl (λt (q:Nat×Value)=>t.setIfInBounds q.1 q.2) (T.setIfInBounds q.1 q.2) r).getD i undef=_;rw[h2 i hi.2];rw[zq,Array.getElem?_setIfInBounds,if_neg (λh=>hi.1 h.symm),<-zq]
theorem U1{N:NT}{np:Nat}:∀(L:List (Nat×TV)){σ:St},Rel N np S0 w0 refs σ a w S γ->dp σ->(∀q∈L,VRep S w q.2 (tm a q.1))->Rel N np S0 w0 refs (setL L σ) a w S γ/\dp (setL L σ)
 |[],_,hR,hc,_=>⟨hR,hc⟩
 |q::r,σ,hR,hc,hv=>by
  have h1:=Ll hR (s:=q.1) (x:= .one (oH q.2.t q.2.v)) (xY (hv q (by simp)));refine U1 r h1 (λi=>?_) (λp hp=>hv p (by simp[hp]));simp only[St.setS];split
  .rfl
  .exact hc i
theorem U2{S:aP}{w:World}:∀{ps:List Nat}{xs:List TV}{vs:List Value},All2 (VRep S w) xs vs->∀q∈ps.zip xs,∃v,(q.1,v)∈ps.zip vs/\VRep S w q.2 v
 |[],_,_,_,q,h=>by simp at h
 |p::ps,[],vs,_,q,h=>by simp at h
 |p::ps,x::xs,[],h2,q,h=>h2.elim
 |p::ps,x::xs,v::vs,h2,q,h=>by
  simp only[List.zip_cons_cons,je]at h;rcases h with rfl|h
  .exact⟨v,by simp,h2.1⟩
  .obtain⟨u,h3,h4⟩:=U2 h2.2 q h;exact⟨u,by simp[h3],h4⟩
theorem U3:∀(ps:List Nat)(vs:List Value),qI ps=true->qI ((ps.zip vs).map (·.1))=true
 |[],_,_=>by simp[qI]
 |p::ps,[],_=>by simp[qI]
 |p::ps,v::vs,h=>by
  simp only[qI,jc,kp,qf,kn,List.zip_cons_cons,ke]at h ⊢;refine⟨λhm=>h.1 ?_,U3 ps vs h.2⟩;obtain⟨q,hq,he⟩:=jt.1 hm;rw[<-he];exact(List.of_mem_zip hq).1
theorem jCX{kd:Bool}{t:Ty}{xs:List t.den}{c:Int}(h:kd=true->t=segT):(CA kd t xs c).length=cond kd 1 2:=by
 cases kd with
 |false=>rfl
 |true=>have:=h rfl;subst this;rfl
theorem jAt{P:Program}{E:Env}(iC:∀f t,E.bw f=some t->BwK P f t)(lR:E.N.pin=λ_=>false){b n:Nat}{g:Operand}{ps:Array Nat}{x y:Code}
  (r5:∀l,dM x=true->HE P (E.rnd ps x y) (some l) x)(r6:∀l,dM y=true->HE P (E.rnd ps x y) (some l) y)
  (hLO:DD E b (.rangeFunc g ps x y)){R:Type}{k:Ex->St->Option R}{r:R}(hm:yN w0 refs)(hR:Rel E.N E.np S0 w0 refs σ a w S γ)(hc:dp σ)
  (h:fV E b (.rangeFunc g ps x y) σ k=some r) :
  (Code.rangeFunc g ps x y).wpIn (FR none) n P (Post E S0 w0 refs (dM (.rangeFunc g ps x y)) k r) a w:=by
 refine jE6 (n:=1) ?_;simp only[fV]at h;split at h
 case h_2=>simp at h
 rename_i f t xs mJ;split at h
 case h_2=>simp at h
 rename_i kd bH;split at h
 case h_2=>simp at h
 rename_i s hs;obtain⟨fu0,e,s',DM,hk⟩:=hLO _ R _ r h;have bS:=mw hR g;rw[mJ]at bS;obtain⟨⟨cv,U4,kP⟩,_⟩:=bS;obtain⟨S1,γ1,bE,eG⟩:=tD hR hc hs
 have parts:∀f t kd,rfK E b f t ps x y=some kd->E.bw f=some (kd,t)/\(kd=true->t=segT)/\ps.toList.length=cond kd 1 2/\qI ps.toList=true/\(∀p∈ps.toList,p<E.N.n)/\dM x=true/\dM y=true/\pinK ps x y (E.keep b)=true:=by
  intro f t kd bH;unfold rfK at bH;split at bH
  case h_2=>simp at bH
  rename_i q hq;cases r7:(decide (q.2=t)&&(cond q.1 (decide (t=segT)) true&&(decide (ps.toList.length=cond q.1 1 2)&&(qI ps.toList&&(ps.toList.all (λp=>decide (p<E.N.n))&&(dM x&&(dM y&&pinK ps x y (E.keep b)))))))) with
  |false=>rw[r7]at bH;simp at bH
  |true=>
  rw[r7,j6,j5]at bH;subst bH;simp only[jc,jo,jy]at r7;obtain⟨h1,h0,h2,h3,h4,h5,h6,h7⟩:=r7;exact⟨by rw[hq,<-h1],λhk=>by rw[hk]at h0;exact kz h0,h2,h3,h4,h5,h6,h7⟩
 obtain⟨Bj,DN,h2,fA,ak,yQ,yR,U5⟩:=parts f t kd bH;obtain⟨⟨U6,LN,wR,cb⟩,wK⟩:=(iC f _ Bj).it DN
 have heg:∀args w,(callFunc f args).run P w = .ok (.enter f args) w:=λargs w=>by
  have lD:¬U6.body=none:=λhn=>by rw[hn]at wR;simp at wR
  have wC : ¬ U6.name = "runtime.NumGoroutine" := by simpa using cb
  simp[callFunc,LN,lD,wC]
 refine wpIn_rangeFunc λfn _=>?_;obtain⟨rec,gh⟩:∃rec:LoopState->Option Code->Loop,rec=λst pe=>{ state:=st,pending:=pe,fn,tmps:=a.tmps,params:=ps,assign:=x,body:=y,defers:=w.heap.size }:=⟨_,rfl⟩;obtain⟨W1,Bz⟩:∃W1,(w.alloc (.deferred (some []))).alloc (.loop (rec .ready none))=W1:=⟨_,rfl⟩
 refine⟨w.heap.size+1,[{ target:= .collected w.heap.size,args:=#[] }],W1,{ target:= .fn (.func f) cv,args:=#[.func (.yield (w.heap.size+1)) #[] #[]] },W1,f,
  #[.func (.yield (w.heap.size+1)) #[] #[]]++cv,W1,?_,?_,λ_ _=>trivial,?_,λhd=>by simp[FR,Fence.wide]at hd,?_⟩
 .rw[<-Bz,gh];exact run_enterLoop_outer _ _ _ _ _
 .simp only[resolve,U4];simp[go_sem]
 .simp[invoke,go_sem,heg]
 obtain⟨l,hl⟩:∃l,l=w.heap.size+1:=⟨_,rfl⟩;rw[<-hl];let cE:(Nat->Option Value)->Obj->Refs:=λfx o=>{ blks:=refs.blks,val:=refs.val,ds:=[],kw:=λg=>if g=l then some o else if g=w.heap.size then some (.deferred (some [])) else refs.kw g,fix:=fx,mv:=refs.mv }
 let fx:Nat->Option Value:=λi=>if AM ps x y i then some (a.tmps.getD i undef) else none
 let aI:Go.Act:={ tmps:=a.tmps,defers:=[] }
 have ia:∀fx o,(cE fx o).kw l=some o:=λfx o=>by simp[cE]
 have iD:w0.heap.size<=l:=by have:=hR.grow;omega
 have cI:∀fx o,yN w0 (cE fx o):=λfx o=>⟨v6,λd hd=>by simp[cE]at hd⟩
 have jX:∀{N:NT}{fx:Nat->Option Value}{o o':Obj}{σ:St}{a:Go.Act}{W:World}{S:aP}{γ:Nat->Value},o.isCells=false->o'.isCells=false->Rel N E.np S0 w0 (cE fx o) σ a W S γ->
   Rel N E.np S0 w0 (cE fx o') σ a (W.putObj l o') S γ:=by
  intro N fx o o' σ a W S γ h1 h2 hR;have:=hR.putO (ia fx o) iD h1 h2;refine this.swap rfl rfl this.size this.defers this.slot (λg u hg=>this.kept g u ?_) this.fix;simp only[cE]at hg ⊢;split
  .rename_i e;subst e;simpa using hg
  .rename_i e;simpa[e]using hg
 have r8:∀{N N':NT}{fx LO:Nat->Option Value}{o:Obj}{K:Keep}{s:Snap}{a a':Go.Act}{W:World}{S:aP}{γ:Nat->Value},Rel N E.np S0 w0 (cE fx o) (cJ E.np K s) a W S γ->a'.tmps.size=N'.n->a'.defers=[]->
   (∀i∈K.slots,tm a' i=tm a i)->(∀i v,LO i=some v->N'.pin i=true/\a'.tmps.getD i undef=v)->Rel N' E.np S0 w0 (cE LO o) (cJ E.np K s) a' W S γ:=by
  intro N N' fx LO o K s a a' W S γ hR h1 h2 h3 h4;exact hR.frame rfl rfl h1 h2 h3 (λg u hg=>hR.kept g u hg) h4
 have r9:∀i v,(λ_=>none:Nat->Option Value) i=some v->E.N.pin i=true/\aI.tmps.getD i undef=v:=λi v h=>by simp at h
 let J:Int->aP->World->Prop:=λc S W=>∃s γ fu,Rel E.N E.np S0 w0 (cE (λ_=>none) (.loop (rec .ready none))) (cJ E.np (E.keep b) s) aI W S γ/\dp (cJ E.np (E.keep b) s)/\
  loopN (AO E b g ps x y) fu (.s (.one (.d (.int .i64) c))::s)=some (e,s')
 let Je:World->Prop:=λW=>∃S γ,Rel E.N E.np S0 w0 (cE (λ_=>none) (.loop (rec .ready none))) (cJ E.np (E.keepX b e) s') aI W S γ/\dp (cJ E.np (E.keepX b e) s')/\e = .normal
 let Jx:World->Prop:=λW=>∃S γ c,Rel E.N E.np S0 w0 (cE (λ_=>none) (.loop (rec .done (some c)))) (cJ E.np (E.keepX b e) s') aI W S γ/\dp (cJ E.np (E.keepX b e) s')/\
  ((e = .ret/\c = .ret)\/∃i,e = .exit i/\c = .exit i)
 have wS:∀K:Keep,pinK ps x y K=true->∀i∈K.slots,AM ps x y i=true:=λK hK i hi=>jy.1 hK i hi;have wT:∀i,AM ps x y i=true->i∉ps.toList:=by intro i hi;simp only[AM,jc,kp,qf,kn]at hi;exact hi.1
 have tG:J (Cy kd xs.length) S1 W1:=by
  refine⟨s,γ1,fu0,?_,eG,DM⟩;have hA:=(bE.allocO (.deferred (some []))).allocO (.loop (rec .ready none));rw[Bz]at hA;refine hA.frame rfl rfl hR.size rfl (λi _=>rfl) (λg' u ar=>?_) r9;simp only[cE]at ar;split at ar
  .rename_i e';simp only[j5]at ar;subst ar;rw[e',hl];refine⟨?_,λk' b' aT dL=>?_⟩
   .rw[<-Bz];have:=World.alloc_heap_new (w.alloc (.deferred (some []))) (.loop (rec .ready none));rwa[World.size_alloc]at this
   .have:=me (bE.box k' b' aT) dL;omega
  .split at ar
   .rename_i _ e';simp only[j5]at ar;subst ar;rw[e'];refine⟨?_,λk' b' aT dL=>?_⟩
    .rw[<-Bz];exact(heap_alloc_old _ _ (by simp)).trans (World.alloc_heap_new w _)
    .have:=me (bE.box k' b' aT) dL;omega
   .exact hA.kept g' u ar
 have haI:aI.eval g=a.eval g:=by cases g<;>rfl
 have LQ:aI.tmps.size=E.N.n:=hR.size
 have DO:∀{K:Keep}{s:Snap}{o:Obj}{W W':World}{S:aP}{γ:Nat->Value},Grew W W'->Rel E.N E.np S0 w0 (cE (λ_=>none) o) (cJ E.np K s) aI W S γ->Rel E.N E.np S0 w0 (cE (λ_=>none) o) (cJ E.np K s) aI W' S γ:=
  λhg h1=>h1.grew hg ⟨λ_ _ h=>h,λ_ _ h=> .inl h,λg o h=>qv (h1.here g o h) hg.size⟩
 refine CallsIn.mono (wK cv l J Je Jx W1 S1 xs (λc S W S' W' hg hs ⟨s,γ,fu,h1,h2,h3⟩=>⟨s,γ,fu,h1.grew hg hs,h2,h3⟩) (λW W' hg ⟨S,γ,h1,h2⟩=>⟨S,γ,DO hg h1,h2⟩) (λW W' hg ⟨S,γ,c,h1,h2⟩=>⟨S,γ,c,DO hg h1,h2⟩)
  (λc S W ⟨s,γ,fu,h1,_⟩=>h1.here) ?_ ?_ tG) ?_
 ·-- a round
  rintro cn S W ⟨s,γ,fu,BA,U7,pK⟩
  cases fu with
  |zero=>simp[loopN]at pK
  |succ fu=>
  simp only[loopN]at pK;cases aM:AO E b g ps x y (.s (.one (.d (.int .i64) cn))::s) with
  |none=>rw[aM]at pK;simp at pK
  |some r0=>
  rw[aM]at pK;unfold AO CC at aM;dsimp only at aM;split at aM
  case h_2=>simp at aM
  rename_i f' t' dg yS;split at aM
  case h_2=>simp at aM
  rename_i kd' pH;have mA:=mw BA g;rw[yS,haI,U4]at mA;obtain⟨⟨cv',DP,dh⟩,_⟩:=mA;simp only[Value.func.injEq,Fn.func.injEq,qj]at DP;obtain⟨rfl,rfl⟩:=DP;have ht:=(parts f t' kd' pH).1;rw[Bj]at ht;simp only[j5,j9]at ht;obtain⟨rfl,rfl⟩:=ht;refine⟨dg,dh,λLU=>?_,λLU=>?_⟩
  .rw[LU,j6]at aM;cases pL:pinK ps x y (E.keepX b .normal) with
   |false=>rw[pL]at aM;simp at aM
   |true=>
   rw[pL,j6]at aM;split at aM
   case h_2=>simp at aM
   rename_i s3 hs3;simp only[j5]at aM;subst aM;simp only[j5,j9]at pK;obtain⟨rfl,rfl⟩:=pK;obtain⟨S5,γ5,nu,yT⟩:=tD BA U7 hs3;exact⟨S5,γ5,nu,yT,rfl⟩
  rw[LU,j7]at aM;cases hle:itOk kd dg.length cn with
  |false=>rw[hle]at aM;simp at aM
  |true=>
  rw[hle,j6]at aM;refine⟨rfl,λSg Wg vs hgw wU lG=>?_⟩;have BA:=BA.grew hgw wU;have wq:vs.toArray.size=ps.size:=by have e1:=lG.length;rw[jCX DN]at e1;simp only[vv];rw[<-e1,<-h2,qg]
  refine⟨fn,_,x,y,by have:=run_yield (P:=P) (args:=vs.toArray) (BA.kept l _ (ia _ _)).1 (by rw[gh];exact wq);rw[gh]at this;exact this,roundIn_of_wpIn trivial ?_⟩;let a1:Go.Act:={ tmps:=(ps.zip vs.toArray).foldl (λt (q:Nat×Value)=>t.setIfInBounds q.1 q.2) a.tmps,defers:=[] }
  have kL:(ps.zip vs.toArray).toList=ps.toList.zip vs:=by simp
  have DF:a1.tmps=(ps.toList.zip vs).foldl (λt (q:Nat×Value)=>t.setIfInBounds q.1 q.2) a.tmps:=by show (ps.zip vs.toArray).foldl _ _=_;rw[<-Array.foldl_toList,kL]
  have gN:∀i,i∈(ps.toList.zip vs).map (·.1)->i∈ps.toList:=λi hi=>by
   obtain⟨q,hq,rfl⟩:=jt.1 hi;exact(List.of_mem_zip hq).1
  have LV:qI ((ps.toList.zip vs).map (·.1))=true:=U3 _ _ fA;obtain⟨Hn,iR,U8⟩:=U0 (ps.toList.zip vs) a.tmps LV (λq hq=>by rw[hR.size];exact ak _ (List.of_mem_zip hq).1);rw[<-DF]at Hn iR U8;have LW:a1.tmps.size=E.N.n:=U8.trans hR.size;have uJ:∀i,i∉ps.toList->tm a1 i=tm aI i:=λi hi=>iR i (λh=>hi (gN i h))
  have hRa:Rel (E.rnd ps x y).N E.np S0 w0 (cE fx (.loop (rec .ready none))) (cJ E.np (E.keep b) s) a1 Wg Sg γ:=r8 BA LW rfl (λi hi=>uJ i (wT i (wS _ U5 i hi))) (λi u hu=>by
   simp only[fx]at hu;split at hu
   .rename_i hp;simp only[j5]at hu;refine⟨hp,?_⟩;show tm a1 i=u;rw[uJ i (wT i hp)];exact hu
   .simp at hu)
  obtain⟨hRc,tz⟩:=U1 (ps.toList.zip (CA kd t dg cn)) hRa U7 (λq hq=>by
   obtain⟨v,h3,h4⟩:=U2 lG q hq;have:=Hn _ h3;show VRep Sg Wg q.2 (a1.tmps.getD q.1 undef);rw[this];exact h4)
  refine wpIn_mono (r5 l yQ 0 0 (cI _ _) (by rw[uO x 0 yQ];simp) hRc tz aM) ?_
  rintro e1 a2 w2 ⟨kT,ex,σ2,S2,γ2,_,kU,rfl,cH,fg,ga⟩
  have:=kU yQ;subst this;cases ex with
  |exit i=>simp at ga
  |ret=>simp at ga
  |normal=>
  refine⟨_,run_beginRound (cH.kept l _ (ia _ _)).1 (by rw[gh]),?_⟩;have gj:Rel (E.rnd ps x y).N E.np S0 w0 (cE fx (.loop (rec .busy none))) σ2 a2 (w2.putObj l (.loop { rec .ready none with state:= .busy })) S2 γ2:=by have:=jX (o':= .loop (rec .busy none)) rfl rfl cH;rw[gh]at this ⊢;exact this
  refine wpIn_mono (r6 l yR 0 0 (cI _ _) (by rw[uO y 0 yR];simp) gj fg ga) ?_
  rintro e1 a3 w3 ⟨U9,ex,σ3,S3,γ3,_,kU,rfl,nr,nt,yU⟩
  have:=kU yR;subst this
  have mL:∀{K:Keep}{s:Snap}{o:Obj}{W:World}{S:aP}{γ:Nat->Value},pinK ps x y K=true->Rel (E.rnd ps x y).N E.np S0 w0 (cE fx o) (cJ E.np K s) a3 W S γ->
    Rel E.N E.np S0 w0 (cE (λ_=>none) o) (cJ E.np K s) aI W S γ:=λhK hR=>r8 hR LQ rfl (λi hi=>by
   have:=(hR.fix i (a.tmps.getD i undef) (by simp only[cE,fx];rw[if_pos (wS _ hK i hi)])).2;exact this.symm) r9
  have sa:∀(ex:Ex)(c:Code),((ex = .ret/\c = .ret)\/∃i,ex = .exit i/\c = .exit i)->
    (cond (pinK ps x y (E.keepX b ex)) (match iP E.np (E.keepX b ex) σ3 with
     |some s'=>some (Sum.inr (ex,s'))
     |none=>none) none:Option (Snap ⊕ Ex×Snap))=some r0->
    ∃v w',(Instr.endRound l (some c)).run P w3 = .ok v w'/\((Ending.returned v = .returned (.bool true)/\∃S',J (Cz kd cn) S' w')\/(Ending.returned v = .returned (.bool false)/\Jx w')):=by
   intro ex c hex kV;cases pL:pinK ps x y (E.keepX b ex) with
   |false=>rw[pL]at kV;simp at kV
   |true=>
   rw[pL,j6]at kV;split at kV
   case h_2=>simp at kV
   rename_i s2 kK;simp only[j5]at kV;subst kV;simp only[j5,j9]at pK;obtain⟨rfl,rfl⟩:=pK;obtain⟨S5,γ5,nu,yT⟩:=tD nr nt kK;refine⟨_,_,run_endRound (some c) (nu.kept l _ (ia _ _)).1,.inr ⟨rfl,S5,γ5,c,?_,yT,hex⟩⟩;have:=jX (o':= .loop (rec .done (some c))) rfl rfl (mL pL nu);rw[gh]at this ⊢;exact this
  cases ex with
  |normal=>
   dsimp only at yU
   split at yU
   case h_2=>simp at yU
   rename_i s2 kK;simp only[j5]at yU;subst yU;obtain⟨S5,γ5,nu,yT⟩:=tD nr nt kK;show∃v w',(Instr.endRound l none).run P w3 = .ok v w'/\_;refine⟨_,_,run_endRound none (nu.kept l _ (ia _ _)).1,.inl ⟨rfl,S5,s2,γ5,fu,?_,yT,?_⟩⟩
   .have:=jX (o':= .loop (rec .ready none)) rfl rfl (mL U5 nu);rw[gh]at this ⊢;exact this
   .exact pK
  |exit i=>exact sa _ _ (.inr ⟨i,rfl,rfl⟩) yU
  |ret=>exact sa _ _ (.inl ⟨rfl,rfl⟩) yU
 .refine⟨S,λg o h=>by rw[<-Bz];have:=hR.here g o h;simp;omega,kP.mono λx z hx=>?_⟩;rw[<-Bz]
  exact jR.keep (λg o h=>⟨h,by
   have:=hR.here g o h;rw[World.cell?_alloc_lt _ _ _ (by simp;omega),World.cell?_alloc_lt _ _ _ this]⟩) hx
 .rintro e2 W2 ⟨⟨v,rfl⟩,fp⟩
  have mL:∀{K:Keep}{s:Snap}{o:Obj}{W:World}{S:aP}{γ:Nat->Value},Rel E.N E.np S0 w0 (cE (λ_=>none) o) (cJ E.np K s) aI W S γ->
    ∃refs',yO w0 refs refs'/\Rel E.N E.np S0 w0 refs' (cJ E.np K s) { a with defers:=[{ target:= .collected w.heap.size,args:=#[] }]++a.defers } W S γ:=by
   intro K s o W S γ Va;refine⟨{ blks:=refs.blks,val:=refs.val,ds:={ target:= .collected w.heap.size,args:=#[] }::refs.ds,kw:=λg=>if g=w.heap.size then some (.deferred (some [])) else refs.kw g,fix:=refs.fix,mv:=refs.mv },⟨rfl,rfl,rfl,⟨?_,?_⟩,rfl⟩,?_⟩
   .refine qb.2 ⟨λmF=>?_,hm.1⟩;obtain⟨D,hD,_,BB⟩:=hm.2 _ mF;simp only[Deferred.mk.injEq,Target.collected.injEq,and_true]at hD;rw[<-hD,hR.kw_new (js _)]at BB;simp at BB
   .intro d hd;rcases je.1 hd with rfl|hd
    .exact⟨w.heap.size,rfl,hR.grow,by simp⟩
    .obtain⟨D,rfl,h1,h2⟩:=hm.2 d hd;refine⟨D,rfl,h1,?_⟩;show (if D=w.heap.size then _ else refs.kw D)=_;rw[if_neg,h2]
     rintro rfl
     rw[hR.kw_new (js _)]at h2;simp at h2
   .refine Va.frame rfl rfl hR.size (by rw[hR.defers];rfl) (λi _=>rfl) (λg' u ar=>Va.kept g' u ?_) (λi v hv=>?_)
    .simp only[cE]at ar ⊢;by_cases h1:g'=l
     .exfalso;subst h1;rw[if_neg (by omega),hR.kw_new (by omega)]at ar;simp at ar
     .rw[if_neg h1];exact ar
    .have:=(hR.fix i v hv).1;rw[lR]at this;simp at this
  rcases fp with⟨S2,γ2,uP,hce,rfl⟩|⟨S2,γ2,c,uD,Ha,hex⟩
  .refine⟨none,_,by have:=run_endLoop (P:=P) (uP.kept l _ (ia _ _)).1 (by rw[gh];simp);rw[gh]at this;exact this,?_⟩;have pM:=jX (o':= .loop { rec .ready none with state:= .exhausted }) rfl rfl uP;obtain⟨refs',hle,uP⟩:=mL pM;rw[gh]at uP;exact⟨refs',.normal,_,S2,γ2,hle,λhf=>by simp[dM]at hf,rfl,uP,hce,hk⟩
  .have pM:=jX (o':= .loop { rec .done (some c) with state:= .exhausted }) rfl rfl uD;obtain⟨refs',hle,uP⟩:=mL pM;refine⟨some c,_,by have:=run_endLoop (P:=P) (uD.kept l _ (ia _ _)).1 (by rw[gh];simp);rw[gh]at this;exact this,?_⟩;rw[gh]at uP;rcases hex with⟨rfl,rfl⟩|⟨i,rfl,rfl⟩
   .exact wpIn_ret ⟨refs',.ret,_,S2,γ2,hle,λhf=>by simp[dM]at hf,rfl,uP,Ha,hk⟩
   .exact wpIn_exit ⟨refs',.exit i,_,S2,γ2,hle,λhf=>by simp[dM]at hf,rfl,uP,Ha,hk⟩
def MrS(P:Program)(BC:Nat->Option (Nat×Nat)):Prop:=
 ∀{E:Env},E.mr=BC->cO P E.T->jJ P E.C->CFun E.C->(∀f t,E.bw f=some t->BwK P f t)->(E.N.pin=λ_=>false)->
  ∀(x y:Code)(b n:Nat)(pl:Bool){S0:aP}{w0:World}{refs:Refs}{σ:St}{a:Go.Act}{w:World}{S:aP}{γ:Nat->Value}{R:Type}{k:Ex->St->Option R}{r:R},yN w0 refs->
   (∀z∈fQ b y,MrOK E z.1 z.2)->Rel E.N E.np S0 w0 refs σ a w S γ->dp σ->AN E x y=true->CB E x y σ k=some r->(Code.seq x y).wpIn (FR none) n P (Post E S0 w0 refs pl k r) a w
theorem jrm{E:Env}{x y:Code}(h:AN E x y=true):dM (.seq x y)=false:=by
 unfold AN at h;split at h
 .simp[dM]
 .simp at h
theorem Vb{P:Program}(gQ:P.follows .mixedOrders=true){BC:Nat->Option (Nat×Nat)}(DQ:MrS P BC):∀(c:Code){E:Env}{ro:Option Nat},cO P E.T->jJ P E.C->CFun E.C->E.mr=BC->
  (∀f t,E.bw f=some t->BwK P f t)->(dM c=true\/(ro=none/\E.N.pin=λ_=>false))->HE P E ro c:=by
 intro c;induction c with
 |skip=>intro E ro hT hC hF hE gm hp b n S0 w0 refs σ a w S γ R k r hm hL hR hc h;exact wpIn_skip ⟨refs,.normal,σ,S,γ,⟨rfl,rfl,rfl,hm,rfl⟩,λ_=>rfl,rfl,hR,hc,h⟩
 |label l=>intro E ro hT hC hF hE gm hp b n S0 w0 refs σ a w S γ R k r hm hL hR hc h;exact wpIn_label ⟨refs,.normal,σ,S,γ,⟨rfl,rfl,rfl,hm,rfl⟩,λ_=>rfl,rfl,hR,hc,h⟩
 |region sb ops draw=>
  intro E ro hT hC hF hE gm hp b n S0 w0 refs σ a w S γ R k r hm hL hR hc h
  have yV:ro=none\/∀o∈ops.toList,∀c,o.op ≠ .defer c:=hp.elim (λhp=> .inr λo ho c hd=>by
   have:=jy.1 hp o ho;simp[SU,hd]at this) λh=> .inl h.1
  cases draw with
  |true=>simp only[fV]at h;exact wpIn_region_any gQ (Hz yV LD _ _ _ _ (jwc hT hC hF hR hc (λσ' a' w' S' γ' bY dq hk=>⟨refs,.normal,σ',S',γ',⟨rfl,rfl,rfl,hm,rfl⟩,λ_=>rfl,rfl,bY,dq,hk⟩) h))
  |false=>
   simp only[fV]at h;cases hks:E.ks sb with
   |true=>rw[hks,j6]at h;exact wpIn_region (uM yV LD _ _ _ (jwi hT hC gm hR hc (λσ' a' w' S' γ' bY dq hk=>⟨refs,.normal,σ',S',γ',⟨rfl,rfl,rfl,hm,rfl⟩,λ_=>rfl,rfl,bY,dq,hk⟩) h))
   |false=>rw[hks,j7]at h;exact wpIn_region (uM yV LD _ _ _ (Uo hT hC hR hc (λσ' a' w' S' γ' bY dq hk=>⟨refs,.normal,σ',S',γ',⟨rfl,rfl,rfl,hm,rfl⟩,λ_=>rfl,rfl,bY,dq,hk⟩) h))
 |seq x y r5 r6=>
  intro E ro hT hC hF hE gm hp b n S0 w0 refs σ a w S γ R k r hm hL hR hc h;simp only[fV]at h;cases HF:AN E x y with
  |true=>rw[HF,j6]at h;obtain⟨rfl,lR⟩:=hp.resolve_left (by rw[jrm HF];simp);exact DQ hE hT hC hF gm lR x y b n _ hm (λz hz=>(hL z (by simp[fQ,hz])).2) hR hc HF h
  |false=>
  rw[HF,j7]at h;have yQ:dM x=true\/(ro=none/\E.N.pin=λ_=>false):=hp.imp (λh=>by simp only[dM,jc]at h;exact h.1) id;have yR:dM y=true\/(ro=none/\E.N.pin=λ_=>false):=hp.imp (λh=>by simp only[dM,jc]at h;exact h.2) id;refine wpIn_seq (wpIn_mono (r5 hT hC hF hE gm yQ b n hm (λz hz=>hL z (by simp[fQ,hz])) hR hc h) ?_)
  rintro e a' w' ⟨refs',ex,σ',S',γ',hle,kU,rfl,bY,dq,hk⟩
  have hx:dM (.seq x y)=true->refs'=refs:=λh=>by simp only[dM,jc]at h;exact kU h.1
  cases ex with
  |normal=>
   refine wpIn_mono (r6 hT hC hF hE gm yR b n hle.marks (λz hz=>hL z (by simp[fQ,hz])) bY dq hk) ?_
   rintro e2 a2 w2 ⟨kT,ex,σ2,S2,γ2,jU,LX,rfl,cH,fg,ga⟩
   refine⟨kT,ex,σ2,S2,γ2,hle.trans jU,λh=>?_,rfl,cH,fg,ga⟩;have h1:=hx h;simp only[dM,jc]at h;rw[LX h.2,h1]
  |exit i=>exact⟨refs',.exit i,σ',S',γ',hle,hx,rfl,bY,dq,hk⟩
  |ret=>exact⟨refs',.ret,σ',S',γ',hle,hx,rfl,bY,dq,hk⟩
 |cond c x y r5 r6=>
  intro E ro hT hC hF hE gm hp b n S0 w0 refs σ a w S γ R k r hm hL hR hc h;simp only[fV]at h;have yQ:dM x=true\/(ro=none/\E.N.pin=λ_=>false):=hp.imp (λh=>by simp only[dM,jc]at h;exact h.1) id;have yR:dM y=true\/(ro=none/\E.N.pin=λ_=>false):=hp.imp (λh=>by simp only[dM,jc]at h;exact h.2) id;split at h
  .rename_i v hv;have mJ:=mw hR c;rw[hv]at mJ;have wV:a.eval c = .bool v:=s9 mJ;refine wpIn_cond wV ?_;cases v with
   |true=>
    refine wpIn_mono (r5 hT hC hF hE gm yQ b n hm (λz hz=>hL z (by simp[fQ,hz])) hR hc h) ?_
    rintro e a' w' ⟨refs',ex,σ',S',γ',hle,kU,he,hr⟩
    exact⟨refs',ex,σ',S',γ',hle,λh=>by simp only[dM,jc]at h;exact kU h.1,he,hr⟩
   |false=>
    refine wpIn_mono (r6 hT hC hF hE gm yR b n hm (λz hz=>hL z (by simp[fQ,hz])) hR hc h) ?_
    rintro e a' w' ⟨refs',ex,σ',S',γ',hle,kU,he,hr⟩
    exact⟨refs',ex,σ',S',γ',hle,λh=>by simp only[dM,jc]at h;exact kU h.2,he,hr⟩
  .simp at h
 |block id c ih=>
  intro E ro hT hC hF hE gm hp b n S0 w0 refs σ a w S γ R k r hm hL hR hc h;simp only[fV]at h;refine wpIn_block (wpIn_mono (ih hT hC hF hE gm hp id n hm (λz hz=>hL z (by simpa[fQ]using hz)) hR hc h) ?_)
  rintro e a' w' ⟨refs',ex,σ',S',γ',hle,kU,rfl,bY,dq,hk⟩
  cases ex with
  |normal=>exact⟨refs',.normal,σ',S',γ',hle,kU,rfl,bY,dq,hk⟩
  |exit i=>
   simp only[exOf,Exit.inBlock];simp only at hk;split
   .rename_i hi;rw[if_pos hi]at hk;exact⟨refs',.normal,σ',S',γ',hle,kU,rfl,bY,dq,hk⟩
   .rename_i hi;rw[if_neg hi]at hk;exact⟨refs',.exit i,σ',S',γ',hle,kU,rfl,bY,dq,hk⟩
  |ret=>exact⟨refs',.ret,σ',S',γ',hle,kU,rfl,bY,dq,hk⟩
 |scope c ih=>intro E ro hT hC hF hE gm hp b n S0 w0 refs σ a w S γ R k r hm hL hR hc h;simp only[fV]at h;refine jwe (λl a w hq=>?_) (ih hT hC hF hE gm hp b n hm (λz hz=>hL z (by simpa[fQ]using hz)) hR hc h);obtain⟨_,ex,_,_,_,_,_,he,_⟩:=hq;cases ex<;>simp[exOf]at he
 |loop c ih=>
  intro E ro hT hC hF hE gm hp b n S0 w0 refs σ a w S γ R k r hm hL hR hc h;have hrn:=hp.resolve_left (by simp[dM]);simp only[fV]at h;cases LY:isRf c with
  |true=>rw[LY]at h;simp at h
  |false=>
  rw[LY,j7]at h;split at h
  .rename_i s hs;obtain⟨n1,e,s',hn,hk⟩:=(hL (b,c) (by simp[fQ])).1 s R _ r h
   have fI:Kq E b c=xB E b c:=by
    funext s
    cases c<;>first|rfl|simp[isRf]at LY
   rw[fI]at hn;obtain⟨S1,γ1,bE,eG⟩:=tD hR hc hs;refine UT (λn a w=>∃refs' s S γ,yO w0 refs refs'/\Rel E.N E.np S0 w0 refs' (cJ E.np (E.keep b) s) a w S γ/\dp (cJ E.np (E.keep b) s)/\loopN (xB E b c) n s=some (e,s')) ⟨refs,s,S1,γ1,⟨rfl,rfl,rfl,hm,rfl⟩,bE,eG,hn⟩ ?_
   rintro m a1 w1 ⟨Vc,s1,S2,γ2,nU,cH,fg,mF⟩
   cases m with
   |zero=>simp[loopN]at mF
   |succ m=>
    simp only[loopN]at mF;cases aM:xB E b c s1 with
    |none=>simp[aM]at mF
    |some out=>
     rw[aM]at mF;unfold xB at aM;refine wpIn_mono (ih hT hC hF hE gm (.inr hrn) b n nU.marks (λz hz=>hL z (by simp[fQ,hz])) cH fg aM) ?_
     rintro e2 a2 w2 ⟨kT,ex,σ2,S3,γ3,jU,_,rfl,gj,Dv,lT⟩
     cases ex with
     |normal=>
      simp only at lT;split at lT
      .rename_i s2 kK;simp only[j5]at lT;subst lT;obtain⟨S4,γ4,nr,nt⟩:=tD gj Dv kK;exact⟨m,Nat.lt_succ_self m,kT,s2,S4,γ4,nU.trans jU,nr,nt,mF⟩
      .simp at lT
     |exit i=>
      simp only at lT;split at lT
      .rename_i s2 kK;simp only[j5]at lT;subst lT;obtain⟨S4,γ4,nr,nt⟩:=tD gj Dv kK;simp only[j5,j9]at mF;obtain⟨rfl,rfl⟩:=mF;exact⟨kT,.exit i,_,S4,γ4,nU.trans jU,λhf=>by simp[dM]at hf,rfl,nr,nt,hk⟩
      .simp at lT
     |ret=>
      simp only at lT;split at lT
      .rename_i s2 kK;simp only[j5]at lT;subst lT;obtain⟨S4,γ4,nr,nt⟩:=tD gj Dv kK;simp only[j5,j9]at mF;obtain⟨rfl,rfl⟩:=mF;exact⟨kT,.ret,_,S4,γ4,nU.trans jU,λhf=>by simp[dM]at hf,rfl,nr,nt,hk⟩
      .simp at lT
  .simp at h
 |rangeFunc g ps x y r5 r6=>
  intro E ro hT hC hF hE gm hp b n S0 w0 refs σ a w S γ R k r hm hL hR hc h;obtain⟨rfl,lR⟩:=hp.resolve_left (by simp[dM])
  exact jAt gm lR (λl hx=>r5 (E:=E.rnd ps x y) hT hC hF hE gm (.inl hx)) (λl hy=>r6 (E:=E.rnd ps x y) hT hC hF hE gm (.inl hy))
   (hL (b,.rangeFunc g ps x y) (by simp[fQ])).1 hm hR hc h
 |exit i=>intro E ro hT hC hF hE gm hp b n S0 w0 refs σ a w S γ R k r hm hL hR hc h;exact wpIn_exit ⟨refs,.exit i,σ,S,γ,⟨rfl,rfl,rfl,hm,rfl⟩,λ_=>rfl,rfl,hR,hc,h⟩
 |ret=>intro E ro hT hC hF hE gm hp b n S0 w0 refs σ a w S γ R k r hm hL hR hc h;exact wpIn_ret ⟨refs,.ret,σ,S,γ,⟨rfl,rfl,rfl,hm,rfl⟩,λ_=>rfl,rfl,hR,hc,h⟩
 |goto l=>intro E ro hT hC hF hE gm hp b n S0 w0 refs σ a w S γ R k r hm hL hR hc h;simp[fV]at h
 |refuse y=>intro E ro hT hC hF hE gm hp b n S0 w0 refs σ a w S γ R k r hm hL hR hc h;simp[fV]at h
end
def keyB(es:Array MapEntry):List (Value×Nat):=es.toList.map λe=>(e.key,e.born)
theorem Vd{α:Type}{p q:α->Bool}(h:∀x,q x=true->p x=true):∀l:List α,(l.filter q).length<=(l.filter p).length
 |[]=>js _
 |x::r=>by
  have ih:=Vd h r;rw[List.filter_cons,List.filter_cons];by_cases hq:q x=true
  .rw[if_pos hq,if_pos (h x hq)];simp only[jm];omega
  .rw[if_neg hq];split
   .simp only[jm];omega
   .exact ih
theorem Ve{α:Type}{p q:α->Bool}(h:∀x,q x=true->p x=true):∀l:List α,(∃x∈l,p x=true/\q x≠true)->(l.filter q).length<(l.filter p).length
 |[],hx=>by obtain⟨x,hx,_⟩:=hx;simp at hx
 |y::r,hx=>by
  obtain⟨x,hx,h1,h2⟩:=hx;have hle:=Vd h r;rw[List.filter_cons,List.filter_cons];rcases je.1 hx with rfl|hx
  .rw[if_neg h2,if_pos h1];simp only[jm];omega
  .have ih:=Ve h r ⟨x,hx,h1,h2⟩;by_cases hq:q y=true
   .rw[if_pos hq,if_pos (h y hq)];simp only[jm];omega
   .rw[if_neg hq];split
    .simp only[jm];omega
    .exact ih
theorem DR(seen:Array Nat)(b x:Nat):(seen.push b).contains x=true↔seen.contains x=true\/x=b:=by
 simp
theorem jxZ{ks:List (Value×Nat)}{seen:Array Nat}{b:Nat}(h:∃q∈ks,q.2=b/\seen.contains q.2=false):(ks.filter λq=> !(seen.push b).contains q.2).length<(ks.filter λq=> !seen.contains q.2).length:=by
 refine Ve (λx hx=>?_) ks ?_
 .rw[kp]at hx ⊢;cases hs:seen.contains x.2 with
  |false=>rfl
  |true=>have:=(DR seen b x.2).2 (.inl hs);rw[hx]at this;simp at this
 .obtain⟨q,hq,h1,h2⟩:=h;refine⟨q,hq,by rw[h2];rfl,?_⟩;rw[(DR seen b q.2).2 (.inr h1)];simp
structure AtR(g r it since clock:Nat)(ks:List (Value×Nat))(es:Array MapEntry)(seen:Array Nat)(a:Go.Act)(w:World):Prop where
 map:w.heap[g]? = some (.map es clock)
 ks:keyB es=ks
 iter:w.heap[r]? = some (.mapIter (some g) since seen clock)
 ptr:tm a it = .pointer (some ⟨r,0,none⟩)
theorem jwj{P:Program}{ro:Option Nat}(gm:ro=none){n0 g r it d1 c2 b since clock sb:Nat}{ks:List (Value×Nat)}{o1 o2:Oper}{body:Code}{Q:Exit->Go.Act->World->Prop}
  (jK:o1.op = .next (.tmp it) false)(oK:o1.dst=some d1)(ug:o1.guard=none)(nZ:o2.op = .extract (.tmp d1) 0)(gZ:o2.dst=some c2)(jV:o2.guard=none)(hi1:it≠d1)(hi2:it≠c2)(mf:g≠r)
  (kW:since<=clock)(hold:∀q∈ks,q.2<since)(N:Nat)(qX:d1<N)(DS:c2<N)
  (J:Array MapEntry->Array Nat->Go.Act->World->Prop)(hJ:∀es seen a w,J es seen a w->a.tmps.size=N)
  (fp:∀es seen a w v v',AtR g r it since clock ks es seen a w->J es seen a w->(∀x∈es.toList,seen.contains x.born=true)->Q (.exit b) ((a.put (some d1) v).put (some c2) v') w)
  (fI:∀es seen a w w1 v v' e,AtR g r it since clock ks es seen a w->J es seen a w->e∈es.toList->seen.contains e.born=false->(w1=w\/w1=w.drew)->
   AtR g r it since clock ks es (seen.push e.born) ((a.put (some d1) v).put (some c2) v') (ChangeMaps.setBlock w1 r (.mapIter (some g) since (seen.push e.born) clock))->
   body.wpIn (FR ro) n0 P (Exit.then (λa' w'=>∃es',AtR g r it since clock ks es' (seen.push e.born) a' w'/\J es' (seen.push e.born) a' w') Q) ((a.put (some d1) v).put (some c2) v') (ChangeMaps.setBlock w1 r (.mapIter (some g) since (seen.push e.born) clock)))
  {es:Array MapEntry} {seen:Array Nat} {a:Go.Act} {w:World} (h0:AtR g r it since clock ks es seen a w) (tG:J es seen a w) :
  (Code.loop ((Code.region sb #[o1,o2] false).seq ((Code.cond (.tmp c2) .skip (.exit b)).seq body))).wpIn (FR ro) n0 P Q a w:=by
 refine UT (λn a w=>∃es seen,AtR g r it since clock ks es seen a w/\J es seen a w/\n=(ks.filter λq=> !seen.contains q.2).length) ⟨es,seen,h0,tG,rfl⟩ ?_
 rintro n a w ⟨es,seen,hA,LZ,rfl⟩
 subst gm;have bU:=hJ _ _ _ _ LZ
 have DT:∀x∈es.toList,x.born<since:=λx hx=>by
  have:(x.key,x.born)∈keyB es:=jt.2 ⟨x,hx,rfl⟩;rw[hA.ks]at this;exact hold _ this
 have mJ:a.eval (.tmp it) = .pointer (some ⟨r,0,none⟩):=hA.ptr
 have two:∀(v v':Value)(w':World),(execOp a.eval o1).run P w = .ok (.value v) w'->(execOp (a.put (some d1) v).eval o2).run P w' = .ok (.value v') w'->
   ((Code.cond (.tmp c2) .skip (.exit b)).seq body).wpIn (FR none) n0 P (Exit.then (λa' w'=>∃m,m<(ks.filter λq=> !seen.contains q.2).length/\∃es seen,AtR g r it since clock ks es seen a' w'/\J es seen a' w'/\m=(ks.filter λq=> !seen.contains q.2).length) Q) ((a.put (some d1) v).put (some c2) v') w'->
   ((Code.region sb #[o1,o2] false).seq ((Code.cond (.tmp c2) .skip (.exit b)).seq body)).wpIn (FR none) n0 P (Exit.then (λa' w'=>∃m,m<(ks.filter λq=> !seen.contains q.2).length/\∃es seen,AtR g r it since clock ks es seen a' w'/\J es seen a' w'/\m=(ks.filter λq=> !seen.contains q.2).length) Q) a w:=by
  intro v v' w' h1 h2 h3;refine wpIn_seq (wpIn_mono (Q:=λe a' xD=>e = .normal/\a'=(a.put (some d1) v).put (some c2) v'/\xD=w') (wpIn_region (uM (.inl rfl) (by rintro⟨a,w,h,_⟩;cases h) _ _ _ ?_)) ?_)
  .show wpOps P #[o1,o2] _ [0,1] a w;have e0:(#[o1,o2]:Array Oper)[0]? = some o1:=rfl;have e1:(#[o1,o2]:Array Oper)[1]? = some o2:=rfl;have w0:∀tm,Region.wanted o1 (yielded #[o1,o2] tm)=true:=λtm=>by simp[Region.wanted,ug]
   have w1:∀tm,Region.wanted o2 (yielded #[o1,o2] tm)=true:=λtm=>by simp[Region.wanted,jV]
   simp only[wpOps,e0,e1,w0,w1,if_true];refine .inl ?_;unfold Oper.wp;rw[h1,Oper.upon_value,oK];refine .inl ?_;rw[h2,Oper.upon_value,gZ];exact⟨trivial,rfl,rfl⟩
  .rintro e a' xD ⟨rfl,rfl,rfl⟩
   exact h3
 have DU:∀(v:Value)(t:Array Value)(w':World)(x:Value),v = .tuple t->t[0]? = some x->(execOp (a.put (some d1) v).eval o2).run P w' = .ok (.value x) w':=by
  intro v t w' x hv ht;have:(a.put (some d1) v).eval (.tmp d1)=v:=by show tm (a.put (some d1) v) d1=v;rw[oa (by omega),if_pos rfl]
  subst hv;simp only[execOp,nZ,this,Instr.extract,ht];simp
 have kP:∀v v',(((a.put (some d1) v).put (some c2) v').eval (.tmp c2))=v':=λv v'=>by
  show tm _ c2=v';rw[oa (by rw[qT];omega),if_pos rfl]
 rcases run_next_at (P:=P) w o1.type r g since clock seen es clock hA.iter hA.map DT kW with⟨h0,aL⟩|⟨e,he,w1,nk,aL⟩
 .refine two (.tuple #[.bool false]) (.bool false) w (by simp[execOp,jK,mJ,aL,Result.andThen]) (DU (.tuple #[.bool false]) #[.bool false] w (.bool false) rfl rfl) (wpIn_seq (wpIn_cond_false (kP _ _) (wpIn_exit ?_)));refine fp es seen a w _ _ hA LZ (λx hx=>?_);cases hs:seen.contains x.born with
  |true=>rfl
  |false=>
   have nv:x∈(leftOf es seen).toList:=by unfold leftOf;rw[Array.toList_filter];exact qu.2 ⟨hx,by rw[hs];rfl⟩
   have:(leftOf es seen).toList=[]:=qh.1 (by simpa using h0);rw[this]at nv;simp at nv
 .have eX:e∈es.toList/\seen.contains e.born=false:=by unfold leftOf at he;simpa using he
  have kX:AtR g r it since clock ks es (seen.push e.born) ((a.put (some d1) (.tuple #[.bool true,e.key,e.val])).put (some c2) (.bool true)) (ChangeMaps.setBlock w1 r (.mapIter (some g) since (seen.push e.born) clock)):=by
   have fD:w1.heap[g]? = some (.map es clock):=by rcases nk with rfl|rfl<;>exact hA.map
   have L0:w1.heap[r]? = some (.mapIter (some g) since seen clock):=by rcases nk with rfl|rfl<;>exact hA.iter
   have ak:r<w1.heap.size:=(ji.1 L0).1;refine⟨?_,hA.ks,?_,?_⟩
   .show (w1.heap.setIfInBounds r _)[g]? = _;rw[Array.getElem?_setIfInBounds_ne (Ne.symm mf)];exact fD
   .show (w1.heap.setIfInBounds r _)[r]? = _;rw[Array.getElem?_setIfInBounds_self_of_lt ak]
   .rw[oa (by rw[qT];omega),if_neg hi2,oa (by omega),if_neg hi1];exact hA.ptr
  refine two (.tuple #[.bool true,e.key,e.val]) (.bool true) (ChangeMaps.setBlock w1 r (.mapIter (some g) since (seen.push e.born) clock)) (by simp[execOp,jK,mJ,aL,Result.andThen]) (DU (.tuple #[.bool true,e.key,e.val]) #[.bool true,e.key,e.val] _ (.bool true) rfl rfl) (wpIn_seq (wpIn_cond_true (kP _ _) (wpIn_skip ?_)));refine wpIn_mono (fI es seen a w w1 _ _ e hA LZ eX.1 eX.2 nk kX) ?_;intro ex a' w' hq;cases ex with
  |normal=>obtain⟨es',q1,q2⟩:=hq;exact⟨_,jxZ (ks:=ks) (seen:=seen) (b:=e.born) ⟨(e.key,e.born),by rw[<-hA.ks];exact jt.2 ⟨e,eX.1,rfl⟩,rfl,eX.2⟩,es',seen.push e.born,q1,q2,rfl⟩
  |_=>exact hq
section
variable{N:NT}{np:Nat}{S0:aP}{w0:World}{refs:Refs}{σ:St}{a:Go.Act}{w:World}{S:aP}{γ:Nat->Value}
theorem Vf{P:Program}{E:Env}(hT:cO P E.T)(hC:jJ P E.C){ops:Array Oper}(ct:bare ops=true){R:Type}{k:St->Option R}{r:R}{Q:Exit->Go.Act->World->Prop}{rest:List Nat}
  (hn:∀σ' a' w' S' γ',Rel E.N E.np S0 w0 refs σ' a' w' S' γ'->dp σ'->k σ'=some r->wpOps P ops Q rest a' w') :
  ∀(n i:Nat)(σ:St)(a:Go.Act)(w:World)(S:aP)(γ:Nat->Value),i+n<=ops.size->Rel E.N E.np S0 w0 refs σ a w S γ->dp σ->mZ E ((ops.toList.drop i).take n) σ k=some r->
   wpOps P ops Q (List.range' i n++rest) a w
 |0,i,σ,a,w,S,γ,hi,hR,hc,h=>by
  rw[List.take_zero]at h;exact hn _ _ _ _ _ hR hc h
 |n+1,i,σ,a,w,S,γ,hi,hR,hc,h=>by
  have ak:i<ops.size:=by omega
  rw[jb (by simpa using ak),List.take_succ_cons]at h;simp only[mZ]at h;split at h
  .rename_i hd;have ho:ops[i]? = some ops[i]:=ju ak;simp only[zu,zv,wpOps,ho];have hg:ops[i].guard=none:=by have:=jy.1 ct ops[i] (by simp);simpa using this
   have hw:Region.wanted ops[i] (yielded ops a.tmps)=true:=by simp[Region.wanted,hg]
   simp only[hw,if_true];refine .inl (Br hT hC hR (act:=[]) (λg hg=>by simp at hg) (p:=false) (λ_=>hc) (by simpa using hd) (by simpa using h) (λσ' a' w' S' γ' bY dq hk=>?_));exact Vf hT hC ct hn n (i+1) σ' a' w' S' γ' (by omega) bY (dq rfl) hk
  .simp at h
theorem Vg{β:Type}:∀{zs:List (Int×β)}{j:Nat}{x:Int×β},(zs.map λx=>x.1).Nodup->zs[j]? = some x->∀y,@ea _ _ (Ty.int .i64).keq zs x.1 y=zs.set j (x.1,y)
 |[],j,x,_,h,y=>by simp at h
 |z::r,0,x,_,h,y=>by
  have h:z=x:=by simpa using h
  subst h;show cond ((z.1:Int)==z.1) ((z.1,y)::r) _=(z.1,y)::r;rw[qd];rfl
 |z::r,j+1,x,hn,h,y=>by
  have h:r[j]? = some x:=by simpa using h
  have hc:=qb.1 (show (z.1::r.map λx=>x.1).Nodup from hn);have bk:¬(x.1:Int)=z.1:=λhe=>hc.1 (he▸jt.2 ⟨x,kc h,rfl⟩);show cond ((x.1:Int)==z.1) _ (z::@ea _ _ (Ty.int .i64).keq r x.1 y)=z::r.set j (x.1,y);rw[beq_false_of_ne bk,j7,Vg hc.2 h y]
theorem Vh(hR:Rel N np S0 w0 refs σ a w S γ){nm em:Nat}{v:Ty}{zs:List (Int×v.den)}(Bw:isM em=true)(hb:σ.bx nm = .live (.lst em (.pair (.int .i64) v) zs false)) :
  ∃g es clock,γ nm = .map (some g)/\w.heap[g]? = some (.map es clock)/\All2 (yz S w (.int .i64) v) zs es.toList/\wb es clock:=by
 rcases (hR.box nm _ hb).1 with⟨hm,_⟩|⟨_,hm⟩
 .rw[Bw]at hm;simp at hm
 .exact hm
theorem Vi{es:Array MapEntry}{clock:Nat}(h:wb es clock){j:Nat}{e:MapEntry}(he:es.toList[j]? = some e):e.born=j:=by
 have h1:(es.toList.map (·.born))[j]? = some e.born:=by simp[he]
 rw[h.2]at h1;have h2:=(jx.1 h1).2;simpa using h2.symm
theorem DV{es:Array MapEntry}{clock:Nat}(h:wb es clock):es.toList.length=clock:=by
 have:=jq List.length h.2;simpa using this
theorem jCY{es es':Array MapEntry}(h1:es'.toList.map (·.key)=es.toList.map (·.key))(h2:es'.toList.map (·.born)=es.toList.map (·.born)):keyB es'=keyB es:=by
 have hz:∀es:Array MapEntry,keyB es=(es.toList.map (·.key)).zip (es.toList.map (·.born)):=λes=>by
  unfold keyB;rw[List.zip_map']
 rw[hz,hz,h1,h2]
structure Mix{β:Type}(xs ys:List (Int×β))(seen:Array Nat)(zs:List (Int×β)):Prop where
 len:zs.length=xs.length
 get:∀i,zs[i]? = if seen.contains i=true then ys[i]? else xs[i]?
theorem jy0{β:Type}{Z:Int×β->Int×β->Prop}:∀{xs ys:List (Int×β)},All2 (λx y=>y.1=x.1/\Z x y) xs ys->xs.length=ys.length/\∀(j:Nat)(x:Int×β),xs[j]? = some x->∃y,ys[j]? = some y/\y.1=x.1/\Z x y:=
 λh=>⟨h.length,λj x hx=>h.get j x hx⟩
theorem jE8{b:Nat}{c:Code}{p:MrP}(h:mrP b c=some p):∃sb r3 o1 o2 o3,c = .seq (.region sb #[o1,o2] false) (.seq (.cond (.tmp p.c2) .skip (.exit b)) (.block p.b6 (.seq (.region r3 p.ops false) p.rest)))/\
  o1.op = .next (.tmp p.it) false/\o1.dst=some p.d1/\o1.guard=none/\o2.op = .extract (.tmp p.d1) 0/\o2.dst=some p.c2/\o2.guard=none/\p.ops[0]? = some o3/\o3.op = .entry (.tmp p.it)/\o3.dst=some p.d3/\o3.guard=none:=by
 unfold mrP at h;split at h
 case h_2=>simp at h
 rename_i sb ops c b' b6 r3 tV rest;split at h
 case h_2=>simp at h
 rename_i o1 o2 o3 l3 oe DW;split at h
 case h_2=>simp at h
 rename_i it d1 SX c2 SY d3 h1 h2 h3;split at h
 case isFalse=>simp at h
 rename_i dy;obtain⟨rfl,rfl,rfl,rfl⟩:=dy;simp only[j5]at h;subst h;have oe:ops = #[o1,o2]:=qk (by simpa using oe);subst oe;have e3:tV[0]? = some o3:=by rw[<-q8,DW];rfl
 unfold SV at h1;split at h1
 case h_2=>simp at h1
 rename_i q1 q2 q3;simp only[j5,j9]at h1;obtain⟨rfl,rfl⟩:=h1;unfold fstO at h2;split at h2
 case h_2=>simp at h2
 rename_i p1 p2 p3;simp only[j5,j9]at h2;obtain⟨rfl,rfl⟩:=h2;unfold entO at h3;split at h3
 case h_2=>simp at h3
 rename_i s1 s2 s3;simp only[j5,j9]at h3;obtain⟨rfl,rfl⟩:=h3;exact⟨sb,r3,o1,o2,o3,rfl,q1,q2,q3,p1,p2,p3,e3,s1,s2,s3⟩
theorem nbeq{i j:Nat}(h:Nat.beq i j=false):i≠j:=by
 rintro rfl
 rw[Nat.beq_refl]at h;simp at h
theorem beqF{i j:Nat}(h:i≠j):Nat.beq i j=false:=by
 cases hq:Nat.beq i j with
 |false=>rfl
 |true=>exact absurd (Nat.eq_of_beq_eq_true hq) h
theorem jAu{P:Program}(gQ:P.follows .mixedOrders=true)(BC:Nat->Option (Nat×Nat)):MrS P BC:=by
 intro E hE hT hC hF iC lR x y b n pl S0 w0 refs σ a w S γ R k r hm hMO hR hc sd h;unfold CB at h;split at h
 case h_2=>simp at h
 rename_i sb ops bl c;split at h
 case h_2=>simp at h
 rename_i m nm p o DQ hp cU;split at h
 case h_2=>simp at h
 rename_i t m1 it ca DG;cases nM:(bare ops&&(Nat.beq it p.it&&(mrC E bl p m&&(ry E.T t).isSome))) with
 |false=>rw[nM]at h;simp at h
 |true=>
 rw[nM,j6]at h;simp only[jc]at nM;obtain⟨ct,wK,Ba,bR⟩:=nM;obtain rfl:it=p.it:=Nat.eq_of_beq_eq_true wK;have hMK:=hMO (bl,c) (by simp[fQ]) m nm p DQ hp;unfold mrC at Ba;simp only[jc,kp,qf,kn]at Ba;obtain⟨hb3,DX,n1,n2,n3,n4,n5,n6,n7,l1,l2,l3,l4,k1,k2,k3⟩:=Ba;have n1:=nbeq n1;have n2:=nbeq n2;have n3:=nbeq n3;have n4:=nbeq n4;have n5:=nbeq n5;have n6:=nbeq n6;have n7:=nbeq n7;have l1:p.it<E.N.n:=qq l1;have l2:p.d1<E.N.n:=qq l2;have l3:p.c2<E.N.n:=qq l3;have l4:p.d3<E.N.n:=qq l4;obtain⟨rid1,r3,o1,o2,o3,L1,q1,q2,q3,p1,p2,p3,e3,s1,s2,s3⟩:=jE8 hp;refine wpIn_seq (wpIn_mono (Q:=λe a2 w2=>e = .normal/\(Code.block bl (.loop c)).wpIn (FR none) n P (Post E S0 w0 refs pl k r) a2 w2) (wpIn_region (uM (.inl rfl) (by rintro⟨a,w,h,_⟩;cases h) _ _ _ ?_)) ?_)
 rotate_left
 .rintro e a2 w2 ⟨rfl,h⟩;exact h
 obtain⟨pre,sf⟩:=List.getLast?_eq_some_iff.1 cU;have bU:ops.size=pre.length+1:=by rw[<-qg,sf];simp
 rw[List.range_eq_range',bU,List.range'_concat];refine Vf hT hC ct (k:=mrGo E bl m m1 k) (r:=r) (λσ1 a1 w1 S1 γ1 bE eG oV=>?_) pre.length 0 σ a w S γ (by omega) hR hc (by rw[sf,y8]at h;rw[sf,jr,List.take_left'];exact h;rfl);have ho:ops[0+1*pre.length]? = some o:=by rw[<-q8,sf];simp
 have hg:o.guard=none:=by have:=jy.1 ct o (by rw[sf];simp);simpa using this
 have hw:Region.wanted o (yielded ops a1.tmps)=true:=by simp[Region.wanted,hg]
 simp only[wpOps,ho,hw,if_true];refine .inl ?_;unfold mrGo at oV;split at oV
 case h_2=>simp at oV
 rename_i bm Vj fD hmm;cases wV:(Nat.beq bm Vj&&Kp (σ1.bx bm)) with
 |false=>rw[wV]at oV;simp at oV
 |true=>
 rw[wV,j6]at oV;simp only[jc]at wV;obtain⟨yP,L2⟩:=wV;obtain rfl:bm=Vj:=Nat.eq_of_beq_eq_true yP;split at oV
 case h_2=>simp at oV
 rename_i s hs;obtain⟨em,v,xs,ys,Bw,UZ,BD,iw,hk⟩:=hMK s R _ r oV;obtain⟨S2,γ2,cH,fg⟩:=tD bE eG hs;rw[UZ]at cH fg;obtain⟨g,es,clock,jV,HG,DY,cM⟩:=Vh cH Bw (BD xs).1
 have hlv:∃bx,σ1.bx bm = .live bx:=by
  unfold Kp at L2;split at L2
  .rename_i hb;exact⟨_,hb⟩
  .simp at L2
 obtain⟨bx,fh⟩:=hlv;have Db:tm a1 m1=γ1 bm:=by have:=bE.slot m1;rw[fD]at this;exact this.1.2.2 _ fh
 have DL:tm a1 m=γ1 bm:=by have:=bE.slot m;rw[hmm]at this;exact this.1.2.2 _ fh
 have hv3:tm a1 m=γ2 nm:=by have:=cH.slot m;rw[(BD xs).2]at this;exact this.1.2.2 _ (BD xs).1
 have Hl:tm a1 m = .map (some g):=hv3.trans jV;have mJ:a1.eval (.tmp m1) = .map (some g):=Db.trans (DL.symm.trans Hl)
 obtain⟨ky,kv,hkv⟩:∃ky kv,ry E.T t=some (ky,kv):=by
  cases hq:ry E.T t with
  |none=>rw[hq]at bR;simp at bR
  |some q=>exact⟨q.1,q.2,rfl⟩
 obtain⟨kt,vt,tv,ik,_⟩:=Lb hT hkv;have aL:=run_range_map (P:=P) w1 t kt vt g es clock ik HG;obtain⟨rr,L3⟩:∃rr,rr=w1.heap.size:=⟨_,rfl⟩;rw[<-L3]at aL;have o8:(execOp a1.eval o).run P w1 = .ok (.value (.pointer (some ⟨rr,0,none⟩))) (w1.alloc (.mapIter (some g) clock #[] clock)):=by simp[execOp,ca,mJ,aL,Result.andThen]
 unfold Oper.wp;rw[o8,Oper.upon_value,DG];refine⟨trivial,?_⟩;let fx:Nat->Option Value:=λi=>if i=p.it then some (.pointer (some ⟨rr,0,none⟩)) else if i=m then some (.map (some g)) else none
 let fj:Array Nat->Refs:=λseen=>{ blks:=refs.blks,val:=refs.val,ds:=refs.ds,kw:=λx=>if x=rr then some (.mapIter (some g) clock seen clock) else refs.kw x,fix:=fx,mv:=refs.mv }
 let N':NT:=(E.mrE p.it m).N
 have uh:refs.kw rr=none:=bE.kw_new (by omega);have hwr:w0.heap.size<=rr:=by have:=bE.grow;omega
 have cI:∀seen,yN w0 (fj seen):=λseen=>⟨hm.1,λd hd=>by
  obtain⟨D,hD,yW,BB⟩:=hm.2 d hd;refine⟨D,hD,yW,?_⟩;show (if D=rr then _ else refs.kw D)=_;rw[if_neg,BB]
  rintro rfl
  rw[uh]at BB;simp at BB⟩
 have mf:g≠rr:=by have:=(ji.1 HG).1;omega
 have jX:∀{seen seen':Array Nat}{σ:St}{a:Go.Act}{W:World}{S:aP}{γ:Nat->Value},Rel N' E.np S0 w0 (fj seen) σ a W S γ->Rel N' E.np S0 w0 (fj seen') σ a (W.putObj rr (.mapIter (some g) clock seen' clock)) S γ:=by
  intro seen seen' σ a W S γ hR;have:=hR.putO (l:=rr) (o:= .mapIter (some g) clock seen clock) (o':= .mapIter (some g) clock seen' clock) (by simp[fj]) hwr rfl rfl;refine this.swap rfl rfl this.size this.defers this.slot (λg u hg=>this.kept g u ?_) this.fix;simp only[fj]at hg ⊢;split
  .rename_i e;subst e;simpa using hg
  .rename_i e;simpa[e]using hg
 have L4:N'.pin p.it=true:=by show (Nat.beq p.it p.it||Nat.beq p.it m)=true;rw[Nat.beq_refl];rfl
 have uL:N'.pin m=true:=by show (Nat.beq m p.it||Nat.beq m m)=true;rw[Nat.beq_refl,Bool.or_true]
 have Vk:∀{a':Go.Act},tm a' p.it = .pointer (some ⟨rr,0,none⟩)->tm a' m = .map (some g)->∀i u,fx i=some u->N'.pin i=true/\a'.tmps.getD i undef=u:=by
  intro a' h1 h2 i u hu;simp only[fx]at hu;split at hu
  .rename_i e;subst e;simp only[j5]at hu;exact⟨L4,h1.trans hu⟩
  .split at hu
   .rename_i e;subst e;simp only[j5]at hu;exact⟨uL,h2.trans hu⟩
   .simp at hu
 have L5:a1.tmps.size=E.N.n:=bE.size;let a2:Go.Act:=a1.put (some p.it) (.pointer (some ⟨rr,0,none⟩))
 have BE:∀j,tm a2 j=if j=p.it then .pointer (some ⟨rr,0,none⟩) else tm a1 j:=λj=>oa (by omega) _ j
 have hRL:Rel N' E.np S0 w0 (fj #[]) (cJ E.np (E.keep bl) (gF s em v xs)) a2 (w1.alloc (.mapIter (some g) clock #[] clock)) S2 γ2:=by
  have hA:=cH.allocO (.mapIter (some g) clock #[] clock);refine hA.frame rfl rfl ((qT _ _).trans L5) ((wF _ _).trans bE.defers) (λi hi=>?_) (λg' u ar=>?_) (Vk ?_ ?_)
  .have z:i≠p.it:=λe=>k1 (e▸hi);rw[BE,if_neg z]
  .simp only[fj]at ar;split at ar
   .rename_i e';simp only[j5]at ar;subst ar;rw[e',L3];refine⟨World.alloc_heap_new _ _,λk' b' aT dL=>?_⟩;have:=me (cH.box k' b' aT) dL;omega
   .exact hA.kept g' u ar
  .rw[BE,if_pos rfl]
  .rw[BE,if_neg n4];exact Hl
 have L6:AtR g rr p.it clock clock (keyB es) es #[] a2 (w1.alloc (.mapIter (some g) clock #[] clock)):=by
  refine⟨(heap_alloc_old _ _ (ji.1 HG).1).trans HG,rfl,?_,?_⟩
  .rw[L3];exact World.alloc_heap_new _ _
  .rw[BE,if_pos rfl]
 let J:Array MapEntry->Array Nat->Go.Act->World->Prop:=λes' seen a w=>∃(zs:List (Int×v.den))(S:aP)(γ:Nat->Value),Rel N' E.np S0 w0 (fj seen) (cJ E.np (E.keep bl) (gF s em v zs)) a w S γ/\
  dp (cJ E.np (E.keep bl) (gF s em v zs))/\Mix xs ys seen zs/\wb es' clock
 have ni:xs.length=clock:=by rw[DY.length,DV cM]
 obtain⟨hxyl,L7⟩:=jy0 iw;have tG:J es #[] a2 (w1.alloc (.mapIter (some g) clock #[] clock)):=⟨xs,S2,γ2,hRL,fg,⟨rfl,λi=>by simp⟩,cM⟩
 have Vl:∀{es':Array MapEntry}{seen:Array Nat}{a:Go.Act}{w:World}{zs:List (Int×v.den)}{S:aP}{γ:Nat->Value},Rel N' E.np S0 w0 (fj seen) (cJ E.np (E.keep bl) (gF s em v zs)) a w S γ->
   ∃es' fc,γ nm = .map (some g)/\w.heap[g]? = some (.map es' fc)/\All2 (yz S w (.int .i64) v) zs es'.toList/\wb es' fc:=by
  intro es' seen a w zs S γ hR;obtain⟨g',es',fc,h1,h2,h3,h4⟩:=Vh hR Bw (BD zs).1;have h5:tm a m=γ nm:=by have:=hR.slot m;rw[(BD zs).2]at this;exact this.1.2.2 _ (BD zs).1
  have h6:tm a m = .map (some g):=(hR.fix m (.map (some g)) (by show (if m=p.it then _ else if m=m then _ else _)=_;rw[if_neg n4,if_pos rfl])).2;have:g'=g:=by rw[h5,h1]at h6;simpa using h6
  subst this;exact⟨es',fc,h1,h2,h3,h4⟩
 subst L1
 refine wpIn_block (wpIn_mono (jwj (P:=P) (ro:=none) rfl (Q:=λe a' w'=>e = .exit bl/\∃S' γ',Rel E.N E.np S0 w0 refs (cJ E.np (E.keep bl) (gF s em v ys)) a' w' S' γ'/\dp (cJ E.np (E.keep bl) (gF s em v ys)))
  q1 q2 q3 p1 p2 p3 n1 n2 mf (js clock) (λq hq=>?_) E.N.n l2 l3 J (λes' seen a' w' hJ=>?_) ?_ ?_ L6 tG) ?_)
 .obtain⟨e,he,rfl⟩:=jt.1 hq;exact cM.1.1 e he
 .obtain⟨zs,S',γ',bY,_⟩:=hJ;exact bY.size
 ·-- the end
  rintro es' seen a' w' u u' hA ⟨zs,S',γ',bY,dq,iY,rG⟩ dU
  have De:zs=ys:=by
   refine zp λi=>?_;rw[iY.get i];split
   .rfl
   .rename_i L8;by_cases hi:i<clock
    .exfalso;have ak:i<es'.toList.length:=by rw[DV rG];exact hi
     have hb:=Vi rG (jk ak);have:=dU _ (jf ak);rw[hb]at this;exact L8 this
    .rw[qp (by omega),qp (by omega)]
  subst De;refine⟨rfl,S',γ',bY.frame rfl rfl ?_ ?_ (λi hi=>?_) (λg' o' ar=>?_) (λi u hu=>?_),dq⟩
  .rw[qT,qT];exact bY.size
  .rw[wF,wF];exact bY.defers
  .have z1:i≠p.c2:=λe=>k3 (e▸hi);have z2:i≠p.d1:=λe=>k2 (e▸hi);have z3:a'.tmps.size=E.N.n:=bY.size;rw[oa (by rw[qT];omega),if_neg z1,oa (by omega),if_neg z2]
  .refine bY.kept g' o' ?_;show (if g'=rr then _ else refs.kw g')=_;rw[if_neg]
   .exact ar
   .rintro rfl
    rw[uh]at ar;simp at ar
  .have:=(hR.fix i u hu).1;rw[lR]at this;simp at this
 ·-- a round
  rintro es' seen a' w' DZ u u' e hA ⟨zs,S',γ',bY,dq,iY,rG⟩ he L8 nk kX
  have L9:a'.tmps.size=E.N.n:=bY.size;obtain⟨HH,dH,hg2',Ma,dU,kY⟩:=Vl (es':=es') bY;have:HH=es'/\dH=clock:=by have:=hA.map;rw[Ma]at this;simpa using this
  obtain⟨rfl,rfl⟩:=this;obtain⟨j,hj⟩:=zd.1 he;have yX:e.born=j:=Vi kY hj;have nP:j<xs.length:=by have:=(jx.1 hj).1;rw[ni,<-DV kY];exact this
  have yB:zs[j]? = xs[j]? := by
   rw[iY.get j,if_neg];rw[<-yX,L8];simp
  obtain⟨x,hx⟩:∃x,xs[j]? = some x:=⟨_,jk nP⟩;obtain⟨e',Bm,BF,tt⟩:=dU.get j x (yB.trans hx);obtain rfl:e'=e:=by rw[hj]at Bm;exact(Option.some.inj Bm).symm
  obtain⟨y,hy,Vm,yS⟩:=L7 j x hx;have fA:(zs.map λx=>x.1).Nodup:=by have h1:=kY.1.2.2;rw[DE dU]at h1;exact(List.pairwise_map.1 h1).imp λh e=>h (by rw[e])
  have Vn:Rel N' E.np S0 w0 (fj seen) (cJ E.np (E.keep bl) (gF s em v zs)) a' DZ S' γ':=by
   rcases nk with rfl|rfl
   .exact bY
   .exact bY.drawn _
  have Mb:VRep S' DZ ⟨v,x.2⟩ e'.val:=by
   rcases nk with rfl|rfl
   .exact tt
   .exact VRep.keep (S:=S') (w:=w') (S':=S') (w':=w'.drew) (λg o hs=>⟨hs,rfl⟩) tt
  have Mc:=jX (seen':=seen.push e'.born) Vn;obtain⟨w2,BG⟩:∃w2,DZ.putObj rr (.mapIter (some g) dH (seen.push e'.born) dH)=w2:=⟨_,rfl⟩;have kX:AtR g rr p.it dH dH (keyB es) HH (seen.push e'.born) ((a'.put (some p.d1) u).put (some p.c2) u') w2:=by rw[<-BG];exact kX
  show (Code.block p.b6 _).wpIn (FR none) n P _ _ (DZ.putObj rr (.mapIter (some g) dH (seen.push e'.born) dH));rw[BG]at Mc ⊢;obtain⟨a3,HI⟩:∃a3,(a'.put (some p.d1) u).put (some p.c2) u'=a3:=⟨_,rfl⟩;rw[HI]at kX ⊢
  have Md:∀j,tm a3 j=if j=p.c2 then u' else if j=p.d1 then u else tm a' j:=λj=>by
   rw[<-HI,oa (by rw[qT];omega),oa (by omega)]
  have Me:a3.tmps.size=E.N.n:=by rw[<-HI,qT,qT];exact L9
  have wg:tm a' p.it = .pointer (some ⟨rr,0,none⟩):=hA.ptr;have uJ:tm a' m = .map (some g):=(bY.fix m (.map (some g)) (by show (if m=p.it then _ else if m=m then _ else _)=_;rw[if_neg n4,if_pos rfl])).2
  have gj:Rel N' E.np S0 w0 (fj (seen.push e'.born)) (cJ E.np (E.keep bl) (gF s em v zs)) a3 w2 S' γ':=by
   refine Mc.frame rfl rfl Me (by rw[<-HI,wF,wF];exact bY.defers) (λi hi=>?_) (λg' o' ar=>Mc.kept g' o' ar) (Vk ?_ ?_)
   .have z1:i≠p.c2:=λe=>k3 (e▸hi);have z2:i≠p.d1:=λe=>k2 (e▸hi);rw[Md,if_neg z1,if_neg z2]
   .rw[Md,if_neg n2,if_neg n1];exact wg
   .rw[Md,if_neg n6,if_neg n5];exact uJ
  have uw:dP S' DZ S' w2:=λg' o' dC=>by
   refine⟨dC,?_⟩;have hq:=(Vn.kept rr (.mapIter (some g) dH seen dH) (by show (if rr=rr then _ else _)=_;rw[if_pos rfl])).1;by_cases tn:g'=rr
   .subst tn;rw[HB hq rfl,<-BG,HB (World.putObj_heap_same (ji.1 hq).1) rfl]
   .rw[<-BG];exact World.cell?_of_block (World.putObj_heap_other tn)
  have uQ:e'.key = .int .i64 x.1:=by have:[e'.key]=[Value.int .i64 x.1]:=BF;simpa using this
  have Mf:=run_entry_at (P:=P) w2 rr g dH seen HH dH e' kX.iter kX.map he kY.1.2.1;have Mg:a3.eval (.tmp p.it) = .pointer (some ⟨rr,0,none⟩):=kX.ptr;have D0:(execOp a3.eval o3).run P w2 = .ok (.value (.tuple #[e'.key,e'.val])) w2:=by simp[execOp,s1,Mg,Mf,Result.andThen]
  obtain⟨nr,nt⟩:=Bp gj dq (dst:=some p.d3) (λd hd=>by
   simp only[j5]at hd;subst hd;refine⟨l4,?_⟩;show (Nat.beq p.d3 p.it||Nat.beq p.d3 m)=false;rw[vz];exact⟨beqF (Ne.symm n3),beqF (Ne.symm n7)⟩) (s:= .tup [.one (.d (.int .i64) x.1),oH v x.2]) (v:= .tuple #[e'.key,e'.val]) (by
   refine⟨#[e'.key,e'.val],rfl,⟨BF,λ_=>by rw[uQ];rfl⟩,?_,trivial⟩;exact xY (x:=⟨v,x.2⟩) (VRep.keep uw Mb)) rfl
  have D1:=yS zs;unfold AP at D1;have Mh:p.ops.size=(p.ops.size-1)+1:=by have:=(ji.1 e3).1;omega
  have hw3:Region.wanted o3 (yielded p.ops a3.tmps)=true:=by simp[Region.wanted,s3]
  have Mi:MrS P (λ_=>none):=by
   intro E hE _ _ _ _ _ x y _ _ _ _ _ _ _ _ _ _ _ _ _ _ _ _ _ _ sd _;unfold AN at sd;split at sd
   .rw[hE]at sd;simp at sd
   .simp at sd
  have eQ:=Vb gQ Mi p.rest (E:=E.mrE p.it m) (ro:=none) hT hC hF rfl iC (.inl DX)
  refine wpIn_block (wpIn_seq (wpIn_mono (Q:=λe4 a4 w4=>e4 = .normal/\p.rest.wpIn (FR none) n P (Post (E.mrE p.it m) S0 w0 (fj (seen.push e'.born)) (dM p.rest) (λe σ2=>cond (mrNx p.b6 e) (match iP E.np (E.keep bl) σ2 with
   |some s'=>some s'
   |none=>none) none) (gF s em v (@ea _ _ (Ty.int .i64).keq zs x.1 y.2))) a4 w4) (wpIn_region (uM (.inl rfl) (by rintro⟨a,w,h,_⟩;cases h) _ _ _ ?_)) ?_))
  .rw[List.range_eq_range',Mh,zu];simp only[wpOps,e3,hw3,if_true];refine .inl ?_;unfold Oper.wp;rw[D0,Oper.upon_value,s2];refine Li (E:=E.mrE p.it m) hT hC hb3 (λσ' a' w' S' γ' h1 h2 h3=>⟨rfl,eQ p.b6 n (cI _) (by rw[uO _ _ DX];simp) h1 h2 h3⟩) (p.ops.size-1) 1 _ _ _ _ _ (by omega) nr nt ?_;rw[List.drop_one];exact D1
  rintro e4 a4 w4 ⟨rfl,h4⟩
  refine wpIn_mono h4 ?_
  rintro e5 a5 w5 ⟨Vo,ex,σ5,S5,γ5,_,Mj,rfl,nu,yT,kV⟩
  have:=Mj DX;subst this;dsimp only at kV;cases uR:mrNx p.b6 ex with
  |false=>rw[uR]at kV;simp at kV
  |true=>
  rw[uR,j6]at kV;split at kV
  case h_2=>simp at kV
  rename_i s6 hs6;simp only[j5]at kV;subst kV;obtain⟨S6,γ6,pM,hc6⟩:=tD nu yT hs6
  have xM:∀Q:Exit->Go.Act->World->Prop,Q .normal a5 w5->Exit.inBlock p.b6 Q (exOf ex) a5 w5:=by
   intro Q hQ;cases ex with
   |normal=>exact hQ
   |exit i=>have:i=p.b6:=Nat.eq_of_beq_eq_true uR;simp only[exOf,Exit.inBlock,this,if_true];exact hQ
   |ret=>simp[mrNx]at uR
  refine xM _ ?_;obtain⟨es3,og,Hf,hh3,wW,sg⟩:=Vl (es':=HH) pM;have jT:@ea _ _ (Ty.int .i64).keq zs x.1 y.2=zs.set j y:=by rw[Vg fA (yB.trans hx) y.2,<-Vm]
  have lT:(@ea _ _ (Ty.int .i64).keq zs x.1 y.2).map (λx=>x.1)=zs.map λx=>x.1:=by
   rw[jT,List.map_set,Vm];refine zp λi=>?_;rw[List.getElem?_set];split
   .rename_i dF;subst dF;rw[qi,yB.trans hx];rw[if_pos (by rw[k5,iY.len];exact nP)];rfl
   .rfl
  have wX:og=dH:=by rw[<-DV sg,<-wW.length,<-DV kY,<-dU.length,jT,vq]
  subst wX;refine⟨es3,⟨hh3,?_,?_,?_⟩,_,S6,γ6,pM,hc6,⟨?_,λi=>?_⟩,sg⟩
  .rw[<-hA.ks];exact jCY (by rw[DE wW,DE dU,lT]) (by rw[sg.2,kY.2])
  .exact(pM.kept rr (.mapIter (some g) og (seen.push e'.born) og) (by show (if rr=rr then _ else _)=_;rw[if_pos rfl])).1
  .exact(pM.fix p.it (.pointer (some ⟨rr,0,none⟩)) (by show (if p.it=p.it then _ else _)=_;rw[if_pos rfl])).2
  .rw[jT,vq];exact iY.len
  .rw[jT,List.getElem?_set];by_cases dF:j=i
   .subst dF;rw[if_pos rfl,if_pos (by rw[iY.len];exact nP),if_pos ((DR _ _ _).2 (.inr yX.symm))];exact hy.symm
   .rw[if_neg dF,iY.get i];by_cases HJ:seen.contains i=true
    .rw[if_pos HJ,if_pos ((DR _ _ _).2 (.inl HJ))]
    .rw[if_neg HJ,if_neg];intro hq;rcases (DR _ _ _).1 hq with hq|hq
     .exact HJ hq
     .exact dF (by rw[hq,yX])
 .rintro e a' w' ⟨rfl,S',γ',bY,dq⟩
  simp only[Exit.inBlock,if_true];exact⟨refs,.normal,_,S',γ',⟨rfl,rfl,rfl,hm,rfl⟩,λ_=>rfl,rfl,bY,dq,hk⟩
theorem jwk{P:Program}(gQ:P.follows .mixedOrders=true)(c:Code){E:Env}{ro:Option Nat}(hT:cO P E.T)(hC:jJ P E.C)(hF:CFun E.C)(iC:∀f t,E.bw f=some t->BwK P f t)
 (hq:dM c=true\/(ro=none/\E.N.pin=λ_=>false)):HE P E ro c:=Vb gQ (jAu gQ E.mr) c hT hC hF rfl iC hq
end
section
variable{N:NT}{np:Nat}{S0:aP}{w0:World}{refs:Refs}{σ:St}{a:Go.Act}{w:World}{S:aP}{γ:Nat->Value}
def yY:Arg->Bool
 |.ref _=>true
 |.rl _ _=>true
 |_=>false
def D2(args:List Arg)(vals:List Value)(k:Nat):Option Value:=
 if k%64=0 then match args[k/64]? with
  |some x=>if yY x then vals[k/64]? else none
  |none=>none
 else none
def qY(args:List Arg)(vals:List Value):Refs:={ blks:=eI args vals,val:=D2 args vals,mv:=mvOf args vals }
def γ0(vals:List Value)(k:Nat):Value:=vals.getD (k/64) undef
theorem D3:∀{as:List Arg}{us:List Value}{i:Nat}{x:Arg}{u:Value}{g:Nat},as[i]? = some x->us[i]? = some u->lK x u=some g->g∈eI as us
 |y::as,v::us,0,x,u,g,h,h',hg=>by
  simp at h h';subst h;subst h';simp[eI,hg]
 |y::as,v::us,i+1,x,u,g,h,h',hg=>by
  have:=D3 (as:=as) (us:=us) (i:=i) (by simpa using h) (by simpa using h') hg;simp[eI,this]
 |[],_,_,_,_,_,h,_,_=>by simp at h
 |_::_,[],_,_,_,_,_,h',_=>by simp at h'
theorem Vp:∀{as:List Arg}{us:List Value}{i j:Nat}{x y:Arg}{u v:Value}{g:Nat},(eI as us).Nodup->as[i]? = some x->us[i]? = some u->as[j]? = some y->us[j]? = some v->
  lK x u=some g->lK y v=some g->i=j
 |z::as,t::us,0,0,_,_,_,_,_,_,_,_,_,_,_,_=>rfl
 |z::as,t::us,0,j+1,x,y,u,v,g,hn,hx,hu,hy,hv,h1,h2=>by
  simp at hx hu;subst hx;subst hu;have:=D3 (as:=as) (us:=us) (i:=j) (by simpa using hy) (by simpa using hv) h2;simp[eI,h1]at hn;exact absurd this hn.1
 |z::as,t::us,i+1,0,x,y,u,v,g,hn,hx,hu,hy,hv,h1,h2=>by
  simp at hy hv;subst hy;subst hv;have:=D3 (as:=as) (us:=us) (i:=i) (by simpa using hx) (by simpa using hu) h1;simp[eI,h2]at hn;exact absurd this hn.1
 |z::as,t::us,i+1,j+1,x,y,u,v,g,hn,hx,hu,hy,hv,h1,h2=>by
  have Lq:(eI as us).Nodup:=by simp only[eI]at hn;exact(List.nodup_append.1 hn).2.1
  rw[Vp Lq (i:=i) (j:=j) (by simpa using hx) (by simpa using hu) (by simpa using hy) (by simpa using hv) h1 h2]
 |[],_,_,_,_,_,_,_,_,_,h,_,_,_,_,_=>by simp at h
 |_::_,[],_,_,_,_,_,_,_,_,_,h,_,_,_,_=>by simp at h
theorem Vq:∀{as:List Arg}{us:List Value}{i e:Nat}{x:TV}{u:Value}{g:Nat},as[i]? = some (.mv e x)->us[i]? = some u->blk u=some g->g∈mvOf as us
 |y::as,v::us,0,e,x,u,g,h,h',hg=>by
  simp at h h';subst h;subst h';simp[mvOf,hg]
 |y::as,v::us,i+1,e,x,u,g,h,h',hg=>by
  have:=Vq (as:=as) (us:=us) (i:=i) (by simpa using h) (by simpa using h') hg;cases y<;>simp[mvOf,this]
 |[],_,_,_,_,_,_,h,_,_=>by simp at h
 |_::_,[],_,_,_,_,_,_,h',_=>by simp at h'
theorem jAv{args:List Arg}{vals:List Value}(ha:All2 (oT S w) args vals)(fA:(eI args vals).Nodup)(hS:∀g o,S g o->g<w.heap.size)(hlen:args.length=np)(hN:np<=N.n) :
  Rel N np S w (qY args vals) (St.init args) ⟨vals.toArray++Array.replicate (N.n-vals.toArray.size) undef,[]⟩ w S (γ0 vals)/\dp (St.init args):=by
 have wq:vals.length=np:=by rw[<-ha.length,hlen]
 have uJ:∀i u,vals[i]? = some u->(vals.toArray++Array.replicate (N.n-vals.toArray.size) undef).getD i undef=u:=by intro i u hu;have hi:i<vals.length:=(jx.1 hu).1;rw[zq,Array.getElem?_append_left (by simpa using hi)];simp[hu]
 have lF:∀i u,vals[i]? = some u->γ0 vals (i*64)=u:=by intro i u hu;simp only[γ0];rw[ym _ (by omega)];simp[hu]
 have uS:∀i u,vals[i]? = some u->γ0 vals (i*64+63)=u:=by intro i u hu;simp only[γ0];rw[show (i*64+63)/64=i by omega];simp[hu]
 have fh:∀k b,(St.init args).bx k = .live b->∃i x u,args[i]? = some x/\vals[i]? = some u/\oT S w x u/\((k=i*64/\na (some x) = .live b)\/(k=i*64+63/\tW (some x) = .live b)):=by
  intro k b hb;simp only[St.init]at hb;split at hb
  .rename_i hk;cases hx:args[k/64]? with
   |none=>simp[hx,na]at hb
   |some x=>obtain⟨u,hu,iJ⟩:=ha.get _ x hx;exact⟨k/64,x,u,hx,hu,iJ,.inl ⟨by omega,by rw[hx]at hb;exact hb⟩⟩
  .split at hb
   .rename_i hk;cases hx:args[k/64]? with
    |none=>simp[hx,tW]at hb
    |some x=>obtain⟨u,hu,iJ⟩:=ha.get _ x hx;exact⟨k/64,x,u,hx,hu,iJ,.inr ⟨by omega,by rw[hx]at hb;exact hb⟩⟩
   .simp at hb
 have si:∀{x:Arg}{b:Bx},tW (some x) = .live b->∃e t xs,x = .mv e ⟨.list t,xs⟩/\b = .lst e t xs false:=by
  intro x b hb;cases x with
  |mv e y=>obtain⟨t,v⟩:=y;cases t<;>simp[tW]at hb;exact⟨_,_,_,rfl,hb.symm⟩
  |_=>simp[tW]at hb
 have D4:∀i x,args[i]? = some x->(St.init args).bx (i*64+63)=tW (some x):=by intro i x hx;simp only[St.init];rw[if_neg (by omega),if_pos (by omega),show (i*64+63)/64=i by omega,hx]
 have D5:∀i x,args[i]? = some x->(St.init args).bx (i*64)=na (some x):=by intro i x hx;simp only[St.init];rw[if_pos (by omega),ym _ (by omega),hx]
 have hblk:∀x u b,na (some x) = .live b->lK x u=blk u:=by intro x u b hb;cases x<;>first|rfl|simp[na]at hb
 refine⟨⟨?_,rfl,?_,?_,?_,?_,λ_ _ h=>h,λ_ _ h=> .inl h,hS,λ_ _ _=>rfl,js _,rfl,rfl,rfl,?_,λg o h=>by simp[qY]at h,λi v h=>by simp[qY]at h⟩,?_⟩
 .simp;omega
 .intro i
  have dV:(St.init args).sl i=match args[i]? with
   |some a=> .one (GV i a)
   |none=> .one (.one .dead):=rfl
  rw[dV];cases hx:args[i]? with
  |none=>exact⟨trivial,λh=>absurd rfl h⟩
  |some x=>
   obtain⟨u,hu,iJ⟩:=ha.get i x hx;show cd S w (γ0 vals) (St.init args).bx (GV i x) _;rw[uJ i u hu];have hb:=D5 i x hx;cases x with
   |v x=>exact xY iJ
   |ref ls=>obtain⟨g,cur,e,h1,_⟩:=id iJ;exact⟨⟨by rw[hb];simp[na],by rw[h1];rfl,λb _=>⟨g,(lF i u hu).trans h1,h1⟩⟩,λ_=>by rw[h1];rfl⟩
   |rl e x=>obtain⟨t,xs,rfl,cg,_⟩:=id iJ;have dR:One u:=cg.one;exact⟨⟨by rw[hb];simp[na],dR,λb _=>(lF i u hu).symm⟩,λ_=>dR⟩
   |ip ls=>obtain⟨g,o,cs,h1,_⟩:=id iJ;exact⟨iJ,λ_=>by rw[h1];rfl⟩
   |clo f bF=>obtain⟨cv,h1,_⟩:=id iJ;exact⟨iJ,λ_=>by rw[h1];rfl⟩
   |mv e x=>obtain⟨t,xs,rfl,cg,_⟩:=id iJ.1;have dR:One u:=cg.one;have aT:=D4 i _ hx;exact⟨⟨by rw[aT];simp[tW],dR,λb _=>(uS i u hu).symm⟩,λ_=>dR⟩
 .intro k b hb;obtain⟨i,x,u,hx,hu,iJ,⟨rfl,cL⟩|⟨rfl,cL⟩⟩:=fh k b hb
  .cases x with
   |ref ls=>simp only[na,BS.live.injEq]at cL;subst cL;exact K3 (lF i u hu) iJ
   |rl e x=>obtain⟨t,xs,rfl,_⟩:=id iJ;simp only[na,BS.live.injEq]at cL;subst cL;exact C2 (lF i u hu) iJ
   |_=>simp[na]at cL
  .obtain⟨e,t,xs,rfl,rfl⟩:=si cL;exact C2 (uS i u hu) iJ.1
 .intro k b g hb hg;obtain⟨i,x,u,hx,hu,iJ,⟨rfl,cL⟩|⟨rfl,cL⟩⟩:=fh k b hb
  .rw[lF i u hu,<-hblk x u b cL]at hg;refine .inr ⟨D3 hx hu hg,?_⟩;have:i<args.length:=(jx.1 hx).1;simp[parK];omega
  .obtain⟨e,t,xs,rfl,rfl⟩:=si cL;rw[uS i u hu]at hg;exact .inl (.inr ⟨Vq hx hu hg,D3 (x:= .mv e ⟨.list t,xs⟩) hx hu hg⟩)
 .intro k k' b b' g bk hb aT hg ar
  have Vr:∀k b g,(St.init args).bx k = .live b->blk (γ0 vals k)=some g->∃i x u,args[i]? = some x/\vals[i]? = some u/\lK x u=some g/\((k=i*64/\na (some x) = .live b)\/(k=i*64+63/\tW (some x) = .live b)):=by
   intro k b g hb hg;obtain⟨i,x,u,hx,hu,iJ,⟨rfl,cL⟩|⟨rfl,cL⟩⟩:=fh k b hb
   .rw[lF i u hu,<-hblk x u b cL]at hg;exact⟨i,x,u,hx,hu,hg,.inl ⟨rfl,cL⟩⟩
   .obtain⟨e,t,xs,rfl,rfl⟩:=si cL;rw[uS i u hu]at hg;exact⟨i,_,u,hx,hu,hg,.inr ⟨rfl,cL⟩⟩
  obtain⟨i,x,u,hx,hu,h1,h2⟩:=Vr k b g hb hg;obtain⟨j,y,v,hy,hv,h3,h4⟩:=Vr k' b' g aT ar;have dF:=Vp fA hx hu hy hv h1 h3;subst dF;rw[hx]at hy;cases hy;rcases h2 with⟨rfl,h2⟩|⟨rfl,h2⟩<;>rcases h4 with⟨rfl,h4⟩|⟨rfl,h4⟩
  .exact bk rfl
  .obtain⟨e,t,xs,rfl,rfl⟩:=si h4;simp[na]at h2
  .obtain⟨e,t,xs,rfl,rfl⟩:=si h2;simp[na]at h4
  .exact bk rfl
 .intro k v hv;simp only[qY,D2]at hv;split at hv
  .rename_i hk;split at hv
   .rename_i x hx;split at hv
    .rename_i hr;have hi:k/64<args.length:=(jx.1 hx).1;have bK:k=(k/64)*64:=by omega
     refine⟨by simp[parK,hk];omega,?_,?_⟩
     .rw[bK,D5 _ x hx];cases x with
      |rl e y=>obtain⟨u,hu,iJ⟩:=ha.get _ _ hx;obtain⟨t,xs,rfl,_⟩:=iJ;simp[na]
      |ref ls=>simp[na]
      |_=>simp[yY]at hr
     .rw[bK];exact lF _ v hv
    .simp at hv
   .simp at hv
  .simp at hv
 .intro i;show ((match args[i]? with|some a=>Slot.one (GV i a)|none=> .one (.one .dead)):Slot).bare=true;split<;>rfl
theorem Mk{α β:Type}{P:Program}(f:α->Sem β):∀{rs:List α}{zs:List β},All2 (λr z=>(f r).run P w = .ok z w) rs zs->(rs.mapM f).run P w = .ok zs w
 |[],[],_=>by simp
 |r::rs,z::zs,h=>by
  simp only[List.mapM_cons,Sem.run_bind,h.1,Result.andThen_ok,Mk f h.2,Sem.run_pure]
 |[],_::_,h=>h.elim
 |_::_,[],h=>h.elim
def Uns(b:Bx):Prop:=(∃ls,b = .cell ls false)\/∃e t xs,b = .lst e t xs false
theorem Ml{P:Program}{E:Env}(hT:cO P E.T)(hR:Rel N np S0 w0 refs σ a w S γ){r:ResultVar}{c:Cel}(h:AQ E σ r=some c) :
  ∃z,((match r with
   |.tmp t=>pure (a.tmps.getD t undef)
   |.cell x t=>do loadVar t (<-asAddr (a.tmps.getD x undef)):Sem Value)).run P w = .ok z w/\cd S w γ σ.bx c z:=by
 cases r with
 |tmp t=>
  simp only[AQ]at h;split at h
  .rename_i c' hc;simp only[j5]at h;subst h;have:=hR.slot t;rw[hc]at this;exact⟨_,by simp,this⟩
  .simp at h
 |cell x t=>
  simp only[AQ]at h;split at h
  .rename_i ti y ht hy;have:=hR.slot x;rw[hy]at this;obtain⟨z,hz,lx⟩:=Tm hT hR (RdR.msk λ_=> .inl rfl) ht h this.1;refine⟨z,?_,lx⟩;show (do loadVar t (<-asAddr (a.tmps.getD x undef)):Sem Value).run P w=_
   have hu:∃ad,a.tmps.getD x undef = .pointer (some ad):=by
    generalize a.tmps.getD x undef=u at hz
    cases u with
    |pointer o=>
     cases o with
     |some ad=>exact⟨ad,rfl⟩
     |none=>simp[Instr.loadAt,Instr.sureAddr]at hz
    |_=>simp[Instr.loadAt,Instr.sureAddr]at hz
   obtain⟨ad,hu⟩:=hu;rw[hu]at hz ⊢;simpa[Instr.loadAt,Instr.sureAddr,asAddr]using hz
  .simp at h
theorem jE9{P:Program}{E:Env}(hT:cO P E.T)(hR:Rel N E.np S0 w0 refs σ a w S γ){rd:Nat->BS}(bc:RdF E.np σ rd){own:Bool}{t:Nat}{c:Cel}{v:RV}{ks:List Nat}{u:Ups}{z:Value}(h:rvOf E rd own t c=some (v,ks,u))(hc:cd S w γ σ.bx c z) :
  FrzL E.np σ.bx u/\(∀k∈ks,(∃b,σ.bx k = .live b/\Uns b)/\parK E.np k=false)/\(nj v z).toList=(ks.filterMap λk=>blk (γ k))/\
   ∀S',dP S w S' w->Froz σ.bx γ S' w u->(∀k∈ks,∀g,blk (γ k)=some g->∀o,¬S' g o)->qQ S' w v z:=by
 unfold rvOf at h;split at h
 .rename_i k;split at h
  .rename_i ls hk;split at h
   .rename_i xs u1 h1;simp only[j5,j9]at h;obtain⟨rfl,rfl,rfl⟩:=h;have hp:=bc.par hk;have hk:=bc.ok.live hk;obtain⟨g,hg,hz⟩:=hc.1.2.2 _ hk;obtain⟨g',cur,e,ar,hh,eP,_⟩:=hR.box k _ hk;rw[hg]at ar;simp at ar;subst ar;obtain⟨hf,wx⟩:=Be bc h1 eP;refine⟨hf,λk' bK=>by simp at bK;subst bK;exact⟨⟨_,hk,.inl ⟨_,rfl⟩⟩,hp⟩,?_,λS' aM fB hn=>⟨g,cur,e,hz,hh,by rw[GX eP (wx S' w aM fB)];exact wx S' w aM fB,?_⟩⟩
    .simp[nj,hz,hg,blk]
    .exact hn k (by simp) g (by rw[hg];rfl)
   .simp at h
  .simp at h
 .rename_i f bF;simp only[j5,j9]at h;obtain⟨rfl,rfl,rfl⟩:=h;obtain⟨⟨cv,hz,au⟩,_⟩:=hc;exact⟨.nil,by simp,by simp[nj],λS' aM _ _=>⟨cv,hz,au.mono λ_ _ h=>jR.keep aM h⟩⟩
 .split at h
  .rename_i ti ht;split at h
   .rename_i ty bR;split at h
    .split at h
     .rename_i el cY _;simp only[j5,j9]at h;obtain⟨rfl,rfl,rfl⟩:=h;have hz:z = .slice none 0 0:=hc.1;subst hz;exact⟨.nil,by simp,by simp[nj,blk],λS' _ _ _=>⟨el,[],rfl,.inl ⟨Kt hT ht,[],⟨by simp,.inl ⟨rfl,rfl⟩⟩,trivial⟩,λg hg=>by simp[blk]at hg⟩⟩
     .rename_i k cY _;split at h
      .rename_i e el xs hk;simp only[j5,j9]at h;obtain⟨rfl,rfl,rfl⟩:=h;have hp:=bc.par hk;have cb:=bc.ok.nm hk;have hk:=bc.ok.live hk;have hz:=hc.1.2.2 _ hk;obtain⟨css,aU,au,_⟩:=jH cb (hR.box k _ hk);refine⟨.nil,λk' bK=>by simp at bK;subst bK;exact⟨⟨_,hk,.inr ⟨_,_,_,rfl⟩⟩,hp⟩,?_,λS' aM _ hn=>⟨el,xs,rfl,by rw[hz];exact(hR.box k _ hk).1.keep aM (λ_ _=>rfl),λg hg=>hn k (by simp) g (by rw[<-hz];exact hg)⟩⟩;simp only[nj,hz,z8,List.filterMap_nil];cases blk (γ k)<;>rfl
      .simp at h
     .simp at h
    .split at h
     .rename_i x u1 hx;simp only[j5,j9]at h;obtain⟨rfl,rfl,rfl⟩:=h;obtain⟨hf,hp,_⟩:=CL bc hR.box hx hc;exact⟨hf,by simp,by simp[nj],λS' aM fB _=>hp S' w aM fB⟩
     .simp at h
   .simp at h
  .simp at h
theorem Vs{P:Program}{E:Env}(hT:cO P E.T)(hR:Rel N E.np S0 w0 refs σ a w S γ):∀{os:List Bool}{rs:List ResultVar}{ts:List Nat}{vs:List RV}{ks:List Nat}{u:Ups},tX E σ os rs ts=some (vs,ks,u)->
  ∃zs,All2 (λ(r:ResultVar) z=>((match r with
   |.tmp t=>pure (a.tmps.getD t undef)
   |.cell x t=>do loadVar t (<-asAddr (a.tmps.getD x undef)):Sem Value)).run P w = .ok z w) rs zs/\
  FrzL E.np σ.bx u/\(∀k∈ks,(∃b,σ.bx k = .live b/\Uns b)/\parK E.np k=false)/\gC vs zs=(ks.filterMap λk=>blk (γ k))/\
   ∀S',dP S w S' w->Froz σ.bx γ S' w u->(∀k∈ks,∀g,blk (γ k)=some g->∀o,¬S' g o)->All2 (qQ S' w) vs zs
 |os,[],ts,vs,ks,u,h=>by
  simp[tX]at h;obtain⟨rfl,rfl,rfl⟩:=h;exact⟨[],trivial,.nil,by simp,rfl,λ_ _ _ _=>trivial⟩
 |os,r::rs,ts,vs,ks,u,h=>by
  simp only[tX]at h;split at h
  .rename_i c hc;split at h
   .rename_i v k1 u1 hv;split at h
    .rename_i ma k2 u2 lG;simp only[j5,j9]at h;obtain⟨rfl,rfl,rfl⟩:=h;obtain⟨z,hz,lx⟩:=Ml hT hR hc;obtain⟨f1,p1,n1,r1⟩:=jE9 hT hR (Dh (RdR.msk λ_=> .inl rfl)) hv lx;obtain⟨zs,kM,f2,p2,n2,r2⟩:=Vs hT hR lG;refine⟨z::zs,⟨hz,kM⟩,FrzL.app.2 ⟨f1,f2⟩,λk hk=>?_,?_,λS' aM fB hn=>?_⟩
     .rcases jn.1 hk with hk|hk
      .exact p1 k hk
      .exact p2 k hk
     .simp[gC,n1,n2]
     .obtain⟨g1,g2⟩:=Froz.app.1 fB;exact⟨r1 S' aM g1 (λk hk=>hn k (by simp[hk])),r2 S' aM g2 (λk hk=>hn k (by simp[hk]))⟩
    .simp at h
   .simp at h
  .simp at h
theorem Mm(hR:Rel N np S0 w0 refs σ a w S γ):∀{as:List Arg}{us:List Value}{i:Nat}{os:List Out}{u:Ups},outs np σ i as=some (os,u)->as.length=us.length->
  (∀(j:Nat)(x:Arg)(v:Value),as[j]? = some x->us[j]? = some v->yY x=true->γ ((i+j)*64)=v)->
  FrzL np σ.bx u/\∀S',dP S w S' w->Froz σ.bx γ S' w u->(∀(j:Nat)(x:Arg)(v:Value)(g:Nat),as[j]? = some x->us[j]? = some v->yY x=true->(∃b,σ.bx ((i+j)*64) = .live b/\Uns b)->blk v=some g->∀o,¬S' g o)->mh S' w as us os
 |[],us,i,os,u,h,hl,_=>by
  simp[outs]at h;obtain⟨rfl,rfl⟩:=h;cases us with
  |nil=>exact⟨.nil,λ_ _ _ _=>trivial⟩
  |cons _ _=>simp at hl
 |x::as,[],i,os,u,h,hl,_=>by simp at hl
 |x::as,v::us,i,os,u,h,hl,hg=>by
  simp only[outs]at h;split at h
  .rename_i qS u' h'
   obtain⟨f1,r1⟩:=Mm hR (i:=i+1) h' (by simpa using hl) (λj y z hy hz hr=>by
    have:=hg (j+1) y z (by simpa using hy) (by simpa using hz) hr;rwa[show i+1+j=i+(j+1) by omega])
   have eQ:∀S',dP S w S' w->Froz σ.bx γ S' w u'->(∀(j:Nat)(x':Arg)(v':Value)(g:Nat),(x::as)[j]? = some x'->(v::us)[j]? = some v'->yY x'=true->(∃b,σ.bx ((i+j)*64) = .live b/\Uns b)->blk v'=some g->∀o,¬S' g o)->mh S' w as us qS:=by intro S' aM fB hn;refine r1 S' aM fB (λj y z g hy hz hr hb hgz=>?_);exact hn (j+1) y z g (by simpa using hy) (by simpa using hz) hr (by rwa[show i+(j+1)=i+1+j by omega]) hgz
   split at h
   .rename_i ls;have Mn:γ (i*64)=v:=hg 0 _ v rfl rfl rfl;split at h
    .rename_i ie hb;split at h
     .rename_i xs u2 hx;simp only[j5,j9]at h;obtain⟨rfl,rfl⟩:=h;obtain⟨g,cur,e,h1,h2,h3,_⟩:=hR.box _ _ hb;obtain⟨f2,r2⟩:=Be (Dh (RdR.msk λ_=> .inl rfl)) hx h3;refine⟨FrzL.app.2 ⟨f2,f1⟩,λS' aM fB hn=>?_⟩;obtain⟨g1,g2⟩:=Froz.app.1 fB;have Vt:v = .pointer (some ⟨g,0,none⟩):=by rw[<-Mn];exact h1
      exact⟨⟨g,cur,e,Vt,h2,by rw[GX h3 (r2 S' w aM g1)];exact r2 S' w aM g1,hn 0 _ v g rfl rfl rfl ⟨_,hb,.inl ⟨ie,rfl⟩⟩ (by rw[Vt];rfl)⟩,eQ S' aM g2 hn⟩
     .simp at h
    .simp at h
   .rename_i e y;have Mn:γ (i*64)=v:=hg 0 _ v rfl rfl rfl;split at h
    .rename_i e' t xs hb;split at h
     .rename_i dy;obtain⟨rfl,BH⟩:=dy;simp only[j5,j9]at h;obtain⟨rfl,rfl⟩:=h;have aU:=(hR.box _ _ hb).1;rw[Mn]at aU;refine⟨f1,λS' aM fB hn=>⟨⟨t,xs,rfl,aU.keep aM (λ_ _=>rfl),λg ar=>hn 0 _ v g rfl rfl rfl ⟨_,hb,.inr ⟨_,t,xs,rfl⟩⟩ ar⟩,BH.symm,eQ S' aM fB hn⟩⟩
     .simp at h
    .simp at h
   .rename_i Mo Mp;simp only[j5,j9]at h;obtain⟨rfl,rfl⟩:=h;refine⟨f1,λS' aM fB hn=>?_⟩;have:=eQ S' aM fB hn;cases x with
    |ref ls=>exact absurd rfl (Mo ls)
    |rl e y=>exact absurd rfl (Mp e y)
    |_=>exact this
  .simp at h
theorem Vu{x:Arg}{u:Value}{g:Nat}(h:oT S w x u)(hr:lK x u=some g):∀o,¬S g o:=by
 cases x with
 |ref ls=>obtain⟨g',cur,e,h1,_,_,h4⟩:=h;have ui:blk u=some g:=hr;rw[h1]at ui;simp[blk]at ui;subst ui;exact h4
 |rl e y=>obtain⟨t,xs,_,_,h4⟩:=h;exact h4 g hr
 |mv e y=>obtain⟨⟨t,xs,_,_,h4⟩,_⟩:=h;exact h4 g hr
 |_=>simp[lK]at hr
theorem Mq:∀{as:List Arg}{us:List Value}{g:Nat},g∈eI as us->∃(i:Nat)(x:Arg)(u:Value),as[i]? = some x/\us[i]? = some u/\lK x u=some g
 |[],_,_,h=>by simp[eI]at h
 |_::_,[],_,h=>by simp[eI]at h
 |x::as,u::us,g,h=>by
  simp only[eI,jn,Option.mem_toList]at h;rcases h with h|h
  .exact⟨0,x,u,rfl,rfl,h⟩
  .obtain⟨i,y,v,h1,h2,h3⟩:=Mq h;exact⟨i+1,y,v,by simpa using h1,by simpa using h2,h3⟩
theorem Vv(zs:List Value):(if h:zs.toArray.size=1 then zs.toArray[0] else .tuple zs.toArray)=tw zs:=by
 match zs with
 |[]=>rfl
 |[z]=>rfl
 |z::z'::zs=>simp[tw]
theorem jAw{P:Program}{E:Env}(hT:cO P E.T)(hR:Rel N np S0 w0 refs σ a w S γ){rs:List ResultVar}{vs ma:List RV}{zs:List Value}
  (kM:All2 (λ(r:ResultVar) z=>((match r with
   |.tmp t=>pure (a.tmps.getD t undef)
   |.cell x t=>do loadVar t (<-asAddr (a.tmps.getD x undef)):Sem Value)).run P w = .ok z w) rs zs) (h:nilV E σ rs vs=some ma) :
  (∀S' w',All2 (qQ S' w') vs zs->All2 (qQ S' w') ma zs)/\gC ma zs=gC vs zs/\∀m,ma=[.hd m]->vs=[.hd m]:=by
 unfold nilV at h;split at h
 .simp only[j5]at h;subst h;exact⟨λ_ _ h=>h,rfl,λ_ h=>h⟩
 .split at h
  .rename_i r x;split at h
   .rename_i ls hc;split at h
    .rename_i hn;simp only[j5]at h;subst h;obtain⟨z,hz,lx⟩:=Ml hT hR hc;cases zs with
     |nil=>exact kM.elim
     |cons z' zs=>
      cases zs with
      |cons _ _=>exact kM.2.elim
      |nil=>
       have uf:z'=z:=by have h1:=hz.symm.trans kM.1;simp only[Result.ok.injEq]at h1;exact h1.1.symm
       subst uf;obtain⟨cs,hu,au,_⟩:=lx;refine⟨λS' w' hv=>⟨⟨hv.1,λC7 oh i hi z hzi=>?_⟩,trivial⟩,rfl,λm hm=>by simp at hm⟩;rw[hu]at oh;simp only[Value.agg.injEq]at oh;subst oh;have hl:=jy.1 hn i hi;cases Mr:ls[i]? with
       |none=>rw[Mr]at hl;simp at hl
       |some l=>rw[Mr]at hl;obtain⟨z2,Ms,qP⟩:=au.get i l Mr;rw[hzi]at Ms;simp only[j5]at Ms;subst Ms;cases l<;>first|exact qP|simp at hl
    .simp at h
   .simp at h
  .simp at h
theorem jpg{E:Env}{os:List Bool}{rs:List ResultVar}{ts:List Nat}{vs:List RV}{ks:List Nat}{u:Ups}(h:tX E σ os rs ts=some (vs,ks,u))(m:Nat):vs≠[.hd m]:=by
 cases rs with
 |nil=>simp[tX]at h;rw[<-h.1];simp
 |cons r rs=>
  simp only[tX]at h;split at h
  .split at h
   .rename_i v k1 u1 hv;split at h
    .simp only[j5,j9]at h;rw[<-h.1];intro he;have:v = .hd m:=by simpa using (List.cons.inj he).1
     subst this;unfold rvOf at hv;split at hv
     .split at hv
      .split at hv<;>simp at hv
      .simp at hv
     .simp at hv
     .split at hv
      .split at hv
       .split at hv
        .split at hv
         .simp at hv
         .split at hv<;>simp at hv
         .simp at hv
        .split at hv<;>simp at hv
       .simp at hv
      .simp at hv
    .simp at h
   .simp at h
  .simp at h
theorem jEa{P:Program}{E:Env}(hT:cO P E.T){fn:Func}{args:List Arg}{vals:List Value}{σ':St}{a':Go.Act}{w':World}{S':aP}{γ':Nat->Value}(hR:Rel N E.np S w (qY args vals) σ' a' w' S' γ')
  (ha:All2 (oT S w) args vals)(hS:∀g o,S g o->g<w.heap.size)(sd:E.hd=true){ret:Ret}(cW:xC E fn args σ'=some ret){R:Type}{k:Ret->Option R}{r:R}(hk:k ret=some r) :
  ∃v,(results fn a'.tmps).run P w' = .ok v w'/\∃ret,k ret=some r/\∃v' S' vs,Ending.returned v = .returned v'/\KY w S args vals ret v' w' S' vs:=by
 have fm:∀(j:Nat)(x:Arg)(v:Value),args[j]? = some x->vals[j]? = some v->yY x=true->γ' ((0+j)*64)=v:=by intro j x v hx hv hr;refine(hR.par ((0+j)*64) v ?_).2.2;simp only[qY,D2];rw[if_pos (by omega),ym _ (by omega),kg,hx];simp[hr,hv]
 unfold xC at cW;rw[if_pos sd]at cW;unfold S7 at cW;split at cW
 .rename_i e x as r0 mM;split at cW
  .rename_i l os u' hc qR;split at cW
   .rename_i m hm;simp only[j5]at cW;subst cW;obtain⟨z,hz,lx⟩:=Ml (P:=P) hT hR hc;obtain⟨f2,r2⟩:=Mm hR qR ha.length fm;obtain⟨S2,cH,cM,rN,dS⟩:=qM u' σ' S' hR f2;cases vals with
    |nil=>exact ha.elim
    |cons v0 vs0=>
    have h0:γ' 0=v0:=by have:=fm 0 _ v0 rfl rfl rfl;simpa using this
    have lL:∀k,parK E.np k=true->u'.any (λy=>y.1==k)=false:=by intro k hk;rw[z7];intro y hy he;simp only[vj]at he;have:=(f2 y hy).1;rw[he,hk]at this;simp at this
    have pD:∀k b,u'.any (λy=>y.1==k)=false->σ'.bx k = .live b->Uns b->∀g,blk (γ' k)=some g->∀o,¬S2 g o:=by
     intro k b hk hb mB g hg o;have gG:(σ'.upd u').bx k = .live b:=(oL _ _ hk).trans hb;have cL:=cH.box k b gG;rcases mB with⟨ls,rfl⟩|⟨e,t,xs,rfl⟩
     .obtain⟨g',cur,e,ar,_,_,_,hS,_⟩:=cL;rw[ar]at hg;simp[blk]at hg;subst hg;exact hS rfl o
     .exact(cL.2 g hg).1 rfl o
    have fF:=r2 S2 cM rN (λj x v g hx hv hr Mt hg=>by
     obtain⟨b,hb,hu⟩:=Mt;have hp:parK E.np ((0+j)*64)=true:=by refine(hR.par ((0+j)*64) v ?_).1;simp only[qY,D2];rw[if_pos (by omega),ym _ (by omega),kg,hx];simp[hr,hv]
     exact pD ((0+j)*64) b (lL _ hp) hb hu g (by rw[fm j x v hx hv hr];exact hg))
    have dR:One z:=lx.2 (by rintro rfl;simp[hdOf]at hm)
    have rR:∃ad len cap,v0 = .slice ad len cap/\m<=len/\z = .slice ad m cap:=by
     unfold hdOf at hm;split at hm
     .split at hm
      .rename_i e1 t1 KT hb;split at hm
       .simp at hm
       .rename_i cb;simp only[j5]at hm;subst hm;obtain⟨css,aU,_⟩:=jH (by simpa using cb) (hR.box 0 _ hb);have uf:=lx.1.2.2 _ hb;rcases aU.2 with⟨hg,hn⟩|⟨g,cap,cur,hg,_⟩
        .exact⟨none,0,0,by rw[<-h0,hg],by omega,by rw[uf,hg,hn]⟩
        .exact⟨_,_,cap,by rw[<-h0,hg],js _,by rw[uf,hg]⟩
      .simp at hm
     .split at hm
      .rename_i i e1 t1 KT hb;simp only[j5]at hm;subst hm;obtain⟨_,hi,ad,cap,hg,uf⟩:=lx.1.2.2 _ hb;exact⟨ad,_,cap,by rw[<-h0,hg],hi,uf⟩
      .simp at hm
     .simp at hm
    have aL:(results fn a'.tmps).run P w' = .ok (tw [z]) w':=by
     have hm:=Mk (P:=P) (w:=w') (rs:=[r0]) (zs:=[z]) (λr=>((match r with
      |.tmp t=>pure (a'.tmps.getD t undef)
      |.cell x t=>do loadVar t (<-asAddr (a'.tmps.getD x undef)):Sem Value))) ⟨hz,trivial⟩
     unfold results;rw[Array.mapM_eq_mapM_toList,mM];simp only[Sem.run_bind,Sem.run_map]
     erw [hm]
     simp only[Result.andThen_ok,Sem.run_pure];exact jq (Result.ok · w') (Vv [z])
    refine⟨tw [z],aL,⟨[.hd m],os⟩,hk,tw [z],S2,[z],rfl,⟨rfl,⟨dR,trivial⟩,λg hg=>by simp[gC,nj]at hg,by simp[gC,nj],fF,λg o hs=>⟨cH.ext g o hs,?_⟩,λg o h=>(cH.new g o h).imp id (λh=>h.imp id And.left),cH.here,cH.below,cH.grow,cH.os,cH.tape,cH.output,?_⟩⟩
    .refine World.cell?_of_block (cH.below g (hS g o hs) (λhm=>?_));obtain⟨i,x,v,hx,hv,hb⟩:=Mq hm;obtain⟨v',gI,Mu⟩:=ha.get i x hx;rw[hv]at gI;simp at gI;subst gI;exact Vu Mu hb o hs
    .intro m' mF;have:m'=m:=by simpa using mF.symm
     subst this;obtain⟨ad,len,cap,h1,h2,h3⟩:=rR;exact⟨ad,len,cap,by rw[h1];rfl,h2,by rw[h3]⟩
   .simp at cW
  .simp at cW
 .simp at cW
theorem Mv{P:Program}{fn:Func}{n:Nat}{R:Ending->World->Prop}:∀(ds:List Deferred){refs:Refs}{σ:St}{a:Go.Act}{w:World}{S:aP}{γ:Nat->Value},refs.ds=ds->yN w0 refs->Rel N np S0 w0 refs σ a w S γ->
  (∀w2,Rel N np S0 w0 ⟨refs.blks,refs.val,[],λ_=>none,λ_=>none,refs.mv⟩ σ { a with defers:=[] } w2 S γ->LeavesIn (FR none) n P fn a.tmps R [] .returning w2)->LeavesInM (FR none) n P fn a.tmps R ds .returning w
 |[],refs,σ,a,w,S,γ,hd,hm,hR,h=>h w (hR.swap rfl rfl hR.size rfl hR.slot (λg o h=>by simp at h) (λi v h=>by simp at h))
 |d::ds,refs,σ,a,w,S,γ,hd,hm,hR,h=>by
  obtain⟨fA,au⟩:=hm;rw[hd]at fA;obtain⟨D,rfl,h1,h2⟩:=au d (by rw[hd];simp);refine⟨by simp,.inl ⟨D,_,rfl,run_takeDeferred (hR.kept D _ h2).1,?_⟩⟩;have bE:=hR.putO (o':= .deferred none) h2 h1 rfl rfl
  have cH:=bE.swap (a':={ a with defers:=ds }) (refs':=⟨refs.blks,refs.val,ds,λg=>if g=D then none else refs.kw g,refs.fix,refs.mv⟩) rfl rfl hR.size rfl bE.slot (λg o hg=>bE.kept g o (by
   simp only at hg ⊢;split at hg
   .simp at hg
   .rename_i e;rw[if_neg e];exact hg)) bE.fix
  refine Mv (a:={ a with defers:=ds }) (refs:=⟨refs.blks,refs.val,ds,λg=>if g=D then none else refs.kw g,refs.fix,refs.mv⟩) ds rfl ⟨(qb.1 fA).2,λd' gx=>?_⟩ cH (λw2 hw=>h w2 hw);obtain⟨D',rfl,q1,q2⟩:=au d' (by rw[hd];simp[gx]);refine⟨D',rfl,q1,?_⟩;show (if D'=D then none else refs.kw D')=_;rw[if_neg,q2]
  rintro rfl
  exact(qb.1 fA).1 gx
theorem Vw{P:Program}{E:Env}(hT:cO P E.T)(hC:jJ P E.C)(hF:CFun E.C)(gQ:P.follows .mixedOrders=true){f:Nat}{fn:Func}{c:Code}(hf:P.funcs[f]? = some fn)(hb:fn.body=some c)(hN:fn.ntmps=E.N.n)(lR:E.N.pin=λ_=>false)(iC:∀f t,E.bw f=some t->BwK P f t)(sj:E.np<=E.N.n)
  (cb : (fn.name == "runtime.NumGoroutine") = false) (hL : ∀ x ∈ fQ 0 c, DD E x.1 x.2 ∧ MrOK E x.1 x.2) : FnOK P f (fun args _ k => tY E fn args k) := by
 intro args R k r h;refine⟨⟨fn,hf,by rw[hb];rfl,cb⟩,?_⟩;intro w S vals ha fA hS;by_cases hlen:args.length=E.np
 case neg=>simp[tY,hlen]at h
 case pos=>
 simp only[tY,hb,hlen,if_true]at h;have wq:vals.length=E.np:=by rw[<-ha.length,hlen]
 obtain⟨hR0,iS⟩:=jAv (N:=E.N) ha fA hS hlen sj;refine jCW (n:=0) (ro:=none) (callsIn_of_wp_marks hf hb trivial ?_);rw[hN];refine wpIn_mono (jwk gQ c (ro:=none) hT hC hF iC (.inr ⟨rfl,lR⟩) 0 0 ⟨v6,λd hd=>by simp[qY]at hd⟩ hL hR0 iS h) ?_
 rintro e a0 w1 ⟨refs',ex,σ',S',γ',hle,_,rfl,bE,gy,hk⟩
 have fp:∀(hk:(match xC E fn args σ' with|some r=>k r|none=>none)=some r)(w':World),Rel E.N E.np S w ⟨refs'.blks,refs'.val,[],λ_=>none,λ_=>none,refs'.mv⟩ σ' { a0 with defers:=[] } w' S' γ'->∃v,(results fn a0.tmps).run P w' = .ok v w'/\
   ∃ret,k ret=some r/\∃v' S' vs,Ending.returned v = .returned v'/\KY w S args vals ret v' w' S' vs:=by
  intro hk w' hR;have hR:Rel E.N E.np S w (qY args vals) σ' { a0 with defers:=[] } w' S' γ':=hR.swap hle.blks.symm hle.val.symm hR.size rfl hR.slot (λg o h=>by simp[qY]at h) (λi v h=>by simp[qY]at h) hle.mv.symm;generalize BI:({ a0 with defers:=[] }:Go.Act)=a' at hR;have pE:a0.tmps=a'.tmps:=by rw[<-BI]
  rw[pE];cases cW:xC E fn args σ' with
  |none=>simp[cW]at hk
  |some ret=>
  simp only[cW]at hk;by_cases sd:E.hd=true
  .exact jEa hT hR ha hS sd cW hk
  have yZ:∃vs ks u os u',tX E σ' E.ro fn.results.toList fn.resultTypes.toList=some (vs,ks,u)/\outs E.np σ' 0 args=some (os,u')/\
    qF ks=true/\(u++u').all (λe=> !ks.contains e.1)=true/\∃ma,nilV E σ' fn.results.toList vs=some ma/\ret=⟨ma,os⟩:=by
   unfold xC at cW;rw[if_neg sd]at cW;split at cW
   .rename_i vs ks u os u' lG qR;split at cW
    .rename_i dy;split at cW
     .rename_i ma zA;simp only[j5]at cW;simp only[jc]at dy;exact⟨vs,ks,u,os,u',lG,qR,dy.1,dy.2,ma,zA,cW.symm⟩
     .simp at cW
    .simp at cW
   .simp at cW
  obtain⟨vs,ks,u,os,u',lG,qR,tj,x9,ma,zA,rfl⟩:=yZ;obtain⟨zs,kM,f1,p1,n1,r1⟩:=Vs hT hR lG;have fo:(∀S' w',All2 (qQ S' w') vs zs->All2 (qQ S' w') ma zs)/\gC ma zs=gC vs zs/\∀m,ma=[.hd m]->vs=[.hd m]:=jAw hT hR kM zA;have fm:∀(j:Nat)(x:Arg)(v:Value),args[j]? = some x->vals[j]? = some v->yY x=true->γ' ((0+j)*64)=v:=by intro j x v hx hv hr;refine(hR.par ((0+j)*64) v ?_).2.2;simp only[qY,D2];rw[if_pos (by omega),ym _ (by omega),kg,hx];simp[hr,hv]
  obtain⟨f2,r2⟩:=Mm hR qR ha.length fm;obtain⟨S2,cH,cM,rN,dS⟩:=qM (u++u') σ' S' hR (FrzL.app.2 ⟨f1,f2⟩);obtain⟨Mw,Mx⟩:=Froz.app.1 rN
  have pD:∀k b,(u++u').any (λy=>y.1==k)=false->σ'.bx k = .live b->Uns b->∀g,blk (γ' k)=some g->∀o,¬S2 g o:=by
   intro k b hk hb mB g hg o;have gG:(σ'.upd (u++u')).bx k = .live b:=(oL _ _ hk).trans hb;have cL:=cH.box k b gG;rcases mB with⟨ls,rfl⟩|⟨e,t,xs,rfl⟩
   .obtain⟨g',cur,e,ar,_,_,_,hS,_⟩:=cL;rw[ar]at hg;simp[blk]at hg;subst hg;exact hS rfl o
   .exact(cL.2 g hg).1 rfl o
  have uT:∀k∈ks,(u++u').any (λy=>y.1==k)=false:=by intro k hk;rw[z7];intro y hy he;have:=jy.1 x9 y hy;simp only[vj]at he;rw[he]at this;simp[hk]at this
  have lL:∀k,parK E.np k=true->(u++u').any (λy=>y.1==k)=false:=by intro k hk;rw[z7];intro y hy he;simp only[vj]at he;have:=(FrzL.app.2 ⟨f1,f2⟩ y hy).1;rw[he,hk]at this;simp at this
  have D6:=r1 S2 cM Mw (λk hk g hg=>by
   obtain⟨⟨b,hb,hu⟩,_⟩:=p1 k hk;exact pD k b (uT k hk) hb hu g hg)
  have fF:=r2 S2 cM Mx (λj x v g hx hv hr Mt hg=>by
   obtain⟨b,hb,hu⟩:=Mt;have hj:j<args.length:=(jx.1 hx).1;exact pD ((0+j)*64) b (lL _ (by simp[parK];omega)) hb hu g (by rw[fm j x v hx hv hr];exact hg))
  have aL:(results fn a'.tmps).run P w' = .ok (tw zs) w':=by
   have hm:=Mk (P:=P) (w:=w') _ kM;unfold results;rw[Array.mapM_eq_mapM_toList];simp only[Sem.run_bind,Sem.run_map]
   erw [hm]
   simp only[Result.andThen_ok,Sem.run_pure];exact jq (Result.ok · w') (Vv zs)
  have hnh:∀m,ma=[.hd m]->∃ad len cap,Hg args vals=some (.slice ad len cap)/\m<=len/\zs=[.slice ad m cap]:=λm hm=>by
   exact absurd (fo.2.2 m hm) (jpg lG m)
  refine⟨tw zs,aL,⟨ma,os⟩,hk,tw zs,S2,zs,rfl,⟨rfl,fo.1 _ _ D6,λg hg=>?_,?_,fF,λg o hs=>⟨cH.ext g o hs,?_⟩,λg o h=>(cH.new g o h).imp id (λh=>h.imp id And.left),cH.here,cH.below,cH.grow,cH.os,cH.tape,cH.output,hnh⟩⟩
  .rw[fo.2.1,n1]at hg;obtain⟨k,bK,hkg⟩:=v7.1 hg;obtain⟨⟨b,hb,_⟩,hp⟩:=p1 k bK;rcases hR.own k b g hb hkg with h|h
   .exact h.imp id And.left
   .rw[hp]at h;simp at h
  .rw[fo.2.1,n1];exact KZ hR (C0 tj) (λk bK=>by obtain⟨⟨b,hb,_⟩,_⟩:=p1 k bK;exact⟨b,hb⟩)
  .refine World.cell?_of_block (cH.below g (hS g o hs) (λhm=>?_));obtain⟨i,x,v,hx,hv,hb⟩:=Mq hm;obtain⟨v',gI,Mu⟩:=ha.get i x hx;rw[hv]at gI;simp at gI;subst gI;exact Vu Mu hb o hs
 cases ex with
 |exit i=>simp at hk
 |normal=>exact Mv a0.defers bE.defers.symm hle.marks bE (λw2 hw=>fp hk w2 hw)
 |ret=>exact Mv a0.defers bE.defers.symm hle.marks bE (λw2 hw=>fp hk w2 hw)
end
section
variable{E:Env}
def LFun(L:Nat->Snap->(R:Type)->(Ex->Snap->Option R)->Option R):Prop:=
 ∀b s,∃o:Option (Ex×Snap),∀(R:Type)(k:Ex->Snap->Option R),L b s R k=o.bind λx=>k x.1 x.2
def MFun(M:Nat->Snap->(R:Type)->(Snap->Option R)->Option R):Prop:=∀b s,∃o:Option Snap,∀(R:Type)(k:Snap->Option R),M b s R k=o.bind k
def Det{α:Type}(f:(R:Type)->(α->Option R)->Option R):Prop:=∃o:Option α,∀(R:Type)(k:α->Option R),f R k=o.bind k
theorem Det.val{α:Type}(x:α):Det (λ_ k=>k x):=⟨some x,λ_ _=>rfl⟩
theorem Det.no{α:Type}:Det (λR (_:α->Option R)=>none):=⟨none,λ_ _=>rfl⟩
theorem Det.cond{α:Type}{f g:(R:Type)->(α->Option R)->Option R}(b:Bool)(h:Det f)(h':Det g):Det (λR k=>cond b (f R k) (g R k)):=by
 cases b with
 |true=>exact h
 |false=>exact h'
theorem Det.bind{α β:Type}{f:(R:Type)->(α->Option R)->Option R}{g:α->(R:Type)->(β->Option R)->Option R}(h:Det f)(h':∀a,Det (g a)):Det (λR k=>f R λa=>g a R k):=by
 obtain⟨o,ho⟩:=h;cases o with
 |none=>exact⟨none,λR k=>ho R _⟩
 |some a=>obtain⟨o',yI⟩:=h' a;exact⟨o',λR k=>(ho R _).trans (yI R k)⟩
theorem Det.congr{α:Type}{f g:(R:Type)->(α->Option R)->Option R}(h:Det f)(e:∀R k,g R k=f R k):Det g:=by
 obtain⟨o,ho⟩:=h;exact⟨o,λR k=>(e R k).trans (ho R k)⟩
theorem HK(hF:CFun E.C)(hz:E.nz=false)(p:Bool)(σ:St)(act:List (Nat×Bool))(o:Oper):Det (λR (k:St->Option R)=>run1 E p σ act o k):=by
 unfold run1;simp only[hz,j7];split
 .exact .no
 .exact .cond _ (.val _) .no
 .rename_i f args mk _;refine Det.bind (f:=λR k=>E.C f args R k) (hF f args) λret=>?_;split
  .exact .val _
  .exact .no
theorem Vx:∀(l:List (Nat×Bool))(σ:St),Det (λR (k:St×Bool->Option R)=>vV l σ λa b=>k (a,b))
 |[],σ=> .val _
 |(s,w)::r,σ=>by
  simp only[vV]
  refine(Det.bind (Vx r σ) (g:=λx R k=>match x.2 with
   |true=>match Ki r x.1 s with
    |some v=>cond v (k (x.1.setS s (.one (.one (.d .bool true))),w)) (k (x.1.setS s (.one (.one (.d .bool false))), !w))
    |none=>none
   |false=>k (x.1,false)) λx=>?_).congr λR k=>rfl
  obtain⟨σ1,a⟩:=x;cases a with
  |true=>
   dsimp only
   split
   .exact .cond _ (.val _) (.val _)
   .exact .no
  |false=>exact .val _
theorem jy2(hF:CFun E.C)(hz:E.nz=false)(ops:Array Oper)(σ:St)(o:Oper):Det (λR (k:St->Option R)=>Cq E ops σ o k):=by
 unfold Cq;split
 .split
  .exact HK hF hz _ _ _ _
  .exact .no
 .rename_i g _
  have rz:Det (λR (k:St->Option R)=>vV (σ.chain 40 g) σ λσ' a=>match a with
    |true=>run1 E true σ' (σ.chain 40 g) o k
    |false=>k (σ'.put o.dst (.one (.one .dead)))):=by
   refine(Det.bind (Vx (σ.chain 40 g) σ) (g:=λx R k=>match x.2 with
    |true=>run1 E true x.1 (σ.chain 40 g) o k
    |false=>k (x.1.put o.dst (.one (.one .dead)))) λx=>?_).congr λR k=>rfl
   obtain⟨σ1,a⟩:=x;cases a with
   |true=>exact HK hF hz _ _ _ _
   |false=>exact .val _
  dsimp only
  split
  .split
   .exact .cond _ (.val _) .no
   .exact rz
  .exact rz
theorem HM(hF:CFun E.C)(hz:E.nz=false):∀(l:List Oper)(σ:St),Det (λR (k:St->Option R)=>mZ E l σ k)
 |[],σ=> .val _
 |o::os,σ=>by
  simp only[mZ];split
  .exact Det.bind (HK hF hz false σ [] o) λσ'=>HM hF hz os σ'
  .exact .no
theorem Vy(hF:CFun E.C)(hz:E.nz=false)(ops:Array Oper):∀(l:List Oper)(σ:St),Det (λR (k:St->Option R)=>AH E ops l σ k)
 |[],σ=> .val _
 |o::os,σ=>by
  simp only[AH];split
  .exact Det.bind (jy2 hF hz ops σ o) λσ'=>Vy hF hz ops os σ'
  .exact .no
theorem jtd(hF:CFun E.C)(hz:E.nz=false)(ops:Array Oper)(σ:St):Det (λR (k:St->Option R)=>qG E ops σ k):=by
 unfold qG;split
 .exact HM hF hz _ _
 .exact Vy hF hz _ _ _
theorem Vz(hF:CFun E.C)(hz:E.nz=false)(σ:St)(o:Oper):Det (λR (k:St->Option R)=>runK E σ o k):=by
 unfold runK;split
 .rename_i c σ' _;exact .cond c (.val σ') .no
 .exact HK hF hz false σ [] o
theorem My(hF:CFun E.C)(hz:E.nz=false):∀(l:List Oper)(σ:St),Det (λR (k:St->Option R)=>tR E l σ k)
 |[],σ=> .val σ
 |[o],σ=>by
  simp only[tR];split
  .exact Vz hF hz σ o
  .exact .no
 |o::o2::os,σ=>by
  simp only[tR];split
  .split
   .split
    .exact .cond _ (My hF hz os _) .no
    .exact .no
   .exact Det.bind (Vz hF hz σ o) λσ'=>My hF hz (o2::os) σ'
  .exact .no
theorem jy3(hF:CFun E.C)(hz:E.nz=false)(ops:Array Oper)(σ:St):Det (λR (k:St->Option R)=>Cr E ops σ k):=by
 unfold Cr;split
 .exact My hF hz _ _
 .exact .no
theorem Mz(hF:CFun E.C)(hz:E.nz=false)(M Ai:List Nat)(σ:St)(o:Oper):Det (λR (k:St->Option R)=>runD E M Ai σ o k):=by
 unfold runD;split
 .exact .no
 .split
  .exact .cond _ (.val _) .no
  .exact .no
 .rename_i f args mk _;refine Det.bind (f:=λR k=>E.C f args R k) (hF f args) λret=>?_;split
  .split
   .exact .val _
   .exact .no
  .exact .no
theorem jwl(hF:CFun E.C)(hz:E.nz=false)(ops:Array Oper)(M Ai:List Nat)(σ:St)(o:Oper):Det (λR (k:St->Option R)=>Cu E ops M Ai σ o k):=by
 unfold Cu;split
 .exact Mz hF hz _ _ _ _
 .split
  .split
   .exact .cond _ (.cond _ (Mz hF hz _ _ _ _) (.val _)) (.cond _ (.val _) (Mz hF hz _ _ _ _))
   .exact .val _
   .exact .no
  .exact .no
theorem VA(hF:CFun E.C)(hz:E.nz=false)(ops:Array Oper)(cl:List Nat)(A:List (List Nat)):∀(l:List Oper)(i:Nat)(σ:St),Det (λR (k:St->Option R)=>AJ E ops cl A l i σ k)
 |[],_,σ=> .val _
 |o::os,i,σ=>by
  simp only[AJ];split
  .exact Det.bind (jwl hF hz ops _ _ σ o) λσ'=>VA hF hz ops cl A os (i+1) σ'
  .exact .no
theorem jrr(hF:CFun E.C)(hz:E.nz=false)(ops:Array Oper)(A:List (List Nat))(σ:St):Det (λR (k:St->Option R)=>Cv E ops A σ k):=by
 unfold Cv;split
 .exact VA hF hz _ _ _ _ _ _
 .exact .no
theorem jwm(hF:CFun E.C)(hz:E.nz=false)(hM:MFun E.M)(x y:Code)(σ:St):Det (λR (k:Ex×St->Option R)=>CB E x y σ λe σ'=>k (e,σ')):=by
 unfold CB;split
 .rename_i b _;split
  .split
   .refine .cond _ (Det.bind (HM hF hz _ σ) λσ1=>?_) .no;unfold mrGo;split
    .refine .cond _ ?_ .no;split
     .rename_i s _;obtain⟨o,ho⟩:=hM b s;exact Det.bind (f:=λR k=>E.M b s R k) ⟨o,λR k=>ho R _⟩ (g:=λs' R k=>k (Ex.normal,cJ E.np (E.keep b) s')) λz=> .val (Ex.normal,cJ E.np (E.keep b) z)
     .exact .no
    .exact .no
   .exact .no
  .exact .no
 .exact .no
theorem D7(hF:CFun E.C)(hz:E.nz=false)(hL:LFun E.L/\MFun E.M):∀(c:Code)(b:Nat)(σ:St),Det (λR (k:Ex×St->Option R)=>fV E b c σ λe σ'=>k (e,σ')):=by
 intro c;induction c with
 |skip=>intro b σ;exact .val _
 |region id ops draw=>
  intro b σ;cases draw with
  |true=>exact Det.bind (jrr hF hz ops (E.dw id) σ) λσ'=> .val (Ex.normal,σ')
  |false=>exact .cond _ (Det.bind (jy3 hF hz ops σ) λσ'=> .val (Ex.normal,σ')) (Det.bind (jtd hF hz ops σ) λσ'=> .val (Ex.normal,σ'))
 |seq x y r5 r6=>
  intro b σ;simp only[fV];refine .cond _ (jwm hF hz hL.2 x y σ) ?_
  refine(Det.bind (r5 b σ) (g:=λz R k=>match z.1 with
   |.normal=>fV E b y z.2 λe σ'=>k (e,σ')
   |e=>k (e,z.2)) λz=>?_).congr λR k=>by
    congr 1
    try (funext e σ';cases e<;>rfl)
  obtain⟨e,σ'⟩:=z;cases e with
  |normal=>exact r6 b σ'
  |exit i=>exact .val _
  |ret=>exact .val _
 |cond c x y r5 r6=>
  intro b σ;simp only[fV];split
  .exact .cond _ (r5 b σ) (r6 b σ)
  .exact .no
 |block id c ih=>
  intro b σ
  refine(Det.bind (ih id σ) (g:=λz R k=>match z.1 with
   |.exit i=>if i=id then k (.normal,z.2) else k (.exit i,z.2)
   |e=>k (e,z.2)) λz=>?_).congr λR k=>by
    simp only[fV];congr 1;try (funext e σ';cases e<;>rfl)
  obtain⟨e,σ'⟩:=z;cases e with
  |normal=>exact .val _
  |exit i=>
   dsimp only
   split
   .exact .val _
   .exact .val _
  |ret=>exact .val _
 |loop c ih=>
  intro b σ;simp only[fV];refine .cond _ .no ?_;split
  .rename_i s _;obtain⟨o,ho⟩:=hL.1 b s;exact Det.bind (f:=λR k=>E.L b s R λe s'=>k (e,s')) ⟨o,λR k=>ho R _⟩ (g:=λz R k=>k (z.1,cJ E.np (E.keepX b z.1) z.2)) λz=> .val _
  .exact .no
 |rangeFunc g ps x y _ _=>
  intro b σ;simp only[fV];split
  .split
   .rename_i kd _;split
    .rename_i s _;obtain⟨o,ho⟩:=hL.1 b (.s (.one (.d (.int .i64) (Cy kd (List.length _))))::s);exact Det.bind (f:=λR k=>E.L b _ R λe s'=>k (e,s')) ⟨o,λR k=>ho R _⟩ (g:=λz R k=>k (z.1,cJ E.np (E.keepX b z.1) z.2)) λz=> .val _
    .exact .no
   .exact .no
  .exact .no
 |scope c ih=>intro b σ;exact ih b σ
 |label l=>intro b σ;exact .val _
 |exit i=>intro b σ;exact .val _
 |ret=>intro b σ;exact .val _
 |_=>intro b σ;exact .no
theorem jte(hF:CFun E.C)(hz:E.nz=false)(hL:LFun E.L/\MFun E.M)(b:Nat)(g:Operand)(ps:Array Nat)(x y:Code)(s:Snap) :
  Det (λR (k:Option (List Item)×Ex×St->Option R)=>CC E b g ps x y s λp e σ'=>k (p,e,σ')):=by
 unfold CC;split
 .rename_i n s0;split
  .split
   .rename_i kd _;refine .cond _ (.val _) (.cond _ ?_ .no)
    refine(Det.bind (D7 (E:=E.rnd ps x y) hF hz hL x 0 _) (g:=λz R k=>match z.1 with
     |.normal=>fV (E.rnd ps x y) 0 y z.2 λe σ'=>k (some [.s (.one (.d (.int .i64) (Cz kd n)))],e,σ')
     |_=>none) λz=>?_).congr λR k=>by
      congr 1
      try (funext e σ';cases e<;>rfl)
    obtain⟨e,σ'⟩:=z;cases e with
    |normal=>exact Det.bind (D7 (E:=E.rnd ps x y) hF hz hL y 0 σ') λz=> .val (_,z)
    |exit i=>exact .no
    |ret=>exact .no
   .exact .no
  .exact .no
 .exact .no
theorem jwn(hF:CFun E.C)(hz:E.nz=false)(hL:LFun E.L/\MFun E.M)(b:Nat)(p:MrP)(m:Nat)(s:Snap)(v:Ty)(q:Int)(z:v.den):Det (λR (k:Snap->Option R)=>AP E b p m s v q z k):=by
 unfold AP;refine Det.bind (HM (E:=E.mrE p.it m) hF hz _ _) λσ1=>?_
 refine(Det.bind (D7 (E:=E.mrE p.it m) hF hz hL p.rest p.b6 σ1) (g:=λz R k=>cond (mrNx p.b6 z.1) (match iP E.np (E.keep b) z.2 with
  |some s'=>k s'
  |none=>none) none) λz=> .cond _ ?_ .no).congr λR k=>rfl
 split
 .exact .val _
 .exact .no
theorem jwo(hF:CFun E.C)(hz:E.nz=false)(hL:LFun E.L/\MFun E.M)(fn:Func)(args:List Arg):Det (λR (k:Ret->Option R)=>tY E fn args k):=by
 unfold tY;split
 .split
  .rename_i c _
   refine(Det.bind (D7 hF hz hL c 0 (St.init args)) (g:=λz R k=>match z.1 with
    |.exit _=>none
    |_=>match xC E fn args z.2 with
     |some r=>k r
     |none=>none) λz=>?_).congr λR k=>rfl
   obtain⟨e,σ'⟩:=z;cases e<;>dsimp only<;>(try split)<;>first|exact .no|exact .val _
  .exact .no
 .exact .no
end
end Go.Lft
