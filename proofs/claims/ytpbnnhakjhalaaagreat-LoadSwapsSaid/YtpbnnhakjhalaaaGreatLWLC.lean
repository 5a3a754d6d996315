/- D8: what HA do is what the nq says. -/
import Derived.Test.YtpbnnhakjhalaaaGreatLWLB
import Derived.Laws.Cover3
import Derived.RangeFuncNested
import Derived.OrdersIn
set_option linter.unusedVariables false
namespace Go.Lft
section
variable{N:NT}{np:Nat}{S0:aH}{w0:World}{refs:Refs}{σ:St}{a:Go.Act}{w:World}{S:aH}{γ:Nat->Value}
def dg(σ:St):Prop:=∀i,(σ.sl i).bare=true
theorem xY{d:Nat}(hd:d<a.tmps.size)(v:Value)(j:Nat):tm (a.put (some d) v) j=if j=d then v else tm a j:=by
 unfold tm Go.Act.put;by_cases h:j=d
 .subst h;simp[hd]
 .have h':d≠j:=λe=>h e.symm;simp[h,Array.getElem?_setIfInBounds_ne h']
theorem PJ{bx:Nat->BS}{d:Nat}(hd:d<a.tmps.size){v u:Value}{x:Slot}(h:gI S w γ bx (tm a) x u):gI S w γ bx (tm (a.put (some d) v)) (kill d x) u:=by
 cases x with
 |one c=>exact h
 |tup l=>exact h
 |und=>exact h
 |cnd s b c=>
  simp only[kill];split
  .exact⟨trivial,λh=>absurd rfl h⟩
  .rename_i aT;simp only[gI,xY hd,if_neg aT];exact h
theorem HN(dst:Option Nat)(v:Value):(a.put dst v).tmps.size=a.tmps.size:=by cases dst<;>simp[Go.Act.put]
theorem HO(dst:Option Nat)(v:Value):(a.put dst v).defers=a.defers:=by cases dst<;>rfl
theorem AG(hR:Rel N np S0 w0 refs σ a w S γ){dst:Option Nat}(hd:∀d,dst=some d->N.ok d){s:Slot}{v:Value}(hs:gI S w γ σ.bx (tm a) s v) :
  Rel N np S0 w0 refs (σ.put dst s) (a.put dst v) w S γ:=by
 cases dst with
 |none=>exact hR
 |some d=>
  have fJ:d<a.tmps.size:=by rw[hR.size];exact(hd d rfl).1
  refine⟨(HN _ _).trans hR.size,(HO _ _).trans hR.defers,λi=>?_,hR.box,hR.own,hR.apart,hR.ext,hR.new,hR.here,hR.below,hR.grow,hR.os,hR.tape,hR.output,hR.par,hR.kept,λi u h=>?_⟩
  .show gI S w γ σ.bx (tm (a.put (some d) v)) (kill d (if i=d then s else σ.sl i)) (tm (a.put (some d) v) i);rw[xY fJ];split
   .exact PJ fJ hs
   .exact PJ fJ (hR.slot i)
  .obtain⟨h1,h2⟩:=hR.fix i u h;refine⟨h1,?_⟩;show tm (a.put (some d) v) i=u;rw[xY fJ,if_neg]
   .exact h2
   .rintro rfl
    have:=(hd i rfl).2;rw[h1]at this;simp at this
theorem PK{d:Nat}{x:Slot}(h:x.bare=true):kill d x=x:=by cases x<;>first|rfl|simp[Slot.bare]at h
theorem D9(hR:Rel N np S0 w0 refs σ a w S γ)(hc:dg σ){dst:Option Nat}(hd:∀d,dst=some d->N.ok d){s:Slot}{v:Value}(hs:gI S w γ σ.bx (tm a) s v)(hb:s.bare=true) :
  Rel N np S0 w0 refs (σ.setD dst s) (a.put dst v) w S γ/\dg (σ.setD dst s):=by
 have he:σ.setD dst s=σ.put dst s:=by
  cases dst with
  |none=>rfl
  |some d=>
   simp only[St.setD,St.setS,St.put];congr 1;funext j;split
   .exact(PK hb).symm
   .exact(PK (hc j)).symm
 refine⟨he▸AG hR hd hs,λi=>?_⟩;cases dst with
 |none=>exact hc i
 |some d=>
  simp only[St.setD,St.setS];split
  .exact hb
  .exact hc i
theorem xZ{o:Oper}(h:l7 N o=true):∀d,o.dst=some d->N.ok d:=by
 intro d hd;simpa[l7,hd,NT.ok]using h
theorem PL{u:Ups}(h:dg σ):dg (σ.upd u):=by
 intro i;rw[tn];exact h i
theorem Ye{P:Program}{E:Env}(hT:cd P E.T)(hR:Rel E.N E.np S0 w0 refs σ a w S γ){o:Oper}{e:Bool}(h:nilT E σ o=some e) :
  ∃v b,(execOp a.eval o).run P w = .ok (.value v) w/\v = .bool b/\(b=true->e=true):=by
 unfold nilT at h;split at h
 .rename_i t x y ty bE;split at h
  .rename_i el xs ti hx hy zL;split at h
   .rename_i hl;simp only[j4]at h;subst h;have ex:=mR hR x;have ey:=mR hR y;rw[hx]at ex;rw[hy]at ey;obtain⟨ad,cap,dr,hlen,_,AH,_⟩:=ex.1;have HP:a.eval x = .slice ad (List.length xs) cap:=by simpa using dr
    have Yf:a.eval y = .slice none 0 0:=ey.1;obtain⟨a',bg⟩:=DJ hl;obtain⟨hd,_⟩:=l9 hT zL bg;refine⟨.bool ad.isNone,ad.isNone,?_,rfl,λhb=>?_⟩
    .simp only[execOp,bE,HP,Yf,eqGuard,binOp];simp[run_equal_slice_nil w t ti.elem ad (List.length xs) cap hd]
    .have:ad=none:=by cases ad<;>simp_all
     have:=AH this;have:List.length xs=0:=by omega
     cases xs with
     |nil=>rfl
     |cons=>simp at this
   .simp at h
  .simp at h
 .simp at h
theorem x8{P:Program}{E:Env}(hT:cd P E.T)(hC:kA P E.C)(hR:Rel E.N E.np S0 w0 refs σ a w S γ){act:List (Nat×Bool)}(aN:oW (tm a) act){p:Bool}
  (hc:p=false->dg σ){o:Oper}(hd:l7 E.N o=true){R:Type}{k:St->Option R}{r:R}(h:run1 E p σ act o k=some r){next:Go.Act->World->Prop}{Q:Exit->Go.Act->World->Prop}
  (hn:∀σ' a' w' S' γ',Rel E.N E.np S0 w0 refs σ' a' w' S' γ'->(p=false->dg σ')->k σ'=some r->next a' w'):o.wp P a w next Q:=by
 have hd:=xZ hd
 have dF:∀(u:Ups)(s:Slot)(v:Value)(w':World)(S':aH)(γ':Nat->Value),Rel E.N E.np S0 w0 refs (σ.upd u) a w' S' γ'->gI S' w' γ' (σ.upd u).bx (tm a) s v->s.bare=true->
   k (cond p ((σ.upd u).put o.dst s) ((σ.upd u).setD o.dst s))=some r->next (a.put o.dst v) w':=by
  intro u s v w' S' γ' cE hs hb hk;cases p with
  |true=>exact hn _ _ _ _ _ (AG cE hd hs) (by simp) hk
  |false=>obtain⟨h1,h2⟩:=D9 cE (PL (hc rfl)) hd hs hb;exact hn _ _ _ _ _ h1 (λ_=>h2) hk
 unfold run1 at h;split at h
 .rename_i e he
  have he:nilT E σ o=some e:=by
   cases hz:E.nz with
   |true=>rw[hz]at he;exact he
   |false=>rw[hz]at he;simp at he
  obtain⟨v,b,az,rfl,hb⟩:=Ye (P:=P) hT hR he;obtain⟨h1,h2⟩:=Wp h;unfold Oper.wp;rw[az,Oper.upon_value];cases b with
  |true=>exact dF [] (.one (.one (.d .bool true))) (.bool true) w S γ hR ⟨rfl,λ_=>rfl⟩ rfl (h2 (hb rfl))
  |false=>exact dF [] (.one (.one (.d .bool false))) (.bool false) w S γ hR ⟨rfl,λ_=>rfl⟩ rfl h1
 split at h
 .simp at h
 .rename_i iL s u ho;cases iL with
  |false=>simp at h
  |true=>
   obtain⟨⟨v,w',S',γ',az,cE,hs⟩,hb⟩:=HJ hT hR aN (λ_=> .inl rfl) ho;unfold Oper.wp;rcases az with az|⟨az,rfl⟩
   .rw[az,Oper.upon_value];exact dF u s v w' S' γ' cE hs hb h
   .rw[az,Oper.upon_skip];exact dF u s undef w' S' γ' cE hs hb h
 .rename_i f args mk ho;obtain⟨hf,dV⟩:=hC f args R _ r h;obtain⟨vals,az,mw,hb⟩:=PI hR aN (λ_=> .inl rfl) ho hf dV;unfold Oper.wp;rw[az,Oper.upon_enter];refine mw.mono ?_
  rintro e w' ⟨ret,hk,al⟩
  split at hk
  .rename_i s u bd;obtain⟨v,S',γ',rfl,cE,hs⟩:=al s u bd;exact dF u s v w' S' γ' cE hs (hb ret s u bd) hk
  .simp at hk
theorem PM{P:Program}{E:Env}(hT:cd P E.T)(hC:kA P E.C){ops:Array Oper}(cQ:bare ops=true){R:Type}{k:St->Option R}{r:R}{Q:Exit->Go.Act->World->Prop}
  (hn:∀σ' a' w' S' γ',Rel E.N E.np S0 w0 refs σ' a' w' S' γ'->dg σ'->k σ'=some r->Q .normal a' w') :
  ∀(n i:Nat)(σ:St)(a:Go.Act)(w:World)(S:aH)(γ:Nat->Value),i+n=ops.size->Rel E.N E.np S0 w0 refs σ a w S γ->dg σ->oa E (ops.toList.drop i) σ k=some r->
   wpOps P ops Q (List.range' i n) a w
 |0,i,σ,a,w,S,γ,hi,hR,hc,h=>by
  rw[jc (by simp;omega)]at h;exact hn _ _ _ _ _ hR hc h
 |n+1,i,σ,a,w,S,γ,hi,hR,hc,h=>by
  have au:i<ops.size:=by omega
  rw[jb (by simpa using au)]at h;simp only[oa]at h;split at h
  .rename_i hd;have ho:ops[i]? = some ops[i]:=jr au;simp only[vb,wpOps,ho];have hg:ops[i].guard=none:=by have:=jp.1 cQ ops[i] (by simp);simpa using this
   have hw:Region.wanted ops[i] (yielded ops a.tmps)=true:=by simp[Region.wanted,hg]
   simp only[hw,if_true];refine .inl (x8 hT hC hR (act:=[]) (λg hg=>by simp at hg) (p:=false) (λ_=>hc) (by simpa using hd) (by simpa using h) (λσ' a' w' S' γ' cE dp hk=>?_));exact PM hT hC cQ hn n (i+1) σ' a' w' S' γ' (by omega) cE (dp rfl) hk
  .simp at h
theorem Ea{ops:Array Oper}{o:Oper}{g:Nat×Bool}(h:nt ops o=some g):Region.wanted o (yielded ops a.tmps)=true↔tm a g.1 = .bool g.2:=by
 unfold nt at h;split at h
 .simp at h
 .rename_i j wn HQ;split at h
  .rename_i oj iV;split at h
   .rename_i s hs;simp only[j4]at h;subst h;simp only[Region.wanted,HQ,yielded,iV,j3,hs,tm];cases hq:a.tmps[s]? with
    |none=>
     have:a.tmps.getD s undef=undef:=by simp[hq]
     rw[this];simp[undef]
    |some v=>
     have:a.tmps.getD s undef=v:=by simp[hq]
     rw[this];cases v<;>simp
   .simp at h
  .simp at h
theorem HR(hR:Rel N np S0 w0 refs σ a w S γ):∀(n:Nat)(g:Nat×Bool),tm a g.1 = .bool g.2->oW (tm a) (σ.chain n g)
 |0,g,h=>by intro x hx;simp only[St.chain,kf]at hx;subst hx;exact h
 |n+1,g,h=>by
  simp only[St.chain];have hs:=hR.slot g.1;split
  .rename_i s b c hc;rw[hc]at hs
   have h2:tm a s = .bool b:=by
    rcases hs with hs|hs
    .exact hs.1
    .have:tm a g.1=undef:=hs.2;rw[h]at this;simp[undef]at this
   intro x hx;rcases jd.1 hx with rfl|hx
   .exact h
   .exact HR hR n (s,b) h2 x hx
  .intro x hx;simp only[kf]at hx;subst hx;exact h
theorem Yg:∀(n:Nat)(g:Nat×Bool),g∈σ.chain n g
 |0,g=>by simp[St.chain]
 |n+1,g=>by simp only[St.chain];split<;>simp
theorem PN(hR:Rel N np S0 w0 refs σ a w S γ):∀{l:List (Nat×Bool)}{b:Bool},actB σ l=some b->oW (tm a) l->b=true
 |[],b,h,_=>by simp[actB]at h;exact h
 |(s,wn)::r,b,h,ha=>by
  have ht:tm a s = .bool wn:=ha (s,wn) (by simp);simp only[actB]at h;split at h
  .rename_i v hv
   have Yh:v=wn:=by
    have hs:=hR.slot s;unfold gval at hv;split at hv
    .rename_i v' dU;simp only[j4]at hv;subst hv;rw[dU]at hs;have:tm a s = .bool v':=qO hs;rw[ht]at this;simpa using this.symm
    .rename_i s' b' v' dU;simp only[j4]at hv;subst hv;rw[dU]at hs;rcases hs with hs|hs
     .have:tm a s = .bool v':=qO hs.2;rw[ht]at this;simpa using this.symm
     .have:tm a s=undef:=hs.2;rw[ht]at this;simp[undef]at this
    .simp at hv
   subst Yh;split at h
   .simp only[j4]at h;rw[<-h];cases v<;>rfl
   .split at h
    .rename_i b2 dH;simp only[j4]at h;have:=PN hR dH (λg hg=>ha g (by simp[hg]));rw[<-h,this];cases v<;>rfl
    .simp at h
  .simp at h
theorem HS(hR:Rel N np S0 w0 refs σ a w S γ){s:Nat}{x:Slot}(h:gI S w γ σ.bx (tm a) x (tm a s)):Rel N np S0 w0 refs (σ.setS s x) a w S γ:=by
 refine⟨hR.size,hR.defers,λi=>?_,hR.box,hR.own,hR.apart,hR.ext,hR.new,hR.here,hR.below,hR.grow,hR.os,hR.tape,hR.output,hR.par,hR.kept,hR.fix⟩;simp only[St.setS];split
 .rename_i hi;subst hi;exact h
 .exact hR.slot i
theorem PO{R:Type}:∀(l:List (Nat×Bool)){σ:St}{k:St->Bool->Option R}{r:R},Rel N np S0 w0 refs σ a w S γ->sY l σ k=some r->
  ∃σ' b,Rel N np S0 w0 refs σ' a w S γ/\k σ' b=some r/\(b=true↔oW (tm a) l)
 |[],σ,k,r,hR,h=>⟨σ,true,hR,h,by simp[oW]⟩
 |(s,wn)::l,σ,k,r,hR,h=>by
  simp only[sY]at h;obtain⟨σ1,b1,bj,dD,cO⟩:=PO l hR h;cases b1 with
  |false=>
   refine⟨σ1,false,bj,dD,?_⟩;simp only[kn,false_iff]at cO ⊢
   exactλha=>cO (λg hg=>ha g (by simp[hg]))
  |true=>
   have tK:=cO.1 rfl;simp only at dD;split at dD
   .rename_i v hv
    have ht:tm a s = .bool v:=by
     have hs:=bj.slot s;unfold GB at hv;split at hv
     .rename_i v' dU;simp only[j4]at hv;subst hv;rw[dU]at hs;exact qO hs
     .rename_i s' b' v' dU;split at hv
      .rename_i hm;simp only[j4]at hv;subst hv;rw[dU]at hs;have gL:(s',b')∈l:=by simpa using hm
       have:=tK _ gL;rcases hs with hs|hs
       .exact qO hs.2
       .exact absurd this hs.1
      .simp at hv
     .simp at hv
    have AJ:∀b,b=v->Rel N np S0 w0 refs (σ1.setS s (.one (.one (.d .bool b)))) a w S γ:=by
     rintro b rfl
     refine HS bj ⟨?_,λ_=>?_⟩
     .show Rep S w .bool b [tm a s];rw[ht];rfl
     .rw[ht];rfl
    cases v with
    |true=>
     simp only[j5]at dD;refine⟨_,wn,AJ true rfl,dD,?_⟩;constructor
     .rintro rfl g hg
      rcases jd.1 hg with rfl|hg
      .exact ht
      .exact tK g hg
     .intro ha;have:=ha (s,wn) (by simp);rw[ht]at this;simpa using this.symm
    |false=>
     simp only[j6]at dD;refine⟨_, !wn,AJ false rfl,dD,?_⟩;constructor
     .intro hw g hg;have HT:wn=false:=by simpa using hw
      subst HT;rcases jd.1 hg with rfl|hg
      .exact ht
      .exact tK g hg
     .intro ha;have:=ha (s,wn) (by simp);rw[ht]at this;have:false=wn:=by simpa using this
      rw[<-this];rfl
   .simp at dD
theorem Yi{P:Program}{E:Env}(hT:cd P E.T)(hC:kA P E.C)(hR:Rel E.N E.np S0 w0 refs σ a w S γ){ops:Array Oper}{o:Oper}(hd:l7 E.N o=true)
  {R:Type}{k:St->Option R}{r:R}(h:yT E ops σ o k=some r){next:Go.Act->World->Prop}{Q:Exit->Go.Act->World->Prop}
  (hn:∀σ' a' w' S' γ',Rel E.N E.np S0 w0 refs σ' a' w' S' γ'->k σ'=some r->next a' w') :
  if Region.wanted o (yielded ops a.tmps) then o.wp P a w next Q\/(o.asks P a w/\LetsOut Q) else next (a.put o.dst undef) w:=by
 have rZ:=xZ hd;unfold yT at h;split at h
 .split at h
  .rename_i hg;have hw:Region.wanted o (yielded ops a.tmps)=true:=by simp[Region.wanted,hg]
   simp only[hw,if_true];exact .inl (x8 hT hC hR (act:=[]) (λg hg=>by simp at hg) (p:=true) (by simp) hd h (λσ' a' w' S' γ' cE _ hk=>hn σ' a' w' S' γ' cE hk))
  .simp at h
 .rename_i g hg;dsimp only at h;have ow:=Ea (a:=a) hg
  have tL:sY (σ.chain 40 g) σ (λσ' a=>match a with
    |true=>run1 E true σ' (σ.chain 40 g) o k
    |false=>k (σ'.put o.dst (.one (.one .dead))))=some r->
    if Region.wanted o (yielded ops a.tmps) then o.wp P a w next Q\/(o.asks P a w/\LetsOut Q) else next (a.put o.dst undef) w:=by
   intro hs;obtain⟨σ',b,cE,hk,hb⟩:=PO _ hR hs;cases b with
   |true=>have aN:=hb.1 rfl;have hw:=ow.2 (aN g (Yg 40 g));simp only[hw,if_true];exact .inl (x8 hT hC cE aN (p:=true) (by simp) hd hk (λσ' a' w' S' γ' cE _ hk=>hn σ' a' w' S' γ' cE hk))
   |false=>
    have hw:¬Region.wanted o (yielded ops a.tmps)=true:=λhw=>by
     have:=hb.2 (HR hR 40 g (ow.1 hw));simp at this
    simp only[hw];exact hn _ _ _ _ _ (AG cE rZ (s:= .one (.one .dead)) (v:=undef) ⟨trivial,λh=>absurd rfl h⟩) hk
  split at h
  .rename_i iL c ho;split at h
   .rename_i ab cG;by_cases hw:Region.wanted o (yielded ops a.tmps)=true
    .have aN:=HR hR 40 g (ow.1 hw);have:=PN hR cG aN;subst this;simp only[hw,if_true];cases iL with
     |false=>simp at h
     |true=>
      simp only[jn,Bool.or_false,j5]at h;obtain⟨⟨v,w',S',γ',az,cE,hs⟩,hb⟩:=HJ hT hR aN (λ_=> .inl rfl) ho;have kV:=AG cE rZ (s:= .cnd g.1 g.2 c) (v:=v) (.inl ⟨ow.1 hw,hs⟩);refine .inl ?_;unfold Oper.wp;rcases az with az|⟨az,rfl⟩
      .rw[az,Oper.upon_value];exact hn _ _ _ _ _ kV h
      .rw[az,Oper.upon_skip];exact hn _ _ _ _ _ kV h
    .simp only[hw]
     have hk:k (σ.put o.dst (.cnd g.1 g.2 c))=some r:=by
      cases hc:(iL || !ab) with
      |true=>rw[hc]at h;exact h
      |false=>rw[hc]at h;simp at h
     exact hn _ _ _ _ _ (AG hR rZ (s:= .cnd g.1 g.2 c) (v:=undef) (.inr ⟨λhh=>hw (ow.2 hh),rfl⟩)) hk
   .exact tL h
  .exact tL h
theorem Yj(hR:Rel N np S0 w0 refs σ a w S γ):Rel N np S0 w0 refs σ.clear a w S γ/\dg σ.clear:=by
 refine⟨⟨hR.size,hR.defers,λi=>?_,hR.box,hR.own,hR.apart,hR.ext,hR.new,hR.here,hR.below,hR.grow,hR.os,hR.tape,hR.output,hR.par,hR.kept,hR.fix⟩,λi=>?_⟩
 .have:=hR.slot i;simp only[St.clear];cases hs:σ.sl i with
  |one c=>rw[hs]at this;exact this
  |tup l=>rw[hs]at this;exact this
  |und=>rw[hs]at this;exact this
  |cnd s b c=>exact⟨trivial,λh=>absurd rfl h⟩
 .simp only[St.clear];cases σ.sl i<;>rfl
theorem PQ{P:Program}{E:Env}(hT:cd P E.T)(hC:kA P E.C){ops:Array Oper}{R:Type}{k:St->Option R}{r:R}{Q:Exit->Go.Act->World->Prop}
  (hn:∀σ' a' w' S' γ',Rel E.N E.np S0 w0 refs σ' a' w' S' γ'->dg σ'->k σ'=some r->Q .normal a' w') :
  ∀(n i:Nat)(σ:St)(a:Go.Act)(w:World)(S:aH)(γ:Nat->Value),i+n=ops.size->Rel E.N E.np S0 w0 refs σ a w S γ->xx E ops (ops.toList.drop i) σ k=some r->
   wpOps P ops Q (List.range' i n) a w
 |0,i,σ,a,w,S,γ,hi,hR,h=>by
  rw[jc (by simp;omega)]at h;obtain⟨h1,h2⟩:=Yj hR;exact hn _ _ _ _ _ h1 h2 h
 |n+1,i,σ,a,w,S,γ,hi,hR,h=>by
  have au:i<ops.size:=by omega
  rw[jb (by simpa using au)]at h;simp only[xx]at h;split at h
  .rename_i hd;have ho:ops[i]? = some ops[i]:=jr au;simp only[vb,wpOps,ho];exact Yi hT hC hR (by simpa using hd) (by simpa using h) (λσ' a' w' S' γ' cE hk=>PQ hT hC hn n (i+1) σ' a' w' S' γ' (by omega) cE hk)
  .simp at h
theorem PR{P:Program}{E:Env}(hT:cd P E.T)(hC:kA P E.C)(hR:Rel E.N E.np S0 w0 refs σ a w S γ)(hc:dg σ){ops:Array Oper}{R:Type}{k:St->Option R}{r:R}
  {Q:Exit->Go.Act->World->Prop}(hn:∀σ' a' w' S' γ',Rel E.N E.np S0 w0 refs σ' a' w' S' γ'->dg σ'->k σ'=some r->Q .normal a' w')(h:ob E ops σ k=some r) :
  wpOps P ops Q (List.range ops.size) a w:=by
 rw[List.range_eq_range'];unfold ob at h;split at h
 .rename_i hb;exact PM hT hC hb hn ops.size 0 σ a w S γ (by omega) hR hc (by simpa using h)
 .exact PQ hT hC hn ops.size 0 σ a w S γ (by omega) hR (by simpa using h)
end
section
variable{N:NT}{np:Nat}{S0:aH}{w0:World}{refs:Refs}{σ:St}{a:Go.Act}{w:World}{S:aH}{γ:Nat->Value}
theorem PS(hR:Rel N np S0 w0 refs σ a w S γ){k:Nat}{b b':Bx}(hk:σ.bx k = .live b)(og:ij b b')(dt:∀bx',BxLe γ σ.bx γ bx'->dS S w γ bx' k b') :
  Rel N np S0 w0 refs (σ.setB k (.live b')) a w S γ:=by
 have hle:BxLe γ σ.bx γ (σ.setB k (.live b')).bx:=by
  intro k' bf;by_cases h:k'=k
  .subst h;rw[er];exact⟨by simp,rfl,λx hx=>by simp at hx;subst hx;exact⟨b,hk,og⟩⟩
  .rw[cj σ _ h];exact⟨bf,rfl,λx hx=>⟨x,hx,.refl x⟩⟩
 have bA:∀k' x,(σ.setB k (.live b')).bx k' = .live x->∃x',σ.bx k' = .live x':=by
  intro k' x hx;by_cases h:k'=k
  .subst h;exact⟨b,hk⟩
  .rw[cj σ _ h]at hx;exact⟨x,hx⟩
 refine Rel.step (bx':=(σ.setB k (.live b')).bx) hR (.refl S w) hle ?_ ?_ ?_ hR.new hR.here hR.below hR.grow hR.os hR.tape hR.output (λg _ _ h=>⟨rfl,λk' b' aD=>by obtain⟨b2,dH⟩:=bA k' b' aD;exact h k' b2 dH⟩)
 .intro k' x hx;by_cases h:k'=k
  .subst h;rw[er]at hx;simp at hx;subst hx;exact dt _ hle
  .rw[cj σ _ h]at hx;exact dS.keep (.refl S w) hle rfl (λg hg=>⟨rfl,λ_=>Iff.rfl⟩) (hR.box k' x hx)
 .intro k' x g hx hg;obtain⟨x',lL⟩:=bA k' x hx;exact hR.own k' x' g lL hg
 .intro k1 k2 x1 x2 g aT h1 h2 hg;obtain⟨y1,Yk⟩:=bA k1 x1 h1;obtain⟨y2,HU⟩:=bA k2 x2 h2;exact hR.apart k1 k2 y1 y2 g aT Yk HU hg
theorem All2.set_left{α β:Type}{R:α->β->Prop}:∀{as:List α}{bs:List β},All2 R as bs->∀(i:Nat)(x:α)(b:β),bs[i]? = some b->R x b->All2 R (as.set i x) bs
 |[],[],_,i,x,b,hb,_=>by simp at hb
 |_::_,_::_,h,0,x,b,hb,hr=>by simp at hb;subst hb;exact⟨hr,h.2⟩
 |_::_,_::_,h,i+1,x,b,hb,hr=>⟨h.1,All2.set_left h.2 i x b (by simpa using hb) hr⟩
 |[],_::_,h,_,_,_,_,_=>h.elim
 |_::_,[],h,_,_,_,_,_=>h.elim
theorem HV:∀(l:List (Loc×Ty))(σ σ':St)(S:aH),Rel N np S0 w0 refs σ a w S γ->dg σ->xB np l σ=some σ'->∃S',Rel N np S0 w0 refs σ' a w S' γ/\dg σ'
 |[],σ,σ',S,hR,hc,h=>by simp[xB]at h;subst h;exact⟨S,hR,hc⟩
 |(l,t)::r,σ,σ',S,hR,hc,h=>by
  simp only[xB]at h;split at h
  .rename_i v u hv;have bu:=xX (np:=np) (σ:=σ) (rd:=mskM σ.bx) (RdR.msk λ_=> .inl rfl)
   suffices hs:∃S',Rel N np S0 w0 refs (uS (σ.upd u) l (.d t v)) a w S' γ/\dg (uS (σ.upd u) l (.d t v)) by
    obtain⟨S1,bj,fa⟩:=hs;exact HV r _ σ' S1 bj fa h
   cases l with
   |slot i=>
    cases dU:σ.sl i with
    |tup x=>simp only[ig,dU]at hv;simp[ix]at hv
    |cnd x y z=>simp only[ig,dU]at hv;simp[ix]at hv
    |und=>simp only[ig,dU]at hv;simp[ix]at hv
    |one c=>
     cases c with
     |st ls=>simp only[ig,dU]at hv;simp[ix]at hv
     |av n b xs=>simp only[ig,dU]at hv;simp[ix]at hv
     |one x=>
      simp only[ig,dU]at hv;have tM:=hR.slot i;rw[dU]at tM;obtain⟨eZ,hp⟩:=tp bu hR.box hv tM.1;obtain⟨S1,bj,cu,gj,_⟩:=mT u σ S hR eZ;have bk:=hp S1 w cu gj;refine⟨S1,?_,?_⟩
      .simp only[uS,tn,dU];exact HS bj ⟨bk,λ_=>Rep.one _ _ _ bk _ (kf.2 rfl)⟩
      .intro j;simp only[uS,tn,dU,St.setS];split
       .rfl
       .exact hc j
   |cell k c=>
    have my:ig σ (.cell k c) ≠ .dead:=λhd=>by rw[hd]at hv;simp[ix]at hv
    cases ew:σ.bx k with
    |free=>simp[ig,ew]at my
    |gone=>simp[ig,ew]at my
    |live b=>
     cases b with
     |lst e b xs f=>simp[ig,ew]at my
     |arr n b xs=>simp[ig,ew]at my
     |cell ls f=>
      cases f with
      |true=>simp[ig,ew]at my
      |false=>
       have hl:ig σ (.cell k c)=ls.getD c .dead:=by simp[ig,ew]
       rw[hl]at hv my;obtain⟨g,cur,e,h1,h2,h3,h4,h5,h6⟩:=hR.box k _ ew;cases hg:ls[c]? with
       |none=>simp[hg]at my
       |some x=>
        have Yl:ls.getD c .dead=x:=by simp[hg]
        rw[Yl]at hv;obtain⟨z,hz,Eb⟩:=h3.get c x hg;obtain⟨eZ,hp⟩:=tp bu hR.box hv Eb;obtain⟨S1,bj,cu,gj,dx⟩:=mT u σ S hR eZ;have bk:=hp S1 w cu gj;have sg:=dx.cell ew;refine⟨S1,?_,?_⟩
        .simp only[uS,sg];refine PS bj sg trivial (λbx' hle=>?_);obtain⟨g',gV,e',kJ,jY,tF,Ym,Yn,h6'⟩:=bj.box k _ sg;rw[h1]at kJ;simp at kJ;subst kJ;rw[h2]at jY;simp at jY;obtain⟨rfl,rfl⟩:=jY;exact⟨g,cur,e,h1,h2,by rw[zr];exact All2.set_left (tF.mono (λx u hx=>bn.keep (.refl S1 w) hle hx)) c (.d t v) z hz bk,by rw[zr];exact Ym,Yn,by simp⟩
        .intro j;simp only[uS,sg];show ((σ.upd u).sl j).bare=true;rw[tn];exact hc j
  .simp at h
theorem AK:∀(l:List nr)(σ σ':St)(S:aH),Rel N np S0 w0 refs σ a w S γ->dg σ->s5 np l σ=some σ'->∃S',Rel N np S0 w0 refs σ' a w S' γ/\dg σ'
 |[],σ,σ',S,hR,hc,h=>by simp[s5]at h;subst h;exact⟨S,hR,hc⟩
 |x::r,σ,σ',S,hR,hc,h=>by
  simp only[s5]at h;split at h
  .split at h
   .split at h
    .split at h
     .rename_i e b xs f ew;split at h
      .simp at h
      .rename_i hp;simp only[z6,not_or,Bool.not_eq_true]at hp;obtain⟨S1,bj,_⟩:=G0 hR hp.2 ew hp.1;exact AK r _ σ' S1 bj (λi=>hc i) h
     .simp at h
    .exact AK r σ σ' S hR hc h
   .exact AK r σ σ' S hR hc h
  .exact AK r σ σ' S hR hc h
theorem ox:∀{l:List Nat}{i j:Nat},l.idxOf? i=some j->l[j]? = some i
 |[],i,j,h=>by simp at h
 |x::l,i,j,h=>by
  rw[List.idxOf?_cons]at h;split at h
  .rename_i he;simp at h he;subst h;subst he;rfl
  .cases hq:l.idxOf? i with
   |none=>simp[hq]at h
   |some j'=>simp[hq]at h;subst h;simpa using ox hq
theorem HW:∀{l:List Nat}{i:Nat},l.idxOf? i=none->i∉l
 |[],i,_=>by simp
 |x::l,i,h=>by
  rw[List.idxOf?_cons]at h;split at h
  .simp at h
  .rename_i he;have hq:l.idxOf? i=none:=by simpa using h
   have:=HW hq;simp only[jd,not_or];exact⟨λe=>he (by simp[e]),this⟩
theorem HX{e:Nat}{t:Ty}{l:Loc}{k:Option Nat}{xs:List t.den}{f:Bool}(h:xz σ e t l=some (k,xs,f)) :
  (k=none/\isM e=false/\xs=[]/\ig σ l = .nil)\/∃k0,k=some k0/\ig σ l = .ol k0/\σ.bx k0 = .live (.lst e t xs f):=by
 unfold xz at h;split at h
 .rename_i hl;split at h
  .simp at h
  .rename_i hm;simp only[j4,j8]at h;exact .inl ⟨h.1.symm,by simpa using hm,h.2.1.symm,hl⟩
 .rename_i k0 hl;split at h
  .rename_i e' t' cH f' hb;split at h
   .rename_i v il;split at h
    .rename_i he;simp only[j4,j8]at h;obtain⟨rfl,rfl,rfl⟩:=h;have:=lK il;cases this;subst he;exact .inr ⟨k0,rfl,hl,hb⟩
    .simp at h
   .simp at h
  .simp at h
 .simp at h
theorem Ec{e:Nat}{t:Ty}:∀{ls:List Loc}{k:Option Nat}{xs:List t.den}{f:Bool},uR σ e t ls=some (k,xs,f)->
  (∃l∈ls,xz σ e t l=some (k,xs,f))/\∀l∈ls,∃cH f',xz σ e t l=some (k,cH,f')
 |[],_,_,_,h=>by simp[uR]at h
 |[l],k,xs,f,h=>by
  simp only[uR]at h;exact⟨⟨l,by simp,h⟩,λl' mv=>by simp at mv;subst mv;exact⟨_,_,h⟩⟩
 |l::l2::ls,k,xs,f,h=>by
  simp only[uR]at h;split at h
  .rename_i k1 DX f1 k2 OI f2 h1 h2;split at h
   .rename_i hk;simp only[j4,j8]at h;obtain⟨rfl,rfl,rfl⟩:=h;subst hk;obtain⟨_,al⟩:=Ec h2;refine⟨⟨l,by simp,h1⟩,λl' mv=>?_⟩;rcases jd.1 mv with rfl|mv
    .exact⟨_,_,h1⟩
    .exact al l' mv
   .simp at h
  .simp at h
def PT(np:Nat)(σ:St)(bs:List Nat)(x:nr)(it:Item)(src:Option Nat):Prop:=
 ∃xs f f',uR σ x.e x.a x.locs=some (src,xs,f)/\it = .b (.live (.lst x.e x.a xs f'))/\∀k0,src=some k0->f'=f/\k0∉bs/\parK np k0=false
theorem PU{bs:List Nat}:∀{L:List nr}{is:List Item}{ks:List Nat},xA np σ bs L=some (is,ks)->
  ∃eT:List (Option Nat),ks=eT.filterMap id/\ks.Nodup/\∀(j:Nat)(x:nr),L[j]? = some x->∃it src,is[j]? = some it/\eT[j]? = some src/\PT np σ bs x it src
 |[],is,ks,h=>by
  simp[xA]at h;obtain⟨rfl,rfl⟩:=h;exact⟨[],rfl,zh,λj x hx=>by simp at hx⟩
 |x::L,is,ks,h=>by
  simp only[xA]at h;split at h
  .rename_i k xs f is' GJ h1 h2;obtain⟨eT,e1,e2,e3⟩:=PU h2;split at h
   .simp only[j4,j8]at h;obtain⟨rfl,rfl⟩:=h;refine⟨none::eT,by simp[e1],e2,λj y hy=>?_⟩;cases j with
    |zero=>simp at hy;subst hy;exact⟨_,none,rfl,rfl,xs,f,x.frz,h1,rfl,by simp⟩
    |succ j=>exact e3 j y (by simpa using hy)
   .rename_i k0;split at h
    .simp at h
    .rename_i hn;simp only[z6,not_or,Bool.not_eq_true,kz,jk]at hn;simp only[j4,j8]at h;obtain⟨rfl,rfl⟩:=h;refine⟨some k0::eT,by simp[e1],qk.2 ⟨hn.1.1,e2⟩,λj y hy=>?_⟩;cases j with
     |zero=>simp at hy;subst hy;exact⟨_,some k0,rfl,rfl,xs,f,f,h1,rfl,λk1 dD=>by simp at dD;subst dD;exact⟨rfl,hn.1.2,hn.2⟩⟩
     |succ j=>exact e3 j y (by simpa using hy)
  .simp at h
theorem PV:∀{eT:List (Option Nat)},(eT.filterMap id).Nodup->∀{j j' k:Nat},eT[j]? = some (some k)->eT[j']? = some (some k)->j=j'
 |[],_,j,_,_,h,_=>by simp at h
 |s::eT,hn,j,j',k,h,h'=>by
  have eF:∀{i:Nat},eT[i]? = some (some k)->k∈eT.filterMap id:=λhi=>zm.2 ⟨some k,jy hi,rfl⟩
  have HY:(eT.filterMap id).Nodup:=by
   cases s with
   |none=>simpa using hn
   |some y=>simp at hn;exact hn.2
  cases j with
  |zero=>
   cases j' with
   |zero=>rfl
   |succ j'=>simp at h h';subst h;simp at hn;exact absurd (by simpa using eF h') hn.1
  |succ j=>
   cases j' with
   |zero=>simp at h h';subst h';simp at hn;exact absurd (by simpa using eF h) hn.1
   |succ j'=>have:=PV HY (j:=j) (j':=j') (k:=k) (by simpa using h) (by simpa using h');omega
theorem PW:∀{l:List Nat},l.Nodup->∀{i j n:Nat},l[i]? = some n->l[j]? = some n->i=j
 |[],_,i,_,_,hi,_=>by simp at hi
 |x::l,h,i,j,n,hi,hj=>by
  obtain⟨h1,h2⟩:=qk.1 h;cases i with
  |zero=>
   cases j with
   |zero=>rfl
   |succ j=>simp at hi hj;subst hi;exact absurd (jy hj) h1
  |succ i=>
   cases j with
   |zero=>simp at hi hj;subst hj;exact absurd (jy hi) h1
   |succ j=>rw[PW h2 (i:=i) (j:=j) (n:=n) (by simpa using hi) (by simpa using hj)]
end
section
variable{N:NT}{np:Nat}{S0:aH}{w0:World}{refs:Refs}{σ:St}{a:Go.Act}{w:World}{S:aH}{γ:Nat->Value}
theorem Yo{K:Keep}{l:Loc}{n:Nat}(h:yZ K l=some n):∃(j:Nat)(x:nr),K.lists[j]? = some x/\x.name=n/\l∈x.locs:=by
 unfold yZ at h;obtain⟨x,hq,hn⟩:=Option.map_eq_some_iff.1 h;have h1:=List.find?_some hq;obtain⟨j,hj⟩:=qy.1 (List.mem_of_find?_eq_some hq);exact⟨j,x,hj,hn,by simpa using h1⟩
theorem we{K:Keep}{k:Nat}{x:BS}{b:Bx}(h:sZ K k x = .live b):∃b0,x = .live b0/\ij b0 b:=by
 unfold sZ at h;split at h
 .simp only[BS.live.injEq]at h;subst h;exact⟨_,rfl,trivial⟩
 .simp only[BS.live.injEq]at h;subst h;exact⟨_,rfl,.refl _⟩
 .simp only[BS.live.injEq]at h;subst h;exact⟨_,rfl,.refl _⟩
 .simp at h
theorem wg{K:Keep}{k:Nat}{x:BS}:sZ K k x ≠ .free:=by
 unfold sZ;split<;>simp
theorem PX{R:Leaf->Value->Prop}{f:Leaf×Nat->Leaf}:∀{ls:List Leaf}{cs:List Value}(n:Nat),(∀(j:Nat)(x:Leaf)(u:Value),ls[j]? = some x->cs[j]? = some u->R (f (x,n+j)) u)->ls.length=cs.length->
  All2 R ((ls.zipIdx n).map f) cs
 |[],[],_,_,_=>trivial
 |x::ls,c::cs,n,h,hl=>by
  refine⟨h 0 x c rfl rfl,PX (n+1) (λj y u hy hu=>?_) (by simpa using hl)⟩;have:=h (j+1) y u (by simpa using hy) (by simpa using hu);rwa[show n+1+j=n+(j+1) by omega]
 |[],_::_,_,_,hl=>by simp at hl
 |_::_,[],_,_,hl=>by simp at hl
theorem Yp{K:Keep}{s:Snap}(hR:Rel N np S0 w0 refs σ a w S γ)(hs:GG np K σ=some s):∃γ',Rel N np S0 w0 refs (dm np K s) a w S γ'/\dg (dm np K s):=by
 unfold GG at hs;cases hL:xA np σ K.boxes K.lists with
 |none=>simp[hL]at hs
 |some p=>
 obtain⟨is,ks⟩:=p;simp only[hL]at hs;cases br:K.ok np with
 |false=>simp[br]at hs
 |true=>
 simp only[br,if_true,j4]at hs;obtain⟨eT,hks,dy,AL⟩:=PU hL;rw[hks]at dy;simp only[Keep.ok,ja]at br;have wh:=xP br.1;have AA:∀(j:Nat)(x:nr),K.lists[j]? = some x->x.name∉K.boxes:=by intro j x hx;have:=jp.1 br.2 x (jy hx);simp only[ja]at this;simpa using this.1
 have tN:∀(j:Nat)(x:nr),K.lists[j]? = some x->parK np x.name=false:=by intro j x hx;have:=jp.1 br.2 x (jy hx);simp only[ja]at this;simpa using this.2
 let γ':Nat->Value:=λn=>match K.boxes.idxOf? n with
  |some _=>γ n
  |none=>match (K.lists.map (·.name)).idxOf? n with
   |some j=>match eT[j]? with
    |some (some k)=>γ k
    |_=> .slice none 0 0
   |none=>γ n
 have ew:(dm np K s).bx=λn=>match K.boxes.idxOf? n with
  |some j=>s7 s[K.slots.length+j]?
  |none=>match (K.lists.map (·.name)).idxOf? n with
   |some j=>s7 s[K.slots.length+K.boxes.length+j]?
   |none=>if parK np n then .gone else .free:=rfl
 have hB:∀n,n∈K.boxes->(dm np K s).bx n=sZ K n (σ.bx n)/\γ' n=γ n:=by
  intro n hn;rw[ew];cases hq:K.boxes.idxOf? n with
  |none=>exact absurd hn (HW hq)
  |some j=>have hj:=ox hq;refine⟨?_,by simp only[γ',hq]⟩;simp only[hq,<-hs];rw[k9 (by simp)];simp only[kb,Nat.add_sub_cancel_left];rw[List.getElem?_append_left (by simp;exact(ju.1 hj).1)];simp[hj,s7]
 have HZ:∀(j:Nat)(x:nr),K.lists[j]? = some x->∃it src,eT[j]? = some src/\PT np σ K.boxes x it src/\(dm np K s).bx x.name=s7 (some it)/\
   γ' x.name=(match src with|some k=>γ k|none=> .slice none 0 0):=by
  intro j x hx;obtain⟨it,src,h1,h2,h3⟩:=AL j x hx
  have tO:K.boxes.idxOf? x.name=none:=by
   cases hq:K.boxes.idxOf? x.name with
   |none=>rfl
   |some i=>exact absurd (jy (ox hq)) (AA j x hx)
  have xO:(K.lists.map (·.name))[j]? = some x.name:=by simp[hx]
  cases hq:(K.lists.map (·.name)).idxOf? x.name with
  |none=>exact absurd (jy xO) (HW hq)
  |some i=>
   have hi:=PW wh (ox hq) xO;subst hi;refine⟨it,src,h2,h3,?_,?_⟩
   .rw[ew];simp only[tO,hq,<-hs];rw[k9 (by simp;omega),k9 (by simp;omega)];have:K.slots.length+K.boxes.length+i-(K.slots.map λi=>Item.s (DC K i (σ.sl i))).length-(K.boxes.map λk=>Item.b (sZ K k (σ.bx k))).length=i:=by simp;omega
    rw[this,h1]
   .simp only[γ',tO,hq,h2];cases src<;>rfl
 have hF:∀n b,(dm np K s).bx n = .live b->n∈K.boxes\/∃(j:Nat)(x:nr),K.lists[j]? = some x/\x.name=n:=by
  intro n b hb;by_cases hn:n∈K.boxes
  .exact .inl hn
  .right;rw[ew]at hb
   have tO:K.boxes.idxOf? n=none:=by
    cases hq:K.boxes.idxOf? n with
    |none=>rfl
    |some i=>exact absurd (jy (ox hq)) hn
   simp only[tO]at hb;split at hb
   .rename_i j hq;have hj:=ox hq;simp only[qi]at hj;cases hx:K.lists[j]? with
    |none=>simp[hx]at hj
    |some x=>simp[hx]at hj;exact⟨j,x,hx,hj⟩
   .split at hb<;>simp at hb
 have iQ:∀(loc:Option Loc)(x:Leaf)(u:Value),bn S w γ σ.bx x u->(x ≠ .dead->One u)->(∀l,loc=some l->ig σ l=x)->
   bn S w γ' (dm np K s).bx (mQ K loc x) u/\(mQ K loc x ≠ .dead->One u):=by
  intro loc x u hl h1 wi;have gv:bn S w γ' (dm np K s).bx .dead u/\(Leaf.dead ≠ .dead->One u):=⟨trivial,λh=>absurd rfl h⟩
  have iR:∀n,loc.bind (yZ K)=some n->∀(hu:(x = .nil)\/∃k,x = .ol k),bn S w γ' (dm np K s).bx (.ol n) u/\(Leaf.ol n ≠ .dead->One u):=by
   intro n hn hu;cases loc with
   |none=>simp at hn
   |some l=>
    simp only[j3]at hn;have nG:=wi l rfl;obtain⟨j,y,hy,Yq,G8⟩:=Yo hn;obtain⟨it,src,_,⟨xs,f,f',gZ,x9,wj⟩,wk,rb⟩:=HZ j y hy;obtain⟨_,al⟩:=Ec gZ;obtain⟨cH,f1,pC⟩:=al l G8;have di:One u:=h1 (by rcases hu with rfl|⟨k,rfl⟩<;>simp);rw[Yq]at wk rb;refine⟨⟨by rw[wk,x9];simp[s7],di,λb _=>?_⟩,λ_=>di⟩;rw[rb];rcases HX pC with⟨rfl,_,_,eM⟩|⟨k0,rfl,wm,cF⟩
    .rw[nG]at eM;subst eM;exact hl
    .rw[nG]at wm;subst wm;exact hl.2.2 _ cF
  cases x with
  |dead=>exact gv
  |nil=>
   simp only[mQ];split
   .rename_i n hn;exact iR n hn (.inl rfl)
   .exact⟨hl,h1⟩
  |d t v=>exact⟨hl,h1⟩
  |ip ls=>exact⟨hl,h1⟩
  |clo f caps=>exact⟨hl,h1⟩
  |clr f ks=>
   simp only[mQ];split
   .rename_i hks;obtain⟨cv,hu,ha⟩:=hl;refine⟨⟨cv,hu,?_⟩,λ_=>h1 (by simp)⟩
    have go:∀(ks:List Nat)(zs:List Value),ks.all (λk=>K.boxes.contains k)=true->All2 (zF γ σ.bx) ks zs->All2 (zF γ' (dm np K s).bx) ks zs:=by
     intro ks;induction ks with
     |nil=>intro zs _ h;cases zs with|nil=>trivial|cons _ _=>exact h.elim
     |cons k ks ih=>
      intro zs hc h;cases zs with
      |nil=>exact h.elim
      |cons z zs=>simp only[za,ja]at hc;obtain⟨cO,dH⟩:=hB k (by simpa using hc.1);refine⟨⟨by rw[cO];exact wg,h.1.2.1,λb hb=>?_⟩,ih zs hc.2 h.2⟩;rw[cO]at hb;obtain⟨b0,dG,_⟩:=we hb;rw[dH];exact h.1.2.2 b0 dG
    exact go ks cv.toList hks ha
   .exact gv
  |ep k i c=>exact gv
  |s1 k=>
   simp only[mQ];split
   .rename_i hk;obtain⟨cO,dH⟩:=hB k (by simpa using hk);refine⟨⟨by rw[cO];exact wg,hl.2.1,λb hb=>?_⟩,λ_=>hl.2.1⟩;rw[cO]at hb;obtain⟨b0,dG,iD⟩:=we hb;have h3:=hl.2.2 b0 dG;rw[dH]
    cases b0<;>cases b<;>simp only[ij]at iD<;>first
     |exact iD.elim
     |exact h3.elim
     |exact h3
   .exact gv
  |tl k i=>
   simp only[mQ];split
   .rename_i hk;obtain⟨cO,dH⟩:=hB k (by simpa using hk);refine⟨⟨by rw[cO];exact wg,hl.2.1,λb hb=>?_⟩,λ_=>hl.2.1⟩;rw[cO]at hb;obtain⟨b0,dG,iD⟩:=we hb;have h3:=hl.2.2 b0 dG;rw[dH]
    cases b0<;>cases b<;>simp only[ij]at iD<;>first
     |exact iD.elim
     |exact h3.elim
     |(obtain⟨rfl,rfl,mv⟩:=iD;simp only at h3 ⊢;obtain⟨hm,h3⟩:=h3;rw[<-mv hm];exact⟨hm,h3⟩)
   .exact gv
  |hd k i=>
   simp only[mQ];split
   .rename_i hk;obtain⟨cO,dH⟩:=hB k (by simpa using hk);refine⟨⟨by rw[cO];exact wg,hl.2.1,λb hb=>?_⟩,λ_=>hl.2.1⟩;rw[cO]at hb;obtain⟨b0,dG,iD⟩:=we hb;have h3:=hl.2.2 b0 dG;rw[dH]
    cases b0<;>cases b<;>simp only[ij]at iD<;>first
     |exact iD.elim
     |exact h3.elim
     |(obtain⟨rfl,rfl,mv⟩:=iD;simp only at h3 ⊢;obtain⟨hm,h3⟩:=h3;rw[<-mv hm];exact⟨hm,h3⟩)
   .exact gv
  |ol k=>
   simp only[mQ];split
   .rename_i hk;obtain⟨cO,dH⟩:=hB k (by simpa using hk);refine⟨⟨by rw[cO];exact wg,hl.2.1,λb hb=>?_⟩,λ_=>hl.2.1⟩;rw[cO]at hb;obtain⟨b0,dG,_⟩:=we hb;rw[dH];exact hl.2.2 b0 dG
   .split
    .rename_i n hn;exact iR n hn (.inr ⟨k,rfl⟩)
    .exact gv
  |bp k c=>
   simp only[mQ];split
   .rename_i hk;obtain⟨cO,dH⟩:=hB k (by simpa using hk);refine⟨⟨by rw[cO];exact wg,hl.2.1,λb hb=>?_⟩,λ_=>hl.2.1⟩;rw[cO]at hb;obtain⟨b0,dG,_⟩:=we hb;rw[dH];exact hl.2.2 b0 dG
   .exact gv
 have fR:∀n b,(dm np K s).bx n = .live b->(n∈K.boxes/\γ' n=γ n/\∃b0,σ.bx n = .live b0)\/(blk (γ' n)=none)\/
   ∃(j:Nat)(x:nr)(k:Nat)(b0:Bx),K.lists[j]? = some x/\x.name=n/\eT[j]? = some (some k)/\γ' n=γ k/\σ.bx k = .live b0/\k∉K.boxes/\parK np k=false:=by
  intro n b hb;rcases hF n b hb with hn|⟨j,x,hx,rfl⟩
  .obtain⟨h1,h2⟩:=hB n hn;rw[h1]at hb;obtain⟨b0,dG,_⟩:=we hb;exact .inl ⟨hn,h2,b0,dG⟩
  .obtain⟨it,src,wj,⟨xs,f,f',gZ,x9,ou⟩,wk,rb⟩:=HZ j x hx;obtain⟨⟨l,_,pC⟩,_⟩:=Ec gZ;rcases HX pC with⟨rfl,_,_,_⟩|⟨k,rfl,_,cF⟩
   .exact .inr (.inl (by rw[rb];rfl))
   .obtain⟨_,h2,h3⟩:=ou k rfl;exact .inr (.inr ⟨j,x,k,_,hx,rfl,wj,rb,cF,h2,h3⟩)
 refine⟨γ',⟨hR.size,hR.defers,?_,?_,?_,?_,hR.ext,hR.new,hR.here,hR.below,hR.grow,hR.os,hR.tape,hR.output,?_,λg o h=>⟨(hR.kept g o h).1,λn b hb cF=>by
  have dO:=(hR.kept g o h).2;rcases fR n b hb with⟨_,e,b0,dG⟩|e|⟨j,x,k,b0,_,_,_,e,dG,_⟩
  .rw[e]at cF;exact dO n b0 dG cF
  .rw[e]at cF;simp at cF
  .rw[e]at cF;exact dO k b0 dG cF⟩,hR.fix⟩,?_⟩
 ·-- slots
  intro i
  have dU:(dm np K s).sl i=match K.slots.idxOf? i with
   |some j=>uT s[j]?
   |none=> .one (.one .dead):=rfl
  rw[dU];cases hq:K.slots.idxOf? i with
  |none=>exact⟨trivial,λh=>absurd rfl h⟩
  |some j=>
   have hj:=ox hq;have AM:s[j]? = some (.s (DC K i (σ.sl i))):=by rw[<-hs,List.getElem?_append_left (by simp;exact(ju.1 hj).1)];simp[hj]
   simp only[AM,uT];have tM:=hR.slot i;show bz S w γ' (dm np K s).bx (DC K i (σ.sl i)) _;cases mc:σ.sl i with
   |tup l=>exact⟨trivial,λh=>absurd rfl h⟩
   |cnd x y z=>exact⟨trivial,λh=>absurd rfl h⟩
   |und=>exact⟨trivial,λh=>absurd rfl h⟩
   |one c=>
    rw[mc]at tM;cases c with
    |one x=>exact iQ (some (.slot i)) x _ tM.1 tM.2 (λl hl=>by simp at hl;subst hl;simp[ig,mc])
    |st ls=>
     obtain⟨cs,hu,al,h1⟩:=tM;refine⟨cs,hu,?_,h1⟩;refine All2.map_left.2 ?_
     have:∀{ls:List Leaf}{cs:List Value},All2 (bn S w γ σ.bx) ls cs->(∀u∈cs,One u)->All2 (λx u=>bn S w γ' (dm np K s).bx (mQ K none x) u) ls cs:=by
      intro ls;induction ls with
      |nil=>intro cs h _;cases cs with|nil=>trivial|cons _ _=>exact h.elim
      |cons x ls ih=>
       intro cs h h1;cases cs with
       |nil=>exact h.elim
       |cons u cs=>exact⟨(iQ none x u h.1 (λ_=>h1 u (by simp)) (by simp)).1,ih h.2 (λv hv=>h1 v (by simp[hv]))⟩
     exact this al h1
    |av n b xs=>obtain⟨cs,hu,bk⟩:=tM;exact⟨cs,hu,bk⟩
 ·-- boxes
  intro n b hb;rcases hF n b hb with hn|⟨j,x,hx,rfl⟩
  .obtain⟨h1,h2⟩:=hB n hn;rw[h1]at hb;unfold sZ at hb;split at hb
   .rename_i ls frz kW;simp only[BS.live.injEq]at hb;subst hb;obtain⟨g,cur,e,q1,q2,q3,q4,q5,q6⟩:=hR.box n _ kW;have oo:(ls.zipIdx.map λx=>mQ K (if frz=true then none else some (Loc.cell n x.2)) x.1).length=ls.length:=by simp
    refine⟨g,cur,e,h2.trans q1,q2,?_,by rw[oo];exact q4,q5,q6⟩;rw[oo];refine PX 0 (λj x u hx hu=>?_) q3.length;obtain⟨u',ea,iW⟩:=q3.get j x hx;rw[hu]at ea;simp at ea;subst ea;refine(iQ _ x u iW (λ_=>q4 u (jy hu)) (λl hl=>?_)).1;cases frz with
    |true=>simp at hl
    |false=>simp at hl;subst hl;simp[ig,kW,hx]
   .rename_i m t xs kW;simp only[BS.live.injEq]at hb;subst hb;obtain⟨g,cur,e,q1,q2,q3,q4⟩:=hR.box n _ kW;exact⟨g,cur,e,h2.trans q1,q2,q3,q4⟩
   .rename_i e t xs frz kW;simp only[BS.live.injEq]at hb;subst hb;obtain⟨q1,q3⟩:=hR.box n _ kW;exact⟨by rw[h2];exact q1,by rw[h2];exact q3⟩
   .simp at hb
  .obtain⟨it,src,wj,⟨xs,f,f',gZ,x9,ou⟩,wk,rb⟩:=HZ j x hx;obtain⟨⟨l,_,pC⟩,_⟩:=Ec gZ;rw[wk,x9]at hb;simp only[s7,BS.live.injEq]at hb;subst hb;rcases HX pC with⟨rfl,bT,rfl,_⟩|⟨k,rfl,_,cF⟩
   .refine zH bT ⟨[],?_,trivial,λg hg=>?_⟩
    .rw[rb];exact⟨by simp,.inl ⟨rfl,rfl⟩⟩
    .rw[rb]at hg;simp[blk]at hg
   .obtain⟨rfl,_,_⟩:=ou k rfl;obtain⟨q1,q3⟩:=hR.box k _ cF;exact⟨by rw[rb];exact q1,by rw[rb];exact q3⟩
 ·-- own
  intro n b g hb hg;rcases fR n b hb with⟨_,h2,b0,h3⟩|h|⟨j,x,k,b0,_,_,_,h2,h3,_,h5⟩
  .rw[h2]at hg;exact hR.own n b0 g h3 hg
  .rw[h]at hg;simp at hg
  .rw[h2]at hg;rcases hR.own k b0 g h3 hg with h|h
   .exact .inl h
   .rw[h5]at h;simp at h
 ·-- apart
  intro n n' b b' g aT hb aD hg an;rcases fR n b hb with⟨m1,h2,b0,h3⟩|h|⟨j,x,k,b0,hx,Yr,hj,h2,h3,h4,_⟩
  .rw[h2]at hg;rcases fR n' b' aD with⟨_,i2,b1,i3⟩|i|⟨j',x',k',b1,_,_,_,i2,i3,i4,_⟩
   .rw[i2]at an;exact hR.apart n n' b0 b1 g aT h3 i3 hg an
   .rw[i]at an;simp at an
   .rw[i2]at an;exact hR.apart n k' b0 b1 g (by rintro rfl;exact i4 m1) h3 i3 hg an
  .rw[h]at hg;simp at hg
  .rw[h2]at hg;rcases fR n' b' aD with⟨m1,i2,b1,i3⟩|i|⟨j',x',k',b1,lL,H0,gE,i2,i3,i4,_⟩
   .rw[i2]at an;exact hR.apart k n' b0 b1 g (by rintro rfl;exact h4 m1) h3 i3 hg an
   .rw[i]at an;simp at an
   .rw[i2]at an;by_cases bL:k=k'
    .subst bL;have:=PV dy hj gE;subst this;rw[hx]at lL;simp at lL;subst lL;exact aT (Yr.symm.trans H0)
    .exact hR.apart k k' b0 b1 g bL h3 i3 hg an
 ·-- parameters
  intro k v hv;obtain⟨p1,p2,p3⟩:=hR.par k v hv;refine⟨p1,?_,?_⟩
  .by_cases hk:k∈K.boxes
   .rw[(hB k hk).1];exact wg
   .rw[ew]
    have tO:K.boxes.idxOf? k=none:=by
     cases hq:K.boxes.idxOf? k with
     |none=>rfl
     |some i=>exact absurd (jy (ox hq)) hk
    simp only[tO];split
    .rename_i j hq;have hj:=ox hq;simp only[qi]at hj;cases hx:K.lists[j]? with
     |none=>simp[hx]at hj
     |some x=>simp[hx]at hj;have:=tN j x hx;rw[hj,p1]at this;simp at this
    .simp[p1]
  .by_cases hk:k∈K.boxes
   .rw[(hB k hk).2];exact p3
   .have tO:K.boxes.idxOf? k=none:=by
     cases hq:K.boxes.idxOf? k with
     |none=>rfl
     |some i=>exact absurd (jy (ox hq)) hk
    simp only[γ',tO];split
    .rename_i j hq;have hj:=ox hq;simp only[qi]at hj;cases hx:K.lists[j]? with
     |none=>simp[hx]at hj
     |some x=>simp[hx]at hj;have:=tN j x hx;rw[hj,p1]at this;simp at this
    .exact p3
 .intro i;show ((match K.slots.idxOf? i with|some j=>uT s[j]?|none=>Slot.one (.one .dead)):Slot).bare=true;split
  .unfold uT;split<;>rfl
  .rfl
theorem tP{K:Keep}{s:Snap}(hR:Rel N np S0 w0 refs σ a w S γ)(hc:dg σ)(hs:jC np K σ=some s):∃S' γ',Rel N np S0 w0 refs (dm np K s) a w S' γ'/\dg (dm np K s):=by
 unfold jC at hs;split at hs
 .rename_i σ1 h1;split at hs
  .rename_i σ2 h2;obtain⟨S1,bj,fa⟩:=HV _ _ _ _ hR hc h1;obtain⟨S2,bY,gz⟩:=AK _ _ _ _ bj fa h2;obtain⟨γ',fi,si⟩:=Yp bY hs;exact⟨S2,γ',fi,si⟩
  .simp at hs
 .simp at hs
end
def RdLe(rd bB:Nat->BS):Prop:=∀k,rd k=bB k\/rd k = .gone
theorem RdLe.live{rd bB:Nat->BS}(h:RdLe rd bB){k:Nat}{b:Bx}(hk:rd k = .live b):bB k = .live b:=by
 rcases h k with h|h
 .rw[<-h];exact hk
 .rw[h]at hk;simp at hk
theorem RdLe.free{rd bB:Nat->BS}(h:RdLe rd bB){k:Nat}(hk:gx (rd k)=true):gx (bB k)=true:=by
 rcases h k with h|h
 .rw[<-h];exact hk
 .rw[h]at hk;simp[gx]at hk
theorem RdLe.isLive{rd bB:Nat->BS}(h:RdLe rd bB){k:Nat}(hk:isLive (rd k)=true):isLive (bB k)=true:=by
 rcases h k with h|h
 .rw[<-h];exact hk
 .rw[h]at hk;simp[Lft.isLive]at hk
theorem RdLe.rdf{rd bB:Nat->BS}(h:RdLe rd bB)(np:Nat):RdLe (λk=>if parK np k then .gone else rd k) (λk=>if parK np k then .gone else bB k):=by
 intro k;dsimp only;split
 .exact .inl rfl
 .exact h k
theorem RdLe.msk{rd bB:Nat->BS}(h:RdLe rd bB):RdLe (mskM rd) (mskM bB):=by
 intro k;rcases h k with h|h
 .left;unfold mskM;rw[h]
 .right;unfold mskM;rw[h]
theorem H2(M:List Nat)(rd:Nat->BS):RdLe (ie M rd) rd:=by
 intro k;unfold ie;split
 .exact .inr rfl
 .exact .inl rfl
section
variable{rd bB:Nat->BS}(hle:RdLe rd bB)
include hle
theorem PY{t:Ty}{l:Leaf}{x}(h:ix rd t l=some x):ix bB t l=some x:=by
 unfold ix at h ⊢;split at h
 .exact h
 .exact h
 .split at h
  .rename_i hk;rw[hle.live hk];exact h
  .simp at h
 .rename_i k
  have hs:∀v,s1D t (rd k)=some v->s1D t (bB k)=some v:=by
   intro v hv;rcases hle k with he|he
   .rw[<-he];exact hv
   .rw[he]at hv;unfold s1D at hv;split at hv<;>simp_all
  split at h
  .rename_i hv;rw[hs _ hv];exact h
  .simp at h
 .simp at h
theorem Ed:∀(t:Ty){ls:List Leaf}{x},gath rd t ls=some x->gath bB t ls=some x:=by
 intro t;induction t with
 |unit=>intro ls x h;simpa[gath]using h
 |wrap a ih=>
  intro ls x h;simp only[gath]at h ⊢;split at h
  .rename_i hg;rw[ih hg];exact h
  .simp at h
 |pair a b vA rO=>
  intro ls x h;simp only[gath]at h ⊢;split at h
  .rename_i hg;rw[vA hg];dsimp only;split at h
   .rename_i eu;rw[rO eu];exact h
   .simp at h
  .simp at h
 |arr n a ih=>intro ls x h;simp[gath]at h
 |_=>
  intro ls x h;cases ls with
  |nil=>simp[gath]at h
  |cons l ls=>
   simp only[gath]at h ⊢;split at h
   .rename_i hl;rw[PY hle hl];exact h
   .simp at h
theorem H3{t:Ty}{c:Cel}{x}(h:nY rd t c=some x):nY bB t c=some x:=by
 unfold nY at h ⊢;split at h
 .split at h
  .simp at h
  .rename_i ha;simp only[ha,qs,kn];split at h
   .rename_i hg;rw[Ed hle _ hg];exact h
   .simp at h
 .split at h
  .rename_i ha;simp only[ha,if_true];split at h
   .rename_i hg;rw[Ed hle _ hg];exact h
   .simp at h
  .simp at h
 .exact h
theorem Ys{ti:TyI}{l:Leaf}{x}(h:nu rd ti l=some x):nu bB ti l=some x:=by
 unfold nu at h ⊢;split at h
 .split at h
  .rename_i hk;rw[hle.live hk];exact h
  .rename_i hk;rw[hle.live hk];exact h
  .simp at h
 .split at h
  .rename_i hk;rw[hle.live hk];exact h
  .rename_i hk;rw[hle.live hk];exact h
  .simp at h
 .exact h
 .simp at h
theorem Yt{ti:TyI}{i:Nat}{l:Leaf}{x}(h:n4 rd ti i l=some x):n4 bB ti i l=some x:=by
 unfold n4 at h ⊢;split at h
 .split at h
  .split at h
   .rename_i hl;simp only[hle.isLive hl,if_true];exact h
   .simp at h
  .simp at h
 .split at h
  .split at h
   .rename_i hl;simp only[hle.isLive hl,if_true];exact h
   .simp at h
  .simp at h
 .exact h
 .simp at h
theorem Yu{ti:TyI}{l i:Leaf}{x}(h:rB rd ti l i=some x):rB bB ti l i=some x:=by
 unfold rB at h ⊢;split at h
 .split at h
  .rename_i hk;rw[hle.live hk];exact h
  .simp at h
 .exact h
 .split at h
  .rename_i hk;rw[hle.live hk];exact h
  .rename_i hk;rw[hle.live hk];exact h
  .simp at h
 .split at h
  .rename_i hk;rw[hle.live hk];exact h
  .simp at h
 .split at h
  .rename_i hk;rw[hle.live hk];exact h
  .simp at h
 .simp at h
theorem PZ(a:Ty):∀{ls:List Leaf}{x},rz rd a ls=some x->rz bB a ls=some x
 |[],_,h=>h
 |l::ls,x,h=>by
  simp only[rz]at h ⊢;split at h
  .rename_i h1 h2;rw[PY hle h1,PZ a h2];exact h
  .simp at h
theorem Yv{t:Option Ty}{l:Leaf}{x}(h:rA rd t l=some x):rA bB t l=some x:=by
 unfold rA at h ⊢;split at h
 .split at h
  .split at h
   .rename_i hi;rw[if_pos hi];split at h
    .rename_i hk;rw[hle.live hk];exact h
    .simp at h
   .simp at h
  .simp at h
 .simp at h
theorem Yw{ti:TyI}{l:Leaf}{c:Cel}(h:rA rd ti.ty l=none)(hc:nu rd ti l=some c):rA bB ti.ty l=none:=by
 unfold rA at h ⊢;split at h
 .rename_i k;split at h
  .rename_i m el bg;split at h
   .rename_i hi;rw[if_pos hi];simp only[nu]at hc;split at hc
    .rename_i ls frz hk;rw[hle.live hk];cases frz with
     |true=>rfl
     |false=>rw[hk]at h;simp at h
    .rename_i hk;rw[hle.live hk]
    .simp at hc
   .rename_i hi;rw[if_neg hi]
  .rfl
 .rfl
theorem H4(a:Ty):∀(ps:List (Nat×Cel)){xs:List a.den}{u:Ups}{x},iK rd a xs u ps=some x->iK bB a xs u ps=some x
 |[],_,_,_,h=>h
 |(i,c)::r,xs,u,x,h=>by
  simp only[iK]at h ⊢;split at h
  .rename_i hd;rw[H3 hle hd];dsimp only;split at h
   .rename_i hi;simp only[hi,if_true];exact H4 a r h
   .simp at h
  .simp at h
theorem Yx{t:Option Ty}{l:Leaf}{x}(h:lenC rd t l=some x):lenC bB t l=some x:=by
 unfold lenC at h ⊢;split at h
 .exact h
 .split at h
  .rename_i hk;rw[hle.live hk];exact h
  .simp at h
 .exact h
 .exact h
 .split at h
  .rename_i hk;rw[hle.live hk];exact h
  .simp at h
 .split at h
  .rename_i hk;rw[hle.live hk];exact h
  .simp at h
 .split at h
  .rename_i hk;rw[hle.live hk];exact h
  .simp at h
 .simp at h
theorem Yy{e:Nat}{a:Ty}{s l:Leaf}{x}(h:appH rd e a s l=some x):appH bB e a s l=some x:=by
 unfold appH at h ⊢;split at h
 .split at h
  .rename_i bL;rw[if_pos bL];split at h
   .rename_i hk;rw[hle.live hk];exact h
   .simp at h
  .simp at h
 .simp at h
omit hle in
theorem Yz{e e':Nat}{a a':Ty}{s l:Leaf}{x}(h:appS rd e a s=some x):appH bB e' a' s l=none:=by
 unfold appS at h;split at h
 .rfl
 .rfl
 .simp at h
omit hle in
theorem YA{fr P0:Bool}(hf:fr=true->P0=true){a:Ty}{n len:Nat}{ps:List (Nat×Cel)}{x}(h:one1 fr a n len ps=some x):one1 P0 a n len ps=some x:=by
 unfold one1 at h ⊢;split at h
 .split at h
  .split at h
   .rename_i hc;rw[if_pos ⟨hc.1,hc.2.1,hc.2.2.1,hf hc.2.2.2⟩];exact h
   .simp at h
  .simp at h
 .simp at h
theorem YB{rdf ee:Nat->BS}(eE:RdLe rdf ee){a:Ty}{n:Nat}{s l:Leaf}{x}(h:appN rd rdf a n s l=some x):appN bB ee a n s l=some x:=by
 unfold appN at h ⊢;split at h
 .split at h
  .rename_i hk;rw[eE.live hk];dsimp only;split at h
   .rename_i hc;rw[if_pos ⟨hc.1,hle.free hc.2⟩];exact h
   .simp at h
  .simp at h
 .simp at h
omit hle in
theorem YC{rdf:Nat->BS}{e:Nat}{a a':Ty}{n:Nat}{s l:Leaf}{x}(h:appN rd rdf a n s l=some x):appH bB e a' s l=none:=by
 unfold appN at h;split at h
 .rfl
 .simp at h
omit hle in
theorem YD{rdf ee:Nat->BS}{a a':Ty}{n:Nat}{s l:Leaf}{x}(h:appX rdf a l=some x):appN rd ee a' n s l=none:=by
 unfold appN;split
 .unfold appX at h;simp at h
 .rfl
theorem YE{ti:TyI}{l m:Leaf}{lo hi:Option Leaf}{x}(h:xt rd ti l lo hi m=some x):xt bB ti l lo hi m=some x:=by
 unfold xt at h ⊢;split at h
 .split at h
  .rename_i hk;rw[hle.live hk];exact h
  .simp at h
 .simp at h
theorem YF{e:Nat}{a:Ty}{l:Leaf}{x}(h:appS rd e a l=some x):appS bB e a l=some x:=by
 unfold appS at h ⊢;split at h
 .split at h
  .rename_i hk;rw[hle.live hk];exact h
  .simp at h
 .exact h
 .simp at h
theorem P1{a:Ty}{l:Leaf}{x}(h:appX rd a l=some x):appX bB a l=some x:=by
 unfold appX at h ⊢;split at h
 .split at h
  .rename_i hk;rw[hle.live hk];exact h
  .simp at h
 .exact h
 .exact h
 .split at h
  .rename_i hk;rw[hle.live hk];exact h
  .simp at h
 .simp at h
theorem YG{t:Option Ty}{l m:Leaf}{x}(h:xu rd t l m=some x):xu bB t l m=some x:=by
 unfold xu at h ⊢;split at h
 .split at h
  .rename_i hk;rw[hle.live hk];dsimp only;split at h
   .rename_i ht;rw[if_pos ht];split at h
    .rename_i hy;rw[P1 hle hy];exact h
    .simp at h
   .simp at h
  .simp at h
 .simp at h
theorem YH{t:Option Ty}{l:Leaf}{x}(h:xv rd t l=some x):xv bB t l=some x:=by
 unfold xv at h ⊢;split at h
 .split at h
  .rename_i hk;rw[hle.live hk];exact h
  .simp at h
 .simp at h
theorem Ee:∀(ls:List Leaf){x},tvs rd ls=some x->tvs bB ls=some x
 |[],_,h=>h
 |l::ls,x,h=>by
  simp only[tvs]at h ⊢;split at h
  .rename_i hr;rw[Ee ls hr];dsimp only;split at h
   .exact h
   .split at h
    .rename_i hk;rw[hle.live hk];exact h
    .simp at h
   .simp at h
  .simp at h
theorem P2:∀(cs:List Cel){x},sW rd cs=some x->sW bB cs=some x
 |[],_,h=>h
 |c::cs,x,h=>by
  simp only[sW]at h ⊢;split at h
  .rename_i hr;rw[P2 cs hr];dsimp only;split at h
   .exact h
   .split at h
    .rename_i hk;rw[hle.live hk];dsimp only;split at h
     .rename_i ht;rw[Ee hle _ ht];exact h
     .simp at h
    .simp at h
   .simp at h
  .simp at h
end
theorem YI{rd bB rdf ee:Nat->BS}(hle:RdLe rd bB)(eE:RdLe rdf ee){n:Nat}{c:Cel}{l:Leaf}{x}(h:sV rd rdf n c l=some x):sV bB ee n c l=some x:=by
 unfold sV at h ⊢;split at h
 .split at h
  .rename_i hk;rw[hle.live hk];exact h
  .rename_i hk;rw[hle.live hk];exact h
  .simp at h
 .split at h
  .rename_i hk;rw[hle.live hk];dsimp only;split at h
   .split at h
    .rename_i hi;rw[if_pos hi];split at h
     .rename_i hg;rw[Ed eE _ hg];exact h
     .simp at h
    .simp at h
   .simp at h
  .rename_i hk;rw[hle.live hk];dsimp only;split at h
   .split at h
    .rename_i hi;rw[if_pos hi];split at h
     .rename_i hg;rw[Ed eE _ hg];exact h
     .simp at h
    .simp at h
   .simp at h
  .simp at h
 .simp at h
theorem YJ{par:Nat->Bool}{rd bB:Nat->BS}(hle:RdLe rd bB){ti:TyI}{n:Nat}{l:Leaf}{lo hi:Option Leaf}{x}(h:xr par rd ti n l lo hi=some x):xr par bB ti n l lo hi=some x:=by
 unfold xr at h ⊢;split at h
 .exact h
 .split at h
  .split at h
   .rename_i hk;rw[hle.live hk];exact h
   .simp at h
  .split at h
   .rename_i hk;rw[hle.live hk];dsimp only;split at h
    .rename_i bg;rw[if_pos bg];split at h
     .split at h
      .rename_i hp;rw[if_pos hp];exact h
      .rename_i hp;rw[if_neg hp];split at h
       .rename_i hl;rw[if_pos hl];split at h
        .rename_i hf;rw[if_pos (hle.free hf)];exact h
        .simp at h
       .rename_i hl;rw[if_neg hl];exact h
     .simp at h
    .simp at h
   .simp at h
 .split at h
  .rename_i hk;rw[hle.live hk];exact h
  .simp at h
 .simp at h
theorem YK{rd bB rdf ee:Nat->BS}(hle:RdLe rd bB)(eE:RdLe rdf ee){t:Option TyI}{rl:Bool}{c:Cel}{x}(h:xw rd rdf t rl c=some x):xw bB ee t rl c=some x:=by
 unfold xw at h ⊢;split at h
 .split at h
  .rename_i hk;rw[hle.live hk];dsimp only;split at h
   .rename_i ht;rw[Ee eE _ ht];exact h
   .simp at h
  .rename_i hk;rw[hle.live hk];dsimp only;split at h
   .rename_i ht;rw[Ee eE _ ht];exact h
   .simp at h
  .simp at h
 .exact h
 .exact h
 .split at h
  .split at h
   .rename_i hk;rw[hle.live hk];exact h
   .simp at h
  .split at h
   .rename_i hk;rw[eE.live hk];exact h
   .simp at h
 .split at h
  .split at h
   .split at h
    .rename_i hd;rw[H3 eE hd];exact h
    .simp at h
   .simp at h
  .simp at h
theorem H5{rd bB rdf ee:Nat->BS}(hle:RdLe rd bB)(eE:RdLe rdf ee){T:Nat->Option TyI}:∀(cs:List Cel){ts:List Nat}{ms:List Bool}{x},qM rd rdf T ts ms cs=some x->qM bB ee T ts ms cs=some x
 |[],_,_,_,h=>h
 |c::cs,ts,ms,x,h=>by
  simp only[qM]at h ⊢;split at h
  .rename_i ha;rw[YK hle eE ha];dsimp only;split at h
   .rename_i hr;rw[H5 hle eE cs hr];exact h
   .simp at h
  .simp at h
theorem YL{rd bB rdf ee:Nat->BS}(hle:RdLe rd bB)(eE:RdLe rdf ee){n m:Nat}{us:Ups}{fs:List Bk}{os:List Out}{x}(h:mkHd rd rdf n us fs m os=some x):mkHd bB ee n us fs m os=some x:=by
 unfold mkHd at h ⊢;split at h
 .split at h
  .split at h
   .rename_i hf;simp only[ja]at hf;rw[if_pos (by simp only[ja];exact⟨hle.free hf.1,eE.isLive hf.2⟩)];exact h
   .simp at h
  .simp at h
 .simp at h
theorem P3{rd bB rdf ee:Nat->BS}(hle:RdLe rd bB)(eE:RdLe rdf ee){n:Nat}{us:Ups}{fs:List Bk}{r:Ret}{x}(h:rD rd rdf n us fs r=some x):rD bB ee n us fs r=some x:=by
 unfold rD at h ⊢;split at h
 .exact YL hle eE h
 .unfold yS at h ⊢;split at h
  .split at h
   .rename_i hf;simp only[ja]at hf;rw[if_pos (by simp only[ja];exact⟨hf.1,jp.2 λe he=>hle.free (jp.1 hf.2 e he)⟩)];exact h
   .simp at h
  .simp at h
 .split at h
  .split at h
   .split at h
    .rename_i hf;rw[if_pos (jp.2 λe he=>hle.free (jp.1 hf e he))];exact h
    .simp at h
   .simp at h
  .simp at h
inductive ActLe:Act->Act->Prop
 |val (iL:Bool) (s:Slot) (u:Ups):ActLe (.val iL s u) (.val iL s u)
 |call (f:Nat) (args:List Arg) (mk mk':Ret->Option (Slot×Ups)):(∀r x,mk r=some x->mk' r=some x)->ActLe (.call f args mk) (.call f args mk')
theorem ActLe.refl(x:Act):ActLe x x:=by cases x with
 |val iL s u=>exact .val iL s u
 |call f args mk=>exact .call f args mk mk λ_ _ h=>h
theorem P4{x y:Option Leaf}(h:∀z,x=some z->y=some z){r:Act}(hr:l5 x=some r):l5 y=some r:=by
 cases x with
 |none=>simp[l5]at hr
 |some z=>rw[h z rfl];exact hr
theorem YM{x y:Option (Bool×Leaf)}(h:∀z,x=some z->y=some z){r:Act}(hr:oChk x=some r):oChk y=some r:=by
 cases x with
 |none=>simp[oChk]at hr
 |some z=>rw[h z rfl];exact hr
theorem P5{rd bB:Nat->BS}(hle:RdLe rd bB){t:Nat}{k v:Ty}{x y:Leaf}{z}(h:mapC rd t k v x y=some z):mapC bB t k v x y=some z:=by
 unfold mapC at h ⊢;split at h
 .split at h
  .rename_i hb;simp only[hle.live hb];exact h
  .simp at h
 .simp at h
theorem P6{E:Env}{ev:Operand->Slot}{rd bB:Nat->BS}(rT:RdLe rd bB){act:List (Nat×Bool)}{o:Oper}{A:Act}(h:dC E ev rd act o=some A):∃A',dC E ev bB act o=some A'/\ActLe A A':=by
 have hle:=rT.msk;have eE:=hle.rdf E.np;have same:dC E ev bB act o=some A->∃A',dC E ev bB act o=some A'/\ActLe A A':=λh=>⟨A,h,.refl A⟩;obtain⟨dst,op,type,pos,after,guard⟩:=o;cases op
 case alloc t=>
  refine same ?_;simp only[dC]at h ⊢;split at h
  .split at h
   .rename_i hf;simp only[hle.free hf,if_true];exact h
   .simp at h
  .simp at h
 case box t x=>
  refine same ?_;simp only[dC]at h ⊢;split at h
  .rename_i hf;simp only[hle.free hf,if_true];exact h
  .simp at h
 case build t ps=>
  refine same ?_;simp only[dC]at h ⊢;split at h
  .split at h
   .split at h
    .rename_i hi;simp only[hi,if_true];exact h
    rename_i hi;rw[if_neg hi];split at h
    .rename_i hb;rw[H4 eE _ _ hb];exact h
    .simp at h
   .exact h
   .simp at h
  .simp at h
 case buildSlice t n ps=>
  refine same ?_;simp only[dC]at h ⊢;split at h
  .split at h
   .split at h
    .rename_i cO;rw[if_pos cO];exact YA hle.free h
    rename_i cO;rw[if_neg cO];split at h
    .simp at h
    .rename_i hn;simp only[hn,qs];split at h
     .rename_i hb;rw[H4 eE _ _ hb];dsimp only;split at h
      .rename_i hf;simp only[hle.free hf,if_true];exact h
      .simp at h
     .simp at h
   .simp at h
  .simp at h
 case load t x=>
  refine same ?_;simp only[dC]at h ⊢;split at h
  .split at h
   .rename_i pC;split at h
    .rename_i hg;rw[Yv hle pC];dsimp only;rw[PZ eE _ hg];exact h
    .simp at h
   .rename_i pC;cases tt:nu (mskM rd) _ (lf ((ev x).cel act)) with
    |none=>rw[tt]at h;simp[oCel]at h
    |some c=>rw[Yw hle pC tt,Ys hle tt];rw[tt]at h;exact h
  .simp at h
 case store t x y=>
  refine same ?_;simp only[dC]at h ⊢;split at h
  .split at h
   .rename_i hs;rw[YI hle eE hs];exact h
   .simp at h
  .simp at h
 case nilCheck x=>
  refine same ?_;simp only[dC]at h ⊢;split at h
  .split at h
   .rename_i hl;simp only[hle.isLive hl,if_true];exact h
   .simp at h
  .split at h
   .rename_i hl;simp only[hle.isLive hl,if_true];exact h
   .simp at h
  .exact h
  .simp at h
 case makeFunc fn first captured=>
  refine same ?_;cases fn with
  |func f=>
   simp only[dC]at h ⊢;split at h
   .rename_i hf;simp only[hf,if_true];split at h
    .rename_i px;simp only[px,if_true];exact h
    .rename_i px;simp only[px];split at h
     .rename_i hc;rw[P2 eE _ hc];exact h
     .simp at h
   .simp at h
  |_=>simp[dC]at h
 case fieldAddr t x i=>
  refine same ?_;simp only[dC]at h ⊢;split at h
  .exact P4 (λz hz=>Yt hle hz) h
  .simp at h
 case indexAddr t x i=>
  refine same ?_;simp only[dC]at h ⊢;split at h
  .exact YM (λz hz=>Yu hle hz) h
  .simp at h
 case call c=>
  simp only[dC]at h ⊢;cases hc:c.callee with
  |invoke r m=>simp[hc]at h
  |value f=>
   simp only[hc]at h ⊢;split at h
   .split at h
    .rename_i ha;rw[H5 rT eE _ ha];dsimp only;split at h
     .rename_i hb;simp only[hb,if_true];simp only[j4]at h;subst h;exact⟨_,rfl,.call _ _ _ _ λr x hx=>P3 hle eE hx⟩
     .simp at h
    .simp at h
   .split at h
    .rename_i ha;rw[H5 rT eE _ ha];dsimp only;split at h
     .rename_i hb;simp only[hb,if_true];simp only[j4]at h;subst h;exact⟨_,rfl,.call _ _ _ _ λr x hx=>P3 hle eE hx⟩
     .simp at h
    .simp at h
   .simp at h
  |builtin b=>
   simp only[hc]at h ⊢;cases b
   case len=>
    refine⟨A,?_,.refl A⟩;dsimp only at h ⊢;split at h
    .split at h
     .exact P4 (λz hz=>Yx hle hz) h
     .simp at h
    .simp at h
   case append=>
    refine⟨A,?_,.refl A⟩;dsimp only at h ⊢;split at h
    .split at h
     .rename_i ht;rw[if_pos ht];split at h
      .split at h
       .rename_i bg;split at h
        .rename_i hh;rw[Yy hle hh];exact h
        split at h
        .rename_i hh;rw[YC hh];dsimp only;rw[YB hle eE hh];exact h
        split at h
        .rename_i h1 h2;rw[Yz h1];dsimp only;rw[YD h2,YF eE h1,P1 hle h2];dsimp only;split at h
         .rename_i hf;simp only[hle.free hf,if_true];exact h
         .simp at h
        .simp at h
       .simp at h
      .simp at h
     .simp at h
    .simp at h
   case copy=>
    refine⟨A,?_,.refl A⟩;dsimp only at h ⊢;split at h
    .split at h
     .rename_i ht;rw[if_pos ht];split at h
      .split at h
       .rename_i hq;rw[YG hle hq];exact h
       .simp at h
      .simp at h
     .simp at h
    .simp at h
   case clear=>
    refine⟨A,?_,.refl A⟩;dsimp only at h ⊢;split at h
    .split at h
     .split at h
      .rename_i hq;rw[YH hle hq];exact h
      .simp at h
     .simp at h
    .simp at h
   all_goals exact⟨A,h,.refl A⟩
 case slice t x lo hi mx=>
  refine same ?_;cases mx with
  |some m=>
   simp only[dC]at h ⊢;split at h
   .split at h
    .rename_i hq;rw[YE hle hq];exact h
    .simp at h
   .simp at h
  |none=>
   simp only[dC]at h ⊢;split at h
   .split at h
    .rename_i hq;rw[YJ hle hq];exact h
    .simp at h
   .simp at h
 case makeMap t x=>
  refine same ?_;cases x with
  |some m=>simp[dC]at h
  |none=>
   simp only[dC]at h ⊢;split at h
   .split at h
    .rename_i hf;simp only[hle.free hf,if_true];exact h
    .simp at h
   .simp at h
 case lookup t x i ok=>
  refine same ?_;simp only[dC]at h ⊢;split at h
  .split at h
   .rename_i hq;rw[P5 rT hq];exact h
   .simp at h
  .simp at h
 case mapUpdate t x i y=>
  refine same ?_;simp only[dC]at h ⊢;split at h
  .split at h
   .rename_i hq hd;rw[P5 rT hq,H3 eE hd];exact h
   .simp at h
  .simp at h
 all_goals exact⟨A,h,.refl A⟩
section
variable{N:NT}{np:Nat}{S0:aH}{w0:World}{refs:Refs}{σ:St}{a:Go.Act}{w:World}{S:aH}{γ:Nat->Value}
def CFun(C:Nat->List Arg->(R:Type)->(Ret->Option R)->Option R):Prop:=
 ∀f args,∃o:Option Ret,∀(R:Type)(k:Ret->Option R),C f args R k=o.bind k
theorem P7{E:Env}{ev re:Operand->Slot}{rd:Nat->BS}{act:List (Nat×Bool)}{o:Oper}(h:∀x∈o.op.operands,ev x=re x):dC E ev rd act o=dC E re rd act o:=by
 have tQ:∀ps:Array (Nat×Operand),(∀x∈ps.toList.map (·.2),ev x=re x)->
   (ps.toList.map λp=>(p.1,(ev p.2).cel act))=(ps.toList.map λp=>(p.1,(re p.2).cel act)):=λps hp=>
  List.map_congr_left λp hm=>by simp only[hp p.2 (jx.2 ⟨p,hm,rfl⟩)]
 have args:∀ps:Array Operand,(∀x∈ps,ev x=re x)->(ps.toList.map λp=>(ev p).cel act)=(ps.toList.map λp=>(re p).cel act):=λps hp=>
  List.map_congr_left λp hm=>by rw[hp p (by simpa using hm)]
 obtain⟨dst,op,type,pos,after,guard⟩:=o;cases op<;>simp only[Op.operands]at h<;>simp only[dC]
 case build t ps=>rw[tQ ps λx hx=>h x (by simpa using hx)]
 case buildSlice t n ps=>rw[tQ ps λx hx=>h x (by simpa using hx)]
 case makeFunc fn first captured=>
  have e:=args captured λx hx=>h x (by simp[hx]);cases fn with
  |func f=>simp only[e]
  |_=>rfl
 case call c=>
  have ha:=args c.args (λx hx=>h x (by simp[Call.operands,hx]));have mz:∀x∈c.args.toList,ev x=re x:=λx hx=>h x (by simp[Call.operands];right;simpa using hx);simp only[ha];cases hc:c.callee with
  |value f=>have hf:ev f=re f:=h f (by simp[Call.operands,hc]);simp only[hf]
  |invoke r m=>rfl
  |builtin b=>
   cases b<;>simp only
   case len=>
    split
    .rename_i x t fA mu;have:=mz x (by rw[fA];simp);simp only[this]
    .rfl
   case append=>
    split
    .rename_i t t' s x mu fA;have e1:=mz s (by rw[fA];simp);have e2:=mz x (by rw[fA];simp);simp only[e1,e2]
    .rfl
   case copy=>
    split
    .rename_i t t' s x mu fA;have e1:=mz s (by rw[fA];simp);have e2:=mz x (by rw[fA];simp);simp only[e1,e2]
    .rfl
   case clear=>
    split
    .rename_i t x mu fA;have e1:=mz x (by rw[fA];simp);simp only[e1]
    .rfl
 case slice t x lo hi mx=>
  have e1:=h x (by simp)
  have eo:∀y:Option Operand,(∀z,y=some z->ev z=re z)->(y.map λx=>lf ((ev x).cel act))=(y.map λx=>lf ((re x).cel act)):=by
   intro y hy;cases y with
   |none=>rfl
   |some z=>simp only[ki,hy z rfl]
  have e2:=eo lo (λz hz=>h z (by simp[hz]));have e3:=eo hi (λz hz=>h z (by simp[hz]));cases mx with
  |some m=>have e4:=h m (by simp);simp only[e1,e2,e3,e4]
  |none=>simp only[e1,e2,e3]
 case makeMap t x=>cases x<;>rfl
 all_goals (first|rfl|(simp_all;done))
def ShEq:BS->BS->Prop
 |.live (.cell _ _),.live (.cell _ _)=>True
 |.live (.lst e a xs _),.live (.lst e' a' cH _)=>e=e'/\a=a'/\xs.length=cH.length
 |.live (.arr n a _),.live (.arr n' a' _)=>n=n'/\a=a'
 |.free,.free=>True
 |.gone,.gone=>True
 |_,_=>False
theorem ShEq.refl:∀b:BS,ShEq b b
 |.live (.cell _ _)=>trivial
 |.live (.lst _ _ _ _)=>⟨rfl,rfl,rfl⟩
 |.live (.arr _ _ _)=>⟨rfl,rfl⟩
 |.free=>trivial
 |.gone=>trivial
theorem ShEq.symm{b c:BS}(h:ShEq b c):ShEq c b:=by
 cases b with
 |free=>cases c<;>simp_all[ShEq]
 |gone=>cases c<;>simp_all[ShEq]
 |live b=>
  cases c with
  |free=>cases b<;>simp[ShEq]at h
  |gone=>cases b<;>simp[ShEq]at h
  |live c=>
   cases b<;>cases c<;>simp only[ShEq]at h ⊢
   .exact⟨h.1.symm,h.2.1.symm,h.2.2.symm⟩
   .exact⟨h.1.symm,h.2.symm⟩
theorem ShEq.trans{b c d:BS}(h:ShEq b c)(h':ShEq c d):ShEq b d:=by
 cases b with
 |free=>cases c with
  |free=>exact h'
  |gone=>simp[ShEq]at h
  |live c=>cases c<;>simp[ShEq]at h
 |gone=>cases c with
  |gone=>exact h'
  |free=>simp[ShEq]at h
  |live c=>cases c<;>simp[ShEq]at h
 |live b=>cases c with
  |free=>cases b<;>simp[ShEq]at h
  |gone=>cases b<;>simp[ShEq]at h
  |live c=>cases d with
   |free=>cases c<;>simp[ShEq]at h'
   |gone=>cases c<;>simp[ShEq]at h'
   |live d=>
    cases b<;>cases c<;>simp only[ShEq]at h<;>cases d<;>simp only[ShEq]at h' ⊢
    .exact⟨h.1.trans h'.1,h.2.1.trans h'.2.1,h.2.2.trans h'.2.2⟩
    .exact⟨h.1.trans h'.1,h.2.trans h'.2⟩
theorem ShEq.mask{rd bB:Nat->BS}{M:List Nat}(h:∀k,M.contains k=false->ShEq (rd k) (bB k))(k:Nat):ShEq (ie M rd k) (ie M bB k):=by
 unfold ie;split
 .trivial
 .rename_i hc;exact h k (by simpa using hc)
theorem Ef{b c:BS}(h:ShEq b c):isLive b=isLive c:=by
 cases b with
 |free=>cases c<;>simp_all[ShEq,isLive]
 |gone=>cases c<;>simp_all[ShEq,isLive]
 |live b=>cases c with
  |free=>cases b<;>simp[ShEq]at h
  |gone=>cases b<;>simp[ShEq]at h
  |live c=>rfl
theorem YN{rd bB:Nat->BS}(h:∀k,ShEq (rd k) (bB k))(ti:TyI)(l i:Leaf):rB rd ti l i=rB bB ti l i:=by
 unfold rB;split
 .rename_i k _ _;have hk:=h k;generalize rd k=b at hk;generalize bB k=c at hk;cases b with
  |free=>cases c<;>simp_all[ShEq]
  |gone=>cases c<;>simp_all[ShEq]
  |live b=>cases c with
   |free=>cases b<;>simp[ShEq]at hk
   |gone=>cases b<;>simp[ShEq]at hk
   |live c=>
    cases b with
    |lst e a xs f=>cases c with
     |lst e' a' cH f'=>simp only[ShEq]at hk;obtain⟨rfl,rfl,hl⟩:=hk;dsimp only;rw[hl]
     |cell _ _=>simp[ShEq]at hk
     |arr _ _ _=>simp[ShEq]at hk
    |cell _ _=>cases c<;>first|rfl|(simp[ShEq]at hk)
    |arr _ _ _=>cases c<;>first|rfl|(simp[ShEq]at hk)
 .rfl
 .rename_i k _ _;have hk:=h k;generalize rd k=b at hk;generalize bB k=c at hk;cases b with
  |free=>cases c<;>simp_all[ShEq]
  |gone=>cases c<;>simp_all[ShEq]
  |live b=>cases c with
   |free=>cases b<;>simp[ShEq]at hk
   |gone=>cases b<;>simp[ShEq]at hk
   |live c=>
    cases b with
    |arr n a xs=>cases c with
     |arr n' a' cH=>simp only[ShEq]at hk;obtain⟨rfl,rfl⟩:=hk;rfl
     |cell _ _=>simp[ShEq]at hk
     |lst _ _ _ _=>simp[ShEq]at hk
    |cell _ _=>cases c<;>first|rfl|(simp[ShEq]at hk)
    |lst _ _ _ _=>cases c<;>first|rfl|(simp[ShEq]at hk)
 .rename_i k _ _ _;have hk:=h k;generalize rd k=b at hk;generalize bB k=c at hk;cases b with
  |free=>cases c<;>simp_all[ShEq]
  |gone=>cases c<;>simp_all[ShEq]
  |live b=>cases c with
   |free=>cases b<;>simp[ShEq]at hk
   |gone=>cases b<;>simp[ShEq]at hk
   |live c=>
    cases b with
    |lst e a xs f=>cases c with
     |lst e' a' cH f'=>simp only[ShEq]at hk;obtain⟨rfl,rfl,hl⟩:=hk;dsimp only;rw[hl]
     |cell _ _=>simp[ShEq]at hk
     |arr _ _ _=>simp[ShEq]at hk
    |cell _ _=>cases c<;>first|rfl|(simp[ShEq]at hk)
    |arr _ _ _=>cases c<;>first|rfl|(simp[ShEq]at hk)
 .rename_i k _ _;have hk:=h k;generalize rd k=b at hk;generalize bB k=c at hk;cases b with
  |free=>cases c<;>simp_all[ShEq]
  |gone=>cases c<;>simp_all[ShEq]
  |live b=>cases c with
   |free=>cases b<;>simp[ShEq]at hk
   |gone=>cases b<;>simp[ShEq]at hk
   |live c=>cases b<;>cases c<;>first|rfl|(simp[ShEq]at hk)
 .rfl
theorem YO{rd bB:Nat->BS}(h:∀k,ShEq (rd k) (bB k))(ti:TyI)(i:Nat)(l:Leaf):n4 rd ti i l=n4 bB ti i l:=by
 unfold n4;split
 .rw[Ef (h _)]
 .rw[Ef (h _)]
 .rfl
 .rfl
theorem ShEq.msk{rd bB:Nat->BS}{k:Nat}(h:ShEq (rd k) (bB k)):ShEq (mskM rd k) (mskM bB k):=by
 unfold mskM;generalize rd k=a at h;generalize bB k=b at h;cases a with
 |free=>cases b<;>simp_all[ShEq]
 |gone=>cases b<;>simp_all[ShEq]
 |live a=>
  cases b with
  |free=>cases a<;>simp[ShEq]at h
  |gone=>cases a<;>simp[ShEq]at h
  |live b=>
   cases a<;>cases b<;>simp only[ShEq]at h<;>dsimp only
   .trivial
   .obtain⟨rfl,rfl,h3⟩:=h;rename_i e _ _ _ _ _;cases isM e
    .exact⟨rfl,rfl,h3⟩
    .trivial
   .exact h
theorem YP{E:Env}{ev:Operand->Slot}{rd bB:Nat->BS}{act:List (Nat×Bool)}{o:Oper}(ha:oT o=true)(h:∀k,ShEq (rd k) (bB k)):dC E ev rd act o=dC E ev bB act o:=by
 have h:∀k,ShEq (mskM rd k) (mskM bB k):=λk=>(h k).msk;obtain⟨dst,op,type,pos,after,guard⟩:=o;cases op<;>simp only[oT,kn]at ha
 .simp only[dC];split
  .rw[Ef (h _)]
  .rw[Ef (h _)]
  .rfl
  .rfl
 .simp only[dC];split
  .rw[YO h]
  .rfl
 .simp only[dC];split
  .rw[YN h]
  .rfl
theorem P8:∀(u:Ups)(σ:St),(∀e∈u,ShEq (σ.bx e.1) e.2)->∀k,ShEq (σ.bx k) ((σ.upd u).bx k)
 |[],σ,_,k=>ShEq.refl _
 |e::u,σ,h,k=>by
  have h0:∀k,ShEq (σ.bx k) ((σ.setB e.1 e.2).bx k):=by
   intro k;simp only[St.setB];split
   .rename_i hk;rw[hk];exact h e (by simp)
   .exact ShEq.refl _
  have h1:=P8 u (σ.setB e.1 e.2) (λx hx=>(h0 x.1).symm.trans (h x (by simp[hx]))) k;exact(h0 k).trans h1
def UpSh(rd:Nat->BS)(u:Ups):Prop:=∀e∈u,ShEq (rd e.1) e.2/\isLive e.2=true
theorem YQ{rd:Nat->BS}{t:Ty}{l:Leaf}{v:t.den}{u:Ups}(h:ix rd t l=some (v,u)):UpSh rd u:=by
 unfold ix at h;split at h
 .split at h
  .simp only[j4,j8]at h;rw[<-h.2];intro e he;simp at he
  .simp at h
 .split at h
  .simp only[j4,j8]at h;rw[<-h.2];intro e he;simp at he
  .simp at h
 .split at h
  .rename_i hk;split at h
   .simp only[j4,j8]at h;rw[<-h.2];intro e he;simp only[kf]at he;subst he;dsimp only;rw[hk];exact⟨⟨rfl,rfl,rfl⟩,rfl⟩
   .simp at h
  .simp at h
 .split at h
  .simp only[j4,j8]at h;rw[<-h.2];intro e he;simp at he
  .simp at h
 .simp at h
theorem UpSh.app{rd:Nat->BS}{u v:Ups}(h:UpSh rd u)(h':UpSh rd v):UpSh rd (u++v):=by
 intro e he;rcases js.1 he with he|he
 .exact h e he
 .exact h' e he
theorem P9{rd:Nat->BS}:∀(t:Ty){ls:List Leaf}{v:t.den}{r:List Leaf}{u:Ups},gath rd t ls=some (v,r,u)->UpSh rd u:=by
 intro t;induction t with
 |unit=>intro ls v r u h;simp only[gath,j4,j8]at h;rw[<-h.2.2];intro e he;simp at he
 |wrap a ih=>
  intro ls v r u h;simp only[gath]at h;split at h
  .rename_i hg;simp only[j4,j8]at h;rw[<-h.2.2];exact ih hg
  .simp at h
 |pair a b vA rO=>
  intro ls v r u h;simp only[gath]at h;split at h
  .rename_i hg;split at h
   .rename_i eu;simp only[j4,j8]at h;rw[<-h.2.2];exact(vA hg).app (rO eu)
   .simp at h
  .simp at h
 |arr n a ih=>intro ls v r u h;simp[gath]at h
 |_=>
  intro ls v r u h;cases ls with
  |nil=>simp[gath]at h
  |cons l ls=>
   simp only[gath]at h;split at h
   .rename_i hl;simp only[j4,j8]at h;rw[<-h.2.2];exact YQ hl
   .simp at h
theorem YR{rd rdf:Nat->BS}(bu:RdLe rdf rd){n:Nat}{c:Cel}{l:Leaf}{u:Ups}(h:sV rd rdf n c l=some u):UpSh rd u:=by
 have one:∀(k:Nat)(b b':Bx),rd k = .live b->ShEq (.live b) (.live b')->UpSh rd [(k,.live b')]:=by intro k b b' hk hs e he;simp only[kf]at he;subst he;exact⟨by rw[hk];exact hs,rfl⟩
 have lift:∀u,UpSh rdf u->UpSh rd u:=by
  intro u hu e he;obtain⟨h1,h2⟩:=hu e he;rcases bu e.1 with hq|hq
  .rw[hq]at h1;exact⟨h1,h2⟩
  .rw[hq]at h1;cases h3:e.2 with
   |free=>rw[h3]at h2;simp[isLive]at h2
   |gone=>rw[h3]at h2;simp[isLive]at h2
   |live b=>rw[h3]at h1;cases b<;>simp[ShEq]at h1
 unfold sV at h;split at h
 .split at h
  .rename_i hk;split at h
   .split at h
    .simp only[j4]at h;subst h;exact one _ _ _ hk trivial
    .simp at h
   .simp at h
  .rename_i hk;split at h
   .split at h
    .split at h
     .split at h
      .simp only[j4]at h;subst h;exact one _ _ _ hk ⟨rfl,rfl⟩
      .simp at h
     .simp at h
    .simp at h
   .simp at h
  .simp at h
 .split at h
  .rename_i hk;split at h
   .split at h
    .split at h
     .rename_i hg;split at h
      .simp at h
      .simp only[j4]at h;subst h;exact(lift _ (P9 _ hg)).app (one _ _ _ hk ⟨rfl,rfl,by simp⟩)
     .simp at h
    .simp at h
   .simp at h
  .rename_i hk;split at h
   .split at h
    .split at h
     .rename_i hg;split at h
      .simp at h
      .simp only[j4]at h;subst h;exact(lift _ (P9 _ hg)).app (one _ _ _ hk ⟨rfl,rfl⟩)
     .simp at h
    .simp at h
   .simp at h
  .simp at h
 .simp at h
theorem YS(np:Nat)(rd:Nat->BS):RdLe (λk=>if parK np k then .gone else rd k) rd:=by
 intro k;dsimp only;split
 .exact .inr rfl
 .exact .inl rfl
theorem UpSh.le{rd bB:Nat->BS}(hle:RdLe rd bB){u:Ups}(h:UpSh rd u):UpSh bB u:=by
 intro e he;obtain⟨h1,h2⟩:=h e he;rcases hle e.1 with hq|hq
 .rw[hq]at h1;exact⟨h1,h2⟩
 .rw[hq]at h1;cases h3:e.2 with
  |free=>rw[h3]at h2;simp[isLive]at h2
  |gone=>rw[h3]at h2;simp[isLive]at h2
  |live b=>rw[h3]at h1;cases b<;>simp[ShEq]at h1
theorem YT(rd:Nat->BS):RdLe (mskM rd) rd:=λk=>OE k
theorem YU{E:Env}{ev:Operand->Slot}{rd:Nat->BS}{act:List (Nat×Bool)}{o:Oper}(ho:rF o=true){iL:Bool}{s:Slot}{u:Ups}(h:dC E ev rd act o=some (.val iL s u)):UpSh rd u:=by
 obtain⟨dst,op,type,pos,after,guard⟩:=o;cases op<;>simp only[rF,kn]at ho;simp only[dC]at h;split at h
 .split at h
  .rename_i hs;simp only[j4,Act.val.injEq]at h;rw[<-h.2.2];exact(YR (YS E.np (mskM rd)) hs).le (YT rd)
  .simp at h
 .simp at h
theorem YV{E:Env}{ev:Operand->Slot}{rd:Nat->BS}{act:List (Nat×Bool)}{o:Oper}(ho:rF o=true){f:Nat}{args:List Arg}{mk:Ret->Option (Slot×Ups)}:dC E ev rd act o≠some (.call f args mk):=by
 obtain⟨dst,op,type,pos,after,guard⟩:=o;cases op<;>simp only[rF,kn]at ho;intro h;simp only[dC]at h;split at h
 .split at h
  .simp at h
  .simp at h
 .simp at h
theorem UpSh.unmask{rd:Nat->BS}{M:List Nat}{u:Ups}(h:UpSh (ie M rd) u):UpSh rd u:=by
 intro e he;obtain⟨h1,h2⟩:=h e he;rcases H2 M rd e.1 with hq|hq
 .rw[hq]at h1;exact⟨h1,h2⟩
 .rw[hq]at h1;cases h3:e.2 with
  |free=>rw[h3]at h2;simp[isLive]at h2
  |gone=>rw[h3]at h2;simp[isLive]at h2
  |live b=>rw[h3]at h1;cases b<;>simp[ShEq]at h1
end
section
variable{N:NT}{np:Nat}{S0:aH}{w0:World}{refs:Refs}{σ:St}{a:Go.Act}{w:World}{S:aH}{γ:Nat->Value}
inductive Bef(ops:Array Oper):Nat->Nat->Prop
 |dep {i j:Nat} {o:Oper}:ops[i]? = some o->j∈nv o->Bef ops i j
 |trans {i j k:Nat}:Bef ops i j->Bef ops j k->Bef ops i k
structure DOkR(ops:Array Oper)(A:List (List Nat)):Prop where
 lt:∀i o,ops[i]? = some o->∀j∈nv o,j<i
 addr:∀i o,ops[i]? = some o->oT o=true->∀k,k∉A.getD i []
 dst:∀i j oi oj t,ops[i]? = some oi->ops[j]? = some oj->i≠j->oj.dst=some t->oi.dst≠some t/\(t∈oi.looksAt ops->Bef ops i j\/Bef ops j i)
 box:∀i j oi oj k,ops[i]? = some oi->ops[j]? = some oj->i≠j->k∈A.getD i []->k∈A.getD j []->Bef ops i j\/Bef ops j i
theorem DOkR.bef{ops:Array Oper}{A:List (List Nat)}(h:DOkR ops A){i j:Nat}(hb:Bef ops i j):j<i:=by
 induction hb with
 |dep ho hj=>exact h.lt _ _ ho _ hj
 |trans _ _ h1 h2=>omega
def ClOk(ops:Array Oper)(cl:List Nat):Prop:=∀i j,(cl.getD i 0).testBit j=true->Bef ops i j
theorem Qa{ops:Array Oper}{cls:List Nat}(hc:ClOk ops cls){i:Nat}{o:Oper}(ho:ops[i]? = some o):∀(l:List Nat)(m:Nat),(∀j∈l,j∈nv o)->(∀j,m.testBit j=true->Bef ops i j)->
  ∀j,(l.foldl (λm j=>m|||(2^j|||cls.getD j 0)) m).testBit j=true->Bef ops i j
 |[],m,_,hm,j,h=>hm j h
 |x::l,m,hl,hm,j,h=>by
  refine Qa hc ho l _ (λj hj=>hl j (by simp[hj])) (λj hj=>?_) j h;simp only[Nat.testBit_or,z6,Nat.testBit_two_pow,jk]at hj;rcases hj with hj|hj|hj
  .exact hm j hj
  .subst hj;exact .dep ho (hl x (by simp))
  .exact .trans (.dep ho (hl x (by simp))) (hc x j hj)
theorem Qb{ops:Array Oper}:∀(l:List Oper)(cls:List Nat),ClOk ops cls->(∀k o,l[k]? = some o->ops[cls.length+k]? = some o)->ClOk ops (yV l cls)
 |[],cls,hc,_=>hc
 |o::os,cls,hc,hl=>by
  have ho:ops[cls.length]? = some o:=by have:=hl 0 o rfl;simpa using this
  refine Qb os _ ?_ (λk x hk=>by
   have:=hl (k+1) x (by simpa using hk);rw[je,qa];rwa[show cls.length+1+k=cls.length+(k+1) by omega])
  intro i j ec;rcases vv i cls.length with hi|hi|hi
  .rw[List.getD_eq_getElem?_getD,List.getElem?_append_left hi,<-List.getD_eq_getElem?_getD]at ec;exact hc i j ec
  .subst hi;rw[List.getD_eq_getElem?_getD,k9 (jq _),Nat.sub_self]at ec;simp only[List.getElem?_cons_zero,zg]at ec;exact Qa hc ho (nv o) 0 (λ_ h=>h) (λj h=>by simp at h) j ec
  .rw[List.getD_eq_getElem?_getD,qm (by simp;omega)]at ec;simp at ec
theorem H6{ops:Array Oper}{cl:List Nat}(hc:ClOk ops cl){i j:Nat}(h:yW cl i j=true):i=j\/Bef ops i j\/Bef ops j i:=by
 simp only[yW,z6,qv]at h;rcases h with (h|h)|h
 .exact .inl h
 .exact .inr (.inl (hc i j h))
 .exact .inr (.inr (hc j i h))
theorem YW{ops:Array Oper}{cl:List Nat}{A:List (List Nat)}(hc:ClOk ops cl)(br:Oh ops cl A=true):DOkR ops A:=by
 have hz:∀{i:Nat}{o:Oper},ops[i]? = some o->(o,i)∈ops.toList.zipIdx:=by intro i o ho;rw[qy];exact⟨i,by rw[List.getElem?_zipIdx];simp[ho]⟩
 have nH:∀i k,k∈A.getD i []->A.isEmpty=false:=by
  intro i k hk;cases A with
  |nil=>simp at hk
  |cons _ _=>rfl
 have al:∀{i:Nat}{o:Oper},ops[i]? = some o->(∀j∈nv o,j<i)/\(A.isEmpty || !oT o||(A.getD i []).isEmpty)=true/\∀j oj,ops[j]? = some oj->DB ops cl A i o j oj=true:=by intro i o ho;have:=jp.1 br (o,i) (hz ho);simp only[ja]at this;exact⟨λj hj=>by simpa using jp.1 this.1.1 j hj,this.1.2,λj oj iV=>jp.1 this.2 (oj,j) (hz iV)⟩
 refine⟨λi o ho=>(al ho).1,λi o ho kX k hk=>?_,λi j oi oj t hi hj ec ht=>?_,λi j oi oj k hi hj ec hk bf=>?_⟩
 .have:=(al ho).2.1;rw[nH i k hk,kX]at this;simp only[jn,vj,List.isEmpty_iff]at this;rw[this]at hk;simp at hk
 .have:=(al hi).2.2 j oj hj;simp only[DB,ht,ja]at this;have h1:=this.1;simp only[z6,qv,ec,false_or,ja,bne_iff_ne,ne_eq,kv,kz,ko]at h1;refine⟨h1.1,λhm=>?_⟩;rcases h1.2 with h|h
  .exact absurd hm h
  .exact(H6 hc h).resolve_left ec
 .have:=(al hi).2.2 j oj hj;simp only[DB,ja]at this;have h2:=this.2;rw[nH i k hk]at h2;simp only[vj,z6]at h2;rcases h2 with h|h
  .exact(H6 hc h).resolve_left ec
  .have:=jp.1 h k hk;simp only[kz,kv,ko]at this;exact absurd bf this
theorem Qc{ops:Array Oper}{cl:List Nat}{A:List (List Nat)}(hc:ClOk ops cl){i:Nat}{oi:Oper}{k:Nat}(hm:(rG ops cl A i oi).contains k=false){j:Nat}{oj:Oper}(hj:ops[j]? = some oj)(hk:k∈A.getD j []) :
  i=j\/Bef ops i j\/Bef ops j i\/(oT oi=true/\rF oj=true):=by
 have hz:(oj,j)∈ops.toList.zipIdx:=by rw[qy];exact⟨j,by rw[List.getElem?_zipIdx];simp[hj]⟩
 have aT:A.isEmpty=false:=by
  cases A with
  |nil=>simp at hk
  |cons _ _=>rfl
 unfold rG at hm;rw[aT]at hm;simp only[kn,qs,kz,ko,zi,not_exists,not_and]at hm;have:=hm (oj,j) hz;dsimp only at this;split at this
 .rename_i h;simp only[z6,ja]at h;rcases h with h|h
  .rcases H6 hc h with h|h|h
   .exact .inl h
   .exact .inr (.inl h)
   .exact .inr (.inr (.inl h))
  .exact .inr (.inr (.inr h))
 .exact absurd hk this
inductive DStep(P:Program)(E:Env)(ops:Array Oper)(M Ai:List Nat)(o:Oper)(σ:St):St->Prop
 |skip (s:Nat) (wn v:Bool):nt ops o=some (s,wn)->σ.sl s = .one (.one (.d .bool v))->v≠wn->DStep P E ops M Ai o σ (σ.setD o.dst .und)
 |skipU (s:Nat) (wn:Bool):nt ops o=some (s,wn)->σ.sl s = .und->DStep P E ops M Ai o σ (σ.setD o.dst .und)
 |val (s:Slot) (u:Ups):(o.guard=none\/∃s wn,nt ops o=some (s,wn)/\σ.sl s = .one (.one (.d .bool wn)))->dC E σ.ev (ie M σ.bx) [] o=some (.val true s u)->(∀e∈u,e.1∈Ai)->
  DStep P E ops M Ai o σ ((σ.upd u).setD o.dst s)
 |call (f:Nat) (args:List Arg) (mk:Ret->Option (Slot×Ups)) (ret:Ret) (s:Slot) (u:Ups):(o.guard=none\/∃s wn,nt ops o=some (s,wn)/\σ.sl s = .one (.one (.d .bool wn)))->
  dC E σ.ev (ie M σ.bx) [] o=some (.call f args mk)->Fun P f->D1 P f args (λr=>r=ret)->mk ret=some (s,u)->(∀e∈u,e.1∈Ai)->DStep P E ops M Ai o σ ((σ.upd u).setD o.dst s)
theorem Qd{s:Nat}{x:Slot}(h:σ.sl s=x):σ.setS s x=σ:=by
 unfold St.setS
 have:(λj=>if j=s then x else σ.sl j)=σ.sl:=by
  funext j
  split
  .rename_i hj;subst hj;exact h.symm
  .rfl
 rw[this]
theorem Qe{u:Ups}{Ai:List Nat}(h:(u.all λe=>Ai.contains e.1)=true):∀e∈u,e.1∈Ai:=λe he=>by simpa using jp.1 h e he
theorem H7{P:Program}{E:Env}(hC:kA P E.C)(hF:CFun E.C){ops:Array Oper}{M Ai:List Nat}{o:Oper}{R:Type}{k:St->Option R}{r:R}
  (hg:o.guard=none\/∃s wn,nt ops o=some (s,wn)/\σ.sl s = .one (.one (.d .bool wn)))(h:runD E M Ai σ o k=some r):∃σ',DStep P E ops M Ai o σ σ'/\k σ'=some r:=by
 unfold runD at h;split at h
 .simp at h
 .rename_i iL s u ho;split at h
  .rename_i hb;cases iL with
   |false=>simp at h
   |true=>exact⟨_,.val s u hg ho (Qe hb),h⟩
  .simp at h
 .rename_i f args mk ho;obtain⟨x,hx⟩:=hF f args;rw[hx]at h;cases x with
  |none=>simp at h
  |some ret=>
   simp only[j3]at h;obtain⟨hf,dV⟩:=hC f args Ret some ret (by rw[hx];rfl);split at h
   .rename_i s u bd;split at h
    .rename_i hb
     exact⟨_,.call f args mk ret s u hg ho hf (by
      intro w S vals ha hn hS;refine(dV w S vals ha hn hS).mono ?_
      rintro e w' ⟨r',pd,rest⟩
      exact⟨r',by simpa using pd,rest⟩) bd (Qe hb),h⟩
    .simp at h
   .simp at h
theorem YX{P:Program}{E:Env}(hC:kA P E.C)(hF:CFun E.C){ops:Array Oper}{M Ai:List Nat}{o:Oper}{R:Type}{k:St->Option R}{r:R}
  (h:yX E ops M Ai σ o k=some r):∃σ',DStep P E ops M Ai o σ σ'/\k σ'=some r:=by
 unfold yX at h;split at h
 .rename_i hg;exact H7 hC hF (.inl hg) h
 .split at h
  .rename_i s wn hg;split at h
   .rename_i v hv;cases v with
    |true=>
     rw[j5,Qd hv]at h;cases wn with
     |true=>exact H7 hC hF (.inr ⟨s,true,hg,hv⟩) h
     |false=>exact⟨_,.skip s false true hg hv (by simp),h⟩
    |false=>
     rw[j6,Qd hv]at h;cases wn with
     |false=>exact H7 hC hF (.inr ⟨s,false,hg,hv⟩) h
     |true=>exact⟨_,.skip s true false hg hv (by simp),h⟩
   .rename_i hv;exact⟨_,.skipU s wn hg hv,h⟩
   .simp at h
  .simp at h
theorem Qf{P:Program}{E:Env}(hC:kA P E.C)(hF:CFun E.C){ops:Array Oper}{cl:List Nat}{A:List (List Nat)}{R:Type}{k:St->Option R}{r:R}:∀(n i:Nat)(σ:St),i+n=ops.size->xy E ops cl A (ops.toList.drop i) i σ k=some r->
  ∃τ:Nat->St,τ i=σ/\k (τ ops.size)=some r/\∀j o,i<=j->ops[j]? = some o->l7 E.N o=true/\DStep P E ops (rG ops cl A j o) (A.getD j []) o (τ j) (τ (j+1))
 |0,i,σ,hi,h=>by
  rw[jc (by simp;omega)]at h;refine⟨λ_=>σ,rfl,h,λj o hj ho=>?_⟩;have:=(jf.1 ho).1;omega
 |n+1,i,σ,hi,h=>by
  have au:i<ops.size:=by omega
  rw[jb (by simpa using au)]at h;simp only[xy]at h;split at h
  .rename_i hd;obtain⟨σ1,hs,hk⟩:=YX (P:=P) hC hF h;obtain⟨τ1,h1,h2,h3⟩:=Qf hC hF n (i+1) σ1 (by omega) hk;refine⟨λj=>if j=i then σ else τ1 j,by simp,?_,λj o hj ho=>?_⟩
   .simp only[show ops.size≠i by omega,qs];exact h2
   .by_cases oy:j=i
    .subst oy;have wo:ops[j]? = some ops[j]:=jr au;rw[wo]at ho;simp only[j4]at ho;subst ho;refine⟨by simpa using hd,?_⟩;simp only[if_true,show j+1≠j by omega,qs,h1];simpa using hs
    .simp only[oy,qs,show j+1≠i by omega];exact h3 j o (by omega) ho
  .simp at h
theorem Rel.drawn(hR:Rel N np S0 w0 refs σ a w S γ)(n:Nat):Rel N np S0 w0 refs σ a { w with drawn:=n } S γ:=
 Rel.step (bx':=σ.bx) (γ':=γ) hR (λ_ _ h=>⟨h,rfl⟩) (.refl _ _) (λk b hb=>dS.keep (w:=w) (w':={ w with drawn:=n }) (λ_ _ h=>⟨h,rfl⟩) (.refl _ _) rfl (λ_ _=>⟨rfl,λ_=>Iff.rfl⟩) (hR.box k b hb))
  hR.own hR.apart hR.new hR.here hR.below hR.grow hR.os hR.tape hR.output (λ_ _ _ h=>⟨rfl,h⟩)
theorem D_wp{P:Program}{E:Env}(hT:cd P E.T)(hR:Rel E.N E.np S0 w0 refs σ a w S γ)(hc:dg σ){ops:Array Oper}{M Ai:List Nat}{i:Nat}{o:Oper}(ho:ops[i]? = some o)(hd:l7 E.N o=true)
  {τ τ':St}(hs:DStep P E ops M Ai o τ τ')(ew:(∀k,ie M σ.bx k=ie M τ.bx k)\/(oT o=true/\∀k,ShEq (ie M σ.bx k) (ie M τ.bx k)))(pD:∀t,t∈o.looksAt ops->σ.sl t=τ.sl t){K:Go.Act->World->Prop}{Q:Exit->Go.Act->World->Prop}
  (hK:∀(s:Slot)(u:Ups)(a':Go.Act)(w':World)(S':aH)(γ':Nat->Value),τ'=(τ.upd u).setD o.dst s->(∀e∈u,e.1∈Ai)->Rel E.N E.np S0 w0 refs ((σ.upd u).setD o.dst s) a' w' S' γ'->dg ((σ.upd u).setD o.dst s)->K a' w') :
  wpOp P ops Q i K a w:=by
 have rZ:=xZ hd
 have oz:∀x∈o.op.operands,σ.ev x=τ.ev x:=by
  intro x hx;cases x with
  |tmp t=>exact pD t (kj _ (zm.2 ⟨.tmp t,by simpa using hx,rfl⟩))
  |_=>rfl
 have vD:∀s wn,nt ops o=some (s,wn)->s∈o.looksAt ops:=by
  intro s wn hg;refine ku _ ?_;unfold nt at hg;split at hg
  .simp at hg
  .rename_i j w' HQ;split at hg
   .rename_i oj iV;split at hg
    .rename_i s' dI;simp only[j4,j8]at hg;simp[HQ,iV,dI,hg.1]
    .simp at hg
   .simp at hg
 have wq:∀s v,nt ops o≠none->s∈o.looksAt ops->τ.sl s = .one (.one (.d .bool v))->tm a s = .bool v:=by intro s v _ hm hv;have:=hR.slot s;rw[pD s hm,hv]at this;exact qO this
 have aN:dC E σ.ev (ie M σ.bx) [] o=dC E τ.ev (ie M τ.bx) [] o:=by
  rcases ew with ew|⟨kX,ew⟩
  .rw[show ie M σ.bx=ie M τ.bx from funext ew];exact P7 oz
  .rw[YP kX ew];exact P7 oz
 have dF:∀(s:Slot)(u:Ups)(v:Value)(w':World)(S':aH)(γ':Nat->Value),τ'=(τ.upd u).setD o.dst s->(∀e∈u,e.1∈Ai)->Rel E.N E.np S0 w0 refs (σ.upd u) a w' S' γ'->
   gI S' w' γ' (σ.upd u).bx (tm a) s v->s.bare=true->K (a.put o.dst v) w':=by
  intro s u v w' S' γ' he hb cE dI cQ;obtain⟨h1,h2⟩:=D9 cE (PL hc) rZ dI cQ;exact hK s u _ w' S' γ' he hb h1 h2
 have tR:(o.guard=none\/∃s wn,nt ops o=some (s,wn)/\τ.sl s = .one (.one (.d .bool wn)))->Region.wanted o (yielded ops a.tmps)=true:=by
  rintro (hg|⟨s,wn,hg,hv⟩)
  .simp[Region.wanted,hg]
  .exact(Ea hg).2 (wq s wn (by rw[hg];simp) (vD s wn hg) hv)
 unfold wpOp;simp only[ho];cases hs with
 |skip s wn v hg hv aT=>
  have hw:¬Region.wanted o (yielded ops a.tmps)=true:=λhw=>by
   have h1:=(Ea hg).1 hw;rw[wq s v (by rw[hg];simp) (vD s wn hg) hv]at h1;exact aT (by simpa using h1)
  simp only[hw,qs,kn];exact dF .und [] undef w S γ rfl (by simp) hR rfl rfl
 |skipU s wn hg hv=>
  have hu:tm a s=undef:=by have:=hR.slot s;rw[pD s (vD s wn hg),hv]at this;exact this
  have hw:¬Region.wanted o (yielded ops a.tmps)=true:=λhw=>by
   have h1:=(Ea hg).1 hw;rw[hu]at h1;simp[undef]at h1
  simp only[hw,qs,kn];exact dF .und [] undef w S γ rfl (by simp) hR rfl rfl
 |val s u hg bE hb=>
  simp only[tR hg,if_true];rw[<-aN]at bE;obtain⟨A',wu,hle⟩:=P6 (H2 M σ.bx) bE;cases hle;obtain⟨⟨v,w',S',γ',az,cE,dI⟩,cQ⟩:=HJ hT hR (act:=[]) (λg hg=>by simp at hg) (λ_=> .inl rfl) wu;refine .inl ?_;unfold Oper.wp;rcases az with az|⟨az,rfl⟩
  .rw[az,Oper.upon_value];exact dF s u v w' S' γ' rfl hb cE dI cQ
  .rw[az,Oper.upon_skip];exact dF s u undef w' S' γ' rfl hb cE dI cQ
 |call f args mk ret s u hg bE hf dV bd hb=>
  simp only[tR hg,if_true];rw[<-aN]at bE;obtain⟨A',wu,hle⟩:=P6 (H2 M σ.bx) bE;cases hle with
  |call _ _ _ mk' AN=>
   have AO:=AN _ _ bd;obtain⟨vals,az,mw,cQ⟩:=PI hR (act:=[]) (λg hg=>by simp at hg) (λ_=> .inl rfl) wu hf dV;refine .inl ?_;unfold Oper.wp;rw[az,Oper.upon_enter];refine mw.mono ?_
   rintro e w' ⟨YY,rfl,al⟩
   obtain⟨v,S',γ',rfl,cE,dI⟩:=al s u AO;exact dF s u v w' S' γ' rfl hb cE dI (cQ _ s u AO)
end
section
variable{S0:aH}{w0:World}{refs:Refs}{σ:St}{a:Go.Act}{w:World}{S:aH}{γ:Nat->Value}
theorem H8{o:Oper}{j:Nat}:j∈nv o↔∃e∈o.after,Region.binds .any e=true/\e.on=j:=by
 simp only[nv,zm];constructor
 .rintro⟨e,he,h⟩
  split at h
  .rename_i hb;simp only[j4]at h;exact⟨e,by simpa using he,hb,h⟩
  .simp at h
 .rintro⟨e,he,hb,h⟩
  exact⟨e,by simpa using he,by simp[hb,h]⟩
theorem YZ{ops:Array Oper}{ao:Array Bool}{i:Nat}(h:i∈Region.ready .any ops ao) :
  ao.getD i true=false/\∃o,ops[i]? = some o/\∀j∈nv o,ao.getD j false=true:=by
 obtain⟨h0,o,ho,h1⟩:=mem_ready.1 h;exact⟨h0,o,ho,λj hj=>by obtain⟨e,he,hb,rfl⟩:=H8.1 hj;exact h1 e he hb⟩
def sj(P:Program)(E:Env)(ops:Array Oper)(cl:List Nat)(A:List (List Nat))(τ:Nat->St):Prop:=
 ∀j o,ops[j]? = some o->l7 E.N o=true/\DStep P E ops (rG ops cl A j o) (A.getD j []) o (τ j) (τ (j+1))
theorem Eg:∀(u:Ups)(σ:St)(t:Nat),(σ.upd u).sl t=σ.sl t
 |[],_,_=>rfl
 |e::u,σ,t=>Eg u (σ.setB e.1 e.2) t
theorem wv(σ:St)(d:Option Nat)(s:Slot):(σ.setD d s).bx=σ.bx:=by cases d<;>rfl
theorem H9{σ:St}{d:Option Nat}{s:Slot}{t:Nat}(h:d≠some t):(σ.setD d s).sl t=σ.sl t:=by
 cases d with
 |none=>rfl
 |some d=>have:t≠d:=λe=>h (by rw[e]);simp[St.setD,St.setS,this]
theorem Qg{σ:St}{s:Slot}{t:Nat}:(σ.setD (some t) s).sl t=s:=by simp[St.setD,St.setS]
theorem Eh:∀(u:Ups)(σ:St)(k:Nat),(∀e∈u,e.1≠k)->(σ.upd u).bx k=σ.bx k
 |[],_,_,_=>rfl
 |e::u,σ,k,h=>by
  have h1:=Eh u (σ.setB e.1 e.2) k (λx hx=>h x (by simp[hx]));show ((σ.setB e.1 e.2).upd u).bx k=_;rw[h1];have:=h e (by simp);have aT:¬k=e.1:=λhk=>this hk.symm;simp[St.setB,aT]
theorem Qh:∀(u:Ups)(σ τ:St)(k:Nat),σ.bx k=τ.bx k->(σ.upd u).bx k=(τ.upd u).bx k
 |[],_,_,_,h=>h
 |e::u,σ,τ,k,h=>by
  refine Qh u (σ.setB e.1 e.2) (τ.setB e.1 e.2) k ?_;simp only[St.setB];split
  .rfl
  .exact h
section
variable{P:Program}{E:Env}{ops:Array Oper}{cl:List Nat}{A:List (List Nat)}{τ:Nat->St}
theorem Ia(h:sj P E ops cl A τ){j:Nat}{o:Oper}(ho:ops[j]? = some o):∃s u,τ (j+1)=((τ j).upd u).setD o.dst s/\(∀e∈u,e.1∈A.getD j [])/\(rF o=true->∀k,ShEq ((τ j).bx k) ((τ (j+1)).bx k)):=by
 obtain⟨_,hs⟩:=h j o ho;generalize hq:τ (j+1)=σ' at hs;cases hs with
 |skip s wn v hg hv aT=>exact⟨.und,[],rfl,by simp,λ_ k=>by rw[wv];exact ShEq.refl _⟩
 |skipU s wn hg hv=>exact⟨.und,[],rfl,by simp,λ_ k=>by rw[wv];exact ShEq.refl _⟩
 |val s u hg bE hb=>exact⟨s,u,rfl,hb,λaA k=>by
  rw[wv];exact P8 u (τ j) (λe he=>((YU aA bE).unmask e he).1) k⟩
 |call f args mk ret s u hg bE hf dV bd hb=>exact⟨s,u,rfl,hb,λaA=>absurd bE (YV aA)⟩
theorem Y0(h:sj P E ops cl A τ){j:Nat}{o:Oper}(ho:ops[j]? = some o){t:Nat}(ht:o.dst≠some t):(τ (j+1)).sl t=(τ j).sl t:=by
 obtain⟨s,u,he,_⟩:=Ia h ho;rw[he,H9 ht,Eg]
theorem Qi(h:sj P E ops cl A τ){j:Nat}{o:Oper}(ho:ops[j]? = some o){k:Nat}(hk:k∉A.getD j []):(τ (j+1)).bx k=(τ j).bx k:=by
 obtain⟨s,u,he,hu,_⟩:=Ia h ho;rw[he,wv];exact Eh u _ k (λe hm ra=>hk (ra▸hu e hm))
theorem AP(h:sj P E ops cl A τ){t j:Nat}:∀n,j+n<=ops.size->(∀k o,j<=k->k<j+n->ops[k]? = some o->o.dst≠some t)->(τ (j+n)).sl t=(τ j).sl t
 |0,_,_=>rfl
 |n+1,hn,hk=>by
  have au:j+n<ops.size:=by omega
  have ho:ops[j+n]? = some ops[j+n]:=jr au;rw[<-Nat.add_assoc,Y0 h ho (hk _ _ (by omega) (by omega) ho)];exact AP h n (by omega) (λk o h1 h2=>hk k o h1 (by omega))
theorem AQ(h:sj P E ops cl A τ){k j:Nat}:∀n,j+n<=ops.size->(∀i o,j<=i->i<j+n->ops[i]? = some o->k∉A.getD i [])->(τ (j+n)).bx k=(τ j).bx k
 |0,_,_=>rfl
 |n+1,hn,hk=>by
  have au:j+n<ops.size:=by omega
  have ho:ops[j+n]? = some ops[j+n]:=jr au;rw[<-Nat.add_assoc,Qi h ho (hk _ _ (by omega) (by omega) ho)];exact AQ h n (by omega) (λi o h1 h2=>hk i o h1 (by omega))
theorem Ei(h:sj P E ops cl A τ){k j:Nat}:∀n,j+n<=ops.size->(∀i o,j<=i->i<j+n->ops[i]? = some o->k∈A.getD i []->rF o=true)->ShEq ((τ j).bx k) ((τ (j+n)).bx k)
 |0,_,_=>ShEq.refl _
 |n+1,hn,hk=>by
  have au:j+n<ops.size:=by omega
  have ho:ops[j+n]? = some ops[j+n]:=jr au;have ih:=Ei h n (by omega) (λi o h1 h2=>hk i o h1 (by omega));refine ih.trans ?_;rw[<-Nat.add_assoc];by_cases hm:k∈A.getD (j+n) []
  .obtain⟨_,_,_,_,aA⟩:=Ia h ho;exact aA (hk _ _ (by omega) (by omega) ho hm) k
  .rw[Qi h ho hm];exact ShEq.refl _
structure Ph(ops:Array Oper)(A:List (List Nat))(τ:Nat->St)(ao:Array Bool)(σ:St):Prop where
 closed:∀j o,ops[j]? = some o->ao.getD j false=true->∀d∈nv o,ao.getD d false=true
 done:∀j o t,ops[j]? = some o->o.dst=some t->ao.getD j false=true->σ.sl t=(τ (j+1)).sl t
 rest:∀t,(∀j o,ops[j]? = some o->o.dst=some t->ao.getD j false=false)->σ.sl t=(τ 0).sl t
 bdone:∀j k,j<ops.size->k∈A.getD j []->ao.getD j false=true->(∀i,i<ops.size->k∈A.getD i []->ao.getD i false=true->i<=j)->σ.bx k=(τ (j+1)).bx k
 brest:∀k,(∀j,j<ops.size->k∈A.getD j []->ao.getD j false=false)->σ.bx k=(τ 0).bx k
theorem Ph.bef{ao:Array Bool}(hp:Ph ops A τ ao σ){i j:Nat}(hb:Bef ops i j)(hi:ao.getD i false=true):ao.getD j false=true:=by
 induction hb with
 |dep ho hj=>exact hp.closed _ _ ho hi _ hj
 |trans _ _ h1 h2=>exact h2 (h1 hi)
theorem Ph.befd{ao:Array Bool}(hp:Ph ops A τ ao σ){i j:Nat}{o:Oper}(ho:ops[i]? = some o)(hd:∀j∈nv o,ao.getD j false=true)(hb:Bef ops i j):ao.getD j false=true:=by
 induction hb with
 |dep wo hj=>rw[ho]at wo;simp only[j4]at wo;subst wo;exact hd _ hj
 |trans cO dH h1 h2=>exact hp.bef dH (h1 ho)
theorem Ej(p:Nat->Prop):∀n,(∃j,j<n/\p j)->∃m,m<n/\p m/\∀j,j<n->p j->j<=m
 |0,h=>by obtain⟨j,hj,_⟩:=h;omega
 |n+1,h=>by
  by_cases hn:p n
  .exact⟨n,by omega,hn,λj hj _=>by omega⟩
  .obtain⟨j,hj,hp⟩:=h
   have xO:j<n:=by
    rcases qr j n with h|h
    .exact h
    .have:j=n:=by omega
     subst this;exact absurd hp hn
   obtain⟨m,hm,wx,al⟩:=Ej p n ⟨j,xO,hp⟩;refine⟨m,by omega,wx,λi hi Qj=>?_⟩;rcases qr i n with h|h
   .exact al i h Qj
   .have:i=n:=by omega
    subst this;exact absurd Qj hn
theorem Qk{l:Array Bool}{i:Nat}(h:l.getD i true=false):l.getD i false=false:=by
 rcases qr i l.size with h'|h'
 .simp[h']at h ⊢;exact h
 .simp[Array.getElem?_eq_none h']
theorem pE{l:Array Bool}{i j:Nat}(hi:i<l.size):(l.setIfInBounds i true).getD j false=true↔j=i\/l.getD j false=true:=by
 by_cases h:i=j
 .subst h;simp[hi]
 .rw[getD_set_ne false h];exact⟨.inr,λhh=>hh.resolve_left λe=>h e.symm⟩
theorem AR{l:Array Bool}{i:Nat}(h:¬l.getD i false=true):l.getD i false=false:=by
 cases hq:l.getD i false with
 |false=>rfl
 |true=>exact absurd hq h
section
variable(br:DOkR ops A)(h:sj P E ops cl A τ){ao:Array Bool}(hp:Ph ops A τ ao σ){i:Nat}{o:Oper}(hi:ops[i]? = some o)(iC:ao.getD i false=false)(dJ:∀j∈nv o,ao.getD j false=true)
include br h hp hi iC dJ
theorem Y1:∀t,t∈o.looksAt ops->σ.sl t=(τ i).sl t:=by
 intro t Ab;have jK:i<ops.size:=(jf.1 hi).1;have AS:∀j oj,ops[j]? = some oj->oj.dst=some t->j≠i->Bef ops i j\/Bef ops j i:=λj oj hj ht aT=>(br.dst i j o oj t hi hj (λe=>aT e.symm) ht).2 Ab;by_cases hex:∃(j:Nat)(oj:Oper),ops[j]? = some oj/\oj.dst=some t/\ao.getD j false=true
 .obtain⟨j,oj,hj,ht,mZ⟩:=hex;have oy:j≠i:=λe=>by rw[e,iC]at mZ;simp at mZ
  have wy:Bef ops i j:=by
   rcases AS j oj hj ht oy with hd|hd
   .exact hd
   .have:=hp.bef hd mZ;rw[iC]at this;simp at this
  have au:=br.bef wy;rw[hp.done j oj t hj ht mZ];have:=AP h (t:=t) (j:=j+1) (i-(j+1)) (by omega) (λk ok h1 h2 hk=>(br.dst k j ok oj t hk hj (by omega) ht).1);rw[show j+1+(i-(j+1))=i by omega]at this;exact this.symm
 .rw[hp.rest t (λj oj hj ht=>AR λhq=>hex ⟨j,oj,hj,ht,hq⟩)]
  have:=AP h (t:=t) (j:=0) i (by omega) (λk ok _ hk nI qT=>by
   have lR:k≠i:=by omega
   rcases AS k ok nI qT lR with hd|hd
   .exact hex ⟨k,ok,nI,qT,hp.befd hi dJ hd⟩
   .have:=br.bef hd;omega)
  rw[jz]at this;exact this.symm
theorem Ql{k:Nat}(hk:∀j oj,ops[j]? = some oj->k∈A.getD j []->i=j\/Bef ops i j\/Bef ops j i):σ.bx k=(τ i).bx k:=by
 have jK:i<ops.size:=(jf.1 hi).1;by_cases hex:∃j,j<ops.size/\(k∈A.getD j []/\ao.getD j false=true)
 .obtain⟨m,hm,⟨pF,rf⟩,eD⟩:=Ej _ _ hex;have Ib:ops[m]? = some ops[m]:=jr hm;have Ic:i≠m:=λe=>by rw[<-e,iC]at rf;simp at rf
  have wy:Bef ops i m:=by
   rcases hk m _ Ib pF with hd|hd|hd
   .exact absurd hd Ic
   .exact hd
   .have:=hp.bef hd rf;rw[iC]at this;simp at this
  have au:=br.bef wy;rw[hp.bdone m k hm pF rf (λj hj dP mZ=>eD j hj ⟨dP,mZ⟩)]
  have:=AQ h (k:=k) (j:=m+1) (i-(m+1)) (by omega) (λj oj h1 h2 hj dP=>by
   rcases hk j oj hj dP with hd|hd|hd
   .omega
   .have:=eD j (by omega) ⟨dP,hp.befd hi dJ hd⟩;omega
   .have:=br.bef hd;omega)
  rw[show m+1+(i-(m+1))=i by omega]at this;exact this.symm
 .rw[hp.brest k (λj hj dP=>AR λhq=>hex ⟨j,hj,dP,hq⟩)]
  have:=AQ h (k:=k) (j:=0) i (by omega) (λj oj h1 h2 hj dP=>by
   rcases hk j oj hj dP with hd|hd|hd
   .omega
   .exact hex ⟨j,by omega,dP,hp.befd hi dJ hd⟩
   .have:=br.bef hd;omega)
  rw[jz]at this;exact this.symm
theorem Y2(kX:oT o=true){k:Nat}(hk:∀j oj,ops[j]? = some oj->k∈A.getD j []->i=j\/Bef ops i j\/Bef ops j i\/rF oj=true):ShEq (σ.bx k) ((τ i).bx k):=by
 have jK:i<ops.size:=(jf.1 hi).1;by_cases hex:∃j,j<ops.size/\(k∈A.getD j []/\ao.getD j false=true)
 .obtain⟨m,hm,⟨pF,rf⟩,eD⟩:=Ej _ _ hex;have Ib:ops[m]? = some ops[m]:=jr hm;rw[hp.bdone m k hm pF rf (λj hj dP mZ=>eD j hj ⟨dP,mZ⟩)];rcases qr m i with Ic|Ic
  .have:=Ei h (k:=k) (j:=m+1) (i-(m+1)) (by omega) (λj oj h1 h2 hj dP=>by
    rcases hk j oj hj dP with hd|hd|hd|hd
    .omega
    .have:=eD j (by omega) ⟨dP,hp.befd hi dJ hd⟩;omega
    .have:=br.bef hd;omega
    .exact hd)
   rwa[show m+1+(i-(m+1))=i by omega]at this
  .have Y3:i≠m:=λe=>by rw[<-e,iC]at rf;simp at rf
   have:=Ei h (k:=k) (j:=i) (m+1-i) (by omega) (λj oj h1 h2 hj dP=>by
    have mZ:ao.getD j false=true:=by
     by_cases tS:j=m
     .rw[tS];exact rf
     .rcases br.box j m oj ops[m] k hj Ib tS dP pF with hd|hd
      .have:=br.bef hd;omega
      .exact hp.bef hd rf
    rcases hk j oj hj dP with hd|hd|hd|hd
    .rw[<-hd,iC]at mZ;simp at mZ
    .have:=br.bef hd;omega
    .have:=hp.bef hd mZ;rw[iC]at this;simp at this
    .exact hd)
   rw[show i+(m+1-i)=m+1 by omega]at this;exact this.symm
 .rw[hp.brest k (λj hj dP=>AR λhq=>hex ⟨j,hj,dP,hq⟩)]
  have:=Ei h (k:=k) (j:=0) i (by omega) (λj oj h1 h2 hj dP=>by
   rcases hk j oj hj dP with hd|hd|hd|hd
   .omega
   .exact absurd ⟨j,by omega,dP,hp.befd hi dJ hd⟩ hex
   .have:=br.bef hd;omega
   .exact hd)
  rwa[jz]at this
theorem Y4(hc:ClOk ops cl):(∀k,ie (rG ops cl A i o) σ.bx k=ie (rG ops cl A i o) (τ i).bx k)\/(oT o=true/\∀k,ShEq (ie (rG ops cl A i o) σ.bx k) (ie (rG ops cl A i o) (τ i).bx k)):=by
 by_cases kX:oT o=true
 .refine .inr ⟨kX,ShEq.mask λk hk=>Y2 br h hp hi iC dJ kX λj oj hj dP=>?_⟩;rcases Qc hc hk hj dP with hd|hd|hd|hd
  .exact .inl hd
  .exact .inr (.inl hd)
  .exact .inr (.inr (.inl hd))
  .exact .inr (.inr (.inr hd.2))
 .refine .inl λk=>?_;unfold ie;split
  .rfl
  .rename_i hk
   exact Ql br h hp hi iC dJ λj oj hj dP=>by
    rcases Qc hc (by simpa using hk) hj dP with hd|hd|hd|hd
    .exact .inl hd
    .exact .inr (.inl hd)
    .exact .inr (.inr hd)
    .exact absurd hd.1 kX
theorem Y5(bF:ops.size<=ao.size){s:Slot}{u:Ups}(he:τ (i+1)=((τ i).upd u).setD o.dst s)(hu:∀e∈u,e.1∈A.getD i []):Ph ops A τ (ao.setIfInBounds i true) ((σ.upd u).setD o.dst s):=by
 have jK:i<ops.size:=(jf.1 hi).1;have fw:i<ao.size:=by omega
 have kW:∀k,k∈A.getD i []->σ.bx k=(τ i).bx k:=λk hk=>Ql br h hp hi iC dJ λj oj hj dP=>by
  by_cases ec:i=j
  .exact .inl ec
  .exact .inr (br.box i j o oj k hi hj ec hk dP)
 refine⟨?_,?_,?_,?_,?_⟩
 .intro j oj iV hj d mb;rcases (pE fw).1 hj with rfl|hj
  .rw[hi]at iV;simp only[j4]at iV;subst iV;exact(pE fw).2 (.inr (dJ d mb))
  .exact(pE fw).2 (.inr (hp.closed j oj iV hj d mb))
 .intro j oj t iV ht hj;by_cases oy:j=i
  .subst oy;rw[hi]at iV;simp only[j4]at iV;subst iV;rw[he,ht,Qg,Qg]
  .rcases (pE fw).1 hj with hj|hj
   .exact absurd hj oy
   .rw[H9 (br.dst i j o oj t hi iV (λe=>oy e.symm) ht).1,Eg];exact hp.done j oj t iV ht hj
 .intro t al
  have Y6:o.dst≠some t:=λe=>by
   have:=al i o hi e;have h2:=(pE (j:=i) fw).2 (.inl rfl);rw[this]at h2;simp at h2
  rw[H9 Y6,Eg]
  exact hp.rest t λj oj iV ht=>AR λhq=>by
   have:=al j oj iV ht;have h2:=(pE (i:=i) fw).2 (.inr hq);rw[this]at h2;simp at h2
 .intro j k hj dP mZ eD;rw[wv];by_cases oy:j=i
  .subst oy;rw[he,wv];exact Qh u σ (τ j) k (kW k dP)
  .have AU:ao.getD j false=true:=by
    rcases (pE fw).1 mZ with e|hh
    .exact absurd e oy
    .exact hh
   have lR:k∉A.getD i []:=λlR=>by
    have hle:=eD i jK lR ((pE fw).2 (.inl rfl));have iV:ops[j]? = some ops[j]:=jr hj;rcases br.box i j o _ k hi iV (λe=>oy e.symm) lR dP with hd|hd
    .have:=br.bef hd;omega
    .have:=hp.bef hd AU;rw[iC]at this;simp at this
   rw[Eh u σ k (λe hm ra=>lR (ra▸hu e hm))];exact hp.bdone j k hj dP AU (λi' aX bf mv=>eD i' aX bf ((pE fw).2 (.inr mv)))
 .intro k al
  have lR:k∉A.getD i []:=λlR=>by
   have:=al i jK lR;have h2:=(pE (j:=i) fw).2 (.inl rfl);rw[this]at h2;simp at h2
  rw[wv,Eh u σ k (λe hm ra=>lR (ra▸hu e hm))]
  exact hp.brest k λj hj dP=>AR λhq=>by
   have:=al j hj dP;have h2:=(pE (i:=i) fw).2 (.inr hq);rw[this]at h2;simp at h2
end
theorem Y7(br:DOkR ops A)(h:sj P E ops cl A τ){ao:Array Bool}(hp:Ph ops A τ ao σ)(al:∀j,j<ops.size->ao.getD j false=true):σ=τ ops.size:=by
 have dU:σ.sl=(τ ops.size).sl:=by
  funext t
  by_cases hex:∃(j:Nat)(oj:Oper),ops[j]? = some oj/\oj.dst=some t
  .obtain⟨j,oj,hj,ht⟩:=hex;have au:j<ops.size:=(jf.1 hj).1;rw[hp.done j oj t hj ht (al j au)];have:=AP h (t:=t) (j:=j+1) (ops.size-(j+1)) (by omega) (λk ok h1 h2 hk=>(br.dst k j ok oj t hk hj (by omega) ht).1);rw[show j+1+(ops.size-(j+1))=ops.size by omega]at this;exact this.symm
  .rw[hp.rest t (λj oj hj ht=>absurd ⟨j,oj,hj,ht⟩ hex)];have:=AP h (t:=t) (j:=0) ops.size (by omega) (λk ok _ hk nI qT=>hex ⟨k,ok,nI,qT⟩);rw[jz]at this;exact this.symm
 have ew:σ.bx=(τ ops.size).bx:=by
  funext k
  by_cases hex:∃j,j<ops.size/\k∈A.getD j []
  .obtain⟨m,hm,pF,eD⟩:=Ej _ _ hex;rw[hp.bdone m k hm pF (al m hm) (λj hj dP _=>eD j hj dP)];have:=AQ h (k:=k) (j:=m+1) (ops.size-(m+1)) (by omega) (λj oj h1 h2 hj dP=>by have:=eD j (by omega) dP;omega);rw[show m+1+(ops.size-(m+1))=ops.size by omega]at this;exact this.symm
  .rw[hp.brest k (λj hj dP=>absurd ⟨j,hj,dP⟩ hex)];have:=AQ h (k:=k) (j:=0) ops.size (by omega) (λj oj h1 h2 hj dP=>hex ⟨j,by omega,dP⟩);rw[jz]at this;exact this.symm
 cases σ;cases hq:τ ops.size;rw[hq]at ew dU;simp only at ew dU;rw[ew,dU]
end
theorem Y8{l:Array Bool}{i:Nat}(hi:l.getD i true=false):(l.setIfInBounds i true).toList.count false+1=l.toList.count false:=by
 have au:i<l.size:=by
  rcases qr i l.size with h|h
  .exact h
  .simp[Array.getElem?_eq_none h]at hi
 have hv:l.toList[i]'(by simpa using au)=false:=by simp[au]at hi;simpa using hi
 have bG:0<l.toList.count false:=List.count_pos_iff.2 (hv▸jh _);have hc:(l.toList.set i true).count false=l.toList.count false-(if l.toList[i]'(by simpa using au)==false then 1 else 0)+(if true==false then 1 else 0):=List.count_set (by simpa using au);rw[hv]at hc;rw[Array.toList_setIfInBounds];simp only[zj,if_true,show (true==false)=false from rfl,kn,qs,Nat.add_zero]at hc;omega
theorem Y9{l:Array Bool}(h:l.toList.count false=0){j:Nat}(hj:j<l.size):l.getD j false=true:=by
 have h0:false∉l.toList:=List.count_eq_zero.1 h;simp only[qu,jr hj,zg];cases hv:l[j]with
 |true=>rfl
 |false=>exact absurd (hv▸by simp:false∈l.toList) h0
theorem Za{ops:Array Oper}{A:List (List Nat)}(br:DOkR ops A){ao:Array Bool}(hs:ao.size=ops.size)(h:Region.ready .any ops ao=[]):∀j,j<ops.size->ao.getD j false=true:=by
 intro j;induction j using Nat.strongRecOn with
 |_ j ih=>
  intro hj;cases hq:ao.getD j false with
  |true=>rfl
  |false=>
   have ho:ops[j]? = some ops[j]:=jr hj
   have hm:j∈Region.ready .any ops ao:=mem_ready.2 ⟨by
    have gE:j<ao.size:=by omega
    simp[gE]at hq ⊢;exact hq,ops[j],ho,λe he hb=>ih _ (br.lt j _ ho _ (H8.2 ⟨e,he,hb,rfl⟩)) (Nat.lt_trans (br.lt j _ ho _ (H8.2 ⟨e,he,hb,rfl⟩)) hj)⟩
   rw[h]at hm;simp at hm
theorem Zb{P:Program}{E:Env}(hT:cd P E.T){ops:Array Oper}{cl:List Nat}{A:List (List Nat)}(dE:ClOk ops cl)(br:DOkR ops A){τ:Nat->St}(h:sj P E ops cl A τ)
  {Q:Exit->Go.Act->World->Prop}(hn:∀a' w' S' γ',Rel E.N E.np S0 w0 refs (τ ops.size) a' w' S' γ'->dg (τ ops.size)->Q .normal a' w') :
  ∀(fuel:Nat)(ao:Array Bool){σ:St}{a:Go.Act}{w:World}{S:aH}{γ:Nat->Value},ao.size=ops.size->ao.toList.count false<=fuel->Rel E.N E.np S0 w0 refs σ a w S γ->dg σ->
   Ph ops A τ ao σ->wpAny P .any ops Q fuel ao a w:=by
 have gm:∀(ao:Array Bool){σ:St}{a:Go.Act}{w:World}{S:aH}{γ:Nat->Value},Rel E.N E.np S0 w0 refs σ a w S γ->dg σ->Ph ops A τ ao σ->(∀j,j<ops.size->ao.getD j false=true)->Q .normal a w:=by intro ao σ a w S γ hR hc tT al;have he:=Y7 br h tT al;subst he;exact hn a w S γ hR hc
 intro fuel;induction fuel with
 |zero=>
  intro ao σ a w S γ hs AV hR hc tT;have al:∀j,j<ops.size->ao.getD j false=true:=λj hj=>Y9 (by omega) (by omega);refine⟨?_,gm ao hR hc tT al⟩;refine List.eq_nil_iff_forall_not_mem.2 λi hi=>?_;have h0:=(mem_ready.1 hi).1;have au:i<ops.size:=by obtain⟨_,o,ho,_⟩:=mem_ready.1 hi;exact(jf.1 ho).1
  have:=al i au;rw[Qk h0]at this;simp at this
 |succ fuel ih=>
  intro ao σ a w S γ hs AV hR hc tT;refine⟨λeM=>gm ao hR hc tT (Za br hs eM),λi hi=>?_⟩;obtain⟨iC,o,ho,dJ⟩:=YZ hi;have wz:=Qk iC;have dr:=Y8 iC;have bF:(ao.setIfInBounds i true).size=ops.size:=by simpa using hs
  obtain⟨hd,hG⟩:=h i o ho;refine D_wp hT hR hc ho hd hG (Y4 br h tT ho wz dJ dE) (Y1 br h tT ho wz dJ) ?_;intro s u a' w' S' γ' he hu cE dp;exact ih _ bF (by omega) cE dp (Y5 br h tT ho wz dJ (Nat.le_of_eq hs.symm) he hu)
theorem Zc{P:Program}{E:Env}(hT:cd P E.T)(hC:kA P E.C)(hF:CFun E.C)(hR:Rel E.N E.np S0 w0 refs σ a w S γ)(hc:dg σ){ops:Array Oper}{A:List (List Nat)}
  {R:Type}{k:St->Option R}{r:R}{Q:Exit->Go.Act->World->Prop}(hn:∀σ' a' w' S' γ',Rel E.N E.np S0 w0 refs σ' a' w' S' γ'->dg σ'->k σ'=some r->Q .normal a' w')(h:yY E ops A σ k=some r) :
  wpAny P .any ops Q ops.size (Array.replicate ops.size false) a { w with drawn:=w.drawn+1 }:=by
 unfold yY at h;split at h
 .rename_i br;obtain⟨τ,h1,h2,h3⟩:=Qf (P:=P) (ops:=ops) hC hF ops.size 0 σ (jz _) (by simpa using h)
  have mA:∀j,(Array.replicate ops.size false).getD j false=false:=by
   intro j;rcases qr j ops.size with hj|hj
   .simp[hj]
   .simp[hj]
  have dE:ClOk ops (yV ops.toList []):=Qb ops.toList [] (λi j h=>by simp at h) (λk o hk=>by simpa using hk);refine Zb hT dE (YW dE br) (τ:=τ) (λj o ho=>h3 j o (k7 _) ho) (λa' w' S' γ' cE dp=>hn _ a' w' S' γ' cE dp h2) ops.size _ (by simp) (by simp) (hR.drawn _) hc ?_
  exact⟨λj o _ hj=>by rw[mA]at hj;simp at hj,λj o t _ _ hj=>by rw[mA]at hj;simp at hj,λt _=>by rw[h1],
   λj k _ _ hj=>by rw[mA]at hj;simp at hj,λk _=>by rw[h1]⟩
 .simp at h
end
def FR(ro:Option Nat):Fence:={ Fence.wide with round:=ro }
theorem Qm(ro:Option Nat)(n:Nat):(FR ro).room n:=λd h=>by simp[FR,Fence.wide]at h
section
variable{P:Program}{ro:Option Nat}{n:Nat}
theorem Zd{f:FuncId}{args:Array Value}{w:World}{R:Ending->World->Prop}(h:Calls P f args w R):CallsIn (FR ro) n P f args w R:=(callsIn_wide (n:=n)).2 h
theorem Ze{f:FuncId}{args:Array Value}{w:World}{R:Ending->World->Prop}(h:CallsIn (FR ro) n P f args w R):Calls P f args w R:=(callsIn_wide (n:=n)).1 h
theorem Zf{m:Nat}{c:Code}{Q:Exit->Go.Act->World->Prop}{a:Go.Act}{w:World}(h:c.wpIn (FR ro) n P Q a w):c.wpIn (FR ro) m P Q a w:=
 λb k cs fW hb hr=>h b k cs fW hb (Qm _ _)
theorem Zg{row:String}{args:Array Value}{w:World}{R:Value->World->Prop}(h:Rows P row args w R):RowsIn (FR ro) n P row args w R:=
 λc cs _=>let ⟨v,w',r,s⟩:=h c cs;⟨v,w',r,stepsIn_wide.2 s⟩
theorem Ek{o:Oper}(hp:ro=none\/∀c,o.op ≠ .defer c){a:Go.Act}{w:World}{K K':Go.Act->World->Prop}{Q:Exit->Go.Act->World->Prop}(hK:∀a w,K a w->K' a w)
  (h:o.wp P a w K Q):o.wpIn (FR ro) n P a w K' Q:=by
 refine⟨λ_ _=>trivial,?_⟩
 have e:o.semAt (FR ro).round a.eval=execOp a.eval o:=by
  rcases hp with rfl|hp
  .rfl
  .exact Oper.semAt_eq _ _ _ hp
 rw[e];unfold Oper.wp at h;revert h;cases (execOp a.eval o).run P w with
 |ok x w'=>
  cases x with
  |value v=>intro h;exact hK _ _ h
  |skip=>intro h;exact hK _ _ h
  |defer d=>intro h;exact hK _ _ h
  |enter f args=>
   intro h;refine⟨λhd=>by simp[FR,Fence.wide]at hd,Zd (Calls.mono h λe uX he=>?_)⟩;cases e with
   |returned v=>exact hK _ _ he
   |panicked c=>exact he
   |outgrown=>exact he
  |row r args=>intro h;exact⟨λhd=>by simp[FR,Fence.wide]at hd,Zg (Rows.mono h λv uX he=>hK _ _ he)⟩
  |round l f tmps x y=>intro h;exact h.elim
  |_=>intro h;exact h.elim
 |halt x w'=>cases x<;>intro h<;>exact h
theorem ya{ops:Array Oper}{Q:Exit->Go.Act->World->Prop}(hp:ro=none\/∀o∈ops.toList,∀c,o.op ≠ .defer c)(dO:¬LetsOut Q):∀(l:List Nat)(a:Go.Act)(w:World),wpOps P ops Q l a w->wpOpsIn (FR ro) n P ops Q l a w
 |[],a,w,h=>h
 |i::r,a,w,h=>by
  simp only[wpOps]at h;simp only[wpOpsIn];cases ho:ops[i]? with
  |none=>simp only[ho]at h ⊢;exact ya hp dO r a w h
  |some o=>
   simp only[ho]at h ⊢;split
   .rename_i hw;simp only[hw,if_true]at h;rcases h with h|⟨_,h⟩
    .refine Ek (hp.imp id λhh=>hh o ?_) (λa w=>ya hp dO r a w) h;obtain⟨au,rfl⟩:=jf.1 ho;exact Array.mem_toList_iff.2 (Array.getElem_mem au)
    .exact absurd h dO
   .rename_i hw;simp only[hw]at h;exact⟨λ_ _=>trivial,ya hp dO r _ w h⟩
theorem El{md:Region.Mode}{ops:Array Oper}{Q:Exit->Go.Act->World->Prop}(hp:ro=none\/∀o∈ops.toList,∀c,o.op ≠ .defer c)(dO:¬LetsOut Q) :
  ∀(fuel:Nat)(ao:Array Bool)(a:Go.Act)(w:World),wpAny P md ops Q fuel ao a w->wpAnyIn (FR ro) n P md ops Q fuel ao a w
 |0,_,_,_,h=>h
 |fuel+1,ao,a,w,h=>by
  refine⟨h.1,λi hi=>?_⟩;have h2:=h.2 i hi;unfold wpOp at h2;unfold wpOpIn;cases ho:ops[i]? with
  |none=>simp only[ho]at h2 ⊢;exact El hp dO fuel _ a w h2
  |some o=>
   simp only[ho]at h2 ⊢;split
   .rename_i hw;simp only[hw,if_true]at h2;rcases h2 with h2|⟨_,h2⟩
    .refine Ek (hp.imp id λhh=>hh o ?_) (λa w=>El hp dO fuel _ a w) h2;obtain⟨au,rfl⟩:=jf.1 ho;exact Array.mem_toList_iff.2 (Array.getElem_mem au)
    .exact absurd h2 dO
   .rename_i hw;simp only[hw]at h2;exact⟨λ_ _=>trivial,El hp dO fuel _ _ w h2⟩
end
section
variable{N:NT}{np:Nat}{S0:aH}{w0:World}{refs:Refs}{σ:St}{a:Go.Act}{w:World}{S:aH}{γ:Nat->Value}
theorem Rel.allocO(hR:Rel N np S0 w0 refs σ a w S γ)(o:Obj):Rel N np S0 w0 refs σ a (w.alloc o) S γ:=
 Rel.step (bx':=σ.bx) (γ':=γ) hR (xK hR o) (.refl _ _) (λk b hb=>dS.keep (xK hR o) (.refl _ _) rfl (λg hg=>⟨heap_alloc_old w o (iO (hR.box k b hb) hg),λ_=>Iff.rfl⟩) (hR.box k b hb))
  hR.own hR.apart hR.new (λg i h=>by have:=hR.here g i h;simp;omega) (λg hg hr=>(heap_alloc_old w o (kr hg hR.grow)).trans (hR.below g hg hr)) (by have:=hR.grow;simp;omega) hR.os hR.tape hR.output
  (λg hg _ h=>⟨heap_alloc_old w o hg,h⟩)
structure Grew(w w':World):Prop where
 old:∀g,g<w.heap.size->w'.heap[g]? = w.heap[g]?
 size:w.heap.size<=w'.heap.size
 os:w'.os=w.os
 tape:w'.tape=w.tape
 output:w'.output=w.output
structure yb(S:aH)(w:World)(S':aH)(w':World):Prop where
 sub:∀g o,S g o->S' g o
 new:∀g o,S' g o->S g o\/w.heap.size<=g
 here:∀g o,S' g o->g<w'.heap.size
theorem Rel.grew(hR:Rel N np S0 w0 refs σ a w S γ){S':aH}{w':World}(h:Grew w w')(hs:yb S w S' w'):Rel N np S0 w0 refs σ a w' S' γ:=
 have aA:dn S w S' w':=λg o hg=>⟨hs.sub g o hg,World.cell?_of_block (h.old g (hR.here g o hg))⟩
 Rel.step (bx':=σ.bx) (γ':=γ) hR aA (.refl _ _) (λk b hb=>dS.keep aA (.refl _ _) rfl (λg hg=>
   have hl:=iO (hR.box k b hb) hg
   ⟨h.old g hl,λo=>⟨λh1=>(hs.new g o h1).resolve_right (by omega),hs.sub g o⟩⟩) (hR.box k b hb))
  hR.own hR.apart (λg o h1=>(hs.new g o h1).elim (hR.new g o) λh2=> .inr (kx hR.grow h2)) hs.here (λg hg hr=>(h.old g (kr hg hR.grow)).trans (hR.below g hg hr)) (kx hR.grow h.size) (h.os.trans hR.os) (h.tape.trans hR.tape) (h.output.trans hR.output)
  (λg hg _ hn=>⟨h.old g hg,hn⟩)
theorem Rel.swap(hR:Rel N np S0 w0 refs σ a w S γ){N':NT}{refs':Refs}{a':Go.Act}(hb:refs'.blks=refs.blks)(hv:refs'.val=refs.val)(bF:a'.tmps.size=N'.n)(yc:a'.defers=refs'.ds)
  (pG:∀i,gI S w γ σ.bx (tm a') (σ.sl i) (tm a' i))(hk:∀g o,refs'.kw g=some o->w.heap[g]? = some o/\∀k b,σ.bx k = .live b->blk (γ k)≠some g)
  (hf:∀i v,refs'.fix i=some v->N'.pin i=true/\a'.tmps.getD i undef=v):Rel N' np S0 w0 refs' σ a' w S γ:=
 have hm:∀g,g∈refs'↔g∈refs:=λg=>by show g∈refs'.blks↔g∈refs.blks;rw[hb]
 ⟨bF,yc,pG,hR.box,λk b g h h'=>(hR.own k b g h h').imp id λh=>⟨(hm g).2 h.1,h.2⟩,hR.apart,hR.ext,hR.new,hR.here,λg h h'=>hR.below g h λh2=>h' ((hm g).2 h2),
  hR.grow,hR.os,hR.tape,hR.output,λk v h=>hR.par k v (hv▸h),hk,hf⟩
theorem Qn{g o:Nat}{x:Obj}(h:w.heap[g]? = some x)(hc:x.isCells=false):w.cell? ⟨g,o,none⟩=none:=by
 unfold World.cell?;simp only[h];cases x<;>first|rfl|(simp[Obj.isCells]at hc)
theorem Rel.putO(hR:Rel N np S0 w0 refs σ a w S γ){l:Nat}{o o':Obj}(hk:refs.kw l=some o)(hl:w0.heap.size<=l)(hc:o.isCells=false)(dp:o'.isCells=false) :
  Rel N np S0 w0 { refs with kw:=λg=>if g=l then some o' else refs.kw g } σ a (w.putObj l o') S γ:=by
 obtain⟨hw,dO⟩:=hR.kept l o hk;have au:=(jf.1 hw).1
 have aA:dn S w S (w.putObj l o'):=λg i h=>⟨h,by
  by_cases hg:g=l
  .subst hg;rw[Qn hw hc,Qn (World.putObj_heap_same au) dp]
  .exact World.cell?_of_block (World.putObj_heap_other hg)⟩
 have bj:Rel N np S0 w0 { refs with kw:=λg=>if g=l then none else refs.kw g } σ a w S γ:=
  Rel.swap hR rfl rfl hR.size hR.defers hR.slot (λg x h=>by
   simp only at h;split at h
   .simp at h
   .exact hR.kept g x h) hR.fix
 have bY:Rel N np S0 w0 { refs with kw:=λg=>if g=l then none else refs.kw g } σ a (w.putObj l o') S γ:=
  Rel.step (bx':=σ.bx) (γ':=γ) bj aA (.refl _ _) (λk b hb=>dS.keep aA (.refl _ _) rfl (λg hg=>⟨World.putObj_heap_other (λe=>dO k b hb (e▸hg)),λ_=>Iff.rfl⟩) (hR.box k b hb))
   bj.own bj.apart bj.new (λg i h=>by simpa using hR.here g i h) (λg hg hr=>(World.putObj_heap_other (by omega)).trans (bj.below g hg hr)) (by simpa using hR.grow) hR.os hR.tape hR.output
   (λg _ om h=>⟨World.putObj_heap_other (λe=>by subst e;simp at om),h⟩)
 refine Rel.swap bY rfl rfl bY.size bY.defers bY.slot (λg x h=>?_) bY.fix;simp only at h;split at h
 .rename_i e;subst e;simp only[j4]at h;subst h;exact⟨World.putObj_heap_same au,dO⟩
 .rename_i e;have h1:=hR.kept g x h;exact⟨(World.putObj_heap_other e).trans h1.1,h1.2⟩
theorem Zh(np:Nat)(K:Keep)(s:Snap)(i:Nat):(∃c,(dm np K s).sl i = .one c)/\(i∉K.slots->(dm np K s).sl i = .one (.one .dead)):=by
 have dU:(dm np K s).sl i=match K.slots.idxOf? i with
  |some j=>uT s[j]?
  |none=> .one (.one .dead):=rfl
 rw[dU];cases hq:K.slots.idxOf? i with
 |none=>exact⟨⟨_,rfl⟩,λ_=>rfl⟩
 |some j=>refine⟨?_,λh=>absurd (jy (ox hq)) h⟩;simp only;unfold uT;split<;>exact⟨_,rfl⟩
theorem Rel.frame{K:Keep}{s:Snap}(hR:Rel N np S0 w0 refs (dm np K s) a w S γ){N':NT}{refs':Refs}{a':Go.Act}(hb:refs'.blks=refs.blks)(hv:refs'.val=refs.val)(bF:a'.tmps.size=N'.n)(yc:a'.defers=refs'.ds)
  (dU:∀i∈K.slots,tm a' i=tm a i)(hk:∀g o,refs'.kw g=some o->w.heap[g]? = some o/\∀k b,(dm np K s).bx k = .live b->blk (γ k)≠some g)
  (hf:∀i v,refs'.fix i=some v->N'.pin i=true/\a'.tmps.getD i undef=v):Rel N' np S0 w0 refs' (dm np K s) a' w S γ:=by
 refine hR.swap hb hv bF yc (λi=>?_) hk hf;obtain⟨⟨c,hc⟩,hd⟩:=Zh np K s i;by_cases hi:i∈K.slots
 .have:=hR.slot i;rw[hc]at this ⊢;rw[dU i hi];exact this
 .rw[hd hi];exact⟨trivial,λh=>absurd rfl h⟩
end
section
variable{P:Program}{F:Fence}{n:Nat}{b:Frame}{a:Go.Act}{k:List Go.Item}{cs:List Frame}{w:World}{Q:Exit->Go.Act->World->Prop}
theorem yd{c:Code}:step P (lone (b.atR a (.code (.scope c)::k)) cs w) = .next (lone (b.atR a (.code c :: .inScope c::k)) cs w):=
 step_lone_go (by simp[stepG,stepG.exec,Frame.atR])
theorem Zi{c:Code}:step P (lone (b.atR a (.inScope c::k)) cs w) = .next (lone (b.atR a k) cs w):=
 step_lone_go (by simp[stepG,stepG.exec,Frame.atR])
theorem Zj{c:Code}(Zk:∀l a w,¬Q (.goto l) a w)(h:c.wpIn F n P Q a w):(Code.scope c).wpIn F n P Q a w:=by
 intro b k cs fW hb hr;have h0:(lone (b.atR a (.code (.scope c)::k)) cs w).fenced P F:=fenced_calm hb hr rfl;obtain⟨e,a₁,w₁,hq,nJ⟩:=h b (.inScope c::k) cs fW hb hr;cases e with
 |normal=>exact⟨.normal,a₁,w₁,hq,.head h0 yd (StepsIn.trans nJ (.one (fenced_calm hb hr rfl) Zi))⟩
 |exit id=>
  have hx:exitTo id (.inScope c::k)=exitTo id k:=by simp[exitTo]
  exact⟨_,a₁,w₁,hq,λk' hk=> .head h0 yd (nJ.1 k' (by rw[hx];exact hk)),
   λpd hk=>let ⟨k₁,h1,h2⟩:=nJ.2 pd (by rw[hx];exact hk);⟨k₁,h1,.head h0 yd h2⟩⟩
 |goto l=>exact absurd hq (Zk l a₁ w₁)
 |ret=>exact⟨_,a₁,w₁,hq,.of_steps (.one h0 yd) nJ⟩
 |panic ch=>exact⟨_,a₁,w₁,hq,.of_steps (.one h0 yd) nJ⟩
 |outgrown=>exact⟨_,a₁,w₁,hq,.of_steps (.one h0 yd) nJ⟩
end
section
variable{N:NT}{np:Nat}{S0:aH}{w0:World}{refs:Refs}{σ:St}{a:Go.Act}{w:World}{S:aH}{γ:Nat->Value}
theorem Zl{α:Type}{xs:List α}{d:α}(h:xs.length=1):xs=[xs.getD 0 d]:=by
 match xs,h with
 |[x],_=>rfl
theorem Zm(hR:Rel N np S0 w0 refs σ a w S γ)(hc:dg σ){g:Gh}{σ':St}(h:y8 np σ g=some (true,σ')):∃S' γ',Rel N np S0 w0 refs σ' a w S' γ'/\dg σ':=by
 cases g with
 |ex k c n=>
  simp only[y8]at h;split at h
  case h_2=>simp at h
  rename_i ls hk;split at h
  case h_2=>simp at h
  rename_i b hs;split at h
  case h_2=>simp at h
  rename_i e t xs hb;split at h
  case isTrue=>simp at h
  rename_i bV;simp only[j4,j8]at h;obtain⟨h1,rfl⟩:=h;have h1:xs.length=1:=Nat.eq_of_beq_eq_true h1;simp only[z6,not_or,Bool.not_eq_true,beq_eq_false_iff_ne,Bool.not_eq_false']at bV;obtain⟨⟨⟨⟨hm,hp⟩,wk⟩,cF⟩,hn⟩:=bV
  have hn:σ.bx n = .free:=by
   revert hn
   cases σ.bx n<;>simp[gx]
  have om:k≠n:=by rintro rfl;rw[hn]at hk;simp at hk
  obtain⟨gk,Ie,ek,sb,Qo,AS,br,Xg,_⟩:=hR.box k _ hk
  have Af:ls[c]? = some (.ol b):=by
   cases dp:ls[c]? with
   |none=>simp[dp]at hs
   |some x=>simp[dp]at hs;rw[hs]
  obtain⟨z,hz,gD⟩:=AS.get c _ Af;have hu:z=γ b:=gD.2.2 _ hb;obtain⟨css,aJ,al,hS⟩:=gR hm (hR.box b _ hb);rcases aJ.2 with⟨_,mj⟩|⟨gb,cap,cur,hg,_,hh,hle,jF,dr,cX⟩
  .omega
  have hlen:=All2.flatten_length (λx c hx=>Rep.length t x c hx) al;rw[h1,Nat.one_mul]at hlen cX;have mz:=Zl (d:=t.dflt) h1;rw[mz]at al;have bj:=DO hR hb;have nB:(σ.setB b .gone).bx n = .free:=by rw[cj σ _ (Ne.symm wk)];exact hn
  have bk:Rep S w t (xs.getD 0 t.dflt) css.flatten:=by
   match css,al with
   |[c],h=>simpa using h.1
  have tU:=ny t _ _ bk;have gM:((scat t (xs.getD 0 t.dflt)).map TV.leaf).length=t.size:=by rw[kb,tU.length,hlen]
  obtain⟨bY,fg⟩:=Hq bj nB (v':= .pointer (some ⟨gb,0,none⟩)) (b:= .cell ((scat t (xs.getD 0 t.dflt)).map TV.leaf) false) (λg' an=>by
   have an:gb=g':=by simpa[blk]using an
   subst an;have Ig:blk (γ b)=some gb:=by rw[hg];rfl
   refine⟨⟨?_,hR.kw_live hb Ig⟩,λk' b' aD bf=>?_⟩
   .rcases hR.own b _ gb hb Ig with h|h
    .exact h
    .rw[hp]at h;simp at h
   .have bL:k'≠b:=by rintro rfl;rw[er]at aD;simp at aD
    rw[cj σ _ bL]at aD;exact hR.apart k' b _ _ gb bL aD hb bf Ig) (by
   refine⟨gb,cur,_,dY _ _ _,hh,?_,?_,λ_ o=>(hS gb (by rw[hg];rfl)).1 rfl o,by simp⟩
   .rw[gM,cX];exact oY tU
   .rw[gM,cX];exact Rep.one _ _ _ bk)
  have fL:((σ.setB b .gone).setB n (.live (.cell ((scat t (xs.getD 0 t.dflt)).map TV.leaf) false))).bx k = .live (.cell ls false):=by rw[cj _ _ om,cj _ _ (λh=>cF h.symm)];exact hk
  refine⟨S,_,PS bY fL (b':= .cell (ls.set c (.s1 n)) false) trivial (λbx' r6=>?_),λi=>hc i⟩;obtain⟨g3,Zn,e3,q1,q2,q3,q4,q5,_⟩:=bY.box k _ fL;rw[eI γ _ om,sb]at q1;simp at q1;subst q1;rw[Qo]at q2;simp at q2;obtain⟨rfl,rfl⟩:=q2;refine⟨gk,Ie,ek,by rw[eI γ _ om];exact sb,Qo,?_,by rw[zr];exact q4,q5,by simp⟩;rw[zr];refine All2.set_left (q3.mono (λx u hx=>bn.keep (.refl S w) r6 hx)) c (.s1 n) z hz ?_;have pH:((σ.setB b .gone).setB n (.live (.cell ((scat t (xs.getD 0 t.dflt)).map TV.leaf) false))).bx n = .live (.cell ((scat t (xs.getD 0 t.dflt)).map TV.leaf) false):=er _ _ _;refine bn.keep (.refl S w) r6 (x:= .s1 n) ⟨by rw[pH];simp,gD.2.1,λb' aD=>?_⟩;rw[pH]at aD;cases aD;refine⟨gb,cap,dY _ _ _,?_,by omega,jF⟩;rw[hu,hg,h1]
 |se k=>
  simp only[y8]at h;split at h
  case h_2=>simp at h
  rename_i ls hk;split at h
  case isTrue=>simp at h
  rename_i hp;split at h
  case h_2=>simp at h
  rename_i xs u hx;split at h
  case isTrue=>simp at h
  rename_i jL;simp only[j4,j8,kp]at h;subst h;have hp:parK np k=false:=qb.2 hp;have jL:u.any (λy=>y.1==k)=false:=qb.2 jL;have aL:RdF np σ (λj=>if parK np j then .gone else mskM σ.bx j):=xX (RdR.msk λ_=> .inl rfl);obtain⟨g,cur,e,hg,hh,cT,_⟩:=hR.box k _ hk;obtain⟨hf,qX⟩:=vN aL hx cT;obtain⟨S1,bj,cu,gj,dx⟩:=mT u σ S hR hf;have dD:(σ.upd u).bx k = .live (.cell ls false):=(jH u σ jL).trans hk
  obtain⟨S2,g2,bY,_⟩:=O8 bj dD hp (xs:=xs) (λg' gV e' an th _=>by
   rw[hg]at an;simp at an;subst an;rw[hh]at th;simp at th;obtain⟨rfl,_⟩:=th;exact qX S1 w cu gj)
  refine⟨S2,γ,by rw[iN];exact bY,λi=>?_⟩;rw[tn];exact hc i
 |da l=>
  simp only[y8]at h;split at h
  .rename_i σ1 hd;simp only[j4,j8,kp]at h;subst h;obtain⟨S',cE,dp⟩:=HV l σ σ1 S hR hc hd;exact⟨S',γ,cE,dp⟩
  .simp at h
theorem Ih{R:Type}{r:R}:∀{gs:List Gh}{σ:St}{S:aH}{γ:Nat->Value}{k:St->Option R},Rel N np S0 w0 refs σ a w S γ->dg σ->uU np gs σ k=some r->
  ∃σ' S' γ',Rel N np S0 w0 refs σ' a w S' γ'/\dg σ'/\k σ'=some r
 |[],σ,S,γ,k,hR,hc,h=>⟨σ,S,γ,hR,hc,h⟩
 |g::gs,σ,S,γ,k,hR,hc,h=>by
  simp only[uU]at h;split at h
  .rename_i b σ1 hg;cases b with
   |false=>simp at h
   |true=>obtain⟨S1,γ1,bj,fa⟩:=Zm hR hc hg;exact Ih bj fa h
  .simp at h
end
section
variable{N:NT}{np:Nat}{S0:aH}{w0:World}{refs:Refs}{σ:St}{a:Go.Act}{w:World}{S:aH}{γ:Nat->Value}
def exOf:Ex->Exit
 |.normal=> .normal
 |.exit i=> .exit i
 |.ret=> .ret
def fN:Nat->Code->List (Nat×Code)
 |b,.seq x y=>fN b x++fN b y
 |b,.cond _ x y=>fN b x++fN b y
 |_,.block id c=>fN id c
 |b,.loop c=>(b,c)::fN b c
 |b,.rangeFunc g ps x y=>[(b,.rangeFunc g ps x y)]
 |b,.scope c=>fN b c
 |_,_=>[]
def AW(E:Env)(b:Nat)(c:Code):Prop:=
 ∀(s:Snap)(R:Type)(k:Ex->Snap->Option R)(r:R),E.L b s R k=some r->∃n e s',loopN (GI E b c) n s=some (e,s')/\k e s'=some r
theorem AX(p:Nat->Prop):∀n,p n->∃m,p m/\∀j,p j->m<=j:=by
 intro n;induction n using Nat.strongRecOn with
 |_ n ih=>
  intro h;by_cases hj:∃j,j<n/\p j
  .obtain⟨j,hj,hp⟩:=hj;exact ih j hj hp
  .exact⟨n,h,λj hp=>Nat.le_of_not_lt λhl=>hj ⟨j,hl,hp⟩⟩
open Classical in
noncomputable def Em(p:Nat->Prop):Nat:=if h:∃n,p n then (AX p h.choose h.choose_spec).choose else 0
theorem Qp{p:Nat->Prop}{n:Nat}(h:p n):p (Em p)/\Em p<=n:=by
 unfold Em;have hx:∃n,p n:=⟨n,h⟩;rw[dif_pos hx];exact⟨(AX p hx.choose hx.choose_spec).choose_spec.1,(AX p hx.choose hx.choose_spec).choose_spec.2 n h⟩
theorem Qq{P:Program}{F:Fence}{n0:Nat}{Q:Exit->Go.Act->World->Prop}{c:Code}(I:Nat->Go.Act->World->Prop){n:Nat}(h₀:I n a w)
  (round:∀n a w,I n a w->c.wpIn F n0 P (Exit.then (λa' w'=>∃m,m<n/\I m a' w') Q) a w):(Code.loop c).wpIn F n0 P Q a w:=by
 refine wpIn_loop (λa w=>∃n,I n a w) (λa w=>Em λn=>I n a w) ⟨n,h₀⟩ (λa w hI=>?_);obtain⟨m,hm⟩:=hI;have hl:=(Qp (p:=λn=>I n a w) hm).1;refine wpIn_mono (round _ a w hl) (λe a' w' h=>?_);cases e with
 |normal=>obtain⟨m',au,En⟩:=h;exact⟨⟨m',En⟩,Nat.lt_of_le_of_lt (Qp (p:=λn=>I n a' w') En).2 au⟩
 |_=>exact h
def AY(w0:World)(refs:Refs):Prop:=
 refs.ds.Nodup/\∀d∈refs.ds,∃D,d={ target:= .collected D,args:=#[] }/\w0.heap.size<=D/\refs.kw D=some (.deferred (some []))
structure tV(w0:World)(refs refs':Refs):Prop where
 blks:refs'.blks=refs.blks
 val:refs'.val=refs.val
 fix:refs'.fix=refs.fix
 marks:AY w0 refs'
theorem tV.trans{r r' Qr:Refs}(h:tV w0 r r')(h':tV w0 r' Qr):tV w0 r Qr:=⟨h'.blks.trans h.blks,h'.val.trans h.val,h'.fix.trans h.fix,h'.marks⟩
def Post(E:Env)(S0:aH)(w0:World)(refs:Refs)(pl:Bool){R:Type}(k:Ex->St->Option R)(r:R):Exit->Go.Act->World->Prop:=
 λe a' w'=>∃refs' ex σ' S' γ',tV w0 refs refs'/\(pl=true->refs'=refs)/\exOf ex=e/\Rel E.N E.np S0 w0 refs' σ' a' w' S' γ'/\dg σ'/\k ex σ'=some r
theorem Ii{E:Env}{pl:Bool}{R:Type}{k:Ex->St->Option R}{r:R}:¬LetsOut (Post E S0 w0 refs pl k r):=by
 rintro⟨a,w,refs',ex,_,_,_,_,_,he,_⟩
 cases ex<;>simp[exOf]at he
def BwOK(P:Program)(f:Nat)(t:Ty):Prop:=
 Fun P f/\∀(cv:Array Value)(m l:Nat)(J:Nat->aH->World->Prop)(Jx:World->Prop)(W:World)(S:aH),
  (∀j S W S' W',Grew W W'->yb S W S' W'->J j S W->J j S' W')->(∀W W',Grew W W'->Jx W->Jx W')->(∀j S W,J j S W->∀g o,S g o->g<W.heap.size)->
  (∀j S W,j<m->J j S W->∃xs:List t.den,All2 (iz S W) [.p [⟨.list t,xs⟩]] cv.toList/\m-1-j<xs.length/\∀S' W' x v,Grew W W'->yb S W S' W'->xs[m-1-j]? = some x->VRep S' W' ⟨t,x⟩ v->
   YieldAt (FR none) 0 P l #[.int .i64 ((m-1-j:Nat):Int),v] W' λe W'=>(e = .returned (.bool true)/\∃S',J (j+1) S' W')\/(e = .returned (.bool false)/\Jx W'))->
  (∃(S':aH)(xs:List t.den),xs.length=m/\(∀g o,S' g o->g<W.heap.size)/\All2 (iz S' W) [.p [⟨.list t,xs⟩]] cv.toList)->J 0 S W->
  CallsIn (FR none) 0 P f (#[.func (.yield l) #[] #[]]++cv) W λe W'=>(∃v,e = .returned v)/\((∃S',J m S' W')\/Jx W')
def ItOK(P:Program)(f:Nat)(kd:Bool)(t:Ty):Prop:=
 Fun P f/\∀(cv:Array Value)(l:Nat)(J:Int->aH->World->Prop)(Je Jx:World->Prop)(W:World)(S:aH)(fX:List t.den),
  (∀c S W S' W',Grew W W'->yb S W S' W'->J c S W->J c S' W')->(∀W W',Grew W W'->Je W->Je W')->(∀W W',Grew W W'->Jx W->Jx W')->(∀c S W,J c S W->∀g o,S g o->g<W.heap.size)->
  (∀c S W,J c S W->∃xs:List t.den,All2 (iz S W) [.p [⟨.list t,xs⟩]] cv.toList/\(GH kd xs.length c=true->Je W)/\
   (GH kd xs.length c=false->itOk kd xs.length c=true/\∀S' W' vs,Grew W W'->yb S W S' W'->All2 (VRep S' W') (zB kd t xs c) vs->
    YieldAt (FR none) 0 P l vs.toArray W' λe W'=>(e = .returned (.bool true)/\∃S',J (zA kd c) S' W')\/(e = .returned (.bool false)/\Jx W')))->
  (∃S',(∀g o,S' g o->g<W.heap.size)/\All2 (iz S' W) [.p [⟨.list t,fX⟩]] cv.toList)->J (y9 kd fX.length) S W->
  CallsIn (FR none) 0 P f (#[.func (.yield l) #[] #[]]++cv) W λe W'=>(∃v,e = .returned v)/\(Je W'\/Jx W')
def Ij(P:Program)(fK fS e:Nat):Prop:=Fun P fK/\Fun P fS/\∀(w:World)(g:Nat)(es:Array MapEntry)(clock:Nat)(ks:List Int),
 w.heap[g]? = some (.map es clock)->MapKept.Stamped es clock->es.toList.map (·.key)=ks.map (Value.int .i64)->(∀x∈ks, -9223372036854775808<=x/\x<=9223372036854775807)->ks.length<=1000000->
 Calls P fK #[.map (some g)] w λr w1=>∃c,r = .returned c/\Grew w w1/\Calls P fS #[c] w1 λr2 w2=>∃v,r2 = .returned v/\w2.ownsRow w1.heap.size e 1 v ks.length ((nX ks).map (Value.int .i64))/\Grew w1 w2
def BwK(P:Program)(f:Nat):Bool×Ty->Prop
 |(true,.arr fK (.arr e .bool))=>Ij P fK f e
 |(kd,t)=>ItOK P f kd t
theorem BwK.it{P:Program}{f:Nat}{kd:Bool}{t:Ty}(h:BwK P f (kd,t))(ht:kd=true->t=segT):ItOK P f kd t:=by
 cases kd with
 |false=>exact h
 |true=>obtain rfl:=ht rfl;exact h
section
variable{N:NT}{np:Nat}{S0:aH}{w0:World}{refs:Refs}{σ:St}{a:Go.Act}{w:World}{S:aH}{γ:Nat->Value}
theorem Zo(ks:List Int):(nX ks).length=ks.length:=by
 have hi:∀(x:Int)(l:List Int),(insI x l).length=l.length+1:=by
  intro x l;induction l with
  |nil=>rfl
  |cons y r ih=>unfold insI;cases decide (x<=y)<;>simp[ih]
 induction ks with
 |nil=>rfl
 |cons x r ih=>simp[nX,hi,ih]
theorem Qs{vt:Ty}:∀{xs:List (Int×vt.den)}{l:List MapEntry},All2 (λ(x:(Ty.int .i64).den×vt.den)(e:MapEntry)=>Rep S w (.int .i64) x.1 [e.key]/\VRep S w ⟨vt,x.2⟩ e.val) xs l->
  l.map (·.key)=(xs.map λx=>x.1).map (Value.int .i64)
 |[],[],_=>rfl
 |[],_::_,h=>h.elim
 |_::_,[],h=>h.elim
 |y::r,z::q,h=>by
  have h1:[z.key]=[Value.int .i64 y.1]:=h.1.1;simp only[ka,zt];exact⟨by simpa using h1,Qs h.2⟩
theorem Zp{P:Program}{E:Env}(jP:∀f t,E.bw f=some t->BwK P f t)(hR:Rel E.N E.np S0 w0 refs σ a w S γ)(hc:dg σ){o o2:Oper}(hd:l7 E.N o=true)(me:l7 E.N o2=true)
  {σ':St}(h:GC E σ o o2=some (true,σ')){next tW:Go.Act->World->Prop}{Q:Exit->Go.Act->World->Prop}
  (nB:∀a1 w1,o2.wp P a1 w1 next Q->tW a1 w1)(hn:∀a' w' S' γ',Rel E.N E.np S0 w0 refs σ' a' w' S' γ'->dg σ'->next a' w'):o.wp P a w tW Q:=by
 unfold GC at h;split at h
 case h_2=>simp at h
 rename_i c1 c2 ho nF;split at h
 case h_2=>simp at h
 rename_i f1 x f2 d fa Ik gz qQ;split at h
 case h_2=>simp at h
 rename_i fK b fS o5 hx rP;split at h
 case h_2=>simp at h
 rename_i GD e em ta xs fr Zq Qt;split at h
 case h_2=>simp at h
 rename_i cq ys rh;split at h
 case isFalse=>simp at h
 rename_i bV;obtain⟨rfl,Il,D7,Im,aR⟩:=bV;simp only[j4,j8]at h;obtain⟨rfl,rfl⟩:=h;obtain⟨Zr,Zs,dV⟩:Ij P GD fS e:=jP _ _ Zq;have Qu:=mR hR x;rw[hx]at Qu;have HP:a.eval x=γ b:=Qu.1.2.2 _ Qt;unfold Of at rh;split at rh
 case h_2=>simp at rh
 rename_i vt xs;simp only[j4,j8]at rh;obtain⟨br,rfl⟩:=rh
 obtain⟨g,es,clock,hg,hh,al,aA⟩:zG S w (.pair (.int .i64) vt) xs (γ b):=by
  rcases (hR.box b _ Qt).1 with⟨hm,_⟩|⟨_,hm⟩
  .rw[D7]at hm;simp at hm
  .exact hm
 unfold yP at br;simp only[ja,jp,jk]at br;have qW:xs.length<=1000000:=zu br.1;have hks:es.toList.map (·.key)=(xs.map λx=>x.1).map (Value.int .i64):=by exact Qs al
 have cP:=dV w g es clock (xs.map λx=>x.1) hh aA hks (λz hz=>by
  obtain⟨y,hy,rfl⟩:=jx.1 hz;exact br.2 y hy) (by simpa using qW)
 have Qv:=mR hR f1;rw[o5]at Qv;obtain⟨cv,Hv,lP⟩:=Qv.1
 obtain rfl:cv = #[]:=by
  have:cv.toList=[]:=by
   cases hq:cv.toList with
   |nil=>rfl
   |cons=>rw[hq]at lP;exact lP.elim
  exact zb.1 this
 have az:=D4 (w:=w) Zr ho fa Hv;have e1:c1.args.map a.eval ++ #[] = #[.map (some g)]:=by apply kq;simp[Ik,HP,hg]
 rw[e1]at az;unfold Oper.wp;rw[az,Oper.upon_enter];refine cP.mono ?_
 rintro r w1 ⟨c,rfl,vE,Io⟩
 have bj:=hR.grew vE (S':=S) ⟨λ_ _ h=>h,λ_ _ h=> .inl h,λg o h=>kr (hR.here g o h) vE.size⟩;obtain⟨bY,Ip⟩:=D9 bj hc (xZ hd) (s:= .one (.one .dead)) (v:=c) ⟨trivial,λh=>absurd rfl h⟩ rfl;have AZ:=mR bY f2;rw[rP]at AZ;obtain⟨cv,DW,lP⟩:=AZ.1
 obtain rfl:cv = #[]:=by
  have:cv.toList=[]:=by
   cases hq:cv.toList with
   |nil=>rfl
   |cons=>rw[hq]at lP;exact lP.elim
  exact zb.1 this
 have tX:=D4 (w:=w1) Zs nF gz DW;have Zt:d<a.tmps.size:=by rw[hR.size];exact(xZ hd d Il).1
 have e2:c2.args.map (a.put o.dst c).eval ++ #[] = #[c]:=by
  apply kq;have:(a.put o.dst c).eval (.tmp d)=c:=by show tm (a.put o.dst c) d=c;rw[Il,xY Zt,if_pos rfl]
  simp[qQ,this]
 rw[e2]at tX;refine nB _ _ ?_;unfold Oper.wp;rw[tX,Oper.upon_enter];refine Io.mono ?_
 rintro r2 w2 ⟨v,rfl,bQ,nK⟩
 have gC:(σ.setD o.dst (.one (.one .dead))).bx ((o2.dst.getD 0)*64) = .free:=by
  rw[show (σ.setD o.dst (.one (.one .dead))).bx=σ.bx by rw[Il];rfl];cases hq:σ.bx ((o2.dst.getD 0)*64) with
  |free=>rfl
  |gone=>rw[hq]at aR;simp[gx]at aR
  |live=>rw[hq]at aR;simp[gx]at aR
 have hblk:∀g',blk v=some g'->w1.heap.size<=g'/\g'<w2.heap.size:=by
  intro g' an;rcases bQ.2 with⟨rfl,_⟩|⟨gb,cap,cur,rfl,dG,AB,_⟩
  .simp[blk]at an
  .simp[blk]at an;subst an;exact⟨dG,(jf.1 AB).1⟩
 have kY:w2.ownsRow 0 e (Ty.int .i64).size v (iw xs).length (((iw xs).map (λx=>[Value.int .i64 x])).flatten):=by
  have e3:((iw xs).map (λx=>[Value.int .i64 x])).flatten=(nX (xs.map λx=>x.1)).map (Value.int .i64):=by
   unfold iw;induction nX (xs.map λx=>x.1) with
   |nil=>rfl
   |cons y r ih=>simp only[ka,ke,ih];rfl
  rw[e3,show (iw xs).length=(xs.map λx=>x.1).length from Zo _];refine⟨bQ.1,?_⟩;rcases bQ.2 with hl|⟨gb,cap,cur,h1,h2,h3⟩
  .exact .inl hl
  .exact .inr ⟨gb,cap,cur,h1,k7 _,h3⟩
 have Zu:=zV bY gC (w':=w2) (S':=S) (v':=v) (e:=e) Im (el:= .int .i64) (zs:=iw xs) (frz:=false) (css:=(iw xs).map λx=>[Value.int .i64 x])
  (λg' o' hs=>⟨hs,World.cell?_of_block (nK.old g' (bY.here g' o' hs))⟩) (λg' an _=>nK.old g' an) nK.size
  (λg' an=>⟨kx bY.grow (hblk g' an).1,λk b' aD hk=>by have:=iO (bY.box k b' aD) hk;have:=(hblk g' an).1;omega,(hblk g' an).2⟩)
  (λ_ _ h=> .inl h) nK.os nK.tape nK.output kY (by
   generalize iw xs=l
   induction l with
   |nil=>trivial
   |cons y r ih=>exact⟨rfl,ih⟩)
  (λg' an=>⟨λ_ o' hs=>by have:=bY.here g' o' hs;have:=(hblk g' an).1;omega,λh=>by simp at h⟩) (λg' an=>bY.kw_new (hblk g' an).1)
 obtain⟨fi,pw⟩:=Zu;obtain⟨oA,oD⟩:=D9 fi (λi=>Ip i) (xZ me) (s:= .one (.one (.ol ((o2.dst.getD 0)*64)))) (v:=v) pw rfl;exact hn _ _ _ _ oA oD
theorem Iq{P:Program}{E:Env}(hT:cd P E.T)(hC:kA P E.C)(jP:∀f t,E.bw f=some t->BwK P f t){ops:Array Oper}(cQ:bare ops=true){R:Type}{k:St->Option R}{r:R}{Q:Exit->Go.Act->World->Prop}
  (hn:∀σ' a' w' S' γ',Rel E.N E.np S0 w0 refs σ' a' w' S' γ'->dg σ'->k σ'=some r->Q .normal a' w') :
  ∀(n i:Nat)(σ:St)(a:Go.Act)(w:World)(S:aH)(γ:Nat->Value),i+n=ops.size->Rel E.N E.np S0 w0 refs σ a w S γ->dg σ->rE E (ops.toList.drop i) σ k=some r->
   wpOps P ops Q (List.range' i n) a w
 |0,i,σ,a,w,S,γ,hi,hR,hc,h=>by
  rw[jc (by simp;omega)]at h;exact hn _ _ _ _ _ hR hc h
 |1,i,σ,a,w,S,γ,hi,hR,hc,h=>by
  have au:i<ops.size:=by omega
  rw[jb (by simpa using au),jc (by simp;omega)]at h;simp only[rE]at h;split at h
  .rename_i hd;have ho:ops[i]? = some ops[i]:=jr au;simp only[vb,wpOps,ho];have hg:ops[i].guard=none:=by have:=jp.1 cQ ops[i] (by simp);simpa using this
   have hw:Region.wanted ops[i] (yielded ops a.tmps)=true:=by simp[Region.wanted,hg]
   simp only[hw,if_true];exact .inl (x8 hT hC hR (act:=[]) (λg hg=>by simp at hg) (p:=false) (λ_=>hc) (by simpa using hd) (by simpa using h) (λσ' a' w' S' γ' cE dp hk=>hn _ _ _ _ _ cE (dp rfl) hk))
  .simp at h
 |n+2,i,σ,a,w,S,γ,hi,hR,hc,h=>by
  have au:i<ops.size:=by omega
  have sk:i+1<ops.size:=by omega
  rw[jb (by simpa using au),jb (by simpa using sk)]at h;simp only[rE]at h;have ho:ops[i]? = some ops[i]:=jr au;have nF:ops[i+1]? = some ops[i+1]:=jr sk
  have hw:∀(j:Nat)(hj:j<ops.size)(a:Go.Act),Region.wanted ops[j] (yielded ops a.tmps)=true:=λj hj a=>by
   have hg:ops[j].guard=none:=by have:=jp.1 cQ ops[j] (by simp);simpa using this
   simp[Region.wanted,hg]
  split at h
  case isFalse=>simp at h
  rename_i hd;split at h
  .rename_i cq σ' hks;split at h
   case isFalse=>simp at h
   rename_i me;cases cq with
   |false=>simp at h
   |true=>simp only[j5]at h;simp only[vb,wpOps,ho,nF,hw i au,hw (i+1) sk,if_true];refine .inl (Zp jP hR hc (by simpa using hd) (by simpa using me) (by simpa using hks) (λa1 w1 hq=> .inl hq) (λa' w' S' γ' cE dp=>?_));exact Iq hT hC jP cQ hn n (i+2) σ' a' w' S' γ' (by omega) cE dp h
  .rw[vb];simp only[wpOps,ho,hw i au,if_true];refine .inl (x8 hT hC hR (act:=[]) (λg hg=>by simp at hg) (p:=false) (λ_=>hc) (by simpa using hd) (by simpa using h) (λσ' a' w' S' γ' cE dp hk=>?_));refine Iq hT hC jP cQ hn (n+1) (i+1) σ' a' w' S' γ' (by omega) cE (dp rfl) ?_;rw[jb (by simpa using sk)];simpa using hk
theorem Zv{P:Program}{E:Env}(hT:cd P E.T)(hC:kA P E.C)(jP:∀f t,E.bw f=some t->BwK P f t)(hR:Rel E.N E.np S0 w0 refs σ a w S γ)(hc:dg σ){ops:Array Oper}{R:Type}{k:St->Option R}{r:R}
  {Q:Exit->Go.Act->World->Prop}(hn:∀σ' a' w' S' γ',Rel E.N E.np S0 w0 refs σ' a' w' S' γ'->dg σ'->k σ'=some r->Q .normal a' w')(h:yU E ops σ k=some r) :
  wpOps P ops Q (List.range ops.size) a w:=by
 rw[List.range_eq_range'];unfold yU at h;split at h
 .rename_i hb;exact Iq hT hC jP hb hn ops.size 0 σ a w S γ (by omega) hR hc (by simpa using h)
 .simp at h
end
theorem Zw{P:Program}{f:Nat}{t:Ty}(h:BwOK P f t):ItOK P f false t:=by
 refine⟨h.1,λcv l J Je Jx W S fX aA hse Zx hh hY cJ ye=>?_⟩;obtain⟨S',sq,dp⟩:=cJ;refine CallsIn.mono (h.2 cv fX.length l (λj S W=>j<=fX.length/\J ((fX.length:Int)-j) S W) Jx W S (λj S W S' W' hg hs hj=>⟨hj.1,aA _ _ _ _ _ hg hs hj.2⟩) Zx (λj S W hj=>hh _ _ _ hj.2) ?_ ⟨S',fX,rfl,sq,dp⟩ ⟨k7 _,?_⟩) ?_
 .rintro j S W hj ⟨_,hJ⟩
  obtain⟨xs,h1,_,h3⟩:=hY _ _ _ hJ;obtain⟨h4,h5⟩:=h3 (by show decide _=false;exact decide_eq_false (by omega));have h4:(fX.length:Int)-j<=Int.ofNat xs.length:=qd h4;have h4:(fX.length:Int)-j<=(xs.length:Int):=h4;refine⟨xs,h1,by omega,λS' W' x v hg hs hx hv=>?_⟩
  have Ir:All2 (VRep S' W') (zB false t xs ((fX.length:Int)-j)) [.int .i64 ((fX.length-1-j:Nat):Int),v]:=by
   refine⟨⟨?_,λhm=>absurd hm (show¬gQ (.int .i64)=true by decide),λ_=>rfl⟩,?_,trivial⟩
   .show [Value.int .i64 ((fX.length-1-j:Nat):Int)]=[Value.int .i64 ((fX.length:Int)-j-1)];rw[show ((fX.length-1-j:Nat):Int)=(fX.length:Int)-j-1 by omega]
   .have e:List.getD xs ((fX.length:Int)-j-1).toNat t.dflt=x:=by rw[show ((fX.length:Int)-j-1).toNat=fX.length-1-j by omega];simp[List.getD,hx]
    rw[e];exact hv
  obtain⟨fn,tmps,as,bo,hy,hR⟩:=h5 S' W' _ hg hs Ir;refine⟨fn,tmps,as,bo,hy,hR.mono λe W' he=>?_⟩;rcases he with⟨h6,S6,h7⟩|h6
  .refine .inl ⟨h6,S6,by omega,?_⟩;have e2:zA false ((fX.length:Int)-j)=(fX.length:Int)-((j+1:Nat):Int):=by show (fX.length:Int)-j-1=_;omega
   rw[<-e2];exact h7
  .exact .inr h6
 .have:((fX.length:Int)-((0:Nat):Int))=y9 false fX.length:=by show _=Int.ofNat fX.length;simp
  rw[this];exact ye
 .rintro e W' ⟨hv,⟨S',_,hJ⟩|hx⟩
  .obtain⟨xs,_,h2,_⟩:=hY _ _ _ hJ;exact⟨hv,.inl (h2 (by show decide _=true;exact vw (by omega)))⟩
  .exact⟨hv,.inr hx⟩
def Is(P:Program)(E:Env)(ro:Option Nat)(c:Code):Prop:=
 ∀(b n:Nat){S0:aH}{w0:World}{refs:Refs}{σ:St}{a:Go.Act}{w:World}{S:aH}{γ:Nat->Value}{R:Type}{k:Ex->St->Option R}{r:R},AY w0 refs->
  (∀x∈fN b c,AW E x.1 x.2)->Rel E.N E.np S0 w0 refs σ a w S γ->dg σ->eL E b c σ k=some r->c.wpIn (FR ro) n P (Post E S0 w0 refs (dB c) k r) a w
theorem tY:∀(c:Code)(b:Nat),dB c=true->fN b c=[]
 |.seq x y,b,h=>by simp only[dB,ja]at h;simp[fN,tY x b h.1,tY y b h.2]
 |.cond _ x y,b,h=>by simp only[dB,ja]at h;simp[fN,tY x b h.1,tY y b h.2]
 |.block id c,b,h=>by simp only[dB]at h;simp[fN,tY c id h]
 |.loop c,b,h=>by simp[dB]at h
 |.rangeFunc _ _ _ _,b,h=>by simp[dB]at h
 |.skip,_,_=>rfl
 |.region _ _ _,_,_=>rfl
 |.exit _,_,_=>rfl
 |.goto _,_,_=>rfl
 |.label _,_,_=>rfl
 |.ret,_,_=>rfl
 |.scope c,b,h=>by simp only[dB]at h;simp[fN,tY c b h]
theorem Qw:∀(L:List (Nat×Value))(T:Array Value),oc (L.map (·.1))=true->(∀q∈L,q.1<T.size)->
  (∀q∈L,(L.foldl (λt (q:Nat×Value)=>t.setIfInBounds q.1 q.2) T).getD q.1 undef=q.2)/\(∀i,i∉L.map (·.1)->(L.foldl (λt (q:Nat×Value)=>t.setIfInBounds q.1 q.2) T).getD i undef=T.getD i undef)/\
  (L.foldl (λt (q:Nat×Value)=>t.setIfInBounds q.1 q.2) T).size=T.size
 |[],T,_,_=>⟨λq h=>by simp at h,λ_ _=>rfl,rfl⟩
 |q::r,T,hn,hb=>by
  simp only[ka,oc,ja,kv,kz,ko]at hn;obtain⟨h1,h2,h3⟩:=Qw r (T.setIfInBounds q.1 q.2) hn.2 (λp hp=>by simpa using hb p (by simp[hp]));have hq:=hb q (by simp);refine⟨λp hp=>?_,λi hi=>?_,by simpa using h3⟩
  .rcases jd.1 hp with rfl|hp
   .show (List.foldl (λt (q:Nat×Value)=>t.setIfInBounds q.1 q.2) (T.setIfInBounds p.1 p.2) r).getD p.1 undef=_;rw[h2 p.1 hn.1];simp[Array.getD,hq]
   .exact h1 p hp
  .simp only[ka,jd,not_or]at hi;show (List.foldl (λt (q:Nat×Value)=>t.setIfInBounds q.1 q.2) (T.setIfInBounds q.1 q.2) r).getD i undef=_;rw[h2 i hi.2];rw[qu,Array.getElem?_setIfInBounds,if_neg (λh=>hi.1 h.symm),<-qu]
theorem Qx{N:NT}{np:Nat}:∀(L:List (Nat×TV)){σ:St},Rel N np S0 w0 refs σ a w S γ->dg σ->(∀q∈L,VRep S w q.2 (tm a q.1))->Rel N np S0 w0 refs (setL L σ) a w S γ/\dg (setL L σ)
 |[],_,hR,hc,_=>⟨hR,hc⟩
 |q::r,σ,hR,hc,hv=>by
  have h1:=HS hR (s:=q.1) (x:= .one (nZ q.2.t q.2.v)) (xR (hv q (by simp)));refine Qx r h1 (λi=>?_) (λp hp=>hv p (by simp[hp]));simp only[St.setS];split
  .rfl
  .exact hc i
theorem Qy{S:aH}{w:World}:∀{ps:List Nat}{xs:List TV}{vs:List Value},All2 (VRep S w) xs vs->∀q∈ps.zip xs,∃v,(q.1,v)∈ps.zip vs/\VRep S w q.2 v
 |[],_,_,_,q,h=>by simp at h
 |p::ps,[],vs,_,q,h=>by simp at h
 |p::ps,x::xs,[],h2,q,h=>h2.elim
 |p::ps,x::xs,v::vs,h2,q,h=>by
  simp only[List.zip_cons_cons,jd]at h;rcases h with rfl|h
  .exact⟨v,by simp,h2.1⟩
  .obtain⟨u,h3,h4⟩:=Qy h2.2 q h;exact⟨u,by simp[h3],h4⟩
theorem Qz:∀(ps:List Nat)(vs:List Value),oc ps=true->oc ((ps.zip vs).map (·.1))=true
 |[],_,_=>by simp[oc]
 |p::ps,[],_=>by simp[oc]
 |p::ps,v::vs,h=>by
  simp only[oc,ja,kv,kz,ko,List.zip_cons_cons,ka]at h ⊢;refine⟨λhm=>h.1 ?_,Qz ps vs h.2⟩;obtain⟨q,hq,he⟩:=jx.1 hm;rw[<-he];exact(List.of_mem_zip hq).1
theorem Zy{kd:Bool}{t:Ty}{xs:List t.den}{c:Int}(h:kd=true->t=segT):(zB kd t xs c).length=cond kd 1 2:=by
 cases kd with
 |false=>rfl
 |true=>have:=h rfl;subst this;rfl
theorem Zz{P:Program}{E:Env}(jP:∀f t,E.bw f=some t->BwK P f t)(mB:E.N.pin=λ_=>false){b n:Nat}{g:Operand}{ps:Array Nat}{x y:Code}
  (pI:∀l,dB x=true->Is P (E.rnd ps x y) (some l) x)(pJ:∀l,dB y=true->Is P (E.rnd ps x y) (some l) y)
  (ZA:AW E b (.rangeFunc g ps x y)){R:Type}{k:Ex->St->Option R}{r:R}(hm:AY w0 refs)(hR:Rel E.N E.np S0 w0 refs σ a w S γ)(hc:dg σ)
  (h:eL E b (.rangeFunc g ps x y) σ k=some r) :
  (Code.rangeFunc g ps x y).wpIn (FR none) n P (Post E S0 w0 refs (dB (.rangeFunc g ps x y)) k r) a w:=by
 refine Zf (n:=1) ?_;simp only[eL]at h;split at h
 case h_2=>simp at h
 rename_i f t xs oz;split at h
 case h_2=>simp at h
 rename_i kd br;split at h
 case h_2=>simp at h
 rename_i s hs;obtain⟨ZB,e,s',Ba,hk⟩:=ZA _ R _ r h;have bk:=mR hR g;rw[oz]at bk;obtain⟨⟨cv,QA,lP⟩,_⟩:=bk;obtain⟨S1,γ1,bj,fa⟩:=tP hR hc hs
 have parts:∀f t kd,rfK E b f t ps x y=some kd->E.bw f=some (kd,t)/\(kd=true->t=segT)/\ps.toList.length=cond kd 1 2/\oc ps.toList=true/\(∀p∈ps.toList,p<E.N.n)/\dB x=true/\dB y=true/\pinK ps x y (E.keep b)=true:=by
  intro f t kd br;unfold rfK at br;split at br
  case h_2=>simp at br
  rename_i q hq;cases pK:(decide (q.2=t)&&(cond q.1 (decide (t=segT)) true&&(decide (ps.toList.length=cond q.1 1 2)&&(oc ps.toList&&(ps.toList.all (λp=>decide (p<E.N.n))&&(dB x&&(dB y&&pinK ps x y (E.keep b)))))))) with
  |false=>rw[pK]at br;simp at br
  |true=>
  rw[pK,j5,j4]at br;subst br;simp only[ja,jk,jp]at pK;obtain⟨h1,h0,h2,h3,h4,h5,h6,h7⟩:=pK;exact⟨by rw[hq,<-h1],λhk=>by rw[hk]at h0;exact qd h0,h2,h3,h4,h5,h6,h7⟩
 obtain⟨QB,Bb,h2,dy,au,wA,wB,QC⟩:=parts f t kd br;obtain⟨⟨QD,It,tZ,bT⟩,x9⟩:=(jP f _ QB).it Bb
 have ZC:∀args w,(callFunc f args).run P w = .ok (.enter f args) w:=λargs w=>by
  have jY:¬QD.body=none:=λhn=>by rw[hn]at tZ;simp at tZ
  have tF : ¬ QD.name = "runtime.NumGoroutine" := by simpa using bT
  simp[callFunc,It,jY,tF]
 refine wpIn_rangeFunc λfn _=>?_;obtain⟨rec,fv⟩:∃rec:LoopState->Option Code->Loop,rec=λst pe=>{ state:=st,pending:=pe,fn,tmps:=a.tmps,params:=ps,assign:=x,body:=y,defers:=w.heap.size }:=⟨_,rfl⟩;obtain⟨W1,yf⟩:∃W1,(w.alloc (.deferred (some []))).alloc (.loop (rec .ready none))=W1:=⟨_,rfl⟩
 refine⟨w.heap.size+1,[{ target:= .collected w.heap.size,args:=#[] }],W1,{ target:= .fn (.func f) cv,args:=#[.func (.yield (w.heap.size+1)) #[] #[]] },W1,f,
  #[.func (.yield (w.heap.size+1)) #[] #[]]++cv,W1,?_,?_,λ_ _=>trivial,?_,λhd=>by simp[FR,Fence.wide]at hd,?_⟩
 .rw[<-yf,fv];exact run_enterLoop_outer _ _ _ _ _
 .simp only[resolve,QA];simp[go_sem]
 .simp[invoke,go_sem,ZC]
 obtain⟨l,hl⟩:∃l,l=w.heap.size+1:=⟨_,rfl⟩;rw[<-hl];let bZ:(Nat->Option Value)->Obj->Refs:=λfx o=>{ blks:=refs.blks,val:=refs.val,ds:=[],kw:=λg=>if g=l then some o else if g=w.heap.size then some (.deferred (some [])) else refs.kw g,fix:=fx }
 let fx:Nat->Option Value:=λi=>if xC ps x y i then some (a.tmps.getD i undef) else none
 let aI:Go.Act:={ tmps:=a.tmps,defers:=[] }
 have gN:∀fx o,(bZ fx o).kw l=some o:=λfx o=>by simp[bZ]
 have iX:w0.heap.size<=l:=by have:=hR.grow;omega
 have bd:∀fx o,AY w0 (bZ fx o):=λfx o=>⟨zh,λd hd=>by simp[bZ]at hd⟩
 have kV:∀{N:NT}{fx:Nat->Option Value}{o o':Obj}{σ:St}{a:Go.Act}{W:World}{S:aH}{γ:Nat->Value},o.isCells=false->o'.isCells=false->Rel N E.np S0 w0 (bZ fx o) σ a W S γ->
   Rel N E.np S0 w0 (bZ fx o') σ a (W.putObj l o') S γ:=by
  intro N fx o o' σ a W S γ h1 h2 hR;have:=hR.putO (gN fx o) iX h1 h2;refine this.swap rfl rfl this.size this.defers this.slot (λg u hg=>this.kept g u ?_) this.fix;simp only[bZ]at hg ⊢;split
  .rename_i e;subst e;simpa using hg
  .rename_i e;simpa[e]using hg
 have pL:∀{N N':NT}{fx Iu:Nat->Option Value}{o:Obj}{K:Keep}{s:Snap}{a a':Go.Act}{W:World}{S:aH}{γ:Nat->Value},Rel N E.np S0 w0 (bZ fx o) (dm E.np K s) a W S γ->a'.tmps.size=N'.n->a'.defers=[]->
   (∀i∈K.slots,tm a' i=tm a i)->(∀i v,Iu i=some v->N'.pin i=true/\a'.tmps.getD i undef=v)->Rel N' E.np S0 w0 (bZ Iu o) (dm E.np K s) a' W S γ:=by
  intro N N' fx Iu o K s a a' W S γ hR h1 h2 h3 h4;exact hR.frame rfl rfl h1 h2 h3 (λg u hg=>hR.kept g u hg) h4
 have pM:∀i v,(λ_=>none:Nat->Option Value) i=some v->E.N.pin i=true/\aI.tmps.getD i undef=v:=λi v h=>by simp at h
 let J:Int->aH->World->Prop:=λc S W=>∃s γ fu,Rel E.N E.np S0 w0 (bZ (λ_=>none) (.loop (rec .ready none))) (dm E.np (E.keep b) s) aI W S γ/\dg (dm E.np (E.keep b) s)/\
  loopN (xD E b g ps x y) fu (.s (.one (.d (.int .i64) c))::s)=some (e,s')
 let Je:World->Prop:=λW=>∃S γ,Rel E.N E.np S0 w0 (bZ (λ_=>none) (.loop (rec .ready none))) (dm E.np (E.keepX b e) s') aI W S γ/\dg (dm E.np (E.keepX b e) s')/\e = .normal
 let Jx:World->Prop:=λW=>∃S γ c,Rel E.N E.np S0 w0 (bZ (λ_=>none) (.loop (rec .done (some c)))) (dm E.np (E.keepX b e) s') aI W S γ/\dg (dm E.np (E.keepX b e) s')/\
  ((e = .ret/\c = .ret)\/∃i,e = .exit i/\c = .exit i)
 have ua:∀K:Keep,pinK ps x y K=true->∀i∈K.slots,xC ps x y i=true:=λK hK i hi=>jp.1 hK i hi;have ub:∀i,xC ps x y i=true->i∉ps.toList:=by intro i hi;simp only[xC,ja,kv,kz,ko]at hi;exact hi.1
 have ye:J (y9 kd xs.length) S1 W1:=by
  refine⟨s,γ1,ZB,?_,fa,Ba⟩;have hA:=(bj.allocO (.deferred (some []))).allocO (.loop (rec .ready none));rw[yf]at hA;refine hA.frame rfl rfl hR.size rfl (λi _=>rfl) (λg' u an=>?_) pM;simp only[bZ]at an;split at an
  .rename_i e';simp only[j4]at an;subst an;rw[e',hl];refine⟨?_,λk' b' aD cF=>?_⟩
   .rw[<-yf];have:=World.alloc_heap_new (w.alloc (.deferred (some []))) (.loop (rec .ready none));rwa[World.size_alloc]at this
   .have:=iO (bj.box k' b' aD) cF;omega
  .split at an
   .rename_i _ e';simp only[j4]at an;subst an;rw[e'];refine⟨?_,λk' b' aD cF=>?_⟩
    .rw[<-yf];exact(heap_alloc_old _ _ (by simp)).trans (World.alloc_heap_new w _)
    .have:=iO (bj.box k' b' aD) cF;omega
   .exact hA.kept g' u an
 have ZD:aI.eval g=a.eval g:=by cases g<;>rfl
 have Iv:aI.tmps.size=E.N.n:=hR.size
 have Bc:∀{K:Keep}{s:Snap}{o:Obj}{W W':World}{S:aH}{γ:Nat->Value},Grew W W'->Rel E.N E.np S0 w0 (bZ (λ_=>none) o) (dm E.np K s) aI W S γ->Rel E.N E.np S0 w0 (bZ (λ_=>none) o) (dm E.np K s) aI W' S γ:=
  λhg h1=>h1.grew hg ⟨λ_ _ h=>h,λ_ _ h=> .inl h,λg o h=>kr (h1.here g o h) hg.size⟩
 refine CallsIn.mono (x9 cv l J Je Jx W1 S1 xs (λc S W S' W' hg hs ⟨s,γ,fu,h1,h2,h3⟩=>⟨s,γ,fu,h1.grew hg hs,h2,h3⟩) (λW W' hg ⟨S,γ,h1,h2⟩=>⟨S,γ,Bc hg h1,h2⟩) (λW W' hg ⟨S,γ,c,h1,h2⟩=>⟨S,γ,c,Bc hg h1,h2⟩)
  (λc S W ⟨s,γ,fu,h1,_⟩=>h1.here) ?_ ?_ ye) ?_
 ·-- a round
  rintro cn S W ⟨s,γ,fu,yg,QE,ri⟩
  cases fu with
  |zero=>simp[loopN]at ri
  |succ fu=>
  simp only[loopN]at ri;cases aA:xD E b g ps x y (.s (.one (.d (.int .i64) cn))::s) with
  |none=>rw[aA]at ri;simp at ri
  |some r0=>
  rw[aA]at ri;unfold xD zC at aA;dsimp only at aA;split at aA
  case h_2=>simp at aA
  rename_i f' t' cH Iw;split at aA
  case h_2=>simp at aA
  rename_i ZE nI;have kM:=mR yg g;rw[Iw,ZD,QA]at kM;obtain⟨⟨cv',Bd,cJ⟩,_⟩:=kM;simp only[Value.func.injEq,Fn.func.injEq,kp]at Bd;obtain⟨rfl,rfl⟩:=Bd;have ht:=(parts f t' ZE nI).1;rw[QB]at ht;simp only[j4,j8]at ht;obtain⟨rfl,rfl⟩:=ht;refine⟨cH,cJ,λIx=>?_,λIx=>?_⟩
  .rw[Ix,j5]at aA;cases nL:pinK ps x y (E.keepX b .normal) with
   |false=>rw[nL]at aA;simp at aA
   |true=>
   rw[nL,j5]at aA;split at aA
   case h_2=>simp at aA
   rename_i s3 ZF;simp only[j4]at aA;subst aA;simp only[j4,j8]at ri;obtain⟨rfl,rfl⟩:=ri;obtain⟨S5,γ5,na,Be⟩:=tP yg QE ZF;exact⟨S5,γ5,na,Be,rfl⟩
  rw[Ix,j6]at aA;cases hle:itOk kd cH.length cn with
  |false=>rw[hle]at aA;simp at aA
  |true=>
  rw[hle,j5]at aA;refine⟨rfl,λSg Wg vs ZG Iy gJ=>?_⟩;have yg:=yg.grew ZG Iy;have tA:vs.toArray.size=ps.size:=by have e1:=gJ.length;rw[Zy Bb]at e1;simp only[zw];rw[<-e1,<-h2,q9]
  refine⟨fn,_,x,y,by have:=run_yield (P:=P) (args:=vs.toArray) (yg.kept l _ (gN _ _)).1 (by rw[fv];exact tA);rw[fv]at this;exact this,roundIn_of_wpIn trivial ?_⟩;let a1:Go.Act:={ tmps:=(ps.zip vs.toArray).foldl (λt (q:Nat×Value)=>t.setIfInBounds q.1 q.2) a.tmps,defers:=[] }
  have gD:(ps.zip vs.toArray).toList=ps.toList.zip vs:=by simp
  have Ik:a1.tmps=(ps.toList.zip vs).foldl (λt (q:Nat×Value)=>t.setIfInBounds q.1 q.2) a.tmps:=by show (ps.zip vs.toArray).foldl _ _=_;rw[<-Array.foldl_toList,gD]
  have fB:∀i,i∈(ps.toList.zip vs).map (·.1)->i∈ps.toList:=λi hi=>by
   obtain⟨q,hq,rfl⟩:=jx.1 hi;exact(List.of_mem_zip hq).1
  have Iz:oc ((ps.toList.zip vs).map (·.1))=true:=Qz _ _ dy;obtain⟨D5,il,QF⟩:=Qw (ps.toList.zip vs) a.tmps Iz (λq hq=>by rw[hR.size];exact au _ (List.of_mem_zip hq).1);rw[<-Ik]at D5 il QF;have IA:a1.tmps.size=E.N.n:=QF.trans hR.size;have wq:∀i,i∉ps.toList->tm a1 i=tm aI i:=λi hi=>il i (λh=>hi (fB i h))
  have ZH:Rel (E.rnd ps x y).N E.np S0 w0 (bZ fx (.loop (rec .ready none))) (dm E.np (E.keep b) s) a1 Wg Sg γ:=pL yg IA rfl (λi hi=>wq i (ub i (ua _ QC i hi))) (λi u hu=>by
   simp only[fx]at hu;split at hu
   .rename_i hp;simp only[j4]at hu;refine⟨hp,?_⟩;show tm a1 i=u;rw[wq i (ub i hp)];exact hu
   .simp at hu)
  obtain⟨ZI,px⟩:=Qx (ps.toList.zip (zB kd t cH cn)) ZH QE (λq hq=>by
   obtain⟨v,h3,h4⟩:=Qy gJ q hq;have:=D5 _ h3;show VRep Sg Wg q.2 (a1.tmps.getD q.1 undef);rw[this];exact h4)
  refine wpIn_mono (pI l wA 0 0 (bd _ _) (by rw[tY x 0 wA];simp) ZI px aA) ?_
  rintro e1 a2 w2 ⟨fq,ex,σ2,S2,γ2,_,iY,rfl,bY,gz,fL⟩
  have:=iY wA;subst this;cases ex with
  |exit i=>simp at fL
  |ret=>simp at fL
  |normal=>
  refine⟨_,run_beginRound (bY.kept l _ (gN _ _)).1 (by rw[fv]),?_⟩;have fi:Rel (E.rnd ps x y).N E.np S0 w0 (bZ fx (.loop (rec .busy none))) σ2 a2 (w2.putObj l (.loop { rec .ready none with state:= .busy })) S2 γ2:=by have:=kV (o':= .loop (rec .busy none)) rfl rfl bY;rw[fv]at this ⊢;exact this
  refine wpIn_mono (pJ l wB 0 0 (bd _ _) (by rw[tY y 0 wB];simp) fi gz fL) ?_
  rintro e1 a3 w3 ⟨QG,ex,σ3,S3,γ3,_,iY,rfl,oA,oD,wC⟩
  have:=iY wB;subst this
  have kZ:∀{K:Keep}{s:Snap}{o:Obj}{W:World}{S:aH}{γ:Nat->Value},pinK ps x y K=true->Rel (E.rnd ps x y).N E.np S0 w0 (bZ fx o) (dm E.np K s) a3 W S γ->
    Rel E.N E.np S0 w0 (bZ (λ_=>none) o) (dm E.np K s) aI W S γ:=λhK hR=>pL hR Iv rfl (λi hi=>by
   have:=(hR.fix i (a.tmps.getD i undef) (by simp only[bZ,fx];rw[if_pos (ua _ hK i hi)])).2;exact this.symm) pM
  have pN:∀(ex:Ex)(c:Code),((ex = .ret/\c = .ret)\/∃i,ex = .exit i/\c = .exit i)->
    (cond (pinK ps x y (E.keepX b ex)) (match jC E.np (E.keepX b ex) σ3 with
     |some s'=>some (Sum.inr (ex,s'))
     |none=>none) none:Option (Snap ⊕ Ex×Snap))=some r0->
    ∃v w',(Instr.endRound l (some c)).run P w3 = .ok v w'/\((Ending.returned v = .returned (.bool true)/\∃S',J (zA kd cn) S' w')\/(Ending.returned v = .returned (.bool false)/\Jx w')):=by
   intro ex c hex pO;cases nL:pinK ps x y (E.keepX b ex) with
   |false=>rw[nL]at pO;simp at pO
   |true=>
   rw[nL,j5]at pO;split at pO
   case h_2=>simp at pO
   rename_i s2 nA;simp only[j4]at pO;subst pO;simp only[j4,j8]at ri;obtain⟨rfl,rfl⟩:=ri;obtain⟨S5,γ5,na,Be⟩:=tP oA oD nA;refine⟨_,_,run_endRound (some c) (na.kept l _ (gN _ _)).1,.inr ⟨rfl,S5,γ5,c,?_,Be,hex⟩⟩;have:=kV (o':= .loop (rec .done (some c))) rfl rfl (kZ nL na);rw[fv]at this ⊢;exact this
  cases ex with
  |normal=>
   dsimp only at wC
   split at wC
   case h_2=>simp at wC
   rename_i s2 nA;simp only[j4]at wC;subst wC;obtain⟨S5,γ5,na,Be⟩:=tP oA oD nA;show∃v w',(Instr.endRound l none).run P w3 = .ok v w'/\_;refine⟨_,_,run_endRound none (na.kept l _ (gN _ _)).1,.inl ⟨rfl,S5,s2,γ5,fu,?_,Be,?_⟩⟩
   .have:=kV (o':= .loop (rec .ready none)) rfl rfl (kZ QC na);rw[fv]at this ⊢;exact this
   .exact ri
  |exit i=>exact pN _ _ (.inr ⟨i,rfl,rfl⟩) wC
  |ret=>exact pN _ _ (.inl ⟨rfl,rfl⟩) wC
 .refine⟨S,λg o h=>by rw[<-yf];have:=hR.here g o h;simp;omega,lP.mono λx z hx=>?_⟩;rw[<-yf]
  exact iz.keep (λg o h=>⟨h,by
   have:=hR.here g o h;rw[World.cell?_alloc_lt _ _ _ (by simp;omega),World.cell?_alloc_lt _ _ _ this]⟩) hx
 .rintro e2 W2 ⟨⟨v,rfl⟩,gm⟩
  have kZ:∀{K:Keep}{s:Snap}{o:Obj}{W:World}{S:aH}{γ:Nat->Value},Rel E.N E.np S0 w0 (bZ (λ_=>none) o) (dm E.np K s) aI W S γ->
    ∃refs',tV w0 refs refs'/\Rel E.N E.np S0 w0 refs' (dm E.np K s) { a with defers:=[{ target:= .collected w.heap.size,args:=#[] }]++a.defers } W S γ:=by
   intro K s o W S γ QH;refine⟨{ blks:=refs.blks,val:=refs.val,ds:={ target:= .collected w.heap.size,args:=#[] }::refs.ds,kw:=λg=>if g=w.heap.size then some (.deferred (some [])) else refs.kw g,fix:=refs.fix },⟨rfl,rfl,rfl,?_,?_⟩,?_⟩
   .refine qk.2 ⟨λgL=>?_,hm.1⟩;obtain⟨D,hD,_,QI⟩:=hm.2 _ gL;simp only[Deferred.mk.injEq,Target.collected.injEq,and_true]at hD;rw[<-hD,hR.kw_new (jq _)]at QI;simp at QI
   .intro d hd;rcases jd.1 hd with rfl|hd
    .exact⟨w.heap.size,rfl,hR.grow,by simp⟩
    .obtain⟨D,rfl,h1,h2⟩:=hm.2 d hd;refine⟨D,rfl,h1,?_⟩;show (if D=w.heap.size then _ else refs.kw D)=_;rw[if_neg,h2]
     rintro rfl
     rw[hR.kw_new (jq _)]at h2;simp at h2
   .refine QH.frame rfl rfl hR.size (by rw[hR.defers];rfl) (λi _=>rfl) (λg' u an=>QH.kept g' u ?_) (λi v hv=>?_)
    .simp only[bZ]at an ⊢;by_cases h1:g'=l
     .exfalso;subst h1;rw[if_neg (by omega),hR.kw_new (by omega)]at an;simp at an
     .rw[if_neg h1];exact an
    .have:=(hR.fix i v hv).1;rw[mB]at this;simp at this
  rcases gm with⟨S2,γ2,sr,ZJ,rfl⟩|⟨S2,γ2,c,xU,DR,hex⟩
  .refine⟨none,_,by have:=run_endLoop (P:=P) (sr.kept l _ (gN _ _)).1 (by rw[fv];simp);rw[fv]at this;exact this,?_⟩;have uc:=kV (o':= .loop { rec .ready none with state:= .exhausted }) rfl rfl sr;obtain⟨refs',hle,sr⟩:=kZ uc;rw[fv]at sr;exact⟨refs',.normal,_,S2,γ2,hle,λhf=>by simp[dB]at hf,rfl,sr,ZJ,hk⟩
  .have uc:=kV (o':= .loop { rec .done (some c) with state:= .exhausted }) rfl rfl xU;obtain⟨refs',hle,sr⟩:=kZ uc;refine⟨some c,_,by have:=run_endLoop (P:=P) (xU.kept l _ (gN _ _)).1 (by rw[fv];simp);rw[fv]at this;exact this,?_⟩;rw[fv]at sr;rcases hex with⟨rfl,rfl⟩|⟨i,rfl,rfl⟩
   .exact wpIn_ret ⟨refs',.ret,_,S2,γ2,hle,λhf=>by simp[dB]at hf,rfl,sr,DR,hk⟩
   .exact wpIn_exit ⟨refs',.exit i,_,S2,γ2,hle,λhf=>by simp[dB]at hf,rfl,sr,DR,hk⟩
theorem ZK{P:Program}(jQ:P.follows .mixedOrders=true):∀(c:Code){E:Env}{ro:Option Nat},cd P E.T->kA P E.C->CFun E.C->
  (∀f t,E.bw f=some t->BwK P f t)/\(ro=none->E.N.pin=λ_=>false)->(ro=none\/dB c=true)->Is P E ro c:=by
 intro c;induction c with
 |skip=>intro E ro hT hC hF fW hp b n S0 w0 refs σ a w S γ R k r hm hL hR hc h;exact wpIn_skip ⟨refs,.normal,σ,S,γ,⟨rfl,rfl,rfl,hm⟩,λ_=>rfl,rfl,hR,hc,h⟩
 |label l=>intro E ro hT hC hF fW hp b n S0 w0 refs σ a w S γ R k r hm hL hR hc h;exact wpIn_label ⟨refs,.normal,σ,S,γ,⟨rfl,rfl,rfl,hm⟩,λ_=>rfl,rfl,hR,hc,h⟩
 |region IB ops draw=>
  intro E ro hT hC hF fW hp b n S0 w0 refs σ a w S γ R k r hm hL hR hc h
  have yh:ro=none\/∀o∈ops.toList,∀c,o.op ≠ .defer c:=hp.imp id λhp o ho c hd=>by
   have:=jp.1 hp o ho;simp[Oi,hd]at this
  cases draw with
  |true=>simp only[eL]at h;obtain⟨σ,S,γ,hR,hc,h⟩:=Ih hR hc h;exact wpIn_region_any jQ (El yh Ii _ _ _ _ (Zc hT hC hF hR hc (λσ' a' w' S' γ' cE dp hk=>⟨refs,.normal,σ',S',γ',⟨rfl,rfl,rfl,hm⟩,λ_=>rfl,rfl,cE,dp,hk⟩) h))
  |false=>
   simp only[eL]at h;obtain⟨σ,S,γ,hR,hc,h⟩:=Ih hR hc h;cases hks:E.ks IB with
   |true=>rw[hks,j5]at h;exact wpIn_region (ya yh Ii _ _ _ (Zv hT hC fW.1 hR hc (λσ' a' w' S' γ' cE dp hk=>⟨refs,.normal,σ',S',γ',⟨rfl,rfl,rfl,hm⟩,λ_=>rfl,rfl,cE,dp,hk⟩) h))
   |false=>rw[hks,j6]at h;exact wpIn_region (ya yh Ii _ _ _ (PR hT hC hR hc (λσ' a' w' S' γ' cE dp hk=>⟨refs,.normal,σ',S',γ',⟨rfl,rfl,rfl,hm⟩,λ_=>rfl,rfl,cE,dp,hk⟩) h))
 |seq x y pI pJ=>
  intro E ro hT hC hF fW hp b n S0 w0 refs σ a w S γ R k r hm hL hR hc h;simp only[eL]at h;have wA:ro=none\/dB x=true:=hp.imp id λh=>by simp only[dB,ja]at h;exact h.1
  have wB:ro=none\/dB y=true:=hp.imp id λh=>by simp only[dB,ja]at h;exact h.2
  refine wpIn_seq (wpIn_mono (pI hT hC hF fW wA b n hm (λz hz=>hL z (by simp[fN,hz])) hR hc h) ?_)
  rintro e a' w' ⟨refs',ex,σ',S',γ',hle,iY,rfl,cE,dp,hk⟩
  have hx:dB (.seq x y)=true->refs'=refs:=λh=>by simp only[dB,ja]at h;exact iY h.1
  cases ex with
  |normal=>
   refine wpIn_mono (pJ hT hC hF fW wB b n hle.marks (λz hz=>hL z (by simp[fN,hz])) cE dp hk) ?_
   rintro e2 a2 w2 ⟨fq,ex,σ2,S2,γ2,fg,IC,rfl,bY,gz,fL⟩
   refine⟨fq,ex,σ2,S2,γ2,hle.trans fg,λh=>?_,rfl,bY,gz,fL⟩;have h1:=hx h;simp only[dB,ja]at h;rw[IC h.2,h1]
  |exit i=>exact⟨refs',.exit i,σ',S',γ',hle,hx,rfl,cE,dp,hk⟩
  |ret=>exact⟨refs',.ret,σ',S',γ',hle,hx,rfl,cE,dp,hk⟩
 |cond c x y pI pJ=>
  intro E ro hT hC hF fW hp b n S0 w0 refs σ a w S γ R k r hm hL hR hc h;simp only[eL]at h;have wA:ro=none\/dB x=true:=hp.imp id λh=>by simp only[dB,ja]at h;exact h.1
  have wB:ro=none\/dB y=true:=hp.imp id λh=>by simp only[dB,ja]at h;exact h.2
  split at h
  .rename_i v hv;have oz:=mR hR c;rw[hv]at oz;have ID:a.eval c = .bool v:=qO oz;refine wpIn_cond ID ?_;cases v with
   |true=>
    refine wpIn_mono (pI hT hC hF fW wA b n hm (λz hz=>hL z (by simp[fN,hz])) hR hc h) ?_
    rintro e a' w' ⟨refs',ex,σ',S',γ',hle,iY,he,hr⟩
    exact⟨refs',ex,σ',S',γ',hle,λh=>by simp only[dB,ja]at h;exact iY h.1,he,hr⟩
   |false=>
    refine wpIn_mono (pJ hT hC hF fW wB b n hm (λz hz=>hL z (by simp[fN,hz])) hR hc h) ?_
    rintro e a' w' ⟨refs',ex,σ',S',γ',hle,iY,he,hr⟩
    exact⟨refs',ex,σ',S',γ',hle,λh=>by simp only[dB,ja]at h;exact iY h.2,he,hr⟩
  .simp at h
 |block id c ih=>
  intro E ro hT hC hF fW hp b n S0 w0 refs σ a w S γ R k r hm hL hR hc h;simp only[eL]at h;refine wpIn_block (wpIn_mono (ih hT hC hF fW hp id n hm (λz hz=>hL z (by simpa[fN]using hz)) hR hc h) ?_)
  rintro e a' w' ⟨refs',ex,σ',S',γ',hle,iY,rfl,cE,dp,hk⟩
  cases ex with
  |normal=>exact⟨refs',.normal,σ',S',γ',hle,iY,rfl,cE,dp,hk⟩
  |exit i=>
   simp only[exOf,Exit.inBlock];simp only at hk;split
   .rename_i hi;rw[if_pos hi]at hk;exact⟨refs',.normal,σ',S',γ',hle,iY,rfl,cE,dp,hk⟩
   .rename_i hi;rw[if_neg hi]at hk;exact⟨refs',.exit i,σ',S',γ',hle,iY,rfl,cE,dp,hk⟩
  |ret=>exact⟨refs',.ret,σ',S',γ',hle,iY,rfl,cE,dp,hk⟩
 |scope c ih=>intro E ro hT hC hF fW hp b n S0 w0 refs σ a w S γ R k r hm hL hR hc h;simp only[eL]at h;refine Zj (λl a w hq=>?_) (ih hT hC hF fW hp b n hm (λz hz=>hL z (by simpa[fN]using hz)) hR hc h);obtain⟨_,ex,_,_,_,_,_,he,_⟩:=hq;cases ex<;>simp[exOf]at he
 |loop c ih=>
  intro E ro hT hC hF fW hp b n S0 w0 refs σ a w S γ R k r hm hL hR hc h;have Eo:ro=none:=hp.resolve_right (by simp[dB]);simp only[eL]at h;cases IE:isRf c with
  |true=>rw[IE]at h;simp at h
  |false=>
  rw[IE,j6]at h;cases iC:E.un b with
  |true=>
   rw[iC,j5]at h;refine Qq (λn a w=>∃refs' σ' S γ,tV w0 refs refs'/\Rel E.N E.np S0 w0 refs' σ' a w S γ/\dg σ'/\s9 (λσ k=>eL E b c σ k) n σ' k=some r) ⟨refs,σ,S,γ,⟨rfl,rfl,rfl,hm⟩,hR,hc,h⟩ ?_
   rintro m a1 w1 ⟨Bf,σ1,S2,γ2,gF,bY,gz,gL⟩
   cases m with
   |zero=>simp[s9]at gL
   |succ m=>
    simp only[s9]at gL;refine wpIn_mono (ih hT hC hF fW (.inl Eo) b n gF.marks (λz hz=>hL z (by simp[fN,hz])) bY gz gL) ?_
    rintro e2 a2 w2 ⟨fq,ex,σ2,S3,γ3,fg,_,rfl,fi,si,iE⟩
    cases ex with
    |normal=>exact⟨m,Nat.lt_succ_self m,fq,σ2,S3,γ3,gF.trans fg,fi,si,iE⟩
    |exit i=>exact⟨fq,.exit i,σ2,S3,γ3,gF.trans fg,λhf=>by simp[dB]at hf,rfl,fi,si,iE⟩
    |ret=>exact⟨fq,.ret,σ2,S3,γ3,gF.trans fg,λhf=>by simp[dB]at hf,rfl,fi,si,iE⟩
  |false=>
  rw[iC,j6]at h;split at h
  .rename_i s hs;obtain⟨n1,e,s',hn,hk⟩:=hL (b,c) (by simp[fN]) s R _ r h
   have hG:GI E b c=uV E b c:=by
    funext s
    cases c<;>first|rfl|simp[isRf]at IE
   rw[hG]at hn;obtain⟨S1,γ1,bj,fa⟩:=tP hR hc hs;refine Qq (λn a w=>∃refs' s S γ,tV w0 refs refs'/\Rel E.N E.np S0 w0 refs' (dm E.np (E.keep b) s) a w S γ/\dg (dm E.np (E.keep b) s)/\loopN (uV E b c) n s=some (e,s')) ⟨refs,s,S1,γ1,⟨rfl,rfl,rfl,hm⟩,bj,fa,hn⟩ ?_
   rintro m a1 w1 ⟨Bf,s1,S2,γ2,gF,bY,gz,gL⟩
   cases m with
   |zero=>simp[loopN]at gL
   |succ m=>
    simp only[loopN]at gL;cases aA:uV E b c s1 with
    |none=>simp[aA]at gL
    |some out=>
     rw[aA]at gL;unfold uV at aA;refine wpIn_mono (ih hT hC hF fW (.inl Eo) b n gF.marks (λz hz=>hL z (by simp[fN,hz])) bY gz aA) ?_
     rintro e2 a2 w2 ⟨fq,ex,σ2,S3,γ3,fg,_,rfl,fi,si,iE⟩
     cases ex with
     |normal=>
      simp only at iE;split at iE
      .rename_i s2 nA;simp only[j4]at iE;subst iE;obtain⟨S4,γ4,oA,oD⟩:=tP fi si nA;exact⟨m,Nat.lt_succ_self m,fq,s2,S4,γ4,gF.trans fg,oA,oD,gL⟩
      .simp at iE
     |exit i=>
      simp only at iE;split at iE
      .rename_i s2 nA;simp only[j4]at iE;subst iE;obtain⟨S4,γ4,oA,oD⟩:=tP fi si nA;simp only[j4,j8]at gL;obtain⟨rfl,rfl⟩:=gL;exact⟨fq,.exit i,_,S4,γ4,gF.trans fg,λhf=>by simp[dB]at hf,rfl,oA,oD,hk⟩
      .simp at iE
     |ret=>
      simp only at iE;split at iE
      .rename_i s2 nA;simp only[j4]at iE;subst iE;obtain⟨S4,γ4,oA,oD⟩:=tP fi si nA;simp only[j4,j8]at gL;obtain⟨rfl,rfl⟩:=gL;exact⟨fq,.ret,_,S4,γ4,gF.trans fg,λhf=>by simp[dB]at hf,rfl,oA,oD,hk⟩
      .simp at iE
  .simp at h
 |rangeFunc g ps x y pI pJ=>
  intro E ro hT hC hF fW hp b n S0 w0 refs σ a w S γ R k r hm hL hR hc h;have Eo:ro=none:=hp.resolve_right (by simp[dB]);subst Eo;obtain⟨jP,mB⟩:=fW;have mB:=mB rfl
  exact Zz jP mB (λl hx=>pI (E:=E.rnd ps x y) hT hC hF ⟨jP,λh=>by simp at h⟩ (.inr hx)) (λl hy=>pJ (E:=E.rnd ps x y) hT hC hF ⟨jP,λh=>by simp at h⟩ (.inr hy))
   (hL (b,.rangeFunc g ps x y) (by simp[fN])) hm hR hc h
 |exit i=>intro E ro hT hC hF fW hp b n S0 w0 refs σ a w S γ R k r hm hL hR hc h;exact wpIn_exit ⟨refs,.exit i,σ,S,γ,⟨rfl,rfl,rfl,hm⟩,λ_=>rfl,rfl,hR,hc,h⟩
 |ret=>intro E ro hT hC hF fW hp b n S0 w0 refs σ a w S γ R k r hm hL hR hc h;exact wpIn_ret ⟨refs,.ret,σ,S,γ,⟨rfl,rfl,rfl,hm⟩,λ_=>rfl,rfl,hR,hc,h⟩
 |goto l=>intro E ro hT hC hF fW hp b n S0 w0 refs σ a w S γ R k r hm hL hR hc h;simp[eL]at h
 |refuse y=>intro E ro hT hC hF fW hp b n S0 w0 refs σ a w S γ R k r hm hL hR hc h;simp[eL]at h
end
section
variable{N:NT}{np:Nat}{S0:aH}{w0:World}{refs:Refs}{σ:St}{a:Go.Act}{w:World}{S:aH}{γ:Nat->Value}
def wD:Arg->Bool
 |.ref _=>true
 |.rl _ _=>true
 |_=>false
def Bg(args:List Arg)(vals:List Value)(k:Nat):Option Value:=
 if k%64=0 then match args[k/64]? with
  |some x=>if wD x then vals[k/64]? else none
  |none=>none
 else none
def nM(args:List Arg)(vals:List Value):Refs:={ blks:=dZ args vals,val:=Bg args vals }
def γ0(vals:List Value)(k:Nat):Value:=vals.getD (k/64) undef
theorem Ep:∀{as:List Arg}{us:List Value}{i:Nat}{x:Arg}{u:Value}{g:Nat},as[i]? = some x->us[i]? = some u->kN x u=some g->g∈dZ as us
 |y::as,v::us,0,x,u,g,h,h',hg=>by
  simp at h h';subst h;subst h';simp[dZ,hg]
 |y::as,v::us,i+1,x,u,g,h,h',hg=>by
  have:=Ep (as:=as) (us:=us) (i:=i) (by simpa using h) (by simpa using h') hg;simp[dZ,this]
 |[],_,_,_,_,_,h,_,_=>by simp at h
 |_::_,[],_,_,_,_,_,h',_=>by simp at h'
theorem QJ:∀{as:List Arg}{us:List Value}{i j:Nat}{x y:Arg}{u v:Value}{g:Nat},(dZ as us).Nodup->as[i]? = some x->us[i]? = some u->as[j]? = some y->us[j]? = some v->
  kN x u=some g->kN y v=some g->i=j
 |z::as,t::us,0,0,_,_,_,_,_,_,_,_,_,_,_,_=>rfl
 |z::as,t::us,0,j+1,x,y,u,v,g,hn,hx,hu,hy,hv,h1,h2=>by
  simp at hx hu;subst hx;subst hu;have:=Ep (as:=as) (us:=us) (i:=j) (by simpa using hy) (by simpa using hv) h2;simp[dZ,h1]at hn;exact absurd this hn.1
 |z::as,t::us,i+1,0,x,y,u,v,g,hn,hx,hu,hy,hv,h1,h2=>by
  simp at hy hv;subst hy;subst hv;have:=Ep (as:=as) (us:=us) (i:=i) (by simpa using hx) (by simpa using hu) h1;simp[dZ,h2]at hn;exact absurd this hn.1
 |z::as,t::us,i+1,j+1,x,y,u,v,g,hn,hx,hu,hy,hv,h1,h2=>by
  have HY:(dZ as us).Nodup:=by simp only[dZ]at hn;exact(qj.1 hn).2.1
  rw[QJ HY (i:=i) (j:=j) (by simpa using hx) (by simpa using hu) (by simpa using hy) (by simpa using hv) h1 h2]
 |[],_,_,_,_,_,_,_,_,_,h,_,_,_,_,_=>by simp at h
 |_::_,[],_,_,_,_,_,_,_,_,_,h,_,_,_,_=>by simp at h
theorem ZL{args:List Arg}{vals:List Value}(ha:All2 (mm S w) args vals)(dy:(dZ args vals).Nodup)(hS:∀g o,S g o->g<w.heap.size)(hlen:args.length=np)(hN:np<=N.n) :
  Rel N np S w (nM args vals) (St.init args) ⟨vals.toArray++Array.replicate (N.n-vals.toArray.size) undef,[]⟩ w S (γ0 vals)/\dg (St.init args):=by
 have tA:vals.length=np:=by rw[<-ha.length,hlen]
 have wq:∀i u,vals[i]? = some u->(vals.toArray++Array.replicate (N.n-vals.toArray.size) undef).getD i undef=u:=by intro i u hu;have hi:i<vals.length:=(ju.1 hu).1;rw[qu,Array.getElem?_append_left (by simpa using hi)];simp[hu]
 have iP:∀i u,vals[i]? = some u->γ0 vals (i*64)=u:=by intro i u hu;simp only[γ0];rw[vk _ (by omega)];simp[hu]
 have ew:∀k b,(St.init args).bx k = .live b->∃i x u,k=i*64/\args[i]? = some x/\vals[i]? = some u/\mm S w x u/\nw (some x) = .live b:=by
  intro k b hb;simp only[St.init]at hb;split at hb
  .rename_i hk;cases hx:args[k/64]? with
   |none=>simp[hx,nw]at hb
   |some x=>obtain⟨u,hu,iW⟩:=ha.get _ x hx;exact⟨k/64,x,u,by omega,hx,hu,iW,by rw[hx]at hb;exact hb⟩
  .simp at hb
 have mC:∀i x,args[i]? = some x->(St.init args).bx (i*64)=nw (some x):=by intro i x hx;simp only[St.init];rw[if_pos (by omega),vk _ (by omega),hx]
 have hblk:∀x u b,nw (some x) = .live b->kN x u=blk u:=by intro x u b hb;cases x<;>first|rfl|simp[nw]at hb
 refine⟨⟨?_,rfl,?_,?_,?_,?_,λ_ _ h=>h,λ_ _ h=> .inl h,hS,λ_ _ _=>rfl,jq _,rfl,rfl,rfl,?_,λg o h=>by simp[nM]at h,λi v h=>by simp[nM]at h⟩,?_⟩
 .simp;omega
 .intro i
  have dU:(St.init args).sl i=match args[i]? with
   |some a=> .one (DD i a)
   |none=> .one (.one .dead):=rfl
  rw[dU];cases hx:args[i]? with
  |none=>exact⟨trivial,λh=>absurd rfl h⟩
  |some x=>
   obtain⟨u,hu,iW⟩:=ha.get i x hx;show bz S w (γ0 vals) (St.init args).bx (DD i x) _;rw[wq i u hu];have hb:=mC i x hx;cases x with
   |v x=>exact xR iW
   |ref ls=>obtain⟨g,cur,e,h1,_⟩:=id iW;exact⟨⟨by rw[hb];simp[nw],by rw[h1];rfl,λb _=>⟨g,(iP i u hu).trans h1,h1⟩⟩,λ_=>by rw[h1];rfl⟩
   |rl e x=>obtain⟨t,xs,rfl,bQ,_⟩:=id iW;have di:One u:=bQ.one;exact⟨⟨by rw[hb];simp[nw],di,λb _=>(iP i u hu).symm⟩,λ_=>di⟩
   |ip ls=>obtain⟨g,o,cs,h1,_⟩:=id iW;exact⟨iW,λ_=>by rw[h1];rfl⟩
   |clo f caps=>obtain⟨cv,h1,_⟩:=id iW;exact⟨iW,λ_=>by rw[h1];rfl⟩
 .intro k b hb;obtain⟨i,x,u,rfl,hx,hu,iW,dt⟩:=ew k b hb;cases x with
  |ref ls=>simp only[nw,BS.live.injEq]at dt;subst dt;exact Ho (iP i u hu) iW
  |rl e x=>obtain⟨t,xs,rfl,_⟩:=id iW;simp only[nw,BS.live.injEq]at dt;subst dt;exact Am (iP i u hu) iW
  |_=>simp[nw]at dt
 .intro k b g hb hg;obtain⟨i,x,u,rfl,hx,hu,iW,dt⟩:=ew k b hb;rw[iP i u hu,<-hblk x u b dt]at hg;refine .inr ⟨Ep hx hu hg,?_⟩;have:i<args.length:=(ju.1 hx).1;simp[parK];omega
 .intro k k' b b' g aT hb aD hg an;obtain⟨i,x,u,rfl,hx,hu,iW,dt⟩:=ew k b hb;obtain⟨j,y,v,rfl,hy,hv,IF,Bh⟩:=ew k' b' aD;rw[iP i u hu,<-hblk x u b dt]at hg;rw[iP j v hv,<-hblk y v b' Bh]at an;exact aT (by rw[QJ dy hx hu hy hv hg an])
 .intro k v hv;simp only[nM,Bg]at hv;split at hv
  .rename_i hk;split at hv
   .rename_i x hx;split at hv
    .rename_i hr;have hi:k/64<args.length:=(ju.1 hx).1;have bf:k=(k/64)*64:=by omega
     refine⟨by simp[parK,hk];omega,?_,?_⟩
     .rw[bf,mC _ x hx];cases x with
      |rl e y=>obtain⟨u,hu,iW⟩:=ha.get _ _ hx;obtain⟨t,xs,rfl,_⟩:=iW;simp[nw]
      |ref ls=>simp[nw]
      |_=>simp[wD]at hr
     .rw[bf];exact iP _ v hv
    .simp at hv
   .simp at hv
  .simp at hv
 .intro i;show ((match args[i]? with|some a=>Slot.one (DD i a)|none=> .one (.one .dead)):Slot).bare=true;split<;>rfl
theorem Er{α β:Type}{P:Program}(f:α->Sem β):∀{rs:List α}{zs:List β},All2 (λr z=>(f r).run P w = .ok z w) rs zs->(rs.mapM f).run P w = .ok zs w
 |[],[],_=>by simp
 |r::rs,z::zs,h=>by
  simp only[qw,Sem.run_bind,h.1,Result.andThen_ok,Er f h.2,Sem.run_pure]
 |[],_::_,h=>h.elim
 |_::_,[],h=>h.elim
def Uns(b:Bx):Prop:=(∃ls,b = .cell ls false)\/∃e t xs,b = .lst e t xs false
theorem Es{P:Program}{E:Env}(hT:cd P E.T)(hR:Rel N np S0 w0 refs σ a w S γ){r:ResultVar}{c:Cel}(h:uW E σ r=some c) :
  ∃z,((match r with
   |.tmp t=>pure (a.tmps.getD t undef)
   |.cell x t=>do loadVar t (<-asAddr (a.tmps.getD x undef)):Sem Value)).run P w = .ok z w/\bz S w γ σ.bx c z:=by
 cases r with
 |tmp t=>
  simp only[uW]at h;split at h
  .rename_i c' hc;simp only[j4]at h;subst h;have:=hR.slot t;rw[hc]at this;exact⟨_,by simp,this⟩
  .simp at h
 |cell x t=>
  simp only[uW]at h;split at h
  .rename_i ti y ht hy;have:=hR.slot x;rw[hy]at this;obtain⟨z,hz,gq⟩:=OG hT hR (RdR.msk λ_=> .inl rfl) ht h this.1;refine⟨z,?_,gq⟩;show (do loadVar t (<-asAddr (a.tmps.getD x undef)):Sem Value).run P w=_
   have hu:∃ad,a.tmps.getD x undef = .pointer (some ad):=by
    generalize a.tmps.getD x undef=u at hz
    cases u with
    |pointer o=>
     cases o with
     |some ad=>exact⟨ad,rfl⟩
     |none=>simp[Instr.loadAt,Instr.sureAddr]at hz
    |_=>simp[Instr.loadAt,Instr.sureAddr]at hz
   obtain⟨ad,hu⟩:=hu;rw[hu]at hz ⊢;simpa[Instr.loadAt,Instr.sureAddr,asAddr]using hz
  .simp at h
theorem Et{rd:Nat->BS}(hR:Rel N np S0 w0 refs σ a w S γ)(aL:RdF np σ rd):∀{ks:List SoK}{ls:List Leaf}{r:List RL}{n:List Nat}{v:Ups}{zs:List Value},soOf rd ks ls=some (r,n,v)->
  All2 (bn S w γ σ.bx) ls zs->(∀z∈zs,One z)->FrzL np σ.bx v/\(∀k∈n,(∃b,σ.bx k = .live b/\Uns b)/\parK np k=false)/\mX r zs=(n.filterMap λk=>blk (γ k))/\
   ∀S',dn S w S' w->Froz σ.bx γ S' w v->(∀k∈n,∀g,blk (γ k)=some g->∀o,¬S' g o)->All2 (DY S' w) r zs
 |[],[],r,n,v,zs,h,ha,h1=>by
  simp[soOf]at h;obtain⟨rfl,rfl,rfl⟩:=h;cases zs with
  |nil=>exact⟨.nil,by simp,rfl,λ_ _ _ _=>trivial⟩
  |cons _ _=>exact ha.elim
 |.d t::ks,l::ls,r,n,v,zs,h,ha,h1=>by
  cases zs with
  |nil=>exact ha.elim
  |cons z zs=>
  simp only[soOf]at h;split at h
  .rename_i x u r' n' v' hx hr;cases eE:t.leafy with
   |false=>rw[eE]at h;simp at h
   |true=>
   rw[eE,j5]at h;simp only[j4,j8]at h;obtain⟨rfl,rfl,rfl⟩:=h;obtain⟨f1,p1⟩:=tp aL hR.box hx ha.1;obtain⟨f2,k2,b2,p2⟩:=Et hR aL hr ha.2 (λy hy=>h1 y (by simp[hy]));refine⟨FrzL.app.2 ⟨f1,f2⟩,k2,by simp[mX,b2],λS' aA dN hn=>?_⟩;obtain⟨g1,g2⟩:=Froz.app.1 dN;exact⟨⟨h1 z (by simp),p1 S' w aA g1⟩,p2 S' aA g2 hn⟩
  .simp at h
 |.own e t::ks,l::ls,r,n,v,zs,h,ha,h1=>by
  cases zs with
  |nil=>exact ha.elim
  |cons z zs=>
  cases l with
  |nil=>
   simp only[soOf]at h;split at h
   .rename_i r' n' v' hr;cases hm:isM e with
    |true=>rw[hm]at h;simp at h
    |false=>
    rw[hm,j6]at h;simp only[j4,j8]at h;obtain⟨rfl,rfl,rfl⟩:=h;have hz:z = .slice none 0 0:=ha.1;subst hz;obtain⟨f2,k2,b2,p2⟩:=Et hR aL hr ha.2 (λy hy=>h1 y (by simp[hy]));refine⟨f2,k2,by simp[mX,blk,b2],λS' aA dN hn=>⟨⟨t,[],rfl,.inl ⟨hm,[],⟨by simp,.inl ⟨rfl,rfl⟩⟩,trivial⟩,λg hg=>by simp[blk]at hg⟩,p2 S' aA dN hn⟩⟩
   .simp at h
  |ol k=>
   simp only[soOf]at h;split at h
   .rename_i e' b xs hk;cases he:Nat.beq e' e with
    |false=>rw[he]at h;simp at h
    |true=>
    rw[he,j5]at h;split at h
    .rename_i r' n' v' hr;simp only[j4,j8]at h;obtain⟨rfl,rfl,rfl⟩:=h;have hp:=aL.par hk;have hk:=aL.ok.live hk;have hz:=ha.1.2.2 _ hk;obtain⟨f2,k2,b2,p2⟩:=Et hR aL hr ha.2 (λy hy=>h1 y (by simp[hy]));refine⟨f2,λk' bf=>?_,?_,λS' aA dN hn=>⟨⟨b,xs,rfl,by rw[hz];exact(hR.box k _ hk).1.keep aA (λ_ _=>rfl),λg hg=>hn k (by simp) g (by rw[<-hz];exact hg)⟩,p2 S' aA dN (λk' bf=>hn k' (by simp[bf]))⟩⟩
     .rcases jd.1 bf with rfl|bf
      .exact⟨⟨_,hk,.inr ⟨_,_,_,rfl⟩⟩,hp⟩
      .exact k2 k' bf
     .simp only[mX,hz,vf];rw[b2];cases blk (γ k)<;>rfl
    .simp at h
   .simp at h
  |_=>simp[soOf]at h
 |[],_::_,r,n,v,zs,h,_,_=>by simp[soOf]at h
 |.d _::_,[],r,n,v,zs,h,_,_=>by simp[soOf]at h
 |.own _ _::_,[],r,n,v,zs,h,_,_=>by simp[soOf]at h
theorem ZM{P:Program}{E:Env}(hT:cd P E.T)(hR:Rel N E.np S0 w0 refs σ a w S γ){rd:Nat->BS}(aL:RdF E.np σ rd){own:Bool}{t:Nat}{c:Cel}{v:RV}{ks:List Nat}{u:Ups}{z:Value}(h:rvOf E rd own t c=some (v,ks,u))(hc:bz S w γ σ.bx c z) :
  FrzL E.np σ.bx u/\(∀k∈ks,(∃b,σ.bx k = .live b/\Uns b)/\parK E.np k=false)/\jM v z=(ks.filterMap λk=>blk (γ k))/\
   ∀S',dn S w S' w->Froz σ.bx γ S' w u->(∀k∈ks,∀g,blk (γ k)=some g->∀o,¬S' g o)->ot S' w v z:=by
 unfold rvOf at h;split at h
 .rename_i k;split at h
  .rename_i ls hk;split at h
   .rename_i xs u1 h1;simp only[j4,j8]at h;obtain⟨rfl,rfl,rfl⟩:=h;have hp:=aL.par hk;have hk:=aL.ok.live hk;obtain⟨g,hg,hz⟩:=hc.1.2.2 _ hk;obtain⟨g',cur,e,an,hh,cT,_⟩:=hR.box k _ hk;rw[hg]at an;simp at an;subst an;obtain⟨hf,qX⟩:=vN aL h1 cT;refine⟨hf,λk' bf=>by simp at bf;subst bf;exact⟨⟨_,hk,.inl ⟨_,rfl⟩⟩,hp⟩,?_,λS' aA dN hn=>⟨g,cur,e,hz,hh,by rw[DE cT (qX S' w aA dN)];exact qX S' w aA dN,?_⟩⟩
    .simp[jM,lO,hz,hg,blk]
    .exact hn k (by simp) g (by rw[hg];rfl)
   .simp at h
  .simp at h
 .rename_i f caps;simp only[j4,j8]at h;obtain⟨rfl,rfl,rfl⟩:=h;obtain⟨⟨cv,hz,al⟩,_⟩:=hc;exact⟨.nil,by simp,by simp[jM,lO],λS' aA _ _=>⟨cv,hz,al.mono λ_ _ h=>iz.keep aA h⟩⟩
 .split at h
  .rename_i ti ht;split at h
   .rename_i ty bg;split at h
    .split at h
     .rename_i ls;split at h
      .rename_i r n u1 ZN;simp only[j4,j8]at h;obtain⟨rfl,rfl,rfl⟩:=h;obtain⟨cs,hz,al,di⟩:=hc;subst hz;obtain⟨f1,k1,b1,p1⟩:=Et hR aL ZN al di;exact⟨f1,k1,b1,λS' aA dN hn=>⟨cs,rfl,p1 S' aA dN hn⟩⟩
      .simp at h
     .rename_i el dO _;simp only[j4,j8]at h;obtain⟨rfl,rfl,rfl⟩:=h;have hz:z = .slice none 0 0:=hc.1;subst hz;exact⟨.nil,by simp,by simp[jM,lO,blk],λS' _ _ _=>⟨el,[],rfl,.inl ⟨GP hT ht,[],⟨by simp,.inl ⟨rfl,rfl⟩⟩,trivial⟩,λg hg=>by simp[blk]at hg⟩⟩
     .rename_i k dO _;split at h
      .rename_i e el xs hk;simp only[j4,j8]at h;obtain⟨rfl,rfl,rfl⟩:=h;have hp:=aL.par hk;have bT:=aL.ok.nm hk;have hk:=aL.ok.live hk;have hz:=hc.1.2.2 _ hk;obtain⟨css,aJ,al,_⟩:=gR bT (hR.box k _ hk);refine⟨.nil,λk' bf=>by simp at bf;subst bf;exact⟨⟨_,hk,.inr ⟨_,_,_,rfl⟩⟩,hp⟩,?_,λS' aA _ hn=>⟨el,xs,rfl,by rw[hz];exact(hR.box k _ hk).1.keep aA (λ_ _=>rfl),λg hg=>hn k (by simp) g (by rw[<-hz];exact hg)⟩⟩;simp only[jM,lO,hz,vf,List.filterMap_nil];cases blk (γ k)<;>rfl
      .simp at h
     .simp at h
    .split at h
     .rename_i x u1 hx;simp only[j4,j8]at h;obtain⟨rfl,rfl,rfl⟩:=h;obtain⟨hf,hp,_⟩:=zP aL hR.box hx hc;exact⟨hf,by simp,by simp[jM,lO],λS' aA dN _=>hp S' w aA dN⟩
     .simp at h
   .simp at h
  .simp at h
theorem QK{P:Program}{E:Env}(hT:cd P E.T)(hR:Rel N E.np S0 w0 refs σ a w S γ):∀{os:List Bool}{rs:List ResultVar}{ts:List Nat}{vs:List RV}{ks:List Nat}{u:Ups},od E σ os rs ts=some (vs,ks,u)->
  ∃zs,All2 (λ(r:ResultVar) z=>((match r with
   |.tmp t=>pure (a.tmps.getD t undef)
   |.cell x t=>do loadVar t (<-asAddr (a.tmps.getD x undef)):Sem Value)).run P w = .ok z w) rs zs/\
  FrzL E.np σ.bx u/\(∀k∈ks,(∃b,σ.bx k = .live b/\Uns b)/\parK E.np k=false)/\fj vs zs=(ks.filterMap λk=>blk (γ k))/\
   ∀S',dn S w S' w->Froz σ.bx γ S' w u->(∀k∈ks,∀g,blk (γ k)=some g->∀o,¬S' g o)->All2 (ot S' w) vs zs
 |os,[],ts,vs,ks,u,h=>by
  simp[od]at h;obtain⟨rfl,rfl,rfl⟩:=h;exact⟨[],trivial,.nil,by simp,rfl,λ_ _ _ _=>trivial⟩
 |os,r::rs,ts,vs,ks,u,h=>by
  simp only[od]at h;split at h
  .rename_i c hc;split at h
   .rename_i v k1 u1 hv;split at h
    .rename_i iy k2 u2 gJ;simp only[j4,j8]at h;obtain⟨rfl,rfl,rfl⟩:=h;obtain⟨z,hz,gq⟩:=Es hT hR hc;obtain⟨f1,p1,n1,r1⟩:=ZM hT hR (xX (RdR.msk λ_=> .inl rfl)) hv gq;obtain⟨zs,kK,f2,p2,n2,r2⟩:=QK hT hR gJ;refine⟨z::zs,⟨hz,kK⟩,FrzL.app.2 ⟨f1,f2⟩,λk hk=>?_,?_,λS' aA dN hn=>?_⟩
     .rcases js.1 hk with hk|hk
      .exact p1 k hk
      .exact p2 k hk
     .simp[fj,n1,n2]
     .obtain⟨g1,g2⟩:=Froz.app.1 dN;exact⟨r1 S' aA g1 (λk hk=>hn k (by simp[hk])),r2 S' aA g2 (λk hk=>hn k (by simp[hk]))⟩
    .simp at h
   .simp at h
  .simp at h
theorem IG(hR:Rel N np S0 w0 refs σ a w S γ):∀{as:List Arg}{us:List Value}{i:Nat}{os:List Out}{u:Ups},outs np σ i as=some (os,u)->as.length=us.length->
  (∀(j:Nat)(x:Arg)(v:Value),as[j]? = some x->us[j]? = some v->wD x=true->γ ((i+j)*64)=v)->
  FrzL np σ.bx u/\∀S',dn S w S' w->Froz σ.bx γ S' w u->(∀(j:Nat)(x:Arg)(v:Value)(g:Nat),as[j]? = some x->us[j]? = some v->wD x=true->(∃b,σ.bx ((i+j)*64) = .live b/\Uns b)->blk v=some g->∀o,¬S' g o)->kO S' w as us os
 |[],us,i,os,u,h,hl,_=>by
  simp[outs]at h;obtain⟨rfl,rfl⟩:=h;cases us with
  |nil=>exact⟨.nil,λ_ _ _ _=>trivial⟩
  |cons _ _=>simp at hl
 |x::as,[],i,os,u,h,hl,_=>by simp at hl
 |x::as,v::us,i,os,u,h,hl,hg=>by
  simp only[outs]at h;split at h
  .rename_i ov u' h'
   obtain⟨f1,r1⟩:=IG hR (i:=i+1) h' (by simpa using hl) (λj y z hy hz hr=>by
    have:=hg (j+1) y z (by simpa using hy) (by simpa using hz) hr;rwa[show i+1+j=i+(j+1) by omega])
   have cZ:∀S',dn S w S' w->Froz σ.bx γ S' w u'->(∀(j:Nat)(x':Arg)(v':Value)(g:Nat),(x::as)[j]? = some x'->(v::us)[j]? = some v'->wD x'=true->(∃b,σ.bx ((i+j)*64) = .live b/\Uns b)->blk v'=some g->∀o,¬S' g o)->kO S' w as us ov:=by intro S' aA dN hn;refine r1 S' aA dN (λj y z g hy hz hr hb ZO=>?_);exact hn (j+1) y z g (by simpa using hy) (by simpa using hz) hr (by rwa[show i+(j+1)=i+1+j by omega]) ZO
   split at h
   .rename_i ls;have IH:γ (i*64)=v:=hg 0 _ v rfl rfl rfl;split at h
    .rename_i fh hb;split at h
     .rename_i xs u2 hx;simp only[j4,j8]at h;obtain⟨rfl,rfl⟩:=h;obtain⟨g,cur,e,h1,h2,h3,_⟩:=hR.box _ _ hb;obtain⟨f2,r2⟩:=vN (xX (RdR.msk λ_=> .inl rfl)) hx h3;refine⟨FrzL.app.2 ⟨f2,f1⟩,λS' aA dN hn=>?_⟩;obtain⟨g1,g2⟩:=Froz.app.1 dN;have QL:v = .pointer (some ⟨g,0,none⟩):=by rw[<-IH];exact h1
      exact⟨⟨g,cur,e,QL,h2,by rw[DE h3 (r2 S' w aA g1)];exact r2 S' w aA g1,hn 0 _ v g rfl rfl rfl ⟨_,hb,.inl ⟨fh,rfl⟩⟩ (by rw[QL];rfl)⟩,cZ S' aA g2 hn⟩
     .simp at h
    .simp at h
   .rename_i e y;have IH:γ (i*64)=v:=hg 0 _ v rfl rfl rfl;split at h
    .rename_i e' t xs hb;split at h
     .rename_i bV;obtain⟨rfl,Eu⟩:=bV;simp only[j4,j8]at h;obtain⟨rfl,rfl⟩:=h;have aJ:=(hR.box _ _ hb).1;rw[IH]at aJ;refine⟨f1,λS' aA dN hn=>⟨⟨t,xs,rfl,aJ.keep aA (λ_ _=>rfl),λg an=>hn 0 _ v g rfl rfl rfl ⟨_,hb,.inr ⟨_,t,xs,rfl⟩⟩ an⟩,Eu.symm,cZ S' aA dN hn⟩⟩
     .simp at h
    .simp at h
   .rename_i II IJ;simp only[j4,j8]at h;obtain⟨rfl,rfl⟩:=h;refine⟨f1,λS' aA dN hn=>?_⟩;have:=cZ S' aA dN hn;cases x with
    |ref ls=>exact absurd rfl (II ls)
    |rl e y=>exact absurd rfl (IJ e y)
    |_=>exact this
  .simp at h
theorem QM{x:Arg}{u:Value}{g:Nat}(h:mm S w x u)(hr:kN x u=some g):∀o,¬S g o:=by
 cases x with
 |ref ls=>obtain⟨g',cur,e,h1,_,_,h4⟩:=h;have pd:blk u=some g:=hr;rw[h1]at pd;simp[blk]at pd;subst pd;exact h4
 |rl e y=>obtain⟨t,xs,_,_,h4⟩:=h;exact h4 g hr
 |_=>simp[kN]at hr
theorem IK:∀{as:List Arg}{us:List Value}{g:Nat},g∈dZ as us->∃(i:Nat)(x:Arg)(u:Value),as[i]? = some x/\us[i]? = some u/\kN x u=some g
 |[],_,_,h=>by simp[dZ]at h
 |_::_,[],_,h=>by simp[dZ]at h
 |x::as,u::us,g,h=>by
  simp only[dZ,js,Option.mem_toList]at h;rcases h with h|h
  .exact⟨0,x,u,rfl,rfl,h⟩
  .obtain⟨i,y,v,h1,h2,h3⟩:=IK h;exact⟨i+1,y,v,by simpa using h1,by simpa using h2,h3⟩
theorem IL(zs:List Value):(if h:zs.toArray.size=1 then zs.toArray[0] else .tuple zs.toArray)=kP zs:=by
 match zs with
 |[]=>rfl
 |[z]=>rfl
 |z::z'::zs=>simp[kP]
theorem ZP{P:Program}{E:Env}(hT:cd P E.T)(hR:Rel N np S0 w0 refs σ a w S γ){rs:List ResultVar}{vs iy:List RV}{zs:List Value}
  (kK:All2 (λ(r:ResultVar) z=>((match r with
   |.tmp t=>pure (a.tmps.getD t undef)
   |.cell x t=>do loadVar t (<-asAddr (a.tmps.getD x undef)):Sem Value)).run P w = .ok z w) rs zs) (h:nilV E σ rs vs=some iy) :
  (∀S' w',All2 (ot S' w') vs zs->All2 (ot S' w') iy zs)/\fj iy zs=fj vs zs/\(∀m,iy=[.hd m]->vs=[.hd m])/\∀ns s,iy=[.raw ns s]->vs=[.raw ns s]:=by
 unfold nilV at h;split at h
 .simp only[j4]at h;subst h;exact⟨λ_ _ h=>h,rfl,λ_ h=>h,λ_ _ h=>h⟩
 .split at h
  .rename_i r x;split at h
   .rename_i ls hc;split at h
    .rename_i hn;simp only[j4]at h;subst h;obtain⟨z,hz,gq⟩:=Es hT hR hc;cases zs with
     |nil=>exact kK.elim
     |cons z' zs=>
      cases zs with
      |cons _ _=>exact kK.2.elim
      |nil=>
       have rS:z'=z:=by have h1:=hz.symm.trans kK.1;simp only[Result.ok.injEq]at h1;exact h1.1.symm
       subst rS;obtain⟨cs,hu,al,_⟩:=gq;refine⟨λS' w' hv=>⟨⟨hv.1,λqY mD i hi z ZQ=>?_⟩,trivial⟩,rfl,λm hm=>by simp at hm,λns s hm=>by simp at hm⟩;rw[hu]at mD;simp only[Value.agg.injEq]at mD;subst mD;have hl:=jp.1 hn i hi;cases IM:ls[i]? with
       |none=>rw[IM]at hl;simp at hl
       |some l=>rw[IM]at hl;obtain⟨z2,IP,oo⟩:=al.get i l IM;rw[ZQ]at IP;simp only[j4]at IP;subst IP;cases l<;>first|exact oo|simp at hl
    .simp at h
   .simp at h
  .simp at h
theorem ZR{E:Env}{os:List Bool}{rs:List ResultVar}{ts:List Nat}{vs:List RV}{ks:List Nat}{u:Ups}(h:od E σ os rs ts=some (vs,ks,u))(m:Nat):vs≠[.hd m]:=by
 cases rs with
 |nil=>simp[od]at h;rw[<-h.1];simp
 |cons r rs=>
  simp only[od]at h;split at h
  .split at h
   .rename_i v k1 u1 hv;split at h
    .simp only[j4,j8]at h;rw[<-h.1];intro he;have:v = .hd m:=by simpa using (List.cons.inj he).1
     subst this;unfold rvOf at hv;split at hv
     .split at hv
      .split at hv<;>simp at hv
      .simp at hv
     .simp at hv
     .split at hv
      .split at hv
       .split at hv
        .split at hv
         .split at hv<;>simp at hv
         .simp at hv
         .split at hv<;>simp at hv
         .simp at hv
        .split at hv<;>simp at hv
       .simp at hv
      .simp at hv
    .simp at h
   .simp at h
  .simp at h
theorem ZS{E:Env}{os:List Bool}{rs:List ResultVar}{ts:List Nat}{vs:List RV}{ks:List Nat}{u:Ups}(h:od E σ os rs ts=some (vs,ks,u))(ns:List Nat)(s:Snap):vs≠[.raw ns s]:=by
 cases rs with
 |nil=>simp[od]at h;rw[<-h.1];simp
 |cons r rs=>
  simp only[od]at h;split at h
  .split at h
   .rename_i v k1 u1 hv;split at h
    .simp only[j4,j8]at h;rw[<-h.1];intro he;have:v = .raw ns s:=by simpa using (List.cons.inj he).1
     subst this;unfold rvOf at hv;split at hv
     .split at hv
      .split at hv<;>simp at hv
      .simp at hv
     .simp at hv
     .split at hv
      .split at hv
       .split at hv
        .split at hv
         .split at hv<;>simp at hv
         .simp at hv
         .split at hv<;>simp at hv
         .simp at hv
        .split at hv<;>simp at hv
       .simp at hv
      .simp at hv
    .simp at h
   .simp at h
  .simp at h
theorem ZT{P:Program}{E:Env}(hT:cd P E.T){fn:Func}{args:List Arg}{vals:List Value}{σ':St}{a':Go.Act}{w':World}{S':aH}{γ':Nat->Value}(hR:Rel N E.np S w (nM args vals) σ' a' w' S' γ')
  (ha:All2 (mm S w) args vals)(hS:∀g o,S g o->g<w.heap.size)(gW:¬E.rw=true)(Ev:E.hd=true){ret:Ret}(bH:rI E fn args σ'=some ret){R:Type}{k:Ret->Option R}{r:R}(hk:k ret=some r) :
  ∃v,(results fn a'.tmps).run P w' = .ok v w'/\∃ret,k ret=some r/\∃v' S' vs,Ending.returned v = .returned v'/\D0 w S args vals ret v' w' S' vs:=by
 have eB:∀(j:Nat)(x:Arg)(v:Value),args[j]? = some x->vals[j]? = some v->wD x=true->γ' ((0+j)*64)=v:=by intro j x v hx hv hr;refine(hR.par ((0+j)*64) v ?_).2.2;simp only[nM,Bg];rw[if_pos (by omega),vk _ (by omega),jz,hx];simp[hr,hv]
 unfold rI at bH;rw[if_neg gW,if_pos Ev]at bH;unfold Oj at bH;split at bH
 .rename_i e x as r0 la;split at bH
  .rename_i l os u' hc nC;split at bH
   .rename_i m hm;simp only[j4]at bH;subst bH;obtain⟨z,hz,gq⟩:=Es (P:=P) hT hR hc;obtain⟨f2,r2⟩:=IG hR nC ha.length eB;obtain⟨S2,bY,cY,pq,dx⟩:=mT u' σ' S' hR f2;cases vals with
    |nil=>exact ha.elim
    |cons v0 ZU=>
    have h0:γ' 0=v0:=by have:=eB 0 _ v0 rfl rfl rfl;simpa using this
    have wE:∀k,parK E.np k=true->u'.any (λy=>y.1==k)=false:=by intro k hk;rw[qc];intro y hy he;simp only[qv]at he;have:=(f2 y hy).1;rw[he,hk]at this;simp at this
    have nD:∀k b,u'.any (λy=>y.1==k)=false->σ'.bx k = .live b->Uns b->∀g,blk (γ' k)=some g->∀o,¬S2 g o:=by
     intro k b hk hb kS g hg o;have dH:(σ'.upd u').bx k = .live b:=(jH _ _ hk).trans hb;have dt:=bY.box k b dH;rcases kS with⟨ls,rfl⟩|⟨e,t,xs,rfl⟩
     .obtain⟨g',cur,e,an,_,_,_,hS,_⟩:=dt;rw[an]at hg;simp[blk]at hg;subst hg;exact hS rfl o
     .exact(dt.2 g hg).1 rfl o
    have dz:=r2 S2 cY pq (λj x v g hx hv hr IQ hg=>by
     obtain⟨b,hb,hu⟩:=IQ;have hp:parK E.np ((0+j)*64)=true:=by refine(hR.par ((0+j)*64) v ?_).1;simp only[nM,Bg];rw[if_pos (by omega),vk _ (by omega),jz,hx];simp[hr,hv]
     exact nD ((0+j)*64) b (wE _ hp) hb hu g (by rw[eB j x v hx hv hr];exact hg))
    have di:One z:=gq.2 (by rintro rfl;simp[hdOf]at hm)
    have pz:∃ad len cap,v0 = .slice ad len cap/\m<=len/\z = .slice ad m cap:=by
     unfold hdOf at hm;split at hm
     .split at hm
      .rename_i e1 t1 DX hb;split at hm
       .simp at hm
       .rename_i bT;simp only[j4]at hm;subst hm;obtain⟨css,aJ,_⟩:=gR (by simpa using bT) (hR.box 0 _ hb);have rS:=gq.1.2.2 _ hb;rcases aJ.2 with⟨hg,hn⟩|⟨g,cap,cur,hg,_⟩
        .exact⟨none,0,0,by rw[<-h0,hg],by omega,by rw[rS,hg,hn]⟩
        .exact⟨_,_,cap,by rw[<-h0,hg],jq _,by rw[rS,hg]⟩
      .simp at hm
     .split at hm
      .rename_i i e1 t1 DX hb;simp only[j4]at hm;subst hm;obtain⟨_,hi,ad,cap,hg,rS⟩:=gq.1.2.2 _ hb;exact⟨ad,_,cap,by rw[<-h0,hg],hi,rS⟩
      .simp at hm
     .simp at hm
    have az:(results fn a'.tmps).run P w' = .ok (kP [z]) w':=by
     have hm:=Er (P:=P) (w:=w') (rs:=[r0]) (zs:=[z]) (λr=>((match r with
      |.tmp t=>pure (a'.tmps.getD t undef)
      |.cell x t=>do loadVar t (<-asAddr (a'.tmps.getD x undef)):Sem Value))) ⟨hz,trivial⟩
     unfold results;rw[v7,la];simp only[Sem.run_bind,Sem.run_map]
     erw [hm]
     simp only[Result.andThen_ok,Sem.run_pure];exact jl (Result.ok · w') (IL [z])
    refine⟨kP [z],az,⟨[.hd m],os⟩,hk,kP [z],S2,[z],rfl,⟨rfl,⟨di,trivial⟩,λg hg=>by simp[fj,lO,jM]at hg,by simp[fj,lO,jM],dz,λg o hs=>⟨bY.ext g o hs,?_⟩,bY.new,bY.here,bY.below,bY.grow,bY.os,bY.tape,bY.output,λns s he=>by simp at he,?_⟩⟩
    .refine World.cell?_of_block (bY.below g (hS g o hs) (λhm=>?_));obtain⟨i,x,v,hx,hv,hb⟩:=IK hm;obtain⟨v',fQ,IU⟩:=ha.get i x hx;rw[hv]at fQ;simp at fQ;subst fQ;exact QM IU hb o hs
    .intro m' gL;have:m'=m:=by simpa using gL.symm
     subst this;obtain⟨ad,len,cap,h1,h2,h3⟩:=pz;exact⟨ad,len,cap,by rw[h1];rfl,h2,by rw[h3]⟩
   .simp at bH
  .simp at bH
 .simp at bH
theorem QN{P:Program}{E:Env}(hT:cd P E.T)(hR:Rel N np S0 w0 refs σ a w S γ):∀{rs:List ResultVar}{cs:List Cel},zD E σ rs=some cs->
  ∃zs,All2 (λ(r:ResultVar) z=>((match r with
   |.tmp t=>pure (a.tmps.getD t undef)
   |.cell x t=>do loadVar t (<-asAddr (a.tmps.getD x undef)):Sem Value)).run P w = .ok z w) rs zs/\All2 (bz S w γ σ.bx) cs zs
 |[],cs,h=>by
  simp only[zD,j4]at h;subst h;exact⟨[],trivial,trivial⟩
 |r::rs,cs,h=>by
  simp only[zD]at h;split at h
  .rename_i c qY hc dr;simp only[j4]at h;subst h;obtain⟨z,h1,h2⟩:=Es (P:=P) hT hR hc;obtain⟨zs,h3,h4⟩:=QN hT hR dr;exact⟨z::zs,⟨h1,h3⟩,h2,h4⟩
  .simp at h
theorem QP{bx bx':Nat->BS}{ns:List Nat}(hb:∀k∈ns,bx' k=bx k){l:Leaf}{u:Value}(hl:rH ns l=true)(h:bn S w γ bx l u):bn S w γ bx' l u:=by
 cases l with
 |dead=>trivial
 |nil=>exact h
 |d t v=>exact h
 |ol k=>have hk:=hb k (by simpa[rH]using hl);exact⟨by rw[hk];exact h.1,h.2.1,by rw[hk];exact h.2.2⟩
 |bp k c=>have hk:=hb k (by simpa[rH]using hl);exact⟨by rw[hk];exact h.1,h.2.1,by rw[hk];exact h.2.2⟩
 |s1 k=>have hk:=hb k (by simpa[rH]using hl);exact⟨by rw[hk];exact h.1,h.2.1,by rw[hk];exact h.2.2⟩
 |_=>simp[rH]at hl
theorem IV{bx bx':Nat->BS}{ns:List Nat}(hb:∀k∈ns,bx' k=bx k):∀{ls:List Leaf}{us:List Value},ls.all (rH ns)=true->All2 (bn S w γ bx) ls us->All2 (bn S w γ bx') ls us
 |[],[],_,_=>trivial
 |l::ls,u::us,hl,h=>by
  simp only[za,ja]at hl;exact⟨QP hb hl.1 h.1,IV hb hl.2 h.2⟩
 |[],_::_,_,h=>h.elim
 |_::_,[],_,h=>h.elim
theorem ZV{bx bx':Nat->BS}{ns:List Nat}(hb:∀k∈ns,bx' k=bx k){c:Cel}{u:Value}(hl:GK ns c=true)(h:bz S w γ bx c u):bz S w γ bx' c u:=by
 cases c with
 |one l=>exact⟨QP hb hl h.1,h.2⟩
 |st ls=>obtain⟨cs,hu,ha,h1⟩:=h;exact⟨cs,hu,IV hb hl ha,h1⟩
 |av n b xs=>exact h
theorem ZW{P:Program}{E:Env}(hT:cd P E.T){fn:Func}{args:List Arg}{vals:List Value}{σ':St}{a':Go.Act}{w':World}{S':aH}{γ':Nat->Value}(hR:Rel N E.np S w (nM args vals) σ' a' w' S' γ')
  (ha:All2 (mm S w) args vals)(hS:∀g o,S g o->g<w.heap.size)(gW:E.rw=true){ret:Ret}(bH:rI E fn args σ'=some ret){R:Type}{k:Ret->Option R}{r:R}(hk:k ret=some r) :
  ∃v,(results fn a'.tmps).run P w' = .ok v w'/\∃ret,k ret=some r/\∃v' S' vs,Ending.returned v = .returned v'/\D0 w S args vals ret v' w' S' vs:=by
 unfold rI at bH;rw[if_pos gW]at bH;unfold Ol at bH;split at bH
 case h_2=>simp at bH
 rename_i cs dr;split at bH
 case isFalse=>simp at bH
 rename_i bV;simp only[ja]at bV;obtain⟨dy,QQ,dE,cm⟩:=bV;simp only[j4]at bH;subst bH;obtain⟨zs,kK,gq⟩:=QN hT hR dr
 have az:(results fn a'.tmps).run P w' = .ok (kP zs) w':=by
  have hm:=Er (P:=P) (w:=w') _ kK;unfold results;rw[v7];simp only[Sem.run_bind,Sem.run_map]
  erw [hm]
  simp only[Result.andThen_ok,Sem.run_pure];exact jl (Result.ok · w') (IL zs)
 have hlen:(cs.map Item.s++E.rn.map λk=>Item.b (σ'.bx k)).length-E.rn.length=cs.length:=by simp
 have hC:rawC E.rn (cs.map Item.s++E.rn.map λk=>Item.b (σ'.bx k))=cs:=by unfold rawC;rw[hlen,List.take_left' (by simp),vz];exact List.map_id' _
 have hU:rawU E.rn (cs.map Item.s++E.rn.map λk=>Item.b (σ'.bx k))=E.rn.map λk=>(k,σ'.bx k):=by
  unfold rawU;rw[hlen,List.drop_left' (by simp),vz];generalize E.rn=l;induction l with
  |nil=>rfl
  |cons x l ih=>simp only[ka,List.zip_cons_cons,ih];rfl
 have ew:∀k∈E.rn,(emp.upd (E.rn.map λk=>(k,σ'.bx k))).bx k=σ'.bx k:=λk hk=>
  xQ _ emp (by rw[vz];simpa[Function.comp_def]using xP dy) (jx.2 ⟨k,hk,rfl⟩)
 have mC:∀k b,(emp.upd (E.rn.map λk=>(k,σ'.bx k))).bx k = .live b->k∈E.rn/\σ'.bx k = .live b:=by
  intro k b hb;by_cases hk:k∈E.rn
  .exact⟨hk,(ew k hk).symm.trans hb⟩
  .rw[jH]at hb
   .simp[emp]at hb
   .rw[qc];intro x hx he;obtain⟨y,hy,rfl⟩:=jx.1 hx;simp only[qv]at he;exact hk (he▸hy)
 have IW:∀k b,σ'.bx k = .live b->k∈E.rn->dS S' w' γ' (emp.upd (E.rn.map λk=>(k,σ'.bx k))).bx k b:=by
  intro k b hb hk;have h1:=hR.box k b hb;have h2:=(Bool.and_eq_true_iff.1 (jp.1 QQ k hk)).2;rw[hb]at h2;cases b with
  |cell ls f=>obtain⟨g,cur,e,q1,q2,q3,q4⟩:=h1;exact⟨g,cur,e,q1,q2,IV ew h2 q3,q4⟩
  |lst e t xs f=>exact h1
  |arr n t xs=>exact h1
 have pP:All2 (bz S' w' γ' (emp.upd (E.rn.map λk=>(k,σ'.bx k))).bx) cs zs:=by
  have go:∀(cs:List Cel)(zs:List Value),cs.all (GK E.rn)=true->All2 (bz S' w' γ' σ'.bx) cs zs->All2 (bz S' w' γ' (emp.upd (E.rn.map λk=>(k,σ'.bx k))).bx) cs zs:=by
   intro cs;induction cs with
   |nil=>intro zs _ h;cases zs with|nil=>trivial|cons _ _=>exact h.elim
   |cons c cs ih=>
    intro zs dE h;cases zs with
    |nil=>exact h.elim
    |cons z zs=>simp only[za,ja]at dE;exact⟨ZV ew dE.1 h.1,ih zs dE.2 h.2⟩
  exact go cs zs dE gq
 have pQ:dZ args vals=[]:=by
  clear az pP hR;induction args generalizing vals with
  |nil=>cases vals<;>rfl
  |cons x xs ih=>
   cases vals with
   |nil=>rfl
   |cons v vs=>simp only[za,ja]at cm;have:=ih ha.2 cm.2;cases x<;>simp_all[dZ,kN,GL]
 have dz:kO S' w' args vals []:=by
  clear az pP hR pQ;induction args generalizing vals with
  |nil=>cases vals with|nil=>trivial|cons _ _=>exact ha.elim
  |cons x xs ih=>
   cases vals with
   |nil=>exact ha.elim
   |cons v vs=>simp only[za,ja]at cm;have:=ih ha.2 cm.2;cases x<;>first|exact this|(simp[GL]at cm)
 refine⟨kP zs,az,_,hk,kP zs,S',[kP zs],rfl,⟨rfl,⟨trivial,trivial⟩,λg hg=>by simp[fj,lO,jM]at hg,by simp[fj,lO,jM],dz,λg o hs=>⟨hR.ext g o hs,?_⟩,hR.new,hR.here,
  hR.below,hR.grow,hR.os,hR.tape,hR.output,λns s he=>?_,λm hm=>by simp at hm⟩⟩
 .refine World.cell?_of_block (hR.below g (hS g o hs) (λhm=>?_));have hm:g∈dZ args vals:=hm;rw[pQ]at hm;simp at hm
 .simp only[zt,RV.raw.injEq,and_true]at he;obtain⟨rfl,rfl⟩:=he;refine⟨γ',zs,rfl,by rw[hC,hU];exact pP,λk b hb=>?_,λk b g hb hg=>?_,λk k' b b' g aT hb aD hg an=>?_⟩
  .rw[hU]at hb ⊢;obtain⟨h1,h2⟩:=mC k b hb;exact IW k b h2 h1
  .rw[hU]at hb;obtain⟨h1,h2⟩:=mC k b hb;rcases hR.own k b g h2 hg with h|h
   .exact h
   .have:=(Bool.and_eq_true_iff.1 (jp.1 QQ k h1)).1;rw[h.2]at this;simp at this
  .rw[hU]at hb aD;exact hR.apart k k' b b' g aT (mC k b hb).2 (mC k' b' aD).2 hg an
theorem IX{P:Program}{fn:Func}{n:Nat}{R:Ending->World->Prop}:∀(ds:List Deferred){refs:Refs}{σ:St}{a:Go.Act}{w:World}{S:aH}{γ:Nat->Value},refs.ds=ds->AY w0 refs->Rel N np S0 w0 refs σ a w S γ->
  (∀w2,Rel N np S0 w0 ⟨refs.blks,refs.val,[],λ_=>none,λ_=>none⟩ σ { a with defers:=[] } w2 S γ->LeavesIn (FR none) n P fn a.tmps R [] .returning w2)->LeavesInM (FR none) n P fn a.tmps R ds .returning w
 |[],refs,σ,a,w,S,γ,hd,hm,hR,h=>h w (hR.swap rfl rfl hR.size rfl hR.slot (λg o h=>by simp at h) (λi v h=>by simp at h))
 |d::ds,refs,σ,a,w,S,γ,hd,hm,hR,h=>by
  obtain⟨dy,al⟩:=hm;rw[hd]at dy;obtain⟨D,rfl,h1,h2⟩:=al d (by rw[hd];simp);refine⟨by simp,.inl ⟨D,_,rfl,run_takeDeferred (hR.kept D _ h2).1,?_⟩⟩;have bj:=hR.putO (o':= .deferred none) h2 h1 rfl rfl
  have bY:=bj.swap (a':={ a with defers:=ds }) (refs':=⟨refs.blks,refs.val,ds,λg=>if g=D then none else refs.kw g,refs.fix⟩) rfl rfl hR.size rfl bj.slot (λg o hg=>bj.kept g o (by
   simp only at hg ⊢;split at hg
   .simp at hg
   .rename_i e;rw[if_neg e];exact hg)) bj.fix
  refine IX (a:={ a with defers:=ds }) (refs:=⟨refs.blks,refs.val,ds,λg=>if g=D then none else refs.kw g,refs.fix⟩) ds rfl ⟨(qk.1 dy).2,λd' fJ=>?_⟩ bY (λw2 hw=>h w2 hw);obtain⟨D',rfl,q1,q2⟩:=al d' (by rw[hd];simp[fJ]);refine⟨D',rfl,q1,?_⟩;show (if D'=D then none else refs.kw D')=_;rw[if_neg,q2]
  rintro rfl
  exact(qk.1 dy).1 fJ
theorem QR{P:Program}{E:Env}(hT:cd P E.T)(hC:kA P E.C)(hF:CFun E.C)(jQ:P.follows .mixedOrders=true){f:Nat}{fn:Func}{c:Code}(hf:P.funcs[f]? = some fn)(hb:fn.body=some c)(hN:fn.ntmps=E.N.n)(mB:E.N.pin=λ_=>false)(jP:∀f t,E.bw f=some t->BwK P f t)(ud:E.np<=E.N.n)
  (bT : (fn.name == "runtime.NumGoroutine") = false) (hL : ∀ x ∈ fN 0 c, AW E x.1 x.2) : FnOK P f (fun args _ k => rJ E fn args k) := by
 intro args R k r h;refine⟨⟨fn,hf,by rw[hb];rfl,bT⟩,?_⟩;intro w S vals ha dy hS;by_cases hlen:args.length=E.np
 case neg=>simp[rJ,hlen]at h
 case pos=>
 simp only[rJ,hb,hlen,if_true]at h;have tA:vals.length=E.np:=by rw[<-ha.length,hlen]
 obtain⟨ZX,mh⟩:=ZL (N:=E.N) ha dy hS hlen ud;refine Ze (n:=0) (ro:=none) (callsIn_of_wp_marks hf hb trivial ?_);rw[hN];refine wpIn_mono (ZK jQ c (ro:=none) hT hC hF ⟨jP,λ_=>mB⟩ (.inl rfl) 0 0 ⟨zh,λd hd=>by simp[nM]at hd⟩ hL ZX mh h) ?_
 rintro e a0 w1 ⟨refs',ex,σ',S',γ',hle,_,rfl,bj,fy,hk⟩
 have gm:∀(hk:(match rI E fn args σ' with|some r=>k r|none=>none)=some r)(w':World),Rel E.N E.np S w ⟨refs'.blks,refs'.val,[],λ_=>none,λ_=>none⟩ σ' { a0 with defers:=[] } w' S' γ'->∃v,(results fn a0.tmps).run P w' = .ok v w'/\
   ∃ret,k ret=some r/\∃v' S' vs,Ending.returned v = .returned v'/\D0 w S args vals ret v' w' S' vs:=by
  intro hk w' hR;have hR:Rel E.N E.np S w (nM args vals) σ' { a0 with defers:=[] } w' S' γ':=hR.swap hle.blks.symm hle.val.symm hR.size rfl hR.slot (λg o h=>by simp[nM]at h) (λi v h=>by simp[nM]at h);generalize yi:({ a0 with defers:=[] }:Go.Act)=a' at hR;have nG:a0.tmps=a'.tmps:=by rw[<-yi]
  rw[nG];cases bH:rI E fn args σ' with
  |none=>simp[bH]at hk
  |some ret=>
  simp only[bH]at hk;by_cases gW:E.rw=true
  .exact ZW hT hR ha hS gW bH hk
  by_cases Ev:E.hd=true
  .exact ZT hT hR ha hS gW Ev bH hk
  have wF:∃vs ks u os u',od E σ' E.ro fn.results.toList fn.resultTypes.toList=some (vs,ks,u)/\outs E.np σ' 0 args=some (os,u')/\
    mP ks=true/\(u++u').all (λe=> !ks.contains e.1)=true/\∃iy,nilV E σ' fn.results.toList vs=some iy/\ret=⟨iy,os⟩:=by
   unfold rI at bH;rw[if_neg gW,if_neg Ev]at bH;split at bH
   .rename_i vs ks u os u' gJ nC;split at bH
    .rename_i bV;split at bH
     .rename_i iy wG;simp only[j4]at bH;simp only[ja]at bV;exact⟨vs,ks,u,os,u',gJ,nC,bV.1,bV.2,iy,wG,bH.symm⟩
     .simp at bH
    .simp at bH
   .simp at bH
  obtain⟨vs,ks,u,os,u',gJ,nC,qS,vV,iy,wG,rfl⟩:=wF;obtain⟨zs,kK,f1,p1,n1,r1⟩:=QK hT hR gJ;have eM:(∀S' w',All2 (ot S' w') vs zs->All2 (ot S' w') iy zs)/\fj iy zs=fj vs zs/\(∀m,iy=[.hd m]->vs=[.hd m])/\∀ns s,iy=[.raw ns s]->vs=[.raw ns s]:=ZP hT hR kK wG;have eB:∀(j:Nat)(x:Arg)(v:Value),args[j]? = some x->vals[j]? = some v->wD x=true->γ' ((0+j)*64)=v:=by intro j x v hx hv hr;refine(hR.par ((0+j)*64) v ?_).2.2;simp only[nM,Bg];rw[if_pos (by omega),vk _ (by omega),jz,hx];simp[hr,hv]
  obtain⟨f2,r2⟩:=IG hR nC ha.length eB;obtain⟨S2,bY,cY,pq,dx⟩:=mT (u++u') σ' S' hR (FrzL.app.2 ⟨f1,f2⟩);obtain⟨IY,IZ⟩:=Froz.app.1 pq
  have nD:∀k b,(u++u').any (λy=>y.1==k)=false->σ'.bx k = .live b->Uns b->∀g,blk (γ' k)=some g->∀o,¬S2 g o:=by
   intro k b hk hb kS g hg o;have dH:(σ'.upd (u++u')).bx k = .live b:=(jH _ _ hk).trans hb;have dt:=bY.box k b dH;rcases kS with⟨ls,rfl⟩|⟨e,t,xs,rfl⟩
   .obtain⟨g',cur,e,an,_,_,_,hS,_⟩:=dt;rw[an]at hg;simp[blk]at hg;subst hg;exact hS rfl o
   .exact(dt.2 g hg).1 rfl o
  have su:∀k∈ks,(u++u').any (λy=>y.1==k)=false:=by intro k hk;rw[qc];intro y hy he;have:=jp.1 vV y hy;simp only[qv]at he;rw[he]at this;simp[hk]at this
  have wE:∀k,parK E.np k=true->(u++u').any (λy=>y.1==k)=false:=by intro k hk;rw[qc];intro y hy he;simp only[qv]at he;have:=(FrzL.app.2 ⟨f1,f2⟩ y hy).1;rw[he,hk]at this;simp at this
  have Bi:=r1 S2 cY IY (λk hk g hg=>by
   obtain⟨⟨b,hb,hu⟩,_⟩:=p1 k hk;exact nD k b (su k hk) hb hu g hg)
  have dz:=r2 S2 cY IZ (λj x v g hx hv hr IQ hg=>by
   obtain⟨b,hb,hu⟩:=IQ;have hj:j<args.length:=(ju.1 hx).1;exact nD ((0+j)*64) b (wE _ (by simp[parK];omega)) hb hu g (by rw[eB j x v hx hv hr];exact hg))
  have az:(results fn a'.tmps).run P w' = .ok (kP zs) w':=by
   have hm:=Er (P:=P) (w:=w') _ kK;unfold results;rw[v7];simp only[Sem.run_bind,Sem.run_map]
   erw [hm]
   simp only[Result.andThen_ok,Sem.run_pure];exact jl (Result.ok · w') (IL zs)
  have ZY:∀m,iy=[.hd m]->∃ad len cap,DZ args vals=some (.slice ad len cap)/\m<=len/\zs=[.slice ad m cap]:=λm hm=>by
   exact absurd (eM.2.2.1 m hm) (ZR gJ m)
  have ZZ:∀ns s,iy=[.raw ns s]->Hm w.heap.size S2 w' ns s (kP zs):=λns s hm=>absurd (eM.2.2.2 ns s hm) (ZS gJ ns s);refine⟨kP zs,az,⟨iy,os⟩,hk,kP zs,S2,zs,rfl,⟨rfl,eM.1 _ _ Bi,λg hg=>?_,?_,dz,λg o hs=>⟨bY.ext g o hs,?_⟩,bY.new,bY.here,bY.below,bY.grow,bY.os,bY.tape,bY.output,ZZ,ZY⟩⟩
  .rw[eM.2.1,n1]at hg;obtain⟨k,bf,Z0⟩:=zm.1 hg;obtain⟨⟨b,hb,_⟩,hp⟩:=p1 k bf;rcases hR.own k b g hb Z0 with h|h
   .exact h
   .rw[hp]at h;simp at h
  .rw[eM.2.1,n1];exact Hn hR (xP qS) (λk bf=>by obtain⟨⟨b,hb,_⟩,_⟩:=p1 k bf;exact⟨b,hb⟩)
  .refine World.cell?_of_block (bY.below g (hS g o hs) (λhm=>?_));obtain⟨i,x,v,hx,hv,hb⟩:=IK hm;obtain⟨v',fQ,IU⟩:=ha.get i x hx;rw[hv]at fQ;simp at fQ;subst fQ;exact QM IU hb o hs
 cases ex with
 |exit i=>simp at hk
 |normal=>exact IX a0.defers bj.defers.symm hle.marks bj (λw2 hw=>gm hk w2 hw)
 |ret=>exact IX a0.defers bj.defers.symm hle.marks bj (λw2 hw=>gm hk w2 hw)
end
section
variable{E:Env}
def LFun(L:Nat->Snap->(R:Type)->(Ex->Snap->Option R)->Option R):Prop:=
 ∀b s,∃o:Option (Ex×Snap),∀(R:Type)(k:Ex->Snap->Option R),L b s R k=o.bind λx=>k x.1 x.2
def Det{α:Type}(f:(R:Type)->(α->Option R)->Option R):Prop:=∃o:Option α,∀(R:Type)(k:α->Option R),f R k=o.bind k
theorem Det.val{α:Type}(x:α):Det (λ_ k=>k x):=⟨some x,λ_ _=>rfl⟩
theorem Det.no{α:Type}:Det (λR (_:α->Option R)=>none):=⟨none,λ_ _=>rfl⟩
theorem Det.cond{α:Type}{f g:(R:Type)->(α->Option R)->Option R}(b:Bool)(h:Det f)(h':Det g):Det (λR k=>cond b (f R k) (g R k)):=by
 cases b with
 |true=>exact h
 |false=>exact h'
theorem Det.bind{α β:Type}{f:(R:Type)->(α->Option R)->Option R}{g:α->(R:Type)->(β->Option R)->Option R}(h:Det f)(h':∀a,Det (g a)):Det (λR k=>f R λa=>g a R k):=by
 obtain⟨o,ho⟩:=h;cases o with
 |none=>exact⟨none,λR k=>ho R _⟩
 |some a=>obtain⟨o',wo⟩:=h' a;exact⟨o',λR k=>(ho R _).trans (wo R k)⟩
theorem Det.congr{α:Type}{f g:(R:Type)->(α->Option R)->Option R}(h:Det f)(e:∀R k,g R k=f R k):Det g:=by
 obtain⟨o,ho⟩:=h;exact⟨o,λR k=>(e R k).trans (ho R k)⟩
theorem Bj(hF:CFun E.C)(hz:E.nz=false)(p:Bool)(σ:St)(act:List (Nat×Bool))(o:Oper):Det (λR (k:St->Option R)=>run1 E p σ act o k):=by
 unfold run1;simp only[hz,j6];split
 .exact .no
 .exact .cond _ (.val _) .no
 .rename_i f args mk _;refine Det.bind (f:=λR k=>E.C f args R k) (hF f args) λret=>?_;split
  .exact .val _
  .exact .no
theorem QS:∀(l:List (Nat×Bool))(σ:St),Det (λR (k:St×Bool->Option R)=>sY l σ λa b=>k (a,b))
 |[],σ=> .val _
 |(s,w)::r,σ=>by
  simp only[sY]
  refine(Det.bind (QS r σ) (g:=λx R k=>match x.2 with
   |true=>match GB r x.1 s with
    |some v=>cond v (k (x.1.setS s (.one (.one (.d .bool true))),w)) (k (x.1.setS s (.one (.one (.d .bool false))), !w))
    |none=>none
   |false=>k (x.1,false)) λx=>?_).congr λR k=>rfl
  obtain⟨σ1,a⟩:=x;cases a with
  |true=>
   dsimp only
   split
   .exact .cond _ (.val _) (.val _)
   .exact .no
  |false=>exact .val _
theorem Z1(hF:CFun E.C)(hz:E.nz=false)(ops:Array Oper)(σ:St)(o:Oper):Det (λR (k:St->Option R)=>yT E ops σ o k):=by
 unfold yT;split
 .split
  .exact Bj hF hz _ _ _ _
  .exact .no
 .rename_i g _
  have oQ:Det (λR (k:St->Option R)=>sY (σ.chain 40 g) σ λσ' a=>match a with
    |true=>run1 E true σ' (σ.chain 40 g) o k
    |false=>k (σ'.put o.dst (.one (.one .dead)))):=by
   refine(Det.bind (QS (σ.chain 40 g) σ) (g:=λx R k=>match x.2 with
    |true=>run1 E true x.1 (σ.chain 40 g) o k
    |false=>k (x.1.put o.dst (.one (.one .dead)))) λx=>?_).congr λR k=>rfl
   obtain⟨σ1,a⟩:=x;cases a with
   |true=>exact Bj hF hz _ _ _ _
   |false=>exact .val _
  dsimp only
  split
  .split
   .exact .cond _ (.val _) .no
   .exact oQ
  .exact oQ
theorem QT(hF:CFun E.C)(hz:E.nz=false):∀(l:List Oper)(σ:St),Det (λR (k:St->Option R)=>oa E l σ k)
 |[],σ=> .val _
 |o::os,σ=>by
  simp only[oa];split
  .exact Det.bind (Bj hF hz false σ [] o) λσ'=>QT hF hz os σ'
  .exact .no
theorem QU(hF:CFun E.C)(hz:E.nz=false)(ops:Array Oper):∀(l:List Oper)(σ:St),Det (λR (k:St->Option R)=>xx E ops l σ k)
 |[],σ=> .val _
 |o::os,σ=>by
  simp only[xx];split
  .exact Det.bind (Z1 hF hz ops σ o) λσ'=>QU hF hz ops os σ'
  .exact .no
theorem Z2(hF:CFun E.C)(hz:E.nz=false)(ops:Array Oper)(σ:St):Det (λR (k:St->Option R)=>ob E ops σ k):=by
 unfold ob;split
 .exact QT hF hz _ _
 .exact QU hF hz _ _ _
theorem I0(hF:CFun E.C)(hz:E.nz=false):∀(l:List Oper)(σ:St),Det (λR (k:St->Option R)=>rE E l σ k)
 |[],σ=> .val σ
 |[o],σ=>by
  simp only[rE];split
  .exact Bj hF hz false σ [] o
  .exact .no
 |o::o2::os,σ=>by
  simp only[rE];split
  .split
   .split
    .exact .cond _ (I0 hF hz os _) .no
    .exact .no
   .exact Det.bind (Bj hF hz false σ [] o) λσ'=>I0 hF hz (o2::os) σ'
  .exact .no
theorem Z3(hF:CFun E.C)(hz:E.nz=false)(ops:Array Oper)(σ:St):Det (λR (k:St->Option R)=>yU E ops σ k):=by
 unfold yU;split
 .exact I0 hF hz _ _
 .exact .no
theorem I1(hF:CFun E.C)(hz:E.nz=false)(M Ai:List Nat)(σ:St)(o:Oper):Det (λR (k:St->Option R)=>runD E M Ai σ o k):=by
 unfold runD;split
 .exact .no
 .split
  .exact .cond _ (.val _) .no
  .exact .no
 .rename_i f args mk _;refine Det.bind (f:=λR k=>E.C f args R k) (hF f args) λret=>?_;split
  .split
   .exact .val _
   .exact .no
  .exact .no
theorem Z5(hF:CFun E.C)(hz:E.nz=false)(ops:Array Oper)(M Ai:List Nat)(σ:St)(o:Oper):Det (λR (k:St->Option R)=>yX E ops M Ai σ o k):=by
 unfold yX;split
 .exact I1 hF hz _ _ _ _
 .split
  .split
   .exact .cond _ (.cond _ (I1 hF hz _ _ _ _) (.val _)) (.cond _ (.val _) (I1 hF hz _ _ _ _))
   .exact .val _
   .exact .no
  .exact .no
theorem QV(hF:CFun E.C)(hz:E.nz=false)(ops:Array Oper)(cl:List Nat)(A:List (List Nat)):∀(l:List Oper)(i:Nat)(σ:St),Det (λR (k:St->Option R)=>xy E ops cl A l i σ k)
 |[],_,σ=> .val _
 |o::os,i,σ=>by
  simp only[xy];split
  .exact Det.bind (Z5 hF hz ops _ _ σ o) λσ'=>QV hF hz ops cl A os (i+1) σ'
  .exact .no
theorem Z6(hF:CFun E.C)(hz:E.nz=false)(ops:Array Oper)(A:List (List Nat))(σ:St):Det (λR (k:St->Option R)=>yY E ops A σ k):=by
 unfold yY;split
 .exact QV hF hz _ _ _ _ _ _
 .exact .no
theorem I2(np:Nat):∀(gs:List Gh)(σ:St),Det (λR (k:St->Option R)=>uU np gs σ k)
 |[],σ=> .val _
 |g::gs,σ=>by
  simp only[uU];split
  .exact .cond _ (I2 np gs _) .no
  .exact .no
theorem QW{f:(R:Type)->St->(Ex->St->Option R)->Option R}(hf:∀σ,Det (λR (k:Ex×St->Option R)=>f R σ λe σ'=>k (e,σ'))):∀(n:Nat)(σ:St),
  Det (λR (k:Ex×St->Option R)=>s9 (f R) n σ λe σ'=>k (e,σ'))
 |0,σ=> .no
 |n+1,σ=>by
  refine(Det.bind (hf σ) (g:=λz R k=>match z.1 with
   |.normal=>s9 (f R) n z.2 λe σ'=>k (e,σ')
   |e=>k (e,z.2)) λz=>?_).congr λR k=>by
    simp only[s9];congr 1;try (funext e σ';cases e<;>rfl)
  obtain⟨e,σ'⟩:=z;cases e with
  |normal=>exact QW hf n σ'
  |exit i=>exact .val _
  |ret=>exact .val _
theorem Ew(hF:CFun E.C)(hz:E.nz=false)(hL:LFun E.L):∀(c:Code)(b:Nat)(σ:St),Det (λR (k:Ex×St->Option R)=>eL E b c σ λe σ'=>k (e,σ')):=by
 intro c;induction c with
 |skip=>intro b σ;exact .val _
 |region id ops draw=>
  intro b σ;cases draw with
  |true=>exact Det.bind (I2 E.np (E.pre id) σ) λσ1=>Det.bind (Z6 hF hz ops (E.dw id) σ1) λσ'=> .val (Ex.normal,σ')
  |false=>exact Det.bind (I2 E.np (E.pre id) σ) λσ1=> .cond _ (Det.bind (Z3 hF hz ops σ1) λσ'=> .val (Ex.normal,σ')) (Det.bind (Z2 hF hz ops σ1) λσ'=> .val (Ex.normal,σ'))
 |seq x y pI pJ=>
  intro b σ
  refine(Det.bind (pI b σ) (g:=λz R k=>match z.1 with
   |.normal=>eL E b y z.2 λe σ'=>k (e,σ')
   |e=>k (e,z.2)) λz=>?_).congr λR k=>by
    simp only[eL];congr 1;try (funext e σ';cases e<;>rfl)
  obtain⟨e,σ'⟩:=z;cases e with
  |normal=>exact pJ b σ'
  |exit i=>exact .val _
  |ret=>exact .val _
 |cond c x y pI pJ=>
  intro b σ;simp only[eL];split
  .exact .cond _ (pI b σ) (pJ b σ)
  .exact .no
 |block id c ih=>
  intro b σ
  refine(Det.bind (ih id σ) (g:=λz R k=>match z.1 with
   |.exit i=>if i=id then k (.normal,z.2) else k (.exit i,z.2)
   |e=>k (e,z.2)) λz=>?_).congr λR k=>by
    simp only[eL];congr 1;try (funext e σ';cases e<;>rfl)
  obtain⟨e,σ'⟩:=z;cases e with
  |normal=>exact .val _
  |exit i=>
   dsimp only
   split
   .exact .val _
   .exact .val _
  |ret=>exact .val _
 |loop c ih=>
  intro b σ;simp only[eL];refine .cond _ .no (.cond _ ?_ ?_)
  .exact QW (f:=λR σ k=>eL E b c σ k) (λσ=>ih b σ) 2 σ
  split
  .rename_i s _;obtain⟨o,ho⟩:=hL b s;exact Det.bind (f:=λR k=>E.L b s R λe s'=>k (e,s')) ⟨o,λR k=>ho R _⟩ (g:=λz R k=>k (z.1,dm E.np (E.keepX b z.1) z.2)) λz=> .val _
  .exact .no
 |rangeFunc g ps x y _ _=>
  intro b σ;simp only[eL];split
  .split
   .rename_i kd _;split
    .rename_i s _;obtain⟨o,ho⟩:=hL b (.s (.one (.d (.int .i64) (y9 kd (List.length _))))::s);exact Det.bind (f:=λR k=>E.L b _ R λe s'=>k (e,s')) ⟨o,λR k=>ho R _⟩ (g:=λz R k=>k (z.1,dm E.np (E.keepX b z.1) z.2)) λz=> .val _
    .exact .no
   .exact .no
  .exact .no
 |scope c ih=>intro b σ;exact ih b σ
 |label l=>intro b σ;exact .val _
 |exit i=>intro b σ;exact .val _
 |ret=>intro b σ;exact .val _
 |_=>intro b σ;exact .no
theorem jps(hF:CFun E.C)(hz:E.nz=false)(hL:LFun E.L)(b:Nat)(g:Operand)(ps:Array Nat)(x y:Code)(s:Snap) :
  Det (λR (k:Option (List Item)×Ex×St->Option R)=>zC E b g ps x y s λp e σ'=>k (p,e,σ')):=by
 unfold zC;split
 .rename_i n s0;split
  .split
   .rename_i kd _;refine .cond _ (.val _) (.cond _ ?_ .no)
    refine(Det.bind (Ew (E:=E.rnd ps x y) hF hz hL x 0 _) (g:=λz R k=>match z.1 with
     |.normal=>eL (E.rnd ps x y) 0 y z.2 λe σ'=>k (some [.s (.one (.d (.int .i64) (zA kd n)))],e,σ')
     |_=>none) λz=>?_).congr λR k=>by
      congr 1
      try (funext e σ';cases e<;>rfl)
    obtain⟨e,σ'⟩:=z;cases e with
    |normal=>exact Det.bind (Ew (E:=E.rnd ps x y) hF hz hL y 0 σ') λz=> .val (_,z)
    |exit i=>exact .no
    |ret=>exact .no
   .exact .no
  .exact .no
 .exact .no
theorem Z7(hF:CFun E.C)(hz:E.nz=false)(hL:LFun E.L)(fn:Func)(args:List Arg):Det (λR (k:Ret->Option R)=>rJ E fn args k):=by
 unfold rJ;split
 .split
  .rename_i c _
   refine(Det.bind (Ew hF hz hL c 0 (St.init args)) (g:=λz R k=>match z.1 with
    |.exit _=>none
    |_=>match rI E fn args z.2 with
     |some r=>k r
     |none=>none) λz=>?_).congr λR k=>rfl
   obtain⟨e,σ'⟩:=z;cases e<;>dsimp only<;>(try split)<;>first|exact .no|exact .val _
  .exact .no
 .exact .no
end
end Go.Lft
