/- yY: what Cj do is what the jN says. -/
import Derived.Test.YtbpjdcbbmibehaaZELB
import Derived.Laws.Cover3
import Derived.RangeFuncNested
import Derived.OrdersIn
import Derived.Maps.Range
set_option linter.unusedVariables false
namespace Go.Lft
section
variable{N:NT}{np:Nat}{S0:an}{w0:World}{refs:Refs}{σ:St}{a:Go.Act}{w:World}{S:an}{γ:Nat->Value}
def bQ(σ:St):Prop:=∀i,(σ.sl i).bare=true
theorem kH{d:Nat}(hd:d<a.tmps.size)(v:Value)(j:Nat):tm (a.put (some d) v) j=if j=d then v else tm a j:=by
 unfold tm Go.Act.put;by_cases h:j=d
 .subst h;simp[hd]
 .have h':d≠j:=λe=>h e.symm;simp[h,Array.getElem?_setIfInBounds_ne h']
theorem Hn{bx:Nat->BS}{d:Nat}(hd:d<a.tmps.size){v u:Value}{x:Slot}(h:fe S w γ bx (tm a) x u):fe S w γ bx (tm (a.put (some d) v)) (kill d x) u:=by
 cases x with
 |one c=>exact h
 |tup l=>exact h
 |und=>exact h
 |cnd s b c=>
  simp only[kill];split
  .exact⟨trivial,λh=>absurd rfl h⟩
  .rename_i aG;simp only[fe,kH hd,if_neg aG];exact h
theorem ni(dst:Option Nat)(v:Value):(a.put dst v).tmps.size=a.tmps.size:=by cases dst<;>simp[Go.Act.put]
theorem ue(dst:Option Nat)(v:Value):(a.put dst v).defers=a.defers:=by cases dst<;>rfl
theorem wo(hR:Rel N np S0 w0 refs σ a w S γ){dst:Option Nat}(hd:∀d,dst=some d->N.ok d){s:Slot}{v:Value}(hs:fe S w γ σ.bx (tm a) s v) :
  Rel N np S0 w0 refs (σ.put dst s) (a.put dst v) w S γ:=by
 cases dst with
 |none=>exact hR
 |some d=>
  have eH:d<a.tmps.size:=by rw[hR.size];exact(hd d rfl).1
  refine⟨(ni _ _).trans hR.size,(ue _ _).trans hR.defers,λi=>?_,hR.box,hR.own,hR.apart,hR.ext,hR.new,hR.here,hR.below,hR.grow,hR.os,hR.tape,hR.output,hR.par,hR.kept,λi u h=>?_⟩
  .show fe S w γ σ.bx (tm (a.put (some d) v)) (kill d (if i=d then s else σ.sl i)) (tm (a.put (some d) v) i);rw[kH eH];split
   .exact Hn eH hs
   .exact Hn eH (hR.slot i)
  .obtain⟨h1,h2⟩:=hR.fix i u h;refine⟨h1,?_⟩;show tm (a.put (some d) v) i=u;rw[kH eH,if_neg]
   .exact h2
   .rintro rfl
    have:=(hd i rfl).2;rw[h1]at this;simp at this
theorem Ho{d:Nat}{x:Slot}(h:x.bare=true):kill d x=x:=by cases x<;>first|rfl|simp[Slot.bare]at h
theorem uf(hR:Rel N np S0 w0 refs σ a w S γ)(hc:bQ σ){dst:Option Nat}(hd:∀d,dst=some d->N.ok d){s:Slot}{v:Value}(hs:fe S w γ σ.bx (tm a) s v)(hb:s.bare=true) :
  Rel N np S0 w0 refs (σ.setD dst s) (a.put dst v) w S γ/\bQ (σ.setD dst s):=by
 have he:σ.setD dst s=σ.put dst s:=by
  cases dst with
  |none=>rfl
  |some d=>
   simp only[St.setD,St.setS,St.put];congr 1;funext j;split
   .exact(Ho hb).symm
   .exact(Ho (hc j)).symm
 refine⟨he▸wo hR hd hs,λi=>?_⟩;cases dst with
 |none=>exact hc i
 |some d=>
  simp only[St.setD,St.setS];split
  .exact hb
  .exact hc i
theorem si{o:Oper}(h:gK N o=true):∀d,o.dst=some d->N.ok d:=by
 intro d hd;simpa[gK,hd,NT.ok]using h
theorem Hp{u:Ups}(h:bQ σ):bQ (σ.upd u):=by
 intro i;rw[pB];exact h i
theorem NC{P:Program}{E:Env}(hT:bt P E.T)(hR:Rel E.N E.np S0 w0 refs σ a w S γ){o:Oper}{e:Bool}(h:nilT E σ o=some e) :
  ∃v b,(execOp a.eval o).run P w = .ok (.value v) w/\v = .bool b/\(b=true->e=true):=by
 unfold nilT at h;split at h
 .rename_i t x y ty aU;split at h
  .rename_i el xs ti hx hy px;split at h
   .rename_i hl;simp only[j3]at h;subst h;have ex:=gM hR x;have ey:=gM hR y;rw[hx]at ex;rw[hy]at ey;obtain⟨ad,cap,cp,hlen,_,wq,_⟩:=ex.1;have wu:a.eval x = .slice ad (List.length xs) cap:=by simpa using cp
    have Cu:a.eval y = .slice none 0 0:=ey.1;obtain⟨a',aD⟩:=yx hl;obtain⟨hd,_⟩:=iu hT px aD;refine⟨.bool ad.isNone,ad.isNone,?_,rfl,λhb=>?_⟩
    .simp only[execOp,aU,wu,Cu,eqGuard,binOp];simp[run_equal_slice_nil w t ti.elem ad (List.length xs) cap hd]
    .have:ad=none:=by cases ad<;>simp_all
     have:=wq this;have:List.length xs=0:=by omega
     cases xs with
     |nil=>rfl
     |cons=>simp at this
   .simp at h
  .simp at h
 .simp at h
theorem wv{P:Program}{E:Env}(hT:bt P E.T)(hC:gn P E.C)(hR:Rel E.N E.np S0 w0 refs σ a w S γ){act:List (Nat×Bool)}(ar:lE (tm a) act){p:Bool}
  (hc:p=false->bQ σ){o:Oper}(hd:gK E.N o=true){R:Type}{k:St->Option R}{r:R}(h:run1 E p σ act o k=some r){next:Go.Act->World->Prop}{Q:Exit->Go.Act->World->Prop}
  (hn:∀σ' a' w' S' γ',Rel E.N E.np S0 w0 refs σ' a' w' S' γ'->(p=false->bQ σ')->k σ'=some r->next a' w'):o.wp P a w next Q:=by
 have hd:=si hd
 have dR:∀(u:Ups)(s:Slot)(v:Value)(w':World)(S':an)(γ':Nat->Value),Rel E.N E.np S0 w0 refs (σ.upd u) a w' S' γ'->fe S' w' γ' (σ.upd u).bx (tm a) s v->s.bare=true->
   k (cond p ((σ.upd u).put o.dst s) ((σ.upd u).setD o.dst s))=some r->next (a.put o.dst v) w':=by
  intro u s v w' S' γ' aY hs hb hk;cases p with
  |true=>exact hn _ _ _ _ _ (wo aY hd hs) (by simp) hk
  |false=>obtain⟨h1,h2⟩:=uf aY (Hp (hc rfl)) hd hs hb;exact hn _ _ _ _ _ h1 (λ_=>h2) hk
 unfold run1 at h;split at h
 .rename_i e he
  have he:nilT E σ o=some e:=by
   cases hz:E.nz with
   |true=>rw[hz]at he;exact he
   |false=>rw[hz]at he;simp at he
  obtain⟨v,b,ai,rfl,hb⟩:=NC (P:=P) hT hR he;obtain⟨h1,h2⟩:=LH h;unfold Oper.wp;rw[ai,Oper.upon_value];cases b with
  |true=>exact dR [] (.one (.one (.d .bool true))) (.bool true) w S γ hR ⟨rfl,λ_=>rfl⟩ rfl (h2 (hb rfl))
  |false=>exact dR [] (.one (.one (.d .bool false))) (.bool false) w S γ hR ⟨rfl,λ_=>rfl⟩ rfl h1
 split at h
 .simp at h
 .rename_i fH s u ho;cases fH with
  |false=>simp at h
  |true=>
   obtain⟨⟨v,w',S',γ',ai,aY,hs⟩,hb⟩:=Cp hT hR ar (λ_=> .inl rfl) ho;unfold Oper.wp;rcases ai with ai|⟨ai,rfl⟩
   .rw[ai,Oper.upon_value];exact dR u s v w' S' γ' aY hs hb h
   .rw[ai,Oper.upon_skip];exact dR u s undef w' S' γ' aY hs hb h
 .rename_i f args mk ho;obtain⟨hf,cu⟩:=hC f args R _ r h;obtain⟨vals,ai,iI,hb⟩:=Hm hR ar (λ_=> .inl rfl) ho hf cu;unfold Oper.wp;rw[ai,Oper.upon_enter];refine iI.mono ?_
  rintro e w' ⟨ret,hk,ah⟩
  split at hk
  .rename_i s u aB;obtain⟨v,S',γ',rfl,aY,hs⟩:=ah s u aB;exact dR u s v w' S' γ' aY hs (hb ret s u aB) hk
  .simp at hk
theorem Cv{P:Program}{E:Env}(hT:bt P E.T)(hC:gn P E.C){ops:Array Oper}(bI:bare ops=true){R:Type}{k:St->Option R}{r:R}{Q:Exit->Go.Act->World->Prop}
  (hn:∀σ' a' w' S' γ',Rel E.N E.np S0 w0 refs σ' a' w' S' γ'->bQ σ'->k σ'=some r->Q .normal a' w') :
  ∀(n i:Nat)(σ:St)(a:Go.Act)(w:World)(S:an)(γ:Nat->Value),i+n=ops.size->Rel E.N E.np S0 w0 refs σ a w S γ->bQ σ->mU E (ops.toList.drop i) σ k=some r->
   wpOps P ops Q (List.range' i n) a w
 |0,i,σ,a,w,S,γ,hi,hR,hc,h=>by
  rw[jh (by simp;omega)]at h;exact hn _ _ _ _ _ hR hc h
 |n+1,i,σ,a,w,S,γ,hi,hR,hc,h=>by
  have ax:i<ops.size:=by omega
  rw[jo (by simpa using ax)]at h;simp only[mU]at h;split at h
  .rename_i hd;have ho:ops[i]? = some ops[i]:=jr ax;simp only[qo,wpOps,ho];have hg:ops[i].guard=none:=by have:=ji.1 bI ops[i] (by simp);simpa using this
   have hw:Region.wanted ops[i] (yielded ops a.tmps)=true:=by simp[Region.wanted,hg]
   simp only[hw,if_true];refine .inl (wv hT hC hR (act:=[]) (λg hg=>by simp at hg) (p:=false) (λ_=>hc) (by simpa using hd) (by simpa using h) (λσ' a' w' S' γ' aY bY hk=>?_));exact Cv hT hC bI hn n (i+1) σ' a' w' S' γ' (by omega) aY (bY rfl) hk
  .simp at h
theorem yZ{ops:Array Oper}{o:Oper}{g:Nat×Bool}(h:jP ops o=some g):Region.wanted o (yielded ops a.tmps)=true↔tm a g.1 = .bool g.2:=by
 unfold jP at h;split at h
 .simp at h
 .rename_i j wn Cw;split at h
  .rename_i oj fP;split at h
   .rename_i s hs;simp only[j3]at h;subst h;simp only[Region.wanted,Cw,yielded,fP,j0,hs,tm];cases hq:a.tmps[s]? with
    |none=>
     have:a.tmps.getD s undef=undef:=by simp[hq]
     rw[this];simp[undef]
    |some v=>
     have:a.tmps.getD s undef=v:=by simp[hq]
     rw[this];cases v<;>simp
   .simp at h
  .simp at h
theorem Cx(hR:Rel N np S0 w0 refs σ a w S γ):∀(n:Nat)(g:Nat×Bool),tm a g.1 = .bool g.2->lE (tm a) (σ.chain n g)
 |0,g,h=>by intro x hx;simp only[St.chain,q8]at hx;subst hx;exact h
 |n+1,g,h=>by
  simp only[St.chain];have hs:=hR.slot g.1;split
  .rename_i s b c hc;rw[hc]at hs
   have h2:tm a s = .bool b:=by
    rcases hs with hs|hs
    .exact hs.1
    .have:tm a g.1=undef:=hs.2;rw[h]at this;simp[undef]at this
   intro x hx;rcases jf.1 hx with rfl|hx
   .exact h
   .exact Cx hR n (s,b) h2 x hx
  .intro x hx;simp only[q8]at hx;subst hx;exact h
theorem ND:∀(n:Nat)(g:Nat×Bool),g∈σ.chain n g
 |0,g=>by simp[St.chain]
 |n+1,g=>by simp only[St.chain];split<;>simp
theorem Hq(hR:Rel N np S0 w0 refs σ a w S γ):∀{l:List (Nat×Bool)}{b:Bool},actB σ l=some b->lE (tm a) l->b=true
 |[],b,h,_=>by simp[actB]at h;exact h
 |(s,wn)::r,b,h,ha=>by
  have ht:tm a s = .bool wn:=ha (s,wn) (by simp);simp only[actB]at h;split at h
  .rename_i v hv
   have NF:v=wn:=by
    have hs:=hR.slot s;unfold gval at hv;split at hv
    .rename_i v' dg;simp only[j3]at hv;subst hv;rw[dg]at hs;have:tm a s = .bool v':=mW hs;rw[ht]at this;simpa using this.symm
    .rename_i s' b' v' dg;simp only[j3]at hv;subst hv;rw[dg]at hs;rcases hs with hs|hs
     .have:tm a s = .bool v':=mW hs.2;rw[ht]at this;simpa using this.symm
     .have:tm a s=undef:=hs.2;rw[ht]at this;simp[undef]at this
    .simp at hv
   subst NF;split at h
   .simp only[j3]at h;rw[<-h];cases v<;>rfl
   .split at h
    .rename_i b2 cG;simp only[j3]at h;have:=Hq hR cG (λg hg=>ha g (by simp[hg]));rw[<-h,this];cases v<;>rfl
    .simp at h
  .simp at h
theorem Cy(hR:Rel N np S0 w0 refs σ a w S γ){s:Nat}{x:Slot}(h:fe S w γ σ.bx (tm a) x (tm a s)):Rel N np S0 w0 refs (σ.setS s x) a w S γ:=by
 refine⟨hR.size,hR.defers,λi=>?_,hR.box,hR.own,hR.apart,hR.ext,hR.new,hR.here,hR.below,hR.grow,hR.os,hR.tape,hR.output,hR.par,hR.kept,hR.fix⟩;simp only[St.setS];split
 .rename_i hi;subst hi;exact h
 .exact hR.slot i
theorem Hr{R:Type}:∀(l:List (Nat×Bool)){σ:St}{k:St->Bool->Option R}{r:R},Rel N np S0 w0 refs σ a w S γ->pd l σ k=some r->
  ∃σ' b,Rel N np S0 w0 refs σ' a w S γ/\k σ' b=some r/\(b=true↔lE (tm a) l)
 |[],σ,k,r,hR,h=>⟨σ,true,hR,h,by simp[lE]⟩
 |(s,wn)::l,σ,k,r,hR,h=>by
  simp only[pd]at h;obtain⟨σ1,b1,aJ,cZ,cb⟩:=Hr l hR h;cases b1 with
  |false=>
   refine⟨σ1,false,aJ,cZ,?_⟩;simp only[ka,false_iff]at cb ⊢
   exactλha=>cb (λg hg=>ha g (by simp[hg]))
  |true=>
   have kI:=cb.1 rfl;simp only at cZ;split at cZ
   .rename_i v hv
    have ht:tm a s = .bool v:=by
     have hs:=aJ.slot s;unfold Bd at hv;split at hv
     .rename_i v' dg;simp only[j3]at hv;subst hv;rw[dg]at hs;exact mW hs
     .rename_i s' b' v' dg;split at hv
      .rename_i hm;simp only[j3]at hv;subst hv;rw[dg]at hs;have fo:(s',b')∈l:=by simpa using hm
       have:=kI _ fo;rcases hs with hs|hs
       .exact mW hs.2
       .exact absurd this hs.1
      .simp at hv
     .simp at hv
    have wx:∀b,b=v->Rel N np S0 w0 refs (σ1.setS s (.one (.one (.d .bool b)))) a w S γ:=by
     rintro b rfl
     refine Cy aJ ⟨?_,λ_=>?_⟩
     .show Rep S w .bool b [tm a s];rw[ht];rfl
     .rw[ht];rfl
    cases v with
    |true=>
     simp only[j4]at cZ;refine⟨_,wn,wx true rfl,cZ,?_⟩;constructor
     .rintro rfl g hg
      rcases jf.1 hg with rfl|hg
      .exact ht
      .exact kI g hg
     .intro ha;have:=ha (s,wn) (by simp);rw[ht]at this;simpa using this.symm
    |false=>
     simp only[j5]at cZ;refine⟨_, !wn,wx false rfl,cZ,?_⟩;constructor
     .intro hw g hg;have Cz:wn=false:=by simpa using hw
      subst Cz;rcases jf.1 hg with rfl|hg
      .exact ht
      .exact kI g hg
     .intro ha;have:=ha (s,wn) (by simp);rw[ht]at this;have:false=wn:=by simpa using this
      rw[<-this];rfl
   .simp at cZ
theorem NG{P:Program}{E:Env}(hT:bt P E.T)(hC:gn P E.C)(hR:Rel E.N E.np S0 w0 refs σ a w S γ){ops:Array Oper}{o:Oper}(hd:gK E.N o=true)
  {R:Type}{k:St->Option R}{r:R}(h:u5 E ops σ o k=some r){next:Go.Act->World->Prop}{Q:Exit->Go.Act->World->Prop}
  (hn:∀σ' a' w' S' γ',Rel E.N E.np S0 w0 refs σ' a' w' S' γ'->k σ'=some r->next a' w') :
  if Region.wanted o (yielded ops a.tmps) then o.wp P a w next Q\/(o.asks P a w/\LetsOut Q) else next (a.put o.dst undef) w:=by
 have jZ:=si hd;unfold u5 at h;split at h
 .split at h
  .rename_i hg;have hw:Region.wanted o (yielded ops a.tmps)=true:=by simp[Region.wanted,hg]
   simp only[hw,if_true];exact .inl (wv hT hC hR (act:=[]) (λg hg=>by simp at hg) (p:=true) (by simp) hd h (λσ' a' w' S' γ' aY _ hk=>hn σ' a' w' S' γ' aY hk))
  .simp at h
 .rename_i g hg;dsimp only at h;have wy:=yZ (a:=a) hg
  have pV:pd (σ.chain 40 g) σ (λσ' a=>match a with
    |true=>run1 E true σ' (σ.chain 40 g) o k
    |false=>k (σ'.put o.dst (.one (.one .dead))))=some r->
    if Region.wanted o (yielded ops a.tmps) then o.wp P a w next Q\/(o.asks P a w/\LetsOut Q) else next (a.put o.dst undef) w:=by
   intro hs;obtain⟨σ',b,aY,hk,hb⟩:=Hr _ hR hs;cases b with
   |true=>have ar:=hb.1 rfl;have hw:=wy.2 (ar g (ND 40 g));simp only[hw,if_true];exact .inl (wv hT hC aY ar (p:=true) (by simp) hd hk (λσ' a' w' S' γ' aY _ hk=>hn σ' a' w' S' γ' aY hk))
   |false=>
    have hw:¬Region.wanted o (yielded ops a.tmps)=true:=λhw=>by
     have:=hb.2 (Cx hR 40 g (wy.1 hw));simp at this
    simp only[hw];exact hn _ _ _ _ _ (wo aY jZ (s:= .one (.one .dead)) (v:=undef) ⟨trivial,λh=>absurd rfl h⟩) hk
  split at h
  .rename_i fH c ho;split at h
   .rename_i ab pL;by_cases hw:Region.wanted o (yielded ops a.tmps)=true
    .have ar:=Cx hR 40 g (wy.1 hw);have:=Hq hR pL ar;subst this;simp only[hw,if_true];cases fH with
     |false=>simp at h
     |true=>
      simp only[jc,Bool.or_false,j4]at h;obtain⟨⟨v,w',S',γ',ai,aY,hs⟩,hb⟩:=Cp hT hR ar (λ_=> .inl rfl) ho;have fA:=wo aY jZ (s:= .cnd g.1 g.2 c) (v:=v) (.inl ⟨wy.1 hw,hs⟩);refine .inl ?_;unfold Oper.wp;rcases ai with ai|⟨ai,rfl⟩
      .rw[ai,Oper.upon_value];exact hn _ _ _ _ _ fA h
      .rw[ai,Oper.upon_skip];exact hn _ _ _ _ _ fA h
    .simp only[hw]
     have hk:k (σ.put o.dst (.cnd g.1 g.2 c))=some r:=by
      cases hc:(fH || !ab) with
      |true=>rw[hc]at h;exact h
      |false=>rw[hc]at h;simp at h
     exact hn _ _ _ _ _ (wo hR jZ (s:= .cnd g.1 g.2 c) (v:=undef) (.inr ⟨λhh=>hw (wy.2 hh),rfl⟩)) hk
   .exact pV h
  .exact pV h
theorem NH(hR:Rel N np S0 w0 refs σ a w S γ):Rel N np S0 w0 refs σ.clear a w S γ/\bQ σ.clear:=by
 refine⟨⟨hR.size,hR.defers,λi=>?_,hR.box,hR.own,hR.apart,hR.ext,hR.new,hR.here,hR.below,hR.grow,hR.os,hR.tape,hR.output,hR.par,hR.kept,hR.fix⟩,λi=>?_⟩
 .have:=hR.slot i;simp only[St.clear];cases hs:σ.sl i with
  |one c=>rw[hs]at this;exact this
  |tup l=>rw[hs]at this;exact this
  |und=>rw[hs]at this;exact this
  |cnd s b c=>exact⟨trivial,λh=>absurd rfl h⟩
 .simp only[St.clear];cases σ.sl i<;>rfl
theorem Hs{P:Program}{E:Env}(hT:bt P E.T)(hC:gn P E.C){ops:Array Oper}{R:Type}{k:St->Option R}{r:R}{Q:Exit->Go.Act->World->Prop}
  (hn:∀σ' a' w' S' γ',Rel E.N E.np S0 w0 refs σ' a' w' S' γ'->bQ σ'->k σ'=some r->Q .normal a' w') :
  ∀(n i:Nat)(σ:St)(a:Go.Act)(w:World)(S:an)(γ:Nat->Value),i+n=ops.size->Rel E.N E.np S0 w0 refs σ a w S γ->tu E ops (ops.toList.drop i) σ k=some r->
   wpOps P ops Q (List.range' i n) a w
 |0,i,σ,a,w,S,γ,hi,hR,h=>by
  rw[jh (by simp;omega)]at h;obtain⟨h1,h2⟩:=NH hR;exact hn _ _ _ _ _ h1 h2 h
 |n+1,i,σ,a,w,S,γ,hi,hR,h=>by
  have ax:i<ops.size:=by omega
  rw[jo (by simpa using ax)]at h;simp only[tu]at h;split at h
  .rename_i hd;have ho:ops[i]? = some ops[i]:=jr ax;simp only[qo,wpOps,ho];exact NG hT hC hR (by simpa using hd) (by simpa using h) (λσ' a' w' S' γ' aY hk=>Hs hT hC hn n (i+1) σ' a' w' S' γ' (by omega) aY hk)
  .simp at h
theorem NI{P:Program}{E:Env}(hT:bt P E.T)(hC:gn P E.C)(hR:Rel E.N E.np S0 w0 refs σ a w S γ)(hc:bQ σ){ops:Array Oper}{R:Type}{k:St->Option R}{r:R}
  {Q:Exit->Go.Act->World->Prop}(hn:∀σ' a' w' S' γ',Rel E.N E.np S0 w0 refs σ' a' w' S' γ'->bQ σ'->k σ'=some r->Q .normal a' w')(h:u6 E ops σ k=some r) :
  wpOps P ops Q (List.range ops.size) a w:=by
 rw[List.range_eq_range'];unfold u6 at h;split at h
 .rename_i hb;exact Cv hT hC hb hn ops.size 0 σ a w S γ (by omega) hR hc (by simpa using h)
 .exact Hs hT hC hn ops.size 0 σ a w S γ (by omega) hR (by simpa using h)
end
section
variable{N:NT}{np:Nat}{S0:an}{w0:World}{refs:Refs}{σ:St}{a:Go.Act}{w:World}{S:an}{γ:Nat->Value}
theorem Ht(hR:Rel N np S0 w0 refs σ a w S γ){k:Nat}{b b':Bx}(hk:σ.bx k = .live b)(pw:fg b b')(bz:∀bx',BxLe γ σ.bx γ bx'->cP S w γ bx' k b') :
  Rel N np S0 w0 refs (σ.setB k (.live b')) a w S γ:=by
 have hle:BxLe γ σ.bx γ (σ.setB k (.live b')).bx:=by
  intro k' aS;by_cases h:k'=k
  .subst h;rw[c9];exact⟨by simp,rfl,λx hx=>by simp at hx;subst hx;exact⟨b,hk,pw⟩⟩
  .rw[bu σ _ h];exact⟨aS,rfl,λx hx=>⟨x,hx,.refl x⟩⟩
 have aO:∀k' x,(σ.setB k (.live b')).bx k' = .live x->∃x',σ.bx k' = .live x':=by
  intro k' x hx;by_cases h:k'=k
  .subst h;exact⟨b,hk⟩
  .rw[bu σ _ h]at hx;exact⟨x,hx⟩
 refine Rel.step (bx':=(σ.setB k (.live b')).bx) hR (.refl S w) hle ?_ ?_ ?_ hR.new hR.here hR.below hR.grow hR.os hR.tape hR.output (λg _ _ h=>⟨rfl,λk' b' aj=>by obtain⟨b2,cG⟩:=aO k' b' aj;exact h k' b2 cG⟩)
 .intro k' x hx;by_cases h:k'=k
  .subst h;rw[c9]at hx;simp at hx;subst hx;exact bz _ hle
  .rw[bu σ _ h]at hx;exact cP.keep (.refl S w) hle rfl (λg hg=>⟨rfl,λ_=>Iff.rfl⟩) (hR.box k' x hx)
 .intro k' x g hx hg;obtain⟨x',kZ⟩:=aO k' x hx;exact hR.own k' x' g kZ hg
 .intro k1 k2 x1 x2 g aG h1 h2 hg;obtain⟨y1,NJ⟩:=aO k1 x1 h1;obtain⟨y2,NK⟩:=aO k2 x2 h2;exact hR.apart k1 k2 y1 y2 g aG NJ NK hg
theorem All2.set_left{α β:Type}{R:α->β->Prop}:∀{as:List α}{bs:List β},All2 R as bs->∀(i:Nat)(x:α)(b:β),bs[i]? = some b->R x b->All2 R (as.set i x) bs
 |[],[],_,i,x,b,hb,_=>by simp at hb
 |_::_,_::_,h,0,x,b,hb,hr=>by simp at hb;subst hb;exact⟨hr,h.2⟩
 |_::_,_::_,h,i+1,x,b,hb,hr=>⟨h.1,All2.set_left h.2 i x b (by simpa using hb) hr⟩
 |[],_::_,h,_,_,_,_,_=>h.elim
 |_::_,[],h,_,_,_,_,_=>h.elim
theorem CA:∀(l:List (Loc×Ty))(σ σ':St)(S:an),Rel N np S0 w0 refs σ a w S γ->bQ σ->tA np l σ=some σ'->∃S',Rel N np S0 w0 refs σ' a w S' γ/\bQ σ'
 |[],σ,σ',S,hR,hc,h=>by simp[tA]at h;subst h;exact⟨S,hR,hc⟩
 |(l,t)::r,σ,σ',S,hR,hc,h=>by
  simp only[tA]at h;split at h
  .rename_i v u hv;have aE:=ud (np:=np) (σ:=σ) (rd:=mskM σ.bx) (RdR.msk λ_=> .inl rfl)
   suffices hs:∃S',Rel N np S0 w0 refs (rB (σ.upd u) l (.d t v)) a w S' γ/\bQ (rB (σ.upd u) l (.d t v)) by
    obtain⟨S1,aJ,dP⟩:=hs;exact CA r _ σ' S1 aJ dP h
   cases l with
   |slot i=>
    cases dg:σ.sl i with
    |tup x=>simp only[fc,dg]at hv;simp[ft]at hv
    |cnd x y z=>simp only[fc,dg]at hv;simp[ft]at hv
    |und=>simp only[fc,dg]at hv;simp[ft]at hv
    |one c=>
     cases c with
     |st ls=>simp only[fc,dg]at hv;simp[ft]at hv
     |av n b xs=>simp only[fc,dg]at hv;simp[ft]at hv
     |one x=>
      simp only[fc,dg]at hv;have pW:=hR.slot i;rw[dg]at pW;obtain⟨eP,hp⟩:=pC aE hR.box hv pW.1;obtain⟨S1,aJ,bF,ei,_⟩:=iW u σ S hR eP;have aH:=hp S1 w bF ei;refine⟨S1,?_,?_⟩
      .simp only[rB,pB,dg];exact Cy aJ ⟨aH,λ_=>Rep.one _ _ _ aH _ (q8.2 rfl)⟩
      .intro j;simp only[rB,pB,dg,St.setS];split
       .rfl
       .exact hc j
   |cell k c=>
    have iJ:fc σ (.cell k c) ≠ .dead:=λhd=>by rw[hd]at hv;simp[ft]at hv
    cases cU:σ.bx k with
    |free=>simp[fc,cU]at iJ
    |gone=>simp[fc,cU]at iJ
    |live b=>
     cases b with
     |lst e b xs f=>simp[fc,cU]at iJ
     |arr n b xs=>simp[fc,cU]at iJ
     |cell ls f=>
      cases f with
      |true=>simp[fc,cU]at iJ
      |false=>
       have hl:fc σ (.cell k c)=ls.getD c .dead:=by simp[fc,cU]
       rw[hl]at hv iJ;obtain⟨g,cur,e,h1,h2,h3,h4,h5,h6⟩:=hR.box k _ cU;cases hg:ls[c]? with
       |none=>simp[hg]at iJ
       |some x=>
        have NL:ls.getD c .dead=x:=by simp[hg]
        rw[NL]at hv;obtain⟨z,hz,NM⟩:=h3.get c x hg;obtain⟨eP,hp⟩:=pC aE hR.box hv NM;obtain⟨S1,aJ,bF,ei,ct⟩:=iW u σ S hR eP;have aH:=hp S1 w bF ei;have ox:=ct.cell cU;refine⟨S1,?_,?_⟩
        .simp only[rB,ox];refine Ht aJ ox trivial (λbx' hle=>?_);obtain⟨g',rV,e',gO,fX,pS,NN,NO,h6'⟩:=aJ.box k _ ox;rw[h1]at gO;simp at gO;subst gO;rw[h2]at fX;simp at fX;obtain⟨rfl,rfl⟩:=fX;exact⟨g,cur,e,h1,h2,by rw[qn];exact All2.set_left (pS.mono (λx u hx=>aL.keep (.refl S1 w) hle hx)) c (.d t v) z hz aH,by rw[qn];exact NN,NO,by simp⟩
        .intro j;simp only[rB,ox];show ((σ.upd u).sl j).bare=true;rw[pB];exact hc j
  .simp at h
theorem wz:∀(l:List jO)(σ σ':St)(S:an),Rel N np S0 w0 refs σ a w S γ->bQ σ->pg np l σ=some σ'->∃S',Rel N np S0 w0 refs σ' a w S' γ/\bQ σ'
 |[],σ,σ',S,hR,hc,h=>by simp[pg]at h;subst h;exact⟨S,hR,hc⟩
 |x::r,σ,σ',S,hR,hc,h=>by
  simp only[pg]at h;split at h
  .split at h
   .split at h
    .split at h
     .rename_i e b xs f cU;split at h
      .simp at h
      .rename_i hp;simp only[qe,not_or,Bool.not_eq_true]at hp;obtain⟨S1,aJ,_⟩:=BF hR hp.2 cU hp.1;exact wz r _ σ' S1 aJ (λi=>hc i) h
     .simp at h
    .exact wz r σ σ' S hR hc h
   .exact wz r σ σ' S hR hc h
  .exact wz r σ σ' S hR hc h
theorem lg:∀{l:List Nat}{i j:Nat},l.idxOf? i=some j->l[j]? = some i
 |[],i,j,h=>by simp at h
 |x::l,i,j,h=>by
  rw[List.idxOf?_cons]at h;split at h
  .rename_i he;simp at h he;subst h;subst he;rfl
  .cases hq:l.idxOf? i with
   |none=>simp[hq]at h
   |some j'=>simp[hq]at h;subst h;simpa using lg hq
theorem CB:∀{l:List Nat}{i:Nat},l.idxOf? i=none->i∉l
 |[],i,_=>by simp
 |x::l,i,h=>by
  rw[List.idxOf?_cons]at h;split at h
  .simp at h
  .rename_i he;have hq:l.idxOf? i=none:=by simpa using h
   have:=CB hq;simp only[jf,not_or];exact⟨λe=>he (by simp[e]),this⟩
theorem CC{e:Nat}{t:Ty}{l:Loc}{k:Option Nat}{xs:List t.den}{f:Bool}(h:tx σ e t l=some (k,xs,f)) :
  (k=none/\isM e=false/\xs=[]/\fc σ l = .nil)\/∃k0,k=some k0/\fc σ l = .ol k0/\σ.bx k0 = .live (.lst e t xs f):=by
 unfold tx at h;split at h
 .rename_i hl;split at h
  .simp at h
  .rename_i hm;simp only[j3,j7]at h;exact .inl ⟨h.1.symm,by simpa using hm,h.2.1.symm,hl⟩
 .rename_i k0 hl;split at h
  .rename_i e' t' bM f' hb;split at h
   .rename_i v fi;split at h
    .rename_i he;simp only[j3,j7]at h;obtain⟨rfl,rfl,rfl⟩:=h;have:=gN fi;cases this;subst he;exact .inr ⟨k0,rfl,hl,hb⟩
    .simp at h
   .simp at h
  .simp at h
 .simp at h
theorem y3{e:Nat}{t:Ty}:∀{ls:List Loc}{k:Option Nat}{xs:List t.den}{f:Bool},rA σ e t ls=some (k,xs,f)->
  (∃l∈ls,tx σ e t l=some (k,xs,f))/\∀l∈ls,∃bM f',tx σ e t l=some (k,bM,f')
 |[],_,_,_,h=>by simp[rA]at h
 |[l],k,xs,f,h=>by
  simp only[rA]at h;exact⟨⟨l,by simp,h⟩,λl' iH=>by simp at iH;subst iH;exact⟨_,_,h⟩⟩
 |l::l2::ls,k,xs,f,h=>by
  simp only[rA]at h;split at h
  .rename_i k1 yM f1 k2 Gg f2 h1 h2;split at h
   .rename_i hk;simp only[j3,j7]at h;obtain⟨rfl,rfl,rfl⟩:=h;subst hk;obtain⟨_,ah⟩:=y3 h2;refine⟨⟨l,by simp,h1⟩,λl' iH=>?_⟩;rcases jf.1 iH with rfl|iH
    .exact⟨_,_,h1⟩
    .exact ah l' iH
   .simp at h
  .simp at h
def Hu(np:Nat)(σ:St)(bs:List Nat)(x:jO)(it:Item)(src:Option Nat):Prop:=
 ∃xs f f',rA σ x.e x.a x.locs=some (src,xs,f)/\it = .b (.live (.lst x.e x.a xs f'))/\∀k0,src=some k0->f'=f/\k0∉bs/\parK np k0=false
theorem Hv{bs:List Nat}:∀{L:List jO}{is:List Item}{ks:List Nat},tz np σ bs L=some (is,ks)->
  ∃dv:List (Option Nat),ks=dv.filterMap id/\ks.Nodup/\∀(j:Nat)(x:jO),L[j]? = some x->∃it src,is[j]? = some it/\dv[j]? = some src/\Hu np σ bs x it src
 |[],is,ks,h=>by
  simp[tz]at h;obtain⟨rfl,rfl⟩:=h;exact⟨[],rfl,List.nodup_nil,λj x hx=>by simp at hx⟩
 |x::L,is,ks,h=>by
  simp only[tz]at h;split at h
  .rename_i k xs f is' Bn h1 h2;obtain⟨dv,e1,e2,e3⟩:=Hv h2;split at h
   .simp only[j3,j7]at h;obtain⟨rfl,rfl⟩:=h;refine⟨none::dv,by simp[e1],e2,λj y hy=>?_⟩;cases j with
    |zero=>simp at hy;subst hy;exact⟨_,none,rfl,rfl,xs,f,x.frz,h1,rfl,by simp⟩
    |succ j=>exact e3 j y (by simpa using hy)
   .rename_i k0;split at h
    .simp at h
    .rename_i hn;simp only[qe,not_or,Bool.not_eq_true,kg,jg]at hn;simp only[j3,j7]at h;obtain⟨rfl,rfl⟩:=h;refine⟨some k0::dv,by simp[e1],q7.2 ⟨hn.1.1,e2⟩,λj y hy=>?_⟩;cases j with
     |zero=>simp at hy;subst hy;exact⟨_,some k0,rfl,rfl,xs,f,f,h1,rfl,λk1 cZ=>by simp at cZ;subst cZ;exact⟨rfl,hn.1.2,hn.2⟩⟩
     |succ j=>exact e3 j y (by simpa using hy)
  .simp at h
theorem Hw:∀{dv:List (Option Nat)},(dv.filterMap id).Nodup->∀{j j' k:Nat},dv[j]? = some (some k)->dv[j']? = some (some k)->j=j'
 |[],_,j,_,_,h,_=>by simp at h
 |s::dv,hn,j,j',k,h,h'=>by
  have oy:∀{i:Nat},dv[i]? = some (some k)->k∈dv.filterMap id:=λhi=>z4.2 ⟨some k,jv hi,rfl⟩
  have CD:(dv.filterMap id).Nodup:=by
   cases s with
   |none=>simpa using hn
   |some y=>simp at hn;exact hn.2
  cases j with
  |zero=>
   cases j' with
   |zero=>rfl
   |succ j'=>simp at h h';subst h;simp at hn;exact absurd (by simpa using oy h') hn.1
  |succ j=>
   cases j' with
   |zero=>simp at h h';subst h';simp at hn;exact absurd (by simpa using oy h) hn.1
   |succ j'=>have:=Hw CD (j:=j) (j':=j') (k:=k) (by simpa using h) (by simpa using h');omega
theorem Hx:∀{l:List Nat},l.Nodup->∀{i j n:Nat},l[i]? = some n->l[j]? = some n->i=j
 |[],_,i,_,_,hi,_=>by simp at hi
 |x::l,h,i,j,n,hi,hj=>by
  obtain⟨h1,h2⟩:=q7.1 h;cases i with
  |zero=>
   cases j with
   |zero=>rfl
   |succ j=>simp at hi hj;subst hi;exact absurd (jv hj) h1
  |succ i=>
   cases j with
   |zero=>simp at hi hj;subst hj;exact absurd (jv hi) h1
   |succ j=>rw[Hx h2 (i:=i) (j:=j) (n:=n) (by simpa using hi) (by simpa using hj)]
end
section
variable{N:NT}{np:Nat}{S0:an}{w0:World}{refs:Refs}{σ:St}{a:Go.Act}{w:World}{S:an}{γ:Nat->Value}
theorem NP{K:Keep}{l:Loc}{n:Nat}(h:vd K l=some n):∃(j:Nat)(x:jO),K.lists[j]? = some x/\x.name=n/\l∈x.locs:=by
 unfold vd at h;obtain⟨x,hq,hn⟩:=Option.map_eq_some_iff.1 h;have h1:=List.find?_some hq;obtain⟨j,hj⟩:=qf.1 (List.mem_of_find?_eq_some hq);exact⟨j,x,hj,hn,by simpa using h1⟩
theorem sj{K:Keep}{k:Nat}{x:BS}{b:Bx}(h:pf K k x = .live b):∃b0,x = .live b0/\fg b0 b:=by
 unfold pf at h;split at h
 .simp only[BS.live.injEq]at h;subst h;exact⟨_,rfl,trivial⟩
 .simp only[BS.live.injEq]at h;subst h;exact⟨_,rfl,.refl _⟩
 .simp only[BS.live.injEq]at h;subst h;exact⟨_,rfl,.refl _⟩
 .simp at h
theorem sk{K:Keep}{k:Nat}{x:BS}:pf K k x ≠ .free:=by
 unfold pf;split<;>simp
theorem Hy{R:Leaf->Value->Prop}{f:Leaf×Nat->Leaf}:∀{ls:List Leaf}{cs:List Value}(n:Nat),(∀(j:Nat)(x:Leaf)(u:Value),ls[j]? = some x->cs[j]? = some u->R (f (x,n+j)) u)->ls.length=cs.length->
  All2 R ((ls.zipIdx n).map f) cs
 |[],[],_,_,_=>trivial
 |x::ls,c::cs,n,h,hl=>by
  refine⟨h 0 x c rfl rfl,Hy (n+1) (λj y u hy hu=>?_) (by simpa using hl)⟩;have:=h (j+1) y u (by simpa using hy) (by simpa using hu);rwa[show n+1+j=n+(j+1) by omega]
 |[],_::_,_,_,hl=>by simp at hl
 |_::_,[],_,_,hl=>by simp at hl
theorem NQ{K:Keep}{s:Snap}(hR:Rel N np S0 w0 refs σ a w S γ)(hs:Bi np K σ=some s):∃γ',Rel N np S0 w0 refs (br np K s) a w S γ'/\bQ (br np K s):=by
 unfold Bi at hs;cases hL:tz np σ K.boxes K.lists with
 |none=>simp[hL]at hs
 |some p=>
 obtain⟨is,ks⟩:=p;simp only[hL]at hs;cases aM:K.ok np with
 |false=>simp[aM]at hs
 |true=>
 simp only[aM,if_true,j3]at hs;obtain⟨dv,nj,ck,wA⟩:=Hv hL;rw[nj]at ck;simp only[Keep.ok,j9]at aM;have sq:=rW aM.1;have wk:∀(j:Nat)(x:jO),K.lists[j]? = some x->x.name∉K.boxes:=by intro j x hx;have:=ji.1 aM.2 x (jv hx);simp only[j9]at this;simpa using this.1
 have pX:∀(j:Nat)(x:jO),K.lists[j]? = some x->parK np x.name=false:=by intro j x hx;have:=ji.1 aM.2 x (jv hx);simp only[j9]at this;simpa using this.2
 let γ':Nat->Value:=λn=>match K.boxes.idxOf? n with
  |some _=>γ n
  |none=>match (K.lists.map (·.name)).idxOf? n with
   |some j=>match dv[j]? with
    |some (some k)=>γ k
    |_=> .slice none 0 0
   |none=>γ n
 have cU:(br np K s).bx=λn=>match K.boxes.idxOf? n with
  |some j=>ph s[K.slots.length+j]?
  |none=>match (K.lists.map (·.name)).idxOf? n with
   |some j=>ph s[K.slots.length+K.boxes.length+j]?
   |none=>if parK np n then .gone else .free:=rfl
 have hB:∀n,n∈K.boxes->(br np K s).bx n=pf K n (σ.bx n)/\γ' n=γ n:=by
  intro n hn;rw[cU];cases hq:K.boxes.idxOf? n with
  |none=>exact absurd hn (CB hq)
  |some j=>have hj:=lg hq;refine⟨?_,by simp only[γ',hq]⟩;simp only[hq,<-hs];rw[jx (by simp)];simp only[qs,Nat.add_sub_cancel_left];rw[List.getElem?_append_left (by simp;exact(jk.1 hj).1)];simp[hj,ph]
 have CE:∀(j:Nat)(x:jO),K.lists[j]? = some x->∃it src,dv[j]? = some src/\Hu np σ K.boxes x it src/\(br np K s).bx x.name=ph (some it)/\
   γ' x.name=(match src with|some k=>γ k|none=> .slice none 0 0):=by
  intro j x hx;obtain⟨it,src,h1,h2,h3⟩:=wA j x hx
  have pY:K.boxes.idxOf? x.name=none:=by
   cases hq:K.boxes.idxOf? x.name with
   |none=>rfl
   |some i=>exact absurd (jv (lg hq)) (wk j x hx)
  have tS:(K.lists.map (·.name))[j]? = some x.name:=by simp[hx]
  cases hq:(K.lists.map (·.name)).idxOf? x.name with
  |none=>exact absurd (jv tS) (CB hq)
  |some i=>
   have hi:=Hx sq (lg hq) tS;subst hi;refine⟨it,src,h2,h3,?_,?_⟩
   .rw[cU];simp only[pY,hq,<-hs];rw[jx (by simp;omega),jx (by simp;omega)];have:K.slots.length+K.boxes.length+i-(K.slots.map λi=>Item.s (yk K i (σ.sl i))).length-(K.boxes.map λk=>Item.b (pf K k (σ.bx k))).length=i:=by simp;omega
    rw[this,h1]
   .simp only[γ',pY,hq,h2];cases src<;>rfl
 have hF:∀n b,(br np K s).bx n = .live b->n∈K.boxes\/∃(j:Nat)(x:jO),K.lists[j]? = some x/\x.name=n:=by
  intro n b hb;by_cases hn:n∈K.boxes
  .exact .inl hn
  .right;rw[cU]at hb
   have pY:K.boxes.idxOf? n=none:=by
    cases hq:K.boxes.idxOf? n with
    |none=>rfl
    |some i=>exact absurd (jv (lg hq)) hn
   simp only[pY]at hb;split at hb
   .rename_i j hq;have hj:=lg hq;simp only[ko]at hj;cases hx:K.lists[j]? with
    |none=>simp[hx]at hj
    |some x=>simp[hx]at hj;exact⟨j,x,hx,hj⟩
   .split at hb<;>simp at hb
 have fL:∀(loc:Option Loc)(x:Leaf)(u:Value),aL S w γ σ.bx x u->(x ≠ .dead->One u)->(∀l,loc=some l->fc σ l=x)->
   aL S w γ' (br np K s).bx (iU K loc x) u/\(iU K loc x ≠ .dead->One u):=by
  intro loc x u hl h1 CF;have ez:aL S w γ' (br np K s).bx .dead u/\(Leaf.dead ≠ .dead->One u):=⟨trivial,λh=>absurd rfl h⟩
  have fO:∀n,loc.bind (vd K)=some n->∀(hu:(x = .nil)\/∃k,x = .ol k),aL S w γ' (br np K s).bx (.ol n) u/\(Leaf.ol n ≠ .dead->One u):=by
   intro n hn hu;cases loc with
   |none=>simp at hn
   |some l=>
    simp only[j0]at hn;have y4:=CF l rfl;obtain⟨j,y,hy,NR,nY⟩:=NP hn;obtain⟨it,src,_,⟨xs,f,f',eY,pZ,sr⟩,ss,nk⟩:=CE j y hy;obtain⟨_,ah⟩:=y3 eY;obtain⟨bM,f1,l8⟩:=ah l nY;have bN:One u:=h1 (by rcases hu with rfl|⟨k,rfl⟩<;>simp);rw[NR]at ss nk;refine⟨⟨by rw[ss,pZ];simp[ph],bN,λb _=>?_⟩,λ_=>bN⟩;rw[nk];rcases CC l8 with⟨rfl,_,_,dD⟩|⟨k0,rfl,Hz,bH⟩
    .rw[y4]at dD;subst dD;exact hl
    .rw[y4]at Hz;subst Hz;exact hl.2.2 _ bH
  cases x with
  |dead=>exact ez
  |nil=>
   simp only[iU];split
   .rename_i n hn;exact fO n hn (.inl rfl)
   .exact⟨hl,h1⟩
  |d t v=>exact⟨hl,h1⟩
  |ip ls=>exact⟨hl,h1⟩
  |clo f caps=>exact⟨hl,h1⟩
  |clr f ks=>
   simp only[iU];split
   .rename_i nj;obtain⟨cv,hu,ha⟩:=hl;refine⟨⟨cv,hu,?_⟩,λ_=>h1 (by simp)⟩
    have go:∀(ks:List Nat)(zs:List Value),ks.all (λk=>K.boxes.contains k)=true->All2 (vj γ σ.bx) ks zs->All2 (vj γ' (br np K s).bx) ks zs:=by
     intro ks;induction ks with
     |nil=>intro zs _ h;cases zs with|nil=>trivial|cons _ _=>exact h.elim
     |cons k ks ih=>
      intro zs hc h;cases zs with
      |nil=>exact h.elim
      |cons z zs=>simp only[qu,j9]at hc;obtain⟨cb,cG⟩:=hB k (by simpa using hc.1);refine⟨⟨by rw[cb];exact sk,h.1.2.1,λb hb=>?_⟩,ih zs hc.2 h.2⟩;rw[cb]at hb;obtain⟨b0,cJ,_⟩:=sj hb;rw[cG];exact h.1.2.2 b0 cJ
    exact go ks cv.toList nj ha
   .exact ez
  |ep k i c=>exact ez
  |s1 k=>
   simp only[iU];split
   .rename_i hk;obtain⟨cb,cG⟩:=hB k (by simpa using hk);refine⟨⟨by rw[cb];exact sk,hl.2.1,λb hb=>?_⟩,λ_=>hl.2.1⟩;rw[cb]at hb;obtain⟨b0,cJ,il⟩:=sj hb;have h3:=hl.2.2 b0 cJ;rw[cG]
    cases b0<;>cases b<;>simp only[fg]at il<;>first
     |exact il.elim
     |exact h3.elim
     |exact h3
   .exact ez
  |tl k i=>
   simp only[iU];split
   .rename_i hk;obtain⟨cb,cG⟩:=hB k (by simpa using hk);refine⟨⟨by rw[cb];exact sk,hl.2.1,λb hb=>?_⟩,λ_=>hl.2.1⟩;rw[cb]at hb;obtain⟨b0,cJ,il⟩:=sj hb;have h3:=hl.2.2 b0 cJ;rw[cG]
    cases b0<;>cases b<;>simp only[fg]at il<;>first
     |exact il.elim
     |exact h3.elim
     |(obtain⟨rfl,rfl,iH⟩:=il;simp only at h3 ⊢;obtain⟨hm,h3⟩:=h3;rw[<-iH hm];exact⟨hm,h3⟩)
   .exact ez
  |hd k i=>
   simp only[iU];split
   .rename_i hk;obtain⟨cb,cG⟩:=hB k (by simpa using hk);refine⟨⟨by rw[cb];exact sk,hl.2.1,λb hb=>?_⟩,λ_=>hl.2.1⟩;rw[cb]at hb;obtain⟨b0,cJ,il⟩:=sj hb;have h3:=hl.2.2 b0 cJ;rw[cG]
    cases b0<;>cases b<;>simp only[fg]at il<;>first
     |exact il.elim
     |exact h3.elim
     |(obtain⟨rfl,rfl,iH⟩:=il;simp only at h3 ⊢;obtain⟨hm,h3⟩:=h3;rw[<-iH hm];exact⟨hm,h3⟩)
   .exact ez
  |ol k=>
   simp only[iU];split
   .rename_i hk;obtain⟨cb,cG⟩:=hB k (by simpa using hk);refine⟨⟨by rw[cb];exact sk,hl.2.1,λb hb=>?_⟩,λ_=>hl.2.1⟩;rw[cb]at hb;obtain⟨b0,cJ,_⟩:=sj hb;rw[cG];exact hl.2.2 b0 cJ
   .split
    .rename_i n hn;exact fO n hn (.inr ⟨k,rfl⟩)
    .exact ez
  |bp k c=>
   simp only[iU];split
   .rename_i hk;obtain⟨cb,cG⟩:=hB k (by simpa using hk);refine⟨⟨by rw[cb];exact sk,hl.2.1,λb hb=>?_⟩,λ_=>hl.2.1⟩;rw[cb]at hb;obtain⟨b0,cJ,_⟩:=sj hb;rw[cG];exact hl.2.2 b0 cJ
   .exact ez
 have dZ:∀n b,(br np K s).bx n = .live b->(n∈K.boxes/\γ' n=γ n/\∃b0,σ.bx n = .live b0)\/(blk (γ' n)=none)\/
   ∃(j:Nat)(x:jO)(k:Nat)(b0:Bx),K.lists[j]? = some x/\x.name=n/\dv[j]? = some (some k)/\γ' n=γ k/\σ.bx k = .live b0/\k∉K.boxes/\parK np k=false:=by
  intro n b hb;rcases hF n b hb with hn|⟨j,x,hx,rfl⟩
  .obtain⟨h1,h2⟩:=hB n hn;rw[h1]at hb;obtain⟨b0,cJ,_⟩:=sj hb;exact .inl ⟨hn,h2,b0,cJ⟩
  .obtain⟨it,src,sr,⟨xs,f,f',eY,pZ,vW⟩,ss,nk⟩:=CE j x hx;obtain⟨⟨l,_,l8⟩,_⟩:=y3 eY;rcases CC l8 with⟨rfl,_,_,_⟩|⟨k,rfl,_,bH⟩
   .exact .inr (.inl (by rw[nk];rfl))
   .obtain⟨_,h2,h3⟩:=vW k rfl;exact .inr (.inr ⟨j,x,k,_,hx,rfl,sr,nk,bH,h2,h3⟩)
 refine⟨γ',⟨hR.size,hR.defers,?_,?_,?_,?_,hR.ext,hR.new,hR.here,hR.below,hR.grow,hR.os,hR.tape,hR.output,?_,λg o h=>⟨(hR.kept g o h).1,λn b hb bH=>by
  have eJ:=(hR.kept g o h).2;rcases dZ n b hb with⟨_,e,b0,cJ⟩|e|⟨j,x,k,b0,_,_,_,e,cJ,_⟩
  .rw[e]at bH;exact eJ n b0 cJ bH
  .rw[e]at bH;simp at bH
  .rw[e]at bH;exact eJ k b0 cJ bH⟩,hR.fix⟩,?_⟩
 ·-- slots
  intro i
  have dg:(br np K s).sl i=match K.slots.idxOf? i with
   |some j=>rC s[j]?
   |none=> .one (.one .dead):=rfl
  rw[dg];cases hq:K.slots.idxOf? i with
  |none=>exact⟨trivial,λh=>absurd rfl h⟩
  |some j=>
   have hj:=lg hq;have wB:s[j]? = some (.s (yk K i (σ.sl i))):=by rw[<-hs,List.getElem?_append_left (by simp;exact(jk.1 hj).1)];simp[hj]
   simp only[wB,rC];have pW:=hR.slot i;show aQ S w γ' (br np K s).bx (yk K i (σ.sl i)) _;cases gC:σ.sl i with
   |tup l=>exact⟨trivial,λh=>absurd rfl h⟩
   |cnd x y z=>exact⟨trivial,λh=>absurd rfl h⟩
   |und=>exact⟨trivial,λh=>absurd rfl h⟩
   |one c=>
    rw[gC]at pW;cases c with
    |one x=>exact fL (some (.slot i)) x _ pW.1 pW.2 (λl hl=>by simp at hl;subst hl;simp[fc,gC])
    |st ls=>
     obtain⟨cs,hu,ah,h1⟩:=pW;refine⟨cs,hu,?_,h1⟩;refine All2.map_left.2 ?_
     have:∀{ls:List Leaf}{cs:List Value},All2 (aL S w γ σ.bx) ls cs->(∀u∈cs,One u)->All2 (λx u=>aL S w γ' (br np K s).bx (iU K none x) u) ls cs:=by
      intro ls;induction ls with
      |nil=>intro cs h _;cases cs with|nil=>trivial|cons _ _=>exact h.elim
      |cons x ls ih=>
       intro cs h h1;cases cs with
       |nil=>exact h.elim
       |cons u cs=>exact⟨(fL none x u h.1 (λ_=>h1 u (by simp)) (by simp)).1,ih h.2 (λv hv=>h1 v (by simp[hv]))⟩
     exact this ah h1
    |av n b xs=>obtain⟨cs,hu,aH⟩:=pW;exact⟨cs,hu,aH⟩
 ·-- boxes
  intro n b hb;rcases hF n b hb with hn|⟨j,x,hx,rfl⟩
  .obtain⟨h1,h2⟩:=hB n hn;rw[h1]at hb;unfold pf at hb;split at hb
   .rename_i ls frz gY;simp only[BS.live.injEq]at hb;subst hb;obtain⟨g,cur,e,q1,q2,q3,q4,q5,q6⟩:=hR.box n _ gY;have iA:(ls.zipIdx.map λx=>iU K (if frz=true then none else some (Loc.cell n x.2)) x.1).length=ls.length:=by simp
    refine⟨g,cur,e,h2.trans q1,q2,?_,by rw[iA];exact q4,q5,q6⟩;rw[iA];refine Hy 0 (λj x u hx hu=>?_) q3.length;obtain⟨u',cL,eZ⟩:=q3.get j x hx;rw[hu]at cL;simp at cL;subst cL;refine(fL _ x u eZ (λ_=>q4 u (jv hu)) (λl hl=>?_)).1;cases frz with
    |true=>simp at hl
    |false=>simp at hl;subst hl;simp[fc,gY,hx]
   .rename_i m t xs gY;simp only[BS.live.injEq]at hb;subst hb;obtain⟨g,cur,e,q1,q2,q3,q4⟩:=hR.box n _ gY;exact⟨g,cur,e,h2.trans q1,q2,q3,q4⟩
   .rename_i e t xs frz gY;simp only[BS.live.injEq]at hb;subst hb;obtain⟨q1,q3⟩:=hR.box n _ gY;exact⟨by rw[h2];exact q1,by rw[h2];exact q3⟩
   .simp at hb
  .obtain⟨it,src,sr,⟨xs,f,f',eY,pZ,vW⟩,ss,nk⟩:=CE j x hx;obtain⟨⟨l,_,l8⟩,_⟩:=y3 eY;rw[ss,pZ]at hb;simp only[ph,BS.live.injEq]at hb;subst hb;rcases CC l8 with⟨rfl,bD,rfl,_⟩|⟨k,rfl,_,bH⟩
   .refine vp bD ⟨[],?_,trivial,λg hg=>?_⟩
    .rw[nk];exact⟨by simp,.inl ⟨rfl,rfl⟩⟩
    .rw[nk]at hg;simp[blk]at hg
   .obtain⟨rfl,_,_⟩:=vW k rfl;obtain⟨q1,q3⟩:=hR.box k _ bH;exact⟨by rw[nk];exact q1,by rw[nk];exact q3⟩
 ·-- own
  intro n b g hb hg;rcases dZ n b hb with⟨_,h2,b0,h3⟩|h|⟨j,x,k,b0,_,_,_,h2,h3,_,h5⟩
  .rw[h2]at hg;exact hR.own n b0 g h3 hg
  .rw[h]at hg;simp at hg
  .rw[h2]at hg;rcases hR.own k b0 g h3 hg with h|h
   .exact .inl h
   .rw[h5]at h;simp at h
 ·-- apart
  intro n n' b b' g aG hb aj hg ae;rcases dZ n b hb with⟨m1,h2,b0,h3⟩|h|⟨j,x,k,b0,hx,NS,hj,h2,h3,h4,_⟩
  .rw[h2]at hg;rcases dZ n' b' aj with⟨_,i2,b1,i3⟩|i|⟨j',x',k',b1,_,_,_,i2,i3,i4,_⟩
   .rw[i2]at ae;exact hR.apart n n' b0 b1 g aG h3 i3 hg ae
   .rw[i]at ae;simp at ae
   .rw[i2]at ae;exact hR.apart n k' b0 b1 g (by rintro rfl;exact i4 m1) h3 i3 hg ae
  .rw[h]at hg;simp at hg
  .rw[h2]at hg;rcases dZ n' b' aj with⟨m1,i2,b1,i3⟩|i|⟨j',x',k',b1,kZ,CG,jB,i2,i3,i4,_⟩
   .rw[i2]at ae;exact hR.apart k n' b0 b1 g (by rintro rfl;exact h4 m1) h3 i3 hg ae
   .rw[i]at ae;simp at ae
   .rw[i2]at ae;by_cases ba:k=k'
    .subst ba;have:=Hw ck hj jB;subst this;rw[hx]at kZ;simp at kZ;subst kZ;exact aG (NS.symm.trans CG)
    .exact hR.apart k k' b0 b1 g ba h3 i3 hg ae
 ·-- parameters
  intro k v hv;obtain⟨p1,p2,p3⟩:=hR.par k v hv;refine⟨p1,?_,?_⟩
  .by_cases hk:k∈K.boxes
   .rw[(hB k hk).1];exact sk
   .rw[cU]
    have pY:K.boxes.idxOf? k=none:=by
     cases hq:K.boxes.idxOf? k with
     |none=>rfl
     |some i=>exact absurd (jv (lg hq)) hk
    simp only[pY];split
    .rename_i j hq;have hj:=lg hq;simp only[ko]at hj;cases hx:K.lists[j]? with
     |none=>simp[hx]at hj
     |some x=>simp[hx]at hj;have:=pX j x hx;rw[hj,p1]at this;simp at this
    .simp[p1]
  .by_cases hk:k∈K.boxes
   .rw[(hB k hk).2];exact p3
   .have pY:K.boxes.idxOf? k=none:=by
     cases hq:K.boxes.idxOf? k with
     |none=>rfl
     |some i=>exact absurd (jv (lg hq)) hk
    simp only[γ',pY];split
    .rename_i j hq;have hj:=lg hq;simp only[ko]at hj;cases hx:K.lists[j]? with
     |none=>simp[hx]at hj
     |some x=>simp[hx]at hj;have:=pX j x hx;rw[hj,p1]at this;simp at this
    .exact p3
 .intro i;show ((match K.slots.idxOf? i with|some j=>rC s[j]?|none=>Slot.one (.one .dead)):Slot).bare=true;split
  .unfold rC;split<;>rfl
  .rfl
theorem nn{K:Keep}{s:Snap}(hR:Rel N np S0 w0 refs σ a w S γ)(hc:bQ σ)(hs:eM np K σ=some s):∃S' γ',Rel N np S0 w0 refs (br np K s) a w S' γ'/\bQ (br np K s):=by
 unfold eM at hs;split at hs
 .rename_i σ1 h1;split at hs
  .rename_i σ2 h2;obtain⟨S1,aJ,dP⟩:=CA _ _ _ _ hR hc h1;obtain⟨S2,bc,eQ⟩:=wz _ _ _ _ aJ dP h2;obtain⟨γ',eU,oz⟩:=NQ bc hs;exact⟨S2,γ',eU,oz⟩
  .simp at hs
 .simp at hs
end
def RdLe(rd aP:Nat->BS):Prop:=∀k,rd k=aP k\/rd k = .gone
theorem RdLe.live{rd aP:Nat->BS}(h:RdLe rd aP){k:Nat}{b:Bx}(hk:rd k = .live b):aP k = .live b:=by
 rcases h k with h|h
 .rw[<-h];exact hk
 .rw[h]at hk;simp at hk
theorem RdLe.free{rd aP:Nat->BS}(h:RdLe rd aP){k:Nat}(hk:ed (rd k)=true):ed (aP k)=true:=by
 rcases h k with h|h
 .rw[<-h];exact hk
 .rw[h]at hk;simp[ed]at hk
theorem RdLe.isLive{rd aP:Nat->BS}(h:RdLe rd aP){k:Nat}(hk:isLive (rd k)=true):isLive (aP k)=true:=by
 rcases h k with h|h
 .rw[<-h];exact hk
 .rw[h]at hk;simp[Lft.isLive]at hk
theorem RdLe.rdf{rd aP:Nat->BS}(h:RdLe rd aP)(np:Nat):RdLe (λk=>if parK np k then .gone else rd k) (λk=>if parK np k then .gone else aP k):=by
 intro k;dsimp only;split
 .exact .inl rfl
 .exact h k
theorem RdLe.msk{rd aP:Nat->BS}(h:RdLe rd aP):RdLe (mskM rd) (mskM aP):=by
 intro k;rcases h k with h|h
 .left;unfold mskM;rw[h]
 .right;unfold mskM;rw[h]
theorem CH(M:List Nat)(rd:Nat->BS):RdLe (fb M rd) rd:=by
 intro k;unfold fb;split
 .exact .inr rfl
 .exact .inl rfl
section
variable{rd aP:Nat->BS}(hle:RdLe rd aP)
include hle
theorem HA{t:Ty}{l:Leaf}{x}(h:ft rd t l=some x):ft aP t l=some x:=by
 unfold ft at h ⊢;split at h
 .exact h
 .exact h
 .split at h
  .rename_i hk;rw[hle.live hk];exact h
  .simp at h
 .rename_i k
  have hs:∀v,s1D t (rd k)=some v->s1D t (aP k)=some v:=by
   intro v hv;rcases hle k with he|he
   .rw[<-he];exact hv
   .rw[he]at hv;unfold s1D at hv;split at hv<;>simp_all
  split at h
  .rename_i hv;rw[hs _ hv];exact h
  .simp at h
 .simp at h
theorem y5:∀(t:Ty){ls:List Leaf}{x},gath rd t ls=some x->gath aP t ls=some x:=by
 intro t;induction t with
 |unit=>intro ls x h;simpa[gath]using h
 |wrap a ih=>
  intro ls x h;simp only[gath]at h ⊢;split at h
  .rename_i hg;rw[ih hg];exact h
  .simp at h
 |pair a b rL lI=>
  intro ls x h;simp only[gath]at h ⊢;split at h
  .rename_i hg;rw[rL hg];dsimp only;split at h
   .rename_i dp;rw[lI dp];exact h
   .simp at h
  .simp at h
 |arr n a ih=>intro ls x h;simp[gath]at h
 |_=>
  intro ls x h;cases ls with
  |nil=>simp[gath]at h
  |cons l ls=>
   simp only[gath]at h ⊢;split at h
   .rename_i hl;rw[HA hle hl];exact h
   .simp at h
theorem CI{t:Ty}{c:Cel}{x}(h:mT rd t c=some x):mT aP t c=some x:=by
 unfold mT at h ⊢;split at h
 .split at h
  .simp at h
  .rename_i ha;simp only[ha,qj,ka];split at h
   .rename_i hg;rw[y5 hle _ hg];exact h
   .simp at h
 .split at h
  .rename_i ha;simp only[ha,if_true];split at h
   .rename_i hg;rw[y5 hle _ hg];exact h
   .simp at h
  .simp at h
 .exact h
theorem NU{ti:TyI}{l:Leaf}{x}(h:jQ rd ti l=some x):jQ aP ti l=some x:=by
 unfold jQ at h ⊢;split at h
 .split at h
  .rename_i hk;rw[hle.live hk];exact h
  .rename_i hk;rw[hle.live hk];exact h
  .simp at h
 .split at h
  .rename_i hk;rw[hle.live hk];exact h
  .rename_i hk;rw[hle.live hk];exact h
  .simp at h
 .exact h
 .simp at h
theorem NV{ti:TyI}{i:Nat}{l:Leaf}{x}(h:kV rd ti i l=some x):kV aP ti i l=some x:=by
 unfold kV at h ⊢;split at h
 .split at h
  .split at h
   .rename_i hl;simp only[hle.isLive hl,if_true];exact h
   .simp at h
  .simp at h
 .split at h
  .split at h
   .rename_i hl;simp only[hle.isLive hl,if_true];exact h
   .simp at h
  .simp at h
 .exact h
 .simp at h
theorem NW{ti:TyI}{l i:Leaf}{x}(h:nI rd ti l i=some x):nI aP ti l i=some x:=by
 unfold nI at h ⊢;split at h
 .split at h
  .rename_i hk;rw[hle.live hk];exact h
  .simp at h
 .exact h
 .split at h
  .rename_i hk;rw[hle.live hk];exact h
  .rename_i hk;rw[hle.live hk];exact h
  .simp at h
 .split at h
  .rename_i hk;rw[hle.live hk];exact h
  .simp at h
 .split at h
  .rename_i hk;rw[hle.live hk];exact h
  .simp at h
 .simp at h
theorem HB(a:Ty):∀{ls:List Leaf}{x},nG rd a ls=some x->nG aP a ls=some x
 |[],_,h=>h
 |l::ls,x,h=>by
  simp only[nG]at h ⊢;split at h
  .rename_i h1 h2;rw[HA hle h1,HB a h2];exact h
  .simp at h
theorem NX{t:Option Ty}{l:Leaf}{x}(h:nH rd t l=some x):nH aP t l=some x:=by
 unfold nH at h ⊢;split at h
 .split at h
  .split at h
   .rename_i hi;rw[if_pos hi];split at h
    .rename_i hk;rw[hle.live hk];exact h
    .simp at h
   .simp at h
  .simp at h
 .simp at h
theorem NY{ti:TyI}{l:Leaf}{c:Cel}(h:nH rd ti.ty l=none)(hc:jQ rd ti l=some c):nH aP ti.ty l=none:=by
 unfold nH at h ⊢;split at h
 .rename_i k;split at h
  .rename_i m el aD;split at h
   .rename_i hi;rw[if_pos hi];simp only[jQ]at hc;split at hc
    .rename_i ls frz hk;rw[hle.live hk];cases frz with
     |true=>rfl
     |false=>rw[hk]at h;simp at h
    .rename_i hk;rw[hle.live hk]
    .simp at hc
   .rename_i hi;rw[if_neg hi]
  .rfl
 .rfl
theorem CJ(a:Ty):∀(ps:List (Nat×Cel)){xs:List a.den}{u:Ups}{x},fF rd a xs u ps=some x->fF aP a xs u ps=some x
 |[],_,_,_,h=>h
 |(i,c)::r,xs,u,x,h=>by
  simp only[fF]at h ⊢;split at h
  .rename_i hd;rw[CI hle hd];dsimp only;split at h
   .rename_i hi;simp only[hi,if_true];exact CJ a r h
   .simp at h
  .simp at h
theorem NZ{t:Option Ty}{l:Leaf}{x}(h:lenC rd t l=some x):lenC aP t l=some x:=by
 unfold lenC at h ⊢;split at h
 .exact h
 .split at h
  .rename_i hk;rw[hle.live hk];exact h
  .simp at h
 .exact h
 .exact h
 .split at h
  .rename_i hk;rw[hle.live hk];exact h
  .simp at h
 .split at h
  .rename_i hk;rw[hle.live hk];exact h
  .simp at h
 .split at h
  .rename_i hk;rw[hle.live hk];exact h
  .simp at h
 .simp at h
theorem N0{e:Nat}{a:Ty}{s l:Leaf}{x}(h:appH rd e a s l=some x):appH aP e a s l=some x:=by
 unfold appH at h ⊢;split at h
 .split at h
  .rename_i ba;rw[if_pos ba];split at h
   .rename_i hk;rw[hle.live hk];exact h
   .simp at h
  .simp at h
 .simp at h
omit hle in
theorem N1{e e':Nat}{a a':Ty}{s l:Leaf}{x}(h:appS rd e a s=some x):appH aP e' a' s l=none:=by
 unfold appS at h;split at h
 .rfl
 .rfl
 .simp at h
omit hle in
theorem N2{fr HC:Bool}(hf:fr=true->HC=true){a:Ty}{n len:Nat}{ps:List (Nat×Cel)}{x}(h:one1 fr a n len ps=some x):one1 HC a n len ps=some x:=by
 unfold one1 at h ⊢;split at h
 .split at h
  .split at h
   .rename_i hc;rw[if_pos ⟨hc.1,hc.2.1,hc.2.2.1,hf hc.2.2.2⟩];exact h
   .simp at h
  .simp at h
 .simp at h
theorem N3{rdf cX:Nat->BS}(db:RdLe rdf cX){a:Ty}{n:Nat}{s l:Leaf}{x}(h:appN rd rdf a n s l=some x):appN aP cX a n s l=some x:=by
 unfold appN at h ⊢;split at h
 .split at h
  .rename_i hk;rw[db.live hk];dsimp only;split at h
   .rename_i hc;rw[if_pos ⟨hc.1,hle.free hc.2⟩];exact h
   .simp at h
  .simp at h
 .simp at h
omit hle in
theorem N4{rdf:Nat->BS}{e:Nat}{a a':Ty}{n:Nat}{s l:Leaf}{x}(h:appN rd rdf a n s l=some x):appH aP e a' s l=none:=by
 unfold appN at h;split at h
 .rfl
 .simp at h
omit hle in
theorem N5{rdf cX:Nat->BS}{a a':Ty}{n:Nat}{s l:Leaf}{x}(h:appX rdf a l=some x):appN rd cX a' n s l=none:=by
 unfold appN;split
 .unfold appX at h;simp at h
 .rfl
theorem N6{ti:TyI}{l m:Leaf}{lo hi:Option Leaf}{x}(h:tp rd ti l lo hi m=some x):tp aP ti l lo hi m=some x:=by
 unfold tp at h ⊢;split at h
 .split at h
  .rename_i hk;rw[hle.live hk];exact h
  .simp at h
 .simp at h
theorem N7{e:Nat}{a:Ty}{l:Leaf}{x}(h:appS rd e a l=some x):appS aP e a l=some x:=by
 unfold appS at h ⊢;split at h
 .split at h
  .rename_i hk;rw[hle.live hk];exact h
  .simp at h
 .exact h
 .simp at h
theorem HD{a:Ty}{l:Leaf}{x}(h:appX rd a l=some x):appX aP a l=some x:=by
 unfold appX at h ⊢;split at h
 .split at h
  .rename_i hk;rw[hle.live hk];exact h
  .simp at h
 .exact h
 .exact h
 .split at h
  .rename_i hk;rw[hle.live hk];exact h
  .simp at h
 .simp at h
theorem N8{t:Option Ty}{l m:Leaf}{x}(h:tq rd t l m=some x):tq aP t l m=some x:=by
 unfold tq at h ⊢;split at h
 .split at h
  .rename_i hk;rw[hle.live hk];dsimp only;split at h
   .rename_i ht;rw[if_pos ht];split at h
    .rename_i hy;rw[HD hle hy];exact h
    .simp at h
   .simp at h
  .simp at h
 .simp at h
theorem N9{t:Option Ty}{l:Leaf}{x}(h:tt rd t l=some x):tt aP t l=some x:=by
 unfold tt at h ⊢;split at h
 .split at h
  .rename_i hk;rw[hle.live hk];exact h
  .simp at h
 .simp at h
theorem y6:∀(ls:List Leaf){x},tvs rd ls=some x->tvs aP ls=some x
 |[],_,h=>h
 |l::ls,x,h=>by
  simp only[tvs]at h ⊢;split at h
  .rename_i hr;rw[y6 ls hr];dsimp only;split at h
   .exact h
   .split at h
    .rename_i hk;rw[hle.live hk];exact h
    .simp at h
   .simp at h
  .simp at h
theorem HE:∀(cs:List Cel){x},o8 rd cs=some x->o8 aP cs=some x
 |[],_,h=>h
 |c::cs,x,h=>by
  simp only[o8]at h ⊢;split at h
  .rename_i hr;rw[HE cs hr];dsimp only;split at h
   .exact h
   .split at h
    .rename_i hk;rw[hle.live hk];dsimp only;split at h
     .rename_i ht;rw[y6 hle _ ht];exact h
     .simp at h
    .simp at h
   .simp at h
  .simp at h
end
theorem Oa{rd aP rdf cX:Nat->BS}(hle:RdLe rd aP)(db:RdLe rdf cX){n:Nat}{c:Cel}{l:Leaf}{x}(h:o7 rd rdf n c l=some x):o7 aP cX n c l=some x:=by
 unfold o7 at h ⊢;split at h
 .split at h
  .rename_i hk;rw[hle.live hk];exact h
  .rename_i hk;rw[hle.live hk];exact h
  .simp at h
 .split at h
  .rename_i hk;rw[hle.live hk];dsimp only;split at h
   .split at h
    .rename_i hi;rw[if_pos hi];split at h
     .rename_i hg;rw[y5 db _ hg];exact h
     .simp at h
    .simp at h
   .simp at h
  .rename_i hk;rw[hle.live hk];dsimp only;split at h
   .split at h
    .rename_i hi;rw[if_pos hi];split at h
     .rename_i hg;rw[y5 db _ hg];exact h
     .simp at h
    .simp at h
   .simp at h
  .simp at h
 .simp at h
theorem Ob{par:Nat->Bool}{rd aP:Nat->BS}(hle:RdLe rd aP){ti:TyI}{n:Nat}{l:Leaf}{lo hi:Option Leaf}{x}(h:tn par rd ti n l lo hi=some x):tn par aP ti n l lo hi=some x:=by
 unfold tn at h ⊢;split at h
 .exact h
 .split at h
  .split at h
   .rename_i hk;rw[hle.live hk];exact h
   .simp at h
  .split at h
   .rename_i hk;rw[hle.live hk];dsimp only;split at h
    .rename_i aD;rw[if_pos aD];split at h
     .split at h
      .rename_i hp;rw[if_pos hp];exact h
      .rename_i hp;rw[if_neg hp];split at h
       .rename_i hl;rw[if_pos hl];split at h
        .rename_i hf;rw[if_pos (hle.free hf)];exact h
        .simp at h
       .rename_i hl;rw[if_neg hl];exact h
     .simp at h
    .simp at h
   .simp at h
 .split at h
  .rename_i hk;rw[hle.live hk];exact h
  .simp at h
 .simp at h
theorem Oc{rd aP rdf cX:Nat->BS}(hle:RdLe rd aP)(db:RdLe rdf cX){t:Option TyI}{mv rl:Bool}{c:Cel}{x}(h:o9 rd rdf t mv rl c=some x):o9 aP cX t mv rl c=some x:=by
 unfold o9 at h ⊢;split at h
 .split at h
  .rename_i hk;rw[hle.live hk];dsimp only;split at h
   .rename_i ht;rw[y6 db _ ht];exact h
   .simp at h
  .rename_i hk;rw[hle.live hk];dsimp only;split at h
   .rename_i ht;rw[y6 db _ ht];exact h
   .simp at h
  .simp at h
 .exact h
 .exact h
 .split at h
  .cases mv with
   |true=>
    simp only[j4]at h ⊢;split at h
    .rename_i hk;rw[db.live hk];exact h
    .simp at h
   |false=>
    simp only[j5]at h ⊢;split at h
    .rename_i hk;rw[hle.live hk];exact h
    .simp at h
  .split at h
   .rename_i hk;rw[db.live hk];exact h
   .simp at h
 .split at h
  .split at h
   .split at h
    .rename_i hd;rw[CI db hd];exact h
    .simp at h
   .simp at h
  .simp at h
theorem CK{rd aP rdf cX:Nat->BS}(hle:RdLe rd aP)(db:RdLe rdf cX){T:Nat->Option TyI}{mv:Bool}:∀(cs:List Cel){ts:List Nat}{ms:List Bool}{x},jR rd rdf T mv ts ms cs=some x->jR aP cX T mv ts ms cs=some x
 |[],_,_,_,h=>h
 |c::cs,ts,ms,x,h=>by
  simp only[jR]at h ⊢;split at h
  .rename_i ha;rw[Oc hle db ha];dsimp only;split at h
   .rename_i hr;rw[CK hle db cs hr];exact h
   .simp at h
  .simp at h
theorem Od{rd aP rdf cX:Nat->BS}(hle:RdLe rd aP)(db:RdLe rdf cX){n m:Nat}{us:Ups}{fs:List Bk}{os:List Out}{x}(h:mkHd rd rdf n us fs m os=some x):mkHd aP cX n us fs m os=some x:=by
 unfold mkHd at h ⊢;split at h
 .split at h
  .split at h
   .rename_i hf;simp only[j9]at hf;rw[if_pos (by simp only[j9];exact⟨hle.free hf.1,db.isLive hf.2⟩)];exact h
   .simp at h
  .simp at h
 .simp at h
theorem HF{rd aP rdf cX:Nat->BS}(hle:RdLe rd aP)(db:RdLe rdf cX){n:Nat}{us:Ups}{fs:List Bk}{r:Ret}{x}(h:nJ rd rdf n us fs r=some x):nJ aP cX n us fs r=some x:=by
 unfold nJ at h ⊢;split at h
 .exact Od hle db h
 .unfold u4 at h ⊢;split at h
  .split at h
   .rename_i hf;simp only[j9]at hf;rw[if_pos (by simp only[j9];exact⟨hf.1,ji.2 λe he=>hle.free (ji.1 hf.2 e he)⟩)];exact h
   .simp at h
  .simp at h
 .split at h
  .split at h
   .split at h
    .rename_i hf;rw[if_pos (ji.2 λe he=>hle.free (ji.1 hf e he))];exact h
    .simp at h
   .simp at h
  .simp at h
inductive ActLe:Act->Act->Prop
 |val (fH:Bool) (s:Slot) (u:Ups):ActLe (.val fH s u) (.val fH s u)
 |call (f:Nat) (args:List Arg) (mk mk':Ret->Option (Slot×Ups)):(∀r x,mk r=some x->mk' r=some x)->ActLe (.call f args mk) (.call f args mk')
theorem ActLe.refl(x:Act):ActLe x x:=by cases x with
 |val fH s u=>exact .val fH s u
 |call f args mk=>exact .call f args mk mk λ_ _ h=>h
theorem HG{x y:Option Leaf}(h:∀z,x=some z->y=some z){r:Act}(hr:ir x=some r):ir y=some r:=by
 cases x with
 |none=>simp[ir]at hr
 |some z=>rw[h z rfl];exact hr
theorem Oe{x y:Option (Bool×Leaf)}(h:∀z,x=some z->y=some z){r:Act}(hr:oChk x=some r):oChk y=some r:=by
 cases x with
 |none=>simp[oChk]at hr
 |some z=>rw[h z rfl];exact hr
theorem HH{rd aP:Nat->BS}(hle:RdLe rd aP){t:Nat}{k v:Ty}{x y:Leaf}{z}(h:mapC rd t k v x y=some z):mapC aP t k v x y=some z:=by
 unfold mapC at h ⊢;split at h
 .split at h
  .rename_i hb;simp only[hle.live hb];exact h
  .simp at h
 .simp at h
theorem HI{E:Env}{ev:Operand->Slot}{rd aP:Nat->BS}(gR:RdLe rd aP){act:List (Nat×Bool)}{o:Oper}{A:Act}(h:cE E ev rd act o=some A):∃A',cE E ev aP act o=some A'/\ActLe A A':=by
 have hle:=gR.msk;have db:=hle.rdf E.np;have same:cE E ev aP act o=some A->∃A',cE E ev aP act o=some A'/\ActLe A A':=λh=>⟨A,h,.refl A⟩;obtain⟨dst,op,type,pos,after,guard⟩:=o;cases op
 case alloc t=>
  refine same ?_;simp only[cE]at h ⊢;split at h
  .split at h
   .rename_i hf;simp only[hle.free hf,if_true];exact h
   .simp at h
  .simp at h
 case box t x=>
  refine same ?_;simp only[cE]at h ⊢;split at h
  .rename_i hf;simp only[hle.free hf,if_true];exact h
  .simp at h
 case build t ps=>
  refine same ?_;simp only[cE]at h ⊢;split at h
  .split at h
   .split at h
    .rename_i hi;simp only[hi,if_true];exact h
    rename_i hi;rw[if_neg hi];split at h
    .rename_i hb;rw[CJ db _ _ hb];exact h
    .simp at h
   .exact h
   .simp at h
  .simp at h
 case buildSlice t n ps=>
  refine same ?_;simp only[cE]at h ⊢;split at h
  .split at h
   .split at h
    .rename_i cb;rw[if_pos cb];exact N2 hle.free h
    rename_i cb;rw[if_neg cb];split at h
    .simp at h
    .rename_i hn;simp only[hn,qj];split at h
     .rename_i hb;rw[CJ db _ _ hb];dsimp only;split at h
      .rename_i hf;simp only[hle.free hf,if_true];exact h
      .simp at h
     .simp at h
   .simp at h
  .simp at h
 case load t x=>
  refine same ?_;simp only[cE]at h ⊢;split at h
  .split at h
   .rename_i l8;split at h
    .rename_i hg;rw[NX hle l8];dsimp only;rw[HB db _ hg];exact h
    .simp at h
   .rename_i l8;cases pE:jQ (mskM rd) _ (lf ((ev x).cel act)) with
    |none=>rw[pE]at h;simp[oCel]at h
    |some c=>rw[NY hle l8 pE,NU hle pE];rw[pE]at h;exact h
  .simp at h
 case store t x y=>
  refine same ?_;simp only[cE]at h ⊢;split at h
  .split at h
   .rename_i hs;rw[Oa hle db hs];exact h
   .simp at h
  .simp at h
 case nilCheck x=>
  refine same ?_;simp only[cE]at h ⊢;split at h
  .split at h
   .rename_i hl;simp only[hle.isLive hl,if_true];exact h
   .simp at h
  .split at h
   .rename_i hl;simp only[hle.isLive hl,if_true];exact h
   .simp at h
  .exact h
  .simp at h
 case makeFunc fn first captured=>
  refine same ?_;cases fn with
  |func f=>
   simp only[cE]at h ⊢;split at h
   .rename_i hf;simp only[hf,if_true];split at h
    .rename_i lV;simp only[lV,if_true];exact h
    .rename_i lV;simp only[lV];split at h
     .rename_i hc;rw[HE db _ hc];exact h
     .simp at h
   .simp at h
  |_=>simp[cE]at h
 case fieldAddr t x i=>
  refine same ?_;simp only[cE]at h ⊢;split at h
  .exact HG (λz hz=>NV hle hz) h
  .simp at h
 case indexAddr t x i=>
  refine same ?_;simp only[cE]at h ⊢;split at h
  .exact Oe (λz hz=>NW hle hz) h
  .simp at h
 case call c=>
  simp only[cE]at h ⊢;cases hc:c.callee with
  |invoke r m=>simp[hc]at h
  |value f=>
   simp only[hc]at h ⊢;split at h
   .split at h
    .rename_i ha;rw[CK gR db _ ha];dsimp only;split at h
     .rename_i hb;simp only[hb,if_true];simp only[j3]at h;subst h;exact⟨_,rfl,.call _ _ _ _ λr x hx=>HF hle db hx⟩
     .simp at h
    .simp at h
   .split at h
    .rename_i ha;rw[CK gR db _ ha];dsimp only;split at h
     .rename_i hb;simp only[hb,if_true];simp only[j3]at h;subst h;exact⟨_,rfl,.call _ _ _ _ λr x hx=>HF hle db hx⟩
     .simp at h
    .simp at h
   .simp at h
  |builtin b=>
   simp only[hc]at h ⊢;cases b
   case len=>
    refine⟨A,?_,.refl A⟩;dsimp only at h ⊢;split at h
    .split at h
     .exact HG (λz hz=>NZ hle hz) h
     .simp at h
    .simp at h
   case append=>
    refine⟨A,?_,.refl A⟩;dsimp only at h ⊢;split at h
    .split at h
     .rename_i ht;rw[if_pos ht];split at h
      .split at h
       .rename_i aD;split at h
        .rename_i hh;rw[N0 hle hh];exact h
        split at h
        .rename_i hh;rw[N4 hh];dsimp only;rw[N3 hle db hh];exact h
        split at h
        .rename_i h1 h2;rw[N1 h1];dsimp only;rw[N5 h2,N7 db h1,HD hle h2];dsimp only;split at h
         .rename_i hf;simp only[hle.free hf,if_true];exact h
         .simp at h
        .simp at h
       .simp at h
      .simp at h
     .simp at h
    .simp at h
   case copy=>
    refine⟨A,?_,.refl A⟩;dsimp only at h ⊢;split at h
    .split at h
     .rename_i ht;rw[if_pos ht];split at h
      .split at h
       .rename_i hq;rw[N8 hle hq];exact h
       .simp at h
      .simp at h
     .simp at h
    .simp at h
   case clear=>
    refine⟨A,?_,.refl A⟩;dsimp only at h ⊢;split at h
    .split at h
     .split at h
      .rename_i hq;rw[N9 hle hq];exact h
      .simp at h
     .simp at h
    .simp at h
   all_goals exact⟨A,h,.refl A⟩
 case slice t x lo hi mx=>
  refine same ?_;cases mx with
  |some m=>
   simp only[cE]at h ⊢;split at h
   .split at h
    .rename_i hq;rw[N6 hle hq];exact h
    .simp at h
   .simp at h
  |none=>
   simp only[cE]at h ⊢;split at h
   .split at h
    .rename_i hq;rw[Ob hle hq];exact h
    .simp at h
   .simp at h
 case makeMap t x=>
  refine same ?_;cases x with
  |some m=>simp[cE]at h
  |none=>
   simp only[cE]at h ⊢;split at h
   .split at h
    .rename_i hf;simp only[hle.free hf,if_true];exact h
    .simp at h
   .simp at h
 case lookup t x i ok=>
  refine same ?_;simp only[cE]at h ⊢;split at h
  .split at h
   .rename_i hq;rw[HH gR hq];exact h
   .simp at h
  .simp at h
 case mapUpdate t x i y=>
  refine same ?_;simp only[cE]at h ⊢;split at h
  .split at h
   .rename_i hq hd;rw[HH gR hq,CI db hd];exact h
   .simp at h
  .simp at h
 all_goals exact⟨A,h,.refl A⟩
section
variable{N:NT}{np:Nat}{S0:an}{w0:World}{refs:Refs}{σ:St}{a:Go.Act}{w:World}{S:an}{γ:Nat->Value}
def CFun(C:Nat->List Arg->(R:Type)->(Ret->Option R)->Option R):Prop:=
 ∀f args,∃o:Option Ret,∀(R:Type)(k:Ret->Option R),C f args R k=o.bind k
theorem HJ{E:Env}{ev nq:Operand->Slot}{rd:Nat->BS}{act:List (Nat×Bool)}{o:Oper}(h:∀x∈o.op.operands,ev x=nq x):cE E ev rd act o=cE E nq rd act o:=by
 have p5:∀ps:Array (Nat×Operand),(∀x∈ps.toList.map (·.2),ev x=nq x)->
   (ps.toList.map λp=>(p.1,(ev p.2).cel act))=(ps.toList.map λp=>(p.1,(nq p.2).cel act)):=λps hp=>
  List.map_congr_left λp hm=>by simp only[hp p.2 (k9.2 ⟨p,hm,rfl⟩)]
 have args:∀ps:Array Operand,(∀x∈ps,ev x=nq x)->(ps.toList.map λp=>(ev p).cel act)=(ps.toList.map λp=>(nq p).cel act):=λps hp=>
  List.map_congr_left λp hm=>by rw[hp p (by simpa using hm)]
 obtain⟨dst,op,type,pos,after,guard⟩:=o;cases op<;>simp only[Op.operands]at h<;>simp only[cE]
 case build t ps=>rw[p5 ps λx hx=>h x (by simpa using hx)]
 case buildSlice t n ps=>rw[p5 ps λx hx=>h x (by simpa using hx)]
 case makeFunc fn first captured=>
  have e:=args captured λx hx=>h x (by simp[hx]);cases fn with
  |func f=>simp only[e]
  |_=>rfl
 case call c=>
  have ha:=args c.args (λx hx=>h x (by simp[Call.operands,hx]));have nr:∀x∈c.args.toList,ev x=nq x:=λx hx=>h x (by simp[Call.operands];right;simpa using hx);simp only[ha];cases hc:c.callee with
  |value f=>have hf:ev f=nq f:=h f (by simp[Call.operands,hc]);simp only[hf]
  |invoke r m=>rfl
  |builtin b=>
   cases b<;>simp only
   case len=>
    split
    .rename_i x t dQ iG;have:=nr x (by rw[dQ];simp);simp only[this]
    .rfl
   case append=>
    split
    .rename_i t t' s x iG dQ;have e1:=nr s (by rw[dQ];simp);have e2:=nr x (by rw[dQ];simp);simp only[e1,e2]
    .rfl
   case copy=>
    split
    .rename_i t t' s x iG dQ;have e1:=nr s (by rw[dQ];simp);have e2:=nr x (by rw[dQ];simp);simp only[e1,e2]
    .rfl
   case clear=>
    split
    .rename_i t x iG dQ;have e1:=nr x (by rw[dQ];simp);simp only[e1]
    .rfl
 case slice t x lo hi mx=>
  have e1:=h x (by simp)
  have eo:∀y:Option Operand,(∀z,y=some z->ev z=nq z)->(y.map λx=>lf ((ev x).cel act))=(y.map λx=>lf ((nq x).cel act)):=by
   intro y hy;cases y with
   |none=>rfl
   |some z=>simp only[ki,hy z rfl]
  have e2:=eo lo (λz hz=>h z (by simp[hz]));have e3:=eo hi (λz hz=>h z (by simp[hz]));cases mx with
  |some m=>have e4:=h m (by simp);simp only[e1,e2,e3,e4]
  |none=>simp only[e1,e2,e3]
 case makeMap t x=>cases x<;>rfl
 all_goals (first|rfl|(simp_all;done))
def ShEq:BS->BS->Prop
 |.live (.cell _ _),.live (.cell _ _)=>True
 |.live (.lst e a xs _),.live (.lst e' a' bM _)=>e=e'/\a=a'/\xs.length=bM.length
 |.live (.arr n a _),.live (.arr n' a' _)=>n=n'/\a=a'
 |.free,.free=>True
 |.gone,.gone=>True
 |_,_=>False
theorem ShEq.refl:∀b:BS,ShEq b b
 |.live (.cell _ _)=>trivial
 |.live (.lst _ _ _ _)=>⟨rfl,rfl,rfl⟩
 |.live (.arr _ _ _)=>⟨rfl,rfl⟩
 |.free=>trivial
 |.gone=>trivial
theorem ShEq.symm{b c:BS}(h:ShEq b c):ShEq c b:=by
 cases b with
 |free=>cases c<;>simp_all[ShEq]
 |gone=>cases c<;>simp_all[ShEq]
 |live b=>
  cases c with
  |free=>cases b<;>simp[ShEq]at h
  |gone=>cases b<;>simp[ShEq]at h
  |live c=>
   cases b<;>cases c<;>simp only[ShEq]at h ⊢
   .exact⟨h.1.symm,h.2.1.symm,h.2.2.symm⟩
   .exact⟨h.1.symm,h.2.symm⟩
theorem ShEq.trans{b c d:BS}(h:ShEq b c)(h':ShEq c d):ShEq b d:=by
 cases b with
 |free=>cases c with
  |free=>exact h'
  |gone=>simp[ShEq]at h
  |live c=>cases c<;>simp[ShEq]at h
 |gone=>cases c with
  |gone=>exact h'
  |free=>simp[ShEq]at h
  |live c=>cases c<;>simp[ShEq]at h
 |live b=>cases c with
  |free=>cases b<;>simp[ShEq]at h
  |gone=>cases b<;>simp[ShEq]at h
  |live c=>cases d with
   |free=>cases c<;>simp[ShEq]at h'
   |gone=>cases c<;>simp[ShEq]at h'
   |live d=>
    cases b<;>cases c<;>simp only[ShEq]at h<;>cases d<;>simp only[ShEq]at h' ⊢
    .exact⟨h.1.trans h'.1,h.2.1.trans h'.2.1,h.2.2.trans h'.2.2⟩
    .exact⟨h.1.trans h'.1,h.2.trans h'.2⟩
theorem ShEq.mask{rd aP:Nat->BS}{M:List Nat}(h:∀k,M.contains k=false->ShEq (rd k) (aP k))(k:Nat):ShEq (fb M rd k) (fb M aP k):=by
 unfold fb;split
 .trivial
 .rename_i hc;exact h k (by simpa using hc)
theorem y7{b c:BS}(h:ShEq b c):isLive b=isLive c:=by
 cases b with
 |free=>cases c<;>simp_all[ShEq,isLive]
 |gone=>cases c<;>simp_all[ShEq,isLive]
 |live b=>cases c with
  |free=>cases b<;>simp[ShEq]at h
  |gone=>cases b<;>simp[ShEq]at h
  |live c=>rfl
theorem Of{rd aP:Nat->BS}(h:∀k,ShEq (rd k) (aP k))(ti:TyI)(l i:Leaf):nI rd ti l i=nI aP ti l i:=by
 unfold nI;split
 .rename_i k _ _;have hk:=h k;generalize rd k=b at hk;generalize aP k=c at hk;cases b with
  |free=>cases c<;>simp_all[ShEq]
  |gone=>cases c<;>simp_all[ShEq]
  |live b=>cases c with
   |free=>cases b<;>simp[ShEq]at hk
   |gone=>cases b<;>simp[ShEq]at hk
   |live c=>
    cases b with
    |lst e a xs f=>cases c with
     |lst e' a' bM f'=>simp only[ShEq]at hk;obtain⟨rfl,rfl,hl⟩:=hk;dsimp only;rw[hl]
     |cell _ _=>simp[ShEq]at hk
     |arr _ _ _=>simp[ShEq]at hk
    |cell _ _=>cases c<;>first|rfl|(simp[ShEq]at hk)
    |arr _ _ _=>cases c<;>first|rfl|(simp[ShEq]at hk)
 .rfl
 .rename_i k _ _;have hk:=h k;generalize rd k=b at hk;generalize aP k=c at hk;cases b with
  |free=>cases c<;>simp_all[ShEq]
  |gone=>cases c<;>simp_all[ShEq]
  |live b=>cases c with
   |free=>cases b<;>simp[ShEq]at hk
   |gone=>cases b<;>simp[ShEq]at hk
   |live c=>
    cases b with
    |arr n a xs=>cases c with
     |arr n' a' bM=>simp only[ShEq]at hk;obtain⟨rfl,rfl⟩:=hk;rfl
     |cell _ _=>simp[ShEq]at hk
     |lst _ _ _ _=>simp[ShEq]at hk
    |cell _ _=>cases c<;>first|rfl|(simp[ShEq]at hk)
    |lst _ _ _ _=>cases c<;>first|rfl|(simp[ShEq]at hk)
 .rename_i k _ _ _;have hk:=h k;generalize rd k=b at hk;generalize aP k=c at hk;cases b with
  |free=>cases c<;>simp_all[ShEq]
  |gone=>cases c<;>simp_all[ShEq]
  |live b=>cases c with
   |free=>cases b<;>simp[ShEq]at hk
   |gone=>cases b<;>simp[ShEq]at hk
   |live c=>
    cases b with
    |lst e a xs f=>cases c with
     |lst e' a' bM f'=>simp only[ShEq]at hk;obtain⟨rfl,rfl,hl⟩:=hk;dsimp only;rw[hl]
     |cell _ _=>simp[ShEq]at hk
     |arr _ _ _=>simp[ShEq]at hk
    |cell _ _=>cases c<;>first|rfl|(simp[ShEq]at hk)
    |arr _ _ _=>cases c<;>first|rfl|(simp[ShEq]at hk)
 .rename_i k _ _;have hk:=h k;generalize rd k=b at hk;generalize aP k=c at hk;cases b with
  |free=>cases c<;>simp_all[ShEq]
  |gone=>cases c<;>simp_all[ShEq]
  |live b=>cases c with
   |free=>cases b<;>simp[ShEq]at hk
   |gone=>cases b<;>simp[ShEq]at hk
   |live c=>cases b<;>cases c<;>first|rfl|(simp[ShEq]at hk)
 .rfl
theorem Og{rd aP:Nat->BS}(h:∀k,ShEq (rd k) (aP k))(ti:TyI)(i:Nat)(l:Leaf):kV rd ti i l=kV aP ti i l:=by
 unfold kV;split
 .rw[y7 (h _)]
 .rw[y7 (h _)]
 .rfl
 .rfl
theorem ShEq.msk{rd aP:Nat->BS}{k:Nat}(h:ShEq (rd k) (aP k)):ShEq (mskM rd k) (mskM aP k):=by
 unfold mskM;generalize rd k=a at h;generalize aP k=b at h;cases a with
 |free=>cases b<;>simp_all[ShEq]
 |gone=>cases b<;>simp_all[ShEq]
 |live a=>
  cases b with
  |free=>cases a<;>simp[ShEq]at h
  |gone=>cases a<;>simp[ShEq]at h
  |live b=>
   cases a<;>cases b<;>simp only[ShEq]at h<;>dsimp only
   .trivial
   .obtain⟨rfl,rfl,h3⟩:=h;rename_i e _ _ _ _ _;cases isM e
    .exact⟨rfl,rfl,h3⟩
    .trivial
   .exact h
theorem Oh{E:Env}{ev:Operand->Slot}{rd aP:Nat->BS}{act:List (Nat×Bool)}{o:Oper}(ha:lz o=true)(h:∀k,ShEq (rd k) (aP k)):cE E ev rd act o=cE E ev aP act o:=by
 have h:∀k,ShEq (mskM rd k) (mskM aP k):=λk=>(h k).msk;obtain⟨dst,op,type,pos,after,guard⟩:=o;cases op<;>simp only[lz,ka]at ha
 .simp only[cE];split
  .rw[y7 (h _)]
  .rw[y7 (h _)]
  .rfl
  .rfl
 .simp only[cE];split
  .rw[Og h]
  .rfl
 .simp only[cE];split
  .rw[Of h]
  .rfl
theorem HK:∀(u:Ups)(σ:St),(∀e∈u,ShEq (σ.bx e.1) e.2)->∀k,ShEq (σ.bx k) ((σ.upd u).bx k)
 |[],σ,_,k=>ShEq.refl _
 |e::u,σ,h,k=>by
  have h0:∀k,ShEq (σ.bx k) ((σ.setB e.1 e.2).bx k):=by
   intro k;simp only[St.setB];split
   .rename_i hk;rw[hk];exact h e (by simp)
   .exact ShEq.refl _
  have h1:=HK u (σ.setB e.1 e.2) (λx hx=>(h0 x.1).symm.trans (h x (by simp[hx]))) k;exact(h0 k).trans h1
def UpSh(rd:Nat->BS)(u:Ups):Prop:=∀e∈u,ShEq (rd e.1) e.2/\isLive e.2=true
theorem Oi{rd:Nat->BS}{t:Ty}{l:Leaf}{v:t.den}{u:Ups}(h:ft rd t l=some (v,u)):UpSh rd u:=by
 unfold ft at h;split at h
 .split at h
  .simp only[j3,j7]at h;rw[<-h.2];intro e he;simp at he
  .simp at h
 .split at h
  .simp only[j3,j7]at h;rw[<-h.2];intro e he;simp at he
  .simp at h
 .split at h
  .rename_i hk;split at h
   .simp only[j3,j7]at h;rw[<-h.2];intro e he;simp only[q8]at he;subst he;dsimp only;rw[hk];exact⟨⟨rfl,rfl,rfl⟩,rfl⟩
   .simp at h
  .simp at h
 .split at h
  .simp only[j3,j7]at h;rw[<-h.2];intro e he;simp at he
  .simp at h
 .simp at h
theorem UpSh.app{rd:Nat->BS}{u v:Ups}(h:UpSh rd u)(h':UpSh rd v):UpSh rd (u++v):=by
 intro e he;rcases jq.1 he with he|he
 .exact h e he
 .exact h' e he
theorem HM{rd:Nat->BS}:∀(t:Ty){ls:List Leaf}{v:t.den}{r:List Leaf}{u:Ups},gath rd t ls=some (v,r,u)->UpSh rd u:=by
 intro t;induction t with
 |unit=>intro ls v r u h;simp only[gath,j3,j7]at h;rw[<-h.2.2];intro e he;simp at he
 |wrap a ih=>
  intro ls v r u h;simp only[gath]at h;split at h
  .rename_i hg;simp only[j3,j7]at h;rw[<-h.2.2];exact ih hg
  .simp at h
 |pair a b rL lI=>
  intro ls v r u h;simp only[gath]at h;split at h
  .rename_i hg;split at h
   .rename_i dp;simp only[j3,j7]at h;rw[<-h.2.2];exact(rL hg).app (lI dp)
   .simp at h
  .simp at h
 |arr n a ih=>intro ls v r u h;simp[gath]at h
 |_=>
  intro ls v r u h;cases ls with
  |nil=>simp[gath]at h
  |cons l ls=>
   simp only[gath]at h;split at h
   .rename_i hl;simp only[j3,j7]at h;rw[<-h.2.2];exact Oi hl
   .simp at h
theorem Oj{rd rdf:Nat->BS}(aE:RdLe rdf rd){n:Nat}{c:Cel}{l:Leaf}{u:Ups}(h:o7 rd rdf n c l=some u):UpSh rd u:=by
 have one:∀(k:Nat)(b b':Bx),rd k = .live b->ShEq (.live b) (.live b')->UpSh rd [(k,.live b')]:=by intro k b b' hk hs e he;simp only[q8]at he;subst he;exact⟨by rw[hk];exact hs,rfl⟩
 have lift:∀u,UpSh rdf u->UpSh rd u:=by
  intro u hu e he;obtain⟨h1,h2⟩:=hu e he;rcases aE e.1 with hq|hq
  .rw[hq]at h1;exact⟨h1,h2⟩
  .rw[hq]at h1;cases h3:e.2 with
   |free=>rw[h3]at h2;simp[isLive]at h2
   |gone=>rw[h3]at h2;simp[isLive]at h2
   |live b=>rw[h3]at h1;cases b<;>simp[ShEq]at h1
 unfold o7 at h;split at h
 .split at h
  .rename_i hk;split at h
   .split at h
    .simp only[j3]at h;subst h;exact one _ _ _ hk trivial
    .simp at h
   .simp at h
  .rename_i hk;split at h
   .split at h
    .split at h
     .split at h
      .simp only[j3]at h;subst h;exact one _ _ _ hk ⟨rfl,rfl⟩
      .simp at h
     .simp at h
    .simp at h
   .simp at h
  .simp at h
 .split at h
  .rename_i hk;split at h
   .split at h
    .split at h
     .rename_i hg;split at h
      .simp at h
      .simp only[j3]at h;subst h;exact(lift _ (HM _ hg)).app (one _ _ _ hk ⟨rfl,rfl,by simp⟩)
     .simp at h
    .simp at h
   .simp at h
  .rename_i hk;split at h
   .split at h
    .split at h
     .rename_i hg;split at h
      .simp at h
      .simp only[j3]at h;subst h;exact(lift _ (HM _ hg)).app (one _ _ _ hk ⟨rfl,rfl⟩)
     .simp at h
    .simp at h
   .simp at h
  .simp at h
 .simp at h
theorem Ol(np:Nat)(rd:Nat->BS):RdLe (λk=>if parK np k then .gone else rd k) rd:=by
 intro k;dsimp only;split
 .exact .inr rfl
 .exact .inl rfl
theorem UpSh.le{rd aP:Nat->BS}(hle:RdLe rd aP){u:Ups}(h:UpSh rd u):UpSh aP u:=by
 intro e he;obtain⟨h1,h2⟩:=h e he;rcases hle e.1 with hq|hq
 .rw[hq]at h1;exact⟨h1,h2⟩
 .rw[hq]at h1;cases h3:e.2 with
  |free=>rw[h3]at h2;simp[isLive]at h2
  |gone=>rw[h3]at h2;simp[isLive]at h2
  |live b=>rw[h3]at h1;cases b<;>simp[ShEq]at h1
theorem Om(rd:Nat->BS):RdLe (mskM rd) rd:=λk=>Gd k
theorem On{E:Env}{ev:Operand->Slot}{rd:Nat->BS}{act:List (Nat×Bool)}{o:Oper}(ho:nL o=true){fH:Bool}{s:Slot}{u:Ups}(h:cE E ev rd act o=some (.val fH s u)):UpSh rd u:=by
 obtain⟨dst,op,type,pos,after,guard⟩:=o;cases op<;>simp only[nL,ka]at ho;simp only[cE]at h;split at h
 .split at h
  .rename_i hs;simp only[j3,Act.val.injEq]at h;rw[<-h.2.2];exact(Oj (Ol E.np (mskM rd)) hs).le (Om rd)
  .simp at h
 .simp at h
theorem Oo{E:Env}{ev:Operand->Slot}{rd:Nat->BS}{act:List (Nat×Bool)}{o:Oper}(ho:nL o=true){f:Nat}{args:List Arg}{mk:Ret->Option (Slot×Ups)}:cE E ev rd act o≠some (.call f args mk):=by
 obtain⟨dst,op,type,pos,after,guard⟩:=o;cases op<;>simp only[nL,ka]at ho;intro h;simp only[cE]at h;split at h
 .split at h
  .simp at h
  .simp at h
 .simp at h
theorem UpSh.unmask{rd:Nat->BS}{M:List Nat}{u:Ups}(h:UpSh (fb M rd) u):UpSh rd u:=by
 intro e he;obtain⟨h1,h2⟩:=h e he;rcases CH M rd e.1 with hq|hq
 .rw[hq]at h1;exact⟨h1,h2⟩
 .rw[hq]at h1;cases h3:e.2 with
  |free=>rw[h3]at h2;simp[isLive]at h2
  |gone=>rw[h3]at h2;simp[isLive]at h2
  |live b=>rw[h3]at h1;cases b<;>simp[ShEq]at h1
end
section
variable{N:NT}{np:Nat}{S0:an}{w0:World}{refs:Refs}{σ:St}{a:Go.Act}{w:World}{S:an}{γ:Nat->Value}
inductive Bef(ops:Array Oper):Nat->Nat->Prop
 |dep {i j:Nat} {o:Oper}:ops[i]? = some o->j∈jT o->Bef ops i j
 |trans {i j k:Nat}:Bef ops i j->Bef ops j k->Bef ops i k
structure DOkR(ops:Array Oper)(A:List (List Nat)):Prop where
 lt:∀i o,ops[i]? = some o->∀j∈jT o,j<i
 addr:∀i o,ops[i]? = some o->lz o=true->∀k,k∉A.getD i []
 dst:∀i j oi oj t,ops[i]? = some oi->ops[j]? = some oj->i≠j->oj.dst=some t->oi.dst≠some t/\(t∈oi.looksAt ops->Bef ops i j\/Bef ops j i)
 box:∀i j oi oj k,ops[i]? = some oi->ops[j]? = some oj->i≠j->k∈A.getD i []->k∈A.getD j []->Bef ops i j\/Bef ops j i
theorem DOkR.bef{ops:Array Oper}{A:List (List Nat)}(h:DOkR ops A){i j:Nat}(hb:Bef ops i j):j<i:=by
 induction hb with
 |dep ho hj=>exact h.lt _ _ ho _ hj
 |trans _ _ h1 h2=>omega
def ClOk(ops:Array Oper)(cl:List Nat):Prop:=∀i j,(cl.getD i 0).testBit j=true->Bef ops i j
theorem HN{ops:Array Oper}{cls:List Nat}(hc:ClOk ops cls){i:Nat}{o:Oper}(ho:ops[i]? = some o):∀(l:List Nat)(m:Nat),(∀j∈l,j∈jT o)->(∀j,m.testBit j=true->Bef ops i j)->
  ∀j,(l.foldl (λm j=>m|||(2^j|||cls.getD j 0)) m).testBit j=true->Bef ops i j
 |[],m,_,hm,j,h=>hm j h
 |x::l,m,hl,hm,j,h=>by
  refine HN hc ho l _ (λj hj=>hl j (by simp[hj])) (λj hj=>?_) j h;simp only[Nat.testBit_or,qe,Nat.testBit_two_pow,jg]at hj;rcases hj with hj|hj|hj
  .exact hm j hj
  .subst hj;exact .dep ho (hl x (by simp))
  .exact .trans (.dep ho (hl x (by simp))) (hc x j hj)
theorem HO{ops:Array Oper}:∀(l:List Oper)(cls:List Nat),ClOk ops cls->(∀k o,l[k]? = some o->ops[cls.length+k]? = some o)->ClOk ops (u9 l cls)
 |[],cls,hc,_=>hc
 |o::os,cls,hc,hl=>by
  have ho:ops[cls.length]? = some o:=by have:=hl 0 o rfl;simpa using this
  refine HO os _ ?_ (λk x hk=>by
   have:=hl (k+1) x (by simpa using hk);rw[ja,List.length_singleton];rwa[show cls.length+1+k=cls.length+(k+1) by omega])
  intro i j cC;rcases Nat.lt_trichotomy i cls.length with hi|hi|hi
  .rw[jl,List.getElem?_append_left hi,<-jl]at cC;exact hc i j cC
  .subst hi;rw[jl,jx (jm _),Nat.sub_self]at cC;simp only[List.getElem?_cons_zero,Option.getD_some]at cC;exact HN hc ho (jT o) 0 (λ_ h=>h) (λj h=>by simp at h) j cC
  .rw[jl,qp (by simp;omega)]at cC;simp at cC
theorem CL{ops:Array Oper}{cl:List Nat}(hc:ClOk ops cl){i j:Nat}(h:va cl i j=true):i=j\/Bef ops i j\/Bef ops j i:=by
 simp only[va,qe,qt]at h;rcases h with (h|h)|h
 .exact .inl h
 .exact .inr (.inl (hc i j h))
 .exact .inr (.inr (hc j i h))
theorem Oq{ops:Array Oper}{cl:List Nat}{A:List (List Nat)}(hc:ClOk ops cl)(aM:FP ops cl A=true):DOkR ops A:=by
 have hz:∀{i:Nat}{o:Oper},ops[i]? = some o->(o,i)∈ops.toList.zipIdx:=by intro i o ho;rw[qf];exact⟨i,by rw[List.getElem?_zipIdx];simp[ho]⟩
 have wC:∀i k,k∈A.getD i []->A.isEmpty=false:=by
  intro i k hk;cases A with
  |nil=>simp at hk
  |cons _ _=>rfl
 have ah:∀{i:Nat}{o:Oper},ops[i]? = some o->(∀j∈jT o,j<i)/\(A.isEmpty || !lz o||(A.getD i []).isEmpty)=true/\∀j oj,ops[j]? = some oj->yj ops cl A i o j oj=true:=by intro i o ho;have:=ji.1 aM (o,i) (hz ho);simp only[j9]at this;exact⟨λj hj=>by simpa using ji.1 this.1.1 j hj,this.1.2,λj oj fP=>ji.1 this.2 (oj,j) (hz fP)⟩
 refine⟨λi o ho=>(ah ho).1,λi o ho gZ k hk=>?_,λi j oi oj t hi hj cC ht=>?_,λi j oi oj k hi hj cC hk aS=>?_⟩
 .have:=(ah ho).2.1;rw[wC i k hk,gZ]at this;simp only[jc,Bool.false_or,List.isEmpty_iff]at this;rw[this]at hk;simp at hk
 .have:=(ah hi).2.2 j oj hj;simp only[yj,ht,j9]at this;have h1:=this.1;simp only[qe,qt,cC,false_or,j9,bne_iff_ne,ne_eq,ke,kg,kb]at h1;refine⟨h1.1,λhm=>?_⟩;rcases h1.2 with h|h
  .exact absurd hm h
  .exact(CL hc h).resolve_left cC
 .have:=(ah hi).2.2 j oj hj;simp only[yj,j9]at this;have h2:=this.2;rw[wC i k hk]at h2;simp only[Bool.false_or,qe]at h2;rcases h2 with h|h
  .exact(CL hc h).resolve_left cC
  .have:=ji.1 h k hk;simp only[kg,ke,kb]at this;exact absurd aS this
theorem HP{ops:Array Oper}{cl:List Nat}{A:List (List Nat)}(hc:ClOk ops cl){i:Nat}{oi:Oper}{k:Nat}(hm:(nM ops cl A i oi).contains k=false){j:Nat}{oj:Oper}(hj:ops[j]? = some oj)(hk:k∈A.getD j []) :
  i=j\/Bef ops i j\/Bef ops j i\/(lz oi=true/\nL oj=true):=by
 have hz:(oj,j)∈ops.toList.zipIdx:=by rw[qf];exact⟨j,by rw[List.getElem?_zipIdx];simp[hj]⟩
 have aG:A.isEmpty=false:=by
  cases A with
  |nil=>simp at hk
  |cons _ _=>rfl
 unfold nM at hm;rw[aG]at hm;simp only[ka,qj,kg,kb,List.mem_flatMap,not_exists,not_and]at hm;have:=hm (oj,j) hz;dsimp only at this;split at this
 .rename_i h;simp only[qe,j9]at h;rcases h with h|h
  .rcases CL hc h with h|h|h
   .exact .inl h
   .exact .inr (.inl h)
   .exact .inr (.inr (.inl h))
  .exact .inr (.inr (.inr h))
 .exact absurd hk this
inductive DStep(P:Program)(E:Env)(ops:Array Oper)(M Ai:List Nat)(o:Oper)(σ:St):St->Prop
 |skip (s:Nat) (wn v:Bool):jP ops o=some (s,wn)->σ.sl s = .one (.one (.d .bool v))->v≠wn->DStep P E ops M Ai o σ (σ.setD o.dst .und)
 |skipU (s:Nat) (wn:Bool):jP ops o=some (s,wn)->σ.sl s = .und->DStep P E ops M Ai o σ (σ.setD o.dst .und)
 |val (s:Slot) (u:Ups):(o.guard=none\/∃s wn,jP ops o=some (s,wn)/\σ.sl s = .one (.one (.d .bool wn)))->cE E σ.ev (fb M σ.bx) [] o=some (.val true s u)->(∀e∈u,e.1∈Ai)->
  DStep P E ops M Ai o σ ((σ.upd u).setD o.dst s)
 |call (f:Nat) (args:List Arg) (mk:Ret->Option (Slot×Ups)) (ret:Ret) (s:Slot) (u:Ups):(o.guard=none\/∃s wn,jP ops o=some (s,wn)/\σ.sl s = .one (.one (.d .bool wn)))->
  cE E σ.ev (fb M σ.bx) [] o=some (.call f args mk)->Fun P f->yQ P f args (λr=>r=ret)->mk ret=some (s,u)->(∀e∈u,e.1∈Ai)->DStep P E ops M Ai o σ ((σ.upd u).setD o.dst s)
theorem HQ{s:Nat}{x:Slot}(h:σ.sl s=x):σ.setS s x=σ:=by
 unfold St.setS
 have:(λj=>if j=s then x else σ.sl j)=σ.sl:=by
  funext j
  split
  .rename_i hj;subst hj;exact h.symm
  .rfl
 rw[this]
theorem HR{u:Ups}{Ai:List Nat}(h:(u.all λe=>Ai.contains e.1)=true):∀e∈u,e.1∈Ai:=λe he=>by simpa using ji.1 h e he
theorem CM{P:Program}{E:Env}(hC:gn P E.C)(hF:CFun E.C){ops:Array Oper}{M Ai:List Nat}{o:Oper}{R:Type}{k:St->Option R}{r:R}
  (hg:o.guard=none\/∃s wn,jP ops o=some (s,wn)/\σ.sl s = .one (.one (.d .bool wn)))(h:runD E M Ai σ o k=some r):∃σ',DStep P E ops M Ai o σ σ'/\k σ'=some r:=by
 unfold runD at h;split at h
 .simp at h
 .rename_i fH s u ho;split at h
  .rename_i hb;cases fH with
   |false=>simp at h
   |true=>exact⟨_,.val s u hg ho (HR hb),h⟩
  .simp at h
 .rename_i f args mk ho;obtain⟨x,hx⟩:=hF f args;rw[hx]at h;cases x with
  |none=>simp at h
  |some ret=>
   simp only[j0]at h;obtain⟨hf,cu⟩:=hC f args Ret some ret (by rw[hx];rfl);split at h
   .rename_i s u aB;split at h
    .rename_i hb
     exact⟨_,.call f args mk ret s u hg ho hf (by
      intro w S vals ha hn hS;refine(cu w S vals ha hn hS).mono ?_
      rintro e w' ⟨r',lN,rest⟩
      exact⟨r',by simpa using lN,rest⟩) aB (HR hb),h⟩
    .simp at h
   .simp at h
theorem Ot{P:Program}{E:Env}(hC:gn P E.C)(hF:CFun E.C){ops:Array Oper}{M Ai:List Nat}{o:Oper}{R:Type}{k:St->Option R}{r:R}
  (h:vb E ops M Ai σ o k=some r):∃σ',DStep P E ops M Ai o σ σ'/\k σ'=some r:=by
 unfold vb at h;split at h
 .rename_i hg;exact CM hC hF (.inl hg) h
 .split at h
  .rename_i s wn hg;split at h
   .rename_i v hv;cases v with
    |true=>
     rw[j4,HQ hv]at h;cases wn with
     |true=>exact CM hC hF (.inr ⟨s,true,hg,hv⟩) h
     |false=>exact⟨_,.skip s false true hg hv (by simp),h⟩
    |false=>
     rw[j5,HQ hv]at h;cases wn with
     |false=>exact CM hC hF (.inr ⟨s,false,hg,hv⟩) h
     |true=>exact⟨_,.skip s true false hg hv (by simp),h⟩
   .rename_i hv;exact⟨_,.skipU s wn hg hv,h⟩
   .simp at h
  .simp at h
theorem HS{P:Program}{E:Env}(hC:gn P E.C)(hF:CFun E.C){ops:Array Oper}{cl:List Nat}{A:List (List Nat)}{R:Type}{k:St->Option R}{r:R}:∀(n i:Nat)(σ:St),i+n=ops.size->tw E ops cl A (ops.toList.drop i) i σ k=some r->
  ∃τ:Nat->St,τ i=σ/\k (τ ops.size)=some r/\∀j o,i<=j->ops[j]? = some o->gK E.N o=true/\DStep P E ops (nM ops cl A j o) (A.getD j []) o (τ j) (τ (j+1))
 |0,i,σ,hi,h=>by
  rw[jh (by simp;omega)]at h;refine⟨λ_=>σ,rfl,h,λj o hj ho=>?_⟩;have:=(jb.1 ho).1;omega
 |n+1,i,σ,hi,h=>by
  have ax:i<ops.size:=by omega
  rw[jo (by simpa using ax)]at h;simp only[tw]at h;split at h
  .rename_i hd;obtain⟨σ1,hs,hk⟩:=Ot (P:=P) hC hF h;obtain⟨τ1,h1,h2,h3⟩:=HS hC hF n (i+1) σ1 (by omega) hk;refine⟨λj=>if j=i then σ else τ1 j,by simp,?_,λj o hj ho=>?_⟩
   .simp only[show ops.size≠i by omega,qj];exact h2
   .by_cases lh:j=i
    .subst lh;have su:ops[j]? = some ops[j]:=jr ax;rw[su]at ho;simp only[j3]at ho;subst ho;refine⟨by simpa using hd,?_⟩;simp only[if_true,show j+1≠j by omega,qj,h1];simpa using hs
    .simp only[lh,qj,show j+1≠i by omega];exact h3 j o (by omega) ho
  .simp at h
theorem Rel.drawn(hR:Rel N np S0 w0 refs σ a w S γ)(n:Nat):Rel N np S0 w0 refs σ a { w with drawn:=n } S γ:=
 Rel.step (bx':=σ.bx) (γ':=γ) hR (λ_ _ h=>⟨h,rfl⟩) (.refl _ _) (λk b hb=>cP.keep (w:=w) (w':={ w with drawn:=n }) (λ_ _ h=>⟨h,rfl⟩) (.refl _ _) rfl (λ_ _=>⟨rfl,λ_=>Iff.rfl⟩) (hR.box k b hb))
  hR.own hR.apart hR.new hR.here hR.below hR.grow hR.os hR.tape hR.output (λ_ _ _ h=>⟨rfl,h⟩)
theorem D_wp{P:Program}{E:Env}(hT:bt P E.T)(hR:Rel E.N E.np S0 w0 refs σ a w S γ)(hc:bQ σ){ops:Array Oper}{M Ai:List Nat}{i:Nat}{o:Oper}(ho:ops[i]? = some o)(hd:gK E.N o=true)
  {τ τ':St}(hs:DStep P E ops M Ai o τ τ')(cU:(∀k,fb M σ.bx k=fb M τ.bx k)\/(lz o=true/\∀k,ShEq (fb M σ.bx k) (fb M τ.bx k)))(mb:∀t,t∈o.looksAt ops->σ.sl t=τ.sl t){K:Go.Act->World->Prop}{Q:Exit->Go.Act->World->Prop}
  (hK:∀(s:Slot)(u:Ups)(a':Go.Act)(w':World)(S':an)(γ':Nat->Value),τ'=(τ.upd u).setD o.dst s->(∀e∈u,e.1∈Ai)->Rel E.N E.np S0 w0 refs ((σ.upd u).setD o.dst s) a' w' S' γ'->bQ ((σ.upd u).setD o.dst s)->K a' w') :
  wpOp P ops Q i K a w:=by
 have jZ:=si hd
 have lj:∀x∈o.op.operands,σ.ev x=τ.ev x:=by
  intro x hx;cases x with
  |tmp t=>exact mb t (k7 _ (z4.2 ⟨.tmp t,by simpa using hx,rfl⟩))
  |_=>rfl
 have mY:∀s wn,jP ops o=some (s,wn)->s∈o.looksAt ops:=by
  intro s wn hg;refine jz _ ?_;unfold jP at hg;split at hg
  .simp at hg
  .rename_i j w' Cw;split at hg
   .rename_i oj fP;split at hg
    .rename_i s' dE;simp only[j3,j7]at hg;simp[Cw,fP,dE,hg.1]
    .simp at hg
   .simp at hg
 have oA:∀s v,jP ops o≠none->s∈o.looksAt ops->τ.sl s = .one (.one (.d .bool v))->tm a s = .bool v:=by intro s v _ hm hv;have:=hR.slot s;rw[mb s hm,hv]at this;exact mW this
 have ar:cE E σ.ev (fb M σ.bx) [] o=cE E τ.ev (fb M τ.bx) [] o:=by
  rcases cU with cU|⟨gZ,cU⟩
  .rw[show fb M σ.bx=fb M τ.bx from funext cU];exact HJ lj
  .rw[Oh gZ cU];exact HJ lj
 have dR:∀(s:Slot)(u:Ups)(v:Value)(w':World)(S':an)(γ':Nat->Value),τ'=(τ.upd u).setD o.dst s->(∀e∈u,e.1∈Ai)->Rel E.N E.np S0 w0 refs (σ.upd u) a w' S' γ'->
   fe S' w' γ' (σ.upd u).bx (tm a) s v->s.bare=true->K (a.put o.dst v) w':=by
  intro s u v w' S' γ' he hb aY dE bI;obtain⟨h1,h2⟩:=uf aY (Hp hc) jZ dE bI;exact hK s u _ w' S' γ' he hb h1 h2
 have p6:(o.guard=none\/∃s wn,jP ops o=some (s,wn)/\τ.sl s = .one (.one (.d .bool wn)))->Region.wanted o (yielded ops a.tmps)=true:=by
  rintro (hg|⟨s,wn,hg,hv⟩)
  .simp[Region.wanted,hg]
  .exact(yZ hg).2 (oA s wn (by rw[hg];simp) (mY s wn hg) hv)
 unfold wpOp;simp only[ho];cases hs with
 |skip s wn v hg hv aG=>
  have hw:¬Region.wanted o (yielded ops a.tmps)=true:=λhw=>by
   have h1:=(yZ hg).1 hw;rw[oA s v (by rw[hg];simp) (mY s wn hg) hv]at h1;exact aG (by simpa using h1)
  simp only[hw,qj,ka];exact dR .und [] undef w S γ rfl (by simp) hR rfl rfl
 |skipU s wn hg hv=>
  have hu:tm a s=undef:=by have:=hR.slot s;rw[mb s (mY s wn hg),hv]at this;exact this
  have hw:¬Region.wanted o (yielded ops a.tmps)=true:=λhw=>by
   have h1:=(yZ hg).1 hw;rw[hu]at h1;simp[undef]at h1
  simp only[hw,qj,ka];exact dR .und [] undef w S γ rfl (by simp) hR rfl rfl
 |val s u hg aU hb=>
  simp only[p6 hg,if_true];rw[<-ar]at aU;obtain⟨A',sv,hle⟩:=HI (CH M σ.bx) aU;cases hle;obtain⟨⟨v,w',S',γ',ai,aY,dE⟩,bI⟩:=Cp hT hR (act:=[]) (λg hg=>by simp at hg) (λ_=> .inl rfl) sv;refine .inl ?_;unfold Oper.wp;rcases ai with ai|⟨ai,rfl⟩
  .rw[ai,Oper.upon_value];exact dR s u v w' S' γ' rfl hb aY dE bI
  .rw[ai,Oper.upon_skip];exact dR s u undef w' S' γ' rfl hb aY dE bI
 |call f args mk ret s u hg aU hf cu aB hb=>
  simp only[p6 hg,if_true];rw[<-ar]at aU;obtain⟨A',sv,hle⟩:=HI (CH M σ.bx) aU;cases hle with
  |call _ _ _ mk' e6=>
   have wD:=e6 _ _ aB;obtain⟨vals,ai,iI,bI⟩:=Hm hR (act:=[]) (λg hg=>by simp at hg) (λ_=> .inl rfl) sv hf cu;refine .inl ?_;unfold Oper.wp;rw[ai,Oper.upon_enter];refine iI.mono ?_
   rintro e w' ⟨Ou,rfl,ah⟩
   obtain⟨v,S',γ',rfl,aY,dE⟩:=ah s u wD;exact dR s u v w' S' γ' rfl hb aY dE (bI _ s u wD)
end
section
variable{S0:an}{w0:World}{refs:Refs}{σ:St}{a:Go.Act}{w:World}{S:an}{γ:Nat->Value}
theorem CN{o:Oper}{j:Nat}:j∈jT o↔∃e∈o.after,Region.binds .any e=true/\e.on=j:=by
 simp only[jT,z4];constructor
 .rintro⟨e,he,h⟩
  split at h
  .rename_i hb;simp only[j3]at h;exact⟨e,by simpa using he,hb,h⟩
  .simp at h
 .rintro⟨e,he,hb,h⟩
  exact⟨e,by simpa using he,by simp[hb,h]⟩
theorem Ov{ops:Array Oper}{ag:Array Bool}{i:Nat}(h:i∈Region.ready .any ops ag) :
  ag.getD i true=false/\∃o,ops[i]? = some o/\∀j∈jT o,ag.getD j false=true:=by
 obtain⟨h0,o,ho,h1⟩:=mem_ready.1 h;exact⟨h0,o,ho,λj hj=>by obtain⟨e,he,hb,rfl⟩:=CN.1 hj;exact h1 e he hb⟩
def oD(P:Program)(E:Env)(ops:Array Oper)(cl:List Nat)(A:List (List Nat))(τ:Nat->St):Prop:=
 ∀j o,ops[j]? = some o->gK E.N o=true/\DStep P E ops (nM ops cl A j o) (A.getD j []) o (τ j) (τ (j+1))
theorem y8:∀(u:Ups)(σ:St)(t:Nat),(σ.upd u).sl t=σ.sl t
 |[],_,_=>rfl
 |e::u,σ,t=>y8 u (σ.setB e.1 e.2) t
theorem sw(σ:St)(d:Option Nat)(s:Slot):(σ.setD d s).bx=σ.bx:=by cases d<;>rfl
theorem CO{σ:St}{d:Option Nat}{s:Slot}{t:Nat}(h:d≠some t):(σ.setD d s).sl t=σ.sl t:=by
 cases d with
 |none=>rfl
 |some d=>have:t≠d:=λe=>h (by rw[e]);simp[St.setD,St.setS,this]
theorem HT{σ:St}{s:Slot}{t:Nat}:(σ.setD (some t) s).sl t=s:=by simp[St.setD,St.setS]
theorem y9:∀(u:Ups)(σ:St)(k:Nat),(∀e∈u,e.1≠k)->(σ.upd u).bx k=σ.bx k
 |[],_,_,_=>rfl
 |e::u,σ,k,h=>by
  have h1:=y9 u (σ.setB e.1 e.2) k (λx hx=>h x (by simp[hx]));show ((σ.setB e.1 e.2).upd u).bx k=_;rw[h1];have:=h e (by simp);have aG:¬k=e.1:=λhk=>this hk.symm;simp[St.setB,aG]
theorem HU:∀(u:Ups)(σ τ:St)(k:Nat),σ.bx k=τ.bx k->(σ.upd u).bx k=(τ.upd u).bx k
 |[],_,_,_,h=>h
 |e::u,σ,τ,k,h=>by
  refine HU u (σ.setB e.1 e.2) (τ.setB e.1 e.2) k ?_;simp only[St.setB];split
  .rfl
  .exact h
section
variable{P:Program}{E:Env}{ops:Array Oper}{cl:List Nat}{A:List (List Nat)}{τ:Nat->St}
theorem CP(h:oD P E ops cl A τ){j:Nat}{o:Oper}(ho:ops[j]? = some o):∃s u,τ (j+1)=((τ j).upd u).setD o.dst s/\(∀e∈u,e.1∈A.getD j [])/\(nL o=true->∀k,ShEq ((τ j).bx k) ((τ (j+1)).bx k)):=by
 obtain⟨_,hs⟩:=h j o ho;generalize hq:τ (j+1)=σ' at hs;cases hs with
 |skip s wn v hg hv aG=>exact⟨.und,[],rfl,by simp,λ_ k=>by rw[sw];exact ShEq.refl _⟩
 |skipU s wn hg hv=>exact⟨.und,[],rfl,by simp,λ_ k=>by rw[sw];exact ShEq.refl _⟩
 |val s u hg aU hb=>exact⟨s,u,rfl,hb,λal k=>by
  rw[sw];exact HK u (τ j) (λe he=>((On al aU).unmask e he).1) k⟩
 |call f args mk ret s u hg aU hf cu aB hb=>exact⟨s,u,rfl,hb,λal=>absurd aU (Oo al)⟩
theorem Ow(h:oD P E ops cl A τ){j:Nat}{o:Oper}(ho:ops[j]? = some o){t:Nat}(ht:o.dst≠some t):(τ (j+1)).sl t=(τ j).sl t:=by
 obtain⟨s,u,he,_⟩:=CP h ho;rw[he,CO ht,y8]
theorem HV(h:oD P E ops cl A τ){j:Nat}{o:Oper}(ho:ops[j]? = some o){k:Nat}(hk:k∉A.getD j []):(τ (j+1)).bx k=(τ j).bx k:=by
 obtain⟨s,u,he,hu,_⟩:=CP h ho;rw[he,sw];exact y9 u _ k (λe hm nh=>hk (nh▸hu e hm))
theorem wE(h:oD P E ops cl A τ){t j:Nat}:∀n,j+n<=ops.size->(∀k o,j<=k->k<j+n->ops[k]? = some o->o.dst≠some t)->(τ (j+n)).sl t=(τ j).sl t
 |0,_,_=>rfl
 |n+1,hn,hk=>by
  have ax:j+n<ops.size:=by omega
  have ho:ops[j+n]? = some ops[j+n]:=jr ax;rw[<-Nat.add_assoc,Ow h ho (hk _ _ (by omega) (by omega) ho)];exact wE h n (by omega) (λk o h1 h2=>hk k o h1 (by omega))
theorem wF(h:oD P E ops cl A τ){k j:Nat}:∀n,j+n<=ops.size->(∀i o,j<=i->i<j+n->ops[i]? = some o->k∉A.getD i [])->(τ (j+n)).bx k=(τ j).bx k
 |0,_,_=>rfl
 |n+1,hn,hk=>by
  have ax:j+n<ops.size:=by omega
  have ho:ops[j+n]? = some ops[j+n]:=jr ax;rw[<-Nat.add_assoc,HV h ho (hk _ _ (by omega) (by omega) ho)];exact wF h n (by omega) (λi o h1 h2=>hk i o h1 (by omega))
theorem zj(h:oD P E ops cl A τ){k j:Nat}:∀n,j+n<=ops.size->(∀i o,j<=i->i<j+n->ops[i]? = some o->k∈A.getD i []->nL o=true)->ShEq ((τ j).bx k) ((τ (j+n)).bx k)
 |0,_,_=>ShEq.refl _
 |n+1,hn,hk=>by
  have ax:j+n<ops.size:=by omega
  have ho:ops[j+n]? = some ops[j+n]:=jr ax;have ih:=zj h n (by omega) (λi o h1 h2=>hk i o h1 (by omega));refine ih.trans ?_;rw[<-Nat.add_assoc];by_cases hm:k∈A.getD (j+n) []
  .obtain⟨_,_,_,_,al⟩:=CP h ho;exact al (hk _ _ (by omega) (by omega) ho hm) k
  .rw[HV h ho hm];exact ShEq.refl _
structure Ph(ops:Array Oper)(A:List (List Nat))(τ:Nat->St)(ag:Array Bool)(σ:St):Prop where
 closed:∀j o,ops[j]? = some o->ag.getD j false=true->∀d∈jT o,ag.getD d false=true
 done:∀j o t,ops[j]? = some o->o.dst=some t->ag.getD j false=true->σ.sl t=(τ (j+1)).sl t
 rest:∀t,(∀j o,ops[j]? = some o->o.dst=some t->ag.getD j false=false)->σ.sl t=(τ 0).sl t
 bdone:∀j k,j<ops.size->k∈A.getD j []->ag.getD j false=true->(∀i,i<ops.size->k∈A.getD i []->ag.getD i false=true->i<=j)->σ.bx k=(τ (j+1)).bx k
 brest:∀k,(∀j,j<ops.size->k∈A.getD j []->ag.getD j false=false)->σ.bx k=(τ 0).bx k
theorem Ph.bef{ag:Array Bool}(hp:Ph ops A τ ag σ){i j:Nat}(hb:Bef ops i j)(hi:ag.getD i false=true):ag.getD j false=true:=by
 induction hb with
 |dep ho hj=>exact hp.closed _ _ ho hi _ hj
 |trans _ _ h1 h2=>exact h2 (h1 hi)
theorem Ph.befd{ag:Array Bool}(hp:Ph ops A τ ag σ){i j:Nat}{o:Oper}(ho:ops[i]? = some o)(hd:∀j∈jT o,ag.getD j false=true)(hb:Bef ops i j):ag.getD j false=true:=by
 induction hb with
 |dep su hj=>rw[ho]at su;simp only[j3]at su;subst su;exact hd _ hj
 |trans cb cG h1 h2=>exact hp.bef cG (h1 ho)
theorem zk(p:Nat->Prop):∀n,(∃j,j<n/\p j)->∃m,m<n/\p m/\∀j,j<n->p j->j<=m
 |0,h=>by obtain⟨j,hj,_⟩:=h;omega
 |n+1,h=>by
  by_cases hn:p n
  .exact⟨n,by omega,hn,λj hj _=>by omega⟩
  .obtain⟨j,hj,hp⟩:=h
   have tS:j<n:=by
    rcases qc j n with h|h
    .exact h
    .have:j=n:=by omega
     subst this;exact absurd hp hn
   obtain⟨m,hm,wG,ah⟩:=zk p n ⟨j,tS,hp⟩;refine⟨m,by omega,wG,λi hi HW=>?_⟩;rcases qc i n with h|h
   .exact ah i h HW
   .have:i=n:=by omega
    subst this;exact absurd HW hn
theorem HX{l:Array Bool}{i:Nat}(h:l.getD i true=false):l.getD i false=false:=by
 rcases qc i l.size with h'|h'
 .simp[h']at h ⊢;exact h
 .simp[Array.getElem?_eq_none h']
theorem mc{l:Array Bool}{i j:Nat}(hi:i<l.size):(l.setIfInBounds i true).getD j false=true↔j=i\/l.getD j false=true:=by
 by_cases h:i=j
 .subst h;simp[hi]
 .rw[getD_set_ne false h];exact⟨.inr,λhh=>hh.resolve_left λe=>h e.symm⟩
theorem wH{l:Array Bool}{i:Nat}(h:¬l.getD i false=true):l.getD i false=false:=by
 cases hq:l.getD i false with
 |false=>rfl
 |true=>exact absurd hq h
section
variable(aM:DOkR ops A)(h:oD P E ops cl A τ){ag:Array Bool}(hp:Ph ops A τ ag σ){i:Nat}{o:Oper}(hi:ops[i]? = some o)(fy:ag.getD i false=false)(cI:∀j∈jT o,ag.getD j false=true)
include aM h hp hi fy cI
theorem Ox:∀t,t∈o.looksAt ops->σ.sl t=(τ i).sl t:=by
 intro t vK;have gi:i<ops.size:=(jb.1 hi).1;have zl:∀j oj,ops[j]? = some oj->oj.dst=some t->j≠i->Bef ops i j\/Bef ops j i:=λj oj hj ht aG=>(aM.dst i j o oj t hi hj (λe=>aG e.symm) ht).2 vK;by_cases hex:∃(j:Nat)(oj:Oper),ops[j]? = some oj/\oj.dst=some t/\ag.getD j false=true
 .obtain⟨j,oj,hj,ht,jF⟩:=hex;have lh:j≠i:=λe=>by rw[e,fy]at jF;simp at jF
  have sx:Bef ops i j:=by
   rcases zl j oj hj ht lh with hd|hd
   .exact hd
   .have:=hp.bef hd jF;rw[fy]at this;simp at this
  have ax:=aM.bef sx;rw[hp.done j oj t hj ht jF];have:=wE h (t:=t) (j:=j+1) (i-(j+1)) (by omega) (λk ok h1 h2 hk=>(aM.dst k j ok oj t hk hj (by omega) ht).1);rw[show j+1+(i-(j+1))=i by omega]at this;exact this.symm
 .rw[hp.rest t (λj oj hj ht=>wH λhq=>hex ⟨j,oj,hj,ht,hq⟩)]
  have:=wE h (t:=t) (j:=0) i (by omega) (λk ok _ hk kJ nb=>by
   have nt:k≠i:=by omega
   rcases zl k ok kJ nb nt with hd|hd
   .exact hex ⟨k,ok,kJ,nb,hp.befd hi cI hd⟩
   .have:=aM.bef hd;omega)
  rw[ju]at this;exact this.symm
theorem HY{k:Nat}(hk:∀j oj,ops[j]? = some oj->k∈A.getD j []->i=j\/Bef ops i j\/Bef ops j i):σ.bx k=(τ i).bx k:=by
 have gi:i<ops.size:=(jb.1 hi).1;by_cases hex:∃j,j<ops.size/\(k∈A.getD j []/\ag.getD j false=true)
 .obtain⟨m,hm,⟨nu,nv⟩,dh⟩:=zk _ _ hex;have CQ:ops[m]? = some ops[m]:=jr hm;have CR:i≠m:=λe=>by rw[<-e,fy]at nv;simp at nv
  have sx:Bef ops i m:=by
   rcases hk m _ CQ nu with hd|hd|hd
   .exact absurd hd CR
   .exact hd
   .have:=hp.bef hd nv;rw[fy]at this;simp at this
  have ax:=aM.bef sx;rw[hp.bdone m k hm nu nv (λj hj cO jF=>dh j hj ⟨cO,jF⟩)]
  have:=wF h (k:=k) (j:=m+1) (i-(m+1)) (by omega) (λj oj h1 h2 hj cO=>by
   rcases hk j oj hj cO with hd|hd|hd
   .omega
   .have:=dh j (by omega) ⟨cO,hp.befd hi cI hd⟩;omega
   .have:=aM.bef hd;omega)
  rw[show m+1+(i-(m+1))=i by omega]at this;exact this.symm
 .rw[hp.brest k (λj hj cO=>wH λhq=>hex ⟨j,hj,cO,hq⟩)]
  have:=wF h (k:=k) (j:=0) i (by omega) (λj oj h1 h2 hj cO=>by
   rcases hk j oj hj cO with hd|hd|hd
   .omega
   .exact hex ⟨j,by omega,cO,hp.befd hi cI hd⟩
   .have:=aM.bef hd;omega)
  rw[ju]at this;exact this.symm
theorem Oy(gZ:lz o=true){k:Nat}(hk:∀j oj,ops[j]? = some oj->k∈A.getD j []->i=j\/Bef ops i j\/Bef ops j i\/nL oj=true):ShEq (σ.bx k) ((τ i).bx k):=by
 have gi:i<ops.size:=(jb.1 hi).1;by_cases hex:∃j,j<ops.size/\(k∈A.getD j []/\ag.getD j false=true)
 .obtain⟨m,hm,⟨nu,nv⟩,dh⟩:=zk _ _ hex;have CQ:ops[m]? = some ops[m]:=jr hm;rw[hp.bdone m k hm nu nv (λj hj cO jF=>dh j hj ⟨cO,jF⟩)];rcases qc m i with CR|CR
  .have:=zj h (k:=k) (j:=m+1) (i-(m+1)) (by omega) (λj oj h1 h2 hj cO=>by
    rcases hk j oj hj cO with hd|hd|hd|hd
    .omega
    .have:=dh j (by omega) ⟨cO,hp.befd hi cI hd⟩;omega
    .have:=aM.bef hd;omega
    .exact hd)
   rwa[show m+1+(i-(m+1))=i by omega]at this
  .have Oz:i≠m:=λe=>by rw[<-e,fy]at nv;simp at nv
   have:=zj h (k:=k) (j:=i) (m+1-i) (by omega) (λj oj h1 h2 hj cO=>by
    have jF:ag.getD j false=true:=by
     by_cases sy:j=m
     .rw[sy];exact nv
     .rcases aM.box j m oj ops[m] k hj CQ sy cO nu with hd|hd
      .have:=aM.bef hd;omega
      .exact hp.bef hd nv
    rcases hk j oj hj cO with hd|hd|hd|hd
    .rw[<-hd,fy]at jF;simp at jF
    .have:=aM.bef hd;omega
    .have:=hp.bef hd jF;rw[fy]at this;simp at this
    .exact hd)
   rw[show i+(m+1-i)=m+1 by omega]at this;exact this.symm
 .rw[hp.brest k (λj hj cO=>wH λhq=>hex ⟨j,hj,cO,hq⟩)]
  have:=zj h (k:=k) (j:=0) i (by omega) (λj oj h1 h2 hj cO=>by
   rcases hk j oj hj cO with hd|hd|hd|hd
   .omega
   .exact absurd ⟨j,by omega,cO,hp.befd hi cI hd⟩ hex
   .have:=aM.bef hd;omega
   .exact hd)
  rwa[ju]at this
theorem OA(hc:ClOk ops cl):(∀k,fb (nM ops cl A i o) σ.bx k=fb (nM ops cl A i o) (τ i).bx k)\/(lz o=true/\∀k,ShEq (fb (nM ops cl A i o) σ.bx k) (fb (nM ops cl A i o) (τ i).bx k)):=by
 by_cases gZ:lz o=true
 .refine .inr ⟨gZ,ShEq.mask λk hk=>Oy aM h hp hi fy cI gZ λj oj hj cO=>?_⟩;rcases HP hc hk hj cO with hd|hd|hd|hd
  .exact .inl hd
  .exact .inr (.inl hd)
  .exact .inr (.inr (.inl hd))
  .exact .inr (.inr (.inr hd.2))
 .refine .inl λk=>?_;unfold fb;split
  .rfl
  .rename_i hk
   exact HY aM h hp hi fy cI λj oj hj cO=>by
    rcases HP hc (by simpa using hk) hj cO with hd|hd|hd|hd
    .exact .inl hd
    .exact .inr (.inl hd)
    .exact .inr (.inr hd)
    .exact absurd hd.1 gZ
theorem OC(bb:ops.size<=ag.size){s:Slot}{u:Ups}(he:τ (i+1)=((τ i).upd u).setD o.dst s)(hu:∀e∈u,e.1∈A.getD i []):Ph ops A τ (ag.setIfInBounds i true) ((σ.upd u).setD o.dst s):=by
 have gi:i<ops.size:=(jb.1 hi).1;have ee:i<ag.size:=by omega
 have gY:∀k,k∈A.getD i []->σ.bx k=(τ i).bx k:=λk hk=>HY aM h hp hi fy cI λj oj hj cO=>by
  by_cases cC:i=j
  .exact .inl cC
  .exact .inr (aM.box i j o oj k hi hj cC hk cO)
 refine⟨?_,?_,?_,?_,?_⟩
 .intro j oj fP hj d jU;rcases (mc ee).1 hj with rfl|hj
  .rw[hi]at fP;simp only[j3]at fP;subst fP;exact(mc ee).2 (.inr (cI d jU))
  .exact(mc ee).2 (.inr (hp.closed j oj fP hj d jU))
 .intro j oj t fP ht hj;by_cases lh:j=i
  .subst lh;rw[hi]at fP;simp only[j3]at fP;subst fP;rw[he,ht,HT,HT]
  .rcases (mc ee).1 hj with hj|hj
   .exact absurd hj lh
   .rw[CO (aM.dst i j o oj t hi fP (λe=>lh e.symm) ht).1,y8];exact hp.done j oj t fP ht hj
 .intro t ah
  have OD:o.dst≠some t:=λe=>by
   have:=ah i o hi e;have h2:=(mc (j:=i) ee).2 (.inl rfl);rw[this]at h2;simp at h2
  rw[CO OD,y8]
  exact hp.rest t λj oj fP ht=>wH λhq=>by
   have:=ah j oj fP ht;have h2:=(mc (i:=i) ee).2 (.inr hq);rw[this]at h2;simp at h2
 .intro j k hj cO jF dh;rw[sw];by_cases lh:j=i
  .subst lh;rw[he,sw];exact HU u σ (τ j) k (gY k cO)
  .have wI:ag.getD j false=true:=by
    rcases (mc ee).1 jF with e|hh
    .exact absurd e lh
    .exact hh
   have nt:k∉A.getD i []:=λnt=>by
    have hle:=dh i gi nt ((mc ee).2 (.inl rfl));have fP:ops[j]? = some ops[j]:=jr hj;rcases aM.box i j o _ k hi fP (λe=>lh e.symm) nt cO with hd|hd
    .have:=aM.bef hd;omega
    .have:=hp.bef hd wI;rw[fy]at this;simp at this
   rw[y9 u σ k (λe hm nh=>nt (nh▸hu e hm))];exact hp.bdone j k hj cO wI (λi' eC aS iH=>dh i' eC aS ((mc ee).2 (.inr iH)))
 .intro k ah
  have nt:k∉A.getD i []:=λnt=>by
   have:=ah i gi nt;have h2:=(mc (j:=i) ee).2 (.inl rfl);rw[this]at h2;simp at h2
  rw[sw,y9 u σ k (λe hm nh=>nt (nh▸hu e hm))]
  exact hp.brest k λj hj cO=>wH λhq=>by
   have:=ah j hj cO;have h2:=(mc (i:=i) ee).2 (.inr hq);rw[this]at h2;simp at h2
end
theorem OE(aM:DOkR ops A)(h:oD P E ops cl A τ){ag:Array Bool}(hp:Ph ops A τ ag σ)(ah:∀j,j<ops.size->ag.getD j false=true):σ=τ ops.size:=by
 have dg:σ.sl=(τ ops.size).sl:=by
  funext t
  by_cases hex:∃(j:Nat)(oj:Oper),ops[j]? = some oj/\oj.dst=some t
  .obtain⟨j,oj,hj,ht⟩:=hex;have ax:j<ops.size:=(jb.1 hj).1;rw[hp.done j oj t hj ht (ah j ax)];have:=wE h (t:=t) (j:=j+1) (ops.size-(j+1)) (by omega) (λk ok h1 h2 hk=>(aM.dst k j ok oj t hk hj (by omega) ht).1);rw[show j+1+(ops.size-(j+1))=ops.size by omega]at this;exact this.symm
  .rw[hp.rest t (λj oj hj ht=>absurd ⟨j,oj,hj,ht⟩ hex)];have:=wE h (t:=t) (j:=0) ops.size (by omega) (λk ok _ hk kJ nb=>hex ⟨k,ok,kJ,nb⟩);rw[ju]at this;exact this.symm
 have cU:σ.bx=(τ ops.size).bx:=by
  funext k
  by_cases hex:∃j,j<ops.size/\k∈A.getD j []
  .obtain⟨m,hm,nu,dh⟩:=zk _ _ hex;rw[hp.bdone m k hm nu (ah m hm) (λj hj cO _=>dh j hj cO)];have:=wF h (k:=k) (j:=m+1) (ops.size-(m+1)) (by omega) (λj oj h1 h2 hj cO=>by have:=dh j (by omega) cO;omega);rw[show m+1+(ops.size-(m+1))=ops.size by omega]at this;exact this.symm
  .rw[hp.brest k (λj hj cO=>absurd ⟨j,hj,cO⟩ hex)];have:=wF h (k:=k) (j:=0) ops.size (by omega) (λj oj h1 h2 hj cO=>hex ⟨j,by omega,cO⟩);rw[ju]at this;exact this.symm
 cases σ;cases hq:τ ops.size;rw[hq]at cU dg;simp only at cU dg;rw[cU,dg]
end
theorem OG{l:Array Bool}{i:Nat}(hi:l.getD i true=false):(l.setIfInBounds i true).toList.count false+1=l.toList.count false:=by
 have ax:i<l.size:=by
  rcases qc i l.size with h|h
  .exact h
  .simp[Array.getElem?_eq_none h]at hi
 have hv:l.toList[i]'(by simpa using ax)=false:=by simp[ax]at hi;simpa using hi
 have bZ:0<l.toList.count false:=List.count_pos_iff.2 (hv▸qh _);have hc:(l.toList.set i true).count false=l.toList.count false-(if l.toList[i]'(by simpa using ax)==false then 1 else 0)+(if true==false then 1 else 0):=List.count_set (by simpa using ax);rw[hv]at hc;rw[Array.toList_setIfInBounds];simp only[beq_self_eq_true,if_true,show (true==false)=false from rfl,ka,qj,zh]at hc;omega
theorem OH{l:Array Bool}(h:l.toList.count false=0){j:Nat}(hj:j<l.size):l.getD j false=true:=by
 have h0:false∉l.toList:=List.count_eq_zero.1 h;simp only[qm,jr hj,Option.getD_some];cases hv:l[j]with
 |true=>rfl
 |false=>exact absurd (hv▸by simp:false∈l.toList) h0
theorem OI{ops:Array Oper}{A:List (List Nat)}(aM:DOkR ops A){ag:Array Bool}(hs:ag.size=ops.size)(h:Region.ready .any ops ag=[]):∀j,j<ops.size->ag.getD j false=true:=by
 intro j;induction j using Nat.strongRecOn with
 |_ j ih=>
  intro hj;cases hq:ag.getD j false with
  |true=>rfl
  |false=>
   have ho:ops[j]? = some ops[j]:=jr hj
   have hm:j∈Region.ready .any ops ag:=mem_ready.2 ⟨by
    have jB:j<ag.size:=by omega
    simp[jB]at hq ⊢;exact hq,ops[j],ho,λe he hb=>ih _ (aM.lt j _ ho _ (CN.2 ⟨e,he,hb,rfl⟩)) (Nat.lt_trans (aM.lt j _ ho _ (CN.2 ⟨e,he,hb,rfl⟩)) hj)⟩
   rw[h]at hm;simp at hm
theorem OJ{P:Program}{E:Env}(hT:bt P E.T){ops:Array Oper}{cl:List Nat}{A:List (List Nat)}(dm:ClOk ops cl)(aM:DOkR ops A){τ:Nat->St}(h:oD P E ops cl A τ)
  {Q:Exit->Go.Act->World->Prop}(hn:∀a' w' S' γ',Rel E.N E.np S0 w0 refs (τ ops.size) a' w' S' γ'->bQ (τ ops.size)->Q .normal a' w') :
  ∀(fuel:Nat)(ag:Array Bool){σ:St}{a:Go.Act}{w:World}{S:an}{γ:Nat->Value},ag.size=ops.size->ag.toList.count false<=fuel->Rel E.N E.np S0 w0 refs σ a w S γ->bQ σ->
   Ph ops A τ ag σ->wpAny P .any ops Q fuel ag a w:=by
 have ea:∀(ag:Array Bool){σ:St}{a:Go.Act}{w:World}{S:an}{γ:Nat->Value},Rel E.N E.np S0 w0 refs σ a w S γ->bQ σ->Ph ops A τ ag σ->(∀j,j<ops.size->ag.getD j false=true)->Q .normal a w:=by intro ag σ a w S γ hR hc p7 ah;have he:=OE aM h p7 ah;subst he;exact hn a w S γ hR hc
 intro fuel;induction fuel with
 |zero=>
  intro ag σ a w S γ hs CS hR hc p7;have ah:∀j,j<ops.size->ag.getD j false=true:=λj hj=>OH (by omega) (by omega);refine⟨?_,ea ag hR hc p7 ah⟩;refine List.eq_nil_iff_forall_not_mem.2 λi hi=>?_;have h0:=(mem_ready.1 hi).1;have ax:i<ops.size:=by obtain⟨_,o,ho,_⟩:=mem_ready.1 hi;exact(jb.1 ho).1
  have:=ah i ax;rw[HX h0]at this;simp at this
 |succ fuel ih=>
  intro ag σ a w S γ hs CS hR hc p7;refine⟨λdD=>ea ag hR hc p7 (OI aM hs dD),λi hi=>?_⟩;obtain⟨fy,o,ho,cI⟩:=Ov hi;have sC:=HX fy;have cp:=OG fy;have bb:(ag.setIfInBounds i true).size=ops.size:=by simpa using hs
  obtain⟨hd,dx⟩:=h i o ho;refine D_wp hT hR hc ho hd dx (OA aM h p7 ho sC cI dm) (Ox aM h p7 ho sC cI) ?_;intro s u a' w' S' γ' he hu aY bY;exact ih _ bb (by omega) aY bY (OC aM h p7 ho sC cI (Nat.le_of_eq hs.symm) he hu)
theorem OL{P:Program}{E:Env}(hT:bt P E.T)(hC:gn P E.C)(hF:CFun E.C)(hR:Rel E.N E.np S0 w0 refs σ a w S γ)(hc:bQ σ){ops:Array Oper}{A:List (List Nat)}
  {R:Type}{k:St->Option R}{r:R}{Q:Exit->Go.Act->World->Prop}(hn:∀σ' a' w' S' γ',Rel E.N E.np S0 w0 refs σ' a' w' S' γ'->bQ σ'->k σ'=some r->Q .normal a' w')(h:vc E ops A σ k=some r) :
  wpAny P .any ops Q ops.size (Array.replicate ops.size false) a { w with drawn:=w.drawn+1 }:=by
 unfold vc at h;split at h
 .rename_i aM;obtain⟨τ,h1,h2,h3⟩:=HS (P:=P) (ops:=ops) hC hF ops.size 0 σ (ju _) (by simpa using h)
  have iK:∀j,(Array.replicate ops.size false).getD j false=false:=by
   intro j;rcases qc j ops.size with hj|hj
   .simp[hj]
   .simp[hj]
  have dm:ClOk ops (u9 ops.toList []):=HO ops.toList [] (λi j h=>by simp at h) (λk o hk=>by simpa using hk);refine OJ hT dm (Oq dm aM) (τ:=τ) (λj o ho=>h3 j o (kf _) ho) (λa' w' S' γ' aY bY=>hn _ a' w' S' γ' aY bY h2) ops.size _ (by simp) (by simp) (hR.drawn _) hc ?_
  exact⟨λj o _ hj=>by rw[iK]at hj;simp at hj,λj o t _ _ hj=>by rw[iK]at hj;simp at hj,λt _=>by rw[h1],
   λj k _ _ hj=>by rw[iK]at hj;simp at hj,λk _=>by rw[h1]⟩
 .simp at h
end
def FR(ro:Option Nat):Fence:={ Fence.wide with round:=ro }
theorem OM(ro:Option Nat)(n:Nat):(FR ro).room n:=λd h=>by simp[FR,Fence.wide]at h
section
variable{P:Program}{ro:Option Nat}{n:Nat}
theorem ON{f:FuncId}{args:Array Value}{w:World}{R:Ending->World->Prop}(h:Calls P f args w R):CallsIn (FR ro) n P f args w R:=(callsIn_wide (n:=n)).2 h
theorem OO{f:FuncId}{args:Array Value}{w:World}{R:Ending->World->Prop}(h:CallsIn (FR ro) n P f args w R):Calls P f args w R:=(callsIn_wide (n:=n)).1 h
theorem OP{m:Nat}{c:Code}{Q:Exit->Go.Act->World->Prop}{a:Go.Act}{w:World}(h:c.wpIn (FR ro) n P Q a w):c.wpIn (FR ro) m P Q a w:=
 λb k cs dG hb hr=>h b k cs dG hb (OM _ _)
theorem OQ{row:String}{args:Array Value}{w:World}{R:Value->World->Prop}(h:Rows P row args w R):RowsIn (FR ro) n P row args w R:=
 λc cs _=>let ⟨v,w',r,s⟩:=h c cs;⟨v,w',r,stepsIn_wide.2 s⟩
theorem HZ{o:Oper}(hp:ro=none\/∀c,o.op ≠ .defer c){a:Go.Act}{w:World}{K K':Go.Act->World->Prop}{Q:Exit->Go.Act->World->Prop}(hK:∀a w,K a w->K' a w)
  (h:o.wp P a w K Q):o.wpIn (FR ro) n P a w K' Q:=by
 refine⟨λ_ _=>trivial,?_⟩
 have e:o.semAt (FR ro).round a.eval=execOp a.eval o:=by
  rcases hp with rfl|hp
  .rfl
  .exact Oper.semAt_eq _ _ _ hp
 rw[e];unfold Oper.wp at h;revert h;cases (execOp a.eval o).run P w with
 |ok x w'=>
  cases x with
  |value v=>intro h;exact hK _ _ h
  |skip=>intro h;exact hK _ _ h
  |defer d=>intro h;exact hK _ _ h
  |enter f args=>
   intro h;refine⟨λhd=>by simp[FR,Fence.wide]at hd,ON (Calls.mono h λe mV he=>?_)⟩;cases e with
   |returned v=>exact hK _ _ he
   |panicked c=>exact he
   |outgrown=>exact he
  |row r args=>intro h;exact⟨λhd=>by simp[FR,Fence.wide]at hd,OQ (Rows.mono h λv mV he=>hK _ _ he)⟩
  |round l f tmps x y=>intro h;exact h.elim
  |_=>intro h;exact h.elim
 |halt x w'=>cases x<;>intro h<;>exact h
theorem p8{ops:Array Oper}{Q:Exit->Go.Act->World->Prop}(hp:ro=none\/∀o∈ops.toList,∀c,o.op ≠ .defer c)(eJ:¬LetsOut Q):∀(l:List Nat)(a:Go.Act)(w:World),wpOps P ops Q l a w->wpOpsIn (FR ro) n P ops Q l a w
 |[],a,w,h=>h
 |i::r,a,w,h=>by
  simp only[wpOps]at h;simp only[wpOpsIn];cases ho:ops[i]? with
  |none=>simp only[ho]at h ⊢;exact p8 hp eJ r a w h
  |some o=>
   simp only[ho]at h ⊢;split
   .rename_i hw;simp only[hw,if_true]at h;rcases h with h|⟨_,h⟩
    .refine HZ (hp.imp id λhh=>hh o ?_) (λa w=>p8 hp eJ r a w) h;obtain⟨ax,rfl⟩:=jb.1 ho;exact Array.mem_toList_iff.2 (Array.getElem_mem ax)
    .exact absurd h eJ
   .rename_i hw;simp only[hw]at h;exact⟨λ_ _=>trivial,p8 hp eJ r _ w h⟩
theorem zm{md:Region.Mode}{ops:Array Oper}{Q:Exit->Go.Act->World->Prop}(hp:ro=none\/∀o∈ops.toList,∀c,o.op ≠ .defer c)(eJ:¬LetsOut Q) :
  ∀(fuel:Nat)(ag:Array Bool)(a:Go.Act)(w:World),wpAny P md ops Q fuel ag a w->wpAnyIn (FR ro) n P md ops Q fuel ag a w
 |0,_,_,_,h=>h
 |fuel+1,ag,a,w,h=>by
  refine⟨h.1,λi hi=>?_⟩;have h2:=h.2 i hi;unfold wpOp at h2;unfold wpOpIn;cases ho:ops[i]? with
  |none=>simp only[ho]at h2 ⊢;exact zm hp eJ fuel _ a w h2
  |some o=>
   simp only[ho]at h2 ⊢;split
   .rename_i hw;simp only[hw,if_true]at h2;rcases h2 with h2|⟨_,h2⟩
    .refine HZ (hp.imp id λhh=>hh o ?_) (λa w=>zm hp eJ fuel _ a w) h2;obtain⟨ax,rfl⟩:=jb.1 ho;exact Array.mem_toList_iff.2 (Array.getElem_mem ax)
    .exact absurd h2 eJ
   .rename_i hw;simp only[hw]at h2;exact⟨λ_ _=>trivial,zm hp eJ fuel _ _ w h2⟩
end
section
variable{N:NT}{np:Nat}{S0:an}{w0:World}{refs:Refs}{σ:St}{a:Go.Act}{w:World}{S:an}{γ:Nat->Value}
theorem Rel.allocO(hR:Rel N np S0 w0 refs σ a w S γ)(o:Obj):Rel N np S0 w0 refs σ a (w.alloc o) S γ:=
 Rel.step (bx':=σ.bx) (γ':=γ) hR (tM hR o) (.refl _ _) (λk b hb=>cP.keep (tM hR o) (.refl _ _) rfl (λg hg=>⟨heap_alloc_old w o (fj (hR.box k b hb) hg),λ_=>Iff.rfl⟩) (hR.box k b hb))
  hR.own hR.apart hR.new (λg i h=>by have:=hR.here g i h;simp;omega) (λg hg hr=>(heap_alloc_old w o (q9 hg hR.grow)).trans (hR.below g hg hr)) (by have:=hR.grow;simp;omega) hR.os hR.tape hR.output
  (λg hg _ h=>⟨heap_alloc_old w o hg,h⟩)
structure Grew(w w':World):Prop where
 old:∀g,g<w.heap.size->w'.heap[g]? = w.heap[g]?
 size:w.heap.size<=w'.heap.size
 os:w'.os=w.os
 tape:w'.tape=w.tape
 output:w'.output=w.output
structure CT(S:an)(w:World)(S':an)(w':World):Prop where
 sub:∀g o,S g o->S' g o
 new:∀g o,S' g o->S g o\/w.heap.size<=g
 here:∀g o,S' g o->g<w'.heap.size
theorem Rel.grew(hR:Rel N np S0 w0 refs σ a w S γ){S':an}{w':World}(h:Grew w w')(hs:CT S w S' w'):Rel N np S0 w0 refs σ a w' S' γ:=
 have al:cm S w S' w':=λg o hg=>⟨hs.sub g o hg,World.cell?_of_block (h.old g (hR.here g o hg))⟩
 Rel.step (bx':=σ.bx) (γ':=γ) hR al (.refl _ _) (λk b hb=>cP.keep al (.refl _ _) rfl (λg hg=>
   have hl:=fj (hR.box k b hb) hg
   ⟨h.old g hl,λo=>⟨λh1=>(hs.new g o h1).resolve_right (by omega),hs.sub g o⟩⟩) (hR.box k b hb))
  hR.own hR.apart (λg o h1=>(hs.new g o h1).elim (hR.new g o) λh2=> .inr (.inl (qg hR.grow h2))) hs.here (λg hg hr=>(h.old g (q9 hg hR.grow)).trans (hR.below g hg hr)) (qg hR.grow h.size) (h.os.trans hR.os) (h.tape.trans hR.tape) (h.output.trans hR.output)
  (λg hg _ hn=>⟨h.old g hg,hn⟩)
theorem Rel.swap(hR:Rel N np S0 w0 refs σ a w S γ){N':NT}{refs':Refs}{a':Go.Act}(hb:refs'.blks=refs.blks)(hv:refs'.val=refs.val)(bb:a'.tmps.size=N'.n)(CU:a'.defers=refs'.ds)
  (wJ:∀i,fe S w γ σ.bx (tm a') (σ.sl i) (tm a' i))(hk:∀g o,refs'.kw g=some o->w.heap[g]? = some o/\∀k b,σ.bx k = .live b->blk (γ k)≠some g)
  (hf:∀i v,refs'.fix i=some v->N'.pin i=true/\a'.tmps.getD i undef=v)(zn:refs'.mv=refs.mv:=by rfl):Rel N' np S0 w0 refs' σ a' w S γ:=
 have hm:∀g,g∈refs'↔g∈refs:=λg=>by show g∈refs'.blks↔g∈refs.blks;rw[hb]
 ⟨bb,CU,wJ,hR.box,λk b g h h'=>(hR.own k b g h h').imp (λh=>Own.swap h hb zn) λh=>⟨(hm g).2 h.1,h.2⟩,hR.apart,hR.ext,λg o h=>(hR.new g o h).imp id λh=>Own.swap h hb zn,hR.here,λg h h'=>hR.below g h λh2=>h' ((hm g).2 h2),
  hR.grow,hR.os,hR.tape,hR.output,λk v h=>hR.par k v (hv▸h),hk,hf⟩
theorem zo{g o:Nat}{x:Obj}(h:w.heap[g]? = some x)(hc:x.isCells=false):w.cell? ⟨g,o,none⟩=none:=by
 unfold World.cell?;simp only[h];cases x<;>first|rfl|(simp[Obj.isCells]at hc)
theorem Rel.putO(hR:Rel N np S0 w0 refs σ a w S γ){l:Nat}{o o':Obj}(hk:refs.kw l=some o)(hl:w0.heap.size<=l)(hc:o.isCells=false)(bY:o'.isCells=false) :
  Rel N np S0 w0 { refs with kw:=λg=>if g=l then some o' else refs.kw g } σ a (w.putObj l o') S γ:=by
 obtain⟨hw,eJ⟩:=hR.kept l o hk;have ax:=(jb.1 hw).1
 have al:cm S w S (w.putObj l o'):=λg i h=>⟨h,by
  by_cases hg:g=l
  .subst hg;rw[zo hw hc,zo (World.putObj_heap_same ax) bY]
  .exact World.cell?_of_block (World.putObj_heap_other hg)⟩
 have aJ:Rel N np S0 w0 { refs with kw:=λg=>if g=l then none else refs.kw g } σ a w S γ:=
  Rel.swap hR rfl rfl hR.size hR.defers hR.slot (λg x h=>by
   simp only at h;split at h
   .simp at h
   .exact hR.kept g x h) hR.fix
 have bc:Rel N np S0 w0 { refs with kw:=λg=>if g=l then none else refs.kw g } σ a (w.putObj l o') S γ:=
  Rel.step (bx':=σ.bx) (γ':=γ) aJ al (.refl _ _) (λk b hb=>cP.keep al (.refl _ _) rfl (λg hg=>⟨World.putObj_heap_other (λe=>eJ k b hb (e▸hg)),λ_=>Iff.rfl⟩) (hR.box k b hb))
   aJ.own aJ.apart aJ.new (λg i h=>by simpa using hR.here g i h) (λg hg hr=>(World.putObj_heap_other (by omega)).trans (aJ.below g hg hr)) (by simpa using hR.grow) hR.os hR.tape hR.output
   (λg _ ix h=>⟨World.putObj_heap_other (λe=>by subst e;simp at ix),h⟩)
 refine Rel.swap bc rfl rfl bc.size bc.defers bc.slot (λg x h=>?_) bc.fix;simp only at h;split at h
 .rename_i e;subst e;simp only[j3]at h;subst h;exact⟨World.putObj_heap_same ax,eJ⟩
 .rename_i e;have h1:=hR.kept g x h;exact⟨(World.putObj_heap_other e).trans h1.1,h1.2⟩
theorem OR(np:Nat)(K:Keep)(s:Snap)(i:Nat):(∃c,(br np K s).sl i = .one c)/\(i∉K.slots->(br np K s).sl i = .one (.one .dead)):=by
 have dg:(br np K s).sl i=match K.slots.idxOf? i with
  |some j=>rC s[j]?
  |none=> .one (.one .dead):=rfl
 rw[dg];cases hq:K.slots.idxOf? i with
 |none=>exact⟨⟨_,rfl⟩,λ_=>rfl⟩
 |some j=>refine⟨?_,λh=>absurd (jv (lg hq)) h⟩;simp only;unfold rC;split<;>exact⟨_,rfl⟩
theorem Rel.frame{K:Keep}{s:Snap}(hR:Rel N np S0 w0 refs (br np K s) a w S γ){N':NT}{refs':Refs}{a':Go.Act}(hb:refs'.blks=refs.blks)(hv:refs'.val=refs.val)(bb:a'.tmps.size=N'.n)(CU:a'.defers=refs'.ds)
  (dg:∀i∈K.slots,tm a' i=tm a i)(hk:∀g o,refs'.kw g=some o->w.heap[g]? = some o/\∀k b,(br np K s).bx k = .live b->blk (γ k)≠some g)
  (hf:∀i v,refs'.fix i=some v->N'.pin i=true/\a'.tmps.getD i undef=v)(zn:refs'.mv=refs.mv:=by rfl):Rel N' np S0 w0 refs' (br np K s) a' w S γ:=by
 refine hR.swap hb hv bb CU (λi=>?_) hk hf zn;obtain⟨⟨c,hc⟩,hd⟩:=OR np K s i;by_cases hi:i∈K.slots
 .have:=hR.slot i;rw[hc]at this ⊢;rw[dg i hi];exact this
 .rw[hd hi];exact⟨trivial,λh=>absurd rfl h⟩
end
section
variable{P:Program}{F:Fence}{n:Nat}{b:Frame}{a:Go.Act}{k:List Go.Item}{cs:List Frame}{w:World}{Q:Exit->Go.Act->World->Prop}
theorem ug{c:Code}:step P (lone (b.atR a (.code (.scope c)::k)) cs w) = .next (lone (b.atR a (.code c :: .inScope c::k)) cs w):=
 step_lone_go (by simp[stepG,stepG.exec,Frame.atR])
theorem OS{c:Code}:step P (lone (b.atR a (.inScope c::k)) cs w) = .next (lone (b.atR a k) cs w):=
 step_lone_go (by simp[stepG,stepG.exec,Frame.atR])
theorem OT{c:Code}(OU:∀l a w,¬Q (.goto l) a w)(h:c.wpIn F n P Q a w):(Code.scope c).wpIn F n P Q a w:=by
 intro b k cs dG hb hr;have h0:(lone (b.atR a (.code (.scope c)::k)) cs w).fenced P F:=fenced_calm hb hr rfl;obtain⟨e,a₁,w₁,hq,kK⟩:=h b (.inScope c::k) cs dG hb hr;cases e with
 |normal=>exact⟨.normal,a₁,w₁,hq,.head h0 ug (StepsIn.trans kK (.one (fenced_calm hb hr rfl) OS))⟩
 |exit id=>
  have hx:exitTo id (.inScope c::k)=exitTo id k:=by simp[exitTo]
  exact⟨_,a₁,w₁,hq,λk' hk=> .head h0 ug (kK.1 k' (by rw[hx];exact hk)),
   λlN hk=>let ⟨k₁,h1,h2⟩:=kK.2 lN (by rw[hx];exact hk);⟨k₁,h1,.head h0 ug h2⟩⟩
 |goto l=>exact absurd hq (OU l a₁ w₁)
 |ret=>exact⟨_,a₁,w₁,hq,.of_steps (.one h0 ug) kK⟩
 |panic ch=>exact⟨_,a₁,w₁,hq,.of_steps (.one h0 ug) kK⟩
 |outgrown=>exact⟨_,a₁,w₁,hq,.of_steps (.one h0 ug) kK⟩
end
section
variable{N:NT}{np:Nat}{S0:an}{w0:World}{refs:Refs}{σ:St}{a:Go.Act}{w:World}{S:an}{γ:Nat->Value}
theorem OV{α:Type}{xs:List α}{d:α}(h:xs.length=1):xs=[xs.getD 0 d]:=by
 match xs,h with
 |[x],_=>rfl
theorem OW(hR:Rel N np S0 w0 refs σ a w S γ)(hc:bQ σ){g:Gh}{σ':St}(h:ve np σ g=some (true,σ')):∃S' γ',Rel N np S0 w0 refs σ' a w S' γ'/\bQ σ':=by
 cases g with
 |ex k c n=>
  simp only[ve]at h;split at h
  case h_2=>simp at h
  rename_i ls hk;split at h
  case h_2=>simp at h
  rename_i b hs;split at h
  case h_2=>simp at h
  rename_i e t xs hb;split at h
  case isTrue=>simp at h
  rename_i aV;simp only[j3,j7]at h;obtain⟨h1,rfl⟩:=h;have h1:xs.length=1:=z6 h1;simp only[qe,not_or,Bool.not_eq_true,beq_eq_false_iff_ne,Bool.not_eq_false']at aV;obtain⟨⟨⟨⟨hm,hp⟩,ss⟩,bH⟩,hn⟩:=aV
  have hn:σ.bx n = .free:=by
   revert hn
   cases σ.bx n<;>simp[ed]
  have ix:k≠n:=by rintro rfl;rw[hn]at hk;simp at hk
  obtain⟨gk,CV,ek,r8,H0,zl,aM,Mt,_⟩:=hR.box k _ hk
  have vQ:ls[c]? = some (.ol b):=by
   cases bY:ls[c]? with
   |none=>simp[bY]at hs
   |some x=>simp[bY]at hs;rw[hs]
  obtain⟨z,hz,iY⟩:=zl.get c _ vQ;have hu:z=γ b:=iY.2.2 _ hb;obtain⟨css,ao,ah,hS⟩:=eN hm (hR.box b _ hb);rcases ao.2 with⟨_,GG⟩|⟨gb,cap,cur,hg,_,hh,hle,fV,cp,ca⟩
  .omega
  have hlen:=All2.flatten_length (λx c hx=>Rep.length t x c hx) ah;rw[h1,Nat.one_mul]at hlen ca;have nr:=OV (d:=t.dflt) h1;rw[nr]at ah;have aJ:=yF hR hb;have gE:(σ.setB b .gone).bx n = .free:=by rw[bu σ _ (Ne.symm ss)];exact hn
  have aH:Rep S w t (xs.getD 0 t.dflt) css.flatten:=by
   match css,ah with
   |[c],h=>simpa using h.1
  have p9:=jV t _ _ aH;have qA:((scat t (xs.getD 0 t.dflt)).map TV.leaf).length=t.size:=by rw[qs,p9.length,hlen]
  obtain⟨bc,dB⟩:=Ca aJ gE (v':= .pointer (some ⟨gb,0,none⟩)) (b:= .cell ((scat t (xs.getD 0 t.dflt)).map TV.leaf) false) (λg' ae=>by
   have ae:gb=g':=by simpa[blk]using ae
   subst ae;have CW:blk (γ b)=some gb:=by rw[hg];rfl
   refine⟨⟨?_,hR.kw_live hb CW⟩,λk' b' aj aS=>?_⟩
   .rcases hR.own b _ gb hb CW with h|h
    .exact h
    .rw[hp]at h;simp at h
   .have ba:k'≠b:=by rintro rfl;rw[c9]at aj;simp at aj
    rw[bu σ _ ba]at aj;exact hR.apart k' b _ _ gb ba aj hb aS CW) (by
   refine⟨gb,cur,_,cT _ _ _,hh,?_,?_,λ_ o=>(hS gb (by rw[hg];rfl)).1 rfl o,by simp⟩
   .rw[qA,ca];exact lF p9
   .rw[qA,ca];exact Rep.one _ _ _ aH)
  have et:((σ.setB b .gone).setB n (.live (.cell ((scat t (xs.getD 0 t.dflt)).map TV.leaf) false))).bx k = .live (.cell ls false):=by rw[bu _ _ ix,bu _ _ (λh=>bH h.symm)];exact hk
  refine⟨S,_,Ht bc et (b':= .cell (ls.set c (.s1 n)) false) trivial (λbx' oe=>?_),λi=>hc i⟩;obtain⟨g3,OX,e3,q1,q2,q3,q4,q5,_⟩:=bc.box k _ et;rw[dn γ _ ix,r8]at q1;simp at q1;subst q1;rw[H0]at q2;simp at q2;obtain⟨rfl,rfl⟩:=q2;refine⟨gk,CV,ek,by rw[dn γ _ ix];exact r8,H0,?_,by rw[qn];exact q4,q5,by simp⟩;rw[qn];refine All2.set_left (q3.mono (λx u hx=>aL.keep (.refl S w) oe hx)) c (.s1 n) z hz ?_;have me:((σ.setB b .gone).setB n (.live (.cell ((scat t (xs.getD 0 t.dflt)).map TV.leaf) false))).bx n = .live (.cell ((scat t (xs.getD 0 t.dflt)).map TV.leaf) false):=c9 _ _ _;refine aL.keep (.refl S w) oe (x:= .s1 n) ⟨by rw[me];simp,iY.2.1,λb' aj=>?_⟩;rw[me]at aj;cases aj;refine⟨gb,cap,cT _ _ _,?_,by omega,fV⟩;rw[hu,hg,h1]
 |se k=>
  simp only[ve]at h;split at h
  case h_2=>simp at h
  rename_i ls hk;split at h
  case isTrue=>simp at h
  rename_i hp;split at h
  case h_2=>simp at h
  rename_i xs u hx;split at h
  case isTrue=>simp at h
  rename_i gj;simp only[j3,j7,kx]at h;subst h;have hp:parK np k=false:=qk.2 hp;have gj:u.any (λy=>y.1==k)=false:=qk.2 gj;have aq:RdF np σ (λj=>if parK np j then .gone else mskM σ.bx j):=ud (RdR.msk λ_=> .inl rfl);obtain⟨g,cur,e,hg,hh,bT,_⟩:=hR.box k _ hk;obtain⟨hf,tV⟩:=rU aq hx bT;obtain⟨S1,aJ,bF,ei,ct⟩:=iW u σ S hR hf;have cZ:(σ.upd u).bx k = .live (.cell ls false):=(fZ u σ gj).trans hk
  obtain⟨S2,g2,bc,_⟩:=GH aJ cZ hp (xs:=xs) (λg' rV e' ae py _=>by
   rw[hg]at ae;simp at ae;subst ae;rw[hh]at py;simp at py;obtain⟨rfl,_⟩:=py;exact tV S1 w bF ei)
  refine⟨S2,γ,by rw[fJ];exact bc,λi=>?_⟩;rw[pB];exact hc i
 |da l=>
  simp only[ve]at h;split at h
  .rename_i σ1 hd;simp only[j3,j7,kx]at h;subst h;obtain⟨S',aY,bY⟩:=CA l σ σ1 S hR hc hd;exact⟨S',γ,aY,bY⟩
  .simp at h
theorem CX{R:Type}{r:R}:∀{gs:List Gh}{σ:St}{S:an}{γ:Nat->Value}{k:St->Option R},Rel N np S0 w0 refs σ a w S γ->bQ σ->rD np gs σ k=some r->
  ∃σ' S' γ',Rel N np S0 w0 refs σ' a w S' γ'/\bQ σ'/\k σ'=some r
 |[],σ,S,γ,k,hR,hc,h=>⟨σ,S,γ,hR,hc,h⟩
 |g::gs,σ,S,γ,k,hR,hc,h=>by
  simp only[rD]at h;split at h
  .rename_i b σ1 hg;cases b with
   |false=>simp at h
   |true=>obtain⟨S1,γ1,aJ,dP⟩:=OW hR hc hg;exact CX aJ dP h
  .simp at h
end
section
variable{N:NT}{np:Nat}{S0:an}{w0:World}{refs:Refs}{σ:St}{a:Go.Act}{w:World}{S:an}{γ:Nat->Value}
def exOf:Ex->Exit
 |.normal=> .normal
 |.exit i=> .exit i
 |.ret=> .ret
def dz:Nat->Code->List (Nat×Code)
 |b,.seq x y=>dz b x++dz b y
 |b,.cond _ x y=>dz b x++dz b y
 |_,.block id c=>dz id c
 |b,.loop c=>(b,c)::dz b c
 |b,.rangeFunc g ps x y=>[(b,.rangeFunc g ps x y)]
 |b,.scope c=>dz b c
 |_,_=>[]
def wK(E:Env)(b:Nat)(c:Code):Prop:=
 ∀(s:Snap)(R:Type)(k:Ex->Snap->Option R)(r:R),E.L b s R k=some r->∃n e s',loopN (Bm E b c) n s=some (e,s')/\k e s'=some r
def MrOK(E:Env)(b:Nat)(c:Code):Prop:=
 ∀(m nm:Nat)(p:MrP),E.mr b=some (m,nm)->mrP b c=some p->∀(s:Snap)(R:Type)(k:Snap->Option R)(r:R),E.M b s R k=some r->
  ∃(em:Nat)(v:Ty)(xs ys:List (Int×v.den)),isM em=true/\s=dW s em v xs/\
   (∀zs,(br E.np (E.keep b) (dW s em v zs)).bx nm = .live (.lst em (.pair (.int .i64) v) zs false)/\(br E.np (E.keep b) (dW s em v zs)).sl m = .one (.one (.ol nm)))/\
   All2 (λx y=>y.1=x.1/\∀zs,tE E b p m (dW s em v zs) v x.1 x.2 some=some (dW s em v (@gx _ _ (Ty.int .i64).keq zs x.1 y.2))) xs ys/\k (dW s em v ys)=some r
theorem CY(p:Nat->Prop):∀n,p n->∃m,p m/\∀j,p j->m<=j:=by
 intro n;induction n using Nat.strongRecOn with
 |_ n ih=>
  intro h;by_cases hj:∃j,j<n/\p j
  .obtain⟨j,hj,hp⟩:=hj;exact ih j hj hp
  .exact⟨n,h,λj hp=>Nat.le_of_not_lt λhl=>hj ⟨j,hl,hp⟩⟩
open Classical in
noncomputable def zp(p:Nat->Prop):Nat:=if h:∃n,p n then (CY p h.choose h.choose_spec).choose else 0
theorem H2{p:Nat->Prop}{n:Nat}(h:p n):p (zp p)/\zp p<=n:=by
 unfold zp;have hx:∃n,p n:=⟨n,h⟩;rw[dif_pos hx];exact⟨(CY p hx.choose hx.choose_spec).choose_spec.1,(CY p hx.choose hx.choose_spec).choose_spec.2 n h⟩
theorem CZ{P:Program}{F:Fence}{n0:Nat}{Q:Exit->Go.Act->World->Prop}{c:Code}(I:Nat->Go.Act->World->Prop){n:Nat}(h₀:I n a w)
  (round:∀n a w,I n a w->c.wpIn F n0 P (Exit.then (λa' w'=>∃m,m<n/\I m a' w') Q) a w):(Code.loop c).wpIn F n0 P Q a w:=by
 refine wpIn_loop (λa w=>∃n,I n a w) (λa w=>zp λn=>I n a w) ⟨n,h₀⟩ (λa w hI=>?_);obtain⟨m,hm⟩:=hI;have hl:=(H2 (p:=λn=>I n a w) hm).1;refine wpIn_mono (round _ a w hl) (λe a' w' h=>?_);cases e with
 |normal=>obtain⟨m',ax,H3⟩:=h;exact⟨⟨m',H3⟩,Nat.lt_of_le_of_lt (H2 (p:=λn=>I n a' w') H3).2 ax⟩
 |_=>exact h
def sD(w0:World)(refs:Refs):Prop:=
 refs.ds.Nodup/\∀d∈refs.ds,∃D,d={ target:= .collected D,args:=#[] }/\w0.heap.size<=D/\refs.kw D=some (.deferred (some []))
structure qB(w0:World)(refs refs':Refs):Prop where
 blks:refs'.blks=refs.blks
 val:refs'.val=refs.val
 fix:refs'.fix=refs.fix
 marks:sD w0 refs'
 mv:refs'.mv=refs.mv
theorem qB.trans{r r' H4:Refs}(h:qB w0 r r')(h':qB w0 r' H4):qB w0 r H4:=⟨h'.blks.trans h.blks,h'.val.trans h.val,h'.fix.trans h.fix,h'.marks,h'.mv.trans h.mv⟩
def Post(E:Env)(S0:an)(w0:World)(refs:Refs)(pl:Bool){R:Type}(k:Ex->St->Option R)(r:R):Exit->Go.Act->World->Prop:=
 λe a' w'=>∃refs' ex σ' S' γ',qB w0 refs refs'/\(pl=true->refs'=refs)/\exOf ex=e/\Rel E.N E.np S0 w0 refs' σ' a' w' S' γ'/\bQ σ'/\k ex σ'=some r
theorem C0{E:Env}{pl:Bool}{R:Type}{k:Ex->St->Option R}{r:R}:¬LetsOut (Post E S0 w0 refs pl k r):=by
 rintro⟨a,w,refs',ex,_,_,_,_,_,he,_⟩
 cases ex<;>simp[exOf]at he
def ItOK(P:Program)(f:Nat)(kd:Bool)(t:Ty):Prop:=
 Fun P f/\∀(cv:Array Value)(l:Nat)(J:Int->an->World->Prop)(Je Jx:World->Prop)(W:World)(S:an)(H5:List t.den),
  (∀c S W S' W',Grew W W'->CT S W S' W'->J c S W->J c S' W')->(∀W W',Grew W W'->Je W->Je W')->(∀W W',Grew W W'->Jx W->Jx W')->(∀c S W,J c S W->∀g o,S g o->g<W.heap.size)->
  (∀c S W,J c S W->∃xs:List t.den,All2 (fR S W) [.p [⟨.list t,xs⟩]] cv.toList/\(Bj kd xs.length c=true->Je W)/\
   (Bj kd xs.length c=false->itOk kd xs.length c=true/\∀S' W' vs,Grew W W'->CT S W S' W'->All2 (VRep S' W') (yn kd t xs c) vs->
    YieldAt (FR none) 0 P l vs.toArray W' λe W'=>(e = .returned (.bool true)/\∃S',J (ym kd c) S' W')\/(e = .returned (.bool false)/\Jx W')))->
  (∃S',(∀g o,S' g o->g<W.heap.size)/\All2 (fR S' W) [.p [⟨.list t,H5⟩]] cv.toList)->J (yl kd H5.length) S W->
  CallsIn (FR none) 0 P f (#[.func (.yield l) #[] #[]]++cv) W λe W'=>(∃v,e = .returned v)/\(Je W'\/Jx W')
def H6(P:Program)(fK fS e:Nat):Prop:=Fun P fK/\Fun P fS/\∀(w:World)(g:Nat)(es:Array MapEntry)(clock:Nat)(ks:List Int),
 w.heap[g]? = some (.map es clock)->MapKept.Stamped es clock->es.toList.map (·.key)=ks.map (Value.int .i64)->(∀x∈ks, -9223372036854775808<=x/\x<=9223372036854775807)->ks.length<=1000000->
 Calls P fK #[.map (some g)] w λr w1=>∃c,r = .returned c/\Grew w w1/\Calls P fS #[c] w1 λr2 w2=>∃v,r2 = .returned v/\w2.ownsRow w1.heap.size e 1 v ks.length ((rz ks).map (Value.int .i64))/\Grew w1 w2
def H7(P:Program)(f e sz:Nat):Prop:=Fun P f/\∀(w:World)(n:Int),0<=n->n<=1000000->
 Calls P f #[.slice none 0 0,.int .i64 n] w λr w'=>∃v,r = .returned v/\w'.ownsRow w.heap.size e sz v 0 []/\Grew w w'
def BwK(P:Program)(f:Nat):Bool×Ty->Prop
 |(true,.arr fK (.arr e .bool))=>H6 P fK f e
 |(true,.arr e (.arr sz .unit))=>H7 P f e sz
 |(kd,t)=>ItOK P f kd t
theorem BwK.it{P:Program}{f:Nat}{kd:Bool}{t:Ty}(h:BwK P f (kd,t))(ht:kd=true->t=segT):ItOK P f kd t:=by
 cases kd with
 |false=>exact h
 |true=>obtain rfl:=ht rfl;exact h
section
variable{N:NT}{np:Nat}{S0:an}{w0:World}{refs:Refs}{σ:St}{a:Go.Act}{w:World}{S:an}{γ:Nat->Value}
theorem OY(ks:List Int):(rz ks).length=ks.length:=by
 have hi:∀(x:Int)(l:List Int),(insI x l).length=l.length+1:=by
  intro x l;induction l with
  |nil=>rfl
  |cons y r ih=>unfold insI;cases decide (x<=y)<;>simp[ih]
 induction ks with
 |nil=>rfl
 |cons x r ih=>simp[rz,hi,ih]
theorem wL{vt:Ty}:∀{xs:List (Int×vt.den)}{l:List MapEntry},All2 (λ(x:(Ty.int .i64).den×vt.den)(e:MapEntry)=>Rep S w (.int .i64) x.1 [e.key]/\VRep S w ⟨vt,x.2⟩ e.val) xs l->
  l.map (·.key)=(xs.map λx=>x.1).map (Value.int .i64)
 |[],[],_=>rfl
 |[],_::_,h=>h.elim
 |_::_,[],h=>h.elim
 |y::r,z::q,h=>by
  have h1:[z.key]=[Value.int .i64 y.1]:=h.1.1;simp only[qi,List.cons.injEq];exact⟨by simpa using h1,wL h.2⟩
theorem OZ{P:Program}{E:Env}(eF:∀f t,E.bw f=some t->BwK P f t)(hR:Rel E.N E.np S0 w0 refs σ a w S γ)(hc:bQ σ){o o2:Oper}(hd:gK E.N o=true)(jY:gK E.N o2=true)
  {σ':St}(h:Be E σ o o2=some (true,σ')){next qC:Go.Act->World->Prop}{Q:Exit->Go.Act->World->Prop}
  (gE:∀a1 w1,o2.wp P a1 w1 next Q->qC a1 w1)(hn:∀a' w' S' γ',Rel E.N E.np S0 w0 refs σ' a' w' S' γ'->bQ σ'->next a' w'):o.wp P a w qC Q:=by
 unfold Be at h;split at h
 case h_2=>simp at h
 rename_i c1 c2 ho sg;split at h
 case h_2=>simp at h
 rename_i f1 x f2 d dP wM eQ vz;split at h
 case h_2=>simp at h
 rename_i fK b fS jX hx nV;split at h
 case h_2=>simp at h
 rename_i Bf e em ta xs fr C1 zq;split at h
 case h_2=>simp at h
 rename_i cq ys wN;split at h
 case isFalse=>simp at h
 rename_i aV;obtain⟨rfl,wO,ow,wP,az⟩:=aV;simp only[j3,j7]at h;obtain⟨rfl,rfl⟩:=h;obtain⟨O0,O1,cu⟩:H6 P Bf fS e:=eF _ _ C1;have wQ:=gM hR x;rw[hx]at wQ;have wu:a.eval x=γ b:=wQ.1.2.2 _ zq;unfold FN at wN;split at wN
 case h_2=>simp at wN
 rename_i vt xs;simp only[j3,j7]at wN;obtain⟨aM,rfl⟩:=wN
 obtain⟨g,es,clock,hg,hh,ah,al⟩:vk S w (.pair (.int .i64) vt) xs (γ b):=by
  rcases (hR.box b _ zq).1 with⟨hm,_⟩|⟨_,hm⟩
  .rw[ow]at hm;simp at hm
  .exact hm
 unfold FM at aM;simp only[j9,ji,jg]at aM;have nd:xs.length<=1000000:=qr aM.1;have nj:es.toList.map (·.key)=(xs.map λx=>x.1).map (Value.int .i64):=by exact wL ah
 have bW:=cu w g es clock (xs.map λx=>x.1) hh al.1 nj (λz hz=>by
  obtain⟨y,hy,rfl⟩:=k9.1 hz;exact aM.2 y hy) (by simpa using nd)
 have wR:=gM hR f1;rw[jX]at wR;obtain⟨cv,vY,gp⟩:=wR.1
 obtain rfl:cv = #[]:=by
  have:cv.toList=[]:=by
   cases hq:cv.toList with
   |nil=>rfl
   |cons=>rw[hq]at gp;exact gp.elim
  exact zd.1 this
 have ai:=we (w:=w) O0 ho dP vY;have e1:c1.args.map a.eval ++ #[] = #[.map (some g)]:=by apply k8;simp[wM,wu,hg]
 rw[e1]at ai;unfold Oper.wp;rw[ai,Oper.upon_enter];refine bW.mono ?_
 rintro r w1 ⟨c,rfl,gD,C2⟩
 have aJ:=hR.grew gD (S':=S) ⟨λ_ _ h=>h,λ_ _ h=> .inl h,λg o h=>q9 (hR.here g o h) gD.size⟩;obtain⟨bc,C3⟩:=uf aJ hc (si hd) (s:= .one (.one .dead)) (v:=c) ⟨trivial,λh=>absurd rfl h⟩ rfl;have wS:=gM bc f2;rw[nV]at wS;obtain⟨cv,BR,gp⟩:=wS.1
 obtain rfl:cv = #[]:=by
  have:cv.toList=[]:=by
   cases hq:cv.toList with
   |nil=>rfl
   |cons=>rw[hq]at gp;exact gp.elim
  exact zd.1 this
 have jG:=we (w:=w1) O1 sg eQ BR;have O2:d<a.tmps.size:=by rw[hR.size];exact(si hd d wO).1
 have e2:c2.args.map (a.put o.dst c).eval ++ #[] = #[c]:=by
  apply k8;have:(a.put o.dst c).eval (.tmp d)=c:=by show tm (a.put o.dst c) d=c;rw[wO,kH O2,if_pos rfl]
  simp[vz,this]
 rw[e2]at jG;refine gE _ _ ?_;unfold Oper.wp;rw[jG,Oper.upon_enter];refine C2.mono ?_
 rintro r2 w2 ⟨v,rfl,bk,kL⟩
 have gy:(σ.setD o.dst (.one (.one .dead))).bx ((o2.dst.getD 0)*64) = .free:=by
  rw[show (σ.setD o.dst (.one (.one .dead))).bx=σ.bx by rw[wO];rfl];cases hq:σ.bx ((o2.dst.getD 0)*64) with
  |free=>rfl
  |gone=>rw[hq]at az;simp[ed]at az
  |live=>rw[hq]at az;simp[ed]at az
 have hblk:∀g',blk v=some g'->w1.heap.size<=g'/\g'<w2.heap.size:=by
  intro g' ae;rcases bk.2 with⟨rfl,_⟩|⟨gb,cap,cur,rfl,cJ,sd,_⟩
  .simp[blk]at ae
  .simp[blk]at ae;subst ae;exact⟨cJ,(jb.1 sd).1⟩
 have mf:w2.ownsRow 0 e (Ty.int .i64).size v (nE xs).length (((nE xs).map (λx=>[Value.int .i64 x])).flatten):=by
  have e3:((nE xs).map (λx=>[Value.int .i64 x])).flatten=(rz (xs.map λx=>x.1)).map (Value.int .i64):=by
   unfold nE;induction rz (xs.map λx=>x.1) with
   |nil=>rfl
   |cons y r ih=>simp only[qi,km,ih];rfl
  rw[e3,show (nE xs).length=(xs.map λx=>x.1).length from OY _];refine⟨bk.1,?_⟩;rcases bk.2 with hl|⟨gb,cap,cur,h1,h2,h3⟩
  .exact .inl hl
  .exact .inr ⟨gb,cap,cur,h1,kf _,h3⟩
 have C4:=tO bc gy (w':=w2) (S':=S) (v':=v) (e:=e) wP (el:= .int .i64) (zs:=nE xs) (frz:=false) (css:=(nE xs).map λx=>[Value.int .i64 x])
  (λg' o' hs=>⟨hs,World.cell?_of_block (kL.old g' (bc.here g' o' hs))⟩) (λg' ae _=>kL.old g' ae) kL.size
  (λg' ae=>⟨.inl (qg bc.grow (hblk g' ae).1),λk b' aj hk=>by have:=fj (bc.box k b' aj) hk;have:=(hblk g' ae).1;omega,(hblk g' ae).2⟩)
  (λ_ _ h=> .inl h) kL.os kL.tape kL.output mf (by
   generalize nE xs=l
   induction l with
   |nil=>trivial
   |cons y r ih=>exact⟨rfl,ih⟩)
  (λg' ae=>⟨λ_ o' hs=>by have:=bc.here g' o' hs;have:=(hblk g' ae).1;omega,λh=>by simp at h⟩) (λg' ae=>bc.kw_new (hblk g' ae).1)
 obtain⟨eU,iE⟩:=C4;obtain⟨jH,jI⟩:=uf eU (λi=>C3 i) (si jY) (s:= .one (.one (.ol ((o2.dst.getD 0)*64)))) (v:=v) iE rfl;exact hn _ _ _ _ jH jI
theorem O3{P:Program}{E:Env}(eF:∀f t,E.bw f=some t->BwK P f t)(hR:Rel E.N E.np S0 w0 refs σ a w S γ)(hc:bQ σ){o:Oper}(hd:gK E.N o=true)
  {σ':St}(h:Bg E σ o=some (true,σ')){next:Go.Act->World->Prop}{Q:Exit->Go.Act->World->Prop}
  (hn:∀a' w' S' γ',Rel E.N E.np S0 w0 refs σ' a' w' S' γ'->bQ σ'->next a' w'):o.wp P a w next Q:=by
 unfold Bg at h;split at h
 case h_2=>simp at h
 rename_i c1 ho;split at h
 case h_2=>simp at h
 rename_i f1 x y dP wM;split at h
 case h_2=>simp at h
 rename_i fG n jX hx hy;split at h
 case h_2=>simp at h
 rename_i e sz ti C1 px;split at h
 case h_2=>simp at h
 rename_i ta aD;split at h
 case isFalse=>simp at h
 rename_i aV;obtain⟨rfl,wP,az⟩:=aV;simp only[j3,j7,j9,jg]at h;obtain⟨⟨iy,gE⟩,rfl⟩:=h;obtain⟨O4,cu⟩:H7 P fG e ta.size:=eF _ _ C1;have wQ:=gM hR x;rw[hx]at wQ;have wu:a.eval x = .slice none 0 0:=wQ.1;have H8:=gM hR y;rw[hy]at H8;have Cu:a.eval y = .int .i64 n:=nS H8;have wR:=gM hR f1;rw[jX]at wR;obtain⟨cv,vY,gp⟩:=wR.1
 obtain rfl:cv = #[]:=by
  have:cv.toList=[]:=by
   cases hq:cv.toList with
   |nil=>rfl
   |cons=>rw[hq]at gp;exact gp.elim
  exact zd.1 this
 have ai:=we (w:=w) O4 ho dP vY;have e1:c1.args.map a.eval ++ #[] = #[.slice none 0 0,.int .i64 n]:=by apply k8;simp[wM,wu,Cu]
 rw[e1]at ai;unfold Oper.wp;rw[ai,Oper.upon_enter];refine(cu w n iy gE).mono ?_
 rintro r w1 ⟨v,rfl,bk,gD⟩
 have gy:σ.bx ((o.dst.getD 0)*64) = .free:=by
  cases hq:σ.bx ((o.dst.getD 0)*64) with
  |free=>rfl
  |gone=>rw[hq]at az;simp[ed]at az
  |live=>rw[hq]at az;simp[ed]at az
 have hblk:∀g',blk v=some g'->w.heap.size<=g'/\g'<w1.heap.size:=by
  intro g' ae;rcases bk.2 with⟨rfl,_⟩|⟨gb,cap,cur,rfl,cJ,sd,_⟩
  .simp[blk]at ae
  .simp[blk]at ae;subst ae;exact⟨cJ,(jb.1 sd).1⟩
 have mf:w1.ownsRow 0 e ta.size v ([]:List ta.den).length (([]:List (List Value)).flatten):=by
  refine⟨bk.1,?_⟩;rcases bk.2 with hl|⟨gb,cap,cur,h1,h2,h3⟩
  .exact .inl hl
  .exact .inr ⟨gb,cap,cur,h1,kf _,h3⟩
 have C4:=tO hR gy (w':=w1) (S':=S) (v':=v) (e:=e) wP (el:=ta) (zs:=[]) (frz:=false) (css:=[])
  (λg' o' hs=>⟨hs,World.cell?_of_block (gD.old g' (hR.here g' o' hs))⟩) (λg' ae _=>gD.old g' ae) gD.size
  (λg' ae=>⟨.inl (qg hR.grow (hblk g' ae).1),λk b' aj hk=>by have:=fj (hR.box k b' aj) hk;have:=(hblk g' ae).1;omega,(hblk g' ae).2⟩)
  (λ_ _ h=> .inl h) gD.os gD.tape gD.output mf trivial
  (λg' ae=>⟨λ_ o' hs=>by have:=hR.here g' o' hs;have:=(hblk g' ae).1;omega,λh=>by simp at h⟩) (λg' ae=>hR.kw_new (hblk g' ae).1)
 obtain⟨eU,iE⟩:=C4;obtain⟨jH,jI⟩:=uf eU (λi=>hc i) (si hd) (s:= .one (.one (.ol ((o.dst.getD 0)*64)))) (v:=v) iE rfl;exact hn _ _ _ _ jH jI
theorem H9{P:Program}{E:Env}(hT:bt P E.T)(hC:gn P E.C)(eF:∀f t,E.bw f=some t->BwK P f t)(hR:Rel E.N E.np S0 w0 refs σ a w S γ)(hc:bQ σ){o:Oper}(hd:gK E.N o=true){R:Type}{k:St->Option R}{r:R}
  (h:runK E σ o k=some r){next:Go.Act->World->Prop}{Q:Exit->Go.Act->World->Prop}
  (hn:∀σ' a' w' S' γ',Rel E.N E.np S0 w0 refs σ' a' w' S' γ'->bQ σ'->k σ'=some r->next a' w'):o.wp P a w next Q:=by
 unfold runK at h;split at h
 .rename_i c σ' hg;cases c with
  |false=>simp at h
  |true=>exact O3 eF hR hc hd hg (λa' w' S' γ' aY bY=>hn _ _ _ _ _ aY bY h)
 .exact wv hT hC hR (act:=[]) (λg hg=>by simp at hg) (p:=false) (λ_=>hc) hd h (λσ' a' w' S' γ' aY bY hk=>hn _ _ _ _ _ aY (bY rfl) hk)
theorem C5{P:Program}{E:Env}(hT:bt P E.T)(hC:gn P E.C)(eF:∀f t,E.bw f=some t->BwK P f t){ops:Array Oper}(bI:bare ops=true){R:Type}{k:St->Option R}{r:R}{Q:Exit->Go.Act->World->Prop}
  (hn:∀σ' a' w' S' γ',Rel E.N E.np S0 w0 refs σ' a' w' S' γ'->bQ σ'->k σ'=some r->Q .normal a' w') :
  ∀(n i:Nat)(σ:St)(a:Go.Act)(w:World)(S:an)(γ:Nat->Value),i+n=ops.size->Rel E.N E.np S0 w0 refs σ a w S γ->bQ σ->nK E (ops.toList.drop i) σ k=some r->
   wpOps P ops Q (List.range' i n) a w
 |0,i,σ,a,w,S,γ,hi,hR,hc,h=>by
  rw[jh (by simp;omega)]at h;exact hn _ _ _ _ _ hR hc h
 |1,i,σ,a,w,S,γ,hi,hR,hc,h=>by
  have ax:i<ops.size:=by omega
  rw[jo (by simpa using ax),jh (by simp;omega)]at h;simp only[nK]at h;split at h
  .rename_i hd;have ho:ops[i]? = some ops[i]:=jr ax;simp only[qo,wpOps,ho];have hg:ops[i].guard=none:=by have:=ji.1 bI ops[i] (by simp);simpa using this
   have hw:Region.wanted ops[i] (yielded ops a.tmps)=true:=by simp[Region.wanted,hg]
   simp only[hw,if_true];exact .inl (H9 hT hC eF hR hc (by simpa using hd) (by simpa using h) (λσ' a' w' S' γ' aY bY hk=>hn _ _ _ _ _ aY bY hk))
  .simp at h
 |n+2,i,σ,a,w,S,γ,hi,hR,hc,h=>by
  have ax:i<ops.size:=by omega
  have oE:i+1<ops.size:=by omega
  rw[jo (by simpa using ax),jo (by simpa using oE)]at h;simp only[nK]at h;have ho:ops[i]? = some ops[i]:=jr ax;have sg:ops[i+1]? = some ops[i+1]:=jr oE
  have hw:∀(j:Nat)(hj:j<ops.size)(a:Go.Act),Region.wanted ops[j] (yielded ops a.tmps)=true:=λj hj a=>by
   have hg:ops[j].guard=none:=by have:=ji.1 bI ops[j] (by simp);simpa using this
   simp[Region.wanted,hg]
  split at h
  case isFalse=>simp at h
  rename_i hd;split at h
  .rename_i cq σ' nj;split at h
   case isFalse=>simp at h
   rename_i jY;cases cq with
   |false=>simp at h
   |true=>simp only[j4]at h;simp only[qo,wpOps,ho,sg,hw i ax,hw (i+1) oE,if_true];refine .inl (OZ eF hR hc (by simpa using hd) (by simpa using jY) (by simpa using nj) (λa1 w1 hq=> .inl hq) (λa' w' S' γ' aY bY=>?_));exact C5 hT hC eF bI hn n (i+2) σ' a' w' S' γ' (by omega) aY bY h
  .rw[qo];simp only[wpOps,ho,hw i ax,if_true];refine .inl (H9 hT hC eF hR hc (by simpa using hd) (by simpa using h) (λσ' a' w' S' γ' aY bY hk=>?_));refine C5 hT hC eF bI hn (n+1) (i+1) σ' a' w' S' γ' (by omega) aY bY ?_;rw[jo (by simpa using oE)];simpa using hk
theorem O5{P:Program}{E:Env}(hT:bt P E.T)(hC:gn P E.C)(eF:∀f t,E.bw f=some t->BwK P f t)(hR:Rel E.N E.np S0 w0 refs σ a w S γ)(hc:bQ σ){ops:Array Oper}{R:Type}{k:St->Option R}{r:R}
  {Q:Exit->Go.Act->World->Prop}(hn:∀σ' a' w' S' γ',Rel E.N E.np S0 w0 refs σ' a' w' S' γ'->bQ σ'->k σ'=some r->Q .normal a' w')(h:u7 E ops σ k=some r) :
  wpOps P ops Q (List.range ops.size) a w:=by
 rw[List.range_eq_range'];unfold u7 at h;split at h
 .rename_i hb;exact C5 hT hC eF hb hn ops.size 0 σ a w S γ (by omega) hR hc (by simpa using h)
 .simp at h
end
def zr(P:Program)(E:Env)(ro:Option Nat)(c:Code):Prop:=
 ∀(b n:Nat){S0:an}{w0:World}{refs:Refs}{σ:St}{a:Go.Act}{w:World}{S:an}{γ:Nat->Value}{R:Type}{k:Ex->St->Option R}{r:R},sD w0 refs->
  (∀x∈dz b c,wK E x.1 x.2/\MrOK E x.1 x.2)->Rel E.N E.np S0 w0 refs σ a w S γ->bQ σ->dk E b c σ k=some r->c.wpIn (FR ro) n P (Post E S0 w0 refs (cc c) k r) a w
theorem oF:∀(c:Code)(b:Nat),cc c=true->dz b c=[]
 |.seq x y,b,h=>by simp only[cc,j9]at h;simp[dz,oF x b h.1,oF y b h.2]
 |.cond _ x y,b,h=>by simp only[cc,j9]at h;simp[dz,oF x b h.1,oF y b h.2]
 |.block id c,b,h=>by simp only[cc]at h;simp[dz,oF c id h]
 |.loop c,b,h=>by simp[cc]at h
 |.rangeFunc _ _ _ _,b,h=>by simp[cc]at h
 |.skip,_,_=>rfl
 |.region _ _ _,_,_=>rfl
 |.exit _,_,_=>rfl
 |.goto _,_,_=>rfl
 |.label _,_,_=>rfl
 |.ret,_,_=>rfl
 |.scope c,b,h=>by simp only[cc]at h;simp[dz,oF c b h]
theorem Ia:∀(L:List (Nat×Value))(T:Array Value),kW (L.map (·.1))=true->(∀q∈L,q.1<T.size)->
  (∀q∈L,(L.foldl (λt (q:Nat×Value)=>t.setIfInBounds q.1 q.2) T).getD q.1 undef=q.2)/\(∀i,i∉L.map (·.1)->(L.foldl (λt (q:Nat×Value)=>t.setIfInBounds q.1 q.2) T).getD i undef=T.getD i undef)/\
  (L.foldl (λt (q:Nat×Value)=>t.setIfInBounds q.1 q.2) T).size=T.size
 |[],T,_,_=>⟨λq h=>by simp at h,λ_ _=>rfl,rfl⟩
 |q::r,T,hn,hb=>by
  simp only[qi,kW,j9,ke,kg,kb]at hn;obtain⟨h1,h2,h3⟩:=Ia r (T.setIfInBounds q.1 q.2) hn.2 (λp hp=>by simpa using hb p (by simp[hp]));have hq:=hb q (by simp);refine⟨λp hp=>?_,λi hi=>?_,by simpa using h3⟩
  .rcases jf.1 hp with rfl|hp
   .show (List.foldl (λt (q:Nat×Value)=>t.setIfInBounds q.1 q.2) (T.setIfInBounds p.1 p.2) r).getD p.1 undef=_;rw[h2 p.1 hn.1];simp[Array.getD,hq]
   .exact h1 p hp
  .simp only[qi,jf,not_or]at hi;show (List.foldl (λt (q:Nat×Value)=>t.setIfInBounds q.1 q.2) (T.setIfInBounds q.1 q.2) r).getD i undef=_;rw[h2 i hi.2];rw[qm,Array.getElem?_setIfInBounds,if_neg (λh=>hi.1 h.symm),<-qm]
theorem Ib{N:NT}{np:Nat}:∀(L:List (Nat×TV)){σ:St},Rel N np S0 w0 refs σ a w S γ->bQ σ->(∀q∈L,VRep S w q.2 (tm a q.1))->Rel N np S0 w0 refs (setL L σ) a w S γ/\bQ (setL L σ)
 |[],_,hR,hc,_=>⟨hR,hc⟩
 |q::r,σ,hR,hc,hv=>by
  have h1:=Cy hR (s:=q.1) (x:= .one (iR q.2.t q.2.v)) (rY (hv q (by simp)));refine Ib r h1 (λi=>?_) (λp hp=>hv p (by simp[hp]));simp only[St.setS];split
  .rfl
  .exact hc i
theorem Ic{S:an}{w:World}:∀{ps:List Nat}{xs:List TV}{vs:List Value},All2 (VRep S w) xs vs->∀q∈ps.zip xs,∃v,(q.1,v)∈ps.zip vs/\VRep S w q.2 v
 |[],_,_,_,q,h=>by simp at h
 |p::ps,[],vs,_,q,h=>by simp at h
 |p::ps,x::xs,[],h2,q,h=>h2.elim
 |p::ps,x::xs,v::vs,h2,q,h=>by
  simp only[List.zip_cons_cons,jf]at h;rcases h with rfl|h
  .exact⟨v,by simp,h2.1⟩
  .obtain⟨u,h3,h4⟩:=Ic h2.2 q h;exact⟨u,by simp[h3],h4⟩
theorem Ie:∀(ps:List Nat)(vs:List Value),kW ps=true->kW ((ps.zip vs).map (·.1))=true
 |[],_,_=>by simp[kW]
 |p::ps,[],_=>by simp[kW]
 |p::ps,v::vs,h=>by
  simp only[kW,j9,ke,kg,kb,List.zip_cons_cons,qi]at h ⊢;refine⟨λhm=>h.1 ?_,Ie ps vs h.2⟩;obtain⟨q,hq,he⟩:=k9.1 hm;rw[<-he];exact(List.of_mem_zip hq).1
theorem O6{kd:Bool}{t:Ty}{xs:List t.den}{c:Int}(h:kd=true->t=segT):(yn kd t xs c).length=cond kd 1 2:=by
 cases kd with
 |false=>rfl
 |true=>have:=h rfl;subst this;rfl
theorem O7{P:Program}{E:Env}(eF:∀f t,E.bw f=some t->BwK P f t)(gr:E.N.pin=λ_=>false){b n:Nat}{g:Operand}{ps:Array Nat}{x y:Code}
  (mg:∀l,cc x=true->zr P (E.rnd ps x y) (some l) x)(mh:∀l,cc y=true->zr P (E.rnd ps x y) (some l) y)
  (O8:wK E b (.rangeFunc g ps x y)){R:Type}{k:Ex->St->Option R}{r:R}(hm:sD w0 refs)(hR:Rel E.N E.np S0 w0 refs σ a w S γ)(hc:bQ σ)
  (h:dk E b (.rangeFunc g ps x y) σ k=some r) :
  (Code.rangeFunc g ps x y).wpIn (FR none) n P (Post E S0 w0 refs (cc (.rangeFunc g ps x y)) k r) a w:=by
 refine OP (n:=1) ?_;simp only[dk]at h;split at h
 case h_2=>simp at h
 rename_i f t xs lj;split at h
 case h_2=>simp at h
 rename_i kd aM;split at h
 case h_2=>simp at h
 rename_i s hs;obtain⟨O9,e,s',mi,hk⟩:=O8 _ R _ r h;have aH:=gM hR g;rw[lj]at aH;obtain⟨⟨cv,Ig,gp⟩,_⟩:=aH;obtain⟨S1,γ1,aJ,dP⟩:=nn hR hc hs
 have parts:∀f t kd,rfK E b f t ps x y=some kd->E.bw f=some (kd,t)/\(kd=true->t=segT)/\ps.toList.length=cond kd 1 2/\kW ps.toList=true/\(∀p∈ps.toList,p<E.N.n)/\cc x=true/\cc y=true/\pinK ps x y (E.keep b)=true:=by
  intro f t kd aM;unfold rfK at aM;split at aM
  case h_2=>simp at aM
  rename_i q hq;cases mj:(decide (q.2=t)&&(cond q.1 (decide (t=segT)) true&&(decide (ps.toList.length=cond q.1 1 2)&&(kW ps.toList&&(ps.toList.all (λp=>decide (p<E.N.n))&&(cc x&&(cc y&&pinK ps x y (E.keep b)))))))) with
  |false=>rw[mj]at aM;simp at aM
  |true=>
  rw[mj,j4,j3]at aM;subst aM;simp only[j9,jg,ji]at mj;obtain⟨h1,h0,h2,h3,h4,h5,h6,h7⟩:=mj;exact⟨by rw[hq,<-h1],λhk=>by rw[hk]at h0;exact qd h0,h2,h3,h4,h5,h6,h7⟩
 obtain⟨ua,Ih,h2,ck,ax,oG,oH,Ii⟩:=parts f t kd aM;obtain⟨⟨Ij,C6,qD,bD⟩,pZ⟩:=(eF f _ ua).it Ih
 have Pa:∀args w,(callFunc f args).run P w = .ok (.enter f args) w:=λargs w=>by
  have fX:¬Ij.body=none:=λhn=>by rw[hn]at qD;simp at qD
  have pS : ¬ Ij.name = "runtime.NumGoroutine" := by simpa using bD
  simp[callFunc,C6,fX,pS]
 refine wpIn_rangeFunc λfn _=>?_;obtain⟨rec,aX⟩:∃rec:LoopState->Option Code->Loop,rec=λst pe=>{ state:=st,pending:=pe,fn,tmps:=a.tmps,params:=ps,assign:=x,body:=y,defers:=w.heap.size }:=⟨_,rfl⟩;obtain⟨W1,uh⟩:∃W1,(w.alloc (.deferred (some []))).alloc (.loop (rec .ready none))=W1:=⟨_,rfl⟩
 refine⟨w.heap.size+1,[{ target:= .collected w.heap.size,args:=#[] }],W1,{ target:= .fn (.func f) cv,args:=#[.func (.yield (w.heap.size+1)) #[] #[]] },W1,f,
  #[.func (.yield (w.heap.size+1)) #[] #[]]++cv,W1,?_,?_,λ_ _=>trivial,?_,λhd=>by simp[FR,Fence.wide]at hd,?_⟩
 .rw[<-uh,aX];exact run_enterLoop_outer _ _ _ _ _
 .simp only[resolve,Ig];simp[go_sem]
 .simp[invoke,go_sem,Pa]
 obtain⟨l,hl⟩:∃l,l=w.heap.size+1:=⟨_,rfl⟩;rw[<-hl];let bn:(Nat->Option Value)->Obj->Refs:=λfx o=>{ blks:=refs.blks,val:=refs.val,ds:=[],kw:=λg=>if g=l then some o else if g=w.heap.size then some (.deferred (some [])) else refs.kw g,fix:=fx,mv:=refs.mv }
 let fx:Nat->Option Value:=λi=>if tB ps x y i then some (a.tmps.getD i undef) else none
 let aI:Go.Act:={ tmps:=a.tmps,defers:=[] }
 have lk:∀fx o,(bn fx o).kw l=some o:=λfx o=>by simp[bn]
 have Pb:w0.heap.size<=l:=by have:=hR.grow;omega
 have aB:∀fx o,sD w0 (bn fx o):=λfx o=>⟨List.nodup_nil,λd hd=>by simp[bn]at hd⟩
 have fA:∀{N:NT}{fx:Nat->Option Value}{o o':Obj}{σ:St}{a:Go.Act}{W:World}{S:an}{γ:Nat->Value},o.isCells=false->o'.isCells=false->Rel N E.np S0 w0 (bn fx o) σ a W S γ->
   Rel N E.np S0 w0 (bn fx o') σ a (W.putObj l o') S γ:=by
  intro N fx o o' σ a W S γ h1 h2 hR;have:=hR.putO (lk fx o) Pb h1 h2;refine this.swap rfl rfl this.size this.defers this.slot (λg u hg=>this.kept g u ?_) this.fix;simp only[bn]at hg ⊢;split
  .rename_i e;subst e;simpa using hg
  .rename_i e;simpa[e]using hg
 have ml:∀{N N':NT}{fx C7:Nat->Option Value}{o:Obj}{K:Keep}{s:Snap}{a a':Go.Act}{W:World}{S:an}{γ:Nat->Value},Rel N E.np S0 w0 (bn fx o) (br E.np K s) a W S γ->a'.tmps.size=N'.n->a'.defers=[]->
   (∀i∈K.slots,tm a' i=tm a i)->(∀i v,C7 i=some v->N'.pin i=true/\a'.tmps.getD i undef=v)->Rel N' E.np S0 w0 (bn C7 o) (br E.np K s) a' W S γ:=by
  intro N N' fx C7 o K s a a' W S γ hR h1 h2 h3 h4;exact hR.frame rfl rfl h1 h2 h3 (λg u hg=>hR.kept g u hg) h4
 have mm:∀i v,(λ_=>none:Nat->Option Value) i=some v->E.N.pin i=true/\aI.tmps.getD i undef=v:=λi v h=>by simp at h
 let J:Int->an->World->Prop:=λc S W=>∃s γ fu,Rel E.N E.np S0 w0 (bn (λ_=>none) (.loop (rec .ready none))) (br E.np (E.keep b) s) aI W S γ/\bQ (br E.np (E.keep b) s)/\
  loopN (tD E b g ps x y) fu (.s (.one (.d (.int .i64) c))::s)=some (e,s')
 let Je:World->Prop:=λW=>∃S γ,Rel E.N E.np S0 w0 (bn (λ_=>none) (.loop (rec .ready none))) (br E.np (E.keepX b e) s') aI W S γ/\bQ (br E.np (E.keepX b e) s')/\e = .normal
 let Jx:World->Prop:=λW=>∃S γ c,Rel E.N E.np S0 w0 (bn (λ_=>none) (.loop (rec .done (some c)))) (br E.np (E.keepX b e) s') aI W S γ/\bQ (br E.np (E.keepX b e) s')/\
  ((e = .ret/\c = .ret)\/∃i,e = .exit i/\c = .exit i)
 have qE:∀K:Keep,pinK ps x y K=true->∀i∈K.slots,tB ps x y i=true:=λK hK i hi=>ji.1 hK i hi;have qF:∀i,tB ps x y i=true->i∉ps.toList:=by intro i hi;simp only[tB,j9,ke,kg,kb]at hi;exact hi.1
 have wT:J (yl kd xs.length) S1 W1:=by
  refine⟨s,γ1,O9,?_,dP,mi⟩;have hA:=(aJ.allocO (.deferred (some []))).allocO (.loop (rec .ready none));rw[uh]at hA;refine hA.frame rfl rfl hR.size rfl (λi _=>rfl) (λg' u ae=>?_) mm;simp only[bn]at ae;split at ae
  .rename_i e';simp only[j3]at ae;subst ae;rw[e',hl];refine⟨?_,λk' b' aj bH=>?_⟩
   .rw[<-uh];have:=World.alloc_heap_new (w.alloc (.deferred (some []))) (.loop (rec .ready none));rwa[World.size_alloc]at this
   .have:=fj (aJ.box k' b' aj) bH;omega
  .split at ae
   .rename_i _ e';simp only[j3]at ae;subst ae;rw[e'];refine⟨?_,λk' b' aj bH=>?_⟩
    .rw[<-uh];exact(heap_alloc_old _ _ (by simp)).trans (World.alloc_heap_new w _)
    .have:=fj (aJ.box k' b' aj) bH;omega
   .exact hA.kept g' u ae
 have Pc:aI.eval g=a.eval g:=by cases g<;>rfl
 have C8:aI.tmps.size=E.N.n:=hR.size
 have wU:∀{K:Keep}{s:Snap}{o:Obj}{W W':World}{S:an}{γ:Nat->Value},Grew W W'->Rel E.N E.np S0 w0 (bn (λ_=>none) o) (br E.np K s) aI W S γ->Rel E.N E.np S0 w0 (bn (λ_=>none) o) (br E.np K s) aI W' S γ:=
  λhg h1=>h1.grew hg ⟨λ_ _ h=>h,λ_ _ h=> .inl h,λg o h=>q9 (h1.here g o h) hg.size⟩
 refine CallsIn.mono (pZ cv l J Je Jx W1 S1 xs (λc S W S' W' hg hs ⟨s,γ,fu,h1,h2,h3⟩=>⟨s,γ,fu,h1.grew hg hs,h2,h3⟩) (λW W' hg ⟨S,γ,h1,h2⟩=>⟨S,γ,wU hg h1,h2⟩) (λW W' hg ⟨S,γ,c,h1,h2⟩=>⟨S,γ,c,wU hg h1,h2⟩)
  (λc S W ⟨s,γ,fu,h1,_⟩=>h1.here) ?_ ?_ wT) ?_
 ·-- a round
  rintro cn S W ⟨s,γ,fu,ui,Ik,nw⟩
  cases fu with
  |zero=>simp[loopN]at nw
  |succ fu=>
  simp only[loopN]at nw;cases al:tD E b g ps x y (.s (.one (.d (.int .i64) cn))::s) with
  |none=>rw[al]at nw;simp at nw
  |some r0=>
  rw[al]at nw;unfold tD vg at al;dsimp only at al;split at al
  case h_2=>simp at al
  rename_i f' t' bM sE;split at al
  case h_2=>simp at al
  rename_i Pd kJ;have gS:=gM ui g;rw[sE,Pc,Ig]at gS;obtain⟨⟨cv',wV,dY⟩,_⟩:=gS;simp only[Value.func.injEq,Fn.func.injEq,kx]at wV;obtain⟨rfl,rfl⟩:=wV;have ht:=(parts f t' Pd kJ).1;rw[ua]at ht;simp only[j3,j7]at ht;obtain⟨rfl,rfl⟩:=ht;refine⟨bM,dY,λC9=>?_,λC9=>?_⟩
  .rw[C9,j4]at al;cases kM:pinK ps x y (E.keepX b .normal) with
   |false=>rw[kM]at al;simp at al
   |true=>
   rw[kM,j4]at al;split at al
   case h_2=>simp at al
   rename_i s3 Pe;simp only[j3]at al;subst al;simp only[j3,j7]at nw;obtain⟨rfl,rfl⟩:=nw;obtain⟨S5,γ5,oI,sF⟩:=nn ui Ik Pe;exact⟨S5,γ5,oI,sF,rfl⟩
  rw[C9,j5]at al;cases hle:itOk kd bM.length cn with
  |false=>rw[hle]at al;simp at al
  |true=>
  rw[hle,j4]at al;refine⟨rfl,λSg Wg vs Pf Pg eI=>?_⟩;have ui:=ui.grew Pf Pg;have pJ:vs.toArray.size=ps.size:=by have e1:=eI.length;rw[O6 Ih]at e1;simp only[zg];rw[<-e1,<-h2,kz]
  refine⟨fn,_,x,y,by have:=run_yield (P:=P) (args:=vs.toArray) (ui.kept l _ (lk _ _)).1 (by rw[aX];exact pJ);rw[aX]at this;exact this,roundIn_of_wpIn trivial ?_⟩;let a1:Go.Act:={ tmps:=(ps.zip vs.toArray).foldl (λt (q:Nat×Value)=>t.setIfInBounds q.1 q.2) a.tmps,defers:=[] }
  have iY:(ps.zip vs.toArray).toList=ps.toList.zip vs:=by simp
  have wM:a1.tmps=(ps.toList.zip vs).foldl (λt (q:Nat×Value)=>t.setIfInBounds q.1 q.2) a.tmps:=by show (ps.zip vs.toArray).foldl _ _=_;rw[<-Array.foldl_toList,iY]
  have dF:∀i,i∈(ps.toList.zip vs).map (·.1)->i∈ps.toList:=λi hi=>by
   obtain⟨q,hq,rfl⟩:=k9.1 hi;exact(List.of_mem_zip hq).1
  have Da:kW ((ps.toList.zip vs).map (·.1))=true:=Ie _ _ ck;obtain⟨yW,fi,Il⟩:=Ia (ps.toList.zip vs) a.tmps Da (λq hq=>by rw[hR.size];exact ax _ (List.of_mem_zip hq).1);rw[<-wM]at yW fi Il;have Db:a1.tmps.size=E.N.n:=Il.trans hR.size;have oA:∀i,i∉ps.toList->tm a1 i=tm aI i:=λi hi=>fi i (λh=>hi (dF i h))
  have Pj:Rel (E.rnd ps x y).N E.np S0 w0 (bn fx (.loop (rec .ready none))) (br E.np (E.keep b) s) a1 Wg Sg γ:=ml ui Db rfl (λi hi=>oA i (qF i (qE _ Ii i hi))) (λi u hu=>by
   simp only[fx]at hu;split at hu
   .rename_i hp;simp only[j3]at hu;refine⟨hp,?_⟩;show tm a1 i=u;rw[oA i (qF i hp)];exact hu
   .simp at hu)
  obtain⟨Pl,lV⟩:=Ib (ps.toList.zip (yn kd t bM cn)) Pj Ik (λq hq=>by
   obtain⟨v,h3,h4⟩:=Ic eI q hq;have:=yW _ h3;show VRep Sg Wg q.2 (a1.tmps.getD q.1 undef);rw[this];exact h4)
  refine wpIn_mono (mg l oG 0 0 (aB _ _) (by rw[oF x 0 oG];simp) Pl lV al) ?_
  rintro e1 a2 w2 ⟨dO,ex,σ2,S2,γ2,_,eA,rfl,bc,eQ,et⟩
  have:=eA oG;subst this;cases ex with
  |exit i=>simp at et
  |ret=>simp at et
  |normal=>
  refine⟨_,run_beginRound (bc.kept l _ (lk _ _)).1 (by rw[aX]),?_⟩;have eU:Rel (E.rnd ps x y).N E.np S0 w0 (bn fx (.loop (rec .busy none))) σ2 a2 (w2.putObj l (.loop { rec .ready none with state:= .busy })) S2 γ2:=by have:=fA (o':= .loop (rec .busy none)) rfl rfl bc;rw[aX]at this ⊢;exact this
  refine wpIn_mono (mh l oH 0 0 (aB _ _) (by rw[oF y 0 oH];simp) eU eQ et) ?_
  rintro e1 a3 w3 ⟨Im,ex,σ3,S3,γ3,_,eA,rfl,jH,jI,sG⟩
  have:=eA oH;subst this
  have hY:∀{K:Keep}{s:Snap}{o:Obj}{W:World}{S:an}{γ:Nat->Value},pinK ps x y K=true->Rel (E.rnd ps x y).N E.np S0 w0 (bn fx o) (br E.np K s) a3 W S γ->
    Rel E.N E.np S0 w0 (bn (λ_=>none) o) (br E.np K s) aI W S γ:=λhK hR=>ml hR C8 rfl (λi hi=>by
   have:=(hR.fix i (a.tmps.getD i undef) (by simp only[bn,fx];rw[if_pos (qE _ hK i hi)])).2;exact this.symm) mm
  have mn:∀(ex:Ex)(c:Code),((ex = .ret/\c = .ret)\/∃i,ex = .exit i/\c = .exit i)->
    (cond (pinK ps x y (E.keepX b ex)) (match eM E.np (E.keepX b ex) σ3 with
     |some s'=>some (Sum.inr (ex,s'))
     |none=>none) none:Option (Snap ⊕ Ex×Snap))=some r0->
    ∃v w',(Instr.endRound l (some c)).run P w3 = .ok v w'/\((Ending.returned v = .returned (.bool true)/\∃S',J (ym kd cn) S' w')\/(Ending.returned v = .returned (.bool false)/\Jx w')):=by
   intro ex c hex gG;cases kM:pinK ps x y (E.keepX b ex) with
   |false=>rw[kM]at gG;simp at gG
   |true=>
   rw[kM,j4]at gG;split at gG
   case h_2=>simp at gG
   rename_i s2 fY;simp only[j3]at gG;subst gG;simp only[j3,j7]at nw;obtain⟨rfl,rfl⟩:=nw;obtain⟨S5,γ5,oI,sF⟩:=nn jH jI fY;refine⟨_,_,run_endRound (some c) (oI.kept l _ (lk _ _)).1,.inr ⟨rfl,S5,γ5,c,?_,sF,hex⟩⟩;have:=fA (o':= .loop (rec .done (some c))) rfl rfl (hY kM oI);rw[aX]at this ⊢;exact this
  cases ex with
  |normal=>
   dsimp only at sG
   split at sG
   case h_2=>simp at sG
   rename_i s2 fY;simp only[j3]at sG;subst sG;obtain⟨S5,γ5,oI,sF⟩:=nn jH jI fY;show∃v w',(Instr.endRound l none).run P w3 = .ok v w'/\_;refine⟨_,_,run_endRound none (oI.kept l _ (lk _ _)).1,.inl ⟨rfl,S5,s2,γ5,fu,?_,sF,?_⟩⟩
   .have:=fA (o':= .loop (rec .ready none)) rfl rfl (hY Ii oI);rw[aX]at this ⊢;exact this
   .exact nw
  |exit i=>exact mn _ _ (.inr ⟨i,rfl,rfl⟩) sG
  |ret=>exact mn _ _ (.inl ⟨rfl,rfl⟩) sG
 .refine⟨S,λg o h=>by rw[<-uh];have:=hR.here g o h;simp;omega,gp.mono λx z hx=>?_⟩;rw[<-uh]
  exact fR.keep (λg o h=>⟨h,by
   have:=hR.here g o h;rw[World.cell?_alloc_lt _ _ _ (by simp;omega),World.cell?_alloc_lt _ _ _ this]⟩) hx
 .rintro e2 W2 ⟨⟨v,rfl⟩,ea⟩
  have hY:∀{K:Keep}{s:Snap}{o:Obj}{W:World}{S:an}{γ:Nat->Value},Rel E.N E.np S0 w0 (bn (λ_=>none) o) (br E.np K s) aI W S γ->
    ∃refs',qB w0 refs refs'/\Rel E.N E.np S0 w0 refs' (br E.np K s) { a with defers:=[{ target:= .collected w.heap.size,args:=#[] }]++a.defers } W S γ:=by
   intro K s o W S γ Io;refine⟨{ blks:=refs.blks,val:=refs.val,ds:={ target:= .collected w.heap.size,args:=#[] }::refs.ds,kw:=λg=>if g=w.heap.size then some (.deferred (some [])) else refs.kw g,fix:=refs.fix,mv:=refs.mv },⟨rfl,rfl,rfl,⟨?_,?_⟩,rfl⟩,?_⟩
   .refine q7.2 ⟨λfo=>?_,hm.1⟩;obtain⟨D,hD,_,uj⟩:=hm.2 _ fo;simp only[Deferred.mk.injEq,Target.collected.injEq,and_true]at hD;rw[<-hD,hR.kw_new (jm _)]at uj;simp at uj
   .intro d hd;rcases jf.1 hd with rfl|hd
    .exact⟨w.heap.size,rfl,hR.grow,by simp⟩
    .obtain⟨D,rfl,h1,h2⟩:=hm.2 d hd;refine⟨D,rfl,h1,?_⟩;show (if D=w.heap.size then _ else refs.kw D)=_;rw[if_neg,h2]
     rintro rfl
     rw[hR.kw_new (jm _)]at h2;simp at h2
   .refine Io.frame rfl rfl hR.size (by rw[hR.defers];rfl) (λi _=>rfl) (λg' u ae=>Io.kept g' u ?_) (λi v hv=>?_)
    .simp only[bn]at ae ⊢;by_cases h1:g'=l
     .exfalso;subst h1;rw[if_neg (by omega),hR.kw_new (by omega)]at ae;simp at ae
     .rw[if_neg h1];exact ae
    .have:=(hR.fix i v hv).1;rw[gr]at this;simp at this
  rcases ea with⟨S2,γ2,oJ,Pm,rfl⟩|⟨S2,γ2,c,ot,yI,hex⟩
  .refine⟨none,_,by have:=run_endLoop (P:=P) (oJ.kept l _ (lk _ _)).1 (by rw[aX];simp);rw[aX]at this;exact this,?_⟩;have qG:=fA (o':= .loop { rec .ready none with state:= .exhausted }) rfl rfl oJ;obtain⟨refs',hle,oJ⟩:=hY qG;rw[aX]at oJ;exact⟨refs',.normal,_,S2,γ2,hle,λhf=>by simp[cc]at hf,rfl,oJ,Pm,hk⟩
  .have qG:=fA (o':= .loop { rec .done (some c) with state:= .exhausted }) rfl rfl ot;obtain⟨refs',hle,oJ⟩:=hY qG;refine⟨some c,_,by have:=run_endLoop (P:=P) (ot.kept l _ (lk _ _)).1 (by rw[aX];simp);rw[aX]at this;exact this,?_⟩;rw[aX]at oJ;rcases hex with⟨rfl,rfl⟩|⟨i,rfl,rfl⟩
   .exact wpIn_ret ⟨refs',.ret,_,S2,γ2,hle,λhf=>by simp[cc]at hf,rfl,oJ,yI,hk⟩
   .exact wpIn_exit ⟨refs',.exit i,_,S2,γ2,hle,λhf=>by simp[cc]at hf,rfl,oJ,yI,hk⟩
def MrS(P:Program)(um:Nat->Option (Nat×Nat)):Prop:=
 ∀{E:Env},E.mr=um->bt P E.T->gn P E.C->CFun E.C->(∀f t,E.bw f=some t->BwK P f t)->(E.N.pin=λ_=>false)->
  ∀(x y:Code)(b n:Nat)(pl:Bool){S0:an}{w0:World}{refs:Refs}{σ:St}{a:Go.Act}{w:World}{S:an}{γ:Nat->Value}{R:Type}{k:Ex->St->Option R}{r:R},sD w0 refs->
   (∀z∈dz b y,MrOK E z.1 z.2)->Rel E.N E.np S0 w0 refs σ a w S γ->bQ σ->tC E x y=true->vf E x y σ k=some r->(Code.seq x y).wpIn (FR none) n P (Post E S0 w0 refs pl k r) a w
theorem Pn{E:Env}{x y:Code}(h:tC E x y=true):cc (.seq x y)=false:=by
 unfold tC at h;split at h
 .simp[cc]
 .simp at h
theorem Ip{P:Program}(eG:P.follows .mixedOrders=true){um:Nat->Option (Nat×Nat)}(wW:MrS P um):∀(c:Code){E:Env}{ro:Option Nat},bt P E.T->gn P E.C->CFun E.C->E.mr=um->
  (∀f t,E.bw f=some t->BwK P f t)->(cc c=true\/(ro=none/\E.N.pin=λ_=>false))->zr P E ro c:=by
 intro c;induction c with
 |skip=>intro E ro hT hC hF hE dG hp b n S0 w0 refs σ a w S γ R k r hm hL hR hc h;exact wpIn_skip ⟨refs,.normal,σ,S,γ,⟨rfl,rfl,rfl,hm,rfl⟩,λ_=>rfl,rfl,hR,hc,h⟩
 |label l=>intro E ro hT hC hF hE dG hp b n S0 w0 refs σ a w S γ R k r hm hL hR hc h;exact wpIn_label ⟨refs,.normal,σ,S,γ,⟨rfl,rfl,rfl,hm,rfl⟩,λ_=>rfl,rfl,hR,hc,h⟩
 |region oK ops draw=>
  intro E ro hT hC hF hE dG hp b n S0 w0 refs σ a w S γ R k r hm hL hR hc h
  have Dc:ro=none\/∀o∈ops.toList,∀c,o.op ≠ .defer c:=hp.elim (λhp=> .inr λo ho c hd=>by
   have:=ji.1 hp o ho;simp[FQ,hd]at this) λh=> .inl h.1
  cases draw with
  |true=>simp only[dk]at h;obtain⟨σ,S,γ,hR,hc,h⟩:=CX hR hc h;exact wpIn_region_any eG (zm Dc C0 _ _ _ _ (OL hT hC hF hR hc (λσ' a' w' S' γ' aY bY hk=>⟨refs,.normal,σ',S',γ',⟨rfl,rfl,rfl,hm,rfl⟩,λ_=>rfl,rfl,aY,bY,hk⟩) h))
  |false=>
   simp only[dk]at h;obtain⟨σ,S,γ,hR,hc,h⟩:=CX hR hc h;cases nj:E.ks oK with
   |true=>rw[nj,j4]at h;exact wpIn_region (p8 Dc C0 _ _ _ (O5 hT hC dG hR hc (λσ' a' w' S' γ' aY bY hk=>⟨refs,.normal,σ',S',γ',⟨rfl,rfl,rfl,hm,rfl⟩,λ_=>rfl,rfl,aY,bY,hk⟩) h))
   |false=>rw[nj,j5]at h;exact wpIn_region (p8 Dc C0 _ _ _ (NI hT hC hR hc (λσ' a' w' S' γ' aY bY hk=>⟨refs,.normal,σ',S',γ',⟨rfl,rfl,rfl,hm,rfl⟩,λ_=>rfl,rfl,aY,bY,hk⟩) h))
 |seq x y mg mh=>
  intro E ro hT hC hF hE dG hp b n S0 w0 refs σ a w S γ R k r hm hL hR hc h;simp only[dk]at h;cases zt:tC E x y with
  |true=>rw[zt,j4]at h;obtain⟨rfl,gr⟩:=hp.resolve_left (by rw[Pn zt];simp);exact wW hE hT hC hF dG gr x y b n _ hm (λz hz=>(hL z (by simp[dz,hz])).2) hR hc zt h
  |false=>
  rw[zt,j5]at h;have oG:cc x=true\/(ro=none/\E.N.pin=λ_=>false):=hp.imp (λh=>by simp only[cc,j9]at h;exact h.1) id;have oH:cc y=true\/(ro=none/\E.N.pin=λ_=>false):=hp.imp (λh=>by simp only[cc,j9]at h;exact h.2) id;refine wpIn_seq (wpIn_mono (mg hT hC hF hE dG oG b n hm (λz hz=>hL z (by simp[dz,hz])) hR hc h) ?_)
  rintro e a' w' ⟨refs',ex,σ',S',γ',hle,eA,rfl,aY,bY,hk⟩
  have hx:cc (.seq x y)=true->refs'=refs:=λh=>by simp only[cc,j9]at h;exact eA h.1
  cases ex with
  |normal=>
   refine wpIn_mono (mh hT hC hF hE dG oH b n hle.marks (λz hz=>hL z (by simp[dz,hz])) aY bY hk) ?_
   rintro e2 a2 w2 ⟨dO,ex,σ2,S2,γ2,dB,Dd,rfl,bc,eQ,et⟩
   refine⟨dO,ex,σ2,S2,γ2,hle.trans dB,λh=>?_,rfl,bc,eQ,et⟩;have h1:=hx h;simp only[cc,j9]at h;rw[Dd h.2,h1]
  |exit i=>exact⟨refs',.exit i,σ',S',γ',hle,hx,rfl,aY,bY,hk⟩
  |ret=>exact⟨refs',.ret,σ',S',γ',hle,hx,rfl,aY,bY,hk⟩
 |cond c x y mg mh=>
  intro E ro hT hC hF hE dG hp b n S0 w0 refs σ a w S γ R k r hm hL hR hc h;simp only[dk]at h;have oG:cc x=true\/(ro=none/\E.N.pin=λ_=>false):=hp.imp (λh=>by simp only[cc,j9]at h;exact h.1) id;have oH:cc y=true\/(ro=none/\E.N.pin=λ_=>false):=hp.imp (λh=>by simp only[cc,j9]at h;exact h.2) id;split at h
  .rename_i v hv;have lj:=gM hR c;rw[hv]at lj;have uq:a.eval c = .bool v:=mW lj;refine wpIn_cond uq ?_;cases v with
   |true=>
    refine wpIn_mono (mg hT hC hF hE dG oG b n hm (λz hz=>hL z (by simp[dz,hz])) hR hc h) ?_
    rintro e a' w' ⟨refs',ex,σ',S',γ',hle,eA,he,hr⟩
    exact⟨refs',ex,σ',S',γ',hle,λh=>by simp only[cc,j9]at h;exact eA h.1,he,hr⟩
   |false=>
    refine wpIn_mono (mh hT hC hF hE dG oH b n hm (λz hz=>hL z (by simp[dz,hz])) hR hc h) ?_
    rintro e a' w' ⟨refs',ex,σ',S',γ',hle,eA,he,hr⟩
    exact⟨refs',ex,σ',S',γ',hle,λh=>by simp only[cc,j9]at h;exact eA h.2,he,hr⟩
  .simp at h
 |block id c ih=>
  intro E ro hT hC hF hE dG hp b n S0 w0 refs σ a w S γ R k r hm hL hR hc h;simp only[dk]at h;refine wpIn_block (wpIn_mono (ih hT hC hF hE dG hp id n hm (λz hz=>hL z (by simpa[dz]using hz)) hR hc h) ?_)
  rintro e a' w' ⟨refs',ex,σ',S',γ',hle,eA,rfl,aY,bY,hk⟩
  cases ex with
  |normal=>exact⟨refs',.normal,σ',S',γ',hle,eA,rfl,aY,bY,hk⟩
  |exit i=>
   simp only[exOf,Exit.inBlock];simp only at hk;split
   .rename_i hi;rw[if_pos hi]at hk;exact⟨refs',.normal,σ',S',γ',hle,eA,rfl,aY,bY,hk⟩
   .rename_i hi;rw[if_neg hi]at hk;exact⟨refs',.exit i,σ',S',γ',hle,eA,rfl,aY,bY,hk⟩
  |ret=>exact⟨refs',.ret,σ',S',γ',hle,eA,rfl,aY,bY,hk⟩
 |scope c ih=>intro E ro hT hC hF hE dG hp b n S0 w0 refs σ a w S γ R k r hm hL hR hc h;simp only[dk]at h;refine OT (λl a w hq=>?_) (ih hT hC hF hE dG hp b n hm (λz hz=>hL z (by simpa[dz]using hz)) hR hc h);obtain⟨_,ex,_,_,_,_,_,he,_⟩:=hq;cases ex<;>simp[exOf]at he
 |loop c ih=>
  intro E ro hT hC hF hE dG hp b n S0 w0 refs σ a w S γ R k r hm hL hR hc h;have Iq:=hp.resolve_left (by simp[cc]);simp only[dk]at h;cases De:isRf c with
  |true=>rw[De]at h;simp at h
  |false=>
  rw[De,j5]at h;cases fy:E.un b with
  |true=>
   rw[fy,j4]at h;refine CZ (λn a w=>∃refs' σ' S γ,qB w0 refs refs'/\Rel E.N E.np S0 w0 refs' σ' a w S γ/\bQ σ'/\pj (λσ k=>dk E b c σ k) n σ' k=some r) ⟨refs,σ,S,γ,⟨rfl,rfl,rfl,hm,rfl⟩,hR,hc,h⟩ ?_
   rintro m a1 w1 ⟨wX,σ1,S2,γ2,eD,bc,eQ,fo⟩
   cases m with
   |zero=>simp[pj]at fo
   |succ m=>
    simp only[pj]at fo;refine wpIn_mono (ih hT hC hF hE dG (.inr Iq) b n eD.marks (λz hz=>hL z (by simp[dz,hz])) bc eQ fo) ?_
    rintro e2 a2 w2 ⟨dO,ex,σ2,S3,γ3,dB,_,rfl,eU,oz,fB⟩
    cases ex with
    |normal=>exact⟨m,Nat.lt_succ_self m,dO,σ2,S3,γ3,eD.trans dB,eU,oz,fB⟩
    |exit i=>exact⟨dO,.exit i,σ2,S3,γ3,eD.trans dB,λhf=>by simp[cc]at hf,rfl,eU,oz,fB⟩
    |ret=>exact⟨dO,.ret,σ2,S3,γ3,eD.trans dB,λhf=>by simp[cc]at hf,rfl,eU,oz,fB⟩
  |false=>
  rw[fy,j5]at h;split at h
  .rename_i s hs;obtain⟨n1,e,s',hn,hk⟩:=(hL (b,c) (by simp[dz])).1 s R _ r h
   have dx:Bm E b c=rE E b c:=by
    funext s
    cases c<;>first|rfl|simp[isRf]at De
   rw[dx]at hn;obtain⟨S1,γ1,aJ,dP⟩:=nn hR hc hs;refine CZ (λn a w=>∃refs' s S γ,qB w0 refs refs'/\Rel E.N E.np S0 w0 refs' (br E.np (E.keep b) s) a w S γ/\bQ (br E.np (E.keep b) s)/\loopN (rE E b c) n s=some (e,s')) ⟨refs,s,S1,γ1,⟨rfl,rfl,rfl,hm,rfl⟩,aJ,dP,hn⟩ ?_
   rintro m a1 w1 ⟨wX,s1,S2,γ2,eD,bc,eQ,fo⟩
   cases m with
   |zero=>simp[loopN]at fo
   |succ m=>
    simp only[loopN]at fo;cases al:rE E b c s1 with
    |none=>simp[al]at fo
    |some out=>
     rw[al]at fo;unfold rE at al;refine wpIn_mono (ih hT hC hF hE dG (.inr Iq) b n eD.marks (λz hz=>hL z (by simp[dz,hz])) bc eQ al) ?_
     rintro e2 a2 w2 ⟨dO,ex,σ2,S3,γ3,dB,_,rfl,eU,oz,fB⟩
     cases ex with
     |normal=>
      simp only at fB;split at fB
      .rename_i s2 fY;simp only[j3]at fB;subst fB;obtain⟨S4,γ4,jH,jI⟩:=nn eU oz fY;exact⟨m,Nat.lt_succ_self m,dO,s2,S4,γ4,eD.trans dB,jH,jI,fo⟩
      .simp at fB
     |exit i=>
      simp only at fB;split at fB
      .rename_i s2 fY;simp only[j3]at fB;subst fB;obtain⟨S4,γ4,jH,jI⟩:=nn eU oz fY;simp only[j3,j7]at fo;obtain⟨rfl,rfl⟩:=fo;exact⟨dO,.exit i,_,S4,γ4,eD.trans dB,λhf=>by simp[cc]at hf,rfl,jH,jI,hk⟩
      .simp at fB
     |ret=>
      simp only at fB;split at fB
      .rename_i s2 fY;simp only[j3]at fB;subst fB;obtain⟨S4,γ4,jH,jI⟩:=nn eU oz fY;simp only[j3,j7]at fo;obtain⟨rfl,rfl⟩:=fo;exact⟨dO,.ret,_,S4,γ4,eD.trans dB,λhf=>by simp[cc]at hf,rfl,jH,jI,hk⟩
      .simp at fB
  .simp at h
 |rangeFunc g ps x y mg mh=>
  intro E ro hT hC hF hE dG hp b n S0 w0 refs σ a w S γ R k r hm hL hR hc h;obtain⟨rfl,gr⟩:=hp.resolve_left (by simp[cc])
  exact O7 dG gr (λl hx=>mg (E:=E.rnd ps x y) hT hC hF hE dG (.inl hx)) (λl hy=>mh (E:=E.rnd ps x y) hT hC hF hE dG (.inl hy))
   (hL (b,.rangeFunc g ps x y) (by simp[dz])).1 hm hR hc h
 |exit i=>intro E ro hT hC hF hE dG hp b n S0 w0 refs σ a w S γ R k r hm hL hR hc h;exact wpIn_exit ⟨refs,.exit i,σ,S,γ,⟨rfl,rfl,rfl,hm,rfl⟩,λ_=>rfl,rfl,hR,hc,h⟩
 |ret=>intro E ro hT hC hF hE dG hp b n S0 w0 refs σ a w S γ R k r hm hL hR hc h;exact wpIn_ret ⟨refs,.ret,σ,S,γ,⟨rfl,rfl,rfl,hm,rfl⟩,λ_=>rfl,rfl,hR,hc,h⟩
 |goto l=>intro E ro hT hC hF hE dG hp b n S0 w0 refs σ a w S γ R k r hm hL hR hc h;simp[dk]at h
 |refuse y=>intro E ro hT hC hF hE dG hp b n S0 w0 refs σ a w S γ R k r hm hL hR hc h;simp[dk]at h
end
def keyB(es:Array MapEntry):List (Value×Nat):=es.toList.map λe=>(e.key,e.born)
theorem Ir{α:Type}{p q:α->Bool}(h:∀x,q x=true->p x=true):∀l:List α,(l.filter q).length<=(l.filter p).length
 |[]=>jm _
 |x::r=>by
  have ih:=Ir h r;rw[List.filter_cons,List.filter_cons];by_cases hq:q x=true
  .rw[if_pos hq,if_pos (h x hq)];simp only[jn];omega
  .rw[if_neg hq];split
   .simp only[jn];omega
   .exact ih
theorem Is{α:Type}{p q:α->Bool}(h:∀x,q x=true->p x=true):∀l:List α,(∃x∈l,p x=true/\q x≠true)->(l.filter q).length<(l.filter p).length
 |[],hx=>by obtain⟨x,hx,_⟩:=hx;simp at hx
 |y::r,hx=>by
  obtain⟨x,hx,h1,h2⟩:=hx;have hle:=Ir h r;rw[List.filter_cons,List.filter_cons];rcases jf.1 hx with rfl|hx
  .rw[if_neg h2,if_pos h1];simp only[jn];omega
  .have ih:=Is h r ⟨x,hx,h1,h2⟩;by_cases hq:q y=true
   .rw[if_pos hq,if_pos (h y hq)];simp only[jn];omega
   .rw[if_neg hq];split
    .simp only[jn];omega
    .exact ih
theorem wY(seen:Array Nat)(b x:Nat):(seen.push b).contains x=true↔seen.contains x=true\/x=b:=by
 simp
theorem Po{ks:List (Value×Nat)}{seen:Array Nat}{b:Nat}(h:∃q∈ks,q.2=b/\seen.contains q.2=false):(ks.filter λq=> !(seen.push b).contains q.2).length<(ks.filter λq=> !seen.contains q.2).length:=by
 refine Is (λx hx=>?_) ks ?_
 .rw[ke]at hx ⊢;cases hs:seen.contains x.2 with
  |false=>rfl
  |true=>have:=(wY seen b x.2).2 (.inl hs);rw[hx]at this;simp at this
 .obtain⟨q,hq,h1,h2⟩:=h;refine⟨q,hq,by rw[h2];rfl,?_⟩;rw[(wY seen b q.2).2 (.inr h1)];simp
structure AtR(g r it since clock:Nat)(ks:List (Value×Nat))(es:Array MapEntry)(seen:Array Nat)(a:Go.Act)(w:World):Prop where
 map:w.heap[g]? = some (.map es clock)
 ks:keyB es=ks
 iter:w.heap[r]? = some (.mapIter (some g) since seen clock)
 ptr:tm a it = .pointer (some ⟨r,0,none⟩)
theorem Pp{P:Program}{ro:Option Nat}(dG:ro=none){n0 g r it d1 c2 b since clock oK:Nat}{ks:List (Value×Nat)}{o1 o2:Oper}{body:Code}{Q:Exit->Go.Act->World->Prop}
  (eX:o1.op = .next (.tmp it) false)(mX:o1.dst=some d1)(ga:o1.guard=none)(sg:o2.op = .extract (.tmp d1) 0)(jY:o2.dst=some c2)(dp:o2.guard=none)(Pq:it≠d1)(Pr:it≠c2)(gD:g≠r)
  (Ps:since<=clock)(hold:∀q∈ks,q.2<since)(N:Nat)(gE:d1<N)(tU:c2<N)
  (J:Array MapEntry->Array Nat->Go.Act->World->Prop)(hJ:∀es seen a w,J es seen a w->a.tmps.size=N)
  (ea:∀es seen a w v v',AtR g r it since clock ks es seen a w->J es seen a w->(∀x∈es.toList,seen.contains x.born=true)->Q (.exit b) ((a.put (some d1) v).put (some c2) v') w)
  (dx:∀es seen a w w1 v v' e,AtR g r it since clock ks es seen a w->J es seen a w->e∈es.toList->seen.contains e.born=false->(w1=w\/w1=w.drew)->
   AtR g r it since clock ks es (seen.push e.born) ((a.put (some d1) v).put (some c2) v') (ChangeMaps.setBlock w1 r (.mapIter (some g) since (seen.push e.born) clock))->
   body.wpIn (FR ro) n0 P (Exit.then (λa' w'=>∃es',AtR g r it since clock ks es' (seen.push e.born) a' w'/\J es' (seen.push e.born) a' w') Q) ((a.put (some d1) v).put (some c2) v') (ChangeMaps.setBlock w1 r (.mapIter (some g) since (seen.push e.born) clock)))
  {es:Array MapEntry} {seen:Array Nat} {a:Go.Act} {w:World} (h0:AtR g r it since clock ks es seen a w) (wT:J es seen a w) :
  (Code.loop ((Code.region oK #[o1,o2] false).seq ((Code.cond (.tmp c2) .skip (.exit b)).seq body))).wpIn (FR ro) n0 P Q a w:=by
 refine CZ (λn a w=>∃es seen,AtR g r it since clock ks es seen a w/\J es seen a w/\n=(ks.filter λq=> !seen.contains q.2).length) ⟨es,seen,h0,wT,rfl⟩ ?_
 rintro n a w ⟨es,seen,hA,Df,rfl⟩
 subst dG;have bb:=hJ _ _ _ _ Df
 have wZ:∀x∈es.toList,x.born<since:=λx hx=>by
  have:(x.key,x.born)∈keyB es:=k9.2 ⟨x,hx,rfl⟩;rw[hA.ks]at this;exact hold _ this
 have lj:a.eval (.tmp it) = .pointer (some ⟨r,0,none⟩):=hA.ptr
 have two:∀(v v':Value)(w':World),(execOp a.eval o1).run P w = .ok (.value v) w'->(execOp (a.put (some d1) v).eval o2).run P w' = .ok (.value v') w'->
   ((Code.cond (.tmp c2) .skip (.exit b)).seq body).wpIn (FR none) n0 P (Exit.then (λa' w'=>∃m,m<(ks.filter λq=> !seen.contains q.2).length/\∃es seen,AtR g r it since clock ks es seen a' w'/\J es seen a' w'/\m=(ks.filter λq=> !seen.contains q.2).length) Q) ((a.put (some d1) v).put (some c2) v') w'->
   ((Code.region oK #[o1,o2] false).seq ((Code.cond (.tmp c2) .skip (.exit b)).seq body)).wpIn (FR none) n0 P (Exit.then (λa' w'=>∃m,m<(ks.filter λq=> !seen.contains q.2).length/\∃es seen,AtR g r it since clock ks es seen a' w'/\J es seen a' w'/\m=(ks.filter λq=> !seen.contains q.2).length) Q) a w:=by
  intro v v' w' h1 h2 h3;refine wpIn_seq (wpIn_mono (Q:=λe a' mV=>e = .normal/\a'=(a.put (some d1) v).put (some c2) v'/\mV=w') (wpIn_region (p8 (.inl rfl) (by rintro⟨a,w,h,_⟩;cases h) _ _ _ ?_)) ?_)
  .show wpOps P #[o1,o2] _ [0,1] a w;have e0:(#[o1,o2]:Array Oper)[0]? = some o1:=rfl;have e1:(#[o1,o2]:Array Oper)[1]? = some o2:=rfl;have w0:∀tm,Region.wanted o1 (yielded #[o1,o2] tm)=true:=λtm=>by simp[Region.wanted,ga]
   have w1:∀tm,Region.wanted o2 (yielded #[o1,o2] tm)=true:=λtm=>by simp[Region.wanted,dp]
   simp only[wpOps,e0,e1,w0,w1,if_true];refine .inl ?_;unfold Oper.wp;rw[h1,Oper.upon_value,mX];refine .inl ?_;rw[h2,Oper.upon_value,jY];exact⟨trivial,rfl,rfl⟩
  .rintro e a' mV ⟨rfl,rfl,rfl⟩
   exact h3
 have w6:∀(v:Value)(t:Array Value)(w':World)(x:Value),v = .tuple t->t[0]? = some x->(execOp (a.put (some d1) v).eval o2).run P w' = .ok (.value x) w':=by
  intro v t w' x hv ht;have:(a.put (some d1) v).eval (.tmp d1)=v:=by show tm (a.put (some d1) v) d1=v;rw[kH (by omega),if_pos rfl]
  subst hv;simp only[execOp,sg,this,Instr.extract,ht];simp
 have gp:∀v v',(((a.put (some d1) v).put (some c2) v').eval (.tmp c2))=v':=λv v'=>by
  show tm _ c2=v';rw[kH (by rw[ni];omega),if_pos rfl]
 rcases run_next_at (P:=P) w o1.type r g since clock seen es clock hA.iter hA.map wZ Ps with⟨h0,ai⟩|⟨e,he,w1,kI,ai⟩
 .refine two (.tuple #[.bool false]) (.bool false) w (by simp[execOp,eX,lj,ai,Result.andThen]) (w6 (.tuple #[.bool false]) #[.bool false] w (.bool false) rfl rfl) (wpIn_seq (wpIn_cond_false (gp _ _) (wpIn_exit ?_)));refine ea es seen a w _ _ hA Df (λx hx=>?_);cases hs:seen.contains x.born with
  |true=>rfl
  |false=>
   have It:x∈(leftOf es seen).toList:=by unfold leftOf;rw[Array.toList_filter];exact List.mem_filter.2 ⟨hx,by rw[hs];rfl⟩
   have:(leftOf es seen).toList=[]:=kq.1 (by simpa using h0);rw[this]at It;simp at It
 .have jW:e∈es.toList/\seen.contains e.born=false:=by unfold leftOf at he;simpa using he
  have nx:AtR g r it since clock ks es (seen.push e.born) ((a.put (some d1) (.tuple #[.bool true,e.key,e.val])).put (some c2) (.bool true)) (ChangeMaps.setBlock w1 r (.mapIter (some g) since (seen.push e.born) clock)):=by
   have ew:w1.heap[g]? = some (.map es clock):=by rcases kI with rfl|rfl<;>exact hA.map
   have Dg:w1.heap[r]? = some (.mapIter (some g) since seen clock):=by rcases kI with rfl|rfl<;>exact hA.iter
   have ax:r<w1.heap.size:=(jb.1 Dg).1;refine⟨?_,hA.ks,?_,?_⟩
   .show (w1.heap.setIfInBounds r _)[g]? = _;rw[Array.getElem?_setIfInBounds_ne (Ne.symm gD)];exact ew
   .show (w1.heap.setIfInBounds r _)[r]? = _;rw[Array.getElem?_setIfInBounds_self_of_lt ax]
   .rw[kH (by rw[ni];omega),if_neg Pr,kH (by omega),if_neg Pq];exact hA.ptr
  refine two (.tuple #[.bool true,e.key,e.val]) (.bool true) (ChangeMaps.setBlock w1 r (.mapIter (some g) since (seen.push e.born) clock)) (by simp[execOp,eX,lj,ai,Result.andThen]) (w6 (.tuple #[.bool true,e.key,e.val]) #[.bool true,e.key,e.val] _ (.bool true) rfl rfl) (wpIn_seq (wpIn_cond_true (gp _ _) (wpIn_skip ?_)));refine wpIn_mono (dx es seen a w w1 _ _ e hA Df jW.1 jW.2 kI nx) ?_;intro ex a' w' hq;cases ex with
  |normal=>obtain⟨es',q1,q2⟩:=hq;exact⟨_,Po (ks:=ks) (seen:=seen) (b:=e.born) ⟨(e.key,e.born),by rw[<-hA.ks];exact k9.2 ⟨e,jW.1,rfl⟩,rfl,jW.2⟩,es',seen.push e.born,q1,q2,rfl⟩
  |_=>exact hq
section
variable{N:NT}{np:Nat}{S0:an}{w0:World}{refs:Refs}{σ:St}{a:Go.Act}{w:World}{S:an}{γ:Nat->Value}
theorem Iu{P:Program}{E:Env}(hT:bt P E.T)(hC:gn P E.C){ops:Array Oper}(bI:bare ops=true){R:Type}{k:St->Option R}{r:R}{Q:Exit->Go.Act->World->Prop}{rest:List Nat}
  (hn:∀σ' a' w' S' γ',Rel E.N E.np S0 w0 refs σ' a' w' S' γ'->bQ σ'->k σ'=some r->wpOps P ops Q rest a' w') :
  ∀(n i:Nat)(σ:St)(a:Go.Act)(w:World)(S:an)(γ:Nat->Value),i+n<=ops.size->Rel E.N E.np S0 w0 refs σ a w S γ->bQ σ->mU E ((ops.toList.drop i).take n) σ k=some r->
   wpOps P ops Q (List.range' i n++rest) a w
 |0,i,σ,a,w,S,γ,hi,hR,hc,h=>by
  rw[List.take_zero]at h;exact hn _ _ _ _ _ hR hc h
 |n+1,i,σ,a,w,S,γ,hi,hR,hc,h=>by
  have ax:i<ops.size:=by omega
  rw[jo (by simpa using ax),List.take_succ_cons]at h;simp only[mU]at h;split at h
  .rename_i hd;have ho:ops[i]? = some ops[i]:=jr ax;simp only[qo,kj,wpOps,ho];have hg:ops[i].guard=none:=by have:=ji.1 bI ops[i] (by simp);simpa using this
   have hw:Region.wanted ops[i] (yielded ops a.tmps)=true:=by simp[Region.wanted,hg]
   simp only[hw,if_true];refine .inl (wv hT hC hR (act:=[]) (λg hg=>by simp at hg) (p:=false) (λ_=>hc) (by simpa using hd) (by simpa using h) (λσ' a' w' S' γ' aY bY hk=>?_));exact Iu hT hC bI hn n (i+1) σ' a' w' S' γ' (by omega) aY (bY rfl) hk
  .simp at h
theorem Iv{β:Type}:∀{zs:List (Int×β)}{j:Nat}{x:Int×β},(zs.map λx=>x.1).Nodup->zs[j]? = some x->∀y,@gx _ _ (Ty.int .i64).keq zs x.1 y=zs.set j (x.1,y)
 |[],j,x,_,h,y=>by simp at h
 |z::r,0,x,_,h,y=>by
  have h:z=x:=by simpa using h
  subst h;show cond ((z.1:Int)==z.1) ((z.1,y)::r) _=(z.1,y)::r;rw[beq_self_eq_true];rfl
 |z::r,j+1,x,hn,h,y=>by
  have h:r[j]? = some x:=by simpa using h
  have hc:=q7.1 (show (z.1::r.map λx=>x.1).Nodup from hn);have aG:¬(x.1:Int)=z.1:=λhe=>hc.1 (he▸k9.2 ⟨x,jv h,rfl⟩);show cond ((x.1:Int)==z.1) _ (z::@gx _ _ (Ty.int .i64).keq r x.1 y)=z::r.set j (x.1,y);rw[beq_false_of_ne aG,j5,Iv hc.2 h y]
theorem Iw(hR:Rel N np S0 w0 refs σ a w S γ){nm em:Nat}{v:Ty}{zs:List (Int×v.den)}(ow:isM em=true)(hb:σ.bx nm = .live (.lst em (.pair (.int .i64) v) zs false)) :
  ∃g es clock,γ nm = .map (some g)/\w.heap[g]? = some (.map es clock)/\All2 (sa S w (.int .i64) v) zs es.toList/\pr es clock:=by
 rcases (hR.box nm _ hb).1 with⟨hm,_⟩|⟨_,hm⟩
 .rw[ow]at hm;simp at hm
 .exact hm
theorem Ix{es:Array MapEntry}{clock:Nat}(h:pr es clock){j:Nat}{e:MapEntry}(he:es.toList[j]? = some e):e.born=j:=by
 have h1:(es.toList.map (·.born))[j]? = some e.born:=by simp[he]
 rw[h.2]at h1;have h2:=(jk.1 h1).2;simpa using h2.symm
theorem w7{es:Array MapEntry}{clock:Nat}(h:pr es clock):es.toList.length=clock:=by
 have:=congrArg List.length h.2;simpa using this
theorem Pt{es es':Array MapEntry}(h1:es'.toList.map (·.key)=es.toList.map (·.key))(h2:es'.toList.map (·.born)=es.toList.map (·.born)):keyB es'=keyB es:=by
 have hz:∀es:Array MapEntry,keyB es=(es.toList.map (·.key)).zip (es.toList.map (·.born)):=λes=>by
  unfold keyB;rw[List.zip_map']
 rw[hz,hz,h1,h2]
structure Mix{β:Type}(xs ys:List (Int×β))(seen:Array Nat)(zs:List (Int×β)):Prop where
 len:zs.length=xs.length
 get:∀i,zs[i]? = if seen.contains i=true then ys[i]? else xs[i]?
theorem Pu{β:Type}{Z:Int×β->Int×β->Prop}:∀{xs ys:List (Int×β)},All2 (λx y=>y.1=x.1/\Z x y) xs ys->xs.length=ys.length/\∀(j:Nat)(x:Int×β),xs[j]? = some x->∃y,ys[j]? = some y/\y.1=x.1/\Z x y:=
 λh=>⟨h.length,λj x hx=>h.get j x hx⟩
theorem Pv{b:Nat}{c:Code}{p:MrP}(h:mrP b c=some p):∃oK r3 o1 o2 o3,c = .seq (.region oK #[o1,o2] false) (.seq (.cond (.tmp p.c2) .skip (.exit b)) (.block p.b6 (.seq (.region r3 p.ops false) p.rest)))/\
  o1.op = .next (.tmp p.it) false/\o1.dst=some p.d1/\o1.guard=none/\o2.op = .extract (.tmp p.d1) 0/\o2.dst=some p.c2/\o2.guard=none/\p.ops[0]? = some o3/\o3.op = .entry (.tmp p.it)/\o3.dst=some p.d3/\o3.guard=none:=by
 unfold mrP at h;split at h
 case h_2=>simp at h
 rename_i oK ops c b' b6 r3 nO rest;split at h
 case h_2=>simp at h
 rename_i o1 o2 o3 l3 sH w8;split at h
 case h_2=>simp at h
 rename_i it d1 FU c2 FV d3 h1 h2 h3;split at h
 case isFalse=>simp at h
 rename_i aV;obtain⟨rfl,rfl,rfl,rfl⟩:=aV;simp only[j3]at h;subst h;have sH:ops = #[o1,o2]:=k8 (by simpa using sH);subst sH;have e3:nO[0]? = some o3:=by rw[<-z5,w8];rfl
 unfold FT at h1;split at h1
 case h_2=>simp at h1
 rename_i q1 q2 q3;simp only[j3,j7]at h1;obtain⟨rfl,rfl⟩:=h1;unfold fstO at h2;split at h2
 case h_2=>simp at h2
 rename_i p1 p2 p3;simp only[j3,j7]at h2;obtain⟨rfl,rfl⟩:=h2;unfold entO at h3;split at h3
 case h_2=>simp at h3
 rename_i s1 s2 s3;simp only[j3,j7]at h3;obtain⟨rfl,rfl⟩:=h3;exact⟨oK,r3,o1,o2,o3,rfl,q1,q2,q3,p1,p2,p3,e3,s1,s2,s3⟩
theorem nbeq{i j:Nat}(h:Nat.beq i j=false):i≠j:=by
 rintro rfl
 rw[Nat.beq_refl]at h;simp at h
theorem beqF{i j:Nat}(h:i≠j):Nat.beq i j=false:=by
 cases hq:Nat.beq i j with
 |false=>rfl
 |true=>exact absurd (z6 hq) h
theorem Px{P:Program}(eG:P.follows .mixedOrders=true)(um:Nat->Option (Nat×Nat)):MrS P um:=by
 intro E hE hT hC hF eF gr x y b n pl S0 w0 refs σ a w S γ R k r hm Py hR hc mo h;unfold vf at h;split at h
 case h_2=>simp at h
 rename_i oK ops bl c;split at h
 case h_2=>simp at h
 rename_i m nm p o wW hp bL;split at h
 case h_2=>simp at h
 rename_i t m1 it aU wO;cases tI:(bare ops&&(Nat.beq it p.it&&(mrC E bl p m&&(lx E.T t).isSome))) with
 |false=>rw[tI]at h;simp at h
 |true=>
 rw[tI,j4]at h;simp only[j9]at tI;obtain⟨bI,pZ,yD,aD⟩:=tI;obtain rfl:it=p.it:=z6 pZ;have Pz:=Py (bl,c) (by simp[dz]) m nm p wW hp;unfold mrC at yD;simp only[j9,ke,kg,kb]at yD;obtain⟨Dh,Di,n1,n2,n3,n4,n5,n6,n7,l1,l2,l3,l4,k1,k2,k3⟩:=yD;have n1:=nbeq n1;have n2:=nbeq n2;have n3:=nbeq n3;have n4:=nbeq n4;have n5:=nbeq n5;have n6:=nbeq n6;have n7:=nbeq n7;have l1:p.it<E.N.n:=qr l1;have l2:p.d1<E.N.n:=qr l2;have l3:p.c2<E.N.n:=qr l3;have l4:p.d3<E.N.n:=qr l4;obtain⟨PA,r3,o1,o2,o3,Dj,q1,q2,q3,p1,p2,p3,e3,s1,s2,s3⟩:=Pv hp;refine wpIn_seq (wpIn_mono (Q:=λe a2 w2=>e = .normal/\(Code.block bl (.loop c)).wpIn (FR none) n P (Post E S0 w0 refs pl k r) a2 w2) (wpIn_region (p8 (.inl rfl) (by rintro⟨a,w,h,_⟩;cases h) _ _ _ ?_)) ?_)
 rotate_left
 .rintro e a2 w2 ⟨rfl,h⟩;exact h
 obtain⟨pre,mq⟩:=List.getLast?_eq_some_iff.1 bL;have bb:ops.size=pre.length+1:=by rw[<-kz,mq];simp
 rw[List.range_eq_range',bb,List.range'_concat];refine Iu hT hC bI (k:=mrGo E bl m m1 k) (r:=r) (λσ1 a1 w1 S1 γ1 aJ dP iC=>?_) pre.length 0 σ a w S γ (by omega) hR hc (by rw[mq,List.dropLast_concat]at h;rw[mq,qx,ze];exact h;rfl);have ho:ops[0+1*pre.length]? = some o:=by rw[<-z5,mq];simp
 have hg:o.guard=none:=by have:=ji.1 bI o (by rw[mq];simp);simpa using this
 have hw:Region.wanted o (yielded ops a1.tmps)=true:=by simp[Region.wanted,hg]
 simp only[wpOps,ho,hw,if_true];refine .inl ?_;unfold mrGo at iC;split at iC
 case h_2=>simp at iC
 rename_i bm Iy ew zu;cases uq:(Nat.beq bm Iy&&Bl (σ1.bx bm)) with
 |false=>rw[uq]at iC;simp at iC
 |true=>
 rw[uq,j4]at iC;simp only[j9]at uq;obtain⟨zq,w9⟩:=uq;obtain rfl:bm=Iy:=z6 zq;split at iC
 case h_2=>simp at iC
 rename_i s hs;obtain⟨em,v,xs,ys,ow,PB,sJ,zv,hk⟩:=Pz s R _ r iC;obtain⟨S2,γ2,bc,eQ⟩:=nn aJ dP hs;rw[PB]at bc eQ;obtain⟨g,es,clock,dp,tT,xa,bO⟩:=Iw bc ow (sJ xs).1
 have PC:∃bx,σ1.bx bm = .live bx:=by
  unfold Bl at w9;split at w9
  .rename_i hb;exact⟨_,hb⟩
  .simp at w9
 obtain⟨bx,cU⟩:=PC;have Co:tm a1 m1=γ1 bm:=by have:=aJ.slot m1;rw[ew]at this;exact this.1.2.2 _ cU
 have Dk:tm a1 m=γ1 bm:=by have:=aJ.slot m;rw[zu]at this;exact this.1.2.2 _ cU
 have PD:tm a1 m=γ2 nm:=by have:=bc.slot m;rw[(sJ xs).2]at this;exact this.1.2.2 _ (sJ xs).1
 have tZ:tm a1 m = .map (some g):=PD.trans dp;have lj:a1.eval (.tmp m1) = .map (some g):=Co.trans (Dk.symm.trans tZ)
 obtain⟨ky,kv,PE⟩:∃ky kv,lx E.T t=some (ky,kv):=by
  cases hq:lx E.T t with
  |none=>rw[hq]at aD;simp at aD
  |some q=>exact⟨q.1,q.2,rfl⟩
 obtain⟨kt,vt,tv,dS,_⟩:=Cn hT PE;have ai:=run_range_map (P:=P) w1 t kt vt g es clock dS tT;obtain⟨rr,Dl⟩:∃rr,rr=w1.heap.size:=⟨_,rfl⟩;rw[<-Dl]at ai;have jG:(execOp a1.eval o).run P w1 = .ok (.value (.pointer (some ⟨rr,0,none⟩))) (w1.alloc (.mapIter (some g) clock #[] clock)):=by simp[execOp,aU,lj,ai,Result.andThen]
 unfold Oper.wp;rw[jG,Oper.upon_value,wO];refine⟨trivial,?_⟩;let fx:Nat->Option Value:=λi=>if i=p.it then some (.pointer (some ⟨rr,0,none⟩)) else if i=m then some (.map (some g)) else none
 let df:Array Nat->Refs:=λseen=>{ blks:=refs.blks,val:=refs.val,ds:=refs.ds,kw:=λx=>if x=rr then some (.mapIter (some g) clock seen clock) else refs.kw x,fix:=fx,mv:=refs.mv }
 let N':NT:=(E.mrE p.it m).N
 have ix:refs.kw rr=none:=aJ.kw_new (by omega);have PF:w0.heap.size<=rr:=by have:=aJ.grow;omega
 have aB:∀seen,sD w0 (df seen):=λseen=>⟨hm.1,λd hd=>by
  obtain⟨D,hD,PG,uj⟩:=hm.2 d hd;refine⟨D,hD,PG,?_⟩;show (if D=rr then _ else refs.kw D)=_;rw[if_neg,uj]
  rintro rfl
  rw[ix]at uj;simp at uj⟩
 have gD:g≠rr:=by have:=(jb.1 tT).1;omega
 have fA:∀{seen seen':Array Nat}{σ:St}{a:Go.Act}{W:World}{S:an}{γ:Nat->Value},Rel N' E.np S0 w0 (df seen) σ a W S γ->Rel N' E.np S0 w0 (df seen') σ a (W.putObj rr (.mapIter (some g) clock seen' clock)) S γ:=by
  intro seen seen' σ a W S γ hR;have:=hR.putO (l:=rr) (o:= .mapIter (some g) clock seen clock) (o':= .mapIter (some g) clock seen' clock) (by simp[df]) PF rfl rfl;refine this.swap rfl rfl this.size this.defers this.slot (λg u hg=>this.kept g u ?_) this.fix;simp only[df]at hg ⊢;split
  .rename_i e;subst e;simpa using hg
  .rename_i e;simpa[e]using hg
 have Dm:N'.pin p.it=true:=by show (Nat.beq p.it p.it||Nat.beq p.it m)=true;rw[Nat.beq_refl];rfl
 have wG:N'.pin m=true:=by show (Nat.beq m p.it||Nat.beq m m)=true;rw[Nat.beq_refl,Bool.or_true]
 have Iz:∀{a':Go.Act},tm a' p.it = .pointer (some ⟨rr,0,none⟩)->tm a' m = .map (some g)->∀i u,fx i=some u->N'.pin i=true/\a'.tmps.getD i undef=u:=by
  intro a' h1 h2 i u hu;simp only[fx]at hu;split at hu
  .rename_i e;subst e;simp only[j3]at hu;exact⟨Dm,h1.trans hu⟩
  .split at hu
   .rename_i e;subst e;simp only[j3]at hu;exact⟨wG,h2.trans hu⟩
   .simp at hu
 have Dn:a1.tmps.size=E.N.n:=aJ.size;let a2:Go.Act:=a1.put (some p.it) (.pointer (some ⟨rr,0,none⟩))
 have ur:∀j,tm a2 j=if j=p.it then .pointer (some ⟨rr,0,none⟩) else tm a1 j:=λj=>kH (by omega) _ j
 have PH:Rel N' E.np S0 w0 (df #[]) (br E.np (E.keep bl) (dW s em v xs)) a2 (w1.alloc (.mapIter (some g) clock #[] clock)) S2 γ2:=by
  have hA:=bc.allocO (.mapIter (some g) clock #[] clock);refine hA.frame rfl rfl ((ni _ _).trans Dn) ((ue _ _).trans aJ.defers) (λi hi=>?_) (λg' u ae=>?_) (Iz ?_ ?_)
  .have z:i≠p.it:=λe=>k1 (e▸hi);rw[ur,if_neg z]
  .simp only[df]at ae;split at ae
   .rename_i e';simp only[j3]at ae;subst ae;rw[e',Dl];refine⟨World.alloc_heap_new _ _,λk' b' aj bH=>?_⟩;have:=fj (bc.box k' b' aj) bH;omega
   .exact hA.kept g' u ae
  .rw[ur,if_pos rfl]
  .rw[ur,if_neg n4];exact tZ
 have Dp:AtR g rr p.it clock clock (keyB es) es #[] a2 (w1.alloc (.mapIter (some g) clock #[] clock)):=by
  refine⟨(heap_alloc_old _ _ (jb.1 tT).1).trans tT,rfl,?_,?_⟩
  .rw[Dl];exact World.alloc_heap_new _ _
  .rw[ur,if_pos rfl]
 let J:Array MapEntry->Array Nat->Go.Act->World->Prop:=λes' seen a w=>∃(zs:List (Int×v.den))(S:an)(γ:Nat->Value),Rel N' E.np S0 w0 (df seen) (br E.np (E.keep bl) (dW s em v zs)) a w S γ/\
  bQ (br E.np (E.keep bl) (dW s em v zs))/\Mix xs ys seen zs/\pr es' clock
 have kB:xs.length=clock:=by rw[xa.length,w7 bO]
 obtain⟨PI,Dq⟩:=Pu zv;have wT:J es #[] a2 (w1.alloc (.mapIter (some g) clock #[] clock)):=⟨xs,S2,γ2,PH,eQ,⟨rfl,λi=>by simp⟩,bO⟩
 have IA:∀{es':Array MapEntry}{seen:Array Nat}{a:Go.Act}{w:World}{zs:List (Int×v.den)}{S:an}{γ:Nat->Value},Rel N' E.np S0 w0 (df seen) (br E.np (E.keep bl) (dW s em v zs)) a w S γ->
   ∃es' cW,γ nm = .map (some g)/\w.heap[g]? = some (.map es' cW)/\All2 (sa S w (.int .i64) v) zs es'.toList/\pr es' cW:=by
  intro es' seen a w zs S γ hR;obtain⟨g',es',cW,h1,h2,h3,h4⟩:=Iw hR ow (sJ zs).1;have h5:tm a m=γ nm:=by have:=hR.slot m;rw[(sJ zs).2]at this;exact this.1.2.2 _ (sJ zs).1
  have h6:tm a m = .map (some g):=(hR.fix m (.map (some g)) (by show (if m=p.it then _ else if m=m then _ else _)=_;rw[if_neg n4,if_pos rfl])).2;have:g'=g:=by rw[h5,h1]at h6;simpa using h6
  subst this;exact⟨es',cW,h1,h2,h3,h4⟩
 subst Dj
 refine wpIn_block (wpIn_mono (Pp (P:=P) (ro:=none) rfl (Q:=λe a' w'=>e = .exit bl/\∃S' γ',Rel E.N E.np S0 w0 refs (br E.np (E.keep bl) (dW s em v ys)) a' w' S' γ'/\bQ (br E.np (E.keep bl) (dW s em v ys)))
  q1 q2 q3 p1 p2 p3 n1 n2 gD (jm clock) (λq hq=>?_) E.N.n l2 l3 J (λes' seen a' w' hJ=>?_) ?_ ?_ Dp wT) ?_)
 .obtain⟨e,he,rfl⟩:=k9.1 hq;exact bO.1.1 e he
 .obtain⟨zs,S',γ',aY,_⟩:=hJ;exact aY.size
 ·-- the end
  rintro es' seen a' w' u u' hA ⟨zs,S',γ',aY,bY,e7,lJ⟩ cA
  have wi:zs=ys:=by
   refine z7 λi=>?_;rw[e7.get i];split
   .rfl
   .rename_i uu;by_cases hi:i<clock
    .exfalso;have ax:i<es'.toList.length:=by rw[w7 lJ];exact hi
     have hb:=Ix lJ (jt ax);have:=cA _ (qh ax);rw[hb]at this;exact uu this
    .rw[qp (by omega),qp (by omega)]
  subst wi;refine⟨rfl,S',γ',aY.frame rfl rfl ?_ ?_ (λi hi=>?_) (λg' o' ae=>?_) (λi u hu=>?_),bY⟩
  .rw[ni,ni];exact aY.size
  .rw[ue,ue];exact aY.defers
  .have z1:i≠p.c2:=λe=>k3 (e▸hi);have z2:i≠p.d1:=λe=>k2 (e▸hi);have z3:a'.tmps.size=E.N.n:=aY.size;rw[kH (by rw[ni];omega),if_neg z1,kH (by omega),if_neg z2]
  .refine aY.kept g' o' ?_;show (if g'=rr then _ else refs.kw g')=_;rw[if_neg]
   .exact ae
   .rintro rfl
    rw[ix]at ae;simp at ae
  .have:=(hR.fix i u hu).1;rw[gr]at this;simp at this
 ·-- a round
  rintro es' seen a' w' xb u u' e hA ⟨zs,S',γ',aY,bY,e7,lJ⟩ he uu kI nx
  have Dr:a'.tmps.size=E.N.n:=aY.size;obtain⟨zw,cd,PJ,Ds,cA,fQ⟩:=IA (es':=es') aY;have:zw=es'/\cd=clock:=by have:=hA.map;rw[Ds]at this;simpa using this
  obtain⟨rfl,rfl⟩:=this;obtain⟨j,hj⟩:=qf.1 he;have Dt:e.born=j:=Ix fQ hj;have oc:j<xs.length:=by have:=(jk.1 hj).1;rw[kB,<-w7 fQ];exact this
  have sc:zs[j]? = xs[j]? := by
   rw[e7.get j,if_neg];rw[<-Dt,uu];simp
  obtain⟨x,hx⟩:∃x,xs[j]? = some x:=⟨_,jt oc⟩;obtain⟨e',uc,IB,rP⟩:=cA.get j x (sc.trans hx);obtain rfl:e'=e:=by rw[hj]at uc;exact(Option.some.inj uc).symm
  obtain⟨y,hy,IC,sE⟩:=Dq j x hx;have ck:(zs.map λx=>x.1).Nodup:=by have h1:=fQ.1.2.2;rw[wL cA]at h1;exact(List.pairwise_map.1 h1).imp λh e=>h (by rw[e])
  have ID:Rel N' E.np S0 w0 (df seen) (br E.np (E.keep bl) (dW s em v zs)) a' xb S' γ':=by
   rcases kI with rfl|rfl
   .exact aY
   .exact aY.drawn _
  have Du:VRep S' xb ⟨v,x.2⟩ e'.val:=by
   rcases kI with rfl|rfl
   .exact rP
   .exact VRep.keep (S:=S') (w:=w') (S':=S') (w':=w'.drew) (λg o hs=>⟨hs,rfl⟩) rP
  have Dv:=fA (seen':=seen.push e'.born) ID;obtain⟨w2,qH⟩:∃w2,xb.putObj rr (.mapIter (some g) cd (seen.push e'.born) cd)=w2:=⟨_,rfl⟩;have nx:AtR g rr p.it cd cd (keyB es) zw (seen.push e'.born) ((a'.put (some p.d1) u).put (some p.c2) u') w2:=by rw[<-qH];exact nx
  show (Code.block p.b6 _).wpIn (FR none) n P _ _ (xb.putObj rr (.mapIter (some g) cd (seen.push e'.born) cd));rw[qH]at Dv ⊢;obtain⟨a3,zA⟩:∃a3,(a'.put (some p.d1) u).put (some p.c2) u'=a3:=⟨_,rfl⟩;rw[zA]at nx ⊢
  have Dw:∀j,tm a3 j=if j=p.c2 then u' else if j=p.d1 then u else tm a' j:=λj=>by
   rw[<-zA,kH (by rw[ni];omega),kH (by omega)]
  have Dx:a3.tmps.size=E.N.n:=by rw[<-zA,ni,ni];exact Dr
  have px:tm a' p.it = .pointer (some ⟨rr,0,none⟩):=hA.ptr;have oA:tm a' m = .map (some g):=(aY.fix m (.map (some g)) (by show (if m=p.it then _ else if m=m then _ else _)=_;rw[if_neg n4,if_pos rfl])).2
  have eU:Rel N' E.np S0 w0 (df (seen.push e'.born)) (br E.np (E.keep bl) (dW s em v zs)) a3 w2 S' γ':=by
   refine Dv.frame rfl rfl Dx (by rw[<-zA,ue,ue];exact aY.defers) (λi hi=>?_) (λg' o' ae=>Dv.kept g' o' ae) (Iz ?_ ?_)
   .have z1:i≠p.c2:=λe=>k3 (e▸hi);have z2:i≠p.d1:=λe=>k2 (e▸hi);rw[Dw,if_neg z1,if_neg z2]
   .rw[Dw,if_neg n2,if_neg n1];exact px
   .rw[Dw,if_neg n6,if_neg n5];exact oA
  have od:cm S' xb S' w2:=λg' o' dE=>by
   refine⟨dE,?_⟩;have hq:=(ID.kept rr (.mapIter (some g) cd seen cd) (by show (if rr=rr then _ else _)=_;rw[if_pos rfl])).1;by_cases mY:g'=rr
   .subst mY;rw[zo hq rfl,<-qH,zo (World.putObj_heap_same (jb.1 hq).1) rfl]
   .rw[<-qH];exact World.cell?_of_block (World.putObj_heap_other mY)
  have Dy:e'.key = .int .i64 x.1:=by have:[e'.key]=[Value.int .i64 x.1]:=IB;simpa using this
  have Dz:=run_entry_at (P:=P) w2 rr g cd seen zw cd e' nx.iter nx.map he fQ.1.2.1;have DA:a3.eval (.tmp p.it) = .pointer (some ⟨rr,0,none⟩):=nx.ptr;have xc:(execOp a3.eval o3).run P w2 = .ok (.value (.tuple #[e'.key,e'.val])) w2:=by simp[execOp,s1,DA,Dz,Result.andThen]
  obtain⟨jH,jI⟩:=uf eU bY (dst:=some p.d3) (λd hd=>by
   simp only[j3]at hd;subst hd;refine⟨l4,?_⟩;show (Nat.beq p.d3 p.it||Nat.beq p.d3 m)=false;rw[Bool.or_eq_false_iff];exact⟨beqF (Ne.symm n3),beqF (Ne.symm n7)⟩) (s:= .tup [.one (.d (.int .i64) x.1),iR v x.2]) (v:= .tuple #[e'.key,e'.val]) (by
   refine⟨#[e'.key,e'.val],rfl,⟨IB,λ_=>by rw[Dy];rfl⟩,?_,trivial⟩;exact rY (x:=⟨v,x.2⟩) (VRep.keep od Du)) rfl
  have xd:=sE zs;unfold tE at xd;have DB:p.ops.size=(p.ops.size-1)+1:=by have:=(jb.1 e3).1;omega
  have PK:Region.wanted o3 (yielded p.ops a3.tmps)=true:=by simp[Region.wanted,s3]
  have DC:MrS P (λ_=>none):=by
   intro E hE _ _ _ _ _ x y _ _ _ _ _ _ _ _ _ _ _ _ _ _ _ _ _ _ mo _;unfold tC at mo;split at mo
   .rw[hE]at mo;simp at mo
   .simp at mo
  have bK:=Ip eG DC p.rest (E:=E.mrE p.it m) (ro:=none) hT hC hF rfl eF (.inl Di)
  refine wpIn_block (wpIn_seq (wpIn_mono (Q:=λe4 a4 w4=>e4 = .normal/\p.rest.wpIn (FR none) n P (Post (E.mrE p.it m) S0 w0 (df (seen.push e'.born)) (cc p.rest) (λe σ2=>cond (mrNx p.b6 e) (match eM E.np (E.keep bl) σ2 with
   |some s'=>some s'
   |none=>none) none) (dW s em v (@gx _ _ (Ty.int .i64).keq zs x.1 y.2))) a4 w4) (wpIn_region (p8 (.inl rfl) (by rintro⟨a,w,h,_⟩;cases h) _ _ _ ?_)) ?_))
  .rw[List.range_eq_range',DB,qo];simp only[wpOps,e3,PK,if_true];refine .inl ?_;unfold Oper.wp;rw[xc,Oper.upon_value,s2];refine Cv (E:=E.mrE p.it m) hT hC Dh (λσ' a' w' S' γ' h1 h2 h3=>⟨rfl,bK p.b6 n (aB _) (by rw[oF _ _ Di];simp) h1 h2 h3⟩) (p.ops.size-1) 1 _ _ _ _ _ (by omega) jH jI ?_;rw[List.drop_one];exact xd
  rintro e4 a4 w4 ⟨rfl,h4⟩
  refine wpIn_mono h4 ?_
  rintro e5 a5 w5 ⟨IE,ex,σ5,S5,γ5,_,DD,rfl,oI,sF,gG⟩
  have:=DD Di;subst this;dsimp only at gG;cases zB:mrNx p.b6 ex with
  |false=>rw[zB]at gG;simp at gG
  |true=>
  rw[zB,j4]at gG;split at gG
  case h_2=>simp at gG
  rename_i s6 PL;simp only[j3]at gG;subst gG;obtain⟨S6,γ6,qG,PM⟩:=nn oI sF PL
  have BL:∀Q:Exit->Go.Act->World->Prop,Q .normal a5 w5->Exit.inBlock p.b6 Q (exOf ex) a5 w5:=by
   intro Q hQ;cases ex with
   |normal=>exact hQ
   |exit i=>have:i=p.b6:=z6 zB;simp only[exOf,Exit.inBlock,this,if_true];exact hQ
   |ret=>simp[mrNx]at zB
  refine BL _ ?_;obtain⟨PN,iL,GK,PO,qI,mu⟩:=IA (es':=zw) qG;have gP:@gx _ _ (Ty.int .i64).keq zs x.1 y.2=zs.set j y:=by rw[Iv ck (sc.trans hx) y.2,<-IC]
  have fB:(@gx _ _ (Ty.int .i64).keq zs x.1 y.2).map (λx=>x.1)=zs.map λx=>x.1:=by
   rw[gP,List.map_set,IC];refine z7 λi=>?_;rw[List.getElem?_set];split
   .rename_i cC;subst cC;rw[ko,sc.trans hx];rw[if_pos (by rw[qs,e7.len];exact oc)];rfl
   .rfl
  have PQ:iL=cd:=by rw[<-w7 mu,<-qI.length,<-w7 fQ,<-cA.length,gP,qn]
  subst PQ;refine⟨PN,⟨PO,?_,?_,?_⟩,_,S6,γ6,qG,PM,⟨?_,λi=>?_⟩,mu⟩
  .rw[<-hA.ks];exact Pt (by rw[wL qI,wL cA,fB]) (by rw[mu.2,fQ.2])
  .exact(qG.kept rr (.mapIter (some g) iL (seen.push e'.born) iL) (by show (if rr=rr then _ else _)=_;rw[if_pos rfl])).1
  .exact(qG.fix p.it (.pointer (some ⟨rr,0,none⟩)) (by show (if p.it=p.it then _ else _)=_;rw[if_pos rfl])).2
  .rw[gP,qn];exact e7.len
  .rw[gP,List.getElem?_set];by_cases cC:j=i
   .subst cC;rw[if_pos rfl,if_pos (by rw[e7.len];exact oc),if_pos ((wY _ _ _).2 (.inr Dt.symm))];exact hy.symm
   .rw[if_neg cC,e7.get i];by_cases zC:seen.contains i=true
    .rw[if_pos zC,if_pos ((wY _ _ _).2 (.inl zC))]
    .rw[if_neg zC,if_neg];intro hq;rcases (wY _ _ _).1 hq with hq|hq
     .exact zC hq
     .exact cC (by rw[hq,Dt])
 .rintro e a' w' ⟨rfl,S',γ',aY,bY⟩
  simp only[Exit.inBlock,if_true];exact⟨refs,.normal,_,S',γ',⟨rfl,rfl,rfl,hm,rfl⟩,λ_=>rfl,rfl,aY,bY,hk⟩
theorem PR{P:Program}(eG:P.follows .mixedOrders=true)(c:Code){E:Env}{ro:Option Nat}(hT:bt P E.T)(hC:gn P E.C)(hF:CFun E.C)(eF:∀f t,E.bw f=some t->BwK P f t)
 (hq:cc c=true\/(ro=none/\E.N.pin=λ_=>false)):zr P E ro c:=Ip eG (Px eG E.mr) c hT hC hF rfl eF hq
end
section
variable{N:NT}{np:Nat}{S0:an}{w0:World}{refs:Refs}{σ:St}{a:Go.Act}{w:World}{S:an}{γ:Nat->Value}
def sK:Arg->Bool
 |.ref _=>true
 |.rl _ _=>true
 |_=>false
def xe(args:List Arg)(vals:List Value)(k:Nat):Option Value:=
 if k%64=0 then match args[k/64]? with
  |some x=>if sK x then vals[k/64]? else none
  |none=>none
 else none
def kN(args:List Arg)(vals:List Value):Refs:={ blks:=cH args vals,val:=xe args vals,mv:=mvOf args vals }
def γ0(vals:List Value)(k:Nat):Value:=vals.getD (k/64) undef
theorem xf:∀{as:List Arg}{us:List Value}{i:Nat}{x:Arg}{u:Value}{g:Nat},as[i]? = some x->us[i]? = some u->gF x u=some g->g∈cH as us
 |y::as,v::us,0,x,u,g,h,h',hg=>by
  simp at h h';subst h;subst h';simp[cH,hg]
 |y::as,v::us,i+1,x,u,g,h,h',hg=>by
  have:=xf (as:=as) (us:=us) (i:=i) (by simpa using h) (by simpa using h') hg;simp[cH,this]
 |[],_,_,_,_,_,h,_,_=>by simp at h
 |_::_,[],_,_,_,_,_,h',_=>by simp at h'
theorem IF:∀{as:List Arg}{us:List Value}{i j:Nat}{x y:Arg}{u v:Value}{g:Nat},(cH as us).Nodup->as[i]? = some x->us[i]? = some u->as[j]? = some y->us[j]? = some v->
  gF x u=some g->gF y v=some g->i=j
 |z::as,t::us,0,0,_,_,_,_,_,_,_,_,_,_,_,_=>rfl
 |z::as,t::us,0,j+1,x,y,u,v,g,hn,hx,hu,hy,hv,h1,h2=>by
  simp at hx hu;subst hx;subst hu;have:=xf (as:=as) (us:=us) (i:=j) (by simpa using hy) (by simpa using hv) h2;simp[cH,h1]at hn;exact absurd this hn.1
 |z::as,t::us,i+1,0,x,y,u,v,g,hn,hx,hu,hy,hv,h1,h2=>by
  simp at hy hv;subst hy;subst hv;have:=xf (as:=as) (us:=us) (i:=i) (by simpa using hx) (by simpa using hu) h1;simp[cH,h2]at hn;exact absurd this hn.1
 |z::as,t::us,i+1,j+1,x,y,u,v,g,hn,hx,hu,hy,hv,h1,h2=>by
  have CD:(cH as us).Nodup:=by simp only[cH]at hn;exact(ql.1 hn).2.1
  rw[IF CD (i:=i) (j:=j) (by simpa using hx) (by simpa using hu) (by simpa using hy) (by simpa using hv) h1 h2]
 |[],_,_,_,_,_,_,_,_,_,h,_,_,_,_,_=>by simp at h
 |_::_,[],_,_,_,_,_,_,_,_,_,h,_,_,_,_=>by simp at h
theorem IG:∀{as:List Arg}{us:List Value}{i e:Nat}{x:TV}{u:Value}{g:Nat},as[i]? = some (.mv e x)->us[i]? = some u->blk u=some g->g∈mvOf as us
 |y::as,v::us,0,e,x,u,g,h,h',hg=>by
  simp at h h';subst h;subst h';simp[mvOf,hg]
 |y::as,v::us,i+1,e,x,u,g,h,h',hg=>by
  have:=IG (as:=as) (us:=us) (i:=i) (by simpa using h) (by simpa using h') hg;cases y<;>simp[mvOf,this]
 |[],_,_,_,_,_,_,h,_,_=>by simp at h
 |_::_,[],_,_,_,_,_,_,h',_=>by simp at h'
theorem PS{args:List Arg}{vals:List Value}(ha:All2 (kC S w) args vals)(ck:(cH args vals).Nodup)(hS:∀g o,S g o->g<w.heap.size)(hlen:args.length=np)(hN:np<=N.n) :
  Rel N np S w (kN args vals) (St.init args) ⟨vals.toArray++Array.replicate (N.n-vals.toArray.size) undef,[]⟩ w S (γ0 vals)/\bQ (St.init args):=by
 have pJ:vals.length=np:=by rw[<-ha.length,hlen]
 have oA:∀i u,vals[i]? = some u->(vals.toArray++Array.replicate (N.n-vals.toArray.size) undef).getD i undef=u:=by intro i u hu;have hi:i<vals.length:=(jk.1 hu).1;rw[qm,Array.getElem?_append_left (by simpa using hi)];simp[hu]
 have gf:∀i u,vals[i]? = some u->γ0 vals (i*64)=u:=by intro i u hu;simp only[γ0];rw[zf _ (by omega)];simp[hu]
 have oL:∀i u,vals[i]? = some u->γ0 vals (i*64+63)=u:=by intro i u hu;simp only[γ0];rw[show (i*64+63)/64=i by omega];simp[hu]
 have cU:∀k b,(St.init args).bx k = .live b->∃i x u,args[i]? = some x/\vals[i]? = some u/\kC S w x u/\((k=i*64/\ie (some x) = .live b)\/(k=i*64+63/\nP (some x) = .live b)):=by
  intro k b hb;simp only[St.init]at hb;split at hb
  .rename_i hk;cases hx:args[k/64]? with
   |none=>simp[hx,ie]at hb
   |some x=>obtain⟨u,hu,eZ⟩:=ha.get _ x hx;exact⟨k/64,x,u,hx,hu,eZ,.inl ⟨by omega,by rw[hx]at hb;exact hb⟩⟩
  .split at hb
   .rename_i hk;cases hx:args[k/64]? with
    |none=>simp[hx,nP]at hb
    |some x=>obtain⟨u,hu,eZ⟩:=ha.get _ x hx;exact⟨k/64,x,u,hx,hu,eZ,.inr ⟨by omega,by rw[hx]at hb;exact hb⟩⟩
   .simp at hb
 have mw:∀{x:Arg}{b:Bx},nP (some x) = .live b->∃e t xs,x = .mv e ⟨.list t,xs⟩/\b = .lst e t xs false:=by
  intro x b hb;cases x with
  |mv e y=>obtain⟨t,v⟩:=y;cases t<;>simp[nP]at hb;exact⟨_,_,_,rfl,hb.symm⟩
  |_=>simp[nP]at hb
 have xg:∀i x,args[i]? = some x->(St.init args).bx (i*64+63)=nP (some x):=by intro i x hx;simp only[St.init];rw[if_neg (by omega),if_pos (by omega),show (i*64+63)/64=i by omega,hx]
 have iM:∀i x,args[i]? = some x->(St.init args).bx (i*64)=ie (some x):=by intro i x hx;simp only[St.init];rw[if_pos (by omega),zf _ (by omega),hx]
 have hblk:∀x u b,ie (some x) = .live b->gF x u=blk u:=by intro x u b hb;cases x<;>first|rfl|simp[ie]at hb
 refine⟨⟨?_,rfl,?_,?_,?_,?_,λ_ _ h=>h,λ_ _ h=> .inl h,hS,λ_ _ _=>rfl,jm _,rfl,rfl,rfl,?_,λg o h=>by simp[kN]at h,λi v h=>by simp[kN]at h⟩,?_⟩
 .simp;omega
 .intro i
  have dg:(St.init args).sl i=match args[i]? with
   |some a=> .one (yo i a)
   |none=> .one (.one .dead):=rfl
  rw[dg];cases hx:args[i]? with
  |none=>exact⟨trivial,λh=>absurd rfl h⟩
  |some x=>
   obtain⟨u,hu,eZ⟩:=ha.get i x hx;show aQ S w (γ0 vals) (St.init args).bx (yo i x) _;rw[oA i u hu];have hb:=iM i x hx;cases x with
   |v x=>exact rY eZ
   |ref ls=>obtain⟨g,cur,e,h1,_⟩:=id eZ;exact⟨⟨by rw[hb];simp[ie],by rw[h1];rfl,λb _=>⟨g,(gf i u hu).trans h1,h1⟩⟩,λ_=>by rw[h1];rfl⟩
   |rl e x=>obtain⟨t,xs,rfl,bk,_⟩:=id eZ;have bN:One u:=bk.one;exact⟨⟨by rw[hb];simp[ie],bN,λb _=>(gf i u hu).symm⟩,λ_=>bN⟩
   |ip ls=>obtain⟨g,o,cs,h1,_⟩:=id eZ;exact⟨eZ,λ_=>by rw[h1];rfl⟩
   |clo f caps=>obtain⟨cv,h1,_⟩:=id eZ;exact⟨eZ,λ_=>by rw[h1];rfl⟩
   |mv e x=>obtain⟨t,xs,rfl,bk,_⟩:=id eZ.1;have bN:One u:=bk.one;have aj:=xg i _ hx;exact⟨⟨by rw[aj];simp[nP],bN,λb _=>(oL i u hu).symm⟩,λ_=>bN⟩
 .intro k b hb;obtain⟨i,x,u,hx,hu,eZ,⟨rfl,bz⟩|⟨rfl,bz⟩⟩:=cU k b hb
  .cases x with
   |ref ls=>simp only[ie,BS.live.injEq]at bz;subst bz;exact B8 (gf i u hu) eZ
   |rl e x=>obtain⟨t,xs,rfl,_⟩:=id eZ;simp only[ie,BS.live.injEq]at bz;subst bz;exact tW (gf i u hu) eZ
   |_=>simp[ie]at bz
  .obtain⟨e,t,xs,rfl,rfl⟩:=mw bz;exact tW (oL i u hu) eZ.1
 .intro k b g hb hg;obtain⟨i,x,u,hx,hu,eZ,⟨rfl,bz⟩|⟨rfl,bz⟩⟩:=cU k b hb
  .rw[gf i u hu,<-hblk x u b bz]at hg;refine .inr ⟨xf hx hu hg,?_⟩;have:i<args.length:=(jk.1 hx).1;simp[parK];omega
  .obtain⟨e,t,xs,rfl,rfl⟩:=mw bz;rw[oL i u hu]at hg;exact .inl (.inr ⟨IG hx hu hg,xf (x:= .mv e ⟨.list t,xs⟩) hx hu hg⟩)
 .intro k k' b b' g aG hb aj hg ae
  have IH:∀k b g,(St.init args).bx k = .live b->blk (γ0 vals k)=some g->∃i x u,args[i]? = some x/\vals[i]? = some u/\gF x u=some g/\((k=i*64/\ie (some x) = .live b)\/(k=i*64+63/\nP (some x) = .live b)):=by
   intro k b g hb hg;obtain⟨i,x,u,hx,hu,eZ,⟨rfl,bz⟩|⟨rfl,bz⟩⟩:=cU k b hb
   .rw[gf i u hu,<-hblk x u b bz]at hg;exact⟨i,x,u,hx,hu,hg,.inl ⟨rfl,bz⟩⟩
   .obtain⟨e,t,xs,rfl,rfl⟩:=mw bz;rw[oL i u hu]at hg;exact⟨i,_,u,hx,hu,hg,.inr ⟨rfl,bz⟩⟩
  obtain⟨i,x,u,hx,hu,h1,h2⟩:=IH k b g hb hg;obtain⟨j,y,v,hy,hv,h3,h4⟩:=IH k' b' g aj ae;have cC:=IF ck hx hu hy hv h1 h3;subst cC;rw[hx]at hy;cases hy;rcases h2 with⟨rfl,h2⟩|⟨rfl,h2⟩<;>rcases h4 with⟨rfl,h4⟩|⟨rfl,h4⟩
  .exact aG rfl
  .obtain⟨e,t,xs,rfl,rfl⟩:=mw h4;simp[ie]at h2
  .obtain⟨e,t,xs,rfl,rfl⟩:=mw h2;simp[ie]at h4
  .exact aG rfl
 .intro k v hv;simp only[kN,xe]at hv;split at hv
  .rename_i hk;split at hv
   .rename_i x hx;split at hv
    .rename_i hr;have hi:k/64<args.length:=(jk.1 hx).1;have aS:k=(k/64)*64:=by omega
     refine⟨by simp[parK,hk];omega,?_,?_⟩
     .rw[aS,iM _ x hx];cases x with
      |rl e y=>obtain⟨u,hu,eZ⟩:=ha.get _ _ hx;obtain⟨t,xs,rfl,_⟩:=eZ;simp[ie]
      |ref ls=>simp[ie]
      |_=>simp[sK]at hr
     .rw[aS];exact gf _ v hv
    .simp at hv
   .simp at hv
  .simp at hv
 .intro i;show ((match args[i]? with|some a=>Slot.one (yo i a)|none=> .one (.one .dead)):Slot).bare=true;split<;>rfl
theorem zD{α β:Type}{P:Program}(f:α->Sem β):∀{rs:List α}{zs:List β},All2 (λr z=>(f r).run P w = .ok z w) rs zs->(rs.mapM f).run P w = .ok zs w
 |[],[],_=>by simp
 |r::rs,z::zs,h=>by
  simp only[qq,Sem.run_bind,h.1,Result.andThen_ok,zD f h.2,Sem.run_pure]
 |[],_::_,h=>h.elim
 |_::_,[],h=>h.elim
def Uns(b:Bx):Prop:=(∃ls,b = .cell ls false)\/∃e t xs,b = .lst e t xs false
theorem zE{P:Program}{E:Env}(hT:bt P E.T)(hR:Rel N np S0 w0 refs σ a w S γ){r:ResultVar}{c:Cel}(h:rF E σ r=some c) :
  ∃z,((match r with
   |.tmp t=>pure (a.tmps.getD t undef)
   |.cell x t=>do loadVar t (<-asAddr (a.tmps.getD x undef)):Sem Value)).run P w = .ok z w/\aQ S w γ σ.bx c z:=by
 cases r with
 |tmp t=>
  simp only[rF]at h;split at h
  .rename_i c' hc;simp only[j3]at h;subst h;have:=hR.slot t;rw[hc]at this;exact⟨_,by simp,this⟩
  .simp at h
 |cell x t=>
  simp only[rF]at h;split at h
  .rename_i ti y ht hy;have:=hR.slot x;rw[hy]at this;obtain⟨z,hz,eu⟩:=Ge hT hR (RdR.msk λ_=> .inl rfl) ht h this.1;refine⟨z,?_,eu⟩;show (do loadVar t (<-asAddr (a.tmps.getD x undef)):Sem Value).run P w=_
   have hu:∃ad,a.tmps.getD x undef = .pointer (some ad):=by
    generalize a.tmps.getD x undef=u at hz
    cases u with
    |pointer o=>
     cases o with
     |some ad=>exact⟨ad,rfl⟩
     |none=>simp[Instr.loadAt,Instr.sureAddr]at hz
    |_=>simp[Instr.loadAt,Instr.sureAddr]at hz
   obtain⟨ad,hu⟩:=hu;rw[hu]at hz ⊢;simpa[Instr.loadAt,Instr.sureAddr,asAddr]using hz
  .simp at h
theorem zF{rd:Nat->BS}(hR:Rel N np S0 w0 refs σ a w S γ)(aq:RdF np σ rd):∀{ks:List SoK}{ls:List Leaf}{r:List RL}{n:List Nat}{v:Ups}{zs:List Value},soOf rd ks ls=some (r,n,v)->
  All2 (aL S w γ σ.bx) ls zs->(∀z∈zs,One z)->FrzL np σ.bx v/\(∀k∈n,(∃b,σ.bx k = .live b/\Uns b)/\parK np k=false)/\jD r zs=(n.filterMap λk=>blk (γ k))/\
   ∀S',cm S w S' w->Froz σ.bx γ S' w v->(∀k∈n,∀g,blk (γ k)=some g->∀o,¬S' g o)->All2 (yN S' w) r zs
 |[],[],r,n,v,zs,h,ha,h1=>by
  simp[soOf]at h;obtain⟨rfl,rfl,rfl⟩:=h;cases zs with
  |nil=>exact⟨.nil,by simp,rfl,λ_ _ _ _=>trivial⟩
  |cons _ _=>exact ha.elim
 |.d t::ks,l::ls,r,n,v,zs,h,ha,h1=>by
  cases zs with
  |nil=>exact ha.elim
  |cons z zs=>
  simp only[soOf]at h;split at h
  .rename_i x u r' n' v' hx hr;cases db:t.leafy with
   |false=>rw[db]at h;simp at h
   |true=>
   rw[db,j4]at h;simp only[j3,j7]at h;obtain⟨rfl,rfl,rfl⟩:=h;obtain⟨f1,p1⟩:=pC aq hR.box hx ha.1;obtain⟨f2,k2,b2,p2⟩:=zF hR aq hr ha.2 (λy hy=>h1 y (by simp[hy]));refine⟨FrzL.app.2 ⟨f1,f2⟩,k2,by simp[jD,b2],λS' al cM hn=>?_⟩;obtain⟨g1,g2⟩:=Froz.app.1 cM;exact⟨⟨h1 z (by simp),p1 S' w al g1⟩,p2 S' al g2 hn⟩
  .simp at h
 |.own e t::ks,l::ls,r,n,v,zs,h,ha,h1=>by
  cases zs with
  |nil=>exact ha.elim
  |cons z zs=>
  cases l with
  |nil=>
   simp only[soOf]at h;split at h
   .rename_i r' n' v' hr;cases hm:isM e with
    |true=>rw[hm]at h;simp at h
    |false=>
    rw[hm,j5]at h;simp only[j3,j7]at h;obtain⟨rfl,rfl,rfl⟩:=h;have hz:z = .slice none 0 0:=ha.1;subst hz;obtain⟨f2,k2,b2,p2⟩:=zF hR aq hr ha.2 (λy hy=>h1 y (by simp[hy]));refine⟨f2,k2,by simp[jD,blk,b2],λS' al cM hn=>⟨⟨t,[],rfl,.inl ⟨hm,[],⟨by simp,.inl ⟨rfl,rfl⟩⟩,trivial⟩,λg hg=>by simp[blk]at hg⟩,p2 S' al cM hn⟩⟩
   .simp at h
  |ol k=>
   simp only[soOf]at h;split at h
   .rename_i e' b xs hk;cases he:Nat.beq e' e with
    |false=>rw[he]at h;simp at h
    |true=>
    rw[he,j4]at h;split at h
    .rename_i r' n' v' hr;simp only[j3,j7]at h;obtain⟨rfl,rfl,rfl⟩:=h;have hp:=aq.par hk;have hk:=aq.ok.live hk;have hz:=ha.1.2.2 _ hk;obtain⟨f2,k2,b2,p2⟩:=zF hR aq hr ha.2 (λy hy=>h1 y (by simp[hy]));refine⟨f2,λk' aS=>?_,?_,λS' al cM hn=>⟨⟨b,xs,rfl,by rw[hz];exact(hR.box k _ hk).1.keep al (λ_ _=>rfl),λg hg=>hn k (by simp) g (by rw[<-hz];exact hg)⟩,p2 S' al cM (λk' aS=>hn k' (by simp[aS]))⟩⟩
     .rcases jf.1 aS with rfl|aS
      .exact⟨⟨_,hk,.inr ⟨_,_,_,rfl⟩⟩,hp⟩
      .exact k2 k' aS
     .simp only[jD,hz,qv];rw[b2];cases blk (γ k)<;>rfl
    .simp at h
   .simp at h
  |_=>simp[soOf]at h
 |[],_::_,r,n,v,zs,h,_,_=>by simp[soOf]at h
 |.d _::_,[],r,n,v,zs,h,_,_=>by simp[soOf]at h
 |.own _ _::_,[],r,n,v,zs,h,_,_=>by simp[soOf]at h
theorem PT{P:Program}{E:Env}(hT:bt P E.T)(hR:Rel N E.np S0 w0 refs σ a w S γ){rd:Nat->BS}(aq:RdF E.np σ rd){own:Bool}{t:Nat}{c:Cel}{v:RV}{ks:List Nat}{u:Ups}{z:Value}(h:rvOf E rd own t c=some (v,ks,u))(hc:aQ S w γ σ.bx c z) :
  FrzL E.np σ.bx u/\(∀k∈ks,(∃b,σ.bx k = .live b/\Uns b)/\parK E.np k=false)/\gl v z=(ks.filterMap λk=>blk (γ k))/\
   ∀S',cm S w S' w->Froz σ.bx γ S' w u->(∀k∈ks,∀g,blk (γ k)=some g->∀o,¬S' g o)->lb S' w v z:=by
 unfold rvOf at h;split at h
 .rename_i k;split at h
  .rename_i ls hk;split at h
   .rename_i xs u1 h1;simp only[j3,j7]at h;obtain⟨rfl,rfl,rfl⟩:=h;have hp:=aq.par hk;have hk:=aq.ok.live hk;obtain⟨g,hg,hz⟩:=hc.1.2.2 _ hk;obtain⟨g',cur,e,ae,hh,bT,_⟩:=hR.box k _ hk;rw[hg]at ae;simp at ae;subst ae;obtain⟨hf,tV⟩:=rU aq h1 bT;refine⟨hf,λk' aS=>by simp at aS;subst aS;exact⟨⟨_,hk,.inl ⟨_,rfl⟩⟩,hp⟩,?_,λS' al cM hn=>⟨g,cur,e,hz,hh,by rw[yq bT (tV S' w al cM)];exact tV S' w al cM,?_⟩⟩
    .simp[gl,ik,hz,hg,blk]
    .exact hn k (by simp) g (by rw[hg];rfl)
   .simp at h
  .simp at h
 .rename_i f caps;simp only[j3,j7]at h;obtain⟨rfl,rfl,rfl⟩:=h;obtain⟨⟨cv,hz,ah⟩,_⟩:=hc;exact⟨.nil,by simp,by simp[gl,ik],λS' al _ _=>⟨cv,hz,ah.mono λ_ _ h=>fR.keep al h⟩⟩
 .split at h
  .rename_i ti ht;split at h
   .rename_i ty aD;split at h
    .split at h
     .rename_i ls;split at h
      .rename_i r n u1 DE;simp only[j3,j7]at h;obtain⟨rfl,rfl,rfl⟩:=h;obtain⟨cs,hz,ah,bN⟩:=hc;subst hz;obtain⟨f1,k1,b1,p1⟩:=zF hR aq DE ah bN;exact⟨f1,k1,b1,λS' al cM hn=>⟨cs,rfl,p1 S' al cM hn⟩⟩
      .simp at h
     .rename_i el eJ _;simp only[j3,j7]at h;obtain⟨rfl,rfl,rfl⟩:=h;have hz:z = .slice none 0 0:=hc.1;subst hz;exact⟨.nil,by simp,by simp[gl,ik,blk],λS' _ _ _=>⟨el,[],rfl,.inl ⟨Bs hT ht,[],⟨by simp,.inl ⟨rfl,rfl⟩⟩,trivial⟩,λg hg=>by simp[blk]at hg⟩⟩
     .rename_i k eJ _;split at h
      .rename_i e el xs hk;simp only[j3,j7]at h;obtain⟨rfl,rfl,rfl⟩:=h;have hp:=aq.par hk;have bD:=aq.ok.nm hk;have hk:=aq.ok.live hk;have hz:=hc.1.2.2 _ hk;obtain⟨css,ao,ah,_⟩:=eN bD (hR.box k _ hk);refine⟨.nil,λk' aS=>by simp at aS;subst aS;exact⟨⟨_,hk,.inr ⟨_,_,_,rfl⟩⟩,hp⟩,?_,λS' al _ hn=>⟨el,xs,rfl,by rw[hz];exact(hR.box k _ hk).1.keep al (λ_ _=>rfl),λg hg=>hn k (by simp) g (by rw[<-hz];exact hg)⟩⟩;simp only[gl,ik,hz,qv,List.filterMap_nil];cases blk (γ k)<;>rfl
      .simp at h
     .simp at h
    .split at h
     .rename_i x u1 hx;simp only[j3,j7]at h;obtain⟨rfl,rfl,rfl⟩:=h;obtain⟨hf,hp,_⟩:=yy aq hR.box hx hc;exact⟨hf,by simp,by simp[gl,ik],λS' al cM _=>hp S' w al cM⟩
     .simp at h
   .simp at h
  .simp at h
theorem II{P:Program}{E:Env}(hT:bt P E.T)(hR:Rel N E.np S0 w0 refs σ a w S γ):∀{os:List Bool}{rs:List ResultVar}{ts:List Nat}{vs:List RV}{ks:List Nat}{u:Ups},kX E σ os rs ts=some (vs,ks,u)->
  ∃zs,All2 (λ(r:ResultVar) z=>((match r with
   |.tmp t=>pure (a.tmps.getD t undef)
   |.cell x t=>do loadVar t (<-asAddr (a.tmps.getD x undef)):Sem Value)).run P w = .ok z w) rs zs/\
  FrzL E.np σ.bx u/\(∀k∈ks,(∃b,σ.bx k = .live b/\Uns b)/\parK E.np k=false)/\eE vs zs=(ks.filterMap λk=>blk (γ k))/\
   ∀S',cm S w S' w->Froz σ.bx γ S' w u->(∀k∈ks,∀g,blk (γ k)=some g->∀o,¬S' g o)->All2 (lb S' w) vs zs
 |os,[],ts,vs,ks,u,h=>by
  simp[kX]at h;obtain⟨rfl,rfl,rfl⟩:=h;exact⟨[],trivial,.nil,by simp,rfl,λ_ _ _ _=>trivial⟩
 |os,r::rs,ts,vs,ks,u,h=>by
  simp only[kX]at h;split at h
  .rename_i c hc;split at h
   .rename_i v k1 u1 hv;split at h
    .rename_i fv k2 u2 eI;simp only[j3,j7]at h;obtain⟨rfl,rfl,rfl⟩:=h;obtain⟨z,hz,eu⟩:=zE hT hR hc;obtain⟨f1,p1,n1,r1⟩:=PT hT hR (ud (RdR.msk λ_=> .inl rfl)) hv eu;obtain⟨zs,gQ,f2,p2,n2,r2⟩:=II hT hR eI;refine⟨z::zs,⟨hz,gQ⟩,FrzL.app.2 ⟨f1,f2⟩,λk hk=>?_,?_,λS' al cM hn=>?_⟩
     .rcases jq.1 hk with hk|hk
      .exact p1 k hk
      .exact p2 k hk
     .simp[eE,n1,n2]
     .obtain⟨g1,g2⟩:=Froz.app.1 cM;exact⟨r1 S' al g1 (λk hk=>hn k (by simp[hk])),r2 S' al g2 (λk hk=>hn k (by simp[hk]))⟩
    .simp at h
   .simp at h
  .simp at h
theorem DF(hR:Rel N np S0 w0 refs σ a w S γ):∀{as:List Arg}{us:List Value}{i:Nat}{os:List Out}{u:Ups},outs np σ i as=some (os,u)->as.length=us.length->
  (∀(j:Nat)(x:Arg)(v:Value),as[j]? = some x->us[j]? = some v->sK x=true->γ ((i+j)*64)=v)->
  FrzL np σ.bx u/\∀S',cm S w S' w->Froz σ.bx γ S' w u->(∀(j:Nat)(x:Arg)(v:Value)(g:Nat),as[j]? = some x->us[j]? = some v->sK x=true->(∃b,σ.bx ((i+j)*64) = .live b/\Uns b)->blk v=some g->∀o,¬S' g o)->gm S' w as us os
 |[],us,i,os,u,h,hl,_=>by
  simp[outs]at h;obtain⟨rfl,rfl⟩:=h;cases us with
  |nil=>exact⟨.nil,λ_ _ _ _=>trivial⟩
  |cons _ _=>simp at hl
 |x::as,[],i,os,u,h,hl,_=>by simp at hl
 |x::as,v::us,i,os,u,h,hl,hg=>by
  simp only[outs]at h;split at h
  .rename_i G8 u' h'
   obtain⟨f1,r1⟩:=DF hR (i:=i+1) h' (by simpa using hl) (λj y z hy hz hr=>by
    have:=hg (j+1) y z (by simpa using hy) (by simpa using hz) hr;rwa[show i+1+j=i+(j+1) by omega])
   have bK:∀S',cm S w S' w->Froz σ.bx γ S' w u'->(∀(j:Nat)(x':Arg)(v':Value)(g:Nat),(x::as)[j]? = some x'->(v::us)[j]? = some v'->sK x'=true->(∃b,σ.bx ((i+j)*64) = .live b/\Uns b)->blk v'=some g->∀o,¬S' g o)->gm S' w as us G8:=by intro S' al cM hn;refine r1 S' al cM (λj y z g hy hz hr hb PU=>?_);exact hn (j+1) y z g (by simpa using hy) (by simpa using hz) hr (by rwa[show i+(j+1)=i+1+j by omega]) PU
   split at h
   .rename_i ls;have DG:γ (i*64)=v:=hg 0 _ v rfl rfl rfl;split at h
    .rename_i eg hb;split at h
     .rename_i xs u2 hx;simp only[j3,j7]at h;obtain⟨rfl,rfl⟩:=h;obtain⟨g,cur,e,h1,h2,h3,_⟩:=hR.box _ _ hb;obtain⟨f2,r2⟩:=rU (ud (RdR.msk λ_=> .inl rfl)) hx h3;refine⟨FrzL.app.2 ⟨f2,f1⟩,λS' al cM hn=>?_⟩;obtain⟨g1,g2⟩:=Froz.app.1 cM;have IJ:v = .pointer (some ⟨g,0,none⟩):=by rw[<-DG];exact h1
      exact⟨⟨g,cur,e,IJ,h2,by rw[yq h3 (r2 S' w al g1)];exact r2 S' w al g1,hn 0 _ v g rfl rfl rfl ⟨_,hb,.inl ⟨eg,rfl⟩⟩ (by rw[IJ];rfl)⟩,bK S' al g2 hn⟩
     .simp at h
    .simp at h
   .rename_i e y;have DG:γ (i*64)=v:=hg 0 _ v rfl rfl rfl;split at h
    .rename_i e' t xs hb;split at h
     .rename_i aV;obtain⟨rfl,PV⟩:=aV;simp only[j3,j7]at h;obtain⟨rfl,rfl⟩:=h;have ao:=(hR.box _ _ hb).1;rw[DG]at ao;refine⟨f1,λS' al cM hn=>⟨⟨t,xs,rfl,ao.keep al (λ_ _=>rfl),λg ae=>hn 0 _ v g rfl rfl rfl ⟨_,hb,.inr ⟨_,t,xs,rfl⟩⟩ ae⟩,PV.symm,bK S' al cM hn⟩⟩
     .simp at h
    .simp at h
   .rename_i DH DI;simp only[j3,j7]at h;obtain⟨rfl,rfl⟩:=h;refine⟨f1,λS' al cM hn=>?_⟩;have:=bK S' al cM hn;cases x with
    |ref ls=>exact absurd rfl (DH ls)
    |rl e y=>exact absurd rfl (DI e y)
    |_=>exact this
  .simp at h
theorem IK{x:Arg}{u:Value}{g:Nat}(h:kC S w x u)(hr:gF x u=some g):∀o,¬S g o:=by
 cases x with
 |ref ls=>obtain⟨g',cur,e,h1,_,_,h4⟩:=h;have lN:blk u=some g:=hr;rw[h1]at lN;simp[blk]at lN;subst lN;exact h4
 |rl e y=>obtain⟨t,xs,_,_,h4⟩:=h;exact h4 g hr
 |mv e y=>obtain⟨⟨t,xs,_,_,h4⟩,_⟩:=h;exact h4 g hr
 |_=>simp[gF]at hr
theorem DJ:∀{as:List Arg}{us:List Value}{g:Nat},g∈cH as us->∃(i:Nat)(x:Arg)(u:Value),as[i]? = some x/\us[i]? = some u/\gF x u=some g
 |[],_,_,h=>by simp[cH]at h
 |_::_,[],_,h=>by simp[cH]at h
 |x::as,u::us,g,h=>by
  simp only[cH,jq,Option.mem_toList]at h;rcases h with h|h
  .exact⟨0,x,u,rfl,rfl,h⟩
  .obtain⟨i,y,v,h1,h2,h3⟩:=DJ h;exact⟨i+1,y,v,by simpa using h1,by simpa using h2,h3⟩
theorem DK(zs:List Value):(if h:zs.toArray.size=1 then zs.toArray[0] else .tuple zs.toArray)=gT zs:=by
 match zs with
 |[]=>rfl
 |[z]=>rfl
 |z::z'::zs=>simp[gT]
theorem PW{P:Program}{E:Env}(hT:bt P E.T)(hR:Rel N np S0 w0 refs σ a w S γ){rs:List ResultVar}{vs fv:List RV}{zs:List Value}
  (gQ:All2 (λ(r:ResultVar) z=>((match r with
   |.tmp t=>pure (a.tmps.getD t undef)
   |.cell x t=>do loadVar t (<-asAddr (a.tmps.getD x undef)):Sem Value)).run P w = .ok z w) rs zs) (h:nilV E σ rs vs=some fv) :
  (∀S' w',All2 (lb S' w') vs zs->All2 (lb S' w') fv zs)/\eE fv zs=eE vs zs/\(∀m,fv=[.hd m]->vs=[.hd m])/\∀ns s,fv=[.raw ns s]->vs=[.raw ns s]:=by
 unfold nilV at h;split at h
 .simp only[j3]at h;subst h;exact⟨λ_ _ h=>h,rfl,λ_ h=>h,λ_ _ h=>h⟩
 .split at h
  .rename_i r x;split at h
   .rename_i ls hc;split at h
    .rename_i hn;simp only[j3]at h;subst h;obtain⟨z,hz,eu⟩:=zE hT hR hc;cases zs with
     |nil=>exact gQ.elim
     |cons z' zs=>
      cases zs with
      |cons _ _=>exact gQ.2.elim
      |nil=>
       have nX:z'=z:=by have h1:=hz.symm.trans gQ.1;simp only[Result.ok.injEq]at h1;exact h1.1.symm
       subst nX;obtain⟨cs,hu,ah,_⟩:=eu;refine⟨λS' w' hv=>⟨⟨hv.1,λng sL i hi z PX=>?_⟩,trivial⟩,rfl,λm hm=>by simp at hm,λns s hm=>by simp at hm⟩;rw[hu]at sL;simp only[Value.agg.injEq]at sL;subst sL;have hl:=ji.1 hn i hi;cases DL:ls[i]? with
       |none=>rw[DL]at hl;simp at hl
       |some l=>rw[DL]at hl;obtain⟨z2,DM,iA⟩:=ah.get i l DL;rw[PX]at DM;simp only[j3]at DM;subst DM;cases l<;>first|exact iA|simp at hl
    .simp at h
   .simp at h
  .simp at h
theorem PY{E:Env}{os:List Bool}{rs:List ResultVar}{ts:List Nat}{vs:List RV}{ks:List Nat}{u:Ups}(h:kX E σ os rs ts=some (vs,ks,u))(m:Nat):vs≠[.hd m]:=by
 cases rs with
 |nil=>simp[kX]at h;rw[<-h.1];simp
 |cons r rs=>
  simp only[kX]at h;split at h
  .split at h
   .rename_i v k1 u1 hv;split at h
    .simp only[j3,j7]at h;rw[<-h.1];intro he;have:v = .hd m:=by simpa using (List.cons.inj he).1
     subst this;unfold rvOf at hv;split at hv
     .split at hv
      .split at hv<;>simp at hv
      .simp at hv
     .simp at hv
     .split at hv
      .split at hv
       .split at hv
        .split at hv
         .split at hv<;>simp at hv
         .simp at hv
         .split at hv<;>simp at hv
         .simp at hv
        .split at hv<;>simp at hv
       .simp at hv
      .simp at hv
    .simp at h
   .simp at h
  .simp at h
theorem PZ{E:Env}{os:List Bool}{rs:List ResultVar}{ts:List Nat}{vs:List RV}{ks:List Nat}{u:Ups}(h:kX E σ os rs ts=some (vs,ks,u))(ns:List Nat)(s:Snap):vs≠[.raw ns s]:=by
 cases rs with
 |nil=>simp[kX]at h;rw[<-h.1];simp
 |cons r rs=>
  simp only[kX]at h;split at h
  .split at h
   .rename_i v k1 u1 hv;split at h
    .simp only[j3,j7]at h;rw[<-h.1];intro he;have:v = .raw ns s:=by simpa using (List.cons.inj he).1
     subst this;unfold rvOf at hv;split at hv
     .split at hv
      .split at hv<;>simp at hv
      .simp at hv
     .simp at hv
     .split at hv
      .split at hv
       .split at hv
        .split at hv
         .split at hv<;>simp at hv
         .simp at hv
         .split at hv<;>simp at hv
         .simp at hv
        .split at hv<;>simp at hv
       .simp at hv
      .simp at hv
    .simp at h
   .simp at h
  .simp at h
theorem P0{P:Program}{E:Env}(hT:bt P E.T){fn:Func}{args:List Arg}{vals:List Value}{σ':St}{a':Go.Act}{w':World}{S':an}{γ':Nat->Value}(hR:Rel N E.np S w (kN args vals) σ' a' w' S' γ')
  (ha:All2 (kC S w) args vals)(hS:∀g o,S g o->g<w.heap.size)(eV:¬E.rw=true)(mo:E.hd=true){ret:Ret}(aW:nR E fn args σ'=some ret){R:Type}{k:Ret->Option R}{r:R}(hk:k ret=some r) :
  ∃v,(results fn a'.tmps).run P w' = .ok v w'/\∃ret,k ret=some r/\∃v' S' vs,Ending.returned v = .returned v'/\yP w S args vals ret v' w' S' vs:=by
 have cV:∀(j:Nat)(x:Arg)(v:Value),args[j]? = some x->vals[j]? = some v->sK x=true->γ' ((0+j)*64)=v:=by intro j x v hx hv hr;refine(hR.par ((0+j)*64) v ?_).2.2;simp only[kN,xe];rw[if_pos (by omega),zf _ (by omega),ju,hx];simp[hr,hv]
 unfold nR at aW;rw[if_neg eV,if_pos mo]at aW;unfold FW at aW;split at aW
 .rename_i e x as r0 oM;split at aW
  .rename_i l os u' hc kD;split at aW
   .rename_i m hm;simp only[j3]at aW;subst aW;obtain⟨z,hz,eu⟩:=zE (P:=P) hT hR hc;obtain⟨f2,r2⟩:=DF hR kD ha.length cV;obtain⟨S2,bc,bO,lS,ct⟩:=iW u' σ' S' hR f2;cases vals with
    |nil=>exact ha.elim
    |cons v0 P1=>
    have h0:γ' 0=v0:=by have:=cV 0 _ v0 rfl rfl rfl;simpa using this
    have fw:∀k,parK E.np k=true->u'.any (λy=>y.1==k)=false:=by intro k hk;rw[kp];intro y hy he;simp only[qt]at he;have:=(f2 y hy).1;rw[he,hk]at this;simp at this
    have kF:∀k b,u'.any (λy=>y.1==k)=false->σ'.bx k = .live b->Uns b->∀g,blk (γ' k)=some g->∀o,¬S2 g o:=by
     intro k b hk hb gW g hg o;have cG:(σ'.upd u').bx k = .live b:=(fZ _ _ hk).trans hb;have bz:=bc.box k b cG;rcases gW with⟨ls,rfl⟩|⟨e,t,xs,rfl⟩
     .obtain⟨g',cur,e,ae,_,_,_,hS,_⟩:=bz;rw[ae]at hg;simp[blk]at hg;subst hg;exact hS rfl o
     .exact(bz.2 g hg).1 rfl o
    have cw:=r2 S2 bO lS (λj x v g hx hv hr DN hg=>by
     obtain⟨b,hb,hu⟩:=DN;have hp:parK E.np ((0+j)*64)=true:=by refine(hR.par ((0+j)*64) v ?_).1;simp only[kN,xe];rw[if_pos (by omega),zf _ (by omega),ju,hx];simp[hr,hv]
     exact kF ((0+j)*64) b (fw _ hp) hb hu g (by rw[cV j x v hx hv hr];exact hg))
    have bN:One z:=eu.2 (by rintro rfl;simp[hdOf]at hm)
    have lY:∃ad len cap,v0 = .slice ad len cap/\m<=len/\z = .slice ad m cap:=by
     unfold hdOf at hm;split at hm
     .split at hm
      .rename_i e1 t1 yM hb;split at hm
       .simp at hm
       .rename_i bD;simp only[j3]at hm;subst hm;obtain⟨css,ao,_⟩:=eN (by simpa using bD) (hR.box 0 _ hb);have nX:=eu.1.2.2 _ hb;rcases ao.2 with⟨hg,hn⟩|⟨g,cap,cur,hg,_⟩
        .exact⟨none,0,0,by rw[<-h0,hg],by omega,by rw[nX,hg,hn]⟩
        .exact⟨_,_,cap,by rw[<-h0,hg],jm _,by rw[nX,hg]⟩
      .simp at hm
     .split at hm
      .rename_i i e1 t1 yM hb;simp only[j3]at hm;subst hm;obtain⟨_,hi,ad,cap,hg,nX⟩:=eu.1.2.2 _ hb;exact⟨ad,_,cap,by rw[<-h0,hg],hi,nX⟩
      .simp at hm
     .simp at hm
    have ai:(results fn a'.tmps).run P w' = .ok (gT [z]) w':=by
     have hm:=zD (P:=P) (w:=w') (rs:=[r0]) (zs:=[z]) (λr=>((match r with
      |.tmp t=>pure (a'.tmps.getD t undef)
      |.cell x t=>do loadVar t (<-asAddr (a'.tmps.getD x undef)):Sem Value))) ⟨hz,trivial⟩
     unfold results;rw[za,oM];simp only[Sem.run_bind,Sem.run_map]
     erw [hm]
     simp only[Result.andThen_ok,Sem.run_pure];exact congrArg (Result.ok · w') (DK [z])
    refine⟨gT [z],ai,⟨[.hd m],os⟩,hk,gT [z],S2,[z],rfl,⟨rfl,⟨bN,trivial⟩,λg hg=>by simp[eE,ik,gl]at hg,by simp[eE,ik,gl],cw,λg o hs=>⟨bc.ext g o hs,?_⟩,λg o h=>(bc.new g o h).imp id (λh=>h.imp id And.left),bc.here,bc.below,bc.grow,bc.os,bc.tape,bc.output,λns s he=>by simp at he,?_⟩⟩
    .refine World.cell?_of_block (bc.below g (hS g o hs) (λhm=>?_));obtain⟨i,x,v,hx,hv,hb⟩:=DJ hm;obtain⟨v',eS,DO⟩:=ha.get i x hx;rw[hv]at eS;simp at eS;subst eS;exact IK DO hb o hs
    .intro m' fo;have:m'=m:=by simpa using fo.symm
     subst this;obtain⟨ad,len,cap,h1,h2,h3⟩:=lY;exact⟨ad,len,cap,by rw[h1];rfl,h2,by rw[h3]⟩
   .simp at aW
  .simp at aW
 .simp at aW
theorem IL{P:Program}{E:Env}(hT:bt P E.T)(hR:Rel N np S0 w0 refs σ a w S γ):∀{rs:List ResultVar}{cs:List Cel},vi E σ rs=some cs->
  ∃zs,All2 (λ(r:ResultVar) z=>((match r with
   |.tmp t=>pure (a.tmps.getD t undef)
   |.cell x t=>do loadVar t (<-asAddr (a.tmps.getD x undef)):Sem Value)).run P w = .ok z w) rs zs/\All2 (aQ S w γ σ.bx) cs zs
 |[],cs,h=>by
  simp only[vi,j3]at h;subst h;exact⟨[],trivial,trivial⟩
 |r::rs,cs,h=>by
  simp only[vi]at h;split at h
  .rename_i c ng hc cp;simp only[j3]at h;subst h;obtain⟨z,h1,h2⟩:=zE (P:=P) hT hR hc;obtain⟨zs,h3,h4⟩:=IL hT hR cp;exact⟨z::zs,⟨h1,h3⟩,h2,h4⟩
  .simp at h
theorem IM{bx bx':Nat->BS}{ns:List Nat}(hb:∀k∈ns,bx' k=bx k){l:Leaf}{u:Value}(hl:nQ ns l=true)(h:aL S w γ bx l u):aL S w γ bx' l u:=by
 cases l with
 |dead=>trivial
 |nil=>exact h
 |d t v=>exact h
 |ol k=>have hk:=hb k (by simpa[nQ]using hl);exact⟨by rw[hk];exact h.1,h.2.1,by rw[hk];exact h.2.2⟩
 |bp k c=>have hk:=hb k (by simpa[nQ]using hl);exact⟨by rw[hk];exact h.1,h.2.1,by rw[hk];exact h.2.2⟩
 |s1 k=>have hk:=hb k (by simpa[nQ]using hl);exact⟨by rw[hk];exact h.1,h.2.1,by rw[hk];exact h.2.2⟩
 |_=>simp[nQ]at hl
theorem DP{bx bx':Nat->BS}{ns:List Nat}(hb:∀k∈ns,bx' k=bx k):∀{ls:List Leaf}{us:List Value},ls.all (nQ ns)=true->All2 (aL S w γ bx) ls us->All2 (aL S w γ bx') ls us
 |[],[],_,_=>trivial
 |l::ls,u::us,hl,h=>by
  simp only[qu,j9]at hl;exact⟨IM hb hl.1 h.1,DP hb hl.2 h.2⟩
 |[],_::_,_,h=>h.elim
 |_::_,[],_,h=>h.elim
theorem P2{bx bx':Nat->BS}{ns:List Nat}(hb:∀k∈ns,bx' k=bx k){c:Cel}{u:Value}(hl:Bo ns c=true)(h:aQ S w γ bx c u):aQ S w γ bx' c u:=by
 cases c with
 |one l=>exact⟨IM hb hl h.1,h.2⟩
 |st ls=>obtain⟨cs,hu,ha,h1⟩:=h;exact⟨cs,hu,DP hb hl ha,h1⟩
 |av n b xs=>exact h
theorem P3{P:Program}{E:Env}(hT:bt P E.T){fn:Func}{args:List Arg}{vals:List Value}{σ':St}{a':Go.Act}{w':World}{S':an}{γ':Nat->Value}(hR:Rel N E.np S w (kN args vals) σ' a' w' S' γ')
  (ha:All2 (kC S w) args vals)(hS:∀g o,S g o->g<w.heap.size)(eV:E.rw=true){ret:Ret}(aW:nR E fn args σ'=some ret){R:Type}{k:Ret->Option R}{r:R}(hk:k ret=some r) :
  ∃v,(results fn a'.tmps).run P w' = .ok v w'/\∃ret,k ret=some r/\∃v' S' vs,Ending.returned v = .returned v'/\yP w S args vals ret v' w' S' vs:=by
 unfold nR at aW;rw[if_pos eV]at aW;unfold FX at aW;split at aW
 case h_2=>simp at aW
 rename_i cs cp;split at aW
 case isFalse=>simp at aW
 rename_i aV;simp only[j9]at aV;obtain⟨ck,uu,dm,bB⟩:=aV;simp only[j3]at aW;subst aW;obtain⟨zs,gQ,eu⟩:=IL hT hR cp
 have ai:(results fn a'.tmps).run P w' = .ok (gT zs) w':=by
  have hm:=zD (P:=P) (w:=w') _ gQ;unfold results;rw[za];simp only[Sem.run_bind,Sem.run_map]
  erw [hm]
  simp only[Result.andThen_ok,Sem.run_pure];exact congrArg (Result.ok · w') (DK zs)
 have hlen:(cs.map Item.s++E.rn.map λk=>Item.b (σ'.bx k)).length-E.rn.length=cs.length:=by simp
 have hC:rawC E.rn (cs.map Item.s++E.rn.map λk=>Item.b (σ'.bx k))=cs:=by unfold rawC;rw[hlen,ze (by simp),List.map_map];exact List.map_id' _
 have hU:rawU E.rn (cs.map Item.s++E.rn.map λk=>Item.b (σ'.bx k))=E.rn.map λk=>(k,σ'.bx k):=by
  unfold rawU;rw[hlen,List.drop_left' (by simp),List.map_map];generalize E.rn=l;induction l with
  |nil=>rfl
  |cons x l ih=>simp only[qi,List.zip_cons_cons,ih];rfl
 have cU:∀k∈E.rn,(emp.upd (E.rn.map λk=>(k,σ'.bx k))).bx k=σ'.bx k:=λk hk=>
  pP _ emp (by rw[List.map_map];simpa[Function.comp_def]using rW ck) (k9.2 ⟨k,hk,rfl⟩)
 have iM:∀k b,(emp.upd (E.rn.map λk=>(k,σ'.bx k))).bx k = .live b->k∈E.rn/\σ'.bx k = .live b:=by
  intro k b hb;by_cases hk:k∈E.rn
  .exact⟨hk,(cU k hk).symm.trans hb⟩
  .rw[fZ]at hb
   .simp[emp]at hb
   .rw[kp];intro x hx he;obtain⟨y,hy,rfl⟩:=k9.1 hx;simp only[qt]at he;exact hk (he▸hy)
 have DQ:∀k b,σ'.bx k = .live b->k∈E.rn->cP S' w' γ' (emp.upd (E.rn.map λk=>(k,σ'.bx k))).bx k b:=by
  intro k b hb hk;have h1:=hR.box k b hb;have h2:=(Bool.and_eq_true_iff.1 (ji.1 uu k hk)).2;rw[hb]at h2;cases b with
  |cell ls f=>obtain⟨g,cur,e,q1,q2,q3,q4⟩:=h1;exact⟨g,cur,e,q1,q2,DP cU h2 q3,q4⟩
  |lst e t xs f=>exact h1
  |arr n t xs=>exact h1
 have my:All2 (aQ S' w' γ' (emp.upd (E.rn.map λk=>(k,σ'.bx k))).bx) cs zs:=by
  have go:∀(cs:List Cel)(zs:List Value),cs.all (Bo E.rn)=true->All2 (aQ S' w' γ' σ'.bx) cs zs->All2 (aQ S' w' γ' (emp.upd (E.rn.map λk=>(k,σ'.bx k))).bx) cs zs:=by
   intro cs;induction cs with
   |nil=>intro zs _ h;cases zs with|nil=>trivial|cons _ _=>exact h.elim
   |cons c cs ih=>
    intro zs dm h;cases zs with
    |nil=>exact h.elim
    |cons z zs=>simp only[qu,j9]at dm;exact⟨P2 cU dm.1 h.1,ih zs dm.2 h.2⟩
  exact go cs zs dm eu
 have iN:cH args vals=[]:=by
  clear ai my hR;induction args generalizing vals with
  |nil=>cases vals<;>rfl
  |cons x xs ih=>
   cases vals with
   |nil=>rfl
   |cons v vs=>simp only[qu,j9]at bB;have:=ih ha.2 bB.2;cases x<;>simp_all[cH,gF,Bp]
 have cw:gm S' w' args vals []:=by
  clear ai my hR iN;induction args generalizing vals with
  |nil=>cases vals with|nil=>trivial|cons _ _=>exact ha.elim
  |cons x xs ih=>
   cases vals with
   |nil=>exact ha.elim
   |cons v vs=>simp only[qu,j9]at bB;have:=ih ha.2 bB.2;cases x<;>first|exact this|(simp[Bp]at bB)
 refine⟨gT zs,ai,_,hk,gT zs,S',[gT zs],rfl,⟨rfl,⟨trivial,trivial⟩,λg hg=>by simp[eE,ik,gl]at hg,by simp[eE,ik,gl],cw,λg o hs=>⟨hR.ext g o hs,?_⟩,λg o h=>(hR.new g o h).imp id (λh=>h.imp id And.left),hR.here,
  hR.below,hR.grow,hR.os,hR.tape,hR.output,λns s he=>?_,λm hm=>by simp at hm⟩⟩
 .refine World.cell?_of_block (hR.below g (hS g o hs) (λhm=>?_));have hm:g∈cH args vals:=hm;rw[iN]at hm;simp at hm
 .simp only[List.cons.injEq,RV.raw.injEq,and_true]at he;obtain⟨rfl,rfl⟩:=he;refine⟨γ',zs,rfl,by rw[hC,hU];exact my,λk b hb=>?_,λk b g hb hg=>?_,λk k' b b' g aG hb aj hg ae=>?_⟩
  .rw[hU]at hb ⊢;obtain⟨h1,h2⟩:=iM k b hb;exact DQ k b h2 h1
  .rw[hU]at hb;obtain⟨h1,h2⟩:=iM k b hb;rcases hR.own k b g h2 hg with h|h
   .rcases h with h|h
    .exact h
    .have hm:g∈cH args vals:=h.2;rw[iN]at hm;simp at hm
   .have:=(Bool.and_eq_true_iff.1 (ji.1 uu k h1)).1;rw[h.2]at this;simp at this
  .rw[hU]at hb aj;exact hR.apart k k' b b' g aG (iM k b hb).2 (iM k' b' aj).2 hg ae
theorem DR{P:Program}{fn:Func}{n:Nat}{R:Ending->World->Prop}:∀(ds:List Deferred){refs:Refs}{σ:St}{a:Go.Act}{w:World}{S:an}{γ:Nat->Value},refs.ds=ds->sD w0 refs->Rel N np S0 w0 refs σ a w S γ->
  (∀w2,Rel N np S0 w0 ⟨refs.blks,refs.val,[],λ_=>none,λ_=>none,refs.mv⟩ σ { a with defers:=[] } w2 S γ->LeavesIn (FR none) n P fn a.tmps R [] .returning w2)->LeavesInM (FR none) n P fn a.tmps R ds .returning w
 |[],refs,σ,a,w,S,γ,hd,hm,hR,h=>h w (hR.swap rfl rfl hR.size rfl hR.slot (λg o h=>by simp at h) (λi v h=>by simp at h))
 |d::ds,refs,σ,a,w,S,γ,hd,hm,hR,h=>by
  obtain⟨ck,ah⟩:=hm;rw[hd]at ck;obtain⟨D,rfl,h1,h2⟩:=ah d (by rw[hd];simp);refine⟨by simp,.inl ⟨D,_,rfl,run_takeDeferred (hR.kept D _ h2).1,?_⟩⟩;have aJ:=hR.putO (o':= .deferred none) h2 h1 rfl rfl
  have bc:=aJ.swap (a':={ a with defers:=ds }) (refs':=⟨refs.blks,refs.val,ds,λg=>if g=D then none else refs.kw g,refs.fix,refs.mv⟩) rfl rfl hR.size rfl aJ.slot (λg o hg=>aJ.kept g o (by
   simp only at hg ⊢;split at hg
   .simp at hg
   .rename_i e;rw[if_neg e];exact hg)) aJ.fix
  refine DR (a:={ a with defers:=ds }) (refs:=⟨refs.blks,refs.val,ds,λg=>if g=D then none else refs.kw g,refs.fix,refs.mv⟩) ds rfl ⟨(q7.1 ck).2,λd' eH=>?_⟩ bc (λw2 hw=>h w2 hw);obtain⟨D',rfl,q1,q2⟩:=ah d' (by rw[hd];simp[eH]);refine⟨D',rfl,q1,?_⟩;show (if D'=D then none else refs.kw D')=_;rw[if_neg,q2]
  rintro rfl
  exact(q7.1 ck).1 eH
theorem P4{P:Program}{E:Env}(hT:bt P E.T)(hC:gn P E.C)(hF:CFun E.C)(eG:P.follows .mixedOrders=true){f:Nat}{fn:Func}{c:Code}(hf:P.funcs[f]? = some fn)(hb:fn.body=some c)(hN:fn.ntmps=E.N.n)(gr:E.N.pin=λ_=>false)(eF:∀f t,E.bw f=some t->BwK P f t)(xh:E.np<=E.N.n)
  (bD : (fn.name == "runtime.NumGoroutine") = false) (hL : ∀ x ∈ dz 0 c, wK E x.1 x.2 ∧ MrOK E x.1 x.2) : FnOK P f (fun args _ k => pq E fn args k) := by
 intro args R k r h;refine⟨⟨fn,hf,by rw[hb];rfl,bD⟩,?_⟩;intro w S vals ha ck hS;by_cases hlen:args.length=E.np
 case neg=>simp[pq,hlen]at h
 case pos=>
 simp only[pq,hb,hlen,if_true]at h;have pJ:vals.length=E.np:=by rw[<-ha.length,hlen]
 obtain⟨P5,rN⟩:=PS (N:=E.N) ha ck hS hlen xh;refine OO (n:=0) (ro:=none) (callsIn_of_wp_marks hf hb trivial ?_);rw[hN];refine wpIn_mono (PR eG c (ro:=none) hT hC hF eF (.inr ⟨rfl,gr⟩) 0 0 ⟨List.nodup_nil,λd hd=>by simp[kN]at hd⟩ hL P5 rN h) ?_
 rintro e a0 w1 ⟨refs',ex,σ',S',γ',hle,_,rfl,aJ,eT,hk⟩
 have ea:∀(hk:(match nR E fn args σ' with|some r=>k r|none=>none)=some r)(w':World),Rel E.N E.np S w ⟨refs'.blks,refs'.val,[],λ_=>none,λ_=>none,refs'.mv⟩ σ' { a0 with defers:=[] } w' S' γ'->∃v,(results fn a0.tmps).run P w' = .ok v w'/\
   ∃ret,k ret=some r/\∃v' S' vs,Ending.returned v = .returned v'/\yP w S args vals ret v' w' S' vs:=by
  intro hk w' hR;have hR:Rel E.N E.np S w (kN args vals) σ' { a0 with defers:=[] } w' S' γ':=hR.swap hle.blks.symm hle.val.symm hR.size rfl hR.slot (λg o h=>by simp[kN]at h) (λi v h=>by simp[kN]at h) hle.mv.symm;generalize DS:({ a0 with defers:=[] }:Go.Act)=a' at hR;have y4:a0.tmps=a'.tmps:=by rw[<-DS]
  rw[y4];cases aW:nR E fn args σ' with
  |none=>simp[aW]at hk
  |some ret=>
  simp only[aW]at hk;by_cases eV:E.rw=true
  .exact P3 hT hR ha hS eV aW hk
  by_cases mo:E.hd=true
  .exact P0 hT hR ha hS eV mo aW hk
  have sM:∃vs ks u os u',kX E σ' E.ro fn.results.toList fn.resultTypes.toList=some (vs,ks,u)/\outs E.np σ' 0 args=some (os,u')/\
    iS ks=true/\(u++u').all (λe=> !ks.contains e.1)=true/\∃fv,nilV E σ' fn.results.toList vs=some fv/\ret=⟨fv,os⟩:=by
   unfold nR at aW;rw[if_neg eV,if_neg mo]at aW;split at aW
   .rename_i vs ks u os u' eI kD;split at aW
    .rename_i aV;split at aW
     .rename_i fv sN;simp only[j3]at aW;simp only[j9]at aV;exact⟨vs,ks,u,os,u',eI,kD,aV.1,aV.2,fv,sN,aW.symm⟩
     .simp at aW
    .simp at aW
   .simp at aW
  obtain⟨vs,ks,u,os,u',eI,kD,lK,r6,fv,sN,rfl⟩:=sM;obtain⟨zs,gQ,f1,p1,n1,r1⟩:=II hT hR eI;have dD:(∀S' w',All2 (lb S' w') vs zs->All2 (lb S' w') fv zs)/\eE fv zs=eE vs zs/\(∀m,fv=[.hd m]->vs=[.hd m])/\∀ns s,fv=[.raw ns s]->vs=[.raw ns s]:=PW hT hR gQ sN;have cV:∀(j:Nat)(x:Arg)(v:Value),args[j]? = some x->vals[j]? = some v->sK x=true->γ' ((0+j)*64)=v:=by intro j x v hx hv hr;refine(hR.par ((0+j)*64) v ?_).2.2;simp only[kN,xe];rw[if_pos (by omega),zf _ (by omega),ju,hx];simp[hr,hv]
  obtain⟨f2,r2⟩:=DF hR kD ha.length cV;obtain⟨S2,bc,bO,lS,ct⟩:=iW (u++u') σ' S' hR (FrzL.app.2 ⟨f1,f2⟩);obtain⟨DT,DU⟩:=Froz.app.1 lS
  have kF:∀k b,(u++u').any (λy=>y.1==k)=false->σ'.bx k = .live b->Uns b->∀g,blk (γ' k)=some g->∀o,¬S2 g o:=by
   intro k b hk hb gW g hg o;have cG:(σ'.upd (u++u')).bx k = .live b:=(fZ _ _ hk).trans hb;have bz:=bc.box k b cG;rcases gW with⟨ls,rfl⟩|⟨e,t,xs,rfl⟩
   .obtain⟨g',cur,e,ae,_,_,_,hS,_⟩:=bz;rw[ae]at hg;simp[blk]at hg;subst hg;exact hS rfl o
   .exact(bz.2 g hg).1 rfl o
  have oO:∀k∈ks,(u++u').any (λy=>y.1==k)=false:=by intro k hk;rw[kp];intro y hy he;have:=ji.1 r6 y hy;simp only[qt]at he;rw[he]at this;simp[hk]at this
  have fw:∀k,parK E.np k=true->(u++u').any (λy=>y.1==k)=false:=by intro k hk;rw[kp];intro y hy he;simp only[qt]at he;have:=(FrzL.app.2 ⟨f1,f2⟩ y hy).1;rw[he,hk]at this;simp at this
  have xi:=r1 S2 bO DT (λk hk g hg=>by
   obtain⟨⟨b,hb,hu⟩,_⟩:=p1 k hk;exact kF k b (oO k hk) hb hu g hg)
  have cw:=r2 S2 bO DU (λj x v g hx hv hr DN hg=>by
   obtain⟨b,hb,hu⟩:=DN;have hj:j<args.length:=(jk.1 hx).1;exact kF ((0+j)*64) b (fw _ (by simp[parK];omega)) hb hu g (by rw[cV j x v hx hv hr];exact hg))
  have ai:(results fn a'.tmps).run P w' = .ok (gT zs) w':=by
   have hm:=zD (P:=P) (w:=w') _ gQ;unfold results;rw[za];simp only[Sem.run_bind,Sem.run_map]
   erw [hm]
   simp only[Result.andThen_ok,Sem.run_pure];exact congrArg (Result.ok · w') (DK zs)
  have P6:∀m,fv=[.hd m]->∃ad len cap,yO args vals=some (.slice ad len cap)/\m<=len/\zs=[.slice ad m cap]:=λm hm=>by
   exact absurd (dD.2.2.1 m hm) (PY eI m)
  have P7:∀ns s,fv=[.raw ns s]->B6 w.heap.size S2 w' ns s (gT zs):=λns s hm=>absurd (dD.2.2.2 ns s hm) (PZ eI ns s);refine⟨gT zs,ai,⟨fv,os⟩,hk,gT zs,S2,zs,rfl,⟨rfl,dD.1 _ _ xi,λg hg=>?_,?_,cw,λg o hs=>⟨bc.ext g o hs,?_⟩,λg o h=>(bc.new g o h).imp id (λh=>h.imp id And.left),bc.here,bc.below,bc.grow,bc.os,bc.tape,bc.output,P7,P6⟩⟩
  .rw[dD.2.1,n1]at hg;obtain⟨k,aS,P8⟩:=z4.1 hg;obtain⟨⟨b,hb,_⟩,hp⟩:=p1 k aS;rcases hR.own k b g hb P8 with h|h
   .exact h.imp id And.left
   .rw[hp]at h;simp at h
  .rw[dD.2.1,n1];exact B7 hR (rW lK) (λk aS=>by obtain⟨⟨b,hb,_⟩,_⟩:=p1 k aS;exact⟨b,hb⟩)
  .refine World.cell?_of_block (bc.below g (hS g o hs) (λhm=>?_));obtain⟨i,x,v,hx,hv,hb⟩:=DJ hm;obtain⟨v',eS,DO⟩:=ha.get i x hx;rw[hv]at eS;simp at eS;subst eS;exact IK DO hb o hs
 cases ex with
 |exit i=>simp at hk
 |normal=>exact DR a0.defers aJ.defers.symm hle.marks aJ (λw2 hw=>ea hk w2 hw)
 |ret=>exact DR a0.defers aJ.defers.symm hle.marks aJ (λw2 hw=>ea hk w2 hw)
end
section
variable{E:Env}
def LFun(L:Nat->Snap->(R:Type)->(Ex->Snap->Option R)->Option R):Prop:=
 ∀b s,∃o:Option (Ex×Snap),∀(R:Type)(k:Ex->Snap->Option R),L b s R k=o.bind λx=>k x.1 x.2
def MFun(M:Nat->Snap->(R:Type)->(Snap->Option R)->Option R):Prop:=∀b s,∃o:Option Snap,∀(R:Type)(k:Snap->Option R),M b s R k=o.bind k
def Det{α:Type}(f:(R:Type)->(α->Option R)->Option R):Prop:=∃o:Option α,∀(R:Type)(k:α->Option R),f R k=o.bind k
theorem Det.val{α:Type}(x:α):Det (λ_ k=>k x):=⟨some x,λ_ _=>rfl⟩
theorem Det.no{α:Type}:Det (λR (_:α->Option R)=>none):=⟨none,λ_ _=>rfl⟩
theorem Det.cond{α:Type}{f g:(R:Type)->(α->Option R)->Option R}(b:Bool)(h:Det f)(h':Det g):Det (λR k=>cond b (f R k) (g R k)):=by
 cases b with
 |true=>exact h
 |false=>exact h'
theorem Det.bind{α β:Type}{f:(R:Type)->(α->Option R)->Option R}{g:α->(R:Type)->(β->Option R)->Option R}(h:Det f)(h':∀a,Det (g a)):Det (λR k=>f R λa=>g a R k):=by
 obtain⟨o,ho⟩:=h;cases o with
 |none=>exact⟨none,λR k=>ho R _⟩
 |some a=>obtain⟨o',su⟩:=h' a;exact⟨o',λR k=>(ho R _).trans (su R k)⟩
theorem Det.congr{α:Type}{f g:(R:Type)->(α->Option R)->Option R}(h:Det f)(e:∀R k,g R k=f R k):Det g:=by
 obtain⟨o,ho⟩:=h;exact⟨o,λR k=>(e R k).trans (ho R k)⟩
theorem zG(hF:CFun E.C)(hz:E.nz=false)(p:Bool)(σ:St)(act:List (Nat×Bool))(o:Oper):Det (λR (k:St->Option R)=>run1 E p σ act o k):=by
 unfold run1;simp only[hz,j5];split
 .exact .no
 .exact .cond _ (.val _) .no
 .rename_i f args mk _;refine Det.bind (f:=λR k=>E.C f args R k) (hF f args) λret=>?_;split
  .exact .val _
  .exact .no
theorem IP:∀(l:List (Nat×Bool))(σ:St),Det (λR (k:St×Bool->Option R)=>pd l σ λa b=>k (a,b))
 |[],σ=> .val _
 |(s,w)::r,σ=>by
  simp only[pd]
  refine(Det.bind (IP r σ) (g:=λx R k=>match x.2 with
   |true=>match Bd r x.1 s with
    |some v=>cond v (k (x.1.setS s (.one (.one (.d .bool true))),w)) (k (x.1.setS s (.one (.one (.d .bool false))), !w))
    |none=>none
   |false=>k (x.1,false)) λx=>?_).congr λR k=>rfl
  obtain⟨σ1,a⟩:=x;cases a with
  |true=>
   dsimp only
   split
   .exact .cond _ (.val _) (.val _)
   .exact .no
  |false=>exact .val _
theorem P9(hF:CFun E.C)(hz:E.nz=false)(ops:Array Oper)(σ:St)(o:Oper):Det (λR (k:St->Option R)=>u5 E ops σ o k):=by
 unfold u5;split
 .split
  .exact zG hF hz _ _ _ _
  .exact .no
 .rename_i g _
  have ly:Det (λR (k:St->Option R)=>pd (σ.chain 40 g) σ λσ' a=>match a with
    |true=>run1 E true σ' (σ.chain 40 g) o k
    |false=>k (σ'.put o.dst (.one (.one .dead)))):=by
   refine(Det.bind (IP (σ.chain 40 g) σ) (g:=λx R k=>match x.2 with
    |true=>run1 E true x.1 (σ.chain 40 g) o k
    |false=>k (x.1.put o.dst (.one (.one .dead)))) λx=>?_).congr λR k=>rfl
   obtain⟨σ1,a⟩:=x;cases a with
   |true=>exact zG hF hz _ _ _ _
   |false=>exact .val _
  dsimp only
  split
  .split
   .exact .cond _ (.val _) .no
   .exact ly
  .exact ly
theorem zH(hF:CFun E.C)(hz:E.nz=false):∀(l:List Oper)(σ:St),Det (λR (k:St->Option R)=>mU E l σ k)
 |[],σ=> .val _
 |o::os,σ=>by
  simp only[mU];split
  .exact Det.bind (zG hF hz false σ [] o) λσ'=>zH hF hz os σ'
  .exact .no
theorem IQ(hF:CFun E.C)(hz:E.nz=false)(ops:Array Oper):∀(l:List Oper)(σ:St),Det (λR (k:St->Option R)=>tu E ops l σ k)
 |[],σ=> .val _
 |o::os,σ=>by
  simp only[tu];split
  .exact Det.bind (P9 hF hz ops σ o) λσ'=>IQ hF hz ops os σ'
  .exact .no
theorem Qa(hF:CFun E.C)(hz:E.nz=false)(ops:Array Oper)(σ:St):Det (λR (k:St->Option R)=>u6 E ops σ k):=by
 unfold u6;split
 .exact zH hF hz _ _
 .exact IQ hF hz _ _ _
theorem IU(hF:CFun E.C)(hz:E.nz=false)(σ:St)(o:Oper):Det (λR (k:St->Option R)=>runK E σ o k):=by
 unfold runK;split
 .rename_i c σ' _;exact .cond c (.val σ') .no
 .exact zG hF hz false σ [] o
theorem DV(hF:CFun E.C)(hz:E.nz=false):∀(l:List Oper)(σ:St),Det (λR (k:St->Option R)=>nK E l σ k)
 |[],σ=> .val σ
 |[o],σ=>by
  simp only[nK];split
  .exact IU hF hz σ o
  .exact .no
 |o::o2::os,σ=>by
  simp only[nK];split
  .split
   .split
    .exact .cond _ (DV hF hz os _) .no
    .exact .no
   .exact Det.bind (IU hF hz σ o) λσ'=>DV hF hz (o2::os) σ'
  .exact .no
theorem Qb(hF:CFun E.C)(hz:E.nz=false)(ops:Array Oper)(σ:St):Det (λR (k:St->Option R)=>u7 E ops σ k):=by
 unfold u7;split
 .exact DV hF hz _ _
 .exact .no
theorem DW(hF:CFun E.C)(hz:E.nz=false)(M Ai:List Nat)(σ:St)(o:Oper):Det (λR (k:St->Option R)=>runD E M Ai σ o k):=by
 unfold runD;split
 .exact .no
 .split
  .exact .cond _ (.val _) .no
  .exact .no
 .rename_i f args mk _;refine Det.bind (f:=λR k=>E.C f args R k) (hF f args) λret=>?_;split
  .split
   .exact .val _
   .exact .no
  .exact .no
theorem Qc(hF:CFun E.C)(hz:E.nz=false)(ops:Array Oper)(M Ai:List Nat)(σ:St)(o:Oper):Det (λR (k:St->Option R)=>vb E ops M Ai σ o k):=by
 unfold vb;split
 .exact DW hF hz _ _ _ _
 .split
  .split
   .exact .cond _ (.cond _ (DW hF hz _ _ _ _) (.val _)) (.cond _ (.val _) (DW hF hz _ _ _ _))
   .exact .val _
   .exact .no
  .exact .no
theorem IV(hF:CFun E.C)(hz:E.nz=false)(ops:Array Oper)(cl:List Nat)(A:List (List Nat)):∀(l:List Oper)(i:Nat)(σ:St),Det (λR (k:St->Option R)=>tw E ops cl A l i σ k)
 |[],_,σ=> .val _
 |o::os,i,σ=>by
  simp only[tw];split
  .exact Det.bind (Qc hF hz ops _ _ σ o) λσ'=>IV hF hz ops cl A os (i+1) σ'
  .exact .no
theorem Qd(hF:CFun E.C)(hz:E.nz=false)(ops:Array Oper)(A:List (List Nat))(σ:St):Det (λR (k:St->Option R)=>vc E ops A σ k):=by
 unfold vc;split
 .exact IV hF hz _ _ _ _ _ _
 .exact .no
theorem DX(np:Nat):∀(gs:List Gh)(σ:St),Det (λR (k:St->Option R)=>rD np gs σ k)
 |[],σ=> .val _
 |g::gs,σ=>by
  simp only[rD];split
  .exact .cond _ (DX np gs _) .no
  .exact .no
theorem IW{f:(R:Type)->St->(Ex->St->Option R)->Option R}(hf:∀σ,Det (λR (k:Ex×St->Option R)=>f R σ λe σ'=>k (e,σ'))):∀(n:Nat)(σ:St),
  Det (λR (k:Ex×St->Option R)=>pj (f R) n σ λe σ'=>k (e,σ'))
 |0,σ=> .no
 |n+1,σ=>by
  refine(Det.bind (hf σ) (g:=λz R k=>match z.1 with
   |.normal=>pj (f R) n z.2 λe σ'=>k (e,σ')
   |e=>k (e,z.2)) λz=>?_).congr λR k=>by
    simp only[pj];congr 1;try (funext e σ';cases e<;>rfl)
  obtain⟨e,σ'⟩:=z;cases e with
  |normal=>exact IW hf n σ'
  |exit i=>exact .val _
  |ret=>exact .val _
theorem Qe(hF:CFun E.C)(hz:E.nz=false)(hM:MFun E.M)(x y:Code)(σ:St):Det (λR (k:Ex×St->Option R)=>vf E x y σ λe σ'=>k (e,σ')):=by
 unfold vf;split
 .rename_i b _;split
  .split
   .refine .cond _ (Det.bind (zH hF hz _ σ) λσ1=>?_) .no;unfold mrGo;split
    .refine .cond _ ?_ .no;split
     .rename_i s _;obtain⟨o,ho⟩:=hM b s;exact Det.bind (f:=λR k=>E.M b s R k) ⟨o,λR k=>ho R _⟩ (g:=λs' R k=>k (Ex.normal,br E.np (E.keep b) s')) λz=> .val (Ex.normal,br E.np (E.keep b) z)
     .exact .no
    .exact .no
   .exact .no
  .exact .no
 .exact .no
theorem xj(hF:CFun E.C)(hz:E.nz=false)(hL:LFun E.L/\MFun E.M):∀(c:Code)(b:Nat)(σ:St),Det (λR (k:Ex×St->Option R)=>dk E b c σ λe σ'=>k (e,σ')):=by
 intro c;induction c with
 |skip=>intro b σ;exact .val _
 |region id ops draw=>
  intro b σ;cases draw with
  |true=>exact Det.bind (DX E.np (E.pre id) σ) λσ1=>Det.bind (Qd hF hz ops (E.dw id) σ1) λσ'=> .val (Ex.normal,σ')
  |false=>exact Det.bind (DX E.np (E.pre id) σ) λσ1=> .cond _ (Det.bind (Qb hF hz ops σ1) λσ'=> .val (Ex.normal,σ')) (Det.bind (Qa hF hz ops σ1) λσ'=> .val (Ex.normal,σ'))
 |seq x y mg mh=>
  intro b σ;simp only[dk];refine .cond _ (Qe hF hz hL.2 x y σ) ?_
  refine(Det.bind (mg b σ) (g:=λz R k=>match z.1 with
   |.normal=>dk E b y z.2 λe σ'=>k (e,σ')
   |e=>k (e,z.2)) λz=>?_).congr λR k=>by
    congr 1
    try (funext e σ';cases e<;>rfl)
  obtain⟨e,σ'⟩:=z;cases e with
  |normal=>exact mh b σ'
  |exit i=>exact .val _
  |ret=>exact .val _
 |cond c x y mg mh=>
  intro b σ;simp only[dk];split
  .exact .cond _ (mg b σ) (mh b σ)
  .exact .no
 |block id c ih=>
  intro b σ
  refine(Det.bind (ih id σ) (g:=λz R k=>match z.1 with
   |.exit i=>if i=id then k (.normal,z.2) else k (.exit i,z.2)
   |e=>k (e,z.2)) λz=>?_).congr λR k=>by
    simp only[dk];congr 1;try (funext e σ';cases e<;>rfl)
  obtain⟨e,σ'⟩:=z;cases e with
  |normal=>exact .val _
  |exit i=>
   dsimp only
   split
   .exact .val _
   .exact .val _
  |ret=>exact .val _
 |loop c ih=>
  intro b σ;simp only[dk];refine .cond _ .no (.cond _ ?_ ?_)
  .exact IW (f:=λR σ k=>dk E b c σ k) (λσ=>ih b σ) 2 σ
  split
  .rename_i s _;obtain⟨o,ho⟩:=hL.1 b s;exact Det.bind (f:=λR k=>E.L b s R λe s'=>k (e,s')) ⟨o,λR k=>ho R _⟩ (g:=λz R k=>k (z.1,br E.np (E.keepX b z.1) z.2)) λz=> .val _
  .exact .no
 |rangeFunc g ps x y _ _=>
  intro b σ;simp only[dk];split
  .split
   .rename_i kd _;split
    .rename_i s _;obtain⟨o,ho⟩:=hL.1 b (.s (.one (.d (.int .i64) (yl kd (List.length _))))::s);exact Det.bind (f:=λR k=>E.L b _ R λe s'=>k (e,s')) ⟨o,λR k=>ho R _⟩ (g:=λz R k=>k (z.1,br E.np (E.keepX b z.1) z.2)) λz=> .val _
    .exact .no
   .exact .no
  .exact .no
 |scope c ih=>intro b σ;exact ih b σ
 |label l=>intro b σ;exact .val _
 |exit i=>intro b σ;exact .val _
 |ret=>intro b σ;exact .val _
 |_=>intro b σ;exact .no
theorem Qf(hF:CFun E.C)(hz:E.nz=false)(hL:LFun E.L/\MFun E.M)(b:Nat)(g:Operand)(ps:Array Nat)(x y:Code)(s:Snap) :
  Det (λR (k:Option (List Item)×Ex×St->Option R)=>vg E b g ps x y s λp e σ'=>k (p,e,σ')):=by
 unfold vg;split
 .rename_i n s0;split
  .split
   .rename_i kd _;refine .cond _ (.val _) (.cond _ ?_ .no)
    refine(Det.bind (xj (E:=E.rnd ps x y) hF hz hL x 0 _) (g:=λz R k=>match z.1 with
     |.normal=>dk (E.rnd ps x y) 0 y z.2 λe σ'=>k (some [.s (.one (.d (.int .i64) (ym kd n)))],e,σ')
     |_=>none) λz=>?_).congr λR k=>by
      congr 1
      try (funext e σ';cases e<;>rfl)
    obtain⟨e,σ'⟩:=z;cases e with
    |normal=>exact Det.bind (xj (E:=E.rnd ps x y) hF hz hL y 0 σ') λz=> .val (_,z)
    |exit i=>exact .no
    |ret=>exact .no
   .exact .no
  .exact .no
 .exact .no
theorem Qg(hF:CFun E.C)(hz:E.nz=false)(hL:LFun E.L/\MFun E.M)(b:Nat)(p:MrP)(m:Nat)(s:Snap)(v:Ty)(q:Int)(z:v.den):Det (λR (k:Snap->Option R)=>tE E b p m s v q z k):=by
 unfold tE;refine Det.bind (zH (E:=E.mrE p.it m) hF hz _ _) λσ1=>?_
 refine(Det.bind (xj (E:=E.mrE p.it m) hF hz hL p.rest p.b6 σ1) (g:=λz R k=>cond (mrNx p.b6 z.1) (match eM E.np (E.keep b) z.2 with
  |some s'=>k s'
  |none=>none) none) λz=> .cond _ ?_ .no).congr λR k=>rfl
 split
 .exact .val _
 .exact .no
theorem Qh(hF:CFun E.C)(hz:E.nz=false)(hL:LFun E.L/\MFun E.M)(fn:Func)(args:List Arg):Det (λR (k:Ret->Option R)=>pq E fn args k):=by
 unfold pq;split
 .split
  .rename_i c _
   refine(Det.bind (xj hF hz hL c 0 (St.init args)) (g:=λz R k=>match z.1 with
    |.exit _=>none
    |_=>match nR E fn args z.2 with
     |some r=>k r
     |none=>none) λz=>?_).congr λR k=>rfl
   obtain⟨e,σ'⟩:=z;cases e<;>dsimp only<;>(try split)<;>first|exact .no|exact .val _
  .exact .no
 .exact .no
end
end Go.Lft
