/- Fw: what Zg do is what the nv says. -/
import Derived.Test.YtaieocafhcjelaaGreatELB
import Derived.Laws.Cover3
import Derived.RangeFuncNested
import Derived.OrdersIn
set_option linter.unusedVariables false
namespace Go.Lft
section
variable{N:NT}{np:Nat}{S0:aF}{w0:World}{refs:Refs}{σ:St}{a:Go.Act}{w:World}{S:aF}{γ:Nat->Value}
def dN(σ:St):Prop:=∀i,(σ.sl i).bare=true
theorem CG{d:Nat}(hd:d<a.tmps.size)(v:Value)(j:Nat):tm (a.put (some d) v) j=if j=d then v else tm a j:=by
 unfold tm Go.Act.put;by_cases h:j=d
 .subst h;simp[hd]
 .have h':d≠j:=λe=>h e.symm;simp[h,Array.getElem?_setIfInBounds_ne h']
theorem Qa{bx:Nat->BS}{d:Nat}(hd:d<a.tmps.size){v u:Value}{x:Slot}(h:gF S w γ bx (tm a) x u):gF S w γ bx (tm (a.put (some d) v)) (kill d x) u:=by
 cases x with
 |one c=>exact h
 |tup l=>exact h
 |und=>exact h
 |cnd s b c=>
  simp only[kill];split
  .exact⟨trivial,λh=>absurd rfl h⟩
  .rename_i ba;simp only[gF,CG hd,if_neg ba];exact h
theorem Iy(dst:Option Nat)(v:Value):(a.put dst v).tmps.size=a.tmps.size:=by cases dst<;>simp[Go.Act.put]
theorem Iz(dst:Option Nat)(v:Value):(a.put dst v).defers=a.defers:=by cases dst<;>rfl
theorem CH(hR:Rel N np S0 w0 refs σ a w S γ){dst:Option Nat}(hd:∀d,dst=some d->N.ok d){s:Slot}{v:Value}(hs:gF S w γ σ.bx (tm a) s v) :
  Rel N np S0 w0 refs (σ.put dst s) (a.put dst v) w S γ:=by
 cases dst with
 |none=>exact hR
 |some d=>
  have gf:d<a.tmps.size:=by rw[hR.size];exact(hd d rfl).1
  refine⟨(Iy _ _).trans hR.size,(Iz _ _).trans hR.defers,λi=>?_,hR.box,hR.own,hR.apart,hR.ext,hR.new,hR.here,hR.below,hR.grow,hR.os,hR.tape,hR.output,hR.par,hR.kept,λi u h=>?_⟩
  .show gF S w γ σ.bx (tm (a.put (some d) v)) (kill d (if i=d then s else σ.sl i)) (tm (a.put (some d) v) i);rw[CG gf];split
   .exact Qa gf hs
   .exact Qa gf (hR.slot i)
  .obtain⟨h1,h2⟩:=hR.fix i u h;refine⟨h1,?_⟩;show tm (a.put (some d) v) i=u;rw[CG gf,if_neg]
   .exact h2
   .rintro rfl
    have:=(hd i rfl).2;rw[h1]at this;simp at this
theorem Qb{d:Nat}{x:Slot}(h:x.bare=true):kill d x=x:=by cases x<;>first|rfl|simp[Slot.bare]at h
theorem Qc(hR:Rel N np S0 w0 refs σ a w S γ)(hc:dN σ){dst:Option Nat}(hd:∀d,dst=some d->N.ok d){s:Slot}{v:Value}(hs:gF S w γ σ.bx (tm a) s v)(hb:s.bare=true) :
  Rel N np S0 w0 refs (σ.setD dst s) (a.put dst v) w S γ/\dN (σ.setD dst s):=by
 have he:σ.setD dst s=σ.put dst s:=by
  cases dst with
  |none=>rfl
  |some d=>
   simp only[St.setD,St.setS,St.put];congr 1;funext j;split
   .exact(Qb hb).symm
   .exact(Qb (hc j)).symm
 refine⟨he▸CH hR hd hs,λi=>?_⟩;cases dst with
 |none=>exact hc i
 |some d=>
  simp only[St.setD,St.setS];split
  .exact hb
  .exact hc i
theorem IA{o:Oper}(h:ry N o=true):∀d,o.dst=some d->N.ok d:=by
 intro d hd;simpa[ry,hd,NT.ok]using h
theorem Qd{u:Ups}(h:dN σ):dN (σ.upd u):=by
 intro i;rw[zO];exact h i
theorem Zh{P:Program}{E:Env}(hT:cB P E.T)(hR:Rel E.N E.np S0 w0 refs σ a w S γ){o:Oper}{e:Bool}(h:nilT E σ o=some e) :
  ∃v b,(execOp a.eval o).run P w = .ok (.value v) w/\v = .bool b/\(b=true->e=true):=by
 unfold nilT at h;split at h
 .rename_i t x y ty bN;split at h
  .rename_i el xs ti hx hy BV;split at h
   .rename_i hl;simp only[j4]at h;subst h;have ex:=pt hR x;have ey:=pt hR y;rw[hx]at ex;rw[hy]at ey;obtain⟨ad,cap,dG,hlen,_,CI,_⟩:=ex.1;have Zi:a.eval x = .slice ad (List.length xs) cap:=by simpa using dG
    have Zj:a.eval y = .slice none 0 0:=ey.1;obtain⟨a',bB⟩:=HS hl;obtain⟨hd,_⟩:=pq hT BV bB;refine⟨.bool ad.isNone,ad.isNone,?_,rfl,λhb=>?_⟩
    .simp only[execOp,bN,Zi,Zj,eqGuard,binOp];simp[run_equal_slice_nil w t ti.elem ad (List.length xs) cap hd]
    .have:ad=none:=by cases ad<;>simp_all
     have:=CI this;have:List.length xs=0:=by omega
     cases xs with
     |nil=>rfl
     |cons=>simp at this
   .simp at h
  .simp at h
 .simp at h
theorem Fx{P:Program}{E:Env}(hT:cB P E.T)(hC:lJ P E.C)(hR:Rel E.N E.np S0 w0 refs σ a w S γ){act:List (Nat×Bool)}(aU:px (tm a) act){p:Bool}
  (hc:p=false->dN σ){o:Oper}(hd:ry E.N o=true){R:Type}{k:St->Option R}{r:R}(h:run1 E p σ act o k=some r){next:Go.Act->World->Prop}{Q:Exit->Go.Act->World->Prop}
  (hn:∀σ' a' w' S' γ',Rel E.N E.np S0 w0 refs σ' a' w' S' γ'->(p=false->dN σ')->k σ'=some r->next a' w'):o.wp P a w next Q:=by
 have hd:=IA hd
 have dt:∀(u:Ups)(s:Slot)(v:Value)(w':World)(S':aF)(γ':Nat->Value),Rel E.N E.np S0 w0 refs (σ.upd u) a w' S' γ'->gF S' w' γ' (σ.upd u).bx (tm a) s v->s.bare=true->
   k (cond p ((σ.upd u).put o.dst s) ((σ.upd u).setD o.dst s))=some r->next (a.put o.dst v) w':=by
  intro u s v w' S' γ' cV hs hb hk;cases p with
  |true=>exact hn _ _ _ _ _ (CH cV hd hs) (by simp) hk
  |false=>obtain⟨h1,h2⟩:=Qc cV (Qd (hc rfl)) hd hs hb;exact hn _ _ _ _ _ h1 (λ_=>h2) hk
 unfold run1 at h;split at h
 .rename_i e he
  have he:nilT E σ o=some e:=by
   cases hz:E.nz with
   |true=>rw[hz]at he;exact he
   |false=>rw[hz]at he;simp at he
  obtain⟨v,b,aL,rfl,hb⟩:=Zh (P:=P) hT hR he;obtain⟨h1,h2⟩:=XK h;unfold Oper.wp;rw[aL,Oper.upon_value];cases b with
  |true=>exact dt [] (.one (.one (.d .bool true))) (.bool true) w S γ hR ⟨rfl,λ_=>rfl⟩ rfl (h2 (hb rfl))
  |false=>exact dt [] (.one (.one (.d .bool false))) (.bool false) w S γ hR ⟨rfl,λ_=>rfl⟩ rfl h1
 split at h
 .simp at h
 .rename_i iE s u ho;cases iE with
  |false=>simp at h
  |true=>
   obtain⟨⟨v,w',S',γ',aL,cV,hs⟩,hb⟩:=Iv hT hR aU (λ_=> .inl rfl) ho;unfold Oper.wp;rcases aL with aL|⟨aL,rfl⟩
   .rw[aL,Oper.upon_value];exact dt u s v w' S' γ' cV hs hb h
   .rw[aL,Oper.upon_skip];exact dt u s undef w' S' γ' cV hs hb h
 .rename_i f args mk ho;obtain⟨hf,eN⟩:=hC f args R _ r h;obtain⟨vals,aL,mr,hb⟩:=P9 hR aU (λ_=> .inl rfl) ho hf eN;unfold Oper.wp;rw[aL,Oper.upon_enter];refine mr.mono ?_
  rintro e w' ⟨ret,hk,ar⟩
  split at hk
  .rename_i s u bG;obtain⟨v,S',γ',rfl,cV,hs⟩:=ar s u bG;exact dt u s v w' S' γ' cV hs (hb ret s u bG) hk
  .simp at hk
theorem Qe{P:Program}{E:Env}(hT:cB P E.T)(hC:lJ P E.C){ops:Array Oper}(dO:bare ops=true){R:Type}{k:St->Option R}{r:R}{Q:Exit->Go.Act->World->Prop}
  (hn:∀σ' a' w' S' γ',Rel E.N E.np S0 w0 refs σ' a' w' S' γ'->dN σ'->k σ'=some r->Q .normal a' w') :
  ∀(n i:Nat)(σ:St)(a:Go.Act)(w:World)(S:aF)(γ:Nat->Value),i+n=ops.size->Rel E.N E.np S0 w0 refs σ a w S γ->dN σ->oI E (ops.toList.drop i) σ k=some r->
   wpOps P ops Q (List.range' i n) a w
 |0,i,σ,a,w,S,γ,hi,hR,hc,h=>by
  rw[jf (by simp;omega)]at h;exact hn _ _ _ _ _ hR hc h
 |n+1,i,σ,a,w,S,γ,hi,hR,hc,h=>by
  have aq:i<ops.size:=by omega
  rw[jc (by simpa using aq)]at h;simp only[oI]at h;split at h
  .rename_i hd;have ho:ops[i]? = some ops[i]:=jt aq;simp only[List.range'_succ,wpOps,ho];have hg:ops[i].guard=none:=by have:=jz.1 dO ops[i] (by simp);simpa using this
   have hw:Region.wanted ops[i] (yielded ops a.tmps)=true:=by simp[Region.wanted,hg]
   simp only[hw,if_true];refine .inl (Fx hT hC hR (act:=[]) (λg hg=>by simp at hg) (p:=false) (λ_=>hc) (by simpa using hd) (by simpa using h) (λσ' a' w' S' γ' cV eE hk=>?_));exact Qe hT hC dO hn n (i+1) σ' a' w' S' γ' (by omega) cV (eE rfl) hk
  .simp at h
theorem Fy{ops:Array Oper}{o:Oper}{g:Nat×Bool}(h:ny ops o=some g):Region.wanted o (yielded ops a.tmps)=true↔tm a g.1 = .bool g.2:=by
 unfold ny at h;split at h
 .simp at h
 .rename_i j wn IB;split at h
  .rename_i oj iK;split at h
   .rename_i s hs;simp only[j4]at h;subst h;simp only[Region.wanted,IB,yielded,iK,j3,hs,tm];cases hq:a.tmps[s]? with
    |none=>
     have:a.tmps.getD s undef=undef:=by simp[hq]
     rw[this];simp[undef]
    |some v=>
     have:a.tmps.getD s undef=v:=by simp[hq]
     rw[this];cases v<;>simp
   .simp at h
  .simp at h
theorem IC(hR:Rel N np S0 w0 refs σ a w S γ):∀(n:Nat)(g:Nat×Bool),tm a g.1 = .bool g.2->px (tm a) (σ.chain n g)
 |0,g,h=>by intro x hx;simp only[St.chain,ke]at hx;subst hx;exact h
 |n+1,g,h=>by
  simp only[St.chain];have hs:=hR.slot g.1;split
  .rename_i s b c hc;rw[hc]at hs
   have h2:tm a s = .bool b:=by
    rcases hs with hs|hs
    .exact hs.1
    .have:tm a g.1=undef:=hs.2;rw[h]at this;simp[undef]at this
   intro x hx;rcases je.1 hx with rfl|hx
   .exact h
   .exact IC hR n (s,b) h2 x hx
  .intro x hx;simp only[ke]at hx;subst hx;exact h
theorem Zk:∀(n:Nat)(g:Nat×Bool),g∈σ.chain n g
 |0,g=>by simp[St.chain]
 |n+1,g=>by simp only[St.chain];split<;>simp
theorem Qf(hR:Rel N np S0 w0 refs σ a w S γ):∀{l:List (Nat×Bool)}{b:Bool},actB σ l=some b->px (tm a) l->b=true
 |[],b,h,_=>by simp[actB]at h;exact h
 |(s,wn)::r,b,h,ha=>by
  have ht:tm a s = .bool wn:=ha (s,wn) (by simp);simp only[actB]at h;split at h
  .rename_i v hv
   have Zl:v=wn:=by
    have hs:=hR.slot s;unfold gval at hv;split at hv
    .rename_i v' eu;simp only[j4]at hv;subst hv;rw[eu]at hs;have:tm a s = .bool v':=rA hs;rw[ht]at this;simpa using this.symm
    .rename_i s' b' v' eu;simp only[j4]at hv;subst hv;rw[eu]at hs;rcases hs with hs|hs
     .have:tm a s = .bool v':=rA hs.2;rw[ht]at this;simpa using this.symm
     .have:tm a s=undef:=hs.2;rw[ht]at this;simp[undef]at this
    .simp at hv
   subst Zl;split at h
   .simp only[j4]at h;rw[<-h];cases v<;>rfl
   .split at h
    .rename_i b2 fc;simp only[j4]at h;have:=Qf hR fc (λg hg=>ha g (by simp[hg]));rw[<-h,this];cases v<;>rfl
    .simp at h
  .simp at h
theorem ID(hR:Rel N np S0 w0 refs σ a w S γ){s:Nat}{x:Slot}(h:gF S w γ σ.bx (tm a) x (tm a s)):Rel N np S0 w0 refs (σ.setS s x) a w S γ:=by
 refine⟨hR.size,hR.defers,λi=>?_,hR.box,hR.own,hR.apart,hR.ext,hR.new,hR.here,hR.below,hR.grow,hR.os,hR.tape,hR.output,hR.par,hR.kept,hR.fix⟩;simp only[St.setS];split
 .rename_i hi;subst hi;exact h
 .exact hR.slot i
theorem Qg{R:Type}:∀(l:List (Nat×Bool)){σ:St}{k:St->Bool->Option R}{r:R},Rel N np S0 w0 refs σ a w S γ->uf l σ k=some r->
  ∃σ' b,Rel N np S0 w0 refs σ' a w S γ/\k σ' b=some r/\(b=true↔px (tm a) l)
 |[],σ,k,r,hR,h=>⟨σ,true,hR,h,by simp[px]⟩
 |(s,wn)::l,σ,k,r,hR,h=>by
  simp only[uf]at h;obtain⟨σ1,b1,bu,dE,da⟩:=Qg l hR h;cases b1 with
  |false=>
   refine⟨σ1,false,bu,dE,?_⟩;simp only[kn,false_iff]at da ⊢
   exactλha=>da (λg hg=>ha g (by simp[hg]))
  |true=>
   have xh:=da.1 rfl;simp only at dE;split at dE
   .rename_i v hv
    have ht:tm a s = .bool v:=by
     have hs:=bu.slot s;unfold Hy at hv;split at hv
     .rename_i v' eu;simp only[j4]at hv;subst hv;rw[eu]at hs;exact rA hs
     .rename_i s' b' v' eu;split at hv
      .rename_i hm;simp only[j4]at hv;subst hv;rw[eu]at hs;have iL:(s',b')∈l:=by simpa using hm
       have:=xh _ iL;rcases hs with hs|hs
       .exact rA hs.2
       .exact absurd this hs.1
      .simp at hv
     .simp at hv
    have CJ:∀b,b=v->Rel N np S0 w0 refs (σ1.setS s (.one (.one (.d .bool b)))) a w S γ:=by
     rintro b rfl
     refine ID bu ⟨?_,λ_=>?_⟩
     .show Rep S w .bool b [tm a s];rw[ht];rfl
     .rw[ht];rfl
    cases v with
    |true=>
     simp only[j5]at dE;refine⟨_,wn,CJ true rfl,dE,?_⟩;constructor
     .rintro rfl g hg
      rcases je.1 hg with rfl|hg
      .exact ht
      .exact xh g hg
     .intro ha;have:=ha (s,wn) (by simp);rw[ht]at this;simpa using this.symm
    |false=>
     simp only[j6]at dE;refine⟨_, !wn,CJ false rfl,dE,?_⟩;constructor
     .intro hw g hg;have IE:wn=false:=by simpa using hw
      subst IE;rcases je.1 hg with rfl|hg
      .exact ht
      .exact xh g hg
     .intro ha;have:=ha (s,wn) (by simp);rw[ht]at this;have:false=wn:=by simpa using this
      rw[<-this];rfl
   .simp at dE
theorem Zm{P:Program}{E:Env}(hT:cB P E.T)(hC:lJ P E.C)(hR:Rel E.N E.np S0 w0 refs σ a w S γ){ops:Array Oper}{o:Oper}(hd:ry E.N o=true)
  {R:Type}{k:St->Option R}{r:R}(h:BD E ops σ o k=some r){next:Go.Act->World->Prop}{Q:Exit->Go.Act->World->Prop}
  (hn:∀σ' a' w' S' γ',Rel E.N E.np S0 w0 refs σ' a' w' S' γ'->k σ'=some r->next a' w') :
  if Region.wanted o (yielded ops a.tmps) then o.wp P a w next Q\/(o.asks P a w/\LetsOut Q) else next (a.put o.dst undef) w:=by
 have nL:=IA hd;unfold BD at h;split at h
 .split at h
  .rename_i hg;have hw:Region.wanted o (yielded ops a.tmps)=true:=by simp[Region.wanted,hg]
   simp only[hw,if_true];exact .inl (Fx hT hC hR (act:=[]) (λg hg=>by simp at hg) (p:=true) (by simp) hd h (λσ' a' w' S' γ' cV _ hk=>hn σ' a' w' S' γ' cV hk))
  .simp at h
 .rename_i g hg;dsimp only at h;have CK:=Fy (a:=a) hg
  have uO:uf (σ.chain 40 g) σ (λσ' a=>match a with
    |true=>run1 E true σ' (σ.chain 40 g) o k
    |false=>k (σ'.put o.dst (.one (.one .dead))))=some r->
    if Region.wanted o (yielded ops a.tmps) then o.wp P a w next Q\/(o.asks P a w/\LetsOut Q) else next (a.put o.dst undef) w:=by
   intro hs;obtain⟨σ',b,cV,hk,hb⟩:=Qg _ hR hs;cases b with
   |true=>have aU:=hb.1 rfl;have hw:=CK.2 (aU g (Zk 40 g));simp only[hw,if_true];exact .inl (Fx hT hC cV aU (p:=true) (by simp) hd hk (λσ' a' w' S' γ' cV _ hk=>hn σ' a' w' S' γ' cV hk))
   |false=>
    have hw:¬Region.wanted o (yielded ops a.tmps)=true:=λhw=>by
     have:=hb.2 (IC hR 40 g (CK.1 hw));simp at this
    simp only[hw];exact hn _ _ _ _ _ (CH cV nL (s:= .one (.one .dead)) (v:=undef) ⟨trivial,λh=>absurd rfl h⟩) hk
  split at h
  .rename_i iE c ho;split at h
   .rename_i ab bR;by_cases hw:Region.wanted o (yielded ops a.tmps)=true
    .have aU:=IC hR 40 g (CK.1 hw);have:=Qf hR bR aU;subst this;simp only[hw,if_true];cases iE with
     |false=>simp at h
     |true=>
      simp only[jq,Bool.or_false,j5]at h;obtain⟨⟨v,w',S',γ',aL,cV,hs⟩,hb⟩:=Iv hT hR aU (λ_=> .inl rfl) ho;have kD:=CH cV nL (s:= .cnd g.1 g.2 c) (v:=v) (.inl ⟨CK.1 hw,hs⟩);refine .inl ?_;unfold Oper.wp;rcases aL with aL|⟨aL,rfl⟩
      .rw[aL,Oper.upon_value];exact hn _ _ _ _ _ kD h
      .rw[aL,Oper.upon_skip];exact hn _ _ _ _ _ kD h
    .simp only[hw]
     have hk:k (σ.put o.dst (.cnd g.1 g.2 c))=some r:=by
      cases hc:(iE || !ab) with
      |true=>rw[hc]at h;exact h
      |false=>rw[hc]at h;simp at h
     exact hn _ _ _ _ _ (CH hR nL (s:= .cnd g.1 g.2 c) (v:=undef) (.inr ⟨λhh=>hw (CK.2 hh),rfl⟩)) hk
   .exact uO h
  .exact uO h
theorem Zn(hR:Rel N np S0 w0 refs σ a w S γ):Rel N np S0 w0 refs σ.clear a w S γ/\dN σ.clear:=by
 refine⟨⟨hR.size,hR.defers,λi=>?_,hR.box,hR.own,hR.apart,hR.ext,hR.new,hR.here,hR.below,hR.grow,hR.os,hR.tape,hR.output,hR.par,hR.kept,hR.fix⟩,λi=>?_⟩
 .have:=hR.slot i;simp only[St.clear];cases hs:σ.sl i with
  |one c=>rw[hs]at this;exact this
  |tup l=>rw[hs]at this;exact this
  |und=>rw[hs]at this;exact this
  |cnd s b c=>exact⟨trivial,λh=>absurd rfl h⟩
 .simp only[St.clear];cases σ.sl i<;>rfl
theorem Qh{P:Program}{E:Env}(hT:cB P E.T)(hC:lJ P E.C){ops:Array Oper}{R:Type}{k:St->Option R}{r:R}{Q:Exit->Go.Act->World->Prop}
  (hn:∀σ' a' w' S' γ',Rel E.N E.np S0 w0 refs σ' a' w' S' γ'->dN σ'->k σ'=some r->Q .normal a' w') :
  ∀(n i:Nat)(σ:St)(a:Go.Act)(w:World)(S:aF)(γ:Nat->Value),i+n=ops.size->Rel E.N E.np S0 w0 refs σ a w S γ->zC E ops (ops.toList.drop i) σ k=some r->
   wpOps P ops Q (List.range' i n) a w
 |0,i,σ,a,w,S,γ,hi,hR,h=>by
  rw[jf (by simp;omega)]at h;obtain⟨h1,h2⟩:=Zn hR;exact hn _ _ _ _ _ h1 h2 h
 |n+1,i,σ,a,w,S,γ,hi,hR,h=>by
  have aq:i<ops.size:=by omega
  rw[jc (by simpa using aq)]at h;simp only[zC]at h;split at h
  .rename_i hd;have ho:ops[i]? = some ops[i]:=jt aq;simp only[List.range'_succ,wpOps,ho];exact Zm hT hC hR (by simpa using hd) (by simpa using h) (λσ' a' w' S' γ' cV hk=>Qh hT hC hn n (i+1) σ' a' w' S' γ' (by omega) cV hk)
  .simp at h
theorem Qi{P:Program}{E:Env}(hT:cB P E.T)(hC:lJ P E.C)(hR:Rel E.N E.np S0 w0 refs σ a w S γ)(hc:dN σ){ops:Array Oper}{R:Type}{k:St->Option R}{r:R}
  {Q:Exit->Go.Act->World->Prop}(hn:∀σ' a' w' S' γ',Rel E.N E.np S0 w0 refs σ' a' w' S' γ'->dN σ'->k σ'=some r->Q .normal a' w')(h:oJ E ops σ k=some r) :
  wpOps P ops Q (List.range ops.size) a w:=by
 rw[List.range_eq_range'];unfold oJ at h;split at h
 .rename_i hb;exact Qe hT hC hb hn ops.size 0 σ a w S γ (by omega) hR hc (by simpa using h)
 .exact Qh hT hC hn ops.size 0 σ a w S γ (by omega) hR (by simpa using h)
end
section
variable{N:NT}{np:Nat}{S0:aF}{w0:World}{refs:Refs}{σ:St}{a:Go.Act}{w:World}{S:aF}{γ:Nat->Value}
theorem Zo(hR:Rel N np S0 w0 refs σ a w S γ){k:Nat}{b b':Bx}(hk:σ.bx k = .live b)(oO:iF b b')(cZ:∀bx',BxLe γ σ.bx γ bx'->ez S w γ bx' k b') :
  Rel N np S0 w0 refs (σ.setB k (.live b')) a w S γ:=by
 have hle:BxLe γ σ.bx γ (σ.setB k (.live b')).bx:=by
  intro k' bg;by_cases h:k'=k
  .subst h;rw[gg];exact⟨by simp,rfl,λx hx=>by simp at hx;subst hx;exact⟨b,hk,oO⟩⟩
  .rw[cE σ _ h];exact⟨bg,rfl,λx hx=>⟨x,hx,.refl x⟩⟩
 have bt:∀k' x,(σ.setB k (.live b')).bx k' = .live x->∃x',σ.bx k' = .live x':=by
  intro k' x hx;by_cases h:k'=k
  .subst h;exact⟨b,hk⟩
  .rw[cE σ _ h]at hx;exact⟨x,hx⟩
 refine Rel.step (bx':=(σ.setB k (.live b')).bx) hR (.refl S w) hle ?_ ?_ ?_ hR.new hR.here hR.below hR.grow hR.os hR.tape hR.output (λg _ _ h=>⟨rfl,λk' b' aP=>by obtain⟨b2,fc⟩:=bt k' b' aP;exact h k' b2 fc⟩)
 .intro k' x hx;by_cases h:k'=k
  .subst h;rw[gg]at hx;simp at hx;subst hx;exact cZ _ hle
  .rw[cE σ _ h]at hx;exact ez.keep (.refl S w) hle rfl (λg hg=>⟨rfl,λ_=>Iff.rfl⟩) (hR.box k' x hx)
 .intro k' x g hx hg;obtain⟨x',gN⟩:=bt k' x hx;exact hR.own k' x' g gN hg
 .intro k1 k2 x1 x2 g ba h1 h2 hg;obtain⟨y1,Zp⟩:=bt k1 x1 h1;obtain⟨y2,IF⟩:=bt k2 x2 h2;exact hR.apart k1 k2 y1 y2 g ba Zp IF hg
theorem All2.set_left{α β:Type}{R:α->β->Prop}:∀{as:List α}{bs:List β},All2 R as bs->∀(i:Nat)(x:α)(b:β),bs[i]? = some b->R x b->All2 R (as.set i x) bs
 |[],[],_,i,x,b,hb,_=>by simp at hb
 |_::_,_::_,h,0,x,b,hb,hr=>by simp at hb;subst hb;exact⟨hr,h.2⟩
 |_::_,_::_,h,i+1,x,b,hb,hr=>⟨h.1,All2.set_left h.2 i x b (by simpa using hb) hr⟩
 |[],_::_,h,_,_,_,_,_=>h.elim
 |_::_,[],h,_,_,_,_,_=>h.elim
theorem Qj:∀(l:List (Loc×Ty))(σ σ':St)(S:aF),Rel N np S0 w0 refs σ a w S γ->dN σ->BJ np l σ=some σ'->∃S',Rel N np S0 w0 refs σ' a w S' γ/\dN σ'
 |[],σ,σ',S,hR,hc,h=>by simp[BJ]at h;subst h;exact⟨S,hR,hc⟩
 |(l,t)::r,σ,σ',S,hR,hc,h=>by
  simp only[BJ]at h;split at h
  .rename_i v u hv;have bC:=CD (np:=np) (σ:=σ) (rd:=mskM σ.bx) (RdR.msk λ_=> .inl rfl)
   suffices hs:∃S',Rel N np S0 w0 refs (wo (σ.upd u) l (.d t v)) a w S' γ/\dN (wo (σ.upd u) l (.d t v)) by
    obtain⟨S1,bu,gy⟩:=hs;exact Qj r _ σ' S1 bu gy h
   cases l with
   |slot i=>
    cases eu:σ.sl i with
    |tup x=>simp only[hG,eu]at hv;simp[ie]at hv
    |cnd x y z=>simp only[hG,eu]at hv;simp[ie]at hv
    |und=>simp only[hG,eu]at hv;simp[ie]at hv
    |one c=>
     cases c with
     |st ls=>simp only[hG,eu]at hv;simp[ie]at hv
     |av n b xs=>simp only[hG,eu]at hv;simp[ie]at hv
     |one x=>
      simp only[hG,eu]at hv;have uP:=hR.slot i;rw[eu]at uP;obtain⟨fa,hp⟩:=uu bC hv uP.1;obtain⟨S1,bu,cu,gP,_⟩:=nI u σ S hR fa;have bq:=hp S1 w cu gP;refine⟨S1,?_,?_⟩
      .simp only[wo,zO,eu];exact ID bu ⟨bq,λ_=>Rep.one _ _ _ bq _ (ke.2 rfl)⟩
      .intro j;simp only[wo,zO,eu,St.setS];split
       .rfl
       .exact hc j
   |cell k c=>
    have mu:hG σ (.cell k c) ≠ .dead:=λhd=>by rw[hd]at hv;simp[ie]at hv
    cases ff:σ.bx k with
    |free=>simp[hG,ff]at mu
    |gone=>simp[hG,ff]at mu
    |live b=>
     cases b with
     |lst e b xs f=>simp[hG,ff]at mu
     |arr n b xs=>simp[hG,ff]at mu
     |cell ls f=>
      cases f with
      |true=>simp[hG,ff]at mu
      |false=>
       have hl:hG σ (.cell k c)=ls.getD c .dead:=by simp[hG,ff]
       rw[hl]at hv mu;obtain⟨g,cur,e,h1,h2,h3,h4,h5,h6⟩:=hR.box k _ ff;cases hg:ls[c]? with
       |none=>simp[hg]at mu
       |some x=>
        have Zq:ls.getD c .dead=x:=by simp[hg]
        rw[Zq]at hv;obtain⟨z,hz,Fz⟩:=h3.get c x hg;obtain⟨fa,hp⟩:=uu bC hv Fz;obtain⟨S1,bu,cu,gP,dJ⟩:=nI u σ S hR fa;have bq:=hp S1 w cu gP;have sT:=dJ.cell ff;refine⟨S1,?_,?_⟩
        .simp only[wo,sT];refine Zo bu sT trivial (λbx' hle=>?_);obtain⟨g',im,e',jU,jM,uH,Zr,Zs,h6'⟩:=bu.box k _ sT;rw[h1]at jU;simp at jU;subst jU;rw[h2]at jM;simp at jM;obtain⟨rfl,rfl⟩:=jM;exact⟨g,cur,e,h1,h2,All2.set_left (uH.mono (λx u hx=>bO.keep (.refl S1 w) hle hx)) c _ z hz bq,Zr,Zs,by simp⟩
        .intro j;simp only[wo,sT];show ((σ.upd u).sl j).bare=true;rw[zO];exact hc j
  .simp at h
theorem CL:∀(l:List nw)(σ σ':St)(S:aF),Rel N np S0 w0 refs σ a w S γ->dN σ->uh np l σ=some σ'->∃S',Rel N np S0 w0 refs σ' a w S' γ/\dN σ'
 |[],σ,σ',S,hR,hc,h=>by simp[uh]at h;subst h;exact⟨S,hR,hc⟩
 |x::r,σ,σ',S,hR,hc,h=>by
  simp only[uh]at h;split at h
  .split at h
   .split at h
    .split at h
     .rename_i e b xs f ff;split at h
      .simp at h
      .rename_i hp;simp only[zq,not_or,Bool.not_eq_true]at hp;obtain⟨S1,bu,_⟩:=HU hR hp.2 ff hp.1;exact CL r _ σ' S1 bu (λi=>hc i) h
     .simp at h
    .exact CL r σ σ' S hR hc h
   .exact CL r σ σ' S hR hc h
  .exact CL r σ σ' S hR hc h
theorem oV:∀{l:List Nat}{i j:Nat},l.idxOf? i=some j->l[j]? = some i
 |[],i,j,h=>by simp at h
 |x::l,i,j,h=>by
  rw[List.idxOf?_cons]at h;split at h
  .rename_i he;simp at h he;subst h;subst he;rfl
  .cases hq:l.idxOf? i with
   |none=>simp[hq]at h
   |some j'=>simp[hq]at h;subst h;simpa using oV hq
theorem IG:∀{l:List Nat}{i:Nat},l.idxOf? i=none->i∉l
 |[],i,_=>by simp
 |x::l,i,h=>by
  rw[List.idxOf?_cons]at h;split at h
  .simp at h
  .rename_i he;have hq:l.idxOf? i=none:=by simpa using h
   have:=IG hq;simp only[je,not_or];exact⟨λe=>he (by simp[e]),this⟩
theorem IH{e:Nat}{t:Ty}{l:Loc}{k:Option Nat}{xs:List t.den}{f:Bool}(h:zF σ e t l=some (k,xs,f)) :
  (k=none/\isM e=false/\xs=[]/\hG σ l = .nil)\/∃k0,k=some k0/\hG σ l = .ol k0/\σ.bx k0 = .live (.lst e t xs f):=by
 unfold zF at h;split at h
 .rename_i hl;split at h
  .simp at h
  .rename_i hm;simp only[j4,j8]at h;exact .inl ⟨h.1.symm,by simpa using hm,h.2.1.symm,hl⟩
 .rename_i k0 hl;split at h
  .rename_i e' t' cD f' hb;split at h
   .rename_i v iH;split at h
    .rename_i he;simp only[j4,j8]at h;obtain⟨rfl,rfl,rfl⟩:=h;have:=lZ iH;cases this;subst he;exact .inr ⟨k0,rfl,hl,hb⟩
    .simp at h
   .simp at h
  .simp at h
 .simp at h
theorem FA{e:Nat}{t:Ty}:∀{ls:List Loc}{k:Option Nat}{xs:List t.den}{f:Bool},wm σ e t ls=some (k,xs,f)->
  (∃l∈ls,zF σ e t l=some (k,xs,f))/\∀l∈ls,∃cD f',zF σ e t l=some (k,cD,f')
 |[],_,_,_,h=>by simp[wm]at h
 |[l],k,xs,f,h=>by
  simp only[wm]at h;exact⟨⟨l,by simp,h⟩,λl' kC=>by simp at kC;subst kC;exact⟨_,_,h⟩⟩
 |l::l2::ls,k,xs,f,h=>by
  simp only[wm]at h;split at h
  .rename_i k1 Fi f1 k2 Pb f2 h1 h2;split at h
   .rename_i hk;simp only[j4,j8]at h;obtain⟨rfl,rfl,rfl⟩:=h;subst hk;obtain⟨_,ar⟩:=FA h2;refine⟨⟨l,by simp,h1⟩,λl' kC=>?_⟩;rcases je.1 kC with rfl|kC
    .exact⟨_,_,h1⟩
    .exact ar l' kC
   .simp at h
  .simp at h
def Qk(np:Nat)(σ:St)(bs:List Nat)(x:nw)(it:Item)(src:Option Nat):Prop:=
 ∃xs f f',wm σ x.e x.a x.locs=some (src,xs,f)/\it = .b (.live (.lst x.e x.a xs f'))/\∀k0,src=some k0->f'=f/\k0∉bs/\parK np k0=false
theorem Ql{bs:List Nat}:∀{L:List nw}{is:List Item}{ks:List Nat},zG np σ bs L=some (is,ks)->
  ∃eP:List (Option Nat),ks=eP.filterMap id/\ks.Nodup/\∀(j:Nat)(x:nw),L[j]? = some x->∃it src,is[j]? = some it/\eP[j]? = some src/\Qk np σ bs x it src
 |[],is,ks,h=>by
  simp[zG]at h;obtain⟨rfl,rfl⟩:=h;exact⟨[],rfl,zi,λj x hx=>by simp at hx⟩
 |x::L,is,ks,h=>by
  simp only[zG]at h;split at h
  .rename_i k xs f is' HD h1 h2;obtain⟨eP,e1,e2,e3⟩:=Ql h2;split at h
   .simp only[j4,j8]at h;obtain⟨rfl,rfl⟩:=h;refine⟨none::eP,by simp[e1],e2,λj y hy=>?_⟩;cases j with
    |zero=>simp at hy;subst hy;exact⟨_,none,rfl,rfl,xs,f,x.frz,h1,rfl,by simp⟩
    |succ j=>exact e3 j y (by simpa using hy)
   .rename_i k0;split at h
    .simp at h
    .rename_i hn;simp only[zq,not_or,Bool.not_eq_true,qc,jo]at hn;simp only[j4,j8]at h;obtain⟨rfl,rfl⟩:=h;refine⟨some k0::eP,by simp[e1],qp.2 ⟨hn.1.1,e2⟩,λj y hy=>?_⟩;cases j with
     |zero=>simp at hy;subst hy;exact⟨_,some k0,rfl,rfl,xs,f,f,h1,rfl,λk1 dE=>by simp at dE;subst dE;exact⟨rfl,hn.1.2,hn.2⟩⟩
     |succ j=>exact e3 j y (by simpa using hy)
  .simp at h
theorem Qm:∀{eP:List (Option Nat)},(eP.filterMap id).Nodup->∀{j j' k:Nat},eP[j]? = some (some k)->eP[j']? = some (some k)->j=j'
 |[],_,j,_,_,h,_=>by simp at h
 |s::eP,hn,j,j',k,h,h'=>by
  have dY:∀{i:Nat},eP[i]? = some (some k)->k∈eP.filterMap id:=λhi=>zm.2 ⟨some k,k9 hi,rfl⟩
  have xi:(eP.filterMap id).Nodup:=by
   cases s with
   |none=>simpa using hn
   |some y=>simp at hn;exact hn.2
  cases j with
  |zero=>
   cases j' with
   |zero=>rfl
   |succ j'=>simp at h h';subst h;simp at hn;exact absurd (by simpa using dY h') hn.1
  |succ j=>
   cases j' with
   |zero=>simp at h h';subst h';simp at hn;exact absurd (by simpa using dY h) hn.1
   |succ j'=>have:=Qm xi (j:=j) (j':=j') (k:=k) (by simpa using h) (by simpa using h');omega
theorem Qn:∀{l:List Nat},l.Nodup->∀{i j n:Nat},l[i]? = some n->l[j]? = some n->i=j
 |[],_,i,_,_,hi,_=>by simp at hi
 |x::l,h,i,j,n,hi,hj=>by
  obtain⟨h1,h2⟩:=qp.1 h;cases i with
  |zero=>
   cases j with
   |zero=>rfl
   |succ j=>simp at hi hj;subst hi;exact absurd (k9 hj) h1
  |succ i=>
   cases j with
   |zero=>simp at hi hj;subst hj;exact absurd (k9 hi) h1
   |succ j=>rw[Qn h2 (i:=i) (j:=j) (n:=n) (by simpa using hi) (by simpa using hj)]
end
section
variable{N:NT}{np:Nat}{S0:aF}{w0:World}{refs:Refs}{σ:St}{a:Go.Act}{w:World}{S:aF}{γ:Nat->Value}
theorem Zt{K:Keep}{l:Loc}{n:Nat}(h:BI K l=some n):∃(j:Nat)(x:nw),K.lists[j]? = some x/\x.name=n/\l∈x.locs:=by
 unfold BI at h;obtain⟨x,hq,hn⟩:=Option.map_eq_some_iff.1 h;have h1:=List.find?_some hq;obtain⟨j,hj⟩:=za.1 (List.mem_of_find?_eq_some hq);exact⟨j,x,hj,hn,by simpa using h1⟩
theorem Aa{K:Keep}{k:Nat}{x:BS}{b:Bx}(h:ug K k x = .live b):∃b0,x = .live b0/\iF b0 b:=by
 unfold ug at h;split at h
 .simp only[BS.live.injEq]at h;subst h;exact⟨_,rfl,trivial⟩
 .simp only[BS.live.injEq]at h;subst h;exact⟨_,rfl,.refl _⟩
 .simp only[BS.live.injEq]at h;subst h;exact⟨_,rfl,.refl _⟩
 .simp at h
theorem Ab{K:Keep}{k:Nat}{x:BS}:ug K k x ≠ .free:=by
 unfold ug;split<;>simp
theorem Qo{R:Leaf->Value->Prop}{f:Leaf×Nat->Leaf}:∀{ls:List Leaf}{cs:List Value}(n:Nat),(∀(j:Nat)(x:Leaf)(u:Value),ls[j]? = some x->cs[j]? = some u->R (f (x,n+j)) u)->ls.length=cs.length->
  All2 R ((ls.zipIdx n).map f) cs
 |[],[],_,_,_=>trivial
 |x::ls,c::cs,n,h,hl=>by
  refine⟨h 0 x c rfl rfl,Qo (n+1) (λj y u hy hu=>?_) (by simpa using hl)⟩;have:=h (j+1) y u (by simpa using hy) (by simpa using hu);rwa[show n+1+j=n+(j+1) by omega]
 |[],_::_,_,_,hl=>by simp at hl
 |_::_,[],_,_,hl=>by simp at hl
theorem Zu{K:Keep}{s:Snap}(hR:Rel N np S0 w0 refs σ a w S γ)(hs:HA np K σ=some s):∃γ',Rel N np S0 w0 refs (cS np K s) a w S γ'/\dN (cS np K s):=by
 unfold HA at hs;cases hL:zG np σ K.boxes K.lists with
 |none=>simp[hL]at hs
 |some p=>
 obtain⟨is,ks⟩:=p;simp only[hL]at hs;cases bH:K.ok np with
 |false=>simp[bH]at hs
 |true=>
 simp only[bH,if_true,j4]at hs;obtain⟨eP,hks,dy,CM⟩:=Ql hL;rw[hks]at dy;simp only[Keep.ok,jb]at bH;have xj:=Fm bH.1;have CC:∀(j:Nat)(x:nw),K.lists[j]? = some x->x.name∉K.boxes:=by intro j x hx;have:=jz.1 bH.2 x (k9 hx);simp only[jb]at this;simpa using this.1
 have uQ:∀(j:Nat)(x:nw),K.lists[j]? = some x->parK np x.name=false:=by intro j x hx;have:=jz.1 bH.2 x (k9 hx);simp only[jb]at this;simpa using this.2
 let γ':Nat->Value:=λn=>match K.boxes.idxOf? n with
  |some _=>γ n
  |none=>match (K.lists.map (·.name)).idxOf? n with
   |some j=>match eP[j]? with
    |some (some k)=>γ k
    |_=> .slice none 0 0
   |none=>γ n
 have ff:(cS np K s).bx=λn=>match K.boxes.idxOf? n with
  |some j=>jps s[K.slots.length+j]?
  |none=>match (K.lists.map (·.name)).idxOf? n with
   |some j=>jps s[K.slots.length+K.boxes.length+j]?
   |none=>if parK np n then .gone else .free:=rfl
 have hB:∀n,n∈K.boxes->(cS np K s).bx n=ug K n (σ.bx n)/\γ' n=γ n:=by
  intro n hn;rw[ff];cases hq:K.boxes.idxOf? n with
  |none=>exact absurd hn (IG hq)
  |some j=>have hj:=oV hq;refine⟨?_,by simp only[γ',hq]⟩;simp only[hq,<-hs];rw[k5 (by simp)];simp only[kb,Nat.add_sub_cancel_left];rw[List.getElem?_append_left (by simp;exact(jw.1 hj).1)];simp[hj,jps]
 have II:∀(j:Nat)(x:nw),K.lists[j]? = some x->∃it src,eP[j]? = some src/\Qk np σ K.boxes x it src/\(cS np K s).bx x.name=jps (some it)/\
   γ' x.name=(match src with|some k=>γ k|none=> .slice none 0 0):=by
  intro j x hx;obtain⟨it,src,h1,h2,h3⟩:=CM j x hx
  have uR:K.boxes.idxOf? x.name=none:=by
   cases hq:K.boxes.idxOf? x.name with
   |none=>rfl
   |some i=>exact absurd (k9 (oV hq)) (CC j x hx)
  have FB:(K.lists.map (·.name))[j]? = some x.name:=by simp[hx]
  cases hq:(K.lists.map (·.name)).idxOf? x.name with
  |none=>exact absurd (k9 FB) (IG hq)
  |some i=>
   have hi:=Qn xj (oV hq) FB;subst hi;refine⟨it,src,h2,h3,?_,?_⟩
   .rw[ff];simp only[uR,hq,<-hs];rw[k5 (by simp;omega),k5 (by simp;omega)];have:K.slots.length+K.boxes.length+i-(K.slots.map λi=>Item.s (EV K i (σ.sl i))).length-(K.boxes.map λk=>Item.b (ug K k (σ.bx k))).length=i:=by simp;omega
    rw[this,h1]
   .simp only[γ',uR,hq,h2];cases src<;>rfl
 have hF:∀n b,(cS np K s).bx n = .live b->n∈K.boxes\/∃(j:Nat)(x:nw),K.lists[j]? = some x/\x.name=n:=by
  intro n b hb;by_cases hn:n∈K.boxes
  .exact .inl hn
  .right;rw[ff]at hb
   have uR:K.boxes.idxOf? n=none:=by
    cases hq:K.boxes.idxOf? n with
    |none=>rfl
    |some i=>exact absurd (k9 (oV hq)) hn
   simp only[uR]at hb;split at hb
   .rename_i j hq;have hj:=oV hq;simp only[qm]at hj;cases hx:K.lists[j]? with
    |none=>simp[hx]at hj
    |some x=>simp[hx]at hj;exact⟨j,x,hx,hj⟩
   .split at hb<;>simp at hb
 have pP:∀(loc:Option Loc)(x:Leaf)(u:Value),bO S w γ σ.bx x u->(x ≠ .dead->One u)->(∀l,loc=some l->hG σ l=x)->
   bO S w γ' (cS np K s).bx (oK K loc x) u/\(oK K loc x ≠ .dead->One u):=by
  intro loc x u hl h1 xk;have gR:bO S w γ' (cS np K s).bx .dead u/\(Leaf.dead ≠ .dead->One u):=⟨trivial,λh=>absurd rfl h⟩
  have iI:∀n,loc.bind (BI K)=some n->∀(hu:(x = .nil)\/∃k,x = .ol k),bO S w γ' (cS np K s).bx (.ol n) u/\(Leaf.ol n ≠ .dead->One u):=by
   intro n hn hu;cases loc with
   |none=>simp at hn
   |some l=>
    simp only[j3]at hn;have mv:=xk l rfl;obtain⟨j,y,hy,Zv,sH⟩:=Zt hn;obtain⟨it,src,_,⟨xs,f,f',gS,Ac,xl⟩,CN,rK⟩:=II j y hy;obtain⟨_,ar⟩:=FA gS;obtain⟨cD,f1,pO⟩:=ar l sH;have cQ:One u:=h1 (by rcases hu with rfl|⟨k,rfl⟩<;>simp);rw[Zv]at CN rK;refine⟨⟨by rw[CN,Ac];simp[jps],cQ,λb _=>?_⟩,λ_=>cQ⟩;rw[rK];rcases IH pO with⟨rfl,_,_,fD⟩|⟨k0,rfl,uS,dm⟩
    .rw[mv]at fD;subst fD;exact hl
    .rw[mv]at uS;subst uS;exact hl.2.2 _ dm
  cases x with
  |dead=>exact gR
  |nil=>
   simp only[oK];split
   .rename_i n hn;exact iI n hn (.inl rfl)
   .exact⟨hl,h1⟩
  |d t v=>exact⟨hl,h1⟩
  |ip ls=>exact⟨hl,h1⟩
  |clo f caps=>exact⟨hl,h1⟩
  |clr f ks=>
   simp only[oK];split
   .rename_i hks;obtain⟨cv,hu,ha⟩:=hl;refine⟨⟨cv,hu,?_⟩,λ_=>h1 (by simp)⟩
    have go:∀(ks:List Nat)(zs:List Value),ks.all (λk=>K.boxes.contains k)=true->All2 (BP γ σ.bx) ks zs->All2 (BP γ' (cS np K s).bx) ks zs:=by
     intro ks;induction ks with
     |nil=>intro zs _ h;cases zs with|nil=>trivial|cons _ _=>exact h.elim
     |cons k ks ih=>
      intro zs hc h;cases zs with
      |nil=>exact h.elim
      |cons z zs=>simp only[List.all_cons,jb]at hc;obtain⟨da,fc⟩:=hB k (by simpa using hc.1);refine⟨⟨by rw[da];exact Ab,h.1.2.1,λb hb=>?_⟩,ih zs hc.2 h.2⟩;rw[da]at hb;obtain⟨b0,ew,_⟩:=Aa hb;rw[fc];exact h.1.2.2 b0 ew
    exact go ks cv.toList hks ha
   .exact gR
  |ep k i c=>exact gR
  |tl k i=>
   simp only[oK];split
   .rename_i hk;obtain⟨da,fc⟩:=hB k (by simpa using hk);refine⟨⟨by rw[da];exact Ab,hl.2.1,λb hb=>?_⟩,λ_=>hl.2.1⟩;rw[da]at hb;obtain⟨b0,ew,lP⟩:=Aa hb;have h3:=hl.2.2 b0 ew;rw[fc]
    cases b0<;>cases b<;>simp only[iF]at lP<;>first
     |exact lP.elim
     |exact h3.elim
     |(obtain⟨rfl,rfl,kC⟩:=lP;simp only at h3 ⊢;obtain⟨hm,h3⟩:=h3;rw[<-kC hm];exact⟨hm,h3⟩)
   .exact gR
  |hd k i=>
   simp only[oK];split
   .rename_i hk;obtain⟨da,fc⟩:=hB k (by simpa using hk);refine⟨⟨by rw[da];exact Ab,hl.2.1,λb hb=>?_⟩,λ_=>hl.2.1⟩;rw[da]at hb;obtain⟨b0,ew,lP⟩:=Aa hb;have h3:=hl.2.2 b0 ew;rw[fc]
    cases b0<;>cases b<;>simp only[iF]at lP<;>first
     |exact lP.elim
     |exact h3.elim
     |(obtain⟨rfl,rfl,kC⟩:=lP;simp only at h3 ⊢;obtain⟨hm,h3⟩:=h3;rw[<-kC hm];exact⟨hm,h3⟩)
   .exact gR
  |ol k=>
   simp only[oK];split
   .rename_i hk;obtain⟨da,fc⟩:=hB k (by simpa using hk);refine⟨⟨by rw[da];exact Ab,hl.2.1,λb hb=>?_⟩,λ_=>hl.2.1⟩;rw[da]at hb;obtain⟨b0,ew,_⟩:=Aa hb;rw[fc];exact hl.2.2 b0 ew
   .split
    .rename_i n hn;exact iI n hn (.inr ⟨k,rfl⟩)
    .exact gR
  |bp k c=>
   simp only[oK];split
   .rename_i hk;obtain⟨da,fc⟩:=hB k (by simpa using hk);refine⟨⟨by rw[da];exact Ab,hl.2.1,λb hb=>?_⟩,λ_=>hl.2.1⟩;rw[da]at hb;obtain⟨b0,ew,_⟩:=Aa hb;rw[fc];exact hl.2.2 b0 ew
   .exact gR
 have fP:∀n b,(cS np K s).bx n = .live b->(n∈K.boxes/\γ' n=γ n/\∃b0,σ.bx n = .live b0)\/(blk (γ' n)=none)\/
   ∃(j:Nat)(x:nw)(k:Nat)(b0:Bx),K.lists[j]? = some x/\x.name=n/\eP[j]? = some (some k)/\γ' n=γ k/\σ.bx k = .live b0/\k∉K.boxes/\parK np k=false:=by
  intro n b hb;rcases hF n b hb with hn|⟨j,x,hx,rfl⟩
  .obtain⟨h1,h2⟩:=hB n hn;rw[h1]at hb;obtain⟨b0,ew,_⟩:=Aa hb;exact .inl ⟨hn,h2,b0,ew⟩
  .obtain⟨it,src,xl,⟨xs,f,f',gS,Ac,rL⟩,CN,rK⟩:=II j x hx;obtain⟨⟨l,_,pO⟩,_⟩:=FA gS;rcases IH pO with⟨rfl,_,_,_⟩|⟨k,rfl,_,dm⟩
   .exact .inr (.inl (by rw[rK];rfl))
   .obtain⟨_,h2,h3⟩:=rL k rfl;exact .inr (.inr ⟨j,x,k,_,hx,rfl,xl,rK,dm,h2,h3⟩)
 refine⟨γ',⟨hR.size,hR.defers,?_,?_,?_,?_,hR.ext,hR.new,hR.here,hR.below,hR.grow,hR.os,hR.tape,hR.output,?_,λg o h=>⟨(hR.kept g o h).1,λn b hb dm=>by
  have dM:=(hR.kept g o h).2;rcases fP n b hb with⟨_,e,b0,ew⟩|e|⟨j,x,k,b0,_,_,_,e,ew,_⟩
  .rw[e]at dm;exact dM n b0 ew dm
  .rw[e]at dm;simp at dm
  .rw[e]at dm;exact dM k b0 ew dm⟩,hR.fix⟩,?_⟩
 ·-- slots
  intro i
  have eu:(cS np K s).sl i=match K.slots.idxOf? i with
   |some j=>wq s[j]?
   |none=> .one (.one .dead):=rfl
  rw[eu];cases hq:K.slots.idxOf? i with
  |none=>exact⟨trivial,λh=>absurd rfl h⟩
  |some j=>
   have hj:=oV hq;have CO:s[j]? = some (.s (EV K i (σ.sl i))):=by rw[<-hs,List.getElem?_append_left (by simp;exact(jw.1 hj).1)];simp[hj]
   simp only[CO,wq];have uP:=hR.slot i;show bJ S w γ' (cS np K s).bx (EV K i (σ.sl i)) _;cases l7:σ.sl i with
   |tup l=>exact⟨trivial,λh=>absurd rfl h⟩
   |cnd x y z=>exact⟨trivial,λh=>absurd rfl h⟩
   |und=>exact⟨trivial,λh=>absurd rfl h⟩
   |one c=>
    rw[l7]at uP;cases c with
    |one x=>exact pP (some (.slot i)) x _ uP.1 uP.2 (λl hl=>by simp at hl;subst hl;simp[hG,l7])
    |st ls=>
     obtain⟨cs,hu,ar,h1⟩:=uP;refine⟨cs,hu,?_,h1⟩;refine All2.map_left.2 ?_
     have:∀{ls:List Leaf}{cs:List Value},All2 (bO S w γ σ.bx) ls cs->(∀u∈cs,One u)->All2 (λx u=>bO S w γ' (cS np K s).bx (oK K none x) u) ls cs:=by
      intro ls;induction ls with
      |nil=>intro cs h _;cases cs with|nil=>trivial|cons _ _=>exact h.elim
      |cons x ls ih=>
       intro cs h h1;cases cs with
       |nil=>exact h.elim
       |cons u cs=>exact⟨(pP none x u h.1 (λ_=>h1 u (by simp)) (by simp)).1,ih h.2 (λv hv=>h1 v (by simp[hv]))⟩
     exact this ar h1
    |av n b xs=>obtain⟨cs,hu,bq⟩:=uP;exact⟨cs,hu,bq⟩
 ·-- boxes
  intro n b hb;rcases hF n b hb with hn|⟨j,x,hx,rfl⟩
  .obtain⟨h1,h2⟩:=hB n hn;rw[h1]at hb;unfold ug at hb;split at hb
   .rename_i ls frz kE;simp only[BS.live.injEq]at hb;subst hb;obtain⟨g,cur,e,q1,q2,q3,q4,q5,q6⟩:=hR.box n _ kE;refine⟨g,cur,e,h2.trans q1,q2,?_,q4,q5,q6⟩;refine Qo 0 (λj x u hx hu=>?_) q3.length;obtain⟨u',fo,iM⟩:=q3.get j x hx;rw[hu]at fo;simp at fo;subst fo;refine(pP _ x u iM (λ_=>q4 u (k9 hu)) (λl hl=>?_)).1;cases frz with
    |true=>simp at hl
    |false=>simp at hl;subst hl;simp[hG,kE,hx]
   .rename_i m t xs kE;simp only[BS.live.injEq]at hb;subst hb;obtain⟨g,cur,e,q1,q2,q3,q4⟩:=hR.box n _ kE;exact⟨g,cur,e,h2.trans q1,q2,q3,q4⟩
   .rename_i e t xs frz kE;simp only[BS.live.injEq]at hb;subst hb;obtain⟨q1,q3⟩:=hR.box n _ kE;exact⟨by rw[h2];exact q1,by rw[h2];exact q3⟩
   .simp at hb
  .obtain⟨it,src,xl,⟨xs,f,f',gS,Ac,rL⟩,CN,rK⟩:=II j x hx;obtain⟨⟨l,_,pO⟩,_⟩:=FA gS;rw[CN,Ac]at hb;simp only[jps,BS.live.injEq]at hb;subst hb;rcases IH pO with⟨rfl,bW,rfl,_⟩|⟨k,rfl,_,dm⟩
   .refine BQ bW ⟨[],?_,trivial,λg hg=>?_⟩
    .rw[rK];exact⟨by simp,.inl ⟨rfl,rfl⟩⟩
    .rw[rK]at hg;simp[blk]at hg
   .obtain⟨rfl,_,_⟩:=rL k rfl;obtain⟨q1,q3⟩:=hR.box k _ dm;exact⟨by rw[rK];exact q1,by rw[rK];exact q3⟩
 ·-- own
  intro n b g hb hg;rcases fP n b hb with⟨_,h2,b0,h3⟩|h|⟨j,x,k,b0,_,_,_,h2,h3,_,h5⟩
  .rw[h2]at hg;exact hR.own n b0 g h3 hg
  .rw[h]at hg;simp at hg
  .rw[h2]at hg;rcases hR.own k b0 g h3 hg with h|h
   .exact .inl h
   .rw[h5]at h;simp at h
 ·-- apart
  intro n n' b b' g ba hb aP hg az;rcases fP n b hb with⟨m1,h2,b0,h3⟩|h|⟨j,x,k,b0,hx,Zw,hj,h2,h3,h4,_⟩
  .rw[h2]at hg;rcases fP n' b' aP with⟨_,i2,b1,i3⟩|i|⟨j',x',k',b1,_,_,_,i2,i3,i4,_⟩
   .rw[i2]at az;exact hR.apart n n' b0 b1 g ba h3 i3 hg az
   .rw[i]at az;simp at az
   .rw[i2]at az;exact hR.apart n k' b0 b1 g (by rintro rfl;exact i4 m1) h3 i3 hg az
  .rw[h]at hg;simp at hg
  .rw[h2]at hg;rcases fP n' b' aP with⟨m1,i2,b1,i3⟩|i|⟨j',x',k',b1,gN,IJ,eJ,i2,i3,i4,_⟩
   .rw[i2]at az;exact hR.apart k n' b0 b1 g (by rintro rfl;exact h4 m1) h3 i3 hg az
   .rw[i]at az;simp at az
   .rw[i2]at az;by_cases ca:k=k'
    .subst ca;have:=Qm dy hj eJ;subst this;rw[hx]at gN;simp at gN;subst gN;exact ba (Zw.symm.trans IJ)
    .exact hR.apart k k' b0 b1 g ca h3 i3 hg az
 ·-- parameters
  intro k v hv;obtain⟨p1,p2,p3⟩:=hR.par k v hv;refine⟨p1,?_,?_⟩
  .by_cases hk:k∈K.boxes
   .rw[(hB k hk).1];exact Ab
   .rw[ff]
    have uR:K.boxes.idxOf? k=none:=by
     cases hq:K.boxes.idxOf? k with
     |none=>rfl
     |some i=>exact absurd (k9 (oV hq)) hk
    simp only[uR];split
    .rename_i j hq;have hj:=oV hq;simp only[qm]at hj;cases hx:K.lists[j]? with
     |none=>simp[hx]at hj
     |some x=>simp[hx]at hj;have:=uQ j x hx;rw[hj,p1]at this;simp at this
    .simp[p1]
  .by_cases hk:k∈K.boxes
   .rw[(hB k hk).2];exact p3
   .have uR:K.boxes.idxOf? k=none:=by
     cases hq:K.boxes.idxOf? k with
     |none=>rfl
     |some i=>exact absurd (k9 (oV hq)) hk
    simp only[γ',uR];split
    .rename_i j hq;have hj:=oV hq;simp only[qm]at hj;cases hx:K.lists[j]? with
     |none=>simp[hx]at hj
     |some x=>simp[hx]at hj;have:=uQ j x hx;rw[hj,p1]at this;simp at this
    .exact p3
 .intro i;show ((match K.slots.idxOf? i with|some j=>wq s[j]?|none=>Slot.one (.one .dead)):Slot).bare=true;split
  .unfold wq;split<;>rfl
  .rfl
theorem uT{K:Keep}{s:Snap}(hR:Rel N np S0 w0 refs σ a w S γ)(hc:dN σ)(hs:iR np K σ=some s):∃S' γ',Rel N np S0 w0 refs (cS np K s) a w S' γ'/\dN (cS np K s):=by
 unfold iR at hs;split at hs
 .rename_i σ1 h1;split at hs
  .rename_i σ2 h2;obtain⟨S1,bu,gy⟩:=Qj _ _ _ _ hR hc h1;obtain⟨S2,cO,lx⟩:=CL _ _ _ _ bu gy h2;obtain⟨γ',gH,CP⟩:=Zu cO hs;exact⟨S2,γ',gH,CP⟩
  .simp at hs
 .simp at hs
end
def RdLe(rd bI:Nat->BS):Prop:=∀k,rd k=bI k\/rd k = .gone
theorem RdLe.live{rd bI:Nat->BS}(h:RdLe rd bI){k:Nat}{b:Bx}(hk:rd k = .live b):bI k = .live b:=by
 rcases h k with h|h
 .rw[<-h];exact hk
 .rw[h]at hk;simp at hk
theorem RdLe.free{rd bI:Nat->BS}(h:RdLe rd bI){k:Nat}(hk:jT (rd k)=true):jT (bI k)=true:=by
 rcases h k with h|h
 .rw[<-h];exact hk
 .rw[h]at hk;simp[jT]at hk
theorem RdLe.isLive{rd bI:Nat->BS}(h:RdLe rd bI){k:Nat}(hk:isLive (rd k)=true):isLive (bI k)=true:=by
 rcases h k with h|h
 .rw[<-h];exact hk
 .rw[h]at hk;simp[Lft.isLive]at hk
theorem RdLe.rdf{rd bI:Nat->BS}(h:RdLe rd bI)(np:Nat):RdLe (λk=>if parK np k then .gone else rd k) (λk=>if parK np k then .gone else bI k):=by
 intro k;dsimp only;split
 .exact .inl rfl
 .exact h k
theorem RdLe.msk{rd bI:Nat->BS}(h:RdLe rd bI):RdLe (mskM rd) (mskM bI):=by
 intro k;rcases h k with h|h
 .left;unfold mskM;rw[h]
 .right;unfold mskM;rw[h]
theorem IK(M:List Nat)(rd:Nat->BS):RdLe (gZ M rd) rd:=by
 intro k;unfold gZ;split
 .exact .inr rfl
 .exact .inl rfl
section
variable{rd bI:Nat->BS}(hle:RdLe rd bI)
include hle
theorem Qp{t:Ty}{l:Leaf}{x}(h:ie rd t l=some x):ie bI t l=some x:=by
 unfold ie at h ⊢;split at h
 .exact h
 .exact h
 .split at h
  .rename_i hk;rw[hle.live hk];exact h
  .simp at h
 .simp at h
theorem FC:∀(t:Ty){ls:List Leaf}{x},gath rd t ls=some x->gath bI t ls=some x:=by
 intro t;induction t with
 |unit=>intro ls x h;simpa[gath]using h
 |wrap a ih=>
  intro ls x h;simp only[gath]at h ⊢;split at h
  .rename_i hg;rw[ih hg];exact h
  .simp at h
 |pair a b wF sw=>
  intro ls x h;simp only[gath]at h ⊢;split at h
  .rename_i hg;rw[wF hg];dsimp only;split at h
   .rename_i nN;rw[sw nN];exact h
   .simp at h
  .simp at h
 |arr n a ih=>intro ls x h;simp[gath]at h
 |_=>
  intro ls x h;cases ls with
  |nil=>simp[gath]at h
  |cons l ls=>
   simp only[gath]at h ⊢;split at h
   .rename_i hl;rw[Qp hle hl];exact h
   .simp at h
theorem IL{t:Ty}{c:Cel}{x}(h:oD rd t c=some x):oD bI t c=some x:=by
 unfold oD at h ⊢;split at h
 .split at h
  .simp at h
  .rename_i ha;simp only[ha,z7,kn];split at h
   .rename_i hg;rw[FC hle _ hg];exact h
   .simp at h
 .split at h
  .rename_i ha;simp only[ha,if_true];split at h
   .rename_i hg;rw[FC hle _ hg];exact h
   .simp at h
  .simp at h
 .exact h
theorem Zx{ti:TyI}{l:Leaf}{x}(h:nC rd ti l=some x):nC bI ti l=some x:=by
 unfold nC at h ⊢;split at h
 .split at h
  .rename_i hk;rw[hle.live hk];exact h
  .rename_i hk;rw[hle.live hk];exact h
  .simp at h
 .split at h
  .rename_i hk;rw[hle.live hk];exact h
  .rename_i hk;rw[hle.live hk];exact h
  .simp at h
 .exact h
 .simp at h
theorem Zy{ti:TyI}{i:Nat}{l:Leaf}{x}(h:oF rd ti i l=some x):oF bI ti i l=some x:=by
 unfold oF at h ⊢;split at h
 .split at h
  .split at h
   .rename_i hl;simp only[hle.isLive hl,if_true];exact h
   .simp at h
  .simp at h
 .split at h
  .split at h
   .rename_i hl;simp only[hle.isLive hl,if_true];exact h
   .simp at h
  .simp at h
 .exact h
 .simp at h
theorem Zz{ti:TyI}{l i:Leaf}{x}(h:r9 rd ti l i=some x):r9 bI ti l i=some x:=by
 unfold r9 at h ⊢;split at h
 .split at h
  .rename_i hk;rw[hle.live hk];exact h
  .simp at h
 .exact h
 .split at h
  .rename_i hk;rw[hle.live hk];exact h
  .rename_i hk;rw[hle.live hk];exact h
  .simp at h
 .split at h
  .rename_i hk;rw[hle.live hk];exact h
  .simp at h
 .simp at h
theorem Qq(a:Ty):∀{ls:List Leaf}{x},r7 rd a ls=some x->r7 bI a ls=some x
 |[],_,h=>h
 |l::ls,x,h=>by
  simp only[r7]at h ⊢;split at h
  .rename_i h1 h2;rw[Qp hle h1,Qq a h2];exact h
  .simp at h
theorem ZA{t:Option Ty}{l:Leaf}{x}(h:r8 rd t l=some x):r8 bI t l=some x:=by
 unfold r8 at h ⊢;split at h
 .split at h
  .split at h
   .rename_i hi;rw[if_pos hi];split at h
    .rename_i hk;rw[hle.live hk];exact h
    .simp at h
   .simp at h
  .simp at h
 .simp at h
theorem ZB{ti:TyI}{l:Leaf}{c:Cel}(h:r8 rd ti.ty l=none)(hc:nC rd ti l=some c):r8 bI ti.ty l=none:=by
 unfold r8 at h ⊢;split at h
 .rename_i k;split at h
  .rename_i m el bB;split at h
   .rename_i hi;rw[if_pos hi];simp only[nC]at hc;split at hc
    .rename_i ls frz hk;rw[hle.live hk];cases frz with
     |true=>rfl
     |false=>rw[hk]at h;simp at h
    .rename_i hk;rw[hle.live hk]
    .simp at hc
   .rename_i hi;rw[if_neg hi]
  .rfl
 .rfl
theorem IM(a:Ty):∀(ps:List (Nat×Cel)){xs:List a.den}{u:Ups}{x},iD rd a xs u ps=some x->iD bI a xs u ps=some x
 |[],_,_,_,h=>h
 |(i,c)::r,xs,u,x,h=>by
  simp only[iD]at h ⊢;split at h
  .rename_i hd;rw[IL hle hd];dsimp only;split at h
   .rename_i hi;simp only[hi,if_true];exact IM a r h
   .simp at h
  .simp at h
theorem ZC{t:Option Ty}{l:Leaf}{x}(h:lenC rd t l=some x):lenC bI t l=some x:=by
 unfold lenC at h ⊢;split at h
 .exact h
 .split at h
  .rename_i hk;rw[hle.live hk];exact h
  .simp at h
 .exact h
 .exact h
 .split at h
  .rename_i hk;rw[hle.live hk];exact h
  .simp at h
 .simp at h
theorem ZD{e:Nat}{a:Ty}{l:Leaf}{x}(h:appS rd e a l=some x):appS bI e a l=some x:=by
 unfold appS at h ⊢;split at h
 .split at h
  .rename_i hk;rw[hle.live hk];exact h
  .simp at h
 .exact h
 .simp at h
theorem Qr{a:Ty}{l:Leaf}{x}(h:appX rd a l=some x):appX bI a l=some x:=by
 unfold appX at h ⊢;split at h
 .split at h
  .rename_i hk;rw[hle.live hk];exact h
  .simp at h
 .exact h
 .exact h
 .split at h
  .rename_i hk;rw[hle.live hk];exact h
  .simp at h
 .simp at h
theorem ZE{t:Option Ty}{l m:Leaf}{x}(h:y9 rd t l m=some x):y9 bI t l m=some x:=by
 unfold y9 at h ⊢;split at h
 .split at h
  .rename_i hk;rw[hle.live hk];dsimp only;split at h
   .rename_i ht;rw[if_pos ht];split at h
    .rename_i hy;rw[Qr hle hy];exact h
    .simp at h
   .simp at h
  .simp at h
 .simp at h
theorem ZF{t:Option Ty}{l:Leaf}{x}(h:zA rd t l=some x):zA bI t l=some x:=by
 unfold zA at h ⊢;split at h
 .split at h
  .rename_i hk;rw[hle.live hk];exact h
  .simp at h
 .simp at h
theorem FD:∀(ls:List Leaf){x},tvs rd ls=some x->tvs bI ls=some x
 |[],_,h=>h
 |l::ls,x,h=>by
  simp only[tvs]at h ⊢;split at h
  .rename_i hr;rw[FD ls hr];dsimp only;split at h
   .exact h
   .split at h
    .rename_i hk;rw[hle.live hk];exact h
    .simp at h
   .simp at h
  .simp at h
theorem Qs:∀(cs:List Cel){x},ud rd cs=some x->ud bI cs=some x
 |[],_,h=>h
 |c::cs,x,h=>by
  simp only[ud]at h ⊢;split at h
  .rename_i hr;rw[Qs cs hr];dsimp only;split at h
   .exact h
   .split at h
    .rename_i hk;rw[hle.live hk];dsimp only;split at h
     .rename_i ht;rw[FD hle _ ht];exact h
     .simp at h
    .simp at h
   .simp at h
  .simp at h
end
theorem ZG{rd bI rdf fQ:Nat->BS}(hle:RdLe rd bI)(fe:RdLe rdf fQ){n:Nat}{c:Cel}{l:Leaf}{x}(h:uc rd rdf n c l=some x):uc bI fQ n c l=some x:=by
 unfold uc at h ⊢;split at h
 .split at h
  .rename_i hk;rw[hle.live hk];exact h
  .rename_i hk;rw[hle.live hk];exact h
  .simp at h
 .split at h
  .rename_i hk;rw[hle.live hk];dsimp only;split at h
   .split at h
    .rename_i hi;rw[if_pos hi];split at h
     .rename_i hg;rw[FC fe _ hg];exact h
     .simp at h
    .simp at h
   .simp at h
  .rename_i hk;rw[hle.live hk];dsimp only;split at h
   .split at h
    .rename_i hi;rw[if_pos hi];split at h
     .rename_i hg;rw[FC fe _ hg];exact h
     .simp at h
    .simp at h
   .simp at h
  .simp at h
 .simp at h
theorem ZH{par:Nat->Bool}{rd bI:Nat->BS}(hle:RdLe rd bI){ti:TyI}{n:Nat}{l:Leaf}{lo hi:Option Leaf}{x}(h:y8 par rd ti n l lo hi=some x):y8 par bI ti n l lo hi=some x:=by
 unfold y8 at h ⊢;split at h
 .exact h
 .split at h
  .split at h
   .rename_i hk;rw[hle.live hk];exact h
   .simp at h
  .split at h
   .rename_i hk;rw[hle.live hk];dsimp only;split at h
    .rename_i bB;rw[if_pos bB];split at h
     .split at h
      .rename_i hp;rw[if_pos hp];exact h
      .rename_i hp;rw[if_neg hp];split at h
       .rename_i hl;rw[if_pos hl];split at h
        .rename_i hf;rw[if_pos (hle.free hf)];exact h
        .simp at h
       .rename_i hl;rw[if_neg hl];exact h
     .simp at h
    .simp at h
   .simp at h
 .simp at h
theorem ZI{rd bI rdf fQ:Nat->BS}(hle:RdLe rd bI)(fe:RdLe rdf fQ){t:Option TyI}{rl:Bool}{c:Cel}{x}(h:zB rd rdf t rl c=some x):zB bI fQ t rl c=some x:=by
 unfold zB at h ⊢;split at h
 .split at h
  .rename_i hk;rw[hle.live hk];dsimp only;split at h
   .rename_i ht;rw[FD fe _ ht];exact h
   .simp at h
  .rename_i hk;rw[hle.live hk];dsimp only;split at h
   .rename_i ht;rw[FD fe _ ht];exact h
   .simp at h
  .simp at h
 .exact h
 .exact h
 .split at h
  .split at h
   .rename_i hk;rw[hle.live hk];exact h
   .simp at h
  .split at h
   .rename_i hk;rw[fe.live hk];exact h
   .simp at h
 .split at h
  .split at h
   .split at h
    .rename_i hd;rw[IL fe hd];exact h
    .simp at h
   .simp at h
  .simp at h
theorem IP{rd bI rdf fQ:Nat->BS}(hle:RdLe rd bI)(fe:RdLe rdf fQ){T:Nat->Option TyI}:∀(cs:List Cel){ts:List Nat}{ms:List Bool}{x},ru rd rdf T ts ms cs=some x->ru bI fQ T ts ms cs=some x
 |[],_,_,_,h=>h
 |c::cs,ts,ms,x,h=>by
  simp only[ru]at h ⊢;split at h
  .rename_i ha;rw[ZI hle fe ha];dsimp only;split at h
   .rename_i hr;rw[IP hle fe cs hr];exact h
   .simp at h
  .simp at h
theorem ZJ{rd bI rdf fQ:Nat->BS}(hle:RdLe rd bI)(fe:RdLe rdf fQ){n m:Nat}{us:Ups}{fs:List Bk}{os:List Out}{x}(h:mkHd rd rdf n us fs m os=some x):mkHd bI fQ n us fs m os=some x:=by
 unfold mkHd at h ⊢;split at h
 .split at h
  .split at h
   .rename_i hf;simp only[jb]at hf;rw[if_pos (by simp only[jb];exact⟨hle.free hf.1,fe.isLive hf.2⟩)];exact h
   .simp at h
  .simp at h
 .simp at h
theorem Qt{rd bI rdf fQ:Nat->BS}(hle:RdLe rd bI)(fe:RdLe rdf fQ){n:Nat}{us:Ups}{fs:List Bk}{r:Ret}{x}(h:sb rd rdf n us fs r=some x):sb bI fQ n us fs r=some x:=by
 unfold sb at h ⊢;split at h
 .exact ZJ hle fe h
 .split at h
  .split at h
   .split at h
    .rename_i hf;rw[if_pos (jz.2 λe he=>hle.free (jz.1 hf e he))];exact h
    .simp at h
   .simp at h
  .simp at h
inductive ActLe:Act->Act->Prop
 |val (iE:Bool) (s:Slot) (u:Ups):ActLe (.val iE s u) (.val iE s u)
 |call (f:Nat) (args:List Arg) (mk mk':Ret->Option (Slot×Ups)):(∀r x,mk r=some x->mk' r=some x)->ActLe (.call f args mk) (.call f args mk')
theorem ActLe.refl(x:Act):ActLe x x:=by cases x with
 |val iE s u=>exact .val iE s u
 |call f args mk=>exact .call f args mk mk λ_ _ h=>h
theorem Qu{x y:Option Leaf}(h:∀z,x=some z->y=some z){r:Act}(hr:lY x=some r):lY y=some r:=by
 cases x with
 |none=>simp[lY]at hr
 |some z=>rw[h z rfl];exact hr
theorem ZK{x y:Option (Bool×Leaf)}(h:∀z,x=some z->y=some z){r:Act}(hr:oChk x=some r):oChk y=some r:=by
 cases x with
 |none=>simp[oChk]at hr
 |some z=>rw[h z rfl];exact hr
theorem Qv{rd bI:Nat->BS}(hle:RdLe rd bI){t:Nat}{k v:Ty}{x y:Leaf}{z}(h:mapC rd t k v x y=some z):mapC bI t k v x y=some z:=by
 unfold mapC at h ⊢;split at h
 .split at h
  .rename_i hb;simp only[hle.live hb];exact h
  .simp at h
 .simp at h
theorem Qw{E:Env}{ev:Operand->Slot}{rd bI:Nat->BS}(sG:RdLe rd bI){act:List (Nat×Bool)}{o:Oper}{A:Act}(h:dq E ev rd act o=some A):∃A',dq E ev bI act o=some A'/\ActLe A A':=by
 have hle:=sG.msk;have fe:=hle.rdf E.np;have same:dq E ev bI act o=some A->∃A',dq E ev bI act o=some A'/\ActLe A A':=λh=>⟨A,h,.refl A⟩;obtain⟨dst,op,type,pos,after,guard⟩:=o;cases op
 case alloc t=>
  refine same ?_;simp only[dq]at h ⊢;split at h
  .split at h
   .rename_i hf;simp only[hle.free hf,if_true];exact h
   .simp at h
  .simp at h
 case box t x=>
  refine same ?_;simp only[dq]at h ⊢;split at h
  .rename_i hf;simp only[hle.free hf,if_true];exact h
  .simp at h
 case build t ps=>
  refine same ?_;simp only[dq]at h ⊢;split at h
  .split at h
   .split at h
    .rename_i hi;simp only[hi,if_true];exact h
    rename_i hi;rw[if_neg hi];split at h
    .rename_i hb;rw[IM fe _ _ hb];exact h
    .simp at h
   .exact h
   .simp at h
  .simp at h
 case buildSlice t n ps=>
  refine same ?_;simp only[dq]at h ⊢;split at h
  .split at h
   .split at h
    .simp at h
    .rename_i hn;simp only[hn,z7];split at h
     .rename_i hb;rw[IM fe _ _ hb];dsimp only;split at h
      .rename_i hf;simp only[hle.free hf,if_true];exact h
      .simp at h
     .simp at h
   .simp at h
  .simp at h
 case load t x=>
  refine same ?_;simp only[dq]at h ⊢;split at h
  .split at h
   .rename_i pO;split at h
    .rename_i hg;rw[ZA hle pO];dsimp only;rw[Qq fe _ hg];exact h
    .simp at h
   .rename_i pO;cases uw:nC (mskM rd) _ (lf ((ev x).cel act)) with
    |none=>rw[uw]at h;simp[oCel]at h
    |some c=>rw[ZB hle pO uw,Zx hle uw];rw[uw]at h;exact h
  .simp at h
 case store t x y=>
  refine same ?_;simp only[dq]at h ⊢;split at h
  .split at h
   .rename_i hs;rw[ZG hle fe hs];exact h
   .simp at h
  .simp at h
 case nilCheck x=>
  refine same ?_;simp only[dq]at h ⊢;split at h
  .split at h
   .rename_i hl;simp only[hle.isLive hl,if_true];exact h
   .simp at h
  .split at h
   .rename_i hl;simp only[hle.isLive hl,if_true];exact h
   .simp at h
  .exact h
  .simp at h
 case makeFunc fn first captured=>
  refine same ?_;cases fn with
  |func f=>
   simp only[dq]at h ⊢;split at h
   .rename_i hf;simp only[hf,if_true];split at h
    .rename_i pL;simp only[pL,if_true];exact h
    .rename_i pL;simp only[pL];split at h
     .rename_i hc;rw[Qs fe _ hc];exact h
     .simp at h
   .simp at h
  |_=>simp[dq]at h
 case fieldAddr t x i=>
  refine same ?_;simp only[dq]at h ⊢;split at h
  .exact Qu (λz hz=>Zy hle hz) h
  .simp at h
 case indexAddr t x i=>
  refine same ?_;simp only[dq]at h ⊢;split at h
  .exact ZK (λz hz=>Zz hle hz) h
  .simp at h
 case call c=>
  simp only[dq]at h ⊢;cases hc:c.callee with
  |invoke r m=>simp[hc]at h
  |value f=>
   simp only[hc]at h ⊢;split at h
   .split at h
    .rename_i ha;rw[IP sG fe _ ha];dsimp only;split at h
     .rename_i hb;simp only[hb,if_true];simp only[j4]at h;subst h;exact⟨_,rfl,.call _ _ _ _ λr x hx=>Qt hle fe hx⟩
     .simp at h
    .simp at h
   .split at h
    .rename_i ha;rw[IP sG fe _ ha];dsimp only;split at h
     .rename_i hb;simp only[hb,if_true];simp only[j4]at h;subst h;exact⟨_,rfl,.call _ _ _ _ λr x hx=>Qt hle fe hx⟩
     .simp at h
    .simp at h
   .simp at h
  |builtin b=>
   simp only[hc]at h ⊢;cases b
   case len=>
    refine⟨A,?_,.refl A⟩;dsimp only at h ⊢;split at h
    .split at h
     .exact Qu (λz hz=>ZC hle hz) h
     .simp at h
    .simp at h
   case append=>
    refine⟨A,?_,.refl A⟩;dsimp only at h ⊢;split at h
    .split at h
     .rename_i ht;rw[if_pos ht];split at h
      .split at h
       .rename_i bB;split at h
        .rename_i h1 h2;rw[ZD fe h1,Qr hle h2];dsimp only;split at h
         .rename_i hf;simp only[hle.free hf,if_true];exact h
         .simp at h
        .simp at h
       .simp at h
      .simp at h
     .simp at h
    .simp at h
   case copy=>
    refine⟨A,?_,.refl A⟩;dsimp only at h ⊢;split at h
    .split at h
     .rename_i ht;rw[if_pos ht];split at h
      .split at h
       .rename_i hq;rw[ZE hle hq];exact h
       .simp at h
      .simp at h
     .simp at h
    .simp at h
   case clear=>
    refine⟨A,?_,.refl A⟩;dsimp only at h ⊢;split at h
    .split at h
     .split at h
      .rename_i hq;rw[ZF hle hq];exact h
      .simp at h
     .simp at h
    .simp at h
   all_goals exact⟨A,h,.refl A⟩
 case slice t x lo hi mx=>
  refine same ?_;cases mx with
  |some m=>simp[dq]at h
  |none=>
   simp only[dq]at h ⊢;split at h
   .split at h
    .rename_i hq;rw[ZH hle hq];exact h
    .simp at h
   .simp at h
 case makeMap t x=>
  refine same ?_;cases x with
  |some m=>simp[dq]at h
  |none=>
   simp only[dq]at h ⊢;split at h
   .split at h
    .rename_i hf;simp only[hle.free hf,if_true];exact h
    .simp at h
   .simp at h
 case lookup t x i ok=>
  refine same ?_;simp only[dq]at h ⊢;split at h
  .split at h
   .rename_i hq;rw[Qv sG hq];exact h
   .simp at h
  .simp at h
 case mapUpdate t x i y=>
  refine same ?_;simp only[dq]at h ⊢;split at h
  .split at h
   .rename_i hq hd;rw[Qv sG hq,IL fe hd];exact h
   .simp at h
  .simp at h
 all_goals exact⟨A,h,.refl A⟩
section
variable{N:NT}{np:Nat}{S0:aF}{w0:World}{refs:Refs}{σ:St}{a:Go.Act}{w:World}{S:aF}{γ:Nat->Value}
def CFun(C:Nat->List Arg->(R:Type)->(Ret->Option R)->Option R):Prop:=
 ∀f args,∃o:Option Ret,∀(R:Type)(k:Ret->Option R),C f args R k=o.bind k
theorem Qx{E:Env}{ev rM:Operand->Slot}{rd:Nat->BS}{act:List (Nat×Bool)}{o:Oper}(h:∀x∈o.op.operands,ev x=rM x):dq E ev rd act o=dq E rM rd act o:=by
 have uU:∀ps:Array (Nat×Operand),(∀x∈ps.toList.map (·.2),ev x=rM x)->
   (ps.toList.map λp=>(p.1,(ev p.2).cel act))=(ps.toList.map λp=>(p.1,(rM p.2).cel act)):=λps hp=>
  List.map_congr_left λp hm=>by simp only[hp p.2 (ju.2 ⟨p,hm,rfl⟩)]
 have args:∀ps:Array Operand,(∀x∈ps,ev x=rM x)->(ps.toList.map λp=>(ev p).cel act)=(ps.toList.map λp=>(rM p).cel act):=λps hp=>
  List.map_congr_left λp hm=>by rw[hp p (by simpa using hm)]
 obtain⟨dst,op,type,pos,after,guard⟩:=o;cases op<;>simp only[Op.operands]at h<;>simp only[dq]
 case build t ps=>rw[uU ps λx hx=>h x (by simpa using hx)]
 case buildSlice t n ps=>rw[uU ps λx hx=>h x (by simpa using hx)]
 case makeFunc fn first captured=>
  have e:=args captured λx hx=>h x (by simp[hx]);cases fn with
  |func f=>simp only[e]
  |_=>rfl
 case call c=>
  have ha:=args c.args (λx hx=>h x (by simp[Call.operands,hx]));have nP:∀x∈c.args.toList,ev x=rM x:=λx hx=>h x (by simp[Call.operands];right;simpa using hx);simp only[ha];cases hc:c.callee with
  |value f=>have hf:ev f=rM f:=h f (by simp[Call.operands,hc]);simp only[hf]
  |invoke r m=>rfl
  |builtin b=>
   cases b<;>simp only
   case len=>
    split
    .rename_i x t fW nO;have:=nP x (by rw[fW];simp);simp only[this]
    .rfl
   case append=>
    split
    .rename_i t t' s x nO fW;have e1:=nP s (by rw[fW];simp);have e2:=nP x (by rw[fW];simp);simp only[e1,e2]
    .rfl
   case copy=>
    split
    .rename_i t t' s x nO fW;have e1:=nP s (by rw[fW];simp);have e2:=nP x (by rw[fW];simp);simp only[e1,e2]
    .rfl
   case clear=>
    split
    .rename_i t x nO fW;have e1:=nP x (by rw[fW];simp);simp only[e1]
    .rfl
 case slice t x lo hi mx=>
  have e1:=h x (by simp)
  have eo:∀y:Option Operand,(∀z,y=some z->ev z=rM z)->(y.map λx=>lf ((ev x).cel act))=(y.map λx=>lf ((rM x).cel act)):=by
   intro y hy;cases y with
   |none=>rfl
   |some z=>simp only[kx,hy z rfl]
  have e2:=eo lo (λz hz=>h z (by simp[hz]));have e3:=eo hi (λz hz=>h z (by simp[hz]));cases mx with
  |some m=>rfl
  |none=>simp only[e1,e2,e3]
 case makeMap t x=>cases x<;>rfl
 all_goals (first|rfl|(simp_all;done))
def ShEq:BS->BS->Prop
 |.live (.cell _ _),.live (.cell _ _)=>True
 |.live (.lst e a xs _),.live (.lst e' a' cD _)=>e=e'/\a=a'/\xs.length=cD.length
 |.live (.arr n a _),.live (.arr n' a' _)=>n=n'/\a=a'
 |.free,.free=>True
 |.gone,.gone=>True
 |_,_=>False
theorem ShEq.refl:∀b:BS,ShEq b b
 |.live (.cell _ _)=>trivial
 |.live (.lst _ _ _ _)=>⟨rfl,rfl,rfl⟩
 |.live (.arr _ _ _)=>⟨rfl,rfl⟩
 |.free=>trivial
 |.gone=>trivial
theorem ShEq.symm{b c:BS}(h:ShEq b c):ShEq c b:=by
 cases b with
 |free=>cases c<;>simp_all[ShEq]
 |gone=>cases c<;>simp_all[ShEq]
 |live b=>
  cases c with
  |free=>cases b<;>simp[ShEq]at h
  |gone=>cases b<;>simp[ShEq]at h
  |live c=>
   cases b<;>cases c<;>simp only[ShEq]at h ⊢
   .exact⟨h.1.symm,h.2.1.symm,h.2.2.symm⟩
   .exact⟨h.1.symm,h.2.symm⟩
theorem ShEq.trans{b c d:BS}(h:ShEq b c)(h':ShEq c d):ShEq b d:=by
 cases b with
 |free=>cases c with
  |free=>exact h'
  |gone=>simp[ShEq]at h
  |live c=>cases c<;>simp[ShEq]at h
 |gone=>cases c with
  |gone=>exact h'
  |free=>simp[ShEq]at h
  |live c=>cases c<;>simp[ShEq]at h
 |live b=>cases c with
  |free=>cases b<;>simp[ShEq]at h
  |gone=>cases b<;>simp[ShEq]at h
  |live c=>cases d with
   |free=>cases c<;>simp[ShEq]at h'
   |gone=>cases c<;>simp[ShEq]at h'
   |live d=>
    cases b<;>cases c<;>simp only[ShEq]at h<;>cases d<;>simp only[ShEq]at h' ⊢
    .exact⟨h.1.trans h'.1,h.2.1.trans h'.2.1,h.2.2.trans h'.2.2⟩
    .exact⟨h.1.trans h'.1,h.2.trans h'.2⟩
theorem ShEq.mask{rd bI:Nat->BS}{M:List Nat}(h:∀k,M.contains k=false->ShEq (rd k) (bI k))(k:Nat):ShEq (gZ M rd k) (gZ M bI k):=by
 unfold gZ;split
 .trivial
 .rename_i hc;exact h k (by simpa using hc)
theorem FE{b c:BS}(h:ShEq b c):isLive b=isLive c:=by
 cases b with
 |free=>cases c<;>simp_all[ShEq,isLive]
 |gone=>cases c<;>simp_all[ShEq,isLive]
 |live b=>cases c with
  |free=>cases b<;>simp[ShEq]at h
  |gone=>cases b<;>simp[ShEq]at h
  |live c=>rfl
theorem ZL{rd bI:Nat->BS}(h:∀k,ShEq (rd k) (bI k))(ti:TyI)(l i:Leaf):r9 rd ti l i=r9 bI ti l i:=by
 unfold r9;split
 .rename_i k _ _;have hk:=h k;generalize rd k=b at hk;generalize bI k=c at hk;cases b with
  |free=>cases c<;>simp_all[ShEq]
  |gone=>cases c<;>simp_all[ShEq]
  |live b=>cases c with
   |free=>cases b<;>simp[ShEq]at hk
   |gone=>cases b<;>simp[ShEq]at hk
   |live c=>
    cases b with
    |lst e a xs f=>cases c with
     |lst e' a' cD f'=>simp only[ShEq]at hk;obtain⟨rfl,rfl,hl⟩:=hk;dsimp only;rw[hl]
     |cell _ _=>simp[ShEq]at hk
     |arr _ _ _=>simp[ShEq]at hk
    |cell _ _=>cases c<;>first|rfl|(simp[ShEq]at hk)
    |arr _ _ _=>cases c<;>first|rfl|(simp[ShEq]at hk)
 .rfl
 .rename_i k _ _;have hk:=h k;generalize rd k=b at hk;generalize bI k=c at hk;cases b with
  |free=>cases c<;>simp_all[ShEq]
  |gone=>cases c<;>simp_all[ShEq]
  |live b=>cases c with
   |free=>cases b<;>simp[ShEq]at hk
   |gone=>cases b<;>simp[ShEq]at hk
   |live c=>
    cases b with
    |arr n a xs=>cases c with
     |arr n' a' cD=>simp only[ShEq]at hk;obtain⟨rfl,rfl⟩:=hk;rfl
     |cell _ _=>simp[ShEq]at hk
     |lst _ _ _ _=>simp[ShEq]at hk
    |cell _ _=>cases c<;>first|rfl|(simp[ShEq]at hk)
    |lst _ _ _ _=>cases c<;>first|rfl|(simp[ShEq]at hk)
 .rename_i k _ _ _;have hk:=h k;generalize rd k=b at hk;generalize bI k=c at hk;cases b with
  |free=>cases c<;>simp_all[ShEq]
  |gone=>cases c<;>simp_all[ShEq]
  |live b=>cases c with
   |free=>cases b<;>simp[ShEq]at hk
   |gone=>cases b<;>simp[ShEq]at hk
   |live c=>
    cases b with
    |lst e a xs f=>cases c with
     |lst e' a' cD f'=>simp only[ShEq]at hk;obtain⟨rfl,rfl,hl⟩:=hk;dsimp only;rw[hl]
     |cell _ _=>simp[ShEq]at hk
     |arr _ _ _=>simp[ShEq]at hk
    |cell _ _=>cases c<;>first|rfl|(simp[ShEq]at hk)
    |arr _ _ _=>cases c<;>first|rfl|(simp[ShEq]at hk)
 .rfl
theorem ZM{rd bI:Nat->BS}(h:∀k,ShEq (rd k) (bI k))(ti:TyI)(i:Nat)(l:Leaf):oF rd ti i l=oF bI ti i l:=by
 unfold oF;split
 .rw[FE (h _)]
 .rw[FE (h _)]
 .rfl
 .rfl
theorem ShEq.msk{rd bI:Nat->BS}{k:Nat}(h:ShEq (rd k) (bI k)):ShEq (mskM rd k) (mskM bI k):=by
 unfold mskM;generalize rd k=a at h;generalize bI k=b at h;cases a with
 |free=>cases b<;>simp_all[ShEq]
 |gone=>cases b<;>simp_all[ShEq]
 |live a=>
  cases b with
  |free=>cases a<;>simp[ShEq]at h
  |gone=>cases a<;>simp[ShEq]at h
  |live b=>
   cases a<;>cases b<;>simp only[ShEq]at h<;>dsimp only
   .trivial
   .obtain⟨rfl,rfl,h3⟩:=h;rename_i e _ _ _ _ _;cases isM e
    .exact⟨rfl,rfl,h3⟩
    .trivial
   .exact h
theorem ZN{E:Env}{ev:Operand->Slot}{rd bI:Nat->BS}{act:List (Nat×Bool)}{o:Oper}(ha:pk o=true)(h:∀k,ShEq (rd k) (bI k)):dq E ev rd act o=dq E ev bI act o:=by
 have h:∀k,ShEq (mskM rd k) (mskM bI k):=λk=>(h k).msk;obtain⟨dst,op,type,pos,after,guard⟩:=o;cases op<;>simp only[pk,kn]at ha
 .simp only[dq];split
  .rw[FE (h _)]
  .rw[FE (h _)]
  .rfl
  .rfl
 .simp only[dq];split
  .rw[ZM h]
  .rfl
 .simp only[dq];split
  .rw[ZL h]
  .rfl
theorem Qy:∀(u:Ups)(σ:St),(∀e∈u,ShEq (σ.bx e.1) e.2)->∀k,ShEq (σ.bx k) ((σ.upd u).bx k)
 |[],σ,_,k=>ShEq.refl _
 |e::u,σ,h,k=>by
  have h0:∀k,ShEq (σ.bx k) ((σ.setB e.1 e.2).bx k):=by
   intro k;simp only[St.setB];split
   .rename_i hk;rw[hk];exact h e (by simp)
   .exact ShEq.refl _
  have h1:=Qy u (σ.setB e.1 e.2) (λx hx=>(h0 x.1).symm.trans (h x (by simp[hx]))) k;exact(h0 k).trans h1
def UpSh(rd:Nat->BS)(u:Ups):Prop:=∀e∈u,ShEq (rd e.1) e.2/\isLive e.2=true
theorem ZO{rd:Nat->BS}{t:Ty}{l:Leaf}{v:t.den}{u:Ups}(h:ie rd t l=some (v,u)):UpSh rd u:=by
 unfold ie at h;split at h
 .split at h
  .simp only[j4,j8]at h;rw[<-h.2];intro e he;simp at he
  .simp at h
 .split at h
  .simp only[j4,j8]at h;rw[<-h.2];intro e he;simp at he
  .simp at h
 .split at h
  .rename_i hk;split at h
   .simp only[j4,j8]at h;rw[<-h.2];intro e he;simp only[ke]at he;subst he;dsimp only;rw[hk];exact⟨⟨rfl,rfl,rfl⟩,rfl⟩
   .simp at h
  .simp at h
 .simp at h
theorem UpSh.app{rd:Nat->BS}{u v:Ups}(h:UpSh rd u)(h':UpSh rd v):UpSh rd (u++v):=by
 intro e he;rcases jn.1 he with he|he
 .exact h e he
 .exact h' e he
theorem Qz{rd:Nat->BS}:∀(t:Ty){ls:List Leaf}{v:t.den}{r:List Leaf}{u:Ups},gath rd t ls=some (v,r,u)->UpSh rd u:=by
 intro t;induction t with
 |unit=>intro ls v r u h;simp only[gath,j4,j8]at h;rw[<-h.2.2];intro e he;simp at he
 |wrap a ih=>
  intro ls v r u h;simp only[gath]at h;split at h
  .rename_i hg;simp only[j4,j8]at h;rw[<-h.2.2];exact ih hg
  .simp at h
 |pair a b wF sw=>
  intro ls v r u h;simp only[gath]at h;split at h
  .rename_i hg;split at h
   .rename_i nN;simp only[j4,j8]at h;rw[<-h.2.2];exact(wF hg).app (sw nN)
   .simp at h
  .simp at h
 |arr n a ih=>intro ls v r u h;simp[gath]at h
 |_=>
  intro ls v r u h;cases ls with
  |nil=>simp[gath]at h
  |cons l ls=>
   simp only[gath]at h;split at h
   .rename_i hl;simp only[j4,j8]at h;rw[<-h.2.2];exact ZO hl
   .simp at h
theorem ZP{rd rdf:Nat->BS}(bC:RdLe rdf rd){n:Nat}{c:Cel}{l:Leaf}{u:Ups}(h:uc rd rdf n c l=some u):UpSh rd u:=by
 have one:∀(k:Nat)(b b':Bx),rd k = .live b->ShEq (.live b) (.live b')->UpSh rd [(k,.live b')]:=by intro k b b' hk hs e he;simp only[ke]at he;subst he;exact⟨by rw[hk];exact hs,rfl⟩
 have lift:∀u,UpSh rdf u->UpSh rd u:=by
  intro u hu e he;obtain⟨h1,h2⟩:=hu e he;rcases bC e.1 with hq|hq
  .rw[hq]at h1;exact⟨h1,h2⟩
  .rw[hq]at h1;cases h3:e.2 with
   |free=>rw[h3]at h2;simp[isLive]at h2
   |gone=>rw[h3]at h2;simp[isLive]at h2
   |live b=>rw[h3]at h1;cases b<;>simp[ShEq]at h1
 unfold uc at h;split at h
 .split at h
  .rename_i hk;split at h
   .split at h
    .simp only[j4]at h;subst h;exact one _ _ _ hk trivial
    .simp at h
   .simp at h
  .rename_i hk;split at h
   .split at h
    .split at h
     .split at h
      .simp only[j4]at h;subst h;exact one _ _ _ hk ⟨rfl,rfl⟩
      .simp at h
     .simp at h
    .simp at h
   .simp at h
  .simp at h
 .split at h
  .rename_i hk;split at h
   .split at h
    .split at h
     .rename_i hg;split at h
      .simp at h
      .simp only[j4]at h;subst h;exact(lift _ (Qz _ hg)).app (one _ _ _ hk ⟨rfl,rfl,by simp⟩)
     .simp at h
    .simp at h
   .simp at h
  .rename_i hk;split at h
   .split at h
    .split at h
     .rename_i hg;split at h
      .simp at h
      .simp only[j4]at h;subst h;exact(lift _ (Qz _ hg)).app (one _ _ _ hk ⟨rfl,rfl⟩)
     .simp at h
    .simp at h
   .simp at h
  .simp at h
 .simp at h
theorem ZQ(np:Nat)(rd:Nat->BS):RdLe (λk=>if parK np k then .gone else rd k) rd:=by
 intro k;dsimp only;split
 .exact .inr rfl
 .exact .inl rfl
theorem UpSh.le{rd bI:Nat->BS}(hle:RdLe rd bI){u:Ups}(h:UpSh rd u):UpSh bI u:=by
 intro e he;obtain⟨h1,h2⟩:=h e he;rcases hle e.1 with hq|hq
 .rw[hq]at h1;exact⟨h1,h2⟩
 .rw[hq]at h1;cases h3:e.2 with
  |free=>rw[h3]at h2;simp[isLive]at h2
  |gone=>rw[h3]at h2;simp[isLive]at h2
  |live b=>rw[h3]at h1;cases b<;>simp[ShEq]at h1
theorem ZR(rd:Nat->BS):RdLe (mskM rd) rd:=λk=>O8 k
theorem ZS{E:Env}{ev:Operand->Slot}{rd:Nat->BS}{act:List (Nat×Bool)}{o:Oper}(ho:sd o=true){iE:Bool}{s:Slot}{u:Ups}(h:dq E ev rd act o=some (.val iE s u)):UpSh rd u:=by
 obtain⟨dst,op,type,pos,after,guard⟩:=o;cases op<;>simp only[sd,kn]at ho;simp only[dq]at h;split at h
 .split at h
  .rename_i hs;simp only[j4,Act.val.injEq]at h;rw[<-h.2.2];exact(ZP (ZQ E.np (mskM rd)) hs).le (ZR rd)
  .simp at h
 .simp at h
theorem ZT{E:Env}{ev:Operand->Slot}{rd:Nat->BS}{act:List (Nat×Bool)}{o:Oper}(ho:sd o=true){f:Nat}{args:List Arg}{mk:Ret->Option (Slot×Ups)}:dq E ev rd act o≠some (.call f args mk):=by
 obtain⟨dst,op,type,pos,after,guard⟩:=o;cases op<;>simp only[sd,kn]at ho;intro h;simp only[dq]at h;split at h
 .split at h
  .simp at h
  .simp at h
 .simp at h
theorem UpSh.unmask{rd:Nat->BS}{M:List Nat}{u:Ups}(h:UpSh (gZ M rd) u):UpSh rd u:=by
 intro e he;obtain⟨h1,h2⟩:=h e he;rcases IK M rd e.1 with hq|hq
 .rw[hq]at h1;exact⟨h1,h2⟩
 .rw[hq]at h1;cases h3:e.2 with
  |free=>rw[h3]at h2;simp[isLive]at h2
  |gone=>rw[h3]at h2;simp[isLive]at h2
  |live b=>rw[h3]at h1;cases b<;>simp[ShEq]at h1
end
section
variable{N:NT}{np:Nat}{S0:aF}{w0:World}{refs:Refs}{σ:St}{a:Go.Act}{w:World}{S:aF}{γ:Nat->Value}
inductive Bef(ops:Array Oper):Nat->Nat->Prop
 |dep {i j:Nat} {o:Oper}:ops[i]? = some o->j∈nD o->Bef ops i j
 |trans {i j k:Nat}:Bef ops i j->Bef ops j k->Bef ops i k
structure DOkR(ops:Array Oper)(A:List (List Nat)):Prop where
 lt:∀i o,ops[i]? = some o->∀j∈nD o,j<i
 addr:∀i o,ops[i]? = some o->pk o=true->∀k,k∉A.getD i []
 dst:∀i j oi oj t,ops[i]? = some oi->ops[j]? = some oj->i≠j->oj.dst=some t->oi.dst≠some t/\(t∈oi.looksAt ops->Bef ops i j\/Bef ops j i)
 box:∀i j oi oj k,ops[i]? = some oi->ops[j]? = some oj->i≠j->k∈A.getD i []->k∈A.getD j []->Bef ops i j\/Bef ops j i
theorem DOkR.bef{ops:Array Oper}{A:List (List Nat)}(h:DOkR ops A){i j:Nat}(hb:Bef ops i j):j<i:=by
 induction hb with
 |dep ho hj=>exact h.lt _ _ ho _ hj
 |trans _ _ h1 h2=>omega
def ClOk(ops:Array Oper)(cl:List Nat):Prop:=∀i j,(cl.getD i 0).testBit j=true->Bef ops i j
theorem QA{ops:Array Oper}{cls:List Nat}(hc:ClOk ops cls){i:Nat}{o:Oper}(ho:ops[i]? = some o):∀(l:List Nat)(m:Nat),(∀j∈l,j∈nD o)->(∀j,m.testBit j=true->Bef ops i j)->
  ∀j,(l.foldl (λm j=>m|||(2^j|||cls.getD j 0)) m).testBit j=true->Bef ops i j
 |[],m,_,hm,j,h=>hm j h
 |x::l,m,hl,hm,j,h=>by
  refine QA hc ho l _ (λj hj=>hl j (by simp[hj])) (λj hj=>?_) j h;simp only[Nat.testBit_or,zq,Nat.testBit_two_pow,jo]at hj;rcases hj with hj|hj|hj
  .exact hm j hj
  .subst hj;exact .dep ho (hl x (by simp))
  .exact .trans (.dep ho (hl x (by simp))) (hc x j hj)
theorem QB{ops:Array Oper}:∀(l:List Oper)(cls:List Nat),ClOk ops cls->(∀k o,l[k]? = some o->ops[cls.length+k]? = some o)->ClOk ops (BE l cls)
 |[],cls,hc,_=>hc
 |o::os,cls,hc,hl=>by
  have ho:ops[cls.length]? = some o:=by have:=hl 0 o rfl;simpa using this
  refine QB os _ ?_ (λk x hk=>by
   have:=hl (k+1) x (by simpa using hk);rw[ja,ku];rwa[show cls.length+1+k=cls.length+(k+1) by omega])
  intro i j dK;rcases Nat.lt_trichotomy i cls.length with hi|hi|hi
  .rw[List.getD_eq_getElem?_getD,List.getElem?_append_left hi,<-List.getD_eq_getElem?_getD]at dK;exact hc i j dK
  .subst hi;rw[List.getD_eq_getElem?_getD,k5 (jg _),Nat.sub_self]at dK;simp only[List.getElem?_cons_zero,kz]at dK;exact QA hc ho (nD o) 0 (λ_ h=>h) (λj h=>by simp at h) j dK
  .rw[List.getD_eq_getElem?_getD,qr (by simp;omega)]at dK;simp at dK
theorem IQ{ops:Array Oper}{cl:List Nat}(hc:ClOk ops cl){i j:Nat}(h:BF cl i j=true):i=j\/Bef ops i j\/Bef ops j i:=by
 simp only[BF,zq,z6]at h;rcases h with (h|h)|h
 .exact .inl h
 .exact .inr (.inl (hc i j h))
 .exact .inr (.inr (hc j i h))
theorem ZU{ops:Array Oper}{cl:List Nat}{A:List (List Nat)}(hc:ClOk ops cl)(bH:OQ ops cl A=true):DOkR ops A:=by
 have hz:∀{i:Nat}{o:Oper},ops[i]? = some o->(o,i)∈ops.toList.zipIdx:=by intro i o ho;rw[za];exact⟨i,by rw[List.getElem?_zipIdx];simp[ho]⟩
 have nQ:∀i k,k∈A.getD i []->A.isEmpty=false:=by
  intro i k hk;cases A with
  |nil=>simp at hk
  |cons _ _=>rfl
 have ar:∀{i:Nat}{o:Oper},ops[i]? = some o->(∀j∈nD o,j<i)/\(A.isEmpty || !pk o||(A.getD i []).isEmpty)=true/\∀j oj,ops[j]? = some oj->EU ops cl A i o j oj=true:=by intro i o ho;have:=jz.1 bH (o,i) (hz ho);simp only[jb]at this;exact⟨λj hj=>by simpa using jz.1 this.1.1 j hj,this.1.2,λj oj iK=>jz.1 this.2 (oj,j) (hz iK)⟩
 refine⟨λi o ho=>(ar ho).1,λi o ho kF k hk=>?_,λi j oi oj t hi hj dK ht=>?_,λi j oi oj k hi hj dK hk bg=>?_⟩
 .have:=(ar ho).2.1;rw[nQ i k hk,kF]at this;simp only[jq,Bool.false_or,List.isEmpty_iff]at this;rw[this]at hk;simp at hk
 .have:=(ar hi).2.2 j oj hj;simp only[EU,ht,jb]at this;have h1:=this.1;simp only[zq,z6,dK,false_or,jb,bne_iff_ne,ne_eq,qb,qc,kp]at h1;refine⟨h1.1,λhm=>?_⟩;rcases h1.2 with h|h
  .exact absurd hm h
  .exact(IQ hc h).resolve_left dK
 .have:=(ar hi).2.2 j oj hj;simp only[EU,jb]at this;have h2:=this.2;rw[nQ i k hk]at h2;simp only[Bool.false_or,zq]at h2;rcases h2 with h|h
  .exact(IQ hc h).resolve_left dK
  .have:=jz.1 h k hk;simp only[qc,qb,kp]at this;exact absurd bg this
theorem QC{ops:Array Oper}{cl:List Nat}{A:List (List Nat)}(hc:ClOk ops cl){i:Nat}{oi:Oper}{k:Nat}(hm:(se ops cl A i oi).contains k=false){j:Nat}{oj:Oper}(hj:ops[j]? = some oj)(hk:k∈A.getD j []) :
  i=j\/Bef ops i j\/Bef ops j i\/(pk oi=true/\sd oj=true):=by
 have hz:(oj,j)∈ops.toList.zipIdx:=by rw[za];exact⟨j,by rw[List.getElem?_zipIdx];simp[hj]⟩
 have ba:A.isEmpty=false:=by
  cases A with
  |nil=>simp at hk
  |cons _ _=>rfl
 unfold se at hm;rw[ba]at hm;simp only[kn,z7,qc,kp,zk,not_exists,not_and]at hm;have:=hm (oj,j) hz;dsimp only at this;split at this
 .rename_i h;simp only[zq,jb]at h;rcases h with h|h
  .rcases IQ hc h with h|h|h
   .exact .inl h
   .exact .inr (.inl h)
   .exact .inr (.inr (.inl h))
  .exact .inr (.inr (.inr h))
 .exact absurd hk this
inductive DStep(P:Program)(E:Env)(ops:Array Oper)(M Ai:List Nat)(o:Oper)(σ:St):St->Prop
 |skip (s:Nat) (wn v:Bool):ny ops o=some (s,wn)->σ.sl s = .one (.one (.d .bool v))->v≠wn->DStep P E ops M Ai o σ (σ.setD o.dst .und)
 |skipU (s:Nat) (wn:Bool):ny ops o=some (s,wn)->σ.sl s = .und->DStep P E ops M Ai o σ (σ.setD o.dst .und)
 |val (s:Slot) (u:Ups):(o.guard=none\/∃s wn,ny ops o=some (s,wn)/\σ.sl s = .one (.one (.d .bool wn)))->dq E σ.ev (gZ M σ.bx) [] o=some (.val true s u)->(∀e∈u,e.1∈Ai)->
  DStep P E ops M Ai o σ ((σ.upd u).setD o.dst s)
 |call (f:Nat) (args:List Arg) (mk:Ret->Option (Slot×Ups)) (ret:Ret) (s:Slot) (u:Ups):(o.guard=none\/∃s wn,ny ops o=some (s,wn)/\σ.sl s = .one (.one (.d .bool wn)))->
  dq E σ.ev (gZ M σ.bx) [] o=some (.call f args mk)->Fun P f->Fl P f args (λr=>r=ret)->mk ret=some (s,u)->(∀e∈u,e.1∈Ai)->DStep P E ops M Ai o σ ((σ.upd u).setD o.dst s)
theorem QD{s:Nat}{x:Slot}(h:σ.sl s=x):σ.setS s x=σ:=by
 unfold St.setS
 have:(λj=>if j=s then x else σ.sl j)=σ.sl:=by
  funext j
  split
  .rename_i hj;subst hj;exact h.symm
  .rfl
 rw[this]
theorem QE{u:Ups}{Ai:List Nat}(h:(u.all λe=>Ai.contains e.1)=true):∀e∈u,e.1∈Ai:=λe he=>by simpa using jz.1 h e he
theorem IU{P:Program}{E:Env}(hC:lJ P E.C)(hF:CFun E.C){ops:Array Oper}{M Ai:List Nat}{o:Oper}{R:Type}{k:St->Option R}{r:R}
  (hg:o.guard=none\/∃s wn,ny ops o=some (s,wn)/\σ.sl s = .one (.one (.d .bool wn)))(h:runD E M Ai σ o k=some r):∃σ',DStep P E ops M Ai o σ σ'/\k σ'=some r:=by
 unfold runD at h;split at h
 .simp at h
 .rename_i iE s u ho;split at h
  .rename_i hb;cases iE with
   |false=>simp at h
   |true=>exact⟨_,.val s u hg ho (QE hb),h⟩
  .simp at h
 .rename_i f args mk ho;obtain⟨x,hx⟩:=hF f args;rw[hx]at h;cases x with
  |none=>simp at h
  |some ret=>
   simp only[j3]at h;obtain⟨hf,eN⟩:=hC f args Ret some ret (by rw[hx];rfl);split at h
   .rename_i s u bG;split at h
    .rename_i hb
     exact⟨_,.call f args mk ret s u hg ho hf (by
      intro w S vals ha hn hS;refine(eN w S vals ha hn hS).mono ?_
      rintro e w' ⟨r',sF,rest⟩
      exact⟨r',by simpa using sF,rest⟩) bG (QE hb),h⟩
    .simp at h
   .simp at h
theorem ZV{P:Program}{E:Env}(hC:lJ P E.C)(hF:CFun E.C){ops:Array Oper}{M Ai:List Nat}{o:Oper}{R:Type}{k:St->Option R}{r:R}
  (h:BG E ops M Ai σ o k=some r):∃σ',DStep P E ops M Ai o σ σ'/\k σ'=some r:=by
 unfold BG at h;split at h
 .rename_i hg;exact IU hC hF (.inl hg) h
 .split at h
  .rename_i s wn hg;split at h
   .rename_i v hv;cases v with
    |true=>
     rw[j5,QD hv]at h;cases wn with
     |true=>exact IU hC hF (.inr ⟨s,true,hg,hv⟩) h
     |false=>exact⟨_,.skip s false true hg hv (by simp),h⟩
    |false=>
     rw[j6,QD hv]at h;cases wn with
     |false=>exact IU hC hF (.inr ⟨s,false,hg,hv⟩) h
     |true=>exact⟨_,.skip s true false hg hv (by simp),h⟩
   .rename_i hv;exact⟨_,.skipU s wn hg hv,h⟩
   .simp at h
  .simp at h
theorem QF{P:Program}{E:Env}(hC:lJ P E.C)(hF:CFun E.C){ops:Array Oper}{cl:List Nat}{A:List (List Nat)}{R:Type}{k:St->Option R}{r:R}:∀(n i:Nat)(σ:St),i+n=ops.size->zD E ops cl A (ops.toList.drop i) i σ k=some r->
  ∃τ:Nat->St,τ i=σ/\k (τ ops.size)=some r/\∀j o,i<=j->ops[j]? = some o->ry E.N o=true/\DStep P E ops (se ops cl A j o) (A.getD j []) o (τ j) (τ (j+1))
 |0,i,σ,hi,h=>by
  rw[jf (by simp;omega)]at h;refine⟨λ_=>σ,rfl,h,λj o hj ho=>?_⟩;have:=(jm.1 ho).1;omega
 |n+1,i,σ,hi,h=>by
  have aq:i<ops.size:=by omega
  rw[jc (by simpa using aq)]at h;simp only[zD]at h;split at h
  .rename_i hd;obtain⟨σ1,hs,hk⟩:=ZV (P:=P) hC hF h;obtain⟨τ1,h1,h2,h3⟩:=QF hC hF n (i+1) σ1 (by omega) hk;refine⟨λj=>if j=i then σ else τ1 j,by simp,?_,λj o hj ho=>?_⟩
   .simp only[show ops.size≠i by omega,z7];exact h2
   .by_cases oW:j=i
    .subst oW;have xm:ops[j]? = some ops[j]:=jt aq;rw[xm]at ho;simp only[j4]at ho;subst ho;refine⟨by simpa using hd,?_⟩;simp only[if_true,show j+1≠j by omega,z7,h1];simpa using hs
    .simp only[oW,z7,show j+1≠i by omega];exact h3 j o (by omega) ho
  .simp at h
theorem Rel.drawn(hR:Rel N np S0 w0 refs σ a w S γ)(n:Nat):Rel N np S0 w0 refs σ a { w with drawn:=n } S γ:=
 Rel.step (bx':=σ.bx) (γ':=γ) hR (λ_ _ h=>⟨h,rfl⟩) (.refl _ _) (λk b hb=>ez.keep (w:=w) (w':={ w with drawn:=n }) (λ_ _ h=>⟨h,rfl⟩) (.refl _ _) rfl (λ_ _=>⟨rfl,λ_=>Iff.rfl⟩) (hR.box k b hb))
  hR.own hR.apart hR.new hR.here hR.below hR.grow hR.os hR.tape hR.output (λ_ _ _ h=>⟨rfl,h⟩)
theorem D_wp{P:Program}{E:Env}(hT:cB P E.T)(hR:Rel E.N E.np S0 w0 refs σ a w S γ)(hc:dN σ){ops:Array Oper}{M Ai:List Nat}{i:Nat}{o:Oper}(ho:ops[i]? = some o)(hd:ry E.N o=true)
  {τ τ':St}(hs:DStep P E ops M Ai o τ τ')(ff:(∀k,gZ M σ.bx k=gZ M τ.bx k)\/(pk o=true/\∀k,ShEq (gZ M σ.bx k) (gZ M τ.bx k)))(pQ:∀t,t∈o.looksAt ops->σ.sl t=τ.sl t){K:Go.Act->World->Prop}{Q:Exit->Go.Act->World->Prop}
  (hK:∀(s:Slot)(u:Ups)(a':Go.Act)(w':World)(S':aF)(γ':Nat->Value),τ'=(τ.upd u).setD o.dst s->(∀e∈u,e.1∈Ai)->Rel E.N E.np S0 w0 refs ((σ.upd u).setD o.dst s) a' w' S' γ'->dN ((σ.upd u).setD o.dst s)->K a' w') :
  wpOp P ops Q i K a w:=by
 have nL:=IA hd
 have oX:∀x∈o.op.operands,σ.ev x=τ.ev x:=by
  intro x hx;cases x with
  |tmp t=>exact pQ t (kj _ (zm.2 ⟨.tmp t,by simpa using hx,rfl⟩))
  |_=>rfl
 have wJ:∀s wn,ny ops o=some (s,wn)->s∈o.looksAt ops:=by
  intro s wn hg;refine kv _ ?_;unfold ny at hg;split at hg
  .simp at hg
  .rename_i j w' IB;split at hg
   .rename_i oj iK;split at hg
    .rename_i s' dr;simp only[j4,j8]at hg;simp[IB,iK,dr,hg.1]
    .simp at hg
   .simp at hg
 have xn:∀s v,ny ops o≠none->s∈o.looksAt ops->τ.sl s = .one (.one (.d .bool v))->tm a s = .bool v:=by intro s v _ hm hv;have:=hR.slot s;rw[pQ s hm,hv]at this;exact rA this
 have aU:dq E σ.ev (gZ M σ.bx) [] o=dq E τ.ev (gZ M τ.bx) [] o:=by
  rcases ff with ff|⟨kF,ff⟩
  .rw[show gZ M σ.bx=gZ M τ.bx from funext ff];exact Qx oX
  .rw[ZN kF ff];exact Qx oX
 have dt:∀(s:Slot)(u:Ups)(v:Value)(w':World)(S':aF)(γ':Nat->Value),τ'=(τ.upd u).setD o.dst s->(∀e∈u,e.1∈Ai)->Rel E.N E.np S0 w0 refs (σ.upd u) a w' S' γ'->
   gF S' w' γ' (σ.upd u).bx (tm a) s v->s.bare=true->K (a.put o.dst v) w':=by
  intro s u v w' S' γ' he hb cV dr dO;obtain⟨h1,h2⟩:=Qc cV (Qd hc) nL dr dO;exact hK s u _ w' S' γ' he hb h1 h2
 have uV:(o.guard=none\/∃s wn,ny ops o=some (s,wn)/\τ.sl s = .one (.one (.d .bool wn)))->Region.wanted o (yielded ops a.tmps)=true:=by
  rintro (hg|⟨s,wn,hg,hv⟩)
  .simp[Region.wanted,hg]
  .exact(Fy hg).2 (xn s wn (by rw[hg];simp) (wJ s wn hg) hv)
 unfold wpOp;simp only[ho];cases hs with
 |skip s wn v hg hv ba=>
  have hw:¬Region.wanted o (yielded ops a.tmps)=true:=λhw=>by
   have h1:=(Fy hg).1 hw;rw[xn s v (by rw[hg];simp) (wJ s wn hg) hv]at h1;exact ba (by simpa using h1)
  simp only[hw,z7,kn];exact dt .und [] undef w S γ rfl (by simp) hR rfl rfl
 |skipU s wn hg hv=>
  have hu:tm a s=undef:=by have:=hR.slot s;rw[pQ s (wJ s wn hg),hv]at this;exact this
  have hw:¬Region.wanted o (yielded ops a.tmps)=true:=λhw=>by
   have h1:=(Fy hg).1 hw;rw[hu]at h1;simp[undef]at h1
  simp only[hw,z7,kn];exact dt .und [] undef w S γ rfl (by simp) hR rfl rfl
 |val s u hg bN hb=>
  simp only[uV hg,if_true];rw[<-aU]at bN;obtain⟨A',xo,hle⟩:=Qw (IK M σ.bx) bN;cases hle;obtain⟨⟨v,w',S',γ',aL,cV,dr⟩,dO⟩:=Iv hT hR (act:=[]) (λg hg=>by simp at hg) (λ_=> .inl rfl) xo;refine .inl ?_;unfold Oper.wp;rcases aL with aL|⟨aL,rfl⟩
  .rw[aL,Oper.upon_value];exact dt s u v w' S' γ' rfl hb cV dr dO
  .rw[aL,Oper.upon_skip];exact dt s u undef w' S' γ' rfl hb cV dr dO
 |call f args mk ret s u hg bN hf eN bG hb=>
  simp only[uV hg,if_true];rw[<-aU]at bN;obtain⟨A',xo,hle⟩:=Qw (IK M σ.bx) bN;cases hle with
  |call _ _ _ mk' gT=>
   have CQ:=gT _ _ bG;obtain⟨vals,aL,mr,dO⟩:=P9 hR (act:=[]) (λg hg=>by simp at hg) (λ_=> .inl rfl) xo hf eN;refine .inl ?_;unfold Oper.wp;rw[aL,Oper.upon_enter];refine mr.mono ?_
   rintro e w' ⟨ZW,rfl,ar⟩
   obtain⟨v,S',γ',rfl,cV,dr⟩:=ar s u CQ;exact dt s u v w' S' γ' rfl hb cV dr (dO _ s u CQ)
end
section
variable{S0:aF}{w0:World}{refs:Refs}{σ:St}{a:Go.Act}{w:World}{S:aF}{γ:Nat->Value}
theorem IV{o:Oper}{j:Nat}:j∈nD o↔∃e∈o.after,Region.binds .any e=true/\e.on=j:=by
 simp only[nD,zm];constructor
 .rintro⟨e,he,h⟩
  split at h
  .rename_i hb;simp only[j4]at h;exact⟨e,by simpa using he,hb,h⟩
  .simp at h
 .rintro⟨e,he,hb,h⟩
  exact⟨e,by simpa using he,by simp[hb,h]⟩
theorem ZX{ops:Array Oper}{ao:Array Bool}{i:Nat}(h:i∈Region.ready .any ops ao) :
  ao.getD i true=false/\∃o,ops[i]? = some o/\∀j∈nD o,ao.getD j false=true:=by
 obtain⟨h0,o,ho,h1⟩:=mem_ready.1 h;exact⟨h0,o,ho,λj hj=>by obtain⟨e,he,hb,rfl⟩:=IV.1 hj;exact h1 e he hb⟩
def sU(P:Program)(E:Env)(ops:Array Oper)(cl:List Nat)(A:List (List Nat))(τ:Nat->St):Prop:=
 ∀j o,ops[j]? = some o->ry E.N o=true/\DStep P E ops (se ops cl A j o) (A.getD j []) o (τ j) (τ (j+1))
theorem FF:∀(u:Ups)(σ:St)(t:Nat),(σ.upd u).sl t=σ.sl t
 |[],_,_=>rfl
 |e::u,σ,t=>FF u (σ.setB e.1 e.2) t
theorem xp(σ:St)(d:Option Nat)(s:Slot):(σ.setD d s).bx=σ.bx:=by cases d<;>rfl
theorem IW{σ:St}{d:Option Nat}{s:Slot}{t:Nat}(h:d≠some t):(σ.setD d s).sl t=σ.sl t:=by
 cases d with
 |none=>rfl
 |some d=>have:t≠d:=λe=>h (by rw[e]);simp[St.setD,St.setS,this]
theorem QG{σ:St}{s:Slot}{t:Nat}:(σ.setD (some t) s).sl t=s:=by simp[St.setD,St.setS]
theorem FG:∀(u:Ups)(σ:St)(k:Nat),(∀e∈u,e.1≠k)->(σ.upd u).bx k=σ.bx k
 |[],_,_,_=>rfl
 |e::u,σ,k,h=>by
  have h1:=FG u (σ.setB e.1 e.2) k (λx hx=>h x (by simp[hx]));show ((σ.setB e.1 e.2).upd u).bx k=_;rw[h1];have:=h e (by simp);have ba:¬k=e.1:=λhk=>this hk.symm;simp[St.setB,ba]
theorem QH:∀(u:Ups)(σ τ:St)(k:Nat),σ.bx k=τ.bx k->(σ.upd u).bx k=(τ.upd u).bx k
 |[],_,_,_,h=>h
 |e::u,σ,τ,k,h=>by
  refine QH u (σ.setB e.1 e.2) (τ.setB e.1 e.2) k ?_;simp only[St.setB];split
  .rfl
  .exact h
section
variable{P:Program}{E:Env}{ops:Array Oper}{cl:List Nat}{A:List (List Nat)}{τ:Nat->St}
theorem IX(h:sU P E ops cl A τ){j:Nat}{o:Oper}(ho:ops[j]? = some o):∃s u,τ (j+1)=((τ j).upd u).setD o.dst s/\(∀e∈u,e.1∈A.getD j [])/\(sd o=true->∀k,ShEq ((τ j).bx k) ((τ (j+1)).bx k)):=by
 obtain⟨_,hs⟩:=h j o ho;generalize hq:τ (j+1)=σ' at hs;cases hs with
 |skip s wn v hg hv ba=>exact⟨.und,[],rfl,by simp,λ_ k=>by rw[xp];exact ShEq.refl _⟩
 |skipU s wn hg hv=>exact⟨.und,[],rfl,by simp,λ_ k=>by rw[xp];exact ShEq.refl _⟩
 |val s u hg bN hb=>exact⟨s,u,rfl,hb,λaC k=>by
  rw[xp];exact Qy u (τ j) (λe he=>((ZS aC bN).unmask e he).1) k⟩
 |call f args mk ret s u hg bN hf eN bG hb=>exact⟨s,u,rfl,hb,λaC=>absurd bN (ZT aC)⟩
theorem ZY(h:sU P E ops cl A τ){j:Nat}{o:Oper}(ho:ops[j]? = some o){t:Nat}(ht:o.dst≠some t):(τ (j+1)).sl t=(τ j).sl t:=by
 obtain⟨s,u,he,_⟩:=IX h ho;rw[he,IW ht,FF]
theorem QI(h:sU P E ops cl A τ){j:Nat}{o:Oper}(ho:ops[j]? = some o){k:Nat}(hk:k∉A.getD j []):(τ (j+1)).bx k=(τ j).bx k:=by
 obtain⟨s,u,he,hu,_⟩:=IX h ho;rw[he,xp];exact FG u _ k (λe hm uI=>hk (uI▸hu e hm))
theorem CR(h:sU P E ops cl A τ){t j:Nat}:∀n,j+n<=ops.size->(∀k o,j<=k->k<j+n->ops[k]? = some o->o.dst≠some t)->(τ (j+n)).sl t=(τ j).sl t
 |0,_,_=>rfl
 |n+1,hn,hk=>by
  have aq:j+n<ops.size:=by omega
  have ho:ops[j+n]? = some ops[j+n]:=jt aq;rw[<-Nat.add_assoc,ZY h ho (hk _ _ (by omega) (by omega) ho)];exact CR h n (by omega) (λk o h1 h2=>hk k o h1 (by omega))
theorem CS(h:sU P E ops cl A τ){k j:Nat}:∀n,j+n<=ops.size->(∀i o,j<=i->i<j+n->ops[i]? = some o->k∉A.getD i [])->(τ (j+n)).bx k=(τ j).bx k
 |0,_,_=>rfl
 |n+1,hn,hk=>by
  have aq:j+n<ops.size:=by omega
  have ho:ops[j+n]? = some ops[j+n]:=jt aq;rw[<-Nat.add_assoc,QI h ho (hk _ _ (by omega) (by omega) ho)];exact CS h n (by omega) (λi o h1 h2=>hk i o h1 (by omega))
theorem FH(h:sU P E ops cl A τ){k j:Nat}:∀n,j+n<=ops.size->(∀i o,j<=i->i<j+n->ops[i]? = some o->k∈A.getD i []->sd o=true)->ShEq ((τ j).bx k) ((τ (j+n)).bx k)
 |0,_,_=>ShEq.refl _
 |n+1,hn,hk=>by
  have aq:j+n<ops.size:=by omega
  have ho:ops[j+n]? = some ops[j+n]:=jt aq;have ih:=FH h n (by omega) (λi o h1 h2=>hk i o h1 (by omega));refine ih.trans ?_;rw[<-Nat.add_assoc];by_cases hm:k∈A.getD (j+n) []
  .obtain⟨_,_,_,_,aC⟩:=IX h ho;exact aC (hk _ _ (by omega) (by omega) ho hm) k
  .rw[QI h ho hm];exact ShEq.refl _
structure Ph(ops:Array Oper)(A:List (List Nat))(τ:Nat->St)(ao:Array Bool)(σ:St):Prop where
 closed:∀j o,ops[j]? = some o->ao.getD j false=true->∀d∈nD o,ao.getD d false=true
 done:∀j o t,ops[j]? = some o->o.dst=some t->ao.getD j false=true->σ.sl t=(τ (j+1)).sl t
 rest:∀t,(∀j o,ops[j]? = some o->o.dst=some t->ao.getD j false=false)->σ.sl t=(τ 0).sl t
 bdone:∀j k,j<ops.size->k∈A.getD j []->ao.getD j false=true->(∀i,i<ops.size->k∈A.getD i []->ao.getD i false=true->i<=j)->σ.bx k=(τ (j+1)).bx k
 brest:∀k,(∀j,j<ops.size->k∈A.getD j []->ao.getD j false=false)->σ.bx k=(τ 0).bx k
theorem Ph.bef{ao:Array Bool}(hp:Ph ops A τ ao σ){i j:Nat}(hb:Bef ops i j)(hi:ao.getD i false=true):ao.getD j false=true:=by
 induction hb with
 |dep ho hj=>exact hp.closed _ _ ho hi _ hj
 |trans _ _ h1 h2=>exact h2 (h1 hi)
theorem Ph.befd{ao:Array Bool}(hp:Ph ops A τ ao σ){i j:Nat}{o:Oper}(ho:ops[i]? = some o)(hd:∀j∈nD o,ao.getD j false=true)(hb:Bef ops i j):ao.getD j false=true:=by
 induction hb with
 |dep xm hj=>rw[ho]at xm;simp only[j4]at xm;subst xm;exact hd _ hj
 |trans da fc h1 h2=>exact hp.bef fc (h1 ho)
theorem FI(p:Nat->Prop):∀n,(∃j,j<n/\p j)->∃m,m<n/\p m/\∀j,j<n->p j->j<=m
 |0,h=>by obtain⟨j,hj,_⟩:=h;omega
 |n+1,h=>by
  by_cases hn:p n
  .exact⟨n,by omega,hn,λj hj _=>by omega⟩
  .obtain⟨j,hj,hp⟩:=h
   have FB:j<n:=by
    rcases qv j n with h|h
    .exact h
    .have:j=n:=by omega
     subst this;exact absurd hp hn
   obtain⟨m,hm,sV,ar⟩:=FI p n ⟨j,FB,hp⟩;refine⟨m,by omega,sV,λi hi QJ=>?_⟩;rcases qv i n with h|h
   .exact ar i h QJ
   .have:i=n:=by omega
    subst this;exact absurd QJ hn
theorem QK{l:Array Bool}{i:Nat}(h:l.getD i true=false):l.getD i false=false:=by
 rcases qv i l.size with h'|h'
 .simp[h']at h ⊢;exact h
 .simp[Array.getElem?_eq_none h']
theorem pR{l:Array Bool}{i j:Nat}(hi:i<l.size):(l.setIfInBounds i true).getD j false=true↔j=i\/l.getD j false=true:=by
 by_cases h:i=j
 .subst h;simp[hi]
 .rw[getD_set_ne false h];exact⟨.inr,λhh=>hh.resolve_left λe=>h e.symm⟩
theorem CT{l:Array Bool}{i:Nat}(h:¬l.getD i false=true):l.getD i false=false:=by
 cases hq:l.getD i false with
 |false=>rfl
 |true=>exact absurd hq h
section
variable(bH:DOkR ops A)(h:sU P E ops cl A τ){ao:Array Bool}(hp:Ph ops A τ ao σ){i:Nat}{o:Oper}(hi:ops[i]? = some o)(jP:ao.getD i false=false)(dx:∀j∈nD o,ao.getD j false=true)
include bH h hp hi jP dx
theorem ZZ:∀t,t∈o.looksAt ops->σ.sl t=(τ i).sl t:=by
 intro t Ce;have pS:i<ops.size:=(jm.1 hi).1;have QL:∀j oj,ops[j]? = some oj->oj.dst=some t->j≠i->Bef ops i j\/Bef ops j i:=λj oj hj ht ba=>(bH.dst i j o oj t hi hj (λe=>ba e.symm) ht).2 Ce;by_cases hex:∃(j:Nat)(oj:Oper),ops[j]? = some oj/\oj.dst=some t/\ao.getD j false=true
 .obtain⟨j,oj,hj,ht,nd⟩:=hex;have oW:j≠i:=λe=>by rw[e,jP]at nd;simp at nd
  have xq:Bef ops i j:=by
   rcases QL j oj hj ht oW with hd|hd
   .exact hd
   .have:=hp.bef hd nd;rw[jP]at this;simp at this
  have aq:=bH.bef xq;rw[hp.done j oj t hj ht nd];have:=CR h (t:=t) (j:=j+1) (i-(j+1)) (by omega) (λk ok h1 h2 hk=>(bH.dst k j ok oj t hk hj (by omega) ht).1);rw[show j+1+(i-(j+1))=i by omega]at this;exact this.symm
 .rw[hp.rest t (λj oj hj ht=>CT λhq=>hex ⟨j,oj,hj,ht,hq⟩)]
  have:=CR h (t:=t) (j:=0) i (by omega) (λk ok _ hk nR rF=>by
   have lQ:k≠i:=by omega
   rcases QL k ok nR rF lQ with hd|hd
   .exact hex ⟨k,ok,nR,rF,hp.befd hi dx hd⟩
   .have:=bH.bef hd;omega)
  rw[kf]at this;exact this.symm
theorem QM{k:Nat}(hk:∀j oj,ops[j]? = some oj->k∈A.getD j []->i=j\/Bef ops i j\/Bef ops j i):σ.bx k=(τ i).bx k:=by
 have pS:i<ops.size:=(jm.1 hi).1;by_cases hex:∃j,j<ops.size/\(k∈A.getD j []/\ao.getD j false=true)
 .obtain⟨m,hm,⟨nS,rN⟩,eH⟩:=FI _ _ hex;have IY:ops[m]? = some ops[m]:=jt hm;have IZ:i≠m:=λe=>by rw[<-e,jP]at rN;simp at rN
  have xq:Bef ops i m:=by
   rcases hk m _ IY nS with hd|hd|hd
   .exact absurd hd IZ
   .exact hd
   .have:=hp.bef hd rN;rw[jP]at this;simp at this
  have aq:=bH.bef xq;rw[hp.bdone m k hm nS rN (λj hj dA nd=>eH j hj ⟨dA,nd⟩)]
  have:=CS h (k:=k) (j:=m+1) (i-(m+1)) (by omega) (λj oj h1 h2 hj dA=>by
   rcases hk j oj hj dA with hd|hd|hd
   .omega
   .have:=eH j (by omega) ⟨dA,hp.befd hi dx hd⟩;omega
   .have:=bH.bef hd;omega)
  rw[show m+1+(i-(m+1))=i by omega]at this;exact this.symm
 .rw[hp.brest k (λj hj dA=>CT λhq=>hex ⟨j,hj,dA,hq⟩)]
  have:=CS h (k:=k) (j:=0) i (by omega) (λj oj h1 h2 hj dA=>by
   rcases hk j oj hj dA with hd|hd|hd
   .omega
   .exact hex ⟨j,by omega,dA,hp.befd hi dx hd⟩
   .have:=bH.bef hd;omega)
  rw[kf]at this;exact this.symm
theorem Z0(kF:pk o=true){k:Nat}(hk:∀j oj,ops[j]? = some oj->k∈A.getD j []->i=j\/Bef ops i j\/Bef ops j i\/sd oj=true):ShEq (σ.bx k) ((τ i).bx k):=by
 have pS:i<ops.size:=(jm.1 hi).1;by_cases hex:∃j,j<ops.size/\(k∈A.getD j []/\ao.getD j false=true)
 .obtain⟨m,hm,⟨nS,rN⟩,eH⟩:=FI _ _ hex;have IY:ops[m]? = some ops[m]:=jt hm;rw[hp.bdone m k hm nS rN (λj hj dA nd=>eH j hj ⟨dA,nd⟩)];rcases qv m i with IZ|IZ
  .have:=FH h (k:=k) (j:=m+1) (i-(m+1)) (by omega) (λj oj h1 h2 hj dA=>by
    rcases hk j oj hj dA with hd|hd|hd|hd
    .omega
    .have:=eH j (by omega) ⟨dA,hp.befd hi dx hd⟩;omega
    .have:=bH.bef hd;omega
    .exact hd)
   rwa[show m+1+(i-(m+1))=i by omega]at this
  .have Z1:i≠m:=λe=>by rw[<-e,jP]at rN;simp at rN
   have:=FH h (k:=k) (j:=i) (m+1-i) (by omega) (λj oj h1 h2 hj dA=>by
    have nd:ao.getD j false=true:=by
     by_cases uW:j=m
     .rw[uW];exact rN
     .rcases bH.box j m oj ops[m] k hj IY uW dA nS with hd|hd
      .have:=bH.bef hd;omega
      .exact hp.bef hd rN
    rcases hk j oj hj dA with hd|hd|hd|hd
    .rw[<-hd,jP]at nd;simp at nd
    .have:=bH.bef hd;omega
    .have:=hp.bef hd nd;rw[jP]at this;simp at this
    .exact hd)
   rw[show i+(m+1-i)=m+1 by omega]at this;exact this.symm
 .rw[hp.brest k (λj hj dA=>CT λhq=>hex ⟨j,hj,dA,hq⟩)]
  have:=FH h (k:=k) (j:=0) i (by omega) (λj oj h1 h2 hj dA=>by
   rcases hk j oj hj dA with hd|hd|hd|hd
   .omega
   .exact absurd ⟨j,by omega,dA,hp.befd hi dx hd⟩ hex
   .have:=bH.bef hd;omega
   .exact hd)
  rwa[kf]at this
theorem Z2(hc:ClOk ops cl):(∀k,gZ (se ops cl A i o) σ.bx k=gZ (se ops cl A i o) (τ i).bx k)\/(pk o=true/\∀k,ShEq (gZ (se ops cl A i o) σ.bx k) (gZ (se ops cl A i o) (τ i).bx k)):=by
 by_cases kF:pk o=true
 .refine .inr ⟨kF,ShEq.mask λk hk=>Z0 bH h hp hi jP dx kF λj oj hj dA=>?_⟩;rcases QC hc hk hj dA with hd|hd|hd|hd
  .exact .inl hd
  .exact .inr (.inl hd)
  .exact .inr (.inr (.inl hd))
  .exact .inr (.inr (.inr hd.2))
 .refine .inl λk=>?_;unfold gZ;split
  .rfl
  .rename_i hk
   exact QM bH h hp hi jP dx λj oj hj dA=>by
    rcases QC hc (by simpa using hk) hj dA with hd|hd|hd|hd
    .exact .inl hd
    .exact .inr (.inl hd)
    .exact .inr (.inr hd)
    .exact absurd hd.1 kF
theorem Z3(bZ:ops.size<=ao.size){s:Slot}{u:Ups}(he:τ (i+1)=((τ i).upd u).setD o.dst s)(hu:∀e∈u,e.1∈A.getD i []):Ph ops A τ (ao.setIfInBounds i true) ((σ.upd u).setD o.dst s):=by
 have pS:i<ops.size:=(jm.1 hi).1;have fw:i<ao.size:=by omega
 have kE:∀k,k∈A.getD i []->σ.bx k=(τ i).bx k:=λk hk=>QM bH h hp hi jP dx λj oj hj dA=>by
  by_cases dK:i=j
  .exact .inl dK
  .exact .inr (bH.box i j o oj k hi hj dK hk dA)
 refine⟨?_,?_,?_,?_,?_⟩
 .intro j oj iK hj d nH;rcases (pR fw).1 hj with rfl|hj
  .rw[hi]at iK;simp only[j4]at iK;subst iK;exact(pR fw).2 (.inr (dx d nH))
  .exact(pR fw).2 (.inr (hp.closed j oj iK hj d nH))
 .intro j oj t iK ht hj;by_cases oW:j=i
  .subst oW;rw[hi]at iK;simp only[j4]at iK;subst iK;rw[he,ht,QG,QG]
  .rcases (pR fw).1 hj with hj|hj
   .exact absurd hj oW
   .rw[IW (bH.dst i j o oj t hi iK (λe=>oW e.symm) ht).1,FF];exact hp.done j oj t iK ht hj
 .intro t ar
  have Z4:o.dst≠some t:=λe=>by
   have:=ar i o hi e;have h2:=(pR (j:=i) fw).2 (.inl rfl);rw[this]at h2;simp at h2
  rw[IW Z4,FF]
  exact hp.rest t λj oj iK ht=>CT λhq=>by
   have:=ar j oj iK ht;have h2:=(pR (i:=i) fw).2 (.inr hq);rw[this]at h2;simp at h2
 .intro j k hj dA nd eH;rw[xp];by_cases oW:j=i
  .subst oW;rw[he,xp];exact QH u σ (τ j) k (kE k dA)
  .have CU:ao.getD j false=true:=by
    rcases (pR fw).1 nd with e|hh
    .exact absurd e oW
    .exact hh
   have lQ:k∉A.getD i []:=λlQ=>by
    have hle:=eH i pS lQ ((pR fw).2 (.inl rfl));have iK:ops[j]? = some ops[j]:=jt hj;rcases bH.box i j o _ k hi iK (λe=>oW e.symm) lQ dA with hd|hd
    .have:=bH.bef hd;omega
    .have:=hp.bef hd CU;rw[jP]at this;simp at this
   rw[FG u σ k (λe hm uI=>lQ (uI▸hu e hm))];exact hp.bdone j k hj dA CU (λi' bF bg kC=>eH i' bF bg ((pR fw).2 (.inr kC)))
 .intro k ar
  have lQ:k∉A.getD i []:=λlQ=>by
   have:=ar i pS lQ;have h2:=(pR (j:=i) fw).2 (.inl rfl);rw[this]at h2;simp at h2
  rw[xp,FG u σ k (λe hm uI=>lQ (uI▸hu e hm))]
  exact hp.brest k λj hj dA=>CT λhq=>by
   have:=ar j hj dA;have h2:=(pR (i:=i) fw).2 (.inr hq);rw[this]at h2;simp at h2
end
theorem Z5(bH:DOkR ops A)(h:sU P E ops cl A τ){ao:Array Bool}(hp:Ph ops A τ ao σ)(ar:∀j,j<ops.size->ao.getD j false=true):σ=τ ops.size:=by
 have eu:σ.sl=(τ ops.size).sl:=by
  funext t
  by_cases hex:∃(j:Nat)(oj:Oper),ops[j]? = some oj/\oj.dst=some t
  .obtain⟨j,oj,hj,ht⟩:=hex;have aq:j<ops.size:=(jm.1 hj).1;rw[hp.done j oj t hj ht (ar j aq)];have:=CR h (t:=t) (j:=j+1) (ops.size-(j+1)) (by omega) (λk ok h1 h2 hk=>(bH.dst k j ok oj t hk hj (by omega) ht).1);rw[show j+1+(ops.size-(j+1))=ops.size by omega]at this;exact this.symm
  .rw[hp.rest t (λj oj hj ht=>absurd ⟨j,oj,hj,ht⟩ hex)];have:=CR h (t:=t) (j:=0) ops.size (by omega) (λk ok _ hk nR rF=>hex ⟨k,ok,nR,rF⟩);rw[kf]at this;exact this.symm
 have ff:σ.bx=(τ ops.size).bx:=by
  funext k
  by_cases hex:∃j,j<ops.size/\k∈A.getD j []
  .obtain⟨m,hm,nS,eH⟩:=FI _ _ hex;rw[hp.bdone m k hm nS (ar m hm) (λj hj dA _=>eH j hj dA)];have:=CS h (k:=k) (j:=m+1) (ops.size-(m+1)) (by omega) (λj oj h1 h2 hj dA=>by have:=eH j (by omega) dA;omega);rw[show m+1+(ops.size-(m+1))=ops.size by omega]at this;exact this.symm
  .rw[hp.brest k (λj hj dA=>absurd ⟨j,hj,dA⟩ hex)];have:=CS h (k:=k) (j:=0) ops.size (by omega) (λj oj h1 h2 hj dA=>hex ⟨j,by omega,dA⟩);rw[kf]at this;exact this.symm
 cases σ;cases hq:τ ops.size;rw[hq]at ff eu;simp only at ff eu;rw[ff,eu]
end
theorem Z6{l:Array Bool}{i:Nat}(hi:l.getD i true=false):(l.setIfInBounds i true).toList.count false+1=l.toList.count false:=by
 have aq:i<l.size:=by
  rcases qv i l.size with h|h
  .exact h
  .simp[Array.getElem?_eq_none h]at hi
 have hv:l.toList[i]'(by simpa using aq)=false:=by simp[aq]at hi;simpa using hi
 have bP:0<l.toList.count false:=List.count_pos_iff.2 (hv▸jh _);have hc:(l.toList.set i true).count false=l.toList.count false-(if l.toList[i]'(by simpa using aq)==false then 1 else 0)+(if true==false then 1 else 0):=List.count_set (by simpa using aq);rw[hv]at hc;rw[Array.toList_setIfInBounds];simp only[vb,if_true,show (true==false)=false from rfl,kn,z7,Nat.add_zero]at hc;omega
theorem Z7{l:Array Bool}(h:l.toList.count false=0){j:Nat}(hj:j<l.size):l.getD j false=true:=by
 have h0:false∉l.toList:=List.count_eq_zero.1 h;simp only[qy,jt hj,kz];cases hv:l[j]with
 |true=>rfl
 |false=>exact absurd (hv▸by simp:false∈l.toList) h0
theorem Z8{ops:Array Oper}{A:List (List Nat)}(bH:DOkR ops A){ao:Array Bool}(hs:ao.size=ops.size)(h:Region.ready .any ops ao=[]):∀j,j<ops.size->ao.getD j false=true:=by
 intro j;induction j using Nat.strongRecOn with
 |_ j ih=>
  intro hj;cases hq:ao.getD j false with
  |true=>rfl
  |false=>
   have ho:ops[j]? = some ops[j]:=jt hj
   have hm:j∈Region.ready .any ops ao:=mem_ready.2 ⟨by
    have eJ:j<ao.size:=by omega
    simp[eJ]at hq ⊢;exact hq,ops[j],ho,λe he hb=>ih _ (bH.lt j _ ho _ (IV.2 ⟨e,he,hb,rfl⟩)) (Nat.lt_trans (bH.lt j _ ho _ (IV.2 ⟨e,he,hb,rfl⟩)) hj)⟩
   rw[h]at hm;simp at hm
theorem Z9{P:Program}{E:Env}(hT:cB P E.T){ops:Array Oper}{cl:List Nat}{A:List (List Nat)}(fp:ClOk ops cl)(bH:DOkR ops A){τ:Nat->St}(h:sU P E ops cl A τ)
  {Q:Exit->Go.Act->World->Prop}(hn:∀a' w' S' γ',Rel E.N E.np S0 w0 refs (τ ops.size) a' w' S' γ'->dN (τ ops.size)->Q .normal a' w') :
  ∀(fuel:Nat)(ao:Array Bool){σ:St}{a:Go.Act}{w:World}{S:aF}{γ:Nat->Value},ao.size=ops.size->ao.toList.count false<=fuel->Rel E.N E.np S0 w0 refs σ a w S γ->dN σ->
   Ph ops A τ ao σ->wpAny P .any ops Q fuel ao a w:=by
 have dZ:∀(ao:Array Bool){σ:St}{a:Go.Act}{w:World}{S:aF}{γ:Nat->Value},Rel E.N E.np S0 w0 refs σ a w S γ->dN σ->Ph ops A τ ao σ->(∀j,j<ops.size->ao.getD j false=true)->Q .normal a w:=by intro ao σ a w S γ hR hc uX ar;have he:=Z5 bH h uX ar;subst he;exact hn a w S γ hR hc
 intro fuel;induction fuel with
 |zero=>
  intro ao σ a w S γ hs CV hR hc uX;have ar:∀j,j<ops.size->ao.getD j false=true:=λj hj=>Z7 (by omega) (by omega);refine⟨?_,dZ ao hR hc uX ar⟩;refine List.eq_nil_iff_forall_not_mem.2 λi hi=>?_;have h0:=(mem_ready.1 hi).1;have aq:i<ops.size:=by obtain⟨_,o,ho,_⟩:=mem_ready.1 hi;exact(jm.1 ho).1
  have:=ar i aq;rw[QK h0]at this;simp at this
 |succ fuel ih=>
  intro ao σ a w S γ hs CV hR hc uX;refine⟨λfD=>dZ ao hR hc uX (Z8 bH hs fD),λi hi=>?_⟩;obtain⟨jP,o,ho,dx⟩:=ZX hi;have xr:=QK jP;have dG:=Z6 jP;have bZ:(ao.setIfInBounds i true).size=ops.size:=by simpa using hs
  obtain⟨hd,dP⟩:=h i o ho;refine D_wp hT hR hc ho hd dP (Z2 bH h uX ho xr dx fp) (ZZ bH h uX ho xr dx) ?_;intro s u a' w' S' γ' he hu cV eE;exact ih _ bZ (by omega) cV eE (Z3 bH h uX ho xr dx (Nat.le_of_eq hs.symm) he hu)
theorem jtw{P:Program}{E:Env}(hT:cB P E.T)(hC:lJ P E.C)(hF:CFun E.C)(hR:Rel E.N E.np S0 w0 refs σ a w S γ)(hc:dN σ){ops:Array Oper}{A:List (List Nat)}
  {R:Type}{k:St->Option R}{r:R}{Q:Exit->Go.Act->World->Prop}(hn:∀σ' a' w' S' γ',Rel E.N E.np S0 w0 refs σ' a' w' S' γ'->dN σ'->k σ'=some r->Q .normal a' w')(h:BH E ops A σ k=some r) :
  wpAny P .any ops Q ops.size (Array.replicate ops.size false) a { w with drawn:=w.drawn+1 }:=by
 unfold BH at h;split at h
 .rename_i bH;obtain⟨τ,h1,h2,h3⟩:=QF (P:=P) (ops:=ops) hC hF ops.size 0 σ (kf _) (by simpa using h)
  have mw:∀j,(Array.replicate ops.size false).getD j false=false:=by
   intro j;rcases qv j ops.size with hj|hj
   .simp[hj]
   .simp[hj]
  have fp:ClOk ops (BE ops.toList []):=QB ops.toList [] (λi j h=>by simp at h) (λk o hk=>by simpa using hk);refine Z9 hT fp (ZU fp bH) (τ:=τ) (λj o ho=>h3 j o (kc _) ho) (λa' w' S' γ' cV eE=>hn _ a' w' S' γ' cV eE h2) ops.size _ (by simp) (by simp) (hR.drawn _) hc ?_
  exact⟨λj o _ hj=>by rw[mw]at hj;simp at hj,λj o t _ _ hj=>by rw[mw]at hj;simp at hj,λt _=>by rw[h1],
   λj k _ _ hj=>by rw[mw]at hj;simp at hj,λk _=>by rw[h1]⟩
 .simp at h
end
def FR(ro:Option Nat):Fence:={ Fence.wide with round:=ro }
theorem QN(ro:Option Nat)(n:Nat):(FR ro).room n:=λd h=>by simp[FR,Fence.wide]at h
section
variable{P:Program}{ro:Option Nat}{n:Nat}
theorem jyK{f:FuncId}{args:Array Value}{w:World}{R:Ending->World->Prop}(h:Calls P f args w R):CallsIn (FR ro) n P f args w R:=(callsIn_wide (n:=n)).2 h
theorem jyL{f:FuncId}{args:Array Value}{w:World}{R:Ending->World->Prop}(h:CallsIn (FR ro) n P f args w R):Calls P f args w R:=(callsIn_wide (n:=n)).1 h
theorem jzU{m:Nat}{c:Code}{Q:Exit->Go.Act->World->Prop}{a:Go.Act}{w:World}(h:c.wpIn (FR ro) n P Q a w):c.wpIn (FR ro) m P Q a w:=
 λb k cs gD hb hr=>h b k cs gD hb (QN _ _)
theorem jzV{row:String}{args:Array Value}{w:World}{R:Value->World->Prop}(h:Rows P row args w R):RowsIn (FR ro) n P row args w R:=
 λc cs _=>let ⟨v,w',r,s⟩:=h c cs;⟨v,w',r,stepsIn_wide.2 s⟩
theorem FJ{o:Oper}(hp:ro=none\/∀c,o.op ≠ .defer c){a:Go.Act}{w:World}{K K':Go.Act->World->Prop}{Q:Exit->Go.Act->World->Prop}(hK:∀a w,K a w->K' a w)
  (h:o.wp P a w K Q):o.wpIn (FR ro) n P a w K' Q:=by
 refine⟨λ_ _=>trivial,?_⟩
 have e:o.semAt (FR ro).round a.eval=execOp a.eval o:=by
  rcases hp with rfl|hp
  .rfl
  .exact Oper.semAt_eq _ _ _ hp
 rw[e];unfold Oper.wp at h;revert h;cases (execOp a.eval o).run P w with
 |ok x w'=>
  cases x with
  |value v=>intro h;exact hK _ _ h
  |skip=>intro h;exact hK _ _ h
  |defer d=>intro h;exact hK _ _ h
  |enter f args=>
   intro h;refine⟨λhd=>by simp[FR,Fence.wide]at hd,jyK (Calls.mono h λe wx he=>?_)⟩;cases e with
   |returned v=>exact hK _ _ he
   |panicked c=>exact he
   |outgrown=>exact he
  |row r args=>intro h;exact⟨λhd=>by simp[FR,Fence.wide]at hd,jzV (Rows.mono h λv wx he=>hK _ _ he)⟩
  |round l f tmps x y=>intro h;exact h.elim
  |_=>intro h;exact h.elim
 |halt x w'=>cases x<;>intro h<;>exact h
theorem CW{ops:Array Oper}{Q:Exit->Go.Act->World->Prop}(hp:ro=none\/∀o∈ops.toList,∀c,o.op ≠ .defer c)(dM:¬LetsOut Q):∀(l:List Nat)(a:Go.Act)(w:World),wpOps P ops Q l a w->wpOpsIn (FR ro) n P ops Q l a w
 |[],a,w,h=>h
 |i::r,a,w,h=>by
  simp only[wpOps]at h;simp only[wpOpsIn];cases ho:ops[i]? with
  |none=>simp only[ho]at h ⊢;exact CW hp dM r a w h
  |some o=>
   simp only[ho]at h ⊢;split
   .rename_i hw;simp only[hw,if_true]at h;rcases h with h|⟨_,h⟩
    .refine FJ (hp.imp id λhh=>hh o ?_) (λa w=>CW hp dM r a w) h;obtain⟨aq,rfl⟩:=jm.1 ho;exact Array.mem_toList_iff.2 (Array.getElem_mem aq)
    .exact absurd h dM
   .rename_i hw;simp only[hw]at h;exact⟨λ_ _=>trivial,CW hp dM r _ w h⟩
theorem FK{md:Region.Mode}{ops:Array Oper}{Q:Exit->Go.Act->World->Prop}(hp:ro=none\/∀o∈ops.toList,∀c,o.op ≠ .defer c)(dM:¬LetsOut Q) :
  ∀(fuel:Nat)(ao:Array Bool)(a:Go.Act)(w:World),wpAny P md ops Q fuel ao a w->wpAnyIn (FR ro) n P md ops Q fuel ao a w
 |0,_,_,_,h=>h
 |fuel+1,ao,a,w,h=>by
  refine⟨h.1,λi hi=>?_⟩;have h2:=h.2 i hi;unfold wpOp at h2;unfold wpOpIn;cases ho:ops[i]? with
  |none=>simp only[ho]at h2 ⊢;exact FK hp dM fuel _ a w h2
  |some o=>
   simp only[ho]at h2 ⊢;split
   .rename_i hw;simp only[hw,if_true]at h2;rcases h2 with h2|⟨_,h2⟩
    .refine FJ (hp.imp id λhh=>hh o ?_) (λa w=>FK hp dM fuel _ a w) h2;obtain⟨aq,rfl⟩:=jm.1 ho;exact Array.mem_toList_iff.2 (Array.getElem_mem aq)
    .exact absurd h2 dM
   .rename_i hw;simp only[hw]at h2;exact⟨λ_ _=>trivial,FK hp dM fuel _ _ w h2⟩
end
section
variable{N:NT}{np:Nat}{S0:aF}{w0:World}{refs:Refs}{σ:St}{a:Go.Act}{w:World}{S:aF}{γ:Nat->Value}
theorem Rel.allocO(hR:Rel N np S0 w0 refs σ a w S γ)(o:Obj):Rel N np S0 w0 refs σ a (w.alloc o) S γ:=
 Rel.step (bx':=σ.bx) (γ':=γ) hR (zR hR o) (.refl _ _) (λk b hb=>ez.keep (zR hR o) (.refl _ _) rfl (λg hg=>⟨heap_alloc_old w o (l9 (hR.box k b hb) hg),λ_=>Iff.rfl⟩) (hR.box k b hb))
  hR.own hR.apart hR.new (λg i h=>by have:=hR.here g i h;simp;omega) (λg hg hr=>(heap_alloc_old w o (qk hg hR.grow)).trans (hR.below g hg hr)) (by have:=hR.grow;simp;omega) hR.os hR.tape hR.output
  (λg hg _ h=>⟨heap_alloc_old w o hg,h⟩)
structure Grew(w w':World):Prop where
 old:∀g,g<w.heap.size->w'.heap[g]? = w.heap[g]?
 size:w.heap.size<=w'.heap.size
 os:w'.os=w.os
 tape:w'.tape=w.tape
 output:w'.output=w.output
structure Ad(S:aF)(w:World)(S':aF)(w':World):Prop where
 sub:∀g o,S g o->S' g o
 new:∀g o,S' g o->S g o\/w.heap.size<=g
 here:∀g o,S' g o->g<w'.heap.size
theorem Rel.grew(hR:Rel N np S0 w0 refs σ a w S γ){S':aF}{w':World}(h:Grew w w')(hs:Ad S w S' w'):Rel N np S0 w0 refs σ a w' S' γ:=
 have aC:cX S w S' w':=λg o hg=>⟨hs.sub g o hg,World.cell?_of_block (h.old g (hR.here g o hg))⟩
 Rel.step (bx':=σ.bx) (γ':=γ) hR aC (.refl _ _) (λk b hb=>ez.keep aC (.refl _ _) rfl (λg hg=>
   have hl:=l9 (hR.box k b hb) hg
   ⟨h.old g hl,λo=>⟨λh1=>(hs.new g o h1).resolve_right (by omega),hs.sub g o⟩⟩) (hR.box k b hb))
  hR.own hR.apart (λg o h1=>(hs.new g o h1).elim (hR.new g o) λh2=> .inr (qg hR.grow h2)) hs.here (λg hg hr=>(h.old g (qk hg hR.grow)).trans (hR.below g hg hr)) (qg hR.grow h.size) (h.os.trans hR.os) (h.tape.trans hR.tape) (h.output.trans hR.output)
  (λg hg _ hn=>⟨h.old g hg,hn⟩)
theorem Rel.swap(hR:Rel N np S0 w0 refs σ a w S γ){N':NT}{refs':Refs}{a':Go.Act}(hb:refs'.blks=refs.blks)(hv:refs'.val=refs.val)(bZ:a'.tmps.size=N'.n)(Ae:a'.defers=refs'.ds)
  (pT:∀i,gF S w γ σ.bx (tm a') (σ.sl i) (tm a' i))(hk:∀g o,refs'.kw g=some o->w.heap[g]? = some o/\∀k b,σ.bx k = .live b->blk (γ k)≠some g)
  (hf:∀i v,refs'.fix i=some v->N'.pin i=true/\a'.tmps.getD i undef=v):Rel N' np S0 w0 refs' σ a' w S γ:=
 have hm:∀g,g∈refs'↔g∈refs:=λg=>by show g∈refs'.blks↔g∈refs.blks;rw[hb]
 ⟨bZ,Ae,pT,hR.box,λk b g h h'=>(hR.own k b g h h').imp id λh=>⟨(hm g).2 h.1,h.2⟩,hR.apart,hR.ext,hR.new,hR.here,λg h h'=>hR.below g h λh2=>h' ((hm g).2 h2),
  hR.grow,hR.os,hR.tape,hR.output,λk v h=>hR.par k v (hv▸h),hk,hf⟩
theorem QP{g o:Nat}{x:Obj}(h:w.heap[g]? = some x)(hc:x.isCells=false):w.cell? ⟨g,o,none⟩=none:=by
 unfold World.cell?;simp only[h];cases x<;>first|rfl|(simp[Obj.isCells]at hc)
theorem Rel.putO(hR:Rel N np S0 w0 refs σ a w S γ){l:Nat}{o o':Obj}(hk:refs.kw l=some o)(hl:w0.heap.size<=l)(hc:o.isCells=false)(eE:o'.isCells=false) :
  Rel N np S0 w0 { refs with kw:=λg=>if g=l then some o' else refs.kw g } σ a (w.putObj l o') S γ:=by
 obtain⟨hw,dM⟩:=hR.kept l o hk;have aq:=(jm.1 hw).1
 have aC:cX S w S (w.putObj l o'):=λg i h=>⟨h,by
  by_cases hg:g=l
  .subst hg;rw[QP hw hc,QP (World.putObj_heap_same aq) eE]
  .exact World.cell?_of_block (World.putObj_heap_other hg)⟩
 have bu:Rel N np S0 w0 { refs with kw:=λg=>if g=l then none else refs.kw g } σ a w S γ:=
  Rel.swap hR rfl rfl hR.size hR.defers hR.slot (λg x h=>by
   simp only at h;split at h
   .simp at h
   .exact hR.kept g x h) hR.fix
 have cO:Rel N np S0 w0 { refs with kw:=λg=>if g=l then none else refs.kw g } σ a (w.putObj l o') S γ:=
  Rel.step (bx':=σ.bx) (γ':=γ) bu aC (.refl _ _) (λk b hb=>ez.keep aC (.refl _ _) rfl (λg hg=>⟨World.putObj_heap_other (λe=>dM k b hb (e▸hg)),λ_=>Iff.rfl⟩) (hR.box k b hb))
   bu.own bu.apart bu.new (λg i h=>by simpa using hR.here g i h) (λg hg hr=>(World.putObj_heap_other (by omega)).trans (bu.below g hg hr)) (by simpa using hR.grow) hR.os hR.tape hR.output
   (λg _ zS h=>⟨World.putObj_heap_other (λe=>by subst e;simp at zS),h⟩)
 refine Rel.swap cO rfl rfl cO.size cO.defers cO.slot (λg x h=>?_) cO.fix;simp only at h;split at h
 .rename_i e;subst e;simp only[j4]at h;subst h;exact⟨World.putObj_heap_same aq,dM⟩
 .rename_i e;have h1:=hR.kept g x h;exact⟨(World.putObj_heap_other e).trans h1.1,h1.2⟩
theorem juK(np:Nat)(K:Keep)(s:Snap)(i:Nat):(∃c,(cS np K s).sl i = .one c)/\(i∉K.slots->(cS np K s).sl i = .one (.one .dead)):=by
 have eu:(cS np K s).sl i=match K.slots.idxOf? i with
  |some j=>wq s[j]?
  |none=> .one (.one .dead):=rfl
 rw[eu];cases hq:K.slots.idxOf? i with
 |none=>exact⟨⟨_,rfl⟩,λ_=>rfl⟩
 |some j=>refine⟨?_,λh=>absurd (k9 (oV hq)) h⟩;simp only;unfold wq;split<;>exact⟨_,rfl⟩
theorem Rel.frame{K:Keep}{s:Snap}(hR:Rel N np S0 w0 refs (cS np K s) a w S γ){N':NT}{refs':Refs}{a':Go.Act}(hb:refs'.blks=refs.blks)(hv:refs'.val=refs.val)(bZ:a'.tmps.size=N'.n)(Ae:a'.defers=refs'.ds)
  (eu:∀i∈K.slots,tm a' i=tm a i)(hk:∀g o,refs'.kw g=some o->w.heap[g]? = some o/\∀k b,(cS np K s).bx k = .live b->blk (γ k)≠some g)
  (hf:∀i v,refs'.fix i=some v->N'.pin i=true/\a'.tmps.getD i undef=v):Rel N' np S0 w0 refs' (cS np K s) a' w S γ:=by
 refine hR.swap hb hv bZ Ae (λi=>?_) hk hf;obtain⟨⟨c,hc⟩,hd⟩:=juK np K s i;by_cases hi:i∈K.slots
 .have:=hR.slot i;rw[hc]at this ⊢;rw[eu i hi];exact this
 .rw[hd hi];exact⟨trivial,λh=>absurd rfl h⟩
end
section
variable{P:Program}{F:Fence}{n:Nat}{b:Frame}{a:Go.Act}{k:List Go.Item}{cs:List Frame}{w:World}{Q:Exit->Go.Act->World->Prop}
theorem Af{c:Code}:step P (lone (b.atR a (.code (.scope c)::k)) cs w) = .next (lone (b.atR a (.code c :: .inScope c::k)) cs w):=
 step_lone_go (by simp[stepG,stepG.exec,Frame.atR])
theorem jod{c:Code}:step P (lone (b.atR a (.inScope c::k)) cs w) = .next (lone (b.atR a k) cs w):=
 step_lone_go (by simp[stepG,stepG.exec,Frame.atR])
theorem jty{c:Code}(hng:∀l a w,¬Q (.goto l) a w)(h:c.wpIn F n P Q a w):(Code.scope c).wpIn F n P Q a w:=by
 intro b k cs gD hb hr;have h0:(lone (b.atR a (.code (.scope c)::k)) cs w).fenced P F:=fenced_calm hb hr rfl;obtain⟨e,a₁,w₁,hq,nT⟩:=h b (.inScope c::k) cs gD hb hr;cases e with
 |normal=>exact⟨.normal,a₁,w₁,hq,.head h0 Af (StepsIn.trans nT (.one (fenced_calm hb hr rfl) jod))⟩
 |exit id=>
  have hx:exitTo id (.inScope c::k)=exitTo id k:=by simp[exitTo]
  exact⟨_,a₁,w₁,hq,λk' hk=> .head h0 Af (nT.1 k' (by rw[hx];exact hk)),
   λsF hk=>let ⟨k₁,h1,h2⟩:=nT.2 sF (by rw[hx];exact hk);⟨k₁,h1,.head h0 Af h2⟩⟩
 |goto l=>exact absurd hq (hng l a₁ w₁)
 |ret=>exact⟨_,a₁,w₁,hq,.of_steps (.one h0 Af) nT⟩
 |panic ch=>exact⟨_,a₁,w₁,hq,.of_steps (.one h0 Af) nT⟩
 |outgrown=>exact⟨_,a₁,w₁,hq,.of_steps (.one h0 Af) nT⟩
end
section
variable{N:NT}{np:Nat}{S0:aF}{w0:World}{refs:Refs}{σ:St}{a:Go.Act}{w:World}{S:aF}{γ:Nat->Value}
def exOf:Ex->Exit
 |.normal=> .normal
 |.exit i=> .exit i
 |.ret=> .ret
def fR:Nat->Code->List (Nat×Code)
 |b,.seq x y=>fR b x++fR b y
 |b,.cond _ x y=>fR b x++fR b y
 |_,.block id c=>fR id c
 |b,.loop c=>(b,c)::fR b c
 |b,.rangeFunc g ps x y=>[(b,.rangeFunc g ps x y)]
 |b,.scope c=>fR b c
 |_,_=>[]
def CX(E:Env)(b:Nat)(c:Code):Prop:=
 ∀(s:Snap)(R:Type)(k:Ex->Snap->Option R)(r:R),E.L b s R k=some r->∃n e s',loopN (HC E b c) n s=some (e,s')/\k e s'=some r
theorem oY(p:Nat->Prop):∀n,p n->∃m,p m/\∀j,p j->m<=j:=by
 intro n;induction n using Nat.strongRecOn with
 |_ n ih=>
  intro h;by_cases hj:∃j,j<n/\p j
  .obtain⟨j,hj,hp⟩:=hj;exact ih j hj hp
  .exact⟨n,h,λj hp=>Nat.le_of_not_lt λhl=>hj ⟨j,hl,hp⟩⟩
open Classical in
noncomputable def FL(p:Nat->Prop):Nat:=if h:∃n,p n then (oY p h.choose h.choose_spec).choose else 0
theorem QQ{p:Nat->Prop}{n:Nat}(h:p n):p (FL p)/\FL p<=n:=by
 unfold FL;have hx:∃n,p n:=⟨n,h⟩;rw[dif_pos hx];exact⟨(oY p hx.choose hx.choose_spec).choose_spec.1,(oY p hx.choose hx.choose_spec).choose_spec.2 n h⟩
theorem juL{P:Program}{F:Fence}{n0:Nat}{Q:Exit->Go.Act->World->Prop}{c:Code}(I:Nat->Go.Act->World->Prop){n:Nat}(h₀:I n a w)
  (round:∀n a w,I n a w->c.wpIn F n0 P (Exit.then (λa' w'=>∃m,m<n/\I m a' w') Q) a w):(Code.loop c).wpIn F n0 P Q a w:=by
 refine wpIn_loop (λa w=>∃n,I n a w) (λa w=>FL λn=>I n a w) ⟨n,h₀⟩ (λa w hI=>?_);obtain⟨m,hm⟩:=hI;have hl:=(QQ (p:=λn=>I n a w) hm).1;refine wpIn_mono (round _ a w hl) (λe a' w' h=>?_);cases e with
 |normal=>obtain⟨m',aq,rO⟩:=h;exact⟨⟨m',rO⟩,Nat.lt_of_le_of_lt (QQ (p:=λn=>I n a' w') rO).2 aq⟩
 |_=>exact h
def CY(w0:World)(refs:Refs):Prop:=
 refs.ds.Nodup/\∀d∈refs.ds,∃D,d={ target:= .collected D,args:=#[] }/\w0.heap.size<=D/\refs.kw D=some (.deferred (some []))
structure xt(w0:World)(refs refs':Refs):Prop where
 blks:refs'.blks=refs.blks
 val:refs'.val=refs.val
 fix:refs'.fix=refs.fix
 marks:CY w0 refs'
theorem xt.trans{r r' QR:Refs}(h:xt w0 r r')(h':xt w0 r' QR):xt w0 r QR:=⟨h'.blks.trans h.blks,h'.val.trans h.val,h'.fix.trans h.fix,h'.marks⟩
def Post(E:Env)(S0:aF)(w0:World)(refs:Refs)(pl:Bool){R:Type}(k:Ex->St->Option R)(r:R):Exit->Go.Act->World->Prop:=
 λe a' w'=>∃refs' ex σ' S' γ',xt w0 refs refs'/\(pl=true->refs'=refs)/\exOf ex=e/\Rel E.N E.np S0 w0 refs' σ' a' w' S' γ'/\dN σ'/\k ex σ'=some r
theorem QS{E:Env}{pl:Bool}{R:Type}{k:Ex->St->Option R}{r:R}:¬LetsOut (Post E S0 w0 refs pl k r):=by
 rintro⟨a,w,refs',ex,_,_,_,_,_,he,_⟩
 cases ex<;>simp[exOf]at he
def BwOK(P:Program)(f:Nat)(t:Ty):Prop:=
 Fun P f/\∀(cv:Array Value)(m l:Nat)(J:Nat->aF->World->Prop)(Jx:World->Prop)(W:World)(S:aF),
  (∀j S W S' W',Grew W W'->Ad S W S' W'->J j S W->J j S' W')->(∀W W',Grew W W'->Jx W->Jx W')->(∀j S W,J j S W->∀g o,S g o->g<W.heap.size)->
  (∀j S W,j<m->J j S W->∃xs:List t.den,All2 (ig S W) [.p [⟨.list t,xs⟩]] cv.toList/\m-1-j<xs.length/\∀S' W' x v,Grew W W'->Ad S W S' W'->xs[m-1-j]? = some x->VRep S' W' ⟨t,x⟩ v->
   YieldAt (FR none) 0 P l #[.int .i64 ((m-1-j:Nat):Int),v] W' λe W'=>(e = .returned (.bool true)/\∃S',J (j+1) S' W')\/(e = .returned (.bool false)/\Jx W'))->
  (∃(S':aF)(xs:List t.den),xs.length=m/\(∀g o,S' g o->g<W.heap.size)/\All2 (ig S' W) [.p [⟨.list t,xs⟩]] cv.toList)->J 0 S W->
  CallsIn (FR none) 0 P f (#[.func (.yield l) #[] #[]]++cv) W λe W'=>(∃v,e = .returned v)/\((∃S',J m S' W')\/Jx W')
def ItOK(P:Program)(f:Nat)(kd:Bool)(t:Ty):Prop:=
 Fun P f/\∀(cv:Array Value)(l:Nat)(J:Int->aF->World->Prop)(Je Jx:World->Prop)(W:World)(S:aF)(fX:List t.den),
  (∀c S W S' W',Grew W W'->Ad S W S' W'->J c S W->J c S' W')->(∀W W',Grew W W'->Je W->Je W')->(∀W W',Grew W W'->Jx W->Jx W')->(∀c S W,J c S W->∀g o,S g o->g<W.heap.size)->
  (∀c S W,J c S W->∃xs:List t.den,All2 (ig S W) [.p [⟨.list t,xs⟩]] cv.toList/\(HB kd xs.length c=true->Je W)/\
   (HB kd xs.length c=false->itOk kd xs.length c=true/\∀S' W' vs,Grew W W'->Ad S W S' W'->All2 (VRep S' W') (BM kd t xs c) vs->
    YieldAt (FR none) 0 P l vs.toArray W' λe W'=>(e = .returned (.bool true)/\∃S',J (BL kd c) S' W')\/(e = .returned (.bool false)/\Jx W')))->
  (∃S',(∀g o,S' g o->g<W.heap.size)/\All2 (ig S' W) [.p [⟨.list t,fX⟩]] cv.toList)->J (BK kd fX.length) S W->
  CallsIn (FR none) 0 P f (#[.func (.yield l) #[] #[]]++cv) W λe W'=>(∃v,e = .returned v)/\(Je W'\/Jx W')
theorem jBh{P:Program}{f:Nat}{t:Ty}(h:BwOK P f t):ItOK P f false t:=by
 refine⟨h.1,λcv l J Je Jx W S fX aC hse hsx hh hY cM Ag=>?_⟩;obtain⟨S',sW,eE⟩:=cM;refine CallsIn.mono (h.2 cv fX.length l (λj S W=>j<=fX.length/\J ((fX.length:Int)-j) S W) Jx W S (λj S W S' W' hg hs hj=>⟨hj.1,aC _ _ _ _ _ hg hs hj.2⟩) hsx (λj S W hj=>hh _ _ _ hj.2) ?_ ⟨S',fX,rfl,sW,eE⟩ ⟨kc _,?_⟩) ?_
 .rintro j S W hj ⟨_,hJ⟩
  obtain⟨xs,h1,_,h3⟩:=hY _ _ _ hJ;obtain⟨h4,h5⟩:=h3 (by show decide _=false;exact decide_eq_false (by omega));have h4:(fX.length:Int)-j<=Int.ofNat xs.length:=q8 h4;have h4:(fX.length:Int)-j<=(xs.length:Int):=h4;refine⟨xs,h1,by omega,λS' W' x v hg hs hx hv=>?_⟩
  have I0:All2 (VRep S' W') (BM false t xs ((fX.length:Int)-j)) [.int .i64 ((fX.length-1-j:Nat):Int),v]:=by
   refine⟨⟨?_,λhm=>absurd hm (show¬gL (.int .i64)=true by decide),λ_=>rfl⟩,?_,trivial⟩
   .show [Value.int .i64 ((fX.length-1-j:Nat):Int)]=[Value.int .i64 ((fX.length:Int)-j-1)];rw[show ((fX.length-1-j:Nat):Int)=(fX.length:Int)-j-1 by omega]
   .have e:List.getD xs ((fX.length:Int)-j-1).toNat t.dflt=x:=by rw[show ((fX.length:Int)-j-1).toNat=fX.length-1-j by omega];simp[List.getD,hx]
    rw[e];exact hv
  obtain⟨fn,tmps,as,bo,hy,hR⟩:=h5 S' W' _ hg hs I0;refine⟨fn,tmps,as,bo,hy,hR.mono λe W' he=>?_⟩;rcases he with⟨h6,S6,h7⟩|h6
  .refine .inl ⟨h6,S6,by omega,?_⟩;have e2:BL false ((fX.length:Int)-j)=(fX.length:Int)-((j+1:Nat):Int):=by show (fX.length:Int)-j-1=_;omega
   rw[<-e2];exact h7
  .exact .inr h6
 .have:((fX.length:Int)-((0:Nat):Int))=BK false fX.length:=by show _=Int.ofNat fX.length;simp
  rw[this];exact Ag
 .rintro e W' ⟨hv,⟨S',_,hJ⟩|hx⟩
  .obtain⟨xs,_,h2,_⟩:=hY _ _ _ hJ;exact⟨hv,.inl (h2 (by show decide _=true;exact v7 (by omega)))⟩
  .exact⟨hv,.inr hx⟩
def I1(P:Program)(E:Env)(ro:Option Nat)(c:Code):Prop:=
 ∀(b n:Nat){S0:aF}{w0:World}{refs:Refs}{σ:St}{a:Go.Act}{w:World}{S:aF}{γ:Nat->Value}{R:Type}{k:Ex->St->Option R}{r:R},CY w0 refs->
  (∀x∈fR b c,CX E x.1 x.2)->Rel E.N E.np S0 w0 refs σ a w S γ->dN σ->fm E b c σ k=some r->c.wpIn (FR ro) n P (Post E S0 w0 refs (dv c) k r) a w
theorem uY:∀(c:Code)(b:Nat),dv c=true->fR b c=[]
 |.seq x y,b,h=>by simp only[dv,jb]at h;simp[fR,uY x b h.1,uY y b h.2]
 |.cond _ x y,b,h=>by simp only[dv,jb]at h;simp[fR,uY x b h.1,uY y b h.2]
 |.block id c,b,h=>by simp only[dv]at h;simp[fR,uY c id h]
 |.loop c,b,h=>by simp[dv]at h
 |.rangeFunc _ _ _ _,b,h=>by simp[dv]at h
 |.skip,_,_=>rfl
 |.region _ _ _,_,_=>rfl
 |.exit _,_,_=>rfl
 |.goto _,_,_=>rfl
 |.label _,_,_=>rfl
 |.ret,_,_=>rfl
 |.scope c,b,h=>by simp only[dv]at h;simp[fR,uY c b h]
theorem QT:∀(L:List (Nat×Value))(T:Array Value),oL (L.map (·.1))=true->(∀q∈L,q.1<T.size)->
  (∀q∈L,(L.foldl (λt (q:Nat×Value)=>t.setIfInBounds q.1 q.2) T).getD q.1 undef=q.2)/\(∀i,i∉L.map (·.1)->(L.foldl (λt (q:Nat×Value)=>t.setIfInBounds q.1 q.2) T).getD i undef=T.getD i undef)/\
  (L.foldl (λt (q:Nat×Value)=>t.setIfInBounds q.1 q.2) T).size=T.size
 |[],T,_,_=>⟨λq h=>by simp at h,λ_ _=>rfl,rfl⟩
 |q::r,T,hn,hb=>by
  simp only[kr,oL,jb,qb,qc,kp]at hn;obtain⟨h1,h2,h3⟩:=QT r (T.setIfInBounds q.1 q.2) hn.2 (λp hp=>by simpa using hb p (by simp[hp]));have hq:=hb q (by simp);refine⟨λp hp=>?_,λi hi=>?_,by simpa using h3⟩
  .rcases je.1 hp with rfl|hp
   .show (List.foldl (λt (q:Nat×Value)=>t.setIfInBounds q.1 q.2) (T.setIfInBounds p.1 p.2) r).getD p.1 undef=_;rw[h2 p.1 hn.1];simp[Array.getD,hq]
   .exact h1 p hp
  .simp only[kr,je,not_or]at hi;show (List.foldl (λt (q:Nat×Value)=>t.setIfInBounds q.1 q.2) (T.setIfInBounds q.1 q.2) r).getD i undef=_;rw[h2 i hi.2];rw[qy,Array.getElem?_setIfInBounds,if_neg (λh=>hi.1 h.symm),<-qy]
theorem QU{N:NT}{np:Nat}:∀(L:List (Nat×TV)){σ:St},Rel N np S0 w0 refs σ a w S γ->dN σ->(∀q∈L,VRep S w q.2 (tm a q.1))->Rel N np S0 w0 refs (setL L σ) a w S γ/\dN (setL L σ)
 |[],_,hR,hc,_=>⟨hR,hc⟩
 |q::r,σ,hR,hc,hv=>by
  have h1:=ID hR (s:=q.1) (x:= .one (oE q.2.t q.2.v)) (zV (hv q (by simp)));refine QU r h1 (λi=>?_) (λp hp=>hv p (by simp[hp]));simp only[St.setS];split
  .rfl
  .exact hc i
theorem QV{S:aF}{w:World}:∀{ps:List Nat}{xs:List TV}{vs:List Value},All2 (VRep S w) xs vs->∀q∈ps.zip xs,∃v,(q.1,v)∈ps.zip vs/\VRep S w q.2 v
 |[],_,_,_,q,h=>by simp at h
 |p::ps,[],vs,_,q,h=>by simp at h
 |p::ps,x::xs,[],h2,q,h=>h2.elim
 |p::ps,x::xs,v::vs,h2,q,h=>by
  simp only[List.zip_cons_cons,je]at h;rcases h with rfl|h
  .exact⟨v,by simp,h2.1⟩
  .obtain⟨u,h3,h4⟩:=QV h2.2 q h;exact⟨u,by simp[h3],h4⟩
theorem QW:∀(ps:List Nat)(vs:List Value),oL ps=true->oL ((ps.zip vs).map (·.1))=true
 |[],_,_=>by simp[oL]
 |p::ps,[],_=>by simp[oL]
 |p::ps,v::vs,h=>by
  simp only[oL,jb,qb,qc,kp,List.zip_cons_cons,kr]at h ⊢;refine⟨λhm=>h.1 ?_,QW ps vs h.2⟩;obtain⟨q,hq,he⟩:=ju.1 hm;rw[<-he];exact(List.of_mem_zip hq).1
theorem jyM{kd:Bool}{t:Ty}{xs:List t.den}{c:Int}(h:kd=true->t=segT):(BM kd t xs c).length=cond kd 1 2:=by
 cases kd with
 |false=>rfl
 |true=>have:=h rfl;subst this;rfl
theorem jwQ{P:Program}{E:Env}(sX:∀f t,E.bw f=some t->ItOK P f t.1 t.2)(pU:E.N.pin=λ_=>false){b n:Nat}{g:Operand}{ps:Array Nat}{x y:Code}
  (pV:∀l,dv x=true->I1 P (E.rnd ps x y) (some l) x)(pW:∀l,dv y=true->I1 P (E.rnd ps x y) (some l) y)
  (hLO:CX E b (.rangeFunc g ps x y)){R:Type}{k:Ex->St->Option R}{r:R}(hm:CY w0 refs)(hR:Rel E.N E.np S0 w0 refs σ a w S γ)(hc:dN σ)
  (h:fm E b (.rangeFunc g ps x y) σ k=some r) :
  (Code.rangeFunc g ps x y).wpIn (FR none) n P (Post E S0 w0 refs (dv (.rangeFunc g ps x y)) k r) a w:=by
 refine jzU (n:=1) ?_;simp only[fm]at h;split at h
 case h_2=>simp at h
 rename_i f t xs oX;split at h
 case h_2=>simp at h
 rename_i kd bH;split at h
 case h_2=>simp at h
 rename_i s hs;obtain⟨fu0,e,s',pX,hk⟩:=hLO _ R _ r h;have bq:=pt hR g;rw[oX]at bq;obtain⟨⟨cv,QX,rI⟩,_⟩:=bq;obtain⟨S1,γ1,bu,gy⟩:=uT hR hc hs
 have parts:∀f t kd,rfK E b f t ps x y=some kd->E.bw f=some (kd,t)/\(kd=true->t=segT)/\ps.toList.length=cond kd 1 2/\oL ps.toList=true/\(∀p∈ps.toList,p<E.N.n)/\dv x=true/\dv y=true/\pinK ps x y (E.keep b)=true:=by
  intro f t kd bH;unfold rfK at bH;split at bH
  case h_2=>simp at bH
  rename_i q hq;cases pY:(decide (q.2=t)&&(cond q.1 (decide (t=segT)) true&&(decide (ps.toList.length=cond q.1 1 2)&&(oL ps.toList&&(ps.toList.all (λp=>decide (p<E.N.n))&&(dv x&&(dv y&&pinK ps x y (E.keep b)))))))) with
  |false=>rw[pY]at bH;simp at bH
  |true=>
  rw[pY,j5,j4]at bH;subst bH;simp only[jb,jo,jz]at pY;obtain⟨h1,h0,h2,h3,h4,h5,h6,h7⟩:=pY;exact⟨by rw[hq,<-h1],λhk=>by rw[hk]at h0;exact q8 h0,h2,h3,h4,h5,h6,h7⟩
 obtain⟨QY,uZ,h2,dy,aq,sY,sZ,QZ⟩:=parts f t kd bH;obtain⟨⟨Q0,I2,u4,bW⟩,Ac⟩:=sX f _ QY
 have heg:∀args w,(callFunc f args).run P w = .ok (.enter f args) w:=λargs w=>by
  have jM:¬Q0.body=none:=λhn=>by rw[hn]at u4;simp at u4
  have uH : ¬ Q0.name = "runtime.NumGoroutine" := by simpa using bW
  simp[callFunc,I2,jM,uH]
 refine wpIn_rangeFunc λfn _=>?_;obtain⟨rec,bM⟩:∃rec:LoopState->Option Code->Loop,rec=λst pe=>{ state:=st,pending:=pe,fn,tmps:=a.tmps,params:=ps,assign:=x,body:=y,defers:=w.heap.size }:=⟨_,rfl⟩;obtain⟨W1,Ah⟩:∃W1,(w.alloc (.deferred (some []))).alloc (.loop (rec .ready none))=W1:=⟨_,rfl⟩
 refine⟨w.heap.size+1,[{ target:= .collected w.heap.size,args:=#[] }],W1,{ target:= .fn (.func f) cv,args:=#[.func (.yield (w.heap.size+1)) #[] #[]] },W1,f,
  #[.func (.yield (w.heap.size+1)) #[] #[]]++cv,W1,?_,?_,λ_ _=>trivial,?_,λhd=>by simp[FR,Fence.wide]at hd,?_⟩
 .rw[<-Ah,bM];exact run_enterLoop_outer _ _ _ _ _
 .simp only[resolve,QX];simp[go_sem]
 .simp[invoke,go_sem,heg]
 obtain⟨l,hl⟩:∃l,l=w.heap.size+1:=⟨_,rfl⟩;rw[<-hl];let bX:(Nat->Option Value)->Obj->Refs:=λfx o=>{ blks:=refs.blks,val:=refs.val,ds:=[],kw:=λg=>if g=l then some o else if g=w.heap.size then some (.deferred (some [])) else refs.kw g,fix:=fx }
 let fx:Nat->Option Value:=λi=>if zH ps x y i then some (a.tmps.getD i undef) else none
 let aI:Go.Act:={ tmps:=a.tmps,defers:=[] }
 have jB:∀fx o,(bX fx o).kw l=some o:=λfx o=>by simp[bX]
 have kG:w0.heap.size<=l:=by have:=hR.grow;omega
 have bG:∀fx o,CY w0 (bX fx o):=λfx o=>⟨zi,λd hd=>by simp[bX]at hd⟩
 have kD:∀{N:NT}{fx:Nat->Option Value}{o o':Obj}{σ:St}{a:Go.Act}{W:World}{S:aF}{γ:Nat->Value},o.isCells=false->o'.isCells=false->Rel N E.np S0 w0 (bX fx o) σ a W S γ->
   Rel N E.np S0 w0 (bX fx o') σ a (W.putObj l o') S γ:=by
  intro N fx o o' σ a W S γ h1 h2 hR;have:=hR.putO (jB fx o) kG h1 h2;refine this.swap rfl rfl this.size this.defers this.slot (λg u hg=>this.kept g u ?_) this.fix;simp only[bX]at hg ⊢;split
  .rename_i e;subst e;simpa using hg
  .rename_i e;simpa[e]using hg
 have pZ:∀{N N':NT}{fx I3:Nat->Option Value}{o:Obj}{K:Keep}{s:Snap}{a a':Go.Act}{W:World}{S:aF}{γ:Nat->Value},Rel N E.np S0 w0 (bX fx o) (cS E.np K s) a W S γ->a'.tmps.size=N'.n->a'.defers=[]->
   (∀i∈K.slots,tm a' i=tm a i)->(∀i v,I3 i=some v->N'.pin i=true/\a'.tmps.getD i undef=v)->Rel N' E.np S0 w0 (bX I3 o) (cS E.np K s) a' W S γ:=by
  intro N N' fx I3 o K s a a' W S γ hR h1 h2 h3 h4;exact hR.frame rfl rfl h1 h2 h3 (λg u hg=>hR.kept g u hg) h4
 have p7:∀i v,(λ_=>none:Nat->Option Value) i=some v->E.N.pin i=true/\aI.tmps.getD i undef=v:=λi v h=>by simp at h
 let J:Int->aF->World->Prop:=λc S W=>∃s γ fu,Rel E.N E.np S0 w0 (bX (λ_=>none) (.loop (rec .ready none))) (cS E.np (E.keep b) s) aI W S γ/\dN (cS E.np (E.keep b) s)/\
  loopN (zI E b g ps x y) fu (.s (.one (.d (.int .i64) c))::s)=some (e,s')
 let Je:World->Prop:=λW=>∃S γ,Rel E.N E.np S0 w0 (bX (λ_=>none) (.loop (rec .ready none))) (cS E.np (E.keepX b e) s') aI W S γ/\dN (cS E.np (E.keepX b e) s')/\e = .normal
 let Jx:World->Prop:=λW=>∃S γ c,Rel E.N E.np S0 w0 (bX (λ_=>none) (.loop (rec .done (some c)))) (cS E.np (E.keepX b e) s') aI W S γ/\dN (cS E.np (E.keepX b e) s')/\
  ((e = .ret/\c = .ret)\/∃i,e = .exit i/\c = .exit i)
 have u5:∀K:Keep,pinK ps x y K=true->∀i∈K.slots,zH ps x y i=true:=λK hK i hi=>jz.1 hK i hi;have u6:∀i,zH ps x y i=true->i∉ps.toList:=by intro i hi;simp only[zH,jb,qb,qc,kp]at hi;exact hi.1
 have Ag:J (BK kd xs.length) S1 W1:=by
  refine⟨s,γ1,fu0,?_,gy,pX⟩;have hA:=(bu.allocO (.deferred (some []))).allocO (.loop (rec .ready none));rw[Ah]at hA;refine hA.frame rfl rfl hR.size rfl (λi _=>rfl) (λg' u az=>?_) p7;simp only[bX]at az;split at az
  .rename_i e';simp only[j4]at az;subst az;rw[e',hl];refine⟨?_,λk' b' aP dm=>?_⟩
   .rw[<-Ah];have:=World.alloc_heap_new (w.alloc (.deferred (some []))) (.loop (rec .ready none));rwa[World.size_alloc]at this
   .have:=l9 (bu.box k' b' aP) dm;omega
  .split at az
   .rename_i _ e';simp only[j4]at az;subst az;rw[e'];refine⟨?_,λk' b' aP dm=>?_⟩
    .rw[<-Ah];exact(heap_alloc_old _ _ (by simp)).trans (World.alloc_heap_new w _)
    .have:=l9 (bu.box k' b' aP) dm;omega
   .exact hA.kept g' u az
 have haI:aI.eval g=a.eval g:=by cases g<;>rfl
 have I4:aI.tmps.size=E.N.n:=hR.size
 have CZ:∀{K:Keep}{s:Snap}{o:Obj}{W W':World}{S:aF}{γ:Nat->Value},Grew W W'->Rel E.N E.np S0 w0 (bX (λ_=>none) o) (cS E.np K s) aI W S γ->Rel E.N E.np S0 w0 (bX (λ_=>none) o) (cS E.np K s) aI W' S γ:=
  λhg h1=>h1.grew hg ⟨λ_ _ h=>h,λ_ _ h=> .inl h,λg o h=>qk (h1.here g o h) hg.size⟩
 refine CallsIn.mono (Ac cv l J Je Jx W1 S1 xs (λc S W S' W' hg hs ⟨s,γ,fu,h1,h2,h3⟩=>⟨s,γ,fu,h1.grew hg hs,h2,h3⟩) (λW W' hg ⟨S,γ,h1,h2⟩=>⟨S,γ,CZ hg h1,h2⟩) (λW W' hg ⟨S,γ,c,h1,h2⟩=>⟨S,γ,c,CZ hg h1,h2⟩)
  (λc S W ⟨s,γ,fu,h1,_⟩=>h1.here) ?_ ?_ Ag) ?_
 ·-- a round
  rintro cn S W ⟨s,γ,fu,Aj,Q1,rP⟩
  cases fu with
  |zero=>simp[loopN]at rP
  |succ fu=>
  simp only[loopN]at rP;cases aC:zI E b g ps x y (.s (.one (.d (.int .i64) cn))::s) with
  |none=>rw[aC]at rP;simp at rP
  |some r0=>
  rw[aC]at rP;unfold zI BN at aC;dsimp only at aC;split at aC
  case h_2=>simp at aC
  rename_i f' t' cD I5;split at aC
  case h_2=>simp at aC
  rename_i kd' nR;have jW:=pt Aj g;rw[I5,haI,QX]at jW;obtain⟨⟨cv',C0,cM⟩,_⟩:=jW;simp only[Value.func.injEq,Fn.func.injEq,qi]at C0;obtain⟨rfl,rfl⟩:=C0;have ht:=(parts f t' kd' nR).1;rw[QY]at ht;simp only[j4,j8]at ht;obtain⟨rfl,rfl⟩:=ht;refine⟨cD,cM,λI6=>?_,λI6=>?_⟩
  .rw[I6,j5]at aC;cases nU:pinK ps x y (E.keepX b .normal) with
   |false=>rw[nU]at aC;simp at aC
   |true=>
   rw[nU,j5]at aC;split at aC
   case h_2=>simp at aC
   rename_i s3 hs3;simp only[j4]at aC;subst aC;simp only[j4,j8]at rP;obtain⟨rfl,rfl⟩:=rP;obtain⟨S5,γ5,nf,C1⟩:=uT Aj Q1 hs3;exact⟨S5,γ5,nf,C1,rfl⟩
  rw[I6,j6]at aC;cases hle:itOk kd cD.length cn with
  |false=>rw[hle]at aC;simp at aC
  |true=>
  rw[hle,j5]at aC;refine⟨rfl,λSg Wg vs hgw hgs me=>?_⟩;have Aj:=Aj.grew hgw hgs;have sK:vs.toArray.size=ps.size:=by have e1:=me.length;rw[jyM uZ]at e1;simp only[zu];rw[<-e1,<-h2,qe]
  refine⟨fn,_,x,y,by have:=run_yield (P:=P) (args:=vs.toArray) (Aj.kept l _ (jB _ _)).1 (by rw[bM];exact sK);rw[bM]at this;exact this,roundIn_of_wpIn trivial ?_⟩;let a1:Go.Act:={ tmps:=(ps.zip vs.toArray).foldl (λt (q:Nat×Value)=>t.setIfInBounds q.1 q.2) a.tmps,defers:=[] }
  have mc:(ps.zip vs.toArray).toList=ps.toList.zip vs:=by simp
  have ha1:a1.tmps=(ps.toList.zip vs).foldl (λt (q:Nat×Value)=>t.setIfInBounds q.1 q.2) a.tmps:=by show (ps.zip vs.toArray).foldl _ _=_;rw[<-Array.foldl_toList,mc]
  have gn:∀i,i∈(ps.toList.zip vs).map (·.1)->i∈ps.toList:=λi hi=>by
   obtain⟨q,hq,rfl⟩:=ju.1 hi;exact(List.of_mem_zip hq).1
  have I7:oL ((ps.toList.zip vs).map (·.1))=true:=QW _ _ dy;obtain⟨Ft,iH,Q2⟩:=QT (ps.toList.zip vs) a.tmps I7 (λq hq=>by rw[hR.size];exact aq _ (List.of_mem_zip hq).1);rw[<-ha1]at Ft iH Q2;have I8:a1.tmps.size=E.N.n:=Q2.trans hR.size;have xn:∀i,i∉ps.toList->tm a1 i=tm aI i:=λi hi=>iH i (λh=>hi (gn i h))
  have hRa:Rel (E.rnd ps x y).N E.np S0 w0 (bX fx (.loop (rec .ready none))) (cS E.np (E.keep b) s) a1 Wg Sg γ:=pZ Aj I8 rfl (λi hi=>xn i (u6 i (u5 _ QZ i hi))) (λi u hu=>by
   simp only[fx]at hu;split at hu
   .rename_i hp;simp only[j4]at hu;refine⟨hp,?_⟩;show tm a1 i=u;rw[xn i (u6 i hp)];exact hu
   .simp at hu)
  obtain⟨hRc,pL⟩:=QU (ps.toList.zip (BM kd t cD cn)) hRa Q1 (λq hq=>by
   obtain⟨v,h3,h4⟩:=QV me q hq;have:=Ft _ h3;show VRep Sg Wg q.2 (a1.tmps.getD q.1 undef);rw[this];exact h4)
  refine wpIn_mono (pV l sY 0 0 (bG _ _) (by rw[uY x 0 sY];simp) hRc pL aC) ?_
  rintro e1 a2 w2 ⟨iN,ex,σ2,S2,γ2,_,fv,rfl,cO,lx,gq⟩
  have:=fv sY;subst this;cases ex with
  |exit i=>simp at gq
  |ret=>simp at gq
  |normal=>
  refine⟨_,run_beginRound (cO.kept l _ (jB _ _)).1 (by rw[bM]),?_⟩;have gH:Rel (E.rnd ps x y).N E.np S0 w0 (bX fx (.loop (rec .busy none))) σ2 a2 (w2.putObj l (.loop { rec .ready none with state:= .busy })) S2 γ2:=by have:=kD (o':= .loop (rec .busy none)) rfl rfl cO;rw[bM]at this ⊢;exact this
  refine wpIn_mono (pW l sZ 0 0 (bG _ _) (by rw[uY y 0 sZ];simp) gH lx gq) ?_
  rintro e1 a3 w3 ⟨Q3,ex,σ3,S3,γ3,_,fv,rfl,rQ,rR,xu⟩
  have:=fv sZ;subst this
  have kH:∀{K:Keep}{s:Snap}{o:Obj}{W:World}{S:aF}{γ:Nat->Value},pinK ps x y K=true->Rel (E.rnd ps x y).N E.np S0 w0 (bX fx o) (cS E.np K s) a3 W S γ->
    Rel E.N E.np S0 w0 (bX (λ_=>none) o) (cS E.np K s) aI W S γ:=λhK hR=>pZ hR I4 rfl (λi hi=>by
   have:=(hR.fix i (a.tmps.getD i undef) (by simp only[bX,fx];rw[if_pos (u5 _ hK i hi)])).2;exact this.symm) p7
  have p8:∀(ex:Ex)(c:Code),((ex = .ret/\c = .ret)\/∃i,ex = .exit i/\c = .exit i)->
    (cond (pinK ps x y (E.keepX b ex)) (match iR E.np (E.keepX b ex) σ3 with
     |some s'=>some (Sum.inr (ex,s'))
     |none=>none) none:Option (Snap ⊕ Ex×Snap))=some r0->
    ∃v w',(Instr.endRound l (some c)).run P w3 = .ok v w'/\((Ending.returned v = .returned (.bool true)/\∃S',J (BL kd cn) S' w')\/(Ending.returned v = .returned (.bool false)/\Jx w')):=by
   intro ex c hex s7;cases nU:pinK ps x y (E.keepX b ex) with
   |false=>rw[nU]at s7;simp at s7
   |true=>
   rw[nU,j5]at s7;split at s7
   case h_2=>simp at s7
   rename_i s2 nJ;simp only[j4]at s7;subst s7;simp only[j4,j8]at rP;obtain⟨rfl,rfl⟩:=rP;obtain⟨S5,γ5,nf,C1⟩:=uT rQ rR nJ;refine⟨_,_,run_endRound (some c) (nf.kept l _ (jB _ _)).1,.inr ⟨rfl,S5,γ5,c,?_,C1,hex⟩⟩;have:=kD (o':= .loop (rec .done (some c))) rfl rfl (kH nU nf);rw[bM]at this ⊢;exact this
  cases ex with
  |normal=>
   dsimp only at xu
   split at xu
   case h_2=>simp at xu
   rename_i s2 nJ;simp only[j4]at xu;subst xu;obtain⟨S5,γ5,nf,C1⟩:=uT rQ rR nJ;show∃v w',(Instr.endRound l none).run P w3 = .ok v w'/\_;refine⟨_,_,run_endRound none (nf.kept l _ (jB _ _)).1,.inl ⟨rfl,S5,s2,γ5,fu,?_,C1,?_⟩⟩
   .have:=kD (o':= .loop (rec .ready none)) rfl rfl (kH QZ nf);rw[bM]at this ⊢;exact this
   .exact rP
  |exit i=>exact p8 _ _ (.inr ⟨i,rfl,rfl⟩) xu
  |ret=>exact p8 _ _ (.inl ⟨rfl,rfl⟩) xu
 .refine⟨S,λg o h=>by rw[<-Ah];have:=hR.here g o h;simp;omega,rI.mono λx z hx=>?_⟩;rw[<-Ah]
  exact ig.keep (λg o h=>⟨h,by
   have:=hR.here g o h;rw[World.cell?_alloc_lt _ _ _ (by simp;omega),World.cell?_alloc_lt _ _ _ this]⟩) hx
 .rintro e2 W2 ⟨⟨v,rfl⟩,dZ⟩
  have kH:∀{K:Keep}{s:Snap}{o:Obj}{W:World}{S:aF}{γ:Nat->Value},Rel E.N E.np S0 w0 (bX (λ_=>none) o) (cS E.np K s) aI W S γ->
    ∃refs',xt w0 refs refs'/\Rel E.N E.np S0 w0 refs' (cS E.np K s) { a with defers:=[{ target:= .collected w.heap.size,args:=#[] }]++a.defers } W S γ:=by
   intro K s o W S γ Q4;refine⟨{ blks:=refs.blks,val:=refs.val,ds:={ target:= .collected w.heap.size,args:=#[] }::refs.ds,kw:=λg=>if g=w.heap.size then some (.deferred (some [])) else refs.kw g,fix:=refs.fix },⟨rfl,rfl,rfl,?_,?_⟩,?_⟩
   .refine qp.2 ⟨λiL=>?_,hm.1⟩;obtain⟨D,hD,_,Q5⟩:=hm.2 _ iL;simp only[Deferred.mk.injEq,Target.collected.injEq,and_true]at hD;rw[<-hD,hR.kw_new (jg _)]at Q5;simp at Q5
   .intro d hd;rcases je.1 hd with rfl|hd
    .exact⟨w.heap.size,rfl,hR.grow,by simp⟩
    .obtain⟨D,rfl,h1,h2⟩:=hm.2 d hd;refine⟨D,rfl,h1,?_⟩;show (if D=w.heap.size then _ else refs.kw D)=_;rw[if_neg,h2]
     rintro rfl
     rw[hR.kw_new (jg _)]at h2;simp at h2
   .refine Q4.frame rfl rfl hR.size (by rw[hR.defers];rfl) (λi _=>rfl) (λg' u az=>Q4.kept g' u ?_) (λi v hv=>?_)
    .simp only[bX]at az ⊢;by_cases h1:g'=l
     .exfalso;subst h1;rw[if_neg (by omega),hR.kw_new (by omega)]at az;simp at az
     .rw[if_neg h1];exact az
    .have:=(hR.fix i v hv).1;rw[pU]at this;simp at this
  rcases dZ with⟨S2,γ2,ta,hce,rfl⟩|⟨S2,γ2,c,zY,Fb,hex⟩
  .refine⟨none,_,by have:=run_endLoop (P:=P) (ta.kept l _ (jB _ _)).1 (by rw[bM];simp);rw[bM]at this;exact this,?_⟩;have u7:=kD (o':= .loop { rec .ready none with state:= .exhausted }) rfl rfl ta;obtain⟨refs',hle,ta⟩:=kH u7;rw[bM]at ta;exact⟨refs',.normal,_,S2,γ2,hle,λhf=>by simp[dv]at hf,rfl,ta,hce,hk⟩
  .have u7:=kD (o':= .loop { rec .done (some c) with state:= .exhausted }) rfl rfl zY;obtain⟨refs',hle,ta⟩:=kH u7;refine⟨some c,_,by have:=run_endLoop (P:=P) (zY.kept l _ (jB _ _)).1 (by rw[bM];simp);rw[bM]at this;exact this,?_⟩;rw[bM]at ta;rcases hex with⟨rfl,rfl⟩|⟨i,rfl,rfl⟩
   .exact wpIn_ret ⟨refs',.ret,_,S2,γ2,hle,λhf=>by simp[dv]at hf,rfl,ta,Fb,hk⟩
   .exact wpIn_exit ⟨refs',.exit i,_,S2,γ2,hle,λhf=>by simp[dv]at hf,rfl,ta,Fb,hk⟩
theorem jtz{P:Program}(jC:P.follows .mixedOrders=true):∀(c:Code){E:Env}{ro:Option Nat},cB P E.T->lJ P E.C->CFun E.C->
  (ro=none->(∀f t,E.bw f=some t->ItOK P f t.1 t.2)/\E.N.pin=λ_=>false)->(ro=none\/dv c=true)->I1 P E ro c:=by
 intro c;induction c with
 |skip=>intro E ro hT hC hF gD hp b n S0 w0 refs σ a w S γ R k r hm hL hR hc h;exact wpIn_skip ⟨refs,.normal,σ,S,γ,⟨rfl,rfl,rfl,hm⟩,λ_=>rfl,rfl,hR,hc,h⟩
 |label l=>intro E ro hT hC hF gD hp b n S0 w0 refs σ a w S γ R k r hm hL hR hc h;exact wpIn_label ⟨refs,.normal,σ,S,γ,⟨rfl,rfl,rfl,hm⟩,λ_=>rfl,rfl,hR,hc,h⟩
 |region Q6 ops draw=>
  intro E ro hT hC hF gD hp b n S0 w0 refs σ a w S γ R k r hm hL hR hc h
  have C2:ro=none\/∀o∈ops.toList,∀c,o.op ≠ .defer c:=hp.imp id λhp o ho c hd=>by
   have:=jz.1 hp o ho;simp[OR,hd]at this
  cases draw with
  |true=>simp only[fm]at h;exact wpIn_region_any jC (FK C2 QS _ _ _ _ (jtw hT hC hF hR hc (λσ' a' w' S' γ' cV eE hk=>⟨refs,.normal,σ',S',γ',⟨rfl,rfl,rfl,hm⟩,λ_=>rfl,rfl,cV,eE,hk⟩) h))
  |false=>simp only[fm]at h;exact wpIn_region (CW C2 QS _ _ _ (Qi hT hC hR hc (λσ' a' w' S' γ' cV eE hk=>⟨refs,.normal,σ',S',γ',⟨rfl,rfl,rfl,hm⟩,λ_=>rfl,rfl,cV,eE,hk⟩) h))
 |seq x y pV pW=>
  intro E ro hT hC hF gD hp b n S0 w0 refs σ a w S γ R k r hm hL hR hc h;simp only[fm]at h;have sY:ro=none\/dv x=true:=hp.imp id λh=>by simp only[dv,jb]at h;exact h.1
  have sZ:ro=none\/dv y=true:=hp.imp id λh=>by simp only[dv,jb]at h;exact h.2
  refine wpIn_seq (wpIn_mono (pV hT hC hF gD sY b n hm (λz hz=>hL z (by simp[fR,hz])) hR hc h) ?_)
  rintro e a' w' ⟨refs',ex,σ',S',γ',hle,fv,rfl,cV,eE,hk⟩
  have hx:dv (.seq x y)=true->refs'=refs:=λh=>by simp only[dv,jb]at h;exact fv h.1
  cases ex with
  |normal=>
   refine wpIn_mono (pW hT hC hF gD sZ b n hle.marks (λz hz=>hL z (by simp[fR,hz])) cV eE hk) ?_
   rintro e2 a2 w2 ⟨iN,ex,σ2,S2,γ2,il,I9,rfl,cO,lx,gq⟩
   refine⟨iN,ex,σ2,S2,γ2,hle.trans il,λh=>?_,rfl,cO,lx,gq⟩;have h1:=hx h;simp only[dv,jb]at h;rw[I9 h.2,h1]
  |exit i=>exact⟨refs',.exit i,σ',S',γ',hle,hx,rfl,cV,eE,hk⟩
  |ret=>exact⟨refs',.ret,σ',S',γ',hle,hx,rfl,cV,eE,hk⟩
 |cond c x y pV pW=>
  intro E ro hT hC hF gD hp b n S0 w0 refs σ a w S γ R k r hm hL hR hc h;simp only[fm]at h;have sY:ro=none\/dv x=true:=hp.imp id λh=>by simp only[dv,jb]at h;exact h.1
  have sZ:ro=none\/dv y=true:=hp.imp id λh=>by simp only[dv,jb]at h;exact h.2
  split at h
  .rename_i v hv;have oX:=pt hR c;rw[hv]at oX;have Ja:a.eval c = .bool v:=rA oX;refine wpIn_cond Ja ?_;cases v with
   |true=>
    refine wpIn_mono (pV hT hC hF gD sY b n hm (λz hz=>hL z (by simp[fR,hz])) hR hc h) ?_
    rintro e a' w' ⟨refs',ex,σ',S',γ',hle,fv,he,hr⟩
    exact⟨refs',ex,σ',S',γ',hle,λh=>by simp only[dv,jb]at h;exact fv h.1,he,hr⟩
   |false=>
    refine wpIn_mono (pW hT hC hF gD sZ b n hm (λz hz=>hL z (by simp[fR,hz])) hR hc h) ?_
    rintro e a' w' ⟨refs',ex,σ',S',γ',hle,fv,he,hr⟩
    exact⟨refs',ex,σ',S',γ',hle,λh=>by simp only[dv,jb]at h;exact fv h.2,he,hr⟩
  .simp at h
 |block id c ih=>
  intro E ro hT hC hF gD hp b n S0 w0 refs σ a w S γ R k r hm hL hR hc h;simp only[fm]at h;refine wpIn_block (wpIn_mono (ih hT hC hF gD hp id n hm (λz hz=>hL z (by simpa[fR]using hz)) hR hc h) ?_)
  rintro e a' w' ⟨refs',ex,σ',S',γ',hle,fv,rfl,cV,eE,hk⟩
  cases ex with
  |normal=>exact⟨refs',.normal,σ',S',γ',hle,fv,rfl,cV,eE,hk⟩
  |exit i=>
   simp only[exOf,Exit.inBlock];simp only at hk;split
   .rename_i hi;rw[if_pos hi]at hk;exact⟨refs',.normal,σ',S',γ',hle,fv,rfl,cV,eE,hk⟩
   .rename_i hi;rw[if_neg hi]at hk;exact⟨refs',.exit i,σ',S',γ',hle,fv,rfl,cV,eE,hk⟩
  |ret=>exact⟨refs',.ret,σ',S',γ',hle,fv,rfl,cV,eE,hk⟩
 |scope c ih=>intro E ro hT hC hF gD hp b n S0 w0 refs σ a w S γ R k r hm hL hR hc h;simp only[fm]at h;refine jty (λl a w hq=>?_) (ih hT hC hF gD hp b n hm (λz hz=>hL z (by simpa[fR]using hz)) hR hc h);obtain⟨_,ex,_,_,_,_,_,he,_⟩:=hq;cases ex<;>simp[exOf]at he
 |loop c ih=>
  intro E ro hT hC hF gD hp b n S0 w0 refs σ a w S γ R k r hm hL hR hc h;have Jb:ro=none:=hp.resolve_right (by simp[dv]);simp only[fm]at h;cases Jc:isRf c with
  |true=>rw[Jc]at h;simp at h
  |false=>
  rw[Jc,j6]at h;split at h
  .rename_i s hs;obtain⟨n1,e,s',hn,hk⟩:=hL (b,c) (by simp[fR]) s R _ r h
   have dP:HC E b c=wu E b c:=by
    funext s
    cases c<;>first|rfl|simp[isRf]at Jc
   rw[dP]at hn;obtain⟨S1,γ1,bu,gy⟩:=uT hR hc hs;refine juL (λn a w=>∃refs' s S γ,xt w0 refs refs'/\Rel E.N E.np S0 w0 refs' (cS E.np (E.keep b) s) a w S γ/\dN (cS E.np (E.keep b) s)/\loopN (wu E b c) n s=some (e,s')) ⟨refs,s,S1,γ1,⟨rfl,rfl,rfl,hm⟩,bu,gy,hn⟩ ?_
   rintro m a1 w1 ⟨Q7,s1,S2,γ2,mh,cO,lx,iL⟩
   cases m with
   |zero=>simp[loopN]at iL
   |succ m=>
    simp only[loopN]at iL;cases aC:wu E b c s1 with
    |none=>simp[aC]at iL
    |some out=>
     rw[aC]at iL;unfold wu at aC;refine wpIn_mono (ih hT hC hF gD (.inl Jb) b n mh.marks (λz hz=>hL z (by simp[fR,hz])) cO lx aC) ?_
     rintro e2 a2 w2 ⟨iN,ex,σ2,S3,γ3,il,_,rfl,gH,CP,kI⟩
     cases ex with
     |normal=>
      simp only at kI;split at kI
      .rename_i s2 nJ;simp only[j4]at kI;subst kI;obtain⟨S4,γ4,rQ,rR⟩:=uT gH CP nJ;exact⟨m,Nat.lt_succ_self m,iN,s2,S4,γ4,mh.trans il,rQ,rR,iL⟩
      .simp at kI
     |exit i=>
      simp only at kI;split at kI
      .rename_i s2 nJ;simp only[j4]at kI;subst kI;obtain⟨S4,γ4,rQ,rR⟩:=uT gH CP nJ;simp only[j4,j8]at iL;obtain⟨rfl,rfl⟩:=iL;exact⟨iN,.exit i,_,S4,γ4,mh.trans il,λhf=>by simp[dv]at hf,rfl,rQ,rR,hk⟩
      .simp at kI
     |ret=>
      simp only at kI;split at kI
      .rename_i s2 nJ;simp only[j4]at kI;subst kI;obtain⟨S4,γ4,rQ,rR⟩:=uT gH CP nJ;simp only[j4,j8]at iL;obtain⟨rfl,rfl⟩:=iL;exact⟨iN,.ret,_,S4,γ4,mh.trans il,λhf=>by simp[dv]at hf,rfl,rQ,rR,hk⟩
      .simp at kI
  .simp at h
 |rangeFunc g ps x y pV pW=>
  intro E ro hT hC hF gD hp b n S0 w0 refs σ a w S γ R k r hm hL hR hc h;have Jb:ro=none:=hp.resolve_right (by simp[dv]);subst Jb;obtain⟨sX,pU⟩:=gD rfl
  exact jwQ sX pU (λl hx=>pV (E:=E.rnd ps x y) hT hC hF (λh=>by simp at h) (.inr hx)) (λl hy=>pW (E:=E.rnd ps x y) hT hC hF (λh=>by simp at h) (.inr hy))
   (hL (b,.rangeFunc g ps x y) (by simp[fR])) hm hR hc h
 |exit i=>intro E ro hT hC hF gD hp b n S0 w0 refs σ a w S γ R k r hm hL hR hc h;exact wpIn_exit ⟨refs,.exit i,σ,S,γ,⟨rfl,rfl,rfl,hm⟩,λ_=>rfl,rfl,hR,hc,h⟩
 |ret=>intro E ro hT hC hF gD hp b n S0 w0 refs σ a w S γ R k r hm hL hR hc h;exact wpIn_ret ⟨refs,.ret,σ,S,γ,⟨rfl,rfl,rfl,hm⟩,λ_=>rfl,rfl,hR,hc,h⟩
 |goto l=>intro E ro hT hC hF gD hp b n S0 w0 refs σ a w S γ R k r hm hL hR hc h;simp[fm]at h
 |refuse y=>intro E ro hT hC hF gD hp b n S0 w0 refs σ a w S γ R k r hm hL hR hc h;simp[fm]at h
end
section
variable{N:NT}{np:Nat}{S0:aF}{w0:World}{refs:Refs}{σ:St}{a:Go.Act}{w:World}{S:aF}{γ:Nat->Value}
def xv:Arg->Bool
 |.ref _=>true
 |.rl _ _=>true
 |_=>false
def C3(args:List Arg)(vals:List Value)(k:Nat):Option Value:=
 if k%64=0 then match args[k/64]? with
  |some x=>if xv x then vals[k/64]? else none
  |none=>none
 else none
def oZ(args:List Arg)(vals:List Value):Refs:={ blks:=dX args vals,val:=C3 args vals }
def γ0(vals:List Value)(k:Nat):Value:=vals.getD (k/64) undef
theorem FM:∀{as:List Arg}{us:List Value}{i:Nat}{x:Arg}{u:Value}{g:Nat},as[i]? = some x->us[i]? = some u->lH x u=some g->g∈dX as us
 |y::as,v::us,0,x,u,g,h,h',hg=>by
  simp at h h';subst h;subst h';simp[dX,hg]
 |y::as,v::us,i+1,x,u,g,h,h',hg=>by
  have:=FM (as:=as) (us:=us) (i:=i) (by simpa using h) (by simpa using h') hg;simp[dX,this]
 |[],_,_,_,_,_,h,_,_=>by simp at h
 |_::_,[],_,_,_,_,_,h',_=>by simp at h'
theorem Q8:∀{as:List Arg}{us:List Value}{i j:Nat}{x y:Arg}{u v:Value}{g:Nat},(dX as us).Nodup->as[i]? = some x->us[i]? = some u->as[j]? = some y->us[j]? = some v->
  lH x u=some g->lH y v=some g->i=j
 |z::as,t::us,0,0,_,_,_,_,_,_,_,_,_,_,_,_=>rfl
 |z::as,t::us,0,j+1,x,y,u,v,g,hn,hx,hu,hy,hv,h1,h2=>by
  simp at hx hu;subst hx;subst hu;have:=FM (as:=as) (us:=us) (i:=j) (by simpa using hy) (by simpa using hv) h2;simp[dX,h1]at hn;exact absurd this hn.1
 |z::as,t::us,i+1,0,x,y,u,v,g,hn,hx,hu,hy,hv,h1,h2=>by
  simp at hy hv;subst hy;subst hv;have:=FM (as:=as) (us:=us) (i:=i) (by simpa using hx) (by simpa using hu) h1;simp[dX,h2]at hn;exact absurd this hn.1
 |z::as,t::us,i+1,j+1,x,y,u,v,g,hn,hx,hu,hy,hv,h1,h2=>by
  have xi:(dX as us).Nodup:=by simp only[dX]at hn;exact(qn.1 hn).2.1
  rw[Q8 xi (i:=i) (j:=j) (by simpa using hx) (by simpa using hu) (by simpa using hy) (by simpa using hv) h1 h2]
 |[],_,_,_,_,_,_,_,_,_,h,_,_,_,_,_=>by simp at h
 |_::_,[],_,_,_,_,_,_,_,_,_,h,_,_,_,_=>by simp at h
theorem jwR{args:List Arg}{vals:List Value}(ha:All2 (mV S w) args vals)(dy:(dX args vals).Nodup)(hS:∀g o,S g o->g<w.heap.size)(hlen:args.length=np)(hN:np<=N.n) :
  Rel N np S w (oZ args vals) (St.init args) ⟨vals.toArray++Array.replicate (N.n-vals.toArray.size) undef,[]⟩ w S (γ0 vals)/\dN (St.init args):=by
 have sK:vals.length=np:=by rw[<-ha.length,hlen]
 have xn:∀i u,vals[i]? = some u->(vals.toArray++Array.replicate (N.n-vals.toArray.size) undef).getD i undef=u:=by intro i u hu;have hi:i<vals.length:=(jw.1 hu).1;rw[qy,Array.getElem?_append_left (by simpa using hi)];simp[hu]
 have h9:∀i u,vals[i]? = some u->γ0 vals (i*64)=u:=by intro i u hu;simp only[γ0];rw[vm _ (by omega)];simp[hu]
 have ff:∀k b,(St.init args).bx k = .live b->∃i x u,k=i*64/\args[i]? = some x/\vals[i]? = some u/\mV S w x u/\nF (some x) = .live b:=by
  intro k b hb;simp only[St.init]at hb;split at hb
  .rename_i hk;cases hx:args[k/64]? with
   |none=>simp[hx,nF]at hb
   |some x=>obtain⟨u,hu,iM⟩:=ha.get _ x hx;exact⟨k/64,x,u,by omega,hx,hu,iM,by rw[hx]at hb;exact hb⟩
  .simp at hb
 have C4:∀i x,args[i]? = some x->(St.init args).bx (i*64)=nF (some x):=by intro i x hx;simp only[St.init];rw[if_pos (by omega),vm _ (by omega),hx]
 have hblk:∀x u b,nF (some x) = .live b->lH x u=blk u:=by intro x u b hb;cases x<;>first|rfl|simp[nF]at hb
 refine⟨⟨?_,rfl,?_,?_,?_,?_,λ_ _ h=>h,λ_ _ h=> .inl h,hS,λ_ _ _=>rfl,jg _,rfl,rfl,rfl,?_,λg o h=>by simp[oZ]at h,λi v h=>by simp[oZ]at h⟩,?_⟩
 .simp;omega
 .intro i
  have eu:(St.init args).sl i=match args[i]? with
   |some a=> .one (EW i a)
   |none=> .one (.one .dead):=rfl
  rw[eu];cases hx:args[i]? with
  |none=>exact⟨trivial,λh=>absurd rfl h⟩
  |some x=>
   obtain⟨u,hu,iM⟩:=ha.get i x hx;show bJ S w (γ0 vals) (St.init args).bx (EW i x) _;rw[xn i u hu];have hb:=C4 i x hx;cases x with
   |v x=>exact zV iM
   |ref ls=>obtain⟨g,cur,e,h1,_⟩:=id iM;exact⟨⟨by rw[hb];simp[nF],by rw[h1];rfl,λb _=>⟨g,(h9 i u hu).trans h1,h1⟩⟩,λ_=>by rw[h1];rfl⟩
   |rl e x=>obtain⟨t,xs,rfl,cF,_⟩:=id iM;have cQ:One u:=cF.one;exact⟨⟨by rw[hb];simp[nF],cQ,λb _=>(h9 i u hu).symm⟩,λ_=>cQ⟩
   |ip ls=>obtain⟨g,o,cs,h1,_⟩:=id iM;exact⟨iM,λ_=>by rw[h1];rfl⟩
   |clo f caps=>obtain⟨cv,h1,_⟩:=id iM;exact⟨iM,λ_=>by rw[h1];rfl⟩
 .intro k b hb;obtain⟨i,x,u,rfl,hx,hu,iM,cZ⟩:=ff k b hb;cases x with
  |ref ls=>simp only[nF,BS.live.injEq]at cZ;subst cZ;exact Ij (h9 i u hu) iM
  |rl e x=>obtain⟨t,xs,rfl,_⟩:=id iM;simp only[nF,BS.live.injEq]at cZ;subst cZ;exact Co (h9 i u hu) iM
  |_=>simp[nF]at cZ
 .intro k b g hb hg;obtain⟨i,x,u,rfl,hx,hu,iM,cZ⟩:=ff k b hb;rw[h9 i u hu,<-hblk x u b cZ]at hg;refine .inr ⟨FM hx hu hg,?_⟩;have:i<args.length:=(jw.1 hx).1;simp[parK];omega
 .intro k k' b b' g ba hb aP hg az;obtain⟨i,x,u,rfl,hx,hu,iM,cZ⟩:=ff k b hb;obtain⟨j,y,v,rfl,hy,hv,Jd,C5⟩:=ff k' b' aP;rw[h9 i u hu,<-hblk x u b cZ]at hg;rw[h9 j v hv,<-hblk y v b' C5]at az;exact ba (by rw[Q8 dy hx hu hy hv hg az])
 .intro k v hv;simp only[oZ,C3]at hv;split at hv
  .rename_i hk;split at hv
   .rename_i x hx;split at hv
    .rename_i hr;have hi:k/64<args.length:=(jw.1 hx).1;have bg:k=(k/64)*64:=by omega
     refine⟨by simp[parK,hk];omega,?_,?_⟩
     .rw[bg,C4 _ x hx];cases x with
      |rl e y=>obtain⟨u,hu,iM⟩:=ha.get _ _ hx;obtain⟨t,xs,rfl,_⟩:=iM;simp[nF]
      |ref ls=>simp[nF]
      |_=>simp[xv]at hr
     .rw[bg];exact h9 _ v hv
    .simp at hv
   .simp at hv
  .simp at hv
 .intro i;show ((match args[i]? with|some a=>Slot.one (EW i a)|none=> .one (.one .dead)):Slot).bare=true;split<;>rfl
theorem Jf{α β:Type}{P:Program}(f:α->Sem β):∀{rs:List α}{zs:List β},All2 (λr z=>(f r).run P w = .ok z w) rs zs->(rs.mapM f).run P w = .ok zs w
 |[],[],_=>by simp
 |r::rs,z::zs,h=>by
  simp only[z8,Sem.run_bind,h.1,Result.andThen_ok,Jf f h.2,Sem.run_pure]
 |[],_::_,h=>h.elim
 |_::_,[],h=>h.elim
def Uns(b:Bx):Prop:=(∃ls,b = .cell ls false)\/∃e t xs,b = .lst e t xs false
theorem Jg{P:Program}{E:Env}(hT:cB P E.T)(hR:Rel N np S0 w0 refs σ a w S γ){r:ResultVar}{c:Cel}(h:zJ E σ r=some c) :
  ∃z,((match r with
   |.tmp t=>pure (a.tmps.getD t undef)
   |.cell x t=>do loadVar t (<-asAddr (a.tmps.getD x undef)):Sem Value)).run P w = .ok z w/\bJ S w γ σ.bx c z:=by
 cases r with
 |tmp t=>
  simp only[zJ]at h;split at h
  .rename_i c' hc;simp only[j4]at h;subst h;have:=hR.slot t;rw[hc]at this;exact⟨_,by simp,this⟩
  .simp at h
 |cell x t=>
  simp only[zJ]at h;split at h
  .rename_i ti y ht hy;have:=hR.slot x;rw[hy]at this;obtain⟨z,hz,ik⟩:=O9 hT hR (RdR.msk λ_=> .inl rfl) ht h this.1;refine⟨z,?_,ik⟩;show (do loadVar t (<-asAddr (a.tmps.getD x undef)):Sem Value).run P w=_
   have hu:∃ad,a.tmps.getD x undef = .pointer (some ad):=by
    generalize a.tmps.getD x undef=u at hz
    cases u with
    |pointer o=>
     cases o with
     |some ad=>exact⟨ad,rfl⟩
     |none=>simp[Instr.loadAt,Instr.sureAddr]at hz
    |_=>simp[Instr.loadAt,Instr.sureAddr]at hz
   obtain⟨ad,hu⟩:=hu;rw[hu]at hz ⊢;simpa[Instr.loadAt,Instr.sureAddr,asAddr]using hz
  .simp at h
theorem FN{rd:Nat->BS}(hR:Rel N np S0 w0 refs σ a w S γ)(aT:RdF np σ rd):∀{ks:List SoK}{ls:List Leaf}{r:List RL}{n:List Nat}{v:Ups}{zs:List Value},soOf rd ks ls=some (r,n,v)->
  All2 (bO S w γ σ.bx) ls zs->(∀z∈zs,One z)->FrzL np σ.bx v/\(∀k∈n,(∃b,σ.bx k = .live b/\Uns b)/\parK np k=false)/\mX r zs=(n.filterMap λk=>blk (γ k))/\
   ∀S',cX S w S' w->Froz σ.bx γ S' w v->(∀k∈n,∀g,blk (γ k)=some g->∀o,¬S' g o)->All2 (Fj S' w) r zs
 |[],[],r,n,v,zs,h,ha,h1=>by
  simp[soOf]at h;obtain⟨rfl,rfl,rfl⟩:=h;cases zs with
  |nil=>exact⟨.nil,by simp,rfl,λ_ _ _ _=>trivial⟩
  |cons _ _=>exact ha.elim
 |.d t::ks,l::ls,r,n,v,zs,h,ha,h1=>by
  cases zs with
  |nil=>exact ha.elim
  |cons z zs=>
  simp only[soOf]at h;split at h
  .rename_i x u r' n' v' hx hr;cases fe:t.leafy with
   |false=>rw[fe]at h;simp at h
   |true=>
   rw[fe,j5]at h;simp only[j4,j8]at h;obtain⟨rfl,rfl,rfl⟩:=h;obtain⟨f1,p1⟩:=uu aT hx ha.1;obtain⟨f2,k2,b2,p2⟩:=FN hR aT hr ha.2 (λy hy=>h1 y (by simp[hy]));refine⟨FrzL.app.2 ⟨f1,f2⟩,k2,by simp[mX,b2],λS' aC dI hn=>?_⟩;obtain⟨g1,g2⟩:=Froz.app.1 dI;exact⟨⟨h1 z (by simp),p1 S' w aC g1⟩,p2 S' aC g2 hn⟩
  .simp at h
 |.own e t::ks,l::ls,r,n,v,zs,h,ha,h1=>by
  cases zs with
  |nil=>exact ha.elim
  |cons z zs=>
  cases l with
  |nil=>
   simp only[soOf]at h;split at h
   .rename_i r' n' v' hr;cases hm:isM e with
    |true=>rw[hm]at h;simp at h
    |false=>
    rw[hm,j6]at h;simp only[j4,j8]at h;obtain⟨rfl,rfl,rfl⟩:=h;have hz:z = .slice none 0 0:=ha.1;subst hz;obtain⟨f2,k2,b2,p2⟩:=FN hR aT hr ha.2 (λy hy=>h1 y (by simp[hy]));refine⟨f2,k2,by simp[mX,blk,b2],λS' aC dI hn=>⟨⟨t,[],rfl,.inl ⟨hm,[],⟨by simp,.inl ⟨rfl,rfl⟩⟩,trivial⟩,λg hg=>by simp[blk]at hg⟩,p2 S' aC dI hn⟩⟩
   .simp at h
  |ol k=>
   simp only[soOf]at h;split at h
   .rename_i e' b xs hk;cases he:Nat.beq e' e with
    |false=>rw[he]at h;simp at h
    |true=>
    rw[he,j5]at h;split at h
    .rename_i r' n' v' hr;simp only[j4,j8]at h;obtain⟨rfl,rfl,rfl⟩:=h;have hp:=aT.par hk;have hk:=aT.ok.live hk;have hz:=ha.1.2.2 _ hk;obtain⟨f2,k2,b2,p2⟩:=FN hR aT hr ha.2 (λy hy=>h1 y (by simp[hy]));refine⟨f2,λk' bg=>?_,?_,λS' aC dI hn=>⟨⟨b,xs,rfl,by rw[hz];exact(hR.box k _ hk).1.keep aC (λ_ _=>rfl),λg hg=>hn k (by simp) g (by rw[<-hz];exact hg)⟩,p2 S' aC dI (λk' bg=>hn k' (by simp[bg]))⟩⟩
     .rcases je.1 bg with rfl|bg
      .exact⟨⟨_,hk,.inr ⟨_,_,_,rfl⟩⟩,hp⟩
      .exact k2 k' bg
     .simp only[mX,hz,vf];rw[b2];cases blk (γ k)<;>rfl
    .simp at h
   .simp at h
  |_=>simp[soOf]at h
 |[],_::_,r,n,v,zs,h,_,_=>by simp[soOf]at h
 |.d _::_,[],r,n,v,zs,h,_,_=>by simp[soOf]at h
 |.own _ _::_,[],r,n,v,zs,h,_,_=>by simp[soOf]at h
theorem jzW{P:Program}{E:Env}(hT:cB P E.T)(hR:Rel N E.np S0 w0 refs σ a w S γ){rd:Nat->BS}(aT:RdF E.np σ rd){own:Bool}{t:Nat}{c:Cel}{v:RV}{ks:List Nat}{u:Ups}{z:Value}(h:rvOf E rd own t c=some (v,ks,u))(hc:bJ S w γ σ.bx c z) :
  FrzL E.np σ.bx u/\(∀k∈ks,(∃b,σ.bx k = .live b/\Uns b)/\parK E.np k=false)/\jY v z=(ks.filterMap λk=>blk (γ k))/\
   ∀S',cX S w S' w->Froz σ.bx γ S' w u->(∀k∈ks,∀g,blk (γ k)=some g->∀o,¬S' g o)->oT S' w v z:=by
 unfold rvOf at h;split at h
 .rename_i k;split at h
  .rename_i ls hk;split at h
   .rename_i xs u1 h1;simp only[j4,j8]at h;obtain⟨rfl,rfl,rfl⟩:=h;have hp:=aT.par hk;have hk:=aT.ok.live hk;obtain⟨g,hg,hz⟩:=hc.1.2.2 _ hk;obtain⟨g',cur,e,az,hh,eF,_⟩:=hR.box k _ hk;rw[hg]at az;simp at az;subst az;obtain⟨hf,wT⟩:=zU aT h1 eF;refine⟨hf,λk' bg=>by simp at bg;subst bg;exact⟨⟨_,hk,.inl ⟨_,rfl⟩⟩,hp⟩,?_,λS' aC dI hn=>⟨g,cur,e,hz,hh,wT S' w aC dI,?_⟩⟩
    .simp[jY,mW,hz,hg,blk]
    .exact hn k (by simp) g (by rw[hg];rfl)
   .simp at h
  .simp at h
 .rename_i f caps;simp only[j4,j8]at h;obtain⟨rfl,rfl,rfl⟩:=h;obtain⟨⟨cv,hz,ar⟩,_⟩:=hc;exact⟨.nil,by simp,by simp[jY,mW],λS' aC _ _=>⟨cv,hz,ar.mono λ_ _ h=>ig.keep aC h⟩⟩
 .split at h
  .rename_i ti ht;split at h
   .rename_i ty bB;split at h
    .split at h
     .rename_i ls;split at h
      .rename_i r n u1 hso;simp only[j4,j8]at h;obtain⟨rfl,rfl,rfl⟩:=h;obtain⟨cs,hz,ar,cQ⟩:=hc;subst hz;obtain⟨f1,k1,b1,p1⟩:=FN hR aT hso ar cQ;exact⟨f1,k1,b1,λS' aC dI hn=>⟨cs,rfl,p1 S' aC dI hn⟩⟩
      .simp at h
     .rename_i el dM _;simp only[j4,j8]at h;obtain⟨rfl,rfl,rfl⟩:=h;have hz:z = .slice none 0 0:=hc.1;subst hz;exact⟨.nil,by simp,by simp[jY,mW,blk],λS' _ _ _=>⟨el,[],rfl,.inl ⟨HH hT ht,[],⟨by simp,.inl ⟨rfl,rfl⟩⟩,trivial⟩,λg hg=>by simp[blk]at hg⟩⟩
     .rename_i k dM _;split at h
      .rename_i e el xs hk;simp only[j4,j8]at h;obtain⟨rfl,rfl,rfl⟩:=h;have hp:=aT.par hk;have bW:=aT.ok.nm hk;have hk:=aT.ok.live hk;have hz:=hc.1.2.2 _ hk;obtain⟨css,aQ,ar,_⟩:=ij bW (hR.box k _ hk);refine⟨.nil,λk' bg=>by simp at bg;subst bg;exact⟨⟨_,hk,.inr ⟨_,_,_,rfl⟩⟩,hp⟩,?_,λS' aC _ hn=>⟨el,xs,rfl,by rw[hz];exact(hR.box k _ hk).1.keep aC (λ_ _=>rfl),λg hg=>hn k (by simp) g (by rw[<-hz];exact hg)⟩⟩;simp only[jY,mW,hz,vf,List.filterMap_nil];cases blk (γ k)<;>rfl
      .simp at h
     .simp at h
    .split at h
     .rename_i x u1 hx;simp only[j4,j8]at h;obtain⟨rfl,rfl,rfl⟩:=h;obtain⟨hf,hp,_⟩:=B3 aT hx hc;exact⟨hf,by simp,by simp[jY,mW],λS' aC dI _=>hp S' w aC dI⟩
     .simp at h
   .simp at h
  .simp at h
theorem Q9{P:Program}{E:Env}(hT:cB P E.T)(hR:Rel N E.np S0 w0 refs σ a w S γ):∀{os:List Bool}{rs:List ResultVar}{ts:List Nat}{vs:List RV}{ks:List Nat}{u:Ups},sf E σ os rs ts=some (vs,ks,u)->
  ∃zs,All2 (λ(r:ResultVar) z=>((match r with
   |.tmp t=>pure (a.tmps.getD t undef)
   |.cell x t=>do loadVar t (<-asAddr (a.tmps.getD x undef)):Sem Value)).run P w = .ok z w) rs zs/\
  FrzL E.np σ.bx u/\(∀k∈ks,(∃b,σ.bx k = .live b/\Uns b)/\parK E.np k=false)/\fE vs zs=(ks.filterMap λk=>blk (γ k))/\
   ∀S',cX S w S' w->Froz σ.bx γ S' w u->(∀k∈ks,∀g,blk (γ k)=some g->∀o,¬S' g o)->All2 (oT S' w) vs zs
 |os,[],ts,vs,ks,u,h=>by
  simp[sf]at h;obtain⟨rfl,rfl,rfl⟩:=h;exact⟨[],trivial,.nil,by simp,rfl,λ_ _ _ _=>trivial⟩
 |os,r::rs,ts,vs,ks,u,h=>by
  simp only[sf]at h;split at h
  .rename_i c hc;split at h
   .rename_i v k1 u1 hv;split at h
    .rename_i jK k2 u2 me;simp only[j4,j8]at h;obtain⟨rfl,rfl,rfl⟩:=h;obtain⟨z,hz,ik⟩:=Jg hT hR hc;obtain⟨f1,p1,n1,r1⟩:=jzW hT hR (CD (RdR.msk λ_=> .inl rfl)) hv ik;obtain⟨zs,mR,f2,p2,n2,r2⟩:=Q9 hT hR me;refine⟨z::zs,⟨hz,mR⟩,FrzL.app.2 ⟨f1,f2⟩,λk hk=>?_,?_,λS' aC dI hn=>?_⟩
     .rcases jn.1 hk with hk|hk
      .exact p1 k hk
      .exact p2 k hk
     .simp[fE,n1,n2]
     .obtain⟨g1,g2⟩:=Froz.app.1 dI;exact⟨r1 S' aC g1 (λk hk=>hn k (by simp[hk])),r2 S' aC g2 (λk hk=>hn k (by simp[hk]))⟩
    .simp at h
   .simp at h
  .simp at h
theorem Jh(hR:Rel N np S0 w0 refs σ a w S γ):∀{as:List Arg}{us:List Value}{i:Nat}{os:List Out}{u:Ups},outs np σ i as=some (os,u)->as.length=us.length->
  (∀(j:Nat)(x:Arg)(v:Value),as[j]? = some x->us[j]? = some v->xv x=true->γ ((i+j)*64)=v)->
  FrzL np σ.bx u/\∀S',cX S w S' w->Froz σ.bx γ S' w u->(∀(j:Nat)(x:Arg)(v:Value)(g:Nat),as[j]? = some x->us[j]? = some v->xv x=true->(∃b,σ.bx ((i+j)*64) = .live b/\Uns b)->blk v=some g->∀o,¬S' g o)->lI S' w as us os
 |[],us,i,os,u,h,hl,_=>by
  simp[outs]at h;obtain⟨rfl,rfl⟩:=h;cases us with
  |nil=>exact⟨.nil,λ_ _ _ _=>trivial⟩
  |cons _ _=>simp at hl
 |x::as,[],i,os,u,h,hl,_=>by simp at hl
 |x::as,v::us,i,os,u,h,hl,hg=>by
  simp only[outs]at h;split at h
  .rename_i lK u' h'
   obtain⟨f1,r1⟩:=Jh hR (i:=i+1) h' (by simpa using hl) (λj y z hy hz hr=>by
    have:=hg (j+1) y z (by simpa using hy) (by simpa using hz) hr;rwa[show i+1+j=i+(j+1) by omega])
   have cL:∀S',cX S w S' w->Froz σ.bx γ S' w u'->(∀(j:Nat)(x':Arg)(v':Value)(g:Nat),(x::as)[j]? = some x'->(v::us)[j]? = some v'->xv x'=true->(∃b,σ.bx ((i+j)*64) = .live b/\Uns b)->blk v'=some g->∀o,¬S' g o)->lI S' w as us lK:=by intro S' aC dI hn;refine r1 S' aC dI (λj y z g hy hz hr hb hgz=>?_);exact hn (j+1) y z g (by simpa using hy) (by simpa using hz) hr (by rwa[show i+(j+1)=i+1+j by omega]) hgz
   split at h
   .rename_i ls;have Ji:γ (i*64)=v:=hg 0 _ v rfl rfl rfl;split at h
    .rename_i fV hb;split at h
     .rename_i xs u2 hx;simp only[j4,j8]at h;obtain⟨rfl,rfl⟩:=h;obtain⟨g,cur,e,h1,h2,h3,_⟩:=hR.box _ _ hb;obtain⟨f2,r2⟩:=zU (CD (RdR.msk λ_=> .inl rfl)) hx h3;refine⟨FrzL.app.2 ⟨f2,f1⟩,λS' aC dI hn=>?_⟩;obtain⟨g1,g2⟩:=Froz.app.1 dI;have Ra:v = .pointer (some ⟨g,0,none⟩):=by rw[<-Ji];exact h1
      exact⟨⟨g,cur,e,Ra,h2,r2 S' w aC g1,hn 0 _ v g rfl rfl rfl ⟨_,hb,.inl ⟨fV,rfl⟩⟩ (by rw[Ra];rfl)⟩,cL S' aC g2 hn⟩
     .simp at h
    .simp at h
   .rename_i e y;have Ji:γ (i*64)=v:=hg 0 _ v rfl rfl rfl;split at h
    .rename_i e' t xs hb;split at h
     .rename_i dL;obtain⟨rfl,FO⟩:=dL;simp only[j4,j8]at h;obtain⟨rfl,rfl⟩:=h;have aQ:=(hR.box _ _ hb).1;rw[Ji]at aQ;refine⟨f1,λS' aC dI hn=>⟨⟨t,xs,rfl,aQ.keep aC (λ_ _=>rfl),λg az=>hn 0 _ v g rfl rfl rfl ⟨_,hb,.inr ⟨_,t,xs,rfl⟩⟩ az⟩,FO.symm,cL S' aC dI hn⟩⟩
     .simp at h
    .simp at h
   .rename_i Jj Jk;simp only[j4,j8]at h;obtain⟨rfl,rfl⟩:=h;refine⟨f1,λS' aC dI hn=>?_⟩;have:=cL S' aC dI hn;cases x with
    |ref ls=>exact absurd rfl (Jj ls)
    |rl e y=>exact absurd rfl (Jk e y)
    |_=>exact this
  .simp at h
theorem Rb{x:Arg}{u:Value}{g:Nat}(h:mV S w x u)(hr:lH x u=some g):∀o,¬S g o:=by
 cases x with
 |ref ls=>obtain⟨g',cur,e,h1,_,_,h4⟩:=h;have sF:blk u=some g:=hr;rw[h1]at sF;simp[blk]at sF;subst sF;exact h4
 |rl e y=>obtain⟨t,xs,_,_,h4⟩:=h;exact h4 g hr
 |_=>simp[lH]at hr
theorem Jl:∀{as:List Arg}{us:List Value}{g:Nat},g∈dX as us->∃(i:Nat)(x:Arg)(u:Value),as[i]? = some x/\us[i]? = some u/\lH x u=some g
 |[],_,_,h=>by simp[dX]at h
 |_::_,[],_,h=>by simp[dX]at h
 |x::as,u::us,g,h=>by
  simp only[dX,jn,Option.mem_toList]at h;rcases h with h|h
  .exact⟨0,x,u,rfl,rfl,h⟩
  .obtain⟨i,y,v,h1,h2,h3⟩:=Jl h;exact⟨i+1,y,v,by simpa using h1,by simpa using h2,h3⟩
theorem Rc(zs:List Value):(if h:zs.toArray.size=1 then zs.toArray[0] else .tuple zs.toArray)=rH zs:=by
 match zs with
 |[]=>rfl
 |[z]=>rfl
 |z::z'::zs=>simp[rH]
theorem jwS{P:Program}{E:Env}(hT:cB P E.T)(hR:Rel N np S0 w0 refs σ a w S γ){rs:List ResultVar}{vs jK:List RV}{zs:List Value}
  (mR:All2 (λ(r:ResultVar) z=>((match r with
   |.tmp t=>pure (a.tmps.getD t undef)
   |.cell x t=>do loadVar t (<-asAddr (a.tmps.getD x undef)):Sem Value)).run P w = .ok z w) rs zs) (h:nilV E σ rs vs=some jK) :
  (∀S' w',All2 (oT S' w') vs zs->All2 (oT S' w') jK zs)/\fE jK zs=fE vs zs/\∀m,jK=[.hd m]->vs=[.hd m]:=by
 unfold nilV at h;split at h
 .simp only[j4]at h;subst h;exact⟨λ_ _ h=>h,rfl,λ_ h=>h⟩
 .split at h
  .rename_i r x;split at h
   .rename_i ls hc;split at h
    .rename_i hn;simp only[j4]at h;subst h;obtain⟨z,hz,ik⟩:=Jg hT hR hc;cases zs with
     |nil=>exact mR.elim
     |cons z' zs=>
      cases zs with
      |cons _ _=>exact mR.2.elim
      |nil=>
       have sC:z'=z:=by have h1:=hz.symm.trans mR.1;simp only[Result.ok.injEq]at h1;exact h1.1.symm
       subst sC;obtain⟨cs,hu,ar,_⟩:=ik;refine⟨λS' w' hv=>⟨⟨hv.1,λsN my i hi z hzi=>?_⟩,trivial⟩,rfl,λm hm=>by simp at hm⟩;rw[hu]at my;simp only[Value.agg.injEq]at my;subst my;have hl:=jz.1 hn i hi;cases Jm:ls[i]? with
       |none=>rw[Jm]at hl;simp at hl
       |some l=>rw[Jm]at hl;obtain⟨z2,Jn,wR⟩:=ar.get i l Jm;rw[hzi]at Jn;simp only[j4]at Jn;subst Jn;cases l<;>first|exact wR|simp at hl
    .simp at h
   .simp at h
  .simp at h
theorem jog{E:Env}{os:List Bool}{rs:List ResultVar}{ts:List Nat}{vs:List RV}{ks:List Nat}{u:Ups}(h:sf E σ os rs ts=some (vs,ks,u))(m:Nat):vs≠[.hd m]:=by
 cases rs with
 |nil=>simp[sf]at h;rw[<-h.1];simp
 |cons r rs=>
  simp only[sf]at h;split at h
  .split at h
   .rename_i v k1 u1 hv;split at h
    .simp only[j4,j8]at h;rw[<-h.1];intro he;have:v = .hd m:=by simpa using (List.cons.inj he).1
     subst this;unfold rvOf at hv;split at hv
     .split at hv
      .split at hv<;>simp at hv
      .simp at hv
     .simp at hv
     .split at hv
      .split at hv
       .split at hv
        .split at hv
         .split at hv<;>simp at hv
         .simp at hv
         .split at hv<;>simp at hv
         .simp at hv
        .split at hv<;>simp at hv
       .simp at hv
      .simp at hv
    .simp at h
   .simp at h
  .simp at h
theorem jzX{P:Program}{E:Env}(hT:cB P E.T){fn:Func}{args:List Arg}{vals:List Value}{σ':St}{a':Go.Act}{w':World}{S':aF}{γ':Nat->Value}(hR:Rel N E.np S w (oZ args vals) σ' a' w' S' γ')
  (ha:All2 (mV S w) args vals)(hS:∀g o,S g o->g<w.heap.size)(FP:E.hd=true){ret:Ret}(cq:wv E fn args σ'=some ret){R:Type}{k:Ret->Option R}{r:R}(hk:k ret=some r) :
  ∃v,(results fn a'.tmps).run P w' = .ok v w'/\∃ret,k ret=some r/\∃v' S' vs,Ending.returned v = .returned v'/\Ig w S args vals ret v' w' S' vs:=by
 have dW:∀(j:Nat)(x:Arg)(v:Value),args[j]? = some x->vals[j]? = some v->xv x=true->γ' ((0+j)*64)=v:=by intro j x v hx hv hr;refine(hR.par ((0+j)*64) v ?_).2.2;simp only[oZ,C3];rw[if_pos (by omega),vm _ (by omega),kf,hx];simp[hr,hv]
 unfold wv at cq;rw[if_pos FP]at cq;unfold OS at cq;split at cq
 .rename_i e x as r0 kJ;split at cq
  .rename_i l os u' hc oU;split at cq
   .rename_i m hm;simp only[j4]at cq;subst cq;obtain⟨z,hz,ik⟩:=Jg (P:=P) hT hR hc;obtain⟨f2,r2⟩:=Jh hR oU ha.length dW;obtain⟨S2,cO,db,pH,dJ⟩:=nI u' σ' S' hR f2;cases vals with
    |nil=>exact ha.elim
    |cons v0 vs0=>
    have h0:γ' 0=v0:=by have:=dW 0 _ v0 rfl rfl rfl;simpa using this
    have xw:∀k,parK E.np k=true->u'.any (λy=>y.1==k)=false:=by intro k hk;rw[qj];intro y hy he;simp only[z6]at he;have:=(f2 y hy).1;rw[he,hk]at this;simp at this
    have nM:∀k b,u'.any (λy=>y.1==k)=false->σ'.bx k = .live b->Uns b->∀g,blk (γ' k)=some g->∀o,¬S2 g o:=by
     intro k b hk hb kA g hg o;have fc:(σ'.upd u').bx k = .live b:=(ma _ _ hk).trans hb;have cZ:=cO.box k b fc;rcases kA with⟨ls,rfl⟩|⟨e,t,xs,rfl⟩
     .obtain⟨g',cur,e,az,_,_,_,hS,_⟩:=cZ;rw[az]at hg;simp[blk]at hg;subst hg;exact hS rfl o
     .exact(cZ.2 g hg).1 rfl o
    have eO:=r2 S2 db pH (λj x v g hx hv hr Jo hg=>by
     obtain⟨b,hb,hu⟩:=Jo;have hp:parK E.np ((0+j)*64)=true:=by refine(hR.par ((0+j)*64) v ?_).1;simp only[oZ,C3];rw[if_pos (by omega),vm _ (by omega),kf,hx];simp[hr,hv]
     exact nM ((0+j)*64) b (xw _ hp) hb hu g (by rw[dW j x v hx hv hr];exact hg))
    have cQ:One z:=ik.2 (by rintro rfl;simp[hdOf]at hm)
    have pN:∃ad len cap,v0 = .slice ad len cap/\m<=len/\z = .slice ad m cap:=by
     unfold hdOf at hm;split at hm
     .split at hm
      .rename_i e1 t1 Fi hb;split at hm
       .simp at hm
       .rename_i bW;simp only[j4]at hm;subst hm;obtain⟨css,aQ,_⟩:=ij (by simpa using bW) (hR.box 0 _ hb);have sC:=ik.1.2.2 _ hb;rcases aQ.2 with⟨hg,hn⟩|⟨g,cap,cur,hg,_⟩
        .exact⟨none,0,0,by rw[<-h0,hg],by omega,by rw[sC,hg,hn]⟩
        .exact⟨_,_,cap,by rw[<-h0,hg],jg _,by rw[sC,hg]⟩
      .simp at hm
     .split at hm
      .rename_i i e1 t1 Fi hb;simp only[j4]at hm;subst hm;obtain⟨_,hi,ad,cap,hg,sC⟩:=ik.1.2.2 _ hb;exact⟨ad,_,cap,by rw[<-h0,hg],hi,sC⟩
      .simp at hm
     .simp at hm
    have aL:(results fn a'.tmps).run P w' = .ok (rH [z]) w':=by
     have hm:=Jf (P:=P) (w:=w') (rs:=[r0]) (zs:=[z]) (λr=>((match r with
      |.tmp t=>pure (a'.tmps.getD t undef)
      |.cell x t=>do loadVar t (<-asAddr (a'.tmps.getD x undef)):Sem Value))) ⟨hz,trivial⟩
     unfold results;rw[Array.mapM_eq_mapM_toList,kJ];simp only[Sem.run_bind,Sem.run_map]
     erw [hm]
     simp only[Result.andThen_ok,Sem.run_pure];exact ji (Result.ok · w') (Rc [z])
    refine⟨rH [z],aL,⟨[.hd m],os⟩,hk,rH [z],S2,[z],rfl,⟨rfl,⟨cQ,trivial⟩,λg hg=>by simp[fE,mW,jY]at hg,by simp[fE,mW,jY],eO,λg o hs=>⟨cO.ext g o hs,?_⟩,cO.new,cO.here,cO.below,cO.grow,cO.os,cO.tape,cO.output,?_⟩⟩
    .refine World.cell?_of_block (cO.below g (hS g o hs) (λhm=>?_));obtain⟨i,x,v,hx,hv,hb⟩:=Jl hm;obtain⟨v',gC,Jp⟩:=ha.get i x hx;rw[hv]at gC;simp at gC;subst gC;exact Rb Jp hb o hs
    .intro m' iL;have:m'=m:=by simpa using iL.symm
     subst this;obtain⟨ad,len,cap,h1,h2,h3⟩:=pN;exact⟨ad,len,cap,by rw[h1];rfl,h2,by rw[h3]⟩
   .simp at cq
  .simp at cq
 .simp at cq
theorem Jq{P:Program}{fn:Func}{n:Nat}{R:Ending->World->Prop}:∀(ds:List Deferred){refs:Refs}{σ:St}{a:Go.Act}{w:World}{S:aF}{γ:Nat->Value},refs.ds=ds->CY w0 refs->Rel N np S0 w0 refs σ a w S γ->
  (∀w2,Rel N np S0 w0 ⟨refs.blks,refs.val,[],λ_=>none,λ_=>none⟩ σ { a with defers:=[] } w2 S γ->LeavesIn (FR none) n P fn a.tmps R [] .returning w2)->LeavesInM (FR none) n P fn a.tmps R ds .returning w
 |[],refs,σ,a,w,S,γ,hd,hm,hR,h=>h w (hR.swap rfl rfl hR.size rfl hR.slot (λg o h=>by simp at h) (λi v h=>by simp at h))
 |d::ds,refs,σ,a,w,S,γ,hd,hm,hR,h=>by
  obtain⟨dy,ar⟩:=hm;rw[hd]at dy;obtain⟨D,rfl,h1,h2⟩:=ar d (by rw[hd];simp);refine⟨by simp,.inl ⟨D,_,rfl,run_takeDeferred (hR.kept D _ h2).1,?_⟩⟩;have bu:=hR.putO (o':= .deferred none) h2 h1 rfl rfl
  have cO:=bu.swap (a':={ a with defers:=ds }) (refs':=⟨refs.blks,refs.val,ds,λg=>if g=D then none else refs.kw g,refs.fix⟩) rfl rfl hR.size rfl bu.slot (λg o hg=>bu.kept g o (by
   simp only at hg ⊢;split at hg
   .simp at hg
   .rename_i e;rw[if_neg e];exact hg)) bu.fix
  refine Jq (a:={ a with defers:=ds }) (refs:=⟨refs.blks,refs.val,ds,λg=>if g=D then none else refs.kw g,refs.fix⟩) ds rfl ⟨(qp.1 dy).2,λd' gf=>?_⟩ cO (λw2 hw=>h w2 hw);obtain⟨D',rfl,q1,q2⟩:=ar d' (by rw[hd];simp[gf]);refine⟨D',rfl,q1,?_⟩;show (if D'=D then none else refs.kw D')=_;rw[if_neg,q2]
  rintro rfl
  exact(qp.1 dy).1 gf
theorem Re{P:Program}{E:Env}(hT:cB P E.T)(hC:lJ P E.C)(hF:CFun E.C)(jC:P.follows .mixedOrders=true){f:Nat}{fn:Func}{c:Code}(hf:P.funcs[f]? = some fn)(hb:fn.body=some c)(hN:fn.ntmps=E.N.n)(pU:E.N.pin=λ_=>false)(sX:∀f t,E.bw f=some t->ItOK P f t.1 t.2)(xx:E.np<=E.N.n)
  (bW : (fn.name == "runtime.NumGoroutine") = false) (hL : ∀ x ∈ fR 0 c, CX E x.1 x.2) : FnOK P f (fun args _ k => sg E fn args k) := by
 intro args R k r h;refine⟨⟨fn,hf,by rw[hb];rfl,bW⟩,?_⟩;intro w S vals ha dy hS;by_cases hlen:args.length=E.np
 case neg=>simp[sg,hlen]at h
 case pos=>
 simp only[sg,hb,hlen,if_true]at h;have sK:vals.length=E.np:=by rw[<-ha.length,hlen]
 obtain⟨hR0,mP⟩:=jwR (N:=E.N) ha dy hS hlen xx;refine jyL (n:=0) (ro:=none) (callsIn_of_wp_marks hf hb trivial ?_);rw[hN];refine wpIn_mono (jtz jC c (ro:=none) hT hC hF (λ_=>⟨sX,pU⟩) (.inl rfl) 0 0 ⟨zi,λd hd=>by simp[oZ]at hd⟩ hL hR0 mP h) ?_
 rintro e a0 w1 ⟨refs',ex,σ',S',γ',hle,_,rfl,bu,cU,hk⟩
 have dZ:∀(hk:(match wv E fn args σ' with|some r=>k r|none=>none)=some r)(w':World),Rel E.N E.np S w ⟨refs'.blks,refs'.val,[],λ_=>none,λ_=>none⟩ σ' { a0 with defers:=[] } w' S' γ'->∃v,(results fn a0.tmps).run P w' = .ok v w'/\
   ∃ret,k ret=some r/\∃v' S' vs,Ending.returned v = .returned v'/\Ig w S args vals ret v' w' S' vs:=by
  intro hk w' hR;have hR:Rel E.N E.np S w (oZ args vals) σ' { a0 with defers:=[] } w' S' γ':=hR.swap hle.blks.symm hle.val.symm hR.size rfl hR.slot (λg o h=>by simp[oZ]at h) (λi v h=>by simp[oZ]at h);generalize tc:({ a0 with defers:=[] }:Go.Act)=a' at hR;have mv:a0.tmps=a'.tmps:=by rw[<-tc]
  rw[mv];cases cq:wv E fn args σ' with
  |none=>simp[cq]at hk
  |some ret=>
  simp only[cq]at hk;by_cases FP:E.hd=true
  .exact jzX hT hR ha hS FP cq hk
  have xy:∃vs ks u os u',sf E σ' E.ro fn.results.toList fn.resultTypes.toList=some (vs,ks,u)/\outs E.np σ' 0 args=some (os,u')/\
    oH ks=true/\(u++u').all (λe=> !ks.contains e.1)=true/\∃jK,nilV E σ' fn.results.toList vs=some jK/\ret=⟨jK,os⟩:=by
   unfold wv at cq;rw[if_neg FP]at cq;split at cq
   .rename_i vs ks u os u' me oU;split at cq
    .rename_i dL;split at cq
     .rename_i jK xz;simp only[j4]at cq;simp only[jb]at dL;exact⟨vs,ks,u,os,u',me,oU,dL.1,dL.2,jK,xz,cq.symm⟩
     .simp at cq
    .simp at cq
   .simp at cq
  obtain⟨vs,ks,u,os,u',me,oU,sy,w7,jK,xz,rfl⟩:=xy;obtain⟨zs,mR,f1,p1,n1,r1⟩:=Q9 hT hR me;have fD:(∀S' w',All2 (oT S' w') vs zs->All2 (oT S' w') jK zs)/\fE jK zs=fE vs zs/\∀m,jK=[.hd m]->vs=[.hd m]:=jwS hT hR mR xz;have dW:∀(j:Nat)(x:Arg)(v:Value),args[j]? = some x->vals[j]? = some v->xv x=true->γ' ((0+j)*64)=v:=by intro j x v hx hv hr;refine(hR.par ((0+j)*64) v ?_).2.2;simp only[oZ,C3];rw[if_pos (by omega),vm _ (by omega),kf,hx];simp[hr,hv]
  obtain⟨f2,r2⟩:=Jh hR oU ha.length dW;obtain⟨S2,cO,db,pH,dJ⟩:=nI (u++u') σ' S' hR (FrzL.app.2 ⟨f1,f2⟩);obtain⟨Jr,Js⟩:=Froz.app.1 pH
  have nM:∀k b,(u++u').any (λy=>y.1==k)=false->σ'.bx k = .live b->Uns b->∀g,blk (γ' k)=some g->∀o,¬S2 g o:=by
   intro k b hk hb kA g hg o;have fc:(σ'.upd (u++u')).bx k = .live b:=(ma _ _ hk).trans hb;have cZ:=cO.box k b fc;rcases kA with⟨ls,rfl⟩|⟨e,t,xs,rfl⟩
   .obtain⟨g',cur,e,az,_,_,_,hS,_⟩:=cZ;rw[az]at hg;simp[blk]at hg;subst hg;exact hS rfl o
   .exact(cZ.2 g hg).1 rfl o
  have td:∀k∈ks,(u++u').any (λy=>y.1==k)=false:=by intro k hk;rw[qj];intro y hy he;have:=jz.1 w7 y hy;simp only[z6]at he;rw[he]at this;simp[hk]at this
  have xw:∀k,parK E.np k=true->(u++u').any (λy=>y.1==k)=false:=by intro k hk;rw[qj];intro y hy he;simp only[z6]at he;have:=(FrzL.app.2 ⟨f1,f2⟩ y hy).1;rw[he,hk]at this;simp at this
  have C6:=r1 S2 db Jr (λk hk g hg=>by
   obtain⟨⟨b,hb,hu⟩,_⟩:=p1 k hk;exact nM k b (td k hk) hb hu g hg)
  have eO:=r2 S2 db Js (λj x v g hx hv hr Jo hg=>by
   obtain⟨b,hb,hu⟩:=Jo;have hj:j<args.length:=(jw.1 hx).1;exact nM ((0+j)*64) b (xw _ (by simp[parK];omega)) hb hu g (by rw[dW j x v hx hv hr];exact hg))
  have aL:(results fn a'.tmps).run P w' = .ok (rH zs) w':=by
   have hm:=Jf (P:=P) (w:=w') _ mR;unfold results;rw[Array.mapM_eq_mapM_toList];simp only[Sem.run_bind,Sem.run_map]
   erw [hm]
   simp only[Result.andThen_ok,Sem.run_pure];exact ji (Result.ok · w') (Rc zs)
  have hnh:∀m,jK=[.hd m]->∃ad len cap,Fk args vals=some (.slice ad len cap)/\m<=len/\zs=[.slice ad m cap]:=λm hm=>by
   exact absurd (fD.2.2 m hm) (jog me m)
  refine⟨rH zs,aL,⟨jK,os⟩,hk,rH zs,S2,zs,rfl,⟨rfl,fD.1 _ _ C6,λg hg=>?_,?_,eO,λg o hs=>⟨cO.ext g o hs,?_⟩,cO.new,cO.here,cO.below,cO.grow,cO.os,cO.tape,cO.output,hnh⟩⟩
  .rw[fD.2.1,n1]at hg;obtain⟨k,bg,hkg⟩:=zm.1 hg;obtain⟨⟨b,hb,_⟩,hp⟩:=p1 k bg;rcases hR.own k b g hb hkg with h|h
   .exact h
   .rw[hp]at h;simp at h
  .rw[fD.2.1,n1];exact Ih hR (Fm sy) (λk bg=>by obtain⟨⟨b,hb,_⟩,_⟩:=p1 k bg;exact⟨b,hb⟩)
  .refine World.cell?_of_block (cO.below g (hS g o hs) (λhm=>?_));obtain⟨i,x,v,hx,hv,hb⟩:=Jl hm;obtain⟨v',gC,Jp⟩:=ha.get i x hx;rw[hv]at gC;simp at gC;subst gC;exact Rb Jp hb o hs
 cases ex with
 |exit i=>simp at hk
 |normal=>exact Jq a0.defers bu.defers.symm hle.marks bu (λw2 hw=>dZ hk w2 hw)
 |ret=>exact Jq a0.defers bu.defers.symm hle.marks bu (λw2 hw=>dZ hk w2 hw)
end
section
variable{E:Env}
def LFun(L:Nat->Snap->(R:Type)->(Ex->Snap->Option R)->Option R):Prop:=
 ∀b s,∃o:Option (Ex×Snap),∀(R:Type)(k:Ex->Snap->Option R),L b s R k=o.bind λx=>k x.1 x.2
def Det{α:Type}(f:(R:Type)->(α->Option R)->Option R):Prop:=∃o:Option α,∀(R:Type)(k:α->Option R),f R k=o.bind k
theorem Det.val{α:Type}(x:α):Det (λ_ k=>k x):=⟨some x,λ_ _=>rfl⟩
theorem Det.no{α:Type}:Det (λR (_:α->Option R)=>none):=⟨none,λ_ _=>rfl⟩
theorem Det.cond{α:Type}{f g:(R:Type)->(α->Option R)->Option R}(b:Bool)(h:Det f)(h':Det g):Det (λR k=>cond b (f R k) (g R k)):=by
 cases b with
 |true=>exact h
 |false=>exact h'
theorem Det.bind{α β:Type}{f:(R:Type)->(α->Option R)->Option R}{g:α->(R:Type)->(β->Option R)->Option R}(h:Det f)(h':∀a,Det (g a)):Det (λR k=>f R λa=>g a R k):=by
 obtain⟨o,ho⟩:=h;cases o with
 |none=>exact⟨none,λR k=>ho R _⟩
 |some a=>obtain⟨o',xm⟩:=h' a;exact⟨o',λR k=>(ho R _).trans (xm R k)⟩
theorem Det.congr{α:Type}{f g:(R:Type)->(α->Option R)->Option R}(h:Det f)(e:∀R k,g R k=f R k):Det g:=by
 obtain⟨o,ho⟩:=h;exact⟨o,λR k=>(e R k).trans (ho R k)⟩
theorem Jt(hF:CFun E.C)(hz:E.nz=false)(p:Bool)(σ:St)(act:List (Nat×Bool))(o:Oper):Det (λR (k:St->Option R)=>run1 E p σ act o k):=by
 unfold run1;simp only[hz,j6];split
 .exact .no
 .exact .cond _ (.val _) .no
 .rename_i f args mk _;refine Det.bind (f:=λR k=>E.C f args R k) (hF f args) λret=>?_;split
  .exact .val _
  .exact .no
theorem Rf:∀(l:List (Nat×Bool))(σ:St),Det (λR (k:St×Bool->Option R)=>uf l σ λa b=>k (a,b))
 |[],σ=> .val _
 |(s,w)::r,σ=>by
  simp only[uf]
  refine(Det.bind (Rf r σ) (g:=λx R k=>match x.2 with
   |true=>match Hy r x.1 s with
    |some v=>cond v (k (x.1.setS s (.one (.one (.d .bool true))),w)) (k (x.1.setS s (.one (.one (.d .bool false))), !w))
    |none=>none
   |false=>k (x.1,false)) λx=>?_).congr λR k=>rfl
  obtain⟨σ1,a⟩:=x;cases a with
  |true=>
   dsimp only
   split
   .exact .cond _ (.val _) (.val _)
   .exact .no
  |false=>exact .val _
theorem juP(hF:CFun E.C)(hz:E.nz=false)(ops:Array Oper)(σ:St)(o:Oper):Det (λR (k:St->Option R)=>BD E ops σ o k):=by
 unfold BD;split
 .split
  .exact Jt hF hz _ _ _ _
  .exact .no
 .rename_i g _
  have pj:Det (λR (k:St->Option R)=>uf (σ.chain 40 g) σ λσ' a=>match a with
    |true=>run1 E true σ' (σ.chain 40 g) o k
    |false=>k (σ'.put o.dst (.one (.one .dead)))):=by
   refine(Det.bind (Rf (σ.chain 40 g) σ) (g:=λx R k=>match x.2 with
    |true=>run1 E true x.1 (σ.chain 40 g) o k
    |false=>k (x.1.put o.dst (.one (.one .dead)))) λx=>?_).congr λR k=>rfl
   obtain⟨σ1,a⟩:=x;cases a with
   |true=>exact Jt hF hz _ _ _ _
   |false=>exact .val _
  dsimp only
  split
  .split
   .exact .cond _ (.val _) .no
   .exact pj
  .exact pj
theorem Rg(hF:CFun E.C)(hz:E.nz=false):∀(l:List Oper)(σ:St),Det (λR (k:St->Option R)=>oI E l σ k)
 |[],σ=> .val _
 |o::os,σ=>by
  simp only[oI];split
  .exact Det.bind (Jt hF hz false σ [] o) λσ'=>Rg hF hz os σ'
  .exact .no
theorem Rh(hF:CFun E.C)(hz:E.nz=false)(ops:Array Oper):∀(l:List Oper)(σ:St),Det (λR (k:St->Option R)=>zC E ops l σ k)
 |[],σ=> .val _
 |o::os,σ=>by
  simp only[zC];split
  .exact Det.bind (juP hF hz ops σ o) λσ'=>Rh hF hz ops os σ'
  .exact .no
theorem jrl(hF:CFun E.C)(hz:E.nz=false)(ops:Array Oper)(σ:St):Det (λR (k:St->Option R)=>oJ E ops σ k):=by
 unfold oJ;split
 .exact Rg hF hz _ _
 .exact Rh hF hz _ _ _
theorem Ju(hF:CFun E.C)(hz:E.nz=false)(M Ai:List Nat)(σ:St)(o:Oper):Det (λR (k:St->Option R)=>runD E M Ai σ o k):=by
 unfold runD;split
 .exact .no
 .split
  .exact .cond _ (.val _) .no
  .exact .no
 .rename_i f args mk _;refine Det.bind (f:=λR k=>E.C f args R k) (hF f args) λret=>?_;split
  .split
   .exact .val _
   .exact .no
  .exact .no
theorem jtA(hF:CFun E.C)(hz:E.nz=false)(ops:Array Oper)(M Ai:List Nat)(σ:St)(o:Oper):Det (λR (k:St->Option R)=>BG E ops M Ai σ o k):=by
 unfold BG;split
 .exact Ju hF hz _ _ _ _
 .split
  .split
   .exact .cond _ (.cond _ (Ju hF hz _ _ _ _) (.val _)) (.cond _ (.val _) (Ju hF hz _ _ _ _))
   .exact .val _
   .exact .no
  .exact .no
theorem Ri(hF:CFun E.C)(hz:E.nz=false)(ops:Array Oper)(cl:List Nat)(A:List (List Nat)):∀(l:List Oper)(i:Nat)(σ:St),Det (λR (k:St->Option R)=>zD E ops cl A l i σ k)
 |[],_,σ=> .val _
 |o::os,i,σ=>by
  simp only[zD];split
  .exact Det.bind (jtA hF hz ops _ _ σ o) λσ'=>Ri hF hz ops cl A os (i+1) σ'
  .exact .no
theorem jq0(hF:CFun E.C)(hz:E.nz=false)(ops:Array Oper)(A:List (List Nat))(σ:St):Det (λR (k:St->Option R)=>BH E ops A σ k):=by
 unfold BH;split
 .exact Ri hF hz _ _ _ _ _ _
 .exact .no
theorem FQ(hF:CFun E.C)(hz:E.nz=false)(hL:LFun E.L):∀(c:Code)(b:Nat)(σ:St),Det (λR (k:Ex×St->Option R)=>fm E b c σ λe σ'=>k (e,σ')):=by
 intro c;induction c with
 |skip=>intro b σ;exact .val _
 |region id ops draw=>
  intro b σ;cases draw with
  |true=>exact Det.bind (jq0 hF hz ops (E.dw id) σ) λσ'=> .val (Ex.normal,σ')
  |false=>exact Det.bind (jrl hF hz ops σ) λσ'=> .val (Ex.normal,σ')
 |seq x y pV pW=>
  intro b σ
  refine(Det.bind (pV b σ) (g:=λz R k=>match z.1 with
   |.normal=>fm E b y z.2 λe σ'=>k (e,σ')
   |e=>k (e,z.2)) λz=>?_).congr λR k=>by
    simp only[fm];congr 1;try (funext e σ';cases e<;>rfl)
  obtain⟨e,σ'⟩:=z;cases e with
  |normal=>exact pW b σ'
  |exit i=>exact .val _
  |ret=>exact .val _
 |cond c x y pV pW=>
  intro b σ;simp only[fm];split
  .exact .cond _ (pV b σ) (pW b σ)
  .exact .no
 |block id c ih=>
  intro b σ
  refine(Det.bind (ih id σ) (g:=λz R k=>match z.1 with
   |.exit i=>if i=id then k (.normal,z.2) else k (.exit i,z.2)
   |e=>k (e,z.2)) λz=>?_).congr λR k=>by
    simp only[fm];congr 1;try (funext e σ';cases e<;>rfl)
  obtain⟨e,σ'⟩:=z;cases e with
  |normal=>exact .val _
  |exit i=>
   dsimp only
   split
   .exact .val _
   .exact .val _
  |ret=>exact .val _
 |loop c ih=>
  intro b σ;simp only[fm];refine .cond _ .no ?_;split
  .rename_i s _;obtain⟨o,ho⟩:=hL b s;exact Det.bind (f:=λR k=>E.L b s R λe s'=>k (e,s')) ⟨o,λR k=>ho R _⟩ (g:=λz R k=>k (z.1,cS E.np (E.keepX b z.1) z.2)) λz=> .val _
  .exact .no
 |rangeFunc g ps x y _ _=>
  intro b σ;simp only[fm];split
  .split
   .rename_i kd _;split
    .rename_i s _;obtain⟨o,ho⟩:=hL b (.s (.one (.d (.int .i64) (BK kd (List.length _))))::s);exact Det.bind (f:=λR k=>E.L b _ R λe s'=>k (e,s')) ⟨o,λR k=>ho R _⟩ (g:=λz R k=>k (z.1,cS E.np (E.keepX b z.1) z.2)) λz=> .val _
    .exact .no
   .exact .no
  .exact .no
 |scope c ih=>intro b σ;exact ih b σ
 |label l=>intro b σ;exact .val _
 |exit i=>intro b σ;exact .val _
 |ret=>intro b σ;exact .val _
 |_=>intro b σ;exact .no
theorem jrm(hF:CFun E.C)(hz:E.nz=false)(hL:LFun E.L)(b:Nat)(g:Operand)(ps:Array Nat)(x y:Code)(s:Snap) :
  Det (λR (k:Option (List Item)×Ex×St->Option R)=>BN E b g ps x y s λp e σ'=>k (p,e,σ')):=by
 unfold BN;split
 .rename_i n s0;split
  .split
   .rename_i kd _;refine .cond _ (.val _) (.cond _ ?_ .no)
    refine(Det.bind (FQ (E:=E.rnd ps x y) hF hz hL x 0 _) (g:=λz R k=>match z.1 with
     |.normal=>fm (E.rnd ps x y) 0 y z.2 λe σ'=>k (some [.s (.one (.d (.int .i64) (BL kd n)))],e,σ')
     |_=>none) λz=>?_).congr λR k=>by
      congr 1
      try (funext e σ';cases e<;>rfl)
    obtain⟨e,σ'⟩:=z;cases e with
    |normal=>exact Det.bind (FQ (E:=E.rnd ps x y) hF hz hL y 0 σ') λz=> .val (_,z)
    |exit i=>exact .no
    |ret=>exact .no
   .exact .no
  .exact .no
 .exact .no
theorem jtB(hF:CFun E.C)(hz:E.nz=false)(hL:LFun E.L)(fn:Func)(args:List Arg):Det (λR (k:Ret->Option R)=>sg E fn args k):=by
 unfold sg;split
 .split
  .rename_i c _
   refine(Det.bind (FQ hF hz hL c 0 (St.init args)) (g:=λz R k=>match z.1 with
    |.exit _=>none
    |_=>match wv E fn args z.2 with
     |some r=>k r
     |none=>none) λz=>?_).congr λR k=>rfl
   obtain⟨e,σ'⟩:=z;cases e<;>dsimp only<;>(try split)<;>first|exact .no|exact .val _
  .exact .no
 .exact .no
end
end Go.Lft
