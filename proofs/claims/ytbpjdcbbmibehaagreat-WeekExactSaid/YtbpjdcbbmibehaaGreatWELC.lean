/- yC: what BV do is what the jU says. -/
import Derived.Test.YtbpjdcbbmibehaaGreatWELB
import Derived.Laws.Cover3
import Derived.RangeFuncNested
import Derived.OrdersIn
import Derived.Maps.Range
set_option linter.unusedVariables false
namespace Go.Lft
section
variable{N:NT}{np:Nat}{S0:aq}{w0:World}{refs:Refs}{σ:St}{a:Go.Act}{w:World}{S:aq}{γ:Nat->Value}
def bM(σ:St):Prop:=∀i,(σ.sl i).bare=true
theorem kL{d:Nat}(hd:d<a.tmps.size)(v:Value)(j:Nat):tm (a.put (some d) v) j=if j=d then v else tm a j:=by
 unfold tm Go.Act.put;by_cases h:j=d
 .subst h;simp[hd]
 .have h':d≠j:=λe=>h e.symm;simp[h,Array.getElem?_setIfInBounds_ne h']
theorem Hh{bx:Nat->BS}{d:Nat}(hd:d<a.tmps.size){v u:Value}{x:Slot}(h:fh S w γ bx (tm a) x u):fh S w γ bx (tm (a.put (some d) v)) (kill d x) u:=by
 cases x with
 |one c=>exact h
 |tup l=>exact h
 |und=>exact h
 |cnd s b c=>
  simp only[kill];split
  .exact⟨trivial,λh=>absurd rfl h⟩
  .rename_i aB;simp only[fh,kL hd,if_neg aB];exact h
theorem nn(dst:Option Nat)(v:Value):(a.put dst v).tmps.size=a.tmps.size:=by cases dst<;>simp[Go.Act.put]
theorem tL(dst:Option Nat)(v:Value):(a.put dst v).defers=a.defers:=by cases dst<;>rfl
theorem vQ(hR:Rel N np S0 w0 refs σ a w S γ){dst:Option Nat}(hd:∀d,dst=some d->N.ok d){s:Slot}{v:Value}(hs:fh S w γ σ.bx (tm a) s v) :
  Rel N np S0 w0 refs (σ.put dst s) (a.put dst v) w S γ:=by
 cases dst with
 |none=>exact hR
 |some d=>
  have eh:d<a.tmps.size:=by rw[hR.size];exact(hd d rfl).1
  refine⟨(nn _ _).trans hR.size,(tL _ _).trans hR.defers,λi=>?_,hR.box,hR.own,hR.apart,hR.ext,hR.new,hR.here,hR.below,hR.grow,hR.os,hR.tape,hR.output,hR.par,hR.kept,λi u h=>?_⟩
  .show fh S w γ σ.bx (tm (a.put (some d) v)) (kill d (if i=d then s else σ.sl i)) (tm (a.put (some d) v) i);rw[kL eh];split
   .exact Hh eh hs
   .exact Hh eh (hR.slot i)
  .obtain⟨h1,h2⟩:=hR.fix i u h;refine⟨h1,?_⟩;show tm (a.put (some d) v) i=u;rw[kL eh,if_neg]
   .exact h2
   .rintro rfl
    have:=(hd i rfl).2;rw[h1]at this;simp at this
theorem Hi{d:Nat}{x:Slot}(h:x.bare=true):kill d x=x:=by cases x<;>first|rfl|simp[Slot.bare]at h
theorem tM(hR:Rel N np S0 w0 refs σ a w S γ)(hc:bM σ){dst:Option Nat}(hd:∀d,dst=some d->N.ok d){s:Slot}{v:Value}(hs:fh S w γ σ.bx (tm a) s v)(hb:s.bare=true) :
  Rel N np S0 w0 refs (σ.setD dst s) (a.put dst v) w S γ/\bM (σ.setD dst s):=by
 have he:σ.setD dst s=σ.put dst s:=by
  cases dst with
  |none=>rfl
  |some d=>
   simp only[St.setD,St.setS,St.put];congr 1;funext j;split
   .exact(Hi hb).symm
   .exact(Hi (hc j)).symm
 refine⟨he▸vQ hR hd hs,λi=>?_⟩;cases dst with
 |none=>exact hc i
 |some d=>
  simp only[St.setD,St.setS];split
  .exact hb
  .exact hc i
theorem rW{o:Oper}(h:gR N o=true):∀d,o.dst=some d->N.ok d:=by
 intro d hd;simpa[gR,hd,NT.ok]using h
theorem Hj{u:Ups}(h:bM σ):bM (σ.upd u):=by
 intro i;rw[px];exact h i
theorem Np{P:Program}{E:Env}(hT:bk P E.T)(hR:Rel E.N E.np S0 w0 refs σ a w S γ){o:Oper}{e:Bool}(h:nilT E σ o=some e) :
  ∃v b,(execOp a.eval o).run P w = .ok (.value v) w/\v = .bool b/\(b=true->e=true):=by
 unfold nilT at h;split at h
 .rename_i t x y ty aS;split at h
  .rename_i el xs ti hx hy pr;split at h
   .rename_i hl;simp only[j5]at h;subst h;have ex:=gT hR x;have ey:=gT hR y;rw[hx]at ex;rw[hy]at ey;obtain⟨ad,cap,cB,hlen,_,vR,_⟩:=ex.1;have vS:a.eval x = .slice ad (List.length xs) cap:=by simpa using cB
    have B7:a.eval y = .slice none 0 0:=ey.1;obtain⟨a',aD⟩:=ya hl;obtain⟨hd,_⟩:=iF hT pr aD;refine⟨.bool ad.isNone,ad.isNone,?_,rfl,λhb=>?_⟩
    .simp only[execOp,aS,vS,B7,eqGuard,binOp];simp[run_equal_slice_nil w t ti.elem ad (List.length xs) cap hd]
    .have:ad=none:=by cases ad<;>simp_all
     have:=vR this;have:List.length xs=0:=by omega
     cases xs with
     |nil=>rfl
     |cons=>simp at this
   .simp at h
  .simp at h
 .simp at h
theorem vT{P:Program}{E:Env}(hT:bk P E.T)(hC:fW P E.C)(hR:Rel E.N E.np S0 w0 refs σ a w S γ){act:List (Nat×Bool)}(ax:lJ (tm a) act){p:Bool}
  (hc:p=false->bM σ){o:Oper}(hd:gR E.N o=true){R:Type}{k:St->Option R}{r:R}(h:run1 E p σ act o k=some r){next:Go.Act->World->Prop}{Q:Exit->Go.Act->World->Prop}
  (hn:∀σ' a' w' S' γ',Rel E.N E.np S0 w0 refs σ' a' w' S' γ'->(p=false->bM σ')->k σ'=some r->next a' w'):o.wp P a w next Q:=by
 have hd:=rW hd
 have dN:∀(u:Ups)(s:Slot)(v:Value)(w':World)(S':aq)(γ':Nat->Value),Rel E.N E.np S0 w0 refs (σ.upd u) a w' S' γ'->fh S' w' γ' (σ.upd u).bx (tm a) s v->s.bare=true->
   k (cond p ((σ.upd u).put o.dst s) ((σ.upd u).setD o.dst s))=some r->next (a.put o.dst v) w':=by
  intro u s v w' S' γ' aZ hs hb hk;cases p with
  |true=>exact hn _ _ _ _ _ (vQ aZ hd hs) (by simp) hk
  |false=>obtain⟨h1,h2⟩:=tM aZ (Hj (hc rfl)) hd hs hb;exact hn _ _ _ _ _ h1 (λ_=>h2) hk
 unfold run1 at h;split at h
 .rename_i e he
  have he:nilT E σ o=some e:=by
   cases hz:E.nz with
   |true=>rw[hz]at he;exact he
   |false=>rw[hz]at he;simp at he
  obtain⟨v,b,ai,rfl,hb⟩:=Np (P:=P) hT hR he;obtain⟨h1,h2⟩:=Lw h;unfold Oper.wp;rw[ai,Oper.upon_value];cases b with
  |true=>exact dN [] (.one (.one (.d .bool true))) (.bool true) w S γ hR ⟨rfl,λ_=>rfl⟩ rfl (h2 (hb rfl))
  |false=>exact dN [] (.one (.one (.d .bool false))) (.bool false) w S γ hR ⟨rfl,λ_=>rfl⟩ rfl h1
 split at h
 .simp at h
 .rename_i fO s u ho;cases fO with
  |false=>simp at h
  |true=>
   obtain⟨⟨v,w',S',γ',ai,aZ,hs⟩,hb⟩:=B2 hT hR ax (λ_=> .inl rfl) ho;unfold Oper.wp;rcases ai with ai|⟨ai,rfl⟩
   .rw[ai,Oper.upon_value];exact dN u s v w' S' γ' aZ hs hb h
   .rw[ai,Oper.upon_skip];exact dN u s undef w' S' γ' aZ hs hb h
 .rename_i f args mk ho;obtain⟨hf,cj⟩:=hC f args R _ r h;obtain⟨vals,ai,iS,hb⟩:=Hg hR ax (λ_=> .inl rfl) ho hf cj;unfold Oper.wp;rw[ai,Oper.upon_enter];refine iS.mono ?_
  rintro e w' ⟨ret,hk,ah⟩
  split at hk
  .rename_i s u aC;obtain⟨v,S',γ',rfl,aZ,hs⟩:=ah s u aC;exact dN u s v w' S' γ' aZ hs (hb ret s u aC) hk
  .simp at hk
theorem B8{P:Program}{E:Env}(hT:bk P E.T)(hC:fW P E.C){ops:Array Oper}(bE:bare ops=true){R:Type}{k:St->Option R}{r:R}{Q:Exit->Go.Act->World->Prop}
  (hn:∀σ' a' w' S' γ',Rel E.N E.np S0 w0 refs σ' a' w' S' γ'->bM σ'->k σ'=some r->Q .normal a' w') :
  ∀(n i:Nat)(σ:St)(a:Go.Act)(w:World)(S:aq)(γ:Nat->Value),i+n=ops.size->Rel E.N E.np S0 w0 refs σ a w S γ->bM σ->mW E (ops.toList.drop i) σ k=some r->
   wpOps P ops Q (List.range' i n) a w
 |0,i,σ,a,w,S,γ,hi,hR,hc,h=>by
  rw[jd (by simp;omega)]at h;exact hn _ _ _ _ _ hR hc h
 |n+1,i,σ,a,w,S,γ,hi,hR,hc,h=>by
  have ak:i<ops.size:=by omega
  rw[je (by simpa using ak)]at h;simp only[mW]at h;split at h
  .rename_i hd;have ho:ops[i]? = some ops[i]:=jh ak;simp only[qz,wpOps,ho];have hg:ops[i].guard=none:=by have:=ji.1 bE ops[i] (by simp);simpa using this
   have hw:Region.wanted ops[i] (yielded ops a.tmps)=true:=by simp[Region.wanted,hg]
   simp only[hw,if_true];refine .inl (vT hT hC hR (act:=[]) (λg hg=>by simp at hg) (p:=false) (λ_=>hc) (by simpa using hd) (by simpa using h) (λσ' a' w' S' γ' aZ bP hk=>?_));exact B8 hT hC bE hn n (i+1) σ' a' w' S' γ' (by omega) aZ (bP rfl) hk
  .simp at h
theorem yD{ops:Array Oper}{o:Oper}{g:Nat×Bool}(h:jW ops o=some g):Region.wanted o (yielded ops a.tmps)=true↔tm a g.1 = .bool g.2:=by
 unfold jW at h;split at h
 .simp at h
 .rename_i j wn B9;split at h
  .rename_i oj fZ;split at h
   .rename_i s hs;simp only[j5]at h;subst h;simp only[Region.wanted,B9,yielded,fZ,j4,hs,tm];cases hq:a.tmps[s]? with
    |none=>
     have:a.tmps.getD s undef=undef:=by simp[hq]
     rw[this];simp[undef]
    |some v=>
     have:a.tmps.getD s undef=v:=by simp[hq]
     rw[this];cases v<;>simp
   .simp at h
  .simp at h
theorem Ca(hR:Rel N np S0 w0 refs σ a w S γ):∀(n:Nat)(g:Nat×Bool),tm a g.1 = .bool g.2->lJ (tm a) (σ.chain n g)
 |0,g,h=>by intro x hx;simp only[St.chain,qa]at hx;subst hx;exact h
 |n+1,g,h=>by
  simp only[St.chain];have hs:=hR.slot g.1;split
  .rename_i s b c hc;rw[hc]at hs
   have h2:tm a s = .bool b:=by
    rcases hs with hs|hs
    .exact hs.1
    .have:tm a g.1=undef:=hs.2;rw[h]at this;simp[undef]at this
   intro x hx;rcases jf.1 hx with rfl|hx
   .exact h
   .exact Ca hR n (s,b) h2 x hx
  .intro x hx;simp only[qa]at hx;subst hx;exact h
theorem Nq:∀(n:Nat)(g:Nat×Bool),g∈σ.chain n g
 |0,g=>by simp[St.chain]
 |n+1,g=>by simp only[St.chain];split<;>simp
theorem Hk(hR:Rel N np S0 w0 refs σ a w S γ):∀{l:List (Nat×Bool)}{b:Bool},actB σ l=some b->lJ (tm a) l->b=true
 |[],b,h,_=>by simp[actB]at h;exact h
 |(s,wn)::r,b,h,ha=>by
  have ht:tm a s = .bool wn:=ha (s,wn) (by simp);simp only[actB]at h;split at h
  .rename_i v hv
   have Nr:v=wn:=by
    have hs:=hR.slot s;unfold gval at hv;split at hv
    .rename_i v' db;simp only[j5]at hv;subst hv;rw[db]at hs;have:tm a s = .bool v':=mY hs;rw[ht]at this;simpa using this.symm
    .rename_i s' b' v' db;simp only[j5]at hv;subst hv;rw[db]at hs;rcases hs with hs|hs
     .have:tm a s = .bool v':=mY hs.2;rw[ht]at this;simpa using this.symm
     .have:tm a s=undef:=hs.2;rw[ht]at this;simp[undef]at this
    .simp at hv
   subst Nr;split at h
   .simp only[j5]at h;rw[<-h];cases v<;>rfl
   .split at h
    .rename_i b2 cA;simp only[j5]at h;have:=Hk hR cA (λg hg=>ha g (by simp[hg]));rw[<-h,this];cases v<;>rfl
    .simp at h
  .simp at h
theorem Cb(hR:Rel N np S0 w0 refs σ a w S γ){s:Nat}{x:Slot}(h:fh S w γ σ.bx (tm a) x (tm a s)):Rel N np S0 w0 refs (σ.setS s x) a w S γ:=by
 refine⟨hR.size,hR.defers,λi=>?_,hR.box,hR.own,hR.apart,hR.ext,hR.new,hR.here,hR.below,hR.grow,hR.os,hR.tape,hR.output,hR.par,hR.kept,hR.fix⟩;simp only[St.setS];split
 .rename_i hi;subst hi;exact h
 .exact hR.slot i
theorem Hl{R:Type}:∀(l:List (Nat×Bool)){σ:St}{k:St->Bool->Option R}{r:R},Rel N np S0 w0 refs σ a w S γ->pb l σ k=some r->
  ∃σ' b,Rel N np S0 w0 refs σ' a w S γ/\k σ' b=some r/\(b=true↔lJ (tm a) l)
 |[],σ,k,r,hR,h=>⟨σ,true,hR,h,by simp[lJ]⟩
 |(s,wn)::l,σ,k,r,hR,h=>by
  simp only[pb]at h;obtain⟨σ1,b1,aJ,b9,bR⟩:=Hl l hR h;cases b1 with
  |false=>
   refine⟨σ1,false,aJ,b9,?_⟩;simp only[kb,false_iff]at bR ⊢
   exactλha=>bR (λg hg=>ha g (by simp[hg]))
  |true=>
   have lh:=bR.1 rfl;simp only at b9;split at b9
   .rename_i v hv
    have ht:tm a s = .bool v:=by
     have hs:=aJ.slot s;unfold AH at hv;split at hv
     .rename_i v' db;simp only[j5]at hv;subst hv;rw[db]at hs;exact mY hs
     .rename_i s' b' v' db;split at hv
      .rename_i hm;simp only[j5]at hv;subst hv;rw[db]at hs;have fo:(s',b')∈l:=by simpa using hm
       have:=lh _ fo;rcases hs with hs|hs
       .exact mY hs.2
       .exact absurd this hs.1
      .simp at hv
     .simp at hv
    have vU:∀b,b=v->Rel N np S0 w0 refs (σ1.setS s (.one (.one (.d .bool b)))) a w S γ:=by
     rintro b rfl
     refine Cb aJ ⟨?_,λ_=>?_⟩
     .show Rep S w .bool b [tm a s];rw[ht];rfl
     .rw[ht];rfl
    cases v with
    |true=>
     simp only[j6]at b9;refine⟨_,wn,vU true rfl,b9,?_⟩;constructor
     .rintro rfl g hg
      rcases jf.1 hg with rfl|hg
      .exact ht
      .exact lh g hg
     .intro ha;have:=ha (s,wn) (by simp);rw[ht]at this;simpa using this.symm
    |false=>
     simp only[j7]at b9;refine⟨_, !wn,vU false rfl,b9,?_⟩;constructor
     .intro hw g hg;have Cc:wn=false:=by simpa using hw
      subst Cc;rcases jf.1 hg with rfl|hg
      .exact ht
      .exact lh g hg
     .intro ha;have:=ha (s,wn) (by simp);rw[ht]at this;have:false=wn:=by simpa using this
      rw[<-this];rfl
   .simp at b9
theorem Ns{P:Program}{E:Env}(hT:bk P E.T)(hC:fW P E.C)(hR:Rel E.N E.np S0 w0 refs σ a w S γ){ops:Array Oper}{o:Oper}(hd:gR E.N o=true)
  {R:Type}{k:St->Option R}{r:R}(h:uG E ops σ o k=some r){next:Go.Act->World->Prop}{Q:Exit->Go.Act->World->Prop}
  (hn:∀σ' a' w' S' γ',Rel E.N E.np S0 w0 refs σ' a' w' S' γ'->k σ'=some r->next a' w') :
  if Region.wanted o (yielded ops a.tmps) then o.wp P a w next Q\/(o.asks P a w/\LetsOut Q) else next (a.put o.dst undef) w:=by
 have oe:=rW hd;unfold uG at h;split at h
 .split at h
  .rename_i hg;have hw:Region.wanted o (yielded ops a.tmps)=true:=by simp[Region.wanted,hg]
   simp only[hw,if_true];exact .inl (vT hT hC hR (act:=[]) (λg hg=>by simp at hg) (p:=true) (by simp) hd h (λσ' a' w' S' γ' aZ _ hk=>hn σ' a' w' S' γ' aZ hk))
  .simp at h
 .rename_i g hg;dsimp only at h;have vV:=yD (a:=a) hg
  have pU:pb (σ.chain 40 g) σ (λσ' a=>match a with
    |true=>run1 E true σ' (σ.chain 40 g) o k
    |false=>k (σ'.put o.dst (.one (.one .dead))))=some r->
    if Region.wanted o (yielded ops a.tmps) then o.wp P a w next Q\/(o.asks P a w/\LetsOut Q) else next (a.put o.dst undef) w:=by
   intro hs;obtain⟨σ',b,aZ,hk,hb⟩:=Hl _ hR hs;cases b with
   |true=>have ax:=hb.1 rfl;have hw:=vV.2 (ax g (Nq 40 g));simp only[hw,if_true];exact .inl (vT hT hC aZ ax (p:=true) (by simp) hd hk (λσ' a' w' S' γ' aZ _ hk=>hn σ' a' w' S' γ' aZ hk))
   |false=>
    have hw:¬Region.wanted o (yielded ops a.tmps)=true:=λhw=>by
     have:=hb.2 (Ca hR 40 g (vV.1 hw));simp at this
    simp only[hw];exact hn _ _ _ _ _ (vQ aZ oe (s:= .one (.one .dead)) (v:=undef) ⟨trivial,λh=>absurd rfl h⟩) hk
  split at h
  .rename_i fO c ho;split at h
   .rename_i ab eS;by_cases hw:Region.wanted o (yielded ops a.tmps)=true
    .have ax:=Ca hR 40 g (vV.1 hw);have:=Hk hR eS ax;subst this;simp only[hw,if_true];cases fO with
     |false=>simp at h
     |true=>
      simp only[ju,Bool.or_false,j6]at h;obtain⟨⟨v,w',S',γ',ai,aZ,hs⟩,hb⟩:=B2 hT hR ax (λ_=> .inl rfl) ho;have fD:=vQ aZ oe (s:= .cnd g.1 g.2 c) (v:=v) (.inl ⟨vV.1 hw,hs⟩);refine .inl ?_;unfold Oper.wp;rcases ai with ai|⟨ai,rfl⟩
      .rw[ai,Oper.upon_value];exact hn _ _ _ _ _ fD h
      .rw[ai,Oper.upon_skip];exact hn _ _ _ _ _ fD h
    .simp only[hw]
     have hk:k (σ.put o.dst (.cnd g.1 g.2 c))=some r:=by
      cases hc:(fO || !ab) with
      |true=>rw[hc]at h;exact h
      |false=>rw[hc]at h;simp at h
     exact hn _ _ _ _ _ (vQ hR oe (s:= .cnd g.1 g.2 c) (v:=undef) (.inr ⟨λhh=>hw (vV.2 hh),rfl⟩)) hk
   .exact pU h
  .exact pU h
theorem Nt(hR:Rel N np S0 w0 refs σ a w S γ):Rel N np S0 w0 refs σ.clear a w S γ/\bM σ.clear:=by
 refine⟨⟨hR.size,hR.defers,λi=>?_,hR.box,hR.own,hR.apart,hR.ext,hR.new,hR.here,hR.below,hR.grow,hR.os,hR.tape,hR.output,hR.par,hR.kept,hR.fix⟩,λi=>?_⟩
 .have:=hR.slot i;simp only[St.clear];cases hs:σ.sl i with
  |one c=>rw[hs]at this;exact this
  |tup l=>rw[hs]at this;exact this
  |und=>rw[hs]at this;exact this
  |cnd s b c=>exact⟨trivial,λh=>absurd rfl h⟩
 .simp only[St.clear];cases σ.sl i<;>rfl
theorem Hm{P:Program}{E:Env}(hT:bk P E.T)(hC:fW P E.C){ops:Array Oper}{R:Type}{k:St->Option R}{r:R}{Q:Exit->Go.Act->World->Prop}
  (hn:∀σ' a' w' S' γ',Rel E.N E.np S0 w0 refs σ' a' w' S' γ'->bM σ'->k σ'=some r->Q .normal a' w') :
  ∀(n i:Nat)(σ:St)(a:Go.Act)(w:World)(S:aq)(γ:Nat->Value),i+n=ops.size->Rel E.N E.np S0 w0 refs σ a w S γ->sV E ops (ops.toList.drop i) σ k=some r->
   wpOps P ops Q (List.range' i n) a w
 |0,i,σ,a,w,S,γ,hi,hR,h=>by
  rw[jd (by simp;omega)]at h;obtain⟨h1,h2⟩:=Nt hR;exact hn _ _ _ _ _ h1 h2 h
 |n+1,i,σ,a,w,S,γ,hi,hR,h=>by
  have ak:i<ops.size:=by omega
  rw[je (by simpa using ak)]at h;simp only[sV]at h;split at h
  .rename_i hd;have ho:ops[i]? = some ops[i]:=jh ak;simp only[qz,wpOps,ho];exact Ns hT hC hR (by simpa using hd) (by simpa using h) (λσ' a' w' S' γ' aZ hk=>Hm hT hC hn n (i+1) σ' a' w' S' γ' (by omega) aZ hk)
  .simp at h
theorem Nu{P:Program}{E:Env}(hT:bk P E.T)(hC:fW P E.C)(hR:Rel E.N E.np S0 w0 refs σ a w S γ)(hc:bM σ){ops:Array Oper}{R:Type}{k:St->Option R}{r:R}
  {Q:Exit->Go.Act->World->Prop}(hn:∀σ' a' w' S' γ',Rel E.N E.np S0 w0 refs σ' a' w' S' γ'->bM σ'->k σ'=some r->Q .normal a' w')(h:uH E ops σ k=some r) :
  wpOps P ops Q (List.range ops.size) a w:=by
 rw[List.range_eq_range'];unfold uH at h;split at h
 .rename_i hb;exact B8 hT hC hb hn ops.size 0 σ a w S γ (by omega) hR hc (by simpa using h)
 .exact Hm hT hC hn ops.size 0 σ a w S γ (by omega) hR (by simpa using h)
end
section
variable{N:NT}{np:Nat}{S0:aq}{w0:World}{refs:Refs}{σ:St}{a:Go.Act}{w:World}{S:aq}{γ:Nat->Value}
theorem Hn(hR:Rel N np S0 w0 refs σ a w S γ){k:Nat}{b b':Bx}(hk:σ.bx k = .live b)(pq:fj b b')(bq:∀bx',BxLe γ σ.bx γ bx'->cJ S w γ bx' k b') :
  Rel N np S0 w0 refs (σ.setB k (.live b')) a w S γ:=by
 have hle:BxLe γ σ.bx γ (σ.setB k (.live b')).bx:=by
  intro k' aR;by_cases h:k'=k
  .subst h;rw[cV];exact⟨by simp,rfl,λx hx=>by simp at hx;subst hx;exact⟨b,hk,pq⟩⟩
  .rw[bo σ _ h];exact⟨aR,rfl,λx hx=>⟨x,hx,.refl x⟩⟩
 have aN:∀k' x,(σ.setB k (.live b')).bx k' = .live x->∃x',σ.bx k' = .live x':=by
  intro k' x hx;by_cases h:k'=k
  .subst h;exact⟨b,hk⟩
  .rw[bo σ _ h]at hx;exact⟨x,hx⟩
 refine Rel.step (bx':=(σ.setB k (.live b')).bx) hR (.refl S w) hle ?_ ?_ ?_ hR.new hR.here hR.below hR.grow hR.os hR.tape hR.output (λg _ _ h=>⟨rfl,λk' b' al=>by obtain⟨b2,cA⟩:=aN k' b' al;exact h k' b2 cA⟩)
 .intro k' x hx;by_cases h:k'=k
  .subst h;rw[cV]at hx;simp at hx;subst hx;exact bq _ hle
  .rw[bo σ _ h]at hx;exact cJ.keep (.refl S w) hle rfl (λg hg=>⟨rfl,λ_=>Iff.rfl⟩) (hR.box k' x hx)
 .intro k' x g hx hg;obtain⟨x',kY⟩:=aN k' x hx;exact hR.own k' x' g kY hg
 .intro k1 k2 x1 x2 g aB h1 h2 hg;obtain⟨y1,Nv⟩:=aN k1 x1 h1;obtain⟨y2,Nw⟩:=aN k2 x2 h2;exact hR.apart k1 k2 y1 y2 g aB Nv Nw hg
theorem All2.set_left{α β:Type}{R:α->β->Prop}:∀{as:List α}{bs:List β},All2 R as bs->∀(i:Nat)(x:α)(b:β),bs[i]? = some b->R x b->All2 R (as.set i x) bs
 |[],[],_,i,x,b,hb,_=>by simp at hb
 |_::_,_::_,h,0,x,b,hb,hr=>by simp at hb;subst hb;exact⟨hr,h.2⟩
 |_::_,_::_,h,i+1,x,b,hb,hr=>⟨h.1,All2.set_left h.2 i x b (by simpa using hb) hr⟩
 |[],_::_,h,_,_,_,_,_=>h.elim
 |_::_,[],h,_,_,_,_,_=>h.elim
theorem Cd:∀(l:List (Loc×Ty))(σ σ':St)(S:aq),Rel N np S0 w0 refs σ a w S γ->bM σ->sZ np l σ=some σ'->∃S',Rel N np S0 w0 refs σ' a w S' γ/\bM σ'
 |[],σ,σ',S,hR,hc,h=>by simp[sZ]at h;subst h;exact⟨S,hR,hc⟩
 |(l,t)::r,σ,σ',S,hR,hc,h=>by
  simp only[sZ]at h;split at h
  .rename_i v u hv;have aF:=tK (np:=np) (σ:=σ) (rd:=mskM σ.bx) (RdR.msk λ_=> .inl rfl)
   suffices hs:∃S',Rel N np S0 w0 refs (qZ (σ.upd u) l (.d t v)) a w S' γ/\bM (qZ (σ.upd u) l (.d t v)) by
    obtain⟨S1,aJ,dK⟩:=hs;exact Cd r _ σ' S1 aJ dK h
   cases l with
   |slot i=>
    cases db:σ.sl i with
    |tup x=>simp only[fg,db]at hv;simp[fq]at hv
    |cnd x y z=>simp only[fg,db]at hv;simp[fq]at hv
    |und=>simp only[fg,db]at hv;simp[fq]at hv
    |one c=>
     cases c with
     |st ls=>simp only[fg,db]at hv;simp[fq]at hv
     |av n b xs=>simp only[fg,db]at hv;simp[fq]at hv
     |one x=>
      simp only[fg,db]at hv;have pV:=hR.slot i;rw[db]at pV;obtain⟨dV,hp⟩:=py aF hR.box hv pV.1;obtain⟨S1,aJ,bB,eA,_⟩:=jH u σ S hR dV;have aG:=hp S1 w bB eA;refine⟨S1,?_,?_⟩
      .simp only[qZ,px,db];exact Cb aJ ⟨aG,λ_=>Rep.one _ _ _ aG _ (qa.2 rfl)⟩
      .intro j;simp only[qZ,px,db,St.setS];split
       .rfl
       .exact hc j
   |cell k c=>
    have iU:fg σ (.cell k c) ≠ .dead:=λhd=>by rw[hd]at hv;simp[fq]at hv
    cases cP:σ.bx k with
    |free=>simp[fg,cP]at iU
    |gone=>simp[fg,cP]at iU
    |live b=>
     cases b with
     |lst e b xs f=>simp[fg,cP]at iU
     |arr n b xs=>simp[fg,cP]at iU
     |cell ls f=>
      cases f with
      |true=>simp[fg,cP]at iU
      |false=>
       have hl:fg σ (.cell k c)=ls.getD c .dead:=by simp[fg,cP]
       rw[hl]at hv iU;obtain⟨g,cur,e,h1,h2,h3,h4,h5,h6⟩:=hR.box k _ cP;cases hg:ls[c]? with
       |none=>simp[hg]at iU
       |some x=>
        have Nx:ls.getD c .dead=x:=by simp[hg]
        rw[Nx]at hv;obtain⟨z,hz,Ny⟩:=h3.get c x hg;obtain⟨dV,hp⟩:=py aF hR.box hv Ny;obtain⟨S1,aJ,bB,eA,cd⟩:=jH u σ S hR dV;have aG:=hp S1 w bB eA;have oA:=cd.cell cP;refine⟨S1,?_,?_⟩
        .simp only[qZ,oA];refine Hn aJ oA trivial (λbx' hle=>?_);obtain⟨g',gx,e',gV,gn,pR,Nz,NA,h6'⟩:=aJ.box k _ oA;rw[h1]at gV;simp at gV;subst gV;rw[h2]at gn;simp at gn;obtain⟨rfl,rfl⟩:=gn;exact⟨g,cur,e,h1,h2,by rw[qq];exact All2.set_left (pR.mono (λx u hx=>aL.keep (.refl S1 w) hle hx)) c (.d t v) z hz aG,by rw[qq];exact Nz,NA,by simp⟩
        .intro j;simp only[qZ,oA];show ((σ.upd u).sl j).bare=true;rw[px];exact hc j
  .simp at h
theorem vW:∀(l:List jV)(σ σ':St)(S:aq),Rel N np S0 w0 refs σ a w S γ->bM σ->pf np l σ=some σ'->∃S',Rel N np S0 w0 refs σ' a w S' γ/\bM σ'
 |[],σ,σ',S,hR,hc,h=>by simp[pf]at h;subst h;exact⟨S,hR,hc⟩
 |x::r,σ,σ',S,hR,hc,h=>by
  simp only[pf]at h;split at h
  .split at h
   .split at h
    .split at h
     .rename_i e b xs f cP;split at h
      .simp at h
      .rename_i hp;simp only[q9,not_or,Bool.not_eq_true]at hp;obtain⟨S1,aJ,_⟩:=Bi hR hp.2 cP hp.1;exact vW r _ σ' S1 aJ (λi=>hc i) h
     .simp at h
    .exact vW r σ σ' S hR hc h
   .exact vW r σ σ' S hR hc h
  .exact vW r σ σ' S hR hc h
theorem lj:∀{l:List Nat}{i j:Nat},l.idxOf? i=some j->l[j]? = some i
 |[],i,j,h=>by simp at h
 |x::l,i,j,h=>by
  rw[List.idxOf?_cons]at h;split at h
  .rename_i he;simp at h he;subst h;subst he;rfl
  .cases hq:l.idxOf? i with
   |none=>simp[hq]at h
   |some j'=>simp[hq]at h;subst h;simpa using lj hq
theorem Ce:∀{l:List Nat}{i:Nat},l.idxOf? i=none->i∉l
 |[],i,_=>by simp
 |x::l,i,h=>by
  rw[List.idxOf?_cons]at h;split at h
  .simp at h
  .rename_i he;have hq:l.idxOf? i=none:=by simpa using h
   have:=Ce hq;simp only[jf,not_or];exact⟨λe=>he (by simp[e]),this⟩
theorem Cf{e:Nat}{t:Ty}{l:Loc}{k:Option Nat}{xs:List t.den}{f:Bool}(h:sX σ e t l=some (k,xs,f)) :
  (k=none/\isM e=false/\xs=[]/\fg σ l = .nil)\/∃k0,k=some k0/\fg σ l = .ol k0/\σ.bx k0 = .live (.lst e t xs f):=by
 unfold sX at h;split at h
 .rename_i hl;split at h
  .simp at h
  .rename_i hm;simp only[j5,j9]at h;exact .inl ⟨h.1.symm,by simpa using hm,h.2.1.symm,hl⟩
 .rename_i k0 hl;split at h
  .rename_i e' t' bJ f' hb;split at h
   .rename_i v fT;split at h
    .rename_i he;simp only[j5,j9]at h;obtain⟨rfl,rfl,rfl⟩:=h;have:=gU fT;cases this;subst he;exact .inr ⟨k0,rfl,hl,hb⟩
    .simp at h
   .simp at h
  .simp at h
 .simp at h
theorem yE{e:Nat}{t:Ty}:∀{ls:List Loc}{k:Option Nat}{xs:List t.den}{f:Bool},qY σ e t ls=some (k,xs,f)->
  (∃l∈ls,sX σ e t l=some (k,xs,f))/\∀l∈ls,∃bJ f',sX σ e t l=some (k,bJ,f')
 |[],_,_,_,h=>by simp[qY]at h
 |[l],k,xs,f,h=>by
  simp only[qY]at h;exact⟨⟨l,by simp,h⟩,λl' iR=>by simp at iR;subst iR;exact⟨_,_,h⟩⟩
 |l::l2::ls,k,xs,f,h=>by
  simp only[qY]at h;split at h
  .rename_i k1 yp f1 k2 Gb f2 h1 h2;split at h
   .rename_i hk;simp only[j5,j9]at h;obtain⟨rfl,rfl,rfl⟩:=h;subst hk;obtain⟨_,ah⟩:=yE h2;refine⟨⟨l,by simp,h1⟩,λl' iR=>?_⟩;rcases jf.1 iR with rfl|iR
    .exact⟨_,_,h1⟩
    .exact ah l' iR
   .simp at h
  .simp at h
def Ho(np:Nat)(σ:St)(bs:List Nat)(x:jV)(it:Item)(src:Option Nat):Prop:=
 ∃xs f f',qY σ x.e x.a x.locs=some (src,xs,f)/\it = .b (.live (.lst x.e x.a xs f'))/\∀k0,src=some k0->f'=f/\k0∉bs/\parK np k0=false
theorem Hp{bs:List Nat}:∀{L:List jV}{is:List Item}{ks:List Nat},sY np σ bs L=some (is,ks)->
  ∃dr:List (Option Nat),ks=dr.filterMap id/\ks.Nodup/\∀(j:Nat)(x:jV),L[j]? = some x->∃it src,is[j]? = some it/\dr[j]? = some src/\Ho np σ bs x it src
 |[],is,ks,h=>by
  simp[sY]at h;obtain⟨rfl,rfl⟩:=h;exact⟨[],rfl,List.nodup_nil,λj x hx=>by simp at hx⟩
 |x::L,is,ks,h=>by
  simp only[sY]at h;split at h
  .rename_i k xs f is' AR h1 h2;obtain⟨dr,e1,e2,e3⟩:=Hp h2;split at h
   .simp only[j5,j9]at h;obtain⟨rfl,rfl⟩:=h;refine⟨none::dr,by simp[e1],e2,λj y hy=>?_⟩;cases j with
    |zero=>simp at hy;subst hy;exact⟨_,none,rfl,rfl,xs,f,x.frz,h1,rfl,by simp⟩
    |succ j=>exact e3 j y (by simpa using hy)
   .rename_i k0;split at h
    .simp at h
    .rename_i hn;simp only[q9,not_or,Bool.not_eq_true,kg,jg]at hn;simp only[j5,j9]at h;obtain⟨rfl,rfl⟩:=h;refine⟨some k0::dr,by simp[e1],q8.2 ⟨hn.1.1,e2⟩,λj y hy=>?_⟩;cases j with
     |zero=>simp at hy;subst hy;exact⟨_,some k0,rfl,rfl,xs,f,f,h1,rfl,λk1 b9=>by simp at b9;subst b9;exact⟨rfl,hn.1.2,hn.2⟩⟩
     |succ j=>exact e3 j y (by simpa using hy)
  .simp at h
theorem Hq:∀{dr:List (Option Nat)},(dr.filterMap id).Nodup->∀{j j' k:Nat},dr[j]? = some (some k)->dr[j']? = some (some k)->j=j'
 |[],_,j,_,_,h,_=>by simp at h
 |s::dr,hn,j,j',k,h,h'=>by
  have vX:∀{i:Nat},dr[i]? = some (some k)->k∈dr.filterMap id:=λhi=>z7.2 ⟨some k,js hi,rfl⟩
  have Cg:(dr.filterMap id).Nodup:=by
   cases s with
   |none=>simpa using hn
   |some y=>simp at hn;exact hn.2
  cases j with
  |zero=>
   cases j' with
   |zero=>rfl
   |succ j'=>simp at h h';subst h;simp at hn;exact absurd (by simpa using vX h') hn.1
  |succ j=>
   cases j' with
   |zero=>simp at h h';subst h';simp at hn;exact absurd (by simpa using vX h) hn.1
   |succ j'=>have:=Hq Cg (j:=j) (j':=j') (k:=k) (by simpa using h) (by simpa using h');omega
theorem Hr:∀{l:List Nat},l.Nodup->∀{i j n:Nat},l[i]? = some n->l[j]? = some n->i=j
 |[],_,i,_,_,hi,_=>by simp at hi
 |x::l,h,i,j,n,hi,hj=>by
  obtain⟨h1,h2⟩:=q8.1 h;cases i with
  |zero=>
   cases j with
   |zero=>rfl
   |succ j=>simp at hi hj;subst hi;exact absurd (js hj) h1
  |succ i=>
   cases j with
   |zero=>simp at hi hj;subst hj;exact absurd (js hi) h1
   |succ j=>rw[Hr h2 (i:=i) (j:=j) (n:=n) (by simpa using hi) (by simpa using hj)]
end
section
variable{N:NT}{np:Nat}{S0:aq}{w0:World}{refs:Refs}{σ:St}{a:Go.Act}{w:World}{S:aq}{γ:Nat->Value}
theorem NB{K:Keep}{l:Loc}{n:Nat}(h:uN K l=some n):∃(j:Nat)(x:jV),K.lists[j]? = some x/\x.name=n/\l∈x.locs:=by
 unfold uN at h;obtain⟨x,hq,hn⟩:=Option.map_eq_some_iff.1 h;have h1:=List.find?_some hq;obtain⟨j,hj⟩:=qg.1 (List.mem_of_find?_eq_some hq);exact⟨j,x,hj,hn,by simpa using h1⟩
theorem rX{K:Keep}{k:Nat}{x:BS}{b:Bx}(h:pd K k x = .live b):∃b0,x = .live b0/\fj b0 b:=by
 unfold pd at h;split at h
 .simp only[BS.live.injEq]at h;subst h;exact⟨_,rfl,trivial⟩
 .simp only[BS.live.injEq]at h;subst h;exact⟨_,rfl,.refl _⟩
 .simp only[BS.live.injEq]at h;subst h;exact⟨_,rfl,.refl _⟩
 .simp at h
theorem rY{K:Keep}{k:Nat}{x:BS}:pd K k x ≠ .free:=by
 unfold pd;split<;>simp
theorem Hs{R:Leaf->Value->Prop}{f:Leaf×Nat->Leaf}:∀{ls:List Leaf}{cs:List Value}(n:Nat),(∀(j:Nat)(x:Leaf)(u:Value),ls[j]? = some x->cs[j]? = some u->R (f (x,n+j)) u)->ls.length=cs.length->
  All2 R ((ls.zipIdx n).map f) cs
 |[],[],_,_,_=>trivial
 |x::ls,c::cs,n,h,hl=>by
  refine⟨h 0 x c rfl rfl,Hs (n+1) (λj y u hy hu=>?_) (by simpa using hl)⟩;have:=h (j+1) y u (by simpa using hy) (by simpa using hu);rwa[show n+1+j=n+(j+1) by omega]
 |[],_::_,_,_,hl=>by simp at hl
 |_::_,[],_,_,hl=>by simp at hl
theorem NC{K:Keep}{s:Snap}(hR:Rel N np S0 w0 refs σ a w S γ)(hs:AN np K σ=some s):∃γ',Rel N np S0 w0 refs (bj np K s) a w S γ'/\bM (bj np K s):=by
 unfold AN at hs;cases hL:sY np σ K.boxes K.lists with
 |none=>simp[hL]at hs
 |some p=>
 obtain⟨is,ks⟩:=p;simp only[hL]at hs;cases aM:K.ok np with
 |false=>simp[aM]at hs
 |true=>
 simp only[aM,if_true,j5]at hs;obtain⟨dr,nq,bV,vY⟩:=Hp hL;rw[nq]at bV;simp only[Keep.ok,jb]at aM;have rZ:=rH aM.1;have vN:∀(j:Nat)(x:jV),K.lists[j]? = some x->x.name∉K.boxes:=by intro j x hx;have:=ji.1 aM.2 x (js hx);simp only[jb]at this;simpa using this.1
 have pW:∀(j:Nat)(x:jV),K.lists[j]? = some x->parK np x.name=false:=by intro j x hx;have:=ji.1 aM.2 x (js hx);simp only[jb]at this;simpa using this.2
 let γ':Nat->Value:=λn=>match K.boxes.idxOf? n with
  |some _=>γ n
  |none=>match (K.lists.map (·.name)).idxOf? n with
   |some j=>match dr[j]? with
    |some (some k)=>γ k
    |_=> .slice none 0 0
   |none=>γ n
 have cP:(bj np K s).bx=λn=>match K.boxes.idxOf? n with
  |some j=>pg s[K.slots.length+j]?
  |none=>match (K.lists.map (·.name)).idxOf? n with
   |some j=>pg s[K.slots.length+K.boxes.length+j]?
   |none=>if parK np n then .gone else .free:=rfl
 have hB:∀n,n∈K.boxes->(bj np K s).bx n=pd K n (σ.bx n)/\γ' n=γ n:=by
  intro n hn;rw[cP];cases hq:K.boxes.idxOf? n with
  |none=>exact absurd hn (Ce hq)
  |some j=>have hj:=lj hq;refine⟨?_,by simp only[γ',hq]⟩;simp only[hq,<-hs];rw[k5 (by simp)];simp only[qf,Nat.add_sub_cancel_left];rw[List.getElem?_append_left (by simp;exact(jk.1 hj).1)];simp[hj,pg]
 have Ch:∀(j:Nat)(x:jV),K.lists[j]? = some x->∃it src,dr[j]? = some src/\Ho np σ K.boxes x it src/\(bj np K s).bx x.name=pg (some it)/\
   γ' x.name=(match src with|some k=>γ k|none=> .slice none 0 0):=by
  intro j x hx;obtain⟨it,src,h1,h2,h3⟩:=vY j x hx
  have pX:K.boxes.idxOf? x.name=none:=by
   cases hq:K.boxes.idxOf? x.name with
   |none=>rfl
   |some i=>exact absurd (js (lj hq)) (vN j x hx)
  have tA:(K.lists.map (·.name))[j]? = some x.name:=by simp[hx]
  cases hq:(K.lists.map (·.name)).idxOf? x.name with
  |none=>exact absurd (js tA) (Ce hq)
  |some i=>
   have hi:=Hr rZ (lj hq) tA;subst hi;refine⟨it,src,h2,h3,?_,?_⟩
   .rw[cP];simp only[pX,hq,<-hs];rw[k5 (by simp;omega),k5 (by simp;omega)];have:K.slots.length+K.boxes.length+i-(K.slots.map λi=>Item.s (xU K i (σ.sl i))).length-(K.boxes.map λk=>Item.b (pd K k (σ.bx k))).length=i:=by simp;omega
    rw[this,h1]
   .simp only[γ',pX,hq,h2];cases src<;>rfl
 have hF:∀n b,(bj np K s).bx n = .live b->n∈K.boxes\/∃(j:Nat)(x:jV),K.lists[j]? = some x/\x.name=n:=by
  intro n b hb;by_cases hn:n∈K.boxes
  .exact .inl hn
  .right;rw[cP]at hb
   have pX:K.boxes.idxOf? n=none:=by
    cases hq:K.boxes.idxOf? n with
    |none=>rfl
    |some i=>exact absurd (js (lj hq)) hn
   simp only[pX]at hb;split at hb
   .rename_i j hq;have hj:=lj hq;simp only[kn]at hj;cases hx:K.lists[j]? with
    |none=>simp[hx]at hj
    |some x=>simp[hx]at hj;exact⟨j,x,hx,hj⟩
   .split at hb<;>simp at hb
 have fV:∀(loc:Option Loc)(x:Leaf)(u:Value),aL S w γ σ.bx x u->(x ≠ .dead->One u)->(∀l,loc=some l->fg σ l=x)->
   aL S w γ' (bj np K s).bx (jF K loc x) u/\(jF K loc x ≠ .dead->One u):=by
  intro loc x u hl h1 Ci;have eE:aL S w γ' (bj np K s).bx .dead u/\(Leaf.dead ≠ .dead->One u):=⟨trivial,λh=>absurd rfl h⟩
  have fY:∀n,loc.bind (uN K)=some n->∀(hu:(x = .nil)\/∃k,x = .ol k),aL S w γ' (bj np K s).bx (.ol n) u/\(Leaf.ol n ≠ .dead->One u):=by
   intro n hn hu;cases loc with
   |none=>simp at hn
   |some l=>
    simp only[j4]at hn;have yF:=Ci l rfl;obtain⟨j,y,hy,ND,Bq⟩:=NB hn;obtain⟨it,src,_,⟨xs,f,f',fa,pY,r5⟩,r6,nr⟩:=Ch j y hy;obtain⟨_,ah⟩:=yE fa;obtain⟨bJ,f1,mf⟩:=ah l Bq;have bK:One u:=h1 (by rcases hu with rfl|⟨k,rfl⟩<;>simp);rw[ND]at r6 nr;refine⟨⟨by rw[r6,pY];simp[pg],bK,λb _=>?_⟩,λ_=>bK⟩;rw[nr];rcases Cf mf with⟨rfl,_,_,dz⟩|⟨k0,rfl,Ht,bD⟩
    .rw[yF]at dz;subst dz;exact hl
    .rw[yF]at Ht;subst Ht;exact hl.2.2 _ bD
  cases x with
  |dead=>exact eE
  |nil=>
   simp only[jF];split
   .rename_i n hn;exact fY n hn (.inl rfl)
   .exact⟨hl,h1⟩
  |d t v=>exact⟨hl,h1⟩
  |ip ls=>exact⟨hl,h1⟩
  |clo f caps=>exact⟨hl,h1⟩
  |clr f ks=>
   simp only[jF];split
   .rename_i nq;obtain⟨cv,hu,ha⟩:=hl;refine⟨⟨cv,hu,?_⟩,λ_=>h1 (by simp)⟩
    have go:∀(ks:List Nat)(zs:List Value),ks.all (λk=>K.boxes.contains k)=true->All2 (uS γ σ.bx) ks zs->All2 (uS γ' (bj np K s).bx) ks zs:=by
     intro ks;induction ks with
     |nil=>intro zs _ h;cases zs with|nil=>trivial|cons _ _=>exact h.elim
     |cons k ks ih=>
      intro zs hc h;cases zs with
      |nil=>exact h.elim
      |cons z zs=>simp only[qx,jb]at hc;obtain⟨bR,cA⟩:=hB k (by simpa using hc.1);refine⟨⟨by rw[bR];exact rY,h.1.2.1,λb hb=>?_⟩,ih zs hc.2 h.2⟩;rw[bR]at hb;obtain⟨b0,cI,_⟩:=rX hb;rw[cA];exact h.1.2.2 b0 cI
    exact go ks cv.toList nq ha
   .exact eE
  |ep k i c=>exact eE
  |s1 k=>
   simp only[jF];split
   .rename_i hk;obtain⟨bR,cA⟩:=hB k (by simpa using hk);refine⟨⟨by rw[bR];exact rY,hl.2.1,λb hb=>?_⟩,λ_=>hl.2.1⟩;rw[bR]at hb;obtain⟨b0,cI,iV⟩:=rX hb;have h3:=hl.2.2 b0 cI;rw[cA]
    cases b0<;>cases b<;>simp only[fj]at iV<;>first
     |exact iV.elim
     |exact h3.elim
     |exact h3
   .exact eE
  |tl k i=>
   simp only[jF];split
   .rename_i hk;obtain⟨bR,cA⟩:=hB k (by simpa using hk);refine⟨⟨by rw[bR];exact rY,hl.2.1,λb hb=>?_⟩,λ_=>hl.2.1⟩;rw[bR]at hb;obtain⟨b0,cI,iV⟩:=rX hb;have h3:=hl.2.2 b0 cI;rw[cA]
    cases b0<;>cases b<;>simp only[fj]at iV<;>first
     |exact iV.elim
     |exact h3.elim
     |(obtain⟨rfl,rfl,iR⟩:=iV;simp only at h3 ⊢;obtain⟨hm,h3⟩:=h3;rw[<-iR hm];exact⟨hm,h3⟩)
   .exact eE
  |hd k i=>
   simp only[jF];split
   .rename_i hk;obtain⟨bR,cA⟩:=hB k (by simpa using hk);refine⟨⟨by rw[bR];exact rY,hl.2.1,λb hb=>?_⟩,λ_=>hl.2.1⟩;rw[bR]at hb;obtain⟨b0,cI,iV⟩:=rX hb;have h3:=hl.2.2 b0 cI;rw[cA]
    cases b0<;>cases b<;>simp only[fj]at iV<;>first
     |exact iV.elim
     |exact h3.elim
     |(obtain⟨rfl,rfl,iR⟩:=iV;simp only at h3 ⊢;obtain⟨hm,h3⟩:=h3;rw[<-iR hm];exact⟨hm,h3⟩)
   .exact eE
  |ol k=>
   simp only[jF];split
   .rename_i hk;obtain⟨bR,cA⟩:=hB k (by simpa using hk);refine⟨⟨by rw[bR];exact rY,hl.2.1,λb hb=>?_⟩,λ_=>hl.2.1⟩;rw[bR]at hb;obtain⟨b0,cI,_⟩:=rX hb;rw[cA];exact hl.2.2 b0 cI
   .split
    .rename_i n hn;exact fY n hn (.inr ⟨k,rfl⟩)
    .exact eE
  |bp k c=>
   simp only[jF];split
   .rename_i hk;obtain⟨bR,cA⟩:=hB k (by simpa using hk);refine⟨⟨by rw[bR];exact rY,hl.2.1,λb hb=>?_⟩,λ_=>hl.2.1⟩;rw[bR]at hb;obtain⟨b0,cI,_⟩:=rX hb;rw[cA];exact hl.2.2 b0 cI
   .exact eE
 have dZ:∀n b,(bj np K s).bx n = .live b->(n∈K.boxes/\γ' n=γ n/\∃b0,σ.bx n = .live b0)\/(blk (γ' n)=none)\/
   ∃(j:Nat)(x:jV)(k:Nat)(b0:Bx),K.lists[j]? = some x/\x.name=n/\dr[j]? = some (some k)/\γ' n=γ k/\σ.bx k = .live b0/\k∉K.boxes/\parK np k=false:=by
  intro n b hb;rcases hF n b hb with hn|⟨j,x,hx,rfl⟩
  .obtain⟨h1,h2⟩:=hB n hn;rw[h1]at hb;obtain⟨b0,cI,_⟩:=rX hb;exact .inl ⟨hn,h2,b0,cI⟩
  .obtain⟨it,src,r5,⟨xs,f,f',fa,pY,pN⟩,r6,nr⟩:=Ch j x hx;obtain⟨⟨l,_,mf⟩,_⟩:=yE fa;rcases Cf mf with⟨rfl,_,_,_⟩|⟨k,rfl,_,bD⟩
   .exact .inr (.inl (by rw[nr];rfl))
   .obtain⟨_,h2,h3⟩:=pN k rfl;exact .inr (.inr ⟨j,x,k,_,hx,rfl,r5,nr,bD,h2,h3⟩)
 refine⟨γ',⟨hR.size,hR.defers,?_,?_,?_,?_,hR.ext,hR.new,hR.here,hR.below,hR.grow,hR.os,hR.tape,hR.output,?_,λg o h=>⟨(hR.kept g o h).1,λn b hb bD=>by
  have eT:=(hR.kept g o h).2;rcases dZ n b hb with⟨_,e,b0,cI⟩|e|⟨j,x,k,b0,_,_,_,e,cI,_⟩
  .rw[e]at bD;exact eT n b0 cI bD
  .rw[e]at bD;simp at bD
  .rw[e]at bD;exact eT k b0 cI bD⟩,hR.fix⟩,?_⟩
 ·-- slots
  intro i
  have db:(bj np K s).sl i=match K.slots.idxOf? i with
   |some j=>ra s[j]?
   |none=> .one (.one .dead):=rfl
  rw[db];cases hq:K.slots.idxOf? i with
  |none=>exact⟨trivial,λh=>absurd rfl h⟩
  |some j=>
   have hj:=lj hq;have vZ:s[j]? = some (.s (xU K i (σ.sl i))):=by rw[<-hs,List.getElem?_append_left (by simp;exact(jk.1 hj).1)];simp[hj]
   simp only[vZ,ra];have pV:=hR.slot i;show aQ S w γ' (bj np K s).bx (xU K i (σ.sl i)) _;cases lN:σ.sl i with
   |tup l=>exact⟨trivial,λh=>absurd rfl h⟩
   |cnd x y z=>exact⟨trivial,λh=>absurd rfl h⟩
   |und=>exact⟨trivial,λh=>absurd rfl h⟩
   |one c=>
    rw[lN]at pV;cases c with
    |one x=>exact fV (some (.slot i)) x _ pV.1 pV.2 (λl hl=>by simp at hl;subst hl;simp[fg,lN])
    |st ls=>
     obtain⟨cs,hu,ah,h1⟩:=pV;refine⟨cs,hu,?_,h1⟩;refine All2.map_left.2 ?_
     have:∀{ls:List Leaf}{cs:List Value},All2 (aL S w γ σ.bx) ls cs->(∀u∈cs,One u)->All2 (λx u=>aL S w γ' (bj np K s).bx (jF K none x) u) ls cs:=by
      intro ls;induction ls with
      |nil=>intro cs h _;cases cs with|nil=>trivial|cons _ _=>exact h.elim
      |cons x ls ih=>
       intro cs h h1;cases cs with
       |nil=>exact h.elim
       |cons u cs=>exact⟨(fV none x u h.1 (λ_=>h1 u (by simp)) (by simp)).1,ih h.2 (λv hv=>h1 v (by simp[hv]))⟩
     exact this ah h1
    |av n b xs=>obtain⟨cs,hu,aG⟩:=pV;exact⟨cs,hu,aG⟩
 ·-- boxes
  intro n b hb;rcases hF n b hb with hn|⟨j,x,hx,rfl⟩
  .obtain⟨h1,h2⟩:=hB n hn;rw[h1]at hb;unfold pd at hb;split at hb
   .rename_i ls frz ia;simp only[BS.live.injEq]at hb;subst hb;obtain⟨g,cur,e,q1,q2,q3,q4,q5,q6⟩:=hR.box n _ ia;have lb:(ls.zipIdx.map λx=>jF K (if frz=true then none else some (Loc.cell n x.2)) x.1).length=ls.length:=by simp
    refine⟨g,cur,e,h2.trans q1,q2,?_,by rw[lb];exact q4,q5,q6⟩;rw[lb];refine Hs 0 (λj x u hx hu=>?_) q3.length;obtain⟨u',cE,fb⟩:=q3.get j x hx;rw[hu]at cE;simp at cE;subst cE;refine(fV _ x u fb (λ_=>q4 u (js hu)) (λl hl=>?_)).1;cases frz with
    |true=>simp at hl
    |false=>simp at hl;subst hl;simp[fg,ia,hx]
   .rename_i m t xs ia;simp only[BS.live.injEq]at hb;subst hb;obtain⟨g,cur,e,q1,q2,q3,q4⟩:=hR.box n _ ia;exact⟨g,cur,e,h2.trans q1,q2,q3,q4⟩
   .rename_i e t xs frz ia;simp only[BS.live.injEq]at hb;subst hb;obtain⟨q1,q3⟩:=hR.box n _ ia;exact⟨by rw[h2];exact q1,by rw[h2];exact q3⟩
   .simp at hb
  .obtain⟨it,src,r5,⟨xs,f,f',fa,pY,pN⟩,r6,nr⟩:=Ch j x hx;obtain⟨⟨l,_,mf⟩,_⟩:=yE fa;rw[r6,pY]at hb;simp only[pg,BS.live.injEq]at hb;subst hb;rcases Cf mf with⟨rfl,bn,rfl,_⟩|⟨k,rfl,_,bD⟩
   .refine uU bn ⟨[],?_,trivial,λg hg=>?_⟩
    .rw[nr];exact⟨by simp,.inl ⟨rfl,rfl⟩⟩
    .rw[nr]at hg;simp[blk]at hg
   .obtain⟨rfl,_,_⟩:=pN k rfl;obtain⟨q1,q3⟩:=hR.box k _ bD;exact⟨by rw[nr];exact q1,by rw[nr];exact q3⟩
 ·-- own
  intro n b g hb hg;rcases dZ n b hb with⟨_,h2,b0,h3⟩|h|⟨j,x,k,b0,_,_,_,h2,h3,_,h5⟩
  .rw[h2]at hg;exact hR.own n b0 g h3 hg
  .rw[h]at hg;simp at hg
  .rw[h2]at hg;rcases hR.own k b0 g h3 hg with h|h
   .exact .inl h
   .rw[h5]at h;simp at h
 ·-- apart
  intro n n' b b' g aB hb al hg af;rcases dZ n b hb with⟨m1,h2,b0,h3⟩|h|⟨j,x,k,b0,hx,NF,hj,h2,h3,h4,_⟩
  .rw[h2]at hg;rcases dZ n' b' al with⟨_,i2,b1,i3⟩|i|⟨j',x',k',b1,_,_,_,i2,i3,i4,_⟩
   .rw[i2]at af;exact hR.apart n n' b0 b1 g aB h3 i3 hg af
   .rw[i]at af;simp at af
   .rw[i2]at af;exact hR.apart n k' b0 b1 g (by rintro rfl;exact i4 m1) h3 i3 hg af
  .rw[h]at hg;simp at hg
  .rw[h2]at hg;rcases dZ n' b' al with⟨m1,i2,b1,i3⟩|i|⟨j',x',k',b1,kY,Cj,iu,i2,i3,i4,_⟩
   .rw[i2]at af;exact hR.apart k n' b0 b1 g (by rintro rfl;exact h4 m1) h3 i3 hg af
   .rw[i]at af;simp at af
   .rw[i2]at af;by_cases aY:k=k'
    .subst aY;have:=Hq bV hj iu;subst this;rw[hx]at kY;simp at kY;subst kY;exact aB (NF.symm.trans Cj)
    .exact hR.apart k k' b0 b1 g aY h3 i3 hg af
 ·-- parameters
  intro k v hv;obtain⟨p1,p2,p3⟩:=hR.par k v hv;refine⟨p1,?_,?_⟩
  .by_cases hk:k∈K.boxes
   .rw[(hB k hk).1];exact rY
   .rw[cP]
    have pX:K.boxes.idxOf? k=none:=by
     cases hq:K.boxes.idxOf? k with
     |none=>rfl
     |some i=>exact absurd (js (lj hq)) hk
    simp only[pX];split
    .rename_i j hq;have hj:=lj hq;simp only[kn]at hj;cases hx:K.lists[j]? with
     |none=>simp[hx]at hj
     |some x=>simp[hx]at hj;have:=pW j x hx;rw[hj,p1]at this;simp at this
    .simp[p1]
  .by_cases hk:k∈K.boxes
   .rw[(hB k hk).2];exact p3
   .have pX:K.boxes.idxOf? k=none:=by
     cases hq:K.boxes.idxOf? k with
     |none=>rfl
     |some i=>exact absurd (js (lj hq)) hk
    simp only[γ',pX];split
    .rename_i j hq;have hj:=lj hq;simp only[kn]at hj;cases hx:K.lists[j]? with
     |none=>simp[hx]at hj
     |some x=>simp[hx]at hj;have:=pW j x hx;rw[hj,p1]at this;simp at this
    .exact p3
 .intro i;show ((match K.slots.idxOf? i with|some j=>ra s[j]?|none=>Slot.one (.one .dead)):Slot).bare=true;split
  .unfold ra;split<;>rfl
  .rfl
theorem nt{K:Keep}{s:Snap}(hR:Rel N np S0 w0 refs σ a w S γ)(hc:bM σ)(hs:eV np K σ=some s):∃S' γ',Rel N np S0 w0 refs (bj np K s) a w S' γ'/\bM (bj np K s):=by
 unfold eV at hs;split at hs
 .rename_i σ1 h1;split at hs
  .rename_i σ2 h2;obtain⟨S1,aJ,dK⟩:=Cd _ _ _ _ hR hc h1;obtain⟨S2,bc,gI⟩:=vW _ _ _ _ aJ dK h2;obtain⟨γ',e7,oD⟩:=NC bc hs;exact⟨S2,γ',e7,oD⟩
  .simp at hs
 .simp at hs
end
def RdLe(rd aO:Nat->BS):Prop:=∀k,rd k=aO k\/rd k = .gone
theorem RdLe.live{rd aO:Nat->BS}(h:RdLe rd aO){k:Nat}{b:Bx}(hk:rd k = .live b):aO k = .live b:=by
 rcases h k with h|h
 .rw[<-h];exact hk
 .rw[h]at hk;simp at hk
theorem RdLe.free{rd aO:Nat->BS}(h:RdLe rd aO){k:Nat}(hk:ee (rd k)=true):ee (aO k)=true:=by
 rcases h k with h|h
 .rw[<-h];exact hk
 .rw[h]at hk;simp[ee]at hk
theorem RdLe.isLive{rd aO:Nat->BS}(h:RdLe rd aO){k:Nat}(hk:isLive (rd k)=true):isLive (aO k)=true:=by
 rcases h k with h|h
 .rw[<-h];exact hk
 .rw[h]at hk;simp[Lft.isLive]at hk
theorem RdLe.rdf{rd aO:Nat->BS}(h:RdLe rd aO)(np:Nat):RdLe (λk=>if parK np k then .gone else rd k) (λk=>if parK np k then .gone else aO k):=by
 intro k;dsimp only;split
 .exact .inl rfl
 .exact h k
theorem RdLe.msk{rd aO:Nat->BS}(h:RdLe rd aO):RdLe (mskM rd) (mskM aO):=by
 intro k;rcases h k with h|h
 .left;unfold mskM;rw[h]
 .right;unfold mskM;rw[h]
theorem Ck(M:List Nat)(rd:Nat->BS):RdLe (ff M rd) rd:=by
 intro k;unfold ff;split
 .exact .inr rfl
 .exact .inl rfl
section
variable{rd aO:Nat->BS}(hle:RdLe rd aO)
include hle
theorem Hu{t:Ty}{l:Leaf}{x}(h:fq rd t l=some x):fq aO t l=some x:=by
 unfold fq at h ⊢;split at h
 .exact h
 .exact h
 .split at h
  .rename_i hk;rw[hle.live hk];exact h
  .simp at h
 .rename_i k
  have hs:∀v,s1D t (rd k)=some v->s1D t (aO k)=some v:=by
   intro v hv;rcases hle k with he|he
   .rw[<-he];exact hv
   .rw[he]at hv;unfold s1D at hv;split at hv<;>simp_all
  split at h
  .rename_i hv;rw[hs _ hv];exact h
  .simp at h
 .simp at h
theorem yG:∀(t:Ty){ls:List Leaf}{x},gath rd t ls=some x->gath aO t ls=some x:=by
 intro t;induction t with
 |unit=>intro ls x h;simpa[gath]using h
 |wrap a ih=>
  intro ls x h;simp only[gath]at h ⊢;split at h
  .rename_i hg;rw[ih hg];exact h
  .simp at h
 |pair a b rq nX=>
  intro ls x h;simp only[gath]at h ⊢;split at h
  .rename_i hg;rw[rq hg];dsimp only;split at h
   .rename_i cY;rw[nX cY];exact h
   .simp at h
  .simp at h
 |arr n a ih=>intro ls x h;simp[gath]at h
 |_=>
  intro ls x h;cases ls with
  |nil=>simp[gath]at h
  |cons l ls=>
   simp only[gath]at h ⊢;split at h
   .rename_i hl;rw[Hu hle hl];exact h
   .simp at h
theorem Cl{t:Ty}{c:Cel}{x}(h:mV rd t c=some x):mV aO t c=some x:=by
 unfold mV at h ⊢;split at h
 .split at h
  .simp at h
  .rename_i ha;simp only[ha,qi,kb];split at h
   .rename_i hg;rw[yG hle _ hg];exact h
   .simp at h
 .split at h
  .rename_i ha;simp only[ha,if_true];split at h
   .rename_i hg;rw[yG hle _ hg];exact h
   .simp at h
  .simp at h
 .exact h
theorem NG{ti:TyI}{l:Leaf}{x}(h:jX rd ti l=some x):jX aO ti l=some x:=by
 unfold jX at h ⊢;split at h
 .split at h
  .rename_i hk;rw[hle.live hk];exact h
  .rename_i hk;rw[hle.live hk];exact h
  .simp at h
 .split at h
  .rename_i hk;rw[hle.live hk];exact h
  .rename_i hk;rw[hle.live hk];exact h
  .simp at h
 .exact h
 .simp at h
theorem NH{ti:TyI}{i:Nat}{l:Leaf}{x}(h:kU rd ti i l=some x):kU aO ti i l=some x:=by
 unfold kU at h ⊢;split at h
 .split at h
  .split at h
   .rename_i hl;simp only[hle.isLive hl,if_true];exact h
   .simp at h
  .simp at h
 .split at h
  .split at h
   .rename_i hl;simp only[hle.isLive hl,if_true];exact h
   .simp at h
  .simp at h
 .exact h
 .simp at h
theorem NI{ti:TyI}{l i:Leaf}{x}(h:nJ rd ti l i=some x):nJ aO ti l i=some x:=by
 unfold nJ at h ⊢;split at h
 .split at h
  .rename_i hk;rw[hle.live hk];exact h
  .simp at h
 .exact h
 .split at h
  .rename_i hk;rw[hle.live hk];exact h
  .rename_i hk;rw[hle.live hk];exact h
  .simp at h
 .split at h
  .rename_i hk;rw[hle.live hk];exact h
  .simp at h
 .split at h
  .rename_i hk;rw[hle.live hk];exact h
  .simp at h
 .simp at h
theorem Hv(a:Ty):∀{ls:List Leaf}{x},nH rd a ls=some x->nH aO a ls=some x
 |[],_,h=>h
 |l::ls,x,h=>by
  simp only[nH]at h ⊢;split at h
  .rename_i h1 h2;rw[Hu hle h1,Hv a h2];exact h
  .simp at h
theorem NJ{t:Option Ty}{l:Leaf}{x}(h:nI rd t l=some x):nI aO t l=some x:=by
 unfold nI at h ⊢;split at h
 .split at h
  .split at h
   .rename_i hi;rw[if_pos hi];split at h
    .rename_i hk;rw[hle.live hk];exact h
    .simp at h
   .simp at h
  .simp at h
 .simp at h
theorem NK{ti:TyI}{l:Leaf}{c:Cel}(h:nI rd ti.ty l=none)(hc:jX rd ti l=some c):nI aO ti.ty l=none:=by
 unfold nI at h ⊢;split at h
 .rename_i k;split at h
  .rename_i m el aD;split at h
   .rename_i hi;rw[if_pos hi];simp only[jX]at hc;split at hc
    .rename_i ls frz hk;rw[hle.live hk];cases frz with
     |true=>rfl
     |false=>rw[hk]at h;simp at h
    .rename_i hk;rw[hle.live hk]
    .simp at hc
   .rename_i hi;rw[if_neg hi]
  .rfl
 .rfl
theorem Cm(a:Ty):∀(ps:List (Nat×Cel)){xs:List a.den}{u:Ups}{x},fN rd a xs u ps=some x->fN aO a xs u ps=some x
 |[],_,_,_,h=>h
 |(i,c)::r,xs,u,x,h=>by
  simp only[fN]at h ⊢;split at h
  .rename_i hd;rw[Cl hle hd];dsimp only;split at h
   .rename_i hi;simp only[hi,if_true];exact Cm a r h
   .simp at h
  .simp at h
theorem NL{t:Option Ty}{l:Leaf}{x}(h:lenC rd t l=some x):lenC aO t l=some x:=by
 unfold lenC at h ⊢;split at h
 .exact h
 .split at h
  .rename_i hk;rw[hle.live hk];exact h
  .simp at h
 .exact h
 .exact h
 .split at h
  .rename_i hk;rw[hle.live hk];exact h
  .simp at h
 .split at h
  .rename_i hk;rw[hle.live hk];exact h
  .simp at h
 .split at h
  .rename_i hk;rw[hle.live hk];exact h
  .simp at h
 .simp at h
theorem NM{e:Nat}{a:Ty}{s l:Leaf}{x}(h:appH rd e a s l=some x):appH aO e a s l=some x:=by
 unfold appH at h ⊢;split at h
 .split at h
  .rename_i aY;rw[if_pos aY];split at h
   .rename_i hk;rw[hle.live hk];exact h
   .simp at h
  .simp at h
 .simp at h
omit hle in
theorem NN{e e':Nat}{a a':Ty}{s l:Leaf}{x}(h:appS rd e a s=some x):appH aO e' a' s l=none:=by
 unfold appS at h;split at h
 .rfl
 .rfl
 .simp at h
omit hle in
theorem NO{fr Hw:Bool}(hf:fr=true->Hw=true){a:Ty}{n len:Nat}{ps:List (Nat×Cel)}{x}(h:one1 fr a n len ps=some x):one1 Hw a n len ps=some x:=by
 unfold one1 at h ⊢;split at h
 .split at h
  .split at h
   .rename_i hc;rw[if_pos ⟨hc.1,hc.2.1,hc.2.2.1,hf hc.2.2.2⟩];exact h
   .simp at h
  .simp at h
 .simp at h
theorem NP{rdf cS:Nat->BS}(cX:RdLe rdf cS){a:Ty}{n:Nat}{s l:Leaf}{x}(h:appN rd rdf a n s l=some x):appN aO cS a n s l=some x:=by
 unfold appN at h ⊢;split at h
 .split at h
  .rename_i hk;rw[cX.live hk];dsimp only;split at h
   .rename_i hc;rw[if_pos ⟨hc.1,hle.free hc.2⟩];exact h
   .simp at h
  .simp at h
 .simp at h
omit hle in
theorem NQ{rdf:Nat->BS}{e:Nat}{a a':Ty}{n:Nat}{s l:Leaf}{x}(h:appN rd rdf a n s l=some x):appH aO e a' s l=none:=by
 unfold appN at h;split at h
 .rfl
 .simp at h
omit hle in
theorem NR{rdf cS:Nat->BS}{a a':Ty}{n:Nat}{s l:Leaf}{x}(h:appX rdf a l=some x):appN rd cS a' n s l=none:=by
 unfold appN;split
 .unfold appX at h;simp at h
 .rfl
theorem NS{ti:TyI}{l m:Leaf}{lo hi:Option Leaf}{x}(h:sS rd ti l lo hi m=some x):sS aO ti l lo hi m=some x:=by
 unfold sS at h ⊢;split at h
 .split at h
  .rename_i hk;rw[hle.live hk];exact h
  .simp at h
 .simp at h
theorem NU{e:Nat}{a:Ty}{l:Leaf}{x}(h:appS rd e a l=some x):appS aO e a l=some x:=by
 unfold appS at h ⊢;split at h
 .split at h
  .rename_i hk;rw[hle.live hk];exact h
  .simp at h
 .exact h
 .simp at h
theorem Hx{a:Ty}{l:Leaf}{x}(h:appX rd a l=some x):appX aO a l=some x:=by
 unfold appX at h ⊢;split at h
 .split at h
  .rename_i hk;rw[hle.live hk];exact h
  .simp at h
 .exact h
 .exact h
 .split at h
  .rename_i hk;rw[hle.live hk];exact h
  .simp at h
 .simp at h
theorem NV{t:Option Ty}{l m:Leaf}{x}(h:sT rd t l m=some x):sT aO t l m=some x:=by
 unfold sT at h ⊢;split at h
 .split at h
  .rename_i hk;rw[hle.live hk];dsimp only;split at h
   .rename_i ht;rw[if_pos ht];split at h
    .rename_i hy;rw[Hx hle hy];exact h
    .simp at h
   .simp at h
  .simp at h
 .simp at h
theorem NW{t:Option Ty}{l:Leaf}{x}(h:sU rd t l=some x):sU aO t l=some x:=by
 unfold sU at h ⊢;split at h
 .split at h
  .rename_i hk;rw[hle.live hk];exact h
  .simp at h
 .simp at h
theorem yH:∀(ls:List Leaf){x},tvs rd ls=some x->tvs aO ls=some x
 |[],_,h=>h
 |l::ls,x,h=>by
  simp only[tvs]at h ⊢;split at h
  .rename_i hr;rw[yH ls hr];dsimp only;split at h
   .exact h
   .split at h
    .rename_i hk;rw[hle.live hk];exact h
    .simp at h
   .simp at h
  .simp at h
theorem Hy:∀(cs:List Cel){x},o7 rd cs=some x->o7 aO cs=some x
 |[],_,h=>h
 |c::cs,x,h=>by
  simp only[o7]at h ⊢;split at h
  .rename_i hr;rw[Hy cs hr];dsimp only;split at h
   .exact h
   .split at h
    .rename_i hk;rw[hle.live hk];dsimp only;split at h
     .rename_i ht;rw[yH hle _ ht];exact h
     .simp at h
    .simp at h
   .simp at h
  .simp at h
end
theorem NX{rd aO rdf cS:Nat->BS}(hle:RdLe rd aO)(cX:RdLe rdf cS){n:Nat}{c:Cel}{l:Leaf}{x}(h:o6 rd rdf n c l=some x):o6 aO cS n c l=some x:=by
 unfold o6 at h ⊢;split at h
 .split at h
  .rename_i hk;rw[hle.live hk];exact h
  .rename_i hk;rw[hle.live hk];exact h
  .simp at h
 .split at h
  .rename_i hk;rw[hle.live hk];dsimp only;split at h
   .split at h
    .rename_i hi;rw[if_pos hi];split at h
     .rename_i hg;rw[yG cX _ hg];exact h
     .simp at h
    .simp at h
   .simp at h
  .rename_i hk;rw[hle.live hk];dsimp only;split at h
   .split at h
    .rename_i hi;rw[if_pos hi];split at h
     .rename_i hg;rw[yG cX _ hg];exact h
     .simp at h
    .simp at h
   .simp at h
  .simp at h
 .simp at h
theorem NY{par:Nat->Bool}{rd aO:Nat->BS}(hle:RdLe rd aO){ti:TyI}{n:Nat}{l:Leaf}{lo hi:Option Leaf}{x}(h:sR par rd ti n l lo hi=some x):sR par aO ti n l lo hi=some x:=by
 unfold sR at h ⊢;split at h
 .exact h
 .split at h
  .split at h
   .rename_i hk;rw[hle.live hk];exact h
   .simp at h
  .split at h
   .rename_i hk;rw[hle.live hk];dsimp only;split at h
    .rename_i aD;rw[if_pos aD];split at h
     .split at h
      .rename_i hp;rw[if_pos hp];exact h
      .rename_i hp;rw[if_neg hp];split at h
       .rename_i hl;rw[if_pos hl];split at h
        .rename_i hf;rw[if_pos (hle.free hf)];exact h
        .simp at h
       .rename_i hl;rw[if_neg hl];exact h
     .simp at h
    .simp at h
   .simp at h
 .split at h
  .rename_i hk;rw[hle.live hk];exact h
  .simp at h
 .simp at h
theorem NZ{rd aO rdf cS:Nat->BS}(hle:RdLe rd aO)(cX:RdLe rdf cS){t:Option TyI}{mv rl:Bool}{c:Cel}{x}(h:o8 rd rdf t mv rl c=some x):o8 aO cS t mv rl c=some x:=by
 unfold o8 at h ⊢;split at h
 .split at h
  .rename_i hk;rw[hle.live hk];dsimp only;split at h
   .rename_i ht;rw[yH cX _ ht];exact h
   .simp at h
  .rename_i hk;rw[hle.live hk];dsimp only;split at h
   .rename_i ht;rw[yH cX _ ht];exact h
   .simp at h
  .simp at h
 .exact h
 .exact h
 .split at h
  .cases mv with
   |true=>
    simp only[j6]at h ⊢;split at h
    .rename_i hk;rw[cX.live hk];exact h
    .simp at h
   |false=>
    simp only[j7]at h ⊢;split at h
    .rename_i hk;rw[hle.live hk];exact h
    .simp at h
  .split at h
   .rename_i hk;rw[cX.live hk];exact h
   .simp at h
 .split at h
  .split at h
   .split at h
    .rename_i hd;rw[Cl cX hd];exact h
    .simp at h
   .simp at h
  .simp at h
theorem Cn{rd aO rdf cS:Nat->BS}(hle:RdLe rd aO)(cX:RdLe rdf cS){T:Nat->Option TyI}{mv:Bool}:∀(cs:List Cel){ts:List Nat}{ms:List Bool}{x},jY rd rdf T mv ts ms cs=some x->jY aO cS T mv ts ms cs=some x
 |[],_,_,_,h=>h
 |c::cs,ts,ms,x,h=>by
  simp only[jY]at h ⊢;split at h
  .rename_i ha;rw[NZ hle cX ha];dsimp only;split at h
   .rename_i hr;rw[Cn hle cX cs hr];exact h
   .simp at h
  .simp at h
theorem N0{rd aO rdf cS:Nat->BS}(hle:RdLe rd aO)(cX:RdLe rdf cS){n m:Nat}{us:Ups}{fs:List Bk}{os:List Out}{x}(h:mkHd rd rdf n us fs m os=some x):mkHd aO cS n us fs m os=some x:=by
 unfold mkHd at h ⊢;split at h
 .split at h
  .split at h
   .rename_i hf;simp only[jb]at hf;rw[if_pos (by simp only[jb];exact⟨hle.free hf.1,cX.isLive hf.2⟩)];exact h
   .simp at h
  .simp at h
 .simp at h
theorem Hz{rd aO rdf cS:Nat->BS}(hle:RdLe rd aO)(cX:RdLe rdf cS){n:Nat}{us:Ups}{fs:List Bk}{r:Ret}{x}(h:nK rd rdf n us fs r=some x):nK aO cS n us fs r=some x:=by
 unfold nK at h ⊢;split at h
 .exact N0 hle cX h
 .unfold uF at h ⊢;split at h
  .split at h
   .rename_i hf;simp only[jb]at hf;rw[if_pos (by simp only[jb];exact⟨hf.1,ji.2 λe he=>hle.free (ji.1 hf.2 e he)⟩)];exact h
   .simp at h
  .simp at h
 .split at h
  .split at h
   .split at h
    .rename_i hf;rw[if_pos (ji.2 λe he=>hle.free (ji.1 hf e he))];exact h
    .simp at h
   .simp at h
  .simp at h
inductive ActLe:Act->Act->Prop
 |val (fO:Bool) (s:Slot) (u:Ups):ActLe (.val fO s u) (.val fO s u)
 |call (f:Nat) (args:List Arg) (mk mk':Ret->Option (Slot×Ups)):(∀r x,mk r=some x->mk' r=some x)->ActLe (.call f args mk) (.call f args mk')
theorem ActLe.refl(x:Act):ActLe x x:=by cases x with
 |val fO s u=>exact .val fO s u
 |call f args mk=>exact .call f args mk mk λ_ _ h=>h
theorem HA{x y:Option Leaf}(h:∀z,x=some z->y=some z){r:Act}(hr:iE x=some r):iE y=some r:=by
 cases x with
 |none=>simp[iE]at hr
 |some z=>rw[h z rfl];exact hr
theorem N1{x y:Option (Bool×Leaf)}(h:∀z,x=some z->y=some z){r:Act}(hr:oChk x=some r):oChk y=some r:=by
 cases x with
 |none=>simp[oChk]at hr
 |some z=>rw[h z rfl];exact hr
theorem HB{rd aO:Nat->BS}(hle:RdLe rd aO){t:Nat}{k v:Ty}{x y:Leaf}{z}(h:mapC rd t k v x y=some z):mapC aO t k v x y=some z:=by
 unfold mapC at h ⊢;split at h
 .split at h
  .rename_i hb;simp only[hle.live hb];exact h
  .simp at h
 .simp at h
theorem HC{E:Env}{ev:Operand->Slot}{rd aO:Nat->BS}(gL:RdLe rd aO){act:List (Nat×Bool)}{o:Oper}{A:Act}(h:cp E ev rd act o=some A):∃A',cp E ev aO act o=some A'/\ActLe A A':=by
 have hle:=gL.msk;have cX:=hle.rdf E.np;have same:cp E ev aO act o=some A->∃A',cp E ev aO act o=some A'/\ActLe A A':=λh=>⟨A,h,.refl A⟩;obtain⟨dst,op,type,pos,after,guard⟩:=o;cases op
 case alloc t=>
  refine same ?_;simp only[cp]at h ⊢;split at h
  .split at h
   .rename_i hf;simp only[hle.free hf,if_true];exact h
   .simp at h
  .simp at h
 case box t x=>
  refine same ?_;simp only[cp]at h ⊢;split at h
  .rename_i hf;simp only[hle.free hf,if_true];exact h
  .simp at h
 case build t ps=>
  refine same ?_;simp only[cp]at h ⊢;split at h
  .split at h
   .split at h
    .rename_i hi;simp only[hi,if_true];exact h
    rename_i hi;rw[if_neg hi];split at h
    .rename_i hb;rw[Cm cX _ _ hb];exact h
    .simp at h
   .exact h
   .simp at h
  .simp at h
 case buildSlice t n ps=>
  refine same ?_;simp only[cp]at h ⊢;split at h
  .split at h
   .split at h
    .rename_i bR;rw[if_pos bR];exact NO hle.free h
    rename_i bR;rw[if_neg bR];split at h
    .simp at h
    .rename_i hn;simp only[hn,qi];split at h
     .rename_i hb;rw[Cm cX _ _ hb];dsimp only;split at h
      .rename_i hf;simp only[hle.free hf,if_true];exact h
      .simp at h
     .simp at h
   .simp at h
  .simp at h
 case load t x=>
  refine same ?_;simp only[cp]at h ⊢;split at h
  .split at h
   .rename_i mf;split at h
    .rename_i hg;rw[NJ hle mf];dsimp only;rw[Hv cX _ hg];exact h
    .simp at h
   .rename_i mf;cases pA:jX (mskM rd) _ (lf ((ev x).cel act)) with
    |none=>rw[pA]at h;simp[oCel]at h
    |some c=>rw[NK hle mf pA,NG hle pA];rw[pA]at h;exact h
  .simp at h
 case store t x y=>
  refine same ?_;simp only[cp]at h ⊢;split at h
  .split at h
   .rename_i hs;rw[NX hle cX hs];exact h
   .simp at h
  .simp at h
 case nilCheck x=>
  refine same ?_;simp only[cp]at h ⊢;split at h
  .split at h
   .rename_i hl;simp only[hle.isLive hl,if_true];exact h
   .simp at h
  .split at h
   .rename_i hl;simp only[hle.isLive hl,if_true];exact h
   .simp at h
  .exact h
  .simp at h
 case makeFunc fn first captured=>
  refine same ?_;cases fn with
  |func f=>
   simp only[cp]at h ⊢;split at h
   .rename_i hf;simp only[hf,if_true];split at h
    .rename_i l7;simp only[l7,if_true];exact h
    .rename_i l7;simp only[l7];split at h
     .rename_i hc;rw[Hy cX _ hc];exact h
     .simp at h
   .simp at h
  |_=>simp[cp]at h
 case fieldAddr t x i=>
  refine same ?_;simp only[cp]at h ⊢;split at h
  .exact HA (λz hz=>NH hle hz) h
  .simp at h
 case indexAddr t x i=>
  refine same ?_;simp only[cp]at h ⊢;split at h
  .exact N1 (λz hz=>NI hle hz) h
  .simp at h
 case call c=>
  simp only[cp]at h ⊢;cases hc:c.callee with
  |invoke r m=>simp[hc]at h
  |value f=>
   simp only[hc]at h ⊢;split at h
   .split at h
    .rename_i ha;rw[Cn gL cX _ ha];dsimp only;split at h
     .rename_i hb;simp only[hb,if_true];simp only[j5]at h;subst h;exact⟨_,rfl,.call _ _ _ _ λr x hx=>Hz hle cX hx⟩
     .simp at h
    .simp at h
   .split at h
    .rename_i ha;rw[Cn gL cX _ ha];dsimp only;split at h
     .rename_i hb;simp only[hb,if_true];simp only[j5]at h;subst h;exact⟨_,rfl,.call _ _ _ _ λr x hx=>Hz hle cX hx⟩
     .simp at h
    .simp at h
   .simp at h
  |builtin b=>
   simp only[hc]at h ⊢;cases b
   case len=>
    refine⟨A,?_,.refl A⟩;dsimp only at h ⊢;split at h
    .split at h
     .exact HA (λz hz=>NL hle hz) h
     .simp at h
    .simp at h
   case append=>
    refine⟨A,?_,.refl A⟩;dsimp only at h ⊢;split at h
    .split at h
     .rename_i ht;rw[if_pos ht];split at h
      .split at h
       .rename_i aD;split at h
        .rename_i hh;rw[NM hle hh];exact h
        split at h
        .rename_i hh;rw[NQ hh];dsimp only;rw[NP hle cX hh];exact h
        split at h
        .rename_i h1 h2;rw[NN h1];dsimp only;rw[NR h2,NU cX h1,Hx hle h2];dsimp only;split at h
         .rename_i hf;simp only[hle.free hf,if_true];exact h
         .simp at h
        .simp at h
       .simp at h
      .simp at h
     .simp at h
    .simp at h
   case copy=>
    refine⟨A,?_,.refl A⟩;dsimp only at h ⊢;split at h
    .split at h
     .rename_i ht;rw[if_pos ht];split at h
      .split at h
       .rename_i hq;rw[NV hle hq];exact h
       .simp at h
      .simp at h
     .simp at h
    .simp at h
   case clear=>
    refine⟨A,?_,.refl A⟩;dsimp only at h ⊢;split at h
    .split at h
     .split at h
      .rename_i hq;rw[NW hle hq];exact h
      .simp at h
     .simp at h
    .simp at h
   all_goals exact⟨A,h,.refl A⟩
 case slice t x lo hi mx=>
  refine same ?_;cases mx with
  |some m=>
   simp only[cp]at h ⊢;split at h
   .split at h
    .rename_i hq;rw[NS hle hq];exact h
    .simp at h
   .simp at h
  |none=>
   simp only[cp]at h ⊢;split at h
   .split at h
    .rename_i hq;rw[NY hle hq];exact h
    .simp at h
   .simp at h
 case makeMap t x=>
  refine same ?_;cases x with
  |some m=>simp[cp]at h
  |none=>
   simp only[cp]at h ⊢;split at h
   .split at h
    .rename_i hf;simp only[hle.free hf,if_true];exact h
    .simp at h
   .simp at h
 case lookup t x i ok=>
  refine same ?_;simp only[cp]at h ⊢;split at h
  .split at h
   .rename_i hq;rw[HB gL hq];exact h
   .simp at h
  .simp at h
 case mapUpdate t x i y=>
  refine same ?_;simp only[cp]at h ⊢;split at h
  .split at h
   .rename_i hq hd;rw[HB gL hq,Cl cX hd];exact h
   .simp at h
  .simp at h
 all_goals exact⟨A,h,.refl A⟩
section
variable{N:NT}{np:Nat}{S0:aq}{w0:World}{refs:Refs}{σ:St}{a:Go.Act}{w:World}{S:aq}{γ:Nat->Value}
def CFun(C:Nat->List Arg->(R:Type)->(Ret->Option R)->Option R):Prop:=
 ∀f args,∃o:Option Ret,∀(R:Type)(k:Ret->Option R),C f args R k=o.bind k
theorem HD{E:Env}{ev nu:Operand->Slot}{rd:Nat->BS}{act:List (Nat×Bool)}{o:Oper}(h:∀x∈o.op.operands,ev x=nu x):cp E ev rd act o=cp E nu rd act o:=by
 have pZ:∀ps:Array (Nat×Operand),(∀x∈ps.toList.map (·.2),ev x=nu x)->
   (ps.toList.map λp=>(p.1,(ev p.2).cel act))=(ps.toList.map λp=>(p.1,(nu p.2).cel act)):=λps hp=>
  List.map_congr_left λp hm=>by simp only[hp p.2 (jy.2 ⟨p,hm,rfl⟩)]
 have args:∀ps:Array Operand,(∀x∈ps,ev x=nu x)->(ps.toList.map λp=>(ev p).cel act)=(ps.toList.map λp=>(nu p).cel act):=λps hp=>
  List.map_congr_left λp hm=>by rw[hp p (by simpa using hm)]
 obtain⟨dst,op,type,pos,after,guard⟩:=o;cases op<;>simp only[Op.operands]at h<;>simp only[cp]
 case build t ps=>rw[pZ ps λx hx=>h x (by simpa using hx)]
 case buildSlice t n ps=>rw[pZ ps λx hx=>h x (by simpa using hx)]
 case makeFunc fn first captured=>
  have e:=args captured λx hx=>h x (by simp[hx]);cases fn with
  |func f=>simp only[e]
  |_=>rfl
 case call c=>
  have ha:=args c.args (λx hx=>h x (by simp[Call.operands,hx]));have iW:∀x∈c.args.toList,ev x=nu x:=λx hx=>h x (by simp[Call.operands];right;simpa using hx);simp only[ha];cases hc:c.callee with
  |value f=>have hf:ev f=nu f:=h f (by simp[Call.operands,hc]);simp only[hf]
  |invoke r m=>rfl
  |builtin b=>
   cases b<;>simp only
   case len=>
    split
    .rename_i x t dM iQ;have:=iW x (by rw[dM];simp);simp only[this]
    .rfl
   case append=>
    split
    .rename_i t t' s x iQ dM;have e1:=iW s (by rw[dM];simp);have e2:=iW x (by rw[dM];simp);simp only[e1,e2]
    .rfl
   case copy=>
    split
    .rename_i t t' s x iQ dM;have e1:=iW s (by rw[dM];simp);have e2:=iW x (by rw[dM];simp);simp only[e1,e2]
    .rfl
   case clear=>
    split
    .rename_i t x iQ dM;have e1:=iW x (by rw[dM];simp);simp only[e1]
    .rfl
 case slice t x lo hi mx=>
  have e1:=h x (by simp)
  have eo:∀y:Option Operand,(∀z,y=some z->ev z=nu z)->(y.map λx=>lf ((ev x).cel act))=(y.map λx=>lf ((nu x).cel act)):=by
   intro y hy;cases y with
   |none=>rfl
   |some z=>simp only[ki,hy z rfl]
  have e2:=eo lo (λz hz=>h z (by simp[hz]));have e3:=eo hi (λz hz=>h z (by simp[hz]));cases mx with
  |some m=>have e4:=h m (by simp);simp only[e1,e2,e3,e4]
  |none=>simp only[e1,e2,e3]
 case makeMap t x=>cases x<;>rfl
 all_goals (first|rfl|(simp_all;done))
def ShEq:BS->BS->Prop
 |.live (.cell _ _),.live (.cell _ _)=>True
 |.live (.lst e a xs _),.live (.lst e' a' bJ _)=>e=e'/\a=a'/\xs.length=bJ.length
 |.live (.arr n a _),.live (.arr n' a' _)=>n=n'/\a=a'
 |.free,.free=>True
 |.gone,.gone=>True
 |_,_=>False
theorem ShEq.refl:∀b:BS,ShEq b b
 |.live (.cell _ _)=>trivial
 |.live (.lst _ _ _ _)=>⟨rfl,rfl,rfl⟩
 |.live (.arr _ _ _)=>⟨rfl,rfl⟩
 |.free=>trivial
 |.gone=>trivial
theorem ShEq.symm{b c:BS}(h:ShEq b c):ShEq c b:=by
 cases b with
 |free=>cases c<;>simp_all[ShEq]
 |gone=>cases c<;>simp_all[ShEq]
 |live b=>
  cases c with
  |free=>cases b<;>simp[ShEq]at h
  |gone=>cases b<;>simp[ShEq]at h
  |live c=>
   cases b<;>cases c<;>simp only[ShEq]at h ⊢
   .exact⟨h.1.symm,h.2.1.symm,h.2.2.symm⟩
   .exact⟨h.1.symm,h.2.symm⟩
theorem ShEq.trans{b c d:BS}(h:ShEq b c)(h':ShEq c d):ShEq b d:=by
 cases b with
 |free=>cases c with
  |free=>exact h'
  |gone=>simp[ShEq]at h
  |live c=>cases c<;>simp[ShEq]at h
 |gone=>cases c with
  |gone=>exact h'
  |free=>simp[ShEq]at h
  |live c=>cases c<;>simp[ShEq]at h
 |live b=>cases c with
  |free=>cases b<;>simp[ShEq]at h
  |gone=>cases b<;>simp[ShEq]at h
  |live c=>cases d with
   |free=>cases c<;>simp[ShEq]at h'
   |gone=>cases c<;>simp[ShEq]at h'
   |live d=>
    cases b<;>cases c<;>simp only[ShEq]at h<;>cases d<;>simp only[ShEq]at h' ⊢
    .exact⟨h.1.trans h'.1,h.2.1.trans h'.2.1,h.2.2.trans h'.2.2⟩
    .exact⟨h.1.trans h'.1,h.2.trans h'.2⟩
theorem ShEq.mask{rd aO:Nat->BS}{M:List Nat}(h:∀k,M.contains k=false->ShEq (rd k) (aO k))(k:Nat):ShEq (ff M rd k) (ff M aO k):=by
 unfold ff;split
 .trivial
 .rename_i hc;exact h k (by simpa using hc)
theorem yI{b c:BS}(h:ShEq b c):isLive b=isLive c:=by
 cases b with
 |free=>cases c<;>simp_all[ShEq,isLive]
 |gone=>cases c<;>simp_all[ShEq,isLive]
 |live b=>cases c with
  |free=>cases b<;>simp[ShEq]at h
  |gone=>cases b<;>simp[ShEq]at h
  |live c=>rfl
theorem N2{rd aO:Nat->BS}(h:∀k,ShEq (rd k) (aO k))(ti:TyI)(l i:Leaf):nJ rd ti l i=nJ aO ti l i:=by
 unfold nJ;split
 .rename_i k _ _;have hk:=h k;generalize rd k=b at hk;generalize aO k=c at hk;cases b with
  |free=>cases c<;>simp_all[ShEq]
  |gone=>cases c<;>simp_all[ShEq]
  |live b=>cases c with
   |free=>cases b<;>simp[ShEq]at hk
   |gone=>cases b<;>simp[ShEq]at hk
   |live c=>
    cases b with
    |lst e a xs f=>cases c with
     |lst e' a' bJ f'=>simp only[ShEq]at hk;obtain⟨rfl,rfl,hl⟩:=hk;dsimp only;rw[hl]
     |cell _ _=>simp[ShEq]at hk
     |arr _ _ _=>simp[ShEq]at hk
    |cell _ _=>cases c<;>first|rfl|(simp[ShEq]at hk)
    |arr _ _ _=>cases c<;>first|rfl|(simp[ShEq]at hk)
 .rfl
 .rename_i k _ _;have hk:=h k;generalize rd k=b at hk;generalize aO k=c at hk;cases b with
  |free=>cases c<;>simp_all[ShEq]
  |gone=>cases c<;>simp_all[ShEq]
  |live b=>cases c with
   |free=>cases b<;>simp[ShEq]at hk
   |gone=>cases b<;>simp[ShEq]at hk
   |live c=>
    cases b with
    |arr n a xs=>cases c with
     |arr n' a' bJ=>simp only[ShEq]at hk;obtain⟨rfl,rfl⟩:=hk;rfl
     |cell _ _=>simp[ShEq]at hk
     |lst _ _ _ _=>simp[ShEq]at hk
    |cell _ _=>cases c<;>first|rfl|(simp[ShEq]at hk)
    |lst _ _ _ _=>cases c<;>first|rfl|(simp[ShEq]at hk)
 .rename_i k _ _ _;have hk:=h k;generalize rd k=b at hk;generalize aO k=c at hk;cases b with
  |free=>cases c<;>simp_all[ShEq]
  |gone=>cases c<;>simp_all[ShEq]
  |live b=>cases c with
   |free=>cases b<;>simp[ShEq]at hk
   |gone=>cases b<;>simp[ShEq]at hk
   |live c=>
    cases b with
    |lst e a xs f=>cases c with
     |lst e' a' bJ f'=>simp only[ShEq]at hk;obtain⟨rfl,rfl,hl⟩:=hk;dsimp only;rw[hl]
     |cell _ _=>simp[ShEq]at hk
     |arr _ _ _=>simp[ShEq]at hk
    |cell _ _=>cases c<;>first|rfl|(simp[ShEq]at hk)
    |arr _ _ _=>cases c<;>first|rfl|(simp[ShEq]at hk)
 .rename_i k _ _;have hk:=h k;generalize rd k=b at hk;generalize aO k=c at hk;cases b with
  |free=>cases c<;>simp_all[ShEq]
  |gone=>cases c<;>simp_all[ShEq]
  |live b=>cases c with
   |free=>cases b<;>simp[ShEq]at hk
   |gone=>cases b<;>simp[ShEq]at hk
   |live c=>cases b<;>cases c<;>first|rfl|(simp[ShEq]at hk)
 .rfl
theorem N3{rd aO:Nat->BS}(h:∀k,ShEq (rd k) (aO k))(ti:TyI)(i:Nat)(l:Leaf):kU rd ti i l=kU aO ti i l:=by
 unfold kU;split
 .rw[yI (h _)]
 .rw[yI (h _)]
 .rfl
 .rfl
theorem ShEq.msk{rd aO:Nat->BS}{k:Nat}(h:ShEq (rd k) (aO k)):ShEq (mskM rd k) (mskM aO k):=by
 unfold mskM;generalize rd k=a at h;generalize aO k=b at h;cases a with
 |free=>cases b<;>simp_all[ShEq]
 |gone=>cases b<;>simp_all[ShEq]
 |live a=>
  cases b with
  |free=>cases a<;>simp[ShEq]at h
  |gone=>cases a<;>simp[ShEq]at h
  |live b=>
   cases a<;>cases b<;>simp only[ShEq]at h<;>dsimp only
   .trivial
   .obtain⟨rfl,rfl,h3⟩:=h;rename_i e _ _ _ _ _;cases isM e
    .exact⟨rfl,rfl,h3⟩
    .trivial
   .exact h
theorem N4{E:Env}{ev:Operand->Slot}{rd aO:Nat->BS}{act:List (Nat×Bool)}{o:Oper}(ha:lG o=true)(h:∀k,ShEq (rd k) (aO k)):cp E ev rd act o=cp E ev aO act o:=by
 have h:∀k,ShEq (mskM rd k) (mskM aO k):=λk=>(h k).msk;obtain⟨dst,op,type,pos,after,guard⟩:=o;cases op<;>simp only[lG,kb]at ha
 .simp only[cp];split
  .rw[yI (h _)]
  .rw[yI (h _)]
  .rfl
  .rfl
 .simp only[cp];split
  .rw[N3 h]
  .rfl
 .simp only[cp];split
  .rw[N2 h]
  .rfl
theorem HE:∀(u:Ups)(σ:St),(∀e∈u,ShEq (σ.bx e.1) e.2)->∀k,ShEq (σ.bx k) ((σ.upd u).bx k)
 |[],σ,_,k=>ShEq.refl _
 |e::u,σ,h,k=>by
  have h0:∀k,ShEq (σ.bx k) ((σ.setB e.1 e.2).bx k):=by
   intro k;simp only[St.setB];split
   .rename_i hk;rw[hk];exact h e (by simp)
   .exact ShEq.refl _
  have h1:=HE u (σ.setB e.1 e.2) (λx hx=>(h0 x.1).symm.trans (h x (by simp[hx]))) k;exact(h0 k).trans h1
def UpSh(rd:Nat->BS)(u:Ups):Prop:=∀e∈u,ShEq (rd e.1) e.2/\isLive e.2=true
theorem N5{rd:Nat->BS}{t:Ty}{l:Leaf}{v:t.den}{u:Ups}(h:fq rd t l=some (v,u)):UpSh rd u:=by
 unfold fq at h;split at h
 .split at h
  .simp only[j5,j9]at h;rw[<-h.2];intro e he;simp at he
  .simp at h
 .split at h
  .simp only[j5,j9]at h;rw[<-h.2];intro e he;simp at he
  .simp at h
 .split at h
  .rename_i hk;split at h
   .simp only[j5,j9]at h;rw[<-h.2];intro e he;simp only[qa]at he;subst he;dsimp only;rw[hk];exact⟨⟨rfl,rfl,rfl⟩,rfl⟩
   .simp at h
  .simp at h
 .split at h
  .simp only[j5,j9]at h;rw[<-h.2];intro e he;simp at he
  .simp at h
 .simp at h
theorem UpSh.app{rd:Nat->BS}{u v:Ups}(h:UpSh rd u)(h':UpSh rd v):UpSh rd (u++v):=by
 intro e he;rcases jp.1 he with he|he
 .exact h e he
 .exact h' e he
theorem HF{rd:Nat->BS}:∀(t:Ty){ls:List Leaf}{v:t.den}{r:List Leaf}{u:Ups},gath rd t ls=some (v,r,u)->UpSh rd u:=by
 intro t;induction t with
 |unit=>intro ls v r u h;simp only[gath,j5,j9]at h;rw[<-h.2.2];intro e he;simp at he
 |wrap a ih=>
  intro ls v r u h;simp only[gath]at h;split at h
  .rename_i hg;simp only[j5,j9]at h;rw[<-h.2.2];exact ih hg
  .simp at h
 |pair a b rq nX=>
  intro ls v r u h;simp only[gath]at h;split at h
  .rename_i hg;split at h
   .rename_i cY;simp only[j5,j9]at h;rw[<-h.2.2];exact(rq hg).app (nX cY)
   .simp at h
  .simp at h
 |arr n a ih=>intro ls v r u h;simp[gath]at h
 |_=>
  intro ls v r u h;cases ls with
  |nil=>simp[gath]at h
  |cons l ls=>
   simp only[gath]at h;split at h
   .rename_i hl;simp only[j5,j9]at h;rw[<-h.2.2];exact N5 hl
   .simp at h
theorem N6{rd rdf:Nat->BS}(aF:RdLe rdf rd){n:Nat}{c:Cel}{l:Leaf}{u:Ups}(h:o6 rd rdf n c l=some u):UpSh rd u:=by
 have one:∀(k:Nat)(b b':Bx),rd k = .live b->ShEq (.live b) (.live b')->UpSh rd [(k,.live b')]:=by intro k b b' hk hs e he;simp only[qa]at he;subst he;exact⟨by rw[hk];exact hs,rfl⟩
 have lift:∀u,UpSh rdf u->UpSh rd u:=by
  intro u hu e he;obtain⟨h1,h2⟩:=hu e he;rcases aF e.1 with hq|hq
  .rw[hq]at h1;exact⟨h1,h2⟩
  .rw[hq]at h1;cases h3:e.2 with
   |free=>rw[h3]at h2;simp[isLive]at h2
   |gone=>rw[h3]at h2;simp[isLive]at h2
   |live b=>rw[h3]at h1;cases b<;>simp[ShEq]at h1
 unfold o6 at h;split at h
 .split at h
  .rename_i hk;split at h
   .split at h
    .simp only[j5]at h;subst h;exact one _ _ _ hk trivial
    .simp at h
   .simp at h
  .rename_i hk;split at h
   .split at h
    .split at h
     .split at h
      .simp only[j5]at h;subst h;exact one _ _ _ hk ⟨rfl,rfl⟩
      .simp at h
     .simp at h
    .simp at h
   .simp at h
  .simp at h
 .split at h
  .rename_i hk;split at h
   .split at h
    .split at h
     .rename_i hg;split at h
      .simp at h
      .simp only[j5]at h;subst h;exact(lift _ (HF _ hg)).app (one _ _ _ hk ⟨rfl,rfl,by simp⟩)
     .simp at h
    .simp at h
   .simp at h
  .rename_i hk;split at h
   .split at h
    .split at h
     .rename_i hg;split at h
      .simp at h
      .simp only[j5]at h;subst h;exact(lift _ (HF _ hg)).app (one _ _ _ hk ⟨rfl,rfl⟩)
     .simp at h
    .simp at h
   .simp at h
  .simp at h
 .simp at h
theorem N7(np:Nat)(rd:Nat->BS):RdLe (λk=>if parK np k then .gone else rd k) rd:=by
 intro k;dsimp only;split
 .exact .inr rfl
 .exact .inl rfl
theorem UpSh.le{rd aO:Nat->BS}(hle:RdLe rd aO){u:Ups}(h:UpSh rd u):UpSh aO u:=by
 intro e he;obtain⟨h1,h2⟩:=h e he;rcases hle e.1 with hq|hq
 .rw[hq]at h1;exact⟨h1,h2⟩
 .rw[hq]at h1;cases h3:e.2 with
  |free=>rw[h3]at h2;simp[isLive]at h2
  |gone=>rw[h3]at h2;simp[isLive]at h2
  |live b=>rw[h3]at h1;cases b<;>simp[ShEq]at h1
theorem N8(rd:Nat->BS):RdLe (mskM rd) rd:=λk=>F8 k
theorem N9{E:Env}{ev:Operand->Slot}{rd:Nat->BS}{act:List (Nat×Bool)}{o:Oper}(ho:nM o=true){fO:Bool}{s:Slot}{u:Ups}(h:cp E ev rd act o=some (.val fO s u)):UpSh rd u:=by
 obtain⟨dst,op,type,pos,after,guard⟩:=o;cases op<;>simp only[nM,kb]at ho;simp only[cp]at h;split at h
 .split at h
  .rename_i hs;simp only[j5,Act.val.injEq]at h;rw[<-h.2.2];exact(N6 (N7 E.np (mskM rd)) hs).le (N8 rd)
  .simp at h
 .simp at h
theorem Oa{E:Env}{ev:Operand->Slot}{rd:Nat->BS}{act:List (Nat×Bool)}{o:Oper}(ho:nM o=true){f:Nat}{args:List Arg}{mk:Ret->Option (Slot×Ups)}:cp E ev rd act o≠some (.call f args mk):=by
 obtain⟨dst,op,type,pos,after,guard⟩:=o;cases op<;>simp only[nM,kb]at ho;intro h;simp only[cp]at h;split at h
 .split at h
  .simp at h
  .simp at h
 .simp at h
theorem UpSh.unmask{rd:Nat->BS}{M:List Nat}{u:Ups}(h:UpSh (ff M rd) u):UpSh rd u:=by
 intro e he;obtain⟨h1,h2⟩:=h e he;rcases Ck M rd e.1 with hq|hq
 .rw[hq]at h1;exact⟨h1,h2⟩
 .rw[hq]at h1;cases h3:e.2 with
  |free=>rw[h3]at h2;simp[isLive]at h2
  |gone=>rw[h3]at h2;simp[isLive]at h2
  |live b=>rw[h3]at h1;cases b<;>simp[ShEq]at h1
end
section
variable{N:NT}{np:Nat}{S0:aq}{w0:World}{refs:Refs}{σ:St}{a:Go.Act}{w:World}{S:aq}{γ:Nat->Value}
inductive Bef(ops:Array Oper):Nat->Nat->Prop
 |dep {i j:Nat} {o:Oper}:ops[i]? = some o->j∈kA o->Bef ops i j
 |trans {i j k:Nat}:Bef ops i j->Bef ops j k->Bef ops i k
structure DOkR(ops:Array Oper)(A:List (List Nat)):Prop where
 lt:∀i o,ops[i]? = some o->∀j∈kA o,j<i
 addr:∀i o,ops[i]? = some o->lG o=true->∀k,k∉A.getD i []
 dst:∀i j oi oj t,ops[i]? = some oi->ops[j]? = some oj->i≠j->oj.dst=some t->oi.dst≠some t/\(t∈oi.looksAt ops->Bef ops i j\/Bef ops j i)
 box:∀i j oi oj k,ops[i]? = some oi->ops[j]? = some oj->i≠j->k∈A.getD i []->k∈A.getD j []->Bef ops i j\/Bef ops j i
theorem DOkR.bef{ops:Array Oper}{A:List (List Nat)}(h:DOkR ops A){i j:Nat}(hb:Bef ops i j):j<i:=by
 induction hb with
 |dep ho hj=>exact h.lt _ _ ho _ hj
 |trans _ _ h1 h2=>omega
def ClOk(ops:Array Oper)(cl:List Nat):Prop:=∀i j,(cl.getD i 0).testBit j=true->Bef ops i j
theorem HG{ops:Array Oper}{cls:List Nat}(hc:ClOk ops cls){i:Nat}{o:Oper}(ho:ops[i]? = some o):∀(l:List Nat)(m:Nat),(∀j∈l,j∈kA o)->(∀j,m.testBit j=true->Bef ops i j)->
  ∀j,(l.foldl (λm j=>m|||(2^j|||cls.getD j 0)) m).testBit j=true->Bef ops i j
 |[],m,_,hm,j,h=>hm j h
 |x::l,m,hl,hm,j,h=>by
  refine HG hc ho l _ (λj hj=>hl j (by simp[hj])) (λj hj=>?_) j h;simp only[Nat.testBit_or,q9,Nat.testBit_two_pow,jg]at hj;rcases hj with hj|hj|hj
  .exact hm j hj
  .subst hj;exact .dep ho (hl x (by simp))
  .exact .trans (.dep ho (hl x (by simp))) (hc x j hj)
theorem HH{ops:Array Oper}:∀(l:List Oper)(cls:List Nat),ClOk ops cls->(∀k o,l[k]? = some o->ops[cls.length+k]? = some o)->ClOk ops (uJ l cls)
 |[],cls,hc,_=>hc
 |o::os,cls,hc,hl=>by
  have ho:ops[cls.length]? = some o:=by have:=hl 0 o rfl;simpa using this
  refine HH os _ ?_ (λk x hk=>by
   have:=hl (k+1) x (by simpa using hk);rw[jn,List.length_singleton];rwa[show cls.length+1+k=cls.length+(k+1) by omega])
  intro i j cg;rcases Nat.lt_trichotomy i cls.length with hi|hi|hi
  .rw[jz,List.getElem?_append_left hi,<-jz]at cg;exact hc i j cg
  .subst hi;rw[jz,k5 (jr _),Nat.sub_self]at cg;simp only[List.getElem?_cons_zero,Option.getD_some]at cg;exact HG hc ho (kA o) 0 (λ_ h=>h) (λj h=>by simp at h) j cg
  .rw[jz,kr (by simp;omega)]at cg;simp at cg
theorem Co{ops:Array Oper}{cl:List Nat}(hc:ClOk ops cl){i j:Nat}(h:uK cl i j=true):i=j\/Bef ops i j\/Bef ops j i:=by
 simp only[uK,q9,qw]at h;rcases h with (h|h)|h
 .exact .inl h
 .exact .inr (.inl (hc i j h))
 .exact .inr (.inr (hc j i h))
theorem Ob{ops:Array Oper}{cl:List Nat}{A:List (List Nat)}(hc:ClOk ops cl)(aM:FK ops cl A=true):DOkR ops A:=by
 have hz:∀{i:Nat}{o:Oper},ops[i]? = some o->(o,i)∈ops.toList.zipIdx:=by intro i o ho;rw[qg];exact⟨i,by rw[List.getElem?_zipIdx];simp[ho]⟩
 have v7:∀i k,k∈A.getD i []->A.isEmpty=false:=by
  intro i k hk;cases A with
  |nil=>simp at hk
  |cons _ _=>rfl
 have ah:∀{i:Nat}{o:Oper},ops[i]? = some o->(∀j∈kA o,j<i)/\(A.isEmpty || !lG o||(A.getD i []).isEmpty)=true/\∀j oj,ops[j]? = some oj->xT ops cl A i o j oj=true:=by intro i o ho;have:=ji.1 aM (o,i) (hz ho);simp only[jb]at this;exact⟨λj hj=>by simpa using ji.1 this.1.1 j hj,this.1.2,λj oj fZ=>ji.1 this.2 (oj,j) (hz fZ)⟩
 refine⟨λi o ho=>(ah ho).1,λi o ho ib k hk=>?_,λi j oi oj t hi hj cg ht=>?_,λi j oi oj k hi hj cg hk aR=>?_⟩
 .have:=(ah ho).2.1;rw[v7 i k hk,ib]at this;simp only[ju,Bool.false_or,List.isEmpty_iff]at this;rw[this]at hk;simp at hk
 .have:=(ah hi).2.2 j oj hj;simp only[xT,ht,jb]at this;have h1:=this.1;simp only[q9,qw,cg,false_or,jb,bne_iff_ne,ne_eq,kf,kg,k7]at h1;refine⟨h1.1,λhm=>?_⟩;rcases h1.2 with h|h
  .exact absurd hm h
  .exact(Co hc h).resolve_left cg
 .have:=(ah hi).2.2 j oj hj;simp only[xT,jb]at this;have h2:=this.2;rw[v7 i k hk]at h2;simp only[Bool.false_or,q9]at h2;rcases h2 with h|h
  .exact(Co hc h).resolve_left cg
  .have:=ji.1 h k hk;simp only[kg,kf,k7]at this;exact absurd aR this
theorem HI{ops:Array Oper}{cl:List Nat}{A:List (List Nat)}(hc:ClOk ops cl){i:Nat}{oi:Oper}{k:Nat}(hm:(nN ops cl A i oi).contains k=false){j:Nat}{oj:Oper}(hj:ops[j]? = some oj)(hk:k∈A.getD j []) :
  i=j\/Bef ops i j\/Bef ops j i\/(lG oi=true/\nM oj=true):=by
 have hz:(oj,j)∈ops.toList.zipIdx:=by rw[qg];exact⟨j,by rw[List.getElem?_zipIdx];simp[hj]⟩
 have aB:A.isEmpty=false:=by
  cases A with
  |nil=>simp at hk
  |cons _ _=>rfl
 unfold nN at hm;rw[aB]at hm;simp only[kb,qi,kg,k7,List.mem_flatMap,not_exists,not_and]at hm;have:=hm (oj,j) hz;dsimp only at this;split at this
 .rename_i h;simp only[q9,jb]at h;rcases h with h|h
  .rcases Co hc h with h|h|h
   .exact .inl h
   .exact .inr (.inl h)
   .exact .inr (.inr (.inl h))
  .exact .inr (.inr (.inr h))
 .exact absurd hk this
inductive DStep(P:Program)(E:Env)(ops:Array Oper)(M Ai:List Nat)(o:Oper)(σ:St):St->Prop
 |skip (s:Nat) (wn v:Bool):jW ops o=some (s,wn)->σ.sl s = .one (.one (.d .bool v))->v≠wn->DStep P E ops M Ai o σ (σ.setD o.dst .und)
 |skipU (s:Nat) (wn:Bool):jW ops o=some (s,wn)->σ.sl s = .und->DStep P E ops M Ai o σ (σ.setD o.dst .und)
 |val (s:Slot) (u:Ups):(o.guard=none\/∃s wn,jW ops o=some (s,wn)/\σ.sl s = .one (.one (.d .bool wn)))->cp E σ.ev (ff M σ.bx) [] o=some (.val true s u)->(∀e∈u,e.1∈Ai)->
  DStep P E ops M Ai o σ ((σ.upd u).setD o.dst s)
 |call (f:Nat) (args:List Arg) (mk:Ret->Option (Slot×Ups)) (ret:Ret) (s:Slot) (u:Ups):(o.guard=none\/∃s wn,jW ops o=some (s,wn)/\σ.sl s = .one (.one (.d .bool wn)))->
  cp E σ.ev (ff M σ.bx) [] o=some (.call f args mk)->Fun P f->yu P f args (λr=>r=ret)->mk ret=some (s,u)->(∀e∈u,e.1∈Ai)->DStep P E ops M Ai o σ ((σ.upd u).setD o.dst s)
theorem HJ{s:Nat}{x:Slot}(h:σ.sl s=x):σ.setS s x=σ:=by
 unfold St.setS
 have:(λj=>if j=s then x else σ.sl j)=σ.sl:=by
  funext j
  split
  .rename_i hj;subst hj;exact h.symm
  .rfl
 rw[this]
theorem HK{u:Ups}{Ai:List Nat}(h:(u.all λe=>Ai.contains e.1)=true):∀e∈u,e.1∈Ai:=λe he=>by simpa using ji.1 h e he
theorem Cp{P:Program}{E:Env}(hC:fW P E.C)(hF:CFun E.C){ops:Array Oper}{M Ai:List Nat}{o:Oper}{R:Type}{k:St->Option R}{r:R}
  (hg:o.guard=none\/∃s wn,jW ops o=some (s,wn)/\σ.sl s = .one (.one (.d .bool wn)))(h:runD E M Ai σ o k=some r):∃σ',DStep P E ops M Ai o σ σ'/\k σ'=some r:=by
 unfold runD at h;split at h
 .simp at h
 .rename_i fO s u ho;split at h
  .rename_i hb;cases fO with
   |false=>simp at h
   |true=>exact⟨_,.val s u hg ho (HK hb),h⟩
  .simp at h
 .rename_i f args mk ho;obtain⟨x,hx⟩:=hF f args;rw[hx]at h;cases x with
  |none=>simp at h
  |some ret=>
   simp only[j4]at h;obtain⟨hf,cj⟩:=hC f args Ret some ret (by rw[hx];rfl);split at h
   .rename_i s u aC;split at h
    .rename_i hb
     exact⟨_,.call f args mk ret s u hg ho hf (by
      intro w S vals ha hn hS;refine(cj w S vals ha hn hS).mono ?_
      rintro e w' ⟨r',lS,rest⟩
      exact⟨r',by simpa using lS,rest⟩) aC (HK hb),h⟩
    .simp at h
   .simp at h
theorem Oc{P:Program}{E:Env}(hC:fW P E.C)(hF:CFun E.C){ops:Array Oper}{M Ai:List Nat}{o:Oper}{R:Type}{k:St->Option R}{r:R}
  (h:uL E ops M Ai σ o k=some r):∃σ',DStep P E ops M Ai o σ σ'/\k σ'=some r:=by
 unfold uL at h;split at h
 .rename_i hg;exact Cp hC hF (.inl hg) h
 .split at h
  .rename_i s wn hg;split at h
   .rename_i v hv;cases v with
    |true=>
     rw[j6,HJ hv]at h;cases wn with
     |true=>exact Cp hC hF (.inr ⟨s,true,hg,hv⟩) h
     |false=>exact⟨_,.skip s false true hg hv (by simp),h⟩
    |false=>
     rw[j7,HJ hv]at h;cases wn with
     |false=>exact Cp hC hF (.inr ⟨s,false,hg,hv⟩) h
     |true=>exact⟨_,.skip s true false hg hv (by simp),h⟩
   .rename_i hv;exact⟨_,.skipU s wn hg hv,h⟩
   .simp at h
  .simp at h
theorem HM{P:Program}{E:Env}(hC:fW P E.C)(hF:CFun E.C){ops:Array Oper}{cl:List Nat}{A:List (List Nat)}{R:Type}{k:St->Option R}{r:R}:∀(n i:Nat)(σ:St),i+n=ops.size->sW E ops cl A (ops.toList.drop i) i σ k=some r->
  ∃τ:Nat->St,τ i=σ/\k (τ ops.size)=some r/\∀j o,i<=j->ops[j]? = some o->gR E.N o=true/\DStep P E ops (nN ops cl A j o) (A.getD j []) o (τ j) (τ (j+1))
 |0,i,σ,hi,h=>by
  rw[jd (by simp;omega)]at h;refine⟨λ_=>σ,rfl,h,λj o hj ho=>?_⟩;have:=(jc.1 ho).1;omega
 |n+1,i,σ,hi,h=>by
  have ak:i<ops.size:=by omega
  rw[je (by simpa using ak)]at h;simp only[sW]at h;split at h
  .rename_i hd;obtain⟨σ1,hs,hk⟩:=Oc (P:=P) hC hF h;obtain⟨τ1,h1,h2,h3⟩:=HM hC hF n (i+1) σ1 (by omega) hk;refine⟨λj=>if j=i then σ else τ1 j,by simp,?_,λj o hj ho=>?_⟩
   .simp only[show ops.size≠i by omega,qi];exact h2
   .by_cases lk:j=i
    .subst lk;have r7:ops[j]? = some ops[j]:=jh ak;rw[r7]at ho;simp only[j5]at ho;subst ho;refine⟨by simpa using hd,?_⟩;simp only[if_true,show j+1≠j by omega,qi,h1];simpa using hs
    .simp only[lk,qi,show j+1≠i by omega];exact h3 j o (by omega) ho
  .simp at h
theorem Rel.drawn(hR:Rel N np S0 w0 refs σ a w S γ)(n:Nat):Rel N np S0 w0 refs σ a { w with drawn:=n } S γ:=
 Rel.step (bx':=σ.bx) (γ':=γ) hR (λ_ _ h=>⟨h,rfl⟩) (.refl _ _) (λk b hb=>cJ.keep (w:=w) (w':={ w with drawn:=n }) (λ_ _ h=>⟨h,rfl⟩) (.refl _ _) rfl (λ_ _=>⟨rfl,λ_=>Iff.rfl⟩) (hR.box k b hb))
  hR.own hR.apart hR.new hR.here hR.below hR.grow hR.os hR.tape hR.output (λ_ _ _ h=>⟨rfl,h⟩)
theorem D_wp{P:Program}{E:Env}(hT:bk P E.T)(hR:Rel E.N E.np S0 w0 refs σ a w S γ)(hc:bM σ){ops:Array Oper}{M Ai:List Nat}{i:Nat}{o:Oper}(ho:ops[i]? = some o)(hd:gR E.N o=true)
  {τ τ':St}(hs:DStep P E ops M Ai o τ τ')(cP:(∀k,ff M σ.bx k=ff M τ.bx k)\/(lG o=true/\∀k,ShEq (ff M σ.bx k) (ff M τ.bx k)))(mi:∀t,t∈o.looksAt ops->σ.sl t=τ.sl t){K:Go.Act->World->Prop}{Q:Exit->Go.Act->World->Prop}
  (hK:∀(s:Slot)(u:Ups)(a':Go.Act)(w':World)(S':aq)(γ':Nat->Value),τ'=(τ.upd u).setD o.dst s->(∀e∈u,e.1∈Ai)->Rel E.N E.np S0 w0 refs ((σ.upd u).setD o.dst s) a' w' S' γ'->bM ((σ.upd u).setD o.dst s)->K a' w') :
  wpOp P ops Q i K a w:=by
 have oe:=rW hd
 have ll:∀x∈o.op.operands,σ.ev x=τ.ev x:=by
  intro x hx;cases x with
  |tmp t=>exact mi t (k6 _ (z7.2 ⟨.tmp t,by simpa using hx,rfl⟩))
  |_=>rfl
 have nb:∀s wn,jW ops o=some (s,wn)->s∈o.looksAt ops:=by
  intro s wn hg;refine jx _ ?_;unfold jW at hg;split at hg
  .simp at hg
  .rename_i j w' B9;split at hg
   .rename_i oj fZ;split at hg
    .rename_i s' cW;simp only[j5,j9]at hg;simp[B9,fZ,cW,hg.1]
    .simp at hg
   .simp at hg
 have oE:∀s v,jW ops o≠none->s∈o.looksAt ops->τ.sl s = .one (.one (.d .bool v))->tm a s = .bool v:=by intro s v _ hm hv;have:=hR.slot s;rw[mi s hm,hv]at this;exact mY this
 have ax:cp E σ.ev (ff M σ.bx) [] o=cp E τ.ev (ff M τ.bx) [] o:=by
  rcases cP with cP|⟨ib,cP⟩
  .rw[show ff M σ.bx=ff M τ.bx from funext cP];exact HD ll
  .rw[N4 ib cP];exact HD ll
 have dN:∀(s:Slot)(u:Ups)(v:Value)(w':World)(S':aq)(γ':Nat->Value),τ'=(τ.upd u).setD o.dst s->(∀e∈u,e.1∈Ai)->Rel E.N E.np S0 w0 refs (σ.upd u) a w' S' γ'->
   fh S' w' γ' (σ.upd u).bx (tm a) s v->s.bare=true->K (a.put o.dst v) w':=by
  intro s u v w' S' γ' he hb aZ cW bE;obtain⟨h1,h2⟩:=tM aZ (Hj hc) oe cW bE;exact hK s u _ w' S' γ' he hb h1 h2
 have p7:(o.guard=none\/∃s wn,jW ops o=some (s,wn)/\τ.sl s = .one (.one (.d .bool wn)))->Region.wanted o (yielded ops a.tmps)=true:=by
  rintro (hg|⟨s,wn,hg,hv⟩)
  .simp[Region.wanted,hg]
  .exact(yD hg).2 (oE s wn (by rw[hg];simp) (nb s wn hg) hv)
 unfold wpOp;simp only[ho];cases hs with
 |skip s wn v hg hv aB=>
  have hw:¬Region.wanted o (yielded ops a.tmps)=true:=λhw=>by
   have h1:=(yD hg).1 hw;rw[oE s v (by rw[hg];simp) (nb s wn hg) hv]at h1;exact aB (by simpa using h1)
  simp only[hw,qi,kb];exact dN .und [] undef w S γ rfl (by simp) hR rfl rfl
 |skipU s wn hg hv=>
  have hu:tm a s=undef:=by have:=hR.slot s;rw[mi s (nb s wn hg),hv]at this;exact this
  have hw:¬Region.wanted o (yielded ops a.tmps)=true:=λhw=>by
   have h1:=(yD hg).1 hw;rw[hu]at h1;simp[undef]at h1
  simp only[hw,qi,kb];exact dN .und [] undef w S γ rfl (by simp) hR rfl rfl
 |val s u hg aS hb=>
  simp only[p7 hg,if_true];rw[<-ax]at aS;obtain⟨A',r8,hle⟩:=HC (Ck M σ.bx) aS;cases hle;obtain⟨⟨v,w',S',γ',ai,aZ,cW⟩,bE⟩:=B2 hT hR (act:=[]) (λg hg=>by simp at hg) (λ_=> .inl rfl) r8;refine .inl ?_;unfold Oper.wp;rcases ai with ai|⟨ai,rfl⟩
  .rw[ai,Oper.upon_value];exact dN s u v w' S' γ' rfl hb aZ cW bE
  .rw[ai,Oper.upon_skip];exact dN s u undef w' S' γ' rfl hb aZ cW bE
 |call f args mk ret s u hg aS hf cj aC hb=>
  simp only[p7 hg,if_true];rw[<-ax]at aS;obtain⟨A',r8,hle⟩:=HC (Ck M σ.bx) aS;cases hle with
  |call _ _ _ mk' v8=>
   have wa:=v8 _ _ aC;obtain⟨vals,ai,iS,bE⟩:=Hg hR (act:=[]) (λg hg=>by simp at hg) (λ_=> .inl rfl) r8 hf cj;refine .inl ?_;unfold Oper.wp;rw[ai,Oper.upon_enter];refine iS.mono ?_
   rintro e w' ⟨Od,rfl,ah⟩
   obtain⟨v,S',γ',rfl,aZ,cW⟩:=ah s u wa;exact dN s u v w' S' γ' rfl hb aZ cW (bE _ s u wa)
end
section
variable{S0:aq}{w0:World}{refs:Refs}{σ:St}{a:Go.Act}{w:World}{S:aq}{γ:Nat->Value}
theorem Cq{o:Oper}{j:Nat}:j∈kA o↔∃e∈o.after,Region.binds .any e=true/\e.on=j:=by
 simp only[kA,z7];constructor
 .rintro⟨e,he,h⟩
  split at h
  .rename_i hb;simp only[j5]at h;exact⟨e,by simpa using he,hb,h⟩
  .simp at h
 .rintro⟨e,he,hb,h⟩
  exact⟨e,by simpa using he,by simp[hb,h]⟩
theorem Oe{ops:Array Oper}{ag:Array Bool}{i:Nat}(h:i∈Region.ready .any ops ag) :
  ag.getD i true=false/\∃o,ops[i]? = some o/\∀j∈kA o,ag.getD j false=true:=by
 obtain⟨h0,o,ho,h1⟩:=mem_ready.1 h;exact⟨h0,o,ho,λj hj=>by obtain⟨e,he,hb,rfl⟩:=Cq.1 hj;exact h1 e he hb⟩
def oF(P:Program)(E:Env)(ops:Array Oper)(cl:List Nat)(A:List (List Nat))(τ:Nat->St):Prop:=
 ∀j o,ops[j]? = some o->gR E.N o=true/\DStep P E ops (nN ops cl A j o) (A.getD j []) o (τ j) (τ (j+1))
theorem yJ:∀(u:Ups)(σ:St)(t:Nat),(σ.upd u).sl t=σ.sl t
 |[],_,_=>rfl
 |e::u,σ,t=>yJ u (σ.setB e.1 e.2) t
theorem r9(σ:St)(d:Option Nat)(s:Slot):(σ.setD d s).bx=σ.bx:=by cases d<;>rfl
theorem Cr{σ:St}{d:Option Nat}{s:Slot}{t:Nat}(h:d≠some t):(σ.setD d s).sl t=σ.sl t:=by
 cases d with
 |none=>rfl
 |some d=>have:t≠d:=λe=>h (by rw[e]);simp[St.setD,St.setS,this]
theorem HN{σ:St}{s:Slot}{t:Nat}:(σ.setD (some t) s).sl t=s:=by simp[St.setD,St.setS]
theorem yK:∀(u:Ups)(σ:St)(k:Nat),(∀e∈u,e.1≠k)->(σ.upd u).bx k=σ.bx k
 |[],_,_,_=>rfl
 |e::u,σ,k,h=>by
  have h1:=yK u (σ.setB e.1 e.2) k (λx hx=>h x (by simp[hx]));show ((σ.setB e.1 e.2).upd u).bx k=_;rw[h1];have:=h e (by simp);have aB:¬k=e.1:=λhk=>this hk.symm;simp[St.setB,aB]
theorem HO:∀(u:Ups)(σ τ:St)(k:Nat),σ.bx k=τ.bx k->(σ.upd u).bx k=(τ.upd u).bx k
 |[],_,_,_,h=>h
 |e::u,σ,τ,k,h=>by
  refine HO u (σ.setB e.1 e.2) (τ.setB e.1 e.2) k ?_;simp only[St.setB];split
  .rfl
  .exact h
section
variable{P:Program}{E:Env}{ops:Array Oper}{cl:List Nat}{A:List (List Nat)}{τ:Nat->St}
theorem Cs(h:oF P E ops cl A τ){j:Nat}{o:Oper}(ho:ops[j]? = some o):∃s u,τ (j+1)=((τ j).upd u).setD o.dst s/\(∀e∈u,e.1∈A.getD j [])/\(nM o=true->∀k,ShEq ((τ j).bx k) ((τ (j+1)).bx k)):=by
 obtain⟨_,hs⟩:=h j o ho;generalize hq:τ (j+1)=σ' at hs;cases hs with
 |skip s wn v hg hv aB=>exact⟨.und,[],rfl,by simp,λ_ k=>by rw[r9];exact ShEq.refl _⟩
 |skipU s wn hg hv=>exact⟨.und,[],rfl,by simp,λ_ k=>by rw[r9];exact ShEq.refl _⟩
 |val s u hg aS hb=>exact⟨s,u,rfl,hb,λaj k=>by
  rw[r9];exact HE u (τ j) (λe he=>((N9 aj aS).unmask e he).1) k⟩
 |call f args mk ret s u hg aS hf cj aC hb=>exact⟨s,u,rfl,hb,λaj=>absurd aS (Oa aj)⟩
theorem Of(h:oF P E ops cl A τ){j:Nat}{o:Oper}(ho:ops[j]? = some o){t:Nat}(ht:o.dst≠some t):(τ (j+1)).sl t=(τ j).sl t:=by
 obtain⟨s,u,he,_⟩:=Cs h ho;rw[he,Cr ht,yJ]
theorem HP(h:oF P E ops cl A τ){j:Nat}{o:Oper}(ho:ops[j]? = some o){k:Nat}(hk:k∉A.getD j []):(τ (j+1)).bx k=(τ j).bx k:=by
 obtain⟨s,u,he,hu,_⟩:=Cs h ho;rw[he,r9];exact yK u _ k (λe hm nj=>hk (nj▸hu e hm))
theorem wb(h:oF P E ops cl A τ){t j:Nat}:∀n,j+n<=ops.size->(∀k o,j<=k->k<j+n->ops[k]? = some o->o.dst≠some t)->(τ (j+n)).sl t=(τ j).sl t
 |0,_,_=>rfl
 |n+1,hn,hk=>by
  have ak:j+n<ops.size:=by omega
  have ho:ops[j+n]? = some ops[j+n]:=jh ak;rw[<-Nat.add_assoc,Of h ho (hk _ _ (by omega) (by omega) ho)];exact wb h n (by omega) (λk o h1 h2=>hk k o h1 (by omega))
theorem wc(h:oF P E ops cl A τ){k j:Nat}:∀n,j+n<=ops.size->(∀i o,j<=i->i<j+n->ops[i]? = some o->k∉A.getD i [])->(τ (j+n)).bx k=(τ j).bx k
 |0,_,_=>rfl
 |n+1,hn,hk=>by
  have ak:j+n<ops.size:=by omega
  have ho:ops[j+n]? = some ops[j+n]:=jh ak;rw[<-Nat.add_assoc,HP h ho (hk _ _ (by omega) (by omega) ho)];exact wc h n (by omega) (λi o h1 h2=>hk i o h1 (by omega))
theorem yL(h:oF P E ops cl A τ){k j:Nat}:∀n,j+n<=ops.size->(∀i o,j<=i->i<j+n->ops[i]? = some o->k∈A.getD i []->nM o=true)->ShEq ((τ j).bx k) ((τ (j+n)).bx k)
 |0,_,_=>ShEq.refl _
 |n+1,hn,hk=>by
  have ak:j+n<ops.size:=by omega
  have ho:ops[j+n]? = some ops[j+n]:=jh ak;have ih:=yL h n (by omega) (λi o h1 h2=>hk i o h1 (by omega));refine ih.trans ?_;rw[<-Nat.add_assoc];by_cases hm:k∈A.getD (j+n) []
  .obtain⟨_,_,_,_,aj⟩:=Cs h ho;exact aj (hk _ _ (by omega) (by omega) ho hm) k
  .rw[HP h ho hm];exact ShEq.refl _
structure Ph(ops:Array Oper)(A:List (List Nat))(τ:Nat->St)(ag:Array Bool)(σ:St):Prop where
 closed:∀j o,ops[j]? = some o->ag.getD j false=true->∀d∈kA o,ag.getD d false=true
 done:∀j o t,ops[j]? = some o->o.dst=some t->ag.getD j false=true->σ.sl t=(τ (j+1)).sl t
 rest:∀t,(∀j o,ops[j]? = some o->o.dst=some t->ag.getD j false=false)->σ.sl t=(τ 0).sl t
 bdone:∀j k,j<ops.size->k∈A.getD j []->ag.getD j false=true->(∀i,i<ops.size->k∈A.getD i []->ag.getD i false=true->i<=j)->σ.bx k=(τ (j+1)).bx k
 brest:∀k,(∀j,j<ops.size->k∈A.getD j []->ag.getD j false=false)->σ.bx k=(τ 0).bx k
theorem Ph.bef{ag:Array Bool}(hp:Ph ops A τ ag σ){i j:Nat}(hb:Bef ops i j)(hi:ag.getD i false=true):ag.getD j false=true:=by
 induction hb with
 |dep ho hj=>exact hp.closed _ _ ho hi _ hj
 |trans _ _ h1 h2=>exact h2 (h1 hi)
theorem Ph.befd{ag:Array Bool}(hp:Ph ops A τ ag σ){i j:Nat}{o:Oper}(ho:ops[i]? = some o)(hd:∀j∈kA o,ag.getD j false=true)(hb:Bef ops i j):ag.getD j false=true:=by
 induction hb with
 |dep r7 hj=>rw[ho]at r7;simp only[j5]at r7;subst r7;exact hd _ hj
 |trans bR cA h1 h2=>exact hp.bef cA (h1 ho)
theorem yM(p:Nat->Prop):∀n,(∃j,j<n/\p j)->∃m,m<n/\p m/\∀j,j<n->p j->j<=m
 |0,h=>by obtain⟨j,hj,_⟩:=h;omega
 |n+1,h=>by
  by_cases hn:p n
  .exact⟨n,by omega,hn,λj hj _=>by omega⟩
  .obtain⟨j,hj,hp⟩:=h
   have tA:j<n:=by
    rcases qk j n with h|h
    .exact h
    .have:j=n:=by omega
     subst this;exact absurd hp hn
   obtain⟨m,hm,Ct,ah⟩:=yM p n ⟨j,tA,hp⟩;refine⟨m,by omega,Ct,λi hi HQ=>?_⟩;rcases qk i n with h|h
   .exact ah i h HQ
   .have:i=n:=by omega
    subst this;exact absurd HQ hn
theorem HR{l:Array Bool}{i:Nat}(h:l.getD i true=false):l.getD i false=false:=by
 rcases qk i l.size with h'|h'
 .simp[h']at h ⊢;exact h
 .simp[Array.getElem?_eq_none h']
theorem mj{l:Array Bool}{i j:Nat}(hi:i<l.size):(l.setIfInBounds i true).getD j false=true↔j=i\/l.getD j false=true:=by
 by_cases h:i=j
 .subst h;simp[hi]
 .rw[getD_set_ne false h];exact⟨.inr,λhh=>hh.resolve_left λe=>h e.symm⟩
theorem we{l:Array Bool}{i:Nat}(h:¬l.getD i false=true):l.getD i false=false:=by
 cases hq:l.getD i false with
 |false=>rfl
 |true=>exact absurd hq h
section
variable(aM:DOkR ops A)(h:oF P E ops cl A τ){ag:Array Bool}(hp:Ph ops A τ ag σ){i:Nat}{o:Oper}(hi:ops[i]? = some o)(fB:ag.getD i false=false)(cC:∀j∈kA o,ag.getD j false=true)
include aM h hp hi fB cC
theorem Og:∀t,t∈o.looksAt ops->σ.sl t=(τ i).sl t:=by
 intro t vk;have gv:i<ops.size:=(jc.1 hi).1;have yN:∀j oj,ops[j]? = some oj->oj.dst=some t->j≠i->Bef ops i j\/Bef ops j i:=λj oj hj ht aB=>(aM.dst i j o oj t hi hj (λe=>aB e.symm) ht).2 vk;by_cases hex:∃(j:Nat)(oj:Oper),ops[j]? = some oj/\oj.dst=some t/\ag.getD j false=true
 .obtain⟨j,oj,hj,ht,jP⟩:=hex;have lk:j≠i:=λe=>by rw[e,fB]at jP;simp at jP
  have sa:Bef ops i j:=by
   rcases yN j oj hj ht lk with hd|hd
   .exact hd
   .have:=hp.bef hd jP;rw[fB]at this;simp at this
  have ak:=aM.bef sa;rw[hp.done j oj t hj ht jP];have:=wb h (t:=t) (j:=j+1) (i-(j+1)) (by omega) (λk ok h1 h2 hk=>(aM.dst k j ok oj t hk hj (by omega) ht).1);rw[show j+1+(i-(j+1))=i by omega]at this;exact this.symm
 .rw[hp.rest t (λj oj hj ht=>we λhq=>hex ⟨j,oj,hj,ht,hq⟩)]
  have:=wb h (t:=t) (j:=0) i (by omega) (λk ok _ hk kM nc=>by
   have nv:k≠i:=by omega
   rcases yN k ok kM nc nv with hd|hd
   .exact hex ⟨k,ok,kM,nc,hp.befd hi cC hd⟩
   .have:=aM.bef hd;omega)
  rw[jt]at this;exact this.symm
theorem HS{k:Nat}(hk:∀j oj,ops[j]? = some oj->k∈A.getD j []->i=j\/Bef ops i j\/Bef ops j i):σ.bx k=(τ i).bx k:=by
 have gv:i<ops.size:=(jc.1 hi).1;by_cases hex:∃j,j<ops.size/\(k∈A.getD j []/\ag.getD j false=true)
 .obtain⟨m,hm,⟨nw,nx⟩,cM⟩:=yM _ _ hex;have Cu:ops[m]? = some ops[m]:=jh hm;have Cv:i≠m:=λe=>by rw[<-e,fB]at nx;simp at nx
  have sa:Bef ops i m:=by
   rcases hk m _ Cu nw with hd|hd|hd
   .exact absurd hd Cv
   .exact hd
   .have:=hp.bef hd nx;rw[fB]at this;simp at this
  have ak:=aM.bef sa;rw[hp.bdone m k hm nw nx (λj hj cH jP=>cM j hj ⟨cH,jP⟩)]
  have:=wc h (k:=k) (j:=m+1) (i-(m+1)) (by omega) (λj oj h1 h2 hj cH=>by
   rcases hk j oj hj cH with hd|hd|hd
   .omega
   .have:=cM j (by omega) ⟨cH,hp.befd hi cC hd⟩;omega
   .have:=aM.bef hd;omega)
  rw[show m+1+(i-(m+1))=i by omega]at this;exact this.symm
 .rw[hp.brest k (λj hj cH=>we λhq=>hex ⟨j,hj,cH,hq⟩)]
  have:=wc h (k:=k) (j:=0) i (by omega) (λj oj h1 h2 hj cH=>by
   rcases hk j oj hj cH with hd|hd|hd
   .omega
   .exact hex ⟨j,by omega,cH,hp.befd hi cC hd⟩
   .have:=aM.bef hd;omega)
  rw[jt]at this;exact this.symm
theorem Oh(ib:lG o=true){k:Nat}(hk:∀j oj,ops[j]? = some oj->k∈A.getD j []->i=j\/Bef ops i j\/Bef ops j i\/nM oj=true):ShEq (σ.bx k) ((τ i).bx k):=by
 have gv:i<ops.size:=(jc.1 hi).1;by_cases hex:∃j,j<ops.size/\(k∈A.getD j []/\ag.getD j false=true)
 .obtain⟨m,hm,⟨nw,nx⟩,cM⟩:=yM _ _ hex;have Cu:ops[m]? = some ops[m]:=jh hm;rw[hp.bdone m k hm nw nx (λj hj cH jP=>cM j hj ⟨cH,jP⟩)];rcases qk m i with Cv|Cv
  .have:=yL h (k:=k) (j:=m+1) (i-(m+1)) (by omega) (λj oj h1 h2 hj cH=>by
    rcases hk j oj hj cH with hd|hd|hd|hd
    .omega
    .have:=cM j (by omega) ⟨cH,hp.befd hi cC hd⟩;omega
    .have:=aM.bef hd;omega
    .exact hd)
   rwa[show m+1+(i-(m+1))=i by omega]at this
  .have Oi:i≠m:=λe=>by rw[<-e,fB]at nx;simp at nx
   have:=yL h (k:=k) (j:=i) (m+1-i) (by omega) (λj oj h1 h2 hj cH=>by
    have jP:ag.getD j false=true:=by
     by_cases sb:j=m
     .rw[sb];exact nx
     .rcases aM.box j m oj ops[m] k hj Cu sb cH nw with hd|hd
      .have:=aM.bef hd;omega
      .exact hp.bef hd nx
    rcases hk j oj hj cH with hd|hd|hd|hd
    .rw[<-hd,fB]at jP;simp at jP
    .have:=aM.bef hd;omega
    .have:=hp.bef hd jP;rw[fB]at this;simp at this
    .exact hd)
   rw[show i+(m+1-i)=m+1 by omega]at this;exact this.symm
 .rw[hp.brest k (λj hj cH=>we λhq=>hex ⟨j,hj,cH,hq⟩)]
  have:=yL h (k:=k) (j:=0) i (by omega) (λj oj h1 h2 hj cH=>by
   rcases hk j oj hj cH with hd|hd|hd|hd
   .omega
   .exact absurd ⟨j,by omega,cH,hp.befd hi cC hd⟩ hex
   .have:=aM.bef hd;omega
   .exact hd)
  rwa[jt]at this
theorem Oj(hc:ClOk ops cl):(∀k,ff (nN ops cl A i o) σ.bx k=ff (nN ops cl A i o) (τ i).bx k)\/(lG o=true/\∀k,ShEq (ff (nN ops cl A i o) σ.bx k) (ff (nN ops cl A i o) (τ i).bx k)):=by
 by_cases ib:lG o=true
 .refine .inr ⟨ib,ShEq.mask λk hk=>Oh aM h hp hi fB cC ib λj oj hj cH=>?_⟩;rcases HI hc hk hj cH with hd|hd|hd|hd
  .exact .inl hd
  .exact .inr (.inl hd)
  .exact .inr (.inr (.inl hd))
  .exact .inr (.inr (.inr hd.2))
 .refine .inl λk=>?_;unfold ff;split
  .rfl
  .rename_i hk
   exact HS aM h hp hi fB cC λj oj hj cH=>by
    rcases HI hc (by simpa using hk) hj cH with hd|hd|hd|hd
    .exact .inl hd
    .exact .inr (.inl hd)
    .exact .inr (.inr hd)
    .exact absurd hd.1 ib
theorem Ol(ba:ops.size<=ag.size){s:Slot}{u:Ups}(he:τ (i+1)=((τ i).upd u).setD o.dst s)(hu:∀e∈u,e.1∈A.getD i []):Ph ops A τ (ag.setIfInBounds i true) ((σ.upd u).setD o.dst s):=by
 have gv:i<ops.size:=(jc.1 hi).1;have ej:i<ag.size:=by omega
 have ia:∀k,k∈A.getD i []->σ.bx k=(τ i).bx k:=λk hk=>HS aM h hp hi fB cC λj oj hj cH=>by
  by_cases cg:i=j
  .exact .inl cg
  .exact .inr (aM.box i j o oj k hi hj cg hk cH)
 refine⟨?_,?_,?_,?_,?_⟩
 .intro j oj fZ hj d kB;rcases (mj ej).1 hj with rfl|hj
  .rw[hi]at fZ;simp only[j5]at fZ;subst fZ;exact(mj ej).2 (.inr (cC d kB))
  .exact(mj ej).2 (.inr (hp.closed j oj fZ hj d kB))
 .intro j oj t fZ ht hj;by_cases lk:j=i
  .subst lk;rw[hi]at fZ;simp only[j5]at fZ;subst fZ;rw[he,ht,HN,HN]
  .rcases (mj ej).1 hj with hj|hj
   .exact absurd hj lk
   .rw[Cr (aM.dst i j o oj t hi fZ (λe=>lk e.symm) ht).1,yJ];exact hp.done j oj t fZ ht hj
 .intro t ah
  have Om:o.dst≠some t:=λe=>by
   have:=ah i o hi e;have h2:=(mj (j:=i) ej).2 (.inl rfl);rw[this]at h2;simp at h2
  rw[Cr Om,yJ]
  exact hp.rest t λj oj fZ ht=>we λhq=>by
   have:=ah j oj fZ ht;have h2:=(mj (i:=i) ej).2 (.inr hq);rw[this]at h2;simp at h2
 .intro j k hj cH jP cM;rw[r9];by_cases lk:j=i
  .subst lk;rw[he,r9];exact HO u σ (τ j) k (ia k cH)
  .have wg:ag.getD j false=true:=by
    rcases (mj ej).1 jP with e|hh
    .exact absurd e lk
    .exact hh
   have nv:k∉A.getD i []:=λnv=>by
    have hle:=cM i gv nv ((mj ej).2 (.inl rfl));have fZ:ops[j]? = some ops[j]:=jh hj;rcases aM.box i j o _ k hi fZ (λe=>lk e.symm) nv cH with hd|hd
    .have:=aM.bef hd;omega
    .have:=hp.bef hd wg;rw[fB]at this;simp at this
   rw[yK u σ k (λe hm nj=>nv (nj▸hu e hm))];exact hp.bdone j k hj cH wg (λi' ei aR iR=>cM i' ei aR ((mj ej).2 (.inr iR)))
 .intro k ah
  have nv:k∉A.getD i []:=λnv=>by
   have:=ah i gv nv;have h2:=(mj (j:=i) ej).2 (.inl rfl);rw[this]at h2;simp at h2
  rw[r9,yK u σ k (λe hm nj=>nv (nj▸hu e hm))]
  exact hp.brest k λj hj cH=>we λhq=>by
   have:=ah j hj cH;have h2:=(mj (i:=i) ej).2 (.inr hq);rw[this]at h2;simp at h2
end
theorem On(aM:DOkR ops A)(h:oF P E ops cl A τ){ag:Array Bool}(hp:Ph ops A τ ag σ)(ah:∀j,j<ops.size->ag.getD j false=true):σ=τ ops.size:=by
 have db:σ.sl=(τ ops.size).sl:=by
  funext t
  by_cases hex:∃(j:Nat)(oj:Oper),ops[j]? = some oj/\oj.dst=some t
  .obtain⟨j,oj,hj,ht⟩:=hex;have ak:j<ops.size:=(jc.1 hj).1;rw[hp.done j oj t hj ht (ah j ak)];have:=wb h (t:=t) (j:=j+1) (ops.size-(j+1)) (by omega) (λk ok h1 h2 hk=>(aM.dst k j ok oj t hk hj (by omega) ht).1);rw[show j+1+(ops.size-(j+1))=ops.size by omega]at this;exact this.symm
  .rw[hp.rest t (λj oj hj ht=>absurd ⟨j,oj,hj,ht⟩ hex)];have:=wb h (t:=t) (j:=0) ops.size (by omega) (λk ok _ hk kM nc=>hex ⟨k,ok,kM,nc⟩);rw[jt]at this;exact this.symm
 have cP:σ.bx=(τ ops.size).bx:=by
  funext k
  by_cases hex:∃j,j<ops.size/\k∈A.getD j []
  .obtain⟨m,hm,nw,cM⟩:=yM _ _ hex;rw[hp.bdone m k hm nw (ah m hm) (λj hj cH _=>cM j hj cH)];have:=wc h (k:=k) (j:=m+1) (ops.size-(m+1)) (by omega) (λj oj h1 h2 hj cH=>by have:=cM j (by omega) cH;omega);rw[show m+1+(ops.size-(m+1))=ops.size by omega]at this;exact this.symm
  .rw[hp.brest k (λj hj cH=>absurd ⟨j,hj,cH⟩ hex)];have:=wc h (k:=k) (j:=0) ops.size (by omega) (λj oj h1 h2 hj cH=>hex ⟨j,by omega,cH⟩);rw[jt]at this;exact this.symm
 cases σ;cases hq:τ ops.size;rw[hq]at cP db;simp only at cP db;rw[cP,db]
end
theorem Oo{l:Array Bool}{i:Nat}(hi:l.getD i true=false):(l.setIfInBounds i true).toList.count false+1=l.toList.count false:=by
 have ak:i<l.size:=by
  rcases qk i l.size with h|h
  .exact h
  .simp[Array.getElem?_eq_none h]at hi
 have hv:l.toList[i]'(by simpa using ak)=false:=by simp[ak]at hi;simpa using hi
 have cc:0<l.toList.count false:=List.count_pos_iff.2 (hv▸qr _);have hc:(l.toList.set i true).count false=l.toList.count false-(if l.toList[i]'(by simpa using ak)==false then 1 else 0)+(if true==false then 1 else 0):=List.count_set (by simpa using ak);rw[hv]at hc;rw[Array.toList_setIfInBounds];simp only[ze,if_true,show (true==false)=false from rfl,kb,qi,Nat.add_zero]at hc;omega
theorem Oq{l:Array Bool}(h:l.toList.count false=0){j:Nat}(hj:j<l.size):l.getD j false=true:=by
 have h0:false∉l.toList:=List.count_eq_zero.1 h;simp only[qp,jh hj,Option.getD_some];cases hv:l[j]with
 |true=>rfl
 |false=>exact absurd (hv▸by simp:false∈l.toList) h0
theorem Ot{ops:Array Oper}{A:List (List Nat)}(aM:DOkR ops A){ag:Array Bool}(hs:ag.size=ops.size)(h:Region.ready .any ops ag=[]):∀j,j<ops.size->ag.getD j false=true:=by
 intro j;induction j using Nat.strongRecOn with
 |_ j ih=>
  intro hj;cases hq:ag.getD j false with
  |true=>rfl
  |false=>
   have ho:ops[j]? = some ops[j]:=jh hj
   have hm:j∈Region.ready .any ops ag:=mem_ready.2 ⟨by
    have iu:j<ag.size:=by omega
    simp[iu]at hq ⊢;exact hq,ops[j],ho,λe he hb=>ih _ (aM.lt j _ ho _ (Cq.2 ⟨e,he,hb,rfl⟩)) (Nat.lt_trans (aM.lt j _ ho _ (Cq.2 ⟨e,he,hb,rfl⟩)) hj)⟩
   rw[h]at hm;simp at hm
theorem Ou{P:Program}{E:Env}(hT:bk P E.T){ops:Array Oper}{cl:List Nat}{A:List (List Nat)}(dh:ClOk ops cl)(aM:DOkR ops A){τ:Nat->St}(h:oF P E ops cl A τ)
  {Q:Exit->Go.Act->World->Prop}(hn:∀a' w' S' γ',Rel E.N E.np S0 w0 refs (τ ops.size) a' w' S' γ'->bM (τ ops.size)->Q .normal a' w') :
  ∀(fuel:Nat)(ag:Array Bool){σ:St}{a:Go.Act}{w:World}{S:aq}{γ:Nat->Value},ag.size=ops.size->ag.toList.count false<=fuel->Rel E.N E.np S0 w0 refs σ a w S γ->bM σ->
   Ph ops A τ ag σ->wpAny P .any ops Q fuel ag a w:=by
 have eL:∀(ag:Array Bool){σ:St}{a:Go.Act}{w:World}{S:aq}{γ:Nat->Value},Rel E.N E.np S0 w0 refs σ a w S γ->bM σ->Ph ops A τ ag σ->(∀j,j<ops.size->ag.getD j false=true)->Q .normal a w:=by intro ag σ a w S γ hR hc p8 ah;have he:=On aM h p8 ah;subst he;exact hn a w S γ hR hc
 intro fuel;induction fuel with
 |zero=>
  intro ag σ a w S γ hs Cw hR hc p8;have ah:∀j,j<ops.size->ag.getD j false=true:=λj hj=>Oq (by omega) (by omega);refine⟨?_,eL ag hR hc p8 ah⟩;refine List.eq_nil_iff_forall_not_mem.2 λi hi=>?_;have h0:=(mem_ready.1 hi).1;have ak:i<ops.size:=by obtain⟨_,o,ho,_⟩:=mem_ready.1 hi;exact(jc.1 ho).1
  have:=ah i ak;rw[HR h0]at this;simp at this
 |succ fuel ih=>
  intro ag σ a w S γ hs Cw hR hc p8;refine⟨λdz=>eL ag hR hc p8 (Ot aM hs dz),λi hi=>?_⟩;obtain⟨fB,o,ho,cC⟩:=Oe hi;have sc:=HR fB;have cB:=Oo fB;have ba:(ag.setIfInBounds i true).size=ops.size:=by simpa using hs
  obtain⟨hd,ic⟩:=h i o ho;refine D_wp hT hR hc ho hd ic (Oj aM h p8 ho sc cC dh) (Og aM h p8 ho sc cC) ?_;intro s u a' w' S' γ' he hu aZ bP;exact ih _ ba (by omega) aZ bP (Ol aM h p8 ho sc cC (Nat.le_of_eq hs.symm) he hu)
theorem Ov{P:Program}{E:Env}(hT:bk P E.T)(hC:fW P E.C)(hF:CFun E.C)(hR:Rel E.N E.np S0 w0 refs σ a w S γ)(hc:bM σ){ops:Array Oper}{A:List (List Nat)}
  {R:Type}{k:St->Option R}{r:R}{Q:Exit->Go.Act->World->Prop}(hn:∀σ' a' w' S' γ',Rel E.N E.np S0 w0 refs σ' a' w' S' γ'->bM σ'->k σ'=some r->Q .normal a' w')(h:uM E ops A σ k=some r) :
  wpAny P .any ops Q ops.size (Array.replicate ops.size false) a { w with drawn:=w.drawn+1 }:=by
 unfold uM at h;split at h
 .rename_i aM;obtain⟨τ,h1,h2,h3⟩:=HM (P:=P) (ops:=ops) hC hF ops.size 0 σ (jt _) (by simpa using h)
  have iX:∀j,(Array.replicate ops.size false).getD j false=false:=by
   intro j;rcases qk j ops.size with hj|hj
   .simp[hj]
   .simp[hj]
  have dh:ClOk ops (uJ ops.toList []):=HH ops.toList [] (λi j h=>by simp at h) (λk o hk=>by simpa using hk);refine Ou hT dh (Ob dh aM) (τ:=τ) (λj o ho=>h3 j o (jw _) ho) (λa' w' S' γ' aZ bP=>hn _ a' w' S' γ' aZ bP h2) ops.size _ (by simp) (by simp) (hR.drawn _) hc ?_
  exact⟨λj o _ hj=>by rw[iX]at hj;simp at hj,λj o t _ _ hj=>by rw[iX]at hj;simp at hj,λt _=>by rw[h1],
   λj k _ _ hj=>by rw[iX]at hj;simp at hj,λk _=>by rw[h1]⟩
 .simp at h
end
def FR(ro:Option Nat):Fence:={ Fence.wide with round:=ro }
theorem Ow(ro:Option Nat)(n:Nat):(FR ro).room n:=λd h=>by simp[FR,Fence.wide]at h
section
variable{P:Program}{ro:Option Nat}{n:Nat}
theorem Ox{f:FuncId}{args:Array Value}{w:World}{R:Ending->World->Prop}(h:Calls P f args w R):CallsIn (FR ro) n P f args w R:=(callsIn_wide (n:=n)).2 h
theorem Oy{f:FuncId}{args:Array Value}{w:World}{R:Ending->World->Prop}(h:CallsIn (FR ro) n P f args w R):Calls P f args w R:=(callsIn_wide (n:=n)).1 h
theorem Oz{m:Nat}{c:Code}{Q:Exit->Go.Act->World->Prop}{a:Go.Act}{w:World}(h:c.wpIn (FR ro) n P Q a w):c.wpIn (FR ro) m P Q a w:=
 λb k cs dB hb hr=>h b k cs dB hb (Ow _ _)
theorem OA{row:String}{args:Array Value}{w:World}{R:Value->World->Prop}(h:Rows P row args w R):RowsIn (FR ro) n P row args w R:=
 λc cs _=>let ⟨v,w',r,s⟩:=h c cs;⟨v,w',r,stepsIn_wide.2 s⟩
theorem HT{o:Oper}(hp:ro=none\/∀c,o.op ≠ .defer c){a:Go.Act}{w:World}{K K':Go.Act->World->Prop}{Q:Exit->Go.Act->World->Prop}(hK:∀a w,K a w->K' a w)
  (h:o.wp P a w K Q):o.wpIn (FR ro) n P a w K' Q:=by
 refine⟨λ_ _=>trivial,?_⟩
 have e:o.semAt (FR ro).round a.eval=execOp a.eval o:=by
  rcases hp with rfl|hp
  .rfl
  .exact Oper.semAt_eq _ _ _ hp
 rw[e];unfold Oper.wp at h;revert h;cases (execOp a.eval o).run P w with
 |ok x w'=>
  cases x with
  |value v=>intro h;exact hK _ _ h
  |skip=>intro h;exact hK _ _ h
  |defer d=>intro h;exact hK _ _ h
  |enter f args=>
   intro h;refine⟨λhd=>by simp[FR,Fence.wide]at hd,Ox (Calls.mono h λe mX he=>?_)⟩;cases e with
   |returned v=>exact hK _ _ he
   |panicked c=>exact he
   |outgrown=>exact he
  |row r args=>intro h;exact⟨λhd=>by simp[FR,Fence.wide]at hd,OA (Rows.mono h λv mX he=>hK _ _ he)⟩
  |round l f tmps x y=>intro h;exact h.elim
  |_=>intro h;exact h.elim
 |halt x w'=>cases x<;>intro h<;>exact h
theorem p9{ops:Array Oper}{Q:Exit->Go.Act->World->Prop}(hp:ro=none\/∀o∈ops.toList,∀c,o.op ≠ .defer c)(eT:¬LetsOut Q):∀(l:List Nat)(a:Go.Act)(w:World),wpOps P ops Q l a w->wpOpsIn (FR ro) n P ops Q l a w
 |[],a,w,h=>h
 |i::r,a,w,h=>by
  simp only[wpOps]at h;simp only[wpOpsIn];cases ho:ops[i]? with
  |none=>simp only[ho]at h ⊢;exact p9 hp eT r a w h
  |some o=>
   simp only[ho]at h ⊢;split
   .rename_i hw;simp only[hw,if_true]at h;rcases h with h|⟨_,h⟩
    .refine HT (hp.imp id λhh=>hh o ?_) (λa w=>p9 hp eT r a w) h;obtain⟨ak,rfl⟩:=jc.1 ho;exact Array.mem_toList_iff.2 (Array.getElem_mem ak)
    .exact absurd h eT
   .rename_i hw;simp only[hw]at h;exact⟨λ_ _=>trivial,p9 hp eT r _ w h⟩
theorem yO{md:Region.Mode}{ops:Array Oper}{Q:Exit->Go.Act->World->Prop}(hp:ro=none\/∀o∈ops.toList,∀c,o.op ≠ .defer c)(eT:¬LetsOut Q) :
  ∀(fuel:Nat)(ag:Array Bool)(a:Go.Act)(w:World),wpAny P md ops Q fuel ag a w->wpAnyIn (FR ro) n P md ops Q fuel ag a w
 |0,_,_,_,h=>h
 |fuel+1,ag,a,w,h=>by
  refine⟨h.1,λi hi=>?_⟩;have h2:=h.2 i hi;unfold wpOp at h2;unfold wpOpIn;cases ho:ops[i]? with
  |none=>simp only[ho]at h2 ⊢;exact yO hp eT fuel _ a w h2
  |some o=>
   simp only[ho]at h2 ⊢;split
   .rename_i hw;simp only[hw,if_true]at h2;rcases h2 with h2|⟨_,h2⟩
    .refine HT (hp.imp id λhh=>hh o ?_) (λa w=>yO hp eT fuel _ a w) h2;obtain⟨ak,rfl⟩:=jc.1 ho;exact Array.mem_toList_iff.2 (Array.getElem_mem ak)
    .exact absurd h2 eT
   .rename_i hw;simp only[hw]at h2;exact⟨λ_ _=>trivial,yO hp eT fuel _ _ w h2⟩
end
section
variable{N:NT}{np:Nat}{S0:aq}{w0:World}{refs:Refs}{σ:St}{a:Go.Act}{w:World}{S:aq}{γ:Nat->Value}
theorem Rel.allocO(hR:Rel N np S0 w0 refs σ a w S γ)(o:Obj):Rel N np S0 w0 refs σ a (w.alloc o) S γ:=
 Rel.step (bx':=σ.bx) (γ':=γ) hR (tq hR o) (.refl _ _) (λk b hb=>cJ.keep (tq hR o) (.refl _ _) rfl (λg hg=>⟨heap_alloc_old w o (fm (hR.box k b hb) hg),λ_=>Iff.rfl⟩) (hR.box k b hb))
  hR.own hR.apart hR.new (λg i h=>by have:=hR.here g i h;simp;omega) (λg hg hr=>(heap_alloc_old w o (q7 hg hR.grow)).trans (hR.below g hg hr)) (by have:=hR.grow;simp;omega) hR.os hR.tape hR.output
  (λg hg _ h=>⟨heap_alloc_old w o hg,h⟩)
structure Grew(w w':World):Prop where
 old:∀g,g<w.heap.size->w'.heap[g]? = w.heap[g]?
 size:w.heap.size<=w'.heap.size
 os:w'.os=w.os
 tape:w'.tape=w.tape
 output:w'.output=w.output
structure Cx(S:aq)(w:World)(S':aq)(w':World):Prop where
 sub:∀g o,S g o->S' g o
 new:∀g o,S' g o->S g o\/w.heap.size<=g
 here:∀g o,S' g o->g<w'.heap.size
theorem Rel.grew(hR:Rel N np S0 w0 refs σ a w S γ){S':aq}{w':World}(h:Grew w w')(hs:Cx S w S' w'):Rel N np S0 w0 refs σ a w' S' γ:=
 have aj:bY S w S' w':=λg o hg=>⟨hs.sub g o hg,World.cell?_of_block (h.old g (hR.here g o hg))⟩
 Rel.step (bx':=σ.bx) (γ':=γ) hR aj (.refl _ _) (λk b hb=>cJ.keep aj (.refl _ _) rfl (λg hg=>
   have hl:=fm (hR.box k b hb) hg
   ⟨h.old g hl,λo=>⟨λh1=>(hs.new g o h1).resolve_right (by omega),hs.sub g o⟩⟩) (hR.box k b hb))
  hR.own hR.apart (λg o h1=>(hs.new g o h1).elim (hR.new g o) λh2=> .inr (.inl (ko hR.grow h2))) hs.here (λg hg hr=>(h.old g (q7 hg hR.grow)).trans (hR.below g hg hr)) (ko hR.grow h.size) (h.os.trans hR.os) (h.tape.trans hR.tape) (h.output.trans hR.output)
  (λg hg _ hn=>⟨h.old g hg,hn⟩)
theorem Rel.swap(hR:Rel N np S0 w0 refs σ a w S γ){N':NT}{refs':Refs}{a':Go.Act}(hb:refs'.blks=refs.blks)(hv:refs'.val=refs.val)(ba:a'.tmps.size=N'.n)(tN:a'.defers=refs'.ds)
  (wh:∀i,fh S w γ σ.bx (tm a') (σ.sl i) (tm a' i))(hk:∀g o,refs'.kw g=some o->w.heap[g]? = some o/\∀k b,σ.bx k = .live b->blk (γ k)≠some g)
  (hf:∀i v,refs'.fix i=some v->N'.pin i=true/\a'.tmps.getD i undef=v)(yP:refs'.mv=refs.mv:=by rfl):Rel N' np S0 w0 refs' σ a' w S γ:=
 have hm:∀g,g∈refs'↔g∈refs:=λg=>by show g∈refs'.blks↔g∈refs.blks;rw[hb]
 ⟨ba,tN,wh,hR.box,λk b g h h'=>(hR.own k b g h h').imp (λh=>Own.swap h hb yP) λh=>⟨(hm g).2 h.1,h.2⟩,hR.apart,hR.ext,λg o h=>(hR.new g o h).imp id λh=>Own.swap h hb yP,hR.here,λg h h'=>hR.below g h λh2=>h' ((hm g).2 h2),
  hR.grow,hR.os,hR.tape,hR.output,λk v h=>hR.par k v (hv▸h),hk,hf⟩
theorem yQ{g o:Nat}{x:Obj}(h:w.heap[g]? = some x)(hc:x.isCells=false):w.cell? ⟨g,o,none⟩=none:=by
 unfold World.cell?;simp only[h];cases x<;>first|rfl|(simp[Obj.isCells]at hc)
theorem Rel.putO(hR:Rel N np S0 w0 refs σ a w S γ){l:Nat}{o o':Obj}(hk:refs.kw l=some o)(hl:w0.heap.size<=l)(hc:o.isCells=false)(bP:o'.isCells=false) :
  Rel N np S0 w0 { refs with kw:=λg=>if g=l then some o' else refs.kw g } σ a (w.putObj l o') S γ:=by
 obtain⟨hw,eT⟩:=hR.kept l o hk;have ak:=(jc.1 hw).1
 have aj:bY S w S (w.putObj l o'):=λg i h=>⟨h,by
  by_cases hg:g=l
  .subst hg;rw[yQ hw hc,yQ (World.putObj_heap_same ak) bP]
  .exact World.cell?_of_block (World.putObj_heap_other hg)⟩
 have aJ:Rel N np S0 w0 { refs with kw:=λg=>if g=l then none else refs.kw g } σ a w S γ:=
  Rel.swap hR rfl rfl hR.size hR.defers hR.slot (λg x h=>by
   simp only at h;split at h
   .simp at h
   .exact hR.kept g x h) hR.fix
 have bc:Rel N np S0 w0 { refs with kw:=λg=>if g=l then none else refs.kw g } σ a (w.putObj l o') S γ:=
  Rel.step (bx':=σ.bx) (γ':=γ) aJ aj (.refl _ _) (λk b hb=>cJ.keep aj (.refl _ _) rfl (λg hg=>⟨World.putObj_heap_other (λe=>eT k b hb (e▸hg)),λ_=>Iff.rfl⟩) (hR.box k b hb))
   aJ.own aJ.apart aJ.new (λg i h=>by simpa using hR.here g i h) (λg hg hr=>(World.putObj_heap_other (by omega)).trans (aJ.below g hg hr)) (by simpa using hR.grow) hR.os hR.tape hR.output
   (λg _ iJ h=>⟨World.putObj_heap_other (λe=>by subst e;simp at iJ),h⟩)
 refine Rel.swap bc rfl rfl bc.size bc.defers bc.slot (λg x h=>?_) bc.fix;simp only at h;split at h
 .rename_i e;subst e;simp only[j5]at h;subst h;exact⟨World.putObj_heap_same ak,eT⟩
 .rename_i e;have h1:=hR.kept g x h;exact⟨(World.putObj_heap_other e).trans h1.1,h1.2⟩
theorem OB(np:Nat)(K:Keep)(s:Snap)(i:Nat):(∃c,(bj np K s).sl i = .one c)/\(i∉K.slots->(bj np K s).sl i = .one (.one .dead)):=by
 have db:(bj np K s).sl i=match K.slots.idxOf? i with
  |some j=>ra s[j]?
  |none=> .one (.one .dead):=rfl
 rw[db];cases hq:K.slots.idxOf? i with
 |none=>exact⟨⟨_,rfl⟩,λ_=>rfl⟩
 |some j=>refine⟨?_,λh=>absurd (js (lj hq)) h⟩;simp only;unfold ra;split<;>exact⟨_,rfl⟩
theorem Rel.frame{K:Keep}{s:Snap}(hR:Rel N np S0 w0 refs (bj np K s) a w S γ){N':NT}{refs':Refs}{a':Go.Act}(hb:refs'.blks=refs.blks)(hv:refs'.val=refs.val)(ba:a'.tmps.size=N'.n)(tN:a'.defers=refs'.ds)
  (db:∀i∈K.slots,tm a' i=tm a i)(hk:∀g o,refs'.kw g=some o->w.heap[g]? = some o/\∀k b,(bj np K s).bx k = .live b->blk (γ k)≠some g)
  (hf:∀i v,refs'.fix i=some v->N'.pin i=true/\a'.tmps.getD i undef=v)(yP:refs'.mv=refs.mv:=by rfl):Rel N' np S0 w0 refs' (bj np K s) a' w S γ:=by
 refine hR.swap hb hv ba tN (λi=>?_) hk hf yP;obtain⟨⟨c,hc⟩,hd⟩:=OB np K s i;by_cases hi:i∈K.slots
 .have:=hR.slot i;rw[hc]at this ⊢;rw[db i hi];exact this
 .rw[hd hi];exact⟨trivial,λh=>absurd rfl h⟩
end
section
variable{P:Program}{F:Fence}{n:Nat}{b:Frame}{a:Go.Act}{k:List Go.Item}{cs:List Frame}{w:World}{Q:Exit->Go.Act->World->Prop}
theorem tO{c:Code}:step P (lone (b.atR a (.code (.scope c)::k)) cs w) = .next (lone (b.atR a (.code c :: .inScope c::k)) cs w):=
 step_lone_go (by simp[stepG,stepG.exec,Frame.atR])
theorem OC{c:Code}:step P (lone (b.atR a (.inScope c::k)) cs w) = .next (lone (b.atR a k) cs w):=
 step_lone_go (by simp[stepG,stepG.exec,Frame.atR])
theorem OD{c:Code}(OE:∀l a w,¬Q (.goto l) a w)(h:c.wpIn F n P Q a w):(Code.scope c).wpIn F n P Q a w:=by
 intro b k cs dB hb hr;have h0:(lone (b.atR a (.code (.scope c)::k)) cs w).fenced P F:=fenced_calm hb hr rfl;obtain⟨e,a₁,w₁,hq,kN⟩:=h b (.inScope c::k) cs dB hb hr;cases e with
 |normal=>exact⟨.normal,a₁,w₁,hq,.head h0 tO (StepsIn.trans kN (.one (fenced_calm hb hr rfl) OC))⟩
 |exit id=>
  have hx:exitTo id (.inScope c::k)=exitTo id k:=by simp[exitTo]
  exact⟨_,a₁,w₁,hq,λk' hk=> .head h0 tO (kN.1 k' (by rw[hx];exact hk)),
   λlS hk=>let ⟨k₁,h1,h2⟩:=kN.2 lS (by rw[hx];exact hk);⟨k₁,h1,.head h0 tO h2⟩⟩
 |goto l=>exact absurd hq (OE l a₁ w₁)
 |ret=>exact⟨_,a₁,w₁,hq,.of_steps (.one h0 tO) kN⟩
 |panic ch=>exact⟨_,a₁,w₁,hq,.of_steps (.one h0 tO) kN⟩
 |outgrown=>exact⟨_,a₁,w₁,hq,.of_steps (.one h0 tO) kN⟩
end
section
variable{N:NT}{np:Nat}{S0:aq}{w0:World}{refs:Refs}{σ:St}{a:Go.Act}{w:World}{S:aq}{γ:Nat->Value}
theorem OG{α:Type}{xs:List α}{d:α}(h:xs.length=1):xs=[xs.getD 0 d]:=by
 match xs,h with
 |[x],_=>rfl
theorem OH(hR:Rel N np S0 w0 refs σ a w S γ)(hc:bM σ){g:Gh}{σ':St}(h:uO np σ g=some (true,σ')):∃S' γ',Rel N np S0 w0 refs σ' a w S' γ'/\bM σ':=by
 cases g with
 |ex k c n=>
  simp only[uO]at h;split at h
  case h_2=>simp at h
  rename_i ls hk;split at h
  case h_2=>simp at h
  rename_i b hs;split at h
  case h_2=>simp at h
  rename_i e t xs hb;split at h
  case isTrue=>simp at h
  rename_i aT;simp only[j5,j9]at h;obtain⟨h1,rfl⟩:=h;have h1:xs.length=1:=z8 h1;simp only[q9,not_or,Bool.not_eq_true,beq_eq_false_iff_ne,Bool.not_eq_false']at aT;obtain⟨⟨⟨⟨hm,hp⟩,r6⟩,bD⟩,hn⟩:=aT
  have hn:σ.bx n = .free:=by
   revert hn
   cases σ.bx n<;>simp[ee]
  have iJ:k≠n:=by rintro rfl;rw[hn]at hk;simp at hk
  obtain⟨gk,Cy,ek,rO,HU,yN,aM,Mi,_⟩:=hR.box k _ hk
  have vu:ls[c]? = some (.ol b):=by
   cases bP:ls[c]? with
   |none=>simp[bP]at hs
   |some x=>simp[bP]at hs;rw[hs]
  obtain⟨z,hz,jJ⟩:=yN.get c _ vu;have hu:z=γ b:=jJ.2.2 _ hb;obtain⟨css,ar,ah,hS⟩:=eW hm (hR.box b _ hb);rcases ar.2 with⟨_,GA⟩|⟨gb,cap,cur,hg,_,hh,hle,gl,cB,bQ⟩
  .omega
  have hlen:=All2.flatten_length (λx c hx=>Rep.length t x c hx) ah;rw[h1,Nat.one_mul]at hlen bQ;have iW:=OG (d:=t.dflt) h1;rw[iW]at ah;have aJ:=yj hR hb;have iw:(σ.setB b .gone).bx n = .free:=by rw[bo σ _ (Ne.symm r6)];exact hn
  have aG:Rep S w t (xs.getD 0 t.dflt) css.flatten:=by
   match css,ah with
   |[c],h=>simpa using h.1
  have qA:=kC t _ _ aG;have ie:((scat t (xs.getD 0 t.dflt)).map TV.leaf).length=t.size:=by rw[qf,qA.length,hlen]
  obtain⟨bc,dy⟩:=BL aJ iw (v':= .pointer (some ⟨gb,0,none⟩)) (b:= .cell ((scat t (xs.getD 0 t.dflt)).map TV.leaf) false) (λg' af=>by
   have af:gb=g':=by simpa[blk]using af
   subst af;have Cz:blk (γ b)=some gb:=by rw[hg];rfl
   refine⟨⟨?_,hR.kw_live hb Cz⟩,λk' b' al aR=>?_⟩
   .rcases hR.own b _ gb hb Cz with h|h
    .exact h
    .rw[hp]at h;simp at h
   .have aY:k'≠b:=by rintro rfl;rw[cV]at al;simp at al
    rw[bo σ _ aY]at al;exact hR.apart k' b _ _ gb aY al hb aR Cz) (by
   refine⟨gb,cur,_,cO _ _ _,hh,?_,?_,λ_ o=>(hS gb (by rw[hg];rfl)).1 rfl o,by simp⟩
   .rw[ie,bQ];exact lK qA
   .rw[ie,bQ];exact Rep.one _ _ _ aG)
  have dj:((σ.setB b .gone).setB n (.live (.cell ((scat t (xs.getD 0 t.dflt)).map TV.leaf) false))).bx k = .live (.cell ls false):=by rw[bo _ _ iJ,bo _ _ (λh=>bD h.symm)];exact hk
  refine⟨S,_,Hn bc dj (b':= .cell (ls.set c (.s1 n)) false) trivial (λbx' oh=>?_),λi=>hc i⟩;obtain⟨g3,OI,e3,q1,q2,q3,q4,q5,_⟩:=bc.box k _ dj;rw[di γ _ iJ,rO]at q1;simp at q1;subst q1;rw[HU]at q2;simp at q2;obtain⟨rfl,rfl⟩:=q2;refine⟨gk,Cy,ek,by rw[di γ _ iJ];exact rO,HU,?_,by rw[qq];exact q4,q5,by simp⟩;rw[qq];refine All2.set_left (q3.mono (λx u hx=>aL.keep (.refl S w) oh hx)) c (.s1 n) z hz ?_;have ml:((σ.setB b .gone).setB n (.live (.cell ((scat t (xs.getD 0 t.dflt)).map TV.leaf) false))).bx n = .live (.cell ((scat t (xs.getD 0 t.dflt)).map TV.leaf) false):=cV _ _ _;refine aL.keep (.refl S w) oh (x:= .s1 n) ⟨by rw[ml];simp,jJ.2.1,λb' al=>?_⟩;rw[ml]at al;cases al;refine⟨gb,cap,cO _ _ _,?_,by omega,gl⟩;rw[hu,hg,h1]
 |se k=>
  simp only[uO]at h;split at h
  case h_2=>simp at h
  rename_i ls hk;split at h
  case isTrue=>simp at h
  rename_i hp;split at h
  case h_2=>simp at h
  rename_i xs u hx;split at h
  case isTrue=>simp at h
  rename_i gw;simp only[j5,j9,kq]at h;subst h;have hp:parK np k=false:=qd.2 hp;have gw:u.any (λy=>y.1==k)=false:=qd.2 gw;have au:RdF np σ (λj=>if parK np j then .gone else mskM σ.bx j):=tK (RdR.msk λ_=> .inl rfl);obtain⟨g,cur,e,hg,hh,bN,_⟩:=hR.box k _ hk;obtain⟨hf,ng⟩:=rG au hx bN;obtain⟨S1,aJ,bB,eA,cd⟩:=jH u σ S hR hf;have b9:(σ.upd u).bx k = .live (.cell ls false):=(gp u σ gw).trans hk
  obtain⟨S2,g2,bc,_⟩:=GB aJ b9 hp (xs:=xs) (λg' gx e' af pt _=>by
   rw[hg]at af;simp at af;subst af;rw[hh]at pt;simp at pt;obtain⟨rfl,_⟩:=pt;exact ng S1 w bB eA)
  refine⟨S2,γ,by rw[fR];exact bc,λi=>?_⟩;rw[px];exact hc i
 |da l=>
  simp only[uO]at h;split at h
  .rename_i σ1 hd;simp only[j5,j9,kq]at h;subst h;obtain⟨S',aZ,bP⟩:=Cd l σ σ1 S hR hc hd;exact⟨S',γ,aZ,bP⟩
  .simp at h
theorem CA{R:Type}{r:R}:∀{gs:List Gh}{σ:St}{S:aq}{γ:Nat->Value}{k:St->Option R},Rel N np S0 w0 refs σ a w S γ->bM σ->rb np gs σ k=some r->
  ∃σ' S' γ',Rel N np S0 w0 refs σ' a w S' γ'/\bM σ'/\k σ'=some r
 |[],σ,S,γ,k,hR,hc,h=>⟨σ,S,γ,hR,hc,h⟩
 |g::gs,σ,S,γ,k,hR,hc,h=>by
  simp only[rb]at h;split at h
  .rename_i b σ1 hg;cases b with
   |false=>simp at h
   |true=>obtain⟨S1,γ1,aJ,dK⟩:=OH hR hc hg;exact CA aJ dK h
  .simp at h
end
section
variable{N:NT}{np:Nat}{S0:aq}{w0:World}{refs:Refs}{σ:St}{a:Go.Act}{w:World}{S:aq}{γ:Nat->Value}
def exOf:Ex->Exit
 |.normal=> .normal
 |.exit i=> .exit i
 |.ret=> .ret
def dt:Nat->Code->List (Nat×Code)
 |b,.seq x y=>dt b x++dt b y
 |b,.cond _ x y=>dt b x++dt b y
 |_,.block id c=>dt id c
 |b,.loop c=>(b,c)::dt b c
 |b,.rangeFunc g ps x y=>[(b,.rangeFunc g ps x y)]
 |b,.scope c=>dt b c
 |_,_=>[]
def wi(E:Env)(b:Nat)(c:Code):Prop:=
 ∀(s:Snap)(R:Type)(k:Ex->Snap->Option R)(r:R),E.L b s R k=some r->∃n e s',loopN (AQ E b c) n s=some (e,s')/\k e s'=some r
def MrOK(E:Env)(b:Nat)(c:Code):Prop:=
 ∀(m nm:Nat)(p:MrP),E.mr b=some (m,nm)->mrP b c=some p->∀(s:Snap)(R:Type)(k:Snap->Option R)(r:R),E.M b s R k=some r->
  ∃(em:Nat)(v:Ty)(xs ys:List (Int×v.den)),isM em=true/\s=dU s em v xs/\
   (∀zs,(bj E.np (E.keep b) (dU s em v zs)).bx nm = .live (.lst em (.pair (.int .i64) v) zs false)/\(bj E.np (E.keep b) (dU s em v zs)).sl m = .one (.one (.ol nm)))/\
   All2 (λx y=>y.1=x.1/\∀zs,tb E b p m (dU s em v zs) v x.1 x.2 some=some (dU s em v (@gH _ _ (Ty.int .i64).keq zs x.1 y.2))) xs ys/\k (dU s em v ys)=some r
theorem wj(p:Nat->Prop):∀n,p n->∃m,p m/\∀j,p j->m<=j:=by
 intro n;induction n using Nat.strongRecOn with
 |_ n ih=>
  intro h;by_cases hj:∃j,j<n/\p j
  .obtain⟨j,hj,hp⟩:=hj;exact ih j hj hp
  .exact⟨n,h,λj hp=>Nat.le_of_not_lt λhl=>hj ⟨j,hl,hp⟩⟩
open Classical in
noncomputable def yR(p:Nat->Prop):Nat:=if h:∃n,p n then (wj p h.choose h.choose_spec).choose else 0
theorem HV{p:Nat->Prop}{n:Nat}(h:p n):p (yR p)/\yR p<=n:=by
 unfold yR;have hx:∃n,p n:=⟨n,h⟩;rw[dif_pos hx];exact⟨(wj p hx.choose hx.choose_spec).choose_spec.1,(wj p hx.choose hx.choose_spec).choose_spec.2 n h⟩
theorem CB{P:Program}{F:Fence}{n0:Nat}{Q:Exit->Go.Act->World->Prop}{c:Code}(I:Nat->Go.Act->World->Prop){n:Nat}(h₀:I n a w)
  (round:∀n a w,I n a w->c.wpIn F n0 P (Exit.then (λa' w'=>∃m,m<n/\I m a' w') Q) a w):(Code.loop c).wpIn F n0 P Q a w:=by
 refine wpIn_loop (λa w=>∃n,I n a w) (λa w=>yR λn=>I n a w) ⟨n,h₀⟩ (λa w hI=>?_);obtain⟨m,hm⟩:=hI;have hl:=(HV (p:=λn=>I n a w) hm).1;refine wpIn_mono (round _ a w hl) (λe a' w' h=>?_);cases e with
 |normal=>obtain⟨m',ak,HW⟩:=h;exact⟨⟨m',HW⟩,Nat.lt_of_le_of_lt (HV (p:=λn=>I n a' w') HW).2 ak⟩
 |_=>exact h
def sd(w0:World)(refs:Refs):Prop:=
 refs.ds.Nodup/\∀d∈refs.ds,∃D,d={ target:= .collected D,args:=#[] }/\w0.heap.size<=D/\refs.kw D=some (.deferred (some []))
structure qB(w0:World)(refs refs':Refs):Prop where
 blks:refs'.blks=refs.blks
 val:refs'.val=refs.val
 fix:refs'.fix=refs.fix
 marks:sd w0 refs'
 mv:refs'.mv=refs.mv
theorem qB.trans{r r' HX:Refs}(h:qB w0 r r')(h':qB w0 r' HX):qB w0 r HX:=⟨h'.blks.trans h.blks,h'.val.trans h.val,h'.fix.trans h.fix,h'.marks,h'.mv.trans h.mv⟩
def Post(E:Env)(S0:aq)(w0:World)(refs:Refs)(pl:Bool){R:Type}(k:Ex->St->Option R)(r:R):Exit->Go.Act->World->Prop:=
 λe a' w'=>∃refs' ex σ' S' γ',qB w0 refs refs'/\(pl=true->refs'=refs)/\exOf ex=e/\Rel E.N E.np S0 w0 refs' σ' a' w' S' γ'/\bM σ'/\k ex σ'=some r
theorem CC{E:Env}{pl:Bool}{R:Type}{k:Ex->St->Option R}{r:R}:¬LetsOut (Post E S0 w0 refs pl k r):=by
 rintro⟨a,w,refs',ex,_,_,_,_,_,he,_⟩
 cases ex<;>simp[exOf]at he
def ItOK(P:Program)(f:Nat)(kd:Bool)(t:Ty):Prop:=
 Fun P f/\∀(cv:Array Value)(l:Nat)(J:Int->aq->World->Prop)(Je Jx:World->Prop)(W:World)(S:aq)(HY:List t.den),
  (∀c S W S' W',Grew W W'->Cx S W S' W'->J c S W->J c S' W')->(∀W W',Grew W W'->Je W->Je W')->(∀W W',Grew W W'->Jx W->Jx W')->(∀c S W,J c S W->∀g o,S g o->g<W.heap.size)->
  (∀c S W,J c S W->∃xs:List t.den,All2 (gh S W) [.p [⟨.list t,xs⟩]] cv.toList/\(AO kd xs.length c=true->Je W)/\
   (AO kd xs.length c=false->itOk kd xs.length c=true/\∀S' W' vs,Grew W W'->Cx S W S' W'->All2 (VRep S' W') (xX kd t xs c) vs->
    YieldAt (FR none) 0 P l vs.toArray W' λe W'=>(e = .returned (.bool true)/\∃S',J (xW kd c) S' W')\/(e = .returned (.bool false)/\Jx W')))->
  (∃S',(∀g o,S' g o->g<W.heap.size)/\All2 (gh S' W) [.p [⟨.list t,HY⟩]] cv.toList)->J (xV kd HY.length) S W->
  CallsIn (FR none) 0 P f (#[.func (.yield l) #[] #[]]++cv) W λe W'=>(∃v,e = .returned v)/\(Je W'\/Jx W')
def HZ(P:Program)(fK fS e:Nat):Prop:=Fun P fK/\Fun P fS/\∀(w:World)(g:Nat)(es:Array MapEntry)(clock:Nat)(ks:List Int),
 w.heap[g]? = some (.map es clock)->MapKept.Stamped es clock->es.toList.map (·.key)=ks.map (Value.int .i64)->(∀x∈ks, -9223372036854775808<=x/\x<=9223372036854775807)->ks.length<=1000000->
 Calls P fK #[.map (some g)] w λr w1=>∃c,r = .returned c/\Grew w w1/\Calls P fS #[c] w1 λr2 w2=>∃v,r2 = .returned v/\w2.ownsRow w1.heap.size e 1 v ks.length ((qW ks).map (Value.int .i64))/\Grew w1 w2
def H0(P:Program)(f e sz:Nat):Prop:=Fun P f/\∀(w:World)(n:Int),0<=n->n<=1000000->
 Calls P f #[.slice none 0 0,.int .i64 n] w λr w'=>∃v,r = .returned v/\w'.ownsRow w.heap.size e sz v 0 []/\Grew w w'
def BwK(P:Program)(f:Nat):Bool×Ty->Prop
 |(true,.arr fK (.arr e .bool))=>HZ P fK f e
 |(true,.arr e (.arr sz .unit))=>H0 P f e sz
 |(kd,t)=>ItOK P f kd t
theorem BwK.it{P:Program}{f:Nat}{kd:Bool}{t:Ty}(h:BwK P f (kd,t))(ht:kd=true->t=segT):ItOK P f kd t:=by
 cases kd with
 |false=>exact h
 |true=>obtain rfl:=ht rfl;exact h
section
variable{N:NT}{np:Nat}{S0:aq}{w0:World}{refs:Refs}{σ:St}{a:Go.Act}{w:World}{S:aq}{γ:Nat->Value}
theorem OJ(ks:List Int):(qW ks).length=ks.length:=by
 have hi:∀(x:Int)(l:List Int),(insI x l).length=l.length+1:=by
  intro x l;induction l with
  |nil=>rfl
  |cons y r ih=>unfold insI;cases decide (x<=y)<;>simp[ih]
 induction ks with
 |nil=>rfl
 |cons x r ih=>simp[qW,hi,ih]
theorem wk{vt:Ty}:∀{xs:List (Int×vt.den)}{l:List MapEntry},All2 (λ(x:(Ty.int .i64).den×vt.den)(e:MapEntry)=>Rep S w (.int .i64) x.1 [e.key]/\VRep S w ⟨vt,x.2⟩ e.val) xs l->
  l.map (·.key)=(xs.map λx=>x.1).map (Value.int .i64)
 |[],[],_=>rfl
 |[],_::_,h=>h.elim
 |_::_,[],h=>h.elim
 |y::r,z::q,h=>by
  have h1:[z.key]=[Value.int .i64 y.1]:=h.1.1;simp only[qb,zh];exact⟨by simpa using h1,wk h.2⟩
theorem OL{P:Program}{E:Env}(eM:∀f t,E.bw f=some t->BwK P f t)(hR:Rel E.N E.np S0 w0 refs σ a w S γ)(hc:bM σ){o o2:Oper}(hd:gR E.N o=true)(na:gR E.N o2=true)
  {σ':St}(h:AJ E σ o o2=some (true,σ')){next qC:Go.Act->World->Prop}{Q:Exit->Go.Act->World->Prop}
  (iw:∀a1 w1,o2.wp P a1 w1 next Q->qC a1 w1)(hn:∀a' w' S' γ',Rel E.N E.np S0 w0 refs σ' a' w' S' γ'->bM σ'->next a' w'):o.wp P a w qC Q:=by
 unfold AJ at h;split at h
 case h_2=>simp at h
 rename_i c1 c2 ho rV;split at h
 case h_2=>simp at h
 rename_i f1 x f2 d dK wm gI u4;split at h
 case h_2=>simp at h
 rename_i fK b fS kE hx nY;split at h
 case h_2=>simp at h
 rename_i AK e em ta xs fr CD yS;split at h
 case h_2=>simp at h
 rename_i cq ys wo;split at h
 case isFalse=>simp at h
 rename_i aT;obtain⟨rfl,wq,oz,wu,ay⟩:=aT;simp only[j5,j9]at h;obtain⟨rfl,rfl⟩:=h;obtain⟨OM,ON,cj⟩:HZ P AK fS e:=eM _ _ CD;have wv:=gT hR x;rw[hx]at wv;have vS:a.eval x=γ b:=wv.1.2.2 _ yS;unfold FI at wo;split at wo
 case h_2=>simp at wo
 rename_i vt xs;simp only[j5,j9]at wo;obtain⟨aM,rfl⟩:=wo
 obtain⟨g,es,clock,hg,hh,ah,aj⟩:uT S w (.pair (.int .i64) vt) xs (γ b):=by
  rcases (hR.box b _ yS).1 with⟨hm,_⟩|⟨_,hm⟩
  .rw[oz]at hm;simp at hm
  .exact hm
 unfold FH at aM;simp only[jb,ji,jg]at aM;have nf:xs.length<=1000000:=qh aM.1;have nq:es.toList.map (·.key)=(xs.map λx=>x.1).map (Value.int .i64):=by exact wk ah
 have bS:=cj w g es clock (xs.map λx=>x.1) hh aj.1 nq (λz hz=>by
  obtain⟨y,hy,rfl⟩:=jy.1 hz;exact aM.2 y hy) (by simpa using nf)
 have wx:=gT hR f1;rw[kE]at wx;obtain⟨cv,vC,fA⟩:=wx.1
 obtain rfl:cv = #[]:=by
  have:cv.toList=[]:=by
   cases hq:cv.toList with
   |nil=>rfl
   |cons=>rw[hq]at fA;exact fA.elim
  exact qm.1 this
 have ai:=vJ (w:=w) OM ho dK vC;have e1:c1.args.map a.eval ++ #[] = #[.map (some g)]:=by apply k8;simp[wm,vS,hg]
 rw[e1]at ai;unfold Oper.wp;rw[ai,Oper.upon_enter];refine bS.mono ?_
 rintro r w1 ⟨c,rfl,gK,CE⟩
 have aJ:=hR.grew gK (S':=S) ⟨λ_ _ h=>h,λ_ _ h=> .inl h,λg o h=>q7 (hR.here g o h) gK.size⟩;obtain⟨bc,CF⟩:=tM aJ hc (rW hd) (s:= .one (.one .dead)) (v:=c) ⟨trivial,λh=>absurd rfl h⟩ rfl;have wy:=gT bc f2;rw[nY]at wy;obtain⟨cv,vg,fA⟩:=wy.1
 obtain rfl:cv = #[]:=by
  have:cv.toList=[]:=by
   cases hq:cv.toList with
   |nil=>rfl
   |cons=>rw[hq]at fA;exact fA.elim
  exact qm.1 this
 have jQ:=vJ (w:=w1) ON rV gI vg;have OO:d<a.tmps.size:=by rw[hR.size];exact(rW hd d wq).1
 have e2:c2.args.map (a.put o.dst c).eval ++ #[] = #[c]:=by
  apply k8;have:(a.put o.dst c).eval (.tmp d)=c:=by show tm (a.put o.dst c) d=c;rw[wq,kL OO,if_pos rfl]
  simp[u4,this]
 rw[e2]at jQ;refine iw _ _ ?_;unfold Oper.wp;rw[jQ,Oper.upon_enter];refine CE.mono ?_
 rintro r2 w2 ⟨v,rfl,bb,kO⟩
 have fQ:(σ.setD o.dst (.one (.one .dead))).bx ((o2.dst.getD 0)*64) = .free:=by
  rw[show (σ.setD o.dst (.one (.one .dead))).bx=σ.bx by rw[wq];rfl];cases hq:σ.bx ((o2.dst.getD 0)*64) with
  |free=>rfl
  |gone=>rw[hq]at ay;simp[ee]at ay
  |live=>rw[hq]at ay;simp[ee]at ay
 have hblk:∀g',blk v=some g'->w1.heap.size<=g'/\g'<w2.heap.size:=by
  intro g' af;rcases bb.2 with⟨rfl,_⟩|⟨gb,cap,cur,rfl,cI,rT,_⟩
  .simp[blk]at af
  .simp[blk]at af;subst af;exact⟨cI,(jc.1 rT).1⟩
 have ig:w2.ownsRow 0 e (Ty.int .i64).size v (nF xs).length (((nF xs).map (λx=>[Value.int .i64 x])).flatten):=by
  have e3:((nF xs).map (λx=>[Value.int .i64 x])).flatten=(qW (xs.map λx=>x.1)).map (Value.int .i64):=by
   unfold nF;induction qW (xs.map λx=>x.1) with
   |nil=>rfl
   |cons y r ih=>simp only[qb,k9,ih];rfl
  rw[e3,show (nF xs).length=(xs.map λx=>x.1).length from OJ _];refine⟨bb.1,?_⟩;rcases bb.2 with hl|⟨gb,cap,cur,h1,h2,h3⟩
  .exact .inl hl
  .exact .inr ⟨gb,cap,cur,h1,jw _,h3⟩
 have CG:=tu bc fQ (w':=w2) (S':=S) (v':=v) (e:=e) wu (el:= .int .i64) (zs:=nF xs) (frz:=false) (css:=(nF xs).map λx=>[Value.int .i64 x])
  (λg' o' hs=>⟨hs,World.cell?_of_block (kO.old g' (bc.here g' o' hs))⟩) (λg' af _=>kO.old g' af) kO.size
  (λg' af=>⟨.inl (ko bc.grow (hblk g' af).1),λk b' al hk=>by have:=fm (bc.box k b' al) hk;have:=(hblk g' af).1;omega,(hblk g' af).2⟩)
  (λ_ _ h=> .inl h) kO.os kO.tape kO.output ig (by
   generalize nF xs=l
   induction l with
   |nil=>trivial
   |cons y r ih=>exact⟨rfl,ih⟩)
  (λg' af=>⟨λ_ o' hs=>by have:=bc.here g' o' hs;have:=(hblk g' af).1;omega,λh=>by simp at h⟩) (λg' af=>bc.kw_new (hblk g' af).1)
 obtain⟨e7,iO⟩:=CG;obtain⟨jR,jS⟩:=tM e7 (λi=>CF i) (rW na) (s:= .one (.one (.ol ((o2.dst.getD 0)*64)))) (v:=v) iO rfl;exact hn _ _ _ _ jR jS
theorem OP{P:Program}{E:Env}(eM:∀f t,E.bw f=some t->BwK P f t)(hR:Rel E.N E.np S0 w0 refs σ a w S γ)(hc:bM σ){o:Oper}(hd:gR E.N o=true)
  {σ':St}(h:AL E σ o=some (true,σ')){next:Go.Act->World->Prop}{Q:Exit->Go.Act->World->Prop}
  (hn:∀a' w' S' γ',Rel E.N E.np S0 w0 refs σ' a' w' S' γ'->bM σ'->next a' w'):o.wp P a w next Q:=by
 unfold AL at h;split at h
 case h_2=>simp at h
 rename_i c1 ho;split at h
 case h_2=>simp at h
 rename_i f1 x y dK wm;split at h
 case h_2=>simp at h
 rename_i fG n kE hx hy;split at h
 case h_2=>simp at h
 rename_i e sz ti CD pr;split at h
 case h_2=>simp at h
 rename_i ta aD;split at h
 case isFalse=>simp at h
 rename_i aT;obtain⟨rfl,wu,ay⟩:=aT;simp only[j5,j9,jb,jg]at h;obtain⟨⟨kF,iw⟩,rfl⟩:=h;obtain⟨OQ,cj⟩:H0 P fG e ta.size:=eM _ _ CD;have wv:=gT hR x;rw[hx]at wv;have vS:a.eval x = .slice none 0 0:=wv.1;have H2:=gT hR y;rw[hy]at H2;have B7:a.eval y = .int .i64 n:=nU H2;have wx:=gT hR f1;rw[kE]at wx;obtain⟨cv,vC,fA⟩:=wx.1
 obtain rfl:cv = #[]:=by
  have:cv.toList=[]:=by
   cases hq:cv.toList with
   |nil=>rfl
   |cons=>rw[hq]at fA;exact fA.elim
  exact qm.1 this
 have ai:=vJ (w:=w) OQ ho dK vC;have e1:c1.args.map a.eval ++ #[] = #[.slice none 0 0,.int .i64 n]:=by apply k8;simp[wm,vS,B7]
 rw[e1]at ai;unfold Oper.wp;rw[ai,Oper.upon_enter];refine(cj w n kF iw).mono ?_
 rintro r w1 ⟨v,rfl,bb,gK⟩
 have fQ:σ.bx ((o.dst.getD 0)*64) = .free:=by
  cases hq:σ.bx ((o.dst.getD 0)*64) with
  |free=>rfl
  |gone=>rw[hq]at ay;simp[ee]at ay
  |live=>rw[hq]at ay;simp[ee]at ay
 have hblk:∀g',blk v=some g'->w.heap.size<=g'/\g'<w1.heap.size:=by
  intro g' af;rcases bb.2 with⟨rfl,_⟩|⟨gb,cap,cur,rfl,cI,rT,_⟩
  .simp[blk]at af
  .simp[blk]at af;subst af;exact⟨cI,(jc.1 rT).1⟩
 have ig:w1.ownsRow 0 e ta.size v ([]:List ta.den).length (([]:List (List Value)).flatten):=by
  refine⟨bb.1,?_⟩;rcases bb.2 with hl|⟨gb,cap,cur,h1,h2,h3⟩
  .exact .inl hl
  .exact .inr ⟨gb,cap,cur,h1,jw _,h3⟩
 have CG:=tu hR fQ (w':=w1) (S':=S) (v':=v) (e:=e) wu (el:=ta) (zs:=[]) (frz:=false) (css:=[])
  (λg' o' hs=>⟨hs,World.cell?_of_block (gK.old g' (hR.here g' o' hs))⟩) (λg' af _=>gK.old g' af) gK.size
  (λg' af=>⟨.inl (ko hR.grow (hblk g' af).1),λk b' al hk=>by have:=fm (hR.box k b' al) hk;have:=(hblk g' af).1;omega,(hblk g' af).2⟩)
  (λ_ _ h=> .inl h) gK.os gK.tape gK.output ig trivial
  (λg' af=>⟨λ_ o' hs=>by have:=hR.here g' o' hs;have:=(hblk g' af).1;omega,λh=>by simp at h⟩) (λg' af=>hR.kw_new (hblk g' af).1)
 obtain⟨e7,iO⟩:=CG;obtain⟨jR,jS⟩:=tM e7 (λi=>hc i) (rW hd) (s:= .one (.one (.ol ((o.dst.getD 0)*64)))) (v:=v) iO rfl;exact hn _ _ _ _ jR jS
theorem H3{P:Program}{E:Env}(hT:bk P E.T)(hC:fW P E.C)(eM:∀f t,E.bw f=some t->BwK P f t)(hR:Rel E.N E.np S0 w0 refs σ a w S γ)(hc:bM σ){o:Oper}(hd:gR E.N o=true){R:Type}{k:St->Option R}{r:R}
  (h:runK E σ o k=some r){next:Go.Act->World->Prop}{Q:Exit->Go.Act->World->Prop}
  (hn:∀σ' a' w' S' γ',Rel E.N E.np S0 w0 refs σ' a' w' S' γ'->bM σ'->k σ'=some r->next a' w'):o.wp P a w next Q:=by
 unfold runK at h;split at h
 .rename_i c σ' hg;cases c with
  |false=>simp at h
  |true=>exact OP eM hR hc hd hg (λa' w' S' γ' aZ bP=>hn _ _ _ _ _ aZ bP h)
 .exact vT hT hC hR (act:=[]) (λg hg=>by simp at hg) (p:=false) (λ_=>hc) hd h (λσ' a' w' S' γ' aZ bP hk=>hn _ _ _ _ _ aZ (bP rfl) hk)
theorem CH{P:Program}{E:Env}(hT:bk P E.T)(hC:fW P E.C)(eM:∀f t,E.bw f=some t->BwK P f t){ops:Array Oper}(bE:bare ops=true){R:Type}{k:St->Option R}{r:R}{Q:Exit->Go.Act->World->Prop}
  (hn:∀σ' a' w' S' γ',Rel E.N E.np S0 w0 refs σ' a' w' S' γ'->bM σ'->k σ'=some r->Q .normal a' w') :
  ∀(n i:Nat)(σ:St)(a:Go.Act)(w:World)(S:aq)(γ:Nat->Value),i+n=ops.size->Rel E.N E.np S0 w0 refs σ a w S γ->bM σ->nL E (ops.toList.drop i) σ k=some r->
   wpOps P ops Q (List.range' i n) a w
 |0,i,σ,a,w,S,γ,hi,hR,hc,h=>by
  rw[jd (by simp;omega)]at h;exact hn _ _ _ _ _ hR hc h
 |1,i,σ,a,w,S,γ,hi,hR,hc,h=>by
  have ak:i<ops.size:=by omega
  rw[je (by simpa using ak),jd (by simp;omega)]at h;simp only[nL]at h;split at h
  .rename_i hd;have ho:ops[i]? = some ops[i]:=jh ak;simp only[qz,wpOps,ho];have hg:ops[i].guard=none:=by have:=ji.1 bE ops[i] (by simp);simpa using this
   have hw:Region.wanted ops[i] (yielded ops a.tmps)=true:=by simp[Region.wanted,hg]
   simp only[hw,if_true];exact .inl (H3 hT hC eM hR hc (by simpa using hd) (by simpa using h) (λσ' a' w' S' γ' aZ bP hk=>hn _ _ _ _ _ aZ bP hk))
  .simp at h
 |n+2,i,σ,a,w,S,γ,hi,hR,hc,h=>by
  have ak:i<ops.size:=by omega
  have oG:i+1<ops.size:=by omega
  rw[je (by simpa using ak),je (by simpa using oG)]at h;simp only[nL]at h;have ho:ops[i]? = some ops[i]:=jh ak;have rV:ops[i+1]? = some ops[i+1]:=jh oG
  have hw:∀(j:Nat)(hj:j<ops.size)(a:Go.Act),Region.wanted ops[j] (yielded ops a.tmps)=true:=λj hj a=>by
   have hg:ops[j].guard=none:=by have:=ji.1 bE ops[j] (by simp);simpa using this
   simp[Region.wanted,hg]
  split at h
  case isFalse=>simp at h
  rename_i hd;split at h
  .rename_i cq σ' nq;split at h
   case isFalse=>simp at h
   rename_i na;cases cq with
   |false=>simp at h
   |true=>simp only[j6]at h;simp only[qz,wpOps,ho,rV,hw i ak,hw (i+1) oG,if_true];refine .inl (OL eM hR hc (by simpa using hd) (by simpa using na) (by simpa using nq) (λa1 w1 hq=> .inl hq) (λa' w' S' γ' aZ bP=>?_));exact CH hT hC eM bE hn n (i+2) σ' a' w' S' γ' (by omega) aZ bP h
  .rw[qz];simp only[wpOps,ho,hw i ak,if_true];refine .inl (H3 hT hC eM hR hc (by simpa using hd) (by simpa using h) (λσ' a' w' S' γ' aZ bP hk=>?_));refine CH hT hC eM bE hn (n+1) (i+1) σ' a' w' S' γ' (by omega) aZ bP ?_;rw[je (by simpa using oG)];simpa using hk
theorem OR{P:Program}{E:Env}(hT:bk P E.T)(hC:fW P E.C)(eM:∀f t,E.bw f=some t->BwK P f t)(hR:Rel E.N E.np S0 w0 refs σ a w S γ)(hc:bM σ){ops:Array Oper}{R:Type}{k:St->Option R}{r:R}
  {Q:Exit->Go.Act->World->Prop}(hn:∀σ' a' w' S' γ',Rel E.N E.np S0 w0 refs σ' a' w' S' γ'->bM σ'->k σ'=some r->Q .normal a' w')(h:uI E ops σ k=some r) :
  wpOps P ops Q (List.range ops.size) a w:=by
 rw[List.range_eq_range'];unfold uI at h;split at h
 .rename_i hb;exact CH hT hC eM hb hn ops.size 0 σ a w S γ (by omega) hR hc (by simpa using h)
 .simp at h
end
def yT(P:Program)(E:Env)(ro:Option Nat)(c:Code):Prop:=
 ∀(b n:Nat){S0:aq}{w0:World}{refs:Refs}{σ:St}{a:Go.Act}{w:World}{S:aq}{γ:Nat->Value}{R:Type}{k:Ex->St->Option R}{r:R},sd w0 refs->
  (∀x∈dt b c,wi E x.1 x.2/\MrOK E x.1 x.2)->Rel E.N E.np S0 w0 refs σ a w S γ->bM σ->dg E b c σ k=some r->c.wpIn (FR ro) n P (Post E S0 w0 refs (bU c) k r) a w
theorem oH:∀(c:Code)(b:Nat),bU c=true->dt b c=[]
 |.seq x y,b,h=>by simp only[bU,jb]at h;simp[dt,oH x b h.1,oH y b h.2]
 |.cond _ x y,b,h=>by simp only[bU,jb]at h;simp[dt,oH x b h.1,oH y b h.2]
 |.block id c,b,h=>by simp only[bU]at h;simp[dt,oH c id h]
 |.loop c,b,h=>by simp[bU]at h
 |.rangeFunc _ _ _ _,b,h=>by simp[bU]at h
 |.skip,_,_=>rfl
 |.region _ _ _,_,_=>rfl
 |.exit _,_,_=>rfl
 |.goto _,_,_=>rfl
 |.label _,_,_=>rfl
 |.ret,_,_=>rfl
 |.scope c,b,h=>by simp only[bU]at h;simp[dt,oH c b h]
theorem H4:∀(L:List (Nat×Value))(T:Array Value),kV (L.map (·.1))=true->(∀q∈L,q.1<T.size)->
  (∀q∈L,(L.foldl (λt (q:Nat×Value)=>t.setIfInBounds q.1 q.2) T).getD q.1 undef=q.2)/\(∀i,i∉L.map (·.1)->(L.foldl (λt (q:Nat×Value)=>t.setIfInBounds q.1 q.2) T).getD i undef=T.getD i undef)/\
  (L.foldl (λt (q:Nat×Value)=>t.setIfInBounds q.1 q.2) T).size=T.size
 |[],T,_,_=>⟨λq h=>by simp at h,λ_ _=>rfl,rfl⟩
 |q::r,T,hn,hb=>by
  simp only[qb,kV,jb,kf,kg,k7]at hn;obtain⟨h1,h2,h3⟩:=H4 r (T.setIfInBounds q.1 q.2) hn.2 (λp hp=>by simpa using hb p (by simp[hp]));have hq:=hb q (by simp);refine⟨λp hp=>?_,λi hi=>?_,by simpa using h3⟩
  .rcases jf.1 hp with rfl|hp
   .show (List.foldl (λt (q:Nat×Value)=>t.setIfInBounds q.1 q.2) (T.setIfInBounds p.1 p.2) r).getD p.1 undef=_;rw[h2 p.1 hn.1];simp[Array.getD,hq]
   .exact h1 p hp
  .simp only[qb,jf,not_or]at hi;show (List.foldl (λt (q:Nat×Value)=>t.setIfInBounds q.1 q.2) (T.setIfInBounds q.1 q.2) r).getD i undef=_;rw[h2 i hi.2];rw[qp,Array.getElem?_setIfInBounds,if_neg (λh=>hi.1 h.symm),<-qp]
theorem H5{N:NT}{np:Nat}:∀(L:List (Nat×TV)){σ:St},Rel N np S0 w0 refs σ a w S γ->bM σ->(∀q∈L,VRep S w q.2 (tm a q.1))->Rel N np S0 w0 refs (setL L σ) a w S γ/\bM (setL L σ)
 |[],_,hR,hc,_=>⟨hR,hc⟩
 |q::r,σ,hR,hc,hv=>by
  have h1:=Cb hR (s:=q.1) (x:= .one (jD q.2.t q.2.v)) (rJ (hv q (by simp)));refine H5 r h1 (λi=>?_) (λp hp=>hv p (by simp[hp]));simp only[St.setS];split
  .rfl
  .exact hc i
theorem H6{S:aq}{w:World}:∀{ps:List Nat}{xs:List TV}{vs:List Value},All2 (VRep S w) xs vs->∀q∈ps.zip xs,∃v,(q.1,v)∈ps.zip vs/\VRep S w q.2 v
 |[],_,_,_,q,h=>by simp at h
 |p::ps,[],vs,_,q,h=>by simp at h
 |p::ps,x::xs,[],h2,q,h=>h2.elim
 |p::ps,x::xs,v::vs,h2,q,h=>by
  simp only[List.zip_cons_cons,jf]at h;rcases h with rfl|h
  .exact⟨v,by simp,h2.1⟩
  .obtain⟨u,h3,h4⟩:=H6 h2.2 q h;exact⟨u,by simp[h3],h4⟩
theorem H7:∀(ps:List Nat)(vs:List Value),kV ps=true->kV ((ps.zip vs).map (·.1))=true
 |[],_,_=>by simp[kV]
 |p::ps,[],_=>by simp[kV]
 |p::ps,v::vs,h=>by
  simp only[kV,jb,kf,kg,k7,List.zip_cons_cons,qb]at h ⊢;refine⟨λhm=>h.1 ?_,H7 ps vs h.2⟩;obtain⟨q,hq,he⟩:=jy.1 hm;rw[<-he];exact(List.of_mem_zip hq).1
theorem OS{kd:Bool}{t:Ty}{xs:List t.den}{c:Int}(h:kd=true->t=segT):(xX kd t xs c).length=cond kd 1 2:=by
 cases kd with
 |false=>rfl
 |true=>have:=h rfl;subst this;rfl
theorem OT{P:Program}{E:Env}(eM:∀f t,E.bw f=some t->BwK P f t)(gC:E.N.pin=λ_=>false){b n:Nat}{g:Operand}{ps:Array Nat}{x y:Code}
  (mm:∀l,bU x=true->yT P (E.rnd ps x y) (some l) x)(mn:∀l,bU y=true->yT P (E.rnd ps x y) (some l) y)
  (OU:wi E b (.rangeFunc g ps x y)){R:Type}{k:Ex->St->Option R}{r:R}(hm:sd w0 refs)(hR:Rel E.N E.np S0 w0 refs σ a w S γ)(hc:bM σ)
  (h:dg E b (.rangeFunc g ps x y) σ k=some r) :
  (Code.rangeFunc g ps x y).wpIn (FR none) n P (Post E S0 w0 refs (bU (.rangeFunc g ps x y)) k r) a w:=by
 refine Oz (n:=1) ?_;simp only[dg]at h;split at h
 case h_2=>simp at h
 rename_i f t xs ll;split at h
 case h_2=>simp at h
 rename_i kd aM;split at h
 case h_2=>simp at h
 rename_i s hs;obtain⟨OV,e,s',wz,hk⟩:=OU _ R _ r h;have aG:=gT hR g;rw[ll]at aG;obtain⟨⟨cv,H8,fA⟩,_⟩:=aG;obtain⟨S1,γ1,aJ,dK⟩:=nt hR hc hs
 have parts:∀f t kd,rfK E b f t ps x y=some kd->E.bw f=some (kd,t)/\(kd=true->t=segT)/\ps.toList.length=cond kd 1 2/\kV ps.toList=true/\(∀p∈ps.toList,p<E.N.n)/\bU x=true/\bU y=true/\pinK ps x y (E.keep b)=true:=by
  intro f t kd aM;unfold rfK at aM;split at aM
  case h_2=>simp at aM
  rename_i q hq;cases mo:(decide (q.2=t)&&(cond q.1 (decide (t=segT)) true&&(decide (ps.toList.length=cond q.1 1 2)&&(kV ps.toList&&(ps.toList.all (λp=>decide (p<E.N.n))&&(bU x&&(bU y&&pinK ps x y (E.keep b)))))))) with
  |false=>rw[mo]at aM;simp at aM
  |true=>
  rw[mo,j6,j5]at aM;subst aM;simp only[jb,jg,ji]at mo;obtain⟨h1,h0,h2,h3,h4,h5,h6,h7⟩:=mo;exact⟨by rw[hq,<-h1],λhk=>by rw[hk]at h0;exact qe h0,h2,h3,h4,h5,h6,h7⟩
 obtain⟨tG,H9,h2,bV,ak,sf,sg,Ia⟩:=parts f t kd aM;obtain⟨⟨Ib,CI,qD,bn⟩,pY⟩:=(eM f _ tG).it H9
 have OW:∀args w,(callFunc f args).run P w = .ok (.enter f args) w:=λargs w=>by
  have gn:¬Ib.body=none:=λhn=>by rw[hn]at qD;simp at qD
  have pR : ¬ Ib.name = "runtime.NumGoroutine" := by simpa using bn
  simp[callFunc,CI,gn,pR]
 refine wpIn_rangeFunc λfn _=>?_;obtain⟨rec,dL⟩:∃rec:LoopState->Option Code->Loop,rec=λst pe=>{ state:=st,pending:=pe,fn,tmps:=a.tmps,params:=ps,assign:=x,body:=y,defers:=w.heap.size }:=⟨_,rfl⟩;obtain⟨W1,tP⟩:∃W1,(w.alloc (.deferred (some []))).alloc (.loop (rec .ready none))=W1:=⟨_,rfl⟩
 refine⟨w.heap.size+1,[{ target:= .collected w.heap.size,args:=#[] }],W1,{ target:= .fn (.func f) cv,args:=#[.func (.yield (w.heap.size+1)) #[] #[]] },W1,f,
  #[.func (.yield (w.heap.size+1)) #[] #[]]++cv,W1,?_,?_,λ_ _=>trivial,?_,λhd=>by simp[FR,Fence.wide]at hd,?_⟩
 .rw[<-tP,dL];exact run_enterLoop_outer _ _ _ _ _
 .simp only[resolve,H8];simp[go_sem]
 .simp[invoke,go_sem,OW]
 obtain⟨l,hl⟩:∃l,l=w.heap.size+1:=⟨_,rfl⟩;rw[<-hl];let bg:(Nat->Option Value)->Obj->Refs:=λfx o=>{ blks:=refs.blks,val:=refs.val,ds:=[],kw:=λg=>if g=l then some o else if g=w.heap.size then some (.deferred (some [])) else refs.kw g,fix:=fx,mv:=refs.mv }
 let fx:Nat->Option Value:=λi=>if s5 ps x y i then some (a.tmps.getD i undef) else none
 let aI:Go.Act:={ tmps:=a.tmps,defers:=[] }
 have iy:∀fx o,(bg fx o).kw l=some o:=λfx o=>by simp[bg]
 have yU:w0.heap.size<=l:=by have:=hR.grow;omega
 have aC:∀fx o,sd w0 (bg fx o):=λfx o=>⟨List.nodup_nil,λd hd=>by simp[bg]at hd⟩
 have fD:∀{N:NT}{fx:Nat->Option Value}{o o':Obj}{σ:St}{a:Go.Act}{W:World}{S:aq}{γ:Nat->Value},o.isCells=false->o'.isCells=false->Rel N E.np S0 w0 (bg fx o) σ a W S γ->
   Rel N E.np S0 w0 (bg fx o') σ a (W.putObj l o') S γ:=by
  intro N fx o o' σ a W S γ h1 h2 hR;have:=hR.putO (iy fx o) yU h1 h2;refine this.swap rfl rfl this.size this.defers this.slot (λg u hg=>this.kept g u ?_) this.fix;simp only[bg]at hg ⊢;split
  .rename_i e;subst e;simpa using hg
  .rename_i e;simpa[e]using hg
 have mq:∀{N N':NT}{fx CJ:Nat->Option Value}{o:Obj}{K:Keep}{s:Snap}{a a':Go.Act}{W:World}{S:aq}{γ:Nat->Value},Rel N E.np S0 w0 (bg fx o) (bj E.np K s) a W S γ->a'.tmps.size=N'.n->a'.defers=[]->
   (∀i∈K.slots,tm a' i=tm a i)->(∀i v,CJ i=some v->N'.pin i=true/\a'.tmps.getD i undef=v)->Rel N' E.np S0 w0 (bg CJ o) (bj E.np K s) a' W S γ:=by
  intro N N' fx CJ o K s a a' W S γ hR h1 h2 h3 h4;exact hR.frame rfl rfl h1 h2 h3 (λg u hg=>hR.kept g u hg) h4
 have mu:∀i v,(λ_=>none:Nat->Option Value) i=some v->E.N.pin i=true/\aI.tmps.getD i undef=v:=λi v h=>by simp at h
 let J:Int->aq->World->Prop:=λc S W=>∃s γ fu,Rel E.N E.np S0 w0 (bg (λ_=>none) (.loop (rec .ready none))) (bj E.np (E.keep b) s) aI W S γ/\bM (bj E.np (E.keep b) s)/\
  loopN (s9 E b g ps x y) fu (.s (.one (.d (.int .i64) c))::s)=some (e,s')
 let Je:World->Prop:=λW=>∃S γ,Rel E.N E.np S0 w0 (bg (λ_=>none) (.loop (rec .ready none))) (bj E.np (E.keepX b e) s') aI W S γ/\bM (bj E.np (E.keepX b e) s')/\e = .normal
 let Jx:World->Prop:=λW=>∃S γ c,Rel E.N E.np S0 w0 (bg (λ_=>none) (.loop (rec .done (some c)))) (bj E.np (E.keepX b e) s') aI W S γ/\bM (bj E.np (E.keepX b e) s')/\
  ((e = .ret/\c = .ret)\/∃i,e = .exit i/\c = .exit i)
 have qE:∀K:Keep,pinK ps x y K=true->∀i∈K.slots,s5 ps x y i=true:=λK hK i hi=>ji.1 hK i hi;have qF:∀i,s5 ps x y i=true->i∉ps.toList:=by intro i hi;simp only[s5,jb,kf,kg,k7]at hi;exact hi.1
 have wA:J (xV kd xs.length) S1 W1:=by
  refine⟨s,γ1,OV,?_,dK,wz⟩;have hA:=(aJ.allocO (.deferred (some []))).allocO (.loop (rec .ready none));rw[tP]at hA;refine hA.frame rfl rfl hR.size rfl (λi _=>rfl) (λg' u af=>?_) mu;simp only[bg]at af;split at af
  .rename_i e';simp only[j5]at af;subst af;rw[e',hl];refine⟨?_,λk' b' al bD=>?_⟩
   .rw[<-tP];have:=World.alloc_heap_new (w.alloc (.deferred (some []))) (.loop (rec .ready none));rwa[World.size_alloc]at this
   .have:=fm (aJ.box k' b' al) bD;omega
  .split at af
   .rename_i _ e';simp only[j5]at af;subst af;rw[e'];refine⟨?_,λk' b' al bD=>?_⟩
    .rw[<-tP];exact(heap_alloc_old _ _ (by simp)).trans (World.alloc_heap_new w _)
    .have:=fm (aJ.box k' b' al) bD;omega
   .exact hA.kept g' u af
 have OX:aI.eval g=a.eval g:=by cases g<;>rfl
 have CK:aI.tmps.size=E.N.n:=hR.size
 have wB:∀{K:Keep}{s:Snap}{o:Obj}{W W':World}{S:aq}{γ:Nat->Value},Grew W W'->Rel E.N E.np S0 w0 (bg (λ_=>none) o) (bj E.np K s) aI W S γ->Rel E.N E.np S0 w0 (bg (λ_=>none) o) (bj E.np K s) aI W' S γ:=
  λhg h1=>h1.grew hg ⟨λ_ _ h=>h,λ_ _ h=> .inl h,λg o h=>q7 (h1.here g o h) hg.size⟩
 refine CallsIn.mono (pY cv l J Je Jx W1 S1 xs (λc S W S' W' hg hs ⟨s,γ,fu,h1,h2,h3⟩=>⟨s,γ,fu,h1.grew hg hs,h2,h3⟩) (λW W' hg ⟨S,γ,h1,h2⟩=>⟨S,γ,wB hg h1,h2⟩) (λW W' hg ⟨S,γ,c,h1,h2⟩=>⟨S,γ,c,wB hg h1,h2⟩)
  (λc S W ⟨s,γ,fu,h1,_⟩=>h1.here) ?_ ?_ wA) ?_
 ·-- a round
  rintro cn S W ⟨s,γ,fu,tQ,Ic,ny⟩
  cases fu with
  |zero=>simp[loopN]at ny
  |succ fu=>
  simp only[loopN]at ny;cases aj:s9 E b g ps x y (.s (.one (.d (.int .i64) cn))::s) with
  |none=>rw[aj]at ny;simp at ny
  |some r0=>
  rw[aj]at ny;unfold s9 uQ at aj;dsimp only at aj;split at aj
  case h_2=>simp at aj
  rename_i f' t' bJ si;split at aj
  case h_2=>simp at aj
  rename_i OY kM;have gX:=gT tQ g;rw[si,OX,H8]at gX;obtain⟨⟨cv',wC,cQ⟩,_⟩:=gX;simp only[Value.func.injEq,Fn.func.injEq,kq]at wC;obtain⟨rfl,rfl⟩:=wC;have ht:=(parts f t' OY kM).1;rw[tG]at ht;simp only[j5,j9]at ht;obtain⟨rfl,rfl⟩:=ht;refine⟨bJ,cQ,λCL=>?_,λCL=>?_⟩
  .rw[CL,j6]at aj;cases kP:pinK ps x y (E.keepX b .normal) with
   |false=>rw[kP]at aj;simp at aj
   |true=>
   rw[kP,j6]at aj;split at aj
   case h_2=>simp at aj
   rename_i s3 OZ;simp only[j5]at aj;subst aj;simp only[j5,j9]at ny;obtain⟨rfl,rfl⟩:=ny;obtain⟨S5,γ5,oI,sj⟩:=nt tQ Ic OZ;exact⟨S5,γ5,oI,sj,rfl⟩
  rw[CL,j7]at aj;cases hle:itOk kd bJ.length cn with
  |false=>rw[hle]at aj;simp at aj
  |true=>
  rw[hle,j6]at aj;refine⟨rfl,λSg Wg vs O0 O1 eP=>?_⟩;have tQ:=tQ.grew O0 O1;have pG:vs.toArray.size=ps.size:=by have e1:=eP.length;rw[OS H9]at e1;simp only[zj];rw[<-e1,<-h2,km]
  refine⟨fn,_,x,y,by have:=run_yield (P:=P) (args:=vs.toArray) (tQ.kept l _ (iy _ _)).1 (by rw[dL];exact pG);rw[dL]at this;exact this,roundIn_of_wpIn trivial ?_⟩;let a1:Go.Act:={ tmps:=(ps.zip vs.toArray).foldl (λt (q:Nat×Value)=>t.setIfInBounds q.1 q.2) a.tmps,defers:=[] }
  have jJ:(ps.zip vs.toArray).toList=ps.toList.zip vs:=by simp
  have wm:a1.tmps=(ps.toList.zip vs).foldl (λt (q:Nat×Value)=>t.setIfInBounds q.1 q.2) a.tmps:=by show (ps.zip vs.toArray).foldl _ _=_;rw[<-Array.foldl_toList,jJ]
  have dA:∀i,i∈(ps.toList.zip vs).map (·.1)->i∈ps.toList:=λi hi=>by
   obtain⟨q,hq,rfl⟩:=jy.1 hi;exact(List.of_mem_zip hq).1
  have CM:kV ((ps.toList.zip vs).map (·.1))=true:=H7 _ _ bV;obtain⟨yA,fT,Ie⟩:=H4 (ps.toList.zip vs) a.tmps CM (λq hq=>by rw[hR.size];exact ak _ (List.of_mem_zip hq).1);rw[<-wm]at yA fT Ie;have CN:a1.tmps.size=E.N.n:=Ie.trans hR.size;have oE:∀i,i∉ps.toList->tm a1 i=tm aI i:=λi hi=>fT i (λh=>hi (dA i h))
  have O2:Rel (E.rnd ps x y).N E.np S0 w0 (bg fx (.loop (rec .ready none))) (bj E.np (E.keep b) s) a1 Wg Sg γ:=mq tQ CN rfl (λi hi=>oE i (qF i (qE _ Ia i hi))) (λi u hu=>by
   simp only[fx]at hu;split at hu
   .rename_i hp;simp only[j5]at hu;refine⟨hp,?_⟩;show tm a1 i=u;rw[oE i (qF i hp)];exact hu
   .simp at hu)
  obtain⟨O3,l7⟩:=H5 (ps.toList.zip (xX kd t bJ cn)) O2 Ic (λq hq=>by
   obtain⟨v,h3,h4⟩:=H6 eP q hq;have:=yA _ h3;show VRep Sg Wg q.2 (a1.tmps.getD q.1 undef);rw[this];exact h4)
  refine wpIn_mono (mm l sf 0 0 (aC _ _) (by rw[oH x 0 sf];simp) O3 l7 aj) ?_
  rintro e1 a2 w2 ⟨dJ,ex,σ2,S2,γ2,_,iz,rfl,bc,gI,dj⟩
  have:=iz sf;subst this;cases ex with
  |exit i=>simp at dj
  |ret=>simp at dj
  |normal=>
  refine⟨_,run_beginRound (bc.kept l _ (iy _ _)).1 (by rw[dL]),?_⟩;have e7:Rel (E.rnd ps x y).N E.np S0 w0 (bg fx (.loop (rec .busy none))) σ2 a2 (w2.putObj l (.loop { rec .ready none with state:= .busy })) S2 γ2:=by have:=fD (o':= .loop (rec .busy none)) rfl rfl bc;rw[dL]at this ⊢;exact this
  refine wpIn_mono (mn l sg 0 0 (aC _ _) (by rw[oH y 0 sg];simp) e7 gI dj) ?_
  rintro e1 a3 w3 ⟨Ig,ex,σ3,S3,γ3,_,iz,rfl,jR,jS,sk⟩
  have:=iz sg;subst this
  have ij:∀{K:Keep}{s:Snap}{o:Obj}{W:World}{S:aq}{γ:Nat->Value},pinK ps x y K=true->Rel (E.rnd ps x y).N E.np S0 w0 (bg fx o) (bj E.np K s) a3 W S γ->
    Rel E.N E.np S0 w0 (bg (λ_=>none) o) (bj E.np K s) aI W S γ:=λhK hR=>mq hR CK rfl (λi hi=>by
   have:=(hR.fix i (a.tmps.getD i undef) (by simp only[bg,fx];rw[if_pos (qE _ hK i hi)])).2;exact this.symm) mu
  have mw:∀(ex:Ex)(c:Code),((ex = .ret/\c = .ret)\/∃i,ex = .exit i/\c = .exit i)->
    (cond (pinK ps x y (E.keepX b ex)) (match eV E.np (E.keepX b ex) σ3 with
     |some s'=>some (Sum.inr (ex,s'))
     |none=>none) none:Option (Snap ⊕ Ex×Snap))=some r0->
    ∃v w',(Instr.endRound l (some c)).run P w3 = .ok v w'/\((Ending.returned v = .returned (.bool true)/\∃S',J (xW kd cn) S' w')\/(Ending.returned v = .returned (.bool false)/\Jx w')):=by
   intro ex c hex gM;cases kP:pinK ps x y (E.keepX b ex) with
   |false=>rw[kP]at gM;simp at gM
   |true=>
   rw[kP,j6]at gM;split at gM
   case h_2=>simp at gM
   rename_i s2 iH;simp only[j5]at gM;subst gM;simp only[j5,j9]at ny;obtain⟨rfl,rfl⟩:=ny;obtain⟨S5,γ5,oI,sj⟩:=nt jR jS iH;refine⟨_,_,run_endRound (some c) (oI.kept l _ (iy _ _)).1,.inr ⟨rfl,S5,γ5,c,?_,sj,hex⟩⟩;have:=fD (o':= .loop (rec .done (some c))) rfl rfl (ij kP oI);rw[dL]at this ⊢;exact this
  cases ex with
  |normal=>
   dsimp only at sk
   split at sk
   case h_2=>simp at sk
   rename_i s2 iH;simp only[j5]at sk;subst sk;obtain⟨S5,γ5,oI,sj⟩:=nt jR jS iH;show∃v w',(Instr.endRound l none).run P w3 = .ok v w'/\_;refine⟨_,_,run_endRound none (oI.kept l _ (iy _ _)).1,.inl ⟨rfl,S5,s2,γ5,fu,?_,sj,?_⟩⟩
   .have:=fD (o':= .loop (rec .ready none)) rfl rfl (ij Ia oI);rw[dL]at this ⊢;exact this
   .exact ny
  |exit i=>exact mw _ _ (.inr ⟨i,rfl,rfl⟩) sk
  |ret=>exact mw _ _ (.inl ⟨rfl,rfl⟩) sk
 .refine⟨S,λg o h=>by rw[<-tP];have:=hR.here g o h;simp;omega,fA.mono λx z hx=>?_⟩;rw[<-tP]
  exact gh.keep (λg o h=>⟨h,by
   have:=hR.here g o h;rw[World.cell?_alloc_lt _ _ _ (by simp;omega),World.cell?_alloc_lt _ _ _ this]⟩) hx
 .rintro e2 W2 ⟨⟨v,rfl⟩,eL⟩
  have ij:∀{K:Keep}{s:Snap}{o:Obj}{W:World}{S:aq}{γ:Nat->Value},Rel E.N E.np S0 w0 (bg (λ_=>none) o) (bj E.np K s) aI W S γ->
    ∃refs',qB w0 refs refs'/\Rel E.N E.np S0 w0 refs' (bj E.np K s) { a with defers:=[{ target:= .collected w.heap.size,args:=#[] }]++a.defers } W S γ:=by
   intro K s o W S γ Ih;refine⟨{ blks:=refs.blks,val:=refs.val,ds:={ target:= .collected w.heap.size,args:=#[] }::refs.ds,kw:=λg=>if g=w.heap.size then some (.deferred (some [])) else refs.kw g,fix:=refs.fix,mv:=refs.mv },⟨rfl,rfl,rfl,⟨?_,?_⟩,rfl⟩,?_⟩
   .refine q8.2 ⟨λfo=>?_,hm.1⟩;obtain⟨D,hD,_,tR⟩:=hm.2 _ fo;simp only[Deferred.mk.injEq,Target.collected.injEq,and_true]at hD;rw[<-hD,hR.kw_new (jr _)]at tR;simp at tR
   .intro d hd;rcases jf.1 hd with rfl|hd
    .exact⟨w.heap.size,rfl,hR.grow,by simp⟩
    .obtain⟨D,rfl,h1,h2⟩:=hm.2 d hd;refine⟨D,rfl,h1,?_⟩;show (if D=w.heap.size then _ else refs.kw D)=_;rw[if_neg,h2]
     rintro rfl
     rw[hR.kw_new (jr _)]at h2;simp at h2
   .refine Ih.frame rfl rfl hR.size (by rw[hR.defers];rfl) (λi _=>rfl) (λg' u af=>Ih.kept g' u ?_) (λi v hv=>?_)
    .simp only[bg]at af ⊢;by_cases h1:g'=l
     .exfalso;subst h1;rw[if_neg (by omega),hR.kw_new (by omega)]at af;simp at af
     .rw[if_neg h1];exact af
    .have:=(hR.fix i v hv).1;rw[gC]at this;simp at this
  rcases eL with⟨S2,γ2,oJ,O4,rfl⟩|⟨S2,γ2,c,ow,ym,hex⟩
  .refine⟨none,_,by have:=run_endLoop (P:=P) (oJ.kept l _ (iy _ _)).1 (by rw[dL];simp);rw[dL]at this;exact this,?_⟩;have qG:=fD (o':= .loop { rec .ready none with state:= .exhausted }) rfl rfl oJ;obtain⟨refs',hle,oJ⟩:=ij qG;rw[dL]at oJ;exact⟨refs',.normal,_,S2,γ2,hle,λhf=>by simp[bU]at hf,rfl,oJ,O4,hk⟩
  .have qG:=fD (o':= .loop { rec .done (some c) with state:= .exhausted }) rfl rfl ow;obtain⟨refs',hle,oJ⟩:=ij qG;refine⟨some c,_,by have:=run_endLoop (P:=P) (ow.kept l _ (iy _ _)).1 (by rw[dL];simp);rw[dL]at this;exact this,?_⟩;rw[dL]at oJ;rcases hex with⟨rfl,rfl⟩|⟨i,rfl,rfl⟩
   .exact wpIn_ret ⟨refs',.ret,_,S2,γ2,hle,λhf=>by simp[bU]at hf,rfl,oJ,ym,hk⟩
   .exact wpIn_exit ⟨refs',.exit i,_,S2,γ2,hle,λhf=>by simp[bU]at hf,rfl,oJ,ym,hk⟩
def MrS(P:Program)(tS:Nat->Option (Nat×Nat)):Prop:=
 ∀{E:Env},E.mr=tS->bk P E.T->fW P E.C->CFun E.C->(∀f t,E.bw f=some t->BwK P f t)->(E.N.pin=λ_=>false)->
  ∀(x y:Code)(b n:Nat)(pl:Bool){S0:aq}{w0:World}{refs:Refs}{σ:St}{a:Go.Act}{w:World}{S:aq}{γ:Nat->Value}{R:Type}{k:Ex->St->Option R}{r:R},sd w0 refs->
   (∀z∈dt b y,MrOK E z.1 z.2)->Rel E.N E.np S0 w0 refs σ a w S γ->bM σ->s7 E x y=true->uP E x y σ k=some r->(Code.seq x y).wpIn (FR none) n P (Post E S0 w0 refs pl k r) a w
theorem O5{E:Env}{x y:Code}(h:s7 E x y=true):bU (.seq x y)=false:=by
 unfold s7 at h;split at h
 .simp[bU]
 .simp at h
theorem Ii{P:Program}(ea:P.follows .mixedOrders=true){tS:Nat->Option (Nat×Nat)}(wD:MrS P tS):∀(c:Code){E:Env}{ro:Option Nat},bk P E.T->fW P E.C->CFun E.C->E.mr=tS->
  (∀f t,E.bw f=some t->BwK P f t)->(bU c=true\/(ro=none/\E.N.pin=λ_=>false))->yT P E ro c:=by
 intro c;induction c with
 |skip=>intro E ro hT hC hF hE dB hp b n S0 w0 refs σ a w S γ R k r hm hL hR hc h;exact wpIn_skip ⟨refs,.normal,σ,S,γ,⟨rfl,rfl,rfl,hm,rfl⟩,λ_=>rfl,rfl,hR,hc,h⟩
 |label l=>intro E ro hT hC hF hE dB hp b n S0 w0 refs σ a w S γ R k r hm hL hR hc h;exact wpIn_label ⟨refs,.normal,σ,S,γ,⟨rfl,rfl,rfl,hm,rfl⟩,λ_=>rfl,rfl,hR,hc,h⟩
 |region oK ops draw=>
  intro E ro hT hC hF hE dB hp b n S0 w0 refs σ a w S γ R k r hm hL hR hc h
  have CO:ro=none\/∀o∈ops.toList,∀c,o.op ≠ .defer c:=hp.elim (λhp=> .inr λo ho c hd=>by
   have:=ji.1 hp o ho;simp[FL,hd]at this) λh=> .inl h.1
  cases draw with
  |true=>simp only[dg]at h;obtain⟨σ,S,γ,hR,hc,h⟩:=CA hR hc h;exact wpIn_region_any ea (yO CO CC _ _ _ _ (Ov hT hC hF hR hc (λσ' a' w' S' γ' aZ bP hk=>⟨refs,.normal,σ',S',γ',⟨rfl,rfl,rfl,hm,rfl⟩,λ_=>rfl,rfl,aZ,bP,hk⟩) h))
  |false=>
   simp only[dg]at h;obtain⟨σ,S,γ,hR,hc,h⟩:=CA hR hc h;cases nq:E.ks oK with
   |true=>rw[nq,j6]at h;exact wpIn_region (p9 CO CC _ _ _ (OR hT hC dB hR hc (λσ' a' w' S' γ' aZ bP hk=>⟨refs,.normal,σ',S',γ',⟨rfl,rfl,rfl,hm,rfl⟩,λ_=>rfl,rfl,aZ,bP,hk⟩) h))
   |false=>rw[nq,j7]at h;exact wpIn_region (p9 CO CC _ _ _ (Nu hT hC hR hc (λσ' a' w' S' γ' aZ bP hk=>⟨refs,.normal,σ',S',γ',⟨rfl,rfl,rfl,hm,rfl⟩,λ_=>rfl,rfl,aZ,bP,hk⟩) h))
 |seq x y mm mn=>
  intro E ro hT hC hF hE dB hp b n S0 w0 refs σ a w S γ R k r hm hL hR hc h;simp only[dg]at h;cases yV:s7 E x y with
  |true=>rw[yV,j6]at h;obtain⟨rfl,gC⟩:=hp.resolve_left (by rw[O5 yV];simp);exact wD hE hT hC hF dB gC x y b n _ hm (λz hz=>(hL z (by simp[dt,hz])).2) hR hc yV h
  |false=>
  rw[yV,j7]at h;have sf:bU x=true\/(ro=none/\E.N.pin=λ_=>false):=hp.imp (λh=>by simp only[bU,jb]at h;exact h.1) id;have sg:bU y=true\/(ro=none/\E.N.pin=λ_=>false):=hp.imp (λh=>by simp only[bU,jb]at h;exact h.2) id;refine wpIn_seq (wpIn_mono (mm hT hC hF hE dB sf b n hm (λz hz=>hL z (by simp[dt,hz])) hR hc h) ?_)
  rintro e a' w' ⟨refs',ex,σ',S',γ',hle,iz,rfl,aZ,bP,hk⟩
  have hx:bU (.seq x y)=true->refs'=refs:=λh=>by simp only[bU,jb]at h;exact iz h.1
  cases ex with
  |normal=>
   refine wpIn_mono (mn hT hC hF hE dB sg b n hle.marks (λz hz=>hL z (by simp[dt,hz])) aZ bP hk) ?_
   rintro e2 a2 w2 ⟨dJ,ex,σ2,S2,γ2,dy,CP,rfl,bc,gI,dj⟩
   refine⟨dJ,ex,σ2,S2,γ2,hle.trans dy,λh=>?_,rfl,bc,gI,dj⟩;have h1:=hx h;simp only[bU,jb]at h;rw[CP h.2,h1]
  |exit i=>exact⟨refs',.exit i,σ',S',γ',hle,hx,rfl,aZ,bP,hk⟩
  |ret=>exact⟨refs',.ret,σ',S',γ',hle,hx,rfl,aZ,bP,hk⟩
 |cond c x y mm mn=>
  intro E ro hT hC hF hE dB hp b n S0 w0 refs σ a w S γ R k r hm hL hR hc h;simp only[dg]at h;have sf:bU x=true\/(ro=none/\E.N.pin=λ_=>false):=hp.imp (λh=>by simp only[bU,jb]at h;exact h.1) id;have sg:bU y=true\/(ro=none/\E.N.pin=λ_=>false):=hp.imp (λh=>by simp only[bU,jb]at h;exact h.2) id;split at h
  .rename_i v hv;have ll:=gT hR c;rw[hv]at ll;have tT:a.eval c = .bool v:=mY ll;refine wpIn_cond tT ?_;cases v with
   |true=>
    refine wpIn_mono (mm hT hC hF hE dB sf b n hm (λz hz=>hL z (by simp[dt,hz])) hR hc h) ?_
    rintro e a' w' ⟨refs',ex,σ',S',γ',hle,iz,he,hr⟩
    exact⟨refs',ex,σ',S',γ',hle,λh=>by simp only[bU,jb]at h;exact iz h.1,he,hr⟩
   |false=>
    refine wpIn_mono (mn hT hC hF hE dB sg b n hm (λz hz=>hL z (by simp[dt,hz])) hR hc h) ?_
    rintro e a' w' ⟨refs',ex,σ',S',γ',hle,iz,he,hr⟩
    exact⟨refs',ex,σ',S',γ',hle,λh=>by simp only[bU,jb]at h;exact iz h.2,he,hr⟩
  .simp at h
 |block id c ih=>
  intro E ro hT hC hF hE dB hp b n S0 w0 refs σ a w S γ R k r hm hL hR hc h;simp only[dg]at h;refine wpIn_block (wpIn_mono (ih hT hC hF hE dB hp id n hm (λz hz=>hL z (by simpa[dt]using hz)) hR hc h) ?_)
  rintro e a' w' ⟨refs',ex,σ',S',γ',hle,iz,rfl,aZ,bP,hk⟩
  cases ex with
  |normal=>exact⟨refs',.normal,σ',S',γ',hle,iz,rfl,aZ,bP,hk⟩
  |exit i=>
   simp only[exOf,Exit.inBlock];simp only at hk;split
   .rename_i hi;rw[if_pos hi]at hk;exact⟨refs',.normal,σ',S',γ',hle,iz,rfl,aZ,bP,hk⟩
   .rename_i hi;rw[if_neg hi]at hk;exact⟨refs',.exit i,σ',S',γ',hle,iz,rfl,aZ,bP,hk⟩
  |ret=>exact⟨refs',.ret,σ',S',γ',hle,iz,rfl,aZ,bP,hk⟩
 |scope c ih=>intro E ro hT hC hF hE dB hp b n S0 w0 refs σ a w S γ R k r hm hL hR hc h;simp only[dg]at h;refine OD (λl a w hq=>?_) (ih hT hC hF hE dB hp b n hm (λz hz=>hL z (by simpa[dt]using hz)) hR hc h);obtain⟨_,ex,_,_,_,_,_,he,_⟩:=hq;cases ex<;>simp[exOf]at he
 |loop c ih=>
  intro E ro hT hC hF hE dB hp b n S0 w0 refs σ a w S γ R k r hm hL hR hc h;have Ij:=hp.resolve_left (by simp[bU]);simp only[dg]at h;cases CQ:isRf c with
  |true=>rw[CQ]at h;simp at h
  |false=>
  rw[CQ,j7]at h;cases fB:E.un b with
  |true=>
   rw[fB,j6]at h;refine CB (λn a w=>∃refs' σ' S γ,qB w0 refs refs'/\Rel E.N E.np S0 w0 refs' σ' a w S γ/\bM σ'/\ph (λσ k=>dg E b c σ k) n σ' k=some r) ⟨refs,σ,S,γ,⟨rfl,rfl,rfl,hm,rfl⟩,hR,hc,h⟩ ?_
   rintro m a1 w1 ⟨wE,σ1,S2,γ2,eK,bc,gI,fo⟩
   cases m with
   |zero=>simp[ph]at fo
   |succ m=>
    simp only[ph]at fo;refine wpIn_mono (ih hT hC hF hE dB (.inr Ij) b n eK.marks (λz hz=>hL z (by simp[dt,hz])) bc gI fo) ?_
    rintro e2 a2 w2 ⟨dJ,ex,σ2,S3,γ3,dy,_,rfl,e7,oD,fE⟩
    cases ex with
    |normal=>exact⟨m,Nat.lt_succ_self m,dJ,σ2,S3,γ3,eK.trans dy,e7,oD,fE⟩
    |exit i=>exact⟨dJ,.exit i,σ2,S3,γ3,eK.trans dy,λhf=>by simp[bU]at hf,rfl,e7,oD,fE⟩
    |ret=>exact⟨dJ,.ret,σ2,S3,γ3,eK.trans dy,λhf=>by simp[bU]at hf,rfl,e7,oD,fE⟩
  |false=>
  rw[fB,j7]at h;split at h
  .rename_i s hs;obtain⟨n1,e,s',hn,hk⟩:=(hL (b,c) (by simp[dt])).1 s R _ r h
   have ic:AQ E b c=re E b c:=by
    funext s
    cases c<;>first|rfl|simp[isRf]at CQ
   rw[ic]at hn;obtain⟨S1,γ1,aJ,dK⟩:=nt hR hc hs;refine CB (λn a w=>∃refs' s S γ,qB w0 refs refs'/\Rel E.N E.np S0 w0 refs' (bj E.np (E.keep b) s) a w S γ/\bM (bj E.np (E.keep b) s)/\loopN (re E b c) n s=some (e,s')) ⟨refs,s,S1,γ1,⟨rfl,rfl,rfl,hm,rfl⟩,aJ,dK,hn⟩ ?_
   rintro m a1 w1 ⟨wE,s1,S2,γ2,eK,bc,gI,fo⟩
   cases m with
   |zero=>simp[loopN]at fo
   |succ m=>
    simp only[loopN]at fo;cases aj:re E b c s1 with
    |none=>simp[aj]at fo
    |some out=>
     rw[aj]at fo;unfold re at aj;refine wpIn_mono (ih hT hC hF hE dB (.inr Ij) b n eK.marks (λz hz=>hL z (by simp[dt,hz])) bc gI aj) ?_
     rintro e2 a2 w2 ⟨dJ,ex,σ2,S3,γ3,dy,_,rfl,e7,oD,fE⟩
     cases ex with
     |normal=>
      simp only at fE;split at fE
      .rename_i s2 iH;simp only[j5]at fE;subst fE;obtain⟨S4,γ4,jR,jS⟩:=nt e7 oD iH;exact⟨m,Nat.lt_succ_self m,dJ,s2,S4,γ4,eK.trans dy,jR,jS,fo⟩
      .simp at fE
     |exit i=>
      simp only at fE;split at fE
      .rename_i s2 iH;simp only[j5]at fE;subst fE;obtain⟨S4,γ4,jR,jS⟩:=nt e7 oD iH;simp only[j5,j9]at fo;obtain⟨rfl,rfl⟩:=fo;exact⟨dJ,.exit i,_,S4,γ4,eK.trans dy,λhf=>by simp[bU]at hf,rfl,jR,jS,hk⟩
      .simp at fE
     |ret=>
      simp only at fE;split at fE
      .rename_i s2 iH;simp only[j5]at fE;subst fE;obtain⟨S4,γ4,jR,jS⟩:=nt e7 oD iH;simp only[j5,j9]at fo;obtain⟨rfl,rfl⟩:=fo;exact⟨dJ,.ret,_,S4,γ4,eK.trans dy,λhf=>by simp[bU]at hf,rfl,jR,jS,hk⟩
      .simp at fE
  .simp at h
 |rangeFunc g ps x y mm mn=>
  intro E ro hT hC hF hE dB hp b n S0 w0 refs σ a w S γ R k r hm hL hR hc h;obtain⟨rfl,gC⟩:=hp.resolve_left (by simp[bU])
  exact OT dB gC (λl hx=>mm (E:=E.rnd ps x y) hT hC hF hE dB (.inl hx)) (λl hy=>mn (E:=E.rnd ps x y) hT hC hF hE dB (.inl hy))
   (hL (b,.rangeFunc g ps x y) (by simp[dt])).1 hm hR hc h
 |exit i=>intro E ro hT hC hF hE dB hp b n S0 w0 refs σ a w S γ R k r hm hL hR hc h;exact wpIn_exit ⟨refs,.exit i,σ,S,γ,⟨rfl,rfl,rfl,hm,rfl⟩,λ_=>rfl,rfl,hR,hc,h⟩
 |ret=>intro E ro hT hC hF hE dB hp b n S0 w0 refs σ a w S γ R k r hm hL hR hc h;exact wpIn_ret ⟨refs,.ret,σ,S,γ,⟨rfl,rfl,rfl,hm,rfl⟩,λ_=>rfl,rfl,hR,hc,h⟩
 |goto l=>intro E ro hT hC hF hE dB hp b n S0 w0 refs σ a w S γ R k r hm hL hR hc h;simp[dg]at h
 |refuse y=>intro E ro hT hC hF hE dB hp b n S0 w0 refs σ a w S γ R k r hm hL hR hc h;simp[dg]at h
end
def keyB(es:Array MapEntry):List (Value×Nat):=es.toList.map λe=>(e.key,e.born)
theorem Ik{α:Type}{p q:α->Bool}(h:∀x,q x=true->p x=true):∀l:List α,(l.filter q).length<=(l.filter p).length
 |[]=>jr _
 |x::r=>by
  have ih:=Ik h r;rw[List.filter_cons,List.filter_cons];by_cases hq:q x=true
  .rw[if_pos hq,if_pos (h x hq)];simp only[jm];omega
  .rw[if_neg hq];split
   .simp only[jm];omega
   .exact ih
theorem Il{α:Type}{p q:α->Bool}(h:∀x,q x=true->p x=true):∀l:List α,(∃x∈l,p x=true/\q x≠true)->(l.filter q).length<(l.filter p).length
 |[],hx=>by obtain⟨x,hx,_⟩:=hx;simp at hx
 |y::r,hx=>by
  obtain⟨x,hx,h1,h2⟩:=hx;have hle:=Ik h r;rw[List.filter_cons,List.filter_cons];rcases jf.1 hx with rfl|hx
  .rw[if_neg h2,if_pos h1];simp only[jm];omega
  .have ih:=Il h r ⟨x,hx,h1,h2⟩;by_cases hq:q y=true
   .rw[if_pos hq,if_pos (h y hq)];simp only[jm];omega
   .rw[if_neg hq];split
    .simp only[jm];omega
    .exact ih
theorem wF(seen:Array Nat)(b x:Nat):(seen.push b).contains x=true↔seen.contains x=true\/x=b:=by
 simp
theorem O6{ks:List (Value×Nat)}{seen:Array Nat}{b:Nat}(h:∃q∈ks,q.2=b/\seen.contains q.2=false):(ks.filter λq=> !(seen.push b).contains q.2).length<(ks.filter λq=> !seen.contains q.2).length:=by
 refine Il (λx hx=>?_) ks ?_
 .rw[kf]at hx ⊢;cases hs:seen.contains x.2 with
  |false=>rfl
  |true=>have:=(wF seen b x.2).2 (.inl hs);rw[hx]at this;simp at this
 .obtain⟨q,hq,h1,h2⟩:=h;refine⟨q,hq,by rw[h2];rfl,?_⟩;rw[(wF seen b q.2).2 (.inr h1)];simp
structure AtR(g r it since clock:Nat)(ks:List (Value×Nat))(es:Array MapEntry)(seen:Array Nat)(a:Go.Act)(w:World):Prop where
 map:w.heap[g]? = some (.map es clock)
 ks:keyB es=ks
 iter:w.heap[r]? = some (.mapIter (some g) since seen clock)
 ptr:tm a it = .pointer (some ⟨r,0,none⟩)
theorem O7{P:Program}{ro:Option Nat}(dB:ro=none){n0 g r it d1 c2 b since clock oK:Nat}{ks:List (Value×Nat)}{o1 o2:Oper}{body:Code}{Q:Exit->Go.Act->World->Prop}
  (fC:o1.op = .next (.tmp it) false)(mZ:o1.dst=some d1)(fw:o1.guard=none)(rV:o2.op = .extract (.tmp d1) 0)(na:o2.dst=some c2)(cY:o2.guard=none)(O8:it≠d1)(O9:it≠c2)(gK:g≠r)
  (Pa:since<=clock)(hold:∀q∈ks,q.2<since)(N:Nat)(iw:d1<N)(rE:c2<N)
  (J:Array MapEntry->Array Nat->Go.Act->World->Prop)(hJ:∀es seen a w,J es seen a w->a.tmps.size=N)
  (eL:∀es seen a w v v',AtR g r it since clock ks es seen a w->J es seen a w->(∀x∈es.toList,seen.contains x.born=true)->Q (.exit b) ((a.put (some d1) v).put (some c2) v') w)
  (ic:∀es seen a w w1 v v' e,AtR g r it since clock ks es seen a w->J es seen a w->e∈es.toList->seen.contains e.born=false->(w1=w\/w1=w.drew)->
   AtR g r it since clock ks es (seen.push e.born) ((a.put (some d1) v).put (some c2) v') (ChangeMaps.setBlock w1 r (.mapIter (some g) since (seen.push e.born) clock))->
   body.wpIn (FR ro) n0 P (Exit.then (λa' w'=>∃es',AtR g r it since clock ks es' (seen.push e.born) a' w'/\J es' (seen.push e.born) a' w') Q) ((a.put (some d1) v).put (some c2) v') (ChangeMaps.setBlock w1 r (.mapIter (some g) since (seen.push e.born) clock)))
  {es:Array MapEntry} {seen:Array Nat} {a:Go.Act} {w:World} (h0:AtR g r it since clock ks es seen a w) (wA:J es seen a w) :
  (Code.loop ((Code.region oK #[o1,o2] false).seq ((Code.cond (.tmp c2) .skip (.exit b)).seq body))).wpIn (FR ro) n0 P Q a w:=by
 refine CB (λn a w=>∃es seen,AtR g r it since clock ks es seen a w/\J es seen a w/\n=(ks.filter λq=> !seen.contains q.2).length) ⟨es,seen,h0,wA,rfl⟩ ?_
 rintro n a w ⟨es,seen,hA,CR,rfl⟩
 subst dB;have ba:=hJ _ _ _ _ CR
 have wG:∀x∈es.toList,x.born<since:=λx hx=>by
  have:(x.key,x.born)∈keyB es:=jy.2 ⟨x,hx,rfl⟩;rw[hA.ks]at this;exact hold _ this
 have ll:a.eval (.tmp it) = .pointer (some ⟨r,0,none⟩):=hA.ptr
 have two:∀(v v':Value)(w':World),(execOp a.eval o1).run P w = .ok (.value v) w'->(execOp (a.put (some d1) v).eval o2).run P w' = .ok (.value v') w'->
   ((Code.cond (.tmp c2) .skip (.exit b)).seq body).wpIn (FR none) n0 P (Exit.then (λa' w'=>∃m,m<(ks.filter λq=> !seen.contains q.2).length/\∃es seen,AtR g r it since clock ks es seen a' w'/\J es seen a' w'/\m=(ks.filter λq=> !seen.contains q.2).length) Q) ((a.put (some d1) v).put (some c2) v') w'->
   ((Code.region oK #[o1,o2] false).seq ((Code.cond (.tmp c2) .skip (.exit b)).seq body)).wpIn (FR none) n0 P (Exit.then (λa' w'=>∃m,m<(ks.filter λq=> !seen.contains q.2).length/\∃es seen,AtR g r it since clock ks es seen a' w'/\J es seen a' w'/\m=(ks.filter λq=> !seen.contains q.2).length) Q) a w:=by
  intro v v' w' h1 h2 h3;refine wpIn_seq (wpIn_mono (Q:=λe a' mX=>e = .normal/\a'=(a.put (some d1) v).put (some c2) v'/\mX=w') (wpIn_region (p9 (.inl rfl) (by rintro⟨a,w,h,_⟩;cases h) _ _ _ ?_)) ?_)
  .show wpOps P #[o1,o2] _ [0,1] a w;have e0:(#[o1,o2]:Array Oper)[0]? = some o1:=rfl;have e1:(#[o1,o2]:Array Oper)[1]? = some o2:=rfl;have w0:∀tm,Region.wanted o1 (yielded #[o1,o2] tm)=true:=λtm=>by simp[Region.wanted,fw]
   have w1:∀tm,Region.wanted o2 (yielded #[o1,o2] tm)=true:=λtm=>by simp[Region.wanted,cY]
   simp only[wpOps,e0,e1,w0,w1,if_true];refine .inl ?_;unfold Oper.wp;rw[h1,Oper.upon_value,mZ];refine .inl ?_;rw[h2,Oper.upon_value,na];exact⟨trivial,rfl,rfl⟩
  .rintro e a' mX ⟨rfl,rfl,rfl⟩
   exact h3
 have wH:∀(v:Value)(t:Array Value)(w':World)(x:Value),v = .tuple t->t[0]? = some x->(execOp (a.put (some d1) v).eval o2).run P w' = .ok (.value x) w':=by
  intro v t w' x hv ht;have:(a.put (some d1) v).eval (.tmp d1)=v:=by show tm (a.put (some d1) v) d1=v;rw[kL (by omega),if_pos rfl]
  subst hv;simp only[execOp,rV,this,Instr.extract,ht];simp
 have fA:∀v v',(((a.put (some d1) v).put (some c2) v').eval (.tmp c2))=v':=λv v'=>by
  show tm _ c2=v';rw[kL (by rw[nn];omega),if_pos rfl]
 rcases run_next_at (P:=P) w o1.type r g since clock seen es clock hA.iter hA.map wG Pa with⟨h0,ai⟩|⟨e,he,w1,lh,ai⟩
 .refine two (.tuple #[.bool false]) (.bool false) w (by simp[execOp,fC,ll,ai,Result.andThen]) (wH (.tuple #[.bool false]) #[.bool false] w (.bool false) rfl rfl) (wpIn_seq (wpIn_cond_false (fA _ _) (wpIn_exit ?_)));refine eL es seen a w _ _ hA CR (λx hx=>?_);cases hs:seen.contains x.born with
  |true=>rfl
  |false=>
   have my:x∈(leftOf es seen).toList:=by unfold leftOf;rw[Array.toList_filter];exact List.mem_filter.2 ⟨hx,by rw[hs];rfl⟩
   have:(leftOf es seen).toList=[]:=List.length_eq_zero_iff.1 (by simpa using h0);rw[this]at my;simp at my
 .have kD:e∈es.toList/\seen.contains e.born=false:=by unfold leftOf at he;simpa using he
  have qH:AtR g r it since clock ks es (seen.push e.born) ((a.put (some d1) (.tuple #[.bool true,e.key,e.val])).put (some c2) (.bool true)) (ChangeMaps.setBlock w1 r (.mapIter (some g) since (seen.push e.born) clock)):=by
   have fU:w1.heap[g]? = some (.map es clock):=by rcases lh with rfl|rfl<;>exact hA.map
   have CS:w1.heap[r]? = some (.mapIter (some g) since seen clock):=by rcases lh with rfl|rfl<;>exact hA.iter
   have ak:r<w1.heap.size:=(jc.1 CS).1;refine⟨?_,hA.ks,?_,?_⟩
   .show (w1.heap.setIfInBounds r _)[g]? = _;rw[Array.getElem?_setIfInBounds_ne (Ne.symm gK)];exact fU
   .show (w1.heap.setIfInBounds r _)[r]? = _;rw[Array.getElem?_setIfInBounds_self_of_lt ak]
   .rw[kL (by rw[nn];omega),if_neg O9,kL (by omega),if_neg O8];exact hA.ptr
  refine two (.tuple #[.bool true,e.key,e.val]) (.bool true) (ChangeMaps.setBlock w1 r (.mapIter (some g) since (seen.push e.born) clock)) (by simp[execOp,fC,ll,ai,Result.andThen]) (wH (.tuple #[.bool true,e.key,e.val]) #[.bool true,e.key,e.val] _ (.bool true) rfl rfl) (wpIn_seq (wpIn_cond_true (fA _ _) (wpIn_skip ?_)));refine wpIn_mono (ic es seen a w w1 _ _ e hA CR kD.1 kD.2 lh qH) ?_;intro ex a' w' hq;cases ex with
  |normal=>obtain⟨es',q1,q2⟩:=hq;exact⟨_,O6 (ks:=ks) (seen:=seen) (b:=e.born) ⟨(e.key,e.born),by rw[<-hA.ks];exact jy.2 ⟨e,kD.1,rfl⟩,rfl,kD.2⟩,es',seen.push e.born,q1,q2,rfl⟩
  |_=>exact hq
section
variable{N:NT}{np:Nat}{S0:aq}{w0:World}{refs:Refs}{σ:St}{a:Go.Act}{w:World}{S:aq}{γ:Nat->Value}
theorem Im{P:Program}{E:Env}(hT:bk P E.T)(hC:fW P E.C){ops:Array Oper}(bE:bare ops=true){R:Type}{k:St->Option R}{r:R}{Q:Exit->Go.Act->World->Prop}{rest:List Nat}
  (hn:∀σ' a' w' S' γ',Rel E.N E.np S0 w0 refs σ' a' w' S' γ'->bM σ'->k σ'=some r->wpOps P ops Q rest a' w') :
  ∀(n i:Nat)(σ:St)(a:Go.Act)(w:World)(S:aq)(γ:Nat->Value),i+n<=ops.size->Rel E.N E.np S0 w0 refs σ a w S γ->bM σ->mW E ((ops.toList.drop i).take n) σ k=some r->
   wpOps P ops Q (List.range' i n++rest) a w
 |0,i,σ,a,w,S,γ,hi,hR,hc,h=>by
  rw[List.take_zero]at h;exact hn _ _ _ _ _ hR hc h
 |n+1,i,σ,a,w,S,γ,hi,hR,hc,h=>by
  have ak:i<ops.size:=by omega
  rw[je (by simpa using ak),List.take_succ_cons]at h;simp only[mW]at h;split at h
  .rename_i hd;have ho:ops[i]? = some ops[i]:=jh ak;simp only[qz,List.cons_append,wpOps,ho];have hg:ops[i].guard=none:=by have:=ji.1 bE ops[i] (by simp);simpa using this
   have hw:Region.wanted ops[i] (yielded ops a.tmps)=true:=by simp[Region.wanted,hg]
   simp only[hw,if_true];refine .inl (vT hT hC hR (act:=[]) (λg hg=>by simp at hg) (p:=false) (λ_=>hc) (by simpa using hd) (by simpa using h) (λσ' a' w' S' γ' aZ bP hk=>?_));exact Im hT hC bE hn n (i+1) σ' a' w' S' γ' (by omega) aZ (bP rfl) hk
  .simp at h
theorem Io{β:Type}:∀{zs:List (Int×β)}{j:Nat}{x:Int×β},(zs.map λx=>x.1).Nodup->zs[j]? = some x->∀y,@gH _ _ (Ty.int .i64).keq zs x.1 y=zs.set j (x.1,y)
 |[],j,x,_,h,y=>by simp at h
 |z::r,0,x,_,h,y=>by
  have h:z=x:=by simpa using h
  subst h;show cond ((z.1:Int)==z.1) ((z.1,y)::r) _=(z.1,y)::r;rw[ze];rfl
 |z::r,j+1,x,hn,h,y=>by
  have h:r[j]? = some x:=by simpa using h
  have hc:=q8.1 (show (z.1::r.map λx=>x.1).Nodup from hn);have aB:¬(x.1:Int)=z.1:=λhe=>hc.1 (he▸jy.2 ⟨x,js h,rfl⟩);show cond ((x.1:Int)==z.1) _ (z::@gH _ _ (Ty.int .i64).keq r x.1 y)=z::r.set j (x.1,y);rw[beq_false_of_ne aB,j7,Io hc.2 h y]
theorem Ip(hR:Rel N np S0 w0 refs σ a w S γ){nm em:Nat}{v:Ty}{zs:List (Int×v.den)}(oz:isM em=true)(hb:σ.bx nm = .live (.lst em (.pair (.int .i64) v) zs false)) :
  ∃g es clock,γ nm = .map (some g)/\w.heap[g]? = some (.map es clock)/\All2 (rQ S w (.int .i64) v) zs es.toList/\pn es clock:=by
 rcases (hR.box nm _ hb).1 with⟨hm,_⟩|⟨_,hm⟩
 .rw[oz]at hm;simp at hm
 .exact hm
theorem Iq{es:Array MapEntry}{clock:Nat}(h:pn es clock){j:Nat}{e:MapEntry}(he:es.toList[j]? = some e):e.born=j:=by
 have h1:(es.toList.map (·.born))[j]? = some e.born:=by simp[he]
 rw[h.2]at h1;have h2:=(jk.1 h1).2;simpa using h2.symm
theorem wI{es:Array MapEntry}{clock:Nat}(h:pn es clock):es.toList.length=clock:=by
 have:=kc List.length h.2;simpa using this
theorem Pb{es es':Array MapEntry}(h1:es'.toList.map (·.key)=es.toList.map (·.key))(h2:es'.toList.map (·.born)=es.toList.map (·.born)):keyB es'=keyB es:=by
 have hz:∀es:Array MapEntry,keyB es=(es.toList.map (·.key)).zip (es.toList.map (·.born)):=λes=>by
  unfold keyB;rw[List.zip_map']
 rw[hz,hz,h1,h2]
structure Mix{β:Type}(xs ys:List (Int×β))(seen:Array Nat)(zs:List (Int×β)):Prop where
 len:zs.length=xs.length
 get:∀i,zs[i]? = if seen.contains i=true then ys[i]? else xs[i]?
theorem Pc{β:Type}{Z:Int×β->Int×β->Prop}:∀{xs ys:List (Int×β)},All2 (λx y=>y.1=x.1/\Z x y) xs ys->xs.length=ys.length/\∀(j:Nat)(x:Int×β),xs[j]? = some x->∃y,ys[j]? = some y/\y.1=x.1/\Z x y:=
 λh=>⟨h.length,λj x hx=>h.get j x hx⟩
theorem Pd{b:Nat}{c:Code}{p:MrP}(h:mrP b c=some p):∃oK r3 o1 o2 o3,c = .seq (.region oK #[o1,o2] false) (.seq (.cond (.tmp p.c2) .skip (.exit b)) (.block p.b6 (.seq (.region r3 p.ops false) p.rest)))/\
  o1.op = .next (.tmp p.it) false/\o1.dst=some p.d1/\o1.guard=none/\o2.op = .extract (.tmp p.d1) 0/\o2.dst=some p.c2/\o2.guard=none/\p.ops[0]? = some o3/\o3.op = .entry (.tmp p.it)/\o3.dst=some p.d3/\o3.guard=none:=by
 unfold mrP at h;split at h
 case h_2=>simp at h
 rename_i oK ops c b' b6 r3 nP rest;split at h
 case h_2=>simp at h
 rename_i o1 o2 o3 l3 sq wJ;split at h
 case h_2=>simp at h
 rename_i it d1 FN c2 FO d3 h1 h2 h3;split at h
 case isFalse=>simp at h
 rename_i aT;obtain⟨rfl,rfl,rfl,rfl⟩:=aT;simp only[j5]at h;subst h;have sq:ops = #[o1,o2]:=k8 (by simpa using sq);subst sq;have e3:nP[0]? = some o3:=by rw[<-ke,wJ];rfl
 unfold FM at h1;split at h1
 case h_2=>simp at h1
 rename_i q1 q2 q3;simp only[j5,j9]at h1;obtain⟨rfl,rfl⟩:=h1;unfold fstO at h2;split at h2
 case h_2=>simp at h2
 rename_i p1 p2 p3;simp only[j5,j9]at h2;obtain⟨rfl,rfl⟩:=h2;unfold entO at h3;split at h3
 case h_2=>simp at h3
 rename_i s1 s2 s3;simp only[j5,j9]at h3;obtain⟨rfl,rfl⟩:=h3;exact⟨oK,r3,o1,o2,o3,rfl,q1,q2,q3,p1,p2,p3,e3,s1,s2,s3⟩
theorem nbeq{i j:Nat}(h:Nat.beq i j=false):i≠j:=by
 rintro rfl
 rw[Nat.beq_refl]at h;simp at h
theorem beqF{i j:Nat}(h:i≠j):Nat.beq i j=false:=by
 cases hq:Nat.beq i j with
 |false=>rfl
 |true=>exact absurd (z8 hq) h
theorem Pe{P:Program}(ea:P.follows .mixedOrders=true)(tS:Nat->Option (Nat×Nat)):MrS P tS:=by
 intro E hE hT hC hF eM gC x y b n pl S0 w0 refs σ a w S γ R k r hm Pf hR hc mz h;unfold uP at h;split at h
 case h_2=>simp at h
 rename_i oK ops bl c;split at h
 case h_2=>simp at h
 rename_i m nm p o wD hp cZ;split at h
 case h_2=>simp at h
 rename_i t m1 it aS wq;cases th:(bare ops&&(Nat.beq it p.it&&(mrC E bl p m&&(lE E.T t).isSome))) with
 |false=>rw[th]at h;simp at h
 |true=>
 rw[th,j6]at h;simp only[jb]at th;obtain⟨bE,pY,yh,aD⟩:=th;obtain rfl:it=p.it:=z8 pY;have Pg:=Pf (bl,c) (by simp[dt]) m nm p wD hp;unfold mrC at yh;simp only[jb,kf,kg,k7]at yh;obtain⟨Pj,CT,n1,n2,n3,n4,n5,n6,n7,l1,l2,l3,l4,k1,k2,k3⟩:=yh;have n1:=nbeq n1;have n2:=nbeq n2;have n3:=nbeq n3;have n4:=nbeq n4;have n5:=nbeq n5;have n6:=nbeq n6;have n7:=nbeq n7;have l1:p.it<E.N.n:=qh l1;have l2:p.d1<E.N.n:=qh l2;have l3:p.c2<E.N.n:=qh l3;have l4:p.d3<E.N.n:=qh l4;obtain⟨Pl,r3,o1,o2,o3,CU,q1,q2,q3,p1,p2,p3,e3,s1,s2,s3⟩:=Pd hp;refine wpIn_seq (wpIn_mono (Q:=λe a2 w2=>e = .normal/\(Code.block bl (.loop c)).wpIn (FR none) n P (Post E S0 w0 refs pl k r) a2 w2) (wpIn_region (p9 (.inl rfl) (by rintro⟨a,w,h,_⟩;cases h) _ _ _ ?_)) ?_)
 rotate_left
 .rintro e a2 w2 ⟨rfl,h⟩;exact h
 obtain⟨pre,mA⟩:=List.getLast?_eq_some_iff.1 cZ;have ba:ops.size=pre.length+1:=by rw[<-km,mA];simp
 rw[List.range_eq_range',ba,List.range'_concat];refine Im hT hC bE (k:=mrGo E bl m m1 k) (r:=r) (λσ1 a1 w1 S1 γ1 aJ dK iM=>?_) pre.length 0 σ a w S γ (by omega) hR hc (by rw[mA,List.dropLast_concat]at h;rw[mA,ka,zg];exact h;rfl);have ho:ops[0+1*pre.length]? = some o:=by rw[<-ke,mA];simp
 have hg:o.guard=none:=by have:=ji.1 bE o (by rw[mA];simp);simpa using this
 have hw:Region.wanted o (yielded ops a1.tmps)=true:=by simp[Region.wanted,hg]
 simp only[wpOps,ho,hw,if_true];refine .inl ?_;unfold mrGo at iM;split at iM
 case h_2=>simp at iM
 rename_i bm Ir fU Pm;cases tT:(Nat.beq bm Ir&&AP (σ1.bx bm)) with
 |false=>rw[tT]at iM;simp at iM
 |true=>
 rw[tT,j6]at iM;simp only[jb]at tT;obtain⟨yS,CV⟩:=tT;obtain rfl:bm=Ir:=z8 yS;split at iM
 case h_2=>simp at iM
 rename_i s hs;obtain⟨em,v,xs,ys,oz,Pn,tU,yW,hk⟩:=Pg s R _ r iM;obtain⟨S2,γ2,bc,gI⟩:=nt aJ dK hs;rw[Pn]at bc gI;obtain⟨g,es,clock,cY,tB,wK,br⟩:=Ip bc oz (tU xs).1
 have Po:∃bx,σ1.bx bm = .live bx:=by
  unfold AP at CV;split at CV
  .rename_i hb;exact⟨_,hb⟩
  .simp at CV
 obtain⟨bx,cP⟩:=Po;have B1:tm a1 m1=γ1 bm:=by have:=aJ.slot m1;rw[fU]at this;exact this.1.2.2 _ cP
 have CW:tm a1 m=γ1 bm:=by have:=aJ.slot m;rw[Pm]at this;exact this.1.2.2 _ cP
 have Pp:tm a1 m=γ2 nm:=by have:=bc.slot m;rw[(tU xs).2]at this;exact this.1.2.2 _ (tU xs).1
 have tF:tm a1 m = .map (some g):=Pp.trans cY;have ll:a1.eval (.tmp m1) = .map (some g):=B1.trans (CW.symm.trans tF)
 obtain⟨ky,kv,Pq⟩:∃ky kv,lE E.T t=some (ky,kv):=by
  cases hq:lE E.T t with
  |none=>rw[hq]at aD;simp at aD
  |some q=>exact⟨q.1,q.2,rfl⟩
 obtain⟨kt,vt,tv,dO,_⟩:=B0 hT Pq;have ai:=run_range_map (P:=P) w1 t kt vt g es clock dO tB;obtain⟨rr,CX⟩:∃rr,rr=w1.heap.size:=⟨_,rfl⟩;rw[<-CX]at ai;have jQ:(execOp a1.eval o).run P w1 = .ok (.value (.pointer (some ⟨rr,0,none⟩))) (w1.alloc (.mapIter (some g) clock #[] clock)):=by simp[execOp,aS,ll,ai,Result.andThen]
 unfold Oper.wp;rw[jQ,Oper.upon_value,wq];refine⟨trivial,?_⟩;let fx:Nat->Option Value:=λi=>if i=p.it then some (.pointer (some ⟨rr,0,none⟩)) else if i=m then some (.map (some g)) else none
 let c0:Array Nat->Refs:=λseen=>{ blks:=refs.blks,val:=refs.val,ds:=refs.ds,kw:=λx=>if x=rr then some (.mapIter (some g) clock seen clock) else refs.kw x,fix:=fx,mv:=refs.mv }
 let N':NT:=(E.mrE p.it m).N
 have iJ:refs.kw rr=none:=aJ.kw_new (by omega);have Pr:w0.heap.size<=rr:=by have:=aJ.grow;omega
 have aC:∀seen,sd w0 (c0 seen):=λseen=>⟨hm.1,λd hd=>by
  obtain⟨D,hD,Ps,tR⟩:=hm.2 d hd;refine⟨D,hD,Ps,?_⟩;show (if D=rr then _ else refs.kw D)=_;rw[if_neg,tR]
  rintro rfl
  rw[iJ]at tR;simp at tR⟩
 have gK:g≠rr:=by have:=(jc.1 tB).1;omega
 have fD:∀{seen seen':Array Nat}{σ:St}{a:Go.Act}{W:World}{S:aq}{γ:Nat->Value},Rel N' E.np S0 w0 (c0 seen) σ a W S γ->Rel N' E.np S0 w0 (c0 seen') σ a (W.putObj rr (.mapIter (some g) clock seen' clock)) S γ:=by
  intro seen seen' σ a W S γ hR;have:=hR.putO (l:=rr) (o:= .mapIter (some g) clock seen clock) (o':= .mapIter (some g) clock seen' clock) (by simp[c0]) Pr rfl rfl;refine this.swap rfl rfl this.size this.defers this.slot (λg u hg=>this.kept g u ?_) this.fix;simp only[c0]at hg ⊢;split
  .rename_i e;subst e;simpa using hg
  .rename_i e;simpa[e]using hg
 have CY:N'.pin p.it=true:=by show (Nat.beq p.it p.it||Nat.beq p.it m)=true;rw[Nat.beq_refl];rfl
 have Ct:N'.pin m=true:=by show (Nat.beq m p.it||Nat.beq m m)=true;rw[Nat.beq_refl,Bool.or_true]
 have Is:∀{a':Go.Act},tm a' p.it = .pointer (some ⟨rr,0,none⟩)->tm a' m = .map (some g)->∀i u,fx i=some u->N'.pin i=true/\a'.tmps.getD i undef=u:=by
  intro a' h1 h2 i u hu;simp only[fx]at hu;split at hu
  .rename_i e;subst e;simp only[j5]at hu;exact⟨CY,h1.trans hu⟩
  .split at hu
   .rename_i e;subst e;simp only[j5]at hu;exact⟨Ct,h2.trans hu⟩
   .simp at hu
 have CZ:a1.tmps.size=E.N.n:=aJ.size;let a2:Go.Act:=a1.put (some p.it) (.pointer (some ⟨rr,0,none⟩))
 have tV:∀j,tm a2 j=if j=p.it then .pointer (some ⟨rr,0,none⟩) else tm a1 j:=λj=>kL (by omega) _ j
 have Pt:Rel N' E.np S0 w0 (c0 #[]) (bj E.np (E.keep bl) (dU s em v xs)) a2 (w1.alloc (.mapIter (some g) clock #[] clock)) S2 γ2:=by
  have hA:=bc.allocO (.mapIter (some g) clock #[] clock);refine hA.frame rfl rfl ((nn _ _).trans CZ) ((tL _ _).trans aJ.defers) (λi hi=>?_) (λg' u af=>?_) (Is ?_ ?_)
  .have z:i≠p.it:=λe=>k1 (e▸hi);rw[tV,if_neg z]
  .simp only[c0]at af;split at af
   .rename_i e';simp only[j5]at af;subst af;rw[e',CX];refine⟨World.alloc_heap_new _ _,λk' b' al bD=>?_⟩;have:=fm (bc.box k' b' al) bD;omega
   .exact hA.kept g' u af
  .rw[tV,if_pos rfl]
  .rw[tV,if_neg n4];exact tF
 have C0:AtR g rr p.it clock clock (keyB es) es #[] a2 (w1.alloc (.mapIter (some g) clock #[] clock)):=by
  refine⟨(heap_alloc_old _ _ (jc.1 tB).1).trans tB,rfl,?_,?_⟩
  .rw[CX];exact World.alloc_heap_new _ _
  .rw[tV,if_pos rfl]
 let J:Array MapEntry->Array Nat->Go.Act->World->Prop:=λes' seen a w=>∃(zs:List (Int×v.den))(S:aq)(γ:Nat->Value),Rel N' E.np S0 w0 (c0 seen) (bj E.np (E.keep bl) (dU s em v zs)) a w S γ/\
  bM (bj E.np (E.keep bl) (dU s em v zs))/\Mix xs ys seen zs/\pn es' clock
 have lX:xs.length=clock:=by rw[wK.length,wI br]
 obtain⟨Pu,C1⟩:=Pc yW;have wA:J es #[] a2 (w1.alloc (.mapIter (some g) clock #[] clock)):=⟨xs,S2,γ2,Pt,gI,⟨rfl,λi=>by simp⟩,br⟩
 have It:∀{es':Array MapEntry}{seen:Array Nat}{a:Go.Act}{w:World}{zs:List (Int×v.den)}{S:aq}{γ:Nat->Value},Rel N' E.np S0 w0 (c0 seen) (bj E.np (E.keep bl) (dU s em v zs)) a w S γ->
   ∃es' cR,γ nm = .map (some g)/\w.heap[g]? = some (.map es' cR)/\All2 (rQ S w (.int .i64) v) zs es'.toList/\pn es' cR:=by
  intro es' seen a w zs S γ hR;obtain⟨g',es',cR,h1,h2,h3,h4⟩:=Ip hR oz (tU zs).1;have h5:tm a m=γ nm:=by have:=hR.slot m;rw[(tU zs).2]at this;exact this.1.2.2 _ (tU zs).1
  have h6:tm a m = .map (some g):=(hR.fix m (.map (some g)) (by show (if m=p.it then _ else if m=m then _ else _)=_;rw[if_neg n4,if_pos rfl])).2;have:g'=g:=by rw[h5,h1]at h6;simpa using h6
  subst this;exact⟨es',cR,h1,h2,h3,h4⟩
 subst CU
 refine wpIn_block (wpIn_mono (O7 (P:=P) (ro:=none) rfl (Q:=λe a' w'=>e = .exit bl/\∃S' γ',Rel E.N E.np S0 w0 refs (bj E.np (E.keep bl) (dU s em v ys)) a' w' S' γ'/\bM (bj E.np (E.keep bl) (dU s em v ys)))
  q1 q2 q3 p1 p2 p3 n1 n2 gK (jr clock) (λq hq=>?_) E.N.n l2 l3 J (λes' seen a' w' hJ=>?_) ?_ ?_ C0 wA) ?_)
 .obtain⟨e,he,rfl⟩:=jy.1 hq;exact br.1.1 e he
 .obtain⟨zs,S',γ',aZ,_⟩:=hJ;exact aZ.size
 ·-- the end
  rintro es' seen a' w' u u' hA ⟨zs,S',γ',aZ,bP,fc,lO⟩ cm
  have vM:zs=ys:=by
   refine qn λi=>?_;rw[fc.get i];split
   .rfl
   .rename_i tW;by_cases hi:i<clock
    .exfalso;have ak:i<es'.toList.length:=by rw[wI lO];exact hi
     have hb:=Iq lO (jq ak);have:=cm _ (qr ak);rw[hb]at this;exact tW this
    .rw[kr (by omega),kr (by omega)]
  subst vM;refine⟨rfl,S',γ',aZ.frame rfl rfl ?_ ?_ (λi hi=>?_) (λg' o' af=>?_) (λi u hu=>?_),bP⟩
  .rw[nn,nn];exact aZ.size
  .rw[tL,tL];exact aZ.defers
  .have z1:i≠p.c2:=λe=>k3 (e▸hi);have z2:i≠p.d1:=λe=>k2 (e▸hi);have z3:a'.tmps.size=E.N.n:=aZ.size;rw[kL (by rw[nn];omega),if_neg z1,kL (by omega),if_neg z2]
  .refine aZ.kept g' o' ?_;show (if g'=rr then _ else refs.kw g')=_;rw[if_neg]
   .exact af
   .rintro rfl
    rw[iJ]at af;simp at af
  .have:=(hR.fix i u hu).1;rw[gC]at this;simp at this
 ·-- a round
  rintro es' seen a' w' wL u u' e hA ⟨zs,S',γ',aZ,bP,fc,lO⟩ he tW lh qH
  have C2:a'.tmps.size=E.N.n:=aZ.size;obtain⟨yX,bW,Pv,C3,cm,ga⟩:=It (es':=es') aZ;have:yX=es'/\bW=clock:=by have:=hA.map;rw[C3]at this;simpa using this
  obtain⟨rfl,rfl⟩:=this;obtain⟨j,hj⟩:=qg.1 he;have wM:e.born=j:=Iq ga hj;have tx:j<xs.length:=by have:=(jk.1 hj).1;rw[lX,<-wI ga];exact this
  have rS:zs[j]? = xs[j]? := by
   rw[fc.get j,if_neg];rw[<-wM,tW];simp
  obtain⟨x,hx⟩:∃x,xs[j]? = some x:=⟨_,jq tx⟩;obtain⟨e',tI,Iu,rA⟩:=cm.get j x (rS.trans hx);obtain rfl:e'=e:=by rw[hj]at tI;exact(Option.some.inj tI).symm
  obtain⟨y,hy,Iv,si⟩:=C1 j x hx;have bV:(zs.map λx=>x.1).Nodup:=by have h1:=ga.1.2.2;rw[wk cm]at h1;exact(List.pairwise_map.1 h1).imp λh e=>h (by rw[e])
  have Iw:Rel N' E.np S0 w0 (c0 seen) (bj E.np (E.keep bl) (dU s em v zs)) a' wL S' γ':=by
   rcases lh with rfl|rfl
   .exact aZ
   .exact aZ.drawn _
  have C4:VRep S' wL ⟨v,x.2⟩ e'.val:=by
   rcases lh with rfl|rfl
   .exact rA
   .exact VRep.keep (S:=S') (w:=w') (S':=S') (w':=w'.drew) (λg o hs=>⟨hs,rfl⟩) rA
  have C5:=fD (seen':=seen.push e'.born) Iw;obtain⟨w2,qI⟩:∃w2,wL.putObj rr (.mapIter (some g) bW (seen.push e'.born) bW)=w2:=⟨_,rfl⟩;have qH:AtR g rr p.it bW bW (keyB es) yX (seen.push e'.born) ((a'.put (some p.d1) u).put (some p.c2) u') w2:=by rw[<-qI];exact qH
  show (Code.block p.b6 _).wpIn (FR none) n P _ _ (wL.putObj rr (.mapIter (some g) bW (seen.push e'.born) bW));rw[qI]at C5 ⊢;obtain⟨a3,yY⟩:∃a3,(a'.put (some p.d1) u).put (some p.c2) u'=a3:=⟨_,rfl⟩;rw[yY]at qH ⊢
  have C6:∀j,tm a3 j=if j=p.c2 then u' else if j=p.d1 then u else tm a' j:=λj=>by
   rw[<-yY,kL (by rw[nn];omega),kL (by omega)]
  have C7:a3.tmps.size=E.N.n:=by rw[<-yY,nn,nn];exact C2
  have pr:tm a' p.it = .pointer (some ⟨rr,0,none⟩):=hA.ptr;have oE:tm a' m = .map (some g):=(aZ.fix m (.map (some g)) (by show (if m=p.it then _ else if m=m then _ else _)=_;rw[if_neg n4,if_pos rfl])).2
  have e7:Rel N' E.np S0 w0 (c0 (seen.push e'.born)) (bj E.np (E.keep bl) (dU s em v zs)) a3 w2 S' γ':=by
   refine C5.frame rfl rfl C7 (by rw[<-yY,tL,tL];exact aZ.defers) (λi hi=>?_) (λg' o' af=>C5.kept g' o' af) (Is ?_ ?_)
   .have z1:i≠p.c2:=λe=>k3 (e▸hi);have z2:i≠p.d1:=λe=>k2 (e▸hi);rw[C6,if_neg z1,if_neg z2]
   .rw[C6,if_neg n2,if_neg n1];exact pr
   .rw[C6,if_neg n6,if_neg n5];exact oE
  have og:bY S' wL S' w2:=λg' o' cW=>by
   refine⟨cW,?_⟩;have hq:=(Iw.kept rr (.mapIter (some g) bW seen bW) (by show (if rr=rr then _ else _)=_;rw[if_pos rfl])).1;by_cases nb:g'=rr
   .subst nb;rw[yQ hq rfl,<-qI,yQ (World.putObj_heap_same (jc.1 hq).1) rfl]
   .rw[<-qI];exact World.cell?_of_block (World.putObj_heap_other nb)
  have C8:e'.key = .int .i64 x.1:=by have:[e'.key]=[Value.int .i64 x.1]:=Iu;simpa using this
  have C9:=run_entry_at (P:=P) w2 rr g bW seen yX bW e' qH.iter qH.map he ga.1.2.1;have Da:a3.eval (.tmp p.it) = .pointer (some ⟨rr,0,none⟩):=qH.ptr;have wN:(execOp a3.eval o3).run P w2 = .ok (.value (.tuple #[e'.key,e'.val])) w2:=by simp[execOp,s1,Da,C9,Result.andThen]
  obtain⟨jR,jS⟩:=tM e7 bP (dst:=some p.d3) (λd hd=>by
   simp only[j5]at hd;subst hd;refine⟨l4,?_⟩;show (Nat.beq p.d3 p.it||Nat.beq p.d3 m)=false;rw[Bool.or_eq_false_iff];exact⟨beqF (Ne.symm n3),beqF (Ne.symm n7)⟩) (s:= .tup [.one (.d (.int .i64) x.1),jD v x.2]) (v:= .tuple #[e'.key,e'.val]) (by
   refine⟨#[e'.key,e'.val],rfl,⟨Iu,λ_=>by rw[C8];rfl⟩,?_,trivial⟩;exact rJ (x:=⟨v,x.2⟩) (VRep.keep og C4)) rfl
  have wO:=si zs;unfold tb at wO;have Db:p.ops.size=(p.ops.size-1)+1:=by have:=(jc.1 e3).1;omega
  have Px:Region.wanted o3 (yielded p.ops a3.tmps)=true:=by simp[Region.wanted,s3]
  have Dc:MrS P (λ_=>none):=by
   intro E hE _ _ _ _ _ x y _ _ _ _ _ _ _ _ _ _ _ _ _ _ _ _ _ _ mz _;unfold s7 at mz;split at mz
   .rw[hE]at mz;simp at mz
   .simp at mz
  have bH:=Ii ea Dc p.rest (E:=E.mrE p.it m) (ro:=none) hT hC hF rfl eM (.inl CT)
  refine wpIn_block (wpIn_seq (wpIn_mono (Q:=λe4 a4 w4=>e4 = .normal/\p.rest.wpIn (FR none) n P (Post (E.mrE p.it m) S0 w0 (c0 (seen.push e'.born)) (bU p.rest) (λe σ2=>cond (mrNx p.b6 e) (match eV E.np (E.keep bl) σ2 with
   |some s'=>some s'
   |none=>none) none) (dU s em v (@gH _ _ (Ty.int .i64).keq zs x.1 y.2))) a4 w4) (wpIn_region (p9 (.inl rfl) (by rintro⟨a,w,h,_⟩;cases h) _ _ _ ?_)) ?_))
  .rw[List.range_eq_range',Db,qz];simp only[wpOps,e3,Px,if_true];refine .inl ?_;unfold Oper.wp;rw[wN,Oper.upon_value,s2];refine B8 (E:=E.mrE p.it m) hT hC Pj (λσ' a' w' S' γ' h1 h2 h3=>⟨rfl,bH p.b6 n (aC _) (by rw[oH _ _ CT];simp) h1 h2 h3⟩) (p.ops.size-1) 1 _ _ _ _ _ (by omega) jR jS ?_;rw[List.drop_one];exact wO
  rintro e4 a4 w4 ⟨rfl,h4⟩
  refine wpIn_mono h4 ?_
  rintro e5 a5 w5 ⟨Ix,ex,σ5,S5,γ5,_,Dd,rfl,oI,sj,gM⟩
  have:=Dd CT;subst this;dsimp only at gM;cases yZ:mrNx p.b6 ex with
  |false=>rw[yZ]at gM;simp at gM
  |true=>
  rw[yZ,j6]at gM;split at gM
  case h_2=>simp at gM
  rename_i s6 Py;simp only[j5]at gM;subst gM;obtain⟨S6,γ6,qG,Pz⟩:=nt oI sj Py
  have vc:∀Q:Exit->Go.Act->World->Prop,Q .normal a5 w5->Exit.inBlock p.b6 Q (exOf ex) a5 w5:=by
   intro Q hQ;cases ex with
   |normal=>exact hQ
   |exit i=>have:i=p.b6:=z8 yZ;simp only[exOf,Exit.inBlock,this,if_true];exact hQ
   |ret=>simp[mrNx]at yZ
  refine vc _ ?_;obtain⟨PA,iY,GD,PB,qJ,mB⟩:=It (es':=yX) qG;have fv:@gH _ _ (Ty.int .i64).keq zs x.1 y.2=zs.set j y:=by rw[Io bV (rS.trans hx) y.2,<-Iv]
  have fE:(@gH _ _ (Ty.int .i64).keq zs x.1 y.2).map (λx=>x.1)=zs.map λx=>x.1:=by
   rw[fv,List.map_set,Iv];refine qn λi=>?_;rw[List.getElem?_set];split
   .rename_i cg;subst cg;rw[kn,rS.trans hx];rw[if_pos (by rw[qf,fc.len];exact tx)];rfl
   .rfl
  have PC:iY=bW:=by rw[<-wI mB,<-qJ.length,<-wI ga,<-cm.length,fv,qq]
  subst PC;refine⟨PA,⟨PB,?_,?_,?_⟩,_,S6,γ6,qG,Pz,⟨?_,λi=>?_⟩,mB⟩
  .rw[<-hA.ks];exact Pb (by rw[wk qJ,wk cm,fE]) (by rw[mB.2,ga.2])
  .exact(qG.kept rr (.mapIter (some g) iY (seen.push e'.born) iY) (by show (if rr=rr then _ else _)=_;rw[if_pos rfl])).1
  .exact(qG.fix p.it (.pointer (some ⟨rr,0,none⟩)) (by show (if p.it=p.it then _ else _)=_;rw[if_pos rfl])).2
  .rw[fv,qq];exact fc.len
  .rw[fv,List.getElem?_set];by_cases cg:j=i
   .subst cg;rw[if_pos rfl,if_pos (by rw[fc.len];exact tx),if_pos ((wF _ _ _).2 (.inr wM.symm))];exact hy.symm
   .rw[if_neg cg,fc.get i];by_cases y3:seen.contains i=true
    .rw[if_pos y3,if_pos ((wF _ _ _).2 (.inl y3))]
    .rw[if_neg y3,if_neg];intro hq;rcases (wF _ _ _).1 hq with hq|hq
     .exact y3 hq
     .exact cg (by rw[hq,wM])
 .rintro e a' w' ⟨rfl,S',γ',aZ,bP⟩
  simp only[Exit.inBlock,if_true];exact⟨refs,.normal,_,S',γ',⟨rfl,rfl,rfl,hm,rfl⟩,λ_=>rfl,rfl,aZ,bP,hk⟩
theorem PD{P:Program}(ea:P.follows .mixedOrders=true)(c:Code){E:Env}{ro:Option Nat}(hT:bk P E.T)(hC:fW P E.C)(hF:CFun E.C)(eM:∀f t,E.bw f=some t->BwK P f t)
 (hq:bU c=true\/(ro=none/\E.N.pin=λ_=>false)):yT P E ro c:=Ii ea (Pe ea E.mr) c hT hC hF rfl eM hq
end
section
variable{N:NT}{np:Nat}{S0:aq}{w0:World}{refs:Refs}{σ:St}{a:Go.Act}{w:World}{S:aq}{γ:Nat->Value}
def sr:Arg->Bool
 |.ref _=>true
 |.rl _ _=>true
 |_=>false
def wP(args:List Arg)(vals:List Value)(k:Nat):Option Value:=
 if k%64=0 then match args[k/64]? with
  |some x=>if sr x then vals[k/64]? else none
  |none=>none
 else none
def kQ(args:List Arg)(vals:List Value):Refs:={ blks:=cu args vals,val:=wP args vals,mv:=mvOf args vals }
def γ0(vals:List Value)(k:Nat):Value:=vals.getD (k/64) undef
theorem wQ:∀{as:List Arg}{us:List Value}{i:Nat}{x:Arg}{u:Value}{g:Nat},as[i]? = some x->us[i]? = some u->gy x u=some g->g∈cu as us
 |y::as,v::us,0,x,u,g,h,h',hg=>by
  simp at h h';subst h;subst h';simp[cu,hg]
 |y::as,v::us,i+1,x,u,g,h,h',hg=>by
  have:=wQ (as:=as) (us:=us) (i:=i) (by simpa using h) (by simpa using h') hg;simp[cu,this]
 |[],_,_,_,_,_,h,_,_=>by simp at h
 |_::_,[],_,_,_,_,_,h',_=>by simp at h'
theorem Iy:∀{as:List Arg}{us:List Value}{i j:Nat}{x y:Arg}{u v:Value}{g:Nat},(cu as us).Nodup->as[i]? = some x->us[i]? = some u->as[j]? = some y->us[j]? = some v->
  gy x u=some g->gy y v=some g->i=j
 |z::as,t::us,0,0,_,_,_,_,_,_,_,_,_,_,_,_=>rfl
 |z::as,t::us,0,j+1,x,y,u,v,g,hn,hx,hu,hy,hv,h1,h2=>by
  simp at hx hu;subst hx;subst hu;have:=wQ (as:=as) (us:=us) (i:=j) (by simpa using hy) (by simpa using hv) h2;simp[cu,h1]at hn;exact absurd this hn.1
 |z::as,t::us,i+1,0,x,y,u,v,g,hn,hx,hu,hy,hv,h1,h2=>by
  simp at hy hv;subst hy;subst hv;have:=wQ (as:=as) (us:=us) (i:=i) (by simpa using hx) (by simpa using hu) h1;simp[cu,h2]at hn;exact absurd this hn.1
 |z::as,t::us,i+1,j+1,x,y,u,v,g,hn,hx,hu,hy,hv,h1,h2=>by
  have Cg:(cu as us).Nodup:=by simp only[cu]at hn;exact(qo.1 hn).2.1
  rw[Iy Cg (i:=i) (j:=j) (by simpa using hx) (by simpa using hu) (by simpa using hy) (by simpa using hv) h1 h2]
 |[],_,_,_,_,_,_,_,_,_,h,_,_,_,_,_=>by simp at h
 |_::_,[],_,_,_,_,_,_,_,_,_,h,_,_,_,_=>by simp at h
theorem Iz:∀{as:List Arg}{us:List Value}{i e:Nat}{x:TV}{u:Value}{g:Nat},as[i]? = some (.mv e x)->us[i]? = some u->blk u=some g->g∈mvOf as us
 |y::as,v::us,0,e,x,u,g,h,h',hg=>by
  simp at h h';subst h;subst h';simp[mvOf,hg]
 |y::as,v::us,i+1,e,x,u,g,h,h',hg=>by
  have:=Iz (as:=as) (us:=us) (i:=i) (by simpa using h) (by simpa using h') hg;cases y<;>simp[mvOf,this]
 |[],_,_,_,_,_,_,h,_,_=>by simp at h
 |_::_,[],_,_,_,_,_,_,h',_=>by simp at h'
theorem PE{args:List Arg}{vals:List Value}(ha:All2 (jM S w) args vals)(bV:(cu args vals).Nodup)(hS:∀g o,S g o->g<w.heap.size)(hlen:args.length=np)(hN:np<=N.n) :
  Rel N np S w (kQ args vals) (St.init args) ⟨vals.toArray++Array.replicate (N.n-vals.toArray.size) undef,[]⟩ w S (γ0 vals)/\bM (St.init args):=by
 have pG:vals.length=np:=by rw[<-ha.length,hlen]
 have oE:∀i u,vals[i]? = some u->(vals.toArray++Array.replicate (N.n-vals.toArray.size) undef).getD i undef=u:=by intro i u hu;have hi:i<vals.length:=(jk.1 hu).1;rw[qp,Array.getElem?_append_left (by simpa using hi)];simp[hu]
 have gr:∀i u,vals[i]? = some u->γ0 vals (i*64)=u:=by intro i u hu;simp only[γ0];rw[zi _ (by omega)];simp[hu]
 have oL:∀i u,vals[i]? = some u->γ0 vals (i*64+63)=u:=by intro i u hu;simp only[γ0];rw[show (i*64+63)/64=i by omega];simp[hu]
 have cP:∀k b,(St.init args).bx k = .live b->∃i x u,args[i]? = some x/\vals[i]? = some u/\jM S w x u/\((k=i*64/\iq (some x) = .live b)\/(k=i*64+63/\nQ (some x) = .live b)):=by
  intro k b hb;simp only[St.init]at hb;split at hb
  .rename_i hk;cases hx:args[k/64]? with
   |none=>simp[hx,iq]at hb
   |some x=>obtain⟨u,hu,fb⟩:=ha.get _ x hx;exact⟨k/64,x,u,hx,hu,fb,.inl ⟨by omega,by rw[hx]at hb;exact hb⟩⟩
  .split at hb
   .rename_i hk;cases hx:args[k/64]? with
    |none=>simp[hx,nQ]at hb
    |some x=>obtain⟨u,hu,fb⟩:=ha.get _ x hx;exact⟨k/64,x,u,hx,hu,fb,.inr ⟨by omega,by rw[hx]at hb;exact hb⟩⟩
   .simp at hb
 have mC:∀{x:Arg}{b:Bx},nQ (some x) = .live b->∃e t xs,x = .mv e ⟨.list t,xs⟩/\b = .lst e t xs false:=by
  intro x b hb;cases x with
  |mv e y=>obtain⟨t,v⟩:=y;cases t<;>simp[nQ]at hb;exact⟨_,_,_,rfl,hb.symm⟩
  |_=>simp[nQ]at hb
 have wR:∀i x,args[i]? = some x->(St.init args).bx (i*64+63)=nQ (some x):=by intro i x hx;simp only[St.init];rw[if_neg (by omega),if_pos (by omega),show (i*64+63)/64=i by omega,hx]
 have iZ:∀i x,args[i]? = some x->(St.init args).bx (i*64)=iq (some x):=by intro i x hx;simp only[St.init];rw[if_pos (by omega),zi _ (by omega),hx]
 have hblk:∀x u b,iq (some x) = .live b->gy x u=blk u:=by intro x u b hb;cases x<;>first|rfl|simp[iq]at hb
 refine⟨⟨?_,rfl,?_,?_,?_,?_,λ_ _ h=>h,λ_ _ h=> .inl h,hS,λ_ _ _=>rfl,jr _,rfl,rfl,rfl,?_,λg o h=>by simp[kQ]at h,λi v h=>by simp[kQ]at h⟩,?_⟩
 .simp;omega
 .intro i
  have db:(St.init args).sl i=match args[i]? with
   |some a=> .one (xY i a)
   |none=> .one (.one .dead):=rfl
  rw[db];cases hx:args[i]? with
  |none=>exact⟨trivial,λh=>absurd rfl h⟩
  |some x=>
   obtain⟨u,hu,fb⟩:=ha.get i x hx;show aQ S w (γ0 vals) (St.init args).bx (xY i x) _;rw[oE i u hu];have hb:=iZ i x hx;cases x with
   |v x=>exact rJ fb
   |ref ls=>obtain⟨g,cur,e,h1,_⟩:=id fb;exact⟨⟨by rw[hb];simp[iq],by rw[h1];rfl,λb _=>⟨g,(gr i u hu).trans h1,h1⟩⟩,λ_=>by rw[h1];rfl⟩
   |rl e x=>obtain⟨t,xs,rfl,bb,_⟩:=id fb;have bK:One u:=bb.one;exact⟨⟨by rw[hb];simp[iq],bK,λb _=>(gr i u hu).symm⟩,λ_=>bK⟩
   |ip ls=>obtain⟨g,o,cs,h1,_⟩:=id fb;exact⟨fb,λ_=>by rw[h1];rfl⟩
   |clo f caps=>obtain⟨cv,h1,_⟩:=id fb;exact⟨fb,λ_=>by rw[h1];rfl⟩
   |mv e x=>obtain⟨t,xs,rfl,bb,_⟩:=id fb.1;have bK:One u:=bb.one;have al:=wR i _ hx;exact⟨⟨by rw[al];simp[nQ],bK,λb _=>(oL i u hu).symm⟩,λ_=>bK⟩
 .intro k b hb;obtain⟨i,x,u,hx,hu,fb,⟨rfl,bq⟩|⟨rfl,bq⟩⟩:=cP k b hb
  .cases x with
   |ref ls=>simp only[iq,BS.live.injEq]at bq;subst bq;exact BJ (gr i u hu) fb
   |rl e x=>obtain⟨t,xs,rfl,_⟩:=id fb;simp only[iq,BS.live.injEq]at bq;subst bq;exact tC (gr i u hu) fb
   |_=>simp[iq]at bq
  .obtain⟨e,t,xs,rfl,rfl⟩:=mC bq;exact tC (oL i u hu) fb.1
 .intro k b g hb hg;obtain⟨i,x,u,hx,hu,fb,⟨rfl,bq⟩|⟨rfl,bq⟩⟩:=cP k b hb
  .rw[gr i u hu,<-hblk x u b bq]at hg;refine .inr ⟨wQ hx hu hg,?_⟩;have:i<args.length:=(jk.1 hx).1;simp[parK];omega
  .obtain⟨e,t,xs,rfl,rfl⟩:=mC bq;rw[oL i u hu]at hg;exact .inl (.inr ⟨Iz hx hu hg,wQ (x:= .mv e ⟨.list t,xs⟩) hx hu hg⟩)
 .intro k k' b b' g aB hb al hg af
  have IA:∀k b g,(St.init args).bx k = .live b->blk (γ0 vals k)=some g->∃i x u,args[i]? = some x/\vals[i]? = some u/\gy x u=some g/\((k=i*64/\iq (some x) = .live b)\/(k=i*64+63/\nQ (some x) = .live b)):=by
   intro k b g hb hg;obtain⟨i,x,u,hx,hu,fb,⟨rfl,bq⟩|⟨rfl,bq⟩⟩:=cP k b hb
   .rw[gr i u hu,<-hblk x u b bq]at hg;exact⟨i,x,u,hx,hu,hg,.inl ⟨rfl,bq⟩⟩
   .obtain⟨e,t,xs,rfl,rfl⟩:=mC bq;rw[oL i u hu]at hg;exact⟨i,_,u,hx,hu,hg,.inr ⟨rfl,bq⟩⟩
  obtain⟨i,x,u,hx,hu,h1,h2⟩:=IA k b g hb hg;obtain⟨j,y,v,hy,hv,h3,h4⟩:=IA k' b' g al af;have cg:=Iy bV hx hu hy hv h1 h3;subst cg;rw[hx]at hy;cases hy;rcases h2 with⟨rfl,h2⟩|⟨rfl,h2⟩<;>rcases h4 with⟨rfl,h4⟩|⟨rfl,h4⟩
  .exact aB rfl
  .obtain⟨e,t,xs,rfl,rfl⟩:=mC h4;simp[iq]at h2
  .obtain⟨e,t,xs,rfl,rfl⟩:=mC h2;simp[iq]at h4
  .exact aB rfl
 .intro k v hv;simp only[kQ,wP]at hv;split at hv
  .rename_i hk;split at hv
   .rename_i x hx;split at hv
    .rename_i hr;have hi:k/64<args.length:=(jk.1 hx).1;have aR:k=(k/64)*64:=by omega
     refine⟨by simp[parK,hk];omega,?_,?_⟩
     .rw[aR,iZ _ x hx];cases x with
      |rl e y=>obtain⟨u,hu,fb⟩:=ha.get _ _ hx;obtain⟨t,xs,rfl,_⟩:=fb;simp[iq]
      |ref ls=>simp[iq]
      |_=>simp[sr]at hr
     .rw[aR];exact gr _ v hv
    .simp at hv
   .simp at hv
  .simp at hv
 .intro i;show ((match args[i]? with|some a=>Slot.one (xY i a)|none=> .one (.one .dead)):Slot).bare=true;split<;>rfl
theorem y4{α β:Type}{P:Program}(f:α->Sem β):∀{rs:List α}{zs:List β},All2 (λr z=>(f r).run P w = .ok z w) rs zs->(rs.mapM f).run P w = .ok zs w
 |[],[],_=>by simp
 |r::rs,z::zs,h=>by
  simp only[qt,Sem.run_bind,h.1,Result.andThen_ok,y4 f h.2,Sem.run_pure]
 |[],_::_,h=>h.elim
 |_::_,[],h=>h.elim
def Uns(b:Bx):Prop:=(∃ls,b = .cell ls false)\/∃e t xs,b = .lst e t xs false
theorem y5{P:Program}{E:Env}(hT:bk P E.T)(hR:Rel N np S0 w0 refs σ a w S γ){r:ResultVar}{c:Cel}(h:rf E σ r=some c) :
  ∃z,((match r with
   |.tmp t=>pure (a.tmps.getD t undef)
   |.cell x t=>do loadVar t (<-asAddr (a.tmps.getD x undef)):Sem Value)).run P w = .ok z w/\aQ S w γ σ.bx c z:=by
 cases r with
 |tmp t=>
  simp only[rf]at h;split at h
  .rename_i c' hc;simp only[j5]at h;subst h;have:=hR.slot t;rw[hc]at this;exact⟨_,by simp,this⟩
  .simp at h
 |cell x t=>
  simp only[rf]at h;split at h
  .rename_i ti y ht hy;have:=hR.slot x;rw[hy]at this;obtain⟨z,hz,eD⟩:=F9 hT hR (RdR.msk λ_=> .inl rfl) ht h this.1;refine⟨z,?_,eD⟩;show (do loadVar t (<-asAddr (a.tmps.getD x undef)):Sem Value).run P w=_
   have hu:∃ad,a.tmps.getD x undef = .pointer (some ad):=by
    generalize a.tmps.getD x undef=u at hz
    cases u with
    |pointer o=>
     cases o with
     |some ad=>exact⟨ad,rfl⟩
     |none=>simp[Instr.loadAt,Instr.sureAddr]at hz
    |_=>simp[Instr.loadAt,Instr.sureAddr]at hz
   obtain⟨ad,hu⟩:=hu;rw[hu]at hz ⊢;simpa[Instr.loadAt,Instr.sureAddr,asAddr]using hz
  .simp at h
theorem y6{rd:Nat->BS}(hR:Rel N np S0 w0 refs σ a w S γ)(au:RdF np σ rd):∀{ks:List SoK}{ls:List Leaf}{r:List RL}{n:List Nat}{v:Ups}{zs:List Value},soOf rd ks ls=some (r,n,v)->
  All2 (aL S w γ σ.bx) ls zs->(∀z∈zs,One z)->FrzL np σ.bx v/\(∀k∈n,(∃b,σ.bx k = .live b/\Uns b)/\parK np k=false)/\jN r zs=(n.filterMap λk=>blk (γ k))/\
   ∀S',bY S w S' w->Froz σ.bx γ S' w v->(∀k∈n,∀g,blk (γ k)=some g->∀o,¬S' g o)->All2 (yq S' w) r zs
 |[],[],r,n,v,zs,h,ha,h1=>by
  simp[soOf]at h;obtain⟨rfl,rfl,rfl⟩:=h;cases zs with
  |nil=>exact⟨.nil,by simp,rfl,λ_ _ _ _=>trivial⟩
  |cons _ _=>exact ha.elim
 |.d t::ks,l::ls,r,n,v,zs,h,ha,h1=>by
  cases zs with
  |nil=>exact ha.elim
  |cons z zs=>
  simp only[soOf]at h;split at h
  .rename_i x u r' n' v' hx hr;cases cX:t.leafy with
   |false=>rw[cX]at h;simp at h
   |true=>
   rw[cX,j6]at h;simp only[j5,j9]at h;obtain⟨rfl,rfl,rfl⟩:=h;obtain⟨f1,p1⟩:=py au hR.box hx ha.1;obtain⟨f2,k2,b2,p2⟩:=y6 hR au hr ha.2 (λy hy=>h1 y (by simp[hy]));refine⟨FrzL.app.2 ⟨f1,f2⟩,k2,by simp[jN,b2],λS' aj cF hn=>?_⟩;obtain⟨g1,g2⟩:=Froz.app.1 cF;exact⟨⟨h1 z (by simp),p1 S' w aj g1⟩,p2 S' aj g2 hn⟩
  .simp at h
 |.own e t::ks,l::ls,r,n,v,zs,h,ha,h1=>by
  cases zs with
  |nil=>exact ha.elim
  |cons z zs=>
  cases l with
  |nil=>
   simp only[soOf]at h;split at h
   .rename_i r' n' v' hr;cases hm:isM e with
    |true=>rw[hm]at h;simp at h
    |false=>
    rw[hm,j7]at h;simp only[j5,j9]at h;obtain⟨rfl,rfl,rfl⟩:=h;have hz:z = .slice none 0 0:=ha.1;subst hz;obtain⟨f2,k2,b2,p2⟩:=y6 hR au hr ha.2 (λy hy=>h1 y (by simp[hy]));refine⟨f2,k2,by simp[jN,blk,b2],λS' aj cF hn=>⟨⟨t,[],rfl,.inl ⟨hm,[],⟨by simp,.inl ⟨rfl,rfl⟩⟩,trivial⟩,λg hg=>by simp[blk]at hg⟩,p2 S' aj cF hn⟩⟩
   .simp at h
  |ol k=>
   simp only[soOf]at h;split at h
   .rename_i e' b xs hk;cases he:Nat.beq e' e with
    |false=>rw[he]at h;simp at h
    |true=>
    rw[he,j6]at h;split at h
    .rename_i r' n' v' hr;simp only[j5,j9]at h;obtain⟨rfl,rfl,rfl⟩:=h;have hp:=au.par hk;have hk:=au.ok.live hk;have hz:=ha.1.2.2 _ hk;obtain⟨f2,k2,b2,p2⟩:=y6 hR au hr ha.2 (λy hy=>h1 y (by simp[hy]));refine⟨f2,λk' aR=>?_,?_,λS' aj cF hn=>⟨⟨b,xs,rfl,by rw[hz];exact(hR.box k _ hk).1.keep aj (λ_ _=>rfl),λg hg=>hn k (by simp) g (by rw[<-hz];exact hg)⟩,p2 S' aj cF (λk' aR=>hn k' (by simp[aR]))⟩⟩
     .rcases jf.1 aR with rfl|aR
      .exact⟨⟨_,hk,.inr ⟨_,_,_,rfl⟩⟩,hp⟩
      .exact k2 k' aR
     .simp only[jN,hz,qy];rw[b2];cases blk (γ k)<;>rfl
    .simp at h
   .simp at h
  |_=>simp[soOf]at h
 |[],_::_,r,n,v,zs,h,_,_=>by simp[soOf]at h
 |.d _::_,[],r,n,v,zs,h,_,_=>by simp[soOf]at h
 |.own _ _::_,[],r,n,v,zs,h,_,_=>by simp[soOf]at h
theorem PF{P:Program}{E:Env}(hT:bk P E.T)(hR:Rel N E.np S0 w0 refs σ a w S γ){rd:Nat->BS}(au:RdF E.np σ rd){own:Bool}{t:Nat}{c:Cel}{v:RV}{ks:List Nat}{u:Ups}{z:Value}(h:rvOf E rd own t c=some (v,ks,u))(hc:aQ S w γ σ.bx c z) :
  FrzL E.np σ.bx u/\(∀k∈ks,(∃b,σ.bx k = .live b/\Uns b)/\parK E.np k=false)/\gz v z=(ks.filterMap λk=>blk (γ k))/\
   ∀S',bY S w S' w->Froz σ.bx γ S' w u->(∀k∈ks,∀g,blk (γ k)=some g->∀o,¬S' g o)->lg S' w v z:=by
 unfold rvOf at h;split at h
 .rename_i k;split at h
  .rename_i ls hk;split at h
   .rename_i xs u1 h1;simp only[j5,j9]at h;obtain⟨rfl,rfl,rfl⟩:=h;have hp:=au.par hk;have hk:=au.ok.live hk;obtain⟨g,hg,hz⟩:=hc.1.2.2 _ hk;obtain⟨g',cur,e,af,hh,bN,_⟩:=hR.box k _ hk;rw[hg]at af;simp at af;subst af;obtain⟨hf,ng⟩:=rG au h1 bN;refine⟨hf,λk' aR=>by simp at aR;subst aR;exact⟨⟨_,hk,.inl ⟨_,rfl⟩⟩,hp⟩,?_,λS' aj cF hn=>⟨g,cur,e,hz,hh,by rw[x5 bN (ng S' w aj cF)];exact ng S' w aj cF,?_⟩⟩
    .simp[gz,ix,hz,hg,blk]
    .exact hn k (by simp) g (by rw[hg];rfl)
   .simp at h
  .simp at h
 .rename_i f caps;simp only[j5,j9]at h;obtain⟨rfl,rfl,rfl⟩:=h;obtain⟨⟨cv,hz,ah⟩,_⟩:=hc;exact⟨.nil,by simp,by simp[gz,ix],λS' aj _ _=>⟨cv,hz,ah.mono λ_ _ h=>gh.keep aj h⟩⟩
 .split at h
  .rename_i ti ht;split at h
   .rename_i ty aD;split at h
    .split at h
     .rename_i ls;split at h
      .rename_i r n u1 PG;simp only[j5,j9]at h;obtain⟨rfl,rfl,rfl⟩:=h;obtain⟨cs,hz,ah,bK⟩:=hc;subst hz;obtain⟨f1,k1,b1,p1⟩:=y6 hR au PG ah bK;exact⟨f1,k1,b1,λS' aj cF hn=>⟨cs,rfl,p1 S' aj cF hn⟩⟩
      .simp at h
     .rename_i el eT _;simp only[j5,j9]at h;obtain⟨rfl,rfl,rfl⟩:=h;have hz:z = .slice none 0 0:=hc.1;subst hz;exact⟨.nil,by simp,by simp[gz,ix,blk],λS' _ _ _=>⟨el,[],rfl,.inl ⟨AX hT ht,[],⟨by simp,.inl ⟨rfl,rfl⟩⟩,trivial⟩,λg hg=>by simp[blk]at hg⟩⟩
     .rename_i k eT _;split at h
      .rename_i e el xs hk;simp only[j5,j9]at h;obtain⟨rfl,rfl,rfl⟩:=h;have hp:=au.par hk;have bn:=au.ok.nm hk;have hk:=au.ok.live hk;have hz:=hc.1.2.2 _ hk;obtain⟨css,ar,ah,_⟩:=eW bn (hR.box k _ hk);refine⟨.nil,λk' aR=>by simp at aR;subst aR;exact⟨⟨_,hk,.inr ⟨_,_,_,rfl⟩⟩,hp⟩,?_,λS' aj _ hn=>⟨el,xs,rfl,by rw[hz];exact(hR.box k _ hk).1.keep aj (λ_ _=>rfl),λg hg=>hn k (by simp) g (by rw[<-hz];exact hg)⟩⟩;simp only[gz,ix,hz,qy,List.filterMap_nil];cases blk (γ k)<;>rfl
      .simp at h
     .simp at h
    .split at h
     .rename_i x u1 hx;simp only[j5,j9]at h;obtain⟨rfl,rfl,rfl⟩:=h;obtain⟨hf,hp,_⟩:=yc au hR.box hx hc;exact⟨hf,by simp,by simp[gz,ix],λS' aj cF _=>hp S' w aj cF⟩
     .simp at h
   .simp at h
  .simp at h
theorem IB{P:Program}{E:Env}(hT:bk P E.T)(hR:Rel N E.np S0 w0 refs σ a w S γ):∀{os:List Bool}{rs:List ResultVar}{ts:List Nat}{vs:List RV}{ks:List Nat}{u:Ups},kW E σ os rs ts=some (vs,ks,u)->
  ∃zs,All2 (λ(r:ResultVar) z=>((match r with
   |.tmp t=>pure (a.tmps.getD t undef)
   |.cell x t=>do loadVar t (<-asAddr (a.tmps.getD x undef)):Sem Value)).run P w = .ok z w) rs zs/\
  FrzL E.np σ.bx u/\(∀k∈ks,(∃b,σ.bx k = .live b/\Uns b)/\parK E.np k=false)/\dX vs zs=(ks.filterMap λk=>blk (γ k))/\
   ∀S',bY S w S' w->Froz σ.bx γ S' w u->(∀k∈ks,∀g,blk (γ k)=some g->∀o,¬S' g o)->All2 (lg S' w) vs zs
 |os,[],ts,vs,ks,u,h=>by
  simp[kW]at h;obtain⟨rfl,rfl,rfl⟩:=h;exact⟨[],trivial,.nil,by simp,rfl,λ_ _ _ _=>trivial⟩
 |os,r::rs,ts,vs,ks,u,h=>by
  simp only[kW]at h;split at h
  .rename_i c hc;split at h
   .rename_i v k1 u1 hv;split at h
    .rename_i ft k2 u2 eP;simp only[j5,j9]at h;obtain⟨rfl,rfl,rfl⟩:=h;obtain⟨z,hz,eD⟩:=y5 hT hR hc;obtain⟨f1,p1,n1,r1⟩:=PF hT hR (tK (RdR.msk λ_=> .inl rfl)) hv eD;obtain⟨zs,gW,f2,p2,n2,r2⟩:=IB hT hR eP;refine⟨z::zs,⟨hz,gW⟩,FrzL.app.2 ⟨f1,f2⟩,λk hk=>?_,?_,λS' aj cF hn=>?_⟩
     .rcases jp.1 hk with hk|hk
      .exact p1 k hk
      .exact p2 k hk
     .simp[dX,n1,n2]
     .obtain⟨g1,g2⟩:=Froz.app.1 cF;exact⟨r1 S' aj g1 (λk hk=>hn k (by simp[hk])),r2 S' aj g2 (λk hk=>hn k (by simp[hk]))⟩
    .simp at h
   .simp at h
  .simp at h
theorem De(hR:Rel N np S0 w0 refs σ a w S γ):∀{as:List Arg}{us:List Value}{i:Nat}{os:List Out}{u:Ups},outs np σ i as=some (os,u)->as.length=us.length->
  (∀(j:Nat)(x:Arg)(v:Value),as[j]? = some x->us[j]? = some v->sr x=true->γ ((i+j)*64)=v)->
  FrzL np σ.bx u/\∀S',bY S w S' w->Froz σ.bx γ S' w u->(∀(j:Nat)(x:Arg)(v:Value)(g:Nat),as[j]? = some x->us[j]? = some v->sr x=true->(∃b,σ.bx ((i+j)*64) = .live b/\Uns b)->blk v=some g->∀o,¬S' g o)->gA S' w as us os
 |[],us,i,os,u,h,hl,_=>by
  simp[outs]at h;obtain⟨rfl,rfl⟩:=h;cases us with
  |nil=>exact⟨.nil,λ_ _ _ _=>trivial⟩
  |cons _ _=>simp at hl
 |x::as,[],i,os,u,h,hl,_=>by simp at hl
 |x::as,v::us,i,os,u,h,hl,hg=>by
  simp only[outs]at h;split at h
  .rename_i pO u' h'
   obtain⟨f1,r1⟩:=De hR (i:=i+1) h' (by simpa using hl) (λj y z hy hz hr=>by
    have:=hg (j+1) y z (by simpa using hy) (by simpa using hz) hr;rwa[show i+1+j=i+(j+1) by omega])
   have bH:∀S',bY S w S' w->Froz σ.bx γ S' w u'->(∀(j:Nat)(x':Arg)(v':Value)(g:Nat),(x::as)[j]? = some x'->(v::us)[j]? = some v'->sr x'=true->(∃b,σ.bx ((i+j)*64) = .live b/\Uns b)->blk v'=some g->∀o,¬S' g o)->gA S' w as us pO:=by intro S' aj cF hn;refine r1 S' aj cF (λj y z g hy hz hr hb PH=>?_);exact hn (j+1) y z g (by simpa using hy) (by simpa using hz) hr (by rwa[show i+(j+1)=i+1+j by omega]) PH
   split at h
   .rename_i ls;have Df:γ (i*64)=v:=hg 0 _ v rfl rfl rfl;split at h
    .rename_i ew hb;split at h
     .rename_i xs u2 hx;simp only[j5,j9]at h;obtain⟨rfl,rfl⟩:=h;obtain⟨g,cur,e,h1,h2,h3,_⟩:=hR.box _ _ hb;obtain⟨f2,r2⟩:=rG (tK (RdR.msk λ_=> .inl rfl)) hx h3;refine⟨FrzL.app.2 ⟨f2,f1⟩,λS' aj cF hn=>?_⟩;obtain⟨g1,g2⟩:=Froz.app.1 cF;have IC:v = .pointer (some ⟨g,0,none⟩):=by rw[<-Df];exact h1
      exact⟨⟨g,cur,e,IC,h2,by rw[x5 h3 (r2 S' w aj g1)];exact r2 S' w aj g1,hn 0 _ v g rfl rfl rfl ⟨_,hb,.inl ⟨ew,rfl⟩⟩ (by rw[IC];rfl)⟩,bH S' aj g2 hn⟩
     .simp at h
    .simp at h
   .rename_i e y;have Df:γ (i*64)=v:=hg 0 _ v rfl rfl rfl;split at h
    .rename_i e' t xs hb;split at h
     .rename_i aT;obtain⟨rfl,PI⟩:=aT;simp only[j5,j9]at h;obtain⟨rfl,rfl⟩:=h;have ar:=(hR.box _ _ hb).1;rw[Df]at ar;refine⟨f1,λS' aj cF hn=>⟨⟨t,xs,rfl,ar.keep aj (λ_ _=>rfl),λg af=>hn 0 _ v g rfl rfl rfl ⟨_,hb,.inr ⟨_,t,xs,rfl⟩⟩ af⟩,PI.symm,bH S' aj cF hn⟩⟩
     .simp at h
    .simp at h
   .rename_i Dg Dh;simp only[j5,j9]at h;obtain⟨rfl,rfl⟩:=h;refine⟨f1,λS' aj cF hn=>?_⟩;have:=bH S' aj cF hn;cases x with
    |ref ls=>exact absurd rfl (Dg ls)
    |rl e y=>exact absurd rfl (Dh e y)
    |_=>exact this
  .simp at h
theorem ID{x:Arg}{u:Value}{g:Nat}(h:jM S w x u)(hr:gy x u=some g):∀o,¬S g o:=by
 cases x with
 |ref ls=>obtain⟨g',cur,e,h1,_,_,h4⟩:=h;have lS:blk u=some g:=hr;rw[h1]at lS;simp[blk]at lS;subst lS;exact h4
 |rl e y=>obtain⟨t,xs,_,_,h4⟩:=h;exact h4 g hr
 |mv e y=>obtain⟨⟨t,xs,_,_,h4⟩,_⟩:=h;exact h4 g hr
 |_=>simp[gy]at hr
theorem Di:∀{as:List Arg}{us:List Value}{g:Nat},g∈cu as us->∃(i:Nat)(x:Arg)(u:Value),as[i]? = some x/\us[i]? = some u/\gy x u=some g
 |[],_,_,h=>by simp[cu]at h
 |_::_,[],_,h=>by simp[cu]at h
 |x::as,u::us,g,h=>by
  simp only[cu,jp,Option.mem_toList]at h;rcases h with h|h
  .exact⟨0,x,u,rfl,rfl,h⟩
  .obtain⟨i,y,v,h1,h2,h3⟩:=Di h;exact⟨i+1,y,v,by simpa using h1,by simpa using h2,h3⟩
theorem Dj(zs:List Value):(if h:zs.toArray.size=1 then zs.toArray[0] else .tuple zs.toArray)=gZ zs:=by
 match zs with
 |[]=>rfl
 |[z]=>rfl
 |z::z'::zs=>simp[gZ]
theorem PJ{P:Program}{E:Env}(hT:bk P E.T)(hR:Rel N np S0 w0 refs σ a w S γ){rs:List ResultVar}{vs ft:List RV}{zs:List Value}
  (gW:All2 (λ(r:ResultVar) z=>((match r with
   |.tmp t=>pure (a.tmps.getD t undef)
   |.cell x t=>do loadVar t (<-asAddr (a.tmps.getD x undef)):Sem Value)).run P w = .ok z w) rs zs) (h:nilV E σ rs vs=some ft) :
  (∀S' w',All2 (lg S' w') vs zs->All2 (lg S' w') ft zs)/\dX ft zs=dX vs zs/\(∀m,ft=[.hd m]->vs=[.hd m])/\∀ns s,ft=[.raw ns s]->vs=[.raw ns s]:=by
 unfold nilV at h;split at h
 .simp only[j5]at h;subst h;exact⟨λ_ _ h=>h,rfl,λ_ h=>h,λ_ _ h=>h⟩
 .split at h
  .rename_i r x;split at h
   .rename_i ls hc;split at h
    .rename_i hn;simp only[j5]at h;subst h;obtain⟨z,hz,eD⟩:=y5 hT hR hc;cases zs with
     |nil=>exact gW.elim
     |cons z' zs=>
      cases zs with
      |cons _ _=>exact gW.2.elim
      |nil=>
       have oa:z'=z:=by have h1:=hz.symm.trans gW.1;simp only[Result.ok.injEq]at h1;exact h1.1.symm
       subst oa;obtain⟨cs,hu,ah,_⟩:=eD;refine⟨λS' w' hv=>⟨⟨hv.1,λni mD i hi z PK=>?_⟩,trivial⟩,rfl,λm hm=>by simp at hm,λns s hm=>by simp at hm⟩;rw[hu]at mD;simp only[Value.agg.injEq]at mD;subst mD;have hl:=ji.1 hn i hi;cases Dk:ls[i]? with
       |none=>rw[Dk]at hl;simp at hl
       |some l=>rw[Dk]at hl;obtain⟨z2,Dl,lb⟩:=ah.get i l Dk;rw[PK]at Dl;simp only[j5]at Dl;subst Dl;cases l<;>first|exact lb|simp at hl
    .simp at h
   .simp at h
  .simp at h
theorem PL{E:Env}{os:List Bool}{rs:List ResultVar}{ts:List Nat}{vs:List RV}{ks:List Nat}{u:Ups}(h:kW E σ os rs ts=some (vs,ks,u))(m:Nat):vs≠[.hd m]:=by
 cases rs with
 |nil=>simp[kW]at h;rw[<-h.1];simp
 |cons r rs=>
  simp only[kW]at h;split at h
  .split at h
   .rename_i v k1 u1 hv;split at h
    .simp only[j5,j9]at h;rw[<-h.1];intro he;have:v = .hd m:=by simpa using (List.cons.inj he).1
     subst this;unfold rvOf at hv;split at hv
     .split at hv
      .split at hv<;>simp at hv
      .simp at hv
     .simp at hv
     .split at hv
      .split at hv
       .split at hv
        .split at hv
         .split at hv<;>simp at hv
         .simp at hv
         .split at hv<;>simp at hv
         .simp at hv
        .split at hv<;>simp at hv
       .simp at hv
      .simp at hv
    .simp at h
   .simp at h
  .simp at h
theorem PM{E:Env}{os:List Bool}{rs:List ResultVar}{ts:List Nat}{vs:List RV}{ks:List Nat}{u:Ups}(h:kW E σ os rs ts=some (vs,ks,u))(ns:List Nat)(s:Snap):vs≠[.raw ns s]:=by
 cases rs with
 |nil=>simp[kW]at h;rw[<-h.1];simp
 |cons r rs=>
  simp only[kW]at h;split at h
  .split at h
   .rename_i v k1 u1 hv;split at h
    .simp only[j5,j9]at h;rw[<-h.1];intro he;have:v = .raw ns s:=by simpa using (List.cons.inj he).1
     subst this;unfold rvOf at hv;split at hv
     .split at hv
      .split at hv<;>simp at hv
      .simp at hv
     .simp at hv
     .split at hv
      .split at hv
       .split at hv
        .split at hv
         .split at hv<;>simp at hv
         .simp at hv
         .split at hv<;>simp at hv
         .simp at hv
        .split at hv<;>simp at hv
       .simp at hv
      .simp at hv
    .simp at h
   .simp at h
  .simp at h
theorem PN{P:Program}{E:Env}(hT:bk P E.T){fn:Func}{args:List Arg}{vals:List Value}{σ':St}{a':Go.Act}{w':World}{S':aq}{γ':Nat->Value}(hR:Rel N E.np S w (kQ args vals) σ' a' w' S' γ')
  (ha:All2 (jM S w) args vals)(hS:∀g o,S g o->g<w.heap.size)(e8:¬E.rw=true)(mz:E.hd=true){ret:Ret}(aU:nS E fn args σ'=some ret){R:Type}{k:Ret->Option R}{r:R}(hk:k ret=some r) :
  ∃v,(results fn a'.tmps).run P w' = .ok v w'/\∃ret,k ret=some r/\∃v' S' vs,Ending.returned v = .returned v'/\yt w S args vals ret v' w' S' vs:=by
 have ct:∀(j:Nat)(x:Arg)(v:Value),args[j]? = some x->vals[j]? = some v->sr x=true->γ' ((0+j)*64)=v:=by intro j x v hx hv hr;refine(hR.par ((0+j)*64) v ?_).2.2;simp only[kQ,wP];rw[if_pos (by omega),zi _ (by omega),jt,hx];simp[hr,hv]
 unfold nS at aU;rw[if_neg e8,if_pos mz]at aU;unfold FP at aU;split at aU
 .rename_i e x as r0 oM;split at aU
  .rename_i l os u' hc kH;split at aU
   .rename_i m hm;simp only[j5]at aU;subst aU;obtain⟨z,hz,eD⟩:=y5 (P:=P) hT hR hc;obtain⟨f2,r2⟩:=De hR kH ha.length ct;obtain⟨S2,bc,br,lZ,cd⟩:=jH u' σ' S' hR f2;cases vals with
    |nil=>exact ha.elim
    |cons v0 PO=>
    have h0:γ' 0=v0:=by have:=ct 0 _ v0 rfl rfl rfl;simpa using this
    have fy:∀k,parK E.np k=true->u'.any (λy=>y.1==k)=false:=by intro k hk;rw[ku];intro y hy he;simp only[qw]at he;have:=(f2 y hy).1;rw[he,hk]at this;simp at this
    have kJ:∀k b,u'.any (λy=>y.1==k)=false->σ'.bx k = .live b->Uns b->∀g,blk (γ' k)=some g->∀o,¬S2 g o:=by
     intro k b hk hb hZ g hg o;have cA:(σ'.upd u').bx k = .live b:=(gp _ _ hk).trans hb;have bq:=bc.box k b cA;rcases hZ with⟨ls,rfl⟩|⟨e,t,xs,rfl⟩
     .obtain⟨g',cur,e,af,_,_,_,hS,_⟩:=bq;rw[af]at hg;simp[blk]at hg;subst hg;exact hS rfl o
     .exact(bq.2 g hg).1 rfl o
    have ck:=r2 S2 br lZ (λj x v g hx hv hr Dm hg=>by
     obtain⟨b,hb,hu⟩:=Dm;have hp:parK E.np ((0+j)*64)=true:=by refine(hR.par ((0+j)*64) v ?_).1;simp only[kQ,wP];rw[if_pos (by omega),zi _ (by omega),jt,hx];simp[hr,hv]
     exact kJ ((0+j)*64) b (fy _ hp) hb hu g (by rw[ct j x v hx hv hr];exact hg))
    have bK:One z:=eD.2 (by rintro rfl;simp[hdOf]at hm)
    have ma:∃ad len cap,v0 = .slice ad len cap/\m<=len/\z = .slice ad m cap:=by
     unfold hdOf at hm;split at hm
     .split at hm
      .rename_i e1 t1 yp hb;split at hm
       .simp at hm
       .rename_i bn;simp only[j5]at hm;subst hm;obtain⟨css,ar,_⟩:=eW (by simpa using bn) (hR.box 0 _ hb);have oa:=eD.1.2.2 _ hb;rcases ar.2 with⟨hg,hn⟩|⟨g,cap,cur,hg,_⟩
        .exact⟨none,0,0,by rw[<-h0,hg],by omega,by rw[oa,hg,hn]⟩
        .exact⟨_,_,cap,by rw[<-h0,hg],jr _,by rw[oa,hg]⟩
      .simp at hm
     .split at hm
      .rename_i i e1 t1 yp hb;simp only[j5]at hm;subst hm;obtain⟨_,hi,ad,cap,hg,oa⟩:=eD.1.2.2 _ hb;exact⟨ad,_,cap,by rw[<-h0,hg],hi,oa⟩
      .simp at hm
     .simp at hm
    have ai:(results fn a'.tmps).run P w' = .ok (gZ [z]) w':=by
     have hm:=y4 (P:=P) (w:=w') (rs:=[r0]) (zs:=[z]) (λr=>((match r with
      |.tmp t=>pure (a'.tmps.getD t undef)
      |.cell x t=>do loadVar t (<-asAddr (a'.tmps.getD x undef)):Sem Value))) ⟨hz,trivial⟩
     unfold results;rw[zb,oM];simp only[Sem.run_bind,Sem.run_map]
     erw [hm]
     simp only[Result.andThen_ok,Sem.run_pure];exact kc (Result.ok · w') (Dj [z])
    refine⟨gZ [z],ai,⟨[.hd m],os⟩,hk,gZ [z],S2,[z],rfl,⟨rfl,⟨bK,trivial⟩,λg hg=>by simp[dX,ix,gz]at hg,by simp[dX,ix,gz],ck,λg o hs=>⟨bc.ext g o hs,?_⟩,λg o h=>(bc.new g o h).imp id (λh=>h.imp id And.left),bc.here,bc.below,bc.grow,bc.os,bc.tape,bc.output,λns s he=>by simp at he,?_⟩⟩
    .refine World.cell?_of_block (bc.below g (hS g o hs) (λhm=>?_));obtain⟨i,x,v,hx,hv,hb⟩:=Di hm;obtain⟨v',eI,Dn⟩:=ha.get i x hx;rw[hv]at eI;simp at eI;subst eI;exact ID Dn hb o hs
    .intro m' fo;have:m'=m:=by simpa using fo.symm
     subst this;obtain⟨ad,len,cap,h1,h2,h3⟩:=ma;exact⟨ad,len,cap,by rw[h1];rfl,h2,by rw[h3]⟩
   .simp at aU
  .simp at aU
 .simp at aU
theorem IE{P:Program}{E:Env}(hT:bk P E.T)(hR:Rel N np S0 w0 refs σ a w S γ):∀{rs:List ResultVar}{cs:List Cel},uR E σ rs=some cs->
  ∃zs,All2 (λ(r:ResultVar) z=>((match r with
   |.tmp t=>pure (a.tmps.getD t undef)
   |.cell x t=>do loadVar t (<-asAddr (a.tmps.getD x undef)):Sem Value)).run P w = .ok z w) rs zs/\All2 (aQ S w γ σ.bx) cs zs
 |[],cs,h=>by
  simp only[uR,j5]at h;subst h;exact⟨[],trivial,trivial⟩
 |r::rs,cs,h=>by
  simp only[uR]at h;split at h
  .rename_i c ni hc cB;simp only[j5]at h;subst h;obtain⟨z,h1,h2⟩:=y5 (P:=P) hT hR hc;obtain⟨zs,h3,h4⟩:=IE hT hR cB;exact⟨z::zs,⟨h1,h3⟩,h2,h4⟩
  .simp at h
theorem IF{bx bx':Nat->BS}{ns:List Nat}(hb:∀k∈ns,bx' k=bx k){l:Leaf}{u:Value}(hl:nR ns l=true)(h:aL S w γ bx l u):aL S w γ bx' l u:=by
 cases l with
 |dead=>trivial
 |nil=>exact h
 |d t v=>exact h
 |ol k=>have hk:=hb k (by simpa[nR]using hl);exact⟨by rw[hk];exact h.1,h.2.1,by rw[hk];exact h.2.2⟩
 |bp k c=>have hk:=hb k (by simpa[nR]using hl);exact⟨by rw[hk];exact h.1,h.2.1,by rw[hk];exact h.2.2⟩
 |s1 k=>have hk:=hb k (by simpa[nR]using hl);exact⟨by rw[hk];exact h.1,h.2.1,by rw[hk];exact h.2.2⟩
 |_=>simp[nR]at hl
theorem Dp{bx bx':Nat->BS}{ns:List Nat}(hb:∀k∈ns,bx' k=bx k):∀{ls:List Leaf}{us:List Value},ls.all (nR ns)=true->All2 (aL S w γ bx) ls us->All2 (aL S w γ bx') ls us
 |[],[],_,_=>trivial
 |l::ls,u::us,hl,h=>by
  simp only[qx,jb]at hl;exact⟨IF hb hl.1 h.1,Dp hb hl.2 h.2⟩
 |[],_::_,_,h=>h.elim
 |_::_,[],_,h=>h.elim
theorem PQ{bx bx':Nat->BS}{ns:List Nat}(hb:∀k∈ns,bx' k=bx k){c:Cel}{u:Value}(hl:AS ns c=true)(h:aQ S w γ bx c u):aQ S w γ bx' c u:=by
 cases c with
 |one l=>exact⟨IF hb hl h.1,h.2⟩
 |st ls=>obtain⟨cs,hu,ha,h1⟩:=h;exact⟨cs,hu,Dp hb hl ha,h1⟩
 |av n b xs=>exact h
theorem PR{P:Program}{E:Env}(hT:bk P E.T){fn:Func}{args:List Arg}{vals:List Value}{σ':St}{a':Go.Act}{w':World}{S':aq}{γ':Nat->Value}(hR:Rel N E.np S w (kQ args vals) σ' a' w' S' γ')
  (ha:All2 (jM S w) args vals)(hS:∀g o,S g o->g<w.heap.size)(e8:E.rw=true){ret:Ret}(aU:nS E fn args σ'=some ret){R:Type}{k:Ret->Option R}{r:R}(hk:k ret=some r) :
  ∃v,(results fn a'.tmps).run P w' = .ok v w'/\∃ret,k ret=some r/\∃v' S' vs,Ending.returned v = .returned v'/\yt w S args vals ret v' w' S' vs:=by
 unfold nS at aU;rw[if_pos e8]at aU;unfold FQ at aU;split at aU
 case h_2=>simp at aU
 rename_i cs cB;split at aU
 case isFalse=>simp at aU
 rename_i aT;simp only[jb]at aT;obtain⟨bV,tW,dh,bu⟩:=aT;simp only[j5]at aU;subst aU;obtain⟨zs,gW,eD⟩:=IE hT hR cB
 have ai:(results fn a'.tmps).run P w' = .ok (gZ zs) w':=by
  have hm:=y4 (P:=P) (w:=w') _ gW;unfold results;rw[zb];simp only[Sem.run_bind,Sem.run_map]
  erw [hm]
  simp only[Result.andThen_ok,Sem.run_pure];exact kc (Result.ok · w') (Dj zs)
 have hlen:(cs.map Item.s++E.rn.map λk=>Item.b (σ'.bx k)).length-E.rn.length=cs.length:=by simp
 have hC:rawC E.rn (cs.map Item.s++E.rn.map λk=>Item.b (σ'.bx k))=cs:=by unfold rawC;rw[hlen,zg (by simp),zl];exact List.map_id' _
 have hU:rawU E.rn (cs.map Item.s++E.rn.map λk=>Item.b (σ'.bx k))=E.rn.map λk=>(k,σ'.bx k):=by
  unfold rawU;rw[hlen,List.drop_left' (by simp),zl];generalize E.rn=l;induction l with
  |nil=>rfl
  |cons x l ih=>simp only[qb,List.zip_cons_cons,ih];rfl
 have cP:∀k∈E.rn,(emp.upd (E.rn.map λk=>(k,σ'.bx k))).bx k=σ'.bx k:=λk hk=>
  pM _ emp (by rw[zl];simpa[Function.comp_def]using rH bV) (jy.2 ⟨k,hk,rfl⟩)
 have iZ:∀k b,(emp.upd (E.rn.map λk=>(k,σ'.bx k))).bx k = .live b->k∈E.rn/\σ'.bx k = .live b:=by
  intro k b hb;by_cases hk:k∈E.rn
  .exact⟨hk,(cP k hk).symm.trans hb⟩
  .rw[gp]at hb
   .simp[emp]at hb
   .rw[ku];intro x hx he;obtain⟨y,hy,rfl⟩:=jy.1 hx;simp only[qw]at he;exact hk (he▸hy)
 have Dq:∀k b,σ'.bx k = .live b->k∈E.rn->cJ S' w' γ' (emp.upd (E.rn.map λk=>(k,σ'.bx k))).bx k b:=by
  intro k b hb hk;have h1:=hR.box k b hb;have h2:=(Bool.and_eq_true_iff.1 (ji.1 tW k hk)).2;rw[hb]at h2;cases b with
  |cell ls f=>obtain⟨g,cur,e,q1,q2,q3,q4⟩:=h1;exact⟨g,cur,e,q1,q2,Dp cP h2 q3,q4⟩
  |lst e t xs f=>exact h1
  |arr n t xs=>exact h1
 have mE:All2 (aQ S' w' γ' (emp.upd (E.rn.map λk=>(k,σ'.bx k))).bx) cs zs:=by
  have go:∀(cs:List Cel)(zs:List Value),cs.all (AS E.rn)=true->All2 (aQ S' w' γ' σ'.bx) cs zs->All2 (aQ S' w' γ' (emp.upd (E.rn.map λk=>(k,σ'.bx k))).bx) cs zs:=by
   intro cs;induction cs with
   |nil=>intro zs _ h;cases zs with|nil=>trivial|cons _ _=>exact h.elim
   |cons c cs ih=>
    intro zs dh h;cases zs with
    |nil=>exact h.elim
    |cons z zs=>simp only[qx,jb]at dh;exact⟨PQ cP dh.1 h.1,ih zs dh.2 h.2⟩
  exact go cs zs dh eD
 have jA:cu args vals=[]:=by
  clear ai mE hR;induction args generalizing vals with
  |nil=>cases vals<;>rfl
  |cons x xs ih=>
   cases vals with
   |nil=>rfl
   |cons v vs=>simp only[qx,jb]at bu;have:=ih ha.2 bu.2;cases x<;>simp_all[cu,gy,AU]
 have ck:gA S' w' args vals []:=by
  clear ai mE hR jA;induction args generalizing vals with
  |nil=>cases vals with|nil=>trivial|cons _ _=>exact ha.elim
  |cons x xs ih=>
   cases vals with
   |nil=>exact ha.elim
   |cons v vs=>simp only[qx,jb]at bu;have:=ih ha.2 bu.2;cases x<;>first|exact this|(simp[AU]at bu)
 refine⟨gZ zs,ai,_,hk,gZ zs,S',[gZ zs],rfl,⟨rfl,⟨trivial,trivial⟩,λg hg=>by simp[dX,ix,gz]at hg,by simp[dX,ix,gz],ck,λg o hs=>⟨hR.ext g o hs,?_⟩,λg o h=>(hR.new g o h).imp id (λh=>h.imp id And.left),hR.here,
  hR.below,hR.grow,hR.os,hR.tape,hR.output,λns s he=>?_,λm hm=>by simp at hm⟩⟩
 .refine World.cell?_of_block (hR.below g (hS g o hs) (λhm=>?_));have hm:g∈cu args vals:=hm;rw[jA]at hm;simp at hm
 .simp only[zh,RV.raw.injEq,and_true]at he;obtain⟨rfl,rfl⟩:=he;refine⟨γ',zs,rfl,by rw[hC,hU];exact mE,λk b hb=>?_,λk b g hb hg=>?_,λk k' b b' g aB hb al hg af=>?_⟩
  .rw[hU]at hb ⊢;obtain⟨h1,h2⟩:=iZ k b hb;exact Dq k b h2 h1
  .rw[hU]at hb;obtain⟨h1,h2⟩:=iZ k b hb;rcases hR.own k b g h2 hg with h|h
   .rcases h with h|h
    .exact h
    .have hm:g∈cu args vals:=h.2;rw[jA]at hm;simp at hm
   .have:=(Bool.and_eq_true_iff.1 (ji.1 tW k h1)).1;rw[h.2]at this;simp at this
  .rw[hU]at hb al;exact hR.apart k k' b b' g aB (iZ k b hb).2 (iZ k' b' al).2 hg af
theorem Dr{P:Program}{fn:Func}{n:Nat}{R:Ending->World->Prop}:∀(ds:List Deferred){refs:Refs}{σ:St}{a:Go.Act}{w:World}{S:aq}{γ:Nat->Value},refs.ds=ds->sd w0 refs->Rel N np S0 w0 refs σ a w S γ->
  (∀w2,Rel N np S0 w0 ⟨refs.blks,refs.val,[],λ_=>none,λ_=>none,refs.mv⟩ σ { a with defers:=[] } w2 S γ->LeavesIn (FR none) n P fn a.tmps R [] .returning w2)->LeavesInM (FR none) n P fn a.tmps R ds .returning w
 |[],refs,σ,a,w,S,γ,hd,hm,hR,h=>h w (hR.swap rfl rfl hR.size rfl hR.slot (λg o h=>by simp at h) (λi v h=>by simp at h))
 |d::ds,refs,σ,a,w,S,γ,hd,hm,hR,h=>by
  obtain⟨bV,ah⟩:=hm;rw[hd]at bV;obtain⟨D,rfl,h1,h2⟩:=ah d (by rw[hd];simp);refine⟨by simp,.inl ⟨D,_,rfl,run_takeDeferred (hR.kept D _ h2).1,?_⟩⟩;have aJ:=hR.putO (o':= .deferred none) h2 h1 rfl rfl
  have bc:=aJ.swap (a':={ a with defers:=ds }) (refs':=⟨refs.blks,refs.val,ds,λg=>if g=D then none else refs.kw g,refs.fix,refs.mv⟩) rfl rfl hR.size rfl aJ.slot (λg o hg=>aJ.kept g o (by
   simp only at hg ⊢;split at hg
   .simp at hg
   .rename_i e;rw[if_neg e];exact hg)) aJ.fix
  refine Dr (a:={ a with defers:=ds }) (refs:=⟨refs.blks,refs.val,ds,λg=>if g=D then none else refs.kw g,refs.fix,refs.mv⟩) ds rfl ⟨(q8.1 bV).2,λd' eh=>?_⟩ bc (λw2 hw=>h w2 hw);obtain⟨D',rfl,q1,q2⟩:=ah d' (by rw[hd];simp[eh]);refine⟨D',rfl,q1,?_⟩;show (if D'=D then none else refs.kw D')=_;rw[if_neg,q2]
  rintro rfl
  exact(q8.1 bV).1 eh
theorem IG{P:Program}{E:Env}(hT:bk P E.T)(hC:fW P E.C)(hF:CFun E.C)(ea:P.follows .mixedOrders=true){f:Nat}{fn:Func}{c:Code}(hf:P.funcs[f]? = some fn)(hb:fn.body=some c)(hN:fn.ntmps=E.N.n)(gC:E.N.pin=λ_=>false)(eM:∀f t,E.bw f=some t->BwK P f t)(ss:E.np<=E.N.n)
  (bn : (fn.name == "runtime.NumGoroutine") = false) (hL : ∀ x ∈ dt 0 c, wi E x.1 x.2 ∧ MrOK E x.1 x.2) : FnOK P f (fun args _ k => nT E fn args k) := by
 intro args R k r h;refine⟨⟨fn,hf,by rw[hb];rfl,bn⟩,?_⟩;intro w S vals ha bV hS;by_cases hlen:args.length=E.np
 case neg=>simp[nT,hlen]at h
 case pos=>
 simp only[nT,hb,hlen,if_true]at h;have pG:vals.length=E.np:=by rw[<-ha.length,hlen]
 obtain⟨PS,rv⟩:=PE (N:=E.N) ha bV hS hlen ss;refine Oy (n:=0) (ro:=none) (callsIn_of_wp_marks hf hb trivial ?_);rw[hN];refine wpIn_mono (PD ea c (ro:=none) hT hC hF eM (.inr ⟨rfl,gC⟩) 0 0 ⟨List.nodup_nil,λd hd=>by simp[kQ]at hd⟩ hL PS rv h) ?_
 rintro e a0 w1 ⟨refs',ex,σ',S',γ',hle,_,rfl,aJ,eZ,hk⟩
 have eL:∀(hk:(match nS E fn args σ' with|some r=>k r|none=>none)=some r)(w':World),Rel E.N E.np S w ⟨refs'.blks,refs'.val,[],λ_=>none,λ_=>none,refs'.mv⟩ σ' { a0 with defers:=[] } w' S' γ'->∃v,(results fn a0.tmps).run P w' = .ok v w'/\
   ∃ret,k ret=some r/\∃v' S' vs,Ending.returned v = .returned v'/\yt w S args vals ret v' w' S' vs:=by
  intro hk w' hR;have hR:Rel E.N E.np S w (kQ args vals) σ' { a0 with defers:=[] } w' S' γ':=hR.swap hle.blks.symm hle.val.symm hR.size rfl hR.slot (λg o h=>by simp[kQ]at h) (λi v h=>by simp[kQ]at h) hle.mv.symm;generalize PT:({ a0 with defers:=[] }:Go.Act)=a' at hR;have yF:a0.tmps=a'.tmps:=by rw[<-PT]
  rw[yF];cases aU:nS E fn args σ' with
  |none=>simp[aU]at hk
  |some ret=>
  simp only[aU]at hk;by_cases e8:E.rw=true
  .exact PR hT hR ha hS e8 aU hk
  by_cases mz:E.hd=true
  .exact PN hT hR ha hS e8 mz aU hk
  have su:∃vs ks u os u',kW E σ' E.ro fn.results.toList fn.resultTypes.toList=some (vs,ks,u)/\outs E.np σ' 0 args=some (os,u')/\
    jE ks=true/\(u++u').all (λe=> !ks.contains e.1)=true/\∃ft,nilV E σ' fn.results.toList vs=some ft/\ret=⟨ft,os⟩:=by
   unfold nS at aU;rw[if_neg e8,if_neg mz]at aU;split at aU
   .rename_i vs ks u os u' eP kH;split at aU
    .rename_i aT;split at aU
     .rename_i ft sv;simp only[j5]at aU;simp only[jb]at aT;exact⟨vs,ks,u,os,u',eP,kH,aT.1,aT.2,ft,sv,aU.symm⟩
     .simp at aU
    .simp at aU
   .simp at aU
  obtain⟨vs,ks,u,os,u',eP,kH,lP,rM,ft,sv,rfl⟩:=su;obtain⟨zs,gW,f1,p1,n1,r1⟩:=IB hT hR eP;have dz:(∀S' w',All2 (lg S' w') vs zs->All2 (lg S' w') ft zs)/\dX ft zs=dX vs zs/\(∀m,ft=[.hd m]->vs=[.hd m])/\∀ns s,ft=[.raw ns s]->vs=[.raw ns s]:=PJ hT hR gW sv;have ct:∀(j:Nat)(x:Arg)(v:Value),args[j]? = some x->vals[j]? = some v->sr x=true->γ' ((0+j)*64)=v:=by intro j x v hx hv hr;refine(hR.par ((0+j)*64) v ?_).2.2;simp only[kQ,wP];rw[if_pos (by omega),zi _ (by omega),jt,hx];simp[hr,hv]
  obtain⟨f2,r2⟩:=De hR kH ha.length ct;obtain⟨S2,bc,br,lZ,cd⟩:=jH (u++u') σ' S' hR (FrzL.app.2 ⟨f1,f2⟩);obtain⟨Ds,Dt⟩:=Froz.app.1 lZ
  have kJ:∀k b,(u++u').any (λy=>y.1==k)=false->σ'.bx k = .live b->Uns b->∀g,blk (γ' k)=some g->∀o,¬S2 g o:=by
   intro k b hk hb hZ g hg o;have cA:(σ'.upd (u++u')).bx k = .live b:=(gp _ _ hk).trans hb;have bq:=bc.box k b cA;rcases hZ with⟨ls,rfl⟩|⟨e,t,xs,rfl⟩
   .obtain⟨g',cur,e,af,_,_,_,hS,_⟩:=bq;rw[af]at hg;simp[blk]at hg;subst hg;exact hS rfl o
   .exact(bq.2 g hg).1 rfl o
  have oO:∀k∈ks,(u++u').any (λy=>y.1==k)=false:=by intro k hk;rw[ku];intro y hy he;have:=ji.1 rM y hy;simp only[qw]at he;rw[he]at this;simp[hk]at this
  have fy:∀k,parK E.np k=true->(u++u').any (λy=>y.1==k)=false:=by intro k hk;rw[ku];intro y hy he;simp only[qw]at he;have:=(FrzL.app.2 ⟨f1,f2⟩ y hy).1;rw[he,hk]at this;simp at this
  have wS:=r1 S2 br Ds (λk hk g hg=>by
   obtain⟨⟨b,hb,hu⟩,_⟩:=p1 k hk;exact kJ k b (oO k hk) hb hu g hg)
  have ck:=r2 S2 br Dt (λj x v g hx hv hr Dm hg=>by
   obtain⟨b,hb,hu⟩:=Dm;have hj:j<args.length:=(jk.1 hx).1;exact kJ ((0+j)*64) b (fy _ (by simp[parK];omega)) hb hu g (by rw[ct j x v hx hv hr];exact hg))
  have ai:(results fn a'.tmps).run P w' = .ok (gZ zs) w':=by
   have hm:=y4 (P:=P) (w:=w') _ gW;unfold results;rw[zb];simp only[Sem.run_bind,Sem.run_map]
   erw [hm]
   simp only[Result.andThen_ok,Sem.run_pure];exact kc (Result.ok · w') (Dj zs)
  have PU:∀m,ft=[.hd m]->∃ad len cap,yr args vals=some (.slice ad len cap)/\m<=len/\zs=[.slice ad m cap]:=λm hm=>by
   exact absurd (dz.2.2.1 m hm) (PL eP m)
  have PV:∀ns s,ft=[.raw ns s]->BG w.heap.size S2 w' ns s (gZ zs):=λns s hm=>absurd (dz.2.2.2 ns s hm) (PM eP ns s);refine⟨gZ zs,ai,⟨ft,os⟩,hk,gZ zs,S2,zs,rfl,⟨rfl,dz.1 _ _ wS,λg hg=>?_,?_,ck,λg o hs=>⟨bc.ext g o hs,?_⟩,λg o h=>(bc.new g o h).imp id (λh=>h.imp id And.left),bc.here,bc.below,bc.grow,bc.os,bc.tape,bc.output,PV,PU⟩⟩
  .rw[dz.2.1,n1]at hg;obtain⟨k,aR,PW⟩:=z7.1 hg;obtain⟨⟨b,hb,_⟩,hp⟩:=p1 k aR;rcases hR.own k b g hb PW with h|h
   .exact h.imp id And.left
   .rw[hp]at h;simp at h
  .rw[dz.2.1,n1];exact BI hR (rH lP) (λk aR=>by obtain⟨⟨b,hb,_⟩,_⟩:=p1 k aR;exact⟨b,hb⟩)
  .refine World.cell?_of_block (bc.below g (hS g o hs) (λhm=>?_));obtain⟨i,x,v,hx,hv,hb⟩:=Di hm;obtain⟨v',eI,Dn⟩:=ha.get i x hx;rw[hv]at eI;simp at eI;subst eI;exact ID Dn hb o hs
 cases ex with
 |exit i=>simp at hk
 |normal=>exact Dr a0.defers aJ.defers.symm hle.marks aJ (λw2 hw=>eL hk w2 hw)
 |ret=>exact Dr a0.defers aJ.defers.symm hle.marks aJ (λw2 hw=>eL hk w2 hw)
end
section
variable{E:Env}
def LFun(L:Nat->Snap->(R:Type)->(Ex->Snap->Option R)->Option R):Prop:=
 ∀b s,∃o:Option (Ex×Snap),∀(R:Type)(k:Ex->Snap->Option R),L b s R k=o.bind λx=>k x.1 x.2
def MFun(M:Nat->Snap->(R:Type)->(Snap->Option R)->Option R):Prop:=∀b s,∃o:Option Snap,∀(R:Type)(k:Snap->Option R),M b s R k=o.bind k
def Det{α:Type}(f:(R:Type)->(α->Option R)->Option R):Prop:=∃o:Option α,∀(R:Type)(k:α->Option R),f R k=o.bind k
theorem Det.val{α:Type}(x:α):Det (λ_ k=>k x):=⟨some x,λ_ _=>rfl⟩
theorem Det.no{α:Type}:Det (λR (_:α->Option R)=>none):=⟨none,λ_ _=>rfl⟩
theorem Det.cond{α:Type}{f g:(R:Type)->(α->Option R)->Option R}(b:Bool)(h:Det f)(h':Det g):Det (λR k=>cond b (f R k) (g R k)):=by
 cases b with
 |true=>exact h
 |false=>exact h'
theorem Det.bind{α β:Type}{f:(R:Type)->(α->Option R)->Option R}{g:α->(R:Type)->(β->Option R)->Option R}(h:Det f)(h':∀a,Det (g a)):Det (λR k=>f R λa=>g a R k):=by
 obtain⟨o,ho⟩:=h;cases o with
 |none=>exact⟨none,λR k=>ho R _⟩
 |some a=>obtain⟨o',r7⟩:=h' a;exact⟨o',λR k=>(ho R _).trans (r7 R k)⟩
theorem Det.congr{α:Type}{f g:(R:Type)->(α->Option R)->Option R}(h:Det f)(e:∀R k,g R k=f R k):Det g:=by
 obtain⟨o,ho⟩:=h;exact⟨o,λR k=>(e R k).trans (ho R k)⟩
theorem y7(hF:CFun E.C)(hz:E.nz=false)(p:Bool)(σ:St)(act:List (Nat×Bool))(o:Oper):Det (λR (k:St->Option R)=>run1 E p σ act o k):=by
 unfold run1;simp only[hz,j7];split
 .exact .no
 .exact .cond _ (.val _) .no
 .rename_i f args mk _;refine Det.bind (f:=λR k=>E.C f args R k) (hF f args) λret=>?_;split
  .exact .val _
  .exact .no
theorem IH:∀(l:List (Nat×Bool))(σ:St),Det (λR (k:St×Bool->Option R)=>pb l σ λa b=>k (a,b))
 |[],σ=> .val _
 |(s,w)::r,σ=>by
  simp only[pb]
  refine(Det.bind (IH r σ) (g:=λx R k=>match x.2 with
   |true=>match AH r x.1 s with
    |some v=>cond v (k (x.1.setS s (.one (.one (.d .bool true))),w)) (k (x.1.setS s (.one (.one (.d .bool false))), !w))
    |none=>none
   |false=>k (x.1,false)) λx=>?_).congr λR k=>rfl
  obtain⟨σ1,a⟩:=x;cases a with
  |true=>
   dsimp only
   split
   .exact .cond _ (.val _) (.val _)
   .exact .no
  |false=>exact .val _
theorem PX(hF:CFun E.C)(hz:E.nz=false)(ops:Array Oper)(σ:St)(o:Oper):Det (λR (k:St->Option R)=>uG E ops σ o k):=by
 unfold uG;split
 .split
  .exact y7 hF hz _ _ _ _
  .exact .no
 .rename_i g _
  have lF:Det (λR (k:St->Option R)=>pb (σ.chain 40 g) σ λσ' a=>match a with
    |true=>run1 E true σ' (σ.chain 40 g) o k
    |false=>k (σ'.put o.dst (.one (.one .dead)))):=by
   refine(Det.bind (IH (σ.chain 40 g) σ) (g:=λx R k=>match x.2 with
    |true=>run1 E true x.1 (σ.chain 40 g) o k
    |false=>k (x.1.put o.dst (.one (.one .dead)))) λx=>?_).congr λR k=>rfl
   obtain⟨σ1,a⟩:=x;cases a with
   |true=>exact y7 hF hz _ _ _ _
   |false=>exact .val _
  dsimp only
  split
  .split
   .exact .cond _ (.val _) .no
   .exact lF
  .exact lF
theorem y8(hF:CFun E.C)(hz:E.nz=false):∀(l:List Oper)(σ:St),Det (λR (k:St->Option R)=>mW E l σ k)
 |[],σ=> .val _
 |o::os,σ=>by
  simp only[mW];split
  .exact Det.bind (y7 hF hz false σ [] o) λσ'=>y8 hF hz os σ'
  .exact .no
theorem II(hF:CFun E.C)(hz:E.nz=false)(ops:Array Oper):∀(l:List Oper)(σ:St),Det (λR (k:St->Option R)=>sV E ops l σ k)
 |[],σ=> .val _
 |o::os,σ=>by
  simp only[sV];split
  .exact Det.bind (PX hF hz ops σ o) λσ'=>II hF hz ops os σ'
  .exact .no
theorem PY(hF:CFun E.C)(hz:E.nz=false)(ops:Array Oper)(σ:St):Det (λR (k:St->Option R)=>uH E ops σ k):=by
 unfold uH;split
 .exact y8 hF hz _ _
 .exact II hF hz _ _ _
theorem IJ(hF:CFun E.C)(hz:E.nz=false)(σ:St)(o:Oper):Det (λR (k:St->Option R)=>runK E σ o k):=by
 unfold runK;split
 .rename_i c σ' _;exact .cond c (.val σ') .no
 .exact y7 hF hz false σ [] o
theorem Du(hF:CFun E.C)(hz:E.nz=false):∀(l:List Oper)(σ:St),Det (λR (k:St->Option R)=>nL E l σ k)
 |[],σ=> .val σ
 |[o],σ=>by
  simp only[nL];split
  .exact IJ hF hz σ o
  .exact .no
 |o::o2::os,σ=>by
  simp only[nL];split
  .split
   .split
    .exact .cond _ (Du hF hz os _) .no
    .exact .no
   .exact Det.bind (IJ hF hz σ o) λσ'=>Du hF hz (o2::os) σ'
  .exact .no
theorem P0(hF:CFun E.C)(hz:E.nz=false)(ops:Array Oper)(σ:St):Det (λR (k:St->Option R)=>uI E ops σ k):=by
 unfold uI;split
 .exact Du hF hz _ _
 .exact .no
theorem Dv(hF:CFun E.C)(hz:E.nz=false)(M Ai:List Nat)(σ:St)(o:Oper):Det (λR (k:St->Option R)=>runD E M Ai σ o k):=by
 unfold runD;split
 .exact .no
 .split
  .exact .cond _ (.val _) .no
  .exact .no
 .rename_i f args mk _;refine Det.bind (f:=λR k=>E.C f args R k) (hF f args) λret=>?_;split
  .split
   .exact .val _
   .exact .no
  .exact .no
theorem P1(hF:CFun E.C)(hz:E.nz=false)(ops:Array Oper)(M Ai:List Nat)(σ:St)(o:Oper):Det (λR (k:St->Option R)=>uL E ops M Ai σ o k):=by
 unfold uL;split
 .exact Dv hF hz _ _ _ _
 .split
  .split
   .exact .cond _ (.cond _ (Dv hF hz _ _ _ _) (.val _)) (.cond _ (.val _) (Dv hF hz _ _ _ _))
   .exact .val _
   .exact .no
  .exact .no
theorem IK(hF:CFun E.C)(hz:E.nz=false)(ops:Array Oper)(cl:List Nat)(A:List (List Nat)):∀(l:List Oper)(i:Nat)(σ:St),Det (λR (k:St->Option R)=>sW E ops cl A l i σ k)
 |[],_,σ=> .val _
 |o::os,i,σ=>by
  simp only[sW];split
  .exact Det.bind (P1 hF hz ops _ _ σ o) λσ'=>IK hF hz ops cl A os (i+1) σ'
  .exact .no
theorem P2(hF:CFun E.C)(hz:E.nz=false)(ops:Array Oper)(A:List (List Nat))(σ:St):Det (λR (k:St->Option R)=>uM E ops A σ k):=by
 unfold uM;split
 .exact IK hF hz _ _ _ _ _ _
 .exact .no
theorem Dw(np:Nat):∀(gs:List Gh)(σ:St),Det (λR (k:St->Option R)=>rb np gs σ k)
 |[],σ=> .val _
 |g::gs,σ=>by
  simp only[rb];split
  .exact .cond _ (Dw np gs _) .no
  .exact .no
theorem IL{f:(R:Type)->St->(Ex->St->Option R)->Option R}(hf:∀σ,Det (λR (k:Ex×St->Option R)=>f R σ λe σ'=>k (e,σ'))):∀(n:Nat)(σ:St),
  Det (λR (k:Ex×St->Option R)=>ph (f R) n σ λe σ'=>k (e,σ'))
 |0,σ=> .no
 |n+1,σ=>by
  refine(Det.bind (hf σ) (g:=λz R k=>match z.1 with
   |.normal=>ph (f R) n z.2 λe σ'=>k (e,σ')
   |e=>k (e,z.2)) λz=>?_).congr λR k=>by
    simp only[ph];congr 1;try (funext e σ';cases e<;>rfl)
  obtain⟨e,σ'⟩:=z;cases e with
  |normal=>exact IL hf n σ'
  |exit i=>exact .val _
  |ret=>exact .val _
theorem P3(hF:CFun E.C)(hz:E.nz=false)(hM:MFun E.M)(x y:Code)(σ:St):Det (λR (k:Ex×St->Option R)=>uP E x y σ λe σ'=>k (e,σ')):=by
 unfold uP;split
 .rename_i b _;split
  .split
   .refine .cond _ (Det.bind (y8 hF hz _ σ) λσ1=>?_) .no;unfold mrGo;split
    .refine .cond _ ?_ .no;split
     .rename_i s _;obtain⟨o,ho⟩:=hM b s;exact Det.bind (f:=λR k=>E.M b s R k) ⟨o,λR k=>ho R _⟩ (g:=λs' R k=>k (Ex.normal,bj E.np (E.keep b) s')) λz=> .val (Ex.normal,bj E.np (E.keep b) z)
     .exact .no
    .exact .no
   .exact .no
  .exact .no
 .exact .no
theorem wT(hF:CFun E.C)(hz:E.nz=false)(hL:LFun E.L/\MFun E.M):∀(c:Code)(b:Nat)(σ:St),Det (λR (k:Ex×St->Option R)=>dg E b c σ λe σ'=>k (e,σ')):=by
 intro c;induction c with
 |skip=>intro b σ;exact .val _
 |region id ops draw=>
  intro b σ;cases draw with
  |true=>exact Det.bind (Dw E.np (E.pre id) σ) λσ1=>Det.bind (P2 hF hz ops (E.dw id) σ1) λσ'=> .val (Ex.normal,σ')
  |false=>exact Det.bind (Dw E.np (E.pre id) σ) λσ1=> .cond _ (Det.bind (P0 hF hz ops σ1) λσ'=> .val (Ex.normal,σ')) (Det.bind (PY hF hz ops σ1) λσ'=> .val (Ex.normal,σ'))
 |seq x y mm mn=>
  intro b σ;simp only[dg];refine .cond _ (P3 hF hz hL.2 x y σ) ?_
  refine(Det.bind (mm b σ) (g:=λz R k=>match z.1 with
   |.normal=>dg E b y z.2 λe σ'=>k (e,σ')
   |e=>k (e,z.2)) λz=>?_).congr λR k=>by
    congr 1
    try (funext e σ';cases e<;>rfl)
  obtain⟨e,σ'⟩:=z;cases e with
  |normal=>exact mn b σ'
  |exit i=>exact .val _
  |ret=>exact .val _
 |cond c x y mm mn=>
  intro b σ;simp only[dg];split
  .exact .cond _ (mm b σ) (mn b σ)
  .exact .no
 |block id c ih=>
  intro b σ
  refine(Det.bind (ih id σ) (g:=λz R k=>match z.1 with
   |.exit i=>if i=id then k (.normal,z.2) else k (.exit i,z.2)
   |e=>k (e,z.2)) λz=>?_).congr λR k=>by
    simp only[dg];congr 1;try (funext e σ';cases e<;>rfl)
  obtain⟨e,σ'⟩:=z;cases e with
  |normal=>exact .val _
  |exit i=>
   dsimp only
   split
   .exact .val _
   .exact .val _
  |ret=>exact .val _
 |loop c ih=>
  intro b σ;simp only[dg];refine .cond _ .no (.cond _ ?_ ?_)
  .exact IL (f:=λR σ k=>dg E b c σ k) (λσ=>ih b σ) 2 σ
  split
  .rename_i s _;obtain⟨o,ho⟩:=hL.1 b s;exact Det.bind (f:=λR k=>E.L b s R λe s'=>k (e,s')) ⟨o,λR k=>ho R _⟩ (g:=λz R k=>k (z.1,bj E.np (E.keepX b z.1) z.2)) λz=> .val _
  .exact .no
 |rangeFunc g ps x y _ _=>
  intro b σ;simp only[dg];split
  .split
   .rename_i kd _;split
    .rename_i s _;obtain⟨o,ho⟩:=hL.1 b (.s (.one (.d (.int .i64) (xV kd (List.length _))))::s);exact Det.bind (f:=λR k=>E.L b _ R λe s'=>k (e,s')) ⟨o,λR k=>ho R _⟩ (g:=λz R k=>k (z.1,bj E.np (E.keepX b z.1) z.2)) λz=> .val _
    .exact .no
   .exact .no
  .exact .no
 |scope c ih=>intro b σ;exact ih b σ
 |label l=>intro b σ;exact .val _
 |exit i=>intro b σ;exact .val _
 |ret=>intro b σ;exact .val _
 |_=>intro b σ;exact .no
theorem P4(hF:CFun E.C)(hz:E.nz=false)(hL:LFun E.L/\MFun E.M)(b:Nat)(g:Operand)(ps:Array Nat)(x y:Code)(s:Snap) :
  Det (λR (k:Option (List Item)×Ex×St->Option R)=>uQ E b g ps x y s λp e σ'=>k (p,e,σ')):=by
 unfold uQ;split
 .rename_i n s0;split
  .split
   .rename_i kd _;refine .cond _ (.val _) (.cond _ ?_ .no)
    refine(Det.bind (wT (E:=E.rnd ps x y) hF hz hL x 0 _) (g:=λz R k=>match z.1 with
     |.normal=>dg (E.rnd ps x y) 0 y z.2 λe σ'=>k (some [.s (.one (.d (.int .i64) (xW kd n)))],e,σ')
     |_=>none) λz=>?_).congr λR k=>by
      congr 1
      try (funext e σ';cases e<;>rfl)
    obtain⟨e,σ'⟩:=z;cases e with
    |normal=>exact Det.bind (wT (E:=E.rnd ps x y) hF hz hL y 0 σ') λz=> .val (_,z)
    |exit i=>exact .no
    |ret=>exact .no
   .exact .no
  .exact .no
 .exact .no
theorem P5(hF:CFun E.C)(hz:E.nz=false)(hL:LFun E.L/\MFun E.M)(b:Nat)(p:MrP)(m:Nat)(s:Snap)(v:Ty)(q:Int)(z:v.den):Det (λR (k:Snap->Option R)=>tb E b p m s v q z k):=by
 unfold tb;refine Det.bind (y8 (E:=E.mrE p.it m) hF hz _ _) λσ1=>?_
 refine(Det.bind (wT (E:=E.mrE p.it m) hF hz hL p.rest p.b6 σ1) (g:=λz R k=>cond (mrNx p.b6 z.1) (match eV E.np (E.keep b) z.2 with
  |some s'=>k s'
  |none=>none) none) λz=> .cond _ ?_ .no).congr λR k=>rfl
 split
 .exact .val _
 .exact .no
theorem P6(hF:CFun E.C)(hz:E.nz=false)(hL:LFun E.L/\MFun E.M)(fn:Func)(args:List Arg):Det (λR (k:Ret->Option R)=>nT E fn args k):=by
 unfold nT;split
 .split
  .rename_i c _
   refine(Det.bind (wT hF hz hL c 0 (St.init args)) (g:=λz R k=>match z.1 with
    |.exit _=>none
    |_=>match nS E fn args z.2 with
     |some r=>k r
     |none=>none) λz=>?_).congr λR k=>rfl
   obtain⟨e,σ'⟩:=z;cases e<;>dsimp only<;>(try split)<;>first|exact .no|exact .val _
  .exact .no
 .exact .no
end
end Go.Lft
