/- Fa: what Z2 do is what the mZ says. -/
import Derived.Test.YtaieocafhcjelaaGreatCLB
import Derived.Laws.Cover3
import Derived.RangeFuncNested
import Derived.OrdersIn
set_option linter.unusedVariables false
namespace Go.Lft
section
variable{N:NT}{np:Nat}{S0:aP}{w0:World}{refs:Refs}{σ:St}{a:Go.Act}{w:World}{S:aP}{γ:Nat->Value}
def dS(σ:St):Prop:=∀i,(σ.sl i).bare=true
theorem B3{d:Nat}(hd:d<a.tmps.size)(v:Value)(j:Nat):tm (a.put (some d) v) j=if j=d then v else tm a j:=by
 unfold tm Go.Act.put;by_cases h:j=d
 .subst h;simp[hd]
 .have h':d≠j:=λe=>h e.symm;simp[h,Array.getElem?_setIfInBounds_ne h']
theorem Qy{bx:Nat->BS}{d:Nat}(hd:d<a.tmps.size){v u:Value}{x:Slot}(h:gG S w γ bx (tm a) x u):gG S w γ bx (tm (a.put (some d) v)) (kill d x) u:=by
 cases x with
 |one c=>exact h
 |tup l=>exact h
 |und=>exact h
 |cnd s b c=>
  simp only[kill];split
  .exact⟨trivial,λh=>absurd rfl h⟩
  .rename_i bq;simp only[gG,B3 hd,if_neg bq];exact h
theorem It(dst:Option Nat)(v:Value):(a.put dst v).tmps.size=a.tmps.size:=by cases dst<;>simp[Go.Act.put]
theorem Iu(dst:Option Nat)(v:Value):(a.put dst v).defers=a.defers:=by cases dst<;>rfl
theorem B4(hR:Rel N np S0 w0 refs σ a w S γ){dst:Option Nat}(hd:∀d,dst=some d->N.ok d){s:Slot}{v:Value}(hs:gG S w γ σ.bx (tm a) s v) :
  Rel N np S0 w0 refs (σ.put dst s) (a.put dst v) w S γ:=by
 cases dst with
 |none=>exact hR
 |some d=>
  have gg:d<a.tmps.size:=by rw[hR.size];exact(hd d rfl).1
  refine⟨(It _ _).trans hR.size,(Iu _ _).trans hR.defers,λi=>?_,hR.box,hR.own,hR.apart,hR.ext,hR.new,hR.here,hR.below,hR.grow,hR.os,hR.tape,hR.output,hR.par,hR.kept,λi u h=>?_⟩
  .show gG S w γ σ.bx (tm (a.put (some d) v)) (kill d (if i=d then s else σ.sl i)) (tm (a.put (some d) v) i);rw[B3 gg];split
   .exact Qy gg hs
   .exact Qy gg (hR.slot i)
  .obtain⟨h1,h2⟩:=hR.fix i u h;refine⟨h1,?_⟩;show tm (a.put (some d) v) i=u;rw[B3 gg,if_neg]
   .exact h2
   .rintro rfl
    have:=(hd i rfl).2;rw[h1]at this;simp at this
theorem Qz{d:Nat}{x:Slot}(h:x.bare=true):kill d x=x:=by cases x<;>first|rfl|simp[Slot.bare]at h
theorem QA(hR:Rel N np S0 w0 refs σ a w S γ)(hc:dS σ){dst:Option Nat}(hd:∀d,dst=some d->N.ok d){s:Slot}{v:Value}(hs:gG S w γ σ.bx (tm a) s v)(hb:s.bare=true) :
  Rel N np S0 w0 refs (σ.setD dst s) (a.put dst v) w S γ/\dS (σ.setD dst s):=by
 have he:σ.setD dst s=σ.put dst s:=by
  cases dst with
  |none=>rfl
  |some d=>
   simp only[St.setD,St.setS,St.put];congr 1;funext j;split
   .exact(Qz hb).symm
   .exact(Qz (hc j)).symm
 refine⟨he▸B4 hR hd hs,λi=>?_⟩;cases dst with
 |none=>exact hc i
 |some d=>
  simp only[St.setD,St.setS];split
  .exact hb
  .exact hc i
theorem Iv{o:Oper}(h:qY N o=true):∀d,o.dst=some d->N.ok d:=by
 intro d hd;simpa[qY,hd,NT.ok]using h
theorem QB{u:Ups}(h:dS σ):dS (σ.upd u):=by
 intro i;rw[yz];exact h i
theorem Z3{P:Program}{E:Env}(hT:cH P E.T)(hR:Rel E.N E.np S0 w0 refs σ a w S γ){o:Oper}{e:Bool}(h:nilT E σ o=some e) :
  ∃v b,(execOp a.eval o).run P w = .ok (.value v) w/\v = .bool b/\(b=true->e=true):=by
 unfold nilT at h;split at h
 .rename_i t x y ty bT;split at h
  .rename_i el xs ti hx hy Bg;split at h
   .rename_i hl;simp only[j4]at h;subst h;have ex:=oZ hR x;have ey:=oZ hR y;rw[hx]at ex;rw[hy]at ey;obtain⟨ad,cap,dL,hlen,_,B5,_⟩:=ex.1;have Z5:a.eval x = .slice ad (List.length xs) cap:=by simpa using dL
    have Z6:a.eval y = .slice none 0 0:=ey.1;obtain⟨a',bG⟩:=HN hl;obtain⟨hd,_⟩:=oX hT Bg bG;refine⟨.bool ad.isNone,ad.isNone,?_,rfl,λhb=>?_⟩
    .simp only[execOp,bT,Z5,Z6,eqGuard,binOp];simp[run_equal_slice_nil w t ti.elem ad (List.length xs) cap hd]
    .have:ad=none:=by cases ad<;>simp_all
     have:=B5 this;have:List.length xs=0:=by omega
     cases xs with
     |nil=>rfl
     |cons=>simp at this
   .simp at h
  .simp at h
 .simp at h
theorem Fb{P:Program}{E:Env}(hT:cH P E.T)(hC:lI P E.C)(hR:Rel E.N E.np S0 w0 refs σ a w S γ){act:List (Nat×Bool)}(ba:o4 (tm a) act){p:Bool}
  (hc:p=false->dS σ){o:Oper}(hd:qY E.N o=true){R:Type}{k:St->Option R}{r:R}(h:run1 E p σ act o k=some r){next:Go.Act->World->Prop}{Q:Exit->Go.Act->World->Prop}
  (hn:∀σ' a' w' S' γ',Rel E.N E.np S0 w0 refs σ' a' w' S' γ'->(p=false->dS σ')->k σ'=some r->next a' w'):o.wp P a w next Q:=by
 have hd:=Iv hd
 have dy:∀(u:Ups)(s:Slot)(v:Value)(w':World)(S':aP)(γ':Nat->Value),Rel E.N E.np S0 w0 refs (σ.upd u) a w' S' γ'->gG S' w' γ' (σ.upd u).bx (tm a) s v->s.bare=true->
   k (cond p ((σ.upd u).put o.dst s) ((σ.upd u).setD o.dst s))=some r->next (a.put o.dst v) w':=by
  intro u s v w' S' γ' df hs hb hk;cases p with
  |true=>exact hn _ _ _ _ _ (B4 df hd hs) (by simp) hk
  |false=>obtain⟨h1,h2⟩:=QA df (QB (hc rfl)) hd hs hb;exact hn _ _ _ _ _ h1 (λ_=>h2) hk
 unfold run1 at h;split at h
 .rename_i e he
  have he:nilT E σ o=some e:=by
   cases hz:E.nz with
   |true=>rw[hz]at he;exact he
   |false=>rw[hz]at he;simp at he
  obtain⟨v,b,aS,rfl,hb⟩:=Z3 (P:=P) hT hR he;obtain⟨h1,h2⟩:=Yx h;unfold Oper.wp;rw[aS,Oper.upon_value];cases b with
  |true=>exact dy [] (.one (.one (.d .bool true))) (.bool true) w S γ hR ⟨rfl,λ_=>rfl⟩ rfl (h2 (hb rfl))
  |false=>exact dy [] (.one (.one (.d .bool false))) (.bool false) w S γ hR ⟨rfl,λ_=>rfl⟩ rfl h1
 split at h
 .simp at h
 .rename_i iB s u ho;cases iB with
  |false=>simp at h
  |true=>
   obtain⟨⟨v,w',S',γ',aS,df,hs⟩,hb⟩:=Iq hT hR ba (λ_=> .inl rfl) ho;unfold Oper.wp;rcases aS with aS|⟨aS,rfl⟩
   .rw[aS,Oper.upon_value];exact dy u s v w' S' γ' df hs hb h
   .rw[aS,Oper.upon_skip];exact dy u s undef w' S' γ' df hs hb h
 .rename_i f args mk ho;obtain⟨hf,eM⟩:=hC f args R _ r h;obtain⟨vals,aS,mf,hb⟩:=Qx hR ba (λ_=> .inl rfl) ho hf eM;unfold Oper.wp;rw[aS,Oper.upon_enter];refine mf.mono ?_
  rintro e w' ⟨ret,hk,aB⟩
  split at hk
  .rename_i s u bJ;obtain⟨v,S',γ',rfl,df,hs⟩:=aB s u bJ;exact dy u s v w' S' γ' df hs (hb ret s u bJ) hk
  .simp at hk
theorem QC{P:Program}{E:Env}(hT:cH P E.T)(hC:lI P E.C){ops:Array Oper}(dT:bare ops=true){R:Type}{k:St->Option R}{r:R}{Q:Exit->Go.Act->World->Prop}
  (hn:∀σ' a' w' S' γ',Rel E.N E.np S0 w0 refs σ' a' w' S' γ'->dS σ'->k σ'=some r->Q .normal a' w') :
  ∀(n i:Nat)(σ:St)(a:Go.Act)(w:World)(S:aP)(γ:Nat->Value),i+n=ops.size->Rel E.N E.np S0 w0 refs σ a w S γ->dS σ->og E (ops.toList.drop i) σ k=some r->
   wpOps P ops Q (List.range' i n) a w
 |0,i,σ,a,w,S,γ,hi,hR,hc,h=>by
  rw[jf (by simp;omega)]at h;exact hn _ _ _ _ _ hR hc h
 |n+1,i,σ,a,w,S,γ,hi,hR,hc,h=>by
  have aA:i<ops.size:=by omega
  rw[jc (by simpa using aA)]at h;simp only[og]at h;split at h
  .rename_i hd;have ho:ops[i]? = some ops[i]:=js aA;simp only[List.range'_succ,wpOps,ho];have hg:ops[i].guard=none:=by have:=jx.1 dT ops[i] (by simp);simpa using this
   have hw:Region.wanted ops[i] (yielded ops a.tmps)=true:=by simp[Region.wanted,hg]
   simp only[hw,if_true];refine .inl (Fb hT hC hR (act:=[]) (λg hg=>by simp at hg) (p:=false) (λ_=>hc) (by simpa using hd) (by simpa using h) (λσ' a' w' S' γ' df eG hk=>?_));exact QC hT hC dT hn n (i+1) σ' a' w' S' γ' (by omega) df (eG rfl) hk
  .simp at h
theorem Fc{ops:Array Oper}{o:Oper}{g:Nat×Bool}(h:nd ops o=some g):Region.wanted o (yielded ops a.tmps)=true↔tm a g.1 = .bool g.2:=by
 unfold nd at h;split at h
 .simp at h
 .rename_i j wn Iw;split at h
  .rename_i oj iK;split at h
   .rename_i s hs;simp only[j4]at h;subst h;simp only[Region.wanted,Iw,yielded,iK,j3,hs,tm];cases hq:a.tmps[s]? with
    |none=>
     have:a.tmps.getD s undef=undef:=by simp[hq]
     rw[this];simp[undef]
    |some v=>
     have:a.tmps.getD s undef=v:=by simp[hq]
     rw[this];cases v<;>simp
   .simp at h
  .simp at h
theorem Ix(hR:Rel N np S0 w0 refs σ a w S γ):∀(n:Nat)(g:Nat×Bool),tm a g.1 = .bool g.2->o4 (tm a) (σ.chain n g)
 |0,g,h=>by intro x hx;simp only[St.chain,kn]at hx;subst hx;exact h
 |n+1,g,h=>by
  simp only[St.chain];have hs:=hR.slot g.1;split
  .rename_i s b c hc;rw[hc]at hs
   have h2:tm a s = .bool b:=by
    rcases hs with hs|hs
    .exact hs.1
    .have:tm a g.1=undef:=hs.2;rw[h]at this;simp[undef]at this
   intro x hx;rcases jg.1 hx with rfl|hx
   .exact h
   .exact Ix hR n (s,b) h2 x hx
  .intro x hx;simp only[kn]at hx;subst hx;exact h
theorem Z7:∀(n:Nat)(g:Nat×Bool),g∈σ.chain n g
 |0,g=>by simp[St.chain]
 |n+1,g=>by simp only[St.chain];split<;>simp
theorem QD(hR:Rel N np S0 w0 refs σ a w S γ):∀{l:List (Nat×Bool)}{b:Bool},actB σ l=some b->o4 (tm a) l->b=true
 |[],b,h,_=>by simp[actB]at h;exact h
 |(s,wn)::r,b,h,ha=>by
  have ht:tm a s = .bool wn:=ha (s,wn) (by simp);simp only[actB]at h;split at h
  .rename_i v hv
   have Z8:v=wn:=by
    have hs:=hR.slot s;unfold gval at hv;split at hv
    .rename_i v' ee;simp only[j4]at hv;subst hv;rw[ee]at hs;have:tm a s = .bool v':=rb hs;rw[ht]at this;simpa using this.symm
    .rename_i s' b' v' ee;simp only[j4]at hv;subst hv;rw[ee]at hs;rcases hs with hs|hs
     .have:tm a s = .bool v':=rb hs.2;rw[ht]at this;simpa using this.symm
     .have:tm a s=undef:=hs.2;rw[ht]at this;simp[undef]at this
    .simp at hv
   subst Z8;split at h
   .simp only[j4]at h;rw[<-h];cases v<;>rfl
   .split at h
    .rename_i b2 eX;simp only[j4]at h;have:=QD hR eX (λg hg=>ha g (by simp[hg]));rw[<-h,this];cases v<;>rfl
    .simp at h
  .simp at h
theorem Iy(hR:Rel N np S0 w0 refs σ a w S γ){s:Nat}{x:Slot}(h:gG S w γ σ.bx (tm a) x (tm a s)):Rel N np S0 w0 refs (σ.setS s x) a w S γ:=by
 refine⟨hR.size,hR.defers,λi=>?_,hR.box,hR.own,hR.apart,hR.ext,hR.new,hR.here,hR.below,hR.grow,hR.os,hR.tape,hR.output,hR.par,hR.kept,hR.fix⟩;simp only[St.setS];split
 .rename_i hi;subst hi;exact h
 .exact hR.slot i
theorem QE{R:Type}:∀(l:List (Nat×Bool)){σ:St}{k:St->Bool->Option R}{r:R},Rel N np S0 w0 refs σ a w S γ->tA l σ k=some r->
  ∃σ' b,Rel N np S0 w0 refs σ' a w S γ/\k σ' b=some r/\(b=true↔o4 (tm a) l)
 |[],σ,k,r,hR,h=>⟨σ,true,hR,h,by simp[o4]⟩
 |(s,wn)::l,σ,k,r,hR,h=>by
  simp only[tA]at h;obtain⟨σ1,b1,bD,dj,dJ⟩:=QE l hR h;cases b1 with
  |false=>
   refine⟨σ1,false,bD,dj,?_⟩;simp only[k9,false_iff]at dJ ⊢
   exactλha=>dJ (λg hg=>ha g (by simp[hg]))
  |true=>
   have ue:=dJ.1 rfl;simp only at dj;split at dj
   .rename_i v hv
    have ht:tm a s = .bool v:=by
     have hs:=bD.slot s;unfold Ht at hv;split at hv
     .rename_i v' ee;simp only[j4]at hv;subst hv;rw[ee]at hs;exact rb hs
     .rename_i s' b' v' ee;split at hv
      .rename_i hm;simp only[j4]at hv;subst hv;rw[ee]at hs;have iL:(s',b')∈l:=by simpa using hm
       have:=ue _ iL;rcases hs with hs|hs
       .exact rb hs.2
       .exact absurd this hs.1
      .simp at hv
     .simp at hv
    have B6:∀b,b=v->Rel N np S0 w0 refs (σ1.setS s (.one (.one (.d .bool b)))) a w S γ:=by
     rintro b rfl
     refine Iy bD ⟨?_,λ_=>?_⟩
     .show Rep S w .bool b [tm a s];rw[ht];rfl
     .rw[ht];rfl
    cases v with
    |true=>
     simp only[j5]at dj;refine⟨_,wn,B6 true rfl,dj,?_⟩;constructor
     .rintro rfl g hg
      rcases jg.1 hg with rfl|hg
      .exact ht
      .exact ue g hg
     .intro ha;have:=ha (s,wn) (by simp);rw[ht]at this;simpa using this.symm
    |false=>
     simp only[j6]at dj;refine⟨_, !wn,B6 false rfl,dj,?_⟩;constructor
     .intro hw g hg;have Iz:wn=false:=by simpa using hw
      subst Iz;rcases jg.1 hg with rfl|hg
      .exact ht
      .exact ue g hg
     .intro ha;have:=ha (s,wn) (by simp);rw[ht]at this;have:false=wn:=by simpa using this
      rw[<-this];rfl
   .simp at dj
theorem Z9{P:Program}{E:Env}(hT:cH P E.T)(hC:lI P E.C)(hR:Rel E.N E.np S0 w0 refs σ a w S γ){ops:Array Oper}{o:Oper}(hd:qY E.N o=true)
  {R:Type}{k:St->Option R}{r:R}(h:AO E ops σ o k=some r){next:Go.Act->World->Prop}{Q:Exit->Go.Act->World->Prop}
  (hn:∀σ' a' w' S' γ',Rel E.N E.np S0 w0 refs σ' a' w' S' γ'->k σ'=some r->next a' w') :
  if Region.wanted o (yielded ops a.tmps) then o.wp P a w next Q\/(o.asks P a w/\LetsOut Q) else next (a.put o.dst undef) w:=by
 have nt:=Iv hd;unfold AO at h;split at h
 .split at h
  .rename_i hg;have hw:Region.wanted o (yielded ops a.tmps)=true:=by simp[Region.wanted,hg]
   simp only[hw,if_true];exact .inl (Fb hT hC hR (act:=[]) (λg hg=>by simp at hg) (p:=true) (by simp) hd h (λσ' a' w' S' γ' df _ hk=>hn σ' a' w' S' γ' df hk))
  .simp at h
 .rename_i g hg;dsimp only at h;have B7:=Fc (a:=a) hg
  have uf:tA (σ.chain 40 g) σ (λσ' a=>match a with
    |true=>run1 E true σ' (σ.chain 40 g) o k
    |false=>k (σ'.put o.dst (.one (.one .dead))))=some r->
    if Region.wanted o (yielded ops a.tmps) then o.wp P a w next Q\/(o.asks P a w/\LetsOut Q) else next (a.put o.dst undef) w:=by
   intro hs;obtain⟨σ',b,df,hk,hb⟩:=QE _ hR hs;cases b with
   |true=>have ba:=hb.1 rfl;have hw:=B7.2 (ba g (Z7 40 g));simp only[hw,if_true];exact .inl (Fb hT hC df ba (p:=true) (by simp) hd hk (λσ' a' w' S' γ' df _ hk=>hn σ' a' w' S' γ' df hk))
   |false=>
    have hw:¬Region.wanted o (yielded ops a.tmps)=true:=λhw=>by
     have:=hb.2 (Ix hR 40 g (B7.1 hw));simp at this
    simp only[hw];exact hn _ _ _ _ _ (B4 df nt (s:= .one (.one .dead)) (v:=undef) ⟨trivial,λh=>absurd rfl h⟩) hk
  split at h
  .rename_i iB c ho;split at h
   .rename_i ab cj;by_cases hw:Region.wanted o (yielded ops a.tmps)=true
    .have ba:=Ix hR 40 g (B7.1 hw);have:=QD hR cj ba;subst this;simp only[hw,if_true];cases iB with
     |false=>simp at h
     |true=>
      simp only[ji,Bool.or_false,j5]at h;obtain⟨⟨v,w',S',γ',aS,df,hs⟩,hb⟩:=Iq hT hR ba (λ_=> .inl rfl) ho;have kR:=B4 df nt (s:= .cnd g.1 g.2 c) (v:=v) (.inl ⟨B7.1 hw,hs⟩);refine .inl ?_;unfold Oper.wp;rcases aS with aS|⟨aS,rfl⟩
      .rw[aS,Oper.upon_value];exact hn _ _ _ _ _ kR h
      .rw[aS,Oper.upon_skip];exact hn _ _ _ _ _ kR h
    .simp only[hw]
     have hk:k (σ.put o.dst (.cnd g.1 g.2 c))=some r:=by
      cases hc:(iB || !ab) with
      |true=>rw[hc]at h;exact h
      |false=>rw[hc]at h;simp at h
     exact hn _ _ _ _ _ (B4 hR nt (s:= .cnd g.1 g.2 c) (v:=undef) (.inr ⟨λhh=>hw (B7.2 hh),rfl⟩)) hk
   .exact uf h
  .exact uf h
theorem jxJ(hR:Rel N np S0 w0 refs σ a w S γ):Rel N np S0 w0 refs σ.clear a w S γ/\dS σ.clear:=by
 refine⟨⟨hR.size,hR.defers,λi=>?_,hR.box,hR.own,hR.apart,hR.ext,hR.new,hR.here,hR.below,hR.grow,hR.os,hR.tape,hR.output,hR.par,hR.kept,hR.fix⟩,λi=>?_⟩
 .have:=hR.slot i;simp only[St.clear];cases hs:σ.sl i with
  |one c=>rw[hs]at this;exact this
  |tup l=>rw[hs]at this;exact this
  |und=>rw[hs]at this;exact this
  |cnd s b c=>exact⟨trivial,λh=>absurd rfl h⟩
 .simp only[St.clear];cases σ.sl i<;>rfl
theorem QF{P:Program}{E:Env}(hT:cH P E.T)(hC:lI P E.C){ops:Array Oper}{R:Type}{k:St->Option R}{r:R}{Q:Exit->Go.Act->World->Prop}
  (hn:∀σ' a' w' S' γ',Rel E.N E.np S0 w0 refs σ' a' w' S' γ'->dS σ'->k σ'=some r->Q .normal a' w') :
  ∀(n i:Nat)(σ:St)(a:Go.Act)(w:World)(S:aP)(γ:Nat->Value),i+n=ops.size->Rel E.N E.np S0 w0 refs σ a w S γ->ym E ops (ops.toList.drop i) σ k=some r->
   wpOps P ops Q (List.range' i n) a w
 |0,i,σ,a,w,S,γ,hi,hR,h=>by
  rw[jf (by simp;omega)]at h;obtain⟨h1,h2⟩:=jxJ hR;exact hn _ _ _ _ _ h1 h2 h
 |n+1,i,σ,a,w,S,γ,hi,hR,h=>by
  have aA:i<ops.size:=by omega
  rw[jc (by simpa using aA)]at h;simp only[ym]at h;split at h
  .rename_i hd;have ho:ops[i]? = some ops[i]:=js aA;simp only[List.range'_succ,wpOps,ho];exact Z9 hT hC hR (by simpa using hd) (by simpa using h) (λσ' a' w' S' γ' df hk=>QF hT hC hn n (i+1) σ' a' w' S' γ' (by omega) df hk)
  .simp at h
theorem QG{P:Program}{E:Env}(hT:cH P E.T)(hC:lI P E.C)(hR:Rel E.N E.np S0 w0 refs σ a w S γ)(hc:dS σ){ops:Array Oper}{R:Type}{k:St->Option R}{r:R}
  {Q:Exit->Go.Act->World->Prop}(hn:∀σ' a' w' S' γ',Rel E.N E.np S0 w0 refs σ' a' w' S' γ'->dS σ'->k σ'=some r->Q .normal a' w')(h:oh E ops σ k=some r) :
  wpOps P ops Q (List.range ops.size) a w:=by
 rw[List.range_eq_range'];unfold oh at h;split at h
 .rename_i hb;exact QC hT hC hb hn ops.size 0 σ a w S γ (by omega) hR hc (by simpa using h)
 .exact QF hT hC hn ops.size 0 σ a w S γ (by omega) hR (by simpa using h)
end
section
variable{N:NT}{np:Nat}{S0:aP}{w0:World}{refs:Refs}{σ:St}{a:Go.Act}{w:World}{S:aP}{γ:Nat->Value}
theorem jA8(hR:Rel N np S0 w0 refs σ a w S γ){k:Nat}{b b':Bx}(hk:σ.bx k = .live b)(ot:iC b b')(di:∀bx',BxLe γ σ.bx γ bx'->eF S w γ bx' k b') :
  Rel N np S0 w0 refs (σ.setB k (.live b')) a w S γ:=by
 have hle:BxLe γ σ.bx γ (σ.setB k (.live b')).bx:=by
  intro k' br;by_cases h:k'=k
  .subst h;rw[gj];exact⟨by simp,rfl,λx hx=>by simp at hx;subst hx;exact⟨b,hk,ot⟩⟩
  .rw[cJ σ _ h];exact⟨br,rfl,λx hx=>⟨x,hx,.refl x⟩⟩
 have bC:∀k' x,(σ.setB k (.live b')).bx k' = .live x->∃x',σ.bx k' = .live x':=by
  intro k' x hx;by_cases h:k'=k
  .subst h;exact⟨b,hk⟩
  .rw[cJ σ _ h]at hx;exact⟨x,hx⟩
 refine Rel.step (bx':=(σ.setB k (.live b')).bx) hR (.refl S w) hle ?_ ?_ ?_ hR.new hR.here hR.below hR.grow hR.os hR.tape hR.output (λg _ _ h=>⟨rfl,λk' b' aW=>by obtain⟨b2,eX⟩:=bC k' b' aW;exact h k' b2 eX⟩)
 .intro k' x hx;by_cases h:k'=k
  .subst h;rw[gj]at hx;simp at hx;subst hx;exact di _ hle
  .rw[cJ σ _ h]at hx;exact eF.keep (.refl S w) hle rfl (λg hg=>⟨rfl,λ_=>Iff.rfl⟩) (hR.box k' x hx)
 .intro k' x g hx hg;obtain⟨x',iZ⟩:=bC k' x hx;exact hR.own k' x' g iZ hg
 .intro k1 k2 x1 x2 g bq h1 h2 hg;obtain⟨y1,hy1⟩:=bC k1 x1 h1;obtain⟨y2,IA⟩:=bC k2 x2 h2;exact hR.apart k1 k2 y1 y2 g bq hy1 IA hg
theorem All2.set_left{α β:Type}{R:α->β->Prop}:∀{as:List α}{bs:List β},All2 R as bs->∀(i:Nat)(x:α)(b:β),bs[i]? = some b->R x b->All2 R (as.set i x) bs
 |[],[],_,i,x,b,hb,_=>by simp at hb
 |_::_,_::_,h,0,x,b,hb,hr=>by simp at hb;subst hb;exact⟨hr,h.2⟩
 |_::_,_::_,h,i+1,x,b,hb,hr=>⟨h.1,All2.set_left h.2 i x b (by simpa using hb) hr⟩
 |[],_::_,h,_,_,_,_,_=>h.elim
 |_::_,[],h,_,_,_,_,_=>h.elim
theorem QH:∀(l:List (Loc×Ty))(σ σ':St)(S:aP),Rel N np S0 w0 refs σ a w S γ->dS σ->AV np l σ=some σ'->∃S',Rel N np S0 w0 refs σ' a w S' γ/\dS σ'
 |[],σ,σ',S,hR,hc,h=>by simp[AV]at h;subst h;exact⟨S,hR,hc⟩
 |(l,t)::r,σ,σ',S,hR,hc,h=>by
  simp only[AV]at h;split at h
  .rename_i v u hv;have bH:=BZ (np:=np) (σ:=σ) (rd:=mskM σ.bx) (RdR.msk λ_=> .inl rfl)
   suffices hs:∃S',Rel N np S0 w0 refs (vJ (σ.upd u) l (.d t v)) a w S' γ/\dS (vJ (σ.upd u) l (.d t v)) by
    obtain⟨S1,bD,fi⟩:=hs;exact QH r _ σ' S1 bD fi h
   cases l with
   |slot i=>
    cases ee:σ.sl i with
    |tup x=>simp only[gZ,ee]at hv;simp[ib]at hv
    |cnd x y z=>simp only[gZ,ee]at hv;simp[ib]at hv
    |und=>simp only[gZ,ee]at hv;simp[ib]at hv
    |one c=>
     cases c with
     |st ls=>simp only[gZ,ee]at hv;simp[ib]at hv
     |av n b xs=>simp only[gZ,ee]at hv;simp[ib]at hv
     |one x=>
      simp only[gZ,ee]at hv;have ug:=hR.slot i;rw[ee]at ug;obtain⟨eV,hp⟩:=tJ bH hv ug.1;obtain⟨S1,bD,cG,gN,_⟩:=nk u σ S hR eV;have bA:=hp S1 w cG gN;refine⟨S1,?_,?_⟩
      .simp only[vJ,yz,ee];exact Iy bD ⟨bA,λ_=>Rep.one _ _ _ bA _ (kn.2 rfl)⟩
      .intro j;simp only[vJ,yz,ee,St.setS];split
       .rfl
       .exact hc j
   |cell k c=>
    have mh:gZ σ (.cell k c) ≠ .dead:=λhd=>by rw[hd]at hv;simp[ib]at hv
    cases fa:σ.bx k with
    |free=>simp[gZ,fa]at mh
    |gone=>simp[gZ,fa]at mh
    |live b=>
     cases b with
     |lst e b xs f=>simp[gZ,fa]at mh
     |arr n b xs=>simp[gZ,fa]at mh
     |cell ls f=>
      cases f with
      |true=>simp[gZ,fa]at mh
      |false=>
       have hl:gZ σ (.cell k c)=ls.getD c .dead:=by simp[gZ,fa]
       rw[hl]at hv mh;obtain⟨g,cur,e,h1,h2,h3,h4,h5,h6⟩:=hR.box k _ fa;cases hg:ls[c]? with
       |none=>simp[hg]at mh
       |some x=>
        have hgx:ls.getD c .dead=x:=by simp[hg]
        rw[hgx]at hv;obtain⟨z,hz,yL⟩:=h3.get c x hg;obtain⟨eV,hp⟩:=tJ bH hv yL;obtain⟨S1,bD,cG,gN,dO⟩:=nk u σ S hR eV;have bA:=hp S1 w cG gN;have sj:=dO.cell fa;refine⟨S1,?_,?_⟩
        .simp only[vJ,sj];refine jA8 bD sj trivial (λbx' hle=>?_);obtain⟨g',il,e',kG,jV,tW,h4',h5',h6'⟩:=bD.box k _ sj;rw[h1]at kG;simp at kG;subst kG;rw[h2]at jV;simp at jV;obtain⟨rfl,rfl⟩:=jV;exact⟨g,cur,e,h1,h2,All2.set_left (tW.mono (λx u hx=>bY.keep (.refl S1 w) hle hx)) c _ z hz bA,h4',h5',by simp⟩
        .intro j;simp only[vJ,sj];show ((σ.upd u).sl j).bare=true;rw[yz];exact hc j
  .simp at h
theorem B8:∀(l:List na)(σ σ':St)(S:aP),Rel N np S0 w0 refs σ a w S γ->dS σ->tC np l σ=some σ'->∃S',Rel N np S0 w0 refs σ' a w S' γ/\dS σ'
 |[],σ,σ',S,hR,hc,h=>by simp[tC]at h;subst h;exact⟨S,hR,hc⟩
 |x::r,σ,σ',S,hR,hc,h=>by
  simp only[tC]at h;split at h
  .split at h
   .split at h
    .split at h
     .rename_i e b xs f fa;split at h
      .simp at h
      .rename_i hp;simp only[vb,not_or,Bool.not_eq_true]at hp;obtain⟨S1,bD,_⟩:=HP hR hp.2 fa hp.1;exact B8 r _ σ' S1 bD (λi=>hc i) h
     .simp at h
    .exact B8 r σ σ' S hR hc h
   .exact B8 r σ σ' S hR hc h
  .exact B8 r σ σ' S hR hc h
theorem oD:∀{l:List Nat}{i j:Nat},l.idxOf? i=some j->l[j]? = some i
 |[],i,j,h=>by simp at h
 |x::l,i,j,h=>by
  rw[List.idxOf?_cons]at h;split at h
  .rename_i he;simp at h he;subst h;subst he;rfl
  .cases hq:l.idxOf? i with
   |none=>simp[hq]at h
   |some j'=>simp[hq]at h;subst h;simpa using oD hq
theorem IB:∀{l:List Nat}{i:Nat},l.idxOf? i=none->i∉l
 |[],i,_=>by simp
 |x::l,i,h=>by
  rw[List.idxOf?_cons]at h;split at h
  .simp at h
  .rename_i he;have hq:l.idxOf? i=none:=by simpa using h
   have:=IB hq;simp only[jg,not_or];exact⟨λe=>he (by simp[e]),this⟩
theorem IC{e:Nat}{t:Ty}{l:Loc}{k:Option Nat}{xs:List t.den}{f:Bool}(h:yo σ e t l=some (k,xs,f)) :
  (k=none/\isM e=false/\xs=[]/\gZ σ l = .nil)\/∃k0,k=some k0/\gZ σ l = .ol k0/\σ.bx k0 = .live (.lst e t xs f):=by
 unfold yo at h;split at h
 .rename_i hl;split at h
  .simp at h
  .rename_i hm;simp only[j4,j8]at h;exact .inl ⟨h.1.symm,by simpa using hm,h.2.1.symm,hl⟩
 .rename_i k0 hl;split at h
  .rename_i e' t' cI f' hb;split at h
   .rename_i v iF;split at h
    .rename_i he;simp only[j4,j8]at h;obtain⟨rfl,rfl,rfl⟩:=h;have:=lR iF;cases this;subst he;exact .inr ⟨k0,rfl,hl,hb⟩
    .simp at h
   .simp at h
  .simp at h
 .simp at h
theorem Fe{e:Nat}{t:Ty}:∀{ls:List Loc}{k:Option Nat}{xs:List t.den}{f:Bool},vI σ e t ls=some (k,xs,f)->
  (∃l∈ls,yo σ e t l=some (k,xs,f))/\∀l∈ls,∃cI f',yo σ e t l=some (k,cI,f')
 |[],_,_,_,h=>by simp[vI]at h
 |[l],k,xs,f,h=>by
  simp only[vI]at h;exact⟨⟨l,by simp,h⟩,λl' kQ=>by simp at kQ;subst kQ;exact⟨_,_,h⟩⟩
 |l::l2::ls,k,xs,f,h=>by
  simp only[vI]at h;split at h
  .rename_i k1 EY f1 k2 PE f2 h1 h2;split at h
   .rename_i hk;simp only[j4,j8]at h;obtain⟨rfl,rfl,rfl⟩:=h;subst hk;obtain⟨_,aB⟩:=Fe h2;refine⟨⟨l,by simp,h1⟩,λl' kQ=>?_⟩;rcases jg.1 kQ with rfl|kQ
    .exact⟨_,_,h1⟩
    .exact aB l' kQ
   .simp at h
  .simp at h
def QI(np:Nat)(σ:St)(bs:List Nat)(x:na)(it:Item)(src:Option Nat):Prop:=
 ∃xs f f',vI σ x.e x.a x.locs=some (src,xs,f)/\it = .b (.live (.lst x.e x.a xs f'))/\∀k0,src=some k0->f'=f/\k0∉bs/\parK np k0=false
theorem QJ{bs:List Nat}:∀{L:List na}{is:List Item}{ks:List Nat},yp np σ bs L=some (is,ks)->
  ∃eO:List (Option Nat),ks=eO.filterMap id/\ks.Nodup/\∀(j:Nat)(x:na),L[j]? = some x->∃it src,is[j]? = some it/\eO[j]? = some src/\QI np σ bs x it src
 |[],is,ks,h=>by
  simp[yp]at h;obtain⟨rfl,rfl⟩:=h;exact⟨[],rfl,zw,λj x hx=>by simp at hx⟩
 |x::L,is,ks,h=>by
  simp only[yp]at h;split at h
  .rename_i k xs f is' Hy h1 h2;obtain⟨eO,e1,e2,e3⟩:=QJ h2;split at h
   .simp only[j4,j8]at h;obtain⟨rfl,rfl⟩:=h;refine⟨none::eO,by simp[e1],e2,λj y hy=>?_⟩;cases j with
    |zero=>simp at hy;subst hy;exact⟨_,none,rfl,rfl,xs,f,x.frz,h1,rfl,by simp⟩
    |succ j=>exact e3 j y (by simpa using hy)
   .rename_i k0;split at h
    .simp at h
    .rename_i hn;simp only[vb,not_or,Bool.not_eq_true,qa,jq]at hn;simp only[j4,j8]at h;obtain⟨rfl,rfl⟩:=h;refine⟨some k0::eO,by simp[e1],qs.2 ⟨hn.1.1,e2⟩,λj y hy=>?_⟩;cases j with
     |zero=>simp at hy;subst hy;exact⟨_,some k0,rfl,rfl,xs,f,f,h1,rfl,λk1 dj=>by simp at dj;subst dj;exact⟨rfl,hn.1.2,hn.2⟩⟩
     |succ j=>exact e3 j y (by simpa using hy)
  .simp at h
theorem QK:∀{eO:List (Option Nat)},(eO.filterMap id).Nodup->∀{j j' k:Nat},eO[j]? = some (some k)->eO[j']? = some (some k)->j=j'
 |[],_,j,_,_,h,_=>by simp at h
 |s::eO,hn,j,j',k,h,h'=>by
  have er:∀{i:Nat},eO[i]? = some (some k)->k∈eO.filterMap id:=λhi=>v7.2 ⟨some k,jz hi,rfl⟩
  have ID:(eO.filterMap id).Nodup:=by
   cases s with
   |none=>simpa using hn
   |some y=>simp at hn;exact hn.2
  cases j with
  |zero=>
   cases j' with
   |zero=>rfl
   |succ j'=>simp at h h';subst h;simp at hn;exact absurd (by simpa using er h') hn.1
  |succ j=>
   cases j' with
   |zero=>simp at h h';subst h';simp at hn;exact absurd (by simpa using er h) hn.1
   |succ j'=>have:=QK ID (j:=j) (j':=j') (k:=k) (by simpa using h) (by simpa using h');omega
theorem QL:∀{l:List Nat},l.Nodup->∀{i j n:Nat},l[i]? = some n->l[j]? = some n->i=j
 |[],_,i,_,_,hi,_=>by simp at hi
 |x::l,h,i,j,n,hi,hj=>by
  obtain⟨h1,h2⟩:=qs.1 h;cases i with
  |zero=>
   cases j with
   |zero=>rfl
   |succ j=>simp at hi hj;subst hi;exact absurd (jz hj) h1
  |succ i=>
   cases j with
   |zero=>simp at hi hj;subst hj;exact absurd (jz hi) h1
   |succ j=>rw[QL h2 (i:=i) (j:=j) (n:=n) (by simpa using hi) (by simpa using hj)]
end
section
variable{N:NT}{np:Nat}{S0:aP}{w0:World}{refs:Refs}{σ:St}{a:Go.Act}{w:World}{S:aP}{γ:Nat->Value}
theorem jtP{K:Keep}{l:Loc}{n:Nat}(h:AU K l=some n):∃(j:Nat)(x:na),K.lists[j]? = some x/\x.name=n/\l∈x.locs:=by
 unfold AU at h;obtain⟨x,hq,hn⟩:=Option.map_eq_some_iff.1 h;have h1:=List.find?_some hq;obtain⟨j,hj⟩:=zg.1 (List.mem_of_find?_eq_some hq);exact⟨j,x,hj,hn,by simpa using h1⟩
theorem yM{K:Keep}{k:Nat}{x:BS}{b:Bx}(h:tB K k x = .live b):∃b0,x = .live b0/\iC b0 b:=by
 unfold tB at h;split at h
 .simp only[BS.live.injEq]at h;subst h;exact⟨_,rfl,trivial⟩
 .simp only[BS.live.injEq]at h;subst h;exact⟨_,rfl,.refl _⟩
 .simp only[BS.live.injEq]at h;subst h;exact⟨_,rfl,.refl _⟩
 .simp at h
theorem yN{K:Keep}{k:Nat}{x:BS}:tB K k x ≠ .free:=by
 unfold tB;split<;>simp
theorem QM{R:Leaf->Value->Prop}{f:Leaf×Nat->Leaf}:∀{ls:List Leaf}{cs:List Value}(n:Nat),(∀(j:Nat)(x:Leaf)(u:Value),ls[j]? = some x->cs[j]? = some u->R (f (x,n+j)) u)->ls.length=cs.length->
  All2 R ((ls.zipIdx n).map f) cs
 |[],[],_,_,_=>trivial
 |x::ls,c::cs,n,h,hl=>by
  refine⟨h 0 x c rfl rfl,QM (n+1) (λj y u hy hu=>?_) (by simpa using hl)⟩;have:=h (j+1) y u (by simpa using hy) (by simpa using hu);rwa[show n+1+j=n+(j+1) by omega]
 |[],_::_,_,_,hl=>by simp at hl
 |_::_,[],_,_,hl=>by simp at hl
theorem jA9{K:Keep}{s:Snap}(hR:Rel N np S0 w0 refs σ a w S γ)(hs:Hv np K σ=some s):∃γ',Rel N np S0 w0 refs (da np K s) a w S γ'/\dS (da np K s):=by
 unfold Hv at hs;cases hL:yp np σ K.boxes K.lists with
 |none=>simp[hL]at hs
 |some p=>
 obtain⟨is,ks⟩:=p;simp only[hL]at hs;cases bF:K.ok np with
 |false=>simp[bF]at hs
 |true=>
 simp only[bF,if_true,j4]at hs;obtain⟨eO,hks,dR,B9⟩:=QJ hL;rw[hks]at dR;simp only[Keep.ok,jb]at bF;have wJ:=E4 bF.1;have BW:∀(j:Nat)(x:na),K.lists[j]? = some x->x.name∉K.boxes:=by intro j x hx;have:=jx.1 bF.2 x (jz hx);simp only[jb]at this;simpa using this.1
 have uh:∀(j:Nat)(x:na),K.lists[j]? = some x->parK np x.name=false:=by intro j x hx;have:=jx.1 bF.2 x (jz hx);simp only[jb]at this;simpa using this.2
 let γ':Nat->Value:=λn=>match K.boxes.idxOf? n with
  |some _=>γ n
  |none=>match (K.lists.map (·.name)).idxOf? n with
   |some j=>match eO[j]? with
    |some (some k)=>γ k
    |_=> .slice none 0 0
   |none=>γ n
 have fa:(da np K s).bx=λn=>match K.boxes.idxOf? n with
  |some j=>tD s[K.slots.length+j]?
  |none=>match (K.lists.map (·.name)).idxOf? n with
   |some j=>tD s[K.slots.length+K.boxes.length+j]?
   |none=>if parK np n then .gone else .free:=rfl
 have hB:∀n,n∈K.boxes->(da np K s).bx n=tB K n (σ.bx n)/\γ' n=γ n:=by
  intro n hn;rw[fa];cases hq:K.boxes.idxOf? n with
  |none=>exact absurd hn (IB hq)
  |some j=>have hj:=oD hq;refine⟨?_,by simp only[γ',hq]⟩;simp only[hq,<-hs];rw[jy (by simp)];simp only[qb,Nat.add_sub_cancel_left];rw[List.getElem?_append_left (by simp;exact(ju.1 hj).1)];simp[hj,tD]
 have IE:∀(j:Nat)(x:na),K.lists[j]? = some x->∃it src,eO[j]? = some src/\QI np σ K.boxes x it src/\(da np K s).bx x.name=tD (some it)/\
   γ' x.name=(match src with|some k=>γ k|none=> .slice none 0 0):=by
  intro j x hx;obtain⟨it,src,h1,h2,h3⟩:=B9 j x hx
  have ui:K.boxes.idxOf? x.name=none:=by
   cases hq:K.boxes.idxOf? x.name with
   |none=>rfl
   |some i=>exact absurd (jz (oD hq)) (BW j x hx)
  have yO:(K.lists.map (·.name))[j]? = some x.name:=by simp[hx]
  cases hq:(K.lists.map (·.name)).idxOf? x.name with
  |none=>exact absurd (jz yO) (IB hq)
  |some i=>
   have hi:=QL wJ (oD hq) yO;subst hi;refine⟨it,src,h2,h3,?_,?_⟩
   .rw[fa];simp only[ui,hq,<-hs];rw[jy (by simp;omega),jy (by simp;omega)];have:K.slots.length+K.boxes.length+i-(K.slots.map λi=>Item.s (EE K i (σ.sl i))).length-(K.boxes.map λk=>Item.b (tB K k (σ.bx k))).length=i:=by simp;omega
    rw[this,h1]
   .simp only[γ',ui,hq,h2];cases src<;>rfl
 have hF:∀n b,(da np K s).bx n = .live b->n∈K.boxes\/∃(j:Nat)(x:na),K.lists[j]? = some x/\x.name=n:=by
  intro n b hb;by_cases hn:n∈K.boxes
  .exact .inl hn
  .right;rw[fa]at hb
   have ui:K.boxes.idxOf? n=none:=by
    cases hq:K.boxes.idxOf? n with
    |none=>rfl
    |some i=>exact absurd (jz (oD hq)) hn
   simp only[ui]at hb;split at hb
   .rename_i j hq;have hj:=oD hq;simp only[qp]at hj;cases hx:K.lists[j]? with
    |none=>simp[hx]at hj
    |some x=>simp[hx]at hj;exact⟨j,x,hx,hj⟩
   .split at hb<;>simp at hb
 have pF:∀(loc:Option Loc)(x:Leaf)(u:Value),bY S w γ σ.bx x u->(x ≠ .dead->One u)->(∀l,loc=some l->gZ σ l=x)->
   bY S w γ' (da np K s).bx (om K loc x) u/\(om K loc x ≠ .dead->One u):=by
  intro loc x u hl h1 wK;have gP:bY S w γ' (da np K s).bx .dead u/\(Leaf.dead ≠ .dead->One u):=⟨trivial,λh=>absurd rfl h⟩
  have iJ:∀n,loc.bind (AU K)=some n->∀(hu:(x = .nil)\/∃k,x = .ol k),bY S w γ' (da np K s).bx (.ol n) u/\(Leaf.ol n ≠ .dead->One u):=by
   intro n hn hu;cases loc with
   |none=>simp at hn
   |some l=>
    simp only[j3]at hn;have nD:=wK l rfl;obtain⟨j,y,hy,hyn,r6⟩:=jtP hn;obtain⟨it,src,_,⟨xs,f,f',gQ,yP,wL⟩,Ca,rn⟩:=IE j y hy;obtain⟨_,aB⟩:=Fe gQ;obtain⟨cI,f1,pD⟩:=aB l r6;have cX:One u:=h1 (by rcases hu with rfl|⟨k,rfl⟩<;>simp);rw[hyn]at Ca rn;refine⟨⟨by rw[Ca,yP];simp[tD],cX,λb _=>?_⟩,λ_=>cX⟩;rw[rn];rcases IC pD with⟨rfl,_,_,fw⟩|⟨k0,rfl,wM,dr⟩
    .rw[nD]at fw;subst fw;exact hl
    .rw[nD]at wM;subst wM;exact hl.2.2 _ dr
  cases x with
  |dead=>exact gP
  |nil=>
   simp only[om];split
   .rename_i n hn;exact iJ n hn (.inl rfl)
   .exact⟨hl,h1⟩
  |d t v=>exact⟨hl,h1⟩
  |ip ls=>exact⟨hl,h1⟩
  |clo f caps=>exact⟨hl,h1⟩
  |clr f ks=>
   simp only[om];split
   .rename_i hks;obtain⟨cv,hu,ha⟩:=hl;refine⟨⟨cv,hu,?_⟩,λ_=>h1 (by simp)⟩
    have go:∀(ks:List Nat)(zs:List Value),ks.all (λk=>K.boxes.contains k)=true->All2 (Bb γ σ.bx) ks zs->All2 (Bb γ' (da np K s).bx) ks zs:=by
     intro ks;induction ks with
     |nil=>intro zs _ h;cases zs with|nil=>trivial|cons _ _=>exact h.elim
     |cons k ks ih=>
      intro zs hc h;cases zs with
      |nil=>exact h.elim
      |cons z zs=>simp only[List.all_cons,jb]at hc;obtain⟨dJ,eX⟩:=hB k (by simpa using hc.1);refine⟨⟨by rw[dJ];exact yN,h.1.2.1,λb hb=>?_⟩,ih zs hc.2 h.2⟩;rw[dJ]at hb;obtain⟨b0,eE,_⟩:=yM hb;rw[eX];exact h.1.2.2 b0 eE
    exact go ks cv.toList hks ha
   .exact gP
  |ep k i c=>exact gP
  |tl k i=>
   simp only[om];split
   .rename_i hk;obtain⟨dJ,eX⟩:=hB k (by simpa using hk);refine⟨⟨by rw[dJ];exact yN,hl.2.1,λb hb=>?_⟩,λ_=>hl.2.1⟩;rw[dJ]at hb;obtain⟨b0,eE,hG⟩:=yM hb;have h3:=hl.2.2 b0 eE;rw[eX]
    cases b0<;>cases b<;>simp only[iC]at hG<;>first
     |exact hG.elim
     |exact h3.elim
     |(obtain⟨rfl,rfl,kQ⟩:=hG;simp only at h3 ⊢;obtain⟨hm,h3⟩:=h3;rw[<-kQ hm];exact⟨hm,h3⟩)
   .exact gP
  |hd k i=>
   simp only[om];split
   .rename_i hk;obtain⟨dJ,eX⟩:=hB k (by simpa using hk);refine⟨⟨by rw[dJ];exact yN,hl.2.1,λb hb=>?_⟩,λ_=>hl.2.1⟩;rw[dJ]at hb;obtain⟨b0,eE,hG⟩:=yM hb;have h3:=hl.2.2 b0 eE;rw[eX]
    cases b0<;>cases b<;>simp only[iC]at hG<;>first
     |exact hG.elim
     |exact h3.elim
     |(obtain⟨rfl,rfl,kQ⟩:=hG;simp only at h3 ⊢;obtain⟨hm,h3⟩:=h3;rw[<-kQ hm];exact⟨hm,h3⟩)
   .exact gP
  |ol k=>
   simp only[om];split
   .rename_i hk;obtain⟨dJ,eX⟩:=hB k (by simpa using hk);refine⟨⟨by rw[dJ];exact yN,hl.2.1,λb hb=>?_⟩,λ_=>hl.2.1⟩;rw[dJ]at hb;obtain⟨b0,eE,_⟩:=yM hb;rw[eX];exact hl.2.2 b0 eE
   .split
    .rename_i n hn;exact iJ n hn (.inr ⟨k,rfl⟩)
    .exact gP
  |bp k c=>
   simp only[om];split
   .rename_i hk;obtain⟨dJ,eX⟩:=hB k (by simpa using hk);refine⟨⟨by rw[dJ];exact yN,hl.2.1,λb hb=>?_⟩,λ_=>hl.2.1⟩;rw[dJ]at hb;obtain⟨b0,eE,_⟩:=yM hb;rw[eX];exact hl.2.2 b0 eE
   .exact gP
 have fQ:∀n b,(da np K s).bx n = .live b->(n∈K.boxes/\γ' n=γ n/\∃b0,σ.bx n = .live b0)\/(blk (γ' n)=none)\/
   ∃(j:Nat)(x:na)(k:Nat)(b0:Bx),K.lists[j]? = some x/\x.name=n/\eO[j]? = some (some k)/\γ' n=γ k/\σ.bx k = .live b0/\k∉K.boxes/\parK np k=false:=by
  intro n b hb;rcases hF n b hb with hn|⟨j,x,hx,rfl⟩
  .obtain⟨h1,h2⟩:=hB n hn;rw[h1]at hb;obtain⟨b0,eE,_⟩:=yM hb;exact .inl ⟨hn,h2,b0,eE⟩
  .obtain⟨it,src,wL,⟨xs,f,f',gQ,yP,oE⟩,Ca,rn⟩:=IE j x hx;obtain⟨⟨l,_,pD⟩,_⟩:=Fe gQ;rcases IC pD with⟨rfl,_,_,_⟩|⟨k,rfl,_,dr⟩
   .exact .inr (.inl (by rw[rn];rfl))
   .obtain⟨_,h2,h3⟩:=oE k rfl;exact .inr (.inr ⟨j,x,k,_,hx,rfl,wL,rn,dr,h2,h3⟩)
 refine⟨γ',⟨hR.size,hR.defers,?_,?_,?_,?_,hR.ext,hR.new,hR.here,hR.below,hR.grow,hR.os,hR.tape,hR.output,?_,λg o h=>⟨(hR.kept g o h).1,λn b hb dr=>by
  have dp:=(hR.kept g o h).2;rcases fQ n b hb with⟨_,e,b0,eE⟩|e|⟨j,x,k,b0,_,_,_,e,eE,_⟩
  .rw[e]at dr;exact dp n b0 eE dr
  .rw[e]at dr;simp at dr
  .rw[e]at dr;exact dp k b0 eE dr⟩,hR.fix⟩,?_⟩
 ·-- slots
  intro i
  have ee:(da np K s).sl i=match K.slots.idxOf? i with
   |some j=>vK s[j]?
   |none=> .one (.one .dead):=rfl
  rw[ee];cases hq:K.slots.idxOf? i with
  |none=>exact⟨trivial,λh=>absurd rfl h⟩
  |some j=>
   have hj:=oD hq;have Cb:s[j]? = some (.s (EE K i (σ.sl i))):=by rw[<-hs,List.getElem?_append_left (by simp;exact(ju.1 hj).1)];simp[hj]
   simp only[Cb,vK];have ug:=hR.slot i;show bR S w γ' (da np K s).bx (EE K i (σ.sl i)) _;cases kI:σ.sl i with
   |tup l=>exact⟨trivial,λh=>absurd rfl h⟩
   |cnd x y z=>exact⟨trivial,λh=>absurd rfl h⟩
   |und=>exact⟨trivial,λh=>absurd rfl h⟩
   |one c=>
    rw[kI]at ug;cases c with
    |one x=>exact pF (some (.slot i)) x _ ug.1 ug.2 (λl hl=>by simp at hl;subst hl;simp[gZ,kI])
    |st ls=>
     obtain⟨cs,hu,aB,h1⟩:=ug;refine⟨cs,hu,?_,h1⟩;refine All2.map_left.2 ?_
     have:∀{ls:List Leaf}{cs:List Value},All2 (bY S w γ σ.bx) ls cs->(∀u∈cs,One u)->All2 (λx u=>bY S w γ' (da np K s).bx (om K none x) u) ls cs:=by
      intro ls;induction ls with
      |nil=>intro cs h _;cases cs with|nil=>trivial|cons _ _=>exact h.elim
      |cons x ls ih=>
       intro cs h h1;cases cs with
       |nil=>exact h.elim
       |cons u cs=>exact⟨(pF none x u h.1 (λ_=>h1 u (by simp)) (by simp)).1,ih h.2 (λv hv=>h1 v (by simp[hv]))⟩
     exact this aB h1
    |av n b xs=>obtain⟨cs,hu,bA⟩:=ug;exact⟨cs,hu,bA⟩
 ·-- boxes
  intro n b hb;rcases hF n b hb with hn|⟨j,x,hx,rfl⟩
  .obtain⟨h1,h2⟩:=hB n hn;rw[h1]at hb;unfold tB at hb;split at hb
   .rename_i ls frz kS;simp only[BS.live.injEq]at hb;subst hb;obtain⟨g,cur,e,q1,q2,q3,q4,q5,q6⟩:=hR.box n _ kS;refine⟨g,cur,e,h2.trans q1,q2,?_,q4,q5,q6⟩;refine QM 0 (λj x u hx hu=>?_) q3.length;obtain⟨u',fj,iM⟩:=q3.get j x hx;rw[hu]at fj;simp at fj;subst fj;refine(pF _ x u iM (λ_=>q4 u (jz hu)) (λl hl=>?_)).1;cases frz with
    |true=>simp at hl
    |false=>simp at hl;subst hl;simp[gZ,kS,hx]
   .rename_i m t xs kS;simp only[BS.live.injEq]at hb;subst hb;obtain⟨g,cur,e,q1,q2,q3,q4⟩:=hR.box n _ kS;exact⟨g,cur,e,h2.trans q1,q2,q3,q4⟩
   .rename_i e t xs frz kS;simp only[BS.live.injEq]at hb;subst hb;obtain⟨q1,q3⟩:=hR.box n _ kS;exact⟨by rw[h2];exact q1,by rw[h2];exact q3⟩
   .simp at hb
  .obtain⟨it,src,wL,⟨xs,f,f',gQ,yP,oE⟩,Ca,rn⟩:=IE j x hx;obtain⟨⟨l,_,pD⟩,_⟩:=Fe gQ;rw[Ca,yP]at hb;simp only[tD,BS.live.injEq]at hb;subst hb;rcases IC pD with⟨rfl,cd,rfl,_⟩|⟨k,rfl,_,dr⟩
   .refine Bc cd ⟨[],?_,trivial,λg hg=>?_⟩
    .rw[rn];exact⟨by simp,.inl ⟨rfl,rfl⟩⟩
    .rw[rn]at hg;simp[blk]at hg
   .obtain⟨rfl,_,_⟩:=oE k rfl;obtain⟨q1,q3⟩:=hR.box k _ dr;exact⟨by rw[rn];exact q1,by rw[rn];exact q3⟩
 ·-- own
  intro n b g hb hg;rcases fQ n b hb with⟨_,h2,b0,h3⟩|h|⟨j,x,k,b0,_,_,_,h2,h3,_,h5⟩
  .rw[h2]at hg;exact hR.own n b0 g h3 hg
  .rw[h]at hg;simp at hg
  .rw[h2]at hg;rcases hR.own k b0 g h3 hg with h|h
   .exact .inl h
   .rw[h5]at h;simp at h
 ·-- apart
  intro n n' b b' g bq hb aW hg aC;rcases fQ n b hb with⟨m1,h2,b0,h3⟩|h|⟨j,x,k,b0,hx,hxn,hj,h2,h3,h4,_⟩
  .rw[h2]at hg;rcases fQ n' b' aW with⟨_,i2,b1,i3⟩|i|⟨j',x',k',b1,_,_,_,i2,i3,i4,_⟩
   .rw[i2]at aC;exact hR.apart n n' b0 b1 g bq h3 i3 hg aC
   .rw[i]at aC;simp at aC
   .rw[i2]at aC;exact hR.apart n k' b0 b1 g (by rintro rfl;exact i4 m1) h3 i3 hg aC
  .rw[h]at hg;simp at hg
  .rw[h2]at hg;rcases fQ n' b' aW with⟨m1,i2,b1,i3⟩|i|⟨j',x',k',b1,iZ,IF,fN,i2,i3,i4,_⟩
   .rw[i2]at aC;exact hR.apart k n' b0 b1 g (by rintro rfl;exact h4 m1) h3 i3 hg aC
   .rw[i]at aC;simp at aC
   .rw[i2]at aC;by_cases cg:k=k'
    .subst cg;have:=QK dR hj fN;subst this;rw[hx]at iZ;simp at iZ;subst iZ;exact bq (hxn.symm.trans IF)
    .exact hR.apart k k' b0 b1 g cg h3 i3 hg aC
 ·-- parameters
  intro k v hv;obtain⟨p1,p2,p3⟩:=hR.par k v hv;refine⟨p1,?_,?_⟩
  .by_cases hk:k∈K.boxes
   .rw[(hB k hk).1];exact yN
   .rw[fa]
    have ui:K.boxes.idxOf? k=none:=by
     cases hq:K.boxes.idxOf? k with
     |none=>rfl
     |some i=>exact absurd (jz (oD hq)) hk
    simp only[ui];split
    .rename_i j hq;have hj:=oD hq;simp only[qp]at hj;cases hx:K.lists[j]? with
     |none=>simp[hx]at hj
     |some x=>simp[hx]at hj;have:=uh j x hx;rw[hj,p1]at this;simp at this
    .simp[p1]
  .by_cases hk:k∈K.boxes
   .rw[(hB k hk).2];exact p3
   .have ui:K.boxes.idxOf? k=none:=by
     cases hq:K.boxes.idxOf? k with
     |none=>rfl
     |some i=>exact absurd (jz (oD hq)) hk
    simp only[γ',ui];split
    .rename_i j hq;have hj:=oD hq;simp only[qp]at hj;cases hx:K.lists[j]? with
     |none=>simp[hx]at hj
     |some x=>simp[hx]at hj;have:=uh j x hx;rw[hj,p1]at this;simp at this
    .exact p3
 .intro i;show ((match K.slots.idxOf? i with|some j=>vK s[j]?|none=>Slot.one (.one .dead)):Slot).bare=true;split
  .unfold vK;split<;>rfl
  .rfl
theorem uj{K:Keep}{s:Snap}(hR:Rel N np S0 w0 refs σ a w S γ)(hc:dS σ)(hs:iS np K σ=some s):∃S' γ',Rel N np S0 w0 refs (da np K s) a w S' γ'/\dS (da np K s):=by
 unfold iS at hs;split at hs
 .rename_i σ1 h1;split at hs
  .rename_i σ2 h2;obtain⟨S1,bD,fi⟩:=QH _ _ _ _ hR hc h1;obtain⟨S2,cW,fW⟩:=B8 _ _ _ _ bD fi h2;obtain⟨γ',gI,Cc⟩:=jA9 cW hs;exact⟨S2,γ',gI,Cc⟩
  .simp at hs
 .simp at hs
end
def RdLe(rd bL:Nat->BS):Prop:=∀k,rd k=bL k\/rd k = .gone
theorem RdLe.live{rd bL:Nat->BS}(h:RdLe rd bL){k:Nat}{b:Bx}(hk:rd k = .live b):bL k = .live b:=by
 rcases h k with h|h
 .rw[<-h];exact hk
 .rw[h]at hk;simp at hk
theorem RdLe.free{rd bL:Nat->BS}(h:RdLe rd bL){k:Nat}(hk:kF (rd k)=true):kF (bL k)=true:=by
 rcases h k with h|h
 .rw[<-h];exact hk
 .rw[h]at hk;simp[kF]at hk
theorem RdLe.isLive{rd bL:Nat->BS}(h:RdLe rd bL){k:Nat}(hk:isLive (rd k)=true):isLive (bL k)=true:=by
 rcases h k with h|h
 .rw[<-h];exact hk
 .rw[h]at hk;simp[Lft.isLive]at hk
theorem RdLe.rdf{rd bL:Nat->BS}(h:RdLe rd bL)(np:Nat):RdLe (λk=>if parK np k then .gone else rd k) (λk=>if parK np k then .gone else bL k):=by
 intro k;dsimp only;split
 .exact .inl rfl
 .exact h k
theorem RdLe.msk{rd bL:Nat->BS}(h:RdLe rd bL):RdLe (mskM rd) (mskM bL):=by
 intro k;rcases h k with h|h
 .left;unfold mskM;rw[h]
 .right;unfold mskM;rw[h]
theorem IG(M:List Nat)(rd:Nat->BS):RdLe (gY M rd) rd:=by
 intro k;unfold gY;split
 .exact .inr rfl
 .exact .inl rfl
section
variable{rd bL:Nat->BS}(hle:RdLe rd bL)
include hle
theorem QN{t:Ty}{l:Leaf}{x}(h:ib rd t l=some x):ib bL t l=some x:=by
 unfold ib at h ⊢;split at h
 .exact h
 .exact h
 .split at h
  .rename_i hk;rw[hle.live hk];exact h
  .simp at h
 .simp at h
theorem Ff:∀(t:Ty){ls:List Leaf}{x},gath rd t ls=some x->gath bL t ls=some x:=by
 intro t;induction t with
 |unit=>intro ls x h;simpa[gath]using h
 |wrap a ih=>
  intro ls x h;simp only[gath]at h ⊢;split at h
  .rename_i hg;rw[ih hg];exact h
  .simp at h
 |pair a b vV rW=>
  intro ls x h;simp only[gath]at h ⊢;split at h
  .rename_i hg;rw[vV hg];dsimp only;split at h
   .rename_i nw;rw[rW nw];exact h
   .simp at h
  .simp at h
 |arr n a ih=>intro ls x h;simp[gath]at h
 |_=>
  intro ls x h;cases ls with
  |nil=>simp[gath]at h
  |cons l ls=>
   simp only[gath]at h ⊢;split at h
   .rename_i hl;rw[QN hle hl];exact h
   .simp at h
theorem IH{t:Ty}{c:Cel}{x}(h:oa rd t c=some x):oa bL t c=some x:=by
 unfold oa at h ⊢;split at h
 .split at h
  .simp at h
  .rename_i ha;simp only[ha,za,k9];split at h
   .rename_i hg;rw[Ff hle _ hg];exact h
   .simp at h
 .split at h
  .rename_i ha;simp only[ha,if_true];split at h
   .rename_i hg;rw[Ff hle _ hg];exact h
   .simp at h
  .simp at h
 .exact h
theorem jwl{ti:TyI}{l:Leaf}{x}(h:nf rd ti l=some x):nf bL ti l=some x:=by
 unfold nf at h ⊢;split at h
 .split at h
  .rename_i hk;rw[hle.live hk];exact h
  .rename_i hk;rw[hle.live hk];exact h
  .simp at h
 .split at h
  .rename_i hk;rw[hle.live hk];exact h
  .rename_i hk;rw[hle.live hk];exact h
  .simp at h
 .exact h
 .simp at h
theorem jtQ{ti:TyI}{i:Nat}{l:Leaf}{x}(h:oc rd ti i l=some x):oc bL ti i l=some x:=by
 unfold oc at h ⊢;split at h
 .split at h
  .split at h
   .rename_i hl;simp only[hle.isLive hl,if_true];exact h
   .simp at h
  .simp at h
 .split at h
  .split at h
   .rename_i hl;simp only[hle.isLive hl,if_true];exact h
   .simp at h
  .simp at h
 .exact h
 .simp at h
theorem jtR{ti:TyI}{l i:Leaf}{x}(h:rK rd ti l i=some x):rK bL ti l i=some x:=by
 unfold rK at h ⊢;split at h
 .split at h
  .rename_i hk;rw[hle.live hk];exact h
  .simp at h
 .exact h
 .split at h
  .rename_i hk;rw[hle.live hk];exact h
  .rename_i hk;rw[hle.live hk];exact h
  .simp at h
 .split at h
  .rename_i hk;rw[hle.live hk];exact h
  .simp at h
 .simp at h
theorem QP(a:Ty):∀{ls:List Leaf}{x},rI rd a ls=some x->rI bL a ls=some x
 |[],_,h=>h
 |l::ls,x,h=>by
  simp only[rI]at h ⊢;split at h
  .rename_i h1 h2;rw[QN hle h1,QP a h2];exact h
  .simp at h
theorem jtS{t:Option Ty}{l:Leaf}{x}(h:rJ rd t l=some x):rJ bL t l=some x:=by
 unfold rJ at h ⊢;split at h
 .split at h
  .split at h
   .rename_i hi;rw[if_pos hi];split at h
    .rename_i hk;rw[hle.live hk];exact h
    .simp at h
   .simp at h
  .simp at h
 .simp at h
theorem jtT{ti:TyI}{l:Leaf}{c:Cel}(h:rJ rd ti.ty l=none)(hc:nf rd ti l=some c):rJ bL ti.ty l=none:=by
 unfold rJ at h ⊢;split at h
 .rename_i k;split at h
  .rename_i m el bG;split at h
   .rename_i hi;rw[if_pos hi];simp only[nf]at hc;split at hc
    .rename_i ls frz hk;rw[hle.live hk];cases frz with
     |true=>rfl
     |false=>rw[hk]at h;simp at h
    .rename_i hk;rw[hle.live hk]
    .simp at hc
   .rename_i hi;rw[if_neg hi]
  .rfl
 .rfl
theorem II(a:Ty):∀(ps:List (Nat×Cel)){xs:List a.den}{u:Ups}{x},iA rd a xs u ps=some x->iA bL a xs u ps=some x
 |[],_,_,_,h=>h
 |(i,c)::r,xs,u,x,h=>by
  simp only[iA]at h ⊢;split at h
  .rename_i hd;rw[IH hle hd];dsimp only;split at h
   .rename_i hi;simp only[hi,if_true];exact II a r h
   .simp at h
  .simp at h
theorem jxK{t:Option Ty}{l:Leaf}{x}(h:lenC rd t l=some x):lenC bL t l=some x:=by
 unfold lenC at h ⊢;split at h
 .exact h
 .split at h
  .rename_i hk;rw[hle.live hk];exact h
  .simp at h
 .exact h
 .exact h
 .split at h
  .rename_i hk;rw[hle.live hk];exact h
  .simp at h
 .simp at h
theorem jxL{e:Nat}{a:Ty}{l:Leaf}{x}(h:appS rd e a l=some x):appS bL e a l=some x:=by
 unfold appS at h ⊢;split at h
 .split at h
  .rename_i hk;rw[hle.live hk];exact h
  .simp at h
 .exact h
 .simp at h
theorem QQ{a:Ty}{l:Leaf}{x}(h:appX rd a l=some x):appX bL a l=some x:=by
 unfold appX at h ⊢;split at h
 .split at h
  .rename_i hk;rw[hle.live hk];exact h
  .simp at h
 .exact h
 .exact h
 .split at h
  .rename_i hk;rw[hle.live hk];exact h
  .simp at h
 .simp at h
theorem jwm{t:Option Ty}{l m:Leaf}{x}(h:yj rd t l m=some x):yj bL t l m=some x:=by
 unfold yj at h ⊢;split at h
 .split at h
  .rename_i hk;rw[hle.live hk];dsimp only;split at h
   .rename_i ht;rw[if_pos ht];split at h
    .rename_i hy;rw[QQ hle hy];exact h
    .simp at h
   .simp at h
  .simp at h
 .simp at h
theorem jtU{t:Option Ty}{l:Leaf}{x}(h:yk rd t l=some x):yk bL t l=some x:=by
 unfold yk at h ⊢;split at h
 .split at h
  .rename_i hk;rw[hle.live hk];exact h
  .simp at h
 .simp at h
theorem Fg:∀(ls:List Leaf){x},tvs rd ls=some x->tvs bL ls=some x
 |[],_,h=>h
 |l::ls,x,h=>by
  simp only[tvs]at h ⊢;split at h
  .rename_i hr;rw[Fg ls hr];dsimp only;split at h
   .exact h
   .split at h
    .rename_i hk;rw[hle.live hk];exact h
    .simp at h
   .simp at h
  .simp at h
theorem QR:∀(cs:List Cel){x},tx rd cs=some x->tx bL cs=some x
 |[],_,h=>h
 |c::cs,x,h=>by
  simp only[tx]at h ⊢;split at h
  .rename_i hr;rw[QR cs hr];dsimp only;split at h
   .exact h
   .split at h
    .rename_i hk;rw[hle.live hk];dsimp only;split at h
     .rename_i ht;rw[Fg hle _ ht];exact h
     .simp at h
    .simp at h
   .simp at h
  .simp at h
end
theorem jtV{rd bL rdf fR:Nat->BS}(hle:RdLe rd bL)(eY:RdLe rdf fR){n:Nat}{c:Cel}{l:Leaf}{x}(h:tw rd rdf n c l=some x):tw bL fR n c l=some x:=by
 unfold tw at h ⊢;split at h
 .split at h
  .rename_i hk;rw[hle.live hk];exact h
  .rename_i hk;rw[hle.live hk];exact h
  .simp at h
 .split at h
  .rename_i hk;rw[hle.live hk];dsimp only;split at h
   .split at h
    .rename_i hi;rw[if_pos hi];split at h
     .rename_i hg;rw[Ff eY _ hg];exact h
     .simp at h
    .simp at h
   .simp at h
  .rename_i hk;rw[hle.live hk];dsimp only;split at h
   .split at h
    .rename_i hi;rw[if_pos hi];split at h
     .rename_i hg;rw[Ff eY _ hg];exact h
     .simp at h
    .simp at h
   .simp at h
  .simp at h
 .simp at h
theorem jtW{par:Nat->Bool}{rd bL:Nat->BS}(hle:RdLe rd bL){ti:TyI}{n:Nat}{l:Leaf}{lo hi:Option Leaf}{x}(h:jps par rd ti n l lo hi=some x):jps par bL ti n l lo hi=some x:=by
 unfold jps at h ⊢;split at h
 .exact h
 .split at h
  .split at h
   .rename_i hk;rw[hle.live hk];exact h
   .simp at h
  .split at h
   .rename_i hk;rw[hle.live hk];dsimp only;split at h
    .rename_i bG;rw[if_pos bG];split at h
     .split at h
      .rename_i hp;rw[if_pos hp];exact h
      .rename_i hp;rw[if_neg hp];split at h
       .rename_i hl;rw[if_pos hl];split at h
        .rename_i hf;rw[if_pos (hle.free hf)];exact h
        .simp at h
       .rename_i hl;rw[if_neg hl];exact h
     .simp at h
    .simp at h
   .simp at h
 .simp at h
theorem jwn{rd bL rdf fR:Nat->BS}(hle:RdLe rd bL)(eY:RdLe rdf fR){t:Option TyI}{rl:Bool}{c:Cel}{x}(h:yl rd rdf t rl c=some x):yl bL fR t rl c=some x:=by
 unfold yl at h ⊢;split at h
 .split at h
  .rename_i hk;rw[hle.live hk];dsimp only;split at h
   .rename_i ht;rw[Fg eY _ ht];exact h
   .simp at h
  .rename_i hk;rw[hle.live hk];dsimp only;split at h
   .rename_i ht;rw[Fg eY _ ht];exact h
   .simp at h
  .simp at h
 .exact h
 .exact h
 .split at h
  .split at h
   .rename_i hk;rw[hle.live hk];exact h
   .simp at h
  .split at h
   .rename_i hk;rw[eY.live hk];exact h
   .simp at h
 .split at h
  .split at h
   .split at h
    .rename_i hd;rw[IH eY hd];exact h
    .simp at h
   .simp at h
  .simp at h
theorem IJ{rd bL rdf fR:Nat->BS}(hle:RdLe rd bL)(eY:RdLe rdf fR){T:Nat->Option TyI}:∀(cs:List Cel){ts:List Nat}{ms:List Bool}{x},qW rd rdf T ts ms cs=some x->qW bL fR T ts ms cs=some x
 |[],_,_,_,h=>h
 |c::cs,ts,ms,x,h=>by
  simp only[qW]at h ⊢;split at h
  .rename_i ha;rw[jwn hle eY ha];dsimp only;split at h
   .rename_i hr;rw[IJ hle eY cs hr];exact h
   .simp at h
  .simp at h
theorem jxM{rd bL rdf fR:Nat->BS}(hle:RdLe rd bL)(eY:RdLe rdf fR){n m:Nat}{us:Ups}{fs:List Bk}{os:List Out}{x}(h:mkHd rd rdf n us fs m os=some x):mkHd bL fR n us fs m os=some x:=by
 unfold mkHd at h ⊢;split at h
 .split at h
  .split at h
   .rename_i hf;simp only[jb]at hf;rw[if_pos (by simp only[jb];exact⟨hle.free hf.1,eY.isLive hf.2⟩)];exact h
   .simp at h
  .simp at h
 .simp at h
theorem QS{rd bL rdf fR:Nat->BS}(hle:RdLe rd bL)(eY:RdLe rdf fR){n:Nat}{us:Ups}{fs:List Bk}{r:Ret}{x}(h:rM rd rdf n us fs r=some x):rM bL fR n us fs r=some x:=by
 unfold rM at h ⊢;split at h
 .exact jxM hle eY h
 .split at h
  .split at h
   .split at h
    .rename_i hf;rw[if_pos (jx.2 λe he=>hle.free (jx.1 hf e he))];exact h
    .simp at h
   .simp at h
  .simp at h
inductive ActLe:Act->Act->Prop
 |val (iB:Bool) (s:Slot) (u:Ups):ActLe (.val iB s u) (.val iB s u)
 |call (f:Nat) (args:List Arg) (mk mk':Ret->Option (Slot×Ups)):(∀r x,mk r=some x->mk' r=some x)->ActLe (.call f args mk) (.call f args mk')
theorem ActLe.refl(x:Act):ActLe x x:=by cases x with
 |val iB s u=>exact .val iB s u
 |call f args mk=>exact .call f args mk mk λ_ _ h=>h
theorem QT{x y:Option Leaf}(h:∀z,x=some z->y=some z){r:Act}(hr:lQ x=some r):lQ y=some r:=by
 cases x with
 |none=>simp[lQ]at hr
 |some z=>rw[h z rfl];exact hr
theorem jxN{x y:Option (Bool×Leaf)}(h:∀z,x=some z->y=some z){r:Act}(hr:oChk x=some r):oChk y=some r:=by
 cases x with
 |none=>simp[oChk]at hr
 |some z=>rw[h z rfl];exact hr
theorem QU{rd bL:Nat->BS}(hle:RdLe rd bL){t:Nat}{k v:Ty}{x y:Leaf}{z}(h:mapC rd t k v x y=some z):mapC bL t k v x y=some z:=by
 unfold mapC at h ⊢;split at h
 .split at h
  .rename_i hb;simp only[hle.live hb];exact h
  .simp at h
 .simp at h
theorem QV{E:Env}{ev:Operand->Slot}{rd bL:Nat->BS}(kK:RdLe rd bL){act:List (Nat×Bool)}{o:Oper}{A:Act}(h:dv E ev rd act o=some A):∃A',dv E ev bL act o=some A'/\ActLe A A':=by
 have hle:=kK.msk;have eY:=hle.rdf E.np;have same:dv E ev bL act o=some A->∃A',dv E ev bL act o=some A'/\ActLe A A':=λh=>⟨A,h,.refl A⟩;obtain⟨dst,op,type,pos,after,guard⟩:=o;cases op
 case alloc t=>
  refine same ?_;simp only[dv]at h ⊢;split at h
  .split at h
   .rename_i hf;simp only[hle.free hf,if_true];exact h
   .simp at h
  .simp at h
 case box t x=>
  refine same ?_;simp only[dv]at h ⊢;split at h
  .rename_i hf;simp only[hle.free hf,if_true];exact h
  .simp at h
 case build t ps=>
  refine same ?_;simp only[dv]at h ⊢;split at h
  .split at h
   .split at h
    .rename_i hi;simp only[hi,if_true];exact h
    rename_i hi;rw[if_neg hi];split at h
    .rename_i hb;rw[II eY _ _ hb];exact h
    .simp at h
   .exact h
   .simp at h
  .simp at h
 case buildSlice t n ps=>
  refine same ?_;simp only[dv]at h ⊢;split at h
  .split at h
   .split at h
    .simp at h
    .rename_i hn;simp only[hn,za];split at h
     .rename_i hb;rw[II eY _ _ hb];dsimp only;split at h
      .rename_i hf;simp only[hle.free hf,if_true];exact h
      .simp at h
     .simp at h
   .simp at h
  .simp at h
 case load t x=>
  refine same ?_;simp only[dv]at h ⊢;split at h
  .split at h
   .rename_i pD;split at h
    .rename_i hg;rw[jtS hle pD];dsimp only;rw[QP eY _ hg];exact h
    .simp at h
   .rename_i pD;cases tL:nf (mskM rd) _ (lf ((ev x).cel act)) with
    |none=>rw[tL]at h;simp[oCel]at h
    |some c=>rw[jtT hle pD tL,jwl hle tL];rw[tL]at h;exact h
  .simp at h
 case store t x y=>
  refine same ?_;simp only[dv]at h ⊢;split at h
  .split at h
   .rename_i hs;rw[jtV hle eY hs];exact h
   .simp at h
  .simp at h
 case nilCheck x=>
  refine same ?_;simp only[dv]at h ⊢;split at h
  .split at h
   .rename_i hl;simp only[hle.isLive hl,if_true];exact h
   .simp at h
  .split at h
   .rename_i hl;simp only[hle.isLive hl,if_true];exact h
   .simp at h
  .exact h
  .simp at h
 case makeFunc fn first captured=>
  refine same ?_;cases fn with
  |func f=>
   simp only[dv]at h ⊢;split at h
   .rename_i hf;simp only[hf,if_true];split at h
    .rename_i px;simp only[px,if_true];exact h
    .rename_i px;simp only[px];split at h
     .rename_i hc;rw[QR eY _ hc];exact h
     .simp at h
   .simp at h
  |_=>simp[dv]at h
 case fieldAddr t x i=>
  refine same ?_;simp only[dv]at h ⊢;split at h
  .exact QT (λz hz=>jtQ hle hz) h
  .simp at h
 case indexAddr t x i=>
  refine same ?_;simp only[dv]at h ⊢;split at h
  .exact jxN (λz hz=>jtR hle hz) h
  .simp at h
 case call c=>
  simp only[dv]at h ⊢;cases hc:c.callee with
  |invoke r m=>simp[hc]at h
  |value f=>
   simp only[hc]at h ⊢;split at h
   .split at h
    .rename_i ha;rw[IJ kK eY _ ha];dsimp only;split at h
     .rename_i hb;simp only[hb,if_true];simp only[j4]at h;subst h;exact⟨_,rfl,.call _ _ _ _ λr x hx=>QS hle eY hx⟩
     .simp at h
    .simp at h
   .split at h
    .rename_i ha;rw[IJ kK eY _ ha];dsimp only;split at h
     .rename_i hb;simp only[hb,if_true];simp only[j4]at h;subst h;exact⟨_,rfl,.call _ _ _ _ λr x hx=>QS hle eY hx⟩
     .simp at h
    .simp at h
   .simp at h
  |builtin b=>
   simp only[hc]at h ⊢;cases b
   case len=>
    refine⟨A,?_,.refl A⟩;dsimp only at h ⊢;split at h
    .split at h
     .exact QT (λz hz=>jxK hle hz) h
     .simp at h
    .simp at h
   case append=>
    refine⟨A,?_,.refl A⟩;dsimp only at h ⊢;split at h
    .split at h
     .rename_i ht;rw[if_pos ht];split at h
      .split at h
       .rename_i bG;split at h
        .rename_i h1 h2;rw[jxL eY h1,QQ hle h2];dsimp only;split at h
         .rename_i hf;simp only[hle.free hf,if_true];exact h
         .simp at h
        .simp at h
       .simp at h
      .simp at h
     .simp at h
    .simp at h
   case copy=>
    refine⟨A,?_,.refl A⟩;dsimp only at h ⊢;split at h
    .split at h
     .rename_i ht;rw[if_pos ht];split at h
      .split at h
       .rename_i hq;rw[jwm hle hq];exact h
       .simp at h
      .simp at h
     .simp at h
    .simp at h
   case clear=>
    refine⟨A,?_,.refl A⟩;dsimp only at h ⊢;split at h
    .split at h
     .split at h
      .rename_i hq;rw[jtU hle hq];exact h
      .simp at h
     .simp at h
    .simp at h
   all_goals exact⟨A,h,.refl A⟩
 case slice t x lo hi mx=>
  refine same ?_;cases mx with
  |some m=>simp[dv]at h
  |none=>
   simp only[dv]at h ⊢;split at h
   .split at h
    .rename_i hq;rw[jtW hle hq];exact h
    .simp at h
   .simp at h
 case makeMap t x=>
  refine same ?_;cases x with
  |some m=>simp[dv]at h
  |none=>
   simp only[dv]at h ⊢;split at h
   .split at h
    .rename_i hf;simp only[hle.free hf,if_true];exact h
    .simp at h
   .simp at h
 case lookup t x i ok=>
  refine same ?_;simp only[dv]at h ⊢;split at h
  .split at h
   .rename_i hq;rw[QU kK hq];exact h
   .simp at h
  .simp at h
 case mapUpdate t x i y=>
  refine same ?_;simp only[dv]at h ⊢;split at h
  .split at h
   .rename_i hq hd;rw[QU kK hq,IH eY hd];exact h
   .simp at h
  .simp at h
 all_goals exact⟨A,h,.refl A⟩
section
variable{N:NT}{np:Nat}{S0:aP}{w0:World}{refs:Refs}{σ:St}{a:Go.Act}{w:World}{S:aP}{γ:Nat->Value}
def CFun(C:Nat->List Arg->(R:Type)->(Ret->Option R)->Option R):Prop:=
 ∀f args,∃o:Option Ret,∀(R:Type)(k:Ret->Option R),C f args R k=o.bind k
theorem QW{E:Env}{ev rq:Operand->Slot}{rd:Nat->BS}{act:List (Nat×Bool)}{o:Oper}(h:∀x∈o.op.operands,ev x=rq x):dv E ev rd act o=dv E rq rd act o:=by
 have um:∀ps:Array (Nat×Operand),(∀x∈ps.toList.map (·.2),ev x=rq x)->
   (ps.toList.map λp=>(p.1,(ev p.2).cel act))=(ps.toList.map λp=>(p.1,(rq p.2).cel act)):=λps hp=>
  List.map_congr_left λp hm=>by simp only[hp p.2 (ka.2 ⟨p,hm,rfl⟩)]
 have args:∀ps:Array Operand,(∀x∈ps,ev x=rq x)->(ps.toList.map λp=>(ev p).cel act)=(ps.toList.map λp=>(rq p).cel act):=λps hp=>
  List.map_congr_left λp hm=>by rw[hp p (by simpa using hm)]
 obtain⟨dst,op,type,pos,after,guard⟩:=o;cases op<;>simp only[Op.operands]at h<;>simp only[dv]
 case build t ps=>rw[um ps λx hx=>h x (by simpa using hx)]
 case buildSlice t n ps=>rw[um ps λx hx=>h x (by simpa using hx)]
 case makeFunc fn first captured=>
  have e:=args captured λx hx=>h x (by simp[hx]);cases fn with
  |func f=>simp only[e]
  |_=>rfl
 case call c=>
  have ha:=args c.args (λx hx=>h x (by simp[Call.operands,hx]));have nF:∀x∈c.args.toList,ev x=rq x:=λx hx=>h x (by simp[Call.operands];right;simpa using hx);simp only[ha];cases hc:c.callee with
  |value f=>have hf:ev f=rq f:=h f (by simp[Call.operands,hc]);simp only[hf]
  |invoke r m=>rfl
  |builtin b=>
   cases b<;>simp only
   case len=>
    split
    .rename_i x t fY ny;have:=nF x (by rw[fY];simp);simp only[this]
    .rfl
   case append=>
    split
    .rename_i t t' s x ny fY;have e1:=nF s (by rw[fY];simp);have e2:=nF x (by rw[fY];simp);simp only[e1,e2]
    .rfl
   case copy=>
    split
    .rename_i t t' s x ny fY;have e1:=nF s (by rw[fY];simp);have e2:=nF x (by rw[fY];simp);simp only[e1,e2]
    .rfl
   case clear=>
    split
    .rename_i t x ny fY;have e1:=nF x (by rw[fY];simp);simp only[e1]
    .rfl
 case slice t x lo hi mx=>
  have e1:=h x (by simp)
  have eo:∀y:Option Operand,(∀z,y=some z->ev z=rq z)->(y.map λx=>lf ((ev x).cel act))=(y.map λx=>lf ((rq x).cel act)):=by
   intro y hy;cases y with
   |none=>rfl
   |some z=>simp only[ky,hy z rfl]
  have e2:=eo lo (λz hz=>h z (by simp[hz]));have e3:=eo hi (λz hz=>h z (by simp[hz]));cases mx with
  |some m=>rfl
  |none=>simp only[e1,e2,e3]
 case makeMap t x=>cases x<;>rfl
 all_goals (first|rfl|(simp_all;done))
def ShEq:BS->BS->Prop
 |.live (.cell _ _),.live (.cell _ _)=>True
 |.live (.lst e a xs _),.live (.lst e' a' cI _)=>e=e'/\a=a'/\xs.length=cI.length
 |.live (.arr n a _),.live (.arr n' a' _)=>n=n'/\a=a'
 |.free,.free=>True
 |.gone,.gone=>True
 |_,_=>False
theorem ShEq.refl:∀b:BS,ShEq b b
 |.live (.cell _ _)=>trivial
 |.live (.lst _ _ _ _)=>⟨rfl,rfl,rfl⟩
 |.live (.arr _ _ _)=>⟨rfl,rfl⟩
 |.free=>trivial
 |.gone=>trivial
theorem ShEq.symm{b c:BS}(h:ShEq b c):ShEq c b:=by
 cases b with
 |free=>cases c<;>simp_all[ShEq]
 |gone=>cases c<;>simp_all[ShEq]
 |live b=>
  cases c with
  |free=>cases b<;>simp[ShEq]at h
  |gone=>cases b<;>simp[ShEq]at h
  |live c=>
   cases b<;>cases c<;>simp only[ShEq]at h ⊢
   .exact⟨h.1.symm,h.2.1.symm,h.2.2.symm⟩
   .exact⟨h.1.symm,h.2.symm⟩
theorem ShEq.trans{b c d:BS}(h:ShEq b c)(h':ShEq c d):ShEq b d:=by
 cases b with
 |free=>cases c with
  |free=>exact h'
  |gone=>simp[ShEq]at h
  |live c=>cases c<;>simp[ShEq]at h
 |gone=>cases c with
  |gone=>exact h'
  |free=>simp[ShEq]at h
  |live c=>cases c<;>simp[ShEq]at h
 |live b=>cases c with
  |free=>cases b<;>simp[ShEq]at h
  |gone=>cases b<;>simp[ShEq]at h
  |live c=>cases d with
   |free=>cases c<;>simp[ShEq]at h'
   |gone=>cases c<;>simp[ShEq]at h'
   |live d=>
    cases b<;>cases c<;>simp only[ShEq]at h<;>cases d<;>simp only[ShEq]at h' ⊢
    .exact⟨h.1.trans h'.1,h.2.1.trans h'.2.1,h.2.2.trans h'.2.2⟩
    .exact⟨h.1.trans h'.1,h.2.trans h'.2⟩
theorem ShEq.mask{rd bL:Nat->BS}{M:List Nat}(h:∀k,M.contains k=false->ShEq (rd k) (bL k))(k:Nat):ShEq (gY M rd k) (gY M bL k):=by
 unfold gY;split
 .trivial
 .rename_i hc;exact h k (by simpa using hc)
theorem Fh{b c:BS}(h:ShEq b c):isLive b=isLive c:=by
 cases b with
 |free=>cases c<;>simp_all[ShEq,isLive]
 |gone=>cases c<;>simp_all[ShEq,isLive]
 |live b=>cases c with
  |free=>cases b<;>simp[ShEq]at h
  |gone=>cases b<;>simp[ShEq]at h
  |live c=>rfl
theorem jxO{rd bL:Nat->BS}(h:∀k,ShEq (rd k) (bL k))(ti:TyI)(l i:Leaf):rK rd ti l i=rK bL ti l i:=by
 unfold rK;split
 .rename_i k _ _;have hk:=h k;generalize rd k=b at hk;generalize bL k=c at hk;cases b with
  |free=>cases c<;>simp_all[ShEq]
  |gone=>cases c<;>simp_all[ShEq]
  |live b=>cases c with
   |free=>cases b<;>simp[ShEq]at hk
   |gone=>cases b<;>simp[ShEq]at hk
   |live c=>
    cases b with
    |lst e a xs f=>cases c with
     |lst e' a' cI f'=>simp only[ShEq]at hk;obtain⟨rfl,rfl,hl⟩:=hk;dsimp only;rw[hl]
     |cell _ _=>simp[ShEq]at hk
     |arr _ _ _=>simp[ShEq]at hk
    |cell _ _=>cases c<;>first|rfl|(simp[ShEq]at hk)
    |arr _ _ _=>cases c<;>first|rfl|(simp[ShEq]at hk)
 .rfl
 .rename_i k _ _;have hk:=h k;generalize rd k=b at hk;generalize bL k=c at hk;cases b with
  |free=>cases c<;>simp_all[ShEq]
  |gone=>cases c<;>simp_all[ShEq]
  |live b=>cases c with
   |free=>cases b<;>simp[ShEq]at hk
   |gone=>cases b<;>simp[ShEq]at hk
   |live c=>
    cases b with
    |arr n a xs=>cases c with
     |arr n' a' cI=>simp only[ShEq]at hk;obtain⟨rfl,rfl⟩:=hk;rfl
     |cell _ _=>simp[ShEq]at hk
     |lst _ _ _ _=>simp[ShEq]at hk
    |cell _ _=>cases c<;>first|rfl|(simp[ShEq]at hk)
    |lst _ _ _ _=>cases c<;>first|rfl|(simp[ShEq]at hk)
 .rename_i k _ _ _;have hk:=h k;generalize rd k=b at hk;generalize bL k=c at hk;cases b with
  |free=>cases c<;>simp_all[ShEq]
  |gone=>cases c<;>simp_all[ShEq]
  |live b=>cases c with
   |free=>cases b<;>simp[ShEq]at hk
   |gone=>cases b<;>simp[ShEq]at hk
   |live c=>
    cases b with
    |lst e a xs f=>cases c with
     |lst e' a' cI f'=>simp only[ShEq]at hk;obtain⟨rfl,rfl,hl⟩:=hk;dsimp only;rw[hl]
     |cell _ _=>simp[ShEq]at hk
     |arr _ _ _=>simp[ShEq]at hk
    |cell _ _=>cases c<;>first|rfl|(simp[ShEq]at hk)
    |arr _ _ _=>cases c<;>first|rfl|(simp[ShEq]at hk)
 .rfl
theorem jxP{rd bL:Nat->BS}(h:∀k,ShEq (rd k) (bL k))(ti:TyI)(i:Nat)(l:Leaf):oc rd ti i l=oc bL ti i l:=by
 unfold oc;split
 .rw[Fh (h _)]
 .rw[Fh (h _)]
 .rfl
 .rfl
theorem ShEq.msk{rd bL:Nat->BS}{k:Nat}(h:ShEq (rd k) (bL k)):ShEq (mskM rd k) (mskM bL k):=by
 unfold mskM;generalize rd k=a at h;generalize bL k=b at h;cases a with
 |free=>cases b<;>simp_all[ShEq]
 |gone=>cases b<;>simp_all[ShEq]
 |live a=>
  cases b with
  |free=>cases a<;>simp[ShEq]at h
  |gone=>cases a<;>simp[ShEq]at h
  |live b=>
   cases a<;>cases b<;>simp only[ShEq]at h<;>dsimp only
   .trivial
   .obtain⟨rfl,rfl,h3⟩:=h;rename_i e _ _ _ _ _;cases isM e
    .exact⟨rfl,rfl,h3⟩
    .trivial
   .exact h
theorem jAa{E:Env}{ev:Operand->Slot}{rd bL:Nat->BS}{act:List (Nat×Bool)}{o:Oper}(ha:oV o=true)(h:∀k,ShEq (rd k) (bL k)):dv E ev rd act o=dv E ev bL act o:=by
 have h:∀k,ShEq (mskM rd k) (mskM bL k):=λk=>(h k).msk;obtain⟨dst,op,type,pos,after,guard⟩:=o;cases op<;>simp only[oV,k9]at ha
 .simp only[dv];split
  .rw[Fh (h _)]
  .rw[Fh (h _)]
  .rfl
  .rfl
 .simp only[dv];split
  .rw[jxP h]
  .rfl
 .simp only[dv];split
  .rw[jxO h]
  .rfl
theorem QX:∀(u:Ups)(σ:St),(∀e∈u,ShEq (σ.bx e.1) e.2)->∀k,ShEq (σ.bx k) ((σ.upd u).bx k)
 |[],σ,_,k=>ShEq.refl _
 |e::u,σ,h,k=>by
  have h0:∀k,ShEq (σ.bx k) ((σ.setB e.1 e.2).bx k):=by
   intro k;simp only[St.setB];split
   .rename_i hk;rw[hk];exact h e (by simp)
   .exact ShEq.refl _
  have h1:=QX u (σ.setB e.1 e.2) (λx hx=>(h0 x.1).symm.trans (h x (by simp[hx]))) k;exact(h0 k).trans h1
def UpSh(rd:Nat->BS)(u:Ups):Prop:=∀e∈u,ShEq (rd e.1) e.2/\isLive e.2=true
theorem jAb{rd:Nat->BS}{t:Ty}{l:Leaf}{v:t.den}{u:Ups}(h:ib rd t l=some (v,u)):UpSh rd u:=by
 unfold ib at h;split at h
 .split at h
  .simp only[j4,j8]at h;rw[<-h.2];intro e he;simp at he
  .simp at h
 .split at h
  .simp only[j4,j8]at h;rw[<-h.2];intro e he;simp at he
  .simp at h
 .split at h
  .rename_i hk;split at h
   .simp only[j4,j8]at h;rw[<-h.2];intro e he;simp only[kn]at he;subst he;dsimp only;rw[hk];exact⟨⟨rfl,rfl,rfl⟩,rfl⟩
   .simp at h
  .simp at h
 .simp at h
theorem UpSh.app{rd:Nat->BS}{u v:Ups}(h:UpSh rd u)(h':UpSh rd v):UpSh rd (u++v):=by
 intro e he;rcases jn.1 he with he|he
 .exact h e he
 .exact h' e he
theorem QY{rd:Nat->BS}:∀(t:Ty){ls:List Leaf}{v:t.den}{r:List Leaf}{u:Ups},gath rd t ls=some (v,r,u)->UpSh rd u:=by
 intro t;induction t with
 |unit=>intro ls v r u h;simp only[gath,j4,j8]at h;rw[<-h.2.2];intro e he;simp at he
 |wrap a ih=>
  intro ls v r u h;simp only[gath]at h;split at h
  .rename_i hg;simp only[j4,j8]at h;rw[<-h.2.2];exact ih hg
  .simp at h
 |pair a b vV rW=>
  intro ls v r u h;simp only[gath]at h;split at h
  .rename_i hg;split at h
   .rename_i nw;simp only[j4,j8]at h;rw[<-h.2.2];exact(vV hg).app (rW nw)
   .simp at h
  .simp at h
 |arr n a ih=>intro ls v r u h;simp[gath]at h
 |_=>
  intro ls v r u h;cases ls with
  |nil=>simp[gath]at h
  |cons l ls=>
   simp only[gath]at h;split at h
   .rename_i hl;simp only[j4,j8]at h;rw[<-h.2.2];exact jAb hl
   .simp at h
theorem jxR{rd rdf:Nat->BS}(bH:RdLe rdf rd){n:Nat}{c:Cel}{l:Leaf}{u:Ups}(h:tw rd rdf n c l=some u):UpSh rd u:=by
 have one:∀(k:Nat)(b b':Bx),rd k = .live b->ShEq (.live b) (.live b')->UpSh rd [(k,.live b')]:=by intro k b b' hk hs e he;simp only[kn]at he;subst he;exact⟨by rw[hk];exact hs,rfl⟩
 have lift:∀u,UpSh rdf u->UpSh rd u:=by
  intro u hu e he;obtain⟨h1,h2⟩:=hu e he;rcases bH e.1 with hq|hq
  .rw[hq]at h1;exact⟨h1,h2⟩
  .rw[hq]at h1;cases h3:e.2 with
   |free=>rw[h3]at h2;simp[isLive]at h2
   |gone=>rw[h3]at h2;simp[isLive]at h2
   |live b=>rw[h3]at h1;cases b<;>simp[ShEq]at h1
 unfold tw at h;split at h
 .split at h
  .rename_i hk;split at h
   .split at h
    .simp only[j4]at h;subst h;exact one _ _ _ hk trivial
    .simp at h
   .simp at h
  .rename_i hk;split at h
   .split at h
    .split at h
     .split at h
      .simp only[j4]at h;subst h;exact one _ _ _ hk ⟨rfl,rfl⟩
      .simp at h
     .simp at h
    .simp at h
   .simp at h
  .simp at h
 .split at h
  .rename_i hk;split at h
   .split at h
    .split at h
     .rename_i hg;split at h
      .simp at h
      .simp only[j4]at h;subst h;exact(lift _ (QY _ hg)).app (one _ _ _ hk ⟨rfl,rfl,by simp⟩)
     .simp at h
    .simp at h
   .simp at h
  .rename_i hk;split at h
   .split at h
    .split at h
     .rename_i hg;split at h
      .simp at h
      .simp only[j4]at h;subst h;exact(lift _ (QY _ hg)).app (one _ _ _ hk ⟨rfl,rfl⟩)
     .simp at h
    .simp at h
   .simp at h
  .simp at h
 .simp at h
theorem jD3(np:Nat)(rd:Nat->BS):RdLe (λk=>if parK np k then .gone else rd k) rd:=by
 intro k;dsimp only;split
 .exact .inr rfl
 .exact .inl rfl
theorem UpSh.le{rd bL:Nat->BS}(hle:RdLe rd bL){u:Ups}(h:UpSh rd u):UpSh bL u:=by
 intro e he;obtain⟨h1,h2⟩:=h e he;rcases hle e.1 with hq|hq
 .rw[hq]at h1;exact⟨h1,h2⟩
 .rw[hq]at h1;cases h3:e.2 with
  |free=>rw[h3]at h2;simp[isLive]at h2
  |gone=>rw[h3]at h2;simp[isLive]at h2
  |live b=>rw[h3]at h1;cases b<;>simp[ShEq]at h1
theorem jC1(rd:Nat->BS):RdLe (mskM rd) rd:=λk=>PB k
theorem jtX{E:Env}{ev:Operand->Slot}{rd:Nat->BS}{act:List (Nat×Bool)}{o:Oper}(ho:rN o=true){iB:Bool}{s:Slot}{u:Ups}(h:dv E ev rd act o=some (.val iB s u)):UpSh rd u:=by
 obtain⟨dst,op,type,pos,after,guard⟩:=o;cases op<;>simp only[rN,k9]at ho;simp only[dv]at h;split at h
 .split at h
  .rename_i hs;simp only[j4,Act.val.injEq]at h;rw[<-h.2.2];exact(jxR (jD3 E.np (mskM rd)) hs).le (jC1 rd)
  .simp at h
 .simp at h
theorem jnH{E:Env}{ev:Operand->Slot}{rd:Nat->BS}{act:List (Nat×Bool)}{o:Oper}(ho:rN o=true){f:Nat}{args:List Arg}{mk:Ret->Option (Slot×Ups)}:dv E ev rd act o≠some (.call f args mk):=by
 obtain⟨dst,op,type,pos,after,guard⟩:=o;cases op<;>simp only[rN,k9]at ho;intro h;simp only[dv]at h;split at h
 .split at h
  .simp at h
  .simp at h
 .simp at h
theorem UpSh.unmask{rd:Nat->BS}{M:List Nat}{u:Ups}(h:UpSh (gY M rd) u):UpSh rd u:=by
 intro e he;obtain⟨h1,h2⟩:=h e he;rcases IG M rd e.1 with hq|hq
 .rw[hq]at h1;exact⟨h1,h2⟩
 .rw[hq]at h1;cases h3:e.2 with
  |free=>rw[h3]at h2;simp[isLive]at h2
  |gone=>rw[h3]at h2;simp[isLive]at h2
  |live b=>rw[h3]at h1;cases b<;>simp[ShEq]at h1
end
section
variable{N:NT}{np:Nat}{S0:aP}{w0:World}{refs:Refs}{σ:St}{a:Go.Act}{w:World}{S:aP}{γ:Nat->Value}
inductive Bef(ops:Array Oper):Nat->Nat->Prop
 |dep {i j:Nat} {o:Oper}:ops[i]? = some o->j∈ng o->Bef ops i j
 |trans {i j k:Nat}:Bef ops i j->Bef ops j k->Bef ops i k
structure DOkR(ops:Array Oper)(A:List (List Nat)):Prop where
 lt:∀i o,ops[i]? = some o->∀j∈ng o,j<i
 addr:∀i o,ops[i]? = some o->oV o=true->∀k,k∉A.getD i []
 dst:∀i j oi oj t,ops[i]? = some oi->ops[j]? = some oj->i≠j->oj.dst=some t->oi.dst≠some t/\(t∈oi.looksAt ops->Bef ops i j\/Bef ops j i)
 box:∀i j oi oj k,ops[i]? = some oi->ops[j]? = some oj->i≠j->k∈A.getD i []->k∈A.getD j []->Bef ops i j\/Bef ops j i
theorem DOkR.bef{ops:Array Oper}{A:List (List Nat)}(h:DOkR ops A){i j:Nat}(hb:Bef ops i j):j<i:=by
 induction hb with
 |dep ho hj=>exact h.lt _ _ ho _ hj
 |trans _ _ h1 h2=>omega
def ClOk(ops:Array Oper)(cl:List Nat):Prop:=∀i j,(cl.getD i 0).testBit j=true->Bef ops i j
theorem QZ{ops:Array Oper}{cls:List Nat}(hc:ClOk ops cls){i:Nat}{o:Oper}(ho:ops[i]? = some o):∀(l:List Nat)(m:Nat),(∀j∈l,j∈ng o)->(∀j,m.testBit j=true->Bef ops i j)->
  ∀j,(l.foldl (λm j=>m|||(2^j|||cls.getD j 0)) m).testBit j=true->Bef ops i j
 |[],m,_,hm,j,h=>hm j h
 |x::l,m,hl,hm,j,h=>by
  refine QZ hc ho l _ (λj hj=>hl j (by simp[hj])) (λj hj=>?_) j h;simp only[Nat.testBit_or,vb,Nat.testBit_two_pow,jq]at hj;rcases hj with hj|hj|hj
  .exact hm j hj
  .subst hj;exact .dep ho (hl x (by simp))
  .exact .trans (.dep ho (hl x (by simp))) (hc x j hj)
theorem Q0{ops:Array Oper}:∀(l:List Oper)(cls:List Nat),ClOk ops cls->(∀k o,l[k]? = some o->ops[cls.length+k]? = some o)->ClOk ops (AP l cls)
 |[],cls,hc,_=>hc
 |o::os,cls,hc,hl=>by
  have ho:ops[cls.length]? = some o:=by have:=hl 0 o rfl;simpa using this
  refine Q0 os _ ?_ (λk x hk=>by
   have:=hl (k+1) x (by simpa using hk);rw[ja,kv];rwa[show cls.length+1+k=cls.length+(k+1) by omega])
  intro i j dP;rcases Nat.lt_trichotomy i cls.length with hi|hi|hi
  .rw[List.getD_eq_getElem?_getD,List.getElem?_append_left hi,<-List.getD_eq_getElem?_getD]at dP;exact hc i j dP
  .subst hi;rw[List.getD_eq_getElem?_getD,jy (jl _),Nat.sub_self]at dP;simp only[List.getElem?_cons_zero,zb]at dP;exact QZ hc ho (ng o) 0 (λ_ h=>h) (λj h=>by simp at h) j dP
  .rw[List.getD_eq_getElem?_getD,qt (by simp;omega)]at dP;simp at dP
theorem IK{ops:Array Oper}{cl:List Nat}(hc:ClOk ops cl){i j:Nat}(h:AQ cl i j=true):i=j\/Bef ops i j\/Bef ops j i:=by
 simp only[AQ,vb,zm]at h;rcases h with (h|h)|h
 .exact .inl h
 .exact .inr (.inl (hc i j h))
 .exact .inr (.inr (hc j i h))
theorem jtY{ops:Array Oper}{cl:List Nat}{A:List (List Nat)}(hc:ClOk ops cl)(bF:Pe ops cl A=true):DOkR ops A:=by
 have hz:∀{i:Nat}{o:Oper},ops[i]? = some o->(o,i)∈ops.toList.zipIdx:=by intro i o ho;rw[zg];exact⟨i,by rw[List.getElem?_zipIdx];simp[ho]⟩
 have nG:∀i k,k∈A.getD i []->A.isEmpty=false:=by
  intro i k hk;cases A with
  |nil=>simp at hk
  |cons _ _=>rfl
 have aB:∀{i:Nat}{o:Oper},ops[i]? = some o->(∀j∈ng o,j<i)/\(A.isEmpty || !oV o||(A.getD i []).isEmpty)=true/\∀j oj,ops[j]? = some oj->ED ops cl A i o j oj=true:=by intro i o ho;have:=jx.1 bF (o,i) (hz ho);simp only[jb]at this;exact⟨λj hj=>by simpa using jx.1 this.1.1 j hj,this.1.2,λj oj iK=>jx.1 this.2 (oj,j) (hz iK)⟩
 refine⟨λi o ho=>(aB ho).1,λi o ho kT k hk=>?_,λi j oi oj t hi hj dP ht=>?_,λi j oi oj k hi hj dP hk br=>?_⟩
 .have:=(aB ho).2.1;rw[nG i k hk,kT]at this;simp only[ji,vc,List.isEmpty_iff]at this;rw[this]at hk;simp at hk
 .have:=(aB hi).2.2 j oj hj;simp only[ED,ht,jb]at this;have h1:=this.1;simp only[vb,zm,dP,false_or,jb,bne_iff_ne,ne_eq,q7,qa,kp]at h1;refine⟨h1.1,λhm=>?_⟩;rcases h1.2 with h|h
  .exact absurd hm h
  .exact(IK hc h).resolve_left dP
 .have:=(aB hi).2.2 j oj hj;simp only[ED,jb]at this;have h2:=this.2;rw[nG i k hk]at h2;simp only[vc,vb]at h2;rcases h2 with h|h
  .exact(IK hc h).resolve_left dP
  .have:=jx.1 h k hk;simp only[qa,q7,kp]at this;exact absurd br this
theorem Q1{ops:Array Oper}{cl:List Nat}{A:List (List Nat)}(hc:ClOk ops cl){i:Nat}{oi:Oper}{k:Nat}(hm:(rO ops cl A i oi).contains k=false){j:Nat}{oj:Oper}(hj:ops[j]? = some oj)(hk:k∈A.getD j []) :
  i=j\/Bef ops i j\/Bef ops j i\/(oV oi=true/\rN oj=true):=by
 have hz:(oj,j)∈ops.toList.zipIdx:=by rw[zg];exact⟨j,by rw[List.getElem?_zipIdx];simp[hj]⟩
 have bq:A.isEmpty=false:=by
  cases A with
  |nil=>simp at hk
  |cons _ _=>rfl
 unfold rO at hm;rw[bq]at hm;simp only[k9,za,qa,kp,v6,not_exists,not_and]at hm;have:=hm (oj,j) hz;dsimp only at this;split at this
 .rename_i h;simp only[vb,jb]at h;rcases h with h|h
  .rcases IK hc h with h|h|h
   .exact .inl h
   .exact .inr (.inl h)
   .exact .inr (.inr (.inl h))
  .exact .inr (.inr (.inr h))
 .exact absurd hk this
inductive DStep(P:Program)(E:Env)(ops:Array Oper)(M Ai:List Nat)(o:Oper)(σ:St):St->Prop
 |skip (s:Nat) (wn v:Bool):nd ops o=some (s,wn)->σ.sl s = .one (.one (.d .bool v))->v≠wn->DStep P E ops M Ai o σ (σ.setD o.dst .und)
 |skipU (s:Nat) (wn:Bool):nd ops o=some (s,wn)->σ.sl s = .und->DStep P E ops M Ai o σ (σ.setD o.dst .und)
 |val (s:Slot) (u:Ups):(o.guard=none\/∃s wn,nd ops o=some (s,wn)/\σ.sl s = .one (.one (.d .bool wn)))->dv E σ.ev (gY M σ.bx) [] o=some (.val true s u)->(∀e∈u,e.1∈Ai)->
  DStep P E ops M Ai o σ ((σ.upd u).setD o.dst s)
 |call (f:Nat) (args:List Arg) (mk:Ret->Option (Slot×Ups)) (ret:Ret) (s:Slot) (u:Ups):(o.guard=none\/∃s wn,nd ops o=some (s,wn)/\σ.sl s = .one (.one (.d .bool wn)))->
  dv E σ.ev (gY M σ.bx) [] o=some (.call f args mk)->Fun P f->E3 P f args (λr=>r=ret)->mk ret=some (s,u)->(∀e∈u,e.1∈Ai)->DStep P E ops M Ai o σ ((σ.upd u).setD o.dst s)
theorem Q2{s:Nat}{x:Slot}(h:σ.sl s=x):σ.setS s x=σ:=by
 unfold St.setS
 have:(λj=>if j=s then x else σ.sl j)=σ.sl:=by
  funext j
  split
  .rename_i hj;subst hj;exact h.symm
  .rfl
 rw[this]
theorem Q3{u:Ups}{Ai:List Nat}(h:(u.all λe=>Ai.contains e.1)=true):∀e∈u,e.1∈Ai:=λe he=>by simpa using jx.1 h e he
theorem IL{P:Program}{E:Env}(hC:lI P E.C)(hF:CFun E.C){ops:Array Oper}{M Ai:List Nat}{o:Oper}{R:Type}{k:St->Option R}{r:R}
  (hg:o.guard=none\/∃s wn,nd ops o=some (s,wn)/\σ.sl s = .one (.one (.d .bool wn)))(h:runD E M Ai σ o k=some r):∃σ',DStep P E ops M Ai o σ σ'/\k σ'=some r:=by
 unfold runD at h;split at h
 .simp at h
 .rename_i iB s u ho;split at h
  .rename_i hb;cases iB with
   |false=>simp at h
   |true=>exact⟨_,.val s u hg ho (Q3 hb),h⟩
  .simp at h
 .rename_i f args mk ho;obtain⟨x,hx⟩:=hF f args;rw[hx]at h;cases x with
  |none=>simp at h
  |some ret=>
   simp only[j3]at h;obtain⟨hf,eM⟩:=hC f args Ret some ret (by rw[hx];rfl);split at h
   .rename_i s u bJ;split at h
    .rename_i hb
     exact⟨_,.call f args mk ret s u hg ho hf (by
      intro w S vals ha hn hS;refine(eM w S vals ha hn hS).mono ?_
      rintro e w' ⟨r',r5,rest⟩
      exact⟨r',by simpa using r5,rest⟩) bJ (Q3 hb),h⟩
    .simp at h
   .simp at h
theorem jC2{P:Program}{E:Env}(hC:lI P E.C)(hF:CFun E.C){ops:Array Oper}{M Ai:List Nat}{o:Oper}{R:Type}{k:St->Option R}{r:R}
  (h:AR E ops M Ai σ o k=some r):∃σ',DStep P E ops M Ai o σ σ'/\k σ'=some r:=by
 unfold AR at h;split at h
 .rename_i hg;exact IL hC hF (.inl hg) h
 .split at h
  .rename_i s wn hg;split at h
   .rename_i v hv;cases v with
    |true=>
     rw[j5,Q2 hv]at h;cases wn with
     |true=>exact IL hC hF (.inr ⟨s,true,hg,hv⟩) h
     |false=>exact⟨_,.skip s false true hg hv (by simp),h⟩
    |false=>
     rw[j6,Q2 hv]at h;cases wn with
     |false=>exact IL hC hF (.inr ⟨s,false,hg,hv⟩) h
     |true=>exact⟨_,.skip s true false hg hv (by simp),h⟩
   .rename_i hv;exact⟨_,.skipU s wn hg hv,h⟩
   .simp at h
  .simp at h
theorem Q4{P:Program}{E:Env}(hC:lI P E.C)(hF:CFun E.C){ops:Array Oper}{cl:List Nat}{A:List (List Nat)}{R:Type}{k:St->Option R}{r:R}:∀(n i:Nat)(σ:St),i+n=ops.size->yn E ops cl A (ops.toList.drop i) i σ k=some r->
  ∃τ:Nat->St,τ i=σ/\k (τ ops.size)=some r/\∀j o,i<=j->ops[j]? = some o->qY E.N o=true/\DStep P E ops (rO ops cl A j o) (A.getD j []) o (τ j) (τ (j+1))
 |0,i,σ,hi,h=>by
  rw[jf (by simp;omega)]at h;refine⟨λ_=>σ,rfl,h,λj o hj ho=>?_⟩;have:=(jk.1 ho).1;omega
 |n+1,i,σ,hi,h=>by
  have aA:i<ops.size:=by omega
  rw[jc (by simpa using aA)]at h;simp only[yn]at h;split at h
  .rename_i hd;obtain⟨σ1,hs,hk⟩:=jC2 (P:=P) hC hF h;obtain⟨τ1,h1,h2,h3⟩:=Q4 hC hF n (i+1) σ1 (by omega) hk;refine⟨λj=>if j=i then σ else τ1 j,by simp,?_,λj o hj ho=>?_⟩
   .simp only[show ops.size≠i by omega,za];exact h2
   .by_cases oF:j=i
    .subst oF;have wN:ops[j]? = some ops[j]:=js aA;rw[wN]at ho;simp only[j4]at ho;subst ho;refine⟨by simpa using hd,?_⟩;simp only[if_true,show j+1≠j by omega,za,h1];simpa using hs
    .simp only[oF,za,show j+1≠i by omega];exact h3 j o (by omega) ho
  .simp at h
theorem Rel.drawn(hR:Rel N np S0 w0 refs σ a w S γ)(n:Nat):Rel N np S0 w0 refs σ a { w with drawn:=n } S γ:=
 Rel.step (bx':=σ.bx) (γ':=γ) hR (λ_ _ h=>⟨h,rfl⟩) (.refl _ _) (λk b hb=>eF.keep (w:=w) (w':={ w with drawn:=n }) (λ_ _ h=>⟨h,rfl⟩) (.refl _ _) rfl (λ_ _=>⟨rfl,λ_=>Iff.rfl⟩) (hR.box k b hb))
  hR.own hR.apart hR.new hR.here hR.below hR.grow hR.os hR.tape hR.output (λ_ _ _ h=>⟨rfl,h⟩)
theorem D_wp{P:Program}{E:Env}(hT:cH P E.T)(hR:Rel E.N E.np S0 w0 refs σ a w S γ)(hc:dS σ){ops:Array Oper}{M Ai:List Nat}{i:Nat}{o:Oper}(ho:ops[i]? = some o)(hd:qY E.N o=true)
  {τ τ':St}(hs:DStep P E ops M Ai o τ τ')(fa:(∀k,gY M σ.bx k=gY M τ.bx k)\/(oV o=true/\∀k,ShEq (gY M σ.bx k) (gY M τ.bx k)))(pG:∀t,t∈o.looksAt ops->σ.sl t=τ.sl t){K:Go.Act->World->Prop}{Q:Exit->Go.Act->World->Prop}
  (hK:∀(s:Slot)(u:Ups)(a':Go.Act)(w':World)(S':aP)(γ':Nat->Value),τ'=(τ.upd u).setD o.dst s->(∀e∈u,e.1∈Ai)->Rel E.N E.np S0 w0 refs ((σ.upd u).setD o.dst s) a' w' S' γ'->dS ((σ.upd u).setD o.dst s)->K a' w') :
  wpOp P ops Q i K a w:=by
 have nt:=Iv hd
 have oG:∀x∈o.op.operands,σ.ev x=τ.ev x:=by
  intro x hx;cases x with
  |tmp t=>exact pG t (k5 _ (v7.2 ⟨.tmp t,by simpa using hx,rfl⟩))
  |_=>rfl
 have vZ:∀s wn,nd ops o=some (s,wn)->s∈o.looksAt ops:=by
  intro s wn hg;refine kj _ ?_;unfold nd at hg;split at hg
  .simp at hg
  .rename_i j w' Iw;split at hg
   .rename_i oj iK;split at hg
    .rename_i s' dx;simp only[j4,j8]at hg;simp[Iw,iK,dx,hg.1]
    .simp at hg
   .simp at hg
 have wO:∀s v,nd ops o≠none->s∈o.looksAt ops->τ.sl s = .one (.one (.d .bool v))->tm a s = .bool v:=by intro s v _ hm hv;have:=hR.slot s;rw[pG s hm,hv]at this;exact rb this
 have ba:dv E σ.ev (gY M σ.bx) [] o=dv E τ.ev (gY M τ.bx) [] o:=by
  rcases fa with fa|⟨kT,fa⟩
  .rw[show gY M σ.bx=gY M τ.bx from funext fa];exact QW oG
  .rw[jAa kT fa];exact QW oG
 have dy:∀(s:Slot)(u:Ups)(v:Value)(w':World)(S':aP)(γ':Nat->Value),τ'=(τ.upd u).setD o.dst s->(∀e∈u,e.1∈Ai)->Rel E.N E.np S0 w0 refs (σ.upd u) a w' S' γ'->
   gG S' w' γ' (σ.upd u).bx (tm a) s v->s.bare=true->K (a.put o.dst v) w':=by
  intro s u v w' S' γ' he hb df dx dT;obtain⟨h1,h2⟩:=QA df (QB hc) nt dx dT;exact hK s u _ w' S' γ' he hb h1 h2
 have uq:(o.guard=none\/∃s wn,nd ops o=some (s,wn)/\τ.sl s = .one (.one (.d .bool wn)))->Region.wanted o (yielded ops a.tmps)=true:=by
  rintro (hg|⟨s,wn,hg,hv⟩)
  .simp[Region.wanted,hg]
  .exact(Fc hg).2 (wO s wn (by rw[hg];simp) (vZ s wn hg) hv)
 unfold wpOp;simp only[ho];cases hs with
 |skip s wn v hg hv bq=>
  have hw:¬Region.wanted o (yielded ops a.tmps)=true:=λhw=>by
   have h1:=(Fc hg).1 hw;rw[wO s v (by rw[hg];simp) (vZ s wn hg) hv]at h1;exact bq (by simpa using h1)
  simp only[hw,za,k9];exact dy .und [] undef w S γ rfl (by simp) hR rfl rfl
 |skipU s wn hg hv=>
  have hu:tm a s=undef:=by have:=hR.slot s;rw[pG s (vZ s wn hg),hv]at this;exact this
  have hw:¬Region.wanted o (yielded ops a.tmps)=true:=λhw=>by
   have h1:=(Fc hg).1 hw;rw[hu]at h1;simp[undef]at h1
  simp only[hw,za,k9];exact dy .und [] undef w S γ rfl (by simp) hR rfl rfl
 |val s u hg bT hb=>
  simp only[uq hg,if_true];rw[<-ba]at bT;obtain⟨A',wP,hle⟩:=QV (IG M σ.bx) bT;cases hle;obtain⟨⟨v,w',S',γ',aS,df,dx⟩,dT⟩:=Iq hT hR (act:=[]) (λg hg=>by simp at hg) (λ_=> .inl rfl) wP;refine .inl ?_;unfold Oper.wp;rcases aS with aS|⟨aS,rfl⟩
  .rw[aS,Oper.upon_value];exact dy s u v w' S' γ' rfl hb df dx dT
  .rw[aS,Oper.upon_skip];exact dy s u undef w' S' γ' rfl hb df dx dT
 |call f args mk ret s u hg bT hf eM bJ hb=>
  simp only[uq hg,if_true];rw[<-ba]at bT;obtain⟨A',wP,hle⟩:=QV (IG M σ.bx) bT;cases hle with
  |call _ _ _ mk' gR=>
   have Cd:=gR _ _ bJ;obtain⟨vals,aS,mf,dT⟩:=Qx hR (act:=[]) (λg hg=>by simp at hg) (λ_=> .inl rfl) wP hf eM;refine .inl ?_;unfold Oper.wp;rw[aS,Oper.upon_enter];refine mf.mono ?_
   rintro e w' ⟨ret',rfl,aB⟩
   obtain⟨v,S',γ',rfl,df,dx⟩:=aB s u Cd;exact dy s u v w' S' γ' rfl hb df dx (dT _ s u Cd)
end
section
variable{S0:aP}{w0:World}{refs:Refs}{σ:St}{a:Go.Act}{w:World}{S:aP}{γ:Nat->Value}
theorem IM{o:Oper}{j:Nat}:j∈ng o↔∃e∈o.after,Region.binds .any e=true/\e.on=j:=by
 simp only[ng,v7];constructor
 .rintro⟨e,he,h⟩
  split at h
  .rename_i hb;simp only[j4]at h;exact⟨e,by simpa using he,hb,h⟩
  .simp at h
 .rintro⟨e,he,hb,h⟩
  exact⟨e,by simpa using he,by simp[hb,h]⟩
theorem jwo{ops:Array Oper}{ay:Array Bool}{i:Nat}(h:i∈Region.ready .any ops ay) :
  ay.getD i true=false/\∃o,ops[i]? = some o/\∀j∈ng o,ay.getD j false=true:=by
 obtain⟨h0,o,ho,h1⟩:=mem_ready.1 h;exact⟨h0,o,ho,λj hj=>by obtain⟨e,he,hb,rfl⟩:=IM.1 hj;exact h1 e he hb⟩
def sq(P:Program)(E:Env)(ops:Array Oper)(cl:List Nat)(A:List (List Nat))(τ:Nat->St):Prop:=
 ∀j o,ops[j]? = some o->qY E.N o=true/\DStep P E ops (rO ops cl A j o) (A.getD j []) o (τ j) (τ (j+1))
theorem Fi:∀(u:Ups)(σ:St)(t:Nat),(σ.upd u).sl t=σ.sl t
 |[],_,_=>rfl
 |e::u,σ,t=>Fi u (σ.setB e.1 e.2) t
theorem wQ(σ:St)(d:Option Nat)(s:Slot):(σ.setD d s).bx=σ.bx:=by cases d<;>rfl
theorem IP{σ:St}{d:Option Nat}{s:Slot}{t:Nat}(h:d≠some t):(σ.setD d s).sl t=σ.sl t:=by
 cases d with
 |none=>rfl
 |some d=>have:t≠d:=λe=>h (by rw[e]);simp[St.setD,St.setS,this]
theorem Q5{σ:St}{s:Slot}{t:Nat}:(σ.setD (some t) s).sl t=s:=by simp[St.setD,St.setS]
theorem Fj:∀(u:Ups)(σ:St)(k:Nat),(∀e∈u,e.1≠k)->(σ.upd u).bx k=σ.bx k
 |[],_,_,_=>rfl
 |e::u,σ,k,h=>by
  have h1:=Fj u (σ.setB e.1 e.2) k (λx hx=>h x (by simp[hx]));show ((σ.setB e.1 e.2).upd u).bx k=_;rw[h1];have:=h e (by simp);have bq:¬k=e.1:=λhk=>this hk.symm;simp[St.setB,bq]
theorem Q6:∀(u:Ups)(σ τ:St)(k:Nat),σ.bx k=τ.bx k->(σ.upd u).bx k=(τ.upd u).bx k
 |[],_,_,_,h=>h
 |e::u,σ,τ,k,h=>by
  refine Q6 u (σ.setB e.1 e.2) (τ.setB e.1 e.2) k ?_;simp only[St.setB];split
  .rfl
  .exact h
section
variable{P:Program}{E:Env}{ops:Array Oper}{cl:List Nat}{A:List (List Nat)}{τ:Nat->St}
theorem IQ(h:sq P E ops cl A τ){j:Nat}{o:Oper}(ho:ops[j]? = some o):∃s u,τ (j+1)=((τ j).upd u).setD o.dst s/\(∀e∈u,e.1∈A.getD j [])/\(rN o=true->∀k,ShEq ((τ j).bx k) ((τ (j+1)).bx k)):=by
 obtain⟨_,hs⟩:=h j o ho;generalize hq:τ (j+1)=σ' at hs;cases hs with
 |skip s wn v hg hv bq=>exact⟨.und,[],rfl,by simp,λ_ k=>by rw[wQ];exact ShEq.refl _⟩
 |skipU s wn hg hv=>exact⟨.und,[],rfl,by simp,λ_ k=>by rw[wQ];exact ShEq.refl _⟩
 |val s u hg bT hb=>exact⟨s,u,rfl,hb,λaM k=>by
  rw[wQ];exact QX u (τ j) (λe he=>((jtX aM bT).unmask e he).1) k⟩
 |call f args mk ret s u hg bT hf eM bJ hb=>exact⟨s,u,rfl,hb,λaM=>absurd bT (jnH aM)⟩
theorem jC3(h:sq P E ops cl A τ){j:Nat}{o:Oper}(ho:ops[j]? = some o){t:Nat}(ht:o.dst≠some t):(τ (j+1)).sl t=(τ j).sl t:=by
 obtain⟨s,u,he,_⟩:=IQ h ho;rw[he,IP ht,Fi]
theorem Q7(h:sq P E ops cl A τ){j:Nat}{o:Oper}(ho:ops[j]? = some o){k:Nat}(hk:k∉A.getD j []):(τ (j+1)).bx k=(τ j).bx k:=by
 obtain⟨s,u,he,hu,_⟩:=IQ h ho;rw[he,wQ];exact Fj u _ k (λe hm tX=>hk (tX▸hu e hm))
theorem Ce(h:sq P E ops cl A τ){t j:Nat}:∀n,j+n<=ops.size->(∀k o,j<=k->k<j+n->ops[k]? = some o->o.dst≠some t)->(τ (j+n)).sl t=(τ j).sl t
 |0,_,_=>rfl
 |n+1,hn,hk=>by
  have aA:j+n<ops.size:=by omega
  have ho:ops[j+n]? = some ops[j+n]:=js aA;rw[<-Nat.add_assoc,jC3 h ho (hk _ _ (by omega) (by omega) ho)];exact Ce h n (by omega) (λk o h1 h2=>hk k o h1 (by omega))
theorem Cf(h:sq P E ops cl A τ){k j:Nat}:∀n,j+n<=ops.size->(∀i o,j<=i->i<j+n->ops[i]? = some o->k∉A.getD i [])->(τ (j+n)).bx k=(τ j).bx k
 |0,_,_=>rfl
 |n+1,hn,hk=>by
  have aA:j+n<ops.size:=by omega
  have ho:ops[j+n]? = some ops[j+n]:=js aA;rw[<-Nat.add_assoc,Q7 h ho (hk _ _ (by omega) (by omega) ho)];exact Cf h n (by omega) (λi o h1 h2=>hk i o h1 (by omega))
theorem Fk(h:sq P E ops cl A τ){k j:Nat}:∀n,j+n<=ops.size->(∀i o,j<=i->i<j+n->ops[i]? = some o->k∈A.getD i []->rN o=true)->ShEq ((τ j).bx k) ((τ (j+n)).bx k)
 |0,_,_=>ShEq.refl _
 |n+1,hn,hk=>by
  have aA:j+n<ops.size:=by omega
  have ho:ops[j+n]? = some ops[j+n]:=js aA;have ih:=Fk h n (by omega) (λi o h1 h2=>hk i o h1 (by omega));refine ih.trans ?_;rw[<-Nat.add_assoc];by_cases hm:k∈A.getD (j+n) []
  .obtain⟨_,_,_,_,aM⟩:=IQ h ho;exact aM (hk _ _ (by omega) (by omega) ho hm) k
  .rw[Q7 h ho hm];exact ShEq.refl _
structure Ph(ops:Array Oper)(A:List (List Nat))(τ:Nat->St)(ay:Array Bool)(σ:St):Prop where
 closed:∀j o,ops[j]? = some o->ay.getD j false=true->∀d∈ng o,ay.getD d false=true
 done:∀j o t,ops[j]? = some o->o.dst=some t->ay.getD j false=true->σ.sl t=(τ (j+1)).sl t
 rest:∀t,(∀j o,ops[j]? = some o->o.dst=some t->ay.getD j false=false)->σ.sl t=(τ 0).sl t
 bdone:∀j k,j<ops.size->k∈A.getD j []->ay.getD j false=true->(∀i,i<ops.size->k∈A.getD i []->ay.getD i false=true->i<=j)->σ.bx k=(τ (j+1)).bx k
 brest:∀k,(∀j,j<ops.size->k∈A.getD j []->ay.getD j false=false)->σ.bx k=(τ 0).bx k
theorem Ph.bef{ay:Array Bool}(hp:Ph ops A τ ay σ){i j:Nat}(hb:Bef ops i j)(hi:ay.getD i false=true):ay.getD j false=true:=by
 induction hb with
 |dep ho hj=>exact hp.closed _ _ ho hi _ hj
 |trans _ _ h1 h2=>exact h2 (h1 hi)
theorem Ph.befd{ay:Array Bool}(hp:Ph ops A τ ay σ){i j:Nat}{o:Oper}(ho:ops[i]? = some o)(hd:∀j∈ng o,ay.getD j false=true)(hb:Bef ops i j):ay.getD j false=true:=by
 induction hb with
 |dep wN hj=>rw[ho]at wN;simp only[j4]at wN;subst wN;exact hd _ hj
 |trans dJ eX h1 h2=>exact hp.bef eX (h1 ho)
theorem Fl(p:Nat->Prop):∀n,(∃j,j<n/\p j)->∃m,m<n/\p m/\∀j,j<n->p j->j<=m
 |0,h=>by obtain⟨j,hj,_⟩:=h;omega
 |n+1,h=>by
  by_cases hn:p n
  .exact⟨n,by omega,hn,λj hj _=>by omega⟩
  .obtain⟨j,hj,hp⟩:=h
   have yO:j<n:=by
    rcases qx j n with h|h
    .exact h
    .have:j=n:=by omega
     subst this;exact absurd hp hn
   obtain⟨m,hm,sr,aB⟩:=Fl p n ⟨j,yO,hp⟩;refine⟨m,by omega,sr,λi hi Q8=>?_⟩;rcases qx i n with h|h
   .exact aB i h Q8
   .have:i=n:=by omega
    subst this;exact absurd Q8 hn
theorem Q9{l:Array Bool}{i:Nat}(h:l.getD i true=false):l.getD i false=false:=by
 rcases qx i l.size with h'|h'
 .simp[h']at h ⊢;exact h
 .simp[Array.getElem?_eq_none h']
theorem pH{l:Array Bool}{i j:Nat}(hi:i<l.size):(l.setIfInBounds i true).getD j false=true↔j=i\/l.getD j false=true:=by
 by_cases h:i=j
 .subst h;simp[hi]
 .rw[getD_set_ne false h];exact⟨.inr,λhh=>hh.resolve_left λe=>h e.symm⟩
theorem Cg{l:Array Bool}{i:Nat}(h:¬l.getD i false=true):l.getD i false=false:=by
 cases hq:l.getD i false with
 |false=>rfl
 |true=>exact absurd hq h
section
variable(bF:DOkR ops A)(h:sq P E ops cl A τ){ay:Array Bool}(hp:Ph ops A τ ay σ){i:Nat}{o:Oper}(hi:ops[i]? = some o)(jX:ay.getD i false=false)(dB:∀j∈ng o,ay.getD j false=true)
include bF h hp hi jX dB
theorem jC4:∀t,t∈o.looksAt ops->σ.sl t=(τ i).sl t:=by
 intro t Bz;have pI:i<ops.size:=(jk.1 hi).1;have Ra:∀j oj,ops[j]? = some oj->oj.dst=some t->j≠i->Bef ops i j\/Bef ops j i:=λj oj hj ht bq=>(bF.dst i j o oj t hi hj (λe=>bq e.symm) ht).2 Bz;by_cases hex:∃(j:Nat)(oj:Oper),ops[j]? = some oj/\oj.dst=some t/\ay.getD j false=true
 .obtain⟨j,oj,hj,ht,mO⟩:=hex;have oF:j≠i:=λe=>by rw[e,jX]at mO;simp at mO
  have wR:Bef ops i j:=by
   rcases Ra j oj hj ht oF with hd|hd
   .exact hd
   .have:=hp.bef hd mO;rw[jX]at this;simp at this
  have aA:=bF.bef wR;rw[hp.done j oj t hj ht mO];have:=Ce h (t:=t) (j:=j+1) (i-(j+1)) (by omega) (λk ok h1 h2 hk=>(bF.dst k j ok oj t hk hj (by omega) ht).1);rw[show j+1+(i-(j+1))=i by omega]at this;exact this.symm
 .rw[hp.rest t (λj oj hj ht=>Cg λhq=>hex ⟨j,oj,hj,ht,hq⟩)]
  have:=Ce h (t:=t) (j:=0) i (by omega) (λk ok _ hk nH rh=>by
   have lJ:k≠i:=by omega
   rcases Ra k ok nH rh lJ with hd|hd
   .exact hex ⟨k,ok,nH,rh,hp.befd hi dB hd⟩
   .have:=bF.bef hd;omega)
  rw[ke]at this;exact this.symm
theorem Rb{k:Nat}(hk:∀j oj,ops[j]? = some oj->k∈A.getD j []->i=j\/Bef ops i j\/Bef ops j i):σ.bx k=(τ i).bx k:=by
 have pI:i<ops.size:=(jk.1 hi).1;by_cases hex:∃j,j<ops.size/\(k∈A.getD j []/\ay.getD j false=true)
 .obtain⟨m,hm,⟨nI,ru⟩,eI⟩:=Fl _ _ hex;have IU:ops[m]? = some ops[m]:=js hm;have IV:i≠m:=λe=>by rw[<-e,jX]at ru;simp at ru
  have wR:Bef ops i m:=by
   rcases hk m _ IU nI with hd|hd|hd
   .exact absurd hd IV
   .exact hd
   .have:=hp.bef hd ru;rw[jX]at this;simp at this
  have aA:=bF.bef wR;rw[hp.bdone m k hm nI ru (λj hj dF mO=>eI j hj ⟨dF,mO⟩)]
  have:=Cf h (k:=k) (j:=m+1) (i-(m+1)) (by omega) (λj oj h1 h2 hj dF=>by
   rcases hk j oj hj dF with hd|hd|hd
   .omega
   .have:=eI j (by omega) ⟨dF,hp.befd hi dB hd⟩;omega
   .have:=bF.bef hd;omega)
  rw[show m+1+(i-(m+1))=i by omega]at this;exact this.symm
 .rw[hp.brest k (λj hj dF=>Cg λhq=>hex ⟨j,hj,dF,hq⟩)]
  have:=Cf h (k:=k) (j:=0) i (by omega) (λj oj h1 h2 hj dF=>by
   rcases hk j oj hj dF with hd|hd|hd
   .omega
   .exact hex ⟨j,by omega,dF,hp.befd hi dB hd⟩
   .have:=bF.bef hd;omega)
  rw[ke]at this;exact this.symm
theorem jEx(kT:oV o=true){k:Nat}(hk:∀j oj,ops[j]? = some oj->k∈A.getD j []->i=j\/Bef ops i j\/Bef ops j i\/rN oj=true):ShEq (σ.bx k) ((τ i).bx k):=by
 have pI:i<ops.size:=(jk.1 hi).1;by_cases hex:∃j,j<ops.size/\(k∈A.getD j []/\ay.getD j false=true)
 .obtain⟨m,hm,⟨nI,ru⟩,eI⟩:=Fl _ _ hex;have IU:ops[m]? = some ops[m]:=js hm;rw[hp.bdone m k hm nI ru (λj hj dF mO=>eI j hj ⟨dF,mO⟩)];rcases qx m i with IV|IV
  .have:=Fk h (k:=k) (j:=m+1) (i-(m+1)) (by omega) (λj oj h1 h2 hj dF=>by
    rcases hk j oj hj dF with hd|hd|hd|hd
    .omega
    .have:=eI j (by omega) ⟨dF,hp.befd hi dB hd⟩;omega
    .have:=bF.bef hd;omega
    .exact hd)
   rwa[show m+1+(i-(m+1))=i by omega]at this
  .have hmi':i≠m:=λe=>by rw[<-e,jX]at ru;simp at ru
   have:=Fk h (k:=k) (j:=i) (m+1-i) (by omega) (λj oj h1 h2 hj dF=>by
    have mO:ay.getD j false=true:=by
     by_cases ur:j=m
     .rw[ur];exact ru
     .rcases bF.box j m oj ops[m] k hj IU ur dF nI with hd|hd
      .have:=bF.bef hd;omega
      .exact hp.bef hd ru
    rcases hk j oj hj dF with hd|hd|hd|hd
    .rw[<-hd,jX]at mO;simp at mO
    .have:=bF.bef hd;omega
    .have:=hp.bef hd mO;rw[jX]at this;simp at this
    .exact hd)
   rw[show i+(m+1-i)=m+1 by omega]at this;exact this.symm
 .rw[hp.brest k (λj hj dF=>Cg λhq=>hex ⟨j,hj,dF,hq⟩)]
  have:=Fk h (k:=k) (j:=0) i (by omega) (λj oj h1 h2 hj dF=>by
   rcases hk j oj hj dF with hd|hd|hd|hd
   .omega
   .exact absurd ⟨j,by omega,dF,hp.befd hi dB hd⟩ hex
   .have:=bF.bef hd;omega
   .exact hd)
  rwa[ke]at this
theorem jC5(hc:ClOk ops cl):(∀k,gY (rO ops cl A i o) σ.bx k=gY (rO ops cl A i o) (τ i).bx k)\/(oV o=true/\∀k,ShEq (gY (rO ops cl A i o) σ.bx k) (gY (rO ops cl A i o) (τ i).bx k)):=by
 by_cases kT:oV o=true
 .refine .inr ⟨kT,ShEq.mask λk hk=>jEx bF h hp hi jX dB kT λj oj hj dF=>?_⟩;rcases Q1 hc hk hj dF with hd|hd|hd|hd
  .exact .inl hd
  .exact .inr (.inl hd)
  .exact .inr (.inr (.inl hd))
  .exact .inr (.inr (.inr hd.2))
 .refine .inl λk=>?_;unfold gY;split
  .rfl
  .rename_i hk
   exact Rb bF h hp hi jX dB λj oj hj dF=>by
    rcases Q1 hc (by simpa using hk) hj dF with hd|hd|hd|hd
    .exact .inl hd
    .exact .inr (.inl hd)
    .exact .inr (.inr hd)
    .exact absurd hd.1 kT
theorem jC6(cp:ops.size<=ay.size){s:Slot}{u:Ups}(he:τ (i+1)=((τ i).upd u).setD o.dst s)(hu:∀e∈u,e.1∈A.getD i []):Ph ops A τ (ay.setIfInBounds i true) ((σ.upd u).setD o.dst s):=by
 have pI:i<ops.size:=(jk.1 hi).1;have fq:i<ay.size:=by omega
 have kS:∀k,k∈A.getD i []->σ.bx k=(τ i).bx k:=λk hk=>Rb bF h hp hi jX dB λj oj hj dF=>by
  by_cases dP:i=j
  .exact .inl dP
  .exact .inr (bF.box i j o oj k hi hj dP hk dF)
 refine⟨?_,?_,?_,?_,?_⟩
 .intro j oj iK hj d nj;rcases (pH fq).1 hj with rfl|hj
  .rw[hi]at iK;simp only[j4]at iK;subst iK;exact(pH fq).2 (.inr (dB d nj))
  .exact(pH fq).2 (.inr (hp.closed j oj iK hj d nj))
 .intro j oj t iK ht hj;by_cases oF:j=i
  .subst oF;rw[hi]at iK;simp only[j4]at iK;subst iK;rw[he,ht,Q5,Q5]
  .rcases (pH fq).1 hj with hj|hj
   .exact absurd hj oF
   .rw[IP (bF.dst i j o oj t hi iK (λe=>oF e.symm) ht).1,Fi];exact hp.done j oj t iK ht hj
 .intro t aB
  have hot:o.dst≠some t:=λe=>by
   have:=aB i o hi e;have h2:=(pH (j:=i) fq).2 (.inl rfl);rw[this]at h2;simp at h2
  rw[IP hot,Fi]
  exact hp.rest t λj oj iK ht=>Cg λhq=>by
   have:=aB j oj iK ht;have h2:=(pH (i:=i) fq).2 (.inr hq);rw[this]at h2;simp at h2
 .intro j k hj dF mO eI;rw[wQ];by_cases oF:j=i
  .subst oF;rw[he,wQ];exact Q6 u σ (τ j) k (kS k dF)
  .have Ci:ay.getD j false=true:=by
    rcases (pH fq).1 mO with e|hh
    .exact absurd e oF
    .exact hh
   have lJ:k∉A.getD i []:=λlJ=>by
    have hle:=eI i pI lJ ((pH fq).2 (.inl rfl));have iK:ops[j]? = some ops[j]:=js hj;rcases bF.box i j o _ k hi iK (λe=>oF e.symm) lJ dF with hd|hd
    .have:=bF.bef hd;omega
    .have:=hp.bef hd Ci;rw[jX]at this;simp at this
   rw[Fj u σ k (λe hm tX=>lJ (tX▸hu e hm))];exact hp.bdone j k hj dF Ci (λi' bd br kQ=>eI i' bd br ((pH fq).2 (.inr kQ)))
 .intro k aB
  have lJ:k∉A.getD i []:=λlJ=>by
   have:=aB i pI lJ;have h2:=(pH (j:=i) fq).2 (.inl rfl);rw[this]at h2;simp at h2
  rw[wQ,Fj u σ k (λe hm tX=>lJ (tX▸hu e hm))]
  exact hp.brest k λj hj dF=>Cg λhq=>by
   have:=aB j hj dF;have h2:=(pH (i:=i) fq).2 (.inr hq);rw[this]at h2;simp at h2
end
theorem jD5(bF:DOkR ops A)(h:sq P E ops cl A τ){ay:Array Bool}(hp:Ph ops A τ ay σ)(aB:∀j,j<ops.size->ay.getD j false=true):σ=τ ops.size:=by
 have ee:σ.sl=(τ ops.size).sl:=by
  funext t
  by_cases hex:∃(j:Nat)(oj:Oper),ops[j]? = some oj/\oj.dst=some t
  .obtain⟨j,oj,hj,ht⟩:=hex;have aA:j<ops.size:=(jk.1 hj).1;rw[hp.done j oj t hj ht (aB j aA)];have:=Ce h (t:=t) (j:=j+1) (ops.size-(j+1)) (by omega) (λk ok h1 h2 hk=>(bF.dst k j ok oj t hk hj (by omega) ht).1);rw[show j+1+(ops.size-(j+1))=ops.size by omega]at this;exact this.symm
  .rw[hp.rest t (λj oj hj ht=>absurd ⟨j,oj,hj,ht⟩ hex)];have:=Ce h (t:=t) (j:=0) ops.size (by omega) (λk ok _ hk nH rh=>hex ⟨k,ok,nH,rh⟩);rw[ke]at this;exact this.symm
 have fa:σ.bx=(τ ops.size).bx:=by
  funext k
  by_cases hex:∃j,j<ops.size/\k∈A.getD j []
  .obtain⟨m,hm,nI,eI⟩:=Fl _ _ hex;rw[hp.bdone m k hm nI (aB m hm) (λj hj dF _=>eI j hj dF)];have:=Cf h (k:=k) (j:=m+1) (ops.size-(m+1)) (by omega) (λj oj h1 h2 hj dF=>by have:=eI j (by omega) dF;omega);rw[show m+1+(ops.size-(m+1))=ops.size by omega]at this;exact this.symm
  .rw[hp.brest k (λj hj dF=>absurd ⟨j,hj,dF⟩ hex)];have:=Cf h (k:=k) (j:=0) ops.size (by omega) (λj oj h1 h2 hj dF=>hex ⟨j,by omega,dF⟩);rw[ke]at this;exact this.symm
 cases σ;cases hq:τ ops.size;rw[hq]at fa ee;simp only at fa ee;rw[fa,ee]
end
theorem jse{l:Array Bool}{i:Nat}(hi:l.getD i true=false):(l.setIfInBounds i true).toList.count false+1=l.toList.count false:=by
 have aA:i<l.size:=by
  rcases qx i l.size with h|h
  .exact h
  .simp[Array.getElem?_eq_none h]at hi
 have hv:l.toList[i]'(by simpa using aA)=false:=by simp[aA]at hi;simpa using hi
 have bV:0<l.toList.count false:=List.count_pos_iff.2 (hv▸je _);have hc:(l.toList.set i true).count false=l.toList.count false-(if l.toList[i]'(by simpa using aA)==false then 1 else 0)+(if true==false then 1 else 0):=List.count_set (by simpa using aA);rw[hv]at hc;rw[Array.toList_setIfInBounds];simp only[qj,if_true,show (true==false)=false from rfl,k9,za,Nat.add_zero]at hc;omega
theorem jwp{l:Array Bool}(h:l.toList.count false=0){j:Nat}(hj:j<l.size):l.getD j false=true:=by
 have h0:false∉l.toList:=List.count_eq_zero.1 h;simp only[z7,js hj,zb];cases hv:l[j]with
 |true=>rfl
 |false=>exact absurd (hv▸by simp:false∈l.toList) h0
theorem jxW{ops:Array Oper}{A:List (List Nat)}(bF:DOkR ops A){ay:Array Bool}(hs:ay.size=ops.size)(h:Region.ready .any ops ay=[]):∀j,j<ops.size->ay.getD j false=true:=by
 intro j;induction j using Nat.strongRecOn with
 |_ j ih=>
  intro hj;cases hq:ay.getD j false with
  |true=>rfl
  |false=>
   have ho:ops[j]? = some ops[j]:=js hj
   have hm:j∈Region.ready .any ops ay:=mem_ready.2 ⟨by
    have fN:j<ay.size:=by omega
    simp[fN]at hq ⊢;exact hq,ops[j],ho,λe he hb=>ih _ (bF.lt j _ ho _ (IM.2 ⟨e,he,hb,rfl⟩)) (Nat.lt_trans (bF.lt j _ ho _ (IM.2 ⟨e,he,hb,rfl⟩)) hj)⟩
   rw[h]at hm;simp at hm
theorem jwq{P:Program}{E:Env}(hT:cH P E.T){ops:Array Oper}{cl:List Nat}{A:List (List Nat)}(ei:ClOk ops cl)(bF:DOkR ops A){τ:Nat->St}(h:sq P E ops cl A τ)
  {Q:Exit->Go.Act->World->Prop}(hn:∀a' w' S' γ',Rel E.N E.np S0 w0 refs (τ ops.size) a' w' S' γ'->dS (τ ops.size)->Q .normal a' w') :
  ∀(fuel:Nat)(ay:Array Bool){σ:St}{a:Go.Act}{w:World}{S:aP}{γ:Nat->Value},ay.size=ops.size->ay.toList.count false<=fuel->Rel E.N E.np S0 w0 refs σ a w S γ->dS σ->
   Ph ops A τ ay σ->wpAny P .any ops Q fuel ay a w:=by
 have eu:∀(ay:Array Bool){σ:St}{a:Go.Act}{w:World}{S:aP}{γ:Nat->Value},Rel E.N E.np S0 w0 refs σ a w S γ->dS σ->Ph ops A τ ay σ->(∀j,j<ops.size->ay.getD j false=true)->Q .normal a w:=by intro ay σ a w S γ hR hc uu aB;have he:=jD5 bF h uu aB;subst he;exact hn a w S γ hR hc
 intro fuel;induction fuel with
 |zero=>
  intro ay σ a w S γ hs Cj hR hc uu;have aB:∀j,j<ops.size->ay.getD j false=true:=λj hj=>jwp (by omega) (by omega);refine⟨?_,eu ay hR hc uu aB⟩;refine List.eq_nil_iff_forall_not_mem.2 λi hi=>?_;have h0:=(mem_ready.1 hi).1;have aA:i<ops.size:=by obtain⟨_,o,ho,_⟩:=mem_ready.1 hi;exact(jk.1 ho).1
  have:=aB i aA;rw[Q9 h0]at this;simp at this
 |succ fuel ih=>
  intro ay σ a w S γ hs Cj hR hc uu;refine⟨λfw=>eu ay hR hc uu (jxW bF hs fw),λi hi=>?_⟩;obtain⟨jX,o,ho,dB⟩:=jwo hi;have wS:=Q9 jX;have dL:=jse jX;have cp:(ay.setIfInBounds i true).size=ops.size:=by simpa using hs
  obtain⟨hd,dU⟩:=h i o ho;refine D_wp hT hR hc ho hd dU (jC5 bF h uu ho wS dB ei) (jC4 bF h uu ho wS dB) ?_;intro s u a' w' S' γ' he hu df eG;exact ih _ cp (by omega) df eG (jC6 bF h uu ho wS dB (Nat.le_of_eq hs.symm) he hu)
theorem jwr{P:Program}{E:Env}(hT:cH P E.T)(hC:lI P E.C)(hF:CFun E.C)(hR:Rel E.N E.np S0 w0 refs σ a w S γ)(hc:dS σ){ops:Array Oper}{A:List (List Nat)}
  {R:Type}{k:St->Option R}{r:R}{Q:Exit->Go.Act->World->Prop}(hn:∀σ' a' w' S' γ',Rel E.N E.np S0 w0 refs σ' a' w' S' γ'->dS σ'->k σ'=some r->Q .normal a' w')(h:AS E ops A σ k=some r) :
  wpAny P .any ops Q ops.size (Array.replicate ops.size false) a { w with drawn:=w.drawn+1 }:=by
 unfold AS at h;split at h
 .rename_i bF;obtain⟨τ,h1,h2,h3⟩:=Q4 (P:=P) (ops:=ops) hC hF ops.size 0 σ (ke _) (by simpa using h)
  have mi:∀j,(Array.replicate ops.size false).getD j false=false:=by
   intro j;rcases qx j ops.size with hj|hj
   .simp[hj]
   .simp[hj]
  have ei:ClOk ops (AP ops.toList []):=Q0 ops.toList [] (λi j h=>by simp at h) (λk o hk=>by simpa using hk);refine jwq hT ei (jtY ei bF) (τ:=τ) (λj o ho=>h3 j o (kb _) ho) (λa' w' S' γ' df eG=>hn _ a' w' S' γ' df eG h2) ops.size _ (by simp) (by simp) (hR.drawn _) hc ?_
  exact⟨λj o _ hj=>by rw[mi]at hj;simp at hj,λj o t _ _ hj=>by rw[mi]at hj;simp at hj,λt _=>by rw[h1],
   λj k _ _ hj=>by rw[mi]at hj;simp at hj,λk _=>by rw[h1]⟩
 .simp at h
end
def FR(ro:Option Nat):Fence:={ Fence.wide with round:=ro }
theorem Rc(ro:Option Nat)(n:Nat):(FR ro).room n:=λd h=>by simp[FR,Fence.wide]at h
section
variable{P:Program}{ro:Option Nat}{n:Nat}
theorem jC7{f:FuncId}{args:Array Value}{w:World}{R:Ending->World->Prop}(h:Calls P f args w R):CallsIn (FR ro) n P f args w R:=(callsIn_wide (n:=n)).2 h
theorem jC8{f:FuncId}{args:Array Value}{w:World}{R:Ending->World->Prop}(h:CallsIn (FR ro) n P f args w R):Calls P f args w R:=(callsIn_wide (n:=n)).1 h
theorem jD6{m:Nat}{c:Code}{Q:Exit->Go.Act->World->Prop}{a:Go.Act}{w:World}(h:c.wpIn (FR ro) n P Q a w):c.wpIn (FR ro) m P Q a w:=
 λb k cs gD hb hr=>h b k cs gD hb (Rc _ _)
theorem jD7{row:String}{args:Array Value}{w:World}{R:Value->World->Prop}(h:Rows P row args w R):RowsIn (FR ro) n P row args w R:=
 λc cs _=>let ⟨v,w',r,s⟩:=h c cs;⟨v,w',r,stepsIn_wide.2 s⟩
theorem Fm{o:Oper}(hp:ro=none\/∀c,o.op ≠ .defer c){a:Go.Act}{w:World}{K K':Go.Act->World->Prop}{Q:Exit->Go.Act->World->Prop}(hK:∀a w,K a w->K' a w)
  (h:o.wp P a w K Q):o.wpIn (FR ro) n P a w K' Q:=by
 refine⟨λ_ _=>trivial,?_⟩
 have e:o.semAt (FR ro).round a.eval=execOp a.eval o:=by
  rcases hp with rfl|hp
  .rfl
  .exact Oper.semAt_eq _ _ _ hp
 rw[e];unfold Oper.wp at h;revert h;cases (execOp a.eval o).run P w with
 |ok x w'=>
  cases x with
  |value v=>intro h;exact hK _ _ h
  |skip=>intro h;exact hK _ _ h
  |defer d=>intro h;exact hK _ _ h
  |enter f args=>
   intro h;refine⟨λhd=>by simp[FR,Fence.wide]at hd,jC7 (Calls.mono h λe vN he=>?_)⟩;cases e with
   |returned v=>exact hK _ _ he
   |panicked c=>exact he
   |outgrown=>exact he
  |row r args=>intro h;exact⟨λhd=>by simp[FR,Fence.wide]at hd,jD7 (Rows.mono h λv vN he=>hK _ _ he)⟩
  |round l f tmps x y=>intro h;exact h.elim
  |_=>intro h;exact h.elim
 |halt x w'=>cases x<;>intro h<;>exact h
theorem Ck{ops:Array Oper}{Q:Exit->Go.Act->World->Prop}(hp:ro=none\/∀o∈ops.toList,∀c,o.op ≠ .defer c)(dp:¬LetsOut Q):∀(l:List Nat)(a:Go.Act)(w:World),wpOps P ops Q l a w->wpOpsIn (FR ro) n P ops Q l a w
 |[],a,w,h=>h
 |i::r,a,w,h=>by
  simp only[wpOps]at h;simp only[wpOpsIn];cases ho:ops[i]? with
  |none=>simp only[ho]at h ⊢;exact Ck hp dp r a w h
  |some o=>
   simp only[ho]at h ⊢;split
   .rename_i hw;simp only[hw,if_true]at h;rcases h with h|⟨_,h⟩
    .refine Fm (hp.imp id λhh=>hh o ?_) (λa w=>Ck hp dp r a w) h;obtain⟨aA,rfl⟩:=jk.1 ho;exact Array.mem_toList_iff.2 (Array.getElem_mem aA)
    .exact absurd h dp
   .rename_i hw;simp only[hw]at h;exact⟨λ_ _=>trivial,Ck hp dp r _ w h⟩
theorem Fo{md:Region.Mode}{ops:Array Oper}{Q:Exit->Go.Act->World->Prop}(hp:ro=none\/∀o∈ops.toList,∀c,o.op ≠ .defer c)(dp:¬LetsOut Q) :
  ∀(fuel:Nat)(ay:Array Bool)(a:Go.Act)(w:World),wpAny P md ops Q fuel ay a w->wpAnyIn (FR ro) n P md ops Q fuel ay a w
 |0,_,_,_,h=>h
 |fuel+1,ay,a,w,h=>by
  refine⟨h.1,λi hi=>?_⟩;have h2:=h.2 i hi;unfold wpOp at h2;unfold wpOpIn;cases ho:ops[i]? with
  |none=>simp only[ho]at h2 ⊢;exact Fo hp dp fuel _ a w h2
  |some o=>
   simp only[ho]at h2 ⊢;split
   .rename_i hw;simp only[hw,if_true]at h2;rcases h2 with h2|⟨_,h2⟩
    .refine Fm (hp.imp id λhh=>hh o ?_) (λa w=>Fo hp dp fuel _ a w) h2;obtain⟨aA,rfl⟩:=jk.1 ho;exact Array.mem_toList_iff.2 (Array.getElem_mem aA)
    .exact absurd h2 dp
   .rename_i hw;simp only[hw]at h2;exact⟨λ_ _=>trivial,Fo hp dp fuel _ _ w h2⟩
end
section
variable{N:NT}{np:Nat}{S0:aP}{w0:World}{refs:Refs}{σ:St}{a:Go.Act}{w:World}{S:aP}{γ:Nat->Value}
theorem Rel.allocO(hR:Rel N np S0 w0 refs σ a w S γ)(o:Obj):Rel N np S0 w0 refs σ a (w.alloc o) S γ:=
 Rel.step (bx':=σ.bx) (γ':=γ) hR (yC hR o) (.refl _ _) (λk b hb=>eF.keep (yC hR o) (.refl _ _) rfl (λg hg=>⟨heap_alloc_old w o (lU (hR.box k b hb) hg),λ_=>Iff.rfl⟩) (hR.box k b hb))
  hR.own hR.apart hR.new (λg i h=>by have:=hR.here g i h;simp;omega) (λg hg hr=>(heap_alloc_old w o (qn hg hR.grow)).trans (hR.below g hg hr)) (by have:=hR.grow;simp;omega) hR.os hR.tape hR.output
  (λg hg _ h=>⟨heap_alloc_old w o hg,h⟩)
structure Grew(w w':World):Prop where
 old:∀g,g<w.heap.size->w'.heap[g]? = w.heap[g]?
 size:w.heap.size<=w'.heap.size
 os:w'.os=w.os
 tape:w'.tape=w.tape
 output:w'.output=w.output
structure yQ(S:aP)(w:World)(S':aP)(w':World):Prop where
 sub:∀g o,S g o->S' g o
 new:∀g o,S' g o->S g o\/w.heap.size<=g
 here:∀g o,S' g o->g<w'.heap.size
theorem Rel.grew(hR:Rel N np S0 w0 refs σ a w S γ){S':aP}{w':World}(h:Grew w w')(hs:yQ S w S' w'):Rel N np S0 w0 refs σ a w' S' γ:=
 have aM:dg S w S' w':=λg o hg=>⟨hs.sub g o hg,World.cell?_of_block (h.old g (hR.here g o hg))⟩
 Rel.step (bx':=σ.bx) (γ':=γ) hR aM (.refl _ _) (λk b hb=>eF.keep aM (.refl _ _) rfl (λg hg=>
   have hl:=lU (hR.box k b hb) hg
   ⟨h.old g hl,λo=>⟨λh1=>(hs.new g o h1).resolve_right (by omega),hs.sub g o⟩⟩) (hR.box k b hb))
  hR.own hR.apart (λg o h1=>(hs.new g o h1).elim (hR.new g o) λh2=> .inr (qm hR.grow h2)) hs.here (λg hg hr=>(h.old g (qn hg hR.grow)).trans (hR.below g hg hr)) (qm hR.grow h.size) (h.os.trans hR.os) (h.tape.trans hR.tape) (h.output.trans hR.output)
  (λg hg _ hn=>⟨h.old g hg,hn⟩)
theorem Rel.swap(hR:Rel N np S0 w0 refs σ a w S γ){N':NT}{refs':Refs}{a':Go.Act}(hb:refs'.blks=refs.blks)(hv:refs'.val=refs.val)(cp:a'.tmps.size=N'.n)(yR:a'.defers=refs'.ds)
  (pJ:∀i,gG S w γ σ.bx (tm a') (σ.sl i) (tm a' i))(hk:∀g o,refs'.kw g=some o->w.heap[g]? = some o/\∀k b,σ.bx k = .live b->blk (γ k)≠some g)
  (hf:∀i v,refs'.fix i=some v->N'.pin i=true/\a'.tmps.getD i undef=v):Rel N' np S0 w0 refs' σ a' w S γ:=
 have hm:∀g,g∈refs'↔g∈refs:=λg=>by show g∈refs'.blks↔g∈refs.blks;rw[hb]
 ⟨cp,yR,pJ,hR.box,λk b g h h'=>(hR.own k b g h h').imp id λh=>⟨(hm g).2 h.1,h.2⟩,hR.apart,hR.ext,hR.new,hR.here,λg h h'=>hR.below g h λh2=>h' ((hm g).2 h2),
  hR.grow,hR.os,hR.tape,hR.output,λk v h=>hR.par k v (hv▸h),hk,hf⟩
theorem Re{g o:Nat}{x:Obj}(h:w.heap[g]? = some x)(hc:x.isCells=false):w.cell? ⟨g,o,none⟩=none:=by
 unfold World.cell?;simp only[h];cases x<;>first|rfl|(simp[Obj.isCells]at hc)
theorem Rel.putO(hR:Rel N np S0 w0 refs σ a w S γ){l:Nat}{o o':Obj}(hk:refs.kw l=some o)(hl:w0.heap.size<=l)(hc:o.isCells=false)(eG:o'.isCells=false) :
  Rel N np S0 w0 { refs with kw:=λg=>if g=l then some o' else refs.kw g } σ a (w.putObj l o') S γ:=by
 obtain⟨hw,dp⟩:=hR.kept l o hk;have aA:=(jk.1 hw).1
 have aM:dg S w S (w.putObj l o'):=λg i h=>⟨h,by
  by_cases hg:g=l
  .subst hg;rw[Re hw hc,Re (World.putObj_heap_same aA) eG]
  .exact World.cell?_of_block (World.putObj_heap_other hg)⟩
 have bD:Rel N np S0 w0 { refs with kw:=λg=>if g=l then none else refs.kw g } σ a w S γ:=
  Rel.swap hR rfl rfl hR.size hR.defers hR.slot (λg x h=>by
   simp only at h;split at h
   .simp at h
   .exact hR.kept g x h) hR.fix
 have cW:Rel N np S0 w0 { refs with kw:=λg=>if g=l then none else refs.kw g } σ a (w.putObj l o') S γ:=
  Rel.step (bx':=σ.bx) (γ':=γ) bD aM (.refl _ _) (λk b hb=>eF.keep aM (.refl _ _) rfl (λg hg=>⟨World.putObj_heap_other (λe=>dp k b hb (e▸hg)),λ_=>Iff.rfl⟩) (hR.box k b hb))
   bD.own bD.apart bD.new (λg i h=>by simpa using hR.here g i h) (λg hg hr=>(World.putObj_heap_other (by omega)).trans (bD.below g hg hr)) (by simpa using hR.grow) hR.os hR.tape hR.output
   (λg _ yD h=>⟨World.putObj_heap_other (λe=>by subst e;simp at yD),h⟩)
 refine Rel.swap cW rfl rfl cW.size cW.defers cW.slot (λg x h=>?_) cW.fix;simp only at h;split at h
 .rename_i e;subst e;simp only[j4]at h;subst h;exact⟨World.putObj_heap_same aA,dp⟩
 .rename_i e;have h1:=hR.kept g x h;exact⟨(World.putObj_heap_other e).trans h1.1,h1.2⟩
theorem jxY(np:Nat)(K:Keep)(s:Snap)(i:Nat):(∃c,(da np K s).sl i = .one c)/\(i∉K.slots->(da np K s).sl i = .one (.one .dead)):=by
 have ee:(da np K s).sl i=match K.slots.idxOf? i with
  |some j=>vK s[j]?
  |none=> .one (.one .dead):=rfl
 rw[ee];cases hq:K.slots.idxOf? i with
 |none=>exact⟨⟨_,rfl⟩,λ_=>rfl⟩
 |some j=>refine⟨?_,λh=>absurd (jz (oD hq)) h⟩;simp only;unfold vK;split<;>exact⟨_,rfl⟩
theorem Rel.frame{K:Keep}{s:Snap}(hR:Rel N np S0 w0 refs (da np K s) a w S γ){N':NT}{refs':Refs}{a':Go.Act}(hb:refs'.blks=refs.blks)(hv:refs'.val=refs.val)(cp:a'.tmps.size=N'.n)(yR:a'.defers=refs'.ds)
  (ee:∀i∈K.slots,tm a' i=tm a i)(hk:∀g o,refs'.kw g=some o->w.heap[g]? = some o/\∀k b,(da np K s).bx k = .live b->blk (γ k)≠some g)
  (hf:∀i v,refs'.fix i=some v->N'.pin i=true/\a'.tmps.getD i undef=v):Rel N' np S0 w0 refs' (da np K s) a' w S γ:=by
 refine hR.swap hb hv cp yR (λi=>?_) hk hf;obtain⟨⟨c,hc⟩,hd⟩:=jxY np K s i;by_cases hi:i∈K.slots
 .have:=hR.slot i;rw[hc]at this ⊢;rw[ee i hi];exact this
 .rw[hd hi];exact⟨trivial,λh=>absurd rfl h⟩
end
section
variable{P:Program}{F:Fence}{n:Nat}{b:Frame}{a:Go.Act}{k:List Go.Item}{cs:List Frame}{w:World}{Q:Exit->Go.Act->World->Prop}
theorem yS{c:Code}:step P (lone (b.atR a (.code (.scope c)::k)) cs w) = .next (lone (b.atR a (.code c :: .inScope c::k)) cs w):=
 step_lone_go (by simp[stepG,stepG.exec,Frame.atR])
theorem jqr{c:Code}:step P (lone (b.atR a (.inScope c::k)) cs w) = .next (lone (b.atR a k) cs w):=
 step_lone_go (by simp[stepG,stepG.exec,Frame.atR])
theorem jwt{c:Code}(hng:∀l a w,¬Q (.goto l) a w)(h:c.wpIn F n P Q a w):(Code.scope c).wpIn F n P Q a w:=by
 intro b k cs gD hb hr;have h0:(lone (b.atR a (.code (.scope c)::k)) cs w).fenced P F:=fenced_calm hb hr rfl;obtain⟨e,a₁,w₁,hq,nJ⟩:=h b (.inScope c::k) cs gD hb hr;cases e with
 |normal=>exact⟨.normal,a₁,w₁,hq,.head h0 yS (StepsIn.trans nJ (.one (fenced_calm hb hr rfl) jqr))⟩
 |exit id=>
  have hx:exitTo id (.inScope c::k)=exitTo id k:=by simp[exitTo]
  exact⟨_,a₁,w₁,hq,λk' hk=> .head h0 yS (nJ.1 k' (by rw[hx];exact hk)),
   λr5 hk=>let ⟨k₁,h1,h2⟩:=nJ.2 r5 (by rw[hx];exact hk);⟨k₁,h1,.head h0 yS h2⟩⟩
 |goto l=>exact absurd hq (hng l a₁ w₁)
 |ret=>exact⟨_,a₁,w₁,hq,.of_steps (.one h0 yS) nJ⟩
 |panic ch=>exact⟨_,a₁,w₁,hq,.of_steps (.one h0 yS) nJ⟩
 |outgrown=>exact⟨_,a₁,w₁,hq,.of_steps (.one h0 yS) nJ⟩
end
section
variable{N:NT}{np:Nat}{S0:aP}{w0:World}{refs:Refs}{σ:St}{a:Go.Act}{w:World}{S:aP}{γ:Nat->Value}
def exOf:Ex->Exit
 |.normal=> .normal
 |.exit i=> .exit i
 |.ret=> .ret
def fS:Nat->Code->List (Nat×Code)
 |b,.seq x y=>fS b x++fS b y
 |b,.cond _ x y=>fS b x++fS b y
 |_,.block id c=>fS id c
 |b,.loop c=>(b,c)::fS b c
 |b,.rangeFunc g ps x y=>[(b,.rangeFunc g ps x y)]
 |b,.scope c=>fS b c
 |_,_=>[]
def Cl(E:Env)(b:Nat)(c:Code):Prop:=
 ∀(s:Snap)(R:Type)(k:Ex->Snap->Option R)(r:R),E.L b s R k=some r->∃n e s',loopN (Hx E b c) n s=some (e,s')/\k e s'=some r
theorem yT(p:Nat->Prop):∀n,p n->∃m,p m/\∀j,p j->m<=j:=by
 intro n;induction n using Nat.strongRecOn with
 |_ n ih=>
  intro h;by_cases hj:∃j,j<n/\p j
  .obtain⟨j,hj,hp⟩:=hj;exact ih j hj hp
  .exact⟨n,h,λj hp=>Nat.le_of_not_lt λhl=>hj ⟨j,hl,hp⟩⟩
open Classical in
noncomputable def Fp(p:Nat->Prop):Nat:=if h:∃n,p n then (yT p h.choose h.choose_spec).choose else 0
theorem Rf{p:Nat->Prop}{n:Nat}(h:p n):p (Fp p)/\Fp p<=n:=by
 unfold Fp;have hx:∃n,p n:=⟨n,h⟩;rw[dif_pos hx];exact⟨(yT p hx.choose hx.choose_spec).choose_spec.1,(yT p hx.choose hx.choose_spec).choose_spec.2 n h⟩
theorem jxZ{P:Program}{F:Fence}{n0:Nat}{Q:Exit->Go.Act->World->Prop}{c:Code}(I:Nat->Go.Act->World->Prop){n:Nat}(h₀:I n a w)
  (round:∀n a w,I n a w->c.wpIn F n0 P (Exit.then (λa' w'=>∃m,m<n/\I m a' w') Q) a w):(Code.loop c).wpIn F n0 P Q a w:=by
 refine wpIn_loop (λa w=>∃n,I n a w) (λa w=>Fp λn=>I n a w) ⟨n,h₀⟩ (λa w hI=>?_);obtain⟨m,hm⟩:=hI;have hl:=(Rf (p:=λn=>I n a w) hm).1;refine wpIn_mono (round _ a w hl) (λe a' w' h=>?_);cases e with
 |normal=>obtain⟨m',aA,rv⟩:=h;exact⟨⟨m',rv⟩,Nat.lt_of_le_of_lt (Rf (p:=λn=>I n a' w') rv).2 aA⟩
 |_=>exact h
def Cm(w0:World)(refs:Refs):Prop:=
 refs.ds.Nodup/\∀d∈refs.ds,∃D,d={ target:= .collected D,args:=#[] }/\w0.heap.size<=D/\refs.kw D=some (.deferred (some []))
structure wT(w0:World)(refs refs':Refs):Prop where
 blks:refs'.blks=refs.blks
 val:refs'.val=refs.val
 fix:refs'.fix=refs.fix
 marks:Cm w0 refs'
theorem wT.trans{r r' Rg:Refs}(h:wT w0 r r')(h':wT w0 r' Rg):wT w0 r Rg:=⟨h'.blks.trans h.blks,h'.val.trans h.val,h'.fix.trans h.fix,h'.marks⟩
def Post(E:Env)(S0:aP)(w0:World)(refs:Refs)(pl:Bool){R:Type}(k:Ex->St->Option R)(r:R):Exit->Go.Act->World->Prop:=
 λe a' w'=>∃refs' ex σ' S' γ',wT w0 refs refs'/\(pl=true->refs'=refs)/\exOf ex=e/\Rel E.N E.np S0 w0 refs' σ' a' w' S' γ'/\dS σ'/\k ex σ'=some r
theorem Rh{E:Env}{pl:Bool}{R:Type}{k:Ex->St->Option R}{r:R}:¬LetsOut (Post E S0 w0 refs pl k r):=by
 rintro⟨a,w,refs',ex,_,_,_,_,_,he,_⟩
 cases ex<;>simp[exOf]at he
def BwOK(P:Program)(f:Nat)(t:Ty):Prop:=
 Fun P f/\∀(cv:Array Value)(m l:Nat)(J:Nat->aP->World->Prop)(Jx:World->Prop)(W:World)(S:aP),
  (∀j S W S' W',Grew W W'->yQ S W S' W'->J j S W->J j S' W')->(∀W W',Grew W W'->Jx W->Jx W')->(∀j S W,J j S W->∀g o,S g o->g<W.heap.size)->
  (∀j S W,j<m->J j S W->∃xs:List t.den,All2 (ic S W) [.p [⟨.list t,xs⟩]] cv.toList/\m-1-j<xs.length/\∀S' W' x v,Grew W W'->yQ S W S' W'->xs[m-1-j]? = some x->VRep S' W' ⟨t,x⟩ v->
   YieldAt (FR none) 0 P l #[.int .i64 ((m-1-j:Nat):Int),v] W' λe W'=>(e = .returned (.bool true)/\∃S',J (j+1) S' W')\/(e = .returned (.bool false)/\Jx W'))->
  (∃(S':aP)(xs:List t.den),xs.length=m/\(∀g o,S' g o->g<W.heap.size)/\All2 (ic S' W) [.p [⟨.list t,xs⟩]] cv.toList)->J 0 S W->
  CallsIn (FR none) 0 P f (#[.func (.yield l) #[] #[]]++cv) W λe W'=>(∃v,e = .returned v)/\((∃S',J m S' W')\/Jx W')
def ItOK(P:Program)(f:Nat)(kd:Bool)(t:Ty):Prop:=
 Fun P f/\∀(cv:Array Value)(l:Nat)(J:Int->aP->World->Prop)(Je Jx:World->Prop)(W:World)(S:aP)(fZ:List t.den),
  (∀c S W S' W',Grew W W'->yQ S W S' W'->J c S W->J c S' W')->(∀W W',Grew W W'->Je W->Je W')->(∀W W',Grew W W'->Jx W->Jx W')->(∀c S W,J c S W->∀g o,S g o->g<W.heap.size)->
  (∀c S W,J c S W->∃xs:List t.den,All2 (ic S W) [.p [⟨.list t,xs⟩]] cv.toList/\(Hw kd xs.length c=true->Je W)/\
   (Hw kd xs.length c=false->itOk kd xs.length c=true/\∀S' W' vs,Grew W W'->yQ S W S' W'->All2 (VRep S' W') (AY kd t xs c) vs->
    YieldAt (FR none) 0 P l vs.toArray W' λe W'=>(e = .returned (.bool true)/\∃S',J (AX kd c) S' W')\/(e = .returned (.bool false)/\Jx W')))->
  (∃S',(∀g o,S' g o->g<W.heap.size)/\All2 (ic S' W) [.p [⟨.list t,fZ⟩]] cv.toList)->J (AW kd fZ.length) S W->
  CallsIn (FR none) 0 P f (#[.func (.yield l) #[] #[]]++cv) W λe W'=>(∃v,e = .returned v)/\(Je W'\/Jx W')
theorem jEy{P:Program}{f:Nat}{t:Ty}(h:BwOK P f t):ItOK P f false t:=by
 refine⟨h.1,λcv l J Je Jx W S fZ aM hse hsx hh hY cR yU=>?_⟩;obtain⟨S',su,eG⟩:=cR;refine CallsIn.mono (h.2 cv fZ.length l (λj S W=>j<=fZ.length/\J ((fZ.length:Int)-j) S W) Jx W S (λj S W S' W' hg hs hj=>⟨hj.1,aM _ _ _ _ _ hg hs hj.2⟩) hsx (λj S W hj=>hh _ _ _ hj.2) ?_ ⟨S',fZ,rfl,su,eG⟩ ⟨kb _,?_⟩) ?_
 .rintro j S W hj ⟨_,hJ⟩
  obtain⟨xs,h1,_,h3⟩:=hY _ _ _ hJ;obtain⟨h4,h5⟩:=h3 (by show decide _=false;exact decide_eq_false (by omega));have h4:(fZ.length:Int)-j<=Int.ofNat xs.length:=q9 h4;have h4:(fZ.length:Int)-j<=(xs.length:Int):=h4;refine⟨xs,h1,by omega,λS' W' x v hg hs hx hv=>?_⟩
  have IW:All2 (VRep S' W') (AY false t xs ((fZ.length:Int)-j)) [.int .i64 ((fZ.length-1-j:Nat):Int),v]:=by
   refine⟨⟨?_,λhm=>absurd hm (show¬gK (.int .i64)=true by decide),λ_=>rfl⟩,?_,trivial⟩
   .show [Value.int .i64 ((fZ.length-1-j:Nat):Int)]=[Value.int .i64 ((fZ.length:Int)-j-1)];rw[show ((fZ.length-1-j:Nat):Int)=(fZ.length:Int)-j-1 by omega]
   .have e:List.getD xs ((fZ.length:Int)-j-1).toNat t.dflt=x:=by rw[show ((fZ.length:Int)-j-1).toNat=fZ.length-1-j by omega];simp[List.getD,hx]
    rw[e];exact hv
  obtain⟨fn,tmps,as,bo,hy,hR⟩:=h5 S' W' _ hg hs IW;refine⟨fn,tmps,as,bo,hy,hR.mono λe W' he=>?_⟩;rcases he with⟨h6,S6,h7⟩|h6
  .refine .inl ⟨h6,S6,by omega,?_⟩;have e2:AX false ((fZ.length:Int)-j)=(fZ.length:Int)-((j+1:Nat):Int):=by show (fZ.length:Int)-j-1=_;omega
   rw[<-e2];exact h7
  .exact .inr h6
 .have:((fZ.length:Int)-((0:Nat):Int))=AW false fZ.length:=by show _=Int.ofNat fZ.length;simp
  rw[this];exact yU
 .rintro e W' ⟨hv,⟨S',_,hJ⟩|hx⟩
  .obtain⟨xs,_,h2,_⟩:=hY _ _ _ hJ;exact⟨hv,.inl (h2 (by show decide _=true;exact y9 (by omega)))⟩
  .exact⟨hv,.inr hx⟩
def IX(P:Program)(E:Env)(ro:Option Nat)(c:Code):Prop:=
 ∀(b n:Nat){S0:aP}{w0:World}{refs:Refs}{σ:St}{a:Go.Act}{w:World}{S:aP}{γ:Nat->Value}{R:Type}{k:Ex->St->Option R}{r:R},Cm w0 refs->
  (∀x∈fS b c,Cl E x.1 x.2)->Rel E.N E.np S0 w0 refs σ a w S γ->dS σ->fh E b c σ k=some r->c.wpIn (FR ro) n P (Post E S0 w0 refs (dA c) k r) a w
theorem uv:∀(c:Code)(b:Nat),dA c=true->fS b c=[]
 |.seq x y,b,h=>by simp only[dA,jb]at h;simp[fS,uv x b h.1,uv y b h.2]
 |.cond _ x y,b,h=>by simp only[dA,jb]at h;simp[fS,uv x b h.1,uv y b h.2]
 |.block id c,b,h=>by simp only[dA]at h;simp[fS,uv c id h]
 |.loop c,b,h=>by simp[dA]at h
 |.rangeFunc _ _ _ _,b,h=>by simp[dA]at h
 |.skip,_,_=>rfl
 |.region _ _ _,_,_=>rfl
 |.exit _,_,_=>rfl
 |.goto _,_,_=>rfl
 |.label _,_,_=>rfl
 |.ret,_,_=>rfl
 |.scope c,b,h=>by simp only[dA]at h;simp[fS,uv c b h]
theorem Ri:∀(L:List (Nat×Value))(T:Array Value),oo (L.map (·.1))=true->(∀q∈L,q.1<T.size)->
  (∀q∈L,(L.foldl (λt (q:Nat×Value)=>t.setIfInBounds q.1 q.2) T).getD q.1 undef=q.2)/\(∀i,i∉L.map (·.1)->(L.foldl (λt (q:Nat×Value)=>t.setIfInBounds q.1 q.2) T).getD i undef=T.getD i undef)/\
  (L.foldl (λt (q:Nat×Value)=>t.setIfInBounds q.1 q.2) T).size=T.size
 |[],T,_,_=>⟨λq h=>by simp at h,λ_ _=>rfl,rfl⟩
 |q::r,T,hn,hb=>by
  simp only[ku,oo,jb,q7,qa,kp]at hn;obtain⟨h1,h2,h3⟩:=Ri r (T.setIfInBounds q.1 q.2) hn.2 (λp hp=>by simpa using hb p (by simp[hp]));have hq:=hb q (by simp);refine⟨λp hp=>?_,λi hi=>?_,by simpa using h3⟩
  .rcases jg.1 hp with rfl|hp
   .show (List.foldl (λt (q:Nat×Value)=>t.setIfInBounds q.1 q.2) (T.setIfInBounds p.1 p.2) r).getD p.1 undef=_;rw[h2 p.1 hn.1];simp[Array.getD,hq]
   .exact h1 p hp
  .simp only[ku,jg,not_or]at hi;show (List.foldl (λt (q:Nat×Value)=>t.setIfInBounds q.1 q.2) (T.setIfInBounds q.1 q.2) r).getD i undef=_;rw[h2 i hi.2];rw[z7,Array.getElem?_setIfInBounds,if_neg (λh=>hi.1 h.symm),<-z7]
theorem Rj{N:NT}{np:Nat}:∀(L:List (Nat×TV)){σ:St},Rel N np S0 w0 refs σ a w S γ->dS σ->(∀q∈L,VRep S w q.2 (tm a q.1))->Rel N np S0 w0 refs (setL L σ) a w S γ/\dS (setL L σ)
 |[],_,hR,hc,_=>⟨hR,hc⟩
 |q::r,σ,hR,hc,hv=>by
  have h1:=Iy hR (s:=q.1) (x:= .one (ob q.2.t q.2.v)) (yG (hv q (by simp)));refine Rj r h1 (λi=>?_) (λp hp=>hv p (by simp[hp]));simp only[St.setS];split
  .rfl
  .exact hc i
theorem Rl{S:aP}{w:World}:∀{ps:List Nat}{xs:List TV}{vs:List Value},All2 (VRep S w) xs vs->∀q∈ps.zip xs,∃v,(q.1,v)∈ps.zip vs/\VRep S w q.2 v
 |[],_,_,_,q,h=>by simp at h
 |p::ps,[],vs,_,q,h=>by simp at h
 |p::ps,x::xs,[],h2,q,h=>h2.elim
 |p::ps,x::xs,v::vs,h2,q,h=>by
  simp only[List.zip_cons_cons,jg]at h;rcases h with rfl|h
  .exact⟨v,by simp,h2.1⟩
  .obtain⟨u,h3,h4⟩:=Rl h2.2 q h;exact⟨u,by simp[h3],h4⟩
theorem Rm:∀(ps:List Nat)(vs:List Value),oo ps=true->oo ((ps.zip vs).map (·.1))=true
 |[],_,_=>by simp[oo]
 |p::ps,[],_=>by simp[oo]
 |p::ps,v::vs,h=>by
  simp only[oo,jb,q7,qa,kp,List.zip_cons_cons,ku]at h ⊢;refine⟨λhm=>h.1 ?_,Rm ps vs h.2⟩;obtain⟨q,hq,he⟩:=ka.1 hm;rw[<-he];exact(List.of_mem_zip hq).1
theorem jC9{kd:Bool}{t:Ty}{xs:List t.den}{c:Int}(h:kd=true->t=segT):(AY kd t xs c).length=cond kd 1 2:=by
 cases kd with
 |false=>rfl
 |true=>have:=h rfl;subst this;rfl
theorem jAc{P:Program}{E:Env}(sv:∀f t,E.bw f=some t->ItOK P f t.1 t.2)(pK:E.N.pin=λ_=>false){b n:Nat}{g:Operand}{ps:Array Nat}{x y:Code}
  (pL:∀l,dA x=true->IX P (E.rnd ps x y) (some l) x)(pM:∀l,dA y=true->IX P (E.rnd ps x y) (some l) y)
  (hLO:Cl E b (.rangeFunc g ps x y)){R:Type}{k:Ex->St->Option R}{r:R}(hm:Cm w0 refs)(hR:Rel E.N E.np S0 w0 refs σ a w S γ)(hc:dS σ)
  (h:fh E b (.rangeFunc g ps x y) σ k=some r) :
  (Code.rangeFunc g ps x y).wpIn (FR none) n P (Post E S0 w0 refs (dA (.rangeFunc g ps x y)) k r) a w:=by
 refine jD6 (n:=1) ?_;simp only[fh]at h;split at h
 case h_2=>simp at h
 rename_i f t xs oG;split at h
 case h_2=>simp at h
 rename_i kd bF;split at h
 case h_2=>simp at h
 rename_i s hs;obtain⟨fu0,e,s',pN,hk⟩:=hLO _ R _ r h;have bA:=oZ hR g;rw[oG]at bA;obtain⟨⟨cv,Rn,rk⟩,_⟩:=bA;obtain⟨S1,γ1,bD,fi⟩:=uj hR hc hs
 have parts:∀f t kd,rfK E b f t ps x y=some kd->E.bw f=some (kd,t)/\(kd=true->t=segT)/\ps.toList.length=cond kd 1 2/\oo ps.toList=true/\(∀p∈ps.toList,p<E.N.n)/\dA x=true/\dA y=true/\pinK ps x y (E.keep b)=true:=by
  intro f t kd bF;unfold rfK at bF;split at bF
  case h_2=>simp at bF
  rename_i q hq;cases pO:(decide (q.2=t)&&(cond q.1 (decide (t=segT)) true&&(decide (ps.toList.length=cond q.1 1 2)&&(oo ps.toList&&(ps.toList.all (λp=>decide (p<E.N.n))&&(dA x&&(dA y&&pinK ps x y (E.keep b)))))))) with
  |false=>rw[pO]at bF;simp at bF
  |true=>
  rw[pO,j5,j4]at bF;subst bF;simp only[jb,jq,jx]at pO;obtain⟨h1,h0,h2,h3,h4,h5,h6,h7⟩:=pO;exact⟨by rw[hq,<-h1],λhk=>by rw[hk]at h0;exact q9 h0,h2,h3,h4,h5,h6,h7⟩
 obtain⟨Ro,hsg,h2,dR,aA,sw,sx,Rp⟩:=parts f t kd bF;obtain⟨⟨Rq,IY,uw,cd⟩,yP⟩:=sv f _ Ro
 have heg:∀args w,(callFunc f args).run P w = .ok (.enter f args) w:=λargs w=>by
  have jV:¬Rq.body=none:=λhn=>by rw[hn]at uw;simp at uw
  have tW : ¬ Rq.name = "runtime.NumGoroutine" := by simpa using cd
  simp[callFunc,IY,jV,tW]
 refine wpIn_rangeFunc λfn _=>?_;obtain⟨rec,fp⟩:∃rec:LoopState->Option Code->Loop,rec=λst pe=>{ state:=st,pending:=pe,fn,tmps:=a.tmps,params:=ps,assign:=x,body:=y,defers:=w.heap.size }:=⟨_,rfl⟩;obtain⟨W1,yV⟩:∃W1,(w.alloc (.deferred (some []))).alloc (.loop (rec .ready none))=W1:=⟨_,rfl⟩
 refine⟨w.heap.size+1,[{ target:= .collected w.heap.size,args:=#[] }],W1,{ target:= .fn (.func f) cv,args:=#[.func (.yield (w.heap.size+1)) #[] #[]] },W1,f,
  #[.func (.yield (w.heap.size+1)) #[] #[]]++cv,W1,?_,?_,λ_ _=>trivial,?_,λhd=>by simp[FR,Fence.wide]at hd,?_⟩
 .rw[<-yV,fp];exact run_enterLoop_outer _ _ _ _ _
 .simp only[resolve,Rn];simp[go_sem]
 .simp[invoke,go_sem,heg]
 obtain⟨l,hl⟩:∃l,l=w.heap.size+1:=⟨_,rfl⟩;rw[<-hl];let cm:(Nat->Option Value)->Obj->Refs:=λfx o=>{ blks:=refs.blks,val:=refs.val,ds:=[],kw:=λg=>if g=l then some o else if g=w.heap.size then some (.deferred (some [])) else refs.kw g,fix:=fx }
 let fx:Nat->Option Value:=λi=>if yq ps x y i then some (a.tmps.getD i undef) else none
 let aI:Go.Act:={ tmps:=a.tmps,defers:=[] }
 have jG:∀fx o,(cm fx o).kw l=some o:=λfx o=>by simp[cm]
 have jH:w0.heap.size<=l:=by have:=hR.grow;omega
 have bJ:∀fx o,Cm w0 (cm fx o):=λfx o=>⟨zw,λd hd=>by simp[cm]at hd⟩
 have kR:∀{N:NT}{fx:Nat->Option Value}{o o':Obj}{σ:St}{a:Go.Act}{W:World}{S:aP}{γ:Nat->Value},o.isCells=false->o'.isCells=false->Rel N E.np S0 w0 (cm fx o) σ a W S γ->
   Rel N E.np S0 w0 (cm fx o') σ a (W.putObj l o') S γ:=by
  intro N fx o o' σ a W S γ h1 h2 hR;have:=hR.putO (jG fx o) jH h1 h2;refine this.swap rfl rfl this.size this.defers this.slot (λg u hg=>this.kept g u ?_) this.fix;simp only[cm]at hg ⊢;split
  .rename_i e;subst e;simpa using hg
  .rename_i e;simpa[e]using hg
 have pP:∀{N N':NT}{fx IZ:Nat->Option Value}{o:Obj}{K:Keep}{s:Snap}{a a':Go.Act}{W:World}{S:aP}{γ:Nat->Value},Rel N E.np S0 w0 (cm fx o) (da E.np K s) a W S γ->a'.tmps.size=N'.n->a'.defers=[]->
   (∀i∈K.slots,tm a' i=tm a i)->(∀i v,IZ i=some v->N'.pin i=true/\a'.tmps.getD i undef=v)->Rel N' E.np S0 w0 (cm IZ o) (da E.np K s) a' W S γ:=by
  intro N N' fx IZ o K s a a' W S γ hR h1 h2 h3 h4;exact hR.frame rfl rfl h1 h2 h3 (λg u hg=>hR.kept g u hg) h4
 have pQ:∀i v,(λ_=>none:Nat->Option Value) i=some v->E.N.pin i=true/\aI.tmps.getD i undef=v:=λi v h=>by simp at h
 let J:Int->aP->World->Prop:=λc S W=>∃s γ fu,Rel E.N E.np S0 w0 (cm (λ_=>none) (.loop (rec .ready none))) (da E.np (E.keep b) s) aI W S γ/\dS (da E.np (E.keep b) s)/\
  loopN (yr E b g ps x y) fu (.s (.one (.d (.int .i64) c))::s)=some (e,s')
 let Je:World->Prop:=λW=>∃S γ,Rel E.N E.np S0 w0 (cm (λ_=>none) (.loop (rec .ready none))) (da E.np (E.keepX b e) s') aI W S γ/\dS (da E.np (E.keepX b e) s')/\e = .normal
 let Jx:World->Prop:=λW=>∃S γ c,Rel E.N E.np S0 w0 (cm (λ_=>none) (.loop (rec .done (some c)))) (da E.np (E.keepX b e) s') aI W S γ/\dS (da E.np (E.keepX b e) s')/\
  ((e = .ret/\c = .ret)\/∃i,e = .exit i/\c = .exit i)
 have uy:∀K:Keep,pinK ps x y K=true->∀i∈K.slots,yq ps x y i=true:=λK hK i hi=>jx.1 hK i hi;have uz:∀i,yq ps x y i=true->i∉ps.toList:=by intro i hi;simp only[yq,jb,q7,qa,kp]at hi;exact hi.1
 have yU:J (AW kd xs.length) S1 W1:=by
  refine⟨s,γ1,fu0,?_,fi,pN⟩;have hA:=(bD.allocO (.deferred (some []))).allocO (.loop (rec .ready none));rw[yV]at hA;refine hA.frame rfl rfl hR.size rfl (λi _=>rfl) (λg' u aC=>?_) pQ;simp only[cm]at aC;split at aC
  .rename_i e';simp only[j4]at aC;subst aC;rw[e',hl];refine⟨?_,λk' b' aW dr=>?_⟩
   .rw[<-yV];have:=World.alloc_heap_new (w.alloc (.deferred (some []))) (.loop (rec .ready none));rwa[World.size_alloc]at this
   .have:=lU (bD.box k' b' aW) dr;omega
  .split at aC
   .rename_i _ e';simp only[j4]at aC;subst aC;rw[e'];refine⟨?_,λk' b' aW dr=>?_⟩
    .rw[<-yV];exact(heap_alloc_old _ _ (by simp)).trans (World.alloc_heap_new w _)
    .have:=lU (bD.box k' b' aW) dr;omega
   .exact hA.kept g' u aC
 have haI:aI.eval g=a.eval g:=by cases g<;>rfl
 have I0:aI.tmps.size=E.N.n:=hR.size
 have Cn:∀{K:Keep}{s:Snap}{o:Obj}{W W':World}{S:aP}{γ:Nat->Value},Grew W W'->Rel E.N E.np S0 w0 (cm (λ_=>none) o) (da E.np K s) aI W S γ->Rel E.N E.np S0 w0 (cm (λ_=>none) o) (da E.np K s) aI W' S γ:=
  λhg h1=>h1.grew hg ⟨λ_ _ h=>h,λ_ _ h=> .inl h,λg o h=>qn (h1.here g o h) hg.size⟩
 refine CallsIn.mono (yP cv l J Je Jx W1 S1 xs (λc S W S' W' hg hs ⟨s,γ,fu,h1,h2,h3⟩=>⟨s,γ,fu,h1.grew hg hs,h2,h3⟩) (λW W' hg ⟨S,γ,h1,h2⟩=>⟨S,γ,Cn hg h1,h2⟩) (λW W' hg ⟨S,γ,c,h1,h2⟩=>⟨S,γ,c,Cn hg h1,h2⟩)
  (λc S W ⟨s,γ,fu,h1,_⟩=>h1.here) ?_ ?_ yU) ?_
 ·-- a round
  rintro cn S W ⟨s,γ,fu,yW,Rr,ry⟩
  cases fu with
  |zero=>simp[loopN]at ry
  |succ fu=>
  simp only[loopN]at ry;cases aM:yr E b g ps x y (.s (.one (.d (.int .i64) cn))::s) with
  |none=>rw[aM]at ry;simp at ry
  |some r0=>
  rw[aM]at ry;unfold yr AZ at aM;dsimp only at aM;split at aM
  case h_2=>simp at aM
  rename_i f' t' cI I1;split at aM
  case h_2=>simp at aM
  rename_i kd' nH;have kL:=oZ yW g;rw[I1,haI,Rn]at kL;obtain⟨⟨cv',Co,cR⟩,_⟩:=kL;simp only[Value.func.injEq,Fn.func.injEq,qh]at Co;obtain⟨rfl,rfl⟩:=Co;have ht:=(parts f t' kd' nH).1;rw[Ro]at ht;simp only[j4,j8]at ht;obtain⟨rfl,rfl⟩:=ht;refine⟨cI,cR,λI2=>?_,λI2=>?_⟩
  .rw[I2,j5]at aM;cases nK:pinK ps x y (E.keepX b .normal) with
   |false=>rw[nK]at aM;simp at aM
   |true=>
   rw[nK,j5]at aM;split at aM
   case h_2=>simp at aM
   rename_i s3 hs3;simp only[j4]at aM;subst aM;simp only[j4,j8]at ry;obtain⟨rfl,rfl⟩:=ry;obtain⟨S5,γ5,mP,Cp⟩:=uj yW Rr hs3;exact⟨S5,γ5,mP,Cp,rfl⟩
  rw[I2,j6]at aM;cases hle:itOk kd cI.length cn with
  |false=>rw[hle]at aM;simp at aM
  |true=>
  rw[hle,j5]at aM;refine⟨rfl,λSg Wg vs hgw sy lX=>?_⟩;have yW:=yW.grew hgw sy;have tR:vs.toArray.size=ps.size:=by have e1:=lX.length;rw[jC9 hsg]at e1;simp only[vd];rw[<-e1,<-h2,qe]
  refine⟨fn,_,x,y,by have:=run_yield (P:=P) (args:=vs.toArray) (yW.kept l _ (jG _ _)).1 (by rw[fp];exact tR);rw[fp]at this;exact this,roundIn_of_wpIn trivial ?_⟩;let a1:Go.Act:={ tmps:=(ps.zip vs.toArray).foldl (λt (q:Nat×Value)=>t.setIfInBounds q.1 q.2) a.tmps,defers:=[] }
  have iH:(ps.zip vs.toArray).toList=ps.toList.zip vs:=by simp
  have ha1:a1.tmps=(ps.toList.zip vs).foldl (λt (q:Nat×Value)=>t.setIfInBounds q.1 q.2) a.tmps:=by show (ps.zip vs.toArray).foldl _ _=_;rw[<-Array.foldl_toList,iH]
  have gq:∀i,i∈(ps.toList.zip vs).map (·.1)->i∈ps.toList:=λi hi=>by
   obtain⟨q,hq,rfl⟩:=ka.1 hi;exact(List.of_mem_zip hq).1
  have I3:oo ((ps.toList.zip vs).map (·.1))=true:=Rm _ _ dR;obtain⟨E8,iF,Rs⟩:=Ri (ps.toList.zip vs) a.tmps I3 (λq hq=>by rw[hR.size];exact aA _ (List.of_mem_zip hq).1);rw[<-ha1]at E8 iF Rs;have I4:a1.tmps.size=E.N.n:=Rs.trans hR.size;have wO:∀i,i∉ps.toList->tm a1 i=tm aI i:=λi hi=>iF i (λh=>hi (gq i h))
  have hRa:Rel (E.rnd ps x y).N E.np S0 w0 (cm fx (.loop (rec .ready none))) (da E.np (E.keep b) s) a1 Wg Sg γ:=pP yW I4 rfl (λi hi=>wO i (uz i (uy _ Rp i hi))) (λi u hu=>by
   simp only[fx]at hu;split at hu
   .rename_i hp;simp only[j4]at hu;refine⟨hp,?_⟩;show tm a1 i=u;rw[wO i (uz i hp)];exact hu
   .simp at hu)
  obtain⟨hRc,px⟩:=Rj (ps.toList.zip (AY kd t cI cn)) hRa Rr (λq hq=>by
   obtain⟨v,h3,h4⟩:=Rl lX q hq;have:=E8 _ h3;show VRep Sg Wg q.2 (a1.tmps.getD q.1 undef);rw[this];exact h4)
  refine wpIn_mono (pL l sw 0 0 (bJ _ _) (by rw[uv x 0 sw];simp) hRc px aM) ?_
  rintro e1 a2 w2 ⟨iN,ex,σ2,S2,γ2,_,fm,rfl,cW,fW,eW⟩
  have:=fm sw;subst this;cases ex with
  |exit i=>simp at eW
  |ret=>simp at eW
  |normal=>
  refine⟨_,run_beginRound (cW.kept l _ (jG _ _)).1 (by rw[fp]),?_⟩;have gI:Rel (E.rnd ps x y).N E.np S0 w0 (cm fx (.loop (rec .busy none))) σ2 a2 (w2.putObj l (.loop { rec .ready none with state:= .busy })) S2 γ2:=by have:=kR (o':= .loop (rec .busy none)) rfl rfl cW;rw[fp]at this ⊢;exact this
  refine wpIn_mono (pM l sx 0 0 (bJ _ _) (by rw[uv y 0 sx];simp) gI fW eW) ?_
  rintro e1 a3 w3 ⟨Ru,ex,σ3,S3,γ3,_,fm,rfl,rz,rA,wU⟩
  have:=fm sx;subst this
  have kU:∀{K:Keep}{s:Snap}{o:Obj}{W:World}{S:aP}{γ:Nat->Value},pinK ps x y K=true->Rel (E.rnd ps x y).N E.np S0 w0 (cm fx o) (da E.np K s) a3 W S γ->
    Rel E.N E.np S0 w0 (cm (λ_=>none) o) (da E.np K s) aI W S γ:=λhK hR=>pP hR I0 rfl (λi hi=>by
   have:=(hR.fix i (a.tmps.getD i undef) (by simp only[cm,fx];rw[if_pos (uy _ hK i hi)])).2;exact this.symm) pQ
  have pR:∀(ex:Ex)(c:Code),((ex = .ret/\c = .ret)\/∃i,ex = .exit i/\c = .exit i)->
    (cond (pinK ps x y (E.keepX b ex)) (match iS E.np (E.keepX b ex) σ3 with
     |some s'=>some (Sum.inr (ex,s'))
     |none=>none) none:Option (Snap ⊕ Ex×Snap))=some r0->
    ∃v w',(Instr.endRound l (some c)).run P w3 = .ok v w'/\((Ending.returned v = .returned (.bool true)/\∃S',J (AX kd cn) S' w')\/(Ending.returned v = .returned (.bool false)/\Jx w')):=by
   intro ex c hex pS;cases nK:pinK ps x y (E.keepX b ex) with
   |false=>rw[nK]at pS;simp at pS
   |true=>
   rw[nK,j5]at pS;split at pS
   case h_2=>simp at pS
   rename_i s2 nn;simp only[j4]at pS;subst pS;simp only[j4,j8]at ry;obtain⟨rfl,rfl⟩:=ry;obtain⟨S5,γ5,mP,Cp⟩:=uj rz rA nn;refine⟨_,_,run_endRound (some c) (mP.kept l _ (jG _ _)).1,.inr ⟨rfl,S5,γ5,c,?_,Cp,hex⟩⟩;have:=kR (o':= .loop (rec .done (some c))) rfl rfl (kU nK mP);rw[fp]at this ⊢;exact this
  cases ex with
  |normal=>
   dsimp only at wU
   split at wU
   case h_2=>simp at wU
   rename_i s2 nn;simp only[j4]at wU;subst wU;obtain⟨S5,γ5,mP,Cp⟩:=uj rz rA nn;show∃v w',(Instr.endRound l none).run P w3 = .ok v w'/\_;refine⟨_,_,run_endRound none (mP.kept l _ (jG _ _)).1,.inl ⟨rfl,S5,s2,γ5,fu,?_,Cp,?_⟩⟩
   .have:=kR (o':= .loop (rec .ready none)) rfl rfl (kU Rp mP);rw[fp]at this ⊢;exact this
   .exact ry
  |exit i=>exact pR _ _ (.inr ⟨i,rfl,rfl⟩) wU
  |ret=>exact pR _ _ (.inl ⟨rfl,rfl⟩) wU
 .refine⟨S,λg o h=>by rw[<-yV];have:=hR.here g o h;simp;omega,rk.mono λx z hx=>?_⟩;rw[<-yV]
  exact ic.keep (λg o h=>⟨h,by
   have:=hR.here g o h;rw[World.cell?_alloc_lt _ _ _ (by simp;omega),World.cell?_alloc_lt _ _ _ this]⟩) hx
 .rintro e2 W2 ⟨⟨v,rfl⟩,eu⟩
  have kU:∀{K:Keep}{s:Snap}{o:Obj}{W:World}{S:aP}{γ:Nat->Value},Rel E.N E.np S0 w0 (cm (λ_=>none) o) (da E.np K s) aI W S γ->
    ∃refs',wT w0 refs refs'/\Rel E.N E.np S0 w0 refs' (da E.np K s) { a with defers:=[{ target:= .collected w.heap.size,args:=#[] }]++a.defers } W S γ:=by
   intro K s o W S γ Rv;refine⟨{ blks:=refs.blks,val:=refs.val,ds:={ target:= .collected w.heap.size,args:=#[] }::refs.ds,kw:=λg=>if g=w.heap.size then some (.deferred (some [])) else refs.kw g,fix:=refs.fix },⟨rfl,rfl,rfl,?_,?_⟩,?_⟩
   .refine qs.2 ⟨λiL=>?_,hm.1⟩;obtain⟨D,hD,_,Rw⟩:=hm.2 _ iL;simp only[Deferred.mk.injEq,Target.collected.injEq,and_true]at hD;rw[<-hD,hR.kw_new (jl _)]at Rw;simp at Rw
   .intro d hd;rcases jg.1 hd with rfl|hd
    .exact⟨w.heap.size,rfl,hR.grow,by simp⟩
    .obtain⟨D,rfl,h1,h2⟩:=hm.2 d hd;refine⟨D,rfl,h1,?_⟩;show (if D=w.heap.size then _ else refs.kw D)=_;rw[if_neg,h2]
     rintro rfl
     rw[hR.kw_new (jl _)]at h2;simp at h2
   .refine Rv.frame rfl rfl hR.size (by rw[hR.defers];rfl) (λi _=>rfl) (λg' u aC=>Rv.kept g' u ?_) (λi v hv=>?_)
    .simp only[cm]at aC ⊢;by_cases h1:g'=l
     .exfalso;subst h1;rw[if_neg (by omega),hR.kw_new (by omega)]at aC;simp at aC
     .rw[if_neg h1];exact aC
    .have:=(hR.fix i v hv).1;rw[pK]at this;simp at this
  rcases eu with⟨S2,γ2,sC,hce,rfl⟩|⟨S2,γ2,c,yJ,ET,hex⟩
  .refine⟨none,_,by have:=run_endLoop (P:=P) (sC.kept l _ (jG _ _)).1 (by rw[fp];simp);rw[fp]at this;exact this,?_⟩;have uA:=kR (o':= .loop { rec .ready none with state:= .exhausted }) rfl rfl sC;obtain⟨refs',hle,sC⟩:=kU uA;rw[fp]at sC;exact⟨refs',.normal,_,S2,γ2,hle,λhf=>by simp[dA]at hf,rfl,sC,hce,hk⟩
  .have uA:=kR (o':= .loop { rec .done (some c) with state:= .exhausted }) rfl rfl yJ;obtain⟨refs',hle,sC⟩:=kU uA;refine⟨some c,_,by have:=run_endLoop (P:=P) (yJ.kept l _ (jG _ _)).1 (by rw[fp];simp);rw[fp]at this;exact this,?_⟩;rw[fp]at sC;rcases hex with⟨rfl,rfl⟩|⟨i,rfl,rfl⟩
   .exact wpIn_ret ⟨refs',.ret,_,S2,γ2,hle,λhf=>by simp[dA]at hf,rfl,sC,ET,hk⟩
   .exact wpIn_exit ⟨refs',.exit i,_,S2,γ2,hle,λhf=>by simp[dA]at hf,rfl,sC,ET,hk⟩
theorem jwv{P:Program}(jI:P.follows .mixedOrders=true):∀(c:Code){E:Env}{ro:Option Nat},cH P E.T->lI P E.C->CFun E.C->
  (ro=none->(∀f t,E.bw f=some t->ItOK P f t.1 t.2)/\E.N.pin=λ_=>false)->(ro=none\/dA c=true)->IX P E ro c:=by
 intro c;induction c with
 |skip=>intro E ro hT hC hF gD hp b n S0 w0 refs σ a w S γ R k r hm hL hR hc h;exact wpIn_skip ⟨refs,.normal,σ,S,γ,⟨rfl,rfl,rfl,hm⟩,λ_=>rfl,rfl,hR,hc,h⟩
 |label l=>intro E ro hT hC hF gD hp b n S0 w0 refs σ a w S γ R k r hm hL hR hc h;exact wpIn_label ⟨refs,.normal,σ,S,γ,⟨rfl,rfl,rfl,hm⟩,λ_=>rfl,rfl,hR,hc,h⟩
 |region Rx ops draw=>
  intro E ro hT hC hF gD hp b n S0 w0 refs σ a w S γ R k r hm hL hR hc h
  have Cq:ro=none\/∀o∈ops.toList,∀c,o.op ≠ .defer c:=hp.imp id λhp o ho c hd=>by
   have:=jx.1 hp o ho;simp[Pg,hd]at this
  cases draw with
  |true=>simp only[fh]at h;exact wpIn_region_any jI (Fo Cq Rh _ _ _ _ (jwr hT hC hF hR hc (λσ' a' w' S' γ' df eG hk=>⟨refs,.normal,σ',S',γ',⟨rfl,rfl,rfl,hm⟩,λ_=>rfl,rfl,df,eG,hk⟩) h))
  |false=>simp only[fh]at h;exact wpIn_region (Ck Cq Rh _ _ _ (QG hT hC hR hc (λσ' a' w' S' γ' df eG hk=>⟨refs,.normal,σ',S',γ',⟨rfl,rfl,rfl,hm⟩,λ_=>rfl,rfl,df,eG,hk⟩) h))
 |seq x y pL pM=>
  intro E ro hT hC hF gD hp b n S0 w0 refs σ a w S γ R k r hm hL hR hc h;simp only[fh]at h;have sw:ro=none\/dA x=true:=hp.imp id λh=>by simp only[dA,jb]at h;exact h.1
  have sx:ro=none\/dA y=true:=hp.imp id λh=>by simp only[dA,jb]at h;exact h.2
  refine wpIn_seq (wpIn_mono (pL hT hC hF gD sw b n hm (λz hz=>hL z (by simp[fS,hz])) hR hc h) ?_)
  rintro e a' w' ⟨refs',ex,σ',S',γ',hle,fm,rfl,df,eG,hk⟩
  have hx:dA (.seq x y)=true->refs'=refs:=λh=>by simp only[dA,jb]at h;exact fm h.1
  cases ex with
  |normal=>
   refine wpIn_mono (pM hT hC hF gD sx b n hle.marks (λz hz=>hL z (by simp[fS,hz])) df eG hk) ?_
   rintro e2 a2 w2 ⟨iN,ex,σ2,S2,γ2,ij,I5,rfl,cW,fW,eW⟩
   refine⟨iN,ex,σ2,S2,γ2,hle.trans ij,λh=>?_,rfl,cW,fW,eW⟩;have h1:=hx h;simp only[dA,jb]at h;rw[I5 h.2,h1]
  |exit i=>exact⟨refs',.exit i,σ',S',γ',hle,hx,rfl,df,eG,hk⟩
  |ret=>exact⟨refs',.ret,σ',S',γ',hle,hx,rfl,df,eG,hk⟩
 |cond c x y pL pM=>
  intro E ro hT hC hF gD hp b n S0 w0 refs σ a w S γ R k r hm hL hR hc h;simp only[fh]at h;have sw:ro=none\/dA x=true:=hp.imp id λh=>by simp only[dA,jb]at h;exact h.1
  have sx:ro=none\/dA y=true:=hp.imp id λh=>by simp only[dA,jb]at h;exact h.2
  split at h
  .rename_i v hv;have oG:=oZ hR c;rw[hv]at oG;have I6:a.eval c = .bool v:=rb oG;refine wpIn_cond I6 ?_;cases v with
   |true=>
    refine wpIn_mono (pL hT hC hF gD sw b n hm (λz hz=>hL z (by simp[fS,hz])) hR hc h) ?_
    rintro e a' w' ⟨refs',ex,σ',S',γ',hle,fm,he,hr⟩
    exact⟨refs',ex,σ',S',γ',hle,λh=>by simp only[dA,jb]at h;exact fm h.1,he,hr⟩
   |false=>
    refine wpIn_mono (pM hT hC hF gD sx b n hm (λz hz=>hL z (by simp[fS,hz])) hR hc h) ?_
    rintro e a' w' ⟨refs',ex,σ',S',γ',hle,fm,he,hr⟩
    exact⟨refs',ex,σ',S',γ',hle,λh=>by simp only[dA,jb]at h;exact fm h.2,he,hr⟩
  .simp at h
 |block id c ih=>
  intro E ro hT hC hF gD hp b n S0 w0 refs σ a w S γ R k r hm hL hR hc h;simp only[fh]at h;refine wpIn_block (wpIn_mono (ih hT hC hF gD hp id n hm (λz hz=>hL z (by simpa[fS]using hz)) hR hc h) ?_)
  rintro e a' w' ⟨refs',ex,σ',S',γ',hle,fm,rfl,df,eG,hk⟩
  cases ex with
  |normal=>exact⟨refs',.normal,σ',S',γ',hle,fm,rfl,df,eG,hk⟩
  |exit i=>
   simp only[exOf,Exit.inBlock];simp only at hk;split
   .rename_i hi;rw[if_pos hi]at hk;exact⟨refs',.normal,σ',S',γ',hle,fm,rfl,df,eG,hk⟩
   .rename_i hi;rw[if_neg hi]at hk;exact⟨refs',.exit i,σ',S',γ',hle,fm,rfl,df,eG,hk⟩
  |ret=>exact⟨refs',.ret,σ',S',γ',hle,fm,rfl,df,eG,hk⟩
 |scope c ih=>intro E ro hT hC hF gD hp b n S0 w0 refs σ a w S γ R k r hm hL hR hc h;simp only[fh]at h;refine jwt (λl a w hq=>?_) (ih hT hC hF gD hp b n hm (λz hz=>hL z (by simpa[fS]using hz)) hR hc h);obtain⟨_,ex,_,_,_,_,_,he,_⟩:=hq;cases ex<;>simp[exOf]at he
 |loop c ih=>
  intro E ro hT hC hF gD hp b n S0 w0 refs σ a w S γ R k r hm hL hR hc h;have I7:ro=none:=hp.resolve_right (by simp[dA]);simp only[fh]at h;cases I8:isRf c with
  |true=>rw[I8]at h;simp at h
  |false=>
  rw[I8,j6]at h;split at h
  .rename_i s hs;obtain⟨n1,e,s',hn,hk⟩:=hL (b,c) (by simp[fS]) s R _ r h
   have dU:Hx E b c=vL E b c:=by
    funext s
    cases c<;>first|rfl|simp[isRf]at I8
   rw[dU]at hn;obtain⟨S1,γ1,bD,fi⟩:=uj hR hc hs;refine jxZ (λn a w=>∃refs' s S γ,wT w0 refs refs'/\Rel E.N E.np S0 w0 refs' (da E.np (E.keep b) s) a w S γ/\dS (da E.np (E.keep b) s)/\loopN (vL E b c) n s=some (e,s')) ⟨refs,s,S1,γ1,⟨rfl,rfl,rfl,hm⟩,bD,fi,hn⟩ ?_
   rintro m a1 w1 ⟨Ry,s1,S2,γ2,l5,cW,fW,iL⟩
   cases m with
   |zero=>simp[loopN]at iL
   |succ m=>
    simp only[loopN]at iL;cases aM:vL E b c s1 with
    |none=>simp[aM]at iL
    |some out=>
     rw[aM]at iL;unfold vL at aM;refine wpIn_mono (ih hT hC hF gD (.inl I7) b n l5.marks (λz hz=>hL z (by simp[fS,hz])) cW fW aM) ?_
     rintro e2 a2 w2 ⟨iN,ex,σ2,S3,γ3,ij,_,rfl,gI,Cc,kV⟩
     cases ex with
     |normal=>
      simp only at kV;split at kV
      .rename_i s2 nn;simp only[j4]at kV;subst kV;obtain⟨S4,γ4,rz,rA⟩:=uj gI Cc nn;exact⟨m,Nat.lt_succ_self m,iN,s2,S4,γ4,l5.trans ij,rz,rA,iL⟩
      .simp at kV
     |exit i=>
      simp only at kV;split at kV
      .rename_i s2 nn;simp only[j4]at kV;subst kV;obtain⟨S4,γ4,rz,rA⟩:=uj gI Cc nn;simp only[j4,j8]at iL;obtain⟨rfl,rfl⟩:=iL;exact⟨iN,.exit i,_,S4,γ4,l5.trans ij,λhf=>by simp[dA]at hf,rfl,rz,rA,hk⟩
      .simp at kV
     |ret=>
      simp only at kV;split at kV
      .rename_i s2 nn;simp only[j4]at kV;subst kV;obtain⟨S4,γ4,rz,rA⟩:=uj gI Cc nn;simp only[j4,j8]at iL;obtain⟨rfl,rfl⟩:=iL;exact⟨iN,.ret,_,S4,γ4,l5.trans ij,λhf=>by simp[dA]at hf,rfl,rz,rA,hk⟩
      .simp at kV
  .simp at h
 |rangeFunc g ps x y pL pM=>
  intro E ro hT hC hF gD hp b n S0 w0 refs σ a w S γ R k r hm hL hR hc h;have I7:ro=none:=hp.resolve_right (by simp[dA]);subst I7;obtain⟨sv,pK⟩:=gD rfl
  exact jAc sv pK (λl hx=>pL (E:=E.rnd ps x y) hT hC hF (λh=>by simp at h) (.inr hx)) (λl hy=>pM (E:=E.rnd ps x y) hT hC hF (λh=>by simp at h) (.inr hy))
   (hL (b,.rangeFunc g ps x y) (by simp[fS])) hm hR hc h
 |exit i=>intro E ro hT hC hF gD hp b n S0 w0 refs σ a w S γ R k r hm hL hR hc h;exact wpIn_exit ⟨refs,.exit i,σ,S,γ,⟨rfl,rfl,rfl,hm⟩,λ_=>rfl,rfl,hR,hc,h⟩
 |ret=>intro E ro hT hC hF gD hp b n S0 w0 refs σ a w S γ R k r hm hL hR hc h;exact wpIn_ret ⟨refs,.ret,σ,S,γ,⟨rfl,rfl,rfl,hm⟩,λ_=>rfl,rfl,hR,hc,h⟩
 |goto l=>intro E ro hT hC hF gD hp b n S0 w0 refs σ a w S γ R k r hm hL hR hc h;simp[fh]at h
 |refuse y=>intro E ro hT hC hF gD hp b n S0 w0 refs σ a w S γ R k r hm hL hR hc h;simp[fh]at h
end
section
variable{N:NT}{np:Nat}{S0:aP}{w0:World}{refs:Refs}{σ:St}{a:Go.Act}{w:World}{S:aP}{γ:Nat->Value}
def wV:Arg->Bool
 |.ref _=>true
 |.rl _ _=>true
 |_=>false
def Cr(args:List Arg)(vals:List Value)(k:Nat):Option Value:=
 if k%64=0 then match args[k/64]? with
  |some x=>if wV x then vals[k/64]? else none
  |none=>none
 else none
def oH(args:List Arg)(vals:List Value):Refs:={ blks:=ej args vals,val:=Cr args vals }
def γ0(vals:List Value)(k:Nat):Value:=vals.getD (k/64) undef
theorem Fq:∀{as:List Arg}{us:List Value}{i:Nat}{x:Arg}{u:Value}{g:Nat},as[i]? = some x->us[i]? = some u->lG x u=some g->g∈ej as us
 |y::as,v::us,0,x,u,g,h,h',hg=>by
  simp at h h';subst h;subst h';simp[ej,hg]
 |y::as,v::us,i+1,x,u,g,h,h',hg=>by
  have:=Fq (as:=as) (us:=us) (i:=i) (by simpa using h) (by simpa using h') hg;simp[ej,this]
 |[],_,_,_,_,_,h,_,_=>by simp at h
 |_::_,[],_,_,_,_,_,h',_=>by simp at h'
theorem Rz:∀{as:List Arg}{us:List Value}{i j:Nat}{x y:Arg}{u v:Value}{g:Nat},(ej as us).Nodup->as[i]? = some x->us[i]? = some u->as[j]? = some y->us[j]? = some v->
  lG x u=some g->lG y v=some g->i=j
 |z::as,t::us,0,0,_,_,_,_,_,_,_,_,_,_,_,_=>rfl
 |z::as,t::us,0,j+1,x,y,u,v,g,hn,hx,hu,hy,hv,h1,h2=>by
  simp at hx hu;subst hx;subst hu;have:=Fq (as:=as) (us:=us) (i:=j) (by simpa using hy) (by simpa using hv) h2;simp[ej,h1]at hn;exact absurd this hn.1
 |z::as,t::us,i+1,0,x,y,u,v,g,hn,hx,hu,hy,hv,h1,h2=>by
  simp at hy hv;subst hy;subst hv;have:=Fq (as:=as) (us:=us) (i:=i) (by simpa using hx) (by simpa using hu) h1;simp[ej,h2]at hn;exact absurd this hn.1
 |z::as,t::us,i+1,j+1,x,y,u,v,g,hn,hx,hu,hy,hv,h1,h2=>by
  have ID:(ej as us).Nodup:=by simp only[ej]at hn;exact(qq.1 hn).2.1
  rw[Rz ID (i:=i) (j:=j) (by simpa using hx) (by simpa using hu) (by simpa using hy) (by simpa using hv) h1 h2]
 |[],_,_,_,_,_,_,_,_,_,h,_,_,_,_,_=>by simp at h
 |_::_,[],_,_,_,_,_,_,_,_,_,h,_,_,_,_=>by simp at h
theorem jAd{args:List Arg}{vals:List Value}(ha:All2 (mJ S w) args vals)(dR:(ej args vals).Nodup)(hS:∀g o,S g o->g<w.heap.size)(hlen:args.length=np)(hN:np<=N.n) :
  Rel N np S w (oH args vals) (St.init args) ⟨vals.toArray++Array.replicate (N.n-vals.toArray.size) undef,[]⟩ w S (γ0 vals)/\dS (St.init args):=by
 have tR:vals.length=np:=by rw[<-ha.length,hlen]
 have wO:∀i u,vals[i]? = some u->(vals.toArray++Array.replicate (N.n-vals.toArray.size) undef).getD i undef=u:=by intro i u hu;have hi:i<vals.length:=(ju.1 hu).1;rw[z7,Array.getElem?_append_left (by simpa using hi)];simp[hu]
 have iI:∀i u,vals[i]? = some u->γ0 vals (i*64)=u:=by intro i u hu;simp only[γ0];rw[vq _ (by omega)];simp[hu]
 have fa:∀k b,(St.init args).bx k = .live b->∃i x u,k=i*64/\args[i]? = some x/\vals[i]? = some u/\mJ S w x u/\nh (some x) = .live b:=by
  intro k b hb;simp only[St.init]at hb;split at hb
  .rename_i hk;cases hx:args[k/64]? with
   |none=>simp[hx,nh]at hb
   |some x=>obtain⟨u,hu,iM⟩:=ha.get _ x hx;exact⟨k/64,x,u,by omega,hx,hu,iM,by rw[hx]at hb;exact hb⟩
  .simp at hb
 have Cs:∀i x,args[i]? = some x->(St.init args).bx (i*64)=nh (some x):=by intro i x hx;simp only[St.init];rw[if_pos (by omega),vq _ (by omega),hx]
 have hblk:∀x u b,nh (some x) = .live b->lG x u=blk u:=by intro x u b hb;cases x<;>first|rfl|simp[nh]at hb
 refine⟨⟨?_,rfl,?_,?_,?_,?_,λ_ _ h=>h,λ_ _ h=> .inl h,hS,λ_ _ _=>rfl,jl _,rfl,rfl,rfl,?_,λg o h=>by simp[oH]at h,λi v h=>by simp[oH]at h⟩,?_⟩
 .simp;omega
 .intro i
  have ee:(St.init args).sl i=match args[i]? with
   |some a=> .one (EF i a)
   |none=> .one (.one .dead):=rfl
  rw[ee];cases hx:args[i]? with
  |none=>exact⟨trivial,λh=>absurd rfl h⟩
  |some x=>
   obtain⟨u,hu,iM⟩:=ha.get i x hx;show bR S w (γ0 vals) (St.init args).bx (EF i x) _;rw[wO i u hu];have hb:=Cs i x hx;cases x with
   |v x=>exact yG iM
   |ref ls=>obtain⟨g,cur,e,h1,_⟩:=id iM;exact⟨⟨by rw[hb];simp[nh],by rw[h1];rfl,λb _=>⟨g,(iI i u hu).trans h1,h1⟩⟩,λ_=>by rw[h1];rfl⟩
   |rl e x=>obtain⟨t,xs,rfl,cK,_⟩:=id iM;have cX:One u:=cK.one;exact⟨⟨by rw[hb];simp[nh],cX,λb _=>(iI i u hu).symm⟩,λ_=>cX⟩
   |ip ls=>obtain⟨g,o,cs,h1,_⟩:=id iM;exact⟨iM,λ_=>by rw[h1];rfl⟩
   |clo f caps=>obtain⟨cv,h1,_⟩:=id iM;exact⟨iM,λ_=>by rw[h1];rfl⟩
 .intro k b hb;obtain⟨i,x,u,rfl,hx,hu,iM,di⟩:=fa k b hb;cases x with
  |ref ls=>simp only[nh,BS.live.injEq]at di;subst di;exact Ic (iI i u hu) iM
  |rl e x=>obtain⟨t,xs,rfl,_⟩:=id iM;simp only[nh,BS.live.injEq]at di;subst di;exact BH (iI i u hu) iM
  |_=>simp[nh]at di
 .intro k b g hb hg;obtain⟨i,x,u,rfl,hx,hu,iM,di⟩:=fa k b hb;rw[iI i u hu,<-hblk x u b di]at hg;refine .inr ⟨Fq hx hu hg,?_⟩;have:i<args.length:=(ju.1 hx).1;simp[parK];omega
 .intro k k' b b' g bq hb aW hg aC;obtain⟨i,x,u,rfl,hx,hu,iM,di⟩:=fa k b hb;obtain⟨j,y,v,rfl,hy,hv,I9,Ct⟩:=fa k' b' aW;rw[iI i u hu,<-hblk x u b di]at hg;rw[iI j v hv,<-hblk y v b' Ct]at aC;exact bq (by rw[Rz dR hx hu hy hv hg aC])
 .intro k v hv;simp only[oH,Cr]at hv;split at hv
  .rename_i hk;split at hv
   .rename_i x hx;split at hv
    .rename_i hr;have hi:k/64<args.length:=(ju.1 hx).1;have br:k=(k/64)*64:=by omega
     refine⟨by simp[parK,hk];omega,?_,?_⟩
     .rw[br,Cs _ x hx];cases x with
      |rl e y=>obtain⟨u,hu,iM⟩:=ha.get _ _ hx;obtain⟨t,xs,rfl,_⟩:=iM;simp[nh]
      |ref ls=>simp[nh]
      |_=>simp[wV]at hr
     .rw[br];exact iI _ v hv
    .simp at hv
   .simp at hv
  .simp at hv
 .intro i;show ((match args[i]? with|some a=>Slot.one (EF i a)|none=> .one (.one .dead)):Slot).bare=true;split<;>rfl
theorem Ja{α β:Type}{P:Program}(f:α->Sem β):∀{rs:List α}{zs:List β},All2 (λr z=>(f r).run P w = .ok z w) rs zs->(rs.mapM f).run P w = .ok zs w
 |[],[],_=>by simp
 |r::rs,z::zs,h=>by
  simp only[ze,Sem.run_bind,h.1,Result.andThen_ok,Ja f h.2,Sem.run_pure]
 |[],_::_,h=>h.elim
 |_::_,[],h=>h.elim
def Uns(b:Bx):Prop:=(∃ls,b = .cell ls false)\/∃e t xs,b = .lst e t xs false
theorem Jb{P:Program}{E:Env}(hT:cH P E.T)(hR:Rel N np S0 w0 refs σ a w S γ){r:ResultVar}{c:Cel}(h:yt E σ r=some c) :
  ∃z,((match r with
   |.tmp t=>pure (a.tmps.getD t undef)
   |.cell x t=>do loadVar t (<-asAddr (a.tmps.getD x undef)):Sem Value)).run P w = .ok z w/\bR S w γ σ.bx c z:=by
 cases r with
 |tmp t=>
  simp only[yt]at h;split at h
  .rename_i c' hc;simp only[j4]at h;subst h;have:=hR.slot t;rw[hc]at this;exact⟨_,by simp,this⟩
  .simp at h
 |cell x t=>
  simp only[yt]at h;split at h
  .rename_i ti y ht hy;have:=hR.slot x;rw[hy]at this;obtain⟨z,hz,ig⟩:=PC hT hR (RdR.msk λ_=> .inl rfl) ht h this.1;refine⟨z,?_,ig⟩;show (do loadVar t (<-asAddr (a.tmps.getD x undef)):Sem Value).run P w=_
   have hu:∃ad,a.tmps.getD x undef = .pointer (some ad):=by
    generalize a.tmps.getD x undef=u at hz
    cases u with
    |pointer o=>
     cases o with
     |some ad=>exact⟨ad,rfl⟩
     |none=>simp[Instr.loadAt,Instr.sureAddr]at hz
    |_=>simp[Instr.loadAt,Instr.sureAddr]at hz
   obtain⟨ad,hu⟩:=hu;rw[hu]at hz ⊢;simpa[Instr.loadAt,Instr.sureAddr,asAddr]using hz
  .simp at h
theorem Fs{rd:Nat->BS}(hR:Rel N np S0 w0 refs σ a w S γ)(aZ:RdF np σ rd):∀{ks:List SoK}{ls:List Leaf}{r:List RL}{n:List Nat}{v:Ups}{zs:List Value},soOf rd ks ls=some (r,n,v)->
  All2 (bY S w γ σ.bx) ls zs->(∀z∈zs,One z)->FrzL np σ.bx v/\(∀k∈n,(∃b,σ.bx k = .live b/\Uns b)/\parK np k=false)/\mL r zs=(n.filterMap λk=>blk (γ k))/\
   ∀S',dg S w S' w->Froz σ.bx γ S' w v->(∀k∈n,∀g,blk (γ k)=some g->∀o,¬S' g o)->All2 (EZ S' w) r zs
 |[],[],r,n,v,zs,h,ha,h1=>by
  simp[soOf]at h;obtain⟨rfl,rfl,rfl⟩:=h;cases zs with
  |nil=>exact⟨.nil,by simp,rfl,λ_ _ _ _=>trivial⟩
  |cons _ _=>exact ha.elim
 |.d t::ks,l::ls,r,n,v,zs,h,ha,h1=>by
  cases zs with
  |nil=>exact ha.elim
  |cons z zs=>
  simp only[soOf]at h;split at h
  .rename_i x u r' n' v' hx hr;cases eY:t.leafy with
   |false=>rw[eY]at h;simp at h
   |true=>
   rw[eY,j5]at h;simp only[j4,j8]at h;obtain⟨rfl,rfl,rfl⟩:=h;obtain⟨f1,p1⟩:=tJ aZ hx ha.1;obtain⟨f2,k2,b2,p2⟩:=Fs hR aZ hr ha.2 (λy hy=>h1 y (by simp[hy]));refine⟨FrzL.app.2 ⟨f1,f2⟩,k2,by simp[mL,b2],λS' aM dN hn=>?_⟩;obtain⟨g1,g2⟩:=Froz.app.1 dN;exact⟨⟨h1 z (by simp),p1 S' w aM g1⟩,p2 S' aM g2 hn⟩
  .simp at h
 |.own e t::ks,l::ls,r,n,v,zs,h,ha,h1=>by
  cases zs with
  |nil=>exact ha.elim
  |cons z zs=>
  cases l with
  |nil=>
   simp only[soOf]at h;split at h
   .rename_i r' n' v' hr;cases hm:isM e with
    |true=>rw[hm]at h;simp at h
    |false=>
    rw[hm,j6]at h;simp only[j4,j8]at h;obtain⟨rfl,rfl,rfl⟩:=h;have hz:z = .slice none 0 0:=ha.1;subst hz;obtain⟨f2,k2,b2,p2⟩:=Fs hR aZ hr ha.2 (λy hy=>h1 y (by simp[hy]));refine⟨f2,k2,by simp[mL,blk,b2],λS' aM dN hn=>⟨⟨t,[],rfl,.inl ⟨hm,[],⟨by simp,.inl ⟨rfl,rfl⟩⟩,trivial⟩,λg hg=>by simp[blk]at hg⟩,p2 S' aM dN hn⟩⟩
   .simp at h
  |ol k=>
   simp only[soOf]at h;split at h
   .rename_i e' b xs hk;cases he:Nat.beq e' e with
    |false=>rw[he]at h;simp at h
    |true=>
    rw[he,j5]at h;split at h
    .rename_i r' n' v' hr;simp only[j4,j8]at h;obtain⟨rfl,rfl,rfl⟩:=h;have hp:=aZ.par hk;have hk:=aZ.ok.live hk;have hz:=ha.1.2.2 _ hk;obtain⟨f2,k2,b2,p2⟩:=Fs hR aZ hr ha.2 (λy hy=>h1 y (by simp[hy]));refine⟨f2,λk' br=>?_,?_,λS' aM dN hn=>⟨⟨b,xs,rfl,by rw[hz];exact(hR.box k _ hk).1.keep aM (λ_ _=>rfl),λg hg=>hn k (by simp) g (by rw[<-hz];exact hg)⟩,p2 S' aM dN (λk' br=>hn k' (by simp[br]))⟩⟩
     .rcases jg.1 br with rfl|br
      .exact⟨⟨_,hk,.inr ⟨_,_,_,rfl⟩⟩,hp⟩
      .exact k2 k' br
     .simp only[mL,hz,vk];rw[b2];cases blk (γ k)<;>rfl
    .simp at h
   .simp at h
  |_=>simp[soOf]at h
 |[],_::_,r,n,v,zs,h,_,_=>by simp[soOf]at h
 |.d _::_,[],r,n,v,zs,h,_,_=>by simp[soOf]at h
 |.own _ _::_,[],r,n,v,zs,h,_,_=>by simp[soOf]at h
theorem jD8{P:Program}{E:Env}(hT:cH P E.T)(hR:Rel N E.np S0 w0 refs σ a w S γ){rd:Nat->BS}(aZ:RdF E.np σ rd){own:Bool}{t:Nat}{c:Cel}{v:RV}{ks:List Nat}{u:Ups}{z:Value}(h:rvOf E rd own t c=some (v,ks,u))(hc:bR S w γ σ.bx c z) :
  FrzL E.np σ.bx u/\(∀k∈ks,(∃b,σ.bx k = .live b/\Uns b)/\parK E.np k=false)/\kM v z=(ks.filterMap λk=>blk (γ k))/\
   ∀S',dg S w S' w->Froz σ.bx γ S' w u->(∀k∈ks,∀g,blk (γ k)=some g->∀o,¬S' g o)->oy S' w v z:=by
 unfold rvOf at h;split at h
 .rename_i k;split at h
  .rename_i ls hk;split at h
   .rename_i xs u1 h1;simp only[j4,j8]at h;obtain⟨rfl,rfl,rfl⟩:=h;have hp:=aZ.par hk;have hk:=aZ.ok.live hk;obtain⟨g,hg,hz⟩:=hc.1.2.2 _ hk;obtain⟨g',cur,e,aC,hh,eH,_⟩:=hR.box k _ hk;rw[hg]at aC;simp at aC;subst aC;obtain⟨hf,wm⟩:=yF aZ h1 eH;refine⟨hf,λk' br=>by simp at br;subst br;exact⟨⟨_,hk,.inl ⟨_,rfl⟩⟩,hp⟩,?_,λS' aM dN hn=>⟨g,cur,e,hz,hh,wm S' w aM dN,?_⟩⟩
    .simp[kM,mK,hz,hg,blk]
    .exact hn k (by simp) g (by rw[hg];rfl)
   .simp at h
  .simp at h
 .rename_i f caps;simp only[j4,j8]at h;obtain⟨rfl,rfl,rfl⟩:=h;obtain⟨⟨cv,hz,aB⟩,_⟩:=hc;exact⟨.nil,by simp,by simp[kM,mK],λS' aM _ _=>⟨cv,hz,aB.mono λ_ _ h=>ic.keep aM h⟩⟩
 .split at h
  .rename_i ti ht;split at h
   .rename_i ty bG;split at h
    .split at h
     .rename_i ls;split at h
      .rename_i r n u1 hso;simp only[j4,j8]at h;obtain⟨rfl,rfl,rfl⟩:=h;obtain⟨cs,hz,aB,cX⟩:=hc;subst hz;obtain⟨f1,k1,b1,p1⟩:=Fs hR aZ hso aB cX;exact⟨f1,k1,b1,λS' aM dN hn=>⟨cs,rfl,p1 S' aM dN hn⟩⟩
      .simp at h
     .rename_i el dp _;simp only[j4,j8]at h;obtain⟨rfl,rfl,rfl⟩:=h;have hz:z = .slice none 0 0:=hc.1;subst hz;exact⟨.nil,by simp,by simp[kM,mK,blk],λS' _ _ _=>⟨el,[],rfl,.inl ⟨HC hT ht,[],⟨by simp,.inl ⟨rfl,rfl⟩⟩,trivial⟩,λg hg=>by simp[blk]at hg⟩⟩
     .rename_i k dp _;split at h
      .rename_i e el xs hk;simp only[j4,j8]at h;obtain⟨rfl,rfl,rfl⟩:=h;have hp:=aZ.par hk;have cd:=aZ.ok.nm hk;have hk:=aZ.ok.live hk;have hz:=hc.1.2.2 _ hk;obtain⟨css,aX,aB,_⟩:=ie cd (hR.box k _ hk);refine⟨.nil,λk' br=>by simp at br;subst br;exact⟨⟨_,hk,.inr ⟨_,_,_,rfl⟩⟩,hp⟩,?_,λS' aM _ hn=>⟨el,xs,rfl,by rw[hz];exact(hR.box k _ hk).1.keep aM (λ_ _=>rfl),λg hg=>hn k (by simp) g (by rw[<-hz];exact hg)⟩⟩;simp only[kM,mK,hz,vk,List.filterMap_nil];cases blk (γ k)<;>rfl
      .simp at h
     .simp at h
    .split at h
     .rename_i x u1 hx;simp only[j4,j8]at h;obtain⟨rfl,rfl,rfl⟩:=h;obtain⟨hf,hp,_⟩:=Bm aZ hx hc;exact⟨hf,by simp,by simp[kM,mK],λS' aM dN _=>hp S' w aM dN⟩
     .simp at h
   .simp at h
  .simp at h
theorem RA{P:Program}{E:Env}(hT:cH P E.T)(hR:Rel N E.np S0 w0 refs σ a w S γ):∀{os:List Bool}{rs:List ResultVar}{ts:List Nat}{vs:List RV}{ks:List Nat}{u:Ups},rP E σ os rs ts=some (vs,ks,u)->
  ∃zs,All2 (λ(r:ResultVar) z=>((match r with
   |.tmp t=>pure (a.tmps.getD t undef)
   |.cell x t=>do loadVar t (<-asAddr (a.tmps.getD x undef)):Sem Value)).run P w = .ok z w) rs zs/\
  FrzL E.np σ.bx u/\(∀k∈ks,(∃b,σ.bx k = .live b/\Uns b)/\parK E.np k=false)/\fy vs zs=(ks.filterMap λk=>blk (γ k))/\
   ∀S',dg S w S' w->Froz σ.bx γ S' w u->(∀k∈ks,∀g,blk (γ k)=some g->∀o,¬S' g o)->All2 (oy S' w) vs zs
 |os,[],ts,vs,ks,u,h=>by
  simp[rP]at h;obtain⟨rfl,rfl,rfl⟩:=h;exact⟨[],trivial,.nil,by simp,rfl,λ_ _ _ _=>trivial⟩
 |os,r::rs,ts,vs,ks,u,h=>by
  simp only[rP]at h;split at h
  .rename_i c hc;split at h
   .rename_i v k1 u1 hv;split at h
    .rename_i jS k2 u2 lX;simp only[j4,j8]at h;obtain⟨rfl,rfl,rfl⟩:=h;obtain⟨z,hz,ig⟩:=Jb hT hR hc;obtain⟨f1,p1,n1,r1⟩:=jD8 hT hR (BZ (RdR.msk λ_=> .inl rfl)) hv ig;obtain⟨zs,mG,f2,p2,n2,r2⟩:=RA hT hR lX;refine⟨z::zs,⟨hz,mG⟩,FrzL.app.2 ⟨f1,f2⟩,λk hk=>?_,?_,λS' aM dN hn=>?_⟩
     .rcases jn.1 hk with hk|hk
      .exact p1 k hk
      .exact p2 k hk
     .simp[fy,n1,n2]
     .obtain⟨g1,g2⟩:=Froz.app.1 dN;exact⟨r1 S' aM g1 (λk hk=>hn k (by simp[hk])),r2 S' aM g2 (λk hk=>hn k (by simp[hk]))⟩
    .simp at h
   .simp at h
  .simp at h
theorem Jc(hR:Rel N np S0 w0 refs σ a w S γ):∀{as:List Arg}{us:List Value}{i:Nat}{os:List Out}{u:Ups},outs np σ i as=some (os,u)->as.length=us.length->
  (∀(j:Nat)(x:Arg)(v:Value),as[j]? = some x->us[j]? = some v->wV x=true->γ ((i+j)*64)=v)->
  FrzL np σ.bx u/\∀S',dg S w S' w->Froz σ.bx γ S' w u->(∀(j:Nat)(x:Arg)(v:Value)(g:Nat),as[j]? = some x->us[j]? = some v->wV x=true->(∃b,σ.bx ((i+j)*64) = .live b/\Uns b)->blk v=some g->∀o,¬S' g o)->lH S' w as us os
 |[],us,i,os,u,h,hl,_=>by
  simp[outs]at h;obtain⟨rfl,rfl⟩:=h;cases us with
  |nil=>exact⟨.nil,λ_ _ _ _=>trivial⟩
  |cons _ _=>simp at hl
 |x::as,[],i,os,u,h,hl,_=>by simp at hl
 |x::as,v::us,i,os,u,h,hl,hg=>by
  simp only[outs]at h;split at h
  .rename_i oA u' h'
   obtain⟨f1,r1⟩:=Jc hR (i:=i+1) h' (by simpa using hl) (λj y z hy hz hr=>by
    have:=hg (j+1) y z (by simpa using hy) (by simpa using hz) hr;rwa[show i+1+j=i+(j+1) by omega])
   have cQ:∀S',dg S w S' w->Froz σ.bx γ S' w u'->(∀(j:Nat)(x':Arg)(v':Value)(g:Nat),(x::as)[j]? = some x'->(v::us)[j]? = some v'->wV x'=true->(∃b,σ.bx ((i+j)*64) = .live b/\Uns b)->blk v'=some g->∀o,¬S' g o)->lH S' w as us oA:=by intro S' aM dN hn;refine r1 S' aM dN (λj y z g hy hz hr hb hgz=>?_);exact hn (j+1) y z g (by simpa using hy) (by simpa using hz) hr (by rwa[show i+(j+1)=i+1+j by omega]) hgz
   split at h
   .rename_i ls;have Jd:γ (i*64)=v:=hg 0 _ v rfl rfl rfl;split at h
    .rename_i fX hb;split at h
     .rename_i xs u2 hx;simp only[j4,j8]at h;obtain⟨rfl,rfl⟩:=h;obtain⟨g,cur,e,h1,h2,h3,_⟩:=hR.box _ _ hb;obtain⟨f2,r2⟩:=yF (BZ (RdR.msk λ_=> .inl rfl)) hx h3;refine⟨FrzL.app.2 ⟨f2,f1⟩,λS' aM dN hn=>?_⟩;obtain⟨g1,g2⟩:=Froz.app.1 dN;have RB:v = .pointer (some ⟨g,0,none⟩):=by rw[<-Jd];exact h1
      exact⟨⟨g,cur,e,RB,h2,r2 S' w aM g1,hn 0 _ v g rfl rfl rfl ⟨_,hb,.inl ⟨fX,rfl⟩⟩ (by rw[RB];rfl)⟩,cQ S' aM g2 hn⟩
     .simp at h
    .simp at h
   .rename_i e y;have Jd:γ (i*64)=v:=hg 0 _ v rfl rfl rfl;split at h
    .rename_i e' t xs hb;split at h
     .rename_i dQ;obtain⟨rfl,yX⟩:=dQ;simp only[j4,j8]at h;obtain⟨rfl,rfl⟩:=h;have aX:=(hR.box _ _ hb).1;rw[Jd]at aX;refine⟨f1,λS' aM dN hn=>⟨⟨t,xs,rfl,aX.keep aM (λ_ _=>rfl),λg aC=>hn 0 _ v g rfl rfl rfl ⟨_,hb,.inr ⟨_,t,xs,rfl⟩⟩ aC⟩,yX.symm,cQ S' aM dN hn⟩⟩
     .simp at h
    .simp at h
   .rename_i Jf Jg;simp only[j4,j8]at h;obtain⟨rfl,rfl⟩:=h;refine⟨f1,λS' aM dN hn=>?_⟩;have:=cQ S' aM dN hn;cases x with
    |ref ls=>exact absurd rfl (Jf ls)
    |rl e y=>exact absurd rfl (Jg e y)
    |_=>exact this
  .simp at h
theorem RC{x:Arg}{u:Value}{g:Nat}(h:mJ S w x u)(hr:lG x u=some g):∀o,¬S g o:=by
 cases x with
 |ref ls=>obtain⟨g',cur,e,h1,_,_,h4⟩:=h;have r5:blk u=some g:=hr;rw[h1]at r5;simp[blk]at r5;subst r5;exact h4
 |rl e y=>obtain⟨t,xs,_,_,h4⟩:=h;exact h4 g hr
 |_=>simp[lG]at hr
theorem Jh:∀{as:List Arg}{us:List Value}{g:Nat},g∈ej as us->∃(i:Nat)(x:Arg)(u:Value),as[i]? = some x/\us[i]? = some u/\lG x u=some g
 |[],_,_,h=>by simp[ej]at h
 |_::_,[],_,h=>by simp[ej]at h
 |x::as,u::us,g,h=>by
  simp only[ej,jn,Option.mem_toList]at h;rcases h with h|h
  .exact⟨0,x,u,rfl,rfl,h⟩
  .obtain⟨i,y,v,h1,h2,h3⟩:=Jh h;exact⟨i+1,y,v,by simpa using h1,by simpa using h2,h3⟩
theorem RD(zs:List Value):(if h:zs.toArray.size=1 then zs.toArray[0] else .tuple zs.toArray)=rj zs:=by
 match zs with
 |[]=>rfl
 |[z]=>rfl
 |z::z'::zs=>simp[rj]
theorem jAe{P:Program}{E:Env}(hT:cH P E.T)(hR:Rel N np S0 w0 refs σ a w S γ){rs:List ResultVar}{vs jS:List RV}{zs:List Value}
  (mG:All2 (λ(r:ResultVar) z=>((match r with
   |.tmp t=>pure (a.tmps.getD t undef)
   |.cell x t=>do loadVar t (<-asAddr (a.tmps.getD x undef)):Sem Value)).run P w = .ok z w) rs zs) (h:nilV E σ rs vs=some jS) :
  (∀S' w',All2 (oy S' w') vs zs->All2 (oy S' w') jS zs)/\fy jS zs=fy vs zs/\∀m,jS=[.hd m]->vs=[.hd m]:=by
 unfold nilV at h;split at h
 .simp only[j4]at h;subst h;exact⟨λ_ _ h=>h,rfl,λ_ h=>h⟩
 .split at h
  .rename_i r x;split at h
   .rename_i ls hc;split at h
    .rename_i hn;simp only[j4]at h;subst h;obtain⟨z,hz,ig⟩:=Jb hT hR hc;cases zs with
     |nil=>exact mG.elim
     |cons z' zs=>
      cases zs with
      |cons _ _=>exact mG.2.elim
      |nil=>
       have rZ:z'=z:=by have h1:=hz.symm.trans mG.1;simp only[Result.ok.injEq]at h1;exact h1.1.symm
       subst rZ;obtain⟨cs,hu,aB,_⟩:=ig;refine⟨λS' w' hv=>⟨⟨hv.1,λsa mj i hi z hzi=>?_⟩,trivial⟩,rfl,λm hm=>by simp at hm⟩;rw[hu]at mj;simp only[Value.agg.injEq]at mj;subst mj;have hl:=jx.1 hn i hi;cases Ji:ls[i]? with
       |none=>rw[Ji]at hl;simp at hl
       |some l=>rw[Ji]at hl;obtain⟨z2,Cu,wi⟩:=aB.get i l Ji;rw[hzi]at Cu;simp only[j4]at Cu;subst Cu;cases l<;>first|exact wi|simp at hl
    .simp at h
   .simp at h
  .simp at h
theorem jqu{E:Env}{os:List Bool}{rs:List ResultVar}{ts:List Nat}{vs:List RV}{ks:List Nat}{u:Ups}(h:rP E σ os rs ts=some (vs,ks,u))(m:Nat):vs≠[.hd m]:=by
 cases rs with
 |nil=>simp[rP]at h;rw[<-h.1];simp
 |cons r rs=>
  simp only[rP]at h;split at h
  .split at h
   .rename_i v k1 u1 hv;split at h
    .simp only[j4,j8]at h;rw[<-h.1];intro he;have:v = .hd m:=by simpa using (List.cons.inj he).1
     subst this;unfold rvOf at hv;split at hv
     .split at hv
      .split at hv<;>simp at hv
      .simp at hv
     .simp at hv
     .split at hv
      .split at hv
       .split at hv
        .split at hv
         .split at hv<;>simp at hv
         .simp at hv
         .split at hv<;>simp at hv
         .simp at hv
        .split at hv<;>simp at hv
       .simp at hv
      .simp at hv
    .simp at h
   .simp at h
  .simp at h
theorem jD9{P:Program}{E:Env}(hT:cH P E.T){fn:Func}{args:List Arg}{vals:List Value}{σ':St}{a':Go.Act}{w':World}{S':aP}{γ':Nat->Value}(hR:Rel N E.np S w (oH args vals) σ' a' w' S' γ')
  (ha:All2 (mJ S w) args vals)(hS:∀g o,S g o->g<w.heap.size)(Ft:E.hd=true){ret:Ret}(cF:vM E fn args σ'=some ret){R:Type}{k:Ret->Option R}{r:R}(hk:k ret=some r) :
  ∃v,(results fn a'.tmps).run P w' = .ok v w'/\∃ret,k ret=some r/\∃v' S' vs,Ending.returned v = .returned v'/\H9 w S args vals ret v' w' S' vs:=by
 have dY:∀(j:Nat)(x:Arg)(v:Value),args[j]? = some x->vals[j]? = some v->wV x=true->γ' ((0+j)*64)=v:=by intro j x v hx hv hr;refine(hR.par ((0+j)*64) v ?_).2.2;simp only[oH,Cr];rw[if_pos (by omega),vq _ (by omega),ke,hx];simp[hr,hv]
 unfold vM at cF;rw[if_pos Ft]at cF;unfold Pj at cF;split at cF
 .rename_i e x as r0 kW;split at cF
  .rename_i l os u' hc oz;split at cF
   .rename_i m hm;simp only[j4]at cF;subst cF;obtain⟨z,hz,ig⟩:=Jb (P:=P) hT hR hc;obtain⟨f2,r2⟩:=Jc hR oz ha.length dY;obtain⟨S2,cW,dm,po,dO⟩:=nk u' σ' S' hR f2;cases vals with
    |nil=>exact ha.elim
    |cons v0 vs0=>
    have h0:γ' 0=v0:=by have:=dY 0 _ v0 rfl rfl rfl;simpa using this
    have wW:∀k,parK E.np k=true->u'.any (λy=>y.1==k)=false:=by intro k hk;rw[ql];intro y hy he;simp only[zm]at he;have:=(f2 y hy).1;rw[he,hk]at this;simp at this
    have nu:∀k b,u'.any (λy=>y.1==k)=false->σ'.bx k = .live b->Uns b->∀g,blk (γ' k)=some g->∀o,¬S2 g o:=by
     intro k b hk hb kO g hg o;have eX:(σ'.upd u').bx k = .live b:=(lV _ _ hk).trans hb;have di:=cW.box k b eX;rcases kO with⟨ls,rfl⟩|⟨e,t,xs,rfl⟩
     .obtain⟨g',cur,e,aC,_,_,_,hS,_⟩:=di;rw[aC]at hg;simp[blk]at hg;subst hg;exact hS rfl o
     .exact(di.2 g hg).1 rfl o
    have eN:=r2 S2 dm po (λj x v g hx hv hr Jj hg=>by
     obtain⟨b,hb,hu⟩:=Jj;have hp:parK E.np ((0+j)*64)=true:=by refine(hR.par ((0+j)*64) v ?_).1;simp only[oH,Cr];rw[if_pos (by omega),vq _ (by omega),ke,hx];simp[hr,hv]
     exact nu ((0+j)*64) b (wW _ hp) hb hu g (by rw[dY j x v hx hv hr];exact hg))
    have cX:One z:=ig.2 (by rintro rfl;simp[hdOf]at hm)
    have pz:∃ad len cap,v0 = .slice ad len cap/\m<=len/\z = .slice ad m cap:=by
     unfold hdOf at hm;split at hm
     .split at hm
      .rename_i e1 t1 EY hb;split at hm
       .simp at hm
       .rename_i cd;simp only[j4]at hm;subst hm;obtain⟨css,aX,_⟩:=ie (by simpa using cd) (hR.box 0 _ hb);have rZ:=ig.1.2.2 _ hb;rcases aX.2 with⟨hg,hn⟩|⟨g,cap,cur,hg,_⟩
        .exact⟨none,0,0,by rw[<-h0,hg],by omega,by rw[rZ,hg,hn]⟩
        .exact⟨_,_,cap,by rw[<-h0,hg],jl _,by rw[rZ,hg]⟩
      .simp at hm
     .split at hm
      .rename_i i e1 t1 EY hb;simp only[j4]at hm;subst hm;obtain⟨_,hi,ad,cap,hg,rZ⟩:=ig.1.2.2 _ hb;exact⟨ad,_,cap,by rw[<-h0,hg],hi,rZ⟩
      .simp at hm
     .simp at hm
    have aS:(results fn a'.tmps).run P w' = .ok (rj [z]) w':=by
     have hm:=Ja (P:=P) (w:=w') (rs:=[r0]) (zs:=[z]) (λr=>((match r with
      |.tmp t=>pure (a'.tmps.getD t undef)
      |.cell x t=>do loadVar t (<-asAddr (a'.tmps.getD x undef)):Sem Value))) ⟨hz,trivial⟩
     unfold results;rw[Array.mapM_eq_mapM_toList,kW];simp only[Sem.run_bind,Sem.run_map]
     erw [hm]
     simp only[Result.andThen_ok,Sem.run_pure];exact jp (Result.ok · w') (RD [z])
    refine⟨rj [z],aS,⟨[.hd m],os⟩,hk,rj [z],S2,[z],rfl,⟨rfl,⟨cX,trivial⟩,λg hg=>by simp[fy,mK,kM]at hg,by simp[fy,mK,kM],eN,λg o hs=>⟨cW.ext g o hs,?_⟩,cW.new,cW.here,cW.below,cW.grow,cW.os,cW.tape,cW.output,?_⟩⟩
    .refine World.cell?_of_block (cW.below g (hS g o hs) (λhm=>?_));obtain⟨i,x,v,hx,hv,hb⟩:=Jh hm;obtain⟨v',gm,Jk⟩:=ha.get i x hx;rw[hv]at gm;simp at gm;subst gm;exact RC Jk hb o hs
    .intro m' iL;have:m'=m:=by simpa using iL.symm
     subst this;obtain⟨ad,len,cap,h1,h2,h3⟩:=pz;exact⟨ad,len,cap,by rw[h1];rfl,h2,by rw[h3]⟩
   .simp at cF
  .simp at cF
 .simp at cF
theorem Jl{P:Program}{fn:Func}{n:Nat}{R:Ending->World->Prop}:∀(ds:List Deferred){refs:Refs}{σ:St}{a:Go.Act}{w:World}{S:aP}{γ:Nat->Value},refs.ds=ds->Cm w0 refs->Rel N np S0 w0 refs σ a w S γ->
  (∀w2,Rel N np S0 w0 ⟨refs.blks,refs.val,[],λ_=>none,λ_=>none⟩ σ { a with defers:=[] } w2 S γ->LeavesIn (FR none) n P fn a.tmps R [] .returning w2)->LeavesInM (FR none) n P fn a.tmps R ds .returning w
 |[],refs,σ,a,w,S,γ,hd,hm,hR,h=>h w (hR.swap rfl rfl hR.size rfl hR.slot (λg o h=>by simp at h) (λi v h=>by simp at h))
 |d::ds,refs,σ,a,w,S,γ,hd,hm,hR,h=>by
  obtain⟨dR,aB⟩:=hm;rw[hd]at dR;obtain⟨D,rfl,h1,h2⟩:=aB d (by rw[hd];simp);refine⟨by simp,.inl ⟨D,_,rfl,run_takeDeferred (hR.kept D _ h2).1,?_⟩⟩;have bD:=hR.putO (o':= .deferred none) h2 h1 rfl rfl
  have cW:=bD.swap (a':={ a with defers:=ds }) (refs':=⟨refs.blks,refs.val,ds,λg=>if g=D then none else refs.kw g,refs.fix⟩) rfl rfl hR.size rfl bD.slot (λg o hg=>bD.kept g o (by
   simp only at hg ⊢;split at hg
   .simp at hg
   .rename_i e;rw[if_neg e];exact hg)) bD.fix
  refine Jl (a:={ a with defers:=ds }) (refs:=⟨refs.blks,refs.val,ds,λg=>if g=D then none else refs.kw g,refs.fix⟩) ds rfl ⟨(qs.1 dR).2,λd' gg=>?_⟩ cW (λw2 hw=>h w2 hw);obtain⟨D',rfl,q1,q2⟩:=aB d' (by rw[hd];simp[gg]);refine⟨D',rfl,q1,?_⟩;show (if D'=D then none else refs.kw D')=_;rw[if_neg,q2]
  rintro rfl
  exact(qs.1 dR).1 gg
theorem RE{P:Program}{E:Env}(hT:cH P E.T)(hC:lI P E.C)(hF:CFun E.C)(jI:P.follows .mixedOrders=true){f:Nat}{fn:Func}{c:Code}(hf:P.funcs[f]? = some fn)(hb:fn.body=some c)(hN:fn.ntmps=E.N.n)(pK:E.N.pin=λ_=>false)(sv:∀f t,E.bw f=some t->ItOK P f t.1 t.2)(wX:E.np<=E.N.n)
  (cd : (fn.name == "runtime.NumGoroutine") = false) (hL : ∀ x ∈ fS 0 c, Cl E x.1 x.2) : FnOK P f (fun args _ k => rQ E fn args k) := by
 intro args R k r h;refine⟨⟨fn,hf,by rw[hb];rfl,cd⟩,?_⟩;intro w S vals ha dR hS;by_cases hlen:args.length=E.np
 case neg=>simp[rQ,hlen]at h
 case pos=>
 simp only[rQ,hb,hlen,if_true]at h;have tR:vals.length=E.np:=by rw[<-ha.length,hlen]
 obtain⟨hR0,iG⟩:=jAd (N:=E.N) ha dR hS hlen wX;refine jC8 (n:=0) (ro:=none) (callsIn_of_wp_marks hf hb trivial ?_);rw[hN];refine wpIn_mono (jwv jI c (ro:=none) hT hC hF (λ_=>⟨sv,pK⟩) (.inl rfl) 0 0 ⟨zw,λd hd=>by simp[oH]at hd⟩ hL hR0 iG h) ?_
 rintro e a0 w1 ⟨refs',ex,σ',S',γ',hle,_,rfl,bD,fM,hk⟩
 have eu:∀(hk:(match vM E fn args σ' with|some r=>k r|none=>none)=some r)(w':World),Rel E.N E.np S w ⟨refs'.blks,refs'.val,[],λ_=>none,λ_=>none⟩ σ' { a0 with defers:=[] } w' S' γ'->∃v,(results fn a0.tmps).run P w' = .ok v w'/\
   ∃ret,k ret=some r/\∃v' S' vs,Ending.returned v = .returned v'/\H9 w S args vals ret v' w' S' vs:=by
  intro hk w' hR;have hR:Rel E.N E.np S w (oH args vals) σ' { a0 with defers:=[] } w' S' γ':=hR.swap hle.blks.symm hle.val.symm hR.size rfl hR.slot (λg o h=>by simp[oH]at h) (λi v h=>by simp[oH]at h);generalize uB:({ a0 with defers:=[] }:Go.Act)=a' at hR;have nD:a0.tmps=a'.tmps:=by rw[<-uB]
  rw[nD];cases cF:vM E fn args σ' with
  |none=>simp[cF]at hk
  |some ret=>
  simp only[cF]at hk;by_cases Ft:E.hd=true
  .exact jD9 hT hR ha hS Ft cF hk
  have wY:∃vs ks u os u',rP E σ' E.ro fn.results.toList fn.resultTypes.toList=some (vs,ks,u)/\outs E.np σ' 0 args=some (os,u')/\
    oe ks=true/\(u++u').all (λe=> !ks.contains e.1)=true/\∃jS,nilV E σ' fn.results.toList vs=some jS/\ret=⟨jS,os⟩:=by
   unfold vM at cF;rw[if_neg Ft]at cF;split at cF
   .rename_i vs ks u os u' lX oz;split at cF
    .rename_i dQ;split at cF
     .rename_i jS wZ;simp only[j4]at cF;simp only[jb]at dQ;exact⟨vs,ks,u,os,u',lX,oz,dQ.1,dQ.2,jS,wZ,cF.symm⟩
     .simp at cF
    .simp at cF
   .simp at cF
  obtain⟨vs,ks,u,os,u',lX,oz,rY,wB,jS,wZ,rfl⟩:=wY;obtain⟨zs,mG,f1,p1,n1,r1⟩:=RA hT hR lX;have fw:(∀S' w',All2 (oy S' w') vs zs->All2 (oy S' w') jS zs)/\fy jS zs=fy vs zs/\∀m,jS=[.hd m]->vs=[.hd m]:=jAe hT hR mG wZ;have dY:∀(j:Nat)(x:Arg)(v:Value),args[j]? = some x->vals[j]? = some v->wV x=true->γ' ((0+j)*64)=v:=by intro j x v hx hv hr;refine(hR.par ((0+j)*64) v ?_).2.2;simp only[oH,Cr];rw[if_pos (by omega),vq _ (by omega),ke,hx];simp[hr,hv]
  obtain⟨f2,r2⟩:=Jc hR oz ha.length dY;obtain⟨S2,cW,dm,po,dO⟩:=nk (u++u') σ' S' hR (FrzL.app.2 ⟨f1,f2⟩);obtain⟨Jm,Jn⟩:=Froz.app.1 po
  have nu:∀k b,(u++u').any (λy=>y.1==k)=false->σ'.bx k = .live b->Uns b->∀g,blk (γ' k)=some g->∀o,¬S2 g o:=by
   intro k b hk hb kO g hg o;have eX:(σ'.upd (u++u')).bx k = .live b:=(lV _ _ hk).trans hb;have di:=cW.box k b eX;rcases kO with⟨ls,rfl⟩|⟨e,t,xs,rfl⟩
   .obtain⟨g',cur,e,aC,_,_,_,hS,_⟩:=di;rw[aC]at hg;simp[blk]at hg;subst hg;exact hS rfl o
   .exact(di.2 g hg).1 rfl o
  have sD:∀k∈ks,(u++u').any (λy=>y.1==k)=false:=by intro k hk;rw[ql];intro y hy he;have:=jx.1 wB y hy;simp only[zm]at he;rw[he]at this;simp[hk]at this
  have wW:∀k,parK E.np k=true->(u++u').any (λy=>y.1==k)=false:=by intro k hk;rw[ql];intro y hy he;simp only[zm]at he;have:=(FrzL.app.2 ⟨f1,f2⟩ y hy).1;rw[he,hk]at this;simp at this
  have Cv:=r1 S2 dm Jm (λk hk g hg=>by
   obtain⟨⟨b,hb,hu⟩,_⟩:=p1 k hk;exact nu k b (sD k hk) hb hu g hg)
  have eN:=r2 S2 dm Jn (λj x v g hx hv hr Jj hg=>by
   obtain⟨b,hb,hu⟩:=Jj;have hj:j<args.length:=(ju.1 hx).1;exact nu ((0+j)*64) b (wW _ (by simp[parK];omega)) hb hu g (by rw[dY j x v hx hv hr];exact hg))
  have aS:(results fn a'.tmps).run P w' = .ok (rj zs) w':=by
   have hm:=Ja (P:=P) (w:=w') _ mG;unfold results;rw[Array.mapM_eq_mapM_toList];simp only[Sem.run_bind,Sem.run_map]
   erw [hm]
   simp only[Result.andThen_ok,Sem.run_pure];exact jp (Result.ok · w') (RD zs)
  have hnh:∀m,jS=[.hd m]->∃ad len cap,E0 args vals=some (.slice ad len cap)/\m<=len/\zs=[.slice ad m cap]:=λm hm=>by
   exact absurd (fw.2.2 m hm) (jqu lX m)
  refine⟨rj zs,aS,⟨jS,os⟩,hk,rj zs,S2,zs,rfl,⟨rfl,fw.1 _ _ Cv,λg hg=>?_,?_,eN,λg o hs=>⟨cW.ext g o hs,?_⟩,cW.new,cW.here,cW.below,cW.grow,cW.os,cW.tape,cW.output,hnh⟩⟩
  .rw[fw.2.1,n1]at hg;obtain⟨k,br,hkg⟩:=v7.1 hg;obtain⟨⟨b,hb,_⟩,hp⟩:=p1 k br;rcases hR.own k b g hb hkg with h|h
   .exact h
   .rw[hp]at h;simp at h
  .rw[fw.2.1,n1];exact Ia hR (E4 rY) (λk br=>by obtain⟨⟨b,hb,_⟩,_⟩:=p1 k br;exact⟨b,hb⟩)
  .refine World.cell?_of_block (cW.below g (hS g o hs) (λhm=>?_));obtain⟨i,x,v,hx,hv,hb⟩:=Jh hm;obtain⟨v',gm,Jk⟩:=ha.get i x hx;rw[hv]at gm;simp at gm;subst gm;exact RC Jk hb o hs
 cases ex with
 |exit i=>simp at hk
 |normal=>exact Jl a0.defers bD.defers.symm hle.marks bD (λw2 hw=>eu hk w2 hw)
 |ret=>exact Jl a0.defers bD.defers.symm hle.marks bD (λw2 hw=>eu hk w2 hw)
end
section
variable{E:Env}
def LFun(L:Nat->Snap->(R:Type)->(Ex->Snap->Option R)->Option R):Prop:=
 ∀b s,∃o:Option (Ex×Snap),∀(R:Type)(k:Ex->Snap->Option R),L b s R k=o.bind λx=>k x.1 x.2
def Det{α:Type}(f:(R:Type)->(α->Option R)->Option R):Prop:=∃o:Option α,∀(R:Type)(k:α->Option R),f R k=o.bind k
theorem Det.val{α:Type}(x:α):Det (λ_ k=>k x):=⟨some x,λ_ _=>rfl⟩
theorem Det.no{α:Type}:Det (λR (_:α->Option R)=>none):=⟨none,λ_ _=>rfl⟩
theorem Det.cond{α:Type}{f g:(R:Type)->(α->Option R)->Option R}(b:Bool)(h:Det f)(h':Det g):Det (λR k=>cond b (f R k) (g R k)):=by
 cases b with
 |true=>exact h
 |false=>exact h'
theorem Det.bind{α β:Type}{f:(R:Type)->(α->Option R)->Option R}{g:α->(R:Type)->(β->Option R)->Option R}(h:Det f)(h':∀a,Det (g a)):Det (λR k=>f R λa=>g a R k):=by
 obtain⟨o,ho⟩:=h;cases o with
 |none=>exact⟨none,λR k=>ho R _⟩
 |some a=>obtain⟨o',wN⟩:=h' a;exact⟨o',λR k=>(ho R _).trans (wN R k)⟩
theorem Det.congr{α:Type}{f g:(R:Type)->(α->Option R)->Option R}(h:Det f)(e:∀R k,g R k=f R k):Det g:=by
 obtain⟨o,ho⟩:=h;exact⟨o,λR k=>(e R k).trans (ho R k)⟩
theorem Jo(hF:CFun E.C)(hz:E.nz=false)(p:Bool)(σ:St)(act:List (Nat×Bool))(o:Oper):Det (λR (k:St->Option R)=>run1 E p σ act o k):=by
 unfold run1;simp only[hz,j6];split
 .exact .no
 .exact .cond _ (.val _) .no
 .rename_i f args mk _;refine Det.bind (f:=λR k=>E.C f args R k) (hF f args) λret=>?_;split
  .exact .val _
  .exact .no
theorem RF:∀(l:List (Nat×Bool))(σ:St),Det (λR (k:St×Bool->Option R)=>tA l σ λa b=>k (a,b))
 |[],σ=> .val _
 |(s,w)::r,σ=>by
  simp only[tA]
  refine(Det.bind (RF r σ) (g:=λx R k=>match x.2 with
   |true=>match Ht r x.1 s with
    |some v=>cond v (k (x.1.setS s (.one (.one (.d .bool true))),w)) (k (x.1.setS s (.one (.one (.d .bool false))), !w))
    |none=>none
   |false=>k (x.1,false)) λx=>?_).congr λR k=>rfl
  obtain⟨σ1,a⟩:=x;cases a with
  |true=>
   dsimp only
   split
   .exact .cond _ (.val _) (.val _)
   .exact .no
  |false=>exact .val _
theorem jy3(hF:CFun E.C)(hz:E.nz=false)(ops:Array Oper)(σ:St)(o:Oper):Det (λR (k:St->Option R)=>AO E ops σ o k):=by
 unfold AO;split
 .split
  .exact Jo hF hz _ _ _ _
  .exact .no
 .rename_i g _
  have oU:Det (λR (k:St->Option R)=>tA (σ.chain 40 g) σ λσ' a=>match a with
    |true=>run1 E true σ' (σ.chain 40 g) o k
    |false=>k (σ'.put o.dst (.one (.one .dead)))):=by
   refine(Det.bind (RF (σ.chain 40 g) σ) (g:=λx R k=>match x.2 with
    |true=>run1 E true x.1 (σ.chain 40 g) o k
    |false=>k (x.1.put o.dst (.one (.one .dead)))) λx=>?_).congr λR k=>rfl
   obtain⟨σ1,a⟩:=x;cases a with
   |true=>exact Jo hF hz _ _ _ _
   |false=>exact .val _
  dsimp only
  split
  .split
   .exact .cond _ (.val _) .no
   .exact oU
  .exact oU
theorem RG(hF:CFun E.C)(hz:E.nz=false):∀(l:List Oper)(σ:St),Det (λR (k:St->Option R)=>og E l σ k)
 |[],σ=> .val _
 |o::os,σ=>by
  simp only[og];split
  .exact Det.bind (Jo hF hz false σ [] o) λσ'=>RG hF hz os σ'
  .exact .no
theorem RH(hF:CFun E.C)(hz:E.nz=false)(ops:Array Oper):∀(l:List Oper)(σ:St),Det (λR (k:St->Option R)=>ym E ops l σ k)
 |[],σ=> .val _
 |o::os,σ=>by
  simp only[ym];split
  .exact Det.bind (jy3 hF hz ops σ o) λσ'=>RH hF hz ops os σ'
  .exact .no
theorem ju1(hF:CFun E.C)(hz:E.nz=false)(ops:Array Oper)(σ:St):Det (λR (k:St->Option R)=>oh E ops σ k):=by
 unfold oh;split
 .exact RG hF hz _ _
 .exact RH hF hz _ _ _
theorem Jp(hF:CFun E.C)(hz:E.nz=false)(M Ai:List Nat)(σ:St)(o:Oper):Det (λR (k:St->Option R)=>runD E M Ai σ o k):=by
 unfold runD;split
 .exact .no
 .split
  .exact .cond _ (.val _) .no
  .exact .no
 .rename_i f args mk _;refine Det.bind (f:=λR k=>E.C f args R k) (hF f args) λret=>?_;split
  .split
   .exact .val _
   .exact .no
  .exact .no
theorem jww(hF:CFun E.C)(hz:E.nz=false)(ops:Array Oper)(M Ai:List Nat)(σ:St)(o:Oper):Det (λR (k:St->Option R)=>AR E ops M Ai σ o k):=by
 unfold AR;split
 .exact Jp hF hz _ _ _ _
 .split
  .split
   .exact .cond _ (.cond _ (Jp hF hz _ _ _ _) (.val _)) (.cond _ (.val _) (Jp hF hz _ _ _ _))
   .exact .val _
   .exact .no
  .exact .no
theorem RI(hF:CFun E.C)(hz:E.nz=false)(ops:Array Oper)(cl:List Nat)(A:List (List Nat)):∀(l:List Oper)(i:Nat)(σ:St),Det (λR (k:St->Option R)=>yn E ops cl A l i σ k)
 |[],_,σ=> .val _
 |o::os,i,σ=>by
  simp only[yn];split
  .exact Det.bind (jww hF hz ops _ _ σ o) λσ'=>RI hF hz ops cl A os (i+1) σ'
  .exact .no
theorem jsk(hF:CFun E.C)(hz:E.nz=false)(ops:Array Oper)(A:List (List Nat))(σ:St):Det (λR (k:St->Option R)=>AS E ops A σ k):=by
 unfold AS;split
 .exact RI hF hz _ _ _ _ _ _
 .exact .no
theorem Fu(hF:CFun E.C)(hz:E.nz=false)(hL:LFun E.L):∀(c:Code)(b:Nat)(σ:St),Det (λR (k:Ex×St->Option R)=>fh E b c σ λe σ'=>k (e,σ')):=by
 intro c;induction c with
 |skip=>intro b σ;exact .val _
 |region id ops draw=>
  intro b σ;cases draw with
  |true=>exact Det.bind (jsk hF hz ops (E.dw id) σ) λσ'=> .val (Ex.normal,σ')
  |false=>exact Det.bind (ju1 hF hz ops σ) λσ'=> .val (Ex.normal,σ')
 |seq x y pL pM=>
  intro b σ
  refine(Det.bind (pL b σ) (g:=λz R k=>match z.1 with
   |.normal=>fh E b y z.2 λe σ'=>k (e,σ')
   |e=>k (e,z.2)) λz=>?_).congr λR k=>by
    simp only[fh];congr 1;try (funext e σ';cases e<;>rfl)
  obtain⟨e,σ'⟩:=z;cases e with
  |normal=>exact pM b σ'
  |exit i=>exact .val _
  |ret=>exact .val _
 |cond c x y pL pM=>
  intro b σ;simp only[fh];split
  .exact .cond _ (pL b σ) (pM b σ)
  .exact .no
 |block id c ih=>
  intro b σ
  refine(Det.bind (ih id σ) (g:=λz R k=>match z.1 with
   |.exit i=>if i=id then k (.normal,z.2) else k (.exit i,z.2)
   |e=>k (e,z.2)) λz=>?_).congr λR k=>by
    simp only[fh];congr 1;try (funext e σ';cases e<;>rfl)
  obtain⟨e,σ'⟩:=z;cases e with
  |normal=>exact .val _
  |exit i=>
   dsimp only
   split
   .exact .val _
   .exact .val _
  |ret=>exact .val _
 |loop c ih=>
  intro b σ;simp only[fh];refine .cond _ .no ?_;split
  .rename_i s _;obtain⟨o,ho⟩:=hL b s;exact Det.bind (f:=λR k=>E.L b s R λe s'=>k (e,s')) ⟨o,λR k=>ho R _⟩ (g:=λz R k=>k (z.1,da E.np (E.keepX b z.1) z.2)) λz=> .val _
  .exact .no
 |rangeFunc g ps x y _ _=>
  intro b σ;simp only[fh];split
  .split
   .rename_i kd _;split
    .rename_i s _;obtain⟨o,ho⟩:=hL b (.s (.one (.d (.int .i64) (AW kd (List.length _))))::s);exact Det.bind (f:=λR k=>E.L b _ R λe s'=>k (e,s')) ⟨o,λR k=>ho R _⟩ (g:=λz R k=>k (z.1,da E.np (E.keepX b z.1) z.2)) λz=> .val _
    .exact .no
   .exact .no
  .exact .no
 |scope c ih=>intro b σ;exact ih b σ
 |label l=>intro b σ;exact .val _
 |exit i=>intro b σ;exact .val _
 |ret=>intro b σ;exact .val _
 |_=>intro b σ;exact .no
theorem ju2(hF:CFun E.C)(hz:E.nz=false)(hL:LFun E.L)(b:Nat)(g:Operand)(ps:Array Nat)(x y:Code)(s:Snap) :
  Det (λR (k:Option (List Item)×Ex×St->Option R)=>AZ E b g ps x y s λp e σ'=>k (p,e,σ')):=by
 unfold AZ;split
 .rename_i n s0;split
  .split
   .rename_i kd _;refine .cond _ (.val _) (.cond _ ?_ .no)
    refine(Det.bind (Fu (E:=E.rnd ps x y) hF hz hL x 0 _) (g:=λz R k=>match z.1 with
     |.normal=>fh (E.rnd ps x y) 0 y z.2 λe σ'=>k (some [.s (.one (.d (.int .i64) (AX kd n)))],e,σ')
     |_=>none) λz=>?_).congr λR k=>by
      congr 1
      try (funext e σ';cases e<;>rfl)
    obtain⟨e,σ'⟩:=z;cases e with
    |normal=>exact Det.bind (Fu (E:=E.rnd ps x y) hF hz hL y 0 σ') λz=> .val (_,z)
    |exit i=>exact .no
    |ret=>exact .no
   .exact .no
  .exact .no
 .exact .no
theorem jwx(hF:CFun E.C)(hz:E.nz=false)(hL:LFun E.L)(fn:Func)(args:List Arg):Det (λR (k:Ret->Option R)=>rQ E fn args k):=by
 unfold rQ;split
 .split
  .rename_i c _
   refine(Det.bind (Fu hF hz hL c 0 (St.init args)) (g:=λz R k=>match z.1 with
    |.exit _=>none
    |_=>match vM E fn args z.2 with
     |some r=>k r
     |none=>none) λz=>?_).congr λR k=>rfl
   obtain⟨e,σ'⟩:=z;cases e<;>dsimp only<;>(try split)<;>first|exact .no|exact .val _
  .exact .no
 .exact .no
end
end Go.Lft
