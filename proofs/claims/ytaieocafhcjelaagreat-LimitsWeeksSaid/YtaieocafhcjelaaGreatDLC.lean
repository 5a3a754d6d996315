/- Fi: what Y0 do is what the nq says. -/
import Derived.Test.YtaieocafhcjelaaGreatDLB
import Derived.Laws.Cover3
import Derived.RangeFuncNested
import Derived.OrdersIn
set_option linter.unusedVariables false
namespace Go.Lft
section
variable{N:NT}{np:Nat}{S0:aD}{w0:World}{refs:Refs}{σ:St}{a:Go.Act}{w:World}{S:aD}{γ:Nat->Value}
def dK(σ:St):Prop:=∀i,(σ.sl i).bare=true
theorem Cz{d:Nat}(hd:d<a.tmps.size)(v:Value)(j:Nat):tm (a.put (some d) v) j=if j=d then v else tm a j:=by
 unfold tm Go.Act.put;by_cases h:j=d
 .subst h;simp[hd]
 .have h':d≠j:=λe=>h e.symm;simp[h,Array.getElem?_setIfInBounds_ne h']
theorem PU{bx:Nat->BS}{d:Nat}(hd:d<a.tmps.size){v u:Value}{x:Slot}(h:gz S w γ bx (tm a) x u):gz S w γ bx (tm (a.put (some d) v)) (kill d x) u:=by
 cases x with
 |one c=>exact h
 |tup l=>exact h
 |und=>exact h
 |cnd s b c=>
  simp only[kill];split
  .exact⟨trivial,λh=>absurd rfl h⟩
  .rename_i aZ;simp only[gz,Cz hd,if_neg aZ];exact h
theorem Iq(dst:Option Nat)(v:Value):(a.put dst v).tmps.size=a.tmps.size:=by cases dst<;>simp[Go.Act.put]
theorem Ir(dst:Option Nat)(v:Value):(a.put dst v).defers=a.defers:=by cases dst<;>rfl
theorem CA(hR:Rel N np S0 w0 refs σ a w S γ){dst:Option Nat}(hd:∀d,dst=some d->N.ok d){s:Slot}{v:Value}(hs:gz S w γ σ.bx (tm a) s v) :
  Rel N np S0 w0 refs (σ.put dst s) (a.put dst v) w S γ:=by
 cases dst with
 |none=>exact hR
 |some d=>
  have fW:d<a.tmps.size:=by rw[hR.size];exact(hd d rfl).1
  refine⟨(Iq _ _).trans hR.size,(Ir _ _).trans hR.defers,λi=>?_,hR.box,hR.own,hR.apart,hR.ext,hR.new,hR.here,hR.below,hR.grow,hR.os,hR.tape,hR.output,hR.par,hR.kept,λi u h=>?_⟩
  .show gz S w γ σ.bx (tm (a.put (some d) v)) (kill d (if i=d then s else σ.sl i)) (tm (a.put (some d) v) i);rw[Cz fW];split
   .exact PU fW hs
   .exact PU fW (hR.slot i)
  .obtain⟨h1,h2⟩:=hR.fix i u h;refine⟨h1,?_⟩;show tm (a.put (some d) v) i=u;rw[Cz fW,if_neg]
   .exact h2
   .rintro rfl
    have:=(hd i rfl).2;rw[h1]at this;simp at this
theorem PV{d:Nat}{x:Slot}(h:x.bare=true):kill d x=x:=by cases x<;>first|rfl|simp[Slot.bare]at h
theorem PW(hR:Rel N np S0 w0 refs σ a w S γ)(hc:dK σ){dst:Option Nat}(hd:∀d,dst=some d->N.ok d){s:Slot}{v:Value}(hs:gz S w γ σ.bx (tm a) s v)(hb:s.bare=true) :
  Rel N np S0 w0 refs (σ.setD dst s) (a.put dst v) w S γ/\dK (σ.setD dst s):=by
 have he:σ.setD dst s=σ.put dst s:=by
  cases dst with
  |none=>rfl
  |some d=>
   simp only[St.setD,St.setS,St.put];congr 1;funext j;split
   .exact(PV hb).symm
   .exact(PV (hc j)).symm
 refine⟨he▸CA hR hd hs,λi=>?_⟩;cases dst with
 |none=>exact hc i
 |some d=>
  simp only[St.setD,St.setS];split
  .exact hb
  .exact hc i
theorem Is{o:Oper}(h:rn N o=true):∀d,o.dst=some d->N.ok d:=by
 intro d hd;simpa[rn,hd,NT.ok]using h
theorem PX{u:Ups}(h:dK σ):dK (σ.upd u):=by
 intro i;rw[zG];exact h i
theorem Y1{P:Program}{E:Env}(hT:cw P E.T)(hR:Rel E.N E.np S0 w0 refs σ a w S γ){o:Oper}{e:Bool}(h:nilT E σ o=some e) :
  ∃v b,(execOp a.eval o).run P w = .ok (.value v) w/\v = .bool b/\(b=true->e=true):=by
 unfold nilT at h;split at h
 .rename_i t x y ty bN;split at h
  .rename_i el xs ti hx hy BN;split at h
   .rename_i hl;simp only[j4]at h;subst h;have ex:=po hR x;have ey:=po hR y;rw[hx]at ex;rw[hy]at ey;obtain⟨ad,cap,dB,hlen,_,CB,_⟩:=ex.1;have Y2:a.eval x = .slice ad (List.length xs) cap:=by simpa using dB
    have Y3:a.eval y = .slice none 0 0:=ey.1;obtain⟨a',bA⟩:=HJ hl;obtain⟨hd,_⟩:=pj hT BN bA;refine⟨.bool ad.isNone,ad.isNone,?_,rfl,λhb=>?_⟩
    .simp only[execOp,bN,Y2,Y3,eqGuard,binOp];simp[run_equal_slice_nil w t ti.elem ad (List.length xs) cap hd]
    .have:ad=none:=by cases ad<;>simp_all
     have:=CB this;have:List.length xs=0:=by omega
     cases xs with
     |nil=>rfl
     |cons=>simp at this
   .simp at h
  .simp at h
 .simp at h
theorem Fj{P:Program}{E:Env}(hT:cw P E.T)(hC:lG P E.C)(hR:Rel E.N E.np S0 w0 refs σ a w S γ){act:List (Nat×Bool)}(aT:pq (tm a) act){p:Bool}
  (hc:p=false->dK σ){o:Oper}(hd:rn E.N o=true){R:Type}{k:St->Option R}{r:R}(h:run1 E p σ act o k=some r){next:Go.Act->World->Prop}{Q:Exit->Go.Act->World->Prop}
  (hn:∀σ' a' w' S' γ',Rel E.N E.np S0 w0 refs σ' a' w' S' γ'->(p=false->dK σ')->k σ'=some r->next a' w'):o.wp P a w next Q:=by
 have hd:=Is hd
 have dq:∀(u:Ups)(s:Slot)(v:Value)(w':World)(S':aD)(γ':Nat->Value),Rel E.N E.np S0 w0 refs (σ.upd u) a w' S' γ'->gz S' w' γ' (σ.upd u).bx (tm a) s v->s.bare=true->
   k (cond p ((σ.upd u).put o.dst s) ((σ.upd u).setD o.dst s))=some r->next (a.put o.dst v) w':=by
  intro u s v w' S' γ' cU hs hb hk;cases p with
  |true=>exact hn _ _ _ _ _ (CA cU hd hs) (by simp) hk
  |false=>obtain⟨h1,h2⟩:=PW cU (PX (hc rfl)) hd hs hb;exact hn _ _ _ _ _ h1 (λ_=>h2) hk
 unfold run1 at h;split at h
 .rename_i e he
  have he:nilT E σ o=some e:=by
   cases hz:E.nz with
   |true=>rw[hz]at he;exact he
   |false=>rw[hz]at he;simp at he
  obtain⟨v,b,aK,rfl,hb⟩:=Y1 (P:=P) hT hR he;obtain⟨h1,h2⟩:=Xs h;unfold Oper.wp;rw[aK,Oper.upon_value];cases b with
  |true=>exact dq [] (.one (.one (.d .bool true))) (.bool true) w S γ hR ⟨rfl,λ_=>rfl⟩ rfl (h2 (hb rfl))
  |false=>exact dq [] (.one (.one (.d .bool false))) (.bool false) w S γ hR ⟨rfl,λ_=>rfl⟩ rfl h1
 split at h
 .simp at h
 .rename_i iy s u ho;cases iy with
  |false=>simp at h
  |true=>
   obtain⟨⟨v,w',S',γ',aK,cU,hs⟩,hb⟩:=Im hT hR aT (λ_=> .inl rfl) ho;unfold Oper.wp;rcases aK with aK|⟨aK,rfl⟩
   .rw[aK,Oper.upon_value];exact dq u s v w' S' γ' cU hs hb h
   .rw[aK,Oper.upon_skip];exact dq u s undef w' S' γ' cU hs hb h
 .rename_i f args mk ho;obtain⟨hf,eF⟩:=hC f args R _ r h;obtain⟨vals,aK,mm,hb⟩:=PT hR aT (λ_=> .inl rfl) ho hf eF;unfold Oper.wp;rw[aK,Oper.upon_enter];refine mm.mono ?_
  rintro e w' ⟨ret,hk,ao⟩
  split at hk
  .rename_i s u bG;obtain⟨v,S',γ',rfl,cU,hs⟩:=ao s u bG;exact dq u s v w' S' γ' cU hs (hb ret s u bG) hk
  .simp at hk
theorem PY{P:Program}{E:Env}(hT:cw P E.T)(hC:lG P E.C){ops:Array Oper}(dL:bare ops=true){R:Type}{k:St->Option R}{r:R}{Q:Exit->Go.Act->World->Prop}
  (hn:∀σ' a' w' S' γ',Rel E.N E.np S0 w0 refs σ' a' w' S' γ'->dK σ'->k σ'=some r->Q .normal a' w') :
  ∀(n i:Nat)(σ:St)(a:Go.Act)(w:World)(S:aD)(γ:Nat->Value),i+n=ops.size->Rel E.N E.np S0 w0 refs σ a w S γ->dK σ->oA E (ops.toList.drop i) σ k=some r->
   wpOps P ops Q (List.range' i n) a w
 |0,i,σ,a,w,S,γ,hi,hR,hc,h=>by
  rw[jf (by simp;omega)]at h;exact hn _ _ _ _ _ hR hc h
 |n+1,i,σ,a,w,S,γ,hi,hR,hc,h=>by
  have an:i<ops.size:=by omega
  rw[jc (by simpa using an)]at h;simp only[oA]at h;split at h
  .rename_i hd;have ho:ops[i]? = some ops[i]:=js an;simp only[List.range'_succ,wpOps,ho];have hg:ops[i].guard=none:=by have:=k5.1 dL ops[i] (by simp);simpa using this
   have hw:Region.wanted ops[i] (yielded ops a.tmps)=true:=by simp[Region.wanted,hg]
   simp only[hw,if_true];refine .inl (Fj hT hC hR (act:=[]) (λg hg=>by simp at hg) (p:=false) (λ_=>hc) (by simpa using hd) (by simpa using h) (λσ' a' w' S' γ' cU ej hk=>?_));exact PY hT hC dL hn n (i+1) σ' a' w' S' γ' (by omega) cU (ej rfl) hk
  .simp at h
theorem Fk{ops:Array Oper}{o:Oper}{g:Nat×Bool}(h:nt ops o=some g):Region.wanted o (yielded ops a.tmps)=true↔tm a g.1 = .bool g.2:=by
 unfold nt at h;split at h
 .simp at h
 .rename_i j wn It;split at h
  .rename_i oj iE;split at h
   .rename_i s hs;simp only[j4]at h;subst h;simp only[Region.wanted,It,yielded,iE,j3,hs,tm];cases hq:a.tmps[s]? with
    |none=>
     have:a.tmps.getD s undef=undef:=by simp[hq]
     rw[this];simp[undef]
    |some v=>
     have:a.tmps.getD s undef=v:=by simp[hq]
     rw[this];cases v<;>simp
   .simp at h
  .simp at h
theorem Iu(hR:Rel N np S0 w0 refs σ a w S γ):∀(n:Nat)(g:Nat×Bool),tm a g.1 = .bool g.2->pq (tm a) (σ.chain n g)
 |0,g,h=>by intro x hx;simp only[St.chain,ke]at hx;subst hx;exact h
 |n+1,g,h=>by
  simp only[St.chain];have hs:=hR.slot g.1;split
  .rename_i s b c hc;rw[hc]at hs
   have h2:tm a s = .bool b:=by
    rcases hs with hs|hs
    .exact hs.1
    .have:tm a g.1=undef:=hs.2;rw[h]at this;simp[undef]at this
   intro x hx;rcases je.1 hx with rfl|hx
   .exact h
   .exact Iu hR n (s,b) h2 x hx
  .intro x hx;simp only[ke]at hx;subst hx;exact h
theorem Y4:∀(n:Nat)(g:Nat×Bool),g∈σ.chain n g
 |0,g=>by simp[St.chain]
 |n+1,g=>by simp only[St.chain];split<;>simp
theorem PZ(hR:Rel N np S0 w0 refs σ a w S γ):∀{l:List (Nat×Bool)}{b:Bool},actB σ l=some b->pq (tm a) l->b=true
 |[],b,h,_=>by simp[actB]at h;exact h
 |(s,wn)::r,b,h,ha=>by
  have ht:tm a s = .bool wn:=ha (s,wn) (by simp);simp only[actB]at h;split at h
  .rename_i v hv
   have Y5:v=wn:=by
    have hs:=hR.slot s;unfold gval at hv;split at hv
    .rename_i v' eU;simp only[j4]at hv;subst hv;rw[eU]at hs;have:tm a s = .bool v':=ru hs;rw[ht]at this;simpa using this.symm
    .rename_i s' b' v' eU;simp only[j4]at hv;subst hv;rw[eU]at hs;rcases hs with hs|hs
     .have:tm a s = .bool v':=ru hs.2;rw[ht]at this;simpa using this.symm
     .have:tm a s=undef:=hs.2;rw[ht]at this;simp[undef]at this
    .simp at hv
   subst Y5;split at h
   .simp only[j4]at h;rw[<-h];cases v<;>rfl
   .split at h
    .rename_i b2 eP;simp only[j4]at h;have:=PZ hR eP (λg hg=>ha g (by simp[hg]));rw[<-h,this];cases v<;>rfl
    .simp at h
  .simp at h
theorem Iv(hR:Rel N np S0 w0 refs σ a w S γ){s:Nat}{x:Slot}(h:gz S w γ σ.bx (tm a) x (tm a s)):Rel N np S0 w0 refs (σ.setS s x) a w S γ:=by
 refine⟨hR.size,hR.defers,λi=>?_,hR.box,hR.own,hR.apart,hR.ext,hR.new,hR.here,hR.below,hR.grow,hR.os,hR.tape,hR.output,hR.par,hR.kept,hR.fix⟩;simp only[St.setS];split
 .rename_i hi;subst hi;exact h
 .exact hR.slot i
theorem P0{R:Type}:∀(l:List (Nat×Bool)){σ:St}{k:St->Bool->Option R}{r:R},Rel N np S0 w0 refs σ a w S γ->uc l σ k=some r->
  ∃σ' b,Rel N np S0 w0 refs σ' a w S γ/\k σ' b=some r/\(b=true↔pq (tm a) l)
 |[],σ,k,r,hR,h=>⟨σ,true,hR,h,by simp[pq]⟩
 |(s,wn)::l,σ,k,r,hR,h=>by
  simp only[uc]at h;obtain⟨σ1,b1,bu,dz,da⟩:=P0 l hR h;cases b1 with
  |false=>
   refine⟨σ1,false,bu,dz,?_⟩;simp only[km,false_iff]at da ⊢
   exactλha=>da (λg hg=>ha g (by simp[hg]))
  |true=>
   have xa:=da.1 rfl;simp only at dz;split at dz
   .rename_i v hv
    have ht:tm a s = .bool v:=by
     have hs:=bu.slot s;unfold Hq at hv;split at hv
     .rename_i v' eU;simp only[j4]at hv;subst hv;rw[eU]at hs;exact ru hs
     .rename_i s' b' v' eU;split at hv
      .rename_i hm;simp only[j4]at hv;subst hv;rw[eU]at hs;have iF:(s',b')∈l:=by simpa using hm
       have:=xa _ iF;rcases hs with hs|hs
       .exact ru hs.2
       .exact absurd this hs.1
      .simp at hv
     .simp at hv
    have CC:∀b,b=v->Rel N np S0 w0 refs (σ1.setS s (.one (.one (.d .bool b)))) a w S γ:=by
     rintro b rfl
     refine Iv bu ⟨?_,λ_=>?_⟩
     .show Rep S w .bool b [tm a s];rw[ht];rfl
     .rw[ht];rfl
    cases v with
    |true=>
     simp only[j5]at dz;refine⟨_,wn,CC true rfl,dz,?_⟩;constructor
     .rintro rfl g hg
      rcases je.1 hg with rfl|hg
      .exact ht
      .exact xa g hg
     .intro ha;have:=ha (s,wn) (by simp);rw[ht]at this;simpa using this.symm
    |false=>
     simp only[j6]at dz;refine⟨_, !wn,CC false rfl,dz,?_⟩;constructor
     .intro hw g hg;have Iw:wn=false:=by simpa using hw
      subst Iw;rcases je.1 hg with rfl|hg
      .exact ht
      .exact xa g hg
     .intro ha;have:=ha (s,wn) (by simp);rw[ht]at this;have:false=wn:=by simpa using this
      rw[<-this];rfl
   .simp at dz
theorem Y6{P:Program}{E:Env}(hT:cw P E.T)(hC:lG P E.C)(hR:Rel E.N E.np S0 w0 refs σ a w S γ){ops:Array Oper}{o:Oper}(hd:rn E.N o=true)
  {R:Type}{k:St->Option R}{r:R}(h:Bu E ops σ o k=some r){next:Go.Act->World->Prop}{Q:Exit->Go.Act->World->Prop}
  (hn:∀σ' a' w' S' γ',Rel E.N E.np S0 w0 refs σ' a' w' S' γ'->k σ'=some r->next a' w') :
  if Region.wanted o (yielded ops a.tmps) then o.wp P a w next Q\/(o.asks P a w/\LetsOut Q) else next (a.put o.dst undef) w:=by
 have pC:=Is hd;unfold Bu at h;split at h
 .split at h
  .rename_i hg;have hw:Region.wanted o (yielded ops a.tmps)=true:=by simp[Region.wanted,hg]
   simp only[hw,if_true];exact .inl (Fj hT hC hR (act:=[]) (λg hg=>by simp at hg) (p:=true) (by simp) hd h (λσ' a' w' S' γ' cU _ hk=>hn σ' a' w' S' γ' cU hk))
  .simp at h
 .rename_i g hg;dsimp only at h;have CD:=Fk (a:=a) hg
  have uM:uc (σ.chain 40 g) σ (λσ' a=>match a with
    |true=>run1 E true σ' (σ.chain 40 g) o k
    |false=>k (σ'.put o.dst (.one (.one .dead))))=some r->
    if Region.wanted o (yielded ops a.tmps) then o.wp P a w next Q\/(o.asks P a w/\LetsOut Q) else next (a.put o.dst undef) w:=by
   intro hs;obtain⟨σ',b,cU,hk,hb⟩:=P0 _ hR hs;cases b with
   |true=>have aT:=hb.1 rfl;have hw:=CD.2 (aT g (Y4 40 g));simp only[hw,if_true];exact .inl (Fj hT hC cU aT (p:=true) (by simp) hd hk (λσ' a' w' S' γ' cU _ hk=>hn σ' a' w' S' γ' cU hk))
   |false=>
    have hw:¬Region.wanted o (yielded ops a.tmps)=true:=λhw=>by
     have:=hb.2 (Iu hR 40 g (CD.1 hw));simp at this
    simp only[hw];exact hn _ _ _ _ _ (CA cU pC (s:= .one (.one .dead)) (v:=undef) ⟨trivial,λh=>absurd rfl h⟩) hk
  split at h
  .rename_i iy c ho;split at h
   .rename_i ab bz;by_cases hw:Region.wanted o (yielded ops a.tmps)=true
    .have aT:=Iu hR 40 g (CD.1 hw);have:=PZ hR bz aT;subst this;simp only[hw,if_true];cases iy with
     |false=>simp at h
     |true=>
      simp only[jr,Bool.or_false,j5]at h;obtain⟨⟨v,w',S',γ',aK,cU,hs⟩,hb⟩:=Im hT hR aT (λ_=> .inl rfl) ho;have jY:=CA cU pC (s:= .cnd g.1 g.2 c) (v:=v) (.inl ⟨CD.1 hw,hs⟩);refine .inl ?_;unfold Oper.wp;rcases aK with aK|⟨aK,rfl⟩
      .rw[aK,Oper.upon_value];exact hn _ _ _ _ _ jY h
      .rw[aK,Oper.upon_skip];exact hn _ _ _ _ _ jY h
    .simp only[hw]
     have hk:k (σ.put o.dst (.cnd g.1 g.2 c))=some r:=by
      cases hc:(iy || !ab) with
      |true=>rw[hc]at h;exact h
      |false=>rw[hc]at h;simp at h
     exact hn _ _ _ _ _ (CA hR pC (s:= .cnd g.1 g.2 c) (v:=undef) (.inr ⟨λhh=>hw (CD.2 hh),rfl⟩)) hk
   .exact uM h
  .exact uM h
theorem Y7(hR:Rel N np S0 w0 refs σ a w S γ):Rel N np S0 w0 refs σ.clear a w S γ/\dK σ.clear:=by
 refine⟨⟨hR.size,hR.defers,λi=>?_,hR.box,hR.own,hR.apart,hR.ext,hR.new,hR.here,hR.below,hR.grow,hR.os,hR.tape,hR.output,hR.par,hR.kept,hR.fix⟩,λi=>?_⟩
 .have:=hR.slot i;simp only[St.clear];cases hs:σ.sl i with
  |one c=>rw[hs]at this;exact this
  |tup l=>rw[hs]at this;exact this
  |und=>rw[hs]at this;exact this
  |cnd s b c=>exact⟨trivial,λh=>absurd rfl h⟩
 .simp only[St.clear];cases σ.sl i<;>rfl
theorem P1{P:Program}{E:Env}(hT:cw P E.T)(hC:lG P E.C){ops:Array Oper}{R:Type}{k:St->Option R}{r:R}{Q:Exit->Go.Act->World->Prop}
  (hn:∀σ' a' w' S' γ',Rel E.N E.np S0 w0 refs σ' a' w' S' γ'->dK σ'->k σ'=some r->Q .normal a' w') :
  ∀(n i:Nat)(σ:St)(a:Go.Act)(w:World)(S:aD)(γ:Nat->Value),i+n=ops.size->Rel E.N E.np S0 w0 refs σ a w S γ->yW E ops (ops.toList.drop i) σ k=some r->
   wpOps P ops Q (List.range' i n) a w
 |0,i,σ,a,w,S,γ,hi,hR,h=>by
  rw[jf (by simp;omega)]at h;obtain⟨h1,h2⟩:=Y7 hR;exact hn _ _ _ _ _ h1 h2 h
 |n+1,i,σ,a,w,S,γ,hi,hR,h=>by
  have an:i<ops.size:=by omega
  rw[jc (by simpa using an)]at h;simp only[yW]at h;split at h
  .rename_i hd;have ho:ops[i]? = some ops[i]:=js an;simp only[List.range'_succ,wpOps,ho];exact Y6 hT hC hR (by simpa using hd) (by simpa using h) (λσ' a' w' S' γ' cU hk=>P1 hT hC hn n (i+1) σ' a' w' S' γ' (by omega) cU hk)
  .simp at h
theorem P2{P:Program}{E:Env}(hT:cw P E.T)(hC:lG P E.C)(hR:Rel E.N E.np S0 w0 refs σ a w S γ)(hc:dK σ){ops:Array Oper}{R:Type}{k:St->Option R}{r:R}
  {Q:Exit->Go.Act->World->Prop}(hn:∀σ' a' w' S' γ',Rel E.N E.np S0 w0 refs σ' a' w' S' γ'->dK σ'->k σ'=some r->Q .normal a' w')(h:oD E ops σ k=some r) :
  wpOps P ops Q (List.range ops.size) a w:=by
 rw[List.range_eq_range'];unfold oD at h;split at h
 .rename_i hb;exact PY hT hC hb hn ops.size 0 σ a w S γ (by omega) hR hc (by simpa using h)
 .exact P1 hT hC hn ops.size 0 σ a w S γ (by omega) hR (by simpa using h)
end
section
variable{N:NT}{np:Nat}{S0:aD}{w0:World}{refs:Refs}{σ:St}{a:Go.Act}{w:World}{S:aD}{γ:Nat->Value}
theorem Y8(hR:Rel N np S0 w0 refs σ a w S γ){k:Nat}{b b':Bx}(hk:σ.bx k = .live b)(oH:iz b b')(cY:∀bx',BxLe γ σ.bx γ bx'->ei S w γ bx' k b') :
  Rel N np S0 w0 refs (σ.setB k (.live b')) a w S γ:=by
 have hle:BxLe γ σ.bx γ (σ.setB k (.live b')).bx:=by
  intro k' bg;by_cases h:k'=k
  .subst h;rw[fX];exact⟨by simp,rfl,λx hx=>by simp at hx;subst hx;exact⟨b,hk,oH⟩⟩
  .rw[cD σ _ h];exact⟨bg,rfl,λx hx=>⟨x,hx,.refl x⟩⟩
 have bt:∀k' x,(σ.setB k (.live b')).bx k' = .live x->∃x',σ.bx k' = .live x':=by
  intro k' x hx;by_cases h:k'=k
  .subst h;exact⟨b,hk⟩
  .rw[cD σ _ h]at hx;exact⟨x,hx⟩
 refine Rel.step (bx':=(σ.setB k (.live b')).bx) hR (.refl S w) hle ?_ ?_ ?_ hR.new hR.here hR.below hR.grow hR.os hR.tape hR.output (λg _ _ h=>⟨rfl,λk' b' aM=>by obtain⟨b2,eP⟩:=bt k' b' aM;exact h k' b2 eP⟩)
 .intro k' x hx;by_cases h:k'=k
  .subst h;rw[fX]at hx;simp at hx;subst hx;exact cY _ hle
  .rw[cD σ _ h]at hx;exact ei.keep (.refl S w) hle rfl (λg hg=>⟨rfl,λ_=>Iff.rfl⟩) (hR.box k' x hx)
 .intro k' x g hx hg;obtain⟨x',gJ⟩:=bt k' x hx;exact hR.own k' x' g gJ hg
 .intro k1 k2 x1 x2 g aZ h1 h2 hg;obtain⟨y1,Y9⟩:=bt k1 x1 h1;obtain⟨y2,Ix⟩:=bt k2 x2 h2;exact hR.apart k1 k2 y1 y2 g aZ Y9 Ix hg
theorem All2.set_left{α β:Type}{R:α->β->Prop}:∀{as:List α}{bs:List β},All2 R as bs->∀(i:Nat)(x:α)(b:β),bs[i]? = some b->R x b->All2 R (as.set i x) bs
 |[],[],_,i,x,b,hb,_=>by simp at hb
 |_::_,_::_,h,0,x,b,hb,hr=>by simp at hb;subst hb;exact⟨hr,h.2⟩
 |_::_,_::_,h,i+1,x,b,hb,hr=>⟨h.1,All2.set_left h.2 i x b (by simpa using hb) hr⟩
 |[],_::_,h,_,_,_,_,_=>h.elim
 |_::_,[],h,_,_,_,_,_=>h.elim
theorem P3:∀(l:List (Loc×Ty))(σ σ':St)(S:aD),Rel N np S0 w0 refs σ a w S γ->dK σ->BC np l σ=some σ'->∃S',Rel N np S0 w0 refs σ' a w S' γ/\dK σ'
 |[],σ,σ',S,hR,hc,h=>by simp[BC]at h;subst h;exact⟨S,hR,hc⟩
 |(l,t)::r,σ,σ',S,hR,hc,h=>by
  simp only[BC]at h;split at h
  .rename_i v u hv;have bC:=Cw (np:=np) (σ:=σ) (rd:=mskM σ.bx) (RdR.msk λ_=> .inl rfl)
   suffices hs:∃S',Rel N np S0 w0 refs (we (σ.upd u) l (.d t v)) a w S' γ/\dK (we (σ.upd u) l (.d t v)) by
    obtain⟨S1,bu,gu⟩:=hs;exact P3 r _ σ' S1 bu gu h
   cases l with
   |slot i=>
    cases eU:σ.sl i with
    |tup x=>simp only[gW,eU]at hv;simp[hQ]at hv
    |cnd x y z=>simp only[gW,eU]at hv;simp[hQ]at hv
    |und=>simp only[gW,eU]at hv;simp[hQ]at hv
    |one c=>
     cases c with
     |st ls=>simp only[gW,eU]at hv;simp[hQ]at hv
     |av n b xs=>simp only[gW,eU]at hv;simp[hQ]at hv
     |one x=>
      simp only[gW,eU]at hv;have uN:=hR.slot i;rw[eU]at uN;obtain⟨eO,hp⟩:=ur bC hv uN.1;obtain⟨S1,bu,ct,gL,_⟩:=nD u σ S hR eO;have bq:=hp S1 w ct gL;refine⟨S1,?_,?_⟩
      .simp only[we,zG,eU];exact Iv bu ⟨bq,λ_=>Rep.one _ _ _ bq _ (ke.2 rfl)⟩
      .intro j;simp only[we,zG,eU,St.setS];split
       .rfl
       .exact hc j
   |cell k c=>
    have mn:gW σ (.cell k c) ≠ .dead:=λhd=>by rw[hd]at hv;simp[hQ]at hv
    cases eT:σ.bx k with
    |free=>simp[gW,eT]at mn
    |gone=>simp[gW,eT]at mn
    |live b=>
     cases b with
     |lst e b xs f=>simp[gW,eT]at mn
     |arr n b xs=>simp[gW,eT]at mn
     |cell ls f=>
      cases f with
      |true=>simp[gW,eT]at mn
      |false=>
       have hl:gW σ (.cell k c)=ls.getD c .dead:=by simp[gW,eT]
       rw[hl]at hv mn;obtain⟨g,cur,e,h1,h2,h3,h4,h5,h6⟩:=hR.box k _ eT;cases hg:ls[c]? with
       |none=>simp[hg]at mn
       |some x=>
        have Za:ls.getD c .dead=x:=by simp[hg]
        rw[Za]at hv;obtain⟨z,hz,Fl⟩:=h3.get c x hg;obtain⟨eO,hp⟩:=ur bC hv Fl;obtain⟨S1,bu,ct,gL,dF⟩:=nD u σ S hR eO;have bq:=hp S1 w ct gL;have sQ:=dF.cell eT;refine⟨S1,?_,?_⟩
        .simp only[we,sQ];refine Y8 bu sQ trivial (λbx' hle=>?_);obtain⟨g',ie,e',jP,jH,uG,Zb,Zc,h6'⟩:=bu.box k _ sQ;rw[h1]at jP;simp at jP;subst jP;rw[h2]at jH;simp at jH;obtain⟨rfl,rfl⟩:=jH;exact⟨g,cur,e,h1,h2,All2.set_left (uG.mono (λx u hx=>bO.keep (.refl S1 w) hle hx)) c _ z hz bq,Zb,Zc,by simp⟩
        .intro j;simp only[we,sQ];show ((σ.upd u).sl j).bare=true;rw[zG];exact hc j
  .simp at h
theorem CE:∀(l:List nr)(σ σ':St)(S:aD),Rel N np S0 w0 refs σ a w S γ->dK σ->ue np l σ=some σ'->∃S',Rel N np S0 w0 refs σ' a w S' γ/\dK σ'
 |[],σ,σ',S,hR,hc,h=>by simp[ue]at h;subst h;exact⟨S,hR,hc⟩
 |x::r,σ,σ',S,hR,hc,h=>by
  simp only[ue]at h;split at h
  .split at h
   .split at h
    .split at h
     .rename_i e b xs f eT;split at h
      .simp at h
      .rename_i hp;simp only[zp,not_or,Bool.not_eq_true]at hp;obtain⟨S1,bu,_⟩:=HM hR hp.2 eT hp.1;exact CE r _ σ' S1 bu (λi=>hc i) h
     .simp at h
    .exact CE r σ σ' S hR hc h
   .exact CE r σ σ' S hR hc h
  .exact CE r σ σ' S hR hc h
theorem oM:∀{l:List Nat}{i j:Nat},l.idxOf? i=some j->l[j]? = some i
 |[],i,j,h=>by simp at h
 |x::l,i,j,h=>by
  rw[List.idxOf?_cons]at h;split at h
  .rename_i he;simp at h he;subst h;subst he;rfl
  .cases hq:l.idxOf? i with
   |none=>simp[hq]at h
   |some j'=>simp[hq]at h;subst h;simpa using oM hq
theorem Iy:∀{l:List Nat}{i:Nat},l.idxOf? i=none->i∉l
 |[],i,_=>by simp
 |x::l,i,h=>by
  rw[List.idxOf?_cons]at h;split at h
  .simp at h
  .rename_i he;have hq:l.idxOf? i=none:=by simpa using h
   have:=Iy hq;simp only[je,not_or];exact⟨λe=>he (by simp[e]),this⟩
theorem Iz{e:Nat}{t:Ty}{l:Loc}{k:Option Nat}{xs:List t.den}{f:Bool}(h:yY σ e t l=some (k,xs,f)) :
  (k=none/\isM e=false/\xs=[]/\gW σ l = .nil)\/∃k0,k=some k0/\gW σ l = .ol k0/\σ.bx k0 = .live (.lst e t xs f):=by
 unfold yY at h;split at h
 .rename_i hl;split at h
  .simp at h
  .rename_i hm;simp only[j4,j8]at h;exact .inl ⟨h.1.symm,by simpa using hm,h.2.1.symm,hl⟩
 .rename_i k0 hl;split at h
  .rename_i e' t' cB f' hb;split at h
   .rename_i v iB;split at h
    .rename_i he;simp only[j4,j8]at h;obtain⟨rfl,rfl,rfl⟩:=h;have:=lV iB;cases this;subst he;exact .inr ⟨k0,rfl,hl,hb⟩
    .simp at h
   .simp at h
  .simp at h
 .simp at h
theorem Fm{e:Nat}{t:Ty}:∀{ls:List Loc}{k:Option Nat}{xs:List t.den}{f:Bool},wc σ e t ls=some (k,xs,f)->
  (∃l∈ls,yY σ e t l=some (k,xs,f))/\∀l∈ls,∃cB f',yY σ e t l=some (k,cB,f')
 |[],_,_,_,h=>by simp[wc]at h
 |[l],k,xs,f,h=>by
  simp only[wc]at h;exact⟨⟨l,by simp,h⟩,λl' jX=>by simp at jX;subst jX;exact⟨_,_,h⟩⟩
 |l::l2::ls,k,xs,f,h=>by
  simp only[wc]at h;split at h
  .rename_i k1 E4 f1 k2 OX f2 h1 h2;split at h
   .rename_i hk;simp only[j4,j8]at h;obtain⟨rfl,rfl,rfl⟩:=h;subst hk;obtain⟨_,ao⟩:=Fm h2;refine⟨⟨l,by simp,h1⟩,λl' jX=>?_⟩;rcases je.1 jX with rfl|jX
    .exact⟨_,_,h1⟩
    .exact ao l' jX
   .simp at h
  .simp at h
def P4(np:Nat)(σ:St)(bs:List Nat)(x:nr)(it:Item)(src:Option Nat):Prop:=
 ∃xs f f',wc σ x.e x.a x.locs=some (src,xs,f)/\it = .b (.live (.lst x.e x.a xs f'))/\∀k0,src=some k0->f'=f/\k0∉bs/\parK np k0=false
theorem P5{bs:List Nat}:∀{L:List nr}{is:List Item}{ks:List Nat},yZ np σ bs L=some (is,ks)->
  ∃eI:List (Option Nat),ks=eI.filterMap id/\ks.Nodup/\∀(j:Nat)(x:nr),L[j]? = some x->∃it src,is[j]? = some it/\eI[j]? = some src/\P4 np σ bs x it src
 |[],is,ks,h=>by
  simp[yZ]at h;obtain⟨rfl,rfl⟩:=h;exact⟨[],rfl,zg,λj x hx=>by simp at hx⟩
 |x::L,is,ks,h=>by
  simp only[yZ]at h;split at h
  .rename_i k xs f is' Hv h1 h2;obtain⟨eI,e1,e2,e3⟩:=P5 h2;split at h
   .simp only[j4,j8]at h;obtain⟨rfl,rfl⟩:=h;refine⟨none::eI,by simp[e1],e2,λj y hy=>?_⟩;cases j with
    |zero=>simp at hy;subst hy;exact⟨_,none,rfl,rfl,xs,f,x.frz,h1,rfl,by simp⟩
    |succ j=>exact e3 j y (by simpa using hy)
   .rename_i k0;split at h
    .simp at h
    .rename_i hn;simp only[zp,not_or,Bool.not_eq_true,qb,jo]at hn;simp only[j4,j8]at h;obtain⟨rfl,rfl⟩:=h;refine⟨some k0::eI,by simp[e1],qp.2 ⟨hn.1.1,e2⟩,λj y hy=>?_⟩;cases j with
     |zero=>simp at hy;subst hy;exact⟨_,some k0,rfl,rfl,xs,f,f,h1,rfl,λk1 dz=>by simp at dz;subst dz;exact⟨rfl,hn.1.2,hn.2⟩⟩
     |succ j=>exact e3 j y (by simpa using hy)
  .simp at h
theorem P6:∀{eI:List (Option Nat)},(eI.filterMap id).Nodup->∀{j j' k:Nat},eI[j]? = some (some k)->eI[j']? = some (some k)->j=j'
 |[],_,j,_,_,h,_=>by simp at h
 |s::eI,hn,j,j',k,h,h'=>by
  have dV:∀{i:Nat},eI[i]? = some (some k)->k∈eI.filterMap id:=λhi=>zj.2 ⟨some k,k9 hi,rfl⟩
  have IA:(eI.filterMap id).Nodup:=by
   cases s with
   |none=>simpa using hn
   |some y=>simp at hn;exact hn.2
  cases j with
  |zero=>
   cases j' with
   |zero=>rfl
   |succ j'=>simp at h h';subst h;simp at hn;exact absurd (by simpa using dV h') hn.1
  |succ j=>
   cases j' with
   |zero=>simp at h h';subst h';simp at hn;exact absurd (by simpa using dV h) hn.1
   |succ j'=>have:=P6 IA (j:=j) (j':=j') (k:=k) (by simpa using h) (by simpa using h');omega
theorem P7:∀{l:List Nat},l.Nodup->∀{i j n:Nat},l[i]? = some n->l[j]? = some n->i=j
 |[],_,i,_,_,hi,_=>by simp at hi
 |x::l,h,i,j,n,hi,hj=>by
  obtain⟨h1,h2⟩:=qp.1 h;cases i with
  |zero=>
   cases j with
   |zero=>rfl
   |succ j=>simp at hi hj;subst hi;exact absurd (k9 hj) h1
  |succ i=>
   cases j with
   |zero=>simp at hi hj;subst hj;exact absurd (k9 hi) h1
   |succ j=>rw[P7 h2 (i:=i) (j:=j) (n:=n) (by simpa using hi) (by simpa using hj)]
end
section
variable{N:NT}{np:Nat}{S0:aD}{w0:World}{refs:Refs}{σ:St}{a:Go.Act}{w:World}{S:aD}{γ:Nat->Value}
theorem Zd{K:Keep}{l:Loc}{n:Nat}(h:BB K l=some n):∃(j:Nat)(x:nr),K.lists[j]? = some x/\x.name=n/\l∈x.locs:=by
 unfold BB at h;obtain⟨x,hq,hn⟩:=Option.map_eq_some_iff.1 h;have h1:=List.find?_some hq;obtain⟨j,hj⟩:=z8.1 (List.mem_of_find?_eq_some hq);exact⟨j,x,hj,hn,by simpa using h1⟩
theorem zS{K:Keep}{k:Nat}{x:BS}{b:Bx}(h:ud K k x = .live b):∃b0,x = .live b0/\iz b0 b:=by
 unfold ud at h;split at h
 .simp only[BS.live.injEq]at h;subst h;exact⟨_,rfl,trivial⟩
 .simp only[BS.live.injEq]at h;subst h;exact⟨_,rfl,.refl _⟩
 .simp only[BS.live.injEq]at h;subst h;exact⟨_,rfl,.refl _⟩
 .simp at h
theorem zT{K:Keep}{k:Nat}{x:BS}:ud K k x ≠ .free:=by
 unfold ud;split<;>simp
theorem P8{R:Leaf->Value->Prop}{f:Leaf×Nat->Leaf}:∀{ls:List Leaf}{cs:List Value}(n:Nat),(∀(j:Nat)(x:Leaf)(u:Value),ls[j]? = some x->cs[j]? = some u->R (f (x,n+j)) u)->ls.length=cs.length->
  All2 R ((ls.zipIdx n).map f) cs
 |[],[],_,_,_=>trivial
 |x::ls,c::cs,n,h,hl=>by
  refine⟨h 0 x c rfl rfl,P8 (n+1) (λj y u hy hu=>?_) (by simpa using hl)⟩;have:=h (j+1) y u (by simpa using hy) (by simpa using hu);rwa[show n+1+j=n+(j+1) by omega]
 |[],_::_,_,_,hl=>by simp at hl
 |_::_,[],_,_,hl=>by simp at hl
theorem Ze{K:Keep}{s:Snap}(hR:Rel N np S0 w0 refs σ a w S γ)(hs:Hs np K σ=some s):∃γ',Rel N np S0 w0 refs (cR np K s) a w S γ'/\dK (cR np K s):=by
 unfold Hs at hs;cases hL:yZ np σ K.boxes K.lists with
 |none=>simp[hL]at hs
 |some p=>
 obtain⟨is,ks⟩:=p;simp only[hL]at hs;cases bH:K.ok np with
 |false=>simp[bH]at hs
 |true=>
 simp only[bH,if_true,j4]at hs;obtain⟨eI,hks,dJ,CF⟩:=P5 hL;rw[hks]at dJ;simp only[Keep.ok,jb]at bH;have xb:=E8 bH.1;have Cv:∀(j:Nat)(x:nr),K.lists[j]? = some x->x.name∉K.boxes:=by intro j x hx;have:=k5.1 bH.2 x (k9 hx);simp only[jb]at this;simpa using this.1
 have uO:∀(j:Nat)(x:nr),K.lists[j]? = some x->parK np x.name=false:=by intro j x hx;have:=k5.1 bH.2 x (k9 hx);simp only[jb]at this;simpa using this.2
 let γ':Nat->Value:=λn=>match K.boxes.idxOf? n with
  |some _=>γ n
  |none=>match (K.lists.map (·.name)).idxOf? n with
   |some j=>match eI[j]? with
    |some (some k)=>γ k
    |_=> .slice none 0 0
   |none=>γ n
 have eT:(cR np K s).bx=λn=>match K.boxes.idxOf? n with
  |some j=>uf s[K.slots.length+j]?
  |none=>match (K.lists.map (·.name)).idxOf? n with
   |some j=>uf s[K.slots.length+K.boxes.length+j]?
   |none=>if parK np n then .gone else .free:=rfl
 have hB:∀n,n∈K.boxes->(cR np K s).bx n=ud K n (σ.bx n)/\γ' n=γ n:=by
  intro n hn;rw[eT];cases hq:K.boxes.idxOf? n with
  |none=>exact absurd hn (Iy hq)
  |some j=>have hj:=oM hq;refine⟨?_,by simp only[γ',hq]⟩;simp only[hq,<-hs];rw[k7 (by simp)];simp only[kn,Nat.add_sub_cancel_left];rw[List.getElem?_append_left (by simp;exact(ju.1 hj).1)];simp[hj,uf]
 have IB:∀(j:Nat)(x:nr),K.lists[j]? = some x->∃it src,eI[j]? = some src/\P4 np σ K.boxes x it src/\(cR np K s).bx x.name=uf (some it)/\
   γ' x.name=(match src with|some k=>γ k|none=> .slice none 0 0):=by
  intro j x hx;obtain⟨it,src,h1,h2,h3⟩:=CF j x hx
  have uP:K.boxes.idxOf? x.name=none:=by
   cases hq:K.boxes.idxOf? x.name with
   |none=>rfl
   |some i=>exact absurd (k9 (oM hq)) (Cv j x hx)
  have Fo:(K.lists.map (·.name))[j]? = some x.name:=by simp[hx]
  cases hq:(K.lists.map (·.name)).idxOf? x.name with
  |none=>exact absurd (k9 Fo) (Iy hq)
  |some i=>
   have hi:=P7 xb (oM hq) Fo;subst hi;refine⟨it,src,h2,h3,?_,?_⟩
   .rw[eT];simp only[uP,hq,<-hs];rw[k7 (by simp;omega),k7 (by simp;omega)];have:K.slots.length+K.boxes.length+i-(K.slots.map λi=>Item.s (EI K i (σ.sl i))).length-(K.boxes.map λk=>Item.b (ud K k (σ.bx k))).length=i:=by simp;omega
    rw[this,h1]
   .simp only[γ',uP,hq,h2];cases src<;>rfl
 have hF:∀n b,(cR np K s).bx n = .live b->n∈K.boxes\/∃(j:Nat)(x:nr),K.lists[j]? = some x/\x.name=n:=by
  intro n b hb;by_cases hn:n∈K.boxes
  .exact .inl hn
  .right;rw[eT]at hb
   have uP:K.boxes.idxOf? n=none:=by
    cases hq:K.boxes.idxOf? n with
    |none=>rfl
    |some i=>exact absurd (k9 (oM hq)) hn
   simp only[uP]at hb;split at hb
   .rename_i j hq;have hj:=oM hq;simp only[qm]at hj;cases hx:K.lists[j]? with
    |none=>simp[hx]at hj
    |some x=>simp[hx]at hj;exact⟨j,x,hx,hj⟩
   .split at hb<;>simp at hb
 have pN:∀(loc:Option Loc)(x:Leaf)(u:Value),bO S w γ σ.bx x u->(x ≠ .dead->One u)->(∀l,loc=some l->gW σ l=x)->
   bO S w γ' (cR np K s).bx (oE K loc x) u/\(oE K loc x ≠ .dead->One u):=by
  intro loc x u hl h1 xc;have gN:bO S w γ' (cR np K s).bx .dead u/\(Leaf.dead ≠ .dead->One u):=⟨trivial,λh=>absurd rfl h⟩
  have iC:∀n,loc.bind (BB K)=some n->∀(hu:(x = .nil)\/∃k,x = .ol k),bO S w γ' (cR np K s).bx (.ol n) u/\(Leaf.ol n ≠ .dead->One u):=by
   intro n hn hu;cases loc with
   |none=>simp at hn
   |some l=>
    simp only[j3]at hn;have mo:=xc l rfl;obtain⟨j,y,hy,Zf,sD⟩:=Zd hn;obtain⟨it,src,_,⟨xs,f,f',gO,zU,xd⟩,CG,rG⟩:=IB j y hy;obtain⟨_,ao⟩:=Fm gO;obtain⟨cB,f1,pM⟩:=ao l sD;have cP:One u:=h1 (by rcases hu with rfl|⟨k,rfl⟩<;>simp);rw[Zf]at CG rG;refine⟨⟨by rw[CG,zU];simp[uf],cP,λb _=>?_⟩,λ_=>cP⟩;rw[rG];rcases Iz pM with⟨rfl,_,_,fp⟩|⟨k0,rfl,uQ,di⟩
    .rw[mo]at fp;subst fp;exact hl
    .rw[mo]at uQ;subst uQ;exact hl.2.2 _ di
  cases x with
  |dead=>exact gN
  |nil=>
   simp only[oE];split
   .rename_i n hn;exact iC n hn (.inl rfl)
   .exact⟨hl,h1⟩
  |d t v=>exact⟨hl,h1⟩
  |ip ls=>exact⟨hl,h1⟩
  |clo f caps=>exact⟨hl,h1⟩
  |clr f ks=>
   simp only[oE];split
   .rename_i hks;obtain⟨cv,hu,ha⟩:=hl;refine⟨⟨cv,hu,?_⟩,λ_=>h1 (by simp)⟩
    have go:∀(ks:List Nat)(zs:List Value),ks.all (λk=>K.boxes.contains k)=true->All2 (BI γ σ.bx) ks zs->All2 (BI γ' (cR np K s).bx) ks zs:=by
     intro ks;induction ks with
     |nil=>intro zs _ h;cases zs with|nil=>trivial|cons _ _=>exact h.elim
     |cons k ks ih=>
      intro zs hc h;cases zs with
      |nil=>exact h.elim
      |cons z zs=>simp only[List.all_cons,jb]at hc;obtain⟨da,eP⟩:=hB k (by simpa using hc.1);refine⟨⟨by rw[da];exact zT,h.1.2.1,λb hb=>?_⟩,ih zs hc.2 h.2⟩;rw[da]at hb;obtain⟨b0,eh,_⟩:=zS hb;rw[eP];exact h.1.2.2 b0 eh
    exact go ks cv.toList hks ha
   .exact gN
  |ep k i c=>exact gN
  |tl k i=>
   simp only[oE];split
   .rename_i hk;obtain⟨da,eP⟩:=hB k (by simpa using hk);refine⟨⟨by rw[da];exact zT,hl.2.1,λb hb=>?_⟩,λ_=>hl.2.1⟩;rw[da]at hb;obtain⟨b0,eh,lJ⟩:=zS hb;have h3:=hl.2.2 b0 eh;rw[eP]
    cases b0<;>cases b<;>simp only[iz]at lJ<;>first
     |exact lJ.elim
     |exact h3.elim
     |(obtain⟨rfl,rfl,jX⟩:=lJ;simp only at h3 ⊢;obtain⟨hm,h3⟩:=h3;rw[<-jX hm];exact⟨hm,h3⟩)
   .exact gN
  |hd k i=>
   simp only[oE];split
   .rename_i hk;obtain⟨da,eP⟩:=hB k (by simpa using hk);refine⟨⟨by rw[da];exact zT,hl.2.1,λb hb=>?_⟩,λ_=>hl.2.1⟩;rw[da]at hb;obtain⟨b0,eh,lJ⟩:=zS hb;have h3:=hl.2.2 b0 eh;rw[eP]
    cases b0<;>cases b<;>simp only[iz]at lJ<;>first
     |exact lJ.elim
     |exact h3.elim
     |(obtain⟨rfl,rfl,jX⟩:=lJ;simp only at h3 ⊢;obtain⟨hm,h3⟩:=h3;rw[<-jX hm];exact⟨hm,h3⟩)
   .exact gN
  |ol k=>
   simp only[oE];split
   .rename_i hk;obtain⟨da,eP⟩:=hB k (by simpa using hk);refine⟨⟨by rw[da];exact zT,hl.2.1,λb hb=>?_⟩,λ_=>hl.2.1⟩;rw[da]at hb;obtain⟨b0,eh,_⟩:=zS hb;rw[eP];exact hl.2.2 b0 eh
   .split
    .rename_i n hn;exact iC n hn (.inr ⟨k,rfl⟩)
    .exact gN
  |bp k c=>
   simp only[oE];split
   .rename_i hk;obtain⟨da,eP⟩:=hB k (by simpa using hk);refine⟨⟨by rw[da];exact zT,hl.2.1,λb hb=>?_⟩,λ_=>hl.2.1⟩;rw[da]at hb;obtain⟨b0,eh,_⟩:=zS hb;rw[eP];exact hl.2.2 b0 eh
   .exact gN
 have fK:∀n b,(cR np K s).bx n = .live b->(n∈K.boxes/\γ' n=γ n/\∃b0,σ.bx n = .live b0)\/(blk (γ' n)=none)\/
   ∃(j:Nat)(x:nr)(k:Nat)(b0:Bx),K.lists[j]? = some x/\x.name=n/\eI[j]? = some (some k)/\γ' n=γ k/\σ.bx k = .live b0/\k∉K.boxes/\parK np k=false:=by
  intro n b hb;rcases hF n b hb with hn|⟨j,x,hx,rfl⟩
  .obtain⟨h1,h2⟩:=hB n hn;rw[h1]at hb;obtain⟨b0,eh,_⟩:=zS hb;exact .inl ⟨hn,h2,b0,eh⟩
  .obtain⟨it,src,xd,⟨xs,f,f',gO,zU,rH⟩,CG,rG⟩:=IB j x hx;obtain⟨⟨l,_,pM⟩,_⟩:=Fm gO;rcases Iz pM with⟨rfl,_,_,_⟩|⟨k,rfl,_,di⟩
   .exact .inr (.inl (by rw[rG];rfl))
   .obtain⟨_,h2,h3⟩:=rH k rfl;exact .inr (.inr ⟨j,x,k,_,hx,rfl,xd,rG,di,h2,h3⟩)
 refine⟨γ',⟨hR.size,hR.defers,?_,?_,?_,?_,hR.ext,hR.new,hR.here,hR.below,hR.grow,hR.os,hR.tape,hR.output,?_,λg o h=>⟨(hR.kept g o h).1,λn b hb di=>by
  have dI:=(hR.kept g o h).2;rcases fK n b hb with⟨_,e,b0,eh⟩|e|⟨j,x,k,b0,_,_,_,e,eh,_⟩
  .rw[e]at di;exact dI n b0 eh di
  .rw[e]at di;simp at di
  .rw[e]at di;exact dI k b0 eh di⟩,hR.fix⟩,?_⟩
 ·-- slots
  intro i
  have eU:(cR np K s).sl i=match K.slots.idxOf? i with
   |some j=>wg s[j]?
   |none=> .one (.one .dead):=rfl
  rw[eU];cases hq:K.slots.idxOf? i with
  |none=>exact⟨trivial,λh=>absurd rfl h⟩
  |some j=>
   have hj:=oM hq;have CH:s[j]? = some (.s (EI K i (σ.sl i))):=by rw[<-hs,List.getElem?_append_left (by simp;exact(ju.1 hj).1)];simp[hj]
   simp only[CH,wg];have uN:=hR.slot i;show bJ S w γ' (cR np K s).bx (EI K i (σ.sl i)) _;cases lX:σ.sl i with
   |tup l=>exact⟨trivial,λh=>absurd rfl h⟩
   |cnd x y z=>exact⟨trivial,λh=>absurd rfl h⟩
   |und=>exact⟨trivial,λh=>absurd rfl h⟩
   |one c=>
    rw[lX]at uN;cases c with
    |one x=>exact pN (some (.slot i)) x _ uN.1 uN.2 (λl hl=>by simp at hl;subst hl;simp[gW,lX])
    |st ls=>
     obtain⟨cs,hu,ao,h1⟩:=uN;refine⟨cs,hu,?_,h1⟩;refine All2.map_left.2 ?_
     have:∀{ls:List Leaf}{cs:List Value},All2 (bO S w γ σ.bx) ls cs->(∀u∈cs,One u)->All2 (λx u=>bO S w γ' (cR np K s).bx (oE K none x) u) ls cs:=by
      intro ls;induction ls with
      |nil=>intro cs h _;cases cs with|nil=>trivial|cons _ _=>exact h.elim
      |cons x ls ih=>
       intro cs h h1;cases cs with
       |nil=>exact h.elim
       |cons u cs=>exact⟨(pN none x u h.1 (λ_=>h1 u (by simp)) (by simp)).1,ih h.2 (λv hv=>h1 v (by simp[hv]))⟩
     exact this ao h1
    |av n b xs=>obtain⟨cs,hu,bq⟩:=uN;exact⟨cs,hu,bq⟩
 ·-- boxes
  intro n b hb;rcases hF n b hb with hn|⟨j,x,hx,rfl⟩
  .obtain⟨h1,h2⟩:=hB n hn;rw[h1]at hb;unfold ud at hb;split at hb
   .rename_i ls frz jZ;simp only[BS.live.injEq]at hb;subst hb;obtain⟨g,cur,e,q1,q2,q3,q4,q5,q6⟩:=hR.box n _ jZ;refine⟨g,cur,e,h2.trans q1,q2,?_,q4,q5,q6⟩;refine P8 0 (λj x u hx hu=>?_) q3.length;obtain⟨u',fi,iG⟩:=q3.get j x hx;rw[hu]at fi;simp at fi;subst fi;refine(pN _ x u iG (λ_=>q4 u (k9 hu)) (λl hl=>?_)).1;cases frz with
    |true=>simp at hl
    |false=>simp at hl;subst hl;simp[gW,jZ,hx]
   .rename_i m t xs jZ;simp only[BS.live.injEq]at hb;subst hb;obtain⟨g,cur,e,q1,q2,q3,q4⟩:=hR.box n _ jZ;exact⟨g,cur,e,h2.trans q1,q2,q3,q4⟩
   .rename_i e t xs frz jZ;simp only[BS.live.injEq]at hb;subst hb;obtain⟨q1,q3⟩:=hR.box n _ jZ;exact⟨by rw[h2];exact q1,by rw[h2];exact q3⟩
   .simp at hb
  .obtain⟨it,src,xd,⟨xs,f,f',gO,zU,rH⟩,CG,rG⟩:=IB j x hx;obtain⟨⟨l,_,pM⟩,_⟩:=Fm gO;rw[CG,zU]at hb;simp only[uf,BS.live.injEq]at hb;subst hb;rcases Iz pM with⟨rfl,bV,rfl,_⟩|⟨k,rfl,_,di⟩
   .refine BJ bV ⟨[],?_,trivial,λg hg=>?_⟩
    .rw[rG];exact⟨by simp,.inl ⟨rfl,rfl⟩⟩
    .rw[rG]at hg;simp[blk]at hg
   .obtain⟨rfl,_,_⟩:=rH k rfl;obtain⟨q1,q3⟩:=hR.box k _ di;exact⟨by rw[rG];exact q1,by rw[rG];exact q3⟩
 ·-- own
  intro n b g hb hg;rcases fK n b hb with⟨_,h2,b0,h3⟩|h|⟨j,x,k,b0,_,_,_,h2,h3,_,h5⟩
  .rw[h2]at hg;exact hR.own n b0 g h3 hg
  .rw[h]at hg;simp at hg
  .rw[h2]at hg;rcases hR.own k b0 g h3 hg with h|h
   .exact .inl h
   .rw[h5]at h;simp at h
 ·-- apart
  intro n n' b b' g aZ hb aM hg aw;rcases fK n b hb with⟨m1,h2,b0,h3⟩|h|⟨j,x,k,b0,hx,Zg,hj,h2,h3,h4,_⟩
  .rw[h2]at hg;rcases fK n' b' aM with⟨_,i2,b1,i3⟩|i|⟨j',x',k',b1,_,_,_,i2,i3,i4,_⟩
   .rw[i2]at aw;exact hR.apart n n' b0 b1 g aZ h3 i3 hg aw
   .rw[i]at aw;simp at aw
   .rw[i2]at aw;exact hR.apart n k' b0 b1 g (by rintro rfl;exact i4 m1) h3 i3 hg aw
  .rw[h]at hg;simp at hg
  .rw[h2]at hg;rcases fK n' b' aM with⟨m1,i2,b1,i3⟩|i|⟨j',x',k',b1,gJ,IC,ez,i2,i3,i4,_⟩
   .rw[i2]at aw;exact hR.apart k n' b0 b1 g (by rintro rfl;exact h4 m1) h3 i3 hg aw
   .rw[i]at aw;simp at aw
   .rw[i2]at aw;by_cases bY:k=k'
    .subst bY;have:=P6 dJ hj ez;subst this;rw[hx]at gJ;simp at gJ;subst gJ;exact aZ (Zg.symm.trans IC)
    .exact hR.apart k k' b0 b1 g bY h3 i3 hg aw
 ·-- parameters
  intro k v hv;obtain⟨p1,p2,p3⟩:=hR.par k v hv;refine⟨p1,?_,?_⟩
  .by_cases hk:k∈K.boxes
   .rw[(hB k hk).1];exact zT
   .rw[eT]
    have uP:K.boxes.idxOf? k=none:=by
     cases hq:K.boxes.idxOf? k with
     |none=>rfl
     |some i=>exact absurd (k9 (oM hq)) hk
    simp only[uP];split
    .rename_i j hq;have hj:=oM hq;simp only[qm]at hj;cases hx:K.lists[j]? with
     |none=>simp[hx]at hj
     |some x=>simp[hx]at hj;have:=uO j x hx;rw[hj,p1]at this;simp at this
    .simp[p1]
  .by_cases hk:k∈K.boxes
   .rw[(hB k hk).2];exact p3
   .have uP:K.boxes.idxOf? k=none:=by
     cases hq:K.boxes.idxOf? k with
     |none=>rfl
     |some i=>exact absurd (k9 (oM hq)) hk
    simp only[γ',uP];split
    .rename_i j hq;have hj:=oM hq;simp only[qm]at hj;cases hx:K.lists[j]? with
     |none=>simp[hx]at hj
     |some x=>simp[hx]at hj;have:=uO j x hx;rw[hj,p1]at this;simp at this
    .exact p3
 .intro i;show ((match K.slots.idxOf? i with|some j=>wg s[j]?|none=>Slot.one (.one .dead)):Slot).bare=true;split
  .unfold wg;split<;>rfl
  .rfl
theorem uR{K:Keep}{s:Snap}(hR:Rel N np S0 w0 refs σ a w S γ)(hc:dK σ)(hs:iM np K σ=some s):∃S' γ',Rel N np S0 w0 refs (cR np K s) a w S' γ'/\dK (cR np K s):=by
 unfold iM at hs;split at hs
 .rename_i σ1 h1;split at hs
  .rename_i σ2 h2;obtain⟨S1,bu,gu⟩:=P3 _ _ _ _ hR hc h1;obtain⟨S2,cO,lg⟩:=CE _ _ _ _ bu gu h2;obtain⟨γ',gD,CI⟩:=Ze cO hs;exact⟨S2,γ',gD,CI⟩
  .simp at hs
 .simp at hs
end
def RdLe(rd bI:Nat->BS):Prop:=∀k,rd k=bI k\/rd k = .gone
theorem RdLe.live{rd bI:Nat->BS}(h:RdLe rd bI){k:Nat}{b:Bx}(hk:rd k = .live b):bI k = .live b:=by
 rcases h k with h|h
 .rw[<-h];exact hk
 .rw[h]at hk;simp at hk
theorem RdLe.free{rd bI:Nat->BS}(h:RdLe rd bI){k:Nat}(hk:jO (rd k)=true):jO (bI k)=true:=by
 rcases h k with h|h
 .rw[<-h];exact hk
 .rw[h]at hk;simp[jO]at hk
theorem RdLe.isLive{rd bI:Nat->BS}(h:RdLe rd bI){k:Nat}(hk:isLive (rd k)=true):isLive (bI k)=true:=by
 rcases h k with h|h
 .rw[<-h];exact hk
 .rw[h]at hk;simp[Lft.isLive]at hk
theorem RdLe.rdf{rd bI:Nat->BS}(h:RdLe rd bI)(np:Nat):RdLe (λk=>if parK np k then .gone else rd k) (λk=>if parK np k then .gone else bI k):=by
 intro k;dsimp only;split
 .exact .inl rfl
 .exact h k
theorem RdLe.msk{rd bI:Nat->BS}(h:RdLe rd bI):RdLe (mskM rd) (mskM bI):=by
 intro k;rcases h k with h|h
 .left;unfold mskM;rw[h]
 .right;unfold mskM;rw[h]
theorem ID(M:List Nat)(rd:Nat->BS):RdLe (gV M rd) rd:=by
 intro k;unfold gV;split
 .exact .inr rfl
 .exact .inl rfl
section
variable{rd bI:Nat->BS}(hle:RdLe rd bI)
include hle
theorem P9{t:Ty}{l:Leaf}{x}(h:hQ rd t l=some x):hQ bI t l=some x:=by
 unfold hQ at h ⊢;split at h
 .exact h
 .exact h
 .split at h
  .rename_i hk;rw[hle.live hk];exact h
  .simp at h
 .simp at h
theorem Fp:∀(t:Ty){ls:List Leaf}{x},gath rd t ls=some x->gath bI t ls=some x:=by
 intro t;induction t with
 |unit=>intro ls x h;simpa[gath]using h
 |wrap a ih=>
  intro ls x h;simp only[gath]at h ⊢;split at h
  .rename_i hg;rw[ih hg];exact h
  .simp at h
 |pair a b wx sq=>
  intro ls x h;simp only[gath]at h ⊢;split at h
  .rename_i hg;rw[wx hg];dsimp only;split at h
   .rename_i nI;rw[sq nI];exact h
   .simp at h
  .simp at h
 |arr n a ih=>intro ls x h;simp[gath]at h
 |_=>
  intro ls x h;cases ls with
  |nil=>simp[gath]at h
  |cons l ls=>
   simp only[gath]at h ⊢;split at h
   .rename_i hl;rw[P9 hle hl];exact h
   .simp at h
theorem IE{t:Ty}{c:Cel}{x}(h:ov rd t c=some x):ov bI t c=some x:=by
 unfold ov at h ⊢;split at h
 .split at h
  .simp at h
  .rename_i ha;simp only[ha,qz,km];split at h
   .rename_i hg;rw[Fp hle _ hg];exact h
   .simp at h
 .split at h
  .rename_i ha;simp only[ha,if_true];split at h
   .rename_i hg;rw[Fp hle _ hg];exact h
   .simp at h
  .simp at h
 .exact h
theorem Zh{ti:TyI}{l:Leaf}{x}(h:nu rd ti l=some x):nu bI ti l=some x:=by
 unfold nu at h ⊢;split at h
 .split at h
  .rename_i hk;rw[hle.live hk];exact h
  .rename_i hk;rw[hle.live hk];exact h
  .simp at h
 .split at h
  .rename_i hk;rw[hle.live hk];exact h
  .rename_i hk;rw[hle.live hk];exact h
  .simp at h
 .exact h
 .simp at h
theorem Zi{ti:TyI}{i:Nat}{l:Leaf}{x}(h:ox rd ti i l=some x):ox bI ti i l=some x:=by
 unfold ox at h ⊢;split at h
 .split at h
  .split at h
   .rename_i hl;simp only[hle.isLive hl,if_true];exact h
   .simp at h
  .simp at h
 .split at h
  .split at h
   .rename_i hl;simp only[hle.isLive hl,if_true];exact h
   .simp at h
  .simp at h
 .exact h
 .simp at h
theorem Zj{ti:TyI}{l i:Leaf}{x}(h:r5 rd ti l i=some x):r5 bI ti l i=some x:=by
 unfold r5 at h ⊢;split at h
 .split at h
  .rename_i hk;rw[hle.live hk];exact h
  .simp at h
 .exact h
 .split at h
  .rename_i hk;rw[hle.live hk];exact h
  .rename_i hk;rw[hle.live hk];exact h
  .simp at h
 .split at h
  .rename_i hk;rw[hle.live hk];exact h
  .simp at h
 .simp at h
theorem Qa(a:Ty):∀{ls:List Leaf}{x},rY rd a ls=some x->rY bI a ls=some x
 |[],_,h=>h
 |l::ls,x,h=>by
  simp only[rY]at h ⊢;split at h
  .rename_i h1 h2;rw[P9 hle h1,Qa a h2];exact h
  .simp at h
theorem Zk{t:Option Ty}{l:Leaf}{x}(h:rZ rd t l=some x):rZ bI t l=some x:=by
 unfold rZ at h ⊢;split at h
 .split at h
  .split at h
   .rename_i hi;rw[if_pos hi];split at h
    .rename_i hk;rw[hle.live hk];exact h
    .simp at h
   .simp at h
  .simp at h
 .simp at h
theorem Zl{ti:TyI}{l:Leaf}{c:Cel}(h:rZ rd ti.ty l=none)(hc:nu rd ti l=some c):rZ bI ti.ty l=none:=by
 unfold rZ at h ⊢;split at h
 .rename_i k;split at h
  .rename_i m el bA;split at h
   .rename_i hi;rw[if_pos hi];simp only[nu]at hc;split at hc
    .rename_i ls frz hk;rw[hle.live hk];cases frz with
     |true=>rfl
     |false=>rw[hk]at h;simp at h
    .rename_i hk;rw[hle.live hk]
    .simp at hc
   .rename_i hi;rw[if_neg hi]
  .rfl
 .rfl
theorem IF(a:Ty):∀(ps:List (Nat×Cel)){xs:List a.den}{u:Ups}{x},ix rd a xs u ps=some x->ix bI a xs u ps=some x
 |[],_,_,_,h=>h
 |(i,c)::r,xs,u,x,h=>by
  simp only[ix]at h ⊢;split at h
  .rename_i hd;rw[IE hle hd];dsimp only;split at h
   .rename_i hi;simp only[hi,if_true];exact IF a r h
   .simp at h
  .simp at h
theorem Zm{t:Option Ty}{l:Leaf}{x}(h:lenC rd t l=some x):lenC bI t l=some x:=by
 unfold lenC at h ⊢;split at h
 .exact h
 .split at h
  .rename_i hk;rw[hle.live hk];exact h
  .simp at h
 .exact h
 .exact h
 .split at h
  .rename_i hk;rw[hle.live hk];exact h
  .simp at h
 .simp at h
theorem Zn{e:Nat}{a:Ty}{l:Leaf}{x}(h:appS rd e a l=some x):appS bI e a l=some x:=by
 unfold appS at h ⊢;split at h
 .split at h
  .rename_i hk;rw[hle.live hk];exact h
  .simp at h
 .exact h
 .simp at h
theorem Qb{a:Ty}{l:Leaf}{x}(h:appX rd a l=some x):appX bI a l=some x:=by
 unfold appX at h ⊢;split at h
 .split at h
  .rename_i hk;rw[hle.live hk];exact h
  .simp at h
 .exact h
 .exact h
 .split at h
  .rename_i hk;rw[hle.live hk];exact h
  .simp at h
 .simp at h
theorem Zo{t:Option Ty}{l m:Leaf}{x}(h:yT rd t l m=some x):yT bI t l m=some x:=by
 unfold yT at h ⊢;split at h
 .split at h
  .rename_i hk;rw[hle.live hk];dsimp only;split at h
   .rename_i ht;rw[if_pos ht];split at h
    .rename_i hy;rw[Qb hle hy];exact h
    .simp at h
   .simp at h
  .simp at h
 .simp at h
theorem Zp{t:Option Ty}{l:Leaf}{x}(h:yU rd t l=some x):yU bI t l=some x:=by
 unfold yU at h ⊢;split at h
 .split at h
  .rename_i hk;rw[hle.live hk];exact h
  .simp at h
 .simp at h
theorem Fq:∀(ls:List Leaf){x},tvs rd ls=some x->tvs bI ls=some x
 |[],_,h=>h
 |l::ls,x,h=>by
  simp only[tvs]at h ⊢;split at h
  .rename_i hr;rw[Fq ls hr];dsimp only;split at h
   .exact h
   .split at h
    .rename_i hk;rw[hle.live hk];exact h
    .simp at h
   .simp at h
  .simp at h
theorem Qc:∀(cs:List Cel){x},ua rd cs=some x->ua bI cs=some x
 |[],_,h=>h
 |c::cs,x,h=>by
  simp only[ua]at h ⊢;split at h
  .rename_i hr;rw[Qc cs hr];dsimp only;split at h
   .exact h
   .split at h
    .rename_i hk;rw[hle.live hk];dsimp only;split at h
     .rename_i ht;rw[Fq hle _ ht];exact h
     .simp at h
    .simp at h
   .simp at h
  .simp at h
end
theorem Zq{rd bI rdf fL:Nat->BS}(hle:RdLe rd bI)(eR:RdLe rdf fL){n:Nat}{c:Cel}{l:Leaf}{x}(h:tZ rd rdf n c l=some x):tZ bI fL n c l=some x:=by
 unfold tZ at h ⊢;split at h
 .split at h
  .rename_i hk;rw[hle.live hk];exact h
  .rename_i hk;rw[hle.live hk];exact h
  .simp at h
 .split at h
  .rename_i hk;rw[hle.live hk];dsimp only;split at h
   .split at h
    .rename_i hi;rw[if_pos hi];split at h
     .rename_i hg;rw[Fp eR _ hg];exact h
     .simp at h
    .simp at h
   .simp at h
  .rename_i hk;rw[hle.live hk];dsimp only;split at h
   .split at h
    .rename_i hi;rw[if_pos hi];split at h
     .rename_i hg;rw[Fp eR _ hg];exact h
     .simp at h
    .simp at h
   .simp at h
  .simp at h
 .simp at h
theorem Zr{par:Nat->Bool}{rd bI:Nat->BS}(hle:RdLe rd bI){ti:TyI}{n:Nat}{l:Leaf}{lo hi:Option Leaf}{x}(h:yS par rd ti n l lo hi=some x):yS par bI ti n l lo hi=some x:=by
 unfold yS at h ⊢;split at h
 .exact h
 .split at h
  .split at h
   .rename_i hk;rw[hle.live hk];exact h
   .simp at h
  .split at h
   .rename_i hk;rw[hle.live hk];dsimp only;split at h
    .rename_i bA;rw[if_pos bA];split at h
     .split at h
      .rename_i hp;rw[if_pos hp];exact h
      .rename_i hp;rw[if_neg hp];split at h
       .rename_i hl;rw[if_pos hl];split at h
        .rename_i hf;rw[if_pos (hle.free hf)];exact h
        .simp at h
       .rename_i hl;rw[if_neg hl];exact h
     .simp at h
    .simp at h
   .simp at h
 .simp at h
theorem Zs{rd bI rdf fL:Nat->BS}(hle:RdLe rd bI)(eR:RdLe rdf fL){t:Option TyI}{rl:Bool}{c:Cel}{x}(h:yV rd rdf t rl c=some x):yV bI fL t rl c=some x:=by
 unfold yV at h ⊢;split at h
 .split at h
  .rename_i hk;rw[hle.live hk];dsimp only;split at h
   .rename_i ht;rw[Fq eR _ ht];exact h
   .simp at h
  .rename_i hk;rw[hle.live hk];dsimp only;split at h
   .rename_i ht;rw[Fq eR _ ht];exact h
   .simp at h
  .simp at h
 .exact h
 .exact h
 .split at h
  .split at h
   .rename_i hk;rw[hle.live hk];exact h
   .simp at h
  .split at h
   .rename_i hk;rw[eR.live hk];exact h
   .simp at h
 .split at h
  .split at h
   .split at h
    .rename_i hd;rw[IE eR hd];exact h
    .simp at h
   .simp at h
  .simp at h
theorem IG{rd bI rdf fL:Nat->BS}(hle:RdLe rd bI)(eR:RdLe rdf fL){T:Nat->Option TyI}:∀(cs:List Cel){ts:List Nat}{ms:List Bool}{x},rk rd rdf T ts ms cs=some x->rk bI fL T ts ms cs=some x
 |[],_,_,_,h=>h
 |c::cs,ts,ms,x,h=>by
  simp only[rk]at h ⊢;split at h
  .rename_i ha;rw[Zs hle eR ha];dsimp only;split at h
   .rename_i hr;rw[IG hle eR cs hr];exact h
   .simp at h
  .simp at h
theorem Zt{rd bI rdf fL:Nat->BS}(hle:RdLe rd bI)(eR:RdLe rdf fL){n m:Nat}{us:Ups}{fs:List Bk}{os:List Out}{x}(h:mkHd rd rdf n us fs m os=some x):mkHd bI fL n us fs m os=some x:=by
 unfold mkHd at h ⊢;split at h
 .split at h
  .split at h
   .rename_i hf;simp only[jb]at hf;rw[if_pos (by simp only[jb];exact⟨hle.free hf.1,eR.isLive hf.2⟩)];exact h
   .simp at h
  .simp at h
 .simp at h
theorem Qd{rd bI rdf fL:Nat->BS}(hle:RdLe rd bI)(eR:RdLe rdf fL){n:Nat}{us:Ups}{fs:List Bk}{r:Ret}{x}(h:r7 rd rdf n us fs r=some x):r7 bI fL n us fs r=some x:=by
 unfold r7 at h ⊢;split at h
 .exact Zt hle eR h
 .split at h
  .split at h
   .split at h
    .rename_i hf;rw[if_pos (k5.2 λe he=>hle.free (k5.1 hf e he))];exact h
    .simp at h
   .simp at h
  .simp at h
inductive ActLe:Act->Act->Prop
 |val (iy:Bool) (s:Slot) (u:Ups):ActLe (.val iy s u) (.val iy s u)
 |call (f:Nat) (args:List Arg) (mk mk':Ret->Option (Slot×Ups)):(∀r x,mk r=some x->mk' r=some x)->ActLe (.call f args mk) (.call f args mk')
theorem ActLe.refl(x:Act):ActLe x x:=by cases x with
 |val iy s u=>exact .val iy s u
 |call f args mk=>exact .call f args mk mk λ_ _ h=>h
theorem Qe{x y:Option Leaf}(h:∀z,x=some z->y=some z){r:Act}(hr:lU x=some r):lU y=some r:=by
 cases x with
 |none=>simp[lU]at hr
 |some z=>rw[h z rfl];exact hr
theorem Zu{x y:Option (Bool×Leaf)}(h:∀z,x=some z->y=some z){r:Act}(hr:oChk x=some r):oChk y=some r:=by
 cases x with
 |none=>simp[oChk]at hr
 |some z=>rw[h z rfl];exact hr
theorem Qf{rd bI:Nat->BS}(hle:RdLe rd bI){t:Nat}{k v:Ty}{x y:Leaf}{z}(h:mapC rd t k v x y=some z):mapC bI t k v x y=some z:=by
 unfold mapC at h ⊢;split at h
 .split at h
  .rename_i hb;simp only[hle.live hb];exact h
  .simp at h
 .simp at h
theorem Qg{E:Env}{ev:Operand->Slot}{rd bI:Nat->BS}(sC:RdLe rd bI){act:List (Nat×Bool)}{o:Oper}{A:Act}(h:dn E ev rd act o=some A):∃A',dn E ev bI act o=some A'/\ActLe A A':=by
 have hle:=sC.msk;have eR:=hle.rdf E.np;have same:dn E ev bI act o=some A->∃A',dn E ev bI act o=some A'/\ActLe A A':=λh=>⟨A,h,.refl A⟩;obtain⟨dst,op,type,pos,after,guard⟩:=o;cases op
 case alloc t=>
  refine same ?_;simp only[dn]at h ⊢;split at h
  .split at h
   .rename_i hf;simp only[hle.free hf,if_true];exact h
   .simp at h
  .simp at h
 case box t x=>
  refine same ?_;simp only[dn]at h ⊢;split at h
  .rename_i hf;simp only[hle.free hf,if_true];exact h
  .simp at h
 case build t ps=>
  refine same ?_;simp only[dn]at h ⊢;split at h
  .split at h
   .split at h
    .rename_i hi;simp only[hi,if_true];exact h
    rename_i hi;rw[if_neg hi];split at h
    .rename_i hb;rw[IF eR _ _ hb];exact h
    .simp at h
   .exact h
   .simp at h
  .simp at h
 case buildSlice t n ps=>
  refine same ?_;simp only[dn]at h ⊢;split at h
  .split at h
   .split at h
    .simp at h
    .rename_i hn;simp only[hn,qz];split at h
     .rename_i hb;rw[IF eR _ _ hb];dsimp only;split at h
      .rename_i hf;simp only[hle.free hf,if_true];exact h
      .simp at h
     .simp at h
   .simp at h
  .simp at h
 case load t x=>
  refine same ?_;simp only[dn]at h ⊢;split at h
  .split at h
   .rename_i pM;split at h
    .rename_i hg;rw[Zk hle pM];dsimp only;rw[Qa eR _ hg];exact h
    .simp at h
   .rename_i pM;cases uv:nu (mskM rd) _ (lf ((ev x).cel act)) with
    |none=>rw[uv]at h;simp[oCel]at h
    |some c=>rw[Zl hle pM uv,Zh hle uv];rw[uv]at h;exact h
  .simp at h
 case store t x y=>
  refine same ?_;simp only[dn]at h ⊢;split at h
  .split at h
   .rename_i hs;rw[Zq hle eR hs];exact h
   .simp at h
  .simp at h
 case nilCheck x=>
  refine same ?_;simp only[dn]at h ⊢;split at h
  .split at h
   .rename_i hl;simp only[hle.isLive hl,if_true];exact h
   .simp at h
  .split at h
   .rename_i hl;simp only[hle.isLive hl,if_true];exact h
   .simp at h
  .exact h
  .simp at h
 case makeFunc fn first captured=>
  refine same ?_;cases fn with
  |func f=>
   simp only[dn]at h ⊢;split at h
   .rename_i hf;simp only[hf,if_true];split at h
    .rename_i pJ;simp only[pJ,if_true];exact h
    .rename_i pJ;simp only[pJ];split at h
     .rename_i hc;rw[Qc eR _ hc];exact h
     .simp at h
   .simp at h
  |_=>simp[dn]at h
 case fieldAddr t x i=>
  refine same ?_;simp only[dn]at h ⊢;split at h
  .exact Qe (λz hz=>Zi hle hz) h
  .simp at h
 case indexAddr t x i=>
  refine same ?_;simp only[dn]at h ⊢;split at h
  .exact Zu (λz hz=>Zj hle hz) h
  .simp at h
 case call c=>
  simp only[dn]at h ⊢;cases hc:c.callee with
  |invoke r m=>simp[hc]at h
  |value f=>
   simp only[hc]at h ⊢;split at h
   .split at h
    .rename_i ha;rw[IG sC eR _ ha];dsimp only;split at h
     .rename_i hb;simp only[hb,if_true];simp only[j4]at h;subst h;exact⟨_,rfl,.call _ _ _ _ λr x hx=>Qd hle eR hx⟩
     .simp at h
    .simp at h
   .split at h
    .rename_i ha;rw[IG sC eR _ ha];dsimp only;split at h
     .rename_i hb;simp only[hb,if_true];simp only[j4]at h;subst h;exact⟨_,rfl,.call _ _ _ _ λr x hx=>Qd hle eR hx⟩
     .simp at h
    .simp at h
   .simp at h
  |builtin b=>
   simp only[hc]at h ⊢;cases b
   case len=>
    refine⟨A,?_,.refl A⟩;dsimp only at h ⊢;split at h
    .split at h
     .exact Qe (λz hz=>Zm hle hz) h
     .simp at h
    .simp at h
   case append=>
    refine⟨A,?_,.refl A⟩;dsimp only at h ⊢;split at h
    .split at h
     .rename_i ht;rw[if_pos ht];split at h
      .split at h
       .rename_i bA;split at h
        .rename_i h1 h2;rw[Zn eR h1,Qb hle h2];dsimp only;split at h
         .rename_i hf;simp only[hle.free hf,if_true];exact h
         .simp at h
        .simp at h
       .simp at h
      .simp at h
     .simp at h
    .simp at h
   case copy=>
    refine⟨A,?_,.refl A⟩;dsimp only at h ⊢;split at h
    .split at h
     .rename_i ht;rw[if_pos ht];split at h
      .split at h
       .rename_i hq;rw[Zo hle hq];exact h
       .simp at h
      .simp at h
     .simp at h
    .simp at h
   case clear=>
    refine⟨A,?_,.refl A⟩;dsimp only at h ⊢;split at h
    .split at h
     .split at h
      .rename_i hq;rw[Zp hle hq];exact h
      .simp at h
     .simp at h
    .simp at h
   all_goals exact⟨A,h,.refl A⟩
 case slice t x lo hi mx=>
  refine same ?_;cases mx with
  |some m=>simp[dn]at h
  |none=>
   simp only[dn]at h ⊢;split at h
   .split at h
    .rename_i hq;rw[Zr hle hq];exact h
    .simp at h
   .simp at h
 case makeMap t x=>
  refine same ?_;cases x with
  |some m=>simp[dn]at h
  |none=>
   simp only[dn]at h ⊢;split at h
   .split at h
    .rename_i hf;simp only[hle.free hf,if_true];exact h
    .simp at h
   .simp at h
 case lookup t x i ok=>
  refine same ?_;simp only[dn]at h ⊢;split at h
  .split at h
   .rename_i hq;rw[Qf sC hq];exact h
   .simp at h
  .simp at h
 case mapUpdate t x i y=>
  refine same ?_;simp only[dn]at h ⊢;split at h
  .split at h
   .rename_i hq hd;rw[Qf sC hq,IE eR hd];exact h
   .simp at h
  .simp at h
 all_goals exact⟨A,h,.refl A⟩
section
variable{N:NT}{np:Nat}{S0:aD}{w0:World}{refs:Refs}{σ:St}{a:Go.Act}{w:World}{S:aD}{γ:Nat->Value}
def CFun(C:Nat->List Arg->(R:Type)->(Ret->Option R)->Option R):Prop:=
 ∀f args,∃o:Option Ret,∀(R:Type)(k:Ret->Option R),C f args R k=o.bind k
theorem Qh{E:Env}{ev rI:Operand->Slot}{rd:Nat->BS}{act:List (Nat×Bool)}{o:Oper}(h:∀x∈o.op.operands,ev x=rI x):dn E ev rd act o=dn E rI rd act o:=by
 have uS:∀ps:Array (Nat×Operand),(∀x∈ps.toList.map (·.2),ev x=rI x)->
   (ps.toList.map λp=>(p.1,(ev p.2).cel act))=(ps.toList.map λp=>(p.1,(rI p.2).cel act)):=λps hp=>
  List.map_congr_left λp hm=>by simp only[hp p.2 (jt.2 ⟨p,hm,rfl⟩)]
 have args:∀ps:Array Operand,(∀x∈ps,ev x=rI x)->(ps.toList.map λp=>(ev p).cel act)=(ps.toList.map λp=>(rI p).cel act):=λps hp=>
  List.map_congr_left λp hm=>by rw[hp p (by simpa using hm)]
 obtain⟨dst,op,type,pos,after,guard⟩:=o;cases op<;>simp only[Op.operands]at h<;>simp only[dn]
 case build t ps=>rw[uS ps λx hx=>h x (by simpa using hx)]
 case buildSlice t n ps=>rw[uS ps λx hx=>h x (by simpa using hx)]
 case makeFunc fn first captured=>
  have e:=args captured λx hx=>h x (by simp[hx]);cases fn with
  |func f=>simp only[e]
  |_=>rfl
 case call c=>
  have ha:=args c.args (λx hx=>h x (by simp[Call.operands,hx]));have nK:∀x∈c.args.toList,ev x=rI x:=λx hx=>h x (by simp[Call.operands];right;simpa using hx);simp only[ha];cases hc:c.callee with
  |value f=>have hf:ev f=rI f:=h f (by simp[Call.operands,hc]);simp only[hf]
  |invoke r m=>rfl
  |builtin b=>
   cases b<;>simp only
   case len=>
    split
    .rename_i x t fS nJ;have:=nK x (by rw[fS];simp);simp only[this]
    .rfl
   case append=>
    split
    .rename_i t t' s x nJ fS;have e1:=nK s (by rw[fS];simp);have e2:=nK x (by rw[fS];simp);simp only[e1,e2]
    .rfl
   case copy=>
    split
    .rename_i t t' s x nJ fS;have e1:=nK s (by rw[fS];simp);have e2:=nK x (by rw[fS];simp);simp only[e1,e2]
    .rfl
   case clear=>
    split
    .rename_i t x nJ fS;have e1:=nK x (by rw[fS];simp);simp only[e1]
    .rfl
 case slice t x lo hi mx=>
  have e1:=h x (by simp)
  have eo:∀y:Option Operand,(∀z,y=some z->ev z=rI z)->(y.map λx=>lf ((ev x).cel act))=(y.map λx=>lf ((rI x).cel act)):=by
   intro y hy;cases y with
   |none=>rfl
   |some z=>simp only[kv,hy z rfl]
  have e2:=eo lo (λz hz=>h z (by simp[hz]));have e3:=eo hi (λz hz=>h z (by simp[hz]));cases mx with
  |some m=>rfl
  |none=>simp only[e1,e2,e3]
 case makeMap t x=>cases x<;>rfl
 all_goals (first|rfl|(simp_all;done))
def ShEq:BS->BS->Prop
 |.live (.cell _ _),.live (.cell _ _)=>True
 |.live (.lst e a xs _),.live (.lst e' a' cB _)=>e=e'/\a=a'/\xs.length=cB.length
 |.live (.arr n a _),.live (.arr n' a' _)=>n=n'/\a=a'
 |.free,.free=>True
 |.gone,.gone=>True
 |_,_=>False
theorem ShEq.refl:∀b:BS,ShEq b b
 |.live (.cell _ _)=>trivial
 |.live (.lst _ _ _ _)=>⟨rfl,rfl,rfl⟩
 |.live (.arr _ _ _)=>⟨rfl,rfl⟩
 |.free=>trivial
 |.gone=>trivial
theorem ShEq.symm{b c:BS}(h:ShEq b c):ShEq c b:=by
 cases b with
 |free=>cases c<;>simp_all[ShEq]
 |gone=>cases c<;>simp_all[ShEq]
 |live b=>
  cases c with
  |free=>cases b<;>simp[ShEq]at h
  |gone=>cases b<;>simp[ShEq]at h
  |live c=>
   cases b<;>cases c<;>simp only[ShEq]at h ⊢
   .exact⟨h.1.symm,h.2.1.symm,h.2.2.symm⟩
   .exact⟨h.1.symm,h.2.symm⟩
theorem ShEq.trans{b c d:BS}(h:ShEq b c)(h':ShEq c d):ShEq b d:=by
 cases b with
 |free=>cases c with
  |free=>exact h'
  |gone=>simp[ShEq]at h
  |live c=>cases c<;>simp[ShEq]at h
 |gone=>cases c with
  |gone=>exact h'
  |free=>simp[ShEq]at h
  |live c=>cases c<;>simp[ShEq]at h
 |live b=>cases c with
  |free=>cases b<;>simp[ShEq]at h
  |gone=>cases b<;>simp[ShEq]at h
  |live c=>cases d with
   |free=>cases c<;>simp[ShEq]at h'
   |gone=>cases c<;>simp[ShEq]at h'
   |live d=>
    cases b<;>cases c<;>simp only[ShEq]at h<;>cases d<;>simp only[ShEq]at h' ⊢
    .exact⟨h.1.trans h'.1,h.2.1.trans h'.2.1,h.2.2.trans h'.2.2⟩
    .exact⟨h.1.trans h'.1,h.2.trans h'.2⟩
theorem ShEq.mask{rd bI:Nat->BS}{M:List Nat}(h:∀k,M.contains k=false->ShEq (rd k) (bI k))(k:Nat):ShEq (gV M rd k) (gV M bI k):=by
 unfold gV;split
 .trivial
 .rename_i hc;exact h k (by simpa using hc)
theorem Fs{b c:BS}(h:ShEq b c):isLive b=isLive c:=by
 cases b with
 |free=>cases c<;>simp_all[ShEq,isLive]
 |gone=>cases c<;>simp_all[ShEq,isLive]
 |live b=>cases c with
  |free=>cases b<;>simp[ShEq]at h
  |gone=>cases b<;>simp[ShEq]at h
  |live c=>rfl
theorem Zv{rd bI:Nat->BS}(h:∀k,ShEq (rd k) (bI k))(ti:TyI)(l i:Leaf):r5 rd ti l i=r5 bI ti l i:=by
 unfold r5;split
 .rename_i k _ _;have hk:=h k;generalize rd k=b at hk;generalize bI k=c at hk;cases b with
  |free=>cases c<;>simp_all[ShEq]
  |gone=>cases c<;>simp_all[ShEq]
  |live b=>cases c with
   |free=>cases b<;>simp[ShEq]at hk
   |gone=>cases b<;>simp[ShEq]at hk
   |live c=>
    cases b with
    |lst e a xs f=>cases c with
     |lst e' a' cB f'=>simp only[ShEq]at hk;obtain⟨rfl,rfl,hl⟩:=hk;dsimp only;rw[hl]
     |cell _ _=>simp[ShEq]at hk
     |arr _ _ _=>simp[ShEq]at hk
    |cell _ _=>cases c<;>first|rfl|(simp[ShEq]at hk)
    |arr _ _ _=>cases c<;>first|rfl|(simp[ShEq]at hk)
 .rfl
 .rename_i k _ _;have hk:=h k;generalize rd k=b at hk;generalize bI k=c at hk;cases b with
  |free=>cases c<;>simp_all[ShEq]
  |gone=>cases c<;>simp_all[ShEq]
  |live b=>cases c with
   |free=>cases b<;>simp[ShEq]at hk
   |gone=>cases b<;>simp[ShEq]at hk
   |live c=>
    cases b with
    |arr n a xs=>cases c with
     |arr n' a' cB=>simp only[ShEq]at hk;obtain⟨rfl,rfl⟩:=hk;rfl
     |cell _ _=>simp[ShEq]at hk
     |lst _ _ _ _=>simp[ShEq]at hk
    |cell _ _=>cases c<;>first|rfl|(simp[ShEq]at hk)
    |lst _ _ _ _=>cases c<;>first|rfl|(simp[ShEq]at hk)
 .rename_i k _ _ _;have hk:=h k;generalize rd k=b at hk;generalize bI k=c at hk;cases b with
  |free=>cases c<;>simp_all[ShEq]
  |gone=>cases c<;>simp_all[ShEq]
  |live b=>cases c with
   |free=>cases b<;>simp[ShEq]at hk
   |gone=>cases b<;>simp[ShEq]at hk
   |live c=>
    cases b with
    |lst e a xs f=>cases c with
     |lst e' a' cB f'=>simp only[ShEq]at hk;obtain⟨rfl,rfl,hl⟩:=hk;dsimp only;rw[hl]
     |cell _ _=>simp[ShEq]at hk
     |arr _ _ _=>simp[ShEq]at hk
    |cell _ _=>cases c<;>first|rfl|(simp[ShEq]at hk)
    |arr _ _ _=>cases c<;>first|rfl|(simp[ShEq]at hk)
 .rfl
theorem Zw{rd bI:Nat->BS}(h:∀k,ShEq (rd k) (bI k))(ti:TyI)(i:Nat)(l:Leaf):ox rd ti i l=ox bI ti i l:=by
 unfold ox;split
 .rw[Fs (h _)]
 .rw[Fs (h _)]
 .rfl
 .rfl
theorem ShEq.msk{rd bI:Nat->BS}{k:Nat}(h:ShEq (rd k) (bI k)):ShEq (mskM rd k) (mskM bI k):=by
 unfold mskM;generalize rd k=a at h;generalize bI k=b at h;cases a with
 |free=>cases b<;>simp_all[ShEq]
 |gone=>cases b<;>simp_all[ShEq]
 |live a=>
  cases b with
  |free=>cases a<;>simp[ShEq]at h
  |gone=>cases a<;>simp[ShEq]at h
  |live b=>
   cases a<;>cases b<;>simp only[ShEq]at h<;>dsimp only
   .trivial
   .obtain⟨rfl,rfl,h3⟩:=h;rename_i e _ _ _ _ _;cases isM e
    .exact⟨rfl,rfl,h3⟩
    .trivial
   .exact h
theorem Zx{E:Env}{ev:Operand->Slot}{rd bI:Nat->BS}{act:List (Nat×Bool)}{o:Oper}(ha:pd o=true)(h:∀k,ShEq (rd k) (bI k)):dn E ev rd act o=dn E ev bI act o:=by
 have h:∀k,ShEq (mskM rd k) (mskM bI k):=λk=>(h k).msk;obtain⟨dst,op,type,pos,after,guard⟩:=o;cases op<;>simp only[pd,km]at ha
 .simp only[dn];split
  .rw[Fs (h _)]
  .rw[Fs (h _)]
  .rfl
  .rfl
 .simp only[dn];split
  .rw[Zw h]
  .rfl
 .simp only[dn];split
  .rw[Zv h]
  .rfl
theorem Qi:∀(u:Ups)(σ:St),(∀e∈u,ShEq (σ.bx e.1) e.2)->∀k,ShEq (σ.bx k) ((σ.upd u).bx k)
 |[],σ,_,k=>ShEq.refl _
 |e::u,σ,h,k=>by
  have h0:∀k,ShEq (σ.bx k) ((σ.setB e.1 e.2).bx k):=by
   intro k;simp only[St.setB];split
   .rename_i hk;rw[hk];exact h e (by simp)
   .exact ShEq.refl _
  have h1:=Qi u (σ.setB e.1 e.2) (λx hx=>(h0 x.1).symm.trans (h x (by simp[hx]))) k;exact(h0 k).trans h1
def UpSh(rd:Nat->BS)(u:Ups):Prop:=∀e∈u,ShEq (rd e.1) e.2/\isLive e.2=true
theorem Zy{rd:Nat->BS}{t:Ty}{l:Leaf}{v:t.den}{u:Ups}(h:hQ rd t l=some (v,u)):UpSh rd u:=by
 unfold hQ at h;split at h
 .split at h
  .simp only[j4,j8]at h;rw[<-h.2];intro e he;simp at he
  .simp at h
 .split at h
  .simp only[j4,j8]at h;rw[<-h.2];intro e he;simp at he
  .simp at h
 .split at h
  .rename_i hk;split at h
   .simp only[j4,j8]at h;rw[<-h.2];intro e he;simp only[ke]at he;subst he;dsimp only;rw[hk];exact⟨⟨rfl,rfl,rfl⟩,rfl⟩
   .simp at h
  .simp at h
 .simp at h
theorem UpSh.app{rd:Nat->BS}{u v:Ups}(h:UpSh rd u)(h':UpSh rd v):UpSh rd (u++v):=by
 intro e he;rcases jn.1 he with he|he
 .exact h e he
 .exact h' e he
theorem Qj{rd:Nat->BS}:∀(t:Ty){ls:List Leaf}{v:t.den}{r:List Leaf}{u:Ups},gath rd t ls=some (v,r,u)->UpSh rd u:=by
 intro t;induction t with
 |unit=>intro ls v r u h;simp only[gath,j4,j8]at h;rw[<-h.2.2];intro e he;simp at he
 |wrap a ih=>
  intro ls v r u h;simp only[gath]at h;split at h
  .rename_i hg;simp only[j4,j8]at h;rw[<-h.2.2];exact ih hg
  .simp at h
 |pair a b wx sq=>
  intro ls v r u h;simp only[gath]at h;split at h
  .rename_i hg;split at h
   .rename_i nI;simp only[j4,j8]at h;rw[<-h.2.2];exact(wx hg).app (sq nI)
   .simp at h
  .simp at h
 |arr n a ih=>intro ls v r u h;simp[gath]at h
 |_=>
  intro ls v r u h;cases ls with
  |nil=>simp[gath]at h
  |cons l ls=>
   simp only[gath]at h;split at h
   .rename_i hl;simp only[j4,j8]at h;rw[<-h.2.2];exact Zy hl
   .simp at h
theorem Zz{rd rdf:Nat->BS}(bC:RdLe rdf rd){n:Nat}{c:Cel}{l:Leaf}{u:Ups}(h:tZ rd rdf n c l=some u):UpSh rd u:=by
 have one:∀(k:Nat)(b b':Bx),rd k = .live b->ShEq (.live b) (.live b')->UpSh rd [(k,.live b')]:=by intro k b b' hk hs e he;simp only[ke]at he;subst he;exact⟨by rw[hk];exact hs,rfl⟩
 have lift:∀u,UpSh rdf u->UpSh rd u:=by
  intro u hu e he;obtain⟨h1,h2⟩:=hu e he;rcases bC e.1 with hq|hq
  .rw[hq]at h1;exact⟨h1,h2⟩
  .rw[hq]at h1;cases h3:e.2 with
   |free=>rw[h3]at h2;simp[isLive]at h2
   |gone=>rw[h3]at h2;simp[isLive]at h2
   |live b=>rw[h3]at h1;cases b<;>simp[ShEq]at h1
 unfold tZ at h;split at h
 .split at h
  .rename_i hk;split at h
   .split at h
    .simp only[j4]at h;subst h;exact one _ _ _ hk trivial
    .simp at h
   .simp at h
  .rename_i hk;split at h
   .split at h
    .split at h
     .split at h
      .simp only[j4]at h;subst h;exact one _ _ _ hk ⟨rfl,rfl⟩
      .simp at h
     .simp at h
    .simp at h
   .simp at h
  .simp at h
 .split at h
  .rename_i hk;split at h
   .split at h
    .split at h
     .rename_i hg;split at h
      .simp at h
      .simp only[j4]at h;subst h;exact(lift _ (Qj _ hg)).app (one _ _ _ hk ⟨rfl,rfl,by simp⟩)
     .simp at h
    .simp at h
   .simp at h
  .rename_i hk;split at h
   .split at h
    .split at h
     .rename_i hg;split at h
      .simp at h
      .simp only[j4]at h;subst h;exact(lift _ (Qj _ hg)).app (one _ _ _ hk ⟨rfl,rfl⟩)
     .simp at h
    .simp at h
   .simp at h
  .simp at h
 .simp at h
theorem ZA(np:Nat)(rd:Nat->BS):RdLe (λk=>if parK np k then .gone else rd k) rd:=by
 intro k;dsimp only;split
 .exact .inr rfl
 .exact .inl rfl
theorem UpSh.le{rd bI:Nat->BS}(hle:RdLe rd bI){u:Ups}(h:UpSh rd u):UpSh bI u:=by
 intro e he;obtain⟨h1,h2⟩:=h e he;rcases hle e.1 with hq|hq
 .rw[hq]at h1;exact⟨h1,h2⟩
 .rw[hq]at h1;cases h3:e.2 with
  |free=>rw[h3]at h2;simp[isLive]at h2
  |gone=>rw[h3]at h2;simp[isLive]at h2
  |live b=>rw[h3]at h1;cases b<;>simp[ShEq]at h1
theorem ZB(rd:Nat->BS):RdLe (mskM rd) rd:=λk=>OU k
theorem ZC{E:Env}{ev:Operand->Slot}{rd:Nat->BS}{act:List (Nat×Bool)}{o:Oper}(ho:r8 o=true){iy:Bool}{s:Slot}{u:Ups}(h:dn E ev rd act o=some (.val iy s u)):UpSh rd u:=by
 obtain⟨dst,op,type,pos,after,guard⟩:=o;cases op<;>simp only[r8,km]at ho;simp only[dn]at h;split at h
 .split at h
  .rename_i hs;simp only[j4,Act.val.injEq]at h;rw[<-h.2.2];exact(Zz (ZA E.np (mskM rd)) hs).le (ZB rd)
  .simp at h
 .simp at h
theorem ZD{E:Env}{ev:Operand->Slot}{rd:Nat->BS}{act:List (Nat×Bool)}{o:Oper}(ho:r8 o=true){f:Nat}{args:List Arg}{mk:Ret->Option (Slot×Ups)}:dn E ev rd act o≠some (.call f args mk):=by
 obtain⟨dst,op,type,pos,after,guard⟩:=o;cases op<;>simp only[r8,km]at ho;intro h;simp only[dn]at h;split at h
 .split at h
  .simp at h
  .simp at h
 .simp at h
theorem UpSh.unmask{rd:Nat->BS}{M:List Nat}{u:Ups}(h:UpSh (gV M rd) u):UpSh rd u:=by
 intro e he;obtain⟨h1,h2⟩:=h e he;rcases ID M rd e.1 with hq|hq
 .rw[hq]at h1;exact⟨h1,h2⟩
 .rw[hq]at h1;cases h3:e.2 with
  |free=>rw[h3]at h2;simp[isLive]at h2
  |gone=>rw[h3]at h2;simp[isLive]at h2
  |live b=>rw[h3]at h1;cases b<;>simp[ShEq]at h1
end
section
variable{N:NT}{np:Nat}{S0:aD}{w0:World}{refs:Refs}{σ:St}{a:Go.Act}{w:World}{S:aD}{γ:Nat->Value}
inductive Bef(ops:Array Oper):Nat->Nat->Prop
 |dep {i j:Nat} {o:Oper}:ops[i]? = some o->j∈nv o->Bef ops i j
 |trans {i j k:Nat}:Bef ops i j->Bef ops j k->Bef ops i k
structure DOkR(ops:Array Oper)(A:List (List Nat)):Prop where
 lt:∀i o,ops[i]? = some o->∀j∈nv o,j<i
 addr:∀i o,ops[i]? = some o->pd o=true->∀k,k∉A.getD i []
 dst:∀i j oi oj t,ops[i]? = some oi->ops[j]? = some oj->i≠j->oj.dst=some t->oi.dst≠some t/\(t∈oi.looksAt ops->Bef ops i j\/Bef ops j i)
 box:∀i j oi oj k,ops[i]? = some oi->ops[j]? = some oj->i≠j->k∈A.getD i []->k∈A.getD j []->Bef ops i j\/Bef ops j i
theorem DOkR.bef{ops:Array Oper}{A:List (List Nat)}(h:DOkR ops A){i j:Nat}(hb:Bef ops i j):j<i:=by
 induction hb with
 |dep ho hj=>exact h.lt _ _ ho _ hj
 |trans _ _ h1 h2=>omega
def ClOk(ops:Array Oper)(cl:List Nat):Prop:=∀i j,(cl.getD i 0).testBit j=true->Bef ops i j
theorem Qk{ops:Array Oper}{cls:List Nat}(hc:ClOk ops cls){i:Nat}{o:Oper}(ho:ops[i]? = some o):∀(l:List Nat)(m:Nat),(∀j∈l,j∈nv o)->(∀j,m.testBit j=true->Bef ops i j)->
  ∀j,(l.foldl (λm j=>m|||(2^j|||cls.getD j 0)) m).testBit j=true->Bef ops i j
 |[],m,_,hm,j,h=>hm j h
 |x::l,m,hl,hm,j,h=>by
  refine Qk hc ho l _ (λj hj=>hl j (by simp[hj])) (λj hj=>?_) j h;simp only[Nat.testBit_or,zp,Nat.testBit_two_pow,jo]at hj;rcases hj with hj|hj|hj
  .exact hm j hj
  .subst hj;exact .dep ho (hl x (by simp))
  .exact .trans (.dep ho (hl x (by simp))) (hc x j hj)
theorem Ql{ops:Array Oper}:∀(l:List Oper)(cls:List Nat),ClOk ops cls->(∀k o,l[k]? = some o->ops[cls.length+k]? = some o)->ClOk ops (Bv l cls)
 |[],cls,hc,_=>hc
 |o::os,cls,hc,hl=>by
  have ho:ops[cls.length]? = some o:=by have:=hl 0 o rfl;simpa using this
  refine Ql os _ ?_ (λk x hk=>by
   have:=hl (k+1) x (by simpa using hk);rw[ja,ku];rwa[show cls.length+1+k=cls.length+(k+1) by omega])
  intro i j dG;rcases Nat.lt_trichotomy i cls.length with hi|hi|hi
  .rw[List.getD_eq_getElem?_getD,List.getElem?_append_left hi,<-List.getD_eq_getElem?_getD]at dG;exact hc i j dG
  .subst hi;rw[List.getD_eq_getElem?_getD,k7 (jj _),Nat.sub_self]at dG;simp only[List.getElem?_cons_zero,q9]at dG;exact Qk hc ho (nv o) 0 (λ_ h=>h) (λj h=>by simp at h) j dG
  .rw[List.getD_eq_getElem?_getD,qr (by simp;omega)]at dG;simp at dG
theorem IH{ops:Array Oper}{cl:List Nat}(hc:ClOk ops cl){i j:Nat}(h:Bw cl i j=true):i=j\/Bef ops i j\/Bef ops j i:=by
 simp only[Bw,zp,qy]at h;rcases h with (h|h)|h
 .exact .inl h
 .exact .inr (.inl (hc i j h))
 .exact .inr (.inr (hc j i h))
theorem ZE{ops:Array Oper}{cl:List Nat}{A:List (List Nat)}(hc:ClOk ops cl)(bH:OA ops cl A=true):DOkR ops A:=by
 have hz:∀{i:Nat}{o:Oper},ops[i]? = some o->(o,i)∈ops.toList.zipIdx:=by intro i o ho;rw[z8];exact⟨i,by rw[List.getElem?_zipIdx];simp[ho]⟩
 have nL:∀i k,k∈A.getD i []->A.isEmpty=false:=by
  intro i k hk;cases A with
  |nil=>simp at hk
  |cons _ _=>rfl
 have ao:∀{i:Nat}{o:Oper},ops[i]? = some o->(∀j∈nv o,j<i)/\(A.isEmpty || !pd o||(A.getD i []).isEmpty)=true/\∀j oj,ops[j]? = some oj->EH ops cl A i o j oj=true:=by intro i o ho;have:=k5.1 bH (o,i) (hz ho);simp only[jb]at this;exact⟨λj hj=>by simpa using k5.1 this.1.1 j hj,this.1.2,λj oj iE=>k5.1 this.2 (oj,j) (hz iE)⟩
 refine⟨λi o ho=>(ao ho).1,λi o ho kA k hk=>?_,λi j oi oj t hi hj dG ht=>?_,λi j oi oj k hi hj dG hk bg=>?_⟩
 .have:=(ao ho).2.1;rw[nL i k hk,kA]at this;simp only[jr,Bool.false_or,List.isEmpty_iff]at this;rw[this]at hk;simp at hk
 .have:=(ao hi).2.2 j oj hj;simp only[EH,ht,jb]at this;have h1:=this.1;simp only[zp,qy,dG,false_or,jb,bne_iff_ne,ne_eq,qa,qb,kp]at h1;refine⟨h1.1,λhm=>?_⟩;rcases h1.2 with h|h
  .exact absurd hm h
  .exact(IH hc h).resolve_left dG
 .have:=(ao hi).2.2 j oj hj;simp only[EH,jb]at this;have h2:=this.2;rw[nL i k hk]at h2;simp only[Bool.false_or,zp]at h2;rcases h2 with h|h
  .exact(IH hc h).resolve_left dG
  .have:=k5.1 h k hk;simp only[qb,qa,kp]at this;exact absurd bg this
theorem Qm{ops:Array Oper}{cl:List Nat}{A:List (List Nat)}(hc:ClOk ops cl){i:Nat}{oi:Oper}{k:Nat}(hm:(r9 ops cl A i oi).contains k=false){j:Nat}{oj:Oper}(hj:ops[j]? = some oj)(hk:k∈A.getD j []) :
  i=j\/Bef ops i j\/Bef ops j i\/(pd oi=true/\r8 oj=true):=by
 have hz:(oj,j)∈ops.toList.zipIdx:=by rw[z8];exact⟨j,by rw[List.getElem?_zipIdx];simp[hj]⟩
 have aZ:A.isEmpty=false:=by
  cases A with
  |nil=>simp at hk
  |cons _ _=>rfl
 unfold r9 at hm;rw[aZ]at hm;simp only[km,qz,qb,kp,zi,not_exists,not_and]at hm;have:=hm (oj,j) hz;dsimp only at this;split at this
 .rename_i h;simp only[zp,jb]at h;rcases h with h|h
  .rcases IH hc h with h|h|h
   .exact .inl h
   .exact .inr (.inl h)
   .exact .inr (.inr (.inl h))
  .exact .inr (.inr (.inr h))
 .exact absurd hk this
inductive DStep(P:Program)(E:Env)(ops:Array Oper)(M Ai:List Nat)(o:Oper)(σ:St):St->Prop
 |skip (s:Nat) (wn v:Bool):nt ops o=some (s,wn)->σ.sl s = .one (.one (.d .bool v))->v≠wn->DStep P E ops M Ai o σ (σ.setD o.dst .und)
 |skipU (s:Nat) (wn:Bool):nt ops o=some (s,wn)->σ.sl s = .und->DStep P E ops M Ai o σ (σ.setD o.dst .und)
 |val (s:Slot) (u:Ups):(o.guard=none\/∃s wn,nt ops o=some (s,wn)/\σ.sl s = .one (.one (.d .bool wn)))->dn E σ.ev (gV M σ.bx) [] o=some (.val true s u)->(∀e∈u,e.1∈Ai)->
  DStep P E ops M Ai o σ ((σ.upd u).setD o.dst s)
 |call (f:Nat) (args:List Arg) (mk:Ret->Option (Slot×Ups)) (ret:Ret) (s:Slot) (u:Ups):(o.guard=none\/∃s wn,nt ops o=some (s,wn)/\σ.sl s = .one (.one (.d .bool wn)))->
  dn E σ.ev (gV M σ.bx) [] o=some (.call f args mk)->Fun P f->E7 P f args (λr=>r=ret)->mk ret=some (s,u)->(∀e∈u,e.1∈Ai)->DStep P E ops M Ai o σ ((σ.upd u).setD o.dst s)
theorem Qn{s:Nat}{x:Slot}(h:σ.sl s=x):σ.setS s x=σ:=by
 unfold St.setS
 have:(λj=>if j=s then x else σ.sl j)=σ.sl:=by
  funext j
  split
  .rename_i hj;subst hj;exact h.symm
  .rfl
 rw[this]
theorem Qo{u:Ups}{Ai:List Nat}(h:(u.all λe=>Ai.contains e.1)=true):∀e∈u,e.1∈Ai:=λe he=>by simpa using k5.1 h e he
theorem II{P:Program}{E:Env}(hC:lG P E.C)(hF:CFun E.C){ops:Array Oper}{M Ai:List Nat}{o:Oper}{R:Type}{k:St->Option R}{r:R}
  (hg:o.guard=none\/∃s wn,nt ops o=some (s,wn)/\σ.sl s = .one (.one (.d .bool wn)))(h:runD E M Ai σ o k=some r):∃σ',DStep P E ops M Ai o σ σ'/\k σ'=some r:=by
 unfold runD at h;split at h
 .simp at h
 .rename_i iy s u ho;split at h
  .rename_i hb;cases iy with
   |false=>simp at h
   |true=>exact⟨_,.val s u hg ho (Qo hb),h⟩
  .simp at h
 .rename_i f args mk ho;obtain⟨x,hx⟩:=hF f args;rw[hx]at h;cases x with
  |none=>simp at h
  |some ret=>
   simp only[j3]at h;obtain⟨hf,eF⟩:=hC f args Ret some ret (by rw[hx];rfl);split at h
   .rename_i s u bG;split at h
    .rename_i hb
     exact⟨_,.call f args mk ret s u hg ho hf (by
      intro w S vals ha hn hS;refine(eF w S vals ha hn hS).mono ?_
      rintro e w' ⟨r',sy,rest⟩
      exact⟨r',by simpa using sy,rest⟩) bG (Qo hb),h⟩
    .simp at h
   .simp at h
theorem ZF{P:Program}{E:Env}(hC:lG P E.C)(hF:CFun E.C){ops:Array Oper}{M Ai:List Nat}{o:Oper}{R:Type}{k:St->Option R}{r:R}
  (h:Bz E ops M Ai σ o k=some r):∃σ',DStep P E ops M Ai o σ σ'/\k σ'=some r:=by
 unfold Bz at h;split at h
 .rename_i hg;exact II hC hF (.inl hg) h
 .split at h
  .rename_i s wn hg;split at h
   .rename_i v hv;cases v with
    |true=>
     rw[j5,Qn hv]at h;cases wn with
     |true=>exact II hC hF (.inr ⟨s,true,hg,hv⟩) h
     |false=>exact⟨_,.skip s false true hg hv (by simp),h⟩
    |false=>
     rw[j6,Qn hv]at h;cases wn with
     |false=>exact II hC hF (.inr ⟨s,false,hg,hv⟩) h
     |true=>exact⟨_,.skip s true false hg hv (by simp),h⟩
   .rename_i hv;exact⟨_,.skipU s wn hg hv,h⟩
   .simp at h
  .simp at h
theorem Qp{P:Program}{E:Env}(hC:lG P E.C)(hF:CFun E.C){ops:Array Oper}{cl:List Nat}{A:List (List Nat)}{R:Type}{k:St->Option R}{r:R}:∀(n i:Nat)(σ:St),i+n=ops.size->yX E ops cl A (ops.toList.drop i) i σ k=some r->
  ∃τ:Nat->St,τ i=σ/\k (τ ops.size)=some r/\∀j o,i<=j->ops[j]? = some o->rn E.N o=true/\DStep P E ops (r9 ops cl A j o) (A.getD j []) o (τ j) (τ (j+1))
 |0,i,σ,hi,h=>by
  rw[jf (by simp;omega)]at h;refine⟨λ_=>σ,rfl,h,λj o hj ho=>?_⟩;have:=(jk.1 ho).1;omega
 |n+1,i,σ,hi,h=>by
  have an:i<ops.size:=by omega
  rw[jc (by simpa using an)]at h;simp only[yX]at h;split at h
  .rename_i hd;obtain⟨σ1,hs,hk⟩:=ZF (P:=P) hC hF h;obtain⟨τ1,h1,h2,h3⟩:=Qp hC hF n (i+1) σ1 (by omega) hk;refine⟨λj=>if j=i then σ else τ1 j,by simp,?_,λj o hj ho=>?_⟩
   .simp only[show ops.size≠i by omega,qz];exact h2
   .by_cases oO:j=i
    .subst oO;have xe:ops[j]? = some ops[j]:=js an;rw[xe]at ho;simp only[j4]at ho;subst ho;refine⟨by simpa using hd,?_⟩;simp only[if_true,show j+1≠j by omega,qz,h1];simpa using hs
    .simp only[oO,qz,show j+1≠i by omega];exact h3 j o (by omega) ho
  .simp at h
theorem Rel.drawn(hR:Rel N np S0 w0 refs σ a w S γ)(n:Nat):Rel N np S0 w0 refs σ a { w with drawn:=n } S γ:=
 Rel.step (bx':=σ.bx) (γ':=γ) hR (λ_ _ h=>⟨h,rfl⟩) (.refl _ _) (λk b hb=>ei.keep (w:=w) (w':={ w with drawn:=n }) (λ_ _ h=>⟨h,rfl⟩) (.refl _ _) rfl (λ_ _=>⟨rfl,λ_=>Iff.rfl⟩) (hR.box k b hb))
  hR.own hR.apart hR.new hR.here hR.below hR.grow hR.os hR.tape hR.output (λ_ _ _ h=>⟨rfl,h⟩)
theorem D_wp{P:Program}{E:Env}(hT:cw P E.T)(hR:Rel E.N E.np S0 w0 refs σ a w S γ)(hc:dK σ){ops:Array Oper}{M Ai:List Nat}{i:Nat}{o:Oper}(ho:ops[i]? = some o)(hd:rn E.N o=true)
  {τ τ':St}(hs:DStep P E ops M Ai o τ τ')(eT:(∀k,gV M σ.bx k=gV M τ.bx k)\/(pd o=true/\∀k,ShEq (gV M σ.bx k) (gV M τ.bx k)))(pO:∀t,t∈o.looksAt ops->σ.sl t=τ.sl t){K:Go.Act->World->Prop}{Q:Exit->Go.Act->World->Prop}
  (hK:∀(s:Slot)(u:Ups)(a':Go.Act)(w':World)(S':aD)(γ':Nat->Value),τ'=(τ.upd u).setD o.dst s->(∀e∈u,e.1∈Ai)->Rel E.N E.np S0 w0 refs ((σ.upd u).setD o.dst s) a' w' S' γ'->dK ((σ.upd u).setD o.dst s)->K a' w') :
  wpOp P ops Q i K a w:=by
 have pC:=Is hd
 have oP:∀x∈o.op.operands,σ.ev x=τ.ev x:=by
  intro x hx;cases x with
  |tmp t=>exact pO t (ka _ (zj.2 ⟨.tmp t,by simpa using hx,rfl⟩))
  |_=>rfl
 have wB:∀s wn,nt ops o=some (s,wn)->s∈o.looksAt ops:=by
  intro s wn hg;refine kq _ ?_;unfold nt at hg;split at hg
  .simp at hg
  .rename_i j w' It;split at hg
   .rename_i oj iE;split at hg
    .rename_i s' dp;simp only[j4,j8]at hg;simp[It,iE,dp,hg.1]
    .simp at hg
   .simp at hg
 have xf:∀s v,nt ops o≠none->s∈o.looksAt ops->τ.sl s = .one (.one (.d .bool v))->tm a s = .bool v:=by intro s v _ hm hv;have:=hR.slot s;rw[pO s hm,hv]at this;exact ru this
 have aT:dn E σ.ev (gV M σ.bx) [] o=dn E τ.ev (gV M τ.bx) [] o:=by
  rcases eT with eT|⟨kA,eT⟩
  .rw[show gV M σ.bx=gV M τ.bx from funext eT];exact Qh oP
  .rw[Zx kA eT];exact Qh oP
 have dq:∀(s:Slot)(u:Ups)(v:Value)(w':World)(S':aD)(γ':Nat->Value),τ'=(τ.upd u).setD o.dst s->(∀e∈u,e.1∈Ai)->Rel E.N E.np S0 w0 refs (σ.upd u) a w' S' γ'->
   gz S' w' γ' (σ.upd u).bx (tm a) s v->s.bare=true->K (a.put o.dst v) w':=by
  intro s u v w' S' γ' he hb cU dp dL;obtain⟨h1,h2⟩:=PW cU (PX hc) pC dp dL;exact hK s u _ w' S' γ' he hb h1 h2
 have uT:(o.guard=none\/∃s wn,nt ops o=some (s,wn)/\τ.sl s = .one (.one (.d .bool wn)))->Region.wanted o (yielded ops a.tmps)=true:=by
  rintro (hg|⟨s,wn,hg,hv⟩)
  .simp[Region.wanted,hg]
  .exact(Fk hg).2 (xf s wn (by rw[hg];simp) (wB s wn hg) hv)
 unfold wpOp;simp only[ho];cases hs with
 |skip s wn v hg hv aZ=>
  have hw:¬Region.wanted o (yielded ops a.tmps)=true:=λhw=>by
   have h1:=(Fk hg).1 hw;rw[xf s v (by rw[hg];simp) (wB s wn hg) hv]at h1;exact aZ (by simpa using h1)
  simp only[hw,qz,km];exact dq .und [] undef w S γ rfl (by simp) hR rfl rfl
 |skipU s wn hg hv=>
  have hu:tm a s=undef:=by have:=hR.slot s;rw[pO s (wB s wn hg),hv]at this;exact this
  have hw:¬Region.wanted o (yielded ops a.tmps)=true:=λhw=>by
   have h1:=(Fk hg).1 hw;rw[hu]at h1;simp[undef]at h1
  simp only[hw,qz,km];exact dq .und [] undef w S γ rfl (by simp) hR rfl rfl
 |val s u hg bN hb=>
  simp only[uT hg,if_true];rw[<-aT]at bN;obtain⟨A',xg,hle⟩:=Qg (ID M σ.bx) bN;cases hle;obtain⟨⟨v,w',S',γ',aK,cU,dp⟩,dL⟩:=Im hT hR (act:=[]) (λg hg=>by simp at hg) (λ_=> .inl rfl) xg;refine .inl ?_;unfold Oper.wp;rcases aK with aK|⟨aK,rfl⟩
  .rw[aK,Oper.upon_value];exact dq s u v w' S' γ' rfl hb cU dp dL
  .rw[aK,Oper.upon_skip];exact dq s u undef w' S' γ' rfl hb cU dp dL
 |call f args mk ret s u hg bN hf eF bG hb=>
  simp only[uT hg,if_true];rw[<-aT]at bN;obtain⟨A',xg,hle⟩:=Qg (ID M σ.bx) bN;cases hle with
  |call _ _ _ mk' gP=>
   have CJ:=gP _ _ bG;obtain⟨vals,aK,mm,dL⟩:=PT hR (act:=[]) (λg hg=>by simp at hg) (λ_=> .inl rfl) xg hf eF;refine .inl ?_;unfold Oper.wp;rw[aK,Oper.upon_enter];refine mm.mono ?_
   rintro e w' ⟨ZG,rfl,ao⟩
   obtain⟨v,S',γ',rfl,cU,dp⟩:=ao s u CJ;exact dq s u v w' S' γ' rfl hb cU dp (dL _ s u CJ)
end
section
variable{S0:aD}{w0:World}{refs:Refs}{σ:St}{a:Go.Act}{w:World}{S:aD}{γ:Nat->Value}
theorem IJ{o:Oper}{j:Nat}:j∈nv o↔∃e∈o.after,Region.binds .any e=true/\e.on=j:=by
 simp only[nv,zj];constructor
 .rintro⟨e,he,h⟩
  split at h
  .rename_i hb;simp only[j4]at h;exact⟨e,by simpa using he,hb,h⟩
  .simp at h
 .rintro⟨e,he,hb,h⟩
  exact⟨e,by simpa using he,by simp[hb,h]⟩
theorem ZH{ops:Array Oper}{al:Array Bool}{i:Nat}(h:i∈Region.ready .any ops al) :
  al.getD i true=false/\∃o,ops[i]? = some o/\∀j∈nv o,al.getD j false=true:=by
 obtain⟨h0,o,ho,h1⟩:=mem_ready.1 h;exact⟨h0,o,ho,λj hj=>by obtain⟨e,he,hb,rfl⟩:=IJ.1 hj;exact h1 e he hb⟩
def sR(P:Program)(E:Env)(ops:Array Oper)(cl:List Nat)(A:List (List Nat))(τ:Nat->St):Prop:=
 ∀j o,ops[j]? = some o->rn E.N o=true/\DStep P E ops (r9 ops cl A j o) (A.getD j []) o (τ j) (τ (j+1))
theorem Ft:∀(u:Ups)(σ:St)(t:Nat),(σ.upd u).sl t=σ.sl t
 |[],_,_=>rfl
 |e::u,σ,t=>Ft u (σ.setB e.1 e.2) t
theorem xh(σ:St)(d:Option Nat)(s:Slot):(σ.setD d s).bx=σ.bx:=by cases d<;>rfl
theorem IK{σ:St}{d:Option Nat}{s:Slot}{t:Nat}(h:d≠some t):(σ.setD d s).sl t=σ.sl t:=by
 cases d with
 |none=>rfl
 |some d=>have:t≠d:=λe=>h (by rw[e]);simp[St.setD,St.setS,this]
theorem Qq{σ:St}{s:Slot}{t:Nat}:(σ.setD (some t) s).sl t=s:=by simp[St.setD,St.setS]
theorem Fu:∀(u:Ups)(σ:St)(k:Nat),(∀e∈u,e.1≠k)->(σ.upd u).bx k=σ.bx k
 |[],_,_,_=>rfl
 |e::u,σ,k,h=>by
  have h1:=Fu u (σ.setB e.1 e.2) k (λx hx=>h x (by simp[hx]));show ((σ.setB e.1 e.2).upd u).bx k=_;rw[h1];have:=h e (by simp);have aZ:¬k=e.1:=λhk=>this hk.symm;simp[St.setB,aZ]
theorem Qr:∀(u:Ups)(σ τ:St)(k:Nat),σ.bx k=τ.bx k->(σ.upd u).bx k=(τ.upd u).bx k
 |[],_,_,_,h=>h
 |e::u,σ,τ,k,h=>by
  refine Qr u (σ.setB e.1 e.2) (τ.setB e.1 e.2) k ?_;simp only[St.setB];split
  .rfl
  .exact h
section
variable{P:Program}{E:Env}{ops:Array Oper}{cl:List Nat}{A:List (List Nat)}{τ:Nat->St}
theorem IL(h:sR P E ops cl A τ){j:Nat}{o:Oper}(ho:ops[j]? = some o):∃s u,τ (j+1)=((τ j).upd u).setD o.dst s/\(∀e∈u,e.1∈A.getD j [])/\(r8 o=true->∀k,ShEq ((τ j).bx k) ((τ (j+1)).bx k)):=by
 obtain⟨_,hs⟩:=h j o ho;generalize hq:τ (j+1)=σ' at hs;cases hs with
 |skip s wn v hg hv aZ=>exact⟨.und,[],rfl,by simp,λ_ k=>by rw[xh];exact ShEq.refl _⟩
 |skipU s wn hg hv=>exact⟨.und,[],rfl,by simp,λ_ k=>by rw[xh];exact ShEq.refl _⟩
 |val s u hg bN hb=>exact⟨s,u,rfl,hb,λaB k=>by
  rw[xh];exact Qi u (τ j) (λe he=>((ZC aB bN).unmask e he).1) k⟩
 |call f args mk ret s u hg bN hf eF bG hb=>exact⟨s,u,rfl,hb,λaB=>absurd bN (ZD aB)⟩
theorem ZI(h:sR P E ops cl A τ){j:Nat}{o:Oper}(ho:ops[j]? = some o){t:Nat}(ht:o.dst≠some t):(τ (j+1)).sl t=(τ j).sl t:=by
 obtain⟨s,u,he,_⟩:=IL h ho;rw[he,IK ht,Ft]
theorem Qs(h:sR P E ops cl A τ){j:Nat}{o:Oper}(ho:ops[j]? = some o){k:Nat}(hk:k∉A.getD j []):(τ (j+1)).bx k=(τ j).bx k:=by
 obtain⟨s,u,he,hu,_⟩:=IL h ho;rw[he,xh];exact Fu u _ k (λe hm uH=>hk (uH▸hu e hm))
theorem CK(h:sR P E ops cl A τ){t j:Nat}:∀n,j+n<=ops.size->(∀k o,j<=k->k<j+n->ops[k]? = some o->o.dst≠some t)->(τ (j+n)).sl t=(τ j).sl t
 |0,_,_=>rfl
 |n+1,hn,hk=>by
  have an:j+n<ops.size:=by omega
  have ho:ops[j+n]? = some ops[j+n]:=js an;rw[<-Nat.add_assoc,ZI h ho (hk _ _ (by omega) (by omega) ho)];exact CK h n (by omega) (λk o h1 h2=>hk k o h1 (by omega))
theorem CL(h:sR P E ops cl A τ){k j:Nat}:∀n,j+n<=ops.size->(∀i o,j<=i->i<j+n->ops[i]? = some o->k∉A.getD i [])->(τ (j+n)).bx k=(τ j).bx k
 |0,_,_=>rfl
 |n+1,hn,hk=>by
  have an:j+n<ops.size:=by omega
  have ho:ops[j+n]? = some ops[j+n]:=js an;rw[<-Nat.add_assoc,Qs h ho (hk _ _ (by omega) (by omega) ho)];exact CL h n (by omega) (λi o h1 h2=>hk i o h1 (by omega))
theorem Fv(h:sR P E ops cl A τ){k j:Nat}:∀n,j+n<=ops.size->(∀i o,j<=i->i<j+n->ops[i]? = some o->k∈A.getD i []->r8 o=true)->ShEq ((τ j).bx k) ((τ (j+n)).bx k)
 |0,_,_=>ShEq.refl _
 |n+1,hn,hk=>by
  have an:j+n<ops.size:=by omega
  have ho:ops[j+n]? = some ops[j+n]:=js an;have ih:=Fv h n (by omega) (λi o h1 h2=>hk i o h1 (by omega));refine ih.trans ?_;rw[<-Nat.add_assoc];by_cases hm:k∈A.getD (j+n) []
  .obtain⟨_,_,_,_,aB⟩:=IL h ho;exact aB (hk _ _ (by omega) (by omega) ho hm) k
  .rw[Qs h ho hm];exact ShEq.refl _
structure Ph(ops:Array Oper)(A:List (List Nat))(τ:Nat->St)(al:Array Bool)(σ:St):Prop where
 closed:∀j o,ops[j]? = some o->al.getD j false=true->∀d∈nv o,al.getD d false=true
 done:∀j o t,ops[j]? = some o->o.dst=some t->al.getD j false=true->σ.sl t=(τ (j+1)).sl t
 rest:∀t,(∀j o,ops[j]? = some o->o.dst=some t->al.getD j false=false)->σ.sl t=(τ 0).sl t
 bdone:∀j k,j<ops.size->k∈A.getD j []->al.getD j false=true->(∀i,i<ops.size->k∈A.getD i []->al.getD i false=true->i<=j)->σ.bx k=(τ (j+1)).bx k
 brest:∀k,(∀j,j<ops.size->k∈A.getD j []->al.getD j false=false)->σ.bx k=(τ 0).bx k
theorem Ph.bef{al:Array Bool}(hp:Ph ops A τ al σ){i j:Nat}(hb:Bef ops i j)(hi:al.getD i false=true):al.getD j false=true:=by
 induction hb with
 |dep ho hj=>exact hp.closed _ _ ho hi _ hj
 |trans _ _ h1 h2=>exact h2 (h1 hi)
theorem Ph.befd{al:Array Bool}(hp:Ph ops A τ al σ){i j:Nat}{o:Oper}(ho:ops[i]? = some o)(hd:∀j∈nv o,al.getD j false=true)(hb:Bef ops i j):al.getD j false=true:=by
 induction hb with
 |dep xe hj=>rw[ho]at xe;simp only[j4]at xe;subst xe;exact hd _ hj
 |trans da eP h1 h2=>exact hp.bef eP (h1 ho)
theorem Fw(p:Nat->Prop):∀n,(∃j,j<n/\p j)->∃m,m<n/\p m/\∀j,j<n->p j->j<=m
 |0,h=>by obtain⟨j,hj,_⟩:=h;omega
 |n+1,h=>by
  by_cases hn:p n
  .exact⟨n,by omega,hn,λj hj _=>by omega⟩
  .obtain⟨j,hj,hp⟩:=h
   have Fo:j<n:=by
    rcases qu j n with h|h
    .exact h
    .have:j=n:=by omega
     subst this;exact absurd hp hn
   obtain⟨m,hm,sS,ao⟩:=Fw p n ⟨j,Fo,hp⟩;refine⟨m,by omega,sS,λi hi Qt=>?_⟩;rcases qu i n with h|h
   .exact ao i h Qt
   .have:i=n:=by omega
    subst this;exact absurd Qt hn
theorem Qu{l:Array Bool}{i:Nat}(h:l.getD i true=false):l.getD i false=false:=by
 rcases qu i l.size with h'|h'
 .simp[h']at h ⊢;exact h
 .simp[Array.getElem?_eq_none h']
theorem pP{l:Array Bool}{i j:Nat}(hi:i<l.size):(l.setIfInBounds i true).getD j false=true↔j=i\/l.getD j false=true:=by
 by_cases h:i=j
 .subst h;simp[hi]
 .rw[getD_set_ne false h];exact⟨.inr,λhh=>hh.resolve_left λe=>h e.symm⟩
theorem CM{l:Array Bool}{i:Nat}(h:¬l.getD i false=true):l.getD i false=false:=by
 cases hq:l.getD i false with
 |false=>rfl
 |true=>exact absurd hq h
section
variable(bH:DOkR ops A)(h:sR P E ops cl A τ){al:Array Bool}(hp:Ph ops A τ al σ){i:Nat}{o:Oper}(hi:ops[i]? = some o)(jK:al.getD i false=false)(du:∀j∈nv o,al.getD j false=true)
include bH h hp hi jK du
theorem ZJ:∀t,t∈o.looksAt ops->σ.sl t=(τ i).sl t:=by
 intro t B7;have pQ:i<ops.size:=(jk.1 hi).1;have Qv:∀j oj,ops[j]? = some oj->oj.dst=some t->j≠i->Bef ops i j\/Bef ops j i:=λj oj hj ht aZ=>(bH.dst i j o oj t hi hj (λe=>aZ e.symm) ht).2 B7;by_cases hex:∃(j:Nat)(oj:Oper),ops[j]? = some oj/\oj.dst=some t/\al.getD j false=true
 .obtain⟨j,oj,hj,ht,mW⟩:=hex;have oO:j≠i:=λe=>by rw[e,jK]at mW;simp at mW
  have xi:Bef ops i j:=by
   rcases Qv j oj hj ht oO with hd|hd
   .exact hd
   .have:=hp.bef hd mW;rw[jK]at this;simp at this
  have an:=bH.bef xi;rw[hp.done j oj t hj ht mW];have:=CK h (t:=t) (j:=j+1) (i-(j+1)) (by omega) (λk ok h1 h2 hk=>(bH.dst k j ok oj t hk hj (by omega) ht).1);rw[show j+1+(i-(j+1))=i by omega]at this;exact this.symm
 .rw[hp.rest t (λj oj hj ht=>CM λhq=>hex ⟨j,oj,hj,ht,hq⟩)]
  have:=CK h (t:=t) (j:=0) i (by omega) (λk ok _ hk nM rB=>by
   have lK:k≠i:=by omega
   rcases Qv k ok nM rB lK with hd|hd
   .exact hex ⟨k,ok,nM,rB,hp.befd hi du hd⟩
   .have:=bH.bef hd;omega)
  rw[kf]at this;exact this.symm
theorem Qw{k:Nat}(hk:∀j oj,ops[j]? = some oj->k∈A.getD j []->i=j\/Bef ops i j\/Bef ops j i):σ.bx k=(τ i).bx k:=by
 have pQ:i<ops.size:=(jk.1 hi).1;by_cases hex:∃j,j<ops.size/\(k∈A.getD j []/\al.getD j false=true)
 .obtain⟨m,hm,⟨nN,rJ⟩,eu⟩:=Fw _ _ hex;have IM:ops[m]? = some ops[m]:=js hm;have IP:i≠m:=λe=>by rw[<-e,jK]at rJ;simp at rJ
  have xi:Bef ops i m:=by
   rcases hk m _ IM nN with hd|hd|hd
   .exact absurd hd IP
   .exact hd
   .have:=hp.bef hd rJ;rw[jK]at this;simp at this
  have an:=bH.bef xi;rw[hp.bdone m k hm nN rJ (λj hj dx mW=>eu j hj ⟨dx,mW⟩)]
  have:=CL h (k:=k) (j:=m+1) (i-(m+1)) (by omega) (λj oj h1 h2 hj dx=>by
   rcases hk j oj hj dx with hd|hd|hd
   .omega
   .have:=eu j (by omega) ⟨dx,hp.befd hi du hd⟩;omega
   .have:=bH.bef hd;omega)
  rw[show m+1+(i-(m+1))=i by omega]at this;exact this.symm
 .rw[hp.brest k (λj hj dx=>CM λhq=>hex ⟨j,hj,dx,hq⟩)]
  have:=CL h (k:=k) (j:=0) i (by omega) (λj oj h1 h2 hj dx=>by
   rcases hk j oj hj dx with hd|hd|hd
   .omega
   .exact hex ⟨j,by omega,dx,hp.befd hi du hd⟩
   .have:=bH.bef hd;omega)
  rw[kf]at this;exact this.symm
theorem ZK(kA:pd o=true){k:Nat}(hk:∀j oj,ops[j]? = some oj->k∈A.getD j []->i=j\/Bef ops i j\/Bef ops j i\/r8 oj=true):ShEq (σ.bx k) ((τ i).bx k):=by
 have pQ:i<ops.size:=(jk.1 hi).1;by_cases hex:∃j,j<ops.size/\(k∈A.getD j []/\al.getD j false=true)
 .obtain⟨m,hm,⟨nN,rJ⟩,eu⟩:=Fw _ _ hex;have IM:ops[m]? = some ops[m]:=js hm;rw[hp.bdone m k hm nN rJ (λj hj dx mW=>eu j hj ⟨dx,mW⟩)];rcases qu m i with IP|IP
  .have:=Fv h (k:=k) (j:=m+1) (i-(m+1)) (by omega) (λj oj h1 h2 hj dx=>by
    rcases hk j oj hj dx with hd|hd|hd|hd
    .omega
    .have:=eu j (by omega) ⟨dx,hp.befd hi du hd⟩;omega
    .have:=bH.bef hd;omega
    .exact hd)
   rwa[show m+1+(i-(m+1))=i by omega]at this
  .have ZL:i≠m:=λe=>by rw[<-e,jK]at rJ;simp at rJ
   have:=Fv h (k:=k) (j:=i) (m+1-i) (by omega) (λj oj h1 h2 hj dx=>by
    have mW:al.getD j false=true:=by
     by_cases uU:j=m
     .rw[uU];exact rJ
     .rcases bH.box j m oj ops[m] k hj IM uU dx nN with hd|hd
      .have:=bH.bef hd;omega
      .exact hp.bef hd rJ
    rcases hk j oj hj dx with hd|hd|hd|hd
    .rw[<-hd,jK]at mW;simp at mW
    .have:=bH.bef hd;omega
    .have:=hp.bef hd mW;rw[jK]at this;simp at this
    .exact hd)
   rw[show i+(m+1-i)=m+1 by omega]at this;exact this.symm
 .rw[hp.brest k (λj hj dx=>CM λhq=>hex ⟨j,hj,dx,hq⟩)]
  have:=Fv h (k:=k) (j:=0) i (by omega) (λj oj h1 h2 hj dx=>by
   rcases hk j oj hj dx with hd|hd|hd|hd
   .omega
   .exact absurd ⟨j,by omega,dx,hp.befd hi du hd⟩ hex
   .have:=bH.bef hd;omega
   .exact hd)
  rwa[kf]at this
theorem ZM(hc:ClOk ops cl):(∀k,gV (r9 ops cl A i o) σ.bx k=gV (r9 ops cl A i o) (τ i).bx k)\/(pd o=true/\∀k,ShEq (gV (r9 ops cl A i o) σ.bx k) (gV (r9 ops cl A i o) (τ i).bx k)):=by
 by_cases kA:pd o=true
 .refine .inr ⟨kA,ShEq.mask λk hk=>ZK bH h hp hi jK du kA λj oj hj dx=>?_⟩;rcases Qm hc hk hj dx with hd|hd|hd|hd
  .exact .inl hd
  .exact .inr (.inl hd)
  .exact .inr (.inr (.inl hd))
  .exact .inr (.inr (.inr hd.2))
 .refine .inl λk=>?_;unfold gV;split
  .rfl
  .rename_i hk
   exact Qw bH h hp hi jK du λj oj hj dx=>by
    rcases Qm hc (by simpa using hk) hj dx with hd|hd|hd|hd
    .exact .inl hd
    .exact .inr (.inl hd)
    .exact .inr (.inr hd)
    .exact absurd hd.1 kA
theorem ZN(bX:ops.size<=al.size){s:Slot}{u:Ups}(he:τ (i+1)=((τ i).upd u).setD o.dst s)(hu:∀e∈u,e.1∈A.getD i []):Ph ops A τ (al.setIfInBounds i true) ((σ.upd u).setD o.dst s):=by
 have pQ:i<ops.size:=(jk.1 hi).1;have fm:i<al.size:=by omega
 have jZ:∀k,k∈A.getD i []->σ.bx k=(τ i).bx k:=λk hk=>Qw bH h hp hi jK du λj oj hj dx=>by
  by_cases dG:i=j
  .exact .inl dG
  .exact .inr (bH.box i j o oj k hi hj dG hk dx)
 refine⟨?_,?_,?_,?_,?_⟩
 .intro j oj iE hj d nC;rcases (pP fm).1 hj with rfl|hj
  .rw[hi]at iE;simp only[j4]at iE;subst iE;exact(pP fm).2 (.inr (du d nC))
  .exact(pP fm).2 (.inr (hp.closed j oj iE hj d nC))
 .intro j oj t iE ht hj;by_cases oO:j=i
  .subst oO;rw[hi]at iE;simp only[j4]at iE;subst iE;rw[he,ht,Qq,Qq]
  .rcases (pP fm).1 hj with hj|hj
   .exact absurd hj oO
   .rw[IK (bH.dst i j o oj t hi iE (λe=>oO e.symm) ht).1,Ft];exact hp.done j oj t iE ht hj
 .intro t ao
  have ZO:o.dst≠some t:=λe=>by
   have:=ao i o hi e;have h2:=(pP (j:=i) fm).2 (.inl rfl);rw[this]at h2;simp at h2
  rw[IK ZO,Ft]
  exact hp.rest t λj oj iE ht=>CM λhq=>by
   have:=ao j oj iE ht;have h2:=(pP (i:=i) fm).2 (.inr hq);rw[this]at h2;simp at h2
 .intro j k hj dx mW eu;rw[xh];by_cases oO:j=i
  .subst oO;rw[he,xh];exact Qr u σ (τ j) k (jZ k dx)
  .have CN:al.getD j false=true:=by
    rcases (pP fm).1 mW with e|hh
    .exact absurd e oO
    .exact hh
   have lK:k∉A.getD i []:=λlK=>by
    have hle:=eu i pQ lK ((pP fm).2 (.inl rfl));have iE:ops[j]? = some ops[j]:=js hj;rcases bH.box i j o _ k hi iE (λe=>oO e.symm) lK dx with hd|hd
    .have:=bH.bef hd;omega
    .have:=hp.bef hd CN;rw[jK]at this;simp at this
   rw[Fu u σ k (λe hm uH=>lK (uH▸hu e hm))];exact hp.bdone j k hj dx CN (λi' bF bg jX=>eu i' bF bg ((pP fm).2 (.inr jX)))
 .intro k ao
  have lK:k∉A.getD i []:=λlK=>by
   have:=ao i pQ lK;have h2:=(pP (j:=i) fm).2 (.inl rfl);rw[this]at h2;simp at h2
  rw[xh,Fu u σ k (λe hm uH=>lK (uH▸hu e hm))]
  exact hp.brest k λj hj dx=>CM λhq=>by
   have:=ao j hj dx;have h2:=(pP (i:=i) fm).2 (.inr hq);rw[this]at h2;simp at h2
end
theorem ZP(bH:DOkR ops A)(h:sR P E ops cl A τ){al:Array Bool}(hp:Ph ops A τ al σ)(ao:∀j,j<ops.size->al.getD j false=true):σ=τ ops.size:=by
 have eU:σ.sl=(τ ops.size).sl:=by
  funext t
  by_cases hex:∃(j:Nat)(oj:Oper),ops[j]? = some oj/\oj.dst=some t
  .obtain⟨j,oj,hj,ht⟩:=hex;have an:j<ops.size:=(jk.1 hj).1;rw[hp.done j oj t hj ht (ao j an)];have:=CK h (t:=t) (j:=j+1) (ops.size-(j+1)) (by omega) (λk ok h1 h2 hk=>(bH.dst k j ok oj t hk hj (by omega) ht).1);rw[show j+1+(ops.size-(j+1))=ops.size by omega]at this;exact this.symm
  .rw[hp.rest t (λj oj hj ht=>absurd ⟨j,oj,hj,ht⟩ hex)];have:=CK h (t:=t) (j:=0) ops.size (by omega) (λk ok _ hk nM rB=>hex ⟨k,ok,nM,rB⟩);rw[kf]at this;exact this.symm
 have eT:σ.bx=(τ ops.size).bx:=by
  funext k
  by_cases hex:∃j,j<ops.size/\k∈A.getD j []
  .obtain⟨m,hm,nN,eu⟩:=Fw _ _ hex;rw[hp.bdone m k hm nN (ao m hm) (λj hj dx _=>eu j hj dx)];have:=CL h (k:=k) (j:=m+1) (ops.size-(m+1)) (by omega) (λj oj h1 h2 hj dx=>by have:=eu j (by omega) dx;omega);rw[show m+1+(ops.size-(m+1))=ops.size by omega]at this;exact this.symm
  .rw[hp.brest k (λj hj dx=>absurd ⟨j,hj,dx⟩ hex)];have:=CL h (k:=k) (j:=0) ops.size (by omega) (λj oj h1 h2 hj dx=>hex ⟨j,by omega,dx⟩);rw[kf]at this;exact this.symm
 cases σ;cases hq:τ ops.size;rw[hq]at eT eU;simp only at eT eU;rw[eT,eU]
end
theorem ZQ{l:Array Bool}{i:Nat}(hi:l.getD i true=false):(l.setIfInBounds i true).toList.count false+1=l.toList.count false:=by
 have an:i<l.size:=by
  rcases qu i l.size with h|h
  .exact h
  .simp[Array.getElem?_eq_none h]at hi
 have hv:l.toList[i]'(by simpa using an)=false:=by simp[an]at hi;simpa using hi
 have bP:0<l.toList.count false:=List.count_pos_iff.2 (hv▸jg _);have hc:(l.toList.set i true).count false=l.toList.count false-(if l.toList[i]'(by simpa using an)==false then 1 else 0)+(if true==false then 1 else 0):=List.count_set (by simpa using an);rw[hv]at hc;rw[Array.toList_setIfInBounds];simp only[beq_self_eq_true,if_true,show (true==false)=false from rfl,km,qz,Nat.add_zero]at hc;omega
theorem ZR{l:Array Bool}(h:l.toList.count false=0){j:Nat}(hj:j<l.size):l.getD j false=true:=by
 have h0:false∉l.toList:=List.count_eq_zero.1 h;simp only[qw,js hj,q9];cases hv:l[j]with
 |true=>rfl
 |false=>exact absurd (hv▸by simp:false∈l.toList) h0
theorem ZS{ops:Array Oper}{A:List (List Nat)}(bH:DOkR ops A){al:Array Bool}(hs:al.size=ops.size)(h:Region.ready .any ops al=[]):∀j,j<ops.size->al.getD j false=true:=by
 intro j;induction j using Nat.strongRecOn with
 |_ j ih=>
  intro hj;cases hq:al.getD j false with
  |true=>rfl
  |false=>
   have ho:ops[j]? = some ops[j]:=js hj
   have hm:j∈Region.ready .any ops al:=mem_ready.2 ⟨by
    have ez:j<al.size:=by omega
    simp[ez]at hq ⊢;exact hq,ops[j],ho,λe he hb=>ih _ (bH.lt j _ ho _ (IJ.2 ⟨e,he,hb,rfl⟩)) (Nat.lt_trans (bH.lt j _ ho _ (IJ.2 ⟨e,he,hb,rfl⟩)) hj)⟩
   rw[h]at hm;simp at hm
theorem ZT{P:Program}{E:Env}(hT:cw P E.T){ops:Array Oper}{cl:List Nat}{A:List (List Nat)}(fj:ClOk ops cl)(bH:DOkR ops A){τ:Nat->St}(h:sR P E ops cl A τ)
  {Q:Exit->Go.Act->World->Prop}(hn:∀a' w' S' γ',Rel E.N E.np S0 w0 refs (τ ops.size) a' w' S' γ'->dK (τ ops.size)->Q .normal a' w') :
  ∀(fuel:Nat)(al:Array Bool){σ:St}{a:Go.Act}{w:World}{S:aD}{γ:Nat->Value},al.size=ops.size->al.toList.count false<=fuel->Rel E.N E.np S0 w0 refs σ a w S γ->dK σ->
   Ph ops A τ al σ->wpAny P .any ops Q fuel al a w:=by
 have dW:∀(al:Array Bool){σ:St}{a:Go.Act}{w:World}{S:aD}{γ:Nat->Value},Rel E.N E.np S0 w0 refs σ a w S γ->dK σ->Ph ops A τ al σ->(∀j,j<ops.size->al.getD j false=true)->Q .normal a w:=by intro al σ a w S γ hR hc uV ao;have he:=ZP bH h uV ao;subst he;exact hn a w S γ hR hc
 intro fuel;induction fuel with
 |zero=>
  intro al σ a w S γ hs CO hR hc uV;have ao:∀j,j<ops.size->al.getD j false=true:=λj hj=>ZR (by omega) (by omega);refine⟨?_,dW al hR hc uV ao⟩;refine List.eq_nil_iff_forall_not_mem.2 λi hi=>?_;have h0:=(mem_ready.1 hi).1;have an:i<ops.size:=by obtain⟨_,o,ho,_⟩:=mem_ready.1 hi;exact(jk.1 ho).1
  have:=ao i an;rw[Qu h0]at this;simp at this
 |succ fuel ih=>
  intro al σ a w S γ hs CO hR hc uV;refine⟨λfp=>dW al hR hc uV (ZS bH hs fp),λi hi=>?_⟩;obtain⟨jK,o,ho,du⟩:=ZH hi;have xj:=Qu jK;have dB:=ZQ jK;have bX:(al.setIfInBounds i true).size=ops.size:=by simpa using hs
  obtain⟨hd,dM⟩:=h i o ho;refine D_wp hT hR hc ho hd dM (ZM bH h uV ho xj du fj) (ZJ bH h uV ho xj du) ?_;intro s u a' w' S' γ' he hu cU ej;exact ih _ bX (by omega) cU ej (ZN bH h uV ho xj du (Nat.le_of_eq hs.symm) he hu)
theorem ZU{P:Program}{E:Env}(hT:cw P E.T)(hC:lG P E.C)(hF:CFun E.C)(hR:Rel E.N E.np S0 w0 refs σ a w S γ)(hc:dK σ){ops:Array Oper}{A:List (List Nat)}
  {R:Type}{k:St->Option R}{r:R}{Q:Exit->Go.Act->World->Prop}(hn:∀σ' a' w' S' γ',Rel E.N E.np S0 w0 refs σ' a' w' S' γ'->dK σ'->k σ'=some r->Q .normal a' w')(h:BA E ops A σ k=some r) :
  wpAny P .any ops Q ops.size (Array.replicate ops.size false) a { w with drawn:=w.drawn+1 }:=by
 unfold BA at h;split at h
 .rename_i bH;obtain⟨τ,h1,h2,h3⟩:=Qp (P:=P) (ops:=ops) hC hF ops.size 0 σ (kf _) (by simpa using h)
  have mq:∀j,(Array.replicate ops.size false).getD j false=false:=by
   intro j;rcases qu j ops.size with hj|hj
   .simp[hj]
   .simp[hj]
  have fj:ClOk ops (Bv ops.toList []):=Ql ops.toList [] (λi j h=>by simp at h) (λk o hk=>by simpa using hk);refine ZT hT fj (ZE fj bH) (τ:=τ) (λj o ho=>h3 j o (kc _) ho) (λa' w' S' γ' cU ej=>hn _ a' w' S' γ' cU ej h2) ops.size _ (by simp) (by simp) (hR.drawn _) hc ?_
  exact⟨λj o _ hj=>by rw[mq]at hj;simp at hj,λj o t _ _ hj=>by rw[mq]at hj;simp at hj,λt _=>by rw[h1],
   λj k _ _ hj=>by rw[mq]at hj;simp at hj,λk _=>by rw[h1]⟩
 .simp at h
end
def FR(ro:Option Nat):Fence:={ Fence.wide with round:=ro }
theorem Qx(ro:Option Nat)(n:Nat):(FR ro).room n:=λd h=>by simp[FR,Fence.wide]at h
section
variable{P:Program}{ro:Option Nat}{n:Nat}
theorem ZV{f:FuncId}{args:Array Value}{w:World}{R:Ending->World->Prop}(h:Calls P f args w R):CallsIn (FR ro) n P f args w R:=(callsIn_wide (n:=n)).2 h
theorem ZW{f:FuncId}{args:Array Value}{w:World}{R:Ending->World->Prop}(h:CallsIn (FR ro) n P f args w R):Calls P f args w R:=(callsIn_wide (n:=n)).1 h
theorem ZX{m:Nat}{c:Code}{Q:Exit->Go.Act->World->Prop}{a:Go.Act}{w:World}(h:c.wpIn (FR ro) n P Q a w):c.wpIn (FR ro) m P Q a w:=
 λb k cs gx hb hr=>h b k cs gx hb (Qx _ _)
theorem ZY{row:String}{args:Array Value}{w:World}{R:Value->World->Prop}(h:Rows P row args w R):RowsIn (FR ro) n P row args w R:=
 λc cs _=>let ⟨v,w',r,s⟩:=h c cs;⟨v,w',r,stepsIn_wide.2 s⟩
theorem Fx{o:Oper}(hp:ro=none\/∀c,o.op ≠ .defer c){a:Go.Act}{w:World}{K K':Go.Act->World->Prop}{Q:Exit->Go.Act->World->Prop}(hK:∀a w,K a w->K' a w)
  (h:o.wp P a w K Q):o.wpIn (FR ro) n P a w K' Q:=by
 refine⟨λ_ _=>trivial,?_⟩
 have e:o.semAt (FR ro).round a.eval=execOp a.eval o:=by
  rcases hp with rfl|hp
  .rfl
  .exact Oper.semAt_eq _ _ _ hp
 rw[e];unfold Oper.wp at h;revert h;cases (execOp a.eval o).run P w with
 |ok x w'=>
  cases x with
  |value v=>intro h;exact hK _ _ h
  |skip=>intro h;exact hK _ _ h
  |defer d=>intro h;exact hK _ _ h
  |enter f args=>
   intro h;refine⟨λhd=>by simp[FR,Fence.wide]at hd,ZV (Calls.mono h λe wj he=>?_)⟩;cases e with
   |returned v=>exact hK _ _ he
   |panicked c=>exact he
   |outgrown=>exact he
  |row r args=>intro h;exact⟨λhd=>by simp[FR,Fence.wide]at hd,ZY (Rows.mono h λv wj he=>hK _ _ he)⟩
  |round l f tmps x y=>intro h;exact h.elim
  |_=>intro h;exact h.elim
 |halt x w'=>cases x<;>intro h<;>exact h
theorem CP{ops:Array Oper}{Q:Exit->Go.Act->World->Prop}(hp:ro=none\/∀o∈ops.toList,∀c,o.op ≠ .defer c)(dI:¬LetsOut Q):∀(l:List Nat)(a:Go.Act)(w:World),wpOps P ops Q l a w->wpOpsIn (FR ro) n P ops Q l a w
 |[],a,w,h=>h
 |i::r,a,w,h=>by
  simp only[wpOps]at h;simp only[wpOpsIn];cases ho:ops[i]? with
  |none=>simp only[ho]at h ⊢;exact CP hp dI r a w h
  |some o=>
   simp only[ho]at h ⊢;split
   .rename_i hw;simp only[hw,if_true]at h;rcases h with h|⟨_,h⟩
    .refine Fx (hp.imp id λhh=>hh o ?_) (λa w=>CP hp dI r a w) h;obtain⟨an,rfl⟩:=jk.1 ho;exact Array.mem_toList_iff.2 (Array.getElem_mem an)
    .exact absurd h dI
   .rename_i hw;simp only[hw]at h;exact⟨λ_ _=>trivial,CP hp dI r _ w h⟩
theorem Fy{md:Region.Mode}{ops:Array Oper}{Q:Exit->Go.Act->World->Prop}(hp:ro=none\/∀o∈ops.toList,∀c,o.op ≠ .defer c)(dI:¬LetsOut Q) :
  ∀(fuel:Nat)(al:Array Bool)(a:Go.Act)(w:World),wpAny P md ops Q fuel al a w->wpAnyIn (FR ro) n P md ops Q fuel al a w
 |0,_,_,_,h=>h
 |fuel+1,al,a,w,h=>by
  refine⟨h.1,λi hi=>?_⟩;have h2:=h.2 i hi;unfold wpOp at h2;unfold wpOpIn;cases ho:ops[i]? with
  |none=>simp only[ho]at h2 ⊢;exact Fy hp dI fuel _ a w h2
  |some o=>
   simp only[ho]at h2 ⊢;split
   .rename_i hw;simp only[hw,if_true]at h2;rcases h2 with h2|⟨_,h2⟩
    .refine Fx (hp.imp id λhh=>hh o ?_) (λa w=>Fy hp dI fuel _ a w) h2;obtain⟨an,rfl⟩:=jk.1 ho;exact Array.mem_toList_iff.2 (Array.getElem_mem an)
    .exact absurd h2 dI
   .rename_i hw;simp only[hw]at h2;exact⟨λ_ _=>trivial,Fy hp dI fuel _ _ w h2⟩
end
section
variable{N:NT}{np:Nat}{S0:aD}{w0:World}{refs:Refs}{σ:St}{a:Go.Act}{w:World}{S:aD}{γ:Nat->Value}
theorem Rel.allocO(hR:Rel N np S0 w0 refs σ a w S γ)(o:Obj):Rel N np S0 w0 refs σ a (w.alloc o) S γ:=
 Rel.step (bx':=σ.bx) (γ':=γ) hR (zJ hR o) (.refl _ _) (λk b hb=>ei.keep (zJ hR o) (.refl _ _) rfl (λg hg=>⟨heap_alloc_old w o (lY (hR.box k b hb) hg),λ_=>Iff.rfl⟩) (hR.box k b hb))
  hR.own hR.apart hR.new (λg i h=>by have:=hR.here g i h;simp;omega) (λg hg hr=>(heap_alloc_old w o (qj hg hR.grow)).trans (hR.below g hg hr)) (by have:=hR.grow;simp;omega) hR.os hR.tape hR.output
  (λg hg _ h=>⟨heap_alloc_old w o hg,h⟩)
structure Grew(w w':World):Prop where
 old:∀g,g<w.heap.size->w'.heap[g]? = w.heap[g]?
 size:w.heap.size<=w'.heap.size
 os:w'.os=w.os
 tape:w'.tape=w.tape
 output:w'.output=w.output
structure zV(S:aD)(w:World)(S':aD)(w':World):Prop where
 sub:∀g o,S g o->S' g o
 new:∀g o,S' g o->S g o\/w.heap.size<=g
 here:∀g o,S' g o->g<w'.heap.size
theorem Rel.grew(hR:Rel N np S0 w0 refs σ a w S γ){S':aD}{w':World}(h:Grew w w')(hs:zV S w S' w'):Rel N np S0 w0 refs σ a w' S' γ:=
 have aB:cW S w S' w':=λg o hg=>⟨hs.sub g o hg,World.cell?_of_block (h.old g (hR.here g o hg))⟩
 Rel.step (bx':=σ.bx) (γ':=γ) hR aB (.refl _ _) (λk b hb=>ei.keep aB (.refl _ _) rfl (λg hg=>
   have hl:=lY (hR.box k b hb) hg
   ⟨h.old g hl,λo=>⟨λh1=>(hs.new g o h1).resolve_right (by omega),hs.sub g o⟩⟩) (hR.box k b hb))
  hR.own hR.apart (λg o h1=>(hs.new g o h1).elim (hR.new g o) λh2=> .inr (qg hR.grow h2)) hs.here (λg hg hr=>(h.old g (qj hg hR.grow)).trans (hR.below g hg hr)) (qg hR.grow h.size) (h.os.trans hR.os) (h.tape.trans hR.tape) (h.output.trans hR.output)
  (λg hg _ hn=>⟨h.old g hg,hn⟩)
theorem Rel.swap(hR:Rel N np S0 w0 refs σ a w S γ){N':NT}{refs':Refs}{a':Go.Act}(hb:refs'.blks=refs.blks)(hv:refs'.val=refs.val)(bX:a'.tmps.size=N'.n)(zW:a'.defers=refs'.ds)
  (pR:∀i,gz S w γ σ.bx (tm a') (σ.sl i) (tm a' i))(hk:∀g o,refs'.kw g=some o->w.heap[g]? = some o/\∀k b,σ.bx k = .live b->blk (γ k)≠some g)
  (hf:∀i v,refs'.fix i=some v->N'.pin i=true/\a'.tmps.getD i undef=v):Rel N' np S0 w0 refs' σ a' w S γ:=
 have hm:∀g,g∈refs'↔g∈refs:=λg=>by show g∈refs'.blks↔g∈refs.blks;rw[hb]
 ⟨bX,zW,pR,hR.box,λk b g h h'=>(hR.own k b g h h').imp id λh=>⟨(hm g).2 h.1,h.2⟩,hR.apart,hR.ext,hR.new,hR.here,λg h h'=>hR.below g h λh2=>h' ((hm g).2 h2),
  hR.grow,hR.os,hR.tape,hR.output,λk v h=>hR.par k v (hv▸h),hk,hf⟩
theorem Qy{g o:Nat}{x:Obj}(h:w.heap[g]? = some x)(hc:x.isCells=false):w.cell? ⟨g,o,none⟩=none:=by
 unfold World.cell?;simp only[h];cases x<;>first|rfl|(simp[Obj.isCells]at hc)
theorem Rel.putO(hR:Rel N np S0 w0 refs σ a w S γ){l:Nat}{o o':Obj}(hk:refs.kw l=some o)(hl:w0.heap.size<=l)(hc:o.isCells=false)(ej:o'.isCells=false) :
  Rel N np S0 w0 { refs with kw:=λg=>if g=l then some o' else refs.kw g } σ a (w.putObj l o') S γ:=by
 obtain⟨hw,dI⟩:=hR.kept l o hk;have an:=(jk.1 hw).1
 have aB:cW S w S (w.putObj l o'):=λg i h=>⟨h,by
  by_cases hg:g=l
  .subst hg;rw[Qy hw hc,Qy (World.putObj_heap_same an) ej]
  .exact World.cell?_of_block (World.putObj_heap_other hg)⟩
 have bu:Rel N np S0 w0 { refs with kw:=λg=>if g=l then none else refs.kw g } σ a w S γ:=
  Rel.swap hR rfl rfl hR.size hR.defers hR.slot (λg x h=>by
   simp only at h;split at h
   .simp at h
   .exact hR.kept g x h) hR.fix
 have cO:Rel N np S0 w0 { refs with kw:=λg=>if g=l then none else refs.kw g } σ a (w.putObj l o') S γ:=
  Rel.step (bx':=σ.bx) (γ':=γ) bu aB (.refl _ _) (λk b hb=>ei.keep aB (.refl _ _) rfl (λg hg=>⟨World.putObj_heap_other (λe=>dI k b hb (e▸hg)),λ_=>Iff.rfl⟩) (hR.box k b hb))
   bu.own bu.apart bu.new (λg i h=>by simpa using hR.here g i h) (λg hg hr=>(World.putObj_heap_other (by omega)).trans (bu.below g hg hr)) (by simpa using hR.grow) hR.os hR.tape hR.output
   (λg _ zK h=>⟨World.putObj_heap_other (λe=>by subst e;simp at zK),h⟩)
 refine Rel.swap cO rfl rfl cO.size cO.defers cO.slot (λg x h=>?_) cO.fix;simp only at h;split at h
 .rename_i e;subst e;simp only[j4]at h;subst h;exact⟨World.putObj_heap_same an,dI⟩
 .rename_i e;have h1:=hR.kept g x h;exact⟨(World.putObj_heap_other e).trans h1.1,h1.2⟩
theorem ZZ(np:Nat)(K:Keep)(s:Snap)(i:Nat):(∃c,(cR np K s).sl i = .one c)/\(i∉K.slots->(cR np K s).sl i = .one (.one .dead)):=by
 have eU:(cR np K s).sl i=match K.slots.idxOf? i with
  |some j=>wg s[j]?
  |none=> .one (.one .dead):=rfl
 rw[eU];cases hq:K.slots.idxOf? i with
 |none=>exact⟨⟨_,rfl⟩,λ_=>rfl⟩
 |some j=>refine⟨?_,λh=>absurd (k9 (oM hq)) h⟩;simp only;unfold wg;split<;>exact⟨_,rfl⟩
theorem Rel.frame{K:Keep}{s:Snap}(hR:Rel N np S0 w0 refs (cR np K s) a w S γ){N':NT}{refs':Refs}{a':Go.Act}(hb:refs'.blks=refs.blks)(hv:refs'.val=refs.val)(bX:a'.tmps.size=N'.n)(zW:a'.defers=refs'.ds)
  (eU:∀i∈K.slots,tm a' i=tm a i)(hk:∀g o,refs'.kw g=some o->w.heap[g]? = some o/\∀k b,(cR np K s).bx k = .live b->blk (γ k)≠some g)
  (hf:∀i v,refs'.fix i=some v->N'.pin i=true/\a'.tmps.getD i undef=v):Rel N' np S0 w0 refs' (cR np K s) a' w S γ:=by
 refine hR.swap hb hv bX zW (λi=>?_) hk hf;obtain⟨⟨c,hc⟩,hd⟩:=ZZ np K s i;by_cases hi:i∈K.slots
 .have:=hR.slot i;rw[hc]at this ⊢;rw[eU i hi];exact this
 .rw[hd hi];exact⟨trivial,λh=>absurd rfl h⟩
end
section
variable{P:Program}{F:Fence}{n:Nat}{b:Frame}{a:Go.Act}{k:List Go.Item}{cs:List Frame}{w:World}{Q:Exit->Go.Act->World->Prop}
theorem zX{c:Code}:step P (lone (b.atR a (.code (.scope c)::k)) cs w) = .next (lone (b.atR a (.code c :: .inScope c::k)) cs w):=
 step_lone_go (by simp[stepG,stepG.exec,Frame.atR])
theorem Z0{c:Code}:step P (lone (b.atR a (.inScope c::k)) cs w) = .next (lone (b.atR a k) cs w):=
 step_lone_go (by simp[stepG,stepG.exec,Frame.atR])
theorem Z1{c:Code}(Z2:∀l a w,¬Q (.goto l) a w)(h:c.wpIn F n P Q a w):(Code.scope c).wpIn F n P Q a w:=by
 intro b k cs gx hb hr;have h0:(lone (b.atR a (.code (.scope c)::k)) cs w).fenced P F:=fenced_calm hb hr rfl;obtain⟨e,a₁,w₁,hq,nO⟩:=h b (.inScope c::k) cs gx hb hr;cases e with
 |normal=>exact⟨.normal,a₁,w₁,hq,.head h0 zX (StepsIn.trans nO (.one (fenced_calm hb hr rfl) Z0))⟩
 |exit id=>
  have hx:exitTo id (.inScope c::k)=exitTo id k:=by simp[exitTo]
  exact⟨_,a₁,w₁,hq,λk' hk=> .head h0 zX (nO.1 k' (by rw[hx];exact hk)),
   λsy hk=>let ⟨k₁,h1,h2⟩:=nO.2 sy (by rw[hx];exact hk);⟨k₁,h1,.head h0 zX h2⟩⟩
 |goto l=>exact absurd hq (Z2 l a₁ w₁)
 |ret=>exact⟨_,a₁,w₁,hq,.of_steps (.one h0 zX) nO⟩
 |panic ch=>exact⟨_,a₁,w₁,hq,.of_steps (.one h0 zX) nO⟩
 |outgrown=>exact⟨_,a₁,w₁,hq,.of_steps (.one h0 zX) nO⟩
end
section
variable{N:NT}{np:Nat}{S0:aD}{w0:World}{refs:Refs}{σ:St}{a:Go.Act}{w:World}{S:aD}{γ:Nat->Value}
def exOf:Ex->Exit
 |.normal=> .normal
 |.exit i=> .exit i
 |.ret=> .ret
def fM:Nat->Code->List (Nat×Code)
 |b,.seq x y=>fM b x++fM b y
 |b,.cond _ x y=>fM b x++fM b y
 |_,.block id c=>fM id c
 |b,.loop c=>(b,c)::fM b c
 |b,.rangeFunc g ps x y=>[(b,.rangeFunc g ps x y)]
 |b,.scope c=>fM b c
 |_,_=>[]
def CQ(E:Env)(b:Nat)(c:Code):Prop:=
 ∀(s:Snap)(R:Type)(k:Ex->Snap->Option R)(r:R),E.L b s R k=some r->∃n e s',loopN (Hu E b c) n s=some (e,s')/\k e s'=some r
theorem oQ(p:Nat->Prop):∀n,p n->∃m,p m/\∀j,p j->m<=j:=by
 intro n;induction n using Nat.strongRecOn with
 |_ n ih=>
  intro h;by_cases hj:∃j,j<n/\p j
  .obtain⟨j,hj,hp⟩:=hj;exact ih j hj hp
  .exact⟨n,h,λj hp=>Nat.le_of_not_lt λhl=>hj ⟨j,hl,hp⟩⟩
open Classical in
noncomputable def Fz(p:Nat->Prop):Nat:=if h:∃n,p n then (oQ p h.choose h.choose_spec).choose else 0
theorem Qz{p:Nat->Prop}{n:Nat}(h:p n):p (Fz p)/\Fz p<=n:=by
 unfold Fz;have hx:∃n,p n:=⟨n,h⟩;rw[dif_pos hx];exact⟨(oQ p hx.choose hx.choose_spec).choose_spec.1,(oQ p hx.choose hx.choose_spec).choose_spec.2 n h⟩
theorem Z3{P:Program}{F:Fence}{n0:Nat}{Q:Exit->Go.Act->World->Prop}{c:Code}(I:Nat->Go.Act->World->Prop){n:Nat}(h₀:I n a w)
  (round:∀n a w,I n a w->c.wpIn F n0 P (Exit.then (λa' w'=>∃m,m<n/\I m a' w') Q) a w):(Code.loop c).wpIn F n0 P Q a w:=by
 refine wpIn_loop (λa w=>∃n,I n a w) (λa w=>Fz λn=>I n a w) ⟨n,h₀⟩ (λa w hI=>?_);obtain⟨m,hm⟩:=hI;have hl:=(Qz (p:=λn=>I n a w) hm).1;refine wpIn_mono (round _ a w hl) (λe a' w' h=>?_);cases e with
 |normal=>obtain⟨m',an,rK⟩:=h;exact⟨⟨m',rK⟩,Nat.lt_of_le_of_lt (Qz (p:=λn=>I n a' w') rK).2 an⟩
 |_=>exact h
def CR(w0:World)(refs:Refs):Prop:=
 refs.ds.Nodup/\∀d∈refs.ds,∃D,d={ target:= .collected D,args:=#[] }/\w0.heap.size<=D/\refs.kw D=some (.deferred (some []))
structure xk(w0:World)(refs refs':Refs):Prop where
 blks:refs'.blks=refs.blks
 val:refs'.val=refs.val
 fix:refs'.fix=refs.fix
 marks:CR w0 refs'
theorem xk.trans{r r' QA:Refs}(h:xk w0 r r')(h':xk w0 r' QA):xk w0 r QA:=⟨h'.blks.trans h.blks,h'.val.trans h.val,h'.fix.trans h.fix,h'.marks⟩
def Post(E:Env)(S0:aD)(w0:World)(refs:Refs)(pl:Bool){R:Type}(k:Ex->St->Option R)(r:R):Exit->Go.Act->World->Prop:=
 λe a' w'=>∃refs' ex σ' S' γ',xk w0 refs refs'/\(pl=true->refs'=refs)/\exOf ex=e/\Rel E.N E.np S0 w0 refs' σ' a' w' S' γ'/\dK σ'/\k ex σ'=some r
theorem QB{E:Env}{pl:Bool}{R:Type}{k:Ex->St->Option R}{r:R}:¬LetsOut (Post E S0 w0 refs pl k r):=by
 rintro⟨a,w,refs',ex,_,_,_,_,_,he,_⟩
 cases ex<;>simp[exOf]at he
def BwOK(P:Program)(f:Nat)(t:Ty):Prop:=
 Fun P f/\∀(cv:Array Value)(m l:Nat)(J:Nat->aD->World->Prop)(Jx:World->Prop)(W:World)(S:aD),
  (∀j S W S' W',Grew W W'->zV S W S' W'->J j S W->J j S' W')->(∀W W',Grew W W'->Jx W->Jx W')->(∀j S W,J j S W->∀g o,S g o->g<W.heap.size)->
  (∀j S W,j<m->J j S W->∃xs:List t.den,All2 (h9 S W) [.p [⟨.list t,xs⟩]] cv.toList/\m-1-j<xs.length/\∀S' W' x v,Grew W W'->zV S W S' W'->xs[m-1-j]? = some x->VRep S' W' ⟨t,x⟩ v->
   YieldAt (FR none) 0 P l #[.int .i64 ((m-1-j:Nat):Int),v] W' λe W'=>(e = .returned (.bool true)/\∃S',J (j+1) S' W')\/(e = .returned (.bool false)/\Jx W'))->
  (∃(S':aD)(xs:List t.den),xs.length=m/\(∀g o,S' g o->g<W.heap.size)/\All2 (h9 S' W) [.p [⟨.list t,xs⟩]] cv.toList)->J 0 S W->
  CallsIn (FR none) 0 P f (#[.func (.yield l) #[] #[]]++cv) W λe W'=>(∃v,e = .returned v)/\((∃S',J m S' W')\/Jx W')
def ItOK(P:Program)(f:Nat)(kd:Bool)(t:Ty):Prop:=
 Fun P f/\∀(cv:Array Value)(l:Nat)(J:Int->aD->World->Prop)(Je Jx:World->Prop)(W:World)(S:aD)(fT:List t.den),
  (∀c S W S' W',Grew W W'->zV S W S' W'->J c S W->J c S' W')->(∀W W',Grew W W'->Je W->Je W')->(∀W W',Grew W W'->Jx W->Jx W')->(∀c S W,J c S W->∀g o,S g o->g<W.heap.size)->
  (∀c S W,J c S W->∃xs:List t.den,All2 (h9 S W) [.p [⟨.list t,xs⟩]] cv.toList/\(Ht kd xs.length c=true->Je W)/\
   (Ht kd xs.length c=false->itOk kd xs.length c=true/\∀S' W' vs,Grew W W'->zV S W S' W'->All2 (VRep S' W') (BF kd t xs c) vs->
    YieldAt (FR none) 0 P l vs.toArray W' λe W'=>(e = .returned (.bool true)/\∃S',J (BE kd c) S' W')\/(e = .returned (.bool false)/\Jx W')))->
  (∃S',(∀g o,S' g o->g<W.heap.size)/\All2 (h9 S' W) [.p [⟨.list t,fT⟩]] cv.toList)->J (BD kd fT.length) S W->
  CallsIn (FR none) 0 P f (#[.func (.yield l) #[] #[]]++cv) W λe W'=>(∃v,e = .returned v)/\(Je W'\/Jx W')
theorem Z4{P:Program}{f:Nat}{t:Ty}(h:BwOK P f t):ItOK P f false t:=by
 refine⟨h.1,λcv l J Je Jx W S fT aB hse Z5 hh hY cL zY=>?_⟩;obtain⟨S',sT,ej⟩:=cL;refine CallsIn.mono (h.2 cv fT.length l (λj S W=>j<=fT.length/\J ((fT.length:Int)-j) S W) Jx W S (λj S W S' W' hg hs hj=>⟨hj.1,aB _ _ _ _ _ hg hs hj.2⟩) Z5 (λj S W hj=>hh _ _ _ hj.2) ?_ ⟨S',fT,rfl,sT,ej⟩ ⟨kc _,?_⟩) ?_
 .rintro j S W hj ⟨_,hJ⟩
  obtain⟨xs,h1,_,h3⟩:=hY _ _ _ hJ;obtain⟨h4,h5⟩:=h3 (by show decide _=false;exact decide_eq_false (by omega));have h4:(fT.length:Int)-j<=Int.ofNat xs.length:=kz h4;have h4:(fT.length:Int)-j<=(xs.length:Int):=h4;refine⟨xs,h1,by omega,λS' W' x v hg hs hx hv=>?_⟩
  have IQ:All2 (VRep S' W') (BF false t xs ((fT.length:Int)-j)) [.int .i64 ((fT.length-1-j:Nat):Int),v]:=by
   refine⟨⟨?_,λhm=>absurd hm (show¬gG (.int .i64)=true by decide),λ_=>rfl⟩,?_,trivial⟩
   .show [Value.int .i64 ((fT.length-1-j:Nat):Int)]=[Value.int .i64 ((fT.length:Int)-j-1)];rw[show ((fT.length-1-j:Nat):Int)=(fT.length:Int)-j-1 by omega]
   .have e:List.getD xs ((fT.length:Int)-j-1).toNat t.dflt=x:=by rw[show ((fT.length:Int)-j-1).toNat=fT.length-1-j by omega];simp[List.getD,hx]
    rw[e];exact hv
  obtain⟨fn,tmps,as,bo,hy,hR⟩:=h5 S' W' _ hg hs IQ;refine⟨fn,tmps,as,bo,hy,hR.mono λe W' he=>?_⟩;rcases he with⟨h6,S6,h7⟩|h6
  .refine .inl ⟨h6,S6,by omega,?_⟩;have e2:BE false ((fT.length:Int)-j)=(fT.length:Int)-((j+1:Nat):Int):=by show (fT.length:Int)-j-1=_;omega
   rw[<-e2];exact h7
  .exact .inr h6
 .have:((fT.length:Int)-((0:Nat):Int))=BD false fT.length:=by show _=Int.ofNat fT.length;simp
  rw[this];exact zY
 .rintro e W' ⟨hv,⟨S',_,hJ⟩|hx⟩
  .obtain⟨xs,_,h2,_⟩:=hY _ _ _ hJ;exact⟨hv,.inl (h2 (by show decide _=true;exact v6 (by omega)))⟩
  .exact⟨hv,.inr hx⟩
def IU(P:Program)(E:Env)(ro:Option Nat)(c:Code):Prop:=
 ∀(b n:Nat){S0:aD}{w0:World}{refs:Refs}{σ:St}{a:Go.Act}{w:World}{S:aD}{γ:Nat->Value}{R:Type}{k:Ex->St->Option R}{r:R},CR w0 refs->
  (∀x∈fM b c,CQ E x.1 x.2)->Rel E.N E.np S0 w0 refs σ a w S γ->dK σ->fh E b c σ k=some r->c.wpIn (FR ro) n P (Post E S0 w0 refs (dt c) k r) a w
theorem uW:∀(c:Code)(b:Nat),dt c=true->fM b c=[]
 |.seq x y,b,h=>by simp only[dt,jb]at h;simp[fM,uW x b h.1,uW y b h.2]
 |.cond _ x y,b,h=>by simp only[dt,jb]at h;simp[fM,uW x b h.1,uW y b h.2]
 |.block id c,b,h=>by simp only[dt]at h;simp[fM,uW c id h]
 |.loop c,b,h=>by simp[dt]at h
 |.rangeFunc _ _ _ _,b,h=>by simp[dt]at h
 |.skip,_,_=>rfl
 |.region _ _ _,_,_=>rfl
 |.exit _,_,_=>rfl
 |.goto _,_,_=>rfl
 |.label _,_,_=>rfl
 |.ret,_,_=>rfl
 |.scope c,b,h=>by simp only[dt]at h;simp[fM,uW c b h]
theorem QC:∀(L:List (Nat×Value))(T:Array Value),oF (L.map (·.1))=true->(∀q∈L,q.1<T.size)->
  (∀q∈L,(L.foldl (λt (q:Nat×Value)=>t.setIfInBounds q.1 q.2) T).getD q.1 undef=q.2)/\(∀i,i∉L.map (·.1)->(L.foldl (λt (q:Nat×Value)=>t.setIfInBounds q.1 q.2) T).getD i undef=T.getD i undef)/\
  (L.foldl (λt (q:Nat×Value)=>t.setIfInBounds q.1 q.2) T).size=T.size
 |[],T,_,_=>⟨λq h=>by simp at h,λ_ _=>rfl,rfl⟩
 |q::r,T,hn,hb=>by
  simp only[kr,oF,jb,qa,qb,kp]at hn;obtain⟨h1,h2,h3⟩:=QC r (T.setIfInBounds q.1 q.2) hn.2 (λp hp=>by simpa using hb p (by simp[hp]));have hq:=hb q (by simp);refine⟨λp hp=>?_,λi hi=>?_,by simpa using h3⟩
  .rcases je.1 hp with rfl|hp
   .show (List.foldl (λt (q:Nat×Value)=>t.setIfInBounds q.1 q.2) (T.setIfInBounds p.1 p.2) r).getD p.1 undef=_;rw[h2 p.1 hn.1];simp[Array.getD,hq]
   .exact h1 p hp
  .simp only[kr,je,not_or]at hi;show (List.foldl (λt (q:Nat×Value)=>t.setIfInBounds q.1 q.2) (T.setIfInBounds q.1 q.2) r).getD i undef=_;rw[h2 i hi.2];rw[qw,Array.getElem?_setIfInBounds,if_neg (λh=>hi.1 h.symm),<-qw]
theorem QD{N:NT}{np:Nat}:∀(L:List (Nat×TV)){σ:St},Rel N np S0 w0 refs σ a w S γ->dK σ->(∀q∈L,VRep S w q.2 (tm a q.1))->Rel N np S0 w0 refs (setL L σ) a w S γ/\dK (setL L σ)
 |[],_,hR,hc,_=>⟨hR,hc⟩
 |q::r,σ,hR,hc,hv=>by
  have h1:=Iv hR (s:=q.1) (x:= .one (ow q.2.t q.2.v)) (zN (hv q (by simp)));refine QD r h1 (λi=>?_) (λp hp=>hv p (by simp[hp]));simp only[St.setS];split
  .rfl
  .exact hc i
theorem QE{S:aD}{w:World}:∀{ps:List Nat}{xs:List TV}{vs:List Value},All2 (VRep S w) xs vs->∀q∈ps.zip xs,∃v,(q.1,v)∈ps.zip vs/\VRep S w q.2 v
 |[],_,_,_,q,h=>by simp at h
 |p::ps,[],vs,_,q,h=>by simp at h
 |p::ps,x::xs,[],h2,q,h=>h2.elim
 |p::ps,x::xs,v::vs,h2,q,h=>by
  simp only[List.zip_cons_cons,je]at h;rcases h with rfl|h
  .exact⟨v,by simp,h2.1⟩
  .obtain⟨u,h3,h4⟩:=QE h2.2 q h;exact⟨u,by simp[h3],h4⟩
theorem QF:∀(ps:List Nat)(vs:List Value),oF ps=true->oF ((ps.zip vs).map (·.1))=true
 |[],_,_=>by simp[oF]
 |p::ps,[],_=>by simp[oF]
 |p::ps,v::vs,h=>by
  simp only[oF,jb,qa,qb,kp,List.zip_cons_cons,kr]at h ⊢;refine⟨λhm=>h.1 ?_,QF ps vs h.2⟩;obtain⟨q,hq,he⟩:=jt.1 hm;rw[<-he];exact(List.of_mem_zip hq).1
theorem Z6{kd:Bool}{t:Ty}{xs:List t.den}{c:Int}(h:kd=true->t=segT):(BF kd t xs c).length=cond kd 1 2:=by
 cases kd with
 |false=>rfl
 |true=>have:=h rfl;subst this;rfl
theorem Z7{P:Program}{E:Env}(sU:∀f t,E.bw f=some t->ItOK P f t.1 t.2)(pS:E.N.pin=λ_=>false){b n:Nat}{g:Operand}{ps:Array Nat}{x y:Code}
  (pT:∀l,dt x=true->IU P (E.rnd ps x y) (some l) x)(pU:∀l,dt y=true->IU P (E.rnd ps x y) (some l) y)
  (Z8:CQ E b (.rangeFunc g ps x y)){R:Type}{k:Ex->St->Option R}{r:R}(hm:CR w0 refs)(hR:Rel E.N E.np S0 w0 refs σ a w S γ)(hc:dK σ)
  (h:fh E b (.rangeFunc g ps x y) σ k=some r) :
  (Code.rangeFunc g ps x y).wpIn (FR none) n P (Post E S0 w0 refs (dt (.rangeFunc g ps x y)) k r) a w:=by
 refine ZX (n:=1) ?_;simp only[fh]at h;split at h
 case h_2=>simp at h
 rename_i f t xs oP;split at h
 case h_2=>simp at h
 rename_i kd bH;split at h
 case h_2=>simp at h
 rename_i s hs;obtain⟨Z9,e,s',pV,hk⟩:=Z8 _ R _ r h;have bq:=po hR g;rw[oP]at bq;obtain⟨⟨cv,QG,rE⟩,_⟩:=bq;obtain⟨S1,γ1,bu,gu⟩:=uR hR hc hs
 have parts:∀f t kd,rfK E b f t ps x y=some kd->E.bw f=some (kd,t)/\(kd=true->t=segT)/\ps.toList.length=cond kd 1 2/\oF ps.toList=true/\(∀p∈ps.toList,p<E.N.n)/\dt x=true/\dt y=true/\pinK ps x y (E.keep b)=true:=by
  intro f t kd bH;unfold rfK at bH;split at bH
  case h_2=>simp at bH
  rename_i q hq;cases pW:(decide (q.2=t)&&(cond q.1 (decide (t=segT)) true&&(decide (ps.toList.length=cond q.1 1 2)&&(oF ps.toList&&(ps.toList.all (λp=>decide (p<E.N.n))&&(dt x&&(dt y&&pinK ps x y (E.keep b)))))))) with
  |false=>rw[pW]at bH;simp at bH
  |true=>
  rw[pW,j5,j4]at bH;subst bH;simp only[jb,jo,k5]at pW;obtain⟨h1,h0,h2,h3,h4,h5,h6,h7⟩:=pW;exact⟨by rw[hq,<-h1],λhk=>by rw[hk]at h0;exact kz h0,h2,h3,h4,h5,h6,h7⟩
 obtain⟨QH,hsg,h2,dJ,an,sV,sW,QI⟩:=parts f t kd bH;obtain⟨⟨QJ,IV,uX,bV⟩,zU⟩:=sU f _ QH
 have heg:∀args w,(callFunc f args).run P w = .ok (.enter f args) w:=λargs w=>by
  have jH:¬QJ.body=none:=λhn=>by rw[hn]at uX;simp at uX
  have uG : ¬ QJ.name = "runtime.NumGoroutine" := by simpa using bV
  simp[callFunc,IV,jH,uG]
 refine wpIn_rangeFunc λfn _=>?_;obtain⟨rec,bM⟩:∃rec:LoopState->Option Code->Loop,rec=λst pe=>{ state:=st,pending:=pe,fn,tmps:=a.tmps,params:=ps,assign:=x,body:=y,defers:=w.heap.size }:=⟨_,rfl⟩;obtain⟨W1,zZ⟩:∃W1,(w.alloc (.deferred (some []))).alloc (.loop (rec .ready none))=W1:=⟨_,rfl⟩
 refine⟨w.heap.size+1,[{ target:= .collected w.heap.size,args:=#[] }],W1,{ target:= .fn (.func f) cv,args:=#[.func (.yield (w.heap.size+1)) #[] #[]] },W1,f,
  #[.func (.yield (w.heap.size+1)) #[] #[]]++cv,W1,?_,?_,λ_ _=>trivial,?_,λhd=>by simp[FR,Fence.wide]at hd,?_⟩
 .rw[<-zZ,bM];exact run_enterLoop_outer _ _ _ _ _
 .simp only[resolve,QG];simp[go_sem]
 .simp[invoke,go_sem,heg]
 obtain⟨l,hl⟩:∃l,l=w.heap.size+1:=⟨_,rfl⟩;rw[<-hl];let bW:(Nat->Option Value)->Obj->Refs:=λfx o=>{ blks:=refs.blks,val:=refs.val,ds:=[],kw:=λg=>if g=l then some o else if g=w.heap.size then some (.deferred (some [])) else refs.kw g,fix:=fx }
 let fx:Nat->Option Value:=λi=>if y8 ps x y i then some (a.tmps.getD i undef) else none
 let aI:Go.Act:={ tmps:=a.tmps,defers:=[] }
 have iW:∀fx o,(bW fx o).kw l=some o:=λfx o=>by simp[bW]
 have kB:w0.heap.size<=l:=by have:=hR.grow;omega
 have bG:∀fx o,CR w0 (bW fx o):=λfx o=>⟨zg,λd hd=>by simp[bW]at hd⟩
 have jY:∀{N:NT}{fx:Nat->Option Value}{o o':Obj}{σ:St}{a:Go.Act}{W:World}{S:aD}{γ:Nat->Value},o.isCells=false->o'.isCells=false->Rel N E.np S0 w0 (bW fx o) σ a W S γ->
   Rel N E.np S0 w0 (bW fx o') σ a (W.putObj l o') S γ:=by
  intro N fx o o' σ a W S γ h1 h2 hR;have:=hR.putO (iW fx o) kB h1 h2;refine this.swap rfl rfl this.size this.defers this.slot (λg u hg=>this.kept g u ?_) this.fix;simp only[bW]at hg ⊢;split
  .rename_i e;subst e;simpa using hg
  .rename_i e;simpa[e]using hg
 have pX:∀{N N':NT}{fx IW:Nat->Option Value}{o:Obj}{K:Keep}{s:Snap}{a a':Go.Act}{W:World}{S:aD}{γ:Nat->Value},Rel N E.np S0 w0 (bW fx o) (cR E.np K s) a W S γ->a'.tmps.size=N'.n->a'.defers=[]->
   (∀i∈K.slots,tm a' i=tm a i)->(∀i v,IW i=some v->N'.pin i=true/\a'.tmps.getD i undef=v)->Rel N' E.np S0 w0 (bW IW o) (cR E.np K s) a' W S γ:=by
  intro N N' fx IW o K s a a' W S γ hR h1 h2 h3 h4;exact hR.frame rfl rfl h1 h2 h3 (λg u hg=>hR.kept g u hg) h4
 have pY:∀i v,(λ_=>none:Nat->Option Value) i=some v->E.N.pin i=true/\aI.tmps.getD i undef=v:=λi v h=>by simp at h
 let J:Int->aD->World->Prop:=λc S W=>∃s γ fu,Rel E.N E.np S0 w0 (bW (λ_=>none) (.loop (rec .ready none))) (cR E.np (E.keep b) s) aI W S γ/\dK (cR E.np (E.keep b) s)/\
  loopN (y9 E b g ps x y) fu (.s (.one (.d (.int .i64) c))::s)=some (e,s')
 let Je:World->Prop:=λW=>∃S γ,Rel E.N E.np S0 w0 (bW (λ_=>none) (.loop (rec .ready none))) (cR E.np (E.keepX b e) s') aI W S γ/\dK (cR E.np (E.keepX b e) s')/\e = .normal
 let Jx:World->Prop:=λW=>∃S γ c,Rel E.N E.np S0 w0 (bW (λ_=>none) (.loop (rec .done (some c)))) (cR E.np (E.keepX b e) s') aI W S γ/\dK (cR E.np (E.keepX b e) s')/\
  ((e = .ret/\c = .ret)\/∃i,e = .exit i/\c = .exit i)
 have uY:∀K:Keep,pinK ps x y K=true->∀i∈K.slots,y8 ps x y i=true:=λK hK i hi=>k5.1 hK i hi;have uZ:∀i,y8 ps x y i=true->i∉ps.toList:=by intro i hi;simp only[y8,jb,qa,qb,kp]at hi;exact hi.1
 have zY:J (BD kd xs.length) S1 W1:=by
  refine⟨s,γ1,Z9,?_,gu,pV⟩;have hA:=(bu.allocO (.deferred (some []))).allocO (.loop (rec .ready none));rw[zZ]at hA;refine hA.frame rfl rfl hR.size rfl (λi _=>rfl) (λg' u aw=>?_) pY;simp only[bW]at aw;split at aw
  .rename_i e';simp only[j4]at aw;subst aw;rw[e',hl];refine⟨?_,λk' b' aM di=>?_⟩
   .rw[<-zZ];have:=World.alloc_heap_new (w.alloc (.deferred (some []))) (.loop (rec .ready none));rwa[World.size_alloc]at this
   .have:=lY (bu.box k' b' aM) di;omega
  .split at aw
   .rename_i _ e';simp only[j4]at aw;subst aw;rw[e'];refine⟨?_,λk' b' aM di=>?_⟩
    .rw[<-zZ];exact(heap_alloc_old _ _ (by simp)).trans (World.alloc_heap_new w _)
    .have:=lY (bu.box k' b' aM) di;omega
   .exact hA.kept g' u aw
 have haI:aI.eval g=a.eval g:=by cases g<;>rfl
 have IX:aI.tmps.size=E.N.n:=hR.size
 have CS:∀{K:Keep}{s:Snap}{o:Obj}{W W':World}{S:aD}{γ:Nat->Value},Grew W W'->Rel E.N E.np S0 w0 (bW (λ_=>none) o) (cR E.np K s) aI W S γ->Rel E.N E.np S0 w0 (bW (λ_=>none) o) (cR E.np K s) aI W' S γ:=
  λhg h1=>h1.grew hg ⟨λ_ _ h=>h,λ_ _ h=> .inl h,λg o h=>qj (h1.here g o h) hg.size⟩
 refine CallsIn.mono (zU cv l J Je Jx W1 S1 xs (λc S W S' W' hg hs ⟨s,γ,fu,h1,h2,h3⟩=>⟨s,γ,fu,h1.grew hg hs,h2,h3⟩) (λW W' hg ⟨S,γ,h1,h2⟩=>⟨S,γ,CS hg h1,h2⟩) (λW W' hg ⟨S,γ,c,h1,h2⟩=>⟨S,γ,c,CS hg h1,h2⟩)
  (λc S W ⟨s,γ,fu,h1,_⟩=>h1.here) ?_ ?_ zY) ?_
 ·-- a round
  rintro cn S W ⟨s,γ,fu,Aa,QK,rL⟩
  cases fu with
  |zero=>simp[loopN]at rL
  |succ fu=>
  simp only[loopN]at rL;cases aB:y9 E b g ps x y (.s (.one (.d (.int .i64) cn))::s) with
  |none=>rw[aB]at rL;simp at rL
  |some r0=>
  rw[aB]at rL;unfold y9 BG at aB;dsimp only at aB;split at aB
  case h_2=>simp at aB
  rename_i f' t' cB IY;split at aB
  case h_2=>simp at aB
  rename_i kd' nM;have jR:=po Aa g;rw[IY,haI,QG]at jR;obtain⟨⟨cv',CT,cL⟩,_⟩:=jR;simp only[Value.func.injEq,Fn.func.injEq,qh]at CT;obtain⟨rfl,rfl⟩:=CT;have ht:=(parts f t' kd' nM).1;rw[QH]at ht;simp only[j4,j8]at ht;obtain⟨rfl,rfl⟩:=ht;refine⟨cB,cL,λIZ=>?_,λIZ=>?_⟩
  .rw[IZ,j5]at aB;cases nP:pinK ps x y (E.keepX b .normal) with
   |false=>rw[nP]at aB;simp at aB
   |true=>
   rw[nP,j5]at aB;split at aB
   case h_2=>simp at aB
   rename_i s3 hs3;simp only[j4]at aB;subst aB;simp only[j4,j8]at rL;obtain⟨rfl,rfl⟩:=rL;obtain⟨S5,γ5,mX,CU⟩:=uR Aa QK hs3;exact⟨S5,γ5,mX,CU,rfl⟩
  rw[IZ,j6]at aB;cases hle:itOk kd cB.length cn with
  |false=>rw[hle]at aB;simp at aB
  |true=>
  rw[hle,j5]at aB;refine⟨rfl,λSg Wg vs hgw hgs l9=>?_⟩;have Aa:=Aa.grew hgw hgs;have sF:vs.toArray.size=ps.size:=by have e1:=l9.length;rw[Z6 hsg]at e1;simp only[zt];rw[<-e1,<-h2,qe]
  refine⟨fn,_,x,y,by have:=run_yield (P:=P) (args:=vs.toArray) (Aa.kept l _ (iW _ _)).1 (by rw[bM];exact sF);rw[bM]at this;exact this,roundIn_of_wpIn trivial ?_⟩;let a1:Go.Act:={ tmps:=(ps.zip vs.toArray).foldl (λt (q:Nat×Value)=>t.setIfInBounds q.1 q.2) a.tmps,defers:=[] }
  have l7:(ps.zip vs.toArray).toList=ps.toList.zip vs:=by simp
  have ha1:a1.tmps=(ps.toList.zip vs).foldl (λt (q:Nat×Value)=>t.setIfInBounds q.1 q.2) a.tmps:=by show (ps.zip vs.toArray).foldl _ _=_;rw[<-Array.foldl_toList,l7]
  have gg:∀i,i∈(ps.toList.zip vs).map (·.1)->i∈ps.toList:=λi hi=>by
   obtain⟨q,hq,rfl⟩:=jt.1 hi;exact(List.of_mem_zip hq).1
  have I0:oF ((ps.toList.zip vs).map (·.1))=true:=QF _ _ dJ;obtain⟨Ff,iB,QL⟩:=QC (ps.toList.zip vs) a.tmps I0 (λq hq=>by rw[hR.size];exact an _ (List.of_mem_zip hq).1);rw[<-ha1]at Ff iB QL;have I1:a1.tmps.size=E.N.n:=QL.trans hR.size;have xf:∀i,i∉ps.toList->tm a1 i=tm aI i:=λi hi=>iB i (λh=>hi (gg i h))
  have hRa:Rel (E.rnd ps x y).N E.np S0 w0 (bW fx (.loop (rec .ready none))) (cR E.np (E.keep b) s) a1 Wg Sg γ:=pX Aa I1 rfl (λi hi=>xf i (uZ i (uY _ QI i hi))) (λi u hu=>by
   simp only[fx]at hu;split at hu
   .rename_i hp;simp only[j4]at hu;refine⟨hp,?_⟩;show tm a1 i=u;rw[xf i (uZ i hp)];exact hu
   .simp at hu)
  obtain⟨hRc,pJ⟩:=QD (ps.toList.zip (BF kd t cB cn)) hRa QK (λq hq=>by
   obtain⟨v,h3,h4⟩:=QE l9 q hq;have:=Ff _ h3;show VRep Sg Wg q.2 (a1.tmps.getD q.1 undef);rw[this];exact h4)
  refine wpIn_mono (pT l sV 0 0 (bG _ _) (by rw[uW x 0 sV];simp) hRc pJ aB) ?_
  rintro e1 a2 w2 ⟨iH,ex,σ2,S2,γ2,_,eY,rfl,cO,lg,gl⟩
  have:=eY sV;subst this;cases ex with
  |exit i=>simp at gl
  |ret=>simp at gl
  |normal=>
  refine⟨_,run_beginRound (cO.kept l _ (iW _ _)).1 (by rw[bM]),?_⟩;have gD:Rel (E.rnd ps x y).N E.np S0 w0 (bW fx (.loop (rec .busy none))) σ2 a2 (w2.putObj l (.loop { rec .ready none with state:= .busy })) S2 γ2:=by have:=jY (o':= .loop (rec .busy none)) rfl rfl cO;rw[bM]at this ⊢;exact this
  refine wpIn_mono (pU l sW 0 0 (bG _ _) (by rw[uW y 0 sW];simp) gD lg gl) ?_
  rintro e1 a3 w3 ⟨QM,ex,σ3,S3,γ3,_,eY,rfl,rM,rN,xl⟩
  have:=eY sW;subst this
  have kC:∀{K:Keep}{s:Snap}{o:Obj}{W:World}{S:aD}{γ:Nat->Value},pinK ps x y K=true->Rel (E.rnd ps x y).N E.np S0 w0 (bW fx o) (cR E.np K s) a3 W S γ->
    Rel E.N E.np S0 w0 (bW (λ_=>none) o) (cR E.np K s) aI W S γ:=λhK hR=>pX hR IX rfl (λi hi=>by
   have:=(hR.fix i (a.tmps.getD i undef) (by simp only[bW,fx];rw[if_pos (uY _ hK i hi)])).2;exact this.symm) pY
  have pZ:∀(ex:Ex)(c:Code),((ex = .ret/\c = .ret)\/∃i,ex = .exit i/\c = .exit i)->
    (cond (pinK ps x y (E.keepX b ex)) (match iM E.np (E.keepX b ex) σ3 with
     |some s'=>some (Sum.inr (ex,s'))
     |none=>none) none:Option (Snap ⊕ Ex×Snap))=some r0->
    ∃v w',(Instr.endRound l (some c)).run P w3 = .ok v w'/\((Ending.returned v = .returned (.bool true)/\∃S',J (BE kd cn) S' w')\/(Ending.returned v = .returned (.bool false)/\Jx w')):=by
   intro ex c hex sX;cases nP:pinK ps x y (E.keepX b ex) with
   |false=>rw[nP]at sX;simp at sX
   |true=>
   rw[nP,j5]at sX;split at sX
   case h_2=>simp at sX
   rename_i s2 nF;simp only[j4]at sX;subst sX;simp only[j4,j8]at rL;obtain⟨rfl,rfl⟩:=rL;obtain⟨S5,γ5,mX,CU⟩:=uR rM rN nF;refine⟨_,_,run_endRound (some c) (mX.kept l _ (iW _ _)).1,.inr ⟨rfl,S5,γ5,c,?_,CU,hex⟩⟩;have:=jY (o':= .loop (rec .done (some c))) rfl rfl (kC nP mX);rw[bM]at this ⊢;exact this
  cases ex with
  |normal=>
   dsimp only at xl
   split at xl
   case h_2=>simp at xl
   rename_i s2 nF;simp only[j4]at xl;subst xl;obtain⟨S5,γ5,mX,CU⟩:=uR rM rN nF;show∃v w',(Instr.endRound l none).run P w3 = .ok v w'/\_;refine⟨_,_,run_endRound none (mX.kept l _ (iW _ _)).1,.inl ⟨rfl,S5,s2,γ5,fu,?_,CU,?_⟩⟩
   .have:=jY (o':= .loop (rec .ready none)) rfl rfl (kC QI mX);rw[bM]at this ⊢;exact this
   .exact rL
  |exit i=>exact pZ _ _ (.inr ⟨i,rfl,rfl⟩) xl
  |ret=>exact pZ _ _ (.inl ⟨rfl,rfl⟩) xl
 .refine⟨S,λg o h=>by rw[<-zZ];have:=hR.here g o h;simp;omega,rE.mono λx z hx=>?_⟩;rw[<-zZ]
  exact h9.keep (λg o h=>⟨h,by
   have:=hR.here g o h;rw[World.cell?_alloc_lt _ _ _ (by simp;omega),World.cell?_alloc_lt _ _ _ this]⟩) hx
 .rintro e2 W2 ⟨⟨v,rfl⟩,dW⟩
  have kC:∀{K:Keep}{s:Snap}{o:Obj}{W:World}{S:aD}{γ:Nat->Value},Rel E.N E.np S0 w0 (bW (λ_=>none) o) (cR E.np K s) aI W S γ->
    ∃refs',xk w0 refs refs'/\Rel E.N E.np S0 w0 refs' (cR E.np K s) { a with defers:=[{ target:= .collected w.heap.size,args:=#[] }]++a.defers } W S γ:=by
   intro K s o W S γ QN;refine⟨{ blks:=refs.blks,val:=refs.val,ds:={ target:= .collected w.heap.size,args:=#[] }::refs.ds,kw:=λg=>if g=w.heap.size then some (.deferred (some [])) else refs.kw g,fix:=refs.fix },⟨rfl,rfl,rfl,?_,?_⟩,?_⟩
   .refine qp.2 ⟨λiF=>?_,hm.1⟩;obtain⟨D,hD,_,QP⟩:=hm.2 _ iF;simp only[Deferred.mk.injEq,Target.collected.injEq,and_true]at hD;rw[<-hD,hR.kw_new (jj _)]at QP;simp at QP
   .intro d hd;rcases je.1 hd with rfl|hd
    .exact⟨w.heap.size,rfl,hR.grow,by simp⟩
    .obtain⟨D,rfl,h1,h2⟩:=hm.2 d hd;refine⟨D,rfl,h1,?_⟩;show (if D=w.heap.size then _ else refs.kw D)=_;rw[if_neg,h2]
     rintro rfl
     rw[hR.kw_new (jj _)]at h2;simp at h2
   .refine QN.frame rfl rfl hR.size (by rw[hR.defers];rfl) (λi _=>rfl) (λg' u aw=>QN.kept g' u ?_) (λi v hv=>?_)
    .simp only[bW]at aw ⊢;by_cases h1:g'=l
     .exfalso;subst h1;rw[if_neg (by omega),hR.kw_new (by omega)]at aw;simp at aw
     .rw[if_neg h1];exact aw
    .have:=(hR.fix i v hv).1;rw[pS]at this;simp at this
  rcases dW with⟨S2,γ2,sY,hce,rfl⟩|⟨S2,γ2,c,zQ,EX,hex⟩
  .refine⟨none,_,by have:=run_endLoop (P:=P) (sY.kept l _ (iW _ _)).1 (by rw[bM];simp);rw[bM]at this;exact this,?_⟩;have u4:=jY (o':= .loop { rec .ready none with state:= .exhausted }) rfl rfl sY;obtain⟨refs',hle,sY⟩:=kC u4;rw[bM]at sY;exact⟨refs',.normal,_,S2,γ2,hle,λhf=>by simp[dt]at hf,rfl,sY,hce,hk⟩
  .have u4:=jY (o':= .loop { rec .done (some c) with state:= .exhausted }) rfl rfl zQ;obtain⟨refs',hle,sY⟩:=kC u4;refine⟨some c,_,by have:=run_endLoop (P:=P) (zQ.kept l _ (iW _ _)).1 (by rw[bM];simp);rw[bM]at this;exact this,?_⟩;rw[bM]at sY;rcases hex with⟨rfl,rfl⟩|⟨i,rfl,rfl⟩
   .exact wpIn_ret ⟨refs',.ret,_,S2,γ2,hle,λhf=>by simp[dt]at hf,rfl,sY,EX,hk⟩
   .exact wpIn_exit ⟨refs',.exit i,_,S2,γ2,hle,λhf=>by simp[dt]at hf,rfl,sY,EX,hk⟩
theorem jto{P:Program}(iX:P.follows .mixedOrders=true):∀(c:Code){E:Env}{ro:Option Nat},cw P E.T->lG P E.C->CFun E.C->
  (ro=none->(∀f t,E.bw f=some t->ItOK P f t.1 t.2)/\E.N.pin=λ_=>false)->(ro=none\/dt c=true)->IU P E ro c:=by
 intro c;induction c with
 |skip=>intro E ro hT hC hF gx hp b n S0 w0 refs σ a w S γ R k r hm hL hR hc h;exact wpIn_skip ⟨refs,.normal,σ,S,γ,⟨rfl,rfl,rfl,hm⟩,λ_=>rfl,rfl,hR,hc,h⟩
 |label l=>intro E ro hT hC hF gx hp b n S0 w0 refs σ a w S γ R k r hm hL hR hc h;exact wpIn_label ⟨refs,.normal,σ,S,γ,⟨rfl,rfl,rfl,hm⟩,λ_=>rfl,rfl,hR,hc,h⟩
 |region QQ ops draw=>
  intro E ro hT hC hF gx hp b n S0 w0 refs σ a w S γ R k r hm hL hR hc h
  have CV:ro=none\/∀o∈ops.toList,∀c,o.op ≠ .defer c:=hp.imp id λhp o ho c hd=>by
   have:=k5.1 hp o ho;simp[OB,hd]at this
  cases draw with
  |true=>simp only[fh]at h;exact wpIn_region_any iX (Fy CV QB _ _ _ _ (ZU hT hC hF hR hc (λσ' a' w' S' γ' cU ej hk=>⟨refs,.normal,σ',S',γ',⟨rfl,rfl,rfl,hm⟩,λ_=>rfl,rfl,cU,ej,hk⟩) h))
  |false=>simp only[fh]at h;exact wpIn_region (CP CV QB _ _ _ (P2 hT hC hR hc (λσ' a' w' S' γ' cU ej hk=>⟨refs,.normal,σ',S',γ',⟨rfl,rfl,rfl,hm⟩,λ_=>rfl,rfl,cU,ej,hk⟩) h))
 |seq x y pT pU=>
  intro E ro hT hC hF gx hp b n S0 w0 refs σ a w S γ R k r hm hL hR hc h;simp only[fh]at h;have sV:ro=none\/dt x=true:=hp.imp id λh=>by simp only[dt,jb]at h;exact h.1
  have sW:ro=none\/dt y=true:=hp.imp id λh=>by simp only[dt,jb]at h;exact h.2
  refine wpIn_seq (wpIn_mono (pT hT hC hF gx sV b n hm (λz hz=>hL z (by simp[fM,hz])) hR hc h) ?_)
  rintro e a' w' ⟨refs',ex,σ',S',γ',hle,eY,rfl,cU,ej,hk⟩
  have hx:dt (.seq x y)=true->refs'=refs:=λh=>by simp only[dt,jb]at h;exact eY h.1
  cases ex with
  |normal=>
   refine wpIn_mono (pU hT hC hF gx sW b n hle.marks (λz hz=>hL z (by simp[fM,hz])) cU ej hk) ?_
   rintro e2 a2 w2 ⟨iH,ex,σ2,S2,γ2,ic,I2,rfl,cO,lg,gl⟩
   refine⟨iH,ex,σ2,S2,γ2,hle.trans ic,λh=>?_,rfl,cO,lg,gl⟩;have h1:=hx h;simp only[dt,jb]at h;rw[I2 h.2,h1]
  |exit i=>exact⟨refs',.exit i,σ',S',γ',hle,hx,rfl,cU,ej,hk⟩
  |ret=>exact⟨refs',.ret,σ',S',γ',hle,hx,rfl,cU,ej,hk⟩
 |cond c x y pT pU=>
  intro E ro hT hC hF gx hp b n S0 w0 refs σ a w S γ R k r hm hL hR hc h;simp only[fh]at h;have sV:ro=none\/dt x=true:=hp.imp id λh=>by simp only[dt,jb]at h;exact h.1
  have sW:ro=none\/dt y=true:=hp.imp id λh=>by simp only[dt,jb]at h;exact h.2
  split at h
  .rename_i v hv;have oP:=po hR c;rw[hv]at oP;have I3:a.eval c = .bool v:=ru oP;refine wpIn_cond I3 ?_;cases v with
   |true=>
    refine wpIn_mono (pT hT hC hF gx sV b n hm (λz hz=>hL z (by simp[fM,hz])) hR hc h) ?_
    rintro e a' w' ⟨refs',ex,σ',S',γ',hle,eY,he,hr⟩
    exact⟨refs',ex,σ',S',γ',hle,λh=>by simp only[dt,jb]at h;exact eY h.1,he,hr⟩
   |false=>
    refine wpIn_mono (pU hT hC hF gx sW b n hm (λz hz=>hL z (by simp[fM,hz])) hR hc h) ?_
    rintro e a' w' ⟨refs',ex,σ',S',γ',hle,eY,he,hr⟩
    exact⟨refs',ex,σ',S',γ',hle,λh=>by simp only[dt,jb]at h;exact eY h.2,he,hr⟩
  .simp at h
 |block id c ih=>
  intro E ro hT hC hF gx hp b n S0 w0 refs σ a w S γ R k r hm hL hR hc h;simp only[fh]at h;refine wpIn_block (wpIn_mono (ih hT hC hF gx hp id n hm (λz hz=>hL z (by simpa[fM]using hz)) hR hc h) ?_)
  rintro e a' w' ⟨refs',ex,σ',S',γ',hle,eY,rfl,cU,ej,hk⟩
  cases ex with
  |normal=>exact⟨refs',.normal,σ',S',γ',hle,eY,rfl,cU,ej,hk⟩
  |exit i=>
   simp only[exOf,Exit.inBlock];simp only at hk;split
   .rename_i hi;rw[if_pos hi]at hk;exact⟨refs',.normal,σ',S',γ',hle,eY,rfl,cU,ej,hk⟩
   .rename_i hi;rw[if_neg hi]at hk;exact⟨refs',.exit i,σ',S',γ',hle,eY,rfl,cU,ej,hk⟩
  |ret=>exact⟨refs',.ret,σ',S',γ',hle,eY,rfl,cU,ej,hk⟩
 |scope c ih=>intro E ro hT hC hF gx hp b n S0 w0 refs σ a w S γ R k r hm hL hR hc h;simp only[fh]at h;refine Z1 (λl a w hq=>?_) (ih hT hC hF gx hp b n hm (λz hz=>hL z (by simpa[fM]using hz)) hR hc h);obtain⟨_,ex,_,_,_,_,_,he,_⟩:=hq;cases ex<;>simp[exOf]at he
 |loop c ih=>
  intro E ro hT hC hF gx hp b n S0 w0 refs σ a w S γ R k r hm hL hR hc h;have I4:ro=none:=hp.resolve_right (by simp[dt]);simp only[fh]at h;cases I5:isRf c with
  |true=>rw[I5]at h;simp at h
  |false=>
  rw[I5,j6]at h;split at h
  .rename_i s hs;obtain⟨n1,e,s',hn,hk⟩:=hL (b,c) (by simp[fM]) s R _ r h
   have dM:Hu E b c=wh E b c:=by
    funext s
    cases c<;>first|rfl|simp[isRf]at I5
   rw[dM]at hn;obtain⟨S1,γ1,bu,gu⟩:=uR hR hc hs;refine Z3 (λn a w=>∃refs' s S γ,xk w0 refs refs'/\Rel E.N E.np S0 w0 refs' (cR E.np (E.keep b) s) a w S γ/\dK (cR E.np (E.keep b) s)/\loopN (wh E b c) n s=some (e,s')) ⟨refs,s,S1,γ1,⟨rfl,rfl,rfl,hm⟩,bu,gu,hn⟩ ?_
   rintro m a1 w1 ⟨QR,s1,S2,γ2,mb,cO,lg,iF⟩
   cases m with
   |zero=>simp[loopN]at iF
   |succ m=>
    simp only[loopN]at iF;cases aB:wh E b c s1 with
    |none=>simp[aB]at iF
    |some out=>
     rw[aB]at iF;unfold wh at aB;refine wpIn_mono (ih hT hC hF gx (.inl I4) b n mb.marks (λz hz=>hL z (by simp[fM,hz])) cO lg aB) ?_
     rintro e2 a2 w2 ⟨iH,ex,σ2,S3,γ3,ic,_,rfl,gD,CI,kD⟩
     cases ex with
     |normal=>
      simp only at kD;split at kD
      .rename_i s2 nF;simp only[j4]at kD;subst kD;obtain⟨S4,γ4,rM,rN⟩:=uR gD CI nF;exact⟨m,Nat.lt_succ_self m,iH,s2,S4,γ4,mb.trans ic,rM,rN,iF⟩
      .simp at kD
     |exit i=>
      simp only at kD;split at kD
      .rename_i s2 nF;simp only[j4]at kD;subst kD;obtain⟨S4,γ4,rM,rN⟩:=uR gD CI nF;simp only[j4,j8]at iF;obtain⟨rfl,rfl⟩:=iF;exact⟨iH,.exit i,_,S4,γ4,mb.trans ic,λhf=>by simp[dt]at hf,rfl,rM,rN,hk⟩
      .simp at kD
     |ret=>
      simp only at kD;split at kD
      .rename_i s2 nF;simp only[j4]at kD;subst kD;obtain⟨S4,γ4,rM,rN⟩:=uR gD CI nF;simp only[j4,j8]at iF;obtain⟨rfl,rfl⟩:=iF;exact⟨iH,.ret,_,S4,γ4,mb.trans ic,λhf=>by simp[dt]at hf,rfl,rM,rN,hk⟩
      .simp at kD
  .simp at h
 |rangeFunc g ps x y pT pU=>
  intro E ro hT hC hF gx hp b n S0 w0 refs σ a w S γ R k r hm hL hR hc h;have I4:ro=none:=hp.resolve_right (by simp[dt]);subst I4;obtain⟨sU,pS⟩:=gx rfl
  exact Z7 sU pS (λl hx=>pT (E:=E.rnd ps x y) hT hC hF (λh=>by simp at h) (.inr hx)) (λl hy=>pU (E:=E.rnd ps x y) hT hC hF (λh=>by simp at h) (.inr hy))
   (hL (b,.rangeFunc g ps x y) (by simp[fM])) hm hR hc h
 |exit i=>intro E ro hT hC hF gx hp b n S0 w0 refs σ a w S γ R k r hm hL hR hc h;exact wpIn_exit ⟨refs,.exit i,σ,S,γ,⟨rfl,rfl,rfl,hm⟩,λ_=>rfl,rfl,hR,hc,h⟩
 |ret=>intro E ro hT hC hF gx hp b n S0 w0 refs σ a w S γ R k r hm hL hR hc h;exact wpIn_ret ⟨refs,.ret,σ,S,γ,⟨rfl,rfl,rfl,hm⟩,λ_=>rfl,rfl,hR,hc,h⟩
 |goto l=>intro E ro hT hC hF gx hp b n S0 w0 refs σ a w S γ R k r hm hL hR hc h;simp[fh]at h
 |refuse y=>intro E ro hT hC hF gx hp b n S0 w0 refs σ a w S γ R k r hm hL hR hc h;simp[fh]at h
end
section
variable{N:NT}{np:Nat}{S0:aD}{w0:World}{refs:Refs}{σ:St}{a:Go.Act}{w:World}{S:aD}{γ:Nat->Value}
def xm:Arg->Bool
 |.ref _=>true
 |.rl _ _=>true
 |_=>false
def CW(args:List Arg)(vals:List Value)(k:Nat):Option Value:=
 if k%64=0 then match args[k/64]? with
  |some x=>if xm x then vals[k/64]? else none
  |none=>none
 else none
def oT(args:List Arg)(vals:List Value):Refs:={ blks:=dU args vals,val:=CW args vals }
def γ0(vals:List Value)(k:Nat):Value:=vals.getD (k/64) undef
theorem FA:∀{as:List Arg}{us:List Value}{i:Nat}{x:Arg}{u:Value}{g:Nat},as[i]? = some x->us[i]? = some u->lz x u=some g->g∈dU as us
 |y::as,v::us,0,x,u,g,h,h',hg=>by
  simp at h h';subst h;subst h';simp[dU,hg]
 |y::as,v::us,i+1,x,u,g,h,h',hg=>by
  have:=FA (as:=as) (us:=us) (i:=i) (by simpa using h) (by simpa using h') hg;simp[dU,this]
 |[],_,_,_,_,_,h,_,_=>by simp at h
 |_::_,[],_,_,_,_,_,h',_=>by simp at h'
theorem QS:∀{as:List Arg}{us:List Value}{i j:Nat}{x y:Arg}{u v:Value}{g:Nat},(dU as us).Nodup->as[i]? = some x->us[i]? = some u->as[j]? = some y->us[j]? = some v->
  lz x u=some g->lz y v=some g->i=j
 |z::as,t::us,0,0,_,_,_,_,_,_,_,_,_,_,_,_=>rfl
 |z::as,t::us,0,j+1,x,y,u,v,g,hn,hx,hu,hy,hv,h1,h2=>by
  simp at hx hu;subst hx;subst hu;have:=FA (as:=as) (us:=us) (i:=j) (by simpa using hy) (by simpa using hv) h2;simp[dU,h1]at hn;exact absurd this hn.1
 |z::as,t::us,i+1,0,x,y,u,v,g,hn,hx,hu,hy,hv,h1,h2=>by
  simp at hy hv;subst hy;subst hv;have:=FA (as:=as) (us:=us) (i:=i) (by simpa using hx) (by simpa using hu) h1;simp[dU,h2]at hn;exact absurd this hn.1
 |z::as,t::us,i+1,j+1,x,y,u,v,g,hn,hx,hu,hy,hv,h1,h2=>by
  have IA:(dU as us).Nodup:=by simp only[dU]at hn;exact(qn.1 hn).2.1
  rw[QS IA (i:=i) (j:=j) (by simpa using hx) (by simpa using hu) (by simpa using hy) (by simpa using hv) h1 h2]
 |[],_,_,_,_,_,_,_,_,_,h,_,_,_,_,_=>by simp at h
 |_::_,[],_,_,_,_,_,_,_,_,_,h,_,_,_,_=>by simp at h
theorem jwH{args:List Arg}{vals:List Value}(ha:All2 (mR S w) args vals)(dJ:(dU args vals).Nodup)(hS:∀g o,S g o->g<w.heap.size)(hlen:args.length=np)(hN:np<=N.n) :
  Rel N np S w (oT args vals) (St.init args) ⟨vals.toArray++Array.replicate (N.n-vals.toArray.size) undef,[]⟩ w S (γ0 vals)/\dK (St.init args):=by
 have sF:vals.length=np:=by rw[<-ha.length,hlen]
 have xf:∀i u,vals[i]? = some u->(vals.toArray++Array.replicate (N.n-vals.toArray.size) undef).getD i undef=u:=by intro i u hu;have hi:i<vals.length:=(ju.1 hu).1;rw[qw,Array.getElem?_append_left (by simpa using hi)];simp[hu]
 have gX:∀i u,vals[i]? = some u->γ0 vals (i*64)=u:=by intro i u hu;simp only[γ0];rw[vh _ (by omega)];simp[hu]
 have eT:∀k b,(St.init args).bx k = .live b->∃i x u,k=i*64/\args[i]? = some x/\vals[i]? = some u/\mR S w x u/\nw (some x) = .live b:=by
  intro k b hb;simp only[St.init]at hb;split at hb
  .rename_i hk;cases hx:args[k/64]? with
   |none=>simp[hx,nw]at hb
   |some x=>obtain⟨u,hu,iG⟩:=ha.get _ x hx;exact⟨k/64,x,u,by omega,hx,hu,iG,by rw[hx]at hb;exact hb⟩
  .simp at hb
 have CX:∀i x,args[i]? = some x->(St.init args).bx (i*64)=nw (some x):=by intro i x hx;simp only[St.init];rw[if_pos (by omega),vh _ (by omega),hx]
 have hblk:∀x u b,nw (some x) = .live b->lz x u=blk u:=by intro x u b hb;cases x<;>first|rfl|simp[nw]at hb
 refine⟨⟨?_,rfl,?_,?_,?_,?_,λ_ _ h=>h,λ_ _ h=> .inl h,hS,λ_ _ _=>rfl,jj _,rfl,rfl,rfl,?_,λg o h=>by simp[oT]at h,λi v h=>by simp[oT]at h⟩,?_⟩
 .simp;omega
 .intro i
  have eU:(St.init args).sl i=match args[i]? with
   |some a=> .one (EJ i a)
   |none=> .one (.one .dead):=rfl
  rw[eU];cases hx:args[i]? with
  |none=>exact⟨trivial,λh=>absurd rfl h⟩
  |some x=>
   obtain⟨u,hu,iG⟩:=ha.get i x hx;show bJ S w (γ0 vals) (St.init args).bx (EJ i x) _;rw[xf i u hu];have hb:=CX i x hx;cases x with
   |v x=>exact zN iG
   |ref ls=>obtain⟨g,cur,e,h1,_⟩:=id iG;exact⟨⟨by rw[hb];simp[nw],by rw[h1];rfl,λb _=>⟨g,(gX i u hu).trans h1,h1⟩⟩,λ_=>by rw[h1];rfl⟩
   |rl e x=>obtain⟨t,xs,rfl,cE,_⟩:=id iG;have cP:One u:=cE.one;exact⟨⟨by rw[hb];simp[nw],cP,λb _=>(gX i u hu).symm⟩,λ_=>cP⟩
   |ip ls=>obtain⟨g,o,cs,h1,_⟩:=id iG;exact⟨iG,λ_=>by rw[h1];rfl⟩
   |clo f caps=>obtain⟨cv,h1,_⟩:=id iG;exact⟨iG,λ_=>by rw[h1];rfl⟩
 .intro k b hb;obtain⟨i,x,u,rfl,hx,hu,iG,cY⟩:=eT k b hb;cases x with
  |ref ls=>simp only[nw,BS.live.injEq]at cY;subst cY;exact H9 (gX i u hu) iG
  |rl e x=>obtain⟨t,xs,rfl,_⟩:=id iG;simp only[nw,BS.live.injEq]at cY;subst cY;exact Cg (gX i u hu) iG
  |_=>simp[nw]at cY
 .intro k b g hb hg;obtain⟨i,x,u,rfl,hx,hu,iG,cY⟩:=eT k b hb;rw[gX i u hu,<-hblk x u b cY]at hg;refine .inr ⟨FA hx hu hg,?_⟩;have:i<args.length:=(ju.1 hx).1;simp[parK];omega
 .intro k k' b b' g aZ hb aM hg aw;obtain⟨i,x,u,rfl,hx,hu,iG,cY⟩:=eT k b hb;obtain⟨j,y,v,rfl,hy,hv,I6,CY⟩:=eT k' b' aM;rw[gX i u hu,<-hblk x u b cY]at hg;rw[gX j v hv,<-hblk y v b' CY]at aw;exact aZ (by rw[QS dJ hx hu hy hv hg aw])
 .intro k v hv;simp only[oT,CW]at hv;split at hv
  .rename_i hk;split at hv
   .rename_i x hx;split at hv
    .rename_i hr;have hi:k/64<args.length:=(ju.1 hx).1;have bg:k=(k/64)*64:=by omega
     refine⟨by simp[parK,hk];omega,?_,?_⟩
     .rw[bg,CX _ x hx];cases x with
      |rl e y=>obtain⟨u,hu,iG⟩:=ha.get _ _ hx;obtain⟨t,xs,rfl,_⟩:=iG;simp[nw]
      |ref ls=>simp[nw]
      |_=>simp[xm]at hr
     .rw[bg];exact gX _ v hv
    .simp at hv
   .simp at hv
  .simp at hv
 .intro i;show ((match args[i]? with|some a=>Slot.one (EJ i a)|none=> .one (.one .dead)):Slot).bare=true;split<;>rfl
theorem I7{α β:Type}{P:Program}(f:α->Sem β):∀{rs:List α}{zs:List β},All2 (λr z=>(f r).run P w = .ok z w) rs zs->(rs.mapM f).run P w = .ok zs w
 |[],[],_=>by simp
 |r::rs,z::zs,h=>by
  simp only[z7,Sem.run_bind,h.1,Result.andThen_ok,I7 f h.2,Sem.run_pure]
 |[],_::_,h=>h.elim
 |_::_,[],h=>h.elim
def Uns(b:Bx):Prop:=(∃ls,b = .cell ls false)\/∃e t xs,b = .lst e t xs false
theorem I8{P:Program}{E:Env}(hT:cw P E.T)(hR:Rel N np S0 w0 refs σ a w S γ){r:ResultVar}{c:Cel}(h:zA E σ r=some c) :
  ∃z,((match r with
   |.tmp t=>pure (a.tmps.getD t undef)
   |.cell x t=>do loadVar t (<-asAddr (a.tmps.getD x undef)):Sem Value)).run P w = .ok z w/\bJ S w γ σ.bx c z:=by
 cases r with
 |tmp t=>
  simp only[zA]at h;split at h
  .rename_i c' hc;simp only[j4]at h;subst h;have:=hR.slot t;rw[hc]at this;exact⟨_,by simp,this⟩
  .simp at h
 |cell x t=>
  simp only[zA]at h;split at h
  .rename_i ti y ht hy;have:=hR.slot x;rw[hy]at this;obtain⟨z,hz,ib⟩:=OV hT hR (RdR.msk λ_=> .inl rfl) ht h this.1;refine⟨z,?_,ib⟩;show (do loadVar t (<-asAddr (a.tmps.getD x undef)):Sem Value).run P w=_
   have hu:∃ad,a.tmps.getD x undef = .pointer (some ad):=by
    generalize a.tmps.getD x undef=u at hz
    cases u with
    |pointer o=>
     cases o with
     |some ad=>exact⟨ad,rfl⟩
     |none=>simp[Instr.loadAt,Instr.sureAddr]at hz
    |_=>simp[Instr.loadAt,Instr.sureAddr]at hz
   obtain⟨ad,hu⟩:=hu;rw[hu]at hz ⊢;simpa[Instr.loadAt,Instr.sureAddr,asAddr]using hz
  .simp at h
theorem FB{rd:Nat->BS}(hR:Rel N np S0 w0 refs σ a w S γ)(aR:RdF np σ rd):∀{ks:List SoK}{ls:List Leaf}{r:List RL}{n:List Nat}{v:Ups}{zs:List Value},soOf rd ks ls=some (r,n,v)->
  All2 (bO S w γ σ.bx) ls zs->(∀z∈zs,One z)->FrzL np σ.bx v/\(∀k∈n,(∃b,σ.bx k = .live b/\Uns b)/\parK np k=false)/\mT r zs=(n.filterMap λk=>blk (γ k))/\
   ∀S',cW S w S' w->Froz σ.bx γ S' w v->(∀k∈n,∀g,blk (γ k)=some g->∀o,¬S' g o)->All2 (E5 S' w) r zs
 |[],[],r,n,v,zs,h,ha,h1=>by
  simp[soOf]at h;obtain⟨rfl,rfl,rfl⟩:=h;cases zs with
  |nil=>exact⟨.nil,by simp,rfl,λ_ _ _ _=>trivial⟩
  |cons _ _=>exact ha.elim
 |.d t::ks,l::ls,r,n,v,zs,h,ha,h1=>by
  cases zs with
  |nil=>exact ha.elim
  |cons z zs=>
  simp only[soOf]at h;split at h
  .rename_i x u r' n' v' hx hr;cases eR:t.leafy with
   |false=>rw[eR]at h;simp at h
   |true=>
   rw[eR,j5]at h;simp only[j4,j8]at h;obtain⟨rfl,rfl,rfl⟩:=h;obtain⟨f1,p1⟩:=ur aR hx ha.1;obtain⟨f2,k2,b2,p2⟩:=FB hR aR hr ha.2 (λy hy=>h1 y (by simp[hy]));refine⟨FrzL.app.2 ⟨f1,f2⟩,k2,by simp[mT,b2],λS' aB dE hn=>?_⟩;obtain⟨g1,g2⟩:=Froz.app.1 dE;exact⟨⟨h1 z (by simp),p1 S' w aB g1⟩,p2 S' aB g2 hn⟩
  .simp at h
 |.own e t::ks,l::ls,r,n,v,zs,h,ha,h1=>by
  cases zs with
  |nil=>exact ha.elim
  |cons z zs=>
  cases l with
  |nil=>
   simp only[soOf]at h;split at h
   .rename_i r' n' v' hr;cases hm:isM e with
    |true=>rw[hm]at h;simp at h
    |false=>
    rw[hm,j6]at h;simp only[j4,j8]at h;obtain⟨rfl,rfl,rfl⟩:=h;have hz:z = .slice none 0 0:=ha.1;subst hz;obtain⟨f2,k2,b2,p2⟩:=FB hR aR hr ha.2 (λy hy=>h1 y (by simp[hy]));refine⟨f2,k2,by simp[mT,blk,b2],λS' aB dE hn=>⟨⟨t,[],rfl,.inl ⟨hm,[],⟨by simp,.inl ⟨rfl,rfl⟩⟩,trivial⟩,λg hg=>by simp[blk]at hg⟩,p2 S' aB dE hn⟩⟩
   .simp at h
  |ol k=>
   simp only[soOf]at h;split at h
   .rename_i e' b xs hk;cases he:Nat.beq e' e with
    |false=>rw[he]at h;simp at h
    |true=>
    rw[he,j5]at h;split at h
    .rename_i r' n' v' hr;simp only[j4,j8]at h;obtain⟨rfl,rfl,rfl⟩:=h;have hp:=aR.par hk;have hk:=aR.ok.live hk;have hz:=ha.1.2.2 _ hk;obtain⟨f2,k2,b2,p2⟩:=FB hR aR hr ha.2 (λy hy=>h1 y (by simp[hy]));refine⟨f2,λk' bg=>?_,?_,λS' aB dE hn=>⟨⟨b,xs,rfl,by rw[hz];exact(hR.box k _ hk).1.keep aB (λ_ _=>rfl),λg hg=>hn k (by simp) g (by rw[<-hz];exact hg)⟩,p2 S' aB dE (λk' bg=>hn k' (by simp[bg]))⟩⟩
     .rcases je.1 bg with rfl|bg
      .exact⟨⟨_,hk,.inr ⟨_,_,_,rfl⟩⟩,hp⟩
      .exact k2 k' bg
     .simp only[mT,hz,vc];rw[b2];cases blk (γ k)<;>rfl
    .simp at h
   .simp at h
  |_=>simp[soOf]at h
 |[],_::_,r,n,v,zs,h,_,_=>by simp[soOf]at h
 |.d _::_,[],r,n,v,zs,h,_,_=>by simp[soOf]at h
 |.own _ _::_,[],r,n,v,zs,h,_,_=>by simp[soOf]at h
theorem jzG{P:Program}{E:Env}(hT:cw P E.T)(hR:Rel N E.np S0 w0 refs σ a w S γ){rd:Nat->BS}(aR:RdF E.np σ rd){own:Bool}{t:Nat}{c:Cel}{v:RV}{ks:List Nat}{u:Ups}{z:Value}(h:rvOf E rd own t c=some (v,ks,u))(hc:bJ S w γ σ.bx c z) :
  FrzL E.np σ.bx u/\(∀k∈ks,(∃b,σ.bx k = .live b/\Uns b)/\parK E.np k=false)/\jT v z=(ks.filterMap λk=>blk (γ k))/\
   ∀S',cW S w S' w->Froz σ.bx γ S' w u->(∀k∈ks,∀g,blk (γ k)=some g->∀o,¬S' g o)->oK S' w v z:=by
 unfold rvOf at h;split at h
 .rename_i k;split at h
  .rename_i ls hk;split at h
   .rename_i xs u1 h1;simp only[j4,j8]at h;obtain⟨rfl,rfl,rfl⟩:=h;have hp:=aR.par hk;have hk:=aR.ok.live hk;obtain⟨g,hg,hz⟩:=hc.1.2.2 _ hk;obtain⟨g',cur,e,aw,hh,er,_⟩:=hR.box k _ hk;rw[hg]at aw;simp at aw;subst aw;obtain⟨hf,wL⟩:=zM aR h1 er;refine⟨hf,λk' bg=>by simp at bg;subst bg;exact⟨⟨_,hk,.inl ⟨_,rfl⟩⟩,hp⟩,?_,λS' aB dE hn=>⟨g,cur,e,hz,hh,wL S' w aB dE,?_⟩⟩
    .simp[jT,mS,hz,hg,blk]
    .exact hn k (by simp) g (by rw[hg];rfl)
   .simp at h
  .simp at h
 .rename_i f caps;simp only[j4,j8]at h;obtain⟨rfl,rfl,rfl⟩:=h;obtain⟨⟨cv,hz,ao⟩,_⟩:=hc;exact⟨.nil,by simp,by simp[jT,mS],λS' aB _ _=>⟨cv,hz,ao.mono λ_ _ h=>h9.keep aB h⟩⟩
 .split at h
  .rename_i ti ht;split at h
   .rename_i ty bA;split at h
    .split at h
     .rename_i ls;split at h
      .rename_i r n u1 hso;simp only[j4,j8]at h;obtain⟨rfl,rfl,rfl⟩:=h;obtain⟨cs,hz,ao,cP⟩:=hc;subst hz;obtain⟨f1,k1,b1,p1⟩:=FB hR aR hso ao cP;exact⟨f1,k1,b1,λS' aB dE hn=>⟨cs,rfl,p1 S' aB dE hn⟩⟩
      .simp at h
     .rename_i el dI _;simp only[j4,j8]at h;obtain⟨rfl,rfl,rfl⟩:=h;have hz:z = .slice none 0 0:=hc.1;subst hz;exact⟨.nil,by simp,by simp[jT,mS,blk],λS' _ _ _=>⟨el,[],rfl,.inl ⟨Hz hT ht,[],⟨by simp,.inl ⟨rfl,rfl⟩⟩,trivial⟩,λg hg=>by simp[blk]at hg⟩⟩
     .rename_i k dI _;split at h
      .rename_i e el xs hk;simp only[j4,j8]at h;obtain⟨rfl,rfl,rfl⟩:=h;have hp:=aR.par hk;have bV:=aR.ok.nm hk;have hk:=aR.ok.live hk;have hz:=hc.1.2.2 _ hk;obtain⟨css,aN,ao,_⟩:=ia bV (hR.box k _ hk);refine⟨.nil,λk' bg=>by simp at bg;subst bg;exact⟨⟨_,hk,.inr ⟨_,_,_,rfl⟩⟩,hp⟩,?_,λS' aB _ hn=>⟨el,xs,rfl,by rw[hz];exact(hR.box k _ hk).1.keep aB (λ_ _=>rfl),λg hg=>hn k (by simp) g (by rw[<-hz];exact hg)⟩⟩;simp only[jT,mS,hz,vc,List.filterMap_nil];cases blk (γ k)<;>rfl
      .simp at h
     .simp at h
    .split at h
     .rename_i x u1 hx;simp only[j4,j8]at h;obtain⟨rfl,rfl,rfl⟩:=h;obtain⟨hf,hp,_⟩:=BT aR hx hc;exact⟨hf,by simp,by simp[jT,mS],λS' aB dE _=>hp S' w aB dE⟩
     .simp at h
   .simp at h
  .simp at h
theorem QT{P:Program}{E:Env}(hT:cw P E.T)(hR:Rel N E.np S0 w0 refs σ a w S γ):∀{os:List Bool}{rs:List ResultVar}{ts:List Nat}{vs:List RV}{ks:List Nat}{u:Ups},sa E σ os rs ts=some (vs,ks,u)->
  ∃zs,All2 (λ(r:ResultVar) z=>((match r with
   |.tmp t=>pure (a.tmps.getD t undef)
   |.cell x t=>do loadVar t (<-asAddr (a.tmps.getD x undef)):Sem Value)).run P w = .ok z w) rs zs/\
  FrzL E.np σ.bx u/\(∀k∈ks,(∃b,σ.bx k = .live b/\Uns b)/\parK E.np k=false)/\fq vs zs=(ks.filterMap λk=>blk (γ k))/\
   ∀S',cW S w S' w->Froz σ.bx γ S' w u->(∀k∈ks,∀g,blk (γ k)=some g->∀o,¬S' g o)->All2 (oK S' w) vs zs
 |os,[],ts,vs,ks,u,h=>by
  simp[sa]at h;obtain⟨rfl,rfl,rfl⟩:=h;exact⟨[],trivial,.nil,by simp,rfl,λ_ _ _ _=>trivial⟩
 |os,r::rs,ts,vs,ks,u,h=>by
  simp only[sa]at h;split at h
  .rename_i c hc;split at h
   .rename_i v k1 u1 hv;split at h
    .rename_i jF k2 u2 l9;simp only[j4,j8]at h;obtain⟨rfl,rfl,rfl⟩:=h;obtain⟨z,hz,ib⟩:=I8 hT hR hc;obtain⟨f1,p1,n1,r1⟩:=jzG hT hR (Cw (RdR.msk λ_=> .inl rfl)) hv ib;obtain⟨zs,mN,f2,p2,n2,r2⟩:=QT hT hR l9;refine⟨z::zs,⟨hz,mN⟩,FrzL.app.2 ⟨f1,f2⟩,λk hk=>?_,?_,λS' aB dE hn=>?_⟩
     .rcases jn.1 hk with hk|hk
      .exact p1 k hk
      .exact p2 k hk
     .simp[fq,n1,n2]
     .obtain⟨g1,g2⟩:=Froz.app.1 dE;exact⟨r1 S' aB g1 (λk hk=>hn k (by simp[hk])),r2 S' aB g2 (λk hk=>hn k (by simp[hk]))⟩
    .simp at h
   .simp at h
  .simp at h
theorem I9(hR:Rel N np S0 w0 refs σ a w S γ):∀{as:List Arg}{us:List Value}{i:Nat}{os:List Out}{u:Ups},outs np σ i as=some (os,u)->as.length=us.length->
  (∀(j:Nat)(x:Arg)(v:Value),as[j]? = some x->us[j]? = some v->xm x=true->γ ((i+j)*64)=v)->
  FrzL np σ.bx u/\∀S',cW S w S' w->Froz σ.bx γ S' w u->(∀(j:Nat)(x:Arg)(v:Value)(g:Nat),as[j]? = some x->us[j]? = some v->xm x=true->(∃b,σ.bx ((i+j)*64) = .live b/\Uns b)->blk v=some g->∀o,¬S' g o)->lF S' w as us os
 |[],us,i,os,u,h,hl,_=>by
  simp[outs]at h;obtain⟨rfl,rfl⟩:=h;cases us with
  |nil=>exact⟨.nil,λ_ _ _ _=>trivial⟩
  |cons _ _=>simp at hl
 |x::as,[],i,os,u,h,hl,_=>by simp at hl
 |x::as,v::us,i,os,u,h,hl,hg=>by
  simp only[outs]at h;split at h
  .rename_i lH u' h'
   obtain⟨f1,r1⟩:=I9 hR (i:=i+1) h' (by simpa using hl) (λj y z hy hz hr=>by
    have:=hg (j+1) y z (by simpa using hy) (by simpa using hz) hr;rwa[show i+1+j=i+(j+1) by omega])
   have cK:∀S',cW S w S' w->Froz σ.bx γ S' w u'->(∀(j:Nat)(x':Arg)(v':Value)(g:Nat),(x::as)[j]? = some x'->(v::us)[j]? = some v'->xm x'=true->(∃b,σ.bx ((i+j)*64) = .live b/\Uns b)->blk v'=some g->∀o,¬S' g o)->lF S' w as us lH:=by intro S' aB dE hn;refine r1 S' aB dE (λj y z g hy hz hr hb hgz=>?_);exact hn (j+1) y z g (by simpa using hy) (by simpa using hz) hr (by rwa[show i+(j+1)=i+1+j by omega]) hgz
   split at h
   .rename_i ls;have Ja:γ (i*64)=v:=hg 0 _ v rfl rfl rfl;split at h
    .rename_i fR hb;split at h
     .rename_i xs u2 hx;simp only[j4,j8]at h;obtain⟨rfl,rfl⟩:=h;obtain⟨g,cur,e,h1,h2,h3,_⟩:=hR.box _ _ hb;obtain⟨f2,r2⟩:=zM (Cw (RdR.msk λ_=> .inl rfl)) hx h3;refine⟨FrzL.app.2 ⟨f2,f1⟩,λS' aB dE hn=>?_⟩;obtain⟨g1,g2⟩:=Froz.app.1 dE;have QU:v = .pointer (some ⟨g,0,none⟩):=by rw[<-Ja];exact h1
      exact⟨⟨g,cur,e,QU,h2,r2 S' w aB g1,hn 0 _ v g rfl rfl rfl ⟨_,hb,.inl ⟨fR,rfl⟩⟩ (by rw[QU];rfl)⟩,cK S' aB g2 hn⟩
     .simp at h
    .simp at h
   .rename_i e y;have Ja:γ (i*64)=v:=hg 0 _ v rfl rfl rfl;split at h
    .rename_i e' t xs hb;split at h
     .rename_i dH;obtain⟨rfl,FC⟩:=dH;simp only[j4,j8]at h;obtain⟨rfl,rfl⟩:=h;have aN:=(hR.box _ _ hb).1;rw[Ja]at aN;refine⟨f1,λS' aB dE hn=>⟨⟨t,xs,rfl,aN.keep aB (λ_ _=>rfl),λg aw=>hn 0 _ v g rfl rfl rfl ⟨_,hb,.inr ⟨_,t,xs,rfl⟩⟩ aw⟩,FC.symm,cK S' aB dE hn⟩⟩
     .simp at h
    .simp at h
   .rename_i Jb Jc;simp only[j4,j8]at h;obtain⟨rfl,rfl⟩:=h;refine⟨f1,λS' aB dE hn=>?_⟩;have:=cK S' aB dE hn;cases x with
    |ref ls=>exact absurd rfl (Jb ls)
    |rl e y=>exact absurd rfl (Jc e y)
    |_=>exact this
  .simp at h
theorem QV{x:Arg}{u:Value}{g:Nat}(h:mR S w x u)(hr:lz x u=some g):∀o,¬S g o:=by
 cases x with
 |ref ls=>obtain⟨g',cur,e,h1,_,_,h4⟩:=h;have sy:blk u=some g:=hr;rw[h1]at sy;simp[blk]at sy;subst sy;exact h4
 |rl e y=>obtain⟨t,xs,_,_,h4⟩:=h;exact h4 g hr
 |_=>simp[lz]at hr
theorem Jd:∀{as:List Arg}{us:List Value}{g:Nat},g∈dU as us->∃(i:Nat)(x:Arg)(u:Value),as[i]? = some x/\us[i]? = some u/\lz x u=some g
 |[],_,_,h=>by simp[dU]at h
 |_::_,[],_,h=>by simp[dU]at h
 |x::as,u::us,g,h=>by
  simp only[dU,jn,Option.mem_toList]at h;rcases h with h|h
  .exact⟨0,x,u,rfl,rfl,h⟩
  .obtain⟨i,y,v,h1,h2,h3⟩:=Jd h;exact⟨i+1,y,v,by simpa using h1,by simpa using h2,h3⟩
theorem QW(zs:List Value):(if h:zs.toArray.size=1 then zs.toArray[0] else .tuple zs.toArray)=rD zs:=by
 match zs with
 |[]=>rfl
 |[z]=>rfl
 |z::z'::zs=>simp[rD]
theorem jwI{P:Program}{E:Env}(hT:cw P E.T)(hR:Rel N np S0 w0 refs σ a w S γ){rs:List ResultVar}{vs jF:List RV}{zs:List Value}
  (mN:All2 (λ(r:ResultVar) z=>((match r with
   |.tmp t=>pure (a.tmps.getD t undef)
   |.cell x t=>do loadVar t (<-asAddr (a.tmps.getD x undef)):Sem Value)).run P w = .ok z w) rs zs) (h:nilV E σ rs vs=some jF) :
  (∀S' w',All2 (oK S' w') vs zs->All2 (oK S' w') jF zs)/\fq jF zs=fq vs zs/\∀m,jF=[.hd m]->vs=[.hd m]:=by
 unfold nilV at h;split at h
 .simp only[j4]at h;subst h;exact⟨λ_ _ h=>h,rfl,λ_ h=>h⟩
 .split at h
  .rename_i r x;split at h
   .rename_i ls hc;split at h
    .rename_i hn;simp only[j4]at h;subst h;obtain⟨z,hz,ib⟩:=I8 hT hR hc;cases zs with
     |nil=>exact mN.elim
     |cons z' zs=>
      cases zs with
      |cons _ _=>exact mN.2.elim
      |nil=>
       have sv:z'=z:=by have h1:=hz.symm.trans mN.1;simp only[Result.ok.injEq]at h1;exact h1.1.symm
       subst sv;obtain⟨cs,hu,ao,_⟩:=ib;refine⟨λS' w' hv=>⟨⟨hv.1,λsJ mr i hi z hzi=>?_⟩,trivial⟩,rfl,λm hm=>by simp at hm⟩;rw[hu]at mr;simp only[Value.agg.injEq]at mr;subst mr;have hl:=k5.1 hn i hi;cases Jf:ls[i]? with
       |none=>rw[Jf]at hl;simp at hl
       |some l=>rw[Jf]at hl;obtain⟨z2,Jg,wJ⟩:=ao.get i l Jf;rw[hzi]at Jg;simp only[j4]at Jg;subst Jg;cases l<;>first|exact wJ|simp at hl
    .simp at h
   .simp at h
  .simp at h
theorem joa{E:Env}{os:List Bool}{rs:List ResultVar}{ts:List Nat}{vs:List RV}{ks:List Nat}{u:Ups}(h:sa E σ os rs ts=some (vs,ks,u))(m:Nat):vs≠[.hd m]:=by
 cases rs with
 |nil=>simp[sa]at h;rw[<-h.1];simp
 |cons r rs=>
  simp only[sa]at h;split at h
  .split at h
   .rename_i v k1 u1 hv;split at h
    .simp only[j4,j8]at h;rw[<-h.1];intro he;have:v = .hd m:=by simpa using (List.cons.inj he).1
     subst this;unfold rvOf at hv;split at hv
     .split at hv
      .split at hv<;>simp at hv
      .simp at hv
     .simp at hv
     .split at hv
      .split at hv
       .split at hv
        .split at hv
         .split at hv<;>simp at hv
         .simp at hv
         .split at hv<;>simp at hv
         .simp at hv
        .split at hv<;>simp at hv
       .simp at hv
      .simp at hv
    .simp at h
   .simp at h
  .simp at h
theorem jzH{P:Program}{E:Env}(hT:cw P E.T){fn:Func}{args:List Arg}{vals:List Value}{σ':St}{a':Go.Act}{w':World}{S':aD}{γ':Nat->Value}(hR:Rel N E.np S w (oT args vals) σ' a' w' S' γ')
  (ha:All2 (mR S w) args vals)(hS:∀g o,S g o->g<w.heap.size)(FD:E.hd=true){ret:Ret}(cp:wi E fn args σ'=some ret){R:Type}{k:Ret->Option R}{r:R}(hk:k ret=some r) :
  ∃v,(results fn a'.tmps).run P w' = .ok v w'/\∃ret,k ret=some r/\∃v' S' vs,Ending.returned v = .returned v'/\H6 w S args vals ret v' w' S' vs:=by
 have dQ:∀(j:Nat)(x:Arg)(v:Value),args[j]? = some x->vals[j]? = some v->xm x=true->γ' ((0+j)*64)=v:=by intro j x v hx hv hr;refine(hR.par ((0+j)*64) v ?_).2.2;simp only[oT,CW];rw[if_pos (by omega),vh _ (by omega),kf,hx];simp[hr,hv]
 unfold wi at cp;rw[if_pos FD]at cp;unfold OC at cp;split at cp
 .rename_i e x as r0 kE;split at cp
  .rename_i l os u' hc oL;split at cp
   .rename_i m hm;simp only[j4]at cp;subst cp;obtain⟨z,hz,ib⟩:=I8 (P:=P) hT hR hc;obtain⟨f2,r2⟩:=I9 hR oL ha.length dQ;obtain⟨S2,cO,db,pF,dF⟩:=nD u' σ' S' hR f2;cases vals with
    |nil=>exact ha.elim
    |cons v0 vs0=>
    have h0:γ' 0=v0:=by have:=dQ 0 _ v0 rfl rfl rfl;simpa using this
    have xn:∀k,parK E.np k=true->u'.any (λy=>y.1==k)=false:=by intro k hk;rw[qi];intro y hy he;simp only[qy]at he;have:=(f2 y hy).1;rw[he,hk]at this;simp at this
    have nH:∀k b,u'.any (λy=>y.1==k)=false->σ'.bx k = .live b->Uns b->∀g,blk (γ' k)=some g->∀o,¬S2 g o:=by
     intro k b hk hb jV g hg o;have eP:(σ'.upd u').bx k = .live b:=(lZ _ _ hk).trans hb;have cY:=cO.box k b eP;rcases jV with⟨ls,rfl⟩|⟨e,t,xs,rfl⟩
     .obtain⟨g',cur,e,aw,_,_,_,hS,_⟩:=cY;rw[aw]at hg;simp[blk]at hg;subst hg;exact hS rfl o
     .exact(cY.2 g hg).1 rfl o
    have eH:=r2 S2 db pF (λj x v g hx hv hr Jh hg=>by
     obtain⟨b,hb,hu⟩:=Jh;have hp:parK E.np ((0+j)*64)=true:=by refine(hR.par ((0+j)*64) v ?_).1;simp only[oT,CW];rw[if_pos (by omega),vh _ (by omega),kf,hx];simp[hr,hv]
     exact nH ((0+j)*64) b (xn _ hp) hb hu g (by rw[dQ j x v hx hv hr];exact hg))
    have cP:One z:=ib.2 (by rintro rfl;simp[hdOf]at hm)
    have pL:∃ad len cap,v0 = .slice ad len cap/\m<=len/\z = .slice ad m cap:=by
     unfold hdOf at hm;split at hm
     .split at hm
      .rename_i e1 t1 E4 hb;split at hm
       .simp at hm
       .rename_i bV;simp only[j4]at hm;subst hm;obtain⟨css,aN,_⟩:=ia (by simpa using bV) (hR.box 0 _ hb);have sv:=ib.1.2.2 _ hb;rcases aN.2 with⟨hg,hn⟩|⟨g,cap,cur,hg,_⟩
        .exact⟨none,0,0,by rw[<-h0,hg],by omega,by rw[sv,hg,hn]⟩
        .exact⟨_,_,cap,by rw[<-h0,hg],jj _,by rw[sv,hg]⟩
      .simp at hm
     .split at hm
      .rename_i i e1 t1 E4 hb;simp only[j4]at hm;subst hm;obtain⟨_,hi,ad,cap,hg,sv⟩:=ib.1.2.2 _ hb;exact⟨ad,_,cap,by rw[<-h0,hg],hi,sv⟩
      .simp at hm
     .simp at hm
    have aK:(results fn a'.tmps).run P w' = .ok (rD [z]) w':=by
     have hm:=I7 (P:=P) (w:=w') (rs:=[r0]) (zs:=[z]) (λr=>((match r with
      |.tmp t=>pure (a'.tmps.getD t undef)
      |.cell x t=>do loadVar t (<-asAddr (a'.tmps.getD x undef)):Sem Value))) ⟨hz,trivial⟩
     unfold results;rw[Array.mapM_eq_mapM_toList,kE];simp only[Sem.run_bind,Sem.run_map]
     erw [hm]
     simp only[Result.andThen_ok,Sem.run_pure];exact jh (Result.ok · w') (QW [z])
    refine⟨rD [z],aK,⟨[.hd m],os⟩,hk,rD [z],S2,[z],rfl,⟨rfl,⟨cP,trivial⟩,λg hg=>by simp[fq,mS,jT]at hg,by simp[fq,mS,jT],eH,λg o hs=>⟨cO.ext g o hs,?_⟩,cO.new,cO.here,cO.below,cO.grow,cO.os,cO.tape,cO.output,?_⟩⟩
    .refine World.cell?_of_block (cO.below g (hS g o hs) (λhm=>?_));obtain⟨i,x,v,hx,hv,hb⟩:=Jd hm;obtain⟨v',gw,Ji⟩:=ha.get i x hx;rw[hv]at gw;simp at gw;subst gw;exact QV Ji hb o hs
    .intro m' iF;have:m'=m:=by simpa using iF.symm
     subst this;obtain⟨ad,len,cap,h1,h2,h3⟩:=pL;exact⟨ad,len,cap,by rw[h1];rfl,h2,by rw[h3]⟩
   .simp at cp
  .simp at cp
 .simp at cp
theorem Jj{P:Program}{fn:Func}{n:Nat}{R:Ending->World->Prop}:∀(ds:List Deferred){refs:Refs}{σ:St}{a:Go.Act}{w:World}{S:aD}{γ:Nat->Value},refs.ds=ds->CR w0 refs->Rel N np S0 w0 refs σ a w S γ->
  (∀w2,Rel N np S0 w0 ⟨refs.blks,refs.val,[],λ_=>none,λ_=>none⟩ σ { a with defers:=[] } w2 S γ->LeavesIn (FR none) n P fn a.tmps R [] .returning w2)->LeavesInM (FR none) n P fn a.tmps R ds .returning w
 |[],refs,σ,a,w,S,γ,hd,hm,hR,h=>h w (hR.swap rfl rfl hR.size rfl hR.slot (λg o h=>by simp at h) (λi v h=>by simp at h))
 |d::ds,refs,σ,a,w,S,γ,hd,hm,hR,h=>by
  obtain⟨dJ,ao⟩:=hm;rw[hd]at dJ;obtain⟨D,rfl,h1,h2⟩:=ao d (by rw[hd];simp);refine⟨by simp,.inl ⟨D,_,rfl,run_takeDeferred (hR.kept D _ h2).1,?_⟩⟩;have bu:=hR.putO (o':= .deferred none) h2 h1 rfl rfl
  have cO:=bu.swap (a':={ a with defers:=ds }) (refs':=⟨refs.blks,refs.val,ds,λg=>if g=D then none else refs.kw g,refs.fix⟩) rfl rfl hR.size rfl bu.slot (λg o hg=>bu.kept g o (by
   simp only at hg ⊢;split at hg
   .simp at hg
   .rename_i e;rw[if_neg e];exact hg)) bu.fix
  refine Jj (a:={ a with defers:=ds }) (refs:=⟨refs.blks,refs.val,ds,λg=>if g=D then none else refs.kw g,refs.fix⟩) ds rfl ⟨(qp.1 dJ).2,λd' fW=>?_⟩ cO (λw2 hw=>h w2 hw);obtain⟨D',rfl,q1,q2⟩:=ao d' (by rw[hd];simp[fW]);refine⟨D',rfl,q1,?_⟩;show (if D'=D then none else refs.kw D')=_;rw[if_neg,q2]
  rintro rfl
  exact(qp.1 dJ).1 fW
theorem QX{P:Program}{E:Env}(hT:cw P E.T)(hC:lG P E.C)(hF:CFun E.C)(iX:P.follows .mixedOrders=true){f:Nat}{fn:Func}{c:Code}(hf:P.funcs[f]? = some fn)(hb:fn.body=some c)(hN:fn.ntmps=E.N.n)(pS:E.N.pin=λ_=>false)(sU:∀f t,E.bw f=some t->ItOK P f t.1 t.2)(xo:E.np<=E.N.n)
  (bV : (fn.name == "runtime.NumGoroutine") = false) (hL : ∀ x ∈ fM 0 c, CQ E x.1 x.2) : FnOK P f (fun args _ k => sb E fn args k) := by
 intro args R k r h;refine⟨⟨fn,hf,by rw[hb];rfl,bV⟩,?_⟩;intro w S vals ha dJ hS;by_cases hlen:args.length=E.np
 case neg=>simp[sb,hlen]at h
 case pos=>
 simp only[sb,hb,hlen,if_true]at h;have sF:vals.length=E.np:=by rw[<-ha.length,hlen]
 obtain⟨hR0,mL⟩:=jwH (N:=E.N) ha dJ hS hlen xo;refine ZW (n:=0) (ro:=none) (callsIn_of_wp_marks hf hb trivial ?_);rw[hN];refine wpIn_mono (jto iX c (ro:=none) hT hC hF (λ_=>⟨sU,pS⟩) (.inl rfl) 0 0 ⟨zg,λd hd=>by simp[oT]at hd⟩ hL hR0 mL h) ?_
 rintro e a0 w1 ⟨refs',ex,σ',S',γ',hle,_,rfl,bu,cT,hk⟩
 have dW:∀(hk:(match wi E fn args σ' with|some r=>k r|none=>none)=some r)(w':World),Rel E.N E.np S w ⟨refs'.blks,refs'.val,[],λ_=>none,λ_=>none⟩ σ' { a0 with defers:=[] } w' S' γ'->∃v,(results fn a0.tmps).run P w' = .ok v w'/\
   ∃ret,k ret=some r/\∃v' S' vs,Ending.returned v = .returned v'/\H6 w S args vals ret v' w' S' vs:=by
  intro hk w' hR;have hR:Rel E.N E.np S w (oT args vals) σ' { a0 with defers:=[] } w' S' γ':=hR.swap hle.blks.symm hle.val.symm hR.size rfl hR.slot (λg o h=>by simp[oT]at h) (λi v h=>by simp[oT]at h);generalize sZ:({ a0 with defers:=[] }:Go.Act)=a' at hR;have mo:a0.tmps=a'.tmps:=by rw[<-sZ]
  rw[mo];cases cp:wi E fn args σ' with
  |none=>simp[cp]at hk
  |some ret=>
  simp only[cp]at hk;by_cases FD:E.hd=true
  .exact jzH hT hR ha hS FD cp hk
  have xp:∃vs ks u os u',sa E σ' E.ro fn.results.toList fn.resultTypes.toList=some (vs,ks,u)/\outs E.np σ' 0 args=some (os,u')/\
    oz ks=true/\(u++u').all (λe=> !ks.contains e.1)=true/\∃jF,nilV E σ' fn.results.toList vs=some jF/\ret=⟨jF,os⟩:=by
   unfold wi at cp;rw[if_neg FD]at cp;split at cp
   .rename_i vs ks u os u' l9 oL;split at cp
    .rename_i dH;split at cp
     .rename_i jF xq;simp only[j4]at cp;simp only[jb]at dH;exact⟨vs,ks,u,os,u',l9,oL,dH.1,dH.2,jF,xq,cp.symm⟩
     .simp at cp
    .simp at cp
   .simp at cp
  obtain⟨vs,ks,u,os,u',l9,oL,su,wT,jF,xq,rfl⟩:=xp;obtain⟨zs,mN,f1,p1,n1,r1⟩:=QT hT hR l9;have fp:(∀S' w',All2 (oK S' w') vs zs->All2 (oK S' w') jF zs)/\fq jF zs=fq vs zs/\∀m,jF=[.hd m]->vs=[.hd m]:=jwI hT hR mN xq;have dQ:∀(j:Nat)(x:Arg)(v:Value),args[j]? = some x->vals[j]? = some v->xm x=true->γ' ((0+j)*64)=v:=by intro j x v hx hv hr;refine(hR.par ((0+j)*64) v ?_).2.2;simp only[oT,CW];rw[if_pos (by omega),vh _ (by omega),kf,hx];simp[hr,hv]
  obtain⟨f2,r2⟩:=I9 hR oL ha.length dQ;obtain⟨S2,cO,db,pF,dF⟩:=nD (u++u') σ' S' hR (FrzL.app.2 ⟨f1,f2⟩);obtain⟨Jk,Jl⟩:=Froz.app.1 pF
  have nH:∀k b,(u++u').any (λy=>y.1==k)=false->σ'.bx k = .live b->Uns b->∀g,blk (γ' k)=some g->∀o,¬S2 g o:=by
   intro k b hk hb jV g hg o;have eP:(σ'.upd (u++u')).bx k = .live b:=(lZ _ _ hk).trans hb;have cY:=cO.box k b eP;rcases jV with⟨ls,rfl⟩|⟨e,t,xs,rfl⟩
   .obtain⟨g',cur,e,aw,_,_,_,hS,_⟩:=cY;rw[aw]at hg;simp[blk]at hg;subst hg;exact hS rfl o
   .exact(cY.2 g hg).1 rfl o
  have s7:∀k∈ks,(u++u').any (λy=>y.1==k)=false:=by intro k hk;rw[qi];intro y hy he;have:=k5.1 wT y hy;simp only[qy]at he;rw[he]at this;simp[hk]at this
  have xn:∀k,parK E.np k=true->(u++u').any (λy=>y.1==k)=false:=by intro k hk;rw[qi];intro y hy he;simp only[qy]at he;have:=(FrzL.app.2 ⟨f1,f2⟩ y hy).1;rw[he,hk]at this;simp at this
  have CZ:=r1 S2 db Jk (λk hk g hg=>by
   obtain⟨⟨b,hb,hu⟩,_⟩:=p1 k hk;exact nH k b (s7 k hk) hb hu g hg)
  have eH:=r2 S2 db Jl (λj x v g hx hv hr Jh hg=>by
   obtain⟨b,hb,hu⟩:=Jh;have hj:j<args.length:=(ju.1 hx).1;exact nH ((0+j)*64) b (xn _ (by simp[parK];omega)) hb hu g (by rw[dQ j x v hx hv hr];exact hg))
  have aK:(results fn a'.tmps).run P w' = .ok (rD zs) w':=by
   have hm:=I7 (P:=P) (w:=w') _ mN;unfold results;rw[Array.mapM_eq_mapM_toList];simp only[Sem.run_bind,Sem.run_map]
   erw [hm]
   simp only[Result.andThen_ok,Sem.run_pure];exact jh (Result.ok · w') (QW zs)
  have hnh:∀m,jF=[.hd m]->∃ad len cap,E6 args vals=some (.slice ad len cap)/\m<=len/\zs=[.slice ad m cap]:=λm hm=>by
   exact absurd (fp.2.2 m hm) (joa l9 m)
  refine⟨rD zs,aK,⟨jF,os⟩,hk,rD zs,S2,zs,rfl,⟨rfl,fp.1 _ _ CZ,λg hg=>?_,?_,eH,λg o hs=>⟨cO.ext g o hs,?_⟩,cO.new,cO.here,cO.below,cO.grow,cO.os,cO.tape,cO.output,hnh⟩⟩
  .rw[fp.2.1,n1]at hg;obtain⟨k,bg,hkg⟩:=zj.1 hg;obtain⟨⟨b,hb,_⟩,hp⟩:=p1 k bg;rcases hR.own k b g hb hkg with h|h
   .exact h
   .rw[hp]at h;simp at h
  .rw[fp.2.1,n1];exact H7 hR (E8 su) (λk bg=>by obtain⟨⟨b,hb,_⟩,_⟩:=p1 k bg;exact⟨b,hb⟩)
  .refine World.cell?_of_block (cO.below g (hS g o hs) (λhm=>?_));obtain⟨i,x,v,hx,hv,hb⟩:=Jd hm;obtain⟨v',gw,Ji⟩:=ha.get i x hx;rw[hv]at gw;simp at gw;subst gw;exact QV Ji hb o hs
 cases ex with
 |exit i=>simp at hk
 |normal=>exact Jj a0.defers bu.defers.symm hle.marks bu (λw2 hw=>dW hk w2 hw)
 |ret=>exact Jj a0.defers bu.defers.symm hle.marks bu (λw2 hw=>dW hk w2 hw)
end
section
variable{E:Env}
def LFun(L:Nat->Snap->(R:Type)->(Ex->Snap->Option R)->Option R):Prop:=
 ∀b s,∃o:Option (Ex×Snap),∀(R:Type)(k:Ex->Snap->Option R),L b s R k=o.bind λx=>k x.1 x.2
def Det{α:Type}(f:(R:Type)->(α->Option R)->Option R):Prop:=∃o:Option α,∀(R:Type)(k:α->Option R),f R k=o.bind k
theorem Det.val{α:Type}(x:α):Det (λ_ k=>k x):=⟨some x,λ_ _=>rfl⟩
theorem Det.no{α:Type}:Det (λR (_:α->Option R)=>none):=⟨none,λ_ _=>rfl⟩
theorem Det.cond{α:Type}{f g:(R:Type)->(α->Option R)->Option R}(b:Bool)(h:Det f)(h':Det g):Det (λR k=>cond b (f R k) (g R k)):=by
 cases b with
 |true=>exact h
 |false=>exact h'
theorem Det.bind{α β:Type}{f:(R:Type)->(α->Option R)->Option R}{g:α->(R:Type)->(β->Option R)->Option R}(h:Det f)(h':∀a,Det (g a)):Det (λR k=>f R λa=>g a R k):=by
 obtain⟨o,ho⟩:=h;cases o with
 |none=>exact⟨none,λR k=>ho R _⟩
 |some a=>obtain⟨o',xe⟩:=h' a;exact⟨o',λR k=>(ho R _).trans (xe R k)⟩
theorem Det.congr{α:Type}{f g:(R:Type)->(α->Option R)->Option R}(h:Det f)(e:∀R k,g R k=f R k):Det g:=by
 obtain⟨o,ho⟩:=h;exact⟨o,λR k=>(e R k).trans (ho R k)⟩
theorem Jm(hF:CFun E.C)(hz:E.nz=false)(p:Bool)(σ:St)(act:List (Nat×Bool))(o:Oper):Det (λR (k:St->Option R)=>run1 E p σ act o k):=by
 unfold run1;simp only[hz,j6];split
 .exact .no
 .exact .cond _ (.val _) .no
 .rename_i f args mk _;refine Det.bind (f:=λR k=>E.C f args R k) (hF f args) λret=>?_;split
  .exact .val _
  .exact .no
theorem QY:∀(l:List (Nat×Bool))(σ:St),Det (λR (k:St×Bool->Option R)=>uc l σ λa b=>k (a,b))
 |[],σ=> .val _
 |(s,w)::r,σ=>by
  simp only[uc]
  refine(Det.bind (QY r σ) (g:=λx R k=>match x.2 with
   |true=>match Hq r x.1 s with
    |some v=>cond v (k (x.1.setS s (.one (.one (.d .bool true))),w)) (k (x.1.setS s (.one (.one (.d .bool false))), !w))
    |none=>none
   |false=>k (x.1,false)) λx=>?_).congr λR k=>rfl
  obtain⟨σ1,a⟩:=x;cases a with
  |true=>
   dsimp only
   split
   .exact .cond _ (.val _) (.val _)
   .exact .no
  |false=>exact .val _
theorem juG(hF:CFun E.C)(hz:E.nz=false)(ops:Array Oper)(σ:St)(o:Oper):Det (λR (k:St->Option R)=>Bu E ops σ o k):=by
 unfold Bu;split
 .split
  .exact Jm hF hz _ _ _ _
  .exact .no
 .rename_i g _
  have pb:Det (λR (k:St->Option R)=>uc (σ.chain 40 g) σ λσ' a=>match a with
    |true=>run1 E true σ' (σ.chain 40 g) o k
    |false=>k (σ'.put o.dst (.one (.one .dead)))):=by
   refine(Det.bind (QY (σ.chain 40 g) σ) (g:=λx R k=>match x.2 with
    |true=>run1 E true x.1 (σ.chain 40 g) o k
    |false=>k (x.1.put o.dst (.one (.one .dead)))) λx=>?_).congr λR k=>rfl
   obtain⟨σ1,a⟩:=x;cases a with
   |true=>exact Jm hF hz _ _ _ _
   |false=>exact .val _
  dsimp only
  split
  .split
   .exact .cond _ (.val _) .no
   .exact pb
  .exact pb
theorem QZ(hF:CFun E.C)(hz:E.nz=false):∀(l:List Oper)(σ:St),Det (λR (k:St->Option R)=>oA E l σ k)
 |[],σ=> .val _
 |o::os,σ=>by
  simp only[oA];split
  .exact Det.bind (Jm hF hz false σ [] o) λσ'=>QZ hF hz os σ'
  .exact .no
theorem Q0(hF:CFun E.C)(hz:E.nz=false)(ops:Array Oper):∀(l:List Oper)(σ:St),Det (λR (k:St->Option R)=>yW E ops l σ k)
 |[],σ=> .val _
 |o::os,σ=>by
  simp only[yW];split
  .exact Det.bind (juG hF hz ops σ o) λσ'=>Q0 hF hz ops os σ'
  .exact .no
theorem jrb(hF:CFun E.C)(hz:E.nz=false)(ops:Array Oper)(σ:St):Det (λR (k:St->Option R)=>oD E ops σ k):=by
 unfold oD;split
 .exact QZ hF hz _ _
 .exact Q0 hF hz _ _ _
theorem Jn(hF:CFun E.C)(hz:E.nz=false)(M Ai:List Nat)(σ:St)(o:Oper):Det (λR (k:St->Option R)=>runD E M Ai σ o k):=by
 unfold runD;split
 .exact .no
 .split
  .exact .cond _ (.val _) .no
  .exact .no
 .rename_i f args mk _;refine Det.bind (f:=λR k=>E.C f args R k) (hF f args) λret=>?_;split
  .split
   .exact .val _
   .exact .no
  .exact .no
theorem jtp(hF:CFun E.C)(hz:E.nz=false)(ops:Array Oper)(M Ai:List Nat)(σ:St)(o:Oper):Det (λR (k:St->Option R)=>Bz E ops M Ai σ o k):=by
 unfold Bz;split
 .exact Jn hF hz _ _ _ _
 .split
  .split
   .exact .cond _ (.cond _ (Jn hF hz _ _ _ _) (.val _)) (.cond _ (.val _) (Jn hF hz _ _ _ _))
   .exact .val _
   .exact .no
  .exact .no
theorem Q1(hF:CFun E.C)(hz:E.nz=false)(ops:Array Oper)(cl:List Nat)(A:List (List Nat)):∀(l:List Oper)(i:Nat)(σ:St),Det (λR (k:St->Option R)=>yX E ops cl A l i σ k)
 |[],_,σ=> .val _
 |o::os,i,σ=>by
  simp only[yX];split
  .exact Det.bind (jtp hF hz ops _ _ σ o) λσ'=>Q1 hF hz ops cl A os (i+1) σ'
  .exact .no
theorem jpQ(hF:CFun E.C)(hz:E.nz=false)(ops:Array Oper)(A:List (List Nat))(σ:St):Det (λR (k:St->Option R)=>BA E ops A σ k):=by
 unfold BA;split
 .exact Q1 hF hz _ _ _ _ _ _
 .exact .no
theorem FE(hF:CFun E.C)(hz:E.nz=false)(hL:LFun E.L):∀(c:Code)(b:Nat)(σ:St),Det (λR (k:Ex×St->Option R)=>fh E b c σ λe σ'=>k (e,σ')):=by
 intro c;induction c with
 |skip=>intro b σ;exact .val _
 |region id ops draw=>
  intro b σ;cases draw with
  |true=>exact Det.bind (jpQ hF hz ops (E.dw id) σ) λσ'=> .val (Ex.normal,σ')
  |false=>exact Det.bind (jrb hF hz ops σ) λσ'=> .val (Ex.normal,σ')
 |seq x y pT pU=>
  intro b σ
  refine(Det.bind (pT b σ) (g:=λz R k=>match z.1 with
   |.normal=>fh E b y z.2 λe σ'=>k (e,σ')
   |e=>k (e,z.2)) λz=>?_).congr λR k=>by
    simp only[fh];congr 1;try (funext e σ';cases e<;>rfl)
  obtain⟨e,σ'⟩:=z;cases e with
  |normal=>exact pU b σ'
  |exit i=>exact .val _
  |ret=>exact .val _
 |cond c x y pT pU=>
  intro b σ;simp only[fh];split
  .exact .cond _ (pT b σ) (pU b σ)
  .exact .no
 |block id c ih=>
  intro b σ
  refine(Det.bind (ih id σ) (g:=λz R k=>match z.1 with
   |.exit i=>if i=id then k (.normal,z.2) else k (.exit i,z.2)
   |e=>k (e,z.2)) λz=>?_).congr λR k=>by
    simp only[fh];congr 1;try (funext e σ';cases e<;>rfl)
  obtain⟨e,σ'⟩:=z;cases e with
  |normal=>exact .val _
  |exit i=>
   dsimp only
   split
   .exact .val _
   .exact .val _
  |ret=>exact .val _
 |loop c ih=>
  intro b σ;simp only[fh];refine .cond _ .no ?_;split
  .rename_i s _;obtain⟨o,ho⟩:=hL b s;exact Det.bind (f:=λR k=>E.L b s R λe s'=>k (e,s')) ⟨o,λR k=>ho R _⟩ (g:=λz R k=>k (z.1,cR E.np (E.keepX b z.1) z.2)) λz=> .val _
  .exact .no
 |rangeFunc g ps x y _ _=>
  intro b σ;simp only[fh];split
  .split
   .rename_i kd _;split
    .rename_i s _;obtain⟨o,ho⟩:=hL b (.s (.one (.d (.int .i64) (BD kd (List.length _))))::s);exact Det.bind (f:=λR k=>E.L b _ R λe s'=>k (e,s')) ⟨o,λR k=>ho R _⟩ (g:=λz R k=>k (z.1,cR E.np (E.keepX b z.1) z.2)) λz=> .val _
    .exact .no
   .exact .no
  .exact .no
 |scope c ih=>intro b σ;exact ih b σ
 |label l=>intro b σ;exact .val _
 |exit i=>intro b σ;exact .val _
 |ret=>intro b σ;exact .val _
 |_=>intro b σ;exact .no
theorem jrc(hF:CFun E.C)(hz:E.nz=false)(hL:LFun E.L)(b:Nat)(g:Operand)(ps:Array Nat)(x y:Code)(s:Snap) :
  Det (λR (k:Option (List Item)×Ex×St->Option R)=>BG E b g ps x y s λp e σ'=>k (p,e,σ')):=by
 unfold BG;split
 .rename_i n s0;split
  .split
   .rename_i kd _;refine .cond _ (.val _) (.cond _ ?_ .no)
    refine(Det.bind (FE (E:=E.rnd ps x y) hF hz hL x 0 _) (g:=λz R k=>match z.1 with
     |.normal=>fh (E.rnd ps x y) 0 y z.2 λe σ'=>k (some [.s (.one (.d (.int .i64) (BE kd n)))],e,σ')
     |_=>none) λz=>?_).congr λR k=>by
      congr 1
      try (funext e σ';cases e<;>rfl)
    obtain⟨e,σ'⟩:=z;cases e with
    |normal=>exact Det.bind (FE (E:=E.rnd ps x y) hF hz hL y 0 σ') λz=> .val (_,z)
    |exit i=>exact .no
    |ret=>exact .no
   .exact .no
  .exact .no
 .exact .no
theorem jtq(hF:CFun E.C)(hz:E.nz=false)(hL:LFun E.L)(fn:Func)(args:List Arg):Det (λR (k:Ret->Option R)=>sb E fn args k):=by
 unfold sb;split
 .split
  .rename_i c _
   refine(Det.bind (FE hF hz hL c 0 (St.init args)) (g:=λz R k=>match z.1 with
    |.exit _=>none
    |_=>match wi E fn args z.2 with
     |some r=>k r
     |none=>none) λz=>?_).congr λR k=>rfl
   obtain⟨e,σ'⟩:=z;cases e<;>dsimp only<;>(try split)<;>first|exact .no|exact .val _
  .exact .no
 .exact .no
end
end Go.Lft
