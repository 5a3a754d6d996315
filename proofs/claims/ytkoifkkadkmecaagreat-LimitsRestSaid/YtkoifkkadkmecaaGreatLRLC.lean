/- Ii: what they do is what the qD says. -/
import Derived.Test.YtkoifkkadkmecaaGreatLRLB
import Derived.Laws.Cover3
import Derived.RangeFuncNested
import Derived.OrdersIn
open Option renaming some->B,none->À
open _root_ renaming Nat->G,List->H,Option->O,Array->Á,Bool->Æ,Int->Õ
open Bool renaming false->U,true->X,not_eq_true->ì
open Go renaming Value->Y,World->Z,Act->Â,Oper->Ã,Program->Ä,Operand->Ë,Code->Ï,Exit->Ð,ResultVar->Ò,LetsOut->ë,CallsIn->ó,Obj->ü
open Go.Region renaming wanted->Å,ready->å
open Go.World renaming putObj_heap_other->Ç,cell?_of_block->É,putObj_heap_same->Ù,alloc_heap_new->ß,cell?_alloc_lt->à
open List renaming getD_eq_getElem?_getD->È,getElem?_append_left->Ê,of_mem_zip->Ú,length->Û,getElem?_zipIdx->Þ,map_congr_left->á,zip_cons_cons->ä,range'_succ->ê,idxOf?_cons->í,length_set->ï,range'->ø,foldl->þ
open Go.Oper renaming upon_value->Ì,wp->Ö,upon_skip->Ü,upon_enter->î
open Array renaming replicate->Í,mapM_eq_mapM_toList->Ó,getElem?_eq_none->Ø,getElem_mem->é
open Go.Ending renaming returned->Î
open Go.Result renaming andThen_ok->Ñ
open Go.Fence renaming wide->Ô
open Go.Instr renaming sureAddr->Ý,loadAt->è,endRound->ñ
open Nat renaming add_assoc->ã,strongRecOn->ð
open Go.Sem renaming run_bind->æ,run_pure->ç,run_map->ú
set_option linter.unusedVariables false
namespace Go.Lft
section
variable{N:NT}{np:G}{S0:aY}{w0:Z}{refs:Refs}{σ:St}{a:Â}{w:Z}{S:aY}{γ:G->Y}
def eP(σ:St):Prop:=∀i,(σ.sl i).bare=X
theorem Eb{d:G}(hd:d<a.tmps.size)(v:Y)(j:G):tm (a.put (B d) v) j=if j=d then v else tm a j:=by
 unfold tm Go.Act.put;by_cases h:j=d
 .subst h;simp[hd]
 .have h':d≠j:=λe=>h e.symm;simp[h,Array.getElem?_setIfInBounds_ne h']
theorem VL{bx:G->BS}{d:G}(hd:d<a.tmps.size){v u:Y}{x:Slot}(h:iZ S w γ bx (tm a) x u):iZ S w γ bx (tm (a.put (B d) v)) (kill d x) u:=by
 cases x with
 |one c=>exact h
 |tup l=>exact h
 |und=>exact h
 |cnd s b c=>
  simp only[kill];split
  .exact⟨trivial,λh=>absurd rfl h⟩
  .rename_i bz;simp only[iZ,Eb hd,if_neg bz];exact h
theorem MQ(dst:O G)(v:Y):(a.put dst v).tmps.size=a.tmps.size:=by cases dst<;>simp[Go.Act.put]
theorem MR(dst:O G)(v:Y):(a.put dst v).defers=a.defers:=by cases dst<;>rfl
theorem Ec(hR:Rel N np S0 w0 refs σ a w S γ){dst:O G}(hd:∀d,dst=B d->N.ok d){s:Slot}{v:Y}(hs:iZ S w γ σ.bx (tm a) s v) :
  Rel N np S0 w0 refs (σ.put dst s) (a.put dst v) w S γ:=by
 cases dst with
 |none=>exact hR
 |some d=>
  have gU:d<a.tmps.size:=by rw[hR.size];exact(hd d rfl).1
  refine⟨(MQ _ _).trans hR.size,(MR _ _).trans hR.defers,λi=>?_,hR.box,hR.own,hR.apart,hR.ext,hR.new,hR.here,hR.below,hR.grow,hR.os,hR.tape,hR.output,hR.par,hR.kept,λi u h=>?_⟩
  .show iZ S w γ σ.bx (tm (a.put (B d) v)) (kill d (if i=d then s else σ.sl i)) (tm (a.put (B d) v) i);rw[Eb gU];split
   .exact VL gU hs
   .exact VL gU (hR.slot i)
  .obtain⟨h1,h2⟩:=hR.fix i u h;refine⟨h1,?_⟩;show tm (a.put (B d) v) i=u;rw[Eb gU,if_neg]
   .exact h2
   .rintro rfl
    have:=(hd i rfl).2;rw[h1]at this;simp at this
theorem VM{d:G}{x:Slot}(h:x.bare=X):kill d x=x:=by cases x<;>first|rfl|simp[Slot.bare]at h
theorem VN(hR:Rel N np S0 w0 refs σ a w S γ)(hc:eP σ){dst:O G}(hd:∀d,dst=B d->N.ok d){s:Slot}{v:Y}(hs:iZ S w γ σ.bx (tm a) s v)(hb:s.bare=X) :
  Rel N np S0 w0 refs (σ.setD dst s) (a.put dst v) w S γ/\eP (σ.setD dst s):=by
 have he:σ.setD dst s=σ.put dst s:=by
  cases dst with
  |none=>rfl
  |some d=>
   simp only[St.setD,St.setS,St.put];congr 1;funext j;split
   .exact(VM hb).symm
   .exact(VM (hc j)).symm
 refine⟨he▸Ec hR hd hs,λi=>?_⟩;cases dst with
 |none=>exact hc i
 |some d=>
  simp only[St.setD,St.setS];split
  .exact hb
  .exact hc i
theorem MS{o:Ã}(h:uD N o=X):∀d,o.dst=B d->N.ok d:=by
 intro d hd;simpa[uD,hd,NT.ok]using h
theorem VO{u:Ups}(h:eP σ):eP (σ.upd u):=by
 intro i;rw[B6];exact h i
theorem jxw{P:Ä}{E:Env}(hT:db P E.T)(hR:Rel E.N E.np S0 w0 refs σ a w S γ){o:Ã}{e:Æ}(h:nilT E σ o=B e) :
  ∃v b,(execOp a.eval o).run P w = .ok (.value v) w/\v = .bool b/\(b=X->e=X):=by
 unfold nilT at h;split at h
 .rename_i t x y ty cj;split at h
  .rename_i el xs ti hx hy Dz;split at h
   .rename_i hl;simp only[j5]at h;subst h;have ex:=sH hR x;have ey:=sH hR y;rw[hx]at ex;rw[hy]at ey;obtain⟨ad,cap,dy,hlen,_,Ed,_⟩:=ex.1;have VP:a.eval x = .slice ad (Û xs) cap:=by simpa using dy
    have huy:a.eval y = .slice À 0 0:=ey.1;obtain⟨a',bO⟩:=Ma hl;obtain⟨hd,_⟩:=pG hT Dz bO;refine⟨.bool ad.isNone,ad.isNone,?_,rfl,λhb=>?_⟩
    .simp only[execOp,cj,VP,huy,eqGuard,binOp];simp[run_equal_slice_nil w t ti.elem ad (Û xs) cap hd]
    .have:ad=none:=by cases ad<;>simp_all
     have:=Ed this;have:Û xs=0:=omg_;cases xs with
     |nil=>rfl
     |cons=>simp at this
   .simp at h
  .simp at h
 .simp at h
theorem Ij{P:Ä}{E:Env}(hT:db P E.T)(hC:oo P E.C)(hR:Rel E.N E.np S0 w0 refs σ a w S γ){act:H (G×Æ)}(bn:sJ (tm a) act){p:Æ}
  (hc:p=U->eP σ){o:Ã}(hd:uD E.N o=X){R:Type}{k:St->O R}{r:R}(h:run1 E p σ act o k=B r){next:Â->Z->Prop}{Q:Ð->Â->Z->Prop}
  (hn:∀σ' a' w' S' γ',Rel E.N E.np S0 w0 refs σ' a' w' S' γ'->(p=U->eP σ')->k σ'=B r->next a' w'):o.wp P a w next Q:=by
 have hd:=MS hd
 have dL:∀(u:Ups)(s:Slot)(v:Y)(w':Z)(S':aY)(γ':G->Y),Rel E.N E.np S0 w0 refs (σ.upd u) a w' S' γ'->iZ S' w' γ' (σ.upd u).bx (tm a) s v->s.bare=X->
   k (cond p ((σ.upd u).put o.dst s) ((σ.upd u).setD o.dst s))=B r->next (a.put o.dst v) w':=by
  intro u s v w' S' γ' dI hs hb hk;cases p with
  |true=>exact hn _ _ _ _ _ (Ec dI hd hs) smp_ hk
  |false=>obtain⟨h1,h2⟩:=VN dI (VO (hc rfl)) hd hs hb;exact hn _ _ _ _ _ h1 (λ_=>h2) hk
 unfold run1 at h;split at h
 .rename_i e he
  have he:nilT E σ o=B e:=by
   cases hz:E.nz with
   |true=>rw[hz]at he;exact he
   |false=>rw[hz]at he;simp at he
  obtain⟨v,b,aS,rfl,hb⟩:=jxw (P:=P) hT hR he;obtain⟨h1,h2⟩:=Š h;unfold Ö;rw[aS,Ì];cases b with
  |true=>exact dL [] (.one (.one (.d .bool X))) (.bool X) w S γ hR ⟨rfl,λ_=>rfl⟩ rfl (h2 (hb rfl))
  |false=>exact dL [] (.one (.one (.d .bool U))) (.bool U) w S γ hR ⟨rfl,λ_=>rfl⟩ rfl h1
 split at h
 .simp at h
 .rename_i lI s u ho;cases lI with
  |false=>simp at h
  |true=>
   obtain⟨⟨v,w',S',γ',aS,dI,hs⟩,hb⟩:=MN hT hR bn (λ_=> .inl rfl) ho;unfold Ö;rcases aS with aS|⟨aS,rfl⟩
   .rw[aS,Ì];exact dL u s v w' S' γ' dI hs hb h
   .rw[aS,Ü];exact dL u s undef w' S' γ' dI hs hb h
 .rename_i f args mk ho;obtain⟨hf,gE⟩:=hC f args R _ r h;obtain⟨vals,aS,oZ,hb⟩:=VK hR bn (λ_=> .inl rfl) ho hf gE;unfold Ö;rw[aS,î];refine oZ.mono ?_
  rintro e w' ⟨ret,hk,aA⟩
  split at hk
  .rename_i s u cP;obtain⟨v,S',γ',rfl,dI,hs⟩:=aA s u cP;exact dL u s v w' S' γ' dI hs (hb ret s u cP) hk
  .simp at hk
theorem VQ{P:Ä}{E:Env}(hT:db P E.T)(hC:oo P E.C){ops:Á Ã}(eU:bare ops=X){R:Type}{k:St->O R}{r:R}{Q:Ð->Â->Z->Prop}
  (hn:∀σ' a' w' S' γ',Rel E.N E.np S0 w0 refs σ' a' w' S' γ'->eP σ'->k σ'=B r->Q .normal a' w') :
  ∀(n i:G)(σ:St)(a:Â)(w:Z)(S:aY)(γ:G->Y),i+n=ops.size->Rel E.N E.np S0 w0 refs σ a w S γ->eP σ->rO E (ops.toList.drop i) σ k=B r->
   wpOps P ops Q (ø i n) a w
 |0,i,σ,a,w,S,γ,hi,hR,hc,h=>by
  rw[jd sqo_]at h;exact hn _ _ _ _ _ hR hc h
 |n+1,i,σ,a,w,S,γ,hi,hR,hc,h=>by
  have aq:i<ops.size:=omg_;rw[jb (by simpa using aq)]at h;simp only[rO]at h;split at h
  .rename_i hd;have ho:ops[i]? = B ops[i]:=kb aq;simp only[ê,wpOps,ho];have hg:ops[i].guard=none:=by have:=kj.1 eU ops[i] smp_;simpa using this
   have hw:Å ops[i] (yielded ops a.tmps)=true:=by simp[Å,hg]
   simp only[hw,if_true];refine .inl (Ij hT hC hR (act:=[]) (λg hg=>by simp at hg) (p:=U) (λ_=>hc) (by simpa using hd) (by simpa using h) (λσ' a' w' S' γ' dI fP hk=>?_));exact VQ hT hC eU hn n (i+1) σ' a' w' S' γ' omg_ dI (fP rfl) hk
  .simp at h
theorem Ik{ops:Á Ã}{o:Ã}{g:G×Æ}(h:qF ops o=B g):Å o (yielded ops a.tmps)=X↔tm a g.1 = .bool g.2:=by
 unfold qF at h;split at h
 .simp at h
 .rename_i j wn MT;split at h
  .rename_i oj lU;split at h
   .rename_i s hs;simp only[j5]at h;subst h;simp only[Å,MT,yielded,lU,j4,hs,tm];cases hq:a.tmps[s]? with
    |none=>
     have:a.tmps.getD s undef=undef:=by simp[hq]
     rw[this];simp[undef]
    |some v=>
     have:a.tmps.getD s undef=v:=by simp[hq]
     rw[this];cases v<;>simp
   .simp at h
  .simp at h
theorem MU(hR:Rel N np S0 w0 refs σ a w S γ):∀(n:G)(g:G×Æ),tm a g.1 = .bool g.2->sJ (tm a) (σ.chain n g)
 |0,g,h=>by intro x hx;simp only[St.chain,kr]at hx;subst hx;exact h
 |n+1,g,h=>by
  simp only[St.chain];have hs:=hR.slot g.1;split
  .rename_i s b c hc;rw[hc]at hs
   have h2:tm a s = .bool b:=by
    rcases hs with hs|hs
    .exact hs.1
    .have:tm a g.1=undef:=hs.2;rw[h]at this;simp[undef]at this
   intro x hx;rcases je.1 hx with rfl|hx
   .exact h
   .exact MU hR n (s,b) h2 x hx
  .intro x hx;simp only[kr]at hx;subst hx;exact h
theorem jz3:∀(n:G)(g:G×Æ),g∈σ.chain n g
 |0,g=>by simp[St.chain]
 |n+1,g=>by simp only[St.chain];split<;>simp
theorem VR(hR:Rel N np S0 w0 refs σ a w S γ):∀{l:H (G×Æ)}{b:Æ},actB σ l=B b->sJ (tm a) l->b=X
 |[],b,h,_=>by simp[actB]at h;exact h
 |(s,wn)::r,b,h,ha=>by
  have ht:tm a s = .bool wn:=ha (s,wn) smp_;simp only[actB]at h;split at h
  .rename_i v hv
   have hvv:v=wn:=by
    have hs:=hR.slot s;unfold gval at hv;split at hv
    .rename_i v' dS;simp only[j5]at hv;subst hv;rw[dS]at hs;have:tm a s = .bool v':=uE hs;rw[ht]at this;simpa using this.symm
    .rename_i s' b' v' dS;simp only[j5]at hv;subst hv;rw[dS]at hs;rcases hs with hs|hs
     .have:tm a s = .bool v':=uE hs.2;rw[ht]at this;simpa using this.symm
     .have:tm a s=undef:=hs.2;rw[ht]at this;simp[undef]at this
    .simp at hv
   subst hvv;split at h
   .simp only[j5]at h;rw[<-h];cases v<;>rfl
   .split at h
    .rename_i b2 fv;simp only[j5]at h;have:=VR hR fv (λg hg=>ha g (by simp[hg]));rw[<-h,this];cases v<;>rfl
    .simp at h
  .simp at h
theorem MV(hR:Rel N np S0 w0 refs σ a w S γ){s:G}{x:Slot}(h:iZ S w γ σ.bx (tm a) x (tm a s)):Rel N np S0 w0 refs (σ.setS s x) a w S γ:=by
 refine⟨hR.size,hR.defers,λi=>?_,hR.box,hR.own,hR.apart,hR.ext,hR.new,hR.here,hR.below,hR.grow,hR.os,hR.tape,hR.output,hR.par,hR.kept,hR.fix⟩;simp only[St.setS];split
 .rename_i hi;subst hi;exact h
 .exact hR.slot i
theorem VS{R:Type}:∀(l:H (G×Æ)){σ:St}{k:St->Æ->O R}{r:R},Rel N np S0 w0 refs σ a w S γ->xo l σ k=B r->
  ∃σ' b,Rel N np S0 w0 refs σ' a w S γ/\k σ' b=B r/\(b=X↔sJ (tm a) l)
 |[],σ,k,r,hR,h=>⟨σ,X,hR,h,by simp[sJ]⟩
 |(s,wn)::l,σ,k,r,hR,h=>by
  simp only[xo]at h;obtain⟨σ1,b1,bV,dE,dR⟩:=VS l hR h;cases b1 with
  |false=>
   refine⟨σ1,U,bV,dE,?_⟩;simp only[kv,false_iff]at dR ⊢
   exactλha=>dR (λg hg=>ha g (by simp[hg]))
  |true=>
   have uO:=dR.1 rfl;simp only at dE;split at dE
   .rename_i v hv
    have ht:tm a s = .bool v:=by
     have hs:=bV.slot s;unfold LN at hv;split at hv
     .rename_i v' dS;simp only[j5]at hv;subst hv;rw[dS]at hs;exact uE hs
     .rename_i s' b' v' dS;split at hv
      .rename_i hm;simp only[j5]at hv;subst hv;rw[dS]at hs;have kS:(s',b')∈l:=by simpa using hm
       have:=uO _ kS;rcases hs with hs|hs
       .exact uE hs.2
       .exact absurd this hs.1
      .simp at hv
     .simp at hv
    have Ee:∀b,b=v->Rel N np S0 w0 refs (σ1.setS s (.one (.one (.d .bool b)))) a w S γ:=by
     rintro b rfl
     refine MV bV ⟨?_,λ_=>?_⟩
     .show Rep S w .bool b [tm a s];rw[ht];rfl
     .rw[ht];rfl
    cases v with
    |true=>
     simp only[j6]at dE;refine⟨_,wn,Ee X rfl,dE,?_⟩;constructor
     .rintro rfl g hg
      rcases je.1 hg with rfl|hg
      .exact ht
      .exact uO g hg
     .intro ha;have:=ha (s,wn) smp_;rw[ht]at this;simpa using this.symm
    |false=>
     simp only[j7]at dE;refine⟨_, !wn,Ee U rfl,dE,?_⟩;constructor
     .intro hw g hg;have MW:wn=false:=by simpa using hw
      subst MW;rcases je.1 hg with rfl|hg
      .exact ht
      .exact uO g hg
     .intro ha;have:=ha (s,wn) smp_;rw[ht]at this;have:U=wn:=by simpa using this
      rw[<-this];rfl
   .simp at dE
theorem jEp{P:Ä}{E:Env}(hT:db P E.T)(hC:oo P E.C)(hR:Rel E.N E.np S0 w0 refs σ a w S γ){ops:Á Ã}{o:Ã}(hd:uD E.N o=X)
  {R:Type}{k:St->O R}{r:R}(h:Dj E ops σ o k=B r){next:Â->Z->Prop}{Q:Ð->Â->Z->Prop}
  (hn:∀σ' a' w' S' γ',Rel E.N E.np S0 w0 refs σ' a' w' S' γ'->k σ'=B r->next a' w') :
  if Å o (yielded ops a.tmps) then o.wp P a w next Q\/(o.asks P a w/\ë Q) else next (a.put o.dst undef) w:=by
 have pM:=MS hd;unfold Dj at h;split at h
 .split at h
  .rename_i hg;have hw:Å o (yielded ops a.tmps)=true:=by simp[Å,hg]
   simp only[hw,if_true];exact .inl (Ij hT hC hR (act:=[]) (λg hg=>by simp at hg) (p:=X) smp_ hd h (λσ' a' w' S' γ' dI _ hk=>hn σ' a' w' S' γ' dI hk))
  .simp at h
 .rename_i g hg;dsimp only at h;have Ef:=Ik (a:=a) hg
  have xT:xo (σ.chain 40 g) σ (λσ' a=>match a with
    |true=>run1 E X σ' (σ.chain 40 g) o k
    |false=>k (σ'.put o.dst (.one (.one .dead))))=B r->
    if Å o (yielded ops a.tmps) then o.wp P a w next Q\/(o.asks P a w/\ë Q) else next (a.put o.dst undef) w:=by
   intro hs;obtain⟨σ',b,dI,hk,hb⟩:=VS _ hR hs;cases b with
   |true=>have bn:=hb.1 rfl;have hw:=Ef.2 (bn g (jz3 40 g));simp only[hw,if_true];exact .inl (Ij hT hC dI bn (p:=X) smp_ hd hk (λσ' a' w' S' γ' dI _ hk=>hn σ' a' w' S' γ' dI hk))
   |false=>
    have hw:¬Å o (yielded ops a.tmps)=true:=λhw=>by
     have:=hb.2 (MU hR 40 g (Ef.1 hw));simp at this
    simp only[hw];exact hn _ _ _ _ _ (Ec dI pM (s:= .one (.one .dead)) (v:=undef) ⟨trivial,λh=>absurd rfl h⟩) hk
  split at h
  .rename_i lI c ho;split at h
   .rename_i ab bt;by_cases hw:Å o (yielded ops a.tmps)=X
    .have bn:=MU hR 40 g (Ef.1 hw);have:=VR hR bt bn;subst this;simp only[hw,if_true];cases lI with
     |false=>simp at h
     |true=>
      simp only[jl,Bool.or_false,j6]at h;obtain⟨⟨v,w',S',γ',aS,dI,hs⟩,hb⟩:=MN hT hR bn (λ_=> .inl rfl) ho;have nG:=Ec dI pM (s:= .cnd g.1 g.2 c) (v:=v) (.inl ⟨Ef.1 hw,hs⟩);refine .inl ?_;unfold Ö;rcases aS with aS|⟨aS,rfl⟩
      .rw[aS,Ì];exact hn _ _ _ _ _ nG h
      .rw[aS,Ü];exact hn _ _ _ _ _ nG h
    .simp only[hw]
     have hk:k (σ.put o.dst (.cnd g.1 g.2 c))=B r:=by
      cases hc:(lI || !ab) with
      |true=>rw[hc]at h;exact h
      |false=>rw[hc]at h;simp at h
     exact hn _ _ _ _ _ (Ec hR pM (s:= .cnd g.1 g.2 c) (v:=undef) (.inr ⟨λhh=>hw (Ef.2 hh),rfl⟩)) hk
   .exact xT h
  .exact xT h
theorem jz5(hR:Rel N np S0 w0 refs σ a w S γ):Rel N np S0 w0 refs σ.clear a w S γ/\eP σ.clear:=by
 refine⟨⟨hR.size,hR.defers,λi=>?_,hR.box,hR.own,hR.apart,hR.ext,hR.new,hR.here,hR.below,hR.grow,hR.os,hR.tape,hR.output,hR.par,hR.kept,hR.fix⟩,λi=>?_⟩
 .have:=hR.slot i;simp only[St.clear];cases hs:σ.sl i with
  |one c=>rw[hs]at this;exact this
  |tup l=>rw[hs]at this;exact this
  |und=>rw[hs]at this;exact this
  |cnd s b c=>exact⟨trivial,λh=>absurd rfl h⟩
 .simp only[St.clear];cases σ.sl i<;>rfl
theorem VT{P:Ä}{E:Env}(hT:db P E.T)(hC:oo P E.C){ops:Á Ã}{R:Type}{k:St->O R}{r:R}{Q:Ð->Â->Z->Prop}
  (hn:∀σ' a' w' S' γ',Rel E.N E.np S0 w0 refs σ' a' w' S' γ'->eP σ'->k σ'=B r->Q .normal a' w') :
  ∀(n i:G)(σ:St)(a:Â)(w:Z)(S:aY)(γ:G->Y),i+n=ops.size->Rel E.N E.np S0 w0 refs σ a w S γ->BR E ops (ops.toList.drop i) σ k=B r->
   wpOps P ops Q (ø i n) a w
 |0,i,σ,a,w,S,γ,hi,hR,h=>by
  rw[jd sqo_]at h;obtain⟨h1,h2⟩:=jz5 hR;exact hn _ _ _ _ _ h1 h2 h
 |n+1,i,σ,a,w,S,γ,hi,hR,h=>by
  have aq:i<ops.size:=omg_;rw[jb (by simpa using aq)]at h;simp only[BR]at h;split at h
  .rename_i hd;have ho:ops[i]? = B ops[i]:=kb aq;simp only[ê,wpOps,ho];exact jEp hT hC hR (by simpa using hd) (by simpa using h) (λσ' a' w' S' γ' dI hk=>VT hT hC hn n (i+1) σ' a' w' S' γ' omg_ dI hk)
  .simp at h
theorem VU{P:Ä}{E:Env}(hT:db P E.T)(hC:oo P E.C)(hR:Rel E.N E.np S0 w0 refs σ a w S γ)(hc:eP σ){ops:Á Ã}{R:Type}{k:St->O R}{r:R}
  {Q:Ð->Â->Z->Prop}(hn:∀σ' a' w' S' γ',Rel E.N E.np S0 w0 refs σ' a' w' S' γ'->eP σ'->k σ'=B r->Q .normal a' w')(h:rP E ops σ k=B r) :
  wpOps P ops Q (List.range ops.size) a w:=by
 rw[List.range_eq_range'];unfold rP at h;split at h
 .rename_i hb;exact VQ hT hC hb hn ops.size 0 σ a w S γ omg_ hR hc (by simpa using h)
 .exact VT hT hC hn ops.size 0 σ a w S γ omg_ hR (by simpa using h)
end
section
variable{N:NT}{np:G}{S0:aY}{w0:Z}{refs:Refs}{σ:St}{a:Â}{w:Z}{S:aY}{γ:G->Y}
theorem jBS(hR:Rel N np S0 w0 refs σ a w S γ){k:G}{b b':Bx}(hk:σ.bx k = .live b)(pH:lJ b b')(cL:∀bx',BxLe γ σ.bx γ bx'->fK S w γ bx' k b') :
  Rel N np S0 w0 refs (σ.setB k (.live b')) a w S γ:=by
 have hle:BxLe γ σ.bx γ (σ.setB k (.live b')).bx:=by
  intro k' bH;by_cases h:k'=k
  .subst h;rw[hP];exact⟨smp_,rfl,λx hx=>by simp at hx;subst hx;exact⟨b,hk,pH⟩⟩
  .rw[dn σ _ h];exact⟨bH,rfl,λx hx=>⟨x,hx,.refl x⟩⟩
 have bU:∀k' x,(σ.setB k (.live b')).bx k' = .live x->∃x',σ.bx k' = .live x':=by
  intro k' x hx;by_cases h:k'=k
  .subst h;exact⟨b,hk⟩
  .rw[dn σ _ h]at hx;exact⟨x,hx⟩
 refine Rel.step (bx':=(σ.setB k (.live b')).bx) hR (.refl S w) hle ?_ ?_ ?_ hR.new hR.here hR.below hR.grow hR.os hR.tape hR.output (λg _ _ h=>⟨rfl,λk' b' aW=>by obtain⟨b2,fv⟩:=bU k' b' aW;exact h k' b2 fv⟩)
 .intro k' x hx;by_cases h:k'=k
  .subst h;rw[hP]at hx;simp at hx;subst hx;exact cL _ hle
  .rw[dn σ _ h]at hx;exact fK.keep (.refl S w) hle rfl (λg hg=>⟨rfl,λ_=>Iff.rfl⟩) (hR.box k' x hx)
 .intro k' x g hx hg;obtain⟨x',iD⟩:=bU k' x hx;exact hR.own k' x' g iD hg
 .intro k1 k2 x1 x2 g bz h1 h2 hg;obtain⟨y1,hy1⟩:=bU k1 x1 h1;obtain⟨y2,MX⟩:=bU k2 x2 h2;exact hR.apart k1 k2 y1 y2 g bz hy1 MX hg
theorem All2.set_left{α β:Type}{R:α->β->Prop}:∀{as:H α}{bs:H β},All2 R as bs->∀(i:G)(x:α)(b:β),bs[i]? = B b->R x b->All2 R (as.set i x) bs
 |[],[],_,i,x,b,hb,_=>by simp at hb
 |_::_,_::_,h,0,x,b,hb,hr=>by simp at hb;subst hb;exact⟨hr,h.2⟩
 |_::_,_::_,h,i+1,x,b,hb,hr=>⟨h.1,All2.set_left h.2 i x b (by simpa using hb) hr⟩
 |[],_::_,h,_,_,_,_,_=>h.elim
 |_::_,[],h,_,_,_,_,_=>h.elim
theorem VV:∀(l:H (Loc×Ty))(σ σ':St)(S:aY),Rel N np S0 w0 refs σ a w S γ->eP σ->Dq np l σ=B σ'->∃S',Rel N np S0 w0 refs σ' a w S' γ/\eP σ'
 |[],σ,σ',S,hR,hc,h=>by simp[Dq]at h;subst h;exact⟨S,hR,hc⟩
 |(l,t)::r,σ,σ',S,hR,hc,h=>by
  simp only[Dq]at h;split at h
  .rename_i v u hv;have bK:=D9 (np:=np) (σ:=σ) (rd:=mskM σ.bx) (RdR.msk λ_=> .inl rfl)
   suffices hs:∃S',Rel N np S0 w0 refs (zP (σ.upd u) l (.d t v)) a w S' γ/\eP (zP (σ.upd u) l (.d t v)) by
    obtain⟨S1,bV,fL⟩:=hs;exact VV r _ σ' S1 bV fL h
   cases l with
   |slot i=>
    cases dS:σ.sl i with
    |tup x=>simp only[jY,dS]at hv;simp[kK]at hv
    |cnd x y z=>simp only[jY,dS]at hv;simp[kK]at hv
    |und=>simp only[jY,dS]at hv;simp[kK]at hv
    |one c=>
     cases c with
     |st ls=>simp only[jY,dS]at hv;simp[kK]at hv
     |av n b xs=>simp only[jY,dS]at hv;simp[kK]at hv
     |one x=>
      simp only[jY,dS]at hv;have xU:=hR.slot i;rw[dS]at xU;obtain⟨fh,hp⟩:=xy bK hR.box hv xU.1;obtain⟨S1,bV,dh,jK,_⟩:=qN u σ S hR fh;have bR:=hp S1 w dh jK;refine⟨S1,?_,?_⟩
      .simp only[zP,B6,dS];exact MV bV ⟨bR,λ_=>Rep.one _ _ _ bR _ (kr.2 rfl)⟩
      .intro j;simp only[zP,B6,dS,St.setS];split
       .rfl
       .exact hc j
   |cell k c=>
    have o5:jY σ (.cell k c) ≠ .dead:=λhd=>by rw[hd]at hv;simp[kK]at hv
    cases fT:σ.bx k with
    |free=>simp[jY,fT]at o5
    |gone=>simp[jY,fT]at o5
    |live b=>
     cases b with
     |lst e b xs f=>simp[jY,fT]at o5
     |arr n b xs=>simp[jY,fT]at o5
     |cell ls f=>
      cases f with
      |true=>simp[jY,fT]at o5
      |false=>
       have hl:jY σ (.cell k c)=ls.getD c .dead:=by simp[jY,fT]
       rw[hl]at hv o5;obtain⟨g,cur,e,h1,h2,h3,h4,h5,h6⟩:=hR.box k _ fT;cases hg:ls[c]? with
       |none=>simp[hg]at o5
       |some x=>
        have hgx:ls.getD c .dead=x:=by simp[hg]
        rw[hgx]at hv;obtain⟨z,hz,Cn⟩:=h3.get c x hg;obtain⟨fh,hp⟩:=xy bK hR.box hv Cn;obtain⟨S1,bV,dh,jK,dG⟩:=qN u σ S hR fh;have bR:=hp S1 w dh jK;have wo:=dG.cell fT;refine⟨S1,?_,?_⟩
        .simp only[zP,wo];refine jBS bV wo trivial (λbx' hle=>?_);obtain⟨g',kR,e',nr,mo,xO,h4',h5',h6'⟩:=bV.box k _ wo;rw[h1]at nr;simp at nr;subst nr;rw[h2]at mo;simp at mo;obtain⟨rfl,rfl⟩:=mo;exact⟨g,cur,e,h1,h2,by rw[ï];exact All2.set_left (xO.mono (λx u hx=>bZ.keep (.refl S1 w) hle hx)) c (.d t v) z hz bR,by rw[ï];exact h4',h5',smp_⟩
        .intro j;simp only[zP,wo];show ((σ.upd u).sl j).bare=X;rw[B6];exact hc j
  .simp at h
theorem Eg:∀(l:H qE)(σ σ':St)(S:aY),Rel N np S0 w0 refs σ a w S γ->eP σ->xq np l σ=B σ'->∃S',Rel N np S0 w0 refs σ' a w S' γ/\eP σ'
 |[],σ,σ',S,hR,hc,h=>by simp[xq]at h;subst h;exact⟨S,hR,hc⟩
 |x::r,σ,σ',S,hR,hc,h=>by
  simp only[xq]at h;split at h
  .split at h
   .split at h
    .split at h
     .rename_i e b xs f fT;split at h
      .simp at h
      .rename_i hp;simp only[y8,not_or,ì]at hp;obtain⟨S1,bV,_⟩:=Mc hR hp.2 fT hp.1;exact Eg r _ σ' S1 bV (λi=>hc i) h
     .simp at h
    .exact Eg r σ σ' S hR hc h
   .exact Eg r σ σ' S hR hc h
  .exact Eg r σ σ' S hR hc h
theorem r6:∀{l:H G}{i j:G},l.idxOf? i=B j->l[j]? = B i
 |[],i,j,h=>by simp at h
 |x::l,i,j,h=>by
  rw[í]at h;split at h
  .rename_i he;simp at h he;subst h;subst he;rfl
  .cases hq:l.idxOf? i with
   |none=>simp[hq]at h
   |some j'=>simp[hq]at h;subst h;simpa using r6 hq
theorem MY:∀{l:H G}{i:G},l.idxOf? i=À->i∉l
 |[],i,_=>smp_
 |x::l,i,h=>by
  rw[í]at h;split at h
  .simp at h
  .rename_i he;have hq:l.idxOf? i=none:=by simpa using h
   have:=MY hq;simp only[je,not_or];exact⟨λe=>he (by simp[e]),this⟩
theorem M0{e:G}{t:Ty}{l:Loc}{k:O G}{xs:H t.den}{f:Æ}(h:BU σ e t l=B (k,xs,f)) :
  (k=À/\isM e=U/\xs=[]/\jY σ l = .nil)\/∃k0,k=B k0/\jY σ l = .ol k0/\σ.bx k0 = .live (.lst e t xs f):=by
 unfold BU at h;split at h
 .rename_i hl;split at h
  .simp at h
  .rename_i hm;simp only[j5,j9]at h;exact .inl ⟨h.1.symm,by simpa using hm,h.2.1.symm,hl⟩
 .rename_i k0 hl;split at h
  .rename_i e' t' dj f' hb;split at h
   .rename_i v jI;split at h
    .rename_i he;simp only[j5,j9]at h;obtain⟨rfl,rfl,rfl⟩:=h;have:=oG jI;cases this;subst he;exact .inr ⟨k0,rfl,hl,hb⟩
    .simp at h
   .simp at h
  .simp at h
 .simp at h
theorem Il{e:G}{t:Ty}:∀{ls:H Loc}{k:O G}{xs:H t.den}{f:Æ},zO σ e t ls=B (k,xs,f)->
  (∃l∈ls,BU σ e t l=B (k,xs,f))/\∀l∈ls,∃dj f',BU σ e t l=B (k,dj,f')
 |[],_,_,_,h=>by simp[zO]at h
 |[l],k,xs,f,h=>by
  simp only[zO]at h;exact⟨⟨l,smp_,h⟩,λl' iS=>by simp at iS;subst iS;exact⟨_,_,h⟩⟩
 |l::l2::ls,k,xs,f,h=>by
  simp only[zO]at h;split at h
  .rename_i k1 H5 f1 k2 UJ f2 h1 h2;split at h
   .rename_i hk;simp only[j5,j9]at h;obtain⟨rfl,rfl,rfl⟩:=h;subst hk;obtain⟨_,aA⟩:=Il h2;refine⟨⟨l,smp_,h1⟩,λl' iS=>?_⟩;rcases je.1 iS with rfl|iS
    .exact⟨_,_,h1⟩
    .exact aA l' iS
   .simp at h
  .simp at h
def VW(np:G)(σ:St)(bs:H G)(x:qE)(it:Item)(src:O G):Prop:=
 ∃xs f f',zO σ x.e x.a x.locs=B (src,xs,f)/\it = .b (.live (.lst x.e x.a xs f'))/\∀k0,src=B k0->f'=f/\k0∉bs/\parK np k0=U
theorem VX{bs:H G}:∀{L:H qE}{is:H Item}{ks:H G},BV np σ bs L=B (is,ks)->
  ∃fX:H (O G),ks=fX.filterMap id/\ks.Nodup/\∀(j:G)(x:qE),L[j]? = B x->∃it src,is[j]? = B it/\fX[j]? = B src/\VW np σ bs x it src
 |[],is,ks,h=>by
  simp[BV]at h;obtain⟨rfl,rfl⟩:=h;exact⟨[],rfl,vq,λj x hx=>by simp at hx⟩
 |x::L,is,ks,h=>by
  simp only[BV]at h;split at h
  .rename_i k xs f is' Up h1 h2;obtain⟨fX,e1,e2,e3⟩:=VX h2;split at h
   .simp only[j5,j9]at h;obtain⟨rfl,rfl⟩:=h;refine⟨À::fX,by simp[e1],e2,λj y hy=>?_⟩;cases j with
    |zero=>simp at hy;subst hy;exact⟨_,À,rfl,rfl,xs,f,x.frz,h1,rfl,smp_⟩
    |succ j=>exact e3 j y (by simpa using hy)
   .rename_i k0;split at h
    .simp at h
    .rename_i hn;simp only[y8,not_or,ì,qr,js]at hn;simp only[j5,j9]at h;obtain⟨rfl,rfl⟩:=h;refine⟨B k0::fX,by simp[e1],zh.2 ⟨hn.1.1,e2⟩,λj y hy=>?_⟩;cases j with
     |zero=>simp at hy;subst hy;exact⟨_,B k0,rfl,rfl,xs,f,f,h1,rfl,λk1 dE=>by simp at dE;subst dE;exact⟨rfl,hn.1.2,hn.2⟩⟩
     |succ j=>exact e3 j y (by simpa using hy)
  .simp at h
theorem VY:∀{fX:H (O G)},(fX.filterMap id).Nodup->∀{j j' k:G},fX[j]? = B (B k)->fX[j']? = B (B k)->j=j'
 |[],_,j,_,_,h,_=>by simp at h
 |s::fX,hn,j,j',k,h,h'=>by
  have fy:∀{i:G},fX[i]? = B (B k)->k∈fX.filterMap id:=λhi=>vu.2 ⟨B k,ko hi,rfl⟩
  have M1:(fX.filterMap id).Nodup:=by
   cases s with
   |none=>simpa using hn
   |some y=>simp at hn;exact hn.2
  cases j with
  |zero=>
   cases j' with
   |zero=>rfl
   |succ j'=>simp at h h';subst h;simp at hn;exact absurd (by simpa using fy h') hn.1
  |succ j=>
   cases j' with
   |zero=>simp at h h';subst h';simp at hn;exact absurd (by simpa using fy h) hn.1
   |succ j'=>have:=VY M1 (j:=j) (j':=j') (k:=k) (by simpa using h) (by simpa using h');omega
theorem VZ:∀{l:H G},l.Nodup->∀{i j n:G},l[i]? = B n->l[j]? = B n->i=j
 |[],_,i,_,_,hi,_=>by simp at hi
 |x::l,h,i,j,n,hi,hj=>by
  obtain⟨h1,h2⟩:=zh.1 h;cases i with
  |zero=>
   cases j with
   |zero=>rfl
   |succ j=>simp at hi hj;subst hi;exact absurd (ko hj) h1
  |succ i=>
   cases j with
   |zero=>simp at hi hj;subst hj;exact absurd (ko hi) h1
   |succ j=>rw[VZ h2 (i:=i) (j:=j) (n:=n) (by simpa using hi) (by simpa using hj)]
end
section
variable{N:NT}{np:G}{S0:aY}{w0:Z}{refs:Refs}{σ:St}{a:Â}{w:Z}{S:aY}{γ:G->Y}
theorem jus{K:Keep}{l:Loc}{n:G}(h:Dp K l=B n):∃(j:G)(x:qE),K.lists[j]? = B x/\x.name=n/\l∈x.locs:=by
 unfold Dp at h;obtain⟨x,hq,hn⟩:=Option.map_eq_some_iff.1 h;have h1:=List.find?_some hq;obtain⟨j,hj⟩:=v7.1 (List.mem_of_find?_eq_some hq);exact⟨j,x,hj,hn,by simpa using h1⟩
theorem Eh{K:Keep}{k:G}{x:BS}{b:Bx}(h:xp K k x = .live b):∃b0,x = .live b0/\lJ b0 b:=by
 unfold xp at h;split at h
 .simp only[BS.live.injEq]at h;subst h;exact⟨_,rfl,trivial⟩
 .simp only[BS.live.injEq]at h;subst h;exact⟨_,rfl,.refl _⟩
 .simp only[BS.live.injEq]at h;subst h;exact⟨_,rfl,.refl _⟩
 .simp at h
theorem Ei{K:Keep}{k:G}{x:BS}:xp K k x ≠ .free:=by
 unfold xp;split<;>simp
theorem V0{R:Leaf->Y->Prop}{f:Leaf×G->Leaf}:∀{ls:H Leaf}{cs:H Y}(n:G),(∀(j:G)(x:Leaf)(u:Y),ls[j]? = B x->cs[j]? = B u->R (f (x,n+j)) u)->ls.length=cs.length->
  All2 R ((ls.zipIdx n).map f) cs
 |[],[],_,_,_=>trivial
 |x::ls,c::cs,n,h,hl=>by
  refine⟨h 0 x c rfl rfl,V0 (n+1) (λj y u hy hu=>?_) (by simpa using hl)⟩;have:=h (j+1) y u (by simpa using hy) (by simpa using hu);rwa[show n+1+j=n+(j+1) by omega]
 |[],_::_,_,_,hl=>by simp at hl
 |_::_,[],_,_,hl=>by simp at hl
theorem jBT{K:Keep}{s:Snap}(hR:Rel N np S0 w0 refs σ a w S γ)(hs:LQ np K σ=B s):∃γ',Rel N np S0 w0 refs (dJ np K s) a w S γ'/\eP (dJ np K s):=by
 unfold LQ at hs;cases hL:BV np σ K.boxes K.lists with
 |none=>simp[hL]at hs
 |some p=>
 obtain⟨is,ks⟩:=p;simp only[hL]at hs;cases bX:K.ok np with
 |false=>simp[bX]at hs
 |true=>
 simp only[bX,if_true,j5]at hs;obtain⟨fX,hks,ew,Ej⟩:=VX hL;rw[hks]at ew;simp only[Keep.ok,jg]at bX;have Au:=H9 bX.1;have D8:∀(j:G)(x:qE),K.lists[j]? = B x->x.name∉K.boxes:=by intro j x hx;have:=kj.1 bX.2 x (ko hx);simp only[jg]at this;simpa using this.1
 have xV:∀(j:G)(x:qE),K.lists[j]? = B x->parK np x.name=false:=by intro j x hx;have:=kj.1 bX.2 x (ko hx);simp only[jg]at this;simpa using this.2
 let γ':G->Value:=λn=>match K.boxes.idxOf? n with
  |some _=>γ n
  |none=>match (K.lists.map (·.name)).idxOf? n with
   |some j=>match fX[j]? with
    |some (B k)=>γ k
    |_=> .slice À 0 0
   |none=>γ n
 have fT:(dJ np K s).bx=λn=>match K.boxes.idxOf? n with
  |some j=>xr s[K.slots.length+j]?
  |none=>match (K.lists.map (·.name)).idxOf? n with
   |some j=>xr s[K.slots.length+K.boxes.length+j]?
   |none=>if parK np n then .gone else .free:=rfl
 have hB:∀n,n∈K.boxes->(dJ np K s).bx n=xp K n (σ.bx n)/\γ' n=γ n:=by
  intro n hn;rw[fT];cases hq:K.boxes.idxOf? n with
  |none=>exact absurd hn (MY hq)
  |some j=>have hj:=r6 hq;refine⟨?_,by simp only[γ',hq]⟩;simp only[hq,<-hs];rw[kn smp_];simp only[ke,Nat.add_sub_cancel_left];rw[Ê (by simp;exact(ka.1 hj).1)];simp[hj,xr]
 have M3:∀(j:G)(x:qE),K.lists[j]? = B x->∃it src,fX[j]? = B src/\VW np σ K.boxes x it src/\(dJ np K s).bx x.name=xr (B it)/\
   γ' x.name=(match src with|some k=>γ k|none=> .slice À 0 0):=by
  intro j x hx;obtain⟨it,src,h1,h2,h3⟩:=Ej j x hx
  have uP:K.boxes.idxOf? x.name=none:=by
   cases hq:K.boxes.idxOf? x.name with
   |none=>rfl
   |some i=>exact absurd (ko (r6 hq)) (D8 j x hx)
  have xF:(K.lists.map (·.name))[j]? = B x.name:=by simp[hx]
  cases hq:(K.lists.map (·.name)).idxOf? x.name with
  |none=>exact absurd (ko xF) (MY hq)
  |some i=>
   have hi:=VZ Au (r6 hq) xF;subst hi;refine⟨it,src,h2,h3,?_,?_⟩
   .rw[fT];simp only[uP,hq,<-hs];rw[kn sqo_,kn sqo_];have:K.slots.length+K.boxes.length+i-(K.slots.map λi=>Item.s (HF K i (σ.sl i))).length-(K.boxes.map λk=>Item.b (xp K k (σ.bx k))).length=i:=sqo_;rw[this,h1]
   .simp only[γ',uP,hq,h2];cases src<;>rfl
 have hF:∀n b,(dJ np K s).bx n = .live b->n∈K.boxes\/∃(j:G)(x:qE),K.lists[j]? = B x/\x.name=n:=by
  intro n b hb;by_cases hn:n∈K.boxes
  .exact .inl hn
  .right;rw[fT]at hb
   have uP:K.boxes.idxOf? n=none:=by
    cases hq:K.boxes.idxOf? n with
    |none=>rfl
    |some i=>exact absurd (ko (r6 hq)) hn
   simp only[uP]at hb;split at hb
   .rename_i j hq;have hj:=r6 hq;simp only[qv]at hj;cases hx:K.lists[j]? with
    |none=>simp[hx]at hj
    |some x=>simp[hx]at hj;exact⟨j,x,hx,hj⟩
   .split at hb<;>simp at hb
 have lQ:∀(loc:O Loc)(x:Leaf)(u:Y),bZ S w γ σ.bx x u->(x ≠ .dead->One u)->(∀l,loc=B l->jY σ l=x)->
   bZ S w γ' (dJ np K s).bx (rQ K loc x) u/\(rQ K loc x ≠ .dead->One u):=by
  intro loc x u hl h1 Av;have lY:bZ S w γ' (dJ np K s).bx .dead u/\(Leaf.dead ≠ .dead->One u):=⟨trivial,λh=>absurd rfl h⟩
  have lT:∀n,loc.bind (Dp K)=B n->∀(hu:(x = .nil)\/∃k,x = .ol k),bZ S w γ' (dJ np K s).bx (.ol n) u/\(Leaf.ol n ≠ .dead->One u):=by
   intro n hn hu;cases loc with
   |none=>simp at hn
   |some l=>
    simp only[j4]at hn;have ot:=Av l rfl;obtain⟨j,y,hy,hyn,vQ⟩:=jus hn;obtain⟨it,src,_,⟨xs,f,f',jM,Co,Aw⟩,Ek,uQ⟩:=M3 j y hy;obtain⟨_,aA⟩:=Il jM;obtain⟨dj,f1,th⟩:=aA l vQ;have dm:One u:=h1 (by rcases hu with rfl|⟨k,rfl⟩<;>simp);rw[hyn]at Ek uQ;refine⟨⟨by rw[Ek,Co];simp[xr],dm,λb _=>?_⟩,λ_=>dm⟩;rw[uQ];rcases M0 th with⟨rfl,_,_,fQ⟩|⟨k0,rfl,xW,dO⟩
    .rw[ot]at fQ;subst fQ;exact hl
    .rw[ot]at xW;subst xW;exact hl.2.2 _ dO
  cases x with
  |dead=>exact lY
  |nil=>
   simp only[rQ];split
   .rename_i n hn;exact lT n hn (.inl rfl)
   .exact⟨hl,h1⟩
  |d t v=>exact⟨hl,h1⟩
  |ip ls=>exact⟨hl,h1⟩
  |clo f bN=>exact⟨hl,h1⟩
  |ep k i c=>exact lY
  |tl k i=>
   simp only[rQ];split
   .rename_i hk;obtain⟨dR,fv⟩:=hB k (by simpa using hk);refine⟨⟨by rw[dR];exact Ei,hl.2.1,λb hb=>?_⟩,λ_=>hl.2.1⟩;rw[dR]at hb;obtain⟨b0,gH,kF⟩:=Eh hb;have h3:=hl.2.2 b0 gH;rw[fv]
    cases b0<;>cases b<;>simp only[lJ]at kF<;>first
     |exact kF.elim
     |exact h3.elim
     |(obtain⟨rfl,rfl,iS⟩:=kF;simp only at h3 ⊢;obtain⟨hm,h3⟩:=h3;rw[<-iS hm];exact⟨hm,h3⟩)
   .exact lY
  |hd k i=>
   simp only[rQ];split
   .rename_i hk;obtain⟨dR,fv⟩:=hB k (by simpa using hk);refine⟨⟨by rw[dR];exact Ei,hl.2.1,λb hb=>?_⟩,λ_=>hl.2.1⟩;rw[dR]at hb;obtain⟨b0,gH,kF⟩:=Eh hb;have h3:=hl.2.2 b0 gH;rw[fv]
    cases b0<;>cases b<;>simp only[lJ]at kF<;>first
     |exact kF.elim
     |exact h3.elim
     |(obtain⟨rfl,rfl,iS⟩:=kF;simp only at h3 ⊢;obtain⟨hm,h3⟩:=h3;rw[<-iS hm];exact⟨hm,h3⟩)
   .exact lY
  |ol k=>
   simp only[rQ];split
   .rename_i hk;obtain⟨dR,fv⟩:=hB k (by simpa using hk);refine⟨⟨by rw[dR];exact Ei,hl.2.1,λb hb=>?_⟩,λ_=>hl.2.1⟩;rw[dR]at hb;obtain⟨b0,gH,_⟩:=Eh hb;rw[fv];exact hl.2.2 b0 gH
   .split
    .rename_i n hn;exact lT n hn (.inr ⟨k,rfl⟩)
    .exact lY
  |bp k c=>
   simp only[rQ];split
   .rename_i hk;obtain⟨dR,fv⟩:=hB k (by simpa using hk);refine⟨⟨by rw[dR];exact Ei,hl.2.1,λb hb=>?_⟩,λ_=>hl.2.1⟩;rw[dR]at hb;obtain⟨b0,gH,_⟩:=Eh hb;rw[fv];exact hl.2.2 b0 gH
   .exact lY
 have ig:∀n b,(dJ np K s).bx n = .live b->(n∈K.boxes/\γ' n=γ n/\∃b0,σ.bx n = .live b0)\/(blk (γ' n)=À)\/
   ∃(j:G)(x:qE)(k:G)(b0:Bx),K.lists[j]? = B x/\x.name=n/\fX[j]? = B (B k)/\γ' n=γ k/\σ.bx k = .live b0/\k∉K.boxes/\parK np k=false:=by
  intro n b hb;rcases hF n b hb with hn|⟨j,x,hx,rfl⟩
  .obtain⟨h1,h2⟩:=hB n hn;rw[h1]at hb;obtain⟨b0,gH,_⟩:=Eh hb;exact .inl ⟨hn,h2,b0,gH⟩
  .obtain⟨it,src,Aw,⟨xs,f,f',jM,Co,nd⟩,Ek,uQ⟩:=M3 j x hx;obtain⟨⟨l,_,th⟩,_⟩:=Il jM;rcases M0 th with⟨rfl,_,_,_⟩|⟨k,rfl,_,dO⟩
   .exact .inr (.inl (by rw[uQ];rfl))
   .obtain⟨_,h2,h3⟩:=nd k rfl;exact .inr (.inr ⟨j,x,k,_,hx,rfl,Aw,uQ,dO,h2,h3⟩)
 refine⟨γ',⟨hR.size,hR.defers,?_,?_,?_,?_,hR.ext,hR.new,hR.here,hR.below,hR.grow,hR.os,hR.tape,hR.output,?_,λg o h=>⟨(hR.kept g o h).1,λn b hb dO=>by
  have df:=(hR.kept g o h).2;rcases ig n b hb with⟨_,e,b0,gH⟩|e|⟨j,x,k,b0,_,_,_,e,gH,_⟩
  .rw[e]at dO;exact df n b0 gH dO
  .rw[e]at dO;simp at dO
  .rw[e]at dO;exact df k b0 gH dO⟩,hR.fix⟩,?_⟩
 ·-- slots
  intro i
  have dS:(dJ np K s).sl i=match K.slots.idxOf? i with
   |some j=>zQ s[j]?
   |none=> .one (.one .dead):=rfl
  rw[dS];cases hq:K.slots.idxOf? i with
  |none=>exact⟨trivial,λh=>absurd rfl h⟩
  |some j=>
   have hj:=r6 hq;have El:s[j]? = B (.s (HF K i (σ.sl i))):=by rw[<-hs,Ê (by simp;exact(ka.1 hj).1)];simp[hj]
   simp only[El,zQ];have xU:=hR.slot i;show cm S w γ' (dJ np K s).bx (HF K i (σ.sl i)) _;cases nu:σ.sl i with
   |tup l=>exact⟨trivial,λh=>absurd rfl h⟩
   |cnd x y z=>exact⟨trivial,λh=>absurd rfl h⟩
   |und=>exact⟨trivial,λh=>absurd rfl h⟩
   |one c=>
    rw[nu]at xU;cases c with
    |one x=>exact lQ (B (.slot i)) x _ xU.1 xU.2 (λl hl=>by simp at hl;subst hl;simp[jY,nu])
    |st ls=>
     obtain⟨cs,hu,aA,h1⟩:=xU;refine⟨cs,hu,?_,h1⟩;refine All2.map_left.2 ?_
     have:∀{ls:H Leaf}{cs:H Y},All2 (bZ S w γ σ.bx) ls cs->(∀u∈cs,One u)->All2 (λx u=>bZ S w γ' (dJ np K s).bx (rQ K À x) u) ls cs:=by
      intro ls;induction ls with
      |nil=>intro cs h _;cases cs with|nil=>trivial|cons _ _=>exact h.elim
      |cons x ls ih=>
       intro cs h h1;cases cs with
       |nil=>exact h.elim
       |cons u cs=>exact⟨(lQ À x u h.1 (λ_=>h1 u smp_) smp_).1,ih h.2 (λv hv=>h1 v (by simp[hv]))⟩
     exact this aA h1
    |av n b xs=>obtain⟨cs,hu,bR⟩:=xU;exact⟨cs,hu,bR⟩
 ·-- boxes
  intro n b hb;rcases hF n b hb with hn|⟨j,x,hx,rfl⟩
  .obtain⟨h1,h2⟩:=hB n hn;rw[h1]at hb;unfold xp at hb;split at hb
   .rename_i ls frz nH;simp only[BS.live.injEq]at hb;subst hb;obtain⟨g,cur,e,q1,q2,q3,q4,q5,q6⟩:=hR.box n _ nH;have oO:(ls.zipIdx.map λx=>rQ K (if frz=X then À else B (Loc.cell n x.2)) x.1).length=ls.length:=smp_;refine⟨g,cur,e,h2.trans q1,q2,?_,by rw[oO];exact q4,q5,q6⟩;rw[oO];refine V0 0 (λj x u hx hu=>?_) q3.length;obtain⟨u',eE,jE⟩:=q3.get j x hx;rw[hu]at eE;simp at eE;subst eE;refine(lQ _ x u jE (λ_=>q4 u (ko hu)) (λl hl=>?_)).1;cases frz with
    |true=>simp at hl
    |false=>simp at hl;subst hl;simp[jY,nH,hx]
   .rename_i m t xs nH;simp only[BS.live.injEq]at hb;subst hb;obtain⟨g,cur,e,q1,q2,q3,q4⟩:=hR.box n _ nH;exact⟨g,cur,e,h2.trans q1,q2,q3,q4⟩
   .rename_i e t xs frz nH;simp only[BS.live.injEq]at hb;subst hb;obtain⟨q1,q3⟩:=hR.box n _ nH;exact⟨by rw[h2];exact q1,by rw[h2];exact q3⟩
   .simp at hb
  .obtain⟨it,src,Aw,⟨xs,f,f',jM,Co,nd⟩,Ek,uQ⟩:=M3 j x hx;obtain⟨⟨l,_,th⟩,_⟩:=Il jM;rw[Ek,Co]at hb;simp only[xr,BS.live.injEq]at hb;subst hb;rcases M0 th with⟨rfl,ct,rfl,_⟩|⟨k,rfl,_,dO⟩
   .refine Dv ct ⟨[],?_,trivial,λg hg=>?_⟩
    .rw[uQ];exact⟨smp_,.inl ⟨rfl,rfl⟩⟩
    .rw[uQ]at hg;simp[blk]at hg
   .obtain⟨rfl,_,_⟩:=nd k rfl;obtain⟨q1,q3⟩:=hR.box k _ dO;exact⟨by rw[uQ];exact q1,by rw[uQ];exact q3⟩
 ·-- own
  intro n b g hb hg;rcases ig n b hb with⟨_,h2,b0,h3⟩|h|⟨j,x,k,b0,_,_,_,h2,h3,_,h5⟩
  .rw[h2]at hg;exact hR.own n b0 g h3 hg
  .rw[h]at hg;simp at hg
  .rw[h2]at hg;rcases hR.own k b0 g h3 hg with h|h
   .exact .inl h
   .rw[h5]at h;simp at h
 ·-- apart
  intro n n' b b' g bz hb aW hg aL;rcases ig n b hb with⟨m1,h2,b0,h3⟩|h|⟨j,x,k,b0,hx,hxn,hj,h2,h3,h4,_⟩
  .rw[h2]at hg;rcases ig n' b' aW with⟨_,i2,b1,i3⟩|i|⟨j',x',k',b1,_,_,_,i2,i3,i4,_⟩
   .rw[i2]at aL;exact hR.apart n n' b0 b1 g bz h3 i3 hg aL
   .rw[i]at aL;simp at aL
   .rw[i2]at aL;exact hR.apart n k' b0 b1 g (by rintro rfl;exact i4 m1) h3 i3 hg aL
  .rw[h]at hg;simp at hg
  .rw[h2]at hg;rcases ig n' b' aW with⟨m1,i2,b1,i3⟩|i|⟨j',x',k',b1,iD,M4,fS,i2,i3,i4,_⟩
   .rw[i2]at aL;exact hR.apart k n' b0 b1 g (by rintro rfl;exact h4 m1) h3 i3 hg aL
   .rw[i]at aL;simp at aL
   .rw[i2]at aL;by_cases cD:k=k'
    .subst cD;have:=VY ew hj fS;subst this;rw[hx]at iD;simp at iD;subst iD;exact bz (hxn.symm.trans M4)
    .exact hR.apart k k' b0 b1 g cD h3 i3 hg aL
 ·-- parameters
  intro k v hv;obtain⟨p1,p2,p3⟩:=hR.par k v hv;refine⟨p1,?_,?_⟩
  .by_cases hk:k∈K.boxes
   .rw[(hB k hk).1];exact Ei
   .rw[fT]
    have uP:K.boxes.idxOf? k=none:=by
     cases hq:K.boxes.idxOf? k with
     |none=>rfl
     |some i=>exact absurd (ko (r6 hq)) hk
    simp only[uP];split
    .rename_i j hq;have hj:=r6 hq;simp only[qv]at hj;cases hx:K.lists[j]? with
     |none=>simp[hx]at hj
     |some x=>simp[hx]at hj;have:=xV j x hx;rw[hj,p1]at this;simp at this
    .simp[p1]
  .by_cases hk:k∈K.boxes
   .rw[(hB k hk).2];exact p3
   .have uP:K.boxes.idxOf? k=none:=by
     cases hq:K.boxes.idxOf? k with
     |none=>rfl
     |some i=>exact absurd (ko (r6 hq)) hk
    simp only[γ',uP];split
    .rename_i j hq;have hj:=r6 hq;simp only[qv]at hj;cases hx:K.lists[j]? with
     |none=>simp[hx]at hj
     |some x=>simp[hx]at hj;have:=xV j x hx;rw[hj,p1]at this;simp at this
    .exact p3
 .intro i;show ((match K.slots.idxOf? i with|some j=>zQ s[j]?|none=>Slot.one (.one .dead)):Slot).bare=X;split
  .unfold zQ;split<;>rfl
  .rfl
theorem xX{K:Keep}{s:Snap}(hR:Rel N np S0 w0 refs σ a w S γ)(hc:eP σ)(hs:mh np K σ=B s):∃S' γ',Rel N np S0 w0 refs (dJ np K s) a w S' γ'/\eP (dJ np K s):=by
 unfold mh at hs;split at hs
 .rename_i σ1 h1;split at hs
  .rename_i σ2 h2;obtain⟨S1,bV,fL⟩:=VV _ _ _ _ hR hc h1;obtain⟨S2,dA,gm⟩:=Eg _ _ _ _ bV fL h2;obtain⟨γ',iR,Em⟩:=jBT dA hs;exact⟨S2,γ',iR,Em⟩
  .simp at hs
 .simp at hs
end
def RdLe(rd bY:G->BS):Prop:=∀k,rd k=bY k\/rd k = .gone
theorem RdLe.live{rd bY:G->BS}(h:RdLe rd bY){k:G}{b:Bx}(hk:rd k = .live b):bY k = .live b:=by
 rcases h k with h|h
 .rw[<-h];exact hk
 .rw[h]at hk;simp at hk
theorem RdLe.free{rd bY:G->BS}(h:RdLe rd bY){k:G}(hk:nk (rd k)=X):nk (bY k)=true:=by
 rcases h k with h|h
 .rw[<-h];exact hk
 .rw[h]at hk;simp[nk]at hk
theorem RdLe.isLive{rd bY:G->BS}(h:RdLe rd bY){k:G}(hk:isLive (rd k)=X):isLive (bY k)=true:=by
 rcases h k with h|h
 .rw[<-h];exact hk
 .rw[h]at hk;simp[Lft.isLive]at hk
theorem RdLe.rdf{rd bY:G->BS}(h:RdLe rd bY)(np:G):RdLe (λk=>if parK np k then .gone else rd k) (λk=>if parK np k then .gone else bY k):=by
 intro k;dsimp only;split
 .exact .inl rfl
 .exact h k
theorem RdLe.msk{rd bY:G->BS}(h:RdLe rd bY):RdLe (mskM rd) (mskM bY):=by
 intro k;rcases h k with h|h
 .left;unfold mskM;rw[h]
 .right;unfold mskM;rw[h]
theorem M5(M:H G)(rd:G->BS):RdLe (jX M rd) rd:=by
 intro k;unfold jX;split
 .exact .inr rfl
 .exact .inl rfl
section
variable{rd bY:G->BS}(hle:RdLe rd bY)
include hle
theorem V3{t:Ty}{l:Leaf}{x}(h:kK rd t l=B x):kK bY t l=B x:=by
 unfold kK at h ⊢;split at h
 .exact h
 .exact h
 .split at h
  .rename_i hk;rw[hle.live hk];exact h
  .simp at h
 .simp at h
theorem Im:∀(t:Ty){ls:H Leaf}{x},gath rd t ls=B x->gath bY t ls=B x:=by
 intro t;induction t with
 |unit=>intro ls x h;simpa[gath]using h
 |wrap a ih=>
  intro ls x h;simp only[gath]at h ⊢;split at h
  .rename_i hg;rw[ih hg];exact h
  .simp at h
 |pair a b qP oH=>
  intro ls x h;simp only[gath]at h ⊢;split at h
  .rename_i hg;rw[qP hg];dsimp only;split at h
   .rename_i kQ;rw[oH kQ];exact h
   .simp at h
  .simp at h
 |arr n a ih=>intro ls x h;simp[gath]at h
 |_=>
  intro ls x h;cases ls with
  |nil=>simp[gath]at h
  |cons l ls=>
   simp only[gath]at h ⊢;split at h
   .rename_i hl;rw[V3 hle hl];exact h
   .simp at h
theorem M6{t:Ty}{c:Cel}{x}(h:rJ rd t c=B x):rJ bY t c=B x:=by
 unfold rJ at h ⊢;split at h
 .split at h
  .simp at h
  .rename_i ha;simp only[ha,zu,kv];split at h
   .rename_i hg;rw[Im hle _ hg];exact h
   .simp at h
 .split at h
  .rename_i ha;simp only[ha,if_true];split at h
   .rename_i hg;rw[Im hle _ hg];exact h
   .simp at h
  .simp at h
 .exact h
theorem jxx{ti:TyI}{l:Leaf}{x}(h:qG rd ti l=B x):qG bY ti l=B x:=by
 unfold qG at h ⊢;split at h
 .split at h
  .rename_i hk;rw[hle.live hk];exact h
  .rename_i hk;rw[hle.live hk];exact h
  .simp at h
 .split at h
  .rename_i hk;rw[hle.live hk];exact h
  .rename_i hk;rw[hle.live hk];exact h
  .simp at h
 .exact h
 .simp at h
theorem jut{ti:TyI}{i:G}{l:Leaf}{x}(h:rL rd ti i l=B x):rL bY ti i l=B x:=by
 unfold rL at h ⊢;split at h
 .split at h
  .split at h
   .rename_i hl;simp only[hle.isLive hl,if_true];exact h
   .simp at h
  .simp at h
 .split at h
  .split at h
   .rename_i hl;simp only[hle.isLive hl,if_true];exact h
   .simp at h
  .simp at h
 .exact h
 .simp at h
theorem juu{ti:TyI}{l i:Leaf}{x}(h:u7 rd ti l i=B x):u7 bY ti l i=B x:=by
 unfold u7 at h ⊢;split at h
 .split at h
  .rename_i hk;rw[hle.live hk];exact h
  .simp at h
 .exact h
 .split at h
  .rename_i hk;rw[hle.live hk];exact h
  .rename_i hk;rw[hle.live hk];exact h
  .simp at h
 .split at h
  .rename_i hk;rw[hle.live hk];exact h
  .simp at h
 .simp at h
theorem V4(a:Ty):∀{ls:H Leaf}{x},u5 rd a ls=B x->u5 bY a ls=B x
 |[],_,h=>h
 |l::ls,x,h=>by
  simp only[u5]at h ⊢;split at h
  .rename_i h1 h2;rw[V3 hle h1,V4 a h2];exact h
  .simp at h
theorem juv{t:O Ty}{l:Leaf}{x}(h:u6 rd t l=B x):u6 bY t l=B x:=by
 unfold u6 at h ⊢;split at h
 .split at h
  .split at h
   .rename_i hi;rw[if_pos hi];split at h
    .rename_i hk;rw[hle.live hk];exact h
    .simp at h
   .simp at h
  .simp at h
 .simp at h
theorem juw{ti:TyI}{l:Leaf}{c:Cel}(h:u6 rd ti.ty l=À)(hc:qG rd ti l=B c):u6 bY ti.ty l=none:=by
 unfold u6 at h ⊢;split at h
 .rename_i k;split at h
  .rename_i m el bO;split at h
   .rename_i hi;rw[if_pos hi];simp only[qG]at hc;split at hc
    .rename_i ls frz hk;rw[hle.live hk];cases frz with
     |true=>rfl
     |false=>rw[hk]at h;simp at h
    .rename_i hk;rw[hle.live hk]
    .simp at hc
   .rename_i hi;rw[if_neg hi]
  .rfl
 .rfl
theorem M7(a:Ty):∀(ps:H (G×Cel)){xs:H a.den}{u:Ups}{x},lG rd a xs u ps=B x->lG bY a xs u ps=B x
 |[],_,_,_,h=>h
 |(i,c)::r,xs,u,x,h=>by
  simp only[lG]at h ⊢;split at h
  .rename_i hd;rw[M6 hle hd];dsimp only;split at h
   .rename_i hi;simp only[hi,if_true];exact M7 a r h
   .simp at h
  .simp at h
theorem jz6{t:O Ty}{l:Leaf}{x}(h:lenC rd t l=B x):lenC bY t l=B x:=by
 unfold lenC at h ⊢;split at h
 .exact h
 .split at h
  .rename_i hk;rw[hle.live hk];exact h
  .simp at h
 .exact h
 .exact h
 .split at h
  .rename_i hk;rw[hle.live hk];exact h
  .simp at h
 .split at h
  .rename_i hk;rw[hle.live hk];exact h
  .simp at h
 .simp at h
theorem jz7{e:G}{a:Ty}{s l:Leaf}{x}(h:appH rd e a s l=B x):appH bY e a s l=B x:=by
 unfold appH at h ⊢;split at h
 .split at h
  .rename_i cD;rw[if_pos cD];split at h
   .rename_i hk;rw[hle.live hk];exact h
   .simp at h
  .simp at h
 .simp at h
omit hle in
theorem jz8{e e':G}{a a':Ty}{s l:Leaf}{x}(h:appS rd e a s=B x):appH bY e' a' s l=none:=by
 unfold appS at h;split at h
 .rfl
 .rfl
 .simp at h
theorem jux{ti:TyI}{l m:Leaf}{lo hi:O Leaf}{x}(h:BO rd ti l lo hi m=B x):BO bY ti l lo hi m=B x:=by
 unfold BO at h ⊢;split at h
 .split at h
  .rename_i hk;rw[hle.live hk];exact h
  .simp at h
 .simp at h
theorem jz9{e:G}{a:Ty}{l:Leaf}{x}(h:appS rd e a l=B x):appS bY e a l=B x:=by
 unfold appS at h ⊢;split at h
 .split at h
  .rename_i hk;rw[hle.live hk];exact h
  .simp at h
 .exact h
 .simp at h
theorem V5{a:Ty}{l:Leaf}{x}(h:appX rd a l=B x):appX bY a l=B x:=by
 unfold appX at h ⊢;split at h
 .split at h
  .rename_i hk;rw[hle.live hk];exact h
  .simp at h
 .exact h
 .exact h
 .split at h
  .rename_i hk;rw[hle.live hk];exact h
  .simp at h
 .simp at h
theorem jxy{t:O Ty}{l m:Leaf}{x}(h:BP rd t l m=B x):BP bY t l m=B x:=by
 unfold BP at h ⊢;split at h
 .split at h
  .rename_i hk;rw[hle.live hk];dsimp only;split at h
   .rename_i ht;rw[if_pos ht];split at h
    .rename_i hy;rw[V5 hle hy];exact h
    .simp at h
   .simp at h
  .simp at h
 .simp at h
theorem juy{t:O Ty}{l:Leaf}{x}(h:BQ rd t l=B x):BQ bY t l=B x:=by
 unfold BQ at h ⊢;split at h
 .split at h
  .rename_i hk;rw[hle.live hk];exact h
  .simp at h
 .simp at h
theorem Io:∀(ls:H Leaf){x},tvs rd ls=B x->tvs bY ls=B x
 |[],_,h=>h
 |l::ls,x,h=>by
  simp only[tvs]at h ⊢;split at h
  .rename_i hr;rw[Io ls hr];dsimp only;split at h
   .exact h
   .split at h
    .rename_i hk;rw[hle.live hk];exact h
    .simp at h
   .simp at h
  .simp at h
theorem V6:∀(cs:H Cel){x},xl rd cs=B x->xl bY cs=B x
 |[],_,h=>h
 |c::cs,x,h=>by
  simp only[xl]at h ⊢;split at h
  .rename_i hr;rw[V6 cs hr];dsimp only;split at h
   .exact h
   .split at h
    .rename_i hk;rw[hle.live hk];dsimp only;split at h
     .rename_i ht;rw[Io hle _ ht];exact h
     .simp at h
    .simp at h
   .simp at h
  .simp at h
end
theorem juz{rd bY rdf ij:G->BS}(hle:RdLe rd bY)(gq:RdLe rdf ij){n:G}{c:Cel}{l:Leaf}{x}(h:xk rd rdf n c l=B x):xk bY ij n c l=B x:=by
 unfold xk at h ⊢;split at h
 .split at h
  .rename_i hk;rw[hle.live hk];exact h
  .rename_i hk;rw[hle.live hk];exact h
  .simp at h
 .split at h
  .rename_i hk;rw[hle.live hk];dsimp only;split at h
   .split at h
    .rename_i hi;rw[if_pos hi];split at h
     .rename_i hg;rw[Im gq _ hg];exact h
     .simp at h
    .simp at h
   .simp at h
  .rename_i hk;rw[hle.live hk];dsimp only;split at h
   .split at h
    .rename_i hi;rw[if_pos hi];split at h
     .rename_i hg;rw[Im gq _ hg];exact h
     .simp at h
    .simp at h
   .simp at h
  .simp at h
 .simp at h
theorem juA{par:G->Æ}{rd bY:G->BS}(hle:RdLe rd bY){ti:TyI}{n:G}{l:Leaf}{lo hi:O Leaf}{x}(h:BN par rd ti n l lo hi=B x):BN par bY ti n l lo hi=B x:=by
 unfold BN at h ⊢;split at h
 .exact h
 .split at h
  .split at h
   .rename_i hk;rw[hle.live hk];exact h
   .simp at h
  .split at h
   .rename_i hk;rw[hle.live hk];dsimp only;split at h
    .rename_i bO;rw[if_pos bO];split at h
     .split at h
      .rename_i hp;rw[if_pos hp];exact h
      .rename_i hp;rw[if_neg hp];split at h
       .rename_i hl;rw[if_pos hl];split at h
        .rename_i hf;rw[if_pos (hle.free hf)];exact h
        .simp at h
       .rename_i hl;rw[if_neg hl];exact h
     .simp at h
    .simp at h
   .simp at h
 .split at h
  .rename_i hk;rw[hle.live hk];exact h
  .simp at h
 .simp at h
theorem jxz{rd bY rdf ij:G->BS}(hle:RdLe rd bY)(gq:RdLe rdf ij){t:O TyI}{mv rl:Æ}{c:Cel}{x}(h:xm rd rdf t mv rl c=B x):xm bY ij t mv rl c=B x:=by
 unfold xm at h ⊢;split at h
 .split at h
  .rename_i hk;rw[hle.live hk];dsimp only;split at h
   .rename_i ht;rw[Io gq _ ht];exact h
   .simp at h
  .rename_i hk;rw[hle.live hk];dsimp only;split at h
   .rename_i ht;rw[Io gq _ ht];exact h
   .simp at h
  .simp at h
 .exact h
 .exact h
 .split at h
  .cases mv with
   |true=>
    simp only[j6]at h ⊢;split at h
    .rename_i hk;rw[gq.live hk];exact h
    .simp at h
   |false=>
    simp only[j7]at h ⊢;split at h
    .rename_i hk;rw[hle.live hk];exact h
    .simp at h
  .split at h
   .rename_i hk;rw[gq.live hk];exact h
   .simp at h
 .split at h
  .split at h
   .split at h
    .rename_i hd;rw[M6 gq hd];exact h
    .simp at h
   .simp at h
  .simp at h
theorem V7{rd bY rdf ij:G->BS}(hle:RdLe rd bY)(gq:RdLe rdf ij){T:G->O TyI}{mv:Æ}:∀(cs:H Cel){ts:H G}{ms:H Æ}{x},rM rd rdf T mv ts ms cs=B x->rM bY ij T mv ts ms cs=B x
 |[],_,_,_,h=>h
 |c::cs,ts,ms,x,h=>by
  simp only[rM]at h ⊢;split at h
  .rename_i ha;rw[jxz hle gq ha];dsimp only;split at h
   .rename_i hr;rw[V7 hle gq cs hr];exact h
   .simp at h
  .simp at h
theorem jza{rd bY rdf ij:G->BS}(hle:RdLe rd bY)(gq:RdLe rdf ij){n m:G}{us:Ups}{fs:H Bk}{os:H Out}{x}(h:mkHd rd rdf n us fs m os=B x):mkHd bY ij n us fs m os=B x:=by
 unfold mkHd at h ⊢;split at h
 .split at h
  .split at h
   .rename_i hf;simp only[jg]at hf;rw[if_pos (by simp only[jg];exact⟨hle.free hf.1,gq.isLive hf.2⟩)];exact h
   .simp at h
  .simp at h
 .simp at h
theorem jxA{rd bY rdf ij:G->BS}(hle:RdLe rd bY)(gq:RdLe rdf ij){n:G}{us:Ups}{fs:H Bk}{r:Ret}{x}(h:zL rd rdf n us fs r=B x):zL bY ij n us fs r=B x:=by
 unfold zL at h ⊢;split at h
 .exact jza hle gq h
 .split at h
  .split at h
   .split at h
    .rename_i hf;rw[if_pos (kj.2 λe he=>hle.free (kj.1 hf e he))];exact h
    .simp at h
   .simp at h
  .simp at h
inductive ActLe:Act->Act->Prop
 |val (lI:Æ) (s:Slot) (u:Ups):ActLe (.val lI s u) (.val lI s u)
 |call (f:G) (args:H Arg) (mk mk':Ret->O (Slot×Ups)):(∀r x,mk r=B x->mk' r=B x)->ActLe (.call f args mk) (.call f args mk')
theorem ActLe.refl(x:Act):ActLe x x:=by cases x with
 |val lI s u=>exact .val lI s u
 |call f args mk=>exact .call f args mk mk λ_ _ h=>h
theorem V8{x y:O Leaf}(h:∀z,x=B z->y=B z){r:Act}(hr:oE x=B r):oE y=B r:=by
 cases x with
 |none=>simp[oE]at hr
 |some z=>rw[h z rfl];exact hr
theorem jzb{x y:O (Æ×Leaf)}(h:∀z,x=B z->y=B z){r:Act}(hr:oChk x=B r):oChk y=B r:=by
 cases x with
 |none=>simp[oChk]at hr
 |some z=>rw[h z rfl];exact hr
theorem V9{rd bY:G->BS}(hle:RdLe rd bY){t:G}{k v:Ty}{x y:Leaf}{z}(h:mapC rd t k v x y=B z):mapC bY t k v x y=B z:=by
 unfold mapC at h ⊢;split at h
 .split at h
  .rename_i hb;simp only[hle.live hb];exact h
  .simp at h
 .simp at h
theorem Wa{E:Env}{ev:Ë->Slot}{rd bY:G->BS}(jC:RdLe rd bY){act:H (G×Æ)}{o:Ã}{A:Act}(h:dU E ev rd act o=B A):∃A',dU E ev bY act o=B A'/\ActLe A A':=by
 have hle:=jC.msk;have gq:=hle.rdf E.np;have same:dU E ev bY act o=B A->∃A',dU E ev bY act o=B A'/\ActLe A A':=λh=>⟨A,h,.refl A⟩;obtain⟨dst,op,type,pos,after,guard⟩:=o;cases op
 case alloc t=>
  refine same ?_;simp only[dU]at h ⊢;split at h
  .split at h
   .rename_i hf;simp only[hle.free hf,if_true];exact h
   .simp at h
  .simp at h
 case box t x=>
  refine same ?_;simp only[dU]at h ⊢;split at h
  .rename_i hf;simp only[hle.free hf,if_true];exact h
  .simp at h
 case build t ps=>
  refine same ?_;simp only[dU]at h ⊢;split at h
  .split at h
   .split at h
    .rename_i hi;simp only[hi,if_true];exact h
    rename_i hi;rw[if_neg hi];split at h
    .rename_i hb;rw[M7 gq _ _ hb];exact h
    .simp at h
   .exact h
   .simp at h
  .simp at h
 case buildSlice t n ps=>
  refine same ?_;simp only[dU]at h ⊢;split at h
  .split at h
   .split at h
    .simp at h
    .rename_i hn;simp only[hn,zu];split at h
     .rename_i hb;rw[M7 gq _ _ hb];dsimp only;split at h
      .rename_i hf;simp only[hle.free hf,if_true];exact h
      .simp at h
     .simp at h
   .simp at h
  .simp at h
 case load t x=>
  refine same ?_;simp only[dU]at h ⊢;split at h
  .split at h
   .rename_i th;split at h
    .rename_i hg;rw[juv hle th];dsimp only;rw[V4 gq _ hg];exact h
    .simp at h
   .rename_i th;cases vI:qG (mskM rd) _ (lf ((ev x).cel act)) with
    |none=>rw[vI]at h;simp[oCel]at h
    |some c=>rw[juw hle th vI,jxx hle vI];rw[vI]at h;exact h
  .simp at h
 case store t x y=>
  refine same ?_;simp only[dU]at h ⊢;split at h
  .split at h
   .rename_i hs;rw[juz hle gq hs];exact h
   .simp at h
  .simp at h
 case nilCheck x=>
  refine same ?_;simp only[dU]at h ⊢;split at h
  .split at h
   .rename_i hl;simp only[hle.isLive hl,if_true];exact h
   .simp at h
  .split at h
   .rename_i hl;simp only[hle.isLive hl,if_true];exact h
   .simp at h
  .exact h
  .simp at h
 case makeFunc fn first captured=>
  refine same ?_;cases fn with
  |func f=>
   simp only[dU]at h ⊢;split at h
   .rename_i hf;simp only[hf,if_true];split at h
    .rename_i hc;rw[V6 gq _ hc];exact h
    .simp at h
   .simp at h
  |_=>simp[dU]at h
 case fieldAddr t x i=>
  refine same ?_;simp only[dU]at h ⊢;split at h
  .exact V8 (λz hz=>jut hle hz) h
  .simp at h
 case indexAddr t x i=>
  refine same ?_;simp only[dU]at h ⊢;split at h
  .exact jzb (λz hz=>juu hle hz) h
  .simp at h
 case call c=>
  simp only[dU]at h ⊢;cases hc:c.callee with
  |invoke r m=>simp[hc]at h
  |value f=>
   simp only[hc]at h ⊢;split at h
   .split at h
    .rename_i ha;rw[V7 jC gq _ ha];dsimp only;split at h
     .rename_i hb;simp only[hb,if_true];simp only[j5]at h;subst h;exact⟨_,rfl,.call _ _ _ _ λr x hx=>jxA hle gq hx⟩
     .simp at h
    .simp at h
   .simp at h
  |builtin b=>
   simp only[hc]at h ⊢;cases b
   case len=>
    refine⟨A,?_,.refl A⟩;dsimp only at h ⊢;split at h
    .split at h
     .exact V8 (λz hz=>jz6 hle hz) h
     .simp at h
    .simp at h
   case append=>
    refine⟨A,?_,.refl A⟩;dsimp only at h ⊢;split at h
    .split at h
     .rename_i ht;rw[if_pos ht];split at h
      .split at h
       .rename_i bO;split at h
        .rename_i hh;rw[jz7 hle hh];exact h
        split at h
        .rename_i h1 h2;rw[jz8 h1];dsimp only;rw[jz9 gq h1,V5 hle h2];dsimp only;split at h
         .rename_i hf;simp only[hle.free hf,if_true];exact h
         .simp at h
        .simp at h
       .simp at h
      .simp at h
     .simp at h
    .simp at h
   case copy=>
    refine⟨A,?_,.refl A⟩;dsimp only at h ⊢;split at h
    .split at h
     .rename_i ht;rw[if_pos ht];split at h
      .split at h
       .rename_i hq;rw[jxy hle hq];exact h
       .simp at h
      .simp at h
     .simp at h
    .simp at h
   case clear=>
    refine⟨A,?_,.refl A⟩;dsimp only at h ⊢;split at h
    .split at h
     .split at h
      .rename_i hq;rw[juy hle hq];exact h
      .simp at h
     .simp at h
    .simp at h
   all_goals exact⟨A,h,.refl A⟩
 case slice t x lo hi mx=>
  refine same ?_;cases mx with
  |some m=>
   simp only[dU]at h ⊢;split at h
   .split at h
    .rename_i hq;rw[jux hle hq];exact h
    .simp at h
   .simp at h
  |none=>
   simp only[dU]at h ⊢;split at h
   .split at h
    .rename_i hq;rw[juA hle hq];exact h
    .simp at h
   .simp at h
 case makeMap t x=>
  refine same ?_;cases x with
  |some m=>simp[dU]at h
  |none=>
   simp only[dU]at h ⊢;split at h
   .split at h
    .rename_i hf;simp only[hle.free hf,if_true];exact h
    .simp at h
   .simp at h
 case lookup t x i ok=>
  refine same ?_;simp only[dU]at h ⊢;split at h
  .split at h
   .rename_i hq;rw[V9 jC hq];exact h
   .simp at h
  .simp at h
 case mapUpdate t x i y=>
  refine same ?_;simp only[dU]at h ⊢;split at h
  .split at h
   .rename_i hq hd;rw[V9 jC hq,M6 gq hd];exact h
   .simp at h
  .simp at h
 all_goals exact⟨A,h,.refl A⟩
section
variable{N:NT}{np:G}{S0:aY}{w0:Z}{refs:Refs}{σ:St}{a:Â}{w:Z}{S:aY}{γ:G->Y}
def CFun(C:G->H Arg->(R:Type)->(Ret->O R)->O R):Prop:=
 ∀f args,∃o:O Ret,∀(R:Type)(k:Ret->O R),C f args R k=o.bind k
theorem Wb{E:Env}{ev r7:Ë->Slot}{rd:G->BS}{act:H (G×Æ)}{o:Ã}(h:∀x∈o.op.operands,ev x=r7 x):dU E ev rd act o=dU E r7 rd act o:=by
 have tn:∀ps:Á (G×Ë),(∀x∈ps.toList.map (·.2),ev x=r7 x)->
   (ps.toList.map λp=>(p.1,(ev p.2).cel act))=(ps.toList.map λp=>(p.1,(r7 p.2).cel act)):=λps hp=>
  á λp hm=>by simp only[hp p.2 (jz.2 ⟨p,hm,rfl⟩)]
 have args:∀ps:Á Ë,(∀x∈ps,ev x=r7 x)->(ps.toList.map λp=>(ev p).cel act)=(ps.toList.map λp=>(r7 p).cel act):=λps hp=>
  á λp hm=>by rw[hp p (by simpa using hm)]
 obtain⟨dst,op,type,pos,after,guard⟩:=o;cases op<;>simp only[Op.operands]at h<;>simp only[dU]
 case build t ps=>rw[tn ps λx hx=>h x (by simpa using hx)]
 case buildSlice t n ps=>rw[tn ps λx hx=>h x (by simpa using hx)]
 case makeFunc fn first captured=>
  have e:=args captured λx hx=>h x (by simp[hx]);cases fn with
  |func f=>simp only[e]
  |_=>rfl
 case call c=>
  have ha:=args c.args (λx hx=>h x (by simp[Call.operands,hx]));have qT:∀x∈c.args.toList,ev x=r7 x:=λx hx=>h x (by simp[Call.operands];right;simpa using hx);simp only[ha];cases hc:c.callee with
  |value f=>have hf:ev f=r7 f:=h f (by simp[Call.operands,hc]);simp only[hf]
  |invoke r m=>rfl
  |builtin b=>
   cases b<;>simp only
   case len=>
    split
    .rename_i x t gW pU;have:=qT x (by rw[gW];simp);simp only[this]
    .rfl
   case append=>
    split
    .rename_i t t' s x pU gW;have e1:=qT s (by rw[gW];simp);have e2:=qT x (by rw[gW];simp);simp only[e1,e2]
    .rfl
   case copy=>
    split
    .rename_i t t' s x pU gW;have e1:=qT s (by rw[gW];simp);have e2:=qT x (by rw[gW];simp);simp only[e1,e2]
    .rfl
   case clear=>
    split
    .rename_i t x pU gW;have e1:=qT x (by rw[gW];simp);simp only[e1]
    .rfl
 case slice t x lo hi mx=>
  have e1:=h x smp_
  have eo:∀y:O Ë,(∀z,y=B z->ev z=r7 z)->(y.map λx=>lf ((ev x).cel act))=(y.map λx=>lf ((r7 x).cel act)):=by
   intro y hy;cases y with
   |none=>rfl
   |some z=>simp only[qj,hy z rfl]
  have e2:=eo lo (λz hz=>h z (by simp[hz]));have e3:=eo hi (λz hz=>h z (by simp[hz]));cases mx with
  |some m=>have e4:=h m smp_;simp only[e1,e2,e3,e4]
  |none=>simp only[e1,e2,e3]
 case makeMap t x=>cases x<;>rfl
 all_goals (first|rfl|(simp_all;done))
def ShEq:BS->BS->Prop
 |.live (.cell _ _),.live (.cell _ _)=>True
 |.live (.lst e a xs _),.live (.lst e' a' dj _)=>e=e'/\a=a'/\xs.length=dj.length
 |.live (.arr n a _),.live (.arr n' a' _)=>n=n'/\a=a'
 |.free,.free=>True
 |.gone,.gone=>True
 |_,_=>False
theorem ShEq.refl:∀b:BS,ShEq b b
 |.live (.cell _ _)=>trivial
 |.live (.lst _ _ _ _)=>⟨rfl,rfl,rfl⟩
 |.live (.arr _ _ _)=>⟨rfl,rfl⟩
 |.free=>trivial
 |.gone=>trivial
theorem ShEq.symm{b c:BS}(h:ShEq b c):ShEq c b:=by
 cases b with
 |free=>cases c<;>simp_all[ShEq]
 |gone=>cases c<;>simp_all[ShEq]
 |live b=>
  cases c with
  |free=>cases b<;>simp[ShEq]at h
  |gone=>cases b<;>simp[ShEq]at h
  |live c=>
   cases b<;>cases c<;>simp only[ShEq]at h ⊢
   .exact⟨h.1.symm,h.2.1.symm,h.2.2.symm⟩
   .exact⟨h.1.symm,h.2.symm⟩
theorem ShEq.trans{b c d:BS}(h:ShEq b c)(h':ShEq c d):ShEq b d:=by
 cases b with
 |free=>cases c with
  |free=>exact h'
  |gone=>simp[ShEq]at h
  |live c=>cases c<;>simp[ShEq]at h
 |gone=>cases c with
  |gone=>exact h'
  |free=>simp[ShEq]at h
  |live c=>cases c<;>simp[ShEq]at h
 |live b=>cases c with
  |free=>cases b<;>simp[ShEq]at h
  |gone=>cases b<;>simp[ShEq]at h
  |live c=>cases d with
   |free=>cases c<;>simp[ShEq]at h'
   |gone=>cases c<;>simp[ShEq]at h'
   |live d=>
    cases b<;>cases c<;>simp only[ShEq]at h<;>cases d<;>simp only[ShEq]at h' ⊢
    .exact⟨h.1.trans h'.1,h.2.1.trans h'.2.1,h.2.2.trans h'.2.2⟩
    .exact⟨h.1.trans h'.1,h.2.trans h'.2⟩
theorem ShEq.mask{rd bY:G->BS}{M:H G}(h:∀k,M.contains k=U->ShEq (rd k) (bY k))(k:G):ShEq (jX M rd k) (jX M bY k):=by
 unfold jX;split
 .trivial
 .rename_i hc;exact h k (by simpa using hc)
theorem Ip{b c:BS}(h:ShEq b c):isLive b=isLive c:=by
 cases b with
 |free=>cases c<;>simp_all[ShEq,isLive]
 |gone=>cases c<;>simp_all[ShEq,isLive]
 |live b=>cases c with
  |free=>cases b<;>simp[ShEq]at h
  |gone=>cases b<;>simp[ShEq]at h
  |live c=>rfl
theorem jzc{rd bY:G->BS}(h:∀k,ShEq (rd k) (bY k))(ti:TyI)(l i:Leaf):u7 rd ti l i=u7 bY ti l i:=by
 unfold u7;split
 .rename_i k _ _;have hk:=h k;generalize rd k=b at hk;generalize bY k=c at hk;cases b with
  |free=>cases c<;>simp_all[ShEq]
  |gone=>cases c<;>simp_all[ShEq]
  |live b=>cases c with
   |free=>cases b<;>simp[ShEq]at hk
   |gone=>cases b<;>simp[ShEq]at hk
   |live c=>
    cases b with
    |lst e a xs f=>cases c with
     |lst e' a' dj f'=>simp only[ShEq]at hk;obtain⟨rfl,rfl,hl⟩:=hk;dsimp only;rw[hl]
     |cell _ _=>simp[ShEq]at hk
     |arr _ _ _=>simp[ShEq]at hk
    |cell _ _=>cases c<;>first|rfl|(simp[ShEq]at hk)
    |arr _ _ _=>cases c<;>first|rfl|(simp[ShEq]at hk)
 .rfl
 .rename_i k _ _;have hk:=h k;generalize rd k=b at hk;generalize bY k=c at hk;cases b with
  |free=>cases c<;>simp_all[ShEq]
  |gone=>cases c<;>simp_all[ShEq]
  |live b=>cases c with
   |free=>cases b<;>simp[ShEq]at hk
   |gone=>cases b<;>simp[ShEq]at hk
   |live c=>
    cases b with
    |arr n a xs=>cases c with
     |arr n' a' dj=>simp only[ShEq]at hk;obtain⟨rfl,rfl⟩:=hk;rfl
     |cell _ _=>simp[ShEq]at hk
     |lst _ _ _ _=>simp[ShEq]at hk
    |cell _ _=>cases c<;>first|rfl|(simp[ShEq]at hk)
    |lst _ _ _ _=>cases c<;>first|rfl|(simp[ShEq]at hk)
 .rename_i k _ _ _;have hk:=h k;generalize rd k=b at hk;generalize bY k=c at hk;cases b with
  |free=>cases c<;>simp_all[ShEq]
  |gone=>cases c<;>simp_all[ShEq]
  |live b=>cases c with
   |free=>cases b<;>simp[ShEq]at hk
   |gone=>cases b<;>simp[ShEq]at hk
   |live c=>
    cases b with
    |lst e a xs f=>cases c with
     |lst e' a' dj f'=>simp only[ShEq]at hk;obtain⟨rfl,rfl,hl⟩:=hk;dsimp only;rw[hl]
     |cell _ _=>simp[ShEq]at hk
     |arr _ _ _=>simp[ShEq]at hk
    |cell _ _=>cases c<;>first|rfl|(simp[ShEq]at hk)
    |arr _ _ _=>cases c<;>first|rfl|(simp[ShEq]at hk)
 .rfl
theorem jzd{rd bY:G->BS}(h:∀k,ShEq (rd k) (bY k))(ti:TyI)(i:G)(l:Leaf):rL rd ti i l=rL bY ti i l:=by
 unfold rL;split
 .rw[Ip (h _)]
 .rw[Ip (h _)]
 .rfl
 .rfl
theorem ShEq.msk{rd bY:G->BS}{k:G}(h:ShEq (rd k) (bY k)):ShEq (mskM rd k) (mskM bY k):=by
 unfold mskM;generalize rd k=a at h;generalize bY k=b at h;cases a with
 |free=>cases b<;>simp_all[ShEq]
 |gone=>cases b<;>simp_all[ShEq]
 |live a=>
  cases b with
  |free=>cases a<;>simp[ShEq]at h
  |gone=>cases a<;>simp[ShEq]at h
  |live b=>
   cases a<;>cases b<;>simp only[ShEq]at h<;>dsimp only
   .trivial
   .obtain⟨rfl,rfl,h3⟩:=h;rename_i e _ _ _ _ _;cases isM e
    .exact⟨rfl,rfl,h3⟩
    .trivial
   .exact h
theorem jBU{E:Env}{ev:Ë->Slot}{rd bY:G->BS}{act:H (G×Æ)}{o:Ã}(ha:sE o=X)(h:∀k,ShEq (rd k) (bY k)):dU E ev rd act o=dU E ev bY act o:=by
 have h:∀k,ShEq (mskM rd k) (mskM bY k):=λk=>(h k).msk;obtain⟨dst,op,type,pos,after,guard⟩:=o;cases op<;>simp only[sE,kv]at ha
 .simp only[dU];split
  .rw[Ip (h _)]
  .rw[Ip (h _)]
  .rfl
  .rfl
 .simp only[dU];split
  .rw[jzd h]
  .rfl
 .simp only[dU];split
  .rw[jzc h]
  .rfl
theorem Wc:∀(u:Ups)(σ:St),(∀e∈u,ShEq (σ.bx e.1) e.2)->∀k,ShEq (σ.bx k) ((σ.upd u).bx k)
 |[],σ,_,k=>ShEq.refl _
 |e::u,σ,h,k=>by
  have h0:∀k,ShEq (σ.bx k) ((σ.setB e.1 e.2).bx k):=by
   intro k;simp only[St.setB];split
   .rename_i hk;rw[hk];exact h e smp_
   .exact ShEq.refl _
  have h1:=Wc u (σ.setB e.1 e.2) (λx hx=>(h0 x.1).symm.trans (h x (by simp[hx]))) k;exact(h0 k).trans h1
def UpSh(rd:G->BS)(u:Ups):Prop:=∀e∈u,ShEq (rd e.1) e.2/\isLive e.2=X
theorem jBV{rd:G->BS}{t:Ty}{l:Leaf}{v:t.den}{u:Ups}(h:kK rd t l=B (v,u)):UpSh rd u:=by
 unfold kK at h;split at h
 .split at h
  .simp only[j5,j9]at h;rw[<-h.2];intro e he;simp at he
  .simp at h
 .split at h
  .simp only[j5,j9]at h;rw[<-h.2];intro e he;simp at he
  .simp at h
 .split at h
  .rename_i hk;split at h
   .simp only[j5,j9]at h;rw[<-h.2];intro e he;simp only[kr]at he;subst he;dsimp only;rw[hk];exact⟨⟨rfl,rfl,rfl⟩,rfl⟩
   .simp at h
  .simp at h
 .simp at h
theorem UpSh.app{rd:G->BS}{u v:Ups}(h:UpSh rd u)(h':UpSh rd v):UpSh rd (u++v):=by
 intro e he;rcases jj.1 he with he|he
 .exact h e he
 .exact h' e he
theorem Wd{rd:G->BS}:∀(t:Ty){ls:H Leaf}{v:t.den}{r:H Leaf}{u:Ups},gath rd t ls=B (v,r,u)->UpSh rd u:=by
 intro t;induction t with
 |unit=>intro ls v r u h;simp only[gath,j5,j9]at h;rw[<-h.2.2];intro e he;simp at he
 |wrap a ih=>
  intro ls v r u h;simp only[gath]at h;split at h
  .rename_i hg;simp only[j5,j9]at h;rw[<-h.2.2];exact ih hg
  .simp at h
 |pair a b qP oH=>
  intro ls v r u h;simp only[gath]at h;split at h
  .rename_i hg;split at h
   .rename_i kQ;simp only[j5,j9]at h;rw[<-h.2.2];exact(qP hg).app (oH kQ)
   .simp at h
  .simp at h
 |arr n a ih=>intro ls v r u h;simp[gath]at h
 |_=>
  intro ls v r u h;cases ls with
  |nil=>simp[gath]at h
  |cons l ls=>
   simp only[gath]at h;split at h
   .rename_i hl;simp only[j5,j9]at h;rw[<-h.2.2];exact jBV hl
   .simp at h
theorem jzf{rd rdf:G->BS}(bK:RdLe rdf rd){n:G}{c:Cel}{l:Leaf}{u:Ups}(h:xk rd rdf n c l=B u):UpSh rd u:=by
 have one:∀(k:G)(b b':Bx),rd k = .live b->ShEq (.live b) (.live b')->UpSh rd [(k,.live b')]:=by intro k b b' hk hs e he;simp only[kr]at he;subst he;exact⟨by rw[hk];exact hs,rfl⟩
 have lift:∀u,UpSh rdf u->UpSh rd u:=by
  intro u hu e he;obtain⟨h1,h2⟩:=hu e he;rcases bK e.1 with hq|hq
  .rw[hq]at h1;exact⟨h1,h2⟩
  .rw[hq]at h1;cases h3:e.2 with
   |free=>rw[h3]at h2;simp[isLive]at h2
   |gone=>rw[h3]at h2;simp[isLive]at h2
   |live b=>rw[h3]at h1;cases b<;>simp[ShEq]at h1
 unfold xk at h;split at h
 .split at h
  .rename_i hk;split at h
   .split at h
    .simp only[j5]at h;subst h;exact one _ _ _ hk trivial
    .simp at h
   .simp at h
  .rename_i hk;split at h
   .split at h
    .split at h
     .split at h
      .simp only[j5]at h;subst h;exact one _ _ _ hk ⟨rfl,rfl⟩
      .simp at h
     .simp at h
    .simp at h
   .simp at h
  .simp at h
 .split at h
  .rename_i hk;split at h
   .split at h
    .split at h
     .rename_i hg;split at h
      .simp at h
      .simp only[j5]at h;subst h;exact(lift _ (Wd _ hg)).app (one _ _ _ hk ⟨rfl,rfl,smp_⟩)
     .simp at h
    .simp at h
   .simp at h
  .rename_i hk;split at h
   .split at h
    .split at h
     .rename_i hg;split at h
      .simp at h
      .simp only[j5]at h;subst h;exact(lift _ (Wd _ hg)).app (one _ _ _ hk ⟨rfl,rfl⟩)
     .simp at h
    .simp at h
   .simp at h
  .simp at h
 .simp at h
theorem jFG(np:G)(rd:G->BS):RdLe (λk=>if parK np k then .gone else rd k) rd:=by
 intro k;dsimp only;split
 .exact .inr rfl
 .exact .inl rfl
theorem UpSh.le{rd bY:G->BS}(hle:RdLe rd bY){u:Ups}(h:UpSh rd u):UpSh bY u:=by
 intro e he;obtain⟨h1,h2⟩:=h e he;rcases hle e.1 with hq|hq
 .rw[hq]at h1;exact⟨h1,h2⟩
 .rw[hq]at h1;cases h3:e.2 with
  |free=>rw[h3]at h2;simp[isLive]at h2
  |gone=>rw[h3]at h2;simp[isLive]at h2
  |live b=>rw[h3]at h1;cases b<;>simp[ShEq]at h1
theorem jEq(rd:G->BS):RdLe (mskM rd) rd:=λk=>UG k
theorem juB{E:Env}{ev:Ë->Slot}{rd:G->BS}{act:H (G×Æ)}{o:Ã}(ho:u9 o=X){lI:Æ}{s:Slot}{u:Ups}(h:dU E ev rd act o=B (.val lI s u)):UpSh rd u:=by
 obtain⟨dst,op,type,pos,after,guard⟩:=o;cases op<;>simp only[u9,kv]at ho;simp only[dU]at h;split at h
 .split at h
  .rename_i hs;simp only[j5,Act.val.injEq]at h;rw[<-h.2.2];exact(jzf (jFG E.np (mskM rd)) hs).le (jEq rd)
  .simp at h
 .simp at h
theorem jnT{E:Env}{ev:Ë->Slot}{rd:G->BS}{act:H (G×Æ)}{o:Ã}(ho:u9 o=X){f:G}{args:H Arg}{mk:Ret->O (Slot×Ups)}:dU E ev rd act o≠B (.call f args mk):=by
 obtain⟨dst,op,type,pos,after,guard⟩:=o;cases op<;>simp only[u9,kv]at ho;intro h;simp only[dU]at h;split at h
 .split at h
  .simp at h
  .simp at h
 .simp at h
theorem UpSh.unmask{rd:G->BS}{M:H G}{u:Ups}(h:UpSh (jX M rd) u):UpSh rd u:=by
 intro e he;obtain⟨h1,h2⟩:=h e he;rcases M5 M rd e.1 with hq|hq
 .rw[hq]at h1;exact⟨h1,h2⟩
 .rw[hq]at h1;cases h3:e.2 with
  |free=>rw[h3]at h2;simp[isLive]at h2
  |gone=>rw[h3]at h2;simp[isLive]at h2
  |live b=>rw[h3]at h1;cases b<;>simp[ShEq]at h1
end
section
variable{N:NT}{np:G}{S0:aY}{w0:Z}{refs:Refs}{σ:St}{a:Â}{w:Z}{S:aY}{γ:G->Y}
inductive Bef(ops:Á Ã):G->G->Prop
 |dep {i j:G} {o:Ã}:ops[i]? = B o->j∈qJ o->Bef ops i j
 |trans {i j k:G}:Bef ops i j->Bef ops j k->Bef ops i k
structure DOkR(ops:Á Ã)(A:H (H G)):Prop where
 lt:∀i o,ops[i]? = B o->∀j∈qJ o,j<i
 addr:∀i o,ops[i]? = B o->sE o=X->∀k,k∉A.getD i []
 dst:∀i j oi oj t,ops[i]? = B oi->ops[j]? = B oj->i≠j->oj.dst=B t->oi.dst≠B t/\(t∈oi.looksAt ops->Bef ops i j\/Bef ops j i)
 box:∀i j oi oj k,ops[i]? = B oi->ops[j]? = B oj->i≠j->k∈A.getD i []->k∈A.getD j []->Bef ops i j\/Bef ops j i
theorem DOkR.bef{ops:Á Ã}{A:H (H G)}(h:DOkR ops A){i j:G}(hb:Bef ops i j):j<i:=by
 induction hb with
 |dep ho hj=>exact h.lt _ _ ho _ hj
 |trans _ _ h1 h2=>omega
def ClOk(ops:Á Ã)(cl:H G):Prop:=∀i j,(cl.getD i 0).testBit j=X->Bef ops i j
theorem We{ops:Á Ã}{cls:H G}(hc:ClOk ops cls){i:G}{o:Ã}(ho:ops[i]? = B o):∀(l:H G)(m:G),(∀j∈l,j∈qJ o)->(∀j,m.testBit j=X->Bef ops i j)->
  ∀j,(l.foldl (λm j=>m|||(2^j|||cls.getD j 0)) m).testBit j=X->Bef ops i j
 |[],m,_,hm,j,h=>hm j h
 |x::l,m,hl,hm,j,h=>by
  refine We hc ho l _ (λj hj=>hl j (by simp[hj])) (λj hj=>?_) j h;simp only[Nat.testBit_or,y8,Nat.testBit_two_pow,js]at hj;rcases hj with hj|hj|hj
  .exact hm j hj
  .subst hj;exact .dep ho (hl x smp_)
  .exact .trans (.dep ho (hl x smp_)) (hc x j hj)
theorem Wh{ops:Á Ã}:∀(l:H Ã)(cls:H G),ClOk ops cls->(∀k o,l[k]? = B o->ops[cls.length+k]? = B o)->ClOk ops (Dk l cls)
 |[],cls,hc,_=>hc
 |o::os,cls,hc,hl=>by
  have ho:ops[cls.length]? = B o:=by have:=hl 0 o rfl;simpa using this
  refine Wh os _ ?_ (λk x hk=>by
   have:=hl (k+1) x (by simpa using hk);rw[jc,qe];rwa[show cls.length+1+k=cls.length+(k+1) by omega])
  intro i j dP;rcases zo i cls.length with hi|hi|hi
  .rw[È,Ê hi,<-È]at dP;exact hc i j dP
  .subst hi;rw[È,kn (jn _),yx]at dP;simp only[List.getElem?_cons_zero,qd]at dP;exact We hc ho (qJ o) 0 (λ_ h=>h) (λj h=>by simp at h) j dP
  .rw[È,zi sqo_]at dP;simp at dP
theorem M8{ops:Á Ã}{cl:H G}(hc:ClOk ops cl){i j:G}(h:Dl cl i j=X):i=j\/Bef ops i j\/Bef ops j i:=by
 simp only[Dl,y8,zr]at h;rcases h with (h|h)|h
 .exact .inl h
 .exact .inr (.inl (hc i j h))
 .exact .inr (.inr (hc j i h))
theorem juC{ops:Á Ã}{cl:H G}{A:H (H G)}(hc:ClOk ops cl)(bX:Un ops cl A=X):DOkR ops A:=by
 have hz:∀{i:G}{o:Ã},ops[i]? = B o->(o,i)∈ops.toList.zipIdx:=by intro i o ho;rw[v7];exact⟨i,by rw[Þ];simp[ho]⟩
 have qU:∀i k,k∈A.getD i []->A.isEmpty=false:=by
  intro i k hk;cases A with
  |nil=>simp at hk
  |cons _ _=>rfl
 have aA:∀{i:G}{o:Ã},ops[i]? = B o->(∀j∈qJ o,j<i)/\(A.isEmpty || !sE o||(A.getD i []).isEmpty)=X/\∀j oj,ops[j]? = B oj->HE ops cl A i o j oj=true:=by intro i o ho;have:=kj.1 bX (o,i) (hz ho);simp only[jg]at this;exact⟨λj hj=>by simpa using kj.1 this.1.1 j hj,this.1.2,λj oj lU=>kj.1 this.2 (oj,j) (hz lU)⟩
 refine⟨λi o ho=>(aA ho).1,λi o ho nI k hk=>?_,λi j oi oj t hi hj dP ht=>?_,λi j oi oj k hi hj dP hk bH=>?_⟩
 .have:=(aA ho).2.1;rw[qU i k hk,nI]at this;simp only[jl,y9,List.isEmpty_iff]at this;rw[this]at hk;simp at hk
 .have:=(aA hi).2.2 j oj hj;simp only[HE,ht,jg]at this;have h1:=this.1;simp only[y8,zr,dP,false_or,jg,bne_iff_ne,ne_eq,qn,qr,q7]at h1;refine⟨h1.1,λhm=>?_⟩;rcases h1.2 with h|h
  .exact absurd hm h
  .exact(M8 hc h).resolve_left dP
 .have:=(aA hi).2.2 j oj hj;simp only[HE,jg]at this;have h2:=this.2;rw[qU i k hk]at h2;simp only[y9,y8]at h2;rcases h2 with h|h
  .exact(M8 hc h).resolve_left dP
  .have:=kj.1 h k hk;simp only[qr,qn,q7]at this;exact absurd bH this
theorem Wi{ops:Á Ã}{cl:H G}{A:H (H G)}(hc:ClOk ops cl){i:G}{oi:Ã}{k:G}(hm:(vA ops cl A i oi).contains k=U){j:G}{oj:Ã}(hj:ops[j]? = B oj)(hk:k∈A.getD j []) :
  i=j\/Bef ops i j\/Bef ops j i\/(sE oi=X/\u9 oj=X):=by
 have hz:(oj,j)∈ops.toList.zipIdx:=by rw[v7];exact⟨j,by rw[Þ];simp[hj]⟩
 have bz:A.isEmpty=false:=by
  cases A with
  |nil=>simp at hk
  |cons _ _=>rfl
 unfold vA at hm;rw[bz]at hm;simp only[kv,zu,qr,q7,qg,not_exists,not_and]at hm;have:=hm (oj,j) hz;dsimp only at this;split at this
 .rename_i h;simp only[y8,jg]at h;rcases h with h|h
  .rcases M8 hc h with h|h|h
   .exact .inl h
   .exact .inr (.inl h)
   .exact .inr (.inr (.inl h))
  .exact .inr (.inr (.inr h))
 .exact absurd hk this
inductive DStep(P:Ä)(E:Env)(ops:Á Ã)(M Ai:H G)(o:Ã)(σ:St):St->Prop
 |skip (s:G) (wn v:Æ):qF ops o=B (s,wn)->σ.sl s = .one (.one (.d .bool v))->v≠wn->DStep P E ops M Ai o σ (σ.setD o.dst .und)
 |skipU (s:G) (wn:Æ):qF ops o=B (s,wn)->σ.sl s = .und->DStep P E ops M Ai o σ (σ.setD o.dst .und)
 |val (s:Slot) (u:Ups):(o.guard=À\/∃s wn,qF ops o=B (s,wn)/\σ.sl s = .one (.one (.d .bool wn)))->dU E σ.ev (jX M σ.bx) [] o=B (.val X s u)->(∀e∈u,e.1∈Ai)->
  DStep P E ops M Ai o σ ((σ.upd u).setD o.dst s)
 |call (f:G) (args:H Arg) (mk:Ret->O (Slot×Ups)) (ret:Ret) (s:Slot) (u:Ups):(o.guard=À\/∃s wn,qF ops o=B (s,wn)/\σ.sl s = .one (.one (.d .bool wn)))->
  dU E σ.ev (jX M σ.bx) [] o=B (.call f args mk)->Fun P f->H8 P f args (λr=>r=ret)->mk ret=B (s,u)->(∀e∈u,e.1∈Ai)->DStep P E ops M Ai o σ ((σ.upd u).setD o.dst s)
theorem Wj{s:G}{x:Slot}(h:σ.sl s=x):σ.setS s x=σ:=by
 unfold St.setS
 have:(λj=>if j=s then x else σ.sl j)=σ.sl:=by
  funext j
  split
  .rename_i hj;subst hj;exact h.symm
  .rfl
 rw[this]
theorem Wk{u:Ups}{Ai:H G}(h:(u.all λe=>Ai.contains e.1)=X):∀e∈u,e.1∈Ai:=λe he=>by simpa using kj.1 h e he
theorem M9{P:Ä}{E:Env}(hC:oo P E.C)(hF:CFun E.C){ops:Á Ã}{M Ai:H G}{o:Ã}{R:Type}{k:St->O R}{r:R}
  (hg:o.guard=À\/∃s wn,qF ops o=B (s,wn)/\σ.sl s = .one (.one (.d .bool wn)))(h:runD E M Ai σ o k=B r):∃σ',DStep P E ops M Ai o σ σ'/\k σ'=B r:=by
 unfold runD at h;split at h
 .simp at h
 .rename_i lI s u ho;split at h
  .rename_i hb;cases lI with
   |false=>simp at h
   |true=>exact⟨_,.val s u hg ho (Wk hb),h⟩
  .simp at h
 .rename_i f args mk ho;obtain⟨x,hx⟩:=hF f args;rw[hx]at h;cases x with
  |none=>simp at h
  |some ret=>
   simp only[j4]at h;obtain⟨hf,gE⟩:=hC f args Ret B ret (by rw[hx];rfl);split at h
   .rename_i s u cP;split at h
    .rename_i hb
     exact⟨_,.call f args mk ret s u hg ho hf (by
      intro w S vals ha hn hS;refine(gE w S vals ha hn hS).mono ?_
      rintro e w' ⟨r',vO,rest⟩
      exact⟨r',by simpa using vO,rest⟩) cP (Wk hb),h⟩
    .simp at h
   .simp at h
theorem jEr{P:Ä}{E:Env}(hC:oo P E.C)(hF:CFun E.C){ops:Á Ã}{M Ai:H G}{o:Ã}{R:Type}{k:St->O R}{r:R}
  (h:Dm E ops M Ai σ o k=B r):∃σ',DStep P E ops M Ai o σ σ'/\k σ'=B r:=by
 unfold Dm at h;split at h
 .rename_i hg;exact M9 hC hF (.inl hg) h
 .split at h
  .rename_i s wn hg;split at h
   .rename_i v hv;cases v with
    |true=>
     rw[j6,Wj hv]at h;cases wn with
     |true=>exact M9 hC hF (.inr ⟨s,X,hg,hv⟩) h
     |false=>exact⟨_,.skip s U X hg hv smp_,h⟩
    |false=>
     rw[j7,Wj hv]at h;cases wn with
     |false=>exact M9 hC hF (.inr ⟨s,U,hg,hv⟩) h
     |true=>exact⟨_,.skip s X U hg hv smp_,h⟩
   .rename_i hv;exact⟨_,.skipU s wn hg hv,h⟩
   .simp at h
  .simp at h
theorem Wl{P:Ä}{E:Env}(hC:oo P E.C)(hF:CFun E.C){ops:Á Ã}{cl:H G}{A:H (H G)}{R:Type}{k:St->O R}{r:R}:∀(n i:G)(σ:St),i+n=ops.size->BT E ops cl A (ops.toList.drop i) i σ k=B r->
  ∃τ:G->St,τ i=σ/\k (τ ops.size)=B r/\∀j o,i<=j->ops[j]? = B o->uD E.N o=X/\DStep P E ops (vA ops cl A j o) (A.getD j []) o (τ j) (τ (j+1))
 |0,i,σ,hi,h=>by
  rw[jd sqo_]at h;refine⟨λ_=>σ,rfl,h,λj o hj ho=>?_⟩;have:=(jq.1 ho).1;omega
 |n+1,i,σ,hi,h=>by
  have aq:i<ops.size:=omg_;rw[jb (by simpa using aq)]at h;simp only[BT]at h;split at h
  .rename_i hd;obtain⟨σ1,hs,hk⟩:=jEr (P:=P) hC hF h;obtain⟨τ1,h1,h2,h3⟩:=Wl hC hF n (i+1) σ1 omg_ hk;refine⟨λj=>if j=i then σ else τ1 j,smp_,?_,λj o hj ho=>?_⟩
   .simp only[show ops.size≠i by omega,zu];exact h2
   .by_cases r8:j=i
    .subst r8;have Ax:ops[j]? = B ops[j]:=kb aq;rw[Ax]at ho;simp only[j5]at ho;subst ho;refine⟨by simpa using hd,?_⟩;simp only[if_true,show j+1≠j by omega,zu,h1];simpa using hs
    .simp only[r8,zu,show j+1≠i by omega];exact h3 j o omg_ ho
  .simp at h
theorem Rel.drawn(hR:Rel N np S0 w0 refs σ a w S γ)(n:G):Rel N np S0 w0 refs σ a { w with drawn:=n } S γ:=
 Rel.step (bx':=σ.bx) (γ':=γ) hR (λ_ _ h=>⟨h,rfl⟩) (.refl _ _) (λk b hb=>fK.keep (w:=w) (w':={ w with drawn:=n }) (λ_ _ h=>⟨h,rfl⟩) (.refl _ _) rfl (λ_ _=>⟨rfl,λ_=>Iff.rfl⟩) (hR.box k b hb))
  hR.own hR.apart hR.new hR.here hR.below hR.grow hR.os hR.tape hR.output (λ_ _ _ h=>⟨rfl,h⟩)
theorem D_wp{P:Ä}{E:Env}(hT:db P E.T)(hR:Rel E.N E.np S0 w0 refs σ a w S γ)(hc:eP σ){ops:Á Ã}{M Ai:H G}{i:G}{o:Ã}(ho:ops[i]? = B o)(hd:uD E.N o=X)
  {τ τ':St}(hs:DStep P E ops M Ai o τ τ')(fT:(∀k,jX M σ.bx k=jX M τ.bx k)\/(sE o=X/\∀k,ShEq (jX M σ.bx k) (jX M τ.bx k)))(tp:∀t,t∈o.looksAt ops->σ.sl t=τ.sl t){K:Â->Z->Prop}{Q:Ð->Â->Z->Prop}
  (hK:∀(s:Slot)(u:Ups)(a':Â)(w':Z)(S':aY)(γ':G->Y),τ'=(τ.upd u).setD o.dst s->(∀e∈u,e.1∈Ai)->Rel E.N E.np S0 w0 refs ((σ.upd u).setD o.dst s) a' w' S' γ'->eP ((σ.upd u).setD o.dst s)->K a' w') :
  wpOp P ops Q i K a w:=by
 have pM:=MS hd
 have r9:∀x∈o.op.operands,σ.ev x=τ.ev x:=by
  intro x hx;cases x with
  |tmp t=>exact tp t (jx _ (vu.2 ⟨.tmp t,by simpa using hx,rfl⟩))
  |_=>rfl
 have Aa:∀s wn,qF ops o=B (s,wn)->s∈o.looksAt ops:=by
  intro s wn hg;refine k5 _ ?_;unfold qF at hg;split at hg
  .simp at hg
  .rename_i j w' MT;split at hg
   .rename_i oj lU;split at hg
    .rename_i s' cW;simp only[j5,j9]at hg;simp[MT,lU,cW,hg.1]
    .simp at hg
   .simp at hg
 have Ay:∀s v,qF ops o≠À->s∈o.looksAt ops->τ.sl s = .one (.one (.d .bool v))->tm a s = .bool v:=by intro s v _ hm hv;have:=hR.slot s;rw[tp s hm,hv]at this;exact uE this
 have bn:dU E σ.ev (jX M σ.bx) [] o=dU E τ.ev (jX M τ.bx) [] o:=by
  rcases fT with fT|⟨nI,fT⟩
  .rw[show jX M σ.bx=jX M τ.bx from funext fT];exact Wb r9
  .rw[jBU nI fT];exact Wb r9
 have dL:∀(s:Slot)(u:Ups)(v:Y)(w':Z)(S':aY)(γ':G->Y),τ'=(τ.upd u).setD o.dst s->(∀e∈u,e.1∈Ai)->Rel E.N E.np S0 w0 refs (σ.upd u) a w' S' γ'->
   iZ S' w' γ' (σ.upd u).bx (tm a) s v->s.bare=X->K (a.put o.dst v) w':=by
  intro s u v w' S' γ' he hb dI cW eU;obtain⟨h1,h2⟩:=VN dI (VO hc) pM cW eU;exact hK s u _ w' S' γ' he hb h1 h2
 have xY:(o.guard=À\/∃s wn,qF ops o=B (s,wn)/\τ.sl s = .one (.one (.d .bool wn)))->Å o (yielded ops a.tmps)=true:=by
  rintro (hg|⟨s,wn,hg,hv⟩)
  .simp[Å,hg]
  .exact(Ik hg).2 (Ay s wn (by rw[hg];simp) (Aa s wn hg) hv)
 unfold wpOp;simp only[ho];cases hs with
 |skip s wn v hg hv bz=>
  have hw:¬Å o (yielded ops a.tmps)=true:=λhw=>by
   have h1:=(Ik hg).1 hw;rw[Ay s v (by rw[hg];simp) (Aa s wn hg) hv]at h1;exact bz (by simpa using h1)
  simp only[hw,zu,kv];exact dL .und [] undef w S γ rfl smp_ hR rfl rfl
 |skipU s wn hg hv=>
  have hu:tm a s=undef:=by have:=hR.slot s;rw[tp s (Aa s wn hg),hv]at this;exact this
  have hw:¬Å o (yielded ops a.tmps)=true:=λhw=>by
   have h1:=(Ik hg).1 hw;rw[hu]at h1;simp[undef]at h1
  simp only[hw,zu,kv];exact dL .und [] undef w S γ rfl smp_ hR rfl rfl
 |val s u hg cj hb=>
  simp only[xY hg,if_true];rw[<-bn]at cj;obtain⟨A',Az,hle⟩:=Wa (M5 M σ.bx) cj;cases hle;obtain⟨⟨v,w',S',γ',aS,dI,cW⟩,eU⟩:=MN hT hR (act:=[]) (λg hg=>by simp at hg) (λ_=> .inl rfl) Az;refine .inl ?_;unfold Ö;rcases aS with aS|⟨aS,rfl⟩
  .rw[aS,Ì];exact dL s u v w' S' γ' rfl hb dI cW eU
  .rw[aS,Ü];exact dL s u undef w' S' γ' rfl hb dI cW eU
 |call f args mk ret s u hg cj hf gE cP hb=>
  simp only[xY hg,if_true];rw[<-bn]at cj;obtain⟨A',Az,hle⟩:=Wa (M5 M σ.bx) cj;cases hle with
  |call _ _ _ mk' jN=>
   have En:=jN _ _ cP;obtain⟨vals,aS,oZ,eU⟩:=VK hR (act:=[]) (λg hg=>by simp at hg) (λ_=> .inl rfl) Az hf gE;refine .inl ?_;unfold Ö;rw[aS,î];refine oZ.mono ?_
   rintro e w' ⟨ret',rfl,aA⟩
   obtain⟨v,S',γ',rfl,dI,cW⟩:=aA s u En;exact dL s u v w' S' γ' rfl hb dI cW (eU _ s u En)
end
section
variable{S0:aY}{w0:Z}{refs:Refs}{σ:St}{a:Â}{w:Z}{S:aY}{γ:G->Y}
theorem Na{o:Ã}{j:G}:j∈qJ o↔∃e∈o.after,Region.binds .any e=X/\e.on=j:=by
 simp only[qJ,vu];constructor
 .rintro⟨e,he,h⟩
  split at h
  .rename_i hb;simp only[j5]at h;exact⟨e,by simpa using he,hb,h⟩
  .simp at h
 .rintro⟨e,he,hb,h⟩
  exact⟨e,by simpa using he,by simp[hb,h]⟩
theorem jxB{ops:Á Ã}{aD:Á Æ}{i:G}(h:i∈å .any ops aD) :
  aD.getD i X=U/\∃o,ops[i]? = B o/\∀j∈qJ o,aD.getD j U=true:=by
 obtain⟨h0,o,ho,h1⟩:=mem_ready.1 h;exact⟨h0,o,ho,λj hj=>by obtain⟨e,he,hb,rfl⟩:=Na.1 hj;exact h1 e he hb⟩
def wq(P:Ä)(E:Env)(ops:Á Ã)(cl:H G)(A:H (H G))(τ:G->St):Prop:=
 ∀j o,ops[j]? = B o->uD E.N o=X/\DStep P E ops (vA ops cl A j o) (A.getD j []) o (τ j) (τ (j+1))
theorem Iq:∀(u:Ups)(σ:St)(t:G),(σ.upd u).sl t=σ.sl t
 |[],_,_=>rfl
 |e::u,σ,t=>Iq u (σ.setB e.1 e.2) t
theorem AA(σ:St)(d:O G)(s:Slot):(σ.setD d s).bx=σ.bx:=by cases d<;>rfl
theorem Nb{σ:St}{d:O G}{s:Slot}{t:G}(h:d≠B t):(σ.setD d s).sl t=σ.sl t:=by
 cases d with
 |none=>rfl
 |some d=>have:t≠d:=λe=>h (by rw[e]);simp[St.setD,St.setS,this]
theorem Wm{σ:St}{s:Slot}{t:G}:(σ.setD (B t) s).sl t=s:=by simp[St.setD,St.setS]
theorem Ir:∀(u:Ups)(σ:St)(k:G),(∀e∈u,e.1≠k)->(σ.upd u).bx k=σ.bx k
 |[],_,_,_=>rfl
 |e::u,σ,k,h=>by
  have h1:=Ir u (σ.setB e.1 e.2) k (λx hx=>h x (by simp[hx]));show ((σ.setB e.1 e.2).upd u).bx k=_;rw[h1];have:=h e smp_;have bz:¬k=e.1:=λhk=>this hk.symm;simp[St.setB,bz]
theorem Wn:∀(u:Ups)(σ τ:St)(k:G),σ.bx k=τ.bx k->(σ.upd u).bx k=(τ.upd u).bx k
 |[],_,_,_,h=>h
 |e::u,σ,τ,k,h=>by
  refine Wn u (σ.setB e.1 e.2) (τ.setB e.1 e.2) k ?_;simp only[St.setB];split
  .rfl
  .exact h
section
variable{P:Ä}{E:Env}{ops:Á Ã}{cl:H G}{A:H (H G)}{τ:G->St}
theorem Nc(h:wq P E ops cl A τ){j:G}{o:Ã}(ho:ops[j]? = B o):∃s u,τ (j+1)=((τ j).upd u).setD o.dst s/\(∀e∈u,e.1∈A.getD j [])/\(u9 o=X->∀k,ShEq ((τ j).bx k) ((τ (j+1)).bx k)):=by
 obtain⟨_,hs⟩:=h j o ho;generalize hq:τ (j+1)=σ' at hs;cases hs with
 |skip s wn v hg hv bz=>exact⟨.und,[],rfl,smp_,λ_ k=>by rw[AA];exact ShEq.refl _⟩
 |skipU s wn hg hv=>exact⟨.und,[],rfl,smp_,λ_ k=>by rw[AA];exact ShEq.refl _⟩
 |val s u hg cj hb=>exact⟨s,u,rfl,hb,λaQ k=>by
  rw[AA];exact Wc u (τ j) (λe he=>((juB aQ cj).unmask e he).1) k⟩
 |call f args mk ret s u hg cj hf gE cP hb=>exact⟨s,u,rfl,hb,λaQ=>absurd cj (jnT aQ)⟩
theorem jEs(h:wq P E ops cl A τ){j:G}{o:Ã}(ho:ops[j]? = B o){t:G}(ht:o.dst≠B t):(τ (j+1)).sl t=(τ j).sl t:=by
 obtain⟨s,u,he,_⟩:=Nc h ho;rw[he,Nb ht,Iq]
theorem Wo(h:wq P E ops cl A τ){j:G}{o:Ã}(ho:ops[j]? = B o){k:G}(hk:k∉A.getD j []):(τ (j+1)).bx k=(τ j).bx k:=by
 obtain⟨s,u,he,hu,_⟩:=Nc h ho;rw[he,AA];exact Ir u _ k (λe hm uN=>hk (uN▸hu e hm))
theorem Eo(h:wq P E ops cl A τ){t j:G}:∀n,j+n<=ops.size->(∀k o,j<=k->k<j+n->ops[k]? = B o->o.dst≠B t)->(τ (j+n)).sl t=(τ j).sl t
 |0,_,_=>rfl
 |n+1,hn,hk=>by
  have aq:j+n<ops.size:=omg_;have ho:ops[j+n]? = B ops[j+n]:=kb aq;rw[<-ã,jEs h ho (hk _ _ omg_ omg_ ho)];exact Eo h n omg_ (λk o h1 h2=>hk k o h1 omg_)
theorem Ep(h:wq P E ops cl A τ){k j:G}:∀n,j+n<=ops.size->(∀i o,j<=i->i<j+n->ops[i]? = B o->k∉A.getD i [])->(τ (j+n)).bx k=(τ j).bx k
 |0,_,_=>rfl
 |n+1,hn,hk=>by
  have aq:j+n<ops.size:=omg_;have ho:ops[j+n]? = B ops[j+n]:=kb aq;rw[<-ã,Wo h ho (hk _ _ omg_ omg_ ho)];exact Ep h n omg_ (λi o h1 h2=>hk i o h1 omg_)
theorem Is(h:wq P E ops cl A τ){k j:G}:∀n,j+n<=ops.size->(∀i o,j<=i->i<j+n->ops[i]? = B o->k∈A.getD i []->u9 o=X)->ShEq ((τ j).bx k) ((τ (j+n)).bx k)
 |0,_,_=>ShEq.refl _
 |n+1,hn,hk=>by
  have aq:j+n<ops.size:=omg_;have ho:ops[j+n]? = B ops[j+n]:=kb aq;have ih:=Is h n omg_ (λi o h1 h2=>hk i o h1 omg_);refine ih.trans ?_;rw[<-ã];by_cases hm:k∈A.getD (j+n) []
  .obtain⟨_,_,_,_,aQ⟩:=Nc h ho;exact aQ (hk _ _ omg_ omg_ ho hm) k
  .rw[Wo h ho hm];exact ShEq.refl _
structure Ph(ops:Á Ã)(A:H (H G))(τ:G->St)(aD:Á Æ)(σ:St):Prop where
 closed:∀j o,ops[j]? = B o->aD.getD j U=X->∀d∈qJ o,aD.getD d U=X
 done:∀j o t,ops[j]? = B o->o.dst=B t->aD.getD j U=X->σ.sl t=(τ (j+1)).sl t
 rest:∀t,(∀j o,ops[j]? = B o->o.dst=B t->aD.getD j U=U)->σ.sl t=(τ 0).sl t
 bdone:∀j k,j<ops.size->k∈A.getD j []->aD.getD j U=X->(∀i,i<ops.size->k∈A.getD i []->aD.getD i U=X->i<=j)->σ.bx k=(τ (j+1)).bx k
 brest:∀k,(∀j,j<ops.size->k∈A.getD j []->aD.getD j U=U)->σ.bx k=(τ 0).bx k
theorem Ph.bef{aD:Á Æ}(hp:Ph ops A τ aD σ){i j:G}(hb:Bef ops i j)(hi:aD.getD i U=X):aD.getD j U=true:=by
 induction hb with
 |dep ho hj=>exact hp.closed _ _ ho hi _ hj
 |trans _ _ h1 h2=>exact h2 (h1 hi)
theorem Ph.befd{aD:Á Æ}(hp:Ph ops A τ aD σ){i j:G}{o:Ã}(ho:ops[i]? = B o)(hd:∀j∈qJ o,aD.getD j U=X)(hb:Bef ops i j):aD.getD j U=true:=by
 induction hb with
 |dep Ax hj=>rw[ho]at Ax;simp only[j5]at Ax;subst Ax;exact hd _ hj
 |trans dR fv h1 h2=>exact hp.bef fv (h1 ho)
theorem It(p:G->Prop):∀n,(∃j,j<n/\p j)->∃m,m<n/\p m/\∀j,j<n->p j->j<=m
 |0,h=>by obtain⟨j,hj,_⟩:=h;omega
 |n+1,h=>by
  by_cases hn:p n
  .exact⟨n,omg_,hn,λj hj _=>omg_⟩
  .obtain⟨j,hj,hp⟩:=h
   have xF:j<n:=by
    rcases qy j n with h|h
    .exact h
    .have:j=n:=omg_;subst this;exact absurd hp hn
   obtain⟨m,hm,wu,aA⟩:=It p n ⟨j,xF,hp⟩;refine⟨m,omg_,wu,λi hi Wp=>?_⟩;rcases qy i n with h|h
   .exact aA i h Wp
   .have:i=n:=omg_;subst this;exact absurd Wp hn
theorem Wq{l:Á Æ}{i:G}(h:l.getD i X=U):l.getD i U=false:=by
 rcases qy i l.size with h'|h'
 .simp[h']at h ⊢;exact h
 .simp[Ø h']
theorem tt{l:Á Æ}{i j:G}(hi:i<l.size):(l.setIfInBounds i X).getD j U=X↔j=i\/l.getD j U=true:=by
 by_cases h:i=j
 .subst h;simp[hi]
 .rw[getD_set_ne U h];exact⟨.inr,λhh=>hh.resolve_left λe=>h e.symm⟩
theorem Er{l:Á Æ}{i:G}(h:¬l.getD i U=X):l.getD i U=false:=by
 cases hq:l.getD i U with
 |false=>rfl
 |true=>exact absurd hq h
section
variable(bX:DOkR ops A)(h:wq P E ops cl A τ){aD:Á Æ}(hp:Ph ops A τ aD σ){i:G}{o:Ã}(hi:ops[i]? = B o)(mZ:aD.getD i U=U)(dW:∀j∈qJ o,aD.getD j U=X)
include bX h hp hi mZ dW
theorem jEt:∀t,t∈o.looksAt ops->σ.sl t=(τ i).sl t:=by
 intro t DP;have mz:i<ops.size:=(jq.1 hi).1;have Wr:∀j oj,ops[j]? = B oj->oj.dst=B t->j≠i->Bef ops i j\/Bef ops j i:=λj oj hj ht bz=>(bX.dst i j o oj t hi hj (λe=>bz e.symm) ht).2 DP;by_cases hex:∃(j:G)(oj:Ã),ops[j]? = B oj/\oj.dst=B t/\aD.getD j U=X
 .obtain⟨j,oj,hj,ht,pV⟩:=hex;have r8:j≠i:=λe=>by rw[e,mZ]at pV;simp at pV
  have AB:Bef ops i j:=by
   rcases Wr j oj hj ht r8 with hd|hd
   .exact hd
   .have:=hp.bef hd pV;rw[mZ]at this;simp at this
  have aq:=bX.bef AB;rw[hp.done j oj t hj ht pV];have:=Eo h (t:=t) (j:=j+1) (i-(j+1)) omg_ (λk ok h1 h2 hk=>(bX.dst k j ok oj t hk hj omg_ ht).1);rw[show j+1+(i-(j+1))=i by omega]at this;exact this.symm
 .rw[hp.rest t (λj oj hj ht=>Er λhq=>hex ⟨j,oj,hj,ht,hq⟩)]
  have:=Eo h (t:=t) (j:=0) i omg_ (λk ok _ hk qV uI=>by
   have ou:k≠i:=omg_;rcases Wr k ok qV uI ou with hd|hd
   .exact hex ⟨k,ok,qV,uI,hp.befd hi dW hd⟩
   .have:=bX.bef hd;omega)
  rw[ki]at this;exact this.symm
theorem Ws{k:G}(hk:∀j oj,ops[j]? = B oj->k∈A.getD j []->i=j\/Bef ops i j\/Bef ops j i):σ.bx k=(τ i).bx k:=by
 have mz:i<ops.size:=(jq.1 hi).1;by_cases hex:∃j,j<ops.size/\(k∈A.getD j []/\aD.getD j U=X)
 .obtain⟨m,hm,⟨qW,uR⟩,fi⟩:=It _ _ hex;have Nd:ops[m]? = B ops[m]:=kb hm;have Nf:i≠m:=λe=>by rw[<-e,mZ]at uR;simp at uR
  have AB:Bef ops i m:=by
   rcases hk m _ Nd qW with hd|hd|hd
   .exact absurd hd Nf
   .exact hd
   .have:=hp.bef hd uR;rw[mZ]at this;simp at this
  have aq:=bX.bef AB;rw[hp.bdone m k hm qW uR (λj hj dZ pV=>fi j hj ⟨dZ,pV⟩)]
  have:=Ep h (k:=k) (j:=m+1) (i-(m+1)) omg_ (λj oj h1 h2 hj dZ=>by
   rcases hk j oj hj dZ with hd|hd|hd
   .omega
   .have:=fi j omg_ ⟨dZ,hp.befd hi dW hd⟩;omega
   .have:=bX.bef hd;omega)
  rw[show m+1+(i-(m+1))=i by omega]at this;exact this.symm
 .rw[hp.brest k (λj hj dZ=>Er λhq=>hex ⟨j,hj,dZ,hq⟩)]
  have:=Ep h (k:=k) (j:=0) i omg_ (λj oj h1 h2 hj dZ=>by
   rcases hk j oj hj dZ with hd|hd|hd
   .omega
   .exact hex ⟨j,omg_,dZ,hp.befd hi dW hd⟩
   .have:=bX.bef hd;omega)
  rw[ki]at this;exact this.symm
theorem jHt(nI:sE o=X){k:G}(hk:∀j oj,ops[j]? = B oj->k∈A.getD j []->i=j\/Bef ops i j\/Bef ops j i\/u9 oj=X):ShEq (σ.bx k) ((τ i).bx k):=by
 have mz:i<ops.size:=(jq.1 hi).1;by_cases hex:∃j,j<ops.size/\(k∈A.getD j []/\aD.getD j U=X)
 .obtain⟨m,hm,⟨qW,uR⟩,fi⟩:=It _ _ hex;have Nd:ops[m]? = B ops[m]:=kb hm;rw[hp.bdone m k hm qW uR (λj hj dZ pV=>fi j hj ⟨dZ,pV⟩)];rcases qy m i with Nf|Nf
  .have:=Is h (k:=k) (j:=m+1) (i-(m+1)) omg_ (λj oj h1 h2 hj dZ=>by
    rcases hk j oj hj dZ with hd|hd|hd|hd
    .omega
    .have:=fi j omg_ ⟨dZ,hp.befd hi dW hd⟩;omega
    .have:=bX.bef hd;omega
    .exact hd)
   rwa[show m+1+(i-(m+1))=i by omega]at this
  .have hmi':i≠m:=λe=>by rw[<-e,mZ]at uR;simp at uR
   have:=Is h (k:=k) (j:=i) (m+1-i) omg_ (λj oj h1 h2 hj dZ=>by
    have pV:aD.getD j U=true:=by
     by_cases xZ:j=m
     .rw[xZ];exact uR
     .rcases bX.box j m oj ops[m] k hj Nd xZ dZ qW with hd|hd
      .have:=bX.bef hd;omega
      .exact hp.bef hd uR
    rcases hk j oj hj dZ with hd|hd|hd|hd
    .rw[<-hd,mZ]at pV;simp at pV
    .have:=bX.bef hd;omega
    .have:=hp.bef hd pV;rw[mZ]at this;simp at this
    .exact hd)
   rw[show i+(m+1-i)=m+1 by omega]at this;exact this.symm
 .rw[hp.brest k (λj hj dZ=>Er λhq=>hex ⟨j,hj,dZ,hq⟩)]
  have:=Is h (k:=k) (j:=0) i omg_ (λj oj h1 h2 hj dZ=>by
   rcases hk j oj hj dZ with hd|hd|hd|hd
   .omega
   .exact absurd ⟨j,omg_,dZ,hp.befd hi dW hd⟩ hex
   .have:=bX.bef hd;omega
   .exact hd)
  rwa[ki]at this
theorem jEu(hc:ClOk ops cl):(∀k,jX (vA ops cl A i o) σ.bx k=jX (vA ops cl A i o) (τ i).bx k)\/(sE o=X/\∀k,ShEq (jX (vA ops cl A i o) σ.bx k) (jX (vA ops cl A i o) (τ i).bx k)):=by
 by_cases nI:sE o=X
 .refine .inr ⟨nI,ShEq.mask λk hk=>jHt bX h hp hi mZ dW nI λj oj hj dZ=>?_⟩;rcases Wi hc hk hj dZ with hd|hd|hd|hd
  .exact .inl hd
  .exact .inr (.inl hd)
  .exact .inr (.inr (.inl hd))
  .exact .inr (.inr (.inr hd.2))
 .refine .inl λk=>?_;unfold jX;split
  .rfl
  .rename_i hk
   exact Ws bX h hp hi mZ dW λj oj hj dZ=>by
    rcases Wi hc (by simpa using hk) hj dZ with hd|hd|hd|hd
    .exact .inl hd
    .exact .inr (.inl hd)
    .exact .inr (.inr hd)
    .exact absurd hd.1 nI
theorem jEv(cp:ops.size<=aD.size){s:Slot}{u:Ups}(he:τ (i+1)=((τ i).upd u).setD o.dst s)(hu:∀e∈u,e.1∈A.getD i []):Ph ops A τ (aD.setIfInBounds i X) ((σ.upd u).setD o.dst s):=by
 have mz:i<ops.size:=(jq.1 hi).1;have gJ:i<aD.size:=omg_
 have nH:∀k,k∈A.getD i []->σ.bx k=(τ i).bx k:=λk hk=>Ws bX h hp hi mZ dW λj oj hj dZ=>by
  by_cases dP:i=j
  .exact .inl dP
  .exact .inr (bX.box i j o oj k hi hj dP hk dZ)
 refine⟨?_,?_,?_,?_,?_⟩
 .intro j oj lU hj d qL;rcases (tt gJ).1 hj with rfl|hj
  .rw[hi]at lU;simp only[j5]at lU;subst lU;exact(tt gJ).2 (.inr (dW d qL))
  .exact(tt gJ).2 (.inr (hp.closed j oj lU hj d qL))
 .intro j oj t lU ht hj;by_cases r8:j=i
  .subst r8;rw[hi]at lU;simp only[j5]at lU;subst lU;rw[he,ht,Wm,Wm]
  .rcases (tt gJ).1 hj with hj|hj
   .exact absurd hj r8
   .rw[Nb (bX.dst i j o oj t hi lU (λe=>r8 e.symm) ht).1,Iq];exact hp.done j oj t lU ht hj
 .intro t aA
  have hot:o.dst≠B t:=λe=>by
   have:=aA i o hi e;have h2:=(tt (j:=i) gJ).2 (.inl rfl);rw[this]at h2;simp at h2
  rw[Nb hot,Iq]
  exact hp.rest t λj oj lU ht=>Er λhq=>by
   have:=aA j oj lU ht;have h2:=(tt (i:=i) gJ).2 (.inr hq);rw[this]at h2;simp at h2
 .intro j k hj dZ pV fi;rw[AA];by_cases r8:j=i
  .subst r8;rw[he,AA];exact Wn u σ (τ j) k (nH k dZ)
  .have Es:aD.getD j U=true:=by
    rcases (tt gJ).1 pV with e|hh
    .exact absurd e r8
    .exact hh
   have ou:k∉A.getD i []:=λou=>by
    have hle:=fi i mz ou ((tt gJ).2 (.inl rfl));have lU:ops[j]? = B ops[j]:=kb hj;rcases bX.box i j o _ k hi lU (λe=>r8 e.symm) ou dZ with hd|hd
    .have:=bX.bef hd;omega
    .have:=hp.bef hd Es;rw[mZ]at this;simp at this
   rw[Ir u σ k (λe hm uN=>ou (uN▸hu e hm))];exact hp.bdone j k hj dZ Es (λi' bh bH iS=>fi i' bh bH ((tt gJ).2 (.inr iS)))
 .intro k aA
  have ou:k∉A.getD i []:=λou=>by
   have:=aA i mz ou;have h2:=(tt (j:=i) gJ).2 (.inl rfl);rw[this]at h2;simp at h2
  rw[AA,Ir u σ k (λe hm uN=>ou (uN▸hu e hm))]
  exact hp.brest k λj hj dZ=>Er λhq=>by
   have:=aA j hj dZ;have h2:=(tt (i:=i) gJ).2 (.inr hq);rw[this]at h2;simp at h2
end
theorem jFI(bX:DOkR ops A)(h:wq P E ops cl A τ){aD:Á Æ}(hp:Ph ops A τ aD σ)(aA:∀j,j<ops.size->aD.getD j U=X):σ=τ ops.size:=by
 have dS:σ.sl=(τ ops.size).sl:=by
  funext t
  by_cases hex:∃(j:G)(oj:Ã),ops[j]? = B oj/\oj.dst=B t
  .obtain⟨j,oj,hj,ht⟩:=hex;have aq:j<ops.size:=(jq.1 hj).1;rw[hp.done j oj t hj ht (aA j aq)];have:=Eo h (t:=t) (j:=j+1) (ops.size-(j+1)) omg_ (λk ok h1 h2 hk=>(bX.dst k j ok oj t hk hj omg_ ht).1);rw[show j+1+(ops.size-(j+1))=ops.size by omega]at this;exact this.symm
  .rw[hp.rest t (λj oj hj ht=>absurd ⟨j,oj,hj,ht⟩ hex)];have:=Eo h (t:=t) (j:=0) ops.size omg_ (λk ok _ hk qV uI=>hex ⟨k,ok,qV,uI⟩);rw[ki]at this;exact this.symm
 have fT:σ.bx=(τ ops.size).bx:=by
  funext k
  by_cases hex:∃j,j<ops.size/\k∈A.getD j []
  .obtain⟨m,hm,qW,fi⟩:=It _ _ hex;rw[hp.bdone m k hm qW (aA m hm) (λj hj dZ _=>fi j hj dZ)];have:=Ep h (k:=k) (j:=m+1) (ops.size-(m+1)) omg_ (λj oj h1 h2 hj dZ=>by have:=fi j omg_ dZ;omega);rw[show m+1+(ops.size-(m+1))=ops.size by omega]at this;exact this.symm
  .rw[hp.brest k (λj hj dZ=>absurd ⟨j,hj,dZ⟩ hex)];have:=Ep h (k:=k) (j:=0) ops.size omg_ (λj oj h1 h2 hj dZ=>hex ⟨j,omg_,dZ⟩);rw[ki]at this;exact this.symm
 cases σ;cases hq:τ ops.size;rw[hq]at fT dS;simp only at fT dS;rw[fT,dS]
end
theorem jsT{l:Á Æ}{i:G}(hi:l.getD i X=U):(l.setIfInBounds i X).toList.count U+1=l.toList.count false:=by
 have aq:i<l.size:=by
  rcases qy i l.size with h|h
  .exact h
  .simp[Ø h]at hi
 have hv:l.toList[i]'(by simpa using aq)=false:=by simp[aq]at hi;simpa using hi
 have cq:0<l.toList.count false:=List.count_pos_iff.2 (hv▸jf _);have hc:(l.toList.set i X).count U=l.toList.count U-(if l.toList[i]'(by simpa using aq)==U then 1 else 0)+(if X==U then 1 else 0):=List.count_set (by simpa using aq);rw[hv]at hc;rw[Array.toList_setIfInBounds];simp only[qs,if_true,show (X==U)=U from rfl,kv,zu,vr]at hc;omega
theorem jxC{l:Á Æ}(h:l.toList.count U=0){j:G}(hj:j<l.size):l.getD j U=true:=by
 have h0:U∉l.toList:=List.count_eq_zero.1 h;simp only[zp,kb hj,qd];cases hv:l[j]with
 |true=>rfl
 |false=>exact absurd (hv▸by simp:U∈l.toList) h0
theorem jzk{ops:Á Ã}{A:H (H G)}(bX:DOkR ops A){aD:Á Æ}(hs:aD.size=ops.size)(h:å .any ops aD=[]):∀j,j<ops.size->aD.getD j U=true:=by
 intro j;induction j using ð with
 |_ j ih=>
  intro hj;cases hq:aD.getD j U with
  |true=>rfl
  |false=>
   have ho:ops[j]? = B ops[j]:=kb hj
   have hm:j∈å .any ops aD:=mem_ready.2 ⟨by
    have fS:j<aD.size:=omg_;simp[fS]at hq ⊢;exact hq,ops[j],ho,λe he hb=>ih _ (bX.lt j _ ho _ (Na.2 ⟨e,he,hb,rfl⟩)) (Nat.lt_trans (bX.lt j _ ho _ (Na.2 ⟨e,he,hb,rfl⟩)) hj)⟩
   rw[h]at hm;simp at hm
theorem jxD{P:Ä}{E:Env}(hT:db P E.T){ops:Á Ã}{cl:H G}{A:H (H G)}(ej:ClOk ops cl)(bX:DOkR ops A){τ:G->St}(h:wq P E ops cl A τ)
  {Q:Ð->Â->Z->Prop}(hn:∀a' w' S' γ',Rel E.N E.np S0 w0 refs (τ ops.size) a' w' S' γ'->eP (τ ops.size)->Q .normal a' w') :
  ∀(fuel:G)(aD:Á Æ){σ:St}{a:Â}{w:Z}{S:aY}{γ:G->Y},aD.size=ops.size->aD.toList.count U<=fuel->Rel E.N E.np S0 w0 refs σ a w S γ->eP σ->
   Ph ops A τ aD σ->wpAny P .any ops Q fuel aD a w:=by
 have ee:∀(aD:Á Æ){σ:St}{a:Â}{w:Z}{S:aY}{γ:G->Y},Rel E.N E.np S0 w0 refs σ a w S γ->eP σ->Ph ops A τ aD σ->(∀j,j<ops.size->aD.getD j U=X)->Q .normal a w:=by intro aD σ a w S γ hR hc x8 aA;have he:=jFI bX h x8 aA;subst he;exact hn a w S γ hR hc
 intro fuel;induction fuel with
 |zero=>
  intro aD σ a w S γ hs qX hR hc x8;have aA:∀j,j<ops.size->aD.getD j U=true:=λj hj=>jxC omg_ omg_;refine⟨?_,ee aD hR hc x8 aA⟩;refine List.eq_nil_iff_forall_not_mem.2 λi hi=>?_;have h0:=(mem_ready.1 hi).1;have aq:i<ops.size:=by obtain⟨_,o,ho,_⟩:=mem_ready.1 hi;exact(jq.1 ho).1
  have:=aA i aq;rw[Wq h0]at this;simp at this
 |succ fuel ih=>
  intro aD σ a w S γ hs qX hR hc x8;refine⟨λfQ=>ee aD hR hc x8 (jzk bX hs fQ),λi hi=>?_⟩;obtain⟨mZ,o,ho,dW⟩:=jxB hi;have AD:=Wq mZ;have dy:=jsT mZ;have cp:(aD.setIfInBounds i X).size=ops.size:=by simpa using hs
  obtain⟨hd,eY⟩:=h i o ho;refine D_wp hT hR hc ho hd eY (jEu bX h x8 ho AD dW ej) (jEt bX h x8 ho AD dW) ?_;intro s u a' w' S' γ' he hu dI fP;exact ih _ cp omg_ dI fP (jEv bX h x8 ho AD dW (Nat.le_of_eq hs.symm) he hu)
theorem jxE{P:Ä}{E:Env}(hT:db P E.T)(hC:oo P E.C)(hF:CFun E.C)(hR:Rel E.N E.np S0 w0 refs σ a w S γ)(hc:eP σ){ops:Á Ã}{A:H (H G)}
  {R:Type}{k:St->O R}{r:R}{Q:Ð->Â->Z->Prop}(hn:∀σ' a' w' S' γ',Rel E.N E.np S0 w0 refs σ' a' w' S' γ'->eP σ'->k σ'=B r->Q .normal a' w')(h:Dn E ops A σ k=B r) :
  wpAny P .any ops Q ops.size (Í ops.size U) a { w with drawn:=w.drawn+1 }:=by
 unfold Dn at h;split at h
 .rename_i bX;obtain⟨τ,h1,h2,h3⟩:=Wl (P:=P) (ops:=ops) hC hF ops.size 0 σ (ki _) (by simpa using h)
  have o8:∀j,(Í ops.size U).getD j U=false:=by
   intro j;rcases qy j ops.size with hj|hj
   .simp[hj]
   .simp[hj]
  have ej:ClOk ops (Dk ops.toList []):=Wh ops.toList [] (λi j h=>by simp at h) (λk o hk=>by simpa using hk);refine jxD hT ej (juC ej bX) (τ:=τ) (λj o ho=>h3 j o (kp _) ho) (λa' w' S' γ' dI fP=>hn _ a' w' S' γ' dI fP h2) ops.size _ smp_ smp_ (hR.drawn _) hc ?_
  exact⟨λj o _ hj=>by rw[o8]at hj;simp at hj,λj o t _ _ hj=>by rw[o8]at hj;simp at hj,λt _=>by rw[h1],
   λj k _ _ hj=>by rw[o8]at hj;simp at hj,λk _=>by rw[h1]⟩
 .simp at h
end
def FR(ro:O G):Fence:={ Ô with round:=ro }
theorem Wt(ro:O G)(n:G):(FR ro).room n:=λd h=>by simp[FR,Ô]at h
section
variable{P:Ä}{ro:O G}{n:G}
theorem jEw{f:FuncId}{args:Á Y}{w:Z}{R:Ending->Z->Prop}(h:Calls P f args w R):ó (FR ro) n P f args w R:=(callsIn_wide (n:=n)).2 h
theorem jEx{f:FuncId}{args:Á Y}{w:Z}{R:Ending->Z->Prop}(h:ó (FR ro) n P f args w R):Calls P f args w R:=(callsIn_wide (n:=n)).1 h
theorem jFJ{m:G}{c:Ï}{Q:Ð->Â->Z->Prop}{a:Â}{w:Z}(h:c.wpIn (FR ro) n P Q a w):c.wpIn (FR ro) m P Q a w:=
 λb k cs iz hb hr=>h b k cs iz hb (Wt _ _)
theorem jFK{row:String}{args:Á Y}{w:Z}{R:Y->Z->Prop}(h:Rows P row args w R):RowsIn (FR ro) n P row args w R:=
 λc cs _=>let ⟨v,w',r,s⟩:=h c cs;⟨v,w',r,stepsIn_wide.2 s⟩
theorem Iu{o:Ã}(hp:ro=À\/∀c,o.op ≠ .defer c){a:Â}{w:Z}{K K':Â->Z->Prop}{Q:Ð->Â->Z->Prop}(hK:∀a w,K a w->K' a w)
  (h:o.wp P a w K Q):o.wpIn (FR ro) n P a w K' Q:=by
 refine⟨λ_ _=>trivial,?_⟩
 have e:o.semAt (FR ro).round a.eval=execOp a.eval o:=by
  rcases hp with rfl|hp
  .rfl
  .exact Oper.semAt_eq _ _ _ hp
 rw[e];unfold Ö at h;revert h;cases (execOp a.eval o).run P w with
 |ok x w'=>
  cases x with
  |value v=>intro h;exact hK _ _ h
  |skip=>intro h;exact hK _ _ h
  |defer d=>intro h;exact hK _ _ h
  |enter f args=>
   intro h;refine⟨λhd=>by simp[FR,Ô]at hd,jEw (Calls.mono h λe HJ he=>?_)⟩;cases e with
   |returned v=>exact hK _ _ he
   |panicked c=>exact he
   |outgrown=>exact he
  |row r args=>intro h;exact⟨λhd=>by simp[FR,Ô]at hd,jFK (Rows.mono h λv HJ he=>hK _ _ he)⟩
  |round l f tmps x y=>intro h;exact h.elim
  |_=>intro h;exact h.elim
 |halt x w'=>cases x<;>intro h<;>exact h
theorem Et{ops:Á Ã}{Q:Ð->Â->Z->Prop}(hp:ro=À\/∀o∈ops.toList,∀c,o.op ≠ .defer c)(df:¬ë Q):∀(l:H G)(a:Â)(w:Z),wpOps P ops Q l a w->wpOpsIn (FR ro) n P ops Q l a w
 |[],a,w,h=>h
 |i::r,a,w,h=>by
  simp only[wpOps]at h;simp only[wpOpsIn];cases ho:ops[i]? with
  |none=>simp only[ho]at h ⊢;exact Et hp df r a w h
  |some o=>
   simp only[ho]at h ⊢;split
   .rename_i hw;simp only[hw,if_true]at h;rcases h with h|⟨_,h⟩
    .refine Iu (hp.imp id λhh=>hh o ?_) (λa w=>Et hp df r a w) h;obtain⟨aq,rfl⟩:=jq.1 ho;exact Array.mem_toList_iff.2 (é aq)
    .exact absurd h df
   .rename_i hw;simp only[hw]at h;exact⟨λ_ _=>trivial,Et hp df r _ w h⟩
theorem Iv{md:Region.Mode}{ops:Á Ã}{Q:Ð->Â->Z->Prop}(hp:ro=À\/∀o∈ops.toList,∀c,o.op ≠ .defer c)(df:¬ë Q) :
  ∀(fuel:G)(aD:Á Æ)(a:Â)(w:Z),wpAny P md ops Q fuel aD a w->wpAnyIn (FR ro) n P md ops Q fuel aD a w
 |0,_,_,_,h=>h
 |fuel+1,aD,a,w,h=>by
  refine⟨h.1,λi hi=>?_⟩;have h2:=h.2 i hi;unfold wpOp at h2;unfold wpOpIn;cases ho:ops[i]? with
  |none=>simp only[ho]at h2 ⊢;exact Iv hp df fuel _ a w h2
  |some o=>
   simp only[ho]at h2 ⊢;split
   .rename_i hw;simp only[hw,if_true]at h2;rcases h2 with h2|⟨_,h2⟩
    .refine Iu (hp.imp id λhh=>hh o ?_) (λa w=>Iv hp df fuel _ a w) h2;obtain⟨aq,rfl⟩:=jq.1 ho;exact Array.mem_toList_iff.2 (é aq)
    .exact absurd h2 df
   .rename_i hw;simp only[hw]at h2;exact⟨λ_ _=>trivial,Iv hp df fuel _ _ w h2⟩
end
section
variable{N:NT}{np:G}{S0:aY}{w0:Z}{refs:Refs}{σ:St}{a:Â}{w:Z}{S:aY}{γ:G->Y}
theorem Rel.allocO(hR:Rel N np S0 w0 refs σ a w S γ)(o:ü):Rel N np S0 w0 refs σ a (w.alloc o) S γ:=
 Rel.step (bx':=σ.bx) (γ':=γ) hR (B9 hR o) (.refl _ _) (λk b hb=>fK.keep (B9 hR o) (.refl _ _) rfl (λg hg=>⟨heap_alloc_old w o (oI (hR.box k b hb) hg),λ_=>Iff.rfl⟩) (hR.box k b hb))
  hR.own hR.apart hR.new (λg i h=>by have:=hR.here g i h;simp;omega) (λg hg hr=>(heap_alloc_old w o (zk hg hR.grow)).trans (hR.below g hg hr)) (by have:=hR.grow;simp;omega) hR.os hR.tape hR.output
  (λg hg _ h=>⟨heap_alloc_old w o hg,h⟩)
structure Grew(w w':Z):Prop where
 old:∀g,g<w.heap.size->w'.heap[g]? = w.heap[g]?
 size:w.heap.size<=w'.heap.size
 os:w'.os=w.os
 tape:w'.tape=w.tape
 output:w'.output=w.output
structure Cp(S:aY)(w:Z)(S':aY)(w':Z):Prop where
 sub:∀g o,S g o->S' g o
 new:∀g o,S' g o->S g o\/w.heap.size<=g
 here:∀g o,S' g o->g<w'.heap.size
theorem Rel.grew(hR:Rel N np S0 w0 refs σ a w S γ){S':aY}{w':Z}(h:Grew w w')(hs:Cp S w S' w'):Rel N np S0 w0 refs σ a w' S' γ:=
 have aQ:dK S w S' w':=λg o hg=>⟨hs.sub g o hg,É (h.old g (hR.here g o hg))⟩
 Rel.step (bx':=σ.bx) (γ':=γ) hR aQ (.refl _ _) (λk b hb=>fK.keep aQ (.refl _ _) rfl (λg hg=>
   have hl:=oI (hR.box k b hb) hg
   ⟨h.old g hl,λo=>⟨λh1=>(hs.new g o h1).resolve_right omg_,hs.sub g o⟩⟩) (hR.box k b hb))
  hR.own hR.apart (λg o h1=>(hs.new g o h1).elim (hR.new g o) λh2=> .inr (.inl (qi hR.grow h2))) hs.here (λg hg hr=>(h.old g (zk hg hR.grow)).trans (hR.below g hg hr)) (qi hR.grow h.size) (h.os.trans hR.os) (h.tape.trans hR.tape) (h.output.trans hR.output)
  (λg hg _ hn=>⟨h.old g hg,hn⟩)
theorem Rel.swap(hR:Rel N np S0 w0 refs σ a w S γ){N':NT}{refs':Refs}{a':Â}(hb:refs'.blks=refs.blks)(hv:refs'.val=refs.val)(cp:a'.tmps.size=N'.n)(x9:a'.defers=refs'.ds)
  (tu:∀i,iZ S w γ σ.bx (tm a') (σ.sl i) (tm a' i))(hk:∀g o,refs'.kw g=B o->w.heap[g]? = B o/\∀k b,σ.bx k = .live b->blk (γ k)≠B g)
  (hf:∀i v,refs'.fix i=B v->N'.pin i=X/\a'.tmps.getD i undef=v)(Iw:refs'.mv=refs.mv:=by rfl):Rel N' np S0 w0 refs' σ a' w S γ:=
 have hm:∀g,g∈refs'↔g∈refs:=λg=>by show g∈refs'.blks↔g∈refs.blks;rw[hb]
 ⟨cp,x9,tu,hR.box,λk b g h h'=>(hR.own k b g h h').imp (λh=>Own.swap h hb Iw) λh=>⟨(hm g).2 h.1,h.2⟩,hR.apart,hR.ext,λg o h=>(hR.new g o h).imp id λh=>Own.swap h hb Iw,hR.here,λg h h'=>hR.below g h λh2=>h' ((hm g).2 h2),
  hR.grow,hR.os,hR.tape,hR.output,λk v h=>hR.par k v (hv▸h),hk,hf⟩
theorem Wu{g o:G}{x:ü}(h:w.heap[g]? = B x)(hc:x.isCells=U):w.cell? ⟨g,o,À⟩=none:=by
 unfold World.cell?;simp only[h];cases x<;>first|rfl|(simp[Obj.isCells]at hc)
theorem Rel.putO(hR:Rel N np S0 w0 refs σ a w S γ){l:G}{o o':ü}(hk:refs.kw l=B o)(hl:w0.heap.size<=l)(hc:o.isCells=U)(fP:o'.isCells=U) :
  Rel N np S0 w0 { refs with kw:=λg=>if g=l then B o' else refs.kw g } σ a (w.putObj l o') S γ:=by
 obtain⟨hw,df⟩:=hR.kept l o hk;have aq:=(jq.1 hw).1
 have aQ:dK S w S (w.putObj l o'):=λg i h=>⟨h,by
  by_cases hg:g=l
  .subst hg;rw[Wu hw hc,Wu (Ù aq) fP]
  .exact É (Ç hg)⟩
 have bV:Rel N np S0 w0 { refs with kw:=λg=>if g=l then À else refs.kw g } σ a w S γ:=
  Rel.swap hR rfl rfl hR.size hR.defers hR.slot (λg x h=>by
   simp only at h;split at h
   .simp at h
   .exact hR.kept g x h) hR.fix
 have dA:Rel N np S0 w0 { refs with kw:=λg=>if g=l then À else refs.kw g } σ a (w.putObj l o') S γ:=
  Rel.step (bx':=σ.bx) (γ':=γ) bV aQ (.refl _ _) (λk b hb=>fK.keep aQ (.refl _ _) rfl (λg hg=>⟨Ç (λe=>df k b hb (e▸hg)),λ_=>Iff.rfl⟩) (hR.box k b hb))
   bV.own bV.apart bV.new (λg i h=>by simpa using hR.here g i h) (λg hg hr=>(Ç omg_).trans (bV.below g hg hr)) (by simpa using hR.grow) hR.os hR.tape hR.output
   (λg _ Ca h=>⟨Ç (λe=>by subst e;simp at Ca),h⟩)
 refine Rel.swap dA rfl rfl dA.size dA.defers dA.slot (λg x h=>?_) dA.fix;simp only at h;split at h
 .rename_i e;subst e;simp only[j5]at h;subst h;exact⟨Ù aq,df⟩
 .rename_i e;have h1:=hR.kept g x h;exact⟨(Ç e).trans h1.1,h1.2⟩
theorem jzm(np:G)(K:Keep)(s:Snap)(i:G):(∃c,(dJ np K s).sl i = .one c)/\(i∉K.slots->(dJ np K s).sl i = .one (.one .dead)):=by
 have dS:(dJ np K s).sl i=match K.slots.idxOf? i with
  |some j=>zQ s[j]?
  |none=> .one (.one .dead):=rfl
 rw[dS];cases hq:K.slots.idxOf? i with
 |none=>exact⟨⟨_,rfl⟩,λ_=>rfl⟩
 |some j=>refine⟨?_,λh=>absurd (ko (r6 hq)) h⟩;simp only;unfold zQ;split<;>exact⟨_,rfl⟩
theorem Rel.frame{K:Keep}{s:Snap}(hR:Rel N np S0 w0 refs (dJ np K s) a w S γ){N':NT}{refs':Refs}{a':Â}(hb:refs'.blks=refs.blks)(hv:refs'.val=refs.val)(cp:a'.tmps.size=N'.n)(x9:a'.defers=refs'.ds)
  (dS:∀i∈K.slots,tm a' i=tm a i)(hk:∀g o,refs'.kw g=B o->w.heap[g]? = B o/\∀k b,(dJ np K s).bx k = .live b->blk (γ k)≠B g)
  (hf:∀i v,refs'.fix i=B v->N'.pin i=X/\a'.tmps.getD i undef=v)(Iw:refs'.mv=refs.mv:=by rfl):Rel N' np S0 w0 refs' (dJ np K s) a' w S γ:=by
 refine hR.swap hb hv cp x9 (λi=>?_) hk hf Iw;obtain⟨⟨c,hc⟩,hd⟩:=jzm np K s i;by_cases hi:i∈K.slots
 .have:=hR.slot i;rw[hc]at this ⊢;rw[dS i hi];exact this
 .rw[hd hi];exact⟨trivial,λh=>absurd rfl h⟩
end
section
variable{P:Ä}{F:Fence}{n:G}{b:Frame}{a:Â}{k:H Go.Item}{cs:H Frame}{w:Z}{Q:Ð->Â->Z->Prop}
theorem Cq{c:Ï}:step P (lone (b.atR a (.code (.scope c)::k)) cs w) = .next (lone (b.atR a (.code c :: .inScope c::k)) cs w):=
 step_lone_go (by simp[stepG,stepG.exec,Frame.atR])
theorem jqP{c:Ï}:step P (lone (b.atR a (.inScope c::k)) cs w) = .next (lone (b.atR a k) cs w):=
 step_lone_go (by simp[stepG,stepG.exec,Frame.atR])
theorem jxG{c:Ï}(hng:∀l a w,¬Q (.goto l) a w)(h:c.wpIn F n P Q a w):(Code.scope c).wpIn F n P Q a w:=by
 intro b k cs iz hb hr;have h0:(lone (b.atR a (.code (.scope c)::k)) cs w).fenced P F:=fenced_calm hb hr rfl;obtain⟨e,a₁,w₁,hq,qY⟩:=h b (.inScope c::k) cs iz hb hr;cases e with
 |normal=>exact⟨.normal,a₁,w₁,hq,.head h0 Cq (StepsIn.trans qY (.one (fenced_calm hb hr rfl) jqP))⟩
 |exit id=>
  have hx:exitTo id (.inScope c::k)=exitTo id k:=by simp[exitTo]
  exact⟨_,a₁,w₁,hq,λk' hk=> .head h0 Cq (qY.1 k' (by rw[hx];exact hk)),
   λvO hk=>let ⟨k₁,h1,h2⟩:=qY.2 vO (by rw[hx];exact hk);⟨k₁,h1,.head h0 Cq h2⟩⟩
 |goto l=>exact absurd hq (hng l a₁ w₁)
 |ret=>exact⟨_,a₁,w₁,hq,.of_steps (.one h0 Cq) qY⟩
 |panic ch=>exact⟨_,a₁,w₁,hq,.of_steps (.one h0 Cq) qY⟩
 |outgrown=>exact⟨_,a₁,w₁,hq,.of_steps (.one h0 Cq) qY⟩
end
section
variable{N:NT}{np:G}{S0:aY}{w0:Z}{refs:Refs}{σ:St}{a:Â}{w:Z}{S:aY}{γ:G->Y}
def exOf:Ex->Ð
 |.normal=> .normal
 |.exit i=> .exit i
 |.ret=> .ret
def ik:G->Ï->H (G×Ï)
 |b,.seq x y=>ik b x++ik b y
 |b,.cond _ x y=>ik b x++ik b y
 |_,.block id c=>ik id c
 |b,.loop c=>(b,c)::ik b c
 |b,.rangeFunc g ps x y=>[(b,.rangeFunc g ps x y)]
 |b,.scope c=>ik b c
 |_,_=>[]
def Eu(E:Env)(b:G)(c:Ï):Prop:=
 ∀(s:Snap)(R:Type)(k:Ex->Snap->O R)(r:R),E.L b s R k=B r->∃n e s',loopN (LU E b c) n s=B (e,s')/\k e s'=B r
theorem qZ(p:G->Prop):∀n,p n->∃m,p m/\∀j,p j->m<=j:=by
 intro n;induction n using ð with
 |_ n ih=>
  intro h;by_cases hj:∃j,j<n/\p j
  .obtain⟨j,hj,hp⟩:=hj;exact ih j hj hp
  .exact⟨n,h,λj hp=>Nat.le_of_not_lt λhl=>hj ⟨j,hl,hp⟩⟩
open Classical in
noncomputable def Ix(p:G->Prop):Nat:=if h:∃n,p n then (qZ p h.choose h.choose_spec).choose else 0
theorem Ww{p:G->Prop}{n:G}(h:p n):p (Ix p)/\Ix p<=n:=by
 unfold Ix;have hx:∃n,p n:=⟨n,h⟩;rw[dif_pos hx];exact⟨(qZ p hx.choose hx.choose_spec).choose_spec.1,(qZ p hx.choose hx.choose_spec).choose_spec.2 n h⟩
theorem jzn{P:Ä}{F:Fence}{n0:G}{Q:Ð->Â->Z->Prop}{c:Ï}(I:G->Â->Z->Prop){n:G}(h₀:I n a w)
  (round:∀n a w,I n a w->c.wpIn F n0 P (Exit.then (λa' w'=>∃m,m<n/\I m a' w') Q) a w):(Code.loop c).wpIn F n0 P Q a w:=by
 refine wpIn_loop (λa w=>∃n,I n a w) (λa w=>Ix λn=>I n a w) ⟨n,h₀⟩ (λa w hI=>?_);obtain⟨m,hm⟩:=hI;have hl:=(Ww (p:=λn=>I n a w) hm).1;refine wpIn_mono (round _ a w hl) (λe a' w' h=>?_);cases e with
 |normal=>obtain⟨m',aq,mL⟩:=h;exact⟨⟨m',mL⟩,Nat.lt_of_le_of_lt (Ww (p:=λn=>I n a' w') mL).2 aq⟩
 |_=>exact h
def Ev(w0:Z)(refs:Refs):Prop:=
 refs.ds.Nodup/\∀d∈refs.ds,∃D,d={ target:= .collected D,args:=#[] }/\w0.heap.size<=D/\refs.kw D=B (.deferred (B []))
structure AE(w0:Z)(refs refs':Refs):Prop where
 blks:refs'.blks=refs.blks
 val:refs'.val=refs.val
 fix:refs'.fix=refs.fix
 marks:Ev w0 refs'
 mv:refs'.mv=refs.mv
theorem AE.trans{r r' Wx:Refs}(h:AE w0 r r')(h':AE w0 r' Wx):AE w0 r Wx:=⟨h'.blks.trans h.blks,h'.val.trans h.val,h'.fix.trans h.fix,h'.marks,h'.mv.trans h.mv⟩
def Post(E:Env)(S0:aY)(w0:Z)(refs:Refs)(pl:Æ){R:Type}(k:Ex->St->O R)(r:R):Ð->Â->Z->Prop:=
 λe a' w'=>∃refs' ex σ' S' γ',AE w0 refs refs'/\(pl=X->refs'=refs)/\exOf ex=e/\Rel E.N E.np S0 w0 refs' σ' a' w' S' γ'/\eP σ'/\k ex σ'=B r
theorem Wy{E:Env}{pl:Æ}{R:Type}{k:Ex->St->O R}{r:R}:¬ë (Post E S0 w0 refs pl k r):=by
 rintro⟨a,w,refs',ex,_,_,_,_,_,he,_⟩
 cases ex<;>simp[exOf]at he
def BwOK(P:Ä)(f:G)(t:Ty):Prop:=
 Fun P f/\∀(cv:Á Y)(m l:G)(J:G->aY->Z->Prop)(Jx:Z->Prop)(W:Z)(S:aY),
  (∀j S W S' W',Grew W W'->Cp S W S' W'->J j S W->J j S' W')->(∀W W',Grew W W'->Jx W->Jx W')->(∀j S W,J j S W->∀g o,S g o->g<W.heap.size)->
  (∀j S W,j<m->J j S W->∃xs:H t.den,All2 (kL S W) [.p [⟨.list t,xs⟩]] cv.toList/\m-1-j<xs.length/\∀S' W' x v,Grew W W'->Cp S W S' W'->xs[m-1-j]? = B x->VRep S' W' ⟨t,x⟩ v->
   YieldAt (FR À) 0 P l #[.int .i64 ((m-1-j:G):Õ),v] W' λe W'=>(e = .returned (.bool X)/\∃S',J (j+1) S' W')\/(e = .returned (.bool U)/\Jx W'))->
  (∃(S':aY)(xs:H t.den),xs.length=m/\(∀g o,S' g o->g<W.heap.size)/\All2 (kL S' W) [.p [⟨.list t,xs⟩]] cv.toList)->J 0 S W->
  ó (FR À) 0 P f (#[.func (.yield l) #[] #[]]++cv) W λe W'=>(∃v,e = .returned v)/\((∃S',J m S' W')\/Jx W')
def ItOK(P:Ä)(f:G)(kd:Æ)(t:Ty):Prop:=
 Fun P f/\∀(cv:Á Y)(l:G)(J:Õ->aY->Z->Prop)(Je Jx:Z->Prop)(W:Z)(S:aY)(iu:H t.den),
  (∀c S W S' W',Grew W W'->Cp S W S' W'->J c S W->J c S' W')->(∀W W',Grew W W'->Je W->Je W')->(∀W W',Grew W W'->Jx W->Jx W')->(∀c S W,J c S W->∀g o,S g o->g<W.heap.size)->
  (∀c S W,J c S W->∃xs:H t.den,All2 (kL S W) [.p [⟨.list t,xs⟩]] cv.toList/\(LS kd xs.length c=X->Je W)/\
   (LS kd xs.length c=U->itOk kd xs.length c=X/\∀S' W' vs,Grew W W'->Cp S W S' W'->All2 (VRep S' W') (Dt kd t xs c) vs->
    YieldAt (FR À) 0 P l vs.toArray W' λe W'=>(e = .returned (.bool X)/\∃S',J (Ds kd c) S' W')\/(e = .returned (.bool U)/\Jx W')))->
  (∃S',(∀g o,S' g o->g<W.heap.size)/\All2 (kL S' W) [.p [⟨.list t,iu⟩]] cv.toList)->J (Dr kd iu.length) S W->
  ó (FR À) 0 P f (#[.func (.yield l) #[] #[]]++cv) W λe W'=>(∃v,e = .returned v)/\(Je W'\/Jx W')
def BwK(P:Ä)(f:G)(q:Æ×Ty):Prop:=ItOK P f q.1 q.2
theorem jHu{P:Ä}{f:G}{t:Ty}(h:BwOK P f t):ItOK P f U t:=by
 refine⟨h.1,λcv l J Je Jx W S iu aQ hse hsx hh hY dq Cr=>?_⟩;obtain⟨S',wv,fP⟩:=dq;refine CallsIn.mono (h.2 cv iu.length l (λj S W=>j<=iu.length/\J ((iu.length:Õ)-j) S W) Jx W S (λj S W S' W' hg hs hj=>⟨hj.1,aQ _ _ _ _ _ hg hs hj.2⟩) hsx (λj S W hj=>hh _ _ _ hj.2) ?_ ⟨S',iu,rfl,wv,fP⟩ ⟨kp _,?_⟩) ?_
 .rintro j S W hj ⟨_,hJ⟩
  obtain⟨xs,h1,_,h3⟩:=hY _ _ _ hJ;obtain⟨h4,h5⟩:=h3 (by show decide _=U;exact decide_eq_false omg_);have h4:(iu.length:Õ)-j<=Int.ofNat xs.length:=q8 h4;have h4:(iu.length:Õ)-j<=(xs.length:Õ):=h4;refine⟨xs,h1,omg_,λS' W' x v hg hs hx hv=>?_⟩
  have hv2:All2 (VRep S' W') (Dt U t xs ((iu.length:Õ)-j)) [.int .i64 ((iu.length-1-j:G):Õ),v]:=by
   refine⟨⟨?_,λhm=>absurd hm (show¬kM (.int .i64)=X by decide),λ_=>rfl⟩,?_,trivial⟩
   .show [Value.int .i64 ((iu.length-1-j:G):Õ)]=[Value.int .i64 ((iu.length:Õ)-j-1)];rw[show ((iu.length-1-j:G):Õ)=(iu.length:Õ)-j-1 by omega]
   .have e:List.getD xs ((iu.length:Õ)-j-1).toNat t.dflt=x:=by rw[show ((iu.length:Õ)-j-1).toNat=iu.length-1-j by omega];simp[List.getD,hx]
    rw[e];exact hv
  obtain⟨fn,tmps,as,bo,hy,hR⟩:=h5 S' W' _ hg hs hv2;refine⟨fn,tmps,as,bo,hy,hR.mono λe W' he=>?_⟩;rcases he with⟨h6,S6,h7⟩|h6
  .refine .inl ⟨h6,S6,omg_,?_⟩;have e2:Ds U ((iu.length:Õ)-j)=(iu.length:Õ)-((j+1:G):Õ):=by show (iu.length:Õ)-j-1=_;omega
   rw[<-e2];exact h7
  .exact .inr h6
 .have:((iu.length:Õ)-((0:G):Õ))=Dr U iu.length:=by show _=Int.ofNat iu.length;simp
  rw[this];exact Cr
 .rintro e W' ⟨hv,⟨S',_,hJ⟩|hx⟩
  .obtain⟨xs,_,h2,_⟩:=hY _ _ _ hJ;exact⟨hv,.inl (h2 (by show decide _=X;exact yd omg_))⟩
  .exact⟨hv,.inr hx⟩
def Ng(P:Ä)(E:Env)(ro:O G)(c:Ï):Prop:=
 ∀(b n:G){S0:aY}{w0:Z}{refs:Refs}{σ:St}{a:Â}{w:Z}{S:aY}{γ:G->Y}{R:Type}{k:Ex->St->O R}{r:R},Ev w0 refs->
  (∀x∈ik b c,Eu E x.1 x.2)->Rel E.N E.np S0 w0 refs σ a w S γ->eP σ->gx E b c σ k=B r->c.wpIn (FR ro) n P (Post E S0 w0 refs (dV c) k r) a w
theorem yz:∀(c:Ï)(b:G),dV c=X->ik b c=[]
 |.seq x y,b,h=>by simp only[dV,jg]at h;simp[ik,yz x b h.1,yz y b h.2]
 |.cond _ x y,b,h=>by simp only[dV,jg]at h;simp[ik,yz x b h.1,yz y b h.2]
 |.block id c,b,h=>by simp only[dV]at h;simp[ik,yz c id h]
 |.loop c,b,h=>by simp[dV]at h
 |.rangeFunc _ _ _ _,b,h=>by simp[dV]at h
 |.skip,_,_=>rfl
 |.region _ _ _,_,_=>rfl
 |.exit _,_,_=>rfl
 |.goto _,_,_=>rfl
 |.label _,_,_=>rfl
 |.ret,_,_=>rfl
 |.scope c,b,h=>by simp only[dV]at h;simp[ik,yz c b h]
theorem Wz:∀(L:H (G×Y))(T:Á Y),rR (L.map (·.1))=X->(∀q∈L,q.1<T.size)->
  (∀q∈L,(L.foldl (λt (q:G×Y)=>t.setIfInBounds q.1 q.2) T).getD q.1 undef=q.2)/\(∀i,i∉L.map (·.1)->(L.foldl (λt (q:G×Y)=>t.setIfInBounds q.1 q.2) T).getD i undef=T.getD i undef)/\
  (L.foldl (λt (q:G×Y)=>t.setIfInBounds q.1 q.2) T).size=T.size
 |[],T,_,_=>⟨λq h=>by simp at h,λ_ _=>rfl,rfl⟩
 |q::r,T,hn,hb=>by
  simp only[qf,rR,jg,qn,qr,q7]at hn;obtain⟨h1,h2,h3⟩:=Wz r (T.setIfInBounds q.1 q.2) hn.2 (λp hp=>by simpa using hb p (by simp[hp]));have hq:=hb q smp_;refine⟨λp hp=>?_,λi hi=>?_,by simpa using h3⟩
  .rcases je.1 hp with rfl|hp
   .show (þ (λt (q:G×Y)=>t.setIfInBounds q.1 q.2) (T.setIfInBounds p.1 p.2) r).getD p.1 undef=_;rw[h2 p.1 hn.1];simp[Array.getD,hq]
   .exact h1 p hp
  .simp only[qf,je,not_or]at hi;show (þ (λt (q:G×Y)=>t.setIfInBounds q.1 q.2) (T.setIfInBounds q.1 q.2) r).getD i undef=_;rw[h2 i hi.2];rw[zp,Array.getElem?_setIfInBounds,if_neg (λh=>hi.1 h.symm),<-zp]
theorem WA{N:NT}{np:G}:∀(L:H (G×TV)){σ:St},Rel N np S0 w0 refs σ a w S γ->eP σ->(∀q∈L,VRep S w q.2 (tm a q.1))->Rel N np S0 w0 refs (setL L σ) a w S γ/\eP (setL L σ)
 |[],_,hR,hc,_=>⟨hR,hc⟩
 |q::r,σ,hR,hc,hv=>by
  have h1:=MV hR (s:=q.1) (x:= .one (rK q.2.t q.2.v)) (Ce (hv q smp_));refine WA r h1 (λi=>?_) (λp hp=>hv p (by simp[hp]));simp only[St.setS];split
  .rfl
  .exact hc i
theorem WB{S:aY}{w:Z}:∀{ps:H G}{xs:H TV}{vs:H Y},All2 (VRep S w) xs vs->∀q∈ps.zip xs,∃v,(q.1,v)∈ps.zip vs/\VRep S w q.2 v
 |[],_,_,_,q,h=>by simp at h
 |p::ps,[],vs,_,q,h=>by simp at h
 |p::ps,x::xs,[],h2,q,h=>h2.elim
 |p::ps,x::xs,v::vs,h2,q,h=>by
  simp only[ä,je]at h;rcases h with rfl|h
  .exact⟨v,smp_,h2.1⟩
  .obtain⟨u,h3,h4⟩:=WB h2.2 q h;exact⟨u,by simp[h3],h4⟩
theorem WC:∀(ps:H G)(vs:H Y),rR ps=X->rR ((ps.zip vs).map (·.1))=X
 |[],_,_=>by simp[rR]
 |p::ps,[],_=>by simp[rR]
 |p::ps,v::vs,h=>by
  simp only[rR,jg,qn,qr,q7,ä,qf]at h ⊢;refine⟨λhm=>h.1 ?_,WC ps vs h.2⟩;obtain⟨q,hq,he⟩:=jz.1 hm;rw[<-he];exact(Ú hq).1
theorem jEy{kd:Æ}{t:Ty}{xs:H t.den}{c:Õ}(h:kd=X->t=segT):(Dt kd t xs c).length=cond kd 1 2:=by
 cases kd with
 |false=>rfl
 |true=>have:=h rfl;subst this;rfl
theorem jBW{P:Ä}{E:Env}(AF:∀f t,E.bw f=B t->BwK P f t)(tw:E.N.pin=λ_=>U){b n:G}{g:Ë}{ps:Á G}{x y:Ï}
  (tx:∀l,dV x=X->Ng P (E.rnd ps x y) (B l) x)(tz:∀l,dV y=X->Ng P (E.rnd ps x y) (B l) y)
  (hLO:Eu E b (.rangeFunc g ps x y)){R:Type}{k:Ex->St->O R}{r:R}(hm:Ev w0 refs)(hR:Rel E.N E.np S0 w0 refs σ a w S γ)(hc:eP σ)
  (h:gx E b (.rangeFunc g ps x y) σ k=B r) :
  (Code.rangeFunc g ps x y).wpIn (FR À) n P (Post E S0 w0 refs (dV (.rangeFunc g ps x y)) k r) a w:=by
 refine jFJ (n:=1) ?_;simp only[gx]at h;split at h
 case h_2=>simp at h
 rename_i f t xs r9;split at h
 case h_2=>simp at h
 rename_i kd bX;split at h
 case h_2=>simp at h
 rename_i s hs;obtain⟨fu0,e,s',tA,hk⟩:=hLO _ R _ r h;have bR:=sH hR g;rw[r9]at bR;obtain⟨⟨cv,WD,xK⟩,_⟩:=bR;obtain⟨S1,γ1,bV,fL⟩:=xX hR hc hs
 have parts:∀f t kd,rfK E b f t ps x y=B kd->E.bw f=B (kd,t)/\(kd=X->t=segT)/\ps.toList.length=cond kd 1 2/\rR ps.toList=X/\(∀p∈ps.toList,p<E.N.n)/\dV x=X/\dV y=X/\pinK ps x y (E.keep b)=true:=by
  intro f t kd bX;unfold rfK at bX;split at bX
  case h_2=>simp at bX
  rename_i q hq;cases tB:(decide (q.2=t)&&(cond q.1 (decide (t=segT)) X&&(decide (ps.toList.length=cond q.1 1 2)&&(rR ps.toList&&(ps.toList.all (λp=>decide (p<E.N.n))&&(dV x&&(dV y&&pinK ps x y (E.keep b)))))))) with
  |false=>rw[tB]at bX;simp at bX
  |true=>
  rw[tB,j6,j5]at bX;subst bX;simp only[jg,js,kj]at tB;obtain⟨h1,h0,h2,h3,h4,h5,h6,h7⟩:=tB;exact⟨by rw[hq,<-h1],λhk=>by rw[hk]at h0;exact q8 h0,h2,h3,h4,h5,h6,h7⟩
 obtain⟨Cj,Cs,h2,ew,aq,wx,wy,WE⟩:=parts f t kd bX;obtain⟨⟨WG,Nh,yA,ct⟩,Co⟩:=AF f _ Cj
 have heg:∀args w,(callFunc f args).run P w = .ok (.enter f args) w:=λargs w=>by
  have mo:¬WG.body=none:=λhn=>by rw[hn]at yA;simp at yA
  have xO : ¬ WG.name = "runtime.NumGoroutine" := by simpa using ct
  simp[callFunc,Nh,mo,xO]
 refine wpIn_rangeFunc λfn _=>?_;obtain⟨rec,gI⟩:∃rec:LoopState->O Ï->Loop,rec=λst pe=>{ state:=st,pending:=pe,fn,tmps:=a.tmps,params:=ps,assign:=x,body:=y,defers:=w.heap.size }:=⟨_,rfl⟩;obtain⟨W1,Ct⟩:∃W1,(w.alloc (.deferred (B []))).alloc (.loop (rec .ready À))=W1:=⟨_,rfl⟩
 refine⟨w.heap.size+1,[{ target:= .collected w.heap.size,args:=#[] }],W1,{ target:= .fn (.func f) cv,args:=#[.func (.yield (w.heap.size+1)) #[] #[]] },W1,f,
  #[.func (.yield (w.heap.size+1)) #[] #[]]++cv,W1,?_,?_,λ_ _=>trivial,?_,λhd=>by simp[FR,Ô]at hd,?_⟩
 .rw[<-Ct,gI];exact run_enterLoop_outer _ _ _ _ _
 .simp only[resolve,WD];simp[go_sem]
 .simp[invoke,go_sem,heg]
 obtain⟨l,hl⟩:∃l,l=w.heap.size+1:=⟨_,rfl⟩;rw[<-hl];let cJ:(G->O Y)->ü->Refs:=λfx o=>{ blks:=refs.blks,val:=refs.val,ds:=[],kw:=λg=>if g=l then B o else if g=w.heap.size then B (.deferred (B [])) else refs.kw g,fix:=fx,mv:=refs.mv }
 let fx:G->O Value:=λi=>if BW ps x y i then B (a.tmps.getD i undef) else À
 let aI:Go.Act:={ tmps:=a.tmps,defers:=[] }
 have iv:∀fx o,(cJ fx o).kw l=B o:=λfx o=>by simp[cJ]
 have kT:w0.heap.size<=l:=by have:=hR.grow;omega
 have cP:∀fx o,Ev w0 (cJ fx o):=λfx o=>⟨vq,λd hd=>by simp[cJ]at hd⟩
 have nG:∀{N:NT}{fx:G->O Y}{o o':ü}{σ:St}{a:Â}{W:Z}{S:aY}{γ:G->Y},o.isCells=U->o'.isCells=U->Rel N E.np S0 w0 (cJ fx o) σ a W S γ->
   Rel N E.np S0 w0 (cJ fx o') σ a (W.putObj l o') S γ:=by
  intro N fx o o' σ a W S γ h1 h2 hR;have:=hR.putO (iv fx o) kT h1 h2;refine this.swap rfl rfl this.size this.defers this.slot (λg u hg=>this.kept g u ?_) this.fix;simp only[cJ]at hg ⊢;split
  .rename_i e;subst e;simpa using hg
  .rename_i e;simpa[e]using hg
 have tC:∀{N N':NT}{fx Ni:G->O Y}{o:ü}{K:Keep}{s:Snap}{a a':Â}{W:Z}{S:aY}{γ:G->Y},Rel N E.np S0 w0 (cJ fx o) (dJ E.np K s) a W S γ->a'.tmps.size=N'.n->a'.defers=[]->
   (∀i∈K.slots,tm a' i=tm a i)->(∀i v,Ni i=B v->N'.pin i=X/\a'.tmps.getD i undef=v)->Rel N' E.np S0 w0 (cJ Ni o) (dJ E.np K s) a' W S γ:=by
  intro N N' fx Ni o K s a a' W S γ hR h1 h2 h3 h4;exact hR.frame rfl rfl h1 h2 h3 (λg u hg=>hR.kept g u hg) h4
 have tD:∀i v,(λ_=>À:G->O Y) i=B v->E.N.pin i=X/\aI.tmps.getD i undef=v:=λi v h=>by simp at h
 let J:Õ->aY->Z->Prop:=λc S W=>∃s γ fu,Rel E.N E.np S0 w0 (cJ (λ_=>À) (.loop (rec .ready À))) (dJ E.np (E.keep b) s) aI W S γ/\eP (dJ E.np (E.keep b) s)/\
  loopN (BX E b g ps x y) fu (.s (.one (.d (.int .i64) c))::s)=B (e,s')
 let Je:Z->Prop:=λW=>∃S γ,Rel E.N E.np S0 w0 (cJ (λ_=>À) (.loop (rec .ready À))) (dJ E.np (E.keepX b e) s') aI W S γ/\eP (dJ E.np (E.keepX b e) s')/\e = .normal
 let Jx:Z->Prop:=λW=>∃S γ c,Rel E.N E.np S0 w0 (cJ (λ_=>À) (.loop (rec .done (B c)))) (dJ E.np (E.keepX b e) s') aI W S γ/\eP (dJ E.np (E.keepX b e) s')/\
  ((e = .ret/\c = .ret)\/∃i,e = .exit i/\c = .exit i)
 have yB:∀K:Keep,pinK ps x y K=X->∀i∈K.slots,BW ps x y i=true:=λK hK i hi=>kj.1 hK i hi;have yC:∀i,BW ps x y i=X->i∉ps.toList:=by intro i hi;simp only[BW,jg,qn,qr,q7]at hi;exact hi.1
 have Cr:J (Dr kd xs.length) S1 W1:=by
  refine⟨s,γ1,fu0,?_,fL,tA⟩;have hA:=(bV.allocO (.deferred (B []))).allocO (.loop (rec .ready À));rw[Ct]at hA;refine hA.frame rfl rfl hR.size rfl (λi _=>rfl) (λg' u aL=>?_) tD;simp only[cJ]at aL;split at aL
  .rename_i e';simp only[j5]at aL;subst aL;rw[e',hl];refine⟨?_,λk' b' aW dO=>?_⟩
   .rw[<-Ct];have:=ß (w.alloc (.deferred (B []))) (.loop (rec .ready À));rwa[World.size_alloc]at this
   .have:=oI (bV.box k' b' aW) dO;omega
  .split at aL
   .rename_i _ e';simp only[j5]at aL;subst aL;rw[e'];refine⟨?_,λk' b' aW dO=>?_⟩
    .rw[<-Ct];exact(heap_alloc_old _ _ smp_).trans (ß w _)
    .have:=oI (bV.box k' b' aW) dO;omega
   .exact hA.kept g' u aL
 have haI:aI.eval g=a.eval g:=by cases g<;>rfl
 have Nj:aI.tmps.size=E.N.n:=hR.size
 have Ew:∀{K:Keep}{s:Snap}{o:ü}{W W':Z}{S:aY}{γ:G->Y},Grew W W'->Rel E.N E.np S0 w0 (cJ (λ_=>À) o) (dJ E.np K s) aI W S γ->Rel E.N E.np S0 w0 (cJ (λ_=>À) o) (dJ E.np K s) aI W' S γ:=
  λhg h1=>h1.grew hg ⟨λ_ _ h=>h,λ_ _ h=> .inl h,λg o h=>zk (h1.here g o h) hg.size⟩
 refine CallsIn.mono (Co cv l J Je Jx W1 S1 xs (λc S W S' W' hg hs ⟨s,γ,fu,h1,h2,h3⟩=>⟨s,γ,fu,h1.grew hg hs,h2,h3⟩) (λW W' hg ⟨S,γ,h1,h2⟩=>⟨S,γ,Ew hg h1,h2⟩) (λW W' hg ⟨S,γ,c,h1,h2⟩=>⟨S,γ,c,Ew hg h1,h2⟩)
  (λc S W ⟨s,γ,fu,h1,_⟩=>h1.here) ?_ ?_ Cr) ?_
 ·-- a round
  rintro cn S W ⟨s,γ,fu,Cu,WH,uS⟩
  cases fu with
  |zero=>simp[loopN]at uS
  |succ fu=>
  simp only[loopN]at uS;cases aQ:BX E b g ps x y (.s (.one (.d (.int .i64) cn))::s) with
  |none=>rw[aQ]at uS;simp at uS
  |some r0=>
  rw[aQ]at uS;unfold BX Du at aQ;dsimp only at aQ;split at aQ
  case h_2=>simp at aQ
  rename_i f' t' dj Nk;split at aQ
  case h_2=>simp at aQ
  rename_i kd' qV;have nv:=sH Cu g;rw[Nk,haI,WD]at nv;obtain⟨⟨cv',Ey,dq⟩,_⟩:=nv;simp only[Value.func.injEq,Fn.func.injEq,qc]at Ey;obtain⟨rfl,rfl⟩:=Ey;have ht:=(parts f t' kd' qV).1;rw[Cj]at ht;simp only[j5,j9]at ht;obtain⟨rfl,rfl⟩:=ht;refine⟨dj,dq,λNl=>?_,λNl=>?_⟩
  .rw[Nl,j6]at aQ;cases rb:pinK ps x y (E.keepX b .normal) with
   |false=>rw[rb]at aQ;simp at aQ
   |true=>
   rw[rb,j6]at aQ;split at aQ
   case h_2=>simp at aQ
   rename_i s3 hs3;simp only[j5]at aQ;subst aQ;simp only[j5,j9]at uS;obtain⟨rfl,rfl⟩:=uS;obtain⟨S5,γ5,pW,Ez⟩:=xX Cu WH hs3;exact⟨S5,γ5,pW,Ez,rfl⟩
  rw[Nl,j7]at aQ;cases hle:itOk kd dj.length cn with
  |false=>rw[hle]at aQ;simp at aQ
  |true=>
  rw[hle,j6]at aQ;refine⟨rfl,λSg Wg vs hgw Cv mX=>?_⟩;have Cu:=Cu.grew hgw Cv;have vU:vs.toArray.size=ps.size:=by have e1:=mX.length;rw[jEy Cs]at e1;simp only[yb];rw[<-e1,<-h2,qt]
  refine⟨fn,_,x,y,by have:=run_yield (P:=P) (args:=vs.toArray) (Cu.kept l _ (iv _ _)).1 (by rw[gI];exact vU);rw[gI]at this;exact this,roundIn_of_wpIn trivial ?_⟩;let a1:Go.Act:={ tmps:=(ps.zip vs.toArray).foldl (λt (q:G×Y)=>t.setIfInBounds q.1 q.2) a.tmps,defers:=[] }
  have lN:(ps.zip vs.toArray).toList=ps.toList.zip vs:=smp_;have ha1:a1.tmps=(ps.toList.zip vs).foldl (λt (q:G×Y)=>t.setIfInBounds q.1 q.2) a.tmps:=by show (ps.zip vs.toArray).foldl _ _=_;rw[<-Array.foldl_toList,lN]
  have ie:∀i,i∈(ps.toList.zip vs).map (·.1)->i∈ps.toList:=λi hi=>by
   obtain⟨q,hq,rfl⟩:=jz.1 hi;exact(Ú hq).1
  have Nn:rR ((ps.toList.zip vs).map (·.1))=true:=WC _ _ ew;obtain⟨Ig,jI,WI⟩:=Wz (ps.toList.zip vs) a.tmps Nn (λq hq=>by rw[hR.size];exact aq _ (Ú hq).1);rw[<-ha1]at Ig jI WI;have Np:a1.tmps.size=E.N.n:=WI.trans hR.size;have Ay:∀i,i∉ps.toList->tm a1 i=tm aI i:=λi hi=>jI i (λh=>hi (ie i h))
  have hRa:Rel (E.rnd ps x y).N E.np S0 w0 (cJ fx (.loop (rec .ready À))) (dJ E.np (E.keep b) s) a1 Wg Sg γ:=tC Cu Np rfl (λi hi=>Ay i (yC i (yB _ WE i hi))) (λi u hu=>by
   simp only[fx]at hu;split at hu
   .rename_i hp;simp only[j5]at hu;refine⟨hp,?_⟩;show tm a1 i=u;rw[Ay i (yC i hp)];exact hu
   .simp at hu)
  obtain⟨hRc,Al⟩:=WA (ps.toList.zip (Dt kd t dj cn)) hRa WH (λq hq=>by
   obtain⟨v,h3,h4⟩:=WB mX q hq;have:=Ig _ h3;show VRep Sg Wg q.2 (a1.tmps.getD q.1 undef);rw[this];exact h4)
  refine wpIn_mono (tx l wx 0 0 (cP _ _) (by rw[yz x 0 wx];simp) hRc Al aQ) ?_
  rintro e1 a2 w2 ⟨lZ,ex,σ2,S2,γ2,_,gr,rfl,dA,gm,gy⟩
  have:=gr wx;subst this;cases ex with
  |exit i=>simp at gy
  |ret=>simp at gy
  |normal=>
  refine⟨_,run_beginRound (dA.kept l _ (iv _ _)).1 (by rw[gI]),?_⟩;have iR:Rel (E.rnd ps x y).N E.np S0 w0 (cJ fx (.loop (rec .busy À))) σ2 a2 (w2.putObj l (.loop { rec .ready À with state:= .busy })) S2 γ2:=by have:=nG (o':= .loop (rec .busy À)) rfl rfl dA;rw[gI]at this ⊢;exact this
  refine wpIn_mono (tz l wy 0 0 (cP _ _) (by rw[yz y 0 wy];simp) iR gm gy) ?_
  rintro e1 a3 w3 ⟨WJ,ex,σ3,S3,γ3,_,gr,rfl,uT,uU,AG⟩
  have:=gr wy;subst this
  have nJ:∀{K:Keep}{s:Snap}{o:ü}{W:Z}{S:aY}{γ:G->Y},pinK ps x y K=X->Rel (E.rnd ps x y).N E.np S0 w0 (cJ fx o) (dJ E.np K s) a3 W S γ->
    Rel E.N E.np S0 w0 (cJ (λ_=>À) o) (dJ E.np K s) aI W S γ:=λhK hR=>tC hR Nj rfl (λi hi=>by
   have:=(hR.fix i (a.tmps.getD i undef) (by simp only[cJ,fx];rw[if_pos (yB _ hK i hi)])).2;exact this.symm) tD
  have tE:∀(ex:Ex)(c:Ï),((ex = .ret/\c = .ret)\/∃i,ex = .exit i/\c = .exit i)->
    (cond (pinK ps x y (E.keepX b ex)) (match mh E.np (E.keepX b ex) σ3 with
     |some s'=>B (Sum.inr (ex,s'))
     |none=>À) À:O (Snap ⊕ Ex×Snap))=B r0->
    ∃v w',(ñ l (B c)).run P w3 = .ok v w'/\((Î v = .returned (.bool X)/\∃S',J (Ds kd cn) S' w')\/(Î v = .returned (.bool U)/\Jx w')):=by
   intro ex c hex tF;cases rb:pinK ps x y (E.keepX b ex) with
   |false=>rw[rb]at tF;simp at tF
   |true=>
   rw[rb,j6]at tF;split at tF
   case h_2=>simp at tF
   rename_i s2 og;simp only[j5]at tF;subst tF;simp only[j5,j9]at uS;obtain⟨rfl,rfl⟩:=uS;obtain⟨S5,γ5,pW,Ez⟩:=xX uT uU og;refine⟨_,_,run_endRound (B c) (pW.kept l _ (iv _ _)).1,.inr ⟨rfl,S5,γ5,c,?_,Ez,hex⟩⟩;have:=nG (o':= .loop (rec .done (B c))) rfl rfl (nJ rb pW);rw[gI]at this ⊢;exact this
  cases ex with
  |normal=>
   dsimp only at AG
   split at AG
   case h_2=>simp at AG
   rename_i s2 og;simp only[j5]at AG;subst AG;obtain⟨S5,γ5,pW,Ez⟩:=xX uT uU og;show∃v w',(ñ l À).run P w3 = .ok v w'/\_;refine⟨_,_,run_endRound À (pW.kept l _ (iv _ _)).1,.inl ⟨rfl,S5,s2,γ5,fu,?_,Ez,?_⟩⟩
   .have:=nG (o':= .loop (rec .ready À)) rfl rfl (nJ WE pW);rw[gI]at this ⊢;exact this
   .exact uS
  |exit i=>exact tE _ _ (.inr ⟨i,rfl,rfl⟩) AG
  |ret=>exact tE _ _ (.inl ⟨rfl,rfl⟩) AG
 .refine⟨S,λg o h=>by rw[<-Ct];have:=hR.here g o h;simp;omega,xK.mono λx z hx=>?_⟩;rw[<-Ct]
  exact kL.keep (λg o h=>⟨h,by
   have:=hR.here g o h;rw[à _ _ _ sqo_,à _ _ _ this]⟩) hx
 .rintro e2 W2 ⟨⟨v,rfl⟩,ee⟩
  have nJ:∀{K:Keep}{s:Snap}{o:ü}{W:Z}{S:aY}{γ:G->Y},Rel E.N E.np S0 w0 (cJ (λ_=>À) o) (dJ E.np K s) aI W S γ->
    ∃refs',AE w0 refs refs'/\Rel E.N E.np S0 w0 refs' (dJ E.np K s) { a with defers:=[{ target:= .collected w.heap.size,args:=#[] }]++a.defers } W S γ:=by
   intro K s o W S γ WK;refine⟨{ blks:=refs.blks,val:=refs.val,ds:={ target:= .collected w.heap.size,args:=#[] }::refs.ds,kw:=λg=>if g=w.heap.size then B (.deferred (B [])) else refs.kw g,fix:=refs.fix,mv:=refs.mv },⟨rfl,rfl,rfl,⟨?_,?_⟩,rfl⟩,?_⟩
   .refine zh.2 ⟨λkS=>?_,hm.1⟩;obtain⟨D,hD,_,WM⟩:=hm.2 _ kS;simp only[Deferred.mk.injEq,Target.collected.injEq,and_true]at hD;rw[<-hD,hR.kw_new (jn _)]at WM;simp at WM
   .intro d hd;rcases je.1 hd with rfl|hd
    .exact⟨w.heap.size,rfl,hR.grow,smp_⟩
    .obtain⟨D,rfl,h1,h2⟩:=hm.2 d hd;refine⟨D,rfl,h1,?_⟩;show (if D=w.heap.size then _ else refs.kw D)=_;rw[if_neg,h2]
     rintro rfl
     rw[hR.kw_new (jn _)]at h2;simp at h2
   .refine WK.frame rfl rfl hR.size (by rw[hR.defers];rfl) (λi _=>rfl) (λg' u aL=>WK.kept g' u ?_) (λi v hv=>?_)
    .simp only[cJ]at aL ⊢;by_cases h1:g'=l
     .exfalso;subst h1;rw[if_neg omg_,hR.kw_new omg_]at aL;simp at aL
     .rw[if_neg h1];exact aL
    .have:=(hR.fix i v hv).1;rw[tw]at this;simp at this
  rcases ee with⟨S2,γ2,wz,hce,rfl⟩|⟨S2,γ2,c,wc,HZ,hex⟩
  .refine⟨À,_,by have:=run_endLoop (P:=P) (wz.kept l _ (iv _ _)).1 (by rw[gI];simp);rw[gI]at this;exact this,?_⟩;have yD:=nG (o':= .loop { rec .ready À with state:= .exhausted }) rfl rfl wz;obtain⟨refs',hle,wz⟩:=nJ yD;rw[gI]at wz;exact⟨refs',.normal,_,S2,γ2,hle,λhf=>by simp[dV]at hf,rfl,wz,hce,hk⟩
  .have yD:=nG (o':= .loop { rec .done (B c) with state:= .exhausted }) rfl rfl wc;obtain⟨refs',hle,wz⟩:=nJ yD;refine⟨B c,_,by have:=run_endLoop (P:=P) (wc.kept l _ (iv _ _)).1 (by rw[gI];simp);rw[gI]at this;exact this,?_⟩;rw[gI]at wz;rcases hex with⟨rfl,rfl⟩|⟨i,rfl,rfl⟩
   .exact wpIn_ret ⟨refs',.ret,_,S2,γ2,hle,λhf=>by simp[dV]at hf,rfl,wz,HZ,hk⟩
   .exact wpIn_exit ⟨refs',.exit i,_,S2,γ2,hle,λhf=>by simp[dV]at hf,rfl,wz,HZ,hk⟩
theorem jxH{P:Ä}(mM:P.follows .mixedOrders=X):∀(c:Ï){E:Env}{ro:O G},db P E.T->oo P E.C->CFun E.C->
  (∀f t,E.bw f=B t->BwK P f t)->(dV c=X\/(ro=À/\E.N.pin=λ_=>U))->Ng P E ro c:=by
 intro c;induction c with
 |skip=>intro E ro hT hC hF iz hp b n S0 w0 refs σ a w S γ R k r hm hL hR hc h;exact wpIn_skip ⟨refs,.normal,σ,S,γ,⟨rfl,rfl,rfl,hm,rfl⟩,λ_=>rfl,rfl,hR,hc,h⟩
 |label l=>intro E ro hT hC hF iz hp b n S0 w0 refs σ a w S γ R k r hm hL hR hc h;exact wpIn_label ⟨refs,.normal,σ,S,γ,⟨rfl,rfl,rfl,hm,rfl⟩,λ_=>rfl,rfl,hR,hc,h⟩
 |region WN ops draw=>
  intro E ro hT hC hF iz hp b n S0 w0 refs σ a w S γ R k r hm hL hR hc h
  have EA:ro=À\/∀o∈ops.toList,∀c,o.op ≠ .defer c:=hp.elim (λhp=> .inr λo ho c hd=>by
   have:=kj.1 hp o ho;simp[Uo,hd]at this) λh=> .inl h.1
  cases draw with
  |true=>simp only[gx]at h;exact wpIn_region_any mM (Iv EA Wy _ _ _ _ (jxE hT hC hF hR hc (λσ' a' w' S' γ' dI fP hk=>⟨refs,.normal,σ',S',γ',⟨rfl,rfl,rfl,hm,rfl⟩,λ_=>rfl,rfl,dI,fP,hk⟩) h))
  |false=>simp only[gx]at h;exact wpIn_region (Et EA Wy _ _ _ (VU hT hC hR hc (λσ' a' w' S' γ' dI fP hk=>⟨refs,.normal,σ',S',γ',⟨rfl,rfl,rfl,hm,rfl⟩,λ_=>rfl,rfl,dI,fP,hk⟩) h))
 |seq x y tx tz=>
  intro E ro hT hC hF iz hp b n S0 w0 refs σ a w S γ R k r hm hL hR hc h;simp only[gx]at h;have wx:dV x=X\/(ro=À/\E.N.pin=λ_=>U):=hp.imp (λh=>by simp only[dV,jg]at h;exact h.1) id;have wy:dV y=X\/(ro=À/\E.N.pin=λ_=>U):=hp.imp (λh=>by simp only[dV,jg]at h;exact h.2) id;refine wpIn_seq (wpIn_mono (tx hT hC hF iz wx b n hm (λz hz=>hL z (by simp[ik,hz])) hR hc h) ?_)
  rintro e a' w' ⟨refs',ex,σ',S',γ',hle,gr,rfl,dI,fP,hk⟩
  have hx:dV (.seq x y)=X->refs'=refs:=λh=>by simp only[dV,jg]at h;exact gr h.1
  cases ex with
  |normal=>
   refine wpIn_mono (tz hT hC hF iz wy b n hle.marks (λz hz=>hL z (by simp[ik,hz])) dI fP hk) ?_
   rintro e2 a2 w2 ⟨lZ,ex,σ2,S2,γ2,kO,Nq,rfl,dA,gm,gy⟩
   refine⟨lZ,ex,σ2,S2,γ2,hle.trans kO,λh=>?_,rfl,dA,gm,gy⟩;have h1:=hx h;simp only[dV,jg]at h;rw[Nq h.2,h1]
  |exit i=>exact⟨refs',.exit i,σ',S',γ',hle,hx,rfl,dI,fP,hk⟩
  |ret=>exact⟨refs',.ret,σ',S',γ',hle,hx,rfl,dI,fP,hk⟩
 |cond c x y tx tz=>
  intro E ro hT hC hF iz hp b n S0 w0 refs σ a w S γ R k r hm hL hR hc h;simp only[gx]at h;have wx:dV x=X\/(ro=À/\E.N.pin=λ_=>U):=hp.imp (λh=>by simp only[dV,jg]at h;exact h.1) id;have wy:dV y=X\/(ro=À/\E.N.pin=λ_=>U):=hp.imp (λh=>by simp only[dV,jg]at h;exact h.2) id;split at h
  .rename_i v hv;have r9:=sH hR c;rw[hv]at r9;have Nr:a.eval c = .bool v:=uE r9;refine wpIn_cond Nr ?_;cases v with
   |true=>
    refine wpIn_mono (tx hT hC hF iz wx b n hm (λz hz=>hL z (by simp[ik,hz])) hR hc h) ?_
    rintro e a' w' ⟨refs',ex,σ',S',γ',hle,gr,he,hr⟩
    exact⟨refs',ex,σ',S',γ',hle,λh=>by simp only[dV,jg]at h;exact gr h.1,he,hr⟩
   |false=>
    refine wpIn_mono (tz hT hC hF iz wy b n hm (λz hz=>hL z (by simp[ik,hz])) hR hc h) ?_
    rintro e a' w' ⟨refs',ex,σ',S',γ',hle,gr,he,hr⟩
    exact⟨refs',ex,σ',S',γ',hle,λh=>by simp only[dV,jg]at h;exact gr h.2,he,hr⟩
  .simp at h
 |block id c ih=>
  intro E ro hT hC hF iz hp b n S0 w0 refs σ a w S γ R k r hm hL hR hc h;simp only[gx]at h;refine wpIn_block (wpIn_mono (ih hT hC hF iz hp id n hm (λz hz=>hL z (by simpa[ik]using hz)) hR hc h) ?_)
  rintro e a' w' ⟨refs',ex,σ',S',γ',hle,gr,rfl,dI,fP,hk⟩
  cases ex with
  |normal=>exact⟨refs',.normal,σ',S',γ',hle,gr,rfl,dI,fP,hk⟩
  |exit i=>
   simp only[exOf,Exit.inBlock];simp only at hk;split
   .rename_i hi;rw[if_pos hi]at hk;exact⟨refs',.normal,σ',S',γ',hle,gr,rfl,dI,fP,hk⟩
   .rename_i hi;rw[if_neg hi]at hk;exact⟨refs',.exit i,σ',S',γ',hle,gr,rfl,dI,fP,hk⟩
  |ret=>exact⟨refs',.ret,σ',S',γ',hle,gr,rfl,dI,fP,hk⟩
 |scope c ih=>intro E ro hT hC hF iz hp b n S0 w0 refs σ a w S γ R k r hm hL hR hc h;simp only[gx]at h;refine jxG (λl a w hq=>?_) (ih hT hC hF iz hp b n hm (λz hz=>hL z (by simpa[ik]using hz)) hR hc h);obtain⟨_,ex,_,_,_,_,_,he,_⟩:=hq;cases ex<;>simp[exOf]at he
 |loop c ih=>
  intro E ro hT hC hF iz hp b n S0 w0 refs σ a w S γ R k r hm hL hR hc h;have hrn:=hp.resolve_left (by simp[dV]);simp only[gx]at h;cases Ns:isRf c with
  |true=>rw[Ns]at h;simp at h
  |false=>
  rw[Ns,j7]at h;split at h
  .rename_i s hs;obtain⟨n1,e,s',hn,hk⟩:=hL (b,c) (by simp[ik]) s R _ r h
   have eY:LU E b c=zR E b c:=by
    funext s
    cases c<;>first|rfl|simp[isRf]at Ns
   rw[eY]at hn;obtain⟨S1,γ1,bV,fL⟩:=xX hR hc hs;refine jzn (λn a w=>∃refs' s S γ,AE w0 refs refs'/\Rel E.N E.np S0 w0 refs' (dJ E.np (E.keep b) s) a w S γ/\eP (dJ E.np (E.keep b) s)/\loopN (zR E b c) n s=B (e,s')) ⟨refs,s,S1,γ1,⟨rfl,rfl,rfl,hm,rfl⟩,bV,fL,hn⟩ ?_
   rintro m a1 w1 ⟨WO,s1,S2,γ2,oT,dA,gm,kS⟩
   cases m with
   |zero=>simp[loopN]at kS
   |succ m=>
    simp only[loopN]at kS;cases aQ:zR E b c s1 with
    |none=>simp[aQ]at kS
    |some out=>
     rw[aQ]at kS;unfold zR at aQ;refine wpIn_mono (ih hT hC hF iz (.inr hrn) b n oT.marks (λz hz=>hL z (by simp[ik,hz])) dA gm aQ) ?_
     rintro e2 a2 w2 ⟨lZ,ex,σ2,S3,γ3,kO,_,rfl,iR,Em,nK⟩
     cases ex with
     |normal=>
      simp only at nK;split at nK
      .rename_i s2 og;simp only[j5]at nK;subst nK;obtain⟨S4,γ4,uT,uU⟩:=xX iR Em og;exact⟨m,Nat.lt_succ_self m,lZ,s2,S4,γ4,oT.trans kO,uT,uU,kS⟩
      .simp at nK
     |exit i=>
      simp only at nK;split at nK
      .rename_i s2 og;simp only[j5]at nK;subst nK;obtain⟨S4,γ4,uT,uU⟩:=xX iR Em og;simp only[j5,j9]at kS;obtain⟨rfl,rfl⟩:=kS;exact⟨lZ,.exit i,_,S4,γ4,oT.trans kO,λhf=>by simp[dV]at hf,rfl,uT,uU,hk⟩
      .simp at nK
     |ret=>
      simp only at nK;split at nK
      .rename_i s2 og;simp only[j5]at nK;subst nK;obtain⟨S4,γ4,uT,uU⟩:=xX iR Em og;simp only[j5,j9]at kS;obtain⟨rfl,rfl⟩:=kS;exact⟨lZ,.ret,_,S4,γ4,oT.trans kO,λhf=>by simp[dV]at hf,rfl,uT,uU,hk⟩
      .simp at nK
  .simp at h
 |rangeFunc g ps x y tx tz=>
  intro E ro hT hC hF iz hp b n S0 w0 refs σ a w S γ R k r hm hL hR hc h;obtain⟨rfl,tw⟩:=hp.resolve_left (by simp[dV])
  exact jBW iz tw (λl hx=>tx (E:=E.rnd ps x y) hT hC hF iz (.inl hx)) (λl hy=>tz (E:=E.rnd ps x y) hT hC hF iz (.inl hy))
   (hL (b,.rangeFunc g ps x y) (by simp[ik])) hm hR hc h
 |exit i=>intro E ro hT hC hF iz hp b n S0 w0 refs σ a w S γ R k r hm hL hR hc h;exact wpIn_exit ⟨refs,.exit i,σ,S,γ,⟨rfl,rfl,rfl,hm,rfl⟩,λ_=>rfl,rfl,hR,hc,h⟩
 |ret=>intro E ro hT hC hF iz hp b n S0 w0 refs σ a w S γ R k r hm hL hR hc h;exact wpIn_ret ⟨refs,.ret,σ,S,γ,⟨rfl,rfl,rfl,hm,rfl⟩,λ_=>rfl,rfl,hR,hc,h⟩
 |goto l=>intro E ro hT hC hF iz hp b n S0 w0 refs σ a w S γ R k r hm hL hR hc h;simp[gx]at h
 |refuse y=>intro E ro hT hC hF iz hp b n S0 w0 refs σ a w S γ R k r hm hL hR hc h;simp[gx]at h
end
section
variable{N:NT}{np:G}{S0:aY}{w0:Z}{refs:Refs}{σ:St}{a:Â}{w:Z}{S:aY}{γ:G->Y}
def AH:Arg->Æ
 |.ref _=>X
 |.rl _ _=>X
 |_=>U
def EB(args:H Arg)(vals:H Y)(k:G):O Value:=
 if k%64=0 then match args[k/64]? with
  |some x=>if AH x then vals[k/64]? else À
  |none=>À
 else À
def sa(args:H Arg)(vals:H Y):Refs:={ blks:=eu args vals,val:=EB args vals,mv:=mvOf args vals }
def γ0(vals:H Y)(k:G):Value:=vals.getD (k/64) undef
theorem EC:∀{as:H Arg}{us:H Y}{i:G}{x:Arg}{u:Y}{g:G},as[i]? = B x->us[i]? = B u->mD x u=B g->g∈eu as us
 |y::as,v::us,0,x,u,g,h,h',hg=>by
  simp at h h';subst h;subst h';simp[eu,hg]
 |y::as,v::us,i+1,x,u,g,h,h',hg=>by
  have:=EC (as:=as) (us:=us) (i:=i) (by simpa using h) (by simpa using h') hg;simp[eu,this]
 |[],_,_,_,_,_,h,_,_=>by simp at h
 |_::_,[],_,_,_,_,_,h',_=>by simp at h'
theorem WQ:∀{as:H Arg}{us:H Y}{i j:G}{x y:Arg}{u v:Y}{g:G},(eu as us).Nodup->as[i]? = B x->us[i]? = B u->as[j]? = B y->us[j]? = B v->
  mD x u=B g->mD y v=B g->i=j
 |z::as,t::us,0,0,_,_,_,_,_,_,_,_,_,_,_,_=>rfl
 |z::as,t::us,0,j+1,x,y,u,v,g,hn,hx,hu,hy,hv,h1,h2=>by
  simp at hx hu;subst hx;subst hu;have:=EC (as:=as) (us:=us) (i:=j) (by simpa using hy) (by simpa using hv) h2;simp[eu,h1]at hn;exact absurd this hn.1
 |z::as,t::us,i+1,0,x,y,u,v,g,hn,hx,hu,hy,hv,h1,h2=>by
  simp at hy hv;subst hy;subst hv;have:=EC (as:=as) (us:=us) (i:=i) (by simpa using hx) (by simpa using hu) h1;simp[eu,h2]at hn;exact absurd this hn.1
 |z::as,t::us,i+1,j+1,x,y,u,v,g,hn,hx,hu,hy,hv,h1,h2=>by
  have M1:(eu as us).Nodup:=by simp only[eu]at hn;exact(zg.1 hn).2.1
  rw[WQ M1 (i:=i) (j:=j) (by simpa using hx) (by simpa using hu) (by simpa using hy) (by simpa using hv) h1 h2]
 |[],_,_,_,_,_,_,_,_,_,h,_,_,_,_,_=>by simp at h
 |_::_,[],_,_,_,_,_,_,_,_,_,h,_,_,_,_=>by simp at h
theorem WR:∀{as:H Arg}{us:H Y}{i e:G}{x:TV}{u:Y}{g:G},as[i]? = B (.mv e x)->us[i]? = B u->blk u=B g->g∈mvOf as us
 |y::as,v::us,0,e,x,u,g,h,h',hg=>by
  simp at h h';subst h;subst h';simp[mvOf,hg]
 |y::as,v::us,i+1,e,x,u,g,h,h',hg=>by
  have:=WR (as:=as) (us:=us) (i:=i) (by simpa using h) (by simpa using h') hg;cases y<;>simp[mvOf,this]
 |[],_,_,_,_,_,_,h,_,_=>by simp at h
 |_::_,[],_,_,_,_,_,_,h',_=>by simp at h'
theorem jBX{args:H Arg}{vals:H Y}(ha:All2 (pO S w) args vals)(ew:(eu args vals).Nodup)(hS:∀g o,S g o->g<w.heap.size)(hlen:args.length=np)(hN:np<=N.n) :
  Rel N np S w (sa args vals) (St.init args) ⟨vals.toArray++Í (N.n-vals.toArray.size) undef,[]⟩ w S (γ0 vals)/\eP (St.init args):=by
 have vU:vals.length=np:=by rw[<-ha.length,hlen]
 have Ay:∀i u,vals[i]? = B u->(vals.toArray++Í (N.n-vals.toArray.size) undef).getD i undef=u:=by intro i u hu;have hi:i<vals.length:=(ka.1 hu).1;rw[zp,Array.getElem?_append_left (by simpa using hi)];simp[hu]
 have kP:∀i u,vals[i]? = B u->γ0 vals (i*64)=u:=by intro i u hu;simp only[γ0];rw[yo _ omg_];simp[hu]
 have wA:∀i u,vals[i]? = B u->γ0 vals (i*64+63)=u:=by intro i u hu;simp only[γ0];rw[show (i*64+63)/64=i by omega];simp[hu]
 have fT:∀k b,(St.init args).bx k = .live b->∃i x u,args[i]? = B x/\vals[i]? = B u/\pO S w x u/\((k=i*64/\ob (B x) = .live b)\/(k=i*64+63/\vB (B x) = .live b)):=by
  intro k b hb;simp only[St.init]at hb;split at hb
  .rename_i hk;cases hx:args[k/64]? with
   |none=>simp[hx,ob]at hb
   |some x=>obtain⟨u,hu,jE⟩:=ha.get _ x hx;exact⟨k/64,x,u,hx,hu,jE,.inl ⟨omg_,by rw[hx]at hb;exact hb⟩⟩
  .split at hb
   .rename_i hk;cases hx:args[k/64]? with
    |none=>simp[hx,vB]at hb
    |some x=>obtain⟨u,hu,jE⟩:=ha.get _ x hx;exact⟨k/64,x,u,hx,hu,jE,.inr ⟨omg_,by rw[hx]at hb;exact hb⟩⟩
   .simp at hb
 have tG:∀{x:Arg}{b:Bx},vB (B x) = .live b->∃e t xs,x = .mv e ⟨.list t,xs⟩/\b = .lst e t xs false:=by
  intro x b hb;cases x with
  |mv e y=>obtain⟨t,v⟩:=y;cases t<;>simp[vB]at hb;exact⟨_,_,_,rfl,hb.symm⟩
  |_=>simp[vB]at hb
 have ED:∀i x,args[i]? = B x->(St.init args).bx (i*64+63)=vB (B x):=by intro i x hx;simp only[St.init];rw[if_neg omg_,if_pos omg_,show (i*64+63)/64=i by omega,hx]
 have EE:∀i x,args[i]? = B x->(St.init args).bx (i*64)=ob (B x):=by intro i x hx;simp only[St.init];rw[if_pos omg_,yo _ omg_,hx]
 have hblk:∀x u b,ob (B x) = .live b->mD x u=blk u:=by intro x u b hb;cases x<;>first|rfl|simp[ob]at hb
 refine⟨⟨?_,rfl,?_,?_,?_,?_,λ_ _ h=>h,λ_ _ h=> .inl h,hS,λ_ _ _=>rfl,jn _,rfl,rfl,rfl,?_,λg o h=>by simp[sa]at h,λi v h=>by simp[sa]at h⟩,?_⟩
 .simp;omega
 .intro i
  have dS:(St.init args).sl i=match args[i]? with
   |some a=> .one (HG i a)
   |none=> .one (.one .dead):=rfl
  rw[dS];cases hx:args[i]? with
  |none=>exact⟨trivial,λh=>absurd rfl h⟩
  |some x=>
   obtain⟨u,hu,jE⟩:=ha.get i x hx;show cm S w (γ0 vals) (St.init args).bx (HG i x) _;rw[Ay i u hu];have hb:=EE i x hx;cases x with
   |v x=>exact Ce jE
   |ref ls=>obtain⟨g,cur,e,h1,_⟩:=id jE;exact⟨⟨by rw[hb];simp[ob],by rw[h1];rfl,λb _=>⟨g,(kP i u hu).trans h1,h1⟩⟩,λ_=>by rw[h1];rfl⟩
   |rl e x=>obtain⟨t,xs,rfl,cV,_⟩:=id jE;have dm:One u:=cV.one;exact⟨⟨by rw[hb];simp[ob],dm,λb _=>(kP i u hu).symm⟩,λ_=>dm⟩
   |ip ls=>obtain⟨g,o,cs,h1,_⟩:=id jE;exact⟨jE,λ_=>by rw[h1];rfl⟩
   |clo f bN=>obtain⟨cv,h1,_⟩:=id jE;exact⟨jE,λ_=>by rw[h1];rfl⟩
   |mv e x=>obtain⟨t,xs,rfl,cV,_⟩:=id jE.1;have dm:One u:=cV.one;have aW:=ED i _ hx;exact⟨⟨by rw[aW];simp[vB],dm,λb _=>(wA i u hu).symm⟩,λ_=>dm⟩
 .intro k b hb;obtain⟨i,x,u,hx,hu,jE,⟨rfl,cL⟩|⟨rfl,cL⟩⟩:=fT k b hb
  .cases x with
   |ref ls=>simp only[ob,BS.live.injEq]at cL;subst cL;exact Mz (kP i u hu) jE
   |rl e x=>obtain⟨t,xs,rfl,_⟩:=id jE;simp only[ob,BS.live.injEq]at cL;subst cL;exact Cd (kP i u hu) jE
   |_=>simp[ob]at cL
  .obtain⟨e,t,xs,rfl,rfl⟩:=tG cL;exact Cd (wA i u hu) jE.1
 .intro k b g hb hg;obtain⟨i,x,u,hx,hu,jE,⟨rfl,cL⟩|⟨rfl,cL⟩⟩:=fT k b hb
  .rw[kP i u hu,<-hblk x u b cL]at hg;refine .inr ⟨EC hx hu hg,?_⟩;have:i<args.length:=(ka.1 hx).1;simp[parK];omega
  .obtain⟨e,t,xs,rfl,rfl⟩:=tG cL;rw[wA i u hu]at hg;exact .inl (.inr ⟨WR hx hu hg,EC (x:= .mv e ⟨.list t,xs⟩) hx hu hg⟩)
 .intro k k' b b' g bz hb aW hg aL
  have WS:∀k b g,(St.init args).bx k = .live b->blk (γ0 vals k)=B g->∃i x u,args[i]? = B x/\vals[i]? = B u/\mD x u=B g/\((k=i*64/\ob (B x) = .live b)\/(k=i*64+63/\vB (B x) = .live b)):=by
   intro k b g hb hg;obtain⟨i,x,u,hx,hu,jE,⟨rfl,cL⟩|⟨rfl,cL⟩⟩:=fT k b hb
   .rw[kP i u hu,<-hblk x u b cL]at hg;exact⟨i,x,u,hx,hu,hg,.inl ⟨rfl,cL⟩⟩
   .obtain⟨e,t,xs,rfl,rfl⟩:=tG cL;rw[wA i u hu]at hg;exact⟨i,_,u,hx,hu,hg,.inr ⟨rfl,cL⟩⟩
  obtain⟨i,x,u,hx,hu,h1,h2⟩:=WS k b g hb hg;obtain⟨j,y,v,hy,hv,h3,h4⟩:=WS k' b' g aW aL;have dP:=WQ ew hx hu hy hv h1 h3;subst dP;rw[hx]at hy;cases hy;rcases h2 with⟨rfl,h2⟩|⟨rfl,h2⟩<;>rcases h4 with⟨rfl,h4⟩|⟨rfl,h4⟩
  .exact bz rfl
  .obtain⟨e,t,xs,rfl,rfl⟩:=tG h4;simp[ob]at h2
  .obtain⟨e,t,xs,rfl,rfl⟩:=tG h2;simp[ob]at h4
  .exact bz rfl
 .intro k v hv;simp only[sa,EB]at hv;split at hv
  .rename_i hk;split at hv
   .rename_i x hx;split at hv
    .rename_i hr;have hi:k/64<args.length:=(ka.1 hx).1;have bH:k=(k/64)*64:=omg_;refine⟨by simp[parK,hk];omega,?_,?_⟩
     .rw[bH,EE _ x hx];cases x with
      |rl e y=>obtain⟨u,hu,jE⟩:=ha.get _ _ hx;obtain⟨t,xs,rfl,_⟩:=jE;simp[ob]
      |ref ls=>simp[ob]
      |_=>simp[AH]at hr
     .rw[bH];exact kP _ v hv
    .simp at hv
   .simp at hv
  .simp at hv
 .intro i;show ((match args[i]? with|some a=>Slot.one (HG i a)|none=> .one (.one .dead)):Slot).bare=X;split<;>rfl
theorem Nt{α β:Type}{P:Ä}(f:α->Sem β):∀{rs:H α}{zs:H β},All2 (λr z=>(f r).run P w = .ok z w) rs zs->(rs.mapM f).run P w = .ok zs w
 |[],[],_=>smp_
 |r::rs,z::zs,h=>by
  simp only[List.mapM_cons,æ,h.1,Ñ,Nt f h.2,ç]
 |[],_::_,h=>h.elim
 |_::_,[],h=>h.elim
def Uns(b:Bx):Prop:=(∃ls,b = .cell ls U)\/∃e t xs,b = .lst e t xs U
theorem Nu{P:Ä}{E:Env}(hT:db P E.T)(hR:Rel N np S0 w0 refs σ a w S γ){r:Ò}{c:Cel}(h:BZ E σ r=B c) :
  ∃z,((match r with
   |.tmp t=>pure (a.tmps.getD t undef)
   |.cell x t=>do loadVar t (<-asAddr (a.tmps.getD x undef)):Sem Y)).run P w = .ok z w/\cm S w γ σ.bx c z:=by
 cases r with
 |tmp t=>
  simp only[BZ]at h;split at h
  .rename_i c' hc;simp only[j5]at h;subst h;have:=hR.slot t;rw[hc]at this;exact⟨_,smp_,this⟩
  .simp at h
 |cell x t=>
  simp only[BZ]at h;split at h
  .rename_i ti y ht hy;have:=hR.slot x;rw[hy]at this;obtain⟨z,hz,kN⟩:=UH hT hR (RdR.msk λ_=> .inl rfl) ht h this.1;refine⟨z,?_,kN⟩;show (do loadVar t (<-asAddr (a.tmps.getD x undef)):Sem Y).run P w=_
   have hu:∃ad,a.tmps.getD x undef = .pointer (B ad):=by
    generalize a.tmps.getD x undef=u at hz
    cases u with
    |pointer o=>
     cases o with
     |some ad=>exact⟨ad,rfl⟩
     |none=>simp[è,Ý]at hz
    |_=>simp[è,Ý]at hz
   obtain⟨ad,hu⟩:=hu;rw[hu]at hz ⊢;simpa[è,Ý,asAddr]using hz
  .simp at h
theorem Iy{rd:G->BS}(hR:Rel N np S0 w0 refs σ a w S γ)(bj:RdF np σ rd):∀{ks:H SoK}{ls:H Leaf}{r:H RL}{n:H G}{v:Ups}{zs:H Y},soOf rd ks ls=B (r,n,v)->
  All2 (bZ S w γ σ.bx) ls zs->(∀z∈zs,One z)->FrzL np σ.bx v/\(∀k∈n,(∃b,σ.bx k = .live b/\Uns b)/\parK np k=U)/\pQ r zs=(n.filterMap λk=>blk (γ k))/\
   ∀S',dK S w S' w->Froz σ.bx γ S' w v->(∀k∈n,∀g,blk (γ k)=B g->∀o,¬S' g o)->All2 (H6 S' w) r zs
 |[],[],r,n,v,zs,h,ha,h1=>by
  simp[soOf]at h;obtain⟨rfl,rfl,rfl⟩:=h;cases zs with
  |nil=>exact⟨.nil,smp_,rfl,λ_ _ _ _=>trivial⟩
  |cons _ _=>exact ha.elim
 |.d t::ks,l::ls,r,n,v,zs,h,ha,h1=>by
  cases zs with
  |nil=>exact ha.elim
  |cons z zs=>
  simp only[soOf]at h;split at h
  .rename_i x u r' n' v' hx hr;cases gq:t.leafy with
   |false=>rw[gq]at h;simp at h
   |true=>
   rw[gq,j6]at h;simp only[j5,j9]at h;obtain⟨rfl,rfl,rfl⟩:=h;obtain⟨f1,p1⟩:=xy bj hR.box hx ha.1;obtain⟨f2,k2,b2,p2⟩:=Iy hR bj hr ha.2 (λy hy=>h1 y (by simp[hy]));refine⟨FrzL.app.2 ⟨f1,f2⟩,k2,by simp[pQ,b2],λS' aQ dY hn=>?_⟩;obtain⟨g1,g2⟩:=Froz.app.1 dY;exact⟨⟨h1 z smp_,p1 S' w aQ g1⟩,p2 S' aQ g2 hn⟩
  .simp at h
 |.own e t::ks,l::ls,r,n,v,zs,h,ha,h1=>by
  cases zs with
  |nil=>exact ha.elim
  |cons z zs=>
  cases l with
  |nil=>
   simp only[soOf]at h;split at h
   .rename_i r' n' v' hr;cases hm:isM e with
    |true=>rw[hm]at h;simp at h
    |false=>
    rw[hm,j7]at h;simp only[j5,j9]at h;obtain⟨rfl,rfl,rfl⟩:=h;have hz:z = .slice À 0 0:=ha.1;subst hz;obtain⟨f2,k2,b2,p2⟩:=Iy hR bj hr ha.2 (λy hy=>h1 y (by simp[hy]));refine⟨f2,k2,by simp[pQ,blk,b2],λS' aQ dY hn=>⟨⟨t,[],rfl,.inl ⟨hm,[],⟨smp_,.inl ⟨rfl,rfl⟩⟩,trivial⟩,λg hg=>by simp[blk]at hg⟩,p2 S' aQ dY hn⟩⟩
   .simp at h
  |ol k=>
   simp only[soOf]at h;split at h
   .rename_i e' b xs hk;cases he:Nat.beq e' e with
    |false=>rw[he]at h;simp at h
    |true=>
    rw[he,j6]at h;split at h
    .rename_i r' n' v' hr;simp only[j5,j9]at h;obtain⟨rfl,rfl,rfl⟩:=h;have hp:=bj.par hk;have hk:=bj.ok.live hk;have hz:=ha.1.2.2 _ hk;obtain⟨f2,k2,b2,p2⟩:=Iy hR bj hr ha.2 (λy hy=>h1 y (by simp[hy]));refine⟨f2,λk' bH=>?_,?_,λS' aQ dY hn=>⟨⟨b,xs,rfl,by rw[hz];exact(hR.box k _ hk).1.keep aQ (λ_ _=>rfl),λg hg=>hn k smp_ g (by rw[<-hz];exact hg)⟩,p2 S' aQ dY (λk' bH=>hn k' (by simp[bH]))⟩⟩
     .rcases je.1 bH with rfl|bH
      .exact⟨⟨_,hk,.inr ⟨_,_,_,rfl⟩⟩,hp⟩
      .exact k2 k' bH
     .simp only[pQ,hz,vk];rw[b2];cases blk (γ k)<;>rfl
    .simp at h
   .simp at h
  |_=>simp[soOf]at h
 |[],_::_,r,n,v,zs,h,_,_=>by simp[soOf]at h
 |.d _::_,[],r,n,v,zs,h,_,_=>by simp[soOf]at h
 |.own _ _::_,[],r,n,v,zs,h,_,_=>by simp[soOf]at h
theorem jFL{P:Ä}{E:Env}(hT:db P E.T)(hR:Rel N E.np S0 w0 refs σ a w S γ){rd:G->BS}(bj:RdF E.np σ rd){own:Æ}{t:G}{c:Cel}{v:RV}{ks:H G}{u:Ups}{z:Y}(h:rvOf E rd own t c=B (v,ks,u))(hc:cm S w γ σ.bx c z) :
  FrzL E.np σ.bx u/\(∀k∈ks,(∃b,σ.bx k = .live b/\Uns b)/\parK E.np k=U)/\nw v z=(ks.filterMap λk=>blk (γ k))/\
   ∀S',dK S w S' w->Froz σ.bx γ S' w u->(∀k∈ks,∀g,blk (γ k)=B g->∀o,¬S' g o)->rX S' w v z:=by
 unfold rvOf at h;split at h
 .rename_i k;split at h
  .rename_i ls hk;split at h
   .rename_i xs u1 h1;simp only[j5,j9]at h;obtain⟨rfl,rfl,rfl⟩:=h;have hp:=bj.par hk;have hk:=bj.ok.live hk;obtain⟨g,hg,hz⟩:=hc.1.2.2 _ hk;obtain⟨g',cur,e,aL,hh,eJ,_⟩:=hR.box k _ hk;rw[hg]at aL;simp at aL;subst aL;obtain⟨hf,xG⟩:=Cc bj h1 eJ;refine⟨hf,λk' bH=>by simp at bH;subst bH;exact⟨⟨_,hk,.inl ⟨_,rfl⟩⟩,hp⟩,?_,λS' aQ dY hn=>⟨g,cur,e,hz,hh,by rw[HI eJ (xG S' w aQ dY)];exact xG S' w aQ dY,?_⟩⟩
    .simp[nw,pP,hz,hg,blk]
    .exact hn k smp_ g (by rw[hg];rfl)
   .simp at h
  .simp at h
 .rename_i f bN;simp only[j5,j9]at h;obtain⟨rfl,rfl,rfl⟩:=h;obtain⟨⟨cv,hz,aA⟩,_⟩:=hc;exact⟨.nil,smp_,by simp[nw,pP],λS' aQ _ _=>⟨cv,hz,aA.mono λ_ _ h=>kL.keep aQ h⟩⟩
 .split at h
  .rename_i ti ht;split at h
   .rename_i ty bO;split at h
    .split at h
     .rename_i ls;split at h
      .rename_i r n u1 hso;simp only[j5,j9]at h;obtain⟨rfl,rfl,rfl⟩:=h;obtain⟨cs,hz,aA,dm⟩:=hc;subst hz;obtain⟨f1,k1,b1,p1⟩:=Iy hR bj hso aA dm;exact⟨f1,k1,b1,λS' aQ dY hn=>⟨cs,rfl,p1 S' aQ dY hn⟩⟩
      .simp at h
     .rename_i el df _;simp only[j5,j9]at h;obtain⟨rfl,rfl,rfl⟩:=h;have hz:z = .slice À 0 0:=hc.1;subst hz;exact⟨.nil,smp_,by simp[nw,pP,blk],λS' _ _ _=>⟨el,[],rfl,.inl ⟨LY hT ht,[],⟨smp_,.inl ⟨rfl,rfl⟩⟩,trivial⟩,λg hg=>by simp[blk]at hg⟩⟩
     .rename_i k df _;split at h
      .rename_i e el xs hk;simp only[j5,j9]at h;obtain⟨rfl,rfl,rfl⟩:=h;have hp:=bj.par hk;have ct:=bj.ok.nm hk;have hk:=bj.ok.live hk;have hz:=hc.1.2.2 _ hk;obtain⟨css,bd,aA,_⟩:=jZ ct (hR.box k _ hk);refine⟨.nil,λk' bH=>by simp at bH;subst bH;exact⟨⟨_,hk,.inr ⟨_,_,_,rfl⟩⟩,hp⟩,?_,λS' aQ _ hn=>⟨el,xs,rfl,by rw[hz];exact(hR.box k _ hk).1.keep aQ (λ_ _=>rfl),λg hg=>hn k smp_ g (by rw[<-hz];exact hg)⟩⟩;simp only[nw,pP,hz,vk,List.filterMap_nil];cases blk (γ k)<;>rfl
      .simp at h
     .simp at h
    .split at h
     .rename_i x u1 hx;simp only[j5,j9]at h;obtain⟨rfl,rfl,rfl⟩:=h;obtain⟨hf,hp,_⟩:=DD bj hR.box hx hc;exact⟨hf,smp_,by simp[nw,pP],λS' aQ dY _=>hp S' w aQ dY⟩
     .simp at h
   .simp at h
  .simp at h
theorem WT{P:Ä}{E:Env}(hT:db P E.T)(hR:Rel N E.np S0 w0 refs σ a w S γ):∀{os:H Æ}{rs:H Ò}{ts:H G}{vs:H RV}{ks:H G}{u:Ups},vC E σ os rs ts=B (vs,ks,u)->
  ∃zs,All2 (λ(r:Ò) z=>((match r with
   |.tmp t=>pure (a.tmps.getD t undef)
   |.cell x t=>do loadVar t (<-asAddr (a.tmps.getD x undef)):Sem Y)).run P w = .ok z w) rs zs/\
  FrzL E.np σ.bx u/\(∀k∈ks,(∃b,σ.bx k = .live b/\Uns b)/\parK E.np k=U)/\gL vs zs=(ks.filterMap λk=>blk (γ k))/\
   ∀S',dK S w S' w->Froz σ.bx γ S' w u->(∀k∈ks,∀g,blk (γ k)=B g->∀o,¬S' g o)->All2 (rX S' w) vs zs
 |os,[],ts,vs,ks,u,h=>by
  simp[vC]at h;obtain⟨rfl,rfl,rfl⟩:=h;exact⟨[],trivial,.nil,smp_,rfl,λ_ _ _ _=>trivial⟩
 |os,r::rs,ts,vs,ks,u,h=>by
  simp only[vC]at h;split at h
  .rename_i c hc;split at h
   .rename_i v k1 u1 hv;split at h
    .rename_i mV k2 u2 mX;simp only[j5,j9]at h;obtain⟨rfl,rfl,rfl⟩:=h;obtain⟨z,hz,kN⟩:=Nu hT hR hc;obtain⟨f1,p1,n1,r1⟩:=jFL hT hR (D9 (RdR.msk λ_=> .inl rfl)) hv kN;obtain⟨zs,lP,f2,p2,n2,r2⟩:=WT hT hR mX;refine⟨z::zs,⟨hz,lP⟩,FrzL.app.2 ⟨f1,f2⟩,λk hk=>?_,?_,λS' aQ dY hn=>?_⟩
     .rcases jj.1 hk with hk|hk
      .exact p1 k hk
      .exact p2 k hk
     .simp[gL,n1,n2]
     .obtain⟨g1,g2⟩:=Froz.app.1 dY;exact⟨r1 S' aQ g1 (λk hk=>hn k (by simp[hk])),r2 S' aQ g2 (λk hk=>hn k (by simp[hk]))⟩
    .simp at h
   .simp at h
  .simp at h
theorem Nv(hR:Rel N np S0 w0 refs σ a w S γ):∀{as:H Arg}{us:H Y}{i:G}{os:H Out}{u:Ups},outs np σ i as=B (os,u)->as.length=us.length->
  (∀(j:G)(x:Arg)(v:Y),as[j]? = B x->us[j]? = B v->AH x=X->γ ((i+j)*64)=v)->
  FrzL np σ.bx u/\∀S',dK S w S' w->Froz σ.bx γ S' w u->(∀(j:G)(x:Arg)(v:Y)(g:G),as[j]? = B x->us[j]? = B v->AH x=X->(∃b,σ.bx ((i+j)*64) = .live b/\Uns b)->blk v=B g->∀o,¬S' g o)->mY S' w as us os
 |[],us,i,os,u,h,hl,_=>by
  simp[outs]at h;obtain⟨rfl,rfl⟩:=h;cases us with
  |nil=>exact⟨.nil,λ_ _ _ _=>trivial⟩
  |cons _ _=>simp at hl
 |x::as,[],i,os,u,h,hl,_=>by simp at hl
 |x::as,v::us,i,os,u,h,hl,hg=>by
  simp only[outs]at h;split at h
  .rename_i oq u' h'
   obtain⟨f1,r1⟩:=Nv hR (i:=i+1) h' (by simpa using hl) (λj y z hy hz hr=>by
    have:=hg (j+1) y z (by simpa using hy) (by simpa using hz) hr;rwa[show i+1+j=i+(j+1) by omega])
   have eO:∀S',dK S w S' w->Froz σ.bx γ S' w u'->(∀(j:G)(x':Arg)(v':Y)(g:G),(x::as)[j]? = B x'->(v::us)[j]? = B v'->AH x'=X->(∃b,σ.bx ((i+j)*64) = .live b/\Uns b)->blk v'=B g->∀o,¬S' g o)->mY S' w as us oq:=by intro S' aQ dY hn;refine r1 S' aQ dY (λj y z g hy hz hr hb hgz=>?_);exact hn (j+1) y z g (by simpa using hy) (by simpa using hz) hr (by rwa[show i+(j+1)=i+1+j by omega]) hgz
   split at h
   .rename_i ls;have AJ:γ (i*64)=v:=hg 0 _ v rfl rfl rfl;split at h
    .rename_i gn hb;split at h
     .rename_i xs u2 hx;simp only[j5,j9]at h;obtain⟨rfl,rfl⟩:=h;obtain⟨g,cur,e,h1,h2,h3,_⟩:=hR.box _ _ hb;obtain⟨f2,r2⟩:=Cc (D9 (RdR.msk λ_=> .inl rfl)) hx h3;refine⟨FrzL.app.2 ⟨f2,f1⟩,λS' aQ dY hn=>?_⟩;obtain⟨g1,g2⟩:=Froz.app.1 dY;have WU:v = .pointer (B ⟨g,0,À⟩):=by rw[<-AJ];exact h1
      exact⟨⟨g,cur,e,WU,h2,by rw[HI h3 (r2 S' w aQ g1)];exact r2 S' w aQ g1,hn 0 _ v g rfl rfl rfl ⟨_,hb,.inl ⟨gn,rfl⟩⟩ (by rw[WU];rfl)⟩,eO S' aQ g2 hn⟩
     .simp at h
    .simp at h
   .rename_i e y;have AJ:γ (i*64)=v:=hg 0 _ v rfl rfl rfl;split at h
    .rename_i e' t xs hb;split at h
     .rename_i eN;obtain⟨rfl,Cw⟩:=eN;simp only[j5,j9]at h;obtain⟨rfl,rfl⟩:=h;have bd:=(hR.box _ _ hb).1;rw[AJ]at bd;refine⟨f1,λS' aQ dY hn=>⟨⟨t,xs,rfl,bd.keep aQ (λ_ _=>rfl),λg aL=>hn 0 _ v g rfl rfl rfl ⟨_,hb,.inr ⟨_,t,xs,rfl⟩⟩ aL⟩,Cw.symm,eO S' aQ dY hn⟩⟩
     .simp at h
    .simp at h
   .rename_i Nw Nx;simp only[j5,j9]at h;obtain⟨rfl,rfl⟩:=h;refine⟨f1,λS' aQ dY hn=>?_⟩;have:=eO S' aQ dY hn;cases x with
    |ref ls=>exact absurd rfl (Nw ls)
    |rl e y=>exact absurd rfl (Nx e y)
    |_=>exact this
  .simp at h
theorem WV{x:Arg}{u:Y}{g:G}(h:pO S w x u)(hr:mD x u=B g):∀o,¬S g o:=by
 cases x with
 |ref ls=>obtain⟨g',cur,e,h1,_,_,h4⟩:=h;have vO:blk u=B g:=hr;rw[h1]at vO;simp[blk]at vO;subst vO;exact h4
 |rl e y=>obtain⟨t,xs,_,_,h4⟩:=h;exact h4 g hr
 |mv e y=>obtain⟨⟨t,xs,_,_,h4⟩,_⟩:=h;exact h4 g hr
 |_=>simp[mD]at hr
theorem Ny:∀{as:H Arg}{us:H Y}{g:G},g∈eu as us->∃(i:G)(x:Arg)(u:Y),as[i]? = B x/\us[i]? = B u/\mD x u=B g
 |[],_,_,h=>by simp[eu]at h
 |_::_,[],_,h=>by simp[eu]at h
 |x::as,u::us,g,h=>by
  simp only[eu,jj,Option.mem_toList]at h;rcases h with h|h
  .exact⟨0,x,u,rfl,rfl,h⟩
  .obtain⟨i,y,v,h1,h2,h3⟩:=Ny h;exact⟨i+1,y,v,by simpa using h1,by simpa using h2,h3⟩
theorem WW(zs:H Y):(if h:zs.toArray.size=1 then zs.toArray[0] else .tuple zs.toArray)=uL zs:=by
 match zs with
 |[]=>rfl
 |[z]=>rfl
 |z::z'::zs=>simp[uL]
theorem jBY{P:Ä}{E:Env}(hT:db P E.T)(hR:Rel N np S0 w0 refs σ a w S γ){rs:H Ò}{vs mV:H RV}{zs:H Y}
  (lP:All2 (λ(r:Ò) z=>((match r with
   |.tmp t=>pure (a.tmps.getD t undef)
   |.cell x t=>do loadVar t (<-asAddr (a.tmps.getD x undef)):Sem Y)).run P w = .ok z w) rs zs) (h:nilV E σ rs vs=B mV) :
  (∀S' w',All2 (rX S' w') vs zs->All2 (rX S' w') mV zs)/\gL mV zs=gL vs zs/\∀m,mV=[.hd m]->vs=[.hd m]:=by
 unfold nilV at h;split at h
 .simp only[j5]at h;subst h;exact⟨λ_ _ h=>h,rfl,λ_ h=>h⟩
 .split at h
  .rename_i r x;split at h
   .rename_i ls hc;split at h
    .rename_i hn;simp only[j5]at h;subst h;obtain⟨z,hz,kN⟩:=Nu hT hR hc;cases zs with
     |nil=>exact lP.elim
     |cons z' zs=>
      cases zs with
      |cons _ _=>exact lP.2.elim
      |nil=>
       have vL:z'=z:=by have h1:=hz.symm.trans lP.1;simp only[Result.ok.injEq]at h1;exact h1.1.symm
       subst vL;obtain⟨cs,hu,aA,_⟩:=kN;refine⟨λS' w' hv=>⟨⟨hv.1,λvX o9 i hi z hzi=>?_⟩,trivial⟩,rfl,λm hm=>by simp at hm⟩;rw[hu]at o9;simp only[Value.agg.injEq]at o9;subst o9;have hl:=kj.1 hn i hi;cases Nz:ls[i]? with
       |none=>rw[Nz]at hl;simp at hl
       |some l=>rw[Nz]at hl;obtain⟨z2,NA,oO⟩:=aA.get i l Nz;rw[hzi]at NA;simp only[j5]at NA;subst NA;cases l<;>first|exact oO|simp at hl
    .simp at h
   .simp at h
  .simp at h
theorem jqS{E:Env}{os:H Æ}{rs:H Ò}{ts:H G}{vs:H RV}{ks:H G}{u:Ups}(h:vC E σ os rs ts=B (vs,ks,u))(m:G):vs≠[.hd m]:=by
 cases rs with
 |nil=>simp[vC]at h;rw[<-h.1];simp
 |cons r rs=>
  simp only[vC]at h;split at h
  .split at h
   .rename_i v k1 u1 hv;split at h
    .simp only[j5,j9]at h;rw[<-h.1];intro he;have:v = .hd m:=by simpa using (List.cons.inj he).1
     subst this;unfold rvOf at hv;split at hv
     .split at hv
      .split at hv<;>simp at hv
      .simp at hv
     .simp at hv
     .split at hv
      .split at hv
       .split at hv
        .split at hv
         .split at hv<;>simp at hv
         .simp at hv
         .split at hv<;>simp at hv
         .simp at hv
        .split at hv<;>simp at hv
       .simp at hv
      .simp at hv
    .simp at h
   .simp at h
  .simp at h
theorem jFM{P:Ä}{E:Env}(hT:db P E.T){fn:Func}{args:H Arg}{vals:H Y}{σ':St}{a':Â}{w':Z}{S':aY}{γ':G->Y}(hR:Rel N E.np S w (sa args vals) σ' a' w' S' γ')
  (ha:All2 (pO S w) args vals)(hS:∀g o,S g o->g<w.heap.size)(Iz:E.hd=X){ret:Ret}(cX:zS E fn args σ'=B ret){R:Type}{k:Ret->O R}{r:R}(hk:k ret=B r) :
  ∃v,(results fn a'.tmps).run P w' = .ok v w'/\∃ret,k ret=B r/\∃v' S' vs,Î v = .returned v'/\Mx w S args vals ret v' w' S' vs:=by
 have fq:∀(j:G)(x:Arg)(v:Y),args[j]? = B x->vals[j]? = B v->AH x=X->γ' ((0+j)*64)=v:=by intro j x v hx hv hr;refine(hR.par ((0+j)*64) v ?_).2.2;simp only[sa,EB];rw[if_pos omg_,yo _ omg_,ki,hx];simp[hr,hv]
 unfold zS at cX;rw[if_pos Iz]at cX;unfold Uq at cX;split at cX
 .rename_i e x as r0 nL;split at cX
  .rename_i l os u' hc rY;split at cX
   .rename_i m hm;simp only[j5]at cX;subst cX;obtain⟨z,hz,kN⟩:=Nu (P:=P) hT hR hc;obtain⟨f2,r2⟩:=Nv hR rY ha.length fq;obtain⟨S2,dA,dp,sV,dG⟩:=qN u' σ' S' hR f2;cases vals with
    |nil=>exact ha.elim
    |cons v0 vs0=>
    have h0:γ' 0=v0:=by have:=fq 0 _ v0 rfl rfl rfl;simpa using this
    have mE:∀k,parK E.np k=X->u'.any (λy=>y.1==k)=false:=by intro k hk;rw[za];intro y hy he;simp only[zr]at he;have:=(f2 y hy).1;rw[he,hk]at this;simp at this
    have qS:∀k b,u'.any (λy=>y.1==k)=U->σ'.bx k = .live b->Uns b->∀g,blk (γ' k)=B g->∀o,¬S2 g o:=by
     intro k b hk hb ny g hg o;have fv:(σ'.upd u').bx k = .live b:=(oJ _ _ hk).trans hb;have cL:=dA.box k b fv;rcases ny with⟨ls,rfl⟩|⟨e,t,xs,rfl⟩
     .obtain⟨g',cur,e,aL,_,_,_,hS,_⟩:=cL;rw[aL]at hg;simp[blk]at hg;subst hg;exact hS rfl o
     .exact(cL.2 g hg).1 rfl o
    have fV:=r2 S2 dp sV (λj x v g hx hv hr NB hg=>by
     obtain⟨b,hb,hu⟩:=NB;have hp:parK E.np ((0+j)*64)=true:=by refine(hR.par ((0+j)*64) v ?_).1;simp only[sa,EB];rw[if_pos omg_,yo _ omg_,ki,hx];simp[hr,hv]
     exact qS ((0+j)*64) b (mE _ hp) hb hu g (by rw[fq j x v hx hv hr];exact hg))
    have dm:One z:=kN.2 (by rintro rfl;simp[hdOf]at hm)
    have ta:∃ad len cap,v0 = .slice ad len cap/\m<=len/\z = .slice ad m cap:=by
     unfold hdOf at hm;split at hm
     .split at hm
      .rename_i e1 t1 H5 hb;split at hm
       .simp at hm
       .rename_i ct;simp only[j5]at hm;subst hm;obtain⟨css,bd,_⟩:=jZ (by simpa using ct) (hR.box 0 _ hb);have vL:=kN.1.2.2 _ hb;rcases bd.2 with⟨hg,hn⟩|⟨g,cap,cur,hg,_⟩
        .exact⟨À,0,0,by rw[<-h0,hg],omg_,by rw[vL,hg,hn]⟩
        .exact⟨_,_,cap,by rw[<-h0,hg],jn _,by rw[vL,hg]⟩
      .simp at hm
     .split at hm
      .rename_i i e1 t1 H5 hb;simp only[j5]at hm;subst hm;obtain⟨_,hi,ad,cap,hg,vL⟩:=kN.1.2.2 _ hb;exact⟨ad,_,cap,by rw[<-h0,hg],hi,vL⟩
      .simp at hm
     .simp at hm
    have aS:(results fn a'.tmps).run P w' = .ok (uL [z]) w':=by
     have hm:=Nt (P:=P) (w:=w') (rs:=[r0]) (zs:=[z]) (λr=>((match r with
      |.tmp t=>pure (a'.tmps.getD t undef)
      |.cell x t=>do loadVar t (<-asAddr (a'.tmps.getD x undef)):Sem Y))) ⟨hz,trivial⟩
     unfold results;rw[Ó,nL];simp only[æ,ú]
     erw [hm]
     simp only[Ñ,ç];exact jo (Result.ok · w') (WW [z])
    refine⟨uL [z],aS,⟨[.hd m],os⟩,hk,uL [z],S2,[z],rfl,⟨rfl,⟨dm,trivial⟩,λg hg=>by simp[gL,pP,nw]at hg,by simp[gL,pP,nw],fV,λg o hs=>⟨dA.ext g o hs,?_⟩,λg o h=>(dA.new g o h).imp id (λh=>h.imp id And.left),dA.here,dA.below,dA.grow,dA.os,dA.tape,dA.output,?_⟩⟩
    .refine É (dA.below g (hS g o hs) (λhm=>?_));obtain⟨i,x,v,hx,hv,hb⟩:=Ny hm;obtain⟨v',h9,NC⟩:=ha.get i x hx;rw[hv]at h9;simp at h9;subst h9;exact WV NC hb o hs
    .intro m' kS;have:m'=m:=by simpa using kS.symm
     subst this;obtain⟨ad,len,cap,h1,h2,h3⟩:=ta;exact⟨ad,len,cap,by rw[h1];rfl,h2,by rw[h3]⟩
   .simp at cX
  .simp at cX
 .simp at cX
theorem ND{P:Ä}{fn:Func}{n:G}{R:Ending->Z->Prop}:∀(ds:H Deferred){refs:Refs}{σ:St}{a:Â}{w:Z}{S:aY}{γ:G->Y},refs.ds=ds->Ev w0 refs->Rel N np S0 w0 refs σ a w S γ->
  (∀w2,Rel N np S0 w0 ⟨refs.blks,refs.val,[],λ_=>À,λ_=>À,refs.mv⟩ σ { a with defers:=[] } w2 S γ->LeavesIn (FR À) n P fn a.tmps R [] .returning w2)->LeavesInM (FR À) n P fn a.tmps R ds .returning w
 |[],refs,σ,a,w,S,γ,hd,hm,hR,h=>h w (hR.swap rfl rfl hR.size rfl hR.slot (λg o h=>by simp at h) (λi v h=>by simp at h))
 |d::ds,refs,σ,a,w,S,γ,hd,hm,hR,h=>by
  obtain⟨ew,aA⟩:=hm;rw[hd]at ew;obtain⟨D,rfl,h1,h2⟩:=aA d (by rw[hd];simp);refine⟨smp_,.inl ⟨D,_,rfl,run_takeDeferred (hR.kept D _ h2).1,?_⟩⟩;have bV:=hR.putO (o':= .deferred À) h2 h1 rfl rfl
  have dA:=bV.swap (a':={ a with defers:=ds }) (refs':=⟨refs.blks,refs.val,ds,λg=>if g=D then À else refs.kw g,refs.fix,refs.mv⟩) rfl rfl hR.size rfl bV.slot (λg o hg=>bV.kept g o (by
   simp only at hg ⊢;split at hg
   .simp at hg
   .rename_i e;rw[if_neg e];exact hg)) bV.fix
  refine ND (a:={ a with defers:=ds }) (refs:=⟨refs.blks,refs.val,ds,λg=>if g=D then À else refs.kw g,refs.fix,refs.mv⟩) ds rfl ⟨(zh.1 ew).2,λd' gU=>?_⟩ dA (λw2 hw=>h w2 hw);obtain⟨D',rfl,q1,q2⟩:=aA d' (by rw[hd];simp[gU]);refine⟨D',rfl,q1,?_⟩;show (if D'=D then À else refs.kw D')=_;rw[if_neg,q2]
  rintro rfl
  exact(zh.1 ew).1 gU
theorem WX{P:Ä}{E:Env}(hT:db P E.T)(hC:oo P E.C)(hF:CFun E.C)(mM:P.follows .mixedOrders=X){f:G}{fn:Func}{c:Ï}(hf:P.funcs[f]? = B fn)(hb:fn.body=B c)(hN:fn.ntmps=E.N.n)(tw:E.N.pin=λ_=>U)(AF:∀f t,E.bw f=B t->BwK P f t)(AK:E.np<=E.N.n)
  (ct : (fn.name == "runtime.NumGoroutine") = U) (hL : ∀ x ∈ ik 0 c, Eu E x.1 x.2) : FnOK P f (fun args _ k => vD E fn args k) := by
 intro args R k r h;refine⟨⟨fn,hf,by rw[hb];rfl,ct⟩,?_⟩;intro w S vals ha ew hS;by_cases hlen:args.length=E.np
 case neg=>simp[vD,hlen]at h
 case pos=>
 simp only[vD,hb,hlen,if_true]at h;have vU:vals.length=E.np:=by rw[<-ha.length,hlen]
 obtain⟨hR0,jB⟩:=jBX (N:=E.N) ha ew hS hlen AK;refine jEx (n:=0) (ro:=À) (callsIn_of_wp_marks hf hb trivial ?_);rw[hN];refine wpIn_mono (jxH mM c (ro:=À) hT hC hF AF (.inr ⟨rfl,tw⟩) 0 0 ⟨vq,λd hd=>by simp[sa]at hd⟩ hL hR0 jB h) ?_
 rintro e a0 w1 ⟨refs',ex,σ',S',γ',hle,_,rfl,bV,dH,hk⟩
 have ee:∀(hk:(match zS E fn args σ' with|some r=>k r|none=>À)=B r)(w':Z),Rel E.N E.np S w ⟨refs'.blks,refs'.val,[],λ_=>À,λ_=>À,refs'.mv⟩ σ' { a0 with defers:=[] } w' S' γ'->∃v,(results fn a0.tmps).run P w' = .ok v w'/\
   ∃ret,k ret=B r/\∃v' S' vs,Î v = .returned v'/\Mx w S args vals ret v' w' S' vs:=by
  intro hk w' hR;have hR:Rel E.N E.np S w (sa args vals) σ' { a0 with defers:=[] } w' S' γ':=hR.swap hle.blks.symm hle.val.symm hR.size rfl hR.slot (λg o h=>by simp[sa]at h) (λi v h=>by simp[sa]at h) hle.mv.symm;generalize wB:({ a0 with defers:=[] }:Â)=a' at hR;have ot:a0.tmps=a'.tmps:=by rw[<-wB]
  rw[ot];cases cX:zS E fn args σ' with
  |none=>simp[cX]at hk
  |some ret=>
  simp only[cX]at hk;by_cases Iz:E.hd=X
  .exact jFM hT hR ha hS Iz cX hk
  have AL:∃vs ks u os u',vC E σ' E.ro fn.results.toList fn.resultTypes.toList=B (vs,ks,u)/\outs E.np σ' 0 args=B (os,u')/\
    rN ks=X/\(u++u').all (λe=> !ks.contains e.1)=X/\∃mV,nilV E σ' fn.results.toList vs=B mV/\ret=⟨mV,os⟩:=by
   unfold zS at cX;rw[if_neg Iz]at cX;split at cX
   .rename_i vs ks u os u' mX rY;split at cX
    .rename_i eN;split at cX
     .rename_i mV AM;simp only[j5]at cX;simp only[jg]at eN;exact⟨vs,ks,u,os,u',mX,rY,eN.1,eN.2,mV,AM,cX.symm⟩
     .simp at cX
    .simp at cX
   .simp at cX
  obtain⟨vs,ks,u,os,u',mX,rY,uH,An,mV,AM,rfl⟩:=AL;obtain⟨zs,lP,f1,p1,n1,r1⟩:=WT hT hR mX;have fQ:(∀S' w',All2 (rX S' w') vs zs->All2 (rX S' w') mV zs)/\gL mV zs=gL vs zs/\∀m,mV=[.hd m]->vs=[.hd m]:=jBY hT hR lP AM;have fq:∀(j:G)(x:Arg)(v:Y),args[j]? = B x->vals[j]? = B v->AH x=X->γ' ((0+j)*64)=v:=by intro j x v hx hv hr;refine(hR.par ((0+j)*64) v ?_).2.2;simp only[sa,EB];rw[if_pos omg_,yo _ omg_,ki,hx];simp[hr,hv]
  obtain⟨f2,r2⟩:=Nv hR rY ha.length fq;obtain⟨S2,dA,dp,sV,dG⟩:=qN (u++u') σ' S' hR (FrzL.app.2 ⟨f1,f2⟩);obtain⟨NF,NG⟩:=Froz.app.1 sV
  have qS:∀k b,(u++u').any (λy=>y.1==k)=U->σ'.bx k = .live b->Uns b->∀g,blk (γ' k)=B g->∀o,¬S2 g o:=by
   intro k b hk hb ny g hg o;have fv:(σ'.upd (u++u')).bx k = .live b:=(oJ _ _ hk).trans hb;have cL:=dA.box k b fv;rcases ny with⟨ls,rfl⟩|⟨e,t,xs,rfl⟩
   .obtain⟨g',cur,e,aL,_,_,_,hS,_⟩:=cL;rw[aL]at hg;simp[blk]at hg;subst hg;exact hS rfl o
   .exact(cL.2 g hg).1 rfl o
  have wC:∀k∈ks,(u++u').any (λy=>y.1==k)=false:=by intro k hk;rw[za];intro y hy he;have:=kj.1 An y hy;simp only[zr]at he;rw[he]at this;simp[hk]at this
  have mE:∀k,parK E.np k=X->(u++u').any (λy=>y.1==k)=false:=by intro k hk;rw[za];intro y hy he;simp only[zr]at he;have:=(FrzL.app.2 ⟨f1,f2⟩ y hy).1;rw[he,hk]at this;simp at this
  have EF:=r1 S2 dp NF (λk hk g hg=>by
   obtain⟨⟨b,hb,hu⟩,_⟩:=p1 k hk;exact qS k b (wC k hk) hb hu g hg)
  have fV:=r2 S2 dp NG (λj x v g hx hv hr NB hg=>by
   obtain⟨b,hb,hu⟩:=NB;have hj:j<args.length:=(ka.1 hx).1;exact qS ((0+j)*64) b (mE _ (by simp[parK];omega)) hb hu g (by rw[fq j x v hx hv hr];exact hg))
  have aS:(results fn a'.tmps).run P w' = .ok (uL zs) w':=by
   have hm:=Nt (P:=P) (w:=w') _ lP;unfold results;rw[Ó];simp only[æ,ú]
   erw [hm]
   simp only[Ñ,ç];exact jo (Result.ok · w') (WW zs)
  have hnh:∀m,mV=[.hd m]->∃ad len cap,H7 args vals=B (.slice ad len cap)/\m<=len/\zs=[.slice ad m cap]:=λm hm=>by
   exact absurd (fQ.2.2 m hm) (jqS mX m)
  refine⟨uL zs,aS,⟨mV,os⟩,hk,uL zs,S2,zs,rfl,⟨rfl,fQ.1 _ _ EF,λg hg=>?_,?_,fV,λg o hs=>⟨dA.ext g o hs,?_⟩,λg o h=>(dA.new g o h).imp id (λh=>h.imp id And.left),dA.here,dA.below,dA.grow,dA.os,dA.tape,dA.output,hnh⟩⟩
  .rw[fQ.2.1,n1]at hg;obtain⟨k,bH,hkg⟩:=vu.1 hg;obtain⟨⟨b,hb,_⟩,hp⟩:=p1 k bH;rcases hR.own k b g hb hkg with h|h
   .exact h.imp id And.left
   .rw[hp]at h;simp at h
  .rw[fQ.2.1,n1];exact My hR (H9 uH) (λk bH=>by obtain⟨⟨b,hb,_⟩,_⟩:=p1 k bH;exact⟨b,hb⟩)
  .refine É (dA.below g (hS g o hs) (λhm=>?_));obtain⟨i,x,v,hx,hv,hb⟩:=Ny hm;obtain⟨v',h9,NC⟩:=ha.get i x hx;rw[hv]at h9;simp at h9;subst h9;exact WV NC hb o hs
 cases ex with
 |exit i=>simp at hk
 |normal=>exact ND a0.defers bV.defers.symm hle.marks bV (λw2 hw=>ee hk w2 hw)
 |ret=>exact ND a0.defers bV.defers.symm hle.marks bV (λw2 hw=>ee hk w2 hw)
end
section
variable{E:Env}
def LFun(L:G->Snap->(R:Type)->(Ex->Snap->O R)->O R):Prop:=
 ∀b s,∃o:O (Ex×Snap),∀(R:Type)(k:Ex->Snap->O R),L b s R k=o.bind λx=>k x.1 x.2
def Det{α:Type}(f:(R:Type)->(α->O R)->O R):Prop:=∃o:O α,∀(R:Type)(k:α->O R),f R k=o.bind k
theorem Det.val{α:Type}(x:α):Det (λ_ k=>k x):=⟨B x,λ_ _=>rfl⟩
theorem Det.no{α:Type}:Det (λR (_:α->O R)=>À):=⟨À,λ_ _=>rfl⟩
theorem Det.cond{α:Type}{f g:(R:Type)->(α->O R)->O R}(b:Æ)(h:Det f)(h':Det g):Det (λR k=>cond b (f R k) (g R k)):=by
 cases b with
 |true=>exact h
 |false=>exact h'
theorem Det.bind{α β:Type}{f:(R:Type)->(α->O R)->O R}{g:α->(R:Type)->(β->O R)->O R}(h:Det f)(h':∀a,Det (g a)):Det (λR k=>f R λa=>g a R k):=by
 obtain⟨o,ho⟩:=h;cases o with
 |none=>exact⟨À,λR k=>ho R _⟩
 |some a=>obtain⟨o',Ax⟩:=h' a;exact⟨o',λR k=>(ho R _).trans (Ax R k)⟩
theorem Det.congr{α:Type}{f g:(R:Type)->(α->O R)->O R}(h:Det f)(e:∀R k,g R k=f R k):Det g:=by
 obtain⟨o,ho⟩:=h;exact⟨o,λR k=>(e R k).trans (ho R k)⟩
theorem NH(hF:CFun E.C)(hz:E.nz=U)(p:Æ)(σ:St)(act:H (G×Æ))(o:Ã):Det (λR (k:St->O R)=>run1 E p σ act o k):=by
 unfold run1;simp only[hz,j7];split
 .exact .no
 .exact .cond _ (.val _) .no
 .rename_i f args mk _;refine Det.bind (f:=λR k=>E.C f args R k) (hF f args) λret=>?_;split
  .exact .val _
  .exact .no
theorem WY:∀(l:H (G×Æ))(σ:St),Det (λR (k:St×Æ->O R)=>xo l σ λa b=>k (a,b))
 |[],σ=> .val _
 |(s,w)::r,σ=>by
  simp only[xo]
  refine(Det.bind (WY r σ) (g:=λx R k=>match x.2 with
   |true=>match LN r x.1 s with
    |some v=>cond v (k (x.1.setS s (.one (.one (.d .bool X))),w)) (k (x.1.setS s (.one (.one (.d .bool U))), !w))
    |none=>À
   |false=>k (x.1,U)) λx=>?_).congr λR k=>rfl
  obtain⟨σ1,a⟩:=x;cases a with
  |true=>
   dsimp only
   split
   .exact .cond _ (.val _) (.val _)
   .exact .no
  |false=>exact .val _
theorem jzr(hF:CFun E.C)(hz:E.nz=U)(ops:Á Ã)(σ:St)(o:Ã):Det (λR (k:St->O R)=>Dj E ops σ o k):=by
 unfold Dj;split
 .split
  .exact NH hF hz _ _ _ _
  .exact .no
 .rename_i g _
  have sy:Det (λR (k:St->O R)=>xo (σ.chain 40 g) σ λσ' a=>match a with
    |true=>run1 E X σ' (σ.chain 40 g) o k
    |false=>k (σ'.put o.dst (.one (.one .dead)))):=by
   refine(Det.bind (WY (σ.chain 40 g) σ) (g:=λx R k=>match x.2 with
    |true=>run1 E X x.1 (σ.chain 40 g) o k
    |false=>k (x.1.put o.dst (.one (.one .dead)))) λx=>?_).congr λR k=>rfl
   obtain⟨σ1,a⟩:=x;cases a with
   |true=>exact NH hF hz _ _ _ _
   |false=>exact .val _
  dsimp only
  split
  .split
   .exact .cond _ (.val _) .no
   .exact sy
  .exact sy
theorem WZ(hF:CFun E.C)(hz:E.nz=U):∀(l:H Ã)(σ:St),Det (λR (k:St->O R)=>rO E l σ k)
 |[],σ=> .val _
 |o::os,σ=>by
  simp only[rO];split
  .exact Det.bind (NH hF hz U σ [] o) λσ'=>WZ hF hz os σ'
  .exact .no
theorem W0(hF:CFun E.C)(hz:E.nz=U)(ops:Á Ã):∀(l:H Ã)(σ:St),Det (λR (k:St->O R)=>BR E ops l σ k)
 |[],σ=> .val _
 |o::os,σ=>by
  simp only[BR];split
  .exact Det.bind (jzr hF hz ops σ o) λσ'=>W0 hF hz ops os σ'
  .exact .no
theorem juF(hF:CFun E.C)(hz:E.nz=U)(ops:Á Ã)(σ:St):Det (λR (k:St->O R)=>rP E ops σ k):=by
 unfold rP;split
 .exact WZ hF hz _ _
 .exact W0 hF hz _ _ _
theorem NI(hF:CFun E.C)(hz:E.nz=U)(M Ai:H G)(σ:St)(o:Ã):Det (λR (k:St->O R)=>runD E M Ai σ o k):=by
 unfold runD;split
 .exact .no
 .split
  .exact .cond _ (.val _) .no
  .exact .no
 .rename_i f args mk _;refine Det.bind (f:=λR k=>E.C f args R k) (hF f args) λret=>?_;split
  .split
   .exact .val _
   .exact .no
  .exact .no
theorem jxI(hF:CFun E.C)(hz:E.nz=U)(ops:Á Ã)(M Ai:H G)(σ:St)(o:Ã):Det (λR (k:St->O R)=>Dm E ops M Ai σ o k):=by
 unfold Dm;split
 .exact NI hF hz _ _ _ _
 .split
  .split
   .exact .cond _ (.cond _ (NI hF hz _ _ _ _) (.val _)) (.cond _ (.val _) (NI hF hz _ _ _ _))
   .exact .val _
   .exact .no
  .exact .no
theorem W7(hF:CFun E.C)(hz:E.nz=U)(ops:Á Ã)(cl:H G)(A:H (H G)):∀(l:H Ã)(i:G)(σ:St),Det (λR (k:St->O R)=>BT E ops cl A l i σ k)
 |[],_,σ=> .val _
 |o::os,i,σ=>by
  simp only[BT];split
  .exact Det.bind (jxI hF hz ops _ _ σ o) λσ'=>W7 hF hz ops cl A os (i+1) σ'
  .exact .no
theorem jsZ(hF:CFun E.C)(hz:E.nz=U)(ops:Á Ã)(A:H (H G))(σ:St):Det (λR (k:St->O R)=>Dn E ops A σ k):=by
 unfold Dn;split
 .exact W7 hF hz _ _ _ _ _ _
 .exact .no
theorem IA(hF:CFun E.C)(hz:E.nz=U)(hL:LFun E.L):∀(c:Ï)(b:G)(σ:St),Det (λR (k:Ex×St->O R)=>gx E b c σ λe σ'=>k (e,σ')):=by
 intro c;induction c with
 |skip=>intro b σ;exact .val _
 |region id ops draw=>
  intro b σ;cases draw with
  |true=>exact Det.bind (jsZ hF hz ops (E.dw id) σ) λσ'=> .val (Ex.normal,σ')
  |false=>exact Det.bind (juF hF hz ops σ) λσ'=> .val (Ex.normal,σ')
 |seq x y tx tz=>
  intro b σ;simp only[gx]
  refine(Det.bind (tx b σ) (g:=λz R k=>match z.1 with
   |.normal=>gx E b y z.2 λe σ'=>k (e,σ')
   |e=>k (e,z.2)) λz=>?_).congr λR k=>by
    congr 1
    try (funext e σ';cases e<;>rfl)
  obtain⟨e,σ'⟩:=z;cases e with
  |normal=>exact tz b σ'
  |exit i=>exact .val _
  |ret=>exact .val _
 |cond c x y tx tz=>
  intro b σ;simp only[gx];split
  .exact .cond _ (tx b σ) (tz b σ)
  .exact .no
 |block id c ih=>
  intro b σ
  refine(Det.bind (ih id σ) (g:=λz R k=>match z.1 with
   |.exit i=>if i=id then k (.normal,z.2) else k (.exit i,z.2)
   |e=>k (e,z.2)) λz=>?_).congr λR k=>by
    simp only[gx];congr 1;try (funext e σ';cases e<;>rfl)
  obtain⟨e,σ'⟩:=z;cases e with
  |normal=>exact .val _
  |exit i=>
   dsimp only
   split
   .exact .val _
   .exact .val _
  |ret=>exact .val _
 |loop c ih=>
  intro b σ;simp only[gx];refine .cond _ .no ?_;split
  .rename_i s _;obtain⟨o,ho⟩:=hL b s;exact Det.bind (f:=λR k=>E.L b s R λe s'=>k (e,s')) ⟨o,λR k=>ho R _⟩ (g:=λz R k=>k (z.1,dJ E.np (E.keepX b z.1) z.2)) λz=> .val _
  .exact .no
 |rangeFunc g ps x y _ _=>
  intro b σ;simp only[gx];split
  .split
   .rename_i kd _;split
    .rename_i s _;obtain⟨o,ho⟩:=hL b (.s (.one (.d (.int .i64) (Dr kd (Û _))))::s);exact Det.bind (f:=λR k=>E.L b _ R λe s'=>k (e,s')) ⟨o,λR k=>ho R _⟩ (g:=λz R k=>k (z.1,dJ E.np (E.keepX b z.1) z.2)) λz=> .val _
    .exact .no
   .exact .no
  .exact .no
 |scope c ih=>intro b σ;exact ih b σ
 |label l=>intro b σ;exact .val _
 |exit i=>intro b σ;exact .val _
 |ret=>intro b σ;exact .val _
 |_=>intro b σ;exact .no
theorem juG(hF:CFun E.C)(hz:E.nz=U)(hL:LFun E.L)(b:G)(g:Ë)(ps:Á G)(x y:Ï)(s:Snap) :
  Det (λR (k:O (H Item)×Ex×St->O R)=>Du E b g ps x y s λp e σ'=>k (p,e,σ')):=by
 unfold Du;split
 .rename_i n s0;split
  .split
   .rename_i kd _;refine .cond _ (.val _) (.cond _ ?_ .no)
    refine(Det.bind (IA (E:=E.rnd ps x y) hF hz hL x 0 _) (g:=λz R k=>match z.1 with
     |.normal=>gx (E.rnd ps x y) 0 y z.2 λe σ'=>k (B [.s (.one (.d (.int .i64) (Ds kd n)))],e,σ')
     |_=>À) λz=>?_).congr λR k=>by
      congr 1
      try (funext e σ';cases e<;>rfl)
    obtain⟨e,σ'⟩:=z;cases e with
    |normal=>exact Det.bind (IA (E:=E.rnd ps x y) hF hz hL y 0 σ') λz=> .val (_,z)
    |exit i=>exact .no
    |ret=>exact .no
   .exact .no
  .exact .no
 .exact .no
theorem jxJ(hF:CFun E.C)(hz:E.nz=U)(hL:LFun E.L)(fn:Func)(args:H Arg):Det (λR (k:Ret->O R)=>vD E fn args k):=by
 unfold vD;split
 .split
  .rename_i c _
   refine(Det.bind (IA hF hz hL c 0 (St.init args)) (g:=λz R k=>match z.1 with
    |.exit _=>À
    |_=>match zS E fn args z.2 with
     |some r=>k r
     |none=>À) λz=>?_).congr λR k=>rfl
   obtain⟨e,σ'⟩:=z;cases e<;>dsimp only<;>(try split)<;>first|exact .no|exact .val _
  .exact .no
 .exact .no
end
end Go.Lft
